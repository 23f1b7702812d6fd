/-
  Texts that the statement stands on, one behind the other: plain lemmas and walks of functions.
  No condition.
-/
import Derived.Test.YtlllcafedekojaaGreatDoorChecked
import Derived.Test.YtlllcafedekojaaGreatDoorMja
import Derived.Test.YtlllcafedekojaaGreatDoorMjb
import Derived.Test.YtlllcafedekojaaGreatDoorMjc
import Derived.Test.YtlllcafedekojaaGreatDoorMjd
set_option linter.unusedVariables false
set_option maxRecDepth 20000
namespace Go.Proofs.YtlllcafedekojaaGreatDoor.Dh
open Go Go.Fw

theorem sz287 : SizeT Tryz.prog 287 32 := (by unfold SizeT; kernel_rfl)
theorem sz53 : SizeT Tryz.prog 53 35 := (by unfold SizeT; kernel_rfl)
theorem sl25 : SlT Tryz.prog 25 53 35 := ⟨Tryz.underlying25, sz53⟩
theorem agg53 : AggT Tryz.prog 53 35 := ⟨⟨_, Tryz.underlying53, rfl⟩, by kernel_rfl⟩
theorem fok75 : FnOk Tryz.prog 75 := FnOk.mk' Tryz.func75 (by kernel_rfl) rfl
theorem fok54 : FnOk Tryz.prog 54 := FnOk.mk' Tryz.func54 (by kernel_rfl) rfl
theorem fok44 : FnOk Tryz.prog 44 := FnOk.mk' Tryz.func44 (by kernel_rfl) rfl
theorem fok53 : FnOk Tryz.prog 53 := FnOk.mk' Tryz.func53 (by kernel_rfl) rfl
theorem fok56 : FnOk Tryz.prog 56 := FnOk.mk' Tryz.func56 (by kernel_rfl) rfl
theorem fok45 : FnOk Tryz.prog 45 := FnOk.mk' Tryz.func45 (by kernel_rfl) rfl
theorem el53 : ElT Tryz.prog 53 35 176 (.agg ([.int .u8 0, .int .u8 0, .int .u8 0, .int .u8 0, .int .u8 0, .int .u8 0, .int .u8 0, .int .u8 0, .int .u8 0, .int .u8 0, .int .u8 0, .int .u8 0, .int .u8 0, .int .u8 0, .int .u8 0, .int .u8 0, .int .u8 0, .int .u8 0, .int .u8 0, .int .u8 0, .int .i64 0, .int .u64 0, .int .u64 0, .int .u64 0, .int .u64 0, .int .u64 0, .int .u64 0, .int .u64 0, .int .u64 0, .int .u64 0, .int .u64 0, .int .u64 0, .int .u64 0, .slice none 0 0, .slice none 0 0]).toArray) := ⟨by kernel_rfl, rfl, by decide, by decide⟩
theorem zero70 : ZeroT Tryz.prog 70 (.agg ([.int .u8 0, .int .u8 0, .int .u8 0, .int .u8 0, .int .u8 0, .int .u8 0, .int .u8 0, .int .u8 0, .int .u8 0, .int .u8 0, .int .u8 0, .int .u8 0, .int .u8 0, .int .u8 0, .int .u8 0, .int .u8 0, .int .u8 0, .int .u8 0, .int .u8 0, .int .u8 0, .int .i64 0, .int .u64 0, .int .u64 0, .int .u64 0, .int .u64 0, .int .u64 0, .int .u64 0, .int .u64 0, .int .u64 0, .slice none 0 0]).toArray) := (by unfold ZeroT; kernel_rfl)
theorem sz70 : SizeT Tryz.prog 70 30 := (by unfold SizeT; kernel_rfl)
theorem agg70 : AggT Tryz.prog 70 30 := ⟨⟨_, Tryz.underlying70, rfl⟩, by kernel_rfl⟩
theorem fok47 : FnOk Tryz.prog 47 := FnOk.mk' Tryz.func47 (by kernel_rfl) rfl

theorem Form (w : World) (n : Nat) (B : List (Option Nat)) (A1 : Option Addr) (c1 : Nat) (ds : List Ch) (hA : Cs w A1 (rowC ds)) (hd : AllC w n B ds) (hl : ds.length ≤ 1000000000000) :
    Calls Tryz.prog 53 [.slice A1 ds.length c1].toArray w fun e w' => e = .returned (.int .i64 (formZ (ds.map Ch.v))) ∧ WS w [] [] w' := by
  refine calls_of_T [] 32 [] Tryz.func53 rfl Tryz.ntmps53 (by simp) (WS.refl _ _) ?_
  refine T.seq ?_
  refine T.text [.l] rfl ?_
  refine J.assign rfl rfl ?_
  refine J.end ?_
  refine X.then ?_
  refine T.seq ?_
  refine T.seq ?_
  refine T.text [.l] rfl ?_
  refine J.assign rfl rfl ?_
  refine J.end ?_
  refine X.then ?_
  refine T.block ?_
  refine T.loop (ι := Nat) (fun (i : Nat) => i ≤ ds.length ∧ formZ (ds.map Ch.v) = formF (prevC (ds.map Ch.v) i) ((ds.map Ch.v).drop i)) (fun (i : Nat) => [(0, .slice A1 ds.length c1), (3, .int .i64 (i : Int))]) (fun (i : Nat) => []) (fun (i : Nat) => ds.length - i) 0 ⟨Nat.zero_le _, rfl⟩ (by repeat (first | exact Sub.nil _ | refine Sub.cons (by first | rfl | (rw [dgs_zero]; rfl) | (rw [List.drop_length]; rfl) | (simp; done) | (congr 2; omega) | (congr 3; omega)) ?_)) (by repeat (first | exact Sub.nil _ | refine Sub.cons (by first | rfl | (rw [dgs_zero]; rfl) | (rw [List.drop_length]; rfl) | (simp; done) | (congr 2; omega) | (congr 3; omega)) ?_)) ?_
  rintro i ⟨hi, hz⟩
  refine T.seq ?_
  refine T.seq ?_
  refine T.text [.l, .l, .l, .l] rfl ?_
  refine J.move rfl rfl ?_
  refine J.move rfl rfl ?_
  refine J.lenSl Tryz.underlying25 rfl rfl ?_
  refine J.lss rfl rfl rfl rfl ?_
  refine J.end ?_
  refine X.then ?_
  refine T.cond_dec rfl (fun h1 => ?_) (fun h1 => ?_)
  · have hi2 : i < ds.length := by omega
    have hst := form_step (cs := ds.map Ch.v) (i := i) (by rw [List.length_map]; exact hi2)
    rw [getD_map_v ds i hi2, getD_map_v ds (i - 1) (by omega), ← hz] at hst
    refine T.skip ?_
    refine X.then ?_
    refine T.seq ?_
    refine T.block ?_
    refine T.seq ?_
    refine T.seq ?_
    refine T.text [.l, .l, .l, .l, .l] rfl ?_
    refine J.move rfl rfl ?_
    refine J.move rfl rfl ?_
    refine J.indexSlI sl25 rfl (hA.isSome (by rw [rowC_length]; omega)) rfl (by omega) (by omega) (by first | exact Int.toNat_natCast _ | rfl) rfl ?_
    refine J.loadIN (k := .l) trivial hA (off_nil _) rfl agg53 ((ds.getD i default).cells) rfl (rowC_seg ds i (by omega)) rfl ?_
    refine J.call0 (k := .l) trivial fok75 rfl rfl (fun w hw => Dg.wrong w (ds.getD i default) ((hd.get (i := i) (by omega)).fo.cs.ws hw (off_nil _)) ((hd.get (i := i) (by omega)).fn.cs.ws hw (off_nil _)) (hd.get (i := i) (by omega)).dO (hd.get (i := i) (by omega)).dN) ?_
    refine J.end ?_
    refine X.then ?_
    refine T.cond_dec rfl (fun h2 => ?_) (fun h2 => ?_)
    · rw [if_pos h2] at hst
      refine T.seq ?_
      refine T.text [.l] rfl ?_
      refine J.assign rfl rfl ?_
      refine J.end ?_
      refine X.then ?_
      refine T.ret ?_
      refine X.then_ret (X.inBlock_ret (X.then_ret (X.then_ret (X.inBlock_ret (X.then_ret ?_)))))
      exact X.ret1 rfl (RV.tmp rfl) (fun w' hw' => by first | exact ⟨by rw [hst], hw'.sub (Sub.nil _)⟩ | exact ⟨by rw [hz4], hw'.sub (Sub.nil _)⟩)
    · rw [if_neg h2] at hst
      refine T.skip ?_
      refine X.then ?_
      refine T.seq ?_
      refine T.draw [] [(0, .g), (1, .g), (2, .g), (3, .g), (4, .g), (5, .g), (6, .g), (7, .q), (8, .q), (9, .g), (10, .g), (11, .g), (12, .q), (13, .q), (14, .q), (15, .g), (16, .g)] (by kernel_rfl) (by kernel_rfl) ?_ (by repeat (first | exact Sub.nil _ | refine Sub.cons (by first | rfl | (rw [dgs_zero]; rfl) | (rw [List.drop_length]; rfl) | (simp; done) | (congr 2; omega) | (congr 3; omega)) ?_))
      refine J.move rfl rfl ?_
      refine J.gtr rfl rfl rfl rfl ?_
      refine J.move rfl rfl ?_
      refine J.split 17 rfl (fun h3 => ?_) (fun h3 => ?_)
      · skip
        refine J.yes rfl rfl ?_
        refine J.move rfl rfl ?_
        refine J.yes rfl rfl ?_
        refine J.move rfl rfl ?_
        refine J.yes rfl rfl ?_
        refine J.sub' rfl rfl rfl (by exact sub_nat _ 1 (by omega)) ?_
        refine J.yes rfl rfl ?_
        refine J.indexSlI sl25 rfl (hA.isSome (by rw [rowC_length]; omega)) rfl (by omega) (by omega) (by first | exact Int.toNat_natCast _ | rfl) rfl ?_
        refine J.yes rfl rfl ?_
        refine J.loadIN (k := .q) trivial hA (off_nil _) rfl agg53 ((ds.getD (i - 1) default).cells) rfl (rowC_seg ds (i - 1) (by omega)) rfl ?_
        refine J.yes rfl rfl ?_
        refine J.call0 (k := .q) trivial fok54 rfl rfl (fun w hw => De.was w (ds.getD (i - 1) default)) ?_
        refine J.yes rfl rfl ?_
        refine J.move rfl rfl ?_
        refine J.yes rfl rfl ?_
        refine J.move rfl rfl ?_
        refine J.yes rfl rfl ?_
        refine J.indexSlI sl25 rfl (hA.isSome (by rw [rowC_length]; omega)) rfl (by omega) (by omega) (by first | exact Int.toNat_natCast _ | rfl) rfl ?_
        refine J.yes rfl rfl ?_
        refine J.loadIN (k := .q) trivial hA (off_nil _) rfl agg53 ((ds.getD i default).cells) rfl (rowC_seg ds i (by omega)) rfl ?_
        refine J.yes rfl rfl ?_
        refine J.call0 (k := .q) trivial fok54 rfl rfl (fun w hw => De.was w (ds.getD i default)) ?_
        refine J.yes rfl rfl ?_
        refine J.call0 (k := .q) trivial fok44 rfl rfl (fun w hw => De.order w _ _) ?_
        refine J.yes rfl rfl ?_
        refine J.geq rfl rfl rfl rfl ?_
        refine J.pick_t rfl rfl rfl ?_
        refine J.end ?_
        refine X.then ?_
        refine T.cond_dec rfl (fun h4 => ?_) (fun h4 => ?_)
        · rw [if_pos ⟨by omega, (ord_ge _ _).1 h4⟩] at hst
          refine T.seq ?_
          refine T.text [.l] rfl ?_
          refine J.assign rfl rfl ?_
          refine J.end ?_
          refine X.then ?_
          refine T.ret ?_
          refine X.inBlock_ret (X.then_ret (X.then_ret (X.inBlock_ret (X.then_ret ?_))))
          exact X.ret1 rfl (RV.tmp rfl) (fun w' hw' => by first | exact ⟨by rw [hst], hw'.sub (Sub.nil _)⟩ | exact ⟨by rw [hz4], hw'.sub (Sub.nil _)⟩)
        · have hz3 := hst
          rw [if_neg (fun q => h4 ((ord_ge _ _).2 q.2))] at hz3
          refine T.skip ?_
          refine X.inBlock (X.then ?_)
          refine T.text [.l, .l, .l] rfl ?_
          refine J.move rfl rfl ?_
          refine J.add rfl rfl rfl (by first | exact add_nat _ 1 (by omega) | exact i64_ok _ (by omega) | exact rfl) ?_
          refine J.assign rfl rfl ?_
          refine J.end ?_
          exact X.round (i + 1) ⟨by omega, hz3⟩ (by first | omega | (dsimp only; omega)) (by repeat (first | exact Sub.nil _ | refine Sub.cons (by first | rfl | (rw [dgs_zero]; rfl) | (rw [List.drop_length]; rfl) | (simp; done) | (congr 2; omega) | (congr 3; omega)) ?_)) (by repeat (first | exact Sub.nil _ | refine Sub.cons (by first | rfl | (rw [dgs_zero]; rfl) | (rw [List.drop_length]; rfl) | (simp; done) | (congr 2; omega) | (congr 3; omega)) ?_))
      · have hz3 := hst
        rw [if_neg (fun q => by have := q.1; omega)] at hz3
        refine J.no rfl rfl rfl rfl ?_
        refine J.no rfl rfl rfl rfl ?_
        refine J.no rfl rfl rfl rfl ?_
        refine J.no rfl rfl rfl rfl ?_
        refine J.no rfl rfl rfl rfl ?_
        refine J.no rfl rfl rfl rfl ?_
        refine J.no rfl rfl rfl rfl ?_
        refine J.no rfl rfl rfl rfl ?_
        refine J.no rfl rfl rfl rfl ?_
        refine J.no rfl rfl rfl rfl ?_
        refine J.no rfl rfl rfl rfl ?_
        refine J.no rfl rfl rfl rfl ?_
        refine J.no rfl rfl rfl rfl ?_
        refine J.pick_f rfl rfl rfl ?_
        refine J.end ?_
        refine X.then ?_
        refine T.cond_false rfl ?_
        refine T.skip ?_
        refine X.inBlock (X.then ?_)
        refine T.text [.l, .l, .l] rfl ?_
        refine J.move rfl rfl ?_
        refine J.add rfl rfl rfl (by first | exact add_nat _ 1 (by omega) | exact i64_ok _ (by omega) | exact rfl) ?_
        refine J.assign rfl rfl ?_
        refine J.end ?_
        exact X.round (i + 1) ⟨by omega, hz3⟩ (by first | omega | (dsimp only; omega)) (by repeat (first | exact Sub.nil _ | refine Sub.cons (by first | rfl | (rw [dgs_zero]; rfl) | (rw [List.drop_length]; rfl) | (simp; done) | (congr 2; omega) | (congr 3; omega)) ?_)) (by repeat (first | exact Sub.nil _ | refine Sub.cons (by first | rfl | (rw [dgs_zero]; rfl) | (rw [List.drop_length]; rfl) | (simp; done) | (congr 2; omega) | (congr 3; omega)) ?_))
  · obtain rfl : i = ds.length := by omega
    have hz4 := hz
    have hfe := form_end (ds.map Ch.v)
    rw [List.length_map] at hfe
    rw [hfe] at hz4
    refine T.exit ?_
    refine X.then_exit (X.then_exit (X.inBlock_eq (X.then ?_)))
    refine T.seq ?_
    refine T.text [.l] rfl ?_
    refine J.assign rfl rfl ?_
    refine J.end ?_
    refine X.then ?_
    refine T.ret ?_
    exact X.ret1 rfl (RV.tmp rfl) (fun w' hw' => by first | exact ⟨by rw [hst], hw'.sub (Sub.nil _)⟩ | exact ⟨by rw [hz4], hw'.sub (Sub.nil _)⟩)

set_option maxHeartbeats 4000000 in
theorem Join (w : World) (n : Nat) (B : List (Option Nat)) (A1 A2 : Option Addr) (c1 c2 : Nat) (ps bs : List Ch) (hn : n ≤ w.heap.size) (hB : ∀ g, some g ∈ B → g < w.heap.size) (hA1 : Cs w A1 (rowC ps)) (hd1 : AllC w n B ps) (hA2 : Cs w A2 (rowC bs)) (hd2 : AllC w n B bs) (hl1 : ps.length ≤ 1000000000) (hl2 : bs.length ≤ 1000000000) :
    Calls Tryz.prog 33 [.slice A1 ps.length c1, .slice A2 bs.length c2].toArray w fun e w' => ∃ q : List Ch × RowIx, (q.1.map Ch.v = (joinZ (ps.map Ch.v) (bs.map Ch.v)).1 ∧ q.2.Ok 35 q.1.length ∧ Fit w' n B (hdOf q.2.id) (rowC q.1) ∧ AllC w' n B q.1) ∧ e = .returned (.tuple #[q.2.val q.1.length, .int .i64 (joinZ (ps.map Ch.v) (bs.map Ch.v)).2]) ∧ WS w [] [] w' := by
  refine calls_of_T [] 138 [] Tryz.func33 rfl Tryz.ntmps33 (by simp) (WS.refl _ _) ?_
  refine T.seq ?_
  refine T.text [.l, .l] rfl ?_
  refine J.assign rfl rfl ?_
  refine J.assign rfl rfl ?_
  refine J.end ?_
  refine X.then ?_
  refine T.seq ?_
  refine T.text [.l, .l, .l] rfl ?_
  refine J.move rfl rfl ?_
  refine J.call0 (k := .l) trivial fok53 rfl rfl (fun w hw => Dh.Form w n B _ _ _ (hA1.ws hw (off_nil _)) (hd1.keep ((keep_base (l1 := []) hn (fun g hg => by cases hg) hw (Sub.nil _) rfl).le (fun o h => List.mem_append_left _ h))) (by omega)) ?_
  refine J.assign rfl rfl ?_
  refine J.end ?_
  refine X.then ?_
  refine T.seq ?_
  refine T.seq ?_
  refine T.text [.l, .l] rfl ?_
  refine J.move rfl rfl ?_
  refine J.neq rfl rfl rfl rfl ?_
  refine J.end ?_
  refine X.then ?_
  refine T.cond_dec rfl (fun h1 => ?_) (fun h1 => ?_)
  · have hne := h1
    refine T.seq ?_
    refine T.text [.l, .l, .l] rfl ?_
    refine J.move rfl rfl ?_
    refine J.assign rfl rfl ?_
    refine J.assign rfl rfl ?_
    refine J.end ?_
    refine X.then ?_
    refine T.ret ?_
    refine X.then_ret ?_
    exact X.ret2 rfl (RV.tmp rfl) (RV.tmp rfl) (fun w' hw' => by first | exact ⟨([], RowIx.nil), ⟨by rw [joinZ_a hne]; rfl, RowIx.nil_ok 35, Fit.nil, AllC.nil⟩, by rw [joinZ_a hne]; rfl, hw'.sub (Sub.nil _)⟩ | exact ⟨([], RowIx.nil), ⟨by rw [joinZ_b hfz1 hne2]; rfl, RowIx.nil_ok 35, Fit.nil, AllC.nil⟩, by rw [joinZ_b hfz1 hne2]; rfl, hw'.sub (Sub.nil _)⟩ | exact ⟨([], RowIx.nil), ⟨by rw [joinZ_no hfz1 hfz2 hjn]; rfl, RowIx.nil_ok 35, Fit.nil, AllC.nil⟩, by rw [joinZ_no hfz1 hfz2 hjn]; rfl, hw'.sub (Sub.nil _)⟩ | exact ⟨(zs, r), ⟨by rw [joinZ_ok hfz1 hfz2 (hj.trans (jn_end _ _ _))], hr, fit_row hw' (j := 7) rfl (fun g h => ⟨hB g h, fun q => by cases q⟩), hz.keep ((Keep.less (fun o h => h)).le (fun o h => List.mem_append_left _ h))⟩, by rw [joinZ_ok hfz1 hfz2 (hj.trans (jn_end _ _ _))], hw'.sub (Sub.nil _)⟩)
  · have hfz1 := Decidable.not_not.1 h1
    have hma := form_may hfz1
    refine T.skip ?_
    refine X.then ?_
    refine T.seq ?_
    refine T.text [.l, .l, .l] rfl ?_
    refine J.move rfl rfl ?_
    refine J.call0 (k := .l) trivial fok53 rfl rfl (fun w hw => Dh.Form w n B _ _ _ (hA2.ws hw (off_nil _)) (hd2.keep ((keep_base (l1 := []) hn (fun g hg => by cases hg) hw (Sub.nil _) rfl).le (fun o h => List.mem_append_left _ h))) (by omega)) ?_
    refine J.assign rfl rfl ?_
    refine J.end ?_
    refine X.then ?_
    refine T.seq ?_
    refine T.seq ?_
    refine T.text [.l, .l] rfl ?_
    refine J.move rfl rfl ?_
    refine J.neq rfl rfl rfl rfl ?_
    refine J.end ?_
    refine X.then ?_
    refine T.cond_dec rfl (fun h2 => ?_) (fun h2 => ?_)
    · have hne2 := h2
      refine T.seq ?_
      refine T.text [.l, .l, .l] rfl ?_
      refine J.move rfl rfl ?_
      refine J.assign rfl rfl ?_
      refine J.assign rfl rfl ?_
      refine J.end ?_
      refine X.then ?_
      refine T.ret ?_
      refine X.then_ret ?_
      exact X.ret2 rfl (RV.tmp rfl) (RV.tmp rfl) (fun w' hw' => by first | exact ⟨([], RowIx.nil), ⟨by rw [joinZ_a hne]; rfl, RowIx.nil_ok 35, Fit.nil, AllC.nil⟩, by rw [joinZ_a hne]; rfl, hw'.sub (Sub.nil _)⟩ | exact ⟨([], RowIx.nil), ⟨by rw [joinZ_b hfz1 hne2]; rfl, RowIx.nil_ok 35, Fit.nil, AllC.nil⟩, by rw [joinZ_b hfz1 hne2]; rfl, hw'.sub (Sub.nil _)⟩ | exact ⟨([], RowIx.nil), ⟨by rw [joinZ_no hfz1 hfz2 hjn]; rfl, RowIx.nil_ok 35, Fit.nil, AllC.nil⟩, by rw [joinZ_no hfz1 hfz2 hjn]; rfl, hw'.sub (Sub.nil _)⟩ | exact ⟨(zs, r), ⟨by rw [joinZ_ok hfz1 hfz2 (hj.trans (jn_end _ _ _))], hr, fit_row hw' (j := 7) rfl (fun g h => ⟨hB g h, fun q => by cases q⟩), hz.keep ((Keep.less (fun o h => h)).le (fun o h => List.mem_append_left _ h))⟩, by rw [joinZ_ok hfz1 hfz2 (hj.trans (jn_end _ _ _))], hw'.sub (Sub.nil _)⟩)
    · have hfz2 := Decidable.not_not.1 h2
      refine T.skip ?_
      refine X.then ?_
      refine T.seq ?_
      refine T.addNil 7 53 ?_
      refine T.text [.l] rfl ?_
      refine J.assign rfl rfl ?_
      refine J.end ?_
      refine X.then ?_
      refine T.seq ?_
      refine T.text [.l] rfl ?_
      refine J.assign rfl rfl ?_
      refine J.end ?_
      refine X.then ?_
      refine T.seq ?_
      refine T.seq ?_
      refine T.text [.l] rfl ?_
      refine J.assign rfl rfl ?_
      refine J.end ?_
      refine X.then ?_
      refine T.block ?_
      refine T.snap [(7, ⟨none, 53, []⟩)] (by repeat (first | exact Sub.nil _ | refine Sub.cons (by first | rfl | (rw [dgs_zero]; rfl) | (rw [List.drop_length]; rfl) | (simp; done) | (congr 2; omega) | (congr 3; omega)) ?_ | exact Sub.refl _ | refine sub_snap ?_ rfl)) rfl (fun Wl3 hWWl3 => ?_)
      have hVWl3 := hWWl3.sub (Sub.nil _)
      refine T.loop (ι := World × Nat × Nat × List Ch × RowIx) (fun ((W, i, k, zs, r) : World × Nat × Nat × List Ch × RowIx) => i ≤ ps.length ∧ k ≤ bs.length ∧ joinL (ps.map Ch.v) (bs.map Ch.v) = (jn ps bs i k).map (zs.map Ch.v ++ ·) ∧ zs.length + (ps.length - i) + (bs.length - k) ≤ 2000000000 ∧ r.Ok 35 zs.length ∧ WS w [] [] W ∧ AllC W n (B ++ [r.id]) zs) (fun ((W, i, k, zs, r) : World × Nat × Nat × List Ch × RowIx) => [(0, .slice A1 ps.length c1), (1, .slice A2 bs.length c2), (6, .int .i64 (formZ (bs.map Ch.v))), (9, .int .i64 ((i : Nat) : Int)), (8, .int .i64 ((k : Nat) : Int)), (7, r.val zs.length)]) (fun ((W, i, k, zs, r) : World × Nat × Nat × List Ch × RowIx) => ((7, r.ent 53 (rowC zs)) :: snapL W w.heap.size [r.id])) (fun ((W, i, k, zs, r) : World × Nat × Nat × List Ch × RowIx) => ps.length - i) ⟨Wl3, 0, 0, [], RowIx.nil⟩ ⟨Nat.zero_le _, Nat.zero_le _, jn_start ps bs, by show 0 + _ + _ ≤ _; omega, RowIx.nil_ok 35, hVWl3, AllC.nil⟩ (by repeat (first | exact Sub.nil _ | refine Sub.cons (by first | rfl | (rw [dgs_zero]; rfl) | (rw [List.drop_length]; rfl) | (simp; done) | (congr 2; omega) | (congr 3; omega)) ?_ | exact Sub.refl _ | refine sub_snap ?_ rfl)) (by repeat (first | exact Sub.nil _ | refine Sub.cons (by first | rfl | (rw [dgs_zero]; rfl) | (rw [List.drop_length]; rfl) | (simp; done) | (congr 2; omega) | (congr 3; omega)) ?_ | exact Sub.refl _ | refine sub_snap ?_ rfl)) ?_
      rintro ⟨W, i, k, zs, r⟩ ⟨hi, hk, hj, hlen, hr, hV, hz⟩
      try dsimp only at *
      refine T.seq ?_
      refine T.seq ?_
      refine T.text [.l, .l, .l, .l] rfl ?_
      refine J.move rfl rfl ?_
      refine J.move rfl rfl ?_
      refine J.lenSl Tryz.underlying25 rfl rfl ?_
      refine J.lss rfl rfl rfl rfl ?_
      refine J.end ?_
      refine X.then ?_
      refine T.cond_dec rfl (fun h4 => ?_) (fun h4 => ?_)
      · have hi2 : i < ps.length := by omega
        refine T.skip ?_
        refine X.then ?_
        refine T.seq ?_
        refine T.block ?_
        refine T.seq ?_
        refine T.block ?_
        refine T.snap [(7, r.ent 53 (rowC zs))] (by repeat (first | exact Sub.nil _ | refine Sub.cons (by first | rfl | (rw [dgs_zero]; rfl) | (rw [List.drop_length]; rfl) | (simp; done) | (congr 2; omega) | (congr 3; omega)) ?_ | exact Sub.refl _ | refine sub_snap ?_ rfl)) rfl (fun Wl5 hWWl5 => ?_)
        have kpWl5 := (keep_snap (I := [r.id]) (B0 := B) (l1 := [(7, r.ent 53 (rowC zs))]) hV hn (fun g hg => by cases hg) hWWl5 (by repeat (first | exact Sub.refl _ | refine sub_snap ?_ rfl)) (by repeat (first | exact Sub.nil _ | refine Sub.cons (by first | rfl | (rw [dgs_zero]; rfl) | (rw [List.drop_length]; rfl) | (simp; done) | (congr 2; omega) | (congr 3; omega)) ?_ | exact Sub.refl _ | refine sub_snap ?_ rfl)) rfl)
        have hz := hz.keep kpWl5
        have hVWl5 := hWWl5.sub (Sub.nil _)
        refine T.loop (ι := World × Nat × List Ch × RowIx) (fun ((W, k, zs, r) : World × Nat × List Ch × RowIx) => k ≤ bs.length ∧ joinL (ps.map Ch.v) (bs.map Ch.v) = (jn ps bs i k).map (zs.map Ch.v ++ ·) ∧ zs.length + (ps.length - i) + (bs.length - k) ≤ 2000000000 ∧ r.Ok 35 zs.length ∧ WS w [] [] W ∧ AllC W n (B ++ [r.id]) zs) (fun ((W, k, zs, r) : World × Nat × List Ch × RowIx) => [(0, .slice A1 ps.length c1), (1, .slice A2 bs.length c2), (6, .int .i64 (formZ (bs.map Ch.v))), (9, .int .i64 ((i : Nat) : Int)), (21, .int .i64 ((i : Nat) : Int)), (22, .slice A1 ps.length c1), (23, .int .i64 ((ps.length : Nat) : Int)), (8, .int .i64 ((k : Nat) : Int)), (7, r.val zs.length)]) (fun ((W, k, zs, r) : World × Nat × List Ch × RowIx) => ((7, r.ent 53 (rowC zs)) :: snapL W w.heap.size [r.id])) (fun ((W, k, zs, r) : World × Nat × List Ch × RowIx) => bs.length - k) ⟨Wl5, k, zs, r⟩ ⟨hk, hj, hlen, hr, hVWl5, hz⟩ (by repeat (first | exact Sub.nil _ | refine Sub.cons (by first | rfl | (rw [dgs_zero]; rfl) | (rw [List.drop_length]; rfl) | (simp; done) | (congr 2; omega) | (congr 3; omega)) ?_ | exact Sub.refl _ | refine sub_snap ?_ rfl)) (by repeat (first | exact Sub.nil _ | refine Sub.cons (by first | rfl | (rw [dgs_zero]; rfl) | (rw [List.drop_length]; rfl) | (simp; done) | (congr 2; omega) | (congr 3; omega)) ?_ | exact Sub.refl _ | refine sub_snap ?_ rfl)) ?_
        rintro ⟨W, k, zs, r⟩ ⟨hk, hj, hlen, hr, hV, hz⟩
        try dsimp only at *
        refine T.seq ?_
        refine T.seq ?_
        refine T.draw [] [(0, .g), (1, .g), (2, .g), (3, .g), (4, .g), (5, .g), (6, .g), (7, .g), (8, .q), (9, .q), (10, .g), (11, .g), (12, .g), (13, .q), (14, .q), (15, .q), (16, .g), (17, .g)] (by kernel_rfl) (by kernel_rfl) ?_ (by repeat (first | exact Sub.nil _ | refine Sub.cons (by first | rfl | (rw [dgs_zero]; rfl) | (rw [List.drop_length]; rfl) | (simp; done) | (congr 2; omega) | (congr 3; omega)) ?_ | exact Sub.refl _ | refine sub_snap ?_ rfl))
        refine J.move rfl rfl ?_
        refine J.move rfl rfl ?_
        refine J.lenSl Tryz.underlying25 rfl rfl ?_
        refine J.lss rfl rfl rfl rfl ?_
        refine J.move rfl rfl ?_
        refine J.split 31 rfl (fun h6 => ?_) (fun h6 => ?_)
        · have hk2 : k < bs.length := by omega
          refine J.yes rfl rfl ?_
          refine J.move rfl rfl ?_
          refine J.yes rfl rfl ?_
          refine J.move rfl rfl ?_
          refine J.yes rfl rfl ?_
          refine J.indexSlI sl25 rfl (hA2.isSome (by rw [rowC_length]; omega)) rfl (by omega) (by omega) (by first | exact Int.toNat_natCast _ | rfl) rfl ?_
          refine J.yes rfl rfl ?_
          refine J.loadIN (k := .q) trivial hA2 (off_nil _) rfl agg53 ((bs.getD k default).cells) rfl (rowC_seg bs k (by omega)) rfl ?_
          refine J.yes rfl rfl ?_
          refine J.call0 (k := .q) trivial fok54 rfl rfl (fun w hw => De.was w (bs.getD k default)) ?_
          refine J.yes rfl rfl ?_
          refine J.move rfl rfl ?_
          refine J.yes rfl rfl ?_
          refine J.move rfl rfl ?_
          refine J.yes rfl rfl ?_
          refine J.indexSlI sl25 rfl (hA1.isSome (by rw [rowC_length]; omega)) rfl (by omega) (by omega) (by first | exact Int.toNat_natCast _ | rfl) rfl ?_
          refine J.yes rfl rfl ?_
          refine J.loadIN (k := .q) trivial hA1 (off_nil _) rfl agg53 ((ps.getD i default).cells) rfl (rowC_seg ps i (by omega)) rfl ?_
          refine J.yes rfl rfl ?_
          refine J.call0 (k := .q) trivial fok54 rfl rfl (fun w hw => De.was w (ps.getD i default)) ?_
          refine J.yes rfl rfl ?_
          refine J.call0 (k := .q) trivial fok44 rfl rfl (fun w hw => De.order w _ _) ?_
          refine J.yes rfl rfl ?_
          refine J.lss rfl rfl rfl rfl ?_
          refine J.pick_t rfl rfl rfl ?_
          refine J.end ?_
          refine X.then ?_
          refine T.cond_dec rfl (fun h7 => ?_) (fun h7 => ?_)
          · have hol := h7
            refine T.skip ?_
            refine X.then ?_
            refine T.block ?_
            refine T.seq ?_
            refine T.draw [] [(0, .g), (1, .g), (2, .g), (3, .g), (4, .q), (5, .q), (6, .g), (7, .g), (8, .g), (9, .q), (10, .q), (11, .l), (12, .l), (13, .l), (14, .g)] (by kernel_rfl) (by kernel_rfl) ?_ (by repeat (first | exact Sub.nil _ | refine Sub.cons (by first | rfl | (rw [dgs_zero]; rfl) | (rw [List.drop_length]; rfl) | (simp; done) | (congr 2; omega) | (congr 3; omega)) ?_ | exact Sub.refl _ | refine sub_snap ?_ rfl))
            refine J.move rfl rfl ?_
            refine J.move rfl rfl ?_
            refine J.move rfl rfl ?_
            refine J.indexSlI sl25 rfl (hA2.isSome (by rw [rowC_length]; omega)) rfl (by omega) (by omega) (by first | exact Int.toNat_natCast _ | rfl) rfl ?_
            refine J.loadIN (k := .q) trivial hA2 (off_nil _) rfl agg53 ((bs.getD k default).cells) rfl (rowC_seg bs k (by omega)) rfl ?_
            refine J.call0 (k := .q) trivial fok54 rfl rfl (fun w hw => De.was w (bs.getD k default)) ?_
            refine J.move rfl rfl ?_
            refine J.move rfl rfl ?_
            refine J.indexSlI sl25 rfl (hA2.isSome (by rw [rowC_length]; omega)) rfl (by omega) (by omega) (by first | exact Int.toNat_natCast _ | rfl) rfl ?_
            refine J.loadIN (k := .q) trivial hA2 (off_nil _) rfl agg53 ((bs.getD k default).cells) rfl (rowC_seg bs k (by omega)) rfl ?_
            refine J.call0 (k := .q) trivial fok56 rfl rfl (fun w hw => De.is_ w (bs.getD k default)) ?_
            refine J.callB fok45 rfl rfl _ _ [(7, r.ent 53 (rowC zs))] (by repeat (first | exact Sub.nil _ | refine Sub.cons (by first | rfl | (rw [dgs_zero]; rfl) | (rw [List.drop_length]; rfl) | (simp; done) | (congr 2; omega) | (congr 3; omega)) ?_ | exact Sub.refl _ | refine sub_snap ?_ rfl)) rfl (fun _ _ => Sub.nil _) (fun w hw => De.from_ w n (B ++ ids [(7, r.ent 53 (rowC zs))]) _ _ (busy_lt (l1 := [(7, r.ent 53 (rowC zs))]) hB hw (by repeat (first | exact Sub.nil _ | refine Sub.cons (by first | rfl | (rw [dgs_zero]; rfl) | (rw [List.drop_length]; rfl) | (simp; done) | (congr 2; omega) | (congr 3; omega)) ?_ | exact Sub.refl _ | refine sub_snap ?_ rfl)) rfl) ((hd2.get hk2).was.keep (keep_base (B0 := B) (l1 := [(7, r.ent 53 (rowC zs))]) hn (fun g hg => by cases hg) hw (by repeat (first | exact Sub.nil _ | refine Sub.cons (by first | rfl | (rw [dgs_zero]; rfl) | (rw [List.drop_length]; rfl) | (simp; done) | (congr 2; omega) | (congr 3; omega)) ?_ | exact Sub.refl _ | refine sub_snap ?_ rfl)) rfl)) ((hd2.get hk2).is.keep (keep_base (B0 := B) (l1 := [(7, r.ent 53 (rowC zs))]) hn (fun g hg => by cases hg) hw (by repeat (first | exact Sub.nil _ | refine Sub.cons (by first | rfl | (rw [dgs_zero]; rfl) | (rw [List.drop_length]; rfl) | (simp; done) | (congr 2; omega) | (congr 3; omega)) ?_ | exact Sub.refl _ | refine sub_snap ?_ rfl)) rfl))) (fun i56 W56 hP56 hW56 => ?_)
            obtain ⟨hv56, hc56⟩ := hP56
            have kpW56 := (keep_snap (I := [r.id]) (B0 := B) (l1 := [(7, r.ent 53 (rowC zs))]) hV hn (fun g hg => by cases hg) hW56 (by repeat (first | exact Sub.refl _ | refine sub_snap ?_ rfl)) (by repeat (first | exact Sub.nil _ | refine Sub.cons (by first | rfl | (rw [dgs_zero]; rfl) | (rw [List.drop_length]; rfl) | (simp; done) | (congr 2; omega) | (congr 3; omega)) ?_ | exact Sub.refl _ | refine sub_snap ?_ rfl)) rfl)
            have hz := hz.keep kpW56
            have hVW56 := hW56.sub (Sub.nil _)
            refine J.lit1 57 rfl Tryz.underlying25 el53 (by decide) rfl (i56.cells) rfl rfl rfl (fun g57 hg57 => ?_)
            refine J.append 7 rfl Tryz.underlying25 el53 rfl hr (rowC_length zs) rfl rfl rfl (fun w hw => (hw.blkCs (k := 57) rfl)) (Ch.cells_one _) (by omega) (by unfold maxLen; omega) rfl (zs ++ [i56]).length (by rw [List.length_append]; rfl) (rowC (zs ++ [i56])) (rowC_snoc _ _).symm (fun r58 hr58 => ?_)
            refine J.assign rfl rfl ?_
            refine J.end ?_
            refine X.then ?_
            refine T.text [.l, .l, .l] rfl ?_
            refine J.move rfl rfl ?_
            refine J.add rfl rfl rfl (by first | exact add_nat _ 1 (by omega) | exact i64_ok _ (by omega) | exact rfl) ?_
            refine J.assign rfl rfl ?_
            refine J.end ?_
            refine X.inBlock ?_
            refine X.snap [(7, r58.ent 53 (rowC (zs ++ [i56])))] (by repeat (first | exact Sub.nil _ | refine Sub.cons (by first | rfl | (rw [dgs_zero]; rfl) | (rw [List.drop_length]; rfl) | (simp; done) | (congr 2; omega) | (congr 3; omega)) ?_ | exact Sub.refl _ | refine sub_snap ?_ rfl)) rfl (fun Wx8 hWWx8 => ?_)
            have kpWx8 := (keep_snap (I := [r.id]) (B0 := B) (l1 := [(7, r58.ent 53 (rowC (zs ++ [i56])))]) hVW56 hn (fun g hg => by cases hg) hWWx8 (by repeat (first | exact Sub.refl _ | refine sub_snap ?_ rfl)) (by repeat (first | exact Sub.nil _ | refine Sub.cons (by first | rfl | (rw [dgs_zero]; rfl) | (rw [List.drop_length]; rfl) | (simp; done) | (congr 2; omega) | (congr 3; omega)) ?_ | exact Sub.refl _ | refine sub_snap ?_ rfl)) rfl)
            have hz := hz.keep kpWx8
            have hc56 := hc56.keep kpWx8
            have hVWx8 := hWWx8.sub (Sub.nil _)
            exact X.round ⟨Wx8, (k + 1), (zs ++ [i56]), r58⟩ ⟨by show k + 1 ≤ _; omega, by rw [snoc_v, hv56]; exact join_push (hj.trans (congrArg (Option.map _) (jn_b hi2 hk2 hol))), by dsimp only; rw [List.length_append, List.length_singleton]; omega, hr58, hVWx8, hz.snoc hc56⟩ (by first | omega | (dsimp only; omega)) (by repeat (first | exact Sub.nil _ | refine Sub.cons (by first | rfl | (rw [dgs_zero]; rfl) | (rw [List.drop_length]; rfl) | (simp; done) | (congr 2; omega) | (congr 3; omega)) ?_ | exact Sub.refl _ | refine sub_snap ?_ rfl)) (by repeat (first | exact Sub.nil _ | refine Sub.cons (by first | rfl | (rw [dgs_zero]; rfl) | (rw [List.drop_length]; rfl) | (simp; done) | (congr 2; omega) | (congr 3; omega)) ?_ | exact Sub.refl _ | refine sub_snap ?_ rfl))
          · skip
            refine T.exit ?_
            refine X.then_exit (X.then_exit (X.inBlock_eq (X.then ?_)))
            refine T.seq ?_
            refine T.text [.l, .l, .l, .l, .l, .l, .l] rfl ?_
            refine J.move rfl rfl ?_
            refine J.move rfl rfl ?_
            refine J.indexSlI sl25 rfl (hA1.isSome (by rw [rowC_length]; omega)) rfl (by omega) (by omega) (by first | exact Int.toNat_natCast _ | rfl) rfl ?_
            refine J.loadIN (k := .l) trivial hA1 (off_nil _) rfl agg53 ((ps.getD i default).cells) rfl (rowC_seg ps i (by omega)) rfl ?_
            refine J.call0 (k := .l) trivial fok56 rfl rfl (fun w hw => De.is_ w (ps.getD i default)) ?_
            refine J.alloc 10 rfl zero70 [.int .u8 0, .int .u8 0, .int .u8 0, .int .u8 0, .int .u8 0, .int .u8 0, .int .u8 0, .int .u8 0, .int .u8 0, .int .u8 0, .int .u8 0, .int .u8 0, .int .u8 0, .int .u8 0, .int .u8 0, .int .u8 0, .int .u8 0, .int .u8 0, .int .u8 0, .int .u8 0, .int .i64 0, .int .u64 0, .int .u64 0, .int .u64 0, .int .u64 0, .int .u64 0, .int .u64 0, .int .u64 0, .int .u64 0, .slice none 0 0] rfl rfl (fun g10 hg10 => ?_)
            refine J.store 10 rfl rfl rfl rfl ((ps.getD i default).is.cells) rfl sz70 (Nat.le_of_ble_eq_true rfl) (by first | exact Sp.cells_one _) (Nat.zero_lt_succ _) trivial ((ps.getD i default).is.cells) rfl ?_
            refine J.end ?_
            refine X.then ?_
            refine T.seq ?_
            refine T.seq ?_
            refine T.draw [] [(0, .g), (1, .g), (2, .g), (3, .g), (4, .g), (5, .g), (6, .g), (7, .g), (8, .q), (9, .q), (10, .g), (11, .g), (12, .g), (13, .q), (14, .q), (15, .q), (16, .g), (17, .g)] (by kernel_rfl) (by kernel_rfl) ?_ (by repeat (first | exact Sub.nil _ | refine Sub.cons (by first | rfl | (rw [dgs_zero]; rfl) | (rw [List.drop_length]; rfl) | (simp; done) | (congr 2; omega) | (congr 3; omega)) ?_ | exact Sub.refl _ | refine sub_snap ?_ rfl))
            refine J.move rfl rfl ?_
            refine J.move rfl rfl ?_
            refine J.lenSl Tryz.underlying25 rfl rfl ?_
            refine J.lss rfl rfl rfl (decide_eq_true (by first | omega | rfl | assumption | (simp only [*]; done))) ?_
            refine J.move rfl rfl ?_
            refine J.yes rfl rfl ?_
            refine J.move rfl rfl ?_
            refine J.yes rfl rfl ?_
            refine J.move rfl rfl ?_
            refine J.yes rfl rfl ?_
            refine J.indexSlI sl25 rfl (hA2.isSome (by rw [rowC_length]; omega)) rfl (by omega) (by omega) (by first | exact Int.toNat_natCast _ | rfl) rfl ?_
            refine J.yes rfl rfl ?_
            refine J.loadIN (k := .q) trivial hA2 (off_nil _) rfl agg53 ((bs.getD k default).cells) rfl (rowC_seg bs k (by omega)) rfl ?_
            refine J.yes rfl rfl ?_
            refine J.call0 (k := .q) trivial fok54 rfl rfl (fun w hw => De.was w (bs.getD k default)) ?_
            refine J.yes rfl rfl ?_
            refine J.move rfl rfl ?_
            refine J.yes rfl rfl ?_
            refine J.move rfl rfl ?_
            refine J.yes rfl rfl ?_
            refine J.indexSlI sl25 rfl (hA1.isSome (by rw [rowC_length]; omega)) rfl (by omega) (by omega) (by first | exact Int.toNat_natCast _ | rfl) rfl ?_
            refine J.yes rfl rfl ?_
            refine J.loadIN (k := .q) trivial hA1 (off_nil _) rfl agg53 ((ps.getD i default).cells) rfl (rowC_seg ps i (by omega)) rfl ?_
            refine J.yes rfl rfl ?_
            refine J.call0 (k := .q) trivial fok54 rfl rfl (fun w hw => De.was w (ps.getD i default)) ?_
            refine J.yes rfl rfl ?_
            refine J.call0 (k := .q) trivial fok44 rfl rfl (fun w hw => De.order w _ _) ?_
            refine J.yes rfl rfl ?_
            refine J.eql rfl rfl rfl rfl ?_
            refine J.pick_t rfl rfl rfl ?_
            refine J.end ?_
            refine X.then ?_
            refine T.cond_dec rfl (fun h9 => ?_) (fun h9 => ?_)
            · have hz0 := h9
              refine T.seq ?_
              refine T.seq ?_
              refine T.draw [] [(0, .q), (1, .g), (2, .g), (3, .g), (4, .q), (5, .q), (6, .q), (7, .g)] (by kernel_rfl) (by kernel_rfl) ?_ (by repeat (first | exact Sub.nil _ | refine Sub.cons (by first | rfl | (rw [dgs_zero]; rfl) | (rw [List.drop_length]; rfl) | (simp; done) | (congr 2; omega) | (congr 3; omega)) ?_ | exact Sub.refl _ | refine sub_snap ?_ rfl))
              refine J.loadN (k := .q) trivial 10 rfl rfl agg70 ((ps.getD i default).is.cells) rfl rfl rfl ?_
              refine J.move rfl rfl ?_
              refine J.move rfl rfl ?_
              refine J.indexSlI sl25 rfl (hA2.isSome (by rw [rowC_length]; omega)) rfl (by omega) (by omega) (by first | exact Int.toNat_natCast _ | rfl) rfl ?_
              refine J.loadIN (k := .q) trivial hA2 (off_nil _) rfl agg53 ((bs.getD k default).cells) rfl (rowC_seg bs k (by omega)) rfl ?_
              refine J.call0 (k := .q) trivial fok54 rfl rfl (fun w hw => De.was w (bs.getD k default)) ?_
              refine J.call0 (k := .q) trivial fok47 rfl rfl (fun w hw => De.same w (ps.getD i default).is (bs.getD k default).was ((hd1.get hi2).fn.cs.ws hw (off_nil _)) ((hd2.get hk2).fo.cs.ws hw (off_nil _)) (hd1.get hi2).dN (hd2.get hk2).dO) ?_
              refine J.not rfl rfl (by rw [← decide_not]) ?_
              refine J.end ?_
              refine X.then ?_
              refine T.cond_dec rfl (fun h10 => ?_) (fun h10 => ?_)
              · have hjn := hj.trans (congrArg (Option.map _) (jn_no hi2 hk2 hz0 h10))
                refine T.seq ?_
                refine T.text [.l, .l] rfl ?_
                refine J.assign rfl rfl ?_
                refine J.assign rfl rfl ?_
                refine J.end ?_
                refine X.then ?_
                refine T.ret ?_
                refine X.then_ret (X.then_ret (X.inBlock_ret (X.then_ret (X.then_ret (X.inBlock_ret (X.then_ret ?_))))))
                exact X.ret2 rfl (RV.tmp rfl) (RV.tmp rfl) (fun w' hw' => by first | exact ⟨([], RowIx.nil), ⟨by rw [joinZ_a hne]; rfl, RowIx.nil_ok 35, Fit.nil, AllC.nil⟩, by rw [joinZ_a hne]; rfl, hw'.sub (Sub.nil _)⟩ | exact ⟨([], RowIx.nil), ⟨by rw [joinZ_b hfz1 hne2]; rfl, RowIx.nil_ok 35, Fit.nil, AllC.nil⟩, by rw [joinZ_b hfz1 hne2]; rfl, hw'.sub (Sub.nil _)⟩ | exact ⟨([], RowIx.nil), ⟨by rw [joinZ_no hfz1 hfz2 hjn]; rfl, RowIx.nil_ok 35, Fit.nil, AllC.nil⟩, by rw [joinZ_no hfz1 hfz2 hjn]; rfl, hw'.sub (Sub.nil _)⟩ | exact ⟨(zs, r), ⟨by rw [joinZ_ok hfz1 hfz2 (hj.trans (jn_end _ _ _))], hr, fit_row hw' (j := 7) rfl (fun g h => ⟨hB g h, fun q => by cases q⟩), hz.keep (((keep_snap (I := [r.id]) (B0 := B) (l1 := []) hV hn (fun g hg => by cases hg) hw' (by repeat (first | exact Sub.refl _ | refine sub_snap ?_ rfl)) (Sub.nil _) rfl)).le (fun o h => List.mem_append_left _ h))⟩, by rw [joinZ_ok hfz1 hfz2 (hj.trans (jn_end _ _ _))], hw'.sub (Sub.nil _)⟩)
              · have hmt := Decidable.not_not.1 h10
                refine T.skip ?_
                refine X.then ?_
                refine T.seq ?_
                refine T.text [.l, .l, .l, .l, .l, .l] rfl ?_
                refine J.move rfl rfl ?_
                refine J.move rfl rfl ?_
                refine J.indexSlI sl25 rfl (hA2.isSome (by rw [rowC_length]; omega)) rfl (by omega) (by omega) (by first | exact Int.toNat_natCast _ | rfl) rfl ?_
                refine J.loadIN (k := .l) trivial hA2 (off_nil _) rfl agg53 ((bs.getD k default).cells) rfl (rowC_seg bs k (by omega)) rfl ?_
                refine J.call0 (k := .l) trivial fok56 rfl rfl (fun w hw => De.is_ w (bs.getD k default)) ?_
                refine J.store 10 rfl rfl rfl rfl ((bs.getD k default).is.cells) rfl sz70 (Nat.le_of_ble_eq_true rfl) (by first | exact Sp.cells_one _) (Nat.zero_lt_succ _) trivial ((bs.getD k default).is.cells) rfl ?_
                refine J.end ?_
                refine X.then ?_
                refine T.text [.l, .l, .l] rfl ?_
                refine J.move rfl rfl ?_
                refine J.add rfl rfl rfl (by exact i64_ok _ (by omega)) ?_
                refine J.as 98 (.int .i64 ((k + 1 : Nat) : Int)) rfl (by congr 1) ?_
                refine J.assign rfl rfl ?_
                refine J.end ?_
                refine X.then ?_
                refine T.seq ?_
                refine T.draw [] [(0, .g), (1, .g), (2, .g), (3, .q), (4, .q), (5, .q), (6, .q), (7, .g)] (by kernel_rfl) (by kernel_rfl) ?_ (by repeat (first | exact Sub.nil _ | refine Sub.cons (by first | rfl | (rw [dgs_zero]; rfl) | (rw [List.drop_length]; rfl) | (simp; done) | (congr 2; omega) | (congr 3; omega)) ?_ | exact Sub.refl _ | refine sub_snap ?_ rfl))
                refine J.move rfl rfl ?_
                refine J.move rfl rfl ?_
                refine J.indexSlI sl25 rfl (hA1.isSome (by rw [rowC_length]; omega)) rfl (by omega) (by omega) (by first | exact Int.toNat_natCast _ | rfl) rfl ?_
                refine J.loadIN (k := .q) trivial hA1 (off_nil _) rfl agg53 ((ps.getD i default).cells) rfl (rowC_seg ps i (by omega)) rfl ?_
                refine J.call0 (k := .q) trivial fok54 rfl rfl (fun w hw => De.was w (ps.getD i default)) ?_
                refine J.loadN (k := .q) trivial 10 rfl rfl agg70 ((bs.getD k default).is.cells) rfl rfl rfl ?_
                refine J.call0 (k := .q) trivial fok47 rfl rfl (fun w hw => De.same w (ps.getD i default).was ((bs.getD k default).is) ((hd1.get hi2).fo.cs.ws hw (off_nil _)) ((hd2.get hk2).fn.cs.ws hw (off_nil _)) (hd1.get hi2).dO (hd2.get hk2).dN) ?_
                refine J.not rfl rfl (by rw [← decide_not]) ?_
                refine J.end ?_
                refine X.then ?_
                refine T.cond_dec rfl (fun h11 => ?_) (fun h11 => ?_)
                · have hid := h11
                  refine T.draw [] [(0, .g), (1, .g), (2, .g), (3, .g), (4, .q), (5, .q), (6, .q), (7, .l), (8, .l), (9, .l), (10, .g)] (by kernel_rfl) (by kernel_rfl) ?_ (by repeat (first | exact Sub.nil _ | refine Sub.cons (by first | rfl | (rw [dgs_zero]; rfl) | (rw [List.drop_length]; rfl) | (simp; done) | (congr 2; omega) | (congr 3; omega)) ?_ | exact Sub.refl _ | refine sub_snap ?_ rfl))
                  refine J.move rfl rfl ?_
                  refine J.move rfl rfl ?_
                  refine J.move rfl rfl ?_
                  refine J.indexSlI sl25 rfl (hA1.isSome (by rw [rowC_length]; omega)) rfl (by omega) (by omega) (by first | exact Int.toNat_natCast _ | rfl) rfl ?_
                  refine J.loadIN (k := .q) trivial hA1 (off_nil _) rfl agg53 ((ps.getD i default).cells) rfl (rowC_seg ps i (by omega)) rfl ?_
                  refine J.call0 (k := .q) trivial fok54 rfl rfl (fun w hw => De.was w (ps.getD i default)) ?_
                  refine J.loadN (k := .q) trivial 10 rfl rfl agg70 ((bs.getD k default).is.cells) rfl rfl rfl ?_
                  refine J.callB fok45 rfl rfl _ _ [(7, r.ent 53 (rowC zs)), (10, ⟨some g10, 70, ((bs.getD k default).is.cells)⟩)] (by repeat (first | exact Sub.nil _ | refine Sub.cons (by first | rfl | (rw [dgs_zero]; rfl) | (rw [List.drop_length]; rfl) | (simp; done) | (congr 2; omega) | (congr 3; omega)) ?_ | exact Sub.refl _ | refine sub_snap ?_ rfl)) rfl (fun _ _ => Sub.nil _) (fun w hw => De.from_ w n (B ++ ids [(7, r.ent 53 (rowC zs)), (10, ⟨some g10, 70, ((bs.getD k default).is.cells)⟩)]) _ _ (busy_lt (l1 := [(7, r.ent 53 (rowC zs)), (10, ⟨some g10, 70, ((bs.getD k default).is.cells)⟩)]) hB hw (by repeat (first | exact Sub.nil _ | refine Sub.cons (by first | rfl | (rw [dgs_zero]; rfl) | (rw [List.drop_length]; rfl) | (simp; done) | (congr 2; omega) | (congr 3; omega)) ?_ | exact Sub.refl _ | refine sub_snap ?_ rfl)) rfl) ((hd1.get hi2).was.keep (keep_base (B0 := B) (l1 := [(7, r.ent 53 (rowC zs)), (10, ⟨some g10, 70, ((bs.getD k default).is.cells)⟩)]) hn (fun g hg => by cases hg) hw (by repeat (first | exact Sub.nil _ | refine Sub.cons (by first | rfl | (rw [dgs_zero]; rfl) | (rw [List.drop_length]; rfl) | (simp; done) | (congr 2; omega) | (congr 3; omega)) ?_ | exact Sub.refl _ | refine sub_snap ?_ rfl)) rfl)) ((hd2.get hk2).is.keep (keep_base (B0 := B) (l1 := [(7, r.ent 53 (rowC zs)), (10, ⟨some g10, 70, ((bs.getD k default).is.cells)⟩)]) hn (fun g hg => by cases hg) hw (by repeat (first | exact Sub.nil _ | refine Sub.cons (by first | rfl | (rw [dgs_zero]; rfl) | (rw [List.drop_length]; rfl) | (simp; done) | (congr 2; omega) | (congr 3; omega)) ?_ | exact Sub.refl _ | refine sub_snap ?_ rfl)) rfl))) (fun i114 W114 hP114 hW114 => ?_)
                  obtain ⟨hv114, hc114⟩ := hP114
                  have kpW114 := (keep_snap (I := [r.id]) (B0 := B) (l1 := [(7, r.ent 53 (rowC zs)), (10, ⟨some g10, 70, ((bs.getD k default).is.cells)⟩)]) hV hn (fun g hg => by cases hg) hW114 (by repeat (first | exact Sub.refl _ | refine sub_snap ?_ rfl)) (by repeat (first | exact Sub.nil _ | refine Sub.cons (by first | rfl | (rw [dgs_zero]; rfl) | (rw [List.drop_length]; rfl) | (simp; done) | (congr 2; omega) | (congr 3; omega)) ?_ | exact Sub.refl _ | refine sub_snap ?_ rfl)) rfl)
                  have hz := hz.keep kpW114
                  have hVW114 := hW114.sub (Sub.nil _)
                  refine J.lit1 115 rfl Tryz.underlying25 el53 (by decide) rfl (i114.cells) rfl rfl rfl (fun g115 hg115 => ?_)
                  refine J.append 7 rfl Tryz.underlying25 el53 rfl hr (rowC_length zs) rfl rfl rfl (fun w hw => (hw.blkCs (k := 115) rfl)) (Ch.cells_one _) (by omega) (by unfold maxLen; omega) rfl (zs ++ [i114]).length (by rw [List.length_append]; rfl) (rowC (zs ++ [i114])) (rowC_snoc _ _).symm (fun r116 hr116 => ?_)
                  refine J.assign rfl rfl ?_
                  refine J.end ?_
                  refine X.inBlock (X.then ?_)
                  refine T.text [.l, .l, .l] rfl ?_
                  refine J.move rfl rfl ?_
                  refine J.add rfl rfl rfl (by first | exact add_nat _ 1 (by omega) | exact i64_ok _ (by omega) | exact rfl) ?_
                  refine J.assign rfl rfl ?_
                  refine J.end ?_
                  refine X.snap [(7, r116.ent 53 (rowC (zs ++ [i114])))] (by repeat (first | exact Sub.nil _ | refine Sub.cons (by first | rfl | (rw [dgs_zero]; rfl) | (rw [List.drop_length]; rfl) | (simp; done) | (congr 2; omega) | (congr 3; omega)) ?_ | exact Sub.refl _ | refine sub_snap ?_ rfl)) rfl (fun Wx12 hWWx12 => ?_)
                  have kpWx12 := (keep_snap (I := [r.id, some g10]) (B0 := B) (l1 := [(7, r116.ent 53 (rowC (zs ++ [i114])))]) hVW114 hn (fun g hg => by cases hg) hWWx12 (by repeat (first | exact Sub.refl _ | refine sub_snap ?_ rfl)) (by repeat (first | exact Sub.nil _ | refine Sub.cons (by first | rfl | (rw [dgs_zero]; rfl) | (rw [List.drop_length]; rfl) | (simp; done) | (congr 2; omega) | (congr 3; omega)) ?_ | exact Sub.refl _ | refine sub_snap ?_ rfl)) rfl)
                  have hz := hz.keep kpWx12
                  have hc114 := hc114.keep kpWx12
                  have hVWx12 := hWWx12.sub (Sub.nil _)
                  exact X.round ⟨Wx12, (i + 1), (k + 1), (zs ++ [i114]), r116⟩ ⟨by show i + 1 ≤ _; omega, by dsimp only; omega, (by rw [snoc_v, hv114]; exact join_push (hj.trans (congrArg (Option.map _) (jn_both hi2 hk2 hz0 hmt hid)))), by dsimp only; first | (rw [List.length_append, List.length_singleton]; omega) | omega, hr116, hVWx12, (hz.snoc hc114)⟩ (by first | omega | (dsimp only; omega)) (by repeat (first | exact Sub.nil _ | refine Sub.cons (by first | rfl | (rw [dgs_zero]; rfl) | (rw [List.drop_length]; rfl) | (simp; done) | (congr 2; omega) | (congr 3; omega)) ?_ | exact Sub.refl _ | refine sub_snap ?_ rfl)) (by repeat (first | exact Sub.nil _ | refine Sub.cons (by first | rfl | (rw [dgs_zero]; rfl) | (rw [List.drop_length]; rfl) | (simp; done) | (congr 2; omega) | (congr 3; omega)) ?_ | exact Sub.refl _ | refine sub_snap ?_ rfl))
                · have hid := Decidable.not_not.1 h11
                  refine T.skip ?_
                  refine X.inBlock (X.then ?_)
                  refine T.text [.l, .l, .l] rfl ?_
                  refine J.move rfl rfl ?_
                  refine J.add rfl rfl rfl (by first | exact add_nat _ 1 (by omega) | exact i64_ok _ (by omega) | exact rfl) ?_
                  refine J.assign rfl rfl ?_
                  refine J.end ?_
                  refine X.snap [(7, r.ent 53 (rowC zs))] (by repeat (first | exact Sub.nil _ | refine Sub.cons (by first | rfl | (rw [dgs_zero]; rfl) | (rw [List.drop_length]; rfl) | (simp; done) | (congr 2; omega) | (congr 3; omega)) ?_ | exact Sub.refl _ | refine sub_snap ?_ rfl)) rfl (fun Wx13 hWWx13 => ?_)
                  have kpWx13 := (keep_snap (I := [r.id]) (B0 := B) (l1 := [(7, r.ent 53 (rowC zs))]) hV hn (fun g hg => by cases hg) hWWx13 (by repeat (first | exact Sub.refl _ | refine sub_snap ?_ rfl)) (by repeat (first | exact Sub.nil _ | refine Sub.cons (by first | rfl | (rw [dgs_zero]; rfl) | (rw [List.drop_length]; rfl) | (simp; done) | (congr 2; omega) | (congr 3; omega)) ?_ | exact Sub.refl _ | refine sub_snap ?_ rfl)) rfl)
                  have hz := hz.keep kpWx13
                  have hVWx13 := hWWx13.sub (Sub.nil _)
                  exact X.round ⟨Wx13, (i + 1), (k + 1), zs, r⟩ ⟨by show i + 1 ≤ _; omega, by dsimp only; omega, (hj.trans (congrArg (Option.map _) (jn_idle hi2 hk2 hz0 hmt hid))), by dsimp only; first | (rw [List.length_append, List.length_singleton]; omega) | omega, hr, hVWx13, hz⟩ (by first | omega | (dsimp only; omega)) (by repeat (first | exact Sub.nil _ | refine Sub.cons (by first | rfl | (rw [dgs_zero]; rfl) | (rw [List.drop_length]; rfl) | (simp; done) | (congr 2; omega) | (congr 3; omega)) ?_ | exact Sub.refl _ | refine sub_snap ?_ rfl)) (by repeat (first | exact Sub.nil _ | refine Sub.cons (by first | rfl | (rw [dgs_zero]; rfl) | (rw [List.drop_length]; rfl) | (simp; done) | (congr 2; omega) | (congr 3; omega)) ?_ | exact Sub.refl _ | refine sub_snap ?_ rfl))
            · skip
              refine T.skip ?_
              refine X.then ?_
              refine T.seq ?_
              refine T.draw [] [(0, .g), (1, .g), (2, .g), (3, .q), (4, .q), (5, .q), (6, .q), (7, .g)] (by kernel_rfl) (by kernel_rfl) ?_ (by repeat (first | exact Sub.nil _ | refine Sub.cons (by first | rfl | (rw [dgs_zero]; rfl) | (rw [List.drop_length]; rfl) | (simp; done) | (congr 2; omega) | (congr 3; omega)) ?_ | exact Sub.refl _ | refine sub_snap ?_ rfl))
              refine J.move rfl rfl ?_
              refine J.move rfl rfl ?_
              refine J.indexSlI sl25 rfl (hA1.isSome (by rw [rowC_length]; omega)) rfl (by omega) (by omega) (by first | exact Int.toNat_natCast _ | rfl) rfl ?_
              refine J.loadIN (k := .q) trivial hA1 (off_nil _) rfl agg53 ((ps.getD i default).cells) rfl (rowC_seg ps i (by omega)) rfl ?_
              refine J.call0 (k := .q) trivial fok54 rfl rfl (fun w hw => De.was w (ps.getD i default)) ?_
              refine J.loadN (k := .q) trivial 10 rfl rfl agg70 ((ps.getD i default).is.cells) rfl rfl rfl ?_
              refine J.call0 (k := .q) trivial fok47 rfl rfl (fun w hw => De.same w (ps.getD i default).was ((ps.getD i default).is) ((hd1.get hi2).fo.cs.ws hw (off_nil _)) ((hd1.get hi2).fn.cs.ws hw (off_nil _)) (hd1.get hi2).dO (hd1.get hi2).dN) ?_
              refine J.not rfl rfl (by rw [← decide_not]) ?_
              refine J.end ?_
              refine X.then ?_
              refine T.cond_dec rfl (fun h14 => ?_) (fun h14 => ?_)
              · skip
                refine T.draw [] [(0, .g), (1, .g), (2, .g), (3, .g), (4, .q), (5, .q), (6, .q), (7, .l), (8, .l), (9, .l), (10, .g)] (by kernel_rfl) (by kernel_rfl) ?_ (by repeat (first | exact Sub.nil _ | refine Sub.cons (by first | rfl | (rw [dgs_zero]; rfl) | (rw [List.drop_length]; rfl) | (simp; done) | (congr 2; omega) | (congr 3; omega)) ?_ | exact Sub.refl _ | refine sub_snap ?_ rfl))
                refine J.move rfl rfl ?_
                refine J.move rfl rfl ?_
                refine J.move rfl rfl ?_
                refine J.indexSlI sl25 rfl (hA1.isSome (by rw [rowC_length]; omega)) rfl (by omega) (by omega) (by first | exact Int.toNat_natCast _ | rfl) rfl ?_
                refine J.loadIN (k := .q) trivial hA1 (off_nil _) rfl agg53 ((ps.getD i default).cells) rfl (rowC_seg ps i (by omega)) rfl ?_
                refine J.call0 (k := .q) trivial fok54 rfl rfl (fun w hw => De.was w (ps.getD i default)) ?_
                refine J.loadN (k := .q) trivial 10 rfl rfl agg70 ((ps.getD i default).is.cells) rfl rfl rfl ?_
                refine J.callB fok45 rfl rfl _ _ [(7, r.ent 53 (rowC zs)), (10, ⟨some g10, 70, ((ps.getD i default).is.cells)⟩)] (by repeat (first | exact Sub.nil _ | refine Sub.cons (by first | rfl | (rw [dgs_zero]; rfl) | (rw [List.drop_length]; rfl) | (simp; done) | (congr 2; omega) | (congr 3; omega)) ?_ | exact Sub.refl _ | refine sub_snap ?_ rfl)) rfl (fun _ _ => Sub.nil _) (fun w hw => De.from_ w n (B ++ ids [(7, r.ent 53 (rowC zs)), (10, ⟨some g10, 70, ((ps.getD i default).is.cells)⟩)]) _ _ (busy_lt (l1 := [(7, r.ent 53 (rowC zs)), (10, ⟨some g10, 70, ((ps.getD i default).is.cells)⟩)]) hB hw (by repeat (first | exact Sub.nil _ | refine Sub.cons (by first | rfl | (rw [dgs_zero]; rfl) | (rw [List.drop_length]; rfl) | (simp; done) | (congr 2; omega) | (congr 3; omega)) ?_ | exact Sub.refl _ | refine sub_snap ?_ rfl)) rfl) ((hd1.get hi2).was.keep (keep_base (B0 := B) (l1 := [(7, r.ent 53 (rowC zs)), (10, ⟨some g10, 70, ((ps.getD i default).is.cells)⟩)]) hn (fun g hg => by cases hg) hw (by repeat (first | exact Sub.nil _ | refine Sub.cons (by first | rfl | (rw [dgs_zero]; rfl) | (rw [List.drop_length]; rfl) | (simp; done) | (congr 2; omega) | (congr 3; omega)) ?_ | exact Sub.refl _ | refine sub_snap ?_ rfl)) rfl)) ((hd1.get hi2).is.keep (keep_base (B0 := B) (l1 := [(7, r.ent 53 (rowC zs)), (10, ⟨some g10, 70, ((ps.getD i default).is.cells)⟩)]) hn (fun g hg => by cases hg) hw (by repeat (first | exact Sub.nil _ | refine Sub.cons (by first | rfl | (rw [dgs_zero]; rfl) | (rw [List.drop_length]; rfl) | (simp; done) | (congr 2; omega) | (congr 3; omega)) ?_ | exact Sub.refl _ | refine sub_snap ?_ rfl)) rfl))) (fun i114 W114 hP114 hW114 => ?_)
                obtain ⟨hv114, hc114⟩ := hP114
                have kpW114 := (keep_snap (I := [r.id]) (B0 := B) (l1 := [(7, r.ent 53 (rowC zs)), (10, ⟨some g10, 70, ((ps.getD i default).is.cells)⟩)]) hV hn (fun g hg => by cases hg) hW114 (by repeat (first | exact Sub.refl _ | refine sub_snap ?_ rfl)) (by repeat (first | exact Sub.nil _ | refine Sub.cons (by first | rfl | (rw [dgs_zero]; rfl) | (rw [List.drop_length]; rfl) | (simp; done) | (congr 2; omega) | (congr 3; omega)) ?_ | exact Sub.refl _ | refine sub_snap ?_ rfl)) rfl)
                have hz := hz.keep kpW114
                have hVW114 := hW114.sub (Sub.nil _)
                refine J.lit1 115 rfl Tryz.underlying25 el53 (by decide) rfl (i114.cells) rfl rfl rfl (fun g115 hg115 => ?_)
                refine J.append 7 rfl Tryz.underlying25 el53 rfl hr (rowC_length zs) rfl rfl rfl (fun w hw => (hw.blkCs (k := 115) rfl)) (Ch.cells_one _) (by omega) (by unfold maxLen; omega) rfl (zs ++ [i114]).length (by rw [List.length_append]; rfl) (rowC (zs ++ [i114])) (rowC_snoc _ _).symm (fun r116 hr116 => ?_)
                refine J.assign rfl rfl ?_
                refine J.end ?_
                refine X.inBlock (X.then ?_)
                refine T.text [.l, .l, .l] rfl ?_
                refine J.move rfl rfl ?_
                refine J.add rfl rfl rfl (by first | exact add_nat _ 1 (by omega) | exact i64_ok _ (by omega) | exact rfl) ?_
                refine J.assign rfl rfl ?_
                refine J.end ?_
                refine X.snap [(7, r116.ent 53 (rowC (zs ++ [i114])))] (by repeat (first | exact Sub.nil _ | refine Sub.cons (by first | rfl | (rw [dgs_zero]; rfl) | (rw [List.drop_length]; rfl) | (simp; done) | (congr 2; omega) | (congr 3; omega)) ?_ | exact Sub.refl _ | refine sub_snap ?_ rfl)) rfl (fun Wx15 hWWx15 => ?_)
                have kpWx15 := (keep_snap (I := [r.id, some g10]) (B0 := B) (l1 := [(7, r116.ent 53 (rowC (zs ++ [i114])))]) hVW114 hn (fun g hg => by cases hg) hWWx15 (by repeat (first | exact Sub.refl _ | refine sub_snap ?_ rfl)) (by repeat (first | exact Sub.nil _ | refine Sub.cons (by first | rfl | (rw [dgs_zero]; rfl) | (rw [List.drop_length]; rfl) | (simp; done) | (congr 2; omega) | (congr 3; omega)) ?_ | exact Sub.refl _ | refine sub_snap ?_ rfl)) rfl)
                have hz := hz.keep kpWx15
                have hc114 := hc114.keep kpWx15
                have hVWx15 := hWWx15.sub (Sub.nil _)
                exact X.round ⟨Wx15, (i + 1), k, (zs ++ [i114]), r116⟩ ⟨by show i + 1 ≤ _; omega, by dsimp only; omega, (by rw [snoc_v, hv114]; exact join_push (hj.trans (congrArg (Option.map _) (jn_a hi2 (fun _ => by omega))))), by dsimp only; first | (rw [List.length_append, List.length_singleton]; omega) | omega, hr116, hVWx15, (hz.snoc hc114)⟩ (by first | omega | (dsimp only; omega)) (by repeat (first | exact Sub.nil _ | refine Sub.cons (by first | rfl | (rw [dgs_zero]; rfl) | (rw [List.drop_length]; rfl) | (simp; done) | (congr 2; omega) | (congr 3; omega)) ?_ | exact Sub.refl _ | refine sub_snap ?_ rfl)) (by repeat (first | exact Sub.nil _ | refine Sub.cons (by first | rfl | (rw [dgs_zero]; rfl) | (rw [List.drop_length]; rfl) | (simp; done) | (congr 2; omega) | (congr 3; omega)) ?_ | exact Sub.refl _ | refine sub_snap ?_ rfl))
              · exact absurd (Decidable.not_not.1 h14) (may_get hma hi2).2
        · obtain rfl : k = bs.length := by omega
          refine J.no rfl rfl rfl rfl ?_
          refine J.no rfl rfl rfl rfl ?_
          refine J.no rfl rfl rfl rfl ?_
          refine J.no rfl rfl rfl rfl ?_
          refine J.no rfl rfl rfl rfl ?_
          refine J.no rfl rfl rfl rfl ?_
          refine J.no rfl rfl rfl rfl ?_
          refine J.no rfl rfl rfl rfl ?_
          refine J.no rfl rfl rfl rfl ?_
          refine J.no rfl rfl rfl rfl ?_
          refine J.no rfl rfl rfl rfl ?_
          refine J.no rfl rfl rfl rfl ?_
          refine J.pick_f rfl rfl rfl ?_
          refine J.end ?_
          refine X.then ?_
          refine T.cond_false rfl ?_
          refine T.exit ?_
          refine X.then_exit (X.then_exit (X.inBlock_eq (X.then ?_)))
          refine T.seq ?_
          refine T.text [.l, .l, .l, .l, .l, .l, .l] rfl ?_
          refine J.move rfl rfl ?_
          refine J.move rfl rfl ?_
          refine J.indexSlI sl25 rfl (hA1.isSome (by rw [rowC_length]; omega)) rfl (by omega) (by omega) (by first | exact Int.toNat_natCast _ | rfl) rfl ?_
          refine J.loadIN (k := .l) trivial hA1 (off_nil _) rfl agg53 ((ps.getD i default).cells) rfl (rowC_seg ps i (by omega)) rfl ?_
          refine J.call0 (k := .l) trivial fok56 rfl rfl (fun w hw => De.is_ w (ps.getD i default)) ?_
          refine J.alloc 10 rfl zero70 [.int .u8 0, .int .u8 0, .int .u8 0, .int .u8 0, .int .u8 0, .int .u8 0, .int .u8 0, .int .u8 0, .int .u8 0, .int .u8 0, .int .u8 0, .int .u8 0, .int .u8 0, .int .u8 0, .int .u8 0, .int .u8 0, .int .u8 0, .int .u8 0, .int .u8 0, .int .u8 0, .int .i64 0, .int .u64 0, .int .u64 0, .int .u64 0, .int .u64 0, .int .u64 0, .int .u64 0, .int .u64 0, .int .u64 0, .slice none 0 0] rfl rfl (fun g10 hg10 => ?_)
          refine J.store 10 rfl rfl rfl rfl ((ps.getD i default).is.cells) rfl sz70 (Nat.le_of_ble_eq_true rfl) (by first | exact Sp.cells_one _) (Nat.zero_lt_succ _) trivial ((ps.getD i default).is.cells) rfl ?_
          refine J.end ?_
          refine X.then ?_
          refine T.seq ?_
          refine T.seq ?_
          refine T.draw [] [(0, .g), (1, .g), (2, .g), (3, .g), (4, .g), (5, .g), (6, .g), (7, .g), (8, .q), (9, .q), (10, .g), (11, .g), (12, .g), (13, .q), (14, .q), (15, .q), (16, .g), (17, .g)] (by kernel_rfl) (by kernel_rfl) ?_ (by repeat (first | exact Sub.nil _ | refine Sub.cons (by first | rfl | (rw [dgs_zero]; rfl) | (rw [List.drop_length]; rfl) | (simp; done) | (congr 2; omega) | (congr 3; omega)) ?_ | exact Sub.refl _ | refine sub_snap ?_ rfl))
          refine J.move rfl rfl ?_
          refine J.move rfl rfl ?_
          refine J.lenSl Tryz.underlying25 rfl rfl ?_
          refine J.lss rfl rfl rfl (decide_eq_false (by first | omega | rfl | assumption | (simp only [*]; done))) ?_
          refine J.move rfl rfl ?_
          refine J.no rfl rfl rfl rfl ?_
          refine J.no rfl rfl rfl rfl ?_
          refine J.no rfl rfl rfl rfl ?_
          refine J.no rfl rfl rfl rfl ?_
          refine J.no rfl rfl rfl rfl ?_
          refine J.no rfl rfl rfl rfl ?_
          refine J.no rfl rfl rfl rfl ?_
          refine J.no rfl rfl rfl rfl ?_
          refine J.no rfl rfl rfl rfl ?_
          refine J.no rfl rfl rfl rfl ?_
          refine J.no rfl rfl rfl rfl ?_
          refine J.no rfl rfl rfl rfl ?_
          refine J.pick_f rfl rfl rfl ?_
          refine J.end ?_
          refine X.then ?_
          refine T.cond_false rfl ?_
          refine T.skip ?_
          refine X.then ?_
          refine T.seq ?_
          refine T.draw [] [(0, .g), (1, .g), (2, .g), (3, .q), (4, .q), (5, .q), (6, .q), (7, .g)] (by kernel_rfl) (by kernel_rfl) ?_ (by repeat (first | exact Sub.nil _ | refine Sub.cons (by first | rfl | (rw [dgs_zero]; rfl) | (rw [List.drop_length]; rfl) | (simp; done) | (congr 2; omega) | (congr 3; omega)) ?_ | exact Sub.refl _ | refine sub_snap ?_ rfl))
          refine J.move rfl rfl ?_
          refine J.move rfl rfl ?_
          refine J.indexSlI sl25 rfl (hA1.isSome (by rw [rowC_length]; omega)) rfl (by omega) (by omega) (by first | exact Int.toNat_natCast _ | rfl) rfl ?_
          refine J.loadIN (k := .q) trivial hA1 (off_nil _) rfl agg53 ((ps.getD i default).cells) rfl (rowC_seg ps i (by omega)) rfl ?_
          refine J.call0 (k := .q) trivial fok54 rfl rfl (fun w hw => De.was w (ps.getD i default)) ?_
          refine J.loadN (k := .q) trivial 10 rfl rfl agg70 ((ps.getD i default).is.cells) rfl rfl rfl ?_
          refine J.call0 (k := .q) trivial fok47 rfl rfl (fun w hw => De.same w (ps.getD i default).was ((ps.getD i default).is) ((hd1.get hi2).fo.cs.ws hw (off_nil _)) ((hd1.get hi2).fn.cs.ws hw (off_nil _)) (hd1.get hi2).dO (hd1.get hi2).dN) ?_
          refine J.not rfl rfl (by rw [← decide_not]) ?_
          refine J.end ?_
          refine X.then ?_
          refine T.cond_dec rfl (fun h16 => ?_) (fun h16 => ?_)
          · skip
            refine T.draw [] [(0, .g), (1, .g), (2, .g), (3, .g), (4, .q), (5, .q), (6, .q), (7, .l), (8, .l), (9, .l), (10, .g)] (by kernel_rfl) (by kernel_rfl) ?_ (by repeat (first | exact Sub.nil _ | refine Sub.cons (by first | rfl | (rw [dgs_zero]; rfl) | (rw [List.drop_length]; rfl) | (simp; done) | (congr 2; omega) | (congr 3; omega)) ?_ | exact Sub.refl _ | refine sub_snap ?_ rfl))
            refine J.move rfl rfl ?_
            refine J.move rfl rfl ?_
            refine J.move rfl rfl ?_
            refine J.indexSlI sl25 rfl (hA1.isSome (by rw [rowC_length]; omega)) rfl (by omega) (by omega) (by first | exact Int.toNat_natCast _ | rfl) rfl ?_
            refine J.loadIN (k := .q) trivial hA1 (off_nil _) rfl agg53 ((ps.getD i default).cells) rfl (rowC_seg ps i (by omega)) rfl ?_
            refine J.call0 (k := .q) trivial fok54 rfl rfl (fun w hw => De.was w (ps.getD i default)) ?_
            refine J.loadN (k := .q) trivial 10 rfl rfl agg70 ((ps.getD i default).is.cells) rfl rfl rfl ?_
            refine J.callB fok45 rfl rfl _ _ [(7, r.ent 53 (rowC zs)), (10, ⟨some g10, 70, ((ps.getD i default).is.cells)⟩)] (by repeat (first | exact Sub.nil _ | refine Sub.cons (by first | rfl | (rw [dgs_zero]; rfl) | (rw [List.drop_length]; rfl) | (simp; done) | (congr 2; omega) | (congr 3; omega)) ?_ | exact Sub.refl _ | refine sub_snap ?_ rfl)) rfl (fun _ _ => Sub.nil _) (fun w hw => De.from_ w n (B ++ ids [(7, r.ent 53 (rowC zs)), (10, ⟨some g10, 70, ((ps.getD i default).is.cells)⟩)]) _ _ (busy_lt (l1 := [(7, r.ent 53 (rowC zs)), (10, ⟨some g10, 70, ((ps.getD i default).is.cells)⟩)]) hB hw (by repeat (first | exact Sub.nil _ | refine Sub.cons (by first | rfl | (rw [dgs_zero]; rfl) | (rw [List.drop_length]; rfl) | (simp; done) | (congr 2; omega) | (congr 3; omega)) ?_ | exact Sub.refl _ | refine sub_snap ?_ rfl)) rfl) ((hd1.get hi2).was.keep (keep_base (B0 := B) (l1 := [(7, r.ent 53 (rowC zs)), (10, ⟨some g10, 70, ((ps.getD i default).is.cells)⟩)]) hn (fun g hg => by cases hg) hw (by repeat (first | exact Sub.nil _ | refine Sub.cons (by first | rfl | (rw [dgs_zero]; rfl) | (rw [List.drop_length]; rfl) | (simp; done) | (congr 2; omega) | (congr 3; omega)) ?_ | exact Sub.refl _ | refine sub_snap ?_ rfl)) rfl)) ((hd1.get hi2).is.keep (keep_base (B0 := B) (l1 := [(7, r.ent 53 (rowC zs)), (10, ⟨some g10, 70, ((ps.getD i default).is.cells)⟩)]) hn (fun g hg => by cases hg) hw (by repeat (first | exact Sub.nil _ | refine Sub.cons (by first | rfl | (rw [dgs_zero]; rfl) | (rw [List.drop_length]; rfl) | (simp; done) | (congr 2; omega) | (congr 3; omega)) ?_ | exact Sub.refl _ | refine sub_snap ?_ rfl)) rfl))) (fun i114 W114 hP114 hW114 => ?_)
            obtain ⟨hv114, hc114⟩ := hP114
            have kpW114 := (keep_snap (I := [r.id]) (B0 := B) (l1 := [(7, r.ent 53 (rowC zs)), (10, ⟨some g10, 70, ((ps.getD i default).is.cells)⟩)]) hV hn (fun g hg => by cases hg) hW114 (by repeat (first | exact Sub.refl _ | refine sub_snap ?_ rfl)) (by repeat (first | exact Sub.nil _ | refine Sub.cons (by first | rfl | (rw [dgs_zero]; rfl) | (rw [List.drop_length]; rfl) | (simp; done) | (congr 2; omega) | (congr 3; omega)) ?_ | exact Sub.refl _ | refine sub_snap ?_ rfl)) rfl)
            have hz := hz.keep kpW114
            have hVW114 := hW114.sub (Sub.nil _)
            refine J.lit1 115 rfl Tryz.underlying25 el53 (by decide) rfl (i114.cells) rfl rfl rfl (fun g115 hg115 => ?_)
            refine J.append 7 rfl Tryz.underlying25 el53 rfl hr (rowC_length zs) rfl rfl rfl (fun w hw => (hw.blkCs (k := 115) rfl)) (Ch.cells_one _) (by omega) (by unfold maxLen; omega) rfl (zs ++ [i114]).length (by rw [List.length_append]; rfl) (rowC (zs ++ [i114])) (rowC_snoc _ _).symm (fun r116 hr116 => ?_)
            refine J.assign rfl rfl ?_
            refine J.end ?_
            refine X.inBlock (X.then ?_)
            refine T.text [.l, .l, .l] rfl ?_
            refine J.move rfl rfl ?_
            refine J.add rfl rfl rfl (by first | exact add_nat _ 1 (by omega) | exact i64_ok _ (by omega) | exact rfl) ?_
            refine J.assign rfl rfl ?_
            refine J.end ?_
            refine X.snap [(7, r116.ent 53 (rowC (zs ++ [i114])))] (by repeat (first | exact Sub.nil _ | refine Sub.cons (by first | rfl | (rw [dgs_zero]; rfl) | (rw [List.drop_length]; rfl) | (simp; done) | (congr 2; omega) | (congr 3; omega)) ?_ | exact Sub.refl _ | refine sub_snap ?_ rfl)) rfl (fun Wx17 hWWx17 => ?_)
            have kpWx17 := (keep_snap (I := [r.id, some g10]) (B0 := B) (l1 := [(7, r116.ent 53 (rowC (zs ++ [i114])))]) hVW114 hn (fun g hg => by cases hg) hWWx17 (by repeat (first | exact Sub.refl _ | refine sub_snap ?_ rfl)) (by repeat (first | exact Sub.nil _ | refine Sub.cons (by first | rfl | (rw [dgs_zero]; rfl) | (rw [List.drop_length]; rfl) | (simp; done) | (congr 2; omega) | (congr 3; omega)) ?_ | exact Sub.refl _ | refine sub_snap ?_ rfl)) rfl)
            have hz := hz.keep kpWx17
            have hc114 := hc114.keep kpWx17
            have hVWx17 := hWWx17.sub (Sub.nil _)
            exact X.round ⟨Wx17, (i + 1), bs.length, (zs ++ [i114]), r116⟩ ⟨by show i + 1 ≤ _; omega, by dsimp only; omega, (by rw [snoc_v, hv114]; exact join_push (hj.trans (congrArg (Option.map _) (jn_a hi2 (fun _ => by omega))))), by dsimp only; first | (rw [List.length_append, List.length_singleton]; omega) | omega, hr116, hVWx17, (hz.snoc hc114)⟩ (by first | omega | (dsimp only; omega)) (by repeat (first | exact Sub.nil _ | refine Sub.cons (by first | rfl | (rw [dgs_zero]; rfl) | (rw [List.drop_length]; rfl) | (simp; done) | (congr 2; omega) | (congr 3; omega)) ?_ | exact Sub.refl _ | refine sub_snap ?_ rfl)) (by repeat (first | exact Sub.nil _ | refine Sub.cons (by first | rfl | (rw [dgs_zero]; rfl) | (rw [List.drop_length]; rfl) | (simp; done) | (congr 2; omega) | (congr 3; omega)) ?_ | exact Sub.refl _ | refine sub_snap ?_ rfl))
          · exact absurd (Decidable.not_not.1 h16) (may_get hma hi2).2
      · obtain rfl : i = ps.length := by omega
        refine T.exit ?_
        refine X.then_exit (X.then_exit (X.inBlock_eq (X.then ?_)))
        refine T.seq ?_
        refine T.block ?_
        refine T.snap [(7, r.ent 53 (rowC zs))] (by repeat (first | exact Sub.nil _ | refine Sub.cons (by first | rfl | (rw [dgs_zero]; rfl) | (rw [List.drop_length]; rfl) | (simp; done) | (congr 2; omega) | (congr 3; omega)) ?_ | exact Sub.refl _ | refine sub_snap ?_ rfl)) rfl (fun Wl18 hWWl18 => ?_)
        have kpWl18 := (keep_snap (I := [r.id]) (B0 := B) (l1 := [(7, r.ent 53 (rowC zs))]) hV hn (fun g hg => by cases hg) hWWl18 (by repeat (first | exact Sub.refl _ | refine sub_snap ?_ rfl)) (by repeat (first | exact Sub.nil _ | refine Sub.cons (by first | rfl | (rw [dgs_zero]; rfl) | (rw [List.drop_length]; rfl) | (simp; done) | (congr 2; omega) | (congr 3; omega)) ?_ | exact Sub.refl _ | refine sub_snap ?_ rfl)) rfl)
        have hz := hz.keep kpWl18
        have hVWl18 := hWWl18.sub (Sub.nil _)
        refine T.loop (ι := World × Nat × List Ch × RowIx) (fun ((W, k, zs, r) : World × Nat × List Ch × RowIx) => k ≤ bs.length ∧ joinL (ps.map Ch.v) (bs.map Ch.v) = (jn ps bs ps.length k).map (zs.map Ch.v ++ ·) ∧ zs.length + (ps.length - ps.length) + (bs.length - k) ≤ 2000000000 ∧ r.Ok 35 zs.length ∧ WS w [] [] W ∧ AllC W n (B ++ [r.id]) zs) (fun ((W, k, zs, r) : World × Nat × List Ch × RowIx) => [(0, .slice A1 ps.length c1), (1, .slice A2 bs.length c2), (6, .int .i64 (formZ (bs.map Ch.v))), (9, .int .i64 ((ps.length : Nat) : Int)), (8, .int .i64 ((k : Nat) : Int)), (7, r.val zs.length)]) (fun ((W, k, zs, r) : World × Nat × List Ch × RowIx) => ((7, r.ent 53 (rowC zs)) :: snapL W w.heap.size [r.id])) (fun ((W, k, zs, r) : World × Nat × List Ch × RowIx) => bs.length - k) ⟨Wl18, k, zs, r⟩ ⟨hk, hj, hlen, hr, hVWl18, hz⟩ (by repeat (first | exact Sub.nil _ | refine Sub.cons (by first | rfl | (rw [dgs_zero]; rfl) | (rw [List.drop_length]; rfl) | (simp; done) | (congr 2; omega) | (congr 3; omega)) ?_ | exact Sub.refl _ | refine sub_snap ?_ rfl)) (by repeat (first | exact Sub.nil _ | refine Sub.cons (by first | rfl | (rw [dgs_zero]; rfl) | (rw [List.drop_length]; rfl) | (simp; done) | (congr 2; omega) | (congr 3; omega)) ?_ | exact Sub.refl _ | refine sub_snap ?_ rfl)) ?_
        rintro ⟨W, k, zs, r⟩ ⟨hk, hj, hlen, hr, hV, hz⟩
        try dsimp only at *
        refine T.seq ?_
        refine T.seq ?_
        refine T.text [.l, .l, .l, .l] rfl ?_
        refine J.move rfl rfl ?_
        refine J.move rfl rfl ?_
        refine J.lenSl Tryz.underlying25 rfl rfl ?_
        refine J.lss rfl rfl rfl rfl ?_
        refine J.end ?_
        refine X.then ?_
        refine T.cond_dec rfl (fun h19 => ?_) (fun h19 => ?_)
        · have hk2 : k < bs.length := by omega
          refine T.skip ?_
          refine X.then ?_
          refine T.block ?_
          refine T.seq ?_
          refine T.draw [] [(0, .g), (1, .g), (2, .g), (3, .g), (4, .q), (5, .q), (6, .g), (7, .g), (8, .g), (9, .q), (10, .q), (11, .l), (12, .l), (13, .l), (14, .g)] (by kernel_rfl) (by kernel_rfl) ?_ (by repeat (first | exact Sub.nil _ | refine Sub.cons (by first | rfl | (rw [dgs_zero]; rfl) | (rw [List.drop_length]; rfl) | (simp; done) | (congr 2; omega) | (congr 3; omega)) ?_ | exact Sub.refl _ | refine sub_snap ?_ rfl))
          refine J.move rfl rfl ?_
          refine J.move rfl rfl ?_
          refine J.move rfl rfl ?_
          refine J.indexSlI sl25 rfl (hA2.isSome (by rw [rowC_length]; omega)) rfl (by omega) (by omega) (by first | exact Int.toNat_natCast _ | rfl) rfl ?_
          refine J.loadIN (k := .q) trivial hA2 (off_nil _) rfl agg53 ((bs.getD k default).cells) rfl (rowC_seg bs k (by omega)) rfl ?_
          refine J.call0 (k := .q) trivial fok54 rfl rfl (fun w hw => De.was w (bs.getD k default)) ?_
          refine J.move rfl rfl ?_
          refine J.move rfl rfl ?_
          refine J.indexSlI sl25 rfl (hA2.isSome (by rw [rowC_length]; omega)) rfl (by omega) (by omega) (by first | exact Int.toNat_natCast _ | rfl) rfl ?_
          refine J.loadIN (k := .q) trivial hA2 (off_nil _) rfl agg53 ((bs.getD k default).cells) rfl (rowC_seg bs k (by omega)) rfl ?_
          refine J.call0 (k := .q) trivial fok56 rfl rfl (fun w hw => De.is_ w (bs.getD k default)) ?_
          refine J.callB fok45 rfl rfl _ _ [(7, r.ent 53 (rowC zs))] (by repeat (first | exact Sub.nil _ | refine Sub.cons (by first | rfl | (rw [dgs_zero]; rfl) | (rw [List.drop_length]; rfl) | (simp; done) | (congr 2; omega) | (congr 3; omega)) ?_ | exact Sub.refl _ | refine sub_snap ?_ rfl)) rfl (fun _ _ => Sub.nil _) (fun w hw => De.from_ w n (B ++ ids [(7, r.ent 53 (rowC zs))]) _ _ (busy_lt (l1 := [(7, r.ent 53 (rowC zs))]) hB hw (by repeat (first | exact Sub.nil _ | refine Sub.cons (by first | rfl | (rw [dgs_zero]; rfl) | (rw [List.drop_length]; rfl) | (simp; done) | (congr 2; omega) | (congr 3; omega)) ?_ | exact Sub.refl _ | refine sub_snap ?_ rfl)) rfl) ((hd2.get hk2).was.keep (keep_base (B0 := B) (l1 := [(7, r.ent 53 (rowC zs))]) hn (fun g hg => by cases hg) hw (by repeat (first | exact Sub.nil _ | refine Sub.cons (by first | rfl | (rw [dgs_zero]; rfl) | (rw [List.drop_length]; rfl) | (simp; done) | (congr 2; omega) | (congr 3; omega)) ?_ | exact Sub.refl _ | refine sub_snap ?_ rfl)) rfl)) ((hd2.get hk2).is.keep (keep_base (B0 := B) (l1 := [(7, r.ent 53 (rowC zs))]) hn (fun g hg => by cases hg) hw (by repeat (first | exact Sub.nil _ | refine Sub.cons (by first | rfl | (rw [dgs_zero]; rfl) | (rw [List.drop_length]; rfl) | (simp; done) | (congr 2; omega) | (congr 3; omega)) ?_ | exact Sub.refl _ | refine sub_snap ?_ rfl)) rfl))) (fun i132 W132 hP132 hW132 => ?_)
          obtain ⟨hv132, hc132⟩ := hP132
          have kpW132 := (keep_snap (I := [r.id]) (B0 := B) (l1 := [(7, r.ent 53 (rowC zs))]) hV hn (fun g hg => by cases hg) hW132 (by repeat (first | exact Sub.refl _ | refine sub_snap ?_ rfl)) (by repeat (first | exact Sub.nil _ | refine Sub.cons (by first | rfl | (rw [dgs_zero]; rfl) | (rw [List.drop_length]; rfl) | (simp; done) | (congr 2; omega) | (congr 3; omega)) ?_ | exact Sub.refl _ | refine sub_snap ?_ rfl)) rfl)
          have hz := hz.keep kpW132
          have hVW132 := hW132.sub (Sub.nil _)
          refine J.lit1 133 rfl Tryz.underlying25 el53 (by decide) rfl (i132.cells) rfl rfl rfl (fun g133 hg133 => ?_)
          refine J.append 7 rfl Tryz.underlying25 el53 rfl hr (rowC_length zs) rfl rfl rfl (fun w hw => (hw.blkCs (k := 133) rfl)) (Ch.cells_one _) (by omega) (by unfold maxLen; omega) rfl (zs ++ [i132]).length (by rw [List.length_append]; rfl) (rowC (zs ++ [i132])) (rowC_snoc _ _).symm (fun r134 hr134 => ?_)
          refine J.assign rfl rfl ?_
          refine J.end ?_
          refine X.then ?_
          refine T.text [.l, .l, .l] rfl ?_
          refine J.move rfl rfl ?_
          refine J.add rfl rfl rfl (by first | exact add_nat _ 1 (by omega) | exact i64_ok _ (by omega) | exact rfl) ?_
          refine J.assign rfl rfl ?_
          refine J.end ?_
          refine X.inBlock ?_
          refine X.snap [(7, r134.ent 53 (rowC (zs ++ [i132])))] (by repeat (first | exact Sub.nil _ | refine Sub.cons (by first | rfl | (rw [dgs_zero]; rfl) | (rw [List.drop_length]; rfl) | (simp; done) | (congr 2; omega) | (congr 3; omega)) ?_ | exact Sub.refl _ | refine sub_snap ?_ rfl)) rfl (fun Wx20 hWWx20 => ?_)
          have kpWx20 := (keep_snap (I := [r.id]) (B0 := B) (l1 := [(7, r134.ent 53 (rowC (zs ++ [i132])))]) hVW132 hn (fun g hg => by cases hg) hWWx20 (by repeat (first | exact Sub.refl _ | refine sub_snap ?_ rfl)) (by repeat (first | exact Sub.nil _ | refine Sub.cons (by first | rfl | (rw [dgs_zero]; rfl) | (rw [List.drop_length]; rfl) | (simp; done) | (congr 2; omega) | (congr 3; omega)) ?_ | exact Sub.refl _ | refine sub_snap ?_ rfl)) rfl)
          have hz := hz.keep kpWx20
          have hc132 := hc132.keep kpWx20
          have hVWx20 := hWWx20.sub (Sub.nil _)
          exact X.round ⟨Wx20, (k + 1), (zs ++ [i132]), r134⟩ ⟨by show k + 1 ≤ _; omega, by rw [snoc_v, hv132]; exact join_push (hj.trans (congrArg (Option.map _) (jn_b0 hk2))), by dsimp only; rw [List.length_append, List.length_singleton]; omega, hr134, hVWx20, hz.snoc hc132⟩ (by first | omega | (dsimp only; omega)) (by repeat (first | exact Sub.nil _ | refine Sub.cons (by first | rfl | (rw [dgs_zero]; rfl) | (rw [List.drop_length]; rfl) | (simp; done) | (congr 2; omega) | (congr 3; omega)) ?_ | exact Sub.refl _ | refine sub_snap ?_ rfl)) (by repeat (first | exact Sub.nil _ | refine Sub.cons (by first | rfl | (rw [dgs_zero]; rfl) | (rw [List.drop_length]; rfl) | (simp; done) | (congr 2; omega) | (congr 3; omega)) ?_ | exact Sub.refl _ | refine sub_snap ?_ rfl))
        · obtain rfl : k = bs.length := by omega
          refine T.exit ?_
          refine X.then_exit (X.then_exit (X.inBlock_eq (X.then ?_)))
          refine T.seq ?_
          refine T.text [.l, .l, .l] rfl ?_
          refine J.move rfl rfl ?_
          refine J.assign rfl rfl ?_
          refine J.assign rfl rfl ?_
          refine J.end ?_
          refine X.then ?_
          refine T.ret ?_
          exact X.ret2 rfl (RV.tmp rfl) (RV.tmp rfl) (fun w' hw' => by first | exact ⟨([], RowIx.nil), ⟨by rw [joinZ_a hne]; rfl, RowIx.nil_ok 35, Fit.nil, AllC.nil⟩, by rw [joinZ_a hne]; rfl, hw'.sub (Sub.nil _)⟩ | exact ⟨([], RowIx.nil), ⟨by rw [joinZ_b hfz1 hne2]; rfl, RowIx.nil_ok 35, Fit.nil, AllC.nil⟩, by rw [joinZ_b hfz1 hne2]; rfl, hw'.sub (Sub.nil _)⟩ | exact ⟨([], RowIx.nil), ⟨by rw [joinZ_no hfz1 hfz2 hjn]; rfl, RowIx.nil_ok 35, Fit.nil, AllC.nil⟩, by rw [joinZ_no hfz1 hfz2 hjn]; rfl, hw'.sub (Sub.nil _)⟩ | exact ⟨(zs, r), ⟨by rw [joinZ_ok hfz1 hfz2 (hj.trans (jn_end _ _ _))], hr, fit_row hw' (j := 7) rfl (fun g h => ⟨hB g h, fun q => by cases q⟩), hz.keep (((keep_snap (I := [r.id]) (B0 := B) (l1 := []) hV hn (fun g hg => by cases hg) hw' (by repeat (first | exact Sub.refl _ | refine sub_snap ?_ rfl)) (Sub.nil _) rfl)).le (fun o h => List.mem_append_left _ h))⟩, by rw [joinZ_ok hfz1 hfz2 (hj.trans (jn_end _ _ _))], hw'.sub (Sub.nil _)⟩)
end Go.Proofs.YtlllcafedekojaaGreatDoor.Dh
set_option linter.unusedVariables false
set_option maxRecDepth 20000
namespace Go.Proofs.YtlllcafedekojaaGreatDoor.Dd
open Go Go.Fw

theorem sz287 : SizeT Tryz.prog 287 32 := (by unfold SizeT; kernel_rfl)
theorem sz53 : SizeT Tryz.prog 53 35 := (by unfold SizeT; kernel_rfl)
theorem sl25 : SlT Tryz.prog 25 53 35 := ⟨Tryz.underlying25, sz53⟩
theorem agg53 : AggT Tryz.prog 53 35 := ⟨⟨_, Tryz.underlying53, rfl⟩, by kernel_rfl⟩
theorem zero53 : ZeroT Tryz.prog 53 (.agg ([.int .u8 0, .int .u8 0, .int .u8 0, .int .u8 0, .int .u8 0, .int .u8 0, .int .u8 0, .int .u8 0, .int .u8 0, .int .u8 0, .int .u8 0, .int .u8 0, .int .u8 0, .int .u8 0, .int .u8 0, .int .u8 0, .int .u8 0, .int .u8 0, .int .u8 0, .int .u8 0, .int .i64 0, .int .u64 0, .int .u64 0, .int .u64 0, .int .u64 0, .int .u64 0, .int .u64 0, .int .u64 0, .int .u64 0, .int .u64 0, .int .u64 0, .int .u64 0, .int .u64 0, .slice none 0 0, .slice none 0 0]).toArray) := (by unfold ZeroT; kernel_rfl)
theorem sz47 : SizeT Tryz.prog 47 20 := (by unfold SizeT; kernel_rfl)
theorem fld53_0 : FldT Tryz.prog 53 0 47 0 19 := ⟨by kernel_rfl, sz47⟩
theorem agg47 : AggT Tryz.prog 47 20 := ⟨⟨_, Tryz.underlying47, rfl⟩, by kernel_rfl⟩
theorem sz3 : SizeT Tryz.prog 3 1 := (by unfold SizeT; kernel_rfl)
theorem fld53_1 : FldT Tryz.prog 53 1 3 20 0 := ⟨by kernel_rfl, sz3⟩
theorem one3 : OneT Tryz.prog 3 := ⟨⟨_, Tryz.underlying3, rfl⟩, by kernel_rfl⟩
theorem sz50 : SizeT Tryz.prog 50 4 := (by unfold SizeT; kernel_rfl)
theorem fld53_2 : FldT Tryz.prog 53 2 50 21 3 := ⟨by kernel_rfl, sz50⟩
theorem agg50 : AggT Tryz.prog 50 4 := ⟨⟨_, Tryz.underlying50, rfl⟩, by kernel_rfl⟩

theorem spotT : SpotT Tryz.prog 85 47 5 3 50 48 := ⟨⟨_, _, _, Tryz.underlying85, ⟨rfl, rfl, rfl⟩, ⟨rfl, rfl, rfl⟩, ⟨rfl, rfl, rfl⟩⟩, Tryz.underlying47, Tryz.underlying5, Tryz.underlying3, Tryz.underlying50, Tryz.underlying48, by kernel_rfl, by kernel_rfl, by kernel_rfl, by kernel_rfl, by kernel_rfl, by kernel_rfl, by kernel_rfl, by kernel_rfl, by kernel_rfl, ⟨_, rfl⟩⟩
theorem klaw : WideMaps.KeyLaw Tryz.prog 85 := deep_law (m := 3) (by decide) spotT.ka spotT.tl (by kernel_rfl)
theorem zeroI : ZeroT Tryz.prog 3 (.int .i64 0) := (by unfold ZeroT; kernel_rfl)

theorem Apart (w : World) (n : Nat) (B : List (Option Nat)) (A1 A2 : Option Addr) (c1 c2 : Nat) (ps qs : List Ch) (hA1 : Cs w A1 (rowC ps)) (hd1 : AllC w n B ps) (hA2 : Cs w A2 (rowC qs)) (hd2 : AllC w n B qs) (hl1 : ps.length ≤ 1000000000) (hl2 : qs.length ≤ 1000000000) :
    Calls Tryz.prog 29 [.slice A1 ps.length c1, .slice A2 qs.length c2].toArray w fun e w' => e = .returned (.bool (decide (apartL (ps.map Ch.v) (qs.map Ch.v)))) ∧ WS w [] [] w' := by
  refine calls_of_T [] 47 [] Tryz.func29 rfl Tryz.ntmps29 (by simp) (WS.refl _ _) ?_
  refine T.seq ?_
  refine T.text [.l] rfl ?_
  refine J.assign rfl rfl ?_
  refine J.end ?_
  refine X.then ?_
  refine T.seq ?_
  refine T.text [.l, .l] rfl ?_
  refine J.makeMap 10 rfl rfl (fun g10 hg10 => ?_)
  refine J.assign rfl rfl ?_
  refine J.end ?_
  refine X.then ?_
  refine T.seq ?_
  refine T.seq ?_
  refine T.text [.l, .l, .l] rfl ?_
  refine J.move rfl rfl ?_
  refine J.lenSl Tryz.underlying25 rfl rfl ?_
  refine J.move rfl rfl ?_
  refine J.end ?_
  refine X.then ?_
  refine T.block ?_
  refine T.loop (ι := Nat × List MapEntry) (fun ((i, es) : Nat × List MapEntry) => i ≤ ps.length ∧ MI es (ps.take i)) (fun ((i, es) : Nat × List MapEntry) => [(0, .slice A1 ps.length c1), (1, .slice A2 qs.length c2), (4, .bool false), (10, .map (some g10)), (5, .map (some g10)), (11, .slice A1 ps.length c1), (12, .int .i64 ((ps.length : Nat) : Int)), (13, .int .i64 (i : Int))]) (fun ((i, es) : Nat × List MapEntry) => [(10, ⟨none, .mp g10 (Is es), []⟩)]) (fun ((i, es) : Nat × List MapEntry) => ps.length - i) ⟨0, []⟩ ⟨Nat.zero_le _, MI.nil⟩ (by repeat (first | exact Sub.nil _ | refine Sub.cons (by first | rfl | (rw [dgs_zero]; rfl) | (rw [List.drop_length]; rfl) | (simp; done) | (congr 2; omega) | (congr 3; omega)) ?_)) (by repeat (first | exact Sub.nil _ | refine Sub.cons (by first | rfl | (rw [dgs_zero]; rfl) | (rw [List.drop_length]; rfl) | (simp; done) | (congr 2; omega) | (congr 3; omega)) ?_)) ?_
  rintro ⟨i, es⟩ ⟨hi, hmi⟩
  try dsimp only at *
  refine T.seq ?_
  refine T.text [.l] rfl ?_
  refine J.lss rfl rfl rfl rfl ?_
  refine J.end ?_
  refine X.then ?_
  refine T.seq ?_
  refine T.cond_dec rfl (fun h1 => ?_) (fun h1 => ?_)
  · have hi2 : i < ps.length := by omega
    refine T.skip ?_
    refine X.then ?_
    refine T.seq ?_
    refine T.block ?_
    refine T.seq ?_
    refine T.text [.l, .l, .l, .l] rfl ?_
    refine J.indexSlI sl25 rfl (hA1.isSome (by rw [rowC_length]; omega)) rfl (by omega) (by omega) (by first | exact Int.toNat_natCast _ | rfl) rfl ?_
    refine J.loadIN (k := .l) trivial hA1 (off_nil _) rfl agg53 ((ps.getD i default).cells) rfl (rowC_seg ps i (by omega)) rfl ?_
    refine J.alloc 7 rfl zero53 [.int .u8 0, .int .u8 0, .int .u8 0, .int .u8 0, .int .u8 0, .int .u8 0, .int .u8 0, .int .u8 0, .int .u8 0, .int .u8 0, .int .u8 0, .int .u8 0, .int .u8 0, .int .u8 0, .int .u8 0, .int .u8 0, .int .u8 0, .int .u8 0, .int .u8 0, .int .u8 0, .int .i64 0, .int .u64 0, .int .u64 0, .int .u64 0, .int .u64 0, .int .u64 0, .int .u64 0, .int .u64 0, .int .u64 0, .int .u64 0, .int .u64 0, .int .u64 0, .int .u64 0, .slice none 0 0, .slice none 0 0] rfl rfl (fun g7 hg7 => ?_)
    refine J.store 7 rfl rfl rfl rfl ((ps.getD i default).cells) rfl sz53 (Nat.le_of_ble_eq_true rfl) (by first | exact Ch.cells_one _) (Nat.zero_lt_succ _) trivial ((ps.getD i default).cells) rfl ?_
    refine J.end ?_
    refine X.then ?_
    obtain ⟨q, hval, hq, hpos⟩ := hmi.look (ps.getD i default)
    obtain ⟨lt, hkey⟩ := spot_key spotT (ps.getD i default) (hd1.get (by omega)).kd
    have hkd : ∀ c ∈ ps.take i, -9223372036854775808 ≤ c.kind ∧ c.kind ≤ 9223372036854775807 := fun c hc => (hd1.take i c hc).kd
    have hks := hmi.keys spotT hkd
    refine T.addMap 10 9000 (LookOk Tryz.prog 85 (spotV (ps.getD i default)) ((q : Nat) : Int)) rfl (hmi.lookOk spotT hkd hval) ?_
    refine T.draw2 [(9000, ⟨none, .mp g10 (LookOk Tryz.prog 85 (spotV (ps.getD i default)) ((q : Nat) : Int)), []⟩)] [(0, .g), (1, .g), (2, .q), (3, .g), (4, .q), (5, .g), (6, .q), (7, .g), (8, .s), (9, .g), (10, .l), (11, .g)] [] [(12, .l)] (by kernel_rfl) (by kernel_rfl) (by kernel_rfl) ?_ (by repeat (first | exact Sub.nil _ | refine Sub.cons (by first | rfl | (rw [dgs_zero]; rfl) | (rw [List.drop_length]; rfl) | (simp; done) | (congr 2; omega) | (congr 3; omega)) ?_))
    refine J.move rfl rfl ?_
    refine J.fieldAddr fld53_0 rfl rfl ?_
    refine J.loadN (k := .q) trivial 7 rfl rfl agg47 (ac (ps.getD i default).who) rfl rfl rfl ?_
    refine J.fieldAddr fld53_1 rfl rfl ?_
    refine J.load1 (k := .q) trivial 7 rfl rfl one3 (by first | rfl | with_reducible exact rowN_get0 _ _ _ (by omega) | with_reducible exact rowN_get1 _ _ _ (by omega) | with_reducible exact rowN_get1s _ _ _ _ (by omega) | exact rowN_get1 _ _ _ (by omega) | exact rowN_get1s _ _ _ _ (by omega) | exact rowN_get0 _ _ _ (by omega)) rfl ?_
    refine J.fieldAddr fld53_2 rfl rfl ?_
    refine J.loadN (k := .q) trivial 7 rfl rfl agg50 (wc (ps.getD i default).key) rfl rfl rfl ?_
    refine J.build rfl rfl (spotV (ps.getD i default)) (fun w => by kernel_rfl) ?_
    refine J.lookups 9000 klaw Tryz.underlying83 zeroI rfl rfl rfl hkey (fun r hr => hr) rfl ?_
    refine J.add rfl rfl rfl (by exact i64_ok _ (by have h0 := List.length_take_le i ps; omega)) ?_
    refine J.as 26 (.int .i64 ((q + 1 : Nat) : Int)) rfl (by rfl) ?_
    refine J.mapEntry 10 rfl klaw Tryz.underlying83 zeroI 9000 rfl rfl (fun _ => ⟨_, rfl, hmi.lookTouched spotT hkd hkey hval⟩) hg10 rfl rfl hkey hks rfl (fun v27 st27 es27 hto27 hbn27 => ?_)
    refine J.extract rfl rfl rfl ?_
    refine J.midS [(7, ⟨some g7, 53, ((ps.getD i default).cells)⟩), (10, ⟨none, .mp g10 (Is es27), []⟩)] (by repeat (first | exact Sub.nil _ | refine Sub.cons (by first | rfl | (rw [dgs_zero]; rfl) | (rw [List.drop_length]; rfl) | (simp; done) | (congr 2; omega) | (congr 3; omega)) ?_)) ?_ (Sub.nil _)
    obtain ⟨e27, he27, _, hst27⟩ := touched_mem hto27
    refine J.entryStore 10 rfl rfl rfl hg10 rfl rfl rfl hbn27 he27 hst27 trivial ?_
    refine J.end ?_
    refine X.inBlock (X.then ?_)
    refine T.text [.l, .l] rfl ?_
    refine J.add rfl rfl rfl (by first | exact add_nat _ 1 (by omega) | exact i64_ok _ (by omega) | exact rfl) ?_
    refine J.move rfl rfl ?_
    refine J.end ?_
    exact X.round ⟨(i + 1), (wroteE es27 st27 (.int .i64 ((q + 1 : Nat) : Int)))⟩ ⟨by show i + 1 ≤ _; omega, by rw [take_succ_getD' ps i hi2]; exact hmi.next hto27 hq⟩ (by first | omega | (dsimp only; omega)) (by repeat (first | exact Sub.nil _ | refine Sub.cons (by first | rfl | (rw [dgs_zero]; rfl) | (rw [List.drop_length]; rfl) | (simp; done) | (congr 2; omega) | (congr 3; omega)) ?_)) (by repeat (first | exact Sub.nil _ | refine Sub.cons (by first | rfl | (rw [dgs_zero]; rfl) | (rw [List.drop_length]; rfl) | (simp; done) | (congr 2; omega) | (congr 3; omega)) ?_))
  · obtain rfl : i = ps.length := by omega
    rw [List.take_length] at hmi
    refine T.exit ?_
    refine X.then_exit (X.then_exit (X.inBlock_eq (X.then ?_)))
    refine T.seq ?_
    refine T.seq ?_
    refine T.text [.l, .l, .l] rfl ?_
    refine J.move rfl rfl ?_
    refine J.lenSl Tryz.underlying25 rfl rfl ?_
    refine J.move rfl rfl ?_
    refine J.end ?_
    refine X.then ?_
    refine T.block ?_
    refine T.loop (ι := Nat) (fun (i : Nat) => i ≤ qs.length ∧ (∀ j, j < i → ¬ ∃ x ∈ ps, spotV x = spotV (qs.getD j default))) (fun (i : Nat) => [(0, .slice A1 ps.length c1), (1, .slice A2 qs.length c2), (10, .map (some g10)), (5, .map (some g10)), (11, .slice A1 ps.length c1), (12, .int .i64 ((ps.length : Nat) : Int)), (30, .slice A2 qs.length c2), (31, .int .i64 ((qs.length : Nat) : Int)), (32, .int .i64 (i : Int))]) (fun (i : Nat) => [(10, ⟨none, .mp g10 (Is es), []⟩)]) (fun (i : Nat) => qs.length - i) 0 ⟨Nat.zero_le _, fun j hj => by omega⟩ (by repeat (first | exact Sub.nil _ | refine Sub.cons (by first | rfl | (rw [dgs_zero]; rfl) | (rw [List.drop_length]; rfl) | (simp; done) | (congr 2; omega) | (congr 3; omega)) ?_)) (by repeat (first | exact Sub.nil _ | refine Sub.cons (by first | rfl | (rw [dgs_zero]; rfl) | (rw [List.drop_length]; rfl) | (simp; done) | (congr 2; omega) | (congr 3; omega)) ?_)) ?_
    rintro i ⟨hi, hno⟩
    refine T.seq ?_
    refine T.text [.l] rfl ?_
    refine J.lss rfl rfl rfl rfl ?_
    refine J.end ?_
    refine X.then ?_
    refine T.seq ?_
    refine T.cond_dec rfl (fun h2 => ?_) (fun h2 => ?_)
    · have hi2 : i < qs.length := by omega
      refine T.skip ?_
      refine X.then ?_
      refine T.seq ?_
      refine T.block ?_
      refine T.seq ?_
      refine T.text [.l, .l, .l, .l] rfl ?_
      refine J.indexSlI sl25 rfl (hA2.isSome (by rw [rowC_length]; omega)) rfl (by omega) (by omega) (by first | exact Int.toNat_natCast _ | rfl) rfl ?_
      refine J.loadIN (k := .l) trivial hA2 (off_nil _) rfl agg53 ((qs.getD i default).cells) rfl (rowC_seg qs i (by omega)) rfl ?_
      refine J.alloc 9 rfl zero53 [.int .u8 0, .int .u8 0, .int .u8 0, .int .u8 0, .int .u8 0, .int .u8 0, .int .u8 0, .int .u8 0, .int .u8 0, .int .u8 0, .int .u8 0, .int .u8 0, .int .u8 0, .int .u8 0, .int .u8 0, .int .u8 0, .int .u8 0, .int .u8 0, .int .u8 0, .int .u8 0, .int .i64 0, .int .u64 0, .int .u64 0, .int .u64 0, .int .u64 0, .int .u64 0, .int .u64 0, .int .u64 0, .int .u64 0, .int .u64 0, .int .u64 0, .int .u64 0, .int .u64 0, .slice none 0 0, .slice none 0 0] rfl rfl (fun g9 hg9 => ?_)
      refine J.store 9 rfl rfl rfl rfl ((qs.getD i default).cells) rfl sz53 (Nat.le_of_ble_eq_true rfl) (by first | exact Ch.cells_one _) (Nat.zero_lt_succ _) trivial ((qs.getD i default).cells) rfl ?_
      refine J.end ?_
      refine X.then ?_
      refine T.seq ?_
      refine T.text [.l, .l, .l, .l, .l, .l, .l, .l, .l, .l] rfl ?_
      refine J.move rfl rfl ?_
      refine J.fieldAddr fld53_0 rfl rfl ?_
      refine J.loadN (k := .l) trivial 9 rfl rfl agg47 (ac (qs.getD i default).who) rfl rfl rfl ?_
      refine J.fieldAddr fld53_1 rfl rfl ?_
      refine J.load1 (k := .l) trivial 9 rfl rfl one3 (by first | rfl | with_reducible exact rowN_get0 _ _ _ (by omega) | with_reducible exact rowN_get1 _ _ _ (by omega) | with_reducible exact rowN_get1s _ _ _ _ (by omega) | exact rowN_get1 _ _ _ (by omega) | exact rowN_get1s _ _ _ _ (by omega) | exact rowN_get0 _ _ _ (by omega)) rfl ?_
      refine J.fieldAddr fld53_2 rfl rfl ?_
      refine J.loadN (k := .l) trivial 9 rfl rfl agg50 (wc (qs.getD i default).key) rfl rfl rfl ?_
      refine J.build rfl rfl (spotV (qs.getD i default)) (fun w => by kernel_rfl) ?_
      obtain ⟨q, hval, hq, hpos⟩ := hmi.look (qs.getD i default)
      obtain ⟨lt, hkey⟩ := spot_key spotT (qs.getD i default) (hd2.get (by omega)).kd
      have hkd : ∀ c ∈ ps, -9223372036854775808 ≤ c.kind ∧ c.kind ≤ 9223372036854775807 := fun c hc => (hd1 c hc).kd
      have hks := hmi.keys spotT hkd
      refine J.lookup 10 (k := .l) trivial klaw Tryz.underlying83 zeroI rfl rfl rfl hkey (hmi.lookOk spotT hkd hval) rfl ?_
      refine J.gtr rfl rfl rfl rfl ?_
      refine J.end ?_
      refine X.then ?_
      refine T.cond_dec rfl (fun h3 => ?_) (fun h3 => ?_)
      · have hap := apart_hit hi2 hpos (by omega)
        refine T.seq ?_
        refine T.text [.l] rfl ?_
        refine J.assign rfl rfl ?_
        refine J.end ?_
        refine X.then ?_
        refine T.ret ?_
        refine X.inBlock_ret (X.then_ret (X.then_ret (X.inBlock_ret (X.then_ret ?_))))
        exact X.ret1 rfl (RV.tmp rfl) (fun w' hw' => by first | exact ⟨by rw [decide_eq_false hap], hw'.sub (Sub.nil _)⟩ | exact ⟨by rw [decide_eq_true hap], hw'.sub (Sub.nil _)⟩)
      · have hn2 : ¬ ∃ x ∈ ps, spotV x = spotV (qs.getD i default) := fun q1 => by have := hpos.2 q1; omega
        refine T.skip ?_
        refine X.inBlock (X.then ?_)
        refine T.text [.l, .l] rfl ?_
        refine J.add rfl rfl rfl (by first | exact add_nat _ 1 (by omega) | exact i64_ok _ (by omega) | exact rfl) ?_
        refine J.move rfl rfl ?_
        refine J.end ?_
        exact X.round (i + 1) ⟨by omega, lt_snoc hno hn2⟩ (by first | omega | (dsimp only; omega)) (by repeat (first | exact Sub.nil _ | refine Sub.cons (by first | rfl | (rw [dgs_zero]; rfl) | (rw [List.drop_length]; rfl) | (simp; done) | (congr 2; omega) | (congr 3; omega)) ?_)) (by repeat (first | exact Sub.nil _ | refine Sub.cons (by first | rfl | (rw [dgs_zero]; rfl) | (rw [List.drop_length]; rfl) | (simp; done) | (congr 2; omega) | (congr 3; omega)) ?_))
    · obtain rfl : i = qs.length := by omega
      have hap := apart_all hno
      refine T.exit ?_
      refine X.then_exit (X.then_exit (X.inBlock_eq (X.then ?_)))
      refine T.seq ?_
      refine T.text [.l] rfl ?_
      refine J.assign rfl rfl ?_
      refine J.end ?_
      refine X.then ?_
      refine T.ret ?_
      exact X.ret1 rfl (RV.tmp rfl) (fun w' hw' => by first | exact ⟨by rw [decide_eq_false hap], hw'.sub (Sub.nil _)⟩ | exact ⟨by rw [decide_eq_true hap], hw'.sub (Sub.nil _)⟩)
end Go.Proofs.YtlllcafedekojaaGreatDoor.Dd
set_option linter.unusedVariables false
set_option maxRecDepth 20000
namespace Go.Proofs.YtlllcafedekojaaGreatDoor.Di
open Go Go.Fw

theorem sz287 : SizeT Tryz.prog 287 32 := (by unfold SizeT; kernel_rfl)
theorem sz5 : SizeT Tryz.prog 5 1 := (by unfold SizeT; kernel_rfl)
theorem arr47 : ArrT Tryz.prog 47 20 5 1 := ⟨Tryz.underlying47, sz5⟩
theorem fok40 : FnOk Tryz.prog 40 := FnOk.mk' Tryz.func40 (by kernel_rfl) rfl
theorem zero50 : ZeroT Tryz.prog 50 (.agg ([.int .u64 0, .int .u64 0, .int .u64 0, .int .u64 0]).toArray) := (by unfold ZeroT; kernel_rfl)
theorem sz50 : SizeT Tryz.prog 50 4 := (by unfold SizeT; kernel_rfl)
theorem agg50 : AggT Tryz.prog 50 4 := ⟨⟨_, Tryz.underlying50, rfl⟩, by kernel_rfl⟩
theorem sz48 : SizeT Tryz.prog 48 1 := (by unfold SizeT; kernel_rfl)
theorem fld56_1 : FldT Tryz.prog 56 1 48 20 0 := ⟨by kernel_rfl, sz48⟩
theorem one48 : OneT Tryz.prog 48 := ⟨⟨_, Tryz.underlying48, rfl⟩, by kernel_rfl⟩
theorem fld56_2 : FldT Tryz.prog 56 2 50 21 3 := ⟨by kernel_rfl, sz50⟩
theorem fok74 : FnOk Tryz.prog 74 := FnOk.mk' Tryz.func74 (by kernel_rfl) rfl
theorem sz51 : SizeT Tryz.prog 51 1 := (by unfold SizeT; kernel_rfl)
theorem fld56_3 : FldT Tryz.prog 56 3 51 25 0 := ⟨by kernel_rfl, sz51⟩
theorem one51 : OneT Tryz.prog 51 := ⟨⟨_, Tryz.underlying51, rfl⟩, by kernel_rfl⟩
theorem sz54 : SizeT Tryz.prog 54 1 := (by unfold SizeT; kernel_rfl)
theorem fld56_4 : FldT Tryz.prog 56 4 54 26 0 := ⟨by kernel_rfl, sz54⟩
theorem one54 : OneT Tryz.prog 54 := ⟨⟨_, Tryz.underlying54, rfl⟩, by kernel_rfl⟩

theorem byAddress (w : World) (a b : Nat) :
    Calls Tryz.prog 78 [.agg (ac a).toArray, .agg (ac b).toArray].toArray w fun e w' => e = .returned (.int .i64 (cmpZ (a % 256 ^ 20) (b % 256 ^ 20))) ∧ WS w [] [] w' := by
  refine calls_of_T [] 8 [] Tryz.func78 rfl Tryz.ntmps78 (by simp) (WS.refl _ _) ?_
  refine T.seq ?_
  refine T.text [.l, .l, .l] rfl ?_
  refine J.box 2 rfl rfl (ac a) rfl rfl (fun g2 hg2 => ?_)
  refine J.box 3 rfl rfl (ac b) rfl rfl (fun g3 hg3 => ?_)
  refine J.assign rfl rfl ?_
  refine J.end ?_
  refine X.then ?_
  refine T.seq ?_
  refine T.draw [] [(0, .g), (1, .g), (2, .q), (3, .g)] (by kernel_rfl) (by kernel_rfl) ?_ (by repeat (first | exact Sub.nil _ | refine Sub.cons (by first | rfl | (rw [dgs_zero]; rfl) | (rw [List.drop_length]; rfl) | (simp; done) | (congr 2; omega) | (congr 3; omega)) ?_))
  refine J.sliceArr arr47 rfl optInt.none optInt.none optInt.none (by simp) (by omega) (by omega) (by omega) rfl rfl ?_
  refine J.sliceArr arr47 rfl optInt.none optInt.none optInt.none (by simp) (by omega) (by omega) (by omega) rfl rfl ?_
  refine J.call0 (k := .q) trivial fok40 rfl rfl (fun w hw => Da.Compare w _ _ _ _ (adL a) (adL b) (hw.blkCs (k := 2) rfl) (hw.blkCs (k := 3) rfl) (adL_dg _) (adL_dg _)) ?_
  refine J.as 7 (.int .i64 (cmpZ (a % 256 ^ 20) (b % 256 ^ 20))) rfl (by rw [cmp_ad]) ?_
  refine J.assign rfl rfl ?_
  refine J.end ?_
  refine X.then ?_
  refine T.ret ?_
  exact X.ret1 rfl (RV.tmp rfl) (fun w' hw' => ⟨rfl, hw'.sub (Sub.nil _)⟩)

theorem FromUint (w : World) (n : Nat) (hn : n < 18446744073709551616) :
    Calls Tryz.prog 82 [.int .u64 (n : Int)].toArray w fun e w' => e = .returned (W n) ∧ WS w [] [] w' := by
  refine calls_of_T [] 5 [] Tryz.func82 rfl Tryz.ntmps82 (by simp) (WS.refl _ _) ?_
  refine T.seq ?_
  refine T.text [.l] rfl ?_
  refine J.alloc 2 rfl zero50 [.int .u64 0, .int .u64 0, .int .u64 0, .int .u64 0] rfl rfl (fun g2 hg2 => ?_)
  refine J.end ?_
  refine X.then ?_
  refine T.seq ?_
  refine T.text [.l, .l, .l] rfl ?_
  refine J.move rfl rfl ?_
  refine J.build rfl rfl (.agg ([.int .u64 ((n : Nat) : Int), .int .u64 0, .int .u64 0, .int .u64 0] : List Value).toArray) (fun w => by kernel_rfl) ?_
  refine J.as 4 (W (n)) rfl (W_small (by first | omega | (refine ⟨?_, ?_, ?_, ?_⟩ <;> omega))) ?_
  refine J.store 2 rfl rfl rfl rfl (wc (n)) rfl sz50 (by first | decide | exact Nat.le_refl _ | exact Nat.le_of_ble_eq_true rfl | (simp [rowN]; done) | (simp [rowN]; omega)) (by first | exact rowN_one _ _ | (simp; done) | (intro u hu; simp at hu; subst hu; rfl) | (intro u hu; simp at hu; rcases hu with rfl | rfl <;> rfl)) (by first | decide | exact Nat.zero_lt_succ _ | simp) trivial (wc (n)) rfl ?_
  refine J.end ?_
  refine X.then ?_
  refine T.ret ?_
  exact X.ret1 rfl (RV.agg 2 rfl rfl agg50 (wc (n)) (by rfl) (by rfl) rfl) (fun w' hw' => ⟨rfl, hw'.sub (Sub.nil _)⟩)

theorem look (w : World) (a : Ac) (hc : a.code.length = 0) :
    Calls Tryz.prog 79 [.agg a.cells.toArray].toArray w fun e w' => e = .returned (.tuple #[.pointer none, .int .i64 (lookZ a)]) ∧ WS w [] [] w' := by
  refine calls_of_T [] 88 [] Tryz.func79 rfl Tryz.ntmps79 (by simp) (WS.refl _ _) ?_
  refine T.seq ?_
  refine T.text [.l, .l, .l] rfl ?_
  refine J.box 1 rfl rfl (a.cells) rfl rfl (fun g1 hg1 => ?_)
  refine J.assign rfl rfl ?_
  refine J.assign rfl rfl ?_
  refine J.end ?_
  refine X.then ?_
  refine T.seq ?_
  refine T.seq ?_
  refine T.text [.l, .l, .l, .l, .l, .l, .l, .l, .l, .l, .l, .l, .l, .l] rfl ?_
  refine J.fieldAddr fld56_1 rfl rfl ?_
  refine J.load1 (k := .l) trivial 1 rfl rfl one48 (by first | rfl | with_reducible exact rowN_get0 _ _ _ (by omega) | with_reducible exact rowN_get1 _ _ _ (by omega) | with_reducible exact rowN_get1s _ _ _ _ (by omega) | exact rowN_get1 _ _ _ (by omega) | exact rowN_get1s _ _ _ _ (by omega) | exact rowN_get0 _ _ _ (by omega)) rfl ?_
  refine J.eql rfl rfl rfl rfl ?_
  refine J.move rfl rfl ?_
  refine J.split 12 rfl (fun h1 => ?_) (fun h1 => ?_)
  · skip
    refine J.yes rfl rfl ?_
    refine J.fieldAddr fld56_2 rfl rfl ?_
    refine J.yes rfl rfl ?_
    refine J.loadN (k := .l) trivial 1 rfl rfl agg50 (wc a.bal) rfl rfl rfl ?_
    refine J.yes rfl rfl ?_
    refine J.call0 (k := .l) trivial fok74 rfl rfl (fun w hw => Wa.IsZero w _) ?_
    refine J.pick_t rfl rfl rfl ?_
    refine J.move rfl rfl ?_
    refine J.split 17 rfl (fun h2 => ?_) (fun h2 => ?_)
    · skip
      refine J.yes rfl rfl ?_
      refine J.fieldAddr fld56_3 rfl rfl ?_
      refine J.yes rfl rfl ?_
      refine J.load1 (k := .l) trivial 1 rfl rfl one51 (by first | rfl | with_reducible exact rowN_get0 _ _ _ (by omega) | with_reducible exact rowN_get1 _ _ _ (by omega) | with_reducible exact rowN_get1s _ _ _ _ (by omega) | exact rowN_get1 _ _ _ (by omega) | exact rowN_get1s _ _ _ _ (by omega) | exact rowN_get0 _ _ _ (by omega)) rfl ?_
      refine J.yes rfl rfl ?_
      refine J.lenSl Tryz.underlying51 rfl rfl ?_
      refine J.yes rfl rfl ?_
      refine J.eql rfl rfl rfl rfl ?_
      refine J.pick_t rfl rfl rfl ?_
      refine J.end ?_
      refine X.then ?_
      refine T.cond_dec rfl (fun h3 => ?_) (fun h3 => ?_)
      · skip
        refine T.seq ?_
        refine T.text [.l, .l] rfl ?_
        refine J.assign rfl rfl ?_
        refine J.assign rfl rfl ?_
        refine J.end ?_
        refine X.then ?_
        refine T.ret ?_
        refine X.then_ret ?_
        exact X.ret2 rfl (RV.tmp rfl) (RV.tmp rfl) (fun w' hw' => ⟨by unfold lookZ; first | (rw [if_pos ⟨by omega, by omega⟩]; done) | (rw [if_pos ⟨by omega, by omega⟩]; rfl) | (rw [if_neg (by omega), if_pos (by omega)]; done) | (rw [if_neg (by omega), if_pos (by omega)]; rfl) | (rw [if_neg (by omega), if_neg (by omega)]; done) | (rw [if_neg (by omega), if_neg (by omega)]; rfl), hw'.sub (Sub.nil _)⟩)
      · skip
        refine T.skip ?_
        refine X.then ?_
        refine T.seq ?_
        refine T.seq ?_
        refine T.text [.l, .l, .l, .l, .l, .l, .l, .l, .l, .l] rfl ?_
        refine J.fieldAddr fld56_3 rfl rfl ?_
        refine J.load1 (k := .l) trivial 1 rfl rfl one51 (by first | rfl | with_reducible exact rowN_get0 _ _ _ (by omega) | with_reducible exact rowN_get1 _ _ _ (by omega) | with_reducible exact rowN_get1s _ _ _ _ (by omega) | exact rowN_get1 _ _ _ (by omega) | exact rowN_get1s _ _ _ _ (by omega) | exact rowN_get0 _ _ _ (by omega)) rfl ?_
        refine J.lenSl Tryz.underlying51 rfl rfl ?_
        refine J.eql rfl rfl rfl rfl ?_
        refine J.move rfl rfl ?_
        refine J.split 27 rfl (fun h4 => ?_) (fun h4 => ?_)
        · skip
          refine J.yes rfl rfl ?_
          refine J.fieldAddr fld56_4 rfl rfl ?_
          refine J.yes rfl rfl ?_
          refine J.load1 (k := .l) trivial 1 rfl rfl one54 (by first | rfl | with_reducible exact rowN_get0 _ _ _ (by omega) | with_reducible exact rowN_get1 _ _ _ (by omega) | with_reducible exact rowN_get1s _ _ _ _ (by omega) | exact rowN_get1 _ _ _ (by omega) | exact rowN_get1s _ _ _ _ (by omega) | exact rowN_get0 _ _ _ (by omega)) rfl ?_
          refine J.yes rfl rfl ?_
          refine J.lenSl Tryz.underlying54 rfl rfl ?_
          refine J.yes rfl rfl ?_
          refine J.gtr rfl rfl rfl rfl ?_
          refine J.pick_t rfl rfl rfl ?_
          refine J.end ?_
          refine X.then ?_
          refine T.cond_dec rfl (fun h5 => ?_) (fun h5 => ?_)
          · skip
            refine T.seq ?_
            refine T.text [.l, .l] rfl ?_
            refine J.assign rfl rfl ?_
            refine J.assign rfl rfl ?_
            refine J.end ?_
            refine X.then ?_
            refine T.ret ?_
            refine X.then_ret ?_
            exact X.ret2 rfl (RV.tmp rfl) (RV.tmp rfl) (fun w' hw' => ⟨by unfold lookZ; first | (rw [if_pos ⟨by omega, by omega⟩]; done) | (rw [if_pos ⟨by omega, by omega⟩]; rfl) | (rw [if_neg (by omega), if_pos (by omega)]; done) | (rw [if_neg (by omega), if_pos (by omega)]; rfl) | (rw [if_neg (by omega), if_neg (by omega)]; done) | (rw [if_neg (by omega), if_neg (by omega)]; rfl), hw'.sub (Sub.nil _)⟩)
          · skip
            refine T.skip ?_
            refine X.then ?_
            refine T.seq ?_
            refine T.seq ?_
            refine T.text [.l, .l, .l, .l] rfl ?_
            refine J.fieldAddr fld56_4 rfl rfl ?_
            refine J.load1 (k := .l) trivial 1 rfl rfl one54 (by first | rfl | with_reducible exact rowN_get0 _ _ _ (by omega) | with_reducible exact rowN_get1 _ _ _ (by omega) | with_reducible exact rowN_get1s _ _ _ _ (by omega) | exact rowN_get1 _ _ _ (by omega) | exact rowN_get1s _ _ _ _ (by omega) | exact rowN_get0 _ _ _ (by omega)) rfl ?_
            refine J.lenSl Tryz.underlying54 rfl rfl ?_
            refine J.move rfl rfl ?_
            refine J.end ?_
            refine X.then ?_
            refine T.block ?_
            refine T.loop (ι := Nat) (fun (i : Nat) => i = 0) (fun (i : Nat) => [(0, .agg a.cells.toArray), (1, .pointer (some ⟨g1, 0, none⟩)), (10, .int .u64 ((a.nonce : Nat) : Int)), (12, .bool true), (14, W a.bal), (17, .bool true), (19, .slice a.cA a.code.length a.cC), (20, .int .i64 ((a.code.length : Nat) : Int)), (24, .slice a.cA a.code.length a.cC), (25, .int .i64 ((a.code.length : Nat) : Int)), (27, .bool true), (29, .slice a.sA a.sl.length a.sC), (30, .int .i64 ((a.sl.length : Nat) : Int)), (34, .slice a.sA a.sl.length a.sC), (35, .int .i64 ((a.sl.length : Nat) : Int)), (36, .int .i64 (i : Int))]) (fun (i : Nat) => [(1, ⟨some g1, 56, (a.cells)⟩)]) (fun (i : Nat) => 0) 0 rfl (by repeat (first | exact Sub.nil _ | refine Sub.cons (by first | rfl | (rw [dgs_zero]; rfl) | (rw [List.drop_length]; rfl) | (simp; done) | (congr 2; omega) | (congr 3; omega)) ?_)) (by repeat (first | exact Sub.nil _ | refine Sub.cons (by first | rfl | (rw [dgs_zero]; rfl) | (rw [List.drop_length]; rfl) | (simp; done) | (congr 2; omega) | (congr 3; omega)) ?_)) ?_
            rintro i hi0
            refine T.seq ?_
            refine T.text [.l] rfl ?_
            refine J.lss rfl rfl rfl rfl ?_
            refine J.end ?_
            refine X.then ?_
            refine T.seq ?_
            refine T.cond_dec rfl (fun h6 => ?_) (fun h6 => ?_)
            · exact absurd h6 (by omega)
            · skip
              refine T.exit ?_
              refine X.then_exit (X.then_exit (X.inBlock_eq (X.then ?_)))
              refine T.seq ?_
              refine T.seq ?_
              refine T.text [.l, .l, .l, .l] rfl ?_
              refine J.fieldAddr fld56_4 rfl rfl ?_
              refine J.load1 (k := .l) trivial 1 rfl rfl one54 (by first | rfl | with_reducible exact rowN_get0 _ _ _ (by omega) | with_reducible exact rowN_get1 _ _ _ (by omega) | with_reducible exact rowN_get1s _ _ _ _ (by omega) | exact rowN_get1 _ _ _ (by omega) | exact rowN_get1s _ _ _ _ (by omega) | exact rowN_get0 _ _ _ (by omega)) rfl ?_
              refine J.lenSl Tryz.underlying54 rfl rfl ?_
              refine J.move rfl rfl ?_
              refine J.end ?_
              refine X.then ?_
              refine T.block ?_
              refine T.loop (ι := Nat) (fun (j : Nat) => j = 0) (fun (j : Nat) => [(0, .agg a.cells.toArray), (1, .pointer (some ⟨g1, 0, none⟩)), (10, .int .u64 ((a.nonce : Nat) : Int)), (12, .bool true), (14, W a.bal), (17, .bool true), (19, .slice a.cA a.code.length a.cC), (20, .int .i64 ((a.code.length : Nat) : Int)), (24, .slice a.cA a.code.length a.cC), (25, .int .i64 ((a.code.length : Nat) : Int)), (27, .bool true), (29, .slice a.sA a.sl.length a.sC), (30, .int .i64 ((a.sl.length : Nat) : Int)), (34, .slice a.sA a.sl.length a.sC), (35, .int .i64 ((a.sl.length : Nat) : Int)), (60, .slice a.sA a.sl.length a.sC), (61, .int .i64 ((a.sl.length : Nat) : Int)), (62, .int .i64 (j : Int))]) (fun (j : Nat) => [(1, ⟨some g1, 56, (a.cells)⟩)]) (fun (j : Nat) => 0) 0 rfl (by repeat (first | exact Sub.nil _ | refine Sub.cons (by first | rfl | (rw [dgs_zero]; rfl) | (rw [List.drop_length]; rfl) | (simp; done) | (congr 2; omega) | (congr 3; omega)) ?_)) (by repeat (first | exact Sub.nil _ | refine Sub.cons (by first | rfl | (rw [dgs_zero]; rfl) | (rw [List.drop_length]; rfl) | (simp; done) | (congr 2; omega) | (congr 3; omega)) ?_)) ?_
              rintro j hj0
              refine T.seq ?_
              refine T.text [.l] rfl ?_
              refine J.lss rfl rfl rfl rfl ?_
              refine J.end ?_
              refine X.then ?_
              refine T.seq ?_
              refine T.cond_dec rfl (fun h7 => ?_) (fun h7 => ?_)
              · exact absurd h7 (by omega)
              · skip
                refine T.exit ?_
                refine X.then_exit (X.then_exit (X.inBlock_eq (X.then ?_)))
                refine T.seq ?_
                refine T.seq ?_
                refine T.text [.l, .l, .l, .l] rfl ?_
                refine J.fieldAddr fld56_3 rfl rfl ?_
                refine J.load1 (k := .l) trivial 1 rfl rfl one51 (by first | rfl | with_reducible exact rowN_get0 _ _ _ (by omega) | with_reducible exact rowN_get1 _ _ _ (by omega) | with_reducible exact rowN_get1s _ _ _ _ (by omega) | exact rowN_get1 _ _ _ (by omega) | exact rowN_get1s _ _ _ _ (by omega) | exact rowN_get0 _ _ _ (by omega)) rfl ?_
                refine J.lenSl Tryz.underlying51 rfl rfl ?_
                refine J.eql rfl rfl rfl rfl ?_
                refine J.end ?_
                refine X.then ?_
                refine T.cond_dec rfl (fun h8 => ?_) (fun h8 => ?_)
                · skip
                  refine T.seq ?_
                  refine T.text [.l, .l] rfl ?_
                  refine J.assign rfl rfl ?_
                  refine J.assign rfl rfl ?_
                  refine J.end ?_
                  refine X.then ?_
                  refine T.ret ?_
                  refine X.then_ret ?_
                  exact X.ret2 rfl (RV.tmp rfl) (RV.tmp rfl) (fun w' hw' => ⟨by unfold lookZ; first | (rw [if_pos ⟨by omega, by omega⟩]; done) | (rw [if_pos ⟨by omega, by omega⟩]; rfl) | (rw [if_neg (by omega), if_pos (by omega)]; done) | (rw [if_neg (by omega), if_pos (by omega)]; rfl) | (rw [if_neg (by omega), if_neg (by omega)]; done) | (rw [if_neg (by omega), if_neg (by omega)]; rfl), hw'.sub (Sub.nil _)⟩)
                · exact absurd hc (by omega)
        · skip
          refine J.no rfl rfl rfl rfl ?_
          refine J.no rfl rfl rfl rfl ?_
          refine J.no rfl rfl rfl rfl ?_
          refine J.no rfl rfl rfl rfl ?_
          refine J.pick_f rfl rfl rfl ?_
          refine J.end ?_
          refine X.then ?_
          refine T.cond_false rfl ?_
          refine T.skip ?_
          refine X.then ?_
          refine T.seq ?_
          refine T.seq ?_
          refine T.text [.l, .l, .l, .l] rfl ?_
          refine J.fieldAddr fld56_4 rfl rfl ?_
          refine J.load1 (k := .l) trivial 1 rfl rfl one54 (by first | rfl | with_reducible exact rowN_get0 _ _ _ (by omega) | with_reducible exact rowN_get1 _ _ _ (by omega) | with_reducible exact rowN_get1s _ _ _ _ (by omega) | exact rowN_get1 _ _ _ (by omega) | exact rowN_get1s _ _ _ _ (by omega) | exact rowN_get0 _ _ _ (by omega)) rfl ?_
          refine J.lenSl Tryz.underlying54 rfl rfl ?_
          refine J.move rfl rfl ?_
          refine J.end ?_
          refine X.then ?_
          refine T.block ?_
          refine T.loop (ι := Nat) (fun (i : Nat) => i = 0) (fun (i : Nat) => [(0, .agg a.cells.toArray), (1, .pointer (some ⟨g1, 0, none⟩)), (10, .int .u64 ((a.nonce : Nat) : Int)), (12, .bool true), (14, W a.bal), (17, .bool true), (19, .slice a.cA a.code.length a.cC), (20, .int .i64 ((a.code.length : Nat) : Int)), (24, .slice a.cA a.code.length a.cC), (25, .int .i64 ((a.code.length : Nat) : Int)), (27, .bool false), (28, undef), (29, undef), (30, undef), (31, undef), (32, .bool false), (34, .slice a.sA a.sl.length a.sC), (35, .int .i64 ((a.sl.length : Nat) : Int)), (36, .int .i64 (i : Int))]) (fun (i : Nat) => [(1, ⟨some g1, 56, (a.cells)⟩)]) (fun (i : Nat) => 0) 0 rfl (by repeat (first | exact Sub.nil _ | refine Sub.cons (by first | rfl | (rw [dgs_zero]; rfl) | (rw [List.drop_length]; rfl) | (simp; done) | (congr 2; omega) | (congr 3; omega)) ?_)) (by repeat (first | exact Sub.nil _ | refine Sub.cons (by first | rfl | (rw [dgs_zero]; rfl) | (rw [List.drop_length]; rfl) | (simp; done) | (congr 2; omega) | (congr 3; omega)) ?_)) ?_
          rintro i hi0
          refine T.seq ?_
          refine T.text [.l] rfl ?_
          refine J.lss rfl rfl rfl rfl ?_
          refine J.end ?_
          refine X.then ?_
          refine T.seq ?_
          refine T.cond_dec rfl (fun h9 => ?_) (fun h9 => ?_)
          · exact absurd h9 (by omega)
          · skip
            refine T.exit ?_
            refine X.then_exit (X.then_exit (X.inBlock_eq (X.then ?_)))
            refine T.seq ?_
            refine T.seq ?_
            refine T.text [.l, .l, .l, .l] rfl ?_
            refine J.fieldAddr fld56_4 rfl rfl ?_
            refine J.load1 (k := .l) trivial 1 rfl rfl one54 (by first | rfl | with_reducible exact rowN_get0 _ _ _ (by omega) | with_reducible exact rowN_get1 _ _ _ (by omega) | with_reducible exact rowN_get1s _ _ _ _ (by omega) | exact rowN_get1 _ _ _ (by omega) | exact rowN_get1s _ _ _ _ (by omega) | exact rowN_get0 _ _ _ (by omega)) rfl ?_
            refine J.lenSl Tryz.underlying54 rfl rfl ?_
            refine J.move rfl rfl ?_
            refine J.end ?_
            refine X.then ?_
            refine T.block ?_
            refine T.loop (ι := Nat) (fun (j : Nat) => j = 0) (fun (j : Nat) => [(0, .agg a.cells.toArray), (1, .pointer (some ⟨g1, 0, none⟩)), (10, .int .u64 ((a.nonce : Nat) : Int)), (12, .bool true), (14, W a.bal), (17, .bool true), (19, .slice a.cA a.code.length a.cC), (20, .int .i64 ((a.code.length : Nat) : Int)), (24, .slice a.cA a.code.length a.cC), (25, .int .i64 ((a.code.length : Nat) : Int)), (27, .bool false), (28, undef), (29, undef), (30, undef), (31, undef), (32, .bool false), (34, .slice a.sA a.sl.length a.sC), (35, .int .i64 ((a.sl.length : Nat) : Int)), (60, .slice a.sA a.sl.length a.sC), (61, .int .i64 ((a.sl.length : Nat) : Int)), (62, .int .i64 (j : Int))]) (fun (j : Nat) => [(1, ⟨some g1, 56, (a.cells)⟩)]) (fun (j : Nat) => 0) 0 rfl (by repeat (first | exact Sub.nil _ | refine Sub.cons (by first | rfl | (rw [dgs_zero]; rfl) | (rw [List.drop_length]; rfl) | (simp; done) | (congr 2; omega) | (congr 3; omega)) ?_)) (by repeat (first | exact Sub.nil _ | refine Sub.cons (by first | rfl | (rw [dgs_zero]; rfl) | (rw [List.drop_length]; rfl) | (simp; done) | (congr 2; omega) | (congr 3; omega)) ?_)) ?_
            rintro j hj0
            refine T.seq ?_
            refine T.text [.l] rfl ?_
            refine J.lss rfl rfl rfl rfl ?_
            refine J.end ?_
            refine X.then ?_
            refine T.seq ?_
            refine T.cond_dec rfl (fun h10 => ?_) (fun h10 => ?_)
            · exact absurd h10 (by omega)
            · skip
              refine T.exit ?_
              refine X.then_exit (X.then_exit (X.inBlock_eq (X.then ?_)))
              refine T.seq ?_
              refine T.seq ?_
              refine T.text [.l, .l, .l, .l] rfl ?_
              refine J.fieldAddr fld56_3 rfl rfl ?_
              refine J.load1 (k := .l) trivial 1 rfl rfl one51 (by first | rfl | with_reducible exact rowN_get0 _ _ _ (by omega) | with_reducible exact rowN_get1 _ _ _ (by omega) | with_reducible exact rowN_get1s _ _ _ _ (by omega) | exact rowN_get1 _ _ _ (by omega) | exact rowN_get1s _ _ _ _ (by omega) | exact rowN_get0 _ _ _ (by omega)) rfl ?_
              refine J.lenSl Tryz.underlying51 rfl rfl ?_
              refine J.eql rfl rfl rfl rfl ?_
              refine J.end ?_
              refine X.then ?_
              refine T.cond_dec rfl (fun h11 => ?_) (fun h11 => ?_)
              · skip
                refine T.seq ?_
                refine T.text [.l, .l] rfl ?_
                refine J.assign rfl rfl ?_
                refine J.assign rfl rfl ?_
                refine J.end ?_
                refine X.then ?_
                refine T.ret ?_
                refine X.then_ret ?_
                exact X.ret2 rfl (RV.tmp rfl) (RV.tmp rfl) (fun w' hw' => ⟨by unfold lookZ; first | (rw [if_pos ⟨by omega, by omega⟩]; done) | (rw [if_pos ⟨by omega, by omega⟩]; rfl) | (rw [if_neg (by omega), if_pos (by omega)]; done) | (rw [if_neg (by omega), if_pos (by omega)]; rfl) | (rw [if_neg (by omega), if_neg (by omega)]; done) | (rw [if_neg (by omega), if_neg (by omega)]; rfl), hw'.sub (Sub.nil _)⟩)
              · exact absurd hc (by omega)
    · skip
      refine J.no rfl rfl rfl rfl ?_
      refine J.no rfl rfl rfl rfl ?_
      refine J.no rfl rfl rfl rfl ?_
      refine J.no rfl rfl rfl rfl ?_
      refine J.pick_f rfl rfl rfl ?_
      refine J.end ?_
      refine X.then ?_
      refine T.cond_false rfl ?_
      refine T.skip ?_
      refine X.then ?_
      refine T.seq ?_
      refine T.seq ?_
      refine T.text [.l, .l, .l, .l, .l, .l, .l, .l, .l, .l] rfl ?_
      refine J.fieldAddr fld56_3 rfl rfl ?_
      refine J.load1 (k := .l) trivial 1 rfl rfl one51 (by first | rfl | with_reducible exact rowN_get0 _ _ _ (by omega) | with_reducible exact rowN_get1 _ _ _ (by omega) | with_reducible exact rowN_get1s _ _ _ _ (by omega) | exact rowN_get1 _ _ _ (by omega) | exact rowN_get1s _ _ _ _ (by omega) | exact rowN_get0 _ _ _ (by omega)) rfl ?_
      refine J.lenSl Tryz.underlying51 rfl rfl ?_
      refine J.eql rfl rfl rfl rfl ?_
      refine J.move rfl rfl ?_
      refine J.split 27 rfl (fun h12 => ?_) (fun h12 => ?_)
      · skip
        refine J.yes rfl rfl ?_
        refine J.fieldAddr fld56_4 rfl rfl ?_
        refine J.yes rfl rfl ?_
        refine J.load1 (k := .l) trivial 1 rfl rfl one54 (by first | rfl | with_reducible exact rowN_get0 _ _ _ (by omega) | with_reducible exact rowN_get1 _ _ _ (by omega) | with_reducible exact rowN_get1s _ _ _ _ (by omega) | exact rowN_get1 _ _ _ (by omega) | exact rowN_get1s _ _ _ _ (by omega) | exact rowN_get0 _ _ _ (by omega)) rfl ?_
        refine J.yes rfl rfl ?_
        refine J.lenSl Tryz.underlying54 rfl rfl ?_
        refine J.yes rfl rfl ?_
        refine J.gtr rfl rfl rfl rfl ?_
        refine J.pick_t rfl rfl rfl ?_
        refine J.end ?_
        refine X.then ?_
        refine T.cond_dec rfl (fun h13 => ?_) (fun h13 => ?_)
        · skip
          refine T.seq ?_
          refine T.text [.l, .l] rfl ?_
          refine J.assign rfl rfl ?_
          refine J.assign rfl rfl ?_
          refine J.end ?_
          refine X.then ?_
          refine T.ret ?_
          refine X.then_ret ?_
          exact X.ret2 rfl (RV.tmp rfl) (RV.tmp rfl) (fun w' hw' => ⟨by unfold lookZ; first | (rw [if_pos ⟨by omega, by omega⟩]; done) | (rw [if_pos ⟨by omega, by omega⟩]; rfl) | (rw [if_neg (by omega), if_pos (by omega)]; done) | (rw [if_neg (by omega), if_pos (by omega)]; rfl) | (rw [if_neg (by omega), if_neg (by omega)]; done) | (rw [if_neg (by omega), if_neg (by omega)]; rfl), hw'.sub (Sub.nil _)⟩)
        · skip
          refine T.skip ?_
          refine X.then ?_
          refine T.seq ?_
          refine T.seq ?_
          refine T.text [.l, .l, .l, .l] rfl ?_
          refine J.fieldAddr fld56_4 rfl rfl ?_
          refine J.load1 (k := .l) trivial 1 rfl rfl one54 (by first | rfl | with_reducible exact rowN_get0 _ _ _ (by omega) | with_reducible exact rowN_get1 _ _ _ (by omega) | with_reducible exact rowN_get1s _ _ _ _ (by omega) | exact rowN_get1 _ _ _ (by omega) | exact rowN_get1s _ _ _ _ (by omega) | exact rowN_get0 _ _ _ (by omega)) rfl ?_
          refine J.lenSl Tryz.underlying54 rfl rfl ?_
          refine J.move rfl rfl ?_
          refine J.end ?_
          refine X.then ?_
          refine T.block ?_
          refine T.loop (ι := Nat) (fun (i : Nat) => i = 0) (fun (i : Nat) => [(0, .agg a.cells.toArray), (1, .pointer (some ⟨g1, 0, none⟩)), (10, .int .u64 ((a.nonce : Nat) : Int)), (12, .bool true), (14, W a.bal), (17, .bool false), (18, undef), (19, undef), (20, undef), (21, undef), (22, .bool false), (24, .slice a.cA a.code.length a.cC), (25, .int .i64 ((a.code.length : Nat) : Int)), (27, .bool true), (29, .slice a.sA a.sl.length a.sC), (30, .int .i64 ((a.sl.length : Nat) : Int)), (34, .slice a.sA a.sl.length a.sC), (35, .int .i64 ((a.sl.length : Nat) : Int)), (36, .int .i64 (i : Int))]) (fun (i : Nat) => [(1, ⟨some g1, 56, (a.cells)⟩)]) (fun (i : Nat) => 0) 0 rfl (by repeat (first | exact Sub.nil _ | refine Sub.cons (by first | rfl | (rw [dgs_zero]; rfl) | (rw [List.drop_length]; rfl) | (simp; done) | (congr 2; omega) | (congr 3; omega)) ?_)) (by repeat (first | exact Sub.nil _ | refine Sub.cons (by first | rfl | (rw [dgs_zero]; rfl) | (rw [List.drop_length]; rfl) | (simp; done) | (congr 2; omega) | (congr 3; omega)) ?_)) ?_
          rintro i hi0
          refine T.seq ?_
          refine T.text [.l] rfl ?_
          refine J.lss rfl rfl rfl rfl ?_
          refine J.end ?_
          refine X.then ?_
          refine T.seq ?_
          refine T.cond_dec rfl (fun h14 => ?_) (fun h14 => ?_)
          · exact absurd h14 (by omega)
          · skip
            refine T.exit ?_
            refine X.then_exit (X.then_exit (X.inBlock_eq (X.then ?_)))
            refine T.seq ?_
            refine T.seq ?_
            refine T.text [.l, .l, .l, .l] rfl ?_
            refine J.fieldAddr fld56_4 rfl rfl ?_
            refine J.load1 (k := .l) trivial 1 rfl rfl one54 (by first | rfl | with_reducible exact rowN_get0 _ _ _ (by omega) | with_reducible exact rowN_get1 _ _ _ (by omega) | with_reducible exact rowN_get1s _ _ _ _ (by omega) | exact rowN_get1 _ _ _ (by omega) | exact rowN_get1s _ _ _ _ (by omega) | exact rowN_get0 _ _ _ (by omega)) rfl ?_
            refine J.lenSl Tryz.underlying54 rfl rfl ?_
            refine J.move rfl rfl ?_
            refine J.end ?_
            refine X.then ?_
            refine T.block ?_
            refine T.loop (ι := Nat) (fun (j : Nat) => j = 0) (fun (j : Nat) => [(0, .agg a.cells.toArray), (1, .pointer (some ⟨g1, 0, none⟩)), (10, .int .u64 ((a.nonce : Nat) : Int)), (12, .bool true), (14, W a.bal), (17, .bool false), (18, undef), (19, undef), (20, undef), (21, undef), (22, .bool false), (24, .slice a.cA a.code.length a.cC), (25, .int .i64 ((a.code.length : Nat) : Int)), (27, .bool true), (29, .slice a.sA a.sl.length a.sC), (30, .int .i64 ((a.sl.length : Nat) : Int)), (34, .slice a.sA a.sl.length a.sC), (35, .int .i64 ((a.sl.length : Nat) : Int)), (60, .slice a.sA a.sl.length a.sC), (61, .int .i64 ((a.sl.length : Nat) : Int)), (62, .int .i64 (j : Int))]) (fun (j : Nat) => [(1, ⟨some g1, 56, (a.cells)⟩)]) (fun (j : Nat) => 0) 0 rfl (by repeat (first | exact Sub.nil _ | refine Sub.cons (by first | rfl | (rw [dgs_zero]; rfl) | (rw [List.drop_length]; rfl) | (simp; done) | (congr 2; omega) | (congr 3; omega)) ?_)) (by repeat (first | exact Sub.nil _ | refine Sub.cons (by first | rfl | (rw [dgs_zero]; rfl) | (rw [List.drop_length]; rfl) | (simp; done) | (congr 2; omega) | (congr 3; omega)) ?_)) ?_
            rintro j hj0
            refine T.seq ?_
            refine T.text [.l] rfl ?_
            refine J.lss rfl rfl rfl rfl ?_
            refine J.end ?_
            refine X.then ?_
            refine T.seq ?_
            refine T.cond_dec rfl (fun h15 => ?_) (fun h15 => ?_)
            · exact absurd h15 (by omega)
            · skip
              refine T.exit ?_
              refine X.then_exit (X.then_exit (X.inBlock_eq (X.then ?_)))
              refine T.seq ?_
              refine T.seq ?_
              refine T.text [.l, .l, .l, .l] rfl ?_
              refine J.fieldAddr fld56_3 rfl rfl ?_
              refine J.load1 (k := .l) trivial 1 rfl rfl one51 (by first | rfl | with_reducible exact rowN_get0 _ _ _ (by omega) | with_reducible exact rowN_get1 _ _ _ (by omega) | with_reducible exact rowN_get1s _ _ _ _ (by omega) | exact rowN_get1 _ _ _ (by omega) | exact rowN_get1s _ _ _ _ (by omega) | exact rowN_get0 _ _ _ (by omega)) rfl ?_
              refine J.lenSl Tryz.underlying51 rfl rfl ?_
              refine J.eql rfl rfl rfl rfl ?_
              refine J.end ?_
              refine X.then ?_
              refine T.cond_dec rfl (fun h16 => ?_) (fun h16 => ?_)
              · skip
                refine T.seq ?_
                refine T.text [.l, .l] rfl ?_
                refine J.assign rfl rfl ?_
                refine J.assign rfl rfl ?_
                refine J.end ?_
                refine X.then ?_
                refine T.ret ?_
                refine X.then_ret ?_
                exact X.ret2 rfl (RV.tmp rfl) (RV.tmp rfl) (fun w' hw' => ⟨by unfold lookZ; first | (rw [if_pos ⟨by omega, by omega⟩]; done) | (rw [if_pos ⟨by omega, by omega⟩]; rfl) | (rw [if_neg (by omega), if_pos (by omega)]; done) | (rw [if_neg (by omega), if_pos (by omega)]; rfl) | (rw [if_neg (by omega), if_neg (by omega)]; done) | (rw [if_neg (by omega), if_neg (by omega)]; rfl), hw'.sub (Sub.nil _)⟩)
              · exact absurd hc (by omega)
      · skip
        refine J.no rfl rfl rfl rfl ?_
        refine J.no rfl rfl rfl rfl ?_
        refine J.no rfl rfl rfl rfl ?_
        refine J.no rfl rfl rfl rfl ?_
        refine J.pick_f rfl rfl rfl ?_
        refine J.end ?_
        refine X.then ?_
        refine T.cond_false rfl ?_
        refine T.skip ?_
        refine X.then ?_
        refine T.seq ?_
        refine T.seq ?_
        refine T.text [.l, .l, .l, .l] rfl ?_
        refine J.fieldAddr fld56_4 rfl rfl ?_
        refine J.load1 (k := .l) trivial 1 rfl rfl one54 (by first | rfl | with_reducible exact rowN_get0 _ _ _ (by omega) | with_reducible exact rowN_get1 _ _ _ (by omega) | with_reducible exact rowN_get1s _ _ _ _ (by omega) | exact rowN_get1 _ _ _ (by omega) | exact rowN_get1s _ _ _ _ (by omega) | exact rowN_get0 _ _ _ (by omega)) rfl ?_
        refine J.lenSl Tryz.underlying54 rfl rfl ?_
        refine J.move rfl rfl ?_
        refine J.end ?_
        refine X.then ?_
        refine T.block ?_
        refine T.loop (ι := Nat) (fun (i : Nat) => i = 0) (fun (i : Nat) => [(0, .agg a.cells.toArray), (1, .pointer (some ⟨g1, 0, none⟩)), (10, .int .u64 ((a.nonce : Nat) : Int)), (12, .bool true), (14, W a.bal), (17, .bool false), (18, undef), (19, undef), (20, undef), (21, undef), (22, .bool false), (24, .slice a.cA a.code.length a.cC), (25, .int .i64 ((a.code.length : Nat) : Int)), (27, .bool false), (28, undef), (29, undef), (30, undef), (31, undef), (32, .bool false), (34, .slice a.sA a.sl.length a.sC), (35, .int .i64 ((a.sl.length : Nat) : Int)), (36, .int .i64 (i : Int))]) (fun (i : Nat) => [(1, ⟨some g1, 56, (a.cells)⟩)]) (fun (i : Nat) => 0) 0 rfl (by repeat (first | exact Sub.nil _ | refine Sub.cons (by first | rfl | (rw [dgs_zero]; rfl) | (rw [List.drop_length]; rfl) | (simp; done) | (congr 2; omega) | (congr 3; omega)) ?_)) (by repeat (first | exact Sub.nil _ | refine Sub.cons (by first | rfl | (rw [dgs_zero]; rfl) | (rw [List.drop_length]; rfl) | (simp; done) | (congr 2; omega) | (congr 3; omega)) ?_)) ?_
        rintro i hi0
        refine T.seq ?_
        refine T.text [.l] rfl ?_
        refine J.lss rfl rfl rfl rfl ?_
        refine J.end ?_
        refine X.then ?_
        refine T.seq ?_
        refine T.cond_dec rfl (fun h17 => ?_) (fun h17 => ?_)
        · exact absurd h17 (by omega)
        · skip
          refine T.exit ?_
          refine X.then_exit (X.then_exit (X.inBlock_eq (X.then ?_)))
          refine T.seq ?_
          refine T.seq ?_
          refine T.text [.l, .l, .l, .l] rfl ?_
          refine J.fieldAddr fld56_4 rfl rfl ?_
          refine J.load1 (k := .l) trivial 1 rfl rfl one54 (by first | rfl | with_reducible exact rowN_get0 _ _ _ (by omega) | with_reducible exact rowN_get1 _ _ _ (by omega) | with_reducible exact rowN_get1s _ _ _ _ (by omega) | exact rowN_get1 _ _ _ (by omega) | exact rowN_get1s _ _ _ _ (by omega) | exact rowN_get0 _ _ _ (by omega)) rfl ?_
          refine J.lenSl Tryz.underlying54 rfl rfl ?_
          refine J.move rfl rfl ?_
          refine J.end ?_
          refine X.then ?_
          refine T.block ?_
          refine T.loop (ι := Nat) (fun (j : Nat) => j = 0) (fun (j : Nat) => [(0, .agg a.cells.toArray), (1, .pointer (some ⟨g1, 0, none⟩)), (10, .int .u64 ((a.nonce : Nat) : Int)), (12, .bool true), (14, W a.bal), (17, .bool false), (18, undef), (19, undef), (20, undef), (21, undef), (22, .bool false), (24, .slice a.cA a.code.length a.cC), (25, .int .i64 ((a.code.length : Nat) : Int)), (27, .bool false), (28, undef), (29, undef), (30, undef), (31, undef), (32, .bool false), (34, .slice a.sA a.sl.length a.sC), (35, .int .i64 ((a.sl.length : Nat) : Int)), (60, .slice a.sA a.sl.length a.sC), (61, .int .i64 ((a.sl.length : Nat) : Int)), (62, .int .i64 (j : Int))]) (fun (j : Nat) => [(1, ⟨some g1, 56, (a.cells)⟩)]) (fun (j : Nat) => 0) 0 rfl (by repeat (first | exact Sub.nil _ | refine Sub.cons (by first | rfl | (rw [dgs_zero]; rfl) | (rw [List.drop_length]; rfl) | (simp; done) | (congr 2; omega) | (congr 3; omega)) ?_)) (by repeat (first | exact Sub.nil _ | refine Sub.cons (by first | rfl | (rw [dgs_zero]; rfl) | (rw [List.drop_length]; rfl) | (simp; done) | (congr 2; omega) | (congr 3; omega)) ?_)) ?_
          rintro j hj0
          refine T.seq ?_
          refine T.text [.l] rfl ?_
          refine J.lss rfl rfl rfl rfl ?_
          refine J.end ?_
          refine X.then ?_
          refine T.seq ?_
          refine T.cond_dec rfl (fun h18 => ?_) (fun h18 => ?_)
          · exact absurd h18 (by omega)
          · skip
            refine T.exit ?_
            refine X.then_exit (X.then_exit (X.inBlock_eq (X.then ?_)))
            refine T.seq ?_
            refine T.seq ?_
            refine T.text [.l, .l, .l, .l] rfl ?_
            refine J.fieldAddr fld56_3 rfl rfl ?_
            refine J.load1 (k := .l) trivial 1 rfl rfl one51 (by first | rfl | with_reducible exact rowN_get0 _ _ _ (by omega) | with_reducible exact rowN_get1 _ _ _ (by omega) | with_reducible exact rowN_get1s _ _ _ _ (by omega) | exact rowN_get1 _ _ _ (by omega) | exact rowN_get1s _ _ _ _ (by omega) | exact rowN_get0 _ _ _ (by omega)) rfl ?_
            refine J.lenSl Tryz.underlying51 rfl rfl ?_
            refine J.eql rfl rfl rfl rfl ?_
            refine J.end ?_
            refine X.then ?_
            refine T.cond_dec rfl (fun h19 => ?_) (fun h19 => ?_)
            · skip
              refine T.seq ?_
              refine T.text [.l, .l] rfl ?_
              refine J.assign rfl rfl ?_
              refine J.assign rfl rfl ?_
              refine J.end ?_
              refine X.then ?_
              refine T.ret ?_
              refine X.then_ret ?_
              exact X.ret2 rfl (RV.tmp rfl) (RV.tmp rfl) (fun w' hw' => ⟨by unfold lookZ; first | (rw [if_pos ⟨by omega, by omega⟩]; done) | (rw [if_pos ⟨by omega, by omega⟩]; rfl) | (rw [if_neg (by omega), if_pos (by omega)]; done) | (rw [if_neg (by omega), if_pos (by omega)]; rfl) | (rw [if_neg (by omega), if_neg (by omega)]; done) | (rw [if_neg (by omega), if_neg (by omega)]; rfl), hw'.sub (Sub.nil _)⟩)
            · exact absurd hc (by omega)
  · skip
    refine J.no rfl rfl rfl rfl ?_
    refine J.no rfl rfl rfl rfl ?_
    refine J.no rfl rfl rfl rfl ?_
    refine J.pick_f rfl rfl rfl ?_
    refine J.move rfl rfl ?_
    refine J.no rfl rfl rfl rfl ?_
    refine J.no rfl rfl rfl rfl ?_
    refine J.no rfl rfl rfl rfl ?_
    refine J.no rfl rfl rfl rfl ?_
    refine J.pick_f rfl rfl rfl ?_
    refine J.end ?_
    refine X.then ?_
    refine T.cond_false rfl ?_
    refine T.skip ?_
    refine X.then ?_
    refine T.seq ?_
    refine T.seq ?_
    refine T.text [.l, .l, .l, .l, .l, .l, .l, .l, .l, .l] rfl ?_
    refine J.fieldAddr fld56_3 rfl rfl ?_
    refine J.load1 (k := .l) trivial 1 rfl rfl one51 (by first | rfl | with_reducible exact rowN_get0 _ _ _ (by omega) | with_reducible exact rowN_get1 _ _ _ (by omega) | with_reducible exact rowN_get1s _ _ _ _ (by omega) | exact rowN_get1 _ _ _ (by omega) | exact rowN_get1s _ _ _ _ (by omega) | exact rowN_get0 _ _ _ (by omega)) rfl ?_
    refine J.lenSl Tryz.underlying51 rfl rfl ?_
    refine J.eql rfl rfl rfl rfl ?_
    refine J.move rfl rfl ?_
    refine J.split 27 rfl (fun h20 => ?_) (fun h20 => ?_)
    · skip
      refine J.yes rfl rfl ?_
      refine J.fieldAddr fld56_4 rfl rfl ?_
      refine J.yes rfl rfl ?_
      refine J.load1 (k := .l) trivial 1 rfl rfl one54 (by first | rfl | with_reducible exact rowN_get0 _ _ _ (by omega) | with_reducible exact rowN_get1 _ _ _ (by omega) | with_reducible exact rowN_get1s _ _ _ _ (by omega) | exact rowN_get1 _ _ _ (by omega) | exact rowN_get1s _ _ _ _ (by omega) | exact rowN_get0 _ _ _ (by omega)) rfl ?_
      refine J.yes rfl rfl ?_
      refine J.lenSl Tryz.underlying54 rfl rfl ?_
      refine J.yes rfl rfl ?_
      refine J.gtr rfl rfl rfl rfl ?_
      refine J.pick_t rfl rfl rfl ?_
      refine J.end ?_
      refine X.then ?_
      refine T.cond_dec rfl (fun h21 => ?_) (fun h21 => ?_)
      · skip
        refine T.seq ?_
        refine T.text [.l, .l] rfl ?_
        refine J.assign rfl rfl ?_
        refine J.assign rfl rfl ?_
        refine J.end ?_
        refine X.then ?_
        refine T.ret ?_
        refine X.then_ret ?_
        exact X.ret2 rfl (RV.tmp rfl) (RV.tmp rfl) (fun w' hw' => ⟨by unfold lookZ; first | (rw [if_pos ⟨by omega, by omega⟩]; done) | (rw [if_pos ⟨by omega, by omega⟩]; rfl) | (rw [if_neg (by omega), if_pos (by omega)]; done) | (rw [if_neg (by omega), if_pos (by omega)]; rfl) | (rw [if_neg (by omega), if_neg (by omega)]; done) | (rw [if_neg (by omega), if_neg (by omega)]; rfl), hw'.sub (Sub.nil _)⟩)
      · skip
        refine T.skip ?_
        refine X.then ?_
        refine T.seq ?_
        refine T.seq ?_
        refine T.text [.l, .l, .l, .l] rfl ?_
        refine J.fieldAddr fld56_4 rfl rfl ?_
        refine J.load1 (k := .l) trivial 1 rfl rfl one54 (by first | rfl | with_reducible exact rowN_get0 _ _ _ (by omega) | with_reducible exact rowN_get1 _ _ _ (by omega) | with_reducible exact rowN_get1s _ _ _ _ (by omega) | exact rowN_get1 _ _ _ (by omega) | exact rowN_get1s _ _ _ _ (by omega) | exact rowN_get0 _ _ _ (by omega)) rfl ?_
        refine J.lenSl Tryz.underlying54 rfl rfl ?_
        refine J.move rfl rfl ?_
        refine J.end ?_
        refine X.then ?_
        refine T.block ?_
        refine T.loop (ι := Nat) (fun (i : Nat) => i = 0) (fun (i : Nat) => [(0, .agg a.cells.toArray), (1, .pointer (some ⟨g1, 0, none⟩)), (10, .int .u64 ((a.nonce : Nat) : Int)), (12, .bool false), (13, undef), (14, undef), (15, undef), (16, .bool false), (17, .bool false), (18, undef), (19, undef), (20, undef), (21, undef), (22, .bool false), (24, .slice a.cA a.code.length a.cC), (25, .int .i64 ((a.code.length : Nat) : Int)), (27, .bool true), (29, .slice a.sA a.sl.length a.sC), (30, .int .i64 ((a.sl.length : Nat) : Int)), (34, .slice a.sA a.sl.length a.sC), (35, .int .i64 ((a.sl.length : Nat) : Int)), (36, .int .i64 (i : Int))]) (fun (i : Nat) => [(1, ⟨some g1, 56, (a.cells)⟩)]) (fun (i : Nat) => 0) 0 rfl (by repeat (first | exact Sub.nil _ | refine Sub.cons (by first | rfl | (rw [dgs_zero]; rfl) | (rw [List.drop_length]; rfl) | (simp; done) | (congr 2; omega) | (congr 3; omega)) ?_)) (by repeat (first | exact Sub.nil _ | refine Sub.cons (by first | rfl | (rw [dgs_zero]; rfl) | (rw [List.drop_length]; rfl) | (simp; done) | (congr 2; omega) | (congr 3; omega)) ?_)) ?_
        rintro i hi0
        refine T.seq ?_
        refine T.text [.l] rfl ?_
        refine J.lss rfl rfl rfl rfl ?_
        refine J.end ?_
        refine X.then ?_
        refine T.seq ?_
        refine T.cond_dec rfl (fun h22 => ?_) (fun h22 => ?_)
        · exact absurd h22 (by omega)
        · skip
          refine T.exit ?_
          refine X.then_exit (X.then_exit (X.inBlock_eq (X.then ?_)))
          refine T.seq ?_
          refine T.seq ?_
          refine T.text [.l, .l, .l, .l] rfl ?_
          refine J.fieldAddr fld56_4 rfl rfl ?_
          refine J.load1 (k := .l) trivial 1 rfl rfl one54 (by first | rfl | with_reducible exact rowN_get0 _ _ _ (by omega) | with_reducible exact rowN_get1 _ _ _ (by omega) | with_reducible exact rowN_get1s _ _ _ _ (by omega) | exact rowN_get1 _ _ _ (by omega) | exact rowN_get1s _ _ _ _ (by omega) | exact rowN_get0 _ _ _ (by omega)) rfl ?_
          refine J.lenSl Tryz.underlying54 rfl rfl ?_
          refine J.move rfl rfl ?_
          refine J.end ?_
          refine X.then ?_
          refine T.block ?_
          refine T.loop (ι := Nat) (fun (j : Nat) => j = 0) (fun (j : Nat) => [(0, .agg a.cells.toArray), (1, .pointer (some ⟨g1, 0, none⟩)), (10, .int .u64 ((a.nonce : Nat) : Int)), (12, .bool false), (13, undef), (14, undef), (15, undef), (16, .bool false), (17, .bool false), (18, undef), (19, undef), (20, undef), (21, undef), (22, .bool false), (24, .slice a.cA a.code.length a.cC), (25, .int .i64 ((a.code.length : Nat) : Int)), (27, .bool true), (29, .slice a.sA a.sl.length a.sC), (30, .int .i64 ((a.sl.length : Nat) : Int)), (34, .slice a.sA a.sl.length a.sC), (35, .int .i64 ((a.sl.length : Nat) : Int)), (60, .slice a.sA a.sl.length a.sC), (61, .int .i64 ((a.sl.length : Nat) : Int)), (62, .int .i64 (j : Int))]) (fun (j : Nat) => [(1, ⟨some g1, 56, (a.cells)⟩)]) (fun (j : Nat) => 0) 0 rfl (by repeat (first | exact Sub.nil _ | refine Sub.cons (by first | rfl | (rw [dgs_zero]; rfl) | (rw [List.drop_length]; rfl) | (simp; done) | (congr 2; omega) | (congr 3; omega)) ?_)) (by repeat (first | exact Sub.nil _ | refine Sub.cons (by first | rfl | (rw [dgs_zero]; rfl) | (rw [List.drop_length]; rfl) | (simp; done) | (congr 2; omega) | (congr 3; omega)) ?_)) ?_
          rintro j hj0
          refine T.seq ?_
          refine T.text [.l] rfl ?_
          refine J.lss rfl rfl rfl rfl ?_
          refine J.end ?_
          refine X.then ?_
          refine T.seq ?_
          refine T.cond_dec rfl (fun h23 => ?_) (fun h23 => ?_)
          · exact absurd h23 (by omega)
          · skip
            refine T.exit ?_
            refine X.then_exit (X.then_exit (X.inBlock_eq (X.then ?_)))
            refine T.seq ?_
            refine T.seq ?_
            refine T.text [.l, .l, .l, .l] rfl ?_
            refine J.fieldAddr fld56_3 rfl rfl ?_
            refine J.load1 (k := .l) trivial 1 rfl rfl one51 (by first | rfl | with_reducible exact rowN_get0 _ _ _ (by omega) | with_reducible exact rowN_get1 _ _ _ (by omega) | with_reducible exact rowN_get1s _ _ _ _ (by omega) | exact rowN_get1 _ _ _ (by omega) | exact rowN_get1s _ _ _ _ (by omega) | exact rowN_get0 _ _ _ (by omega)) rfl ?_
            refine J.lenSl Tryz.underlying51 rfl rfl ?_
            refine J.eql rfl rfl rfl rfl ?_
            refine J.end ?_
            refine X.then ?_
            refine T.cond_dec rfl (fun h24 => ?_) (fun h24 => ?_)
            · skip
              refine T.seq ?_
              refine T.text [.l, .l] rfl ?_
              refine J.assign rfl rfl ?_
              refine J.assign rfl rfl ?_
              refine J.end ?_
              refine X.then ?_
              refine T.ret ?_
              refine X.then_ret ?_
              exact X.ret2 rfl (RV.tmp rfl) (RV.tmp rfl) (fun w' hw' => ⟨by unfold lookZ; first | (rw [if_pos ⟨by omega, by omega⟩]; done) | (rw [if_pos ⟨by omega, by omega⟩]; rfl) | (rw [if_neg (by omega), if_pos (by omega)]; done) | (rw [if_neg (by omega), if_pos (by omega)]; rfl) | (rw [if_neg (by omega), if_neg (by omega)]; done) | (rw [if_neg (by omega), if_neg (by omega)]; rfl), hw'.sub (Sub.nil _)⟩)
            · exact absurd hc (by omega)
    · skip
      refine J.no rfl rfl rfl rfl ?_
      refine J.no rfl rfl rfl rfl ?_
      refine J.no rfl rfl rfl rfl ?_
      refine J.no rfl rfl rfl rfl ?_
      refine J.pick_f rfl rfl rfl ?_
      refine J.end ?_
      refine X.then ?_
      refine T.cond_false rfl ?_
      refine T.skip ?_
      refine X.then ?_
      refine T.seq ?_
      refine T.seq ?_
      refine T.text [.l, .l, .l, .l] rfl ?_
      refine J.fieldAddr fld56_4 rfl rfl ?_
      refine J.load1 (k := .l) trivial 1 rfl rfl one54 (by first | rfl | with_reducible exact rowN_get0 _ _ _ (by omega) | with_reducible exact rowN_get1 _ _ _ (by omega) | with_reducible exact rowN_get1s _ _ _ _ (by omega) | exact rowN_get1 _ _ _ (by omega) | exact rowN_get1s _ _ _ _ (by omega) | exact rowN_get0 _ _ _ (by omega)) rfl ?_
      refine J.lenSl Tryz.underlying54 rfl rfl ?_
      refine J.move rfl rfl ?_
      refine J.end ?_
      refine X.then ?_
      refine T.block ?_
      refine T.loop (ι := Nat) (fun (i : Nat) => i = 0) (fun (i : Nat) => [(0, .agg a.cells.toArray), (1, .pointer (some ⟨g1, 0, none⟩)), (10, .int .u64 ((a.nonce : Nat) : Int)), (12, .bool false), (13, undef), (14, undef), (15, undef), (16, .bool false), (17, .bool false), (18, undef), (19, undef), (20, undef), (21, undef), (22, .bool false), (24, .slice a.cA a.code.length a.cC), (25, .int .i64 ((a.code.length : Nat) : Int)), (27, .bool false), (28, undef), (29, undef), (30, undef), (31, undef), (32, .bool false), (34, .slice a.sA a.sl.length a.sC), (35, .int .i64 ((a.sl.length : Nat) : Int)), (36, .int .i64 (i : Int))]) (fun (i : Nat) => [(1, ⟨some g1, 56, (a.cells)⟩)]) (fun (i : Nat) => 0) 0 rfl (by repeat (first | exact Sub.nil _ | refine Sub.cons (by first | rfl | (rw [dgs_zero]; rfl) | (rw [List.drop_length]; rfl) | (simp; done) | (congr 2; omega) | (congr 3; omega)) ?_)) (by repeat (first | exact Sub.nil _ | refine Sub.cons (by first | rfl | (rw [dgs_zero]; rfl) | (rw [List.drop_length]; rfl) | (simp; done) | (congr 2; omega) | (congr 3; omega)) ?_)) ?_
      rintro i hi0
      refine T.seq ?_
      refine T.text [.l] rfl ?_
      refine J.lss rfl rfl rfl rfl ?_
      refine J.end ?_
      refine X.then ?_
      refine T.seq ?_
      refine T.cond_dec rfl (fun h25 => ?_) (fun h25 => ?_)
      · exact absurd h25 (by omega)
      · skip
        refine T.exit ?_
        refine X.then_exit (X.then_exit (X.inBlock_eq (X.then ?_)))
        refine T.seq ?_
        refine T.seq ?_
        refine T.text [.l, .l, .l, .l] rfl ?_
        refine J.fieldAddr fld56_4 rfl rfl ?_
        refine J.load1 (k := .l) trivial 1 rfl rfl one54 (by first | rfl | with_reducible exact rowN_get0 _ _ _ (by omega) | with_reducible exact rowN_get1 _ _ _ (by omega) | with_reducible exact rowN_get1s _ _ _ _ (by omega) | exact rowN_get1 _ _ _ (by omega) | exact rowN_get1s _ _ _ _ (by omega) | exact rowN_get0 _ _ _ (by omega)) rfl ?_
        refine J.lenSl Tryz.underlying54 rfl rfl ?_
        refine J.move rfl rfl ?_
        refine J.end ?_
        refine X.then ?_
        refine T.block ?_
        refine T.loop (ι := Nat) (fun (j : Nat) => j = 0) (fun (j : Nat) => [(0, .agg a.cells.toArray), (1, .pointer (some ⟨g1, 0, none⟩)), (10, .int .u64 ((a.nonce : Nat) : Int)), (12, .bool false), (13, undef), (14, undef), (15, undef), (16, .bool false), (17, .bool false), (18, undef), (19, undef), (20, undef), (21, undef), (22, .bool false), (24, .slice a.cA a.code.length a.cC), (25, .int .i64 ((a.code.length : Nat) : Int)), (27, .bool false), (28, undef), (29, undef), (30, undef), (31, undef), (32, .bool false), (34, .slice a.sA a.sl.length a.sC), (35, .int .i64 ((a.sl.length : Nat) : Int)), (60, .slice a.sA a.sl.length a.sC), (61, .int .i64 ((a.sl.length : Nat) : Int)), (62, .int .i64 (j : Int))]) (fun (j : Nat) => [(1, ⟨some g1, 56, (a.cells)⟩)]) (fun (j : Nat) => 0) 0 rfl (by repeat (first | exact Sub.nil _ | refine Sub.cons (by first | rfl | (rw [dgs_zero]; rfl) | (rw [List.drop_length]; rfl) | (simp; done) | (congr 2; omega) | (congr 3; omega)) ?_)) (by repeat (first | exact Sub.nil _ | refine Sub.cons (by first | rfl | (rw [dgs_zero]; rfl) | (rw [List.drop_length]; rfl) | (simp; done) | (congr 2; omega) | (congr 3; omega)) ?_)) ?_
        rintro j hj0
        refine T.seq ?_
        refine T.text [.l] rfl ?_
        refine J.lss rfl rfl rfl rfl ?_
        refine J.end ?_
        refine X.then ?_
        refine T.seq ?_
        refine T.cond_dec rfl (fun h26 => ?_) (fun h26 => ?_)
        · exact absurd h26 (by omega)
        · skip
          refine T.exit ?_
          refine X.then_exit (X.then_exit (X.inBlock_eq (X.then ?_)))
          refine T.seq ?_
          refine T.seq ?_
          refine T.text [.l, .l, .l, .l] rfl ?_
          refine J.fieldAddr fld56_3 rfl rfl ?_
          refine J.load1 (k := .l) trivial 1 rfl rfl one51 (by first | rfl | with_reducible exact rowN_get0 _ _ _ (by omega) | with_reducible exact rowN_get1 _ _ _ (by omega) | with_reducible exact rowN_get1s _ _ _ _ (by omega) | exact rowN_get1 _ _ _ (by omega) | exact rowN_get1s _ _ _ _ (by omega) | exact rowN_get0 _ _ _ (by omega)) rfl ?_
          refine J.lenSl Tryz.underlying51 rfl rfl ?_
          refine J.eql rfl rfl rfl rfl ?_
          refine J.end ?_
          refine X.then ?_
          refine T.cond_dec rfl (fun h27 => ?_) (fun h27 => ?_)
          · skip
            refine T.seq ?_
            refine T.text [.l, .l] rfl ?_
            refine J.assign rfl rfl ?_
            refine J.assign rfl rfl ?_
            refine J.end ?_
            refine X.then ?_
            refine T.ret ?_
            refine X.then_ret ?_
            exact X.ret2 rfl (RV.tmp rfl) (RV.tmp rfl) (fun w' hw' => ⟨by unfold lookZ; first | (rw [if_pos ⟨by omega, by omega⟩]; done) | (rw [if_pos ⟨by omega, by omega⟩]; rfl) | (rw [if_neg (by omega), if_pos (by omega)]; done) | (rw [if_neg (by omega), if_pos (by omega)]; rfl) | (rw [if_neg (by omega), if_neg (by omega)]; done) | (rw [if_neg (by omega), if_neg (by omega)]; rfl), hw'.sub (Sub.nil _)⟩)
          · exact absurd hc (by omega)

theorem empty (w : World) (a : Ac) :
    Calls Tryz.prog 52 [.agg a.cells.toArray].toArray w fun e w' => e = .returned (.bool (decide (a.void))) ∧ WS w [] [] w' := by
  refine calls_of_T [] 23 [] Tryz.func52 rfl Tryz.ntmps52 (by simp) (WS.refl _ _) ?_
  refine T.seq ?_
  refine T.text [.l, .l] rfl ?_
  refine J.box 1 rfl rfl (a.cells) rfl rfl (fun g1 hg1 => ?_)
  refine J.assign rfl rfl ?_
  refine J.end ?_
  refine X.then ?_
  refine T.seq ?_
  refine T.text [.l, .l, .l, .l, .l, .l, .l, .l, .l, .l, .l, .l, .l, .l, .l, .l, .l, .l, .l, .l, .l] rfl ?_
  refine J.fieldAddr fld56_1 rfl rfl ?_
  refine J.load1 (k := .l) trivial 1 rfl rfl one48 (by first | rfl | with_reducible exact rowN_get0 _ _ _ (by omega) | with_reducible exact rowN_get1 _ _ _ (by omega) | with_reducible exact rowN_get1s _ _ _ _ (by omega) | exact rowN_get1 _ _ _ (by omega) | exact rowN_get1s _ _ _ _ (by omega) | exact rowN_get0 _ _ _ (by omega)) rfl ?_
  refine J.eql rfl rfl rfl rfl ?_
  refine J.move rfl rfl ?_
  refine J.split 6 rfl (fun h1 => ?_) (fun h1 => ?_)
  · skip
    refine J.yes rfl rfl ?_
    refine J.fieldAddr fld56_2 rfl rfl ?_
    refine J.yes rfl rfl ?_
    refine J.loadN (k := .l) trivial 1 rfl rfl agg50 (wc a.bal) rfl rfl rfl ?_
    refine J.yes rfl rfl ?_
    refine J.call0 (k := .l) trivial fok74 rfl rfl (fun w hw => Wa.IsZero w _) ?_
    refine J.pick_t rfl rfl rfl ?_
    refine J.move rfl rfl ?_
    refine J.split 11 rfl (fun h2 => ?_) (fun h2 => ?_)
    · skip
      refine J.yes rfl rfl ?_
      refine J.fieldAddr fld56_3 rfl rfl ?_
      refine J.yes rfl rfl ?_
      refine J.load1 (k := .l) trivial 1 rfl rfl one51 (by first | rfl | with_reducible exact rowN_get0 _ _ _ (by omega) | with_reducible exact rowN_get1 _ _ _ (by omega) | with_reducible exact rowN_get1s _ _ _ _ (by omega) | exact rowN_get1 _ _ _ (by omega) | exact rowN_get1s _ _ _ _ (by omega) | exact rowN_get0 _ _ _ (by omega)) rfl ?_
      refine J.yes rfl rfl ?_
      refine J.lenSl Tryz.underlying51 rfl rfl ?_
      refine J.yes rfl rfl ?_
      refine J.eql rfl rfl rfl rfl ?_
      refine J.pick_t rfl rfl rfl ?_
      refine J.move rfl rfl ?_
      refine J.split 17 rfl (fun h3 => ?_) (fun h3 => ?_)
      · skip
        refine J.yes rfl rfl ?_
        refine J.fieldAddr fld56_4 rfl rfl ?_
        refine J.yes rfl rfl ?_
        refine J.load1 (k := .l) trivial 1 rfl rfl one54 (by first | rfl | with_reducible exact rowN_get0 _ _ _ (by omega) | with_reducible exact rowN_get1 _ _ _ (by omega) | with_reducible exact rowN_get1s _ _ _ _ (by omega) | exact rowN_get1 _ _ _ (by omega) | exact rowN_get1s _ _ _ _ (by omega) | exact rowN_get0 _ _ _ (by omega)) rfl ?_
        refine J.yes rfl rfl ?_
        refine J.lenSl Tryz.underlying54 rfl rfl ?_
        refine J.yes rfl rfl ?_
        refine J.eql rfl rfl rfl rfl ?_
        refine J.pick_t rfl rfl rfl ?_
        refine J.assign rfl rfl ?_
        refine J.end ?_
        refine X.then ?_
        refine T.ret ?_
        exact X.ret1 rfl (RV.tmp rfl) (fun w' hw' => ⟨by congr 2; unfold Ac.void; first | exact (decide_eq_false (by omega)).symm | exact decide_eq_decide.2 (by omega), hw'.sub (Sub.nil _)⟩)
      · skip
        refine J.no rfl rfl rfl rfl ?_
        refine J.no rfl rfl rfl rfl ?_
        refine J.no rfl rfl rfl rfl ?_
        refine J.no rfl rfl rfl rfl ?_
        refine J.pick_f rfl rfl rfl ?_
        refine J.assign rfl rfl ?_
        refine J.end ?_
        refine X.then ?_
        refine T.ret ?_
        exact X.ret1 rfl (RV.tmp rfl) (fun w' hw' => ⟨by congr 2; unfold Ac.void; first | exact (decide_eq_false (by omega)).symm | exact decide_eq_decide.2 (by omega), hw'.sub (Sub.nil _)⟩)
    · skip
      refine J.no rfl rfl rfl rfl ?_
      refine J.no rfl rfl rfl rfl ?_
      refine J.no rfl rfl rfl rfl ?_
      refine J.no rfl rfl rfl rfl ?_
      refine J.pick_f rfl rfl rfl ?_
      refine J.move rfl rfl ?_
      refine J.no rfl rfl rfl rfl ?_
      refine J.no rfl rfl rfl rfl ?_
      refine J.no rfl rfl rfl rfl ?_
      refine J.no rfl rfl rfl rfl ?_
      refine J.pick_f rfl rfl rfl ?_
      refine J.assign rfl rfl ?_
      refine J.end ?_
      refine X.then ?_
      refine T.ret ?_
      exact X.ret1 rfl (RV.tmp rfl) (fun w' hw' => ⟨by congr 2; unfold Ac.void; first | exact (decide_eq_false (by omega)).symm | exact decide_eq_decide.2 (by omega), hw'.sub (Sub.nil _)⟩)
  · skip
    refine J.no rfl rfl rfl rfl ?_
    refine J.no rfl rfl rfl rfl ?_
    refine J.no rfl rfl rfl rfl ?_
    refine J.pick_f rfl rfl rfl ?_
    refine J.move rfl rfl ?_
    refine J.no rfl rfl rfl rfl ?_
    refine J.no rfl rfl rfl rfl ?_
    refine J.no rfl rfl rfl rfl ?_
    refine J.no rfl rfl rfl rfl ?_
    refine J.pick_f rfl rfl rfl ?_
    refine J.move rfl rfl ?_
    refine J.no rfl rfl rfl rfl ?_
    refine J.no rfl rfl rfl rfl ?_
    refine J.no rfl rfl rfl rfl ?_
    refine J.no rfl rfl rfl rfl ?_
    refine J.pick_f rfl rfl rfl ?_
    refine J.assign rfl rfl ?_
    refine J.end ?_
    refine X.then ?_
    refine T.ret ?_
    exact X.ret1 rfl (RV.tmp rfl) (fun w' hw' => ⟨by congr 2; unfold Ac.void; first | exact (decide_eq_false (by omega)).symm | exact decide_eq_decide.2 (by omega), hw'.sub (Sub.nil _)⟩)
end Go.Proofs.YtlllcafedekojaaGreatDoor.Di
set_option linter.unusedVariables false
set_option maxRecDepth 20000
namespace Go.Proofs.YtlllcafedekojaaGreatDoor.Dj
open Go Go.Fw

theorem sz287 : SizeT Tryz.prog 287 32 := (by unfold SizeT; kernel_rfl)
theorem el112 : ElT Tryz.prog 112 1 8 (.pointer none) := ⟨by kernel_rfl, rfl, by decide, by decide⟩
theorem sz56 : SizeT Tryz.prog 56 27 := (by unfold SizeT; kernel_rfl)
theorem sl22 : SlT Tryz.prog 22 56 27 := ⟨Tryz.underlying22, sz56⟩
theorem agg56 : AggT Tryz.prog 56 27 := ⟨⟨_, Tryz.underlying56, rfl⟩, by kernel_rfl⟩
theorem zero56 : ZeroT Tryz.prog 56 (.agg ([.int .u8 0, .int .u8 0, .int .u8 0, .int .u8 0, .int .u8 0, .int .u8 0, .int .u8 0, .int .u8 0, .int .u8 0, .int .u8 0, .int .u8 0, .int .u8 0, .int .u8 0, .int .u8 0, .int .u8 0, .int .u8 0, .int .u8 0, .int .u8 0, .int .u8 0, .int .u8 0, .int .u64 0, .int .u64 0, .int .u64 0, .int .u64 0, .int .u64 0, .slice none 0 0, .slice none 0 0]).toArray) := (by unfold ZeroT; kernel_rfl)
theorem fok79 : FnOk Tryz.prog 79 := FnOk.mk' Tryz.func79 (by kernel_rfl) rfl
theorem sz112 : SizeT Tryz.prog 112 1 := (by unfold SizeT; kernel_rfl)
theorem sl89 : SlT Tryz.prog 89 112 1 := ⟨Tryz.underlying89, sz112⟩
theorem zero50 : ZeroT Tryz.prog 50 (.agg ([.int .u64 0, .int .u64 0, .int .u64 0, .int .u64 0]).toArray) := (by unfold ZeroT; kernel_rfl)
theorem agg50 : AggT Tryz.prog 50 4 := ⟨⟨_, Tryz.underlying50, rfl⟩, by kernel_rfl⟩
theorem sz50 : SizeT Tryz.prog 50 4 := (by unfold SizeT; kernel_rfl)
theorem fld56_2 : FldT Tryz.prog 56 2 50 21 3 := ⟨by kernel_rfl, sz50⟩
theorem el50 : ElT Tryz.prog 50 4 32 (.agg ([.int .u64 0, .int .u64 0, .int .u64 0, .int .u64 0]).toArray) := ⟨by kernel_rfl, rfl, by decide, by decide⟩
theorem fok80 : FnOk Tryz.prog 80 := FnOk.mk' Tryz.func80 (by kernel_rfl) rfl
theorem fok62 : FnOk Tryz.prog 62 := FnOk.mk' Tryz.func62 (by kernel_rfl) rfl

theorem codes (w : World) (A1 : Option Addr) (c1 : Nat) (a : Ac) (hA : Cs w A1 (rowA [a])) (hc : a.code.length = 0) (h0 : lookZ a = 0) :
    Calls Tryz.prog 62 [.slice A1 1 c1].toArray w fun e w' => ∃ v : Value, True ∧ e = .returned (.tuple #[v, .int .i64 0, .int .i64 0]) ∧ WS w [] [] w' := by
  refine calls_of_T [] 71 [] Tryz.func62 rfl Tryz.ntmps62 (by simp) (WS.refl _ _) ?_
  refine T.seq ?_
  refine T.text [.l, .l, .l] rfl ?_
  refine J.assign rfl rfl ?_
  refine J.assign rfl rfl ?_
  refine J.assign rfl rfl ?_
  refine J.end ?_
  refine X.then ?_
  refine T.seq ?_
  refine T.text [.l, .l, .l, .l] rfl ?_
  refine J.move rfl rfl ?_
  refine J.lenSl Tryz.underlying22 rfl rfl ?_
  refine J.makeSlice 15 rfl (q := 1) (c0 := 1) Tryz.underlying89 el112 rfl rfl (by first | rfl | omega) (by first | rfl | omega) (by omega) (by omega) (by unfold maxLen; omega) rfl (fun g15 hg15 => ?_)
  refine J.assign rfl rfl ?_
  refine J.end ?_
  refine X.then ?_
  refine T.seq ?_
  refine T.seq ?_
  refine T.text [.l, .l, .l] rfl ?_
  refine J.move rfl rfl ?_
  refine J.lenSl Tryz.underlying22 rfl rfl ?_
  refine J.move rfl rfl ?_
  refine J.end ?_
  refine X.then ?_
  refine T.block ?_
  refine T.loop (ι := Nat) (fun (i : Nat) => i ≤ 1) (fun (i : Nat) => [(0, .slice A1 1 c1), (13, .slice A1 1 c1), (14, .int .i64 ((1 : Nat) : Int)), (15, .slice (some ⟨g15, 0, none⟩) 1 1), (5, .slice (some ⟨g15, 0, none⟩) 1 1), (16, .slice A1 1 c1), (17, .int .i64 ((1 : Nat) : Int)), (18, .int .i64 ((i : Nat) : Int))]) (fun (i : Nat) => [(15, ⟨some g15, 112, [.pointer none]⟩)]) (fun (i : Nat) => 1 - i) 0 (Nat.zero_le _) (by repeat (first | exact Sub.nil _ | refine Sub.cons (by first | rfl | (rw [dgs_zero]; rfl) | (rw [List.drop_length]; rfl) | (simp; done) | (congr 2; omega) | (congr 3; omega)) ?_)) (by repeat (first | exact Sub.nil _ | refine Sub.cons (by first | rfl | (rw [dgs_zero]; rfl) | (rw [List.drop_length]; rfl) | (simp; done) | (congr 2; omega) | (congr 3; omega)) ?_)) ?_
  rintro i hi
  refine T.seq ?_
  refine T.text [.l] rfl ?_
  refine J.lss rfl rfl rfl rfl ?_
  refine J.end ?_
  refine X.then ?_
  refine T.seq ?_
  refine T.cond_dec rfl (fun h1 => ?_) (fun h1 => ?_)
  · obtain rfl : i = 0 := by omega
    refine T.skip ?_
    refine X.then ?_
    refine T.seq ?_
    refine T.block ?_
    refine T.seq ?_
    refine T.text [.l, .l, .l, .l, .l, .l] rfl ?_
    refine J.move rfl rfl ?_
    refine J.indexSlI sl22 rfl (hA.isSome (by rw [rowA_length]; simp)) rfl (by omega) (by omega) (by first | exact Int.toNat_natCast _ | rfl) rfl ?_
    refine J.loadIN (k := .l) trivial hA (off_nil _) rfl agg56 (a.cells) rfl (by rw [rowA_seg [a] 0 (by simp)]; rfl) rfl ?_
    refine J.alloc 7 rfl zero56 [.int .u8 0, .int .u8 0, .int .u8 0, .int .u8 0, .int .u8 0, .int .u8 0, .int .u8 0, .int .u8 0, .int .u8 0, .int .u8 0, .int .u8 0, .int .u8 0, .int .u8 0, .int .u8 0, .int .u8 0, .int .u8 0, .int .u8 0, .int .u8 0, .int .u8 0, .int .u8 0, .int .u64 0, .int .u64 0, .int .u64 0, .int .u64 0, .int .u64 0, .slice none 0 0, .slice none 0 0] rfl rfl (fun g7 hg7 => ?_)
    refine J.assign rfl rfl ?_
    refine J.store 7 rfl rfl rfl rfl (a.cells) rfl sz56 (Nat.le_of_ble_eq_true rfl) (by first | exact Ac.cells_one _) (Nat.zero_lt_succ _) trivial (a.cells) rfl ?_
    refine J.end ?_
    refine X.then ?_
    refine T.seq ?_
    refine T.seq ?_
    refine T.draw [] [(0, .g), (1, .g), (2, .g), (3, .g), (4, .g), (5, .g), (6, .g), (7, .g), (8, .q), (9, .g), (10, .q), (11, .q), (12, .g), (13, .g)] (by kernel_rfl) (by kernel_rfl) ?_ (by repeat (first | exact Sub.nil _ | refine Sub.cons (by first | rfl | (rw [dgs_zero]; rfl) | (rw [List.drop_length]; rfl) | (simp; done) | (congr 2; omega) | (congr 3; omega)) ?_))
    refine J.move rfl rfl ?_
    refine J.gtr rfl rfl rfl (decide_eq_false (by first | omega | rfl | assumption | (simp only [*]; done))) ?_
    refine J.move rfl rfl ?_
    refine J.no rfl rfl rfl rfl ?_
    refine J.no rfl rfl rfl rfl ?_
    refine J.no rfl rfl rfl rfl ?_
    refine J.no rfl rfl rfl rfl ?_
    refine J.no rfl rfl rfl rfl ?_
    refine J.no rfl rfl rfl rfl ?_
    refine J.no rfl rfl rfl rfl ?_
    refine J.no rfl rfl rfl rfl ?_
    refine J.no rfl rfl rfl rfl ?_
    refine J.no rfl rfl rfl rfl ?_
    refine J.pick_f rfl rfl rfl ?_
    refine J.end ?_
    refine X.then ?_
    refine T.cond_false rfl ?_
    refine T.skip ?_
    refine X.then ?_
    refine T.seq ?_
    refine T.text [.l] rfl ?_
    refine J.assign rfl rfl ?_
    refine J.end ?_
    refine X.then ?_
    refine T.seq ?_
    refine T.text [.l, .l, .l, .l, .l, .l, .l, .l, .l, .l] rfl ?_
    refine J.move rfl rfl ?_
    refine J.move rfl rfl ?_
    refine J.loadN (k := .l) trivial 7 rfl rfl agg56 (a.cells) rfl rfl rfl ?_
    refine J.call0 (k := .l) trivial fok79 rfl rfl (fun w hw => Di.look w a hc) ?_
    refine J.move rfl rfl ?_
    refine J.extract rfl rfl rfl ?_
    refine J.extract rfl rfl rfl ?_
    refine J.as 44 (.int .i64 0) rfl (by rw [h0]) ?_
    refine J.indexSlB sl89 rfl rfl (by omega) (by omega) (by first | exact Int.toNat_natCast _ | rfl) rfl ?_
    refine J.store 15 rfl rfl rfl rfl [.pointer none] rfl sz112 (by first | decide | exact Nat.le_refl _ | exact Nat.le_of_ble_eq_true rfl | (simp [rowN]; done) | (simp [rowN]; omega)) (by first | exact rowN_one _ _ | (simp; done) | (intro u hu; simp at hu; subst hu; rfl) | (intro u hu; simp at hu; rcases hu with rfl | rfl <;> rfl)) (by first | decide | exact Nat.zero_lt_succ _ | simp) trivial [.pointer none] rfl ?_
    refine J.assign rfl rfl ?_
    refine J.end ?_
    refine X.then ?_
    refine T.seq ?_
    refine T.text [.l, .l] rfl ?_
    refine J.move rfl rfl ?_
    refine J.neq rfl rfl rfl (show decide ((0:Int) ≠ 0) = false by decide) ?_
    refine J.end ?_
    refine X.then ?_
    refine T.cond_false rfl ?_
    refine T.skip ?_
    refine X.inBlock (X.then ?_)
    refine T.text [.l, .l] rfl ?_
    refine J.add rfl rfl rfl (by first | exact add_nat _ 1 (by omega) | exact i64_ok _ (by omega) | exact rfl) ?_
    refine J.move rfl rfl ?_
    refine J.end ?_
    exact X.round (0 + 1) (Nat.le_refl _) (by first | omega | (dsimp only; omega)) (by repeat (first | exact Sub.nil _ | refine Sub.cons (by first | rfl | (rw [dgs_zero]; rfl) | (rw [List.drop_length]; rfl) | (simp; done) | (congr 2; omega) | (congr 3; omega)) ?_)) (by repeat (first | exact Sub.nil _ | refine Sub.cons (by first | rfl | (rw [dgs_zero]; rfl) | (rw [List.drop_length]; rfl) | (simp; done) | (congr 2; omega) | (congr 3; omega)) ?_))
  · skip
    refine T.exit ?_
    refine X.then_exit (X.then_exit (X.inBlock_eq (X.then ?_)))
    refine T.seq ?_
    refine T.text [.l] rfl ?_
    refine J.alloc 9 rfl zero50 [.int .u64 0, .int .u64 0, .int .u64 0, .int .u64 0] rfl rfl (fun g9 hg9 => ?_)
    refine J.end ?_
    refine X.then ?_
    refine T.seq ?_
    refine T.seq ?_
    refine T.text [.l, .l, .l] rfl ?_
    refine J.move rfl rfl ?_
    refine J.lenSl Tryz.underlying22 rfl rfl ?_
    refine J.move rfl rfl ?_
    refine J.end ?_
    refine X.then ?_
    refine T.block ?_
    refine T.loop (ι := Nat × Nat) (fun ((j, s) : Nat × Nat) => j ≤ 1 ∧ (j = 0 → s = 0)) (fun ((j, s) : Nat × Nat) => [(0, .slice A1 1 c1), (13, .slice A1 1 c1), (14, .int .i64 ((1 : Nat) : Int)), (15, .slice (some ⟨g15, 0, none⟩) 1 1), (5, .slice (some ⟨g15, 0, none⟩) 1 1), (16, .slice A1 1 c1), (17, .int .i64 ((1 : Nat) : Int)), (18, .int .i64 ((i : Nat) : Int)), (9, .pointer (some ⟨g9, 0, none⟩)), (51, .slice A1 1 c1), (52, .int .i64 ((1 : Nat) : Int)), (53, .int .i64 ((j : Nat) : Int))]) (fun ((j, s) : Nat × Nat) => [(15, ⟨some g15, 112, [.pointer none]⟩), (9, ⟨some g9, 50, wc s⟩)]) (fun ((j, s) : Nat × Nat) => 1 - j) ⟨0, 0⟩ ⟨Nat.zero_le _, fun _ => rfl⟩ (by repeat (first | exact Sub.nil _ | refine Sub.cons (by first | rfl | (rw [dgs_zero]; rfl) | (rw [List.drop_length]; rfl) | (simp; done) | (congr 2; omega) | (congr 3; omega)) ?_)) (by repeat (first | exact Sub.nil _ | refine Sub.cons (by first | rfl | (rw [dgs_zero]; rfl) | (rw [List.drop_length]; rfl) | (simp; done) | (congr 2; omega) | (congr 3; omega)) ?_)) ?_
    rintro ⟨j, s⟩ ⟨hj, hs⟩
    try dsimp only at *
    refine T.seq ?_
    refine T.text [.l] rfl ?_
    refine J.lss rfl rfl rfl rfl ?_
    refine J.end ?_
    refine X.then ?_
    refine T.seq ?_
    refine T.cond_dec rfl (fun h2 => ?_) (fun h2 => ?_)
    · obtain rfl : j = 0 := by omega
      obtain rfl := hs rfl
      refine T.skip ?_
      refine X.then ?_
      refine T.seq ?_
      refine T.block ?_
      refine T.seq ?_
      refine T.text [.l, .l, .l, .l, .l, .l] rfl ?_
      refine J.move rfl rfl ?_
      refine J.indexSlI sl22 rfl (hA.isSome (by rw [rowA_length]; simp)) rfl (by omega) (by omega) (by first | exact Int.toNat_natCast _ | rfl) rfl ?_
      refine J.loadIN (k := .l) trivial hA (off_nil _) rfl agg56 (a.cells) rfl (by rw [rowA_seg [a] 0 (by simp)]; rfl) rfl ?_
      refine J.alloc 11 rfl zero56 [.int .u8 0, .int .u8 0, .int .u8 0, .int .u8 0, .int .u8 0, .int .u8 0, .int .u8 0, .int .u8 0, .int .u8 0, .int .u8 0, .int .u8 0, .int .u8 0, .int .u8 0, .int .u8 0, .int .u8 0, .int .u8 0, .int .u8 0, .int .u8 0, .int .u8 0, .int .u8 0, .int .u64 0, .int .u64 0, .int .u64 0, .int .u64 0, .int .u64 0, .slice none 0 0, .slice none 0 0] rfl rfl (fun g11 hg11 => ?_)
      refine J.assign rfl rfl ?_
      refine J.store 11 rfl rfl rfl rfl (a.cells) rfl sz56 (Nat.le_of_ble_eq_true rfl) (by first | exact Ac.cells_one _) (Nat.zero_lt_succ _) trivial (a.cells) rfl ?_
      refine J.end ?_
      refine X.then ?_
      refine T.seq ?_
      refine T.text [.l] rfl ?_
      refine J.assign rfl rfl ?_
      refine J.end ?_
      refine X.then ?_
      refine T.seq ?_
      refine T.text [.l, .l, .l, .l, .l, .l, .l, .l, .l, .l] rfl ?_
      refine J.loadN (k := .l) trivial 9 rfl rfl agg50 (wc 0) rfl rfl rfl ?_
      refine J.fieldAddr fld56_2 rfl rfl ?_
      refine J.loadN (k := .l) trivial 11 rfl rfl agg50 (wc a.bal) rfl rfl rfl ?_
      refine J.litWs 62 rfl [0, a.bal] Tryz.underlying128 el50 (Nat.zero_lt_succ _) rfl (by decide) rfl rfl (fun g62 hg62 => ?_)
      refine J.call0 (k := .l) trivial fok80 rfl rfl (fun w hw => Wa.Sum w _ _ [0, a.bal] (hw.blkCs (k := 62) rfl) (by simp)) ?_
      refine J.move rfl rfl ?_
      refine J.extract rfl rfl rfl ?_
      refine J.extract rfl rfl rfl ?_
      refine J.as 65 (.bool true) rfl (by rw [decide_eq_true (sum0 a.bal)]) ?_
      refine J.store 9 rfl rfl rfl rfl (wc (if sumN [0, a.bal] < 2 ^ 256 then sumN [0, a.bal] else 0)) rfl sz50 (by first | decide | exact Nat.le_refl _ | exact Nat.le_of_ble_eq_true rfl | (simp [rowN]; done) | (simp [rowN]; omega)) (by first | exact rowN_one _ _ | (simp; done) | (intro u hu; simp at hu; subst hu; rfl) | (intro u hu; simp at hu; rcases hu with rfl | rfl <;> rfl)) (by first | decide | exact Nat.zero_lt_succ _ | simp) trivial (wc (if sumN [0, a.bal] < 2 ^ 256 then sumN [0, a.bal] else 0)) rfl ?_
      refine J.assign rfl rfl ?_
      refine J.end ?_
      refine X.then ?_
      refine T.seq ?_
      refine T.text [.l, .l] rfl ?_
      refine J.move rfl rfl ?_
      refine J.not rfl rfl rfl ?_
      refine J.end ?_
      refine X.then ?_
      refine T.cond_false rfl ?_
      refine T.skip ?_
      refine X.inBlock (X.then ?_)
      refine T.text [.l, .l] rfl ?_
      refine J.add rfl rfl rfl (by first | exact add_nat _ 1 (by omega) | exact i64_ok _ (by omega) | exact rfl) ?_
      refine J.move rfl rfl ?_
      refine J.end ?_
      exact X.round ⟨(0 + 1), (if sumN [0, a.bal] < 2 ^ 256 then sumN [0, a.bal] else 0)⟩ ⟨Nat.le_refl _, fun q => by cases q⟩ (by first | omega | (dsimp only; omega)) (by repeat (first | exact Sub.nil _ | refine Sub.cons (by first | rfl | (rw [dgs_zero]; rfl) | (rw [List.drop_length]; rfl) | (simp; done) | (congr 2; omega) | (congr 3; omega)) ?_)) (by repeat (first | exact Sub.nil _ | refine Sub.cons (by first | rfl | (rw [dgs_zero]; rfl) | (rw [List.drop_length]; rfl) | (simp; done) | (congr 2; omega) | (congr 3; omega)) ?_))
    · skip
      refine T.exit ?_
      refine X.then_exit (X.then_exit (X.inBlock_eq (X.then ?_)))
      refine T.seq ?_
      refine T.text [.l, .l, .l, .l] rfl ?_
      refine J.move rfl rfl ?_
      refine J.assign rfl rfl ?_
      refine J.assign rfl rfl ?_
      refine J.assign rfl rfl ?_
      refine J.end ?_
      refine X.then ?_
      refine T.ret ?_
      exact X.ret3 rfl (RV.tmp rfl) (RV.tmp rfl) (RV.tmp rfl) (fun w' hw' => ⟨.slice (some ⟨g15, 0, none⟩) 1 1, trivial, rfl, hw'.sub (Sub.nil _)⟩)

theorem Check (w : World) (A1 : Option Addr) (c1 : Nat) (a : Ac) (hA : Cs w A1 (rowA [a])) (hc : a.code.length = 0) (h0 : lookZ a = 0) :
    Calls Tryz.prog 35 [.slice A1 1 c1].toArray w fun e w' => e = .returned (.tuple #[.int .i64 0, .int .i64 0]) ∧ WS w [] [] w' := by
  refine calls_of_T [] 15 [] Tryz.func35 rfl Tryz.ntmps35 (by simp) (WS.refl _ _) ?_
  refine T.seq ?_
  refine T.text [.l, .l] rfl ?_
  refine J.assign rfl rfl ?_
  refine J.assign rfl rfl ?_
  refine J.end ?_
  refine X.then ?_
  refine T.seq ?_
  refine T.text [.l, .l, .l, .l, .l, .l, .l, .l, .l] rfl ?_
  refine J.move rfl rfl ?_
  refine J.callB fok62 rfl rfl _ _ [] (by repeat (first | exact Sub.nil _ | refine Sub.cons (by first | rfl | (rw [dgs_zero]; rfl) | (rw [List.drop_length]; rfl) | (simp; done) | (congr 2; omega) | (congr 3; omega)) ?_ | exact Sub.refl _ | refine sub_snap ?_ rfl)) rfl (fun _ _ => Sub.nil _) (fun w hw => Dj.codes w _ _ a (hA.ws hw (off_nil _)) hc h0) (fun i9 W9 hP9 hW9 => ?_)
  have hVW9 := hW9.sub (Sub.nil _)
  refine J.move rfl rfl ?_
  refine J.extract rfl rfl rfl ?_
  refine J.extract rfl rfl rfl ?_
  refine J.extract rfl rfl rfl ?_
  refine J.assign rfl rfl ?_
  refine J.assign rfl rfl ?_
  refine J.assign rfl rfl ?_
  refine J.end ?_
  refine X.then ?_
  refine T.seq ?_
  refine T.text [.l, .l, .l, .l] rfl ?_
  refine J.move rfl rfl ?_
  refine J.move rfl rfl ?_
  refine J.assign rfl rfl ?_
  refine J.assign rfl rfl ?_
  refine J.end ?_
  refine X.then ?_
  refine T.ret ?_
  exact X.ret2 rfl (RV.tmp rfl) (RV.tmp rfl) (fun w' hw' => ⟨rfl, hw'.sub (Sub.nil _)⟩)
end Go.Proofs.YtlllcafedekojaaGreatDoor.Dj
set_option linter.unusedVariables false
set_option maxRecDepth 20000
namespace Go.Proofs.YtlllcafedekojaaGreatDoor.Dk
open Go Go.Fw

theorem sz287 : SizeT Tryz.prog 287 32 := (by unfold SizeT; kernel_rfl)
theorem zero50 : ZeroT Tryz.prog 50 (.agg ([.int .u64 0, .int .u64 0, .int .u64 0, .int .u64 0]).toArray) := (by unfold ZeroT; kernel_rfl)
theorem sz48 : SizeT Tryz.prog 48 1 := (by unfold SizeT; kernel_rfl)
theorem fld56_1 : FldT Tryz.prog 56 1 48 20 0 := ⟨by kernel_rfl, sz48⟩
theorem one48 : OneT Tryz.prog 48 := ⟨⟨_, Tryz.underlying48, rfl⟩, by kernel_rfl⟩
theorem fok82 : FnOk Tryz.prog 82 := FnOk.mk' Tryz.func82 (by kernel_rfl) rfl
theorem sz50 : SizeT Tryz.prog 50 4 := (by unfold SizeT; kernel_rfl)
theorem agg50 : AggT Tryz.prog 50 4 := ⟨⟨_, Tryz.underlying50, rfl⟩, by kernel_rfl⟩
theorem fld56_2 : FldT Tryz.prog 56 2 50 21 3 := ⟨by kernel_rfl, sz50⟩
theorem sz51 : SizeT Tryz.prog 51 1 := (by unfold SizeT; kernel_rfl)
theorem fld56_3 : FldT Tryz.prog 56 3 51 25 0 := ⟨by kernel_rfl, sz51⟩
theorem one51 : OneT Tryz.prog 51 := ⟨⟨_, Tryz.underlying51, rfl⟩, by kernel_rfl⟩
theorem fok84 : FnOk Tryz.prog 84 := FnOk.mk' Tryz.func84 (by kernel_rfl) rfl
theorem zero97 : ZeroT Tryz.prog 97 (.agg ([.nilFunc, .nilFunc, .nilFunc, .nilFunc, .nilFunc, .nilFunc, .nilFunc, .nilFunc]).toArray) := (by unfold ZeroT; kernel_rfl)
theorem sz97 : SizeT Tryz.prog 97 8 := (by unfold SizeT; kernel_rfl)
theorem agg97 : AggT Tryz.prog 97 8 := ⟨⟨_, Tryz.underlying97, rfl⟩, by kernel_rfl⟩

theorem getN (w : World) (g : Nat) (a : Ac) (hn : a.nonce < 18446744073709551616) (hcS : Cs w (some ⟨g, 0, none⟩) a.cells) :
    Calls Tryz.prog 81 [.pointer (some ⟨g, 0, none⟩)].toArray w fun e w' => e = .returned (.tuple #[W a.nonce, .slice none 0 0]) ∧ WS w [] [] w' := by
  refine calls_of_T [] 9 [] Tryz.func81 rfl Tryz.ntmps81 (by simp) (WS.refl _ _) ?_
  refine T.seq ?_
  refine T.text [.l, .l] rfl ?_
  refine J.alloc 2 rfl zero50 [.int .u64 0, .int .u64 0, .int .u64 0, .int .u64 0] rfl rfl (fun g2 hg2 => ?_)
  refine J.assign rfl rfl ?_
  refine J.end ?_
  refine X.then ?_
  refine T.seq ?_
  refine T.text [.l, .l, .l, .l, .l, .l, .l] rfl ?_
  refine J.move rfl rfl ?_
  refine J.nilCheck rfl rfl ?_
  refine J.fieldAddr fld56_1 rfl rfl ?_
  refine J.loadB1 (k := .l) trivial hcS (off_nil _) rfl one48 rfl rfl ?_
  refine J.call0 (k := .l) trivial fok82 rfl rfl (fun w hw => Di.FromUint w a.nonce hn) ?_
  refine J.store 2 rfl rfl rfl rfl (wc a.nonce) rfl sz50 (by first | decide | exact Nat.le_refl _ | exact Nat.le_of_ble_eq_true rfl | (simp [rowN]; done) | (simp [rowN]; omega)) (by first | exact rowN_one _ _ | (simp; done) | (intro u hu; simp at hu; subst hu; rfl) | (intro u hu; simp at hu; rcases hu with rfl | rfl <;> rfl)) (by first | decide | exact Nat.zero_lt_succ _ | simp) trivial (wc a.nonce) rfl ?_
  refine J.assign rfl rfl ?_
  refine J.end ?_
  refine X.then ?_
  refine T.ret ?_
  exact X.ret2 rfl (RV.agg 2 rfl rfl agg50 (wc a.nonce) (by rfl) (by rfl) rfl) (RV.tmp rfl) (fun w' hw' => ⟨rfl, hw'.sub (Sub.nil _)⟩)

theorem getB (w : World) (g : Nat) (a : Ac) (hn : a.nonce < 18446744073709551616) (hcS : Cs w (some ⟨g, 0, none⟩) a.cells) :
    Calls Tryz.prog 85 [.pointer (some ⟨g, 0, none⟩)].toArray w fun e w' => e = .returned (.tuple #[W a.bal, .slice none 0 0]) ∧ WS w [] [] w' := by
  refine calls_of_T [] 8 [] Tryz.func85 rfl Tryz.ntmps85 (by simp) (WS.refl _ _) ?_
  refine T.seq ?_
  refine T.text [.l, .l] rfl ?_
  refine J.alloc 2 rfl zero50 [.int .u64 0, .int .u64 0, .int .u64 0, .int .u64 0] rfl rfl (fun g2 hg2 => ?_)
  refine J.assign rfl rfl ?_
  refine J.end ?_
  refine X.then ?_
  refine T.seq ?_
  refine T.text [.l, .l, .l, .l, .l, .l] rfl ?_
  refine J.move rfl rfl ?_
  refine J.nilCheck rfl rfl ?_
  refine J.fieldAddr fld56_2 rfl rfl ?_
  refine J.loadBW (k := .l) trivial hcS (off_nil _) rfl agg50 rfl rfl ?_
  refine J.store 2 rfl rfl rfl rfl (wc a.bal) rfl sz50 (by first | decide | exact Nat.le_refl _ | exact Nat.le_of_ble_eq_true rfl | (simp [rowN]; done) | (simp [rowN]; omega)) (by first | exact rowN_one _ _ | (simp; done) | (intro u hu; simp at hu; subst hu; rfl) | (intro u hu; simp at hu; rcases hu with rfl | rfl <;> rfl)) (by first | decide | exact Nat.zero_lt_succ _ | simp) trivial (wc a.bal) rfl ?_
  refine J.assign rfl rfl ?_
  refine J.end ?_
  refine X.then ?_
  refine T.ret ?_
  exact X.ret2 rfl (RV.agg 2 rfl rfl agg50 (wc a.bal) (by rfl) (by rfl) rfl) (RV.tmp rfl) (fun w' hw' => ⟨rfl, hw'.sub (Sub.nil _)⟩)

theorem getC (w : World) (g : Nat) (a : Ac) (hn : a.nonce < 18446744073709551616) (hcS : Cs w (some ⟨g, 0, none⟩) a.cells) :
    Calls Tryz.prog 87 [.pointer (some ⟨g, 0, none⟩)].toArray w fun e w' => e = .returned (.tuple #[W 0, .slice a.cA a.code.length a.cC]) ∧ WS w [] [] w' := by
  refine calls_of_T [] 9 [] Tryz.func87 rfl Tryz.ntmps87 (by simp) (WS.refl _ _) ?_
  refine T.seq ?_
  refine T.text [.l, .l] rfl ?_
  refine J.alloc 2 rfl zero50 [.int .u64 0, .int .u64 0, .int .u64 0, .int .u64 0] rfl rfl (fun g2 hg2 => ?_)
  refine J.assign rfl rfl ?_
  refine J.end ?_
  refine X.then ?_
  refine T.seq ?_
  refine T.draw [] [(0, .g), (1, .g), (2, .g), (3, .g), (4, .s), (5, .l), (6, .g)] (by kernel_rfl) (by kernel_rfl) ?_ (by repeat (first | exact Sub.nil _ | refine Sub.cons (by first | rfl | (rw [dgs_zero]; rfl) | (rw [List.drop_length]; rfl) | (simp; done) | (congr 2; omega) | (congr 3; omega)) ?_))
  refine J.build rfl rfl (W 0) (fun w => by kernel_rfl) ?_
  refine J.move rfl rfl ?_
  refine J.nilCheck rfl rfl ?_
  refine J.fieldAddr fld56_3 rfl rfl ?_
  refine J.loadB1s hcS (off_nil _) rfl one51 rfl rfl ?_
  refine J.store 2 rfl rfl rfl rfl (wc 0) rfl sz50 (by first | decide | exact Nat.le_refl _ | exact Nat.le_of_ble_eq_true rfl | (simp [rowN]; done) | (simp [rowN]; omega)) (by first | exact rowN_one _ _ | (simp; done) | (intro u hu; simp at hu; subst hu; rfl) | (intro u hu; simp at hu; rcases hu with rfl | rfl <;> rfl)) (by first | decide | exact Nat.zero_lt_succ _ | simp) trivial (wc 0) rfl ?_
  refine J.assign rfl rfl ?_
  refine J.end ?_
  refine X.then ?_
  refine T.ret ?_
  exact X.ret2 rfl (RV.agg 2 rfl rfl agg50 (wc 0) (by rfl) (by rfl) rfl) (RV.tmp rfl) (fun w' hw' => ⟨rfl, hw'.sub (Sub.nil _)⟩)

theorem setN (w : World) (g : Nat) (a : Ac) (x0 : Nat) (v : Value) (hat : Ent.At w ⟨some g, 56, a.cells⟩) :
    Calls Tryz.prog 83 [.pointer (some ⟨g, 0, none⟩), W x0, v].toArray w fun e w' => e = .returned (.tuple #[]) ∧ WS w [g] [(0, ⟨some g, 56, (a.setN x0).cells⟩)] w' := by
  refine calls_of_T [g] 14 [(0, ⟨some g, 56, a.cells⟩)] Tryz.func83 rfl Tryz.ntmps83 (by simp) (WS.one hat) ?_
  refine T.seq ?_
  refine T.text [.l] rfl ?_
  refine J.box 4 rfl rfl (wc x0) rfl rfl (fun g4 hg4 => ?_)
  refine J.end ?_
  refine X.then ?_
  refine T.text [.l, .l, .l, .l, .l, .l, .l, .l, .l] rfl ?_
  refine J.move rfl rfl ?_
  refine J.loadN (k := .l) trivial 4 rfl rfl agg50 (wc x0) rfl rfl rfl ?_
  refine J.call0 (k := .l) trivial fok84 rfl rfl (fun w hw => Wa.Uint w _) ?_
  refine J.move rfl rfl ?_
  refine J.extract rfl rfl rfl ?_
  refine J.extract rfl rfl rfl ?_
  refine J.nilCheck rfl rfl ?_
  refine J.fieldAddr fld56_1 rfl rfl ?_
  refine J.store 0 rfl rfl rfl rfl [.int .u64 ((if sizeN x0 > 8 then 0 else lim x0 0 : Nat) : Int)] rfl sz48 (by first | decide | exact Nat.le_refl _ | exact Nat.le_of_ble_eq_true rfl | (simp [rowN]; done) | (simp [rowN]; omega)) (by first | exact rowN_one _ _ | (simp; done) | (intro u hu; simp at hu; subst hu; rfl) | (intro u hu; simp at hu; rcases hu with rfl | rfl <;> rfl)) (by first | decide | exact Nat.zero_lt_succ _ | simp) trivial (a.setN x0).cells rfl ?_
  refine J.end ?_
  exact X.end0 rfl (fun w' hw' => ⟨rfl, hw'.only 0 0 rfl⟩)

theorem setB (w : World) (g : Nat) (a : Ac) (x0 : Nat) (v : Value) (hat : Ent.At w ⟨some g, 56, a.cells⟩) :
    Calls Tryz.prog 86 [.pointer (some ⟨g, 0, none⟩), W x0, v].toArray w fun e w' => e = .returned (.tuple #[]) ∧ WS w [g] [(0, ⟨some g, 56, (a.setB x0).cells⟩)] w' := by
  refine calls_of_T [g] 10 [(0, ⟨some g, 56, a.cells⟩)] Tryz.func86 rfl Tryz.ntmps86 (by simp) (WS.one hat) ?_
  refine T.seq ?_
  refine T.text [.l] rfl ?_
  refine J.box 4 rfl rfl (wc x0) rfl rfl (fun g4 hg4 => ?_)
  refine J.end ?_
  refine X.then ?_
  refine T.text [.l, .l, .l, .l, .l] rfl ?_
  refine J.move rfl rfl ?_
  refine J.loadN (k := .l) trivial 4 rfl rfl agg50 (wc x0) rfl rfl rfl ?_
  refine J.nilCheck rfl rfl ?_
  refine J.fieldAddr fld56_2 rfl rfl ?_
  refine J.store 0 rfl rfl rfl rfl (wc x0) rfl sz50 (by first | decide | exact Nat.le_refl _ | exact Nat.le_of_ble_eq_true rfl | (simp [rowN]; done) | (simp [rowN]; omega)) (by first | exact rowN_one _ _ | (simp; done) | (intro u hu; simp at hu; subst hu; rfl) | (intro u hu; simp at hu; rcases hu with rfl | rfl <;> rfl)) (by first | decide | exact Nat.zero_lt_succ _ | simp) trivial (a.setB x0).cells rfl ?_
  refine J.end ?_
  exact X.end0 rfl (fun w' hw' => ⟨rfl, hw'.only 0 0 rfl⟩)

theorem views (w : World) :
    Calls Tryz.prog 64 [].toArray w fun e w' => e = .returned (.agg ([.nilFunc, .nilFunc, .func (.func 81) #[] #[], .func (.func 83) #[] #[], .func (.func 85) #[] #[], .func (.func 86) #[] #[], .func (.func 87) #[] #[], .func (.func 88) #[] #[]] : List Value).toArray) ∧ WS w [] [] w' := by
  refine calls_of_T [] 5 [] Tryz.func64 rfl Tryz.ntmps64 (by simp) (WS.refl _ _) ?_
  refine T.seq ?_
  refine T.text [.l] rfl ?_
  refine J.alloc 0 rfl zero97 [.nilFunc, .nilFunc, .nilFunc, .nilFunc, .nilFunc, .nilFunc, .nilFunc, .nilFunc] rfl rfl (fun g0 hg0 => ?_)
  refine J.end ?_
  refine X.then ?_
  refine T.seq ?_
  refine T.text [.l, .l, .l, .l, .l] rfl ?_
  refine J.build rfl rfl (.agg ([.func (.func 81) #[] #[], .func (.func 83) #[] #[]] : List Value).toArray) (fun w => by kernel_rfl) ?_
  refine J.build rfl rfl (.agg ([.func (.func 85) #[] #[], .func (.func 86) #[] #[]] : List Value).toArray) (fun w => by kernel_rfl) ?_
  refine J.build rfl rfl (.agg ([.func (.func 87) #[] #[], .func (.func 88) #[] #[]] : List Value).toArray) (fun w => by kernel_rfl) ?_
  refine J.build rfl rfl (.agg ([.nilFunc, .nilFunc, .func (.func 81) #[] #[], .func (.func 83) #[] #[], .func (.func 85) #[] #[], .func (.func 86) #[] #[], .func (.func 87) #[] #[], .func (.func 88) #[] #[]] : List Value).toArray) (fun w => by kernel_rfl) ?_
  refine J.store 0 rfl rfl rfl rfl ([.nilFunc, .nilFunc, .func (.func 81) #[] #[], .func (.func 83) #[] #[], .func (.func 85) #[] #[], .func (.func 86) #[] #[], .func (.func 87) #[] #[], .func (.func 88) #[] #[]] : List Value) rfl sz97 (by first | decide | exact Nat.le_refl _ | exact Nat.le_of_ble_eq_true rfl | (simp [rowN]; done) | (simp [rowN]; omega)) (by intro u hu; simp at hu; rcases hu with rfl | rfl | rfl | rfl | rfl | rfl | rfl | rfl <;> rfl) (by first | decide | exact Nat.zero_lt_succ _ | simp) trivial ([.nilFunc, .nilFunc, .func (.func 81) #[] #[], .func (.func 83) #[] #[], .func (.func 85) #[] #[], .func (.func 86) #[] #[], .func (.func 87) #[] #[], .func (.func 88) #[] #[]] : List Value) rfl ?_
  refine J.end ?_
  refine X.then ?_
  refine T.ret ?_
  exact X.ret1 rfl (RV.agg 0 rfl rfl agg97 ([.nilFunc, .nilFunc, .func (.func 81) #[] #[], .func (.func 83) #[] #[], .func (.func 85) #[] #[], .func (.func 86) #[] #[], .func (.func 87) #[] #[], .func (.func 88) #[] #[]] : List Value) (by rfl) (by rfl) rfl) (fun w' hw' => ⟨rfl, hw'.sub (Sub.nil _)⟩)
end Go.Proofs.YtlllcafedekojaaGreatDoor.Dk
set_option linter.unusedVariables false
set_option maxRecDepth 20000
namespace Go.Proofs.YtlllcafedekojaaGreatDoor.Dl
open Go Go.Fw

theorem sz287 : SizeT Tryz.prog 287 32 := (by unfold SizeT; kernel_rfl)

theorem slots (w : World) (Ad Aa Ab : Option Addr) (n cd ca cb x : Nat) :
    Calls Tryz.prog 65 [.slice Ad n cd, .agg (ac x).toArray, .slice Aa 0 ca, .slice Ab 0 cb].toArray w fun e w' => e = .returned (.slice Ad n cd) ∧ WS w [] [] w' := by
  refine calls_of_T [] 73 [] Tryz.func65 rfl Tryz.ntmps65 (by simp) (WS.refl _ _) ?_
  refine T.seq ?_
  refine T.text [.l, .l] rfl ?_
  refine J.box 5 rfl rfl (ac x) rfl rfl (fun g5 hg5 => ?_)
  refine J.assign rfl rfl ?_
  refine J.end ?_
  refine X.then ?_
  refine T.scope ?_
  refine T.seq ?_
  refine T.label ?_
  refine X.then ?_
  refine T.seq ?_
  refine T.block ?_
  refine T.loop (ι := Nat) (fun (i : Nat) => i = 0) (fun (i : Nat) => [(1, .agg (ac x).toArray), (5, .pointer (some ⟨g5, 0, none⟩)), (8, .slice none 0 0), (0, .slice Ad n cd), (2, .slice Aa 0 ca), (3, .slice Ab 0 cb)]) (fun (i : Nat) => [(5, ⟨some g5, 47, (ac x)⟩)]) (fun (i : Nat) => i) 0 rfl (by repeat (first | exact Sub.nil _ | refine Sub.cons (by first | rfl | (rw [dgs_zero]; rfl) | (rw [List.drop_length]; rfl) | (simp; done) | (congr 2; omega) | (congr 3; omega)) ?_)) (by repeat (first | exact Sub.nil _ | refine Sub.cons (by first | rfl | (rw [dgs_zero]; rfl) | (rw [List.drop_length]; rfl) | (simp; done) | (congr 2; omega) | (congr 3; omega)) ?_)) ?_
  rintro i hi0
  refine T.seq ?_
  refine T.seq ?_
  refine T.text [.l, .l, .l, .l, .l, .l, .l, .l] rfl ?_
  refine J.move rfl rfl ?_
  refine J.lenSl Tryz.underlying54 rfl rfl ?_
  refine J.gtr rfl rfl rfl (show decide ((0:Int) > 0) = false by decide) ?_
  refine J.move rfl rfl ?_
  refine J.yes rfl rfl ?_
  refine J.move rfl rfl ?_
  refine J.yes rfl rfl ?_
  refine J.lenSl Tryz.underlying54 rfl rfl ?_
  refine J.yes rfl rfl ?_
  refine J.gtr rfl rfl rfl (show decide ((0:Int) > 0) = false by decide) ?_
  refine J.pick_f rfl rfl rfl ?_
  refine J.end ?_
  refine X.then ?_
  refine T.cond_false rfl ?_
  refine T.exit ?_
  refine X.then_exit (X.then_exit (X.inBlock_eq (X.then ?_)))
  refine T.seq ?_
  refine T.text [.l, .l] rfl ?_
  refine J.move rfl rfl ?_
  refine J.assign rfl rfl ?_
  refine J.end ?_
  refine X.then ?_
  refine T.ret ?_
  refine X.scope_ret ?_
  exact X.ret1 rfl (RV.tmp rfl) (fun w' hw' => ⟨rfl, hw'.sub (Sub.nil _)⟩)

theorem store (w : World) (Aa Ab : Option Addr) (ca cb : Nat) :
    Calls Tryz.prog 73 [.slice Aa 0 ca, .slice Ab 0 cb].toArray w fun e w' => e = .returned (.tuple #[.slice none 0 0, .bool true]) ∧ WS w [] [] w' := by
  refine calls_of_T [] 77 [] Tryz.func73 rfl Tryz.ntmps73 (by simp) (WS.refl _ _) ?_
  refine T.seq ?_
  refine T.text [.l, .l] rfl ?_
  refine J.assign rfl rfl ?_
  refine J.assign rfl rfl ?_
  refine J.end ?_
  refine X.then ?_
  refine T.seq ?_
  refine T.text [.l] rfl ?_
  refine J.assign rfl rfl ?_
  refine J.end ?_
  refine X.then ?_
  refine T.seq ?_
  refine T.block ?_
  refine T.loop (ι := Nat) (fun (i : Nat) => i = 0) (fun (i : Nat) => [(0, .slice Aa 0 ca), (1, .slice Ab 0 cb), (6, .slice none 0 0)]) (fun (i : Nat) => []) (fun (i : Nat) => i) 0 rfl (by repeat (first | exact Sub.nil _ | refine Sub.cons (by first | rfl | (rw [dgs_zero]; rfl) | (rw [List.drop_length]; rfl) | (simp; done) | (congr 2; omega) | (congr 3; omega)) ?_)) (by repeat (first | exact Sub.nil _ | refine Sub.cons (by first | rfl | (rw [dgs_zero]; rfl) | (rw [List.drop_length]; rfl) | (simp; done) | (congr 2; omega) | (congr 3; omega)) ?_)) ?_
  rintro i hi0
  refine T.seq ?_
  refine T.seq ?_
  refine T.text [.l, .l, .l, .l, .l, .l, .l, .l] rfl ?_
  refine J.move rfl rfl ?_
  refine J.lenSl Tryz.underlying54 rfl rfl ?_
  refine J.gtr rfl rfl rfl (show decide ((0:Int) > 0) = false by decide) ?_
  refine J.move rfl rfl ?_
  refine J.yes rfl rfl ?_
  refine J.move rfl rfl ?_
  refine J.yes rfl rfl ?_
  refine J.lenSl Tryz.underlying25 rfl rfl ?_
  refine J.yes rfl rfl ?_
  refine J.gtr rfl rfl rfl (show decide ((0:Int) > 0) = false by decide) ?_
  refine J.pick_f rfl rfl rfl ?_
  refine J.end ?_
  refine X.then ?_
  refine T.cond_false rfl ?_
  refine T.exit ?_
  refine X.then_exit (X.then_exit (X.inBlock_eq (X.then ?_)))
  refine T.seq ?_
  refine T.text [.l, .l, .l] rfl ?_
  refine J.move rfl rfl ?_
  refine J.assign rfl rfl ?_
  refine J.assign rfl rfl ?_
  refine J.end ?_
  refine X.then ?_
  refine T.ret ?_
  exact X.ret2 rfl (RV.tmp rfl) (RV.tmp rfl) (fun w' hw' => ⟨rfl, hw'.sub (Sub.nil _)⟩)
end Go.Proofs.YtlllcafedekojaaGreatDoor.Dl
set_option linter.unusedVariables false
set_option maxRecDepth 20000
namespace Go.Proofs.YtlllcafedekojaaGreatDoor.Dm
open Go Go.Fw

theorem sz287 : SizeT Tryz.prog 287 32 := (by unfold SizeT; kernel_rfl)
theorem fok64 : FnOk Tryz.prog 64 := FnOk.mk' Tryz.func64 (by kernel_rfl) rfl
theorem sz96 : SizeT Tryz.prog 96 2 := (by unfold SizeT; kernel_rfl)
theorem arr97 : ArrT Tryz.prog 97 4 96 2 := ⟨Tryz.underlying97, sz96⟩
theorem agg96 : AggT Tryz.prog 96 2 := ⟨⟨_, Tryz.underlying96, rfl⟩, by kernel_rfl⟩
theorem zero96 : ZeroT Tryz.prog 96 (.agg ([.nilFunc, .nilFunc]).toArray) := (by unfold ZeroT; kernel_rfl)
theorem sz93 : SizeT Tryz.prog 93 1 := (by unfold SizeT; kernel_rfl)
theorem fld96_0 : FldT Tryz.prog 96 0 93 0 0 := ⟨by kernel_rfl, sz93⟩
theorem one93 : OneT Tryz.prog 93 := ⟨⟨_, Tryz.underlying93, rfl⟩, by kernel_rfl⟩
theorem sz47 : SizeT Tryz.prog 47 20 := (by unfold SizeT; kernel_rfl)
theorem fld56_0 : FldT Tryz.prog 56 0 47 0 19 := ⟨by kernel_rfl, sz47⟩
theorem agg47 : AggT Tryz.prog 47 20 := ⟨⟨_, Tryz.underlying47, rfl⟩, by kernel_rfl⟩
theorem zero53 : ZeroT Tryz.prog 53 (.agg ([.int .u8 0, .int .u8 0, .int .u8 0, .int .u8 0, .int .u8 0, .int .u8 0, .int .u8 0, .int .u8 0, .int .u8 0, .int .u8 0, .int .u8 0, .int .u8 0, .int .u8 0, .int .u8 0, .int .u8 0, .int .u8 0, .int .u8 0, .int .u8 0, .int .u8 0, .int .u8 0, .int .i64 0, .int .u64 0, .int .u64 0, .int .u64 0, .int .u64 0, .int .u64 0, .int .u64 0, .int .u64 0, .int .u64 0, .int .u64 0, .int .u64 0, .int .u64 0, .int .u64 0, .slice none 0 0, .slice none 0 0]).toArray) := (by unfold ZeroT; kernel_rfl)
theorem sz53 : SizeT Tryz.prog 53 35 := (by unfold SizeT; kernel_rfl)
theorem fok81 : FnOk Tryz.prog 81 := FnOk.mk' Tryz.func81 (by kernel_rfl) rfl
theorem sz50 : SizeT Tryz.prog 50 4 := (by unfold SizeT; kernel_rfl)
theorem fld53_3 : FldT Tryz.prog 53 3 50 25 3 := ⟨by kernel_rfl, sz50⟩
theorem sz51 : SizeT Tryz.prog 51 1 := (by unfold SizeT; kernel_rfl)
theorem fld53_5 : FldT Tryz.prog 53 5 51 33 0 := ⟨by kernel_rfl, sz51⟩
theorem fld53_4 : FldT Tryz.prog 53 4 50 29 3 := ⟨by kernel_rfl, sz50⟩
theorem fld53_6 : FldT Tryz.prog 53 6 51 34 0 := ⟨by kernel_rfl, sz51⟩
theorem agg53 : AggT Tryz.prog 53 35 := ⟨⟨_, Tryz.underlying53, rfl⟩, by kernel_rfl⟩
theorem fok61 : FnOk Tryz.prog 61 := FnOk.mk' Tryz.func61 (by kernel_rfl) rfl
theorem fok58 : FnOk Tryz.prog 58 := FnOk.mk' Tryz.func58 (by kernel_rfl) rfl
theorem el53 : ElT Tryz.prog 53 35 176 (.agg ([.int .u8 0, .int .u8 0, .int .u8 0, .int .u8 0, .int .u8 0, .int .u8 0, .int .u8 0, .int .u8 0, .int .u8 0, .int .u8 0, .int .u8 0, .int .u8 0, .int .u8 0, .int .u8 0, .int .u8 0, .int .u8 0, .int .u8 0, .int .u8 0, .int .u8 0, .int .u8 0, .int .i64 0, .int .u64 0, .int .u64 0, .int .u64 0, .int .u64 0, .int .u64 0, .int .u64 0, .int .u64 0, .int .u64 0, .int .u64 0, .int .u64 0, .int .u64 0, .int .u64 0, .slice none 0 0, .slice none 0 0]).toArray) := ⟨by kernel_rfl, rfl, by decide, by decide⟩
theorem fok85 : FnOk Tryz.prog 85 := FnOk.mk' Tryz.func85 (by kernel_rfl) rfl
theorem fok87 : FnOk Tryz.prog 87 := FnOk.mk' Tryz.func87 (by kernel_rfl) rfl
theorem sz54 : SizeT Tryz.prog 54 1 := (by unfold SizeT; kernel_rfl)
theorem fld56_4 : FldT Tryz.prog 56 4 54 26 0 := ⟨by kernel_rfl, sz54⟩
theorem one54 : OneT Tryz.prog 54 := ⟨⟨_, Tryz.underlying54, rfl⟩, by kernel_rfl⟩
theorem fok65 : FnOk Tryz.prog 65 := FnOk.mk' Tryz.func65 (by kernel_rfl) rfl

set_option maxHeartbeats 4000000 in
theorem between (w : World) (n : Nat) (B : List (Option Nat)) (a b : Ac) (hn : n ≤ w.heap.size) (hB : ∀ g, some g ∈ B → g < w.heap.size) (ha : a.Ok w n B) (hb : b.Ok w n B) (hsa : a.sl.length = 0) (hsb : b.sl.length = 0) :
    Calls Tryz.prog 41 [.slice none 0 0, .agg a.cells.toArray, .agg b.cells.toArray].toArray w fun e w' => ∃ q : List Ch × RowIx, (q.1.map Ch.v = bt a b 4 ∧ q.2.Ok 35 q.1.length ∧ Fit w' n B (hdOf q.2.id) (rowC q.1) ∧ AllC w' n B q.1) ∧ e = .returned (q.2.val q.1.length) ∧ WS w [] [] w' := by
  refine calls_of_T [] 55 [] Tryz.func41 rfl Tryz.ntmps41 (by simp) (WS.refl _ _) ?_
  refine T.seq ?_
  refine T.text [.l, .l, .l] rfl ?_
  refine J.box 4 rfl rfl (a.cells) rfl rfl (fun g4 hg4 => ?_)
  refine J.box 5 rfl rfl (b.cells) rfl rfl (fun g5 hg5 => ?_)
  refine J.assign rfl rfl ?_
  refine J.end ?_
  refine X.then ?_
  refine T.seq ?_
  refine T.seq ?_
  refine T.addNil 0 53 ?_
  refine T.text [.l, .l] rfl ?_
  refine J.call0 (k := .l) trivial fok64 rfl rfl (fun w hw => Dk.views w) ?_
  refine J.move rfl rfl ?_
  refine J.end ?_
  refine X.then ?_
  refine T.block ?_
  refine T.snap [(0, ⟨none, 53, []⟩), (4, ⟨some g4, 56, (a.cells)⟩), (5, ⟨some g5, 56, (b.cells)⟩)] (by repeat (first | exact Sub.nil _ | refine Sub.cons (by first | rfl | (rw [dgs_zero]; rfl) | (rw [List.drop_length]; rfl) | (simp; done) | (congr 2; omega) | (congr 3; omega)) ?_ | exact Sub.refl _ | refine sub_snap ?_ rfl)) rfl (fun Wl1 hWWl1 => ?_)
  have kpWl1 := (keep_base (B0 := B) (l1 := [(0, ⟨none, 53, []⟩), (4, ⟨some g4, 56, (a.cells)⟩), (5, ⟨some g5, 56, (b.cells)⟩)]) hn (fun g hg => by cases hg) hWWl1 (by repeat (first | exact Sub.nil _ | refine Sub.cons (by first | rfl | (rw [dgs_zero]; rfl) | (rw [List.drop_length]; rfl) | (simp; done) | (congr 2; omega) | (congr 3; omega)) ?_ | exact Sub.refl _ | refine sub_snap ?_ rfl)) rfl)
  have ha := ha.keep kpWl1
  have hb := hb.keep kpWl1
  have hVWl1 := hWWl1.sub (Sub.nil _)
  refine T.loop (ι := World × Nat × List Ch × RowIx) (fun ((W, i, zs, r) : World × Nat × List Ch × RowIx) => i ≤ 4 ∧ zs.map Ch.v = bt a b i ∧ zs.length ≤ i ∧ r.Ok 35 zs.length ∧ WS w [] [] W ∧ a.Ok W n (B ++ [r.id, some g4, some g5]) ∧ b.Ok W n (B ++ [r.id, some g4, some g5]) ∧ AllC W n (B ++ [r.id, some g4, some g5]) zs) (fun ((W, i, zs, r) : World × Nat × List Ch × RowIx) => [(1, .agg a.cells.toArray), (2, .agg b.cells.toArray), (4, .pointer (some ⟨g4, 0, none⟩)), (5, .pointer (some ⟨g5, 0, none⟩)), (6, .slice none 0 0), (10, .agg ([.nilFunc, .nilFunc, .func (.func 81) #[] #[], .func (.func 83) #[] #[], .func (.func 85) #[] #[], .func (.func 86) #[] #[], .func (.func 87) #[] #[], .func (.func 88) #[] #[]] : List Value).toArray), (11, .int .i64 ((i : Nat) : Int)), (0, r.val zs.length)]) (fun ((W, i, zs, r) : World × Nat × List Ch × RowIx) => ((0, r.ent 53 (rowC zs)) :: (4, ⟨some g4, 56, a.cells⟩) :: (5, ⟨some g5, 56, b.cells⟩) :: snapL W w.heap.size [r.id, some g4, some g5])) (fun ((W, i, zs, r) : World × Nat × List Ch × RowIx) => 4 - i) ⟨Wl1, 0, [], RowIx.nil⟩ ⟨Nat.zero_le _, rfl, Nat.le_refl _, RowIx.nil_ok 35, hVWl1, ha, hb, AllC.nil⟩ (by repeat (first | exact Sub.nil _ | refine Sub.cons (by first | rfl | (rw [dgs_zero]; rfl) | (rw [List.drop_length]; rfl) | (simp; done) | (congr 2; omega) | (congr 3; omega)) ?_ | exact Sub.refl _ | refine sub_snap ?_ rfl)) (by repeat (first | exact Sub.nil _ | refine Sub.cons (by first | rfl | (rw [dgs_zero]; rfl) | (rw [List.drop_length]; rfl) | (simp; done) | (congr 2; omega) | (congr 3; omega)) ?_ | exact Sub.refl _ | refine sub_snap ?_ rfl)) ?_
  rintro ⟨W, i, zs, r⟩ ⟨hi, hm, hzl, hr, hV, ha, hb, hz⟩
  try dsimp only at *
  refine T.seq ?_
  refine T.text [.l] rfl ?_
  refine J.lss rfl rfl rfl rfl ?_
  refine J.end ?_
  refine X.then ?_
  refine T.seq ?_
  refine T.cond_dec rfl (fun h2 => ?_) (fun h2 => ?_)
  · rcases (show i = 0 ∨ i = 1 ∨ i = 2 ∨ i = 3 from by omega) with rfl | rfl | rfl | rfl
    · skip
      refine T.skip ?_
      refine X.then ?_
      refine T.seq ?_
      refine T.block ?_
      refine T.seq ?_
      refine T.text [.l, .l, .l, .l, .l] rfl ?_
      refine J.move rfl rfl ?_
      refine J.indexN arr97 agg96 rfl rfl (by decide) (by decide) rfl rfl rfl ?_
      refine J.alloc 8 rfl zero96 [.nilFunc, .nilFunc] rfl rfl (fun g8 hg8 => ?_)
      refine J.assign rfl rfl ?_
      refine J.store 8 rfl rfl rfl rfl ([.nilFunc, .nilFunc] : List Value) rfl sz96 (by first | decide | exact Nat.le_refl _ | exact Nat.le_of_ble_eq_true rfl | (simp [rowN]; done) | (simp [rowN]; omega)) (by first | exact rowN_one _ _ | (simp; done) | (intro u hu; simp at hu; subst hu; rfl) | (intro u hu; simp at hu; rcases hu with rfl | rfl <;> rfl)) (by first | decide | exact Nat.zero_lt_succ _ | simp) trivial ([.nilFunc, .nilFunc] : List Value) rfl ?_
      refine J.end ?_
      refine X.then ?_
      refine T.seq ?_
      refine T.seq ?_
      refine T.text [.l, .l, .l] rfl ?_
      refine J.fieldAddr fld96_0 rfl rfl ?_
      refine J.load1 (k := .l) trivial 8 rfl rfl one93 (by first | rfl | with_reducible exact rowN_get0 _ _ _ (by omega) | with_reducible exact rowN_get1 _ _ _ (by omega) | with_reducible exact rowN_get1s _ _ _ _ (by omega) | exact rowN_get1 _ _ _ (by omega) | exact rowN_get1s _ _ _ _ (by omega) | exact rowN_get0 _ _ _ (by omega)) rfl ?_
      refine J.eqNilN Tryz.underlying93 rfl rfl rfl ?_
      refine J.end ?_
      refine X.then ?_
      refine T.cond_true rfl ?_
      refine T.exit ?_
      refine X.then_exit (X.inBlock_eq (X.then ?_))
      refine T.text [.l, .l] rfl ?_
      refine J.add rfl rfl rfl (by first | exact add_nat _ 1 (by omega) | exact i64_ok _ (by omega) | exact rfl) ?_
      refine J.as 46 (.int .i64 ((1 : Nat) : Int)) rfl (by rfl) ?_
      refine J.move rfl rfl ?_
      refine J.end ?_
      refine X.snap [(0, r.ent 53 (rowC zs)), (4, ⟨some g4, 56, a.cells⟩), (5, ⟨some g5, 56, b.cells⟩)] (by repeat (first | exact Sub.nil _ | refine Sub.cons (by first | rfl | (rw [dgs_zero]; rfl) | (rw [List.drop_length]; rfl) | (simp; done) | (congr 2; omega) | (congr 3; omega)) ?_ | exact Sub.refl _ | refine sub_snap ?_ rfl)) rfl (fun Wx3 hWWx3 => ?_)
      have kpWx3 := (keep_snap (I := [r.id, some g4, some g5]) (B0 := B) (l1 := [(0, r.ent 53 (rowC zs)), (4, ⟨some g4, 56, a.cells⟩), (5, ⟨some g5, 56, b.cells⟩)]) hV hn (fun g hg => by cases hg) hWWx3 (by repeat (first | exact Sub.refl _ | refine sub_snap ?_ rfl)) (by repeat (first | exact Sub.nil _ | refine Sub.cons (by first | rfl | (rw [dgs_zero]; rfl) | (rw [List.drop_length]; rfl) | (simp; done) | (congr 2; omega) | (congr 3; omega)) ?_ | exact Sub.refl _ | refine sub_snap ?_ rfl)) rfl)
      have ha := ha.keep kpWx3
      have hb := hb.keep kpWx3
      have hz := hz.keep kpWx3
      have hVWx3 := hWWx3.sub (Sub.nil _)
      exact X.round ⟨Wx3, 1, zs, r⟩ ⟨by dsimp only; omega, hm.trans (bt_0 a b).symm, by dsimp only; omega, hr, hVWx3, ha, hb, hz⟩ (by first | omega | (dsimp only; omega)) (by repeat (first | exact Sub.nil _ | refine Sub.cons (by first | rfl | (rw [dgs_zero]; rfl) | (rw [List.drop_length]; rfl) | (simp; done) | (congr 2; omega) | (congr 3; omega)) ?_ | exact Sub.refl _ | refine sub_snap ?_ rfl)) (by repeat (first | exact Sub.nil _ | refine Sub.cons (by first | rfl | (rw [dgs_zero]; rfl) | (rw [List.drop_length]; rfl) | (simp; done) | (congr 2; omega) | (congr 3; omega)) ?_ | exact Sub.refl _ | refine sub_snap ?_ rfl))
    · skip
      refine T.skip ?_
      refine X.then ?_
      refine T.seq ?_
      refine T.block ?_
      refine T.seq ?_
      refine T.text [.l, .l, .l, .l, .l] rfl ?_
      refine J.move rfl rfl ?_
      refine J.indexN arr97 agg96 rfl rfl (by decide) (by decide) rfl rfl rfl ?_
      refine J.alloc 8 rfl zero96 [.nilFunc, .nilFunc] rfl rfl (fun g8 hg8 => ?_)
      refine J.assign rfl rfl ?_
      refine J.store 8 rfl rfl rfl rfl ([.func (.func 81) #[] #[], .func (.func 83) #[] #[]] : List Value) rfl sz96 (by first | decide | exact Nat.le_refl _ | exact Nat.le_of_ble_eq_true rfl | (simp [rowN]; done) | (simp [rowN]; omega)) (by first | exact rowN_one _ _ | (simp; done) | (intro u hu; simp at hu; subst hu; rfl) | (intro u hu; simp at hu; rcases hu with rfl | rfl <;> rfl)) (by first | decide | exact Nat.zero_lt_succ _ | simp) trivial ([.func (.func 81) #[] #[], .func (.func 83) #[] #[]] : List Value) rfl ?_
      refine J.end ?_
      refine X.then ?_
      refine T.seq ?_
      refine T.seq ?_
      refine T.text [.l, .l, .l] rfl ?_
      refine J.fieldAddr fld96_0 rfl rfl ?_
      refine J.load1 (k := .l) trivial 8 rfl rfl one93 (by first | rfl | with_reducible exact rowN_get0 _ _ _ (by omega) | with_reducible exact rowN_get1 _ _ _ (by omega) | with_reducible exact rowN_get1s _ _ _ _ (by omega) | exact rowN_get1 _ _ _ (by omega) | exact rowN_get1s _ _ _ _ (by omega) | exact rowN_get0 _ _ _ (by omega)) rfl ?_
      refine J.eqNilF Tryz.underlying93 rfl rfl rfl ?_
      refine J.end ?_
      refine X.then ?_
      refine T.cond_false rfl ?_
      refine T.skip ?_
      refine X.then ?_
      refine T.seq ?_
      refine T.text [.l, .l, .l, .l, .l, .l] rfl ?_
      refine J.fieldAddr fld56_0 rfl rfl ?_
      refine J.loadN (k := .l) trivial 4 rfl rfl agg47 (ac a.who) rfl rfl rfl ?_
      refine J.move rfl rfl ?_
      refine J.build rfl rfl (.agg (Ch.mk a.who 1 0 0 0 [] [] none 0 none 0).cells.toArray) (fun w => by kernel_rfl) ?_
      refine J.alloc 9 rfl zero53 [.int .u8 0, .int .u8 0, .int .u8 0, .int .u8 0, .int .u8 0, .int .u8 0, .int .u8 0, .int .u8 0, .int .u8 0, .int .u8 0, .int .u8 0, .int .u8 0, .int .u8 0, .int .u8 0, .int .u8 0, .int .u8 0, .int .u8 0, .int .u8 0, .int .u8 0, .int .u8 0, .int .i64 0, .int .u64 0, .int .u64 0, .int .u64 0, .int .u64 0, .int .u64 0, .int .u64 0, .int .u64 0, .int .u64 0, .int .u64 0, .int .u64 0, .int .u64 0, .int .u64 0, .slice none 0 0, .slice none 0 0] rfl rfl (fun g9 hg9 => ?_)
      refine J.store 9 rfl rfl rfl rfl ((Ch.mk a.who 1 0 0 0 [] [] none 0 none 0).cells) rfl sz53 (Nat.le_of_ble_eq_true rfl) (by first | exact Ac.cells_one _ | exact Ch.cells_one _) (Nat.zero_lt_succ _) trivial ((Ch.mk a.who 1 0 0 0 [] [] none 0 none 0).cells) rfl ?_
      refine J.end ?_
      refine X.then ?_
      refine T.seq ?_
      refine T.text [.l, .l, .l, .l, .l, .l, .l, .l, .l, .l] rfl ?_
      refine J.fieldAddr fld96_0 rfl rfl ?_
      refine J.load1 (k := .l) trivial 8 rfl rfl one93 (by first | rfl | with_reducible exact rowN_get0 _ _ _ (by omega) | with_reducible exact rowN_get1 _ _ _ (by omega) | with_reducible exact rowN_get1s _ _ _ _ (by omega) | exact rowN_get1 _ _ _ (by omega) | exact rowN_get1s _ _ _ _ (by omega) | exact rowN_get0 _ _ _ (by omega)) rfl ?_
      refine J.callV0 fok81 rfl rfl rfl (fun w hw => Dk.getN w _ a ha.hn (hw.blkCs (k := 4) rfl)) ?_
      refine J.move rfl rfl ?_
      refine J.extract rfl rfl rfl ?_
      refine J.extract rfl rfl rfl ?_
      refine J.fieldAddr fld53_3 rfl rfl ?_
      refine J.store 9 rfl rfl rfl rfl _ rfl sz50 (by first | decide | exact Nat.le_refl _ | exact Nat.le_of_ble_eq_true rfl | (simp [rowN]; done) | (simp [rowN]; omega)) (by first | exact rowN_one _ _ | (simp; done) | (intro u hu; simp at hu; subst hu; rfl) | (intro u hu; simp at hu; rcases hu with rfl | rfl <;> rfl)) (by first | decide | exact Nat.zero_lt_succ _ | simp) trivial _ rfl ?_
      refine J.fieldAddr fld53_5 rfl rfl ?_
      refine J.store 9 rfl rfl rfl rfl [_] rfl sz51 (by first | decide | exact Nat.le_refl _ | exact Nat.le_of_ble_eq_true rfl | (simp [rowN]; done) | (simp [rowN]; omega)) (by first | exact rowN_one _ _ | (simp; done) | (intro u hu; simp at hu; subst hu; rfl) | (intro u hu; simp at hu; rcases hu with rfl | rfl <;> rfl)) (by first | decide | exact Nat.zero_lt_succ _ | simp) trivial _ rfl ?_
      refine J.end ?_
      refine X.then ?_
      refine T.seq ?_
      refine T.text [.l, .l, .l, .l, .l, .l, .l, .l, .l, .l] rfl ?_
      refine J.fieldAddr fld96_0 rfl rfl ?_
      refine J.load1 (k := .l) trivial 8 rfl rfl one93 (by first | rfl | with_reducible exact rowN_get0 _ _ _ (by omega) | with_reducible exact rowN_get1 _ _ _ (by omega) | with_reducible exact rowN_get1s _ _ _ _ (by omega) | exact rowN_get1 _ _ _ (by omega) | exact rowN_get1s _ _ _ _ (by omega) | exact rowN_get0 _ _ _ (by omega)) rfl ?_
      refine J.callV0 fok81 rfl rfl rfl (fun w hw => Dk.getN w _ b hb.hn (hw.blkCs (k := 5) rfl)) ?_
      refine J.move rfl rfl ?_
      refine J.extract rfl rfl rfl ?_
      refine J.extract rfl rfl rfl ?_
      refine J.fieldAddr fld53_4 rfl rfl ?_
      refine J.store 9 rfl rfl rfl rfl _ rfl sz50 (by first | decide | exact Nat.le_refl _ | exact Nat.le_of_ble_eq_true rfl | (simp [rowN]; done) | (simp [rowN]; omega)) (by first | exact rowN_one _ _ | (simp; done) | (intro u hu; simp at hu; subst hu; rfl) | (intro u hu; simp at hu; rcases hu with rfl | rfl <;> rfl)) (by first | decide | exact Nat.zero_lt_succ _ | simp) trivial _ rfl ?_
      refine J.fieldAddr fld53_6 rfl rfl ?_
      refine J.store 9 rfl rfl rfl rfl [_] rfl sz51 (by first | decide | exact Nat.le_refl _ | exact Nat.le_of_ble_eq_true rfl | (simp [rowN]; done) | (simp [rowN]; omega)) (by first | exact rowN_one _ _ | (simp; done) | (intro u hu; simp at hu; subst hu; rfl) | (intro u hu; simp at hu; rcases hu with rfl | rfl <;> rfl)) (by first | decide | exact Nat.zero_lt_succ _ | simp) trivial _ rfl ?_
      refine J.end ?_
      refine X.asE 9 ⟨some g9, 53, (kC a b 1).cells⟩ rfl (by rfl) ?_
      refine X.then ?_
      refine T.seq ?_
      refine T.text [.l, .l, .l] rfl ?_
      refine J.loadN (k := .l) trivial 9 rfl rfl agg53 (kC a b 1).cells rfl rfl rfl ?_
      refine J.call0 (k := .l) trivial fok61 rfl rfl (fun w hw => Da.idle w (kC a b 1) (kC_ok (ha.keep (keep_snap (I := [r.id, some g4, some g5]) (B0 := B) (l1 := []) hV hn (fun g hg => by cases hg) hw (by repeat (first | exact Sub.refl _ | refine sub_snap ?_ rfl)) (Sub.nil _) rfl)) (hb.keep (keep_snap (I := [r.id, some g4, some g5]) (B0 := B) (l1 := []) hV hn (fun g hg => by cases hg) hw (by repeat (first | exact Sub.refl _ | refine sub_snap ?_ rfl)) (Sub.nil _) rfl)) 1).fo.cs (kC_ok (ha.keep (keep_snap (I := [r.id, some g4, some g5]) (B0 := B) (l1 := []) hV hn (fun g hg => by cases hg) hw (by repeat (first | exact Sub.refl _ | refine sub_snap ?_ rfl)) (Sub.nil _) rfl)) (hb.keep (keep_snap (I := [r.id, some g4, some g5]) (B0 := B) (l1 := []) hV hn (fun g hg => by cases hg) hw (by repeat (first | exact Sub.refl _ | refine sub_snap ?_ rfl)) (Sub.nil _) rfl)) 1).fn.cs (kC_ok ha hb 1).dO (kC_ok ha hb 1).dN) ?_
      refine J.not rfl rfl (by rw [← decide_not]) ?_
      refine J.end ?_
      refine X.then ?_
      refine T.cond_dec rfl (fun h4 => ?_) (fun h4 => ?_)
      · have hid := h4
        refine T.text [.l, .l, .l, .l, .l, .l] rfl ?_
        refine J.move rfl rfl ?_
        refine J.loadN (k := .l) trivial 9 rfl rfl agg53 (kC a b 1).cells rfl rfl rfl ?_
        refine J.callB fok58 rfl rfl _ _ [(0, r.ent 53 (rowC zs)), (4, ⟨some g4, 56, a.cells⟩), (5, ⟨some g5, 56, b.cells⟩), (8, ⟨some g8, 96, ([.func (.func 81) #[] #[], .func (.func 83) #[] #[]] : List Value)⟩), (9, ⟨some g9, 53, (kC a b 1).cells⟩)] (by repeat (first | exact Sub.nil _ | refine Sub.cons (by first | rfl | (rw [dgs_zero]; rfl) | (rw [List.drop_length]; rfl) | (simp; done) | (congr 2; omega) | (congr 3; omega)) ?_ | exact Sub.refl _ | refine sub_snap ?_ rfl)) rfl (fun _ _ => Sub.nil _) (fun w hw => Da.own w n (B ++ ids [(0, r.ent 53 (rowC zs)), (4, ⟨some g4, 56, a.cells⟩), (5, ⟨some g5, 56, b.cells⟩), (8, ⟨some g8, 96, ([.func (.func 81) #[] #[], .func (.func 83) #[] #[]] : List Value)⟩), (9, ⟨some g9, 53, (kC a b 1).cells⟩)]) (kC a b 1) (busy_lt (l1 := [(0, r.ent 53 (rowC zs)), (4, ⟨some g4, 56, a.cells⟩), (5, ⟨some g5, 56, b.cells⟩), (8, ⟨some g8, 96, ([.func (.func 81) #[] #[], .func (.func 83) #[] #[]] : List Value)⟩), (9, ⟨some g9, 53, (kC a b 1).cells⟩)]) hB hw (by repeat (first | exact Sub.nil _ | refine Sub.cons (by first | rfl | (rw [dgs_zero]; rfl) | (rw [List.drop_length]; rfl) | (simp; done) | (congr 2; omega) | (congr 3; omega)) ?_ | exact Sub.refl _ | refine sub_snap ?_ rfl)) rfl) ((kC_ok ha hb 1).keep (keep_snap (I := [r.id, some g4, some g5]) (B0 := B) (l1 := [(0, r.ent 53 (rowC zs)), (4, ⟨some g4, 56, a.cells⟩), (5, ⟨some g5, 56, b.cells⟩), (8, ⟨some g8, 96, ([.func (.func 81) #[] #[], .func (.func 83) #[] #[]] : List Value)⟩), (9, ⟨some g9, 53, (kC a b 1).cells⟩)]) hV hn (fun g hg => by cases hg) hw (by repeat (first | exact Sub.refl _ | refine sub_snap ?_ rfl)) (by repeat (first | exact Sub.nil _ | refine Sub.cons (by first | rfl | (rw [dgs_zero]; rfl) | (rw [List.drop_length]; rfl) | (simp; done) | (congr 2; omega) | (congr 3; omega)) ?_ | exact Sub.refl _ | refine sub_snap ?_ rfl)) rfl))) (fun i43 W43 hP43 hW43 => ?_)
        obtain ⟨hv43, hc43⟩ := hP43
        have kpW43 := (keep_snap (I := [r.id, some g4, some g5]) (B0 := B) (l1 := [(0, r.ent 53 (rowC zs)), (4, ⟨some g4, 56, a.cells⟩), (5, ⟨some g5, 56, b.cells⟩), (8, ⟨some g8, 96, ([.func (.func 81) #[] #[], .func (.func 83) #[] #[]] : List Value)⟩), (9, ⟨some g9, 53, (kC a b 1).cells⟩)]) hV hn (fun g hg => by cases hg) hW43 (by repeat (first | exact Sub.refl _ | refine sub_snap ?_ rfl)) (by repeat (first | exact Sub.nil _ | refine Sub.cons (by first | rfl | (rw [dgs_zero]; rfl) | (rw [List.drop_length]; rfl) | (simp; done) | (congr 2; omega) | (congr 3; omega)) ?_ | exact Sub.refl _ | refine sub_snap ?_ rfl)) rfl)
        have ha := ha.keep kpW43
        have hb := hb.keep kpW43
        have hz := hz.keep kpW43
        have hVW43 := hW43.sub (Sub.nil _)
        refine J.lit1 44 rfl Tryz.underlying25 el53 (by decide) rfl (i43.cells) rfl rfl rfl (fun g44 hg44 => ?_)
        refine J.append 0 rfl Tryz.underlying25 el53 rfl hr (rowC_length zs) rfl rfl rfl (fun w hw => (hw.blkCs (k := 44) rfl)) (Ch.cells_one _) (by omega) (by unfold maxLen; omega) rfl (zs ++ [i43]).length (by rw [List.length_append]; rfl) (rowC (zs ++ [i43])) (rowC_snoc _ _).symm (fun r45 hr45 => ?_)
        refine J.assign rfl rfl ?_
        refine J.end ?_
        refine X.inBlock (X.then ?_)
        refine T.text [.l, .l] rfl ?_
        refine J.add rfl rfl rfl (by first | exact add_nat _ 1 (by omega) | exact i64_ok _ (by omega) | exact rfl) ?_
        refine J.as 46 (.int .i64 ((2 : Nat) : Int)) rfl (by rfl) ?_
        refine J.move rfl rfl ?_
        refine J.end ?_
        refine X.snap [(0, r45.ent 53 (rowC (zs ++ [i43]))), (4, ⟨some g4, 56, a.cells⟩), (5, ⟨some g5, 56, b.cells⟩)] (by repeat (first | exact Sub.nil _ | refine Sub.cons (by first | rfl | (rw [dgs_zero]; rfl) | (rw [List.drop_length]; rfl) | (simp; done) | (congr 2; omega) | (congr 3; omega)) ?_ | exact Sub.refl _ | refine sub_snap ?_ rfl)) rfl (fun Wx5 hWWx5 => ?_)
        have kpWx5 := (keep_snap (I := [r.id, some g4, some g5, some g8, some g9]) (B0 := B) (l1 := [(0, r45.ent 53 (rowC (zs ++ [i43]))), (4, ⟨some g4, 56, a.cells⟩), (5, ⟨some g5, 56, b.cells⟩)]) hVW43 hn (fun g hg => by cases hg) hWWx5 (by repeat (first | exact Sub.refl _ | refine sub_snap ?_ rfl)) (by repeat (first | exact Sub.nil _ | refine Sub.cons (by first | rfl | (rw [dgs_zero]; rfl) | (rw [List.drop_length]; rfl) | (simp; done) | (congr 2; omega) | (congr 3; omega)) ?_ | exact Sub.refl _ | refine sub_snap ?_ rfl)) rfl)
        have ha := ha.keep kpWx5
        have hb := hb.keep kpWx5
        have hz := hz.keep kpWx5
        have hc43 := hc43.keep kpWx5
        have hVWx5 := hWWx5.sub (Sub.nil _)
        exact X.round ⟨Wx5, 2, (zs ++ [i43]), r45⟩ ⟨by dsimp only; omega, by rw [snoc_v, hv43, hm]; exact (bt_yes hid).symm, by dsimp only; rw [List.length_append, List.length_singleton]; omega, hr45, hVWx5, ha, hb, hz.snoc hc43⟩ (by first | omega | (dsimp only; omega)) (by repeat (first | exact Sub.nil _ | refine Sub.cons (by first | rfl | (rw [dgs_zero]; rfl) | (rw [List.drop_length]; rfl) | (simp; done) | (congr 2; omega) | (congr 3; omega)) ?_ | exact Sub.refl _ | refine sub_snap ?_ rfl)) (by repeat (first | exact Sub.nil _ | refine Sub.cons (by first | rfl | (rw [dgs_zero]; rfl) | (rw [List.drop_length]; rfl) | (simp; done) | (congr 2; omega) | (congr 3; omega)) ?_ | exact Sub.refl _ | refine sub_snap ?_ rfl))
      · have hid := Decidable.not_not.1 h4
        refine T.skip ?_
        refine X.inBlock (X.then ?_)
        refine T.text [.l, .l] rfl ?_
        refine J.add rfl rfl rfl (by first | exact add_nat _ 1 (by omega) | exact i64_ok _ (by omega) | exact rfl) ?_
        refine J.as 46 (.int .i64 ((2 : Nat) : Int)) rfl (by rfl) ?_
        refine J.move rfl rfl ?_
        refine J.end ?_
        refine X.snap [(0, r.ent 53 (rowC zs)), (4, ⟨some g4, 56, a.cells⟩), (5, ⟨some g5, 56, b.cells⟩)] (by repeat (first | exact Sub.nil _ | refine Sub.cons (by first | rfl | (rw [dgs_zero]; rfl) | (rw [List.drop_length]; rfl) | (simp; done) | (congr 2; omega) | (congr 3; omega)) ?_ | exact Sub.refl _ | refine sub_snap ?_ rfl)) rfl (fun Wx6 hWWx6 => ?_)
        have kpWx6 := (keep_snap (I := [r.id, some g4, some g5]) (B0 := B) (l1 := [(0, r.ent 53 (rowC zs)), (4, ⟨some g4, 56, a.cells⟩), (5, ⟨some g5, 56, b.cells⟩)]) hV hn (fun g hg => by cases hg) hWWx6 (by repeat (first | exact Sub.refl _ | refine sub_snap ?_ rfl)) (by repeat (first | exact Sub.nil _ | refine Sub.cons (by first | rfl | (rw [dgs_zero]; rfl) | (rw [List.drop_length]; rfl) | (simp; done) | (congr 2; omega) | (congr 3; omega)) ?_ | exact Sub.refl _ | refine sub_snap ?_ rfl)) rfl)
        have ha := ha.keep kpWx6
        have hb := hb.keep kpWx6
        have hz := hz.keep kpWx6
        have hVWx6 := hWWx6.sub (Sub.nil _)
        exact X.round ⟨Wx6, 2, zs, r⟩ ⟨by dsimp only; omega, hm.trans (bt_no hid).symm, by dsimp only; omega, hr, hVWx6, ha, hb, hz⟩ (by first | omega | (dsimp only; omega)) (by repeat (first | exact Sub.nil _ | refine Sub.cons (by first | rfl | (rw [dgs_zero]; rfl) | (rw [List.drop_length]; rfl) | (simp; done) | (congr 2; omega) | (congr 3; omega)) ?_ | exact Sub.refl _ | refine sub_snap ?_ rfl)) (by repeat (first | exact Sub.nil _ | refine Sub.cons (by first | rfl | (rw [dgs_zero]; rfl) | (rw [List.drop_length]; rfl) | (simp; done) | (congr 2; omega) | (congr 3; omega)) ?_ | exact Sub.refl _ | refine sub_snap ?_ rfl))
    · skip
      refine T.skip ?_
      refine X.then ?_
      refine T.seq ?_
      refine T.block ?_
      refine T.seq ?_
      refine T.text [.l, .l, .l, .l, .l] rfl ?_
      refine J.move rfl rfl ?_
      refine J.indexN arr97 agg96 rfl rfl (by decide) (by decide) rfl rfl rfl ?_
      refine J.alloc 8 rfl zero96 [.nilFunc, .nilFunc] rfl rfl (fun g8 hg8 => ?_)
      refine J.assign rfl rfl ?_
      refine J.store 8 rfl rfl rfl rfl ([.func (.func 85) #[] #[], .func (.func 86) #[] #[]] : List Value) rfl sz96 (by first | decide | exact Nat.le_refl _ | exact Nat.le_of_ble_eq_true rfl | (simp [rowN]; done) | (simp [rowN]; omega)) (by first | exact rowN_one _ _ | (simp; done) | (intro u hu; simp at hu; subst hu; rfl) | (intro u hu; simp at hu; rcases hu with rfl | rfl <;> rfl)) (by first | decide | exact Nat.zero_lt_succ _ | simp) trivial ([.func (.func 85) #[] #[], .func (.func 86) #[] #[]] : List Value) rfl ?_
      refine J.end ?_
      refine X.then ?_
      refine T.seq ?_
      refine T.seq ?_
      refine T.text [.l, .l, .l] rfl ?_
      refine J.fieldAddr fld96_0 rfl rfl ?_
      refine J.load1 (k := .l) trivial 8 rfl rfl one93 (by first | rfl | with_reducible exact rowN_get0 _ _ _ (by omega) | with_reducible exact rowN_get1 _ _ _ (by omega) | with_reducible exact rowN_get1s _ _ _ _ (by omega) | exact rowN_get1 _ _ _ (by omega) | exact rowN_get1s _ _ _ _ (by omega) | exact rowN_get0 _ _ _ (by omega)) rfl ?_
      refine J.eqNilF Tryz.underlying93 rfl rfl rfl ?_
      refine J.end ?_
      refine X.then ?_
      refine T.cond_false rfl ?_
      refine T.skip ?_
      refine X.then ?_
      refine T.seq ?_
      refine T.text [.l, .l, .l, .l, .l, .l] rfl ?_
      refine J.fieldAddr fld56_0 rfl rfl ?_
      refine J.loadN (k := .l) trivial 4 rfl rfl agg47 (ac a.who) rfl rfl rfl ?_
      refine J.move rfl rfl ?_
      refine J.build rfl rfl (.agg (Ch.mk a.who 2 0 0 0 [] [] none 0 none 0).cells.toArray) (fun w => by kernel_rfl) ?_
      refine J.alloc 9 rfl zero53 [.int .u8 0, .int .u8 0, .int .u8 0, .int .u8 0, .int .u8 0, .int .u8 0, .int .u8 0, .int .u8 0, .int .u8 0, .int .u8 0, .int .u8 0, .int .u8 0, .int .u8 0, .int .u8 0, .int .u8 0, .int .u8 0, .int .u8 0, .int .u8 0, .int .u8 0, .int .u8 0, .int .i64 0, .int .u64 0, .int .u64 0, .int .u64 0, .int .u64 0, .int .u64 0, .int .u64 0, .int .u64 0, .int .u64 0, .int .u64 0, .int .u64 0, .int .u64 0, .int .u64 0, .slice none 0 0, .slice none 0 0] rfl rfl (fun g9 hg9 => ?_)
      refine J.store 9 rfl rfl rfl rfl ((Ch.mk a.who 2 0 0 0 [] [] none 0 none 0).cells) rfl sz53 (Nat.le_of_ble_eq_true rfl) (by first | exact Ac.cells_one _ | exact Ch.cells_one _) (Nat.zero_lt_succ _) trivial ((Ch.mk a.who 2 0 0 0 [] [] none 0 none 0).cells) rfl ?_
      refine J.end ?_
      refine X.then ?_
      refine T.seq ?_
      refine T.text [.l, .l, .l, .l, .l, .l, .l, .l, .l, .l] rfl ?_
      refine J.fieldAddr fld96_0 rfl rfl ?_
      refine J.load1 (k := .l) trivial 8 rfl rfl one93 (by first | rfl | with_reducible exact rowN_get0 _ _ _ (by omega) | with_reducible exact rowN_get1 _ _ _ (by omega) | with_reducible exact rowN_get1s _ _ _ _ (by omega) | exact rowN_get1 _ _ _ (by omega) | exact rowN_get1s _ _ _ _ (by omega) | exact rowN_get0 _ _ _ (by omega)) rfl ?_
      refine J.callV0 fok85 rfl rfl rfl (fun w hw => Dk.getB w _ a ha.hn (hw.blkCs (k := 4) rfl)) ?_
      refine J.move rfl rfl ?_
      refine J.extract rfl rfl rfl ?_
      refine J.extract rfl rfl rfl ?_
      refine J.fieldAddr fld53_3 rfl rfl ?_
      refine J.store 9 rfl rfl rfl rfl _ rfl sz50 (by first | decide | exact Nat.le_refl _ | exact Nat.le_of_ble_eq_true rfl | (simp [rowN]; done) | (simp [rowN]; omega)) (by first | exact rowN_one _ _ | (simp; done) | (intro u hu; simp at hu; subst hu; rfl) | (intro u hu; simp at hu; rcases hu with rfl | rfl <;> rfl)) (by first | decide | exact Nat.zero_lt_succ _ | simp) trivial _ rfl ?_
      refine J.fieldAddr fld53_5 rfl rfl ?_
      refine J.store 9 rfl rfl rfl rfl [_] rfl sz51 (by first | decide | exact Nat.le_refl _ | exact Nat.le_of_ble_eq_true rfl | (simp [rowN]; done) | (simp [rowN]; omega)) (by first | exact rowN_one _ _ | (simp; done) | (intro u hu; simp at hu; subst hu; rfl) | (intro u hu; simp at hu; rcases hu with rfl | rfl <;> rfl)) (by first | decide | exact Nat.zero_lt_succ _ | simp) trivial _ rfl ?_
      refine J.end ?_
      refine X.then ?_
      refine T.seq ?_
      refine T.text [.l, .l, .l, .l, .l, .l, .l, .l, .l, .l] rfl ?_
      refine J.fieldAddr fld96_0 rfl rfl ?_
      refine J.load1 (k := .l) trivial 8 rfl rfl one93 (by first | rfl | with_reducible exact rowN_get0 _ _ _ (by omega) | with_reducible exact rowN_get1 _ _ _ (by omega) | with_reducible exact rowN_get1s _ _ _ _ (by omega) | exact rowN_get1 _ _ _ (by omega) | exact rowN_get1s _ _ _ _ (by omega) | exact rowN_get0 _ _ _ (by omega)) rfl ?_
      refine J.callV0 fok85 rfl rfl rfl (fun w hw => Dk.getB w _ b hb.hn (hw.blkCs (k := 5) rfl)) ?_
      refine J.move rfl rfl ?_
      refine J.extract rfl rfl rfl ?_
      refine J.extract rfl rfl rfl ?_
      refine J.fieldAddr fld53_4 rfl rfl ?_
      refine J.store 9 rfl rfl rfl rfl _ rfl sz50 (by first | decide | exact Nat.le_refl _ | exact Nat.le_of_ble_eq_true rfl | (simp [rowN]; done) | (simp [rowN]; omega)) (by first | exact rowN_one _ _ | (simp; done) | (intro u hu; simp at hu; subst hu; rfl) | (intro u hu; simp at hu; rcases hu with rfl | rfl <;> rfl)) (by first | decide | exact Nat.zero_lt_succ _ | simp) trivial _ rfl ?_
      refine J.fieldAddr fld53_6 rfl rfl ?_
      refine J.store 9 rfl rfl rfl rfl [_] rfl sz51 (by first | decide | exact Nat.le_refl _ | exact Nat.le_of_ble_eq_true rfl | (simp [rowN]; done) | (simp [rowN]; omega)) (by first | exact rowN_one _ _ | (simp; done) | (intro u hu; simp at hu; subst hu; rfl) | (intro u hu; simp at hu; rcases hu with rfl | rfl <;> rfl)) (by first | decide | exact Nat.zero_lt_succ _ | simp) trivial _ rfl ?_
      refine J.end ?_
      refine X.asE 9 ⟨some g9, 53, (kC a b 2).cells⟩ rfl (by rfl) ?_
      refine X.then ?_
      refine T.seq ?_
      refine T.text [.l, .l, .l] rfl ?_
      refine J.loadN (k := .l) trivial 9 rfl rfl agg53 (kC a b 2).cells rfl rfl rfl ?_
      refine J.call0 (k := .l) trivial fok61 rfl rfl (fun w hw => Da.idle w (kC a b 2) (kC_ok (ha.keep (keep_snap (I := [r.id, some g4, some g5]) (B0 := B) (l1 := []) hV hn (fun g hg => by cases hg) hw (by repeat (first | exact Sub.refl _ | refine sub_snap ?_ rfl)) (Sub.nil _) rfl)) (hb.keep (keep_snap (I := [r.id, some g4, some g5]) (B0 := B) (l1 := []) hV hn (fun g hg => by cases hg) hw (by repeat (first | exact Sub.refl _ | refine sub_snap ?_ rfl)) (Sub.nil _) rfl)) 2).fo.cs (kC_ok (ha.keep (keep_snap (I := [r.id, some g4, some g5]) (B0 := B) (l1 := []) hV hn (fun g hg => by cases hg) hw (by repeat (first | exact Sub.refl _ | refine sub_snap ?_ rfl)) (Sub.nil _) rfl)) (hb.keep (keep_snap (I := [r.id, some g4, some g5]) (B0 := B) (l1 := []) hV hn (fun g hg => by cases hg) hw (by repeat (first | exact Sub.refl _ | refine sub_snap ?_ rfl)) (Sub.nil _) rfl)) 2).fn.cs (kC_ok ha hb 2).dO (kC_ok ha hb 2).dN) ?_
      refine J.not rfl rfl (by rw [← decide_not]) ?_
      refine J.end ?_
      refine X.then ?_
      refine T.cond_dec rfl (fun h7 => ?_) (fun h7 => ?_)
      · have hid := h7
        refine T.text [.l, .l, .l, .l, .l, .l] rfl ?_
        refine J.move rfl rfl ?_
        refine J.loadN (k := .l) trivial 9 rfl rfl agg53 (kC a b 2).cells rfl rfl rfl ?_
        refine J.callB fok58 rfl rfl _ _ [(0, r.ent 53 (rowC zs)), (4, ⟨some g4, 56, a.cells⟩), (5, ⟨some g5, 56, b.cells⟩), (8, ⟨some g8, 96, ([.func (.func 85) #[] #[], .func (.func 86) #[] #[]] : List Value)⟩), (9, ⟨some g9, 53, (kC a b 2).cells⟩)] (by repeat (first | exact Sub.nil _ | refine Sub.cons (by first | rfl | (rw [dgs_zero]; rfl) | (rw [List.drop_length]; rfl) | (simp; done) | (congr 2; omega) | (congr 3; omega)) ?_ | exact Sub.refl _ | refine sub_snap ?_ rfl)) rfl (fun _ _ => Sub.nil _) (fun w hw => Da.own w n (B ++ ids [(0, r.ent 53 (rowC zs)), (4, ⟨some g4, 56, a.cells⟩), (5, ⟨some g5, 56, b.cells⟩), (8, ⟨some g8, 96, ([.func (.func 85) #[] #[], .func (.func 86) #[] #[]] : List Value)⟩), (9, ⟨some g9, 53, (kC a b 2).cells⟩)]) (kC a b 2) (busy_lt (l1 := [(0, r.ent 53 (rowC zs)), (4, ⟨some g4, 56, a.cells⟩), (5, ⟨some g5, 56, b.cells⟩), (8, ⟨some g8, 96, ([.func (.func 85) #[] #[], .func (.func 86) #[] #[]] : List Value)⟩), (9, ⟨some g9, 53, (kC a b 2).cells⟩)]) hB hw (by repeat (first | exact Sub.nil _ | refine Sub.cons (by first | rfl | (rw [dgs_zero]; rfl) | (rw [List.drop_length]; rfl) | (simp; done) | (congr 2; omega) | (congr 3; omega)) ?_ | exact Sub.refl _ | refine sub_snap ?_ rfl)) rfl) ((kC_ok ha hb 2).keep (keep_snap (I := [r.id, some g4, some g5]) (B0 := B) (l1 := [(0, r.ent 53 (rowC zs)), (4, ⟨some g4, 56, a.cells⟩), (5, ⟨some g5, 56, b.cells⟩), (8, ⟨some g8, 96, ([.func (.func 85) #[] #[], .func (.func 86) #[] #[]] : List Value)⟩), (9, ⟨some g9, 53, (kC a b 2).cells⟩)]) hV hn (fun g hg => by cases hg) hw (by repeat (first | exact Sub.refl _ | refine sub_snap ?_ rfl)) (by repeat (first | exact Sub.nil _ | refine Sub.cons (by first | rfl | (rw [dgs_zero]; rfl) | (rw [List.drop_length]; rfl) | (simp; done) | (congr 2; omega) | (congr 3; omega)) ?_ | exact Sub.refl _ | refine sub_snap ?_ rfl)) rfl))) (fun i43 W43 hP43 hW43 => ?_)
        obtain ⟨hv43, hc43⟩ := hP43
        have kpW43 := (keep_snap (I := [r.id, some g4, some g5]) (B0 := B) (l1 := [(0, r.ent 53 (rowC zs)), (4, ⟨some g4, 56, a.cells⟩), (5, ⟨some g5, 56, b.cells⟩), (8, ⟨some g8, 96, ([.func (.func 85) #[] #[], .func (.func 86) #[] #[]] : List Value)⟩), (9, ⟨some g9, 53, (kC a b 2).cells⟩)]) hV hn (fun g hg => by cases hg) hW43 (by repeat (first | exact Sub.refl _ | refine sub_snap ?_ rfl)) (by repeat (first | exact Sub.nil _ | refine Sub.cons (by first | rfl | (rw [dgs_zero]; rfl) | (rw [List.drop_length]; rfl) | (simp; done) | (congr 2; omega) | (congr 3; omega)) ?_ | exact Sub.refl _ | refine sub_snap ?_ rfl)) rfl)
        have ha := ha.keep kpW43
        have hb := hb.keep kpW43
        have hz := hz.keep kpW43
        have hVW43 := hW43.sub (Sub.nil _)
        refine J.lit1 44 rfl Tryz.underlying25 el53 (by decide) rfl (i43.cells) rfl rfl rfl (fun g44 hg44 => ?_)
        refine J.append 0 rfl Tryz.underlying25 el53 rfl hr (rowC_length zs) rfl rfl rfl (fun w hw => (hw.blkCs (k := 44) rfl)) (Ch.cells_one _) (by omega) (by unfold maxLen; omega) rfl (zs ++ [i43]).length (by rw [List.length_append]; rfl) (rowC (zs ++ [i43])) (rowC_snoc _ _).symm (fun r45 hr45 => ?_)
        refine J.assign rfl rfl ?_
        refine J.end ?_
        refine X.inBlock (X.then ?_)
        refine T.text [.l, .l] rfl ?_
        refine J.add rfl rfl rfl (by first | exact add_nat _ 1 (by omega) | exact i64_ok _ (by omega) | exact rfl) ?_
        refine J.as 46 (.int .i64 ((3 : Nat) : Int)) rfl (by rfl) ?_
        refine J.move rfl rfl ?_
        refine J.end ?_
        refine X.snap [(0, r45.ent 53 (rowC (zs ++ [i43]))), (4, ⟨some g4, 56, a.cells⟩), (5, ⟨some g5, 56, b.cells⟩)] (by repeat (first | exact Sub.nil _ | refine Sub.cons (by first | rfl | (rw [dgs_zero]; rfl) | (rw [List.drop_length]; rfl) | (simp; done) | (congr 2; omega) | (congr 3; omega)) ?_ | exact Sub.refl _ | refine sub_snap ?_ rfl)) rfl (fun Wx8 hWWx8 => ?_)
        have kpWx8 := (keep_snap (I := [r.id, some g4, some g5, some g8, some g9]) (B0 := B) (l1 := [(0, r45.ent 53 (rowC (zs ++ [i43]))), (4, ⟨some g4, 56, a.cells⟩), (5, ⟨some g5, 56, b.cells⟩)]) hVW43 hn (fun g hg => by cases hg) hWWx8 (by repeat (first | exact Sub.refl _ | refine sub_snap ?_ rfl)) (by repeat (first | exact Sub.nil _ | refine Sub.cons (by first | rfl | (rw [dgs_zero]; rfl) | (rw [List.drop_length]; rfl) | (simp; done) | (congr 2; omega) | (congr 3; omega)) ?_ | exact Sub.refl _ | refine sub_snap ?_ rfl)) rfl)
        have ha := ha.keep kpWx8
        have hb := hb.keep kpWx8
        have hz := hz.keep kpWx8
        have hc43 := hc43.keep kpWx8
        have hVWx8 := hWWx8.sub (Sub.nil _)
        exact X.round ⟨Wx8, 3, (zs ++ [i43]), r45⟩ ⟨by dsimp only; omega, by rw [snoc_v, hv43, hm]; exact (bt_yes hid).symm, by dsimp only; rw [List.length_append, List.length_singleton]; omega, hr45, hVWx8, ha, hb, hz.snoc hc43⟩ (by first | omega | (dsimp only; omega)) (by repeat (first | exact Sub.nil _ | refine Sub.cons (by first | rfl | (rw [dgs_zero]; rfl) | (rw [List.drop_length]; rfl) | (simp; done) | (congr 2; omega) | (congr 3; omega)) ?_ | exact Sub.refl _ | refine sub_snap ?_ rfl)) (by repeat (first | exact Sub.nil _ | refine Sub.cons (by first | rfl | (rw [dgs_zero]; rfl) | (rw [List.drop_length]; rfl) | (simp; done) | (congr 2; omega) | (congr 3; omega)) ?_ | exact Sub.refl _ | refine sub_snap ?_ rfl))
      · have hid := Decidable.not_not.1 h7
        refine T.skip ?_
        refine X.inBlock (X.then ?_)
        refine T.text [.l, .l] rfl ?_
        refine J.add rfl rfl rfl (by first | exact add_nat _ 1 (by omega) | exact i64_ok _ (by omega) | exact rfl) ?_
        refine J.as 46 (.int .i64 ((3 : Nat) : Int)) rfl (by rfl) ?_
        refine J.move rfl rfl ?_
        refine J.end ?_
        refine X.snap [(0, r.ent 53 (rowC zs)), (4, ⟨some g4, 56, a.cells⟩), (5, ⟨some g5, 56, b.cells⟩)] (by repeat (first | exact Sub.nil _ | refine Sub.cons (by first | rfl | (rw [dgs_zero]; rfl) | (rw [List.drop_length]; rfl) | (simp; done) | (congr 2; omega) | (congr 3; omega)) ?_ | exact Sub.refl _ | refine sub_snap ?_ rfl)) rfl (fun Wx9 hWWx9 => ?_)
        have kpWx9 := (keep_snap (I := [r.id, some g4, some g5]) (B0 := B) (l1 := [(0, r.ent 53 (rowC zs)), (4, ⟨some g4, 56, a.cells⟩), (5, ⟨some g5, 56, b.cells⟩)]) hV hn (fun g hg => by cases hg) hWWx9 (by repeat (first | exact Sub.refl _ | refine sub_snap ?_ rfl)) (by repeat (first | exact Sub.nil _ | refine Sub.cons (by first | rfl | (rw [dgs_zero]; rfl) | (rw [List.drop_length]; rfl) | (simp; done) | (congr 2; omega) | (congr 3; omega)) ?_ | exact Sub.refl _ | refine sub_snap ?_ rfl)) rfl)
        have ha := ha.keep kpWx9
        have hb := hb.keep kpWx9
        have hz := hz.keep kpWx9
        have hVWx9 := hWWx9.sub (Sub.nil _)
        exact X.round ⟨Wx9, 3, zs, r⟩ ⟨by dsimp only; omega, hm.trans (bt_no hid).symm, by dsimp only; omega, hr, hVWx9, ha, hb, hz⟩ (by first | omega | (dsimp only; omega)) (by repeat (first | exact Sub.nil _ | refine Sub.cons (by first | rfl | (rw [dgs_zero]; rfl) | (rw [List.drop_length]; rfl) | (simp; done) | (congr 2; omega) | (congr 3; omega)) ?_ | exact Sub.refl _ | refine sub_snap ?_ rfl)) (by repeat (first | exact Sub.nil _ | refine Sub.cons (by first | rfl | (rw [dgs_zero]; rfl) | (rw [List.drop_length]; rfl) | (simp; done) | (congr 2; omega) | (congr 3; omega)) ?_ | exact Sub.refl _ | refine sub_snap ?_ rfl))
    · skip
      refine T.skip ?_
      refine X.then ?_
      refine T.seq ?_
      refine T.block ?_
      refine T.seq ?_
      refine T.text [.l, .l, .l, .l, .l] rfl ?_
      refine J.move rfl rfl ?_
      refine J.indexN arr97 agg96 rfl rfl (by decide) (by decide) rfl rfl rfl ?_
      refine J.alloc 8 rfl zero96 [.nilFunc, .nilFunc] rfl rfl (fun g8 hg8 => ?_)
      refine J.assign rfl rfl ?_
      refine J.store 8 rfl rfl rfl rfl ([.func (.func 87) #[] #[], .func (.func 88) #[] #[]] : List Value) rfl sz96 (by first | decide | exact Nat.le_refl _ | exact Nat.le_of_ble_eq_true rfl | (simp [rowN]; done) | (simp [rowN]; omega)) (by first | exact rowN_one _ _ | (simp; done) | (intro u hu; simp at hu; subst hu; rfl) | (intro u hu; simp at hu; rcases hu with rfl | rfl <;> rfl)) (by first | decide | exact Nat.zero_lt_succ _ | simp) trivial ([.func (.func 87) #[] #[], .func (.func 88) #[] #[]] : List Value) rfl ?_
      refine J.end ?_
      refine X.then ?_
      refine T.seq ?_
      refine T.seq ?_
      refine T.text [.l, .l, .l] rfl ?_
      refine J.fieldAddr fld96_0 rfl rfl ?_
      refine J.load1 (k := .l) trivial 8 rfl rfl one93 (by first | rfl | with_reducible exact rowN_get0 _ _ _ (by omega) | with_reducible exact rowN_get1 _ _ _ (by omega) | with_reducible exact rowN_get1s _ _ _ _ (by omega) | exact rowN_get1 _ _ _ (by omega) | exact rowN_get1s _ _ _ _ (by omega) | exact rowN_get0 _ _ _ (by omega)) rfl ?_
      refine J.eqNilF Tryz.underlying93 rfl rfl rfl ?_
      refine J.end ?_
      refine X.then ?_
      refine T.cond_false rfl ?_
      refine T.skip ?_
      refine X.then ?_
      refine T.seq ?_
      refine T.text [.l, .l, .l, .l, .l, .l] rfl ?_
      refine J.fieldAddr fld56_0 rfl rfl ?_
      refine J.loadN (k := .l) trivial 4 rfl rfl agg47 (ac a.who) rfl rfl rfl ?_
      refine J.move rfl rfl ?_
      refine J.build rfl rfl (.agg (Ch.mk a.who 3 0 0 0 [] [] none 0 none 0).cells.toArray) (fun w => by kernel_rfl) ?_
      refine J.alloc 9 rfl zero53 [.int .u8 0, .int .u8 0, .int .u8 0, .int .u8 0, .int .u8 0, .int .u8 0, .int .u8 0, .int .u8 0, .int .u8 0, .int .u8 0, .int .u8 0, .int .u8 0, .int .u8 0, .int .u8 0, .int .u8 0, .int .u8 0, .int .u8 0, .int .u8 0, .int .u8 0, .int .u8 0, .int .i64 0, .int .u64 0, .int .u64 0, .int .u64 0, .int .u64 0, .int .u64 0, .int .u64 0, .int .u64 0, .int .u64 0, .int .u64 0, .int .u64 0, .int .u64 0, .int .u64 0, .slice none 0 0, .slice none 0 0] rfl rfl (fun g9 hg9 => ?_)
      refine J.store 9 rfl rfl rfl rfl ((Ch.mk a.who 3 0 0 0 [] [] none 0 none 0).cells) rfl sz53 (Nat.le_of_ble_eq_true rfl) (by first | exact Ac.cells_one _ | exact Ch.cells_one _) (Nat.zero_lt_succ _) trivial ((Ch.mk a.who 3 0 0 0 [] [] none 0 none 0).cells) rfl ?_
      refine J.end ?_
      refine X.then ?_
      refine T.seq ?_
      refine T.text [.l, .l, .l, .l, .l, .l, .l, .l, .l, .l] rfl ?_
      refine J.fieldAddr fld96_0 rfl rfl ?_
      refine J.load1 (k := .l) trivial 8 rfl rfl one93 (by first | rfl | with_reducible exact rowN_get0 _ _ _ (by omega) | with_reducible exact rowN_get1 _ _ _ (by omega) | with_reducible exact rowN_get1s _ _ _ _ (by omega) | exact rowN_get1 _ _ _ (by omega) | exact rowN_get1s _ _ _ _ (by omega) | exact rowN_get0 _ _ _ (by omega)) rfl ?_
      refine J.callV0 fok87 rfl rfl rfl (fun w hw => Dk.getC w _ a ha.hn (hw.blkCs (k := 4) rfl)) ?_
      refine J.move rfl rfl ?_
      refine J.extract rfl rfl rfl ?_
      refine J.extract rfl rfl rfl ?_
      refine J.fieldAddr fld53_3 rfl rfl ?_
      refine J.store 9 rfl rfl rfl rfl _ rfl sz50 (by first | decide | exact Nat.le_refl _ | exact Nat.le_of_ble_eq_true rfl | (simp [rowN]; done) | (simp [rowN]; omega)) (by first | exact rowN_one _ _ | (simp; done) | (intro u hu; simp at hu; subst hu; rfl) | (intro u hu; simp at hu; rcases hu with rfl | rfl <;> rfl)) (by first | decide | exact Nat.zero_lt_succ _ | simp) trivial _ rfl ?_
      refine J.fieldAddr fld53_5 rfl rfl ?_
      refine J.store 9 rfl rfl rfl rfl [_] rfl sz51 (by first | decide | exact Nat.le_refl _ | exact Nat.le_of_ble_eq_true rfl | (simp [rowN]; done) | (simp [rowN]; omega)) (by first | exact rowN_one _ _ | (simp; done) | (intro u hu; simp at hu; subst hu; rfl) | (intro u hu; simp at hu; rcases hu with rfl | rfl <;> rfl)) (by first | decide | exact Nat.zero_lt_succ _ | simp) trivial _ rfl ?_
      refine J.end ?_
      refine X.then ?_
      refine T.seq ?_
      refine T.text [.l, .l, .l, .l, .l, .l, .l, .l, .l, .l] rfl ?_
      refine J.fieldAddr fld96_0 rfl rfl ?_
      refine J.load1 (k := .l) trivial 8 rfl rfl one93 (by first | rfl | with_reducible exact rowN_get0 _ _ _ (by omega) | with_reducible exact rowN_get1 _ _ _ (by omega) | with_reducible exact rowN_get1s _ _ _ _ (by omega) | exact rowN_get1 _ _ _ (by omega) | exact rowN_get1s _ _ _ _ (by omega) | exact rowN_get0 _ _ _ (by omega)) rfl ?_
      refine J.callV0 fok87 rfl rfl rfl (fun w hw => Dk.getC w _ b hb.hn (hw.blkCs (k := 5) rfl)) ?_
      refine J.move rfl rfl ?_
      refine J.extract rfl rfl rfl ?_
      refine J.extract rfl rfl rfl ?_
      refine J.fieldAddr fld53_4 rfl rfl ?_
      refine J.store 9 rfl rfl rfl rfl _ rfl sz50 (by first | decide | exact Nat.le_refl _ | exact Nat.le_of_ble_eq_true rfl | (simp [rowN]; done) | (simp [rowN]; omega)) (by first | exact rowN_one _ _ | (simp; done) | (intro u hu; simp at hu; subst hu; rfl) | (intro u hu; simp at hu; rcases hu with rfl | rfl <;> rfl)) (by first | decide | exact Nat.zero_lt_succ _ | simp) trivial _ rfl ?_
      refine J.fieldAddr fld53_6 rfl rfl ?_
      refine J.store 9 rfl rfl rfl rfl [_] rfl sz51 (by first | decide | exact Nat.le_refl _ | exact Nat.le_of_ble_eq_true rfl | (simp [rowN]; done) | (simp [rowN]; omega)) (by first | exact rowN_one _ _ | (simp; done) | (intro u hu; simp at hu; subst hu; rfl) | (intro u hu; simp at hu; rcases hu with rfl | rfl <;> rfl)) (by first | decide | exact Nat.zero_lt_succ _ | simp) trivial _ rfl ?_
      refine J.end ?_
      refine X.asE 9 ⟨some g9, 53, (kC a b 3).cells⟩ rfl (by rfl) ?_
      refine X.then ?_
      refine T.seq ?_
      refine T.text [.l, .l, .l] rfl ?_
      refine J.loadN (k := .l) trivial 9 rfl rfl agg53 (kC a b 3).cells rfl rfl rfl ?_
      refine J.call0 (k := .l) trivial fok61 rfl rfl (fun w hw => Da.idle w (kC a b 3) (kC_ok (ha.keep (keep_snap (I := [r.id, some g4, some g5]) (B0 := B) (l1 := []) hV hn (fun g hg => by cases hg) hw (by repeat (first | exact Sub.refl _ | refine sub_snap ?_ rfl)) (Sub.nil _) rfl)) (hb.keep (keep_snap (I := [r.id, some g4, some g5]) (B0 := B) (l1 := []) hV hn (fun g hg => by cases hg) hw (by repeat (first | exact Sub.refl _ | refine sub_snap ?_ rfl)) (Sub.nil _) rfl)) 3).fo.cs (kC_ok (ha.keep (keep_snap (I := [r.id, some g4, some g5]) (B0 := B) (l1 := []) hV hn (fun g hg => by cases hg) hw (by repeat (first | exact Sub.refl _ | refine sub_snap ?_ rfl)) (Sub.nil _) rfl)) (hb.keep (keep_snap (I := [r.id, some g4, some g5]) (B0 := B) (l1 := []) hV hn (fun g hg => by cases hg) hw (by repeat (first | exact Sub.refl _ | refine sub_snap ?_ rfl)) (Sub.nil _) rfl)) 3).fn.cs (kC_ok ha hb 3).dO (kC_ok ha hb 3).dN) ?_
      refine J.not rfl rfl (by rw [← decide_not]) ?_
      refine J.end ?_
      refine X.then ?_
      refine T.cond_dec rfl (fun h10 => ?_) (fun h10 => ?_)
      · have hid := h10
        refine T.text [.l, .l, .l, .l, .l, .l] rfl ?_
        refine J.move rfl rfl ?_
        refine J.loadN (k := .l) trivial 9 rfl rfl agg53 (kC a b 3).cells rfl rfl rfl ?_
        refine J.callB fok58 rfl rfl _ _ [(0, r.ent 53 (rowC zs)), (4, ⟨some g4, 56, a.cells⟩), (5, ⟨some g5, 56, b.cells⟩), (8, ⟨some g8, 96, ([.func (.func 87) #[] #[], .func (.func 88) #[] #[]] : List Value)⟩), (9, ⟨some g9, 53, (kC a b 3).cells⟩)] (by repeat (first | exact Sub.nil _ | refine Sub.cons (by first | rfl | (rw [dgs_zero]; rfl) | (rw [List.drop_length]; rfl) | (simp; done) | (congr 2; omega) | (congr 3; omega)) ?_ | exact Sub.refl _ | refine sub_snap ?_ rfl)) rfl (fun _ _ => Sub.nil _) (fun w hw => Da.own w n (B ++ ids [(0, r.ent 53 (rowC zs)), (4, ⟨some g4, 56, a.cells⟩), (5, ⟨some g5, 56, b.cells⟩), (8, ⟨some g8, 96, ([.func (.func 87) #[] #[], .func (.func 88) #[] #[]] : List Value)⟩), (9, ⟨some g9, 53, (kC a b 3).cells⟩)]) (kC a b 3) (busy_lt (l1 := [(0, r.ent 53 (rowC zs)), (4, ⟨some g4, 56, a.cells⟩), (5, ⟨some g5, 56, b.cells⟩), (8, ⟨some g8, 96, ([.func (.func 87) #[] #[], .func (.func 88) #[] #[]] : List Value)⟩), (9, ⟨some g9, 53, (kC a b 3).cells⟩)]) hB hw (by repeat (first | exact Sub.nil _ | refine Sub.cons (by first | rfl | (rw [dgs_zero]; rfl) | (rw [List.drop_length]; rfl) | (simp; done) | (congr 2; omega) | (congr 3; omega)) ?_ | exact Sub.refl _ | refine sub_snap ?_ rfl)) rfl) ((kC_ok ha hb 3).keep (keep_snap (I := [r.id, some g4, some g5]) (B0 := B) (l1 := [(0, r.ent 53 (rowC zs)), (4, ⟨some g4, 56, a.cells⟩), (5, ⟨some g5, 56, b.cells⟩), (8, ⟨some g8, 96, ([.func (.func 87) #[] #[], .func (.func 88) #[] #[]] : List Value)⟩), (9, ⟨some g9, 53, (kC a b 3).cells⟩)]) hV hn (fun g hg => by cases hg) hw (by repeat (first | exact Sub.refl _ | refine sub_snap ?_ rfl)) (by repeat (first | exact Sub.nil _ | refine Sub.cons (by first | rfl | (rw [dgs_zero]; rfl) | (rw [List.drop_length]; rfl) | (simp; done) | (congr 2; omega) | (congr 3; omega)) ?_ | exact Sub.refl _ | refine sub_snap ?_ rfl)) rfl))) (fun i43 W43 hP43 hW43 => ?_)
        obtain ⟨hv43, hc43⟩ := hP43
        have kpW43 := (keep_snap (I := [r.id, some g4, some g5]) (B0 := B) (l1 := [(0, r.ent 53 (rowC zs)), (4, ⟨some g4, 56, a.cells⟩), (5, ⟨some g5, 56, b.cells⟩), (8, ⟨some g8, 96, ([.func (.func 87) #[] #[], .func (.func 88) #[] #[]] : List Value)⟩), (9, ⟨some g9, 53, (kC a b 3).cells⟩)]) hV hn (fun g hg => by cases hg) hW43 (by repeat (first | exact Sub.refl _ | refine sub_snap ?_ rfl)) (by repeat (first | exact Sub.nil _ | refine Sub.cons (by first | rfl | (rw [dgs_zero]; rfl) | (rw [List.drop_length]; rfl) | (simp; done) | (congr 2; omega) | (congr 3; omega)) ?_ | exact Sub.refl _ | refine sub_snap ?_ rfl)) rfl)
        have ha := ha.keep kpW43
        have hb := hb.keep kpW43
        have hz := hz.keep kpW43
        have hVW43 := hW43.sub (Sub.nil _)
        refine J.lit1 44 rfl Tryz.underlying25 el53 (by decide) rfl (i43.cells) rfl rfl rfl (fun g44 hg44 => ?_)
        refine J.append 0 rfl Tryz.underlying25 el53 rfl hr (rowC_length zs) rfl rfl rfl (fun w hw => (hw.blkCs (k := 44) rfl)) (Ch.cells_one _) (by omega) (by unfold maxLen; omega) rfl (zs ++ [i43]).length (by rw [List.length_append]; rfl) (rowC (zs ++ [i43])) (rowC_snoc _ _).symm (fun r45 hr45 => ?_)
        refine J.assign rfl rfl ?_
        refine J.end ?_
        refine X.inBlock (X.then ?_)
        refine T.text [.l, .l] rfl ?_
        refine J.add rfl rfl rfl (by first | exact add_nat _ 1 (by omega) | exact i64_ok _ (by omega) | exact rfl) ?_
        refine J.as 46 (.int .i64 ((4 : Nat) : Int)) rfl (by rfl) ?_
        refine J.move rfl rfl ?_
        refine J.end ?_
        refine X.snap [(0, r45.ent 53 (rowC (zs ++ [i43]))), (4, ⟨some g4, 56, a.cells⟩), (5, ⟨some g5, 56, b.cells⟩)] (by repeat (first | exact Sub.nil _ | refine Sub.cons (by first | rfl | (rw [dgs_zero]; rfl) | (rw [List.drop_length]; rfl) | (simp; done) | (congr 2; omega) | (congr 3; omega)) ?_ | exact Sub.refl _ | refine sub_snap ?_ rfl)) rfl (fun Wx11 hWWx11 => ?_)
        have kpWx11 := (keep_snap (I := [r.id, some g4, some g5, some g8, some g9]) (B0 := B) (l1 := [(0, r45.ent 53 (rowC (zs ++ [i43]))), (4, ⟨some g4, 56, a.cells⟩), (5, ⟨some g5, 56, b.cells⟩)]) hVW43 hn (fun g hg => by cases hg) hWWx11 (by repeat (first | exact Sub.refl _ | refine sub_snap ?_ rfl)) (by repeat (first | exact Sub.nil _ | refine Sub.cons (by first | rfl | (rw [dgs_zero]; rfl) | (rw [List.drop_length]; rfl) | (simp; done) | (congr 2; omega) | (congr 3; omega)) ?_ | exact Sub.refl _ | refine sub_snap ?_ rfl)) rfl)
        have ha := ha.keep kpWx11
        have hb := hb.keep kpWx11
        have hz := hz.keep kpWx11
        have hc43 := hc43.keep kpWx11
        have hVWx11 := hWWx11.sub (Sub.nil _)
        exact X.round ⟨Wx11, 4, (zs ++ [i43]), r45⟩ ⟨by dsimp only; omega, by rw [snoc_v, hv43, hm]; exact (bt_yes hid).symm, by dsimp only; rw [List.length_append, List.length_singleton]; omega, hr45, hVWx11, ha, hb, hz.snoc hc43⟩ (by first | omega | (dsimp only; omega)) (by repeat (first | exact Sub.nil _ | refine Sub.cons (by first | rfl | (rw [dgs_zero]; rfl) | (rw [List.drop_length]; rfl) | (simp; done) | (congr 2; omega) | (congr 3; omega)) ?_ | exact Sub.refl _ | refine sub_snap ?_ rfl)) (by repeat (first | exact Sub.nil _ | refine Sub.cons (by first | rfl | (rw [dgs_zero]; rfl) | (rw [List.drop_length]; rfl) | (simp; done) | (congr 2; omega) | (congr 3; omega)) ?_ | exact Sub.refl _ | refine sub_snap ?_ rfl))
      · have hid := Decidable.not_not.1 h10
        refine T.skip ?_
        refine X.inBlock (X.then ?_)
        refine T.text [.l, .l] rfl ?_
        refine J.add rfl rfl rfl (by first | exact add_nat _ 1 (by omega) | exact i64_ok _ (by omega) | exact rfl) ?_
        refine J.as 46 (.int .i64 ((4 : Nat) : Int)) rfl (by rfl) ?_
        refine J.move rfl rfl ?_
        refine J.end ?_
        refine X.snap [(0, r.ent 53 (rowC zs)), (4, ⟨some g4, 56, a.cells⟩), (5, ⟨some g5, 56, b.cells⟩)] (by repeat (first | exact Sub.nil _ | refine Sub.cons (by first | rfl | (rw [dgs_zero]; rfl) | (rw [List.drop_length]; rfl) | (simp; done) | (congr 2; omega) | (congr 3; omega)) ?_ | exact Sub.refl _ | refine sub_snap ?_ rfl)) rfl (fun Wx12 hWWx12 => ?_)
        have kpWx12 := (keep_snap (I := [r.id, some g4, some g5]) (B0 := B) (l1 := [(0, r.ent 53 (rowC zs)), (4, ⟨some g4, 56, a.cells⟩), (5, ⟨some g5, 56, b.cells⟩)]) hV hn (fun g hg => by cases hg) hWWx12 (by repeat (first | exact Sub.refl _ | refine sub_snap ?_ rfl)) (by repeat (first | exact Sub.nil _ | refine Sub.cons (by first | rfl | (rw [dgs_zero]; rfl) | (rw [List.drop_length]; rfl) | (simp; done) | (congr 2; omega) | (congr 3; omega)) ?_ | exact Sub.refl _ | refine sub_snap ?_ rfl)) rfl)
        have ha := ha.keep kpWx12
        have hb := hb.keep kpWx12
        have hz := hz.keep kpWx12
        have hVWx12 := hWWx12.sub (Sub.nil _)
        exact X.round ⟨Wx12, 4, zs, r⟩ ⟨by dsimp only; omega, hm.trans (bt_no hid).symm, by dsimp only; omega, hr, hVWx12, ha, hb, hz⟩ (by first | omega | (dsimp only; omega)) (by repeat (first | exact Sub.nil _ | refine Sub.cons (by first | rfl | (rw [dgs_zero]; rfl) | (rw [List.drop_length]; rfl) | (simp; done) | (congr 2; omega) | (congr 3; omega)) ?_ | exact Sub.refl _ | refine sub_snap ?_ rfl)) (by repeat (first | exact Sub.nil _ | refine Sub.cons (by first | rfl | (rw [dgs_zero]; rfl) | (rw [List.drop_length]; rfl) | (simp; done) | (congr 2; omega) | (congr 3; omega)) ?_ | exact Sub.refl _ | refine sub_snap ?_ rfl))
  · obtain rfl : i = 4 := by omega
    refine T.exit ?_
    refine X.then_exit (X.then_exit (X.inBlock_eq (X.then ?_)))
    refine T.seq ?_
    refine T.text [.l, .l, .l, .l, .l, .l, .l, .l, .l] rfl ?_
    refine J.move rfl rfl ?_
    refine J.fieldAddr fld56_0 rfl rfl ?_
    refine J.loadN (k := .l) trivial 4 rfl rfl agg47 (ac a.who) rfl rfl rfl ?_
    refine J.fieldAddr fld56_4 rfl rfl ?_
    refine J.load1 (k := .l) trivial 4 rfl rfl one54 (by first | rfl | with_reducible exact rowN_get0 _ _ _ (by omega) | with_reducible exact rowN_get1 _ _ _ (by omega) | with_reducible exact rowN_get1s _ _ _ _ (by omega) | exact rowN_get1 _ _ _ (by omega) | exact rowN_get1s _ _ _ _ (by omega) | exact rowN_get0 _ _ _ (by omega)) rfl ?_
    refine J.as 51 (.slice a.sA 0 a.sC) rfl (by rw [hsa]) ?_
    refine J.fieldAddr fld56_4 rfl rfl ?_
    refine J.load1 (k := .l) trivial 5 rfl rfl one54 (by first | rfl | with_reducible exact rowN_get0 _ _ _ (by omega) | with_reducible exact rowN_get1 _ _ _ (by omega) | with_reducible exact rowN_get1s _ _ _ _ (by omega) | exact rowN_get1 _ _ _ (by omega) | exact rowN_get1s _ _ _ _ (by omega) | exact rowN_get0 _ _ _ (by omega)) rfl ?_
    refine J.as 53 (.slice b.sA 0 b.sC) rfl (by rw [hsb]) ?_
    refine J.call0 (k := .l) trivial fok65 rfl rfl (fun w hw => Dl.slots w (hdOf r.id) _ _ _ r.cap _ _ _) ?_
    refine J.assign rfl rfl ?_
    refine J.end ?_
    refine X.then ?_
    refine T.ret ?_
    exact X.ret1 rfl (RV.tmp rfl) (fun w' hw' => ⟨(zs, r), ⟨hm, hr, fit_row hw' (j := 0) rfl (fun g h => ⟨hB g h, fun q => by cases q⟩), hz.keep (((keep_snap (I := [r.id, some g4, some g5]) (B0 := B) (l1 := []) hV hn (fun g hg => by cases hg) hw' (by repeat (first | exact Sub.refl _ | refine sub_snap ?_ rfl)) (Sub.nil _) rfl)).le (fun o h => List.mem_append_left _ h))⟩, rfl, hw'.sub (Sub.nil _)⟩)
end Go.Proofs.YtlllcafedekojaaGreatDoor.Dm
set_option linter.unusedVariables false
set_option maxRecDepth 20000
namespace Go.Proofs.YtlllcafedekojaaGreatDoor.Dn
open Go Go.Fw

theorem sz287 : SizeT Tryz.prog 287 32 := (by unfold SizeT; kernel_rfl)
theorem fok85 : FnOk Tryz.prog 85 := FnOk.mk' Tryz.func85 (by kernel_rfl) rfl
theorem fok86 : FnOk Tryz.prog 86 := FnOk.mk' Tryz.func86 (by kernel_rfl) rfl
theorem zero56 : ZeroT Tryz.prog 56 (.agg ([.int .u8 0, .int .u8 0, .int .u8 0, .int .u8 0, .int .u8 0, .int .u8 0, .int .u8 0, .int .u8 0, .int .u8 0, .int .u8 0, .int .u8 0, .int .u8 0, .int .u8 0, .int .u8 0, .int .u8 0, .int .u8 0, .int .u8 0, .int .u8 0, .int .u8 0, .int .u8 0, .int .u64 0, .int .u64 0, .int .u64 0, .int .u64 0, .int .u64 0, .slice none 0 0, .slice none 0 0]).toArray) := (by unfold ZeroT; kernel_rfl)
theorem sz51 : SizeT Tryz.prog 51 1 := (by unfold SizeT; kernel_rfl)
theorem fld56_3 : FldT Tryz.prog 56 3 51 25 0 := ⟨by kernel_rfl, sz51⟩
theorem one51 : OneT Tryz.prog 51 := ⟨⟨_, Tryz.underlying51, rfl⟩, by kernel_rfl⟩
theorem fok72 : FnOk Tryz.prog 72 := FnOk.mk' Tryz.func72 (by kernel_rfl) rfl
theorem fok64 : FnOk Tryz.prog 64 := FnOk.mk' Tryz.func64 (by kernel_rfl) rfl
theorem zero97 : ZeroT Tryz.prog 97 (.agg ([.nilFunc, .nilFunc, .nilFunc, .nilFunc, .nilFunc, .nilFunc, .nilFunc, .nilFunc]).toArray) := (by unfold ZeroT; kernel_rfl)
theorem sz97 : SizeT Tryz.prog 97 8 := (by unfold SizeT; kernel_rfl)
theorem sz53 : SizeT Tryz.prog 53 35 := (by unfold SizeT; kernel_rfl)
theorem sl25 : SlT Tryz.prog 25 53 35 := ⟨Tryz.underlying25, sz53⟩
theorem sz3 : SizeT Tryz.prog 3 1 := (by unfold SizeT; kernel_rfl)
theorem fld53_1 : FldT Tryz.prog 53 1 3 20 0 := ⟨by kernel_rfl, sz3⟩
theorem one3 : OneT Tryz.prog 3 := ⟨⟨_, Tryz.underlying3, rfl⟩, by kernel_rfl⟩
theorem sz96 : SizeT Tryz.prog 96 2 := (by unfold SizeT; kernel_rfl)
theorem arr97 : ArrT Tryz.prog 97 4 96 2 := ⟨Tryz.underlying97, sz96⟩
theorem agg96 : AggT Tryz.prog 96 2 := ⟨⟨_, Tryz.underlying96, rfl⟩, by kernel_rfl⟩
theorem zero96 : ZeroT Tryz.prog 96 (.agg ([.nilFunc, .nilFunc]).toArray) := (by unfold ZeroT; kernel_rfl)
theorem sz93 : SizeT Tryz.prog 93 1 := (by unfold SizeT; kernel_rfl)
theorem fld96_0 : FldT Tryz.prog 96 0 93 0 0 := ⟨by kernel_rfl, sz93⟩
theorem one93 : OneT Tryz.prog 93 := ⟨⟨_, Tryz.underlying93, rfl⟩, by kernel_rfl⟩
theorem zero50 : ZeroT Tryz.prog 50 (.agg ([.int .u64 0, .int .u64 0, .int .u64 0, .int .u64 0]).toArray) := (by unfold ZeroT; kernel_rfl)
theorem sz50 : SizeT Tryz.prog 50 4 := (by unfold SizeT; kernel_rfl)
theorem agg50 : AggT Tryz.prog 50 4 := ⟨⟨_, Tryz.underlying50, rfl⟩, by kernel_rfl⟩
theorem fld53_3 : FldT Tryz.prog 53 3 50 25 3 := ⟨by kernel_rfl, sz50⟩
theorem sz48 : SizeT Tryz.prog 48 1 := (by unfold SizeT; kernel_rfl)
theorem arr50 : ArrT Tryz.prog 50 4 48 1 := ⟨Tryz.underlying50, sz48⟩
theorem one48 : OneT Tryz.prog 48 := ⟨⟨_, Tryz.underlying48, rfl⟩, by kernel_rfl⟩
theorem eqw50 : EqT Tryz.prog 50 := ⟨⟨48, arr50, one48, Tryz.underlying48⟩, by kernel_rfl⟩
theorem fld53_5 : FldT Tryz.prog 53 5 51 33 0 := ⟨by kernel_rfl, sz51⟩
theorem fok60 : FnOk Tryz.prog 60 := FnOk.mk' Tryz.func60 (by kernel_rfl) rfl
theorem sz94 : SizeT Tryz.prog 94 1 := (by unfold SizeT; kernel_rfl)
theorem fld96_1 : FldT Tryz.prog 96 1 94 1 0 := ⟨by kernel_rfl, sz94⟩
theorem one94 : OneT Tryz.prog 94 := ⟨⟨_, Tryz.underlying94, rfl⟩, by kernel_rfl⟩
theorem fld53_4 : FldT Tryz.prog 53 4 50 29 3 := ⟨by kernel_rfl, sz50⟩
theorem fld53_6 : FldT Tryz.prog 53 6 51 34 0 := ⟨by kernel_rfl, sz51⟩
theorem sz54 : SizeT Tryz.prog 54 1 := (by unfold SizeT; kernel_rfl)
theorem fld56_4 : FldT Tryz.prog 56 4 54 26 0 := ⟨by kernel_rfl, sz54⟩
theorem one54 : OneT Tryz.prog 54 := ⟨⟨_, Tryz.underlying54, rfl⟩, by kernel_rfl⟩
theorem fok73 : FnOk Tryz.prog 73 := FnOk.mk' Tryz.func73 (by kernel_rfl) rfl
theorem agg56 : AggT Tryz.prog 56 27 := ⟨⟨_, Tryz.underlying56, rfl⟩, by kernel_rfl⟩
theorem sz56 : SizeT Tryz.prog 56 27 := (by unfold SizeT; kernel_rfl)

set_option maxHeartbeats 4000000 in
theorem turned (w : World) (a : Ac) (c : Ch) (A1 : Option Addr) (c1 : Nat) (hnn : a.nonce < 18446744073709551616) (hc0 : a.code = []) (hs0 : a.sl.length = 0) (hA : Cs w A1 (rowC [c])) (hc1 : 1 ≤ c1) (hkd : c.kind = 2) (ho : c.oc = []) (hno : c.nc = []) (hbal : a.bal % 2 ^ 256 = c.old % 2 ^ 256) :
    Calls Tryz.prog 51 [.agg a.cells.toArray, .slice A1 1 c1].toArray w fun e w' => ∃ q : RowIx, True ∧ e = .returned (.tuple #[.agg (a.moved c.new q).cells.toArray, .bool true]) ∧ WS w [] [] w' := by
  have e1 : Cs w a.cA (rowN .u8 a.code) := by rw [hc0]; exact Cs.nil _ _
  have hlc : a.code.length ≤ 1000000000000 := by rw [hc0]; exact Nat.zero_le _
  refine calls_of_T [] 77 [] Tryz.func51 rfl Tryz.ntmps51 (by simp) (WS.refl _ _) ?_
  refine T.seq ?_
  refine T.text [.l, .l, .l] rfl ?_
  refine J.box 2 rfl rfl (a.cells) rfl rfl (fun g2 hg2 => ?_)
  refine J.alloc 4 rfl zero56 [.int .u8 0, .int .u8 0, .int .u8 0, .int .u8 0, .int .u8 0, .int .u8 0, .int .u8 0, .int .u8 0, .int .u8 0, .int .u8 0, .int .u8 0, .int .u8 0, .int .u8 0, .int .u8 0, .int .u8 0, .int .u8 0, .int .u8 0, .int .u8 0, .int .u8 0, .int .u8 0, .int .u64 0, .int .u64 0, .int .u64 0, .int .u64 0, .int .u64 0, .slice none 0 0, .slice none 0 0] rfl rfl (fun g4 hg4 => ?_)
  refine J.assign rfl rfl ?_
  refine J.end ?_
  refine X.then ?_
  refine T.seq ?_
  refine T.text [.l, .l, .l, .l, .l] rfl ?_
  refine J.fieldAddr fld56_3 rfl rfl ?_
  refine J.load1 (k := .l) trivial 2 rfl rfl one51 (by first | rfl | with_reducible exact rowN_get0 _ _ _ (by omega) | with_reducible exact rowN_get1 _ _ _ (by omega) | with_reducible exact rowN_get1s _ _ _ _ (by omega) | exact rowN_get1 _ _ _ (by omega) | exact rowN_get1s _ _ _ _ (by omega) | exact rowN_get0 _ _ _ (by omega)) rfl ?_
  refine J.callRow 13 rfl (t := 5) (kd := .u8) fok72 rfl rfl (fun w hw => Da.Clone w _ _ _ (e1.ws hw (off_nil _)) hlc) (fun zs13 r13 hz13 hr13 => ?_)
  have hz0 : zs13 = [] := hz13.trans hc0
  refine J.fieldAddr fld56_3 rfl rfl ?_
  refine J.store 2 rfl rfl rfl rfl [r13.val zs13.length] rfl sz51 (by first | decide | exact Nat.le_refl _ | exact Nat.le_of_ble_eq_true rfl | (simp [rowN]; done) | (simp [rowN]; omega)) (by intro u hu; rw [List.mem_singleton.1 hu]; rfl) (by first | decide | exact Nat.zero_lt_succ _ | simp) trivial _ rfl ?_
  refine J.end ?_
  refine X.asE 2 ⟨some g2, 56, ((a.coded zs13 r13).setB a.bal).cells⟩ rfl (by rfl) ?_
  refine X.then ?_
  refine T.seq ?_
  refine T.text [.l, .l, .l] rfl ?_
  refine J.call0 (k := .l) trivial fok64 rfl rfl (fun w hw => Dk.views w) ?_
  refine J.alloc 6 rfl zero97 [.nilFunc, .nilFunc, .nilFunc, .nilFunc, .nilFunc, .nilFunc, .nilFunc, .nilFunc] rfl rfl (fun g6 hg6 => ?_)
  refine J.store 6 rfl rfl rfl rfl ([.nilFunc, .nilFunc, .func (.func 81) #[] #[], .func (.func 83) #[] #[], .func (.func 85) #[] #[], .func (.func 86) #[] #[], .func (.func 87) #[] #[], .func (.func 88) #[] #[]] : List Value) rfl sz97 (by first | decide | exact Nat.le_refl _ | exact Nat.le_of_ble_eq_true rfl | (simp [rowN]; done) | (simp [rowN]; omega)) (by intro u hu; simp at hu; rcases hu with rfl | rfl | rfl | rfl | rfl | rfl | rfl | rfl <;> rfl) (by first | decide | exact Nat.zero_lt_succ _ | simp) trivial ([.nilFunc, .nilFunc, .func (.func 81) #[] #[], .func (.func 83) #[] #[], .func (.func 85) #[] #[], .func (.func 86) #[] #[], .func (.func 87) #[] #[], .func (.func 88) #[] #[]] : List Value) rfl ?_
  refine J.end ?_
  refine X.then ?_
  refine T.seq ?_
  refine T.block ?_
  refine T.loop (ι := Nat × Nat × Option Addr × Nat) (fun ((k, x, A, cc) : Nat × Nat × Option Addr × Nat) => k ≤ 1 ∧ (k = 1 → A1 = A ∧ c1 = cc ∧ a.bal = x) ∧ (k = 0 → c.new = x)) (fun ((k, x, A, cc) : Nat × Nat × Option Addr × Nat) => [(0, .agg a.cells.toArray), (2, .pointer (some ⟨g2, 0, none⟩)), (4, .pointer (some ⟨g4, 0, none⟩)), (12, .slice a.cA a.code.length a.cC), (13, r13.val zs13.length), (15, .agg ([.nilFunc, .nilFunc, .func (.func 81) #[] #[], .func (.func 83) #[] #[], .func (.func 85) #[] #[], .func (.func 86) #[] #[], .func (.func 87) #[] #[], .func (.func 88) #[] #[]] : List Value).toArray), (6, .pointer (some ⟨g6, 0, none⟩)), (1, .slice A k cc)]) (fun ((k, x, A, cc) : Nat × Nat × Option Addr × Nat) => [(4, ⟨some g4, 56, [.int .u8 0, .int .u8 0, .int .u8 0, .int .u8 0, .int .u8 0, .int .u8 0, .int .u8 0, .int .u8 0, .int .u8 0, .int .u8 0, .int .u8 0, .int .u8 0, .int .u8 0, .int .u8 0, .int .u8 0, .int .u8 0, .int .u8 0, .int .u8 0, .int .u8 0, .int .u8 0, .int .u64 0, .int .u64 0, .int .u64 0, .int .u64 0, .int .u64 0, .slice none 0 0, .slice none 0 0]⟩), (13, r13.ent 5 (rowN .u8 zs13)), (6, ⟨some g6, 97, ([.nilFunc, .nilFunc, .func (.func 81) #[] #[], .func (.func 83) #[] #[], .func (.func 85) #[] #[], .func (.func 86) #[] #[], .func (.func 87) #[] #[], .func (.func 88) #[] #[]] : List Value)⟩), (2, ⟨some g2, 56, ((a.coded zs13 r13).setB x).cells⟩)]) (fun ((k, x, A, cc) : Nat × Nat × Option Addr × Nat) => k) ⟨1, a.bal, A1, c1⟩ ⟨Nat.le_refl _, fun _ => ⟨rfl, rfl, rfl⟩, fun q => (by cases q)⟩ (by repeat (first | exact Sub.nil _ | refine Sub.cons (by first | rfl | (rw [dgs_zero]; rfl) | (rw [List.drop_length]; rfl) | (simp; done) | (congr 2; omega) | (congr 3; omega)) ?_)) (by repeat (first | exact Sub.nil _ | refine Sub.cons (by first | rfl | (rw [dgs_zero]; rfl) | (rw [List.drop_length]; rfl) | (simp; done) | (congr 2; omega) | (congr 3; omega)) ?_)) ?_
  rintro ⟨k, x, A, cc⟩ ⟨hk, hk1, hk0⟩
  try dsimp only at *
  refine T.seq ?_
  refine T.seq ?_
  refine T.text [.l, .l, .l, .l, .l, .l, .l, .l, .l, .l] rfl ?_
  refine J.move rfl rfl ?_
  refine J.lenSl Tryz.underlying25 rfl rfl ?_
  refine J.gtr rfl rfl rfl rfl ?_
  refine J.move rfl rfl ?_
  refine J.split 19 rfl (fun h1 => ?_) (fun h1 => ?_)
  · obtain rfl : k = 1 := by omega
    obtain ⟨rfl, rfl, rfl⟩ := hk1 rfl
    refine J.yes rfl rfl ?_
    refine J.move rfl rfl ?_
    refine J.yes rfl rfl ?_
    refine J.indexSlI sl25 rfl (hA.isSome (by rw [rowC_length]; simp)) rfl (by omega) (by omega) (by rfl) rfl ?_
    refine J.yes rfl rfl ?_
    refine J.fieldAddrI fld53_1 rfl rfl ?_
    refine J.yes rfl rfl ?_
    refine J.loadI1 (k := .l) trivial hA (off_nil _) rfl one3 (by rfl) rfl ?_
    refine J.as 23 (.int .i64 2) rfl (by show Value.int .i64 c.kind = _; rw [hkd]) ?_
    refine J.yes rfl rfl ?_
    refine J.neq rfl rfl rfl (decide_eq_true (by first | omega | rfl | assumption | (simp only [*]; done))) ?_
    refine J.pick_t rfl rfl rfl ?_
    refine J.end ?_
    refine X.then ?_
    refine T.cond_true rfl ?_
    refine T.skip ?_
    refine X.then ?_
    refine T.block ?_
    refine T.seq ?_
    refine T.text [.l, .l, .l, .l, .l, .l, .l, .l] rfl ?_
    refine J.move rfl rfl ?_
    refine J.indexSlI sl25 rfl (hA.isSome (by rw [rowC_length]; simp)) rfl (by omega) (by omega) (by rfl) rfl ?_
    refine J.fieldAddrI fld53_1 rfl rfl ?_
    refine J.loadI1 (k := .l) trivial hA (off_nil _) rfl one3 (by rfl) rfl ?_
    refine J.as 29 (.int .i64 2) rfl (by show Value.int .i64 c.kind = _; rw [hkd]) ?_
    refine J.indexArr arr97 rfl rfl (by omega) (by omega) (by first | exact Int.toNat_natCast _ | rfl) rfl ?_
    refine J.loadN (k := .l) trivial 6 rfl rfl agg96 ([.func (.func 85) #[] #[], .func (.func 86) #[] #[]] : List Value) rfl rfl rfl ?_
    refine J.alloc 7 rfl zero96 [.nilFunc, .nilFunc] rfl rfl (fun g7 hg7 => ?_)
    refine J.store 7 rfl rfl rfl rfl ([.func (.func 85) #[] #[], .func (.func 86) #[] #[]] : List Value) rfl sz96 (by first | decide | exact Nat.le_refl _ | exact Nat.le_of_ble_eq_true rfl | (simp [rowN]; done) | (simp [rowN]; omega)) (by first | exact rowN_one _ _ | (simp; done) | (intro u hu; simp at hu; subst hu; rfl) | (intro u hu; simp at hu; rcases hu with rfl | rfl <;> rfl)) (by first | decide | exact Nat.zero_lt_succ _ | simp) trivial ([.func (.func 85) #[] #[], .func (.func 86) #[] #[]] : List Value) rfl ?_
    refine J.end ?_
    refine X.then ?_
    refine T.seq ?_
    refine T.seq ?_
    refine T.text [.l, .l, .l, .l, .l, .l, .l, .l, .l] rfl ?_
    refine J.fieldAddr fld96_0 rfl rfl ?_
    refine J.load1 (k := .l) trivial 7 rfl rfl one93 rfl rfl ?_
    refine J.callV0 fok85 rfl rfl rfl (fun w hw => Dk.getB w _ ((a.coded zs13 r13).setB a.bal) hnn (hw.blkCs (k := 2) rfl)) ?_
    refine J.move rfl rfl ?_
    refine J.extract rfl rfl rfl ?_
    refine J.extract rfl rfl rfl ?_
    refine J.alloc 8 rfl zero50 [.int .u64 0, .int .u64 0, .int .u64 0, .int .u64 0] rfl rfl (fun g8 hg8 => ?_)
    refine J.store 8 rfl rfl rfl rfl _ rfl sz50 (by first | decide | exact Nat.le_refl _ | exact Nat.le_of_ble_eq_true rfl | (simp [rowN]; done) | (simp [rowN]; omega)) (by first | exact rowN_one _ _ | (simp; done) | (intro u hu; simp at hu; subst hu; rfl) | (intro u hu; simp at hu; rcases hu with rfl | rfl <;> rfl)) (by first | decide | exact Nat.zero_lt_succ _ | simp) trivial _ rfl ?_
    refine J.assign rfl rfl ?_
    refine J.end ?_
    refine X.then ?_
    refine T.seq ?_
    refine T.draw [] [(0, .q), (1, .g), (2, .g), (3, .g), (4, .q), (5, .g), (6, .g), (7, .g), (8, .g), (9, .g), (10, .g), (11, .q), (12, .q), (13, .g), (14, .g)] (by kernel_rfl) (by kernel_rfl) ?_ (by repeat (first | exact Sub.nil _ | refine Sub.cons (by first | rfl | (rw [dgs_zero]; rfl) | (rw [List.drop_length]; rfl) | (simp; done) | (congr 2; omega) | (congr 3; omega)) ?_))
    refine J.loadW (k := .q) trivial 8 rfl rfl agg50 (by first | rfl | with_reducible exact rowW_seg0 _ _ _ (by omega) | with_reducible exact rowW_seg00 _ _ (by omega) | with_reducible exact rowW_segs _ _ _ (by omega) | with_reducible exact rowW_seg _ _ (by omega) | with_reducible exact rowW_segb _ _ _ (by omega) | exact rowW_seg _ _ (by omega) | exact rowW_segs _ _ _ (by omega)) rfl ?_
    refine J.move rfl rfl ?_
    refine J.indexSlI sl25 rfl (hA.isSome (by rw [rowC_length]; simp)) rfl (by omega) (by omega) (by rfl) rfl ?_
    refine J.fieldAddrI fld53_3 rfl rfl ?_
    refine J.loadIN (k := .q) trivial hA (off_nil _) rfl agg50 (wc c.old) rfl (by rfl) rfl ?_
    refine J.neqW eqw50 rfl rfl rfl ?_
    refine J.as 43 (.bool false) rfl (by rw [decide_eq_false (fun q => q hbal)]) ?_
    refine J.move rfl rfl ?_
    refine J.yes rfl rfl ?_
    refine J.move rfl rfl ?_
    refine J.yes rfl rfl ?_
    refine J.move rfl rfl ?_
    refine J.yes rfl rfl ?_
    refine J.indexSlI sl25 rfl (hA.isSome (by rw [rowC_length]; simp)) rfl (by omega) (by omega) (by rfl) rfl ?_
    refine J.yes rfl rfl ?_
    refine J.fieldAddrI fld53_5 rfl rfl ?_
    refine J.yes rfl rfl ?_
    refine J.loadI1 (k := .q) trivial hA (off_nil _) rfl one51 (by rfl) rfl ?_
    refine J.yes rfl rfl ?_
    refine J.call0 (k := .q) trivial fok60 rfl rfl (fun w hw => Da.Equal w none c.oA 0 c.oC [] c.oc (Cs.nil _ _) (by rw [ho]; exact Cs.nil _ _) dg_nil (by rw [ho]; exact dg_nil)) ?_
    refine J.as 50 (.bool true) rfl (by rw [decide_eq_true ho.symm]) ?_
    refine J.yes rfl rfl ?_
    refine J.not rfl rfl rfl ?_
    refine J.pick_f rfl rfl rfl ?_
    refine J.end ?_
    refine X.then ?_
    refine T.cond_false rfl ?_
    refine T.skip ?_
    refine X.then ?_
    refine T.seq ?_
    refine T.draw [] [(0, .g), (1, .q), (2, .g), (3, .g), (4, .g), (5, .q), (6, .g), (7, .g), (8, .g), (9, .q), (10, .l)] (by kernel_rfl) (by kernel_rfl) ?_ (by repeat (first | exact Sub.nil _ | refine Sub.cons (by first | rfl | (rw [dgs_zero]; rfl) | (rw [List.drop_length]; rfl) | (simp; done) | (congr 2; omega) | (congr 3; omega)) ?_))
    refine J.fieldAddr fld96_1 rfl rfl ?_
    refine J.load1 (k := .q) trivial 7 rfl rfl one94 rfl rfl ?_
    refine J.move rfl rfl ?_
    refine J.indexSlI sl25 rfl (hA.isSome (by rw [rowC_length]; simp)) rfl (by omega) (by omega) (by rfl) rfl ?_
    refine J.fieldAddrI fld53_4 rfl rfl ?_
    refine J.loadIN (k := .q) trivial hA (off_nil _) rfl agg50 (wc c.new) rfl (by rfl) rfl ?_
    refine J.move rfl rfl ?_
    refine J.indexSlI sl25 rfl (hA.isSome (by rw [rowC_length]; simp)) rfl (by omega) (by omega) (by rfl) rfl ?_
    refine J.fieldAddrI fld53_6 rfl rfl ?_
    refine J.loadI1 (k := .q) trivial hA (off_nil _) rfl one51 (by rfl) rfl ?_
    refine J.callVMut 2 rfl rfl fok86 rfl rfl rfl (fun w hw => Dk.setB w _ ((a.coded zs13 r13).setB a.bal) c.new (.slice c.nA c.nc.length c.nC) (hw.live 2 _ rfl)) ?_
    refine J.end ?_
    refine X.then ?_
    refine T.text [.l, .l, .l] rfl ?_
    refine J.move rfl rfl ?_
    refine J.sliceSl sl25 rfl (optInt.some rfl (by omega) (by rfl)) optInt.none optInt.none (by simp) (by omega) (by omega) (by omega) rfl rfl ?_
    refine J.assign rfl rfl ?_
    refine J.end ?_
    refine X.inBlock ?_
    exact X.round ⟨0, c.new, (if c1 = 1 then A1 else A1.map (·.add (1 * 35))), (c1 - 1)⟩ ⟨Nat.zero_le _, fun q => (by cases q), fun _ => rfl⟩ (by show 0 < 1; omega) (by repeat (first | exact Sub.nil _ | refine Sub.cons (by first | rfl | (rw [dgs_zero]; rfl) | (rw [List.drop_length]; rfl) | (simp; done) | (congr 2; omega) | (congr 3; omega)) ?_)) (by repeat (first | exact Sub.nil _ | refine Sub.cons (by first | rfl | (rw [dgs_zero]; rfl) | (rw [List.drop_length]; rfl) | (simp; done) | (congr 2; omega) | (congr 3; omega)) ?_))
  · obtain rfl : k = 0 := by omega
    obtain rfl := hk0 rfl
    refine J.no rfl rfl rfl rfl ?_
    refine J.no rfl rfl rfl rfl ?_
    refine J.no rfl rfl rfl rfl ?_
    refine J.no rfl rfl rfl rfl ?_
    refine J.no rfl rfl rfl rfl ?_
    refine J.pick_f rfl rfl rfl ?_
    refine J.end ?_
    refine X.then ?_
    refine T.cond_false rfl ?_
    refine T.exit ?_
    refine X.then_exit (X.then_exit (X.inBlock_eq (X.then ?_)))
    refine T.seq ?_
    refine T.text [.l] rfl ?_
    refine J.assign rfl rfl ?_
    refine J.end ?_
    refine X.then ?_
    refine T.seq ?_
    refine T.text [.l, .l, .l, .l, .l, .l, .l, .l, .l, .l] rfl ?_
    refine J.fieldAddr fld56_4 rfl rfl ?_
    refine J.load1 (k := .l) trivial 2 rfl rfl one54 (by first | rfl | with_reducible exact rowN_get0 _ _ _ (by omega) | with_reducible exact rowN_get1 _ _ _ (by omega) | with_reducible exact rowN_get1s _ _ _ _ (by omega) | exact rowN_get1 _ _ _ (by omega) | exact rowN_get1s _ _ _ _ (by omega) | exact rowN_get0 _ _ _ (by omega)) rfl ?_
    refine J.as 69 (.slice a.sA 0 a.sC) rfl (by show Value.slice a.sA a.sl.length a.sC = _; rw [hs0]) ?_
    refine J.move rfl rfl ?_
    refine J.call0 (k := .l) trivial fok73 rfl rfl (fun w hw => Dl.store w _ _ _ _) ?_
    refine J.move rfl rfl ?_
    refine J.extract rfl rfl rfl ?_
    refine J.extract rfl rfl rfl ?_
    refine J.fieldAddr fld56_4 rfl rfl ?_
    refine J.store 2 rfl rfl rfl rfl [.slice none 0 0] rfl sz54 (by first | decide | exact Nat.le_refl _ | exact Nat.le_of_ble_eq_true rfl | (simp [rowN]; done) | (simp [rowN]; omega)) (by intro u hu; rw [List.mem_singleton.1 hu]; rfl) (by first | decide | exact Nat.zero_lt_succ _ | simp) trivial _ rfl ?_
    refine J.assign rfl rfl ?_
    refine J.end ?_
    refine X.asE 2 ⟨some g2, 56, (a.moved c.new r13).cells⟩ rfl (by subst hz0; rfl) ?_
    refine X.then ?_
    refine T.seq ?_
    refine T.text [.l, .l, .l, .l] rfl ?_
    refine J.loadN (k := .l) trivial 2 rfl rfl agg56 (a.moved c.new r13).cells rfl rfl rfl ?_
    refine J.move rfl rfl ?_
    refine J.store 4 rfl rfl rfl rfl (a.moved c.new r13).cells rfl sz56 (Nat.le_of_ble_eq_true rfl) (by first | exact Ac.cells_one _ | exact Ch.cells_one _) (Nat.zero_lt_succ _) trivial (a.moved c.new r13).cells rfl ?_
    refine J.assign rfl rfl ?_
    refine J.end ?_
    refine X.then ?_
    refine T.ret ?_
    exact X.ret2 rfl (RV.agg 4 rfl rfl agg56 (a.moved c.new r13).cells (by rfl) (by rfl) rfl) (RV.tmp rfl) (fun w' hw' => ⟨r13, trivial, rfl, hw'.sub (Sub.nil _)⟩)
end Go.Proofs.YtlllcafedekojaaGreatDoor.Dn
set_option linter.unusedVariables false
set_option maxRecDepth 20000
namespace Go.Proofs.YtlllcafedekojaaGreatDoor.Do
open Go Go.Fw

theorem sz287 : SizeT Tryz.prog 287 32 := (by unfold SizeT; kernel_rfl)
theorem fok85 : FnOk Tryz.prog 85 := FnOk.mk' Tryz.func85 (by kernel_rfl) rfl
theorem fok86 : FnOk Tryz.prog 86 := FnOk.mk' Tryz.func86 (by kernel_rfl) rfl
theorem fok35 : FnOk Tryz.prog 35 := FnOk.mk' Tryz.func35 (by kernel_rfl) rfl
theorem sz56 : SizeT Tryz.prog 56 27 := (by unfold SizeT; kernel_rfl)
theorem sl22 : SlT Tryz.prog 22 56 27 := ⟨Tryz.underlying22, sz56⟩
theorem sz47 : SizeT Tryz.prog 47 20 := (by unfold SizeT; kernel_rfl)
theorem fld56_0 : FldT Tryz.prog 56 0 47 0 19 := ⟨by kernel_rfl, sz47⟩
theorem sz5 : SizeT Tryz.prog 5 1 := (by unfold SizeT; kernel_rfl)
theorem arr47 : ArrT Tryz.prog 47 20 5 1 := ⟨Tryz.underlying47, sz5⟩
theorem fok40 : FnOk Tryz.prog 40 := FnOk.mk' Tryz.func40 (by kernel_rfl) rfl
theorem zero56 : ZeroT Tryz.prog 56 (.agg ([.int .u8 0, .int .u8 0, .int .u8 0, .int .u8 0, .int .u8 0, .int .u8 0, .int .u8 0, .int .u8 0, .int .u8 0, .int .u8 0, .int .u8 0, .int .u8 0, .int .u8 0, .int .u8 0, .int .u8 0, .int .u8 0, .int .u8 0, .int .u8 0, .int .u8 0, .int .u8 0, .int .u64 0, .int .u64 0, .int .u64 0, .int .u64 0, .int .u64 0, .slice none 0 0, .slice none 0 0]).toArray) := (by unfold ZeroT; kernel_rfl)
theorem agg56 : AggT Tryz.prog 56 27 := ⟨⟨_, Tryz.underlying56, rfl⟩, by kernel_rfl⟩
theorem agg47 : AggT Tryz.prog 47 20 := ⟨⟨_, Tryz.underlying47, rfl⟩, by kernel_rfl⟩
theorem fok41 : FnOk Tryz.prog 41 := FnOk.mk' Tryz.func41 (by kernel_rfl) rfl

set_option maxHeartbeats 4000000 in
theorem Of (w : World) (n : Nat) (B : List (Option Nat)) (a b : Ac) (gA gB cA cB : Nat) (hn : n ≤ w.heap.size) (hB : ∀ g, some g ∈ B → g < w.heap.size) (hA : Cs w (some ⟨gA, 0, none⟩) (rowA [a])) (hD : Cs w (some ⟨gB, 0, none⟩) (rowA [b])) (hcA : 1 ≤ cA) (hcB : 1 ≤ cB) (ha : a.Ok w n B) (hb : b.Ok w n B) (hca : a.code.length = 0) (hcb : b.code.length = 0) (hsa : a.sl.length = 0) (hsb : b.sl.length = 0) (hla : lookZ a = 0) (hlb : lookZ b = 0) (hwho : a.who = b.who) :
    Calls Tryz.prog 17 [.slice (some ⟨gA, 0, none⟩) 1 cA, .slice (some ⟨gB, 0, none⟩) 1 cB].toArray w fun e w' => ∃ q : List Ch × RowIx, (q.1.map Ch.v = bt a b 4 ∧ q.2.Ok 35 q.1.length ∧ Fit w' n B (hdOf q.2.id) (rowC q.1) ∧ AllC w' n B q.1) ∧ e = .returned (.tuple #[q.2.val q.1.length, .int .i64 0]) ∧ WS w [] [] w' := by
  refine calls_of_T [] 80 [] Tryz.func17 rfl Tryz.ntmps17 (by simp) (WS.refl _ _) ?_
  refine T.seq ?_
  refine T.text [.l, .l] rfl ?_
  refine J.assign rfl rfl ?_
  refine J.assign rfl rfl ?_
  refine J.end ?_
  refine X.then ?_
  refine T.seq ?_
  refine T.seq ?_
  refine T.text [.l, .l, .l, .l, .l, .l, .l] rfl ?_
  refine J.move rfl rfl ?_
  refine J.call0 (k := .l) trivial fok35 rfl rfl (fun w hw => Dj.Check w _ _ a (hA.ws hw (off_nil _)) hca hla) ?_
  refine J.move rfl rfl ?_
  refine J.extract rfl rfl rfl ?_
  refine J.extract rfl rfl rfl ?_
  refine J.assign rfl rfl ?_
  refine J.assign rfl rfl ?_
  refine J.end ?_
  refine X.then ?_
  refine T.seq ?_
  refine T.text [.l, .l] rfl ?_
  refine J.move rfl rfl ?_
  refine J.neq rfl rfl rfl (decide_eq_false (by first | omega | rfl | assumption | (simp only [*]; done))) ?_
  refine J.end ?_
  refine X.then ?_
  refine T.cond_false rfl ?_
  refine T.skip ?_
  refine X.then ?_
  refine T.seq ?_
  refine T.seq ?_
  refine T.text [.l, .l, .l, .l, .l, .l, .l] rfl ?_
  refine J.move rfl rfl ?_
  refine J.call0 (k := .l) trivial fok35 rfl rfl (fun w hw => Dj.Check w _ _ b (hD.ws hw (off_nil _)) hcb hlb) ?_
  refine J.move rfl rfl ?_
  refine J.extract rfl rfl rfl ?_
  refine J.extract rfl rfl rfl ?_
  refine J.assign rfl rfl ?_
  refine J.assign rfl rfl ?_
  refine J.end ?_
  refine X.then ?_
  refine T.seq ?_
  refine T.text [.l, .l] rfl ?_
  refine J.move rfl rfl ?_
  refine J.neq rfl rfl rfl (decide_eq_false (by first | omega | rfl | assumption | (simp only [*]; done))) ?_
  refine J.end ?_
  refine X.then ?_
  refine T.cond_false rfl ?_
  refine T.skip ?_
  refine X.then ?_
  refine T.seq ?_
  refine T.text [.l] rfl ?_
  refine J.assign rfl rfl ?_
  refine J.end ?_
  refine X.then ?_
  refine T.seq ?_
  refine T.block ?_
  refine T.snap [] (by repeat (first | exact Sub.nil _ | refine Sub.cons (by first | rfl | (rw [dgs_zero]; rfl) | (rw [List.drop_length]; rfl) | (simp; done) | (congr 2; omega) | (congr 3; omega)) ?_ | exact Sub.refl _ | refine sub_snap ?_ rfl)) rfl (fun Wl1 hWWl1 => ?_)
  have kpWl1 := (keep_base (B0 := B) (l1 := []) hn (fun g hg => by cases hg) hWWl1 (Sub.nil _) rfl)
  have ha := ha.keep kpWl1
  have hb := hb.keep kpWl1
  have hVWl1 := hWWl1.sub (Sub.nil _)
  refine T.loop (ι := World × Nat × Option Addr × Nat × Option Addr × Nat × Value) (fun ((W, k, A, cc, E, ee, v) : World × Nat × Option Addr × Nat × Option Addr × Nat × Value) => k ≤ 1 ∧ (k = 1 → some ⟨gA, 0, none⟩ = A ∧ cA = cc ∧ some ⟨gB, 0, none⟩ = E ∧ cB = ee ∧ Value.slice none 0 0 = v) ∧ (k = 0 → ∃ q : List Ch × RowIx, (q.1.map Ch.v = bt a b 4 ∧ q.2.Ok 35 q.1.length ∧ Fit W n (B ++ []) (hdOf q.2.id) (rowC q.1) ∧ AllC W n (B ++ []) q.1) ∧ v = q.2.val q.1.length) ∧ WS w [] [] W ∧ a.Ok W n (B ++ []) ∧ b.Ok W n (B ++ [])) (fun ((W, k, A, cc, E, ee, v) : World × Nat × Option Addr × Nat × Option Addr × Nat × Value) => [(4, .slice none 0 0), (5, .int .i64 0), (0, .slice A k cc), (1, .slice E k ee), (10, v)]) (fun ((W, k, A, cc, E, ee, v) : World × Nat × Option Addr × Nat × Option Addr × Nat × Value) => (snapL W w.heap.size [])) (fun ((W, k, A, cc, E, ee, v) : World × Nat × Option Addr × Nat × Option Addr × Nat × Value) => k) ⟨Wl1, 1, some ⟨gA, 0, none⟩, cA, some ⟨gB, 0, none⟩, cB, .slice none 0 0⟩ ⟨Nat.le_refl _, fun _ => ⟨rfl, rfl, rfl, rfl, rfl⟩, fun q => (by cases q), hVWl1, ha, hb⟩ (by repeat (first | exact Sub.nil _ | refine Sub.cons (by first | rfl | (rw [dgs_zero]; rfl) | (rw [List.drop_length]; rfl) | (simp; done) | (congr 2; omega) | (congr 3; omega)) ?_ | exact Sub.refl _ | refine sub_snap ?_ rfl)) (by repeat (first | exact Sub.nil _ | refine Sub.cons (by first | rfl | (rw [dgs_zero]; rfl) | (rw [List.drop_length]; rfl) | (simp; done) | (congr 2; omega) | (congr 3; omega)) ?_ | exact Sub.refl _ | refine sub_snap ?_ rfl)) ?_
  rintro ⟨W, k, A, cc, E, ee, v⟩ ⟨hk, hk1, hk0, hV, ha, hb⟩
  try dsimp only at *
  refine T.seq ?_
  refine T.seq ?_
  refine T.text [.l, .l, .l, .l, .l, .l, .l, .l] rfl ?_
  refine J.move rfl rfl ?_
  refine J.lenSl Tryz.underlying22 rfl rfl ?_
  refine J.gtr rfl rfl rfl rfl ?_
  refine J.move rfl rfl ?_
  refine J.split 33 rfl (fun h2 => ?_) (fun h2 => ?_)
  · obtain rfl : k = 1 := by omega
    obtain ⟨rfl, rfl, rfl, rfl, rfl⟩ := hk1 rfl
    refine J.no rfl rfl rfl rfl ?_
    refine J.no rfl rfl rfl rfl ?_
    refine J.no rfl rfl rfl rfl ?_
    refine J.pick_t rfl rfl rfl ?_
    refine J.end ?_
    refine X.then ?_
    refine T.cond_true rfl ?_
    refine T.skip ?_
    refine X.then ?_
    refine T.block ?_
    refine T.seq ?_
    refine T.text [.l] rfl ?_
    refine J.assign rfl rfl ?_
    refine J.end ?_
    refine X.then ?_
    refine T.seq ?_
    refine T.block ?_
    refine T.seq ?_
    refine T.text [.l, .l, .l, .l] rfl ?_
    refine J.move rfl rfl ?_
    refine J.lenSl Tryz.underlying22 rfl rfl ?_
    refine J.eql rfl rfl rfl (decide_eq_false (by first | omega | rfl | assumption | (simp only [*]; done))) ?_
    refine J.assign rfl rfl ?_
    refine J.end ?_
    refine X.then ?_
    refine T.cond_false rfl ?_
    refine T.seq ?_
    refine T.text [.l, .l, .l, .l] rfl ?_
    refine J.move rfl rfl ?_
    refine J.lenSl Tryz.underlying22 rfl rfl ?_
    refine J.eql rfl rfl rfl (decide_eq_false (by first | omega | rfl | assumption | (simp only [*]; done))) ?_
    refine J.assign rfl rfl ?_
    refine J.end ?_
    refine X.then ?_
    refine T.cond_false rfl ?_
    refine T.draw [] [(0, .g), (1, .g), (2, .g), (3, .g), (4, .g), (5, .g), (6, .g), (7, .g), (8, .q), (9, .g)] (by kernel_rfl) (by kernel_rfl) ?_ (by repeat (first | exact Sub.nil _ | refine Sub.cons (by first | rfl | (rw [dgs_zero]; rfl) | (rw [List.drop_length]; rfl) | (simp; done) | (congr 2; omega) | (congr 3; omega)) ?_ | exact Sub.refl _ | refine sub_snap ?_ rfl))
    refine J.move rfl rfl ?_
    refine J.indexSlI sl22 rfl (hA.isSome (by rw [rowA_length]; simp)) rfl (by omega) (by omega) (by rfl) rfl ?_
    refine J.fieldAddrI fld56_0 rfl rfl ?_
    refine J.as 40 (.pointer (some ⟨gA, 0, none⟩)) rfl (by rfl) ?_
    refine J.sliceArr arr47 rfl optInt.none optInt.none optInt.none (by simp) (by omega) (by omega) (by omega) rfl rfl ?_
    refine J.move rfl rfl ?_
    refine J.indexSlI sl22 rfl (hD.isSome (by rw [rowA_length]; simp)) rfl (by omega) (by omega) (by rfl) rfl ?_
    refine J.fieldAddrI fld56_0 rfl rfl ?_
    refine J.as 44 (.pointer (some ⟨gB, 0, none⟩)) rfl (by rfl) ?_
    refine J.sliceArr arr47 rfl optInt.none optInt.none optInt.none (by simp) (by omega) (by omega) (by omega) rfl rfl ?_
    refine J.call0 (k := .q) trivial fok40 rfl rfl (fun w hw => Da.Compare w _ _ _ _ (adL a.who) (adL b.who) (row_acA (hA.ws hw (off_nil _))) (row_acA (hD.ws hw (off_nil _))) (adL_dg _) (adL_dg _)) ?_
    refine J.as 46 (.int .i64 0) rfl (by rw [cmp_ad, cmpZ_eq (by rw [hwho])]) ?_
    refine J.assign rfl rfl ?_
    refine J.end ?_
    refine X.inBlock (X.then ?_)
    refine T.seq ?_
    refine T.text [.l, .l] rfl ?_
    refine J.alloc 12 rfl zero56 [.int .u8 0, .int .u8 0, .int .u8 0, .int .u8 0, .int .u8 0, .int .u8 0, .int .u8 0, .int .u8 0, .int .u8 0, .int .u8 0, .int .u8 0, .int .u8 0, .int .u8 0, .int .u8 0, .int .u8 0, .int .u8 0, .int .u8 0, .int .u8 0, .int .u8 0, .int .u8 0, .int .u64 0, .int .u64 0, .int .u64 0, .int .u64 0, .int .u64 0, .slice none 0 0, .slice none 0 0] rfl rfl (fun g12 hg12 => ?_)
    refine J.alloc 13 rfl zero56 [.int .u8 0, .int .u8 0, .int .u8 0, .int .u8 0, .int .u8 0, .int .u8 0, .int .u8 0, .int .u8 0, .int .u8 0, .int .u8 0, .int .u8 0, .int .u8 0, .int .u8 0, .int .u8 0, .int .u8 0, .int .u8 0, .int .u8 0, .int .u8 0, .int .u8 0, .int .u8 0, .int .u64 0, .int .u64 0, .int .u64 0, .int .u64 0, .int .u64 0, .slice none 0 0, .slice none 0 0] rfl rfl (fun g13 hg13 => ?_)
    refine J.end ?_
    refine X.then ?_
    refine T.seq ?_
    refine T.seq ?_
    refine T.text [.l, .l] rfl ?_
    refine J.move rfl rfl ?_
    refine J.leq rfl rfl rfl (decide_eq_true (by first | omega | rfl | assumption | (simp only [*]; done))) ?_
    refine J.end ?_
    refine X.then ?_
    refine T.cond_true rfl ?_
    refine T.seq ?_
    refine T.draw [] [(0, .g), (1, .g), (2, .q), (3, .g), (4, .g), (5, .l), (6, .g)] (by kernel_rfl) (by kernel_rfl) ?_ (by repeat (first | exact Sub.nil _ | refine Sub.cons (by first | rfl | (rw [dgs_zero]; rfl) | (rw [List.drop_length]; rfl) | (simp; done) | (congr 2; omega) | (congr 3; omega)) ?_ | exact Sub.refl _ | refine sub_snap ?_ rfl))
    refine J.move rfl rfl ?_
    refine J.indexSlI sl22 rfl (hA.isSome (by rw [rowA_length]; simp)) rfl (by omega) (by omega) (by rfl) rfl ?_
    refine J.loadIN (k := .q) trivial hA (off_nil _) rfl agg56 (a.cells) rfl (by rfl) rfl ?_
    refine J.move rfl rfl ?_
    refine J.sliceSl sl22 rfl (optInt.some rfl (by omega) (by rfl)) optInt.none optInt.none (by simp) (by omega) (by omega) (by omega) rfl rfl ?_
    refine J.store 12 rfl rfl rfl rfl (a.cells) rfl sz56 (Nat.le_of_ble_eq_true rfl) (by first | exact Ac.cells_one _ | exact Ch.cells_one _) (Nat.zero_lt_succ _) trivial (a.cells) rfl ?_
    refine J.assign rfl rfl ?_
    refine J.end ?_
    refine X.then ?_
    refine T.text [.l, .l, .l, .l] rfl ?_
    refine J.fieldAddr fld56_0 rfl rfl ?_
    refine J.loadN (k := .l) trivial 12 rfl rfl agg47 (ac a.who) rfl rfl rfl ?_
    refine J.fieldAddr fld56_0 rfl rfl ?_
    refine J.store 13 rfl rfl rfl rfl (ac a.who) rfl sz47 (by first | decide | exact Nat.le_refl _ | exact Nat.le_of_ble_eq_true rfl | (simp [rowN]; done) | (simp [rowN]; omega)) (by first | exact rowN_one _ _ | (simp; done) | (intro u hu; simp at hu; subst hu; rfl) | (intro u hu; simp at hu; rcases hu with rfl | rfl <;> rfl)) (by first | decide | exact Nat.zero_lt_succ _ | simp) trivial (ac a.who ++ [.int .u64 0, .int .u64 0, .int .u64 0, .int .u64 0, .int .u64 0, .slice none 0 0, .slice none 0 0]) rfl ?_
    refine J.end ?_
    refine X.then ?_
    refine T.seq ?_
    refine T.seq ?_
    refine T.text [.l, .l] rfl ?_
    refine J.move rfl rfl ?_
    refine J.geq rfl rfl rfl (decide_eq_true (by first | omega | rfl | assumption | (simp only [*]; done))) ?_
    refine J.end ?_
    refine X.then ?_
    refine T.cond_true rfl ?_
    refine T.seq ?_
    refine T.draw [] [(0, .g), (1, .g), (2, .q), (3, .g), (4, .g), (5, .l), (6, .g)] (by kernel_rfl) (by kernel_rfl) ?_ (by repeat (first | exact Sub.nil _ | refine Sub.cons (by first | rfl | (rw [dgs_zero]; rfl) | (rw [List.drop_length]; rfl) | (simp; done) | (congr 2; omega) | (congr 3; omega)) ?_ | exact Sub.refl _ | refine sub_snap ?_ rfl))
    refine J.move rfl rfl ?_
    refine J.indexSlI sl22 rfl (hD.isSome (by rw [rowA_length]; simp)) rfl (by omega) (by omega) (by rfl) rfl ?_
    refine J.loadIN (k := .q) trivial hD (off_nil _) rfl agg56 (b.cells) rfl (by rfl) rfl ?_
    refine J.move rfl rfl ?_
    refine J.sliceSl sl22 rfl (optInt.some rfl (by omega) (by rfl)) optInt.none optInt.none (by simp) (by omega) (by omega) (by omega) rfl rfl ?_
    refine J.store 13 rfl rfl rfl rfl (b.cells) rfl sz56 (Nat.le_of_ble_eq_true rfl) (by first | exact Ac.cells_one _ | exact Ch.cells_one _) (Nat.zero_lt_succ _) trivial (b.cells) rfl ?_
    refine J.assign rfl rfl ?_
    refine J.end ?_
    refine X.then ?_
    refine T.text [.l, .l, .l, .l] rfl ?_
    refine J.fieldAddr fld56_0 rfl rfl ?_
    refine J.loadN (k := .l) trivial 13 rfl rfl agg47 (ac b.who) rfl rfl rfl ?_
    refine J.fieldAddr fld56_0 rfl rfl ?_
    refine J.store 12 rfl rfl rfl rfl (ac b.who) rfl sz47 (by first | decide | exact Nat.le_refl _ | exact Nat.le_of_ble_eq_true rfl | (simp [rowN]; done) | (simp [rowN]; omega)) (by first | exact rowN_one _ _ | (simp; done) | (intro u hu; simp at hu; subst hu; rfl) | (intro u hu; simp at hu; rcases hu with rfl | rfl <;> rfl)) (by first | decide | exact Nat.zero_lt_succ _ | simp) trivial ((Ac.mk b.who a.nonce a.bal a.code a.sl a.cA a.cC a.sA a.sC).cells) rfl ?_
    refine J.end ?_
    refine X.asE 12 ⟨some g12, 56, a.cells⟩ rfl (by first | (rw [← hwho]; done) | (rw [← hwho]; rfl)) ?_
    refine X.then ?_
    refine T.text [.l, .l, .l, .l, .l] rfl ?_
    refine J.move rfl rfl ?_
    refine J.loadN (k := .l) trivial 12 rfl rfl agg56 (a.cells) rfl rfl rfl ?_
    refine J.loadN (k := .l) trivial 13 rfl rfl agg56 (b.cells) rfl rfl rfl ?_
    refine J.callB fok41 rfl rfl _ _ [(12, ⟨some g12, 56, a.cells⟩), (13, ⟨some g13, 56, (b.cells)⟩)] (by repeat (first | exact Sub.nil _ | refine Sub.cons (by first | rfl | (rw [dgs_zero]; rfl) | (rw [List.drop_length]; rfl) | (simp; done) | (congr 2; omega) | (congr 3; omega)) ?_ | exact Sub.refl _ | refine sub_snap ?_ rfl)) rfl (fun _ _ => Sub.nil _) (fun w hw => Dm.between w n (B ++ ids [(12, ⟨some g12, 56, a.cells⟩), (13, ⟨some g13, 56, (b.cells)⟩)]) a b (Nat.le_trans hn hw.size) (busy_lt (l1 := [(12, ⟨some g12, 56, a.cells⟩), (13, ⟨some g13, 56, (b.cells)⟩)]) hB hw (by repeat (first | exact Sub.nil _ | refine Sub.cons (by first | rfl | (rw [dgs_zero]; rfl) | (rw [List.drop_length]; rfl) | (simp; done) | (congr 2; omega) | (congr 3; omega)) ?_ | exact Sub.refl _ | refine sub_snap ?_ rfl)) rfl) (ha.keep (keep_snap (I := []) (B0 := B) (l1 := [(12, ⟨some g12, 56, a.cells⟩), (13, ⟨some g13, 56, (b.cells)⟩)]) hV hn (fun g hg => by cases hg) hw (by repeat (first | exact Sub.refl _ | refine sub_snap ?_ rfl)) (by repeat (first | exact Sub.nil _ | refine Sub.cons (by first | rfl | (rw [dgs_zero]; rfl) | (rw [List.drop_length]; rfl) | (simp; done) | (congr 2; omega) | (congr 3; omega)) ?_ | exact Sub.refl _ | refine sub_snap ?_ rfl)) rfl)) (hb.keep (keep_snap (I := []) (B0 := B) (l1 := [(12, ⟨some g12, 56, a.cells⟩), (13, ⟨some g13, 56, (b.cells)⟩)]) hV hn (fun g hg => by cases hg) hw (by repeat (first | exact Sub.refl _ | refine sub_snap ?_ rfl)) (by repeat (first | exact Sub.nil _ | refine Sub.cons (by first | rfl | (rw [dgs_zero]; rfl) | (rw [List.drop_length]; rfl) | (simp; done) | (congr 2; omega) | (congr 3; omega)) ?_ | exact Sub.refl _ | refine sub_snap ?_ rfl)) rfl)) hsa hsb) (fun i78 W78 hP78 hW78 => ?_)
    obtain ⟨hv78, hr78, hf78, hc78⟩ := hP78
    have kpW78 := (keep_snap (I := []) (B0 := B) (l1 := [(12, ⟨some g12, 56, a.cells⟩), (13, ⟨some g13, 56, (b.cells)⟩)]) hV hn (fun g hg => by cases hg) hW78 (by repeat (first | exact Sub.refl _ | refine sub_snap ?_ rfl)) (by repeat (first | exact Sub.nil _ | refine Sub.cons (by first | rfl | (rw [dgs_zero]; rfl) | (rw [List.drop_length]; rfl) | (simp; done) | (congr 2; omega) | (congr 3; omega)) ?_ | exact Sub.refl _ | refine sub_snap ?_ rfl)) rfl)
    have ha := ha.keep kpW78
    have hb := hb.keep kpW78
    have hVW78 := hW78.sub (Sub.nil _)
    refine J.assign rfl rfl ?_
    refine J.end ?_
    refine X.inBlock ?_
    refine X.snap [] (by repeat (first | exact Sub.nil _ | refine Sub.cons (by first | rfl | (rw [dgs_zero]; rfl) | (rw [List.drop_length]; rfl) | (simp; done) | (congr 2; omega) | (congr 3; omega)) ?_ | exact Sub.refl _ | refine sub_snap ?_ rfl)) rfl (fun Wx3 hWWx3 => ?_)
    have kpWx3 := (keep_snap (I := [some g12, some g13]) (B0 := B) (l1 := []) hVW78 hn (fun g hg => by cases hg) hWWx3 (by repeat (first | exact Sub.refl _ | refine sub_snap ?_ rfl)) (Sub.nil _) rfl)
    have ha := ha.keep kpWx3
    have hb := hb.keep kpWx3
    have hf78 := hf78.keep kpWx3
    have hc78 := hc78.keep kpWx3
    have hVWx3 := hWWx3.sub (Sub.nil _)
    exact X.round ⟨Wx3, 0, (if cA = 1 then some ⟨gA, 0, none⟩ else (some ⟨gA, 0, none⟩ : Option Addr).map (·.add (1 * 27))), (cA - 1), (if cB = 1 then some ⟨gB, 0, none⟩ else (some ⟨gB, 0, none⟩ : Option Addr).map (·.add (1 * 27))), (cB - 1), (i78.2.val i78.1.length)⟩ ⟨Nat.zero_le _, fun q => (by cases q), fun _ => ⟨i78, ⟨hv78, hr78, hf78, hc78⟩, rfl⟩, hVWx3, ha, hb⟩ (by show 0 < 1; omega) (by repeat (first | exact Sub.nil _ | refine Sub.cons (by first | rfl | (rw [dgs_zero]; rfl) | (rw [List.drop_length]; rfl) | (simp; done) | (congr 2; omega) | (congr 3; omega)) ?_ | exact Sub.refl _ | refine sub_snap ?_ rfl)) (by repeat (first | exact Sub.nil _ | refine Sub.cons (by first | rfl | (rw [dgs_zero]; rfl) | (rw [List.drop_length]; rfl) | (simp; done) | (congr 2; omega) | (congr 3; omega)) ?_ | exact Sub.refl _ | refine sub_snap ?_ rfl))
  · obtain rfl : k = 0 := by omega
    obtain ⟨q, ⟨hq1, hq2, hq3, hq4⟩, rfl⟩ := hk0 rfl
    refine J.yes rfl rfl ?_
    refine J.move rfl rfl ?_
    refine J.yes rfl rfl ?_
    refine J.lenSl Tryz.underlying22 rfl rfl ?_
    refine J.yes rfl rfl ?_
    refine J.gtr rfl rfl rfl (decide_eq_false (by first | omega | rfl | assumption | (simp only [*]; done))) ?_
    refine J.pick_f rfl rfl rfl ?_
    refine J.end ?_
    refine X.then ?_
    refine T.cond_false rfl ?_
    refine T.exit ?_
    refine X.then_exit (X.then_exit (X.inBlock_eq (X.then ?_)))
    refine T.seq ?_
    refine T.text [.l, .l, .l] rfl ?_
    refine J.move rfl rfl ?_
    refine J.assign rfl rfl ?_
    refine J.assign rfl rfl ?_
    refine J.end ?_
    refine X.then ?_
    refine T.ret ?_
    exact X.ret2 rfl (RV.tmp rfl) (RV.tmp rfl) (fun w' hw' => ⟨q, ⟨hq1, hq2, hq3.keep (((keep_snap (I := []) (B0 := B) (l1 := []) hV hn (fun g hg => by cases hg) hw' (by repeat (first | exact Sub.refl _ | refine sub_snap ?_ rfl)) (Sub.nil _) rfl)).le (fun o h => List.mem_append_left _ h)), hq4.keep (((keep_snap (I := []) (B0 := B) (l1 := []) hV hn (fun g hg => by cases hg) hw' (by repeat (first | exact Sub.refl _ | refine sub_snap ?_ rfl)) (Sub.nil _) rfl)).le (fun o h => List.mem_append_left _ h))⟩, rfl, hw'.sub (Sub.nil _)⟩)
end Go.Proofs.YtlllcafedekojaaGreatDoor.Do
