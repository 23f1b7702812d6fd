/-
  Walks, printed by gen.py: what each function hands back, said of numbers.
  Conditions: those that each theorem bears.
-/
import Derived.Test.YtpkjbeebhdgleaaChecked
import Derived.Test.YtpkjbeebhdgleaaHa
import Derived.Test.YtpkjbeebhdgleaaFil
import Derived.Test.YtpkjbeebhdgleaaAw
import Derived.Test.YtpkjbeebhdgleaaPg
import Derived.Test.YtpkjbeebhdgleaaOx
import Derived.Test.YtpkjbeebhdgleaaFr
set_option linter.unusedVariables false
set_option maxRecDepth 20000
namespace Go.Proofs.Ytpkjbeebhdgleaa.Lm
open Go Go.Fw

theorem sz67 : SizeT Try.prog 67 32 := (by unfold SizeT; kernel_rfl)
theorem fok26 : FnOk Try.prog 26 := FnOk.mk' Try.func26 (by kernel_rfl) rfl
theorem fok40 : FnOk Try.prog 40 := FnOk.mk' Try.func40 (by kernel_rfl) rfl
theorem fok14 : FnOk Try.prog 14 := FnOk.mk' Try.func14 (by kernel_rfl) rfl
theorem el5 : ElT Try.prog 5 1 1 (.int .u8 0) := ⟨by kernel_rfl, rfl, by decide, by decide⟩
theorem fok41 : FnOk Try.prog 41 := FnOk.mk' Try.func41 (by kernel_rfl) rfl
theorem fok45 : FnOk Try.prog 45 := FnOk.mk' Try.func45 (by kernel_rfl) rfl
theorem fok46 : FnOk Try.prog 46 := FnOk.mk' Try.func46 (by kernel_rfl) rfl
theorem fok15 : FnOk Try.prog 15 := FnOk.mk' Try.func15 (by kernel_rfl) rfl
theorem fok23 : FnOk Try.prog 23 := FnOk.mk' Try.func23 (by kernel_rfl) rfl
theorem el32 : ElT Try.prog 32 1 24 (.slice none 0 0) := ⟨by kernel_rfl, rfl, by decide, by decide⟩
theorem el22 : ElT Try.prog 22 1 24 (.slice none 0 0) := ⟨by kernel_rfl, rfl, by decide, by decide⟩
theorem sz32 : SizeT Try.prog 32 1 := (by unfold SizeT; kernel_rfl)
theorem sl83 : SlT Try.prog 83 32 1 := ⟨Try.underlying83, sz32⟩
theorem one32 : OneT Try.prog 32 := ⟨⟨_, Try.underlying32, rfl⟩, by kernel_rfl⟩
theorem fok22 : FnOk Try.prog 22 := FnOk.mk' Try.func22 (by kernel_rfl) rfl
theorem sz25 : SizeT Try.prog 25 4 := (by unfold SizeT; kernel_rfl)
theorem sl32 : SlT Try.prog 32 25 4 := ⟨Try.underlying32, sz25⟩
theorem sz22 : SizeT Try.prog 22 1 := (by unfold SizeT; kernel_rfl)
theorem sl84 : SlT Try.prog 84 22 1 := ⟨Try.underlying84, sz22⟩
theorem one22 : OneT Try.prog 22 := ⟨⟨_, Try.underlying22, rfl⟩, by kernel_rfl⟩
theorem sz5 : SizeT Try.prog 5 1 := (by unfold SizeT; kernel_rfl)
theorem sl22 : SlT Try.prog 22 5 1 := ⟨Try.underlying22, sz5⟩
theorem el25 : ElT Try.prog 25 4 32 (.agg ([.int .u64 0, .int .u64 0, .int .u64 0, .int .u64 0]).toArray) := ⟨by kernel_rfl, rfl, by decide, by decide⟩
theorem agg25 : AggT Try.prog 25 4 := ⟨⟨_, Try.underlying25, rfl⟩, by kernel_rfl⟩
theorem sz23 : SizeT Try.prog 23 1 := (by unfold SizeT; kernel_rfl)
theorem arr25 : ArrT Try.prog 25 4 23 1 := ⟨Try.underlying25, sz23⟩
theorem one23 : OneT Try.prog 23 := ⟨⟨_, Try.underlying23, rfl⟩, by kernel_rfl⟩
theorem eqw25 : EqT Try.prog 25 := ⟨⟨23, arr25, one23, Try.underlying23⟩, by kernel_rfl⟩
theorem one5 : OneT Try.prog 5 := ⟨⟨_, Try.underlying5, rfl⟩, by kernel_rfl⟩
theorem fok25 : FnOk Try.prog 25 := FnOk.mk' Try.func25 (by kernel_rfl) rfl
theorem fok39 : FnOk Try.prog 39 := FnOk.mk' Try.func39 (by kernel_rfl) rfl

set_option maxRecDepth 100000 in
set_option maxHeartbeats 200000000 in
theorem MachOwn (w : World) (A0 : Option Addr) (c0 : Nat) (xs0 : List Nat) (hc0 : Cs w A0 (rowW xs0)) (hb0 : xs0.length ≤ 9223372036854775807) (A1 : Option Addr) (c1 : Nat) (xs1 : List Nat) (hc1 : Cs w A1 (rowN .u8 xs1)) (hx1 : Dg xs1) (hb1 : xs1.length ≤ 9223372036854775807) (n : Int) (hn : -9223372036854775808 ≤ n ∧ n ≤ 9223372036854775807) :
    Calls Try.prog 13 [.slice A0 xs0.length c0, .slice A1 xs1.length c1, .int .i64 n].toArray w fun e w' => e = .returned (.bool true) ∧ WS w [] [] w' := by
  obtain ⟨bs, hbs⟩ : ∃ bs, bs = xs1.take 70000 := ⟨_, rfl⟩
  have hlb : bs.length ≤ 70000 := by rw [hbs, List.length_take]; omega
  have hdb : Dg bs := by rw [hbs]; exact hx1.take _
  refine calls_of_T [] 367 [] Try.func13 rfl Try.ntmps13 (by simp) (WS.refl _ _) ?_
  refine T.seq ?_
  refine T.text [.l] rfl ?_
  refine J.assign rfl rfl ?_
  refine J.end ?_
  refine X.then ?_
  refine T.seq ?_
  refine T.text [.l, .l, .l, .l, .l, .l, .l] rfl ?_
  refine J.move rfl rfl ?_
  refine J.callFilled 100 101 (by decide) rfl rfl fok26 rfl rfl (fun w hw => Fil.filled w _ _ _ (hc0.ws hw (off_nil _)) (by first | assumption | omega)) (fun g S zs r hf => ?_)
  obtain ⟨hz3, hzk, hS, hq, hr0⟩ := hf
  have hwz := words_full hzk hq
  refine J.move rfl rfl ?_
  refine J.extract rfl rfl rfl ?_
  refine J.extract rfl rfl rfl ?_
  refine J.assign rfl rfl ?_
  refine J.assign rfl rfl ?_
  refine J.end ?_
  refine X.then ?_
  refine T.seq ?_
  refine T.text [.l, .l] rfl ?_
  refine J.callNew 43 rfl (t := 99) (cs := [.slice none 0 0]) fok40 rfl rfl (fun w hw => Me.NewMemory w) (fun g43 hg43 => ?_)
  refine J.assign rfl rfl ?_
  refine J.end ?_
  refine X.addNil 44 5 ?_
  refine X.then ?_
  refine T.seq ?_
  refine T.seq ?_
  refine T.text [.l, .l, .l, .l, .l, .l] rfl ?_
  refine J.move rfl rfl ?_
  refine J.eqNil (by kernel_rfl) rfl rfl rfl rfl ?_
  refine J.move rfl rfl ?_
  refine J.yes rfl rfl ?_
  refine J.move rfl rfl ?_
  refine J.yes rfl rfl ?_
  refine J.eqNil (by kernel_rfl) rfl rfl rfl rfl ?_
  refine J.pick_f rfl rfl rfl ?_
  refine J.end ?_
  refine X.then ?_
  refine T.cond_false rfl ?_
  refine T.skip ?_
  refine X.then ?_
  refine T.seq ?_
  refine T.text [.l, .l, .l, .l, .l] rfl ?_
  refine J.buildSlice 50 rfl (e := 5) rfl rfl [] (fun w => by kernel_rfl) (fun g50 hg50 => ?_)
  refine J.move rfl rfl ?_
  refine J.callLaid 52 rfl (t := 5) fok14 rfl rfl (fun w hw => (hbs ▸ Ma.laid w _ _ _ (hc1.ws hw (off_nil _)) (by first | assumption | omega) : Calls _ _ _ w (LaidPost w 5 bs))) (fun r52 hr52 => ?_)
  refine J.append (i := ⟨some g50, 0, []⟩) (cs := []) 50 rfl Try.underlying22 el5 rfl (RowIx.blk_ok' g50 0 1 (Nat.zero_le _)) rfl rfl rfl (by rw [rowN_length, Nat.mul_one]) (fun w hw => (hw.laidCs (k := 52) rfl)) (rowN_one _ _) (by omega) (by unfold maxLen; omega) rfl bs.length (Nat.zero_add _) (rowN .u8 bs) (List.nil_append _) (fun r53 hr53 => ?_)
  have hcap53 := hr53.le
  have hown := own_mem bs hlb
  refine J.assign rfl rfl ?_
  refine J.end ?_
  refine X.then ?_
  refine T.seq ?_
  refine T.text [.l, .l, .l, .l] rfl ?_
  refine J.move rfl rfl ?_
  refine J.move rfl rfl ?_
  refine J.lenSl Try.underlying22 rfl rfl ?_
  refine J.callMem 43 44 (by decide) (g := g43) (i := RowIx.nil) (bs := []) (bs' := growB [] ((bs.length : Nat) : Int)) rfl rfl rfl rfl fok41 rfl rfl (fun w hw => Me.Grow w g43 RowIx.nil [] MOk.nil (hw.memAt 43 44 rfl rfl (by decide)) _ (by omega)) (fun i57 hm57 => ?_)
  refine J.end ?_
  refine X.then ?_
  refine T.seq ?_
  refine T.text [.l, .l, .l] rfl ?_
  refine J.move rfl rfl ?_
  refine J.move rfl rfl ?_
  refine J.callMem 43 44 (by decide) (g := g43) (i := i57) (bs := (growB [] ((bs.length : Nat) : Int))) (bs' := writeB (growB [] ((bs.length : Nat) : Int)) 0 bs) rfl rfl rfl rfl fok45 rfl rfl (fun w hw => Me.Write w g43 i57 (growB [] ((bs.length : Nat) : Int)) hm57 (hw.memAt 43 44 rfl rfl (by decide)) _ (by omega) _ _ _ (hw.rowCs (k := 50) rfl) (fun _ => hw.offMem 43 44 rfl rfl 50 rfl (by decide) (by decide)) (by first | assumption | omega) (by first | assumption | omega)) (fun i60 hm60 => ?_)
  obtain ⟨mm, hmm⟩ : ∃ mm, mm = writeB (growB [] ((bs.length : Nat) : Int)) 0 bs := ⟨_, rfl⟩
  rw [← hmm] at hm60 ⊢
  refine J.end ?_
  refine X.then ?_
  refine T.seq ?_
  refine T.text [.l, .l, .l] rfl ?_
  refine J.move rfl rfl ?_
  refine J.band rfl rfl rfl (and255 _) ?_
  obtain ⟨m, hm⟩ : ∃ m : Nat, n % 256 = (m : Int) := ⟨(n % 256).toNat, by omega⟩
  have hm2 : m < 256 := by omega
  refine J.as 62 (.int .i64 ((m : Nat) : Int)) rfl (by rw [hm]) ?_
  obtain ⟨rb, hrb⟩ : ∃ rb, rb = rowR bs 1 ((m : Nat) : Int) := ⟨_, rfl⟩
  have hlr : rb.length = m := by rw [hrb]; unfold rowR; rw [if_neg (by omega)]; exact rowB_length _ _ _
  refine J.assign rfl rfl ?_
  refine J.end ?_
  refine X.then ?_
  refine T.seq ?_
  refine T.text [.l] rfl ?_
  refine J.assign rfl rfl ?_
  refine J.end ?_
  refine X.then ?_
  refine T.seq ?_
  refine T.text [.l] rfl ?_
  refine J.assign rfl rfl ?_
  refine J.end ?_
  refine X.then ?_
  refine T.seq ?_
  refine T.seq ?_
  refine T.addNil 10 32 ?_
  refine T.addNil 11 22 ?_
  refine T.text [.l] rfl ?_
  refine J.assign rfl rfl ?_
  refine J.end ?_
  refine X.then ?_
  refine T.block ?_
  refine T.addNil 400 25 ?_
  refine T.addNil 401 25 ?_
  refine T.addNil 402 25 ?_
  refine T.addNil 403 25 ?_
  refine T.addNil 410 5 ?_
  refine T.addNil 411 5 ?_
  refine T.addNil 412 5 ?_
  refine T.addNil 413 5 ?_
  refine T.addNil 414 5 ?_
  refine T.addNil 415 5 ?_
  refine T.loop (ι := Nat × Option Nat × Option Nat × Option Nat × Option Nat × Option Nat × Option Nat × Option Nat × Option Nat × Option Nat × Option Nat × RowIx × RowIx) (fun ((i, p0, p1, p2, p3, q0, q1, q2, q3, q4, q5, W9, B9) : Nat × Option Nat × Option Nat × Option Nat × Option Nat × Option Nat × Option Nat × Option Nat × Option Nat × Option Nat × Option Nat × RowIx × RowIx) => i ≤ 2 ∧ W9.Ok 1 (2 * i) ∧ B9.Ok 1 (3 * i) ∧ (0 < i → ∃ a b c d e, p0 = some a ∧ p1 = some b ∧ q0 = some c ∧ q1 = some d ∧ q2 = some e) ∧ (1 < i → ∃ a b c d e, p2 = some a ∧ p3 = some b ∧ q3 = some c ∧ q4 = some d ∧ q5 = some e)) (fun ((i, p0, p1, p2, p3, q0, q1, q2, q3, q4, q5, W9, B9) : Nat × Option Nat × Option Nat × Option Nat × Option Nat × Option Nat × Option Nat × Option Nat × Option Nat × Option Nat × Option Nat × RowIx × RowIx) => [(0, .slice A0 xs0.length c0), (1, r53.val bs.length), (2, .int .i64 ((m : Nat) : Int)), (7, .pointer (some ⟨g, 0, none⟩)), (8, r.val zs.length), (9, .pointer (some ⟨g43, 0, none⟩)), (12, .int .i64 ((i : Nat) : Int)), (10, W9.val (2 * i)), (11, B9.val (3 * i))]) (fun ((i, p0, p1, p2, p3, q0, q1, q2, q3, q4, q5, W9, B9) : Nat × Option Nat × Option Nat × Option Nat × Option Nat × Option Nat × Option Nat × Option Nat × Option Nat × Option Nat × Option Nat × RowIx × RowIx) => [(100, ⟨some g, 89, stkM S ((zs.length : Nat) : Int)⟩), (101, r.ent 25 (rowW zs)), (43, ⟨some g43, 99, [i60.val mm.length]⟩), (44, i60.ent 5 (rowN .u8 mm)), (50, r53.ent 5 (rowN .u8 bs)), (10, W9.ent 32 (opt (0 < i) [slv p0 zs.length, slv p1 zs.length] ++ opt (1 < i) [slv p2 zs.length, slv p3 zs.length])), (11, B9.ent 22 (opt (0 < i) [slv q0 bs.length, slv q1 rb.length, slv q2 bs.length] ++ opt (1 < i) [slv q3 bs.length, slv q4 rb.length, slv q5 bs.length])), (400, ⟨p0, 25, opt (0 < i) (rowW zs)⟩), (401, ⟨p1, 25, opt (0 < i) (rowW zs)⟩), (402, ⟨p2, 25, opt (1 < i) (rowW zs)⟩), (403, ⟨p3, 25, opt (1 < i) (rowW zs)⟩), (410, ⟨q0, 5, opt (0 < i) (rowN .u8 bs)⟩), (411, ⟨q1, 5, opt (0 < i) (rowN .u8 rb)⟩), (412, ⟨q2, 5, opt (0 < i) (rowN .u8 bs)⟩), (413, ⟨q3, 5, opt (1 < i) (rowN .u8 bs)⟩), (414, ⟨q4, 5, opt (1 < i) (rowN .u8 rb)⟩), (415, ⟨q5, 5, opt (1 < i) (rowN .u8 bs)⟩)]) (fun ((i, p0, p1, p2, p3, q0, q1, q2, q3, q4, q5, W9, B9) : Nat × Option Nat × Option Nat × Option Nat × Option Nat × Option Nat × Option Nat × Option Nat × Option Nat × Option Nat × Option Nat × RowIx × RowIx) => 2 - i) ⟨0, none, none, none, none, none, none, none, none, none, none, RowIx.nil, RowIx.nil⟩ ⟨by omega, RowIx.nil_ok 1, RowIx.nil_ok 1, fun q => absurd q (by first | decide | (dsimp only; decide)), fun q => absurd q (by first | decide | (dsimp only; decide))⟩ (by repeat (first | exact sn _ | refine sc rfl ?_)) (by repeat (first | exact sn _ | refine sc rfl ?_)) ?_
  rintro ⟨i, p0, p1, p2, p3, q0, q1, q2, q3, q4, q5, W9, B9⟩ ⟨hi, hr, hq11, ho1, ho2⟩
  try dsimp only at *
  refine T.seq ?_
  refine T.seq ?_
  refine T.text [.l, .l] rfl ?_
  refine J.move rfl rfl ?_
  refine J.lss rfl rfl rfl rfl ?_
  refine J.end ?_
  refine X.then ?_
  refine T.cond_dec rfl (fun h1 => ?_) (fun h1 => ?_)
  · rcases (show i = 0 ∨ i = 1 from by omega) with rfl | rfl
    · skip
      refine T.skip ?_
      refine X.then ?_
      refine T.seq ?_
      refine T.block ?_
      refine T.seq ?_
      refine T.text [.l, .l, .l, .l, .l, .l, .l, .l, .l] rfl ?_
      refine J.move rfl rfl ?_
      refine J.move rfl rfl ?_
      refine J.lenSl Try.underlying22 rfl rfl ?_
      refine J.callExactE 71 rfl fok46 rfl rfl (fun w hw => Ox.ReadX w g43 i60 mm hm60 (hw.memAt 43 44 rfl rfl (by decide)) 0 (by omega) _ (by omega) bs (by rw [hmm]; exact hown.2.1) (by rw [hmm]; exact hown.1)) (fun g71 hg71 => ?_)
      refine J.move rfl rfl ?_
      refine J.extract rfl rfl rfl ?_
      refine J.extract rfl rfl rfl ?_
      refine J.assign rfl rfl ?_
      refine J.assign rfl rfl ?_
      refine J.end ?_
      refine X.then ?_
      refine T.seq ?_
      refine T.text [.l, .l, .l, .l, .l, .l, .l, .l, .l] rfl ?_
      refine J.move rfl rfl ?_
      refine J.build rfl rfl (W 1) (fun w => by kernel_rfl) ?_
      refine J.move rfl rfl ?_
      refine J.callExactE 78 rfl fok15 rfl rfl (fun w hw => Ox.RowX w _ _ bs (hw.rowCs (k := 50) rfl) hdb (by omega) hcap53 1 ((m : Nat) : Int) (by omega) rb hrb.symm (by unfold rowRe; rw [if_neg (by omega)])) (fun g78 hg78 => ?_)
      refine J.move rfl rfl ?_
      refine J.extract rfl rfl rfl ?_
      refine J.extract rfl rfl rfl ?_
      refine J.assign rfl rfl ?_
      refine J.assign rfl rfl ?_
      refine J.end ?_
      refine X.then ?_
      refine T.seq ?_
      refine T.text [.l, .l, .l, .l, .l, .l, .l, .l, .l] rfl ?_
      refine J.move rfl rfl ?_
      refine J.move rfl rfl ?_
      refine J.lenSl Try.underlying22 rfl rfl ?_
      refine J.callExactE 85 rfl fok46 rfl rfl (fun w hw => Ox.ReadX w g43 i60 mm hm60 (hw.memAt 43 44 rfl rfl (by decide)) 0 (by omega) _ (by omega) bs (by rw [hmm]; exact hown.2.1) (by rw [hmm]; exact hown.1)) (fun g85 hg85 => ?_)
      refine J.move rfl rfl ?_
      refine J.extract rfl rfl rfl ?_
      refine J.extract rfl rfl rfl ?_
      refine J.assign rfl rfl ?_
      refine J.assign rfl rfl ?_
      refine J.end ?_
      refine X.then ?_
      refine T.seq ?_
      refine T.seq ?_
      refine T.text [.l, .l, .l, .l, .l, .l, .l, .l, .l, .l, .l, .l, .l, .l, .l, .l, .l, .l, .l, .l, .l, .l, .l, .l, .l, .l, .l, .l, .l, .l] rfl ?_
      refine J.move rfl rfl ?_
      refine J.neq rfl rfl rfl (decide_eq_false (by first | omega | rfl | assumption | (simp only [*]; done))) ?_
      refine J.move rfl rfl ?_
      refine J.yes rfl rfl ?_
      refine J.move rfl rfl ?_
      refine J.yes rfl rfl ?_
      refine J.neq rfl rfl rfl (decide_eq_false (by first | omega | rfl | assumption | (simp only [*]; done))) ?_
      refine J.pick_f rfl rfl rfl ?_
      refine J.move rfl rfl ?_
      refine J.yes rfl rfl ?_
      refine J.move rfl rfl ?_
      refine J.yes rfl rfl ?_
      refine J.neq rfl rfl rfl (decide_eq_false (by first | omega | rfl | assumption | (simp only [*]; done))) ?_
      refine J.pick_f rfl rfl rfl ?_
      refine J.move rfl rfl ?_
      refine J.yes rfl rfl ?_
      refine J.move rfl rfl ?_
      refine J.yes rfl rfl ?_
      refine J.convBS (k := .l) trivial Try.underlying22 Try.underlying5 Try.underlying9 rfl (bs) rfl (fun w hw => (hw.blkCs (k := 71) rfl)) rfl ?_
      refine J.yes rfl rfl ?_
      refine J.move rfl rfl ?_
      refine J.yes rfl rfl ?_
      refine J.convBS (k := .l) trivial Try.underlying22 Try.underlying5 Try.underlying9 rfl (bs) rfl (fun w hw => (hw.rowCs (k := 50) rfl)) rfl ?_
      refine J.yes rfl rfl ?_
      refine J.neqStr (xs := bs) (ys := bs) rfl rfl rfl hdb hdb ?_
      refine J.as 103 (.bool false) rfl (by rw [decide_eq_false (fun h => h rfl)]) ?_
      refine J.pick_f rfl rfl rfl ?_
      refine J.move rfl rfl ?_
      refine J.yes rfl rfl ?_
      refine J.move rfl rfl ?_
      refine J.yes rfl rfl ?_
      refine J.convBS (k := .l) trivial Try.underlying22 Try.underlying5 Try.underlying9 rfl (bs) rfl (fun w hw => (hw.blkCs (k := 85) rfl)) rfl ?_
      refine J.yes rfl rfl ?_
      refine J.move rfl rfl ?_
      refine J.yes rfl rfl ?_
      refine J.convBS (k := .l) trivial Try.underlying22 Try.underlying5 Try.underlying9 rfl (bs) rfl (fun w hw => (hw.rowCs (k := 50) rfl)) rfl ?_
      refine J.yes rfl rfl ?_
      refine J.neqStr (xs := bs) (ys := bs) rfl rfl rfl hdb hdb ?_
      refine J.as 110 (.bool false) rfl (by rw [decide_eq_false (fun h => h rfl)]) ?_
      refine J.pick_f rfl rfl rfl ?_
      refine J.move rfl rfl ?_
      refine J.yes rfl rfl ?_
      refine J.move rfl rfl ?_
      refine J.yes rfl rfl ?_
      refine J.lenSl Try.underlying22 rfl rfl ?_
      refine J.yes rfl rfl ?_
      refine J.move rfl rfl ?_
      refine J.yes rfl rfl ?_
      refine J.neq rfl rfl rfl (decide_eq_false (by first | omega | rfl | assumption | (simp only [*]; done))) ?_
      refine J.pick_f rfl rfl rfl ?_
      refine J.end ?_
      refine X.then ?_
      refine T.cond_false rfl ?_
      refine T.skip ?_
      refine X.then ?_
      refine T.seq ?_
      refine T.text [.l, .l, .l, .l, .l, .l, .l, .l] rfl ?_
      refine J.move rfl rfl ?_
      refine J.move rfl rfl ?_
      refine J.callExactW 120 rfl fok23 rfl rfl (fun w hw => Ox.WordsX w g S _ hS (by omega) (hw.blkCs (k := 100) rfl) zs hwz) (fun g120 hg120 => ?_)
      refine J.move rfl rfl ?_
      refine J.callExactW 122 rfl fok23 rfl rfl (fun w hw => Ox.WordsX w g S _ hS (by omega) (hw.blkCs (k := 100) rfl) zs hwz) (fun g122 hg122 => ?_)
      refine J.buildSlice 123 rfl (e := 32) rfl rfl [slv (some g120) zs.length, slv (some g122) zs.length] (fun w => by kernel_rfl) (fun g123 hg123 => ?_)
      refine J.append 10 rfl Try.underlying83 el32 rfl hr rfl rfl rfl rfl (fun w hw => (hw.blkCs (k := 123) rfl)) (by intro u hu; simp at hu; rcases hu with rfl | rfl <;> rfl) (by omega) (by unfold maxLen; omega) rfl 2 rfl [slv (some g120) zs.length, slv (some g122) zs.length] rfl (fun r124 hr124 => ?_)
      refine J.assign rfl rfl ?_
      refine J.end ?_
      refine X.then ?_
      refine T.text [.l, .l, .l, .l, .l, .l, .l] rfl ?_
      refine J.move rfl rfl ?_
      refine J.move rfl rfl ?_
      refine J.move rfl rfl ?_
      refine J.move rfl rfl ?_
      refine J.buildSlice 129 rfl (e := 22) rfl rfl [slv (some g71) bs.length, slv (some g78) rb.length, slv (some g85) bs.length] (fun w => by kernel_rfl) (fun g129 hg129 => ?_)
      refine J.append 11 rfl Try.underlying84 el22 rfl hq11 rfl rfl rfl rfl (fun w hw => (hw.blkCs (k := 129) rfl)) (by intro u hu; simp at hu; rcases hu with rfl | rfl | rfl <;> rfl) (by omega) (by unfold maxLen; omega) rfl 3 rfl [slv (some g71) bs.length, slv (some g78) rb.length, slv (some g85) bs.length] rfl (fun r130 hr130 => ?_)
      refine J.assign rfl rfl ?_
      refine J.end ?_
      refine X.mv 120 400 rfl ?_
      refine X.mv 122 401 rfl ?_
      refine X.mv 71 410 rfl ?_
      refine X.mv 78 411 rfl ?_
      refine X.mv 85 412 rfl ?_
      refine X.inBlock (X.then ?_)
      refine T.text [.l, .l, .l] rfl ?_
      refine J.move rfl rfl ?_
      refine J.add rfl rfl rfl (by first | exact add_nat _ 1 (by omega) | exact i64_ok _ (by omega) | exact rfl) ?_
      refine J.as 66 (.int .i64 ((1 : Nat) : Int)) rfl (by rfl) ?_
      refine J.assign rfl rfl ?_
      refine J.end ?_
      exact X.round ⟨1, (some g120), (some g122), p2, p3, (some g71), (some g78), (some g85), q3, q4, q5, r124, r130⟩ ⟨by first | omega | (dsimp only; omega), hr124, hr130, fun _ => ⟨_, _, _, _, _, rfl, rfl, rfl, rfl, rfl⟩, fun q => absurd q (by first | decide | (dsimp only; decide))⟩ (by first | omega | (dsimp only; omega)) (by repeat (first | exact sn _ | refine sc rfl ?_)) (by repeat (first | exact sn _ | refine sc rfl ?_))
    · skip
      refine T.skip ?_
      refine X.then ?_
      refine T.seq ?_
      refine T.block ?_
      refine T.seq ?_
      refine T.text [.l, .l, .l, .l, .l, .l, .l, .l, .l] rfl ?_
      refine J.move rfl rfl ?_
      refine J.move rfl rfl ?_
      refine J.lenSl Try.underlying22 rfl rfl ?_
      refine J.callExactE 71 rfl fok46 rfl rfl (fun w hw => Ox.ReadX w g43 i60 mm hm60 (hw.memAt 43 44 rfl rfl (by decide)) 0 (by omega) _ (by omega) bs (by rw [hmm]; exact hown.2.1) (by rw [hmm]; exact hown.1)) (fun g71 hg71 => ?_)
      refine J.move rfl rfl ?_
      refine J.extract rfl rfl rfl ?_
      refine J.extract rfl rfl rfl ?_
      refine J.assign rfl rfl ?_
      refine J.assign rfl rfl ?_
      refine J.end ?_
      refine X.then ?_
      refine T.seq ?_
      refine T.text [.l, .l, .l, .l, .l, .l, .l, .l, .l] rfl ?_
      refine J.move rfl rfl ?_
      refine J.build rfl rfl (W 1) (fun w => by kernel_rfl) ?_
      refine J.move rfl rfl ?_
      refine J.callExactE 78 rfl fok15 rfl rfl (fun w hw => Ox.RowX w _ _ bs (hw.rowCs (k := 50) rfl) hdb (by omega) hcap53 1 ((m : Nat) : Int) (by omega) rb hrb.symm (by unfold rowRe; rw [if_neg (by omega)])) (fun g78 hg78 => ?_)
      refine J.move rfl rfl ?_
      refine J.extract rfl rfl rfl ?_
      refine J.extract rfl rfl rfl ?_
      refine J.assign rfl rfl ?_
      refine J.assign rfl rfl ?_
      refine J.end ?_
      refine X.then ?_
      refine T.seq ?_
      refine T.text [.l, .l, .l, .l, .l, .l, .l, .l, .l] rfl ?_
      refine J.move rfl rfl ?_
      refine J.move rfl rfl ?_
      refine J.lenSl Try.underlying22 rfl rfl ?_
      refine J.callExactE 85 rfl fok46 rfl rfl (fun w hw => Ox.ReadX w g43 i60 mm hm60 (hw.memAt 43 44 rfl rfl (by decide)) 0 (by omega) _ (by omega) bs (by rw [hmm]; exact hown.2.1) (by rw [hmm]; exact hown.1)) (fun g85 hg85 => ?_)
      refine J.move rfl rfl ?_
      refine J.extract rfl rfl rfl ?_
      refine J.extract rfl rfl rfl ?_
      refine J.assign rfl rfl ?_
      refine J.assign rfl rfl ?_
      refine J.end ?_
      refine X.then ?_
      refine T.seq ?_
      refine T.seq ?_
      refine T.text [.l, .l, .l, .l, .l, .l, .l, .l, .l, .l, .l, .l, .l, .l, .l, .l, .l, .l, .l, .l, .l, .l, .l, .l, .l, .l, .l, .l, .l, .l] rfl ?_
      refine J.move rfl rfl ?_
      refine J.neq rfl rfl rfl (decide_eq_false (by first | omega | rfl | assumption | (simp only [*]; done))) ?_
      refine J.move rfl rfl ?_
      refine J.yes rfl rfl ?_
      refine J.move rfl rfl ?_
      refine J.yes rfl rfl ?_
      refine J.neq rfl rfl rfl (decide_eq_false (by first | omega | rfl | assumption | (simp only [*]; done))) ?_
      refine J.pick_f rfl rfl rfl ?_
      refine J.move rfl rfl ?_
      refine J.yes rfl rfl ?_
      refine J.move rfl rfl ?_
      refine J.yes rfl rfl ?_
      refine J.neq rfl rfl rfl (decide_eq_false (by first | omega | rfl | assumption | (simp only [*]; done))) ?_
      refine J.pick_f rfl rfl rfl ?_
      refine J.move rfl rfl ?_
      refine J.yes rfl rfl ?_
      refine J.move rfl rfl ?_
      refine J.yes rfl rfl ?_
      refine J.convBS (k := .l) trivial Try.underlying22 Try.underlying5 Try.underlying9 rfl (bs) rfl (fun w hw => (hw.blkCs (k := 71) rfl)) rfl ?_
      refine J.yes rfl rfl ?_
      refine J.move rfl rfl ?_
      refine J.yes rfl rfl ?_
      refine J.convBS (k := .l) trivial Try.underlying22 Try.underlying5 Try.underlying9 rfl (bs) rfl (fun w hw => (hw.rowCs (k := 50) rfl)) rfl ?_
      refine J.yes rfl rfl ?_
      refine J.neqStr (xs := bs) (ys := bs) rfl rfl rfl hdb hdb ?_
      refine J.as 103 (.bool false) rfl (by rw [decide_eq_false (fun h => h rfl)]) ?_
      refine J.pick_f rfl rfl rfl ?_
      refine J.move rfl rfl ?_
      refine J.yes rfl rfl ?_
      refine J.move rfl rfl ?_
      refine J.yes rfl rfl ?_
      refine J.convBS (k := .l) trivial Try.underlying22 Try.underlying5 Try.underlying9 rfl (bs) rfl (fun w hw => (hw.blkCs (k := 85) rfl)) rfl ?_
      refine J.yes rfl rfl ?_
      refine J.move rfl rfl ?_
      refine J.yes rfl rfl ?_
      refine J.convBS (k := .l) trivial Try.underlying22 Try.underlying5 Try.underlying9 rfl (bs) rfl (fun w hw => (hw.rowCs (k := 50) rfl)) rfl ?_
      refine J.yes rfl rfl ?_
      refine J.neqStr (xs := bs) (ys := bs) rfl rfl rfl hdb hdb ?_
      refine J.as 110 (.bool false) rfl (by rw [decide_eq_false (fun h => h rfl)]) ?_
      refine J.pick_f rfl rfl rfl ?_
      refine J.move rfl rfl ?_
      refine J.yes rfl rfl ?_
      refine J.move rfl rfl ?_
      refine J.yes rfl rfl ?_
      refine J.lenSl Try.underlying22 rfl rfl ?_
      refine J.yes rfl rfl ?_
      refine J.move rfl rfl ?_
      refine J.yes rfl rfl ?_
      refine J.neq rfl rfl rfl (decide_eq_false (by first | omega | rfl | assumption | (simp only [*]; done))) ?_
      refine J.pick_f rfl rfl rfl ?_
      refine J.end ?_
      refine X.then ?_
      refine T.cond_false rfl ?_
      refine T.skip ?_
      refine X.then ?_
      refine T.seq ?_
      refine T.text [.l, .l, .l, .l, .l, .l, .l, .l] rfl ?_
      refine J.move rfl rfl ?_
      refine J.move rfl rfl ?_
      refine J.callExactW 120 rfl fok23 rfl rfl (fun w hw => Ox.WordsX w g S _ hS (by omega) (hw.blkCs (k := 100) rfl) zs hwz) (fun g120 hg120 => ?_)
      refine J.move rfl rfl ?_
      refine J.callExactW 122 rfl fok23 rfl rfl (fun w hw => Ox.WordsX w g S _ hS (by omega) (hw.blkCs (k := 100) rfl) zs hwz) (fun g122 hg122 => ?_)
      refine J.buildSlice 123 rfl (e := 32) rfl rfl [slv (some g120) zs.length, slv (some g122) zs.length] (fun w => by kernel_rfl) (fun g123 hg123 => ?_)
      refine J.append 10 rfl Try.underlying83 el32 rfl hr rfl rfl rfl rfl (fun w hw => (hw.blkCs (k := 123) rfl)) (by intro u hu; simp at hu; rcases hu with rfl | rfl <;> rfl) (by omega) (by unfold maxLen; omega) rfl 4 rfl [slv p0 zs.length, slv p1 zs.length, slv (some g120) zs.length, slv (some g122) zs.length] rfl (fun r124 hr124 => ?_)
      refine J.assign rfl rfl ?_
      refine J.end ?_
      refine X.then ?_
      refine T.text [.l, .l, .l, .l, .l, .l, .l] rfl ?_
      refine J.move rfl rfl ?_
      refine J.move rfl rfl ?_
      refine J.move rfl rfl ?_
      refine J.move rfl rfl ?_
      refine J.buildSlice 129 rfl (e := 22) rfl rfl [slv (some g71) bs.length, slv (some g78) rb.length, slv (some g85) bs.length] (fun w => by kernel_rfl) (fun g129 hg129 => ?_)
      refine J.append 11 rfl Try.underlying84 el22 rfl hq11 rfl rfl rfl rfl (fun w hw => (hw.blkCs (k := 129) rfl)) (by intro u hu; simp at hu; rcases hu with rfl | rfl | rfl <;> rfl) (by omega) (by unfold maxLen; omega) rfl 6 rfl [slv q0 bs.length, slv q1 rb.length, slv q2 bs.length, slv (some g71) bs.length, slv (some g78) rb.length, slv (some g85) bs.length] rfl (fun r130 hr130 => ?_)
      refine J.assign rfl rfl ?_
      refine J.end ?_
      refine X.mv 120 402 rfl ?_
      refine X.mv 122 403 rfl ?_
      refine X.mv 71 413 rfl ?_
      refine X.mv 78 414 rfl ?_
      refine X.mv 85 415 rfl ?_
      refine X.inBlock (X.then ?_)
      refine T.text [.l, .l, .l] rfl ?_
      refine J.move rfl rfl ?_
      refine J.add rfl rfl rfl (by first | exact add_nat _ 1 (by omega) | exact i64_ok _ (by omega) | exact rfl) ?_
      refine J.as 66 (.int .i64 ((2 : Nat) : Int)) rfl (by rfl) ?_
      refine J.assign rfl rfl ?_
      refine J.end ?_
      exact X.round ⟨2, p0, p1, (some g120), (some g122), q0, q1, q2, (some g71), (some g78), (some g85), r124, r130⟩ ⟨by first | omega | (dsimp only; omega), hr124, hr130, fun _ => ho1 (by decide), fun _ => ⟨_, _, _, _, _, rfl, rfl, rfl, rfl, rfl⟩⟩ (by first | omega | (dsimp only; omega)) (by repeat (first | exact sn _ | refine sc rfl ?_)) (by repeat (first | exact sn _ | refine sc rfl ?_))
  obtain rfl : i = 2 := by omega
  obtain ⟨u0, u1, s0, s1, s2, rfl, rfl, rfl, rfl, rfl⟩ := ho1 (by decide)
  obtain ⟨u2, u3, s3, s4, s5, rfl, rfl, rfl, rfl, rfl⟩ := ho2 (by decide)
  refine T.asE 400 (⟨some u0, 25, rowW zs⟩) rfl rfl ?_
  refine T.asE 401 (⟨some u1, 25, rowW zs⟩) rfl rfl ?_
  refine T.asE 402 (⟨some u2, 25, rowW zs⟩) rfl rfl ?_
  refine T.asE 403 (⟨some u3, 25, rowW zs⟩) rfl rfl ?_
  refine T.asE 410 (⟨some s0, 5, rowN .u8 bs⟩) rfl rfl ?_
  refine T.asE 411 (⟨some s1, 5, rowN .u8 rb⟩) rfl rfl ?_
  refine T.asE 412 (⟨some s2, 5, rowN .u8 bs⟩) rfl rfl ?_
  refine T.asE 413 (⟨some s3, 5, rowN .u8 bs⟩) rfl rfl ?_
  refine T.asE 414 (⟨some s4, 5, rowN .u8 rb⟩) rfl rfl ?_
  refine T.asE 415 (⟨some s5, 5, rowN .u8 bs⟩) rfl rfl ?_
  refine T.asE 10 (W9.ent 32 [slv (some u0) zs.length, slv (some u1) zs.length, slv (some u2) zs.length, slv (some u3) zs.length]) rfl rfl ?_
  refine T.asE 11 (B9.ent 22 [slv (some s0) bs.length, slv (some s1) rb.length, slv (some s2) bs.length, slv (some s3) bs.length, slv (some s4) rb.length, slv (some s5) bs.length]) rfl rfl ?_
  refine T.exit ?_
  refine X.then_exit (X.then_exit (X.inBlock_eq (X.then ?_)))
  refine T.seq ?_
  refine T.seq ?_
  refine T.text [.l] rfl ?_
  refine J.assign rfl rfl ?_
  refine J.end ?_
  refine X.then ?_
  refine T.block ?_
  refine T.loop (ι := Nat) (fun (i : Nat) => i ≤ 4) (fun (i : Nat) => [(1, r53.val bs.length), (7, .pointer (some ⟨g, 0, none⟩)), (8, r.val zs.length), (9, .pointer (some ⟨g43, 0, none⟩)), (10, W9.val (2 * 2)), (11, B9.val (3 * 2)), (19, .int .i64 ((i : Nat) : Int))]) (fun (i : Nat) => [(100, ⟨some g, 89, stkM S ((zs.length : Nat) : Int)⟩), (101, r.ent 25 (rowW zs)), (43, ⟨some g43, 99, [i60.val mm.length]⟩), (44, i60.ent 5 (rowN .u8 mm)), (50, r53.ent 5 (rowN .u8 bs)), (10, W9.ent 32 [slv (some u0) zs.length, slv (some u1) zs.length, slv (some u2) zs.length, slv (some u3) zs.length]), (11, B9.ent 22 [slv (some s0) bs.length, slv (some s1) rb.length, slv (some s2) bs.length, slv (some s3) bs.length, slv (some s4) rb.length, slv (some s5) bs.length]), (400, ⟨some u0, 25, rowW zs⟩), (401, ⟨some u1, 25, rowW zs⟩), (402, ⟨some u2, 25, rowW zs⟩), (403, ⟨some u3, 25, rowW zs⟩), (410, ⟨some s0, 5, rowN .u8 bs⟩), (411, ⟨some s1, 5, rowN .u8 rb⟩), (412, ⟨some s2, 5, rowN .u8 bs⟩), (413, ⟨some s3, 5, rowN .u8 bs⟩), (414, ⟨some s4, 5, rowN .u8 rb⟩), (415, ⟨some s5, 5, rowN .u8 bs⟩)]) (fun (i : Nat) => 4 - i) 0 (Nat.zero_le _) (by repeat (first | exact sn _ | refine sc rfl ?_)) (by repeat (first | exact sn _ | refine sc rfl ?_)) ?_
  rintro i hi
  refine T.seq ?_
  refine T.seq ?_
  refine T.text [.l, .l, .l, .l] rfl ?_
  refine J.move rfl rfl ?_
  refine J.move rfl rfl ?_
  refine J.lenSl Try.underlying83 rfl rfl ?_
  refine J.lss rfl rfl rfl rfl ?_
  refine J.end ?_
  refine X.then ?_
  refine T.cond_dec rfl (fun h2 => ?_) (fun h2 => ?_)
  · rcases (show i = 0 ∨ i = 1 ∨ i = 2 ∨ i = 3 from by omega) with rfl | rfl | rfl | rfl
    · skip
      refine T.skip ?_
      refine X.then ?_
      refine T.seq ?_
      refine T.block ?_
      refine T.seq ?_
      refine T.text [.l, .l, .l, .l, .l, .l, .l] rfl ?_
      refine J.move rfl rfl ?_
      refine J.move rfl rfl ?_
      refine J.indexRow sl83 rfl (hr.some (by omega)) rfl (by omega) (by omega) (by first | exact Int.toNat_natCast _ | rfl) rfl ?_
      refine J.load1 (k := .l) trivial 10 rfl rfl one32 rfl rfl ?_
      refine J.move rfl rfl ?_
      refine J.call0 (k := .l) trivial fok22 rfl rfl (fun w hw => Aw.sameWords w _ _ _ (hw.blkCs (k := 400) rfl) _ _ _ (hw.rowCs (k := 101) rfl) rfl (by omega)) ?_
      refine J.not rfl rfl rfl ?_
      refine J.end ?_
      refine X.then ?_
      refine T.cond_false rfl ?_
      refine T.skip ?_
      refine X.inBlock (X.then ?_)
      refine T.text [.l, .l, .l] rfl ?_
      refine J.move rfl rfl ?_
      refine J.add rfl rfl rfl (by first | exact add_nat _ 1 (by omega) | exact i64_ok _ (by omega) | exact rfl) ?_
      refine J.as 136 (.int .i64 ((1 : Nat) : Int)) rfl (by rfl) ?_
      refine J.assign rfl rfl ?_
      refine J.end ?_
      exact X.round 1 (by first | decide | omega) (by first | omega | (dsimp only; omega)) (by repeat (first | exact sn _ | refine sc rfl ?_)) (by repeat (first | exact sn _ | refine sc rfl ?_))
    · skip
      refine T.skip ?_
      refine X.then ?_
      refine T.seq ?_
      refine T.block ?_
      refine T.seq ?_
      refine T.text [.l, .l, .l, .l, .l, .l, .l] rfl ?_
      refine J.move rfl rfl ?_
      refine J.move rfl rfl ?_
      refine J.indexRow sl83 rfl (hr.some (by omega)) rfl (by omega) (by omega) (by first | exact Int.toNat_natCast _ | rfl) rfl ?_
      refine J.load1 (k := .l) trivial 10 rfl rfl one32 rfl rfl ?_
      refine J.move rfl rfl ?_
      refine J.call0 (k := .l) trivial fok22 rfl rfl (fun w hw => Aw.sameWords w _ _ _ (hw.blkCs (k := 401) rfl) _ _ _ (hw.rowCs (k := 101) rfl) rfl (by omega)) ?_
      refine J.not rfl rfl rfl ?_
      refine J.end ?_
      refine X.then ?_
      refine T.cond_false rfl ?_
      refine T.skip ?_
      refine X.inBlock (X.then ?_)
      refine T.text [.l, .l, .l] rfl ?_
      refine J.move rfl rfl ?_
      refine J.add rfl rfl rfl (by first | exact add_nat _ 1 (by omega) | exact i64_ok _ (by omega) | exact rfl) ?_
      refine J.as 136 (.int .i64 ((2 : Nat) : Int)) rfl (by rfl) ?_
      refine J.assign rfl rfl ?_
      refine J.end ?_
      exact X.round 2 (by first | decide | omega) (by first | omega | (dsimp only; omega)) (by repeat (first | exact sn _ | refine sc rfl ?_)) (by repeat (first | exact sn _ | refine sc rfl ?_))
    · skip
      refine T.skip ?_
      refine X.then ?_
      refine T.seq ?_
      refine T.block ?_
      refine T.seq ?_
      refine T.text [.l, .l, .l, .l, .l, .l, .l] rfl ?_
      refine J.move rfl rfl ?_
      refine J.move rfl rfl ?_
      refine J.indexRow sl83 rfl (hr.some (by omega)) rfl (by omega) (by omega) (by first | exact Int.toNat_natCast _ | rfl) rfl ?_
      refine J.load1 (k := .l) trivial 10 rfl rfl one32 rfl rfl ?_
      refine J.move rfl rfl ?_
      refine J.call0 (k := .l) trivial fok22 rfl rfl (fun w hw => Aw.sameWords w _ _ _ (hw.blkCs (k := 402) rfl) _ _ _ (hw.rowCs (k := 101) rfl) rfl (by omega)) ?_
      refine J.not rfl rfl rfl ?_
      refine J.end ?_
      refine X.then ?_
      refine T.cond_false rfl ?_
      refine T.skip ?_
      refine X.inBlock (X.then ?_)
      refine T.text [.l, .l, .l] rfl ?_
      refine J.move rfl rfl ?_
      refine J.add rfl rfl rfl (by first | exact add_nat _ 1 (by omega) | exact i64_ok _ (by omega) | exact rfl) ?_
      refine J.as 136 (.int .i64 ((3 : Nat) : Int)) rfl (by rfl) ?_
      refine J.assign rfl rfl ?_
      refine J.end ?_
      exact X.round 3 (by first | decide | omega) (by first | omega | (dsimp only; omega)) (by repeat (first | exact sn _ | refine sc rfl ?_)) (by repeat (first | exact sn _ | refine sc rfl ?_))
    · skip
      refine T.skip ?_
      refine X.then ?_
      refine T.seq ?_
      refine T.block ?_
      refine T.seq ?_
      refine T.text [.l, .l, .l, .l, .l, .l, .l] rfl ?_
      refine J.move rfl rfl ?_
      refine J.move rfl rfl ?_
      refine J.indexRow sl83 rfl (hr.some (by omega)) rfl (by omega) (by omega) (by first | exact Int.toNat_natCast _ | rfl) rfl ?_
      refine J.load1 (k := .l) trivial 10 rfl rfl one32 rfl rfl ?_
      refine J.move rfl rfl ?_
      refine J.call0 (k := .l) trivial fok22 rfl rfl (fun w hw => Aw.sameWords w _ _ _ (hw.blkCs (k := 403) rfl) _ _ _ (hw.rowCs (k := 101) rfl) rfl (by omega)) ?_
      refine J.not rfl rfl rfl ?_
      refine J.end ?_
      refine X.then ?_
      refine T.cond_false rfl ?_
      refine T.skip ?_
      refine X.inBlock (X.then ?_)
      refine T.text [.l, .l, .l] rfl ?_
      refine J.move rfl rfl ?_
      refine J.add rfl rfl rfl (by first | exact add_nat _ 1 (by omega) | exact i64_ok _ (by omega) | exact rfl) ?_
      refine J.as 136 (.int .i64 ((4 : Nat) : Int)) rfl (by rfl) ?_
      refine J.assign rfl rfl ?_
      refine J.end ?_
      exact X.round 4 (by first | decide | omega) (by first | omega | (dsimp only; omega)) (by repeat (first | exact sn _ | refine sc rfl ?_)) (by repeat (first | exact sn _ | refine sc rfl ?_))
  obtain rfl : i = 4 := by omega
  refine T.exit ?_
  refine X.then_exit (X.then_exit (X.inBlock_eq (X.then ?_)))
  refine T.seq ?_
  refine T.seq ?_
  refine T.text [.l] rfl ?_
  refine J.assign rfl rfl ?_
  refine J.end ?_
  refine X.then ?_
  refine T.block ?_
  refine T.loop (ι := Nat) (fun (i : Nat) => i ≤ 4) (fun (i : Nat) => [(1, r53.val bs.length), (7, .pointer (some ⟨g, 0, none⟩)), (8, r.val zs.length), (9, .pointer (some ⟨g43, 0, none⟩)), (10, W9.val (2 * 2)), (11, B9.val (3 * 2)), (20, .int .i64 ((i : Nat) : Int))]) (fun (i : Nat) => [(100, ⟨some g, 89, stkM S ((zs.length : Nat) : Int)⟩), (101, r.ent 25 (rowW zs)), (43, ⟨some g43, 99, [i60.val mm.length]⟩), (44, i60.ent 5 (rowN .u8 mm)), (50, r53.ent 5 (rowN .u8 bs)), (10, W9.ent 32 [slv (some u0) zs.length, slv (some u1) zs.length, slv (some u2) zs.length, slv (some u3) zs.length]), (11, B9.ent 22 [slv (some s0) bs.length, slv (some s1) rb.length, slv (some s2) bs.length, slv (some s3) bs.length, slv (some s4) rb.length, slv (some s5) bs.length]), (410, ⟨some s0, 5, rowN .u8 bs⟩), (411, ⟨some s1, 5, rowN .u8 rb⟩), (412, ⟨some s2, 5, rowN .u8 bs⟩), (413, ⟨some s3, 5, rowN .u8 bs⟩), (414, ⟨some s4, 5, rowN .u8 rb⟩), (415, ⟨some s5, 5, rowN .u8 bs⟩), (400, ⟨some u0, 25, rowW (sel (0 < i) (List.replicate zs.length (mkw 0)) zs)⟩), (401, ⟨some u1, 25, rowW (sel (1 < i) (List.replicate zs.length (mkw 1)) zs)⟩), (402, ⟨some u2, 25, rowW (sel (2 < i) (List.replicate zs.length (mkw 2)) zs)⟩), (403, ⟨some u3, 25, rowW (sel (3 < i) (List.replicate zs.length (mkw 3)) zs)⟩)]) (fun (i : Nat) => 4 - i) 0 (Nat.zero_le _) (by repeat (first | exact sn _ | refine sc rfl ?_)) (by repeat (first | exact sn _ | refine sc rfl ?_)) ?_
  rintro i hi
  refine T.seq ?_
  refine T.seq ?_
  refine T.text [.l, .l, .l, .l] rfl ?_
  refine J.move rfl rfl ?_
  refine J.move rfl rfl ?_
  refine J.lenSl Try.underlying83 rfl rfl ?_
  refine J.lss rfl rfl rfl rfl ?_
  refine J.end ?_
  refine X.then ?_
  refine T.cond_dec rfl (fun h3 => ?_) (fun h3 => ?_)
  · rcases (show i = 0 ∨ i = 1 ∨ i = 2 ∨ i = 3 from by omega) with rfl | rfl | rfl | rfl
    · skip
      refine T.skip ?_
      refine X.then ?_
      refine T.seq ?_
      refine T.block ?_
      refine T.seq ?_
      refine T.text [.l] rfl ?_
      refine J.assign rfl rfl ?_
      refine J.end ?_
      refine X.then ?_
      refine T.block ?_
      refine T.asE 400 (⟨some u0, 25, rowW (List.replicate 0 (mkw 0) ++ zs.drop 0)⟩) rfl rfl ?_
      refine T.loop (ι := Nat) (fun (k : Nat) => k ≤ zs.length) (fun (k : Nat) => [(1, r53.val bs.length), (7, .pointer (some ⟨g, 0, none⟩)), (8, r.val zs.length), (9, .pointer (some ⟨g43, 0, none⟩)), (10, W9.val (2 * 2)), (11, B9.val (3 * 2)), (20, .int .i64 ((0 : Nat) : Int)), (21, .int .i64 ((k : Nat) : Int))]) (fun (k : Nat) => [(100, ⟨some g, 89, stkM S ((zs.length : Nat) : Int)⟩), (101, r.ent 25 (rowW zs)), (43, ⟨some g43, 99, [i60.val mm.length]⟩), (44, i60.ent 5 (rowN .u8 mm)), (50, r53.ent 5 (rowN .u8 bs)), (10, W9.ent 32 [slv (some u0) zs.length, slv (some u1) zs.length, slv (some u2) zs.length, slv (some u3) zs.length]), (11, B9.ent 22 [slv (some s0) bs.length, slv (some s1) rb.length, slv (some s2) bs.length, slv (some s3) bs.length, slv (some s4) rb.length, slv (some s5) bs.length]), (410, ⟨some s0, 5, rowN .u8 bs⟩), (411, ⟨some s1, 5, rowN .u8 rb⟩), (412, ⟨some s2, 5, rowN .u8 bs⟩), (413, ⟨some s3, 5, rowN .u8 bs⟩), (414, ⟨some s4, 5, rowN .u8 rb⟩), (415, ⟨some s5, 5, rowN .u8 bs⟩), (401, ⟨some u1, 25, rowW (sel (1 < 0) (List.replicate zs.length (mkw 1)) zs)⟩), (402, ⟨some u2, 25, rowW (sel (2 < 0) (List.replicate zs.length (mkw 2)) zs)⟩), (403, ⟨some u3, 25, rowW (sel (3 < 0) (List.replicate zs.length (mkw 3)) zs)⟩), (400, ⟨some u0, 25, rowW (List.replicate k (mkw 0) ++ zs.drop k)⟩)]) (fun (k : Nat) => zs.length - k) 0 (Nat.zero_le _) (by repeat (first | exact sn _ | refine sc rfl ?_)) (by repeat (first | exact sn _ | refine sc rfl ?_)) ?_
      rintro k hk
      refine T.seq ?_
      refine T.seq ?_
      refine T.text [.l, .l, .l, .l, .l, .l, .l] rfl ?_
      refine J.move rfl rfl ?_
      refine J.move rfl rfl ?_
      refine J.move rfl rfl ?_
      refine J.indexRow sl83 rfl (hr.some (by omega)) rfl (by omega) (by omega) (by first | exact Int.toNat_natCast _ | rfl) rfl ?_
      refine J.load1 (k := .l) trivial 10 rfl rfl one32 rfl rfl ?_
      refine J.lenSl Try.underlying32 rfl rfl ?_
      refine J.lss rfl rfl rfl rfl ?_
      refine J.end ?_
      refine X.then ?_
      refine T.cond_dec rfl (fun h4 => ?_) (fun h4 => ?_)
      · have hk2 : k < zs.length := by omega
        refine T.skip ?_
        refine X.then ?_
        refine T.seq ?_
        refine T.block ?_
        refine T.text [.l, .l, .l, .l, .l, .l, .l, .l, .l, .l, .l] rfl ?_
        refine J.move rfl rfl ?_
        refine J.move rfl rfl ?_
        refine J.indexRow sl83 rfl (hr.some (by omega)) rfl (by omega) (by omega) (by first | exact Int.toNat_natCast _ | rfl) rfl ?_
        refine J.load1 (k := .l) trivial 10 rfl rfl one32 rfl rfl ?_
        refine J.move rfl rfl ?_
        refine J.move rfl rfl ?_
        refine J.add rfl rfl rfl (show _ = (1000 : Int) by rfl) ?_
        refine J.conv (by rw [Try.underlying3]; rfl) Try.underlying23 rfl rfl (show _ = (1000 : Int) by rfl) ?_
        refine J.build rfl rfl (W (mkw 0)) (fun w => by kernel_rfl) ?_
        refine J.indexSlB sl32 rfl rfl (by omega) (by omega) (by first | exact Int.toNat_natCast _ | rfl) rfl ?_
        refine J.store 400 rfl rfl rfl rfl (wc (mkw 0)) rfl sz25 (by show _ ≤ (rowW _).length; rw [rowW_length, List.length_append, List.length_replicate, List.length_drop]; show _ + 4 ≤ _; omega) (rowN_one _ _) (by show 0 < 4; omega) trivial (rowW (List.replicate (k + 1) (mkw 0) ++ zs.drop (k + 1))) (by rw [Nat.zero_add]; exact fillW k (mkw 0) zs hk2) ?_
        refine J.end ?_
        refine X.inBlock (X.then ?_)
        refine T.text [.l, .l, .l] rfl ?_
        refine J.move rfl rfl ?_
        refine J.add rfl rfl rfl (by first | exact add_nat _ 1 (by omega) | exact i64_ok _ (by omega) | exact rfl) ?_
        refine J.assign rfl rfl ?_
        refine J.end ?_
        exact X.round (k + 1) (by omega) (by first | omega | (dsimp only; omega)) (by repeat (first | exact sn _ | refine sc rfl ?_)) (by repeat (first | exact sn _ | refine sc rfl ?_))
      obtain rfl : k = zs.length := by omega
      refine T.asE 400 ⟨some u0, 25, rowW (List.replicate zs.length (mkw 0))⟩ rfl (by rw [List.drop_length, List.append_nil]) ?_
      refine T.exit ?_
      refine X.then_exit (X.then_exit (X.inBlock_eq (X.inBlock (X.then ?_))))
      refine T.text [.l, .l, .l] rfl ?_
      refine J.move rfl rfl ?_
      refine J.add rfl rfl rfl (by first | exact add_nat _ 1 (by omega) | exact i64_ok _ (by omega) | exact rfl) ?_
      refine J.as 149 (.int .i64 ((1 : Nat) : Int)) rfl (by rfl) ?_
      refine J.assign rfl rfl ?_
      refine J.end ?_
      exact X.round 1 (by first | decide | omega) (by first | omega | (dsimp only; omega)) (by repeat (first | exact sn _ | refine sc rfl ?_)) (by repeat (first | exact sn _ | refine sc rfl ?_))
    · skip
      refine T.skip ?_
      refine X.then ?_
      refine T.seq ?_
      refine T.block ?_
      refine T.seq ?_
      refine T.text [.l] rfl ?_
      refine J.assign rfl rfl ?_
      refine J.end ?_
      refine X.then ?_
      refine T.block ?_
      refine T.asE 401 (⟨some u1, 25, rowW (List.replicate 0 (mkw 1) ++ zs.drop 0)⟩) rfl rfl ?_
      refine T.loop (ι := Nat) (fun (k : Nat) => k ≤ zs.length) (fun (k : Nat) => [(1, r53.val bs.length), (7, .pointer (some ⟨g, 0, none⟩)), (8, r.val zs.length), (9, .pointer (some ⟨g43, 0, none⟩)), (10, W9.val (2 * 2)), (11, B9.val (3 * 2)), (20, .int .i64 ((1 : Nat) : Int)), (21, .int .i64 ((k : Nat) : Int))]) (fun (k : Nat) => [(100, ⟨some g, 89, stkM S ((zs.length : Nat) : Int)⟩), (101, r.ent 25 (rowW zs)), (43, ⟨some g43, 99, [i60.val mm.length]⟩), (44, i60.ent 5 (rowN .u8 mm)), (50, r53.ent 5 (rowN .u8 bs)), (10, W9.ent 32 [slv (some u0) zs.length, slv (some u1) zs.length, slv (some u2) zs.length, slv (some u3) zs.length]), (11, B9.ent 22 [slv (some s0) bs.length, slv (some s1) rb.length, slv (some s2) bs.length, slv (some s3) bs.length, slv (some s4) rb.length, slv (some s5) bs.length]), (410, ⟨some s0, 5, rowN .u8 bs⟩), (411, ⟨some s1, 5, rowN .u8 rb⟩), (412, ⟨some s2, 5, rowN .u8 bs⟩), (413, ⟨some s3, 5, rowN .u8 bs⟩), (414, ⟨some s4, 5, rowN .u8 rb⟩), (415, ⟨some s5, 5, rowN .u8 bs⟩), (400, ⟨some u0, 25, rowW (sel (0 < 1) (List.replicate zs.length (mkw 0)) zs)⟩), (402, ⟨some u2, 25, rowW (sel (2 < 1) (List.replicate zs.length (mkw 2)) zs)⟩), (403, ⟨some u3, 25, rowW (sel (3 < 1) (List.replicate zs.length (mkw 3)) zs)⟩), (401, ⟨some u1, 25, rowW (List.replicate k (mkw 1) ++ zs.drop k)⟩)]) (fun (k : Nat) => zs.length - k) 0 (Nat.zero_le _) (by repeat (first | exact sn _ | refine sc rfl ?_)) (by repeat (first | exact sn _ | refine sc rfl ?_)) ?_
      rintro k hk
      refine T.seq ?_
      refine T.seq ?_
      refine T.text [.l, .l, .l, .l, .l, .l, .l] rfl ?_
      refine J.move rfl rfl ?_
      refine J.move rfl rfl ?_
      refine J.move rfl rfl ?_
      refine J.indexRow sl83 rfl (hr.some (by omega)) rfl (by omega) (by omega) (by first | exact Int.toNat_natCast _ | rfl) rfl ?_
      refine J.load1 (k := .l) trivial 10 rfl rfl one32 rfl rfl ?_
      refine J.lenSl Try.underlying32 rfl rfl ?_
      refine J.lss rfl rfl rfl rfl ?_
      refine J.end ?_
      refine X.then ?_
      refine T.cond_dec rfl (fun h5 => ?_) (fun h5 => ?_)
      · have hk2 : k < zs.length := by omega
        refine T.skip ?_
        refine X.then ?_
        refine T.seq ?_
        refine T.block ?_
        refine T.text [.l, .l, .l, .l, .l, .l, .l, .l, .l, .l, .l] rfl ?_
        refine J.move rfl rfl ?_
        refine J.move rfl rfl ?_
        refine J.indexRow sl83 rfl (hr.some (by omega)) rfl (by omega) (by omega) (by first | exact Int.toNat_natCast _ | rfl) rfl ?_
        refine J.load1 (k := .l) trivial 10 rfl rfl one32 rfl rfl ?_
        refine J.move rfl rfl ?_
        refine J.move rfl rfl ?_
        refine J.add rfl rfl rfl (show _ = (1001 : Int) by rfl) ?_
        refine J.conv (by rw [Try.underlying3]; rfl) Try.underlying23 rfl rfl (show _ = (1001 : Int) by rfl) ?_
        refine J.build rfl rfl (W (mkw 1)) (fun w => by kernel_rfl) ?_
        refine J.indexSlB sl32 rfl rfl (by omega) (by omega) (by first | exact Int.toNat_natCast _ | rfl) rfl ?_
        refine J.store 401 rfl rfl rfl rfl (wc (mkw 1)) rfl sz25 (by show _ ≤ (rowW _).length; rw [rowW_length, List.length_append, List.length_replicate, List.length_drop]; show _ + 4 ≤ _; omega) (rowN_one _ _) (by show 0 < 4; omega) trivial (rowW (List.replicate (k + 1) (mkw 1) ++ zs.drop (k + 1))) (by rw [Nat.zero_add]; exact fillW k (mkw 1) zs hk2) ?_
        refine J.end ?_
        refine X.inBlock (X.then ?_)
        refine T.text [.l, .l, .l] rfl ?_
        refine J.move rfl rfl ?_
        refine J.add rfl rfl rfl (by first | exact add_nat _ 1 (by omega) | exact i64_ok _ (by omega) | exact rfl) ?_
        refine J.assign rfl rfl ?_
        refine J.end ?_
        exact X.round (k + 1) (by omega) (by first | omega | (dsimp only; omega)) (by repeat (first | exact sn _ | refine sc rfl ?_)) (by repeat (first | exact sn _ | refine sc rfl ?_))
      obtain rfl : k = zs.length := by omega
      refine T.asE 401 ⟨some u1, 25, rowW (List.replicate zs.length (mkw 1))⟩ rfl (by rw [List.drop_length, List.append_nil]) ?_
      refine T.exit ?_
      refine X.then_exit (X.then_exit (X.inBlock_eq (X.inBlock (X.then ?_))))
      refine T.text [.l, .l, .l] rfl ?_
      refine J.move rfl rfl ?_
      refine J.add rfl rfl rfl (by first | exact add_nat _ 1 (by omega) | exact i64_ok _ (by omega) | exact rfl) ?_
      refine J.as 149 (.int .i64 ((2 : Nat) : Int)) rfl (by rfl) ?_
      refine J.assign rfl rfl ?_
      refine J.end ?_
      exact X.round 2 (by first | decide | omega) (by first | omega | (dsimp only; omega)) (by repeat (first | exact sn _ | refine sc rfl ?_)) (by repeat (first | exact sn _ | refine sc rfl ?_))
    · skip
      refine T.skip ?_
      refine X.then ?_
      refine T.seq ?_
      refine T.block ?_
      refine T.seq ?_
      refine T.text [.l] rfl ?_
      refine J.assign rfl rfl ?_
      refine J.end ?_
      refine X.then ?_
      refine T.block ?_
      refine T.asE 402 (⟨some u2, 25, rowW (List.replicate 0 (mkw 2) ++ zs.drop 0)⟩) rfl rfl ?_
      refine T.loop (ι := Nat) (fun (k : Nat) => k ≤ zs.length) (fun (k : Nat) => [(1, r53.val bs.length), (7, .pointer (some ⟨g, 0, none⟩)), (8, r.val zs.length), (9, .pointer (some ⟨g43, 0, none⟩)), (10, W9.val (2 * 2)), (11, B9.val (3 * 2)), (20, .int .i64 ((2 : Nat) : Int)), (21, .int .i64 ((k : Nat) : Int))]) (fun (k : Nat) => [(100, ⟨some g, 89, stkM S ((zs.length : Nat) : Int)⟩), (101, r.ent 25 (rowW zs)), (43, ⟨some g43, 99, [i60.val mm.length]⟩), (44, i60.ent 5 (rowN .u8 mm)), (50, r53.ent 5 (rowN .u8 bs)), (10, W9.ent 32 [slv (some u0) zs.length, slv (some u1) zs.length, slv (some u2) zs.length, slv (some u3) zs.length]), (11, B9.ent 22 [slv (some s0) bs.length, slv (some s1) rb.length, slv (some s2) bs.length, slv (some s3) bs.length, slv (some s4) rb.length, slv (some s5) bs.length]), (410, ⟨some s0, 5, rowN .u8 bs⟩), (411, ⟨some s1, 5, rowN .u8 rb⟩), (412, ⟨some s2, 5, rowN .u8 bs⟩), (413, ⟨some s3, 5, rowN .u8 bs⟩), (414, ⟨some s4, 5, rowN .u8 rb⟩), (415, ⟨some s5, 5, rowN .u8 bs⟩), (400, ⟨some u0, 25, rowW (sel (0 < 2) (List.replicate zs.length (mkw 0)) zs)⟩), (401, ⟨some u1, 25, rowW (sel (1 < 2) (List.replicate zs.length (mkw 1)) zs)⟩), (403, ⟨some u3, 25, rowW (sel (3 < 2) (List.replicate zs.length (mkw 3)) zs)⟩), (402, ⟨some u2, 25, rowW (List.replicate k (mkw 2) ++ zs.drop k)⟩)]) (fun (k : Nat) => zs.length - k) 0 (Nat.zero_le _) (by repeat (first | exact sn _ | refine sc rfl ?_)) (by repeat (first | exact sn _ | refine sc rfl ?_)) ?_
      rintro k hk
      refine T.seq ?_
      refine T.seq ?_
      refine T.text [.l, .l, .l, .l, .l, .l, .l] rfl ?_
      refine J.move rfl rfl ?_
      refine J.move rfl rfl ?_
      refine J.move rfl rfl ?_
      refine J.indexRow sl83 rfl (hr.some (by omega)) rfl (by omega) (by omega) (by first | exact Int.toNat_natCast _ | rfl) rfl ?_
      refine J.load1 (k := .l) trivial 10 rfl rfl one32 rfl rfl ?_
      refine J.lenSl Try.underlying32 rfl rfl ?_
      refine J.lss rfl rfl rfl rfl ?_
      refine J.end ?_
      refine X.then ?_
      refine T.cond_dec rfl (fun h6 => ?_) (fun h6 => ?_)
      · have hk2 : k < zs.length := by omega
        refine T.skip ?_
        refine X.then ?_
        refine T.seq ?_
        refine T.block ?_
        refine T.text [.l, .l, .l, .l, .l, .l, .l, .l, .l, .l, .l] rfl ?_
        refine J.move rfl rfl ?_
        refine J.move rfl rfl ?_
        refine J.indexRow sl83 rfl (hr.some (by omega)) rfl (by omega) (by omega) (by first | exact Int.toNat_natCast _ | rfl) rfl ?_
        refine J.load1 (k := .l) trivial 10 rfl rfl one32 rfl rfl ?_
        refine J.move rfl rfl ?_
        refine J.move rfl rfl ?_
        refine J.add rfl rfl rfl (show _ = (1002 : Int) by rfl) ?_
        refine J.conv (by rw [Try.underlying3]; rfl) Try.underlying23 rfl rfl (show _ = (1002 : Int) by rfl) ?_
        refine J.build rfl rfl (W (mkw 2)) (fun w => by kernel_rfl) ?_
        refine J.indexSlB sl32 rfl rfl (by omega) (by omega) (by first | exact Int.toNat_natCast _ | rfl) rfl ?_
        refine J.store 402 rfl rfl rfl rfl (wc (mkw 2)) rfl sz25 (by show _ ≤ (rowW _).length; rw [rowW_length, List.length_append, List.length_replicate, List.length_drop]; show _ + 4 ≤ _; omega) (rowN_one _ _) (by show 0 < 4; omega) trivial (rowW (List.replicate (k + 1) (mkw 2) ++ zs.drop (k + 1))) (by rw [Nat.zero_add]; exact fillW k (mkw 2) zs hk2) ?_
        refine J.end ?_
        refine X.inBlock (X.then ?_)
        refine T.text [.l, .l, .l] rfl ?_
        refine J.move rfl rfl ?_
        refine J.add rfl rfl rfl (by first | exact add_nat _ 1 (by omega) | exact i64_ok _ (by omega) | exact rfl) ?_
        refine J.assign rfl rfl ?_
        refine J.end ?_
        exact X.round (k + 1) (by omega) (by first | omega | (dsimp only; omega)) (by repeat (first | exact sn _ | refine sc rfl ?_)) (by repeat (first | exact sn _ | refine sc rfl ?_))
      obtain rfl : k = zs.length := by omega
      refine T.asE 402 ⟨some u2, 25, rowW (List.replicate zs.length (mkw 2))⟩ rfl (by rw [List.drop_length, List.append_nil]) ?_
      refine T.exit ?_
      refine X.then_exit (X.then_exit (X.inBlock_eq (X.inBlock (X.then ?_))))
      refine T.text [.l, .l, .l] rfl ?_
      refine J.move rfl rfl ?_
      refine J.add rfl rfl rfl (by first | exact add_nat _ 1 (by omega) | exact i64_ok _ (by omega) | exact rfl) ?_
      refine J.as 149 (.int .i64 ((3 : Nat) : Int)) rfl (by rfl) ?_
      refine J.assign rfl rfl ?_
      refine J.end ?_
      exact X.round 3 (by first | decide | omega) (by first | omega | (dsimp only; omega)) (by repeat (first | exact sn _ | refine sc rfl ?_)) (by repeat (first | exact sn _ | refine sc rfl ?_))
    · skip
      refine T.skip ?_
      refine X.then ?_
      refine T.seq ?_
      refine T.block ?_
      refine T.seq ?_
      refine T.text [.l] rfl ?_
      refine J.assign rfl rfl ?_
      refine J.end ?_
      refine X.then ?_
      refine T.block ?_
      refine T.asE 403 (⟨some u3, 25, rowW (List.replicate 0 (mkw 3) ++ zs.drop 0)⟩) rfl rfl ?_
      refine T.loop (ι := Nat) (fun (k : Nat) => k ≤ zs.length) (fun (k : Nat) => [(1, r53.val bs.length), (7, .pointer (some ⟨g, 0, none⟩)), (8, r.val zs.length), (9, .pointer (some ⟨g43, 0, none⟩)), (10, W9.val (2 * 2)), (11, B9.val (3 * 2)), (20, .int .i64 ((3 : Nat) : Int)), (21, .int .i64 ((k : Nat) : Int))]) (fun (k : Nat) => [(100, ⟨some g, 89, stkM S ((zs.length : Nat) : Int)⟩), (101, r.ent 25 (rowW zs)), (43, ⟨some g43, 99, [i60.val mm.length]⟩), (44, i60.ent 5 (rowN .u8 mm)), (50, r53.ent 5 (rowN .u8 bs)), (10, W9.ent 32 [slv (some u0) zs.length, slv (some u1) zs.length, slv (some u2) zs.length, slv (some u3) zs.length]), (11, B9.ent 22 [slv (some s0) bs.length, slv (some s1) rb.length, slv (some s2) bs.length, slv (some s3) bs.length, slv (some s4) rb.length, slv (some s5) bs.length]), (410, ⟨some s0, 5, rowN .u8 bs⟩), (411, ⟨some s1, 5, rowN .u8 rb⟩), (412, ⟨some s2, 5, rowN .u8 bs⟩), (413, ⟨some s3, 5, rowN .u8 bs⟩), (414, ⟨some s4, 5, rowN .u8 rb⟩), (415, ⟨some s5, 5, rowN .u8 bs⟩), (400, ⟨some u0, 25, rowW (sel (0 < 3) (List.replicate zs.length (mkw 0)) zs)⟩), (401, ⟨some u1, 25, rowW (sel (1 < 3) (List.replicate zs.length (mkw 1)) zs)⟩), (402, ⟨some u2, 25, rowW (sel (2 < 3) (List.replicate zs.length (mkw 2)) zs)⟩), (403, ⟨some u3, 25, rowW (List.replicate k (mkw 3) ++ zs.drop k)⟩)]) (fun (k : Nat) => zs.length - k) 0 (Nat.zero_le _) (by repeat (first | exact sn _ | refine sc rfl ?_)) (by repeat (first | exact sn _ | refine sc rfl ?_)) ?_
      rintro k hk
      refine T.seq ?_
      refine T.seq ?_
      refine T.text [.l, .l, .l, .l, .l, .l, .l] rfl ?_
      refine J.move rfl rfl ?_
      refine J.move rfl rfl ?_
      refine J.move rfl rfl ?_
      refine J.indexRow sl83 rfl (hr.some (by omega)) rfl (by omega) (by omega) (by first | exact Int.toNat_natCast _ | rfl) rfl ?_
      refine J.load1 (k := .l) trivial 10 rfl rfl one32 rfl rfl ?_
      refine J.lenSl Try.underlying32 rfl rfl ?_
      refine J.lss rfl rfl rfl rfl ?_
      refine J.end ?_
      refine X.then ?_
      refine T.cond_dec rfl (fun h7 => ?_) (fun h7 => ?_)
      · have hk2 : k < zs.length := by omega
        refine T.skip ?_
        refine X.then ?_
        refine T.seq ?_
        refine T.block ?_
        refine T.text [.l, .l, .l, .l, .l, .l, .l, .l, .l, .l, .l] rfl ?_
        refine J.move rfl rfl ?_
        refine J.move rfl rfl ?_
        refine J.indexRow sl83 rfl (hr.some (by omega)) rfl (by omega) (by omega) (by first | exact Int.toNat_natCast _ | rfl) rfl ?_
        refine J.load1 (k := .l) trivial 10 rfl rfl one32 rfl rfl ?_
        refine J.move rfl rfl ?_
        refine J.move rfl rfl ?_
        refine J.add rfl rfl rfl (show _ = (1003 : Int) by rfl) ?_
        refine J.conv (by rw [Try.underlying3]; rfl) Try.underlying23 rfl rfl (show _ = (1003 : Int) by rfl) ?_
        refine J.build rfl rfl (W (mkw 3)) (fun w => by kernel_rfl) ?_
        refine J.indexSlB sl32 rfl rfl (by omega) (by omega) (by first | exact Int.toNat_natCast _ | rfl) rfl ?_
        refine J.store 403 rfl rfl rfl rfl (wc (mkw 3)) rfl sz25 (by show _ ≤ (rowW _).length; rw [rowW_length, List.length_append, List.length_replicate, List.length_drop]; show _ + 4 ≤ _; omega) (rowN_one _ _) (by show 0 < 4; omega) trivial (rowW (List.replicate (k + 1) (mkw 3) ++ zs.drop (k + 1))) (by rw [Nat.zero_add]; exact fillW k (mkw 3) zs hk2) ?_
        refine J.end ?_
        refine X.inBlock (X.then ?_)
        refine T.text [.l, .l, .l] rfl ?_
        refine J.move rfl rfl ?_
        refine J.add rfl rfl rfl (by first | exact add_nat _ 1 (by omega) | exact i64_ok _ (by omega) | exact rfl) ?_
        refine J.assign rfl rfl ?_
        refine J.end ?_
        exact X.round (k + 1) (by omega) (by first | omega | (dsimp only; omega)) (by repeat (first | exact sn _ | refine sc rfl ?_)) (by repeat (first | exact sn _ | refine sc rfl ?_))
      obtain rfl : k = zs.length := by omega
      refine T.asE 403 ⟨some u3, 25, rowW (List.replicate zs.length (mkw 3))⟩ rfl (by rw [List.drop_length, List.append_nil]) ?_
      refine T.exit ?_
      refine X.then_exit (X.then_exit (X.inBlock_eq (X.inBlock (X.then ?_))))
      refine T.text [.l, .l, .l] rfl ?_
      refine J.move rfl rfl ?_
      refine J.add rfl rfl rfl (by first | exact add_nat _ 1 (by omega) | exact i64_ok _ (by omega) | exact rfl) ?_
      refine J.as 149 (.int .i64 ((4 : Nat) : Int)) rfl (by rfl) ?_
      refine J.assign rfl rfl ?_
      refine J.end ?_
      exact X.round 4 (by first | decide | omega) (by first | omega | (dsimp only; omega)) (by repeat (first | exact sn _ | refine sc rfl ?_)) (by repeat (first | exact sn _ | refine sc rfl ?_))
  obtain rfl : i = 4 := by omega
  refine T.asE 400 (eW 25 u0 zs.length 0) rfl rfl ?_
  refine T.asE 401 (eW 25 u1 zs.length 1) rfl rfl ?_
  refine T.asE 402 (eW 25 u2 zs.length 2) rfl rfl ?_
  refine T.asE 403 (eW 25 u3 zs.length 3) rfl rfl ?_
  refine T.exit ?_
  refine X.then_exit (X.then_exit (X.inBlock_eq (X.then ?_)))
  refine T.seq ?_
  refine T.seq ?_
  refine T.text [.l] rfl ?_
  refine J.assign rfl rfl ?_
  refine J.end ?_
  refine X.then ?_
  refine T.block ?_
  refine T.loop (ι := Nat) (fun (i : Nat) => i ≤ 6) (fun (i : Nat) => [(1, r53.val bs.length), (7, .pointer (some ⟨g, 0, none⟩)), (8, r.val zs.length), (9, .pointer (some ⟨g43, 0, none⟩)), (10, W9.val (2 * 2)), (11, B9.val (3 * 2)), (22, .int .i64 ((i : Nat) : Int))]) (fun (i : Nat) => [(100, ⟨some g, 89, stkM S ((zs.length : Nat) : Int)⟩), (101, r.ent 25 (rowW zs)), (43, ⟨some g43, 99, [i60.val mm.length]⟩), (44, i60.ent 5 (rowN .u8 mm)), (50, r53.ent 5 (rowN .u8 bs)), (10, W9.ent 32 [slv (some u0) zs.length, slv (some u1) zs.length, slv (some u2) zs.length, slv (some u3) zs.length]), (11, B9.ent 22 [slv (some s0) bs.length, slv (some s1) rb.length, slv (some s2) bs.length, slv (some s3) bs.length, slv (some s4) rb.length, slv (some s5) bs.length]), (400, eW 25 u0 zs.length 0), (401, eW 25 u1 zs.length 1), (402, eW 25 u2 zs.length 2), (403, eW 25 u3 zs.length 3), (410, ⟨some s0, 5, rowN .u8 (sel (0 < i) (List.replicate bs.length 50) bs)⟩), (411, ⟨some s1, 5, rowN .u8 (sel (1 < i) (List.replicate rb.length 51) rb)⟩), (412, ⟨some s2, 5, rowN .u8 (sel (2 < i) (List.replicate bs.length 52) bs)⟩), (413, ⟨some s3, 5, rowN .u8 (sel (3 < i) (List.replicate bs.length 53) bs)⟩), (414, ⟨some s4, 5, rowN .u8 (sel (4 < i) (List.replicate rb.length 54) rb)⟩), (415, ⟨some s5, 5, rowN .u8 (sel (5 < i) (List.replicate bs.length 55) bs)⟩)]) (fun (i : Nat) => 6 - i) 0 (Nat.zero_le _) (by repeat (first | exact sn _ | refine sc rfl ?_)) (by repeat (first | exact sn _ | refine sc rfl ?_)) ?_
  rintro i hi
  refine T.seq ?_
  refine T.seq ?_
  refine T.text [.l, .l, .l, .l] rfl ?_
  refine J.move rfl rfl ?_
  refine J.move rfl rfl ?_
  refine J.lenSl Try.underlying84 rfl rfl ?_
  refine J.lss rfl rfl rfl rfl ?_
  refine J.end ?_
  refine X.then ?_
  refine T.cond_dec rfl (fun h8 => ?_) (fun h8 => ?_)
  · rcases (show i = 0 ∨ i = 1 ∨ i = 2 ∨ i = 3 ∨ i = 4 ∨ i = 5 from by omega) with rfl | rfl | rfl | rfl | rfl | rfl
    · skip
      refine T.skip ?_
      refine X.then ?_
      refine T.seq ?_
      refine T.block ?_
      refine T.seq ?_
      refine T.text [.l] rfl ?_
      refine J.assign rfl rfl ?_
      refine J.end ?_
      refine X.then ?_
      refine T.block ?_
      refine T.asE 410 (⟨some s0, 5, rowN .u8 (List.replicate 0 50 ++ bs.drop 0)⟩) rfl rfl ?_
      refine T.loop (ι := Nat) (fun (k : Nat) => k ≤ bs.length) (fun (k : Nat) => [(1, r53.val bs.length), (7, .pointer (some ⟨g, 0, none⟩)), (8, r.val zs.length), (9, .pointer (some ⟨g43, 0, none⟩)), (10, W9.val (2 * 2)), (11, B9.val (3 * 2)), (22, .int .i64 ((0 : Nat) : Int)), (23, .int .i64 ((k : Nat) : Int))]) (fun (k : Nat) => [(100, ⟨some g, 89, stkM S ((zs.length : Nat) : Int)⟩), (101, r.ent 25 (rowW zs)), (43, ⟨some g43, 99, [i60.val mm.length]⟩), (44, i60.ent 5 (rowN .u8 mm)), (50, r53.ent 5 (rowN .u8 bs)), (10, W9.ent 32 [slv (some u0) zs.length, slv (some u1) zs.length, slv (some u2) zs.length, slv (some u3) zs.length]), (11, B9.ent 22 [slv (some s0) bs.length, slv (some s1) rb.length, slv (some s2) bs.length, slv (some s3) bs.length, slv (some s4) rb.length, slv (some s5) bs.length]), (400, eW 25 u0 zs.length 0), (401, eW 25 u1 zs.length 1), (402, eW 25 u2 zs.length 2), (403, eW 25 u3 zs.length 3), (411, ⟨some s1, 5, rowN .u8 (sel (1 < 0) (List.replicate rb.length 51) rb)⟩), (412, ⟨some s2, 5, rowN .u8 (sel (2 < 0) (List.replicate bs.length 52) bs)⟩), (413, ⟨some s3, 5, rowN .u8 (sel (3 < 0) (List.replicate bs.length 53) bs)⟩), (414, ⟨some s4, 5, rowN .u8 (sel (4 < 0) (List.replicate rb.length 54) rb)⟩), (415, ⟨some s5, 5, rowN .u8 (sel (5 < 0) (List.replicate bs.length 55) bs)⟩), (410, ⟨some s0, 5, rowN .u8 (List.replicate k 50 ++ bs.drop k)⟩)]) (fun (k : Nat) => bs.length - k) 0 (Nat.zero_le _) (by repeat (first | exact sn _ | refine sc rfl ?_)) (by repeat (first | exact sn _ | refine sc rfl ?_)) ?_
      rintro k hk
      refine T.seq ?_
      refine T.seq ?_
      refine T.text [.l, .l, .l, .l, .l, .l, .l] rfl ?_
      refine J.move rfl rfl ?_
      refine J.move rfl rfl ?_
      refine J.move rfl rfl ?_
      refine J.indexRow sl84 rfl (hq11.some (by omega)) rfl (by omega) (by omega) (by first | exact Int.toNat_natCast _ | rfl) rfl ?_
      refine J.load1 (k := .l) trivial 11 rfl rfl one22 rfl rfl ?_
      refine J.lenSl Try.underlying22 rfl rfl ?_
      refine J.lss rfl rfl rfl rfl ?_
      refine J.end ?_
      refine X.then ?_
      refine T.cond_dec rfl (fun h9 => ?_) (fun h9 => ?_)
      · have hk2 : k < bs.length := by omega
        refine T.skip ?_
        refine X.then ?_
        refine T.seq ?_
        refine T.block ?_
        refine T.text [.l, .l, .l, .l, .l, .l, .l, .l, .l, .l] rfl ?_
        refine J.move rfl rfl ?_
        refine J.move rfl rfl ?_
        refine J.indexRow sl84 rfl (hq11.some (by omega)) rfl (by omega) (by omega) (by first | exact Int.toNat_natCast _ | rfl) rfl ?_
        refine J.load1 (k := .l) trivial 11 rfl rfl one22 rfl rfl ?_
        refine J.move rfl rfl ?_
        refine J.move rfl rfl ?_
        refine J.add rfl rfl rfl (show _ = (50 : Int) by rfl) ?_
        refine J.conv (by rw [Try.underlying3]; rfl) Try.underlying5 rfl rfl (show _ = (50 : Int) by rfl) ?_
        refine J.indexSlB sl22 rfl rfl (by omega) (by omega) (by first | exact Int.toNat_natCast _ | rfl) rfl ?_
        refine J.store 410 rfl rfl rfl rfl [.int .u8 ((50 : Nat) : Int)] rfl sz5 (by show _ ≤ (rowN .u8 _).length; rw [rowN_length, List.length_append, List.length_replicate, List.length_drop]; show _ + 1 ≤ _; omega) (by intro u hu; rw [List.mem_singleton.1 hu]; rfl) (by show 0 < 1; omega) trivial (rowN .u8 (List.replicate (k + 1) 50 ++ bs.drop (k + 1))) (by rw [Nat.zero_add]; exact fillN k 50 bs hk2) ?_
        refine J.end ?_
        refine X.inBlock (X.then ?_)
        refine T.text [.l, .l, .l] rfl ?_
        refine J.move rfl rfl ?_
        refine J.add rfl rfl rfl (by first | exact add_nat _ 1 (by omega) | exact i64_ok _ (by omega) | exact rfl) ?_
        refine J.assign rfl rfl ?_
        refine J.end ?_
        exact X.round (k + 1) (by omega) (by first | omega | (dsimp only; omega)) (by repeat (first | exact sn _ | refine sc rfl ?_)) (by repeat (first | exact sn _ | refine sc rfl ?_))
      obtain rfl : k = bs.length := by omega
      refine T.asE 410 ⟨some s0, 5, rowN .u8 (List.replicate bs.length 50)⟩ rfl (by rw [List.drop_length, List.append_nil]) ?_
      refine T.exit ?_
      refine X.then_exit (X.then_exit (X.inBlock_eq (X.inBlock (X.then ?_))))
      refine T.text [.l, .l, .l] rfl ?_
      refine J.move rfl rfl ?_
      refine J.add rfl rfl rfl (by first | exact add_nat _ 1 (by omega) | exact i64_ok _ (by omega) | exact rfl) ?_
      refine J.as 174 (.int .i64 ((1 : Nat) : Int)) rfl (by rfl) ?_
      refine J.assign rfl rfl ?_
      refine J.end ?_
      exact X.round 1 (by first | decide | omega) (by first | omega | (dsimp only; omega)) (by repeat (first | exact sn _ | refine sc rfl ?_)) (by repeat (first | exact sn _ | refine sc rfl ?_))
    · skip
      refine T.skip ?_
      refine X.then ?_
      refine T.seq ?_
      refine T.block ?_
      refine T.seq ?_
      refine T.text [.l] rfl ?_
      refine J.assign rfl rfl ?_
      refine J.end ?_
      refine X.then ?_
      refine T.block ?_
      refine T.asE 411 (⟨some s1, 5, rowN .u8 (List.replicate 0 51 ++ rb.drop 0)⟩) rfl rfl ?_
      refine T.loop (ι := Nat) (fun (k : Nat) => k ≤ rb.length) (fun (k : Nat) => [(1, r53.val bs.length), (7, .pointer (some ⟨g, 0, none⟩)), (8, r.val zs.length), (9, .pointer (some ⟨g43, 0, none⟩)), (10, W9.val (2 * 2)), (11, B9.val (3 * 2)), (22, .int .i64 ((1 : Nat) : Int)), (23, .int .i64 ((k : Nat) : Int))]) (fun (k : Nat) => [(100, ⟨some g, 89, stkM S ((zs.length : Nat) : Int)⟩), (101, r.ent 25 (rowW zs)), (43, ⟨some g43, 99, [i60.val mm.length]⟩), (44, i60.ent 5 (rowN .u8 mm)), (50, r53.ent 5 (rowN .u8 bs)), (10, W9.ent 32 [slv (some u0) zs.length, slv (some u1) zs.length, slv (some u2) zs.length, slv (some u3) zs.length]), (11, B9.ent 22 [slv (some s0) bs.length, slv (some s1) rb.length, slv (some s2) bs.length, slv (some s3) bs.length, slv (some s4) rb.length, slv (some s5) bs.length]), (400, eW 25 u0 zs.length 0), (401, eW 25 u1 zs.length 1), (402, eW 25 u2 zs.length 2), (403, eW 25 u3 zs.length 3), (410, ⟨some s0, 5, rowN .u8 (sel (0 < 1) (List.replicate bs.length 50) bs)⟩), (412, ⟨some s2, 5, rowN .u8 (sel (2 < 1) (List.replicate bs.length 52) bs)⟩), (413, ⟨some s3, 5, rowN .u8 (sel (3 < 1) (List.replicate bs.length 53) bs)⟩), (414, ⟨some s4, 5, rowN .u8 (sel (4 < 1) (List.replicate rb.length 54) rb)⟩), (415, ⟨some s5, 5, rowN .u8 (sel (5 < 1) (List.replicate bs.length 55) bs)⟩), (411, ⟨some s1, 5, rowN .u8 (List.replicate k 51 ++ rb.drop k)⟩)]) (fun (k : Nat) => rb.length - k) 0 (Nat.zero_le _) (by repeat (first | exact sn _ | refine sc rfl ?_)) (by repeat (first | exact sn _ | refine sc rfl ?_)) ?_
      rintro k hk
      refine T.seq ?_
      refine T.seq ?_
      refine T.text [.l, .l, .l, .l, .l, .l, .l] rfl ?_
      refine J.move rfl rfl ?_
      refine J.move rfl rfl ?_
      refine J.move rfl rfl ?_
      refine J.indexRow sl84 rfl (hq11.some (by omega)) rfl (by omega) (by omega) (by first | exact Int.toNat_natCast _ | rfl) rfl ?_
      refine J.load1 (k := .l) trivial 11 rfl rfl one22 rfl rfl ?_
      refine J.lenSl Try.underlying22 rfl rfl ?_
      refine J.lss rfl rfl rfl rfl ?_
      refine J.end ?_
      refine X.then ?_
      refine T.cond_dec rfl (fun h10 => ?_) (fun h10 => ?_)
      · have hk2 : k < rb.length := by omega
        refine T.skip ?_
        refine X.then ?_
        refine T.seq ?_
        refine T.block ?_
        refine T.text [.l, .l, .l, .l, .l, .l, .l, .l, .l, .l] rfl ?_
        refine J.move rfl rfl ?_
        refine J.move rfl rfl ?_
        refine J.indexRow sl84 rfl (hq11.some (by omega)) rfl (by omega) (by omega) (by first | exact Int.toNat_natCast _ | rfl) rfl ?_
        refine J.load1 (k := .l) trivial 11 rfl rfl one22 rfl rfl ?_
        refine J.move rfl rfl ?_
        refine J.move rfl rfl ?_
        refine J.add rfl rfl rfl (show _ = (51 : Int) by rfl) ?_
        refine J.conv (by rw [Try.underlying3]; rfl) Try.underlying5 rfl rfl (show _ = (51 : Int) by rfl) ?_
        refine J.indexSlB sl22 rfl rfl (by omega) (by omega) (by first | exact Int.toNat_natCast _ | rfl) rfl ?_
        refine J.store 411 rfl rfl rfl rfl [.int .u8 ((51 : Nat) : Int)] rfl sz5 (by show _ ≤ (rowN .u8 _).length; rw [rowN_length, List.length_append, List.length_replicate, List.length_drop]; show _ + 1 ≤ _; omega) (by intro u hu; rw [List.mem_singleton.1 hu]; rfl) (by show 0 < 1; omega) trivial (rowN .u8 (List.replicate (k + 1) 51 ++ rb.drop (k + 1))) (by rw [Nat.zero_add]; exact fillN k 51 rb hk2) ?_
        refine J.end ?_
        refine X.inBlock (X.then ?_)
        refine T.text [.l, .l, .l] rfl ?_
        refine J.move rfl rfl ?_
        refine J.add rfl rfl rfl (by first | exact add_nat _ 1 (by omega) | exact i64_ok _ (by omega) | exact rfl) ?_
        refine J.assign rfl rfl ?_
        refine J.end ?_
        exact X.round (k + 1) (by omega) (by first | omega | (dsimp only; omega)) (by repeat (first | exact sn _ | refine sc rfl ?_)) (by repeat (first | exact sn _ | refine sc rfl ?_))
      obtain rfl : k = rb.length := by omega
      refine T.asE 411 ⟨some s1, 5, rowN .u8 (List.replicate rb.length 51)⟩ rfl (by rw [List.drop_length, List.append_nil]) ?_
      refine T.exit ?_
      refine X.then_exit (X.then_exit (X.inBlock_eq (X.inBlock (X.then ?_))))
      refine T.text [.l, .l, .l] rfl ?_
      refine J.move rfl rfl ?_
      refine J.add rfl rfl rfl (by first | exact add_nat _ 1 (by omega) | exact i64_ok _ (by omega) | exact rfl) ?_
      refine J.as 174 (.int .i64 ((2 : Nat) : Int)) rfl (by rfl) ?_
      refine J.assign rfl rfl ?_
      refine J.end ?_
      exact X.round 2 (by first | decide | omega) (by first | omega | (dsimp only; omega)) (by repeat (first | exact sn _ | refine sc rfl ?_)) (by repeat (first | exact sn _ | refine sc rfl ?_))
    · skip
      refine T.skip ?_
      refine X.then ?_
      refine T.seq ?_
      refine T.block ?_
      refine T.seq ?_
      refine T.text [.l] rfl ?_
      refine J.assign rfl rfl ?_
      refine J.end ?_
      refine X.then ?_
      refine T.block ?_
      refine T.asE 412 (⟨some s2, 5, rowN .u8 (List.replicate 0 52 ++ bs.drop 0)⟩) rfl rfl ?_
      refine T.loop (ι := Nat) (fun (k : Nat) => k ≤ bs.length) (fun (k : Nat) => [(1, r53.val bs.length), (7, .pointer (some ⟨g, 0, none⟩)), (8, r.val zs.length), (9, .pointer (some ⟨g43, 0, none⟩)), (10, W9.val (2 * 2)), (11, B9.val (3 * 2)), (22, .int .i64 ((2 : Nat) : Int)), (23, .int .i64 ((k : Nat) : Int))]) (fun (k : Nat) => [(100, ⟨some g, 89, stkM S ((zs.length : Nat) : Int)⟩), (101, r.ent 25 (rowW zs)), (43, ⟨some g43, 99, [i60.val mm.length]⟩), (44, i60.ent 5 (rowN .u8 mm)), (50, r53.ent 5 (rowN .u8 bs)), (10, W9.ent 32 [slv (some u0) zs.length, slv (some u1) zs.length, slv (some u2) zs.length, slv (some u3) zs.length]), (11, B9.ent 22 [slv (some s0) bs.length, slv (some s1) rb.length, slv (some s2) bs.length, slv (some s3) bs.length, slv (some s4) rb.length, slv (some s5) bs.length]), (400, eW 25 u0 zs.length 0), (401, eW 25 u1 zs.length 1), (402, eW 25 u2 zs.length 2), (403, eW 25 u3 zs.length 3), (410, ⟨some s0, 5, rowN .u8 (sel (0 < 2) (List.replicate bs.length 50) bs)⟩), (411, ⟨some s1, 5, rowN .u8 (sel (1 < 2) (List.replicate rb.length 51) rb)⟩), (413, ⟨some s3, 5, rowN .u8 (sel (3 < 2) (List.replicate bs.length 53) bs)⟩), (414, ⟨some s4, 5, rowN .u8 (sel (4 < 2) (List.replicate rb.length 54) rb)⟩), (415, ⟨some s5, 5, rowN .u8 (sel (5 < 2) (List.replicate bs.length 55) bs)⟩), (412, ⟨some s2, 5, rowN .u8 (List.replicate k 52 ++ bs.drop k)⟩)]) (fun (k : Nat) => bs.length - k) 0 (Nat.zero_le _) (by repeat (first | exact sn _ | refine sc rfl ?_)) (by repeat (first | exact sn _ | refine sc rfl ?_)) ?_
      rintro k hk
      refine T.seq ?_
      refine T.seq ?_
      refine T.text [.l, .l, .l, .l, .l, .l, .l] rfl ?_
      refine J.move rfl rfl ?_
      refine J.move rfl rfl ?_
      refine J.move rfl rfl ?_
      refine J.indexRow sl84 rfl (hq11.some (by omega)) rfl (by omega) (by omega) (by first | exact Int.toNat_natCast _ | rfl) rfl ?_
      refine J.load1 (k := .l) trivial 11 rfl rfl one22 rfl rfl ?_
      refine J.lenSl Try.underlying22 rfl rfl ?_
      refine J.lss rfl rfl rfl rfl ?_
      refine J.end ?_
      refine X.then ?_
      refine T.cond_dec rfl (fun h11 => ?_) (fun h11 => ?_)
      · have hk2 : k < bs.length := by omega
        refine T.skip ?_
        refine X.then ?_
        refine T.seq ?_
        refine T.block ?_
        refine T.text [.l, .l, .l, .l, .l, .l, .l, .l, .l, .l] rfl ?_
        refine J.move rfl rfl ?_
        refine J.move rfl rfl ?_
        refine J.indexRow sl84 rfl (hq11.some (by omega)) rfl (by omega) (by omega) (by first | exact Int.toNat_natCast _ | rfl) rfl ?_
        refine J.load1 (k := .l) trivial 11 rfl rfl one22 rfl rfl ?_
        refine J.move rfl rfl ?_
        refine J.move rfl rfl ?_
        refine J.add rfl rfl rfl (show _ = (52 : Int) by rfl) ?_
        refine J.conv (by rw [Try.underlying3]; rfl) Try.underlying5 rfl rfl (show _ = (52 : Int) by rfl) ?_
        refine J.indexSlB sl22 rfl rfl (by omega) (by omega) (by first | exact Int.toNat_natCast _ | rfl) rfl ?_
        refine J.store 412 rfl rfl rfl rfl [.int .u8 ((52 : Nat) : Int)] rfl sz5 (by show _ ≤ (rowN .u8 _).length; rw [rowN_length, List.length_append, List.length_replicate, List.length_drop]; show _ + 1 ≤ _; omega) (by intro u hu; rw [List.mem_singleton.1 hu]; rfl) (by show 0 < 1; omega) trivial (rowN .u8 (List.replicate (k + 1) 52 ++ bs.drop (k + 1))) (by rw [Nat.zero_add]; exact fillN k 52 bs hk2) ?_
        refine J.end ?_
        refine X.inBlock (X.then ?_)
        refine T.text [.l, .l, .l] rfl ?_
        refine J.move rfl rfl ?_
        refine J.add rfl rfl rfl (by first | exact add_nat _ 1 (by omega) | exact i64_ok _ (by omega) | exact rfl) ?_
        refine J.assign rfl rfl ?_
        refine J.end ?_
        exact X.round (k + 1) (by omega) (by first | omega | (dsimp only; omega)) (by repeat (first | exact sn _ | refine sc rfl ?_)) (by repeat (first | exact sn _ | refine sc rfl ?_))
      obtain rfl : k = bs.length := by omega
      refine T.asE 412 ⟨some s2, 5, rowN .u8 (List.replicate bs.length 52)⟩ rfl (by rw [List.drop_length, List.append_nil]) ?_
      refine T.exit ?_
      refine X.then_exit (X.then_exit (X.inBlock_eq (X.inBlock (X.then ?_))))
      refine T.text [.l, .l, .l] rfl ?_
      refine J.move rfl rfl ?_
      refine J.add rfl rfl rfl (by first | exact add_nat _ 1 (by omega) | exact i64_ok _ (by omega) | exact rfl) ?_
      refine J.as 174 (.int .i64 ((3 : Nat) : Int)) rfl (by rfl) ?_
      refine J.assign rfl rfl ?_
      refine J.end ?_
      exact X.round 3 (by first | decide | omega) (by first | omega | (dsimp only; omega)) (by repeat (first | exact sn _ | refine sc rfl ?_)) (by repeat (first | exact sn _ | refine sc rfl ?_))
    · skip
      refine T.skip ?_
      refine X.then ?_
      refine T.seq ?_
      refine T.block ?_
      refine T.seq ?_
      refine T.text [.l] rfl ?_
      refine J.assign rfl rfl ?_
      refine J.end ?_
      refine X.then ?_
      refine T.block ?_
      refine T.asE 413 (⟨some s3, 5, rowN .u8 (List.replicate 0 53 ++ bs.drop 0)⟩) rfl rfl ?_
      refine T.loop (ι := Nat) (fun (k : Nat) => k ≤ bs.length) (fun (k : Nat) => [(1, r53.val bs.length), (7, .pointer (some ⟨g, 0, none⟩)), (8, r.val zs.length), (9, .pointer (some ⟨g43, 0, none⟩)), (10, W9.val (2 * 2)), (11, B9.val (3 * 2)), (22, .int .i64 ((3 : Nat) : Int)), (23, .int .i64 ((k : Nat) : Int))]) (fun (k : Nat) => [(100, ⟨some g, 89, stkM S ((zs.length : Nat) : Int)⟩), (101, r.ent 25 (rowW zs)), (43, ⟨some g43, 99, [i60.val mm.length]⟩), (44, i60.ent 5 (rowN .u8 mm)), (50, r53.ent 5 (rowN .u8 bs)), (10, W9.ent 32 [slv (some u0) zs.length, slv (some u1) zs.length, slv (some u2) zs.length, slv (some u3) zs.length]), (11, B9.ent 22 [slv (some s0) bs.length, slv (some s1) rb.length, slv (some s2) bs.length, slv (some s3) bs.length, slv (some s4) rb.length, slv (some s5) bs.length]), (400, eW 25 u0 zs.length 0), (401, eW 25 u1 zs.length 1), (402, eW 25 u2 zs.length 2), (403, eW 25 u3 zs.length 3), (410, ⟨some s0, 5, rowN .u8 (sel (0 < 3) (List.replicate bs.length 50) bs)⟩), (411, ⟨some s1, 5, rowN .u8 (sel (1 < 3) (List.replicate rb.length 51) rb)⟩), (412, ⟨some s2, 5, rowN .u8 (sel (2 < 3) (List.replicate bs.length 52) bs)⟩), (414, ⟨some s4, 5, rowN .u8 (sel (4 < 3) (List.replicate rb.length 54) rb)⟩), (415, ⟨some s5, 5, rowN .u8 (sel (5 < 3) (List.replicate bs.length 55) bs)⟩), (413, ⟨some s3, 5, rowN .u8 (List.replicate k 53 ++ bs.drop k)⟩)]) (fun (k : Nat) => bs.length - k) 0 (Nat.zero_le _) (by repeat (first | exact sn _ | refine sc rfl ?_)) (by repeat (first | exact sn _ | refine sc rfl ?_)) ?_
      rintro k hk
      refine T.seq ?_
      refine T.seq ?_
      refine T.text [.l, .l, .l, .l, .l, .l, .l] rfl ?_
      refine J.move rfl rfl ?_
      refine J.move rfl rfl ?_
      refine J.move rfl rfl ?_
      refine J.indexRow sl84 rfl (hq11.some (by omega)) rfl (by omega) (by omega) (by first | exact Int.toNat_natCast _ | rfl) rfl ?_
      refine J.load1 (k := .l) trivial 11 rfl rfl one22 rfl rfl ?_
      refine J.lenSl Try.underlying22 rfl rfl ?_
      refine J.lss rfl rfl rfl rfl ?_
      refine J.end ?_
      refine X.then ?_
      refine T.cond_dec rfl (fun h12 => ?_) (fun h12 => ?_)
      · have hk2 : k < bs.length := by omega
        refine T.skip ?_
        refine X.then ?_
        refine T.seq ?_
        refine T.block ?_
        refine T.text [.l, .l, .l, .l, .l, .l, .l, .l, .l, .l] rfl ?_
        refine J.move rfl rfl ?_
        refine J.move rfl rfl ?_
        refine J.indexRow sl84 rfl (hq11.some (by omega)) rfl (by omega) (by omega) (by first | exact Int.toNat_natCast _ | rfl) rfl ?_
        refine J.load1 (k := .l) trivial 11 rfl rfl one22 rfl rfl ?_
        refine J.move rfl rfl ?_
        refine J.move rfl rfl ?_
        refine J.add rfl rfl rfl (show _ = (53 : Int) by rfl) ?_
        refine J.conv (by rw [Try.underlying3]; rfl) Try.underlying5 rfl rfl (show _ = (53 : Int) by rfl) ?_
        refine J.indexSlB sl22 rfl rfl (by omega) (by omega) (by first | exact Int.toNat_natCast _ | rfl) rfl ?_
        refine J.store 413 rfl rfl rfl rfl [.int .u8 ((53 : Nat) : Int)] rfl sz5 (by show _ ≤ (rowN .u8 _).length; rw [rowN_length, List.length_append, List.length_replicate, List.length_drop]; show _ + 1 ≤ _; omega) (by intro u hu; rw [List.mem_singleton.1 hu]; rfl) (by show 0 < 1; omega) trivial (rowN .u8 (List.replicate (k + 1) 53 ++ bs.drop (k + 1))) (by rw [Nat.zero_add]; exact fillN k 53 bs hk2) ?_
        refine J.end ?_
        refine X.inBlock (X.then ?_)
        refine T.text [.l, .l, .l] rfl ?_
        refine J.move rfl rfl ?_
        refine J.add rfl rfl rfl (by first | exact add_nat _ 1 (by omega) | exact i64_ok _ (by omega) | exact rfl) ?_
        refine J.assign rfl rfl ?_
        refine J.end ?_
        exact X.round (k + 1) (by omega) (by first | omega | (dsimp only; omega)) (by repeat (first | exact sn _ | refine sc rfl ?_)) (by repeat (first | exact sn _ | refine sc rfl ?_))
      obtain rfl : k = bs.length := by omega
      refine T.asE 413 ⟨some s3, 5, rowN .u8 (List.replicate bs.length 53)⟩ rfl (by rw [List.drop_length, List.append_nil]) ?_
      refine T.exit ?_
      refine X.then_exit (X.then_exit (X.inBlock_eq (X.inBlock (X.then ?_))))
      refine T.text [.l, .l, .l] rfl ?_
      refine J.move rfl rfl ?_
      refine J.add rfl rfl rfl (by first | exact add_nat _ 1 (by omega) | exact i64_ok _ (by omega) | exact rfl) ?_
      refine J.as 174 (.int .i64 ((4 : Nat) : Int)) rfl (by rfl) ?_
      refine J.assign rfl rfl ?_
      refine J.end ?_
      exact X.round 4 (by first | decide | omega) (by first | omega | (dsimp only; omega)) (by repeat (first | exact sn _ | refine sc rfl ?_)) (by repeat (first | exact sn _ | refine sc rfl ?_))
    · skip
      refine T.skip ?_
      refine X.then ?_
      refine T.seq ?_
      refine T.block ?_
      refine T.seq ?_
      refine T.text [.l] rfl ?_
      refine J.assign rfl rfl ?_
      refine J.end ?_
      refine X.then ?_
      refine T.block ?_
      refine T.asE 414 (⟨some s4, 5, rowN .u8 (List.replicate 0 54 ++ rb.drop 0)⟩) rfl rfl ?_
      refine T.loop (ι := Nat) (fun (k : Nat) => k ≤ rb.length) (fun (k : Nat) => [(1, r53.val bs.length), (7, .pointer (some ⟨g, 0, none⟩)), (8, r.val zs.length), (9, .pointer (some ⟨g43, 0, none⟩)), (10, W9.val (2 * 2)), (11, B9.val (3 * 2)), (22, .int .i64 ((4 : Nat) : Int)), (23, .int .i64 ((k : Nat) : Int))]) (fun (k : Nat) => [(100, ⟨some g, 89, stkM S ((zs.length : Nat) : Int)⟩), (101, r.ent 25 (rowW zs)), (43, ⟨some g43, 99, [i60.val mm.length]⟩), (44, i60.ent 5 (rowN .u8 mm)), (50, r53.ent 5 (rowN .u8 bs)), (10, W9.ent 32 [slv (some u0) zs.length, slv (some u1) zs.length, slv (some u2) zs.length, slv (some u3) zs.length]), (11, B9.ent 22 [slv (some s0) bs.length, slv (some s1) rb.length, slv (some s2) bs.length, slv (some s3) bs.length, slv (some s4) rb.length, slv (some s5) bs.length]), (400, eW 25 u0 zs.length 0), (401, eW 25 u1 zs.length 1), (402, eW 25 u2 zs.length 2), (403, eW 25 u3 zs.length 3), (410, ⟨some s0, 5, rowN .u8 (sel (0 < 4) (List.replicate bs.length 50) bs)⟩), (411, ⟨some s1, 5, rowN .u8 (sel (1 < 4) (List.replicate rb.length 51) rb)⟩), (412, ⟨some s2, 5, rowN .u8 (sel (2 < 4) (List.replicate bs.length 52) bs)⟩), (413, ⟨some s3, 5, rowN .u8 (sel (3 < 4) (List.replicate bs.length 53) bs)⟩), (415, ⟨some s5, 5, rowN .u8 (sel (5 < 4) (List.replicate bs.length 55) bs)⟩), (414, ⟨some s4, 5, rowN .u8 (List.replicate k 54 ++ rb.drop k)⟩)]) (fun (k : Nat) => rb.length - k) 0 (Nat.zero_le _) (by repeat (first | exact sn _ | refine sc rfl ?_)) (by repeat (first | exact sn _ | refine sc rfl ?_)) ?_
      rintro k hk
      refine T.seq ?_
      refine T.seq ?_
      refine T.text [.l, .l, .l, .l, .l, .l, .l] rfl ?_
      refine J.move rfl rfl ?_
      refine J.move rfl rfl ?_
      refine J.move rfl rfl ?_
      refine J.indexRow sl84 rfl (hq11.some (by omega)) rfl (by omega) (by omega) (by first | exact Int.toNat_natCast _ | rfl) rfl ?_
      refine J.load1 (k := .l) trivial 11 rfl rfl one22 rfl rfl ?_
      refine J.lenSl Try.underlying22 rfl rfl ?_
      refine J.lss rfl rfl rfl rfl ?_
      refine J.end ?_
      refine X.then ?_
      refine T.cond_dec rfl (fun h13 => ?_) (fun h13 => ?_)
      · have hk2 : k < rb.length := by omega
        refine T.skip ?_
        refine X.then ?_
        refine T.seq ?_
        refine T.block ?_
        refine T.text [.l, .l, .l, .l, .l, .l, .l, .l, .l, .l] rfl ?_
        refine J.move rfl rfl ?_
        refine J.move rfl rfl ?_
        refine J.indexRow sl84 rfl (hq11.some (by omega)) rfl (by omega) (by omega) (by first | exact Int.toNat_natCast _ | rfl) rfl ?_
        refine J.load1 (k := .l) trivial 11 rfl rfl one22 rfl rfl ?_
        refine J.move rfl rfl ?_
        refine J.move rfl rfl ?_
        refine J.add rfl rfl rfl (show _ = (54 : Int) by rfl) ?_
        refine J.conv (by rw [Try.underlying3]; rfl) Try.underlying5 rfl rfl (show _ = (54 : Int) by rfl) ?_
        refine J.indexSlB sl22 rfl rfl (by omega) (by omega) (by first | exact Int.toNat_natCast _ | rfl) rfl ?_
        refine J.store 414 rfl rfl rfl rfl [.int .u8 ((54 : Nat) : Int)] rfl sz5 (by show _ ≤ (rowN .u8 _).length; rw [rowN_length, List.length_append, List.length_replicate, List.length_drop]; show _ + 1 ≤ _; omega) (by intro u hu; rw [List.mem_singleton.1 hu]; rfl) (by show 0 < 1; omega) trivial (rowN .u8 (List.replicate (k + 1) 54 ++ rb.drop (k + 1))) (by rw [Nat.zero_add]; exact fillN k 54 rb hk2) ?_
        refine J.end ?_
        refine X.inBlock (X.then ?_)
        refine T.text [.l, .l, .l] rfl ?_
        refine J.move rfl rfl ?_
        refine J.add rfl rfl rfl (by first | exact add_nat _ 1 (by omega) | exact i64_ok _ (by omega) | exact rfl) ?_
        refine J.assign rfl rfl ?_
        refine J.end ?_
        exact X.round (k + 1) (by omega) (by first | omega | (dsimp only; omega)) (by repeat (first | exact sn _ | refine sc rfl ?_)) (by repeat (first | exact sn _ | refine sc rfl ?_))
      obtain rfl : k = rb.length := by omega
      refine T.asE 414 ⟨some s4, 5, rowN .u8 (List.replicate rb.length 54)⟩ rfl (by rw [List.drop_length, List.append_nil]) ?_
      refine T.exit ?_
      refine X.then_exit (X.then_exit (X.inBlock_eq (X.inBlock (X.then ?_))))
      refine T.text [.l, .l, .l] rfl ?_
      refine J.move rfl rfl ?_
      refine J.add rfl rfl rfl (by first | exact add_nat _ 1 (by omega) | exact i64_ok _ (by omega) | exact rfl) ?_
      refine J.as 174 (.int .i64 ((5 : Nat) : Int)) rfl (by rfl) ?_
      refine J.assign rfl rfl ?_
      refine J.end ?_
      exact X.round 5 (by first | decide | omega) (by first | omega | (dsimp only; omega)) (by repeat (first | exact sn _ | refine sc rfl ?_)) (by repeat (first | exact sn _ | refine sc rfl ?_))
    · skip
      refine T.skip ?_
      refine X.then ?_
      refine T.seq ?_
      refine T.block ?_
      refine T.seq ?_
      refine T.text [.l] rfl ?_
      refine J.assign rfl rfl ?_
      refine J.end ?_
      refine X.then ?_
      refine T.block ?_
      refine T.asE 415 (⟨some s5, 5, rowN .u8 (List.replicate 0 55 ++ bs.drop 0)⟩) rfl rfl ?_
      refine T.loop (ι := Nat) (fun (k : Nat) => k ≤ bs.length) (fun (k : Nat) => [(1, r53.val bs.length), (7, .pointer (some ⟨g, 0, none⟩)), (8, r.val zs.length), (9, .pointer (some ⟨g43, 0, none⟩)), (10, W9.val (2 * 2)), (11, B9.val (3 * 2)), (22, .int .i64 ((5 : Nat) : Int)), (23, .int .i64 ((k : Nat) : Int))]) (fun (k : Nat) => [(100, ⟨some g, 89, stkM S ((zs.length : Nat) : Int)⟩), (101, r.ent 25 (rowW zs)), (43, ⟨some g43, 99, [i60.val mm.length]⟩), (44, i60.ent 5 (rowN .u8 mm)), (50, r53.ent 5 (rowN .u8 bs)), (10, W9.ent 32 [slv (some u0) zs.length, slv (some u1) zs.length, slv (some u2) zs.length, slv (some u3) zs.length]), (11, B9.ent 22 [slv (some s0) bs.length, slv (some s1) rb.length, slv (some s2) bs.length, slv (some s3) bs.length, slv (some s4) rb.length, slv (some s5) bs.length]), (400, eW 25 u0 zs.length 0), (401, eW 25 u1 zs.length 1), (402, eW 25 u2 zs.length 2), (403, eW 25 u3 zs.length 3), (410, ⟨some s0, 5, rowN .u8 (sel (0 < 5) (List.replicate bs.length 50) bs)⟩), (411, ⟨some s1, 5, rowN .u8 (sel (1 < 5) (List.replicate rb.length 51) rb)⟩), (412, ⟨some s2, 5, rowN .u8 (sel (2 < 5) (List.replicate bs.length 52) bs)⟩), (413, ⟨some s3, 5, rowN .u8 (sel (3 < 5) (List.replicate bs.length 53) bs)⟩), (414, ⟨some s4, 5, rowN .u8 (sel (4 < 5) (List.replicate rb.length 54) rb)⟩), (415, ⟨some s5, 5, rowN .u8 (List.replicate k 55 ++ bs.drop k)⟩)]) (fun (k : Nat) => bs.length - k) 0 (Nat.zero_le _) (by repeat (first | exact sn _ | refine sc rfl ?_)) (by repeat (first | exact sn _ | refine sc rfl ?_)) ?_
      rintro k hk
      refine T.seq ?_
      refine T.seq ?_
      refine T.text [.l, .l, .l, .l, .l, .l, .l] rfl ?_
      refine J.move rfl rfl ?_
      refine J.move rfl rfl ?_
      refine J.move rfl rfl ?_
      refine J.indexRow sl84 rfl (hq11.some (by omega)) rfl (by omega) (by omega) (by first | exact Int.toNat_natCast _ | rfl) rfl ?_
      refine J.load1 (k := .l) trivial 11 rfl rfl one22 rfl rfl ?_
      refine J.lenSl Try.underlying22 rfl rfl ?_
      refine J.lss rfl rfl rfl rfl ?_
      refine J.end ?_
      refine X.then ?_
      refine T.cond_dec rfl (fun h14 => ?_) (fun h14 => ?_)
      · have hk2 : k < bs.length := by omega
        refine T.skip ?_
        refine X.then ?_
        refine T.seq ?_
        refine T.block ?_
        refine T.text [.l, .l, .l, .l, .l, .l, .l, .l, .l, .l] rfl ?_
        refine J.move rfl rfl ?_
        refine J.move rfl rfl ?_
        refine J.indexRow sl84 rfl (hq11.some (by omega)) rfl (by omega) (by omega) (by first | exact Int.toNat_natCast _ | rfl) rfl ?_
        refine J.load1 (k := .l) trivial 11 rfl rfl one22 rfl rfl ?_
        refine J.move rfl rfl ?_
        refine J.move rfl rfl ?_
        refine J.add rfl rfl rfl (show _ = (55 : Int) by rfl) ?_
        refine J.conv (by rw [Try.underlying3]; rfl) Try.underlying5 rfl rfl (show _ = (55 : Int) by rfl) ?_
        refine J.indexSlB sl22 rfl rfl (by omega) (by omega) (by first | exact Int.toNat_natCast _ | rfl) rfl ?_
        refine J.store 415 rfl rfl rfl rfl [.int .u8 ((55 : Nat) : Int)] rfl sz5 (by show _ ≤ (rowN .u8 _).length; rw [rowN_length, List.length_append, List.length_replicate, List.length_drop]; show _ + 1 ≤ _; omega) (by intro u hu; rw [List.mem_singleton.1 hu]; rfl) (by show 0 < 1; omega) trivial (rowN .u8 (List.replicate (k + 1) 55 ++ bs.drop (k + 1))) (by rw [Nat.zero_add]; exact fillN k 55 bs hk2) ?_
        refine J.end ?_
        refine X.inBlock (X.then ?_)
        refine T.text [.l, .l, .l] rfl ?_
        refine J.move rfl rfl ?_
        refine J.add rfl rfl rfl (by first | exact add_nat _ 1 (by omega) | exact i64_ok _ (by omega) | exact rfl) ?_
        refine J.assign rfl rfl ?_
        refine J.end ?_
        exact X.round (k + 1) (by omega) (by first | omega | (dsimp only; omega)) (by repeat (first | exact sn _ | refine sc rfl ?_)) (by repeat (first | exact sn _ | refine sc rfl ?_))
      obtain rfl : k = bs.length := by omega
      refine T.asE 415 ⟨some s5, 5, rowN .u8 (List.replicate bs.length 55)⟩ rfl (by rw [List.drop_length, List.append_nil]) ?_
      refine T.exit ?_
      refine X.then_exit (X.then_exit (X.inBlock_eq (X.inBlock (X.then ?_))))
      refine T.text [.l, .l, .l] rfl ?_
      refine J.move rfl rfl ?_
      refine J.add rfl rfl rfl (by first | exact add_nat _ 1 (by omega) | exact i64_ok _ (by omega) | exact rfl) ?_
      refine J.as 174 (.int .i64 ((6 : Nat) : Int)) rfl (by rfl) ?_
      refine J.assign rfl rfl ?_
      refine J.end ?_
      exact X.round 6 (by first | decide | omega) (by first | omega | (dsimp only; omega)) (by repeat (first | exact sn _ | refine sc rfl ?_)) (by repeat (first | exact sn _ | refine sc rfl ?_))
  obtain rfl : i = 6 := by omega
  refine T.asE 410 (eN 5 s0 bs.length 50) rfl rfl ?_
  refine T.asE 411 (eN 5 s1 rb.length 51) rfl rfl ?_
  refine T.asE 412 (eN 5 s2 bs.length 52) rfl rfl ?_
  refine T.asE 413 (eN 5 s3 bs.length 53) rfl rfl ?_
  refine T.asE 414 (eN 5 s4 rb.length 54) rfl rfl ?_
  refine T.asE 415 (eN 5 s5 bs.length 55) rfl rfl ?_
  refine T.exit ?_
  refine X.then_exit (X.then_exit (X.inBlock_eq (X.then ?_)))
  refine T.seq ?_
  refine T.text [.l] rfl ?_
  refine J.assign rfl rfl ?_
  refine J.end ?_
  refine X.then ?_
  refine T.seq ?_
  refine T.seq ?_
  refine T.text [.l] rfl ?_
  refine J.assign rfl rfl ?_
  refine J.end ?_
  refine X.then ?_
  refine T.block ?_
  refine T.addNil 420 25 ?_
  refine T.addNil 421 25 ?_
  refine T.addNil 422 25 ?_
  refine T.addNil 423 25 ?_
  refine T.addNil 24 32 ?_
  refine T.loop (ι := Nat × RowIx × RowIx × RowIx × RowIx × RowIx) (fun ((i, y0, y1, y2, y3, Y) : Nat × RowIx × RowIx × RowIx × RowIx × RowIx) => i ≤ 4 ∧ Y.Ok 1 i ∧ (0 < i → y0.Ok 4 (zs.length + 30)) ∧ (1 < i → y1.Ok 4 (zs.length + 30)) ∧ (2 < i → y2.Ok 4 (zs.length + 30)) ∧ (3 < i → y3.Ok 4 (zs.length + 30))) (fun ((i, y0, y1, y2, y3, Y) : Nat × RowIx × RowIx × RowIx × RowIx × RowIx) => [(1, r53.val bs.length), (7, .pointer (some ⟨g, 0, none⟩)), (8, r.val zs.length), (9, .pointer (some ⟨g43, 0, none⟩)), (10, W9.val (2 * 2)), (11, B9.val (3 * 2)), (25, .int .i64 ((i : Nat) : Int)), (24, Y.val i)]) (fun ((i, y0, y1, y2, y3, Y) : Nat × RowIx × RowIx × RowIx × RowIx × RowIx) => [(100, ⟨some g, 89, stkM S ((zs.length : Nat) : Int)⟩), (101, r.ent 25 (rowW zs)), (43, ⟨some g43, 99, [i60.val mm.length]⟩), (44, i60.ent 5 (rowN .u8 mm)), (50, r53.ent 5 (rowN .u8 bs)), (10, W9.ent 32 [slv (some u0) zs.length, slv (some u1) zs.length, slv (some u2) zs.length, slv (some u3) zs.length]), (11, B9.ent 22 [slv (some s0) bs.length, slv (some s1) rb.length, slv (some s2) bs.length, slv (some s3) bs.length, slv (some s4) rb.length, slv (some s5) bs.length]), (400, eW 25 u0 zs.length 0), (401, eW 25 u1 zs.length 1), (402, eW 25 u2 zs.length 2), (403, eW 25 u3 zs.length 3), (410, eN 5 s0 bs.length 50), (411, eN 5 s1 rb.length 51), (412, eN 5 s2 bs.length 52), (413, eN 5 s3 bs.length 53), (414, eN 5 s4 rb.length 54), (415, eN 5 s5 bs.length 55), (420, y0.ent 25 (opt (0 < i) (rowW (List.replicate (zs.length + 30) (mkw 0))))), (421, y1.ent 25 (opt (1 < i) (rowW (List.replicate (zs.length + 30) (mkw 1))))), (422, y2.ent 25 (opt (2 < i) (rowW (List.replicate (zs.length + 30) (mkw 2))))), (423, y3.ent 25 (opt (3 < i) (rowW (List.replicate (zs.length + 30) (mkw 3))))), (24, Y.ent 32 (opt (0 < i) [y0.val (zs.length + 30)] ++ opt (1 < i) [y1.val (zs.length + 30)] ++ opt (2 < i) [y2.val (zs.length + 30)] ++ opt (3 < i) [y3.val (zs.length + 30)]))]) (fun ((i, y0, y1, y2, y3, Y) : Nat × RowIx × RowIx × RowIx × RowIx × RowIx) => 4 - i) ⟨0, RowIx.nil, RowIx.nil, RowIx.nil, RowIx.nil, RowIx.nil⟩ ⟨Nat.zero_le _, RowIx.nil_ok 1, fun q => absurd q (by first | decide | (dsimp only; decide)), fun q => absurd q (by first | decide | (dsimp only; decide)), fun q => absurd q (by first | decide | (dsimp only; decide)), fun q => absurd q (by first | decide | (dsimp only; decide))⟩ (by repeat (first | exact sn _ | refine sc rfl ?_)) (by repeat (first | exact sn _ | refine sc rfl ?_)) ?_
  rintro ⟨i, y0, y1, y2, y3, Y⟩ ⟨hi, hR24, hy0, hy1, hy2, hy3⟩
  try dsimp only at *
  refine T.seq ?_
  refine T.seq ?_
  refine T.text [.l, .l, .l, .l] rfl ?_
  refine J.move rfl rfl ?_
  refine J.move rfl rfl ?_
  refine J.lenSl Try.underlying83 rfl rfl ?_
  refine J.lss rfl rfl rfl rfl ?_
  refine J.end ?_
  refine X.then ?_
  refine T.cond_dec rfl (fun h15 => ?_) (fun h15 => ?_)
  · rcases (show i = 0 ∨ i = 1 ∨ i = 2 ∨ i = 3 from by omega) with rfl | rfl | rfl | rfl
    · skip
      refine T.skip ?_
      refine X.then ?_
      refine T.seq ?_
      refine T.block ?_
      refine T.seq ?_
      refine T.text [.l, .l, .l, .l, .l] rfl ?_
      refine J.move rfl rfl ?_
      refine J.move rfl rfl ?_
      refine J.indexRow sl83 rfl (hr.some (by omega)) rfl (by omega) (by omega) (by first | exact Int.toNat_natCast _ | rfl) rfl ?_
      refine J.load1 (k := .l) trivial 10 rfl rfl one32 rfl rfl ?_
      refine J.assign rfl rfl ?_
      refine J.end ?_
      refine X.then ?_
      refine T.seq ?_
      refine T.seq ?_
      refine T.text [.l] rfl ?_
      refine J.assign rfl rfl ?_
      refine J.end ?_
      refine X.then ?_
      refine T.block ?_
      refine T.addNil 430 25 ?_
      refine T.loop (ι := Nat × Nat × RowIx × Value) (fun ((k, x, y, v) : Nat × Nat × RowIx × Value) => k ≤ 30 ∧ x ≤ 1 ∧ (x = 0 → 0 = k ∧ Value.slice (some ⟨u0, 0, none⟩) zs.length zs.length = v) ∧ (x = 1 → 0 < k ∧ y.Ok 4 (zs.length + k) ∧ y.val (zs.length + k) = v)) (fun ((k, x, y, v) : Nat × Nat × RowIx × Value) => [(1, r53.val bs.length), (7, .pointer (some ⟨g, 0, none⟩)), (8, r.val zs.length), (9, .pointer (some ⟨g43, 0, none⟩)), (10, W9.val (2 * 2)), (11, B9.val (3 * 2)), (25, .int .i64 ((0 : Nat) : Int)), (24, Y.val 0), (27, .int .i64 ((k : Nat) : Int)), (26, v)]) (fun ((k, x, y, v) : Nat × Nat × RowIx × Value) => [(100, ⟨some g, 89, stkM S ((zs.length : Nat) : Int)⟩), (101, r.ent 25 (rowW zs)), (43, ⟨some g43, 99, [i60.val mm.length]⟩), (44, i60.ent 5 (rowN .u8 mm)), (50, r53.ent 5 (rowN .u8 bs)), (10, W9.ent 32 [slv (some u0) zs.length, slv (some u1) zs.length, slv (some u2) zs.length, slv (some u3) zs.length]), (11, B9.ent 22 [slv (some s0) bs.length, slv (some s1) rb.length, slv (some s2) bs.length, slv (some s3) bs.length, slv (some s4) rb.length, slv (some s5) bs.length]), (400, eW 25 u0 zs.length 0), (401, eW 25 u1 zs.length 1), (402, eW 25 u2 zs.length 2), (403, eW 25 u3 zs.length 3), (410, eN 5 s0 bs.length 50), (411, eN 5 s1 rb.length 51), (412, eN 5 s2 bs.length 52), (413, eN 5 s3 bs.length 53), (414, eN 5 s4 rb.length 54), (415, eN 5 s5 bs.length 55), (420, y0.ent 25 (opt (0 < 0) (rowW (List.replicate (zs.length + 30) (mkw 0))))), (421, y1.ent 25 (opt (1 < 0) (rowW (List.replicate (zs.length + 30) (mkw 1))))), (422, y2.ent 25 (opt (2 < 0) (rowW (List.replicate (zs.length + 30) (mkw 2))))), (423, y3.ent 25 (opt (3 < 0) (rowW (List.replicate (zs.length + 30) (mkw 3))))), (24, Y.ent 32 (opt (0 < 0) [y0.val (zs.length + 30)] ++ opt (1 < 0) [y1.val (zs.length + 30)] ++ opt (2 < 0) [y2.val (zs.length + 30)] ++ opt (3 < 0) [y3.val (zs.length + 30)])), (430, y.ent 25 (opt (x = 1) (rowW (List.replicate (zs.length + k) (mkw 0)))))]) (fun ((k, x, y, v) : Nat × Nat × RowIx × Value) => 30 - k) ⟨0, 0, RowIx.nil, (Value.slice (some ⟨u0, 0, none⟩) zs.length zs.length)⟩ ⟨Nat.zero_le _, by omega, fun _ => ⟨rfl, rfl⟩, fun q => absurd q (by first | decide | (dsimp only; decide))⟩ (by repeat (first | exact sn _ | refine sc rfl ?_)) (by repeat (first | exact sn _ | refine sc rfl ?_)) ?_
      rintro ⟨k, x, y, v⟩ ⟨hk, hxx, hx_0, hx_1⟩
      try dsimp only at *
      refine T.seq ?_
      refine T.seq ?_
      refine T.text [.l, .l] rfl ?_
      refine J.move rfl rfl ?_
      refine J.lss rfl rfl rfl rfl ?_
      refine J.end ?_
      refine X.then ?_
      refine T.cond_dec rfl (fun h16 => ?_) (fun h16 => ?_)
      · rcases (show x = 0 ∨ x = 1 from by omega) with rfl | rfl
        · obtain ⟨rfl, rfl⟩ := hx_0 rfl
          refine T.skip ?_
          refine X.then ?_
          refine T.seq ?_
          refine T.block ?_
          refine T.text [.l, .l, .l, .l, .l, .l, .l, .l] rfl ?_
          refine J.move rfl rfl ?_
          refine J.move rfl rfl ?_
          refine J.add rfl rfl rfl (show _ = (1000 : Int) by rfl) ?_
          refine J.conv (by rw [Try.underlying3]; rfl) Try.underlying23 rfl rfl (show _ = (1000 : Int) by rfl) ?_
          refine J.build rfl rfl (W (mkw 0)) (fun w => by kernel_rfl) ?_
          refine J.lit1 212 rfl Try.underlying32 el25 (by decide) rfl (wc (mkw 0)) rfl rfl rfl (fun g212 hg212 => ?_)
          refine J.appendFull 400 430 rfl Try.underlying32 el25 rfl (by simp [rowW_length]) rfl rfl (by decide) rfl (fun w hw => (hw.blkCs (k := 212) rfl)) (by omega) (by unfold maxLen; omega) rfl (zs.length + 1) rfl (rowW (List.replicate (zs.length + 1) (mkw 0))) (by exact growW (zs.length) (mkw 0)) (fun r213 hr213 => ?_)
          refine J.assign rfl rfl ?_
          refine J.end ?_
          refine X.inBlock (X.then ?_)
          refine T.text [.l, .l, .l] rfl ?_
          refine J.move rfl rfl ?_
          refine J.add rfl rfl rfl (by first | exact add_nat _ 1 (by omega) | exact i64_ok _ (by omega) | exact rfl) ?_
          refine J.assign rfl rfl ?_
          refine J.end ?_
          exact X.round ⟨(0 + 1), 1, r213, (r213.val (zs.length + 1))⟩ ⟨by first | omega | (dsimp only; omega), by first | omega | (dsimp only; omega), fun q => absurd q (by first | decide | (dsimp only; decide)), fun _ => ⟨by first | omega | (dsimp only; omega), hr213, rfl⟩⟩ (by first | omega | (dsimp only; omega)) (by repeat (first | exact sn _ | refine sc rfl ?_)) (by repeat (first | exact sn _ | refine sc rfl ?_))
        · obtain ⟨hk0, hy, rfl⟩ := hx_1 rfl
          refine T.skip ?_
          refine X.then ?_
          refine T.seq ?_
          refine T.block ?_
          refine T.text [.l, .l, .l, .l, .l, .l, .l, .l] rfl ?_
          refine J.move rfl rfl ?_
          refine J.move rfl rfl ?_
          refine J.add rfl rfl rfl (show _ = (1000 : Int) by rfl) ?_
          refine J.conv (by rw [Try.underlying3]; rfl) Try.underlying23 rfl rfl (show _ = (1000 : Int) by rfl) ?_
          refine J.build rfl rfl (W (mkw 0)) (fun w => by kernel_rfl) ?_
          refine J.lit1 212 rfl Try.underlying32 el25 (by decide) rfl (wc (mkw 0)) rfl rfl rfl (fun g212 hg212 => ?_)
          refine J.append 430 rfl Try.underlying32 el25 rfl hy (by show (rowW (List.replicate (zs.length + k) (mkw 0))).length = _; simp [rowW_length]) rfl rfl rfl (fun w hw => (hw.blkCs (k := 212) rfl)) (rowN_one _ _) (by omega) (by unfold maxLen; omega) rfl (zs.length + (k + 1)) rfl (rowW (List.replicate (zs.length + (k + 1)) (mkw 0))) (by show rowW (List.replicate (zs.length + k) (mkw 0)) ++ _ = _; exact growW (zs.length + k) (mkw 0)) (fun r213 hr213 => ?_)
          refine J.assign rfl rfl ?_
          refine J.end ?_
          refine X.inBlock (X.then ?_)
          refine T.text [.l, .l, .l] rfl ?_
          refine J.move rfl rfl ?_
          refine J.add rfl rfl rfl (by first | exact add_nat _ 1 (by omega) | exact i64_ok _ (by omega) | exact rfl) ?_
          refine J.assign rfl rfl ?_
          refine J.end ?_
          exact X.round ⟨(k + 1), 1, r213, (r213.val (zs.length + (k + 1)))⟩ ⟨by first | omega | (dsimp only; omega), by first | omega | (dsimp only; omega), fun q => absurd q (by first | decide | (dsimp only; decide)), fun _ => ⟨by first | omega | (dsimp only; omega), hr213, rfl⟩⟩ (by first | omega | (dsimp only; omega)) (by repeat (first | exact sn _ | refine sc rfl ?_)) (by repeat (first | exact sn _ | refine sc rfl ?_))
      obtain rfl : k = 30 := by omega
      obtain rfl : x = 1 := by
            rcases (show x = 0 ∨ x = 1 by omega) with rfl | rfl
            · exact absurd (hx_0 rfl).1 (by decide)
            · rfl
      obtain ⟨_, hy, rfl⟩ := hx_1 rfl
      refine T.asE 430 (y.ent 25 (rowW (List.replicate (zs.length + 30) (mkw 0)))) rfl rfl ?_
      refine T.exit ?_
      refine X.then_exit (X.then_exit (X.inBlock_eq (X.then ?_)))
      refine T.text [.l, .l, .l, .l, .l] rfl ?_
      refine J.move rfl rfl ?_
      refine J.move rfl rfl ?_
      refine J.lit1 216 rfl Try.underlying83 el32 (by decide) rfl [y.val (zs.length + 30)] rfl rfl rfl (fun g216 hg216 => ?_)
      refine J.append 24 rfl Try.underlying83 el32 rfl hR24 rfl rfl rfl rfl (fun w hw => (hw.blkCs (k := 216) rfl)) (by intro u hu; rw [List.mem_singleton.1 hu]; rfl) (by omega) (by unfold maxLen; omega) rfl 1 rfl [y.val (zs.length + 30)] rfl (fun r217 hr217 => ?_)
      refine J.assign rfl rfl ?_
      refine J.end ?_
      refine X.mv 430 420 rfl ?_
      refine X.inBlock (X.then ?_)
      refine T.text [.l, .l, .l] rfl ?_
      refine J.move rfl rfl ?_
      refine J.add rfl rfl rfl (by first | exact add_nat _ 1 (by omega) | exact i64_ok _ (by omega) | exact rfl) ?_
      refine J.as 198 (.int .i64 ((1 : Nat) : Int)) rfl (by rfl) ?_
      refine J.assign rfl rfl ?_
      refine J.end ?_
      exact X.round ⟨1, y, y1, y2, y3, r217⟩ ⟨by first | decide | (dsimp only; decide), hr217, fun _ => hy, fun q => absurd q (by first | decide | (dsimp only; decide)), fun q => absurd q (by first | decide | (dsimp only; decide)), fun q => absurd q (by first | decide | (dsimp only; decide))⟩ (by first | omega | (dsimp only; omega)) (by repeat (first | exact sn _ | refine sc rfl ?_)) (by repeat (first | exact sn _ | refine sc rfl ?_))
    · skip
      refine T.skip ?_
      refine X.then ?_
      refine T.seq ?_
      refine T.block ?_
      refine T.seq ?_
      refine T.text [.l, .l, .l, .l, .l] rfl ?_
      refine J.move rfl rfl ?_
      refine J.move rfl rfl ?_
      refine J.indexRow sl83 rfl (hr.some (by omega)) rfl (by omega) (by omega) (by first | exact Int.toNat_natCast _ | rfl) rfl ?_
      refine J.load1 (k := .l) trivial 10 rfl rfl one32 rfl rfl ?_
      refine J.assign rfl rfl ?_
      refine J.end ?_
      refine X.then ?_
      refine T.seq ?_
      refine T.seq ?_
      refine T.text [.l] rfl ?_
      refine J.assign rfl rfl ?_
      refine J.end ?_
      refine X.then ?_
      refine T.block ?_
      refine T.addNil 430 25 ?_
      refine T.loop (ι := Nat × Nat × RowIx × Value) (fun ((k, x, y, v) : Nat × Nat × RowIx × Value) => k ≤ 30 ∧ x ≤ 1 ∧ (x = 0 → 0 = k ∧ Value.slice (some ⟨u1, 0, none⟩) zs.length zs.length = v) ∧ (x = 1 → 0 < k ∧ y.Ok 4 (zs.length + k) ∧ y.val (zs.length + k) = v)) (fun ((k, x, y, v) : Nat × Nat × RowIx × Value) => [(1, r53.val bs.length), (7, .pointer (some ⟨g, 0, none⟩)), (8, r.val zs.length), (9, .pointer (some ⟨g43, 0, none⟩)), (10, W9.val (2 * 2)), (11, B9.val (3 * 2)), (25, .int .i64 ((1 : Nat) : Int)), (24, Y.val 1), (27, .int .i64 ((k : Nat) : Int)), (26, v)]) (fun ((k, x, y, v) : Nat × Nat × RowIx × Value) => [(100, ⟨some g, 89, stkM S ((zs.length : Nat) : Int)⟩), (101, r.ent 25 (rowW zs)), (43, ⟨some g43, 99, [i60.val mm.length]⟩), (44, i60.ent 5 (rowN .u8 mm)), (50, r53.ent 5 (rowN .u8 bs)), (10, W9.ent 32 [slv (some u0) zs.length, slv (some u1) zs.length, slv (some u2) zs.length, slv (some u3) zs.length]), (11, B9.ent 22 [slv (some s0) bs.length, slv (some s1) rb.length, slv (some s2) bs.length, slv (some s3) bs.length, slv (some s4) rb.length, slv (some s5) bs.length]), (400, eW 25 u0 zs.length 0), (401, eW 25 u1 zs.length 1), (402, eW 25 u2 zs.length 2), (403, eW 25 u3 zs.length 3), (410, eN 5 s0 bs.length 50), (411, eN 5 s1 rb.length 51), (412, eN 5 s2 bs.length 52), (413, eN 5 s3 bs.length 53), (414, eN 5 s4 rb.length 54), (415, eN 5 s5 bs.length 55), (420, y0.ent 25 (opt (0 < 1) (rowW (List.replicate (zs.length + 30) (mkw 0))))), (421, y1.ent 25 (opt (1 < 1) (rowW (List.replicate (zs.length + 30) (mkw 1))))), (422, y2.ent 25 (opt (2 < 1) (rowW (List.replicate (zs.length + 30) (mkw 2))))), (423, y3.ent 25 (opt (3 < 1) (rowW (List.replicate (zs.length + 30) (mkw 3))))), (24, Y.ent 32 (opt (0 < 1) [y0.val (zs.length + 30)] ++ opt (1 < 1) [y1.val (zs.length + 30)] ++ opt (2 < 1) [y2.val (zs.length + 30)] ++ opt (3 < 1) [y3.val (zs.length + 30)])), (430, y.ent 25 (opt (x = 1) (rowW (List.replicate (zs.length + k) (mkw 1)))))]) (fun ((k, x, y, v) : Nat × Nat × RowIx × Value) => 30 - k) ⟨0, 0, RowIx.nil, (Value.slice (some ⟨u1, 0, none⟩) zs.length zs.length)⟩ ⟨Nat.zero_le _, by omega, fun _ => ⟨rfl, rfl⟩, fun q => absurd q (by first | decide | (dsimp only; decide))⟩ (by repeat (first | exact sn _ | refine sc rfl ?_)) (by repeat (first | exact sn _ | refine sc rfl ?_)) ?_
      rintro ⟨k, x, y, v⟩ ⟨hk, hxx, hx_0, hx_1⟩
      try dsimp only at *
      refine T.seq ?_
      refine T.seq ?_
      refine T.text [.l, .l] rfl ?_
      refine J.move rfl rfl ?_
      refine J.lss rfl rfl rfl rfl ?_
      refine J.end ?_
      refine X.then ?_
      refine T.cond_dec rfl (fun h17 => ?_) (fun h17 => ?_)
      · rcases (show x = 0 ∨ x = 1 from by omega) with rfl | rfl
        · obtain ⟨rfl, rfl⟩ := hx_0 rfl
          refine T.skip ?_
          refine X.then ?_
          refine T.seq ?_
          refine T.block ?_
          refine T.text [.l, .l, .l, .l, .l, .l, .l, .l] rfl ?_
          refine J.move rfl rfl ?_
          refine J.move rfl rfl ?_
          refine J.add rfl rfl rfl (show _ = (1001 : Int) by rfl) ?_
          refine J.conv (by rw [Try.underlying3]; rfl) Try.underlying23 rfl rfl (show _ = (1001 : Int) by rfl) ?_
          refine J.build rfl rfl (W (mkw 1)) (fun w => by kernel_rfl) ?_
          refine J.lit1 212 rfl Try.underlying32 el25 (by decide) rfl (wc (mkw 1)) rfl rfl rfl (fun g212 hg212 => ?_)
          refine J.appendFull 401 430 rfl Try.underlying32 el25 rfl (by simp [rowW_length]) rfl rfl (by decide) rfl (fun w hw => (hw.blkCs (k := 212) rfl)) (by omega) (by unfold maxLen; omega) rfl (zs.length + 1) rfl (rowW (List.replicate (zs.length + 1) (mkw 1))) (by exact growW (zs.length) (mkw 1)) (fun r213 hr213 => ?_)
          refine J.assign rfl rfl ?_
          refine J.end ?_
          refine X.inBlock (X.then ?_)
          refine T.text [.l, .l, .l] rfl ?_
          refine J.move rfl rfl ?_
          refine J.add rfl rfl rfl (by first | exact add_nat _ 1 (by omega) | exact i64_ok _ (by omega) | exact rfl) ?_
          refine J.assign rfl rfl ?_
          refine J.end ?_
          exact X.round ⟨(0 + 1), 1, r213, (r213.val (zs.length + 1))⟩ ⟨by first | omega | (dsimp only; omega), by first | omega | (dsimp only; omega), fun q => absurd q (by first | decide | (dsimp only; decide)), fun _ => ⟨by first | omega | (dsimp only; omega), hr213, rfl⟩⟩ (by first | omega | (dsimp only; omega)) (by repeat (first | exact sn _ | refine sc rfl ?_)) (by repeat (first | exact sn _ | refine sc rfl ?_))
        · obtain ⟨hk0, hy, rfl⟩ := hx_1 rfl
          refine T.skip ?_
          refine X.then ?_
          refine T.seq ?_
          refine T.block ?_
          refine T.text [.l, .l, .l, .l, .l, .l, .l, .l] rfl ?_
          refine J.move rfl rfl ?_
          refine J.move rfl rfl ?_
          refine J.add rfl rfl rfl (show _ = (1001 : Int) by rfl) ?_
          refine J.conv (by rw [Try.underlying3]; rfl) Try.underlying23 rfl rfl (show _ = (1001 : Int) by rfl) ?_
          refine J.build rfl rfl (W (mkw 1)) (fun w => by kernel_rfl) ?_
          refine J.lit1 212 rfl Try.underlying32 el25 (by decide) rfl (wc (mkw 1)) rfl rfl rfl (fun g212 hg212 => ?_)
          refine J.append 430 rfl Try.underlying32 el25 rfl hy (by show (rowW (List.replicate (zs.length + k) (mkw 1))).length = _; simp [rowW_length]) rfl rfl rfl (fun w hw => (hw.blkCs (k := 212) rfl)) (rowN_one _ _) (by omega) (by unfold maxLen; omega) rfl (zs.length + (k + 1)) rfl (rowW (List.replicate (zs.length + (k + 1)) (mkw 1))) (by show rowW (List.replicate (zs.length + k) (mkw 1)) ++ _ = _; exact growW (zs.length + k) (mkw 1)) (fun r213 hr213 => ?_)
          refine J.assign rfl rfl ?_
          refine J.end ?_
          refine X.inBlock (X.then ?_)
          refine T.text [.l, .l, .l] rfl ?_
          refine J.move rfl rfl ?_
          refine J.add rfl rfl rfl (by first | exact add_nat _ 1 (by omega) | exact i64_ok _ (by omega) | exact rfl) ?_
          refine J.assign rfl rfl ?_
          refine J.end ?_
          exact X.round ⟨(k + 1), 1, r213, (r213.val (zs.length + (k + 1)))⟩ ⟨by first | omega | (dsimp only; omega), by first | omega | (dsimp only; omega), fun q => absurd q (by first | decide | (dsimp only; decide)), fun _ => ⟨by first | omega | (dsimp only; omega), hr213, rfl⟩⟩ (by first | omega | (dsimp only; omega)) (by repeat (first | exact sn _ | refine sc rfl ?_)) (by repeat (first | exact sn _ | refine sc rfl ?_))
      obtain rfl : k = 30 := by omega
      obtain rfl : x = 1 := by
            rcases (show x = 0 ∨ x = 1 by omega) with rfl | rfl
            · exact absurd (hx_0 rfl).1 (by decide)
            · rfl
      obtain ⟨_, hy, rfl⟩ := hx_1 rfl
      refine T.asE 430 (y.ent 25 (rowW (List.replicate (zs.length + 30) (mkw 1)))) rfl rfl ?_
      refine T.exit ?_
      refine X.then_exit (X.then_exit (X.inBlock_eq (X.then ?_)))
      refine T.text [.l, .l, .l, .l, .l] rfl ?_
      refine J.move rfl rfl ?_
      refine J.move rfl rfl ?_
      refine J.lit1 216 rfl Try.underlying83 el32 (by decide) rfl [y.val (zs.length + 30)] rfl rfl rfl (fun g216 hg216 => ?_)
      refine J.append 24 rfl Try.underlying83 el32 rfl hR24 rfl rfl rfl rfl (fun w hw => (hw.blkCs (k := 216) rfl)) (by intro u hu; rw [List.mem_singleton.1 hu]; rfl) (by omega) (by unfold maxLen; omega) rfl 2 rfl [y0.val (zs.length + 30), y.val (zs.length + 30)] rfl (fun r217 hr217 => ?_)
      refine J.assign rfl rfl ?_
      refine J.end ?_
      refine X.mv 430 421 rfl ?_
      refine X.inBlock (X.then ?_)
      refine T.text [.l, .l, .l] rfl ?_
      refine J.move rfl rfl ?_
      refine J.add rfl rfl rfl (by first | exact add_nat _ 1 (by omega) | exact i64_ok _ (by omega) | exact rfl) ?_
      refine J.as 198 (.int .i64 ((2 : Nat) : Int)) rfl (by rfl) ?_
      refine J.assign rfl rfl ?_
      refine J.end ?_
      exact X.round ⟨2, y0, y, y2, y3, r217⟩ ⟨by first | decide | (dsimp only; decide), hr217, fun _ => hy0 (by decide), fun _ => hy, fun q => absurd q (by first | decide | (dsimp only; decide)), fun q => absurd q (by first | decide | (dsimp only; decide))⟩ (by first | omega | (dsimp only; omega)) (by repeat (first | exact sn _ | refine sc rfl ?_)) (by repeat (first | exact sn _ | refine sc rfl ?_))
    · skip
      refine T.skip ?_
      refine X.then ?_
      refine T.seq ?_
      refine T.block ?_
      refine T.seq ?_
      refine T.text [.l, .l, .l, .l, .l] rfl ?_
      refine J.move rfl rfl ?_
      refine J.move rfl rfl ?_
      refine J.indexRow sl83 rfl (hr.some (by omega)) rfl (by omega) (by omega) (by first | exact Int.toNat_natCast _ | rfl) rfl ?_
      refine J.load1 (k := .l) trivial 10 rfl rfl one32 rfl rfl ?_
      refine J.assign rfl rfl ?_
      refine J.end ?_
      refine X.then ?_
      refine T.seq ?_
      refine T.seq ?_
      refine T.text [.l] rfl ?_
      refine J.assign rfl rfl ?_
      refine J.end ?_
      refine X.then ?_
      refine T.block ?_
      refine T.addNil 430 25 ?_
      refine T.loop (ι := Nat × Nat × RowIx × Value) (fun ((k, x, y, v) : Nat × Nat × RowIx × Value) => k ≤ 30 ∧ x ≤ 1 ∧ (x = 0 → 0 = k ∧ Value.slice (some ⟨u2, 0, none⟩) zs.length zs.length = v) ∧ (x = 1 → 0 < k ∧ y.Ok 4 (zs.length + k) ∧ y.val (zs.length + k) = v)) (fun ((k, x, y, v) : Nat × Nat × RowIx × Value) => [(1, r53.val bs.length), (7, .pointer (some ⟨g, 0, none⟩)), (8, r.val zs.length), (9, .pointer (some ⟨g43, 0, none⟩)), (10, W9.val (2 * 2)), (11, B9.val (3 * 2)), (25, .int .i64 ((2 : Nat) : Int)), (24, Y.val 2), (27, .int .i64 ((k : Nat) : Int)), (26, v)]) (fun ((k, x, y, v) : Nat × Nat × RowIx × Value) => [(100, ⟨some g, 89, stkM S ((zs.length : Nat) : Int)⟩), (101, r.ent 25 (rowW zs)), (43, ⟨some g43, 99, [i60.val mm.length]⟩), (44, i60.ent 5 (rowN .u8 mm)), (50, r53.ent 5 (rowN .u8 bs)), (10, W9.ent 32 [slv (some u0) zs.length, slv (some u1) zs.length, slv (some u2) zs.length, slv (some u3) zs.length]), (11, B9.ent 22 [slv (some s0) bs.length, slv (some s1) rb.length, slv (some s2) bs.length, slv (some s3) bs.length, slv (some s4) rb.length, slv (some s5) bs.length]), (400, eW 25 u0 zs.length 0), (401, eW 25 u1 zs.length 1), (402, eW 25 u2 zs.length 2), (403, eW 25 u3 zs.length 3), (410, eN 5 s0 bs.length 50), (411, eN 5 s1 rb.length 51), (412, eN 5 s2 bs.length 52), (413, eN 5 s3 bs.length 53), (414, eN 5 s4 rb.length 54), (415, eN 5 s5 bs.length 55), (420, y0.ent 25 (opt (0 < 2) (rowW (List.replicate (zs.length + 30) (mkw 0))))), (421, y1.ent 25 (opt (1 < 2) (rowW (List.replicate (zs.length + 30) (mkw 1))))), (422, y2.ent 25 (opt (2 < 2) (rowW (List.replicate (zs.length + 30) (mkw 2))))), (423, y3.ent 25 (opt (3 < 2) (rowW (List.replicate (zs.length + 30) (mkw 3))))), (24, Y.ent 32 (opt (0 < 2) [y0.val (zs.length + 30)] ++ opt (1 < 2) [y1.val (zs.length + 30)] ++ opt (2 < 2) [y2.val (zs.length + 30)] ++ opt (3 < 2) [y3.val (zs.length + 30)])), (430, y.ent 25 (opt (x = 1) (rowW (List.replicate (zs.length + k) (mkw 2)))))]) (fun ((k, x, y, v) : Nat × Nat × RowIx × Value) => 30 - k) ⟨0, 0, RowIx.nil, (Value.slice (some ⟨u2, 0, none⟩) zs.length zs.length)⟩ ⟨Nat.zero_le _, by omega, fun _ => ⟨rfl, rfl⟩, fun q => absurd q (by first | decide | (dsimp only; decide))⟩ (by repeat (first | exact sn _ | refine sc rfl ?_)) (by repeat (first | exact sn _ | refine sc rfl ?_)) ?_
      rintro ⟨k, x, y, v⟩ ⟨hk, hxx, hx_0, hx_1⟩
      try dsimp only at *
      refine T.seq ?_
      refine T.seq ?_
      refine T.text [.l, .l] rfl ?_
      refine J.move rfl rfl ?_
      refine J.lss rfl rfl rfl rfl ?_
      refine J.end ?_
      refine X.then ?_
      refine T.cond_dec rfl (fun h18 => ?_) (fun h18 => ?_)
      · rcases (show x = 0 ∨ x = 1 from by omega) with rfl | rfl
        · obtain ⟨rfl, rfl⟩ := hx_0 rfl
          refine T.skip ?_
          refine X.then ?_
          refine T.seq ?_
          refine T.block ?_
          refine T.text [.l, .l, .l, .l, .l, .l, .l, .l] rfl ?_
          refine J.move rfl rfl ?_
          refine J.move rfl rfl ?_
          refine J.add rfl rfl rfl (show _ = (1002 : Int) by rfl) ?_
          refine J.conv (by rw [Try.underlying3]; rfl) Try.underlying23 rfl rfl (show _ = (1002 : Int) by rfl) ?_
          refine J.build rfl rfl (W (mkw 2)) (fun w => by kernel_rfl) ?_
          refine J.lit1 212 rfl Try.underlying32 el25 (by decide) rfl (wc (mkw 2)) rfl rfl rfl (fun g212 hg212 => ?_)
          refine J.appendFull 402 430 rfl Try.underlying32 el25 rfl (by simp [rowW_length]) rfl rfl (by decide) rfl (fun w hw => (hw.blkCs (k := 212) rfl)) (by omega) (by unfold maxLen; omega) rfl (zs.length + 1) rfl (rowW (List.replicate (zs.length + 1) (mkw 2))) (by exact growW (zs.length) (mkw 2)) (fun r213 hr213 => ?_)
          refine J.assign rfl rfl ?_
          refine J.end ?_
          refine X.inBlock (X.then ?_)
          refine T.text [.l, .l, .l] rfl ?_
          refine J.move rfl rfl ?_
          refine J.add rfl rfl rfl (by first | exact add_nat _ 1 (by omega) | exact i64_ok _ (by omega) | exact rfl) ?_
          refine J.assign rfl rfl ?_
          refine J.end ?_
          exact X.round ⟨(0 + 1), 1, r213, (r213.val (zs.length + 1))⟩ ⟨by first | omega | (dsimp only; omega), by first | omega | (dsimp only; omega), fun q => absurd q (by first | decide | (dsimp only; decide)), fun _ => ⟨by first | omega | (dsimp only; omega), hr213, rfl⟩⟩ (by first | omega | (dsimp only; omega)) (by repeat (first | exact sn _ | refine sc rfl ?_)) (by repeat (first | exact sn _ | refine sc rfl ?_))
        · obtain ⟨hk0, hy, rfl⟩ := hx_1 rfl
          refine T.skip ?_
          refine X.then ?_
          refine T.seq ?_
          refine T.block ?_
          refine T.text [.l, .l, .l, .l, .l, .l, .l, .l] rfl ?_
          refine J.move rfl rfl ?_
          refine J.move rfl rfl ?_
          refine J.add rfl rfl rfl (show _ = (1002 : Int) by rfl) ?_
          refine J.conv (by rw [Try.underlying3]; rfl) Try.underlying23 rfl rfl (show _ = (1002 : Int) by rfl) ?_
          refine J.build rfl rfl (W (mkw 2)) (fun w => by kernel_rfl) ?_
          refine J.lit1 212 rfl Try.underlying32 el25 (by decide) rfl (wc (mkw 2)) rfl rfl rfl (fun g212 hg212 => ?_)
          refine J.append 430 rfl Try.underlying32 el25 rfl hy (by show (rowW (List.replicate (zs.length + k) (mkw 2))).length = _; simp [rowW_length]) rfl rfl rfl (fun w hw => (hw.blkCs (k := 212) rfl)) (rowN_one _ _) (by omega) (by unfold maxLen; omega) rfl (zs.length + (k + 1)) rfl (rowW (List.replicate (zs.length + (k + 1)) (mkw 2))) (by show rowW (List.replicate (zs.length + k) (mkw 2)) ++ _ = _; exact growW (zs.length + k) (mkw 2)) (fun r213 hr213 => ?_)
          refine J.assign rfl rfl ?_
          refine J.end ?_
          refine X.inBlock (X.then ?_)
          refine T.text [.l, .l, .l] rfl ?_
          refine J.move rfl rfl ?_
          refine J.add rfl rfl rfl (by first | exact add_nat _ 1 (by omega) | exact i64_ok _ (by omega) | exact rfl) ?_
          refine J.assign rfl rfl ?_
          refine J.end ?_
          exact X.round ⟨(k + 1), 1, r213, (r213.val (zs.length + (k + 1)))⟩ ⟨by first | omega | (dsimp only; omega), by first | omega | (dsimp only; omega), fun q => absurd q (by first | decide | (dsimp only; decide)), fun _ => ⟨by first | omega | (dsimp only; omega), hr213, rfl⟩⟩ (by first | omega | (dsimp only; omega)) (by repeat (first | exact sn _ | refine sc rfl ?_)) (by repeat (first | exact sn _ | refine sc rfl ?_))
      obtain rfl : k = 30 := by omega
      obtain rfl : x = 1 := by
            rcases (show x = 0 ∨ x = 1 by omega) with rfl | rfl
            · exact absurd (hx_0 rfl).1 (by decide)
            · rfl
      obtain ⟨_, hy, rfl⟩ := hx_1 rfl
      refine T.asE 430 (y.ent 25 (rowW (List.replicate (zs.length + 30) (mkw 2)))) rfl rfl ?_
      refine T.exit ?_
      refine X.then_exit (X.then_exit (X.inBlock_eq (X.then ?_)))
      refine T.text [.l, .l, .l, .l, .l] rfl ?_
      refine J.move rfl rfl ?_
      refine J.move rfl rfl ?_
      refine J.lit1 216 rfl Try.underlying83 el32 (by decide) rfl [y.val (zs.length + 30)] rfl rfl rfl (fun g216 hg216 => ?_)
      refine J.append 24 rfl Try.underlying83 el32 rfl hR24 rfl rfl rfl rfl (fun w hw => (hw.blkCs (k := 216) rfl)) (by intro u hu; rw [List.mem_singleton.1 hu]; rfl) (by omega) (by unfold maxLen; omega) rfl 3 rfl [y0.val (zs.length + 30), y1.val (zs.length + 30), y.val (zs.length + 30)] rfl (fun r217 hr217 => ?_)
      refine J.assign rfl rfl ?_
      refine J.end ?_
      refine X.mv 430 422 rfl ?_
      refine X.inBlock (X.then ?_)
      refine T.text [.l, .l, .l] rfl ?_
      refine J.move rfl rfl ?_
      refine J.add rfl rfl rfl (by first | exact add_nat _ 1 (by omega) | exact i64_ok _ (by omega) | exact rfl) ?_
      refine J.as 198 (.int .i64 ((3 : Nat) : Int)) rfl (by rfl) ?_
      refine J.assign rfl rfl ?_
      refine J.end ?_
      exact X.round ⟨3, y0, y1, y, y3, r217⟩ ⟨by first | decide | (dsimp only; decide), hr217, fun _ => hy0 (by decide), fun _ => hy1 (by decide), fun _ => hy, fun q => absurd q (by first | decide | (dsimp only; decide))⟩ (by first | omega | (dsimp only; omega)) (by repeat (first | exact sn _ | refine sc rfl ?_)) (by repeat (first | exact sn _ | refine sc rfl ?_))
    · skip
      refine T.skip ?_
      refine X.then ?_
      refine T.seq ?_
      refine T.block ?_
      refine T.seq ?_
      refine T.text [.l, .l, .l, .l, .l] rfl ?_
      refine J.move rfl rfl ?_
      refine J.move rfl rfl ?_
      refine J.indexRow sl83 rfl (hr.some (by omega)) rfl (by omega) (by omega) (by first | exact Int.toNat_natCast _ | rfl) rfl ?_
      refine J.load1 (k := .l) trivial 10 rfl rfl one32 rfl rfl ?_
      refine J.assign rfl rfl ?_
      refine J.end ?_
      refine X.then ?_
      refine T.seq ?_
      refine T.seq ?_
      refine T.text [.l] rfl ?_
      refine J.assign rfl rfl ?_
      refine J.end ?_
      refine X.then ?_
      refine T.block ?_
      refine T.addNil 430 25 ?_
      refine T.loop (ι := Nat × Nat × RowIx × Value) (fun ((k, x, y, v) : Nat × Nat × RowIx × Value) => k ≤ 30 ∧ x ≤ 1 ∧ (x = 0 → 0 = k ∧ Value.slice (some ⟨u3, 0, none⟩) zs.length zs.length = v) ∧ (x = 1 → 0 < k ∧ y.Ok 4 (zs.length + k) ∧ y.val (zs.length + k) = v)) (fun ((k, x, y, v) : Nat × Nat × RowIx × Value) => [(1, r53.val bs.length), (7, .pointer (some ⟨g, 0, none⟩)), (8, r.val zs.length), (9, .pointer (some ⟨g43, 0, none⟩)), (10, W9.val (2 * 2)), (11, B9.val (3 * 2)), (25, .int .i64 ((3 : Nat) : Int)), (24, Y.val 3), (27, .int .i64 ((k : Nat) : Int)), (26, v)]) (fun ((k, x, y, v) : Nat × Nat × RowIx × Value) => [(100, ⟨some g, 89, stkM S ((zs.length : Nat) : Int)⟩), (101, r.ent 25 (rowW zs)), (43, ⟨some g43, 99, [i60.val mm.length]⟩), (44, i60.ent 5 (rowN .u8 mm)), (50, r53.ent 5 (rowN .u8 bs)), (10, W9.ent 32 [slv (some u0) zs.length, slv (some u1) zs.length, slv (some u2) zs.length, slv (some u3) zs.length]), (11, B9.ent 22 [slv (some s0) bs.length, slv (some s1) rb.length, slv (some s2) bs.length, slv (some s3) bs.length, slv (some s4) rb.length, slv (some s5) bs.length]), (400, eW 25 u0 zs.length 0), (401, eW 25 u1 zs.length 1), (402, eW 25 u2 zs.length 2), (403, eW 25 u3 zs.length 3), (410, eN 5 s0 bs.length 50), (411, eN 5 s1 rb.length 51), (412, eN 5 s2 bs.length 52), (413, eN 5 s3 bs.length 53), (414, eN 5 s4 rb.length 54), (415, eN 5 s5 bs.length 55), (420, y0.ent 25 (opt (0 < 3) (rowW (List.replicate (zs.length + 30) (mkw 0))))), (421, y1.ent 25 (opt (1 < 3) (rowW (List.replicate (zs.length + 30) (mkw 1))))), (422, y2.ent 25 (opt (2 < 3) (rowW (List.replicate (zs.length + 30) (mkw 2))))), (423, y3.ent 25 (opt (3 < 3) (rowW (List.replicate (zs.length + 30) (mkw 3))))), (24, Y.ent 32 (opt (0 < 3) [y0.val (zs.length + 30)] ++ opt (1 < 3) [y1.val (zs.length + 30)] ++ opt (2 < 3) [y2.val (zs.length + 30)] ++ opt (3 < 3) [y3.val (zs.length + 30)])), (430, y.ent 25 (opt (x = 1) (rowW (List.replicate (zs.length + k) (mkw 3)))))]) (fun ((k, x, y, v) : Nat × Nat × RowIx × Value) => 30 - k) ⟨0, 0, RowIx.nil, (Value.slice (some ⟨u3, 0, none⟩) zs.length zs.length)⟩ ⟨Nat.zero_le _, by omega, fun _ => ⟨rfl, rfl⟩, fun q => absurd q (by first | decide | (dsimp only; decide))⟩ (by repeat (first | exact sn _ | refine sc rfl ?_)) (by repeat (first | exact sn _ | refine sc rfl ?_)) ?_
      rintro ⟨k, x, y, v⟩ ⟨hk, hxx, hx_0, hx_1⟩
      try dsimp only at *
      refine T.seq ?_
      refine T.seq ?_
      refine T.text [.l, .l] rfl ?_
      refine J.move rfl rfl ?_
      refine J.lss rfl rfl rfl rfl ?_
      refine J.end ?_
      refine X.then ?_
      refine T.cond_dec rfl (fun h19 => ?_) (fun h19 => ?_)
      · rcases (show x = 0 ∨ x = 1 from by omega) with rfl | rfl
        · obtain ⟨rfl, rfl⟩ := hx_0 rfl
          refine T.skip ?_
          refine X.then ?_
          refine T.seq ?_
          refine T.block ?_
          refine T.text [.l, .l, .l, .l, .l, .l, .l, .l] rfl ?_
          refine J.move rfl rfl ?_
          refine J.move rfl rfl ?_
          refine J.add rfl rfl rfl (show _ = (1003 : Int) by rfl) ?_
          refine J.conv (by rw [Try.underlying3]; rfl) Try.underlying23 rfl rfl (show _ = (1003 : Int) by rfl) ?_
          refine J.build rfl rfl (W (mkw 3)) (fun w => by kernel_rfl) ?_
          refine J.lit1 212 rfl Try.underlying32 el25 (by decide) rfl (wc (mkw 3)) rfl rfl rfl (fun g212 hg212 => ?_)
          refine J.appendFull 403 430 rfl Try.underlying32 el25 rfl (by simp [rowW_length]) rfl rfl (by decide) rfl (fun w hw => (hw.blkCs (k := 212) rfl)) (by omega) (by unfold maxLen; omega) rfl (zs.length + 1) rfl (rowW (List.replicate (zs.length + 1) (mkw 3))) (by exact growW (zs.length) (mkw 3)) (fun r213 hr213 => ?_)
          refine J.assign rfl rfl ?_
          refine J.end ?_
          refine X.inBlock (X.then ?_)
          refine T.text [.l, .l, .l] rfl ?_
          refine J.move rfl rfl ?_
          refine J.add rfl rfl rfl (by first | exact add_nat _ 1 (by omega) | exact i64_ok _ (by omega) | exact rfl) ?_
          refine J.assign rfl rfl ?_
          refine J.end ?_
          exact X.round ⟨(0 + 1), 1, r213, (r213.val (zs.length + 1))⟩ ⟨by first | omega | (dsimp only; omega), by first | omega | (dsimp only; omega), fun q => absurd q (by first | decide | (dsimp only; decide)), fun _ => ⟨by first | omega | (dsimp only; omega), hr213, rfl⟩⟩ (by first | omega | (dsimp only; omega)) (by repeat (first | exact sn _ | refine sc rfl ?_)) (by repeat (first | exact sn _ | refine sc rfl ?_))
        · obtain ⟨hk0, hy, rfl⟩ := hx_1 rfl
          refine T.skip ?_
          refine X.then ?_
          refine T.seq ?_
          refine T.block ?_
          refine T.text [.l, .l, .l, .l, .l, .l, .l, .l] rfl ?_
          refine J.move rfl rfl ?_
          refine J.move rfl rfl ?_
          refine J.add rfl rfl rfl (show _ = (1003 : Int) by rfl) ?_
          refine J.conv (by rw [Try.underlying3]; rfl) Try.underlying23 rfl rfl (show _ = (1003 : Int) by rfl) ?_
          refine J.build rfl rfl (W (mkw 3)) (fun w => by kernel_rfl) ?_
          refine J.lit1 212 rfl Try.underlying32 el25 (by decide) rfl (wc (mkw 3)) rfl rfl rfl (fun g212 hg212 => ?_)
          refine J.append 430 rfl Try.underlying32 el25 rfl hy (by show (rowW (List.replicate (zs.length + k) (mkw 3))).length = _; simp [rowW_length]) rfl rfl rfl (fun w hw => (hw.blkCs (k := 212) rfl)) (rowN_one _ _) (by omega) (by unfold maxLen; omega) rfl (zs.length + (k + 1)) rfl (rowW (List.replicate (zs.length + (k + 1)) (mkw 3))) (by show rowW (List.replicate (zs.length + k) (mkw 3)) ++ _ = _; exact growW (zs.length + k) (mkw 3)) (fun r213 hr213 => ?_)
          refine J.assign rfl rfl ?_
          refine J.end ?_
          refine X.inBlock (X.then ?_)
          refine T.text [.l, .l, .l] rfl ?_
          refine J.move rfl rfl ?_
          refine J.add rfl rfl rfl (by first | exact add_nat _ 1 (by omega) | exact i64_ok _ (by omega) | exact rfl) ?_
          refine J.assign rfl rfl ?_
          refine J.end ?_
          exact X.round ⟨(k + 1), 1, r213, (r213.val (zs.length + (k + 1)))⟩ ⟨by first | omega | (dsimp only; omega), by first | omega | (dsimp only; omega), fun q => absurd q (by first | decide | (dsimp only; decide)), fun _ => ⟨by first | omega | (dsimp only; omega), hr213, rfl⟩⟩ (by first | omega | (dsimp only; omega)) (by repeat (first | exact sn _ | refine sc rfl ?_)) (by repeat (first | exact sn _ | refine sc rfl ?_))
      obtain rfl : k = 30 := by omega
      obtain rfl : x = 1 := by
            rcases (show x = 0 ∨ x = 1 by omega) with rfl | rfl
            · exact absurd (hx_0 rfl).1 (by decide)
            · rfl
      obtain ⟨_, hy, rfl⟩ := hx_1 rfl
      refine T.asE 430 (y.ent 25 (rowW (List.replicate (zs.length + 30) (mkw 3)))) rfl rfl ?_
      refine T.exit ?_
      refine X.then_exit (X.then_exit (X.inBlock_eq (X.then ?_)))
      refine T.text [.l, .l, .l, .l, .l] rfl ?_
      refine J.move rfl rfl ?_
      refine J.move rfl rfl ?_
      refine J.lit1 216 rfl Try.underlying83 el32 (by decide) rfl [y.val (zs.length + 30)] rfl rfl rfl (fun g216 hg216 => ?_)
      refine J.append 24 rfl Try.underlying83 el32 rfl hR24 rfl rfl rfl rfl (fun w hw => (hw.blkCs (k := 216) rfl)) (by intro u hu; rw [List.mem_singleton.1 hu]; rfl) (by omega) (by unfold maxLen; omega) rfl 4 rfl [y0.val (zs.length + 30), y1.val (zs.length + 30), y2.val (zs.length + 30), y.val (zs.length + 30)] rfl (fun r217 hr217 => ?_)
      refine J.assign rfl rfl ?_
      refine J.end ?_
      refine X.mv 430 423 rfl ?_
      refine X.inBlock (X.then ?_)
      refine T.text [.l, .l, .l] rfl ?_
      refine J.move rfl rfl ?_
      refine J.add rfl rfl rfl (by first | exact add_nat _ 1 (by omega) | exact i64_ok _ (by omega) | exact rfl) ?_
      refine J.as 198 (.int .i64 ((4 : Nat) : Int)) rfl (by rfl) ?_
      refine J.assign rfl rfl ?_
      refine J.end ?_
      exact X.round ⟨4, y0, y1, y2, y, r217⟩ ⟨by first | decide | (dsimp only; decide), hr217, fun _ => hy0 (by decide), fun _ => hy1 (by decide), fun _ => hy2 (by decide), fun _ => hy⟩ (by first | omega | (dsimp only; omega)) (by repeat (first | exact sn _ | refine sc rfl ?_)) (by repeat (first | exact sn _ | refine sc rfl ?_))
  obtain rfl : i = 4 := by omega
  refine T.asE 420 (y0.ent 25 (rowW (List.replicate (zs.length + 30) (mkw 0)))) rfl rfl ?_
  refine T.asE 421 (y1.ent 25 (rowW (List.replicate (zs.length + 30) (mkw 1)))) rfl rfl ?_
  refine T.asE 422 (y2.ent 25 (rowW (List.replicate (zs.length + 30) (mkw 2)))) rfl rfl ?_
  refine T.asE 423 (y3.ent 25 (rowW (List.replicate (zs.length + 30) (mkw 3)))) rfl rfl ?_
  refine T.asE 24 (Y.ent 32 [y0.val (zs.length + 30), y1.val (zs.length + 30), y2.val (zs.length + 30), y3.val (zs.length + 30)]) rfl rfl ?_
  have hy0 := hy0 (by decide)
  have hy1 := hy1 (by decide)
  have hy2 := hy2 (by decide)
  have hy3 := hy3 (by decide)
  refine T.exit ?_
  refine X.then_exit (X.then_exit (X.inBlock_eq (X.then ?_)))
  refine T.seq ?_
  refine T.text [.l] rfl ?_
  refine J.assign rfl rfl ?_
  refine J.end ?_
  refine X.then ?_
  refine T.seq ?_
  refine T.seq ?_
  refine T.text [.l] rfl ?_
  refine J.assign rfl rfl ?_
  refine J.end ?_
  refine X.then ?_
  refine T.block ?_
  refine T.addNil 440 5 ?_
  refine T.addNil 441 5 ?_
  refine T.addNil 442 5 ?_
  refine T.addNil 443 5 ?_
  refine T.addNil 444 5 ?_
  refine T.addNil 445 5 ?_
  refine T.addNil 28 22 ?_
  refine T.loop (ι := Nat × RowIx × RowIx × RowIx × RowIx × RowIx × RowIx × RowIx) (fun ((i, z0, z1, z2, z3, z4, z5, Z) : Nat × RowIx × RowIx × RowIx × RowIx × RowIx × RowIx × RowIx) => i ≤ 6 ∧ Z.Ok 1 i ∧ (0 < i → z0.Ok 1 (bs.length + 70)) ∧ (1 < i → z1.Ok 1 (rb.length + 70)) ∧ (2 < i → z2.Ok 1 (bs.length + 70)) ∧ (3 < i → z3.Ok 1 (bs.length + 70)) ∧ (4 < i → z4.Ok 1 (rb.length + 70)) ∧ (5 < i → z5.Ok 1 (bs.length + 70))) (fun ((i, z0, z1, z2, z3, z4, z5, Z) : Nat × RowIx × RowIx × RowIx × RowIx × RowIx × RowIx × RowIx) => [(1, r53.val bs.length), (7, .pointer (some ⟨g, 0, none⟩)), (8, r.val zs.length), (9, .pointer (some ⟨g43, 0, none⟩)), (10, W9.val (2 * 2)), (11, B9.val (3 * 2)), (24, Y.val 4), (29, .int .i64 ((i : Nat) : Int)), (28, Z.val i)]) (fun ((i, z0, z1, z2, z3, z4, z5, Z) : Nat × RowIx × RowIx × RowIx × RowIx × RowIx × RowIx × RowIx) => [(100, ⟨some g, 89, stkM S ((zs.length : Nat) : Int)⟩), (101, r.ent 25 (rowW zs)), (43, ⟨some g43, 99, [i60.val mm.length]⟩), (44, i60.ent 5 (rowN .u8 mm)), (50, r53.ent 5 (rowN .u8 bs)), (10, W9.ent 32 [slv (some u0) zs.length, slv (some u1) zs.length, slv (some u2) zs.length, slv (some u3) zs.length]), (11, B9.ent 22 [slv (some s0) bs.length, slv (some s1) rb.length, slv (some s2) bs.length, slv (some s3) bs.length, slv (some s4) rb.length, slv (some s5) bs.length]), (400, eW 25 u0 zs.length 0), (401, eW 25 u1 zs.length 1), (402, eW 25 u2 zs.length 2), (403, eW 25 u3 zs.length 3), (410, eN 5 s0 bs.length 50), (411, eN 5 s1 rb.length 51), (412, eN 5 s2 bs.length 52), (413, eN 5 s3 bs.length 53), (414, eN 5 s4 rb.length 54), (415, eN 5 s5 bs.length 55), (420, y0.ent 25 (rowW (List.replicate (zs.length + 30) (mkw 0)))), (421, y1.ent 25 (rowW (List.replicate (zs.length + 30) (mkw 1)))), (422, y2.ent 25 (rowW (List.replicate (zs.length + 30) (mkw 2)))), (423, y3.ent 25 (rowW (List.replicate (zs.length + 30) (mkw 3)))), (24, Y.ent 32 [y0.val (zs.length + 30), y1.val (zs.length + 30), y2.val (zs.length + 30), y3.val (zs.length + 30)]), (440, z0.ent 5 (opt (0 < i) (rowN .u8 (List.replicate (bs.length + 70) 50)))), (441, z1.ent 5 (opt (1 < i) (rowN .u8 (List.replicate (rb.length + 70) 51)))), (442, z2.ent 5 (opt (2 < i) (rowN .u8 (List.replicate (bs.length + 70) 52)))), (443, z3.ent 5 (opt (3 < i) (rowN .u8 (List.replicate (bs.length + 70) 53)))), (444, z4.ent 5 (opt (4 < i) (rowN .u8 (List.replicate (rb.length + 70) 54)))), (445, z5.ent 5 (opt (5 < i) (rowN .u8 (List.replicate (bs.length + 70) 55)))), (28, Z.ent 22 (opt (0 < i) [z0.val (bs.length + 70)] ++ opt (1 < i) [z1.val (rb.length + 70)] ++ opt (2 < i) [z2.val (bs.length + 70)] ++ opt (3 < i) [z3.val (bs.length + 70)] ++ opt (4 < i) [z4.val (rb.length + 70)] ++ opt (5 < i) [z5.val (bs.length + 70)]))]) (fun ((i, z0, z1, z2, z3, z4, z5, Z) : Nat × RowIx × RowIx × RowIx × RowIx × RowIx × RowIx × RowIx) => 6 - i) ⟨0, RowIx.nil, RowIx.nil, RowIx.nil, RowIx.nil, RowIx.nil, RowIx.nil, RowIx.nil⟩ ⟨Nat.zero_le _, RowIx.nil_ok 1, fun q => absurd q (by first | decide | (dsimp only; decide)), fun q => absurd q (by first | decide | (dsimp only; decide)), fun q => absurd q (by first | decide | (dsimp only; decide)), fun q => absurd q (by first | decide | (dsimp only; decide)), fun q => absurd q (by first | decide | (dsimp only; decide)), fun q => absurd q (by first | decide | (dsimp only; decide))⟩ (by repeat (first | exact sn _ | refine sc rfl ?_)) (by repeat (first | exact sn _ | refine sc rfl ?_)) ?_
  rintro ⟨i, z0, z1, z2, z3, z4, z5, Z⟩ ⟨hi, hR28, hz0, hz1, hz2, hz3, hz4, hz5⟩
  try dsimp only at *
  refine T.seq ?_
  refine T.seq ?_
  refine T.text [.l, .l, .l, .l] rfl ?_
  refine J.move rfl rfl ?_
  refine J.move rfl rfl ?_
  refine J.lenSl Try.underlying84 rfl rfl ?_
  refine J.lss rfl rfl rfl rfl ?_
  refine J.end ?_
  refine X.then ?_
  refine T.cond_dec rfl (fun h20 => ?_) (fun h20 => ?_)
  · rcases (show i = 0 ∨ i = 1 ∨ i = 2 ∨ i = 3 ∨ i = 4 ∨ i = 5 from by omega) with rfl | rfl | rfl | rfl | rfl | rfl
    · skip
      refine T.skip ?_
      refine X.then ?_
      refine T.seq ?_
      refine T.block ?_
      refine T.seq ?_
      refine T.text [.l, .l, .l, .l, .l] rfl ?_
      refine J.move rfl rfl ?_
      refine J.move rfl rfl ?_
      refine J.indexRow sl84 rfl (hq11.some (by omega)) rfl (by omega) (by omega) (by first | exact Int.toNat_natCast _ | rfl) rfl ?_
      refine J.load1 (k := .l) trivial 11 rfl rfl one22 rfl rfl ?_
      refine J.assign rfl rfl ?_
      refine J.end ?_
      refine X.then ?_
      refine T.seq ?_
      refine T.seq ?_
      refine T.text [.l] rfl ?_
      refine J.assign rfl rfl ?_
      refine J.end ?_
      refine X.then ?_
      refine T.block ?_
      refine T.addNil 450 5 ?_
      refine T.loop (ι := Nat × Nat × RowIx × Value) (fun ((k, x, y, v) : Nat × Nat × RowIx × Value) => k ≤ 70 ∧ x ≤ 1 ∧ (x = 0 → 0 = k ∧ Value.slice (some ⟨s0, 0, none⟩) bs.length bs.length = v) ∧ (x = 1 → 0 < k ∧ y.Ok 1 (bs.length + k) ∧ y.val (bs.length + k) = v)) (fun ((k, x, y, v) : Nat × Nat × RowIx × Value) => [(1, r53.val bs.length), (7, .pointer (some ⟨g, 0, none⟩)), (8, r.val zs.length), (9, .pointer (some ⟨g43, 0, none⟩)), (10, W9.val (2 * 2)), (11, B9.val (3 * 2)), (24, Y.val 4), (29, .int .i64 ((0 : Nat) : Int)), (28, Z.val 0), (31, .int .i64 ((k : Nat) : Int)), (30, v)]) (fun ((k, x, y, v) : Nat × Nat × RowIx × Value) => [(100, ⟨some g, 89, stkM S ((zs.length : Nat) : Int)⟩), (101, r.ent 25 (rowW zs)), (43, ⟨some g43, 99, [i60.val mm.length]⟩), (44, i60.ent 5 (rowN .u8 mm)), (50, r53.ent 5 (rowN .u8 bs)), (10, W9.ent 32 [slv (some u0) zs.length, slv (some u1) zs.length, slv (some u2) zs.length, slv (some u3) zs.length]), (11, B9.ent 22 [slv (some s0) bs.length, slv (some s1) rb.length, slv (some s2) bs.length, slv (some s3) bs.length, slv (some s4) rb.length, slv (some s5) bs.length]), (400, eW 25 u0 zs.length 0), (401, eW 25 u1 zs.length 1), (402, eW 25 u2 zs.length 2), (403, eW 25 u3 zs.length 3), (410, eN 5 s0 bs.length 50), (411, eN 5 s1 rb.length 51), (412, eN 5 s2 bs.length 52), (413, eN 5 s3 bs.length 53), (414, eN 5 s4 rb.length 54), (415, eN 5 s5 bs.length 55), (420, y0.ent 25 (rowW (List.replicate (zs.length + 30) (mkw 0)))), (421, y1.ent 25 (rowW (List.replicate (zs.length + 30) (mkw 1)))), (422, y2.ent 25 (rowW (List.replicate (zs.length + 30) (mkw 2)))), (423, y3.ent 25 (rowW (List.replicate (zs.length + 30) (mkw 3)))), (24, Y.ent 32 [y0.val (zs.length + 30), y1.val (zs.length + 30), y2.val (zs.length + 30), y3.val (zs.length + 30)]), (440, z0.ent 5 (opt (0 < 0) (rowN .u8 (List.replicate (bs.length + 70) 50)))), (441, z1.ent 5 (opt (1 < 0) (rowN .u8 (List.replicate (rb.length + 70) 51)))), (442, z2.ent 5 (opt (2 < 0) (rowN .u8 (List.replicate (bs.length + 70) 52)))), (443, z3.ent 5 (opt (3 < 0) (rowN .u8 (List.replicate (bs.length + 70) 53)))), (444, z4.ent 5 (opt (4 < 0) (rowN .u8 (List.replicate (rb.length + 70) 54)))), (445, z5.ent 5 (opt (5 < 0) (rowN .u8 (List.replicate (bs.length + 70) 55)))), (28, Z.ent 22 (opt (0 < 0) [z0.val (bs.length + 70)] ++ opt (1 < 0) [z1.val (rb.length + 70)] ++ opt (2 < 0) [z2.val (bs.length + 70)] ++ opt (3 < 0) [z3.val (bs.length + 70)] ++ opt (4 < 0) [z4.val (rb.length + 70)] ++ opt (5 < 0) [z5.val (bs.length + 70)])), (450, y.ent 5 (opt (x = 1) (rowN .u8 (List.replicate (bs.length + k) 50))))]) (fun ((k, x, y, v) : Nat × Nat × RowIx × Value) => 70 - k) ⟨0, 0, RowIx.nil, (Value.slice (some ⟨s0, 0, none⟩) bs.length bs.length)⟩ ⟨Nat.zero_le _, by omega, fun _ => ⟨rfl, rfl⟩, fun q => absurd q (by first | decide | (dsimp only; decide))⟩ (by repeat (first | exact sn _ | refine sc rfl ?_)) (by repeat (first | exact sn _ | refine sc rfl ?_)) ?_
      rintro ⟨k, x, y, v⟩ ⟨hk, hxx, hx_0, hx_1⟩
      try dsimp only at *
      refine T.seq ?_
      refine T.seq ?_
      refine T.text [.l, .l] rfl ?_
      refine J.move rfl rfl ?_
      refine J.lss rfl rfl rfl rfl ?_
      refine J.end ?_
      refine X.then ?_
      refine T.cond_dec rfl (fun h21 => ?_) (fun h21 => ?_)
      · rcases (show x = 0 ∨ x = 1 from by omega) with rfl | rfl
        · obtain ⟨rfl, rfl⟩ := hx_0 rfl
          refine T.skip ?_
          refine X.then ?_
          refine T.seq ?_
          refine T.block ?_
          refine T.text [.l, .l, .l, .l, .l, .l, .l] rfl ?_
          refine J.move rfl rfl ?_
          refine J.move rfl rfl ?_
          refine J.add rfl rfl rfl (show _ = (50 : Int) by rfl) ?_
          refine J.conv (by rw [Try.underlying3]; rfl) Try.underlying5 rfl rfl (show _ = (50 : Int) by rfl) ?_
          refine J.lit1 236 rfl Try.underlying22 el5 (by decide) rfl [.int .u8 ((50 : Nat) : Int)] rfl rfl rfl (fun g236 hg236 => ?_)
          refine J.appendFull 410 450 rfl Try.underlying22 el5 rfl (by simp [rowN_length]) rfl rfl (by decide) rfl (fun w hw => (hw.blkCs (k := 236) rfl)) (by omega) (by unfold maxLen; omega) rfl (bs.length + 1) rfl (rowN .u8 (List.replicate (bs.length + 1) 50)) (by exact growN (bs.length) 50) (fun r237 hr237 => ?_)
          refine J.assign rfl rfl ?_
          refine J.end ?_
          refine X.inBlock (X.then ?_)
          refine T.text [.l, .l, .l] rfl ?_
          refine J.move rfl rfl ?_
          refine J.add rfl rfl rfl (by first | exact add_nat _ 1 (by omega) | exact i64_ok _ (by omega) | exact rfl) ?_
          refine J.assign rfl rfl ?_
          refine J.end ?_
          exact X.round ⟨(0 + 1), 1, r237, (r237.val (bs.length + 1))⟩ ⟨by first | omega | (dsimp only; omega), by first | omega | (dsimp only; omega), fun q => absurd q (by first | decide | (dsimp only; decide)), fun _ => ⟨by first | omega | (dsimp only; omega), hr237, rfl⟩⟩ (by first | omega | (dsimp only; omega)) (by repeat (first | exact sn _ | refine sc rfl ?_)) (by repeat (first | exact sn _ | refine sc rfl ?_))
        · obtain ⟨hk0, hy, rfl⟩ := hx_1 rfl
          refine T.skip ?_
          refine X.then ?_
          refine T.seq ?_
          refine T.block ?_
          refine T.text [.l, .l, .l, .l, .l, .l, .l] rfl ?_
          refine J.move rfl rfl ?_
          refine J.move rfl rfl ?_
          refine J.add rfl rfl rfl (show _ = (50 : Int) by rfl) ?_
          refine J.conv (by rw [Try.underlying3]; rfl) Try.underlying5 rfl rfl (show _ = (50 : Int) by rfl) ?_
          refine J.lit1 236 rfl Try.underlying22 el5 (by decide) rfl [.int .u8 ((50 : Nat) : Int)] rfl rfl rfl (fun g236 hg236 => ?_)
          refine J.append 450 rfl Try.underlying22 el5 rfl hy (by show (rowN .u8 (List.replicate (bs.length + k) 50)).length = _; simp [rowN_length]) rfl rfl rfl (fun w hw => (hw.blkCs (k := 236) rfl)) (by intro u hu; rw [List.mem_singleton.1 hu]; rfl) (by omega) (by unfold maxLen; omega) rfl (bs.length + (k + 1)) rfl (rowN .u8 (List.replicate (bs.length + (k + 1)) 50)) (by show rowN .u8 (List.replicate (bs.length + k) 50) ++ _ = _; exact growN (bs.length + k) 50) (fun r237 hr237 => ?_)
          refine J.assign rfl rfl ?_
          refine J.end ?_
          refine X.inBlock (X.then ?_)
          refine T.text [.l, .l, .l] rfl ?_
          refine J.move rfl rfl ?_
          refine J.add rfl rfl rfl (by first | exact add_nat _ 1 (by omega) | exact i64_ok _ (by omega) | exact rfl) ?_
          refine J.assign rfl rfl ?_
          refine J.end ?_
          exact X.round ⟨(k + 1), 1, r237, (r237.val (bs.length + (k + 1)))⟩ ⟨by first | omega | (dsimp only; omega), by first | omega | (dsimp only; omega), fun q => absurd q (by first | decide | (dsimp only; decide)), fun _ => ⟨by first | omega | (dsimp only; omega), hr237, rfl⟩⟩ (by first | omega | (dsimp only; omega)) (by repeat (first | exact sn _ | refine sc rfl ?_)) (by repeat (first | exact sn _ | refine sc rfl ?_))
      obtain rfl : k = 70 := by omega
      obtain rfl : x = 1 := by
            rcases (show x = 0 ∨ x = 1 by omega) with rfl | rfl
            · exact absurd (hx_0 rfl).1 (by decide)
            · rfl
      obtain ⟨_, hy, rfl⟩ := hx_1 rfl
      refine T.asE 450 (y.ent 5 (rowN .u8 (List.replicate (bs.length + 70) 50))) rfl rfl ?_
      refine T.exit ?_
      refine X.then_exit (X.then_exit (X.inBlock_eq (X.then ?_)))
      refine T.text [.l, .l, .l, .l, .l] rfl ?_
      refine J.move rfl rfl ?_
      refine J.move rfl rfl ?_
      refine J.lit1 240 rfl Try.underlying84 el22 (by decide) rfl [y.val (bs.length + 70)] rfl rfl rfl (fun g240 hg240 => ?_)
      refine J.append 28 rfl Try.underlying84 el22 rfl hR28 rfl rfl rfl rfl (fun w hw => (hw.blkCs (k := 240) rfl)) (by intro u hu; rw [List.mem_singleton.1 hu]; rfl) (by omega) (by unfold maxLen; omega) rfl 1 rfl [y.val (bs.length + 70)] rfl (fun r241 hr241 => ?_)
      refine J.assign rfl rfl ?_
      refine J.end ?_
      refine X.mv 450 440 rfl ?_
      refine X.inBlock (X.then ?_)
      refine T.text [.l, .l, .l] rfl ?_
      refine J.move rfl rfl ?_
      refine J.add rfl rfl rfl (by first | exact add_nat _ 1 (by omega) | exact i64_ok _ (by omega) | exact rfl) ?_
      refine J.as 223 (.int .i64 ((1 : Nat) : Int)) rfl (by rfl) ?_
      refine J.assign rfl rfl ?_
      refine J.end ?_
      exact X.round ⟨1, y, z1, z2, z3, z4, z5, r241⟩ ⟨by first | decide | (dsimp only; decide), hr241, fun _ => hy, fun q => absurd q (by first | decide | (dsimp only; decide)), fun q => absurd q (by first | decide | (dsimp only; decide)), fun q => absurd q (by first | decide | (dsimp only; decide)), fun q => absurd q (by first | decide | (dsimp only; decide)), fun q => absurd q (by first | decide | (dsimp only; decide))⟩ (by first | omega | (dsimp only; omega)) (by repeat (first | exact sn _ | refine sc rfl ?_)) (by repeat (first | exact sn _ | refine sc rfl ?_))
    · skip
      refine T.skip ?_
      refine X.then ?_
      refine T.seq ?_
      refine T.block ?_
      refine T.seq ?_
      refine T.text [.l, .l, .l, .l, .l] rfl ?_
      refine J.move rfl rfl ?_
      refine J.move rfl rfl ?_
      refine J.indexRow sl84 rfl (hq11.some (by omega)) rfl (by omega) (by omega) (by first | exact Int.toNat_natCast _ | rfl) rfl ?_
      refine J.load1 (k := .l) trivial 11 rfl rfl one22 rfl rfl ?_
      refine J.assign rfl rfl ?_
      refine J.end ?_
      refine X.then ?_
      refine T.seq ?_
      refine T.seq ?_
      refine T.text [.l] rfl ?_
      refine J.assign rfl rfl ?_
      refine J.end ?_
      refine X.then ?_
      refine T.block ?_
      refine T.addNil 450 5 ?_
      refine T.loop (ι := Nat × Nat × RowIx × Value) (fun ((k, x, y, v) : Nat × Nat × RowIx × Value) => k ≤ 70 ∧ x ≤ 1 ∧ (x = 0 → 0 = k ∧ Value.slice (some ⟨s1, 0, none⟩) rb.length rb.length = v) ∧ (x = 1 → 0 < k ∧ y.Ok 1 (rb.length + k) ∧ y.val (rb.length + k) = v)) (fun ((k, x, y, v) : Nat × Nat × RowIx × Value) => [(1, r53.val bs.length), (7, .pointer (some ⟨g, 0, none⟩)), (8, r.val zs.length), (9, .pointer (some ⟨g43, 0, none⟩)), (10, W9.val (2 * 2)), (11, B9.val (3 * 2)), (24, Y.val 4), (29, .int .i64 ((1 : Nat) : Int)), (28, Z.val 1), (31, .int .i64 ((k : Nat) : Int)), (30, v)]) (fun ((k, x, y, v) : Nat × Nat × RowIx × Value) => [(100, ⟨some g, 89, stkM S ((zs.length : Nat) : Int)⟩), (101, r.ent 25 (rowW zs)), (43, ⟨some g43, 99, [i60.val mm.length]⟩), (44, i60.ent 5 (rowN .u8 mm)), (50, r53.ent 5 (rowN .u8 bs)), (10, W9.ent 32 [slv (some u0) zs.length, slv (some u1) zs.length, slv (some u2) zs.length, slv (some u3) zs.length]), (11, B9.ent 22 [slv (some s0) bs.length, slv (some s1) rb.length, slv (some s2) bs.length, slv (some s3) bs.length, slv (some s4) rb.length, slv (some s5) bs.length]), (400, eW 25 u0 zs.length 0), (401, eW 25 u1 zs.length 1), (402, eW 25 u2 zs.length 2), (403, eW 25 u3 zs.length 3), (410, eN 5 s0 bs.length 50), (411, eN 5 s1 rb.length 51), (412, eN 5 s2 bs.length 52), (413, eN 5 s3 bs.length 53), (414, eN 5 s4 rb.length 54), (415, eN 5 s5 bs.length 55), (420, y0.ent 25 (rowW (List.replicate (zs.length + 30) (mkw 0)))), (421, y1.ent 25 (rowW (List.replicate (zs.length + 30) (mkw 1)))), (422, y2.ent 25 (rowW (List.replicate (zs.length + 30) (mkw 2)))), (423, y3.ent 25 (rowW (List.replicate (zs.length + 30) (mkw 3)))), (24, Y.ent 32 [y0.val (zs.length + 30), y1.val (zs.length + 30), y2.val (zs.length + 30), y3.val (zs.length + 30)]), (440, z0.ent 5 (opt (0 < 1) (rowN .u8 (List.replicate (bs.length + 70) 50)))), (441, z1.ent 5 (opt (1 < 1) (rowN .u8 (List.replicate (rb.length + 70) 51)))), (442, z2.ent 5 (opt (2 < 1) (rowN .u8 (List.replicate (bs.length + 70) 52)))), (443, z3.ent 5 (opt (3 < 1) (rowN .u8 (List.replicate (bs.length + 70) 53)))), (444, z4.ent 5 (opt (4 < 1) (rowN .u8 (List.replicate (rb.length + 70) 54)))), (445, z5.ent 5 (opt (5 < 1) (rowN .u8 (List.replicate (bs.length + 70) 55)))), (28, Z.ent 22 (opt (0 < 1) [z0.val (bs.length + 70)] ++ opt (1 < 1) [z1.val (rb.length + 70)] ++ opt (2 < 1) [z2.val (bs.length + 70)] ++ opt (3 < 1) [z3.val (bs.length + 70)] ++ opt (4 < 1) [z4.val (rb.length + 70)] ++ opt (5 < 1) [z5.val (bs.length + 70)])), (450, y.ent 5 (opt (x = 1) (rowN .u8 (List.replicate (rb.length + k) 51))))]) (fun ((k, x, y, v) : Nat × Nat × RowIx × Value) => 70 - k) ⟨0, 0, RowIx.nil, (Value.slice (some ⟨s1, 0, none⟩) rb.length rb.length)⟩ ⟨Nat.zero_le _, by omega, fun _ => ⟨rfl, rfl⟩, fun q => absurd q (by first | decide | (dsimp only; decide))⟩ (by repeat (first | exact sn _ | refine sc rfl ?_)) (by repeat (first | exact sn _ | refine sc rfl ?_)) ?_
      rintro ⟨k, x, y, v⟩ ⟨hk, hxx, hx_0, hx_1⟩
      try dsimp only at *
      refine T.seq ?_
      refine T.seq ?_
      refine T.text [.l, .l] rfl ?_
      refine J.move rfl rfl ?_
      refine J.lss rfl rfl rfl rfl ?_
      refine J.end ?_
      refine X.then ?_
      refine T.cond_dec rfl (fun h22 => ?_) (fun h22 => ?_)
      · rcases (show x = 0 ∨ x = 1 from by omega) with rfl | rfl
        · obtain ⟨rfl, rfl⟩ := hx_0 rfl
          refine T.skip ?_
          refine X.then ?_
          refine T.seq ?_
          refine T.block ?_
          refine T.text [.l, .l, .l, .l, .l, .l, .l] rfl ?_
          refine J.move rfl rfl ?_
          refine J.move rfl rfl ?_
          refine J.add rfl rfl rfl (show _ = (51 : Int) by rfl) ?_
          refine J.conv (by rw [Try.underlying3]; rfl) Try.underlying5 rfl rfl (show _ = (51 : Int) by rfl) ?_
          refine J.lit1 236 rfl Try.underlying22 el5 (by decide) rfl [.int .u8 ((51 : Nat) : Int)] rfl rfl rfl (fun g236 hg236 => ?_)
          refine J.appendFull 411 450 rfl Try.underlying22 el5 rfl (by simp [rowN_length]) rfl rfl (by decide) rfl (fun w hw => (hw.blkCs (k := 236) rfl)) (by omega) (by unfold maxLen; omega) rfl (rb.length + 1) rfl (rowN .u8 (List.replicate (rb.length + 1) 51)) (by exact growN (rb.length) 51) (fun r237 hr237 => ?_)
          refine J.assign rfl rfl ?_
          refine J.end ?_
          refine X.inBlock (X.then ?_)
          refine T.text [.l, .l, .l] rfl ?_
          refine J.move rfl rfl ?_
          refine J.add rfl rfl rfl (by first | exact add_nat _ 1 (by omega) | exact i64_ok _ (by omega) | exact rfl) ?_
          refine J.assign rfl rfl ?_
          refine J.end ?_
          exact X.round ⟨(0 + 1), 1, r237, (r237.val (rb.length + 1))⟩ ⟨by first | omega | (dsimp only; omega), by first | omega | (dsimp only; omega), fun q => absurd q (by first | decide | (dsimp only; decide)), fun _ => ⟨by first | omega | (dsimp only; omega), hr237, rfl⟩⟩ (by first | omega | (dsimp only; omega)) (by repeat (first | exact sn _ | refine sc rfl ?_)) (by repeat (first | exact sn _ | refine sc rfl ?_))
        · obtain ⟨hk0, hy, rfl⟩ := hx_1 rfl
          refine T.skip ?_
          refine X.then ?_
          refine T.seq ?_
          refine T.block ?_
          refine T.text [.l, .l, .l, .l, .l, .l, .l] rfl ?_
          refine J.move rfl rfl ?_
          refine J.move rfl rfl ?_
          refine J.add rfl rfl rfl (show _ = (51 : Int) by rfl) ?_
          refine J.conv (by rw [Try.underlying3]; rfl) Try.underlying5 rfl rfl (show _ = (51 : Int) by rfl) ?_
          refine J.lit1 236 rfl Try.underlying22 el5 (by decide) rfl [.int .u8 ((51 : Nat) : Int)] rfl rfl rfl (fun g236 hg236 => ?_)
          refine J.append 450 rfl Try.underlying22 el5 rfl hy (by show (rowN .u8 (List.replicate (rb.length + k) 51)).length = _; simp [rowN_length]) rfl rfl rfl (fun w hw => (hw.blkCs (k := 236) rfl)) (by intro u hu; rw [List.mem_singleton.1 hu]; rfl) (by omega) (by unfold maxLen; omega) rfl (rb.length + (k + 1)) rfl (rowN .u8 (List.replicate (rb.length + (k + 1)) 51)) (by show rowN .u8 (List.replicate (rb.length + k) 51) ++ _ = _; exact growN (rb.length + k) 51) (fun r237 hr237 => ?_)
          refine J.assign rfl rfl ?_
          refine J.end ?_
          refine X.inBlock (X.then ?_)
          refine T.text [.l, .l, .l] rfl ?_
          refine J.move rfl rfl ?_
          refine J.add rfl rfl rfl (by first | exact add_nat _ 1 (by omega) | exact i64_ok _ (by omega) | exact rfl) ?_
          refine J.assign rfl rfl ?_
          refine J.end ?_
          exact X.round ⟨(k + 1), 1, r237, (r237.val (rb.length + (k + 1)))⟩ ⟨by first | omega | (dsimp only; omega), by first | omega | (dsimp only; omega), fun q => absurd q (by first | decide | (dsimp only; decide)), fun _ => ⟨by first | omega | (dsimp only; omega), hr237, rfl⟩⟩ (by first | omega | (dsimp only; omega)) (by repeat (first | exact sn _ | refine sc rfl ?_)) (by repeat (first | exact sn _ | refine sc rfl ?_))
      obtain rfl : k = 70 := by omega
      obtain rfl : x = 1 := by
            rcases (show x = 0 ∨ x = 1 by omega) with rfl | rfl
            · exact absurd (hx_0 rfl).1 (by decide)
            · rfl
      obtain ⟨_, hy, rfl⟩ := hx_1 rfl
      refine T.asE 450 (y.ent 5 (rowN .u8 (List.replicate (rb.length + 70) 51))) rfl rfl ?_
      refine T.exit ?_
      refine X.then_exit (X.then_exit (X.inBlock_eq (X.then ?_)))
      refine T.text [.l, .l, .l, .l, .l] rfl ?_
      refine J.move rfl rfl ?_
      refine J.move rfl rfl ?_
      refine J.lit1 240 rfl Try.underlying84 el22 (by decide) rfl [y.val (rb.length + 70)] rfl rfl rfl (fun g240 hg240 => ?_)
      refine J.append 28 rfl Try.underlying84 el22 rfl hR28 rfl rfl rfl rfl (fun w hw => (hw.blkCs (k := 240) rfl)) (by intro u hu; rw [List.mem_singleton.1 hu]; rfl) (by omega) (by unfold maxLen; omega) rfl 2 rfl [z0.val (bs.length + 70), y.val (rb.length + 70)] rfl (fun r241 hr241 => ?_)
      refine J.assign rfl rfl ?_
      refine J.end ?_
      refine X.mv 450 441 rfl ?_
      refine X.inBlock (X.then ?_)
      refine T.text [.l, .l, .l] rfl ?_
      refine J.move rfl rfl ?_
      refine J.add rfl rfl rfl (by first | exact add_nat _ 1 (by omega) | exact i64_ok _ (by omega) | exact rfl) ?_
      refine J.as 223 (.int .i64 ((2 : Nat) : Int)) rfl (by rfl) ?_
      refine J.assign rfl rfl ?_
      refine J.end ?_
      exact X.round ⟨2, z0, y, z2, z3, z4, z5, r241⟩ ⟨by first | decide | (dsimp only; decide), hr241, fun _ => hz0 (by decide), fun _ => hy, fun q => absurd q (by first | decide | (dsimp only; decide)), fun q => absurd q (by first | decide | (dsimp only; decide)), fun q => absurd q (by first | decide | (dsimp only; decide)), fun q => absurd q (by first | decide | (dsimp only; decide))⟩ (by first | omega | (dsimp only; omega)) (by repeat (first | exact sn _ | refine sc rfl ?_)) (by repeat (first | exact sn _ | refine sc rfl ?_))
    · skip
      refine T.skip ?_
      refine X.then ?_
      refine T.seq ?_
      refine T.block ?_
      refine T.seq ?_
      refine T.text [.l, .l, .l, .l, .l] rfl ?_
      refine J.move rfl rfl ?_
      refine J.move rfl rfl ?_
      refine J.indexRow sl84 rfl (hq11.some (by omega)) rfl (by omega) (by omega) (by first | exact Int.toNat_natCast _ | rfl) rfl ?_
      refine J.load1 (k := .l) trivial 11 rfl rfl one22 rfl rfl ?_
      refine J.assign rfl rfl ?_
      refine J.end ?_
      refine X.then ?_
      refine T.seq ?_
      refine T.seq ?_
      refine T.text [.l] rfl ?_
      refine J.assign rfl rfl ?_
      refine J.end ?_
      refine X.then ?_
      refine T.block ?_
      refine T.addNil 450 5 ?_
      refine T.loop (ι := Nat × Nat × RowIx × Value) (fun ((k, x, y, v) : Nat × Nat × RowIx × Value) => k ≤ 70 ∧ x ≤ 1 ∧ (x = 0 → 0 = k ∧ Value.slice (some ⟨s2, 0, none⟩) bs.length bs.length = v) ∧ (x = 1 → 0 < k ∧ y.Ok 1 (bs.length + k) ∧ y.val (bs.length + k) = v)) (fun ((k, x, y, v) : Nat × Nat × RowIx × Value) => [(1, r53.val bs.length), (7, .pointer (some ⟨g, 0, none⟩)), (8, r.val zs.length), (9, .pointer (some ⟨g43, 0, none⟩)), (10, W9.val (2 * 2)), (11, B9.val (3 * 2)), (24, Y.val 4), (29, .int .i64 ((2 : Nat) : Int)), (28, Z.val 2), (31, .int .i64 ((k : Nat) : Int)), (30, v)]) (fun ((k, x, y, v) : Nat × Nat × RowIx × Value) => [(100, ⟨some g, 89, stkM S ((zs.length : Nat) : Int)⟩), (101, r.ent 25 (rowW zs)), (43, ⟨some g43, 99, [i60.val mm.length]⟩), (44, i60.ent 5 (rowN .u8 mm)), (50, r53.ent 5 (rowN .u8 bs)), (10, W9.ent 32 [slv (some u0) zs.length, slv (some u1) zs.length, slv (some u2) zs.length, slv (some u3) zs.length]), (11, B9.ent 22 [slv (some s0) bs.length, slv (some s1) rb.length, slv (some s2) bs.length, slv (some s3) bs.length, slv (some s4) rb.length, slv (some s5) bs.length]), (400, eW 25 u0 zs.length 0), (401, eW 25 u1 zs.length 1), (402, eW 25 u2 zs.length 2), (403, eW 25 u3 zs.length 3), (410, eN 5 s0 bs.length 50), (411, eN 5 s1 rb.length 51), (412, eN 5 s2 bs.length 52), (413, eN 5 s3 bs.length 53), (414, eN 5 s4 rb.length 54), (415, eN 5 s5 bs.length 55), (420, y0.ent 25 (rowW (List.replicate (zs.length + 30) (mkw 0)))), (421, y1.ent 25 (rowW (List.replicate (zs.length + 30) (mkw 1)))), (422, y2.ent 25 (rowW (List.replicate (zs.length + 30) (mkw 2)))), (423, y3.ent 25 (rowW (List.replicate (zs.length + 30) (mkw 3)))), (24, Y.ent 32 [y0.val (zs.length + 30), y1.val (zs.length + 30), y2.val (zs.length + 30), y3.val (zs.length + 30)]), (440, z0.ent 5 (opt (0 < 2) (rowN .u8 (List.replicate (bs.length + 70) 50)))), (441, z1.ent 5 (opt (1 < 2) (rowN .u8 (List.replicate (rb.length + 70) 51)))), (442, z2.ent 5 (opt (2 < 2) (rowN .u8 (List.replicate (bs.length + 70) 52)))), (443, z3.ent 5 (opt (3 < 2) (rowN .u8 (List.replicate (bs.length + 70) 53)))), (444, z4.ent 5 (opt (4 < 2) (rowN .u8 (List.replicate (rb.length + 70) 54)))), (445, z5.ent 5 (opt (5 < 2) (rowN .u8 (List.replicate (bs.length + 70) 55)))), (28, Z.ent 22 (opt (0 < 2) [z0.val (bs.length + 70)] ++ opt (1 < 2) [z1.val (rb.length + 70)] ++ opt (2 < 2) [z2.val (bs.length + 70)] ++ opt (3 < 2) [z3.val (bs.length + 70)] ++ opt (4 < 2) [z4.val (rb.length + 70)] ++ opt (5 < 2) [z5.val (bs.length + 70)])), (450, y.ent 5 (opt (x = 1) (rowN .u8 (List.replicate (bs.length + k) 52))))]) (fun ((k, x, y, v) : Nat × Nat × RowIx × Value) => 70 - k) ⟨0, 0, RowIx.nil, (Value.slice (some ⟨s2, 0, none⟩) bs.length bs.length)⟩ ⟨Nat.zero_le _, by omega, fun _ => ⟨rfl, rfl⟩, fun q => absurd q (by first | decide | (dsimp only; decide))⟩ (by repeat (first | exact sn _ | refine sc rfl ?_)) (by repeat (first | exact sn _ | refine sc rfl ?_)) ?_
      rintro ⟨k, x, y, v⟩ ⟨hk, hxx, hx_0, hx_1⟩
      try dsimp only at *
      refine T.seq ?_
      refine T.seq ?_
      refine T.text [.l, .l] rfl ?_
      refine J.move rfl rfl ?_
      refine J.lss rfl rfl rfl rfl ?_
      refine J.end ?_
      refine X.then ?_
      refine T.cond_dec rfl (fun h23 => ?_) (fun h23 => ?_)
      · rcases (show x = 0 ∨ x = 1 from by omega) with rfl | rfl
        · obtain ⟨rfl, rfl⟩ := hx_0 rfl
          refine T.skip ?_
          refine X.then ?_
          refine T.seq ?_
          refine T.block ?_
          refine T.text [.l, .l, .l, .l, .l, .l, .l] rfl ?_
          refine J.move rfl rfl ?_
          refine J.move rfl rfl ?_
          refine J.add rfl rfl rfl (show _ = (52 : Int) by rfl) ?_
          refine J.conv (by rw [Try.underlying3]; rfl) Try.underlying5 rfl rfl (show _ = (52 : Int) by rfl) ?_
          refine J.lit1 236 rfl Try.underlying22 el5 (by decide) rfl [.int .u8 ((52 : Nat) : Int)] rfl rfl rfl (fun g236 hg236 => ?_)
          refine J.appendFull 412 450 rfl Try.underlying22 el5 rfl (by simp [rowN_length]) rfl rfl (by decide) rfl (fun w hw => (hw.blkCs (k := 236) rfl)) (by omega) (by unfold maxLen; omega) rfl (bs.length + 1) rfl (rowN .u8 (List.replicate (bs.length + 1) 52)) (by exact growN (bs.length) 52) (fun r237 hr237 => ?_)
          refine J.assign rfl rfl ?_
          refine J.end ?_
          refine X.inBlock (X.then ?_)
          refine T.text [.l, .l, .l] rfl ?_
          refine J.move rfl rfl ?_
          refine J.add rfl rfl rfl (by first | exact add_nat _ 1 (by omega) | exact i64_ok _ (by omega) | exact rfl) ?_
          refine J.assign rfl rfl ?_
          refine J.end ?_
          exact X.round ⟨(0 + 1), 1, r237, (r237.val (bs.length + 1))⟩ ⟨by first | omega | (dsimp only; omega), by first | omega | (dsimp only; omega), fun q => absurd q (by first | decide | (dsimp only; decide)), fun _ => ⟨by first | omega | (dsimp only; omega), hr237, rfl⟩⟩ (by first | omega | (dsimp only; omega)) (by repeat (first | exact sn _ | refine sc rfl ?_)) (by repeat (first | exact sn _ | refine sc rfl ?_))
        · obtain ⟨hk0, hy, rfl⟩ := hx_1 rfl
          refine T.skip ?_
          refine X.then ?_
          refine T.seq ?_
          refine T.block ?_
          refine T.text [.l, .l, .l, .l, .l, .l, .l] rfl ?_
          refine J.move rfl rfl ?_
          refine J.move rfl rfl ?_
          refine J.add rfl rfl rfl (show _ = (52 : Int) by rfl) ?_
          refine J.conv (by rw [Try.underlying3]; rfl) Try.underlying5 rfl rfl (show _ = (52 : Int) by rfl) ?_
          refine J.lit1 236 rfl Try.underlying22 el5 (by decide) rfl [.int .u8 ((52 : Nat) : Int)] rfl rfl rfl (fun g236 hg236 => ?_)
          refine J.append 450 rfl Try.underlying22 el5 rfl hy (by show (rowN .u8 (List.replicate (bs.length + k) 52)).length = _; simp [rowN_length]) rfl rfl rfl (fun w hw => (hw.blkCs (k := 236) rfl)) (by intro u hu; rw [List.mem_singleton.1 hu]; rfl) (by omega) (by unfold maxLen; omega) rfl (bs.length + (k + 1)) rfl (rowN .u8 (List.replicate (bs.length + (k + 1)) 52)) (by show rowN .u8 (List.replicate (bs.length + k) 52) ++ _ = _; exact growN (bs.length + k) 52) (fun r237 hr237 => ?_)
          refine J.assign rfl rfl ?_
          refine J.end ?_
          refine X.inBlock (X.then ?_)
          refine T.text [.l, .l, .l] rfl ?_
          refine J.move rfl rfl ?_
          refine J.add rfl rfl rfl (by first | exact add_nat _ 1 (by omega) | exact i64_ok _ (by omega) | exact rfl) ?_
          refine J.assign rfl rfl ?_
          refine J.end ?_
          exact X.round ⟨(k + 1), 1, r237, (r237.val (bs.length + (k + 1)))⟩ ⟨by first | omega | (dsimp only; omega), by first | omega | (dsimp only; omega), fun q => absurd q (by first | decide | (dsimp only; decide)), fun _ => ⟨by first | omega | (dsimp only; omega), hr237, rfl⟩⟩ (by first | omega | (dsimp only; omega)) (by repeat (first | exact sn _ | refine sc rfl ?_)) (by repeat (first | exact sn _ | refine sc rfl ?_))
      obtain rfl : k = 70 := by omega
      obtain rfl : x = 1 := by
            rcases (show x = 0 ∨ x = 1 by omega) with rfl | rfl
            · exact absurd (hx_0 rfl).1 (by decide)
            · rfl
      obtain ⟨_, hy, rfl⟩ := hx_1 rfl
      refine T.asE 450 (y.ent 5 (rowN .u8 (List.replicate (bs.length + 70) 52))) rfl rfl ?_
      refine T.exit ?_
      refine X.then_exit (X.then_exit (X.inBlock_eq (X.then ?_)))
      refine T.text [.l, .l, .l, .l, .l] rfl ?_
      refine J.move rfl rfl ?_
      refine J.move rfl rfl ?_
      refine J.lit1 240 rfl Try.underlying84 el22 (by decide) rfl [y.val (bs.length + 70)] rfl rfl rfl (fun g240 hg240 => ?_)
      refine J.append 28 rfl Try.underlying84 el22 rfl hR28 rfl rfl rfl rfl (fun w hw => (hw.blkCs (k := 240) rfl)) (by intro u hu; rw [List.mem_singleton.1 hu]; rfl) (by omega) (by unfold maxLen; omega) rfl 3 rfl [z0.val (bs.length + 70), z1.val (rb.length + 70), y.val (bs.length + 70)] rfl (fun r241 hr241 => ?_)
      refine J.assign rfl rfl ?_
      refine J.end ?_
      refine X.mv 450 442 rfl ?_
      refine X.inBlock (X.then ?_)
      refine T.text [.l, .l, .l] rfl ?_
      refine J.move rfl rfl ?_
      refine J.add rfl rfl rfl (by first | exact add_nat _ 1 (by omega) | exact i64_ok _ (by omega) | exact rfl) ?_
      refine J.as 223 (.int .i64 ((3 : Nat) : Int)) rfl (by rfl) ?_
      refine J.assign rfl rfl ?_
      refine J.end ?_
      exact X.round ⟨3, z0, z1, y, z3, z4, z5, r241⟩ ⟨by first | decide | (dsimp only; decide), hr241, fun _ => hz0 (by decide), fun _ => hz1 (by decide), fun _ => hy, fun q => absurd q (by first | decide | (dsimp only; decide)), fun q => absurd q (by first | decide | (dsimp only; decide)), fun q => absurd q (by first | decide | (dsimp only; decide))⟩ (by first | omega | (dsimp only; omega)) (by repeat (first | exact sn _ | refine sc rfl ?_)) (by repeat (first | exact sn _ | refine sc rfl ?_))
    · skip
      refine T.skip ?_
      refine X.then ?_
      refine T.seq ?_
      refine T.block ?_
      refine T.seq ?_
      refine T.text [.l, .l, .l, .l, .l] rfl ?_
      refine J.move rfl rfl ?_
      refine J.move rfl rfl ?_
      refine J.indexRow sl84 rfl (hq11.some (by omega)) rfl (by omega) (by omega) (by first | exact Int.toNat_natCast _ | rfl) rfl ?_
      refine J.load1 (k := .l) trivial 11 rfl rfl one22 rfl rfl ?_
      refine J.assign rfl rfl ?_
      refine J.end ?_
      refine X.then ?_
      refine T.seq ?_
      refine T.seq ?_
      refine T.text [.l] rfl ?_
      refine J.assign rfl rfl ?_
      refine J.end ?_
      refine X.then ?_
      refine T.block ?_
      refine T.addNil 450 5 ?_
      refine T.loop (ι := Nat × Nat × RowIx × Value) (fun ((k, x, y, v) : Nat × Nat × RowIx × Value) => k ≤ 70 ∧ x ≤ 1 ∧ (x = 0 → 0 = k ∧ Value.slice (some ⟨s3, 0, none⟩) bs.length bs.length = v) ∧ (x = 1 → 0 < k ∧ y.Ok 1 (bs.length + k) ∧ y.val (bs.length + k) = v)) (fun ((k, x, y, v) : Nat × Nat × RowIx × Value) => [(1, r53.val bs.length), (7, .pointer (some ⟨g, 0, none⟩)), (8, r.val zs.length), (9, .pointer (some ⟨g43, 0, none⟩)), (10, W9.val (2 * 2)), (11, B9.val (3 * 2)), (24, Y.val 4), (29, .int .i64 ((3 : Nat) : Int)), (28, Z.val 3), (31, .int .i64 ((k : Nat) : Int)), (30, v)]) (fun ((k, x, y, v) : Nat × Nat × RowIx × Value) => [(100, ⟨some g, 89, stkM S ((zs.length : Nat) : Int)⟩), (101, r.ent 25 (rowW zs)), (43, ⟨some g43, 99, [i60.val mm.length]⟩), (44, i60.ent 5 (rowN .u8 mm)), (50, r53.ent 5 (rowN .u8 bs)), (10, W9.ent 32 [slv (some u0) zs.length, slv (some u1) zs.length, slv (some u2) zs.length, slv (some u3) zs.length]), (11, B9.ent 22 [slv (some s0) bs.length, slv (some s1) rb.length, slv (some s2) bs.length, slv (some s3) bs.length, slv (some s4) rb.length, slv (some s5) bs.length]), (400, eW 25 u0 zs.length 0), (401, eW 25 u1 zs.length 1), (402, eW 25 u2 zs.length 2), (403, eW 25 u3 zs.length 3), (410, eN 5 s0 bs.length 50), (411, eN 5 s1 rb.length 51), (412, eN 5 s2 bs.length 52), (413, eN 5 s3 bs.length 53), (414, eN 5 s4 rb.length 54), (415, eN 5 s5 bs.length 55), (420, y0.ent 25 (rowW (List.replicate (zs.length + 30) (mkw 0)))), (421, y1.ent 25 (rowW (List.replicate (zs.length + 30) (mkw 1)))), (422, y2.ent 25 (rowW (List.replicate (zs.length + 30) (mkw 2)))), (423, y3.ent 25 (rowW (List.replicate (zs.length + 30) (mkw 3)))), (24, Y.ent 32 [y0.val (zs.length + 30), y1.val (zs.length + 30), y2.val (zs.length + 30), y3.val (zs.length + 30)]), (440, z0.ent 5 (opt (0 < 3) (rowN .u8 (List.replicate (bs.length + 70) 50)))), (441, z1.ent 5 (opt (1 < 3) (rowN .u8 (List.replicate (rb.length + 70) 51)))), (442, z2.ent 5 (opt (2 < 3) (rowN .u8 (List.replicate (bs.length + 70) 52)))), (443, z3.ent 5 (opt (3 < 3) (rowN .u8 (List.replicate (bs.length + 70) 53)))), (444, z4.ent 5 (opt (4 < 3) (rowN .u8 (List.replicate (rb.length + 70) 54)))), (445, z5.ent 5 (opt (5 < 3) (rowN .u8 (List.replicate (bs.length + 70) 55)))), (28, Z.ent 22 (opt (0 < 3) [z0.val (bs.length + 70)] ++ opt (1 < 3) [z1.val (rb.length + 70)] ++ opt (2 < 3) [z2.val (bs.length + 70)] ++ opt (3 < 3) [z3.val (bs.length + 70)] ++ opt (4 < 3) [z4.val (rb.length + 70)] ++ opt (5 < 3) [z5.val (bs.length + 70)])), (450, y.ent 5 (opt (x = 1) (rowN .u8 (List.replicate (bs.length + k) 53))))]) (fun ((k, x, y, v) : Nat × Nat × RowIx × Value) => 70 - k) ⟨0, 0, RowIx.nil, (Value.slice (some ⟨s3, 0, none⟩) bs.length bs.length)⟩ ⟨Nat.zero_le _, by omega, fun _ => ⟨rfl, rfl⟩, fun q => absurd q (by first | decide | (dsimp only; decide))⟩ (by repeat (first | exact sn _ | refine sc rfl ?_)) (by repeat (first | exact sn _ | refine sc rfl ?_)) ?_
      rintro ⟨k, x, y, v⟩ ⟨hk, hxx, hx_0, hx_1⟩
      try dsimp only at *
      refine T.seq ?_
      refine T.seq ?_
      refine T.text [.l, .l] rfl ?_
      refine J.move rfl rfl ?_
      refine J.lss rfl rfl rfl rfl ?_
      refine J.end ?_
      refine X.then ?_
      refine T.cond_dec rfl (fun h24 => ?_) (fun h24 => ?_)
      · rcases (show x = 0 ∨ x = 1 from by omega) with rfl | rfl
        · obtain ⟨rfl, rfl⟩ := hx_0 rfl
          refine T.skip ?_
          refine X.then ?_
          refine T.seq ?_
          refine T.block ?_
          refine T.text [.l, .l, .l, .l, .l, .l, .l] rfl ?_
          refine J.move rfl rfl ?_
          refine J.move rfl rfl ?_
          refine J.add rfl rfl rfl (show _ = (53 : Int) by rfl) ?_
          refine J.conv (by rw [Try.underlying3]; rfl) Try.underlying5 rfl rfl (show _ = (53 : Int) by rfl) ?_
          refine J.lit1 236 rfl Try.underlying22 el5 (by decide) rfl [.int .u8 ((53 : Nat) : Int)] rfl rfl rfl (fun g236 hg236 => ?_)
          refine J.appendFull 413 450 rfl Try.underlying22 el5 rfl (by simp [rowN_length]) rfl rfl (by decide) rfl (fun w hw => (hw.blkCs (k := 236) rfl)) (by omega) (by unfold maxLen; omega) rfl (bs.length + 1) rfl (rowN .u8 (List.replicate (bs.length + 1) 53)) (by exact growN (bs.length) 53) (fun r237 hr237 => ?_)
          refine J.assign rfl rfl ?_
          refine J.end ?_
          refine X.inBlock (X.then ?_)
          refine T.text [.l, .l, .l] rfl ?_
          refine J.move rfl rfl ?_
          refine J.add rfl rfl rfl (by first | exact add_nat _ 1 (by omega) | exact i64_ok _ (by omega) | exact rfl) ?_
          refine J.assign rfl rfl ?_
          refine J.end ?_
          exact X.round ⟨(0 + 1), 1, r237, (r237.val (bs.length + 1))⟩ ⟨by first | omega | (dsimp only; omega), by first | omega | (dsimp only; omega), fun q => absurd q (by first | decide | (dsimp only; decide)), fun _ => ⟨by first | omega | (dsimp only; omega), hr237, rfl⟩⟩ (by first | omega | (dsimp only; omega)) (by repeat (first | exact sn _ | refine sc rfl ?_)) (by repeat (first | exact sn _ | refine sc rfl ?_))
        · obtain ⟨hk0, hy, rfl⟩ := hx_1 rfl
          refine T.skip ?_
          refine X.then ?_
          refine T.seq ?_
          refine T.block ?_
          refine T.text [.l, .l, .l, .l, .l, .l, .l] rfl ?_
          refine J.move rfl rfl ?_
          refine J.move rfl rfl ?_
          refine J.add rfl rfl rfl (show _ = (53 : Int) by rfl) ?_
          refine J.conv (by rw [Try.underlying3]; rfl) Try.underlying5 rfl rfl (show _ = (53 : Int) by rfl) ?_
          refine J.lit1 236 rfl Try.underlying22 el5 (by decide) rfl [.int .u8 ((53 : Nat) : Int)] rfl rfl rfl (fun g236 hg236 => ?_)
          refine J.append 450 rfl Try.underlying22 el5 rfl hy (by show (rowN .u8 (List.replicate (bs.length + k) 53)).length = _; simp [rowN_length]) rfl rfl rfl (fun w hw => (hw.blkCs (k := 236) rfl)) (by intro u hu; rw [List.mem_singleton.1 hu]; rfl) (by omega) (by unfold maxLen; omega) rfl (bs.length + (k + 1)) rfl (rowN .u8 (List.replicate (bs.length + (k + 1)) 53)) (by show rowN .u8 (List.replicate (bs.length + k) 53) ++ _ = _; exact growN (bs.length + k) 53) (fun r237 hr237 => ?_)
          refine J.assign rfl rfl ?_
          refine J.end ?_
          refine X.inBlock (X.then ?_)
          refine T.text [.l, .l, .l] rfl ?_
          refine J.move rfl rfl ?_
          refine J.add rfl rfl rfl (by first | exact add_nat _ 1 (by omega) | exact i64_ok _ (by omega) | exact rfl) ?_
          refine J.assign rfl rfl ?_
          refine J.end ?_
          exact X.round ⟨(k + 1), 1, r237, (r237.val (bs.length + (k + 1)))⟩ ⟨by first | omega | (dsimp only; omega), by first | omega | (dsimp only; omega), fun q => absurd q (by first | decide | (dsimp only; decide)), fun _ => ⟨by first | omega | (dsimp only; omega), hr237, rfl⟩⟩ (by first | omega | (dsimp only; omega)) (by repeat (first | exact sn _ | refine sc rfl ?_)) (by repeat (first | exact sn _ | refine sc rfl ?_))
      obtain rfl : k = 70 := by omega
      obtain rfl : x = 1 := by
            rcases (show x = 0 ∨ x = 1 by omega) with rfl | rfl
            · exact absurd (hx_0 rfl).1 (by decide)
            · rfl
      obtain ⟨_, hy, rfl⟩ := hx_1 rfl
      refine T.asE 450 (y.ent 5 (rowN .u8 (List.replicate (bs.length + 70) 53))) rfl rfl ?_
      refine T.exit ?_
      refine X.then_exit (X.then_exit (X.inBlock_eq (X.then ?_)))
      refine T.text [.l, .l, .l, .l, .l] rfl ?_
      refine J.move rfl rfl ?_
      refine J.move rfl rfl ?_
      refine J.lit1 240 rfl Try.underlying84 el22 (by decide) rfl [y.val (bs.length + 70)] rfl rfl rfl (fun g240 hg240 => ?_)
      refine J.append 28 rfl Try.underlying84 el22 rfl hR28 rfl rfl rfl rfl (fun w hw => (hw.blkCs (k := 240) rfl)) (by intro u hu; rw [List.mem_singleton.1 hu]; rfl) (by omega) (by unfold maxLen; omega) rfl 4 rfl [z0.val (bs.length + 70), z1.val (rb.length + 70), z2.val (bs.length + 70), y.val (bs.length + 70)] rfl (fun r241 hr241 => ?_)
      refine J.assign rfl rfl ?_
      refine J.end ?_
      refine X.mv 450 443 rfl ?_
      refine X.inBlock (X.then ?_)
      refine T.text [.l, .l, .l] rfl ?_
      refine J.move rfl rfl ?_
      refine J.add rfl rfl rfl (by first | exact add_nat _ 1 (by omega) | exact i64_ok _ (by omega) | exact rfl) ?_
      refine J.as 223 (.int .i64 ((4 : Nat) : Int)) rfl (by rfl) ?_
      refine J.assign rfl rfl ?_
      refine J.end ?_
      exact X.round ⟨4, z0, z1, z2, y, z4, z5, r241⟩ ⟨by first | decide | (dsimp only; decide), hr241, fun _ => hz0 (by decide), fun _ => hz1 (by decide), fun _ => hz2 (by decide), fun _ => hy, fun q => absurd q (by first | decide | (dsimp only; decide)), fun q => absurd q (by first | decide | (dsimp only; decide))⟩ (by first | omega | (dsimp only; omega)) (by repeat (first | exact sn _ | refine sc rfl ?_)) (by repeat (first | exact sn _ | refine sc rfl ?_))
    · skip
      refine T.skip ?_
      refine X.then ?_
      refine T.seq ?_
      refine T.block ?_
      refine T.seq ?_
      refine T.text [.l, .l, .l, .l, .l] rfl ?_
      refine J.move rfl rfl ?_
      refine J.move rfl rfl ?_
      refine J.indexRow sl84 rfl (hq11.some (by omega)) rfl (by omega) (by omega) (by first | exact Int.toNat_natCast _ | rfl) rfl ?_
      refine J.load1 (k := .l) trivial 11 rfl rfl one22 rfl rfl ?_
      refine J.assign rfl rfl ?_
      refine J.end ?_
      refine X.then ?_
      refine T.seq ?_
      refine T.seq ?_
      refine T.text [.l] rfl ?_
      refine J.assign rfl rfl ?_
      refine J.end ?_
      refine X.then ?_
      refine T.block ?_
      refine T.addNil 450 5 ?_
      refine T.loop (ι := Nat × Nat × RowIx × Value) (fun ((k, x, y, v) : Nat × Nat × RowIx × Value) => k ≤ 70 ∧ x ≤ 1 ∧ (x = 0 → 0 = k ∧ Value.slice (some ⟨s4, 0, none⟩) rb.length rb.length = v) ∧ (x = 1 → 0 < k ∧ y.Ok 1 (rb.length + k) ∧ y.val (rb.length + k) = v)) (fun ((k, x, y, v) : Nat × Nat × RowIx × Value) => [(1, r53.val bs.length), (7, .pointer (some ⟨g, 0, none⟩)), (8, r.val zs.length), (9, .pointer (some ⟨g43, 0, none⟩)), (10, W9.val (2 * 2)), (11, B9.val (3 * 2)), (24, Y.val 4), (29, .int .i64 ((4 : Nat) : Int)), (28, Z.val 4), (31, .int .i64 ((k : Nat) : Int)), (30, v)]) (fun ((k, x, y, v) : Nat × Nat × RowIx × Value) => [(100, ⟨some g, 89, stkM S ((zs.length : Nat) : Int)⟩), (101, r.ent 25 (rowW zs)), (43, ⟨some g43, 99, [i60.val mm.length]⟩), (44, i60.ent 5 (rowN .u8 mm)), (50, r53.ent 5 (rowN .u8 bs)), (10, W9.ent 32 [slv (some u0) zs.length, slv (some u1) zs.length, slv (some u2) zs.length, slv (some u3) zs.length]), (11, B9.ent 22 [slv (some s0) bs.length, slv (some s1) rb.length, slv (some s2) bs.length, slv (some s3) bs.length, slv (some s4) rb.length, slv (some s5) bs.length]), (400, eW 25 u0 zs.length 0), (401, eW 25 u1 zs.length 1), (402, eW 25 u2 zs.length 2), (403, eW 25 u3 zs.length 3), (410, eN 5 s0 bs.length 50), (411, eN 5 s1 rb.length 51), (412, eN 5 s2 bs.length 52), (413, eN 5 s3 bs.length 53), (414, eN 5 s4 rb.length 54), (415, eN 5 s5 bs.length 55), (420, y0.ent 25 (rowW (List.replicate (zs.length + 30) (mkw 0)))), (421, y1.ent 25 (rowW (List.replicate (zs.length + 30) (mkw 1)))), (422, y2.ent 25 (rowW (List.replicate (zs.length + 30) (mkw 2)))), (423, y3.ent 25 (rowW (List.replicate (zs.length + 30) (mkw 3)))), (24, Y.ent 32 [y0.val (zs.length + 30), y1.val (zs.length + 30), y2.val (zs.length + 30), y3.val (zs.length + 30)]), (440, z0.ent 5 (opt (0 < 4) (rowN .u8 (List.replicate (bs.length + 70) 50)))), (441, z1.ent 5 (opt (1 < 4) (rowN .u8 (List.replicate (rb.length + 70) 51)))), (442, z2.ent 5 (opt (2 < 4) (rowN .u8 (List.replicate (bs.length + 70) 52)))), (443, z3.ent 5 (opt (3 < 4) (rowN .u8 (List.replicate (bs.length + 70) 53)))), (444, z4.ent 5 (opt (4 < 4) (rowN .u8 (List.replicate (rb.length + 70) 54)))), (445, z5.ent 5 (opt (5 < 4) (rowN .u8 (List.replicate (bs.length + 70) 55)))), (28, Z.ent 22 (opt (0 < 4) [z0.val (bs.length + 70)] ++ opt (1 < 4) [z1.val (rb.length + 70)] ++ opt (2 < 4) [z2.val (bs.length + 70)] ++ opt (3 < 4) [z3.val (bs.length + 70)] ++ opt (4 < 4) [z4.val (rb.length + 70)] ++ opt (5 < 4) [z5.val (bs.length + 70)])), (450, y.ent 5 (opt (x = 1) (rowN .u8 (List.replicate (rb.length + k) 54))))]) (fun ((k, x, y, v) : Nat × Nat × RowIx × Value) => 70 - k) ⟨0, 0, RowIx.nil, (Value.slice (some ⟨s4, 0, none⟩) rb.length rb.length)⟩ ⟨Nat.zero_le _, by omega, fun _ => ⟨rfl, rfl⟩, fun q => absurd q (by first | decide | (dsimp only; decide))⟩ (by repeat (first | exact sn _ | refine sc rfl ?_)) (by repeat (first | exact sn _ | refine sc rfl ?_)) ?_
      rintro ⟨k, x, y, v⟩ ⟨hk, hxx, hx_0, hx_1⟩
      try dsimp only at *
      refine T.seq ?_
      refine T.seq ?_
      refine T.text [.l, .l] rfl ?_
      refine J.move rfl rfl ?_
      refine J.lss rfl rfl rfl rfl ?_
      refine J.end ?_
      refine X.then ?_
      refine T.cond_dec rfl (fun h25 => ?_) (fun h25 => ?_)
      · rcases (show x = 0 ∨ x = 1 from by omega) with rfl | rfl
        · obtain ⟨rfl, rfl⟩ := hx_0 rfl
          refine T.skip ?_
          refine X.then ?_
          refine T.seq ?_
          refine T.block ?_
          refine T.text [.l, .l, .l, .l, .l, .l, .l] rfl ?_
          refine J.move rfl rfl ?_
          refine J.move rfl rfl ?_
          refine J.add rfl rfl rfl (show _ = (54 : Int) by rfl) ?_
          refine J.conv (by rw [Try.underlying3]; rfl) Try.underlying5 rfl rfl (show _ = (54 : Int) by rfl) ?_
          refine J.lit1 236 rfl Try.underlying22 el5 (by decide) rfl [.int .u8 ((54 : Nat) : Int)] rfl rfl rfl (fun g236 hg236 => ?_)
          refine J.appendFull 414 450 rfl Try.underlying22 el5 rfl (by simp [rowN_length]) rfl rfl (by decide) rfl (fun w hw => (hw.blkCs (k := 236) rfl)) (by omega) (by unfold maxLen; omega) rfl (rb.length + 1) rfl (rowN .u8 (List.replicate (rb.length + 1) 54)) (by exact growN (rb.length) 54) (fun r237 hr237 => ?_)
          refine J.assign rfl rfl ?_
          refine J.end ?_
          refine X.inBlock (X.then ?_)
          refine T.text [.l, .l, .l] rfl ?_
          refine J.move rfl rfl ?_
          refine J.add rfl rfl rfl (by first | exact add_nat _ 1 (by omega) | exact i64_ok _ (by omega) | exact rfl) ?_
          refine J.assign rfl rfl ?_
          refine J.end ?_
          exact X.round ⟨(0 + 1), 1, r237, (r237.val (rb.length + 1))⟩ ⟨by first | omega | (dsimp only; omega), by first | omega | (dsimp only; omega), fun q => absurd q (by first | decide | (dsimp only; decide)), fun _ => ⟨by first | omega | (dsimp only; omega), hr237, rfl⟩⟩ (by first | omega | (dsimp only; omega)) (by repeat (first | exact sn _ | refine sc rfl ?_)) (by repeat (first | exact sn _ | refine sc rfl ?_))
        · obtain ⟨hk0, hy, rfl⟩ := hx_1 rfl
          refine T.skip ?_
          refine X.then ?_
          refine T.seq ?_
          refine T.block ?_
          refine T.text [.l, .l, .l, .l, .l, .l, .l] rfl ?_
          refine J.move rfl rfl ?_
          refine J.move rfl rfl ?_
          refine J.add rfl rfl rfl (show _ = (54 : Int) by rfl) ?_
          refine J.conv (by rw [Try.underlying3]; rfl) Try.underlying5 rfl rfl (show _ = (54 : Int) by rfl) ?_
          refine J.lit1 236 rfl Try.underlying22 el5 (by decide) rfl [.int .u8 ((54 : Nat) : Int)] rfl rfl rfl (fun g236 hg236 => ?_)
          refine J.append 450 rfl Try.underlying22 el5 rfl hy (by show (rowN .u8 (List.replicate (rb.length + k) 54)).length = _; simp [rowN_length]) rfl rfl rfl (fun w hw => (hw.blkCs (k := 236) rfl)) (by intro u hu; rw [List.mem_singleton.1 hu]; rfl) (by omega) (by unfold maxLen; omega) rfl (rb.length + (k + 1)) rfl (rowN .u8 (List.replicate (rb.length + (k + 1)) 54)) (by show rowN .u8 (List.replicate (rb.length + k) 54) ++ _ = _; exact growN (rb.length + k) 54) (fun r237 hr237 => ?_)
          refine J.assign rfl rfl ?_
          refine J.end ?_
          refine X.inBlock (X.then ?_)
          refine T.text [.l, .l, .l] rfl ?_
          refine J.move rfl rfl ?_
          refine J.add rfl rfl rfl (by first | exact add_nat _ 1 (by omega) | exact i64_ok _ (by omega) | exact rfl) ?_
          refine J.assign rfl rfl ?_
          refine J.end ?_
          exact X.round ⟨(k + 1), 1, r237, (r237.val (rb.length + (k + 1)))⟩ ⟨by first | omega | (dsimp only; omega), by first | omega | (dsimp only; omega), fun q => absurd q (by first | decide | (dsimp only; decide)), fun _ => ⟨by first | omega | (dsimp only; omega), hr237, rfl⟩⟩ (by first | omega | (dsimp only; omega)) (by repeat (first | exact sn _ | refine sc rfl ?_)) (by repeat (first | exact sn _ | refine sc rfl ?_))
      obtain rfl : k = 70 := by omega
      obtain rfl : x = 1 := by
            rcases (show x = 0 ∨ x = 1 by omega) with rfl | rfl
            · exact absurd (hx_0 rfl).1 (by decide)
            · rfl
      obtain ⟨_, hy, rfl⟩ := hx_1 rfl
      refine T.asE 450 (y.ent 5 (rowN .u8 (List.replicate (rb.length + 70) 54))) rfl rfl ?_
      refine T.exit ?_
      refine X.then_exit (X.then_exit (X.inBlock_eq (X.then ?_)))
      refine T.text [.l, .l, .l, .l, .l] rfl ?_
      refine J.move rfl rfl ?_
      refine J.move rfl rfl ?_
      refine J.lit1 240 rfl Try.underlying84 el22 (by decide) rfl [y.val (rb.length + 70)] rfl rfl rfl (fun g240 hg240 => ?_)
      refine J.append 28 rfl Try.underlying84 el22 rfl hR28 rfl rfl rfl rfl (fun w hw => (hw.blkCs (k := 240) rfl)) (by intro u hu; rw [List.mem_singleton.1 hu]; rfl) (by omega) (by unfold maxLen; omega) rfl 5 rfl [z0.val (bs.length + 70), z1.val (rb.length + 70), z2.val (bs.length + 70), z3.val (bs.length + 70), y.val (rb.length + 70)] rfl (fun r241 hr241 => ?_)
      refine J.assign rfl rfl ?_
      refine J.end ?_
      refine X.mv 450 444 rfl ?_
      refine X.inBlock (X.then ?_)
      refine T.text [.l, .l, .l] rfl ?_
      refine J.move rfl rfl ?_
      refine J.add rfl rfl rfl (by first | exact add_nat _ 1 (by omega) | exact i64_ok _ (by omega) | exact rfl) ?_
      refine J.as 223 (.int .i64 ((5 : Nat) : Int)) rfl (by rfl) ?_
      refine J.assign rfl rfl ?_
      refine J.end ?_
      exact X.round ⟨5, z0, z1, z2, z3, y, z5, r241⟩ ⟨by first | decide | (dsimp only; decide), hr241, fun _ => hz0 (by decide), fun _ => hz1 (by decide), fun _ => hz2 (by decide), fun _ => hz3 (by decide), fun _ => hy, fun q => absurd q (by first | decide | (dsimp only; decide))⟩ (by first | omega | (dsimp only; omega)) (by repeat (first | exact sn _ | refine sc rfl ?_)) (by repeat (first | exact sn _ | refine sc rfl ?_))
    · skip
      refine T.skip ?_
      refine X.then ?_
      refine T.seq ?_
      refine T.block ?_
      refine T.seq ?_
      refine T.text [.l, .l, .l, .l, .l] rfl ?_
      refine J.move rfl rfl ?_
      refine J.move rfl rfl ?_
      refine J.indexRow sl84 rfl (hq11.some (by omega)) rfl (by omega) (by omega) (by first | exact Int.toNat_natCast _ | rfl) rfl ?_
      refine J.load1 (k := .l) trivial 11 rfl rfl one22 rfl rfl ?_
      refine J.assign rfl rfl ?_
      refine J.end ?_
      refine X.then ?_
      refine T.seq ?_
      refine T.seq ?_
      refine T.text [.l] rfl ?_
      refine J.assign rfl rfl ?_
      refine J.end ?_
      refine X.then ?_
      refine T.block ?_
      refine T.addNil 450 5 ?_
      refine T.loop (ι := Nat × Nat × RowIx × Value) (fun ((k, x, y, v) : Nat × Nat × RowIx × Value) => k ≤ 70 ∧ x ≤ 1 ∧ (x = 0 → 0 = k ∧ Value.slice (some ⟨s5, 0, none⟩) bs.length bs.length = v) ∧ (x = 1 → 0 < k ∧ y.Ok 1 (bs.length + k) ∧ y.val (bs.length + k) = v)) (fun ((k, x, y, v) : Nat × Nat × RowIx × Value) => [(1, r53.val bs.length), (7, .pointer (some ⟨g, 0, none⟩)), (8, r.val zs.length), (9, .pointer (some ⟨g43, 0, none⟩)), (10, W9.val (2 * 2)), (11, B9.val (3 * 2)), (24, Y.val 4), (29, .int .i64 ((5 : Nat) : Int)), (28, Z.val 5), (31, .int .i64 ((k : Nat) : Int)), (30, v)]) (fun ((k, x, y, v) : Nat × Nat × RowIx × Value) => [(100, ⟨some g, 89, stkM S ((zs.length : Nat) : Int)⟩), (101, r.ent 25 (rowW zs)), (43, ⟨some g43, 99, [i60.val mm.length]⟩), (44, i60.ent 5 (rowN .u8 mm)), (50, r53.ent 5 (rowN .u8 bs)), (10, W9.ent 32 [slv (some u0) zs.length, slv (some u1) zs.length, slv (some u2) zs.length, slv (some u3) zs.length]), (11, B9.ent 22 [slv (some s0) bs.length, slv (some s1) rb.length, slv (some s2) bs.length, slv (some s3) bs.length, slv (some s4) rb.length, slv (some s5) bs.length]), (400, eW 25 u0 zs.length 0), (401, eW 25 u1 zs.length 1), (402, eW 25 u2 zs.length 2), (403, eW 25 u3 zs.length 3), (410, eN 5 s0 bs.length 50), (411, eN 5 s1 rb.length 51), (412, eN 5 s2 bs.length 52), (413, eN 5 s3 bs.length 53), (414, eN 5 s4 rb.length 54), (415, eN 5 s5 bs.length 55), (420, y0.ent 25 (rowW (List.replicate (zs.length + 30) (mkw 0)))), (421, y1.ent 25 (rowW (List.replicate (zs.length + 30) (mkw 1)))), (422, y2.ent 25 (rowW (List.replicate (zs.length + 30) (mkw 2)))), (423, y3.ent 25 (rowW (List.replicate (zs.length + 30) (mkw 3)))), (24, Y.ent 32 [y0.val (zs.length + 30), y1.val (zs.length + 30), y2.val (zs.length + 30), y3.val (zs.length + 30)]), (440, z0.ent 5 (opt (0 < 5) (rowN .u8 (List.replicate (bs.length + 70) 50)))), (441, z1.ent 5 (opt (1 < 5) (rowN .u8 (List.replicate (rb.length + 70) 51)))), (442, z2.ent 5 (opt (2 < 5) (rowN .u8 (List.replicate (bs.length + 70) 52)))), (443, z3.ent 5 (opt (3 < 5) (rowN .u8 (List.replicate (bs.length + 70) 53)))), (444, z4.ent 5 (opt (4 < 5) (rowN .u8 (List.replicate (rb.length + 70) 54)))), (445, z5.ent 5 (opt (5 < 5) (rowN .u8 (List.replicate (bs.length + 70) 55)))), (28, Z.ent 22 (opt (0 < 5) [z0.val (bs.length + 70)] ++ opt (1 < 5) [z1.val (rb.length + 70)] ++ opt (2 < 5) [z2.val (bs.length + 70)] ++ opt (3 < 5) [z3.val (bs.length + 70)] ++ opt (4 < 5) [z4.val (rb.length + 70)] ++ opt (5 < 5) [z5.val (bs.length + 70)])), (450, y.ent 5 (opt (x = 1) (rowN .u8 (List.replicate (bs.length + k) 55))))]) (fun ((k, x, y, v) : Nat × Nat × RowIx × Value) => 70 - k) ⟨0, 0, RowIx.nil, (Value.slice (some ⟨s5, 0, none⟩) bs.length bs.length)⟩ ⟨Nat.zero_le _, by omega, fun _ => ⟨rfl, rfl⟩, fun q => absurd q (by first | decide | (dsimp only; decide))⟩ (by repeat (first | exact sn _ | refine sc rfl ?_)) (by repeat (first | exact sn _ | refine sc rfl ?_)) ?_
      rintro ⟨k, x, y, v⟩ ⟨hk, hxx, hx_0, hx_1⟩
      try dsimp only at *
      refine T.seq ?_
      refine T.seq ?_
      refine T.text [.l, .l] rfl ?_
      refine J.move rfl rfl ?_
      refine J.lss rfl rfl rfl rfl ?_
      refine J.end ?_
      refine X.then ?_
      refine T.cond_dec rfl (fun h26 => ?_) (fun h26 => ?_)
      · rcases (show x = 0 ∨ x = 1 from by omega) with rfl | rfl
        · obtain ⟨rfl, rfl⟩ := hx_0 rfl
          refine T.skip ?_
          refine X.then ?_
          refine T.seq ?_
          refine T.block ?_
          refine T.text [.l, .l, .l, .l, .l, .l, .l] rfl ?_
          refine J.move rfl rfl ?_
          refine J.move rfl rfl ?_
          refine J.add rfl rfl rfl (show _ = (55 : Int) by rfl) ?_
          refine J.conv (by rw [Try.underlying3]; rfl) Try.underlying5 rfl rfl (show _ = (55 : Int) by rfl) ?_
          refine J.lit1 236 rfl Try.underlying22 el5 (by decide) rfl [.int .u8 ((55 : Nat) : Int)] rfl rfl rfl (fun g236 hg236 => ?_)
          refine J.appendFull 415 450 rfl Try.underlying22 el5 rfl (by simp [rowN_length]) rfl rfl (by decide) rfl (fun w hw => (hw.blkCs (k := 236) rfl)) (by omega) (by unfold maxLen; omega) rfl (bs.length + 1) rfl (rowN .u8 (List.replicate (bs.length + 1) 55)) (by exact growN (bs.length) 55) (fun r237 hr237 => ?_)
          refine J.assign rfl rfl ?_
          refine J.end ?_
          refine X.inBlock (X.then ?_)
          refine T.text [.l, .l, .l] rfl ?_
          refine J.move rfl rfl ?_
          refine J.add rfl rfl rfl (by first | exact add_nat _ 1 (by omega) | exact i64_ok _ (by omega) | exact rfl) ?_
          refine J.assign rfl rfl ?_
          refine J.end ?_
          exact X.round ⟨(0 + 1), 1, r237, (r237.val (bs.length + 1))⟩ ⟨by first | omega | (dsimp only; omega), by first | omega | (dsimp only; omega), fun q => absurd q (by first | decide | (dsimp only; decide)), fun _ => ⟨by first | omega | (dsimp only; omega), hr237, rfl⟩⟩ (by first | omega | (dsimp only; omega)) (by repeat (first | exact sn _ | refine sc rfl ?_)) (by repeat (first | exact sn _ | refine sc rfl ?_))
        · obtain ⟨hk0, hy, rfl⟩ := hx_1 rfl
          refine T.skip ?_
          refine X.then ?_
          refine T.seq ?_
          refine T.block ?_
          refine T.text [.l, .l, .l, .l, .l, .l, .l] rfl ?_
          refine J.move rfl rfl ?_
          refine J.move rfl rfl ?_
          refine J.add rfl rfl rfl (show _ = (55 : Int) by rfl) ?_
          refine J.conv (by rw [Try.underlying3]; rfl) Try.underlying5 rfl rfl (show _ = (55 : Int) by rfl) ?_
          refine J.lit1 236 rfl Try.underlying22 el5 (by decide) rfl [.int .u8 ((55 : Nat) : Int)] rfl rfl rfl (fun g236 hg236 => ?_)
          refine J.append 450 rfl Try.underlying22 el5 rfl hy (by show (rowN .u8 (List.replicate (bs.length + k) 55)).length = _; simp [rowN_length]) rfl rfl rfl (fun w hw => (hw.blkCs (k := 236) rfl)) (by intro u hu; rw [List.mem_singleton.1 hu]; rfl) (by omega) (by unfold maxLen; omega) rfl (bs.length + (k + 1)) rfl (rowN .u8 (List.replicate (bs.length + (k + 1)) 55)) (by show rowN .u8 (List.replicate (bs.length + k) 55) ++ _ = _; exact growN (bs.length + k) 55) (fun r237 hr237 => ?_)
          refine J.assign rfl rfl ?_
          refine J.end ?_
          refine X.inBlock (X.then ?_)
          refine T.text [.l, .l, .l] rfl ?_
          refine J.move rfl rfl ?_
          refine J.add rfl rfl rfl (by first | exact add_nat _ 1 (by omega) | exact i64_ok _ (by omega) | exact rfl) ?_
          refine J.assign rfl rfl ?_
          refine J.end ?_
          exact X.round ⟨(k + 1), 1, r237, (r237.val (bs.length + (k + 1)))⟩ ⟨by first | omega | (dsimp only; omega), by first | omega | (dsimp only; omega), fun q => absurd q (by first | decide | (dsimp only; decide)), fun _ => ⟨by first | omega | (dsimp only; omega), hr237, rfl⟩⟩ (by first | omega | (dsimp only; omega)) (by repeat (first | exact sn _ | refine sc rfl ?_)) (by repeat (first | exact sn _ | refine sc rfl ?_))
      obtain rfl : k = 70 := by omega
      obtain rfl : x = 1 := by
            rcases (show x = 0 ∨ x = 1 by omega) with rfl | rfl
            · exact absurd (hx_0 rfl).1 (by decide)
            · rfl
      obtain ⟨_, hy, rfl⟩ := hx_1 rfl
      refine T.asE 450 (y.ent 5 (rowN .u8 (List.replicate (bs.length + 70) 55))) rfl rfl ?_
      refine T.exit ?_
      refine X.then_exit (X.then_exit (X.inBlock_eq (X.then ?_)))
      refine T.text [.l, .l, .l, .l, .l] rfl ?_
      refine J.move rfl rfl ?_
      refine J.move rfl rfl ?_
      refine J.lit1 240 rfl Try.underlying84 el22 (by decide) rfl [y.val (bs.length + 70)] rfl rfl rfl (fun g240 hg240 => ?_)
      refine J.append 28 rfl Try.underlying84 el22 rfl hR28 rfl rfl rfl rfl (fun w hw => (hw.blkCs (k := 240) rfl)) (by intro u hu; rw [List.mem_singleton.1 hu]; rfl) (by omega) (by unfold maxLen; omega) rfl 6 rfl [z0.val (bs.length + 70), z1.val (rb.length + 70), z2.val (bs.length + 70), z3.val (bs.length + 70), z4.val (rb.length + 70), y.val (bs.length + 70)] rfl (fun r241 hr241 => ?_)
      refine J.assign rfl rfl ?_
      refine J.end ?_
      refine X.mv 450 445 rfl ?_
      refine X.inBlock (X.then ?_)
      refine T.text [.l, .l, .l] rfl ?_
      refine J.move rfl rfl ?_
      refine J.add rfl rfl rfl (by first | exact add_nat _ 1 (by omega) | exact i64_ok _ (by omega) | exact rfl) ?_
      refine J.as 223 (.int .i64 ((6 : Nat) : Int)) rfl (by rfl) ?_
      refine J.assign rfl rfl ?_
      refine J.end ?_
      exact X.round ⟨6, z0, z1, z2, z3, z4, y, r241⟩ ⟨by first | decide | (dsimp only; decide), hr241, fun _ => hz0 (by decide), fun _ => hz1 (by decide), fun _ => hz2 (by decide), fun _ => hz3 (by decide), fun _ => hz4 (by decide), fun _ => hy⟩ (by first | omega | (dsimp only; omega)) (by repeat (first | exact sn _ | refine sc rfl ?_)) (by repeat (first | exact sn _ | refine sc rfl ?_))
  obtain rfl : i = 6 := by omega
  refine T.asE 440 (z0.ent 5 (rowN .u8 (List.replicate (bs.length + 70) 50))) rfl rfl ?_
  refine T.asE 441 (z1.ent 5 (rowN .u8 (List.replicate (rb.length + 70) 51))) rfl rfl ?_
  refine T.asE 442 (z2.ent 5 (rowN .u8 (List.replicate (bs.length + 70) 52))) rfl rfl ?_
  refine T.asE 443 (z3.ent 5 (rowN .u8 (List.replicate (bs.length + 70) 53))) rfl rfl ?_
  refine T.asE 444 (z4.ent 5 (rowN .u8 (List.replicate (rb.length + 70) 54))) rfl rfl ?_
  refine T.asE 445 (z5.ent 5 (rowN .u8 (List.replicate (bs.length + 70) 55))) rfl rfl ?_
  refine T.asE 28 (Z.ent 22 [z0.val (bs.length + 70), z1.val (rb.length + 70), z2.val (bs.length + 70), z3.val (bs.length + 70), z4.val (rb.length + 70), z5.val (bs.length + 70)]) rfl rfl ?_
  have hz0 := hz0 (by decide)
  have hz1 := hz1 (by decide)
  have hz2 := hz2 (by decide)
  have hz3 := hz3 (by decide)
  have hz4 := hz4 (by decide)
  have hz5 := hz5 (by decide)
  refine T.exit ?_
  refine X.then_exit (X.then_exit (X.inBlock_eq (X.then ?_)))
  refine T.seq ?_
  refine T.seq ?_
  refine T.text [.l] rfl ?_
  refine J.assign rfl rfl ?_
  refine J.end ?_
  refine X.then ?_
  refine T.block ?_
  refine T.loop (ι := Nat) (fun (i : Nat) => i ≤ 4) (fun (i : Nat) => [(1, r53.val bs.length), (7, .pointer (some ⟨g, 0, none⟩)), (8, r.val zs.length), (9, .pointer (some ⟨g43, 0, none⟩)), (10, W9.val (2 * 2)), (11, B9.val (3 * 2)), (24, Y.val 4), (28, Z.val 6), (32, .int .i64 ((i : Nat) : Int))]) (fun (i : Nat) => [(100, ⟨some g, 89, stkM S ((zs.length : Nat) : Int)⟩), (101, r.ent 25 (rowW zs)), (43, ⟨some g43, 99, [i60.val mm.length]⟩), (44, i60.ent 5 (rowN .u8 mm)), (50, r53.ent 5 (rowN .u8 bs)), (10, W9.ent 32 [slv (some u0) zs.length, slv (some u1) zs.length, slv (some u2) zs.length, slv (some u3) zs.length]), (11, B9.ent 22 [slv (some s0) bs.length, slv (some s1) rb.length, slv (some s2) bs.length, slv (some s3) bs.length, slv (some s4) rb.length, slv (some s5) bs.length]), (400, eW 25 u0 zs.length 0), (401, eW 25 u1 zs.length 1), (402, eW 25 u2 zs.length 2), (403, eW 25 u3 zs.length 3), (410, eN 5 s0 bs.length 50), (411, eN 5 s1 rb.length 51), (412, eN 5 s2 bs.length 52), (413, eN 5 s3 bs.length 53), (414, eN 5 s4 rb.length 54), (415, eN 5 s5 bs.length 55), (420, y0.ent 25 (rowW (List.replicate (zs.length + 30) (mkw 0)))), (421, y1.ent 25 (rowW (List.replicate (zs.length + 30) (mkw 1)))), (422, y2.ent 25 (rowW (List.replicate (zs.length + 30) (mkw 2)))), (423, y3.ent 25 (rowW (List.replicate (zs.length + 30) (mkw 3)))), (24, Y.ent 32 [y0.val (zs.length + 30), y1.val (zs.length + 30), y2.val (zs.length + 30), y3.val (zs.length + 30)]), (440, z0.ent 5 (rowN .u8 (List.replicate (bs.length + 70) 50))), (441, z1.ent 5 (rowN .u8 (List.replicate (rb.length + 70) 51))), (442, z2.ent 5 (rowN .u8 (List.replicate (bs.length + 70) 52))), (443, z3.ent 5 (rowN .u8 (List.replicate (bs.length + 70) 53))), (444, z4.ent 5 (rowN .u8 (List.replicate (rb.length + 70) 54))), (445, z5.ent 5 (rowN .u8 (List.replicate (bs.length + 70) 55))), (28, Z.ent 22 [z0.val (bs.length + 70), z1.val (rb.length + 70), z2.val (bs.length + 70), z3.val (bs.length + 70), z4.val (rb.length + 70), z5.val (bs.length + 70)])]) (fun (i : Nat) => 4 - i) 0 (Nat.zero_le _) (by repeat (first | exact sn _ | refine sc rfl ?_)) (by repeat (first | exact sn _ | refine sc rfl ?_)) ?_
  rintro i hi
  refine T.seq ?_
  refine T.seq ?_
  refine T.text [.l, .l, .l, .l] rfl ?_
  refine J.move rfl rfl ?_
  refine J.move rfl rfl ?_
  refine J.lenSl Try.underlying83 rfl rfl ?_
  refine J.lss rfl rfl rfl rfl ?_
  refine J.end ?_
  refine X.then ?_
  refine T.cond_dec rfl (fun h27 => ?_) (fun h27 => ?_)
  · rcases (show i = 0 ∨ i = 1 ∨ i = 2 ∨ i = 3 from by omega) with rfl | rfl | rfl | rfl
    · skip
      refine T.skip ?_
      refine X.then ?_
      refine T.seq ?_
      refine T.block ?_
      refine T.seq ?_
      refine T.text [.l] rfl ?_
      refine J.assign rfl rfl ?_
      refine J.end ?_
      refine X.then ?_
      refine T.block ?_
      refine T.loop (ι := Nat) (fun (k : Nat) => k ≤ zs.length + 30) (fun (k : Nat) => [(1, r53.val bs.length), (7, .pointer (some ⟨g, 0, none⟩)), (8, r.val zs.length), (9, .pointer (some ⟨g43, 0, none⟩)), (10, W9.val (2 * 2)), (11, B9.val (3 * 2)), (24, Y.val 4), (28, Z.val 6), (32, .int .i64 ((0 : Nat) : Int)), (33, .int .i64 ((k : Nat) : Int))]) (fun (k : Nat) => [(100, ⟨some g, 89, stkM S ((zs.length : Nat) : Int)⟩), (101, r.ent 25 (rowW zs)), (43, ⟨some g43, 99, [i60.val mm.length]⟩), (44, i60.ent 5 (rowN .u8 mm)), (50, r53.ent 5 (rowN .u8 bs)), (10, W9.ent 32 [slv (some u0) zs.length, slv (some u1) zs.length, slv (some u2) zs.length, slv (some u3) zs.length]), (11, B9.ent 22 [slv (some s0) bs.length, slv (some s1) rb.length, slv (some s2) bs.length, slv (some s3) bs.length, slv (some s4) rb.length, slv (some s5) bs.length]), (400, eW 25 u0 zs.length 0), (401, eW 25 u1 zs.length 1), (402, eW 25 u2 zs.length 2), (403, eW 25 u3 zs.length 3), (410, eN 5 s0 bs.length 50), (411, eN 5 s1 rb.length 51), (412, eN 5 s2 bs.length 52), (413, eN 5 s3 bs.length 53), (414, eN 5 s4 rb.length 54), (415, eN 5 s5 bs.length 55), (420, y0.ent 25 (rowW (List.replicate (zs.length + 30) (mkw 0)))), (421, y1.ent 25 (rowW (List.replicate (zs.length + 30) (mkw 1)))), (422, y2.ent 25 (rowW (List.replicate (zs.length + 30) (mkw 2)))), (423, y3.ent 25 (rowW (List.replicate (zs.length + 30) (mkw 3)))), (24, Y.ent 32 [y0.val (zs.length + 30), y1.val (zs.length + 30), y2.val (zs.length + 30), y3.val (zs.length + 30)]), (440, z0.ent 5 (rowN .u8 (List.replicate (bs.length + 70) 50))), (441, z1.ent 5 (rowN .u8 (List.replicate (rb.length + 70) 51))), (442, z2.ent 5 (rowN .u8 (List.replicate (bs.length + 70) 52))), (443, z3.ent 5 (rowN .u8 (List.replicate (bs.length + 70) 53))), (444, z4.ent 5 (rowN .u8 (List.replicate (rb.length + 70) 54))), (445, z5.ent 5 (rowN .u8 (List.replicate (bs.length + 70) 55))), (28, Z.ent 22 [z0.val (bs.length + 70), z1.val (rb.length + 70), z2.val (bs.length + 70), z3.val (bs.length + 70), z4.val (rb.length + 70), z5.val (bs.length + 70)])]) (fun (k : Nat) => zs.length + 30 - k) 0 (Nat.zero_le _) (by repeat (first | exact sn _ | refine sc rfl ?_)) (by repeat (first | exact sn _ | refine sc rfl ?_)) ?_
      rintro k hk
      refine T.seq ?_
      refine T.seq ?_
      refine T.text [.l, .l, .l, .l, .l, .l, .l] rfl ?_
      refine J.move rfl rfl ?_
      refine J.move rfl rfl ?_
      refine J.move rfl rfl ?_
      refine J.indexRow sl83 rfl (hR24.some (by omega)) rfl (by omega) (by omega) (by first | exact Int.toNat_natCast _ | rfl) rfl ?_
      refine J.load1 (k := .l) trivial 24 rfl rfl one32 rfl rfl ?_
      refine J.lenSl Try.underlying32 rfl rfl ?_
      refine J.lss rfl rfl rfl rfl ?_
      refine J.end ?_
      refine X.then ?_
      refine T.cond_dec rfl (fun h28 => ?_) (fun h28 => ?_)
      · have hk2 : k < zs.length + 30 := by omega
        refine T.skip ?_
        refine X.then ?_
        refine T.seq ?_
        refine T.block ?_
        refine T.seq ?_
        refine T.draw [] [(0, .g), (1, .g), (2, .g), (3, .q), (4, .g), (5, .g), (6, .q), (7, .g), (8, .g), (9, .g), (10, .g), (11, .g), (12, .g), (13, .g), (14, .g), (15, .g), (16, .g), (17, .q), (18, .g), (19, .g), (20, .g), (21, .g), (22, .g), (23, .g), (24, .q), (25, .g), (26, .g), (27, .q), (28, .g), (29, .g), (30, .g), (31, .q), (32, .g), (33, .g), (34, .q), (35, .g), (36, .g), (37, .g)] (by kernel_rfl) (by kernel_rfl) ?_ (by repeat (first | exact sn _ | refine sc rfl ?_))
        refine J.move rfl rfl ?_
        refine J.move rfl rfl ?_
        refine J.indexRow sl83 rfl (hR24.some (by omega)) rfl (by omega) (by omega) (by first | exact Int.toNat_natCast _ | rfl) rfl ?_
        refine J.load1 (k := .q) trivial 24 rfl rfl one32 rfl rfl ?_
        refine J.move rfl rfl ?_
        refine J.indexRow sl32 rfl (hy0.some (by omega)) rfl (by omega) (by omega) (by first | exact Int.toNat_natCast _ | rfl) rfl ?_
        refine J.loadN (k := .q) trivial 420 rfl rfl agg25 (wc (mkw 0)) rfl (repW_seg _ k _ _ (by omega)) rfl ?_
        refine J.move rfl rfl ?_
        refine J.add rfl rfl rfl (show _ = (1000 : Int) by rfl) ?_
        refine J.conv (by rw [Try.underlying3]; rfl) Try.underlying23 rfl rfl (show _ = (1000 : Int) by rfl) ?_
        refine J.build rfl rfl (W (mkw 0)) (fun w => by kernel_rfl) ?_
        refine J.neqW eqw25 rfl rfl rfl ?_
        refine J.as 268 (.bool false) rfl (by rw [decide_eq_false (fun h => h rfl)]) ?_
        refine J.move rfl rfl ?_
        refine J.yes rfl rfl ?_
        refine J.move rfl rfl ?_
        refine J.yes rfl rfl ?_
        refine J.move rfl rfl ?_
        refine J.yes rfl rfl ?_
        refine J.move rfl rfl ?_
        refine J.yes rfl rfl ?_
        refine J.indexRow sl83 rfl (hr.some (by omega)) rfl (by omega) (by omega) (by first | exact Int.toNat_natCast _ | rfl) rfl ?_
        refine J.yes rfl rfl ?_
        refine J.load1 (k := .q) trivial 10 rfl rfl one32 rfl rfl ?_
        refine J.yes rfl rfl ?_
        refine J.lenSl Try.underlying32 rfl rfl ?_
        refine J.yes rfl rfl ?_
        refine J.lss rfl rfl rfl rfl ?_
        refine J.yes rfl rfl ?_
        refine J.move rfl rfl ?_
        refine J.split 277 rfl (fun h29 => ?_) (fun h29 => ?_)
        · skip
          refine J.yes rfl rfl ?_
          refine J.move rfl rfl ?_
          refine J.yes rfl rfl ?_
          refine J.move rfl rfl ?_
          refine J.yes rfl rfl ?_
          refine J.indexRow sl83 rfl (hr.some (by omega)) rfl (by omega) (by omega) (by first | exact Int.toNat_natCast _ | rfl) rfl ?_
          refine J.yes rfl rfl ?_
          refine J.load1 (k := .q) trivial 10 rfl rfl one32 rfl rfl ?_
          refine J.yes rfl rfl ?_
          refine J.move rfl rfl ?_
          refine J.yes rfl rfl ?_
          refine J.indexSlB sl32 rfl rfl (by omega) (by omega) (by first | exact Int.toNat_natCast _ | rfl) rfl ?_
          refine J.yes rfl rfl ?_
          refine J.loadN (k := .q) trivial 400 rfl rfl agg25 (wc (mkw 0)) rfl (by rw [Nat.zero_add]; exact repW_seg0 _ k _ (by omega)) rfl ?_
          refine J.yes rfl rfl ?_
          refine J.move rfl rfl ?_
          refine J.yes rfl rfl ?_
          refine J.move rfl rfl ?_
          refine J.yes rfl rfl ?_
          refine J.indexRow sl83 rfl (hR24.some (by omega)) rfl (by omega) (by omega) (by first | exact Int.toNat_natCast _ | rfl) rfl ?_
          refine J.yes rfl rfl ?_
          refine J.load1 (k := .q) trivial 24 rfl rfl one32 rfl rfl ?_
          refine J.yes rfl rfl ?_
          refine J.move rfl rfl ?_
          refine J.yes rfl rfl ?_
          refine J.indexRow sl32 rfl (hy0.some (by omega)) rfl (by omega) (by omega) (by first | exact Int.toNat_natCast _ | rfl) rfl ?_
          refine J.yes rfl rfl ?_
          refine J.loadN (k := .q) trivial 420 rfl rfl agg25 (wc (mkw 0)) rfl (repW_seg _ k _ _ (by omega)) rfl ?_
          refine J.yes rfl rfl ?_
          refine J.neqW eqw25 rfl rfl rfl ?_
          refine J.as 292 (.bool false) rfl (by rw [decide_eq_false (fun h => h rfl)]) ?_
          refine J.yes rfl rfl ?_
          refine J.pick_t rfl rfl rfl ?_
          refine J.pick_f rfl rfl rfl ?_
          refine J.end ?_
          refine X.then ?_
          refine T.cond_false rfl ?_
          refine T.skip ?_
          refine X.inBlock (X.then ?_)
          refine T.text [.l, .l, .l] rfl ?_
          refine J.move rfl rfl ?_
          refine J.add rfl rfl rfl (by first | exact add_nat _ 1 (by omega) | exact i64_ok _ (by omega) | exact rfl) ?_
          refine J.assign rfl rfl ?_
          refine J.end ?_
          exact X.round (k + 1) (by omega) (by first | omega | (dsimp only; omega)) (by repeat (first | exact sn _ | refine sc rfl ?_)) (by repeat (first | exact sn _ | refine sc rfl ?_))
        · skip
          refine J.no rfl rfl rfl rfl ?_
          refine J.no rfl rfl rfl rfl ?_
          refine J.no rfl rfl rfl rfl ?_
          refine J.no rfl rfl rfl rfl ?_
          refine J.no rfl rfl rfl rfl ?_
          refine J.no rfl rfl rfl rfl ?_
          refine J.no rfl rfl rfl rfl ?_
          refine J.no rfl rfl rfl rfl ?_
          refine J.no rfl rfl rfl rfl ?_
          refine J.no rfl rfl rfl rfl ?_
          refine J.no rfl rfl rfl rfl ?_
          refine J.no rfl rfl rfl rfl ?_
          refine J.no rfl rfl rfl rfl ?_
          refine J.no rfl rfl rfl rfl ?_
          refine J.no rfl rfl rfl rfl ?_
          refine J.yes rfl rfl ?_
          refine J.pick_f rfl rfl rfl ?_
          refine J.pick_f rfl rfl rfl ?_
          refine J.end ?_
          refine X.then ?_
          refine T.cond_false rfl ?_
          refine T.skip ?_
          refine X.inBlock (X.then ?_)
          refine T.text [.l, .l, .l] rfl ?_
          refine J.move rfl rfl ?_
          refine J.add rfl rfl rfl (by first | exact add_nat _ 1 (by omega) | exact i64_ok _ (by omega) | exact rfl) ?_
          refine J.assign rfl rfl ?_
          refine J.end ?_
          exact X.round (k + 1) (by omega) (by first | omega | (dsimp only; omega)) (by repeat (first | exact sn _ | refine sc rfl ?_)) (by repeat (first | exact sn _ | refine sc rfl ?_))
      refine T.exit ?_
      refine X.then_exit (X.then_exit (X.inBlock_eq (X.inBlock (X.then ?_))))
      refine T.text [.l, .l, .l] rfl ?_
      refine J.move rfl rfl ?_
      refine J.add rfl rfl rfl (by first | exact add_nat _ 1 (by omega) | exact i64_ok _ (by omega) | exact rfl) ?_
      refine J.as 247 (.int .i64 ((1 : Nat) : Int)) rfl (by rfl) ?_
      refine J.assign rfl rfl ?_
      refine J.end ?_
      exact X.round 1 (by first | decide | omega) (by first | omega | (dsimp only; omega)) (by repeat (first | exact sn _ | refine sc rfl ?_)) (by repeat (first | exact sn _ | refine sc rfl ?_))
    · skip
      refine T.skip ?_
      refine X.then ?_
      refine T.seq ?_
      refine T.block ?_
      refine T.seq ?_
      refine T.text [.l] rfl ?_
      refine J.assign rfl rfl ?_
      refine J.end ?_
      refine X.then ?_
      refine T.block ?_
      refine T.loop (ι := Nat) (fun (k : Nat) => k ≤ zs.length + 30) (fun (k : Nat) => [(1, r53.val bs.length), (7, .pointer (some ⟨g, 0, none⟩)), (8, r.val zs.length), (9, .pointer (some ⟨g43, 0, none⟩)), (10, W9.val (2 * 2)), (11, B9.val (3 * 2)), (24, Y.val 4), (28, Z.val 6), (32, .int .i64 ((1 : Nat) : Int)), (33, .int .i64 ((k : Nat) : Int))]) (fun (k : Nat) => [(100, ⟨some g, 89, stkM S ((zs.length : Nat) : Int)⟩), (101, r.ent 25 (rowW zs)), (43, ⟨some g43, 99, [i60.val mm.length]⟩), (44, i60.ent 5 (rowN .u8 mm)), (50, r53.ent 5 (rowN .u8 bs)), (10, W9.ent 32 [slv (some u0) zs.length, slv (some u1) zs.length, slv (some u2) zs.length, slv (some u3) zs.length]), (11, B9.ent 22 [slv (some s0) bs.length, slv (some s1) rb.length, slv (some s2) bs.length, slv (some s3) bs.length, slv (some s4) rb.length, slv (some s5) bs.length]), (400, eW 25 u0 zs.length 0), (401, eW 25 u1 zs.length 1), (402, eW 25 u2 zs.length 2), (403, eW 25 u3 zs.length 3), (410, eN 5 s0 bs.length 50), (411, eN 5 s1 rb.length 51), (412, eN 5 s2 bs.length 52), (413, eN 5 s3 bs.length 53), (414, eN 5 s4 rb.length 54), (415, eN 5 s5 bs.length 55), (420, y0.ent 25 (rowW (List.replicate (zs.length + 30) (mkw 0)))), (421, y1.ent 25 (rowW (List.replicate (zs.length + 30) (mkw 1)))), (422, y2.ent 25 (rowW (List.replicate (zs.length + 30) (mkw 2)))), (423, y3.ent 25 (rowW (List.replicate (zs.length + 30) (mkw 3)))), (24, Y.ent 32 [y0.val (zs.length + 30), y1.val (zs.length + 30), y2.val (zs.length + 30), y3.val (zs.length + 30)]), (440, z0.ent 5 (rowN .u8 (List.replicate (bs.length + 70) 50))), (441, z1.ent 5 (rowN .u8 (List.replicate (rb.length + 70) 51))), (442, z2.ent 5 (rowN .u8 (List.replicate (bs.length + 70) 52))), (443, z3.ent 5 (rowN .u8 (List.replicate (bs.length + 70) 53))), (444, z4.ent 5 (rowN .u8 (List.replicate (rb.length + 70) 54))), (445, z5.ent 5 (rowN .u8 (List.replicate (bs.length + 70) 55))), (28, Z.ent 22 [z0.val (bs.length + 70), z1.val (rb.length + 70), z2.val (bs.length + 70), z3.val (bs.length + 70), z4.val (rb.length + 70), z5.val (bs.length + 70)])]) (fun (k : Nat) => zs.length + 30 - k) 0 (Nat.zero_le _) (by repeat (first | exact sn _ | refine sc rfl ?_)) (by repeat (first | exact sn _ | refine sc rfl ?_)) ?_
      rintro k hk
      refine T.seq ?_
      refine T.seq ?_
      refine T.text [.l, .l, .l, .l, .l, .l, .l] rfl ?_
      refine J.move rfl rfl ?_
      refine J.move rfl rfl ?_
      refine J.move rfl rfl ?_
      refine J.indexRow sl83 rfl (hR24.some (by omega)) rfl (by omega) (by omega) (by first | exact Int.toNat_natCast _ | rfl) rfl ?_
      refine J.load1 (k := .l) trivial 24 rfl rfl one32 rfl rfl ?_
      refine J.lenSl Try.underlying32 rfl rfl ?_
      refine J.lss rfl rfl rfl rfl ?_
      refine J.end ?_
      refine X.then ?_
      refine T.cond_dec rfl (fun h30 => ?_) (fun h30 => ?_)
      · have hk2 : k < zs.length + 30 := by omega
        refine T.skip ?_
        refine X.then ?_
        refine T.seq ?_
        refine T.block ?_
        refine T.seq ?_
        refine T.draw [] [(0, .g), (1, .g), (2, .g), (3, .q), (4, .g), (5, .g), (6, .q), (7, .g), (8, .g), (9, .g), (10, .g), (11, .g), (12, .g), (13, .g), (14, .g), (15, .g), (16, .g), (17, .q), (18, .g), (19, .g), (20, .g), (21, .g), (22, .g), (23, .g), (24, .q), (25, .g), (26, .g), (27, .q), (28, .g), (29, .g), (30, .g), (31, .q), (32, .g), (33, .g), (34, .q), (35, .g), (36, .g), (37, .g)] (by kernel_rfl) (by kernel_rfl) ?_ (by repeat (first | exact sn _ | refine sc rfl ?_))
        refine J.move rfl rfl ?_
        refine J.move rfl rfl ?_
        refine J.indexRow sl83 rfl (hR24.some (by omega)) rfl (by omega) (by omega) (by first | exact Int.toNat_natCast _ | rfl) rfl ?_
        refine J.load1 (k := .q) trivial 24 rfl rfl one32 rfl rfl ?_
        refine J.move rfl rfl ?_
        refine J.indexRow sl32 rfl (hy1.some (by omega)) rfl (by omega) (by omega) (by first | exact Int.toNat_natCast _ | rfl) rfl ?_
        refine J.loadN (k := .q) trivial 421 rfl rfl agg25 (wc (mkw 1)) rfl (repW_seg _ k _ _ (by omega)) rfl ?_
        refine J.move rfl rfl ?_
        refine J.add rfl rfl rfl (show _ = (1001 : Int) by rfl) ?_
        refine J.conv (by rw [Try.underlying3]; rfl) Try.underlying23 rfl rfl (show _ = (1001 : Int) by rfl) ?_
        refine J.build rfl rfl (W (mkw 1)) (fun w => by kernel_rfl) ?_
        refine J.neqW eqw25 rfl rfl rfl ?_
        refine J.as 268 (.bool false) rfl (by rw [decide_eq_false (fun h => h rfl)]) ?_
        refine J.move rfl rfl ?_
        refine J.yes rfl rfl ?_
        refine J.move rfl rfl ?_
        refine J.yes rfl rfl ?_
        refine J.move rfl rfl ?_
        refine J.yes rfl rfl ?_
        refine J.move rfl rfl ?_
        refine J.yes rfl rfl ?_
        refine J.indexRow sl83 rfl (hr.some (by omega)) rfl (by omega) (by omega) (by first | exact Int.toNat_natCast _ | rfl) rfl ?_
        refine J.yes rfl rfl ?_
        refine J.load1 (k := .q) trivial 10 rfl rfl one32 rfl rfl ?_
        refine J.yes rfl rfl ?_
        refine J.lenSl Try.underlying32 rfl rfl ?_
        refine J.yes rfl rfl ?_
        refine J.lss rfl rfl rfl rfl ?_
        refine J.yes rfl rfl ?_
        refine J.move rfl rfl ?_
        refine J.split 277 rfl (fun h31 => ?_) (fun h31 => ?_)
        · skip
          refine J.yes rfl rfl ?_
          refine J.move rfl rfl ?_
          refine J.yes rfl rfl ?_
          refine J.move rfl rfl ?_
          refine J.yes rfl rfl ?_
          refine J.indexRow sl83 rfl (hr.some (by omega)) rfl (by omega) (by omega) (by first | exact Int.toNat_natCast _ | rfl) rfl ?_
          refine J.yes rfl rfl ?_
          refine J.load1 (k := .q) trivial 10 rfl rfl one32 rfl rfl ?_
          refine J.yes rfl rfl ?_
          refine J.move rfl rfl ?_
          refine J.yes rfl rfl ?_
          refine J.indexSlB sl32 rfl rfl (by omega) (by omega) (by first | exact Int.toNat_natCast _ | rfl) rfl ?_
          refine J.yes rfl rfl ?_
          refine J.loadN (k := .q) trivial 401 rfl rfl agg25 (wc (mkw 1)) rfl (by rw [Nat.zero_add]; exact repW_seg0 _ k _ (by omega)) rfl ?_
          refine J.yes rfl rfl ?_
          refine J.move rfl rfl ?_
          refine J.yes rfl rfl ?_
          refine J.move rfl rfl ?_
          refine J.yes rfl rfl ?_
          refine J.indexRow sl83 rfl (hR24.some (by omega)) rfl (by omega) (by omega) (by first | exact Int.toNat_natCast _ | rfl) rfl ?_
          refine J.yes rfl rfl ?_
          refine J.load1 (k := .q) trivial 24 rfl rfl one32 rfl rfl ?_
          refine J.yes rfl rfl ?_
          refine J.move rfl rfl ?_
          refine J.yes rfl rfl ?_
          refine J.indexRow sl32 rfl (hy1.some (by omega)) rfl (by omega) (by omega) (by first | exact Int.toNat_natCast _ | rfl) rfl ?_
          refine J.yes rfl rfl ?_
          refine J.loadN (k := .q) trivial 421 rfl rfl agg25 (wc (mkw 1)) rfl (repW_seg _ k _ _ (by omega)) rfl ?_
          refine J.yes rfl rfl ?_
          refine J.neqW eqw25 rfl rfl rfl ?_
          refine J.as 292 (.bool false) rfl (by rw [decide_eq_false (fun h => h rfl)]) ?_
          refine J.yes rfl rfl ?_
          refine J.pick_t rfl rfl rfl ?_
          refine J.pick_f rfl rfl rfl ?_
          refine J.end ?_
          refine X.then ?_
          refine T.cond_false rfl ?_
          refine T.skip ?_
          refine X.inBlock (X.then ?_)
          refine T.text [.l, .l, .l] rfl ?_
          refine J.move rfl rfl ?_
          refine J.add rfl rfl rfl (by first | exact add_nat _ 1 (by omega) | exact i64_ok _ (by omega) | exact rfl) ?_
          refine J.assign rfl rfl ?_
          refine J.end ?_
          exact X.round (k + 1) (by omega) (by first | omega | (dsimp only; omega)) (by repeat (first | exact sn _ | refine sc rfl ?_)) (by repeat (first | exact sn _ | refine sc rfl ?_))
        · skip
          refine J.no rfl rfl rfl rfl ?_
          refine J.no rfl rfl rfl rfl ?_
          refine J.no rfl rfl rfl rfl ?_
          refine J.no rfl rfl rfl rfl ?_
          refine J.no rfl rfl rfl rfl ?_
          refine J.no rfl rfl rfl rfl ?_
          refine J.no rfl rfl rfl rfl ?_
          refine J.no rfl rfl rfl rfl ?_
          refine J.no rfl rfl rfl rfl ?_
          refine J.no rfl rfl rfl rfl ?_
          refine J.no rfl rfl rfl rfl ?_
          refine J.no rfl rfl rfl rfl ?_
          refine J.no rfl rfl rfl rfl ?_
          refine J.no rfl rfl rfl rfl ?_
          refine J.no rfl rfl rfl rfl ?_
          refine J.yes rfl rfl ?_
          refine J.pick_f rfl rfl rfl ?_
          refine J.pick_f rfl rfl rfl ?_
          refine J.end ?_
          refine X.then ?_
          refine T.cond_false rfl ?_
          refine T.skip ?_
          refine X.inBlock (X.then ?_)
          refine T.text [.l, .l, .l] rfl ?_
          refine J.move rfl rfl ?_
          refine J.add rfl rfl rfl (by first | exact add_nat _ 1 (by omega) | exact i64_ok _ (by omega) | exact rfl) ?_
          refine J.assign rfl rfl ?_
          refine J.end ?_
          exact X.round (k + 1) (by omega) (by first | omega | (dsimp only; omega)) (by repeat (first | exact sn _ | refine sc rfl ?_)) (by repeat (first | exact sn _ | refine sc rfl ?_))
      refine T.exit ?_
      refine X.then_exit (X.then_exit (X.inBlock_eq (X.inBlock (X.then ?_))))
      refine T.text [.l, .l, .l] rfl ?_
      refine J.move rfl rfl ?_
      refine J.add rfl rfl rfl (by first | exact add_nat _ 1 (by omega) | exact i64_ok _ (by omega) | exact rfl) ?_
      refine J.as 247 (.int .i64 ((2 : Nat) : Int)) rfl (by rfl) ?_
      refine J.assign rfl rfl ?_
      refine J.end ?_
      exact X.round 2 (by first | decide | omega) (by first | omega | (dsimp only; omega)) (by repeat (first | exact sn _ | refine sc rfl ?_)) (by repeat (first | exact sn _ | refine sc rfl ?_))
    · skip
      refine T.skip ?_
      refine X.then ?_
      refine T.seq ?_
      refine T.block ?_
      refine T.seq ?_
      refine T.text [.l] rfl ?_
      refine J.assign rfl rfl ?_
      refine J.end ?_
      refine X.then ?_
      refine T.block ?_
      refine T.loop (ι := Nat) (fun (k : Nat) => k ≤ zs.length + 30) (fun (k : Nat) => [(1, r53.val bs.length), (7, .pointer (some ⟨g, 0, none⟩)), (8, r.val zs.length), (9, .pointer (some ⟨g43, 0, none⟩)), (10, W9.val (2 * 2)), (11, B9.val (3 * 2)), (24, Y.val 4), (28, Z.val 6), (32, .int .i64 ((2 : Nat) : Int)), (33, .int .i64 ((k : Nat) : Int))]) (fun (k : Nat) => [(100, ⟨some g, 89, stkM S ((zs.length : Nat) : Int)⟩), (101, r.ent 25 (rowW zs)), (43, ⟨some g43, 99, [i60.val mm.length]⟩), (44, i60.ent 5 (rowN .u8 mm)), (50, r53.ent 5 (rowN .u8 bs)), (10, W9.ent 32 [slv (some u0) zs.length, slv (some u1) zs.length, slv (some u2) zs.length, slv (some u3) zs.length]), (11, B9.ent 22 [slv (some s0) bs.length, slv (some s1) rb.length, slv (some s2) bs.length, slv (some s3) bs.length, slv (some s4) rb.length, slv (some s5) bs.length]), (400, eW 25 u0 zs.length 0), (401, eW 25 u1 zs.length 1), (402, eW 25 u2 zs.length 2), (403, eW 25 u3 zs.length 3), (410, eN 5 s0 bs.length 50), (411, eN 5 s1 rb.length 51), (412, eN 5 s2 bs.length 52), (413, eN 5 s3 bs.length 53), (414, eN 5 s4 rb.length 54), (415, eN 5 s5 bs.length 55), (420, y0.ent 25 (rowW (List.replicate (zs.length + 30) (mkw 0)))), (421, y1.ent 25 (rowW (List.replicate (zs.length + 30) (mkw 1)))), (422, y2.ent 25 (rowW (List.replicate (zs.length + 30) (mkw 2)))), (423, y3.ent 25 (rowW (List.replicate (zs.length + 30) (mkw 3)))), (24, Y.ent 32 [y0.val (zs.length + 30), y1.val (zs.length + 30), y2.val (zs.length + 30), y3.val (zs.length + 30)]), (440, z0.ent 5 (rowN .u8 (List.replicate (bs.length + 70) 50))), (441, z1.ent 5 (rowN .u8 (List.replicate (rb.length + 70) 51))), (442, z2.ent 5 (rowN .u8 (List.replicate (bs.length + 70) 52))), (443, z3.ent 5 (rowN .u8 (List.replicate (bs.length + 70) 53))), (444, z4.ent 5 (rowN .u8 (List.replicate (rb.length + 70) 54))), (445, z5.ent 5 (rowN .u8 (List.replicate (bs.length + 70) 55))), (28, Z.ent 22 [z0.val (bs.length + 70), z1.val (rb.length + 70), z2.val (bs.length + 70), z3.val (bs.length + 70), z4.val (rb.length + 70), z5.val (bs.length + 70)])]) (fun (k : Nat) => zs.length + 30 - k) 0 (Nat.zero_le _) (by repeat (first | exact sn _ | refine sc rfl ?_)) (by repeat (first | exact sn _ | refine sc rfl ?_)) ?_
      rintro k hk
      refine T.seq ?_
      refine T.seq ?_
      refine T.text [.l, .l, .l, .l, .l, .l, .l] rfl ?_
      refine J.move rfl rfl ?_
      refine J.move rfl rfl ?_
      refine J.move rfl rfl ?_
      refine J.indexRow sl83 rfl (hR24.some (by omega)) rfl (by omega) (by omega) (by first | exact Int.toNat_natCast _ | rfl) rfl ?_
      refine J.load1 (k := .l) trivial 24 rfl rfl one32 rfl rfl ?_
      refine J.lenSl Try.underlying32 rfl rfl ?_
      refine J.lss rfl rfl rfl rfl ?_
      refine J.end ?_
      refine X.then ?_
      refine T.cond_dec rfl (fun h32 => ?_) (fun h32 => ?_)
      · have hk2 : k < zs.length + 30 := by omega
        refine T.skip ?_
        refine X.then ?_
        refine T.seq ?_
        refine T.block ?_
        refine T.seq ?_
        refine T.draw [] [(0, .g), (1, .g), (2, .g), (3, .q), (4, .g), (5, .g), (6, .q), (7, .g), (8, .g), (9, .g), (10, .g), (11, .g), (12, .g), (13, .g), (14, .g), (15, .g), (16, .g), (17, .q), (18, .g), (19, .g), (20, .g), (21, .g), (22, .g), (23, .g), (24, .q), (25, .g), (26, .g), (27, .q), (28, .g), (29, .g), (30, .g), (31, .q), (32, .g), (33, .g), (34, .q), (35, .g), (36, .g), (37, .g)] (by kernel_rfl) (by kernel_rfl) ?_ (by repeat (first | exact sn _ | refine sc rfl ?_))
        refine J.move rfl rfl ?_
        refine J.move rfl rfl ?_
        refine J.indexRow sl83 rfl (hR24.some (by omega)) rfl (by omega) (by omega) (by first | exact Int.toNat_natCast _ | rfl) rfl ?_
        refine J.load1 (k := .q) trivial 24 rfl rfl one32 rfl rfl ?_
        refine J.move rfl rfl ?_
        refine J.indexRow sl32 rfl (hy2.some (by omega)) rfl (by omega) (by omega) (by first | exact Int.toNat_natCast _ | rfl) rfl ?_
        refine J.loadN (k := .q) trivial 422 rfl rfl agg25 (wc (mkw 2)) rfl (repW_seg _ k _ _ (by omega)) rfl ?_
        refine J.move rfl rfl ?_
        refine J.add rfl rfl rfl (show _ = (1002 : Int) by rfl) ?_
        refine J.conv (by rw [Try.underlying3]; rfl) Try.underlying23 rfl rfl (show _ = (1002 : Int) by rfl) ?_
        refine J.build rfl rfl (W (mkw 2)) (fun w => by kernel_rfl) ?_
        refine J.neqW eqw25 rfl rfl rfl ?_
        refine J.as 268 (.bool false) rfl (by rw [decide_eq_false (fun h => h rfl)]) ?_
        refine J.move rfl rfl ?_
        refine J.yes rfl rfl ?_
        refine J.move rfl rfl ?_
        refine J.yes rfl rfl ?_
        refine J.move rfl rfl ?_
        refine J.yes rfl rfl ?_
        refine J.move rfl rfl ?_
        refine J.yes rfl rfl ?_
        refine J.indexRow sl83 rfl (hr.some (by omega)) rfl (by omega) (by omega) (by first | exact Int.toNat_natCast _ | rfl) rfl ?_
        refine J.yes rfl rfl ?_
        refine J.load1 (k := .q) trivial 10 rfl rfl one32 rfl rfl ?_
        refine J.yes rfl rfl ?_
        refine J.lenSl Try.underlying32 rfl rfl ?_
        refine J.yes rfl rfl ?_
        refine J.lss rfl rfl rfl rfl ?_
        refine J.yes rfl rfl ?_
        refine J.move rfl rfl ?_
        refine J.split 277 rfl (fun h33 => ?_) (fun h33 => ?_)
        · skip
          refine J.yes rfl rfl ?_
          refine J.move rfl rfl ?_
          refine J.yes rfl rfl ?_
          refine J.move rfl rfl ?_
          refine J.yes rfl rfl ?_
          refine J.indexRow sl83 rfl (hr.some (by omega)) rfl (by omega) (by omega) (by first | exact Int.toNat_natCast _ | rfl) rfl ?_
          refine J.yes rfl rfl ?_
          refine J.load1 (k := .q) trivial 10 rfl rfl one32 rfl rfl ?_
          refine J.yes rfl rfl ?_
          refine J.move rfl rfl ?_
          refine J.yes rfl rfl ?_
          refine J.indexSlB sl32 rfl rfl (by omega) (by omega) (by first | exact Int.toNat_natCast _ | rfl) rfl ?_
          refine J.yes rfl rfl ?_
          refine J.loadN (k := .q) trivial 402 rfl rfl agg25 (wc (mkw 2)) rfl (by rw [Nat.zero_add]; exact repW_seg0 _ k _ (by omega)) rfl ?_
          refine J.yes rfl rfl ?_
          refine J.move rfl rfl ?_
          refine J.yes rfl rfl ?_
          refine J.move rfl rfl ?_
          refine J.yes rfl rfl ?_
          refine J.indexRow sl83 rfl (hR24.some (by omega)) rfl (by omega) (by omega) (by first | exact Int.toNat_natCast _ | rfl) rfl ?_
          refine J.yes rfl rfl ?_
          refine J.load1 (k := .q) trivial 24 rfl rfl one32 rfl rfl ?_
          refine J.yes rfl rfl ?_
          refine J.move rfl rfl ?_
          refine J.yes rfl rfl ?_
          refine J.indexRow sl32 rfl (hy2.some (by omega)) rfl (by omega) (by omega) (by first | exact Int.toNat_natCast _ | rfl) rfl ?_
          refine J.yes rfl rfl ?_
          refine J.loadN (k := .q) trivial 422 rfl rfl agg25 (wc (mkw 2)) rfl (repW_seg _ k _ _ (by omega)) rfl ?_
          refine J.yes rfl rfl ?_
          refine J.neqW eqw25 rfl rfl rfl ?_
          refine J.as 292 (.bool false) rfl (by rw [decide_eq_false (fun h => h rfl)]) ?_
          refine J.yes rfl rfl ?_
          refine J.pick_t rfl rfl rfl ?_
          refine J.pick_f rfl rfl rfl ?_
          refine J.end ?_
          refine X.then ?_
          refine T.cond_false rfl ?_
          refine T.skip ?_
          refine X.inBlock (X.then ?_)
          refine T.text [.l, .l, .l] rfl ?_
          refine J.move rfl rfl ?_
          refine J.add rfl rfl rfl (by first | exact add_nat _ 1 (by omega) | exact i64_ok _ (by omega) | exact rfl) ?_
          refine J.assign rfl rfl ?_
          refine J.end ?_
          exact X.round (k + 1) (by omega) (by first | omega | (dsimp only; omega)) (by repeat (first | exact sn _ | refine sc rfl ?_)) (by repeat (first | exact sn _ | refine sc rfl ?_))
        · skip
          refine J.no rfl rfl rfl rfl ?_
          refine J.no rfl rfl rfl rfl ?_
          refine J.no rfl rfl rfl rfl ?_
          refine J.no rfl rfl rfl rfl ?_
          refine J.no rfl rfl rfl rfl ?_
          refine J.no rfl rfl rfl rfl ?_
          refine J.no rfl rfl rfl rfl ?_
          refine J.no rfl rfl rfl rfl ?_
          refine J.no rfl rfl rfl rfl ?_
          refine J.no rfl rfl rfl rfl ?_
          refine J.no rfl rfl rfl rfl ?_
          refine J.no rfl rfl rfl rfl ?_
          refine J.no rfl rfl rfl rfl ?_
          refine J.no rfl rfl rfl rfl ?_
          refine J.no rfl rfl rfl rfl ?_
          refine J.yes rfl rfl ?_
          refine J.pick_f rfl rfl rfl ?_
          refine J.pick_f rfl rfl rfl ?_
          refine J.end ?_
          refine X.then ?_
          refine T.cond_false rfl ?_
          refine T.skip ?_
          refine X.inBlock (X.then ?_)
          refine T.text [.l, .l, .l] rfl ?_
          refine J.move rfl rfl ?_
          refine J.add rfl rfl rfl (by first | exact add_nat _ 1 (by omega) | exact i64_ok _ (by omega) | exact rfl) ?_
          refine J.assign rfl rfl ?_
          refine J.end ?_
          exact X.round (k + 1) (by omega) (by first | omega | (dsimp only; omega)) (by repeat (first | exact sn _ | refine sc rfl ?_)) (by repeat (first | exact sn _ | refine sc rfl ?_))
      refine T.exit ?_
      refine X.then_exit (X.then_exit (X.inBlock_eq (X.inBlock (X.then ?_))))
      refine T.text [.l, .l, .l] rfl ?_
      refine J.move rfl rfl ?_
      refine J.add rfl rfl rfl (by first | exact add_nat _ 1 (by omega) | exact i64_ok _ (by omega) | exact rfl) ?_
      refine J.as 247 (.int .i64 ((3 : Nat) : Int)) rfl (by rfl) ?_
      refine J.assign rfl rfl ?_
      refine J.end ?_
      exact X.round 3 (by first | decide | omega) (by first | omega | (dsimp only; omega)) (by repeat (first | exact sn _ | refine sc rfl ?_)) (by repeat (first | exact sn _ | refine sc rfl ?_))
    · skip
      refine T.skip ?_
      refine X.then ?_
      refine T.seq ?_
      refine T.block ?_
      refine T.seq ?_
      refine T.text [.l] rfl ?_
      refine J.assign rfl rfl ?_
      refine J.end ?_
      refine X.then ?_
      refine T.block ?_
      refine T.loop (ι := Nat) (fun (k : Nat) => k ≤ zs.length + 30) (fun (k : Nat) => [(1, r53.val bs.length), (7, .pointer (some ⟨g, 0, none⟩)), (8, r.val zs.length), (9, .pointer (some ⟨g43, 0, none⟩)), (10, W9.val (2 * 2)), (11, B9.val (3 * 2)), (24, Y.val 4), (28, Z.val 6), (32, .int .i64 ((3 : Nat) : Int)), (33, .int .i64 ((k : Nat) : Int))]) (fun (k : Nat) => [(100, ⟨some g, 89, stkM S ((zs.length : Nat) : Int)⟩), (101, r.ent 25 (rowW zs)), (43, ⟨some g43, 99, [i60.val mm.length]⟩), (44, i60.ent 5 (rowN .u8 mm)), (50, r53.ent 5 (rowN .u8 bs)), (10, W9.ent 32 [slv (some u0) zs.length, slv (some u1) zs.length, slv (some u2) zs.length, slv (some u3) zs.length]), (11, B9.ent 22 [slv (some s0) bs.length, slv (some s1) rb.length, slv (some s2) bs.length, slv (some s3) bs.length, slv (some s4) rb.length, slv (some s5) bs.length]), (400, eW 25 u0 zs.length 0), (401, eW 25 u1 zs.length 1), (402, eW 25 u2 zs.length 2), (403, eW 25 u3 zs.length 3), (410, eN 5 s0 bs.length 50), (411, eN 5 s1 rb.length 51), (412, eN 5 s2 bs.length 52), (413, eN 5 s3 bs.length 53), (414, eN 5 s4 rb.length 54), (415, eN 5 s5 bs.length 55), (420, y0.ent 25 (rowW (List.replicate (zs.length + 30) (mkw 0)))), (421, y1.ent 25 (rowW (List.replicate (zs.length + 30) (mkw 1)))), (422, y2.ent 25 (rowW (List.replicate (zs.length + 30) (mkw 2)))), (423, y3.ent 25 (rowW (List.replicate (zs.length + 30) (mkw 3)))), (24, Y.ent 32 [y0.val (zs.length + 30), y1.val (zs.length + 30), y2.val (zs.length + 30), y3.val (zs.length + 30)]), (440, z0.ent 5 (rowN .u8 (List.replicate (bs.length + 70) 50))), (441, z1.ent 5 (rowN .u8 (List.replicate (rb.length + 70) 51))), (442, z2.ent 5 (rowN .u8 (List.replicate (bs.length + 70) 52))), (443, z3.ent 5 (rowN .u8 (List.replicate (bs.length + 70) 53))), (444, z4.ent 5 (rowN .u8 (List.replicate (rb.length + 70) 54))), (445, z5.ent 5 (rowN .u8 (List.replicate (bs.length + 70) 55))), (28, Z.ent 22 [z0.val (bs.length + 70), z1.val (rb.length + 70), z2.val (bs.length + 70), z3.val (bs.length + 70), z4.val (rb.length + 70), z5.val (bs.length + 70)])]) (fun (k : Nat) => zs.length + 30 - k) 0 (Nat.zero_le _) (by repeat (first | exact sn _ | refine sc rfl ?_)) (by repeat (first | exact sn _ | refine sc rfl ?_)) ?_
      rintro k hk
      refine T.seq ?_
      refine T.seq ?_
      refine T.text [.l, .l, .l, .l, .l, .l, .l] rfl ?_
      refine J.move rfl rfl ?_
      refine J.move rfl rfl ?_
      refine J.move rfl rfl ?_
      refine J.indexRow sl83 rfl (hR24.some (by omega)) rfl (by omega) (by omega) (by first | exact Int.toNat_natCast _ | rfl) rfl ?_
      refine J.load1 (k := .l) trivial 24 rfl rfl one32 rfl rfl ?_
      refine J.lenSl Try.underlying32 rfl rfl ?_
      refine J.lss rfl rfl rfl rfl ?_
      refine J.end ?_
      refine X.then ?_
      refine T.cond_dec rfl (fun h34 => ?_) (fun h34 => ?_)
      · have hk2 : k < zs.length + 30 := by omega
        refine T.skip ?_
        refine X.then ?_
        refine T.seq ?_
        refine T.block ?_
        refine T.seq ?_
        refine T.draw [] [(0, .g), (1, .g), (2, .g), (3, .q), (4, .g), (5, .g), (6, .q), (7, .g), (8, .g), (9, .g), (10, .g), (11, .g), (12, .g), (13, .g), (14, .g), (15, .g), (16, .g), (17, .q), (18, .g), (19, .g), (20, .g), (21, .g), (22, .g), (23, .g), (24, .q), (25, .g), (26, .g), (27, .q), (28, .g), (29, .g), (30, .g), (31, .q), (32, .g), (33, .g), (34, .q), (35, .g), (36, .g), (37, .g)] (by kernel_rfl) (by kernel_rfl) ?_ (by repeat (first | exact sn _ | refine sc rfl ?_))
        refine J.move rfl rfl ?_
        refine J.move rfl rfl ?_
        refine J.indexRow sl83 rfl (hR24.some (by omega)) rfl (by omega) (by omega) (by first | exact Int.toNat_natCast _ | rfl) rfl ?_
        refine J.load1 (k := .q) trivial 24 rfl rfl one32 rfl rfl ?_
        refine J.move rfl rfl ?_
        refine J.indexRow sl32 rfl (hy3.some (by omega)) rfl (by omega) (by omega) (by first | exact Int.toNat_natCast _ | rfl) rfl ?_
        refine J.loadN (k := .q) trivial 423 rfl rfl agg25 (wc (mkw 3)) rfl (repW_seg _ k _ _ (by omega)) rfl ?_
        refine J.move rfl rfl ?_
        refine J.add rfl rfl rfl (show _ = (1003 : Int) by rfl) ?_
        refine J.conv (by rw [Try.underlying3]; rfl) Try.underlying23 rfl rfl (show _ = (1003 : Int) by rfl) ?_
        refine J.build rfl rfl (W (mkw 3)) (fun w => by kernel_rfl) ?_
        refine J.neqW eqw25 rfl rfl rfl ?_
        refine J.as 268 (.bool false) rfl (by rw [decide_eq_false (fun h => h rfl)]) ?_
        refine J.move rfl rfl ?_
        refine J.yes rfl rfl ?_
        refine J.move rfl rfl ?_
        refine J.yes rfl rfl ?_
        refine J.move rfl rfl ?_
        refine J.yes rfl rfl ?_
        refine J.move rfl rfl ?_
        refine J.yes rfl rfl ?_
        refine J.indexRow sl83 rfl (hr.some (by omega)) rfl (by omega) (by omega) (by first | exact Int.toNat_natCast _ | rfl) rfl ?_
        refine J.yes rfl rfl ?_
        refine J.load1 (k := .q) trivial 10 rfl rfl one32 rfl rfl ?_
        refine J.yes rfl rfl ?_
        refine J.lenSl Try.underlying32 rfl rfl ?_
        refine J.yes rfl rfl ?_
        refine J.lss rfl rfl rfl rfl ?_
        refine J.yes rfl rfl ?_
        refine J.move rfl rfl ?_
        refine J.split 277 rfl (fun h35 => ?_) (fun h35 => ?_)
        · skip
          refine J.yes rfl rfl ?_
          refine J.move rfl rfl ?_
          refine J.yes rfl rfl ?_
          refine J.move rfl rfl ?_
          refine J.yes rfl rfl ?_
          refine J.indexRow sl83 rfl (hr.some (by omega)) rfl (by omega) (by omega) (by first | exact Int.toNat_natCast _ | rfl) rfl ?_
          refine J.yes rfl rfl ?_
          refine J.load1 (k := .q) trivial 10 rfl rfl one32 rfl rfl ?_
          refine J.yes rfl rfl ?_
          refine J.move rfl rfl ?_
          refine J.yes rfl rfl ?_
          refine J.indexSlB sl32 rfl rfl (by omega) (by omega) (by first | exact Int.toNat_natCast _ | rfl) rfl ?_
          refine J.yes rfl rfl ?_
          refine J.loadN (k := .q) trivial 403 rfl rfl agg25 (wc (mkw 3)) rfl (by rw [Nat.zero_add]; exact repW_seg0 _ k _ (by omega)) rfl ?_
          refine J.yes rfl rfl ?_
          refine J.move rfl rfl ?_
          refine J.yes rfl rfl ?_
          refine J.move rfl rfl ?_
          refine J.yes rfl rfl ?_
          refine J.indexRow sl83 rfl (hR24.some (by omega)) rfl (by omega) (by omega) (by first | exact Int.toNat_natCast _ | rfl) rfl ?_
          refine J.yes rfl rfl ?_
          refine J.load1 (k := .q) trivial 24 rfl rfl one32 rfl rfl ?_
          refine J.yes rfl rfl ?_
          refine J.move rfl rfl ?_
          refine J.yes rfl rfl ?_
          refine J.indexRow sl32 rfl (hy3.some (by omega)) rfl (by omega) (by omega) (by first | exact Int.toNat_natCast _ | rfl) rfl ?_
          refine J.yes rfl rfl ?_
          refine J.loadN (k := .q) trivial 423 rfl rfl agg25 (wc (mkw 3)) rfl (repW_seg _ k _ _ (by omega)) rfl ?_
          refine J.yes rfl rfl ?_
          refine J.neqW eqw25 rfl rfl rfl ?_
          refine J.as 292 (.bool false) rfl (by rw [decide_eq_false (fun h => h rfl)]) ?_
          refine J.yes rfl rfl ?_
          refine J.pick_t rfl rfl rfl ?_
          refine J.pick_f rfl rfl rfl ?_
          refine J.end ?_
          refine X.then ?_
          refine T.cond_false rfl ?_
          refine T.skip ?_
          refine X.inBlock (X.then ?_)
          refine T.text [.l, .l, .l] rfl ?_
          refine J.move rfl rfl ?_
          refine J.add rfl rfl rfl (by first | exact add_nat _ 1 (by omega) | exact i64_ok _ (by omega) | exact rfl) ?_
          refine J.assign rfl rfl ?_
          refine J.end ?_
          exact X.round (k + 1) (by omega) (by first | omega | (dsimp only; omega)) (by repeat (first | exact sn _ | refine sc rfl ?_)) (by repeat (first | exact sn _ | refine sc rfl ?_))
        · skip
          refine J.no rfl rfl rfl rfl ?_
          refine J.no rfl rfl rfl rfl ?_
          refine J.no rfl rfl rfl rfl ?_
          refine J.no rfl rfl rfl rfl ?_
          refine J.no rfl rfl rfl rfl ?_
          refine J.no rfl rfl rfl rfl ?_
          refine J.no rfl rfl rfl rfl ?_
          refine J.no rfl rfl rfl rfl ?_
          refine J.no rfl rfl rfl rfl ?_
          refine J.no rfl rfl rfl rfl ?_
          refine J.no rfl rfl rfl rfl ?_
          refine J.no rfl rfl rfl rfl ?_
          refine J.no rfl rfl rfl rfl ?_
          refine J.no rfl rfl rfl rfl ?_
          refine J.no rfl rfl rfl rfl ?_
          refine J.yes rfl rfl ?_
          refine J.pick_f rfl rfl rfl ?_
          refine J.pick_f rfl rfl rfl ?_
          refine J.end ?_
          refine X.then ?_
          refine T.cond_false rfl ?_
          refine T.skip ?_
          refine X.inBlock (X.then ?_)
          refine T.text [.l, .l, .l] rfl ?_
          refine J.move rfl rfl ?_
          refine J.add rfl rfl rfl (by first | exact add_nat _ 1 (by omega) | exact i64_ok _ (by omega) | exact rfl) ?_
          refine J.assign rfl rfl ?_
          refine J.end ?_
          exact X.round (k + 1) (by omega) (by first | omega | (dsimp only; omega)) (by repeat (first | exact sn _ | refine sc rfl ?_)) (by repeat (first | exact sn _ | refine sc rfl ?_))
      refine T.exit ?_
      refine X.then_exit (X.then_exit (X.inBlock_eq (X.inBlock (X.then ?_))))
      refine T.text [.l, .l, .l] rfl ?_
      refine J.move rfl rfl ?_
      refine J.add rfl rfl rfl (by first | exact add_nat _ 1 (by omega) | exact i64_ok _ (by omega) | exact rfl) ?_
      refine J.as 247 (.int .i64 ((4 : Nat) : Int)) rfl (by rfl) ?_
      refine J.assign rfl rfl ?_
      refine J.end ?_
      exact X.round 4 (by first | decide | omega) (by first | omega | (dsimp only; omega)) (by repeat (first | exact sn _ | refine sc rfl ?_)) (by repeat (first | exact sn _ | refine sc rfl ?_))
  obtain rfl : i = 4 := by omega
  refine T.exit ?_
  refine X.then_exit (X.then_exit (X.inBlock_eq (X.then ?_)))
  refine T.seq ?_
  refine T.seq ?_
  refine T.text [.l] rfl ?_
  refine J.assign rfl rfl ?_
  refine J.end ?_
  refine X.then ?_
  refine T.block ?_
  refine T.loop (ι := Nat) (fun (i : Nat) => i ≤ 6) (fun (i : Nat) => [(1, r53.val bs.length), (7, .pointer (some ⟨g, 0, none⟩)), (8, r.val zs.length), (9, .pointer (some ⟨g43, 0, none⟩)), (10, W9.val (2 * 2)), (11, B9.val (3 * 2)), (24, Y.val 4), (28, Z.val 6), (34, .int .i64 ((i : Nat) : Int))]) (fun (i : Nat) => [(100, ⟨some g, 89, stkM S ((zs.length : Nat) : Int)⟩), (101, r.ent 25 (rowW zs)), (43, ⟨some g43, 99, [i60.val mm.length]⟩), (44, i60.ent 5 (rowN .u8 mm)), (50, r53.ent 5 (rowN .u8 bs)), (10, W9.ent 32 [slv (some u0) zs.length, slv (some u1) zs.length, slv (some u2) zs.length, slv (some u3) zs.length]), (11, B9.ent 22 [slv (some s0) bs.length, slv (some s1) rb.length, slv (some s2) bs.length, slv (some s3) bs.length, slv (some s4) rb.length, slv (some s5) bs.length]), (400, eW 25 u0 zs.length 0), (401, eW 25 u1 zs.length 1), (402, eW 25 u2 zs.length 2), (403, eW 25 u3 zs.length 3), (410, eN 5 s0 bs.length 50), (411, eN 5 s1 rb.length 51), (412, eN 5 s2 bs.length 52), (413, eN 5 s3 bs.length 53), (414, eN 5 s4 rb.length 54), (415, eN 5 s5 bs.length 55), (420, y0.ent 25 (rowW (List.replicate (zs.length + 30) (mkw 0)))), (421, y1.ent 25 (rowW (List.replicate (zs.length + 30) (mkw 1)))), (422, y2.ent 25 (rowW (List.replicate (zs.length + 30) (mkw 2)))), (423, y3.ent 25 (rowW (List.replicate (zs.length + 30) (mkw 3)))), (24, Y.ent 32 [y0.val (zs.length + 30), y1.val (zs.length + 30), y2.val (zs.length + 30), y3.val (zs.length + 30)]), (440, z0.ent 5 (rowN .u8 (List.replicate (bs.length + 70) 50))), (441, z1.ent 5 (rowN .u8 (List.replicate (rb.length + 70) 51))), (442, z2.ent 5 (rowN .u8 (List.replicate (bs.length + 70) 52))), (443, z3.ent 5 (rowN .u8 (List.replicate (bs.length + 70) 53))), (444, z4.ent 5 (rowN .u8 (List.replicate (rb.length + 70) 54))), (445, z5.ent 5 (rowN .u8 (List.replicate (bs.length + 70) 55))), (28, Z.ent 22 [z0.val (bs.length + 70), z1.val (rb.length + 70), z2.val (bs.length + 70), z3.val (bs.length + 70), z4.val (rb.length + 70), z5.val (bs.length + 70)])]) (fun (i : Nat) => 6 - i) 0 (Nat.zero_le _) (by repeat (first | exact sn _ | refine sc rfl ?_)) (by repeat (first | exact sn _ | refine sc rfl ?_)) ?_
  rintro i hi
  refine T.seq ?_
  refine T.seq ?_
  refine T.text [.l, .l, .l, .l] rfl ?_
  refine J.move rfl rfl ?_
  refine J.move rfl rfl ?_
  refine J.lenSl Try.underlying84 rfl rfl ?_
  refine J.lss rfl rfl rfl rfl ?_
  refine J.end ?_
  refine X.then ?_
  refine T.cond_dec rfl (fun h36 => ?_) (fun h36 => ?_)
  · rcases (show i = 0 ∨ i = 1 ∨ i = 2 ∨ i = 3 ∨ i = 4 ∨ i = 5 from by omega) with rfl | rfl | rfl | rfl | rfl | rfl
    · skip
      refine T.skip ?_
      refine X.then ?_
      refine T.seq ?_
      refine T.block ?_
      refine T.seq ?_
      refine T.text [.l] rfl ?_
      refine J.assign rfl rfl ?_
      refine J.end ?_
      refine X.then ?_
      refine T.block ?_
      refine T.loop (ι := Nat) (fun (k : Nat) => k ≤ bs.length + 70) (fun (k : Nat) => [(1, r53.val bs.length), (7, .pointer (some ⟨g, 0, none⟩)), (8, r.val zs.length), (9, .pointer (some ⟨g43, 0, none⟩)), (10, W9.val (2 * 2)), (11, B9.val (3 * 2)), (24, Y.val 4), (28, Z.val 6), (34, .int .i64 ((0 : Nat) : Int)), (35, .int .i64 ((k : Nat) : Int))]) (fun (k : Nat) => [(100, ⟨some g, 89, stkM S ((zs.length : Nat) : Int)⟩), (101, r.ent 25 (rowW zs)), (43, ⟨some g43, 99, [i60.val mm.length]⟩), (44, i60.ent 5 (rowN .u8 mm)), (50, r53.ent 5 (rowN .u8 bs)), (10, W9.ent 32 [slv (some u0) zs.length, slv (some u1) zs.length, slv (some u2) zs.length, slv (some u3) zs.length]), (11, B9.ent 22 [slv (some s0) bs.length, slv (some s1) rb.length, slv (some s2) bs.length, slv (some s3) bs.length, slv (some s4) rb.length, slv (some s5) bs.length]), (400, eW 25 u0 zs.length 0), (401, eW 25 u1 zs.length 1), (402, eW 25 u2 zs.length 2), (403, eW 25 u3 zs.length 3), (410, eN 5 s0 bs.length 50), (411, eN 5 s1 rb.length 51), (412, eN 5 s2 bs.length 52), (413, eN 5 s3 bs.length 53), (414, eN 5 s4 rb.length 54), (415, eN 5 s5 bs.length 55), (420, y0.ent 25 (rowW (List.replicate (zs.length + 30) (mkw 0)))), (421, y1.ent 25 (rowW (List.replicate (zs.length + 30) (mkw 1)))), (422, y2.ent 25 (rowW (List.replicate (zs.length + 30) (mkw 2)))), (423, y3.ent 25 (rowW (List.replicate (zs.length + 30) (mkw 3)))), (24, Y.ent 32 [y0.val (zs.length + 30), y1.val (zs.length + 30), y2.val (zs.length + 30), y3.val (zs.length + 30)]), (440, z0.ent 5 (rowN .u8 (List.replicate (bs.length + 70) 50))), (441, z1.ent 5 (rowN .u8 (List.replicate (rb.length + 70) 51))), (442, z2.ent 5 (rowN .u8 (List.replicate (bs.length + 70) 52))), (443, z3.ent 5 (rowN .u8 (List.replicate (bs.length + 70) 53))), (444, z4.ent 5 (rowN .u8 (List.replicate (rb.length + 70) 54))), (445, z5.ent 5 (rowN .u8 (List.replicate (bs.length + 70) 55))), (28, Z.ent 22 [z0.val (bs.length + 70), z1.val (rb.length + 70), z2.val (bs.length + 70), z3.val (bs.length + 70), z4.val (rb.length + 70), z5.val (bs.length + 70)])]) (fun (k : Nat) => bs.length + 70 - k) 0 (Nat.zero_le _) (by repeat (first | exact sn _ | refine sc rfl ?_)) (by repeat (first | exact sn _ | refine sc rfl ?_)) ?_
      rintro k hk
      refine T.seq ?_
      refine T.seq ?_
      refine T.text [.l, .l, .l, .l, .l, .l, .l] rfl ?_
      refine J.move rfl rfl ?_
      refine J.move rfl rfl ?_
      refine J.move rfl rfl ?_
      refine J.indexRow sl84 rfl (hR28.some (by omega)) rfl (by omega) (by omega) (by first | exact Int.toNat_natCast _ | rfl) rfl ?_
      refine J.load1 (k := .l) trivial 28 rfl rfl one22 rfl rfl ?_
      refine J.lenSl Try.underlying22 rfl rfl ?_
      refine J.lss rfl rfl rfl rfl ?_
      refine J.end ?_
      refine X.then ?_
      refine T.cond_dec rfl (fun h37 => ?_) (fun h37 => ?_)
      · have hk2 : k < bs.length + 70 := by omega
        refine T.skip ?_
        refine X.then ?_
        refine T.seq ?_
        refine T.block ?_
        refine T.seq ?_
        refine T.text [.l, .l, .l, .l, .l, .l, .l, .l, .l, .l, .l, .l, .l, .l, .l, .l, .l, .l, .l, .l, .l, .l, .l, .l, .l, .l, .l, .l, .l, .l, .l, .l, .l] rfl ?_
        refine J.move rfl rfl ?_
        refine J.move rfl rfl ?_
        refine J.indexRow sl84 rfl (hR28.some (by omega)) rfl (by omega) (by omega) (by first | exact Int.toNat_natCast _ | rfl) rfl ?_
        refine J.load1 (k := .l) trivial 28 rfl rfl one22 rfl rfl ?_
        refine J.move rfl rfl ?_
        refine J.indexRow sl22 rfl (hz0.some (by omega)) rfl (by omega) (by omega) (by first | exact Int.toNat_natCast _ | rfl) rfl ?_
        refine J.load1 (k := .l) trivial 440 rfl rfl one5 (repN_get _ k _ _ (by omega)) rfl ?_
        refine J.move rfl rfl ?_
        refine J.add rfl rfl rfl (show _ = (50 : Int) by rfl) ?_
        refine J.conv (by rw [Try.underlying3]; rfl) Try.underlying5 rfl rfl (show _ = (50 : Int) by rfl) ?_
        refine J.neq rfl rfl rfl (decide_eq_false (fun h => h rfl)) ?_
        refine J.move rfl rfl ?_
        refine J.yes rfl rfl ?_
        refine J.move rfl rfl ?_
        refine J.yes rfl rfl ?_
        refine J.move rfl rfl ?_
        refine J.yes rfl rfl ?_
        refine J.move rfl rfl ?_
        refine J.yes rfl rfl ?_
        refine J.indexRow sl84 rfl (hq11.some (by omega)) rfl (by omega) (by omega) (by first | exact Int.toNat_natCast _ | rfl) rfl ?_
        refine J.yes rfl rfl ?_
        refine J.load1 (k := .l) trivial 11 rfl rfl one22 rfl rfl ?_
        refine J.yes rfl rfl ?_
        refine J.lenSl Try.underlying22 rfl rfl ?_
        refine J.yes rfl rfl ?_
        refine J.lss rfl rfl rfl rfl ?_
        refine J.yes rfl rfl ?_
        refine J.move rfl rfl ?_
        refine J.split 329 rfl (fun h38 => ?_) (fun h38 => ?_)
        · skip
          refine J.yes rfl rfl ?_
          refine J.move rfl rfl ?_
          refine J.yes rfl rfl ?_
          refine J.move rfl rfl ?_
          refine J.yes rfl rfl ?_
          refine J.indexRow sl84 rfl (hq11.some (by omega)) rfl (by omega) (by omega) (by first | exact Int.toNat_natCast _ | rfl) rfl ?_
          refine J.yes rfl rfl ?_
          refine J.load1 (k := .l) trivial 11 rfl rfl one22 rfl rfl ?_
          refine J.yes rfl rfl ?_
          refine J.move rfl rfl ?_
          refine J.yes rfl rfl ?_
          refine J.indexSlB sl22 rfl rfl (by omega) (by omega) (by first | exact Int.toNat_natCast _ | rfl) rfl ?_
          refine J.yes rfl rfl ?_
          refine J.load1 (k := .l) trivial 410 rfl rfl one5 (by rw [Nat.zero_add]; exact repN_get0 _ k _ (by omega)) rfl ?_
          refine J.yes rfl rfl ?_
          refine J.move rfl rfl ?_
          refine J.yes rfl rfl ?_
          refine J.add rfl rfl rfl (show _ = (50 : Int) by rfl) ?_
          refine J.yes rfl rfl ?_
          refine J.conv (by rw [Try.underlying3]; rfl) Try.underlying5 rfl rfl (show _ = (50 : Int) by rfl) ?_
          refine J.yes rfl rfl ?_
          refine J.neq rfl rfl rfl (decide_eq_false (fun h => h rfl)) ?_
          refine J.yes rfl rfl ?_
          refine J.pick_t rfl rfl rfl ?_
          refine J.pick_f rfl rfl rfl ?_
          refine J.end ?_
          refine X.then ?_
          refine T.cond_false rfl ?_
          refine T.skip ?_
          refine X.inBlock (X.then ?_)
          refine T.text [.l, .l, .l] rfl ?_
          refine J.move rfl rfl ?_
          refine J.add rfl rfl rfl (by first | exact add_nat _ 1 (by omega) | exact i64_ok _ (by omega) | exact rfl) ?_
          refine J.assign rfl rfl ?_
          refine J.end ?_
          exact X.round (k + 1) (by omega) (by first | omega | (dsimp only; omega)) (by repeat (first | exact sn _ | refine sc rfl ?_)) (by repeat (first | exact sn _ | refine sc rfl ?_))
        · skip
          refine J.no rfl rfl rfl rfl ?_
          refine J.no rfl rfl rfl rfl ?_
          refine J.no rfl rfl rfl rfl ?_
          refine J.no rfl rfl rfl rfl ?_
          refine J.no rfl rfl rfl rfl ?_
          refine J.no rfl rfl rfl rfl ?_
          refine J.no rfl rfl rfl rfl ?_
          refine J.no rfl rfl rfl rfl ?_
          refine J.no rfl rfl rfl rfl ?_
          refine J.no rfl rfl rfl rfl ?_
          refine J.no rfl rfl rfl rfl ?_
          refine J.yes rfl rfl ?_
          refine J.pick_f rfl rfl rfl ?_
          refine J.pick_f rfl rfl rfl ?_
          refine J.end ?_
          refine X.then ?_
          refine T.cond_false rfl ?_
          refine T.skip ?_
          refine X.inBlock (X.then ?_)
          refine T.text [.l, .l, .l] rfl ?_
          refine J.move rfl rfl ?_
          refine J.add rfl rfl rfl (by first | exact add_nat _ 1 (by omega) | exact i64_ok _ (by omega) | exact rfl) ?_
          refine J.assign rfl rfl ?_
          refine J.end ?_
          exact X.round (k + 1) (by omega) (by first | omega | (dsimp only; omega)) (by repeat (first | exact sn _ | refine sc rfl ?_)) (by repeat (first | exact sn _ | refine sc rfl ?_))
      refine T.exit ?_
      refine X.then_exit (X.then_exit (X.inBlock_eq (X.inBlock (X.then ?_))))
      refine T.text [.l, .l, .l] rfl ?_
      refine J.move rfl rfl ?_
      refine J.add rfl rfl rfl (by first | exact add_nat _ 1 (by omega) | exact i64_ok _ (by omega) | exact rfl) ?_
      refine J.as 300 (.int .i64 ((1 : Nat) : Int)) rfl (by rfl) ?_
      refine J.assign rfl rfl ?_
      refine J.end ?_
      exact X.round 1 (by first | decide | omega) (by first | omega | (dsimp only; omega)) (by repeat (first | exact sn _ | refine sc rfl ?_)) (by repeat (first | exact sn _ | refine sc rfl ?_))
    · skip
      refine T.skip ?_
      refine X.then ?_
      refine T.seq ?_
      refine T.block ?_
      refine T.seq ?_
      refine T.text [.l] rfl ?_
      refine J.assign rfl rfl ?_
      refine J.end ?_
      refine X.then ?_
      refine T.block ?_
      refine T.loop (ι := Nat) (fun (k : Nat) => k ≤ rb.length + 70) (fun (k : Nat) => [(1, r53.val bs.length), (7, .pointer (some ⟨g, 0, none⟩)), (8, r.val zs.length), (9, .pointer (some ⟨g43, 0, none⟩)), (10, W9.val (2 * 2)), (11, B9.val (3 * 2)), (24, Y.val 4), (28, Z.val 6), (34, .int .i64 ((1 : Nat) : Int)), (35, .int .i64 ((k : Nat) : Int))]) (fun (k : Nat) => [(100, ⟨some g, 89, stkM S ((zs.length : Nat) : Int)⟩), (101, r.ent 25 (rowW zs)), (43, ⟨some g43, 99, [i60.val mm.length]⟩), (44, i60.ent 5 (rowN .u8 mm)), (50, r53.ent 5 (rowN .u8 bs)), (10, W9.ent 32 [slv (some u0) zs.length, slv (some u1) zs.length, slv (some u2) zs.length, slv (some u3) zs.length]), (11, B9.ent 22 [slv (some s0) bs.length, slv (some s1) rb.length, slv (some s2) bs.length, slv (some s3) bs.length, slv (some s4) rb.length, slv (some s5) bs.length]), (400, eW 25 u0 zs.length 0), (401, eW 25 u1 zs.length 1), (402, eW 25 u2 zs.length 2), (403, eW 25 u3 zs.length 3), (410, eN 5 s0 bs.length 50), (411, eN 5 s1 rb.length 51), (412, eN 5 s2 bs.length 52), (413, eN 5 s3 bs.length 53), (414, eN 5 s4 rb.length 54), (415, eN 5 s5 bs.length 55), (420, y0.ent 25 (rowW (List.replicate (zs.length + 30) (mkw 0)))), (421, y1.ent 25 (rowW (List.replicate (zs.length + 30) (mkw 1)))), (422, y2.ent 25 (rowW (List.replicate (zs.length + 30) (mkw 2)))), (423, y3.ent 25 (rowW (List.replicate (zs.length + 30) (mkw 3)))), (24, Y.ent 32 [y0.val (zs.length + 30), y1.val (zs.length + 30), y2.val (zs.length + 30), y3.val (zs.length + 30)]), (440, z0.ent 5 (rowN .u8 (List.replicate (bs.length + 70) 50))), (441, z1.ent 5 (rowN .u8 (List.replicate (rb.length + 70) 51))), (442, z2.ent 5 (rowN .u8 (List.replicate (bs.length + 70) 52))), (443, z3.ent 5 (rowN .u8 (List.replicate (bs.length + 70) 53))), (444, z4.ent 5 (rowN .u8 (List.replicate (rb.length + 70) 54))), (445, z5.ent 5 (rowN .u8 (List.replicate (bs.length + 70) 55))), (28, Z.ent 22 [z0.val (bs.length + 70), z1.val (rb.length + 70), z2.val (bs.length + 70), z3.val (bs.length + 70), z4.val (rb.length + 70), z5.val (bs.length + 70)])]) (fun (k : Nat) => rb.length + 70 - k) 0 (Nat.zero_le _) (by repeat (first | exact sn _ | refine sc rfl ?_)) (by repeat (first | exact sn _ | refine sc rfl ?_)) ?_
      rintro k hk
      refine T.seq ?_
      refine T.seq ?_
      refine T.text [.l, .l, .l, .l, .l, .l, .l] rfl ?_
      refine J.move rfl rfl ?_
      refine J.move rfl rfl ?_
      refine J.move rfl rfl ?_
      refine J.indexRow sl84 rfl (hR28.some (by omega)) rfl (by omega) (by omega) (by first | exact Int.toNat_natCast _ | rfl) rfl ?_
      refine J.load1 (k := .l) trivial 28 rfl rfl one22 rfl rfl ?_
      refine J.lenSl Try.underlying22 rfl rfl ?_
      refine J.lss rfl rfl rfl rfl ?_
      refine J.end ?_
      refine X.then ?_
      refine T.cond_dec rfl (fun h39 => ?_) (fun h39 => ?_)
      · have hk2 : k < rb.length + 70 := by omega
        refine T.skip ?_
        refine X.then ?_
        refine T.seq ?_
        refine T.block ?_
        refine T.seq ?_
        refine T.text [.l, .l, .l, .l, .l, .l, .l, .l, .l, .l, .l, .l, .l, .l, .l, .l, .l, .l, .l, .l, .l, .l, .l, .l, .l, .l, .l, .l, .l, .l, .l, .l, .l] rfl ?_
        refine J.move rfl rfl ?_
        refine J.move rfl rfl ?_
        refine J.indexRow sl84 rfl (hR28.some (by omega)) rfl (by omega) (by omega) (by first | exact Int.toNat_natCast _ | rfl) rfl ?_
        refine J.load1 (k := .l) trivial 28 rfl rfl one22 rfl rfl ?_
        refine J.move rfl rfl ?_
        refine J.indexRow sl22 rfl (hz1.some (by omega)) rfl (by omega) (by omega) (by first | exact Int.toNat_natCast _ | rfl) rfl ?_
        refine J.load1 (k := .l) trivial 441 rfl rfl one5 (repN_get _ k _ _ (by omega)) rfl ?_
        refine J.move rfl rfl ?_
        refine J.add rfl rfl rfl (show _ = (51 : Int) by rfl) ?_
        refine J.conv (by rw [Try.underlying3]; rfl) Try.underlying5 rfl rfl (show _ = (51 : Int) by rfl) ?_
        refine J.neq rfl rfl rfl (decide_eq_false (fun h => h rfl)) ?_
        refine J.move rfl rfl ?_
        refine J.yes rfl rfl ?_
        refine J.move rfl rfl ?_
        refine J.yes rfl rfl ?_
        refine J.move rfl rfl ?_
        refine J.yes rfl rfl ?_
        refine J.move rfl rfl ?_
        refine J.yes rfl rfl ?_
        refine J.indexRow sl84 rfl (hq11.some (by omega)) rfl (by omega) (by omega) (by first | exact Int.toNat_natCast _ | rfl) rfl ?_
        refine J.yes rfl rfl ?_
        refine J.load1 (k := .l) trivial 11 rfl rfl one22 rfl rfl ?_
        refine J.yes rfl rfl ?_
        refine J.lenSl Try.underlying22 rfl rfl ?_
        refine J.yes rfl rfl ?_
        refine J.lss rfl rfl rfl rfl ?_
        refine J.yes rfl rfl ?_
        refine J.move rfl rfl ?_
        refine J.split 329 rfl (fun h40 => ?_) (fun h40 => ?_)
        · skip
          refine J.yes rfl rfl ?_
          refine J.move rfl rfl ?_
          refine J.yes rfl rfl ?_
          refine J.move rfl rfl ?_
          refine J.yes rfl rfl ?_
          refine J.indexRow sl84 rfl (hq11.some (by omega)) rfl (by omega) (by omega) (by first | exact Int.toNat_natCast _ | rfl) rfl ?_
          refine J.yes rfl rfl ?_
          refine J.load1 (k := .l) trivial 11 rfl rfl one22 rfl rfl ?_
          refine J.yes rfl rfl ?_
          refine J.move rfl rfl ?_
          refine J.yes rfl rfl ?_
          refine J.indexSlB sl22 rfl rfl (by omega) (by omega) (by first | exact Int.toNat_natCast _ | rfl) rfl ?_
          refine J.yes rfl rfl ?_
          refine J.load1 (k := .l) trivial 411 rfl rfl one5 (by rw [Nat.zero_add]; exact repN_get0 _ k _ (by omega)) rfl ?_
          refine J.yes rfl rfl ?_
          refine J.move rfl rfl ?_
          refine J.yes rfl rfl ?_
          refine J.add rfl rfl rfl (show _ = (51 : Int) by rfl) ?_
          refine J.yes rfl rfl ?_
          refine J.conv (by rw [Try.underlying3]; rfl) Try.underlying5 rfl rfl (show _ = (51 : Int) by rfl) ?_
          refine J.yes rfl rfl ?_
          refine J.neq rfl rfl rfl (decide_eq_false (fun h => h rfl)) ?_
          refine J.yes rfl rfl ?_
          refine J.pick_t rfl rfl rfl ?_
          refine J.pick_f rfl rfl rfl ?_
          refine J.end ?_
          refine X.then ?_
          refine T.cond_false rfl ?_
          refine T.skip ?_
          refine X.inBlock (X.then ?_)
          refine T.text [.l, .l, .l] rfl ?_
          refine J.move rfl rfl ?_
          refine J.add rfl rfl rfl (by first | exact add_nat _ 1 (by omega) | exact i64_ok _ (by omega) | exact rfl) ?_
          refine J.assign rfl rfl ?_
          refine J.end ?_
          exact X.round (k + 1) (by omega) (by first | omega | (dsimp only; omega)) (by repeat (first | exact sn _ | refine sc rfl ?_)) (by repeat (first | exact sn _ | refine sc rfl ?_))
        · skip
          refine J.no rfl rfl rfl rfl ?_
          refine J.no rfl rfl rfl rfl ?_
          refine J.no rfl rfl rfl rfl ?_
          refine J.no rfl rfl rfl rfl ?_
          refine J.no rfl rfl rfl rfl ?_
          refine J.no rfl rfl rfl rfl ?_
          refine J.no rfl rfl rfl rfl ?_
          refine J.no rfl rfl rfl rfl ?_
          refine J.no rfl rfl rfl rfl ?_
          refine J.no rfl rfl rfl rfl ?_
          refine J.no rfl rfl rfl rfl ?_
          refine J.yes rfl rfl ?_
          refine J.pick_f rfl rfl rfl ?_
          refine J.pick_f rfl rfl rfl ?_
          refine J.end ?_
          refine X.then ?_
          refine T.cond_false rfl ?_
          refine T.skip ?_
          refine X.inBlock (X.then ?_)
          refine T.text [.l, .l, .l] rfl ?_
          refine J.move rfl rfl ?_
          refine J.add rfl rfl rfl (by first | exact add_nat _ 1 (by omega) | exact i64_ok _ (by omega) | exact rfl) ?_
          refine J.assign rfl rfl ?_
          refine J.end ?_
          exact X.round (k + 1) (by omega) (by first | omega | (dsimp only; omega)) (by repeat (first | exact sn _ | refine sc rfl ?_)) (by repeat (first | exact sn _ | refine sc rfl ?_))
      refine T.exit ?_
      refine X.then_exit (X.then_exit (X.inBlock_eq (X.inBlock (X.then ?_))))
      refine T.text [.l, .l, .l] rfl ?_
      refine J.move rfl rfl ?_
      refine J.add rfl rfl rfl (by first | exact add_nat _ 1 (by omega) | exact i64_ok _ (by omega) | exact rfl) ?_
      refine J.as 300 (.int .i64 ((2 : Nat) : Int)) rfl (by rfl) ?_
      refine J.assign rfl rfl ?_
      refine J.end ?_
      exact X.round 2 (by first | decide | omega) (by first | omega | (dsimp only; omega)) (by repeat (first | exact sn _ | refine sc rfl ?_)) (by repeat (first | exact sn _ | refine sc rfl ?_))
    · skip
      refine T.skip ?_
      refine X.then ?_
      refine T.seq ?_
      refine T.block ?_
      refine T.seq ?_
      refine T.text [.l] rfl ?_
      refine J.assign rfl rfl ?_
      refine J.end ?_
      refine X.then ?_
      refine T.block ?_
      refine T.loop (ι := Nat) (fun (k : Nat) => k ≤ bs.length + 70) (fun (k : Nat) => [(1, r53.val bs.length), (7, .pointer (some ⟨g, 0, none⟩)), (8, r.val zs.length), (9, .pointer (some ⟨g43, 0, none⟩)), (10, W9.val (2 * 2)), (11, B9.val (3 * 2)), (24, Y.val 4), (28, Z.val 6), (34, .int .i64 ((2 : Nat) : Int)), (35, .int .i64 ((k : Nat) : Int))]) (fun (k : Nat) => [(100, ⟨some g, 89, stkM S ((zs.length : Nat) : Int)⟩), (101, r.ent 25 (rowW zs)), (43, ⟨some g43, 99, [i60.val mm.length]⟩), (44, i60.ent 5 (rowN .u8 mm)), (50, r53.ent 5 (rowN .u8 bs)), (10, W9.ent 32 [slv (some u0) zs.length, slv (some u1) zs.length, slv (some u2) zs.length, slv (some u3) zs.length]), (11, B9.ent 22 [slv (some s0) bs.length, slv (some s1) rb.length, slv (some s2) bs.length, slv (some s3) bs.length, slv (some s4) rb.length, slv (some s5) bs.length]), (400, eW 25 u0 zs.length 0), (401, eW 25 u1 zs.length 1), (402, eW 25 u2 zs.length 2), (403, eW 25 u3 zs.length 3), (410, eN 5 s0 bs.length 50), (411, eN 5 s1 rb.length 51), (412, eN 5 s2 bs.length 52), (413, eN 5 s3 bs.length 53), (414, eN 5 s4 rb.length 54), (415, eN 5 s5 bs.length 55), (420, y0.ent 25 (rowW (List.replicate (zs.length + 30) (mkw 0)))), (421, y1.ent 25 (rowW (List.replicate (zs.length + 30) (mkw 1)))), (422, y2.ent 25 (rowW (List.replicate (zs.length + 30) (mkw 2)))), (423, y3.ent 25 (rowW (List.replicate (zs.length + 30) (mkw 3)))), (24, Y.ent 32 [y0.val (zs.length + 30), y1.val (zs.length + 30), y2.val (zs.length + 30), y3.val (zs.length + 30)]), (440, z0.ent 5 (rowN .u8 (List.replicate (bs.length + 70) 50))), (441, z1.ent 5 (rowN .u8 (List.replicate (rb.length + 70) 51))), (442, z2.ent 5 (rowN .u8 (List.replicate (bs.length + 70) 52))), (443, z3.ent 5 (rowN .u8 (List.replicate (bs.length + 70) 53))), (444, z4.ent 5 (rowN .u8 (List.replicate (rb.length + 70) 54))), (445, z5.ent 5 (rowN .u8 (List.replicate (bs.length + 70) 55))), (28, Z.ent 22 [z0.val (bs.length + 70), z1.val (rb.length + 70), z2.val (bs.length + 70), z3.val (bs.length + 70), z4.val (rb.length + 70), z5.val (bs.length + 70)])]) (fun (k : Nat) => bs.length + 70 - k) 0 (Nat.zero_le _) (by repeat (first | exact sn _ | refine sc rfl ?_)) (by repeat (first | exact sn _ | refine sc rfl ?_)) ?_
      rintro k hk
      refine T.seq ?_
      refine T.seq ?_
      refine T.text [.l, .l, .l, .l, .l, .l, .l] rfl ?_
      refine J.move rfl rfl ?_
      refine J.move rfl rfl ?_
      refine J.move rfl rfl ?_
      refine J.indexRow sl84 rfl (hR28.some (by omega)) rfl (by omega) (by omega) (by first | exact Int.toNat_natCast _ | rfl) rfl ?_
      refine J.load1 (k := .l) trivial 28 rfl rfl one22 rfl rfl ?_
      refine J.lenSl Try.underlying22 rfl rfl ?_
      refine J.lss rfl rfl rfl rfl ?_
      refine J.end ?_
      refine X.then ?_
      refine T.cond_dec rfl (fun h41 => ?_) (fun h41 => ?_)
      · have hk2 : k < bs.length + 70 := by omega
        refine T.skip ?_
        refine X.then ?_
        refine T.seq ?_
        refine T.block ?_
        refine T.seq ?_
        refine T.text [.l, .l, .l, .l, .l, .l, .l, .l, .l, .l, .l, .l, .l, .l, .l, .l, .l, .l, .l, .l, .l, .l, .l, .l, .l, .l, .l, .l, .l, .l, .l, .l, .l] rfl ?_
        refine J.move rfl rfl ?_
        refine J.move rfl rfl ?_
        refine J.indexRow sl84 rfl (hR28.some (by omega)) rfl (by omega) (by omega) (by first | exact Int.toNat_natCast _ | rfl) rfl ?_
        refine J.load1 (k := .l) trivial 28 rfl rfl one22 rfl rfl ?_
        refine J.move rfl rfl ?_
        refine J.indexRow sl22 rfl (hz2.some (by omega)) rfl (by omega) (by omega) (by first | exact Int.toNat_natCast _ | rfl) rfl ?_
        refine J.load1 (k := .l) trivial 442 rfl rfl one5 (repN_get _ k _ _ (by omega)) rfl ?_
        refine J.move rfl rfl ?_
        refine J.add rfl rfl rfl (show _ = (52 : Int) by rfl) ?_
        refine J.conv (by rw [Try.underlying3]; rfl) Try.underlying5 rfl rfl (show _ = (52 : Int) by rfl) ?_
        refine J.neq rfl rfl rfl (decide_eq_false (fun h => h rfl)) ?_
        refine J.move rfl rfl ?_
        refine J.yes rfl rfl ?_
        refine J.move rfl rfl ?_
        refine J.yes rfl rfl ?_
        refine J.move rfl rfl ?_
        refine J.yes rfl rfl ?_
        refine J.move rfl rfl ?_
        refine J.yes rfl rfl ?_
        refine J.indexRow sl84 rfl (hq11.some (by omega)) rfl (by omega) (by omega) (by first | exact Int.toNat_natCast _ | rfl) rfl ?_
        refine J.yes rfl rfl ?_
        refine J.load1 (k := .l) trivial 11 rfl rfl one22 rfl rfl ?_
        refine J.yes rfl rfl ?_
        refine J.lenSl Try.underlying22 rfl rfl ?_
        refine J.yes rfl rfl ?_
        refine J.lss rfl rfl rfl rfl ?_
        refine J.yes rfl rfl ?_
        refine J.move rfl rfl ?_
        refine J.split 329 rfl (fun h42 => ?_) (fun h42 => ?_)
        · skip
          refine J.yes rfl rfl ?_
          refine J.move rfl rfl ?_
          refine J.yes rfl rfl ?_
          refine J.move rfl rfl ?_
          refine J.yes rfl rfl ?_
          refine J.indexRow sl84 rfl (hq11.some (by omega)) rfl (by omega) (by omega) (by first | exact Int.toNat_natCast _ | rfl) rfl ?_
          refine J.yes rfl rfl ?_
          refine J.load1 (k := .l) trivial 11 rfl rfl one22 rfl rfl ?_
          refine J.yes rfl rfl ?_
          refine J.move rfl rfl ?_
          refine J.yes rfl rfl ?_
          refine J.indexSlB sl22 rfl rfl (by omega) (by omega) (by first | exact Int.toNat_natCast _ | rfl) rfl ?_
          refine J.yes rfl rfl ?_
          refine J.load1 (k := .l) trivial 412 rfl rfl one5 (by rw [Nat.zero_add]; exact repN_get0 _ k _ (by omega)) rfl ?_
          refine J.yes rfl rfl ?_
          refine J.move rfl rfl ?_
          refine J.yes rfl rfl ?_
          refine J.add rfl rfl rfl (show _ = (52 : Int) by rfl) ?_
          refine J.yes rfl rfl ?_
          refine J.conv (by rw [Try.underlying3]; rfl) Try.underlying5 rfl rfl (show _ = (52 : Int) by rfl) ?_
          refine J.yes rfl rfl ?_
          refine J.neq rfl rfl rfl (decide_eq_false (fun h => h rfl)) ?_
          refine J.yes rfl rfl ?_
          refine J.pick_t rfl rfl rfl ?_
          refine J.pick_f rfl rfl rfl ?_
          refine J.end ?_
          refine X.then ?_
          refine T.cond_false rfl ?_
          refine T.skip ?_
          refine X.inBlock (X.then ?_)
          refine T.text [.l, .l, .l] rfl ?_
          refine J.move rfl rfl ?_
          refine J.add rfl rfl rfl (by first | exact add_nat _ 1 (by omega) | exact i64_ok _ (by omega) | exact rfl) ?_
          refine J.assign rfl rfl ?_
          refine J.end ?_
          exact X.round (k + 1) (by omega) (by first | omega | (dsimp only; omega)) (by repeat (first | exact sn _ | refine sc rfl ?_)) (by repeat (first | exact sn _ | refine sc rfl ?_))
        · skip
          refine J.no rfl rfl rfl rfl ?_
          refine J.no rfl rfl rfl rfl ?_
          refine J.no rfl rfl rfl rfl ?_
          refine J.no rfl rfl rfl rfl ?_
          refine J.no rfl rfl rfl rfl ?_
          refine J.no rfl rfl rfl rfl ?_
          refine J.no rfl rfl rfl rfl ?_
          refine J.no rfl rfl rfl rfl ?_
          refine J.no rfl rfl rfl rfl ?_
          refine J.no rfl rfl rfl rfl ?_
          refine J.no rfl rfl rfl rfl ?_
          refine J.yes rfl rfl ?_
          refine J.pick_f rfl rfl rfl ?_
          refine J.pick_f rfl rfl rfl ?_
          refine J.end ?_
          refine X.then ?_
          refine T.cond_false rfl ?_
          refine T.skip ?_
          refine X.inBlock (X.then ?_)
          refine T.text [.l, .l, .l] rfl ?_
          refine J.move rfl rfl ?_
          refine J.add rfl rfl rfl (by first | exact add_nat _ 1 (by omega) | exact i64_ok _ (by omega) | exact rfl) ?_
          refine J.assign rfl rfl ?_
          refine J.end ?_
          exact X.round (k + 1) (by omega) (by first | omega | (dsimp only; omega)) (by repeat (first | exact sn _ | refine sc rfl ?_)) (by repeat (first | exact sn _ | refine sc rfl ?_))
      refine T.exit ?_
      refine X.then_exit (X.then_exit (X.inBlock_eq (X.inBlock (X.then ?_))))
      refine T.text [.l, .l, .l] rfl ?_
      refine J.move rfl rfl ?_
      refine J.add rfl rfl rfl (by first | exact add_nat _ 1 (by omega) | exact i64_ok _ (by omega) | exact rfl) ?_
      refine J.as 300 (.int .i64 ((3 : Nat) : Int)) rfl (by rfl) ?_
      refine J.assign rfl rfl ?_
      refine J.end ?_
      exact X.round 3 (by first | decide | omega) (by first | omega | (dsimp only; omega)) (by repeat (first | exact sn _ | refine sc rfl ?_)) (by repeat (first | exact sn _ | refine sc rfl ?_))
    · skip
      refine T.skip ?_
      refine X.then ?_
      refine T.seq ?_
      refine T.block ?_
      refine T.seq ?_
      refine T.text [.l] rfl ?_
      refine J.assign rfl rfl ?_
      refine J.end ?_
      refine X.then ?_
      refine T.block ?_
      refine T.loop (ι := Nat) (fun (k : Nat) => k ≤ bs.length + 70) (fun (k : Nat) => [(1, r53.val bs.length), (7, .pointer (some ⟨g, 0, none⟩)), (8, r.val zs.length), (9, .pointer (some ⟨g43, 0, none⟩)), (10, W9.val (2 * 2)), (11, B9.val (3 * 2)), (24, Y.val 4), (28, Z.val 6), (34, .int .i64 ((3 : Nat) : Int)), (35, .int .i64 ((k : Nat) : Int))]) (fun (k : Nat) => [(100, ⟨some g, 89, stkM S ((zs.length : Nat) : Int)⟩), (101, r.ent 25 (rowW zs)), (43, ⟨some g43, 99, [i60.val mm.length]⟩), (44, i60.ent 5 (rowN .u8 mm)), (50, r53.ent 5 (rowN .u8 bs)), (10, W9.ent 32 [slv (some u0) zs.length, slv (some u1) zs.length, slv (some u2) zs.length, slv (some u3) zs.length]), (11, B9.ent 22 [slv (some s0) bs.length, slv (some s1) rb.length, slv (some s2) bs.length, slv (some s3) bs.length, slv (some s4) rb.length, slv (some s5) bs.length]), (400, eW 25 u0 zs.length 0), (401, eW 25 u1 zs.length 1), (402, eW 25 u2 zs.length 2), (403, eW 25 u3 zs.length 3), (410, eN 5 s0 bs.length 50), (411, eN 5 s1 rb.length 51), (412, eN 5 s2 bs.length 52), (413, eN 5 s3 bs.length 53), (414, eN 5 s4 rb.length 54), (415, eN 5 s5 bs.length 55), (420, y0.ent 25 (rowW (List.replicate (zs.length + 30) (mkw 0)))), (421, y1.ent 25 (rowW (List.replicate (zs.length + 30) (mkw 1)))), (422, y2.ent 25 (rowW (List.replicate (zs.length + 30) (mkw 2)))), (423, y3.ent 25 (rowW (List.replicate (zs.length + 30) (mkw 3)))), (24, Y.ent 32 [y0.val (zs.length + 30), y1.val (zs.length + 30), y2.val (zs.length + 30), y3.val (zs.length + 30)]), (440, z0.ent 5 (rowN .u8 (List.replicate (bs.length + 70) 50))), (441, z1.ent 5 (rowN .u8 (List.replicate (rb.length + 70) 51))), (442, z2.ent 5 (rowN .u8 (List.replicate (bs.length + 70) 52))), (443, z3.ent 5 (rowN .u8 (List.replicate (bs.length + 70) 53))), (444, z4.ent 5 (rowN .u8 (List.replicate (rb.length + 70) 54))), (445, z5.ent 5 (rowN .u8 (List.replicate (bs.length + 70) 55))), (28, Z.ent 22 [z0.val (bs.length + 70), z1.val (rb.length + 70), z2.val (bs.length + 70), z3.val (bs.length + 70), z4.val (rb.length + 70), z5.val (bs.length + 70)])]) (fun (k : Nat) => bs.length + 70 - k) 0 (Nat.zero_le _) (by repeat (first | exact sn _ | refine sc rfl ?_)) (by repeat (first | exact sn _ | refine sc rfl ?_)) ?_
      rintro k hk
      refine T.seq ?_
      refine T.seq ?_
      refine T.text [.l, .l, .l, .l, .l, .l, .l] rfl ?_
      refine J.move rfl rfl ?_
      refine J.move rfl rfl ?_
      refine J.move rfl rfl ?_
      refine J.indexRow sl84 rfl (hR28.some (by omega)) rfl (by omega) (by omega) (by first | exact Int.toNat_natCast _ | rfl) rfl ?_
      refine J.load1 (k := .l) trivial 28 rfl rfl one22 rfl rfl ?_
      refine J.lenSl Try.underlying22 rfl rfl ?_
      refine J.lss rfl rfl rfl rfl ?_
      refine J.end ?_
      refine X.then ?_
      refine T.cond_dec rfl (fun h43 => ?_) (fun h43 => ?_)
      · have hk2 : k < bs.length + 70 := by omega
        refine T.skip ?_
        refine X.then ?_
        refine T.seq ?_
        refine T.block ?_
        refine T.seq ?_
        refine T.text [.l, .l, .l, .l, .l, .l, .l, .l, .l, .l, .l, .l, .l, .l, .l, .l, .l, .l, .l, .l, .l, .l, .l, .l, .l, .l, .l, .l, .l, .l, .l, .l, .l] rfl ?_
        refine J.move rfl rfl ?_
        refine J.move rfl rfl ?_
        refine J.indexRow sl84 rfl (hR28.some (by omega)) rfl (by omega) (by omega) (by first | exact Int.toNat_natCast _ | rfl) rfl ?_
        refine J.load1 (k := .l) trivial 28 rfl rfl one22 rfl rfl ?_
        refine J.move rfl rfl ?_
        refine J.indexRow sl22 rfl (hz3.some (by omega)) rfl (by omega) (by omega) (by first | exact Int.toNat_natCast _ | rfl) rfl ?_
        refine J.load1 (k := .l) trivial 443 rfl rfl one5 (repN_get _ k _ _ (by omega)) rfl ?_
        refine J.move rfl rfl ?_
        refine J.add rfl rfl rfl (show _ = (53 : Int) by rfl) ?_
        refine J.conv (by rw [Try.underlying3]; rfl) Try.underlying5 rfl rfl (show _ = (53 : Int) by rfl) ?_
        refine J.neq rfl rfl rfl (decide_eq_false (fun h => h rfl)) ?_
        refine J.move rfl rfl ?_
        refine J.yes rfl rfl ?_
        refine J.move rfl rfl ?_
        refine J.yes rfl rfl ?_
        refine J.move rfl rfl ?_
        refine J.yes rfl rfl ?_
        refine J.move rfl rfl ?_
        refine J.yes rfl rfl ?_
        refine J.indexRow sl84 rfl (hq11.some (by omega)) rfl (by omega) (by omega) (by first | exact Int.toNat_natCast _ | rfl) rfl ?_
        refine J.yes rfl rfl ?_
        refine J.load1 (k := .l) trivial 11 rfl rfl one22 rfl rfl ?_
        refine J.yes rfl rfl ?_
        refine J.lenSl Try.underlying22 rfl rfl ?_
        refine J.yes rfl rfl ?_
        refine J.lss rfl rfl rfl rfl ?_
        refine J.yes rfl rfl ?_
        refine J.move rfl rfl ?_
        refine J.split 329 rfl (fun h44 => ?_) (fun h44 => ?_)
        · skip
          refine J.yes rfl rfl ?_
          refine J.move rfl rfl ?_
          refine J.yes rfl rfl ?_
          refine J.move rfl rfl ?_
          refine J.yes rfl rfl ?_
          refine J.indexRow sl84 rfl (hq11.some (by omega)) rfl (by omega) (by omega) (by first | exact Int.toNat_natCast _ | rfl) rfl ?_
          refine J.yes rfl rfl ?_
          refine J.load1 (k := .l) trivial 11 rfl rfl one22 rfl rfl ?_
          refine J.yes rfl rfl ?_
          refine J.move rfl rfl ?_
          refine J.yes rfl rfl ?_
          refine J.indexSlB sl22 rfl rfl (by omega) (by omega) (by first | exact Int.toNat_natCast _ | rfl) rfl ?_
          refine J.yes rfl rfl ?_
          refine J.load1 (k := .l) trivial 413 rfl rfl one5 (by rw [Nat.zero_add]; exact repN_get0 _ k _ (by omega)) rfl ?_
          refine J.yes rfl rfl ?_
          refine J.move rfl rfl ?_
          refine J.yes rfl rfl ?_
          refine J.add rfl rfl rfl (show _ = (53 : Int) by rfl) ?_
          refine J.yes rfl rfl ?_
          refine J.conv (by rw [Try.underlying3]; rfl) Try.underlying5 rfl rfl (show _ = (53 : Int) by rfl) ?_
          refine J.yes rfl rfl ?_
          refine J.neq rfl rfl rfl (decide_eq_false (fun h => h rfl)) ?_
          refine J.yes rfl rfl ?_
          refine J.pick_t rfl rfl rfl ?_
          refine J.pick_f rfl rfl rfl ?_
          refine J.end ?_
          refine X.then ?_
          refine T.cond_false rfl ?_
          refine T.skip ?_
          refine X.inBlock (X.then ?_)
          refine T.text [.l, .l, .l] rfl ?_
          refine J.move rfl rfl ?_
          refine J.add rfl rfl rfl (by first | exact add_nat _ 1 (by omega) | exact i64_ok _ (by omega) | exact rfl) ?_
          refine J.assign rfl rfl ?_
          refine J.end ?_
          exact X.round (k + 1) (by omega) (by first | omega | (dsimp only; omega)) (by repeat (first | exact sn _ | refine sc rfl ?_)) (by repeat (first | exact sn _ | refine sc rfl ?_))
        · skip
          refine J.no rfl rfl rfl rfl ?_
          refine J.no rfl rfl rfl rfl ?_
          refine J.no rfl rfl rfl rfl ?_
          refine J.no rfl rfl rfl rfl ?_
          refine J.no rfl rfl rfl rfl ?_
          refine J.no rfl rfl rfl rfl ?_
          refine J.no rfl rfl rfl rfl ?_
          refine J.no rfl rfl rfl rfl ?_
          refine J.no rfl rfl rfl rfl ?_
          refine J.no rfl rfl rfl rfl ?_
          refine J.no rfl rfl rfl rfl ?_
          refine J.yes rfl rfl ?_
          refine J.pick_f rfl rfl rfl ?_
          refine J.pick_f rfl rfl rfl ?_
          refine J.end ?_
          refine X.then ?_
          refine T.cond_false rfl ?_
          refine T.skip ?_
          refine X.inBlock (X.then ?_)
          refine T.text [.l, .l, .l] rfl ?_
          refine J.move rfl rfl ?_
          refine J.add rfl rfl rfl (by first | exact add_nat _ 1 (by omega) | exact i64_ok _ (by omega) | exact rfl) ?_
          refine J.assign rfl rfl ?_
          refine J.end ?_
          exact X.round (k + 1) (by omega) (by first | omega | (dsimp only; omega)) (by repeat (first | exact sn _ | refine sc rfl ?_)) (by repeat (first | exact sn _ | refine sc rfl ?_))
      refine T.exit ?_
      refine X.then_exit (X.then_exit (X.inBlock_eq (X.inBlock (X.then ?_))))
      refine T.text [.l, .l, .l] rfl ?_
      refine J.move rfl rfl ?_
      refine J.add rfl rfl rfl (by first | exact add_nat _ 1 (by omega) | exact i64_ok _ (by omega) | exact rfl) ?_
      refine J.as 300 (.int .i64 ((4 : Nat) : Int)) rfl (by rfl) ?_
      refine J.assign rfl rfl ?_
      refine J.end ?_
      exact X.round 4 (by first | decide | omega) (by first | omega | (dsimp only; omega)) (by repeat (first | exact sn _ | refine sc rfl ?_)) (by repeat (first | exact sn _ | refine sc rfl ?_))
    · skip
      refine T.skip ?_
      refine X.then ?_
      refine T.seq ?_
      refine T.block ?_
      refine T.seq ?_
      refine T.text [.l] rfl ?_
      refine J.assign rfl rfl ?_
      refine J.end ?_
      refine X.then ?_
      refine T.block ?_
      refine T.loop (ι := Nat) (fun (k : Nat) => k ≤ rb.length + 70) (fun (k : Nat) => [(1, r53.val bs.length), (7, .pointer (some ⟨g, 0, none⟩)), (8, r.val zs.length), (9, .pointer (some ⟨g43, 0, none⟩)), (10, W9.val (2 * 2)), (11, B9.val (3 * 2)), (24, Y.val 4), (28, Z.val 6), (34, .int .i64 ((4 : Nat) : Int)), (35, .int .i64 ((k : Nat) : Int))]) (fun (k : Nat) => [(100, ⟨some g, 89, stkM S ((zs.length : Nat) : Int)⟩), (101, r.ent 25 (rowW zs)), (43, ⟨some g43, 99, [i60.val mm.length]⟩), (44, i60.ent 5 (rowN .u8 mm)), (50, r53.ent 5 (rowN .u8 bs)), (10, W9.ent 32 [slv (some u0) zs.length, slv (some u1) zs.length, slv (some u2) zs.length, slv (some u3) zs.length]), (11, B9.ent 22 [slv (some s0) bs.length, slv (some s1) rb.length, slv (some s2) bs.length, slv (some s3) bs.length, slv (some s4) rb.length, slv (some s5) bs.length]), (400, eW 25 u0 zs.length 0), (401, eW 25 u1 zs.length 1), (402, eW 25 u2 zs.length 2), (403, eW 25 u3 zs.length 3), (410, eN 5 s0 bs.length 50), (411, eN 5 s1 rb.length 51), (412, eN 5 s2 bs.length 52), (413, eN 5 s3 bs.length 53), (414, eN 5 s4 rb.length 54), (415, eN 5 s5 bs.length 55), (420, y0.ent 25 (rowW (List.replicate (zs.length + 30) (mkw 0)))), (421, y1.ent 25 (rowW (List.replicate (zs.length + 30) (mkw 1)))), (422, y2.ent 25 (rowW (List.replicate (zs.length + 30) (mkw 2)))), (423, y3.ent 25 (rowW (List.replicate (zs.length + 30) (mkw 3)))), (24, Y.ent 32 [y0.val (zs.length + 30), y1.val (zs.length + 30), y2.val (zs.length + 30), y3.val (zs.length + 30)]), (440, z0.ent 5 (rowN .u8 (List.replicate (bs.length + 70) 50))), (441, z1.ent 5 (rowN .u8 (List.replicate (rb.length + 70) 51))), (442, z2.ent 5 (rowN .u8 (List.replicate (bs.length + 70) 52))), (443, z3.ent 5 (rowN .u8 (List.replicate (bs.length + 70) 53))), (444, z4.ent 5 (rowN .u8 (List.replicate (rb.length + 70) 54))), (445, z5.ent 5 (rowN .u8 (List.replicate (bs.length + 70) 55))), (28, Z.ent 22 [z0.val (bs.length + 70), z1.val (rb.length + 70), z2.val (bs.length + 70), z3.val (bs.length + 70), z4.val (rb.length + 70), z5.val (bs.length + 70)])]) (fun (k : Nat) => rb.length + 70 - k) 0 (Nat.zero_le _) (by repeat (first | exact sn _ | refine sc rfl ?_)) (by repeat (first | exact sn _ | refine sc rfl ?_)) ?_
      rintro k hk
      refine T.seq ?_
      refine T.seq ?_
      refine T.text [.l, .l, .l, .l, .l, .l, .l] rfl ?_
      refine J.move rfl rfl ?_
      refine J.move rfl rfl ?_
      refine J.move rfl rfl ?_
      refine J.indexRow sl84 rfl (hR28.some (by omega)) rfl (by omega) (by omega) (by first | exact Int.toNat_natCast _ | rfl) rfl ?_
      refine J.load1 (k := .l) trivial 28 rfl rfl one22 rfl rfl ?_
      refine J.lenSl Try.underlying22 rfl rfl ?_
      refine J.lss rfl rfl rfl rfl ?_
      refine J.end ?_
      refine X.then ?_
      refine T.cond_dec rfl (fun h45 => ?_) (fun h45 => ?_)
      · have hk2 : k < rb.length + 70 := by omega
        refine T.skip ?_
        refine X.then ?_
        refine T.seq ?_
        refine T.block ?_
        refine T.seq ?_
        refine T.text [.l, .l, .l, .l, .l, .l, .l, .l, .l, .l, .l, .l, .l, .l, .l, .l, .l, .l, .l, .l, .l, .l, .l, .l, .l, .l, .l, .l, .l, .l, .l, .l, .l] rfl ?_
        refine J.move rfl rfl ?_
        refine J.move rfl rfl ?_
        refine J.indexRow sl84 rfl (hR28.some (by omega)) rfl (by omega) (by omega) (by first | exact Int.toNat_natCast _ | rfl) rfl ?_
        refine J.load1 (k := .l) trivial 28 rfl rfl one22 rfl rfl ?_
        refine J.move rfl rfl ?_
        refine J.indexRow sl22 rfl (hz4.some (by omega)) rfl (by omega) (by omega) (by first | exact Int.toNat_natCast _ | rfl) rfl ?_
        refine J.load1 (k := .l) trivial 444 rfl rfl one5 (repN_get _ k _ _ (by omega)) rfl ?_
        refine J.move rfl rfl ?_
        refine J.add rfl rfl rfl (show _ = (54 : Int) by rfl) ?_
        refine J.conv (by rw [Try.underlying3]; rfl) Try.underlying5 rfl rfl (show _ = (54 : Int) by rfl) ?_
        refine J.neq rfl rfl rfl (decide_eq_false (fun h => h rfl)) ?_
        refine J.move rfl rfl ?_
        refine J.yes rfl rfl ?_
        refine J.move rfl rfl ?_
        refine J.yes rfl rfl ?_
        refine J.move rfl rfl ?_
        refine J.yes rfl rfl ?_
        refine J.move rfl rfl ?_
        refine J.yes rfl rfl ?_
        refine J.indexRow sl84 rfl (hq11.some (by omega)) rfl (by omega) (by omega) (by first | exact Int.toNat_natCast _ | rfl) rfl ?_
        refine J.yes rfl rfl ?_
        refine J.load1 (k := .l) trivial 11 rfl rfl one22 rfl rfl ?_
        refine J.yes rfl rfl ?_
        refine J.lenSl Try.underlying22 rfl rfl ?_
        refine J.yes rfl rfl ?_
        refine J.lss rfl rfl rfl rfl ?_
        refine J.yes rfl rfl ?_
        refine J.move rfl rfl ?_
        refine J.split 329 rfl (fun h46 => ?_) (fun h46 => ?_)
        · skip
          refine J.yes rfl rfl ?_
          refine J.move rfl rfl ?_
          refine J.yes rfl rfl ?_
          refine J.move rfl rfl ?_
          refine J.yes rfl rfl ?_
          refine J.indexRow sl84 rfl (hq11.some (by omega)) rfl (by omega) (by omega) (by first | exact Int.toNat_natCast _ | rfl) rfl ?_
          refine J.yes rfl rfl ?_
          refine J.load1 (k := .l) trivial 11 rfl rfl one22 rfl rfl ?_
          refine J.yes rfl rfl ?_
          refine J.move rfl rfl ?_
          refine J.yes rfl rfl ?_
          refine J.indexSlB sl22 rfl rfl (by omega) (by omega) (by first | exact Int.toNat_natCast _ | rfl) rfl ?_
          refine J.yes rfl rfl ?_
          refine J.load1 (k := .l) trivial 414 rfl rfl one5 (by rw [Nat.zero_add]; exact repN_get0 _ k _ (by omega)) rfl ?_
          refine J.yes rfl rfl ?_
          refine J.move rfl rfl ?_
          refine J.yes rfl rfl ?_
          refine J.add rfl rfl rfl (show _ = (54 : Int) by rfl) ?_
          refine J.yes rfl rfl ?_
          refine J.conv (by rw [Try.underlying3]; rfl) Try.underlying5 rfl rfl (show _ = (54 : Int) by rfl) ?_
          refine J.yes rfl rfl ?_
          refine J.neq rfl rfl rfl (decide_eq_false (fun h => h rfl)) ?_
          refine J.yes rfl rfl ?_
          refine J.pick_t rfl rfl rfl ?_
          refine J.pick_f rfl rfl rfl ?_
          refine J.end ?_
          refine X.then ?_
          refine T.cond_false rfl ?_
          refine T.skip ?_
          refine X.inBlock (X.then ?_)
          refine T.text [.l, .l, .l] rfl ?_
          refine J.move rfl rfl ?_
          refine J.add rfl rfl rfl (by first | exact add_nat _ 1 (by omega) | exact i64_ok _ (by omega) | exact rfl) ?_
          refine J.assign rfl rfl ?_
          refine J.end ?_
          exact X.round (k + 1) (by omega) (by first | omega | (dsimp only; omega)) (by repeat (first | exact sn _ | refine sc rfl ?_)) (by repeat (first | exact sn _ | refine sc rfl ?_))
        · skip
          refine J.no rfl rfl rfl rfl ?_
          refine J.no rfl rfl rfl rfl ?_
          refine J.no rfl rfl rfl rfl ?_
          refine J.no rfl rfl rfl rfl ?_
          refine J.no rfl rfl rfl rfl ?_
          refine J.no rfl rfl rfl rfl ?_
          refine J.no rfl rfl rfl rfl ?_
          refine J.no rfl rfl rfl rfl ?_
          refine J.no rfl rfl rfl rfl ?_
          refine J.no rfl rfl rfl rfl ?_
          refine J.no rfl rfl rfl rfl ?_
          refine J.yes rfl rfl ?_
          refine J.pick_f rfl rfl rfl ?_
          refine J.pick_f rfl rfl rfl ?_
          refine J.end ?_
          refine X.then ?_
          refine T.cond_false rfl ?_
          refine T.skip ?_
          refine X.inBlock (X.then ?_)
          refine T.text [.l, .l, .l] rfl ?_
          refine J.move rfl rfl ?_
          refine J.add rfl rfl rfl (by first | exact add_nat _ 1 (by omega) | exact i64_ok _ (by omega) | exact rfl) ?_
          refine J.assign rfl rfl ?_
          refine J.end ?_
          exact X.round (k + 1) (by omega) (by first | omega | (dsimp only; omega)) (by repeat (first | exact sn _ | refine sc rfl ?_)) (by repeat (first | exact sn _ | refine sc rfl ?_))
      refine T.exit ?_
      refine X.then_exit (X.then_exit (X.inBlock_eq (X.inBlock (X.then ?_))))
      refine T.text [.l, .l, .l] rfl ?_
      refine J.move rfl rfl ?_
      refine J.add rfl rfl rfl (by first | exact add_nat _ 1 (by omega) | exact i64_ok _ (by omega) | exact rfl) ?_
      refine J.as 300 (.int .i64 ((5 : Nat) : Int)) rfl (by rfl) ?_
      refine J.assign rfl rfl ?_
      refine J.end ?_
      exact X.round 5 (by first | decide | omega) (by first | omega | (dsimp only; omega)) (by repeat (first | exact sn _ | refine sc rfl ?_)) (by repeat (first | exact sn _ | refine sc rfl ?_))
    · skip
      refine T.skip ?_
      refine X.then ?_
      refine T.seq ?_
      refine T.block ?_
      refine T.seq ?_
      refine T.text [.l] rfl ?_
      refine J.assign rfl rfl ?_
      refine J.end ?_
      refine X.then ?_
      refine T.block ?_
      refine T.loop (ι := Nat) (fun (k : Nat) => k ≤ bs.length + 70) (fun (k : Nat) => [(1, r53.val bs.length), (7, .pointer (some ⟨g, 0, none⟩)), (8, r.val zs.length), (9, .pointer (some ⟨g43, 0, none⟩)), (10, W9.val (2 * 2)), (11, B9.val (3 * 2)), (24, Y.val 4), (28, Z.val 6), (34, .int .i64 ((5 : Nat) : Int)), (35, .int .i64 ((k : Nat) : Int))]) (fun (k : Nat) => [(100, ⟨some g, 89, stkM S ((zs.length : Nat) : Int)⟩), (101, r.ent 25 (rowW zs)), (43, ⟨some g43, 99, [i60.val mm.length]⟩), (44, i60.ent 5 (rowN .u8 mm)), (50, r53.ent 5 (rowN .u8 bs)), (10, W9.ent 32 [slv (some u0) zs.length, slv (some u1) zs.length, slv (some u2) zs.length, slv (some u3) zs.length]), (11, B9.ent 22 [slv (some s0) bs.length, slv (some s1) rb.length, slv (some s2) bs.length, slv (some s3) bs.length, slv (some s4) rb.length, slv (some s5) bs.length]), (400, eW 25 u0 zs.length 0), (401, eW 25 u1 zs.length 1), (402, eW 25 u2 zs.length 2), (403, eW 25 u3 zs.length 3), (410, eN 5 s0 bs.length 50), (411, eN 5 s1 rb.length 51), (412, eN 5 s2 bs.length 52), (413, eN 5 s3 bs.length 53), (414, eN 5 s4 rb.length 54), (415, eN 5 s5 bs.length 55), (420, y0.ent 25 (rowW (List.replicate (zs.length + 30) (mkw 0)))), (421, y1.ent 25 (rowW (List.replicate (zs.length + 30) (mkw 1)))), (422, y2.ent 25 (rowW (List.replicate (zs.length + 30) (mkw 2)))), (423, y3.ent 25 (rowW (List.replicate (zs.length + 30) (mkw 3)))), (24, Y.ent 32 [y0.val (zs.length + 30), y1.val (zs.length + 30), y2.val (zs.length + 30), y3.val (zs.length + 30)]), (440, z0.ent 5 (rowN .u8 (List.replicate (bs.length + 70) 50))), (441, z1.ent 5 (rowN .u8 (List.replicate (rb.length + 70) 51))), (442, z2.ent 5 (rowN .u8 (List.replicate (bs.length + 70) 52))), (443, z3.ent 5 (rowN .u8 (List.replicate (bs.length + 70) 53))), (444, z4.ent 5 (rowN .u8 (List.replicate (rb.length + 70) 54))), (445, z5.ent 5 (rowN .u8 (List.replicate (bs.length + 70) 55))), (28, Z.ent 22 [z0.val (bs.length + 70), z1.val (rb.length + 70), z2.val (bs.length + 70), z3.val (bs.length + 70), z4.val (rb.length + 70), z5.val (bs.length + 70)])]) (fun (k : Nat) => bs.length + 70 - k) 0 (Nat.zero_le _) (by repeat (first | exact sn _ | refine sc rfl ?_)) (by repeat (first | exact sn _ | refine sc rfl ?_)) ?_
      rintro k hk
      refine T.seq ?_
      refine T.seq ?_
      refine T.text [.l, .l, .l, .l, .l, .l, .l] rfl ?_
      refine J.move rfl rfl ?_
      refine J.move rfl rfl ?_
      refine J.move rfl rfl ?_
      refine J.indexRow sl84 rfl (hR28.some (by omega)) rfl (by omega) (by omega) (by first | exact Int.toNat_natCast _ | rfl) rfl ?_
      refine J.load1 (k := .l) trivial 28 rfl rfl one22 rfl rfl ?_
      refine J.lenSl Try.underlying22 rfl rfl ?_
      refine J.lss rfl rfl rfl rfl ?_
      refine J.end ?_
      refine X.then ?_
      refine T.cond_dec rfl (fun h47 => ?_) (fun h47 => ?_)
      · have hk2 : k < bs.length + 70 := by omega
        refine T.skip ?_
        refine X.then ?_
        refine T.seq ?_
        refine T.block ?_
        refine T.seq ?_
        refine T.text [.l, .l, .l, .l, .l, .l, .l, .l, .l, .l, .l, .l, .l, .l, .l, .l, .l, .l, .l, .l, .l, .l, .l, .l, .l, .l, .l, .l, .l, .l, .l, .l, .l] rfl ?_
        refine J.move rfl rfl ?_
        refine J.move rfl rfl ?_
        refine J.indexRow sl84 rfl (hR28.some (by omega)) rfl (by omega) (by omega) (by first | exact Int.toNat_natCast _ | rfl) rfl ?_
        refine J.load1 (k := .l) trivial 28 rfl rfl one22 rfl rfl ?_
        refine J.move rfl rfl ?_
        refine J.indexRow sl22 rfl (hz5.some (by omega)) rfl (by omega) (by omega) (by first | exact Int.toNat_natCast _ | rfl) rfl ?_
        refine J.load1 (k := .l) trivial 445 rfl rfl one5 (repN_get _ k _ _ (by omega)) rfl ?_
        refine J.move rfl rfl ?_
        refine J.add rfl rfl rfl (show _ = (55 : Int) by rfl) ?_
        refine J.conv (by rw [Try.underlying3]; rfl) Try.underlying5 rfl rfl (show _ = (55 : Int) by rfl) ?_
        refine J.neq rfl rfl rfl (decide_eq_false (fun h => h rfl)) ?_
        refine J.move rfl rfl ?_
        refine J.yes rfl rfl ?_
        refine J.move rfl rfl ?_
        refine J.yes rfl rfl ?_
        refine J.move rfl rfl ?_
        refine J.yes rfl rfl ?_
        refine J.move rfl rfl ?_
        refine J.yes rfl rfl ?_
        refine J.indexRow sl84 rfl (hq11.some (by omega)) rfl (by omega) (by omega) (by first | exact Int.toNat_natCast _ | rfl) rfl ?_
        refine J.yes rfl rfl ?_
        refine J.load1 (k := .l) trivial 11 rfl rfl one22 rfl rfl ?_
        refine J.yes rfl rfl ?_
        refine J.lenSl Try.underlying22 rfl rfl ?_
        refine J.yes rfl rfl ?_
        refine J.lss rfl rfl rfl rfl ?_
        refine J.yes rfl rfl ?_
        refine J.move rfl rfl ?_
        refine J.split 329 rfl (fun h48 => ?_) (fun h48 => ?_)
        · skip
          refine J.yes rfl rfl ?_
          refine J.move rfl rfl ?_
          refine J.yes rfl rfl ?_
          refine J.move rfl rfl ?_
          refine J.yes rfl rfl ?_
          refine J.indexRow sl84 rfl (hq11.some (by omega)) rfl (by omega) (by omega) (by first | exact Int.toNat_natCast _ | rfl) rfl ?_
          refine J.yes rfl rfl ?_
          refine J.load1 (k := .l) trivial 11 rfl rfl one22 rfl rfl ?_
          refine J.yes rfl rfl ?_
          refine J.move rfl rfl ?_
          refine J.yes rfl rfl ?_
          refine J.indexSlB sl22 rfl rfl (by omega) (by omega) (by first | exact Int.toNat_natCast _ | rfl) rfl ?_
          refine J.yes rfl rfl ?_
          refine J.load1 (k := .l) trivial 415 rfl rfl one5 (by rw [Nat.zero_add]; exact repN_get0 _ k _ (by omega)) rfl ?_
          refine J.yes rfl rfl ?_
          refine J.move rfl rfl ?_
          refine J.yes rfl rfl ?_
          refine J.add rfl rfl rfl (show _ = (55 : Int) by rfl) ?_
          refine J.yes rfl rfl ?_
          refine J.conv (by rw [Try.underlying3]; rfl) Try.underlying5 rfl rfl (show _ = (55 : Int) by rfl) ?_
          refine J.yes rfl rfl ?_
          refine J.neq rfl rfl rfl (decide_eq_false (fun h => h rfl)) ?_
          refine J.yes rfl rfl ?_
          refine J.pick_t rfl rfl rfl ?_
          refine J.pick_f rfl rfl rfl ?_
          refine J.end ?_
          refine X.then ?_
          refine T.cond_false rfl ?_
          refine T.skip ?_
          refine X.inBlock (X.then ?_)
          refine T.text [.l, .l, .l] rfl ?_
          refine J.move rfl rfl ?_
          refine J.add rfl rfl rfl (by first | exact add_nat _ 1 (by omega) | exact i64_ok _ (by omega) | exact rfl) ?_
          refine J.assign rfl rfl ?_
          refine J.end ?_
          exact X.round (k + 1) (by omega) (by first | omega | (dsimp only; omega)) (by repeat (first | exact sn _ | refine sc rfl ?_)) (by repeat (first | exact sn _ | refine sc rfl ?_))
        · skip
          refine J.no rfl rfl rfl rfl ?_
          refine J.no rfl rfl rfl rfl ?_
          refine J.no rfl rfl rfl rfl ?_
          refine J.no rfl rfl rfl rfl ?_
          refine J.no rfl rfl rfl rfl ?_
          refine J.no rfl rfl rfl rfl ?_
          refine J.no rfl rfl rfl rfl ?_
          refine J.no rfl rfl rfl rfl ?_
          refine J.no rfl rfl rfl rfl ?_
          refine J.no rfl rfl rfl rfl ?_
          refine J.no rfl rfl rfl rfl ?_
          refine J.yes rfl rfl ?_
          refine J.pick_f rfl rfl rfl ?_
          refine J.pick_f rfl rfl rfl ?_
          refine J.end ?_
          refine X.then ?_
          refine T.cond_false rfl ?_
          refine T.skip ?_
          refine X.inBlock (X.then ?_)
          refine T.text [.l, .l, .l] rfl ?_
          refine J.move rfl rfl ?_
          refine J.add rfl rfl rfl (by first | exact add_nat _ 1 (by omega) | exact i64_ok _ (by omega) | exact rfl) ?_
          refine J.assign rfl rfl ?_
          refine J.end ?_
          exact X.round (k + 1) (by omega) (by first | omega | (dsimp only; omega)) (by repeat (first | exact sn _ | refine sc rfl ?_)) (by repeat (first | exact sn _ | refine sc rfl ?_))
      refine T.exit ?_
      refine X.then_exit (X.then_exit (X.inBlock_eq (X.inBlock (X.then ?_))))
      refine T.text [.l, .l, .l] rfl ?_
      refine J.move rfl rfl ?_
      refine J.add rfl rfl rfl (by first | exact add_nat _ 1 (by omega) | exact i64_ok _ (by omega) | exact rfl) ?_
      refine J.as 300 (.int .i64 ((6 : Nat) : Int)) rfl (by rfl) ?_
      refine J.assign rfl rfl ?_
      refine J.end ?_
      exact X.round 6 (by first | decide | omega) (by first | omega | (dsimp only; omega)) (by repeat (first | exact sn _ | refine sc rfl ?_)) (by repeat (first | exact sn _ | refine sc rfl ?_))
  obtain rfl : i = 6 := by omega
  refine T.exit ?_
  refine X.then_exit (X.then_exit (X.inBlock_eq (X.then ?_)))
  refine T.seq ?_
  refine T.text [.l, .l, .l, .l, .l, .l, .l, .l, .l] rfl ?_
  refine J.move rfl rfl ?_
  refine J.move rfl rfl ?_
  refine J.lenSl Try.underlying22 rfl rfl ?_
  refine J.callExactE 347 rfl fok46 rfl rfl (fun w hw => Ox.ReadX w g43 i60 mm hm60 (hw.memAt 43 44 rfl rfl (by decide)) 0 (by omega) _ (by omega) bs (by rw [hmm]; exact hown.2.1) (by rw [hmm]; exact hown.1)) (fun g347 hg347 => ?_)
  refine J.move rfl rfl ?_
  refine J.extract rfl rfl rfl ?_
  refine J.extract rfl rfl rfl ?_
  refine J.assign rfl rfl ?_
  refine J.assign rfl rfl ?_
  refine J.end ?_
  refine X.then ?_
  refine T.seq ?_
  refine T.text [.l, .l, .l, .l, .l, .l, .l, .l, .l, .l, .l, .l, .l, .l, .l, .l, .l, .l] rfl ?_
  refine J.move rfl rfl ?_
  refine J.callExactW 351 rfl fok23 rfl rfl (fun w hw => Ox.WordsX w g S _ hS (by omega) (hw.blkCs (k := 100) rfl) zs hwz) (fun g351 hg351 => ?_)
  refine J.move rfl rfl ?_
  refine J.call0 (k := .l) trivial fok22 rfl rfl (fun w hw => Aw.sameWords w _ _ _ (hw.blkCs (k := 351) rfl) _ _ _ (hw.rowCs (k := 101) rfl) rfl (by omega)) ?_
  refine J.move rfl rfl ?_
  refine J.yes rfl rfl ?_
  refine J.move rfl rfl ?_
  refine J.yes rfl rfl ?_
  refine J.convBS (k := .l) trivial Try.underlying22 Try.underlying5 Try.underlying9 rfl (bs) rfl (fun w hw => (hw.blkCs (k := 347) rfl)) rfl ?_
  refine J.yes rfl rfl ?_
  refine J.move rfl rfl ?_
  refine J.yes rfl rfl ?_
  refine J.convBS (k := .l) trivial Try.underlying22 Try.underlying5 Try.underlying9 rfl (bs) rfl (fun w hw => (hw.rowCs (k := 50) rfl)) rfl ?_
  refine J.yes rfl rfl ?_
  refine J.eqStr (xs := bs) (ys := bs) rfl rfl rfl hdb hdb ?_
  refine J.as 359 (.bool true) rfl (by rw [decide_eq_true rfl]) ?_
  refine J.pick_t rfl rfl rfl ?_
  refine J.move rfl rfl ?_
  refine J.yes rfl rfl ?_
  refine J.call0 (k := .l) trivial fok25 rfl rfl (fun w hw => Aw.awake w) ?_
  refine J.pick_t rfl rfl rfl ?_
  refine J.move rfl rfl ?_
  refine J.yes rfl rfl ?_
  refine J.call0 (k := .l) trivial fok39 rfl rfl (fun w hw => Pg.wrote w) ?_
  refine J.pick_t rfl rfl rfl ?_
  refine J.assign rfl rfl ?_
  refine J.end ?_
  refine X.then ?_
  refine T.ret ?_
  exact X.ret1 rfl (RV.tmp rfl) (fun w' hw' => ⟨rfl, hw'.sub (Sub.nil _)⟩)
end Go.Proofs.Ytpkjbeebhdgleaa.Lm
