/-
  Texts that the statement stands on, one behind the other: plain lemmas and walks of functions.
  No condition.
-/
import Derived.Test.YtegociefcfcihaaDoorChecked
import Derived.Test.YtegociefcfcihaaDoorRows
import Derived.ProofKit
import Derived.LaidMore
import Derived.OpenShut
import Derived.Stop.Joined
import Derived.Below
import Derived.Test.YtegociefcfcihaaDoorUba
import Derived.Test.YtegociefcfcihaaDoorUbb
import Derived.Test.YtegociefcfcihaaDoorUbc
import Derived.Test.YtegociefcfcihaaDoorUbd
import Derived.Test.YtegociefcfcihaaDoorUbe
import Derived.Test.YtegociefcfcihaaDoorUbf
set_option linter.unusedVariables false
set_option maxRecDepth 20000
namespace Go.Proofs.YtegociefcfcihaaDoor.Lh
open Go Go.Fw

theorem sz39 : SizeT Tryd.prog 39 32 := (by unfold SizeT; kernel_rfl)
theorem zero8 : ZeroT Tryd.prog 67 (.agg (rowN .u64 (lg 0)).toArray) := (by unfold ZeroT; kernel_rfl)
theorem one25 : OneT Tryd.prog 25 := ⟨⟨_, Tryd.underlying25, rfl⟩, by kernel_rfl⟩
theorem one27 : OneT Tryd.prog 27 := ⟨⟨_, Tryd.underlying27, rfl⟩, by kernel_rfl⟩
theorem fok153 : FnOk Tryd.prog 153 := FnOk.mk' Tryd.func153 (by kernel_rfl) rfl
theorem fok23 : FnOk Tryd.prog 23 := FnOk.mk' Tryd.func23 (by kernel_rfl) rfl
theorem fok27 : FnOk Tryd.prog 27 := FnOk.mk' Tryd.func27 (by kernel_rfl) rfl
theorem fok25 : FnOk Tryd.prog 25 := FnOk.mk' Tryd.func25 (by kernel_rfl) rfl
theorem fok29 : FnOk Tryd.prog 29 := FnOk.mk' Tryd.func29 (by kernel_rfl) rfl
theorem fok34 : FnOk Tryd.prog 34 := FnOk.mk' Tryd.func34 (by kernel_rfl) rfl
theorem fok31 : FnOk Tryd.prog 31 := FnOk.mk' Tryd.func31 (by kernel_rfl) rfl
theorem fok36 : FnOk Tryd.prog 36 := FnOk.mk' Tryd.func36 (by kernel_rfl) rfl
theorem fok46 : FnOk Tryd.prog 46 := FnOk.mk' Tryd.func46 (by kernel_rfl) rfl
theorem fok48 : FnOk Tryd.prog 48 := FnOk.mk' Tryd.func48 (by kernel_rfl) rfl
theorem fok50 : FnOk Tryd.prog 50 := FnOk.mk' Tryd.func50 (by kernel_rfl) rfl
theorem fok44 : FnOk Tryd.prog 44 := FnOk.mk' Tryd.func44 (by kernel_rfl) rfl
theorem fok155 : FnOk Tryd.prog 155 := FnOk.mk' Tryd.func155 (by kernel_rfl) rfl
theorem fok54 : FnOk Tryd.prog 54 := FnOk.mk' Tryd.func54 (by kernel_rfl) rfl
theorem fok55 : FnOk Tryd.prog 55 := FnOk.mk' Tryd.func55 (by kernel_rfl) rfl
theorem fok38 : FnOk Tryd.prog 38 := FnOk.mk' Tryd.func38 (by kernel_rfl) rfl
theorem fok40 : FnOk Tryd.prog 40 := FnOk.mk' Tryd.func40 (by kernel_rfl) rfl
theorem fok79 : FnOk Tryd.prog 79 := FnOk.mk' Tryd.func79 (by kernel_rfl) rfl
theorem fok157 : FnOk Tryd.prog 157 := FnOk.mk' Tryd.func157 (by kernel_rfl) rfl
theorem fok62 : FnOk Tryd.prog 62 := FnOk.mk' Tryd.func62 (by kernel_rfl) rfl
theorem fok64 : FnOk Tryd.prog 64 := FnOk.mk' Tryd.func64 (by kernel_rfl) rfl
theorem fok66 : FnOk Tryd.prog 66 := FnOk.mk' Tryd.func66 (by kernel_rfl) rfl
theorem fok158 : FnOk Tryd.prog 158 := FnOk.mk' Tryd.func158 (by kernel_rfl) rfl
theorem fok69 : FnOk Tryd.prog 69 := FnOk.mk' Tryd.func69 (by kernel_rfl) rfl
theorem fok59 : FnOk Tryd.prog 59 := FnOk.mk' Tryd.func59 (by kernel_rfl) rfl
theorem fok60 : FnOk Tryd.prog 60 := FnOk.mk' Tryd.func60 (by kernel_rfl) rfl
theorem fok42 : FnOk Tryd.prog 42 := FnOk.mk' Tryd.func42 (by kernel_rfl) rfl
theorem fok159 : FnOk Tryd.prog 159 := FnOk.mk' Tryd.func159 (by kernel_rfl) rfl
theorem func98T : FuncT Tryd.prog 98 := ⟨_, _, _, Tryd.underlying98⟩
theorem fok148 : FnOk Tryd.prog 148 := FnOk.mk' Tryd.func148 (by kernel_rfl) rfl
theorem agg24 : AggT Tryd.prog 24 4 := ⟨⟨_, Tryd.underlying24, rfl⟩, by kernel_rfl⟩
theorem fok103 : FnOk Tryd.prog 103 := FnOk.mk' Tryd.func103 (by kernel_rfl) rfl
theorem fok101 : FnOk Tryd.prog 101 := FnOk.mk' Tryd.func101 (by kernel_rfl) rfl
theorem zero24 : ZeroT Tryd.prog 24 (.agg ([.int .u64 0, .int .u64 0, .int .u64 0, .int .u64 0]).toArray) := (by unfold ZeroT; kernel_rfl)
theorem sz24 : SizeT Tryd.prog 24 4 := (by unfold SizeT; kernel_rfl)
theorem fok105 : FnOk Tryd.prog 105 := FnOk.mk' Tryd.func105 (by kernel_rfl) rfl
theorem sz22 : SizeT Tryd.prog 22 1 := (by unfold SizeT; kernel_rfl)
theorem arr24 : ArrT Tryd.prog 24 4 22 1 := ⟨Tryd.underlying24, sz22⟩
theorem one22 : OneT Tryd.prog 22 := ⟨⟨_, Tryd.underlying22, rfl⟩, by kernel_rfl⟩
theorem eqw24 : EqT Tryd.prog 24 := ⟨⟨22, arr24, one22, Tryd.underlying22⟩, by kernel_rfl⟩
theorem fok91 : FnOk Tryd.prog 91 := FnOk.mk' Tryd.func91 (by kernel_rfl) rfl
theorem fok33 : FnOk Tryd.prog 33 := FnOk.mk' Tryd.func33 (by kernel_rfl) rfl

theorem WordReadsBack (w : World) (x0 : Nat) (ss : List Nat) (hs : Dg ss) (hT : Lib.TabIs Tryd.prog w "internal/strconv.uint64pow10" .u64 Lib.pow10Tab) :
    Calls Tryd.prog 22 [W x0, .string (bstr ss)].toArray w fun e w' => e = .returned (.bool true) ∧ WS w [] [] w' := by
  obtain ⟨m16, hm16⟩ := numd_exists 16 (x0 % 2 ^ 256) (by omega)
  obtain ⟨m10, hm10⟩ := numd_exists 10 (x0 % 2 ^ 256) (by omega)
  have hX : (x0 % 2 ^ 256) < 2 ^ 256 := Nat.mod_lt _ (by decide)
  have pH := parse_hex hX hm16
  have pT := parse_text hX hm10
  have hpc := parse_codes ss
  obtain ⟨n16, hn16⟩ := numd_exists 16 (parseN ss).1 (by omega)
  obtain ⟨n10, hn10⟩ := numd_exists 10 (parseN ss).1 (by omega)
  refine calls_of_T [] 117 [] Tryd.func22 rfl Tryd.ntmps22 (by simp) (WS.refl _ _) ?_
  refine T.seq ?_
  refine T.text [.l, .l] rfl ?_
  refine J.box 2 rfl rfl (wc x0) rfl rfl (fun g2 hg2 => ?_)
  refine J.assign rfl rfl ?_
  refine J.end ?_
  refine X.then ?_
  refine T.seq ?_
  refine T.text [.l, .l, .l, .l, .l, .l, .l, .l, .l] rfl ?_
  refine J.loadN (k := .l) trivial 2 rfl rfl agg24 (wc x0) rfl rfl rfl ?_
  refine J.call0 (k := .l) trivial fok103 rfl rfl (fun w hw => Wx.Hex w x0 m16 hm16) ?_
  refine J.call0 (k := .l) trivial fok101 rfl rfl (fun w hw => Wq.Parse w ([48, 120] ++ txt 16 (x0 % 2 ^ 256) m16) (Dg.append dg_0x (txt_dg (by omega) (by omega)))) ?_
  refine J.move rfl rfl ?_
  refine J.extract rfl rfl rfl ?_
  refine J.extract rfl rfl rfl ?_
  refine J.alloc 5 rfl zero24 [.int .u64 0, .int .u64 0, .int .u64 0, .int .u64 0] rfl rfl (fun g5 hg5 => ?_)
  refine J.store 5 rfl rfl rfl rfl (wc (parseN ([48, 120] ++ txt 16 (x0 % 2 ^ 256) m16)).1) rfl sz24 (by first | decide | exact Nat.le_refl _ | exact Nat.le_of_ble_eq_true rfl | (simp [rowN]; done) | (simp [rowN]; omega)) (by first | exact rowN_one _ _ | (simp; done) | (intro u hu; simp at hu; subst hu; rfl) | (intro u hu; simp at hu; rcases hu with rfl | rfl <;> rfl)) (by first | decide | exact Nat.zero_lt_succ _ | simp) trivial (wc (parseN ([48, 120] ++ txt 16 (x0 % 2 ^ 256) m16)).1) rfl ?_
  refine J.assign rfl rfl ?_
  refine J.end ?_
  refine X.then ?_
  refine T.seq ?_
  refine T.text [.l, .l, .l, .l, .l, .l, .l, .l, .l] rfl ?_
  refine J.loadN (k := .l) trivial 2 rfl rfl agg24 (wc x0) rfl rfl rfl ?_
  refine J.call0 (k := .l) trivial fok105 rfl rfl (fun w hw => Wu.Text w x0 m10 hm10 (tab_ws (g := 0) (by kernel_rfl) hT hw)) ?_
  refine J.call0 (k := .l) trivial fok101 rfl rfl (fun w hw => Wq.Parse w (txt 10 (x0 % 2 ^ 256) m10) (txt_dg (by omega) (by omega))) ?_
  refine J.move rfl rfl ?_
  refine J.extract rfl rfl rfl ?_
  refine J.extract rfl rfl rfl ?_
  refine J.alloc 7 rfl zero24 [.int .u64 0, .int .u64 0, .int .u64 0, .int .u64 0] rfl rfl (fun g7 hg7 => ?_)
  refine J.store 7 rfl rfl rfl rfl (wc (parseN (txt 10 (x0 % 2 ^ 256) m10)).1) rfl sz24 (by first | decide | exact Nat.le_refl _ | exact Nat.le_of_ble_eq_true rfl | (simp [rowN]; done) | (simp [rowN]; omega)) (by first | exact rowN_one _ _ | (simp; done) | (intro u hu; simp at hu; subst hu; rfl) | (intro u hu; simp at hu; rcases hu with rfl | rfl <;> rfl)) (by first | decide | exact Nat.zero_lt_succ _ | simp) trivial (wc (parseN (txt 10 (x0 % 2 ^ 256) m10)).1) rfl ?_
  refine J.assign rfl rfl ?_
  refine J.end ?_
  refine X.then ?_
  refine T.seq ?_
  refine T.seq ?_
  refine T.text [.l, .l, .l, .l, .l, .l, .l, .l, .l, .l, .l, .l, .l, .l, .l, .l, .l, .l, .l, .l, .l, .l] rfl ?_
  refine J.loadN (k := .l) trivial 5 rfl rfl agg24 (wc (parseN ([48, 120] ++ txt 16 (x0 % 2 ^ 256) m16)).1) rfl rfl rfl ?_
  refine J.loadN (k := .l) trivial 2 rfl rfl agg24 (wc x0) rfl rfl rfl ?_
  refine J.neqW eqw24 rfl rfl rfl ?_
  refine J.as 29 (.bool false) rfl (by exact congrArg Value.bool (decide_eq_false (fun q => q (by rw [pH, Nat.mod_mod])))) ?_
  refine J.move rfl rfl ?_
  refine J.yes rfl rfl ?_
  refine J.loadN (k := .l) trivial 7 rfl rfl agg24 (wc (parseN (txt 10 (x0 % 2 ^ 256) m10)).1) rfl rfl rfl ?_
  refine J.yes rfl rfl ?_
  refine J.loadN (k := .l) trivial 2 rfl rfl agg24 (wc x0) rfl rfl rfl ?_
  refine J.yes rfl rfl ?_
  refine J.neqW eqw24 rfl rfl rfl ?_
  refine J.as 33 (.bool false) rfl (by exact congrArg Value.bool (decide_eq_false (fun q => q (by rw [pT, Nat.mod_mod])))) ?_
  refine J.pick_f rfl rfl rfl ?_
  refine J.move rfl rfl ?_
  refine J.yes rfl rfl ?_
  refine J.move rfl rfl ?_
  refine J.yes rfl rfl ?_
  refine J.call0 (k := .l) trivial fok91 rfl rfl (fun w hw => Wn.num w _) ?_
  refine J.yes rfl rfl ?_
  refine J.neq rfl rfl rfl (decide_eq_false (fun q => q (by rw [pH]; rfl))) ?_
  refine J.pick_f rfl rfl rfl ?_
  refine J.move rfl rfl ?_
  refine J.yes rfl rfl ?_
  refine J.move rfl rfl ?_
  refine J.yes rfl rfl ?_
  refine J.call0 (k := .l) trivial fok91 rfl rfl (fun w hw => Wn.num w _) ?_
  refine J.yes rfl rfl ?_
  refine J.neq rfl rfl rfl (decide_eq_false (fun q => q (by rw [pT]; rfl))) ?_
  refine J.pick_f rfl rfl rfl ?_
  refine J.move rfl rfl ?_
  refine J.yes rfl rfl ?_
  refine J.call0 (k := .l) trivial fok33 rfl rfl (fun w hw => Wk.awake w) ?_
  refine J.yes rfl rfl ?_
  refine J.not rfl rfl rfl ?_
  refine J.pick_f rfl rfl rfl ?_
  refine J.end ?_
  refine X.then ?_
  refine T.cond_false rfl ?_
  refine T.skip ?_
  refine X.then ?_
  refine T.seq ?_
  refine T.text [.l, .l, .l, .l, .l, .l, .l, .l] rfl ?_
  refine J.move rfl rfl ?_
  refine J.call0 (k := .l) trivial fok101 rfl rfl (fun w hw => Wq.Parse w ss hs) ?_
  refine J.move rfl rfl ?_
  refine J.extract rfl rfl rfl ?_
  refine J.extract rfl rfl rfl ?_
  refine J.alloc 9 rfl zero24 [.int .u64 0, .int .u64 0, .int .u64 0, .int .u64 0] rfl rfl (fun g9 hg9 => ?_)
  refine J.store 9 rfl rfl rfl rfl (wc (parseN ss).1) rfl sz24 (by first | decide | exact Nat.le_refl _ | exact Nat.le_of_ble_eq_true rfl | (simp [rowN]; done) | (simp [rowN]; omega)) (by first | exact rowN_one _ _ | (simp; done) | (intro u hu; simp at hu; subst hu; rfl) | (intro u hu; simp at hu; rcases hu with rfl | rfl <;> rfl)) (by first | decide | exact Nat.zero_lt_succ _ | simp) trivial (wc (parseN ss).1) rfl ?_
  refine J.assign rfl rfl ?_
  refine J.end ?_
  refine X.then ?_
  refine T.seq ?_
  refine T.seq ?_
  refine T.text [.l, .l, .l] rfl ?_
  refine J.move rfl rfl ?_
  refine J.call0 (k := .l) trivial fok91 rfl rfl (fun w hw => Wn.num w _) ?_
  refine J.neq rfl rfl rfl rfl ?_
  refine J.end ?_
  refine X.then ?_
  refine T.cond_dec rfl (fun h1 => ?_) (fun h1 => ?_)
  · have hg : ¬ (parseN ss).2 = 0 := fun q => h1 (by rw [q]; rfl)
    have hgl : ((78 : Int) < ((ss.length : Nat) : Int)) ↔ (((parseN ss).2 : Nat) : Int) = 2 := by rcases hpc with h | h | h <;> constructor <;> intro q <;> omega
    refine T.seq ?_
    refine T.text [.l, .l, .l, .l, .l, .l, .l, .l, .l, .l, .l, .l, .l] rfl ?_
    refine J.loadN (k := .l) trivial 9 rfl rfl agg24 (wc (parseN ss).1) rfl rfl rfl ?_
    refine J.build rfl rfl (W 0) (fun w => by kernel_rfl) ?_
    refine J.eqW eqw24 rfl rfl rfl ?_
    refine J.as 59 (.bool true) rfl (by exact congrArg Value.bool (decide_eq_true (by rcases hpc with h | h | h <;> first | exact absurd h.1 hg | rw [h.1]))) ?_
    refine J.move rfl rfl ?_
    refine J.yes rfl rfl ?_
    refine J.move rfl rfl ?_
    refine J.yes rfl rfl ?_
    refine J.lenStr Tryd.underlying9 rfl rfl ?_
    refine J.as 62 (.int .i64 ((ss.length : Nat) : Int)) rfl (by rw [bstr_size]) ?_
    refine J.yes rfl rfl ?_
    refine J.gtr rfl rfl rfl rfl ?_
    refine J.yes rfl rfl ?_
    refine J.move rfl rfl ?_
    refine J.yes rfl rfl ?_
    refine J.call0 (k := .l) trivial fok91 rfl rfl (fun w hw => Wn.num w _) ?_
    refine J.yes rfl rfl ?_
    refine J.eql rfl rfl rfl rfl ?_
    refine J.yes rfl rfl ?_
    refine J.eqB Tryd.underlying4 rfl rfl rfl rfl ?_
    refine J.as 67 (.bool true) rfl (by congr 1; rw [beq_iff_eq]; exact decide_eq_decide.2 hgl) ?_
    refine J.pick_t rfl rfl rfl ?_
    refine J.assign rfl rfl ?_
    refine J.end ?_
    refine X.then ?_
    refine T.ret ?_
    refine X.then_ret ?_
    exact X.ret1 rfl (RV.tmp rfl) (fun w' hw' => ⟨rfl, hw'.sub (Sub.nil _)⟩)
  · have hg0 : (parseN ss).2 = 0 := by have h1 := Decidable.not_not.1 h1; omega
    have hcv : (parseN ss).1 < 2 ^ 256 := by rcases hpc with h | h | h <;> omega
    have hss : ss.length ≤ 78 := by omega
    refine T.skip ?_
    refine X.then ?_
    refine T.seq ?_
    refine T.text [.l, .l, .l] rfl ?_
    refine J.loadN (k := .l) trivial 9 rfl rfl agg24 (wc (parseN ss).1) rfl rfl rfl ?_
    refine J.call0 (k := .l) trivial fok103 rfl rfl (fun w hw => Wx.Hex w (parseN ss).1 n16 (by rw [Nat.mod_eq_of_lt hcv]; exact hn16)) ?_
    refine J.as 70 (.string (bstr ([48, 120] ++ txt 16 (parseN ss).1 n16))) rfl (by rw [Nat.mod_eq_of_lt hcv]) ?_
    refine J.assign rfl rfl ?_
    refine J.end ?_
    refine X.then ?_
    refine T.seq ?_
    refine T.text [.l, .l, .l] rfl ?_
    refine J.loadN (k := .l) trivial 9 rfl rfl agg24 (wc (parseN ss).1) rfl rfl rfl ?_
    refine J.call0 (k := .l) trivial fok105 rfl rfl (fun w hw => Wu.Text w (parseN ss).1 n10 (by rw [Nat.mod_eq_of_lt hcv]; exact hn10) (tab_ws (g := 0) (by kernel_rfl) hT hw)) ?_
    refine J.as 72 (.string (bstr (txt 10 (parseN ss).1 n10))) rfl (by rw [Nat.mod_eq_of_lt hcv]) ?_
    refine J.assign rfl rfl ?_
    refine J.end ?_
    refine X.then ?_
    refine T.seq ?_
    refine T.seq ?_
    refine T.text [.l, .l, .l, .l, .l, .l, .l, .l] rfl ?_
    refine J.move rfl rfl ?_
    refine J.lenStr Tryd.underlying9 rfl rfl ?_
    refine J.as 74 (.int .i64 ((ss.length : Nat) : Int)) rfl (by rw [bstr_size]) ?_
    refine J.gtr rfl rfl rfl rfl ?_
    refine J.move rfl rfl ?_
    refine J.split 76 rfl (fun h2 => ?_) (fun h2 => ?_)
    · skip
      refine J.yes rfl rfl ?_
      refine J.move rfl rfl ?_
      refine J.yes rfl rfl ?_
      refine J.indexStr Tryd.underlying9 rfl rfl (by omega) (by first | exact Int.toNat_natCast _ | rfl) (bstr_get ss 1 (by omega)) rfl ?_
      refine J.as 78 (.int .u8 ((ss.getD 1 0 : Nat) : Int)) rfl (by rw [chr_dg hs]) ?_
      refine J.yes rfl rfl ?_
      refine J.eql rfl rfl rfl rfl ?_
      refine J.pick_t rfl rfl rfl ?_
      refine J.end ?_
      refine X.then ?_
      refine T.cond_dec rfl (fun h3 => ?_) (fun h3 => ?_)
      · skip
        refine T.seq ?_
        refine T.text [.l, .l, .l, .l, .l, .l] rfl ?_
        refine J.move rfl rfl ?_
        refine J.lenStr Tryd.underlying9 rfl rfl ?_
        refine J.as 82 (.int .i64 ((([48, 120] ++ txt 16 (parseN ss).1 n16).length : Nat) : Int)) rfl (by rw [bstr_size]) ?_
        refine J.move rfl rfl ?_
        refine J.lenStr Tryd.underlying9 rfl rfl ?_
        refine J.as 84 (.int .i64 ((ss.length : Nat) : Int)) rfl (by rw [bstr_size]) ?_
        refine J.leq rfl rfl rfl (decide_eq_true (by rw [List.length_append, txt_length]; have h := hex_short hg0 (by omega) (by omega) hn16; show ((2 + n16 : Nat) : Int) ≤ _; omega)) ?_
        refine J.assign rfl rfl ?_
        refine J.end ?_
        refine X.then ?_
        refine T.ret ?_
        refine X.then_ret ?_
        exact X.ret1 rfl (RV.tmp rfl) (fun w' hw' => ⟨rfl, hw'.sub (Sub.nil _)⟩)
      · skip
        refine T.skip ?_
        refine X.then ?_
        refine T.seq ?_
        refine T.text [.l, .l, .l, .l, .l, .l, .l, .l, .l] rfl ?_
        refine J.move rfl rfl ?_
        have hn78 := numd78 hn10 hcv
        have hsh : n10 ≤ ss.length := dec_short hg0 (fun q => by omega) hn10
        refine J.addStr (xs := [48]) (ys := (txt 10 (parseN ss).1 n10)) rfl rfl rfl (by rw [txt_length]; show 1 + _ ≤ _; omega) ?_
        refine J.call0 (k := .l) trivial fok101 rfl rfl (fun w hw => Wq.Parse w ([48] ++ txt 10 (parseN ss).1 n10) (Dg.append (by intro x hx; simp at hx; omega) (txt_dg (by omega) (by omega)))) ?_
        refine J.move rfl rfl ?_
        refine J.extract rfl rfl rfl ?_
        refine J.extract rfl rfl rfl ?_
        refine J.alloc 13 rfl zero24 [.int .u64 0, .int .u64 0, .int .u64 0, .int .u64 0] rfl rfl (fun g13 hg13 => ?_)
        refine J.store 13 rfl rfl rfl rfl (wc (parseN ([48] ++ txt 10 (parseN ss).1 n10)).1) rfl sz24 (by first | decide | exact Nat.le_refl _ | exact Nat.le_of_ble_eq_true rfl | (simp [rowN]; done) | (simp [rowN]; omega)) (by first | exact rowN_one _ _ | (simp; done) | (intro u hu; simp at hu; subst hu; rfl) | (intro u hu; simp at hu; rcases hu with rfl | rfl <;> rfl)) (by first | decide | exact Nat.zero_lt_succ _ | simp) trivial (wc (parseN ([48] ++ txt 10 (parseN ss).1 n10)).1) rfl ?_
        refine J.assign rfl rfl ?_
        refine J.end ?_
        refine X.then ?_
        refine T.seq ?_
        refine T.text [.l, .l, .l, .l, .l, .l, .l, .l, .l, .l, .l, .l, .l, .l, .l, .l, .l, .l, .l, .l, .l, .l, .l, .l, .l, .l] rfl ?_
        refine J.move rfl rfl ?_
        refine J.lenStr Tryd.underlying9 rfl rfl ?_
        refine J.as 93 (.int .i64 (((txt 10 (parseN ss).1 n10).length : Nat) : Int)) rfl (by rw [bstr_size]) ?_
        refine J.move rfl rfl ?_
        refine J.lenStr Tryd.underlying9 rfl rfl ?_
        refine J.as 95 (.int .i64 ((ss.length : Nat) : Int)) rfl (by rw [bstr_size]) ?_
        refine J.leq rfl rfl rfl (decide_eq_true (by rw [txt_length]; omega)) ?_
        refine J.move rfl rfl ?_
        refine J.yes rfl rfl ?_
        refine J.loadN (k := .l) trivial 13 rfl rfl agg24 (wc (parseN ([48] ++ txt 10 (parseN ss).1 n10)).1) rfl rfl rfl ?_
        refine J.yes rfl rfl ?_
        refine J.loadN (k := .l) trivial 9 rfl rfl agg24 (wc (parseN ss).1) rfl rfl rfl ?_
        refine J.yes rfl rfl ?_
        refine J.eqW eqw24 rfl rfl rfl ?_
        refine J.yes rfl rfl ?_
        refine J.move rfl rfl ?_
        refine J.split 101 rfl (fun h4 => ?_) (fun h4 => ?_)
        · have h78 : n10 ≠ 78 := fun q => by have h1 := h4; rw [parse_over q] at h1; exact hn10.2.2 (by omega) (by rw [show (parseN ss).1 = 0 by have h2 : 0 % 2 ^ 256 = (parseN ss).1 % 2 ^ 256 := h1; omega]; exact Nat.zero_div _)
          have p3 := parse_zero hcv hn10 h78
          refine J.yes rfl rfl ?_
          refine J.move rfl rfl ?_
          refine J.yes rfl rfl ?_
          refine J.call0 (k := .l) trivial fok91 rfl rfl (fun w hw => Wn.num w _) ?_
          refine J.yes rfl rfl ?_
          refine J.eql rfl rfl rfl (decide_eq_true (by rw [p3]; rfl)) ?_
          refine J.yes rfl rfl ?_
          refine J.pick_t rfl rfl rfl ?_
          refine J.yes rfl rfl ?_
          refine J.move rfl rfl ?_
          refine J.no rfl rfl rfl rfl ?_
          refine J.no rfl rfl rfl rfl ?_
          refine J.no rfl rfl rfl rfl ?_
          refine J.no rfl rfl rfl rfl ?_
          refine J.noU rfl rfl rfl ?_
          refine J.noU rfl rfl rfl ?_
          refine J.noU rfl rfl rfl ?_
          refine J.no rfl rfl rfl rfl ?_
          refine J.yes rfl rfl ?_
          refine J.pick_t rfl rfl rfl ?_
          refine J.pick_t rfl rfl rfl ?_
          refine J.assign rfl rfl ?_
          refine J.end ?_
          refine X.then ?_
          refine T.ret ?_
          exact X.ret1 rfl (RV.tmp rfl) (fun w' hw' => ⟨rfl, hw'.sub (Sub.nil _)⟩)
        · have h78 : n10 = 78 := Classical.byContradiction fun q => h4 (by rw [parse_zero hcv hn10 q])
          have p3 : parseN ([48] ++ txt 10 (parseN ss).1 n10) = _ := parse_over h78
          refine J.no rfl rfl rfl rfl ?_
          refine J.no rfl rfl rfl rfl ?_
          refine J.no rfl rfl rfl rfl ?_
          refine J.yes rfl rfl ?_
          refine J.pick_f rfl rfl rfl ?_
          refine J.yes rfl rfl ?_
          refine J.move rfl rfl ?_
          refine J.yes rfl rfl ?_
          refine J.move rfl rfl ?_
          refine J.yes rfl rfl ?_
          refine J.lenStr Tryd.underlying9 rfl rfl ?_
          refine J.as 108 (.int .i64 (((txt 10 (parseN ss).1 n10).length : Nat) : Int)) rfl (by rw [bstr_size]) ?_
          refine J.yes rfl rfl ?_
          refine J.eql rfl rfl rfl (decide_eq_true (by rw [txt_length]; omega)) ?_
          refine J.yes rfl rfl ?_
          refine J.move rfl rfl ?_
          refine J.yes rfl rfl ?_
          refine J.move rfl rfl ?_
          refine J.yes rfl rfl ?_
          refine J.call0 (k := .l) trivial fok91 rfl rfl (fun w hw => Wn.num w _) ?_
          refine J.yes rfl rfl ?_
          refine J.eql rfl rfl rfl (decide_eq_true (by rw [p3]; rfl)) ?_
          refine J.yes rfl rfl ?_
          refine J.pick_t rfl rfl rfl ?_
          refine J.yes rfl rfl ?_
          refine J.pick_f rfl rfl rfl ?_
          refine J.pick_t rfl rfl rfl ?_
          refine J.assign rfl rfl ?_
          refine J.end ?_
          refine X.then ?_
          refine T.ret ?_
          exact X.ret1 rfl (RV.tmp rfl) (fun w' hw' => ⟨rfl, hw'.sub (Sub.nil _)⟩)
    · skip
      refine J.no rfl rfl rfl rfl ?_
      refine J.no rfl rfl rfl rfl ?_
      refine J.no rfl rfl rfl rfl ?_
      refine J.pick_f rfl rfl rfl ?_
      refine J.end ?_
      refine X.then ?_
      refine T.cond_false rfl ?_
      refine T.skip ?_
      refine X.then ?_
      refine T.seq ?_
      refine T.text [.l, .l, .l, .l, .l, .l, .l, .l, .l] rfl ?_
      refine J.move rfl rfl ?_
      have hn78 := numd78 hn10 hcv
      have hsh : n10 ≤ ss.length := dec_short hg0 (fun q => by omega) hn10
      refine J.addStr (xs := [48]) (ys := (txt 10 (parseN ss).1 n10)) rfl rfl rfl (by rw [txt_length]; show 1 + _ ≤ _; omega) ?_
      refine J.call0 (k := .l) trivial fok101 rfl rfl (fun w hw => Wq.Parse w ([48] ++ txt 10 (parseN ss).1 n10) (Dg.append (by intro x hx; simp at hx; omega) (txt_dg (by omega) (by omega)))) ?_
      refine J.move rfl rfl ?_
      refine J.extract rfl rfl rfl ?_
      refine J.extract rfl rfl rfl ?_
      refine J.alloc 13 rfl zero24 [.int .u64 0, .int .u64 0, .int .u64 0, .int .u64 0] rfl rfl (fun g13 hg13 => ?_)
      refine J.store 13 rfl rfl rfl rfl (wc (parseN ([48] ++ txt 10 (parseN ss).1 n10)).1) rfl sz24 (by first | decide | exact Nat.le_refl _ | exact Nat.le_of_ble_eq_true rfl | (simp [rowN]; done) | (simp [rowN]; omega)) (by first | exact rowN_one _ _ | (simp; done) | (intro u hu; simp at hu; subst hu; rfl) | (intro u hu; simp at hu; rcases hu with rfl | rfl <;> rfl)) (by first | decide | exact Nat.zero_lt_succ _ | simp) trivial (wc (parseN ([48] ++ txt 10 (parseN ss).1 n10)).1) rfl ?_
      refine J.assign rfl rfl ?_
      refine J.end ?_
      refine X.then ?_
      refine T.seq ?_
      refine T.text [.l, .l, .l, .l, .l, .l, .l, .l, .l, .l, .l, .l, .l, .l, .l, .l, .l, .l, .l, .l, .l, .l, .l, .l, .l, .l] rfl ?_
      refine J.move rfl rfl ?_
      refine J.lenStr Tryd.underlying9 rfl rfl ?_
      refine J.as 93 (.int .i64 (((txt 10 (parseN ss).1 n10).length : Nat) : Int)) rfl (by rw [bstr_size]) ?_
      refine J.move rfl rfl ?_
      refine J.lenStr Tryd.underlying9 rfl rfl ?_
      refine J.as 95 (.int .i64 ((ss.length : Nat) : Int)) rfl (by rw [bstr_size]) ?_
      refine J.leq rfl rfl rfl (decide_eq_true (by rw [txt_length]; omega)) ?_
      refine J.move rfl rfl ?_
      refine J.yes rfl rfl ?_
      refine J.loadN (k := .l) trivial 13 rfl rfl agg24 (wc (parseN ([48] ++ txt 10 (parseN ss).1 n10)).1) rfl rfl rfl ?_
      refine J.yes rfl rfl ?_
      refine J.loadN (k := .l) trivial 9 rfl rfl agg24 (wc (parseN ss).1) rfl rfl rfl ?_
      refine J.yes rfl rfl ?_
      refine J.eqW eqw24 rfl rfl rfl ?_
      refine J.yes rfl rfl ?_
      refine J.move rfl rfl ?_
      refine J.split 101 rfl (fun h5 => ?_) (fun h5 => ?_)
      · have h78 : n10 ≠ 78 := fun q => by have h1 := h5; rw [parse_over q] at h1; exact hn10.2.2 (by omega) (by rw [show (parseN ss).1 = 0 by have h2 : 0 % 2 ^ 256 = (parseN ss).1 % 2 ^ 256 := h1; omega]; exact Nat.zero_div _)
        have p3 := parse_zero hcv hn10 h78
        refine J.yes rfl rfl ?_
        refine J.move rfl rfl ?_
        refine J.yes rfl rfl ?_
        refine J.call0 (k := .l) trivial fok91 rfl rfl (fun w hw => Wn.num w _) ?_
        refine J.yes rfl rfl ?_
        refine J.eql rfl rfl rfl (decide_eq_true (by rw [p3]; rfl)) ?_
        refine J.yes rfl rfl ?_
        refine J.pick_t rfl rfl rfl ?_
        refine J.yes rfl rfl ?_
        refine J.move rfl rfl ?_
        refine J.no rfl rfl rfl rfl ?_
        refine J.no rfl rfl rfl rfl ?_
        refine J.no rfl rfl rfl rfl ?_
        refine J.no rfl rfl rfl rfl ?_
        refine J.noU rfl rfl rfl ?_
        refine J.noU rfl rfl rfl ?_
        refine J.noU rfl rfl rfl ?_
        refine J.no rfl rfl rfl rfl ?_
        refine J.yes rfl rfl ?_
        refine J.pick_t rfl rfl rfl ?_
        refine J.pick_t rfl rfl rfl ?_
        refine J.assign rfl rfl ?_
        refine J.end ?_
        refine X.then ?_
        refine T.ret ?_
        exact X.ret1 rfl (RV.tmp rfl) (fun w' hw' => ⟨rfl, hw'.sub (Sub.nil _)⟩)
      · have h78 : n10 = 78 := Classical.byContradiction fun q => h5 (by rw [parse_zero hcv hn10 q])
        have p3 : parseN ([48] ++ txt 10 (parseN ss).1 n10) = _ := parse_over h78
        refine J.no rfl rfl rfl rfl ?_
        refine J.no rfl rfl rfl rfl ?_
        refine J.no rfl rfl rfl rfl ?_
        refine J.yes rfl rfl ?_
        refine J.pick_f rfl rfl rfl ?_
        refine J.yes rfl rfl ?_
        refine J.move rfl rfl ?_
        refine J.yes rfl rfl ?_
        refine J.move rfl rfl ?_
        refine J.yes rfl rfl ?_
        refine J.lenStr Tryd.underlying9 rfl rfl ?_
        refine J.as 108 (.int .i64 (((txt 10 (parseN ss).1 n10).length : Nat) : Int)) rfl (by rw [bstr_size]) ?_
        refine J.yes rfl rfl ?_
        refine J.eql rfl rfl rfl (decide_eq_true (by rw [txt_length]; omega)) ?_
        refine J.yes rfl rfl ?_
        refine J.move rfl rfl ?_
        refine J.yes rfl rfl ?_
        refine J.move rfl rfl ?_
        refine J.yes rfl rfl ?_
        refine J.call0 (k := .l) trivial fok91 rfl rfl (fun w hw => Wn.num w _) ?_
        refine J.yes rfl rfl ?_
        refine J.eql rfl rfl rfl (decide_eq_true (by rw [p3]; rfl)) ?_
        refine J.yes rfl rfl ?_
        refine J.pick_t rfl rfl rfl ?_
        refine J.yes rfl rfl ?_
        refine J.pick_f rfl rfl rfl ?_
        refine J.pick_t rfl rfl rfl ?_
        refine J.assign rfl rfl ?_
        refine J.end ?_
        refine X.then ?_
        refine T.ret ?_
        exact X.ret1 rfl (RV.tmp rfl) (fun w' hw' => ⟨rfl, hw'.sub (Sub.nil _)⟩)
end Go.Proofs.YtegociefcfcihaaDoor.Lh
namespace Go.Proofs.YtegociefcfcihaaDoor.Ow
open Go Go.ChangeShapes Go.WideShapes Go.ChangeAt Go.RowKit
theorem own : ownKnob Tryd.prog.godebug = none := by kernel_rfl
theorem laidOut : laidOutB Tryd.prog = true := by kernel_rfl
abbrev laidL := Rows.wordRingRow.laid
set_option maxRecDepth 100000 in
theorem door_met (os : Os) (args : Array Value) : laidMetH Tryd.prog laidL ((World.doorLaid Tryd.prog 400 os).forCall (fun _ _ => 0) ⟨#[], args, []⟩).memory :=
  laidMetH_of_parts3 (fuel := 8) (laidMet_of_run' 8 (by kernel_rfl) (by kernel_rfl)) (by kernel_rfl) (by kernel_rfl)
end Go.Proofs.YtegociefcfcihaaDoor.Ow
