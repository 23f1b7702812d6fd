/-
  What Hex and Text tell of a word is read again by Parse; of what Parse reads the told forms are the shortest.
  No condition: the statement as given, for every input.
-/
import Derived.Test.YtegociefcfcihaaDoorRows
import Derived.Test.YtegociefcfcihaaDoorCards
import Derived.Test.YtegociefcfcihaaDoorTie
import Derived.MakeChecks
import Derived.Lib.LaidTab
import Derived.LaidSub
import Derived.ChangeMaps5
import Derived.WalkKit
import Derived.ProofKit
import Derived.LaidMore
import Derived.OpenShut
import Derived.Stop.Joined
import Derived.ShutString
import Derived.ChangeOld
import Derived.Below
import Derived.SevenTiedAt
import Derived.Test.YtegociefcfcihaaDoorUba
import Derived.Test.YtegociefcfcihaaDoorUbb
import Derived.Test.YtegociefcfcihaaDoorUbc
import Derived.Test.YtegociefcfcihaaDoorUbd
import Derived.Test.YtegociefcfcihaaDoorUbe
import Derived.Test.YtegociefcfcihaaDoorUbf
import Derived.Test.YtegociefcfcihaaDoorUbg
set_option linter.unusedVariables false
namespace Go.Proofs.YtegociefcfcihaaDoor.Xh
open Go Go.Fw Go.ChangeShapes Go.WideShapes Go.ChangeAt Go.RowKit
theorem wordT24 : WordT Tryd.prog 24 22 := ⟨Tryd.underlying24, Tryd.underlying22, by kernel_rfl, by kernel_rfl⟩
theorem pow10 {W : World} (h : laidMetH Tryd.prog Ow.laidL W) : Lib.TabIs Tryd.prog W "internal/strconv.uint64pow10" .u64 Lib.pow10Tab := by
  rw [MakeChecks.laidMetH_plain _ _ _ (by kernel_rfl)] at h
  have h2 := h.filter (fun x => x.1 == "internal/strconv.uint64pow10")
  have e : (Ow.laidL.filter fun x => x.1 == "internal/strconv.uint64pow10") = [("internal/strconv.uint64pow10", Lib.tabData .u64 Lib.pow10Tab)] := by kernel_rfl
  rw [e] at h2
  exact Lib.tabIs_of_head (g := 0) (t := 113) (e := 22) (n := 20) (rest := []) (by kernel_rfl) (by kernel_rfl) Tryd.underlying113 Tryd.underlying22 (by kernel_rfl) (by kernel_rfl) h2

set_option maxRecDepth 100000 in
theorem lifted (os : Os) (started : os.Started) (H : Type) (enc : TypeId × Value → H) :
    ReturnsInHanded {} Tryd.checked os 22 .any (fun w args => (Rows.wordReadsBackSpec.pre enc Tryd.prog Tryd.f22 [] false w args ∧ laidMetH Tryd.prog Ow.laidL w) ∧ sizedMet enc Tryd.prog Tryd.f22 (OpenSpec.ofChange Rows.wordReadsBackSpec) false w args)
      (Rows.wordReadsBackSpec.post enc Tryd.prog Tryd.f22 false true false false) := by
  refine returnsInHanded_of_change_and (C := Tryd.checked) (X := fun w _ => laidMetH Tryd.prog Ow.laidL w) (fun _ _ _ hh h => h.of_heap hh) Ow.own started (by kernel_rfl) Tryd.func22
    (ChangeSpec.witness_shaped (enc := enc) (C := Tryd.checked) (os := os) (X := fun w _ => laidMetH Tryd.prog Ow.laidL w) false (World.doorLaid Tryd.prog 400 os) #[.agg #[.int .u64 0, .int .u64 0, .int .u64 0, .int .u64 0], .string ⟨#[]⟩] 8 rfl (World.shaped_of_RefB (by kernel_rfl) (by kernel_rfl)) (by kernel_rfl) (by kernel_rfl) (by kernel_rfl) (Ow.door_met os _)) ?_
  intro W base args ds gs before hval0 hW _ _ hL _
  have hval : ∀ (j : Nat) t v, Tryd.f22.params[j]? = some t → args[j]? = some v → Value.okWide Tryd.prog W .any base t v := hval0
  have hW' := hW
  obtain ⟨p, q, hA0, hV, rfl, hfz, hnd⟩ := hW
  have hA : DataW.TrodAll enc Tryd.prog W 0 (fun _ => true) true Tryd.f22.params.toList args.toList ds p := hA0
  rw [Tryd.params22] at hA hval
  obtain ⟨v0, vs0, d0, ds0, p0, q0, hargs, rfl, rfl, h0, r0⟩ := trodAll_cons hA
  obtain ⟨v1, vs1, d1, ds1, p1, q1, rfl, rfl, rfl, h1, r1⟩ := trodAll_cons r0
  obtain ⟨rfl, rfl, rfl⟩ := trodAll_nil r1
  obtain rfl : args = #[v0, v1] := by cases args; simp_all
  obtain ⟨rfl, rfl⟩ := trodVars_none hV
  have k0 := h0
  have lt0 : ∀ x ∈ p0, x.block < W.heap.size := by obtain ⟨m, hm⟩ := k0; exact DataW.trod_lt m _ _ _ hm
  obtain ⟨x0, hx0, rfl⟩ := open_word wordT24 (hval 0 24 v0 rfl rfl) h0
  have k1 := h1
  have lt1 : ∀ x ∈ p1, x.block < W.heap.size := by obtain ⟨m, hm⟩ := k1; exact DataW.trod_lt m _ _ _ hm
  obtain ⟨s1, rfl, _, _, hm1⟩ := Go.ChangeMaps.open_string Tryd.underlying9 (hval 1 9 v1 rfl rfl) h1
  obtain ⟨ss1, rfl, hs1⟩ := bstr_of s1
  have hT := pow10 hL
  clear hA0 hval0
  refine (Lh.WordReadsBack W x0 ss1 hs1 hT).mono fun e W' ⟨he, bel0⟩ => ?_
  subst he
  have bel := bel0.below
  exact ⟨_, rfl, _, _, _, [], _, [], hW', trodAll_mk1 (shut_bool Tryd.underlying4 _), (trodAll_cons_mk (Below.trod Ow.laidOut (by kernel_rfl) (of_decide_eq_true (by kernel_rfl)) k0 bel lt0) (trodAll_cons_mk (Below.trod Ow.laidOut (by kernel_rfl) (of_decide_eq_true (by kernel_rfl)) k1 bel lt1) trodAll_mk0)), rfl, bel.frame _, fun h => by cases h⟩

theorem over : Rows.wordReadsBackRow.holds Tryd.pinned (OpenSpec.ofChange Rows.wordReadsBackSpec) :=
  OpenClaim.holds_of_wide 22 Tryd.f22 rfl rfl rfl rfl rfl rfl rfl ⟨rfl, rfl, rfl, rfl, rfl⟩ rfl rfl rfl rfl rfl (by kernel_rfl) Tryd.func22 (by kernel_rfl)
    (of_decide_eq_true (by kernel_rfl)) (by unfold Func.isWrapper; first | (rw [if_pos (by decide +kernel)]; kernel_rfl) | (rw [if_neg (by decide +kernel)]; exact ⟨rfl, rfl⟩))
    (fun os started H enc _ => lifted os started H enc)

theorem proved : Rows.WordReadsBackCardSaid :=
  Claim7.holds_tied_plain_at .later [] [.data, .data, .data] true (true, "4c664fb4151982fa72b689a98ae0b5bbd299cece75ac860867f89f6c1e5f623e") false
    over (fun _ h => by cases h) (by kernel_rfl) (fun _ h => by cases h) wordReadsBack_row_tie rfl ⟨rfl, rfl⟩ (by kernel_rfl) rfl
    (fun f fn hf hfn => by
      obtain rfl : f = 22 := Option.some.inj ((show Tryd.prog.funcNamed "vouch/vouchlaw1.WordReadsBack" = some 22 by kernel_rfl).symm.trans hf) |>.symm
      obtain rfl : fn = Tryd.f22 := (Option.some.inj (Tryd.func22.symm.trans hfn)).symm
      exact ⟨by kernel_rfl, fun j t ht => by
        rw [Tryd.params22] at ht
        have hm : t ∈ [24, 9] := by have := Array.mem_of_getElem? ht; simp at this; simp [this]
        have hall : ([24, 9].all fun u => !Tryd.prog.wantsStandIn u) = true := by kernel_rfl
        exact (show Tryd.prog.wantsStandIn t = false by simpa using List.all_eq_true.1 hall t hm)⟩)
    (by kernel_rfl)
end Go.Proofs.YtegociefcfcihaaDoor.Xh
