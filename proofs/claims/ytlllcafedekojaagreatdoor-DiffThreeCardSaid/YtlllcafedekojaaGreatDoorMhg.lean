/-
  DiffThree: of three worlds: what lies between the first and the third is what lies between, joined; and turned.
  No condition: the statement as given, for every input.
-/
import Derived.Test.YtlllcafedekojaaGreatDoorRows
import Derived.Test.YtlllcafedekojaaGreatDoorCards
import Derived.Test.YtlllcafedekojaaGreatDoorTie
import Derived.WalkKit
import Derived.ProofKit
import Derived.LaidMore
import Derived.OpenShut
import Derived.Stop.Joined
import Derived.ShutString
import Derived.ChangeOld
import Derived.Below
import Derived.SevenTiedAt
import Derived.Test.YtlllcafedekojaaGreatDoorMha
import Derived.Test.YtlllcafedekojaaGreatDoorMhb
import Derived.Test.YtlllcafedekojaaGreatDoorMhc
import Derived.Test.YtlllcafedekojaaGreatDoorMhd
import Derived.Test.YtlllcafedekojaaGreatDoorMhe
import Derived.Test.YtlllcafedekojaaGreatDoorMhf
set_option linter.unusedVariables false
namespace Go.Proofs.YtlllcafedekojaaGreatDoor.Xh
open Go Go.Fw Go.ChangeShapes Go.WideShapes Go.ChangeAt Go.RowKit
theorem zmG:WordT Tryz.prog 50 48:=⟨Tryz.underlying50,Tryz.underlying48,by kernel_rfl,by kernel_rfl⟩
theorem ztv:SloT Tryz.prog 62 50 48:=⟨by kernel_rfl,by kernel_rfl,Nat.le_of_ble_eq_true (by kernel_rfl),zmG⟩
theorem zsY:AcT Tryz.prog 56 47 5 48 50 48 51 54 62:=⟨by kernel_rfl,by kernel_rfl,Nat.le_of_ble_eq_true (by kernel_rfl),Tryz.underlying47,by kernel_rfl,Tryz.underlying5,by kernel_rfl,by kernel_rfl,Tryz.underlying48,by kernel_rfl,zmG,Tryz.underlying51,by kernel_rfl,Tryz.underlying54,by kernel_rfl,ztv⟩
set_option maxRecDepth 100000 in
theorem lifted (os:Os) (started:os.Started) (H:Type) (enc:TypeId×Value→H):
    ReturnsInHanded {} Tryz.checked os 9 .any (fun w args=>(Rows.diffThreeSpec.pre enc Tryz.prog Tryz.f9 [] false w args∧laidMetH Tryz.prog Ow.laidL w)∧sizedMet enc Tryz.prog Tryz.f9 (OpenSpec.ofChange Rows.diffThreeSpec) false w args)
      (Rows.diffThreeSpec.post enc Tryz.prog Tryz.f9 false true false false):=by
  refine returnsInHanded_of_change_and (C:=Tryz.checked) (X:=fun w _=>laidMetH Tryz.prog Ow.laidL w) (fun _ _ _ hh h=>h.of_heap hh) Ow.own started (by kernel_rfl) Tryz.func9
    (ChangeSpec.witness_shaped (enc:=enc) (C:=Tryz.checked) (os:=os) (X:=fun w _=>laidMetH Tryz.prog Ow.laidL w) false (World.doorLaid Tryz.prog 400 os) #[.slice none 0 0,.slice none 0 0,.slice none 0 0] 8 rfl (World.shaped_of_RefB (by kernel_rfl) (by kernel_rfl)) (by kernel_rfl) (by kernel_rfl) (by kernel_rfl) (Ow.door_met os _)) ?_
  intro W base args ds gs before hval0 hW _ hZ hL _
  have hval:∀ (j:Nat) t v,Tryz.f9.params[j]?=some t→args[j]?=some v→Value.okWide Tryz.prog W .any base t v:=hval0
  have hW':=hW
  obtain ⟨p,q,hA0,hV,rfl,hfz,hnd⟩:=hW
  have hA:DataW.TrodAll enc Tryz.prog W 0 (fun _=>true) true Tryz.f9.params.toList args.toList ds p:=hA0
  rw [Tryz.params9] at hA hval
  obtain ⟨v0,vs0,d0,ds0,p0,q0,hargs,rfl,rfl,h0,r0⟩:=trodAll_cons hA
  obtain ⟨v1,vs1,d1,ds1,p1,q1,rfl,rfl,rfl,h1,r1⟩:=trodAll_cons r0
  obtain ⟨v2,vs2,d2,ds2,p2,q2,rfl,rfl,rfl,h2,r2⟩:=trodAll_cons r1
  obtain ⟨rfl,rfl,rfl⟩:=trodAll_nil r2
  obtain rfl:args=#[v0,v1,v2]:=by cases args;simp_all
  obtain ⟨rfl,rfl⟩:=trodVars_none hV
  have k0:=h0
  have lt0:∀ x∈p0,x.block < W.heap.size:=by obtain ⟨m,hm⟩:=k0;exact DataW.trod_lt m _ _ _ hm
  obtain ⟨A0,c0,xs0,rfl,hc0,hi0,hk0_,hl0_⟩:=zgx Tryz.underlying22 (by kernel_rfl) zsY (hval 0 22 v0 rfl rfl) h0 (Light.each hZ (i:=0) (t:=22) (by rw [Tryz.params9];rfl) rfl)
  have hl0:xs0.length≤2000000000000:=by omega
  have k1:=h1
  have lt1:∀ x∈p1,x.block < W.heap.size:=by obtain ⟨m,hm⟩:=k1;exact DataW.trod_lt m _ _ _ hm
  obtain ⟨A1,c1,xs1,rfl,hc1,hi1,hk1_,hl1_⟩:=zgx Tryz.underlying22 (by kernel_rfl) zsY (hval 1 22 v1 rfl rfl) h1 (Light.each hZ (i:=1) (t:=22) (by rw [Tryz.params9];rfl) rfl)
  have hl1:xs1.length≤2000000000000:=by omega
  have k2:=h2
  have lt2:∀ x∈p2,x.block < W.heap.size:=by obtain ⟨m,hm⟩:=k2;exact DataW.trod_lt m _ _ _ hm
  obtain ⟨A2,c2,xs2,rfl,hc2,hi2,hk2_,hl2_⟩:=zgx Tryz.underlying22 (by kernel_rfl) zsY (hval 2 22 v2 rfl rfl) h2 (Light.each hZ (i:=2) (t:=22) (by rw [Tryz.params9];rfl) rfl)
  have hl2:xs2.length≤2000000000000:=by omega
  clear hA0 hval0
  refine (Ld.DiffThree (ck_s fun w n B A c xs h1 h2 h3=>Uk.Check w n B A c xs h1 h2 h3) W A0 c0 xs0 hc0 hi0 hl0 A1 c1 xs1 hc1 hi1 hl1 A2 c2 xs2 hc2 hi2 hl2).mono fun e W' ⟨he,bel0⟩=>?_
  subst he
  have bel:=bel0.below
  exact ⟨_,rfl,_,_,_,[],_,[],hW',trodAll_mk1 (shut_bool Tryz.underlying4 _),(trodAll_cons_mk (Below.trod Ow.laidOut (by kernel_rfl) (of_decide_eq_true (by kernel_rfl)) k0 bel lt0) (trodAll_cons_mk (Below.trod Ow.laidOut (by kernel_rfl) (of_decide_eq_true (by kernel_rfl)) k1 bel lt1) (trodAll_cons_mk (Below.trod Ow.laidOut (by kernel_rfl) (of_decide_eq_true (by kernel_rfl)) k2 bel lt2) trodAll_mk0))),rfl,bel.frame _,fun h=>by cases h⟩
theorem over:Rows.diffThreeRow.holds Tryz.pinned (OpenSpec.ofChange Rows.diffThreeSpec):=
  OpenClaim.holds_of_wide 9 Tryz.f9 rfl rfl rfl rfl rfl rfl rfl ⟨rfl,rfl,rfl,rfl,rfl⟩ rfl rfl rfl rfl rfl (by kernel_rfl) Tryz.func9 (by kernel_rfl)
    (of_decide_eq_true (by kernel_rfl)) (by unfold Func.isWrapper;first | (rw [if_pos (by decide+kernel)];kernel_rfl) | (rw [if_neg (by decide+kernel)];exact ⟨rfl,rfl⟩))
    (fun os started H enc _=>lifted os started H enc)
theorem proved:Rows.DiffThreeCardSaid:=
  Claim7.holds_tied_plain_at .later [] [.data, .data, .data] true (true, "421e9ac33ff0e7b59c4dbeeaf75b980721588a00b26733a1ff831bdce3b6374d") true
    over (fun _ h=>by cases h) (by kernel_rfl) (fun _ h=>by cases h) diffThree_row_tie rfl ⟨rfl,rfl⟩ (by kernel_rfl) rfl
    (fun f fn hf hfn=>by
      obtain rfl : f = 9 := Option.some.inj ((show Tryz.prog.funcNamed "vouch/vouchlaw24.DiffThree" = some 9 by kernel_rfl).symm.trans hf) |>.symm
      obtain rfl:fn=Tryz.f9:=(Option.some.inj (Tryz.func9.symm.trans hfn)).symm
      exact ⟨by kernel_rfl,fun j t ht=>by
        rw [Tryz.params9] at ht
        have hm:t∈[22]:=by have:=Array.mem_of_getElem? ht;simp at this;simp [this]
        have hall:([22].all fun u=> !Tryz.prog.wantsStandIn u)=true:=by kernel_rfl
        exact (show Tryz.prog.wantsStandIn t=false by simpa using List.all_eq_true.1 hall t hm)⟩)
    (by kernel_rfl)
end Go.Proofs.YtlllcafedekojaaGreatDoor.Xh
