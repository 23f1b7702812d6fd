/-
  Texts that the statement stands on, one behind the other: plain lemmas and walks of functions.
  No condition.
-/
import Derived.Test.YtlllcafedekojaaGreatDoorChecked
import Derived.Test.YtlllcafedekojaaGreatDoorRows
import Derived.ProofKit
import Derived.LaidMore
import Derived.OpenShut
import Derived.Stop.Joined
import Derived.Below
import Derived.Test.YtlllcafedekojaaGreatDoorMha
import Derived.Test.YtlllcafedekojaaGreatDoorMhb
import Derived.Test.YtlllcafedekojaaGreatDoorMhc
import Derived.Test.YtlllcafedekojaaGreatDoorMhd
import Derived.Test.YtlllcafedekojaaGreatDoorMhe
set_option linter.unusedVariables false
set_option maxRecDepth 20000
set_option maxHeartbeats 16000000
namespace Go.Fz
open Go Go.Fw Go.Proofs.Tryz
theorem el316:ElT prog 316 4 40 (.agg ([.int .u32 0,.int .i32 0,.int .u32 0,.slice none 0 0]).toArray):=⟨Y12,rfl,Y18b,Y18b⟩
theorem zrf:FnOk prog 111:=FnOk.mk' func111 Y12 rfl
theorem ztf:ZeroT prog 62 (.agg (zc3).toArray):=Y17
theorem zuv:FnOk prog 100:=FnOk.mk' func100 Y12 rfl
theorem el112:ElT prog 112 1 8 (.pointer none):=⟨Y12,rfl,Y18b,Y18b⟩
theorem fok78:FnOk prog 78:=FnOk.mk' func78 Y12 rfl
theorem ztN:FnOk prog 79:=FnOk.mk' func79 Y12 rfl
theorem zrC:SizeT prog 112 1:=Y9
theorem sl89:SlT prog 89 112 1:=⟨underlying89,zrC⟩
theorem el50:ElT prog 50 4 32 (.agg (zc9).toArray):=⟨Y12,rfl,Y18b,Y18b⟩
theorem fok80:FnOk prog 80:=FnOk.mk' func80 Y12 rfl
theorem fok62:FnOk prog 62:=FnOk.mk' func62 Y12 rfl
end Go.Fz
namespace Go.Proofs.YtlllcafedekojaaGreatDoor.Uk
open Go Go.Fw Go.Fz Go.Proofs.Tryz
attribute [local irreducible] J T X
theorem JudgeAll:∀ N,N≤1000000→Uj.JudgeAt N:=fun N=>Nat.strongRecOn N fun N ih h w n hn B hB c kind hc hl1 hl2 hl3 hN=>Uj.Judge N h (fun N' hN'=>ih N' hN' (by omega)) w n hn B hB c kind hc hl1 hl2 hl3 hN
theorem CloneC (w:World) (n:Nat) (B:List (Option Nat)) (A1:Option Addr) (c1:Nat) (xs:List Nat) (hB:∀ g,some g∈B→g < w.heap.size) (e1:Cs w A1 (rowN .u8 xs)) (hl:xs.length≤1000000000000):
    Calls prog 72 [.slice A1 xs.length c1].toArray w fun e w'=>∃ q:RowIx,(xs.length≤q.cap∧Fit w' n B (hdOf q.id) (rowN .u8 xs))∧e=.returned (.slice (hdOf q.id) xs.length q.cap)∧WS w [] [] w':=(Da.Clone w A1 c1 xs e1 hl).mono fun e w' h=>h.nestC hB
theorem held (w:World) (A:Option Addr) (m cp:Nat) (c:CtR) (kind:Int) (hl:c.codes.length≤1000000000):
    Calls prog 111 [.slice A m cp,.agg c.cells.toArray,.int .i64 kind].toArray w fun e w'=>(∃ v:Option Addr,e=.returned (.pointer v))∧WS w [] [] w':=by
 refine zac [] 16 [] func111 rfl ntmps111 Y20 (WS.refl _ _) <| zz 2 ?_
 refine J.aE 4 rfl rfl (c.cells) rfl rfl fun g4 hg4=>zz 4 ?_
 refine T.ae [(4,⟨some g4,122,(c.cells)⟩)] [(0,.g),(1,.s),(2,.g),(3,.g),(4,.q),(5,.g),(6,.l),(7,.g),(8,.l),(9,.g)] Y12 Y12 ?_ Y2
 refine zz 1 ?_
 refine J.bT 4 rfl rfl zcT (c.cells) rfl rfl rfl <| zz 1 ?_
 refine J.aa zbn rfl rfl <| J.ag Y8k 4 rfl rfl zcr Y3 rfl <| J.al underlying45 rfl rfl <| J.aQ 13 rfl (q:=c.codes.length) (c0:=c.codes.length) underlying186 el316 rfl rfl Y192 Y192 (Nat.le_refl _) Y5 Y28 rfl fun g13 hg13=>J.ao rfl rfl (.agg (hdC A m cp c kind g13).toArray) Y191 <| J.aE 15 rfl rfl (hdC A m cp c kind g13) rfl rfl fun g15 hg15=>zz 4 ?_
 exact X.aa rfl (RV.tmp rfl) (fun w' hw'=>⟨⟨_,rfl⟩,hw'.s0⟩)
theorem Validate (w:World) (n:Nat) (hn:n≤w.heap.size) (bs:List Nat) (hd:Dg bs) (hl:bs.length≤1000000) (A:Option Addr) (cp:Nat) (hA:Cs w A (rowN .u8 bs)) (kind:Int):
    Calls prog 100 [.slice A bs.length cp,.int .i64 kind].toArray w fun e w'=>∃ q:Option Addr×RjR,(q.2.code=0↔(kind=1∨kind=2)∧ValidB bs kind)∧e=.returned (.tuple #[.pointer q.1,.agg q.2.cells.toArray])∧WS w [] [] w':=by
 refine zac [] 38 [] func100 rfl ntmps100 Y20 (WS.refl _ _) <| zz 3 ?_
 refine J.am 5 rfl zdB zc7 rfl rfl fun g5 hg5=>zz 8 ?_
 refine J.an 11 rfl (fun h1=>?_) (fun h1=>?_)
 refine zz 5 ?_
 refine T.aa rfl (fun h2=>?_) (fun h2=>?_)
 refine zz 2 ?_
 refine J.ao rfl rfl (.agg (RjR.mk 1 [] 0 0 none 0).cells.toArray) Y191 <| zz 1 ?_
 refine J.ae 5 rfl rfl rfl rfl ((RjR.mk 1 [] 0 0 none 0).cells) rfl zbq (Nat.le_of_ble_eq_true rfl) Y150 (Nat.zero_lt_succ _) trivial ((RjR.mk 1 [] 0 0 none 0).cells) rfl <| zz 4 ?_
 exact X.ag rfl (RV.tmp rfl) (RV.agg 5 rfl rfl zaL ((RjR.mk 1 [] 0 0 none 0).cells) Y22 Y22 rfl) (fun w' hw'=>⟨(none,(RjR.mk 1 [] 0 0 none 0)),⟨fun q=>absurd q (show (1:Int)≠0 by decide),fun q=>absurd q.1 Y5⟩,rfl,hw'.s0⟩)
 refine zz 5 ?_
 refine J.aw zjl rfl rfl _ _ [(5,⟨some g5,125,zc7⟩)] Y0 rfl (fun _ _=>Sub.nil _) (fun w hw=>CloneC w n ([]++ids [(5,⟨some g5,125,zc7⟩)]) _ _ _ (zaf (l1:=[(5,⟨some g5,125,zc7⟩)]) Y194 hw Y0 rfl) (hA.ws hw (zab _)) Y5) fun i17 W17 hP17 hW17=>?_
 obtain ⟨hq17,hf17⟩:=hP17
 have hVW17:=hW17.s0
 refine zz 6 ?_
 refine J.aw zog rfl rfl _ _ [(5,⟨some g5,125,zc7⟩)] Y0 rfl (fun _ _=>Sub.nil _) (fun w hw=>Ud.Parse w n (Nat.le_trans hn hw.size) ([]++ids [(5,⟨some g5,125,zc7⟩)]) (zaf (l1:=[(5,⟨some g5,125,zc7⟩)]) Y194 hw Y0 rfl) bs hd Y5 (hdOf i17.id) i17.cap hq17 (hf17.keep (zaa (I:=[some g5]) (B0:=[]) (l1:=[(5,⟨some g5,125,zc7⟩)]) hVW17 hn Y189 hw Y4 Y0 rfl)) false) fun i20 W20 hP20 hW20=>?_
 obtain ⟨hq1,hq2,hc20,hr20⟩:=hP20
 have kpW20:=(zaa (I:=[some g5]) (B0:=[]) (l1:=[(5,⟨some g5,125,zc7⟩)]) hVW17 hn Y189 hW20 Y4 Y0 rfl)
 have hf17:=hf17.keep kpW20
 have hVW20:=hW20.s0
 refine zz 3 ?_
 refine J.am 7 rfl zhP zc5 rfl rfl fun g7 hg7=>J.am 8 rfl zdB zc7 rfl rfl fun g8 hg8=>J.ae 7 rfl rfl rfl rfl (i20.1.cells) rfl zlW (Nat.le_of_ble_eq_true rfl) Y150 (Nat.zero_lt_succ _) trivial (i20.1.cells) rfl <| J.ae 8 rfl rfl rfl rfl (i20.2.cells) rfl zbq (Nat.le_of_ble_eq_true rfl) Y150 (Nat.zero_lt_succ _) trivial (i20.2.cells) rfl <| zz 5 ?_
 refine J.aa zbP rfl rfl <| J.ag Y8k 8 rfl rfl zdd Y3 rfl <| zz 3 ?_
 refine T.aa rfl (fun h3=>?_) (fun h3=>?_)
 have he0:=h3
 have hz1:=zgS (hq2 (hq1.1 he0)) (hq1.1 he0)
 obtain ⟨hl1,hl2,hl3⟩:=hz1
 have hN2:∀ p∈i20.1.v.subs,p.length≤bs.length:=fun p hp=>by rw [hq2 (hq1.1 he0)] at hp;have:=zjE (hq1.1 he0) p hp;omega
 refine zz 1 ?_
 refine J.ai Y8k 7 rfl rfl zcT (i20.1.cells) rfl rfl rfl <| zz 1 ?_
 refine J.aw zof rfl rfl _ _ [(5,⟨some g5,125,zc7⟩),(7,⟨some g7,122,(i20.1.cells)⟩),(8,⟨some g8,125,(i20.2.cells)⟩)] Y0 rfl (fun _ _=>Sub.nil _) (fun w hw=>JudgeAll bs.length Y5 w n (Nat.le_trans hn hw.size) ([]++ids [(5,⟨some g5,125,zc7⟩),(7,⟨some g7,122,(i20.1.cells)⟩),(8,⟨some g8,125,(i20.2.cells)⟩)]) (zaf (l1:=[(5,⟨some g5,125,zc7⟩),(7,⟨some g7,122,(i20.1.cells)⟩),(8,⟨some g8,125,(i20.2.cells)⟩)]) Y194 hw Y0 rfl) i20.1 kind (hc20.keep (zaa (I:=[some g5]) (B0:=[]) (l1:=[(5,⟨some g5,125,zc7⟩),(7,⟨some g7,122,(i20.1.cells)⟩),(8,⟨some g8,125,(i20.2.cells)⟩)]) hVW20 hn Y189 hw Y4 Y0 rfl)) hl1 hl2 hl3 hN2) fun i28 W28 hP28 hW28=>?_
 obtain ⟨hj1,hr28⟩:=hP28
 have kpW28:=(zaa (I:=[some g5]) (B0:=[]) (l1:=[(5,⟨some g5,125,zc7⟩),(7,⟨some g7,122,(i20.1.cells)⟩),(8,⟨some g8,125,(i20.2.cells)⟩)]) hVW20 hn Y189 hW28 Y4 Y0 rfl)
 have hf17:=hf17.keep kpW28
 have hc20:=hc20.keep kpW28
 have hr20:=hr20.keep kpW28
 have hVW28:=hW28.s0
 refine J.ae 8 rfl rfl rfl rfl (i28.cells) rfl zbq (Nat.le_of_ble_eq_true rfl) Y150 (Nat.zero_lt_succ _) trivial (i28.cells) rfl <| zz 5 ?_
 refine J.aa zbP rfl rfl <| J.ag Y8k 8 rfl rfl zdd Y3 rfl <| zz 3 ?_
 refine T.aa rfl (fun h4=>?_) (fun h4=>?_)
 refine zz 1 ?_
 refine T.ae [] [(0,.q),(1,.g),(2,.l)] Y12 Y12 ?_ Y0
 refine J.ai Y8k 8 rfl rfl zaL (i28.cells) rfl rfl rfl <| zz 1 ?_
 refine J.ae 5 rfl rfl rfl rfl (i28.cells) rfl zbq (Nat.le_of_ble_eq_true rfl) Y150 (Nat.zero_lt_succ _) trivial (i28.cells) rfl <| zz 4 ?_
 exact X.ag rfl (RV.tmp rfl) (RV.agg 5 rfl rfl zaL (i28.cells) Y22 Y22 rfl) (fun w' hw'=>⟨(none,i28),⟨fun q=>absurd q Y195,fun q=>absurd (hj1.2 (by rw [hq2 q.2.1];exact q.2.2)) Y195⟩,rfl,hw'.s0⟩)
 refine zz 5 ?_
 refine J.ai Y8k 7 rfl rfl zcT (i20.1.cells) rfl rfl rfl <| zz 1 ?_
 refine J.aL zrf rfl rfl (ι:=Option Addr) (fun _=>True) (fun v=>.pointer v) [] (fun _=>[]) (fun w hw=>(held w _ _ _ i20.1 kind hl1).mono fun e w2 ⟨⟨v,h1⟩,h2⟩=>⟨v,trivial,h1,h2⟩) Y182 (fun _ _ _ _=>rfl) fun v36 _=>?_
 refine J.ao rfl rfl (.agg (RjR.mk 0 [] 0 0 none 0).cells.toArray) Y191 <| zz 1 ?_
 refine J.ae 5 rfl rfl rfl rfl ((RjR.mk 0 [] 0 0 none 0).cells) rfl zbq (Nat.le_of_ble_eq_true rfl) Y150 (Nat.zero_lt_succ _) trivial ((RjR.mk 0 [] 0 0 none 0).cells) rfl <| zz 3 ?_
 exact X.ag rfl (RV.tmp rfl) (RV.agg 5 rfl rfl zaL ((RjR.mk 0 [] 0 0 none 0).cells) Y22 Y22 rfl) (fun w' hw'=>⟨(v36,(RjR.mk 0 [] 0 0 none 0)),⟨fun _=>⟨by omega,hq1.1 he0,by rw [← hq2 (hq1.1 he0)];exact hj1.1 (Decidable.not_not.1 Y195)⟩,fun _=>rfl⟩,rfl,hw'.s0⟩)
 refine zz 5 ?_
 refine J.aa zbP rfl rfl <| J.ag Y8k 8 rfl rfl zdd Y3 rfl <| zz 3 ?_
 refine T.aa rfl (fun h5=>?_) (fun h5=>?_)
 refine zz 1 ?_
 refine T.ae [] [(0,.q),(1,.g),(2,.l)] Y12 Y12 ?_ Y0
 refine J.ai Y8k 8 rfl rfl zaL (i20.2.cells) rfl rfl rfl <| zz 1 ?_
 refine J.ae 5 rfl rfl rfl rfl (i20.2.cells) rfl zbq (Nat.le_of_ble_eq_true rfl) Y150 (Nat.zero_lt_succ _) trivial (i20.2.cells) rfl <| zz 4 ?_
 exact X.ag rfl (RV.tmp rfl) (RV.agg 5 rfl rfl zaL (i20.2.cells) Y22 Y22 rfl) (fun w' hw'=>⟨(none,i20.2),⟨fun q=>absurd q Y195,fun q=>absurd (hq1.2 q.2.1) Y195⟩,rfl,hw'.s0⟩)
 exact absurd (Decidable.not_not.1 h5) Y195
 refine zz 11 ?_
 refine J.aw zjl rfl rfl _ _ [(5,⟨some g5,125,zc7⟩)] Y0 rfl (fun _ _=>Sub.nil _) (fun w hw=>CloneC w n ([]++ids [(5,⟨some g5,125,zc7⟩)]) _ _ _ (zaf (l1:=[(5,⟨some g5,125,zc7⟩)]) Y194 hw Y0 rfl) (hA.ws hw (zab _)) Y5) fun i17 W17 hP17 hW17=>?_
 obtain ⟨hq17,hf17⟩:=hP17
 have hVW17:=hW17.s0
 refine zz 6 ?_
 refine J.aw zog rfl rfl _ _ [(5,⟨some g5,125,zc7⟩)] Y0 rfl (fun _ _=>Sub.nil _) (fun w hw=>Ud.Parse w n (Nat.le_trans hn hw.size) ([]++ids [(5,⟨some g5,125,zc7⟩)]) (zaf (l1:=[(5,⟨some g5,125,zc7⟩)]) Y194 hw Y0 rfl) bs hd Y5 (hdOf i17.id) i17.cap hq17 (hf17.keep (zaa (I:=[some g5]) (B0:=[]) (l1:=[(5,⟨some g5,125,zc7⟩)]) hVW17 hn Y189 hw Y4 Y0 rfl)) false) fun i20 W20 hP20 hW20=>?_
 obtain ⟨hq1,hq2,hc20,hr20⟩:=hP20
 have kpW20:=(zaa (I:=[some g5]) (B0:=[]) (l1:=[(5,⟨some g5,125,zc7⟩)]) hVW17 hn Y189 hW20 Y4 Y0 rfl)
 have hf17:=hf17.keep kpW20
 have hVW20:=hW20.s0
 refine zz 3 ?_
 refine J.am 7 rfl zhP zc5 rfl rfl fun g7 hg7=>J.am 8 rfl zdB zc7 rfl rfl fun g8 hg8=>J.ae 7 rfl rfl rfl rfl (i20.1.cells) rfl zlW (Nat.le_of_ble_eq_true rfl) Y150 (Nat.zero_lt_succ _) trivial (i20.1.cells) rfl <| J.ae 8 rfl rfl rfl rfl (i20.2.cells) rfl zbq (Nat.le_of_ble_eq_true rfl) Y150 (Nat.zero_lt_succ _) trivial (i20.2.cells) rfl <| zz 5 ?_
 refine J.aa zbP rfl rfl <| J.ag Y8k 8 rfl rfl zdd Y3 rfl <| zz 3 ?_
 refine T.aa rfl (fun h6=>?_) (fun h6=>?_)
 have he0:=h6
 have hz1:=zgS (hq2 (hq1.1 he0)) (hq1.1 he0)
 obtain ⟨hl1,hl2,hl3⟩:=hz1
 have hN2:∀ p∈i20.1.v.subs,p.length≤bs.length:=fun p hp=>by rw [hq2 (hq1.1 he0)] at hp;have:=zjE (hq1.1 he0) p hp;omega
 refine zz 1 ?_
 refine J.ai Y8k 7 rfl rfl zcT (i20.1.cells) rfl rfl rfl <| zz 1 ?_
 refine J.aw zof rfl rfl _ _ [(5,⟨some g5,125,zc7⟩),(7,⟨some g7,122,(i20.1.cells)⟩),(8,⟨some g8,125,(i20.2.cells)⟩)] Y0 rfl (fun _ _=>Sub.nil _) (fun w hw=>JudgeAll bs.length Y5 w n (Nat.le_trans hn hw.size) ([]++ids [(5,⟨some g5,125,zc7⟩),(7,⟨some g7,122,(i20.1.cells)⟩),(8,⟨some g8,125,(i20.2.cells)⟩)]) (zaf (l1:=[(5,⟨some g5,125,zc7⟩),(7,⟨some g7,122,(i20.1.cells)⟩),(8,⟨some g8,125,(i20.2.cells)⟩)]) Y194 hw Y0 rfl) i20.1 kind (hc20.keep (zaa (I:=[some g5]) (B0:=[]) (l1:=[(5,⟨some g5,125,zc7⟩),(7,⟨some g7,122,(i20.1.cells)⟩),(8,⟨some g8,125,(i20.2.cells)⟩)]) hVW20 hn Y189 hw Y4 Y0 rfl)) hl1 hl2 hl3 hN2) fun i28 W28 hP28 hW28=>?_
 obtain ⟨hj1,hr28⟩:=hP28
 have kpW28:=(zaa (I:=[some g5]) (B0:=[]) (l1:=[(5,⟨some g5,125,zc7⟩),(7,⟨some g7,122,(i20.1.cells)⟩),(8,⟨some g8,125,(i20.2.cells)⟩)]) hVW20 hn Y189 hW28 Y4 Y0 rfl)
 have hf17:=hf17.keep kpW28
 have hc20:=hc20.keep kpW28
 have hr20:=hr20.keep kpW28
 have hVW28:=hW28.s0
 refine J.ae 8 rfl rfl rfl rfl (i28.cells) rfl zbq (Nat.le_of_ble_eq_true rfl) Y150 (Nat.zero_lt_succ _) trivial (i28.cells) rfl <| zz 5 ?_
 refine J.aa zbP rfl rfl <| J.ag Y8k 8 rfl rfl zdd Y3 rfl <| zz 3 ?_
 refine T.aa rfl (fun h7=>?_) (fun h7=>?_)
 refine zz 1 ?_
 refine T.ae [] [(0,.q),(1,.g),(2,.l)] Y12 Y12 ?_ Y0
 refine J.ai Y8k 8 rfl rfl zaL (i28.cells) rfl rfl rfl <| zz 1 ?_
 refine J.ae 5 rfl rfl rfl rfl (i28.cells) rfl zbq (Nat.le_of_ble_eq_true rfl) Y150 (Nat.zero_lt_succ _) trivial (i28.cells) rfl <| zz 4 ?_
 exact X.ag rfl (RV.tmp rfl) (RV.agg 5 rfl rfl zaL (i28.cells) Y22 Y22 rfl) (fun w' hw'=>⟨(none,i28),⟨fun q=>absurd q Y195,fun q=>absurd (hj1.2 (by rw [hq2 q.2.1];exact q.2.2)) Y195⟩,rfl,hw'.s0⟩)
 refine zz 5 ?_
 refine J.ai Y8k 7 rfl rfl zcT (i20.1.cells) rfl rfl rfl <| zz 1 ?_
 refine J.aL zrf rfl rfl (ι:=Option Addr) (fun _=>True) (fun v=>.pointer v) [] (fun _=>[]) (fun w hw=>(held w _ _ _ i20.1 kind hl1).mono fun e w2 ⟨⟨v,h1⟩,h2⟩=>⟨v,trivial,h1,h2⟩) Y182 (fun _ _ _ _=>rfl) fun v36 _=>?_
 refine J.ao rfl rfl (.agg (RjR.mk 0 [] 0 0 none 0).cells.toArray) Y191 <| zz 1 ?_
 refine J.ae 5 rfl rfl rfl rfl ((RjR.mk 0 [] 0 0 none 0).cells) rfl zbq (Nat.le_of_ble_eq_true rfl) Y150 (Nat.zero_lt_succ _) trivial ((RjR.mk 0 [] 0 0 none 0).cells) rfl <| zz 3 ?_
 exact X.ag rfl (RV.tmp rfl) (RV.agg 5 rfl rfl zaL ((RjR.mk 0 [] 0 0 none 0).cells) Y22 Y22 rfl) (fun w' hw'=>⟨(v36,(RjR.mk 0 [] 0 0 none 0)),⟨fun _=>⟨by omega,hq1.1 he0,by rw [← hq2 (hq1.1 he0)];exact hj1.1 (Decidable.not_not.1 Y195)⟩,fun _=>rfl⟩,rfl,hw'.s0⟩)
 refine zz 5 ?_
 refine J.aa zbP rfl rfl <| J.ag Y8k 8 rfl rfl zdd Y3 rfl <| zz 3 ?_
 refine T.aa rfl (fun h8=>?_) (fun h8=>?_)
 refine zz 1 ?_
 refine T.ae [] [(0,.q),(1,.g),(2,.l)] Y12 Y12 ?_ Y0
 refine J.ai Y8k 8 rfl rfl zaL (i20.2.cells) rfl rfl rfl <| zz 1 ?_
 refine J.ae 5 rfl rfl rfl rfl (i20.2.cells) rfl zbq (Nat.le_of_ble_eq_true rfl) Y150 (Nat.zero_lt_succ _) trivial (i20.2.cells) rfl <| zz 4 ?_
 exact X.ag rfl (RV.tmp rfl) (RV.agg 5 rfl rfl zaL (i20.2.cells) Y22 Y22 rfl) (fun w' hw'=>⟨(none,i20.2),⟨fun q=>absurd q Y195,fun q=>absurd (hq1.2 q.2.1) Y195⟩,rfl,hw'.s0⟩)
 exact absurd (Decidable.not_not.1 h8) Y195
theorem look (w:World) (n:Nat) (hn:n≤w.heap.size) (B:List (Option Nat)) (a:Ac) (ha:a.Ok w n B):
    Calls prog 79 [.agg a.cells.toArray].toArray w fun e w'=>∃ v:Option Addr,e=.returned (.tuple #[.pointer v,.int .i64 (lookV a.v)])∧WS w [] [] w':=by
 have hls:=ha.ls
 have hlc:=ha.lc
 refine zac [] 88 [] func79 rfl ntmps79 Y20 (WS.refl _ _) <| zz 2 ?_
 refine J.aE 1 rfl rfl (a.cells) rfl rfl fun g1 hg1=>zz 4 ?_
 refine T.ai (ι:=Unit) (fun (_:Unit)=>¬ (a.nonce=0∧a.bal%2^256=0∧a.code.length=0)) (fun (_:Unit)=>[(0,.agg a.cells.toArray),(1,.pointer (some ⟨g1,0,none⟩)),(2,.pointer none),(3,.int .i64 0)]) (fun (_:Unit)=>[(1,⟨some g1,56,(a.cells)⟩)]) ?_ ?_
 refine zz 2 ?_
 refine J.aa zfF rfl rfl <| J.ag Y8k 1 rfl rfl zfM Y3 rfl <| zz 2 ?_
 refine J.an 12 rfl (fun h1=>?_) (fun h1=>?_)
 refine zz 1 ?_
 refine J.aa zeD rfl rfl <| zz 1 ?_
 refine J.ai Y8k 1 rfl rfl zah (wc a.bal) rfl rfl rfl <| zz 1 ?_
 refine J.aj Y8k zmu rfl rfl (fun w hw=>Wa.IsZero w _) ?_
 refine zz 2 ?_
 refine J.an 17 rfl (fun h2=>?_) (fun h2=>?_)
 refine zz 1 ?_
 refine J.aa zbo rfl rfl <| zz 1 ?_
 refine J.ag Y8k 1 rfl rfl zaw Y3 rfl <| zz 1 ?_
 refine J.al underlying51 rfl rfl <| zz 4 ?_
 refine T.aa rfl (fun h3=>?_) (fun h3=>?_)
 refine zz 8 ?_
 exact X.ag rfl (RV.tmp rfl) (RV.tmp rfl) Y102
 refine zz 1 ?_
 exact X.at () Y5 Y0 Y0
 refine zz 9 ?_
 exact X.at () Y5 Y0 Y0
 refine zz 14 ?_
 exact X.at () Y5 Y0 Y0
 rintro _ hn1
 refine T.ai (ι:=Unit) (fun (_:Unit)=>¬ (a.code.length=0∧0 < a.sl.length)) (fun (_:Unit)=>[(0,.agg a.cells.toArray),(1,.pointer (some ⟨g1,0,none⟩)),(2,.pointer none),(3,.int .i64 0)]) (fun (_:Unit)=>[(1,⟨some g1,56,(a.cells)⟩)]) ?_ ?_
 refine zz 2 ?_
 refine J.aa zbo rfl rfl <| J.ag Y8k 1 rfl rfl zaw Y3 rfl <| J.al underlying51 rfl rfl <| zz 2 ?_
 refine J.an 27 rfl (fun h4=>?_) (fun h4=>?_)
 refine zz 1 ?_
 refine J.aa zaQ rfl rfl <| zz 1 ?_
 refine J.ag Y8k 1 rfl rfl zdA Y3 rfl <| zz 1 ?_
 refine J.al underlying54 rfl rfl <| zz 4 ?_
 refine T.aa rfl (fun h5=>?_) (fun h5=>?_)
 refine zz 8 ?_
 exact X.ag rfl (RV.tmp rfl) (RV.tmp rfl) Y102
 refine zz 1 ?_
 exact X.at () Y5 Y0 Y0
 refine zz 9 ?_
 exact X.at () Y5 Y0 Y0
 rintro _ hn2
 refine zz 3 ?_
 refine J.aa zaQ rfl rfl <| J.ag Y8k 1 rfl rfl zdA Y3 rfl <| J.al underlying54 rfl rfl <| zz 4 ?_
 refine T.ag (ι:=Nat) (fun (i:Nat)=>i≤a.sl.length∧∀ q,q < i→0 < q→(a.sl.getD (q - 1) default).key%2^256 < (a.sl.getD q default).key%2^256) (fun (i:Nat)=>[(0,.agg a.cells.toArray),(1,.pointer (some ⟨g1,0,none⟩)),(34,.slice a.sA a.sl.length a.sC),(35,.int .i64 ((a.sl.length:Nat):Int)),(36,.int .i64 ((i:Nat):Int))]) (fun (i:Nat)=>[(1,⟨some g1,56,(a.cells)⟩)]) (fun (i:Nat)=>a.sl.length - i) 0 ⟨Nat.zero_le _,fun q hq=>absurd hq (Nat.not_lt_zero q)⟩ Y0 Y0 ?_
 rintro i ⟨hi,hrise⟩
 refine zz 6 ?_
 refine T.aa rfl (fun h6=>?_) (fun h6=>?_)
 have hi2:i < a.sl.length:=by omega
 refine zz 11 ?_
 refine T.ae [] [(0,.g),(1,.g),(2,.g),(3,.g),(4,.q),(5,.g),(6,.g),(7,.g),(8,.g),(9,.q),(10,.g),(11,.q),(12,.g),(13,.g),(14,.g),(15,.q),(16,.q),(17,.g),(18,.g)] Y12 Y12 ?_ Y0
 refine zz 3 ?_
 refine J.an 41 rfl (fun h7=>?_) (fun h7=>?_)
 refine zz 1 ?_
 refine J.aa zaQ rfl rfl <| zz 1 ?_
 refine J.ag Y8k 1 rfl rfl zdA Y3 rfl <| zz 2 ?_
 refine J.aI rfl rfl rfl (by exact zbt _ 1 Y5) <| zz 1 ?_
 refine J.ah sl54 rfl (ha.fs.cs.isSome Y185) rfl Y5 Y5 Y8 rfl <| zz 1 ?_
 refine J.ak zcE rfl rfl <| zz 1 ?_
 refine J.aU Y8k (fun w hw=>(ha.fs.keep (zad (B0:=B) (l1:=[]) hn Y189 hw (Sub.nil _) rfl)).cs) rfl zah rfl Y23 (zkV a.sl (i - 1) 0 4 Y5 Y5) rfl <| zz 1 ?_
 refine J.aa zaQ rfl rfl <| zz 1 ?_
 refine J.ag Y8k 1 rfl rfl zdA Y3 rfl <| zz 2 ?_
 refine J.ah sl54 rfl (ha.fs.cs.isSome Y185) rfl Y5 Y5 Y8 rfl <| zz 1 ?_
 refine J.ak zcE rfl rfl <| zz 1 ?_
 refine J.aU Y8k (fun w hw=>(ha.fs.keep (zad (B0:=B) (l1:=[]) hn Y189 hw (Sub.nil _) rfl)).cs) rfl zah rfl Y23 (zkV a.sl i 0 4 Y5 Y5) rfl <| zz 1 ?_
 refine J.aj Y8k ztM rfl rfl (fun w hw=>Wa.Lt w _ _) ?_
 refine J.aF rfl rfl <| J.aA rfl rfl Y18 <| zz 3 ?_
 refine T.aa rfl (fun h8=>?_) (fun h8=>?_)
 have hlt:=h8
 have hlt0:0 < i:=by omega
 refine zz 12 ?_
 exact X.ag rfl (RV.tmp rfl) (RV.tmp rfl) Y102
 refine zz 4 ?_
 refine J.aq rfl rfl rfl Y10 <| zz 2 ?_
 exact X.ae (i+1) ⟨by omega,zao hrise (fun z=>by omega)⟩ Y14 Y0 Y0
 refine zz 23 ?_
 refine J.aq rfl rfl rfl Y10 <| zz 2 ?_
 exact X.ae (i+1) ⟨by omega,zao hrise (fun z=>by omega)⟩ Y14 Y0 Y0
 obtain rfl:i=a.sl.length:=by omega
 refine zz 8 ?_
 refine J.aa zaQ rfl rfl <| J.ag Y8k 1 rfl rfl zdA Y3 rfl <| J.al underlying54 rfl rfl <| zz 4 ?_
 refine T.ag (ι:=Nat) (fun (j:Nat)=>j≤a.sl.length∧∀ q,q < j→(a.sl.getD q default).val%2^256≠0) (fun (j:Nat)=>[(0,.agg a.cells.toArray),(1,.pointer (some ⟨g1,0,none⟩)),(34,.slice a.sA a.sl.length a.sC),(35,.int .i64 ((a.sl.length:Nat):Int)),(60,.slice a.sA a.sl.length a.sC),(61,.int .i64 ((a.sl.length:Nat):Int)),(62,.int .i64 ((j:Nat):Int))]) (fun (j:Nat)=>[(1,⟨some g1,56,(a.cells)⟩)]) (fun (j:Nat)=>a.sl.length - j) 0 ⟨Nat.zero_le _,fun q hq=>absurd hq (Nat.not_lt_zero q)⟩ Y0 Y0 ?_
 rintro j ⟨hj,hfull⟩
 refine zz 6 ?_
 refine T.aa rfl (fun h9=>?_) (fun h9=>?_)
 have hj2:j < a.sl.length:=by omega
 refine zz 6 ?_
 refine J.ah sl54 rfl (ha.fs.cs.isSome Y185) rfl Y5 Y5 Y8 rfl <| J.aU Y8k (fun w hw=>(ha.fs.keep (zad (B0:=B) (l1:=[]) hn Y189 hw (Sub.nil _) rfl)).cs) rfl zoK rfl Y23 (zfP _ _ Y5) rfl <| J.am 6 rfl ztf zc3 rfl rfl fun g6 hg6=>J.ae 6 rfl rfl rfl rfl ((a.sl.getD j default).cells) rfl sz62 (Nat.le_of_ble_eq_true rfl) (by first | exact Ac.cells_one _ | exact RjR.cells_one _ | exact Sl.cells_one _) (Nat.zero_lt_succ _) trivial ((a.sl.getD j default).cells) rfl <| zz 4 ?_
 refine J.aa zeC rfl rfl <| J.ai Y8k 6 rfl rfl zah (wc (a.sl.getD j default).val) rfl rfl rfl <| J.aj Y8k zmu rfl rfl (fun w hw=>Wa.IsZero w _) ?_
 refine zz 2 ?_
 refine T.aa rfl (fun h10=>?_) (fun h10=>?_)
 have hz2:=h10
 refine zz 12 ?_
 exact X.ag rfl (RV.tmp rfl) (RV.tmp rfl) Y102
 refine zz 4 ?_
 refine J.aq rfl rfl rfl Y10 <| zz 2 ?_
 exact X.ae (j+1) ⟨by omega,zao hfull Y195⟩ Y14 Y0 Y0
 obtain rfl:j=a.sl.length:=by omega
 refine zz 8 ?_
 refine J.aa zbo rfl rfl <| J.ag Y8k 1 rfl rfl zaw Y3 rfl <| J.al underlying51 rfl rfl <| zz 3 ?_
 refine T.aa rfl (fun h11=>?_) (fun h11=>?_)
 refine zz 8 ?_
 exact X.ag rfl (RV.tmp rfl) (RV.tmp rfl) Y102
 refine zz 5 ?_
 refine J.aa zbo rfl rfl <| J.ag Y8k 1 rfl rfl zaw Y3 rfl <| J.al underlying51 rfl rfl <| zz 3 ?_
 refine T.aa rfl (fun h12=>?_) (fun h12=>?_)
 refine zz 8 ?_
 exact X.ag rfl (RV.tmp rfl) (RV.tmp rfl) Y102
 refine zz 4 ?_
 refine J.aa zbo rfl rfl <| J.ag Y8k 1 rfl rfl zaw Y3 rfl <| J.aL zuv rfl rfl (ι:=Option Addr×RjR) (fun q=>q.2.code=0↔(1=1∨(1:Int)=2)∧ValidB a.code 1) (fun q=>.tuple #[.pointer q.1,.agg q.2.cells.toArray]) [] (fun _=>[]) (fun w hw=>Validate w n (Nat.le_trans hn hw.size) a.code ha.dC Y5 _ _ (ha.keep (zad (B0:=B) (l1:=[(1,⟨some g1,56,(a.cells)⟩)]) hn Y189 hw Y0 rfl)).fc.cs 1) Y182 (fun _ _ _ _=>rfl) fun q81 hq81=>?_
 refine zz 3 ?_
 refine J.am 8 rfl zdB zc7 rfl rfl fun g8 hg8=>zz 1 ?_
 refine J.ae 8 rfl rfl rfl rfl (q81.2.cells) rfl zbq (Nat.le_of_ble_eq_true rfl) (by first | exact Ac.cells_one _ | exact RjR.cells_one _ | exact Sl.cells_one _) (Nat.zero_lt_succ _) trivial (q81.2.cells) rfl <| zz 5 ?_
 refine J.aa zbP rfl rfl <| J.ag Y8k 8 rfl rfl zdd Y3 rfl <| zz 3 ?_
 refine T.aa rfl (fun h13=>?_) (fun h13=>?_)
 have hbad:=h13
 refine zz 8 ?_
 exact X.ag rfl (RV.tmp rfl) (RV.tmp rfl) Y102
 have hgood:=Decidable.not_not.1 h13
 refine zz 10 ?_
 exact X.ag rfl (RV.tmp rfl) (RV.tmp rfl) Y102
theorem codes (w:World) (n:Nat) (hn:n≤w.heap.size) (B:List (Option Nat)) (A1:Option Addr) (c1:Nat) (xs:List Ac) (hA:Cs w A1 (rowA xs)) (hd:AllA w n B xs) (hl:xs.length≤1000000000):
    Calls prog 62 [.slice A1 xs.length c1].toArray w fun e w'=>∃ v:Value,e=.returned (.tuple #[v,.int .i64 (ckV (xs.map Ac.v)).1,.int .i64 (ckV (xs.map Ac.v)).2])∧WS w [] [] w':=by
 refine zac [] 71 [] func62 rfl ntmps62 Y20 (WS.refl _ _) <| zz 10 ?_
 refine J.al underlying22 rfl rfl <| J.aQ 15 rfl (q:=xs.length) (c0:=xs.length) underlying89 el112 rfl rfl Y192 Y192 (Nat.le_refl _) Y5 Y28 rfl fun g15 hg15=>zz 7 ?_
 refine J.al underlying22 rfl rfl <| zz 4 ?_
 refine T.ag (ι:=Nat×List Value) (fun (i,cs)=>i≤xs.length∧(∀ q,q < i→okW (xs.map Ac.v) q)∧cs.length=xs.length∧∀ u∈cs,u.oneCell'=true) (fun (i,cs)=>[(0,.slice A1 xs.length c1),(13,.slice A1 xs.length c1),(14,.int .i64 ((xs.length:Nat):Int)),(15,.slice (some ⟨g15,0,none⟩) xs.length xs.length),(5,.slice (some ⟨g15,0,none⟩) xs.length xs.length),(16,.slice A1 xs.length c1),(17,.int .i64 ((xs.length:Nat):Int)),(18,.int .i64 ((i:Nat):Int))]) (fun (i,cs)=>[(15,⟨some g15,112,cs⟩)]) (fun (i,cs)=>xs.length - i) ⟨0,(zeros (.pointer none) xs.length)⟩ ⟨Nat.zero_le _,fun q hq=>absurd hq (Nat.not_lt_zero q),zpo _,zpn _⟩ Y0 Y0 ?_
 rintro ⟨i,cs⟩ ⟨hi,hall,hcl,hc1⟩
 try dsimp only at *
 refine zz 6 ?_
 refine T.aa rfl (fun h1=>?_) (fun h1=>?_)
 have hi2:i < xs.length:=by omega
 refine zz 7 ?_
 refine J.ah sl22 rfl (hA.isSome Y184) rfl Y5 Y5 Y8 rfl <| J.ar Y8k hA (zab _) rfl zaK ((xs.getD i default).cells) rfl (zfQ xs i Y5) rfl <| J.am 7 rfl zcG zc1 rfl rfl fun g7 hg7=>zz 1 ?_
 refine J.ae 7 rfl rfl rfl rfl ((xs.getD i default).cells) rfl sz56 (Nat.le_of_ble_eq_true rfl) (by first | exact Ac.cells_one _) (Nat.zero_lt_succ _) trivial ((xs.getD i default).cells) rfl <| zz 4 ?_
 refine T.ae [] [(0,.g),(1,.g),(2,.g),(3,.g),(4,.g),(5,.g),(6,.g),(7,.g),(8,.q),(9,.g),(10,.q),(11,.q),(12,.g),(13,.g)] Y12 Y12 ?_ Y0
 refine zz 3 ?_
 refine J.an 25 rfl (fun h2=>?_) (fun h2=>?_)
 refine zz 3 ?_
 refine J.aI rfl rfl rfl (by exact zbt _ 1 Y5) <| zz 1 ?_
 refine J.ah sl22 rfl (hA.isSome Y184) rfl Y5 Y5 Y8 rfl <| zz 1 ?_
 refine J.ak zaJ rfl rfl <| zz 1 ?_
 refine J.ar Y8k hA (zab _) rfl zcs (ac (xs.getD (i - 1) default).who) rfl (zeS xs (i - 1) 0 20 Y5 Y5) rfl <| zz 1 ?_
 refine J.aa zaJ rfl rfl <| zz 1 ?_
 refine J.ai Y8k 7 rfl rfl zcs (ac (xs.getD i default).who) rfl rfl rfl <| zz 1 ?_
 refine J.aj Y8k fok78 rfl rfl (fun w hw=>Di.byAddress w _ _) ?_
 refine zz 4 ?_
 refine T.aa rfl (fun h3=>?_) (fun h3=>?_)
 have hge:=h3
 have hle:=zoq.1 hge
 refine zz 15 ?_
 exact X.ak rfl (RV.tmp rfl) (RV.tmp rfl) (RV.tmp rfl) Y108
 have hlt:=Nat.lt_of_not_le (fun q=>h3 (zoq.2 q))
 refine zz 11 ?_
 refine J.ai Y8k 7 rfl rfl zaK ((xs.getD i default).cells) rfl rfl rfl <| J.aL ztN rfl rfl (ι:=Option Addr) (fun _=>True) (fun v=>.tuple #[.pointer v,.int .i64 (lookV (xs.getD i default).v)]) [] (fun _=>[]) (fun w hw=>(look w n (Nat.le_trans hn hw.size) _ (xs.getD i default) (hd.keep (zad (B0:=B) (l1:=[(15,⟨some g15,112,cs⟩),(7,⟨some g7,56,((xs.getD i default).cells)⟩)]) hn Y189 hw Y0 rfl) _ (zaE hi2))).mono fun e w2 ⟨v,h1,h2⟩=>⟨v,trivial,h1,h2⟩) Y182 (fun _ _ _ _=>rfl) fun v42 _=>?_
 refine zz 3 ?_
 refine J.aB sl89 rfl rfl Y5 Y5 Y8 rfl <| J.ae 15 rfl rfl rfl rfl [.pointer v42] rfl zrC (by show _+1≤cs.length;omega) Y6 Y11 trivial (put cs i [.pointer v42]) (by rw [Nat.zero_add,Nat.mul_one]) <| zz 9 ?_
 refine T.aa rfl (fun h4=>?_) (fun h4=>?_)
 have hlk:=h4
 refine zz 15 ?_
 exact X.ak rfl (RV.tmp rfl) (RV.tmp rfl) (RV.tmp rfl) Y108
 refine zz 4 ?_
 refine J.aq rfl rfl rfl Y10 <| zz 2 ?_
 exact X.ae ⟨(i+1),(put cs i [.pointer v42])⟩ ⟨by omega,zao hall (zqz hi2 (fun z=>by omega) (Decidable.not_not.1 Y195)),(by rw [zfw _ _ _ (by show _+1≤_;omega)];exact hcl),Y120⟩ Y14 Y0 Y0
 refine zz 25 ?_
 refine J.ai Y8k 7 rfl rfl zaK ((xs.getD i default).cells) rfl rfl rfl <| J.aL ztN rfl rfl (ι:=Option Addr) (fun _=>True) (fun v=>.tuple #[.pointer v,.int .i64 (lookV (xs.getD i default).v)]) [] (fun _=>[]) (fun w hw=>(look w n (Nat.le_trans hn hw.size) _ (xs.getD i default) (hd.keep (zad (B0:=B) (l1:=[(15,⟨some g15,112,cs⟩),(7,⟨some g7,56,((xs.getD i default).cells)⟩)]) hn Y189 hw Y0 rfl) _ (zaE hi2))).mono fun e w2 ⟨v,h1,h2⟩=>⟨v,trivial,h1,h2⟩) Y182 (fun _ _ _ _=>rfl) fun v42 _=>?_
 refine zz 3 ?_
 refine J.aB sl89 rfl rfl Y5 Y5 Y8 rfl <| J.ae 15 rfl rfl rfl rfl [.pointer v42] rfl zrC (by show _+1≤cs.length;omega) Y6 Y11 trivial (put cs i [.pointer v42]) (by rw [Nat.zero_add,Nat.mul_one]) <| zz 9 ?_
 refine T.aa rfl (fun h5=>?_) (fun h5=>?_)
 have hlk:=h5
 refine zz 15 ?_
 exact X.ak rfl (RV.tmp rfl) (RV.tmp rfl) (RV.tmp rfl) Y108
 refine zz 4 ?_
 refine J.aq rfl rfl rfl Y10 <| zz 2 ?_
 exact X.ae ⟨(i+1),(put cs i [.pointer v42])⟩ ⟨by omega,zao hall (zqz hi2 (fun z=>by omega) (Decidable.not_not.1 Y195)),(by rw [zfw _ _ _ (by show _+1≤_;omega)];exact hcl),Y120⟩ Y14 Y0 Y0
 obtain rfl:i=xs.length:=by omega
 refine zz 7 ?_
 refine J.am 9 rfl zbr zc9 rfl rfl fun g9 hg9=>zz 1 ?_
 refine X.ah 9 ⟨some g9,50,wc (balW (xs.map Ac.v) 0)⟩ rfl (by rw [show balW (xs.map Ac.v) 0=0 from rfl];rfl) <| zz 5 ?_
 refine J.al underlying22 rfl rfl <| zz 4 ?_
 refine T.ag (ι:=Nat) (fun (j:Nat)=>j≤xs.length∧∀ q,q < j→balW (xs.map Ac.v) (q+1) < 2^256) (fun (j:Nat)=>[(0,.slice A1 xs.length c1),(13,.slice A1 xs.length c1),(14,.int .i64 ((xs.length:Nat):Int)),(15,.slice (some ⟨g15,0,none⟩) xs.length xs.length),(5,.slice (some ⟨g15,0,none⟩) xs.length xs.length),(16,.slice A1 xs.length c1),(17,.int .i64 ((xs.length:Nat):Int)),(18,.int .i64 ((xs.length:Nat):Int)),(9,.pointer (some ⟨g9,0,none⟩)),(51,.slice A1 xs.length c1),(52,.int .i64 ((xs.length:Nat):Int)),(53,.int .i64 ((j:Nat):Int))]) (fun (j:Nat)=>[(15,⟨some g15,112,cs⟩),(9,⟨some g9,50,wc (balW (xs.map Ac.v) j)⟩)]) (fun (j:Nat)=>xs.length - j) 0 ⟨Nat.zero_le _,fun q hq=>absurd hq (Nat.not_lt_zero q)⟩ Y0 Y0 ?_
 rintro j ⟨hj,hsum⟩
 refine zz 6 ?_
 refine T.aa rfl (fun h6=>?_) (fun h6=>?_)
 have hj2:j < xs.length:=by omega
 refine zz 7 ?_
 refine J.ah sl22 rfl (hA.isSome Y184) rfl Y5 Y5 Y8 rfl <| J.ar Y8k hA (zab _) rfl zaK ((xs.getD j default).cells) rfl (zfQ xs j Y5) rfl <| J.am 11 rfl zcG zc1 rfl rfl fun g11 hg11=>zz 1 ?_
 refine J.ae 11 rfl rfl rfl rfl ((xs.getD j default).cells) rfl sz56 (Nat.le_of_ble_eq_true rfl) (by first | exact Ac.cells_one _) (Nat.zero_lt_succ _) trivial ((xs.getD j default).cells) rfl <| zz 9 ?_
 refine J.ai Y8k 9 rfl rfl zah (wc (balW (xs.map Ac.v) j)) rfl rfl rfl <| J.aa zeD rfl rfl <| J.ai Y8k 11 rfl rfl zah (wc (xs.getD j default).bal) rfl rfl rfl <| J.cZ 62 rfl [(balW (xs.map Ac.v) j),(xs.getD j default).bal] underlying128 el50 (Nat.zero_lt_succ _) rfl Y23 rfl rfl fun g62 hg62=>J.aj Y8k fok80 rfl rfl (fun w hw=>Wa.Sum w _ _ [(balW (xs.map Ac.v) j),(xs.getD j default).bal] (hw.blkCs (k:=62) rfl) Y20) ?_
 refine zz 3 ?_
 refine J.ae 9 rfl rfl rfl rfl (wc (if sumN [(balW (xs.map Ac.v) j),(xs.getD j default).bal] < 2^256 then sumN [(balW (xs.map Ac.v) j),(xs.getD j default).bal] else 0)) rfl sz50 Y7 Y6 Y11 trivial (wc (if sumN [(balW (xs.map Ac.v) j),(xs.getD j default).bal] < 2^256 then sumN [(balW (xs.map Ac.v) j),(xs.getD j default).bal] else 0)) rfl <| zz 6 ?_
 refine J.aA rfl rfl Y18 <| zz 2 ?_
 refine T.aa rfl (fun h7=>?_) (fun h7=>?_)
 have hov:=h7
 rw [zkx hj2 hsum] at hov
 refine zz 14 ?_
 exact X.ak rfl (RV.tmp rfl) (RV.tmp rfl) (RV.tmp rfl) Y108
 have hfit:=Decidable.not_not.1 h7
 rw [zkx hj2 hsum] at hfit
 refine T.ao 9 ⟨some g9,50,wc (balW (xs.map Ac.v) (j+1))⟩ rfl (by rw [zkx hj2 hsum,if_pos hfit]) <| zz 4 ?_
 refine J.aq rfl rfl rfl Y10 <| zz 2 ?_
 exact X.ae (j+1) ⟨by omega,zao hsum hfit⟩ Y14 Y0 Y0
 obtain rfl:j=xs.length:=by omega
 refine zz 14 ?_
 exact X.ak rfl (RV.tmp rfl) (RV.tmp rfl) (RV.tmp rfl) Y108
theorem Check (w:World) (n:Nat) (B:List (Option Nat)) (A1:Option Addr) (c1:Nat) (xs:List Ac) (hA:Cs w A1 (rowA xs)) (hd:AllA w n B xs) (hl:xs.length≤1000000000):
    Calls prog 35 [.slice A1 xs.length c1].toArray w fun e w'=>e=.returned (.tuple #[.int .i64 (ckV (xs.map Ac.v)).1,.int .i64 (ckV (xs.map Ac.v)).2])∧WS w [] [] w':=by
 obtain ⟨w0_,hw0⟩:∃ n,n=w.heap.size:=⟨_,rfl⟩
 have hn0:w0_≤w.heap.size:=Nat.le_of_eq hw0
 have hd0:=zsX hd
 rw [← hw0] at hd0
 refine zac [] 15 [] func35 rfl ntmps35 Y20 (WS.refl _ _) <| zz 9 ?_
 refine J.aL fok62 rfl rfl (ι:=Value) (fun _=>True) (fun v=>.tuple #[v,.int .i64 (ckV (xs.map Ac.v)).1,.int .i64 (ckV (xs.map Ac.v)).2]) [] (fun _=>[]) (fun w hw=>(codes w w0_ (Nat.le_trans hn0 hw.size) [] _ _ xs (hA.ws hw (zab _)) (hd0.keep (zad (B0:=[]) (l1:=[]) hn0 Y189 hw (Sub.nil _) rfl)) hl).mono fun e w2 ⟨v,h1,h2⟩=>⟨v,trivial,h1,h2⟩) Y182 (fun _ _ _ _=>rfl) fun v9 _=>?_
 refine zz 18 ?_
 exact X.ag rfl (RV.tmp rfl) (RV.tmp rfl) (fun w' hw'=>⟨rfl,hw'.s0⟩)
end Go.Proofs.YtlllcafedekojaaGreatDoor.Uk
namespace Go.Fw
open Go Go.ChangeShapes Go.WideShapes Go.ChangeAt Go.RowKit
section
variable {P:Program} {W:World} {H:Type} {enc:TypeId×Value→H} {base:Nat} {sp:Nat→Bool} {held:Bool}
theorem ziH {X:Type} [Inhabited X] {cl:X→List Value} {m:Nat} (hcl:∀ x,(cl x).length=m) (In:X→Prop) {t e:TypeId} (ht:P.underlying t=some (.slice e)) (hm:P.cellsOf e=m) (hm0:0 < m)
    (E:∀ {fuel:Nat} {cs:List Value} {x:DataW H×List MemPlace},DataW.trod enc P W base sp held fuel e cs=some x→Light P e x.1→∃ o,In o∧cs=cl o)
    {fuel:Nat} {cs:List Value} {x:DataW H×List MemPlace} (h:DataW.trod enc P W base sp held fuel t cs=some x) (hL:Light P t x.1):
    ∃ (A:Option Addr) (c:Nat) (os:List X),cs=[.slice A os.length c]∧Cs W A (os.flatMap cl)∧(∀ x∈os,In x)∧os.length≤c∧os.length*P.bytesOf e≤reachBytes:=by
  rcases DataW.trod_slice ht h with ⟨h0,_⟩ | ⟨a,len,cap,elems,rest,n,_,h0,hx,hb,hl,hcp,hlen,hel,_,_⟩
  · exact ⟨none,0,[],h0,Cs.nil _ _,fun i hi=>(by cases hi),Nat.zero_le _,by rw [List.length_nil,Nat.zero_mul];exact Nat.zero_le _⟩
  · rw [hm] at hel
    have hd:x.1=.slice (elems.map (·.1)) (rest.map (·.1)):=congrArg Prod.fst hx
    have each:∀ i,i < len→∃ o:X,In o∧∀ j,j < m→W.cell? (a.add (i*m+j))=(cl o)[j]?:=fun i hi=>by
      have h1:=hel i hi
      have hlt:i < elems.length:=by omega
      rw [List.getElem?_eq_getElem hlt] at h1
      cases hc2:W.cells? base (a.add (i*m)) m with
      | none=>rw [hc2] at h1;cases h1
      | some cs=>
        rw [hc2] at h1
        obtain ⟨o,e1,e2⟩:=E h1 (fun n hn=>hL n (by
          rw [hd]
          simp only [DataW.weights,ht]
          exact List.mem_cons_of_mem _ (List.mem_append_left _ (zkH (i:=i) (d:=elems[i].1) (by rw [List.getElem?_map,List.getElem?_eq_getElem hlt];rfl) n hn))))
        obtain ⟨_,e3⟩:=zlG hc2
        refine ⟨o,e1,fun j hj=>?_⟩
        rw [← Addr.add_add,e3 j hj,e2]
    let f:Nat→X:=fun i=>if h:i < len then (each i h).choose else default
    have hf1:∀ i,i < len→In (f i)∧∀ j,j < m→W.cell? (a.add (i*m+j))=(cl (f i))[j]?:=fun i hi=>by
      have:=(each i hi).choose_spec
      simp only [f,dif_pos hi]
      exact this
    have hget:∀ i,i < len→((List.range len).map f).getD i default=f i:=fun i hi=>by simp [List.getD,hi]
    refine ⟨some a,cap,(List.range len).map f,by rw [h0,List.length_map,List.length_range],fun i x hx=>⟨a,rfl,?_⟩,fun y hy=>?_,by rw [List.length_map,List.length_range];exact hl,?_⟩
    · have hi:i < len*m:=by
        have:=(List.getElem?_eq_some_iff.1 hx).1
        rw [zaF hcl] at this
        simpa using this
      have hq:i / m < len:=Nat.div_lt_of_lt_mul (by rwa [Nat.mul_comm] at hi)
      have hr:=Nat.mod_lt i hm0
      have h2:=(hf1 (i / m) hq).2 (i%m) hr
      have h3:=zcF hcl ((List.range len).map f) (i / m) (i%m) (by simpa using hq) hr
      rw [hget _ hq] at h3
      have e:i / m*m+i%m=i:=by rw [Nat.mul_comm];exact Nat.div_add_mod i m
      rw [e] at h2 h3
      rw [h2,← h3,hx]
    · simp only [List.mem_map,List.mem_range] at hy
      obtain ⟨i,hi,rfl⟩:=hy
      exact (hf1 i hi).1
    · have h6:=hL ((elems.length+rest.length)*P.bytesOf e) (by rw [hd];simp [DataW.weights,ht])
      have h7:=Nat.mul_le_mul_right (P.bytesOf e) (Nat.le_add_right elems.length rest.length)
      rw [List.length_map,List.length_range]
      have h8:elems.length=len:=by omega
      rw [h8] at h7 h6
      exact Nat.le_trans h7 h6
theorem zhp {t:TypeId} {l:List (TypeId×Nat)} {m:Nat} (str:(match P.underlying t with | some (.struct fs)=>fs.toList.map (fun f=>(f.type,f.offset)) | _=>[])=l) (hne:l≠[]) (size:P.cellsOf t=m) {fuel:Nat} {cs:List Value} {x:DataW H×List MemPlace} (h:DataW.trod enc P W base sp held fuel t cs=some x) (hL:Light P t x.1):
    cs.length=m∧∃ q,∀ (i:Nat) (ft off:Nat),l[i]?=some (ft,off)→∃ y,DataW.trod enc P W base sp held q ft ((cs.drop off).take (P.cellsOf ft))=some y∧Light P ft y.1:=by
  cases hu:P.underlying t with
  | none=>rw [hu] at str;exact absurd str.symm hne
  | some dd=>
    cases dd with
    | struct fs=>
      rw [hu] at str
      simp only at str
      obtain ⟨xs,m,_,hx,hl,hxl,hf⟩:=DataW.trod_struct hu h
      rw [size] at hl
      refine ⟨hl,m,fun i ft off hi=>?_⟩
      rw [← str,List.getElem?_map,Option.map_eq_some_iff] at hi
      obtain ⟨f,h1,h2⟩:=hi
      have h3:fs[i]?=some f:=by rw [← Array.getElem?_toList];exact h1
      have h4:=hf i f h3
      simp only [Prod.mk.injEq] at h2
      rw [h2.1,h2.2] at h4
      have hlt:i < xs.length:=by rw [hxl];exact (Array.getElem?_eq_some_iff.1 h3).1
      rw [List.getElem?_eq_getElem hlt] at h4
      refine ⟨_,h4,fun n hn=>hL n ?_⟩
      rw [hx]
      simp only [DataW.weights,hu]
      exact zge (i:=i) (t:=ft) (d:=xs[i].1) (by rw [List.getElem?_map,h1,← h2.1];rfl) (by rw [List.getElem?_map,List.getElem?_eq_getElem hlt];rfl) n hn
    | _=>rw [hu] at str;exact absurd str.symm hne
theorem zjs (cs:List Value) (o k:Nat):cs.drop o=(cs.drop o).take k++cs.drop (o+k):=by
  have:=(List.take_append_drop k (cs.drop o)).symm
  rwa [List.drop_drop] at this
structure SloT (P:Program) (t tw tx:TypeId):Prop where
  str:(match P.underlying t with | some (.struct fs)=>fs.toList.map (fun f=>(f.type,f.offset)) | _=>[])=[(tw,0),(tw,4)]
  size:P.cellsOf t=8
  big:64≤P.bytesOf t
  word:WordT P tw tx
theorem zmN {t tw tx:TypeId} (T:SloT P t tw tx) {fuel:Nat} {cs:List Value} {x:DataW H×List MemPlace} (h:DataW.trod enc P W base sp held fuel t cs=some x) (hL:Light P t x.1):∃ s:Sl,True∧cs=s.cells:=by
  obtain ⟨hl,q,get⟩:=zhp T.str (by simp) T.size h hL
  obtain ⟨y0,h0,_⟩:=get 0 tw 0 rfl
  obtain ⟨y1,h1,_⟩:=get 1 tw 4 rfl
  rw [T.word.four] at h0 h1
  obtain ⟨u,_,e0⟩:=zgg T.word h0
  obtain ⟨v,_,e1⟩:=zgg T.word h1
  refine ⟨⟨u,v⟩,trivial,?_⟩
  show cs=wc u++wc v
  have hend:cs.drop 8=[]:=List.drop_eq_nil_of_le (by omega)
  have j4:=zjs cs 4 4
  rw [hend,List.append_nil] at j4
  rw [← e0,← e1,List.drop_zero,← j4,List.take_append_drop]
structure AcT (P:Program) (t ta tb tn tw tx tc ts te:TypeId):Prop where
  str:(match P.underlying t with | some (.struct fs)=>fs.toList.map (fun f=>(f.type,f.offset)) | _=>[])=[(ta,0),(tn,20),(tw,21),(tc,25),(ts,26)]
  size:P.cellsOf t=27
  big:112≤P.bytesOf t
  arr:P.underlying ta=some (.array 20 tb)
  arr20:P.cellsOf ta=20
  byte:P.underlying tb=some (.int .u8)
  byte1:P.cellsOf tb=1
  byteB:P.bytesOf tb=1
  int:P.underlying tn=some (.int .u64)
  int1:P.cellsOf tn=1
  word:WordT P tw tx
  sl:P.underlying tc=some (.slice tb)
  sl1:P.cellsOf tc=1
  ss:P.underlying ts=some (.slice te)
  ss1:P.cellsOf ts=1
  slot:SloT P te tw tx
theorem zry {t ta tb tn tw tx tc ts te:TypeId} (T:AcT P t ta tb tn tw tx tc ts te) {fuel:Nat} {cs:List Value} {x:DataW H×List MemPlace} (h:DataW.trod enc P W base sp held fuel t cs=some x) (hL:Light P t x.1):∃ a:Ac,a.In W∧cs=a.cells:=by
  obtain ⟨hl,q,get⟩:=zhp T.str (by simp) T.size h hL
  obtain ⟨y0,h0,_⟩:=get 0 ta 0 rfl
  obtain ⟨y1,h1,_⟩:=get 1 tn 20 rfl
  obtain ⟨y2,h2,_⟩:=get 2 tw 21 rfl
  obtain ⟨y3,h3,l3⟩:=get 3 tc 25 rfl
  obtain ⟨y4,h4,l4⟩:=get 4 ts 26 rfl
  rw [T.arr20] at h0
  rw [T.int1] at h1
  rw [T.word.four] at h2
  rw [T.sl1] at h3
  rw [T.ss1] at h4
  obtain ⟨n,_,e0⟩:=zmO T.arr T.arr20 T.byte T.byte1 h0
  obtain ⟨k,e1,_,w1⟩:=DataW.trod_int T.int h1
  obtain ⟨u,_,e2⟩:=zgg T.word h2
  obtain ⟨A3,c3,b3,e3,p3,q3,r3⟩:=zjB T.sl T.byte T.byte1 T.byteB h3 l3
  obtain ⟨A4,c4,s4,e4,p4,_,m4,r4⟩:=ziH Sl.cells_length (fun _=>True) T.ss T.slot.size (by decide) (fun h hL=>zmN T.slot h hL) h4 l4
  have w1:=ziA w1
  have r4:=Nat.le_trans (Nat.mul_le_mul_left _ T.slot.big) r4
  refine ⟨⟨n,k.toNat,u,b3,s4,A3,c3,A4,c4⟩,⟨by show k.toNat < _;omega,q3,r3,by simp only [reachBytes] at r4;show s4.length≤_;omega,m4,p3,p4⟩,?_⟩
  show cs=ac n++([.int .u64 ((k.toNat:Nat):Int)]++(wc u++([.slice A3 b3.length c3]++[.slice A4 s4.length c4])))
  have hend:cs.drop 27=[]:=List.drop_eq_nil_of_le (by omega)
  have j6:=zjs cs 26 1
  rw [hend,List.append_nil] at j6
  rw [Int.toNat_of_nonneg w1.1,← e0,← e1,← e2,← e3,← e4,List.drop_zero,← j6,← zjs cs 25 1,← zjs cs 21 4,← zjs cs 20 1,List.take_append_drop]
theorem zgx {r:Reach} {b0:Nat} {t e ta tb tn tw tx tc ts te:TypeId} (ht:P.underlying t=some (.slice e)) (h1:P.cellsOf t=1) (T:AcT P e ta tb tn tw tx tc ts te) {v:Value} {d:DataW H} {ps:List MemPlace} (hv:Value.okWide P W r b0 t v)
    (h:DataW.Trod enc P W base sp held t v d ps) (hL:Light P t d):∃ (A:Option Addr) (c:Nat) (os:List Ac),v=.slice A os.length c∧Cs W A (rowA os)∧(∀ x∈os,x.In W)∧os.length≤c∧os.length≤2000000000000:=by
  obtain ⟨A,len,cap,rfl⟩:=okWide_slice ht hv
  obtain ⟨fuel,hf⟩:=h
  obtain ⟨A4,c4,s4,e4,p4,q4,m4,r4⟩:=ziH Ac.cells_length (fun a=>a.In W) ht T.size (by decide) (fun h hL=>zry T h hL) hf hL
  have r4:=Nat.le_trans (Nat.mul_le_mul_left _ T.big) r4
  simp only [Value.cells,List.cons.injEq,and_true] at e4
  exact ⟨A4,c4,s4,e4,p4,q4,m4,by simp only [reachBytes] at r4;omega⟩
end
end Go.Fw
namespace Go.Proofs.YtlllcafedekojaaGreatDoor.Ow
open Go Go.ChangeShapes Go.WideShapes Go.ChangeAt Go.RowKit
theorem own:ownKnob Tryz.prog.godebug=none:=by kernel_rfl
theorem laidOut:laidOutB Tryz.prog=true:=by kernel_rfl
abbrev laidL:=Rows.diffTurnsRow.laid
set_option maxRecDepth 100000 in
theorem door_met (os:Os) (args:Array Value):laidMetH Tryz.prog laidL ((World.doorLaid Tryz.prog 400 os).forCall (fun _ _=>0) ⟨#[],args,[]⟩).memory:=
  laidMetH_of_parts3 (fuel:=8) (laidMet_of_run' 8 (by kernel_rfl) (by kernel_rfl)) (by kernel_rfl) (by kernel_rfl)
end Go.Proofs.YtlllcafedekojaaGreatDoor.Ow
