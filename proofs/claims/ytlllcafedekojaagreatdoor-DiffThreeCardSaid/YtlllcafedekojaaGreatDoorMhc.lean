/-
  Texts that the statement stands on, one behind the other: plain lemmas and walks of functions.
  No condition.
-/
import Derived.Test.YtlllcafedekojaaGreatDoorChecked
import Derived.RangeFuncRecord
import Derived.ScopeJumps
import Derived.Recover
import Derived.Test.YtlllcafedekojaaGreatDoorMha
import Derived.Test.YtlllcafedekojaaGreatDoorMhb
set_option linter.unusedVariables false
set_option maxRecDepth 20000
set_option maxHeartbeats 16000000
namespace Go.Fz
open Go Go.Fw Go.Proofs.Tryz
theorem ztP:FnOk prog 64:=FnOk.mk' func64 Y12 rfl
theorem sz96:SizeT prog 96 2:=Y9
theorem zkB:ArrT prog 97 4 96 2:=⟨underlying97,sz96⟩
theorem zkD:AggT prog 96 2:=⟨⟨_,underlying96,rfl⟩,Y12⟩
theorem zgb:ZeroT prog 96 (.agg ([.nilFunc,.nilFunc]).toArray):=Y17
theorem sz93:SizeT prog 93 1:=Y9
theorem zbK:FldT prog 96 0 93 0 0:=⟨Y12,sz93⟩
theorem zfy:OneT prog 93:=⟨⟨_,underlying93,rfl⟩,Y12⟩
theorem zsC:FnOk prog 81:=FnOk.mk' func81 Y12 rfl
theorem zsB:FnOk prog 85:=FnOk.mk' func85 Y12 rfl
theorem zsA:FnOk prog 87:=FnOk.mk' func87 Y12 rfl
theorem fok65:FnOk prog 65:=FnOk.mk' func65 Y12 rfl
end Go.Fz
namespace Go.Proofs.YtlllcafedekojaaGreatDoor.Ej
open Go Go.Fw Go.Fz Go.Proofs.Tryz
attribute [local irreducible] J T X
theorem between (w:World) (n:Nat) (B:List (Option Nat)) (a b:Ac) (zs0:List Ch) (r0:RowIx) (hn:n≤w.heap.size) (hB:∀ g,some g∈B→g < w.heap.size) (hBr:∀ g∈r0.id.toList,some g∈B) (hat:(r0.ent 53 (rowC zs0)).At w) (hr0:r0.Ok 35 zs0.length) (hlz:zs0.length≤500000000) (ha:a.Ok w n B) (hb:b.Ok w n B) (hsa:a.sl.length≤a.sC) (hsb:b.sl.length≤b.sC):
    Calls prog 41 [r0.val zs0.length,.agg a.cells.toArray,.agg b.cells.toArray].toArray w fun e w'=>∃ q:List Ch×RowIx,(q.1.map Ch.v=btA a b∧q.2.Ok 35 (zs0++q.1).length∧AllC w' n (B++[q.2.id]) q.1)∧e=.returned (q.2.val (zs0++q.1).length)∧WS w r0.id.toList [(0,q.2.ent 53 (rowC (zs0++q.1)))] w':=by
 refine zac r0.id.toList 55 [(0,r0.ent 53 (rowC zs0))] func41 rfl ntmps41 Y20 (WS.rowAt hat) <| zz 2 ?_
 refine J.aE 4 rfl rfl (a.cells) rfl rfl fun g4 hg4=>J.aE 5 rfl rfl (b.cells) rfl rfl fun g5 hg5=>zz 6 ?_
 refine J.aj Y8k ztP rfl rfl (fun w hw=>Dk.views w) ?_
 refine zz 4 ?_
 refine T.as 0 (r0.val (zs0++([]:List Ch)).length) rfl (by rw [List.append_nil]) <| T.ao 0 (r0.ent 53 (rowC (zs0++([]:List Ch)))) rfl (by rw [List.append_nil]) <| T.al [(0,r0.ent 53 (rowC (zs0++([]:List Ch)))),(4,⟨some g4,56,(a.cells)⟩),(5,⟨some g5,56,(b.cells)⟩)] Y0 rfl fun Wl1 hWWl1=>?_
 have kpWl1:=(zad (B0:=B) (l1:=[(0,r0.ent 53 (rowC (zs0++([]:List Ch)))),(4,⟨some g4,56,(a.cells)⟩),(5,⟨some g5,56,(b.cells)⟩)]) hn hBr hWWl1 Y0 rfl)
 have ha:=ha.keep kpWl1
 have hb:=hb.keep kpWl1
 have hVWl1:=hWWl1.s0
 refine T.ag (ι:=World×Nat×List Ch×RowIx) (fun (W,i,zs,r)=>i≤4∧zs.map Ch.v=bt a b i∧zs.length≤i∧r.Ok 35 (zs0++zs).length∧WS w r0.id.toList [] W∧a.Ok W n (B++[r.id,some g4,some g5])∧b.Ok W n (B++[r.id,some g4,some g5])∧AllC W n (B++[r.id,some g4,some g5]) zs) (fun (W,i,zs,r)=>[(1,.agg a.cells.toArray),(2,.agg b.cells.toArray),(4,.pointer (some ⟨g4,0,none⟩)),(5,.pointer (some ⟨g5,0,none⟩)),(6,.slice none 0 0),(10,.agg (zc2:List Value).toArray),(11,.int .i64 ((i:Nat):Int)),(0,r.val (zs0++zs).length)]) (fun (W,i,zs,r)=>((0,r.ent 53 (rowC (zs0++zs)))::(4,⟨some g4,56,a.cells⟩)::(5,⟨some g5,56,b.cells⟩)::snapL W w.heap.size [r.id,some g4,some g5])) (fun (W,i,zs,r)=>4 - i) ⟨Wl1,0,[],r0⟩ ⟨Nat.zero_le _,rfl,Nat.le_refl _,by rw [List.append_nil];exact hr0,hVWl1,ha,hb,AllC.nil⟩ Y0 Y0 ?_
 rintro ⟨W,i,zs,r⟩ ⟨hi,hm,hzl,hr,hV,ha,hb,hz⟩
 try dsimp only at *
 refine zz 6 ?_
 refine T.aa rfl (fun h2=>?_) (fun h2=>?_)
 rcases (show i=0∨i=1∨i=2∨i=3 from by omega) with rfl | rfl | rfl | rfl
 refine zz 7 ?_
 refine J.aW zkB zkD rfl rfl Y23 Y23 rfl rfl rfl <| J.am 8 rfl zgb [.nilFunc,.nilFunc] rfl rfl fun g8 hg8=>zz 1 ?_
 refine J.ae 8 rfl rfl rfl rfl ([.nilFunc,.nilFunc]:List Value) rfl sz96 Y7 Y6 Y11 trivial ([.nilFunc,.nilFunc]:List Value) rfl <| zz 5 ?_
 refine J.aa zbK rfl rfl <| J.ag Y8k 8 rfl rfl zfy Y3 rfl <| J.cO underlying93 rfl rfl rfl <| zz 8 ?_
 refine J.aq rfl rfl rfl Y10 <| J.as 46 (.int .i64 ((1:Nat):Int)) rfl Y22 <| zz 2 ?_
 refine X.aj [(0,r.ent 53 (rowC (zs0++zs))),(4,⟨some g4,56,a.cells⟩),(5,⟨some g5,56,b.cells⟩)] Y0 rfl fun Wx3 hWWx3=>?_
 have kpWx3:=(zaa (I:=[r.id,some g4,some g5]) (B0:=B) (l1:=[(0,r.ent 53 (rowC (zs0++zs))),(4,⟨some g4,56,a.cells⟩),(5,⟨some g5,56,b.cells⟩)]) hV hn hBr hWWx3 Y4 Y0 rfl)
 have ha:=ha.keep kpWx3
 have hb:=hb.keep kpWx3
 have hz:=hz.keep kpWx3
 have hVWx3:=hWWx3.s0
 exact X.ae ⟨Wx3,1,zs,r⟩ ⟨by dsimp only;omega,hm.trans (bt_0 a b).symm,by dsimp only;omega,hr,hVWx3,ha,hb,hz⟩ Y14 Y0 Y0
 refine zz 7 ?_
 refine J.aW zkB zkD rfl rfl Y23 Y23 rfl rfl rfl <| J.am 8 rfl zgb [.nilFunc,.nilFunc] rfl rfl fun g8 hg8=>zz 1 ?_
 refine J.ae 8 rfl rfl rfl rfl ([.func (.func 81) #[] #[],.func (.func 83) #[] #[]]:List Value) rfl sz96 Y7 Y6 Y11 trivial ([.func (.func 81) #[] #[],.func (.func 83) #[] #[]]:List Value) rfl <| zz 5 ?_
 refine J.aa zbK rfl rfl <| J.ag Y8k 8 rfl rfl zfy Y3 rfl <| J.bI underlying93 rfl rfl rfl <| zz 7 ?_
 refine J.aa zaJ rfl rfl <| J.ai Y8k 4 rfl rfl zcs (ac a.who) rfl rfl rfl <| zz 1 ?_
 refine J.ao rfl rfl (.agg (Ch.mk a.who 1 0 0 0 [] [] none 0 none 0).cells.toArray) Y191 <| J.am 9 rfl zdu zc0 rfl rfl fun g9 hg9=>J.ae 9 rfl rfl rfl rfl ((Ch.mk a.who 1 0 0 0 [] [] none 0 none 0).cells) rfl sz53 (Nat.le_of_ble_eq_true rfl) Y24 (Nat.zero_lt_succ _) trivial ((Ch.mk a.who 1 0 0 0 [] [] none 0 none 0).cells) rfl <| zz 4 ?_
 refine J.aa zbK rfl rfl <| J.ag Y8k 8 rfl rfl zfy Y3 rfl <| J.aH zsC rfl rfl rfl (fun w hw=>Dk.getN w _ a ha.hn (hw.blkCs (k:=4) rfl)) ?_
 refine zz 3 ?_
 refine J.aa zaW rfl rfl <| J.ae 9 rfl rfl rfl rfl (wc a.nonce) rfl sz50 Y7 Y6 Y11 trivial _ rfl <| J.aa zbe rfl rfl <| J.ae 9 rfl rfl rfl rfl [_] rfl sz51 Y7 Y6 Y11 trivial _ rfl <| zz 4 ?_
 refine J.aa zbK rfl rfl <| J.ag Y8k 8 rfl rfl zfy Y3 rfl <| J.aH zsC rfl rfl rfl (fun w hw=>Dk.getN w _ b hb.hn (hw.blkCs (k:=5) rfl)) ?_
 refine zz 3 ?_
 refine J.aa zaB rfl rfl <| J.ae 9 rfl rfl rfl rfl (wc b.nonce) rfl sz50 Y7 Y6 Y11 trivial _ rfl <| J.aa zaV rfl rfl <| J.ae 9 rfl rfl rfl rfl [_] rfl sz51 Y7 Y6 Y11 trivial _ rfl <| zz 1 ?_
 refine X.ah 9 ⟨some g9,53,(kC a b 1).cells⟩ rfl Y22 <| zz 3 ?_
 refine J.ai Y8k 9 rfl rfl zaz (kC a b 1).cells rfl rfl rfl <| J.aj Y8k zcp rfl rfl (fun w hw=>Da.idle w (kC a b 1) (zeB (ha.keep (zaa (I:=[r.id,some g4,some g5]) (B0:=B) (l1:=[]) hV hn hBr hw Y4 (Sub.nil _) rfl)) (hb.keep (zaa (I:=[r.id,some g4,some g5]) (B0:=B) (l1:=[]) hV hn hBr hw Y4 (Sub.nil _) rfl)) 1).fo.cs (zeB (ha.keep (zaa (I:=[r.id,some g4,some g5]) (B0:=B) (l1:=[]) hV hn hBr hw Y4 (Sub.nil _) rfl)) (hb.keep (zaa (I:=[r.id,some g4,some g5]) (B0:=B) (l1:=[]) hV hn hBr hw Y4 (Sub.nil _) rfl)) 1).fn.cs (zeB ha hb 1).dO (zeB ha hb 1).dN) ?_
 refine J.aA rfl rfl Y18 <| zz 2 ?_
 refine T.aa rfl (fun h4=>?_) (fun h4=>?_)
 have hid:=h4
 refine zz 2 ?_
 refine J.ai Y8k 9 rfl rfl zaz (kC a b 1).cells rfl rfl rfl <| J.aw zin rfl rfl _ _ [(0,r.ent 53 (rowC (zs0++zs))),(4,⟨some g4,56,a.cells⟩),(5,⟨some g5,56,b.cells⟩),(8,⟨some g8,96,([.func (.func 81) #[] #[],.func (.func 83) #[] #[]]:List Value)⟩),(9,⟨some g9,53,(kC a b 1).cells⟩)] Y0 rfl (fun _ _=>Sub.nil _) (fun w hw=>Da.own w n (B++ids [(0,r.ent 53 (rowC (zs0++zs))),(4,⟨some g4,56,a.cells⟩),(5,⟨some g5,56,b.cells⟩),(8,⟨some g8,96,([.func (.func 81) #[] #[],.func (.func 83) #[] #[]]:List Value)⟩),(9,⟨some g9,53,(kC a b 1).cells⟩)]) (kC a b 1) (zaf (l1:=[(0,r.ent 53 (rowC (zs0++zs))),(4,⟨some g4,56,a.cells⟩),(5,⟨some g5,56,b.cells⟩),(8,⟨some g8,96,([.func (.func 81) #[] #[],.func (.func 83) #[] #[]]:List Value)⟩),(9,⟨some g9,53,(kC a b 1).cells⟩)]) hB hw Y0 rfl) ((zeB ha hb 1).keep (zaa (I:=[r.id,some g4,some g5]) (B0:=B) (l1:=[(0,r.ent 53 (rowC (zs0++zs))),(4,⟨some g4,56,a.cells⟩),(5,⟨some g5,56,b.cells⟩),(8,⟨some g8,96,([.func (.func 81) #[] #[],.func (.func 83) #[] #[]]:List Value)⟩),(9,⟨some g9,53,(kC a b 1).cells⟩)]) hV hn hBr hw Y4 Y0 rfl))) fun i43 W43 hP43 hW43=>?_
 obtain ⟨hv43,hc43⟩:=hP43
 have kpW43:=(zaa (I:=[r.id,some g4,some g5]) (B0:=B) (l1:=[(0,r.ent 53 (rowC (zs0++zs))),(4,⟨some g4,56,a.cells⟩),(5,⟨some g5,56,b.cells⟩),(8,⟨some g8,96,([.func (.func 81) #[] #[],.func (.func 83) #[] #[]]:List Value)⟩),(9,⟨some g9,53,(kC a b 1).cells⟩)]) hV hn hBr hW43 Y4 Y0 rfl)
 have ha:=ha.keep kpW43
 have hb:=hb.keep kpW43
 have hz:=hz.keep kpW43
 have hVW43:=hW43.s0
 refine J.aD 44 rfl underlying25 el53 Y23 rfl (i43.cells) rfl rfl rfl fun g44 hg44=>J.ay 0 rfl underlying25 el53 rfl hr (zaq _) rfl rfl rfl (fun w hw=>(hw.blkCs (k:=44) rfl)) (Ch.cells_one _) Y169 Y161 rfl (zs0++zs++[i43]).length (zbX _ _) (rowC (zs0++(zs++[i43]))) Y152 fun r45 hr45=>J.as 45 (r45.val (zs0++(zs++[i43])).length) rfl Y177 <| zz 5 ?_
 refine J.aq rfl rfl rfl Y10 <| J.as 46 (.int .i64 ((2:Nat):Int)) rfl Y22 <| zz 2 ?_
 refine X.aj [(0,r45.ent 53 (rowC (zs0++(zs++[i43])))),(4,⟨some g4,56,a.cells⟩),(5,⟨some g5,56,b.cells⟩)] Y0 rfl fun Wx5 hWWx5=>?_
 have kpWx5:=(zaa (I:=[r.id,some g4,some g5,some g8,some g9]) (B0:=B) (l1:=[(0,r45.ent 53 (rowC (zs0++(zs++[i43])))),(4,⟨some g4,56,a.cells⟩),(5,⟨some g5,56,b.cells⟩)]) hVW43 hn hBr hWWx5 Y4 Y0 rfl)
 have ha:=ha.keep kpWx5
 have hb:=hb.keep kpWx5
 have hz:=hz.keep kpWx5
 have hc43:=hc43.keep kpWx5
 have hVWx5:=hWWx5.s0
 exact X.ae ⟨Wx5,2,(zs++[i43]),r45⟩ ⟨by dsimp only;omega,by rw [zgl,hv43,hm];exact (zou hid).symm,by dsimp only;rw [List.length_append,List.length_singleton];omega,(by rw [← List.append_assoc];exact hr45),hVWx5,ha,hb,hz.snoc hc43⟩ Y14 Y0 Y0
 have hid:=Decidable.not_not.1 h4
 refine zz 4 ?_
 refine J.aq rfl rfl rfl Y10 <| J.as 46 (.int .i64 ((2:Nat):Int)) rfl Y22 <| zz 2 ?_
 refine X.aj [(0,r.ent 53 (rowC (zs0++zs))),(4,⟨some g4,56,a.cells⟩),(5,⟨some g5,56,b.cells⟩)] Y0 rfl fun Wx6 hWWx6=>?_
 have kpWx6:=(zaa (I:=[r.id,some g4,some g5]) (B0:=B) (l1:=[(0,r.ent 53 (rowC (zs0++zs))),(4,⟨some g4,56,a.cells⟩),(5,⟨some g5,56,b.cells⟩)]) hV hn hBr hWWx6 Y4 Y0 rfl)
 have ha:=ha.keep kpWx6
 have hb:=hb.keep kpWx6
 have hz:=hz.keep kpWx6
 have hVWx6:=hWWx6.s0
 exact X.ae ⟨Wx6,2,zs,r⟩ ⟨by dsimp only;omega,hm.trans (zqh hid).symm,by dsimp only;omega,hr,hVWx6,ha,hb,hz⟩ Y14 Y0 Y0
 refine zz 7 ?_
 refine J.aW zkB zkD rfl rfl Y23 Y23 rfl rfl rfl <| J.am 8 rfl zgb [.nilFunc,.nilFunc] rfl rfl fun g8 hg8=>zz 1 ?_
 refine J.ae 8 rfl rfl rfl rfl ([.func (.func 85) #[] #[],.func (.func 86) #[] #[]]:List Value) rfl sz96 Y7 Y6 Y11 trivial ([.func (.func 85) #[] #[],.func (.func 86) #[] #[]]:List Value) rfl <| zz 5 ?_
 refine J.aa zbK rfl rfl <| J.ag Y8k 8 rfl rfl zfy Y3 rfl <| J.bI underlying93 rfl rfl rfl <| zz 7 ?_
 refine J.aa zaJ rfl rfl <| J.ai Y8k 4 rfl rfl zcs (ac a.who) rfl rfl rfl <| zz 1 ?_
 refine J.ao rfl rfl (.agg (Ch.mk a.who 2 0 0 0 [] [] none 0 none 0).cells.toArray) Y191 <| J.am 9 rfl zdu zc0 rfl rfl fun g9 hg9=>J.ae 9 rfl rfl rfl rfl ((Ch.mk a.who 2 0 0 0 [] [] none 0 none 0).cells) rfl sz53 (Nat.le_of_ble_eq_true rfl) Y24 (Nat.zero_lt_succ _) trivial ((Ch.mk a.who 2 0 0 0 [] [] none 0 none 0).cells) rfl <| zz 4 ?_
 refine J.aa zbK rfl rfl <| J.ag Y8k 8 rfl rfl zfy Y3 rfl <| J.aH zsB rfl rfl rfl (fun w hw=>Dk.getB w _ a ha.hn (hw.blkCs (k:=4) rfl)) ?_
 refine zz 3 ?_
 refine J.aa zaW rfl rfl <| J.ae 9 rfl rfl rfl rfl (wc a.bal) rfl sz50 Y7 Y6 Y11 trivial _ rfl <| J.aa zbe rfl rfl <| J.ae 9 rfl rfl rfl rfl [_] rfl sz51 Y7 Y6 Y11 trivial _ rfl <| zz 4 ?_
 refine J.aa zbK rfl rfl <| J.ag Y8k 8 rfl rfl zfy Y3 rfl <| J.aH zsB rfl rfl rfl (fun w hw=>Dk.getB w _ b hb.hn (hw.blkCs (k:=5) rfl)) ?_
 refine zz 3 ?_
 refine J.aa zaB rfl rfl <| J.ae 9 rfl rfl rfl rfl (wc b.bal) rfl sz50 Y7 Y6 Y11 trivial _ rfl <| J.aa zaV rfl rfl <| J.ae 9 rfl rfl rfl rfl [_] rfl sz51 Y7 Y6 Y11 trivial _ rfl <| zz 1 ?_
 refine X.ah 9 ⟨some g9,53,(kC a b 2).cells⟩ rfl Y22 <| zz 3 ?_
 refine J.ai Y8k 9 rfl rfl zaz (kC a b 2).cells rfl rfl rfl <| J.aj Y8k zcp rfl rfl (fun w hw=>Da.idle w (kC a b 2) (zeB (ha.keep (zaa (I:=[r.id,some g4,some g5]) (B0:=B) (l1:=[]) hV hn hBr hw Y4 (Sub.nil _) rfl)) (hb.keep (zaa (I:=[r.id,some g4,some g5]) (B0:=B) (l1:=[]) hV hn hBr hw Y4 (Sub.nil _) rfl)) 2).fo.cs (zeB (ha.keep (zaa (I:=[r.id,some g4,some g5]) (B0:=B) (l1:=[]) hV hn hBr hw Y4 (Sub.nil _) rfl)) (hb.keep (zaa (I:=[r.id,some g4,some g5]) (B0:=B) (l1:=[]) hV hn hBr hw Y4 (Sub.nil _) rfl)) 2).fn.cs (zeB ha hb 2).dO (zeB ha hb 2).dN) ?_
 refine J.aA rfl rfl Y18 <| zz 2 ?_
 refine T.aa rfl (fun h7=>?_) (fun h7=>?_)
 have hid:=h7
 refine zz 2 ?_
 refine J.ai Y8k 9 rfl rfl zaz (kC a b 2).cells rfl rfl rfl <| J.aw zin rfl rfl _ _ [(0,r.ent 53 (rowC (zs0++zs))),(4,⟨some g4,56,a.cells⟩),(5,⟨some g5,56,b.cells⟩),(8,⟨some g8,96,([.func (.func 85) #[] #[],.func (.func 86) #[] #[]]:List Value)⟩),(9,⟨some g9,53,(kC a b 2).cells⟩)] Y0 rfl (fun _ _=>Sub.nil _) (fun w hw=>Da.own w n (B++ids [(0,r.ent 53 (rowC (zs0++zs))),(4,⟨some g4,56,a.cells⟩),(5,⟨some g5,56,b.cells⟩),(8,⟨some g8,96,([.func (.func 85) #[] #[],.func (.func 86) #[] #[]]:List Value)⟩),(9,⟨some g9,53,(kC a b 2).cells⟩)]) (kC a b 2) (zaf (l1:=[(0,r.ent 53 (rowC (zs0++zs))),(4,⟨some g4,56,a.cells⟩),(5,⟨some g5,56,b.cells⟩),(8,⟨some g8,96,([.func (.func 85) #[] #[],.func (.func 86) #[] #[]]:List Value)⟩),(9,⟨some g9,53,(kC a b 2).cells⟩)]) hB hw Y0 rfl) ((zeB ha hb 2).keep (zaa (I:=[r.id,some g4,some g5]) (B0:=B) (l1:=[(0,r.ent 53 (rowC (zs0++zs))),(4,⟨some g4,56,a.cells⟩),(5,⟨some g5,56,b.cells⟩),(8,⟨some g8,96,([.func (.func 85) #[] #[],.func (.func 86) #[] #[]]:List Value)⟩),(9,⟨some g9,53,(kC a b 2).cells⟩)]) hV hn hBr hw Y4 Y0 rfl))) fun i43 W43 hP43 hW43=>?_
 obtain ⟨hv43,hc43⟩:=hP43
 have kpW43:=(zaa (I:=[r.id,some g4,some g5]) (B0:=B) (l1:=[(0,r.ent 53 (rowC (zs0++zs))),(4,⟨some g4,56,a.cells⟩),(5,⟨some g5,56,b.cells⟩),(8,⟨some g8,96,([.func (.func 85) #[] #[],.func (.func 86) #[] #[]]:List Value)⟩),(9,⟨some g9,53,(kC a b 2).cells⟩)]) hV hn hBr hW43 Y4 Y0 rfl)
 have ha:=ha.keep kpW43
 have hb:=hb.keep kpW43
 have hz:=hz.keep kpW43
 have hVW43:=hW43.s0
 refine J.aD 44 rfl underlying25 el53 Y23 rfl (i43.cells) rfl rfl rfl fun g44 hg44=>J.ay 0 rfl underlying25 el53 rfl hr (zaq _) rfl rfl rfl (fun w hw=>(hw.blkCs (k:=44) rfl)) (Ch.cells_one _) Y169 Y161 rfl (zs0++zs++[i43]).length (zbX _ _) (rowC (zs0++(zs++[i43]))) Y152 fun r45 hr45=>J.as 45 (r45.val (zs0++(zs++[i43])).length) rfl Y177 <| zz 5 ?_
 refine J.aq rfl rfl rfl Y10 <| J.as 46 (.int .i64 ((3:Nat):Int)) rfl Y22 <| zz 2 ?_
 refine X.aj [(0,r45.ent 53 (rowC (zs0++(zs++[i43])))),(4,⟨some g4,56,a.cells⟩),(5,⟨some g5,56,b.cells⟩)] Y0 rfl fun Wx8 hWWx8=>?_
 have kpWx8:=(zaa (I:=[r.id,some g4,some g5,some g8,some g9]) (B0:=B) (l1:=[(0,r45.ent 53 (rowC (zs0++(zs++[i43])))),(4,⟨some g4,56,a.cells⟩),(5,⟨some g5,56,b.cells⟩)]) hVW43 hn hBr hWWx8 Y4 Y0 rfl)
 have ha:=ha.keep kpWx8
 have hb:=hb.keep kpWx8
 have hz:=hz.keep kpWx8
 have hc43:=hc43.keep kpWx8
 have hVWx8:=hWWx8.s0
 exact X.ae ⟨Wx8,3,(zs++[i43]),r45⟩ ⟨by dsimp only;omega,by rw [zgl,hv43,hm];exact (zou hid).symm,by dsimp only;rw [List.length_append,List.length_singleton];omega,(by rw [← List.append_assoc];exact hr45),hVWx8,ha,hb,hz.snoc hc43⟩ Y14 Y0 Y0
 have hid:=Decidable.not_not.1 h7
 refine zz 4 ?_
 refine J.aq rfl rfl rfl Y10 <| J.as 46 (.int .i64 ((3:Nat):Int)) rfl Y22 <| zz 2 ?_
 refine X.aj [(0,r.ent 53 (rowC (zs0++zs))),(4,⟨some g4,56,a.cells⟩),(5,⟨some g5,56,b.cells⟩)] Y0 rfl fun Wx9 hWWx9=>?_
 have kpWx9:=(zaa (I:=[r.id,some g4,some g5]) (B0:=B) (l1:=[(0,r.ent 53 (rowC (zs0++zs))),(4,⟨some g4,56,a.cells⟩),(5,⟨some g5,56,b.cells⟩)]) hV hn hBr hWWx9 Y4 Y0 rfl)
 have ha:=ha.keep kpWx9
 have hb:=hb.keep kpWx9
 have hz:=hz.keep kpWx9
 have hVWx9:=hWWx9.s0
 exact X.ae ⟨Wx9,3,zs,r⟩ ⟨by dsimp only;omega,hm.trans (zqh hid).symm,by dsimp only;omega,hr,hVWx9,ha,hb,hz⟩ Y14 Y0 Y0
 refine zz 7 ?_
 refine J.aW zkB zkD rfl rfl Y23 Y23 rfl rfl rfl <| J.am 8 rfl zgb [.nilFunc,.nilFunc] rfl rfl fun g8 hg8=>zz 1 ?_
 refine J.ae 8 rfl rfl rfl rfl ([.func (.func 87) #[] #[],.func (.func 88) #[] #[]]:List Value) rfl sz96 Y7 Y6 Y11 trivial ([.func (.func 87) #[] #[],.func (.func 88) #[] #[]]:List Value) rfl <| zz 5 ?_
 refine J.aa zbK rfl rfl <| J.ag Y8k 8 rfl rfl zfy Y3 rfl <| J.bI underlying93 rfl rfl rfl <| zz 7 ?_
 refine J.aa zaJ rfl rfl <| J.ai Y8k 4 rfl rfl zcs (ac a.who) rfl rfl rfl <| zz 1 ?_
 refine J.ao rfl rfl (.agg (Ch.mk a.who 3 0 0 0 [] [] none 0 none 0).cells.toArray) Y191 <| J.am 9 rfl zdu zc0 rfl rfl fun g9 hg9=>J.ae 9 rfl rfl rfl rfl ((Ch.mk a.who 3 0 0 0 [] [] none 0 none 0).cells) rfl sz53 (Nat.le_of_ble_eq_true rfl) Y24 (Nat.zero_lt_succ _) trivial ((Ch.mk a.who 3 0 0 0 [] [] none 0 none 0).cells) rfl <| zz 4 ?_
 refine J.aa zbK rfl rfl <| J.ag Y8k 8 rfl rfl zfy Y3 rfl <| J.aH zsA rfl rfl rfl (fun w hw=>Dk.getC w _ a ha.hn (hw.blkCs (k:=4) rfl)) ?_
 refine zz 3 ?_
 refine J.aa zaW rfl rfl <| J.ae 9 rfl rfl rfl rfl (wc 0) rfl sz50 Y7 Y6 Y11 trivial _ rfl <| J.aa zbe rfl rfl <| J.ae 9 rfl rfl rfl rfl [_] rfl sz51 Y7 Y6 Y11 trivial _ rfl <| zz 4 ?_
 refine J.aa zbK rfl rfl <| J.ag Y8k 8 rfl rfl zfy Y3 rfl <| J.aH zsA rfl rfl rfl (fun w hw=>Dk.getC w _ b hb.hn (hw.blkCs (k:=5) rfl)) ?_
 refine zz 3 ?_
 refine J.aa zaB rfl rfl <| J.ae 9 rfl rfl rfl rfl (wc 0) rfl sz50 Y7 Y6 Y11 trivial _ rfl <| J.aa zaV rfl rfl <| J.ae 9 rfl rfl rfl rfl [_] rfl sz51 Y7 Y6 Y11 trivial _ rfl <| zz 1 ?_
 refine X.ah 9 ⟨some g9,53,(kC a b 3).cells⟩ rfl Y22 <| zz 3 ?_
 refine J.ai Y8k 9 rfl rfl zaz (kC a b 3).cells rfl rfl rfl <| J.aj Y8k zcp rfl rfl (fun w hw=>Da.idle w (kC a b 3) (zeB (ha.keep (zaa (I:=[r.id,some g4,some g5]) (B0:=B) (l1:=[]) hV hn hBr hw Y4 (Sub.nil _) rfl)) (hb.keep (zaa (I:=[r.id,some g4,some g5]) (B0:=B) (l1:=[]) hV hn hBr hw Y4 (Sub.nil _) rfl)) 3).fo.cs (zeB (ha.keep (zaa (I:=[r.id,some g4,some g5]) (B0:=B) (l1:=[]) hV hn hBr hw Y4 (Sub.nil _) rfl)) (hb.keep (zaa (I:=[r.id,some g4,some g5]) (B0:=B) (l1:=[]) hV hn hBr hw Y4 (Sub.nil _) rfl)) 3).fn.cs (zeB ha hb 3).dO (zeB ha hb 3).dN) ?_
 refine J.aA rfl rfl Y18 <| zz 2 ?_
 refine T.aa rfl (fun h10=>?_) (fun h10=>?_)
 have hid:=h10
 refine zz 2 ?_
 refine J.ai Y8k 9 rfl rfl zaz (kC a b 3).cells rfl rfl rfl <| J.aw zin rfl rfl _ _ [(0,r.ent 53 (rowC (zs0++zs))),(4,⟨some g4,56,a.cells⟩),(5,⟨some g5,56,b.cells⟩),(8,⟨some g8,96,([.func (.func 87) #[] #[],.func (.func 88) #[] #[]]:List Value)⟩),(9,⟨some g9,53,(kC a b 3).cells⟩)] Y0 rfl (fun _ _=>Sub.nil _) (fun w hw=>Da.own w n (B++ids [(0,r.ent 53 (rowC (zs0++zs))),(4,⟨some g4,56,a.cells⟩),(5,⟨some g5,56,b.cells⟩),(8,⟨some g8,96,([.func (.func 87) #[] #[],.func (.func 88) #[] #[]]:List Value)⟩),(9,⟨some g9,53,(kC a b 3).cells⟩)]) (kC a b 3) (zaf (l1:=[(0,r.ent 53 (rowC (zs0++zs))),(4,⟨some g4,56,a.cells⟩),(5,⟨some g5,56,b.cells⟩),(8,⟨some g8,96,([.func (.func 87) #[] #[],.func (.func 88) #[] #[]]:List Value)⟩),(9,⟨some g9,53,(kC a b 3).cells⟩)]) hB hw Y0 rfl) ((zeB ha hb 3).keep (zaa (I:=[r.id,some g4,some g5]) (B0:=B) (l1:=[(0,r.ent 53 (rowC (zs0++zs))),(4,⟨some g4,56,a.cells⟩),(5,⟨some g5,56,b.cells⟩),(8,⟨some g8,96,([.func (.func 87) #[] #[],.func (.func 88) #[] #[]]:List Value)⟩),(9,⟨some g9,53,(kC a b 3).cells⟩)]) hV hn hBr hw Y4 Y0 rfl))) fun i43 W43 hP43 hW43=>?_
 obtain ⟨hv43,hc43⟩:=hP43
 have kpW43:=(zaa (I:=[r.id,some g4,some g5]) (B0:=B) (l1:=[(0,r.ent 53 (rowC (zs0++zs))),(4,⟨some g4,56,a.cells⟩),(5,⟨some g5,56,b.cells⟩),(8,⟨some g8,96,([.func (.func 87) #[] #[],.func (.func 88) #[] #[]]:List Value)⟩),(9,⟨some g9,53,(kC a b 3).cells⟩)]) hV hn hBr hW43 Y4 Y0 rfl)
 have ha:=ha.keep kpW43
 have hb:=hb.keep kpW43
 have hz:=hz.keep kpW43
 have hVW43:=hW43.s0
 refine J.aD 44 rfl underlying25 el53 Y23 rfl (i43.cells) rfl rfl rfl fun g44 hg44=>J.ay 0 rfl underlying25 el53 rfl hr (zaq _) rfl rfl rfl (fun w hw=>(hw.blkCs (k:=44) rfl)) (Ch.cells_one _) Y169 Y161 rfl (zs0++zs++[i43]).length (zbX _ _) (rowC (zs0++(zs++[i43]))) Y152 fun r45 hr45=>J.as 45 (r45.val (zs0++(zs++[i43])).length) rfl Y177 <| zz 5 ?_
 refine J.aq rfl rfl rfl Y10 <| J.as 46 (.int .i64 ((4:Nat):Int)) rfl Y22 <| zz 2 ?_
 refine X.aj [(0,r45.ent 53 (rowC (zs0++(zs++[i43])))),(4,⟨some g4,56,a.cells⟩),(5,⟨some g5,56,b.cells⟩)] Y0 rfl fun Wx11 hWWx11=>?_
 have kpWx11:=(zaa (I:=[r.id,some g4,some g5,some g8,some g9]) (B0:=B) (l1:=[(0,r45.ent 53 (rowC (zs0++(zs++[i43])))),(4,⟨some g4,56,a.cells⟩),(5,⟨some g5,56,b.cells⟩)]) hVW43 hn hBr hWWx11 Y4 Y0 rfl)
 have ha:=ha.keep kpWx11
 have hb:=hb.keep kpWx11
 have hz:=hz.keep kpWx11
 have hc43:=hc43.keep kpWx11
 have hVWx11:=hWWx11.s0
 exact X.ae ⟨Wx11,4,(zs++[i43]),r45⟩ ⟨by dsimp only;omega,by rw [zgl,hv43,hm];exact (zou hid).symm,by dsimp only;rw [List.length_append,List.length_singleton];omega,(by rw [← List.append_assoc];exact hr45),hVWx11,ha,hb,hz.snoc hc43⟩ Y14 Y0 Y0
 have hid:=Decidable.not_not.1 h10
 refine zz 4 ?_
 refine J.aq rfl rfl rfl Y10 <| J.as 46 (.int .i64 ((4:Nat):Int)) rfl Y22 <| zz 2 ?_
 refine X.aj [(0,r.ent 53 (rowC (zs0++zs))),(4,⟨some g4,56,a.cells⟩),(5,⟨some g5,56,b.cells⟩)] Y0 rfl fun Wx12 hWWx12=>?_
 have kpWx12:=(zaa (I:=[r.id,some g4,some g5]) (B0:=B) (l1:=[(0,r.ent 53 (rowC (zs0++zs))),(4,⟨some g4,56,a.cells⟩),(5,⟨some g5,56,b.cells⟩)]) hV hn hBr hWWx12 Y4 Y0 rfl)
 have ha:=ha.keep kpWx12
 have hb:=hb.keep kpWx12
 have hz:=hz.keep kpWx12
 have hVWx12:=hWWx12.s0
 exact X.ae ⟨Wx12,4,zs,r⟩ ⟨by dsimp only;omega,hm.trans (zqh hid).symm,by dsimp only;omega,hr,hVWx12,ha,hb,hz⟩ Y14 Y0 Y0
 obtain rfl:i=4:=by omega
 refine zz 8 ?_
 refine J.aa zaJ rfl rfl <| J.ai Y8k 4 rfl rfl zcs (ac a.who) rfl rfl rfl <| J.aa zaQ rfl rfl <| J.ag Y8k 4 rfl rfl zdA Y3 rfl <| J.aa zaQ rfl rfl <| J.ag Y8k 5 rfl rfl zdA Y3 rfl <| J.bX 0 rfl rfl fok65 rfl rfl (ι:=List Ch×RowIx) (fun q=>q.1.map Ch.v=slL (a.who%256^20) (a.sl.map Sl.v) (b.sl.map Sl.v)∧q.2.Ok 35 (zs0++zs++q.1).length∧Bare q.1) (fun q=>q.2.val (zs0++zs++q.1).length) (fun q=>q.2.ent 53 (rowC (zs0++zs++q.1))) (fun w hw=>Ei.slots w (zs0++zs) r a.who _ _ _ _ a.sl b.sl (hw.live 0 _ rfl) hr (ha.keep (zaa (I:=[r.id,some g4,some g5]) (B0:=B) (l1:=[]) hV hn hBr hw Y4 (Sub.nil _) rfl)).fs.cs hsa (fun h=>zkm ha.fs (znk h) zgD) (hb.keep (zaa (I:=[r.id,some g4,some g5]) (B0:=B) (l1:=[]) hV hn hBr hw Y4 (Sub.nil _) rfl)).fs.cs hsb (fun h=>zkm hb.fs (znk h) zgD) Y169 ha.ls hb.ls) fun q54 hq54=>?_
 obtain ⟨q1,q2,q3⟩:=hq54
 refine zz 4 ?_
 exact X.aa rfl (RV.tmp rfl) (fun w' hw'=>⟨(zs++q54.1,q54.2),⟨by rw [List.map_append,hm,q1];rfl,by rw [← List.append_assoc];exact q2,(hz.keep ((zaa (I:=[r.id,some g4,some g5]) (B0:=B) (l1:=[(0,q54.2.ent 53 (rowC (zs0++zs++q54.1)))]) hV hn hBr hw' Y4 Y0 rfl))).app (q3 _ _ _)⟩,by rw [← List.append_assoc],by have h0:=hw'.only 0 0 rfl;rw [List.append_assoc] at h0;exact h0⟩)
end Go.Proofs.YtlllcafedekojaaGreatDoor.Ej
namespace Go.Fz
open Go Go.Fw Go.Proofs.Tryz
theorem zkj:FnOk prog 35:=FnOk.mk' func35 Y12 rfl
theorem zoa:FnOk prog 41:=FnOk.mk' func41 Y12 rfl
end Go.Fz
namespace Go.Proofs.YtlllcafedekojaaGreatDoor.Ek
open Go Go.Fw Go.Fz Go.Proofs.Tryz
attribute [local irreducible] J T X
theorem Of {ck:List AV→Int×Int} (hck:CkOk prog 35 ck) (w:World) (n:Nat) (B:List (Option Nat)) (A1 A2:Option Addr) (c1 c2:Nat) (ps bs:List Ac) (hn:n≤w.heap.size) (hB:∀ g,some g∈B→g < w.heap.size) (hA1:Cs w A1 (rowA ps)) (hb1:ps.length≤c1) (hd1:AllA w n B ps) (hp1:(∀ a∈ps,a.sl.length≤a.sC)) (hA3:Cs w A2 (rowA bs)) (hb2:bs.length≤c2) (hd2:AllA w n B bs) (hp2:(∀ a∈bs,a.sl.length≤a.sC)) (hl1:ps.length≤1000000000) (hl2:bs.length≤1000000000) (hof:(ofL (ps.map Ac.v) (bs.map Ac.v)).length≤500000000):
    Calls prog 17 [.slice A1 ps.length c1,.slice A2 bs.length c2].toArray w fun e w'=>∃ q:List Ch×RowIx,(q.1.map Ch.v=(ofZ ck (ps.map Ac.v) (bs.map Ac.v)).1∧q.2.Ok 35 q.1.length∧Fit w' n B (hdOf q.2.id) (rowC q.1)∧AllC w' n B q.1)∧e=.returned (.tuple #[q.2.val q.1.length,.int .i64 (ofZ ck (ps.map Ac.v) (bs.map Ac.v)).2])∧WS w [] [] w':=by
 refine zac [] 80 [] func17 rfl ntmps17 Y20 (WS.refl _ _) <| zz 10 ?_
 refine J.aj Y8k zkj rfl rfl (fun w hw=>hck w n _ _ _ ps (hA1.ws hw (zab _)) (hd1.keep (zad (B0:=B) (l1:=[]) hn Y189 hw (Sub.nil _) rfl)) Y5) ?_
 refine zz 13 ?_
 refine T.aa rfl (fun h1=>?_) (fun h1=>?_)
 have hne1:=h1
 refine zz 9 ?_
 exact X.ag rfl (RV.tmp rfl) (RV.tmp rfl) Y101
 have hk1:=Decidable.not_not.1 h1
 refine zz 6 ?_
 refine J.aj Y8k zkj rfl rfl (fun w hw=>hck w n _ _ _ bs (hA3.ws hw (zab _)) (hd2.keep (zad (B0:=B) (l1:=[]) hn Y189 hw (Sub.nil _) rfl)) Y5) ?_
 refine zz 13 ?_
 refine T.aa rfl (fun h2=>?_) (fun h2=>?_)
 have hne2:=h2
 refine zz 9 ?_
 exact X.ag rfl (RV.tmp rfl) (RV.tmp rfl) Y101
 have hk2:=Decidable.not_not.1 h2
 refine zz 9 ?_
 refine T.aj 10 53 <| T.al [(10,⟨none,53,[]⟩)] Y0 rfl fun Wl3 hWWl3=>?_
 have kpWl3:=(zad (B0:=B) (l1:=[(10,⟨none,53,[]⟩)]) hn Y189 hWWl3 Y0 rfl)
 have hd1:=hd1.keep kpWl3
 have hd2:=hd2.keep kpWl3
 have hVWl3:=hWWl3.s0
 refine T.ag (ι:=World×Option Addr×Nat×List Ac×Option Addr×Nat×List Ac×List Ch×RowIx) (fun (W,Aa,ca,xs,Ab,cb,ys,zs,r)=>Cs w Aa (rowA xs)∧xs.length≤ca∧AllA W n (B++[r.id]) xs∧(∀ a∈xs,a.sl.length≤a.sC)∧Cs w Ab (rowA ys)∧ys.length≤cb∧AllA W n (B++[r.id]) ys∧(∀ a∈ys,a.sl.length≤a.sC)∧ofL (ps.map Ac.v) (bs.map Ac.v)=zs.map Ch.v++ofL (xs.map Ac.v) (ys.map Ac.v)∧r.Ok 35 zs.length∧WS w [] [] W∧AllC W n (B++[r.id]) zs) (fun (W,Aa,ca,xs,Ab,cb,ys,zs,r)=>[(4,.slice none 0 0),(5,.int .i64 0),(0,.slice Aa xs.length ca),(1,.slice Ab ys.length cb),(10,r.val zs.length)]) (fun (W,Aa,ca,xs,Ab,cb,ys,zs,r)=>((10,r.ent 53 (rowC zs))::snapL W w.heap.size [r.id])) (fun (W,Aa,ca,xs,Ab,cb,ys,zs,r)=>xs.length+ys.length) ⟨Wl3,A1,c1,ps,A2,c2,bs,[],RowIx.nil⟩ ⟨hA1,hb1,hd1,hp1,hA3,hb2,hd2,hp2,rfl,RowIx.nil_ok 35,hVWl3,AllC.nil⟩ Y0 Y0 ?_
 rintro ⟨W,Aa,ca,xs,Ab,cb,ys,zs,r⟩ ⟨hA,hca,hdx,hpx,hA2,hcb,hdy,hpy,hj,hr,hV,hz⟩
 try dsimp only at *
 have hzl:zs.length≤500000000:=Nat.le_trans (ztd hj) hof
 refine zz 4 ?_
 refine J.al underlying22 rfl rfl <| zz 2 ?_
 refine J.an 33 rfl (fun h4=>?_) (fun h4=>?_)
 obtain ⟨x,xs2,rfl⟩:=List.exists_cons_of_length_pos (l:=xs) Y5
 refine zz 20 ?_
 refine J.al underlying22 rfl rfl <| J.aT rfl rfl rfl (decide_eq_false Y13) <| zz 7 ?_
 refine J.al underlying22 rfl rfl <| zz 4 ?_
 refine T.aa rfl (fun h5=>?_) (fun h5=>?_)
 obtain rfl:ys=[]:=List.length_eq_zero_iff.1 Y5
 refine zz 7 ?_
 refine J.am 12 rfl zcG zc1 rfl rfl fun g12 hg12=>J.am 13 rfl zcG zc1 rfl rfl fun g13 hg13=>zz 6 ?_
 refine J.bB rfl rfl rfl (decide_eq_true Y13) <| zz 4 ?_
 refine T.ae [] [(0,.g),(1,.g),(2,.q),(3,.g),(4,.g),(5,.l),(6,.g)] Y12 Y12 ?_ Y0
 refine zz 1 ?_
 refine J.ah sl22 rfl (hA.isSome Y158) rfl Y5 Y5 Y22 rfl <| J.ar Y8k hA (zab _) rfl zaK (x.cells) rfl (zcN _ _) rfl <| zz 1 ?_
 refine J.ax sl22 rfl (optInt.some rfl Y5 Y22) optInt.none optInt.none Y20 Y5 Y136 (Nat.le_refl _) rfl rfl <| J.ae 12 rfl rfl rfl rfl (x.cells) rfl sz56 (Nat.le_of_ble_eq_true rfl) Y24 (Nat.zero_lt_succ _) trivial (x.cells) rfl <| zz 4 ?_
 refine J.aa zaJ rfl rfl <| J.ai Y8k 12 rfl rfl zcs (ac x.who) rfl rfl rfl <| J.aa zaJ rfl rfl <| J.ae 13 rfl rfl rfl rfl (ac x.who) rfl sz47 Y7 Y6 Y11 trivial ((Ac.bare x.who).cells) Y12 <| zz 6 ?_
 refine J.br rfl rfl rfl (decide_eq_false Y13) <| zz 7 ?_
 refine J.ai Y8k 12 rfl rfl zaK (x.cells) rfl rfl rfl <| J.ai Y8k 13 rfl rfl zaK ((Ac.bare x.who).cells) rfl rfl rfl <| J.aZ zoa rfl rfl _ _ r.id.toList (fun i=>[(10,RowIx.ent (Prod.snd i) 53 (rowC (zs++Prod.fst i)))]) (fun i=>[(10,RowIx.ent (Prod.snd i) 53 (rowC (zs++Prod.fst i))),(12,⟨some g12,56,(x.cells)⟩),(13,⟨some g13,56,((Ac.bare x.who).cells)⟩)]) (fun i=>Y0) (fun _=>rfl) (fun _ _ _=>Sub.nil _) (fun i g hg=>⟨10,_,_,rfl,by first | (rw [List.mem_singleton.1 hg];done) | (simpa [RowIx.ent] using hg),rfl⟩) (fun w hw=>(Ej.between w n (B++ids [(10,r.ent 53 (rowC zs)),(12,⟨some g12,56,(x.cells)⟩),(13,⟨some g13,56,((Ac.bare x.who).cells)⟩)]) x (Ac.bare x.who) zs r (Nat.le_trans hn hw.size) (zaf (l1:=[(10,r.ent 53 (rowC zs)),(12,⟨some g12,56,(x.cells)⟩),(13,⟨some g13,56,((Ac.bare x.who).cells)⟩)]) hB hw Y0 rfl) zgD (hw.live 10 _ rfl) hr hzl (hdx.head.keep (zaa (I:=[r.id]) (B0:=B) (l1:=[(10,r.ent 53 (rowC zs)),(12,⟨some g12,56,(x.cells)⟩),(13,⟨some g13,56,((Ac.bare x.who).cells)⟩)]) hV hn Y189 hw Y4 Y0 rfl)) (zgY _) (hpx x List.mem_cons_self) (Nat.le_refl 0)).mono fun e w2 ⟨q,h1,h2,h3⟩=>⟨q,h1,h2,h3.only 0 10 rfl⟩) fun i78 W78 hP78 hW78=>?_
 obtain ⟨hv78,hr78,hc78⟩:=hP78
 have kpW78:=(zaa (I:=[r.id]) (B0:=B) (l1:=[(10,RowIx.ent (Prod.snd i78) 53 (rowC (zs++Prod.fst i78))),(12,⟨some g12,56,(x.cells)⟩),(13,⟨some g13,56,((Ac.bare x.who).cells)⟩)]) hV hn Y189 hW78 Y4 Y0 rfl)
 have hdx:=hdx.keep kpW78
 have hdy:=hdy.keep kpW78
 have hz:=hz.keep kpW78
 have hVW78:=hW78.s0
 replace hc78:AllC W78 n (B++[i78.2.id,some g12,some g13]) i78.1:=hc78.keep (Keep.less zdN)
 have hbt:i78.1.map Ch.v=btV x.v (.bare x.v.who):=hv78.trans ((zov (a:=x) (b:=(Ac.bare x.who)) hdx.head.hn Y165).trans (by rw [Ac.bare_v];rfl))
 have hstep:=of_a (a:=x.v) (xa:=xs2.map Ac.v) (xb:=([]:List Ac).map Ac.v) (.inl rfl)
 refine zz 3 ?_
 refine X.aj [(10,RowIx.ent (Prod.snd i78) 53 (rowC (zs++Prod.fst i78)))] Y0 rfl fun Wx6 hWWx6=>?_
 have kpWx6:=(zaa (I:=[(Prod.snd i78).id,some g12,some g13]) (B0:=B) (l1:=[(10,RowIx.ent (Prod.snd i78) 53 (rowC (zs++Prod.fst i78)))]) hVW78 hn Y189 hWWx6 Y4 Y0 rfl)
 have hdx:=hdx.keep kpWx6
 have hdy:=hdy.keep kpWx6
 have hz:=hz.keep kpWx6
 have hc78:=hc78.keep kpWx6
 have hVWx6:=hWWx6.s0
 exact X.ae ⟨Wx6,(if ca=1 then Aa else Aa.map (·.add (1*27))),(ca - 1),xs2,Ab,cb,([]:List Ac),(zs++i78.1),i78.2⟩ ⟨(zcm hA hca),(zaj hca),hdx.tail,(fun c hc=>hpx c (List.mem_cons_of_mem _ hc)),hA2,hcb,hdy,hpy,zgB hj hstep hbt,hr78,hVWx6,hz.app hc78⟩ Y175 Y0 Y0
 obtain ⟨y,ys2,rfl⟩:=List.exists_cons_of_length_pos (l:=ys) Y5
 refine T.ae [] [(0,.g),(1,.g),(2,.g),(3,.g),(4,.g),(5,.g),(6,.g),(7,.g),(8,.q),(9,.g)] Y12 Y12 ?_ Y0
 refine zz 1 ?_
 refine J.ah sl22 rfl (hA.isSome Y158) rfl Y5 Y5 Y22 rfl <| J.ak zaJ rfl rfl <| J.bf zgZ Y23 rfl rfl <| zz 1 ?_
 refine J.ah sl22 rfl (hA2.isSome Y158) rfl Y5 Y5 Y22 rfl <| J.ak zaJ rfl rfl <| J.bf zgZ Y23 rfl rfl <| J.aj Y8k zpO rfl rfl (fun w hw=>Da.Compare w _ _ _ _ (adL x.who) (adL y.who) (zni (hA.ws hw (zab _))) (zni (hA2.ws hw (zab _))) (zdz _) (zdz _)) ?_
 refine J.as 46 (.int .i64 (cmpZ (x.who%256^20) (y.who%256^20))) rfl (by rw [zlD]) <| zz 6 ?_
 refine J.am 12 rfl zcG zc1 rfl rfl fun g12 hg12=>J.am 13 rfl zcG zc1 rfl rfl fun g13 hg13=>zz 9 ?_
 refine T.aa rfl (fun h7=>?_) (fun h7=>?_)
 refine zz 1 ?_
 refine T.ae [] [(0,.g),(1,.g),(2,.q),(3,.g),(4,.g),(5,.l),(6,.g)] Y12 Y12 ?_ Y0
 refine zz 1 ?_
 refine J.ah sl22 rfl (hA.isSome Y158) rfl Y5 Y5 Y22 rfl <| J.ar Y8k hA (zab _) rfl zaK (x.cells) rfl (zcN _ _) rfl <| zz 1 ?_
 refine J.ax sl22 rfl (optInt.some rfl Y5 Y22) optInt.none optInt.none Y20 Y5 Y136 (Nat.le_refl _) rfl rfl <| J.ae 12 rfl rfl rfl rfl (x.cells) rfl sz56 (Nat.le_of_ble_eq_true rfl) Y24 (Nat.zero_lt_succ _) trivial (x.cells) rfl <| zz 4 ?_
 refine J.aa zaJ rfl rfl <| J.ai Y8k 12 rfl rfl zcs (ac x.who) rfl rfl rfl <| J.aa zaJ rfl rfl <| J.ae 13 rfl rfl rfl rfl (ac x.who) rfl sz47 Y7 Y6 Y11 trivial ((Ac.bare x.who).cells) Y12 <| zz 9 ?_
 refine T.aa rfl (fun h8=>?_) (fun h8=>?_)
 refine zz 1 ?_
 refine T.ae [] [(0,.g),(1,.g),(2,.q),(3,.g),(4,.g),(5,.l),(6,.g)] Y12 Y12 ?_ Y0
 refine zz 1 ?_
 refine J.ah sl22 rfl (hA2.isSome Y158) rfl Y5 Y5 Y22 rfl <| J.ar Y8k hA2 (zab _) rfl zaK (y.cells) rfl (zcN _ _) rfl <| zz 1 ?_
 refine J.ax sl22 rfl (optInt.some rfl Y5 Y22) optInt.none optInt.none Y20 Y5 Y137 (Nat.le_refl _) rfl rfl <| J.ae 13 rfl rfl rfl rfl (y.cells) rfl sz56 (Nat.le_of_ble_eq_true rfl) Y24 (Nat.zero_lt_succ _) trivial (y.cells) rfl <| zz 4 ?_
 refine J.aa zaJ rfl rfl <| J.ai Y8k 13 rfl rfl zcs (ac y.who) rfl rfl rfl <| J.aa zaJ rfl rfl <| J.ae 12 rfl rfl rfl rfl (ac y.who) rfl sz47 Y7 Y6 Y11 trivial ((x.at y.who).cells) rfl <| zz 4 ?_
 refine J.ai Y8k 12 rfl rfl zaK ((x.at y.who).cells) rfl rfl rfl <| J.ai Y8k 13 rfl rfl zaK (y.cells) rfl rfl rfl ?_
 have hwe:x.who%256^20=y.who%256^20:=zgT.1 Y5
 refine J.aZ zoa rfl rfl _ _ r.id.toList (fun i=>[(10,RowIx.ent (Prod.snd i) 53 (rowC (zs++Prod.fst i)))]) (fun i=>[(10,RowIx.ent (Prod.snd i) 53 (rowC (zs++Prod.fst i))),(12,⟨some g12,56,((x.at y.who).cells)⟩),(13,⟨some g13,56,(y.cells)⟩)]) (fun i=>Y0) (fun _=>rfl) (fun _ _ _=>Sub.nil _) (fun i g hg=>⟨10,_,_,rfl,by first | (rw [List.mem_singleton.1 hg];done) | (simpa [RowIx.ent] using hg),rfl⟩) (fun w hw=>(Ej.between w n (B++ids [(10,r.ent 53 (rowC zs)),(12,⟨some g12,56,((x.at y.who).cells)⟩),(13,⟨some g13,56,(y.cells)⟩)]) (x.at y.who) y zs r (Nat.le_trans hn hw.size) (zaf (l1:=[(10,r.ent 53 (rowC zs)),(12,⟨some g12,56,((x.at y.who).cells)⟩),(13,⟨some g13,56,(y.cells)⟩)]) hB hw Y0 rfl) zgD (hw.live 10 _ rfl) hr hzl (Ac.at_ok _ (hdx.head.keep (zaa (I:=[r.id]) (B0:=B) (l1:=[(10,r.ent 53 (rowC zs)),(12,⟨some g12,56,((x.at y.who).cells)⟩),(13,⟨some g13,56,(y.cells)⟩)]) hV hn Y189 hw Y4 Y0 rfl))) (hdy.head.keep (zaa (I:=[r.id]) (B0:=B) (l1:=[(10,r.ent 53 (rowC zs)),(12,⟨some g12,56,((x.at y.who).cells)⟩),(13,⟨some g13,56,(y.cells)⟩)]) hV hn Y189 hw Y4 Y0 rfl)) (hpx x List.mem_cons_self) (hpy y List.mem_cons_self)).mono fun e w2 ⟨q,h1,h2,h3⟩=>⟨q,h1,h2,h3.only 0 10 rfl⟩) fun i78 W78 hP78 hW78=>?_
 obtain ⟨hv78,hr78,hc78⟩:=hP78
 have kpW78:=(zaa (I:=[r.id]) (B0:=B) (l1:=[(10,RowIx.ent (Prod.snd i78) 53 (rowC (zs++Prod.fst i78))),(12,⟨some g12,56,((x.at y.who).cells)⟩),(13,⟨some g13,56,(y.cells)⟩)]) hV hn Y189 hW78 Y4 Y0 rfl)
 have hdx:=hdx.keep kpW78
 have hdy:=hdy.keep kpW78
 have hz:=hz.keep kpW78
 have hVW78:=hW78.s0
 replace hc78:AllC W78 n (B++[i78.2.id,some g12,some g13]) i78.1:=hc78.keep (Keep.less zdN)
 have hbt:i78.1.map Ch.v=btV x.v y.v:=hv78.trans ((zov (a:=(x.at y.who)) (b:=y) hdx.head.hn hdy.head.hn).trans (by rw [Ac.at_v hwe]))
 have hstep:=zja (a:=x.v) (b:=y.v) (xa:=xs2.map Ac.v) (xb:=ys2.map Ac.v) hwe
 refine zz 3 ?_
 refine X.aj [(10,RowIx.ent (Prod.snd i78) 53 (rowC (zs++Prod.fst i78)))] Y0 rfl fun Wx9 hWWx9=>?_
 have kpWx9:=(zaa (I:=[(Prod.snd i78).id,some g12,some g13]) (B0:=B) (l1:=[(10,RowIx.ent (Prod.snd i78) 53 (rowC (zs++Prod.fst i78)))]) hVW78 hn Y189 hWWx9 Y4 Y0 rfl)
 have hdx:=hdx.keep kpWx9
 have hdy:=hdy.keep kpWx9
 have hz:=hz.keep kpWx9
 have hc78:=hc78.keep kpWx9
 have hVWx9:=hWWx9.s0
 exact X.ae ⟨Wx9,(if ca=1 then Aa else Aa.map (·.add (1*27))),(ca - 1),xs2,(if cb=1 then Ab else Ab.map (·.add (1*27))),(cb - 1),ys2,(zs++i78.1),i78.2⟩ ⟨(zcm hA hca),(zaj hca),hdx.tail,(fun c hc=>hpx c (List.mem_cons_of_mem _ hc)),(zcm hA2 hcb),(zaj hcb),hdy.tail,(fun c hc=>hpy c (List.mem_cons_of_mem _ hc)),zgB hj hstep hbt,hr78,hVWx9,hz.app hc78⟩ Y175 Y0 Y0
 refine zz 4 ?_
 refine J.ai Y8k 12 rfl rfl zaK (x.cells) rfl rfl rfl <| J.ai Y8k 13 rfl rfl zaK ((Ac.bare x.who).cells) rfl rfl rfl <| J.aZ zoa rfl rfl _ _ r.id.toList (fun i=>[(10,RowIx.ent (Prod.snd i) 53 (rowC (zs++Prod.fst i)))]) (fun i=>[(10,RowIx.ent (Prod.snd i) 53 (rowC (zs++Prod.fst i))),(12,⟨some g12,56,(x.cells)⟩),(13,⟨some g13,56,((Ac.bare x.who).cells)⟩)]) (fun i=>Y0) (fun _=>rfl) (fun _ _ _=>Sub.nil _) (fun i g hg=>⟨10,_,_,rfl,by first | (rw [List.mem_singleton.1 hg];done) | (simpa [RowIx.ent] using hg),rfl⟩) (fun w hw=>(Ej.between w n (B++ids [(10,r.ent 53 (rowC zs)),(12,⟨some g12,56,(x.cells)⟩),(13,⟨some g13,56,((Ac.bare x.who).cells)⟩)]) x (Ac.bare x.who) zs r (Nat.le_trans hn hw.size) (zaf (l1:=[(10,r.ent 53 (rowC zs)),(12,⟨some g12,56,(x.cells)⟩),(13,⟨some g13,56,((Ac.bare x.who).cells)⟩)]) hB hw Y0 rfl) zgD (hw.live 10 _ rfl) hr hzl (hdx.head.keep (zaa (I:=[r.id]) (B0:=B) (l1:=[(10,r.ent 53 (rowC zs)),(12,⟨some g12,56,(x.cells)⟩),(13,⟨some g13,56,((Ac.bare x.who).cells)⟩)]) hV hn Y189 hw Y4 Y0 rfl)) (zgY _) (hpx x List.mem_cons_self) (Nat.le_refl 0)).mono fun e w2 ⟨q,h1,h2,h3⟩=>⟨q,h1,h2,h3.only 0 10 rfl⟩) fun i78 W78 hP78 hW78=>?_
 obtain ⟨hv78,hr78,hc78⟩:=hP78
 have kpW78:=(zaa (I:=[r.id]) (B0:=B) (l1:=[(10,RowIx.ent (Prod.snd i78) 53 (rowC (zs++Prod.fst i78))),(12,⟨some g12,56,(x.cells)⟩),(13,⟨some g13,56,((Ac.bare x.who).cells)⟩)]) hV hn Y189 hW78 Y4 Y0 rfl)
 have hdx:=hdx.keep kpW78
 have hdy:=hdy.keep kpW78
 have hz:=hz.keep kpW78
 have hVW78:=hW78.s0
 replace hc78:AllC W78 n (B++[i78.2.id,some g12,some g13]) i78.1:=hc78.keep (Keep.less zdN)
 have hbt:i78.1.map Ch.v=btV x.v (.bare x.v.who):=hv78.trans ((zov (a:=x) (b:=(Ac.bare x.who)) hdx.head.hn Y165).trans (by rw [Ac.bare_v];rfl))
 have hstep:=of_a (a:=x.v) (xa:=xs2.map Ac.v) (xb:=(y::ys2).map Ac.v) (.inr ⟨y.v,ys2.map Ac.v,rfl,zlE (a:=x.who%256^20) (b:=y.who%256^20) Y5⟩)
 refine zz 3 ?_
 refine X.aj [(10,RowIx.ent (Prod.snd i78) 53 (rowC (zs++Prod.fst i78)))] Y0 rfl fun Wx10 hWWx10=>?_
 have kpWx10:=(zaa (I:=[(Prod.snd i78).id,some g12,some g13]) (B0:=B) (l1:=[(10,RowIx.ent (Prod.snd i78) 53 (rowC (zs++Prod.fst i78)))]) hVW78 hn Y189 hWWx10 Y4 Y0 rfl)
 have hdx:=hdx.keep kpWx10
 have hdy:=hdy.keep kpWx10
 have hz:=hz.keep kpWx10
 have hc78:=hc78.keep kpWx10
 have hVWx10:=hWWx10.s0
 exact X.ae ⟨Wx10,(if ca=1 then Aa else Aa.map (·.add (1*27))),(ca - 1),xs2,Ab,cb,(y::ys2),(zs++i78.1),i78.2⟩ ⟨(zcm hA hca),(zaj hca),hdx.tail,(fun c hc=>hpx c (List.mem_cons_of_mem _ hc)),hA2,hcb,hdy,hpy,zgB hj hstep hbt,hr78,hVWx10,hz.app hc78⟩ Y175 Y0 Y0
 refine zz 6 ?_
 refine J.br rfl rfl rfl (decide_eq_true Y13) <| zz 4 ?_
 refine T.ae [] [(0,.g),(1,.g),(2,.q),(3,.g),(4,.g),(5,.l),(6,.g)] Y12 Y12 ?_ Y0
 refine zz 1 ?_
 refine J.ah sl22 rfl (hA2.isSome Y158) rfl Y5 Y5 Y22 rfl <| J.ar Y8k hA2 (zab _) rfl zaK (y.cells) rfl (zcN _ _) rfl <| zz 1 ?_
 refine J.ax sl22 rfl (optInt.some rfl Y5 Y22) optInt.none optInt.none Y20 Y5 Y137 (Nat.le_refl _) rfl rfl <| J.ae 13 rfl rfl rfl rfl (y.cells) rfl sz56 (Nat.le_of_ble_eq_true rfl) Y24 (Nat.zero_lt_succ _) trivial (y.cells) rfl <| zz 4 ?_
 refine J.aa zaJ rfl rfl <| J.ai Y8k 13 rfl rfl zcs (ac y.who) rfl rfl rfl <| J.aa zaJ rfl rfl <| J.ae 12 rfl rfl rfl rfl (ac y.who) rfl sz47 Y7 Y6 Y11 trivial ((Ac.bare y.who).cells) Y12 <| zz 4 ?_
 refine J.ai Y8k 12 rfl rfl zaK ((Ac.bare y.who).cells) rfl rfl rfl <| J.ai Y8k 13 rfl rfl zaK (y.cells) rfl rfl rfl <| J.aZ zoa rfl rfl _ _ r.id.toList (fun i=>[(10,RowIx.ent (Prod.snd i) 53 (rowC (zs++Prod.fst i)))]) (fun i=>[(10,RowIx.ent (Prod.snd i) 53 (rowC (zs++Prod.fst i))),(12,⟨some g12,56,((Ac.bare y.who).cells)⟩),(13,⟨some g13,56,(y.cells)⟩)]) (fun i=>Y0) (fun _=>rfl) (fun _ _ _=>Sub.nil _) (fun i g hg=>⟨10,_,_,rfl,by first | (rw [List.mem_singleton.1 hg];done) | (simpa [RowIx.ent] using hg),rfl⟩) (fun w hw=>(Ej.between w n (B++ids [(10,r.ent 53 (rowC zs)),(12,⟨some g12,56,((Ac.bare y.who).cells)⟩),(13,⟨some g13,56,(y.cells)⟩)]) (Ac.bare y.who) y zs r (Nat.le_trans hn hw.size) (zaf (l1:=[(10,r.ent 53 (rowC zs)),(12,⟨some g12,56,((Ac.bare y.who).cells)⟩),(13,⟨some g13,56,(y.cells)⟩)]) hB hw Y0 rfl) zgD (hw.live 10 _ rfl) hr hzl (zgY _) (hdy.head.keep (zaa (I:=[r.id]) (B0:=B) (l1:=[(10,r.ent 53 (rowC zs)),(12,⟨some g12,56,((Ac.bare y.who).cells)⟩),(13,⟨some g13,56,(y.cells)⟩)]) hV hn Y189 hw Y4 Y0 rfl)) (Nat.le_refl 0) (hpy y List.mem_cons_self)).mono fun e w2 ⟨q,h1,h2,h3⟩=>⟨q,h1,h2,h3.only 0 10 rfl⟩) fun i78 W78 hP78 hW78=>?_
 obtain ⟨hv78,hr78,hc78⟩:=hP78
 have kpW78:=(zaa (I:=[r.id]) (B0:=B) (l1:=[(10,RowIx.ent (Prod.snd i78) 53 (rowC (zs++Prod.fst i78))),(12,⟨some g12,56,((Ac.bare y.who).cells)⟩),(13,⟨some g13,56,(y.cells)⟩)]) hV hn Y189 hW78 Y4 Y0 rfl)
 have hdx:=hdx.keep kpW78
 have hdy:=hdy.keep kpW78
 have hz:=hz.keep kpW78
 have hVW78:=hW78.s0
 replace hc78:AllC W78 n (B++[i78.2.id,some g12,some g13]) i78.1:=hc78.keep (Keep.less zdN)
 have hbt:i78.1.map Ch.v=btV (.bare y.v.who) y.v:=hv78.trans ((zov (a:=(Ac.bare y.who)) (b:=y) Y165 hdy.head.hn).trans (by rw [Ac.bare_v];rfl))
 have hstep:=of_b (b:=y.v) (xb:=ys2.map Ac.v) (xa:=(x::xs2).map Ac.v) (.inr ⟨x.v,xs2.map Ac.v,rfl,zqd (a:=x.who%256^20) (b:=y.who%256^20) Y5⟩)
 refine zz 3 ?_
 refine X.aj [(10,RowIx.ent (Prod.snd i78) 53 (rowC (zs++Prod.fst i78)))] Y0 rfl fun Wx11 hWWx11=>?_
 have kpWx11:=(zaa (I:=[(Prod.snd i78).id,some g12,some g13]) (B0:=B) (l1:=[(10,RowIx.ent (Prod.snd i78) 53 (rowC (zs++Prod.fst i78)))]) hVW78 hn Y189 hWWx11 Y4 Y0 rfl)
 have hdx:=hdx.keep kpWx11
 have hdy:=hdy.keep kpWx11
 have hz:=hz.keep kpWx11
 have hc78:=hc78.keep kpWx11
 have hVWx11:=hWWx11.s0
 exact X.ae ⟨Wx11,Aa,ca,(x::xs2),(if cb=1 then Ab else Ab.map (·.add (1*27))),(cb - 1),ys2,(zs++i78.1),i78.2⟩ ⟨hA,hca,hdx,hpx,(zcm hA2 hcb),(zaj hcb),hdy.tail,(fun c hc=>hpy c (List.mem_cons_of_mem _ hc)),zgB hj hstep hbt,hr78,hVWx11,hz.app hc78⟩ Y175 Y0 Y0
 obtain rfl:xs=[]:=List.length_eq_zero_iff.1 Y5
 refine zz 2 ?_
 refine J.al underlying22 rfl rfl <| zz 4 ?_
 refine T.aa rfl (fun h12=>?_) (fun h12=>?_)
 obtain ⟨y,ys2,rfl⟩:=List.exists_cons_of_length_pos (l:=ys) Y5
 refine zz 13 ?_
 refine J.al underlying22 rfl rfl <| J.aT rfl rfl rfl (decide_eq_true Y13) <| zz 11 ?_
 refine J.am 12 rfl zcG zc1 rfl rfl fun g12 hg12=>J.am 13 rfl zcG zc1 rfl rfl fun g13 hg13=>zz 6 ?_
 refine J.bB rfl rfl rfl (decide_eq_false Y13) <| zz 9 ?_
 refine J.br rfl rfl rfl (decide_eq_true Y13) <| zz 4 ?_
 refine T.ae [] [(0,.g),(1,.g),(2,.q),(3,.g),(4,.g),(5,.l),(6,.g)] Y12 Y12 ?_ Y0
 refine zz 1 ?_
 refine J.ah sl22 rfl (hA2.isSome Y158) rfl Y5 Y5 Y22 rfl <| J.ar Y8k hA2 (zab _) rfl zaK (y.cells) rfl (zcN _ _) rfl <| zz 1 ?_
 refine J.ax sl22 rfl (optInt.some rfl Y5 Y22) optInt.none optInt.none Y20 Y5 Y137 (Nat.le_refl _) rfl rfl <| J.ae 13 rfl rfl rfl rfl (y.cells) rfl sz56 (Nat.le_of_ble_eq_true rfl) Y24 (Nat.zero_lt_succ _) trivial (y.cells) rfl <| zz 4 ?_
 refine J.aa zaJ rfl rfl <| J.ai Y8k 13 rfl rfl zcs (ac y.who) rfl rfl rfl <| J.aa zaJ rfl rfl <| J.ae 12 rfl rfl rfl rfl (ac y.who) rfl sz47 Y7 Y6 Y11 trivial ((Ac.bare y.who).cells) Y12 <| zz 4 ?_
 refine J.ai Y8k 12 rfl rfl zaK ((Ac.bare y.who).cells) rfl rfl rfl <| J.ai Y8k 13 rfl rfl zaK (y.cells) rfl rfl rfl <| J.aZ zoa rfl rfl _ _ r.id.toList (fun i=>[(10,RowIx.ent (Prod.snd i) 53 (rowC (zs++Prod.fst i)))]) (fun i=>[(10,RowIx.ent (Prod.snd i) 53 (rowC (zs++Prod.fst i))),(12,⟨some g12,56,((Ac.bare y.who).cells)⟩),(13,⟨some g13,56,(y.cells)⟩)]) (fun i=>Y0) (fun _=>rfl) (fun _ _ _=>Sub.nil _) (fun i g hg=>⟨10,_,_,rfl,by first | (rw [List.mem_singleton.1 hg];done) | (simpa [RowIx.ent] using hg),rfl⟩) (fun w hw=>(Ej.between w n (B++ids [(10,r.ent 53 (rowC zs)),(12,⟨some g12,56,((Ac.bare y.who).cells)⟩),(13,⟨some g13,56,(y.cells)⟩)]) (Ac.bare y.who) y zs r (Nat.le_trans hn hw.size) (zaf (l1:=[(10,r.ent 53 (rowC zs)),(12,⟨some g12,56,((Ac.bare y.who).cells)⟩),(13,⟨some g13,56,(y.cells)⟩)]) hB hw Y0 rfl) zgD (hw.live 10 _ rfl) hr hzl (zgY _) (hdy.head.keep (zaa (I:=[r.id]) (B0:=B) (l1:=[(10,r.ent 53 (rowC zs)),(12,⟨some g12,56,((Ac.bare y.who).cells)⟩),(13,⟨some g13,56,(y.cells)⟩)]) hV hn Y189 hw Y4 Y0 rfl)) (Nat.le_refl 0) (hpy y List.mem_cons_self)).mono fun e w2 ⟨q,h1,h2,h3⟩=>⟨q,h1,h2,h3.only 0 10 rfl⟩) fun i78 W78 hP78 hW78=>?_
 obtain ⟨hv78,hr78,hc78⟩:=hP78
 have kpW78:=(zaa (I:=[r.id]) (B0:=B) (l1:=[(10,RowIx.ent (Prod.snd i78) 53 (rowC (zs++Prod.fst i78))),(12,⟨some g12,56,((Ac.bare y.who).cells)⟩),(13,⟨some g13,56,(y.cells)⟩)]) hV hn Y189 hW78 Y4 Y0 rfl)
 have hdx:=hdx.keep kpW78
 have hdy:=hdy.keep kpW78
 have hz:=hz.keep kpW78
 have hVW78:=hW78.s0
 replace hc78:AllC W78 n (B++[i78.2.id,some g12,some g13]) i78.1:=hc78.keep (Keep.less zdN)
 have hbt:i78.1.map Ch.v=btV (.bare y.v.who) y.v:=hv78.trans ((zov (a:=(Ac.bare y.who)) (b:=y) Y165 hdy.head.hn).trans (by rw [Ac.bare_v];rfl))
 have hstep:=of_b (b:=y.v) (xb:=ys2.map Ac.v) (xa:=([]:List Ac).map Ac.v) (.inl rfl)
 refine zz 3 ?_
 refine X.aj [(10,RowIx.ent (Prod.snd i78) 53 (rowC (zs++Prod.fst i78)))] Y0 rfl fun Wx13 hWWx13=>?_
 have kpWx13:=(zaa (I:=[(Prod.snd i78).id,some g12,some g13]) (B0:=B) (l1:=[(10,RowIx.ent (Prod.snd i78) 53 (rowC (zs++Prod.fst i78)))]) hVW78 hn Y189 hWWx13 Y4 Y0 rfl)
 have hdx:=hdx.keep kpWx13
 have hdy:=hdy.keep kpWx13
 have hz:=hz.keep kpWx13
 have hc78:=hc78.keep kpWx13
 have hVWx13:=hWWx13.s0
 exact X.ae ⟨Wx13,Aa,ca,([]:List Ac),(if cb=1 then Ab else Ab.map (·.add (1*27))),(cb - 1),ys2,(zs++i78.1),i78.2⟩ ⟨hA,hca,hdx,hpx,(zcm hA2 hcb),(zaj hcb),hdy.tail,(fun c hc=>hpy c (List.mem_cons_of_mem _ hc)),zgB hj hstep hbt,hr78,hVWx13,hz.app hc78⟩ Y175 Y0 Y0
 obtain rfl:ys=[]:=List.length_eq_zero_iff.1 Y5
 refine zz 13 ?_
 exact X.ag rfl (RV.tmp rfl) (RV.tmp rfl) (fun w' hw'=>by first | exact ⟨([],RowIx.nil),⟨by rw [zpr hne1];rfl,RowIx.nil_ok 35,Fit.nil,AllC.nil⟩,by rw [zpr hne1];rfl,hw'.s0⟩ | exact ⟨([],RowIx.nil),⟨by rw [zpq hk1 hne2];rfl,RowIx.nil_ok 35,Fit.nil,AllC.nil⟩,by rw [zpq hk1 hne2];rfl,hw'.s0⟩ | exact ⟨(zs,r),⟨by rw [zfJ hk1 hk2,hj,List.map_nil,zdM,List.append_nil],hr,zbc hw' (j:=10) rfl (fun g h=>⟨hB g h,fun q=>by cases q⟩),hz.keep (((zaa (I:=[r.id]) (B0:=B) (l1:=[]) hV hn Y189 hw' Y4 (Sub.nil _) rfl)).le (fun o h=>List.mem_append_left _ h))⟩,by rw [zfJ hk1 hk2],hw'.s0⟩)
end Go.Proofs.YtlllcafedekojaaGreatDoor.Ek
namespace Go.Fw
open Go
section
variable {P:Program} {w0:World} {M:List Nat} {N:Nf} {σ:List (Nat×Value)} {l:List (Nat×Ent)} {Q:Exit→Act→World→Prop}
theorem X.aJ {u:Exit} (t:Nat) {p:Prop} [Decidable p] (h:lk σ t=some (.bool (decide p))) (hX:∀ q:Nat,(q=1↔p)→X w0 M N Q u ((t,.bool (decide (q=1)))::σ) l):X w0 M N Q u σ l:=by
  by_cases hp:p
  · exact X.as t _ h (by rw [decide_eq_true hp,decide_eq_true (rfl:(1:Nat)=1)]) (hX 1 ⟨fun _=>hp,fun _=>rfl⟩)
  · exact X.as t _ h (by rw [decide_eq_false hp,decide_eq_false (by decide:¬ (0:Nat)=1)]) (hX 0 ⟨fun q=>(by cases q),fun q=>absurd q hp⟩)
end
end Go.Fw
namespace Go.Proofs.YtlllcafedekojaaGreatDoor.Eh
open Go Go.Fw Go.Fz Go.Proofs.Tryz
attribute [local irreducible] J T X
theorem store (w:World) (n:Nat) (B:List (Option Nat)) (A1 A2:Option Addr) (c1 c2:Nat) (ps:List Sl) (bs:List Ch) (hB:∀ g,some g∈B→g < w.heap.size) (hA1:Cs w A1 (rowS ps)) (hb1:ps.length≤c1) (hA2:Cs w A2 (rowC bs)) (hb2:bs.length≤c2) (hl1:ps.length≤1000000000) (hl2:bs.length≤1000000000):
    Calls prog 73 [.slice A1 ps.length c1,.slice A2 bs.length c2].toArray w fun e w'=>∃ q:(List Sl×RowIx)×Bool,((if q.2=true then stL (ps.map Sl.v) (bs.map Ch.v)=some (q.1.1.map Sl.v) else stL (ps.map Sl.v) (bs.map Ch.v)=none∧q.1.1=[])∧q.1.2.Ok 8 q.1.1.length∧Fit w' n B (hdOf q.1.2.id) (rowS q.1.1))∧e=.returned (.tuple #[q.1.2.val q.1.1.length,.bool q.2])∧WS w [] [] w':=by
 refine zac [] 77 [] func73 rfl ntmps73 Y20 (WS.refl _ _) <| zz 13 ?_
 refine T.aj 6 62 <| T.ag (ι:=Option Addr×Nat×List Sl×Option Addr×Nat×List Ch×List Sl×RowIx) (fun (Aa,ca,xs,Ab,cb,ys,zs,r)=>Cs w Aa (rowS xs)∧xs.length≤ca∧Cs w Ab (rowC ys)∧ys.length≤cb∧stL (ps.map Sl.v) (bs.map Ch.v)=(stL (xs.map Sl.v) (ys.map Ch.v)).map (zs.map Sl.v++·)∧zs.length+xs.length+ys.length≤2000000000∧r.Ok 8 zs.length) (fun (Aa,ca,xs,Ab,cb,ys,zs,r)=>[(0,.slice Aa xs.length ca),(1,.slice Ab ys.length cb),(6,r.val zs.length)]) (fun (Aa,ca,xs,Ab,cb,ys,zs,r)=>[(6,r.ent 62 (rowS zs))]) (fun (Aa,ca,xs,Ab,cb,ys,zs,r)=>xs.length+ys.length) ⟨A1,c1,ps,A2,c2,bs,[],RowIx.nil⟩ ⟨hA1,hb1,hA2,hb2,by cases stL (ps.map Sl.v) (bs.map Ch.v)<;>rfl,by show 0+_+_≤_;omega,RowIx.nil_ok 8⟩ Y2 Y2 ?_
 rintro ⟨Aa,ca,xs,Ab,cb,ys,zs,r⟩ ⟨hA,hca,hA2,hcb,hj,hlen,hr⟩
 try dsimp only at *
 refine zz 4 ?_
 refine J.al underlying54 rfl rfl <| zz 2 ?_
 refine J.an 12 rfl (fun h1=>?_) (fun h1=>?_)
 obtain ⟨x,xs2,rfl⟩:=List.exists_cons_of_length_pos (l:=xs) Y5
 refine zz 19 ?_
 refine J.al underlying25 rfl rfl <| zz 3 ?_
 refine T.aa rfl (fun h2=>?_) (fun h2=>?_)
 obtain rfl:ys=[]:=List.length_eq_zero_iff.1 Y5
 have hsa:=ztu x.v (xs2.map Sl.v)
 refine zz 8 ?_
 refine J.bq rfl rfl rfl (decide_eq_true Y13) <| zz 7 ?_
 refine J.ah sl54 rfl (hA.isSome Y160) rfl Y5 Y5 Y22 rfl <| J.ar Y8k hA (zab _) rfl zoK (x.cells) rfl (ziT _ _) rfl <| J.aD 38 rfl underlying54 el62 Y23 rfl (x.cells) rfl rfl rfl fun g38 hg38=>J.ay 6 rfl underlying54 el62 rfl hr (zaO zs) rfl rfl rfl (fun w hw=>(hw.blkCs (k:=38) rfl)) (Sl.cells_one _) (by simp at hlen;omega) Y168 rfl (zs++[x]).length Y25 (rowS (zs++[x])) (zdK _ _).symm fun r39 hr39=>zz 6 ?_
 refine J.ax sl54 rfl (optInt.some rfl Y5 Y22) optInt.none optInt.none Y20 Y5 Y136 (Nat.le_refl _) rfl rfl <| zz 6 ?_
 exact X.ae ⟨(if ca=1 then Aa else Aa.map (·.add (1*8))),(ca - 1),xs2,Ab,cb,([]:List Ch),(zs++[x]),r39⟩ ⟨(zaG hA hca),(zaj hca),hA2,hcb,(by rw [zjI];exact zfO (hj.trans (congrArg (Option.map _) hsa))),Y166,hr39⟩ Y175 Y2 Y2
 obtain ⟨y,ys2,rfl⟩:=List.exists_cons_of_length_pos (l:=ys) Y5
 refine zz 3 ?_
 refine J.al underlying54 rfl rfl <| J.bD rfl rfl rfl (decide_eq_true Y13) <| zz 3 ?_
 refine T.ae [] [(0,.g),(1,.g),(2,.g),(3,.q),(4,.g),(5,.g),(6,.g),(7,.q),(8,.q),(9,.g)] Y12 Y12 ?_ Y2
 refine zz 1 ?_
 refine J.ah sl54 rfl (hA.isSome Y160) rfl Y5 Y5 Y22 rfl <| J.ak zcE rfl rfl <| J.ar Y8k hA (zab _) rfl zah (wc x.key) rfl rfl rfl <| zz 1 ?_
 refine J.ah sl25 rfl (hA2.isSome Y21) rfl Y5 Y5 Y22 rfl <| J.ak zaM rfl rfl <| J.ar Y8k hA2 (zab _) rfl zah (wc y.key) rfl rfl rfl <| J.aj Y8k zsD rfl rfl (fun w hw=>Da.Cmp w x.key y.key) ?_
 refine zz 10 ?_
 refine T.aa rfl (fun h3=>?_) (fun h3=>?_)
 have hsa:=zrE (hs:=xs2.map Sl.v) (cs:=ys2.map Ch.v) (h:=x.v) (c:=y.v) (by rw [ziC];omega)
 refine zz 4 ?_
 refine J.ah sl54 rfl (hA.isSome Y160) rfl Y5 Y5 Y22 rfl <| J.ar Y8k hA (zab _) rfl zoK (x.cells) rfl (ziT _ _) rfl <| J.aD 38 rfl underlying54 el62 Y23 rfl (x.cells) rfl rfl rfl fun g38 hg38=>J.ay 6 rfl underlying54 el62 rfl hr (zaO zs) rfl rfl rfl (fun w hw=>(hw.blkCs (k:=38) rfl)) (Sl.cells_one _) (by simp at hlen;omega) Y168 rfl (zs++[x]).length Y25 (rowS (zs++[x])) (zdK _ _).symm fun r39 hr39=>zz 6 ?_
 refine J.ax sl54 rfl (optInt.some rfl Y5 Y22) optInt.none optInt.none Y20 Y5 Y136 (Nat.le_refl _) rfl rfl <| zz 6 ?_
 exact X.ae ⟨(if ca=1 then Aa else Aa.map (·.add (1*8))),(ca - 1),xs2,Ab,cb,(y::ys2),(zs++[x]),r39⟩ ⟨(zaG hA hca),(zaj hca),hA2,hcb,(by rw [zjI];exact zfO (hj.trans (congrArg (Option.map _) hsa))),Y166,hr39⟩ Y175 Y2 Y2
 refine zz 4 ?_
 refine J.am 8 rfl zbr (wc 0) rfl rfl fun g8 hg8=>zz 9 ?_
 refine T.aa rfl (fun h4=>?_) (fun h4=>?_)
 refine zz 3 ?_
 refine J.ah sl54 rfl (hA.isSome Y160) rfl Y5 Y5 Y22 rfl <| J.ak zeC rfl rfl <| J.ar Y8k hA (zab _) rfl zah (wc x.val) rfl rfl rfl <| J.ae 8 rfl rfl rfl rfl (wc x.val) rfl sz50 Y7 Y6 Y11 trivial (wc x.val) rfl <| zz 4 ?_
 refine J.ax sl54 rfl (optInt.some rfl Y5 Y22) optInt.none optInt.none Y20 Y5 Y136 (Nat.le_refl _) rfl rfl <| zz 5 ?_
 refine T.ae [] [(0,.q),(1,.g),(2,.g),(3,.g),(4,.q),(5,.g)] Y12 Y12 ?_ Y2
 refine J.ai Y8k 8 rfl rfl zah (wc x.val) rfl rfl rfl <| zz 1 ?_
 refine J.ah sl25 rfl (hA2.isSome Y21) rfl Y5 Y5 Y22 rfl <| J.ak zaW rfl rfl <| J.ar Y8k hA2 (zab _) rfl zah (wc y.old) rfl rfl rfl <| J.aX zcd rfl rfl rfl <| zz 2 ?_
 refine T.aa rfl (fun h5=>?_) (fun h5=>?_)
 have hno:=zmV (hs:=xs2.map Sl.v) (cs:=ys2.map Ch.v) (h:=x.v) (c:=y.v) (by rw [ziC];omega) h5
 refine zz 12 ?_
 exact X.ag rfl (RV.tmp rfl) (RV.tmp rfl) Y104
 have hsb:=zmW (hs:=xs2.map Sl.v) (cs:=ys2.map Ch.v) (h:=x.v) (c:=y.v) (by rw [ziC];omega) (Decidable.not_not.1 h5)
 refine zz 6 ?_
 refine J.ah sl25 rfl (hA2.isSome Y21) rfl Y5 Y5 Y22 rfl <| J.ak zaB rfl rfl <| J.ar Y8k hA2 (zab _) rfl zah (wc y.new) rfl rfl rfl <| J.aj Y8k zmu rfl rfl (fun w hw=>Wa.IsZero w y.new) ?_
 refine J.aA rfl rfl Y18 <| zz 2 ?_
 refine T.aa rfl (fun h6=>?_) (fun h6=>?_)
 have hem:=zkn (c:=y) h6
 refine T.ae [] [(0,.g),(1,.g),(2,.g),(3,.g),(4,.q),(5,.g),(6,.g),(7,.g),(8,.q),(9,.g),(10,.l),(11,.l),(12,.g)] Y12 Y12 ?_ Y2
 refine zz 2 ?_
 refine J.ah sl25 rfl (hA2.isSome Y21) rfl Y5 Y5 Y22 rfl <| J.ak zaM rfl rfl <| J.ar Y8k hA2 (zab _) rfl zah (wc y.key) rfl rfl rfl <| zz 1 ?_
 refine J.ah sl25 rfl (hA2.isSome Y21) rfl Y5 Y5 Y22 rfl <| J.ak zaB rfl rfl <| J.ar Y8k hA2 (zab _) rfl zah (wc y.new) rfl rfl rfl <| J.ao rfl rfl (.agg (Sl.mk y.key y.new).cells.toArray) Y191 <| J.aD 72 rfl underlying54 el62 Y23 rfl ((Sl.mk y.key y.new).cells) rfl rfl rfl fun g72 hg72=>J.ay 6 rfl underlying54 el62 rfl hr (zaO zs) rfl rfl rfl (fun w hw=>(hw.blkCs (k:=72) rfl)) (Sl.cells_one _) (by simp at hlen;omega) Y168 rfl (zs++[(Sl.mk y.key y.new)]).length Y25 (rowS (zs++[(Sl.mk y.key y.new)])) (zdK _ _).symm fun r73 hr73=>zz 5 ?_
 refine J.ax sl25 rfl (optInt.some rfl Y5 Y22) optInt.none optInt.none Y20 Y5 Y137 (Nat.le_refl _) rfl rfl <| zz 3 ?_
 exact X.ae ⟨(if ca=1 then Aa else Aa.map (·.add (1*8))),(ca - 1),xs2,(if cb=1 then Ab else Ab.map (·.add (1*35))),(cb - 1),ys2,(zs++[(Sl.mk y.key y.new)]),r73⟩ ⟨(zaG hA hca),(zaj hca),(zaA hA2 hcb),(zaj hcb),Y128,Y166,hr73⟩ Y175 Y2 Y2
 have hem:=zol (c:=y) (Decidable.not_not.1 h6)
 refine zz 4 ?_
 refine J.ax sl25 rfl (optInt.some rfl Y5 Y22) optInt.none optInt.none Y20 Y5 Y137 (Nat.le_refl _) rfl rfl <| zz 3 ?_
 exact X.ae ⟨(if ca=1 then Aa else Aa.map (·.add (1*8))),(ca - 1),xs2,(if cb=1 then Ab else Ab.map (·.add (1*35))),(cb - 1),ys2,zs,r⟩ ⟨(zaG hA hca),(zaj hca),(zaA hA2 hcb),(zaj hcb),Y125,Y166,hr⟩ Y175 Y2 Y2
 refine zz 4 ?_
 refine T.ae [] [(0,.q),(1,.g),(2,.g),(3,.g),(4,.q),(5,.g)] Y12 Y12 ?_ Y2
 refine J.ai Y8k 8 rfl rfl zah (wc 0) rfl rfl rfl <| zz 1 ?_
 refine J.ah sl25 rfl (hA2.isSome Y21) rfl Y5 Y5 Y22 rfl <| J.ak zaW rfl rfl <| J.ar Y8k hA2 (zab _) rfl zah (wc y.old) rfl rfl rfl <| J.aX zcd rfl rfl rfl <| zz 2 ?_
 refine T.aa rfl (fun h7=>?_) (fun h7=>?_)
 have hno:=zhS (hs:=(x::xs2).map Sl.v) (cs:=ys2.map Ch.v) (c:=y.v) (.inr ⟨x.v,xs2.map Sl.v,rfl,by rw [ziC];omega⟩) (fun q=>h7 (by rw [Nat.zero_mod];exact q))
 refine zz 12 ?_
 exact X.ag rfl (RV.tmp rfl) (RV.tmp rfl) Y104
 have hsb:=zlZ (hs:=(x::xs2).map Sl.v) (cs:=ys2.map Ch.v) (c:=y.v) (.inr ⟨x.v,xs2.map Sl.v,rfl,by rw [ziC];omega⟩) (by have q:=Decidable.not_not.1 h7;rw [Nat.zero_mod] at q;exact q)
 refine zz 6 ?_
 refine J.ah sl25 rfl (hA2.isSome Y21) rfl Y5 Y5 Y22 rfl <| J.ak zaB rfl rfl <| J.ar Y8k hA2 (zab _) rfl zah (wc y.new) rfl rfl rfl <| J.aj Y8k zmu rfl rfl (fun w hw=>Wa.IsZero w y.new) ?_
 refine J.aA rfl rfl Y18 <| zz 2 ?_
 refine T.aa rfl (fun h8=>?_) (fun h8=>?_)
 have hem:=zkn (c:=y) h8
 refine T.ae [] [(0,.g),(1,.g),(2,.g),(3,.g),(4,.q),(5,.g),(6,.g),(7,.g),(8,.q),(9,.g),(10,.l),(11,.l),(12,.g)] Y12 Y12 ?_ Y2
 refine zz 2 ?_
 refine J.ah sl25 rfl (hA2.isSome Y21) rfl Y5 Y5 Y22 rfl <| J.ak zaM rfl rfl <| J.ar Y8k hA2 (zab _) rfl zah (wc y.key) rfl rfl rfl <| zz 1 ?_
 refine J.ah sl25 rfl (hA2.isSome Y21) rfl Y5 Y5 Y22 rfl <| J.ak zaB rfl rfl <| J.ar Y8k hA2 (zab _) rfl zah (wc y.new) rfl rfl rfl <| J.ao rfl rfl (.agg (Sl.mk y.key y.new).cells.toArray) Y191 <| J.aD 72 rfl underlying54 el62 Y23 rfl ((Sl.mk y.key y.new).cells) rfl rfl rfl fun g72 hg72=>J.ay 6 rfl underlying54 el62 rfl hr (zaO zs) rfl rfl rfl (fun w hw=>(hw.blkCs (k:=72) rfl)) (Sl.cells_one _) (by simp at hlen;omega) Y168 rfl (zs++[(Sl.mk y.key y.new)]).length Y25 (rowS (zs++[(Sl.mk y.key y.new)])) (zdK _ _).symm fun r73 hr73=>zz 5 ?_
 refine J.ax sl25 rfl (optInt.some rfl Y5 Y22) optInt.none optInt.none Y20 Y5 Y137 (Nat.le_refl _) rfl rfl <| zz 3 ?_
 exact X.ae ⟨Aa,ca,(x::xs2),(if cb=1 then Ab else Ab.map (·.add (1*35))),(cb - 1),ys2,(zs++[(Sl.mk y.key y.new)]),r73⟩ ⟨hA,hca,(zaA hA2 hcb),(zaj hcb),Y128,Y166,hr73⟩ Y175 Y2 Y2
 have hem:=zol (c:=y) (Decidable.not_not.1 h8)
 refine zz 4 ?_
 refine J.ax sl25 rfl (optInt.some rfl Y5 Y22) optInt.none optInt.none Y20 Y5 Y137 (Nat.le_refl _) rfl rfl <| zz 3 ?_
 exact X.ae ⟨Aa,ca,(x::xs2),(if cb=1 then Ab else Ab.map (·.add (1*35))),(cb - 1),ys2,zs,r⟩ ⟨hA,hca,(zaA hA2 hcb),(zaj hcb),Y125,Y166,hr⟩ Y175 Y2 Y2
 obtain rfl:xs=[]:=List.length_eq_zero_iff.1 Y5
 refine zz 2 ?_
 refine J.al underlying25 rfl rfl <| zz 4 ?_
 refine T.aa rfl (fun h9=>?_) (fun h9=>?_)
 obtain ⟨y,ys2,rfl⟩:=List.exists_cons_of_length_pos (l:=ys) Y5
 refine zz 12 ?_
 refine J.al underlying25 rfl rfl <| J.aT rfl rfl rfl (decide_eq_false Y13) <| zz 6 ?_
 refine J.al underlying54 rfl rfl <| J.bD rfl rfl rfl (decide_eq_false Y13) <| zz 9 ?_
 refine J.bq rfl rfl rfl (decide_eq_false Y13) <| zz 7 ?_
 refine J.am 8 rfl zbr (wc 0) rfl rfl fun g8 hg8=>zz 6 ?_
 refine J.aT rfl rfl rfl (decide_eq_false Y13) <| zz 7 ?_
 refine T.ae [] [(0,.q),(1,.g),(2,.g),(3,.g),(4,.q),(5,.g)] Y12 Y12 ?_ Y2
 refine J.ai Y8k 8 rfl rfl zah (wc 0) rfl rfl rfl <| zz 1 ?_
 refine J.ah sl25 rfl (hA2.isSome Y21) rfl Y5 Y5 Y22 rfl <| J.ak zaW rfl rfl <| J.ar Y8k hA2 (zab _) rfl zah (wc y.old) rfl rfl rfl <| J.aX zcd rfl rfl rfl <| zz 2 ?_
 refine T.aa rfl (fun h10=>?_) (fun h10=>?_)
 have hno:=zhS (hs:=([]:List Sl).map Sl.v) (cs:=ys2.map Ch.v) (c:=y.v) (.inl rfl) (fun q=>h10 (by rw [Nat.zero_mod];exact q))
 refine zz 12 ?_
 exact X.ag rfl (RV.tmp rfl) (RV.tmp rfl) Y104
 have hsb:=zlZ (hs:=([]:List Sl).map Sl.v) (cs:=ys2.map Ch.v) (c:=y.v) (.inl rfl) (by have q:=Decidable.not_not.1 h10;rw [Nat.zero_mod] at q;exact q)
 refine zz 6 ?_
 refine J.ah sl25 rfl (hA2.isSome Y21) rfl Y5 Y5 Y22 rfl <| J.ak zaB rfl rfl <| J.ar Y8k hA2 (zab _) rfl zah (wc y.new) rfl rfl rfl <| J.aj Y8k zmu rfl rfl (fun w hw=>Wa.IsZero w y.new) ?_
 refine J.aA rfl rfl Y18 <| zz 2 ?_
 refine T.aa rfl (fun h11=>?_) (fun h11=>?_)
 have hem:=zkn (c:=y) h11
 refine T.ae [] [(0,.g),(1,.g),(2,.g),(3,.g),(4,.q),(5,.g),(6,.g),(7,.g),(8,.q),(9,.g),(10,.l),(11,.l),(12,.g)] Y12 Y12 ?_ Y2
 refine zz 2 ?_
 refine J.ah sl25 rfl (hA2.isSome Y21) rfl Y5 Y5 Y22 rfl <| J.ak zaM rfl rfl <| J.ar Y8k hA2 (zab _) rfl zah (wc y.key) rfl rfl rfl <| zz 1 ?_
 refine J.ah sl25 rfl (hA2.isSome Y21) rfl Y5 Y5 Y22 rfl <| J.ak zaB rfl rfl <| J.ar Y8k hA2 (zab _) rfl zah (wc y.new) rfl rfl rfl <| J.ao rfl rfl (.agg (Sl.mk y.key y.new).cells.toArray) Y191 <| J.aD 72 rfl underlying54 el62 Y23 rfl ((Sl.mk y.key y.new).cells) rfl rfl rfl fun g72 hg72=>J.ay 6 rfl underlying54 el62 rfl hr (zaO zs) rfl rfl rfl (fun w hw=>(hw.blkCs (k:=72) rfl)) (Sl.cells_one _) (by simp at hlen;omega) Y168 rfl (zs++[(Sl.mk y.key y.new)]).length Y25 (rowS (zs++[(Sl.mk y.key y.new)])) (zdK _ _).symm fun r73 hr73=>zz 5 ?_
 refine J.ax sl25 rfl (optInt.some rfl Y5 Y22) optInt.none optInt.none Y20 Y5 Y137 (Nat.le_refl _) rfl rfl <| zz 3 ?_
 exact X.ae ⟨Aa,ca,([]:List Sl),(if cb=1 then Ab else Ab.map (·.add (1*35))),(cb - 1),ys2,(zs++[(Sl.mk y.key y.new)]),r73⟩ ⟨hA,hca,(zaA hA2 hcb),(zaj hcb),Y128,Y166,hr73⟩ Y175 Y2 Y2
 have hem:=zol (c:=y) (Decidable.not_not.1 h11)
 refine zz 4 ?_
 refine J.ax sl25 rfl (optInt.some rfl Y5 Y22) optInt.none optInt.none Y20 Y5 Y137 (Nat.le_refl _) rfl rfl <| zz 3 ?_
 exact X.ae ⟨Aa,ca,([]:List Sl),(if cb=1 then Ab else Ab.map (·.add (1*35))),(cb - 1),ys2,zs,r⟩ ⟨hA,hca,(zaA hA2 hcb),(zaj hcb),Y125,Y166,hr⟩ Y175 Y2 Y2
 obtain rfl:ys=[]:=List.length_eq_zero_iff.1 Y5
 refine zz 13 ?_
 exact X.ag rfl (RV.tmp rfl) (RV.tmp rfl) Y104
end Go.Proofs.YtlllcafedekojaaGreatDoor.Eh
namespace Go.Fz
open Go Go.Fw Go.Proofs.Tryz
theorem sz94:SizeT prog 94 1:=Y9
theorem zkl:FldT prog 96 1 94 1 0:=⟨Y12,sz94⟩
theorem zrU:OneT prog 94:=⟨⟨_,underlying94,rfl⟩,Y12⟩
theorem fok83:FnOk prog 83:=FnOk.mk' func83 Y12 rfl
theorem fok86:FnOk prog 86:=FnOk.mk' func86 Y12 rfl
theorem fok88:FnOk prog 88:=FnOk.mk' func88 Y12 rfl
theorem ztO:FnOk prog 73:=FnOk.mk' func73 Y12 rfl
end Go.Fz
namespace Go.Proofs.YtlllcafedekojaaGreatDoor.El
open Go Go.Fw Go.Fz Go.Proofs.Tryz
attribute [local irreducible] J T X
theorem CloneN (w:World) (n:Nat) (B:List (Option Nat)) (A1:Option Addr) (c1:Nat) (xs:List Nat) (hB:∀ g,some g∈B→g < w.heap.size) (e1:Cs w A1 (rowN .u8 xs)) (hl:xs.length≤1000000000000):
    Calls prog 72 [.slice A1 xs.length c1].toArray w fun e w'=>∃ q:RowIx,Fit w' n B (hdOf q.id) (rowN .u8 xs)∧e=.returned (.slice (hdOf q.id) xs.length q.cap)∧WS w [] [] w':=(Da.Clone w A1 c1 xs e1 hl).mono fun e w' h=>h.nest hB
theorem setC (w:World) (n:Nat) (B:List (Option Nat)) (g:Nat) (a:Ac) (x0:Nat) (A:Option Addr) (c:Nat) (zs:List Nat) (hn:n≤w.heap.size) (hB:∀ g,some g∈B→g < w.heap.size) (hg:∀ g2∈[g],some g2∈B) (hA:Cs w A (rowN .u8 zs)) (ho:rowN .u8 zs≠[]→Off [g] A) (hz:zs.length≤1000000000000) (hat:Ent.At w ⟨some g,56,a.cells⟩):
    Calls prog 88 [.pointer (some ⟨g,0,none⟩),W x0,.slice A zs.length c].toArray w fun e w'=>∃ q:RowIx,Fit w' n B (hdOf q.id) (rowN .u8 zs)∧e=.returned (.tuple #[])∧WS w [g] [(0,⟨some g,56,(a.coded zs q).cells⟩)] w':=by
 refine zac [g] 11 [(0,⟨some g,56,a.cells⟩)] func88 rfl ntmps88 Y20 (WS.one hat) <| zz 2 ?_
 refine J.aE 4 rfl rfl (wc x0) rfl rfl fun g4 hg4=>zz 5 ?_
 refine J.aw zjl rfl rfl _ _ [(0,⟨some g,56,a.cells⟩),(4,⟨some g4,50,(wc x0)⟩)] Y0 rfl (fun _ _=>Sub.nil _) (fun w hw=>El.CloneN w n (B++ids [(0,⟨some g,56,a.cells⟩),(4,⟨some g4,50,(wc x0)⟩)]) _ _ _ (zaf (l1:=[(0,⟨some g,56,a.cells⟩),(4,⟨some g4,50,(wc x0)⟩)]) hB hw Y0 rfl) (hA.wsE hw ho) hz) fun i8 W8 hP8 hW8=>?_
 have hVW8:=hW8.s0
 refine zz 1 ?_
 refine J.aa zbo rfl rfl <| J.ae 0 rfl rfl rfl rfl [.slice (hdOf i8.id) zs.length i8.cap] rfl sz51 Y7 Y27 Y11 trivial ((a.coded zs i8).cells) Y22 <| zz 1 ?_
 exact X.am rfl (fun w' hw'=>⟨i8,hP8.keep (((zaa (I:=[some g,some g4]) (B0:=B) (l1:=[]) hVW8 hn hg hw' Y4 (Sub.nil _) rfl)).le (fun o h=>List.mem_append_left _ h)),rfl,hw'.only 0 0 rfl⟩)
theorem turned (w:World) (n:Nat) (B:List (Option Nat)) (a:Ac) (A1:Option Addr) (c1:Nat) (ds:List Ch) (hn:n≤w.heap.size) (hB:∀ g,some g∈B→g < w.heap.size) (ha:a.Ok w n B) (hsa:a.sl.length≤a.sC) (hA1:Cs w A1 (rowC ds)) (hc1:ds.length≤c1) (hd:AllC w n B ds) (hm:AllMay ds) (hl:ds.length≤500000000) (hls:a.sl.length≤500000000):
    Calls prog 51 [.agg a.cells.toArray,.slice A1 ds.length c1].toArray w fun e w'=>∃ q:Ac×Bool,((if q.2=true then tuL a.v (ds.map Ch.v)=some q.1.v∧q.1.Ok w' n B∧q.1.sl.length≤q.1.sC else tuL a.v (ds.map Ch.v)=none))∧e=.returned (.tuple #[.agg q.1.cells.toArray,.bool q.2])∧WS w [] [] w':=by
 have hlc:=ha.lc
 refine zac [] 77 [] func51 rfl ntmps51 Y20 (WS.refl _ _) <| zz 2 ?_
 refine J.aE 2 rfl rfl (a.cells) rfl rfl fun g2 hg2=>J.am 4 rfl zcG zc1 rfl rfl fun g4 hg4=>zz 5 ?_
 refine J.aa zbo rfl rfl <| J.ag Y8k 2 rfl rfl zaw Y3 rfl <| J.aw zjl rfl rfl _ _ [(2,⟨some g2,56,(a.cells)⟩),(4,⟨some g4,56,zc1⟩)] Y0 rfl (fun _ _=>Sub.nil _) (fun w hw=>El.CloneN w n (B++ids [(2,⟨some g2,56,(a.cells)⟩),(4,⟨some g4,56,zc1⟩)]) _ _ _ (zaf (l1:=[(2,⟨some g2,56,(a.cells)⟩),(4,⟨some g4,56,zc1⟩)]) hB hw Y0 rfl) (ha.keep (zad (B0:=B) (l1:=[(2,⟨some g2,56,(a.cells)⟩),(4,⟨some g4,56,zc1⟩)]) hn Y189 hw Y0 rfl)).fc.cs hlc) fun i13 W13 hP13 hW13=>?_
 have kpW13:=(zad (B0:=B) (l1:=[(2,⟨some g2,56,(a.cells)⟩),(4,⟨some g4,56,zc1⟩)]) hn Y189 hW13 Y0 rfl)
 have ha:=ha.keep kpW13
 have hd:=hd.keep kpW13
 have hVW13:=hW13.s0
 refine J.aa zbo rfl rfl <| J.ae 2 rfl rfl rfl rfl [.slice (hdOf i13.id) a.code.length i13.cap] rfl sz51 Y7 Y27 Y11 trivial ((a.coded a.code i13).cells) Y22 <| zz 4 ?_
 refine J.aj Y8k ztP rfl rfl (fun w hw=>Dk.views w) ?_
 refine J.am 6 rfl zqp zc6 rfl rfl fun g6 hg6=>J.ae 6 rfl rfl rfl rfl (zc2:List Value) rfl sz97 Y7 Y127 Y11 trivial (zc2:List Value) rfl <| zz 4 ?_
 refine T.al [(2,⟨some g2,56,((a.coded a.code i13).cells)⟩),(4,⟨some g4,56,zc1⟩),(6,⟨some g6,97,(zc2:List Value)⟩)] Y0 rfl fun Wl1 hWWl1=>?_
 have kpWl1:=(zaa (I:=[some g2,some g4]) (B0:=B) (l1:=[(2,⟨some g2,56,((a.coded a.code i13).cells)⟩),(4,⟨some g4,56,zc1⟩),(6,⟨some g6,97,(zc2:List Value)⟩)]) hVW13 hn Y189 hWWl1 Y4 Y0 rfl)
 have ha:=ha.keep kpWl1
 have hd:=hd.keep kpWl1
 have hP13:=hP13.keep kpWl1
 have hVWl1:=hWWl1.s0
 refine T.ag (ι:=World×Ac×Option Addr×Nat×List Ch) (fun (W,x,A,cc,ys)=>x.Ok W n (B++[some g2,some g4,some g6])∧x.sl.length≤x.sC∧x.sl.length≤500000000∧Cs w A (rowC ys)∧ys.length≤cc∧AllC W n (B++[some g2,some g4,some g6]) ys∧AllMay ys∧ys.length≤500000000∧tuL a.v (ds.map Ch.v)=tuL x.v (ys.map Ch.v)∧WS w [] [] W) (fun (W,x,A,cc,ys)=>[(0,.agg a.cells.toArray),(2,.pointer (some ⟨g2,0,none⟩)),(4,.pointer (some ⟨g4,0,none⟩)),(12,.slice a.cA a.code.length a.cC),(6,.pointer (some ⟨g6,0,none⟩)),(1,.slice A ys.length cc)]) (fun (W,x,A,cc,ys)=>((4,⟨some g4,56,zc1⟩)::(6,⟨some g6,97,(zc2:List Value)⟩)::(2,⟨some g2,56,x.cells⟩)::snapL W w.heap.size [some g2,some g4,some g6])) (fun (W,x,A,cc,ys)=>ys.length) ⟨Wl1,(a.coded a.code i13),A1,c1,ds⟩ ⟨zlC ha ha.dC hlc hP13,hsa,hls,hA1,hc1,hd,hm,hl,rfl,hVWl1⟩ Y0 Y0 ?_
 rintro ⟨W,x,A,cc,ys⟩ ⟨hx,hxs,hxl,hA,hcc,hys,hmy,hyl,hT,hV⟩
 try dsimp only at *
 refine zz 4 ?_
 refine J.al underlying25 rfl rfl <| zz 2 ?_
 refine J.an 19 rfl (fun h2=>?_) (fun h2=>?_)
 obtain ⟨y,ys2,rfl⟩:=List.exists_cons_of_length_pos (l:=ys) Y5
 obtain ⟨kk,hkk⟩:∃ kk:Int,y.kind=kk:=⟨_,rfl⟩
 refine zz 2 ?_
 refine J.ah sl25 rfl (hA.isSome Y21) rfl Y5 Y5 Y22 rfl <| zz 1 ?_
 refine J.ak zaR rfl rfl <| zz 1 ?_
 refine J.av Y8k hA (zab _) rfl one3 Y22 rfl <| zz 4 ?_
 refine T.aa rfl (fun h3=>?_) (fun h3=>?_)
 rcases (show kk=1∨kk=2∨kk=3 from by (have h0:=(hmy.head).kinds;have h1:y.v.kind=y.kind:=rfl;omega)) with rfl | rfl | rfl
 have hk4:=h3
 refine zz 6 ?_
 refine J.ah sl25 rfl (hA.isSome Y21) rfl Y5 Y5 Y22 rfl <| J.ak zaR rfl rfl <| J.av Y8k hA (zab _) rfl one3 Y22 rfl <| J.as 29 (.int .i64 1) rfl (by show Value.int .i64 y.kind=_;rw [hkk]) <| J.aM zkB rfl rfl Y5 Y5 Y8 rfl <| J.ai Y8k 6 rfl rfl zkD ([.func (.func 81) #[] #[],.func (.func 83) #[] #[]]:List Value) rfl rfl rfl <| J.am 7 rfl zgb [.nilFunc,.nilFunc] rfl rfl fun g7 hg7=>J.ae 7 rfl rfl rfl rfl ([.func (.func 81) #[] #[],.func (.func 83) #[] #[]]:List Value) rfl sz96 Y7 Y6 Y11 trivial ([.func (.func 81) #[] #[],.func (.func 83) #[] #[]]:List Value) rfl ?_
 refine zz 5 ?_
 refine J.aa zbK rfl rfl <| J.ag Y8k 7 rfl rfl zfy rfl rfl <| J.aH zsC rfl rfl rfl (fun w hw=>Dk.getN w _ x hx.hn (hw.blkCs (k:=2) rfl)) ?_
 refine zz 3 ?_
 refine J.am 8 rfl zbr zc9 rfl rfl fun g8 hg8=>J.ae 8 rfl rfl rfl rfl (wc x.nonce) rfl sz50 Y7 Y6 Y11 trivial (wc x.nonce) rfl <| zz 4 ?_
 refine T.ae [] [(0,.q),(1,.g),(2,.g),(3,.g),(4,.q),(5,.g),(6,.g),(7,.g),(8,.g),(9,.g),(10,.g),(11,.q),(12,.q),(13,.g),(14,.g)] Y12 Y12 ?_ Y0
 refine J.ai Y8k 8 rfl rfl zah (wc x.nonce) rfl rfl rfl <| zz 1 ?_
 refine J.ah sl25 rfl (hA.isSome Y21) rfl Y5 Y5 Y22 rfl <| J.ak zaW rfl rfl <| J.ar Y8k hA (zab _) rfl zah (wc y.old) rfl Y22 rfl <| J.aX zcd rfl rfl rfl <| zz 1 ?_
 refine J.an 44 rfl (fun h4=>?_) (fun h4=>?_)
 have hno:=hT.trans (zlS (show y.v.kind≠4 from hk4) (fun q=>h4 ((znU hx.hn hkk).1 q).1))
 refine zz 13 ?_
 refine J.ai Y8k 2 rfl rfl zaK (x.cells) rfl rfl rfl <| J.ae 4 rfl rfl rfl rfl (x.cells) rfl sz56 (Nat.le_of_ble_eq_true rfl) Y24 (Nat.zero_lt_succ _) trivial (x.cells) Y22 <| zz 9 ?_
 exact X.ag rfl (RV.agg 4 rfl rfl zaK (x.cells) Y22 Y22 rfl) (RV.tmp rfl) (fun w' hw'=>⟨(x,false),by show (if (false:Bool)=true then _ else _);rw [if_neg Y23];exact hno,rfl,hw'.s0⟩)
 have hq1:=Decidable.not_not.1 h4
 refine zz 3 ?_
 refine J.ah sl25 rfl (hA.isSome Y21) rfl Y5 Y5 Y22 rfl <| zz 1 ?_
 refine J.ak zbe rfl rfl <| zz 1 ?_
 refine J.av Y8k hA (zab _) rfl zaw Y22 rfl <| zz 1 ?_
 refine J.aj Y8k znZ rfl rfl (fun w hw=>Da.Equal w none y.oA 0 y.oC [] y.oc (Cs.nil _ _) (((hys.keep (zaa (I:=[some g2,some g4,some g6]) (B0:=B) (l1:=[]) hV hn Y189 hw Y4 (Sub.nil _) rfl)).head).fo.cs) zaX (hys.head).dO) ?_
 refine J.aF rfl rfl <| J.aA rfl rfl Y18 <| zz 3 ?_
 refine T.aa rfl (fun h5=>?_) (fun h5=>?_)
 have hno:=hT.trans (zlS (show y.v.kind≠4 from hk4) (fun q=>h5 ((znU hx.hn hkk).1 q).2))
 refine zz 2 ?_
 refine J.ai Y8k 2 rfl rfl zaK (x.cells) rfl rfl rfl <| J.ae 4 rfl rfl rfl rfl (x.cells) rfl sz56 (Nat.le_of_ble_eq_true rfl) Y24 (Nat.zero_lt_succ _) trivial (x.cells) Y22 <| zz 9 ?_
 exact X.ag rfl (RV.agg 4 rfl rfl zaK (x.cells) Y22 Y22 rfl) (RV.tmp rfl) (fun w' hw'=>⟨(x,false),by show (if (false:Bool)=true then _ else _);rw [if_neg Y23];exact hno,rfl,hw'.s0⟩)
 have hho:x.v.holds y.v:=(znU hx.hn hkk).2 ⟨hq1,Decidable.not_not.1 h5⟩
 refine zz 3 ?_
 refine T.ae [] [(0,.g),(1,.q),(2,.g),(3,.g),(4,.g),(5,.q),(6,.g),(7,.g),(8,.g),(9,.q),(10,.l)] Y12 Y12 ?_ Y0
 refine J.aa zkl rfl rfl <| J.ag Y8k 7 rfl rfl zrU rfl rfl <| zz 1 ?_
 refine J.ah sl25 rfl (hA.isSome Y21) rfl Y5 Y5 Y22 rfl <| J.ak zaB rfl rfl <| J.ar Y8k hA (zab _) rfl zah (wc y.new) rfl Y22 rfl <| zz 1 ?_
 refine J.ah sl25 rfl (hA.isSome Y21) rfl Y5 Y5 Y22 rfl <| J.ak zaV rfl rfl <| J.av Y8k hA (zab _) rfl zaw Y22 rfl <| J.bL 2 rfl rfl fok83 rfl rfl rfl (fun w hw=>Dk.setN w _ x y.new (.slice y.nA y.nc.length y.nC) (hw.live 2 _ rfl)) ?_
 refine zz 4 ?_
 refine J.ax sl25 rfl (optInt.some rfl Y5 Y22) optInt.none optInt.none Y20 Y5 Y138 (Nat.le_refl _) rfl rfl <| zz 3 ?_
 refine X.aj [(2,⟨some g2,56,(x.setN y.new).cells⟩),(4,⟨some g4,56,zc1⟩),(6,⟨some g6,97,(zc2:List Value)⟩)] Y0 rfl fun Wx6 hWWx6=>?_
 have kpWx6:=(zaa (I:=[some g2,some g4,some g6]) (B0:=B) (l1:=[(2,⟨some g2,56,(x.setN y.new).cells⟩),(4,⟨some g4,56,zc1⟩),(6,⟨some g6,97,(zc2:List Value)⟩)]) hV hn Y189 hWWx6 Y4 Y0 rfl)
 have hx:=hx.keep kpWx6
 have hys:=hys.keep kpWx6
 have hVWx6:=hWWx6.s0
 exact X.ae ⟨Wx6,(x.setN y.new),(if cc=1 then A else A.map (·.add (1*35))),(cc - 1),ys2⟩ ⟨(zrJ hx),hxs,hxl,zaA hA hcc,zaj hcc,hys.tail,hmy.tail,(by show ys2.length≤_;simp at hyl;omega),hT.trans ((zkI (show y.v.kind≠4 from hk4) hho).trans (by rw [(put1 hkk hmy.head)])),hVWx6⟩ (by show ys2.length < ys2.length+1;omega) Y0 Y0
 have hk4:=h3
 refine zz 6 ?_
 refine J.ah sl25 rfl (hA.isSome Y21) rfl Y5 Y5 Y22 rfl <| J.ak zaR rfl rfl <| J.av Y8k hA (zab _) rfl one3 Y22 rfl <| J.as 29 (.int .i64 2) rfl (by show Value.int .i64 y.kind=_;rw [hkk]) <| J.aM zkB rfl rfl Y5 Y5 Y8 rfl <| J.ai Y8k 6 rfl rfl zkD ([.func (.func 85) #[] #[],.func (.func 86) #[] #[]]:List Value) rfl rfl rfl <| J.am 7 rfl zgb [.nilFunc,.nilFunc] rfl rfl fun g7 hg7=>J.ae 7 rfl rfl rfl rfl ([.func (.func 85) #[] #[],.func (.func 86) #[] #[]]:List Value) rfl sz96 Y7 Y6 Y11 trivial ([.func (.func 85) #[] #[],.func (.func 86) #[] #[]]:List Value) rfl ?_
 refine zz 5 ?_
 refine J.aa zbK rfl rfl <| J.ag Y8k 7 rfl rfl zfy rfl rfl <| J.aH zsB rfl rfl rfl (fun w hw=>Dk.getB w _ x hx.hn (hw.blkCs (k:=2) rfl)) ?_
 refine zz 3 ?_
 refine J.am 8 rfl zbr zc9 rfl rfl fun g8 hg8=>J.ae 8 rfl rfl rfl rfl (wc x.bal) rfl sz50 Y7 Y6 Y11 trivial (wc x.bal) rfl <| zz 4 ?_
 refine T.ae [] [(0,.q),(1,.g),(2,.g),(3,.g),(4,.q),(5,.g),(6,.g),(7,.g),(8,.g),(9,.g),(10,.g),(11,.q),(12,.q),(13,.g),(14,.g)] Y12 Y12 ?_ Y0
 refine J.ai Y8k 8 rfl rfl zah (wc x.bal) rfl rfl rfl <| zz 1 ?_
 refine J.ah sl25 rfl (hA.isSome Y21) rfl Y5 Y5 Y22 rfl <| J.ak zaW rfl rfl <| J.ar Y8k hA (zab _) rfl zah (wc y.old) rfl Y22 rfl <| J.aX zcd rfl rfl rfl <| zz 1 ?_
 refine J.an 44 rfl (fun h7=>?_) (fun h7=>?_)
 have hno:=hT.trans (zlS (show y.v.kind≠4 from hk4) (fun q=>h7 ((znT hkk).1 q).1))
 refine zz 13 ?_
 refine J.ai Y8k 2 rfl rfl zaK (x.cells) rfl rfl rfl <| J.ae 4 rfl rfl rfl rfl (x.cells) rfl sz56 (Nat.le_of_ble_eq_true rfl) Y24 (Nat.zero_lt_succ _) trivial (x.cells) Y22 <| zz 9 ?_
 exact X.ag rfl (RV.agg 4 rfl rfl zaK (x.cells) Y22 Y22 rfl) (RV.tmp rfl) (fun w' hw'=>⟨(x,false),by show (if (false:Bool)=true then _ else _);rw [if_neg Y23];exact hno,rfl,hw'.s0⟩)
 have hq1:=Decidable.not_not.1 h7
 refine zz 3 ?_
 refine J.ah sl25 rfl (hA.isSome Y21) rfl Y5 Y5 Y22 rfl <| zz 1 ?_
 refine J.ak zbe rfl rfl <| zz 1 ?_
 refine J.av Y8k hA (zab _) rfl zaw Y22 rfl <| zz 1 ?_
 refine J.aj Y8k znZ rfl rfl (fun w hw=>Da.Equal w none y.oA 0 y.oC [] y.oc (Cs.nil _ _) (((hys.keep (zaa (I:=[some g2,some g4,some g6]) (B0:=B) (l1:=[]) hV hn Y189 hw Y4 (Sub.nil _) rfl)).head).fo.cs) zaX (hys.head).dO) ?_
 refine J.aF rfl rfl <| J.aA rfl rfl Y18 <| zz 3 ?_
 refine T.aa rfl (fun h8=>?_) (fun h8=>?_)
 have hno:=hT.trans (zlS (show y.v.kind≠4 from hk4) (fun q=>h8 ((znT hkk).1 q).2))
 refine zz 2 ?_
 refine J.ai Y8k 2 rfl rfl zaK (x.cells) rfl rfl rfl <| J.ae 4 rfl rfl rfl rfl (x.cells) rfl sz56 (Nat.le_of_ble_eq_true rfl) Y24 (Nat.zero_lt_succ _) trivial (x.cells) Y22 <| zz 9 ?_
 exact X.ag rfl (RV.agg 4 rfl rfl zaK (x.cells) Y22 Y22 rfl) (RV.tmp rfl) (fun w' hw'=>⟨(x,false),by show (if (false:Bool)=true then _ else _);rw [if_neg Y23];exact hno,rfl,hw'.s0⟩)
 have hho:x.v.holds y.v:=(znT hkk).2 ⟨hq1,Decidable.not_not.1 h8⟩
 refine zz 3 ?_
 refine T.ae [] [(0,.g),(1,.q),(2,.g),(3,.g),(4,.g),(5,.q),(6,.g),(7,.g),(8,.g),(9,.q),(10,.l)] Y12 Y12 ?_ Y0
 refine J.aa zkl rfl rfl <| J.ag Y8k 7 rfl rfl zrU rfl rfl <| zz 1 ?_
 refine J.ah sl25 rfl (hA.isSome Y21) rfl Y5 Y5 Y22 rfl <| J.ak zaB rfl rfl <| J.ar Y8k hA (zab _) rfl zah (wc y.new) rfl Y22 rfl <| zz 1 ?_
 refine J.ah sl25 rfl (hA.isSome Y21) rfl Y5 Y5 Y22 rfl <| J.ak zaV rfl rfl <| J.av Y8k hA (zab _) rfl zaw Y22 rfl <| J.bL 2 rfl rfl fok86 rfl rfl rfl (fun w hw=>Dk.setB w _ x y.new (.slice y.nA y.nc.length y.nC) (hw.live 2 _ rfl)) ?_
 refine zz 4 ?_
 refine J.ax sl25 rfl (optInt.some rfl Y5 Y22) optInt.none optInt.none Y20 Y5 Y138 (Nat.le_refl _) rfl rfl <| zz 3 ?_
 refine X.aj [(2,⟨some g2,56,(x.setB y.new).cells⟩),(4,⟨some g4,56,zc1⟩),(6,⟨some g6,97,(zc2:List Value)⟩)] Y0 rfl fun Wx9 hWWx9=>?_
 have kpWx9:=(zaa (I:=[some g2,some g4,some g6]) (B0:=B) (l1:=[(2,⟨some g2,56,(x.setB y.new).cells⟩),(4,⟨some g4,56,zc1⟩),(6,⟨some g6,97,(zc2:List Value)⟩)]) hV hn Y189 hWWx9 Y4 Y0 rfl)
 have hx:=hx.keep kpWx9
 have hys:=hys.keep kpWx9
 have hVWx9:=hWWx9.s0
 exact X.ae ⟨Wx9,(x.setB y.new),(if cc=1 then A else A.map (·.add (1*35))),(cc - 1),ys2⟩ ⟨(zrK hx),hxs,hxl,zaA hA hcc,zaj hcc,hys.tail,hmy.tail,(by show ys2.length≤_;simp at hyl;omega),hT.trans ((zkI (show y.v.kind≠4 from hk4) hho).trans (by rw [(put2 hkk)])),hVWx9⟩ (by show ys2.length < ys2.length+1;omega) Y0 Y0
 have hk4:=h3
 refine zz 6 ?_
 refine J.ah sl25 rfl (hA.isSome Y21) rfl Y5 Y5 Y22 rfl <| J.ak zaR rfl rfl <| J.av Y8k hA (zab _) rfl one3 Y22 rfl <| J.as 29 (.int .i64 3) rfl (by show Value.int .i64 y.kind=_;rw [hkk]) <| J.aM zkB rfl rfl Y5 Y5 Y8 rfl <| J.ai Y8k 6 rfl rfl zkD ([.func (.func 87) #[] #[],.func (.func 88) #[] #[]]:List Value) rfl rfl rfl <| J.am 7 rfl zgb [.nilFunc,.nilFunc] rfl rfl fun g7 hg7=>J.ae 7 rfl rfl rfl rfl ([.func (.func 87) #[] #[],.func (.func 88) #[] #[]]:List Value) rfl sz96 Y7 Y6 Y11 trivial ([.func (.func 87) #[] #[],.func (.func 88) #[] #[]]:List Value) rfl ?_
 refine zz 5 ?_
 refine J.aa zbK rfl rfl <| J.ag Y8k 7 rfl rfl zfy rfl rfl <| J.aH zsA rfl rfl rfl (fun w hw=>Dk.getC w _ x hx.hn (hw.blkCs (k:=2) rfl)) ?_
 refine zz 3 ?_
 refine J.am 8 rfl zbr zc9 rfl rfl fun g8 hg8=>J.ae 8 rfl rfl rfl rfl (wc 0) rfl sz50 Y7 Y6 Y11 trivial (wc 0) rfl <| zz 4 ?_
 refine T.ae [] [(0,.q),(1,.g),(2,.g),(3,.g),(4,.q),(5,.g),(6,.g),(7,.g),(8,.g),(9,.g),(10,.g),(11,.q),(12,.q),(13,.g),(14,.g)] Y12 Y12 ?_ Y0
 refine J.ai Y8k 8 rfl rfl zah (wc 0) rfl rfl rfl <| zz 1 ?_
 refine J.ah sl25 rfl (hA.isSome Y21) rfl Y5 Y5 Y22 rfl <| J.ak zaW rfl rfl <| J.ar Y8k hA (zab _) rfl zah (wc y.old) rfl Y22 rfl <| J.aX zcd rfl rfl rfl <| zz 1 ?_
 refine J.an 44 rfl (fun h10=>?_) (fun h10=>?_)
 have hno:=hT.trans (zlS (show y.v.kind≠4 from hk4) (fun q=>h10 ((znS hkk).1 q).1))
 refine zz 13 ?_
 refine J.ai Y8k 2 rfl rfl zaK (x.cells) rfl rfl rfl <| J.ae 4 rfl rfl rfl rfl (x.cells) rfl sz56 (Nat.le_of_ble_eq_true rfl) Y24 (Nat.zero_lt_succ _) trivial (x.cells) Y22 <| zz 9 ?_
 exact X.ag rfl (RV.agg 4 rfl rfl zaK (x.cells) Y22 Y22 rfl) (RV.tmp rfl) (fun w' hw'=>⟨(x,false),by show (if (false:Bool)=true then _ else _);rw [if_neg Y23];exact hno,rfl,hw'.s0⟩)
 have hq1:=Decidable.not_not.1 h10
 refine zz 3 ?_
 refine J.ah sl25 rfl (hA.isSome Y21) rfl Y5 Y5 Y22 rfl <| zz 1 ?_
 refine J.ak zbe rfl rfl <| zz 1 ?_
 refine J.av Y8k hA (zab _) rfl zaw Y22 rfl <| zz 1 ?_
 refine J.aj Y8k znZ rfl rfl (fun w hw=>Da.Equal w x.cA y.oA x.cC y.oC x.code y.oc ((hx.keep (zaa (I:=[some g2,some g4,some g6]) (B0:=B) (l1:=[]) hV hn Y189 hw Y4 (Sub.nil _) rfl)).fc.cs) (((hys.keep (zaa (I:=[some g2,some g4,some g6]) (B0:=B) (l1:=[]) hV hn Y189 hw Y4 (Sub.nil _) rfl)).head).fo.cs) hx.dC (hys.head).dO) ?_
 refine J.aF rfl rfl <| J.aA rfl rfl Y18 <| zz 3 ?_
 refine T.aa rfl (fun h11=>?_) (fun h11=>?_)
 have hno:=hT.trans (zlS (show y.v.kind≠4 from hk4) (fun q=>h11 ((znS hkk).1 q).2))
 refine zz 2 ?_
 refine J.ai Y8k 2 rfl rfl zaK (x.cells) rfl rfl rfl <| J.ae 4 rfl rfl rfl rfl (x.cells) rfl sz56 (Nat.le_of_ble_eq_true rfl) Y24 (Nat.zero_lt_succ _) trivial (x.cells) Y22 <| zz 9 ?_
 exact X.ag rfl (RV.agg 4 rfl rfl zaK (x.cells) Y22 Y22 rfl) (RV.tmp rfl) (fun w' hw'=>⟨(x,false),by show (if (false:Bool)=true then _ else _);rw [if_neg Y23];exact hno,rfl,hw'.s0⟩)
 have hho:x.v.holds y.v:=(znS hkk).2 ⟨hq1,Decidable.not_not.1 h11⟩
 refine zz 3 ?_
 refine T.ae [] [(0,.g),(1,.q),(2,.g),(3,.g),(4,.g),(5,.q),(6,.g),(7,.g),(8,.g),(9,.q),(10,.l)] Y12 Y12 ?_ Y0
 refine J.aa zkl rfl rfl <| J.ag Y8k 7 rfl rfl zrU rfl rfl <| zz 1 ?_
 refine J.ah sl25 rfl (hA.isSome Y21) rfl Y5 Y5 Y22 rfl <| J.ak zaB rfl rfl <| J.ar Y8k hA (zab _) rfl zah (wc y.new) rfl Y22 rfl <| zz 1 ?_
 refine J.ah sl25 rfl (hA.isSome Y21) rfl Y5 Y5 Y22 rfl <| J.ak zaV rfl rfl <| J.av Y8k hA (zab _) rfl zaw Y22 rfl <| J.cQ fok88 rfl rfl rfl _ _ [g2] (fun i=>[(2,⟨some g2,56,(x.coded y.nc i).cells⟩)]) (fun i=>[(4,⟨some g4,56,zc1⟩),(6,⟨some g6,97,(zc2:List Value)⟩),(2,⟨some g2,56,(x.coded y.nc i).cells⟩),(7,⟨some g7,96,([.func (.func 87) #[] #[],.func (.func 88) #[] #[]]:List Value)⟩),(8,⟨some g8,50,(wc 0)⟩)]) (fun i=>Y0) (fun _=>rfl) (fun _ _ _=>Sub.nil _) (fun i g hg=>⟨2,_,_,rfl,by rw [List.mem_singleton.1 hg],rfl⟩) (fun w hw=>(El.setC w n (B++ids [(4,⟨some g4,56,zc1⟩),(6,⟨some g6,97,(zc2:List Value)⟩),(2,⟨some g2,56,x.cells⟩),(7,⟨some g7,96,([.func (.func 87) #[] #[],.func (.func 88) #[] #[]]:List Value)⟩),(8,⟨some g8,50,(wc 0)⟩)]) g2 x y.new y.nA y.nC y.nc (Nat.le_trans hn hw.size) (zaf (l1:=[(4,⟨some g4,56,zc1⟩),(6,⟨some g6,97,(zc2:List Value)⟩),(2,⟨some g2,56,x.cells⟩),(7,⟨some g7,96,([.func (.func 87) #[] #[],.func (.func 88) #[] #[]]:List Value)⟩),(8,⟨some g8,50,(wc 0)⟩)]) hB hw Y0 rfl) (fun q hq=>by rw [List.mem_singleton.1 hq];exact List.mem_append_right _ Y196) ((hys.keep (zaa (I:=[some g2,some g4,some g6]) (B0:=B) (l1:=[(4,⟨some g4,56,zc1⟩),(6,⟨some g6,97,(zc2:List Value)⟩),(2,⟨some g2,56,x.cells⟩),(7,⟨some g7,96,([.func (.func 87) #[] #[],.func (.func 88) #[] #[]]:List Value)⟩),(8,⟨some g8,50,(wc 0)⟩)]) hV hn Y189 hw Y4 Y0 rfl)).head.fn.cs) (fun hne=>zkm ((hys.keep (zaa (I:=[some g2,some g4,some g6]) (B0:=B) (l1:=[(4,⟨some g4,56,zc1⟩),(6,⟨some g6,97,(zc2:List Value)⟩),(2,⟨some g2,56,x.cells⟩),(7,⟨some g7,96,([.func (.func 87) #[] #[],.func (.func 88) #[] #[]]:List Value)⟩),(8,⟨some g8,50,(wc 0)⟩)]) hV hn Y189 hw Y4 Y0 rfl)).head.fn) hne (fun q hq=>by rw [List.mem_singleton.1 hq];exact List.mem_append_right _ Y196)) (hys.head.ln) (hw.live 2 _ rfl)).mono fun e w2 ⟨q,h1,h2,h3⟩=>⟨q,h1,h2,h3.only 0 2 rfl⟩) fun i64 W64 hP64 hW64=>?_
 have kpW64:=(zaa (I:=[some g2,some g4,some g6]) (B0:=B) (l1:=[(4,⟨some g4,56,zc1⟩),(6,⟨some g6,97,(zc2:List Value)⟩),(2,⟨some g2,56,(x.coded y.nc i64).cells⟩),(7,⟨some g7,96,([.func (.func 87) #[] #[],.func (.func 88) #[] #[]]:List Value)⟩),(8,⟨some g8,50,(wc 0)⟩)]) hV hn Y189 hW64 Y4 Y0 rfl)
 have hx:=hx.keep kpW64
 have hys:=hys.keep kpW64
 have hVW64:=hW64.s0
 refine zz 4 ?_
 refine J.ax sl25 rfl (optInt.some rfl Y5 Y22) optInt.none optInt.none Y20 Y5 Y138 (Nat.le_refl _) rfl rfl <| zz 3 ?_
 refine X.aj [(2,⟨some g2,56,(x.coded y.nc i64).cells⟩),(4,⟨some g4,56,zc1⟩),(6,⟨some g6,97,(zc2:List Value)⟩)] Y0 rfl fun Wx12 hWWx12=>?_
 have kpWx12:=(zaa (I:=[some g4,some g6,some g2,some g7,some g8]) (B0:=B) (l1:=[(2,⟨some g2,56,(x.coded y.nc i64).cells⟩),(4,⟨some g4,56,zc1⟩),(6,⟨some g6,97,(zc2:List Value)⟩)]) hVW64 hn Y189 hWWx12 Y4 Y0 rfl)
 have hx:=hx.keep kpWx12
 have hys:=hys.keep kpWx12
 have hP64:=hP64.keep kpWx12
 have hVWx12:=hWWx12.s0
 exact X.ae ⟨Wx12,(x.coded y.nc i64),(if cc=1 then A else A.map (·.add (1*35))),(cc - 1),ys2⟩ ⟨(zlC hx hys.head.dN hys.head.ln hP64),hxs,hxl,zaA hA hcc,zaj hcc,hys.tail,hmy.tail,(by show ys2.length≤_;simp at hyl;omega),hT.trans ((zkI (show y.v.kind≠4 from hk4) hho).trans (by rw [(put3 hkk)])),hVWx12⟩ (by show ys2.length < ys2.length+1;omega) Y0 Y0
 have hk4:=Decidable.not_not.1 h3
 have hend:=hT.trans (zrw (a:=x.v) (c:=y.v) (cs:=ys2.map Ch.v) hk4)
 refine zz 12 ?_
 refine J.aa zaQ rfl rfl <| J.ag Y8k 2 rfl rfl zdA rfl rfl <| zz 1 ?_
 refine J.aw ztO rfl rfl _ _ [(4,⟨some g4,56,zc1⟩),(6,⟨some g6,97,(zc2:List Value)⟩),(2,⟨some g2,56,x.cells⟩)] Y0 rfl (fun _ _=>Sub.nil _) (fun w hw=>Eh.store w n (B++ids [(4,⟨some g4,56,zc1⟩),(6,⟨some g6,97,(zc2:List Value)⟩),(2,⟨some g2,56,x.cells⟩)]) _ _ _ _ x.sl (y::ys2) (zaf (l1:=[(4,⟨some g4,56,zc1⟩),(6,⟨some g6,97,(zc2:List Value)⟩),(2,⟨some g2,56,x.cells⟩)]) hB hw Y0 rfl) (hx.keep (zaa (I:=[some g2,some g4,some g6]) (B0:=B) (l1:=[(4,⟨some g4,56,zc1⟩),(6,⟨some g6,97,(zc2:List Value)⟩),(2,⟨some g2,56,x.cells⟩)]) hV hn Y189 hw Y4 Y0 rfl)).fs.cs hxs (hA.ws hw (zab _)) hcc Y5 Y5) fun i71 W71 hP71 hW71=>?_
 obtain ⟨hs71,hr71,hf71⟩:=hP71
 have kpW71:=(zaa (I:=[some g2,some g4,some g6]) (B0:=B) (l1:=[(4,⟨some g4,56,zc1⟩),(6,⟨some g6,97,(zc2:List Value)⟩),(2,⟨some g2,56,x.cells⟩)]) hV hn Y189 hW71 Y4 Y0 rfl)
 have hx:=hx.keep kpW71
 have hys:=hys.keep kpW71
 have hVW71:=hW71.s0
 refine zz 3 ?_
 refine J.aa zaQ rfl rfl <| J.ae 2 rfl rfl rfl rfl [i71.1.2.val i71.1.1.length] rfl sz54 Y7 Y27 Y11 trivial ((x.slotted i71.1.1 i71.1.2).cells) Y22 <| zz 5 ?_
 refine J.ai Y8k 2 rfl rfl zaK ((x.slotted i71.1.1 i71.1.2).cells) rfl rfl rfl <| zz 1 ?_
 refine J.ae 4 rfl rfl rfl rfl ((x.slotted i71.1.1 i71.1.2).cells) rfl sz56 (Nat.le_of_ble_eq_true rfl) Y24 (Nat.zero_lt_succ _) trivial ((x.slotted i71.1.1 i71.1.2).cells) Y22 <| zz 4 ?_
 exact X.ag rfl (RV.agg 4 rfl rfl zaK ((x.slotted i71.1.1 i71.1.2).cells) Y22 Y22 rfl) (RV.tmp rfl) (fun w' hw'=>⟨(x.slotted i71.1.1 i71.1.2,i71.2),zho hs71 hend (hx.keep (((zaa (I:=[some g4,some g6,some g2]) (B0:=B) (l1:=[]) hVW71 hn Y189 hw' Y4 (Sub.nil _) rfl)).le (fun o h=>List.mem_append_left _ h))) (hf71.keep (((zaa (I:=[some g4,some g6,some g2]) (B0:=B) (l1:=[]) hVW71 hn Y189 hw' Y4 (Sub.nil _) rfl)).le (fun o h=>List.mem_append_left _ h))) hr71 (by simp at hyl ⊢<;>omega),rfl,hw'.s0⟩)
 obtain rfl:ys=[]:=List.length_eq_zero_iff.1 Y5
 have hend:=hT.trans (zrx (a:=x.v))
 refine zz 21 ?_
 refine J.aa zaQ rfl rfl <| J.ag Y8k 2 rfl rfl zdA rfl rfl <| zz 1 ?_
 refine J.aw ztO rfl rfl _ _ [(4,⟨some g4,56,zc1⟩),(6,⟨some g6,97,(zc2:List Value)⟩),(2,⟨some g2,56,x.cells⟩)] Y0 rfl (fun _ _=>Sub.nil _) (fun w hw=>Eh.store w n (B++ids [(4,⟨some g4,56,zc1⟩),(6,⟨some g6,97,(zc2:List Value)⟩),(2,⟨some g2,56,x.cells⟩)]) _ _ _ _ x.sl ([]:List Ch) (zaf (l1:=[(4,⟨some g4,56,zc1⟩),(6,⟨some g6,97,(zc2:List Value)⟩),(2,⟨some g2,56,x.cells⟩)]) hB hw Y0 rfl) (hx.keep (zaa (I:=[some g2,some g4,some g6]) (B0:=B) (l1:=[(4,⟨some g4,56,zc1⟩),(6,⟨some g6,97,(zc2:List Value)⟩),(2,⟨some g2,56,x.cells⟩)]) hV hn Y189 hw Y4 Y0 rfl)).fs.cs hxs (hA.ws hw (zab _)) hcc Y5 Y5) fun i71 W71 hP71 hW71=>?_
 obtain ⟨hs71,hr71,hf71⟩:=hP71
 have kpW71:=(zaa (I:=[some g2,some g4,some g6]) (B0:=B) (l1:=[(4,⟨some g4,56,zc1⟩),(6,⟨some g6,97,(zc2:List Value)⟩),(2,⟨some g2,56,x.cells⟩)]) hV hn Y189 hW71 Y4 Y0 rfl)
 have hx:=hx.keep kpW71
 have hys:=hys.keep kpW71
 have hVW71:=hW71.s0
 refine zz 3 ?_
 refine J.aa zaQ rfl rfl <| J.ae 2 rfl rfl rfl rfl [i71.1.2.val i71.1.1.length] rfl sz54 Y7 Y27 Y11 trivial ((x.slotted i71.1.1 i71.1.2).cells) Y22 <| zz 5 ?_
 refine J.ai Y8k 2 rfl rfl zaK ((x.slotted i71.1.1 i71.1.2).cells) rfl rfl rfl <| zz 1 ?_
 refine J.ae 4 rfl rfl rfl rfl ((x.slotted i71.1.1 i71.1.2).cells) rfl sz56 (Nat.le_of_ble_eq_true rfl) Y24 (Nat.zero_lt_succ _) trivial ((x.slotted i71.1.1 i71.1.2).cells) Y22 <| zz 4 ?_
 exact X.ag rfl (RV.agg 4 rfl rfl zaK ((x.slotted i71.1.1 i71.1.2).cells) Y22 Y22 rfl) (RV.tmp rfl) (fun w' hw'=>⟨(x.slotted i71.1.1 i71.1.2,i71.2),zho hs71 hend (hx.keep (((zaa (I:=[some g4,some g6,some g2]) (B0:=B) (l1:=[]) hVW71 hn Y189 hw' Y4 (Sub.nil _) rfl)).le (fun o h=>List.mem_append_left _ h))) (hf71.keep (((zaa (I:=[some g4,some g6,some g2]) (B0:=B) (l1:=[]) hVW71 hn Y189 hw' Y4 (Sub.nil _) rfl)).le (fun o h=>List.mem_append_left _ h))) hr71 (by simp at hyl ⊢<;>omega),rfl,hw'.s0⟩)
end Go.Proofs.YtlllcafedekojaaGreatDoor.El
namespace Go.Fz
open Go Go.Fw Go.Proofs.Tryz
theorem zdd:OneT prog 26:=⟨⟨_,underlying26,rfl⟩,Y12⟩
theorem ziX:OneT prog 22:=⟨⟨_,underlying22,rfl⟩,Y12⟩
theorem sz26:SizeT prog 26 1:=Y9
theorem sz22:SizeT prog 22 1:=Y9
theorem zti:ZeroT prog 22 (.slice none 0 0):=Y17
theorem zth:ZeroT prog 26 (.int .i64 0):=Y17
theorem zsF:FnOk prog 50:=FnOk.mk' func50 Y12 rfl
theorem fok51:FnOk prog 51:=FnOk.mk' func51 Y12 rfl
theorem fok52:FnOk prog 52:=FnOk.mk' func52 Y12 rfl
end Go.Fz
namespace Go.Proofs.YtlllcafedekojaaGreatDoor.Em
open Go Go.Fw Go.Fz Go.Proofs.Tryz
attribute [local irreducible] J T X
theorem eqA47:EqA prog 47 20:=⟨⟨5,zgZ,one5,underlying5⟩,by kernel_rfl⟩
theorem Apply1 {ck:List AV→Int×Int} (hck:CkOk prog 35 ck) (w:World) (n:Nat) (B:List (Option Nat)) (ge go:Nat) (A:Option Addr) (c:Nat) (xs:List Ac) (ez z:Int) (o:Value) (hn:n≤w.heap.size) (hg:∀ g∈[ge,go],some g∈B) (hf:Fit w n B A (rowA xs)) (hx:AllA w n B xs) (hl:xs.length≤1000000000) (hE:(if ez=0 then (ck (xs.map Ac.v)).1 else ez)=z) (hO:(if z=0 then .slice A xs.length c else .slice none 0 0)=o) (h5:Ent.At w ⟨some ge,26,[.int .i64 ez]⟩) (h4:Ent.At w ⟨some go,22,[.slice A xs.length c]⟩) (hne:ge≠go):
    CallsD prog 50 [.pointer (some ⟨ge,0,none⟩),.pointer (some ⟨go,0,none⟩)].toArray .returning w fun e u w'=>u=.returning∧((∃ z,e=.returned z)∧WS w [ge,go] [(5,⟨some ge,26,[.int .i64 z]⟩),(4,⟨some go,22,[o]⟩)] w'):=by
 refine zkq [ge,go] 11 [(5,⟨some ge,26,[.int .i64 ez]⟩),(4,⟨some go,22,[.slice A xs.length c]⟩)] func50 rfl ntmps50 Y20 (WS.two54 h5 h4 hne) <| zz 3 ?_
 refine J.ag Y8k 5 rfl rfl zdd rfl rfl <| zz 3 ?_
 refine T.aa rfl (fun h1=>?_) (fun h1=>?_)
 have hz:=h1
 refine zz 1 ?_
 refine J.ag Y8k 4 rfl rfl ziX rfl rfl <| J.aj Y8k zkj rfl rfl (fun w hw=>hck w n _ A c xs (hf.keep (zad (B0:=B) (l1:=[]) hn hg hw (Sub.nil _) rfl)).cs (hx.keep (zad (B0:=B) (l1:=[]) hn hg hw (Sub.nil _) rfl)) hl) ?_
 refine zz 3 ?_
 refine J.ae 5 rfl rfl rfl rfl [.int .i64 (ck (xs.map Ac.v)).1] rfl sz26 Y7 Y27 Y11 trivial [.int .i64 (ck (xs.map Ac.v)).1] rfl <| zz 1 ?_
 refine X.ah 5 ⟨some ge,26,[.int .i64 z]⟩ rfl (by rw [← hE,if_pos hz]) <| zz 3 ?_
 refine J.ag Y8k 5 rfl rfl zdd rfl rfl <| zz 3 ?_
 refine T.aa rfl (fun h2=>?_) (fun h2=>?_)
 have hz2:=h2
 refine zz 1 ?_
 refine J.ae 4 rfl rfl rfl rfl [.slice none 0 0] rfl sz22 Y7 Y27 Y11 trivial [.slice none 0 0] rfl <| zz 1 ?_
 refine X.ah 4 ⟨some go,22,[o]⟩ rfl (by rw [← hO,if_neg hz2]) ?_
 exact X.am rfl (fun w' hw'=>⟨⟨_,rfl⟩,hw'.sub Y144⟩)
 have hz2:=Decidable.not_not.1 h2
 refine T.ao 4 (⟨some go,22,[o]⟩) rfl (by rw [← hO,if_pos hz2]) <| zz 1 ?_
 exact X.am rfl (fun w' hw'=>⟨⟨_,rfl⟩,hw'.sub Y144⟩)
 have hz:=h1
 refine T.ao 5 (⟨some ge,26,[.int .i64 z]⟩) rfl (by rw [← hE,if_neg hz]) <| zz 4 ?_
 refine J.ag Y8k 5 rfl rfl zdd rfl rfl <| zz 3 ?_
 refine T.aa rfl (fun h3=>?_) (fun h3=>?_)
 have hz2:=h3
 refine zz 1 ?_
 refine J.ae 4 rfl rfl rfl rfl [.slice none 0 0] rfl sz22 Y7 Y27 Y11 trivial [.slice none 0 0] rfl <| zz 1 ?_
 refine X.ah 4 ⟨some go,22,[o]⟩ rfl (by rw [← hO,if_neg hz2]) ?_
 exact X.am rfl (fun w' hw'=>⟨⟨_,rfl⟩,hw'.sub Y144⟩)
 have hz2:=Decidable.not_not.1 h3
 refine T.ao 4 (⟨some go,22,[o]⟩) rfl (by rw [← hO,if_pos hz2]) <| zz 1 ?_
 exact X.am rfl (fun w' hw'=>⟨⟨_,rfl⟩,hw'.sub Y144⟩)
theorem Apply {ck:List AV→Int×Int} (hck:CkOk prog 35 ck) (w:World) (n:Nat) (B:List (Option Nat)) (A1 A2:Option Addr) (c1 c2:Nat) (ps:List Ac) (ds:List Ch) (hn:n≤w.heap.size) (hB:∀ g,some g∈B→g < w.heap.size) (hA1:Cs w A1 (rowA ps)) (hb1:ps.length≤c1) (hd1:AllA w n B ps) (hp1:Cap ps) (hf1:Few ps) (hA3:Cs w A2 (rowC ds)) (hb2:ds.length≤c2) (hd2:AllC w n B ds) (hl:ps.length+ds.length≤500000000):
    Calls prog 24 [.slice A1 ps.length c1,.slice A2 ds.length c2].toArray w fun e w'=>∃ q:List Ac×RowIx,(q.1.map Ac.v=(apZ ck (ps.map Ac.v) (ds.map Ch.v)).1∧AllA w' n B q.1∧q.2.Ok 27 q.1.length∧Fit w' n B (hdOf q.2.id) (rowA q.1)∧Cap q.1)∧e=.returned (.tuple #[q.2.val q.1.length,.int .i64 (apZ ck (ps.map Ac.v) (ds.map Ch.v)).2])∧WS w [] [] w':=by
 refine zgU [] 101 [] func24 rfl ntmps24 Y20 (WS.refl _ _) <| zz 2 ?_
 refine J.am 4 rfl zti [.slice none 0 0] rfl rfl fun g4 hg4=>J.am 5 rfl zth [.int .i64 0] rfl rfl fun g5 hg5=>zz 6 ?_
 refine J.aj Y8k zkj rfl rfl (fun w hw=>hck w n _ _ _ ps (hA1.ws hw (zab _)) (hd1.keep (zad (B0:=B) (l1:=[]) hn Y189 hw (Sub.nil _) rfl)) Y5) ?_
 refine zz 13 ?_
 refine T.aa rfl (fun h1=>?_) (fun h1=>?_)
 have hk1:=h1
 refine zz 3 ?_
 refine J.ae 4 rfl rfl rfl rfl [.slice none 0 0] rfl sz22 Y7 Y27 Y11 trivial [.slice none 0 0] rfl <| J.ae 5 rfl rfl rfl rfl [.int .i64 (ck (ps.map Ac.v)).1] rfl sz26 Y7 Y27 Y11 trivial [.int .i64 (ck (ps.map Ac.v)).1] rfl <| zz 4 ?_
 exact X.aC rfl (RV.one 4 rfl rfl ziX rfl) (RV.one 5 rfl rfl zdd rfl) (fun w' hw'=>⟨([],RowIx.nil),⟨by rw [zuH hk1];rfl,AllA.nil,RowIx.nil_ok 27,Fit.nil,Cap.nil⟩,by rw [zuH hk1];rfl,hw'.s0⟩)
 have hk1:=Decidable.not_not.1 h1
 refine zz 6 ?_
 refine J.aj Y8k ztQ rfl rfl (fun w hw=>Db.form w n _ _ _ ds (hA3.ws hw (zab _)) (hd2.keep (zad (B0:=B) (l1:=[]) hn Y189 hw (Sub.nil _) rfl)) Y5) ?_
 refine zz 9 ?_
 refine T.aa rfl (fun h2=>?_) (fun h2=>?_)
 have hk2:=h2
 refine zz 3 ?_
 refine J.ae 4 rfl rfl rfl rfl [.slice none 0 0] rfl sz22 Y7 Y27 Y11 trivial [.slice none 0 0] rfl <| J.ae 5 rfl rfl rfl rfl [.int .i64 (formZ (ds.map Ch.v))] rfl sz26 Y7 Y27 Y11 trivial [.int .i64 (formZ (ds.map Ch.v))] rfl <| zz 4 ?_
 exact X.aC rfl (RV.one 4 rfl rfl ziX rfl) (RV.one 5 rfl rfl zdd rfl) (fun w' hw'=>⟨([],RowIx.nil),⟨by rw [zuI hk1 hk2];rfl,AllA.nil,RowIx.nil_ok 27,Fit.nil,Cap.nil⟩,by rw [zuI hk1 hk2];rfl,hw'.s0⟩)
 have hk2:=Decidable.not_not.1 h2
 refine zz 3 ?_
 refine T.ah 1 [.l] _ _ rfl rfl rfl <| J.bl (vf:=[]) (vc:=[_,_]) rfl rfl rfl <| J.bP rfl ?_
 refine zz 3 ?_
 refine T.aj 60 56 <| T.al [(4,⟨some g4,22,[.slice none 0 0]⟩),(5,⟨some g5,26,[.int .i64 0]⟩),(60,⟨none,56,[]⟩)] Y0 rfl fun Wl3 hWWl3=>?_
 have kpWl3:=(zad (B0:=B) (l1:=[(4,⟨some g4,22,[.slice none 0 0]⟩),(5,⟨some g5,26,[.int .i64 0]⟩),(60,⟨none,56,[]⟩)]) hn Y189 hWWl3 Y0 rfl)
 have hd1:=hd1.keep kpWl3
 have hd2:=hd2.keep kpWl3
 have hVWl3:=hWWl3.s0
 refine T.ag (ι:=World×Option Addr×Nat×List Ac×Option Addr×Nat×List Ch×List Ac×RowIx) (fun (W,Aa,ca,xs,Ab,cb,ys,zs,r)=>(Cs w Aa (rowA xs)∧xs.length≤ca∧AllA W n (B++[some g4,some g5,r.id]) xs∧Cap xs∧Few xs)∧(Cs w Ab (rowC ys)∧ys.length≤cb∧AllC W n (B++[some g4,some g5,r.id]) ys∧AllMay ys)∧(apL (ps.map Ac.v) (ds.map Ch.v)=(apL (xs.map Ac.v) (ys.map Ch.v)).map ((zs.map Ac.v)++·)∧zs.length+xs.length+ys.length≤500000000)∧(r.Ok 27 zs.length∧AllA W n (B++[some g4,some g5,r.id]) zs∧Cap zs)∧WS w [] [] W) (fun (W,Aa,ca,xs,Ab,cb,ys,zs,r)=>[(4,.pointer (some ⟨g4,0,none⟩)),(5,.pointer (some ⟨g5,0,none⟩)),(25,.func (.func 50) #[] [.pointer (some ⟨g5,0,none⟩),.pointer (some ⟨g4,0,none⟩)].toArray),(0,.slice Aa xs.length ca),(1,.slice Ab ys.length cb)]) (fun (W,Aa,ca,xs,Ab,cb,ys,zs,r)=>((5,⟨some g5,26,[.int .i64 0]⟩)::(4,⟨some g4,22,[r.val zs.length]⟩)::(60,r.ent 56 (rowA zs))::snapL W w.heap.size [some g4,some g5,r.id])) (fun (W,Aa,ca,xs,Ab,cb,ys,zs,r)=>xs.length+ys.length) ⟨Wl3,A1,c1,ps,A2,c2,ds,[],RowIx.nil⟩ ⟨⟨hA1,hb1,hd1,hp1,hf1⟩,⟨hA3,hb2,hd2,zim hk2⟩,⟨by simp,by simpa using hl⟩,⟨RowIx.nil_ok 27,AllA.nil,Cap.nil⟩,hVWl3⟩ Y0 Y0 ?_
 rintro ⟨W,Aa,ca,xs,Ab,cb,ys,zs,r⟩ ⟨⟨hA,hca,hxs,hxc,hxf⟩,⟨hA2,hcb,hys,hmy⟩,⟨hJ,hlen⟩,⟨hr,hz,hzc⟩,hV⟩
 try dsimp only at *
 refine T.ai (ι:=Unit) (fun (_:Unit)=>0 < xs.length∨0 < ys.length) (fun (_:Unit)=>[(4,.pointer (some ⟨g4,0,none⟩)),(5,.pointer (some ⟨g5,0,none⟩)),(25,.func (.func 50) #[] [.pointer (some ⟨g5,0,none⟩),.pointer (some ⟨g4,0,none⟩)].toArray),(0,.slice Aa xs.length ca),(1,.slice Ab ys.length cb)]) (fun (_:Unit)=>((5,⟨some g5,26,[.int .i64 0]⟩)::(4,⟨some g4,22,[r.val zs.length]⟩)::(60,r.ent 56 (rowA zs))::snapL W w.heap.size [some g4,some g5,r.id])) ?_ ?_
 refine zz 3 ?_
 refine J.al underlying22 rfl rfl <| zz 2 ?_
 refine J.an 29 rfl (fun h4=>?_) (fun h4=>?_)
 refine zz 8 ?_
 exact X.at () Y5 Y0 Y0
 refine zz 2 ?_
 refine J.al underlying25 rfl rfl <| zz 4 ?_
 refine T.aa rfl (fun h5=>?_) (fun h5=>?_)
 refine zz 1 ?_
 exact X.at () Y5 Y0 Y0
 obtain rfl:xs=[]:=List.length_eq_zero_iff.1 Y5
 obtain rfl:ys=[]:=List.length_eq_zero_iff.1 Y5
 have hfin:=zuG hJ
 refine zz 7 ?_
 refine J.ag Y8k 4 rfl rfl ziX rfl rfl <| J.ae 4 rfl rfl rfl rfl [r.val zs.length] rfl sz22 Y7 Y27 Y11 trivial [r.val zs.length] rfl <| J.ae 5 rfl rfl rfl rfl [.int .i64 0] rfl sz26 Y7 Y27 Y11 trivial [.int .i64 0] rfl <| zz 3 ?_
 by_cases hck0:(ck (zs.map Ac.v)).1=0
 refine X.au (M':=[g5,g4]) (l2:=[(5,⟨some g5,26,[.int .i64 0]⟩),(4,⟨some g4,22,[.slice (hdOf r.id) zs.length r.cap]⟩)]) rfl rfl zsF (fun w hw=>Em.Apply1 hck w n (B++ids [(5,⟨some g5,26,[.int .i64 0]⟩),(4,⟨some g4,22,[r.val zs.length]⟩)]) g5 g4 (hdOf r.id) r.cap zs 0 0 (.slice (hdOf r.id) zs.length r.cap) (Nat.le_trans hn hw.size) (fun g h=>List.mem_append_right _ (by simpa [ids] using h)) (zly hw (j:=60) (a:=5) (b:=4) rfl rfl rfl Y23 Y23 (fun g h=>⟨hB g h,fun q=>by cases q⟩)) (hz.keep (zaa (I:=[some g4,some g5,r.id]) (B0:=B) (l1:=[(5,⟨some g5,26,[.int .i64 0]⟩),(4,⟨some g4,22,[r.val zs.length]⟩)]) hV hn Y189 hw Y4 Y0 rfl)) Y5 (by rw [if_pos rfl];exact hck0) Y22 (hw.live 5 _ rfl) (hw.live 4 _ rfl) (fun h=>hw.apart 5 4 _ _ g5 rfl rfl Y23 rfl (by rw [h]))) (hM54 rfl rfl rfl rfl) (RV.one 4 rfl rfl ziX rfl) (RV.one 5 rfl rfl zdd rfl) fun w' hw'=>?_
 exact ⟨(zs,r),⟨by rw [zoI hk1 hk2 hfin hck0],hz.keep (((zaa (I:=[some g4,some g5,r.id]) (B0:=B) (l1:=[]) hV hn Y189 hw' Y4 (Sub.nil _) rfl)).le (fun o h=>List.mem_append_left _ h)),hr,zbc hw' (j:=60) rfl (fun g h=>⟨hB g h,fun q=>by cases q⟩),hzc⟩,by rw [zoI hk1 hk2 hfin hck0];rfl,hw'.s0⟩
 refine X.au (M':=[g5,g4]) (l2:=[(5,⟨some g5,26,[.int .i64 (ck (zs.map Ac.v)).1]⟩),(4,⟨some g4,22,[.slice none 0 0]⟩)]) rfl rfl zsF (fun w hw=>Em.Apply1 hck w n (B++ids [(5,⟨some g5,26,[.int .i64 0]⟩),(4,⟨some g4,22,[r.val zs.length]⟩)]) g5 g4 (hdOf r.id) r.cap zs 0 (ck (zs.map Ac.v)).1 (.slice none 0 0) (Nat.le_trans hn hw.size) (fun g h=>List.mem_append_right _ (by simpa [ids] using h)) (zly hw (j:=60) (a:=5) (b:=4) rfl rfl rfl Y23 Y23 (fun g h=>⟨hB g h,fun q=>by cases q⟩)) (hz.keep (zaa (I:=[some g4,some g5,r.id]) (B0:=B) (l1:=[(5,⟨some g5,26,[.int .i64 0]⟩),(4,⟨some g4,22,[r.val zs.length]⟩)]) hV hn Y189 hw Y4 Y0 rfl)) Y5 (by rw [if_pos rfl]) (by rw [if_neg hck0]) (hw.live 5 _ rfl) (hw.live 4 _ rfl) (fun h=>hw.apart 5 4 _ _ g5 rfl rfl Y23 rfl (by rw [h]))) (hM54 rfl rfl rfl rfl) (RV.one 4 rfl rfl ziX rfl) (RV.one 5 rfl rfl zdd rfl) fun w' hw'=>?_
 exact ⟨([],RowIx.nil),⟨by rw [zoJ hk1 hk2 hfin hck0];rfl,AllA.nil,RowIx.nil_ok 27,Fit.nil,Cap.nil⟩,by rw [zoJ hk1 hk2 hfin hck0];rfl,hw'.s0⟩
 rintro _ hsome
 refine zz 3 ?_
 refine J.am 9 rfl zcG zc1 rfl rfl fun g9 hg9=>zz 2 ?_
 refine T.ai (ι:=Ac×Option Addr×Nat×List Ac) (fun (z,A,c,us)=>z.Ok W n (B++[some g4,some g5,r.id])∧z.sl.length≤z.sC∧z.sl.length≤500000000∧Cs w A (rowA us)∧us.length≤c∧AllA W n (B++[some g4,some g5,r.id]) us∧Cap us∧Few us∧apL (xs.map Ac.v) (ys.map Ch.v)=((tuL z.v (mine z.v.who (ys.map Ch.v))).bind fun a=>(apL (us.map Ac.v) (rest z.v.who (ys.map Ch.v))).map (keepA a++·))∧(us.length < xs.length∨(us.length=xs.length∧∃ y ys2,ys=y::ys2∧y.v.who=z.v.who))) (fun (z,A,c,us)=>[(4,.pointer (some ⟨g4,0,none⟩)),(5,.pointer (some ⟨g5,0,none⟩)),(25,.func (.func 50) #[] [.pointer (some ⟨g5,0,none⟩),.pointer (some ⟨g4,0,none⟩)].toArray),(0,.slice A us.length c),(1,.slice Ab ys.length cb),(9,.pointer (some ⟨g9,0,none⟩))]) (fun (z,A,c,us)=>((5,⟨some g5,26,[.int .i64 0]⟩)::(4,⟨some g4,22,[r.val zs.length]⟩)::(60,r.ent 56 (rowA zs))::(9,⟨some g9,56,z.cells⟩)::snapL W w.heap.size [some g4,some g5,r.id])) ?_ ?_
 refine T.ai (ι:=Nat) (fun (qb:Nat)=>(qb=1→0 < ys.length∧(xs.length=0∨(0 < xs.length∧(ys.getD 0 default).v.who < (xs.getD 0 default).v.who)))∧(qb≠1→0 < xs.length∧(ys.length=0∨¬ (ys.getD 0 default).v.who < (xs.getD 0 default).v.who))) (fun (qb:Nat)=>[(4,.pointer (some ⟨g4,0,none⟩)),(5,.pointer (some ⟨g5,0,none⟩)),(25,.func (.func 50) #[] [.pointer (some ⟨g5,0,none⟩),.pointer (some ⟨g4,0,none⟩)].toArray),(0,.slice Aa xs.length ca),(1,.slice Ab ys.length cb),(9,.pointer (some ⟨g9,0,none⟩)),(53,.bool (decide (qb=1)))]) (fun (qb:Nat)=>((5,⟨some g5,26,[.int .i64 0]⟩)::(4,⟨some g4,22,[r.val zs.length]⟩)::(60,r.ent 56 (rowA zs))::(9,⟨some g9,56,zc1⟩)::snapL W w.heap.size [some g4,some g5,r.id])) ?_ ?_
 refine T.ae [] [(0,.g),(1,.g),(2,.g),(3,.g),(4,.g),(5,.g),(6,.g),(7,.g),(8,.g),(9,.g),(10,.g),(11,.g),(12,.g),(13,.g),(14,.g),(15,.g),(16,.q),(17,.g),(18,.g),(19,.g)] Y12 Y12 ?_ Y0
 refine zz 1 ?_
 refine J.al underlying22 rfl rfl <| zz 2 ?_
 refine J.an 37 rfl (fun h6=>?_) (fun h6=>?_)
 refine zz 17 ?_
 exact X.at 1 ⟨fun _=>⟨by omega,.inl Y5⟩,fun q=>absurd rfl q⟩ Y0 Y0
 obtain ⟨x,xs2,rfl⟩:=List.exists_cons_of_length_pos (l:=xs) Y5
 refine zz 2 ?_
 refine J.al underlying25 rfl rfl <| zz 2 ?_
 refine J.an 41 rfl (fun h7=>?_) (fun h7=>?_)
 obtain ⟨y,ys2,rfl⟩:=List.exists_cons_of_length_pos (l:=ys) Y5
 refine zz 2 ?_
 refine J.ah sl25 rfl (hA2.isSome Y21) rfl Y5 Y5 Y22 rfl <| zz 1 ?_
 refine J.ak zdk rfl rfl <| zz 1 ?_
 refine J.bf zgZ Y23 rfl rfl <| zz 2 ?_
 refine J.ah sl22 rfl (hA.isSome Y158) rfl Y5 Y5 Y22 rfl <| zz 1 ?_
 refine J.ak zaJ rfl rfl <| zz 1 ?_
 refine J.bf zgZ Y23 rfl rfl <| zz 1 ?_
 refine J.aj Y8k zpO rfl rfl (fun w hw=>Da.Compare w _ _ _ _ (adL y.who) (adL x.who) (zrL (hA2.ws hw (zab _))) (zni (hA.ws hw (zab _))) (zdz _) (zdz _)) ?_
 refine J.as 50 (.int .i64 (cmpZ (y.who%256^20) (x.who%256^20))) rfl (by rw [zlD]) <| zz 4 ?_
 refine X.aJ 53 rfl fun nq hnq=>?_
 exact X.at nq ⟨fun q=>⟨Nat.zero_lt_succ _,.inr ⟨Nat.zero_lt_succ _,zlE (a:=y.who%256^20) (b:=x.who%256^20) (hnq.1 q)⟩⟩,fun q=>⟨Nat.zero_lt_succ _,.inr (fun r=>q (hnq.2 (by rw [zsJ (a:=y.who%256^20) (b:=x.who%256^20) r];decide)))⟩⟩ Y0 Y0
 obtain rfl:ys=[]:=List.length_eq_zero_iff.1 Y5
 refine zz 13 ?_
 exact X.at 0 ⟨fun q=>(by cases q),fun _=>⟨by simp,.inl rfl⟩⟩ Y0 Y0
 rintro qb hqb
 refine T.aa rfl (fun h8=>?_) (fun h8=>?_)
 obtain ⟨hy0,hlt0⟩:=hqb.1 h8
 obtain ⟨y,ys2,rfl⟩:=List.exists_cons_of_length_pos (l:=ys) Y5
 refine zz 2 ?_
 refine J.ah sl25 rfl (hA2.isSome Y21) rfl Y5 Y5 Y22 rfl <| J.ak zdk rfl rfl <| J.ar Y8k hA2 (zab _) rfl zcs (ac y.who) rfl Y22 rfl <| J.aa zaJ rfl rfl <| J.ae 9 rfl rfl rfl rfl (ac y.who) rfl sz47 Y7 Y6 Y11 trivial ((Ac.bare y.who).cells) Y12 <| zz 1 ?_
 exact X.at ⟨(Ac.bare y.who),Aa,ca,xs⟩ ⟨zgY _,Nat.zero_le _,Nat.zero_le _,hA,hca,hxs,hxc,hxf,by rw [Ac.bare_v];exact zrk (c:=y.v) (cs:=ys2.map Ch.v) (l:=xs.map Ac.v) (ztL hlt0),.inr ⟨rfl,y,ys2,rfl,by rw [Ac.bare_v];rfl⟩⟩ Y0 Y0
 obtain ⟨hx0,hlt0⟩:=hqb.2 h8
 obtain ⟨x,xs2,rfl⟩:=List.exists_cons_of_length_pos (l:=xs) Y5
 refine T.ae [] [(0,.g),(1,.g),(2,.q),(3,.g),(4,.g),(5,.l),(6,.g)] Y12 Y12 ?_ Y0
 refine zz 1 ?_
 refine J.ah sl22 rfl (hA.isSome Y158) rfl Y5 Y5 Y22 rfl <| J.ar Y8k hA (zab _) rfl zaK (x.cells) rfl (zcN _ _) rfl <| zz 1 ?_
 refine J.ax sl22 rfl (optInt.some rfl Y5 Y22) optInt.none optInt.none Y20 Y5 Y136 (Nat.le_refl _) rfl rfl <| J.ae 9 rfl rfl rfl rfl (x.cells) rfl sz56 (Nat.le_of_ble_eq_true rfl) Y24 (Nat.zero_lt_succ _) trivial (x.cells) rfl <| zz 2 ?_
 exact X.at ⟨x,(if ca=1 then Aa else Aa.map (·.add (1*27))),(ca - 1),xs2⟩ ⟨hxs.head,hxc.head,hxf.head,zcm hA hca,zaj hca,hxs.tail,hxc.tail,hxf.tail,zlJ (a:=x.v) (l:=xs2.map Ac.v) (d:=ys.map Ch.v) (ztK hlt0),.inl (Nat.lt_succ_self _)⟩ Y0 Y0
 rintro ⟨z,A,c,us⟩ ⟨hzo,hzs,hzl,hA0,hc0,hus,huc,huf,hst,hms⟩
 try dsimp only at *
 refine zz 5 ?_
 refine T.ai (ι:=Nat) (fun (j:Nat)=>j≤ys.length∧mine z.v.who (ys.map Ch.v)=(ys.take j).map Ch.v∧rest z.v.who (ys.map Ch.v)=(ys.drop j).map Ch.v∧us.length+(ys.drop j).length < xs.length+ys.length) (fun (j:Nat)=>[(4,.pointer (some ⟨g4,0,none⟩)),(5,.pointer (some ⟨g5,0,none⟩)),(25,.func (.func 50) #[] [.pointer (some ⟨g5,0,none⟩),.pointer (some ⟨g4,0,none⟩)].toArray),(0,.slice A us.length c),(1,.slice Ab ys.length cb),(9,.pointer (some ⟨g9,0,none⟩)),(10,.int .i64 ((j:Nat):Int))]) (fun (j:Nat)=>((5,⟨some g5,26,[.int .i64 0]⟩)::(4,⟨some g4,22,[r.val zs.length]⟩)::(60,r.ent 56 (rowA zs))::(9,⟨some g9,56,z.cells⟩)::snapL W w.heap.size [some g4,some g5,r.id])) ?_ ?_
 refine zz 1 ?_
 refine T.ag (ι:=Nat) (fun (j:Nat)=>j≤ys.length∧Mine z ys j) (fun (j:Nat)=>[(4,.pointer (some ⟨g4,0,none⟩)),(5,.pointer (some ⟨g5,0,none⟩)),(25,.func (.func 50) #[] [.pointer (some ⟨g5,0,none⟩),.pointer (some ⟨g4,0,none⟩)].toArray),(0,.slice A us.length c),(1,.slice Ab ys.length cb),(9,.pointer (some ⟨g9,0,none⟩)),(10,.int .i64 ((j:Nat):Int))]) (fun (j:Nat)=>((5,⟨some g5,26,[.int .i64 0]⟩)::(4,⟨some g4,22,[r.val zs.length]⟩)::(60,r.ent 56 (rowA zs))::(9,⟨some g9,56,z.cells⟩)::snapL W w.heap.size [some g4,some g5,r.id])) (fun (j:Nat)=>ys.length - j) 0 ⟨Nat.zero_le _,Mine.zero⟩ Y0 Y0 ?_
 rintro j ⟨hj,hmine⟩
 refine zz 2 ?_
 refine T.ae [] [(0,.g),(1,.g),(2,.g),(3,.g),(4,.g),(5,.g),(6,.g),(7,.g),(8,.g),(9,.q),(10,.g),(11,.q),(12,.g),(13,.g)] Y12 Y12 ?_ Y0
 refine zz 2 ?_
 refine J.al underlying25 rfl rfl <| zz 2 ?_
 refine J.an 68 rfl (fun h9=>?_) (fun h9=>?_)
 have hjl:j < ys.length:=by omega
 refine zz 3 ?_
 refine J.ah sl25 rfl (hA2.isSome Y15) rfl Y5 Y5 Y8 rfl <| zz 1 ?_
 refine J.ak zdk rfl rfl <| zz 1 ?_
 refine J.ar Y8k hA2 (zab _) rfl zcs (ac (ys.getD j default).who) rfl (by rw [zbY ys j 0 20 Y5 Y23];rfl) rfl <| zz 1 ?_
 refine J.aa zaJ rfl rfl <| zz 1 ?_
 refine J.ai Y8k 9 rfl rfl zcs (ac z.who) rfl rfl rfl <| zz 1 ?_
 refine J.dx eqA47 rfl rfl Y22 Y22 rfl <| zz 3 ?_
 refine T.aa rfl (fun h10=>?_) (fun h10=>?_)
 have hjw:=h10
 refine zz 5 ?_
 refine J.aq rfl rfl rfl Y10 <| zz 3 ?_
 exact X.ae (j+1) ⟨hjl,hmine.step hjl hjw⟩ Y14 Y0 Y0
 have hnm:¬ j < ys.length∨¬ adL (ys.getD j default).who=adL z.who:=.inr h10
 refine zz 4 ?_
 exact X.at j ⟨hj,(hmine.all hj hnm).1,(hmine.all hj hnm).2,by rw [List.length_drop];rcases hms with q | ⟨q,y,ys2,q2,q3⟩;omega;have:=Mine.pos hnm q2 q3;omega⟩ Y0 Y0
 have hnm:¬ j < ys.length∨¬ adL (ys.getD j default).who=adL z.who:=.inl Y5
 refine zz 16 ?_
 exact X.at j ⟨hj,(hmine.all hj hnm).1,(hmine.all hj hnm).2,by rw [List.length_drop];rcases hms with q | ⟨q,y,ys2,q2,q3⟩;omega;have:=Mine.pos hnm q2 q3;omega⟩ Y0 Y0
 rintro j ⟨hj,hmi,hre,hmu⟩
 refine zz 1 ?_
 refine T.ae [] [(0,.q),(1,.g),(2,.g),(3,.g),(4,.l),(5,.g),(6,.g),(7,.g),(8,.l),(9,.g)] Y12 Y12 ?_ Y0
 refine J.ai Y8k 9 rfl rfl zaK (z.cells) rfl rfl rfl <| zz 2 ?_
 refine J.ax sl25 rfl optInt.none (optInt.some rfl Y5 Y8) optInt.none Y20 Y5 Y5 Y5 rfl rfl <| J.as 84 (.slice Ab (ys.take j).length cb) rfl (by rw [ziP,List.length_take,Nat.min_eq_left hj];rfl) <| J.aw fok51 rfl rfl _ _ [(5,⟨some g5,26,[.int .i64 0]⟩),(4,⟨some g4,22,[r.val zs.length]⟩),(60,r.ent 56 (rowA zs)),(9,⟨some g9,56,z.cells⟩)] Y0 rfl (fun _ _=>Sub.nil _) (fun w hw=>El.turned w n (B++ids [(5,⟨some g5,26,[.int .i64 0]⟩),(4,⟨some g4,22,[r.val zs.length]⟩),(60,r.ent 56 (rowA zs)),(9,⟨some g9,56,z.cells⟩)]) z Ab cb (ys.take j) (Nat.le_trans hn hw.size) (zaf (l1:=[(5,⟨some g5,26,[.int .i64 0]⟩),(4,⟨some g4,22,[r.val zs.length]⟩),(60,r.ent 56 (rowA zs)),(9,⟨some g9,56,z.cells⟩)]) hB hw Y0 rfl) (hzo.keep (zaa (I:=[some g4,some g5,r.id]) (B0:=B) (l1:=[(5,⟨some g5,26,[.int .i64 0]⟩),(4,⟨some g4,22,[r.val zs.length]⟩),(60,r.ent 56 (rowA zs)),(9,⟨some g9,56,z.cells⟩)]) hV hn Y189 hw Y4 Y0 rfl)) hzs (zno (hA2.ws hw (zab _)) j) (by rw [List.length_take];omega) ((hys.keep (zaa (I:=[some g4,some g5,r.id]) (B0:=B) (l1:=[(5,⟨some g5,26,[.int .i64 0]⟩),(4,⟨some g4,22,[r.val zs.length]⟩),(60,r.ent 56 (rowA zs)),(9,⟨some g9,56,z.cells⟩)]) hV hn Y189 hw Y4 Y0 rfl)).take j) (hmy.take j) (by rw [List.length_take];omega) hzl) fun i85 W85 hP85 hW85=>?_
 have kpW85:=(zaa (I:=[some g4,some g5,r.id]) (B0:=B) (l1:=[(5,⟨some g5,26,[.int .i64 0]⟩),(4,⟨some g4,22,[r.val zs.length]⟩),(60,r.ent 56 (rowA zs)),(9,⟨some g9,56,z.cells⟩)]) hV hn Y189 hW85 Y4 Y0 rfl)
 have hxs:=hxs.keep kpW85
 have hys:=hys.keep kpW85
 have hz:=hz.keep kpW85
 have hus:=hus.keep kpW85
 have hzo:=hzo.keep kpW85
 have hVW85:=hW85.s0
 refine J.as 85 (.tuple #[.agg i85.1.cells.toArray,.bool (decide (i85.2=true))]) rfl Y178 <| zz 3 ?_
 refine J.ae 9 rfl rfl rfl rfl (i85.1.cells) rfl sz56 (Nat.le_of_ble_eq_true rfl) Y24 (Nat.zero_lt_succ _) trivial (i85.1.cells) Y22 <| zz 7 ?_
 refine J.aA rfl rfl Y18 <| zz 2 ?_
 refine T.aa rfl (fun h11=>?_) (fun h11=>?_)
 have hstop:=zsU hJ hst (by rw [hmi];rwa [if_neg h11] at hP85)
 refine zz 2 ?_
 refine J.ae 4 rfl rfl rfl rfl [.slice none 0 0] rfl sz22 Y7 Y27 Y11 trivial [.slice none 0 0] rfl <| J.ae 5 rfl rfl rfl rfl [.int .i64 240] rfl sz26 Y7 Y27 Y11 trivial [.int .i64 240] rfl <| zz 8 ?_
 refine X.au (M':=[g5,g4]) (l2:=[(5,⟨some g5,26,[.int .i64 240]⟩),(4,⟨some g4,22,[.slice none 0 0]⟩)]) rfl rfl zsF (fun w hw=>Em.Apply1 hck w n (B++ids [(5,⟨some g5,26,[.int .i64 240]⟩),(4,⟨some g4,22,[.slice none 0 0]⟩)]) g5 g4 none 0 [] 240 240 (.slice none 0 0) (Nat.le_trans hn hw.size) (fun g h=>List.mem_append_right _ (by simpa [ids] using h)) (Fit.nil) AllA.nil (Nat.zero_le _) Y22 Y22 (hw.live 5 _ rfl) (hw.live 4 _ rfl) (fun h=>hw.apart 5 4 _ _ g5 rfl rfl Y23 rfl (by rw [h]))) (hM54 rfl rfl rfl rfl) (RV.one 4 rfl rfl ziX rfl) (RV.one 5 rfl rfl zdd rfl) fun w' hw'=>?_
 exact ⟨([],RowIx.nil),⟨by rw [zrl hk1 hk2 hstop];rfl,AllA.nil,RowIx.nil_ok 27,Fit.nil,Cap.nil⟩,by rw [zrl hk1 hk2 hstop];rfl,hw'.s0⟩
 rw [if_pos (Decidable.not_not.1 h11)] at hP85
 obtain ⟨ht,hzn,hcn⟩:=hP85
 refine zz 6 ?_
 refine J.ax sl25 rfl (optInt.some rfl Y5 Y8) optInt.none optInt.none Y20 Y5 Y5 Y5 rfl rfl <| J.as 92 (.slice (if cb=j then Ab else Ab.map (·.add (j*35))) (ys.drop j).length (cb - j)) rfl (by rw [List.length_drop]) <| zz 5 ?_
 refine J.ai Y8k 9 rfl rfl zaK (i85.1.cells) rfl rfl rfl <| J.aj Y8k fok52 rfl rfl (fun w hw=>Di.empty w i85.1) ?_
 refine J.aA rfl rfl Y18 <| zz 2 ?_
 refine T.aa rfl (fun h12=>?_) (fun h12=>?_)
 have hv:=h12
 refine zz 1 ?_
 refine J.ag Y8k 4 rfl rfl ziX rfl rfl <| J.ai Y8k 9 rfl rfl zaK (i85.1.cells) rfl rfl rfl <| J.aD 98 rfl underlying22 el56 Y23 rfl (i85.1.cells) rfl rfl rfl fun g98 hg98=>J.ay 60 rfl underlying22 el56 rfl hr (zcn _) rfl rfl rfl (fun w hw=>(hw.blkCs (k:=98) rfl)) (Ac.cells_one _) Y5 Y28 rfl (zs++[i85.1]).length (zbX _ _) (rowA (zs++[i85.1])) (zgu _ _).symm fun r99 hr99=>J.ae 4 rfl rfl rfl rfl [r99.val (zs++[i85.1]).length] rfl sz22 Y7 Y27 Y11 trivial [r99.val (zs++[i85.1]).length] rfl <| zz 2 ?_
 refine X.aj [(4,⟨some g4,22,[r99.val (zs++[i85.1]).length]⟩),(5,⟨some g5,26,[.int .i64 0]⟩),(60,r99.ent 56 (rowA (zs++[i85.1])))] Y0 rfl fun Wx13 hWWx13=>?_
 have kpWx13:=(zaa (I:=[some g5,some g4,r.id,some g9]) (B0:=B) (l1:=[(4,⟨some g4,22,[r99.val (zs++[i85.1]).length]⟩),(5,⟨some g5,26,[.int .i64 0]⟩),(60,r99.ent 56 (rowA (zs++[i85.1])))]) hVW85 hn Y189 hWWx13 Y4 Y0 rfl)
 have hxs:=hxs.keep kpWx13
 have hys:=hys.keep kpWx13
 have hz:=hz.keep kpWx13
 have hus:=hus.keep kpWx13
 have hzo:=hzo.keep kpWx13
 have hzn:=hzn.keep kpWx13
 have hVWx13:=hWWx13.s0
 exact X.ae ⟨Wx13,A,c,us,(if cb=j then Ab else Ab.map (·.add (j*35))),(cb - j),(ys.drop j),(zs++[i85.1]),r99⟩ ⟨⟨hA0,hc0,hus,huc,huf⟩,⟨zeQ Ch.cells_length hA2 hcb j,(by rw [List.length_drop];exact Nat.sub_le_sub_right hcb j),hys.drop j,hmy.drop j⟩,⟨(by rw [zrG,← hre];exact zoG hJ hst (hmi ▸ ht) (zpA hv)),(by show (zs++[i85.1]).length+us.length+_≤_;simp only [List.length_append,List.length_singleton,List.length_drop] at hmu ⊢;omega)⟩,⟨hr99,hz.snoc hzn,hzc.snoc hcn⟩,hVWx13⟩ (by exact hmu) Y0 Y0
 have hv:=Decidable.not_not.1 h12
 refine zz 2 ?_
 refine X.aj [(4,⟨some g4,22,[r.val zs.length]⟩),(5,⟨some g5,26,[.int .i64 0]⟩),(60,r.ent 56 (rowA zs))] Y0 rfl fun Wx14 hWWx14=>?_
 have kpWx14:=(zaa (I:=[some g5,some g4,r.id,some g9]) (B0:=B) (l1:=[(4,⟨some g4,22,[r.val zs.length]⟩),(5,⟨some g5,26,[.int .i64 0]⟩),(60,r.ent 56 (rowA zs))]) hVW85 hn Y189 hWWx14 Y4 Y0 rfl)
 have hxs:=hxs.keep kpWx14
 have hys:=hys.keep kpWx14
 have hz:=hz.keep kpWx14
 have hus:=hus.keep kpWx14
 have hzo:=hzo.keep kpWx14
 have hzn:=hzn.keep kpWx14
 have hVWx14:=hWWx14.s0
 exact X.ae ⟨Wx14,A,c,us,(if cb=j then Ab else Ab.map (·.add (j*35))),(cb - j),(ys.drop j),zs,r⟩ ⟨⟨hA0,hc0,hus,huc,huf⟩,⟨zeQ Ch.cells_length hA2 hcb j,(by rw [List.length_drop];exact Nat.sub_le_sub_right hcb j),hys.drop j,hmy.drop j⟩,⟨(by rw [← hre];exact (zoG hJ hst (hmi ▸ ht) (zsn hv)).trans (by rw [List.append_nil])),(by show zs.length+us.length+_≤_;simp only [List.length_drop] at hmu ⊢;omega)⟩,⟨hr,hz,hzc⟩,hVWx14⟩ (by exact hmu) Y0 Y0
end Go.Proofs.YtlllcafedekojaaGreatDoor.Em
namespace Go.Fz
open Go Go.Fw Go.Proofs.Tryz
theorem zpQ:FnOk prog 17:=FnOk.mk' func17 Y12 rfl
theorem ztT:FnOk prog 24:=FnOk.mk' func24 Y12 rfl
theorem zob:FnOk prog 28:=FnOk.mk' func28 Y12 rfl
theorem zpP:FnOk prog 32:=FnOk.mk' func32 Y12 rfl
theorem ztR:FnOk prog 29:=FnOk.mk' func29 Y12 rfl
theorem ztS:FnOk prog 26:=FnOk.mk' func26 Y12 rfl
theorem zsH:FnOk prog 20:=FnOk.mk' func20 Y12 rfl
theorem zio:FnOk prog 16:=FnOk.mk' func16 Y12 rfl
end Go.Fz
namespace Go.Proofs.YtlllcafedekojaaGreatDoor.La
open Go Go.Fw Go.Fz Go.Proofs.Tryz
attribute [local irreducible] J T X
theorem awake {ck:List AV→Int×Int} (S:CkS prog 35 ck) (w:World):
    Calls prog 19 [].toArray w fun e w'=>e=.returned (.bool true)∧WS w [] [] w':=by
 obtain ⟨n,hn0⟩:∃ n,n=w.heap.size:=⟨_,rfl⟩
 have hn:n≤w.heap.size:=Nat.le_of_eq hn0
 refine zac [] 96 [] func19 rfl ntmps19 Y20 (WS.refl _ _) <| zz 7 ?_
 refine J.ao rfl rfl (W 5) Y191 <| J.ao rfl rfl (.agg (Ac.ofBal 5).cells.toArray) Y191 <| J.am 1 rfl zcG zc1 rfl rfl fun g1 hg1=>J.ae 1 rfl rfl rfl rfl ((Ac.ofBal 5).cells) rfl sz56 (Nat.le_of_ble_eq_true rfl) Y24 (Nat.zero_lt_succ _) trivial ((Ac.ofBal 5).cells) rfl <| zz 4 ?_
 refine J.ao rfl rfl (W 2) Y191 <| J.ao rfl rfl (.agg (Ac.ofBal 2).cells.toArray) Y191 <| J.am 2 rfl zcG zc1 rfl rfl fun g2 hg2=>J.ae 2 rfl rfl rfl rfl ((Ac.ofBal 2).cells) rfl sz56 (Nat.le_of_ble_eq_true rfl) Y24 (Nat.zero_lt_succ _) trivial ((Ac.ofBal 2).cells) rfl <| zz 4 ?_
 refine J.ai Y8k 1 rfl rfl zaK ((Ac.ofBal 5).cells) rfl rfl rfl <| J.aD 20 rfl underlying22 el56 Y23 rfl ((Ac.ofBal 5).cells) rfl rfl rfl fun g20 hg20=>J.ai Y8k 2 rfl rfl zaK ((Ac.ofBal 2).cells) rfl rfl rfl <| J.aD 22 rfl underlying22 el56 Y23 rfl ((Ac.ofBal 2).cells) rfl rfl rfl fun g22 hg22=>J.aw zpQ rfl rfl _ _ [(1,⟨some g1,56,((Ac.ofBal 5).cells)⟩),(2,⟨some g2,56,((Ac.ofBal 2).cells)⟩),(20,⟨some g20,56,((Ac.ofBal 5).cells)⟩),(22,⟨some g22,56,((Ac.ofBal 2).cells)⟩)] Y0 rfl (fun _ _=>Sub.nil _) (fun w hw=>Ek.Of S.ok w n ([]++ids [(1,⟨some g1,56,((Ac.ofBal 5).cells)⟩),(2,⟨some g2,56,((Ac.ofBal 2).cells)⟩),(20,⟨some g20,56,((Ac.ofBal 5).cells)⟩),(22,⟨some g22,56,((Ac.ofBal 2).cells)⟩)]) _ _ _ _ [Ac.ofBal 5] [Ac.ofBal 2] (Nat.le_trans hn hw.size) (zaf (l1:=[(1,⟨some g1,56,((Ac.ofBal 5).cells)⟩),(2,⟨some g2,56,((Ac.ofBal 2).cells)⟩),(20,⟨some g20,56,((Ac.ofBal 5).cells)⟩),(22,⟨some g22,56,((Ac.ofBal 2).cells)⟩)]) Y194 hw Y0 rfl) (znp (hw.blkCs (k:=20) rfl)) (Nat.le_refl _) (zgy 5) (zjU 5) (znp (hw.blkCs (k:=22) rfl)) (Nat.le_refl _) (zgy 2) (zjU 2) Y20 Y20 (by rw [(zjy 5 Y23),(zjy 2 Y23)];exact Nat.le_trans (zeV (show szA [AV.mk 0 0 5 [] []]≤3000000 by decide) (show szA [AV.mk 0 0 2 [] []]≤3000000 by decide)) Y23)) fun i23 W23 hP23 hW23=>?_
 obtain ⟨hv23,hr23,hf23,hc23⟩:=hP23
 have hVW23:=hW23.s0
 obtain ⟨x23,r23⟩:=i23
 dsimp only at hv23 hr23 hf23 hc23
 have e23:ofZ ck ([Ac.ofBal 5].map Ac.v) ([Ac.ofBal 2].map Ac.v)=([CV.ofBal 5 2],0):=by rw [(zjy 5 Y23),(zjy 2 Y23)];exact S.awake_of
 rw [e23] at hv23
 have ln23:x23.length≤30000000:=by rw [zfK hv23];decide
 refine J.as 23 (.tuple #[r23.val x23.length,.int .i64 0]) rfl (by rw [e23]) ?_
 replace hv23:x23.map Ch.v=[CV.ofBal 5 2]:=hv23
 refine zz 9 ?_
 refine J.ai Y8k 1 rfl rfl zaK ((Ac.ofBal 5).cells) rfl rfl rfl <| J.aD 28 rfl underlying22 el56 Y23 rfl ((Ac.ofBal 5).cells) rfl rfl rfl fun g28 hg28=>zz 1 ?_
 refine J.aw ztT rfl rfl _ _ [(1,⟨some g1,56,((Ac.ofBal 5).cells)⟩),(2,⟨some g2,56,((Ac.ofBal 2).cells)⟩),(20,⟨some g20,56,((Ac.ofBal 5).cells)⟩),(22,⟨some g22,56,((Ac.ofBal 2).cells)⟩),(28,⟨some g28,56,((Ac.ofBal 5).cells)⟩)] Y0 rfl (fun _ _=>Sub.nil _) (fun w hw=>Em.Apply S.ok w n ([]++ids [(1,⟨some g1,56,((Ac.ofBal 5).cells)⟩),(2,⟨some g2,56,((Ac.ofBal 2).cells)⟩),(20,⟨some g20,56,((Ac.ofBal 5).cells)⟩),(22,⟨some g22,56,((Ac.ofBal 2).cells)⟩),(28,⟨some g28,56,((Ac.ofBal 5).cells)⟩)]) _ _ _ _ [Ac.ofBal 5] x23 (Nat.le_trans hn hw.size) (zaf (l1:=[(1,⟨some g1,56,((Ac.ofBal 5).cells)⟩),(2,⟨some g2,56,((Ac.ofBal 2).cells)⟩),(20,⟨some g20,56,((Ac.ofBal 5).cells)⟩),(22,⟨some g22,56,((Ac.ofBal 2).cells)⟩),(28,⟨some g28,56,((Ac.ofBal 5).cells)⟩)]) Y194 hw Y0 rfl) (znp (hw.blkCs (k:=28) rfl)) (Nat.le_refl _) (zgy 5) (zjU 5) (zrg (Z:=3000000) (by rw [(zjy 5 Y23)];exact (show szA [AV.mk 0 0 5 [] []]≤3000000 by decide)) Y23) ((hf23.keep (zaa (I:=[some g1,some g2,some g20,some g22]) (B0:=[]) (l1:=[(1,⟨some g1,56,((Ac.ofBal 5).cells)⟩),(2,⟨some g2,56,((Ac.ofBal 2).cells)⟩),(20,⟨some g20,56,((Ac.ofBal 5).cells)⟩),(22,⟨some g22,56,((Ac.ofBal 2).cells)⟩),(28,⟨some g28,56,((Ac.ofBal 5).cells)⟩)]) hVW23 hn Y189 hw Y4 Y0 rfl)).cs) hr23.le (hc23.keep (zaa (I:=[some g1,some g2,some g20,some g22]) (B0:=[]) (l1:=[(1,⟨some g1,56,((Ac.ofBal 5).cells)⟩),(2,⟨some g2,56,((Ac.ofBal 2).cells)⟩),(20,⟨some g20,56,((Ac.ofBal 5).cells)⟩),(22,⟨some g22,56,((Ac.ofBal 2).cells)⟩),(28,⟨some g28,56,((Ac.ofBal 5).cells)⟩)]) hVW23 hn Y189 hw Y4 Y0 rfl)) (by simp;omega)) fun i30 W30 hP30 hW30=>?_
 obtain ⟨hv30,hc30,hr30,hf30,hq30⟩:=hP30
 have kpW30:=(zaa (I:=[some g1,some g2,some g20,some g22]) (B0:=[]) (l1:=[(1,⟨some g1,56,((Ac.ofBal 5).cells)⟩),(2,⟨some g2,56,((Ac.ofBal 2).cells)⟩),(20,⟨some g20,56,((Ac.ofBal 5).cells)⟩),(22,⟨some g22,56,((Ac.ofBal 2).cells)⟩),(28,⟨some g28,56,((Ac.ofBal 5).cells)⟩)]) hVW23 hn Y189 hW30 Y4 Y0 rfl)
 have hf23:=hf23.keep kpW30
 have hc23:=hc23.keep kpW30
 have hVW30:=hW30.s0
 obtain ⟨x30,r30⟩:=i30
 dsimp only at hv30 hr30 hf30 hc30 hq30
 have e30:apZ ck ([Ac.ofBal 5].map Ac.v) (x23.map Ch.v)=([AV.mk 0 0 2 [] []],0):=by rw [(zjy 5 Y23),hv23];exact S.awake_ap
 rw [e30] at hv30
 have ln30:x30.length≤30000000:=by rw [zqH hv30];decide
 refine J.as 30 (.tuple #[r30.val x30.length,.int .i64 0]) rfl (by rw [e30]) ?_
 replace hv30:x30.map Ac.v=[AV.mk 0 0 2 [] []]:=hv30
 refine zz 10 ?_
 refine J.aw zob rfl rfl _ _ [(1,⟨some g1,56,((Ac.ofBal 5).cells)⟩),(2,⟨some g2,56,((Ac.ofBal 2).cells)⟩),(20,⟨some g20,56,((Ac.ofBal 5).cells)⟩),(22,⟨some g22,56,((Ac.ofBal 2).cells)⟩),(28,⟨some g28,56,((Ac.ofBal 5).cells)⟩)] Y0 rfl (fun _ _=>Sub.nil _) (fun w hw=>Db.Turn w n ([]++ids [(1,⟨some g1,56,((Ac.ofBal 5).cells)⟩),(2,⟨some g2,56,((Ac.ofBal 2).cells)⟩),(20,⟨some g20,56,((Ac.ofBal 5).cells)⟩),(22,⟨some g22,56,((Ac.ofBal 2).cells)⟩),(28,⟨some g28,56,((Ac.ofBal 5).cells)⟩)]) _ _ x23 (Nat.le_trans hn hw.size) (zaf (l1:=[(1,⟨some g1,56,((Ac.ofBal 5).cells)⟩),(2,⟨some g2,56,((Ac.ofBal 2).cells)⟩),(20,⟨some g20,56,((Ac.ofBal 5).cells)⟩),(22,⟨some g22,56,((Ac.ofBal 2).cells)⟩),(28,⟨some g28,56,((Ac.ofBal 5).cells)⟩)]) Y194 hw Y0 rfl) ((hf23.keep (zaa (I:=[some g1,some g2,some g20,some g22,some g28]) (B0:=[]) (l1:=[(1,⟨some g1,56,((Ac.ofBal 5).cells)⟩),(2,⟨some g2,56,((Ac.ofBal 2).cells)⟩),(20,⟨some g20,56,((Ac.ofBal 5).cells)⟩),(22,⟨some g22,56,((Ac.ofBal 2).cells)⟩),(28,⟨some g28,56,((Ac.ofBal 5).cells)⟩)]) hVW30 hn Y189 hw Y4 Y0 rfl)).cs) (hc23.keep (zaa (I:=[some g1,some g2,some g20,some g22,some g28]) (B0:=[]) (l1:=[(1,⟨some g1,56,((Ac.ofBal 5).cells)⟩),(2,⟨some g2,56,((Ac.ofBal 2).cells)⟩),(20,⟨some g20,56,((Ac.ofBal 5).cells)⟩),(22,⟨some g22,56,((Ac.ofBal 2).cells)⟩),(28,⟨some g28,56,((Ac.ofBal 5).cells)⟩)]) hVW30 hn Y189 hw Y4 Y0 rfl)) Y5) fun i34 W34 hP34 hW34=>?_
 obtain ⟨hv34,hr34,hf34,hc34⟩:=hP34
 have kpW34:=(zaa (I:=[some g1,some g2,some g20,some g22,some g28]) (B0:=[]) (l1:=[(1,⟨some g1,56,((Ac.ofBal 5).cells)⟩),(2,⟨some g2,56,((Ac.ofBal 2).cells)⟩),(20,⟨some g20,56,((Ac.ofBal 5).cells)⟩),(22,⟨some g22,56,((Ac.ofBal 2).cells)⟩),(28,⟨some g28,56,((Ac.ofBal 5).cells)⟩)]) hVW30 hn Y189 hW34 Y4 Y0 rfl)
 have hf23:=hf23.keep kpW34
 have hc23:=hc23.keep kpW34
 have hf30:=hf30.keep kpW34
 have hc30:=hc30.keep kpW34
 have hVW34:=hW34.s0
 obtain ⟨x34,r34⟩:=i34
 dsimp only at hv34 hr34 hf34 hc34
 have ln34:x34.length=x23.length:=zeZ hv34
 replace hv34:x34.map Ch.v=[CV.ofBal 5 2].map CV.turn:=zgf hv34 hv23
 refine zz 7 ?_
 refine J.aw ztT rfl rfl _ _ [(1,⟨some g1,56,((Ac.ofBal 5).cells)⟩),(2,⟨some g2,56,((Ac.ofBal 2).cells)⟩),(20,⟨some g20,56,((Ac.ofBal 5).cells)⟩),(22,⟨some g22,56,((Ac.ofBal 2).cells)⟩),(28,⟨some g28,56,((Ac.ofBal 5).cells)⟩)] Y0 rfl (fun _ _=>Sub.nil _) (fun w hw=>Em.Apply S.ok w n ([]++ids [(1,⟨some g1,56,((Ac.ofBal 5).cells)⟩),(2,⟨some g2,56,((Ac.ofBal 2).cells)⟩),(20,⟨some g20,56,((Ac.ofBal 5).cells)⟩),(22,⟨some g22,56,((Ac.ofBal 2).cells)⟩),(28,⟨some g28,56,((Ac.ofBal 5).cells)⟩)]) _ _ _ _ x30 x34 (Nat.le_trans hn hw.size) (zaf (l1:=[(1,⟨some g1,56,((Ac.ofBal 5).cells)⟩),(2,⟨some g2,56,((Ac.ofBal 2).cells)⟩),(20,⟨some g20,56,((Ac.ofBal 5).cells)⟩),(22,⟨some g22,56,((Ac.ofBal 2).cells)⟩),(28,⟨some g28,56,((Ac.ofBal 5).cells)⟩)]) Y194 hw Y0 rfl) ((hf30.keep (zaa (I:=[some g1,some g2,some g20,some g22,some g28]) (B0:=[]) (l1:=[(1,⟨some g1,56,((Ac.ofBal 5).cells)⟩),(2,⟨some g2,56,((Ac.ofBal 2).cells)⟩),(20,⟨some g20,56,((Ac.ofBal 5).cells)⟩),(22,⟨some g22,56,((Ac.ofBal 2).cells)⟩),(28,⟨some g28,56,((Ac.ofBal 5).cells)⟩)]) hVW34 hn Y189 hw Y4 Y0 rfl)).cs) hr30.le (hc30.keep (zaa (I:=[some g1,some g2,some g20,some g22,some g28]) (B0:=[]) (l1:=[(1,⟨some g1,56,((Ac.ofBal 5).cells)⟩),(2,⟨some g2,56,((Ac.ofBal 2).cells)⟩),(20,⟨some g20,56,((Ac.ofBal 5).cells)⟩),(22,⟨some g22,56,((Ac.ofBal 2).cells)⟩),(28,⟨some g28,56,((Ac.ofBal 5).cells)⟩)]) hVW34 hn Y189 hw Y4 Y0 rfl)) hq30 (zrg (Z:=3000000) (by rw [hv30];exact (show szA [AV.mk 0 0 2 [] []]≤3000000 by decide)) Y23) ((hf34.keep (zaa (I:=[some g1,some g2,some g20,some g22,some g28]) (B0:=[]) (l1:=[(1,⟨some g1,56,((Ac.ofBal 5).cells)⟩),(2,⟨some g2,56,((Ac.ofBal 2).cells)⟩),(20,⟨some g20,56,((Ac.ofBal 5).cells)⟩),(22,⟨some g22,56,((Ac.ofBal 2).cells)⟩),(28,⟨some g28,56,((Ac.ofBal 5).cells)⟩)]) hVW34 hn Y189 hw Y4 Y0 rfl)).cs) hr34.le (hc34.keep (zaa (I:=[some g1,some g2,some g20,some g22,some g28]) (B0:=[]) (l1:=[(1,⟨some g1,56,((Ac.ofBal 5).cells)⟩),(2,⟨some g2,56,((Ac.ofBal 2).cells)⟩),(20,⟨some g20,56,((Ac.ofBal 5).cells)⟩),(22,⟨some g22,56,((Ac.ofBal 2).cells)⟩),(28,⟨some g28,56,((Ac.ofBal 5).cells)⟩)]) hVW34 hn Y189 hw Y4 Y0 rfl)) Y5) fun i38 W38 hP38 hW38=>?_
 obtain ⟨hv38,hc38,hr38,hf38,hq38⟩:=hP38
 have kpW38:=(zaa (I:=[some g1,some g2,some g20,some g22,some g28]) (B0:=[]) (l1:=[(1,⟨some g1,56,((Ac.ofBal 5).cells)⟩),(2,⟨some g2,56,((Ac.ofBal 2).cells)⟩),(20,⟨some g20,56,((Ac.ofBal 5).cells)⟩),(22,⟨some g22,56,((Ac.ofBal 2).cells)⟩),(28,⟨some g28,56,((Ac.ofBal 5).cells)⟩)]) hVW34 hn Y189 hW38 Y4 Y0 rfl)
 have hf23:=hf23.keep kpW38
 have hc23:=hc23.keep kpW38
 have hf30:=hf30.keep kpW38
 have hc30:=hc30.keep kpW38
 have hf34:=hf34.keep kpW38
 have hc34:=hc34.keep kpW38
 have hVW38:=hW38.s0
 obtain ⟨x38,r38⟩:=i38
 dsimp only at hv38 hr38 hf38 hc38 hq38
 have e38:apZ ck (x30.map Ac.v) (x34.map Ch.v)=([AV.mk 0 0 5 [] []],0):=by rw [hv30,hv34];exact S.awake_ap2
 rw [e38] at hv38
 have ln38:x38.length≤30000000:=by rw [zqH hv38];decide
 refine J.as 38 (.tuple #[r38.val x38.length,.int .i64 0]) rfl (by rw [e38]) ?_
 replace hv38:x38.map Ac.v=[AV.mk 0 0 5 [] []]:=hv38
 refine zz 11 ?_
 refine J.aw zpP rfl rfl _ _ [(1,⟨some g1,56,((Ac.ofBal 5).cells)⟩),(2,⟨some g2,56,((Ac.ofBal 2).cells)⟩),(20,⟨some g20,56,((Ac.ofBal 5).cells)⟩),(22,⟨some g22,56,((Ac.ofBal 2).cells)⟩),(28,⟨some g28,56,((Ac.ofBal 5).cells)⟩)] Y0 rfl (fun _ _=>Sub.nil _) (fun w hw=>Dc.Join w n ([]++ids [(1,⟨some g1,56,((Ac.ofBal 5).cells)⟩),(2,⟨some g2,56,((Ac.ofBal 2).cells)⟩),(20,⟨some g20,56,((Ac.ofBal 5).cells)⟩),(22,⟨some g22,56,((Ac.ofBal 2).cells)⟩),(28,⟨some g28,56,((Ac.ofBal 5).cells)⟩)]) _ _ _ _ x23 x34 (Nat.le_trans hn hw.size) (zaf (l1:=[(1,⟨some g1,56,((Ac.ofBal 5).cells)⟩),(2,⟨some g2,56,((Ac.ofBal 2).cells)⟩),(20,⟨some g20,56,((Ac.ofBal 5).cells)⟩),(22,⟨some g22,56,((Ac.ofBal 2).cells)⟩),(28,⟨some g28,56,((Ac.ofBal 5).cells)⟩)]) Y194 hw Y0 rfl) ((hf23.keep (zaa (I:=[some g1,some g2,some g20,some g22,some g28]) (B0:=[]) (l1:=[(1,⟨some g1,56,((Ac.ofBal 5).cells)⟩),(2,⟨some g2,56,((Ac.ofBal 2).cells)⟩),(20,⟨some g20,56,((Ac.ofBal 5).cells)⟩),(22,⟨some g22,56,((Ac.ofBal 2).cells)⟩),(28,⟨some g28,56,((Ac.ofBal 5).cells)⟩)]) hVW38 hn Y189 hw Y4 Y0 rfl)).cs) hr23.le (hc23.keep (zaa (I:=[some g1,some g2,some g20,some g22,some g28]) (B0:=[]) (l1:=[(1,⟨some g1,56,((Ac.ofBal 5).cells)⟩),(2,⟨some g2,56,((Ac.ofBal 2).cells)⟩),(20,⟨some g20,56,((Ac.ofBal 5).cells)⟩),(22,⟨some g22,56,((Ac.ofBal 2).cells)⟩),(28,⟨some g28,56,((Ac.ofBal 5).cells)⟩)]) hVW38 hn Y189 hw Y4 Y0 rfl)) ((hf34.keep (zaa (I:=[some g1,some g2,some g20,some g22,some g28]) (B0:=[]) (l1:=[(1,⟨some g1,56,((Ac.ofBal 5).cells)⟩),(2,⟨some g2,56,((Ac.ofBal 2).cells)⟩),(20,⟨some g20,56,((Ac.ofBal 5).cells)⟩),(22,⟨some g22,56,((Ac.ofBal 2).cells)⟩),(28,⟨some g28,56,((Ac.ofBal 5).cells)⟩)]) hVW38 hn Y189 hw Y4 Y0 rfl)).cs) hr34.le (hc34.keep (zaa (I:=[some g1,some g2,some g20,some g22,some g28]) (B0:=[]) (l1:=[(1,⟨some g1,56,((Ac.ofBal 5).cells)⟩),(2,⟨some g2,56,((Ac.ofBal 2).cells)⟩),(20,⟨some g20,56,((Ac.ofBal 5).cells)⟩),(22,⟨some g22,56,((Ac.ofBal 2).cells)⟩),(28,⟨some g28,56,((Ac.ofBal 5).cells)⟩)]) hVW38 hn Y189 hw Y4 Y0 rfl)) Y5 Y5) fun i44 W44 hP44 hW44=>?_
 obtain ⟨hv44,hr44,hf44,hc44⟩:=hP44
 have kpW44:=(zaa (I:=[some g1,some g2,some g20,some g22,some g28]) (B0:=[]) (l1:=[(1,⟨some g1,56,((Ac.ofBal 5).cells)⟩),(2,⟨some g2,56,((Ac.ofBal 2).cells)⟩),(20,⟨some g20,56,((Ac.ofBal 5).cells)⟩),(22,⟨some g22,56,((Ac.ofBal 2).cells)⟩),(28,⟨some g28,56,((Ac.ofBal 5).cells)⟩)]) hVW38 hn Y189 hW44 Y4 Y0 rfl)
 have hf23:=hf23.keep kpW44
 have hc23:=hc23.keep kpW44
 have hf30:=hf30.keep kpW44
 have hc30:=hc30.keep kpW44
 have hf34:=hf34.keep kpW44
 have hc34:=hc34.keep kpW44
 have hf38:=hf38.keep kpW44
 have hc38:=hc38.keep kpW44
 have hVW44:=hW44.s0
 obtain ⟨x44,r44⟩:=i44
 dsimp only at hv44 hr44 hf44 hc44
 have e44:joinZ (x23.map Ch.v) (x34.map Ch.v)=([],0):=by rw [hv23,hv34];exact zmy
 rw [e44] at hv44
 have ln44:x44.length≤30000000:=by rw [zfK hv44];decide
 refine J.as 44 (.tuple #[r44.val x44.length,.int .i64 0]) rfl (by rw [e44]) ?_
 replace hv44:x44.map Ch.v=[]:=hv44
 refine zz 10 ?_
 refine J.aj Y8k ztR rfl rfl (fun w hw=>Dd.Apart w n _ _ none _ 0 x23 [] ((hf23.keep (zaa (I:=[some g1,some g2,some g20,some g22,some g28]) (B0:=[]) (l1:=[]) hVW44 hn Y189 hw Y4 (Sub.nil _) rfl)).cs) (hc23.keep (zaa (I:=[some g1,some g2,some g20,some g22,some g28]) (B0:=[]) (l1:=[]) hVW44 hn Y189 hw Y4 (Sub.nil _) rfl)) (Cs.nil _ _) AllC.nil Y5 Y20) ?_
 refine J.as 48 (.bool true) rfl (by rw [decide_eq_true (show apartL (x23.map Ch.v) (([]:List Ch).map Ch.v) from zoD _)]) <| zz 7 ?_
 refine J.aj Y8k ztR rfl rfl (fun w hw=>Dd.Apart w n _ _ _ _ _ x23 x34 ((hf23.keep (zaa (I:=[some g1,some g2,some g20,some g22,some g28]) (B0:=[]) (l1:=[]) hVW44 hn Y189 hw Y4 (Sub.nil _) rfl)).cs) (hc23.keep (zaa (I:=[some g1,some g2,some g20,some g22,some g28]) (B0:=[]) (l1:=[]) hVW44 hn Y189 hw Y4 (Sub.nil _) rfl)) ((hf34.keep (zaa (I:=[some g1,some g2,some g20,some g22,some g28]) (B0:=[]) (l1:=[]) hVW44 hn Y189 hw Y4 (Sub.nil _) rfl)).cs) (hc34.keep (zaa (I:=[some g1,some g2,some g20,some g22,some g28]) (B0:=[]) (l1:=[]) hVW44 hn Y189 hw Y4 (Sub.nil _) rfl)) Y5 Y5) ?_
 refine J.as 51 (.bool false) rfl (by rw [decide_eq_false (show ¬ apartL (x23.map Ch.v) (x34.map Ch.v) by rw [hv23,hv34];exact zky)]) <| zz 7 ?_
 refine J.be rfl rfl rfl (decide_eq_false Y13) <| zz 2 ?_
 refine J.aF rfl rfl <| J.be rfl rfl rfl (decide_eq_false Y13) <| zz 3 ?_
 refine J.aF rfl rfl <| J.be rfl rfl rfl (decide_eq_false Y13) <| zz 3 ?_
 refine J.aF rfl rfl <| J.be rfl rfl rfl (decide_eq_false Y13) <| zz 4 ?_
 refine J.al underlying25 rfl rfl <| J.aF rfl rfl <| J.be rfl rfl rfl (decide_eq_false (fun q=>q (by rw [znz hv44];rfl))) <| zz 16 ?_
 refine J.ai Y8k 2 rfl rfl zaK ((Ac.ofBal 2).cells) rfl rfl rfl <| J.aD 80 rfl underlying22 el56 Y23 rfl ((Ac.ofBal 2).cells) rfl rfl rfl fun g80 hg80=>J.aj Y8k ztS rfl rfl (fun w hw=>Ee.worlds w n _ _ _ _ _ x30 [Ac.ofBal 2] ((hf30.keep (zaa (I:=[some g1,some g2,some g20,some g22,some g28]) (B0:=[]) (l1:=[]) hVW44 hn Y189 hw Y4 (Sub.nil _) rfl)).cs) (hc30.keep (zaa (I:=[some g1,some g2,some g20,some g22,some g28]) (B0:=[]) (l1:=[]) hVW44 hn Y189 hw Y4 (Sub.nil _) rfl)) (znp (hw.blkCs (k:=80) rfl)) (zgy 2) Y5 Y20) ?_
 refine J.as 81 (.bool true) rfl (by rw [decide_eq_true (hv30.trans (zjy 2 Y23).symm)]) <| zz 3 ?_
 refine J.ai Y8k 1 rfl rfl zaK ((Ac.ofBal 5).cells) rfl rfl rfl <| zz 1 ?_
 refine J.aD 85 rfl underlying22 el56 Y23 rfl ((Ac.ofBal 5).cells) rfl rfl rfl fun g85 hg85=>zz 1 ?_
 refine J.aj Y8k ztS rfl rfl (fun w hw=>Ee.worlds w n _ _ _ _ _ x38 [Ac.ofBal 5] ((hf38.keep (zaa (I:=[some g1,some g2,some g20,some g22,some g28]) (B0:=[]) (l1:=[]) hVW44 hn Y189 hw Y4 (Sub.nil _) rfl)).cs) (hc38.keep (zaa (I:=[some g1,some g2,some g20,some g22,some g28]) (B0:=[]) (l1:=[]) hVW44 hn Y189 hw Y4 (Sub.nil _) rfl)) (znp (hw.blkCs (k:=85) rfl)) (zgy 5) Y5 Y20) ?_
 refine J.as 86 (.bool true) rfl (by rw [decide_eq_true (hv38.trans (zjy 5 Y23).symm)]) <| zz 4 ?_
 refine J.ao rfl rfl (W 5) Y191 <| zz 1 ?_
 refine J.ao rfl rfl (W 2) Y191 <| zz 1 ?_
 refine J.ao rfl rfl (.agg (Ch.ofBal 5 2).cells.toArray) Y191 <| zz 1 ?_
 refine J.aD 93 rfl underlying25 el53 Y23 rfl ((Ch.ofBal 5 2).cells) rfl rfl rfl fun g93 hg93=>zz 1 ?_
 refine J.aj Y8k zsH rfl rfl (fun w hw=>Df.same w n _ _ _ _ _ x23 [Ch.ofBal 5 2] ((hf23.keep (zaa (I:=[some g1,some g2,some g20,some g22,some g28]) (B0:=[]) (l1:=[]) hVW44 hn Y189 hw Y4 (Sub.nil _) rfl)).cs) (hc23.keep (zaa (I:=[some g1,some g2,some g20,some g22,some g28]) (B0:=[]) (l1:=[]) hVW44 hn Y189 hw Y4 (Sub.nil _) rfl)) (row1C (hw.blkCs (k:=93) rfl)) (AllC.snoc AllC.nil (zqg 5 2)) Y5 Y20) ?_
 refine J.as 94 (.bool true) rfl (by rw [decide_eq_true (show x23.map Ch.v=[Ch.ofBal 5 2].map Ch.v from hv23.trans rfl)]) <| zz 5 ?_
 exact X.aa rfl (RV.tmp rfl) (fun w' hw'=>⟨rfl,hw'.s0⟩)
theorem three {ck:List AV→Int×Int} (S:CkS prog 35 ck) (w:World) (A0:Option Addr) (c0:Nat) (xs0:List Ac) (hx0:Cs w A0 (rowA xs0)) (l0:xs0.length≤2000000000000) (A1:Option Addr) (c1:Nat) (xs1:List Ac) (hx1:Cs w A1 (rowA xs1)) (l1:xs1.length≤2000000000000) (A2:Option Addr) (c2:Nat) (xs2:List Ac) (hx2:Cs w A2 (rowA xs2)) (l2:xs2.length≤2000000000000) (n:Nat) (B:List (Option Nat)) (hn:n≤w.heap.size) (hB:∀ g,some g∈B→g < w.heap.size) (E0:LiteB w n B xs0) (E1:LiteB w n B xs1) (E2:LiteB w n B xs2):
    Calls prog 34 [.slice A0 xs0.length c0,.slice A1 xs1.length c1,.slice A2 xs2.length c2].toArray w fun e w'=>e=.returned (.bool (decide ((ck (xs0.map Ac.v)).1=0∧(ck (xs1.map Ac.v)).1=0∧(ck (xs2.map Ac.v)).1=0)))∧WS w [] [] w':=by
 have d0:=E0.ok
 have d1:=E1.ok
 have d2:=E2.ok
 have ln0_:=E0.len
 have ln1_:=E1.len
 have ln2_:=E2.len
 refine zac [] 41 [] func34 rfl ntmps34 Y20 (WS.refl _ _) <| zz 8 ?_
 refine J.aw zio rfl rfl _ _ [] Y0 rfl (fun _ _=>Sub.nil _) (fun w hw=>Ef.lend w n (B++ids []) _ _ xs0 (Nat.le_trans hn hw.size) (zaf (l1:=[]) hB hw Y0 rfl) (hx0.ws hw (zab _)) (d0.keep (zad (B0:=B) (l1:=[]) hn Y189 hw (Sub.nil _) rfl)) (zbu (K:=262144) (Z:=3000000) E0.code (Nat.le_trans E0.sz Y23) Y23 Y23) Y5) fun i15 W15 hP15 hW15=>?_
 obtain ⟨hv15,ha15,hf15,hp15⟩:=hP15
 have kpW15:=(zad (B0:=B) (l1:=[]) hn Y189 hW15 (Sub.nil _) rfl)
 have d0:=d0.keep kpW15
 have d1:=d1.keep kpW15
 have d2:=d2.keep kpW15
 have hVW15:=hW15.s0
 obtain ⟨x15,r15⟩:=i15
 dsimp only at hv15 ha15 hf15 hp15
 have ln15:x15.length=xs0.length:=by have q:=congrArg List.length hv15;simpa using q
 refine J.aj Y8k zkj rfl rfl (fun w hw=>S.ok w n _ _ _ x15 ((lentRowA (hf15.keep (zaa (I:=[]) (B0:=B) (l1:=[]) hVW15 hn Y189 hw Y4 (Sub.nil _) rfl))).cs) ((ha15.keep (zaa (I:=[]) (B0:=B) (l1:=[]) hVW15 hn Y189 hw Y4 (Sub.nil _) rfl)).ok) Y5) ?_
 refine J.as 16 (.tuple #[.int .i64 (ck (xs0.map Ac.v)).1,.int .i64 (ck (xs0.map Ac.v)).2]) rfl (by rw [hv15]) <| zz 10 ?_
 refine J.aw zio rfl rfl _ _ [] Y0 rfl (fun _ _=>Sub.nil _) (fun w hw=>Ef.lend w n (B++ids []) _ _ xs1 (Nat.le_trans hn hw.size) (zaf (l1:=[]) hB hw Y0 rfl) (hx1.ws hw (zab _)) (d1.keep (zaa (I:=[]) (B0:=B) (l1:=[]) hVW15 hn Y189 hw Y4 (Sub.nil _) rfl)) (zbu (K:=262144) (Z:=3000000) E1.code (Nat.le_trans E1.sz Y23) Y23 Y23) Y5) fun i21 W21 hP21 hW21=>?_
 obtain ⟨hv21,ha21,hf21,hp21⟩:=hP21
 have kpW21:=(zaa (I:=[]) (B0:=B) (l1:=[]) hVW15 hn Y189 hW21 Y4 (Sub.nil _) rfl)
 have d0:=d0.keep kpW21
 have d1:=d1.keep kpW21
 have d2:=d2.keep kpW21
 have ha15:=ha15.keep kpW21
 have hf15:=hf15.keep kpW21
 have hVW21:=hW21.s0
 obtain ⟨x21,r21⟩:=i21
 dsimp only at hv21 ha21 hf21 hp21
 have ln21:x21.length=xs1.length:=by have q:=congrArg List.length hv21;simpa using q
 refine J.aj Y8k zkj rfl rfl (fun w hw=>S.ok w n _ _ _ x21 ((lentRowA (hf21.keep (zaa (I:=[]) (B0:=B) (l1:=[]) hVW21 hn Y189 hw Y4 (Sub.nil _) rfl))).cs) ((ha21.keep (zaa (I:=[]) (B0:=B) (l1:=[]) hVW21 hn Y189 hw Y4 (Sub.nil _) rfl)).ok) Y5) ?_
 refine J.as 22 (.tuple #[.int .i64 (ck (xs1.map Ac.v)).1,.int .i64 (ck (xs1.map Ac.v)).2]) rfl (by rw [hv21]) <| zz 10 ?_
 refine J.aw zio rfl rfl _ _ [] Y0 rfl (fun _ _=>Sub.nil _) (fun w hw=>Ef.lend w n (B++ids []) _ _ xs2 (Nat.le_trans hn hw.size) (zaf (l1:=[]) hB hw Y0 rfl) (hx2.ws hw (zab _)) (d2.keep (zaa (I:=[]) (B0:=B) (l1:=[]) hVW21 hn Y189 hw Y4 (Sub.nil _) rfl)) (zbu (K:=262144) (Z:=3000000) E2.code (Nat.le_trans E2.sz Y23) Y23 Y23) Y5) fun i27 W27 hP27 hW27=>?_
 obtain ⟨hv27,ha27,hf27,hp27⟩:=hP27
 have kpW27:=(zaa (I:=[]) (B0:=B) (l1:=[]) hVW21 hn Y189 hW27 Y4 (Sub.nil _) rfl)
 have d0:=d0.keep kpW27
 have d1:=d1.keep kpW27
 have d2:=d2.keep kpW27
 have ha15:=ha15.keep kpW27
 have hf15:=hf15.keep kpW27
 have ha21:=ha21.keep kpW27
 have hf21:=hf21.keep kpW27
 have hVW27:=hW27.s0
 obtain ⟨x27,r27⟩:=i27
 dsimp only at hv27 ha27 hf27 hp27
 have ln27:x27.length=xs2.length:=by have q:=congrArg List.length hv27;simpa using q
 refine J.aj Y8k zkj rfl rfl (fun w hw=>S.ok w n _ _ _ x27 ((lentRowA (hf27.keep (zaa (I:=[]) (B0:=B) (l1:=[]) hVW27 hn Y189 hw Y4 (Sub.nil _) rfl))).cs) ((ha27.keep (zaa (I:=[]) (B0:=B) (l1:=[]) hVW27 hn Y189 hw Y4 (Sub.nil _) rfl)).ok) Y5) ?_
 refine J.as 28 (.tuple #[.int .i64 (ck (xs2.map Ac.v)).1,.int .i64 (ck (xs2.map Ac.v)).2]) rfl (by rw [hv27]) <| zz 12 ?_
 refine J.an 33 rfl (fun h1=>?_) (fun h1=>?_)
 have q0:=h1
 refine zz 4 ?_
 refine J.an 37 rfl (fun h2=>?_) (fun h2=>?_)
 have q1:=h2
 refine zz 7 ?_
 exact X.aa rfl (RV.tmp rfl) Y115
 have hno:=fun q:(ck (xs0.map Ac.v)).1=0∧(ck (xs1.map Ac.v)).1=0∧(ck (xs2.map Ac.v)).1=0=>h2 q.2.1
 refine zz 7 ?_
 exact X.aa rfl (RV.tmp rfl) Y115
 have hno:=fun q:(ck (xs0.map Ac.v)).1=0∧(ck (xs1.map Ac.v)).1=0∧(ck (xs2.map Ac.v)).1=0=>h1 q.1
 refine zz 11 ?_
 exact X.aa rfl (RV.tmp rfl) Y115
end Go.Proofs.YtlllcafedekojaaGreatDoor.La
namespace Go.Fz
open Go Go.Fw Go.Proofs.Tryz
theorem zsI:FnOk prog 15:=FnOk.mk' func15 Y12 rfl
theorem fok19:FnOk prog 19:=FnOk.mk' func19 Y12 rfl
theorem fok34:FnOk prog 34:=FnOk.mk' func34 Y12 rfl
theorem zkk:FnOk prog 23:=FnOk.mk' func23 Y12 rfl
end Go.Fz
namespace Go.Proofs.YtlllcafedekojaaGreatDoor.Ld
open Go Go.Fw Go.Fz Go.Proofs.Tryz
attribute [local irreducible] J T X
theorem DiffThree {ck:List AV→Int×Int} (S:CkS prog 35 ck) (w:World) (A0:Option Addr) (c0:Nat) (xs0:List Ac) (hx0:Cs w A0 (rowA xs0)) (i0_:∀ x∈xs0,x.In w) (l0:xs0.length≤2000000000000) (A1:Option Addr) (c1:Nat) (xs1:List Ac) (hx1:Cs w A1 (rowA xs1)) (i1_:∀ x∈xs1,x.In w) (l1:xs1.length≤2000000000000) (A2:Option Addr) (c2:Nat) (xs2:List Ac) (hx2:Cs w A2 (rowA xs2)) (i2_:∀ x∈xs2,x.In w) (l2:xs2.length≤2000000000000):
    Calls prog 9 [.slice A0 xs0.length c0,.slice A1 xs1.length c1,.slice A2 xs2.length c2].toArray w fun e w'=>e=.returned (.bool true)∧WS w [] [] w':=by
 obtain ⟨n,hn0⟩:∃ n,n=w.heap.size:=⟨_,rfl⟩
 have hn:n≤w.heap.size:=Nat.le_of_eq hn0
 refine zac [] 135 [] func9 rfl ntmps9 Y20 (WS.refl _ _) <| zz 9 ?_
 refine J.aj Y8k zsI rfl rfl (fun w hw=>Ee.weight w _ _ xs0 (hx0.ws hw (zab _)) (zii i0_) Y5) ?_
 refine zz 2 ?_
 refine J.an 24 rfl (fun h1=>?_) (fun h1=>?_)
 refine zz 19 ?_
 exact X.aa rfl (RV.tmp rfl) (fun w' hw'=>⟨rfl,hw'.s0⟩)
 have E0:=lite hn0 i0_ Y5
 have d0:=E0.ok
 have ln0_:=E0.len
 have sz0_:=E0.sz
 refine zz 2 ?_
 refine J.aj Y8k zsI rfl rfl (fun w hw=>Ee.weight w _ _ xs1 (hx1.ws hw (zab _)) (zii i1_) Y5) ?_
 refine zz 3 ?_
 refine J.an 29 rfl (fun h2=>?_) (fun h2=>?_)
 refine zz 14 ?_
 exact X.aa rfl (RV.tmp rfl) (fun w' hw'=>⟨rfl,hw'.s0⟩)
 have E1:=lite hn0 i1_ Y5
 have d1:=E1.ok
 have ln1_:=E1.len
 have sz1_:=E1.sz
 refine zz 2 ?_
 refine J.aj Y8k zsI rfl rfl (fun w hw=>Ee.weight w _ _ xs2 (hx2.ws hw (zab _)) (zii i2_) Y5) ?_
 refine zz 4 ?_
 refine T.aa rfl (fun h3=>?_) (fun h3=>?_)
 refine zz 7 ?_
 exact X.aa rfl (RV.tmp rfl) (fun w' hw'=>⟨rfl,hw'.s0⟩)
 have E2:=lite hn0 i2_ Y5
 have d2:=E2.ok
 have ln2_:=E2.len
 have sz2_:=E2.sz
 refine zz 4 ?_
 refine J.aj Y8k fok19 rfl rfl (fun w hw=>La.awake S w) ?_
 refine zz 13 ?_
 refine J.aj Y8k fok34 rfl rfl (fun w hw=>La.three S w _ _ xs0 (hx0.ws hw (zab _)) l0 _ _ xs1 (hx1.ws hw (zab _)) l1 _ _ xs2 (hx2.ws hw (zab _)) l2 n [] (Nat.le_trans hn hw.size) Y194 (E0.at (d0.keep (zad (B0:=[]) (l1:=[]) hn Y189 hw (Sub.nil _) rfl))) (E1.at (d1.keep (zad (B0:=[]) (l1:=[]) hn Y189 hw (Sub.nil _) rfl))) (E2.at (d2.keep (zad (B0:=[]) (l1:=[]) hn Y189 hw (Sub.nil _) rfl)))) ?_
 refine J.aF rfl rfl <| J.aA rfl rfl Y18 <| zz 3 ?_
 refine T.aa rfl (fun h4=>?_) (fun h4=>?_)
 refine zz 8 ?_
 exact X.aa rfl (RV.tmp rfl) (fun w' hw'=>⟨rfl,hw'.s0⟩)
 obtain ⟨k0,k1,k2⟩:=Decidable.not_not.1 h4
 have v0:=znR d0
 have v1:=znR d1
 have v2:=znR d2
 refine zz 5 ?_
 refine J.aw zio rfl rfl _ _ [] Y0 rfl (fun _ _=>Sub.nil _) (fun w hw=>Ef.lend w n ([]++ids []) _ _ xs0 (Nat.le_trans hn hw.size) (zaf (l1:=[]) Y194 hw Y0 rfl) (hx0.ws hw (zab _)) (d0.keep (zad (B0:=[]) (l1:=[]) hn Y189 hw (Sub.nil _) rfl)) (zbu (K:=262144) (Z:=3000000) E0.code (Nat.le_trans E0.sz Y23) Y23 Y23) Y5) fun i47 W47 hP47 hW47=>?_
 obtain ⟨hv47,ha47,hf47,hp47⟩:=hP47
 have kpW47:=(zad (B0:=[]) (l1:=[]) hn Y189 hW47 (Sub.nil _) rfl)
 have d0:=d0.keep kpW47
 have d1:=d1.keep kpW47
 have d2:=d2.keep kpW47
 have hVW47:=hW47.s0
 obtain ⟨x47,r47⟩:=i47
 dsimp only at hv47 ha47 hf47 hp47
 have ln47:x47.length=xs0.length:=by have q:=congrArg List.length hv47;simpa using q
 refine zz 1 ?_
 refine J.aw zio rfl rfl _ _ [] Y0 rfl (fun _ _=>Sub.nil _) (fun w hw=>Ef.lend w n ([]++ids []) _ _ xs1 (Nat.le_trans hn hw.size) (zaf (l1:=[]) Y194 hw Y0 rfl) (hx1.ws hw (zab _)) (d1.keep (zaa (I:=[]) (B0:=[]) (l1:=[]) hVW47 hn Y189 hw Y4 (Sub.nil _) rfl)) (zbu (K:=262144) (Z:=3000000) E1.code (Nat.le_trans E1.sz Y23) Y23 Y23) Y5) fun i49 W49 hP49 hW49=>?_
 obtain ⟨hv49,ha49,hf49,hp49⟩:=hP49
 have kpW49:=(zaa (I:=[]) (B0:=[]) (l1:=[]) hVW47 hn Y189 hW49 Y4 (Sub.nil _) rfl)
 have d0:=d0.keep kpW49
 have d1:=d1.keep kpW49
 have d2:=d2.keep kpW49
 have ha47:=ha47.keep kpW49
 have hf47:=hf47.keep kpW49
 have hVW49:=hW49.s0
 obtain ⟨x49,r49⟩:=i49
 dsimp only at hv49 ha49 hf49 hp49
 have ln49:x49.length=xs1.length:=by have q:=congrArg List.length hv49;simpa using q
 refine J.aw zpQ rfl rfl _ _ [] Y0 rfl (fun _ _=>Sub.nil _) (fun w hw=>Ek.Of S.ok w n ([]++ids []) _ _ _ _ x47 x49 (Nat.le_trans hn hw.size) (zaf (l1:=[]) Y194 hw Y0 rfl) ((lentRowA (hf47.keep (zaa (I:=[]) (B0:=[]) (l1:=[]) hVW49 hn Y189 hw Y4 (Sub.nil _) rfl))).cs) (Nat.le_of_succ_le hp47) ((ha47.keep (zaa (I:=[]) (B0:=[]) (l1:=[]) hVW49 hn Y189 hw Y4 (Sub.nil _) rfl)).ok) (zeb ha47) ((lentRowA (hf49.keep (zaa (I:=[]) (B0:=[]) (l1:=[]) hVW49 hn Y189 hw Y4 (Sub.nil _) rfl))).cs) (Nat.le_of_succ_le hp49) ((ha49.keep (zaa (I:=[]) (B0:=[]) (l1:=[]) hVW49 hn Y189 hw Y4 (Sub.nil _) rfl)).ok) (zeb ha49) Y5 Y5 (by rw [hv47,hv49];exact Nat.le_trans (zeV (Nat.le_trans E0.sz Y23) (Nat.le_trans E1.sz Y23)) Y23)) fun i50 W50 hP50 hW50=>?_
 obtain ⟨hv50,hr50,hf50,hc50⟩:=hP50
 have kpW50:=(zaa (I:=[]) (B0:=[]) (l1:=[]) hVW49 hn Y189 hW50 Y4 (Sub.nil _) rfl)
 have d0:=d0.keep kpW50
 have d1:=d1.keep kpW50
 have d2:=d2.keep kpW50
 have ha47:=ha47.keep kpW50
 have hf47:=hf47.keep kpW50
 have ha49:=ha49.keep kpW50
 have hf49:=hf49.keep kpW50
 have hVW50:=hW50.s0
 obtain ⟨x50,r50⟩:=i50
 dsimp only at hv50 hr50 hf50 hc50
 have e50:ofZ ck (x47.map Ac.v) (x49.map Ac.v)=(ofL (xs0.map Ac.v) (xs1.map Ac.v),0):=by rw [hv47,hv49];exact zfJ k0 k1
 rw [e50] at hv50
 have ln50:x50.length≤30000000:=by rw [zfK hv50];exact Nat.le_trans (zeV (Nat.le_trans E0.sz Y23) (Nat.le_trans E1.sz Y23)) Y23
 refine J.as 50 (.tuple #[r50.val x50.length,.int .i64 0]) rfl (by rw [e50]) ?_
 replace hv50:x50.map Ch.v=ofL (xs0.map Ac.v) (xs1.map Ac.v):=hv50
 refine zz 10 ?_
 refine J.aw zio rfl rfl _ _ [] Y0 rfl (fun _ _=>Sub.nil _) (fun w hw=>Ef.lend w n ([]++ids []) _ _ xs1 (Nat.le_trans hn hw.size) (zaf (l1:=[]) Y194 hw Y0 rfl) (hx1.ws hw (zab _)) (d1.keep (zaa (I:=[]) (B0:=[]) (l1:=[]) hVW50 hn Y189 hw Y4 (Sub.nil _) rfl)) (zbu (K:=262144) (Z:=3000000) E1.code (Nat.le_trans E1.sz Y23) Y23 Y23) Y5) fun i55 W55 hP55 hW55=>?_
 obtain ⟨hv55,ha55,hf55,hp55⟩:=hP55
 have kpW55:=(zaa (I:=[]) (B0:=[]) (l1:=[]) hVW50 hn Y189 hW55 Y4 (Sub.nil _) rfl)
 have d0:=d0.keep kpW55
 have d1:=d1.keep kpW55
 have d2:=d2.keep kpW55
 have ha47:=ha47.keep kpW55
 have hf47:=hf47.keep kpW55
 have ha49:=ha49.keep kpW55
 have hf49:=hf49.keep kpW55
 have hf50:=hf50.keep kpW55
 have hc50:=hc50.keep kpW55
 have hVW55:=hW55.s0
 obtain ⟨x55,r55⟩:=i55
 dsimp only at hv55 ha55 hf55 hp55
 have ln55:x55.length=xs1.length:=by have q:=congrArg List.length hv55;simpa using q
 refine zz 1 ?_
 refine J.aw zio rfl rfl _ _ [] Y0 rfl (fun _ _=>Sub.nil _) (fun w hw=>Ef.lend w n ([]++ids []) _ _ xs2 (Nat.le_trans hn hw.size) (zaf (l1:=[]) Y194 hw Y0 rfl) (hx2.ws hw (zab _)) (d2.keep (zaa (I:=[]) (B0:=[]) (l1:=[]) hVW55 hn Y189 hw Y4 (Sub.nil _) rfl)) (zbu (K:=262144) (Z:=3000000) E2.code (Nat.le_trans E2.sz Y23) Y23 Y23) Y5) fun i57 W57 hP57 hW57=>?_
 obtain ⟨hv57,ha57,hf57,hp57⟩:=hP57
 have kpW57:=(zaa (I:=[]) (B0:=[]) (l1:=[]) hVW55 hn Y189 hW57 Y4 (Sub.nil _) rfl)
 have d0:=d0.keep kpW57
 have d1:=d1.keep kpW57
 have d2:=d2.keep kpW57
 have ha47:=ha47.keep kpW57
 have hf47:=hf47.keep kpW57
 have ha49:=ha49.keep kpW57
 have hf49:=hf49.keep kpW57
 have hf50:=hf50.keep kpW57
 have hc50:=hc50.keep kpW57
 have ha55:=ha55.keep kpW57
 have hf55:=hf55.keep kpW57
 have hVW57:=hW57.s0
 obtain ⟨x57,r57⟩:=i57
 dsimp only at hv57 ha57 hf57 hp57
 have ln57:x57.length=xs2.length:=by have q:=congrArg List.length hv57;simpa using q
 refine J.aw zpQ rfl rfl _ _ [] Y0 rfl (fun _ _=>Sub.nil _) (fun w hw=>Ek.Of S.ok w n ([]++ids []) _ _ _ _ x55 x57 (Nat.le_trans hn hw.size) (zaf (l1:=[]) Y194 hw Y0 rfl) ((lentRowA (hf55.keep (zaa (I:=[]) (B0:=[]) (l1:=[]) hVW57 hn Y189 hw Y4 (Sub.nil _) rfl))).cs) (Nat.le_of_succ_le hp55) ((ha55.keep (zaa (I:=[]) (B0:=[]) (l1:=[]) hVW57 hn Y189 hw Y4 (Sub.nil _) rfl)).ok) (zeb ha55) ((lentRowA (hf57.keep (zaa (I:=[]) (B0:=[]) (l1:=[]) hVW57 hn Y189 hw Y4 (Sub.nil _) rfl))).cs) (Nat.le_of_succ_le hp57) ((ha57.keep (zaa (I:=[]) (B0:=[]) (l1:=[]) hVW57 hn Y189 hw Y4 (Sub.nil _) rfl)).ok) (zeb ha57) Y5 Y5 (by rw [hv55,hv57];exact Nat.le_trans (zeV (Nat.le_trans E1.sz Y23) (Nat.le_trans E2.sz Y23)) Y23)) fun i58 W58 hP58 hW58=>?_
 obtain ⟨hv58,hr58,hf58,hc58⟩:=hP58
 have kpW58:=(zaa (I:=[]) (B0:=[]) (l1:=[]) hVW57 hn Y189 hW58 Y4 (Sub.nil _) rfl)
 have d0:=d0.keep kpW58
 have d1:=d1.keep kpW58
 have d2:=d2.keep kpW58
 have ha47:=ha47.keep kpW58
 have hf47:=hf47.keep kpW58
 have ha49:=ha49.keep kpW58
 have hf49:=hf49.keep kpW58
 have hf50:=hf50.keep kpW58
 have hc50:=hc50.keep kpW58
 have ha55:=ha55.keep kpW58
 have hf55:=hf55.keep kpW58
 have ha57:=ha57.keep kpW58
 have hf57:=hf57.keep kpW58
 have hVW58:=hW58.s0
 obtain ⟨x58,r58⟩:=i58
 dsimp only at hv58 hr58 hf58 hc58
 have e58:ofZ ck (x55.map Ac.v) (x57.map Ac.v)=(ofL (xs1.map Ac.v) (xs2.map Ac.v),0):=by rw [hv55,hv57];exact zfJ k1 k2
 rw [e58] at hv58
 have ln58:x58.length≤30000000:=by rw [zfK hv58];exact Nat.le_trans (zeV (Nat.le_trans E1.sz Y23) (Nat.le_trans E2.sz Y23)) Y23
 refine J.as 58 (.tuple #[r58.val x58.length,.int .i64 0]) rfl (by rw [e58]) ?_
 replace hv58:x58.map Ch.v=ofL (xs1.map Ac.v) (xs2.map Ac.v):=hv58
 refine zz 10 ?_
 refine J.aw zio rfl rfl _ _ [] Y0 rfl (fun _ _=>Sub.nil _) (fun w hw=>Ef.lend w n ([]++ids []) _ _ xs0 (Nat.le_trans hn hw.size) (zaf (l1:=[]) Y194 hw Y0 rfl) (hx0.ws hw (zab _)) (d0.keep (zaa (I:=[]) (B0:=[]) (l1:=[]) hVW58 hn Y189 hw Y4 (Sub.nil _) rfl)) (zbu (K:=262144) (Z:=3000000) E0.code (Nat.le_trans E0.sz Y23) Y23 Y23) Y5) fun i63 W63 hP63 hW63=>?_
 obtain ⟨hv63,ha63,hf63,hp63⟩:=hP63
 have kpW63:=(zaa (I:=[]) (B0:=[]) (l1:=[]) hVW58 hn Y189 hW63 Y4 (Sub.nil _) rfl)
 have d0:=d0.keep kpW63
 have d1:=d1.keep kpW63
 have d2:=d2.keep kpW63
 have ha47:=ha47.keep kpW63
 have hf47:=hf47.keep kpW63
 have ha49:=ha49.keep kpW63
 have hf49:=hf49.keep kpW63
 have hf50:=hf50.keep kpW63
 have hc50:=hc50.keep kpW63
 have ha55:=ha55.keep kpW63
 have hf55:=hf55.keep kpW63
 have ha57:=ha57.keep kpW63
 have hf57:=hf57.keep kpW63
 have hf58:=hf58.keep kpW63
 have hc58:=hc58.keep kpW63
 have hVW63:=hW63.s0
 obtain ⟨x63,r63⟩:=i63
 dsimp only at hv63 ha63 hf63 hp63
 have ln63:x63.length=xs0.length:=by have q:=congrArg List.length hv63;simpa using q
 refine zz 1 ?_
 refine J.aw zio rfl rfl _ _ [] Y0 rfl (fun _ _=>Sub.nil _) (fun w hw=>Ef.lend w n ([]++ids []) _ _ xs2 (Nat.le_trans hn hw.size) (zaf (l1:=[]) Y194 hw Y0 rfl) (hx2.ws hw (zab _)) (d2.keep (zaa (I:=[]) (B0:=[]) (l1:=[]) hVW63 hn Y189 hw Y4 (Sub.nil _) rfl)) (zbu (K:=262144) (Z:=3000000) E2.code (Nat.le_trans E2.sz Y23) Y23 Y23) Y5) fun i65 W65 hP65 hW65=>?_
 obtain ⟨hv65,ha65,hf65,hp65⟩:=hP65
 have kpW65:=(zaa (I:=[]) (B0:=[]) (l1:=[]) hVW63 hn Y189 hW65 Y4 (Sub.nil _) rfl)
 have d0:=d0.keep kpW65
 have d1:=d1.keep kpW65
 have d2:=d2.keep kpW65
 have ha47:=ha47.keep kpW65
 have hf47:=hf47.keep kpW65
 have ha49:=ha49.keep kpW65
 have hf49:=hf49.keep kpW65
 have hf50:=hf50.keep kpW65
 have hc50:=hc50.keep kpW65
 have ha55:=ha55.keep kpW65
 have hf55:=hf55.keep kpW65
 have ha57:=ha57.keep kpW65
 have hf57:=hf57.keep kpW65
 have hf58:=hf58.keep kpW65
 have hc58:=hc58.keep kpW65
 have ha63:=ha63.keep kpW65
 have hf63:=hf63.keep kpW65
 have hVW65:=hW65.s0
 obtain ⟨x65,r65⟩:=i65
 dsimp only at hv65 ha65 hf65 hp65
 have ln65:x65.length=xs2.length:=by have q:=congrArg List.length hv65;simpa using q
 refine J.aw zpQ rfl rfl _ _ [] Y0 rfl (fun _ _=>Sub.nil _) (fun w hw=>Ek.Of S.ok w n ([]++ids []) _ _ _ _ x63 x65 (Nat.le_trans hn hw.size) (zaf (l1:=[]) Y194 hw Y0 rfl) ((lentRowA (hf63.keep (zaa (I:=[]) (B0:=[]) (l1:=[]) hVW65 hn Y189 hw Y4 (Sub.nil _) rfl))).cs) (Nat.le_of_succ_le hp63) ((ha63.keep (zaa (I:=[]) (B0:=[]) (l1:=[]) hVW65 hn Y189 hw Y4 (Sub.nil _) rfl)).ok) (zeb ha63) ((lentRowA (hf65.keep (zaa (I:=[]) (B0:=[]) (l1:=[]) hVW65 hn Y189 hw Y4 (Sub.nil _) rfl))).cs) (Nat.le_of_succ_le hp65) ((ha65.keep (zaa (I:=[]) (B0:=[]) (l1:=[]) hVW65 hn Y189 hw Y4 (Sub.nil _) rfl)).ok) (zeb ha65) Y5 Y5 (by rw [hv63,hv65];exact Nat.le_trans (zeV (Nat.le_trans E0.sz Y23) (Nat.le_trans E2.sz Y23)) Y23)) fun i66 W66 hP66 hW66=>?_
 obtain ⟨hv66,hr66,hf66,hc66⟩:=hP66
 have kpW66:=(zaa (I:=[]) (B0:=[]) (l1:=[]) hVW65 hn Y189 hW66 Y4 (Sub.nil _) rfl)
 have d0:=d0.keep kpW66
 have d1:=d1.keep kpW66
 have d2:=d2.keep kpW66
 have ha47:=ha47.keep kpW66
 have hf47:=hf47.keep kpW66
 have ha49:=ha49.keep kpW66
 have hf49:=hf49.keep kpW66
 have hf50:=hf50.keep kpW66
 have hc50:=hc50.keep kpW66
 have ha55:=ha55.keep kpW66
 have hf55:=hf55.keep kpW66
 have ha57:=ha57.keep kpW66
 have hf57:=hf57.keep kpW66
 have hf58:=hf58.keep kpW66
 have hc58:=hc58.keep kpW66
 have ha63:=ha63.keep kpW66
 have hf63:=hf63.keep kpW66
 have ha65:=ha65.keep kpW66
 have hf65:=hf65.keep kpW66
 have hVW66:=hW66.s0
 obtain ⟨x66,r66⟩:=i66
 dsimp only at hv66 hr66 hf66 hc66
 have e66:ofZ ck (x63.map Ac.v) (x65.map Ac.v)=(ofL (xs0.map Ac.v) (xs2.map Ac.v),0):=by rw [hv63,hv65];exact zfJ k0 k2
 rw [e66] at hv66
 have ln66:x66.length≤30000000:=by rw [zfK hv66];exact Nat.le_trans (zeV (Nat.le_trans E0.sz Y23) (Nat.le_trans E2.sz Y23)) Y23
 refine J.as 66 (.tuple #[r66.val x66.length,.int .i64 0]) rfl (by rw [e66]) ?_
 replace hv66:x66.map Ch.v=ofL (xs0.map Ac.v) (xs2.map Ac.v):=hv66
 refine zz 10 ?_
 refine J.aw zkk rfl rfl _ _ [] Y0 rfl (fun _ _=>Sub.nil _) (fun w hw=>Df.lendTurns w n ([]++ids []) _ _ x50 (Nat.le_trans hn hw.size) (zaf (l1:=[]) Y194 hw Y0 rfl) ((hf50.keep (zaa (I:=[]) (B0:=[]) (l1:=[]) hVW66 hn Y189 hw Y4 (Sub.nil _) rfl)).cs) (hc50.keep (zaa (I:=[]) (B0:=[]) (l1:=[]) hVW66 hn Y189 hw Y4 (Sub.nil _) rfl)) (zci (K:=262144) Y159 Y23) Y5) fun i71 W71 hP71 hW71=>?_
 obtain ⟨hv71,ha71,hf71,hp71⟩:=hP71
 have kpW71:=(zaa (I:=[]) (B0:=[]) (l1:=[]) hVW66 hn Y189 hW71 Y4 (Sub.nil _) rfl)
 have d0:=d0.keep kpW71
 have d1:=d1.keep kpW71
 have d2:=d2.keep kpW71
 have ha47:=ha47.keep kpW71
 have hf47:=hf47.keep kpW71
 have ha49:=ha49.keep kpW71
 have hf49:=hf49.keep kpW71
 have hf50:=hf50.keep kpW71
 have hc50:=hc50.keep kpW71
 have ha55:=ha55.keep kpW71
 have hf55:=hf55.keep kpW71
 have ha57:=ha57.keep kpW71
 have hf57:=hf57.keep kpW71
 have hf58:=hf58.keep kpW71
 have hc58:=hc58.keep kpW71
 have ha63:=ha63.keep kpW71
 have hf63:=hf63.keep kpW71
 have ha65:=ha65.keep kpW71
 have hf65:=hf65.keep kpW71
 have hf66:=hf66.keep kpW71
 have hc66:=hc66.keep kpW71
 have hVW71:=hW71.s0
 obtain ⟨x71,r71⟩:=i71
 dsimp only at hv71 ha71 hf71 hp71
 have ln71:x71.length=x50.length:=by have q:=congrArg List.length hv71;simpa using q
 rw [hv50] at hv71
 refine zz 1 ?_
 refine J.aw zkk rfl rfl _ _ [] Y0 rfl (fun _ _=>Sub.nil _) (fun w hw=>Df.lendTurns w n ([]++ids []) _ _ x58 (Nat.le_trans hn hw.size) (zaf (l1:=[]) Y194 hw Y0 rfl) ((hf58.keep (zaa (I:=[]) (B0:=[]) (l1:=[]) hVW71 hn Y189 hw Y4 (Sub.nil _) rfl)).cs) (hc58.keep (zaa (I:=[]) (B0:=[]) (l1:=[]) hVW71 hn Y189 hw Y4 (Sub.nil _) rfl)) (zci (K:=262144) (by rw [hv58];exact (zdf _ _ E1.code E2.code)) Y23) Y5) fun i73 W73 hP73 hW73=>?_
 obtain ⟨hv73,ha73,hf73,hp73⟩:=hP73
 have kpW73:=(zaa (I:=[]) (B0:=[]) (l1:=[]) hVW71 hn Y189 hW73 Y4 (Sub.nil _) rfl)
 have d0:=d0.keep kpW73
 have d1:=d1.keep kpW73
 have d2:=d2.keep kpW73
 have ha47:=ha47.keep kpW73
 have hf47:=hf47.keep kpW73
 have ha49:=ha49.keep kpW73
 have hf49:=hf49.keep kpW73
 have hf50:=hf50.keep kpW73
 have hc50:=hc50.keep kpW73
 have ha55:=ha55.keep kpW73
 have hf55:=hf55.keep kpW73
 have ha57:=ha57.keep kpW73
 have hf57:=hf57.keep kpW73
 have hf58:=hf58.keep kpW73
 have hc58:=hc58.keep kpW73
 have ha63:=ha63.keep kpW73
 have hf63:=hf63.keep kpW73
 have ha65:=ha65.keep kpW73
 have hf65:=hf65.keep kpW73
 have hf66:=hf66.keep kpW73
 have hc66:=hc66.keep kpW73
 have ha71:=ha71.keep kpW73
 have hf71:=hf71.keep kpW73
 have hVW73:=hW73.s0
 obtain ⟨x73,r73⟩:=i73
 dsimp only at hv73 ha73 hf73 hp73
 have ln73:x73.length=x58.length:=by have q:=congrArg List.length hv73;simpa using q
 rw [hv58] at hv73
 refine J.aw zpP rfl rfl _ _ [] Y0 rfl (fun _ _=>Sub.nil _) (fun w hw=>Dc.Join w n ([]++ids []) _ _ _ _ x71 x73 (Nat.le_trans hn hw.size) (zaf (l1:=[]) Y194 hw Y0 rfl) ((lentRow (hf71.keep (zaa (I:=[]) (B0:=[]) (l1:=[]) hVW73 hn Y189 hw Y4 (Sub.nil _) rfl))).cs) (Nat.le_of_succ_le hp71) ((ha71.keep (zaa (I:=[]) (B0:=[]) (l1:=[]) hVW73 hn Y189 hw Y4 (Sub.nil _) rfl)).ok) ((lentRow (hf73.keep (zaa (I:=[]) (B0:=[]) (l1:=[]) hVW73 hn Y189 hw Y4 (Sub.nil _) rfl))).cs) (Nat.le_of_succ_le hp73) ((ha73.keep (zaa (I:=[]) (B0:=[]) (l1:=[]) hVW73 hn Y189 hw Y4 (Sub.nil _) rfl)).ok) Y5 Y5) fun i74 W74 hP74 hW74=>?_
 obtain ⟨hv74,hr74,hf74,hc74⟩:=hP74
 have kpW74:=(zaa (I:=[]) (B0:=[]) (l1:=[]) hVW73 hn Y189 hW74 Y4 (Sub.nil _) rfl)
 have d0:=d0.keep kpW74
 have d1:=d1.keep kpW74
 have d2:=d2.keep kpW74
 have ha47:=ha47.keep kpW74
 have hf47:=hf47.keep kpW74
 have ha49:=ha49.keep kpW74
 have hf49:=hf49.keep kpW74
 have hf50:=hf50.keep kpW74
 have hc50:=hc50.keep kpW74
 have ha55:=ha55.keep kpW74
 have hf55:=hf55.keep kpW74
 have ha57:=ha57.keep kpW74
 have hf57:=hf57.keep kpW74
 have hf58:=hf58.keep kpW74
 have hc58:=hc58.keep kpW74
 have ha63:=ha63.keep kpW74
 have hf63:=hf63.keep kpW74
 have ha65:=ha65.keep kpW74
 have hf65:=hf65.keep kpW74
 have hf66:=hf66.keep kpW74
 have hc66:=hc66.keep kpW74
 have ha71:=ha71.keep kpW74
 have hf71:=hf71.keep kpW74
 have ha73:=ha73.keep kpW74
 have hf73:=hf73.keep kpW74
 have hVW74:=hW74.s0
 obtain ⟨x74,r74⟩:=i74
 dsimp only at hv74 hr74 hf74 hc74
 have e74:joinZ (x71.map Ch.v) (x73.map Ch.v)=((ofL (xs0.map Ac.v) (xs2.map Ac.v)),0):=by rw [hv71,hv73];exact S.join v0 v1 v2 k0 k1 k2
 rw [e74] at hv74
 have ln74:x74.length≤30000000:=by rw [zfK hv74];exact Nat.le_trans (zeV E0.sz3 E2.sz3) Y23
 refine J.as 74 (.tuple #[r74.val x74.length,.int .i64 0]) rfl (by rw [e74]) ?_
 replace hv74:x74.map Ch.v=(ofL (xs0.map Ac.v) (xs2.map Ac.v)):=hv74
 refine zz 11 ?_
 refine J.be rfl rfl rfl (decide_eq_false Y13) <| zz 2 ?_
 refine J.aF rfl rfl <| J.be rfl rfl rfl (decide_eq_false Y13) <| zz 3 ?_
 refine J.aF rfl rfl <| J.be rfl rfl rfl (decide_eq_false Y13) <| zz 3 ?_
 refine J.aF rfl rfl <| J.be rfl rfl rfl (decide_eq_false Y13) <| zz 5 ?_
 refine J.aj Y8k zsH rfl rfl (fun w hw=>Df.same w n _ _ _ _ _ x74 x66 ((hf74.keep (zaa (I:=[]) (B0:=[]) (l1:=[]) hVW74 hn Y189 hw Y4 (Sub.nil _) rfl)).cs) (hc74.keep (zaa (I:=[]) (B0:=[]) (l1:=[]) hVW74 hn Y189 hw Y4 (Sub.nil _) rfl)) ((hf66.keep (zaa (I:=[]) (B0:=[]) (l1:=[]) hVW74 hn Y189 hw Y4 (Sub.nil _) rfl)).cs) (hc66.keep (zaa (I:=[]) (B0:=[]) (l1:=[]) hVW74 hn Y189 hw Y4 (Sub.nil _) rfl)) Y5 Y5) ?_
 refine J.as 94 (.bool true) rfl (by rw [decide_eq_true (hv74.trans hv66.symm)]) <| zz 10 ?_
 refine J.aw zkk rfl rfl _ _ [] Y0 rfl (fun _ _=>Sub.nil _) (fun w hw=>Df.lendTurns w n ([]++ids []) _ _ x58 (Nat.le_trans hn hw.size) (zaf (l1:=[]) Y194 hw Y0 rfl) ((hf58.keep (zaa (I:=[]) (B0:=[]) (l1:=[]) hVW74 hn Y189 hw Y4 (Sub.nil _) rfl)).cs) (hc58.keep (zaa (I:=[]) (B0:=[]) (l1:=[]) hVW74 hn Y189 hw Y4 (Sub.nil _) rfl)) (zci (K:=262144) (by rw [hv58];exact (zdf _ _ E1.code E2.code)) Y23) Y5) fun i99 W99 hP99 hW99=>?_
 obtain ⟨hv99,ha99,hf99,hp99⟩:=hP99
 have kpW99:=(zaa (I:=[]) (B0:=[]) (l1:=[]) hVW74 hn Y189 hW99 Y4 (Sub.nil _) rfl)
 have d0:=d0.keep kpW99
 have d1:=d1.keep kpW99
 have d2:=d2.keep kpW99
 have ha47:=ha47.keep kpW99
 have hf47:=hf47.keep kpW99
 have ha49:=ha49.keep kpW99
 have hf49:=hf49.keep kpW99
 have hf50:=hf50.keep kpW99
 have hc50:=hc50.keep kpW99
 have ha55:=ha55.keep kpW99
 have hf55:=hf55.keep kpW99
 have ha57:=ha57.keep kpW99
 have hf57:=hf57.keep kpW99
 have hf58:=hf58.keep kpW99
 have hc58:=hc58.keep kpW99
 have ha63:=ha63.keep kpW99
 have hf63:=hf63.keep kpW99
 have ha65:=ha65.keep kpW99
 have hf65:=hf65.keep kpW99
 have hf66:=hf66.keep kpW99
 have hc66:=hc66.keep kpW99
 have ha71:=ha71.keep kpW99
 have hf71:=hf71.keep kpW99
 have ha73:=ha73.keep kpW99
 have hf73:=hf73.keep kpW99
 have hf74:=hf74.keep kpW99
 have hc74:=hc74.keep kpW99
 have hVW99:=hW99.s0
 obtain ⟨x99,r99⟩:=i99
 dsimp only at hv99 ha99 hf99 hp99
 have ln99:x99.length=x58.length:=by have q:=congrArg List.length hv99;simpa using q
 rw [hv58] at hv99
 refine J.aw zob rfl rfl _ _ [] Y0 rfl (fun _ _=>Sub.nil _) (fun w hw=>Db.Turn w n ([]++ids []) _ _ x99 (Nat.le_trans hn hw.size) (zaf (l1:=[]) Y194 hw Y0 rfl) ((lentRow (hf99.keep (zaa (I:=[]) (B0:=[]) (l1:=[]) hVW99 hn Y189 hw Y4 (Sub.nil _) rfl))).cs) ((ha99.keep (zaa (I:=[]) (B0:=[]) (l1:=[]) hVW99 hn Y189 hw Y4 (Sub.nil _) rfl)).ok) Y5) fun i100 W100 hP100 hW100=>?_
 obtain ⟨hv100,hr100,hf100,hc100⟩:=hP100
 have kpW100:=(zaa (I:=[]) (B0:=[]) (l1:=[]) hVW99 hn Y189 hW100 Y4 (Sub.nil _) rfl)
 have d0:=d0.keep kpW100
 have d1:=d1.keep kpW100
 have d2:=d2.keep kpW100
 have ha47:=ha47.keep kpW100
 have hf47:=hf47.keep kpW100
 have ha49:=ha49.keep kpW100
 have hf49:=hf49.keep kpW100
 have hf50:=hf50.keep kpW100
 have hc50:=hc50.keep kpW100
 have ha55:=ha55.keep kpW100
 have hf55:=hf55.keep kpW100
 have ha57:=ha57.keep kpW100
 have hf57:=hf57.keep kpW100
 have hf58:=hf58.keep kpW100
 have hc58:=hc58.keep kpW100
 have ha63:=ha63.keep kpW100
 have hf63:=hf63.keep kpW100
 have ha65:=ha65.keep kpW100
 have hf65:=hf65.keep kpW100
 have hf66:=hf66.keep kpW100
 have hc66:=hc66.keep kpW100
 have ha71:=ha71.keep kpW100
 have hf71:=hf71.keep kpW100
 have ha73:=ha73.keep kpW100
 have hf73:=hf73.keep kpW100
 have hf74:=hf74.keep kpW100
 have hc74:=hc74.keep kpW100
 have ha99:=ha99.keep kpW100
 have hf99:=hf99.keep kpW100
 have hVW100:=hW100.s0
 obtain ⟨x100,r100⟩:=i100
 dsimp only at hv100 hr100 hf100 hc100
 have ln100:x100.length=x99.length:=zeZ hv100
 replace hv100:x100.map Ch.v=(ofL (xs1.map Ac.v) (xs2.map Ac.v)).map CV.turn:=zgf hv100 hv99
 rw [S.turned v1 v2 k1 k2] at hv100
 refine zz 1 ?_
 refine J.aw zkk rfl rfl _ _ [] Y0 rfl (fun _ _=>Sub.nil _) (fun w hw=>Df.lendTurns w n ([]++ids []) _ _ x50 (Nat.le_trans hn hw.size) (zaf (l1:=[]) Y194 hw Y0 rfl) ((hf50.keep (zaa (I:=[]) (B0:=[]) (l1:=[]) hVW100 hn Y189 hw Y4 (Sub.nil _) rfl)).cs) (hc50.keep (zaa (I:=[]) (B0:=[]) (l1:=[]) hVW100 hn Y189 hw Y4 (Sub.nil _) rfl)) (zci (K:=262144) Y159 Y23) Y5) fun i102 W102 hP102 hW102=>?_
 obtain ⟨hv102,ha102,hf102,hp102⟩:=hP102
 have kpW102:=(zaa (I:=[]) (B0:=[]) (l1:=[]) hVW100 hn Y189 hW102 Y4 (Sub.nil _) rfl)
 have d0:=d0.keep kpW102
 have d1:=d1.keep kpW102
 have d2:=d2.keep kpW102
 have ha47:=ha47.keep kpW102
 have hf47:=hf47.keep kpW102
 have ha49:=ha49.keep kpW102
 have hf49:=hf49.keep kpW102
 have hf50:=hf50.keep kpW102
 have hc50:=hc50.keep kpW102
 have ha55:=ha55.keep kpW102
 have hf55:=hf55.keep kpW102
 have ha57:=ha57.keep kpW102
 have hf57:=hf57.keep kpW102
 have hf58:=hf58.keep kpW102
 have hc58:=hc58.keep kpW102
 have ha63:=ha63.keep kpW102
 have hf63:=hf63.keep kpW102
 have ha65:=ha65.keep kpW102
 have hf65:=hf65.keep kpW102
 have hf66:=hf66.keep kpW102
 have hc66:=hc66.keep kpW102
 have ha71:=ha71.keep kpW102
 have hf71:=hf71.keep kpW102
 have ha73:=ha73.keep kpW102
 have hf73:=hf73.keep kpW102
 have hf74:=hf74.keep kpW102
 have hc74:=hc74.keep kpW102
 have ha99:=ha99.keep kpW102
 have hf99:=hf99.keep kpW102
 have hf100:=hf100.keep kpW102
 have hc100:=hc100.keep kpW102
 have hVW102:=hW102.s0
 obtain ⟨x102,r102⟩:=i102
 dsimp only at hv102 ha102 hf102 hp102
 have ln102:x102.length=x50.length:=by have q:=congrArg List.length hv102;simpa using q
 rw [hv50] at hv102
 refine J.aw zob rfl rfl _ _ [] Y0 rfl (fun _ _=>Sub.nil _) (fun w hw=>Db.Turn w n ([]++ids []) _ _ x102 (Nat.le_trans hn hw.size) (zaf (l1:=[]) Y194 hw Y0 rfl) ((lentRow (hf102.keep (zaa (I:=[]) (B0:=[]) (l1:=[]) hVW102 hn Y189 hw Y4 (Sub.nil _) rfl))).cs) ((ha102.keep (zaa (I:=[]) (B0:=[]) (l1:=[]) hVW102 hn Y189 hw Y4 (Sub.nil _) rfl)).ok) Y5) fun i103 W103 hP103 hW103=>?_
 obtain ⟨hv103,hr103,hf103,hc103⟩:=hP103
 have kpW103:=(zaa (I:=[]) (B0:=[]) (l1:=[]) hVW102 hn Y189 hW103 Y4 (Sub.nil _) rfl)
 have d0:=d0.keep kpW103
 have d1:=d1.keep kpW103
 have d2:=d2.keep kpW103
 have ha47:=ha47.keep kpW103
 have hf47:=hf47.keep kpW103
 have ha49:=ha49.keep kpW103
 have hf49:=hf49.keep kpW103
 have hf50:=hf50.keep kpW103
 have hc50:=hc50.keep kpW103
 have ha55:=ha55.keep kpW103
 have hf55:=hf55.keep kpW103
 have ha57:=ha57.keep kpW103
 have hf57:=hf57.keep kpW103
 have hf58:=hf58.keep kpW103
 have hc58:=hc58.keep kpW103
 have ha63:=ha63.keep kpW103
 have hf63:=hf63.keep kpW103
 have ha65:=ha65.keep kpW103
 have hf65:=hf65.keep kpW103
 have hf66:=hf66.keep kpW103
 have hc66:=hc66.keep kpW103
 have ha71:=ha71.keep kpW103
 have hf71:=hf71.keep kpW103
 have ha73:=ha73.keep kpW103
 have hf73:=hf73.keep kpW103
 have hf74:=hf74.keep kpW103
 have hc74:=hc74.keep kpW103
 have ha99:=ha99.keep kpW103
 have hf99:=hf99.keep kpW103
 have hf100:=hf100.keep kpW103
 have hc100:=hc100.keep kpW103
 have ha102:=ha102.keep kpW103
 have hf102:=hf102.keep kpW103
 have hVW103:=hW103.s0
 obtain ⟨x103,r103⟩:=i103
 dsimp only at hv103 hr103 hf103 hc103
 have ln103:x103.length=x102.length:=zeZ hv103
 replace hv103:x103.map Ch.v=(ofL (xs0.map Ac.v) (xs1.map Ac.v)).map CV.turn:=zgf hv103 hv102
 rw [S.turned v0 v1 k0 k1] at hv103
 refine J.aw zpP rfl rfl _ _ [] Y0 rfl (fun _ _=>Sub.nil _) (fun w hw=>Dc.Join w n ([]++ids []) _ _ _ _ x100 x103 (Nat.le_trans hn hw.size) (zaf (l1:=[]) Y194 hw Y0 rfl) ((hf100.keep (zaa (I:=[]) (B0:=[]) (l1:=[]) hVW103 hn Y189 hw Y4 (Sub.nil _) rfl)).cs) hr100.le (hc100.keep (zaa (I:=[]) (B0:=[]) (l1:=[]) hVW103 hn Y189 hw Y4 (Sub.nil _) rfl)) ((hf103.keep (zaa (I:=[]) (B0:=[]) (l1:=[]) hVW103 hn Y189 hw Y4 (Sub.nil _) rfl)).cs) hr103.le (hc103.keep (zaa (I:=[]) (B0:=[]) (l1:=[]) hVW103 hn Y189 hw Y4 (Sub.nil _) rfl)) Y5 Y5) fun i104 W104 hP104 hW104=>?_
 obtain ⟨hv104,hr104,hf104,hc104⟩:=hP104
 have kpW104:=(zaa (I:=[]) (B0:=[]) (l1:=[]) hVW103 hn Y189 hW104 Y4 (Sub.nil _) rfl)
 have d0:=d0.keep kpW104
 have d1:=d1.keep kpW104
 have d2:=d2.keep kpW104
 have ha47:=ha47.keep kpW104
 have hf47:=hf47.keep kpW104
 have ha49:=ha49.keep kpW104
 have hf49:=hf49.keep kpW104
 have hf50:=hf50.keep kpW104
 have hc50:=hc50.keep kpW104
 have ha55:=ha55.keep kpW104
 have hf55:=hf55.keep kpW104
 have ha57:=ha57.keep kpW104
 have hf57:=hf57.keep kpW104
 have hf58:=hf58.keep kpW104
 have hc58:=hc58.keep kpW104
 have ha63:=ha63.keep kpW104
 have hf63:=hf63.keep kpW104
 have ha65:=ha65.keep kpW104
 have hf65:=hf65.keep kpW104
 have hf66:=hf66.keep kpW104
 have hc66:=hc66.keep kpW104
 have ha71:=ha71.keep kpW104
 have hf71:=hf71.keep kpW104
 have ha73:=ha73.keep kpW104
 have hf73:=hf73.keep kpW104
 have hf74:=hf74.keep kpW104
 have hc74:=hc74.keep kpW104
 have ha99:=ha99.keep kpW104
 have hf99:=hf99.keep kpW104
 have hf100:=hf100.keep kpW104
 have hc100:=hc100.keep kpW104
 have ha102:=ha102.keep kpW104
 have hf102:=hf102.keep kpW104
 have hf103:=hf103.keep kpW104
 have hc103:=hc103.keep kpW104
 have hVW104:=hW104.s0
 obtain ⟨x104,r104⟩:=i104
 dsimp only at hv104 hr104 hf104 hc104
 have e104:joinZ (x100.map Ch.v) (x103.map Ch.v)=((ofL (xs2.map Ac.v) (xs0.map Ac.v)),0):=by rw [hv100,hv103];exact S.join v2 v1 v0 k2 k1 k0
 rw [e104] at hv104
 have ln104:x104.length≤30000000:=by rw [zfK hv104];exact Nat.le_trans (zeV E2.sz3 E0.sz3) Y23
 refine J.as 104 (.tuple #[r104.val x104.length,.int .i64 0]) rfl (by rw [e104]) ?_
 replace hv104:x104.map Ch.v=(ofL (xs2.map Ac.v) (xs0.map Ac.v)):=hv104
 refine zz 10 ?_
 refine J.aw zkk rfl rfl _ _ [] Y0 rfl (fun _ _=>Sub.nil _) (fun w hw=>Df.lendTurns w n ([]++ids []) _ _ x66 (Nat.le_trans hn hw.size) (zaf (l1:=[]) Y194 hw Y0 rfl) ((hf66.keep (zaa (I:=[]) (B0:=[]) (l1:=[]) hVW104 hn Y189 hw Y4 (Sub.nil _) rfl)).cs) (hc66.keep (zaa (I:=[]) (B0:=[]) (l1:=[]) hVW104 hn Y189 hw Y4 (Sub.nil _) rfl)) (zci (K:=262144) (by rw [hv66];exact (zdf _ _ E0.code E2.code)) Y23) Y5) fun i108 W108 hP108 hW108=>?_
 obtain ⟨hv108,ha108,hf108,hp108⟩:=hP108
 have kpW108:=(zaa (I:=[]) (B0:=[]) (l1:=[]) hVW104 hn Y189 hW108 Y4 (Sub.nil _) rfl)
 have d0:=d0.keep kpW108
 have d1:=d1.keep kpW108
 have d2:=d2.keep kpW108
 have ha47:=ha47.keep kpW108
 have hf47:=hf47.keep kpW108
 have ha49:=ha49.keep kpW108
 have hf49:=hf49.keep kpW108
 have hf50:=hf50.keep kpW108
 have hc50:=hc50.keep kpW108
 have ha55:=ha55.keep kpW108
 have hf55:=hf55.keep kpW108
 have ha57:=ha57.keep kpW108
 have hf57:=hf57.keep kpW108
 have hf58:=hf58.keep kpW108
 have hc58:=hc58.keep kpW108
 have ha63:=ha63.keep kpW108
 have hf63:=hf63.keep kpW108
 have ha65:=ha65.keep kpW108
 have hf65:=hf65.keep kpW108
 have hf66:=hf66.keep kpW108
 have hc66:=hc66.keep kpW108
 have ha71:=ha71.keep kpW108
 have hf71:=hf71.keep kpW108
 have ha73:=ha73.keep kpW108
 have hf73:=hf73.keep kpW108
 have hf74:=hf74.keep kpW108
 have hc74:=hc74.keep kpW108
 have ha99:=ha99.keep kpW108
 have hf99:=hf99.keep kpW108
 have hf100:=hf100.keep kpW108
 have hc100:=hc100.keep kpW108
 have ha102:=ha102.keep kpW108
 have hf102:=hf102.keep kpW108
 have hf103:=hf103.keep kpW108
 have hc103:=hc103.keep kpW108
 have hf104:=hf104.keep kpW108
 have hc104:=hc104.keep kpW108
 have hVW108:=hW108.s0
 obtain ⟨x108,r108⟩:=i108
 dsimp only at hv108 ha108 hf108 hp108
 have ln108:x108.length=x66.length:=by have q:=congrArg List.length hv108;simpa using q
 rw [hv66] at hv108
 refine J.aw zob rfl rfl _ _ [] Y0 rfl (fun _ _=>Sub.nil _) (fun w hw=>Db.Turn w n ([]++ids []) _ _ x108 (Nat.le_trans hn hw.size) (zaf (l1:=[]) Y194 hw Y0 rfl) ((lentRow (hf108.keep (zaa (I:=[]) (B0:=[]) (l1:=[]) hVW108 hn Y189 hw Y4 (Sub.nil _) rfl))).cs) ((ha108.keep (zaa (I:=[]) (B0:=[]) (l1:=[]) hVW108 hn Y189 hw Y4 (Sub.nil _) rfl)).ok) Y5) fun i109 W109 hP109 hW109=>?_
 obtain ⟨hv109,hr109,hf109,hc109⟩:=hP109
 have kpW109:=(zaa (I:=[]) (B0:=[]) (l1:=[]) hVW108 hn Y189 hW109 Y4 (Sub.nil _) rfl)
 have d0:=d0.keep kpW109
 have d1:=d1.keep kpW109
 have d2:=d2.keep kpW109
 have ha47:=ha47.keep kpW109
 have hf47:=hf47.keep kpW109
 have ha49:=ha49.keep kpW109
 have hf49:=hf49.keep kpW109
 have hf50:=hf50.keep kpW109
 have hc50:=hc50.keep kpW109
 have ha55:=ha55.keep kpW109
 have hf55:=hf55.keep kpW109
 have ha57:=ha57.keep kpW109
 have hf57:=hf57.keep kpW109
 have hf58:=hf58.keep kpW109
 have hc58:=hc58.keep kpW109
 have ha63:=ha63.keep kpW109
 have hf63:=hf63.keep kpW109
 have ha65:=ha65.keep kpW109
 have hf65:=hf65.keep kpW109
 have hf66:=hf66.keep kpW109
 have hc66:=hc66.keep kpW109
 have ha71:=ha71.keep kpW109
 have hf71:=hf71.keep kpW109
 have ha73:=ha73.keep kpW109
 have hf73:=hf73.keep kpW109
 have hf74:=hf74.keep kpW109
 have hc74:=hc74.keep kpW109
 have ha99:=ha99.keep kpW109
 have hf99:=hf99.keep kpW109
 have hf100:=hf100.keep kpW109
 have hc100:=hc100.keep kpW109
 have ha102:=ha102.keep kpW109
 have hf102:=hf102.keep kpW109
 have hf103:=hf103.keep kpW109
 have hc103:=hc103.keep kpW109
 have hf104:=hf104.keep kpW109
 have hc104:=hc104.keep kpW109
 have ha108:=ha108.keep kpW109
 have hf108:=hf108.keep kpW109
 have hVW109:=hW109.s0
 obtain ⟨x109,r109⟩:=i109
 dsimp only at hv109 hr109 hf109 hc109
 have ln109:x109.length=x108.length:=zeZ hv109
 replace hv109:x109.map Ch.v=(ofL (xs0.map Ac.v) (xs2.map Ac.v)).map CV.turn:=zgf hv109 hv108
 rw [S.turned v0 v2 k0 k2] at hv109
 refine zz 6 ?_
 refine J.aw zkk rfl rfl _ _ [] Y0 rfl (fun _ _=>Sub.nil _) (fun w hw=>Df.lendTurns w n ([]++ids []) _ _ x50 (Nat.le_trans hn hw.size) (zaf (l1:=[]) Y194 hw Y0 rfl) ((hf50.keep (zaa (I:=[]) (B0:=[]) (l1:=[]) hVW109 hn Y189 hw Y4 (Sub.nil _) rfl)).cs) (hc50.keep (zaa (I:=[]) (B0:=[]) (l1:=[]) hVW109 hn Y189 hw Y4 (Sub.nil _) rfl)) (zci (K:=262144) Y159 Y23) Y5) fun i112 W112 hP112 hW112=>?_
 obtain ⟨hv112,ha112,hf112,hp112⟩:=hP112
 have kpW112:=(zaa (I:=[]) (B0:=[]) (l1:=[]) hVW109 hn Y189 hW112 Y4 (Sub.nil _) rfl)
 have d0:=d0.keep kpW112
 have d1:=d1.keep kpW112
 have d2:=d2.keep kpW112
 have ha47:=ha47.keep kpW112
 have hf47:=hf47.keep kpW112
 have ha49:=ha49.keep kpW112
 have hf49:=hf49.keep kpW112
 have hf50:=hf50.keep kpW112
 have hc50:=hc50.keep kpW112
 have ha55:=ha55.keep kpW112
 have hf55:=hf55.keep kpW112
 have ha57:=ha57.keep kpW112
 have hf57:=hf57.keep kpW112
 have hf58:=hf58.keep kpW112
 have hc58:=hc58.keep kpW112
 have ha63:=ha63.keep kpW112
 have hf63:=hf63.keep kpW112
 have ha65:=ha65.keep kpW112
 have hf65:=hf65.keep kpW112
 have hf66:=hf66.keep kpW112
 have hc66:=hc66.keep kpW112
 have ha71:=ha71.keep kpW112
 have hf71:=hf71.keep kpW112
 have ha73:=ha73.keep kpW112
 have hf73:=hf73.keep kpW112
 have hf74:=hf74.keep kpW112
 have hc74:=hc74.keep kpW112
 have ha99:=ha99.keep kpW112
 have hf99:=hf99.keep kpW112
 have hf100:=hf100.keep kpW112
 have hc100:=hc100.keep kpW112
 have ha102:=ha102.keep kpW112
 have hf102:=hf102.keep kpW112
 have hf103:=hf103.keep kpW112
 have hc103:=hc103.keep kpW112
 have hf104:=hf104.keep kpW112
 have hc104:=hc104.keep kpW112
 have ha108:=ha108.keep kpW112
 have hf108:=hf108.keep kpW112
 have hf109:=hf109.keep kpW112
 have hc109:=hc109.keep kpW112
 have hVW112:=hW112.s0
 obtain ⟨x112,r112⟩:=i112
 dsimp only at hv112 ha112 hf112 hp112
 have ln112:x112.length=x50.length:=by have q:=congrArg List.length hv112;simpa using q
 rw [hv50] at hv112
 refine zz 1 ?_
 refine J.aw zkk rfl rfl _ _ [] Y0 rfl (fun _ _=>Sub.nil _) (fun w hw=>Df.lendTurns w n ([]++ids []) _ _ x50 (Nat.le_trans hn hw.size) (zaf (l1:=[]) Y194 hw Y0 rfl) ((hf50.keep (zaa (I:=[]) (B0:=[]) (l1:=[]) hVW112 hn Y189 hw Y4 (Sub.nil _) rfl)).cs) (hc50.keep (zaa (I:=[]) (B0:=[]) (l1:=[]) hVW112 hn Y189 hw Y4 (Sub.nil _) rfl)) (zci (K:=262144) Y159 Y23) Y5) fun i114 W114 hP114 hW114=>?_
 obtain ⟨hv114,ha114,hf114,hp114⟩:=hP114
 have kpW114:=(zaa (I:=[]) (B0:=[]) (l1:=[]) hVW112 hn Y189 hW114 Y4 (Sub.nil _) rfl)
 have d0:=d0.keep kpW114
 have d1:=d1.keep kpW114
 have d2:=d2.keep kpW114
 have ha47:=ha47.keep kpW114
 have hf47:=hf47.keep kpW114
 have ha49:=ha49.keep kpW114
 have hf49:=hf49.keep kpW114
 have hf50:=hf50.keep kpW114
 have hc50:=hc50.keep kpW114
 have ha55:=ha55.keep kpW114
 have hf55:=hf55.keep kpW114
 have ha57:=ha57.keep kpW114
 have hf57:=hf57.keep kpW114
 have hf58:=hf58.keep kpW114
 have hc58:=hc58.keep kpW114
 have ha63:=ha63.keep kpW114
 have hf63:=hf63.keep kpW114
 have ha65:=ha65.keep kpW114
 have hf65:=hf65.keep kpW114
 have hf66:=hf66.keep kpW114
 have hc66:=hc66.keep kpW114
 have ha71:=ha71.keep kpW114
 have hf71:=hf71.keep kpW114
 have ha73:=ha73.keep kpW114
 have hf73:=hf73.keep kpW114
 have hf74:=hf74.keep kpW114
 have hc74:=hc74.keep kpW114
 have ha99:=ha99.keep kpW114
 have hf99:=hf99.keep kpW114
 have hf100:=hf100.keep kpW114
 have hc100:=hc100.keep kpW114
 have ha102:=ha102.keep kpW114
 have hf102:=hf102.keep kpW114
 have hf103:=hf103.keep kpW114
 have hc103:=hc103.keep kpW114
 have hf104:=hf104.keep kpW114
 have hc104:=hc104.keep kpW114
 have ha108:=ha108.keep kpW114
 have hf108:=hf108.keep kpW114
 have hf109:=hf109.keep kpW114
 have hc109:=hc109.keep kpW114
 have ha112:=ha112.keep kpW114
 have hf112:=hf112.keep kpW114
 have hVW114:=hW114.s0
 obtain ⟨x114,r114⟩:=i114
 dsimp only at hv114 ha114 hf114 hp114
 have ln114:x114.length=x50.length:=by have q:=congrArg List.length hv114;simpa using q
 rw [hv50] at hv114
 refine J.aw zob rfl rfl _ _ [] Y0 rfl (fun _ _=>Sub.nil _) (fun w hw=>Db.Turn w n ([]++ids []) _ _ x114 (Nat.le_trans hn hw.size) (zaf (l1:=[]) Y194 hw Y0 rfl) ((lentRow (hf114.keep (zaa (I:=[]) (B0:=[]) (l1:=[]) hVW114 hn Y189 hw Y4 (Sub.nil _) rfl))).cs) ((ha114.keep (zaa (I:=[]) (B0:=[]) (l1:=[]) hVW114 hn Y189 hw Y4 (Sub.nil _) rfl)).ok) Y5) fun i115 W115 hP115 hW115=>?_
 obtain ⟨hv115,hr115,hf115,hc115⟩:=hP115
 have kpW115:=(zaa (I:=[]) (B0:=[]) (l1:=[]) hVW114 hn Y189 hW115 Y4 (Sub.nil _) rfl)
 have d0:=d0.keep kpW115
 have d1:=d1.keep kpW115
 have d2:=d2.keep kpW115
 have ha47:=ha47.keep kpW115
 have hf47:=hf47.keep kpW115
 have ha49:=ha49.keep kpW115
 have hf49:=hf49.keep kpW115
 have hf50:=hf50.keep kpW115
 have hc50:=hc50.keep kpW115
 have ha55:=ha55.keep kpW115
 have hf55:=hf55.keep kpW115
 have ha57:=ha57.keep kpW115
 have hf57:=hf57.keep kpW115
 have hf58:=hf58.keep kpW115
 have hc58:=hc58.keep kpW115
 have ha63:=ha63.keep kpW115
 have hf63:=hf63.keep kpW115
 have ha65:=ha65.keep kpW115
 have hf65:=hf65.keep kpW115
 have hf66:=hf66.keep kpW115
 have hc66:=hc66.keep kpW115
 have ha71:=ha71.keep kpW115
 have hf71:=hf71.keep kpW115
 have ha73:=ha73.keep kpW115
 have hf73:=hf73.keep kpW115
 have hf74:=hf74.keep kpW115
 have hc74:=hc74.keep kpW115
 have ha99:=ha99.keep kpW115
 have hf99:=hf99.keep kpW115
 have hf100:=hf100.keep kpW115
 have hc100:=hc100.keep kpW115
 have ha102:=ha102.keep kpW115
 have hf102:=hf102.keep kpW115
 have hf103:=hf103.keep kpW115
 have hc103:=hc103.keep kpW115
 have hf104:=hf104.keep kpW115
 have hc104:=hc104.keep kpW115
 have ha108:=ha108.keep kpW115
 have hf108:=hf108.keep kpW115
 have hf109:=hf109.keep kpW115
 have hc109:=hc109.keep kpW115
 have ha112:=ha112.keep kpW115
 have hf112:=hf112.keep kpW115
 have ha114:=ha114.keep kpW115
 have hf114:=hf114.keep kpW115
 have hVW115:=hW115.s0
 obtain ⟨x115,r115⟩:=i115
 dsimp only at hv115 hr115 hf115 hc115
 have ln115:x115.length=x114.length:=zeZ hv115
 replace hv115:x115.map Ch.v=(ofL (xs0.map Ac.v) (xs1.map Ac.v)).map CV.turn:=zgf hv115 hv114
 refine J.aw zpP rfl rfl _ _ [] Y0 rfl (fun _ _=>Sub.nil _) (fun w hw=>Dc.Join w n ([]++ids []) _ _ _ _ x112 x115 (Nat.le_trans hn hw.size) (zaf (l1:=[]) Y194 hw Y0 rfl) ((lentRow (hf112.keep (zaa (I:=[]) (B0:=[]) (l1:=[]) hVW115 hn Y189 hw Y4 (Sub.nil _) rfl))).cs) (Nat.le_of_succ_le hp112) ((ha112.keep (zaa (I:=[]) (B0:=[]) (l1:=[]) hVW115 hn Y189 hw Y4 (Sub.nil _) rfl)).ok) ((hf115.keep (zaa (I:=[]) (B0:=[]) (l1:=[]) hVW115 hn Y189 hw Y4 (Sub.nil _) rfl)).cs) hr115.le (hc115.keep (zaa (I:=[]) (B0:=[]) (l1:=[]) hVW115 hn Y189 hw Y4 (Sub.nil _) rfl)) Y5 Y5) fun i116 W116 hP116 hW116=>?_
 obtain ⟨hv116,hr116,hf116,hc116⟩:=hP116
 have kpW116:=(zaa (I:=[]) (B0:=[]) (l1:=[]) hVW115 hn Y189 hW116 Y4 (Sub.nil _) rfl)
 have d0:=d0.keep kpW116
 have d1:=d1.keep kpW116
 have d2:=d2.keep kpW116
 have ha47:=ha47.keep kpW116
 have hf47:=hf47.keep kpW116
 have ha49:=ha49.keep kpW116
 have hf49:=hf49.keep kpW116
 have hf50:=hf50.keep kpW116
 have hc50:=hc50.keep kpW116
 have ha55:=ha55.keep kpW116
 have hf55:=hf55.keep kpW116
 have ha57:=ha57.keep kpW116
 have hf57:=hf57.keep kpW116
 have hf58:=hf58.keep kpW116
 have hc58:=hc58.keep kpW116
 have ha63:=ha63.keep kpW116
 have hf63:=hf63.keep kpW116
 have ha65:=ha65.keep kpW116
 have hf65:=hf65.keep kpW116
 have hf66:=hf66.keep kpW116
 have hc66:=hc66.keep kpW116
 have ha71:=ha71.keep kpW116
 have hf71:=hf71.keep kpW116
 have ha73:=ha73.keep kpW116
 have hf73:=hf73.keep kpW116
 have hf74:=hf74.keep kpW116
 have hc74:=hc74.keep kpW116
 have ha99:=ha99.keep kpW116
 have hf99:=hf99.keep kpW116
 have hf100:=hf100.keep kpW116
 have hc100:=hc100.keep kpW116
 have ha102:=ha102.keep kpW116
 have hf102:=hf102.keep kpW116
 have hf103:=hf103.keep kpW116
 have hc103:=hc103.keep kpW116
 have hf104:=hf104.keep kpW116
 have hc104:=hc104.keep kpW116
 have ha108:=ha108.keep kpW116
 have hf108:=hf108.keep kpW116
 have hf109:=hf109.keep kpW116
 have hc109:=hc109.keep kpW116
 have ha112:=ha112.keep kpW116
 have hf112:=hf112.keep kpW116
 have ha114:=ha114.keep kpW116
 have hf114:=hf114.keep kpW116
 have hf115:=hf115.keep kpW116
 have hc115:=hc115.keep kpW116
 have hVW116:=hW116.s0
 obtain ⟨x116,r116⟩:=i116
 dsimp only at hv116 hr116 hf116 hc116
 have e116:joinZ (x112.map Ch.v) (x115.map Ch.v)=([],0):=by rw [hv112,hv115];exact S.join_back v0 v1 k0 k1
 rw [e116] at hv116
 have ln116:x116.length≤30000000:=by rw [zfK hv116];decide
 refine J.as 116 (.tuple #[r116.val x116.length,.int .i64 0]) rfl (by rw [e116]) ?_
 replace hv116:x116.map Ch.v=[]:=hv116
 refine zz 10 ?_
 refine J.aT rfl rfl rfl (decide_eq_true Y13) <| zz 4 ?_
 refine J.aj Y8k zsH rfl rfl (fun w hw=>Df.same w n _ _ _ _ _ x104 x109 ((hf104.keep (zaa (I:=[]) (B0:=[]) (l1:=[]) hVW116 hn Y189 hw Y4 (Sub.nil _) rfl)).cs) (hc104.keep (zaa (I:=[]) (B0:=[]) (l1:=[]) hVW116 hn Y189 hw Y4 (Sub.nil _) rfl)) ((hf109.keep (zaa (I:=[]) (B0:=[]) (l1:=[]) hVW116 hn Y189 hw Y4 (Sub.nil _) rfl)).cs) (hc109.keep (zaa (I:=[]) (B0:=[]) (l1:=[]) hVW116 hn Y189 hw Y4 (Sub.nil _) rfl)) Y5 Y5) ?_
 refine J.as 124 (.bool true) rfl (by rw [decide_eq_true (hv104.trans hv109.symm)]) <| zz 3 ?_
 refine J.aF rfl rfl <| J.aT rfl rfl rfl (decide_eq_true Y13) <| zz 4 ?_
 refine J.al underlying25 rfl rfl <| J.aF rfl rfl <| J.aT rfl rfl rfl (decide_eq_true (by rw [znz hv116];rfl)) <| zz 5 ?_
 exact X.aa rfl (RV.tmp rfl) (fun w' hw'=>⟨rfl,hw'.s0⟩)
end Go.Proofs.YtlllcafedekojaaGreatDoor.Ld
namespace Go.Fw
open Go
structure OpV where
  code:Int
  name:List Nat
  imm:Int
  inn:Int
  out:Int
  gas:Int
  ends:Bool
def OpV.cells (o:OpV):List Value:=[.int .i64 o.code,.string (bstr o.name),.int .i64 o.imm,.int .i64 o.inn,.int .i64 o.out,.int .i64 o.gas,.bool o.ends]
theorem OpV.cells_one (o:OpV):∀ u∈o.cells,u.oneCell'=true:=by
  intro u hu
  simp only [OpV.cells,List.mem_cons,List.not_mem_nil,or_false] at hu
  rcases hu with rfl | rfl | rfl | rfl | rfl | rfl | rfl<;>rfl
def OpV.zero:OpV:=⟨0,[],0,0,0,0,false⟩
def plainV (code:Int) (name:List Nat) (i o g:Int):OpV:=⟨code,name,0,i,o,g,false⟩
def digB:List Nat:=[48,49,50,51,52,53,54,55,56,57,97,98,99,100,101,102,103,104,105,106,107,108,109,110,111,112,113,114,115,116,117,118,119,120,121,122]
def smB:List Nat:=[48,48,48,49,48,50,48,51,48,52,48,53,48,54,48,55,48,56,48,57,49,48,49,49,49,50,49,51,49,52,49,53,49,54,49,55,49,56,49,57,50,48,50,49,50,50,50,51,50,52,50,53,50,54,50,55,50,56,50,57,51,48,51,49,51,50,51,51,51,52,51,53,51,54,51,55,51,56,51,57,52,48,52,49,52,50,52,51,52,52,52,53,52,54,52,55,52,56,52,57,53,48,53,49,53,50,53,51,53,52,53,53,53,54,53,55,53,56,53,57,54,48,54,49,54,50,54,51,54,52,54,53,54,54,54,55,54,56,54,57,55,48,55,49,55,50,55,51,55,52,55,53,55,54,55,55,55,56,55,57,56,48,56,49,56,50,56,51,56,52,56,53,56,54,56,55,56,56,56,57,57,48,57,49,57,50,57,51,57,52,57,53,57,54,57,55,57,56,57,57]
theorem zlH (s:List Nat) (lo hi:Nat):(bstr s).extract lo hi=bstr ((s.take hi).drop lo):=by
  apply ByteArray.ext
  rw [ByteArray.data_extract]
  show ((s.map UInt8.ofNat).toArray).extract lo hi=(((s.take hi).drop lo).map UInt8.ofNat).toArray
  rw [List.extract_toArray,List.map_drop,List.map_take,List.extract_eq_drop_take']
def smallV (n:Int):List Nat:=if n < 10 then (digB.take (n+1).toNat).drop n.toNat else (smB.take (n*2+2).toNat).drop (n*2).toNat
def sumsV (c:Int):OpV:=if c=0 then ⟨0,[83,84,79,80],0,0,0,0,true⟩ else if c=1 then plainV c [65,68,68] 2 1 3 else if c=3 then plainV c [83,85,66] 2 1 3 else if c=2 then plainV c [77,85,76] 2 1 5 else if c=4 then plainV c [68,73,86] 2 1 5 else if c=5 then plainV c [83,68,73,86] 2 1 5 else if c=6 then plainV c [77,79,68] 2 1 5 else if c=7 then plainV c [83,77,79,68] 2 1 5 else if c=8 then plainV c [65,68,68,77,79,68] 3 1 8 else if c=9 then plainV c [77,85,76,77,79,68] 3 1 8 else if c=10 then plainV c [69,88,80] 2 1 10 else if c=11 then plainV c [83,73,71,78,69,88,84,69,78,68] 2 1 5 else .zero
def ofBlockV (c:Int):OpV:=if c=65 then plainV c [67,79,73,78,66,65,83,69] 0 1 2 else if c=66 then plainV c [84,73,77,69,83,84,65,77,80] 0 1 2 else if c=67 then plainV c [78,85,77,66,69,82] 0 1 2 else if c=68 then plainV c [80,82,69,86,82,65,78,68,65,79] 0 1 2 else if c=69 then plainV c [71,65,83,76,73,77,73,84] 0 1 2 else if c=70 then plainV c [67,72,65,73,78,73,68] 0 1 2 else if c=72 then plainV c [66,65,83,69,70,69,69] 0 1 2 else if c=74 then plainV c [66,76,79,66,66,65,83,69,70,69,69] 0 1 2 else .zero
def askedV (c:Int):OpV:=if c=48 then plainV c [65,68,68,82,69,83,83] 0 1 2 else if c=49 then plainV c [66,65,76,65,78,67,69] 1 1 100 else if c=50 then plainV c [79,82,73,71,73,78] 0 1 2 else if c=51 then plainV c [67,65,76,76,69,82] 0 1 2 else if c=52 then plainV c [67,65,76,76,86,65,76,85,69] 0 1 2 else if c=53 then plainV c [67,65,76,76,68,65,84,65,76,79,65,68] 1 1 3 else if c=54 then plainV c [67,65,76,76,68,65,84,65,83,73,90,69] 0 1 2 else if c=55 then plainV c [67,65,76,76,68,65,84,65,67,79,80,89] 3 0 3 else if c=58 then plainV c [71,65,83,80,82,73,67,69] 0 1 2 else if c=61 then plainV c [82,69,84,85,82,78,68,65,84,65,83,73,90,69] 0 1 2 else if c=62 then plainV c [82,69,84,85,82,78,68,65,84,65,67,79,80,89] 3 0 3 else if c=64 then plainV c [66,76,79,67,75,72,65,83,72] 1 1 20 else if c=73 then plainV c [66,76,79,66,72,65,83,72] 1 1 3 else if c=71 then plainV c [83,69,76,70,66,65,76,65,78,67,69] 0 1 5 else ofBlockV c
def heldV (c:Int):OpV:=if c=80 then plainV c [80,79,80] 1 0 2 else if c=81 then plainV c [77,76,79,65,68] 1 1 3 else if c=82 then plainV c [77,83,84,79,82,69] 2 0 3 else if c=83 then plainV c [77,83,84,79,82,69,56] 2 0 3 else if c=84 then plainV c [83,76,79,65,68] 1 1 100 else if c=85 then plainV c [83,83,84,79,82,69] 2 0 100 else if c=89 then plainV c [77,83,73,90,69] 0 1 2 else if c=91 then plainV c [78,79,80] 0 0 1 else if c=92 then plainV c [84,76,79,65,68] 1 1 100 else if c=93 then plainV c [84,83,84,79,82,69] 2 0 100 else if c=94 then plainV c [77,67,79,80,89] 3 0 3 else if c=95 then plainV c [80,85,83,72,48] 0 1 2 else .zero
def outwardV (c:Int):OpV:=if c=236 then ⟨c,[69,79,70,67,82,69,65,84,69],1,4,1,32000,false⟩ else if c=238 then ⟨c,[82,69,84,85,82,78,67,79,68,69],1,2,0,0,true⟩ else if c=243 then ⟨c,[82,69,84,85,82,78],0,2,0,0,true⟩ else if c=247 then plainV c [82,69,84,85,82,78,68,65,84,65,76,79,65,68] 1 1 3 else if c=248 then plainV c [69,88,84,67,65,76,76] 4 1 100 else if c=249 then plainV c [69,88,84,68,69,76,69,71,65,84,69,67,65,76,76] 3 1 100 else if c=251 then plainV c [69,88,84,83,84,65,84,73,67,67,65,76,76] 3 1 100 else if c=253 then ⟨c,[82,69,86,69,82,84],0,2,0,0,true⟩ else if c=254 then ⟨c,[73,78,86,65,76,73,68],0,0,0,0,true⟩ else .zero
def turnedV (c:Int):OpV:=if c=208 then plainV c [68,65,84,65,76,79,65,68] 1 1 4 else if c=209 then ⟨c,[68,65,84,65,76,79,65,68,78],2,0,1,3,false⟩ else if c=210 then plainV c [68,65,84,65,83,73,90,69] 0 1 2 else if c=211 then plainV c [68,65,84,65,67,79,80,89] 3 0 3 else if c=224 then ⟨c,[82,74,85,77,80],2,0,0,2,true⟩ else if c=225 then ⟨c,[82,74,85,77,80,73],2,1,0,4,false⟩ else if c=226 then ⟨c,[82,74,85,77,80,86],(-1),1,0,4,false⟩ else if c=227 then ⟨c,[67,65,76,76,70],2,0,0,5,false⟩ else if c=228 then ⟨c,[82,69,84,70],0,0,0,3,true⟩ else if c=229 then ⟨c,[74,85,77,80,70],2,0,0,5,true⟩ else if c=230 then ⟨c,[68,85,80,78],1,1,2,3,false⟩ else if c=231 then ⟨c,[83,87,65,80,78],1,2,2,3,false⟩ else if c=232 then ⟨c,[69,88,67,72,65,78,71,69],1,3,3,3,false⟩ else outwardV c
def cmpNames:List (List Nat):=[[76,84],[71,84],[83,76,84],[83,71,84],[69,81],[73,83,90,69,82,79],[65,78,68],[79,82],[88,79,82],[78,79,84],[66,89,84,69],[83,72,76],[83,72,82],[83,65,82]]
def comparedV (c:Int):OpV:=if c=30 then plainV c [67,76,90] 1 1 5 else if c=32 then plainV c [75,69,67,67,65,75,50,53,54] 2 1 30 else if c > 29 then .zero else plainV c (cmpNames.getD (c - 16).toNat []) (if c=21∨c=25 then 1 else 2) 1 3
def findV (c:Int):OpV:=
  if 96≤c∧c≤127 then ⟨c,[80,85,83,72]++smallV (c - 96+1),c - 96+1,0,1,3,false⟩
  else if 128≤c∧c≤143 then plainV c ([68,85,80]++smallV (c - 128+1)) (c - 128+1) (c - 128+1+1) 3
  else if 144≤c∧c≤159 then plainV c ([83,87,65,80]++smallV (c - 144+1)) (c - 144+1+1) (c - 144+1+1) 3
  else if 160≤c∧c≤164 then plainV c ([76,79,71]++smallV (c - 160)) (c - 160+2) 0 (375*(c - 160+1))
  else if c < 16 then sumsV c else if c < 48 then comparedV c else if c < 80 then askedV c else if c < 208 then heldV c else turnedV c
def barsV (c kind:Int):Bool:=if kind=2 then decide (c=0∨c=243) else if kind=1 then decide (c=238) else true
theorem zma (n:Int):(smallV n).length≤200:=by
  unfold smallV
  split
  · rw [List.length_drop,List.length_take,show digB.length=36 from rfl];omega
  · rw [List.length_drop,List.length_take,show smB.length=200 from rfl];omega
theorem zeK (xs:List Nat) (n:Int) (h:xs.length≤100):xs.length+(smallV n).length≤9223372036854775807:=by
  have:=zma n;omega
theorem boolT {p:Prop} [Decidable p] (h:p):Value.bool true=.bool (decide p):=by rw [decide_eq_true h]
theorem boolF {p:Prop} [Decidable p] (h:¬ p):Value.bool false=.bool (decide p):=by rw [decide_eq_false h]
theorem boolD {p q:Prop} [Decidable p] [Decidable q] (h:p↔q):Value.bool (decide p)=.bool (decide q):=by
  by_cases hp:p
  · rw [decide_eq_true hp,decide_eq_true (h.1 hp)]
  · rw [decide_eq_false hp,decide_eq_false (fun z=>hp (h.2 z))]
theorem zjw:cmpNames.length=14:=rfl
theorem zko (k:Nat) (h:k < 14):(cmpNames.map fun n=>Value.string (bstr n))[k]?=some (.string (bstr (cmpNames.getD k []))):=by
  rw [List.getElem?_map,List.getD_eq_getElem?_getD,List.getElem?_eq_getElem (by rw [zjw];exact h)];rfl
section
variable {P:Program} {ops:Array Oper} {F:Act→World→Prop} {w0:World} {M:List Nat} {N:Nf} {L:List (Oper×K)} {σ:List (Nat×Value)} {l lS:List (Nat×Ent)} {k:K}
  {d:Option Tmp} {ty:TypeId} {p:String} {af:Array Edge} {x y:Operand}
theorem J.di {t t':TypeId} {xs:List Nat} (hx:ev σ x=some (.string (bstr xs))) (hy:ev σ y=some (.string (bstr []))) (hd:okd N d) (h:J P ops F w0 M N lS L (putd d (.bool (decide (xs≠[]))) σ) l):
    J P ops F w0 M N lS ((⟨d,.binOp .neq t x y t',ty,p,af,none⟩,k)::L) σ l:=
  J.aS hx hy hd (fun w=>by
    rw [eqGuard_at_string,decide_not]
    have e1:∀ zs,(bstr zs).toList=zs.map UInt8.ofNat:=fun zs=>by rw [ByteArray.toList_eq];simp [bstr]
    have:((bstr xs).toList == (bstr []).toList)=decide (xs=[]):=by
      rw [e1,e1];cases xs<;>simp
    rw [← this];rfl) h
end
end Go.Fw
set_option linter.unusedSimpArgs false
namespace Go.Fw
open Go
section
variable {P:Program} {w0 w w':World} {M M':List Nat} {l l1 l2 lr:List (Nat×Ent)} {N:Nf} {Q:Exit→Act→World→Prop} {σ:List (Nat×Value)} {ops:Array Oper} {F:Act→World→Prop} {L:List (Oper×K)} {lS:List (Nat×Ent)} {k:K}
  {d:Option Tmp} {ty t:TypeId} {p:String} {af:Array Edge} {x y:Operand} {v:Value}
def idsN:List (Nat×Ent)→List Nat
  | []=>[]
  | (_,e)::l=>match e.id with
    | some g=>g::idsN l
    | none=>idsN l
theorem zba:∀ {l:List (Nat×Ent)} {g:Nat},g∈idsN l↔some g∈ids l
  | [],g=>by simp [idsN,ids]
  | (j,e)::l,g=>by
    simp only [idsN,ids]
    cases he:e.id with
    | none=>simp [zba]
    | some g'=>simp [zba,eq_comm]
theorem WS.rebase (h:WS w0 M l w) (hk:keysB l=true) (hM:∀ g∈idsN l,g∈M'):WS w M' l w:=
  ⟨rfl,rfl,rfl,Nat.le_refl _,fun _ _ _=>rfl,h.live,h.apart,fun j e g he hg=>.inr (hM _ (zba.2 (hg ▸ (zfb hk he).2)))⟩
theorem Ent.At.putLoop {e:Ent} {b:Nat} {r r':Loop} (h:e.At w) (hL:w.heap[b]?=some (.loop r)):e.At (w.putObj b (.loop r')):=by
  cases hid:e.id with
  | none=>
    simp only [Ent.At,hid] at *
    refine ⟨h.1,?_⟩
    have h2:=h.2
    cases ht:e.t with
    | ty t=>trivial
    | mp g r=>
      simp only [ht] at h2
      obtain ⟨es,clk,h3,h4⟩:=h2
      exact ⟨es,clk,by rw [World.putObj_heap_other (by rintro rfl;rw [hL] at h3;cases h3)];exact h3,h4⟩
    | df g=>
      simp only [ht] at h2
      show (w.putObj b (.loop r')).heap[g]?=_
      rw [World.putObj_heap_other (by rintro rfl;rw [hL] at h2;cases h2)];exact h2
  | some g=>
    simp only [Ent.At,hid] at *
    obtain ⟨t,h1,h2⟩:=h
    exact ⟨t,h1,by rw [World.putObj_heap_other (by rintro rfl;rw [hL] at h2;cases h2)];exact h2⟩
theorem WS.putLoop (h:WS w0 M l w) {b:Nat} {r r':Loop} (hL:w.heap[b]?=some (.loop r)) (hb:w0.heap.size≤b):WS w0 M l (w.putObj b (.loop r')):=
  ⟨h.os,h.tape,h.output,by rw [World.putObj_size];exact h.size,fun i hi hM=>by rw [World.putObj_heap_other (by omega)];exact h.keep i hi hM,
    fun j e he=>(h.live j e he).putLoop hL,h.apart,h.own⟩
theorem WS.allocOdd (h:WS w0 M l w) (o:Obj):WS w0 M l (w.alloc o):=by
  refine ⟨h.os,h.tape,h.output,by have:=h.size;simp;omega,fun i hi hM=>?_,fun j e he=>?_,h.apart,h.own⟩
  · rw [zau,if_neg (by have:=h.size;omega)];exact h.keep i hi hM
  · refine (h.live j e he).same (fun g hg=>?_) (fun g o ho hm=>?_)
    · rw [zau,if_neg (by have:=(h.live j e he).lt hg;omega)]
    · rw [zau,if_neg (by have:=(Array.getElem?_eq_some_iff.1 hm).1;omega)]
theorem WS.addDf (h:WS w0 M l w) (j D:Nat) (hD:w.heap[D]?=some (.deferred (some []))):WS w0 M ((j,⟨none,.df D,[]⟩)::l) w:=by
  refine ⟨h.os,h.tape,h.output,h.size,h.keep,fun i e he=>?_,fun i i' e e' g he he' hne hg=>?_,fun i e g he hg=>?_⟩
  · rw [zae] at he
    split at he
    · cases he;exact ⟨rfl,hD⟩
    · exact h.live i e he
  · rw [zae] at he he'
    split at he
    · cases he;cases hg
    · split at he'
      · cases he';intro q;cases q
      · exact h.apart i i' e e' g he he' hne hg
  · rw [zae] at he
    split at he
    · cases he;cases hg
    · exact h.own i e g he hg
theorem WS.joinF (h:WS w0 M l w) (h2:WS w M' l2 w') (hM:∀ g∈M',∃ k e,lk l k=some e∧e.id=some g) (hs:Sub lr l) (hr:∀ k e g,lk lr k=some e→e.id=some g→g∉M'):WS w0 M (l2++lr) w':=by
  refine ⟨h2.os.trans h.os,h2.tape.trans h.tape,h2.output.trans h.output,Nat.le_trans h.size h2.size,fun i hi hiM=>?_,fun j e he=>?_,fun j j' e e' g he he' hne hg=>?_,fun j e g he hg=>?_⟩
  · rw [h2.keep i (Nat.lt_of_lt_of_le hi h.size) (fun hin=>by
      obtain ⟨k,e1,h1,hg1⟩:=hM i hin
      rcases h.own k e1 i h1 hg1 with h3 | h3
      · omega
      · exact hiM h3)]
    exact h.keep i hi hiM
  · rw [zax] at he
    cases hj:lk l2 j with
    | some e2=>rw [hj] at he;simp at he;subst he;exact h2.live j _ hj
    | none=>
      rw [hj] at he;simp at he
      have hl:=h.live j e (hs _ _ he)
      exact hl.same (fun g hg=>h2.keep g (hl.lt hg) (hr j e g he hg)) (fun g o ho hm=>h2.keep _ (Array.getElem?_eq_some_iff.1 hm).1 fun q=>by
        obtain ⟨k,e1,h1,hg1⟩:=hM _ q
        exact (h.live k e1 h1).ne_odd hg1 ho hm)
  · rw [zax] at he he'
    cases hj:lk l2 j with
    | some e2=>
      rw [hj] at he;simp at he;subst he
      cases hj':lk l2 j' with
      | some e3=>rw [hj'] at he';simp at he';subst he';exact h2.apart j j' _ _ g hj hj' hne hg
      | none=>
        rw [hj'] at he';simp at he'
        intro hg'
        rcases h2.own j _ g hj hg with h3 | h3
        · have:=(h.live j' e' (hs _ _ he')).lt hg';omega
        · exact hr j' e' g he' hg' h3
    | none=>
      rw [hj] at he;simp at he
      cases hj':lk l2 j' with
      | some e3=>
        rw [hj'] at he';simp at he';subst he'
        intro hg'
        rcases h2.own j' _ g hj' hg' with h3 | h3
        · have:=(h.live j e (hs _ _ he)).lt hg;omega
        · exact hr j e g he hg h3
      | none=>rw [hj'] at he';simp at he';exact h.apart j j' e e' g (hs _ _ he) (hs _ _ he') hne hg
  · rw [zax] at he
    cases hj:lk l2 j with
    | some e2=>
      rw [hj] at he;simp at he;subst he
      rcases h2.own j _ g hj hg with h3 | h3
      · exact .inl (Nat.le_trans h.size h3)
      · obtain ⟨k,e1,h1,hg1⟩:=hM g h3
        exact h.own k e1 g h1 hg1
    | none=>rw [hj] at he;simp at he;exact h.own j e g (hs _ _ he) hg
theorem zco {n:Nat} {B B':List (Option Nat)} (h:∀ g,some g∉B→g < w.heap.size→(n≤g→∃ c t,w.heap[g]?=some (.cells c t (0,0)))→w'.heap[g]?=w.heap[g]?∧some g∉B'):Keep w n B w' B':=fun A cs hf i x hx=>by
  obtain ⟨ad,hA,hc,hB,hp⟩:=hf i x hx
  have hlt:=World.block_lt_of_cell? _ _ hc
  rw [Addr.add_block] at hlt
  obtain ⟨h1,h2⟩:=h ad.block hB hlt hp
  refine ⟨ad,hA,?_,h2,fun q=>by rw [h1];exact hp q⟩
  rw [← hc]
  exact World.cell?_of_block (by rw [Addr.add_block];exact h1)
theorem znL {n:Nat} {B:List (Option Nat)} (h:WS w [] [] w'):Keep w n B w' B:=zco fun g hB hg _=>⟨h.keep g hg (by simp),hB⟩
theorem T.aA {c rest:Code} (lb:Nat) (JI:Nat→Act→World→Prop) (hf:findLabel c lb=some rest) (first:T P w0 M N (Exit.jump lb (fun a w=>∃ n,JI n a w) Q) c σ l)
    (pass:∀ n a w,JI n a w→Pq N Q→rest.wpIn (WF N.ro) 0 P (Exit.jump lb (fun a w=>∃ m,m < n∧JI m a w) Q) a w):T P w0 M N Q (.scope c) σ l:=fun hq a w ha hw b k cs hro hb hr=>by
  have hg:gotoIn lb (.inScope c::k)=some (.code rest::.inScope c::k):=by simp [gotoIn,hf]
  have key:∀ n a w,JI n a w→∃ e a' w',Q e a' w'∧ArrivesIn (Machine.fenced P (WF N.ro)) P (lone (b.atR a (.code rest::.inScope c::k)) cs w) b k cs e a' w':=by
    intro n
    induction n using Nat.strongRecOn with
    | _ n ih=>
      intro a w hJ
      obtain ⟨e,a₁,w₁,hq,harr⟩:=pass n a w hJ hq b (.inScope c::k) cs hro hb hr
      cases e with
      | normal=>exact ⟨.normal,a₁,w₁,hq,StepsIn.trans harr (.one (fenced_calm hb hr rfl) zcX)⟩
      | exit id=>exact ⟨.exit id,a₁,w₁,hq,fun k' hk=>harr.1 k' (by simp [exitTo,hk]),fun hr' hk=>harr.2 hr' (by simp [exitTo,hk])⟩
      | goto l'=>
        obtain ⟨rfl,m,hlt,hJ'⟩:=hq
        obtain ⟨e₂,a₂,w₂,hq₂,harr₂⟩:=ih m hlt a₁ w₁ hJ'
        exact ⟨e₂,a₂,w₂,hq₂,.of_steps (harr.1 _ hg) harr₂⟩
      | ret=>exact ⟨_,a₁,w₁,hq,harr⟩
      | panic ch=>exact ⟨_,a₁,w₁,hq,harr⟩
      | outgrown=>exact ⟨_,a₁,w₁,hq,harr⟩
  have h0:∀ {a w},(lone (b.atR a (.code (.scope c)::k)) cs w).fenced P (WF N.ro):=fenced_calm hb hr rfl
  obtain ⟨e,a₁,w₁,hq,harr⟩:=first (fun ch a w h1 h2=>hq ch a w h1 h2) a w ha hw b (.inScope c::k) cs hro hb hr
  cases e with
  | normal=>exact ⟨.normal,a₁,w₁,hq,.head h0 zay (StepsIn.trans harr (.one (fenced_calm hb hr rfl) zcX))⟩
  | exit id=>exact ⟨.exit id,a₁,w₁,hq,fun k' hk=>.head h0 zay (harr.1 k' (by simp [exitTo,hk])),fun hr' hk=>let ⟨k₁,h1,h2⟩:=harr.2 hr' (by simp [exitTo,hk]);⟨k₁,h1,.head h0 zay h2⟩⟩
  | goto l'=>
    obtain ⟨rfl,n,hJ'⟩:=hq
    obtain ⟨e₂,a₂,w₂,hq₂,harr₂⟩:=key n a₁ w₁ hJ'
    exact ⟨e₂,a₂,w₂,hq₂,.of_steps (.head h0 zay (harr.1 _ hg)) harr₂⟩
  | ret=>exact ⟨_,a₁,w₁,hq,.of_steps (.one h0 zay) harr⟩
  | panic ch=>exact ⟨_,a₁,w₁,hq,.of_steps (.one h0 zay) harr⟩
  | outgrown=>exact ⟨_,a₁,w₁,hq,.of_steps (.one h0 zay) harr⟩
theorem T.ay {c1 rest:Code} (lb:Nat) (JI:Nat→Act→World→Prop) (hf:findLabel (.seq c1 (.seq (.label lb) rest)) lb=some (.seq .skip rest)) (hpn:∀ ch w,¬ N.pn ch w) (first:T P w0 M N (Exit.then (fun a w=>∃ n,JI n a w) (fun _ _ _=>False)) c1 σ l)
    (pass:∀ n a w,JI n a w→Pq N Q→rest.wpIn (WF N.ro) 0 P (Exit.jump lb (fun a w=>∃ m,m < n∧JI m a w) Q) a w):T P w0 M N Q (.scope (.seq c1 (.seq (.label lb) rest))) σ l:=
  T.aA lb JI hf (fun hq a w ha hw=>wpIn_seq (wpIn_mono (first (Pq.no hpn) a w ha hw) fun e a' w' q=>by
    cases e with
    | normal=>
      obtain ⟨n,hJ⟩:=q
      refine wpIn_seq (wpIn_label ?_)
      refine wpIn_mono (pass n a' w' hJ (Pq.no hpn)) fun e a2 w2 q2=>?_
      cases e with
      | goto l'=>obtain ⟨h1,m,_,h2⟩:=q2;exact ⟨h1,m,h2⟩
      | _=>exact q2
    | _=>exact q.elim)) (fun n a w hJ hq=>wpIn_seq (wpIn_skip (pass n a w hJ hq)))
theorem X.mk {e:Exit} (h:Pq N Q→∀ a w,Has N σ a→WS w0 M l w→Q e a w):X w0 M N Q e σ l:=h
theorem T.ap {c:Code} {a:Act} {w:World} (ha:Has N σ a) (hw:WS w0 M l w) (hq:Pq N Q) (h:T P w0 M N Q c σ l):c.wpIn (WF N.ro) 0 P Q a w:=h hq a w ha hw
theorem X.aD {lb:Nat} {JI:Act→World→Prop} (h:X w0 M N Q .ret σ l):X w0 M N (Exit.jump lb JI Q) .ret σ l:=h
theorem X.aG {lb:Nat} {JI:Act→World→Prop} (h:∀ a w,Has N σ a→WS w0 M l w→JI a w):X w0 M N (Exit.jump lb JI Q) (.goto lb) σ l:=fun _ a w ha hw=>⟨rfl,h a w ha hw⟩
theorem J.go {L2:List Oper} (ks:List K) (hn:L2.length=ks.length) (h:J P ops (NQ N Q) w0 M N [] (L2.zip ks) σ l) (hro:N.ro=none:=by rfl):J P ops (DQ P ops N Q L2) w0 M N lS [] σ l:=fun _ a ha w hw hq=>by
  have:=zct (ro:=N.ro) (Q:=Q) (D:=N.D) (fun a w h=>h hq) (fun ch a w' h1 h2=>hq ch a w' h1 h2) _ a l w (fun x hx ρ=>by rw [hro];rfl) ha.defers hw (Sub.nil _) (h (Sub.nil _) a ha)
  rwa [List.map_fst_zip (by omega)] at this
theorem J.cv {b j tg:Nat} {bb:Bool} {args:List Value} {xs:Array Operand} {tys:Array TypeId} {L2:List Oper} (ks:List K) (hn:L2.length=ks.length)
    (ht:(ops[j]?).bind (·.dst)=some tg) (hb:lk σ tg=some (.bool bb)) (hy:ev σ y=some (.func (.yield b) #[] #[])) (hx:evs σ xs.toList=some args) (hd:okd N d) {ι:Type} (Φ:ι→World→Prop) (vf:ι→Value)
    (spec:∀ V,WS w0 M l V→∃ fn tmps assign body,(Instr.yield b args.toArray).run P V=.ok (.round b fn tmps assign body) V∧RoundIn Fence.wide 0 P b fn tmps assign body V (fun e V'=>∃ i,e=.returned (vf i)∧Φ i V'))
    (hJ:∀ i V',Φ i V'→J P ops (NQ N Q) V' [] N [] (L2.zip ks) (putd d (vf i) σ) []) (hro:N.ro=none:=by rfl):
    J P ops (DQ P ops N Q (⟨d,.call ⟨.value y,xs,tys⟩,ty,p,af,some (j,bb)⟩::L2)) w0 M N lS [] σ l:=fun _ a ha w hw hq=>by
  simp only [wpListIn]
  rw [if_pos (by rw [ha.wanted rfl ht hb];simp)]
  obtain ⟨fn,tmps,assign,body,hyr,hR⟩:=spec w hw
  have hr:(execOp a.eval ⟨d,.call ⟨.value y,xs,tys⟩,ty,p,af,some (j,bb)⟩).run P w=.ok (.round b fn tmps assign body) w:=by
    have h1:xs.map a.eval=args.toArray:=by rw [← ha.evals hx,← Array.toList_map,Array.toArray_toList]
    simp [execOp,resolve,ha.eval hy,Deferred.ofValue,invoke,h1,hyr]
  refine ⟨fun _ _=>trivial,?_⟩
  show Oper.uponIn _ _ _ _ _ _ _ ((Oper.semAt N.ro a.eval _).run P w)
  rw [hro,Oper.semAt_none,hr]
  refine ⟨fun q=>by simp [WF] at q,(zkX hR).mono ?_⟩
  rintro e V' ⟨i,rfl,hΦ⟩
  have ha2:=ha.putd hd (vf i)
  have:=zct (ro:=N.ro) (Q:=Q) (D:=N.D) (fun a w h=>h hq) (fun ch a w' h1 h2=>hq ch a w' h1 h2) _ _ [] V' (fun x hx ρ=>by rw [hro];rfl) ha2.defers (WS.refl _ _) (Sub.nil _) (hJ i V' hΦ (Sub.nil _) _ ha2)
  rw [List.map_fst_zip (by omega),hro] at this
  exact this
end
end Go.Fw
set_option linter.unusedSimpArgs false
namespace Go.Fw
open Go
section
variable {P:Program} {w0 w w':World} {M M':List Nat} {l l1 l2 lr:List (Nat×Ent)} {N:Nf} {Q:Exit→Act→World→Prop} {σ:List (Nat×Value)} {ops:Array Oper} {F:Act→World→Prop} {L:List (Oper×K)} {lS:List (Nat×Ent)} {k:K}
  {d:Option Tmp} {ty t:TypeId} {p:String} {af:Array Edge} {x y:Operand} {v:Value}
def SeqSpec (P:Program) (gf:FuncId) (lb:List Value) (cnt:Nat) (item:Nat→List Value→World→List Nat→Prop) (H:World→Prop) (N0:Nat):Prop:=
  ∀ (b:Nat) (I:Nat→List Nat→World→Prop) (MB:List Nat) (w1:World),
    (∀ k MB V V',I k MB V→WS V [] [] V'→I k MB V')→
    (∀ k MB V,I k MB V→(∀ g∈MB,g < V.heap.size)∧N0≤V.heap.size∧H V)→
    (∀ k MB cs V,k < cnt→I k MB V→item k cs V MB→∃ fn tmps assign body,(Instr.yield b #[.agg cs.toArray]).run P V=.ok (.round b fn tmps assign body) V∧
      RoundIn Fence.wide 0 P b fn tmps assign body V (fun e V'=>e=.returned (.bool true)∧(∃ MB',I (k+1) MB' V')∧
        ∀ g,g < V.heap.size→g∉MB→(∃ c t,V.heap[g]?=some (.cells c t (0,0)))→V'.heap[g]?=V.heap[g]?))→
    I 0 MB w1→
    Calls P gf (.func (.yield b) #[] #[]::lb).toArray w1 (fun e W=>(∃ v,e=.returned v)∧∃ MB,I cnt MB W)
def RoundQ {ι:Type} (V:World) (M':List Nat) (φ:ι→List (Option Nat)→World→Prop) (lf:ι→List (Nat×Ent)) (B:List (Option Nat)):Exit→Act→World→Prop:=fun e _ w=>
  e=.normal∧∃ i,φ i (B++ids (lf i)) w∧WS V M' (lf i) w
theorem X.ar {ι:Type} {V:World} {φ:ι→List (Option Nat)→World→Prop} {lf:ι→List (Nat×Ent)} {B:List (Option Nat)} (i:ι) (hs:Sub (lf i) l) (hφ:∀ w,WS V M l w→φ i (B++ids (lf i)) w):X V M N (RoundQ V M φ lf B) .normal σ l:=
  fun _ a w ha hw=>⟨rfl,i,hφ w hw,hw.sub hs⟩
theorem zmS {k:Nat} {e:Ent} (h:lk l k=none):Sub ((k,e)::l) (l++[(k,e)]):=fun n u hn=>by
  rw [zax]
  rw [zae] at hn
  split at hn
  · rename_i hk;subst hk;cases hn;rw [h];simp [lk]
  · rw [hn];rfl
theorem zhL {e:Ent} {g b:Nat} {r:Loop} (h:e.At w) (hg:e.id=some g) (hb:w.heap[b]?=some (.loop r)):g≠b:=by
  rintro rfl
  exact h.ne_odd hg (o:=.loop r) rfl hb
theorem zij (h:WS w0 M l w) (hs:Sub l1 l) (hk:keysB l1=true) {g:Nat} (hg:g∈idsN l1):∃ j e,lk l1 j=some e∧e.id=some g∧e.At w:=by
  obtain ⟨j,e,h1,h2⟩:=zcQ hk (zba.1 hg)
  exact ⟨j,e,h1,h2,h.live j e (hs _ _ h1)⟩
theorem zlL:∀ {l:List (Nat×Ent)} {k:Nat},lk l k=none→(l.any fun p=>Nat.beq p.1 k)=false
  | [],k,_=>rfl
  | (j,u)::l,k,h=>by
    rw [zae] at h
    split at h
    · cases h
    · rename_i hjk
      rw [List.any_cons,zlL h,Bool.or_false]
      cases hq:Nat.beq j k with
      | true=>exact absurd (Nat.eq_of_beq_eq_true hq) hjk
      | false=>rfl
theorem zed {k:Nat} {e:Ent} (h1:Nat.blt k 1000000=true) (h2:lk l k=none) (h3:keysB l=true):keysB ((k,e)::l)=true:=by
  simp only [keysB,h1,h3,zlL h2];rfl
theorem zeJ:Sub l (l++lr):=fun n u hn=>by rw [zax,hn];rfl
theorem busyB {g:Nat} {B:List (Option Nat)}:∀ g0∈g::idsN l,some g0∈B++some g::ids l:=fun g0 hg=>by
  rcases List.mem_cons.1 hg with q | q
  · rw [q];exact List.mem_append_right _ List.mem_cons_self
  · exact List.mem_append_right _ (List.mem_cons_of_mem _ (zba.1 q))
theorem T.av {ι:Type} {gp:Operand} {assign body:Code} {gf:FuncId} {lb:List Value} {cnt:Nat} {item:Nat→List Value→World→List Nat→Prop} {H:World→Prop} (φ:Nat→ι→List (Option Nat)→World→Prop) (lf:ι→List (Nat×Ent)) (B:List (Option Nat)) (i0:ι) (p v:Nat) (tx:TypeId)
    (hp:Nat.blt p N.n=true) (hro:N.ro=none) (hg:ev σ gp=some (.func (.func gf) #[] lb.toArray)) (hfn:FnOk P gf) (hs:Sub (lf i0) l) (hk:∀ i,keysB (lf i)=true) (hD:∀ i,lk (lf i) 990000=none) (hv:∀ i,lk (lf i) v=none) (hvb:Nat.blt v 990000=true)
    (h0:∀ W,WS w0 M l W→φ 0 i0 (B++ids (lf i0)) W)
    (hφ:∀ k i Bz Bz' V V',(∀ n,n≤w0.heap.size→Keep V n Bz V' Bz')→φ k i Bz V→φ k i Bz' V')
    (hitem:∀ k cs V V' MB MB',(∀ X,Keep V 0 ((MB++X).map some) V' ((MB'++X).map some))→item k cs V MB→item k cs V' MB')
    (hH:∀ i V,WS w0 M (lf i) V→H V) (seq:SeqSpec P gf lb cnt item H w0.heap.size)
    (hA:∀ b V k i cs,item k cs V (idsN (lf i))→T P V (idsN (lf i)) ⟨N.n,[],some b,fun _ _=>False⟩ (Exit.then (At V (idsN (lf i)) ⟨N.n,[],some b,fun _ _=>False⟩ (fun g=>V.heap.size≤g) (fun g=>(v,.pointer (some ⟨g,0,none⟩))::(p,.agg cs.toArray)::σ) (fun g=>(v,⟨some g,tx,cs⟩)::lf i)) (fun _ _ _=>False)) assign ((p,.agg cs.toArray)::σ) (lf i))
    (hB:∀ b V k i cs g,w0.heap.size≤V.heap.size→k < cnt→φ k i (B++some g::ids (lf i)) V→item k cs V (g::idsN (lf i))→
      T P V (g::idsN (lf i)) ⟨N.n,[],some b,fun _ _=>False⟩ (RoundQ V (g::idsN (lf i)) (φ (k+1)) lf B) body ((v,.pointer (some ⟨g,0,none⟩))::(p,.agg cs.toArray)::σ) ((v,⟨some g,tx,cs⟩)::lf i))
    (hX:∀ D i W,w0.heap.size≤D→φ cnt i (B++ids ((990000,⟨none,.df D,[]⟩)::lf i)) W→WS w0 M ((990000,⟨none,.df D,[]⟩)::lf i) W→
      X w0 M ⟨N.n,⟨.collected D,#[]⟩::N.D,N.ro,fun _ _=>False⟩ Q .normal σ (((990000,⟨none,.df D,[]⟩)::lf i)++snapL W w0.heap.size (ids ((990000,⟨none,.df D,[]⟩)::lf i)))):
    T P w0 M N Q (.rangeFunc gp #[p] assign body) σ l:=fun hq a w ha hw=>by
  refine wpIn_rangeFunc ?_
  intro fn hfnF
  rw [show (WF N.ro).round=none from hro]
  obtain ⟨rec,hrec⟩:∃ rec:LoopState→Option Code→Loop,rec=fun st pe=>{ state:=st,pending:=pe,fn,tmps:=a.tmps,params:=#[p],assign,body,defers:=w.heap.size }:=⟨_,rfl⟩
  obtain ⟨W1,hW1⟩:∃ W1,(w.alloc (.deferred (some []))).alloc (.loop (rec .ready none))=W1:=⟨_,rfl⟩
  obtain ⟨D,hDd⟩:∃ D,D=w.heap.size:=⟨_,rfl⟩
  obtain ⟨b,hb⟩:∃ b,b=w.heap.size+1:=⟨_,rfl⟩
  have hL1:W1.heap[b]?=some (.loop (rec .ready none)):=by
    rw [← hW1,hb];have:=World.alloc_heap_new (w.alloc (.deferred (some []))) (.loop (rec .ready none));rwa [World.size_alloc] at this
  have hK1:W1.heap[D]?=some (.deferred (some [])):=by
    rw [← hW1,hDd];exact (RowKit.Below.heap_alloc _ _ _ (by simp)).trans (World.alloc_heap_new w _)
  have hWS1:WS w0 M l W1:=by rw [← hW1];exact (hw.allocOdd _).allocOdd _
  have hDb:w0.heap.size≤D:=by rw [hDd];exact hw.size
  have hbb:w0.heap.size≤b:=by rw [hb];have:=hw.size;omega
  have hWd:WS w0 M ((990000,⟨none,.df D,[]⟩)::lf i0) W1:=(hWS1.sub hs).addDf 990000 D hK1
  have hsub:∀ i,Sub (lf i) ((990000,⟨none,.df D,[]⟩)::lf i):=fun i=>(Sub.refl _).fresh (hD i)
  refine ⟨b,[{ target:=.collected D,args:=#[] }],W1,{ target:=.fn (.func gf) lb.toArray,args:=#[.func (.yield b) #[] #[]] },W1,gf,(.func (.yield b) #[] #[]::lb).toArray,W1,?_,?_,?_,?_,fun q=>by simp [WF] at q,?_⟩
  · rw [← hW1,hrec,hb,hDd];exact run_enterLoop_outer _ _ _ _ _
  · have:=ha.eval hg
    simp only [resolve,this]
    simp [go_sem]
  · intro f' _;trivial
  · simp [invoke,zaD hfn]
  · refine (zga (seq b (fun k MB V=>∃ i,φ k i (B++ids (lf i)) V∧WS w0 M ((990000,⟨none,.df D,[]⟩)::lf i) V∧V.heap[b]?=some (.loop (rec .ready none))∧MB=idsN (lf i)) (idsN (lf i0)) W1 ?_ ?_ ?_ ⟨i0,h0 W1 hWS1,hWd,hL1,rfl⟩)).mono ?_
    · rintro k MB V V' ⟨i,h1,h2,h3,rfl⟩ hVV
      exact ⟨i,hφ k i _ _ V V' (fun n _=>znL hVV) h1,h2.join0 hVV,(hVV.keep b (Array.getElem?_eq_some_iff.1 h3).1 (by simp)).trans h3,rfl⟩
    · rintro k MB V ⟨i,h1,h2,h3,rfl⟩
      refine ⟨fun g hg=>?_,h2.size,hH i V (h2.sub (hsub i))⟩
      obtain ⟨j,e,_,he,hat⟩:=zij h2 (hsub i) (hk i) hg
      exact hat.lt he
    · rintro k MB cs V hlt ⟨i,h1,h2,h3,rfl⟩ hit
      have hy:=run_yield (P:=P) (args:=#[.agg cs.toArray]) h3 (by simp [hrec])
      rw [hrec] at hy
      have h3r:=h3
      rw [hrec] at h3
      refine ⟨fn,_,assign,body,hy,roundIn_of_wpIn trivial ?_⟩
      have hlb:b < V.heap.size:=(Array.getElem?_eq_some_iff.1 h3).1
      have hb1:b∉idsN (lf i):=fun q=>by
        obtain ⟨j,e,_,he,hat⟩:=zij h2 (hsub i) (hk i) q
        exact zhL hat he h3 rfl
      have hact:Has ⟨N.n,[],some b,fun _ _=>False⟩ ((p,.agg cs.toArray)::σ) { tmps:=((#[p]:Array Tmp).zip #[.agg cs.toArray]).foldl (fun tmps (t,a)=>tmps.setIfInBounds t a) a.tmps,defers:=[] }:=by
        have h:=ha.put (d:=p) (by simpa using hp) (.agg cs.toArray)
        exact ⟨by simpa [Act.put] using h.size,rfl,fun n u hn=>by simpa [Act.put] using h.get n u hn⟩
      refine wpIn_mono (hA b V k i cs hit (Pq.no fun _ _=>id) _ V hact ((h2.sub (hsub i)).rebase (hk i) (fun g hg=>hg))) ?_
      rintro e a1 V1 hq1
      cases e with
      | normal=>
        obtain ⟨g,hgV,ha1,hw1⟩:=hq1
        have hL:V1.heap[b]?=some (.loop { state:=.ready,pending:=none,fn,tmps:=a.tmps,params:=#[p],assign,body,defers:=w.heap.size }):=(hw1.keep b hlb hb1).trans h3
        refine ⟨_,run_beginRound hL rfl,?_⟩
        generalize hV1':V1.putObj b (.loop _)=V1'
        have hgb:g≠b:=by omega
        have hk1:∀ {g0:Nat},g0 < V.heap.size→g0∉idsN (lf i)→g0≠b→V1'.heap[g0]?=V.heap[g0]?:=fun h h' hne=>by
          rw [← hV1',World.putObj_heap_other hne];exact hw1.keep _ h h'
        have hs1:V.heap.size≤V1'.heap.size:=by rw [← hV1',World.putObj_size];exact hw1.size
        have hkeep:∀ n (Bz Bz':List (Option Nat)),(n≤w0.heap.size)→(∀ g0,some g0∉Bz→g0∉idsN (lf i))→(∀ g0,some g0∉Bz→g0 < V.heap.size→some g0∉Bz')→Keep V n Bz V1' Bz':=fun n Bz Bz' hn hz hz'=>zco fun g0 hB0 hlt0 hpl=>⟨hk1 hlt0 (hz g0 hB0) (fun q=>by
          subst q
          obtain ⟨c,t,hct⟩:=hpl (by omega)
          rw [h3] at hct;cases hct),hz' g0 hB0 hlt0⟩
        have hvb':v < 990000:=by simpa [Nat.blt_eq] using hvb
        have hlrn:∀ (j:Nat) (e:Ent) (g0:Nat) (X:List Nat),lk [(990000,(⟨none,.df D,[]⟩:Ent))] j=some e→e.id=some g0→g0∉X:=fun j e g0 X he hid=>by
          rw [zae] at he
          split at he
          · cases he;cases hid
          · cases he
        have hM1:∀ g0∈idsN (lf i),∃ j e,lk ((990000,(⟨none,.df D,[]⟩:Ent))::lf i) j=some e∧e.id=some g0:=fun g0 hg0=>by
          obtain ⟨j,e,hj,he⟩:=zcQ (hk i) (zba.1 hg0)
          exact ⟨j,e,hsub i _ _ hj,he⟩
        have j1:=h2.joinF hw1 hM1 (lr:=[(990000,⟨none,.df D,[]⟩)]) (Sub.cons (by rw [zae,if_pos rfl]) (Sub.nil _)) (fun j e g0 he hid=>hlrn j e g0 _ he hid)
        have j2:WS w0 M (((v,⟨some g,tx,cs⟩)::lf i)++[(990000,⟨none,.df D,[]⟩)]) V1':=by rw [← hV1'];exact j1.putLoop hL hbb
        have hka:keysB ((v,(⟨some g,tx,cs⟩:Ent))::lf i)=true:=zed (by simp [Nat.blt_eq];omega) (hv i) (hk i)
        have hwb:WS V1' (g::idsN (lf i)) ((v,⟨some g,tx,cs⟩)::lf i) V1':=(j2.sub zeJ).rebase hka (fun g0 h=>h)
        have hT:=hB b V1' k i cs g (by have:=h2.size;omega) hlt
          (hφ k i _ _ V V1' (fun n hn=>hkeep n _ _ hn (fun g0 hz q=>hz (List.mem_append_right _ (zba.1 q))) (fun g0 hz hlt0 q=>by
            rcases List.mem_append.1 q with q | q
            · exact hz (List.mem_append_left _ q)
            · rcases List.mem_cons.1 q with q | q
              · cases q;omega
              · exact hz (List.mem_append_right _ q))) h1)
          (hitem k cs V V1' _ _ (fun X=>hkeep 0 _ _ (Nat.zero_le _) (fun g0 hz q=>hz (List.mem_map.2 ⟨g0,List.mem_append_left _ q,rfl⟩)) (fun g0 hz hlt0 q=>by
            obtain ⟨g1,q,hq⟩:=List.mem_map.1 q
            cases hq
            rcases List.mem_append.1 q with q | q
            · rcases List.mem_cons.1 q with q | q
              · omega
              · exact hz (List.mem_map.2 ⟨g0,List.mem_append_left _ q,rfl⟩)
            · exact hz (List.mem_map.2 ⟨g0,List.mem_append_right _ q,rfl⟩))) hit)
        refine wpIn_mono (hT (Pq.no fun _ _=>id) a1 V1' ha1 hwb) ?_
        rintro e2 a3 V3 ⟨rfl,i',h4,hw3⟩
        have hL2:V1'.heap[b]?=some (.loop { state:=.busy,pending:=none,fn,tmps:=a.tmps,params:=#[p],assign,body,defers:=w.heap.size }):=by
          rw [← hV1'];exact World.putObj_heap_same (Array.getElem?_eq_some_iff.1 hL).1
        have hb3:b∉g::idsN (lf i):=fun q=>by
          rcases List.mem_cons.1 q with q | q
          · exact hgb q.symm
          · exact hb1 q
        have hL3:=(hw3.keep b (Array.getElem?_eq_some_iff.1 hL2).1 hb3).trans hL2
        have hend:=run_endRound (P:=P) none hL3
        have hM2:∀ g0∈g::idsN (lf i),∃ j e,lk (((v,(⟨some g,tx,cs⟩:Ent))::lf i)++[(990000,⟨none,.df D,[]⟩)]) j=some e∧e.id=some g0:=fun g0 hg0=>by
          obtain ⟨j,e,hj,he⟩:=zcQ hka (zba.1 (show g0∈idsN ((v,(⟨some g,tx,cs⟩:Ent))::lf i) from hg0))
          exact ⟨j,e,zeJ _ _ hj,he⟩
        have hsr:Sub [(990000,(⟨none,.df D,[]⟩:Ent))] (((v,(⟨some g,tx,cs⟩:Ent))::lf i)++[(990000,⟨none,.df D,[]⟩)]):=Sub.cons (by
          rw [zax,zae,if_neg (by omega),hD i,zae,if_pos rfl];rfl) (Sub.nil _)
        have j3:=j2.joinF hw3 hM2 hsr (fun j e g0 he hid=>hlrn j e g0 _ he hid)
        have j4:=(j3.putLoop (r':={ state:=.ready,pending:=none,fn,tmps:=a.tmps,params:=#[p],assign,body,defers:=w.heap.size }) hL3 hbb).sub (zmS (hD i'))
        refine ⟨_,_,hend,rfl,⟨idsN (lf i'),i',?_,j4,?_,rfl⟩,?_⟩
        · refine hφ (k+1) i' _ _ V3 _ (fun n hn=>zco fun g0 hB0 hlt0 hpl=>⟨?_,hB0⟩) h4
          exact World.putObj_heap_other (fun q=>by
            subst q
            obtain ⟨c,t,hct⟩:=hpl (by omega)
            rw [hL3] at hct;cases hct)
        · rw [World.putObj_heap_same (Array.getElem?_eq_some_iff.1 hL3).1,hrec];rfl
        · intro g0 hg0 hgM ⟨c,t,hct⟩
          have hne:g0≠b:=fun q=>by subst q;rw [h3] at hct;cases hct
          rw [World.putObj_heap_other hne,hw3.keep g0 (by omega) (fun q=>by
            rcases List.mem_cons.1 q with q | q
            · omega
            · exact hgM q)]
          exact hk1 hg0 hgM hne
      | ret=>exact hq1.elim
      | exit id=>exact hq1.elim
      | goto t=>exact hq1.elim
      | panic ch=>exact hq1.elim
      | outgrown=>exact hq1.elim
    · rintro e W2 ⟨⟨v,rfl⟩,MB,i,h1,h2,h3,rfl⟩
      rw [hrec] at h3
      refine ⟨none,_,run_endLoop (P:=P) h3 (by simp),?_⟩
      generalize hW4:W2.putObj b (.loop _)=W4
      have hkb:∀ n (Bz Bz':List (Option Nat)),n≤w0.heap.size→(∀ g0,some g0∈Bz'→some g0∈Bz)→Keep W2 n Bz W4 Bz':=fun n Bz Bz' hn hz=>zco fun g0 hB0 hlt0 hpl=>⟨by
          rw [← hW4,World.putObj_heap_other (fun q=>by
            subst q
            obtain ⟨c,t,hct⟩:=hpl (by omega)
            rw [h3] at hct;cases hct)],fun q=>hB0 (hz g0 q)⟩
      have h4:WS w0 M ((990000,⟨none,.df D,[]⟩)::lf i) W4:=by rw [← hW4];exact h2.putLoop h3 hbb
      have hkk:keysB ((990000,⟨none,.df D,[]⟩)::lf i)=true:=by
        exact zed rfl (hD i) (hk i)
      exact hX D i W4 hDb (hφ cnt i _ _ W2 W4 (fun n hn=>hkb n _ _ hn (fun g0 q=>by simpa [ids] using q)) h1) h4 (Pq.no fun _ _=>id) _ W4 ⟨ha.size,by show _::a.defers=_;rw [ha.defers],ha.get⟩ (h4.snap (Sub.refl _) hkk)
def Ndf (l:List (Nat×Ent)):Prop:=∀ k e,lk l k=some e→e.id=none→∀ D,e.t≠.df D
theorem Ndf.cons {k:Nat} {e:Ent} (he:e.id=none→∀ D,e.t≠.df D) (h:Ndf l):Ndf ((k,e)::l):=fun j u hj=>by
  rw [zae] at hj
  split at hj
  · cases hj;exact he
  · exact h j u hj
theorem Ndf.snap {W:World} {n:Nat} {I:List (Option Nat)}:Ndf (snapL W n I):=fun k e h q=>by
  obtain ⟨g,_,_,_,h4,_⟩:=zdO h
  rw [h4] at q;cases q
theorem WS.shut (h:WS w0 M l w) {D:Nat} {ds:Option (List Deferred)} (hD:w0.heap.size≤D) (hd:w.heap[D]?=some (.deferred ds)) (o:Option (List Deferred)) (hs:Sub l1 l) (hn:Ndf l1):WS w0 M l1 (w.putObj D (.deferred o)):=by
  have h1:=h.sub hs
  refine ⟨h.os,h.tape,h.output,by rw [World.putObj_size];exact h.size,fun i hi hM=>by rw [World.putObj_heap_other (by omega)];exact h.keep i hi hM,fun j e he=>?_,h1.apart,h1.own⟩
  have hl:=h1.live j e he
  have hnj:=hn j e he
  cases hid:e.id with
  | none=>
    simp only [Ent.At,hid] at *
    refine ⟨hl.1,?_⟩
    have h2:=hl.2
    cases ht:e.t with
    | ty t=>trivial
    | mp g r=>
      simp only [ht] at h2
      obtain ⟨es,clk,h3,h4⟩:=h2
      exact ⟨es,clk,by rw [World.putObj_heap_other (by rintro rfl;rw [hd] at h3;cases h3)];exact h3,h4⟩
    | df g=>exact absurd ht (hnj trivial g)
  | some g=>
    simp only [Ent.At,hid] at *
    obtain ⟨t,h1,h2⟩:=hl
    exact ⟨t,h1,by rw [World.putObj_heap_other (by rintro rfl;rw [hd] at h2;cases h2)];exact h2⟩
theorem X.ao {fn:Func} {R:Ending→World→Prop} (D j:Nat) (hND:N.D=[⟨.collected D,#[]⟩]) (he:lk l j=some ⟨none,.df D,[]⟩) (hD:w0.heap.size≤D) (hs:Sub l1 l) (hn:Ndf l1) (h:X w0 M (Nf.of N.n) (bodyPost P fn R) .ret σ l1):X w0 M N (bodyPostM (WF none) 0 P fn R) .ret σ l:=fun hq a w ha hw=>by
  show LeavesInM (WF none) 0 P fn a.tmps R a.defers .returning w
  rw [ha.defers,hND]
  have hd:=(hw.live j _ he).2
  refine ⟨by simp,.inl ⟨D,_,rfl,run_takeDeferred hd,?_⟩⟩
  obtain ⟨_,v,hr,hR⟩:=h (Pq.no fun _ _=>id) { a with defers:=[] } _ ⟨ha.size,rfl,ha.get⟩ (hw.shut hD hd none hs hn)
  exact ⟨v,hr,hR⟩
theorem X.an {fn:Func} {R:Ending→World→Prop} (hND:N.D=[]) (h:X w0 M (Nf.of N.n) (bodyPost P fn R) .ret σ l):X w0 M N (bodyPostM (WF none) 0 P fn R) .ret σ l:=fun hq a w ha hw=>by
  show LeavesInM (WF none) 0 P fn a.tmps R a.defers .returning w
  rw [ha.defers,hND]
  obtain ⟨_,v,hr,hR⟩:=h (Pq.no fun _ _=>id) { a with defers:=[] } _ ⟨ha.size,rfl,ha.get⟩ hw
  exact ⟨v,hr,hR⟩
theorem zeF {f:FuncId} {fn:Func} {c:Code} {args:List Value} {R:Ending→World→Prop} (M:List Nat) (N:Nat) (l:List (Nat×Ent)) (hf:P.funcs[f]?=some fn) (hb:fn.body=some c) (hN:fn.ntmps=N)
    (hle:args.length≤N) (hw:WS w M l w) (h:T P w M (Nf.of N) (bodyPostM (WF none) 0 P fn R) c (argσ 0 args) l):Calls P f args.toArray w R:=
  (callsIn_wide (n:=0)).1 (callsIn_of_wp_marks (F:=WF none) hf hb trivial (h (Pq.no fun _ _=>id) _ _ (zeg hN rfl hle) hw))
end
end Go.Fw
namespace Go.Fw
open Go
def OpV.cd (o:OpV) (c:Int):Prop:=o.name≠[]→o.code=c
theorem zlX (c:Int):(sumsV c).cd c:=by
  unfold sumsV;repeat' (with_reducible refine iteInduction (motive:=fun o:OpV=>o.cd c) (fun h=>?_) (fun h=>?_))
  all_goals first | (intro _;rfl) | (intro h;exact absurd rfl h) | (intro _;exact h.symm)
theorem zia (c:Int):(ofBlockV c).cd c:=by
  unfold ofBlockV;repeat' (with_reducible refine iteInduction (motive:=fun o:OpV=>o.cd c) (fun h=>?_) (fun h=>?_))
  all_goals first | (intro _;rfl) | (intro h;exact absurd rfl h)
theorem zkA (c:Int):(askedV c).cd c:=by
  unfold askedV;repeat' (with_reducible refine iteInduction (motive:=fun o:OpV=>o.cd c) (fun h=>?_) (fun h=>?_))
  all_goals first | (intro _;rfl) | (intro h;exact absurd rfl h) | exact zia c
theorem zms (c:Int):(heldV c).cd c:=by
  unfold heldV;repeat' (with_reducible refine iteInduction (motive:=fun o:OpV=>o.cd c) (fun h=>?_) (fun h=>?_))
  all_goals first | (intro _;rfl) | (intro h;exact absurd rfl h)
theorem zhZ (c:Int):(outwardV c).cd c:=by
  unfold outwardV;repeat' (with_reducible refine iteInduction (motive:=fun o:OpV=>o.cd c) (fun h=>?_) (fun h=>?_))
  all_goals first | (intro _;rfl) | (intro h;exact absurd rfl h)
theorem ziG (c:Int):(turnedV c).cd c:=by
  unfold turnedV;repeat' (with_reducible refine iteInduction (motive:=fun o:OpV=>o.cd c) (fun h=>?_) (fun h=>?_))
  all_goals first | (intro _;rfl) | (intro h;exact absurd rfl h) | exact zhZ c
theorem zhg (c:Int):(comparedV c).cd c:=by
  unfold comparedV;repeat' (with_reducible refine iteInduction (motive:=fun o:OpV=>o.cd c) (fun h=>?_) (fun h=>?_))
  all_goals first | (intro _;rfl) | (intro h;exact absurd rfl h)
theorem zmv (c:Int):(findV c).cd c:=by
  unfold findV;repeat' (with_reducible refine iteInduction (motive:=fun o:OpV=>o.cd c) (fun h=>?_) (fun h=>?_))
  all_goals first | (intro _;rfl) | exact zlX c | exact zhg c | exact zkA c | exact zms c | exact ziG c
def OpV.im (o:OpV):Prop:= -1≤o.imm∧o.imm≤32
theorem zjZ (c:Int) (n:List Nat) (m i o g:Int) (e:Bool) (h1: -1≤m) (h2:m≤32):(OpV.mk c n m i o g e).im:=⟨h1,h2⟩
theorem zoW (c:Int):(sumsV c).im:=by
  unfold sumsV;repeat' (with_reducible refine iteInduction (motive:=fun o:OpV=>o.im) (fun h=>?_) (fun h=>?_))
  all_goals exact zjZ _ _ _ _ _ _ _ (by decide) (by decide)
theorem zjX (c:Int):(ofBlockV c).im:=by
  unfold ofBlockV;repeat' (with_reducible refine iteInduction (motive:=fun o:OpV=>o.im) (fun h=>?_) (fun h=>?_))
  all_goals exact zjZ _ _ _ _ _ _ _ (by decide) (by decide)
theorem zoC (c:Int):(askedV c).im:=by
  unfold askedV;repeat' (with_reducible refine iteInduction (motive:=fun o:OpV=>o.im) (fun h=>?_) (fun h=>?_))
  all_goals first | exact zjX c | exact zjZ _ _ _ _ _ _ _ (by decide) (by decide)
theorem zpI (c:Int):(heldV c).im:=by
  unfold heldV;repeat' (with_reducible refine iteInduction (motive:=fun o:OpV=>o.im) (fun h=>?_) (fun h=>?_))
  all_goals exact zjZ _ _ _ _ _ _ _ (by decide) (by decide)
theorem zjT (c:Int):(outwardV c).im:=by
  unfold outwardV;repeat' (with_reducible refine iteInduction (motive:=fun o:OpV=>o.im) (fun h=>?_) (fun h=>?_))
  all_goals exact zjZ _ _ _ _ _ _ _ (by decide) (by decide)
theorem zlR (c:Int):(turnedV c).im:=by
  unfold turnedV;repeat' (with_reducible refine iteInduction (motive:=fun o:OpV=>o.im) (fun h=>?_) (fun h=>?_))
  all_goals first | exact zjT c | exact zjZ _ _ _ _ _ _ _ (by decide) (by decide)
theorem zjv (c:Int):(comparedV c).im:=by
  unfold comparedV;repeat' (with_reducible refine iteInduction (motive:=fun o:OpV=>o.im) (fun h=>?_) (fun h=>?_))
  all_goals exact zjZ _ _ _ _ _ _ _ (by decide) (by decide)
theorem zdp (c:Int):(findV c).im:=by
  unfold findV;repeat' (with_reducible refine iteInduction (motive:=fun o:OpV=>o.im) (fun h=>?_) (fun h=>?_))
  all_goals first | exact zoW c | exact zjv c | exact zoC c | exact zpI c | exact zlR c | (refine ⟨?_,?_⟩<;>(simp only [plainV];omega))
structure InV where
  at_:Nat
  code:Int
  imm:List Nat
  next:Nat
structure InR where
  v:InV
  A:Option Addr
  cap:Nat
instance:Inhabited InV:=⟨⟨0,0,[],0⟩⟩
instance:Inhabited InR:=⟨⟨default,none,0⟩⟩
def InR.cells (x:InR):List Value:=[.int .i64 ((x.v.at_:Nat):Int),.int .i64 x.v.code,.slice x.A x.v.imm.length x.cap,.int .i64 ((x.v.next:Nat):Int)]
theorem InR.cells_length (x:InR):x.cells.length=4:=rfl
theorem InR.cells_one (x:InR):∀ u∈x.cells,u.oneCell'=true:=by
  intro u hu
  simp only [InR.cells,List.mem_cons,List.not_mem_nil,or_false] at hu
  rcases hu with rfl | rfl | rfl | rfl<;>rfl
structure InR.Ok (W:World) (n:Nat) (B:List (Option Nat)) (x:InR):Prop where
  dg:Dg x.v.imm
  ln:x.v.imm.length≤x.cap
  fi:Fit W n B x.A (rowN .u8 x.v.imm)
theorem InR.Ok.keep {W w:World} {n:Nat} {B B':List (Option Nat)} {x:InR} (h:x.Ok W n B) (k:Keep W n B w B'):x.Ok w n B':=⟨h.dg,h.ln,k _ _ h.fi⟩
def InR.none:InR:=⟨⟨0,0,[],0⟩,Option.none,0⟩
theorem InR.none_ok {W:World} {n:Nat} {B:List (Option Nat)}:InR.none.Ok W n B:=⟨zaX,Nat.le_refl _,Fit.nil⟩
def AllI (W:World) (n:Nat) (B:List (Option Nat)) (xs:List InR):Prop:=∀ x∈xs,x.Ok W n B
theorem AllI.keep {W w:World} {n:Nat} {B B':List (Option Nat)} {xs:List InR} (h:AllI W n B xs) (k:Keep W n B w B'):AllI w n B' xs:=fun x hx=>(h x hx).keep k
theorem AllI.nil {W:World} {n:Nat} {B:List (Option Nat)}:AllI W n B []:=fun x hx=>by cases hx
theorem AllI.snoc {W:World} {n:Nat} {B:List (Option Nat)} {xs:List InR} {x:InR} (h:AllI W n B xs) (hx:x.Ok W n B):AllI W n B (xs++[x]):=fun y hy=>by
  rcases List.mem_append.1 hy with q | q
  · exact h y q
  · rw [List.mem_singleton.1 q];exact hx
def rowIn (xs:List InR):List Value:=xs.flatMap InR.cells
theorem zcx (xs:List InR):(rowIn xs).length=xs.length*4:=zaF InR.cells_length xs
theorem ziU (xs ys:List InR):rowIn (xs++ys)=rowIn xs++rowIn ys:=List.flatMap_append
theorem zhy (xs:List InR) (x:InR):rowIn (xs++[x])=rowIn xs++x.cells:=by rw [ziU];simp [rowIn]
theorem zdL (xs:List InR) (i:Nat) (h:i < xs.length):((rowIn xs).drop (i*4)).take 4=(xs.getD i default).cells:=zcC InR.cells_length xs i h
theorem zmf (xs:List InR) (i o:Nat) (h:i < xs.length) (ho:o < 4):(rowIn xs)[i*4+o]?=(xs.getD i default).cells[o]?:=zcF InR.cells_length xs i o h ho
def lenB (r:OpV) (im:List Nat):Bool:=decide (r.imm≠ -1∨im≠[])
def lenN (r:OpV) (im:List Nat):Nat:=if r.imm≠ -1 then r.imm.toNat else if im=[] then 0 else 1+2*(im.getD 0 0+1)
theorem zlf {r:OpV} {im:List Nat} (h:r.imm≠ -1) (h0: -1≤r.imm):((lenN r im:Nat):Int)=r.imm:=by rw [lenN,if_pos h];omega
theorem zfa {r:OpV} {im:List Nat} (h:¬ r.imm≠ -1) (h2:im≠[]):lenN r im=1+2*(im.getD 0 0+1):=by rw [lenN,if_neg h,if_neg h2]
theorem zkc {r:OpV} {im:List Nat} (h:r.im) (hd:Dg im):lenN r im≤513:=by
  unfold lenN
  split
  · have:=h.2;omega
  · split
    · omega
    · cases im with
      | nil=>contradiction
      | cons x xs=>have:=hd x List.mem_cons_self;simp only [List.getD_cons_zero];omega
def opAt (bs:List Nat) (at_:Nat):OpV:=findV ((bs.getD at_ 0:Nat):Int)
def readE (bs:List Nat) (at_:Nat):Int:=
  if ¬ at_ < bs.length then 1 else if (opAt bs at_).name=[] then 60
  else if lenB (opAt bs at_) (bs.drop (at_+1))=true∧lenN (opAt bs at_) (bs.drop (at_+1))≤bs.length - at_ - 1 then 0 else 61
def readV (bs:List Nat) (at_:Nat):InV:=
  if readE bs at_=0 then ⟨at_,((bs.getD at_ 0:Nat):Int),(bs.drop (at_+1)).take (lenN (opAt bs at_) (bs.drop (at_+1))),at_+1+lenN (opAt bs at_) (bs.drop (at_+1))⟩ else ⟨0,0,[],0⟩
theorem zdc {bs:List Nat} {a:Nat} (h:readE bs a=0):a < bs.length∧(opAt bs a).name≠[]∧lenB (opAt bs a) (bs.drop (a+1))=true∧lenN (opAt bs a) (bs.drop (a+1))≤bs.length - a - 1:=by
  unfold readE at h
  split at h
  · cases h
  · rename_i h1
    split at h
    · cases h
    · rename_i h2
      split at h
      · rename_i h3;exact ⟨Decidable.not_not.1 h1,h2,h3⟩
      · cases h
theorem zbI {bs:List Nat} {a:Nat} (h:readE bs a=0):a < (readV bs a).next∧(readV bs a).next≤bs.length:=by
  obtain ⟨h1,_,_,h4⟩:=zdc h
  rw [readV,if_pos h]
  show a < a+1+_∧a+1+_≤_
  omega
def insF (bs:List Nat):Nat→Nat→List InV
  | 0,_=>[]
  | f+1,a=>if readE bs a=0 then readV bs a::insF bs f (readV bs a).next else []
def insA (bs:List Nat) (a:Nat):List InV:=insF bs (bs.length+1 - a) a
theorem zkh (bs:List Nat):∀ (f a:Nat),bs.length+1 - a≤f→insF bs f a=insA bs a:=by
  intro f
  induction f using Nat.strongRecOn with
  | _ f ih=>
    intro a h
    unfold insA
    cases f with
    | zero=>rw [show bs.length+1 - a=0 by omega]
    | succ f=>
      cases hn:bs.length+1 - a with
      | zero=>
        have hE:readE bs a≠0:=fun q=>by have:=(zdc q).1;omega
        rw [show insF bs (f+1) a=[] by rw [insF,if_neg hE]];rfl
      | succ m=>
        rw [insF,insF]
        split
        · rename_i hE
          have:=zbI hE
          rw [ih f (by omega) _ (by omega),← ih m (by omega) _ (by omega)]
        · rfl
theorem znP {bs:List Nat} {a:Nat} (h:readE bs a=0):insA bs a=readV bs a::insA bs (readV bs a).next:=by
  have:=(zdc h).1
  have h2:=zbI h
  rw [insA,show bs.length+1 - a=(bs.length - a)+1 by omega,insF,if_pos h,zkh bs _ _ (by omega)]
theorem zpC {bs:List Nat} {a:Nat} (h:readE bs a≠0):insA bs a=[]:=by
  unfold insA
  cases bs.length+1 - a with
  | zero=>rfl
  | succ m=>rw [insF,if_neg h]
def imN (bs:List Nat) (a:Nat):Nat:=lenN (opAt bs a) (bs.drop (a+1))
def imV (bs:List Nat) (a:Nat):List Nat:=(bs.drop (a+1)).take (imN bs a)
theorem zfD {bs:List Nat} {a:Nat} (h:imN bs a≤bs.length - a - 1):(imV bs a).length=imN bs a:=by
  rw [imV,List.length_take,List.length_drop];omega
theorem znr {bs:List Nat} {a:Nat} (h:¬ a < bs.length):readE bs a=1:=by rw [readE,if_pos h]
theorem zkY {bs:List Nat} {a:Nat} (h:a < bs.length) (h2:(opAt bs a).name=[]):readE bs a=60:=by rw [readE,if_neg (fun q=>q h),if_pos h2]
theorem zhY {bs:List Nat} {a:Nat} (h:a < bs.length) (h2:(opAt bs a).name≠[]) (h3:¬ (lenB (opAt bs a) (bs.drop (a+1))=true∧imN bs a≤bs.length - a - 1)):readE bs a=61:=by
  rw [readE,if_neg (fun q=>q h),if_neg h2];exact if_neg h3
theorem zrQ {bs:List Nat} {a:Nat} (h:a < bs.length) (h2:(opAt bs a).name≠[]) (h3:lenB (opAt bs a) (bs.drop (a+1))=true) (h4:imN bs a≤bs.length - a - 1):readE bs a=0:=by
  rw [readE,if_neg (fun q=>q h),if_neg h2];exact if_pos ⟨h3,h4⟩
theorem zeU {bs:List Nat} {a:Nat} (h:readE bs a≠0):readV bs a=InR.none.v:=by rw [readV,if_neg h];rfl
theorem zpl {bs:List Nat} {a:Nat} (h:readE bs a=0):readV bs a=⟨a,(opAt bs a).code,imV bs a,a+1+imN bs a⟩:=by
  rw [readV,if_pos h]
  have:=zmv ((bs.getD a 0:Nat):Int) (zdc h).2.1
  show InV.mk a _ (imV bs a) (a+1+imN bs a)=InV.mk a (findV ((bs.getD a 0:Nat):Int)).code _ _
  rw [this]
theorem cut8 {w:World} {A:Option Addr} {bs:List Nat} {c:Nat} (h:Cs w A (rowN .u8 bs)) (hc:bs.length≤c) (a:Nat):Cs w (if c=a then A else A.map (·.add (a*1))) (rowN .u8 (bs.drop a)):=by
  have:=h.cut a 1 c (fun q=>by rw [zap];omega)
  rwa [show (rowN .u8 bs).drop (a*1)=rowN .u8 (bs.drop a) by simp [rowN,List.map_drop]] at this
theorem cut8t {w:World} {A:Option Addr} {bs:List Nat} (h:Cs w A (rowN .u8 bs)) (n:Nat):Cs w A (rowN .u8 (bs.take n)):=by
  have:=h.take n
  rwa [show (rowN .u8 bs).take n=rowN .u8 (bs.take n) by simp [rowN,List.map_take]] at this
theorem zlj {bs:List Nat}:∀ (f a:Nat) (v:InV),v∈insF bs f a→readE bs v.at_=0∧v=readV bs v.at_
  | 0,a,v,h=>by cases h
  | f+1,a,v,h=>by
    rw [insF] at h
    split at h
    · rename_i hE
      rcases List.mem_cons.1 h with h | h
      · have:v.at_=a:=by rw [h,readV,if_pos hE]
        rw [this];exact ⟨hE,h⟩
      · exact zlj f _ v h
    · cases h
theorem zih {bs:List Nat} {a:Nat} {v:InV} (h:v∈insA bs a):readE bs v.at_=0∧v=readV bs v.at_:=zlj _ _ _ h
theorem zsu {bs:List Nat} {a k:Nat} (h:k < (insA bs a).length):(insA bs a).getD k default∈insA bs a:=by
  rw [List.getD_eq_getElem?_getD,List.getElem?_eq_getElem h];exact List.getElem_mem h
theorem zmr {bs:List Nat} {a k:Nat} (h:k < (insA bs a).length):((insA bs a).getD k default).at_ < bs.length:=(zdc (zih (zsu h)).1).1
theorem zcH {α:Type} [Inhabited α] {l:List α} {k:Nat} (h:k < l.length):l.take (k+1)=l.take k++[l.getD k default]:=by
  rw [List.take_add_one,List.getElem?_eq_getElem h,List.getD_eq_getElem?_getD,List.getElem?_eq_getElem h];rfl
def rowT (xs:List Bool):List Value:=xs.map Value.bool
theorem zck (xs:List Bool):(rowT xs).length=xs.length:=List.length_map _
theorem zkS (xs:List Bool) (i:Nat) (h:i < xs.length):(rowT xs)[i]?=some (.bool (xs.getD i false)):=by
  rw [rowT,List.getElem?_map,List.getD_eq_getElem?_getD,List.getElem?_eq_getElem h];rfl
theorem zkR (xs:List Bool) (i:Nat) (b:Bool) (h:i < xs.length):put (rowT xs) i [.bool b]=rowT (xs.set i b):=by
  unfold put rowT
  rw [List.map_set,List.set_eq_take_append_cons_drop,if_pos (by rw [List.length_map];exact h)]
  simp
def startsV (n:Nat) (vs:List InV):List Bool:=vs.foldl (fun l v=>l.set v.at_ true) (List.replicate n false)
theorem zaI (n:Nat) (vs:List InV):(startsV n vs).length=n:=by
  unfold startsV
  have:∀ (vs:List InV) (l:List Bool),(vs.foldl (fun l v=>l.set v.at_ true) l).length=l.length:=fun vs=>by
    induction vs with
    | nil=>intro l;rfl
    | cons v vs ih=>intro l;rw [List.foldl_cons,ih,List.length_set]
  rw [this,List.length_replicate]
theorem ziL (n:Nat) (vs:List InV) (v:InV):startsV n (vs++[v])=(startsV n vs).set v.at_ true:=by
  rw [startsV,List.foldl_append];rfl
theorem zlM (n:Nat):zeros (.bool false) n=rowT (List.replicate n false):=by
  unfold zeros rowT
  rw [List.map_replicate]
  apply List.ext_getElem
  · simp [Value.cells]
  · intro i h1 h2
    simp [Value.cells,Nat.mod_one]
theorem znQ {bs:List Nat} {a:Nat} {v:InV} (hd:Dg bs) (h:v∈insA bs a):0≤v.code∧v.code < 256:=by
  obtain ⟨h1,h2⟩:=zih h
  have:=hd.getD v.at_
  rw [h2,readV,if_pos h1]
  exact ⟨by show (0:Int)≤((bs.getD v.at_ 0:Nat):Int);omega,by show ((bs.getD v.at_ 0:Nat):Int) < 256;omega⟩
def endN (vs:List InV):Nat:=(vs.getLast?.map InV.next).getD 0
def lastN (vs:List InV):Nat:=(vs.getLast?.map InV.at_).getD 0
def lastC (vs:List InV):Int:=(vs.getLast?.map InV.code).getD 0
theorem zok (vs:List InV) (v:InV):endN (vs++[v])=v.next:=by simp [endN]
theorem zmo (vs:List InV) (v:InV):lastN (vs++[v])=v.at_:=by simp [lastN]
theorem zji {vs:List InV} (h:0 < vs.length):lastC vs=(vs.getD (vs.length - 1) default).code:=by
  rw [lastC,List.getLast?_eq_getElem?,List.getD_eq_getElem?_getD,List.getElem?_eq_getElem (by omega)];rfl
theorem znN {bs:List Nat}:∀ (f a:Nat),bs.length+1 - a≤f→readE bs (((insF bs f a).getLast?.map InV.next).getD a)≠0:=by
  intro f
  induction f with
  | zero=>intro a h q;have:=(zdc (show readE bs a=0 from q)).1;omega
  | succ f ih=>
    intro a h
    rw [insF]
    split
    · rename_i hE
      have h2:=zbI hE
      have:=ih (readV bs a).next (by omega)
      rw [List.getLast?_cons]
      cases hl:(insF bs f (readV bs a).next).getLast? with
      | none=>rw [hl] at this;exact this
      | some v=>rw [hl] at this;exact this
    · rename_i hE;exact hE
theorem zgI (bs:List Nat):readE bs (endN (insA bs 0))≠0:=znN _ _ (Nat.le_refl _)
theorem zpB {bs:List Nat}:∀ (f a:Nat),a≤bs.length→((insF bs f a).getLast?.map InV.next).getD a≤bs.length:=by
  intro f
  induction f with
  | zero=>intro a h;exact h
  | succ f ih=>
    intro a h
    rw [insF]
    split
    · rename_i hE
      have:=ih (readV bs a).next (zbI hE).2
      rw [List.getLast?_cons]
      cases hl:(insF bs f (readV bs a).next).getLast? with
      | none=>rw [hl] at this;exact this
      | some v=>rw [hl] at this;exact this
    · exact h
theorem zgJ (bs:List Nat):endN (insA bs 0)≤bs.length:=zpB _ _ (Nat.zero_le _)
def scanE (bs:List Nat):Int:=
  if endN (insA bs 0) < bs.length then readE bs (endN (insA bs 0)) else if insA bs 0=[] then 62 else if (findV (lastC (insA bs 0))).ends=true then 0 else 62
theorem zlk {bs:List Nat}:∀ (f a:Nat),(insF bs f a).length≤f
  | 0,a=>Nat.le_refl _
  | f+1,a=>by
    rw [insF]
    split
    · rw [List.length_cons];have:=zlk (bs:=bs) f (readV bs a).next;omega
    · exact Nat.zero_le _
theorem zdg (bs:List Nat):(insA bs 0).length≤bs.length+1:=zlk _ _
theorem InR.Ok.less {V:World} {n N0 g:Nat} {B:List (Option Nat)} {x:InR} {l:List (Nat×Ent)} (h:x.Ok V 0 (((g::idsN l)++List.range N0).map some)) (hB:∀ g,some g∈B→g < N0):x.Ok V n (B++some g::ids l):=⟨h.dg,h.ln,fun i u hu=>by
  obtain ⟨ad,h1,h2,h3,h4⟩:=h.fi i u hu
  refine ⟨ad,h1,h2,fun q=>?_,fun _=>h4 (Nat.zero_le _)⟩
  rcases List.mem_append.1 q with q | q
  · exact h3 (List.mem_map.2 ⟨_,List.mem_append_right _ (List.mem_range.2 (hB _ q)),rfl⟩)
  · rcases List.mem_cons.1 q with q | q
    · exact h3 (List.mem_map.2 ⟨_,List.mem_append_left _ (Option.some.inj q ▸ List.mem_cons_self),rfl⟩)
    · exact h3 (List.mem_map.2 ⟨_,List.mem_append_left _ (List.mem_cons_of_mem _ (zba.2 q)),rfl⟩)⟩
theorem zpE {o a0 a1 a2 a3 a4 a5 b c:Option Nat} (h:o∈[a0,a1,a2,a3,a4,a5]):o∈[b,a0,a1,a2,a3,a4,a5,c]:=by
  simp only [List.mem_cons,List.not_mem_nil,or_false] at h ⊢
  rcases h with h | h | h | h | h | h
  · exact .inr (.inl h)
  · exact .inr (.inr (.inl h))
  · exact .inr (.inr (.inr (.inl h)))
  · exact .inr (.inr (.inr (.inr (.inl h))))
  · exact .inr (.inr (.inr (.inr (.inr (.inl h)))))
  · exact .inr (.inr (.inr (.inr (.inr (.inr (.inl h))))))
structure InV.Fine (v:InV):Prop where
  cd:0≤v.code∧v.code < 256
  dg:Dg v.imm
  nm:(findV v.code).name≠[]
  at_:v.at_≤1000000
  lb:lenB (findV v.code) v.imm=true
  ln:lenN (findV v.code) v.imm=v.imm.length
  nx:v.next=v.at_+1+v.imm.length
theorem zmt (xs:List Nat) (n:Nat) (h:0 < n):(xs.take n).getD 0 0=xs.getD 0 0:=by
  cases xs with
  | nil=>simp
  | cons x xs=>cases n with
    | zero=>omega
    | succ n=>rfl
theorem zmi {bs:List Nat} {a:Nat} (hd:Dg bs) (hl:bs.length≤1000000) (h:readE bs a=0):(readV bs a).Fine:=by
  obtain ⟨h1,h2,h3,h4⟩:=zdc h
  have hb:=hd.getD a
  have hlen:=zfD (bs:=bs) (a:=a) h4
  have hcut:lenN (opAt bs a) (imV bs a)=imN bs a∧lenB (opAt bs a) (imV bs a)=true:=by
    unfold lenB at h3
    by_cases hi:(opAt bs a).imm≠ -1
    · exact ⟨by unfold imN lenN;rw [if_pos hi,if_pos hi],by unfold lenB;rw [decide_eq_true (.inl hi)]⟩
    · have hne:bs.drop (a+1)≠[]:=(of_decide_eq_true h3).resolve_left hi
      have hN:imN bs a=1+2*((bs.drop (a+1)).getD 0 0+1):=zfa hi hne
      have hne2:imV bs a≠[]:=fun q=>by rw [q] at hlen;simp at hlen;omega
      refine ⟨?_,by unfold lenB;rw [decide_eq_true (.inr hne2)]⟩
      rw [zfa hi hne2,hN]
      have:(imV bs a).getD 0 0=(bs.drop (a+1)).getD 0 0:=zmt _ _ (by omega)
      rw [this]
  rw [readV,if_pos h]
  exact ⟨⟨by show (0:Int)≤((bs.getD a 0:Nat):Int);omega,by show ((bs.getD a 0:Nat):Int) < 256;omega⟩,(hd.drop _).take _,h2,by show a≤_;omega,hcut.2,hcut.1.trans hlen.symm,by show a+1+imN bs a=a+1+(imV bs a).length;omega⟩
theorem or16 (a b:Nat) (ha:a < 256) (hb:b < 256):bits .or .i64 ((a*256:Nat):Int) ((b:Nat):Int)=((a*256+b:Nat):Int):=by
  show IntKind.i64.wrap ((BitVec.ofInt 64 ((a*256:Nat):Int) ||| BitVec.ofInt 64 ((b:Nat):Int)).toNat:Int)=_
  rw [BitVec.toNat_or,ofInt_u64 (a*256) (by omega),ofInt_u64 b (by omega)]
  have:a*256 ||| b=a*256+b:=by
    have h:=Nat.shiftLeft_add_eq_or_of_lt (show b < 2^8 by omega) a
    rw [Nat.shiftLeft_eq] at h
    exact h.symm
  rw [this]
  exact zai _ (by omega)
def pairN (bs:List Nat):Nat:=bs.getD 0 0*256+bs.getD 1 0
theorem InV.Fine.len {v:InV} (h:v.Fine) {c:Int} (hc:v.code=c) (hk:(findV c).imm≠ -1):v.imm.length=(findV c).imm.toNat:=by
  have:=h.ln
  rw [hc,lenN,if_pos hk] at this
  exact this.symm
def namedP (v:InV):Nat×Bool:=if v.code=227∨v.code=229∨v.code=209 then (pairN v.imm,true) else if v.code=236∨v.code=238 then (v.imm.getD 0 0,true) else (0,false)
theorem zdY {v:InV} (h:v.code=227∨v.code=229∨v.code=209):namedP v=(pairN v.imm,true):=if_pos h
theorem zdZ {v:InV} (h:v.code=236∨v.code=238):namedP v=(v.imm.getD 0 0,true):=by rw [namedP,if_neg (by omega),if_pos h]
theorem zea {v:InV} (h1:¬ (v.code=227∨v.code=229∨v.code=209)) (h:¬ (v.code=236∨v.code=238)):namedP v=(0,false):=by rw [namedP,if_neg h1,if_neg h]
theorem InV.Fine.two {v:InV} (h:v.Fine) (hc:v.code=227∨v.code=229∨v.code=209):2≤v.imm.length:=by
  rcases hc with hc | hc | hc<;>rw [h.len hc (by decide)]<;>decide
theorem InV.Fine.one {v:InV} (h:v.Fine) (hc:v.code=236∨v.code=238):1≤v.imm.length:=by
  rcases hc with hc | hc<;>rw [h.len hc (by decide)]<;>decide
end Go.Fw
namespace Go.Fw
open Go
def numB (bs:List Nat) (a:Nat):Nat→Nat
  | 0=>0
  | k+1=>numB bs a k*256+bs.getD (a+k) 0
theorem znw (bs:List Nat) (a k:Nat):numB bs a (k+1)=numB bs a k*256+bs.getD (a+k) 0:=rfl
theorem znx {bs:List Nat} (hd:Dg bs) (a:Nat):∀ k,numB bs a k < 256^k
  | 0=>Nat.zero_lt_one
  | k+1=>by
    have h1:=znx hd a k
    have h2:=hd.getD (a+k)
    rw [znw,Nat.pow_succ];omega
theorem zbZ {bs:List Nat} (hd:Dg bs) (a:Nat) {k:Nat} (h:k≤4):numB bs a k < 4294967296:=by
  have h1:=znx hd a k
  have h2:256^k≤256^4:=Nat.pow_le_pow_right (by decide) h
  exact Nat.lt_of_lt_of_le h1 h2
structure TyV where
  inn:Int
  out:Int
  most:Int
instance:Inhabited TyV:=⟨⟨0,0,0⟩⟩
def TyV.cells (t:TyV):List Value:=[.int .i64 t.inn,.int .i64 t.out,.int .i64 t.most]
theorem TyV.cells_length (t:TyV):t.cells.length=3:=rfl
theorem TyV.cells_one (t:TyV):∀ u∈t.cells,u.oneCell'=true:=by
  intro u hu
  simp only [TyV.cells,List.mem_cons,List.not_mem_nil,or_false] at hu
  rcases hu with rfl | rfl | rfl<;>rfl
structure TyV.fits (t:TyV) (first:Bool):Prop where
  i0:0≤t.inn
  i1:t.inn≤127
  i2:first=true→t.inn=0
  o0:0≤t.out
  o1:t.out≤128
  o2:first=true→t.out=128
  m0:0≤t.most
  m1:t.most≤1023
structure CtV where
  types:List TyV
  codes:List (List Nat)
  subs:List (List Nat)
  data:List Nat
  size:Int
instance:Inhabited CtV:=⟨⟨[],[],[],[],0⟩⟩
section
variable (bs:List Nat)
def fourH:Nat:=numB bs 4 2
def nH:Nat:=numB bs 7 2
def cLen (i:Nat):Nat:=numB bs (9+i*2) 2
def at1H:Nat:=9+nH bs*2
def kindH:Nat:=numB bs (at1H bs) 1
def mH:Nat:=if kindH bs=3 then numB bs (at1H bs+1) 2 else 0
def sLen (i:Nat):Nat:=numB bs (at1H bs+3+i*4) 4
def at2H:Nat:=if kindH bs=3 then at1H bs+4+mH bs*4 else at1H bs+1
def sizeH:Nat:=numB bs (at2H bs) 2
def endH:Nat:=at2H bs+3
def codesH:List Nat:=(List.range (nH bs)).map (cLen bs)
def subsH:List Nat:=(List.range (mH bs)).map (sLen bs)
def headH:Nat:=endH bs+nH bs*4+(codesH bs).sum+(subsH bs).sum
def tyH (i:Nat):TyV:=⟨(numB bs (endH bs+i*4) 1:Nat),(numB bs (endH bs+i*4+1) 1:Nat),(numB bs (endH bs+i*4+2) 2:Nat)⟩
def cutH:Nat→List Nat→List (List Nat)
  | _,[]=>[]
  | a,n::ns=>(bs.drop a).take n::cutH (a+n) ns
def contH:CtV:=⟨(List.range (nH bs)).map (tyH bs),cutH bs (endH bs+nH bs*4) (codesH bs),cutH bs (endH bs+nH bs*4+(codesH bs).sum) (subsH bs),bs.drop (headH bs),(sizeH bs:Nat)⟩
structure OkP (op:Bool):Prop where
  m0:numB bs 0 1=239
  m1:numB bs 1 1=0
  m2:numB bs 2 1=1
  m3:numB bs 3 1=1
  f0:0 < fourH bs
  f4:fourH bs%4=0
  f1:fourH bs≤4096
  two:numB bs 6 1=2
  nn:nH bs*4=fourH bs
  cl:∀ i,i < nH bs→0 < cLen bs i
  kd:kindH bs=3∨kindH bs=255
  sb:kindH bs=3→0 < mH bs∧mH bs≤256∧(∀ i,i < mH bs→0 < sLen bs i)∧numB bs (at1H bs+3+mH bs*4) 1=255
  ez:numB bs (at2H bs+2) 1=0
  hl:headH bs≤bs.length
  dl:op=false→headH bs+sizeH bs≤bs.length
  du:bs.length≤headH bs+sizeH bs
  ty:∀ i,i < nH bs→(tyH bs i).fits (decide (i=0))
end
theorem zeE (bs:List Nat):∀ (a:Nat) (ns:List Nat),(cutH bs a ns).length=ns.length
  | _,[]=>rfl
  | a,n::ns=>by simp [cutH,zeE bs (a+n) ns]
theorem zjt (bs:List Nat):∀ (a:Nat) (ns:List Nat) (n:Nat),cutH bs a (ns++[n])=cutH bs a ns++[(bs.drop (a+ns.sum)).take n]
  | a,[],n=>by simp [cutH]
  | a,m::ns,n=>by simp [cutH,zjt bs (a+m) ns n,Nat.add_assoc]
theorem zsT (bs:List Nat):at1H bs+4≤endH bs:=by unfold endH at2H;split<;>omega
theorem zjD (ns:List Nat) (k:Nat):(ns.take k).sum≤ns.sum:=by
  conv=>rhs;rw [← List.take_append_drop k ns,List.sum_append]
  omega
theorem zeI {ns:List Nat} {k:Nat} (h:k < ns.length):(ns.take (k+1)).sum=(ns.take k).sum+ns.getD k 0:=by
  rw [List.take_add_one,List.getElem?_eq_getElem h,List.getD_eq_getElem?_getD,List.getElem?_eq_getElem h,List.sum_append];simp
structure CtV.Fine (c:CtV):Prop where
  c0:0 < c.codes.length
  c1:c.codes.length≤1024
  tl:c.types.length=c.codes.length
  cs:∀ p∈c.codes,0 < p.length∧p.length≤65535
  s1:c.subs.length≤256
  ss:∀ p∈c.subs,0 < p.length∧p.length≤4294967295
  sz:c.size≤65535
  dz:(c.data.length:Int)≤c.size
  ty:∀ i,i < c.types.length→(c.types.getD i default).fits (decide (i=0))
end Go.Fw
namespace Go.Fw
open Go
def s16 (n:Nat):Int:=if n < 32768 then (n:Int) else (n:Int) - 65536
def leadsF:List Nat→Int→List Int
  | a::b::r,nx=>(nx+s16 (a*256+b))::leadsF r nx
  | _,_=>[]
def leadsV (v:InV):List Int:=if v.code=226 then leadsF (v.imm.drop 1) v.next else if v.code=224∨v.code=225 then leadsF v.imm v.next else []
def needsV (v:InV):Int×Int:=
  if v.code=230∨v.code=231 then ((findV v.code).inn+(v.imm.getD 0 0:Nat),(findV v.code).out+(v.imm.getD 0 0:Nat))
  else if v.code=232 then ((findV v.code).inn+((v.imm.getD 0 0 / 16+v.imm.getD 0 0%16:Nat):Int),(findV v.code).out+((v.imm.getD 0 0 / 16+v.imm.getD 0 0%16:Nat):Int))
  else ((findV v.code).inn,(findV v.code).out)
def calleeV (types:List TyV) (v:InV):TyV:=types.getD (namedP v).1 default
def turnsV (types:List TyV) (own:TyV) (v:InV):Int×Int:=
  if v.code=227 then ((calleeV types v).inn,(calleeV types v).out) else if v.code=229 then ((calleeV types v).inn,0) else if v.code=228 then (own.out,0) else needsV v
def onV (h d:Int×Int):Int×Int:=(h.1 - d.1+d.2,h.2 - d.1+d.2)
def wrongV (types:List TyV) (own:TyV) (v:InV) (h:Int×Int):Int:=
  if v.code=228 then (if h≠(own.out,own.out) then 74 else 0)
  else if h.1 < (turnsV types own v).1 then 70
  else if (v.code=227∨v.code=229)∧h.2 - (turnsV types own v).1+(calleeV types v).most > 1024 then 71
  else if v.code=229 then (if (calleeV types v).out≠128∧h≠(own.out - (calleeV types v).out+(calleeV types v).inn,own.out - (calleeV types v).out+(calleeV types v).inn) then 74 else 0)
  else if h.2 - (turnsV types own v).1+(turnsV types own v).2 > 1023 then 71 else 0
def goesV (types:List TyV) (own:TyV) (v:InV):Prop:=
  (v.code=228→own.out≠128)∧
  (v.code=227∨v.code=229→(namedP v).1 < types.length∧
    (v.code=227→(calleeV types v).out≠128)∧(v.code=229→(calleeV types v).out≠128→own.out≠128∧(calleeV types v).out≤own.out))
abbrev HSt:=List (Int×Int)×List Bool
def passV (n:Nat) (st:HSt) (to:Nat) (g:Int×Int):Bool×HSt:=
  if to≤n then (decide (st.1.getD to (0,0)=g),st)
  else if st.2.getD to false=false then (true,st.1.set to g,st.2.set to true)
  else (true,st.1.set to (min (st.1.getD to (0,0)).1 g.1,max (st.1.getD to (0,0)).2 g.2),st.2)
def placeV (vs:List InV) (t:Int):Nat:=(vs.findIdx? fun v=>decide ((v.at_:Int)=t)).getD 0
def jumpsV (vs:List InV) (n:Nat) (g:Int×Int):List Int→HSt→Option HSt
  | [],st=>some st
  | t::ts,st=>if (passV n st (placeV vs t) g).1=true then jumpsV vs n g ts (passV n st (placeV vs t) g).2 else none
def stepV (types:List TyV) (own:TyV) (vs:List InV) (n:Nat) (st:HSt):Option HSt:=
  let v:=vs.getD n default
  let h:=st.1.getD n (0,0)
  if st.2.getD n false=true∧wrongV types own v h=0 then
    let g:=onV h (turnsV types own v)
    jumpsV vs n g (leadsV v) (if (findV v.code).ends=true then st else (passV n st (n+1) g).2)
  else none
def initV (own:TyV) (m:Nat):HSt:=((List.replicate m (0,0)).set 0 (own.inn,own.inn),(List.replicate m false).set 0 true)
def runV (types:List TyV) (own:TyV) (vs:List InV):Nat→Option HSt
  | 0=>some (initV own vs.length)
  | n+1=>(runV types own vs n).bind (stepV types own vs n)
def TyV.mid (t:TyV):Prop:=0≤t.inn∧t.inn≤127∧0≤t.out∧t.out≤128∧0≤t.most∧t.most≤1023
def leadOk (starts:List Bool) (v:InV):Prop:=∀ t∈leadsV v,0≤t∧t < starts.length∧starts.getD t.toNat false=true
def checkV (bs:List Nat):Prop:=scanE bs=0∧∀ v∈insA bs 0,leadOk (startsV bs.length (insA bs 0)) v
def rightV (types:List TyV) (s:Nat) (bs:List Nat):Prop:=
  s < types.length∧(∀ t∈types,t.mid)∧checkV bs∧∀ v∈insA bs 0,goesV types (types.getD s default) v
def heightsV (types:List TyV) (s:Nat) (bs:List Nat):Option (List (Int×Int)):=(runV types (types.getD s default) (insA bs 0) (insA bs 0).length).map (·.1)
def mostF:List (Int×Int)→Int→Int
  | [],n=>n
  | h::hs,n=>mostF hs (if h.2 > n then h.2 else n)
def mostV:List (Int×Int)→Int
  | []=>0
  | h::hs=>mostF hs h.2
end Go.Fw
namespace Go.Fw
open Go
section
variable {P:Program} {ops:Array Oper} {F:Act→World→Prop} {w0 w w':World} {M:List Nat} {N:Nf} {L:List (Oper×K)} {σ:List (Nat×Value)} {l lS:List (Nat×Ent)} {k:K}
  {d:Option Tmp} {ty t:TypeId} {p:String} {af:Array Edge} {x y:Operand} {n:Nat} {B:List (Option Nat)} {v:Value}
theorem J.bZ {f:FuncId} (hf:FnOk P f) {xs:Array Operand} {tys:Array TypeId} {args:List Value} (hx:evs σ xs.toList=some args) (hd:okd N d) {ι:Type} (φ:ι→Prop) (vf:ι→Value) (M':List Nat) (lf:ι→List (Nat×Ent))
    (spec:∀ w,WS w0 M l w→Calls P f args.toArray w (endsIn N.pn fun v w'=>∃ i,φ i∧v=vf i∧WS w M' (lf i) w'))
    (hM:∀ i,φ i→∀ g∈M',∃ k e e2,lk l k=some e∧e.id=some g∧lk (lf i) k=some e2)
    (hh:∀ i k e,lk (lf i) k=some e→lk lS k=none)
    (hJ:∀ i,φ i→J P ops F w0 M N lS L (putd d (vf i) σ) (lf i++l)):
    J P ops F w0 M N lS ((⟨d,.call ⟨.value (.func f),xs,tys⟩,ty,p,af,none⟩,.l)::L) σ l:=
  J.aR rfl hd φ vf (fun i=>lf i++l) (fun i _ hs=>hs.freshs (hh i)) (fun a ha w hw=>by
    rw [zdV hf ha hx w]
    exact (spec w hw).mono fun e w' he=>zbL (fun v w' ⟨i,hi,he,h2⟩=>⟨i,hi,he,hw.join h2 (hM i hi)⟩) he) hJ
theorem J.bn (h:Nat) {g:Nat} {cs cs':List Value} {f:FuncId} {xs:Array Operand} {tys:Array TypeId} {args:List Value} (hl:lk l h=some ⟨some g,t,cs⟩) (hh:lk lS h=none) (hf:FnOk P f) (hx:evs σ xs.toList=some args) (hd:okd N d) {A:Prop}
    (spec:∀ w,WS w0 M l w→Calls P f args.toArray w (endsIn N.pn fun u w'=>A∧u=v∧WS w [g] [(0,⟨some g,t,cs'⟩)] w'))
    (hJ:A→J P ops F w0 M N lS L (putd d v σ) ((h,⟨some g,t,cs'⟩)::l)):
    J P ops F w0 M N lS ((⟨d,.call ⟨.value (.func f),xs,tys⟩,ty,p,af,none⟩,.l)::L) σ l:=
  J.bZ hf hx hd (ι:=Unit) (fun _=>A) (fun _=>v) [g] (fun _=>[(h,⟨some g,t,cs'⟩)]) (fun w hw=>(spec w hw).mono fun e w' he=>zbL (fun u w' ⟨ha,he,h2⟩=>⟨(),ha,he,h2.only 0 h rfl⟩) he)
    (fun _ _ q hq=>by
      simp at hq;subst hq
      exact ⟨h,_,⟨some q,t,cs'⟩,hl,rfl,by simp [lk]⟩)
    (fun i j e he=>by
      rw [zae] at he
      split at he
      · rename_i hk;subst hk;exact hh
      · simp [lk] at he) (fun _ ha=>hJ ha)
theorem J.bo {f:FuncId} {xs:Array Operand} {tys:Array TypeId} {args:List Value} (hf:FnOk P f) (hx:evs σ xs.toList=some args) (hd:okd N d) {A:Prop}
    (spec:∀ w,WS w0 M l w→Calls P f args.toArray w (endsIn N.pn fun u w'=>A∧u=v∧WS w [] [] w'))
    (hJ:A→J P ops F w0 M N lS L (putd d v σ) l):
    J P ops F w0 M N lS ((⟨d,.call ⟨.value (.func f),xs,tys⟩,ty,p,af,none⟩,.l)::L) σ l:=
  J.bZ hf hx hd (ι:=Unit) (fun _=>A) (fun _=>v) [] (fun _=>[]) (fun w hw=>(spec w hw).mono fun e w' he=>zbL (fun u w' ⟨ha,he,h2⟩=>⟨(),ha,he,h2⟩) he)
    (fun _ _ q hq=>by cases hq) (fun i j e he=>by simp [lk] at he) (fun _ ha=>hJ ha)
def ConT (P:Program) (t:TypeId):Prop:=∃ d,P.underlying t=some d∧(match d with | .interface _=>False | _=>True)
theorem J.bC (ht:ConT P t) (hx:ev σ x=some v) (hd:okd N d) (h:J P ops F w0 M N lS L (putd d (.iface t v) σ) l):J P ops F w0 M N lS ((⟨d,.makeInterface t x,ty,p,af,none⟩,k)::L) σ l:=
  J.aC rfl hd _ (fun a ha w=>by
    obtain ⟨dd,h1,h2⟩:=ht
    simp only [execOp,ha.eval hx,Instr.makeInterface,Sem.run_bind,run_underlying h1,Result.andThen_ok]
    cases dd<;>first | (exact h2.elim) | simp) h
theorem J.bY (hx:ev σ x=some (.iface t v)) (h:∀ w,WS w0 M l w→N.pn [{ v:=.iface t v,recovered:=false }] w):J P ops F w0 M N lS ((⟨d,.panic x,ty,p,af,none⟩,.l)::L) σ l:=fun hlS a ha=>
  stepW.yes rfl (fun w hw=>by
    show loudUpon P N.pn _ ((execOp a.eval ⟨d,.panic x,ty,p,af,none⟩).run P w)
    have:(execOp a.eval ⟨d,.panic x,ty,p,af,none⟩).run P w=.halt (.panic (.iface t v)) w:=by
      simp [execOp,ha.eval hx,Instr.panic,goPanic,Sem.run]
    rw [this];exact h w hw)
end
structure ByR where
  b:List Nat
  A:Option Addr
  cap:Nat
instance:Inhabited ByR:=⟨⟨[],none,0⟩⟩
def ByR.cells (x:ByR):List Value:=[.slice x.A x.b.length x.cap]
theorem ByR.cells_length (x:ByR):x.cells.length=1:=rfl
theorem ByR.cells_one (x:ByR):∀ u∈x.cells,u.oneCell'=true:=by
  intro u hu
  rw [List.mem_singleton.1 hu];rfl
def rowBy (xs:List ByR):List Value:=xs.flatMap ByR.cells
theorem zcy (xs:List ByR):(rowBy xs).length=xs.length*1:=zaF ByR.cells_length xs
theorem ziV (xs ys:List ByR):rowBy (xs++ys)=rowBy xs++rowBy ys:=List.flatMap_append
theorem zmh (xs:List ByR) (x:ByR):rowBy (xs++[x])=rowBy xs++x.cells:=by rw [ziV];simp [rowBy]
theorem zgt (xs:List ByR) (i:Nat) (h:i < xs.length):(rowBy xs)[i]?=some (.slice (xs.getD i default).A (xs.getD i default).b.length (xs.getD i default).cap):=by
  have:=zcF ByR.cells_length xs i 0 h (by decide)
  rw [Nat.mul_one,Nat.add_zero] at this
  exact this
structure ByR.Ok (W:World) (n:Nat) (B:List (Option Nat)) (x:ByR):Prop where
  dg:Dg x.b
  ln:x.b.length≤x.cap
  fi:Fit W n B x.A (rowN .u8 x.b)
theorem ByR.Ok.keep {W w:World} {n:Nat} {B B':List (Option Nat)} {x:ByR} (h:x.Ok W n B) (k:Keep W n B w B'):x.Ok w n B':=⟨h.dg,h.ln,k _ _ h.fi⟩
def AllBy (W:World) (n:Nat) (B:List (Option Nat)) (xs:List ByR):Prop:=∀ x∈xs,x.Ok W n B
theorem AllBy.keep {W w:World} {n:Nat} {B B':List (Option Nat)} {xs:List ByR} (h:AllBy W n B xs) (k:Keep W n B w B'):AllBy w n B' xs:=fun x hx=>(h x hx).keep k
theorem AllBy.nil {W:World} {n:Nat} {B:List (Option Nat)}:AllBy W n B []:=fun x hx=>by cases hx
theorem AllBy.snoc {W:World} {n:Nat} {B:List (Option Nat)} {xs:List ByR} {x:ByR} (h:AllBy W n B xs) (hx:x.Ok W n B):AllBy W n B (xs++[x]):=fun y hy=>by
  rcases List.mem_append.1 hy with q | q
  · exact h y q
  · rw [List.mem_singleton.1 q];exact hx
theorem zaE {α:Type} [Inhabited α] {xs:List α} {i:Nat} (h:i < xs.length):xs.getD i default∈xs:=by
  rw [List.getD_eq_getElem?_getD,List.getElem?_eq_getElem h];exact List.getElem_mem h
def rowTy (xs:List TyV):List Value:=xs.flatMap TyV.cells
theorem zdI (xs:List TyV):(rowTy xs).length=xs.length*3:=zaF TyV.cells_length xs
theorem ziS (xs ys:List TyV):rowTy (xs++ys)=rowTy xs++rowTy ys:=List.flatMap_append
theorem zme (xs:List TyV) (x:TyV):rowTy (xs++[x])=rowTy xs++x.cells:=by rw [ziS];simp [rowTy]
theorem zbS (xs:List TyV) (i:Nat) (h:i < xs.length):((rowTy xs).drop (i*3)).take 3=(xs.getD i default).cells:=zcC TyV.cells_length xs i h
theorem zhv (xs:List TyV) (i o:Nat) (h:i < xs.length) (ho:o < 3):(rowTy xs)[i*3+o]?=(xs.getD i default).cells[o]?:=zcF TyV.cells_length xs i o h ho
structure CtR where
  types:List TyV
  codes:List ByR
  subs:List ByR
  data:List Nat
  size:Int
  tA:Option Addr
  tC:Nat
  cA:Option Addr
  cC:Nat
  sA:Option Addr
  sC:Nat
  dA:Option Addr
  dC:Nat
instance:Inhabited CtR:=⟨⟨[],[],[],[],0,none,0,none,0,none,0,none,0⟩⟩
def CtR.cells (c:CtR):List Value:=[.slice c.tA c.types.length c.tC,.slice c.cA c.codes.length c.cC,.slice c.sA c.subs.length c.sC,.slice c.dA c.data.length c.dC,.int .i64 c.size]
theorem CtR.cells_one (c:CtR):∀ u∈c.cells,u.oneCell'=true:=by
  intro u hu
  simp only [CtR.cells,List.mem_cons,List.not_mem_nil,or_false] at hu
  rcases hu with rfl | rfl | rfl | rfl | rfl<;>rfl
def CtR.none:CtR:=default
def CtR.v (c:CtR):CtV:=⟨c.types,c.codes.map ByR.b,c.subs.map ByR.b,c.data,c.size⟩
structure CtR.Ok (W:World) (n:Nat) (B:List (Option Nat)) (c:CtR):Prop where
  ft:Fit W n B c.tA (rowTy c.types)
  fc:Fit W n B c.cA (rowBy c.codes)
  fs:Fit W n B c.sA (rowBy c.subs)
  fd:Fit W n B c.dA (rowN .u8 c.data)
  ac:AllBy W n B c.codes
  as_:AllBy W n B c.subs
theorem CtR.Ok.keep {W w:World} {n:Nat} {B B':List (Option Nat)} {c:CtR} (h:c.Ok W n B) (k:Keep W n B w B'):c.Ok w n B':=⟨k _ _ h.ft,k _ _ h.fc,k _ _ h.fs,k _ _ h.fd,h.ac.keep k,h.as_.keep k⟩
theorem CtR.none_ok {W:World} {n:Nat} {B:List (Option Nat)}:CtR.none.Ok W n B:=⟨Fit.nil,Fit.nil,Fit.nil,Fit.nil,AllBy.nil,AllBy.nil⟩
structure RjR where
  code:Int
  path:List Int
  section_:Int
  at_:Int
  A:Option Addr
  cap:Nat
instance:Inhabited RjR:=⟨⟨0,[],0,0,none,0⟩⟩
def RjR.cells (x:RjR):List Value:=[.int .i64 x.code,.slice x.A x.path.length x.cap,.int .i64 x.section_,.int .i64 x.at_]
theorem RjR.cells_one (x:RjR):∀ u∈x.cells,u.oneCell'=true:=by
  intro u hu
  simp only [RjR.cells,List.mem_cons,List.not_mem_nil,or_false] at hu
  rcases hu with rfl | rfl | rfl | rfl<;>rfl
structure RjR.Ok (W:World) (n:Nat) (B:List (Option Nat)) (x:RjR):Prop where
  ln:x.path.length≤1000000
  fi:Fit W n B x.A (rowI .i64 x.path)
theorem RjR.Ok.keep {W w:World} {n:Nat} {B B':List (Option Nat)} {x:RjR} (h:x.Ok W n B) (k:Keep W n B w B'):x.Ok w n B':=⟨h.ln,k _ _ h.fi⟩
def RjR.of (code at_:Int):RjR:=⟨code,[],0,at_,none,0⟩
theorem RjR.of_ok {W:World} {n:Nat} {B:List (Option Nat)} (c s a:Int):(RjR.mk c [] s a none 0).Ok W n B:=⟨Nat.zero_le _,fun i x hx=>by simp [rowI] at hx⟩
def Wrong (tw:TypeId) (ch:List PanicEntry):Prop:=∃ code at_:Int,code≠0∧ch=[{ v:=.iface tw (.agg [.int .i64 code,.int .i64 at_].toArray),recovered:=false }]
def rdC (A:Option Addr) (n c:Nat) (at_:Nat):List Value:=[.slice A n c,.int .i64 ((at_:Nat):Int)]
def Gave (tw:TypeId) (A:Prop) (w:World) (g:Nat) (ch:List PanicEntry) (w':World):Prop:=Wrong tw ch∧¬ A∧WS w [g] [] w'
theorem zbd {pn pn':List PanicEntry→World→Prop} {R:Value→World→Prop} {e:Ending} {w:World} (he:endsIn pn R e w) (h:∀ ch w,pn ch w→pn' ch w):endsIn pn' R e w:=by
  cases e with
  | returned v=>exact he
  | panicked ch=>exact h _ _ he
  | outgrown=>exact he
theorem WS.gave {w0 w w':World} {M:List Nat} {l lr:List (Nat×Ent)} {g:Nat} (hw:WS w0 M l w) (h:WS w [g] [] w') (k:Nat) {e:Ent} (hl:lk l k=some e) (hid:e.id=some g) (hs:Sub lr l) (hr:∀ j e',lk lr j=some e'→j≠k):WS w0 M lr w':=by
  have:=hw.joinF h (fun q hq=>by rw [List.mem_singleton.1 hq];exact ⟨k,e,hl,hid⟩) hs (fun j e' q he hq hm=>by
    rw [List.mem_singleton.1 hm] at hq
    exact hw.apart j k e' e g (hs _ _ he) hl (hr j e' he) hq hid)
  exact this
theorem orB (a b:Nat) (ha:a < 1099511627776) (hb:b < 256):bits .or .i64 ((a*256:Nat):Int) ((b:Nat):Int)=((a*256+b:Nat):Int):=by
  show IntKind.i64.wrap ((BitVec.ofInt 64 ((a*256:Nat):Int) ||| BitVec.ofInt 64 ((b:Nat):Int)).toNat:Int)=_
  rw [BitVec.toNat_or,ofInt_u64 (a*256) (by omega),ofInt_u64 b (by omega)]
  have:a*256 ||| b=a*256+b:=by
    have h:=Nat.shiftLeft_add_eq_or_of_lt (show b < 2^8 by omega) a
    rw [Nat.shiftLeft_eq] at h
    exact h.symm
  rw [this]
  exact zai _ (by omega)
end Go.Fw
namespace Go.Fw
open Go
def fitK (k:Nat) (first:Bool) (v:Int):Bool:=
  if k=0 then decide (0≤v) && decide (v≤127) && (!first || decide (v=0))
  else if k=1 then decide (0≤v) && decide (v≤128) && (!first || decide (v=128))
  else decide (0≤v) && decide (v≤1023)
def TyV.field (t:TyV) (k:Nat):Int:=if k=0 then t.inn else if k=1 then t.out else t.most
theorem zdn (t:TyV) (first:Bool):t.fits first↔∀ k,k < 3→fitK k first (t.field k)=true:=by
  constructor
  · intro h k hk
    have:k=0∨k=1∨k=2:=by omega
    rcases this with rfl | rfl | rfl
    · simp only [fitK,TyV.field,if_true,Bool.and_eq_true,decide_eq_true_eq,Bool.or_eq_true,Bool.not_eq_true']
      refine ⟨⟨h.i0,h.i1⟩,?_⟩
      cases first
      · exact .inl rfl
      · exact .inr (h.i2 rfl)
    · simp only [fitK,TyV.field,if_true,Bool.and_eq_true,decide_eq_true_eq,Bool.or_eq_true,Bool.not_eq_true',show ¬ (1:Nat)=0 by decide,if_false]
      refine ⟨⟨h.o0,h.o1⟩,?_⟩
      cases first
      · exact .inl rfl
      · exact .inr (h.o2 rfl)
    · simp only [fitK,TyV.field,Bool.and_eq_true,decide_eq_true_eq,show ¬ (2:Nat)=0 by decide,show ¬ (2:Nat)=1 by decide,if_false]
      exact ⟨h.m0,h.m1⟩
  · intro h
    have h0:=h 0 (by decide)
    have h1:=h 1 (by decide)
    have h2:=h 2 (by decide)
    simp only [fitK,TyV.field,if_true,Bool.and_eq_true,decide_eq_true_eq,Bool.or_eq_true,Bool.not_eq_true',show ¬ (1:Nat)=0 by decide,show ¬ (2:Nat)=0 by decide,show ¬ (2:Nat)=1 by decide,if_false] at h0 h1 h2
    exact ⟨h0.1.1,h0.1.2,fun q=>h0.2.resolve_left (by rw [q];decide),h1.1.1,h1.1.2,fun q=>h1.2.resolve_left (by rw [q];decide),h2.1,h2.2⟩
def boundL (k:Nat):List Value:=if k=0 then [.int .i64 1,.func (.func 171) #[] #[],.func (.func 172) #[] #[]] else if k=1 then [.int .i64 1,.func (.func 173) #[] #[],.func (.func 174) #[] #[]] else [.int .i64 2,.func (.func 175) #[] #[],.func (.func 176) #[] #[]]
def boundsL:List Value:=[.int .i64 1,.func (.func 171) #[] #[],.func (.func 172) #[] #[],.int .i64 1,.func (.func 173) #[] #[],.func (.func 174) #[] #[],.int .i64 2,.func (.func 175) #[] #[],.func (.func 176) #[] #[]]
theorem zku:∀ u∈boundsL,u.oneCell'=true:=by
  intro u hu
  simp only [boundsL,List.mem_cons,List.not_mem_nil,or_false] at hu
  rcases hu with rfl | rfl | rfl | rfl | rfl | rfl | rfl | rfl | rfl<;>rfl
theorem zcg (k:Nat):∀ u∈boundL k,u.oneCell'=true:=by
  intro u hu
  unfold boundL at hu
  split at hu
  · simp only [List.mem_cons,List.not_mem_nil,or_false] at hu
    rcases hu with rfl | rfl | rfl<;>rfl
  · split at hu
    · simp only [List.mem_cons,List.not_mem_nil,or_false] at hu
      rcases hu with rfl | rfl | rfl<;>rfl
    · simp only [List.mem_cons,List.not_mem_nil,or_false] at hu
      rcases hu with rfl | rfl | rfl<;>rfl
def partsF (most:Nat):List (List Nat)→Int
  | []=>0
  | p::ps=>if p.length=0 then 56 else if most < p.length then 2 else partsF most ps
theorem zfx (most:Nat):∀ ps,partsF most ps=0↔∀ p∈ps,0 < p.length∧p.length≤most
  | []=>⟨fun _ p h=>(by cases h),fun _=>rfl⟩
  | p::ps=>by
    have ih:=zfx most ps
    unfold partsF
    split
    · exact ⟨fun h=>(by cases h),fun h=>by have:=(h p List.mem_cons_self).1;omega⟩
    · split
      · exact ⟨fun h=>(by cases h),fun h=>by have:=(h p List.mem_cons_self).2;omega⟩
      · rw [ih]
        exact ⟨fun h q hq=>by
          rcases List.mem_cons.1 hq with rfl | hq
          · omega
          · exact h q hq,fun h q hq=>h q (List.mem_cons_of_mem _ hq)⟩
theorem zib {α β:Type} [Inhabited α] [Inhabited β] (xs:List α) (f:α→β) (i:Nat) (h:i < xs.length):(xs.map f).getD i default=f (xs.getD i default):=by
  rw [List.getD_eq_getElem?_getD,List.getD_eq_getElem?_getD,List.getElem?_map,List.getElem?_eq_getElem h];rfl
theorem zjR {most:Nat} {ps:List (List Nat)} {i:Nat} (hi:i < ps.length):partsF most (ps.drop i)=if (ps.getD i default).length=0 then 56 else if most < (ps.getD i default).length then 2 else partsF most (ps.drop (i+1)):=by
  rw [List.drop_eq_getElem_cons hi,partsF,List.getD_eq_getElem?_getD,List.getElem?_eq_getElem hi];rfl
def fitsB (t:TyV) (f:Bool):Bool:=fitK 0 f t.inn && fitK 1 f t.out && fitK 2 f t.most
theorem zgN (t:TyV) (f:Bool):fitsB t f=true↔t.fits f:=by
  rw [zdn,fitsB,Bool.and_eq_true,Bool.and_eq_true]
  constructor
  · rintro ⟨⟨h0,h1⟩,h2⟩ k hk
    have:k=0∨k=1∨k=2:=by omega
    rcases this with rfl | rfl | rfl
    · exact h0
    · exact h1
    · exact h2
  · intro h
    exact ⟨⟨h 0 (by decide),h 1 (by decide)⟩,h 2 (by decide)⟩
def typesB:List TyV→Bool→Bool
  | [],_=>true
  | t::ts,f=>fitsB t f && typesB ts false
theorem zhn:∀ (ts:List TyV) (f:Bool),typesB ts f=true↔∀ i,i < ts.length→(ts.getD i default).fits (f && decide (i=0))
  | [],f=>⟨fun _ i h=>(by cases h),fun _=>rfl⟩
  | t::ts,f=>by
    rw [typesB,Bool.and_eq_true,zgN,zhn ts false]
    constructor
    · rintro ⟨h1,h2⟩ i hi
      cases i with
      | zero=>simpa using h1
      | succ i=>simpa using h2 i (by simpa using hi)
    · intro h
      refine ⟨by simpa using h 0 (by simp),fun i hi=>?_⟩
      simpa using h (i+1) (by simpa using hi)
def checkC (c:CtV):Int:=
  if c.codes.length=0∨1024 < c.codes.length then 55
  else if c.types.length≠c.codes.length then 54
  else if partsF 65535 c.codes≠0 then partsF 65535 c.codes
  else if 256 < c.subs.length then 57
  else if partsF 4294967295 c.subs≠0 then partsF 4294967295 c.subs
  else if 65535 < c.size then 2
  else if c.size < c.data.length then 1
  else if typesB c.types true=true then 0 else 59
theorem chk0 {c:CtV} (h0:(c.codes.length=0∨1024 < c.codes.length)):checkC c=55:=by unfold checkC;rw [if_pos h0]
theorem chk1 {c:CtV} (h0:¬ (c.codes.length=0∨1024 < c.codes.length)) (h1:(c.types.length≠c.codes.length)):checkC c=54:=by unfold checkC;rw [if_neg h0,if_pos h1]
theorem chk2 {c:CtV} (h0:¬ (c.codes.length=0∨1024 < c.codes.length)) (h1:¬ (c.types.length≠c.codes.length)) (h2:(partsF 65535 c.codes≠0)):checkC c=partsF 65535 c.codes:=by unfold checkC;rw [if_neg h0,if_neg h1,if_pos h2]
theorem chk3 {c:CtV} (h0:¬ (c.codes.length=0∨1024 < c.codes.length)) (h1:¬ (c.types.length≠c.codes.length)) (h2:¬ (partsF 65535 c.codes≠0)) (h3:(256 < c.subs.length)):checkC c=57:=by unfold checkC;rw [if_neg h0,if_neg h1,if_neg h2,if_pos h3]
theorem chk4 {c:CtV} (h0:¬ (c.codes.length=0∨1024 < c.codes.length)) (h1:¬ (c.types.length≠c.codes.length)) (h2:¬ (partsF 65535 c.codes≠0)) (h3:¬ (256 < c.subs.length)) (h4:(partsF 4294967295 c.subs≠0)):checkC c=partsF 4294967295 c.subs:=by unfold checkC;rw [if_neg h0,if_neg h1,if_neg h2,if_neg h3,if_pos h4]
theorem chk5 {c:CtV} (h0:¬ (c.codes.length=0∨1024 < c.codes.length)) (h1:¬ (c.types.length≠c.codes.length)) (h2:¬ (partsF 65535 c.codes≠0)) (h3:¬ (256 < c.subs.length)) (h4:¬ (partsF 4294967295 c.subs≠0)) (h5:(65535 < c.size)):checkC c=2:=by unfold checkC;rw [if_neg h0,if_neg h1,if_neg h2,if_neg h3,if_neg h4,if_pos h5]
theorem chk6 {c:CtV} (h0:¬ (c.codes.length=0∨1024 < c.codes.length)) (h1:¬ (c.types.length≠c.codes.length)) (h2:¬ (partsF 65535 c.codes≠0)) (h3:¬ (256 < c.subs.length)) (h4:¬ (partsF 4294967295 c.subs≠0)) (h5:¬ (65535 < c.size)) (h6:(c.size < c.data.length)):checkC c=1:=by unfold checkC;rw [if_neg h0,if_neg h1,if_neg h2,if_neg h3,if_neg h4,if_neg h5,if_pos h6]
theorem chk7 {c:CtV} (h0:¬ (c.codes.length=0∨1024 < c.codes.length)) (h1:¬ (c.types.length≠c.codes.length)) (h2:¬ (partsF 65535 c.codes≠0)) (h3:¬ (256 < c.subs.length)) (h4:¬ (partsF 4294967295 c.subs≠0)) (h5:¬ (65535 < c.size)) (h6:¬ (c.size < c.data.length)) (h7:(typesB c.types true=true)):checkC c=0:=by unfold checkC;rw [if_neg h0,if_neg h1,if_neg h2,if_neg h3,if_neg h4,if_neg h5,if_neg h6,if_pos h7]
theorem chk8 {c:CtV} (h0:¬ (c.codes.length=0∨1024 < c.codes.length)) (h1:¬ (c.types.length≠c.codes.length)) (h2:¬ (partsF 65535 c.codes≠0)) (h3:¬ (256 < c.subs.length)) (h4:¬ (partsF 4294967295 c.subs≠0)) (h5:¬ (65535 < c.size)) (h6:¬ (c.size < c.data.length)) (h7:¬ (typesB c.types true=true)):checkC c=59:=by unfold checkC;rw [if_neg h0,if_neg h1,if_neg h2,if_neg h3,if_neg h4,if_neg h5,if_neg h6,if_neg h7]
theorem zel (c:CtV):checkC c=0↔c.Fine:=by
  have hp:=zfx 65535 c.codes
  have hs:=zfx 4294967295 c.subs
  have ht:=zhn c.types true
  simp only [Bool.true_and] at ht
  unfold checkC
  constructor
  · intro h
    split at h;· cases h
    split at h;· cases h
    split at h;· rename_i q;exact absurd h q
    split at h;· cases h
    split at h;· rename_i q;exact absurd h q
    split at h;· cases h
    split at h;· cases h
    split at h
    · rename_i h1 h2 h3 h4 h5 h6 h7 h8
      exact ⟨by omega,by omega,Decidable.not_not.1 h2,hp.1 (Decidable.not_not.1 h3),by omega,hs.1 (Decidable.not_not.1 h5),by omega,by omega,ht.1 h8⟩
    · cases h
  · intro h
    have hc0:=h.c0
    have hc1:=h.c1
    have hs1:=h.s1
    have hsz:=h.sz
    have hdz:=h.dz
    rw [if_neg (by omega),if_neg (fun q=>q h.tl),if_neg (fun q=>q (hp.2 h.cs)),if_neg (by omega),if_neg (fun q=>q (hs.2 h.ss)),if_neg (by omega),if_neg (by omega),if_pos (ht.2 h.ty)]
theorem zcW {ts:List TyV} {i:Nat} (hi:i < ts.length) (f:Bool):typesB (ts.drop i) f=(fitsB (ts.getD i default) f && typesB (ts.drop (i+1)) false):=by
  rw [List.drop_eq_getElem_cons hi,typesB,List.getD_eq_getElem?_getD,List.getElem?_eq_getElem hi];rfl
theorem zoi {t:TyV} {f:Bool} (h:∀ m,m < 3→fitK m f (t.field m)=true):fitsB t f=true:=(zgN t f).2 ((zdn t f).2 h)
theorem ziu {t:TyV} {f:Bool} (k:Nat) (hk:k < 3) (h:¬ fitK k f (t.field k)=true):fitsB t f=false:=by
  cases hb:fitsB t f with
  | false=>rfl
  | true=>exact absurd ((zdn t f).1 ((zgN t f).1 hb) k hk) h
theorem zao {p:Nat→Prop} {k:Nat} (h:∀ m,m < k→p m) (hk:p k):∀ m,m < k+1→p m:=fun m hm=>by
  rcases Nat.lt_or_ge m k with q | q
  · exact h m q
  · rw [show m=k by omega];exact hk
end Go.Fw
namespace Go.Fw
open Go
def lensB (bs:List Nat) (a sz n:Nat):List Nat:=(List.range n).map fun j=>numB bs (a+j*sz) sz
theorem zfz (bs:List Nat) (a sz n:Nat):lensB bs a sz (n+1)=lensB bs a sz n++[numB bs (a+n*sz) sz]:=by simp [lensB,List.range_succ]
theorem zjg (bs:List Nat) (a sz n:Nat):(lensB bs a sz n).length=n:=by simp [lensB]
theorem zeY {bs:List Nat} (hd:Dg bs) (a:Nat) {sz:Nat} (hs:sz≤4):∀ n,(lensB bs a sz n).sum≤n*4294967296
  | 0=>by simp [lensB]
  | n+1=>by
    have h1:=zeY hd a hs n
    have h2:=zbZ hd (a+n*sz) hs
    rw [zfz,List.sum_append]
    simp only [List.sum_cons,List.sum_nil]
    omega
def SizesOk (bs:List Nat) (a sz n:Nat):Prop:=∀ j,j < n→a+j*sz+sz≤bs.length∧0 < numB bs (a+j*sz) sz
theorem zpj (g c0:Nat) (h:c0≤maxLen):(RowIx.mk (some g) c0 (zeros (.int .i64 0) c0)).Ok 1 0:=⟨Nat.zero_le _,h,(by
  show 0*1+(zeros _ c0).length=c0*1
  rw [zbp]
  show 0*1+c0*1=_
  omega),(fun q=>by cases q),(by
  show ∀ u∈zeros _ c0,_
  rw [zmC]
  exact zhW _ _)⟩
theorem zsa (a b:Nat):(if ((b:Nat):Int) < ((a:Nat):Int) then ((b:Nat):Int) else ((a:Nat):Int))=((min a b:Nat):Int):=by
  split<;>omega
def tyT (bs:List Nat) (a:Nat):TyV:=⟨(numB bs a 1:Nat),(numB bs (a+1) 1:Nat),(numB bs (a+2) 2:Nat)⟩
def tyP (bs:List Nat) (a k:Nat):TyV:=⟨if 0 < k then (numB bs a 1:Nat) else 0,if 1 < k then (numB bs (a+1) 1:Nat) else 0,if 2 < k then (numB bs (a+2) 2:Nat) else 0⟩
def tysB (bs:List Nat) (a n:Nat):List TyV:=(List.range n).map fun j=>tyT bs (a+j*4)
theorem zmL (bs:List Nat) (a n:Nat):tysB bs a (n+1)=tysB bs a n++[tyT bs (a+n*4)]:=by simp [tysB,List.range_succ]
theorem zcV (bs:List Nat) (a n:Nat):(tysB bs a n).length=n:=by simp [tysB]
def offK:Nat→Nat
  | 0=>0
  | 1=>1
  | 2=>2
  | _=>4
def TypesOk (bs:List Nat) (a n:Nat):Prop:=∀ j,j < n→a+j*4+4≤bs.length∧(tyT bs (a+j*4)).fits (decide (j=0))
def CtR.typed (c:CtR) (ts:List TyV) (r:RowIx):CtR:=⟨ts,c.codes,c.subs,c.data,c.size,hdOf r.id,r.cap,c.cA,c.cC,c.sA,c.sC,c.dA,c.dC⟩
theorem zmM {c:CtR} (h1:c.types=[]) (h2:c.tA=none) (h3:c.tC=0):c.typed [] RowIx.nil=c:=by
  cases c;subst h1 h2 h3;rfl
theorem cut83 {w:World} {A:Option Addr} {bs:List Nat} (h:Cs w A (rowN .u8 bs)) (a k:Nat):Cs w (if a+k=a then A else A.map (·.add (a*1))) (rowN .u8 ((bs.drop a).take k)):=by
  split
  · rename_i e
    rw [show k=0 by omega,List.take_zero]
    exact Cs.nil _ _
  · have:=(h.drop (a*1)).take k
    rwa [show ((rowN .u8 bs).drop (a*1)).take k=rowN .u8 ((bs.drop a).take k) by simp [rowN,List.map_drop,List.map_take]] at this
theorem ziW {bs:List Nat} {a k:Nat} (h:a+k≤bs.length):((bs.drop a).take k).length=k:=by
  rw [List.length_take,List.length_drop];omega
theorem zbC {w0 w:World} {M:List Nat} {l:List (Nat×Ent)} {n:Nat} {B:List (Option Nat)} {r:RowIx} {t:TypeId} {cs:List Value} {j:Nat} (hw:WS w0 M l w) (hl:lk l j=some (r.ent t cs)) (hB:∀ g,some g∈B→(g < w0.heap.size∧g∉M)∨∃ k e,lk l k=some e∧k≠j∧e.id=some g):Fit w n B (hdOf r.id) cs:=fun i x hx=>by
  obtain ⟨ad,hA,hc⟩:=hw.rowCs hl i x hx
  refine ⟨ad,hA,hc,?_⟩
  cases hid:r.id with
  | none=>rw [hid] at hA;cases hA
  | some g=>
    rw [hid] at hA;cases hA
    have hat:=hw.live j _ hl
    simp only [Ent.At,RowIx.ent,hid] at hat
    obtain ⟨t',_,hat⟩:=hat
    refine ⟨fun q=>?_,fun _=>⟨_,_,hat⟩⟩
    rcases hB g q with hb | ⟨k,e,h1,h2,h3⟩
    · rcases hw.own j _ g hl (by simp only [RowIx.ent,hid]) with h | h
      · omega
      · exact hb.2 h
    · exact hw.apart j k _ e g hl h1 (Ne.symm h2) (by simp only [RowIx.ent,hid]) h3
theorem RowsPost.nestC {w w':World} {t:TypeId} {xs:List Nat} {e:Ending} {n:Nat} {B:List (Option Nat)} (hB:∀ g,some g∈B→g < w.heap.size) (h:RowsPost w t .u8 (fun zs=>zs=xs) e w'):∃ q:RowIx,(xs.length≤q.cap∧Fit w' n B (hdOf q.id) (rowN .u8 xs))∧e=.returned (.slice (hdOf q.id) xs.length q.cap)∧WS w [] [] w':=by
  obtain ⟨zs,rfl,r,hr,he,hw⟩:=h
  exact ⟨r,⟨hr.le,zbc hw (j:=0) rfl (fun g h=>⟨hB g h,fun q=>by cases q⟩)⟩,he,hw.sub (Sub.nil _)⟩
def GaveC (tw tc:TypeId) (A:Prop) (w:World) (g gc:Nat) (ch:List PanicEntry) (w':World):Prop:=Wrong tw ch∧¬ A∧∃ cr:CtR,WS w [g,gc] [(1,⟨some gc,tc,cr.cells⟩)] w'
theorem zle {j j0 k:Nat} {e e2:Ent} (h:lk [(j0,e)] j=some e2) (hk:Nat.beq j0 k=false):j≠k:=by
  rw [zae] at h
  split at h
  · rename_i q;subst q
    intro q;subst q;simp at hk
  · cases h
end Go.Fw
namespace Go.Fw
open Go
variable {P:Program} {w0 w:World} {M:List Nat} {l:List (Nat×Ent)} {Q:Exit→Act→World→Prop} {N:Nf} {σ:List (Nat×Value)}
section
variable {ops:Array Oper} {F:Act→World→Prop} {L:List (Oper×K)} {lS:List (Nat×Ent)} {k:K} {d:Option Tmp} {ty t:TypeId} {p:String} {af:Array Edge} {x y:Operand} {v:Value}
theorem zew (t:TypeId) (ms:Array (String×TypeId)) (t2:TypeId) (v:Value) (ht:P.underlying t=some (.interface ms)) (w:World):(Op.equal t (.iface t2 v) .nilIface).run P w=.ok false w:=by
  show (Op.equalIn (9999+1) t _ _).run P w=_
  unfold Op.equalIn
  simp [run_underlying ht]
theorem zeP (t:TypeId) (ms:Array (String×TypeId)) (ht:P.underlying t=some (.interface ms)) (w:World):(Op.equal t .nilIface .nilIface).run P w=.ok true w:=by
  show (Op.equalIn (9999+1) t _ _).run P w=_
  unfold Op.equalIn
  simp [run_underlying ht]
theorem J.cf {t' t2:TypeId} {ms:Array (String×TypeId)} (ht:P.underlying t=some (.interface ms)) (hx:ev σ x=some (.iface t2 v)) (hd:okd N d) (h:J P ops F w0 M N lS L (putd d (.bool true) σ) l):
    J P ops F w0 M N lS ((⟨d,.binOp .neq t x (.const .nilIface) t',ty,p,af,none⟩,k)::L) σ l:=
  J.aS hx rfl hd (fun w=>by
    have h0:eqGuard .neq t x (.const .nilIface) (.iface t2 v) .nilIface=Pure.pure ():=rfl
    rw [h0]
    simp only [Sem.run_bind,Sem.run_pure,Result.andThen_ok,binOp,zew t ms t2 v ht w,Bool.not_false]) h
theorem J.cy {t':TypeId} {ms:Array (String×TypeId)} (ht:P.underlying t=some (.interface ms)) (hx:ev σ x=some .nilIface) (hd:okd N d) (h:J P ops F w0 M N lS L (putd d (.bool false) σ) l):
    J P ops F w0 M N lS ((⟨d,.binOp .neq t x (.const .nilIface) t',ty,p,af,none⟩,k)::L) σ l:=
  J.aS hx rfl hd (fun w=>by
    rw [eqGuard_nil_constR]
    simp only [Sem.run_bind,Sem.run_pure,Result.andThen_ok,binOp,zeP t ms ht w,Bool.not_true]) h
theorem J.cR {xt:TypeId} (ht:ConT P t) (hx:ev σ x=some (.iface t v)) (hd:okd N d) (h:J P ops F w0 M N lS L (putd d v σ) l):
    J P ops F w0 M N lS ((⟨d,.typeAssert x xt t false,ty,p,af,none⟩,k)::L) σ l:=
  J.aC rfl hd _ (fun a ha w=>by
    obtain ⟨dd,h1,h2⟩:=ht
    simp only [execOp,ha.eval hx,Instr.typeAssert,Sem.run_bind,run_underlying h1,Result.andThen_ok]
    cases dd<;>first | (exact h2.elim) | simp) h
end
theorem zet {f:FuncId} {fn:Func} {id t4 t2:Nat} {tys:Array TypeId} {ty1 ty2:TypeId} {p1 p2:String} {af1 af2:Array Edge} {rest:Code} {args:List Value} (M:List Nat) (N:Nat) (l:List (Nat×Ent)) {R:Ending→World→Prop} {u u':FrameMode} {v:Value}
    (hf:P.funcs[f]?=some fn) (hb:fn.body=some (.seq (.region id #[⟨some t4,.call ⟨.builtin .recover,#[],tys⟩,ty1,p1,af1,none⟩,⟨some t2,.assign (.tmp t4),ty2,p2,af2,none⟩] false) rest)) (hN:fn.ntmps=N) (hle:args.length≤N) (h4:t4 < N) (h2:t2 < N)
    (hu:(u=.returning∧v=.nilIface∧u'=.returning)∨(∃ older,u=.panicking ({ v:=v,recovered:=false }::older)∧u'=.panicking ({ v:=v,recovered:=true }::older)))
    (hw:WS w M l w) (h:T P w M (Nf.of N) (bodyPost P fn R) rest ((t2,v)::(t4,v)::argσ 0 args) l):CallsD P f args.toArray u w fun e um w'=>um=u'∧R e w':=by
  refine callsD_of_wpS hf hb fun c₀ cs hu0=>wpS_seq (wpS_region ?_)
  have ha:=zeg (args:=args) (fn:=fn) (N:=Nf.of N) hN rfl hle
  have key:∀ cs2,cs2={ c₀ with mode:=u' }::cs→∀ a,Has (Nf.of N) ((t2,v)::(t4,v)::argσ 0 args) a→rest.wpS P (bodyPostS P fn c₀ cs fun e um w'=>um=u'∧R e w') a cs2 w:=fun cs2 hcs a hha=>by
    subst hcs
    refine wpS_of_wp (wp_mono (wpIn_wide.1 (h (Pq.no fun _ _ q=>q) a w hha hw)) fun e a' w' hq=>?_)
    cases e with
    | normal=>obtain ⟨h1,v,h2,h3⟩:=hq;exact ⟨h1,u',rfl,v,h2,rfl,h3⟩
    | ret=>obtain ⟨h1,v,h2,h3⟩:=hq;exact ⟨h1,u',rfl,v,h2,rfl,h3⟩
    | panic ch=>obtain ⟨h1,h3⟩:=hq;exact ⟨h1,u',rfl,rfl,h3⟩
    | outgrown=>exact ⟨u',rfl,hq⟩
    | exit id=>exact hq.elim
    | goto l=>exact hq.elim
  have hop:∀ ρ,(execOp ρ ⟨some t4,.call ⟨.builtin .recover,#[],tys⟩,ty1,p1,af1,none⟩).run P w=.ok .recover w:=fun ρ=>by
    simp [execOp,resolve,invoke,builtin]
  show wpOpsS P _ _ [0,1] _ _ _
  have hha:=ha.put h4 v
  have hha2:=hha.put h2 v
  have hev:(Act.put { tmps:=args.toArray++Array.replicate (fn.ntmps - args.toArray.size) undef,defers:=[] } (some t4) v).eval (.tmp t4)=v:=hha.eval (x:=.tmp t4) (by simp [ev,zae])
  have hassign:∀ (a:Act),a.eval (.tmp t4)=v→(execOp a.eval ⟨some t2,.assign (.tmp t4),ty2,p2,af2,none⟩).run P w=.ok (.value v) w:=fun a he=>by
    simp [execOp,he]
  have step2:∀ cs2,cs2={ c₀ with mode:=u' }::cs→wpOpsS P #[⟨some t4,.call ⟨.builtin .recover,#[],tys⟩,ty1,p1,af1,none⟩,⟨some t2,.assign (.tmp t4),ty2,p2,af2,none⟩] (Exit.thenS (rest.wpS P (bodyPostS P fn c₀ cs fun e um w'=>um=u'∧R e w')) (bodyPostS P fn c₀ cs fun e um w'=>um=u'∧R e w')) [1]
      (Act.put { tmps:=args.toArray++Array.replicate (fn.ntmps - args.toArray.size) undef,defers:=[] } (some t4) v) cs2 w:=fun cs2 hcs=>by
    have hr:=hassign _ hev
    simp only [wpOpsS,List.getElem?_toArray,List.getElem?_cons_succ,List.getElem?_cons_zero]
    rw [if_pos (by simp [Region.wanted])]
    split
    · rename_i w' hrec;rw [hr] at hrec;cases hrec
    · rw [hr]
      exact key cs2 hcs _ hha2
  simp only [wpOpsS]
  rw [show (#[(⟨some t4,.call ⟨.builtin .recover,#[],tys⟩,ty1,p1,af1,none⟩:Oper),⟨some t2,.assign (.tmp t4),ty2,p2,af2,none⟩])[0]?=some ⟨some t4,.call ⟨.builtin .recover,#[],tys⟩,ty1,p1,af1,none⟩ from rfl]
  simp only [hop]
  rw [if_pos (by simp [Region.wanted])]
  rcases hu with ⟨rfl,rfl,rfl⟩ | ⟨older,rfl,rfl⟩
  · have hr:recoverD (c₀::cs)=none:=by simp [recoverD,hu0]
    rw [hr]
    exact step2 _ (by rw [← hu0])
  · have hr:recoverD (c₀::cs)=some (v,{ c₀ with mode:=.panicking ({ v:=v,recovered:=true }::older) }::cs):=by simp [recoverD,hu0]
    rw [hr]
    exact step2 _ rfl
theorem zak {pn pn':List PanicEntry→World→Prop} {R R':Value→World→Prop} {e:Ending} {w:World} (he:endsIn pn R e w) (h:∀ ch w,pn ch w→pn' ch w) (h2:∀ v w,R v w→R' v w):endsIn pn' R' e w:=by
  cases e with
  | returned v=>exact h2 _ _ he
  | panicked ch=>exact h _ _ he
  | outgrown=>exact he
section
variable {ops:Array Oper} {F:Act→World→Prop} {L:List (Oper×K)} {lS:List (Nat×Ent)} {k:K} {d:Option Tmp} {ty t:TypeId} {p:String} {af:Array Edge} {x y:Operand} {v:Value}
theorem J.aP {f:FuncId} {L2:List Oper} (hf:FnOk P f) {xs:Array Operand} {tys:Array TypeId} {args:List Value} (hx:evs σ xs.toList=some args) (hd:okd N d) (ks:List K) (hn:L2.length=ks.length) {ι:Type} (φ:ι→Prop) (vf:ι→Value) (M':List Nat) (lf:ι→List (Nat×Ent)) (pn:List PanicEntry→World→Prop)
    (spec:∀ w,WS w0 M l w→Calls P f args.toArray w (endsIn pn fun v w'=>∃ i,φ i∧v=vf i∧WS w M' (lf i) w'))
    (hM:∀ i,φ i→∀ g∈M',∃ k e e2,lk l k=some e∧e.id=some g∧lk (lf i) k=some e2)
    (hp:∀ ch a w',Has N σ a→pn ch w'→Q (.panic ch) a w')
    (hJ:∀ i,φ i→J P ops (NQ N Q) w0 M N [] (L2.zip ks) (putd d (vf i) σ) (lf i++l)) (hro:N.ro=none:=by rfl):
    J P ops (DQ P ops N Q (⟨d,.call ⟨.value (.func f),xs,tys⟩,ty,p,af,none⟩::L2)) w0 M N lS [] σ l:=fun _ a ha w hw hq=>by
  simp only [wpListIn]
  rw [if_pos (by simp [Region.wanted])]
  refine zld (R:=fun v w'=>∃ i,φ i∧v=vf i∧WS w0 M (lf i++l) w') (fun ρ=>by rw [hro];rfl) ?_ ?_ (fun ch w' h=>hp ch a w' ha h)
  · rw [zdV hf ha hx w]
    exact (spec w hw).mono fun e w' he=>zbL (fun v w' ⟨i,hi,he,h2⟩=>⟨i,hi,he,hw.join h2 (hM i hi)⟩) he
  · rintro v w' ⟨i,hi,rfl,h2⟩
    exact J.go (lS:=[]) ks hn (hJ i hi) hro (Sub.nil _) _ (ha.putd hd (vf i)) w' h2 hq
theorem J.bN (hx:ev σ x=some (.iface t v)) (hp:∀ a w',Has N σ a→WS w0 M l w'→Q (.panic [{ v:=.iface t v,recovered:=false }]) a w') (hro:N.ro=none:=by rfl):
    J P ops (DQ P ops N Q [⟨d,.panic x,ty,p,af,none⟩]) w0 M N lS [] σ l:=fun _ a ha w hw hq=>by
  simp only [wpListIn]
  rw [if_pos (by simp [Region.wanted])]
  have hr:(execOp a.eval ⟨d,.panic x,ty,p,af,none⟩).run P w=.halt (.panic (.iface t v)) w:=by
    simp [execOp,ha.eval hx,Instr.panic]
  refine ⟨fun _ _=>trivial,?_⟩
  show Oper.uponIn _ _ _ _ _ _ _ ((Oper.semAt N.ro a.eval _).run P w)
  rw [hro,Oper.semAt_none,hr]
  exact hp a w ha hw
end
theorem zhf {fn:Func} {R:Ending→World→Prop} {r s:ResultVar} {v u x:Value} {f:FuncId} {cap:List Value} {M':List Nat} {l2:List (Nat×Ent)} {a:Act} (hr:fn.results=#[r,s]) (ha:Has N σ a) (hD:N.D=[⟨.fn (.func f) cap.toArray,#[]⟩]) (hf:FnOk P f) (hw:WS w0 M l w)
    (spec:CallsD P f cap.toArray (.panicking [{ v:=x,recovered:=false }]) w fun e um w'=>um=.panicking [{ v:=x,recovered:=true }]∧(∃ z,e=.returned z)∧WS w M' l2 w')
    (hM:∀ g∈M',∃ k e e2,lk l k=some e∧e.id=some g∧lk l2 k=some e2)
    (hv:RV P w0 M σ (l2++l) r v) (hu:RV P w0 M σ (l2++l) s u) (h:∀ w,WS w0 M (l2++l) w→R (.returned (.tuple #[v,u])) w):bodyPostD P fn R (.panic [{ v:=x,recovered:=false }]) a w:=by
  show Leaves P fn a.tmps R a.defers _ w
  rw [ha.defers,hD]
  refine leaves_cons (fun q=>by cases q) (f:=f) (args:=cap.toArray) (by simp [invoke,zaD hf]) (spec.mono ?_)
  rintro e u' w' ⟨rfl,⟨z,rfl⟩,h2⟩
  have hw2:=hw.join h2 hM
  exact ⟨_,by simp [zcf,hr,hv.run ha hw2,hu.run ha hw2],h _ hw2⟩
def ParsePn (tw tc tj:TypeId) (A:Prop) (w:World) (g4 g5:Nat) (ch:List PanicEntry) (w':World):Prop:=Wrong tw ch∧¬ A∧∃ cr:CtR,WS w [] [(4,⟨some g4,tc,cr.cells⟩),(5,⟨some g5,tj,(RjR.of 0 0).cells⟩)] w'
theorem WS.ren11 {e0 e1:Ent} (a b:Nat) (h:WS w0 M [(0,e0),(1,e1)] w) (hab:a≠b):WS w0 M [(a,e0),(b,e1)] w:=
  h.ren _ (fun j=>if j=a then 0 else 1) (fun k e he=>by
    rw [zae] at he
    split at he
    · rename_i q;subst q;cases he;simp [lk]
    · rename_i q
      rw [zae] at he
      split at he
      · rename_i q2;subst q2;cases he;rw [if_neg (fun z=>q z.symm)];simp [lk]
      · cases he) (fun k k' e e' he he' hf=>by
    have cases2:∀ k e,lk [(a,e0),(b,e1)] k=some e→k=a∨k=b:=fun k e he=>by
      rw [zae] at he
      split at he
      · rename_i q;exact .inl q.symm
      · rw [zae] at he
        split at he
        · rename_i q;exact .inr q.symm
        · cases he
    rcases cases2 k e he with rfl | rfl<;>rcases cases2 k' e' he' with rfl | rfl<;>simp_all)
theorem WS.ren111 {e0 e1 e2:Ent} (a b c:Nat) (h:WS w0 M [(0,e0),(1,e1),(60,e2)] w) (hab:a≠b) (hac:a≠c) (hbc:b≠c):WS w0 M [(a,e0),(b,e1),(c,e2)] w:=
  h.ren _ (fun j=>if j=a then 0 else if j=b then 1 else 60) (fun k e he=>by
    rw [zae] at he
    split at he
    · rename_i q;subst q;cases he;simp [lk]
    · rename_i q
      rw [zae] at he
      split at he
      · rename_i q2;subst q2;cases he;rw [if_neg (fun z=>q z.symm),if_pos rfl];simp [lk]
      · rename_i q2
        rw [zae] at he
        split at he
        · rename_i q3;subst q3;cases he;rw [if_neg (fun z=>q z.symm),if_neg (fun z=>q2 z.symm)];simp [lk]
        · cases he) (fun k k' e e' he he' hf=>by
    have cases3:∀ k e,lk [(a,e0),(b,e1),(c,e2)] k=some e→k=a∨k=b∨k=c:=fun k e he=>by
      rw [zae] at he
      split at he
      · rename_i q;exact .inl q.symm
      · rw [zae] at he
        split at he
        · rename_i q;exact .inr (.inl q.symm)
        · rw [zae] at he
          split at he
          · rename_i q;exact .inr (.inr q.symm)
          · cases he
    rcases cases3 k e he with q | q | q<;>rcases cases3 k' e' he' with q2 | q2 | q2<;>(revert hf;repeat' split)<;>(intro hf;omega))
theorem zcA {j a b k:Nat} {e e1 e2:Ent} (h:lk [(a,e),(b,e1)] j=some e2) (hk:(Nat.beq a k || Nat.beq b k)=false):j≠k:=by
  rw [Bool.or_eq_false_iff] at hk
  rw [zae] at h
  split at h
  · rename_i q;subst q
    intro q;subst q;simp at hk
  · exact zle h hk.2
theorem WS.gave2 {w':World} {g gc:Nat} {e1 e2 e3 e5:Ent} (hw:WS w0 M l w) (h:WS w [g,gc] [(1,e3)] w') (k k2:Nat) (hl:lk l k=some e1) (hid:e1.id=some g) (hl2:lk l k2=some e2) (hid2:e2.id=some gc) (h5:lk l 5=some e5) (hk:k≠5) (hk2:k2≠5):WS w0 M [(4,e3),(5,e5)] w':=by
  refine hw.joinF (lr:=[(5,e5)]) (h.only 1 4 rfl) (fun q hq=>?_) (Sub.cons h5 (Sub.nil _)) (fun j e' q he hq hm=>?_)
  · rcases List.mem_cons.1 hq with hq | hq
    · rw [hq];exact ⟨k,e1,hl,hid⟩
    · rw [List.mem_singleton.1 hq];exact ⟨k2,e2,hl2,hid2⟩
  · rw [zae] at he
    split at he
    · rename_i hj;subst hj;cases he
      rcases List.mem_cons.1 hm with hm | hm
      · rw [hm] at hq;exact hw.apart 5 k _ _ g h5 hl (Ne.symm hk) hq hid
      · rw [List.mem_singleton.1 hm] at hq;exact hw.apart 5 k2 _ _ gc h5 hl2 (Ne.symm hk2) hq hid2
    · cases he
theorem zdr {B:List (Option Nat)} {l1:List (Nat×Ent)} {j:Nat} (hB:∀ g,some g∈B→g < w0.heap.size∧g∉M) (hs:Sub l1 l) (hk:keysB l1=true) (hj:lk l1 j=none):∀ g,some g∈B++ids l1→(g < w0.heap.size∧g∉M)∨∃ k e,lk l k=some e∧k≠j∧e.id=some g:=fun g hg=>by
  rcases List.mem_append.1 hg with h | h
  · exact .inl (hB g h)
  · obtain ⟨k,e,he,hid⟩:=zcQ hk h
    exact .inr ⟨k,e,hs _ _ he,fun q=>(by rw [q,hj] at he;cases he),hid⟩
def CtR.sized (c:CtR) (s:Int):CtR:=⟨c.types,c.codes,c.subs,c.data,s,c.tA,c.tC,c.cA,c.cC,c.sA,c.sC,c.dA,c.dC⟩
def CtR.withC (c:CtR) (xs:List ByR) (r:RowIx):CtR:=⟨c.types,xs,c.subs,c.data,c.size,c.tA,c.tC,hdOf r.id,r.cap,c.sA,c.sC,c.dA,c.dC⟩
def CtR.withS (c:CtR) (xs:List ByR) (r:RowIx):CtR:=⟨c.types,c.codes,xs,c.data,c.size,c.tA,c.tC,c.cA,c.cC,hdOf r.id,r.cap,c.dA,c.dC⟩
def CtR.withD (c:CtR) (xs:List Nat) (r:RowIx):CtR:=⟨c.types,c.codes,c.subs,xs,c.size,c.tA,c.tC,c.cA,c.cC,c.sA,c.sC,hdOf r.id,r.cap⟩
theorem zqb {bs:List Nat} {xs ys:List ByR} {qt rc rs rd:RowIx} (h1:xs.map ByR.b=cutH bs (endH bs+nH bs*4) (codesH bs)) (h2:ys.map ByR.b=cutH bs (endH bs+nH bs*4+(codesH bs).sum) (subsH bs)):
    (((((CtR.none.sized ((sizeH bs:Nat):Int)).typed (tysB bs (endH bs) (nH bs)) qt).withC xs rc).withS ys rs).withD (bs.drop (headH bs)) rd).v=contH bs:=by
  show CtV.mk _ (xs.map ByR.b) (ys.map ByR.b) _ _=_
  rw [h1,h2];rfl
def ParseR (bs:List Nat) (op:Bool) (n:Nat) (B:List (Option Nat)) (w:World) (e:Ending) (w':World):Prop:=
  ∃ x:CtR×RjR,((x.2.code=0↔OkP bs op)∧(OkP bs op→x.1.v=contH bs)∧x.1.Ok w' n B∧x.2.Ok w' n B)∧e=.returned (.tuple #[.agg x.1.cells.toArray,.agg x.2.cells.toArray])∧WS w [] [] w'
theorem zde {bs:List Nat} {op:Bool} (q:OkP bs op):9+nH bs*2=at1H bs∧at1H bs+4≤endH bs∧at2H bs+3=endH bs∧endH bs+nH bs*4+(codesH bs).sum+(subsH bs).sum=headH bs∧headH bs≤bs.length∧nH bs≤1024∧numB bs 4 2=nH bs*4:=by
  have h1:=zsT bs
  have h2:=q.hl
  have h3:=q.f1
  have h4:=q.nn
  exact ⟨rfl,h1,rfl,rfl,h2,by omega,h4.symm⟩
theorem zsS {bs:List Nat} (h:kindH bs=3):at2H bs=at1H bs+4+mH bs*4:=if_pos h
theorem zuE {bs:List Nat} (h:¬ kindH bs=3):at2H bs=at1H bs+1:=if_neg h
theorem mH_3 {bs:List Nat} (h:kindH bs=3):mH bs=numB bs (at1H bs+1) 2:=if_pos h
theorem zsd {bs:List Nat} (h:¬ kindH bs=3):mH bs=0:=if_neg h
theorem zoX {bs:List Nat} (h:¬ kindH bs=3):subsH bs=[]:=by unfold subsH;rw [zsd h];rfl
theorem zhK (bs:List Nat):(codesH bs).length=nH bs:=by simp [codesH]
theorem ziK (bs:List Nat):(subsH bs).length=mH bs:=by simp [subsH]
end Go.Fw
