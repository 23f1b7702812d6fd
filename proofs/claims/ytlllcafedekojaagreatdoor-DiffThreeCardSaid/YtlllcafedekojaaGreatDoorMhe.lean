/-
  Texts that the statement stands on, one behind the other: plain lemmas and walks of functions.
  No condition.
-/
import Derived.Test.YtlllcafedekojaaGreatDoorChecked
import Derived.Test.YtlllcafedekojaaGreatDoorMha
import Derived.Test.YtlllcafedekojaaGreatDoorMhb
import Derived.Test.YtlllcafedekojaaGreatDoorMhc
import Derived.Test.YtlllcafedekojaaGreatDoorMhd
set_option linter.unusedVariables false
set_option maxRecDepth 20000
set_option maxHeartbeats 16000000
namespace Go.Fz
open Go Go.Fw Go.Proofs.Tryz
theorem ztg:ZeroT prog 51 (.slice none 0 0):=Y17
end Go.Fz
namespace Go.Proofs.YtlllcafedekojaaGreatDoor.Ve
open Go Go.Fw Go.Fz Go.Proofs.Tryz
attribute [local irreducible] J T X
theorem All (w:World) (bs:List Nat) (hl:bs.length≤1000000000000) (A:Option Addr) (c:Nat) (hA:Cs w A (rowN .u8 bs)):
    Calls prog 177 [.slice A bs.length c].toArray w fun e w'=>∃ q:Nat×Nat,(w.heap.size≤q.1∧w.heap.size≤q.2)∧e=.returned (.func (.func 199) #[] #[.pointer (some ⟨q.1,0,none⟩)])∧WS w [] [(3000,⟨some q.1,51,[.slice (some ⟨q.2,0,none⟩) bs.length bs.length]⟩),(3001,⟨some q.2,5,rowN .u8 bs⟩)] w':=by
 refine zac [] 11 [] func177 rfl ntmps177 Y20 (WS.refl _ _) <| zz 8 ?_
 refine J.al underlying51 rfl rfl <| J.aQ 6 rfl (q:=bs.length) (c0:=bs.length) underlying51 el5 rfl rfl Y192 Y192 Y5 Y5 Y28 rfl fun g6 hg6=>J.am 3 rfl ztg [.slice none 0 0] rfl rfl fun g3 hg3=>J.ae 3 rfl rfl rfl rfl [.slice (some ⟨g6,0,none⟩) bs.length bs.length] rfl sz51 Y7 Y6 Y11 trivial [.slice (some ⟨g6,0,none⟩) bs.length bs.length] rfl <| zz 4 ?_
 refine J.ag Y8k 3 rfl rfl zaw Y3 rfl <| zz 1 ?_
 refine J.cH 6 rfl (o:=0) (q:=bs.length) (news:=(rowN .u8 bs)) sl51 Y23 rfl rfl rfl (fun _=>rfl) (Nat.min_self _) Y170 (fun w hw=>(hA.ws hw (zab _))) (by first | exact zcv _ _ | exact zhV _) (by rw [Nat.zero_add,zap,zbp];exact Nat.le_of_eq (Nat.mul_one _).symm) rfl (rowN .u8 bs) (zjO _ _ (by rw [zap,zbp];exact Nat.mul_one _)) <| zz 4 ?_
 refine J.bl (vf:=[]) (vc:=[.pointer (some ⟨g3,0,none⟩)]) rfl rfl rfl <| zz 2 ?_
 refine X.mv 3 3000 rfl <| X.mv 6 3001 rfl <| zz 2 ?_
 exact X.aa rfl (RV.tmp rfl) (fun w' hw'=>⟨(g3,g6),⟨hg3,hg6⟩,rfl,hw'.sub (Sub.cons rfl (Sub.cons rfl (Sub.nil _)))⟩)
end Go.Proofs.YtlllcafedekojaaGreatDoor.Ve
namespace Go.Fz
open Go Go.Fw Go.Proofs.Tryz
theorem zqN:FnOk prog 178:=FnOk.mk' func178 Y12 rfl
theorem zfY:FldT prog 200 3 3 3 0:=⟨Y12,sz3⟩
end Go.Fz
namespace Go.Proofs.YtlllcafedekojaaGreatDoor.Vf
open Go Go.Fw Go.Fz Go.Proofs.Tryz
attribute [local irreducible] J T X
theorem Cs.same {V V':World} {A:Addr} {cs:List Value} (h:Cs V (some A) cs) (he:V'.heap[A.block]?=V.heap[A.block]?):Cs V' (some A) cs:=fun i x hx=>by
  obtain ⟨ad,hA,hc⟩:=h i x hx
  refine ⟨ad,hA,?_⟩
  cases hA
  rw [← hc]
  exact World.cell?_of_block (by rw [Addr.add_block];exact he)
def HeldAt (bs:List Nat) (g3 g6:Nat) (V:World):Prop:=Cs V (some ⟨g3,0,none⟩) [.slice (some ⟨g6,0,none⟩) bs.length bs.length]∧Cs V (some ⟨g6,0,none⟩) (rowN .u8 bs)
def InsItem (bs:List Nat) (N0:Nat) (k:Nat) (cs:List Value) (V:World) (MB:List Nat):Prop:=∃ x:InR,cs=x.cells∧x.v=(insA bs 0).getD k default∧x.Ok V 0 ((MB++List.range N0).map some)
theorem All1 (bs:List Nat) (hd:Dg bs) (hl:bs.length≤1000000000000) (g3 g6 N0:Nat):SeqSpec prog 199 [.pointer (some ⟨g3,0,none⟩)] (insA bs 0).length (InsItem bs N0) (HeldAt bs g3 g6) N0:=by
  intro b I MB0 w1 hI1 hI2 hY hI0
  refine zac [] 22 [] func199 rfl ntmps199 (by simp) (WS.refl _ _) ?_
  refine T.ay 0 (fun m a V=>∃ k at_ MB,Has (Nf.of 22) [(0,.func (.yield b) #[] #[]),(1,.pointer (some ⟨g3,0,none⟩)),(3,.int .i64 ((at_:Nat):Int))] a∧I k MB V∧at_≤bs.length∧(insA bs 0).drop k=insA bs at_∧k≤(insA bs 0).length∧m=bs.length - at_) rfl (fun _ _=>id) ?_ ?_
  · refine T.am [.l] rfl ?_
    refine J.bu rfl rfl ?_
    refine J.bE ?_
    exact X.mk fun _ a V ha hw=>⟨bs.length,0,0,MB0,ha.sub (Sub.cons rfl (Sub.cons rfl (Sub.cons rfl (Sub.nil _)))),hI1 _ _ _ _ hI0 (hw.s0),Nat.zero_le _,rfl,Nat.zero_le _,rfl⟩
  · rintro m a V ⟨k,at_,MB,ha,hI,hat,hdrop,hkle,rfl⟩ hq
    obtain ⟨hMB',hN0,hc1,hc2⟩:=hI2 k MB V hI
    have hMB:∀ g,some g∈(MB++List.range N0).map some→g < V.heap.size:=fun g hg=>by
      obtain ⟨g',h1,h2⟩:=List.mem_map.1 hg
      cases h2
      rcases List.mem_append.1 h1 with h1 | h1
      · exact hMB' g h1
      · have:=List.mem_range.1 h1;omega
    refine T.ap ha (WS.refl _ []) (fun ch a w h1 h2=>hq ch a w h1 h2) ?_
    refine T.au ?_
    refine T.am [.l,.l,.l,.l,.l,.l,.l,.l,.l] rfl ?_
    refine J.av Y8k (i:=0) hc1 (zab _) rfl zaw rfl rfl ?_
    refine J.bp rfl rfl ?_
    refine J.aw zqN rfl rfl _ _ [] Y109 rfl (fun _ _=>Sub.nil _) (fun w hw=>Vd.read w 0 (((MB++List.range N0).map some)++ids []) (zaf (l1:=[]) hMB hw Y109 rfl) bs hd hl at_ hat _ _ (Nat.le_refl _) (hc2.ws hw (zab _))) (fun i9 W9 hP9 hW9=>?_)
    obtain ⟨hv9,hx9⟩:=hP9
    have hVW9:=hW9.s0
    refine J.bp rfl rfl ?_
    refine J.bx rfl rfl rfl ?_
    refine J.bx rfl rfl rfl ?_
    refine J.am 4 rfl zch zc8 rfl rfl (fun g4 hg4=>?_)
    refine J.ae 4 rfl rfl rfl rfl (i9.cells) rfl zen (Nat.le_of_ble_eq_true rfl) (by first | exact InR.cells_one _) (Nat.zero_lt_succ _) trivial (i9.cells) rfl ?_
    refine J.bu rfl rfl ?_
    refine J.bE ?_
    refine X.aq ?_
    refine T.au ?_
    refine T.au ?_
    refine T.ah 5 [.l,.l,.l,.l,.l] _ _ rfl rfl rfl ?_
    refine J.bp rfl rfl ?_
    refine J.be rfl rfl rfl rfl ?_
    refine J.bp rfl rfl ?_
    refine J.an 14 rfl (fun hE=>?_) (fun hE=>?_)
    · refine J.no rfl rfl rfl rfl ?_
      refine J.no rfl rfl rfl rfl ?_
      refine J.go [.l,.l,.l] rfl ?_ rfl
      refine J.no rfl rfl rfl rfl ?_
      refine J.no rfl rfl rfl rfl ?_
      refine J.bQ rfl rfl rfl ?_
      refine J.bE ?_
      refine X.aq ?_
      refine T.ar rfl ?_
      refine T.aD ?_
      refine X.av (X.aD ?_)
      exact X.aI rfl (fun w' hw'=>⟨⟨_,rfl⟩,MB,(by rw [zpC hE] at hdrop;have:=List.length_eq_zero_iff.2 hdrop;rw [List.length_drop] at this;omega:k=(insA bs 0).length) ▸ hI1 k MB _ _ hI (hw'.s0)⟩)
    have hE0:readE bs at_=0:=Decidable.not_not.1 hE
    have hst:=znP hE0
    have hnx:=zbI hE0
    have hkl:k < (insA bs 0).length:=by rw [hst] at hdrop;have:=congrArg List.length hdrop;rw [List.length_drop,List.length_cons] at this;omega
    have hat2:(insA bs 0).getD k default=readV bs at_:=by rw [hst] at hdrop;rw [List.getD_eq_getElem?_getD,← Nat.add_zero k,← List.getElem?_drop,hdrop];rfl
    have hdr2:(insA bs 0).drop (k+1)=insA bs (readV bs at_).next:=by rw [← List.drop_drop,hdrop,hst];rfl
    refine J.aF rfl rfl ?_
    refine J.bp rfl rfl ?_
    refine J.aF rfl rfl ?_
    refine J.ai Y8k 4 rfl rfl zaC (i9.cells) rfl rfl rfl ?_
    refine J.cv [.l,.l] rfl rfl rfl rfl rfl rfl (ι:=Unit) (fun _ V'=>(∃ MB',I (k+1) MB' V')∧Cs V' (some ⟨g4,0,none⟩) i9.cells) (fun _=>.bool true) (fun w hw=>?_) (fun _ V' hV'=>?_) rfl
    · have hIw:=hI1 k MB _ _ hI (hw.s0)
      have hxw:=(hx9.keep (zaa (I:=[]) (B0:=((MB++List.range N0).map some)) (l1:=[(4,⟨some g4,200,(i9.cells)⟩)]) hVW9 (Nat.zero_le _) Y189 hw (by repeat (first | exact Sub.refl _ | refine zfN ?_ rfl)) Y109 rfl))
      obtain ⟨fn,tmps,assign,body,hy,hR⟩:=hY k MB i9.cells w hkl hIw ⟨i9,rfl,by rw [hat2];exact hv9,hxw.keep (Keep.less (fun o ho=>List.mem_append_left _ ho))⟩
      refine ⟨fn,tmps,assign,body,hy,hR.mono ?_⟩
      rintro e V2 ⟨rfl,hI2',hsame⟩
      have hcell:=hw.live 4 _ rfl
      exact ⟨(),rfl,hI2',Cs.same (hw.blkCs (k:=4) rfl) (hsame g4 (hcell.lt rfl) (fun q=>by have:=(hI2 k MB _ hI).1 _ q;omega) ⟨_,_,hcell.cells⟩)⟩
    obtain ⟨⟨MB',hI'⟩,hc4⟩:=hV'
    refine J.aF rfl rfl ?_
    refine J.aA rfl rfl rfl ?_
    refine J.bR rfl rfl rfl ?_
    refine J.bE ?_
    refine X.aq ?_
    refine T.aq rfl ?_
    refine T.ax ?_
    refine X.aq ?_
    refine T.au ?_
    refine T.am [.l,.l,.l] rfl ?_
    refine J.ak (ad:=⟨g4,0,none⟩) (j:=0) zfY rfl rfl ?_
    refine J.av Y8k (i:=3) hc4 (zab _) rfl one3 rfl rfl ?_
    refine J.bu rfl rfl ?_
    refine J.bE ?_
    refine X.aq ?_
    refine T.aH (X.aG fun a2 V2 ha2 hw2=>?_)
    exact ⟨bs.length - i9.v.next,by rw [hv9];omega,k+1,i9.v.next,MB',ha2.sub (Sub.cons rfl (Sub.cons rfl (Sub.cons rfl (Sub.nil _)))),hI1 _ _ _ _ hI' (hw2.s0),by rw [hv9];exact hnx.2,by rw [hv9];exact hdr2,hkl,rfl⟩
end Go.Proofs.YtlllcafedekojaaGreatDoor.Vf
namespace Go.Fz
open Go Go.Fw Go.Proofs.Tryz
theorem el4:ElT prog 4 1 1 (.bool false):=⟨Y12,rfl,Y18b,Y18b⟩
theorem zmF:ZeroT prog 160 (.slice none 0 0):=Y17
theorem zoU:SizeT prog 160 1:=Y9
theorem zoe:FnOk prog 177:=FnOk.mk' func177 Y12 rfl
theorem zoc:FnOk prog 199:=FnOk.mk' func199 Y12 rfl
theorem zcz:OneT prog 160:=⟨⟨_,underlying160,rfl⟩,Y12⟩
theorem zbh:FldT prog 200 0 3 0 0:=⟨Y12,sz3⟩
theorem sz4:SizeT prog 4 1:=Y9
theorem zcY:SlT prog 160 4 1:=⟨underlying160,sz4⟩
theorem zrs:ZeroT prog 194 (.slice none 0 0):=Y17
theorem zoN:ZeroT prog 3 (.int .i64 0):=Y17
theorem zcO:OneT prog 194:=⟨⟨_,underlying194,rfl⟩,Y12⟩
theorem zqa:ElT prog 200 4 48 (.agg (zc8).toArray):=⟨Y12,rfl,Y18b,Y18b⟩
theorem zrA:SizeT prog 194 1:=Y9
theorem zmc:SlT prog 194 200 4:=⟨underlying194,zen⟩
theorem zat:FldT prog 200 1 3 1 0:=⟨Y12,sz3⟩
theorem zlv:FldT prog 227 6 4 6 0:=⟨Y12,sz4⟩
theorem one4:OneT prog 4:=⟨⟨_,underlying4,rfl⟩,Y12⟩
end Go.Fz
namespace Go.Proofs.YtlllcafedekojaaGreatDoor.Vg
open Go Go.Fw Go.Fz Go.Proofs.Tryz
attribute [local irreducible] J T X
theorem Starts (w:World) (bs:List Nat) (hd:Dg bs) (hl:bs.length≤1000000000000) (A:Option Addr) (c:Nat) (hc:bs.length≤c) (hA:Cs w A (rowN .u8 bs)):
    Calls prog 154 [.slice A bs.length c].toArray w fun e w'=>∃ g,w.heap.size≤g∧e=.returned (.slice (some ⟨g,0,none⟩) bs.length bs.length)∧WS w [] [(7,⟨some g,4,rowT (startsV bs.length (insA bs 0))⟩)] w':=by
 refine zeF [] 16 [] func154 rfl ntmps154 Y20 (WS.refl _ _) <| zz 8 ?_
 refine J.al underlying51 rfl rfl <| J.aQ 7 rfl (q:=bs.length) (c0:=bs.length) underlying160 el4 rfl rfl Y192 Y192 Y5 Y5 Y28 rfl fun g7 hg7=>J.am 3 rfl zmF [.slice none 0 0] rfl rfl fun g3 hg3=>J.ae 3 rfl rfl rfl rfl [.slice (some ⟨g7,0,none⟩) bs.length bs.length] rfl zoU Y7 Y6 Y11 trivial [.slice (some ⟨g7,0,none⟩) bs.length bs.length] rfl <| zz 1 ?_
 refine X.ah 7 ⟨some g7,4,rowT (startsV bs.length [])⟩ rfl Y190 <| zz 5 ?_
 refine J.aL zoe rfl rfl (ι:=Nat×Nat) (fun q=>w.heap.size≤q.1∧w.heap.size≤q.2) _ [] _ (fun w hw=>(Calls.mono (Ve.All w bs hl _ _ (hA.ws hw (zab _))) fun e w2 ⟨q,⟨h1,h2⟩,h3,h4⟩=>⟨q,⟨Nat.le_trans hw.size h1,Nat.le_trans hw.size h2⟩,h3,h4⟩)) Y182 (fun _ _ _ _=>rfl) fun q9 hq9=>?_
 refine zz 3 ?_
 refine T.aw (σ':=[(0,.slice A bs.length c),(2,.slice none 0 0),(5,.slice A bs.length c),(6,.int .i64 ((bs.length:Nat):Int)),(7,.slice (some ⟨g7,0,none⟩) bs.length bs.length),(3,.pointer (some ⟨g3,0,none⟩)),(8,.slice A bs.length c),(9,.func (.func 199) #[] #[.pointer (some ⟨q9.1,0,none⟩)])]) (l':=[(7,⟨some g7,4,rowT (startsV bs.length [])⟩),(3,⟨some g3,160,[.slice (some ⟨g7,0,none⟩) bs.length bs.length]⟩),(3000,⟨some q9.1,51,[.slice (some ⟨q9.2,0,none⟩) bs.length bs.length]⟩),(3001,⟨some q9.2,5,rowN .u8 bs⟩)]) Y2 Y2 ?_
 refine T.av (fun k (kk:Nat) Bz V=>k=kk) (fun (kk:Nat)=>[(3,⟨some g3,160,[.slice (some ⟨g7,0,none⟩) bs.length bs.length]⟩),(7,⟨some g7,4,rowT (startsV bs.length ((insA bs 0).take kk))⟩),(3000,⟨some q9.1,51,[.slice (some ⟨q9.2,0,none⟩) bs.length bs.length]⟩),(3001,⟨some q9.2,5,rowN .u8 bs⟩)]) [] 0 10 4 200 rfl rfl rfl zoc Y2 (by rintro kk;rfl) (by rintro kk;rfl) (by rintro kk;rfl) rfl (fun _ _=>rfl) (fun _ _ _ _ _ _ _ h=>h) (fun k cs V V2 MB MB2 kp ⟨x,h1,h2,h3⟩=>⟨x,h1,h2,h3.keep (kp _)⟩) (fun _ V hV=>⟨(hV.blkCs (k:=3000) rfl),(hV.blkCs (k:=3001) rfl)⟩) (Vf.All1 bs hd hl _ _ _) ?_ ?_ ?_
 rintro b V k kk cs ⟨x,rfl,hxv,hxo⟩
 refine T.am (nd:=Nd.of rfl) [.l,.l] rfl <| J.am 4 rfl zch zc8 rfl rfl fun g4 hg4=>J.ae 4 rfl rfl rfl rfl (x.cells) rfl zen (Nat.le_of_ble_eq_true rfl) (by first | exact InR.cells_one _) (Nat.zero_lt_succ _) trivial (x.cells) rfl <| zz 1 ?_
 exact X.at g4 hg4 Y2 Y2
 rintro b V k kk cs g4 hVs hk hkk ⟨x,rfl,hxv,hxo⟩
 rw [hkk] at hxv hk
 have hxl:x.v.at_ < bs.length:=by rw [hxv];exact zmr hk
 refine zz 1 ?_
 refine T.am (nd:=Nd.of rfl) [.l,.l,.l,.l,.l] rfl <| J.ag Y8k 3 rfl rfl zcz Y3 rfl <| J.aa zbh rfl rfl <| J.ag Y8k 4 rfl rfl one3 Y3 rfl <| J.aB zcY rfl rfl Y5 Y5 Y8 rfl <| J.ae 7 rfl rfl rfl rfl [.bool true] rfl sz4 (by rw [zck,zaI];show _+1≤_;omega) Y6 Y11 trivial (rowT (startsV bs.length ((insA bs 0).take (kk+1)))) (by rw [zcH hk,ziL,← hxv];show put _ (0+x.v.at_*1) _=_;rw [Nat.zero_add,Nat.mul_one];exact zkR (startsV bs.length ((insA bs 0).take kk)) x.v.at_ true Y176) <| zz 2 ?_
 exact X.ar (kk+1) Y0 (fun w hw=>(congrArg (·+1) hkk))
 rintro D kk W0 hD0 hkk hVW0
 refine X.ah 7 ⟨some g7,4,rowT (startsV bs.length (insA bs 0))⟩ rfl (by rw [← hkk,List.take_length]) <| zz 4 ?_
 refine J.ag Y8k 3 rfl rfl zcz Y3 rfl <| zz 4 ?_
 refine X.ao (l1:=((3,⟨some g3,160,[.slice (some ⟨g7,0,none⟩) bs.length bs.length]⟩)::(7,⟨some g7,4,rowT (startsV bs.length (insA bs 0))⟩)::(3000,⟨some q9.1,51,[.slice (some ⟨q9.2,0,none⟩) bs.length bs.length]⟩)::(3001,⟨some q9.2,5,rowN .u8 bs⟩)::snapL W0 w.heap.size [none,some g3,some g7,some q9.1,some q9.2])) D 990000 rfl rfl hD0 Y0 Y117 ?_
 exact X.aa rfl (RV.tmp rfl) (fun w' hw'=>⟨g7,hg7,rfl,hw'.sub (Sub.cons rfl (Sub.nil _))⟩)
theorem Scan (w:World) (bs:List Nat) (hd:Dg bs) (hl:bs.length≤1000000000000) (A:Option Addr) (c:Nat) (hc:bs.length≤c) (hA:Cs w A (rowN .u8 bs)) (n:Nat) (hn:n≤w.heap.size) (B:List (Option Nat)) (hB:∀ g,some g∈B→g < w.heap.size):
    Calls prog 153 [.slice A bs.length c].toArray w fun e w'=>∃ q:List InR×Option Addr×Nat×Int,(q.1.map InR.v=(if scanE bs=0 then insA bs 0 else [])∧q.1.length≤q.2.2.1∧Fit w' n B q.2.1 (rowIn q.1)∧AllI w' n B q.1)∧e=.returned (.tuple #[.slice q.2.1 q.1.length q.2.2.1,.int .i64 (scanE bs),.int .i64 q.2.2.2])∧WS w [] [] w':=by
 refine zeF [] 55 [] func153 rfl ntmps153 Y20 (WS.refl _ _) <| zz 8 ?_
 refine T.aj 60 200 <| zz 1 ?_
 refine J.am 5 rfl zrs [.slice none 0 0] rfl rfl fun g5 hg5=>zz 1 ?_
 refine X.ah 5 ⟨some g5,194,[RowIx.nil.val ([]:List InR).length]⟩ rfl Y22 <| zz 3 ?_
 refine J.am 6 rfl zoN [.int .i64 0] rfl rfl fun g6 hg6=>J.am 7 rfl zoN [.int .i64 0] rfl rfl fun g7 hg7=>J.ae 6 rfl rfl rfl rfl [.int .i64 0] rfl sz3 Y7 Y6 Y11 trivial [.int .i64 0] rfl <| J.ae 7 rfl rfl rfl rfl [.int .i64 0] rfl sz3 Y7 Y6 Y11 trivial [.int .i64 0] rfl <| zz 6 ?_
 refine J.aL zoe rfl rfl (ι:=Nat×Nat) (fun q=>w.heap.size≤q.1∧w.heap.size≤q.2) _ [] _ (fun w hw=>(Calls.mono (Ve.All w bs hl _ _ (hA.ws hw (zab _))) fun e w2 ⟨q,⟨h1,h2⟩,h3,h4⟩=>⟨q,⟨Nat.le_trans hw.size h1,Nat.le_trans hw.size h2⟩,h3,h4⟩)) Y182 (fun _ _ _ _=>rfl) fun q14 hq14=>?_
 refine zz 3 ?_
 refine T.aw (σ':=[(0,.slice A bs.length c),(2,.slice none 0 0),(3,.int .i64 0),(4,.int .i64 0),(5,.pointer (some ⟨g5,0,none⟩)),(6,.pointer (some ⟨g6,0,none⟩)),(7,.pointer (some ⟨g7,0,none⟩)),(13,.slice A bs.length c),(14,.func (.func 199) #[] #[.pointer (some ⟨q14.1,0,none⟩)])]) (l':=[(60,⟨none,200,[]⟩),(5,⟨some g5,194,[RowIx.nil.val ([]:List InR).length]⟩),(6,⟨some g6,3,[.int .i64 0]⟩),(7,⟨some g7,3,[.int .i64 0]⟩),(3000,⟨some q14.1,51,[.slice (some ⟨q14.2,0,none⟩) bs.length bs.length]⟩),(3001,⟨some q14.2,5,rowN .u8 bs⟩)]) Y0 Y0 ?_
 refine T.av (fun k ((xs,r):List InR×RowIx) Bz V=>xs.map InR.v=(insA bs 0).take k∧xs.length=k∧r.Ok 4 xs.length∧AllI V n Bz xs) (fun (xs,r)=>[(5,⟨some g5,194,[r.val xs.length]⟩),(6,⟨some g6,3,[.int .i64 ((endN (xs.map InR.v):Nat):Int)]⟩),(7,⟨some g7,3,[.int .i64 ((lastN (xs.map InR.v):Nat):Int)]⟩),(60,r.ent 200 (rowIn xs)),(3000,⟨some q14.1,51,[.slice (some ⟨q14.2,0,none⟩) bs.length bs.length]⟩),(3001,⟨some q14.2,5,rowN .u8 bs⟩)]) B ⟨[],RowIx.nil⟩ 15 8 200 rfl rfl rfl zoc Y0 Y193 Y193 Y193 rfl (fun _ _=>⟨rfl,rfl,RowIx.nil_ok 4,AllI.nil⟩) (fun k ⟨xs,r⟩ Bz Bz2 V V2 kp h=>⟨h.1,h.2.1,h.2.2.1,h.2.2.2.keep (kp n hn)⟩) (fun k cs V V2 MB MB2 kp ⟨x,h1,h2,h3⟩=>⟨x,h1,h2,h3.keep (kp _)⟩) (fun _ V hV=>⟨(hV.blkCs (k:=3000) rfl),(hV.blkCs (k:=3001) rfl)⟩) (Vf.All1 bs hd hl _ _ _) ?_ ?_ ?_
 rintro b V k ⟨xs,r⟩ cs ⟨x,rfl,hxv,hxo⟩
 refine T.am (nd:=Nd.of rfl) [.l,.l] rfl <| J.am 8 rfl zch zc8 rfl rfl fun g8 hg8=>J.ae 8 rfl rfl rfl rfl (x.cells) rfl zen (Nat.le_of_ble_eq_true rfl) Y148 (Nat.zero_lt_succ _) trivial (x.cells) rfl <| zz 1 ?_
 exact X.at g8 hg8 Y0 Y0
 rintro b V k ⟨xs,r⟩ cs g8 hVs hk ⟨hxm,hxl,hr,hxs⟩ ⟨x,rfl,hxv,hxo⟩
 have hnV:=Nat.le_trans hn hVs
 have hkb:=zdg bs
 have hxo2:x.Ok V n (B++some g8::ids [(5,⟨some g5,194,[r.val xs.length]⟩),(6,⟨some g6,3,[.int .i64 ((endN (xs.map InR.v):Nat):Int)]⟩),(7,⟨some g7,3,[.int .i64 ((lastN (xs.map InR.v):Nat):Int)]⟩),(60,r.ent 200 (rowIn xs)),(3000,⟨some q14.1,51,[.slice (some ⟨q14.2,0,none⟩) bs.length bs.length]⟩),(3001,⟨some q14.2,5,rowN .u8 bs⟩)]):=hxo.less hB
 refine zz 2 ?_
 refine T.am (nd:=Nd.of rfl) [.l,.l,.l,.l,.l] rfl <| J.ag Y8k 5 rfl rfl zcO Y3 rfl <| J.ai Y8k 8 rfl rfl zaC (x.cells) rfl rfl rfl <| J.aD 18 rfl underlying194 zqa Y23 rfl (x.cells) rfl rfl rfl fun g18 hg18=>J.ay 60 rfl underlying194 zqa rfl hr (zcx xs) rfl rfl rfl (fun w hw=>(hw.blkCs (k:=18) rfl)) (InR.cells_one _) Y5 Y28 rfl (xs++[x]).length Y25 (rowIn (xs++[x])) (zhy _ _).symm fun r19 hr19=>J.ae 5 rfl rfl rfl rfl [r19.val (xs++[x]).length] rfl zrA Y7 Y27 Y11 trivial [r19.val (xs++[x]).length] rfl <| zz 2 ?_
 refine T.ae (nd:=Nd.of Y12) [(8,⟨some g8,200,(x.cells)⟩)] [(0,.g),(1,.q),(2,.g),(3,.s),(4,.l),(5,.l)] Y12 Y12 ?_ Y0
 refine J.aa zfY rfl rfl <| J.ag Y8k 8 rfl rfl one3 Y3 rfl <| J.aa zbh rfl rfl <| J.aJ 8 rfl rfl one3 Y3 rfl <| J.ae 6 rfl rfl rfl rfl [.int .i64 ((x.v.next:Nat):Int)] rfl sz3 Y7 Y6 Y11 trivial [.int .i64 ((x.v.next:Nat):Int)] rfl <| J.ae 7 rfl rfl rfl rfl [.int .i64 ((x.v.at_:Nat):Int)] rfl sz3 Y7 Y6 Y11 trivial [.int .i64 ((x.v.at_:Nat):Int)] rfl <| zz 2 ?_
 refine X.ah 6 ⟨some g6,3,[.int .i64 ((endN ((xs++[x]).map InR.v):Nat):Int)]⟩ rfl (by rw [List.map_append,List.map_singleton,zok]) <| X.ah 7 ⟨some g7,3,[.int .i64 ((lastN ((xs++[x]).map InR.v):Nat):Int)]⟩ rfl (by rw [List.map_append,List.map_singleton,zmo]) ?_
 exact X.ar ⟨(xs++[x]),r19⟩ Y0 (fun w hw=>⟨by rw [List.map_append,hxm,zcH hk,← hxv];rfl,by rw [List.length_append,hxl];rfl,hr19,(hxs.snoc hxo2).keep ((zad (B0:=(B++some g8::ids ([(5,⟨some g5,194,[r.val xs.length]⟩),(6,⟨some g6,3,[.int .i64 ((endN (xs.map InR.v):Nat):Int)]⟩),(7,⟨some g7,3,[.int .i64 ((lastN (xs.map InR.v):Nat):Int)]⟩),(60,r.ent 200 (rowIn xs)),(3000,⟨some q14.1,51,[.slice (some ⟨q14.2,0,none⟩) bs.length bs.length]⟩),(3001,⟨some q14.2,5,rowN .u8 bs⟩)]))) (l1:=[(8,⟨some g8,200,(x.cells)⟩),(5,⟨some g5,194,[r19.val (xs++[x]).length]⟩),(6,⟨some g6,3,[.int .i64 ((endN ((xs++[x]).map InR.v):Nat):Int)]⟩),(7,⟨some g7,3,[.int .i64 ((lastN ((xs++[x]).map InR.v):Nat):Int)]⟩),(60,r19.ent 200 (rowIn (xs++[x]))),(3000,⟨some q14.1,51,[.slice (some ⟨q14.2,0,none⟩) bs.length bs.length]⟩),(3001,⟨some q14.2,5,rowN .u8 bs⟩),(18,⟨some g18,200,(x.cells)⟩)]) hnV busyB hw Y0 rfl).le Y114)⟩)
 rintro D ⟨xs,r⟩ W0 hD0 ⟨hxm,hxl,hr,hxs⟩ hVW0
 have hxm:xs.map InR.v=insA bs 0:=by rw [hxm,List.take_length]
 have hall:∀ i,i < xs.length→(xs.getD i default).v∈insA bs 0:=fun i hi=>by rw [← hxm];exact List.mem_map.2 ⟨_,by rw [List.getD_eq_getElem?_getD,List.getElem?_eq_getElem hi];exact List.getElem_mem hi,rfl⟩
 refine X.ah 6 ⟨some g6,3,[.int .i64 ((endN (insA bs 0):Nat):Int)]⟩ rfl (by rw [hxm]) <| X.ah 7 ⟨some g7,3,[.int .i64 ((lastN (insA bs 0):Nat):Int)]⟩ rfl (by rw [hxm]) ?_
 have hel:=zgJ bs
 have hxl2:xs.length≤bs.length+1:=by rw [hxl];exact zdg bs
 refine zz 5 ?_
 refine J.ag Y8k 6 rfl rfl one3 Y3 rfl <| zz 1 ?_
 refine J.al underlying51 rfl rfl <| zz 3 ?_
 refine T.aa rfl (fun h1=>?_) (fun h1=>?_)
 refine zz 3 ?_
 refine J.ag Y8k 6 rfl rfl one3 Y3 rfl <| J.aw zqN rfl rfl _ _ [(990000,⟨none,.df D,[]⟩),(5,⟨some g5,194,[r.val xs.length]⟩),(6,⟨some g6,3,[.int .i64 ((endN (insA bs 0):Nat):Int)]⟩),(7,⟨some g7,3,[.int .i64 ((lastN (insA bs 0):Nat):Int)]⟩),(60,r.ent 200 (rowIn xs)),(3000,⟨some q14.1,51,[.slice (some ⟨q14.2,0,none⟩) bs.length bs.length]⟩),(3001,⟨some q14.2,5,rowN .u8 bs⟩)] Y0 rfl (fun _ _=>Sub.nil _) (fun w hw=>Vd.read w n (B++ids [(990000,⟨none,.df D,[]⟩),(5,⟨some g5,194,[r.val xs.length]⟩),(6,⟨some g6,3,[.int .i64 ((endN (insA bs 0):Nat):Int)]⟩),(7,⟨some g7,3,[.int .i64 ((lastN (insA bs 0):Nat):Int)]⟩),(60,r.ent 200 (rowIn xs)),(3000,⟨some q14.1,51,[.slice (some ⟨q14.2,0,none⟩) bs.length bs.length]⟩),(3001,⟨some q14.2,5,rowN .u8 bs⟩)]) (zaf (l1:=[(990000,⟨none,.df D,[]⟩),(5,⟨some g5,194,[r.val xs.length]⟩),(6,⟨some g6,3,[.int .i64 ((endN (insA bs 0):Nat):Int)]⟩),(7,⟨some g7,3,[.int .i64 ((lastN (insA bs 0):Nat):Int)]⟩),(60,r.ent 200 (rowIn xs)),(3000,⟨some q14.1,51,[.slice (some ⟨q14.2,0,none⟩) bs.length bs.length]⟩),(3001,⟨some q14.2,5,rowN .u8 bs⟩)]) hB hw Y0 rfl) bs hd hl (endN (insA bs 0)) (zgJ bs) _ _ hc (hA.ws hw (zab _))) fun i31 W31 hP31 hW31=>?_
 obtain ⟨hv31,hx31⟩:=hP31
 have kpW31:=(zaa (I:=[none,some g5,some g6,some g7,r.id,some q14.1,some q14.2]) (B0:=B) (l1:=[(990000,⟨none,.df D,[]⟩),(5,⟨some g5,194,[r.val xs.length]⟩),(6,⟨some g6,3,[.int .i64 ((endN (insA bs 0):Nat):Int)]⟩),(7,⟨some g7,3,[.int .i64 ((lastN (insA bs 0):Nat):Int)]⟩),(60,r.ent 200 (rowIn xs)),(3000,⟨some q14.1,51,[.slice (some ⟨q14.2,0,none⟩) bs.length bs.length]⟩),(3001,⟨some q14.2,5,rowN .u8 bs⟩)]) (hVW0.s0) hn Y189 hW31 Y4 Y0 rfl)
 have hxs:=hxs.keep kpW31
 have hVW31:=hW31.s0
 refine zz 3 ?_
 refine J.am 9 rfl zch zc8 rfl rfl fun g9 hg9=>J.ae 9 rfl rfl rfl rfl (i31.cells) rfl zen (Nat.le_of_ble_eq_true rfl) Y148 (Nat.zero_lt_succ _) trivial (i31.cells) rfl <| zz 4 ?_
 refine T.ae [] [(0,.g),(1,.q),(2,.g),(3,.g),(4,.g)] Y12 Y12 ?_ Y0
 refine zz 1 ?_
 refine J.ag Y8k 6 rfl rfl one3 Y3 rfl <| zz 7 ?_
 refine X.ao (l1:=((5,⟨some g5,194,[r.val xs.length]⟩)::(6,⟨some g6,3,[.int .i64 ((endN (insA bs 0):Nat):Int)]⟩)::(7,⟨some g7,3,[.int .i64 ((lastN (insA bs 0):Nat):Int)]⟩)::(60,r.ent 200 (rowIn xs))::(3000,⟨some q14.1,51,[.slice (some ⟨q14.2,0,none⟩) bs.length bs.length]⟩)::(3001,⟨some q14.2,5,rowN .u8 bs⟩)::(9,⟨some g9,200,(i31.cells)⟩)::snapL W31 w.heap.size [none,some g5,some g6,some g7,r.id,some q14.1,some q14.2])) D 990000 rfl rfl hD0 Y0 Y117 ?_
 exact X.ak rfl (RV.tmp rfl) (RV.tmp rfl) (RV.tmp rfl) (fun w' hw'=>⟨([],none,0,((endN (insA bs 0):Nat):Int)),⟨by rw [scanE,if_pos (by omega:endN (insA bs 0) < bs.length),if_neg (zgI bs)];rfl,Nat.le_refl _,Fit.nil,AllI.nil⟩,by rw [scanE,if_pos (by omega:endN (insA bs 0) < bs.length)];rfl,hw'.s0⟩)
 refine zz 5 ?_
 refine J.ag Y8k 5 rfl rfl zcO Y3 rfl <| J.al underlying194 rfl rfl <| zz 3 ?_
 refine T.aa rfl (fun h2=>?_) (fun h2=>?_)
 refine zz 9 ?_
 refine X.ao (l1:=((5,⟨some g5,194,[r.val xs.length]⟩)::(6,⟨some g6,3,[.int .i64 ((endN (insA bs 0):Nat):Int)]⟩)::(7,⟨some g7,3,[.int .i64 ((lastN (insA bs 0):Nat):Int)]⟩)::(60,r.ent 200 (rowIn xs))::(3000,⟨some q14.1,51,[.slice (some ⟨q14.2,0,none⟩) bs.length bs.length]⟩)::(3001,⟨some q14.2,5,rowN .u8 bs⟩)::snapL W0 w.heap.size [none,some g5,some g6,some g7,r.id,some q14.1,some q14.2])) D 990000 rfl rfl hD0 Y0 Y117 ?_
 exact X.ak rfl (RV.tmp rfl) (RV.tmp rfl) (RV.tmp rfl) (fun w' hw'=>⟨([],none,0,0),⟨by rw [scanE,if_neg (by omega:¬ endN (insA bs 0) < bs.length),if_pos (by rw [← hxm,List.length_eq_zero_iff.1 (by omega:xs.length=0)];rfl:insA bs 0=[]),if_neg (by decide:¬ (62:Int)=0)];rfl,Nat.le_refl _,Fit.nil,AllI.nil⟩,by rw [scanE,if_neg (by omega:¬ endN (insA bs 0) < bs.length),if_pos (by rw [← hxm,List.length_eq_zero_iff.1 (by omega:xs.length=0)];rfl:insA bs 0=[])];rfl,hw'.s0⟩)
 have hlc:lastC (insA bs 0)=(xs.getD (xs.length - 1) default).v.code:=by rw [← hxm,zji (by rw [List.length_map];omega),List.length_map,List.getD_eq_getElem?_getD,List.getElem?_map,List.getElem?_eq_getElem (by omega:xs.length - 1 < xs.length),List.getD_eq_getElem?_getD,List.getElem?_eq_getElem (by omega:xs.length - 1 < xs.length)];rfl
 have hne:insA bs 0≠[]:=by rw [← hxm];intro q;have q2:=congrArg List.length q;rw [List.length_map] at q2;exact h2 (by rw [q2];rfl)
 have hcd:=znQ hd (hall _ (by omega:xs.length - 1 < xs.length))
 refine zz 5 ?_
 refine J.ag Y8k 5 rfl rfl zcO Y3 rfl <| J.ag Y8k 5 rfl rfl zcO Y3 rfl <| J.al underlying194 rfl rfl <| J.aI rfl rfl rfl (zbt xs.length 1 Y5) <| J.bd zmc rfl (hr.some Y5) rfl Y5 Y5 Y8 rfl <| J.aa zat rfl rfl ?_
 refine J.ag Y8k 60 rfl rfl one3 (by show (rowIn xs++r.sp)[_]?=_;rw [List.getElem?_append_left Y183];exact zmf xs (xs.length - 1) 1 Y5 Y23) rfl ?_
 refine J.aj Y8k zjm rfl rfl (fun w hw=>Vc.Of w _ hcd.1 hcd.2) ?_
 refine zz 3 ?_
 refine J.am 11 rfl zbj [.int .i64 0,.string ByteArray.empty,.int .i64 0,.int .i64 0,.int .i64 0,.int .i64 0,.bool false] rfl rfl fun g11 hg11=>J.ae 11 rfl rfl rfl rfl ((findV (xs.getD (xs.length - 1) default).v.code).cells) rfl zal (Nat.le_of_ble_eq_true rfl) Y148 (Nat.zero_lt_succ _) trivial ((findV (xs.getD (xs.length - 1) default).v.code).cells) rfl <| zz 5 ?_
 refine J.aa zlv rfl rfl <| J.ag Y8k 11 rfl rfl one4 Y3 rfl <| J.as 51 (.bool (decide ((findV (xs.getD (xs.length - 1) default).v.code).ends=true))) rfl Y178 <| J.aA rfl rfl Y18 <| zz 2 ?_
 refine T.aa rfl (fun h3=>?_) (fun h3=>?_)
 refine zz 1 ?_
 refine T.ae [] [(0,.q),(1,.g),(2,.g),(3,.g)] Y12 Y12 ?_ Y0
 refine J.ag Y8k 7 rfl rfl one3 Y3 rfl <| zz 7 ?_
 refine X.ao (l1:=((5,⟨some g5,194,[r.val xs.length]⟩)::(6,⟨some g6,3,[.int .i64 ((endN (insA bs 0):Nat):Int)]⟩)::(7,⟨some g7,3,[.int .i64 ((lastN (insA bs 0):Nat):Int)]⟩)::(60,r.ent 200 (rowIn xs))::(3000,⟨some q14.1,51,[.slice (some ⟨q14.2,0,none⟩) bs.length bs.length]⟩)::(3001,⟨some q14.2,5,rowN .u8 bs⟩)::(11,⟨some g11,227,((findV (xs.getD (xs.length - 1) default).v.code).cells)⟩)::snapL W0 w.heap.size [none,some g5,some g6,some g7,r.id,some q14.1,some q14.2])) D 990000 rfl rfl hD0 Y0 Y117 ?_
 exact X.ak rfl (RV.tmp rfl) (RV.tmp rfl) (RV.tmp rfl) (fun w' hw'=>⟨([],none,0,((lastN (insA bs 0):Nat):Int)),⟨by rw [scanE,if_neg (by omega:¬ endN (insA bs 0) < bs.length),if_neg hne,hlc,if_neg (by assumption:¬ (findV (xs.getD (xs.length - 1) default).v.code).ends=true),if_neg (by decide:¬ (62:Int)=0)];rfl,Nat.le_refl _,Fit.nil,AllI.nil⟩,by rw [scanE,if_neg (by omega:¬ endN (insA bs 0) < bs.length),if_neg hne,hlc,if_neg (by assumption:¬ (findV (xs.getD (xs.length - 1) default).v.code).ends=true)];rfl,hw'.s0⟩)
 refine zz 4 ?_
 refine J.ag Y8k 5 rfl rfl zcO Y3 rfl <| zz 6 ?_
 refine X.ao (l1:=((5,⟨some g5,194,[r.val xs.length]⟩)::(6,⟨some g6,3,[.int .i64 ((endN (insA bs 0):Nat):Int)]⟩)::(7,⟨some g7,3,[.int .i64 ((lastN (insA bs 0):Nat):Int)]⟩)::(60,r.ent 200 (rowIn xs))::(3000,⟨some q14.1,51,[.slice (some ⟨q14.2,0,none⟩) bs.length bs.length]⟩)::(3001,⟨some q14.2,5,rowN .u8 bs⟩)::(11,⟨some g11,227,((findV (xs.getD (xs.length - 1) default).v.code).cells)⟩)::snapL W0 w.heap.size [none,some g5,some g6,some g7,r.id,some q14.1,some q14.2])) D 990000 rfl rfl hD0 Y0 Y117 ?_
 exact X.ak rfl (RV.tmp rfl) (RV.tmp rfl) (RV.tmp rfl) (fun w' hw'=>⟨(xs,hdOf r.id,r.cap,0),⟨by rw [scanE,if_neg (by omega:¬ endN (insA bs 0) < bs.length),if_neg hne,hlc,if_pos (Decidable.not_not.1 (by assumption:¬ ¬ (findV (xs.getD (xs.length - 1) default).v.code).ends=true)),if_pos rfl];exact hxm,hr.le,zbc hw' (j:=60) rfl (fun g h=>⟨hB g h,fun q=>by cases q⟩),(hxs.keep (zaa (I:=[none,some g5,some g6,some g7,r.id,some q14.1,some q14.2]) (B0:=B) (l1:=[(5,⟨some g5,194,[r.val xs.length]⟩),(6,⟨some g6,3,[.int .i64 ((endN (insA bs 0):Nat):Int)]⟩),(7,⟨some g7,3,[.int .i64 ((lastN (insA bs 0):Nat):Int)]⟩),(60,r.ent 200 (rowIn xs)),(3000,⟨some q14.1,51,[.slice (some ⟨q14.2,0,none⟩) bs.length bs.length]⟩),(3001,⟨some q14.2,5,rowN .u8 bs⟩),(11,⟨some g11,227,((findV (xs.getD (xs.length - 1) default).v.code).cells)⟩)]) (hVW0.s0) hn Y189 hw' Y4 Y0 rfl)).keep (Keep.less (fun o ho=>List.mem_append_left _ ho))⟩,by rw [scanE,if_neg (by omega:¬ endN (insA bs 0) < bs.length),if_neg hne,hlc,if_pos (Decidable.not_not.1 (by assumption:¬ ¬ (findV (xs.getD (xs.length - 1) default).v.code).ends=true))];rfl,hw'.s0⟩)
end Go.Proofs.YtlllcafedekojaaGreatDoor.Vg
namespace Go.Fz
open Go Go.Fw Go.Proofs.Tryz
theorem zcc:FldT prog 200 2 51 2 0:=⟨Y12,sz51⟩
end Go.Fz
namespace Go.Proofs.YtlllcafedekojaaGreatDoor.Vh
open Go Go.Fw Go.Fz Go.Proofs.Tryz
attribute [local irreducible] J T X
theorem stands (w:World) (x:InR) (hs:x.v.Fine) (hA:Cs w x.A (rowN .u8 x.v.imm)):
    Calls prog 183 [.agg x.cells.toArray].toArray w fun e w'=>e=.returned (.bool true)∧WS w [] [] w':=by
 obtain ⟨hcd,hdi,hnm,hat,hlb,hln,hnx⟩:=hs
 have hle:=zkc (zdp x.v.code) hdi
 refine zac [] 49 [] func183 rfl ntmps183 Y20 (WS.refl _ _) <| zz 2 ?_
 refine J.aE 1 rfl rfl (x.cells) rfl rfl fun g1 hg1=>zz 5 ?_
 refine J.aa zat rfl rfl <| J.ag Y8k 1 rfl rfl one3 Y3 rfl <| J.aj Y8k zjm rfl rfl (fun w hw=>Vc.Of w _ hcd.1 hcd.2) ?_
 refine zz 3 ?_
 refine J.as 11 (.bool true) rfl (by rw [decide_eq_true hnm]) <| J.am 3 rfl zbj [.int .i64 0,.string ByteArray.empty,.int .i64 0,.int .i64 0,.int .i64 0,.int .i64 0,.bool false] rfl rfl fun g3 hg3=>J.ae 3 rfl rfl rfl rfl ((findV x.v.code).cells) rfl zal (Nat.le_of_ble_eq_true rfl) (by first | exact OpV.cells_one _ | exact InR.cells_one _) (Nat.zero_lt_succ _) trivial ((findV x.v.code).cells) rfl <| zz 10 ?_
 refine J.aa zbh rfl rfl <| zz 1 ?_
 refine J.ag Y8k 1 rfl rfl one3 Y3 rfl <| J.aF rfl rfl <| J.bq rfl rfl rfl (decide_eq_false Y13) <| zz 3 ?_
 refine J.aa zbh rfl rfl <| zz 1 ?_
 refine J.ag Y8k 1 rfl rfl one3 Y3 rfl <| J.aF rfl rfl <| J.bD rfl rfl rfl (decide_eq_false Y13) <| zz 8 ?_
 refine J.ai Y8k 3 rfl rfl zag ((findV x.v.code).cells) rfl rfl rfl <| J.aa zcc rfl rfl <| J.ag Y8k 1 rfl rfl zaw Y3 rfl <| J.aj Y8k zqI rfl rfl (fun w hw=>Vd.length w _ (zdp _) _ hdi _ _ (hA.ws hw (zab _))) ?_
 refine zz 3 ?_
 refine J.as 30 (.bool true) rfl (by rw [hlb]) <| zz 10 ?_
 refine J.aa zcc rfl rfl <| zz 1 ?_
 refine J.ag Y8k 1 rfl rfl zaw Y3 rfl <| zz 1 ?_
 refine J.al underlying51 rfl rfl <| J.aF rfl rfl <| J.aT rfl rfl rfl (decide_eq_true Y5) <| zz 3 ?_
 refine J.aa zfY rfl rfl <| zz 1 ?_
 refine J.ag Y8k 1 rfl rfl one3 Y3 rfl <| zz 1 ?_
 refine J.aa zbh rfl rfl <| zz 1 ?_
 refine J.ag Y8k 1 rfl rfl one3 Y3 rfl <| zz 1 ?_
 refine J.aq rfl rfl rfl Y10 <| zz 2 ?_
 refine J.aq rfl rfl rfl Y142 <| J.aF rfl rfl <| J.aT rfl rfl rfl (decide_eq_true Y5) <| zz 5 ?_
 exact X.aa rfl (RV.tmp rfl) (fun w' hw'=>⟨rfl,hw'.s0⟩)
theorem pair (w:World) (bs:List Nat) (hd:Dg bs) (h2:2≤bs.length) (A:Option Addr) (c:Nat) (hA:Cs w A (rowN .u8 bs)):
    Calls prog 184 [.slice A bs.length c].toArray w fun e w'=>e=.returned (.int .i64 ((pairN bs:Nat):Int))∧WS w [] [] w':=by
 have hb0:=hd.getD 0
 have hb1:=hd.getD 1
 refine zac [] 13 [] func184 rfl ntmps184 Y20 (WS.refl _ _) <| zz 6 ?_
 refine T.ae [] [(0,.g),(1,.g),(2,.q),(3,.g),(4,.g),(5,.g),(6,.g),(7,.q),(8,.g),(9,.g),(10,.g)] Y12 Y12 ?_ Y2
 refine zz 1 ?_
 refine J.ah sl51 rfl (Cs.isSomeN hA Y5) rfl Y5 Y5 Y22 rfl <| J.av Y8k hA (zab _) rfl one5 Y119 rfl <| J.as 5 (.int .u8 ((bs.getD 0 0:Nat):Int)) rfl Y22 <| J.aN Y188 underlying3 rfl rfl Y140 <| J.cT rfl rfl rfl Y23 (show IntKind.i64.wrap (((bs.getD 0 0:Nat):Int)*256)=((bs.getD 0 0*256:Nat):Int) from (by rw [Int.natCast_mul];exact zai _ Y5)) <| zz 1 ?_
 refine J.ah sl51 rfl (Cs.isSomeN hA Y5) rfl Y5 Y5 Y22 rfl <| J.av Y8k hA (zab _) rfl one5 Y119 rfl <| J.as 10 (.int .u8 ((bs.getD 1 0:Nat):Int)) rfl Y22 <| J.aN Y188 underlying3 rfl rfl Y140 <| J.cW rfl rfl rfl (or16 _ _ hb0 hb1) <| zz 4 ?_
 exact X.aa rfl (RV.tmp rfl) (fun w' hw'=>⟨rfl,hw'.s0⟩)
end Go.Proofs.YtlllcafedekojaaGreatDoor.Vh
namespace Go.Fz
open Go Go.Fw Go.Proofs.Tryz
theorem zqL:FnOk prog 183:=FnOk.mk' func183 Y12 rfl
theorem zlt:FnOk prog 184:=FnOk.mk' func184 Y12 rfl
end Go.Fz
namespace Go.Proofs.YtlllcafedekojaaGreatDoor.Vi
open Go Go.Fw Go.Fz Go.Proofs.Tryz
attribute [local irreducible] J T X
theorem Named (w:World) (x:InR) (hs:x.v.Fine) (hA:Cs w x.A (rowN .u8 x.v.imm)):
    Calls prog 156 [.agg x.cells.toArray].toArray w fun e w'=>e=.returned (.tuple #[.int .i64 (((namedP x.v).1:Nat):Int),.bool (namedP x.v).2])∧WS w [] [] w':=by
 have hb0:=hs.dg.getD 0
 refine zac [] 24 [] func156 rfl ntmps156 Y20 (WS.refl _ _) <| zz 2 ?_
 refine J.aE 1 rfl rfl (x.cells) rfl rfl fun g1 hg1=>zz 7 ?_
 refine J.ai Y8k 1 rfl rfl zaC (x.cells) rfl rfl rfl <| J.aj Y8k zqL rfl rfl (fun w hw=>Vh.stands w x hs (hA.ws hw (zab _))) ?_
 refine zz 9 ?_
 refine J.aa zat rfl rfl <| J.ag Y8k 1 rfl rfl one3 Y3 rfl <| zz 10 ?_
 refine T.aa rfl (fun h1=>?_) (fun h1=>?_)
 refine T.as 9 (.bool true) rfl (by exact congrArg Value.bool (decide_eq_true h1)) <| zz 5 ?_
 refine J.aa zcc rfl rfl <| J.ag Y8k 1 rfl rfl zaw Y3 rfl <| J.aj Y8k zlt rfl rfl (fun w hw=>Vh.pair w _ hs.dg (hs.two Y5) _ _ (hA.ws hw (zab _))) ?_
 refine zz 7 ?_
 exact X.ag rfl (RV.tmp rfl) (RV.tmp rfl) (fun w' hw'=>⟨by first | (have q:=zdY (v:=x.v) Y5;first | (rw [q];done) | (rw [q];rfl)) | (have q:=zdZ (v:=x.v) Y5;first | (rw [q];done) | (rw [q];rfl)) | (have q:=zea (v:=x.v) Y5 Y5;first | (rw [q];done) | (rw [q];rfl)),hw'.s0⟩)
 refine T.as 9 (.bool false) rfl (by exact congrArg Value.bool (decide_eq_false h1)) <| zz 6 ?_
 refine T.aa rfl (fun h2=>?_) (fun h2=>?_)
 refine T.as 9 (.bool true) rfl (by exact congrArg Value.bool (decide_eq_true h2)) <| zz 5 ?_
 refine J.aa zcc rfl rfl <| J.ag Y8k 1 rfl rfl zaw Y3 rfl <| J.aj Y8k zlt rfl rfl (fun w hw=>Vh.pair w _ hs.dg (hs.two Y5) _ _ (hA.ws hw (zab _))) ?_
 refine zz 7 ?_
 exact X.ag rfl (RV.tmp rfl) (RV.tmp rfl) (fun w' hw'=>⟨by first | (have q:=zdY (v:=x.v) Y5;first | (rw [q];done) | (rw [q];rfl)) | (have q:=zdZ (v:=x.v) Y5;first | (rw [q];done) | (rw [q];rfl)) | (have q:=zea (v:=x.v) Y5 Y5;first | (rw [q];done) | (rw [q];rfl)),hw'.s0⟩)
 refine T.as 9 (.bool false) rfl (by exact congrArg Value.bool (decide_eq_false h2)) <| zz 5 ?_
 refine T.aa rfl (fun h3=>?_) (fun h3=>?_)
 refine T.as 9 (.bool true) rfl (by exact congrArg Value.bool (decide_eq_true h3)) <| zz 2 ?_
 refine J.aa zcc rfl rfl <| J.ag Y8k 1 rfl rfl zaw Y3 rfl <| J.aj Y8k zlt rfl rfl (fun w hw=>Vh.pair w _ hs.dg (hs.two Y5) _ _ (hA.ws hw (zab _))) ?_
 refine zz 7 ?_
 exact X.ag rfl (RV.tmp rfl) (RV.tmp rfl) (fun w' hw'=>⟨by first | (have q:=zdY (v:=x.v) Y5;first | (rw [q];done) | (rw [q];rfl)) | (have q:=zdZ (v:=x.v) Y5;first | (rw [q];done) | (rw [q];rfl)) | (have q:=zea (v:=x.v) Y5 Y5;first | (rw [q];done) | (rw [q];rfl)),hw'.s0⟩)
 refine T.as 9 (.bool false) rfl (by exact congrArg Value.bool (decide_eq_false h3)) <| zz 7 ?_
 refine T.aa rfl (fun h4=>?_) (fun h4=>?_)
 refine T.as 16 (.bool true) rfl (by exact congrArg Value.bool (decide_eq_true h4)) <| zz 5 ?_
 refine J.aa zcc rfl rfl <| J.ag Y8k 1 rfl rfl zaw Y3 rfl <| J.ah sl51 rfl (hA.isSome (by rw [zap];have:=hs.one Y5;omega)) rfl Y5 (by have:=hs.one Y5;omega) Y22 rfl <| J.av Y8k hA (zab _) rfl one5 (by have:=hs.one Y5;exact zeR _ _ _ Y5) rfl <| J.as 22 (.int .u8 ((x.v.imm.getD 0 0:Nat):Int)) rfl Y22 <| J.aN Y188 underlying3 rfl rfl Y140 <| zz 7 ?_
 exact X.ag rfl (RV.tmp rfl) (RV.tmp rfl) (fun w' hw'=>⟨by first | (have q:=zdY (v:=x.v) Y5;first | (rw [q];done) | (rw [q];rfl)) | (have q:=zdZ (v:=x.v) Y5;first | (rw [q];done) | (rw [q];rfl)) | (have q:=zea (v:=x.v) Y5 Y5;first | (rw [q];done) | (rw [q];rfl)),hw'.s0⟩)
 refine T.as 16 (.bool false) rfl (by exact congrArg Value.bool (decide_eq_false h4)) <| zz 5 ?_
 refine T.aa rfl (fun h5=>?_) (fun h5=>?_)
 refine T.as 16 (.bool true) rfl (by exact congrArg Value.bool (decide_eq_true h5)) <| zz 2 ?_
 refine J.aa zcc rfl rfl <| J.ag Y8k 1 rfl rfl zaw Y3 rfl <| J.ah sl51 rfl (hA.isSome (by rw [zap];have:=hs.one Y5;omega)) rfl Y5 (by have:=hs.one Y5;omega) Y22 rfl <| J.av Y8k hA (zab _) rfl one5 (by have:=hs.one Y5;exact zeR _ _ _ Y5) rfl <| J.as 22 (.int .u8 ((x.v.imm.getD 0 0:Nat):Int)) rfl Y22 <| J.aN Y188 underlying3 rfl rfl Y140 <| zz 7 ?_
 exact X.ag rfl (RV.tmp rfl) (RV.tmp rfl) (fun w' hw'=>⟨by first | (have q:=zdY (v:=x.v) Y5;first | (rw [q];done) | (rw [q];rfl)) | (have q:=zdZ (v:=x.v) Y5;first | (rw [q];done) | (rw [q];rfl)) | (have q:=zea (v:=x.v) Y5 Y5;first | (rw [q];done) | (rw [q];rfl)),hw'.s0⟩)
 refine T.as 16 (.bool false) rfl (by exact congrArg Value.bool (decide_eq_false h5)) <| zz 10 ?_
 exact X.ag rfl (RV.tmp rfl) (RV.tmp rfl) (fun w' hw'=>⟨by first | (have q:=zdY (v:=x.v) Y5;first | (rw [q];done) | (rw [q];rfl)) | (have q:=zdZ (v:=x.v) Y5;first | (rw [q];done) | (rw [q];rfl)) | (have q:=zea (v:=x.v) Y5 Y5;first | (rw [q];done) | (rw [q];rfl)),hw'.s0⟩)
end Go.Proofs.YtlllcafedekojaaGreatDoor.Vi
namespace Go.Fz
open Go Go.Fw Go.Proofs.Tryz
theorem ztr:SizeT prog 207 3:=Y9
theorem sl203:SlT prog 203 207 3:=⟨underlying203,ztr⟩
theorem zuK:AggT prog 207 3:=⟨⟨_,underlying207,rfl⟩,Y12⟩
theorem zrr:ZeroT prog 207 (.agg (zc10).toArray):=Y17
theorem zis:FldT prog 207 2 3 2 0:=⟨Y12,sz3⟩
theorem zmD:ZeroT prog 254 (.agg ([.int .i64 0,.int .i64 0]).toArray):=Y17
theorem zff:FldT prog 254 0 3 0 0:=⟨Y12,sz3⟩
theorem zca:FldT prog 254 1 3 1 0:=⟨Y12,sz3⟩
theorem zlU:SizeT prog 254 2:=Y9
theorem zeu:AggT prog 254 2:=⟨⟨_,underlying254,rfl⟩,Y12⟩
theorem zbg:FldT prog 227 3 3 3 0:=⟨Y12,sz3⟩
theorem zbf:FldT prog 227 4 3 4 0:=⟨Y12,sz3⟩
theorem zjn:FnOk prog 156:=FnOk.mk' func156 Y12 rfl
theorem zdl:FldT prog 252 0 120 0 0:=⟨Y12,zrB⟩
theorem zgL:FnOk prog 204:=FnOk.mk' func204 Y12 rfl
theorem zbA:FldT prog 252 1 154 1 2:=⟨Y12,zgj⟩
theorem zue:FnOk prog 205:=FnOk.mk' func205 Y12 rfl
theorem zqK:FnOk prog 188:=FnOk.mk' func188 Y12 rfl
end Go.Fz
namespace Go.Proofs.YtlllcafedekojaaGreatDoor.Ue
open Go Go.Fw Go.Fz Go.Proofs.Tryz
attribute [local irreducible] J T X
theorem spT:SpT prog 254 3:=⟨by kernel_rfl,by kernel_rfl,by kernel_rfl,by kernel_rfl,underlying3,one3⟩
theorem Leads (w:World) (x:InR) (hs:x.v.Fine) (hA:Cs w x.A (rowN .u8 x.v.imm)) (hcap:x.v.imm.length≤x.cap):
    Calls prog 181 [.agg x.cells.toArray].toArray w fun e w'=>∃ r:RowIx,r.Ok 1 (leadsV x.v).length∧e=.returned (r.val (leadsV x.v).length)∧WS w [] [(60,r.ent 3 (rowI .i64 (leadsV x.v)))] w':=by
 have hil:=hs.imm_le
 have hat:=hs.at_
 have hnx:=hs.nx
 refine zac [] 35 [] func181 rfl ntmps181 Y20 (WS.refl _ _) <| zz 2 ?_
 refine J.aE 1 rfl rfl (x.cells) rfl rfl fun g1 hg1=>zz 6 ?_
 refine J.ai Y8k 1 rfl rfl zaC (x.cells) rfl rfl rfl <| J.aj Y8k zqL rfl rfl (fun w hw=>Vh.stands w x hs (hA.ws hw (zab _))) ?_
 refine zz 7 ?_
 refine T.aj 60 3 <| zz 6 ?_
 refine J.aa zcc rfl rfl <| J.ag Y8k 1 rfl rfl zaw Y3 rfl <| zz 3 ?_
 refine T.ai (ι:=List Nat×Option Addr×Nat) (fun (xs,A2,c2)=>leadsF xs ((x.v.next:Nat):Int)=leadsV x.v∧Cs w A2 (rowN .u8 xs)∧Dg xs∧xs.length≤c2∧xs.length%2=0∧xs.length≤513) (fun (xs,A2,c2)=>[(0,.agg x.cells.toArray),(1,.pointer (some ⟨g1,0,none⟩)),(2,.slice none 0 0),(6,.bool true),(7,.bool false),(3,.slice none 0 0),(4,.slice A2 xs.length c2)]) (fun (xs,A2,c2)=>[(1,⟨some g1,200,(x.cells)⟩),(60,⟨none,3,[]⟩)]) ?_ ?_
 refine zz 2 ?_
 refine J.aa zat rfl rfl <| J.ag Y8k 1 rfl rfl one3 Y3 rfl <| zz 9 ?_
 refine T.aa rfl (fun h1=>?_) (fun h1=>?_)
 refine zz 2 ?_
 refine J.ax sl51 rfl (optInt.some rfl Y23 Y22) optInt.none optInt.none Y20 (by have:=(hs.table Y5).1;omega) Y5 Y5 rfl rfl <| J.as 15 (.slice (if x.cap=1 then x.A else x.A.map (·.add (1*1))) (x.v.imm.drop 1).length (x.cap - 1)) rfl (by rw [List.length_drop];rfl) <| zz 3 ?_
 have htb:=hs.table Y5
 exact X.at ⟨(x.v.imm.drop 1),(if x.cap=1 then x.A else x.A.map (·.add (1*1))),(x.cap - 1)⟩ ⟨(znI Y5).symm,cut8 hA hcap 1,hs.dg.drop 1,Y174,Y174,Y174⟩ Y2 Y2
 refine zz 7 ?_
 refine T.aa rfl (fun h2=>?_) (fun h2=>?_)
 refine zz 2 ?_
 refine T.aa rfl (fun h3=>?_) (fun h3=>?_)
 refine zz 2 ?_
 have hj2:=hs.jump2 Y5
 exact X.at ⟨x.v.imm,x.A,x.cap⟩ ⟨(zjh Y5).symm,hA,hs.dg,hcap,by omega,by omega⟩ Y2 Y2
 refine zz 8 ?_
 exact X.aa rfl (RV.tmp rfl) (fun w' hw'=>⟨RowIx.nil,by rw [zec Y5 Y5 Y5];exact RowIx.nil_ok 1,by rw [zec Y5 Y5 Y5];rfl,by rw [zec Y5 Y5 Y5];exact (hw'.addNil 60 3).only 60 60 rfl⟩)
 refine zz 5 ?_
 refine T.aa rfl (fun h4=>?_) (fun h4=>?_)
 refine zz 2 ?_
 have hj2:=hs.jump2 Y5
 exact X.at ⟨x.v.imm,x.A,x.cap⟩ ⟨(zjh Y5).symm,hA,hs.dg,hcap,by omega,by omega⟩ Y2 Y2
 refine zz 8 ?_
 exact X.aa rfl (RV.tmp rfl) (fun w' hw'=>⟨RowIx.nil,by rw [zec Y5 Y5 Y5];exact RowIx.nil_ok 1,by rw [zec Y5 Y5 Y5];rfl,by rw [zec Y5 Y5 Y5];exact (hw'.addNil 60 3).only 60 60 rfl⟩)
 rintro ⟨xs,A2,c2⟩ ⟨hx0,hA2,hdx,hc2,hev,hxl⟩
 try dsimp only at *
 refine zz 2 ?_
 refine T.ag (ι:=List Nat×Option Addr×Nat×List Int×RowIx) (fun (xs,A2,c2,ys,r)=>ys++leadsF xs ((x.v.next:Nat):Int)=leadsV x.v∧Cs w A2 (rowN .u8 xs)∧Dg xs∧xs.length≤c2∧xs.length%2=0∧xs.length≤513∧r.Ok 1 ys.length∧ys.length+xs.length≤513) (fun (xs,A2,c2,ys,r)=>[(0,.agg x.cells.toArray),(1,.pointer (some ⟨g1,0,none⟩)),(2,.slice none 0 0),(4,.slice A2 xs.length c2),(3,r.val ys.length)]) (fun (xs,A2,c2,ys,r)=>[(1,⟨some g1,200,(x.cells)⟩),(60,r.ent 3 (rowI .i64 ys))]) (fun (xs,A2,c2,ys,r)=>xs.length) ⟨xs,A2,c2,[],RowIx.nil⟩ ⟨hx0,hA2,hdx,hc2,hev,hxl,RowIx.nil_ok 1,by simpa using hxl⟩ Y2 Y2 ?_
 rintro ⟨xs,A2,c2,ys,r⟩ ⟨hx0,hA2,hdx,hc2,hev,hxl,hr,hyl⟩
 try dsimp only at *
 refine zz 4 ?_
 refine J.al underlying51 rfl rfl <| zz 3 ?_
 refine T.aa rfl (fun h5=>?_) (fun h5=>?_)
 have hpl:=zla hdx
 have hsr:=zne _ hpl
 refine zz 4 ?_
 refine T.ae [] [(0,.g),(1,.g),(2,.q),(3,.g),(4,.q),(5,.g),(6,.g),(7,.g),(8,.l),(9,.l),(10,.g)] Y12 Y12 ?_ Y2
 refine zz 1 ?_
 refine J.aa zfY rfl rfl <| J.ag Y8k 1 rfl rfl one3 Y3 rfl <| zz 1 ?_
 refine J.aj Y8k zlt rfl rfl (fun w hw=>Vh.pair w xs hdx Y5 _ _ (hA2.ws hw (zab _))) ?_
 refine J.aN (by rw [underlying3];rfl) underlying266 rfl rfl (zpF _ hpl) <| J.aN (by rw [underlying266];rfl) underlying3 rfl rfl (zai _ Y5) <| J.aq rfl rfl rfl (zai _ Y5) <| J.aD 32 rfl underlying123 el3 Y23 rfl [.int .i64 (((x.v.next:Nat):Int)+s16 (pairN xs))] rfl rfl rfl fun g32 hg32=>J.ay 60 rfl underlying123 el3 rfl hr (by rw [zda,Nat.mul_one]) rfl rfl rfl (fun w hw=>(hw.blkCs (k:=32) rfl)) Y27 Y5 Y28 rfl (ys++[(((x.v.next:Nat):Int)+s16 (pairN xs))]).length Y25 (rowI .i64 (ys++[(((x.v.next:Nat):Int)+s16 (pairN xs))])) (by rw [zjM];rfl) fun r33 hr33=>zz 6 ?_
 refine J.ax sl51 rfl (optInt.some rfl Y23 Y22) optInt.none optInt.none Y20 Y5 Y5 Y5 rfl rfl <| J.as 23 (.slice (if c2=2 then A2 else A2.map (·.add (2*1))) (xs.drop 2).length (c2 - 2)) rfl (by rw [List.length_drop];rfl) <| zz 2 ?_
 have hx2:(ys++[(((x.v.next:Nat):Int)+s16 (pairN xs))])++leadsF (xs.drop 2) ((x.v.next:Nat):Int)=leadsV x.v:=by rw [List.append_assoc,List.singleton_append,← zkd Y5];exact hx0
 exact X.ae ⟨(xs.drop 2),(if c2=2 then A2 else A2.map (·.add (2*1))),(c2 - 2),(ys++[(((x.v.next:Nat):Int)+s16 (pairN xs))]),r33⟩ ⟨hx2,cut8 hA2 hc2 2,hdx.drop 2,Y163,Y163,Y163,hr33,(by dsimp only;rw [List.length_append,List.length_drop,List.length_singleton];omega)⟩ Y163 Y2 Y2
 have hys:ys=leadsV x.v:=by rw [zke Y5,List.append_nil] at hx0;exact hx0
 subst hys
 refine zz 12 ?_
 exact X.aa rfl (RV.tmp rfl) (fun w' hw'=>⟨r,hr,rfl,hw'.only 60 60 rfl⟩)
theorem goes (w:World) (j:Value) (how:Int) (own to:TyV):
    Calls prog 182 [j,.int .i64 how,.agg own.cells.toArray,.agg to.cells.toArray].toArray w fun e w'=>e=.returned (.int .i64 (goesE how own to))∧WS w [] [] w':=by
 refine zac [] 35 [] func182 rfl ntmps182 Y20 (WS.refl _ _) <| zz 2 ?_
 refine J.aE 6 rfl rfl (own.cells) rfl rfl fun g6 hg6=>J.aE 7 rfl rfl (to.cells) rfl rfl fun g7 hg7=>zz 10 ?_
 refine J.an 12 rfl (fun h1=>?_) (fun h1=>?_)
 refine zz 1 ?_
 refine J.aa zam rfl rfl <| zz 1 ?_
 refine J.ag Y8k 7 rfl rfl one3 Y3 rfl <| zz 5 ?_
 refine T.aa rfl (fun h2=>?_) (fun h2=>?_)
 refine zz 8 ?_
 exact X.aa rfl (RV.tmp rfl) (fun w' hw'=>⟨by first | (exfalso;omega) | (unfold goesE;simp [*]),hw'.s0⟩)
 refine zz 5 ?_
 refine J.an 20 rfl (fun h3=>?_) (fun h3=>?_)
 refine zz 16 ?_
 exact X.aa rfl (RV.tmp rfl) (fun w' hw'=>⟨by first | (exfalso;omega) | (unfold goesE;simp [*]),hw'.s0⟩)
 refine zz 1 ?_
 refine J.aa zam rfl rfl <| zz 1 ?_
 refine J.ag Y8k 7 rfl rfl one3 Y3 rfl <| zz 5 ?_
 refine T.aa rfl (fun h4=>?_) (fun h4=>?_)
 refine zz 8 ?_
 exact X.aa rfl (RV.tmp rfl) (fun w' hw'=>⟨by first | (exfalso;omega) | (unfold goesE;simp [*]),hw'.s0⟩)
 refine zz 2 ?_
 refine J.aa zam rfl rfl <| J.ag Y8k 6 rfl rfl one3 Y3 rfl <| zz 4 ?_
 refine T.aa rfl (fun h5=>?_) (fun h5=>?_)
 refine zz 8 ?_
 exact X.aa rfl (RV.tmp rfl) (fun w' hw'=>⟨by first | (exfalso;omega) | (unfold goesE;simp [*]),hw'.s0⟩)
 refine zz 2 ?_
 refine J.aa zam rfl rfl <| J.ag Y8k 7 rfl rfl one3 Y3 rfl <| J.aa zam rfl rfl <| J.ag Y8k 6 rfl rfl one3 Y3 rfl <| zz 4 ?_
 refine T.aa rfl (fun h6=>?_) (fun h6=>?_)
 refine zz 8 ?_
 exact X.aa rfl (RV.tmp rfl) (fun w' hw'=>⟨by first | (exfalso;omega) | (unfold goesE;simp [*]),hw'.s0⟩)
 refine zz 9 ?_
 exact X.aa rfl (RV.tmp rfl) (fun w' hw'=>⟨by first | (exfalso;omega) | (unfold goesE;simp [*]),hw'.s0⟩)
 refine zz 13 ?_
 refine J.an 20 rfl (fun h7=>?_) (fun h7=>?_)
 refine zz 16 ?_
 exact X.aa rfl (RV.tmp rfl) (fun w' hw'=>⟨by first | (exfalso;omega) | (unfold goesE;simp [*]),hw'.s0⟩)
 refine zz 1 ?_
 refine J.aa zam rfl rfl <| zz 1 ?_
 refine J.ag Y8k 7 rfl rfl one3 Y3 rfl <| zz 5 ?_
 refine T.aa rfl (fun h8=>?_) (fun h8=>?_)
 refine zz 8 ?_
 exact X.aa rfl (RV.tmp rfl) (fun w' hw'=>⟨by first | (exfalso;omega) | (unfold goesE;simp [*]),hw'.s0⟩)
 refine zz 2 ?_
 refine J.aa zam rfl rfl <| J.ag Y8k 6 rfl rfl one3 Y3 rfl <| zz 4 ?_
 refine T.aa rfl (fun h9=>?_) (fun h9=>?_)
 refine zz 8 ?_
 exact X.aa rfl (RV.tmp rfl) (fun w' hw'=>⟨by first | (exfalso;omega) | (unfold goesE;simp [*]),hw'.s0⟩)
 refine zz 2 ?_
 refine J.aa zam rfl rfl <| J.ag Y8k 7 rfl rfl one3 Y3 rfl <| J.aa zam rfl rfl <| J.ag Y8k 6 rfl rfl one3 Y3 rfl <| zz 4 ?_
 refine T.aa rfl (fun h10=>?_) (fun h10=>?_)
 refine zz 8 ?_
 exact X.aa rfl (RV.tmp rfl) (fun w' hw'=>⟨by first | (exfalso;omega) | (unfold goesE;simp [*]),hw'.s0⟩)
 refine zz 9 ?_
 exact X.aa rfl (RV.tmp rfl) (fun w' hw'=>⟨by first | (exfalso;omega) | (unfold goesE;simp [*]),hw'.s0⟩)
theorem Most (w:World) (xs:List HtV) (hl:xs.length≤1000000000) (A:Option Addr) (c:Nat) (hA:Cs w A (rowHt xs)):
    Calls prog 158 [.slice A xs.length c].toArray w fun e w'=>e=.returned (.int .i64 (mostV (xs.map HtV.p)))∧WS w [] [] w':=by
 refine zac [] 25 [] func158 rfl ntmps158 Y20 (WS.refl _ _) <| zz 14 ?_
 refine J.al underlying203 rfl rfl <| zz 4 ?_
 refine T.ag (ι:=Nat×Int) (fun (i,m)=>i≤xs.length∧(i=0→m=0)∧(0 < i→mostV (xs.map HtV.p)=mostF ((xs.drop i).map HtV.p) m)) (fun (i,m)=>[(0,.slice A xs.length c),(2,.int .i64 0),(6,.slice A xs.length c),(7,.int .i64 ((xs.length:Nat):Int)),(8,.int .i64 ((i:Nat):Int)),(3,.int .i64 m)]) (fun (i,m)=>[]) (fun (i,m)=>xs.length - i) ⟨0,0⟩ ⟨Nat.zero_le _,fun _=>rfl,fun q=>absurd q (Nat.lt_irrefl 0)⟩ Y2 Y2 ?_
 rintro ⟨i,m⟩ ⟨hi,hm0,hm⟩
 try dsimp only at *
 refine zz 6 ?_
 refine T.aa rfl (fun h1=>?_) (fun h1=>?_)
 have hi2:i < xs.length:=by omega
 refine zz 7 ?_
 refine J.ah sl203 rfl (hA.isSome (by rw [zfH];omega)) rfl Y5 Y5 Y8 rfl <| J.ar Y8k hA (zab _) rfl zuK ((xs.getD i default).cells) rfl (znn xs i Y5) rfl <| J.am 5 rfl zrr zc10 rfl rfl fun g5 hg5=>zz 1 ?_
 refine J.ae 5 rfl rfl rfl rfl ((xs.getD i default).cells) rfl ztr (Nat.le_of_ble_eq_true rfl) Y126 (Nat.zero_lt_succ _) trivial ((xs.getD i default).cells) rfl <| zz 7 ?_
 refine J.an 15 rfl (fun h2=>?_) (fun h2=>?_)
 refine zz 9 ?_
 refine J.aa zis rfl rfl <| J.ag Y8k 5 rfl rfl one3 Y3 rfl <| zz 5 ?_
 refine J.aq rfl rfl rfl Y10 <| zz 2 ?_
 exact X.ae ⟨(i+1),(xs.getD i default).hi⟩ ⟨(by dsimp only;omega),fun q=>absurd q (Nat.succ_ne_zero _),fun _=>Y118⟩ Y14 Y2 Y2
 refine zz 1 ?_
 refine J.aa zis rfl rfl <| zz 1 ?_
 refine J.ag Y8k 5 rfl rfl one3 Y3 rfl <| zz 5 ?_
 refine T.aa rfl (fun h3=>?_) (fun h3=>?_)
 refine zz 1 ?_
 refine J.aa zis rfl rfl <| J.ag Y8k 5 rfl rfl one3 Y3 rfl <| zz 5 ?_
 refine J.aq rfl rfl rfl Y10 <| zz 2 ?_
 exact X.ae ⟨(i+1),(xs.getD i default).hi⟩ ⟨(by dsimp only;omega),fun q=>absurd q (Nat.succ_ne_zero _),fun _=>Y118⟩ Y14 Y2 Y2
 refine zz 4 ?_
 refine J.aq rfl rfl rfl Y10 <| zz 2 ?_
 exact X.ae ⟨(i+1),m⟩ ⟨(by dsimp only;omega),fun q=>absurd q (Nat.succ_ne_zero _),fun _=>(by dsimp only;rw [hm Y5,zjb Y5,if_neg Y5])⟩ Y14 Y2 Y2
 obtain rfl:i=xs.length:=by omega
 refine zz 12 ?_
 exact X.aa rfl (RV.tmp rfl) (fun w' hw'=>⟨by by_cases h0:0 < xs.length;(rw [hm h0,List.drop_length];rfl);(rw [hm0 Y5];have:=List.length_eq_zero_iff.1 (by omega:xs.length=0);subst this;rfl),hw'.s0⟩)
theorem on (w:World) (lo hi a b:Int) (h1: -1000000≤lo∧lo≤1000000) (h2: -1000000≤hi∧hi≤1000000) (h3: -1000000≤a∧a≤1000000) (h4: -1000000≤b∧b≤1000000):
    Calls prog 187 [.agg ([.int .i64 lo,.int .i64 hi]:List Value).toArray,.int .i64 a,.int .i64 b].toArray w fun e w'=>e=.returned (.agg ([.int .i64 (lo - a+b),.int .i64 (hi - a+b)]:List Value).toArray)∧WS w [] [] w':=by
 refine zac [] 20 [] func187 rfl ntmps187 Y20 (WS.refl _ _) <| zz 2 ?_
 refine J.aE 3 rfl rfl [.int .i64 lo,.int .i64 hi] rfl rfl fun g3 hg3=>J.am 6 rfl zmD [.int .i64 0,.int .i64 0] rfl rfl fun g6 hg6=>zz 4 ?_
 refine J.aa zff rfl rfl <| J.ag Y8k 3 rfl rfl one3 rfl rfl <| zz 1 ?_
 refine J.aI rfl rfl rfl (zai _ Y5) <| zz 1 ?_
 refine J.aq rfl rfl rfl (zai _ Y5) <| J.aa zca rfl rfl <| J.ag Y8k 3 rfl rfl one3 rfl rfl <| zz 1 ?_
 refine J.aI rfl rfl rfl (zai _ Y5) <| zz 1 ?_
 refine J.aq rfl rfl rfl (zai _ Y5) <| J.ao rfl rfl (.agg ([.int .i64 (lo - a+b),.int .i64 (hi - a+b)]:List Value).toArray) Y191 <| J.ae 6 rfl rfl rfl rfl [.int .i64 (lo - a+b),.int .i64 (hi - a+b)] rfl zlU Y7 Y6 Y11 trivial [.int .i64 (lo - a+b),.int .i64 (hi - a+b)] rfl <| zz 3 ?_
 exact X.aa rfl (RV.agg 6 rfl rfl zeu [.int .i64 (lo - a+b),.int .i64 (hi - a+b)] Y22 Y22 rfl) (fun w' hw'=>⟨rfl,hw'.s0⟩)
theorem Needs (w:World) (x:InR) (hs:x.v.Fine) (hA:Cs w x.A (rowN .u8 x.v.imm)):
    Calls prog 205 [.int .i64 x.v.code,.slice x.A x.v.imm.length x.cap].toArray w fun e w'=>e=.returned (.tuple #[.int .i64 (needsV x.v).1,.int .i64 (needsV x.v).2,.bool true])∧WS w [] [] w':=by
 have hil:=hs.imm_le
 have hb0:=hs.dg.getD 0
 obtain ⟨hio1,hio2,hio3,hio4⟩:=zlA x.v.code
 obtain ⟨him1,him2⟩:=zdp x.v.code
 have hone:=hs.need1
 refine zac [] 81 [] func205 rfl ntmps205 Y20 (WS.refl _ _) <| zz 10 ?_
 refine J.aj Y8k zjm rfl rfl (fun w hw=>Vc.Of w _ hs.cd.1 hs.cd.2) ?_
 refine zz 3 ?_
 refine J.as 14 (.bool true) rfl (by rw [decide_eq_true hs.nm]) <| J.am 7 rfl zbj [.int .i64 0,.string ByteArray.empty,.int .i64 0,.int .i64 0,.int .i64 0,.int .i64 0,.bool false] rfl rfl fun g7 hg7=>J.ae 7 rfl rfl rfl rfl ((findV x.v.code).cells) rfl zal (Nat.le_of_ble_eq_true rfl) Y126 (Nat.zero_lt_succ _) trivial ((findV x.v.code).cells) rfl <| zz 15 ?_
 refine J.aa ziq rfl rfl <| J.ag Y8k 7 rfl rfl one3 Y3 rfl <| zz 3 ?_
 refine T.ai (ι:=Unit) (fun (_:Unit)=>True) (fun (_:Unit)=>[(0,.int .i64 x.v.code),(1,.slice x.A x.v.imm.length x.cap),(4,.int .i64 0),(5,.int .i64 0),(6,.bool true),(11,.int .i64 x.v.code),(13,.agg (findV x.v.code).cells.toArray),(14,.bool true),(7,.pointer (some ⟨g7,0,none⟩)),(15,.bool true),(16,.bool false),(8,.int .i64 ((x.v.imm.length:Nat):Int))]) (fun (_:Unit)=>[(7,⟨some g7,227,((findV x.v.code).cells)⟩)]) ?_ ?_
 refine zz 6 ?_
 refine T.aa rfl (fun h1=>?_) (fun h1=>?_)
 obtain ⟨ht1,ht2⟩:=hs.tab h1
 refine zz 4 ?_
 refine J.al underlying51 rfl rfl <| J.aT rfl rfl rfl (decide_eq_false Y13) <| zz 7 ?_
 refine J.ah sl51 rfl (hA.isSome Y186) rfl Y5 Y5 Y22 rfl <| J.av Y8k hA (zab _) rfl one5 (zaH _ _ 0 Y5) rfl <| J.as 26 (.int .u8 ((x.v.imm.getD 0 0:Nat):Int)) rfl Y22 <| J.aN Y188 underlying3 rfl rfl Y140 <| J.bA rfl rfl rfl (zai _ Y5) <| J.aq rfl rfl rfl (zai _ Y5) <| zz 2 ?_
 refine X.as 8 (.int .i64 ((x.v.imm.length:Nat):Int)) rfl (congrArg (Value.int .i64) Y5) ?_
 exact X.at () trivial Y2 Y2
 have hnt:=hs.notab h1
 refine zz 1 ?_
 refine X.as 8 (.int .i64 ((x.v.imm.length:Nat):Int)) rfl (congrArg (Value.int .i64) Y5) ?_
 exact X.at () trivial Y2 Y2
 rintro _ _
 refine zz 4 ?_
 refine J.al underlying51 rfl rfl <| zz 1 ?_
 refine J.be rfl rfl rfl (decide_eq_false Y13) <| zz 19 ?_
 refine T.aa rfl (fun h2=>?_) (fun h2=>?_)
 refine zz 2 ?_
 refine T.aa rfl (fun h3=>?_) (fun h3=>?_)
 refine zz 1 ?_
 refine T.ae [] [(0,.g),(1,.q),(2,.g),(3,.g),(4,.q),(5,.g),(6,.g),(7,.g),(8,.l)] Y12 Y12 ?_ Y2
 refine J.aa zbg rfl rfl <| J.ag Y8k 7 rfl rfl one3 rfl rfl <| zz 1 ?_
 refine J.ah sl51 rfl (hA.isSome Y186) rfl Y5 Y5 Y22 rfl <| J.av Y8k hA (zab _) rfl one5 (zaH _ _ 0 Y5) rfl <| J.as 42 (.int .u8 ((x.v.imm.getD 0 0:Nat):Int)) rfl Y22 <| J.aN Y188 underlying3 rfl rfl Y140 <| J.aq rfl rfl rfl (zai _ Y5) <| J.aa zbg rfl rfl <| J.ae 7 rfl rfl rfl rfl [.int .i64 ((findV x.v.code).inn+((x.v.imm.getD 0 0:Nat):Int))] rfl sz3 (Nat.le_of_ble_eq_true rfl) Y27 Y11 trivial (needC (findV x.v.code) ((findV x.v.code).inn+((x.v.imm.getD 0 0:Nat):Int)) ((findV x.v.code).out)) rfl <| zz 2 ?_
 refine T.ae [] [(0,.g),(1,.q),(2,.g),(3,.g),(4,.q),(5,.g),(6,.g),(7,.g),(8,.l)] Y12 Y12 ?_ Y2
 refine J.aa zbf rfl rfl <| J.ag Y8k 7 rfl rfl one3 rfl rfl <| zz 1 ?_
 refine J.ah sl51 rfl (hA.isSome Y186) rfl Y5 Y5 Y22 rfl <| J.av Y8k hA (zab _) rfl one5 (zaH _ _ 0 Y5) rfl <| J.as 50 (.int .u8 ((x.v.imm.getD 0 0:Nat):Int)) rfl Y22 <| J.aN Y188 underlying3 rfl rfl Y140 <| J.aq rfl rfl rfl (zai _ Y5) <| J.aa zbf rfl rfl <| J.ae 7 rfl rfl rfl rfl [.int .i64 ((findV x.v.code).out+((x.v.imm.getD 0 0:Nat):Int))] rfl sz3 (Nat.le_of_ble_eq_true rfl) Y27 Y11 trivial (needC (findV x.v.code) ((findV x.v.code).inn+((x.v.imm.getD 0 0:Nat):Int)) ((findV x.v.code).out+((x.v.imm.getD 0 0:Nat):Int))) rfl <| zz 4 ?_
 refine T.ae [] [(0,.g),(1,.q),(2,.g),(3,.q),(4,.g),(5,.g),(6,.g)] Y12 Y12 ?_ Y2
 refine J.aa zbg rfl rfl <| J.ag Y8k 7 rfl rfl one3 rfl rfl <| J.aa zbf rfl rfl <| J.ag Y8k 7 rfl rfl one3 rfl rfl <| zz 6 ?_
 exact X.ak rfl (RV.tmp rfl) (RV.tmp rfl) (RV.tmp rfl) (fun w' hw'=>⟨by unfold needsV;first | (rw [if_pos Y5];done) | (rw [if_neg Y5,if_pos Y5];done) | (rw [if_neg Y5,if_neg Y5];done) | (rw [if_pos Y5];rfl) | (rw [if_neg Y5,if_pos Y5];rfl) | (rw [if_neg Y5,if_neg Y5];rfl),hw'.s0⟩)
 refine zz 6 ?_
 refine T.aa rfl (fun h4=>?_) (fun h4=>?_)
 refine zz 1 ?_
 refine T.ae [] [(0,.g),(1,.g),(2,.q),(3,.g),(4,.g),(5,.g),(6,.g),(7,.q),(8,.g),(9,.g),(10,.g),(11,.g)] Y12 Y12 ?_ Y2
 refine zz 1 ?_
 refine J.ah sl51 rfl (hA.isSome Y186) rfl Y5 Y5 Y22 rfl <| J.av Y8k hA (zab _) rfl one5 (zaH _ _ 0 Y5) rfl <| J.as 58 (.int .u8 ((x.v.imm.getD 0 0:Nat):Int)) rfl Y22 <| J.bK rfl rfl rfl Y23 (shr4 _) <| J.aN Y188 underlying3 rfl rfl Y140 <| zz 1 ?_
 refine J.ah sl51 rfl (hA.isSome Y186) rfl Y5 Y5 Y22 rfl <| J.av Y8k hA (zab _) rfl one5 (zaH _ _ 0 Y5) rfl <| J.as 63 (.int .u8 ((x.v.imm.getD 0 0:Nat):Int)) rfl Y22 <| J.cI rfl rfl rfl (zuJ _ hb0) <| J.aN Y188 underlying3 rfl rfl Y140 <| J.aq rfl rfl rfl Y142 <| zz 5 ?_
 refine J.aa zbg rfl rfl <| J.ag Y8k 7 rfl rfl one3 rfl rfl <| zz 1 ?_
 refine J.aq rfl rfl rfl (zai _ Y5) <| J.aa zbg rfl rfl <| J.ae 7 rfl rfl rfl rfl [.int .i64 ((findV x.v.code).inn+(((x.v.imm.getD 0 0 / 16+x.v.imm.getD 0 0%16):Nat):Int))] rfl sz3 (Nat.le_of_ble_eq_true rfl) Y27 Y11 trivial (needC (findV x.v.code) ((findV x.v.code).inn+(((x.v.imm.getD 0 0 / 16+x.v.imm.getD 0 0%16):Nat):Int)) ((findV x.v.code).out)) rfl <| zz 3 ?_
 refine J.aa zbf rfl rfl <| J.ag Y8k 7 rfl rfl one3 rfl rfl <| zz 1 ?_
 refine J.aq rfl rfl rfl (zai _ Y5) <| J.aa zbf rfl rfl <| J.ae 7 rfl rfl rfl rfl [.int .i64 ((findV x.v.code).out+(((x.v.imm.getD 0 0 / 16+x.v.imm.getD 0 0%16):Nat):Int))] rfl sz3 (Nat.le_of_ble_eq_true rfl) Y27 Y11 trivial (needC (findV x.v.code) ((findV x.v.code).inn+(((x.v.imm.getD 0 0 / 16+x.v.imm.getD 0 0%16):Nat):Int)) ((findV x.v.code).out+(((x.v.imm.getD 0 0 / 16+x.v.imm.getD 0 0%16):Nat):Int))) rfl <| zz 4 ?_
 refine T.ae [] [(0,.g),(1,.q),(2,.g),(3,.q),(4,.g),(5,.g),(6,.g)] Y12 Y12 ?_ Y2
 refine J.aa zbg rfl rfl <| J.ag Y8k 7 rfl rfl one3 rfl rfl <| J.aa zbf rfl rfl <| J.ag Y8k 7 rfl rfl one3 rfl rfl <| zz 6 ?_
 exact X.ak rfl (RV.tmp rfl) (RV.tmp rfl) (RV.tmp rfl) (fun w' hw'=>⟨by unfold needsV;first | (rw [if_pos Y5];done) | (rw [if_neg Y5,if_pos Y5];done) | (rw [if_neg Y5,if_neg Y5];done) | (rw [if_pos Y5];rfl) | (rw [if_neg Y5,if_pos Y5];rfl) | (rw [if_neg Y5,if_neg Y5];rfl),hw'.s0⟩)
 refine zz 4 ?_
 refine T.ae [] [(0,.g),(1,.q),(2,.g),(3,.q),(4,.g),(5,.g),(6,.g)] Y12 Y12 ?_ Y2
 refine J.aa zbg rfl rfl <| J.ag Y8k 7 rfl rfl one3 rfl rfl <| J.aa zbf rfl rfl <| J.ag Y8k 7 rfl rfl one3 rfl rfl <| zz 6 ?_
 exact X.ak rfl (RV.tmp rfl) (RV.tmp rfl) (RV.tmp rfl) (fun w' hw'=>⟨by unfold needsV;first | (rw [if_pos Y5];done) | (rw [if_neg Y5,if_pos Y5];done) | (rw [if_neg Y5,if_neg Y5];done) | (rw [if_pos Y5];rfl) | (rw [if_neg Y5,if_pos Y5];rfl) | (rw [if_neg Y5,if_neg Y5];rfl),hw'.s0⟩)
 refine zz 5 ?_
 refine T.aa rfl (fun h5=>?_) (fun h5=>?_)
 refine zz 1 ?_
 refine T.ae [] [(0,.g),(1,.q),(2,.g),(3,.g),(4,.q),(5,.g),(6,.g),(7,.g),(8,.l)] Y12 Y12 ?_ Y2
 refine J.aa zbg rfl rfl <| J.ag Y8k 7 rfl rfl one3 rfl rfl <| zz 1 ?_
 refine J.ah sl51 rfl (hA.isSome Y186) rfl Y5 Y5 Y22 rfl <| J.av Y8k hA (zab _) rfl one5 (zaH _ _ 0 Y5) rfl <| J.as 42 (.int .u8 ((x.v.imm.getD 0 0:Nat):Int)) rfl Y22 <| J.aN Y188 underlying3 rfl rfl Y140 <| J.aq rfl rfl rfl (zai _ Y5) <| J.aa zbg rfl rfl <| J.ae 7 rfl rfl rfl rfl [.int .i64 ((findV x.v.code).inn+((x.v.imm.getD 0 0:Nat):Int))] rfl sz3 (Nat.le_of_ble_eq_true rfl) Y27 Y11 trivial (needC (findV x.v.code) ((findV x.v.code).inn+((x.v.imm.getD 0 0:Nat):Int)) ((findV x.v.code).out)) rfl <| zz 2 ?_
 refine T.ae [] [(0,.g),(1,.q),(2,.g),(3,.g),(4,.q),(5,.g),(6,.g),(7,.g),(8,.l)] Y12 Y12 ?_ Y2
 refine J.aa zbf rfl rfl <| J.ag Y8k 7 rfl rfl one3 rfl rfl <| zz 1 ?_
 refine J.ah sl51 rfl (hA.isSome Y186) rfl Y5 Y5 Y22 rfl <| J.av Y8k hA (zab _) rfl one5 (zaH _ _ 0 Y5) rfl <| J.as 50 (.int .u8 ((x.v.imm.getD 0 0:Nat):Int)) rfl Y22 <| J.aN Y188 underlying3 rfl rfl Y140 <| J.aq rfl rfl rfl (zai _ Y5) <| J.aa zbf rfl rfl <| J.ae 7 rfl rfl rfl rfl [.int .i64 ((findV x.v.code).out+((x.v.imm.getD 0 0:Nat):Int))] rfl sz3 (Nat.le_of_ble_eq_true rfl) Y27 Y11 trivial (needC (findV x.v.code) ((findV x.v.code).inn+((x.v.imm.getD 0 0:Nat):Int)) ((findV x.v.code).out+((x.v.imm.getD 0 0:Nat):Int))) rfl <| zz 4 ?_
 refine T.ae [] [(0,.g),(1,.q),(2,.g),(3,.q),(4,.g),(5,.g),(6,.g)] Y12 Y12 ?_ Y2
 refine J.aa zbg rfl rfl <| J.ag Y8k 7 rfl rfl one3 rfl rfl <| J.aa zbf rfl rfl <| J.ag Y8k 7 rfl rfl one3 rfl rfl <| zz 6 ?_
 exact X.ak rfl (RV.tmp rfl) (RV.tmp rfl) (RV.tmp rfl) (fun w' hw'=>⟨by unfold needsV;first | (rw [if_pos Y5];done) | (rw [if_neg Y5,if_pos Y5];done) | (rw [if_neg Y5,if_neg Y5];done) | (rw [if_pos Y5];rfl) | (rw [if_neg Y5,if_pos Y5];rfl) | (rw [if_neg Y5,if_neg Y5];rfl),hw'.s0⟩)
 refine zz 6 ?_
 refine T.aa rfl (fun h6=>?_) (fun h6=>?_)
 refine zz 1 ?_
 refine T.ae [] [(0,.g),(1,.g),(2,.q),(3,.g),(4,.g),(5,.g),(6,.g),(7,.q),(8,.g),(9,.g),(10,.g),(11,.g)] Y12 Y12 ?_ Y2
 refine zz 1 ?_
 refine J.ah sl51 rfl (hA.isSome Y186) rfl Y5 Y5 Y22 rfl <| J.av Y8k hA (zab _) rfl one5 (zaH _ _ 0 Y5) rfl <| J.as 58 (.int .u8 ((x.v.imm.getD 0 0:Nat):Int)) rfl Y22 <| J.bK rfl rfl rfl Y23 (shr4 _) <| J.aN Y188 underlying3 rfl rfl Y140 <| zz 1 ?_
 refine J.ah sl51 rfl (hA.isSome Y186) rfl Y5 Y5 Y22 rfl <| J.av Y8k hA (zab _) rfl one5 (zaH _ _ 0 Y5) rfl <| J.as 63 (.int .u8 ((x.v.imm.getD 0 0:Nat):Int)) rfl Y22 <| J.cI rfl rfl rfl (zuJ _ hb0) <| J.aN Y188 underlying3 rfl rfl Y140 <| J.aq rfl rfl rfl Y142 <| zz 5 ?_
 refine J.aa zbg rfl rfl <| J.ag Y8k 7 rfl rfl one3 rfl rfl <| zz 1 ?_
 refine J.aq rfl rfl rfl (zai _ Y5) <| J.aa zbg rfl rfl <| J.ae 7 rfl rfl rfl rfl [.int .i64 ((findV x.v.code).inn+(((x.v.imm.getD 0 0 / 16+x.v.imm.getD 0 0%16):Nat):Int))] rfl sz3 (Nat.le_of_ble_eq_true rfl) Y27 Y11 trivial (needC (findV x.v.code) ((findV x.v.code).inn+(((x.v.imm.getD 0 0 / 16+x.v.imm.getD 0 0%16):Nat):Int)) ((findV x.v.code).out)) rfl <| zz 3 ?_
 refine J.aa zbf rfl rfl <| J.ag Y8k 7 rfl rfl one3 rfl rfl <| zz 1 ?_
 refine J.aq rfl rfl rfl (zai _ Y5) <| J.aa zbf rfl rfl <| J.ae 7 rfl rfl rfl rfl [.int .i64 ((findV x.v.code).out+(((x.v.imm.getD 0 0 / 16+x.v.imm.getD 0 0%16):Nat):Int))] rfl sz3 (Nat.le_of_ble_eq_true rfl) Y27 Y11 trivial (needC (findV x.v.code) ((findV x.v.code).inn+(((x.v.imm.getD 0 0 / 16+x.v.imm.getD 0 0%16):Nat):Int)) ((findV x.v.code).out+(((x.v.imm.getD 0 0 / 16+x.v.imm.getD 0 0%16):Nat):Int))) rfl <| zz 4 ?_
 refine T.ae [] [(0,.g),(1,.q),(2,.g),(3,.q),(4,.g),(5,.g),(6,.g)] Y12 Y12 ?_ Y2
 refine J.aa zbg rfl rfl <| J.ag Y8k 7 rfl rfl one3 rfl rfl <| J.aa zbf rfl rfl <| J.ag Y8k 7 rfl rfl one3 rfl rfl <| zz 6 ?_
 exact X.ak rfl (RV.tmp rfl) (RV.tmp rfl) (RV.tmp rfl) (fun w' hw'=>⟨by unfold needsV;first | (rw [if_pos Y5];done) | (rw [if_neg Y5,if_pos Y5];done) | (rw [if_neg Y5,if_neg Y5];done) | (rw [if_pos Y5];rfl) | (rw [if_neg Y5,if_pos Y5];rfl) | (rw [if_neg Y5,if_neg Y5];rfl),hw'.s0⟩)
 refine zz 4 ?_
 refine T.ae [] [(0,.g),(1,.q),(2,.g),(3,.q),(4,.g),(5,.g),(6,.g)] Y12 Y12 ?_ Y2
 refine J.aa zbg rfl rfl <| J.ag Y8k 7 rfl rfl one3 rfl rfl <| J.aa zbf rfl rfl <| J.ag Y8k 7 rfl rfl one3 rfl rfl <| zz 6 ?_
 exact X.ak rfl (RV.tmp rfl) (RV.tmp rfl) (RV.tmp rfl) (fun w' hw'=>⟨by unfold needsV;first | (rw [if_pos Y5];done) | (rw [if_neg Y5,if_pos Y5];done) | (rw [if_neg Y5,if_neg Y5];done) | (rw [if_pos Y5];rfl) | (rw [if_neg Y5,if_pos Y5];rfl) | (rw [if_neg Y5,if_neg Y5];rfl),hw'.s0⟩)
theorem callee (w:World) (x:InR) (hs:x.v.Fine) (hA:Cs w x.A (rowN .u8 x.v.imm)) (g:Nat) (types:List TyV) (own:TyV) (tA lA:Option Addr) (tC nl lC gm:Nat) (hp:Cs w (some ⟨g,0,none⟩) (passC tA types.length tC own lA nl lC gm)) (hT:Cs w tA (rowTy types)) (hn:(namedP x.v).1 < types.length):
    Calls prog 204 [.pointer (some ⟨g,0,none⟩),.agg x.cells.toArray].toArray w fun e w'=>e=.returned (.agg (calleeV types x.v).cells.toArray)∧WS w [] [] w':=by
 refine zac [] 19 [] func204 rfl ntmps204 Y20 (WS.refl _ _) <| zz 2 ?_
 refine J.aE 3 rfl rfl (x.cells) rfl rfl fun g3 hg3=>J.am 4 rfl zcD zc10 rfl rfl fun g4 hg4=>zz 4 ?_
 refine J.ai Y8k 3 rfl rfl zaC (x.cells) rfl rfl rfl <| J.aj Y8k zjn rfl rfl (fun w hw=>Vi.Named w x hs (hA.ws hw (zab _))) ?_
 refine zz 11 ?_
 refine J.aa zdl rfl rfl <| J.aK Y8k hp (zab _) rfl zby rfl rfl <| zz 1 ?_
 refine J.ah zfr rfl (hT.isSome Y179) rfl Y5 Y5 Y8 rfl <| J.ar Y8k hT (zab _) rfl zdy ((types.getD (namedP x.v).1 default).cells) rfl (zbS types (namedP x.v).1 Y5) rfl <| J.ae 4 rfl rfl rfl rfl ((calleeV types x.v).cells) rfl zgj (Nat.le_of_ble_eq_true rfl) Y126 (Nat.zero_lt_succ _) trivial ((calleeV types x.v).cells) rfl <| zz 3 ?_
 exact X.aa rfl (RV.agg 4 rfl rfl zdy ((calleeV types x.v).cells) Y22 Y22 rfl) (fun w' hw'=>⟨rfl,hw'.s0⟩)
theorem turns (w:World) (x:InR) (hs:x.v.Fine) (hA:Cs w x.A (rowN .u8 x.v.imm)) (g:Nat) (types:List TyV) (own:TyV) (tA lA:Option Addr) (tC nl lC gm:Nat) (hp:Cs w (some ⟨g,0,none⟩) (passC tA types.length tC own lA nl lC gm)) (hT:Cs w tA (rowTy types)) (hg:goesV types own x.v):
    Calls prog 188 [.pointer (some ⟨g,0,none⟩),.agg x.cells.toArray].toArray w fun e w'=>e=.returned (.tuple #[.int .i64 (turnsV types own x.v).1,.int .i64 (turnsV types own x.v).2])∧WS w [] [] w':=by
 refine zac [] 42 [] func188 rfl ntmps188 Y20 (WS.refl _ _) <| zz 2 ?_
 refine J.aE 3 rfl rfl (x.cells) rfl rfl fun g3 hg3=>zz 7 ?_
 refine J.aa zat rfl rfl <| J.ag Y8k 3 rfl rfl one3 Y3 rfl <| zz 9 ?_
 refine T.aa rfl (fun h1=>?_) (fun h1=>?_)
 refine zz 3 ?_
 refine J.ai Y8k 3 rfl rfl zaC (x.cells) rfl rfl rfl <| J.aj Y8k zgL rfl rfl (fun w hw=>Ue.callee w x hs (hA.ws hw (zab _)) g types own tA lA tC nl lC gm (hp.ws hw (zab _)) (hT.ws hw (zab _)) (hg.2 Y5).1) ?_
 refine J.am 6 rfl zcD zc10 rfl rfl fun g6 hg6=>J.ae 6 rfl rfl rfl rfl ((calleeV types x.v).cells) rfl zgj (Nat.le_of_ble_eq_true rfl) Y126 (Nat.zero_lt_succ _) trivial ((calleeV types x.v).cells) rfl <| zz 3 ?_
 refine T.ae [] [(0,.g),(1,.q),(2,.g),(3,.q),(4,.g),(5,.g)] Y12 Y12 ?_ Y2
 refine J.aa zbO rfl rfl <| J.ag Y8k 6 rfl rfl one3 Y3 rfl <| J.aa zam rfl rfl <| J.ag Y8k 6 rfl rfl one3 Y3 rfl <| zz 7 ?_
 exact X.ag rfl (RV.tmp rfl) (RV.tmp rfl) (fun w' hw'=>⟨by unfold turnsV;first | (rw [if_pos Y5];done) | (rw [if_neg Y5,if_pos Y5];done) | (rw [if_neg Y5,if_neg Y5,if_pos Y5];done) | (rw [if_neg Y5,if_neg Y5,if_neg Y5];done) | (rw [if_pos Y5];rfl) | (rw [if_neg Y5,if_pos Y5];rfl) | (rw [if_neg Y5,if_neg Y5,if_pos Y5];rfl) | (rw [if_neg Y5,if_neg Y5,if_neg Y5];rfl),hw'.s0⟩)
 refine zz 6 ?_
 refine T.aa rfl (fun h2=>?_) (fun h2=>?_)
 refine zz 3 ?_
 refine J.ai Y8k 3 rfl rfl zaC (x.cells) rfl rfl rfl <| J.aj Y8k zgL rfl rfl (fun w hw=>Ue.callee w x hs (hA.ws hw (zab _)) g types own tA lA tC nl lC gm (hp.ws hw (zab _)) (hT.ws hw (zab _)) (hg.2 Y5).1) ?_
 refine J.bH zbO one3 rfl rfl rfl <| zz 7 ?_
 exact X.ag rfl (RV.tmp rfl) (RV.tmp rfl) (fun w' hw'=>⟨by unfold turnsV;first | (rw [if_pos Y5];done) | (rw [if_neg Y5,if_pos Y5];done) | (rw [if_neg Y5,if_neg Y5,if_pos Y5];done) | (rw [if_neg Y5,if_neg Y5,if_neg Y5];done) | (rw [if_pos Y5];rfl) | (rw [if_neg Y5,if_pos Y5];rfl) | (rw [if_neg Y5,if_neg Y5,if_pos Y5];rfl) | (rw [if_neg Y5,if_neg Y5,if_neg Y5];rfl),hw'.s0⟩)
 refine zz 6 ?_
 refine T.aa rfl (fun h3=>?_) (fun h3=>?_)
 refine zz 4 ?_
 refine J.aa zbA rfl rfl <| J.aa zam rfl rfl <| J.aK Y8k hp (zab _) rfl one3 rfl rfl <| zz 7 ?_
 exact X.ag rfl (RV.tmp rfl) (RV.tmp rfl) (fun w' hw'=>⟨by unfold turnsV;first | (rw [if_pos Y5];done) | (rw [if_neg Y5,if_pos Y5];done) | (rw [if_neg Y5,if_neg Y5,if_pos Y5];done) | (rw [if_neg Y5,if_neg Y5,if_neg Y5];done) | (rw [if_pos Y5];rfl) | (rw [if_neg Y5,if_pos Y5];rfl) | (rw [if_neg Y5,if_neg Y5,if_pos Y5];rfl) | (rw [if_neg Y5,if_neg Y5,if_neg Y5];rfl),hw'.s0⟩)
 refine zz 5 ?_
 refine J.aa zat rfl rfl <| J.ag Y8k 3 rfl rfl one3 Y3 rfl <| J.aa zcc rfl rfl <| J.ag Y8k 3 rfl rfl zaw Y3 rfl <| J.aj Y8k zue rfl rfl (fun w hw=>Ue.Needs w x hs (hA.ws hw (zab _))) ?_
 refine zz 17 ?_
 exact X.ag rfl (RV.tmp rfl) (RV.tmp rfl) (fun w' hw'=>⟨by unfold turnsV;first | (rw [if_pos Y5];done) | (rw [if_neg Y5,if_pos Y5];done) | (rw [if_neg Y5,if_neg Y5,if_pos Y5];done) | (rw [if_neg Y5,if_neg Y5,if_neg Y5];done) | (rw [if_pos Y5];rfl) | (rw [if_neg Y5,if_pos Y5];rfl) | (rw [if_neg Y5,if_neg Y5,if_pos Y5];rfl) | (rw [if_neg Y5,if_neg Y5,if_neg Y5];rfl),hw'.s0⟩)
theorem named (w:World) (x:InR) (hs:x.v.Fine) (hA:Cs w x.A (rowN .u8 x.v.imm)) (g:Nat) (types:List TyV) (own:TyV) (tA lA:Option Addr) (tC nl lC gm:Nat) (hp:Cs w (some ⟨g,0,none⟩) (passC tA types.length tC own lA nl lC gm)) (hT:Cs w tA (rowTy types)):
    Calls prog 203 [.pointer (some ⟨g,0,none⟩),.agg x.cells.toArray].toArray w fun e w'=>e=.returned (.bool (decide (goesV types own x.v)))∧WS w [] [] w':=by
 refine zac [] 76 [] func203 rfl ntmps203 Y20 (WS.refl _ _) <| zz 2 ?_
 refine J.aE 3 rfl rfl (x.cells) rfl rfl fun g3 hg3=>zz 6 ?_
 refine J.aa zat rfl rfl <| J.ag Y8k 3 rfl rfl one3 Y3 rfl <| zz 3 ?_
 refine T.aa rfl (fun h1=>?_) (fun h1=>?_)
 refine zz 4 ?_
 refine J.aa zbA rfl rfl <| J.aa zam rfl rfl <| J.aK Y8k hp (zab _) rfl one3 rfl rfl <| zz 6 ?_
 exact X.aa rfl (RV.tmp rfl) (fun w' hw'=>⟨congrArg Ending.returned Y103,hw'.s0⟩)
 refine zz 5 ?_
 refine J.aa zat rfl rfl <| J.ag Y8k 3 rfl rfl one3 Y3 rfl <| zz 2 ?_
 refine J.an 20 rfl (fun h2=>?_) (fun h2=>?_)
 refine zz 1 ?_
 refine J.aa zat rfl rfl <| zz 1 ?_
 refine J.ag Y8k 3 rfl rfl one3 Y3 rfl <| zz 4 ?_
 refine T.aa rfl (fun h3=>?_) (fun h3=>?_)
 refine zz 7 ?_
 exact X.aa rfl (RV.tmp rfl) (fun w' hw'=>⟨congrArg Ending.returned Y103,hw'.s0⟩)
 refine zz 4 ?_
 refine J.ai Y8k 3 rfl rfl zaC (x.cells) rfl rfl rfl <| J.aj Y8k zjn rfl rfl (fun w hw=>Vi.Named w x hs (hA.ws hw (zab _))) ?_
 refine zz 13 ?_
 refine J.aa zdl rfl rfl <| J.aK Y8k hp (zab _) rfl zby rfl rfl <| J.al underlying120 rfl rfl <| zz 3 ?_
 refine T.aa rfl (fun h4=>?_) (fun h4=>?_)
 refine zz 7 ?_
 exact X.aa rfl (RV.tmp rfl) (fun w' hw'=>⟨congrArg Ending.returned Y103,hw'.s0⟩)
 have hn:(namedP x.v).1 < types.length:=by omega
 refine zz 6 ?_
 refine J.aa zdl rfl rfl <| J.aK Y8k hp (zab _) rfl zby rfl rfl <| zz 1 ?_
 refine J.ah zfr rfl (hT.isSome Y179) rfl Y5 Y5 Y8 rfl <| J.ak zam rfl rfl <| J.av Y8k hT (zab _) rfl one3 Y155 rfl <| zz 8 ?_
 refine J.aa zat rfl rfl <| J.ag Y8k 3 rfl rfl one3 Y3 rfl <| zz 4 ?_
 refine T.aa rfl (fun h5=>?_) (fun h5=>?_)
 refine zz 3 ?_
 refine J.aA rfl rfl Y18 <| zz 6 ?_
 exact X.aa rfl (RV.tmp rfl) (fun w' hw'=>⟨congrArg Ending.returned Y103,hw'.s0⟩)
 refine zz 6 ?_
 refine T.aa rfl (fun h6=>?_) (fun h6=>?_)
 refine zz 8 ?_
 exact X.aa rfl (RV.tmp rfl) (fun w' hw'=>⟨congrArg Ending.returned Y103,hw'.s0⟩)
 refine zz 4 ?_
 refine T.ae [] [(0,.g),(1,.g),(2,.g),(3,.g),(4,.q),(5,.g),(6,.g),(7,.g),(8,.g),(9,.g),(10,.q),(11,.g),(12,.g),(13,.g),(14,.q),(15,.g),(16,.g),(17,.g),(18,.g),(19,.q),(20,.g),(21,.g),(22,.g)] Y12 Y12 ?_ Y2
 refine zz 2 ?_
 refine J.aa zbA rfl rfl <| J.aa zam rfl rfl <| J.aK Y8k hp (zab _) rfl one3 rfl rfl <| zz 2 ?_
 refine J.an 60 rfl (fun h7=>?_) (fun h7=>?_)
 refine zz 3 ?_
 refine J.aa zdl rfl rfl <| zz 1 ?_
 refine J.aK Y8k hp (zab _) rfl zby rfl rfl <| zz 2 ?_
 refine J.ah zfr rfl (hT.isSome Y179) rfl Y5 Y5 Y8 rfl <| zz 1 ?_
 refine J.ak zam rfl rfl <| zz 1 ?_
 refine J.av Y8k hT (zab _) rfl one3 Y155 rfl <| zz 3 ?_
 refine J.aa zbA rfl rfl <| zz 1 ?_
 refine J.aa zam rfl rfl <| zz 1 ?_
 refine J.aK Y8k hp (zab _) rfl one3 rfl rfl <| zz 6 ?_
 exact X.aa rfl (RV.tmp rfl) (fun w' hw'=>⟨congrArg Ending.returned Y103,hw'.s0⟩)
 refine zz 19 ?_
 exact X.aa rfl (RV.tmp rfl) (fun w' hw'=>⟨congrArg Ending.returned Y103,hw'.s0⟩)
 refine zz 11 ?_
 refine J.ai Y8k 3 rfl rfl zaC (x.cells) rfl rfl rfl <| J.aj Y8k zjn rfl rfl (fun w hw=>Vi.Named w x hs (hA.ws hw (zab _))) ?_
 refine zz 13 ?_
 refine J.aa zdl rfl rfl <| J.aK Y8k hp (zab _) rfl zby rfl rfl <| J.al underlying120 rfl rfl <| zz 3 ?_
 refine T.aa rfl (fun h8=>?_) (fun h8=>?_)
 refine zz 7 ?_
 exact X.aa rfl (RV.tmp rfl) (fun w' hw'=>⟨congrArg Ending.returned Y103,hw'.s0⟩)
 have hn:(namedP x.v).1 < types.length:=by omega
 refine zz 6 ?_
 refine J.aa zdl rfl rfl <| J.aK Y8k hp (zab _) rfl zby rfl rfl <| zz 1 ?_
 refine J.ah zfr rfl (hT.isSome Y179) rfl Y5 Y5 Y8 rfl <| J.ak zam rfl rfl <| J.av Y8k hT (zab _) rfl one3 Y155 rfl <| zz 8 ?_
 refine J.aa zat rfl rfl <| J.ag Y8k 3 rfl rfl one3 Y3 rfl <| zz 4 ?_
 refine T.aa rfl (fun h9=>?_) (fun h9=>?_)
 refine zz 3 ?_
 refine J.aA rfl rfl Y18 <| zz 6 ?_
 exact X.aa rfl (RV.tmp rfl) (fun w' hw'=>⟨congrArg Ending.returned Y103,hw'.s0⟩)
 refine zz 6 ?_
 refine T.aa rfl (fun h10=>?_) (fun h10=>?_)
 refine zz 8 ?_
 exact X.aa rfl (RV.tmp rfl) (fun w' hw'=>⟨congrArg Ending.returned Y103,hw'.s0⟩)
 refine zz 4 ?_
 refine T.ae [] [(0,.g),(1,.g),(2,.g),(3,.g),(4,.q),(5,.g),(6,.g),(7,.g),(8,.g),(9,.g),(10,.q),(11,.g),(12,.g),(13,.g),(14,.q),(15,.g),(16,.g),(17,.g),(18,.g),(19,.q),(20,.g),(21,.g),(22,.g)] Y12 Y12 ?_ Y2
 refine zz 2 ?_
 refine J.aa zbA rfl rfl <| J.aa zam rfl rfl <| J.aK Y8k hp (zab _) rfl one3 rfl rfl <| zz 2 ?_
 refine J.an 60 rfl (fun h11=>?_) (fun h11=>?_)
 refine zz 3 ?_
 refine J.aa zdl rfl rfl <| zz 1 ?_
 refine J.aK Y8k hp (zab _) rfl zby rfl rfl <| zz 2 ?_
 refine J.ah zfr rfl (hT.isSome Y179) rfl Y5 Y5 Y8 rfl <| zz 1 ?_
 refine J.ak zam rfl rfl <| zz 1 ?_
 refine J.av Y8k hT (zab _) rfl one3 Y155 rfl <| zz 3 ?_
 refine J.aa zbA rfl rfl <| zz 1 ?_
 refine J.aa zam rfl rfl <| zz 1 ?_
 refine J.aK Y8k hp (zab _) rfl one3 rfl rfl <| zz 6 ?_
 exact X.aa rfl (RV.tmp rfl) (fun w' hw'=>⟨congrArg Ending.returned Y103,hw'.s0⟩)
 refine zz 19 ?_
 exact X.aa rfl (RV.tmp rfl) (fun w' hw'=>⟨congrArg Ending.returned Y103,hw'.s0⟩)
theorem wrong (w:World) (x:InR) (hs:x.v.Fine) (hA:Cs w x.A (rowN .u8 x.v.imm)) (g:Nat) (types:List TyV) (own:TyV) (tA lA:Option Addr) (tC nl lC gm:Nat) (hp:Cs w (some ⟨g,0,none⟩) (passC tA types.length tC own lA nl lC gm)) (hT:Cs w tA (rowTy types)) (hg:goesV types own x.v) (ht:∀ t∈types,t.mid) (ho:own.mid) (lo hi:Int) (hh:HtOk (lo,hi)):
    Calls prog 186 [.pointer (some ⟨g,0,none⟩),.agg x.cells.toArray,.agg ([.int .i64 lo,.int .i64 hi]:List Value).toArray].toArray w fun e w'=>e=.returned (.int .i64 (wrongV types own x.v (lo,hi)))∧WS w [] [] w':=by
 obtain ⟨ti1,ti2,ti3,ti4⟩:=zhR ht ho hs hg
 obtain ⟨hh1,hh2,hh3⟩:=hh
 obtain ⟨ow1,ow2,ow3,ow4,ow5,ow6⟩:=ho
 have hcm:x.v.code=227∨x.v.code=229→(calleeV types x.v).mid:=fun q=>zfG ht (hg.2 q).1
 dsimp only at hh1 hh2 hh3
 refine zac [] 81 [] func186 rfl ntmps186 Y20 (WS.refl _ _) <| zz 2 ?_
 refine J.aE 4 rfl rfl (x.cells) rfl rfl fun g4 hg4=>J.aE 5 rfl rfl [.int .i64 lo,.int .i64 hi] rfl rfl fun g5 hg5=>zz 6 ?_
 refine J.ai Y8k 4 rfl rfl zaC (x.cells) rfl rfl rfl <| J.aj Y8k zqK rfl rfl (fun w hw=>Ue.turns w x hs (hA.ws hw (zab _)) g types own tA lA tC nl lC gm (hp.ws hw (zab _)) (hT.ws hw (zab _)) hg) ?_
 refine zz 10 ?_
 refine J.aa zat rfl rfl <| J.ag Y8k 4 rfl rfl one3 Y3 rfl <| zz 3 ?_
 refine T.aa rfl (fun h1=>?_) (fun h1=>?_)
 refine zz 3 ?_
 refine J.ai Y8k 5 rfl rfl zeu [.int .i64 lo,.int .i64 hi] rfl rfl rfl <| zz 2 ?_
 refine J.ao rfl rfl (.agg ([.int .i64 (turnsV types own x.v).1,.int .i64 (turnsV types own x.v).1]:List Value).toArray) Y191 <| J.bz spT rfl rfl rfl <| zz 2 ?_
 refine T.aa rfl (fun h2=>?_) (fun h2=>?_)
 refine zz 8 ?_
 exact X.aa rfl (RV.tmp rfl) (fun w' hw'=>⟨congrArg (fun z=>Ending.returned (.int .i64 z)) (Eq.symm Y106),hw'.s0⟩)
 refine zz 9 ?_
 exact X.aa rfl (RV.tmp rfl) (fun w' hw'=>⟨congrArg (fun z=>Ending.returned (.int .i64 z)) (Eq.symm Y106),hw'.s0⟩)
 refine zz 5 ?_
 refine J.aa zff rfl rfl <| J.ag Y8k 5 rfl rfl one3 rfl rfl <| zz 4 ?_
 refine T.aa rfl (fun h3=>?_) (fun h3=>?_)
 refine zz 7 ?_
 exact X.aa rfl (RV.tmp rfl) (fun w' hw'=>⟨congrArg (fun z=>Ending.returned (.int .i64 z)) (Eq.symm Y106),hw'.s0⟩)
 refine zz 5 ?_
 refine J.aa zat rfl rfl <| J.ag Y8k 4 rfl rfl one3 Y3 rfl <| zz 2 ?_
 refine J.an 32 rfl (fun h4=>?_) (fun h4=>?_)
 refine zz 8 ?_
 refine T.ae [] [(0,.g),(1,.q),(2,.g),(3,.g),(4,.g),(5,.q),(6,.q),(7,.g),(8,.g),(9,.g)] Y12 Y12 ?_ Y2
 refine J.aa zca rfl rfl <| J.ag Y8k 5 rfl rfl one3 rfl rfl <| zz 1 ?_
 refine J.aI rfl rfl rfl (zai _ Y5) <| zz 1 ?_
 refine J.ai Y8k 4 rfl rfl zaC (x.cells) rfl rfl rfl <| J.aj Y8k zgL rfl rfl (fun w hw=>Ue.callee w x hs (hA.ws hw (zab _)) g types own tA lA tC nl lC gm (hp.ws hw (zab _)) (hT.ws hw (zab _)) (hg.2 Y5).1) ?_
 refine J.bH zek one3 rfl rfl rfl <| J.aq rfl rfl rfl (zai _ Y139) <| zz 3 ?_
 refine T.aa rfl (fun h5=>?_) (fun h5=>?_)
 refine zz 7 ?_
 exact X.aa rfl (RV.tmp rfl) (fun w' hw'=>⟨congrArg (fun z=>Ending.returned (.int .i64 z)) (Eq.symm Y106),hw'.s0⟩)
 refine zz 5 ?_
 refine J.aa zat rfl rfl <| J.ag Y8k 4 rfl rfl one3 Y3 rfl <| zz 3 ?_
 refine T.aa rfl (fun h6=>?_) (fun h6=>?_)
 refine zz 3 ?_
 refine J.ai Y8k 4 rfl rfl zaC (x.cells) rfl rfl rfl <| J.aj Y8k zgL rfl rfl (fun w hw=>Ue.callee w x hs (hA.ws hw (zab _)) g types own tA lA tC nl lC gm (hp.ws hw (zab _)) (hT.ws hw (zab _)) (hg.2 Y5).1) ?_
 refine J.am 9 rfl zcD zc10 rfl rfl fun g9 hg9=>J.ae 9 rfl rfl rfl rfl ((calleeV types x.v).cells) rfl zgj (Nat.le_of_ble_eq_true rfl) Y126 (Nat.zero_lt_succ _) trivial ((calleeV types x.v).cells) rfl <| zz 3 ?_
 refine T.ae [] [(0,.g),(1,.g),(2,.g),(3,.g),(4,.q),(5,.g),(6,.q),(7,.g),(8,.g),(9,.q),(10,.g),(11,.g)] Y12 Y12 ?_ Y2
 refine zz 2 ?_
 refine J.aa zbA rfl rfl <| J.aa zam rfl rfl <| J.aK Y8k hp (zab _) rfl one3 rfl rfl <| J.aa zam rfl rfl <| J.ag Y8k 9 rfl rfl one3 Y3 rfl <| J.aI rfl rfl rfl (zai _ Y139) <| J.aa zbO rfl rfl <| J.ag Y8k 9 rfl rfl one3 Y3 rfl ?_
 refine J.aq rfl rfl rfl (zai _ Y139) <| zz 6 ?_
 refine J.aa zam rfl rfl <| J.ag Y8k 9 rfl rfl one3 Y3 rfl <| zz 2 ?_
 refine J.an 67 rfl (fun h7=>?_) (fun h7=>?_)
 refine zz 1 ?_
 refine J.ai Y8k 5 rfl rfl zeu [.int .i64 lo,.int .i64 hi] rfl rfl rfl <| zz 3 ?_
 refine J.ao rfl rfl (.agg ([.int .i64 (own.out - (calleeV types x.v).out+(calleeV types x.v).inn),.int .i64 (own.out - (calleeV types x.v).out+(calleeV types x.v).inn)]:List Value).toArray) Y191 <| zz 1 ?_
 refine J.bz spT rfl rfl rfl <| zz 3 ?_
 refine T.aa rfl (fun h8=>?_) (fun h8=>?_)
 refine zz 8 ?_
 exact X.aa rfl (RV.tmp rfl) (fun w' hw'=>⟨congrArg (fun z=>Ending.returned (.int .i64 z)) (Eq.symm Y106),hw'.s0⟩)
 refine zz 9 ?_
 exact X.aa rfl (RV.tmp rfl) (fun w' hw'=>⟨congrArg (fun z=>Ending.returned (.int .i64 z)) (Eq.symm Y106),hw'.s0⟩)
 refine zz 18 ?_
 exact X.aa rfl (RV.tmp rfl) (fun w' hw'=>⟨congrArg (fun z=>Ending.returned (.int .i64 z)) (Eq.symm Y106),hw'.s0⟩)
 refine zz 5 ?_
 refine J.aa zca rfl rfl <| J.ag Y8k 5 rfl rfl one3 rfl rfl <| zz 1 ?_
 refine J.aI rfl rfl rfl (zai _ Y5) <| zz 1 ?_
 refine J.aq rfl rfl rfl (zai _ Y5) <| zz 3 ?_
 refine T.aa rfl (fun h9=>?_) (fun h9=>?_)
 refine zz 7 ?_
 exact X.aa rfl (RV.tmp rfl) (fun w' hw'=>⟨congrArg (fun z=>Ending.returned (.int .i64 z)) (Eq.symm Y106),hw'.s0⟩)
 refine zz 8 ?_
 exact X.aa rfl (RV.tmp rfl) (fun w' hw'=>⟨congrArg (fun z=>Ending.returned (.int .i64 z)) (Eq.symm Y106),hw'.s0⟩)
 refine zz 1 ?_
 refine J.aa zat rfl rfl <| zz 1 ?_
 refine J.ag Y8k 4 rfl rfl one3 Y3 rfl <| zz 4 ?_
 refine T.aa rfl (fun h10=>?_) (fun h10=>?_)
 refine zz 1 ?_
 refine T.ae [] [(0,.g),(1,.q),(2,.g),(3,.g),(4,.g),(5,.q),(6,.q),(7,.g),(8,.g),(9,.g)] Y12 Y12 ?_ Y2
 refine J.aa zca rfl rfl <| J.ag Y8k 5 rfl rfl one3 rfl rfl <| zz 1 ?_
 refine J.aI rfl rfl rfl (zai _ Y5) <| zz 1 ?_
 refine J.ai Y8k 4 rfl rfl zaC (x.cells) rfl rfl rfl <| J.aj Y8k zgL rfl rfl (fun w hw=>Ue.callee w x hs (hA.ws hw (zab _)) g types own tA lA tC nl lC gm (hp.ws hw (zab _)) (hT.ws hw (zab _)) (hg.2 Y5).1) ?_
 refine J.bH zek one3 rfl rfl rfl <| J.aq rfl rfl rfl (zai _ Y139) <| zz 3 ?_
 refine T.aa rfl (fun h11=>?_) (fun h11=>?_)
 refine zz 7 ?_
 exact X.aa rfl (RV.tmp rfl) (fun w' hw'=>⟨congrArg (fun z=>Ending.returned (.int .i64 z)) (Eq.symm Y106),hw'.s0⟩)
 refine zz 5 ?_
 refine J.aa zat rfl rfl <| J.ag Y8k 4 rfl rfl one3 Y3 rfl <| zz 3 ?_
 refine T.aa rfl (fun h12=>?_) (fun h12=>?_)
 refine zz 3 ?_
 refine J.ai Y8k 4 rfl rfl zaC (x.cells) rfl rfl rfl <| J.aj Y8k zgL rfl rfl (fun w hw=>Ue.callee w x hs (hA.ws hw (zab _)) g types own tA lA tC nl lC gm (hp.ws hw (zab _)) (hT.ws hw (zab _)) (hg.2 Y5).1) ?_
 refine J.am 9 rfl zcD zc10 rfl rfl fun g9 hg9=>J.ae 9 rfl rfl rfl rfl ((calleeV types x.v).cells) rfl zgj (Nat.le_of_ble_eq_true rfl) Y126 (Nat.zero_lt_succ _) trivial ((calleeV types x.v).cells) rfl <| zz 3 ?_
 refine T.ae [] [(0,.g),(1,.g),(2,.g),(3,.g),(4,.q),(5,.g),(6,.q),(7,.g),(8,.g),(9,.q),(10,.g),(11,.g)] Y12 Y12 ?_ Y2
 refine zz 2 ?_
 refine J.aa zbA rfl rfl <| J.aa zam rfl rfl <| J.aK Y8k hp (zab _) rfl one3 rfl rfl <| J.aa zam rfl rfl <| J.ag Y8k 9 rfl rfl one3 Y3 rfl <| J.aI rfl rfl rfl (zai _ Y139) <| J.aa zbO rfl rfl <| J.ag Y8k 9 rfl rfl one3 Y3 rfl ?_
 refine J.aq rfl rfl rfl (zai _ Y139) <| zz 6 ?_
 refine J.aa zam rfl rfl <| J.ag Y8k 9 rfl rfl one3 Y3 rfl <| zz 2 ?_
 refine J.an 67 rfl (fun h13=>?_) (fun h13=>?_)
 refine zz 1 ?_
 refine J.ai Y8k 5 rfl rfl zeu [.int .i64 lo,.int .i64 hi] rfl rfl rfl <| zz 3 ?_
 refine J.ao rfl rfl (.agg ([.int .i64 (own.out - (calleeV types x.v).out+(calleeV types x.v).inn),.int .i64 (own.out - (calleeV types x.v).out+(calleeV types x.v).inn)]:List Value).toArray) Y191 <| zz 1 ?_
 refine J.bz spT rfl rfl rfl <| zz 3 ?_
 refine T.aa rfl (fun h14=>?_) (fun h14=>?_)
 refine zz 8 ?_
 exact X.aa rfl (RV.tmp rfl) (fun w' hw'=>⟨congrArg (fun z=>Ending.returned (.int .i64 z)) (Eq.symm Y106),hw'.s0⟩)
 refine zz 9 ?_
 exact X.aa rfl (RV.tmp rfl) (fun w' hw'=>⟨congrArg (fun z=>Ending.returned (.int .i64 z)) (Eq.symm Y106),hw'.s0⟩)
 refine zz 18 ?_
 exact X.aa rfl (RV.tmp rfl) (fun w' hw'=>⟨congrArg (fun z=>Ending.returned (.int .i64 z)) (Eq.symm Y106),hw'.s0⟩)
 refine zz 5 ?_
 refine J.aa zca rfl rfl <| J.ag Y8k 5 rfl rfl one3 rfl rfl <| zz 1 ?_
 refine J.aI rfl rfl rfl (zai _ Y5) <| zz 1 ?_
 refine J.aq rfl rfl rfl (zai _ Y5) <| zz 3 ?_
 refine T.aa rfl (fun h15=>?_) (fun h15=>?_)
 refine zz 7 ?_
 exact X.aa rfl (RV.tmp rfl) (fun w' hw'=>⟨congrArg (fun z=>Ending.returned (.int .i64 z)) (Eq.symm Y106),hw'.s0⟩)
 refine zz 8 ?_
 exact X.aa rfl (RV.tmp rfl) (fun w' hw'=>⟨congrArg (fun z=>Ending.returned (.int .i64 z)) (Eq.symm Y106),hw'.s0⟩)
 refine zz 5 ?_
 refine J.aa zat rfl rfl <| J.ag Y8k 4 rfl rfl one3 Y3 rfl <| zz 3 ?_
 refine T.aa rfl (fun h16=>?_) (fun h16=>?_)
 refine zz 3 ?_
 refine J.ai Y8k 4 rfl rfl zaC (x.cells) rfl rfl rfl <| J.aj Y8k zgL rfl rfl (fun w hw=>Ue.callee w x hs (hA.ws hw (zab _)) g types own tA lA tC nl lC gm (hp.ws hw (zab _)) (hT.ws hw (zab _)) (hg.2 Y5).1) ?_
 refine J.am 9 rfl zcD zc10 rfl rfl fun g9 hg9=>J.ae 9 rfl rfl rfl rfl ((calleeV types x.v).cells) rfl zgj (Nat.le_of_ble_eq_true rfl) Y126 (Nat.zero_lt_succ _) trivial ((calleeV types x.v).cells) rfl <| zz 3 ?_
 refine T.ae [] [(0,.g),(1,.g),(2,.g),(3,.g),(4,.q),(5,.g),(6,.q),(7,.g),(8,.g),(9,.q),(10,.g),(11,.g)] Y12 Y12 ?_ Y2
 refine zz 2 ?_
 refine J.aa zbA rfl rfl <| J.aa zam rfl rfl <| J.aK Y8k hp (zab _) rfl one3 rfl rfl <| J.aa zam rfl rfl <| J.ag Y8k 9 rfl rfl one3 Y3 rfl <| J.aI rfl rfl rfl (zai _ Y139) <| J.aa zbO rfl rfl <| J.ag Y8k 9 rfl rfl one3 Y3 rfl ?_
 refine J.aq rfl rfl rfl (zai _ Y139) <| zz 6 ?_
 refine J.aa zam rfl rfl <| J.ag Y8k 9 rfl rfl one3 Y3 rfl <| zz 2 ?_
 refine J.an 67 rfl (fun h17=>?_) (fun h17=>?_)
 refine zz 1 ?_
 refine J.ai Y8k 5 rfl rfl zeu [.int .i64 lo,.int .i64 hi] rfl rfl rfl <| zz 3 ?_
 refine J.ao rfl rfl (.agg ([.int .i64 (own.out - (calleeV types x.v).out+(calleeV types x.v).inn),.int .i64 (own.out - (calleeV types x.v).out+(calleeV types x.v).inn)]:List Value).toArray) Y191 <| zz 1 ?_
 refine J.bz spT rfl rfl rfl <| zz 3 ?_
 refine T.aa rfl (fun h18=>?_) (fun h18=>?_)
 refine zz 8 ?_
 exact X.aa rfl (RV.tmp rfl) (fun w' hw'=>⟨congrArg (fun z=>Ending.returned (.int .i64 z)) (Eq.symm Y106),hw'.s0⟩)
 refine zz 9 ?_
 exact X.aa rfl (RV.tmp rfl) (fun w' hw'=>⟨congrArg (fun z=>Ending.returned (.int .i64 z)) (Eq.symm Y106),hw'.s0⟩)
 refine zz 18 ?_
 exact X.aa rfl (RV.tmp rfl) (fun w' hw'=>⟨congrArg (fun z=>Ending.returned (.int .i64 z)) (Eq.symm Y106),hw'.s0⟩)
 refine zz 5 ?_
 refine J.aa zca rfl rfl <| J.ag Y8k 5 rfl rfl one3 rfl rfl <| zz 1 ?_
 refine J.aI rfl rfl rfl (zai _ Y5) <| zz 1 ?_
 refine J.aq rfl rfl rfl (zai _ Y5) <| zz 3 ?_
 refine T.aa rfl (fun h19=>?_) (fun h19=>?_)
 refine zz 7 ?_
 exact X.aa rfl (RV.tmp rfl) (fun w' hw'=>⟨congrArg (fun z=>Ending.returned (.int .i64 z)) (Eq.symm Y106),hw'.s0⟩)
 refine zz 8 ?_
 exact X.aa rfl (RV.tmp rfl) (fun w' hw'=>⟨congrArg (fun z=>Ending.returned (.int .i64 z)) (Eq.symm Y106),hw'.s0⟩)
end Go.Proofs.YtlllcafedekojaaGreatDoor.Ue
namespace Go.Fz
open Go Go.Fw Go.Proofs.Tryz
theorem zqV:FnOk prog 153:=FnOk.mk' func153 Y12 rfl
theorem zqU:FnOk prog 154:=FnOk.mk' func154 Y12 rfl
theorem zod:FnOk prog 181:=FnOk.mk' func181 Y12 rfl
end Go.Fz
namespace Go.Proofs.YtlllcafedekojaaGreatDoor.Uf
open Go Go.Fw Go.Fz Go.Proofs.Tryz
attribute [local irreducible] J T X
theorem Check (w:World) (n:Nat) (hn:n≤w.heap.size) (B:List (Option Nat)) (hB:∀ g,some g∈B→g < w.heap.size) (bs:List Nat) (hd:Dg bs) (hl:bs.length≤1000000) (A:Option Addr) (c:Nat) (hc:bs.length≤c) (hA:Cs w A (rowN .u8 bs)):
    Calls prog 202 [.slice A bs.length c].toArray w fun e w'=>∃ q:Int×Int,(q.1=0↔checkV bs)∧e=.returned (.tuple #[.int .i64 q.1,.int .i64 q.2])∧WS w [] [] w':=by
 refine zac [] 56 [] func202 rfl ntmps202 Y20 (WS.refl _ _) <| zz 9 ?_
 refine J.aw zqV rfl rfl _ _ [] Y0 rfl (fun _ _=>Sub.nil _) (fun w hw=>Vg.Scan w bs hd Y5 A c hc (hA.ws hw (zab _)) n (Nat.le_trans hn hw.size) (B++ids []) (zaf (l1:=[]) hB hw Y0 rfl)) fun i14 W14 hP14 hW14=>?_
 obtain ⟨hm14,hle14,hf14,ha14⟩:=hP14
 have hVW14:=hW14.s0
 refine zz 16 ?_
 refine T.aa rfl (fun h1=>?_) (fun h1=>?_)
 have hne:=h1
 refine zz 10 ?_
 exact X.ag rfl (RV.tmp rfl) (RV.tmp rfl) (fun w' hw'=>⟨(scanE bs,_),⟨fun q=>absurd q hne,fun q=>absurd q.1 hne⟩,rfl,hw'.s0⟩)
 have he0:=Decidable.not_not.1 h1
 rw [if_pos he0] at hm14
 have hil:=zdg bs
 have hxl:i14.1.length=(insA bs 0).length:=by rw [← hm14,List.length_map]
 have hlz:=zaI bs.length (insA bs 0)
 refine zz 5 ?_
 refine J.aL zqU rfl rfl (ι:=Nat) (fun q=>w.heap.size≤q) (fun q=>.slice (some ⟨q,0,none⟩) bs.length bs.length) [] (fun q=>[(70,⟨some q,4,rowT (startsV bs.length (insA bs 0))⟩)]) (fun w hw=>(Calls.mono (Vg.Starts w bs hd Y5 A c hc (hA.ws hw (zab _))) fun e w2 ⟨g,h1,h2,h3⟩=>⟨g,Nat.le_trans hw.size h1,h2,h3.only 7 70 rfl⟩)) Y182 (fun _ _ _ _=>rfl) fun q23 hq23=>?_
 refine zz 7 ?_
 refine J.al underlying194 rfl rfl <| zz 4 ?_
 refine T.ag (ι:=Nat) (fun (k:Nat)=>k≤i14.1.length∧∀ q,q < k→leadOk (startsV bs.length (insA bs 0)) (i14.1.getD q default).v) (fun (k:Nat)=>[(0,.slice A bs.length c),(13,.slice A bs.length c),(15,.slice i14.2.1 i14.1.length i14.2.2.1),(16,.int .i64 (scanE bs)),(17,.int .i64 i14.2.2.2),(4,.slice i14.2.1 i14.1.length i14.2.2.1),(5,.int .i64 (scanE bs)),(6,.int .i64 i14.2.2.2),(18,.int .i64 (scanE bs)),(22,.slice A bs.length c),(23,.slice (some ⟨q23,0,none⟩) bs.length bs.length),(7,.slice (some ⟨q23,0,none⟩) bs.length bs.length),(24,.slice i14.2.1 i14.1.length i14.2.2.1),(25,.int .i64 ((i14.1.length:Nat):Int)),(26,.int .i64 ((k:Nat):Int))]) (fun (k:Nat)=>((70,⟨some q23,4,rowT (startsV bs.length (insA bs 0))⟩)::snapL W14 w.heap.size [])) (fun (k:Nat)=>i14.1.length - k) 0 ⟨Nat.zero_le _,fun q hq=>absurd hq (Nat.not_lt_zero q)⟩ Y0 Y0 ?_
 rintro k ⟨hk,hall⟩
 refine zz 6 ?_
 refine T.aa rfl (fun h2=>?_) (fun h2=>?_)
 have hk2:k < i14.1.length:=by omega
 have hsk:=zbl hd hl (zaP hm14 hk2)
 have hll:=zgF hsk
 refine zz 6 ?_
 refine J.ah zmc rfl (hf14.isSome Y183) rfl Y5 Y5 Y8 rfl <| J.aU Y8k (fun w hw=>(hf14.keep (zaa (I:=[]) (B0:=B) (l1:=[]) hVW14 hn Y189 hw Y4 (Sub.nil _) rfl)).cs) rfl zaC rfl Y23 (zdL _ _ Y5) rfl <| J.am 9 rfl zch zc8 rfl rfl fun g9 hg9=>J.ae 9 rfl rfl rfl rfl ((i14.1.getD k default).cells) rfl zen (Nat.le_of_ble_eq_true rfl) (by first | exact InR.cells_one _) (Nat.zero_lt_succ _) trivial ((i14.1.getD k default).cells) rfl <| zz 4 ?_
 refine J.ai Y8k 9 rfl rfl zaC ((i14.1.getD k default).cells) rfl rfl rfl <| J.aL zod rfl rfl (ι:=RowIx) (fun r=>r.Ok 1 (leadsV (i14.1.getD k default).v).length) (fun r=>r.val (leadsV (i14.1.getD k default).v).length) [] (fun r=>[(60,r.ent 3 (rowI .i64 (leadsV (i14.1.getD k default).v)))]) (fun w hw=>(Calls.mono (Ue.Leads w (i14.1.getD k default) hsk ((ha14 _ (zaE hk2)).fi.keep (zaa (I:=[]) (B0:=B) (l1:=[(70,⟨some q23,4,rowT (startsV bs.length (insA bs 0))⟩),(9,⟨some g9,200,((i14.1.getD k default).cells)⟩)]) hVW14 hn Y189 hw Y4 Y0 rfl)).cs (ha14 _ (zaE hk2)).ln) fun e w2 ⟨r,h1,h2,h3⟩=>⟨r,h1,h2,h3.only 60 60 rfl⟩)) Y182 (fun _ _ _ _=>rfl) fun r31 hr31=>?_
 refine J.al underlying123 rfl rfl <| zz 4 ?_
 refine T.ag (ι:=Nat) (fun (j:Nat)=>j≤(leadsV (i14.1.getD k default).v).length∧∀ q,q < j→0≤(leadsV (i14.1.getD k default).v).getD q 0∧(leadsV (i14.1.getD k default).v).getD q 0 < (startsV bs.length (insA bs 0)).length∧(startsV bs.length (insA bs 0)).getD ((leadsV (i14.1.getD k default).v).getD q 0).toNat false=true) (fun (j:Nat)=>[(0,.slice A bs.length c),(13,.slice A bs.length c),(15,.slice i14.2.1 i14.1.length i14.2.2.1),(16,.int .i64 (scanE bs)),(17,.int .i64 i14.2.2.2),(4,.slice i14.2.1 i14.1.length i14.2.2.1),(5,.int .i64 (scanE bs)),(6,.int .i64 i14.2.2.2),(18,.int .i64 (scanE bs)),(22,.slice A bs.length c),(23,.slice (some ⟨q23,0,none⟩) bs.length bs.length),(7,.slice (some ⟨q23,0,none⟩) bs.length bs.length),(24,.slice i14.2.1 i14.1.length i14.2.2.1),(25,.int .i64 ((i14.1.length:Nat):Int)),(26,.int .i64 ((k:Nat):Int)),(9,.pointer (some ⟨g9,0,none⟩)),(31,r31.val (leadsV (i14.1.getD k default).v).length),(32,.int .i64 (((leadsV (i14.1.getD k default).v).length:Nat):Int)),(33,.int .i64 ((j:Nat):Int))]) (fun (j:Nat)=>((70,⟨some q23,4,rowT (startsV bs.length (insA bs 0))⟩)::(9,⟨some g9,200,((i14.1.getD k default).cells)⟩)::(60,r31.ent 3 (rowI .i64 (leadsV (i14.1.getD k default).v)))::snapL W14 w.heap.size [])) (fun (j:Nat)=>(leadsV (i14.1.getD k default).v).length - j) 0 ⟨Nat.zero_le _,fun q hq=>absurd hq (Nat.not_lt_zero q)⟩ Y0 Y0 ?_
 rintro j ⟨hj,hjall⟩
 refine zz 6 ?_
 refine T.aa rfl (fun h3=>?_) (fun h3=>?_)
 have hj2:j < (leadsV (i14.1.getD k default).v).length:=by omega
 refine zz 6 ?_
 refine J.bd zjJ rfl (hr31.some Y5) rfl Y5 Y5 Y8 rfl <| J.ag Y8k 60 rfl rfl one3 (zhX _ _ _ Y5) rfl <| zz 8 ?_
 refine J.an 39 rfl (fun h4=>?_) (fun h4=>?_)
 refine zz 16 ?_
 refine T.ae [] [(0,.g),(1,.q),(2,.g),(3,.g)] Y12 Y12 ?_ Y0
 refine J.aa zbh rfl rfl <| J.ag Y8k 9 rfl rfl one3 Y3 rfl <| zz 14 ?_
 exact X.ag rfl (RV.tmp rfl) (RV.tmp rfl) (fun w' hw'=>⟨(63,_),⟨fun q=>absurd (show (63:Int)=0 from q) Y23,fun q=>absurd (zfB (q.2 _ (zaP hm14 hk2)) hj2) Y176⟩,rfl,hw'.s0⟩)
 refine zz 3 ?_
 refine J.al underlying51 rfl rfl <| zz 3 ?_
 refine J.an 45 rfl (fun h5=>?_) (fun h5=>?_)
 refine zz 10 ?_
 refine T.ae [] [(0,.g),(1,.q),(2,.g),(3,.g)] Y12 Y12 ?_ Y0
 refine J.aa zbh rfl rfl <| J.ag Y8k 9 rfl rfl one3 Y3 rfl <| zz 14 ?_
 exact X.ag rfl (RV.tmp rfl) (RV.tmp rfl) (fun w' hw'=>⟨(63,_),⟨fun q=>absurd (show (63:Int)=0 from q) Y23,fun q=>absurd (zfB (q.2 _ (zaP hm14 hk2)) hj2) Y176⟩,rfl,hw'.s0⟩)
 refine zz 3 ?_
 refine J.aB zcY rfl rfl Y5 Y5 rfl rfl <| zz 1 ?_
 refine J.ag Y8k 70 rfl rfl one4 (zdJ _ _ Y176) rfl <| J.aF rfl rfl <| J.aA (b:= !(startsV bs.length (insA bs 0)).getD ((leadsV (i14.1.getD k default).v).getD j 0).toNat false) rfl rfl rfl <| J.as 50 (.bool (decide (¬ (startsV bs.length (insA bs 0)).getD ((leadsV (i14.1.getD k default).v).getD j 0).toNat false=true))) rfl (by cases (startsV bs.length (insA bs 0)).getD ((leadsV (i14.1.getD k default).v).getD j 0).toNat false<;>rfl) <| zz 3 ?_
 refine T.aa rfl (fun h6=>?_) (fun h6=>?_)
 refine zz 1 ?_
 refine T.ae [] [(0,.g),(1,.q),(2,.g),(3,.g)] Y12 Y12 ?_ Y0
 refine J.aa zbh rfl rfl <| J.ag Y8k 9 rfl rfl one3 Y3 rfl <| zz 14 ?_
 exact X.ag rfl (RV.tmp rfl) (RV.tmp rfl) (fun w' hw'=>⟨(63,_),⟨fun q=>absurd (show (63:Int)=0 from q) Y23,fun q=>absurd (zfB (q.2 _ (zaP hm14 hk2)) hj2) (by rw [zaI];intro q;exact (by assumption:¬ (startsV bs.length (insA bs 0)).getD ((leadsV (i14.1.getD k default).v).getD j 0).toNat false=true) q.2.2)⟩,rfl,hw'.s0⟩)
 refine zz 4 ?_
 refine J.aq rfl rfl rfl Y10 <| zz 2 ?_
 exact X.ae (j+1) ⟨by omega,zao hjall ⟨by omega,by rw [zaI];omega,Decidable.not_not.1 Y195⟩⟩ Y14 Y0 Y0
 obtain rfl:j=(leadsV (i14.1.getD k default).v).length:=by omega
 have hj:=hjall
 refine zz 7 ?_
 refine J.aq rfl rfl rfl Y10 <| zz 2 ?_
 exact X.ae (k+1) ⟨by omega,zao hall (zlg hj)⟩ Y14 Y0 Y0
 obtain rfl:k=i14.1.length:=by omega
 refine zz 12 ?_
 exact X.ag rfl (RV.tmp rfl) (RV.tmp rfl) (fun w' hw'=>⟨(0,0),⟨fun _=>⟨he0,zig hm14 hall⟩,fun _=>rfl⟩,rfl,hw'.s0⟩)
end Go.Proofs.YtlllcafedekojaaGreatDoor.Uf
namespace Go.Fz
open Go Go.Fw Go.Proofs.Tryz
theorem zug:FnOk prog 202:=FnOk.mk' func202 Y12 rfl
theorem zrq:ZeroT prog 246 (.pointer none):=Y17
theorem sz246:SizeT prog 246 1:=Y9
theorem zgA:OneT prog 246:=⟨⟨_,underlying246,rfl⟩,Y12⟩
theorem sz250:SizeT prog 250 1:=Y9
theorem zlu:FldT prog 252 3 250 5 0:=⟨Y12,sz250⟩
theorem zqy:OneT prog 250:=⟨⟨_,underlying250,rfl⟩,Y12⟩
theorem zcb:FldT prog 252 2 194 4 0:=⟨Y12,zrA⟩
theorem zuf:FnOk prog 203:=FnOk.mk' func203 Y12 rfl
end Go.Fz
namespace Go.Proofs.YtlllcafedekojaaGreatDoor.Ug
open Go Go.Fw Go.Fz Go.Proofs.Tryz
attribute [local irreducible] J T X
theorem right (w:World) (n:Nat) (hn:n≤w.heap.size) (B:List (Option Nat)) (hB:∀ g,some g∈B→g < w.heap.size) (types:List TyV) (tA:Option Addr) (tC:Nat) (hT:Cs w tA (rowTy types)) (htl:types.length≤1000000000) (s:Nat) (bs:List Nat) (hd:Dg bs) (hl:bs.length≤1000000) (A:Option Addr) (c:Nat) (hc:bs.length≤c) (hA:Cs w A (rowN .u8 bs)):
    Calls prog 185 [.slice tA types.length tC,.int .i64 ((s:Nat):Int),.slice A bs.length c].toArray w fun e w'=>∃ q:RtR,q.Ok w' n B types s bs tA tC∧e=.returned (.tuple #[.pointer (pB q.b q.g),.bool q.b])∧WS w [] [(71,⟨none,tMap q.b q.gm (kvF (q.xs.map InR.v) 0),[]⟩)] w':=by
 refine zeF [] 113 [] func185 rfl ntmps185 Y20 (WS.refl _ _) <| zz 10 ?_
 refine J.bq rfl rfl rfl (decide_eq_false Y13) <| zz 4 ?_
 refine J.al underlying120 rfl rfl <| zz 4 ?_
 refine T.aa rfl (fun h1=>?_) (fun h1=>?_)
 refine zz 8 ?_
 refine X.an rfl ?_
 exact X.ag rfl (RV.tmp rfl) (RV.tmp rfl) (fun w' hw'=>⟨⟨false,0,0,[],none,0⟩,RtR.bad (fun q=>absurd q.1 Y5),rfl,(hw'.s0).addNil 71 3⟩)
 have hsl:s < types.length:=by omega
 refine zz 6 ?_
 refine J.al underlying120 rfl rfl <| zz 4 ?_
 refine T.ag (ι:=Nat) (fun (k:Nat)=>k≤types.length∧∀ q,q < k→(types.getD q default).mid) (fun (k:Nat)=>[(0,.slice tA types.length tC),(1,.int .i64 ((s:Nat):Int)),(2,.slice A bs.length c),(16,.int .i64 ((s:Nat):Int)),(17,.bool false),(18,.bool false),(19,.int .i64 ((s:Nat):Int)),(20,.slice tA types.length tC),(21,.int .i64 ((types.length:Nat):Int)),(24,.slice tA types.length tC),(25,.int .i64 ((types.length:Nat):Int)),(26,.int .i64 ((k:Nat):Int))]) (fun (k:Nat)=>[]) (fun (k:Nat)=>types.length - k) 0 ⟨Nat.zero_le _,fun q hq=>absurd hq (Nat.not_lt_zero q)⟩ Y0 Y0 ?_
 rintro k ⟨hk,hmd⟩
 refine zz 6 ?_
 refine T.aa rfl (fun h2=>?_) (fun h2=>?_)
 have hk2:k < types.length:=by omega
 refine zz 6 ?_
 refine J.ah zfr rfl (hT.isSome Y179) rfl Y5 Y5 Y8 rfl <| J.ar Y8k hT (zab _) rfl zdy ((types.getD k default).cells) rfl (zbS types k Y5) rfl <| J.am 9 rfl zcD zc10 rfl rfl fun g9 hg9=>J.ae 9 rfl rfl rfl rfl ((types.getD k default).cells) rfl zgj (Nat.le_of_ble_eq_true rfl) Y149 (Nat.zero_lt_succ _) trivial ((types.getD k default).cells) rfl <| zz 4 ?_
 refine J.aa zbO rfl rfl <| J.ag Y8k 9 rfl rfl one3 Y3 rfl <| zz 2 ?_
 refine J.an 33 rfl (fun h3=>?_) (fun h3=>?_)
 refine zz 39 ?_
 refine X.an rfl ?_
 exact X.ag rfl (RV.tmp rfl) (RV.tmp rfl) (fun w' hw'=>⟨⟨false,0,0,[],none,0⟩,RtR.bad Y131,rfl,(hw'.s0).addNil 71 3⟩)
 refine zz 1 ?_
 refine J.aa zbO rfl rfl <| zz 1 ?_
 refine J.ag Y8k 9 rfl rfl one3 Y3 rfl <| zz 3 ?_
 refine J.an 38 rfl (fun h4=>?_) (fun h4=>?_)
 refine zz 34 ?_
 refine X.an rfl ?_
 exact X.ag rfl (RV.tmp rfl) (RV.tmp rfl) (fun w' hw'=>⟨⟨false,0,0,[],none,0⟩,RtR.bad Y131,rfl,(hw'.s0).addNil 71 3⟩)
 refine zz 1 ?_
 refine J.aa zam rfl rfl <| zz 1 ?_
 refine J.ag Y8k 9 rfl rfl one3 Y3 rfl <| zz 3 ?_
 refine J.an 43 rfl (fun h5=>?_) (fun h5=>?_)
 refine zz 29 ?_
 refine X.an rfl ?_
 exact X.ag rfl (RV.tmp rfl) (RV.tmp rfl) (fun w' hw'=>⟨⟨false,0,0,[],none,0⟩,RtR.bad Y131,rfl,(hw'.s0).addNil 71 3⟩)
 refine zz 1 ?_
 refine J.aa zam rfl rfl <| zz 1 ?_
 refine J.ag Y8k 9 rfl rfl one3 Y3 rfl <| zz 3 ?_
 refine J.an 48 rfl (fun h6=>?_) (fun h6=>?_)
 refine zz 24 ?_
 refine X.an rfl ?_
 exact X.ag rfl (RV.tmp rfl) (RV.tmp rfl) (fun w' hw'=>⟨⟨false,0,0,[],none,0⟩,RtR.bad Y131,rfl,(hw'.s0).addNil 71 3⟩)
 refine zz 1 ?_
 refine J.aa zek rfl rfl <| zz 1 ?_
 refine J.ag Y8k 9 rfl rfl one3 Y3 rfl <| zz 3 ?_
 refine J.an 53 rfl (fun h7=>?_) (fun h7=>?_)
 refine zz 19 ?_
 refine X.an rfl ?_
 exact X.ag rfl (RV.tmp rfl) (RV.tmp rfl) (fun w' hw'=>⟨⟨false,0,0,[],none,0⟩,RtR.bad Y131,rfl,(hw'.s0).addNil 71 3⟩)
 refine zz 1 ?_
 refine J.aa zek rfl rfl <| zz 1 ?_
 refine J.ag Y8k 9 rfl rfl one3 Y3 rfl <| zz 4 ?_
 refine T.aa rfl (fun h8=>?_) (fun h8=>?_)
 refine zz 12 ?_
 refine X.an rfl ?_
 exact X.ag rfl (RV.tmp rfl) (RV.tmp rfl) (fun w' hw'=>⟨⟨false,0,0,[],none,0⟩,RtR.bad Y131,rfl,(hw'.s0).addNil 71 3⟩)
 refine zz 4 ?_
 refine J.aq rfl rfl rfl Y10 <| zz 2 ?_
 exact X.ae (k+1) ⟨by omega,zao hmd ⟨by omega,by omega,by omega,by omega,by omega,by omega⟩⟩ Y14 Y0 Y0
 obtain rfl:k=types.length:=by omega
 have hmid:∀ t∈types,t.mid:=zsW hmd
 refine zz 9 ?_
 refine J.aL zug rfl rfl (ι:=Int×Int) (fun q=>q.1=0↔checkV bs) (fun q=>.tuple #[.int .i64 q.1,.int .i64 q.2]) [] (fun _=>[]) (fun w hw=>Uf.Check w n (Nat.le_trans hn hw.size) (B++ids []) (zaf (l1:=[]) hB hw Y0 rfl) bs hd hl A c hc (hA.ws hw (zab _))) Y182 (fun _ _ _ _=>rfl) fun q61 hq61=>?_
 refine zz 13 ?_
 refine T.aa rfl (fun h9=>?_) (fun h9=>?_)
 have hne:=h9
 refine zz 8 ?_
 refine X.an rfl ?_
 exact X.ag rfl (RV.tmp rfl) (RV.tmp rfl) (fun w' hw'=>⟨⟨false,0,0,[],none,0⟩,RtR.bad (fun q=>hne (hq61.2 q.2.2.1)),rfl,(hw'.s0).addNil 71 3⟩)
 have hck:=hq61.1 (Decidable.not_not.1 h9)
 refine zz 3 ?_
 refine T.aj 60 200 <| zz 4 ?_
 refine J.ah zfr rfl (hT.isSome Y179) rfl Y5 Y5 Y8 rfl <| J.ar Y8k hT (zab _) rfl zdy ((types.getD s default).cells) rfl (zbS types s Y5) rfl <| J.cm 71 rfl rfl fun g71 hg71=>J.ao rfl rfl (.agg (passC tA types.length tC (types.getD s default) none 0 0 g71).toArray) Y191 <| J.aE 73 rfl rfl (passC tA types.length tC (types.getD s default) none 0 0 g71) rfl rfl fun g73 hg73=>J.am 12 rfl zrq [.pointer none] rfl rfl fun g12 hg12=>J.ae 12 rfl rfl rfl rfl [.pointer (some ⟨g73,0,none⟩)] rfl sz246 Y7 Y6 Y11 trivial [.pointer (some ⟨g73,0,none⟩)] rfl <| zz 1 ?_
 refine X.ah 71 ⟨none,.mp g71 (fun r=>KV r (kvF (([]:List InR).map InR.v) 0)),[]⟩ rfl Y22 <| X.ah 73 ⟨some g73,252,(passC tA types.length tC (types.getD s default) (hdOf RowIx.nil.id) ([]:List InR).length RowIx.nil.cap g71)⟩ rfl Y22 <| zz 5 ?_
 refine J.aL zoe rfl rfl (ι:=Nat×Nat) (fun q=>w.heap.size≤q.1∧w.heap.size≤q.2) _ [] _ (fun w hw=>(Calls.mono (Ve.All w bs Y5 _ _ (hA.ws hw (zab _))) fun e w2 ⟨q,⟨h1,h2⟩,h3,h4⟩=>⟨q,⟨Nat.le_trans hw.size h1,Nat.le_trans hw.size h2⟩,h3,h4⟩)) Y182 (fun _ _ _ _=>rfl) fun q75 hq75=>?_
 refine zz 3 ?_
 refine T.aw (σ':=[(0,.slice tA types.length tC),(1,.int .i64 ((s:Nat):Int)),(2,.slice A bs.length c),(16,.int .i64 ((s:Nat):Int)),(17,.bool false),(18,.bool false),(19,.int .i64 ((s:Nat):Int)),(20,.slice tA types.length tC),(21,.int .i64 ((types.length:Nat):Int)),(10,.int .i64 q61.1),(11,.int .i64 q61.2),(12,.pointer (some ⟨g12,0,none⟩)),(74,.slice A bs.length c),(75,.func (.func 199) #[] #[.pointer (some ⟨q75.1,0,none⟩)])]) (l':=[(60,⟨none,200,[]⟩),(71,⟨none,.mp g71 (fun r=>KV r (kvF (([]:List InR).map InR.v) 0)),[]⟩),(73,⟨some g73,252,(passC tA types.length tC (types.getD s default) (hdOf RowIx.nil.id) ([]:List InR).length RowIx.nil.cap g71)⟩),(12,⟨some g12,246,[.pointer (some ⟨g73,0,none⟩)]⟩),(3000,⟨some q75.1,51,[.slice (some ⟨q75.2,0,none⟩) bs.length bs.length]⟩),(3001,⟨some q75.2,5,rowN .u8 bs⟩)]) Y0 Y0 ?_
 refine T.aB (fun k ((xs,r):List InR×RowIx) Bz V=>xs.map InR.v=(insA bs 0).take k∧xs.length=k∧r.Ok 4 xs.length∧AllI V n Bz xs) (fun (xs,r)=>[(12,⟨some g12,246,[.pointer (some ⟨g73,0,none⟩)]⟩),(73,⟨some g73,252,(passC tA types.length tC (types.getD s default) (hdOf r.id) xs.length r.cap g71)⟩),(71,⟨none,.mp g71 (fun r=>KV r (kvF (xs.map InR.v) 0)),[]⟩),(60,r.ent 200 (rowIn xs)),(3000,⟨some q75.1,51,[.slice (some ⟨q75.2,0,none⟩) bs.length bs.length]⟩),(3001,⟨some q75.2,5,rowN .u8 bs⟩)]) B ⟨[],RowIx.nil⟩ 76 13 200 g71 71 hg71 (by rintro ⟨xs,r⟩;exact ⟨_,rfl⟩) rfl rfl rfl zoc Y0 Y193 Y193 Y193 rfl (fun _ _=>⟨rfl,rfl,RowIx.nil_ok 4,AllI.nil⟩) (fun k ⟨xs,r⟩ Bz Bz2 V V2 kp h=>⟨h.1,h.2.1,h.2.2.1,h.2.2.2.keep (kp n hn)⟩) (fun k cs V V2 MB MB2 kp ⟨x,h1,h2,h3⟩=>⟨x,h1,h2,h3.keep (kp _)⟩) (fun _ V hV=>⟨(hV.blkCs (k:=3000) rfl),(hV.blkCs (k:=3001) rfl)⟩) (Vf.All1 bs hd Y5 _ _ _) ?_ ?_ ?_
 rintro b V k ⟨xs,r⟩ cs ⟨x,rfl,hxv,hxo⟩
 refine T.am (nd:=Nd.of rfl) [.l,.l] rfl <| J.am 13 rfl zch zc8 rfl rfl fun g13 hg13=>J.ae 13 rfl rfl rfl rfl (x.cells) rfl zen (Nat.le_of_ble_eq_true rfl) Y149 (Nat.zero_lt_succ _) trivial (x.cells) rfl <| zz 1 ?_
 exact X.at g13 hg13 Y0 Y0
 rintro b V k ⟨xs,r⟩ cs g13 hVs hk ⟨hxm,hxl,hr,hxs⟩ ⟨x,rfl,hxv,hxo⟩
 have hnV:=Nat.le_trans hn hVs
 have hkb:=zdg bs
 have hxo2:x.Ok V n (B++some g13::some g71::ids [(12,⟨some g12,246,[.pointer (some ⟨g73,0,none⟩)]⟩),(73,⟨some g73,252,(passC tA types.length tC (types.getD s default) (hdOf r.id) xs.length r.cap g71)⟩),(71,⟨none,.mp g71 (fun r=>KV r (kvF (xs.map InR.v) 0)),[]⟩),(60,r.ent 200 (rowIn xs)),(3000,⟨some q75.1,51,[.slice (some ⟨q75.2,0,none⟩) bs.length bs.length]⟩),(3001,⟨some q75.2,5,rowN .u8 bs⟩)]):=hxo.less2 hB
 have hfr:∀ q∈(kvF (xs.map InR.v) 0),((x.v.at_:Nat):Int)≠q.1:=by rw [hxm,hxv];exact zmq hk
 refine zz 2 ?_
 refine T.ae (nd:=Nd.of Y12) [] [(0,.q),(1,.g),(2,.g),(3,.q),(4,.g),(5,.q),(6,.q),(7,.g),(8,.g),(9,.q),(10,.g),(11,.l)] Y12 Y12 ?_ Y0
 refine J.ag Y8k 12 rfl rfl zgA Y3 rfl <| zz 1 ?_
 refine J.aa zlu rfl rfl <| J.ag Y8k 73 rfl rfl zqy Y3 rfl <| J.aa zbh rfl rfl <| J.ag Y8k 13 rfl rfl one3 Y3 rfl <| J.ag Y8k 12 rfl rfl zgA Y3 rfl <| zz 1 ?_
 refine J.aa zcb rfl rfl <| J.ag Y8k 73 rfl rfl zcO Y3 rfl <| J.al underlying194 rfl rfl <| J.cK 71 rfl underlying250 underlying3 (kv:=(kvF (xs.map InR.v) 0)) (a:=((x.v.at_:Nat):Int)) (b:=((xs.length:Nat):Int)) rfl rfl (.inr (List.mem_cons_of_mem _ List.mem_cons_self)) rfl rfl rfl hfr trivial <| zz 2 ?_
 refine T.an (nd:=Nd.of Y12) [(12,⟨some g12,246,[.pointer (some ⟨g73,0,none⟩)]⟩),(73,⟨some g73,252,(passC tA types.length tC (types.getD s default) (hdOf r.id) xs.length r.cap g71)⟩)] [(0,.s),(1,.s),(2,.g),(3,.g),(4,.s),(5,.q),(6,.l),(7,.l),(8,.g),(9,.g)] [] [(10,.l)] Y12 Y12 Y12 ?_ Y0
 refine J.aJ 12 rfl rfl zgA Y3 rfl <| J.aJ 12 rfl rfl zgA Y3 rfl <| zz 1 ?_
 refine J.aa zcb rfl rfl <| J.aJ 73 rfl rfl zcO Y3 rfl <| J.ai Y8k 13 rfl rfl zaC (x.cells) rfl rfl rfl <| J.aD 94 rfl underlying194 zqa Y23 rfl (x.cells) rfl rfl rfl fun g94 hg94=>J.ay 60 rfl underlying194 zqa rfl hr (zcx xs) rfl rfl rfl (fun w hw=>(hw.blkCs (k:=94) rfl)) (InR.cells_one _) Y5 Y28 rfl (xs++[x]).length Y25 (rowIn (xs++[x])) (zhy _ _).symm fun r95 hr95=>zz 1 ?_
 refine J.aa zcb rfl rfl ?_
 refine J.bw [(13,⟨some g13,200,(x.cells)⟩),(12,⟨some g12,246,[.pointer (some ⟨g73,0,none⟩)]⟩),(73,⟨some g73,252,(passC tA types.length tC (types.getD s default) (hdOf r.id) xs.length r.cap g71)⟩),(71,⟨none,.mp g71 (fun r=>KV r ((kvF (xs.map InR.v) 0)++[(((x.v.at_:Nat):Int),((xs.length:Nat):Int))])),[]⟩),(60,r95.ent 200 (rowIn (xs++[x]))),(3000,⟨some q75.1,51,[.slice (some ⟨q75.2,0,none⟩) bs.length bs.length]⟩),(3001,⟨some q75.2,5,rowN .u8 bs⟩),(94,⟨some g94,200,(x.cells)⟩)] Y0 ?_ (Sub.nil _)
 refine J.ae 73 rfl rfl rfl rfl [r95.val (xs++[x]).length] rfl zrA (Nat.le_of_ble_eq_true rfl) Y27 Y11 trivial (passC tA types.length tC (types.getD s default) (hdOf r95.id) (xs++[x]).length r95.cap g71) rfl <| zz 1 ?_
 refine X.ah 71 ⟨none,.mp g71 (fun r=>KV r (kvF ((xs++[x]).map InR.v) 0)),[]⟩ rfl (congrArg (fun z=>Ent.mk none (.mp g71 (fun r=>KV r z)) []) (by rw [List.map_append,List.map_singleton,zpz,List.length_map,Nat.zero_add])) <| zz 1 ?_
 exact X.ar ⟨(xs++[x]),r95⟩ Y0 (fun w hw=>⟨by rw [List.map_append,hxm,zcH hk,← hxv];rfl,by rw [List.length_append,hxl];rfl,hr95,(hxs.snoc hxo2).keep ((zad (B0:=(B++some g13::some g71::ids ([(12,⟨some g12,246,[.pointer (some ⟨g73,0,none⟩)]⟩),(73,⟨some g73,252,(passC tA types.length tC (types.getD s default) (hdOf r.id) xs.length r.cap g71)⟩),(71,⟨none,.mp g71 (fun r=>KV r (kvF (xs.map InR.v) 0)),[]⟩),(60,r.ent 200 (rowIn xs)),(3000,⟨some q75.1,51,[.slice (some ⟨q75.2,0,none⟩) bs.length bs.length]⟩),(3001,⟨some q75.2,5,rowN .u8 bs⟩)]))) (l1:=[(13,⟨some g13,200,(x.cells)⟩),(12,⟨some g12,246,[.pointer (some ⟨g73,0,none⟩)]⟩),(73,⟨some g73,252,(passC tA types.length tC (types.getD s default) (hdOf r95.id) (xs++[x]).length r95.cap g71)⟩),(71,⟨none,.mp g71 (fun r=>KV r (kvF ((xs++[x]).map InR.v) 0)),[]⟩),(60,r95.ent 200 (rowIn (xs++[x]))),(3000,⟨some q75.1,51,[.slice (some ⟨q75.2,0,none⟩) bs.length bs.length]⟩),(3001,⟨some q75.2,5,rowN .u8 bs⟩),(94,⟨some g94,200,(x.cells)⟩)]) hnV busyX hw Y0 rfl).le Y114)⟩)
 rintro D ⟨xs,r⟩ W0 hD0 ⟨hxm,hxl,hr,hxs⟩ hVW0
 have hxm:xs.map InR.v=insA bs 0:=by rw [hxm,List.take_length]
 have hil:=zdg bs
 have hxl2:xs.length≤bs.length+1:=by rw [hxl];exact hil
 refine zz 5 ?_
 refine J.ag Y8k 12 rfl rfl zgA Y3 rfl <| zz 1 ?_
 refine J.aa zcb rfl rfl <| J.ag Y8k 73 rfl rfl zcO Y3 rfl <| J.al underlying194 rfl rfl <| zz 4 ?_
 refine T.ag (ι:=Nat) (fun (k:Nat)=>k≤xs.length∧∀ q,q < k→goesV types (types.getD s default) (xs.getD q default).v) (fun (k:Nat)=>[(0,.slice tA types.length tC),(1,.int .i64 ((s:Nat):Int)),(2,.slice A bs.length c),(16,.int .i64 ((s:Nat):Int)),(17,.bool false),(18,.bool false),(19,.int .i64 ((s:Nat):Int)),(20,.slice tA types.length tC),(21,.int .i64 ((types.length:Nat):Int)),(10,.int .i64 q61.1),(11,.int .i64 q61.2),(12,.pointer (some ⟨g12,0,none⟩)),(74,.slice A bs.length c),(75,.func (.func 199) #[] #[.pointer (some ⟨q75.1,0,none⟩)]),(98,.pointer (some ⟨g73,0,none⟩)),(99,.pointer (some ⟨g73,0,none⟩)),(101,r.val xs.length),(102,.int .i64 ((xs.length:Nat):Int)),(103,.int .i64 ((k:Nat):Int))]) (fun (k:Nat)=>((990000,⟨none,.df D,[]⟩)::(12,⟨some g12,246,[.pointer (some ⟨g73,0,none⟩)]⟩)::(73,⟨some g73,252,(passC tA types.length tC (types.getD s default) (hdOf r.id) xs.length r.cap g71)⟩)::(71,⟨none,.mp g71 (fun r=>KV r (kvF (xs.map InR.v) 0)),[]⟩)::(60,r.ent 200 (rowIn xs))::(3000,⟨some q75.1,51,[.slice (some ⟨q75.2,0,none⟩) bs.length bs.length]⟩)::(3001,⟨some q75.2,5,rowN .u8 bs⟩)::snapL W0 w.heap.size [none,some g12,some g73,none,r.id,some q75.1,some q75.2])) (fun (k:Nat)=>xs.length - k) 0 ⟨Nat.zero_le _,fun q hq=>absurd hq (Nat.not_lt_zero q)⟩ Y0 Y0 ?_
 rintro k ⟨hk,hgo⟩
 refine zz 6 ?_
 refine T.aa rfl (fun h10=>?_) (fun h10=>?_)
 have hk2:k < xs.length:=by omega
 refine zz 6 ?_
 refine J.bd zmc rfl (hr.some Y5) rfl Y5 Y5 Y8 rfl <| J.ai Y8k 60 rfl rfl zaC ((xs.getD k default).cells) rfl (by show ((rowIn xs++r.sp).drop _).take 4=_;rw [List.drop_append_of_le_length Y183,List.take_append_of_le_length (by rw [List.length_drop,zcx];omega)];exact zdL xs k Y5) rfl <| J.am 15 rfl zch zc8 rfl rfl fun g15 hg15=>J.ae 15 rfl rfl rfl rfl ((xs.getD k default).cells) rfl zen (Nat.le_of_ble_eq_true rfl) Y149 (Nat.zero_lt_succ _) trivial ((xs.getD k default).cells) rfl <| zz 4 ?_
 refine J.ag Y8k 12 rfl rfl zgA Y3 rfl <| J.ai Y8k 15 rfl rfl zaC ((xs.getD k default).cells) rfl rfl rfl <| J.aj Y8k zuf rfl rfl (fun w hw=>Ue.named w (xs.getD k default) (zbl hd hl (zaP hxm hk2)) ((hxs _ (zaE hk2)).fi.keep (zaa (I:=[none,some g12,some g73,none,r.id,some q75.1,some q75.2]) (B0:=B) (l1:=[]) (hVW0.s0) hn Y189 hw Y4 (Sub.nil _) rfl)).cs g73 types (types.getD s default) tA (hdOf r.id) tC xs.length r.cap g71 (hw.blkCs (k:=73) rfl) (hT.ws hw (zab _))) ?_
 refine J.aA rfl rfl Y18 <| zz 2 ?_
 refine T.aa rfl (fun h11=>?_) (fun h11=>?_)
 refine zz 12 ?_
 refine X.ao (l1:=((12,⟨some g12,246,[.pointer (some ⟨g73,0,none⟩)]⟩)::(73,⟨some g73,252,(passC tA types.length tC (types.getD s default) (hdOf r.id) xs.length r.cap g71)⟩)::(71,⟨none,.mp g71 (fun r=>KV r (kvF (xs.map InR.v) 0)),[]⟩)::(60,r.ent 200 (rowIn xs))::(3000,⟨some q75.1,51,[.slice (some ⟨q75.2,0,none⟩) bs.length bs.length]⟩)::(3001,⟨some q75.2,5,rowN .u8 bs⟩)::(15,⟨some g15,200,((xs.getD k default).cells)⟩)::snapL W0 w.heap.size [none,some g12,some g73,none,r.id,some q75.1,some q75.2])) D 990000 rfl rfl hD0 Y0 Y117 ?_
 exact X.ag rfl (RV.tmp rfl) (RV.tmp rfl) (fun w' hw'=>⟨⟨false,0,0,[],none,0⟩,RtR.bad (fun q=>absurd (q.2.2.2 _ (zaP hxm hk2)) Y195),rfl,(hw'.s0).addNil 71 3⟩)
 refine zz 4 ?_
 refine J.aq rfl rfl rfl Y10 <| zz 2 ?_
 exact X.ae (k+1) ⟨by omega,zao hgo (Decidable.not_not.1 Y195)⟩ Y14 Y0 Y0
 obtain rfl:k=xs.length:=by omega
 refine zz 7 ?_
 refine J.ag Y8k 12 rfl rfl zgA Y3 rfl <| zz 5 ?_
 refine X.ao (l1:=((12,⟨some g12,246,[.pointer (some ⟨g73,0,none⟩)]⟩)::(73,⟨some g73,252,(passC tA types.length tC (types.getD s default) (hdOf r.id) xs.length r.cap g71)⟩)::(71,⟨none,.mp g71 (fun r=>KV r (kvF (xs.map InR.v) 0)),[]⟩)::(60,r.ent 200 (rowIn xs))::(3000,⟨some q75.1,51,[.slice (some ⟨q75.2,0,none⟩) bs.length bs.length]⟩)::(3001,⟨some q75.2,5,rowN .u8 bs⟩)::snapL W0 w.heap.size [none,some g12,some g73,none,r.id,some q75.1,some q75.2])) D 990000 rfl rfl hD0 Y0 Y117 ?_
 exact X.ag rfl (RV.tmp rfl) (RV.tmp rfl) (fun w' hw'=>⟨⟨true,g73,g71,xs,hdOf r.id,r.cap⟩,⟨⟨fun _=>⟨hsl,hmid,hck,zig hxm hgo⟩,fun _=>rfl⟩,fun _=>hxm,fun _=>hr.le,fun _=>zbc hw' (j:=60) rfl (fun g h=>⟨hB g h,fun q=>by cases q⟩),fun _=>(hxs.keep (zaa (I:=[none,some g12,some g73,none,r.id,some q75.1,some q75.2]) (B0:=B) (l1:=[(12,⟨some g12,246,[.pointer (some ⟨g73,0,none⟩)]⟩),(73,⟨some g73,252,(passC tA types.length tC (types.getD s default) (hdOf r.id) xs.length r.cap g71)⟩),(71,⟨none,.mp g71 (fun r=>KV r (kvF (xs.map InR.v) 0)),[]⟩),(60,r.ent 200 (rowIn xs)),(3000,⟨some q75.1,51,[.slice (some ⟨q75.2,0,none⟩) bs.length bs.length]⟩),(3001,⟨some q75.2,5,rowN .u8 bs⟩)]) (hVW0.s0) hn Y189 hw' Y4 Y0 rfl)).keep (Keep.less (fun o ho=>List.mem_append_left _ ho)),fun _=>ziv hw' (j:=73) rfl (fun g h=>⟨hB g h,fun q=>by cases q⟩)⟩,rfl,hw'.sub (Sub.cons rfl (Sub.nil _))⟩)
end Go.Proofs.YtlllcafedekojaaGreatDoor.Ug
namespace Go.Fz
open Go Go.Fw Go.Proofs.Tryz
theorem zqJ:FnOk prog 189:=FnOk.mk' func189 Y12 rfl
theorem zpZ:ElT prog 207 3 24 (.agg (zc10).toArray):=⟨Y12,rfl,Y18b,Y18b⟩
theorem zeq:OneT prog 249:=⟨⟨_,underlying249,rfl⟩,Y12⟩
theorem zhe:SlT prog 249 254 2:=⟨underlying249,zlU⟩
theorem zuk:FnOk prog 185:=FnOk.mk' func185 Y12 rfl
theorem el254:ElT prog 254 2 16 (.agg ([.int .i64 0,.int .i64 0]).toArray):=⟨Y12,rfl,Y18b,Y18b⟩
theorem zrp:ZeroT prog 249 (.slice none 0 0):=Y17
theorem sz249:SizeT prog 249 1:=Y9
theorem zuj:FnOk prog 186:=FnOk.mk' func186 Y12 rfl
theorem zui:FnOk prog 187:=FnOk.mk' func187 Y12 rfl
end Go.Fz
namespace Go.Proofs.YtlllcafedekojaaGreatDoor.Uh
open Go Go.Fw Go.Fz Go.Proofs.Tryz
attribute [local irreducible] J T X
theorem spT:SpT prog 254 3:=⟨by kernel_rfl,by kernel_rfl,by kernel_rfl,by kernel_rfl,underlying3,one3⟩
theorem ztA (w:World) (g13 g11 g39 g16 g12 g45 n m to:Nat) (st:HSt) (lo hi:Int) (h1:st.1.length=m) (h2:st.2.length=m) (hm:m≤1000000000) (hto:to < m) (hw:WS w [g13,g11,g39,g16,g12,g45] [(13,⟨some g13,3,[.int .i64 ((n:Nat):Int)]⟩),(11,⟨some g11,249,[.slice (some ⟨g39,0,none⟩) m m]⟩),(39,⟨some g39,254,rowSp st.1⟩),(16,⟨some g16,254,[.int .i64 lo,.int .i64 hi]⟩),(12,⟨some g12,160,[.slice (some ⟨g45,0,none⟩) m m]⟩),(45,⟨some g45,4,rowT st.2⟩)] w):
    Calls prog 189 [.int .i64 ((to:Nat):Int),.pointer (some ⟨g13,0,none⟩),.pointer (some ⟨g11,0,none⟩),.pointer (some ⟨g16,0,none⟩),.pointer (some ⟨g12,0,none⟩)].toArray w fun e w'=>e=.returned (.bool (passV n st to (lo,hi)).1)∧WS w [g13,g11,g39,g16,g12,g45] [(13,⟨some g13,3,[.int .i64 ((n:Nat):Int)]⟩),(11,⟨some g11,249,[.slice (some ⟨g39,0,none⟩) m m]⟩),(39,⟨some g39,254,rowSp (passV n st to (lo,hi)).2.1⟩),(16,⟨some g16,254,[.int .i64 lo,.int .i64 hi]⟩),(12,⟨some g12,160,[.slice (some ⟨g45,0,none⟩) m m]⟩),(45,⟨some g45,4,rowT (passV n st to (lo,hi)).2.2⟩)] w':=by
 refine zac [g13,g11,g39,g16,g12,g45] 50 [(13,⟨some g13,3,[.int .i64 ((n:Nat):Int)]⟩),(11,⟨some g11,249,[.slice (some ⟨g39,0,none⟩) m m]⟩),(39,⟨some g39,254,rowSp st.1⟩),(16,⟨some g16,254,[.int .i64 lo,.int .i64 hi]⟩),(12,⟨some g12,160,[.slice (some ⟨g45,0,none⟩) m m]⟩),(45,⟨some g45,4,rowT st.2⟩)] func189 rfl ntmps189 Y20 hw <| zz 10 ?_
 refine J.ag Y8k 13 rfl rfl one3 Y3 rfl <| zz 4 ?_
 refine T.aa rfl (fun h1=>?_) (fun h1=>?_)
 refine zz 1 ?_
 refine T.ae [] [(0,.q),(1,.g),(2,.g),(3,.q),(4,.q),(5,.g),(6,.g)] Y12 Y12 ?_ Y2
 refine J.ag Y8k 11 rfl rfl zeq Y3 rfl <| zz 1 ?_
 refine J.aB zhe rfl rfl Y5 Y5 Y8 rfl <| J.ai Y8k 39 rfl rfl zeu [.int .i64 (st.1.getD to (0,0)).1,.int .i64 (st.1.getD to (0,0)).2] rfl (zgq st.1 to Y5) rfl <| J.ai Y8k 16 rfl rfl zeu [.int .i64 lo,.int .i64 hi] rfl rfl rfl <| J.dn spT rfl rfl rfl <| J.as 36 (.bool (decide (st.1.getD to (0,0)=(lo,hi)))) rfl (by exact congrArg Value.bool (decide_eq_decide.2 (by rw [Prod.ext_iff]))) <| zz 6 ?_
 exact X.aa rfl (RV.tmp rfl) (fun w' hw'=>by rw [zpp Y5];exact ⟨rfl,hw'.sub (Sub.cons rfl (Sub.cons rfl (Sub.cons rfl (Sub.cons rfl (Sub.cons rfl (Sub.cons rfl (Sub.nil _)))))))⟩)
 refine zz 2 ?_
 refine J.ag Y8k 12 rfl rfl zcz Y3 rfl <| zz 1 ?_
 refine J.aB zcY rfl rfl Y5 Y5 Y8 rfl <| J.ag Y8k 45 rfl rfl one4 (zdJ _ _ Y5) rfl <| J.aA (b:= !st.2.getD to false) rfl rfl rfl <| J.as 42 (.bool (decide (st.2.getD to false=false))) rfl (by cases st.2.getD to false<;>rfl) <| zz 3 ?_
 refine T.aa rfl (fun h2=>?_) (fun h2=>?_)
 refine T.ae [(12,⟨some g12,160,[.slice (some ⟨g45,0,none⟩) m m]⟩)] [(0,.q),(1,.g),(2,.s),(3,.g),(4,.q),(5,.g),(6,.l),(7,.g),(8,.l)] Y12 Y12 ?_ Y2
 refine J.ag Y8k 11 rfl rfl zeq Y3 rfl <| zz 1 ?_
 refine J.aJ 12 rfl rfl zcz Y3 rfl <| zz 1 ?_
 refine J.ai Y8k 16 rfl rfl zeu [.int .i64 lo,.int .i64 hi] rfl rfl rfl <| J.aB zhe rfl rfl Y5 Y5 Y8 rfl <| J.ae 39 rfl rfl rfl rfl [.int .i64 lo,.int .i64 hi] rfl zlU (by rw [zcu];show _+2≤_;omega) (zjH (lo,hi)) (Nat.zero_lt_succ _) trivial (rowSp (st.1.set to (lo,hi))) (zgr st.1 to Y5 (lo,hi)) <| J.aB zcY rfl rfl Y5 Y5 Y8 rfl <| J.ae 45 rfl rfl rfl rfl [.bool true] rfl sz4 Y164 Y6 Y11 trivial (rowT (st.2.set to true)) (zcM st.2 to true Y5) <| zz 9 ?_
 exact X.aa rfl (RV.tmp rfl) (fun w' hw'=>by rw [znv Y5 Y195];exact ⟨rfl,hw'.sub (Sub.cons rfl (Sub.cons rfl (Sub.cons rfl (Sub.cons rfl (Sub.cons rfl (Sub.cons rfl (Sub.nil _)))))))⟩)
 refine T.ae [] [(0,.q),(1,.g),(2,.q),(3,.g),(4,.g),(5,.g),(6,.q),(7,.g),(8,.q),(9,.g),(10,.q),(11,.g),(12,.g),(13,.g),(14,.q),(15,.g),(16,.q),(17,.g),(18,.g),(19,.g),(20,.l)] Y12 Y12 ?_ Y2
 refine J.ag Y8k 11 rfl rfl zeq Y3 rfl <| zz 1 ?_
 refine J.ag Y8k 11 rfl rfl zeq Y3 rfl <| zz 1 ?_
 refine J.aB zhe rfl rfl Y5 Y5 Y8 rfl <| J.aa zff rfl rfl <| J.ag Y8k 39 rfl rfl one3 (zkT st.1 to Y5) rfl <| J.aa zff rfl rfl <| J.ag Y8k 16 rfl rfl one3 rfl rfl <| J.cB rfl rfl rfl (ztC _ _) <| J.ag Y8k 11 rfl rfl zeq Y3 rfl <| zz 1 ?_
 refine J.aB zhe rfl rfl Y5 Y5 Y8 rfl <| J.aa zca rfl rfl <| J.ag Y8k 39 rfl rfl one3 (zkU st.1 to Y5) rfl <| J.aa zca rfl rfl <| J.ag Y8k 16 rfl rfl one3 rfl rfl <| J.dk rfl rfl rfl (ztD _ _) <| J.ao rfl rfl (.agg ([.int .i64 (min (st.1.getD to (0,0)).1 lo),.int .i64 (max (st.1.getD to (0,0)).2 hi)]:List Value).toArray) Y191 <| J.aB zhe rfl rfl Y5 Y5 Y8 rfl ?_
 refine J.ae 39 rfl rfl rfl rfl [.int .i64 (min (st.1.getD to (0,0)).1 lo),.int .i64 (max (st.1.getD to (0,0)).2 hi)] rfl zlU (by rw [zcu];show _+2≤_;omega) (zjH (min (st.1.getD to (0,0)).1 lo,max (st.1.getD to (0,0)).2 hi)) (Nat.zero_lt_succ _) trivial (rowSp (st.1.set to (min (st.1.getD to (0,0)).1 lo,max (st.1.getD to (0,0)).2 hi))) (zgr st.1 to Y5 (min (st.1.getD to (0,0)).1 lo,max (st.1.getD to (0,0)).2 hi)) <| zz 9 ?_
 exact X.aa rfl (RV.tmp rfl) (fun w' hw'=>by rw [znu Y5 Y195];exact ⟨rfl,hw'.sub (Sub.cons rfl (Sub.cons rfl (Sub.cons rfl (Sub.cons rfl (Sub.cons rfl (Sub.cons rfl (Sub.nil _)))))))⟩)
theorem Heights (w:World) (n:Nat) (hn:n≤w.heap.size) (B:List (Option Nat)) (hB:∀ g,some g∈B→g < w.heap.size) (types:List TyV) (tA:Option Addr) (tC:Nat) (hT:Cs w tA (rowTy types)) (htl:types.length≤1000000000) (s:Nat) (bs:List Nat) (hd:Dg bs) (hl:bs.length≤1000000) (A:Option Addr) (c:Nat) (hc:bs.length≤c) (hA:Cs w A (rowN .u8 bs)):
    Calls prog 157 [.slice tA types.length tC,.int .i64 ((s:Nat):Int),.slice A bs.length c].toArray w fun e w'=>∃ q:List HtV×RowIx×Int×Int,HtsOk types s bs q.2.2.1 q.1∧q.2.1.Ok 3 q.1.length∧e=.returned (.tuple #[q.2.1.val q.1.length,.int .i64 q.2.2.1,.int .i64 q.2.2.2])∧WS w [] [(60,q.2.1.ent 207 (rowHt q.1))] w':=by
 refine zac [] 168 [] func157 rfl ntmps157 Y20 (WS.refl _ _) <| zz 12 ?_
 refine J.aZ zuk rfl rfl (fun (i:RtR) W=>i.Ok W n (B++ids []) types s bs tA tC) (fun i=>.tuple #[.pointer (pB i.b i.g),.bool i.b]) [] (fun i=>[(71,⟨none,tMap i.b i.gm (kvF (i.xs.map InR.v) 0),[]⟩)]) (fun i=>[(71,⟨none,tMap i.b i.gm (kvF (i.xs.map InR.v) 0),[]⟩)]) (fun i=>Y0) (fun _=>rfl) (fun _ _ _=>Sub.nil _) (fun i g hg=>by cases hg) (fun w hw=>Ug.right w n (Nat.le_trans hn hw.size) (B++ids []) (zaf (l1:=[]) hB hw Y0 rfl) types tA tC (hT.ws hw (zab _)) htl s bs hd hl A c hc (hA.ws hw (zab _))) fun i29 W29 hP29 hW29=>?_
 have hVW29:=hW29.s0
 refine zz 11 ?_
 refine J.aA (b:= !i29.b) rfl rfl rfl <| J.as 33 (.bool (decide (¬ i29.b=true))) rfl (by cases i29.b<;>rfl) <| zz 2 ?_
 refine T.aa rfl (fun h1=>?_) (fun h1=>?_)
 have hb:=h1
 refine zz 9 ?_
 exact X.ak rfl (RV.tmp rfl) (RV.tmp rfl) (RV.tmp rfl) (fun w' hw'=>⟨([],RowIx.nil,1,_),zsx (fun q=>hb (hP29.iff.2 q)) Y23,RowIx.nil_ok 3,rfl,(hw'.s0).addNil 60 207⟩)
 have hb:=Decidable.not_not.1 h1
 have hri:=hP29.iff.1 hb
 have hxm:=hP29.vs hb
 have hfl:=(hP29.fl hb).nn
 have hall:=(hP29.all hb).nn
 have hfp:=(hP29.fp hb).nn
 have hown:=hri.2.1 _ (zaE hri.1)
 have hil:=zdg bs
 have hlen:i29.xs.length=(insA bs 0).length:=by rw [← hxm,List.length_map]
 have hpos:0 < i29.xs.length:=by rw [hlen];exact zkN hri.2.2.1.1
 have hxl2:i29.xs.length≤1000001:=by omega
 refine T.as 9 (.pointer (some ⟨i29.g,0,none⟩)) rfl (by rw [hb];rfl) <| T.ao 71 ⟨none,.mp i29.gm (fun r=>KV r (kvF (i29.xs.map InR.v) 0)),[]⟩ rfl (by rw [hb];rfl) <| zz 6 ?_
 refine J.aa zcb rfl rfl <| J.aG (i:=4) Y8k (fun w hw=>(hfp.keep (zaa (I:=[none]) (B0:=B) (l1:=[]) hVW29 hn Y189 hw Y4 (Sub.nil _) rfl)).cs) rfl zcO Y3 rfl <| J.al underlying194 rfl rfl <| J.aQ 39 rfl (q:=i29.xs.length) (c0:=i29.xs.length) underlying249 el254 rfl rfl Y192 Y192 (Nat.le_refl _) Y5 Y28 rfl fun g39 hg39=>J.am 11 rfl zrp [.slice none 0 0] rfl rfl fun g11 hg11=>J.ae 11 rfl rfl rfl rfl [.slice (some ⟨g39,0,none⟩) i29.xs.length i29.xs.length] rfl sz249 Y7 Y6 Y11 trivial [.slice (some ⟨g39,0,none⟩) i29.xs.length i29.xs.length] rfl <| zz 1 ?_
 refine X.ah 39 ⟨some g39,254,rowSp (List.replicate i29.xs.length ((0:Int),(0:Int)))⟩ rfl (by rw [zoM];rfl) <| zz 5 ?_
 refine J.aa zcb rfl rfl <| J.aG (i:=4) Y8k (fun w hw=>(hfp.keep (zaa (I:=[none]) (B0:=B) (l1:=[]) hVW29 hn Y189 hw Y4 (Sub.nil _) rfl)).cs) rfl zcO Y3 rfl <| J.al underlying194 rfl rfl <| J.aQ 45 rfl (q:=i29.xs.length) (c0:=i29.xs.length) underlying160 el4 rfl rfl Y192 Y192 (Nat.le_refl _) Y5 Y28 rfl fun g45 hg45=>J.am 12 rfl zmF [.slice none 0 0] rfl rfl fun g12 hg12=>J.ae 12 rfl rfl rfl rfl [.slice (some ⟨g45,0,none⟩) i29.xs.length i29.xs.length] rfl zoU Y7 Y6 Y11 trivial [.slice (some ⟨g45,0,none⟩) i29.xs.length i29.xs.length] rfl <| zz 1 ?_
 refine X.ah 45 ⟨some g45,4,rowT (List.replicate i29.xs.length false)⟩ rfl Y190 <| zz 2 ?_
 refine T.ae [(12,⟨some g12,160,[.slice (some ⟨g45,0,none⟩) i29.xs.length i29.xs.length]⟩)] [(0,.q),(1,.s),(2,.g),(3,.g),(4,.g),(5,.g),(6,.q),(7,.g),(8,.g),(9,.g),(10,.g),(11,.q),(12,.g),(13,.g),(14,.l),(15,.g),(16,.l)] Y12 Y12 ?_ Y0
 refine J.ag Y8k 11 rfl rfl zeq Y3 rfl <| J.aJ 12 rfl rfl zcz Y3 rfl <| zz 2 ?_
 refine J.aa zbA rfl rfl <| J.aa zbO rfl rfl <| J.aG (i:=1) Y8k (fun w hw=>(hfp.keep (zaa (I:=[none]) (B0:=B) (l1:=[]) hVW29 hn Y189 hw Y4 (Sub.nil _) rfl)).cs) rfl one3 rfl rfl <| zz 2 ?_
 refine J.aa zbA rfl rfl <| J.aa zbO rfl rfl <| J.aG (i:=1) Y8k (fun w hw=>(hfp.keep (zaa (I:=[none]) (B0:=B) (l1:=[]) hVW29 hn Y189 hw Y4 (Sub.nil _) rfl)).cs) rfl one3 rfl rfl <| J.ao rfl rfl (.agg ([.int .i64 (types.getD s default).inn,.int .i64 (types.getD s default).inn]:List Value).toArray) Y191 <| J.aB zhe rfl rfl Y23 Y5 Y22 rfl <| J.ae 39 rfl rfl rfl rfl [.int .i64 (types.getD s default).inn,.int .i64 (types.getD s default).inn] rfl zlU (by rw [zcu,List.length_replicate];show _+2≤_;omega) Y6 (Nat.zero_lt_succ _) trivial (rowSp ((List.replicate i29.xs.length ((0:Int),(0:Int))).set 0 ((types.getD s default).inn,(types.getD s default).inn))) (zgr _ 0 (by rw [List.length_replicate];omega) ((types.getD s default).inn,(types.getD s default).inn)) <| J.aB zcY rfl rfl Y23 Y5 Y22 rfl <| J.ae 45 rfl rfl rfl rfl [.bool true] rfl sz4 (by rw [zck,List.length_replicate];show _+1≤_;omega) Y6 Y11 trivial (rowT ((List.replicate i29.xs.length false).set 0 true)) (zcM _ 0 true (by rw [List.length_replicate];omega)) ?_
 refine zz 1 ?_
 refine X.ah 39 ⟨some g39,254,rowSp (initV (types.getD s default) i29.xs.length).1⟩ rfl Y22 <| X.ah 45 ⟨some g45,4,rowT (initV (types.getD s default) i29.xs.length).2⟩ rfl Y22 <| zz 6 ?_
 refine J.aa zcb rfl rfl <| J.aG (i:=4) Y8k (fun w hw=>(hfp.keep (zaa (I:=[none]) (B0:=B) (l1:=[]) hVW29 hn Y189 hw Y4 (Sub.nil _) rfl)).cs) rfl zcO Y3 rfl <| J.al underlying194 rfl rfl <| zz 4 ?_
 refine T.ag (ι:=Nat×HSt) (fun (k,st)=>k≤i29.xs.length∧runV types (types.getD s default) (insA bs 0) k=some st∧HsOk st∧st.1.length=i29.xs.length∧st.2.length=i29.xs.length) (fun (k,st)=>[(0,.slice tA types.length tC),(1,.int .i64 ((s:Nat):Int)),(2,.slice A bs.length c),(26,.slice tA types.length tC),(27,.int .i64 ((s:Nat):Int)),(28,.slice A bs.length c),(30,.pointer (pB i29.b i29.g)),(31,.bool i29.b),(9,.pointer (some ⟨i29.g,0,none⟩)),(10,.bool i29.b),(32,.bool i29.b),(33,.bool (decide (¬ i29.b=true))),(34,.pointer (some ⟨i29.g,0,none⟩)),(35,.pointer (some ⟨i29.g,0,none⟩)),(37,.slice i29.lA i29.xs.length i29.lC),(38,.int .i64 ((i29.xs.length:Nat):Int)),(39,.slice (some ⟨g39,0,none⟩) i29.xs.length i29.xs.length),(11,.pointer (some ⟨g11,0,none⟩)),(40,.pointer (some ⟨i29.g,0,none⟩)),(41,.pointer (some ⟨i29.g,0,none⟩)),(43,.slice i29.lA i29.xs.length i29.lC),(44,.int .i64 ((i29.xs.length:Nat):Int)),(45,.slice (some ⟨g45,0,none⟩) i29.xs.length i29.xs.length),(12,.pointer (some ⟨g12,0,none⟩)),(46,.slice (some ⟨g39,0,none⟩) i29.xs.length i29.xs.length),(47,.slice (some ⟨g45,0,none⟩) i29.xs.length i29.xs.length),(48,.pointer (some ⟨i29.g,0,none⟩)),(49,.pointer (some ⟨i29.g,0,none⟩)),(52,.int .i64 (types.getD s default).inn),(53,.pointer (some ⟨i29.g,0,none⟩)),(54,.pointer (some ⟨i29.g,0,none⟩)),(57,.int .i64 (types.getD s default).inn),(58,(.agg ([.int .i64 (types.getD s default).inn,.int .i64 (types.getD s default).inn]:List Value).toArray)),(61,.pointer (some ⟨i29.g,0,none⟩)),(62,.pointer (some ⟨i29.g,0,none⟩)),(64,.slice i29.lA i29.xs.length i29.lC),(65,.int .i64 ((i29.xs.length:Nat):Int)),(66,.int .i64 ((k:Nat):Int))]) (fun (k,st)=>((71,⟨none,.mp i29.gm (fun r=>KV r (kvF (i29.xs.map InR.v) 0)),[]⟩)::(11,⟨some g11,249,[.slice (some ⟨g39,0,none⟩) i29.xs.length i29.xs.length]⟩)::(12,⟨some g12,160,[.slice (some ⟨g45,0,none⟩) i29.xs.length i29.xs.length]⟩)::(39,⟨some g39,254,rowSp st.1⟩)::(45,⟨some g45,4,rowT st.2⟩)::snapL W29 w.heap.size [none])) (fun (k,st)=>i29.xs.length - k) ⟨0,(initV (types.getD s default) i29.xs.length)⟩ ⟨Nat.zero_le _,by rw [hlen];rfl,zsv hown _,(zll _ _).1,(zll _ _).2⟩ Y0 Y0 ?_
 rintro ⟨k,st⟩ ⟨hk,hrun,hok,hsl1,hsl2⟩
 try dsimp only at *
 refine zz 6 ?_
 refine T.aa rfl (fun h2=>?_) (fun h2=>?_)
 have hk2:k < i29.xs.length:=by omega
 have hv:(insA bs 0).getD k default=(i29.xs.getD k default).v:=by rw [← hxm];exact zib i29.xs InR.v k hk2
 refine zz 7 ?_
 refine J.ah zmc rfl (hfl.isSome Y183) rfl Y5 Y5 Y8 rfl <| J.aU Y8k (fun w hw=>(hfl.keep (zaa (I:=[none]) (B0:=B) (l1:=[]) hVW29 hn Y189 hw Y4 (Sub.nil _) rfl)).cs) rfl zaC rfl Y23 (zdL _ _ Y5) rfl <| J.am 13 rfl zoN [.int .i64 0] rfl rfl fun g13 hg13=>J.am 14 rfl zch zc8 rfl rfl fun g14 hg14=>J.ae 13 rfl rfl rfl rfl [.int .i64 ((k:Nat):Int)] rfl sz3 Y7 Y6 Y11 trivial [.int .i64 ((k:Nat):Int)] rfl <| J.ae 14 rfl rfl rfl rfl ((i29.xs.getD k default).cells) rfl zen (Nat.le_of_ble_eq_true rfl) Y126 (Nat.zero_lt_succ _) trivial ((i29.xs.getD k default).cells) rfl <| zz 5 ?_
 refine J.ag Y8k 12 rfl rfl zcz Y3 rfl <| J.ag Y8k 13 rfl rfl one3 Y3 rfl <| J.aB zcY rfl rfl Y5 Y5 Y8 rfl <| J.ag Y8k 45 rfl rfl one4 (zdJ _ _ Y5) rfl <| J.aA (b:= !st.2.getD k false) rfl rfl rfl <| J.as 75 (.bool (decide (st.2.getD k false=false))) rfl (by cases st.2.getD k false<;>rfl) <| zz 2 ?_
 refine T.aa rfl (fun h3=>?_) (fun h3=>?_)
 have hstep:stepV types (types.getD s default) (insA bs 0) k st=none:=zmU h3
 refine zz 1 ?_
 refine T.ae [] [(0,.g),(1,.q),(2,.g),(3,.g),(4,.g)] Y12 Y12 ?_ Y0
 refine J.aa zbh rfl rfl <| J.ag Y8k 14 rfl rfl one3 Y3 rfl <| zz 12 ?_
 exact X.ak rfl (RV.tmp rfl) (RV.tmp rfl) (RV.tmp rfl) (fun w' hw'=>⟨([],RowIx.nil,73,_),zil (zik Y5 hrun hstep) (show (73:Int)≠0 by decide),RowIx.nil_ok 3,rfl,(hw'.s0).addNil 60 207⟩)
 have hmk:st.2.getD k false=true:=by simpa using h3
 have hhk:HtOk ((st.1.getD k (0,0)).1,(st.1.getD k (0,0)).2):=hok k hmk
 refine zz 4 ?_
 refine T.ae [] [(0,.g),(1,.q),(2,.q),(3,.q),(4,.g),(5,.q),(6,.q),(7,.g)] Y12 Y12 ?_ Y0
 refine zz 1 ?_
 refine J.ai Y8k 14 rfl rfl zaC ((i29.xs.getD k default).cells) rfl rfl rfl <| J.ag Y8k 11 rfl rfl zeq Y3 rfl <| J.ag Y8k 13 rfl rfl one3 Y3 rfl <| J.aB zhe rfl rfl Y5 Y5 Y8 rfl <| J.ai Y8k 39 rfl rfl zeu [.int .i64 (st.1.getD k (0,0)).1,.int .i64 (st.1.getD k (0,0)).2] rfl (zgq st.1 k Y5) rfl <| J.aj Y8k zuj rfl rfl (fun w hw=>Ue.wrong w (i29.xs.getD k default) (zbl hd hl (zaP hxm hk2)) ((hall _ (zaE hk2)).fi.keep (zaa (I:=[none]) (B0:=B) (l1:=[]) hVW29 hn Y189 hw Y4 (Sub.nil _) rfl)).cs i29.g types (types.getD s default) tA i29.lA tC i29.xs.length i29.lC i29.gm (hfp.keep (zaa (I:=[none]) (B0:=B) (l1:=[]) hVW29 hn Y189 hw Y4 (Sub.nil _) rfl)).cs (hT.ws hw (zab _)) (hri.2.2.2 _ (zaP hxm hk2)) hri.2.1 hown (st.1.getD k (0,0)).1 (st.1.getD k (0,0)).2 hhk) ?_
 refine zz 9 ?_
 refine T.aa rfl (fun h4=>?_) (fun h4=>?_)
 have hw0:=h4
 have hstep:stepV types (types.getD s default) (insA bs 0) k st=none:=zlY hv hw0
 refine zz 1 ?_
 refine T.ae [] [(0,.g),(1,.g),(2,.q),(3,.g),(4,.g),(5,.g)] Y12 Y12 ?_ Y0
 refine zz 1 ?_
 refine J.aa zbh rfl rfl <| J.ag Y8k 14 rfl rfl one3 Y3 rfl <| zz 12 ?_
 exact X.ak rfl (RV.tmp rfl) (RV.tmp rfl) (RV.tmp rfl) (fun w' hw'=>⟨([],RowIx.nil,_,_),zil (zik Y5 hrun hstep) hw0,RowIx.nil_ok 3,rfl,(hw'.s0).addNil 60 207⟩)
 have hw0:wrongV types (types.getD s default) (i29.xs.getD k default).v (st.1.getD k (0,0))=0:=Decidable.not_not.1 h4
 have hgok:HtOk (onV (st.1.getD k (0,0)) (turnsV types (types.getD s default) (i29.xs.getD k default).v)):=zoO hri.2.1 hown (zbl hd hl (zaP hxm hk2)) (hri.2.2.2 _ (zaP hxm hk2)) hhk hw0
 obtain ⟨ti1,ti2,ti3,ti4⟩:=zhR hri.2.1 hown (zbl hd hl (zaP hxm hk2)) (hri.2.2.2 _ (zaP hxm hk2))
 obtain ⟨hh1,hh2,hh3⟩:=hhk
 dsimp only at hh1 hh2 hh3
 refine zz 3 ?_
 refine T.ae [] [(0,.q),(1,.q),(2,.g),(3,.q),(4,.g),(5,.q),(6,.q),(7,.g),(8,.g),(9,.q),(10,.a 16),(11,.l)] Y12 Y12 ?_ Y0
 refine J.ag Y8k 11 rfl rfl zeq Y3 rfl <| J.ag Y8k 13 rfl rfl one3 Y3 rfl <| J.aB zhe rfl rfl Y5 Y5 Y8 rfl <| J.ai Y8k 39 rfl rfl zeu [.int .i64 (st.1.getD k (0,0)).1,.int .i64 (st.1.getD k (0,0)).2] rfl (zgq st.1 k Y5) rfl <| zz 1 ?_
 refine J.ai Y8k 14 rfl rfl zaC ((i29.xs.getD k default).cells) rfl rfl rfl <| J.aj Y8k zqK rfl rfl (fun w hw=>Ue.turns w (i29.xs.getD k default) (zbl hd hl (zaP hxm hk2)) ((hall _ (zaE hk2)).fi.keep (zaa (I:=[none]) (B0:=B) (l1:=[]) hVW29 hn Y189 hw Y4 (Sub.nil _) rfl)).cs i29.g types (types.getD s default) tA i29.lA tC i29.xs.length i29.lC i29.gm (hfp.keep (zaa (I:=[none]) (B0:=B) (l1:=[]) hVW29 hn Y189 hw Y4 (Sub.nil _) rfl)).cs (hT.ws hw (zab _)) (hri.2.2.2 _ (zaP hxm hk2))) ?_
 refine zz 2 ?_
 refine J.aj Y8k zui rfl rfl (fun w hw=>Ue.on w (st.1.getD k (0,0)).1 (st.1.getD k (0,0)).2 (turnsV types (types.getD s default) (i29.xs.getD k default).v).1 (turnsV types (types.getD s default) (i29.xs.getD k default).v).2 Y5 Y5 Y5 Y5) ?_
 refine J.cS 16 rfl (by repeat (first | exact zpw rfl | refine lkN_cons rfl ?_)) zmD [.int .i64 0,.int .i64 0] rfl rfl (fun g16 hg16=>?_)
 refine J.ae 16 rfl rfl rfl rfl [.int .i64 (onV (st.1.getD k (0,0)) (turnsV types (types.getD s default) (i29.xs.getD k default).v)).1,.int .i64 (onV (st.1.getD k (0,0)) (turnsV types (types.getD s default) (i29.xs.getD k default).v)).2] rfl zlU (Nat.le_of_ble_eq_true rfl) (zjH (onV (st.1.getD k (0,0)) (turnsV types (types.getD s default) (i29.xs.getD k default).v))) (Nat.zero_lt_succ _) trivial [.int .i64 (onV (st.1.getD k (0,0)) (turnsV types (types.getD s default) (i29.xs.getD k default).v)).1,.int .i64 (onV (st.1.getD k (0,0)) (turnsV types (types.getD s default) (i29.xs.getD k default).v)).2] rfl <| zz 4 ?_
 refine J.bl (vf:=[]) (vc:=[.pointer (some ⟨g13,0,none⟩),.pointer (some ⟨g11,0,none⟩),.pointer (some ⟨g16,0,none⟩),.pointer (some ⟨g12,0,none⟩)]) rfl rfl rfl <| zz 3 ?_
 refine T.ai (ι:=HSt) (fun (st1:HSt)=>st1=(if (findV (i29.xs.getD k default).v.code).ends=true then st else (passV k st (k+1) (onV (st.1.getD k (0,0)) (turnsV types (types.getD s default) (i29.xs.getD k default).v))).2)∧HsOk st1∧st1.1.length=i29.xs.length∧st1.2.length=i29.xs.length) (fun (st1:HSt)=>[(0,.slice tA types.length tC),(1,.int .i64 ((s:Nat):Int)),(2,.slice A bs.length c),(26,.slice tA types.length tC),(27,.int .i64 ((s:Nat):Int)),(28,.slice A bs.length c),(30,.pointer (pB i29.b i29.g)),(31,.bool i29.b),(9,.pointer (some ⟨i29.g,0,none⟩)),(10,.bool i29.b),(32,.bool i29.b),(33,.bool (decide (¬ i29.b=true))),(34,.pointer (some ⟨i29.g,0,none⟩)),(35,.pointer (some ⟨i29.g,0,none⟩)),(37,.slice i29.lA i29.xs.length i29.lC),(38,.int .i64 ((i29.xs.length:Nat):Int)),(39,.slice (some ⟨g39,0,none⟩) i29.xs.length i29.xs.length),(11,.pointer (some ⟨g11,0,none⟩)),(40,.pointer (some ⟨i29.g,0,none⟩)),(41,.pointer (some ⟨i29.g,0,none⟩)),(43,.slice i29.lA i29.xs.length i29.lC),(44,.int .i64 ((i29.xs.length:Nat):Int)),(45,.slice (some ⟨g45,0,none⟩) i29.xs.length i29.xs.length),(12,.pointer (some ⟨g12,0,none⟩)),(46,.slice (some ⟨g39,0,none⟩) i29.xs.length i29.xs.length),(47,.slice (some ⟨g45,0,none⟩) i29.xs.length i29.xs.length),(48,.pointer (some ⟨i29.g,0,none⟩)),(49,.pointer (some ⟨i29.g,0,none⟩)),(52,.int .i64 (types.getD s default).inn),(53,.pointer (some ⟨i29.g,0,none⟩)),(54,.pointer (some ⟨i29.g,0,none⟩)),(57,.int .i64 (types.getD s default).inn),(58,(.agg ([.int .i64 (types.getD s default).inn,.int .i64 (types.getD s default).inn]:List Value).toArray)),(61,.pointer (some ⟨i29.g,0,none⟩)),(62,.pointer (some ⟨i29.g,0,none⟩)),(64,.slice i29.lA i29.xs.length i29.lC),(65,.int .i64 ((i29.xs.length:Nat):Int)),(66,.int .i64 ((k:Nat):Int)),(68,.int .i64 ((k:Nat):Int)),(13,.pointer (some ⟨g13,0,none⟩)),(14,.pointer (some ⟨g14,0,none⟩)),(71,.slice (some ⟨g45,0,none⟩) i29.xs.length i29.xs.length),(72,.int .i64 ((k:Nat):Int)),(74,.bool (st.2.getD k false)),(75,.bool (decide (st.2.getD k false=false))),(78,.pointer (some ⟨i29.g,0,none⟩)),(80,.slice (some ⟨g39,0,none⟩) i29.xs.length i29.xs.length),(81,.int .i64 ((k:Nat):Int)),(84,.int .i64 (wrongV types (types.getD s default) (i29.xs.getD k default).v ((st.1.getD k (0,0)).1,(st.1.getD k (0,0)).2))),(15,.int .i64 (wrongV types (types.getD s default) (i29.xs.getD k default).v ((st.1.getD k (0,0)).1,(st.1.getD k (0,0)).2))),(85,.int .i64 (wrongV types (types.getD s default) (i29.xs.getD k default).v ((st.1.getD k (0,0)).1,(st.1.getD k (0,0)).2))),(90,.slice (some ⟨g39,0,none⟩) i29.xs.length i29.xs.length),(91,.int .i64 ((k:Nat):Int)),(94,.pointer (some ⟨i29.g,0,none⟩)),(97,.int .i64 (turnsV types (types.getD s default) (i29.xs.getD k default).v).1),(98,.int .i64 (turnsV types (types.getD s default) (i29.xs.getD k default).v).2),(99,.agg ([.int .i64 (onV (st.1.getD k (0,0)) (turnsV types (types.getD s default) (i29.xs.getD k default).v)).1,.int .i64 (onV (st.1.getD k (0,0)) (turnsV types (types.getD s default) (i29.xs.getD k default).v)).2]:List Value).toArray),(16,.pointer (some ⟨g16,0,none⟩)),(100,.func (.func 189) #[] ([.pointer (some ⟨g13,0,none⟩),.pointer (some ⟨g11,0,none⟩),.pointer (some ⟨g16,0,none⟩),.pointer (some ⟨g12,0,none⟩)]:List Value).toArray),(17,.func (.func 189) #[] ([.pointer (some ⟨g13,0,none⟩),.pointer (some ⟨g11,0,none⟩),.pointer (some ⟨g16,0,none⟩),.pointer (some ⟨g12,0,none⟩)]:List Value).toArray)]) (fun (st1:HSt)=>((71,⟨none,.mp i29.gm (fun r=>KV r (kvF (i29.xs.map InR.v) 0)),[]⟩)::(11,⟨some g11,249,[.slice (some ⟨g39,0,none⟩) i29.xs.length i29.xs.length]⟩)::(12,⟨some g12,160,[.slice (some ⟨g45,0,none⟩) i29.xs.length i29.xs.length]⟩)::(13,⟨some g13,3,[.int .i64 ((k:Nat):Int)]⟩)::(14,⟨some g14,200,((i29.xs.getD k default).cells)⟩)::(16,⟨some g16,254,[.int .i64 (onV (st.1.getD k (0,0)) (turnsV types (types.getD s default) (i29.xs.getD k default).v)).1,.int .i64 (onV (st.1.getD k (0,0)) (turnsV types (types.getD s default) (i29.xs.getD k default).v)).2]⟩)::(39,⟨some g39,254,rowSp st1.1⟩)::(45,⟨some g45,4,rowT st1.2⟩)::snapL W29 w.heap.size [none])) ?_ ?_
 refine zz 2 ?_
 refine J.aa zat rfl rfl <| J.ag Y8k 14 rfl rfl one3 Y3 rfl <| J.aj Y8k zjm rfl rfl (fun w hw=>Vc.Of w _ (zbl hd hl (zaP hxm hk2)).cd.1 (zbl hd hl (zaP hxm hk2)).cd.2) ?_
 refine zz 3 ?_
 refine J.am 18 rfl zbj [.int .i64 0,.string ByteArray.empty,.int .i64 0,.int .i64 0,.int .i64 0,.int .i64 0,.bool false] rfl rfl fun g18 hg18=>J.ae 18 rfl rfl rfl rfl ((findV (i29.xs.getD k default).v.code).cells) rfl zal (Nat.le_of_ble_eq_true rfl) Y126 (Nat.zero_lt_succ _) trivial ((findV (i29.xs.getD k default).v.code).cells) rfl <| zz 5 ?_
 refine J.aa zlv rfl rfl <| J.ag Y8k 18 rfl rfl one4 Y3 rfl <| J.as 108 (.bool (decide ((findV (i29.xs.getD k default).v.code).ends=true))) rfl Y178 <| J.aA rfl rfl Y18 <| zz 2 ?_
 refine T.aa rfl (fun h5=>?_) (fun h5=>?_)
 have hne:=h5
 have hk1:k+1 < i29.xs.length:=by rcases Nat.lt_or_ge (k+1) i29.xs.length with q | q;exact q;exact absurd (by rw [← hv];exact zmd hri.2.2.1.1 Y5) hne
 refine zz 2 ?_
 refine J.ag Y8k 13 rfl rfl one3 Y3 rfl <| J.aq rfl rfl rfl Y10 <| J.bF zqJ rfl rfl rfl (ι:=Unit) (fun _=>True) (fun _=>.bool (passV k st (k+1) (onV (st.1.getD k (0,0)) (turnsV types (types.getD s default) (i29.xs.getD k default).v))).1) [g13,g11,g39,g16,g12,g45] (fun _=>[(13,⟨some g13,3,[.int .i64 ((k:Nat):Int)]⟩),(11,⟨some g11,249,[.slice (some ⟨g39,0,none⟩) i29.xs.length i29.xs.length]⟩),(39,⟨some g39,254,rowSp (passV k st (k+1) (onV (st.1.getD k (0,0)) (turnsV types (types.getD s default) (i29.xs.getD k default).v))).2.1⟩),(16,⟨some g16,254,[.int .i64 (onV (st.1.getD k (0,0)) (turnsV types (types.getD s default) (i29.xs.getD k default).v)).1,.int .i64 (onV (st.1.getD k (0,0)) (turnsV types (types.getD s default) (i29.xs.getD k default).v)).2]⟩),(12,⟨some g12,160,[.slice (some ⟨g45,0,none⟩) i29.xs.length i29.xs.length]⟩),(45,⟨some g45,4,rowT (passV k st (k+1) (onV (st.1.getD k (0,0)) (turnsV types (types.getD s default) (i29.xs.getD k default).v))).2.2⟩)]) (fun w hw=>(ztA w g13 g11 g39 g16 g12 g45 k i29.xs.length (k+1) st (onV (st.1.getD k (0,0)) (turnsV types (types.getD s default) (i29.xs.getD k default).v)).1 (onV (st.1.getD k (0,0)) (turnsV types (types.getD s default) (i29.xs.getD k default).v)).2 hsl1 hsl2 Y5 hk1 ((hw.sub ((Sub.cons rfl (Sub.cons rfl (Sub.cons rfl (Sub.cons rfl (Sub.cons rfl (Sub.cons rfl (Sub.nil _))))))))).rebase rfl (fun g hg=>hg))).mono fun e w2 ⟨q1,q2⟩=>⟨(),trivial,q1,q2⟩) Y105 (fun _ _ _ _=>rfl) fun _ _=>?_
 refine zz 1 ?_
 exact X.at (passV k st (k+1) (onV (st.1.getD k (0,0)) (turnsV types (types.getD s default) (i29.xs.getD k default).v))).2 ⟨(if_neg hne).symm,zkZ (hsl1.trans hsl2.symm) hok hgok,ztz.1.trans hsl1,ztz.2.trans hsl2⟩ Y0 Y0
 have hne:=h5
 refine zz 1 ?_
 exact X.at st ⟨(if_pos (Decidable.not_not.1 hne)).symm,hok,hsl1,hsl2⟩ Y0 Y0
 rintro st1 ⟨hst1,hok1,hsl5,hsl6⟩
 refine zz 2 ?_
 refine J.ai Y8k 14 rfl rfl zaC ((i29.xs.getD k default).cells) rfl rfl rfl <| J.aL zod rfl rfl (ι:=RowIx) (fun r=>r.Ok 1 (leadsV (i29.xs.getD k default).v).length) (fun r=>r.val (leadsV (i29.xs.getD k default).v).length) [] (fun r=>[(61,r.ent 3 (rowI .i64 (leadsV (i29.xs.getD k default).v)))]) (fun w hw=>(Calls.mono (Ue.Leads w (i29.xs.getD k default) (zbl hd hl (zaP hxm hk2)) ((hall _ (zaE hk2)).fi.keep (zaa (I:=[none]) (B0:=B) (l1:=[(71,⟨none,.mp i29.gm (fun r=>KV r (kvF (i29.xs.map InR.v) 0)),[]⟩),(11,⟨some g11,249,[.slice (some ⟨g39,0,none⟩) i29.xs.length i29.xs.length]⟩),(12,⟨some g12,160,[.slice (some ⟨g45,0,none⟩) i29.xs.length i29.xs.length]⟩),(13,⟨some g13,3,[.int .i64 ((k:Nat):Int)]⟩),(14,⟨some g14,200,((i29.xs.getD k default).cells)⟩),(16,⟨some g16,254,[.int .i64 (onV (st.1.getD k (0,0)) (turnsV types (types.getD s default) (i29.xs.getD k default).v)).1,.int .i64 (onV (st.1.getD k (0,0)) (turnsV types (types.getD s default) (i29.xs.getD k default).v)).2]⟩),(39,⟨some g39,254,rowSp st1.1⟩),(45,⟨some g45,4,rowT st1.2⟩)]) hVW29 hn Y189 hw Y4 Y0 rfl)).cs (hall _ (zaE hk2)).ln) fun e w2 ⟨r,h1,h2,h3⟩=>⟨r,h1,h2,h3.only 60 61 rfl⟩)) Y182 (fun _ _ _ _=>rfl) fun r115 hr115=>?_
 refine J.al underlying123 rfl rfl <| zz 4 ?_
 refine T.ag (ι:=Nat×HSt) (fun (j,st2)=>j≤(leadsV (i29.xs.getD k default).v).length∧jumpsV (insA bs 0) k (onV (st.1.getD k (0,0)) (turnsV types (types.getD s default) (i29.xs.getD k default).v)) ((leadsV (i29.xs.getD k default).v).drop j) st2=jumpsV (insA bs 0) k (onV (st.1.getD k (0,0)) (turnsV types (types.getD s default) (i29.xs.getD k default).v)) (leadsV (i29.xs.getD k default).v) st1∧HsOk st2∧st2.1.length=i29.xs.length∧st2.2.length=i29.xs.length) (fun (j,st2)=>[(0,.slice tA types.length tC),(1,.int .i64 ((s:Nat):Int)),(2,.slice A bs.length c),(26,.slice tA types.length tC),(27,.int .i64 ((s:Nat):Int)),(28,.slice A bs.length c),(30,.pointer (pB i29.b i29.g)),(31,.bool i29.b),(9,.pointer (some ⟨i29.g,0,none⟩)),(10,.bool i29.b),(32,.bool i29.b),(33,.bool (decide (¬ i29.b=true))),(34,.pointer (some ⟨i29.g,0,none⟩)),(35,.pointer (some ⟨i29.g,0,none⟩)),(37,.slice i29.lA i29.xs.length i29.lC),(38,.int .i64 ((i29.xs.length:Nat):Int)),(39,.slice (some ⟨g39,0,none⟩) i29.xs.length i29.xs.length),(11,.pointer (some ⟨g11,0,none⟩)),(40,.pointer (some ⟨i29.g,0,none⟩)),(41,.pointer (some ⟨i29.g,0,none⟩)),(43,.slice i29.lA i29.xs.length i29.lC),(44,.int .i64 ((i29.xs.length:Nat):Int)),(45,.slice (some ⟨g45,0,none⟩) i29.xs.length i29.xs.length),(12,.pointer (some ⟨g12,0,none⟩)),(46,.slice (some ⟨g39,0,none⟩) i29.xs.length i29.xs.length),(47,.slice (some ⟨g45,0,none⟩) i29.xs.length i29.xs.length),(48,.pointer (some ⟨i29.g,0,none⟩)),(49,.pointer (some ⟨i29.g,0,none⟩)),(52,.int .i64 (types.getD s default).inn),(53,.pointer (some ⟨i29.g,0,none⟩)),(54,.pointer (some ⟨i29.g,0,none⟩)),(57,.int .i64 (types.getD s default).inn),(58,(.agg ([.int .i64 (types.getD s default).inn,.int .i64 (types.getD s default).inn]:List Value).toArray)),(61,.pointer (some ⟨i29.g,0,none⟩)),(62,.pointer (some ⟨i29.g,0,none⟩)),(64,.slice i29.lA i29.xs.length i29.lC),(65,.int .i64 ((i29.xs.length:Nat):Int)),(66,.int .i64 ((k:Nat):Int)),(68,.int .i64 ((k:Nat):Int)),(13,.pointer (some ⟨g13,0,none⟩)),(14,.pointer (some ⟨g14,0,none⟩)),(71,.slice (some ⟨g45,0,none⟩) i29.xs.length i29.xs.length),(72,.int .i64 ((k:Nat):Int)),(74,.bool (st.2.getD k false)),(75,.bool (decide (st.2.getD k false=false))),(78,.pointer (some ⟨i29.g,0,none⟩)),(80,.slice (some ⟨g39,0,none⟩) i29.xs.length i29.xs.length),(81,.int .i64 ((k:Nat):Int)),(84,.int .i64 (wrongV types (types.getD s default) (i29.xs.getD k default).v ((st.1.getD k (0,0)).1,(st.1.getD k (0,0)).2))),(15,.int .i64 (wrongV types (types.getD s default) (i29.xs.getD k default).v ((st.1.getD k (0,0)).1,(st.1.getD k (0,0)).2))),(85,.int .i64 (wrongV types (types.getD s default) (i29.xs.getD k default).v ((st.1.getD k (0,0)).1,(st.1.getD k (0,0)).2))),(90,.slice (some ⟨g39,0,none⟩) i29.xs.length i29.xs.length),(91,.int .i64 ((k:Nat):Int)),(94,.pointer (some ⟨i29.g,0,none⟩)),(97,.int .i64 (turnsV types (types.getD s default) (i29.xs.getD k default).v).1),(98,.int .i64 (turnsV types (types.getD s default) (i29.xs.getD k default).v).2),(99,.agg ([.int .i64 (onV (st.1.getD k (0,0)) (turnsV types (types.getD s default) (i29.xs.getD k default).v)).1,.int .i64 (onV (st.1.getD k (0,0)) (turnsV types (types.getD s default) (i29.xs.getD k default).v)).2]:List Value).toArray),(16,.pointer (some ⟨g16,0,none⟩)),(100,.func (.func 189) #[] ([.pointer (some ⟨g13,0,none⟩),.pointer (some ⟨g11,0,none⟩),.pointer (some ⟨g16,0,none⟩),.pointer (some ⟨g12,0,none⟩)]:List Value).toArray),(17,.func (.func 189) #[] ([.pointer (some ⟨g13,0,none⟩),.pointer (some ⟨g11,0,none⟩),.pointer (some ⟨g16,0,none⟩),.pointer (some ⟨g12,0,none⟩)]:List Value).toArray),(115,r115.val (leadsV (i29.xs.getD k default).v).length),(116,.int .i64 (((leadsV (i29.xs.getD k default).v).length:Nat):Int)),(117,.int .i64 ((j:Nat):Int))]) (fun (j,st2)=>((71,⟨none,.mp i29.gm (fun r=>KV r (kvF (i29.xs.map InR.v) 0)),[]⟩)::(11,⟨some g11,249,[.slice (some ⟨g39,0,none⟩) i29.xs.length i29.xs.length]⟩)::(12,⟨some g12,160,[.slice (some ⟨g45,0,none⟩) i29.xs.length i29.xs.length]⟩)::(13,⟨some g13,3,[.int .i64 ((k:Nat):Int)]⟩)::(14,⟨some g14,200,((i29.xs.getD k default).cells)⟩)::(16,⟨some g16,254,[.int .i64 (onV (st.1.getD k (0,0)) (turnsV types (types.getD s default) (i29.xs.getD k default).v)).1,.int .i64 (onV (st.1.getD k (0,0)) (turnsV types (types.getD s default) (i29.xs.getD k default).v)).2]⟩)::(61,r115.ent 3 (rowI .i64 (leadsV (i29.xs.getD k default).v)))::(39,⟨some g39,254,rowSp st2.1⟩)::(45,⟨some g45,4,rowT st2.2⟩)::snapL W29 w.heap.size [none])) (fun (j,st2)=>(leadsV (i29.xs.getD k default).v).length - j) ⟨0,st1⟩ ⟨Nat.zero_le _,rfl,hok1,hsl5,hsl6⟩ Y0 Y0 ?_
 rintro ⟨j,st2⟩ ⟨hj,hjm,hok2,hsl3,hsl4⟩
 try dsimp only at *
 refine zz 6 ?_
 refine T.aa rfl (fun h6=>?_) (fun h6=>?_)
 have hll:=zgF (zbl hd hl (zaP hxm hk2))
 have hj2:j < (leadsV (i29.xs.getD k default).v).length:=by omega
 refine zz 6 ?_
 refine J.bd zjJ rfl (hr115.some Y5) rfl Y5 Y5 Y8 rfl <| J.ag Y8k 61 rfl rfl one3 (zhX _ _ _ Y5) rfl <| zz 8 ?_
 refine J.aa zlu rfl rfl <| J.aG (i:=5) Y8k (fun w hw=>(hfp.keep (zaa (I:=[none]) (B0:=B) (l1:=[]) hVW29 hn Y189 hw Y4 (Sub.nil _) rfl)).cs) rfl zqy rfl rfl <| zz 1 ?_
 refine J.cF (k:=.l) 71 trivial underlying250 underlying3 zoN (kv:=(kvF (i29.xs.map InR.v) 0)) rfl (fun _ h=>h) rfl rfl rfl <| J.as 127 (.int .i64 (((placeV (insA bs 0) ((leadsV (i29.xs.getD k default).v).getD j 0)):Nat):Int)) rfl (by rw [hxm,zje]) <| J.bF zqJ rfl rfl rfl (ι:=Unit) (fun _=>True) (fun _=>.bool (passV k st2 (placeV (insA bs 0) ((leadsV (i29.xs.getD k default).v).getD j 0)) (onV (st.1.getD k (0,0)) (turnsV types (types.getD s default) (i29.xs.getD k default).v))).1) [g13,g11,g39,g16,g12,g45] (fun _=>[(13,⟨some g13,3,[.int .i64 ((k:Nat):Int)]⟩),(11,⟨some g11,249,[.slice (some ⟨g39,0,none⟩) i29.xs.length i29.xs.length]⟩),(39,⟨some g39,254,rowSp (passV k st2 (placeV (insA bs 0) ((leadsV (i29.xs.getD k default).v).getD j 0)) (onV (st.1.getD k (0,0)) (turnsV types (types.getD s default) (i29.xs.getD k default).v))).2.1⟩),(16,⟨some g16,254,[.int .i64 (onV (st.1.getD k (0,0)) (turnsV types (types.getD s default) (i29.xs.getD k default).v)).1,.int .i64 (onV (st.1.getD k (0,0)) (turnsV types (types.getD s default) (i29.xs.getD k default).v)).2]⟩),(12,⟨some g12,160,[.slice (some ⟨g45,0,none⟩) i29.xs.length i29.xs.length]⟩),(45,⟨some g45,4,rowT (passV k st2 (placeV (insA bs 0) ((leadsV (i29.xs.getD k default).v).getD j 0)) (onV (st.1.getD k (0,0)) (turnsV types (types.getD s default) (i29.xs.getD k default).v))).2.2⟩)]) (fun w hw=>(ztA w g13 g11 g39 g16 g12 g45 k i29.xs.length (placeV (insA bs 0) ((leadsV (i29.xs.getD k default).v).getD j 0)) st2 (onV (st.1.getD k (0,0)) (turnsV types (types.getD s default) (i29.xs.getD k default).v)).1 (onV (st.1.getD k (0,0)) (turnsV types (types.getD s default) (i29.xs.getD k default).v)).2 hsl3 hsl4 Y5 (by rw [hlen];exact znt Y5 _) ((hw.sub ((Sub.cons rfl (Sub.cons rfl (Sub.cons rfl (Sub.cons rfl (Sub.cons rfl (Sub.cons rfl (Sub.nil _))))))))).rebase rfl (fun g hg=>hg))).mono fun e w2 ⟨q1,q2⟩=>⟨(),trivial,q1,q2⟩) Y105 (fun _ _ _ _=>rfl) fun _ _=>?_
 refine J.as 128 (.bool (decide ((passV k st2 (placeV (insA bs 0) ((leadsV (i29.xs.getD k default).v).getD j 0)) (onV (st.1.getD k (0,0)) (turnsV types (types.getD s default) (i29.xs.getD k default).v))).1=true))) rfl Y178 <| J.aA rfl rfl Y18 <| zz 2 ?_
 refine T.aa rfl (fun h7=>?_) (fun h7=>?_)
 have hp:=h7
 have hstep:stepV types (types.getD s default) (insA bs 0) k st=none:=by rw [zmT hv hmk hw0,← hst1,← hjm,zkf hj2 hp]
 refine zz 1 ?_
 refine T.ae [] [(0,.g),(1,.q),(2,.g),(3,.g),(4,.g)] Y12 Y12 ?_ Y0
 refine J.aa zbh rfl rfl <| J.ag Y8k 14 rfl rfl one3 Y3 rfl <| zz 15 ?_
 exact X.ak rfl (RV.tmp rfl) (RV.tmp rfl) (RV.tmp rfl) (fun w' hw'=>⟨([],RowIx.nil,72,_),zil (zik Y5 hrun hstep) (show (72:Int)≠0 by decide),RowIx.nil_ok 3,rfl,(hw'.s0).addNil 60 207⟩)
 have hp:=Decidable.not_not.1 h7
 refine zz 4 ?_
 refine J.aq rfl rfl rfl Y10 <| zz 2 ?_
 exact X.ae ⟨(j+1),(passV k st2 (placeV (insA bs 0) ((leadsV (i29.xs.getD k default).v).getD j 0)) (onV (st.1.getD k (0,0)) (turnsV types (types.getD s default) (i29.xs.getD k default).v))).2⟩ ⟨by dsimp only;omega,(zkg hj2 hp).symm.trans hjm,zkZ (hsl3.trans hsl4.symm) hok2 hgok,ztz.1.trans hsl3,ztz.2.trans hsl4⟩ Y14 Y0 Y0
 obtain rfl:j=(leadsV (i29.xs.getD k default).v).length:=by omega
 have hstep:stepV types (types.getD s default) (insA bs 0) k st=some st2:=by rw [zmT hv hmk hw0,← hst1,← hjm,zmp]
 refine zz 7 ?_
 refine J.aq rfl rfl rfl Y10 <| zz 2 ?_
 exact X.ae ⟨(k+1),st2⟩ ⟨by dsimp only;omega,zpe hrun hstep,hok2,hsl3,hsl4⟩ Y14 Y0 Y0
 obtain rfl:k=i29.xs.length:=by omega
 have hrun:=(congrArg (runV types (types.getD s default) (insA bs 0)) hlen).symm.trans hrun
 refine zz 9 ?_
 refine J.aa zcb rfl rfl <| J.aG (i:=4) Y8k (fun w hw=>(hfp.keep (zaa (I:=[none]) (B0:=B) (l1:=[]) hVW29 hn Y189 hw Y4 (Sub.nil _) rfl)).cs) rfl zcO Y3 rfl <| J.al underlying194 rfl rfl <| J.aQ 139 rfl (q:=0) (c0:=i29.xs.length) underlying203 zpZ rfl rfl rfl Y192 (Nat.zero_le _) Y5 Y28 rfl fun g139 hg139=>zz 8 ?_
 refine J.aa zcb rfl rfl <| J.aG (i:=4) Y8k (fun w hw=>(hfp.keep (zaa (I:=[none]) (B0:=B) (l1:=[]) hVW29 hn Y189 hw Y4 (Sub.nil _) rfl)).cs) rfl zcO Y3 rfl <| J.al underlying194 rfl rfl <| zz 4 ?_
 refine T.ag (ι:=Nat×List HtV×RowIx) (fun (k,ys,r)=>k≤i29.xs.length∧ys.map HtV.p=st.1.take k∧ys.length=k∧r.Ok 3 ys.length) (fun (k,ys,r)=>[(0,.slice tA types.length tC),(1,.int .i64 ((s:Nat):Int)),(2,.slice A bs.length c),(26,.slice tA types.length tC),(27,.int .i64 ((s:Nat):Int)),(28,.slice A bs.length c),(30,.pointer (pB i29.b i29.g)),(31,.bool i29.b),(9,.pointer (some ⟨i29.g,0,none⟩)),(10,.bool i29.b),(32,.bool i29.b),(33,.bool (decide (¬ i29.b=true))),(34,.pointer (some ⟨i29.g,0,none⟩)),(35,.pointer (some ⟨i29.g,0,none⟩)),(37,.slice i29.lA i29.xs.length i29.lC),(38,.int .i64 ((i29.xs.length:Nat):Int)),(39,.slice (some ⟨g39,0,none⟩) i29.xs.length i29.xs.length),(11,.pointer (some ⟨g11,0,none⟩)),(40,.pointer (some ⟨i29.g,0,none⟩)),(41,.pointer (some ⟨i29.g,0,none⟩)),(43,.slice i29.lA i29.xs.length i29.lC),(44,.int .i64 ((i29.xs.length:Nat):Int)),(45,.slice (some ⟨g45,0,none⟩) i29.xs.length i29.xs.length),(12,.pointer (some ⟨g12,0,none⟩)),(46,.slice (some ⟨g39,0,none⟩) i29.xs.length i29.xs.length),(47,.slice (some ⟨g45,0,none⟩) i29.xs.length i29.xs.length),(48,.pointer (some ⟨i29.g,0,none⟩)),(49,.pointer (some ⟨i29.g,0,none⟩)),(52,.int .i64 (types.getD s default).inn),(53,.pointer (some ⟨i29.g,0,none⟩)),(54,.pointer (some ⟨i29.g,0,none⟩)),(57,.int .i64 (types.getD s default).inn),(58,(.agg ([.int .i64 (types.getD s default).inn,.int .i64 (types.getD s default).inn]:List Value).toArray)),(61,.pointer (some ⟨i29.g,0,none⟩)),(62,.pointer (some ⟨i29.g,0,none⟩)),(64,.slice i29.lA i29.xs.length i29.lC),(65,.int .i64 ((i29.xs.length:Nat):Int)),(66,.int .i64 ((i29.xs.length:Nat):Int)),(134,.pointer (some ⟨i29.g,0,none⟩)),(135,.pointer (some ⟨i29.g,0,none⟩)),(137,.slice i29.lA i29.xs.length i29.lC),(138,.int .i64 ((i29.xs.length:Nat):Int)),(139,.slice (some ⟨g139,0,none⟩) 0 i29.xs.length),(140,.pointer (some ⟨i29.g,0,none⟩)),(141,.pointer (some ⟨i29.g,0,none⟩)),(143,.slice i29.lA i29.xs.length i29.lC),(144,.int .i64 ((i29.xs.length:Nat):Int)),(145,.int .i64 ((k:Nat):Int)),(22,r.val ys.length)]) (fun (k,ys,r)=>((71,⟨none,.mp i29.gm (fun r=>KV r (kvF (i29.xs.map InR.v) 0)),[]⟩)::(11,⟨some g11,249,[.slice (some ⟨g39,0,none⟩) i29.xs.length i29.xs.length]⟩)::(12,⟨some g12,160,[.slice (some ⟨g45,0,none⟩) i29.xs.length i29.xs.length]⟩)::(39,⟨some g39,254,rowSp st.1⟩)::(45,⟨some g45,4,rowT st.2⟩)::(139,r.ent 207 (rowHt ys))::snapL W29 w.heap.size [none])) (fun (k,ys,r)=>i29.xs.length - k) ⟨0,[],(RowIx.mk (some g139) i29.xs.length (zeros (.agg (zc10:List Value).toArray) i29.xs.length))⟩ ⟨Nat.zero_le _,rfl,rfl,znl _ _ _ rfl (zmB zpZ _) Y28⟩ Y0 Y0 ?_
 rintro ⟨k,ys,r⟩ ⟨hk,hym,hyl,hr⟩
 try dsimp only at *
 refine zz 6 ?_
 refine T.aa rfl (fun h8=>?_) (fun h8=>?_)
 have hk2:k < i29.xs.length:=by omega
 refine zz 7 ?_
 refine J.ah zmc rfl (hfl.isSome Y183) rfl Y5 Y5 Y8 rfl <| J.aU Y8k (fun w hw=>(hfl.keep (zaa (I:=[none]) (B0:=B) (l1:=[]) hVW29 hn Y189 hw Y4 (Sub.nil _) rfl)).cs) rfl zaC rfl Y23 (zdL _ _ Y5) rfl <| J.am 24 rfl zch zc8 rfl rfl fun g24 hg24=>zz 1 ?_
 refine J.ae 24 rfl rfl rfl rfl ((i29.xs.getD k default).cells) rfl zen (Nat.le_of_ble_eq_true rfl) Y126 (Nat.zero_lt_succ _) trivial ((i29.xs.getD k default).cells) rfl <| zz 2 ?_
 refine T.ae [] [(0,.g),(1,.g),(2,.q),(3,.q),(4,.g),(5,.g),(6,.g),(7,.q),(8,.q),(9,.g),(10,.g),(11,.g),(12,.q),(13,.g),(14,.l),(15,.l),(16,.g)] Y12 Y12 ?_ Y0
 refine zz 1 ?_
 refine J.aa zbh rfl rfl <| J.ag Y8k 24 rfl rfl one3 Y3 rfl <| J.ag Y8k 11 rfl rfl zeq Y3 rfl <| zz 1 ?_
 refine J.aB zhe rfl rfl Y5 Y5 Y8 rfl <| J.aa zff rfl rfl <| J.ag Y8k 39 rfl rfl one3 (zkT st.1 k Y5) rfl <| J.ag Y8k 11 rfl rfl zeq Y3 rfl <| zz 1 ?_
 refine J.aB zhe rfl rfl Y5 Y5 Y8 rfl <| J.aa zca rfl rfl <| J.ag Y8k 39 rfl rfl one3 (zkU st.1 k Y5) rfl <| J.ao rfl rfl (.agg (HtV.mk (((i29.xs.getD k default).v.at_:Nat):Int) (st.1.getD k (0,0)).1 (st.1.getD k (0,0)).2).cells.toArray) Y191 <| J.aD 164 rfl underlying203 zpZ Y23 rfl ((HtV.mk (((i29.xs.getD k default).v.at_:Nat):Int) (st.1.getD k (0,0)).1 (st.1.getD k (0,0)).2).cells) rfl rfl rfl fun g164 hg164=>J.ay 139 rfl underlying203 zpZ rfl hr (zfH ys) rfl rfl rfl (fun w hw=>(hw.blkCs (k:=164) rfl)) (HtV.cells_one _) Y5 Y28 rfl (ys++[(HtV.mk (((i29.xs.getD k default).v.at_:Nat):Int) (st.1.getD k (0,0)).1 (st.1.getD k (0,0)).2)]).length Y25 (rowHt (ys++[(HtV.mk (((i29.xs.getD k default).v.at_:Nat):Int) (st.1.getD k (0,0)).1 (st.1.getD k (0,0)).2)])) (zmg _ _).symm fun r165 hr165=>zz 5 ?_
 refine J.aq rfl rfl rfl Y10 <| zz 2 ?_
 exact X.ae ⟨(k+1),(ys++[(HtV.mk (((i29.xs.getD k default).v.at_:Nat):Int) (st.1.getD k (0,0)).1 (st.1.getD k (0,0)).2)]),r165⟩ ⟨by dsimp only;omega,zmn _ hym Y5,by dsimp only;rw [List.length_append,hyl];rfl,hr165⟩ Y14 Y0 Y0
 obtain rfl:k=i29.xs.length:=by omega
 rw [List.take_of_length_le Y5] at hym
 refine zz 14 ?_
 exact X.ak rfl (RV.tmp rfl) (RV.tmp rfl) (RV.tmp rfl) (fun w' hw'=>⟨(ys,r,0,0),ztJ hri (by rw [zsw hrun,hym]) (by dsimp only;omega),hr,rfl,hw'.only 139 60 rfl⟩)
end Go.Proofs.YtlllcafedekojaaGreatDoor.Uh
namespace Go.Fz
open Go Go.Fw Go.Proofs.Tryz
theorem zpT:FldT prog 181 1 3 5 0:=⟨Y12,sz3⟩
theorem zul:FnOk prog 180:=FnOk.mk' func180 Y12 rfl
theorem zaS:FldT prog 181 0 122 0 4:=⟨Y12,zlW⟩
theorem sz179:SizeT prog 179 1:=Y9
theorem zfg:FldT prog 181 4 179 8 0:=⟨Y12,sz179⟩
theorem ziY:OneT prog 179:=⟨⟨_,underlying179,rfl⟩,Y12⟩
theorem zlV:SizeT prog 123 1:=Y9
theorem znb:SlT prog 179 123 1:=⟨underlying179,zlV⟩
theorem ziZ:OneT prog 123:=⟨⟨_,underlying123,rfl⟩,Y12⟩
theorem zqM:FnOk prog 182:=FnOk.mk' func182 Y12 rfl
theorem zit:FldT prog 181 2 160 6 0:=⟨Y12,zoU⟩
theorem zfh:FldT prog 181 3 160 7 0:=⟨Y12,zoU⟩
theorem zuo:FnOk prog 155:=FnOk.mk' func155 Y12 rfl
theorem zun:FnOk prog 157:=FnOk.mk' func157 Y12 rfl
theorem zum:FnOk prog 158:=FnOk.mk' func158 Y12 rfl
end Go.Fz
namespace Go.Proofs.YtlllcafedekojaaGreatDoor.Ui
open Go Go.Fw Go.Fz Go.Proofs.Tryz
attribute [local irreducible] J T X
theorem names (w:World) (n:Nat) (hn:n≤w.heap.size) (B:List (Option Nat)) (g40 gm gl gc:Nat) (c:CtR) (kind:Int) (mk ly:List Bool) (ys:List IsR) (s:Nat) (cl:List Nat) (r:RowIx) (hr:r.Ok 1 cl.length) (hcl:cl.length≤1000000) (hBM:∀ g∈idsN [(40,⟨some g40,181,judC c kind gm gl gc⟩),(30,⟨some gm,4,rowT mk⟩),(34,⟨some gl,4,rowT ly⟩),(38,⟨some gc,123,rowIs (ys.set s ⟨cl,hdOf r.id,r.cap⟩)⟩),(60,r.ent 3 (rowN .i64 cl))],some g∈B) (hT:Fit w n B c.tA (rowTy c.types)) (x:InR) (hs:x.v.Fine) (hx:x.Ok w n B) (st:List Bool) (stA:Option Addr) (stC:Nat) (hS:Fit w n B stA (rowT st)) (hst:st.length≤1000000) (hsl:s < c.types.length) (htl:c.types.length≤1024) (hsc:c.codes.length=c.types.length) (hyl:ys.length=c.codes.length) (hml:mk.length=c.subs.length) (hll:ly.length=c.subs.length) (hsu:c.subs.length≤256) (hsz:c.size≤65535) (hw:WS w (idsN [(40,⟨some g40,181,judC c kind gm gl gc⟩),(30,⟨some gm,4,rowT mk⟩),(34,⟨some gl,4,rowT ly⟩),(38,⟨some gc,123,rowIs (ys.set s ⟨cl,hdOf r.id,r.cap⟩)⟩),(60,r.ent 3 (rowN .i64 cl))]) [(40,⟨some g40,181,judC c kind gm gl gc⟩),(30,⟨some gm,4,rowT mk⟩),(34,⟨some gl,4,rowT ly⟩),(38,⟨some gc,123,rowIs (ys.set s ⟨cl,hdOf r.id,r.cap⟩)⟩),(60,r.ent 3 (rowN .i64 cl))] w):
    Calls prog 155 [.pointer (some ⟨g40,0,none⟩),.int .i64 ((s:Nat):Int),.agg x.cells.toArray,.slice stA st.length stC].toArray w fun e w'=>∃ q:NmQ,q.Ok c.v (c.types.getD s default) kind st x.v mk ly cl∧e=.returned (.int .i64 q.e)∧WS w (idsN [(40,⟨some g40,181,judC c kind gm gl gc⟩),(30,⟨some gm,4,rowT mk⟩),(34,⟨some gl,4,rowT ly⟩),(38,⟨some gc,123,rowIs (ys.set s ⟨cl,hdOf r.id,r.cap⟩)⟩),(60,r.ent 3 (rowN .i64 cl))]) [(40,⟨some g40,181,judC c kind gm gl gc⟩),(30,⟨some gm,4,rowT q.mm⟩),(34,⟨some gl,4,rowT q.ly⟩),(38,⟨some gc,123,rowIs (ys.set s ⟨q.cl,hdOf q.r.id,q.r.cap⟩)⟩),(60,q.r.ent 3 (rowN .i64 q.cl))] w':=by
 have hnl:=znB hs
 have hv1:c.v.types.length=c.types.length:=rfl
 have hv2:c.v.subs.length=c.subs.length:=List.length_map ..
 have hv3:c.v.size=c.size:=rfl
 refine zac (idsN [(40,⟨some g40,181,judC c kind gm gl gc⟩),(30,⟨some gm,4,rowT mk⟩),(34,⟨some gl,4,rowT ly⟩),(38,⟨some gc,123,rowIs (ys.set s ⟨cl,hdOf r.id,r.cap⟩)⟩),(60,r.ent 3 (rowN .i64 cl))]) 140 [(40,⟨some g40,181,judC c kind gm gl gc⟩),(30,⟨some gm,4,rowT mk⟩),(34,⟨some gl,4,rowT ly⟩),(38,⟨some gc,123,rowIs (ys.set s ⟨cl,hdOf r.id,r.cap⟩)⟩),(60,r.ent 3 (rowN .i64 cl))] func155 rfl ntmps155 Y20 hw <| zz 2 ?_
 refine J.aE 6 rfl rfl (x.cells) rfl rfl fun g6 hg6=>zz 5 ?_
 refine T.ae [] [(0,.g),(1,.q),(2,.g),(3,.g),(4,.g),(5,.q),(6,.q)] Y12 Y12 ?_ Y0
 refine J.aa zat rfl rfl <| J.ag Y8k 6 rfl rfl one3 Y3 rfl <| zz 2 ?_
 refine J.aa zpT rfl rfl <| J.ag Y8k 40 rfl rfl one3 rfl rfl <| J.aj Y8k zul rfl rfl (fun w hw=>Vc.Bars w x.v.code kind) ?_
 refine J.as 20 (.bool (decide (barsV x.v.code kind=true))) rfl Y178 <| zz 2 ?_
 refine T.aa rfl (fun h1=>?_) (fun h1=>?_)
 have hb:=h1
 refine zz 7 ?_
 exact X.aa rfl (RV.tmp rfl) (fun w' hw'=>⟨⟨80,mk,ly,cl,r⟩,zer (fun q=>by rw [q.bar] at hb;cases hb) (show (80:Int)≠0 by decide) hr,rfl,hw'.sub (Sub.cons rfl (Sub.cons rfl (Sub.cons rfl (Sub.cons rfl (Sub.cons rfl (Sub.nil _))))))⟩)
 have hbar:barsV x.v.code kind=false:=by simpa using h1
 have hll2:=zgF hs
 refine zz 5 ?_
 refine J.ai Y8k 6 rfl rfl zaC (x.cells) rfl rfl rfl <| J.aL zod rfl rfl (ι:=RowIx) (fun r=>r.Ok 1 (leadsV x.v).length) (fun r=>r.val (leadsV x.v).length) [] (fun r=>[(61,r.ent 3 (rowI .i64 (leadsV x.v)))]) (fun w hw=>(Calls.mono (Ue.Leads w x hs (hx.fi.keep (zad (B0:=B) (l1:=[(40,⟨some g40,181,judC c kind gm gl gc⟩),(30,⟨some gm,4,rowT mk⟩),(34,⟨some gl,4,rowT ly⟩),(38,⟨some gc,123,rowIs (ys.set s ⟨cl,hdOf r.id,r.cap⟩)⟩),(60,r.ent 3 (rowN .i64 cl)),(6,⟨some g6,200,(x.cells)⟩)]) hn hBM hw Y0 rfl)).cs hx.ln) fun e w2 ⟨r,h1,h2,h3⟩=>⟨r,h1,h2,h3.only 60 61 rfl⟩)) Y182 (fun _ _ _ _=>rfl) fun r22 hr22=>?_
 refine J.al underlying123 rfl rfl <| zz 4 ?_
 refine T.ag (ι:=Nat) (fun (j:Nat)=>j≤(leadsV x.v).length∧∀ q,q < j→0≤(leadsV x.v).getD q 0∧(leadsV x.v).getD q 0 < st.length∧st.getD ((leadsV x.v).getD q 0).toNat false=true) (fun (j:Nat)=>[(0,.pointer (some ⟨g40,0,none⟩)),(1,.int .i64 ((s:Nat):Int)),(2,.agg x.cells.toArray),(3,.slice stA st.length stC),(6,.pointer (some ⟨g6,0,none⟩)),(15,.int .i64 x.v.code),(16,.pointer (some ⟨g40,0,none⟩)),(17,.pointer (some ⟨g40,0,none⟩)),(19,.int .i64 kind),(20,.bool (decide (barsV x.v.code kind=true))),(22,r22.val (leadsV x.v).length),(23,.int .i64 (((leadsV x.v).length:Nat):Int)),(24,.int .i64 ((j:Nat):Int))]) (fun (j:Nat)=>[(40,⟨some g40,181,judC c kind gm gl gc⟩),(30,⟨some gm,4,rowT mk⟩),(34,⟨some gl,4,rowT ly⟩),(38,⟨some gc,123,rowIs (ys.set s ⟨cl,hdOf r.id,r.cap⟩)⟩),(60,r.ent 3 (rowN .i64 cl)),(6,⟨some g6,200,(x.cells)⟩),(61,r22.ent 3 (rowI .i64 (leadsV x.v)))]) (fun (j:Nat)=>(leadsV x.v).length - j) 0 ⟨Nat.zero_le _,fun q hq=>absurd hq (Nat.not_lt_zero q)⟩ Y0 Y0 ?_
 rintro j ⟨hj,hjall⟩
 refine zz 6 ?_
 refine T.aa rfl (fun h2=>?_) (fun h2=>?_)
 have hj2:j < (leadsV x.v).length:=by omega
 refine zz 6 ?_
 refine J.bd zjJ rfl (hr22.some Y5) rfl Y5 Y5 Y8 rfl <| J.ag Y8k 61 rfl rfl one3 (zhX _ _ _ Y5) rfl <| zz 8 ?_
 refine J.an 30 rfl (fun h3=>?_) (fun h3=>?_)
 refine zz 26 ?_
 exact X.aa rfl (RV.tmp rfl) (fun w' hw'=>⟨⟨63,mk,ly,cl,r⟩,zer (fun q=>absurd (zfB q.lead hj2) Y141) (show (63:Int)≠0 by decide) hr,rfl,hw'.sub (Sub.cons rfl (Sub.cons rfl (Sub.cons rfl (Sub.cons rfl (Sub.cons rfl (Sub.nil _))))))⟩)
 refine zz 3 ?_
 refine J.al underlying160 rfl rfl <| zz 3 ?_
 refine J.an 36 rfl (fun h4=>?_) (fun h4=>?_)
 refine zz 20 ?_
 exact X.aa rfl (RV.tmp rfl) (fun w' hw'=>⟨⟨63,mk,ly,cl,r⟩,zer (fun q=>absurd (zfB q.lead hj2) Y141) (show (63:Int)≠0 by decide) hr,rfl,hw'.sub (Sub.cons rfl (Sub.cons rfl (Sub.cons rfl (Sub.cons rfl (Sub.cons rfl (Sub.nil _))))))⟩)
 refine zz 3 ?_
 refine J.ah zcY rfl (hS.isSome Y187) rfl Y5 Y5 rfl rfl <| zz 1 ?_
 refine J.aG Y8k (fun w hw=>(hS.keep (zad (B0:=B) (l1:=[]) hn hBM hw (Sub.nil _) rfl)).cs) rfl one4 (zcl _ _ Y5) rfl <| J.aF rfl rfl <| J.aA (b:= !st.getD ((leadsV x.v).getD j 0).toNat false) rfl rfl rfl <| J.as 41 (.bool (decide (¬ st.getD ((leadsV x.v).getD j 0).toNat false=true))) rfl (by cases st.getD ((leadsV x.v).getD j 0).toNat false<;>rfl) <| zz 3 ?_
 refine T.aa rfl (fun h5=>?_) (fun h5=>?_)
 refine zz 11 ?_
 exact X.aa rfl (RV.tmp rfl) (fun w' hw'=>⟨⟨63,mk,ly,cl,r⟩,zer (fun q=>absurd (zfB q.lead hj2) Y141) (show (63:Int)≠0 by decide) hr,rfl,hw'.sub (Sub.cons rfl (Sub.cons rfl (Sub.cons rfl (Sub.cons rfl (Sub.cons rfl (Sub.nil _))))))⟩)
 refine zz 4 ?_
 refine J.aq rfl rfl rfl Y10 <| zz 2 ?_
 exact X.ae (j+1) ⟨by omega,zao hjall ⟨by omega,by omega,Decidable.not_not.1 Y195⟩⟩ Y14 Y0 Y0
 obtain rfl:j=(leadsV x.v).length:=by omega
 have hlead:leadOk st x.v:=zlg hjall
 refine zz 9 ?_
 refine J.aa zaS rfl rfl <| J.aa zbi rfl rfl <| J.ag Y8k 40 rfl rfl zby Y3 rfl <| zz 1 ?_
 refine J.ah zfr rfl (hT.isSome Y179) rfl Y5 Y5 Y8 rfl <| J.aU Y8k (fun w hw=>(hT.keep (zad (B0:=B) (l1:=[]) hn hBM hw (Sub.nil _) rfl)).cs) rfl zdy rfl Y23 (zbS _ _ Y5) rfl <| J.am 11 rfl zcD zc10 rfl rfl fun g11 hg11=>J.ae 11 rfl rfl rfl rfl ((c.types.getD s default).cells) rfl zgj (Nat.le_of_ble_eq_true rfl) Y149 (Nat.zero_lt_succ _) trivial ((c.types.getD s default).cells) rfl <| zz 4 ?_
 refine J.ai Y8k 6 rfl rfl zaC (x.cells) rfl rfl rfl <| J.aj Y8k zjn rfl rfl (fun w hw=>Vi.Named w x hs (hx.fi.keep (zad (B0:=B) (l1:=[]) hn hBM hw (Sub.nil _) rfl)).cs) ?_
 refine zz 10 ?_
 refine J.aa zat rfl rfl <| J.ag Y8k 6 rfl rfl one3 Y3 rfl <| zz 10 ?_
 refine T.aa rfl (fun h6=>?_) (fun h6=>?_)
 refine T.as 59 (.bool true) rfl (by exact congrArg Value.bool (decide_eq_true h6)) <| zz 9 ?_
 refine J.aa zaS rfl rfl <| J.aa zbi rfl rfl <| J.ag Y8k 40 rfl rfl zby Y3 rfl <| J.al underlying120 rfl rfl <| zz 3 ?_
 refine T.aa rfl (fun h7=>?_) (fun h7=>?_)
 refine zz 9 ?_
 exact X.aa rfl (RV.tmp rfl) (fun w' hw'=>⟨⟨81,mk,ly,cl,r⟩,zer (fun q=>absurd (q.call Y5).1 Y5) (show (81:Int)≠0 by decide) hr,rfl,hw'.sub (Sub.cons rfl (Sub.cons rfl (Sub.cons rfl (Sub.cons rfl (Sub.cons rfl (Sub.nil _))))))⟩)
 have hnn:(namedP x.v).1 < c.types.length:=by omega
 refine zz 3 ?_
 refine T.an [(40,⟨some g40,181,judC c kind gm gl gc⟩),(38,⟨some gc,123,rowIs (ys.set s ⟨cl,hdOf r.id,r.cap⟩)⟩)] [(0,.g),(1,.g),(2,.g),(3,.s),(4,.g),(5,.g),(6,.g),(7,.g),(8,.s),(9,.g),(10,.g),(11,.s),(12,.g),(13,.l),(14,.l),(15,.g)] [] [(16,.l)] Y12 Y12 Y12 ?_ Y0
 refine zz 2 ?_
 refine J.aa zfg rfl rfl <| J.aJ 40 rfl rfl ziY Y3 rfl <| zz 3 ?_
 refine J.aa zfg rfl rfl <| J.aJ 40 rfl rfl ziY Y3 rfl <| zz 1 ?_
 refine J.aB znb rfl rfl Y5 Y5 Y8 rfl <| J.aJ 38 rfl rfl ziZ (by rw [zfv _ _ (by rw [List.length_set];omega),zfd _ _ _ _ Y5]) rfl <| zz 1 ?_
 refine J.aD 83 rfl underlying123 el3 Y23 rfl [.int .i64 (((namedP x.v).1:Nat):Int)] rfl rfl rfl fun g83 hg83=>J.ay 60 rfl underlying123 el3 rfl hr Y170 rfl rfl rfl (fun w hw=>(hw.blkCs (k:=83) rfl)) Y134 Y5 Y28 rfl (cl++[(namedP x.v).1]).length Y25 (rowN .i64 (cl++[(namedP x.v).1])) (by simp [rowN]) fun r84 hr84=>J.aB znb rfl rfl Y5 Y5 Y8 rfl ?_
 refine J.bw [(40,⟨some g40,181,judC c kind gm gl gc⟩),(30,⟨some gm,4,rowT mk⟩),(34,⟨some gl,4,rowT ly⟩),(38,⟨some gc,123,rowIs (ys.set s ⟨cl,hdOf r.id,r.cap⟩)⟩),(60,r84.ent 3 (rowN .i64 (cl++[(namedP x.v).1]))),(11,⟨some g11,154,((c.types.getD s default).cells)⟩),(6,⟨some g6,200,(x.cells)⟩),(83,⟨some g83,3,[.int .i64 (((namedP x.v).1:Nat):Int)]⟩)] Y0 ?_ (Sub.nil _)
 refine J.ae 38 rfl rfl rfl rfl [r84.val (cl++[(namedP x.v).1]).length] rfl zlV (by rw [zcw,List.length_set];show _+1≤_;omega) Y27 Y11 trivial (rowIs (ys.set s ⟨(cl++[(namedP x.v).1]),hdOf r84.id,r84.cap⟩)) (zhw ys s Y5 ⟨cl,hdOf r.id,r.cap⟩ ⟨(cl++[(namedP x.v).1]),hdOf r84.id,r84.cap⟩) <| zz 3 ?_
 refine T.ae [] [(0,.g),(1,.g),(2,.q),(3,.q),(4,.g),(5,.g),(6,.g),(7,.g),(8,.q),(9,.g),(10,.g),(11,.q),(12,.q),(13,.g)] Y12 Y12 ?_ Y0
 refine zz 1 ?_
 refine J.aa zat rfl rfl <| J.ag Y8k 6 rfl rfl one3 Y3 rfl <| J.ai Y8k 11 rfl rfl zdy ((c.types.getD s default).cells) rfl rfl rfl <| zz 2 ?_
 refine J.aa zaS rfl rfl <| J.aa zbi rfl rfl <| J.ag Y8k 40 rfl rfl zby Y3 rfl <| zz 1 ?_
 refine J.ah zfr rfl (hT.isSome Y179) rfl Y5 Y5 Y8 rfl <| J.aU Y8k (fun w hw=>(hT.keep (zad (B0:=B) (l1:=[]) hn hBM hw (Sub.nil _) rfl)).cs) rfl zdy rfl Y23 (zbS _ _ Y5) rfl <| J.aj Y8k zqM rfl rfl (fun w hw=>Ue.goes w _ x.v.code (c.types.getD s default) (calleeV c.types x.v)) ?_
 refine zz 6 ?_
 exact X.aa rfl (RV.tmp rfl) (fun w' hw'=>⟨⟨goesE x.v.code (c.types.getD s default) (calleeV c.types x.v),mk,ly,(cl++[(namedP x.v).1]),r84⟩,zny Y5 (fun z=>NmOk.mk hbar hlead (fun _=>⟨hnn,z⟩) (fun z=>absurd z Y5) (fun z=>absurd z Y5) (fun z=>absurd z Y5)) hr84,rfl,hw'.sub (Sub.cons rfl (Sub.cons rfl (Sub.cons rfl (Sub.cons rfl (Sub.cons rfl (Sub.nil _))))))⟩)
 refine T.as 59 (.bool false) rfl (by exact congrArg Value.bool (decide_eq_false h6)) <| zz 5 ?_
 refine T.aa rfl (fun h8=>?_) (fun h8=>?_)
 refine T.as 59 (.bool true) rfl (by exact congrArg Value.bool (decide_eq_true h8)) <| zz 6 ?_
 refine J.aa zaS rfl rfl <| J.aa zbi rfl rfl <| J.ag Y8k 40 rfl rfl zby Y3 rfl <| J.al underlying120 rfl rfl <| zz 3 ?_
 refine T.aa rfl (fun h9=>?_) (fun h9=>?_)
 refine zz 9 ?_
 exact X.aa rfl (RV.tmp rfl) (fun w' hw'=>⟨⟨81,mk,ly,cl,r⟩,zer (fun q=>absurd (q.call Y5).1 Y5) (show (81:Int)≠0 by decide) hr,rfl,hw'.sub (Sub.cons rfl (Sub.cons rfl (Sub.cons rfl (Sub.cons rfl (Sub.cons rfl (Sub.nil _))))))⟩)
 have hnn:(namedP x.v).1 < c.types.length:=by omega
 refine zz 3 ?_
 refine T.an [(40,⟨some g40,181,judC c kind gm gl gc⟩),(38,⟨some gc,123,rowIs (ys.set s ⟨cl,hdOf r.id,r.cap⟩)⟩)] [(0,.g),(1,.g),(2,.g),(3,.s),(4,.g),(5,.g),(6,.g),(7,.g),(8,.s),(9,.g),(10,.g),(11,.s),(12,.g),(13,.l),(14,.l),(15,.g)] [] [(16,.l)] Y12 Y12 Y12 ?_ Y0
 refine zz 2 ?_
 refine J.aa zfg rfl rfl <| J.aJ 40 rfl rfl ziY Y3 rfl <| zz 3 ?_
 refine J.aa zfg rfl rfl <| J.aJ 40 rfl rfl ziY Y3 rfl <| zz 1 ?_
 refine J.aB znb rfl rfl Y5 Y5 Y8 rfl <| J.aJ 38 rfl rfl ziZ (by rw [zfv _ _ (by rw [List.length_set];omega),zfd _ _ _ _ Y5]) rfl <| zz 1 ?_
 refine J.aD 83 rfl underlying123 el3 Y23 rfl [.int .i64 (((namedP x.v).1:Nat):Int)] rfl rfl rfl fun g83 hg83=>J.ay 60 rfl underlying123 el3 rfl hr Y170 rfl rfl rfl (fun w hw=>(hw.blkCs (k:=83) rfl)) Y134 Y5 Y28 rfl (cl++[(namedP x.v).1]).length Y25 (rowN .i64 (cl++[(namedP x.v).1])) (by simp [rowN]) fun r84 hr84=>J.aB znb rfl rfl Y5 Y5 Y8 rfl ?_
 refine J.bw [(40,⟨some g40,181,judC c kind gm gl gc⟩),(30,⟨some gm,4,rowT mk⟩),(34,⟨some gl,4,rowT ly⟩),(38,⟨some gc,123,rowIs (ys.set s ⟨cl,hdOf r.id,r.cap⟩)⟩),(60,r84.ent 3 (rowN .i64 (cl++[(namedP x.v).1]))),(11,⟨some g11,154,((c.types.getD s default).cells)⟩),(6,⟨some g6,200,(x.cells)⟩),(83,⟨some g83,3,[.int .i64 (((namedP x.v).1:Nat):Int)]⟩)] Y0 ?_ (Sub.nil _)
 refine J.ae 38 rfl rfl rfl rfl [r84.val (cl++[(namedP x.v).1]).length] rfl zlV (by rw [zcw,List.length_set];show _+1≤_;omega) Y27 Y11 trivial (rowIs (ys.set s ⟨(cl++[(namedP x.v).1]),hdOf r84.id,r84.cap⟩)) (zhw ys s Y5 ⟨cl,hdOf r.id,r.cap⟩ ⟨(cl++[(namedP x.v).1]),hdOf r84.id,r84.cap⟩) <| zz 3 ?_
 refine T.ae [] [(0,.g),(1,.g),(2,.q),(3,.q),(4,.g),(5,.g),(6,.g),(7,.g),(8,.q),(9,.g),(10,.g),(11,.q),(12,.q),(13,.g)] Y12 Y12 ?_ Y0
 refine zz 1 ?_
 refine J.aa zat rfl rfl <| J.ag Y8k 6 rfl rfl one3 Y3 rfl <| J.ai Y8k 11 rfl rfl zdy ((c.types.getD s default).cells) rfl rfl rfl <| zz 2 ?_
 refine J.aa zaS rfl rfl <| J.aa zbi rfl rfl <| J.ag Y8k 40 rfl rfl zby Y3 rfl <| zz 1 ?_
 refine J.ah zfr rfl (hT.isSome Y179) rfl Y5 Y5 Y8 rfl <| J.aU Y8k (fun w hw=>(hT.keep (zad (B0:=B) (l1:=[]) hn hBM hw (Sub.nil _) rfl)).cs) rfl zdy rfl Y23 (zbS _ _ Y5) rfl <| J.aj Y8k zqM rfl rfl (fun w hw=>Ue.goes w _ x.v.code (c.types.getD s default) (calleeV c.types x.v)) ?_
 refine zz 6 ?_
 exact X.aa rfl (RV.tmp rfl) (fun w' hw'=>⟨⟨goesE x.v.code (c.types.getD s default) (calleeV c.types x.v),mk,ly,(cl++[(namedP x.v).1]),r84⟩,zny Y5 (fun z=>NmOk.mk hbar hlead (fun _=>⟨hnn,z⟩) (fun z=>absurd z Y5) (fun z=>absurd z Y5) (fun z=>absurd z Y5)) hr84,rfl,hw'.sub (Sub.cons rfl (Sub.cons rfl (Sub.cons rfl (Sub.cons rfl (Sub.cons rfl (Sub.nil _))))))⟩)
 refine T.as 59 (.bool false) rfl (by exact congrArg Value.bool (decide_eq_false h8)) <| zz 6 ?_
 refine T.aa rfl (fun h10=>?_) (fun h10=>?_)
 refine zz 2 ?_
 refine J.aa zam rfl rfl <| J.ag Y8k 11 rfl rfl one3 Y3 rfl <| zz 3 ?_
 refine T.aa rfl (fun h11=>?_) (fun h11=>?_)
 refine zz 8 ?_
 exact X.aa rfl (RV.tmp rfl) (fun w' hw'=>⟨⟨82,mk,ly,cl,r⟩,zer (fun q=>q.ret Y5 Y5) (show (82:Int)≠0 by decide) hr,rfl,hw'.sub (Sub.cons rfl (Sub.cons rfl (Sub.cons rfl (Sub.cons rfl (Sub.cons rfl (Sub.nil _))))))⟩)
 refine zz 9 ?_
 exact X.aa rfl (RV.tmp rfl) (fun w' hw'=>⟨⟨0,mk,ly,cl,r⟩,zrZ (NmOk.mk hbar hlead (fun z=>absurd z Y5) (fun _=>by omega) (fun z=>absurd z Y5) (fun z=>absurd z Y5)) Y5 Y5 Y5 hr,rfl,hw'.sub (Sub.cons rfl (Sub.cons rfl (Sub.cons rfl (Sub.cons rfl (Sub.cons rfl (Sub.nil _))))))⟩)
 refine zz 6 ?_
 refine T.aa rfl (fun h12=>?_) (fun h12=>?_)
 refine zz 3 ?_
 refine J.aq rfl rfl rfl (zai _ Y5) <| zz 2 ?_
 refine J.aa zaS rfl rfl <| J.aa zdm rfl rfl <| J.ag Y8k 40 rfl rfl one3 rfl rfl <| zz 3 ?_
 refine T.aa rfl (fun h13=>?_) (fun h13=>?_)
 refine zz 8 ?_
 exact X.aa rfl (RV.tmp rfl) (fun w' hw'=>⟨⟨84,mk,ly,cl,r⟩,zer (fun q=>absurd (q.data Y5) Y5) (show (84:Int)≠0 by decide) hr,rfl,hw'.sub (Sub.cons rfl (Sub.cons rfl (Sub.cons rfl (Sub.cons rfl (Sub.cons rfl (Sub.nil _))))))⟩)
 refine zz 9 ?_
 exact X.aa rfl (RV.tmp rfl) (fun w' hw'=>⟨⟨0,mk,ly,cl,r⟩,zrZ (NmOk.mk hbar hlead (fun z=>absurd z Y5) (fun z=>absurd z Y5) (fun _=>by omega) (fun z=>absurd z Y5)) Y5 Y5 Y5 hr,rfl,hw'.sub (Sub.cons rfl (Sub.cons rfl (Sub.cons rfl (Sub.cons rfl (Sub.cons rfl (Sub.nil _))))))⟩)
 refine zz 7 ?_
 refine T.aa rfl (fun h14=>?_) (fun h14=>?_)
 refine T.as 114 (.bool true) rfl (by exact congrArg Value.bool (decide_eq_true h14)) <| zz 9 ?_
 refine J.aa zaS rfl rfl <| J.aa zbm rfl rfl <| J.ag Y8k 40 rfl rfl zcr Y3 rfl <| J.al underlying45 rfl rfl <| zz 3 ?_
 refine T.aa rfl (fun h15=>?_) (fun h15=>?_)
 refine zz 9 ?_
 exact X.aa rfl (RV.tmp rfl) (fun w' hw'=>⟨⟨85,mk,ly,cl,r⟩,zer (fun q=>absurd (q.sub Y5) Y5) (show (85:Int)≠0 by decide) hr,rfl,hw'.sub (Sub.cons rfl (Sub.cons rfl (Sub.cons rfl (Sub.cons rfl (Sub.cons rfl (Sub.nil _))))))⟩)
 refine zz 4 ?_
 refine J.aa zat rfl rfl <| J.ag Y8k 6 rfl rfl one3 Y3 rfl <| J.aT rfl rfl rfl (decide_eq_true Y13) <| zz 6 ?_
 refine J.aa zit rfl rfl <| J.ag Y8k 40 rfl rfl zcz Y3 rfl <| zz 1 ?_
 refine J.aB zcY rfl rfl Y5 Y5 Y8 rfl <| J.ae 30 rfl rfl rfl rfl [.bool true] rfl sz4 Y164 Y6 Y11 trivial (rowT (mk.set (namedP x.v).1 true)) (zcM mk _ true Y5) <| zz 9 ?_
 exact X.aa rfl (RV.tmp rfl) (fun w' hw'=>⟨⟨0,mk.set (namedP x.v).1 true,ly,cl,r⟩,nq_mk (NmOk.mk hbar hlead (fun z=>absurd z Y5) (fun z=>absurd z Y5) (fun z=>absurd z Y5) (fun _=>by omega)) Y5 hr,rfl,hw'.sub (Sub.cons rfl (Sub.cons rfl (Sub.cons rfl (Sub.cons rfl (Sub.cons rfl (Sub.nil _))))))⟩)
 refine T.as 114 (.bool false) rfl (by exact congrArg Value.bool (decide_eq_false h14)) <| zz 5 ?_
 refine T.aa rfl (fun h16=>?_) (fun h16=>?_)
 refine T.as 114 (.bool true) rfl (by exact congrArg Value.bool (decide_eq_true h16)) <| zz 6 ?_
 refine J.aa zaS rfl rfl <| J.aa zbm rfl rfl <| J.ag Y8k 40 rfl rfl zcr Y3 rfl <| J.al underlying45 rfl rfl <| zz 3 ?_
 refine T.aa rfl (fun h17=>?_) (fun h17=>?_)
 refine zz 9 ?_
 exact X.aa rfl (RV.tmp rfl) (fun w' hw'=>⟨⟨85,mk,ly,cl,r⟩,zer (fun q=>absurd (q.sub Y5) Y5) (show (85:Int)≠0 by decide) hr,rfl,hw'.sub (Sub.cons rfl (Sub.cons rfl (Sub.cons rfl (Sub.cons rfl (Sub.cons rfl (Sub.nil _))))))⟩)
 refine zz 4 ?_
 refine J.aa zat rfl rfl <| J.ag Y8k 6 rfl rfl one3 Y3 rfl <| J.aT rfl rfl rfl (decide_eq_false Y13) <| zz 6 ?_
 refine J.aa zfh rfl rfl <| J.ag Y8k 40 rfl rfl zcz Y3 rfl <| zz 1 ?_
 refine J.aB zcY rfl rfl Y5 Y5 Y8 rfl <| J.ae 34 rfl rfl rfl rfl [.bool true] rfl sz4 Y164 Y6 Y11 trivial (rowT (ly.set (namedP x.v).1 true)) (zcM ly _ true Y5) <| zz 9 ?_
 exact X.aa rfl (RV.tmp rfl) (fun w' hw'=>⟨⟨0,mk,ly.set (namedP x.v).1 true,cl,r⟩,nq_ly (NmOk.mk hbar hlead (fun z=>absurd z Y5) (fun z=>absurd z Y5) (fun z=>absurd z Y5) (fun _=>by omega)) Y5 hr,rfl,hw'.sub (Sub.cons rfl (Sub.cons rfl (Sub.cons rfl (Sub.cons rfl (Sub.cons rfl (Sub.nil _))))))⟩)
 refine T.as 114 (.bool false) rfl (by exact congrArg Value.bool (decide_eq_false h16)) <| zz 9 ?_
 exact X.aa rfl (RV.tmp rfl) (fun w' hw'=>⟨⟨0,mk,ly,cl,r⟩,zrZ (NmOk.mk hbar hlead (fun z=>absurd z Y5) (fun z=>absurd z Y5) (fun z=>absurd z Y5) (fun z=>absurd z Y5)) Y5 Y5 Y5 hr,rfl,hw'.sub (Sub.cons rfl (Sub.cons rfl (Sub.cons rfl (Sub.cons rfl (Sub.cons rfl (Sub.nil _))))))⟩)
theorem section_ (w:World) (n:Nat) (hn:n≤w.heap.size) (B:List (Option Nat)) (hB:∀ g,some g∈B→g < w.heap.size) (g40 gm gl gc:Nat) (c:CtR) (kind:Int) (mk ly:List Bool) (ys:List IsR) (s:Nat) (hBM:∀ g∈[g40,gm,gl,gc],some g∈B) (hc:c.Ok w n B) (hf:c.v.Fine) (hsl:s < c.codes.length) (hyl:ys.length=c.codes.length) (hml:mk.length=c.subs.length) (hll:ly.length=c.subs.length) (hys:ys.getD s default=⟨[],none,0⟩) (hw:WS w [g40,gm,gl,gc] [(40,⟨some g40,181,judC c kind gm gl gc⟩),(30,⟨some gm,4,rowT mk⟩),(34,⟨some gl,4,rowT ly⟩),(38,⟨some gc,123,rowIs ys⟩)] w):
    Calls prog 137 [.pointer (some ⟨g40,0,none⟩),.int .i64 ((s:Nat):Int)].toArray w fun e w'=>∃ q:SeQ,q.Ok c.v kind s mk ly∧Fit w' n B q.A (rowN .i64 q.cl)∧e=.returned (.tuple #[.int .i64 q.e,.int .i64 q.at_])∧WS w [g40,gm,gl,gc] [(40,⟨some g40,181,judC c kind gm gl gc⟩),(30,⟨some gm,4,rowT q.mm⟩),(34,⟨some gl,4,rowT q.ly⟩),(38,⟨some gc,123,rowIs (ys.set s ⟨q.cl,q.A,q.cap⟩)⟩)] w':=by
 have hbo:=hc.ac _ (zaE hsl)
 have hcb:=zmw c hsl
 have hv1:c.v.types.length=c.types.length:=rfl
 have hv2:c.v.subs.length=c.subs.length:=List.length_map ..
 have hv3:c.v.codes.length=c.codes.length:=List.length_map ..
 have hc1:=hf.c1
 have htl:=hf.tl
 have hs1:=hf.s1
 have hbl:(c.codes.getD s default).b.length≤65535:=(hf.cs _ (by rw [← hcb];exact zfe Y5)).2
 have hyn:=zpd ys s ⟨[],none,0⟩ default Y5 hys
 refine zac [g40,gm,gl,gc] 120 [(40,⟨some g40,181,judC c kind gm gl gc⟩),(30,⟨some gm,4,rowT mk⟩),(34,⟨some gl,4,rowT ly⟩),(38,⟨some gc,123,rowIs ys⟩)] func137 rfl ntmps137 Y20 hw <| zz 10 ?_
 refine J.aa zaS rfl rfl <| J.aa zbn rfl rfl <| J.ag Y8k 40 rfl rfl zcr Y3 rfl <| zz 1 ?_
 refine J.ah sl45 rfl (hc.fc.isSome (by rw [zcy];omega)) rfl Y5 Y5 Y8 rfl <| J.aG Y8k (fun w hw=>(hc.fc.keep (zad (B0:=B) (l1:=[]) hn hBM hw (Sub.nil _) rfl)).cs) rfl zaw (by show (rowBy c.codes)[s*1]?=_;rw [Nat.mul_one];exact zgt c.codes s hsl) rfl <| zz 6 ?_
 refine J.aw zqV rfl rfl _ _ [(40,⟨some g40,181,judC c kind gm gl gc⟩),(30,⟨some gm,4,rowT mk⟩),(34,⟨some gl,4,rowT ly⟩),(38,⟨some gc,123,rowIs ys⟩)] Y0 rfl (fun _ _=>Sub.nil _) (fun w hw=>Vg.Scan w (c.codes.getD s default).b hbo.dg Y5 (c.codes.getD s default).A (c.codes.getD s default).cap hbo.ln (hbo.fi.keep (zad (B0:=B) (l1:=[(40,⟨some g40,181,judC c kind gm gl gc⟩),(30,⟨some gm,4,rowT mk⟩),(34,⟨some gl,4,rowT ly⟩),(38,⟨some gc,123,rowIs ys⟩)]) hn hBM hw Y0 rfl)).cs n (Nat.le_trans hn hw.size) (B++ids [(40,⟨some g40,181,judC c kind gm gl gc⟩),(30,⟨some gm,4,rowT mk⟩),(34,⟨some gl,4,rowT ly⟩),(38,⟨some gc,123,rowIs ys⟩)]) (zaf (l1:=[(40,⟨some g40,181,judC c kind gm gl gc⟩),(30,⟨some gm,4,rowT mk⟩),(34,⟨some gl,4,rowT ly⟩),(38,⟨some gc,123,rowIs ys⟩)]) hB hw Y0 rfl)) fun i29 W29 hP29 hW29=>?_
 obtain ⟨hm29,hle29,hf29,ha29⟩:=hP29
 have kpW29:=(zad (B0:=B) (l1:=[(40,⟨some g40,181,judC c kind gm gl gc⟩),(30,⟨some gm,4,rowT mk⟩),(34,⟨some gl,4,rowT ly⟩),(38,⟨some gc,123,rowIs ys⟩)]) hn hBM hW29 Y0 rfl)
 have hc:=hc.keep kpW29
 have hbo:=hbo.keep kpW29
 have hVW29:=hW29.s0
 refine zz 16 ?_
 refine T.aa rfl (fun h1=>?_) (fun h1=>?_)
 have hne:=h1
 refine zz 7 ?_
 refine X.ah 38 ⟨some gc,123,rowIs (ys.set s ⟨([]:List Nat),none,0⟩)⟩ rfl (by rw [hyn]) <| zz 3 ?_
 exact X.ag rfl (RV.tmp rfl) (RV.tmp rfl) (fun w' hw'=>⟨⟨_,_,mk,ly,[],hdOf RowIx.nil.id,RowIx.nil.cap⟩,ziQ (fun q=>absurd q.scan (by rw [hcb];exact hne)) hne rfl rfl (Nat.zero_le _),Fit.nil,rfl,hw'.sub (Sub.cons rfl (Sub.cons rfl (Sub.cons rfl (Sub.cons rfl (Sub.nil _)))))⟩)
 have he0:=Decidable.not_not.1 h1
 rw [if_pos he0] at hm29
 have hil:=zdg (c.codes.getD s default).b
 have hxl:i29.1.length=(insA (c.codes.getD s default).b 0).length:=by rw [← hm29,List.length_map]
 have hlz:=zaI (c.codes.getD s default).b.length (insA (c.codes.getD s default).b 0)
 refine zz 5 ?_
 refine J.aL zqU rfl rfl (ι:=Nat) (fun q=>w.heap.size≤q) (fun q=>.slice (some ⟨q,0,none⟩) (c.codes.getD s default).b.length (c.codes.getD s default).b.length) [] (fun q=>[(70,⟨some q,4,rowT (startsV (c.codes.getD s default).b.length (insA (c.codes.getD s default).b 0))⟩)]) (fun w hw=>(Calls.mono (Vg.Starts w (c.codes.getD s default).b hbo.dg Y5 (c.codes.getD s default).A (c.codes.getD s default).cap hbo.ln (hbo.fi.keep (zaa (I:=[some g40,some gm,some gl,some gc]) (B0:=B) (l1:=[(40,⟨some g40,181,judC c kind gm gl gc⟩),(30,⟨some gm,4,rowT mk⟩),(34,⟨some gl,4,rowT ly⟩),(38,⟨some gc,123,rowIs ys⟩)]) hVW29 hn hBM hw Y4 Y0 rfl)).cs) fun e w2 ⟨g,h1,h2,h3⟩=>⟨g,Nat.le_trans hw.size h1,h2,h3.only 7 70 rfl⟩)) Y182 (fun _ _ _ _=>rfl) fun q38 hq38=>?_
 refine J.as 38 (.slice (some ⟨q38,0,none⟩) (startsV (c.codes.getD s default).b.length (insA (c.codes.getD s default).b 0)).length (c.codes.getD s default).b.length) rfl (by rw [zaI]) <| zz 4 ?_
 refine T.al [(40,⟨some g40,181,judC c kind gm gl gc⟩),(30,⟨some gm,4,rowT mk⟩),(34,⟨some gl,4,rowT ly⟩),(38,⟨some gc,123,rowIs ys⟩)] Y0 rfl fun Wz2 hWWz2=>?_
 have hst:=zdo (n:=n) (B:=B++ids [(40,⟨some g40,181,judC c kind gm gl gc⟩),(30,⟨some gm,4,rowT mk⟩),(34,⟨some gl,4,rowT ly⟩),(38,⟨some gc,123,rowIs ys⟩)]) hWWz2 (j:=70) rfl (zdq hB (fun g hg=>zdh (L:=[(40,⟨some g40,181,judC c kind gm gl gc⟩),(30,⟨some gm,4,rowT mk⟩),(34,⟨some gl,4,rowT ly⟩),(38,⟨some gc,123,rowIs ys⟩)]) rfl g hg) Y0 rfl rfl)
 have kpWz2:=(zaa (I:=[some g40,some gm,some gl,some gc]) (B0:=B) (l1:=[(40,⟨some g40,181,judC c kind gm gl gc⟩),(30,⟨some gm,4,rowT mk⟩),(34,⟨some gl,4,rowT ly⟩),(38,⟨some gc,123,rowIs ys⟩)]) hVW29 hn hBM hWWz2 Y4 Y0 rfl)
 have hc:=hc.keep kpWz2
 have hbo:=hbo.keep kpWz2
 have hf29:=hf29.keep kpWz2
 have ha29:=ha29.keep kpWz2
 have hVWz2:=hWWz2.s0
 refine zz 6 ?_
 refine T.aj 60 3 ?_
 have hlz:=zaI (c.codes.getD s default).b.length (insA (c.codes.getD s default).b 0)
 refine zz 2 ?_
 refine J.al underlying194 rfl rfl <| zz 2 ?_
 refine X.ah 38 ⟨some gc,123,rowIs (ys.set s ⟨([]:List Nat),hdOf RowIx.nil.id,RowIx.nil.cap⟩)⟩ rfl (by rw [show (hdOf RowIx.nil.id)=none from rfl,show RowIx.nil.cap=0 from rfl,hyn]) <| zz 2 ?_
 refine T.ag (ι:=Nat×List Bool×List Bool×List Nat×RowIx) (fun (k,mk2,ly2,cl,r)=>k≤i29.1.length∧mk2=((insA (c.codes.getD s default).b 0).take k).foldl mkE mk∧ly2=((insA (c.codes.getD s default).b 0).take k).foldl lyE ly∧cl=((insA (c.codes.getD s default).b 0).take k).foldl clE []∧mk2.length=mk.length∧ly2.length=ly.length∧r.Ok 1 cl.length∧cl.length≤k∧(∀ n∈cl,n < c.v.types.length)∧∀ q,q < k→NmOk c.v (c.types.getD s default) kind (startsV (c.codes.getD s default).b.length (insA (c.codes.getD s default).b 0)) (i29.1.getD q default).v) (fun (k,mk2,ly2,cl,r)=>[(0,.pointer (some ⟨g40,0,none⟩)),(1,.int .i64 ((s:Nat):Int)),(19,.pointer (some ⟨g40,0,none⟩)),(20,.pointer (some ⟨g40,0,none⟩)),(23,.slice c.cA c.codes.length c.cC),(24,.int .i64 ((s:Nat):Int)),(26,.slice (c.codes.getD s default).A (c.codes.getD s default).b.length (c.codes.getD s default).cap),(6,.slice (c.codes.getD s default).A (c.codes.getD s default).b.length (c.codes.getD s default).cap),(28,.slice (c.codes.getD s default).A (c.codes.getD s default).b.length (c.codes.getD s default).cap),(30,.slice i29.2.1 i29.1.length i29.2.2.1),(31,.int .i64 (scanE (c.codes.getD s default).b)),(32,.int .i64 i29.2.2.2),(7,.slice i29.2.1 i29.1.length i29.2.2.1),(8,.int .i64 (scanE (c.codes.getD s default).b)),(9,.int .i64 i29.2.2.2),(33,.int .i64 (scanE (c.codes.getD s default).b)),(37,.slice (c.codes.getD s default).A (c.codes.getD s default).b.length (c.codes.getD s default).cap),(38,.slice (some ⟨q38,0,none⟩) (startsV (c.codes.getD s default).b.length (insA (c.codes.getD s default).b 0)).length (c.codes.getD s default).b.length),(10,.slice (some ⟨q38,0,none⟩) (startsV (c.codes.getD s default).b.length (insA (c.codes.getD s default).b 0)).length (c.codes.getD s default).b.length),(39,.slice i29.2.1 i29.1.length i29.2.2.1),(40,.int .i64 ((i29.1.length:Nat):Int)),(41,.int .i64 ((k:Nat):Int)),(11,.bool (((insA (c.codes.getD s default).b 0).take k).any (retB c.types)))]) (fun (k,mk2,ly2,cl,r)=>((40,⟨some g40,181,judC c kind gm gl gc⟩)::(30,⟨some gm,4,rowT mk2⟩)::(34,⟨some gl,4,rowT ly2⟩)::(38,⟨some gc,123,rowIs (ys.set s ⟨cl,hdOf r.id,r.cap⟩)⟩)::(60,r.ent 3 (rowN .i64 cl))::snapL Wz2 w.heap.size [some g40,some gm,some gl,some gc])) (fun (k,mk2,ly2,cl,r)=>i29.1.length - k) ⟨0,mk,ly,[],RowIx.nil⟩ ⟨Nat.zero_le _,rfl,rfl,rfl,rfl,rfl,RowIx.nil_ok 1,Nat.zero_le _,(fun n hn=>by cases hn),fun q hq=>absurd hq (Nat.not_lt_zero q)⟩ Y0 Y0 ?_
 rintro ⟨k,mk2,ly2,cl,r⟩ ⟨hk,hmk,hly2,hclv,hlm,hll2,hr,hclk,hca,hnm⟩
 try dsimp only at *
 refine zz 6 ?_
 refine T.aa rfl (fun h3=>?_) (fun h3=>?_)
 have hk2:k < i29.1.length:=by omega
 refine zz 6 ?_
 refine J.ah zmc rfl (hf29.isSome Y183) rfl Y5 Y5 Y8 rfl <| J.aU Y8k (fun w hw=>(hf29.keep (zaa (I:=[some g40,some gm,some gl,some gc]) (B0:=B) (l1:=[]) hVWz2 hn hBM hw Y4 (Sub.nil _) rfl)).cs) rfl zaC rfl Y23 (zdL _ _ Y5) rfl <| J.am 13 rfl zch zc8 rfl rfl fun g13 hg13=>J.ae 13 rfl rfl rfl rfl ((i29.1.getD k default).cells) rfl zen (Nat.le_of_ble_eq_true rfl) Y149 (Nat.zero_lt_succ _) trivial ((i29.1.getD k default).cells) rfl <| zz 7 ?_
 refine J.ai Y8k 13 rfl rfl zaC ((i29.1.getD k default).cells) rfl rfl rfl <| zz 1 ?_
 have hvk:(insA (c.codes.getD s default).b 0).getD k default=(i29.1.getD k default).v:=by rw [← hm29];exact zib i29.1 InR.v k hk2
 refine J.aL zuo rfl rfl (ι:=NmQ) (fun q=>q.Ok c.v (c.types.getD s default) kind (startsV (c.codes.getD s default).b.length (insA (c.codes.getD s default).b 0)) (i29.1.getD k default).v mk2 ly2 cl) (fun q=>.int .i64 q.e) (idsN [(40,⟨some g40,181,judC c kind gm gl gc⟩),(30,⟨some gm,4,rowT mk2⟩),(34,⟨some gl,4,rowT ly2⟩),(38,⟨some gc,123,rowIs (ys.set s ⟨cl,hdOf r.id,r.cap⟩)⟩),(60,r.ent 3 (rowN .i64 cl))]) (fun q=>[(40,⟨some g40,181,judC c kind gm gl gc⟩),(30,⟨some gm,4,rowT q.mm⟩),(34,⟨some gl,4,rowT q.ly⟩),(38,⟨some gc,123,rowIs (ys.set s ⟨q.cl,hdOf q.r.id,q.r.cap⟩)⟩),(60,q.r.ent 3 (rowN .i64 q.cl))]) (fun w hw=>names w n (Nat.le_trans hn hw.size) (B++ids [(40,⟨some g40,181,judC c kind gm gl gc⟩),(30,⟨some gm,4,rowT mk2⟩),(34,⟨some gl,4,rowT ly2⟩),(38,⟨some gc,123,rowIs (ys.set s ⟨cl,hdOf r.id,r.cap⟩)⟩),(60,r.ent 3 (rowN .i64 cl)),(13,⟨some g13,200,((i29.1.getD k default).cells)⟩)]) g40 gm gl gc c kind mk2 ly2 ys s cl r hr Y5 (fun g hg=>List.mem_append_right _ (zpD (zba.1 hg))) (hc.ft.keep (zaa (I:=[some g40,some gm,some gl,some gc]) (B0:=B) (l1:=[(40,⟨some g40,181,judC c kind gm gl gc⟩),(30,⟨some gm,4,rowT mk2⟩),(34,⟨some gl,4,rowT ly2⟩),(38,⟨some gc,123,rowIs (ys.set s ⟨cl,hdOf r.id,r.cap⟩)⟩),(60,r.ent 3 (rowN .i64 cl)),(13,⟨some g13,200,((i29.1.getD k default).cells)⟩)]) hVWz2 hn hBM hw Y4 Y0 rfl)) (i29.1.getD k default) (zbl hbo.dg Y5 (zaP hm29 hk2)) ((ha29 _ (zaE hk2)).keep (zaa (I:=[some g40,some gm,some gl,some gc]) (B0:=B) (l1:=[(40,⟨some g40,181,judC c kind gm gl gc⟩),(30,⟨some gm,4,rowT mk2⟩),(34,⟨some gl,4,rowT ly2⟩),(38,⟨some gc,123,rowIs (ys.set s ⟨cl,hdOf r.id,r.cap⟩)⟩),(60,r.ent 3 (rowN .i64 cl)),(13,⟨some g13,200,((i29.1.getD k default).cells)⟩)]) hVWz2 hn hBM hw Y4 Y0 rfl)) (startsV (c.codes.getD s default).b.length (insA (c.codes.getD s default).b 0)) (some ⟨q38,0,none⟩) (c.codes.getD s default).b.length (hst.keep (zaa (I:=[some g40,some gm,some gl,some gc]) (B0:=B) (l1:=[(40,⟨some g40,181,judC c kind gm gl gc⟩),(30,⟨some gm,4,rowT mk2⟩),(34,⟨some gl,4,rowT ly2⟩),(38,⟨some gc,123,rowIs (ys.set s ⟨cl,hdOf r.id,r.cap⟩)⟩),(60,r.ent 3 (rowN .i64 cl)),(13,⟨some g13,200,((i29.1.getD k default).cells)⟩)]) hVWz2 hn hBM hw Y4 Y0 rfl)) Y176 Y5 Y5 Y5 Y5 Y5 Y5 Y5 hf.sz ((hw.sub Y144).rebase rfl (fun g hg=>hg))) (fun _ _=>zki rfl Y144 rfl) (fun _ _ _ _=>rfl) fun q49 hq49=>?_
 refine zz 9 ?_
 refine T.aa rfl (fun h4=>?_) (fun h4=>?_)
 have hcl9:q49.cl.length≤1000000:=by have:=hq49.lq;omega
 refine zz 1 ?_
 refine T.ae [] [(0,.g),(1,.g),(2,.q),(3,.g),(4,.g)] Y12 Y12 ?_ Y0
 refine zz 1 ?_
 refine J.aa zbh rfl rfl <| J.ag Y8k 13 rfl rfl one3 Y3 rfl <| zz 11 ?_
 exact X.ag rfl (RV.tmp rfl) (RV.tmp rfl) (fun w' hw'=>⟨⟨q49.e,_,q49.mm,q49.ly,q49.cl,hdOf q49.r.id,q49.r.cap⟩,ziQ (fun q=>absurd (hq49.iff.2 (by have hz:=q.nm;rw [hcb] at hz;exact hz _ (zaP hm29 hk2))) Y195) Y195 (hq49.lm.trans hlm) (hq49.ll.trans hll2) hcl9,zbC hw' (j:=60) rfl (fun g hg=>zdq (l1:=[(40,⟨some g40,181,judC c kind gm gl gc⟩),(30,⟨some gm,4,rowT q49.mm⟩),(34,⟨some gl,4,rowT q49.ly⟩),(38,⟨some gc,123,rowIs (ys.set s ⟨q49.cl,hdOf q49.r.id,q49.r.cap⟩)⟩)]) hB (fun g hg=>zdh (L:=[(40,⟨some g40,181,judC c kind gm gl gc⟩),(30,⟨some gm,4,rowT q49.mm⟩),(34,⟨some gl,4,rowT q49.ly⟩),(38,⟨some gc,123,rowIs (ys.set s ⟨q49.cl,hdOf q49.r.id,q49.r.cap⟩)⟩)]) rfl g hg) Y144 rfl rfl g (List.mem_append_left _ hg)),rfl,hw'.sub (Sub.cons rfl (Sub.cons rfl (Sub.cons rfl (Sub.cons rfl (Sub.nil _)))))⟩)
 have hez:=Decidable.not_not.1 h4
 have hnk:=hq49.iff.1 hez
 have hmk9:q49.mm=((insA (c.codes.getD s default).b 0).take (k+1)).foldl mkE mk:=by rw [hq49.mk_ hez,hmk,zeh _ _ Y5,hvk]
 have hly9:q49.ly=((insA (c.codes.getD s default).b 0).take (k+1)).foldl lyE ly:=by rw [hq49.ly_ hez,hly2,zeh _ _ Y5,hvk]
 have hcl10:q49.cl=((insA (c.codes.getD s default).b 0).take (k+1)).foldl clE []:=by rw [hq49.cl_ hez,hclv,zeh _ _ Y5,hvk]
 have hcll:q49.cl.length≤cl.length+1:=by rw [hq49.cl_ hez];exact zsK _ _
 have hca9:∀ n∈q49.cl,n < c.v.types.length:=by rw [hq49.cl_ hez];exact zsL hca (fun q=>(hnk.call q).1)
 refine zz 4 ?_
 refine J.ai Y8k 13 rfl rfl zaC ((i29.1.getD k default).cells) rfl rfl rfl <| J.aj Y8k zjn rfl rfl (fun w hw=>Vi.Named w (i29.1.getD k default) (zbl hbo.dg Y5 (zaP hm29 hk2)) ((ha29 _ (zaE hk2)).fi.keep (zaa (I:=[some g40,some gm,some gl,some gc]) (B0:=B) (l1:=[]) hVWz2 hn hBM hw Y4 (Sub.nil _) rfl)).cs) ?_
 refine zz 9 ?_
 refine J.aa zat rfl rfl <| J.ag Y8k 13 rfl rfl one3 Y3 rfl <| zz 2 ?_
 refine J.an 63 rfl (fun h5=>?_) (fun h5=>?_)
 refine zz 25 ?_
 refine J.aq rfl rfl rfl Y10 <| zz 2 ?_
 refine X.as 11 (.bool (((insA (c.codes.getD s default).b 0).take (k+1)).any (retB c.types))) rfl Y116 ?_
 exact X.ae ⟨(k+1),q49.mm,q49.ly,q49.cl,q49.r⟩ ⟨by dsimp only;omega,hmk9,hly9,hcl10,hq49.lm.trans hlm,hq49.ll.trans hll2,hq49.rok,by dsimp only;omega,hca9,zao hnm hnk⟩ Y14 Y0 Y0
 refine zz 1 ?_
 refine J.aa zat rfl rfl <| zz 1 ?_
 refine J.ag Y8k 13 rfl rfl one3 Y3 rfl <| zz 2 ?_
 refine J.an 67 rfl (fun h6=>?_) (fun h6=>?_)
 refine zz 3 ?_
 refine J.aa zaS rfl rfl <| zz 1 ?_
 refine J.aa zbi rfl rfl <| zz 1 ?_
 refine J.ag Y8k 40 rfl rfl zby Y3 rfl <| zz 2 ?_
 refine J.ah zfr rfl (hc.ft.isSome (by rw [zdI];have:=(hnk.call Y5).1;omega)) rfl Y5 (by have:=(hnk.call Y5).1;omega) Y8 rfl <| zz 1 ?_
 refine J.ak zam rfl rfl <| zz 1 ?_
 refine J.aG Y8k (fun w hw=>(hc.ft.keep (zaa (I:=[some g40,some gm,some gl,some gc]) (B0:=B) (l1:=[]) hVWz2 hn hBM hw Y4 (Sub.nil _) rfl)).cs) rfl one3 (by rw [zhv c.types (namedP (i29.1.getD k default).v).1 1 (by have:=(hnk.call Y5).1;omega) Y23];rfl) rfl <| zz 5 ?_
 refine T.aa rfl (fun h7=>?_) (fun h7=>?_)
 refine zz 6 ?_
 refine J.aq rfl rfl rfl Y10 <| zz 2 ?_
 refine X.as 11 (.bool (((insA (c.codes.getD s default).b 0).take (k+1)).any (retB c.types))) rfl Y116 ?_
 exact X.ae ⟨(k+1),q49.mm,q49.ly,q49.cl,q49.r⟩ ⟨by dsimp only;omega,hmk9,hly9,hcl10,hq49.lm.trans hlm,hq49.ll.trans hll2,hq49.rok,by dsimp only;omega,hca9,zao hnm hnk⟩ Y14 Y0 Y0
 refine zz 4 ?_
 refine J.aq rfl rfl rfl Y10 <| zz 2 ?_
 refine X.as 11 (.bool (((insA (c.codes.getD s default).b 0).take (k+1)).any (retB c.types))) rfl Y113 ?_
 exact X.ae ⟨(k+1),q49.mm,q49.ly,q49.cl,q49.r⟩ ⟨by dsimp only;omega,hmk9,hly9,hcl10,hq49.lm.trans hlm,hq49.ll.trans hll2,hq49.rok,by dsimp only;omega,hca9,zao hnm hnk⟩ Y14 Y0 Y0
 refine zz 19 ?_
 refine J.aq rfl rfl rfl Y10 <| zz 2 ?_
 refine X.as 11 (.bool (((insA (c.codes.getD s default).b 0).take (k+1)).any (retB c.types))) rfl Y113 ?_
 exact X.ae ⟨(k+1),q49.mm,q49.ly,q49.cl,q49.r⟩ ⟨by dsimp only;omega,hmk9,hly9,hcl10,hq49.lm.trans hlm,hq49.ll.trans hll2,hq49.rok,by dsimp only;omega,hca9,zao hnm hnk⟩ Y14 Y0 Y0
 obtain rfl:k=i29.1.length:=by omega
 rw [hxl,List.take_length] at hmk hly2 hclv
 refine T.as 11 (.bool ((insA (c.codes.getD s default).b 0).any (retB c.types))) rfl (by rw [hxl,List.take_length]) <| zz 9 ?_
 refine J.aa zaS rfl rfl <| J.aa zbi rfl rfl <| J.ag Y8k 40 rfl rfl zby Y3 rfl <| zz 2 ?_
 refine J.aL zun rfl rfl (ι:=List HtV×RowIx×Int×Int) (fun q=>HtsOk c.types s (c.codes.getD s default).b q.2.2.1 q.1∧q.2.1.Ok 3 q.1.length) (fun q=>.tuple #[q.2.1.val q.1.length,.int .i64 q.2.2.1,.int .i64 q.2.2.2]) [] (fun q=>[(62,q.2.1.ent 207 (rowHt q.1))]) (fun w hw=>(Uh.Heights w 0 (Nat.zero_le _) [] Y189 c.types c.tA c.tC (hc.ft.keep (zaa (I:=[some g40,some gm,some gl,some gc]) (B0:=B) (l1:=[(40,⟨some g40,181,judC c kind gm gl gc⟩),(30,⟨some gm,4,rowT mk2⟩),(34,⟨some gl,4,rowT ly2⟩),(38,⟨some gc,123,rowIs (ys.set s ⟨cl,hdOf r.id,r.cap⟩)⟩),(60,r.ent 3 (rowN .i64 cl))]) hVWz2 hn hBM hw Y4 Y0 rfl)).cs Y5 s (c.codes.getD s default).b hbo.dg Y5 (c.codes.getD s default).A (c.codes.getD s default).cap hbo.ln (hbo.fi.keep (zaa (I:=[some g40,some gm,some gl,some gc]) (B0:=B) (l1:=[(40,⟨some g40,181,judC c kind gm gl gc⟩),(30,⟨some gm,4,rowT mk2⟩),(34,⟨some gl,4,rowT ly2⟩),(38,⟨some gc,123,rowIs (ys.set s ⟨cl,hdOf r.id,r.cap⟩)⟩),(60,r.ent 3 (rowN .i64 cl))]) hVWz2 hn hBM hw Y4 Y0 rfl)).cs).mono fun e w2 ⟨q,h1,h2,h3,h4⟩=>⟨q,⟨h1,h2⟩,h3,h4.only 60 62 rfl⟩) Y182 (fun _ _ _ _=>rfl) (fun q89 ⟨hh89,hr89⟩=>?_)
 refine zz 14 ?_
 refine J.aa zaS rfl rfl <| J.aa zbi rfl rfl <| J.ag Y8k 40 rfl rfl zby Y3 rfl <| zz 1 ?_
 refine J.ah zfr rfl (hc.ft.isSome Y179) rfl Y5 Y5 Y8 rfl <| J.aU Y8k (fun w hw=>(hc.ft.keep (zaa (I:=[some g40,some gm,some gl,some gc]) (B0:=B) (l1:=[]) hVWz2 hn hBM hw Y4 (Sub.nil _) rfl)).cs) rfl zdy rfl Y23 (zbS _ _ Y5) rfl <| J.am 18 rfl zcD zc10 rfl rfl fun g18 hg18=>J.ae 18 rfl rfl rfl rfl ((c.types.getD s default).cells) rfl zgj (Nat.le_of_ble_eq_true rfl) Y149 (Nat.zero_lt_succ _) trivial ((c.types.getD s default).cells) rfl <| zz 10 ?_
 refine T.aa rfl (fun h8=>?_) (fun h8=>?_)
 refine zz 11 ?_
 exact X.ag rfl (RV.tmp rfl) (RV.tmp rfl) (fun w' hw'=>⟨⟨q89.2.2.1,_,mk2,ly2,cl,hdOf r.id,r.cap⟩,ziQ (fun q=>absurd (hh89.1.2 ⟨by have hz:=q.right;rwa [hcb] at hz,by have hz:=q.hts;rwa [hcb] at hz⟩) Y195) Y195 hlm hll2 Y5,zbC hw' (j:=60) rfl (fun g hg=>zdq (l1:=[(40,⟨some g40,181,judC c kind gm gl gc⟩),(30,⟨some gm,4,rowT mk2⟩),(34,⟨some gl,4,rowT ly2⟩),(38,⟨some gc,123,rowIs (ys.set s ⟨cl,hdOf r.id,r.cap⟩)⟩)]) hB (fun g hg=>zdh (L:=[(40,⟨some g40,181,judC c kind gm gl gc⟩),(30,⟨some gm,4,rowT mk2⟩),(34,⟨some gl,4,rowT ly2⟩),(38,⟨some gc,123,rowIs (ys.set s ⟨cl,hdOf r.id,r.cap⟩)⟩)]) rfl g hg) Y144 rfl rfl g (List.mem_append_left _ hg)),rfl,hw'.sub (Sub.cons rfl (Sub.cons rfl (Sub.cons rfl (Sub.cons rfl (Sub.nil _)))))⟩)
 have he1:=Decidable.not_not.1 h8
 have hhl:=hh89.2.2
 refine zz 1 ?_
 refine T.ae [] [(0,.g),(1,.q),(2,.g),(3,.q),(4,.g),(5,.g)] Y12 Y12 ?_ Y0
 refine zz 1 ?_
 refine J.aj Y8k zum rfl rfl (fun w hw=>Ue.Most w q89.1 Y5 (hdOf q89.2.1.id) q89.2.1.cap (hw.rowCs (k:=62) rfl)) ?_
 refine J.aa zek rfl rfl <| J.ag Y8k 18 rfl rfl one3 Y3 rfl <| zz 4 ?_
 refine T.aa rfl (fun h9=>?_) (fun h9=>?_)
 refine zz 9 ?_
 exact X.ag rfl (RV.tmp rfl) (RV.tmp rfl) (fun w' hw'=>⟨⟨75,_,mk2,ly2,cl,hdOf r.id,r.cap⟩,ziQ (fun q=>absurd (q.most _ (by rw [hcb];exact hh89.2.1 he1)) Y195) (show (75:Int)≠0 by decide) hlm hll2 Y5,zbC hw' (j:=60) rfl (fun g hg=>zdq (l1:=[(40,⟨some g40,181,judC c kind gm gl gc⟩),(30,⟨some gm,4,rowT mk2⟩),(34,⟨some gl,4,rowT ly2⟩),(38,⟨some gc,123,rowIs (ys.set s ⟨cl,hdOf r.id,r.cap⟩)⟩)]) hB (fun g hg=>zdh (L:=[(40,⟨some g40,181,judC c kind gm gl gc⟩),(30,⟨some gm,4,rowT mk2⟩),(34,⟨some gl,4,rowT ly2⟩),(38,⟨some gc,123,rowIs (ys.set s ⟨cl,hdOf r.id,r.cap⟩)⟩)]) rfl g hg) Y144 rfl rfl g (List.mem_append_left _ hg)),rfl,hw'.sub (Sub.cons rfl (Sub.cons rfl (Sub.cons rfl (Sub.cons rfl (Sub.nil _)))))⟩)
 have hmo:=Decidable.not_not.1 h9
 refine zz 2 ?_
 refine J.aa zam rfl rfl <| J.ag Y8k 18 rfl rfl one3 Y3 rfl <| zz 2 ?_
 refine J.an 116 rfl (fun h10=>?_) (fun h10=>?_)
 refine zz 1 ?_
 refine J.aF rfl rfl <| J.aA (b:= !((insA (c.codes.getD s default).b 0).any (retB c.types))) rfl rfl rfl <| J.as 118 (.bool (decide (¬ (insA (c.codes.getD s default).b 0).any (retB c.types)=true))) rfl (by cases (insA (c.codes.getD s default).b 0).any (retB c.types)<;>rfl) <| zz 4 ?_
 refine T.aa rfl (fun h11=>?_) (fun h11=>?_)
 refine zz 9 ?_
 exact X.ag rfl (RV.tmp rfl) (RV.tmp rfl) (fun w' hw'=>⟨⟨86,_,mk2,ly2,cl,hdOf r.id,r.cap⟩,ziQ (fun q=>absurd (by have hz:=q.ret Y195;rw [hcb] at hz;exact hz) Y195) (show (86:Int)≠0 by decide) hlm hll2 Y5,zbC hw' (j:=60) rfl (fun g hg=>zdq (l1:=[(40,⟨some g40,181,judC c kind gm gl gc⟩),(30,⟨some gm,4,rowT mk2⟩),(34,⟨some gl,4,rowT ly2⟩),(38,⟨some gc,123,rowIs (ys.set s ⟨cl,hdOf r.id,r.cap⟩)⟩)]) hB (fun g hg=>zdh (L:=[(40,⟨some g40,181,judC c kind gm gl gc⟩),(30,⟨some gm,4,rowT mk2⟩),(34,⟨some gl,4,rowT ly2⟩),(38,⟨some gc,123,rowIs (ys.set s ⟨cl,hdOf r.id,r.cap⟩)⟩)]) rfl g hg) Y144 rfl rfl g (List.mem_append_left _ hg)),rfl,hw'.sub (Sub.cons rfl (Sub.cons rfl (Sub.cons rfl (Sub.cons rfl (Sub.nil _)))))⟩)
 refine zz 10 ?_
 exact X.ag rfl (RV.tmp rfl) (RV.tmp rfl) (fun w' hw'=>⟨⟨0,0,mk2,ly2,cl,hdOf r.id,r.cap⟩,⟨⟨fun _=>⟨by rw [hcb];exact he0,by rw [hcb];exact zig hm29 hnm,by rw [hcb];exact (hh89.1.1 he1).1,by rw [hcb];exact (hh89.1.1 he1).2,fun hs2 hq=>by have hq2:heightsV c.types s (c.codes.getD s default).b=some hs2:=(by rw [← hcb];exact hq);rw [hh89.2.1 he1] at hq2;cases hq2;exact hmo,(fun _=>by rw [hcb];exact Decidable.not_not.1 Y195)⟩,fun _=>rfl⟩,fun _=>by rw [hcb];exact hmk,fun _=>by rw [hcb];exact hly2,fun _=>by rw [hcb];exact hclv,hlm,hll2,by dsimp only;omega,fun _=>hca⟩,zbC hw' (j:=60) rfl (fun g hg=>zdq (l1:=[(40,⟨some g40,181,judC c kind gm gl gc⟩),(30,⟨some gm,4,rowT mk2⟩),(34,⟨some gl,4,rowT ly2⟩),(38,⟨some gc,123,rowIs (ys.set s ⟨cl,hdOf r.id,r.cap⟩)⟩)]) hB (fun g hg=>zdh (L:=[(40,⟨some g40,181,judC c kind gm gl gc⟩),(30,⟨some gm,4,rowT mk2⟩),(34,⟨some gl,4,rowT ly2⟩),(38,⟨some gc,123,rowIs (ys.set s ⟨cl,hdOf r.id,r.cap⟩)⟩)]) rfl g hg) Y144 rfl rfl g (List.mem_append_left _ hg)),rfl,hw'.sub (Sub.cons rfl (Sub.cons rfl (Sub.cons rfl (Sub.cons rfl (Sub.nil _)))))⟩)
 refine zz 17 ?_
 exact X.ag rfl (RV.tmp rfl) (RV.tmp rfl) (fun w' hw'=>⟨⟨0,0,mk2,ly2,cl,hdOf r.id,r.cap⟩,⟨⟨fun _=>⟨by rw [hcb];exact he0,by rw [hcb];exact zig hm29 hnm,by rw [hcb];exact (hh89.1.1 he1).1,by rw [hcb];exact (hh89.1.1 he1).2,fun hs2 hq=>by have hq2:heightsV c.types s (c.codes.getD s default).b=some hs2:=(by rw [← hcb];exact hq);rw [hh89.2.1 he1] at hq2;cases hq2;exact hmo,(fun q=>absurd q Y195)⟩,fun _=>rfl⟩,fun _=>by rw [hcb];exact hmk,fun _=>by rw [hcb];exact hly2,fun _=>by rw [hcb];exact hclv,hlm,hll2,by dsimp only;omega,fun _=>hca⟩,zbC hw' (j:=60) rfl (fun g hg=>zdq (l1:=[(40,⟨some g40,181,judC c kind gm gl gc⟩),(30,⟨some gm,4,rowT mk2⟩),(34,⟨some gl,4,rowT ly2⟩),(38,⟨some gc,123,rowIs (ys.set s ⟨cl,hdOf r.id,r.cap⟩)⟩)]) hB (fun g hg=>zdh (L:=[(40,⟨some g40,181,judC c kind gm gl gc⟩),(30,⟨some gm,4,rowT mk2⟩),(34,⟨some gl,4,rowT ly2⟩),(38,⟨some gc,123,rowIs (ys.set s ⟨cl,hdOf r.id,r.cap⟩)⟩)]) rfl g hg) Y144 rfl rfl g (List.mem_append_left _ hg)),rfl,hw'.sub (Sub.cons rfl (Sub.cons rfl (Sub.cons rfl (Sub.cons rfl (Sub.nil _)))))⟩)
end Go.Proofs.YtlllcafedekojaaGreatDoor.Ui
namespace Go.Fz
open Go Go.Fw Go.Proofs.Tryz
theorem zog:FnOk prog 109:=FnOk.mk' func109 Y12 rfl
theorem zbP:FldT prog 125 0 26 0 0:=⟨Y12,sz26⟩
theorem zof:FnOk prog 110:=FnOk.mk' func110 Y12 rfl
theorem zfZ:FldT prog 125 1 123 1 0:=⟨Y12,zlV⟩
theorem zrb:FnOk prog 136:=FnOk.mk' func136 Y12 rfl
theorem zux:ElT prog 123 1 24 (.slice none 0 0):=⟨Y12,rfl,Y18b,Y18b⟩
theorem zra:FnOk prog 137:=FnOk.mk' func137 Y12 rfl
theorem zqZ:FnOk prog 138:=FnOk.mk' func138 Y12 rfl
theorem zqY:FnOk prog 139:=FnOk.mk' func139 Y12 rfl
end Go.Fz
namespace Go.Proofs.YtlllcafedekojaaGreatDoor.Uj
open Go Go.Fw Go.Fz Go.Proofs.Tryz
attribute [local irreducible] J T X
def JudgeAt (N:Nat):Prop:=∀ (w:World) (n:Nat) (hn:n≤w.heap.size) (B:List (Option Nat)) (hB:∀ g,some g∈B→g < w.heap.size) (c:CtR) (kind:Int) (hc:c.Ok w n B) (hl1:c.codes.length≤1000000000) (hl2:c.subs.length≤1000000000) (hl3:c.types.length≤1000000000) (hN:∀ p∈c.v.subs,p.length≤N),
    Calls prog 110 [.agg c.cells.toArray,.int .i64 kind].toArray w fun e w'=>∃ q:RjR,((q.code=0↔ValidC c.v kind)∧q.Okm (1000000+N) w' n B)∧e=.returned (.agg q.cells.toArray)∧WS w [] [] w'
theorem apart (w:World) (g40 gm gl gc:Nat) (c:CtR) (kind:Int) (ys:List IsR) (hp:Cs w (some ⟨g40,0,none⟩) (judC c kind gm gl gc)) (hY:Cs w (some ⟨gc,0,none⟩) (rowIs ys)) (hF:∀ y∈ys,Cs w y.A (rowN .i64 y.xs)) (hyl:ys.length=c.codes.length) (hc0:0 < c.codes.length) (hc1:c.codes.length≤1024) (hyx:∀ y∈ys,y.xs.length≤1000000∧∀ n∈y.xs,n < c.codes.length):
    Calls prog 138 [.pointer (some ⟨g40,0,none⟩)].toArray w fun e w'=>∃ q:Int×Bool,(q.2=false↔∀ s,s < c.codes.length→Reached (fun i=>(ys.getD i default).xs) s)∧e=.returned (.tuple #[.int .i64 q.1,.bool q.2])∧WS w [] [] w':=by
 refine zac [] 72 [] func138 rfl ntmps138 Y20 (WS.refl _ _) <| zz 11 ?_
 refine J.aa zaS rfl rfl <| J.aa zbn rfl rfl <| J.aK Y8k hp (zab _) rfl zcr rfl rfl <| J.al underlying45 rfl rfl <| J.aQ 17 rfl (q:=c.codes.length) (c0:=c.codes.length) underlying160 el4 rfl rfl Y192 Y192 (Nat.le_refl _) Y5 Y28 rfl fun g17 hg17=>zz 2 ?_
 refine X.ah 17 ⟨some g17,4,rowT (List.replicate c.codes.length false)⟩ rfl Y190 <| zz 4 ?_
 refine J.aB zcY rfl rfl Y23 Y5 Y22 rfl <| J.ae 17 rfl rfl rfl rfl [.bool true] rfl sz4 (by rw [zck,List.length_replicate];show _+1≤_;omega) Y6 Y11 trivial (rowT ((List.replicate c.codes.length false).set 0 true)) (zcM _ 0 true (by rw [List.length_replicate];omega)) <| zz 4 ?_
 refine J.aD 20 rfl underlying123 el3 Y23 rfl [.int .i64 0] rfl rfl rfl fun g20 hg20=>zz 2 ?_
 refine X.ah 20 ((RowIx.mk (some g20) 1 []).ent 3 (rowN .i64 [0])) rfl Y22 <| zz 6 ?_
 refine T.ag (ι:=List Bool×List Nat×RowIx) (fun (rd,wk,r)=>Dfs (fun i=>(ys.getD i default).xs) rd wk∧rd.length=c.codes.length∧2*unN rd+wk.length≤2*c.codes.length∧r.Ok 1 wk.length∧∀ i∈wk,i < c.codes.length) (fun (rd,wk,r)=>[(0,.pointer (some ⟨g40,0,none⟩)),(2,.int .i64 0),(3,.bool false),(11,.pointer (some ⟨g40,0,none⟩)),(12,.pointer (some ⟨g40,0,none⟩)),(15,.slice c.cA c.codes.length c.cC),(16,.int .i64 ((c.codes.length:Nat):Int)),(17,.slice (some ⟨g17,0,none⟩) c.codes.length c.codes.length),(4,.slice (some ⟨g17,0,none⟩) c.codes.length c.codes.length),(18,.slice (some ⟨g17,0,none⟩) c.codes.length c.codes.length),(20,.slice (some ⟨g20,0,none⟩) 1 1),(5,r.val wk.length)]) (fun (rd,wk,r)=>[(17,⟨some g17,4,rowT rd⟩),(20,r.ent 3 (rowN .i64 wk))]) (fun (rd,wk,r)=>2*unN rd+wk.length) ⟨((List.replicate c.codes.length false).set 0 true),[0],(RowIx.mk (some g20) 1 [])⟩ ⟨Dfs.start hc0,by rw [List.length_set,List.length_replicate],by have:=zmJ hc0;show 2*unN _+1≤_;omega,zjN _ _,fun i hi=>by rw [List.mem_singleton.1 hi];exact hc0⟩ Y2 Y2 ?_
 rintro ⟨rd,wk,r⟩ ⟨hD,hrl,hmu,hr,hwa⟩
 try dsimp only at *
 refine zz 4 ?_
 refine J.al underlying123 rfl rfl <| zz 3 ?_
 refine T.aa rfl (fun h1=>?_) (fun h1=>?_)
 obtain ⟨wk2,i,rfl⟩:=zrF (l:=wk) Y5
 have hi3:=hwa i (List.mem_append_right _ List.mem_cons_self)
 have hi2:i < ys.length:=by omega
 have hl2:(wk2++[i]).length=wk2.length+1:=by rw [List.length_append];rfl
 have hyb:=hyx _ (zaE hi2)
 obtain ⟨hyb1,hyb2⟩:=hyb
 refine zz 7 ?_
 refine J.al underlying123 rfl rfl <| J.aI rfl rfl rfl (znH wk2 i Y5) <| J.bd zjJ rfl (hr.some Y5) rfl Y5 Y5 Y8 rfl <| J.ag Y8k 20 rfl rfl one3 (zpy wk2 i _) rfl <| zz 7 ?_
 refine J.al underlying123 rfl rfl <| J.aI rfl rfl rfl (znH wk2 i Y5) <| J.ax zjJ rfl optInt.none (optInt.some rfl Y5 Y8) optInt.none Y20 (Nat.zero_le _) (by have:=hr.le;omega) (Nat.le_refl _) rfl rfl <| J.as 34 (.slice (hdOf r.id) wk2.length r.cap) rfl (by exact slc0 _ _ _) <| zz 4 ?_
 obtain ⟨r1,hr1,hv1,he1⟩:∃ r1:RowIx,r1.Ok 1 wk2.length∧r1.val wk2.length=.slice (hdOf r.id) wk2.length r.cap∧r.ent 3 (rowN .i64 (wk2++[i]))=r1.ent 3 (rowN .i64 wk2):=⟨_,zty hr,rfl,zrT⟩
 refine T.as 5 (r1.val wk2.length) rfl hv1.symm <| T.ao 20 (r1.ent 3 (rowN .i64 wk2)) rfl he1 <| zz 3 ?_
 refine J.aa zfg rfl rfl <| J.aK Y8k hp (zab _) rfl ziY rfl rfl <| zz 1 ?_
 refine J.ah znb rfl (hY.isSome (by rw [zcw];omega)) rfl Y5 Y5 Y8 rfl <| J.av Y8k hY (zab _) rfl ziZ (zhx ys i Y5) rfl <| J.al underlying123 rfl rfl <| zz 4 ?_
 refine T.ag (ι:=Nat) (fun (j:Nat)=>j≤(ys.getD i default).xs.length∧∀ q,q < j→rd.getD ((ys.getD i default).xs.getD q 0) false=true) (fun (j:Nat)=>[(0,.pointer (some ⟨g40,0,none⟩)),(2,.int .i64 0),(3,.bool false),(11,.pointer (some ⟨g40,0,none⟩)),(12,.pointer (some ⟨g40,0,none⟩)),(15,.slice c.cA c.codes.length c.cC),(16,.int .i64 ((c.codes.length:Nat):Int)),(17,.slice (some ⟨g17,0,none⟩) c.codes.length c.codes.length),(4,.slice (some ⟨g17,0,none⟩) c.codes.length c.codes.length),(18,.slice (some ⟨g17,0,none⟩) c.codes.length c.codes.length),(20,.slice (some ⟨g20,0,none⟩) 1 1),(21,r.val (wk2++[i]).length),(22,.int .i64 (((wk2++[i]).length:Nat):Int)),(24,r.val (wk2++[i]).length),(25,r.val (wk2++[i]).length),(26,.int .i64 (((wk2++[i]).length:Nat):Int)),(27,.int .i64 ((wk2.length:Nat):Int)),(29,.int .i64 ((i:Nat):Int)),(6,.int .i64 ((i:Nat):Int)),(30,r.val (wk2++[i]).length),(31,r.val (wk2++[i]).length),(32,.int .i64 (((wk2++[i]).length:Nat):Int)),(33,.int .i64 ((wk2.length:Nat):Int)),(34,.slice (hdOf r.id) wk2.length r.cap),(35,.pointer (some ⟨g40,0,none⟩)),(36,.pointer (some ⟨g40,0,none⟩)),(38,.slice (some ⟨gc,0,none⟩) c.codes.length c.codes.length),(39,.int .i64 ((i:Nat):Int)),(41,.slice (ys.getD i default).A (ys.getD i default).xs.length (ys.getD i default).cap),(42,.int .i64 (((ys.getD i default).xs.length:Nat):Int)),(43,.int .i64 ((j:Nat):Int)),(5,r1.val wk2.length)]) (fun (j:Nat)=>[(17,⟨some g17,4,rowT rd⟩),(20,r1.ent 3 (rowN .i64 wk2))]) (fun (j:Nat)=>(ys.getD i default).xs.length - j) 0 ⟨Nat.zero_le _,fun q hq=>absurd hq (Nat.not_lt_zero q)⟩ Y2 Y2 ?_
 rintro j ⟨hj,hjall⟩
 refine zz 6 ?_
 refine T.aa rfl (fun h2=>?_) (fun h2=>?_)
 have hj2:j < (ys.getD i default).xs.length:=by omega
 have hnx:=hyb2 ((ys.getD i default).xs.getD j 0) (zfe hj2)
 refine zz 6 ?_
 refine J.ah zjJ rfl ((hF _ (zaE hi2)).isSome Y186) rfl Y5 Y5 Y8 rfl <| J.av Y8k (hF _ (zaE hi2)) (zab _) rfl one3 Y119 rfl <| zz 7 ?_
 refine J.aB zcY rfl rfl Y5 Y5 Y8 rfl <| J.ag Y8k 17 rfl rfl one4 (zdJ rd _ Y5) rfl <| J.aA (b:= !rd.getD ((ys.getD i default).xs.getD j 0) false) rfl rfl rfl <| J.as 51 (.bool (decide (rd.getD ((ys.getD i default).xs.getD j 0) false=false))) rfl (by cases rd.getD ((ys.getD i default).xs.getD j 0) false<;>rfl) <| zz 2 ?_
 refine T.aa rfl (fun h3=>?_) (fun h3=>?_)
 have hnr:=h3
 refine zz 4 ?_
 refine J.aB zcY rfl rfl Y5 Y5 Y8 rfl <| J.ae 17 rfl rfl rfl rfl [.bool true] rfl sz4 Y164 Y6 Y11 trivial (rowT (rd.set ((ys.getD i default).xs.getD j 0) true)) (zcM rd _ true Y5) <| zz 7 ?_
 refine J.aV 58 rfl (e:=3) rfl rfl [.int .i64 ((i:Nat):Int),.int .i64 ((((ys.getD i default).xs.getD j 0):Nat):Int)] Y191 fun g58 hg58=>J.ay 20 rfl underlying123 el3 rfl hr1 Y170 rfl rfl rfl (fun w hw=>(hw.blkCs (k:=58) rfl)) (by intro u hu;simp at hu;rcases hu with rfl | rfl<;>rfl) Y5 Y28 rfl (wk2++[i,((ys.getD i default).xs.getD j 0)]).length Y25 (rowN .i64 (wk2++[i,((ys.getD i default).xs.getD j 0)])) (by simp [rowN]) fun r59 hr59=>zz 9 ?_
 have hun:=zmK (rd:=rd) (n:=((ys.getD i default).xs.getD j 0)) Y5 hnr
 have hl3:((wk2++[i,((ys.getD i default).xs.getD j 0)])).length=wk2.length+2:=by rw [List.length_append];rfl
 exact X.ae ⟨(rd.set ((ys.getD i default).xs.getD j 0) true),(wk2++[i,((ys.getD i default).xs.getD j 0)]),r59⟩ ⟨hD.push (zfe hj2) Y5,by rw [List.length_set];exact hrl,by dsimp only;omega,hr59,(fun a ha=>by rcases List.mem_append.1 ha with q | q;exact hwa a (List.mem_append_left _ q);rcases List.mem_cons.1 q with q | q;rw [q];exact hi3;rw [List.mem_singleton.1 q];exact hnx)⟩ Y14 Y2 Y2
 refine zz 4 ?_
 refine J.aq rfl rfl rfl Y10 <| zz 2 ?_
 exact X.ae (j+1) ⟨by omega,zao hjall (by simpa using (by assumption:¬ rd.getD ((ys.getD i default).xs.getD j 0) false=false))⟩ Y14 Y2 Y2
 obtain rfl:j=(ys.getD i default).xs.length:=by omega
 refine zz 5 ?_
 exact X.ae ⟨rd,wk2,r1⟩ ⟨hD.pop (fun b hb=>by obtain ⟨q,hq,rfl⟩:=zpu hb;exact hjall q hq),hrl,by dsimp only;omega,hr1,fun a ha=>hwa a (List.mem_append_left _ ha)⟩ Y14 Y2 Y2
 obtain rfl:wk=[]:=List.eq_nil_of_length_eq_zero Y5
 refine zz 9 ?_
 refine J.al underlying160 rfl rfl <| zz 4 ?_
 refine T.ag (ι:=Nat) (fun (k:Nat)=>k≤c.codes.length∧∀ q,q < k→rd.getD q false=true) (fun (k:Nat)=>[(0,.pointer (some ⟨g40,0,none⟩)),(11,.pointer (some ⟨g40,0,none⟩)),(12,.pointer (some ⟨g40,0,none⟩)),(15,.slice c.cA c.codes.length c.cC),(16,.int .i64 ((c.codes.length:Nat):Int)),(17,.slice (some ⟨g17,0,none⟩) c.codes.length c.codes.length),(4,.slice (some ⟨g17,0,none⟩) c.codes.length c.codes.length),(18,.slice (some ⟨g17,0,none⟩) c.codes.length c.codes.length),(20,.slice (some ⟨g20,0,none⟩) 1 1),(5,r.val [].length),(21,r.val [].length),(22,.int .i64 (([].length:Nat):Int)),(61,.slice (some ⟨g17,0,none⟩) c.codes.length c.codes.length),(62,.int .i64 ((c.codes.length:Nat):Int)),(63,.int .i64 ((k:Nat):Int))]) (fun (k:Nat)=>[(17,⟨some g17,4,rowT rd⟩),(20,r.ent 3 (rowN .i64 []))]) (fun (k:Nat)=>c.codes.length - k) 0 ⟨Nat.zero_le _,fun q hq=>absurd hq (Nat.not_lt_zero q)⟩ Y2 Y2 ?_
 rintro k ⟨hk,hka⟩
 refine zz 6 ?_
 refine T.aa rfl (fun h4=>?_) (fun h4=>?_)
 have hk2:k < c.codes.length:=by omega
 refine zz 7 ?_
 refine J.aB zcY rfl rfl Y5 Y5 Y8 rfl <| J.ag Y8k 17 rfl rfl one4 (zdJ rd _ Y5) rfl <| zz 7 ?_
 refine J.aA (b:= !rd.getD k false) rfl rfl rfl <| J.as 69 (.bool (decide (rd.getD k false=false))) rfl (by cases rd.getD k false<;>rfl) <| zz 2 ?_
 refine T.aa rfl (fun h5=>?_) (fun h5=>?_)
 refine zz 14 ?_
 exact X.ag rfl (RV.tmp rfl) (RV.tmp rfl) (fun w' hw'=>⟨(_,true),⟨(fun q=>by cases q),fun q=>absurd ((hD.all k).2 (q k hk2)) (by rw [(by assumption:rd.getD k false=false)];decide)⟩,rfl,hw'.s0⟩)
 refine zz 4 ?_
 refine J.aq rfl rfl rfl Y10 <| zz 2 ?_
 exact X.ae (k+1) ⟨by omega,zao hka (by simpa using (by assumption:¬ rd.getD k false=false))⟩ Y14 Y2 Y2
 obtain rfl:k=c.codes.length:=by omega
 refine zz 13 ?_
 exact X.ag rfl (RV.tmp rfl) (RV.tmp rfl) (fun w' hw'=>⟨(0,false),⟨fun _ s hs=>(hD.all s).1 (hka s hs),fun _=>rfl⟩,rfl,hw'.s0⟩)
theorem nested (NN:Nat) (hNN:NN≤1000000) (IH:∀ N',N' < NN→JudgeAt N') (w:World) (n:Nat) (hn:n≤w.heap.size) (B:List (Option Nat)) (hB:∀ g,some g∈B→g < w.heap.size) (g40 gm gl gc:Nat) (c:CtR) (kind:Int) (mk ly:List Bool) (hp:Fit w n B (some ⟨g40,0,none⟩) (judC c kind gm gl gc)) (hmk:Fit w n B (some ⟨gm,0,none⟩) (rowT mk)) (hly:Fit w n B (some ⟨gl,0,none⟩) (rowT ly)) (hc:c.Ok w n B) (hs1:c.subs.length≤256) (hml:mk.length=c.subs.length) (hll:ly.length=c.subs.length) (hN:∀ p∈c.v.subs,0 < p.length∧p.length≤NN):
    Calls prog 139 [.pointer (some ⟨g40,0,none⟩)].toArray w fun e w'=>∃ q:RjR,(q.code=0↔NestOk c.v mk ly)∧q.Okm (1000000+NN) w' n B∧e=.returned (.agg q.cells.toArray)∧WS w [] [] w':=by
 have hv2:c.v.subs.length=c.subs.length:=List.length_map ..
 refine zac [] 118 [] func139 rfl ntmps139 Y20 (WS.refl _ _) <| zz 2 ?_
 refine J.am 2 rfl zdB zc7 rfl rfl fun g2 hg2=>zz 7 ?_
 refine J.aa zaS rfl rfl <| J.aa zbm rfl rfl <| J.aG (i:=2) Y8k (fun w hw=>(hp.keep (zad (B0:=B) (l1:=[]) hn Y189 hw (Sub.nil _) rfl)).cs) rfl zcr Y3 rfl <| J.al underlying45 rfl rfl <| zz 4 ?_
 refine T.ag (ι:=Nat) (fun (k:Nat)=>k≤c.subs.length∧∀ q,q < k→mk.getD q false=true∨ly.getD q false=true) (fun (k:Nat)=>[(0,.pointer (some ⟨g40,0,none⟩)),(2,.pointer (some ⟨g2,0,none⟩)),(10,.pointer (some ⟨g40,0,none⟩)),(11,.pointer (some ⟨g40,0,none⟩)),(14,.slice c.sA c.subs.length c.sC),(15,.int .i64 ((c.subs.length:Nat):Int)),(16,.int .i64 ((k:Nat):Int))]) (fun (k:Nat)=>[(2,⟨some g2,125,zc7⟩)]) (fun (k:Nat)=>c.subs.length - k) 0 ⟨Nat.zero_le _,fun q hq=>absurd hq (Nat.not_lt_zero q)⟩ Y0 Y0 ?_
 rintro k ⟨hk,hid⟩
 refine zz 6 ?_
 refine T.aa rfl (fun h1=>?_) (fun h1=>?_)
 refine zz 14 ?_
 refine J.aa zit rfl rfl <| J.aG (i:=6) Y8k (fun w hw=>(hp.keep (zad (B0:=B) (l1:=[]) hn Y189 hw (Sub.nil _) rfl)).cs) rfl zcz Y3 rfl <| zz 1 ?_
 refine J.ah zcY rfl (hmk.isSome Y187) rfl Y5 Y5 Y8 rfl <| J.aG Y8k (fun w hw=>(hmk.keep (zad (B0:=B) (l1:=[]) hn Y189 hw (Sub.nil _) rfl)).cs) rfl one4 (zcl _ _ Y5) rfl <| J.aA (b:= !mk.getD k false) rfl rfl rfl <| J.as 26 (.bool (decide (mk.getD k false=false))) rfl (by cases mk.getD k false<;>rfl) <| zz 1 ?_
 refine J.an 27 rfl (fun h2=>?_) (fun h2=>?_)
 refine zz 3 ?_
 refine J.aa zfh rfl rfl <| zz 1 ?_
 refine J.aG (i:=7) Y8k (fun w hw=>(hp.keep (zad (B0:=B) (l1:=[]) hn Y189 hw (Sub.nil _) rfl)).cs) rfl zcz Y3 rfl <| zz 2 ?_
 refine J.ah zcY rfl (hly.isSome Y187) rfl Y5 Y5 Y8 rfl <| zz 1 ?_
 refine J.aG Y8k (fun w hw=>(hly.keep (zad (B0:=B) (l1:=[]) hn Y189 hw (Sub.nil _) rfl)).cs) rfl one4 (zcl _ _ Y5) rfl <| J.aF rfl rfl <| J.aA (b:= !ly.getD k false) rfl rfl rfl <| J.as 35 (.bool (decide (ly.getD k false=false))) rfl (by cases ly.getD k false<;>rfl) <| zz 3 ?_
 refine T.aa rfl (fun h3=>?_) (fun h3=>?_)
 refine zz 3 ?_
 refine J.aD 38 rfl underlying123 el3 Y23 rfl [.int .i64 ((k:Nat):Int)] rfl rfl rfl fun g38 hg38=>J.ao rfl rfl (.agg (RjR.mk 88 [((k:Nat):Int)] 0 0 (some ⟨g38,0,none⟩) 1).cells.toArray) Y191 <| J.ae 2 rfl rfl rfl rfl ((RjR.mk 88 [((k:Nat):Int)] 0 0 (some ⟨g38,0,none⟩) 1).cells) rfl zbq (Nat.le_of_ble_eq_true rfl) Y150 (Nat.zero_lt_succ _) trivial ((RjR.mk 88 [((k:Nat):Int)] 0 0 (some ⟨g38,0,none⟩) 1).cells) rfl <| zz 8 ?_
 exact X.aa rfl (RV.agg 2 rfl rfl zaL ((RjR.mk 88 [((k:Nat):Int)] 0 0 (some ⟨g38,0,none⟩) 1).cells) Y22 Y22 rfl) (fun w' hw'=>⟨(RjR.mk 88 [((k:Nat):Int)] 0 0 (some ⟨g38,0,none⟩) 1),⟨fun q=>absurd (show (88:Int)=0 from q) Y23,fun q=>absurd (q.idle k Y5) (by intro z;rcases z with z | z;rw [(by assumption:mk.getD k false=false)] at z;cases z;rw [(by assumption:ly.getD k false=false)] at z;cases z)⟩,⟨by show 1≤_;omega,ziv hw' (j:=38) rfl (fun g h=>⟨hB g h,fun q=>by cases q⟩)⟩,rfl,hw'.s0⟩)
 refine zz 4 ?_
 refine J.aq rfl rfl rfl Y10 <| zz 2 ?_
 exact X.ae (k+1) ⟨by omega,zao hid (by first | exact .inl (bTrue Y195) | exact .inr (bTrue Y195))⟩ Y14 Y0 Y0
 refine zz 16 ?_
 refine J.aq rfl rfl rfl Y10 <| zz 2 ?_
 exact X.ae (k+1) ⟨by omega,zao hid (by first | exact .inl (bTrue Y195) | exact .inr (bTrue Y195))⟩ Y14 Y0 Y0
 obtain rfl:k=c.subs.length:=by omega
 refine zz 10 ?_
 refine J.aa zaS rfl rfl <| J.aa zbm rfl rfl <| J.aG (i:=2) Y8k (fun w hw=>(hp.keep (zad (B0:=B) (l1:=[]) hn Y189 hw (Sub.nil _) rfl)).cs) rfl zcr Y3 rfl <| J.al underlying45 rfl rfl <| zz 4 ?_
 refine T.ag (ι:=Nat) (fun (k:Nat)=>k≤c.subs.length∧∀ q,q < k→¬ (mk.getD q false=true∧ly.getD q false=true)) (fun (k:Nat)=>[(0,.pointer (some ⟨g40,0,none⟩)),(2,.pointer (some ⟨g2,0,none⟩)),(10,.pointer (some ⟨g40,0,none⟩)),(11,.pointer (some ⟨g40,0,none⟩)),(14,.slice c.sA c.subs.length c.sC),(15,.int .i64 ((c.subs.length:Nat):Int)),(16,.int .i64 ((c.subs.length:Nat):Int)),(41,.pointer (some ⟨g40,0,none⟩)),(42,.pointer (some ⟨g40,0,none⟩)),(45,.slice c.sA c.subs.length c.sC),(46,.int .i64 ((c.subs.length:Nat):Int)),(47,.int .i64 ((k:Nat):Int))]) (fun (k:Nat)=>[(2,⟨some g2,125,zc7⟩)]) (fun (k:Nat)=>c.subs.length - k) 0 ⟨Nat.zero_le _,fun q hq=>absurd hq (Nat.not_lt_zero q)⟩ Y0 Y0 ?_
 rintro k ⟨hk,hbo⟩
 refine zz 6 ?_
 refine T.aa rfl (fun h4=>?_) (fun h4=>?_)
 refine zz 14 ?_
 refine J.aa zit rfl rfl <| J.aG (i:=6) Y8k (fun w hw=>(hp.keep (zad (B0:=B) (l1:=[]) hn Y189 hw (Sub.nil _) rfl)).cs) rfl zcz Y3 rfl <| zz 1 ?_
 refine J.ah zcY rfl (hmk.isSome Y187) rfl Y5 Y5 Y8 rfl <| J.aG Y8k (fun w hw=>(hmk.keep (zad (B0:=B) (l1:=[]) hn Y189 hw (Sub.nil _) rfl)).cs) rfl one4 (zcl _ _ Y5) rfl <| J.as 56 (.bool (decide (mk.getD k false=true))) rfl Y178 <| zz 1 ?_
 refine J.an 57 rfl (fun h5=>?_) (fun h5=>?_)
 refine zz 3 ?_
 refine J.aa zfh rfl rfl <| zz 1 ?_
 refine J.aG (i:=7) Y8k (fun w hw=>(hp.keep (zad (B0:=B) (l1:=[]) hn Y189 hw (Sub.nil _) rfl)).cs) rfl zcz Y3 rfl <| zz 2 ?_
 refine J.ah zcY rfl (hly.isSome Y187) rfl Y5 Y5 Y8 rfl <| zz 1 ?_
 refine J.aG Y8k (fun w hw=>(hly.keep (zad (B0:=B) (l1:=[]) hn Y189 hw (Sub.nil _) rfl)).cs) rfl one4 (zcl _ _ Y5) rfl <| J.as 64 (.bool (decide (ly.getD k false=true))) rfl Y178 <| zz 3 ?_
 refine T.aa rfl (fun h6=>?_) (fun h6=>?_)
 refine zz 3 ?_
 refine J.aD 67 rfl underlying123 el3 Y23 rfl [.int .i64 ((k:Nat):Int)] rfl rfl rfl fun g67 hg67=>J.ao rfl rfl (.agg (RjR.mk 89 [((k:Nat):Int)] 0 0 (some ⟨g67,0,none⟩) 1).cells.toArray) Y191 <| J.ae 2 rfl rfl rfl rfl ((RjR.mk 89 [((k:Nat):Int)] 0 0 (some ⟨g67,0,none⟩) 1).cells) rfl zbq (Nat.le_of_ble_eq_true rfl) Y150 (Nat.zero_lt_succ _) trivial ((RjR.mk 89 [((k:Nat):Int)] 0 0 (some ⟨g67,0,none⟩) 1).cells) rfl <| zz 8 ?_
 exact X.aa rfl (RV.agg 2 rfl rfl zaL ((RjR.mk 89 [((k:Nat):Int)] 0 0 (some ⟨g67,0,none⟩) 1).cells) Y22 Y22 rfl) (fun w' hw'=>⟨(RjR.mk 89 [((k:Nat):Int)] 0 0 (some ⟨g67,0,none⟩) 1),⟨fun q=>absurd (show (89:Int)=0 from q) Y23,fun q=>absurd ⟨by assumption,by assumption⟩ (q.both k Y5)⟩,⟨by show 1≤_;omega,ziv hw' (j:=67) rfl (fun g h=>⟨hB g h,fun q=>by cases q⟩)⟩,rfl,hw'.s0⟩)
 refine zz 4 ?_
 refine J.aq rfl rfl rfl Y10 <| zz 2 ?_
 exact X.ae (k+1) ⟨by omega,zao hbo (fun z=>by first | exact absurd z.1 Y195 | exact absurd z.2 Y195)⟩ Y14 Y0 Y0
 refine zz 15 ?_
 refine J.aq rfl rfl rfl Y10 <| zz 2 ?_
 exact X.ae (k+1) ⟨by omega,zao hbo (fun z=>by first | exact absurd z.1 Y195 | exact absurd z.2 Y195)⟩ Y14 Y0 Y0
 obtain rfl:k=c.subs.length:=by omega
 refine zz 10 ?_
 refine J.aa zaS rfl rfl <| J.aa zbm rfl rfl <| J.aG (i:=2) Y8k (fun w hw=>(hp.keep (zad (B0:=B) (l1:=[]) hn Y189 hw (Sub.nil _) rfl)).cs) rfl zcr Y3 rfl <| J.al underlying45 rfl rfl <| zz 4 ?_
 refine T.al [(2,⟨some g2,125,zc7⟩)] Y0 rfl fun Wl7 hWWl7=>?_
 have kpWl7:=(zad (B0:=B) (l1:=[(2,⟨some g2,125,zc7⟩)]) hn Y189 hWWl7 Y0 rfl)
 have hp:=hp.keep kpWl7
 have hmk:=hmk.keep kpWl7
 have hly:=hly.keep kpWl7
 have hc:=hc.keep kpWl7
 have hVWl7:=hWWl7.s0
 refine T.ag (ι:=World×Nat) (fun (W,k)=>k≤c.subs.length∧WS w [] [] W∧Fit W n (B++[some g2]) (some ⟨g40,0,none⟩) (judC c kind gm gl gc)∧Fit W n (B++[some g2]) (some ⟨gm,0,none⟩) (rowT mk)∧Fit W n (B++[some g2]) (some ⟨gl,0,none⟩) (rowT ly)∧c.Ok W n (B++[some g2])∧∀ q,q < k→OkP (c.v.subs.getD q []) (ly.getD q false)∧ValidC (contH (c.v.subs.getD q [])) (if ly.getD q false=true then 1 else 2)) (fun (W,k)=>[(0,.pointer (some ⟨g40,0,none⟩)),(2,.pointer (some ⟨g2,0,none⟩)),(10,.pointer (some ⟨g40,0,none⟩)),(11,.pointer (some ⟨g40,0,none⟩)),(14,.slice c.sA c.subs.length c.sC),(15,.int .i64 ((c.subs.length:Nat):Int)),(16,.int .i64 ((c.subs.length:Nat):Int)),(41,.pointer (some ⟨g40,0,none⟩)),(42,.pointer (some ⟨g40,0,none⟩)),(45,.slice c.sA c.subs.length c.sC),(46,.int .i64 ((c.subs.length:Nat):Int)),(47,.int .i64 ((c.subs.length:Nat):Int)),(70,.pointer (some ⟨g40,0,none⟩)),(71,.pointer (some ⟨g40,0,none⟩)),(74,.slice c.sA c.subs.length c.sC),(75,.int .i64 ((c.subs.length:Nat):Int)),(76,.int .i64 ((k:Nat):Int))]) (fun (W,k)=>((2,⟨some g2,125,zc7⟩)::snapL W w.heap.size [some g2])) (fun (W,k)=>c.subs.length - k) ⟨Wl7,0⟩ ⟨Nat.zero_le _,hVWl7,hp,hmk,hly,hc,fun q hq=>absurd hq (Nat.not_lt_zero q)⟩ Y0 Y0 ?_
 rintro ⟨W,k⟩ ⟨hk,hV,hp,hmk,hly,hc,hall⟩
 try dsimp only at *
 refine zz 6 ?_
 refine T.aa rfl (fun h8=>?_) (fun h8=>?_)
 have hk2:k < c.subs.length:=by omega
 have hsb:=hc.as_ _ (zaE hk2)
 have hsg:=zmR c hk2
 have hsn:=hN (c.subs.getD k default).b (by rw [← hsg];exact zfe Y5)
 refine zz 7 ?_
 refine J.ah sl45 rfl (hc.fs.isSome (by rw [zcy];omega)) rfl Y5 Y5 Y8 rfl <| J.aG Y8k (fun w hw=>(hc.fs.keep (zaa (I:=[some g2]) (B0:=B) (l1:=[]) hV hn Y189 hw Y4 (Sub.nil _) rfl)).cs) rfl zaw (by show (rowBy c.subs)[k*1]?=_;rw [Nat.mul_one];exact zgt c.subs k Y5) rfl <| zz 9 ?_
 refine T.ai (ι:=Unit) (fun (_:Unit)=>True) (fun (_:Unit)=>[(0,.pointer (some ⟨g40,0,none⟩)),(2,.pointer (some ⟨g2,0,none⟩)),(10,.pointer (some ⟨g40,0,none⟩)),(11,.pointer (some ⟨g40,0,none⟩)),(14,.slice c.sA c.subs.length c.sC),(15,.int .i64 ((c.subs.length:Nat):Int)),(16,.int .i64 ((c.subs.length:Nat):Int)),(41,.pointer (some ⟨g40,0,none⟩)),(42,.pointer (some ⟨g40,0,none⟩)),(45,.slice c.sA c.subs.length c.sC),(46,.int .i64 ((c.subs.length:Nat):Int)),(47,.int .i64 ((c.subs.length:Nat):Int)),(70,.pointer (some ⟨g40,0,none⟩)),(71,.pointer (some ⟨g40,0,none⟩)),(74,.slice c.sA c.subs.length c.sC),(75,.int .i64 ((c.subs.length:Nat):Int)),(76,.int .i64 ((k:Nat):Int)),(78,.int .i64 ((k:Nat):Int)),(80,.slice (c.subs.getD k default).A (c.subs.getD k default).b.length (c.subs.getD k default).cap),(5,.int .i64 ((k:Nat):Int)),(6,.slice (c.subs.getD k default).A (c.subs.getD k default).b.length (c.subs.getD k default).cap),(7,.int .i64 (if ly.getD k false=true then 1 else 2))]) (fun (_:Unit)=>((2,⟨some g2,125,zc7⟩)::snapL W w.heap.size [some g2])) ?_ ?_
 refine zz 4 ?_
 refine J.aa zfh rfl rfl <| J.aG (i:=7) Y8k (fun w hw=>(hp.keep (zaa (I:=[some g2]) (B0:=B) (l1:=[]) hV hn Y189 hw Y4 (Sub.nil _) rfl)).cs) rfl zcz Y3 rfl <| zz 1 ?_
 refine J.ah zcY rfl (hly.isSome Y187) rfl Y5 Y5 Y8 rfl <| J.aG Y8k (fun w hw=>(hly.keep (zaa (I:=[some g2]) (B0:=B) (l1:=[]) hV hn Y189 hw Y4 (Sub.nil _) rfl)).cs) rfl one4 (zcl _ _ Y5) rfl <| J.as 87 (.bool (decide (ly.getD k false=true))) rfl Y178 <| zz 2 ?_
 refine T.aa rfl (fun h9=>?_) (fun h9=>?_)
 have hb87:=h9
 refine zz 3 ?_
 refine X.as 7 (.int .i64 (if ly.getD k false=true then 1 else 2)) rfl (by rw [if_pos hb87]) ?_
 exact X.at () trivial Y0 Y0
 have hb87:=h9
 refine zz 1 ?_
 refine X.as 7 (.int .i64 (if ly.getD k false=true then 1 else 2)) rfl (by rw [if_neg hb87]) ?_
 exact X.at () trivial Y0 Y0
 rintro _ _
 refine zz 5 ?_
 refine J.aa zfh rfl rfl <| J.aG (i:=7) Y8k (fun w hw=>(hp.keep (zaa (I:=[some g2]) (B0:=B) (l1:=[]) hV hn Y189 hw Y4 (Sub.nil _) rfl)).cs) rfl zcz Y3 rfl <| zz 1 ?_
 refine J.ah zcY rfl (hly.isSome Y187) rfl Y5 Y5 Y8 rfl <| J.aG Y8k (fun w hw=>(hly.keep (zaa (I:=[some g2]) (B0:=B) (l1:=[]) hV hn Y189 hw Y4 (Sub.nil _) rfl)).cs) rfl one4 (zcl _ _ Y5) rfl <| J.aw zog rfl rfl _ _ [(2,⟨some g2,125,zc7⟩)] Y0 rfl (fun _ _=>Sub.nil _) (fun w hw=>Ud.Parse w n (Nat.le_trans hn hw.size) (B++ids [(2,⟨some g2,125,zc7⟩)]) (zaf (l1:=[(2,⟨some g2,125,zc7⟩)]) hB hw Y0 rfl) (c.subs.getD k default).b hsb.dg Y5 (c.subs.getD k default).A (c.subs.getD k default).cap hsb.ln (hsb.fi.keep (zaa (I:=[some g2]) (B0:=B) (l1:=[(2,⟨some g2,125,zc7⟩)]) hV hn Y189 hw Y4 Y0 rfl)) (ly.getD k false)) fun i97 W97 hP97 hW97=>?_
 obtain ⟨hq1,hq2,hc97,hr97⟩:=hP97
 have kpW97:=(zaa (I:=[some g2]) (B0:=B) (l1:=[(2,⟨some g2,125,zc7⟩)]) hV hn Y189 hW97 Y4 Y0 rfl)
 have hp:=hp.keep kpW97
 have hmk:=hmk.keep kpW97
 have hly:=hly.keep kpW97
 have hc:=hc.keep kpW97
 have hsb:=hsb.keep kpW97
 have hVW97:=hW97.s0
 refine zz 3 ?_
 refine J.am 8 rfl zhP zc5 rfl rfl fun g8 hg8=>J.am 9 rfl zdB zc7 rfl rfl fun g9 hg9=>J.ae 8 rfl rfl rfl rfl (i97.1.cells) rfl zlW (Nat.le_of_ble_eq_true rfl) Y150 (Nat.zero_lt_succ _) trivial (i97.1.cells) rfl <| J.ae 9 rfl rfl rfl rfl (i97.2.cells) rfl zbq (Nat.le_of_ble_eq_true rfl) Y150 (Nat.zero_lt_succ _) trivial (i97.2.cells) rfl <| zz 5 ?_
 refine J.aa zbP rfl rfl <| J.ag Y8k 9 rfl rfl zdd Y3 rfl <| zz 3 ?_
 refine T.aa rfl (fun h10=>?_) (fun h10=>?_)
 have he0:=h10
 have hz1:=zgS (hq2 (hq1.1 he0)) (hq1.1 he0)
 obtain ⟨hl1,hl2,hl3⟩:=hz1
 have hN2:∀ p∈i97.1.v.subs,p.length≤NN - 1:=fun p hp=>by rw [hq2 (hq1.1 he0)] at hp;have:=zjE (hq1.1 he0) p hp;omega
 refine zz 1 ?_
 refine J.ai Y8k 8 rfl rfl zcT (i97.1.cells) rfl rfl rfl <| zz 1 ?_
 refine J.aw zof rfl rfl _ _ [(2,⟨some g2,125,zc7⟩),(8,⟨some g8,122,(i97.1.cells)⟩),(9,⟨some g9,125,(i97.2.cells)⟩)] Y0 rfl (fun _ _=>Sub.nil _) (fun w hw=>IH (NN - 1) Y5 w n (Nat.le_trans hn hw.size) (B++ids [(2,⟨some g2,125,zc7⟩),(8,⟨some g8,122,(i97.1.cells)⟩),(9,⟨some g9,125,(i97.2.cells)⟩)]) (zaf (l1:=[(2,⟨some g2,125,zc7⟩),(8,⟨some g8,122,(i97.1.cells)⟩),(9,⟨some g9,125,(i97.2.cells)⟩)]) hB hw Y0 rfl) i97.1 (if ly.getD k false=true then 1 else 2) (hc97.keep (zaa (I:=[some g2]) (B0:=B) (l1:=[(2,⟨some g2,125,zc7⟩),(8,⟨some g8,122,(i97.1.cells)⟩),(9,⟨some g9,125,(i97.2.cells)⟩)]) hVW97 hn Y189 hw Y4 Y0 rfl)) hl1 hl2 hl3 hN2) fun i105 W105 hP105 hW105=>?_
 obtain ⟨hj1,hr105⟩:=hP105
 have kpW105:=(zaa (I:=[some g2]) (B0:=B) (l1:=[(2,⟨some g2,125,zc7⟩),(8,⟨some g8,122,(i97.1.cells)⟩),(9,⟨some g9,125,(i97.2.cells)⟩)]) hVW97 hn Y189 hW105 Y4 Y0 rfl)
 have hp:=hp.keep kpW105
 have hmk:=hmk.keep kpW105
 have hly:=hly.keep kpW105
 have hc:=hc.keep kpW105
 have hsb:=hsb.keep kpW105
 have hc97:=hc97.keep kpW105
 have hr97:=hr97.keep kpW105
 have hVW105:=hW105.s0
 refine J.ae 9 rfl rfl rfl rfl (i105.cells) rfl zbq (Nat.le_of_ble_eq_true rfl) Y150 (Nat.zero_lt_succ _) trivial (i105.cells) rfl <| zz 4 ?_
 refine J.aa zbP rfl rfl <| J.ag Y8k 9 rfl rfl zdd Y3 rfl <| zz 3 ?_
 refine T.aa rfl (fun h11=>?_) (fun h11=>?_)
 refine zz 3 ?_
 refine J.aD 110 rfl underlying123 el3 Y23 rfl [.int .i64 ((k:Nat):Int)] rfl rfl rfl fun g110 hg110=>J.aa zfZ rfl rfl <| J.ag Y8k 9 rfl rfl ziZ Y3 rfl <| J.ay (i:=(RowIx.mk (some g110) 1 [])) (cs:=[.int .i64 ((k:Nat):Int)]) 110 rfl underlying123 el3 rfl (show RowIx.Ok _ 1 1 from zjN g110 k) rfl rfl rfl (by rw [zda,Nat.mul_one]) (fun w hw=>(((hr105.2).keep (zaa (I:=[some g2,some g8,some g9]) (B0:=B) (l1:=[]) hVW105 hn Y189 hw Y4 (Sub.nil _) rfl)).cs)) (zhW _ _) (by have:=hr105.1;omega) (by have:=hr105.1;unfold maxLen;omega) rfl (i105.path.length+1) (Nat.add_comm _ _) (rowI .i64 (((k:Nat):Int)::i105.path)) rfl fun r113 hr113=>J.aa zfZ rfl rfl <| J.ae 9 rfl rfl rfl rfl [r113.val (i105.path.length+1)] rfl zlV (Nat.le_of_ble_eq_true rfl) Y27 Y11 trivial ((RjR.mk i105.code (((k:Nat):Int)::i105.path) i105.section_ i105.at_ (hdOf r113.id) r113.cap).cells) rfl <| zz 4 ?_
 refine J.ai Y8k 9 rfl rfl zaL ((RjR.mk i105.code (((k:Nat):Int)::i105.path) i105.section_ i105.at_ (hdOf r113.id) r113.cap).cells) rfl rfl rfl <| J.ae 2 rfl rfl rfl rfl ((RjR.mk i105.code (((k:Nat):Int)::i105.path) i105.section_ i105.at_ (hdOf r113.id) r113.cap).cells) rfl zbq (Nat.le_of_ble_eq_true rfl) Y150 (Nat.zero_lt_succ _) trivial ((RjR.mk i105.code (((k:Nat):Int)::i105.path) i105.section_ i105.at_ (hdOf r113.id) r113.cap).cells) rfl <| zz 8 ?_
 exact X.aa rfl (RV.agg 2 rfl rfl zaL ((RjR.mk i105.code (((k:Nat):Int)::i105.path) i105.section_ i105.at_ (hdOf r113.id) r113.cap).cells) Y22 Y22 rfl) (fun w' hw'=>⟨(RjR.mk i105.code (((k:Nat):Int)::i105.path) i105.section_ i105.at_ (hdOf r113.id) r113.cap),⟨fun q=>absurd q Y195,fun q=>absurd (hj1.2 (by rw [hq2 (hq1.1 he0),← hsg];exact q.deep k Y5)) Y195⟩,⟨(by have hz:=hr105.1;show i105.path.length+1≤_;omega),zbc hw' (j:=110) rfl (fun g h=>⟨hB g h,fun q=>by cases q⟩)⟩,rfl,hw'.s0⟩)
 refine zz 4 ?_
 refine J.aq rfl rfl rfl Y10 <| zz 2 ?_
 refine X.aj [(2,⟨some g2,125,zc7⟩)] Y0 rfl fun Wx12 hWWx12=>?_
 have kpWx12:=(zaa (I:=[some g2,some g8,some g9]) (B0:=B) (l1:=[(2,⟨some g2,125,zc7⟩)]) hVW105 hn Y189 hWWx12 Y4 Y0 rfl)
 have hp:=hp.keep kpWx12
 have hmk:=hmk.keep kpWx12
 have hly:=hly.keep kpWx12
 have hc:=hc.keep kpWx12
 have hsb:=hsb.keep kpWx12
 have hc97:=hc97.keep kpWx12
 have hr97:=hr97.keep kpWx12
 have hr105:=hr105.keep kpWx12
 have hVWx12:=hWWx12.s0
 exact X.ae ⟨Wx12,(k+1)⟩ ⟨by omega,hVWx12,hp,hmk,hly,hc,zao hall ⟨by rw [hsg];exact hq1.1 he0,by rw [hsg,← hq2 (hq1.1 he0)];exact hj1.1 (Decidable.not_not.1 Y195)⟩⟩ Y14 Y0 Y0
 refine zz 4 ?_
 refine J.aa zbP rfl rfl <| J.ag Y8k 9 rfl rfl zdd Y3 rfl <| zz 3 ?_
 refine T.aa rfl (fun h13=>?_) (fun h13=>?_)
 refine zz 3 ?_
 refine J.aD 110 rfl underlying123 el3 Y23 rfl [.int .i64 ((k:Nat):Int)] rfl rfl rfl fun g110 hg110=>J.aa zfZ rfl rfl <| J.ag Y8k 9 rfl rfl ziZ Y3 rfl <| J.ay (i:=(RowIx.mk (some g110) 1 [])) (cs:=[.int .i64 ((k:Nat):Int)]) 110 rfl underlying123 el3 rfl (show RowIx.Ok _ 1 1 from zjN g110 k) rfl rfl rfl (by rw [zda,Nat.mul_one]) (fun w hw=>(((hr97.fi).keep (zaa (I:=[some g2]) (B0:=B) (l1:=[]) hVW97 hn Y189 hw Y4 (Sub.nil _) rfl)).cs)) (zhW _ _) (by have:=hr97.ln;omega) (by have:=hr97.ln;unfold maxLen;omega) rfl (i97.2.path.length+1) (Nat.add_comm _ _) (rowI .i64 (((k:Nat):Int)::i97.2.path)) rfl fun r113 hr113=>J.aa zfZ rfl rfl <| J.ae 9 rfl rfl rfl rfl [r113.val (i97.2.path.length+1)] rfl zlV (Nat.le_of_ble_eq_true rfl) Y27 Y11 trivial ((RjR.mk i97.2.code (((k:Nat):Int)::i97.2.path) i97.2.section_ i97.2.at_ (hdOf r113.id) r113.cap).cells) rfl <| zz 4 ?_
 refine J.ai Y8k 9 rfl rfl zaL ((RjR.mk i97.2.code (((k:Nat):Int)::i97.2.path) i97.2.section_ i97.2.at_ (hdOf r113.id) r113.cap).cells) rfl rfl rfl <| J.ae 2 rfl rfl rfl rfl ((RjR.mk i97.2.code (((k:Nat):Int)::i97.2.path) i97.2.section_ i97.2.at_ (hdOf r113.id) r113.cap).cells) rfl zbq (Nat.le_of_ble_eq_true rfl) Y150 (Nat.zero_lt_succ _) trivial ((RjR.mk i97.2.code (((k:Nat):Int)::i97.2.path) i97.2.section_ i97.2.at_ (hdOf r113.id) r113.cap).cells) rfl <| zz 8 ?_
 exact X.aa rfl (RV.agg 2 rfl rfl zaL ((RjR.mk i97.2.code (((k:Nat):Int)::i97.2.path) i97.2.section_ i97.2.at_ (hdOf r113.id) r113.cap).cells) Y22 Y22 rfl) (fun w' hw'=>⟨(RjR.mk i97.2.code (((k:Nat):Int)::i97.2.path) i97.2.section_ i97.2.at_ (hdOf r113.id) r113.cap),⟨fun q=>absurd q Y195,fun q=>absurd (hq1.2 (by rw [← hsg];exact q.subs k Y5)) Y195⟩,⟨(by have hz:=hr97.ln;show i97.2.path.length+1≤_;omega),zbc hw' (j:=110) rfl (fun g h=>⟨hB g h,fun q=>by cases q⟩)⟩,rfl,hw'.s0⟩)
 exact absurd (Decidable.not_not.1 h13) Y195
 obtain rfl:k=c.subs.length:=by omega
 refine zz 7 ?_
 refine J.ao rfl rfl (.agg (RjR.mk 0 [] 0 0 none 0).cells.toArray) Y191 <| J.ae 2 rfl rfl rfl rfl ((RjR.mk 0 [] 0 0 none 0).cells) rfl zbq (Nat.le_of_ble_eq_true rfl) Y150 (Nat.zero_lt_succ _) trivial ((RjR.mk 0 [] 0 0 none 0).cells) rfl <| zz 3 ?_
 exact X.aa rfl (RV.agg 2 rfl rfl zaL ((RjR.mk 0 [] 0 0 none 0).cells) Y22 Y22 rfl) (fun w' hw'=>⟨(RjR.mk 0 [] 0 0 none 0),⟨fun _=>⟨by rw [hv2];exact hid,by rw [hv2];exact hbo,fun i hi=>(hall i Y5).1,fun i hi=>(hall i Y5).2⟩,fun _=>rfl⟩,zfI 0 0 0,rfl,hw'.s0⟩)
theorem Judge (NN:Nat) (hNN:NN≤1000000) (IH:∀ N',N' < NN→JudgeAt N') (w:World) (n:Nat) (hn:n≤w.heap.size) (B:List (Option Nat)) (hB:∀ g,some g∈B→g < w.heap.size) (c:CtR) (kind:Int) (hc:c.Ok w n B) (hl1:c.codes.length≤1000000000) (hl2:c.subs.length≤1000000000) (hl3:c.types.length≤1000000000) (hN:∀ p∈c.v.subs,p.length≤NN):
    Calls prog 110 [.agg c.cells.toArray,.int .i64 kind].toArray w fun e w'=>∃ q:RjR,((q.code=0↔ValidC c.v kind)∧q.Okm (1000000+NN) w' n B)∧e=.returned (.agg q.cells.toArray)∧WS w [] [] w':=by
 have hv1:c.v.types.length=c.types.length:=rfl
 have hv2:c.v.subs.length=c.subs.length:=List.length_map ..
 have hv3:c.v.codes.length=c.codes.length:=List.length_map ..
 refine zac [] 70 [] func110 rfl ntmps110 Y20 (WS.refl _ _) <| zz 2 ?_
 refine J.aE 2 rfl rfl (c.cells) rfl rfl fun g2 hg2=>J.am 4 rfl zdB zc7 rfl rfl fun g4 hg4=>zz 8 ?_
 refine J.an 14 rfl (fun h1=>?_) (fun h1=>?_)
 refine zz 5 ?_
 refine T.aa rfl (fun h2=>?_) (fun h2=>?_)
 refine zz 2 ?_
 refine J.ao rfl rfl (.agg (RjR.mk 1 [] 0 0 none 0).cells.toArray) Y191 <| J.ae 4 rfl rfl rfl rfl ((RjR.mk 1 [] 0 0 none 0).cells) rfl zbq (Nat.le_of_ble_eq_true rfl) Y150 (Nat.zero_lt_succ _) trivial ((RjR.mk 1 [] 0 0 none 0).cells) rfl <| zz 4 ?_
 exact X.aa rfl (RV.agg 4 rfl rfl zaL ((RjR.mk 1 [] 0 0 none 0).cells) Y22 Y22 rfl) (fun w' hw'=>⟨(RjR.mk 1 [] 0 0 none 0),⟨⟨fun q=>absurd q (show (1:Int)≠0 by decide),fun q=>absurd q.fine.1 Y5⟩,zfI _ _ _⟩,rfl,hw'.s0⟩)
 refine zz 5 ?_
 refine J.ai Y8k 2 rfl rfl zcT (c.cells) rfl rfl rfl <| J.aj Y8k zrb rfl rfl (fun w hw=>Ub.Check w n _ c (hc.keep (zad (B0:=B) (l1:=[]) hn Y189 hw (Sub.nil _) rfl)) hl1 hl2 hl3) ?_
 refine zz 9 ?_
 refine T.aa rfl (fun h3=>?_) (fun h3=>?_)
 refine zz 3 ?_
 refine J.ao rfl rfl (.agg (RjR.mk (checkC c.v) [] 0 0 none 0).cells.toArray) Y191 <| J.ae 4 rfl rfl rfl rfl ((RjR.mk (checkC c.v) [] 0 0 none 0).cells) rfl zbq (Nat.le_of_ble_eq_true rfl) Y150 (Nat.zero_lt_succ _) trivial ((RjR.mk (checkC c.v) [] 0 0 none 0).cells) rfl <| zz 4 ?_
 exact X.aa rfl (RV.agg 4 rfl rfl zaL ((RjR.mk (checkC c.v) [] 0 0 none 0).cells) Y22 Y22 rfl) (fun w' hw'=>⟨(RjR.mk (checkC c.v) [] 0 0 none 0),⟨⟨fun q=>absurd q Y195,fun q=>absurd ((zel _).2 q.fine.2.1) Y195⟩,zfI _ _ _⟩,rfl,hw'.s0⟩)
 have hf:c.v.Fine:=(zel _).1 (Decidable.not_not.1 h3)
 have hfc0:=hf.c0
 rw [hv3] at hfc0
 have hfc1:=hf.c1
 have hfs1:=hf.s1
 have hft:=hf.tl
 have hk:kind=1∨kind=2:=by omega
 have hN2:∀ p∈c.v.subs,0 < p.length∧p.length≤NN:=fun p hp=>⟨(hf.ss p hp).1,hN p hp⟩
 refine zz 3 ?_
 refine T.ae [] [(0,.q),(1,.g),(2,.g),(3,.q),(4,.g),(6,.g),(7,.q),(8,.g),(10,.g),(11,.q),(12,.g),(5,.a 30),(9,.a 34),(13,.a 38),(14,.g),(15,.l),(16,.g)] Y12 Y12 ?_ Y0
 refine J.ai Y8k 2 rfl rfl zcT (c.cells) rfl rfl rfl <| zz 1 ?_
 refine J.aa zbm rfl rfl <| J.ag Y8k 2 rfl rfl zcr Y3 rfl <| J.al underlying45 rfl rfl <| J.aa zbm rfl rfl <| J.ag Y8k 2 rfl rfl zcr Y3 rfl <| J.al underlying45 rfl rfl <| J.aa zbn rfl rfl <| J.ag Y8k 2 rfl rfl zcr Y3 rfl ?_
 refine J.al underlying45 rfl rfl <| J.aY 30 rfl rfl (q:=c.subs.length) (c0:=c.subs.length) underlying160 el4 rfl rfl Y192 Y192 (Nat.le_refl _) Y5 Y28 rfl fun g30 hg30=>J.aY 34 rfl rfl (q:=c.subs.length) (c0:=c.subs.length) underlying160 el4 rfl rfl Y192 Y192 (Nat.le_refl _) Y5 Y28 rfl fun g34 hg34=>J.aY 38 rfl rfl (q:=c.codes.length) (c0:=c.codes.length) underlying179 zux rfl rfl Y192 Y192 (Nat.le_refl _) Y5 Y28 rfl fun g38 hg38=>J.ao rfl rfl (.agg (judC c kind g30 g34 g38).toArray) Y191 <| J.aE 40 rfl rfl (judC c kind g30 g34 g38) rfl rfl fun g40 hg40=>zz 2 ?_
 refine X.ah 30 ⟨some g30,4,rowT (List.replicate c.subs.length false)⟩ rfl Y190 <| X.ah 34 ⟨some g34,4,rowT (List.replicate c.subs.length false)⟩ rfl Y190 <| X.ah 38 ⟨some g38,123,rowIs (List.replicate c.codes.length ⟨[],none,0⟩)⟩ rfl (by rw [zkF];rfl) <| zz 4 ?_
 refine J.aa zbn rfl rfl <| J.ag Y8k 2 rfl rfl zcr Y3 rfl <| J.al underlying45 rfl rfl <| zz 4 ?_
 refine T.al [(2,⟨some g2,122,(c.cells)⟩),(4,⟨some g4,125,zc7⟩),(30,⟨some g30,4,rowT (List.replicate c.subs.length false)⟩),(34,⟨some g34,4,rowT (List.replicate c.subs.length false)⟩),(38,⟨some g38,123,rowIs (List.replicate c.codes.length ⟨[],none,0⟩)⟩),(40,⟨some g40,181,(judC c kind g30 g34 g38)⟩)] Y0 rfl fun Wl4 hWWl4=>?_
 have kpWl4:=(zad (B0:=B) (l1:=[(2,⟨some g2,122,(c.cells)⟩),(4,⟨some g4,125,zc7⟩),(30,⟨some g30,4,rowT (List.replicate c.subs.length false)⟩),(34,⟨some g34,4,rowT (List.replicate c.subs.length false)⟩),(38,⟨some g38,123,rowIs (List.replicate c.codes.length ⟨[],none,0⟩)⟩),(40,⟨some g40,181,(judC c kind g30 g34 g38)⟩)]) hn Y189 hWWl4 Y0 rfl)
 have hc:=hc.keep kpWl4
 have hVWl4:=hWWl4.s0
 refine T.ag (ι:=World×Nat×List Bool×List Bool×List IsR) (fun (W,s,mk,ly,ys)=>s≤c.codes.length∧WS w [] [] W∧c.Ok W n (B++[some g2,some g4,some g30,some g34,some g38,some g40])∧AllIs W n (B++[some g2,some g4,some g30,some g34,some g38,some g40]) ys∧mk=(c.v.codes.take s).foldl (fun m b=>mkF b m) (List.replicate c.v.subs.length false)∧ly=(c.v.codes.take s).foldl (fun m b=>lyF b m) (List.replicate c.v.subs.length false)∧mk.length=c.subs.length∧ly.length=c.subs.length∧ys.length=c.codes.length∧(∀ q,q < s→SecOk c.v kind q)∧(∀ q,q < s→(ys.getD q default).xs=clsV (c.v.codes.getD q []))∧(∀ q,s≤q→ys.getD q default=⟨[],none,0⟩)∧∀ y∈ys,y.xs.length≤1000000∧∀ n∈y.xs,n < c.codes.length) (fun (W,s,mk,ly,ys)=>[(0,.agg c.cells.toArray),(1,.int .i64 kind),(2,.pointer (some ⟨g2,0,none⟩)),(4,.pointer (some ⟨g4,0,none⟩)),(12,.int .i64 kind),(14,.bool true),(15,.int .i64 kind),(20,.int .i64 (checkC c.v)),(5,.int .i64 (checkC c.v)),(21,.int .i64 (checkC c.v)),(26,.int .i64 kind),(28,.slice c.sA c.subs.length c.sC),(29,.int .i64 ((c.subs.length:Nat):Int)),(32,.slice c.sA c.subs.length c.sC),(33,.int .i64 ((c.subs.length:Nat):Int)),(36,.slice c.cA c.codes.length c.cC),(37,.int .i64 ((c.codes.length:Nat):Int)),(30,.slice (some ⟨g30,0,none⟩) c.subs.length c.subs.length),(34,.slice (some ⟨g34,0,none⟩) c.subs.length c.subs.length),(38,.slice (some ⟨g38,0,none⟩) c.codes.length c.codes.length),(39,(.agg (judC c kind g30 g34 g38).toArray)),(40,.pointer (some ⟨g40,0,none⟩)),(6,.pointer (some ⟨g40,0,none⟩)),(42,.slice c.cA c.codes.length c.cC),(43,.int .i64 ((c.codes.length:Nat):Int)),(44,.int .i64 ((s:Nat):Int))]) (fun (W,s,mk,ly,ys)=>((2,⟨some g2,122,(c.cells)⟩)::(4,⟨some g4,125,zc7⟩)::(40,⟨some g40,181,(judC c kind g30 g34 g38)⟩)::(30,⟨some g30,4,rowT mk⟩)::(34,⟨some g34,4,rowT ly⟩)::(38,⟨some g38,123,rowIs ys⟩)::snapL W w.heap.size [some g2,some g4,some g30,some g34,some g38,some g40])) (fun (W,s,mk,ly,ys)=>c.codes.length - s) ⟨Wl4,0,(List.replicate c.subs.length false),(List.replicate c.subs.length false),(List.replicate c.codes.length ⟨[],none,0⟩)⟩ ⟨Nat.zero_le _,hVWl4,hc,AllIs.start,by rw [hv2];rfl,by rw [hv2];rfl,List.length_replicate,List.length_replicate,List.length_replicate,fun q hq=>absurd hq (Nat.not_lt_zero q),fun q hq=>absurd hq (Nat.not_lt_zero q),fun q _=>zlo _ _,fun y hy=>by rw [List.eq_of_mem_replicate hy];exact ⟨Nat.zero_le _,fun n hn=>by cases hn⟩⟩ Y0 Y0 ?_
 rintro ⟨W,s,mk,ly,ys⟩ ⟨hs,hV,hc,hys,hmk1,hly1,hml,hll,hyl,hsc,hcls,hyz,hya⟩
 try dsimp only at *
 refine zz 6 ?_
 refine T.aa rfl (fun h5=>?_) (fun h5=>?_)
 have hs2:s < c.codes.length:=by omega
 refine zz 14 ?_
 refine J.aZ zra rfl rfl (fun (i:SeQ) W=>i.Ok c.v kind s mk ly∧Fit W n (B++ids [(2,⟨some g2,122,(c.cells)⟩),(4,⟨some g4,125,zc7⟩),(40,⟨some g40,181,(judC c kind g30 g34 g38)⟩),(30,⟨some g30,4,rowT mk⟩),(34,⟨some g34,4,rowT ly⟩),(38,⟨some g38,123,rowIs ys⟩)]) i.A (rowN .i64 i.cl)) (fun i=>.tuple #[.int .i64 i.e,.int .i64 i.at_]) [g40,g30,g34,g38] (fun i=>[(40,⟨some g40,181,judC c kind g30 g34 g38⟩),(30,⟨some g30,4,rowT i.mm⟩),(34,⟨some g34,4,rowT i.ly⟩),(38,⟨some g38,123,rowIs (ys.set s ⟨i.cl,i.A,i.cap⟩)⟩)]) (fun i=>[(2,⟨some g2,122,(c.cells)⟩),(4,⟨some g4,125,zc7⟩),(40,⟨some g40,181,judC c kind g30 g34 g38⟩),(30,⟨some g30,4,rowT i.mm⟩),(34,⟨some g34,4,rowT i.ly⟩),(38,⟨some g38,123,rowIs (ys.set s ⟨i.cl,i.A,i.cap⟩)⟩)]) (fun i=>Y0) (fun _=>rfl) (fun _ _ _=>Sub.nil _) (fun i=>zki (L:=[(40,⟨some g40,181,(judC c kind g30 g34 g38)⟩),(30,⟨some g30,4,rowT mk⟩),(34,⟨some g34,4,rowT ly⟩),(38,⟨some g38,123,rowIs ys⟩)]) rfl Y0 rfl) (fun w hw=>(Ui.section_ w n (Nat.le_trans hn hw.size) (B++ids [(2,⟨some g2,122,(c.cells)⟩),(4,⟨some g4,125,zc7⟩),(40,⟨some g40,181,(judC c kind g30 g34 g38)⟩),(30,⟨some g30,4,rowT mk⟩),(34,⟨some g34,4,rowT ly⟩),(38,⟨some g38,123,rowIs ys⟩)]) (zaf (l1:=[(2,⟨some g2,122,(c.cells)⟩),(4,⟨some g4,125,zc7⟩),(40,⟨some g40,181,(judC c kind g30 g34 g38)⟩),(30,⟨some g30,4,rowT mk⟩),(34,⟨some g34,4,rowT ly⟩),(38,⟨some g38,123,rowIs ys⟩)]) hB hw Y0 rfl) g40 g30 g34 g38 c kind mk ly ys s (fun g hg=>List.mem_append_right _ Y122) (hc.keep (zaa (I:=[some g2,some g4,some g30,some g34,some g38,some g40]) (B0:=B) (l1:=[(2,⟨some g2,122,(c.cells)⟩),(4,⟨some g4,125,zc7⟩),(40,⟨some g40,181,(judC c kind g30 g34 g38)⟩),(30,⟨some g30,4,rowT mk⟩),(34,⟨some g34,4,rowT ly⟩),(38,⟨some g38,123,rowIs ys⟩)]) hV hn Y189 hw Y4 Y0 rfl)) hf hs2 hyl hml hll (hyz s (Nat.le_refl _)) ((hw.sub Y144).rebase rfl (fun g hg=>hg))).mono fun e w2 ⟨q,h1,h2,h3,h4⟩=>⟨q,⟨h1,h2⟩,h3,h4⟩) fun i50 W50 hP50 hW50=>?_
 obtain ⟨hso,hcl⟩:=hP50
 have kpW50:=(zaa (I:=[some g2,some g4,some g30,some g34,some g38,some g40]) (B0:=B) (l1:=[(2,⟨some g2,122,(c.cells)⟩),(4,⟨some g4,125,zc7⟩),(40,⟨some g40,181,judC c kind g30 g34 g38⟩),(30,⟨some g30,4,rowT i50.mm⟩),(34,⟨some g34,4,rowT i50.ly⟩),(38,⟨some g38,123,rowIs (ys.set s ⟨i50.cl,i50.A,i50.cap⟩)⟩)]) hV hn Y189 hW50 Y4 Y0 rfl)
 have hc:=hc.keep kpW50
 have hys:=hys.keep kpW50
 have hVW50:=hW50.s0
 refine zz 13 ?_
 refine T.aa rfl (fun h6=>?_) (fun h6=>?_)
 refine zz 5 ?_
 refine J.ao rfl rfl (.agg (RjR.mk i50.e [] ((s:Nat):Int) i50.at_ none 0).cells.toArray) Y191 <| J.ae 4 rfl rfl rfl rfl ((RjR.mk i50.e [] ((s:Nat):Int) i50.at_ none 0).cells) rfl zbq (Nat.le_of_ble_eq_true rfl) Y150 (Nat.zero_lt_succ _) trivial ((RjR.mk i50.e [] ((s:Nat):Int) i50.at_ none 0).cells) rfl <| zz 8 ?_
 exact X.aa rfl (RV.agg 4 rfl rfl zaL ((RjR.mk i50.e [] ((s:Nat):Int) i50.at_ none 0).cells) Y22 Y22 rfl) (fun w' hw'=>⟨(RjR.mk i50.e [] ((s:Nat):Int) i50.at_ none 0),⟨⟨fun q=>absurd q Y195,fun q=>absurd (hso.iff.2 (q.fine.2.2.1 s Y5)) Y195⟩,zfI _ _ _⟩,rfl,hw'.s0⟩)
 have hez:=Decidable.not_not.1 h6
 have hsk:=hso.iff.1 hez
 have hmk9:i50.mm=(c.v.codes.take (s+1)).foldl (fun m b=>mkF b m) (List.replicate c.v.subs.length false):=by rw [hso.mm_ hez,hmk1,zdj _ _ Y5]
 have hly9:i50.ly=(c.v.codes.take (s+1)).foldl (fun m b=>lyF b m) (List.replicate c.v.subs.length false):=by rw [hso.ly_ hez,hly1,zdj _ _ Y5]
 have hcls9:∀ q,q < s+1→((ys.set s ⟨i50.cl,i50.A,i50.cap⟩).getD q default).xs=clsV (c.v.codes.getD q []):=fun q hq=>by rw [zbz];split;(rename_i hz;rw [← hz.1];exact hso.cl_ hez);(rename_i hz;exact hcls q Y5)
 have hyz9:∀ q,s+1≤q→(ys.set s ⟨i50.cl,i50.A,i50.cap⟩).getD q default=⟨[],none,0⟩:=fun q hq=>by rw [zbz,if_neg Y5];exact hyz q Y5
 have hya9:∀ y∈ys.set s ⟨i50.cl,i50.A,i50.cap⟩,y.xs.length≤1000000∧∀ n∈y.xs,n < c.codes.length:=fun y hy=>by rcases List.mem_or_eq_of_mem_set hy with q | q;exact hya y q;rw [q];exact ⟨hso.lc,fun n hn=>by have:=hso.cc hez n hn;omega⟩
 refine zz 4 ?_
 refine J.aq rfl rfl rfl Y10 <| zz 2 ?_
 refine X.aj [(2,⟨some g2,122,(c.cells)⟩),(4,⟨some g4,125,zc7⟩),(30,⟨some g30,4,rowT i50.mm⟩),(34,⟨some g34,4,rowT i50.ly⟩),(38,⟨some g38,123,rowIs (ys.set s ⟨i50.cl,i50.A,i50.cap⟩)⟩),(40,⟨some g40,181,judC c kind g30 g34 g38⟩)] Y0 rfl fun Wx7 hWWx7=>?_
 have kpWx7:=(zaa (I:=[some g2,some g4,some g40,some g30,some g34,some g38]) (B0:=B) (l1:=[(2,⟨some g2,122,(c.cells)⟩),(4,⟨some g4,125,zc7⟩),(30,⟨some g30,4,rowT i50.mm⟩),(34,⟨some g34,4,rowT i50.ly⟩),(38,⟨some g38,123,rowIs (ys.set s ⟨i50.cl,i50.A,i50.cap⟩)⟩),(40,⟨some g40,181,judC c kind g30 g34 g38⟩)]) hVW50 hn Y189 hWWx7 Y4 Y0 rfl)
 have hc:=hc.keep kpWx7
 have hys:=hys.keep kpWx7
 have hcl:=hcl.keep kpWx7
 have hVWx7:=hWWx7.s0
 exact X.ae ⟨Wx7,(s+1),i50.mm,i50.ly,(ys.set s ⟨i50.cl,i50.A,i50.cap⟩)⟩ ⟨by dsimp only;omega,hVWx7,hc,hys.set hcl,hmk9,hly9,hso.lm.trans hml,hso.ll.trans hll,by dsimp only;rw [List.length_set];exact hyl,zao hsc hsk,hcls9,hyz9,hya9⟩ Y14 Y0 Y0
 obtain rfl:s=c.codes.length:=by omega
 have hmv:mk=mksV c.v:=by rw [hmk1,← hv3,List.take_length];rfl
 have hlv:ly=lysV c.v:=by rw [hly1,← hv3,List.take_length];rfl
 have hfu:=zor (c:=c.v) (ys:=ys) Y5 (by rw [hv3];exact hcls)
 refine zz 9 ?_
 refine J.aL zqZ rfl rfl (ι:=Int×Bool) (fun q=>q.2=false↔∀ s,s < c.codes.length→Reached (fun i=>(ys.getD i default).xs) s) (fun q=>.tuple #[.int .i64 q.1,.bool q.2]) [] (fun _=>[]) (fun w hw=>apart w g40 g30 g34 g38 c kind ys (hw.blkCs (k:=40) rfl) (hw.blkCs (k:=38) rfl) (fun y hy=>(Fit.keep (hys y hy) (zaa (I:=[some g2,some g4,some g30,some g34,some g38,some g40]) (B0:=B) (l1:=[(2,⟨some g2,122,(c.cells)⟩),(4,⟨some g4,125,zc7⟩),(40,⟨some g40,181,(judC c kind g30 g34 g38)⟩),(30,⟨some g30,4,rowT mk⟩),(34,⟨some g34,4,rowT ly⟩),(38,⟨some g38,123,rowIs ys⟩)]) hV hn Y189 hw Y4 Y0 rfl)).cs) hyl hfc0 Y5 hya) Y182 (fun _ _ _ _=>rfl) fun q62 hq62=>?_
 refine zz 10 ?_
 refine J.as 65 (.bool (decide (q62.2=true))) rfl Y178 <| zz 2 ?_
 refine T.aa rfl (fun h8=>?_) (fun h8=>?_)
 have hq7:¬ q62.2=false:=by rw [h8];decide
 refine zz 3 ?_
 refine J.ao rfl rfl (.agg (RjR.mk 87 [] q62.1 0 none 0).cells.toArray) Y191 <| J.ae 4 rfl rfl rfl rfl ((RjR.mk 87 [] q62.1 0 none 0).cells) rfl zbq (Nat.le_of_ble_eq_true rfl) Y150 (Nat.zero_lt_succ _) trivial ((RjR.mk 87 [] q62.1 0 none 0).cells) rfl <| zz 4 ?_
 exact X.aa rfl (RV.agg 4 rfl rfl zaL ((RjR.mk 87 [] q62.1 0 none 0).cells) Y22 Y22 rfl) (fun w' hw'=>⟨(RjR.mk 87 [] q62.1 0 none 0),⟨⟨fun q=>absurd q (show (87:Int)≠0 by decide),fun q=>absurd (hq62.2 (by rw [hfu,← hv3];exact q.fine.2.2.2)) hq7⟩,zfI _ _ _⟩,rfl,hw'.s0⟩)
 have hre:=hq62.1 (by simpa using h8)
 refine zz 3 ?_
 refine T.al [(2,⟨some g2,122,(c.cells)⟩),(4,⟨some g4,125,zc7⟩)] Y0 rfl fun Wz9 hWWz9=>?_
 have hp:=zdo (n:=n) (B:=B++ids [(2,⟨some g2,122,(c.cells)⟩),(4,⟨some g4,125,zc7⟩)]) hWWz9 (j:=40) rfl (zdr (fun g h=>⟨hB g h,fun q=>by cases q⟩) Y0 rfl rfl)
 have hmk:=zdo (n:=n) (B:=B++ids [(2,⟨some g2,122,(c.cells)⟩),(4,⟨some g4,125,zc7⟩)]) hWWz9 (j:=30) rfl (zdr (fun g h=>⟨hB g h,fun q=>by cases q⟩) Y0 rfl rfl)
 have hly:=zdo (n:=n) (B:=B++ids [(2,⟨some g2,122,(c.cells)⟩),(4,⟨some g4,125,zc7⟩)]) hWWz9 (j:=34) rfl (zdr (fun g h=>⟨hB g h,fun q=>by cases q⟩) Y0 rfl rfl)
 have kpWz9:=(zaa (I:=[some g2,some g4,some g30,some g34,some g38,some g40]) (B0:=B) (l1:=[(2,⟨some g2,122,(c.cells)⟩),(4,⟨some g4,125,zc7⟩)]) hV hn Y189 hWWz9 Y4 Y0 rfl)
 have hc:=hc.keep kpWz9
 have hys:=hys.keep kpWz9
 have hVWz9:=hWWz9.s0
 refine zz 2 ?_
 refine J.aw zqY rfl rfl (fun (i:RjR) W=>(i.code=0↔NestOk c.v mk ly)∧i.Okm (1000000+NN) W n (B++ids [(2,⟨some g2,122,(c.cells)⟩),(4,⟨some g4,125,zc7⟩)])) (fun i=>.agg i.cells.toArray) [(2,⟨some g2,122,(c.cells)⟩),(4,⟨some g4,125,zc7⟩)] Y0 rfl (fun _ _=>Sub.nil _) (fun w hw=>(nested NN hNN IH w n (Nat.le_trans hn hw.size) (B++ids [(2,⟨some g2,122,(c.cells)⟩),(4,⟨some g4,125,zc7⟩)]) (zaf (l1:=[(2,⟨some g2,122,(c.cells)⟩),(4,⟨some g4,125,zc7⟩)]) hB hw Y0 rfl) g40 g30 g34 g38 c kind mk ly (hp.keep (zaa (I:=[some g2,some g4]) (B0:=B) (l1:=[(2,⟨some g2,122,(c.cells)⟩),(4,⟨some g4,125,zc7⟩)]) hVWz9 hn Y189 hw Y4 Y0 rfl)) (hmk.keep (zaa (I:=[some g2,some g4]) (B0:=B) (l1:=[(2,⟨some g2,122,(c.cells)⟩),(4,⟨some g4,125,zc7⟩)]) hVWz9 hn Y189 hw Y4 Y0 rfl)) (hly.keep (zaa (I:=[some g2,some g4]) (B0:=B) (l1:=[(2,⟨some g2,122,(c.cells)⟩),(4,⟨some g4,125,zc7⟩)]) hVWz9 hn Y189 hw Y4 Y0 rfl)) (hc.keep (zaa (I:=[some g2,some g4]) (B0:=B) (l1:=[(2,⟨some g2,122,(c.cells)⟩),(4,⟨some g4,125,zc7⟩)]) hVWz9 hn Y189 hw Y4 Y0 rfl)) Y5 hml hll hN2).mono fun e w2 ⟨q,h1,h2,h3,h4⟩=>⟨q,⟨h1,h2⟩,h3,h4⟩) fun i69 W69 hP69 hW69=>?_
 obtain ⟨hn1,hr69⟩:=hP69
 have kpW69:=(zaa (I:=[some g2,some g4]) (B0:=B) (l1:=[(2,⟨some g2,122,(c.cells)⟩),(4,⟨some g4,125,zc7⟩)]) hVWz9 hn Y189 hW69 Y4 Y0 rfl)
 have hc:=hc.keep kpW69
 have hys:=hys.keep kpW69
 have hp:=hp.keep kpW69
 have hmk:=hmk.keep kpW69
 have hly:=hly.keep kpW69
 have hVW69:=hW69.s0
 refine J.ae 4 rfl rfl rfl rfl (i69.cells) rfl zbq (Nat.le_of_ble_eq_true rfl) Y150 (Nat.zero_lt_succ _) trivial (i69.cells) rfl <| zz 3 ?_
 exact X.aa rfl (RV.agg 4 rfl rfl zaL (i69.cells) Y22 Y22 rfl) (fun w' hw'=>⟨i69,⟨by rw [hn1,hmv,hlv];exact ziE hk Y195 (by rw [hv3];exact hsc) (by rw [hv3,← hfu];exact hre),RjR.Okm.keep hr69 (((zaa (I:=[some g2,some g4]) (B0:=B) (l1:=[(2,⟨some g2,122,(c.cells)⟩),(4,⟨some g4,125,(i69.cells)⟩)]) hVW69 hn Y189 hw' Y4 Y0 rfl)).le (fun o h=>List.mem_append_left _ h))⟩,rfl,hw'.s0⟩)
 refine zz 11 ?_
 refine J.ai Y8k 2 rfl rfl zcT (c.cells) rfl rfl rfl <| J.aj Y8k zrb rfl rfl (fun w hw=>Ub.Check w n _ c (hc.keep (zad (B0:=B) (l1:=[]) hn Y189 hw (Sub.nil _) rfl)) hl1 hl2 hl3) ?_
 refine zz 9 ?_
 refine T.aa rfl (fun h10=>?_) (fun h10=>?_)
 refine zz 3 ?_
 refine J.ao rfl rfl (.agg (RjR.mk (checkC c.v) [] 0 0 none 0).cells.toArray) Y191 <| J.ae 4 rfl rfl rfl rfl ((RjR.mk (checkC c.v) [] 0 0 none 0).cells) rfl zbq (Nat.le_of_ble_eq_true rfl) Y150 (Nat.zero_lt_succ _) trivial ((RjR.mk (checkC c.v) [] 0 0 none 0).cells) rfl <| zz 4 ?_
 exact X.aa rfl (RV.agg 4 rfl rfl zaL ((RjR.mk (checkC c.v) [] 0 0 none 0).cells) Y22 Y22 rfl) (fun w' hw'=>⟨(RjR.mk (checkC c.v) [] 0 0 none 0),⟨⟨fun q=>absurd q Y195,fun q=>absurd ((zel _).2 q.fine.2.1) Y195⟩,zfI _ _ _⟩,rfl,hw'.s0⟩)
 have hf:c.v.Fine:=(zel _).1 (Decidable.not_not.1 h10)
 have hfc0:=hf.c0
 rw [hv3] at hfc0
 have hfc1:=hf.c1
 have hfs1:=hf.s1
 have hft:=hf.tl
 have hk:kind=1∨kind=2:=by omega
 have hN2:∀ p∈c.v.subs,0 < p.length∧p.length≤NN:=fun p hp=>⟨(hf.ss p hp).1,hN p hp⟩
 refine zz 3 ?_
 refine T.ae [] [(0,.q),(1,.g),(2,.g),(3,.q),(4,.g),(6,.g),(7,.q),(8,.g),(10,.g),(11,.q),(12,.g),(5,.a 30),(9,.a 34),(13,.a 38),(14,.g),(15,.l),(16,.g)] Y12 Y12 ?_ Y0
 refine J.ai Y8k 2 rfl rfl zcT (c.cells) rfl rfl rfl <| zz 1 ?_
 refine J.aa zbm rfl rfl <| J.ag Y8k 2 rfl rfl zcr Y3 rfl <| J.al underlying45 rfl rfl <| J.aa zbm rfl rfl <| J.ag Y8k 2 rfl rfl zcr Y3 rfl <| J.al underlying45 rfl rfl <| J.aa zbn rfl rfl <| J.ag Y8k 2 rfl rfl zcr Y3 rfl ?_
 refine J.al underlying45 rfl rfl <| J.aY 30 rfl rfl (q:=c.subs.length) (c0:=c.subs.length) underlying160 el4 rfl rfl Y192 Y192 (Nat.le_refl _) Y5 Y28 rfl fun g30 hg30=>J.aY 34 rfl rfl (q:=c.subs.length) (c0:=c.subs.length) underlying160 el4 rfl rfl Y192 Y192 (Nat.le_refl _) Y5 Y28 rfl fun g34 hg34=>J.aY 38 rfl rfl (q:=c.codes.length) (c0:=c.codes.length) underlying179 zux rfl rfl Y192 Y192 (Nat.le_refl _) Y5 Y28 rfl fun g38 hg38=>J.ao rfl rfl (.agg (judC c kind g30 g34 g38).toArray) Y191 <| J.aE 40 rfl rfl (judC c kind g30 g34 g38) rfl rfl fun g40 hg40=>zz 2 ?_
 refine X.ah 30 ⟨some g30,4,rowT (List.replicate c.subs.length false)⟩ rfl Y190 <| X.ah 34 ⟨some g34,4,rowT (List.replicate c.subs.length false)⟩ rfl Y190 <| X.ah 38 ⟨some g38,123,rowIs (List.replicate c.codes.length ⟨[],none,0⟩)⟩ rfl (by rw [zkF];rfl) <| zz 4 ?_
 refine J.aa zbn rfl rfl <| J.ag Y8k 2 rfl rfl zcr Y3 rfl <| J.al underlying45 rfl rfl <| zz 4 ?_
 refine T.al [(2,⟨some g2,122,(c.cells)⟩),(4,⟨some g4,125,zc7⟩),(30,⟨some g30,4,rowT (List.replicate c.subs.length false)⟩),(34,⟨some g34,4,rowT (List.replicate c.subs.length false)⟩),(38,⟨some g38,123,rowIs (List.replicate c.codes.length ⟨[],none,0⟩)⟩),(40,⟨some g40,181,(judC c kind g30 g34 g38)⟩)] Y0 rfl fun Wl11 hWWl11=>?_
 have kpWl11:=(zad (B0:=B) (l1:=[(2,⟨some g2,122,(c.cells)⟩),(4,⟨some g4,125,zc7⟩),(30,⟨some g30,4,rowT (List.replicate c.subs.length false)⟩),(34,⟨some g34,4,rowT (List.replicate c.subs.length false)⟩),(38,⟨some g38,123,rowIs (List.replicate c.codes.length ⟨[],none,0⟩)⟩),(40,⟨some g40,181,(judC c kind g30 g34 g38)⟩)]) hn Y189 hWWl11 Y0 rfl)
 have hc:=hc.keep kpWl11
 have hVWl11:=hWWl11.s0
 refine T.ag (ι:=World×Nat×List Bool×List Bool×List IsR) (fun (W,s,mk,ly,ys)=>s≤c.codes.length∧WS w [] [] W∧c.Ok W n (B++[some g2,some g4,some g30,some g34,some g38,some g40])∧AllIs W n (B++[some g2,some g4,some g30,some g34,some g38,some g40]) ys∧mk=(c.v.codes.take s).foldl (fun m b=>mkF b m) (List.replicate c.v.subs.length false)∧ly=(c.v.codes.take s).foldl (fun m b=>lyF b m) (List.replicate c.v.subs.length false)∧mk.length=c.subs.length∧ly.length=c.subs.length∧ys.length=c.codes.length∧(∀ q,q < s→SecOk c.v kind q)∧(∀ q,q < s→(ys.getD q default).xs=clsV (c.v.codes.getD q []))∧(∀ q,s≤q→ys.getD q default=⟨[],none,0⟩)∧∀ y∈ys,y.xs.length≤1000000∧∀ n∈y.xs,n < c.codes.length) (fun (W,s,mk,ly,ys)=>[(0,.agg c.cells.toArray),(1,.int .i64 kind),(2,.pointer (some ⟨g2,0,none⟩)),(4,.pointer (some ⟨g4,0,none⟩)),(12,.int .i64 kind),(14,.bool false),(15,undef),(16,undef),(17,.bool false),(20,.int .i64 (checkC c.v)),(5,.int .i64 (checkC c.v)),(21,.int .i64 (checkC c.v)),(26,.int .i64 kind),(28,.slice c.sA c.subs.length c.sC),(29,.int .i64 ((c.subs.length:Nat):Int)),(32,.slice c.sA c.subs.length c.sC),(33,.int .i64 ((c.subs.length:Nat):Int)),(36,.slice c.cA c.codes.length c.cC),(37,.int .i64 ((c.codes.length:Nat):Int)),(30,.slice (some ⟨g30,0,none⟩) c.subs.length c.subs.length),(34,.slice (some ⟨g34,0,none⟩) c.subs.length c.subs.length),(38,.slice (some ⟨g38,0,none⟩) c.codes.length c.codes.length),(39,(.agg (judC c kind g30 g34 g38).toArray)),(40,.pointer (some ⟨g40,0,none⟩)),(6,.pointer (some ⟨g40,0,none⟩)),(42,.slice c.cA c.codes.length c.cC),(43,.int .i64 ((c.codes.length:Nat):Int)),(44,.int .i64 ((s:Nat):Int))]) (fun (W,s,mk,ly,ys)=>((2,⟨some g2,122,(c.cells)⟩)::(4,⟨some g4,125,zc7⟩)::(40,⟨some g40,181,(judC c kind g30 g34 g38)⟩)::(30,⟨some g30,4,rowT mk⟩)::(34,⟨some g34,4,rowT ly⟩)::(38,⟨some g38,123,rowIs ys⟩)::snapL W w.heap.size [some g2,some g4,some g30,some g34,some g38,some g40])) (fun (W,s,mk,ly,ys)=>c.codes.length - s) ⟨Wl11,0,(List.replicate c.subs.length false),(List.replicate c.subs.length false),(List.replicate c.codes.length ⟨[],none,0⟩)⟩ ⟨Nat.zero_le _,hVWl11,hc,AllIs.start,by rw [hv2];rfl,by rw [hv2];rfl,List.length_replicate,List.length_replicate,List.length_replicate,fun q hq=>absurd hq (Nat.not_lt_zero q),fun q hq=>absurd hq (Nat.not_lt_zero q),fun q _=>zlo _ _,fun y hy=>by rw [List.eq_of_mem_replicate hy];exact ⟨Nat.zero_le _,fun n hn=>by cases hn⟩⟩ Y0 Y0 ?_
 rintro ⟨W,s,mk,ly,ys⟩ ⟨hs,hV,hc,hys,hmk1,hly1,hml,hll,hyl,hsc,hcls,hyz,hya⟩
 try dsimp only at *
 refine zz 6 ?_
 refine T.aa rfl (fun h12=>?_) (fun h12=>?_)
 have hs2:s < c.codes.length:=by omega
 refine zz 14 ?_
 refine J.aZ zra rfl rfl (fun (i:SeQ) W=>i.Ok c.v kind s mk ly∧Fit W n (B++ids [(2,⟨some g2,122,(c.cells)⟩),(4,⟨some g4,125,zc7⟩),(40,⟨some g40,181,(judC c kind g30 g34 g38)⟩),(30,⟨some g30,4,rowT mk⟩),(34,⟨some g34,4,rowT ly⟩),(38,⟨some g38,123,rowIs ys⟩)]) i.A (rowN .i64 i.cl)) (fun i=>.tuple #[.int .i64 i.e,.int .i64 i.at_]) [g40,g30,g34,g38] (fun i=>[(40,⟨some g40,181,judC c kind g30 g34 g38⟩),(30,⟨some g30,4,rowT i.mm⟩),(34,⟨some g34,4,rowT i.ly⟩),(38,⟨some g38,123,rowIs (ys.set s ⟨i.cl,i.A,i.cap⟩)⟩)]) (fun i=>[(2,⟨some g2,122,(c.cells)⟩),(4,⟨some g4,125,zc7⟩),(40,⟨some g40,181,judC c kind g30 g34 g38⟩),(30,⟨some g30,4,rowT i.mm⟩),(34,⟨some g34,4,rowT i.ly⟩),(38,⟨some g38,123,rowIs (ys.set s ⟨i.cl,i.A,i.cap⟩)⟩)]) (fun i=>Y0) (fun _=>rfl) (fun _ _ _=>Sub.nil _) (fun i=>zki (L:=[(40,⟨some g40,181,(judC c kind g30 g34 g38)⟩),(30,⟨some g30,4,rowT mk⟩),(34,⟨some g34,4,rowT ly⟩),(38,⟨some g38,123,rowIs ys⟩)]) rfl Y0 rfl) (fun w hw=>(Ui.section_ w n (Nat.le_trans hn hw.size) (B++ids [(2,⟨some g2,122,(c.cells)⟩),(4,⟨some g4,125,zc7⟩),(40,⟨some g40,181,(judC c kind g30 g34 g38)⟩),(30,⟨some g30,4,rowT mk⟩),(34,⟨some g34,4,rowT ly⟩),(38,⟨some g38,123,rowIs ys⟩)]) (zaf (l1:=[(2,⟨some g2,122,(c.cells)⟩),(4,⟨some g4,125,zc7⟩),(40,⟨some g40,181,(judC c kind g30 g34 g38)⟩),(30,⟨some g30,4,rowT mk⟩),(34,⟨some g34,4,rowT ly⟩),(38,⟨some g38,123,rowIs ys⟩)]) hB hw Y0 rfl) g40 g30 g34 g38 c kind mk ly ys s (fun g hg=>List.mem_append_right _ Y122) (hc.keep (zaa (I:=[some g2,some g4,some g30,some g34,some g38,some g40]) (B0:=B) (l1:=[(2,⟨some g2,122,(c.cells)⟩),(4,⟨some g4,125,zc7⟩),(40,⟨some g40,181,(judC c kind g30 g34 g38)⟩),(30,⟨some g30,4,rowT mk⟩),(34,⟨some g34,4,rowT ly⟩),(38,⟨some g38,123,rowIs ys⟩)]) hV hn Y189 hw Y4 Y0 rfl)) hf hs2 hyl hml hll (hyz s (Nat.le_refl _)) ((hw.sub Y144).rebase rfl (fun g hg=>hg))).mono fun e w2 ⟨q,h1,h2,h3,h4⟩=>⟨q,⟨h1,h2⟩,h3,h4⟩) fun i50 W50 hP50 hW50=>?_
 obtain ⟨hso,hcl⟩:=hP50
 have kpW50:=(zaa (I:=[some g2,some g4,some g30,some g34,some g38,some g40]) (B0:=B) (l1:=[(2,⟨some g2,122,(c.cells)⟩),(4,⟨some g4,125,zc7⟩),(40,⟨some g40,181,judC c kind g30 g34 g38⟩),(30,⟨some g30,4,rowT i50.mm⟩),(34,⟨some g34,4,rowT i50.ly⟩),(38,⟨some g38,123,rowIs (ys.set s ⟨i50.cl,i50.A,i50.cap⟩)⟩)]) hV hn Y189 hW50 Y4 Y0 rfl)
 have hc:=hc.keep kpW50
 have hys:=hys.keep kpW50
 have hVW50:=hW50.s0
 refine zz 13 ?_
 refine T.aa rfl (fun h13=>?_) (fun h13=>?_)
 refine zz 5 ?_
 refine J.ao rfl rfl (.agg (RjR.mk i50.e [] ((s:Nat):Int) i50.at_ none 0).cells.toArray) Y191 <| J.ae 4 rfl rfl rfl rfl ((RjR.mk i50.e [] ((s:Nat):Int) i50.at_ none 0).cells) rfl zbq (Nat.le_of_ble_eq_true rfl) Y150 (Nat.zero_lt_succ _) trivial ((RjR.mk i50.e [] ((s:Nat):Int) i50.at_ none 0).cells) rfl <| zz 8 ?_
 exact X.aa rfl (RV.agg 4 rfl rfl zaL ((RjR.mk i50.e [] ((s:Nat):Int) i50.at_ none 0).cells) Y22 Y22 rfl) (fun w' hw'=>⟨(RjR.mk i50.e [] ((s:Nat):Int) i50.at_ none 0),⟨⟨fun q=>absurd q Y195,fun q=>absurd (hso.iff.2 (q.fine.2.2.1 s Y5)) Y195⟩,zfI _ _ _⟩,rfl,hw'.s0⟩)
 have hez:=Decidable.not_not.1 h13
 have hsk:=hso.iff.1 hez
 have hmk9:i50.mm=(c.v.codes.take (s+1)).foldl (fun m b=>mkF b m) (List.replicate c.v.subs.length false):=by rw [hso.mm_ hez,hmk1,zdj _ _ Y5]
 have hly9:i50.ly=(c.v.codes.take (s+1)).foldl (fun m b=>lyF b m) (List.replicate c.v.subs.length false):=by rw [hso.ly_ hez,hly1,zdj _ _ Y5]
 have hcls9:∀ q,q < s+1→((ys.set s ⟨i50.cl,i50.A,i50.cap⟩).getD q default).xs=clsV (c.v.codes.getD q []):=fun q hq=>by rw [zbz];split;(rename_i hz;rw [← hz.1];exact hso.cl_ hez);(rename_i hz;exact hcls q Y5)
 have hyz9:∀ q,s+1≤q→(ys.set s ⟨i50.cl,i50.A,i50.cap⟩).getD q default=⟨[],none,0⟩:=fun q hq=>by rw [zbz,if_neg Y5];exact hyz q Y5
 have hya9:∀ y∈ys.set s ⟨i50.cl,i50.A,i50.cap⟩,y.xs.length≤1000000∧∀ n∈y.xs,n < c.codes.length:=fun y hy=>by rcases List.mem_or_eq_of_mem_set hy with q | q;exact hya y q;rw [q];exact ⟨hso.lc,fun n hn=>by have:=hso.cc hez n hn;omega⟩
 refine zz 4 ?_
 refine J.aq rfl rfl rfl Y10 <| zz 2 ?_
 refine X.aj [(2,⟨some g2,122,(c.cells)⟩),(4,⟨some g4,125,zc7⟩),(30,⟨some g30,4,rowT i50.mm⟩),(34,⟨some g34,4,rowT i50.ly⟩),(38,⟨some g38,123,rowIs (ys.set s ⟨i50.cl,i50.A,i50.cap⟩)⟩),(40,⟨some g40,181,judC c kind g30 g34 g38⟩)] Y0 rfl fun Wx14 hWWx14=>?_
 have kpWx14:=(zaa (I:=[some g2,some g4,some g40,some g30,some g34,some g38]) (B0:=B) (l1:=[(2,⟨some g2,122,(c.cells)⟩),(4,⟨some g4,125,zc7⟩),(30,⟨some g30,4,rowT i50.mm⟩),(34,⟨some g34,4,rowT i50.ly⟩),(38,⟨some g38,123,rowIs (ys.set s ⟨i50.cl,i50.A,i50.cap⟩)⟩),(40,⟨some g40,181,judC c kind g30 g34 g38⟩)]) hVW50 hn Y189 hWWx14 Y4 Y0 rfl)
 have hc:=hc.keep kpWx14
 have hys:=hys.keep kpWx14
 have hcl:=hcl.keep kpWx14
 have hVWx14:=hWWx14.s0
 exact X.ae ⟨Wx14,(s+1),i50.mm,i50.ly,(ys.set s ⟨i50.cl,i50.A,i50.cap⟩)⟩ ⟨by dsimp only;omega,hVWx14,hc,hys.set hcl,hmk9,hly9,hso.lm.trans hml,hso.ll.trans hll,by dsimp only;rw [List.length_set];exact hyl,zao hsc hsk,hcls9,hyz9,hya9⟩ Y14 Y0 Y0
 obtain rfl:s=c.codes.length:=by omega
 have hmv:mk=mksV c.v:=by rw [hmk1,← hv3,List.take_length];rfl
 have hlv:ly=lysV c.v:=by rw [hly1,← hv3,List.take_length];rfl
 have hfu:=zor (c:=c.v) (ys:=ys) Y5 (by rw [hv3];exact hcls)
 refine zz 9 ?_
 refine J.aL zqZ rfl rfl (ι:=Int×Bool) (fun q=>q.2=false↔∀ s,s < c.codes.length→Reached (fun i=>(ys.getD i default).xs) s) (fun q=>.tuple #[.int .i64 q.1,.bool q.2]) [] (fun _=>[]) (fun w hw=>apart w g40 g30 g34 g38 c kind ys (hw.blkCs (k:=40) rfl) (hw.blkCs (k:=38) rfl) (fun y hy=>(Fit.keep (hys y hy) (zaa (I:=[some g2,some g4,some g30,some g34,some g38,some g40]) (B0:=B) (l1:=[(2,⟨some g2,122,(c.cells)⟩),(4,⟨some g4,125,zc7⟩),(40,⟨some g40,181,(judC c kind g30 g34 g38)⟩),(30,⟨some g30,4,rowT mk⟩),(34,⟨some g34,4,rowT ly⟩),(38,⟨some g38,123,rowIs ys⟩)]) hV hn Y189 hw Y4 Y0 rfl)).cs) hyl hfc0 Y5 hya) Y182 (fun _ _ _ _=>rfl) fun q62 hq62=>?_
 refine zz 10 ?_
 refine J.as 65 (.bool (decide (q62.2=true))) rfl Y178 <| zz 2 ?_
 refine T.aa rfl (fun h15=>?_) (fun h15=>?_)
 have hq7:¬ q62.2=false:=by rw [h15];decide
 refine zz 3 ?_
 refine J.ao rfl rfl (.agg (RjR.mk 87 [] q62.1 0 none 0).cells.toArray) Y191 <| J.ae 4 rfl rfl rfl rfl ((RjR.mk 87 [] q62.1 0 none 0).cells) rfl zbq (Nat.le_of_ble_eq_true rfl) Y150 (Nat.zero_lt_succ _) trivial ((RjR.mk 87 [] q62.1 0 none 0).cells) rfl <| zz 4 ?_
 exact X.aa rfl (RV.agg 4 rfl rfl zaL ((RjR.mk 87 [] q62.1 0 none 0).cells) Y22 Y22 rfl) (fun w' hw'=>⟨(RjR.mk 87 [] q62.1 0 none 0),⟨⟨fun q=>absurd q (show (87:Int)≠0 by decide),fun q=>absurd (hq62.2 (by rw [hfu,← hv3];exact q.fine.2.2.2)) hq7⟩,zfI _ _ _⟩,rfl,hw'.s0⟩)
 have hre:=hq62.1 (by simpa using h15)
 refine zz 3 ?_
 refine T.al [(2,⟨some g2,122,(c.cells)⟩),(4,⟨some g4,125,zc7⟩)] Y0 rfl fun Wz16 hWWz16=>?_
 have hp:=zdo (n:=n) (B:=B++ids [(2,⟨some g2,122,(c.cells)⟩),(4,⟨some g4,125,zc7⟩)]) hWWz16 (j:=40) rfl (zdr (fun g h=>⟨hB g h,fun q=>by cases q⟩) Y0 rfl rfl)
 have hmk:=zdo (n:=n) (B:=B++ids [(2,⟨some g2,122,(c.cells)⟩),(4,⟨some g4,125,zc7⟩)]) hWWz16 (j:=30) rfl (zdr (fun g h=>⟨hB g h,fun q=>by cases q⟩) Y0 rfl rfl)
 have hly:=zdo (n:=n) (B:=B++ids [(2,⟨some g2,122,(c.cells)⟩),(4,⟨some g4,125,zc7⟩)]) hWWz16 (j:=34) rfl (zdr (fun g h=>⟨hB g h,fun q=>by cases q⟩) Y0 rfl rfl)
 have kpWz16:=(zaa (I:=[some g2,some g4,some g30,some g34,some g38,some g40]) (B0:=B) (l1:=[(2,⟨some g2,122,(c.cells)⟩),(4,⟨some g4,125,zc7⟩)]) hV hn Y189 hWWz16 Y4 Y0 rfl)
 have hc:=hc.keep kpWz16
 have hys:=hys.keep kpWz16
 have hVWz16:=hWWz16.s0
 refine zz 2 ?_
 refine J.aw zqY rfl rfl (fun (i:RjR) W=>(i.code=0↔NestOk c.v mk ly)∧i.Okm (1000000+NN) W n (B++ids [(2,⟨some g2,122,(c.cells)⟩),(4,⟨some g4,125,zc7⟩)])) (fun i=>.agg i.cells.toArray) [(2,⟨some g2,122,(c.cells)⟩),(4,⟨some g4,125,zc7⟩)] Y0 rfl (fun _ _=>Sub.nil _) (fun w hw=>(nested NN hNN IH w n (Nat.le_trans hn hw.size) (B++ids [(2,⟨some g2,122,(c.cells)⟩),(4,⟨some g4,125,zc7⟩)]) (zaf (l1:=[(2,⟨some g2,122,(c.cells)⟩),(4,⟨some g4,125,zc7⟩)]) hB hw Y0 rfl) g40 g30 g34 g38 c kind mk ly (hp.keep (zaa (I:=[some g2,some g4]) (B0:=B) (l1:=[(2,⟨some g2,122,(c.cells)⟩),(4,⟨some g4,125,zc7⟩)]) hVWz16 hn Y189 hw Y4 Y0 rfl)) (hmk.keep (zaa (I:=[some g2,some g4]) (B0:=B) (l1:=[(2,⟨some g2,122,(c.cells)⟩),(4,⟨some g4,125,zc7⟩)]) hVWz16 hn Y189 hw Y4 Y0 rfl)) (hly.keep (zaa (I:=[some g2,some g4]) (B0:=B) (l1:=[(2,⟨some g2,122,(c.cells)⟩),(4,⟨some g4,125,zc7⟩)]) hVWz16 hn Y189 hw Y4 Y0 rfl)) (hc.keep (zaa (I:=[some g2,some g4]) (B0:=B) (l1:=[(2,⟨some g2,122,(c.cells)⟩),(4,⟨some g4,125,zc7⟩)]) hVWz16 hn Y189 hw Y4 Y0 rfl)) Y5 hml hll hN2).mono fun e w2 ⟨q,h1,h2,h3,h4⟩=>⟨q,⟨h1,h2⟩,h3,h4⟩) fun i69 W69 hP69 hW69=>?_
 obtain ⟨hn1,hr69⟩:=hP69
 have kpW69:=(zaa (I:=[some g2,some g4]) (B0:=B) (l1:=[(2,⟨some g2,122,(c.cells)⟩),(4,⟨some g4,125,zc7⟩)]) hVWz16 hn Y189 hW69 Y4 Y0 rfl)
 have hc:=hc.keep kpW69
 have hys:=hys.keep kpW69
 have hp:=hp.keep kpW69
 have hmk:=hmk.keep kpW69
 have hly:=hly.keep kpW69
 have hVW69:=hW69.s0
 refine J.ae 4 rfl rfl rfl rfl (i69.cells) rfl zbq (Nat.le_of_ble_eq_true rfl) Y150 (Nat.zero_lt_succ _) trivial (i69.cells) rfl <| zz 3 ?_
 exact X.aa rfl (RV.agg 4 rfl rfl zaL (i69.cells) Y22 Y22 rfl) (fun w' hw'=>⟨i69,⟨by rw [hn1,hmv,hlv];exact ziE hk Y195 (by rw [hv3];exact hsc) (by rw [hv3,← hfu];exact hre),RjR.Okm.keep hr69 (((zaa (I:=[some g2,some g4]) (B0:=B) (l1:=[(2,⟨some g2,122,(c.cells)⟩),(4,⟨some g4,125,(i69.cells)⟩)]) hVW69 hn Y189 hw' Y4 Y0 rfl)).le (fun o h=>List.mem_append_left _ h))⟩,rfl,hw'.s0⟩)
end Go.Proofs.YtlllcafedekojaaGreatDoor.Uj
