/-
  Texts that the statement stands on, one behind the other: plain lemmas and walks of functions.
  No condition.
-/
import Derived.Test.YtlllcafedekojaaGreatDoorRows
import Derived.Test.YtlllcafedekojaaGreatDoorChecked
import Derived.ProofKit
import Derived.LaidMore
import Derived.OpenShut
import Derived.Stop.Joined
import Derived.Below
import Derived.Test.YtlllcafedekojaaGreatDoorMba
import Derived.Test.YtlllcafedekojaaGreatDoorMbb
import Derived.Test.YtlllcafedekojaaGreatDoorMbc
import Derived.Test.YtlllcafedekojaaGreatDoorMbd
import Derived.Test.YtlllcafedekojaaGreatDoorMbe
set_option linter.unusedVariables false
set_option maxRecDepth 20000
set_option maxHeartbeats 16000000
namespace Go.Fw
open Go Go.ChangeShapes Go.WideShapes Go.ChangeAt Go.RowKit
section
variable {P:Program} {W:World} {H:Type} {enc:TypeId×Value→H} {base:Nat} {sp:Nat→Bool} {held:Bool}
theorem ziF {X:Type} [Inhabited X] {cl:X→List Value} {m:Nat} (hcl:∀ x,(cl x).length=m) (In:X→Prop) {t e:TypeId} (ht:P.underlying t=some (.slice e)) (hm:P.cellsOf e=m) (hm0:0 < m)
    (E:∀ {fuel:Nat} {cs:List Value} {x:DataW H×List MemPlace},DataW.trod enc P W base sp held fuel e cs=some x→Light P e x.1→∃ o,In o∧cs=cl o)
    {fuel:Nat} {cs:List Value} {x:DataW H×List MemPlace} (h:DataW.trod enc P W base sp held fuel t cs=some x) (hL:Light P t x.1):
    ∃ (A:Option Addr) (c:Nat) (os:List X),cs=[.slice A os.length c]∧Cs W A (os.flatMap cl)∧(∀ x∈os,In x)∧os.length≤c∧os.length*P.bytesOf e≤reachBytes:=by
  rcases DataW.trod_slice ht h with ⟨h0,_⟩ | ⟨a,len,cap,elems,rest,n,_,h0,hx,hb,hl,hcp,hlen,hel,_,_⟩
  · exact ⟨none,0,[],h0,Cs.nil _ _,fun i hi=>(by cases hi),Nat.zero_le _,by rw [List.length_nil,Nat.zero_mul];exact Nat.zero_le _⟩
  · rw [hm] at hel
    have hd:x.1=.slice (elems.map (·.1)) (rest.map (·.1)):=congrArg Prod.fst hx
    have each:∀ i,i < len→∃ o:X,In o∧∀ j,j < m→W.cell? (a.add (i*m+j))=(cl o)[j]?:=fun i hi=>by
      have h1:=hel i hi
      have hlt:i < elems.length:=by omega
      rw [List.getElem?_eq_getElem hlt] at h1
      cases hc2:W.cells? base (a.add (i*m)) m with
      | none=>rw [hc2] at h1;cases h1
      | some cs=>
        rw [hc2] at h1
        obtain ⟨o,e1,e2⟩:=E h1 (fun n hn=>hL n (by
          rw [hd]
          simp only [DataW.weights,ht]
          exact List.mem_cons_of_mem _ (List.mem_append_left _ (zhL (i:=i) (d:=elems[i].1) (by rw [List.getElem?_map,List.getElem?_eq_getElem hlt];rfl) n hn))))
        obtain ⟨_,e3⟩:=ziq hc2
        refine ⟨o,e1,fun j hj=>?_⟩
        rw [← Addr.add_add,e3 j hj,e2]
    let f:Nat→X:=fun i=>if h:i < len then (each i h).choose else default
    have hf1:∀ i,i < len→In (f i)∧∀ j,j < m→W.cell? (a.add (i*m+j))=(cl (f i))[j]?:=fun i hi=>by
      have:=(each i hi).choose_spec
      simp only [f,dif_pos hi]
      exact this
    have hget:∀ i,i < len→((List.range len).map f).getD i default=f i:=fun i hi=>by simp [List.getD,hi]
    refine ⟨some a,cap,(List.range len).map f,by rw [h0,List.length_map,List.length_range],fun i x hx=>⟨a,rfl,?_⟩,fun y hy=>?_,by rw [List.length_map,List.length_range];exact hl,?_⟩
    · have hi:i < len*m:=by
        have:=(List.getElem?_eq_some_iff.1 hx).1
        rw [zaF hcl] at this
        simpa using this
      have hq:i / m < len:=Nat.div_lt_of_lt_mul (by rwa [Nat.mul_comm] at hi)
      have hr:=Nat.mod_lt i hm0
      have h2:=(hf1 (i / m) hq).2 (i%m) hr
      have h3:=zcC hcl ((List.range len).map f) (i / m) (i%m) (by simpa using hq) hr
      rw [hget _ hq] at h3
      have e:i / m*m+i%m=i:=by rw [Nat.mul_comm];exact Nat.div_add_mod i m
      rw [e] at h2 h3
      rw [h2,← h3,hx]
    · simp only [List.mem_map,List.mem_range] at hy
      obtain ⟨i,hi,rfl⟩:=hy
      exact (hf1 i hi).1
    · have h6:=hL ((elems.length+rest.length)*P.bytesOf e) (by rw [hd];simp [DataW.weights,ht])
      have h7:=Nat.mul_le_mul_right (P.bytesOf e) (Nat.le_add_right elems.length rest.length)
      rw [List.length_map,List.length_range]
      have h8:elems.length=len:=by omega
      rw [h8] at h7 h6
      exact Nat.le_trans h7 h6
theorem zhg {t:TypeId} {l:List (TypeId×Nat)} {m:Nat} (str:(match P.underlying t with | some (.struct fs)=>fs.toList.map (fun f=>(f.type,f.offset)) | _=>[])=l) (hne:l≠[]) (size:P.cellsOf t=m) {fuel:Nat} {cs:List Value} {x:DataW H×List MemPlace} (h:DataW.trod enc P W base sp held fuel t cs=some x) (hL:Light P t x.1):
    cs.length=m∧∃ q,∀ (i:Nat) (ft off:Nat),l[i]?=some (ft,off)→∃ y,DataW.trod enc P W base sp held q ft ((cs.drop off).take (P.cellsOf ft))=some y∧Light P ft y.1:=by
  cases hu:P.underlying t with
  | none=>rw [hu] at str;exact absurd str.symm hne
  | some dd=>
    cases dd with
    | struct fs=>
      rw [hu] at str
      simp only at str
      obtain ⟨xs,m,_,hx,hl,hxl,hf⟩:=DataW.trod_struct hu h
      rw [size] at hl
      refine ⟨hl,m,fun i ft off hi=>?_⟩
      rw [← str,List.getElem?_map,Option.map_eq_some_iff] at hi
      obtain ⟨f,h1,h2⟩:=hi
      have h3:fs[i]?=some f:=by rw [← Array.getElem?_toList];exact h1
      have h4:=hf i f h3
      simp only [Prod.mk.injEq] at h2
      rw [h2.1,h2.2] at h4
      have hlt:i < xs.length:=by rw [hxl];exact (Array.getElem?_eq_some_iff.1 h3).1
      rw [List.getElem?_eq_getElem hlt] at h4
      refine ⟨_,h4,fun n hn=>hL n ?_⟩
      rw [hx]
      simp only [DataW.weights,hu]
      exact zet (i:=i) (t:=ft) (d:=xs[i].1) (by rw [List.getElem?_map,h1,← h2.1];rfl) (by rw [List.getElem?_map,List.getElem?_eq_getElem hlt];rfl) n hn
    | _=>rw [hu] at str;exact absurd str.symm hne
theorem zjq (cs:List Value) (o k:Nat):cs.drop o=(cs.drop o).take k++cs.drop (o+k):=by
  have:=(List.take_append_drop k (cs.drop o)).symm
  rwa [List.drop_drop] at this
structure SloT (P:Program) (t tw tx:TypeId):Prop where
  str:(match P.underlying t with | some (.struct fs)=>fs.toList.map (fun f=>(f.type,f.offset)) | _=>[])=[(tw,0),(tw,4)]
  size:P.cellsOf t=8
  big:64≤P.bytesOf t
  word:WordT P tw tx
theorem zmV {t tw tx:TypeId} (T:SloT P t tw tx) {fuel:Nat} {cs:List Value} {x:DataW H×List MemPlace} (h:DataW.trod enc P W base sp held fuel t cs=some x) (hL:Light P t x.1):∃ s:Sl,True∧cs=s.cells:=by
  obtain ⟨hl,q,get⟩:=zhg T.str (by simp) T.size h hL
  obtain ⟨y0,h0,_⟩:=get 0 tw 0 rfl
  obtain ⟨y1,h1,_⟩:=get 1 tw 4 rfl
  rw [T.word.four] at h0 h1
  obtain ⟨u,_,e0⟩:=zcE T.word h0
  obtain ⟨v,_,e1⟩:=zcE T.word h1
  refine ⟨⟨u,v⟩,trivial,?_⟩
  show cs=wc u++wc v
  have hend:cs.drop 8=[]:=List.drop_eq_nil_of_le (by omega)
  have j4:=zjq cs 4 4
  rw [hend,List.append_nil] at j4
  rw [← e0,← e1,List.drop_zero,← j4,List.take_append_drop]
structure AcT (P:Program) (t ta tb tn tw tx tc ts te:TypeId):Prop where
  str:(match P.underlying t with | some (.struct fs)=>fs.toList.map (fun f=>(f.type,f.offset)) | _=>[])=[(ta,0),(tn,20),(tw,21),(tc,25),(ts,26)]
  size:P.cellsOf t=27
  big:112≤P.bytesOf t
  arr:P.underlying ta=some (.array 20 tb)
  arr20:P.cellsOf ta=20
  byte:P.underlying tb=some (.int .u8)
  byte1:P.cellsOf tb=1
  byteB:P.bytesOf tb=1
  int:P.underlying tn=some (.int .u64)
  int1:P.cellsOf tn=1
  word:WordT P tw tx
  sl:P.underlying tc=some (.slice tb)
  sl1:P.cellsOf tc=1
  ss:P.underlying ts=some (.slice te)
  ss1:P.cellsOf ts=1
  slot:SloT P te tw tx
theorem zrA {t ta tb tn tw tx tc ts te:TypeId} (T:AcT P t ta tb tn tw tx tc ts te) {fuel:Nat} {cs:List Value} {x:DataW H×List MemPlace} (h:DataW.trod enc P W base sp held fuel t cs=some x) (hL:Light P t x.1):∃ a:Ac,a.In W∧cs=a.cells:=by
  obtain ⟨hl,q,get⟩:=zhg T.str (by simp) T.size h hL
  obtain ⟨y0,h0,_⟩:=get 0 ta 0 rfl
  obtain ⟨y1,h1,_⟩:=get 1 tn 20 rfl
  obtain ⟨y2,h2,_⟩:=get 2 tw 21 rfl
  obtain ⟨y3,h3,l3⟩:=get 3 tc 25 rfl
  obtain ⟨y4,h4,l4⟩:=get 4 ts 26 rfl
  rw [T.arr20] at h0
  rw [T.int1] at h1
  rw [T.word.four] at h2
  rw [T.sl1] at h3
  rw [T.ss1] at h4
  obtain ⟨n,_,e0⟩:=ziG T.arr T.arr20 T.byte T.byte1 h0
  obtain ⟨k,e1,_,w1⟩:=DataW.trod_int T.int h1
  obtain ⟨u,_,e2⟩:=zcE T.word h2
  obtain ⟨A3,c3,b3,e3,p3,q3,r3⟩:=zeh T.sl T.byte T.byte1 T.byteB h3 l3
  obtain ⟨A4,c4,s4,e4,p4,_,m4,r4⟩:=ziF Sl.cells_length (fun _=>True) T.ss T.slot.size (by decide) (fun h hL=>zmV T.slot h hL) h4 l4
  have w1:=ziy w1
  have r4:=Nat.le_trans (Nat.mul_le_mul_left _ T.slot.big) r4
  refine ⟨⟨n,k.toNat,u,b3,s4,A3,c3,A4,c4⟩,⟨by show k.toNat < _;omega,q3,r3,by simp only [reachBytes] at r4;show s4.length≤_;omega,m4,p3,p4⟩,?_⟩
  show cs=ac n++([.int .u64 ((k.toNat:Nat):Int)]++(wc u++([.slice A3 b3.length c3]++[.slice A4 s4.length c4])))
  have hend:cs.drop 27=[]:=List.drop_eq_nil_of_le (by omega)
  have j6:=zjq cs 26 1
  rw [hend,List.append_nil] at j6
  rw [Int.toNat_of_nonneg w1.1,← e0,← e1,← e2,← e3,← e4,List.drop_zero,← j6,← zjq cs 25 1,← zjq cs 21 4,← zjq cs 20 1,List.take_append_drop]
theorem znA {r:Reach} {b0:Nat} {t e ta tb tn tw tx tc ts te:TypeId} (ht:P.underlying t=some (.slice e)) (h1:P.cellsOf t=1) (T:AcT P e ta tb tn tw tx tc ts te) {v:Value} {d:DataW H} {ps:List MemPlace} (hv:Value.okWide P W r b0 t v)
    (h:DataW.Trod enc P W base sp held t v d ps) (hL:Light P t d):∃ (A:Option Addr) (c:Nat) (os:List Ac),v=.slice A os.length c∧Cs W A (rowA os)∧(∀ x∈os,x.In W)∧os.length≤c∧os.length≤2000000000000:=by
  obtain ⟨A,len,cap,rfl⟩:=okWide_slice ht hv
  obtain ⟨fuel,hf⟩:=h
  obtain ⟨A4,c4,s4,e4,p4,q4,m4,r4⟩:=ziF Ac.cells_length (fun a=>a.In W) ht T.size (by decide) (fun h hL=>zrA T h hL) hf hL
  have r4:=Nat.le_trans (Nat.mul_le_mul_left _ T.big) r4
  simp only [Value.cells,List.cons.injEq,and_true] at e4
  exact ⟨A4,c4,s4,e4,p4,q4,m4,by simp only [reachBytes] at r4;omega⟩
end
end Go.Fw
namespace Go.Proofs.YtlllcafedekojaaGreatDoor.Ow
open Go Go.ChangeShapes Go.WideShapes Go.ChangeAt Go.RowKit
theorem own:ownKnob Tryz.prog.godebug=none:=by kernel_rfl
theorem laidOut:laidOutB Tryz.prog=true:=by kernel_rfl
abbrev laidL:=Rows.diffTurnsRow.laid
set_option maxRecDepth 100000 in
theorem door_met (os:Os) (args:Array Value):laidMetH Tryz.prog laidL ((World.doorLaid Tryz.prog 400 os).forCall (fun _ _=>0) ⟨#[],args,[]⟩).memory:=
  laidMetH_of_parts3 (fuel:=8) (laidMet_of_run' 8 (by kernel_rfl) (by kernel_rfl)) (by kernel_rfl) (by kernel_rfl)
end Go.Proofs.YtlllcafedekojaaGreatDoor.Ow
