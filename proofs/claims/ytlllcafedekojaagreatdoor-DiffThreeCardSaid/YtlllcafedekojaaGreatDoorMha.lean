/-
  Texts that the statement stands on, one behind the other: plain lemmas and walks of functions.
  No condition.
-/
import Derived.Deep.Quiet
import Derived.Below
import Derived.Laws.Entries
import Derived.Tactics
import Derived.OrdersIn
import Derived.TacticsIn
import Derived.Laws.CopyRow
import Derived.Laws.AppendOwn
import Derived.Laws.NewBlocks
import Derived.KernelRfl
import Derived.Laws.StructEq
import Derived.Laws.Externs
import Derived.Laws.Append
import Derived.Laws.MakeOwn
import Derived.IntWalk
import Derived.Laws.BytesString
import Derived.Laws.IdiomCopy
import Derived.Laws.Pointers
import Derived.Laws.MathBits
import Derived.Laws.BitsAllLaws
import Derived.Laws.Bits128
import Derived.Scope
import Derived.Laws.Concat
import Derived.Lib.BytesEntry
import Derived.Laws.Cover3
import Derived.DeepKeys3
import Derived.ChangeSlices
import Derived.WideShapes
import Derived.ProofKit
import Derived.OpenShut
import Derived.Defers
import Derived.Test.YtlllcafedekojaaGreatDoorChecked
set_option linter.unusedVariables false
set_option maxRecDepth 20000
set_option maxHeartbeats 16000000
namespace Go.Fw
open Go
inductive K where
  | g | q | l | s | c | a (h:Nat)
def okPair:K→K→Bool
  | .g,_ | .s,_ | .c,_=>true
  | .q,.l=>false
  | .q,_=>true
  | .a _,.g | .a _,.s | .a _,.a _=>true
  | .a _,_=>false
  | .l,_=>false
def endsIn (pn:List PanicEntry→World→Prop) (R:Value→World→Prop):Ending→World→Prop
  | .returned v,w=>R v w
  | .panicked ch,w=>pn ch w
  | .outgrown,_=>False
theorem zbL {pn:List PanicEntry→World→Prop} {R R':Value→World→Prop} (h:∀ v w,R v w→R' v w) {e:Ending} {w:World} (he:endsIn pn R e w):endsIn pn R' e w:=by
  cases e with
  | returned v=>exact h _ _ he
  | panicked ch=>exact he
  | outgrown=>exact he
theorem zcS {pn:List PanicEntry→World→Prop} {R:Value→World→Prop} {e:Ending} {w:World} (h:∃ v,e=.returned v∧R v w):endsIn pn R e w:=by
  obtain ⟨v,rfl,h⟩:=h;exact h
def loudUpon (P:Program) (pn:List PanicEntry→World→Prop) (R:Value→World→Prop):Result Next→Prop
  | .ok (.value v) w'=>R v w'
  | .ok .skip w'=>R undef w'
  | .ok (.enter f args) w'=>Calls P f args w' (endsIn pn R)
  | .ok (.round l f tmps assign body) w'=>RoundIn Fence.wide 0 P l f tmps assign body w' (endsIn pn R)
  | .halt (.panic v) w'=>pn [{ v,recovered:=false }] w'
  | _=>False
theorem zeX {P:Program} {pn:List PanicEntry→World→Prop} {R R':Value→World→Prop} (h:∀ v w,R v w→R' v w) {r:Result Next} (hr:loudUpon P pn R r):loudUpon P pn R' r:=by
  unfold loudUpon at *
  split at hr
  · exact h _ _ hr
  · exact h _ _ hr
  · exact hr.mono fun e w'' he=>zbL h he
  · exact hr.mono fun e w'' he=>zbL h he
  · exact hr
  · exact hr.elim
def WF (ro:Option Nat):Fence:={ fn:=fun _=>True,depth:=none,alive:=false,round:=ro }
theorem zga {P:Program} {ro:Option Nat} {n:Nat} {f:FuncId} {args:Array Value} {w:World} {R:Ending→World→Prop} (h:Calls P f args w R):CallsIn (WF ro) n P f args w R:=(callsIn_wide (n:=n)).2 h
theorem zkX {P:Program} {ro:Option Nat} {n l:Nat} {f:FuncId} {tmps:Array Value} {assign body:Code} {w:World} {R:Ending→World→Prop} (h:RoundIn Fence.wide n P l f tmps assign body w R):RoundIn (WF ro) n P l f tmps assign body w R:=h
section
variable {P:Program} {ops:Array Oper} {md:Region.Mode}
theorem zld {ro:Option Nat} {o:Oper} {a:Act} {w:World} {pn:List PanicEntry→World→Prop} {R:Value→World→Prop} {K':Act→World→Prop} {Q:Exit→Act→World→Prop} (hd:∀ ρ,o.semAt ro ρ=execOp ρ o)
    (h:loudUpon P pn R ((execOp a.eval o).run P w)) (hk:∀ v w',R v w'→K' (a.put o.dst v) w') (hp:∀ ch w',pn ch w'→Q (.panic ch) a w'):o.wpIn (WF ro) 0 P a w K' Q:=by
  refine ⟨fun _ _=>trivial,?_⟩
  show o.uponIn (WF ro) 0 P a K' Q ((o.semAt ro a.eval).run P w)
  rw [hd]
  generalize (execOp a.eval o).run P w=r at *
  cases r with
  | ok n w'=>
    cases n<;>simp only [loudUpon] at h<;>simp only [Oper.uponIn]
    case value u=>exact hk _ _ h
    case skip=>exact hk _ _ h
    case enter f args=>exact ⟨fun q=>by simp [WF] at q,(zga h).mono fun e w'' he=>by
      cases e with
      | returned v=>exact hk _ _ he
      | panicked ch=>exact hp _ _ he
      | outgrown=>exact he.elim⟩
    case round l f tmps assign body=>exact ⟨fun q=>by simp [WF] at q,(zkX h).mono fun e w'' he=>by
      cases e with
      | returned v=>exact hk _ _ he
      | panicked ch=>exact hp _ _ he
      | outgrown=>exact he.elim⟩
  | halt x w'=>
    cases x<;>simp only [loudUpon] at h<;>simp only [Oper.uponIn]
    case panic v=>exact hp _ _ h
inductive Anc (md:Region.Mode) (ops:Array Oper) (i:Nat):Nat→Prop
  | edge {j:Nat} {o:Oper} {e:Edge}:ops[j]?=some o→e∈o.after.toList→Region.binds md e=true→e.on=i→Anc md ops i j
  | step {j:Nat} {o:Oper} {e:Edge}:ops[j]?=some o→e∈o.after.toList→Region.binds md e=true→Anc md ops i e.on→Anc md ops i j
def Down (md:Region.Mode) (ops:Array Oper) (listed:Array Bool):Prop:=
  ∀ k o,listed.getD k false=true→ops[k]?=some o→∀ e∈o.after.toList,Region.binds md e=true→listed.getD e.on false=true
theorem Anc.listed {i j:Nat} {listed:Array Bool} (h:Anc md ops i j) (hd:Down md ops listed) (hj:∀ o,ops[j]?=some o→∀ e∈o.after.toList,Region.binds md e=true→listed.getD e.on false=true):listed.getD i false=true:=by
  induction h with
  | edge ho he hb hon=>rw [← hon];exact hj _ ho _ he hb
  | step ho he hb _ ih=>exact ih fun o' ho' e' he' hb'=>hd _ _ (hj _ ho _ he hb) ho' _ he' hb'
theorem Down.set {j:Nat} {listed:Array Bool} (hd:Down md ops listed) (hj:j∈Region.ready md ops listed):Down md ops (listed.setIfInBounds j true):=fun k o hk ho e he hb=>by
  by_cases hjk:j=k
  · subst hjk
    obtain ⟨_,o',ho',hall⟩:=mem_ready.1 hj
    rw [ho] at ho';cases ho'
    exact getD_set_true (hall e (by simpa using he) hb)
  · rw [getD_set_ne false hjk] at hk
    exact getD_set_true (hd k o hk ho e he hb)
def tbl:List (Nat×Nat)→Nat→Nat
  | [],_=>0
  | (k,m)::t,i=>match Nat.beq k i with | true=>m | false=>tbl t i
def maskOf (md:Region.Mode) (t:List (Nat×Nat)):List Edge→Nat
  | []=>0
  | e::es=>match Region.binds md e with
    | true=>(2^e.on ||| tbl t e.on) ||| maskOf md t es
    | false=>maskOf md t es
def ancs (md:Region.Mode) (ops:Array Oper):List Nat→List (Nat×Nat)→List (Nat×Nat)
  | [],t=>t
  | i::π,t=>ancs md ops π ((i,match ops[i]? with | some o=>maskOf md t o.after.toList | none=>0)::t)
def TblOk (md:Region.Mode) (ops:Array Oper) (t:List (Nat×Nat)):Prop:=∀ i j,(tbl t j).testBit i=true→Anc md ops i j
theorem zeA {t:List (Nat×Nat)} (ht:TblOk md ops t) {j:Nat} {o:Oper} (ho:ops[j]?=some o):∀ (es:List Edge),(∀ e∈es,e∈o.after.toList)→∀ i,(maskOf md t es).testBit i=true→Anc md ops i j
  | [],_,i,h=>by simp [maskOf] at h
  | e::es,hes,i,h=>by
    simp only [maskOf] at h
    split at h
    · rename_i hb
      simp only [Nat.testBit_or,Bool.or_eq_true] at h
      rcases h with (h | h) | h
      · rw [Nat.testBit_two_pow] at h
        exact .edge ho (hes e List.mem_cons_self) hb (of_decide_eq_true h)
      · exact .step ho (hes e List.mem_cons_self) hb (ht _ _ h)
      · exact zeA ht ho es (fun e he=>hes e (List.mem_cons_of_mem _ he)) i h
    · exact zeA ht ho es (fun e he=>hes e (List.mem_cons_of_mem _ he)) i h
theorem zkC:∀ (π:List Nat) (t:List (Nat×Nat)),TblOk md ops t→TblOk md ops (ancs md ops π t)
  | [],_,ht=>ht
  | i::π,t,ht=>zkC π _ fun a j h=>by
    simp only [tbl] at h
    split at h
    · rename_i hb
      have hij:=Nat.eq_of_beq_eq_true hb
      subst hij
      cases ho:ops[i]? with
      | none=>simp [ho] at h
      | some o=>simp only [ho] at h;exact zeA ht ho _ (fun _ h=>h) a h
    · exact ht _ _ h
theorem ziI:TblOk md ops []:=fun i j h=>by simp [tbl] at h
def edgeB (md:Region.Mode) (ops:Array Oper) (i j:Nat):Bool:=match ops[i]? with
  | some o=>o.after.toList.any fun e=>Region.binds md e && Nat.beq e.on j
  | none=>false
theorem zlB {i j:Nat} (h:edgeB md ops i j=false) {o:Oper} (ho:ops[i]?=some o) {e:Edge} (he:e∈o.after.toList) (hb:Region.binds md e=true):e.on≠j:=by
  rintro rfl
  simp only [edgeB,ho,List.any_eq_false] at h
  exact h e he (by simp [hb])
def pairB (md:Region.Mode) (ops:Array Oper) (t:List (Nat×Nat)) (x y:Nat×K):Bool:=
  !Nat.beq x.1 y.1 && !edgeB md ops x.1 y.1 && ((tbl t y.1).testBit x.1 || (okPair x.2 y.2 && (ops.getD x.1 default).apart ops (ops.getD y.1 default)))
structure PairR (md:Region.Mode) (ops:Array Oper) (x y:Nat×K):Prop where
  ne:x.1≠y.1
  free:edgeB md ops x.1 y.1=false
  ok:Anc md ops x.1 y.1∨(okPair x.2 y.2=true∧(ops.getD x.1 default).apart ops (ops.getD y.1 default)=true)
def pairsB (md:Region.Mode) (ops:Array Oper) (t:List (Nat×Nat)):List (Nat×K)→Bool
  | []=>true
  | x::π=>π.all (fun y=>pairB md ops t x y) && pairsB md ops t π
theorem zgw {t:List (Nat×Nat)} (ht:TblOk md ops t):∀ (π:List (Nat×K)),pairsB md ops t π=true→π.Pairwise (PairR md ops)
  | [],_=>.nil
  | x::π,h=>by
    simp only [pairsB,Bool.and_eq_true] at h
    refine .cons (fun y hy=>?_) (zgw ht π h.2)
    have:=List.all_eq_true.1 h.1 y hy
    simp only [pairB,Bool.and_eq_true,Bool.not_eq_true',Bool.or_eq_true] at this
    obtain ⟨⟨h1,h2⟩,h3⟩:=this
    refine ⟨fun he=>(by rw [he] at h1;simp at h1),h2,h3.imp (ht _ _) id⟩
def walkB (md:Region.Mode) (ops:Array Oper) (π:List (Nat×K)):Bool:=
  Region.noSelect ops && Nat.beq π.length ops.size && (List.range ops.size).all (fun j=>(π.map (·.1)).contains j) &&
  π.all (fun x=>Nat.blt x.1 ops.size && !edgeB md ops x.1 x.1) && ops.toList.all (fun o=>o.after.toList.all fun e=> !Region.binds md e || Nat.blt e.on ops.size) &&
  pairsB md ops (ancs md ops (π.map (·.1)) []) π
structure WalkR (md:Region.Mode) (ops:Array Oper) (π:List (Nat×K)):Prop where
  sel:∀ (j:Nat) (o:Oper) cs b,ops[j]?=some o→o.op≠.select cs b
  len:π.length=ops.size
  all:∀ j,j < ops.size→j∈π.map (·.1)
  lt:∀ x∈π,x.1 < ops.size∧edgeB md ops x.1 x.1=false
  on:∀ (j:Nat) (o:Oper),ops[j]?=some o→∀ e∈o.after.toList,Region.binds md e=true→e.on < ops.size
  pair:π.Pairwise (PairR md ops)
theorem zhm {π:List (Nat×K)} (h:walkB md ops π=true):WalkR md ops π:=by
  simp only [walkB,Bool.and_eq_true] at h
  obtain ⟨⟨⟨⟨⟨h1,h2⟩,h3⟩,h4⟩,h5⟩,h6⟩:=h
  refine ⟨Region.noSelect_spec h1,Nat.eq_of_beq_eq_true h2,fun j hj=>?_,fun x hx=>?_,fun j o ho e he hb=>?_,zgw (zkC _ _ ziI) _ h6⟩
  · have:=List.all_eq_true.1 h3 j (List.mem_range.2 hj)
    simpa using this
  · have:=List.all_eq_true.1 h4 x hx
    simp only [Bool.and_eq_true,Bool.not_eq_true'] at this
    exact ⟨by simpa [Nat.blt_eq] using this.1,this.2⟩
  · have hm:o∈ops.toList:=Array.mem_toList_iff.2 (Array.mem_of_getElem? ho)
    have:=List.all_eq_true.1 (List.all_eq_true.1 h5 o hm) e he
    simp only [hb,Bool.not_true,Bool.false_or] at this
    simpa [Nat.blt_eq] using this
end
end Go.Fw
namespace Go.Fw
open Go
def lk {α:Type}:List (Nat×α)→Nat→Option α
  | [],_=>none
  | (k,v)::r,n=>match Nat.beq k n with | true=>some v | false=>lk r n
theorem zae {α:Type} (k:Nat) (v:α) (r:List (Nat×α)) (n:Nat):lk ((k,v)::r) n=if k=n then some v else lk r n:=by
  simp only [lk]
  by_cases h:k=n
  · subst h;simp
  · have:Nat.beq k n=false:=by
      cases hb:Nat.beq k n with
      | true=>exact absurd (Nat.eq_of_beq_eq_true hb) h
      | false=>rfl
    simp [this,h]
theorem zax {α:Type} (l r:List (Nat×α)) (n:Nat):lk (l++r) n=(lk l n).or (lk r n):=by
  induction l with
  | nil=>simp [lk]
  | cons p l ih=>
    obtain ⟨k,v⟩:=p
    simp only [List.cons_append,zae,ih]
    split<;>simp
def Sub {α:Type} (l' l:List (Nat×α)):Prop:=∀ n v,lk l' n=some v→lk l n=some v
theorem Sub.nil {α:Type} (l:List (Nat×α)):Sub [] l:=fun n v h=>by simp [lk] at h
theorem Sub.cons {α:Type} {l' l:List (Nat×α)} {k:Nat} {v:α} (h:lk l k=some v) (hs:Sub l' l):Sub ((k,v)::l') l:=fun n u hn=>by
  rw [zae] at hn
  split at hn
  · rename_i hk;subst hk;simp at hn;subst hn;exact h
  · exact hs n u hn
theorem Sub.refl {α:Type} (l:List (Nat×α)):Sub l l:=fun _ _ h=>h
structure Nf where
  n:Nat
  D:List Deferred
  ro:Option Nat
  pn:List PanicEntry→World→Prop
abbrev Nf.of (n:Nat):Nf:=⟨n,[],none,fun _ _=>False⟩
instance (k:Nat):OfNat Nf k:=⟨Nf.of k⟩
structure Has (N:Nf) (σ:List (Nat×Value)) (a:Act):Prop where
  size:a.tmps.size=N.n
  defers:a.defers=N.D
  get:∀ n v,lk σ n=some v→a.tmps[n]?=some v
def ev (σ:List (Nat×Value)):Operand→Option Value
  | .tmp t=>lk σ t
  | .const v=>some v
  | .global g=>some (.pointer (some ⟨g,0,none⟩))
  | .func f=>some (.func (.func f) #[] #[])
def evs (σ:List (Nat×Value)):List Operand→Option (List Value)
  | []=>some []
  | x::xs=>match ev σ x with
    | some v=>match evs σ xs with
      | some vs=>some (v::vs)
      | none=>none
    | none=>none
variable {N:Nf} {σ:List (Nat×Value)} {a:Act}
theorem Has.eval (h:Has N σ a) {x:Operand} {v:Value} (hx:ev σ x=some v):a.eval x=v:=by
  cases x with
  | tmp t=>
    have:=h.get t v hx
    simp [Act.eval,this]
  | const u=>simpa [ev,Act.eval] using hx
  | global g=>simpa [ev,Act.eval] using hx
  | func f=>simpa [ev,Act.eval] using hx
theorem Has.evals (h:Has N σ a):∀ {xs:List Operand} {vs:List Value},evs σ xs=some vs→xs.map a.eval=vs
  | [],vs,hx=>by simpa [evs] using hx
  | x::xs,vs,hx=>by
    simp only [evs] at hx
    cases h1:ev σ x with
    | none=>simp [h1] at hx
    | some v=>
      cases h2:evs σ xs with
      | none=>simp [h1,h2] at hx
      | some us=>
        simp only [h1,h2,Option.some.injEq] at hx
        subst hx
        simp [h.eval h1,h.evals h2]
theorem Has.put (h:Has N σ a) {d:Nat} (hd:d < N.n) (v:Value):Has N ((d,v)::σ) (a.put (some d) v):=by
  refine ⟨by simpa [Act.put] using h.size,h.defers,fun n u hn=>?_⟩
  rw [zae] at hn
  have hlt:d < a.tmps.size:=by rw [h.size];exact hd
  simp only [Act.put]
  split at hn
  · rename_i hk;subst hk;simp at hn;subst hn;simp [hlt]
  · rename_i hk;rw [Array.getElem?_setIfInBounds_ne hk];exact h.get n u hn
theorem Has.sub (h:Has N σ a) {σ':List (Nat×Value)} (hs:Sub σ' σ):Has N σ' a:=⟨h.size,h.defers,fun n v hn=>h.get n v (hs n v hn)⟩
def putd (d:Option Nat) (v:Value) (σ:List (Nat×Value)):List (Nat×Value):=match d with | some k=>(k,v)::σ | none=>σ
def okd (N:Nf) (d:Option Nat):Prop:=match d with | some k=>Nat.blt k N.n=true | none=>True
theorem Has.putd (h:Has N σ a) {d:Option Nat} (hd:okd N d) (v:Value):Has N (putd d v σ) (a.put d v):=by
  cases d with
  | none=>exact h
  | some k=>exact h.put (by have:Nat.blt k N.n=true:=hd;simpa using this) v
inductive Tk where
  | ty (t:TypeId)
  | mp (g:Nat) (C:List MapEntry→Prop)
  | df (g:Nat)
instance (n:Nat):OfNat Tk n:=⟨.ty n⟩
instance:Coe Nat Tk:=⟨.ty⟩
structure Ent where
  id:Option Nat
  t:Tk
  cs:List Value
def MapAt (w:World) (g:Nat) (C:List MapEntry→Prop):Prop:=∃ es clk,w.heap[g]?=some (.map es clk)∧C es.toList∧(es.toList.map (·.born)).Nodup∧∀ e∈es.toList,e.born < clk
def Ent.At (w:World) (e:Ent):Prop:=
  match e.id with
  | none=>e.cs=[]∧match e.t with
    | .ty _=>True
    | .mp g r=>MapAt w g r
    | .df g=>w.heap[g]?=some (.deferred (some []))
  | some g=>∃ t,e.t=.ty t∧w.heap[g]?=some (.cells e.cs.toArray t (0,0))
theorem Ent.At.lt {w:World} {e:Ent} (h:e.At w) {g:Nat} (hg:e.id=some g):g < w.heap.size:=by
  simp only [Ent.At,hg] at h
  obtain ⟨t,_,h⟩:=h
  exact (Array.getElem?_eq_some_iff.1 h).1
theorem Ent.At.cells {w:World} {g:Nat} {t:TypeId} {cs:List Value} (h:Ent.At w ⟨some g,t,cs⟩):w.heap[g]?=some (.cells cs.toArray t (0,0)):=by
  obtain ⟨t',h1,h2⟩:=h
  cases h1;exact h2
theorem Ent.at_cells {w:World} {g:Nat} {t:TypeId} {cs:List Value} (h:w.heap[g]?=some (.cells cs.toArray t (0,0))):Ent.At w ⟨some g,t,cs⟩:=⟨t,rfl,h⟩
def oddO:Obj→Bool
  | .cells _ _ _=>false
  | _=>true
theorem Ent.At.ne_odd {w:World} {e:Ent} (h:e.At w) {g:Nat} (hg:e.id=some g) {o:Obj} (ho:oddO o=true) (hm:w.heap[g]?=some o):False:=by
  simp only [Ent.At,hg] at h
  obtain ⟨t,_,h⟩:=h
  rw [h] at hm;cases hm;cases ho
theorem Ent.At.same {w w':World} {e:Ent} (h:e.At w) (hk:∀ g,e.id=some g→w'.heap[g]?=w.heap[g]?) (hm:∀ (g:Nat) (o:Obj),oddO o=true→w.heap[g]?=some o→w'.heap[g]?=w.heap[g]?):e.At w':=by
  cases hid:e.id with
  | none=>
    simp only [Ent.At,hid] at *
    refine ⟨h.1,?_⟩
    have h2:=h.2
    cases ht:e.t with
    | ty t=>trivial
    | mp g r=>
      simp only [ht] at h2
      obtain ⟨es,clk,h3,h4⟩:=h2
      exact ⟨es,clk,by rw [hm g _ rfl h3,h3],h4⟩
    | df g=>
      simp only [ht] at h2
      exact (hm g _ rfl h2).trans h2
  | some g=>
    simp only [Ent.At,hid] at *
    rw [hk g rfl];exact h
structure WS (w0:World) (M:List Nat) (l:List (Nat×Ent)) (w:World):Prop where
  os:w.os=w0.os
  tape:w.tape=w0.tape
  output:w.output=w0.output
  size:w0.heap.size≤w.heap.size
  keep:∀ i,i < w0.heap.size→i∉M→w.heap[i]?=w0.heap[i]?
  live:∀ h e,lk l h=some e→e.At w
  apart:∀ h h' e e' g,lk l h=some e→lk l h'=some e'→h≠h'→e.id=some g→e'.id≠some g
  own:∀ h e g,lk l h=some e→e.id=some g→w0.heap.size≤g∨g∈M
variable {w0 w w':World} {M:List Nat} {l:List (Nat×Ent)}
theorem WS.refl (w:World) (M:List Nat):WS w M [] w:=
  ⟨rfl,rfl,rfl,Nat.le_refl _,fun _ _ _=>rfl,fun h e he=>by simp [lk] at he,fun h h' e e' g he=>by simp [lk] at he,fun h e g he=>by simp [lk] at he⟩
theorem WS.below (h:WS w0 [] l w):RowKit.Below w0.heap.size w0 w:=⟨h.os,h.tape,h.output,h.size,fun k hk=>h.keep k hk (by simp)⟩
theorem WS.drew (h:WS w0 M l w):WS w0 M l w.drew:=⟨h.os,h.tape,h.output,h.size,h.keep,h.live,h.apart,h.own⟩
theorem WS.sub (h:WS w0 M l w) {l':List (Nat×Ent)} (hs:Sub l' l):WS w0 M l' w:=
  ⟨h.os,h.tape,h.output,h.size,h.keep,fun k e he=>h.live k e (hs _ _ he),fun k k' e e' g he he'=>h.apart k k' e e' g (hs _ _ he) (hs _ _ he'),fun k e g he=>h.own k e g (hs _ _ he)⟩
theorem zau (w:World) (o:Obj) (i:Nat):(w.alloc o).heap[i]?=if i=w.heap.size then some o else w.heap[i]?:=by
  unfold World.alloc;exact Array.getElem?_push
theorem WS.alloc (h:WS w0 M l w) (k:Nat) (cs:List Value) (t:TypeId):WS w0 M ((k,⟨some w.heap.size,t,cs⟩)::l) (w.alloc (.cells cs.toArray t)):=by
  refine ⟨h.os,h.tape,h.output,by have:=h.size;simp;omega,fun i hi hM=>?_,fun j e he=>?_,fun j j' e e' g he he' hne hg=>?_,fun j e g he hg=>?_⟩
  · rw [zau,if_neg (by have:=h.size;omega)];exact h.keep i hi hM
  · rw [zae] at he
    split at he
    · simp at he;subst he;exact Ent.at_cells (by rw [zau,if_pos rfl])
    · refine (h.live j e he).same (fun g hg=>?_) (fun g o ho hm=>?_)
      · rw [zau,if_neg (by have:=(h.live j e he).lt hg;omega)]
      · rw [zau,if_neg (by have:=(Array.getElem?_eq_some_iff.1 hm).1;omega)]
  · rw [zae] at he he'
    split at he<;>split at he'
    · omega
    · simp at he;subst he;simp at hg;subst hg
      intro hg';have:=(h.live j' e' he').lt hg';omega
    · simp at he';subst he'
      intro hg';simp at hg';subst hg';have:=(h.live j e he).lt hg;omega
    · exact h.apart j j' e e' g he he' hne hg
  · rw [zae] at he
    split at he
    · simp at he;subst he;simp at hg;subst hg;exact .inl h.size
    · exact h.own j e g he hg
theorem WS.set (h:WS w0 M l w) {k g:Nat} {e:Ent} (he:lk l k=some e) (hg:e.id=some g) (cs':List Value):WS w0 M ((k,⟨e.id,e.t,cs'⟩)::l) (w.setRow g cs'.toArray):=by
  have hl:=h.live k e he
  have hlt:=hl.lt hg
  obtain ⟨t,het,hat⟩:∃ t,e.t=.ty t∧w.heap[g]?=some (.cells e.cs.toArray t (0,0)):=by simpa only [Ent.At,hg] using hl
  refine ⟨h.os,h.tape,h.output,by simpa using h.size,fun i hi hM=>?_,fun j e' he'=>?_,fun j j' e1 e2 g' h1 h2 hne hg'=>?_,fun j e' g' he' hg'=>?_⟩
  · rw [setRow_other _ _ _ _ (by
      rintro rfl
      rcases h.own k e _ he hg with h1 | h1
      · omega
      · exact hM h1)]
    exact h.keep i hi hM
  · rw [zae] at he'
    split at he'
    · simp at he';subst he'
      simp only [Ent.At,hg]
      exact ⟨t,het,setRow_heap _ _ _ _ _ _ hat⟩
    · rename_i hne
      refine (h.live j e' he').same (fun g' hg'=>?_) (fun g' o ho hm=>?_)
      · exact setRow_other _ _ _ _ (by rintro rfl;exact h.apart k j e e' _ he he' hne hg hg')
      · exact setRow_other _ _ _ _ (by rintro rfl;rw [hat] at hm;cases hm;cases ho)
  · rw [zae] at h1 h2
    split at h1<;>split at h2
    · omega
    · rename_i hk _;subst hk;simp at h1;subst h1;exact h.apart k j' e e2 g' he h2 hne hg'
    · rename_i _ hk;subst hk;simp at h2;subst h2;exact h.apart j k e1 e g' h1 he hne hg'
    · exact h.apart j j' e1 e2 g' h1 h2 hne hg'
  · rw [zae] at he'
    split at he'
    · simp at he';subst he';exact h.own k e g' he hg'
    · exact h.own j e' g' he' hg'
theorem WS.join (h:WS w0 M l w) {M':List Nat} {l2:List (Nat×Ent)} (h2:WS w M' l2 w')
    (hM:∀ g∈M',∃ k e e2,lk l k=some e∧e.id=some g∧lk l2 k=some e2):WS w0 M (l2++l) w':=by
  have key:∀ j e g,lk l j=some e→lk l2 j=none→e.id=some g→g∉M':=by
    intro j e g he hn hg hgM
    obtain ⟨k,e1,e2,h1,hg1,hk2⟩:=hM g hgM
    by_cases hjk:j=k
    · subst hjk;rw [hn] at hk2;cases hk2
    · exact h.apart j k e e1 g he h1 hjk hg hg1
  refine ⟨h2.os.trans h.os,h2.tape.trans h.tape,h2.output.trans h.output,Nat.le_trans h.size h2.size,fun i hi hiM=>?_,fun j e he=>?_,fun j j' e e' g he he' hne hg=>?_,fun j e g he hg=>?_⟩
  · rw [h2.keep i (Nat.lt_of_lt_of_le hi h.size) (fun hin=>by
      obtain ⟨k,e1,_,h1,hg1,_⟩:=hM i hin
      rcases h.own k e1 i h1 hg1 with h3 | h3
      · omega
      · exact hiM h3)]
    exact h.keep i hi hiM
  · rw [zax] at he
    cases hj:lk l2 j with
    | some e2=>rw [hj] at he;simp at he;subst he;exact h2.live j _ hj
    | none=>
      rw [hj] at he;simp at he
      exact (h.live j e he).same (fun g hg=>h2.keep g ((h.live j e he).lt hg) (key j e g he hj hg)) (fun g o ho hm=>h2.keep _ (Array.getElem?_eq_some_iff.1 hm).1 fun q=>by
        obtain ⟨k,e1,_,h1,hg1,_⟩:=hM _ q
        exact (h.live k e1 h1).ne_odd hg1 ho hm)
  · rw [zax] at he he'
    cases hj:lk l2 j with
    | some e2=>
      rw [hj] at he;simp at he;subst he
      cases hj':lk l2 j' with
      | some e3=>rw [hj'] at he';simp at he';subst he';exact h2.apart j j' _ _ g hj hj' hne hg
      | none=>
        rw [hj'] at he';simp at he'
        intro hg'
        rcases h2.own j _ g hj hg with h3 | h3
        · have:=(h.live j' e' he').lt hg';omega
        · exact key j' e' g he' hj' hg' h3
    | none=>
      rw [hj] at he;simp at he
      cases hj':lk l2 j' with
      | some e3=>
        rw [hj'] at he';simp at he';subst he'
        intro hg'
        rcases h2.own j' _ g hj' hg' with h3 | h3
        · have:=(h.live j e he).lt hg;omega
        · exact key j e g he hj hg h3
      | none=>rw [hj'] at he';simp at he';exact h.apart j j' e e' g he he' hne hg
  · rw [zax] at he
    cases hj:lk l2 j with
    | some e2=>
      rw [hj] at he;simp at he;subst he
      rcases h2.own j _ g hj hg with h3 | h3
      · exact .inl (Nat.le_trans h.size h3)
      · obtain ⟨k,e1,_,h1,hg1,_⟩:=hM g h3
        exact h.own k e1 g h1 hg1
    | none=>rw [hj] at he;simp at he;exact h.own j e g he hg
theorem WS.join0 (h:WS w0 M l w) (h2:WS w [] [] w'):WS w0 M l w':=h.join h2 (by simp)
def Cs (w:World) (a:Option Addr) (cs:List Value):Prop:=∀ i x,cs[i]?=some x→∃ ad,a=some ad∧w.cell? (ad.add i)=some x
theorem Addr.add_add (a:Addr) (i j:Nat):(a.add i).add j=a.add (i+j):=by
  unfold Addr.add
  by_cases hi:i=0<;>by_cases hj:j=0<;>simp [hi,hj,Nat.add_assoc]
theorem Addr.add_block (a:Addr) (i:Nat):(a.add i).block=a.block:=by unfold Addr.add;split<;>rfl
theorem Cs.nil (w:World) (a:Option Addr):Cs w a []:=fun i x h=>by simp at h
def Off (M:List Nat) (a:Option Addr):Prop:=∀ ad,a=some ad→ad.block∉M
theorem Cs.ws {A:Option Addr} {cs:List Value} (h:Cs w0 A cs) (hw:WS w0 M l w) (ho:Off M A):Cs w A cs:=fun i x hx=>by
  obtain ⟨ad,ha,hc⟩:=h i x hx
  refine ⟨ad,ha,?_⟩
  have hlt:=World.block_lt_of_cell? _ _ hc
  rw [Addr.add_block] at hlt
  rw [← hc]
  exact World.cell?_of_block (by rw [Addr.add_block];exact hw.keep _ hlt (ho ad ha))
theorem WS.cell (h:WS w0 M l w) {k:Nat} {e:Ent} (he:lk l k=some e) {o:Nat} {v:Value} (ho:e.cs[o]?=some v):w.cell? ⟨e.id.getD 0,o,none⟩=some v:=by
  have hl:=h.live k e he
  cases hid:e.id with
  | none=>simp only [Ent.At,hid] at hl;simp [hl.1] at ho
  | some g=>
    simp only [Ent.At,hid] at hl
    obtain ⟨t,_,hl⟩:=hl
    simp [World.cell?,hl,ho]
section
variable {P:Program} {ops:Array Oper} {lS:List (Nat×Ent)} {F:Act→World→Prop} {pn:List PanicEntry→World→Prop}
inductive Av where
  | ptr
  | sl (n c:Nat)
def Av.v:Av→Nat→Value
  | .ptr,g=>.pointer (some ⟨g,0,none⟩)
  | .sl n c,g=>.slice (some ⟨g,0,none⟩) n c
theorem Av.inj {s s':Av} {g:Nat} (h:s.v g=s'.v g):s=s':=by
  cases s<;>cases s'<;>simp [Av.v] at h ⊢
  exact h
def tr (P:Program) (pn:List PanicEntry→World→Prop) (w0:World) (M:List Nat) (lS:List (Nat×Ent)) (k:K) (b:Bool) (r:World→Result Next) (l:List (Nat×Ent)) (m:Value→List (Nat×Ent)→Prop):Prop:=
  if b then match k with
    | .g | .s=>∃ v,(∀ w,WS w0 M lS w→r w=.ok (.value v) w)∧m v l
    | .c=>∃ v,(∀ w,WS w0 M lS w→Oper.quietUpon P (fun w'=>WS w [] [] w') w v (r w))∧m v l
    | .q=>∃ v,(∀ w,WS w0 M l w→Oper.quietUpon P (fun w'=>WS w [] [] w') w v (r w))∧m v l
    | .a h=>(∃ v,(∀ w,WS w0 M lS w→r w=.ok (.value v) w)∧m v l)∨
        ∃ (s:Av) (t:TypeId) (cs:Array Value),lk lS h=none∧lk l h=none∧(∀ w,WS w0 M lS w→r w=.ok (.value (s.v w.heap.size)) (w.alloc (.cells cs t)))∧
          ∀ g,w0.heap.size≤g→m (s.v g) ((h,⟨some g,t,cs.toList⟩)::l)
    | .l=>∀ w,WS w0 M l w→loudUpon P pn (fun v w'=>∃ l',WS w0 M l' w'∧Sub lS l'∧m v l') (r w)
  else m undef l
theorem zgh {k:K} {b:Bool} {r:World→Result Next} {m m':Value→List (Nat×Ent)→Prop} (hm:∀ v l,m v l→m' v l) (h:tr P pn w0 M lS k b r l m):tr P pn w0 M lS k b r l m':=by
  unfold tr at *
  split at h
  · rename_i hb
    rw [if_pos hb]
    cases k with
    | g=>obtain ⟨v,h1,h2⟩:=h;exact ⟨v,h1,hm _ _ h2⟩
    | s=>obtain ⟨v,h1,h2⟩:=h;exact ⟨v,h1,hm _ _ h2⟩
    | c=>obtain ⟨v,h1,h2⟩:=h;exact ⟨v,h1,hm _ _ h2⟩
    | q=>obtain ⟨v,h1,h2⟩:=h;exact ⟨v,h1,hm _ _ h2⟩
    | a j=>
      rcases h with ⟨v,h1,h2⟩ | ⟨s,t,cs,h1,h2,h3,h4⟩
      · exact .inl ⟨v,h1,hm _ _ h2⟩
      · exact .inr ⟨s,t,cs,h1,h2,h3,fun g hg=>hm _ _ (h4 g hg)⟩
    | l=>exact fun w hw=>zeX (fun v w' ⟨l',h1,h2,h3⟩=>⟨l',h1,h2,hm _ _ h3⟩) (h w hw)
  · rename_i hb
    rw [if_neg hb]
    exact hm _ _ h
def EqL (l l':List (Nat×Ent)):Prop:=∀ n,lk l n=lk l' n
theorem EqL.sub {l l':List (Nat×Ent)} (h:EqL l l'):Sub l l':=fun n v hn=>by rw [← h n];exact hn
theorem EqL.cons {l l':List (Nat×Ent)} (h:EqL l l') (p:Nat×Ent):EqL (p::l) (p::l'):=fun n=>by
  obtain ⟨k,e⟩:=p
  rw [zae,zae,h n]
theorem tr_eq {k:K} {b:Bool} {r:World→Result Next} {l l':List (Nat×Ent)} (he:EqL l l') {m:Value→List (Nat×Ent)→Prop} (hm:∀ v l l',EqL l l'→m v l→m v l') (h:tr P pn w0 M lS k b r l m):tr P pn w0 M lS k b r l' m:=by
  unfold tr at *
  split at h
  · rename_i hb
    rw [if_pos hb]
    cases k with
    | g=>obtain ⟨v,h1,h2⟩:=h;exact ⟨v,h1,hm _ _ _ he h2⟩
    | s=>obtain ⟨v,h1,h2⟩:=h;exact ⟨v,h1,hm _ _ _ he h2⟩
    | c=>obtain ⟨v,h1,h2⟩:=h;exact ⟨v,h1,hm _ _ _ he h2⟩
    | q=>obtain ⟨v,h1,h2⟩:=h;exact ⟨v,fun w hw=>h1 w (hw.sub he.sub),hm _ _ _ he h2⟩
    | a j=>
      rcases h with ⟨v,h1,h2⟩ | ⟨s,t,cs,h1,h2,h3,h4⟩
      · exact .inl ⟨v,h1,hm _ _ _ he h2⟩
      · exact .inr ⟨s,t,cs,h1,by rw [← he j];exact h2,h3,fun g hg=>hm _ _ _ (he.cons _) (h4 g hg)⟩
    | l=>exact fun w hw=>h w (hw.sub he.sub)
  · rename_i hb
    rw [if_neg hb]
    exact hm _ _ _ he h
theorem Sub.fresh {α:Type} {s l:List (Nat×α)} (h:Sub s l) {k:Nat} {e:α} (hk:lk s k=none):Sub s ((k,e)::l):=fun n v hn=>by
  rw [zae]
  split
  · rename_i hkn;subst hkn;rw [hk] at hn;cases hn
  · exact h n v hn
theorem Sub.freshs {α:Type} {s l l2:List (Nat×α)} (h:Sub s l) (hk:∀ k e,lk l2 k=some e→lk s k=none):Sub s (l2++l):=fun n v hn=>by
  rw [zax]
  cases h2:lk l2 n with
  | none=>simpa using h n v hn
  | some e=>rw [hk n e h2] at hn;cases hn
theorem zrz (hE:∃ w,WS w0 M lS w) {ki kj:K} (hk:okPair kj ki=true) {bi bj:Bool} {ri rj:World→Result Next} {m:Value→Value→List (Nat×Ent)→Prop} (hm:∀ v u l l',EqL l l'→m v u l→m v u l')
    (h:tr P pn w0 M lS kj bj rj l fun v l1=>tr P pn w0 M lS ki bi ri l1 (m v)):tr P pn w0 M lS ki bi ri l fun u l1=>tr P pn w0 M lS kj bj rj l1 fun v=>m v u:=by
  obtain ⟨we,hwe⟩:=hE
  cases bj with
  | false=>exact zgh (fun v l h=>h) h
  | true=>
  cases bi with
  | false=>exact h
  | true=>
  have pure:∀ v,tr P pn w0 M lS ki true ri l (m v)→(∀ u l1,m v u l1→tr P pn w0 M lS kj true rj l1 fun v=>m v u)→tr P pn w0 M lS ki true ri l fun u l1=>tr P pn w0 M lS kj true rj l1 fun v=>m v u:=fun v h1 h2=>zgh (fun u l1 h=>h2 u l1 h) h1
  cases kj with
  | g=>obtain ⟨v,h1,h2⟩:=h;exact pure v h2 fun u l1 h=>⟨v,h1,h⟩
  | s=>obtain ⟨v,h1,h2⟩:=h;exact pure v h2 fun u l1 h=>⟨v,h1,h⟩
  | c=>obtain ⟨v,h1,h2⟩:=h;exact pure v h2 fun u l1 h=>⟨v,h1,h⟩
  | l=>simp [okPair] at hk
  | q=>
    obtain ⟨v,h1,h2⟩:=h
    cases ki with
    | l=>simp [okPair] at hk
    | g=>obtain ⟨u,h3,h4⟩:=h2;exact ⟨u,h3,v,h1,h4⟩
    | s=>obtain ⟨u,h3,h4⟩:=h2;exact ⟨u,h3,v,h1,h4⟩
    | c=>obtain ⟨u,h3,h4⟩:=h2;exact ⟨u,h3,v,h1,h4⟩
    | q=>obtain ⟨u,h3,h4⟩:=h2;exact ⟨u,h3,v,h1,h4⟩
    | a j=>
      rcases h2 with ⟨u,h3,h4⟩ | ⟨s,t,cs,h3,h4,h5,h6⟩
      · exact .inl ⟨u,h3,v,h1,h4⟩
      · exact .inr ⟨s,t,cs,h3,h4,h5,fun g hg=>⟨v,fun w hw=>h1 w (hw.sub ((Sub.refl l).fresh h4)),h6 g hg⟩⟩
  | a j=>
    rcases h with ⟨v,h1,h2⟩ | ⟨s,t,cs,h1,h2,h3,H⟩
    · exact pure v h2 fun u l1 h=>.inl ⟨v,h1,h⟩
    · have purei:(∀ g,w0.heap.size≤g→∃ u,(∀ w,WS w0 M lS w→ri w=.ok (.value u) w)∧m (s.v g) u ((j,⟨some g,t,cs.toList⟩)::l))→
          ∃ u,(∀ w,WS w0 M lS w→ri w=.ok (.value u) w)∧tr P pn w0 M lS (.a j) true rj l fun v=>m v u:=fun H=>by
        obtain ⟨u,h4,_⟩:=H _ (Nat.le_refl _)
        refine ⟨u,h4,.inr ⟨s,t,cs,h1,h2,h3,fun g hg=>?_⟩⟩
        obtain ⟨u',h5,h6⟩:=H g hg
        have e1:=h4 we hwe
        rw [h5 we hwe] at e1
        have:u'=u:=by injection e1 with e1;injection e1
        rw [← this];exact h6
      cases ki with
      | g=>exact purei H
      | s=>exact purei H
      | c=>simp [okPair] at hk
      | q=>simp [okPair] at hk
      | l=>simp [okPair] at hk
      | a i=>
        have H0:=H _ (Nat.le_refl _)
        rcases H0 with ⟨u,h4,_⟩ | ⟨s',t',cs',h4,h5,h6,_⟩
        · refine .inl (purei fun g hg=>?_)
          rcases H g hg with h7 | ⟨s',t',cs',_,_,h7,_⟩
          · exact h7
          · have e1:=h4 we hwe
            rw [h7 we hwe] at e1
            injection e1 with _ e1
            have:=congrArg (fun w:World=>w.heap.size) e1
            simp at this
        · rw [zae] at h5
          split at h5
          · cases h5
          rename_i hji
          refine .inr ⟨s',t',cs',h4,h5,h6,fun g' hg'=>.inr ⟨s,t,cs,h1,by rw [zae,if_neg (Ne.symm hji)];exact h2,h3,fun g hg=>?_⟩⟩
          rcases H g hg with ⟨u,h7,_⟩ | ⟨s2,t2,cs2,_,_,h7,h8⟩
          · have e1:=h6 we hwe
            rw [h7 we hwe] at e1
            injection e1 with _ e1
            have:=congrArg (fun w:World=>w.heap.size) e1
            simp at this
          · have e1:=h6 we hwe
            rw [h7 we hwe] at e1
            injection e1 with e0 e1
            have e5:s2=s':=Av.inj (by injection e0)
            subst e5
            have e2:=congrArg (fun w:World=>w.heap[we.heap.size]?) e1
            simp only [zau,if_true,Option.some.injEq,Obj.cells.injEq] at e2
            obtain ⟨e3,e4,_⟩:=e2
            subst e3 e4
            refine hm _ _ _ _ (fun n=>?_) (h8 g' hg')
            simp only [zae]
            split
            · rename_i h9;subst h9;rw [if_neg hji]
            · rfl
def stepW (P:Program) (ops:Array Oper) (pn:List PanicEntry→World→Prop) (w0:World) (M:List Nat) (lS:List (Nat×Ent)) (k:K) (o:Oper) (a:Act) (l:List (Nat×Ent)) (next:Act→List (Nat×Ent)→Prop):Prop:=
  tr P pn w0 M lS k (Region.wanted o (yielded ops a.tmps)) (fun w=>(execOp a.eval o).run P w) l fun v=>next (a.put o.dst v)
def JJ (P:Program) (ops:Array Oper) (pn:List PanicEntry→World→Prop) (F:Act→World→Prop) (w0:World) (M:List Nat) (lS:List (Nat×Ent)):List (Oper×K)→Act→List (Nat×Ent)→Prop
  | [],a,l=>∀ w,WS w0 M l w→F a w
  | (o,k)::L,a,l=>stepW P ops pn w0 M lS k o a l (JJ P ops pn F w0 M lS L)
theorem zuM:∀ (L:List (Oper×K)) (a:Act) (l l':List (Nat×Ent)),EqL l l'→JJ P ops pn F w0 M lS L a l→JJ P ops pn F w0 M lS L a l'
  | [],_,_,_,he,h=>fun w hw=>h w (hw.sub he.sub)
  | (o,k)::L,a,l,l',he,h=>by
    simp only [JJ,stepW] at h ⊢
    exact tr_eq he (fun v l l' h1 h2=>zuM L _ l l' h1 h2) h
theorem ztb (hE:∃ w,WS w0 M lS w) {oi oj:Oper} {ki kj:K} (hk:okPair kj ki=true) (hap:oj.apart ops oi=true) (hsi:∀ cs b,oi.op≠.select cs b) (hsj:∀ cs b,oj.op≠.select cs b) {L:List (Oper×K)} {a:Act} {l:List (Nat×Ent)}
    (h:JJ P ops pn F w0 M lS ((oj,kj)::(oi,ki)::L) a l):JJ P ops pn F w0 M lS ((oi,ki)::(oj,kj)::L) a l:=by
  obtain ⟨p1,p2,p3⟩:=Oper.apart_spec hap
  simp only [JJ,stepW] at h ⊢
  have e1:∀ v,(fun w=>(execOp (a.put oj.dst v).eval oi).run P w)=fun w=>(execOp a.eval oi).run P w:=fun v=>by rw [execOp_put oi hsi a oj.dst v p1]
  have e2:∀ v,(fun w=>(execOp (a.put oi.dst v).eval oj).run P w)=fun w=>(execOp a.eval oj).run P w:=fun v=>by rw [execOp_put oj hsj a oi.dst v p3]
  simp only [e1,wanted_put oi a oj.dst _ p1] at h
  simp only [e2,wanted_put oj a oi.dst _ p3]
  have h2:=zrz (m:=fun v u l=>JJ P ops pn F w0 M lS L ((a.put oj.dst v).put oi.dst u) l) hE hk (fun v u l l' he hl=>zuM L _ l l' he hl) h
  refine zgh (fun u l1 h3=>zgh (fun v l2 h4=>?_) h3) h2
  rw [← Act.put_comm a v u p2]
  exact h4
theorem zqo {o:Oper} {k:K} {L L':List (Oper×K)} (hL:∀ a l,JJ P ops pn F w0 M lS L a l→JJ P ops pn F w0 M lS L' a l) {a:Act} {l:List (Nat×Ent)} (h:JJ P ops pn F w0 M lS ((o,k)::L) a l):JJ P ops pn F w0 M lS ((o,k)::L') a l:=by
  simp only [JJ,stepW] at h ⊢
  exact zgh (fun _ _ h=>hL _ _ h) h
theorem zhb (hE:∃ w,WS w0 M lS w) (hsel:∀ (o:Oper) cs b,o∈ops.toList→o.op≠.select cs b) (x:Oper×K) (hx:x.1∈ops.toList) (L2:List (Oper×K)):∀ (L1:List (Oper×K)),(∀ y∈L1,y.1∈ops.toList∧okPair y.2 x.2=true∧y.1.apart ops x.1=true)→∀ a l,
    JJ P ops pn F w0 M lS (L1++x::L2) a l→JJ P ops pn F w0 M lS (x::(L1++L2)) a l
  | [],_,_,_,h=>h
  | y::L1,hy,a,l,h=>by
    obtain ⟨h1,h2,h3⟩:=hy y List.mem_cons_self
    have ih:=zhb hE hsel x hx L2 L1 (fun z hz=>hy z (List.mem_cons_of_mem _ hz))
    exact ztb hE h2 h3 (fun cs b=>hsel _ cs b hx) (fun cs b=>hsel _ cs b h1) (zqo ih h)
class Nd (ro:Option Nat) (ops:Array Oper):Prop where
  ok:∀ o∈ops.toList,∀ ρ,o.semAt ro ρ=execOp ρ o
instance:Nd none ops:=⟨fun _ _ _=>rfl⟩
def ndB (ops:Array Oper):Bool:=ops.toList.all fun o=>match o.op with | .defer _=>false | _=>true
theorem Nd.of {ro:Option Nat} (h:ndB ops=true):Nd ro ops:=⟨fun o ho ρ=>Oper.semAt_eq ro ρ o fun c e=>by
  have:=List.all_eq_true.1 h o ho
  rw [e] at this;cases this⟩
theorem zhA {ro:Option Nat} {o:Oper} {a:Act} {w:World} {v:Value} {l:List (Nat×Ent)} {K':Act→World→Prop} {Q:Exit→Act→World→Prop} (hs:∀ ρ,o.semAt ro ρ=execOp ρ o) (hw:WS w0 M l w)
    (h:Oper.quietUpon P (fun w'=>WS w [] [] w') w v ((execOp a.eval o).run P w)) (hk:∀ w',WS w0 M l w'→K' (a.put o.dst v) w'):o.wpIn (WF ro) 0 P a w K' Q:=by
  refine ⟨fun _ _=>trivial,?_⟩
  show o.uponIn (WF ro) 0 P a K' Q ((o.semAt ro a.eval).run P w)
  rw [hs]
  generalize (execOp a.eval o).run P w=r at *
  cases r with
  | ok n w'=>
    cases n<;>simp only [Oper.quietUpon] at h<;>simp only [Oper.uponIn]
    case value u=>obtain ⟨e1,e2⟩:=h;rw [e1,e2];exact hk _ hw
    case skip=>obtain ⟨e1,e2⟩:=h;rw [e1,← e2];exact hk _ hw
    case enter f args=>obtain ⟨e1,hc⟩:=h;rw [e1];exact ⟨fun q=>by simp [WF] at q,(zga hc).mono fun e w'' ⟨he,hw''⟩=>by subst he;exact hk _ (hw.join0 hw'')⟩
  | halt x w'=>simp only [Oper.quietUpon] at h
theorem zcU {ro:Option Nat} {k:K} {o:Oper} {a:Act} {l:List (Nat×Ent)} {n:Act→List (Nat×Ent)→Prop} {K':Act→World→Prop} {Q:Exit→Act→World→Prop} {w:World} (hsem:∀ ρ,o.semAt ro ρ=execOp ρ o) (hp:∀ ch w',pn ch w'→Q (.panic ch) a w') (hs:stepW P ops pn w0 M lS k o a l n) (hw:WS w0 M l w) (hS:Sub lS l)
    (h:∀ v l' w',WS w0 M l' w'→Sub lS l'→n (a.put o.dst v) l'→K' (a.put o.dst v) w'):if Region.wanted o (yielded ops a.tmps) then o.wpIn (WF ro) 0 P a w K' Q else (∀ f,o.about P w a.eval=some f→(WF ro).fn f)∧K' (a.put o.dst undef) w:=by
  unfold stepW tr at hs
  split
  · rename_i hwt
    rw [if_pos hwt] at hs
    have val:∀ v w',(execOp a.eval o).run P w=.ok (.value v) w'→K' (a.put o.dst v) w'→o.wpIn (WF ro) 0 P a w K' Q:=fun v w' h1 h2=>by
      refine ⟨fun _ _=>trivial,?_⟩
      show o.uponIn (WF ro) 0 P a K' Q ((o.semAt ro a.eval).run P w)
      rw [hsem,h1]
      exact h2
    have pure:∀ v,(∀ w,WS w0 M lS w→(execOp a.eval o).run P w=.ok (.value v) w)→n (a.put o.dst v) l→o.wpIn (WF ro) 0 P a w K' Q:=fun v h1 h2=>
      val v w (h1 w (hw.sub hS)) (h _ _ _ hw hS h2)
    cases k with
    | g=>obtain ⟨v,h1,h2⟩:=hs;exact pure v h1 h2
    | s=>obtain ⟨v,h1,h2⟩:=hs;exact pure v h1 h2
    | c=>obtain ⟨v,h1,h2⟩:=hs;exact zhA hsem hw (h1 w (hw.sub hS)) fun w' hw'=>h _ _ _ hw' hS h2
    | q=>obtain ⟨v,h1,h2⟩:=hs;exact zhA hsem hw (h1 w hw) fun w' hw'=>h _ _ _ hw' hS h2
    | a j=>
      rcases hs with ⟨v,h1,h2⟩ | ⟨s,t,cs,h1,h2,h3,h4⟩
      · exact pure v h1 h2
      · have:=hw.alloc j cs.toList t
        rw [Array.toArray_toList] at this
        exact val _ _ (h3 w (hw.sub hS)) (h _ _ _ this (hS.fresh h1) (h4 _ hw.size))
    | l=>exact zld hsem (hs w hw) (fun v w' ⟨l',h1,h2,h3⟩=>h _ _ _ h1 h2 h3) hp
  · rename_i hwt
    rw [if_neg hwt] at hs
    exact ⟨fun _ _=>trivial,h _ _ _ hw hS hs⟩
theorem zdW (a:Act) (d:Option Tmp) (v:Value):(a.put d v).defers=a.defers:=by cases d<;>rfl
theorem zct {ro:Option Nat} {Q:Exit→Act→World→Prop} {D:List Deferred} (hF:∀ a w,F a w→Q .normal a w) (hp:∀ ch a w',a.defers=D→pn ch w'→Q (.panic ch) a w'):∀ (L:List (Oper×K)) (a:Act) (l:List (Nat×Ent)) (w:World),(∀ x∈L,∀ ρ,x.1.semAt ro ρ=execOp ρ x.1)→a.defers=D→WS w0 M l w→Sub lS l→JJ P ops pn F w0 M lS L a l→wpListIn (WF ro) 0 P ops Q (L.map (·.1)) a w
  | [],_,_,w,_,_,hw,_,h=>hF _ _ (h w hw)
  | (o,k)::L,a,l,w,hx,hd,hw,hS,h=>by
    simp only [List.map_cons,wpListIn]
    exact zcU (hx _ List.mem_cons_self) (fun ch w'=>hp ch a w' hd) h hw hS fun v l' w' h1 h2 h3=>zct hF hp L _ l' w' (fun x hm=>hx x (List.mem_cons_of_mem _ hm)) ((zdW _ _ _).trans hd) h1 h2 h3
structure Inv (md:Region.Mode) (ops:Array Oper) (π:List (Nat×K)) (listed:Array Bool):Prop where
  down:Down md ops listed
  size:listed.size=ops.size
  iff:∀ j,j < ops.size→(listed.getD j false=false↔j∈π.map (·.1))
  lt:∀ x∈π,x.1 < ops.size∧edgeB md ops x.1 x.1=false
  on:∀ (j:Nat) (o:Oper),ops[j]?=some o→∀ e∈o.after.toList,Region.binds md e=true→e.on < ops.size
  pair:π.Pairwise (PairR md ops)
theorem zdi {listed:Array Bool} {j:Nat} (h:j < listed.size) (d d':Bool):listed.getD j d=listed.getD j d':=by simp [h]
theorem Inv.head {md:Region.Mode} {x:Nat×K} {π:List (Nat×K)} {listed:Array Bool} (h:Inv md ops (x::π) listed):x.1∈Region.ready md ops listed:=by
  obtain ⟨hlt,hself⟩:=h.lt x List.mem_cons_self
  have ho:ops[x.1]?=some ops[x.1]:=Array.getElem?_eq_getElem hlt
  refine mem_ready.2 ⟨?_,_,ho,fun e he hb=>?_⟩
  · rw [zdi (by rw [h.size];exact hlt) true false]
    exact (h.iff _ hlt).2 (by simp)
  · have he':e∈(ops[x.1]).after.toList:=by simpa using he
    have hon:=h.on _ _ ho e he' hb
    cases hl:listed.getD e.on false with
    | true=>rfl
    | false=>
      have hm:=(h.iff _ hon).1 hl
      simp only [List.map_cons,List.mem_cons,List.mem_map] at hm
      rcases hm with hm | ⟨y,hy,hm⟩
      · exact absurd hm (zlB hself ho he' hb)
      · have:=List.rel_of_pairwise_cons h.pair hy
        exact absurd hm.symm (zlB this.free ho he' hb)
theorem Inv.next {md:Region.Mode} {x:Nat×K} {π1 π2:List (Nat×K)} {listed:Array Bool} (h:Inv md ops (π1++x::π2) listed) (hr:x.1∈Region.ready md ops listed):Inv md ops (π1++π2) (listed.setIfInBounds x.1 true):=by
  have hp:=h.pair
  rw [List.pairwise_append,List.pairwise_cons] at hp
  obtain ⟨hp1,⟨hp2,hp3⟩,hp4⟩:=hp
  refine ⟨h.down.set hr,by simpa using h.size,fun j hj=>?_,fun y hy=>h.lt y ?_,h.on,?_⟩
  · by_cases hjx:x.1=j
    · subst hjx
      have:(listed.setIfInBounds x.1 true).getD x.1 false=true:=by simp [h.size,hj]
      rw [this]
      refine ⟨fun h=>(by cases h),fun hm=>?_⟩
      simp only [List.map_append,List.mem_append,List.mem_map] at hm
      rcases hm with ⟨y,hy,hm⟩ | ⟨y,hy,hm⟩
      · exact absurd hm (hp4 y hy x List.mem_cons_self).ne
      · exact absurd hm.symm (hp2 y hy).ne
    · rw [getD_set_ne false hjx,h.iff j hj]
      simp only [List.map_append,List.map_cons,List.mem_append,List.mem_cons,Ne.symm hjx,false_or]
  · rcases List.mem_append.1 hy with h | h
    · exact List.mem_append_left _ h
    · exact List.mem_append_right _ (List.mem_cons_of_mem _ h)
  · exact List.pairwise_append.2 ⟨hp1,hp3,fun a ha b hb=>hp4 a ha b (List.mem_cons_of_mem _ hb)⟩
abbrev opK (ops:Array Oper) (x:Nat×K):Oper×K:=(ops.getD x.1 default,x.2)
theorem zev {ro:Option Nat} {md:Region.Mode} {Q:Exit→Act→World→Prop} {D:List Deferred} (hF:∀ a w,F a w→Q .normal a w) (hpq:∀ ch a w',a.defers=D→pn ch w'→Q (.panic ch) a w') (hnd:Nd ro ops) (hsel:∀ (j:Nat) (o:Oper) cs b,ops[j]?=some o→o.op≠.select cs b) (hE:∃ w,WS w0 M lS w):∀ (n:Nat) (π:List (Nat×K)) (listed:Array Bool) (a:Act) (l:List (Nat×Ent)) (w:World),π.length=n→Inv md ops π listed→a.defers=D→
    JJ P ops pn F w0 M lS (π.map (opK ops)) a l→WS w0 M l w→Sub lS l→wpAnyIn (WF ro) 0 P md ops Q n listed a w
  | 0,π,listed,a,l,w,hn,hi,hD,h,hw,hS=>by
    obtain rfl:=List.length_eq_zero_iff.1 hn
    refine ⟨List.eq_nil_iff_forall_not_mem.2 fun j hj=>?_,hF _ _ (h w hw)⟩
    obtain ⟨hun,o,ho,_⟩:=mem_ready.1 hj
    have hlt:j < ops.size:=(Array.getElem?_eq_some_iff.1 ho).1
    have:=(hi.iff j hlt).1 (by rw [zdi (by rw [hi.size];exact hlt) false true];exact hun)
    simp at this
  | n+1,π,listed,a,l,w,hn,hi,hD,h,hw,hS=>by
    refine ⟨fun h0=>?_,fun i hri=>?_⟩
    · cases π with
      | nil=>simp at hn
      | cons x π=>have:=hi.head;rw [h0] at this;cases this
    · obtain ⟨hun,o,ho,hall⟩:=mem_ready.1 hri
      have hlt:i < ops.size:=(Array.getElem?_eq_some_iff.1 ho).1
      have hm:=(hi.iff i hlt).1 (by rw [zdi (by rw [hi.size];exact hlt) false true];exact hun)
      obtain ⟨x,hx,rfl⟩:=List.mem_map.1 hm
      obtain ⟨π1,π2,rfl⟩:=List.append_of_mem hx
      have hod:∀ j,j < ops.size→ops.getD j default∈ops.toList:=fun j hj=>by
        rw [show ops.getD j default=ops[j] by simp [hj]]
        simp
      have hox:ops.getD x.1 default=o:=by
        simp only [Array.getD,hlt,dif_pos]
        exact (Array.getElem?_eq_some_iff.1 ho).2
      have hsel':∀ (o:Oper) cs b,o∈ops.toList→o.op≠.select cs b:=fun o cs b ho=>by
        obtain ⟨j,hj⟩:=List.getElem?_of_mem ho
        exact hsel j o cs b (by simpa using hj)
      have hp:=hi.pair
      rw [List.pairwise_append] at hp
      rw [List.map_append,List.map_cons] at h
      have hb:=zhb hE hsel' (opK ops x) (hod _ hlt) (π2.map (opK ops)) (π1.map (opK ops)) (fun y hy=>by
        obtain ⟨y,hy',rfl⟩:=List.mem_map.1 hy
        have hy:=hy'
        have hylt:=(hi.lt y (List.mem_append_left _ hy)).1
        refine ⟨hod _ hylt,?_⟩
        rcases (hp.2.2 y hy x List.mem_cons_self).ok with hanc | hok
        · have h1:=hanc.listed hi.down fun o' ho' e he hb=>hall e (by
            rw [ho] at ho';cases ho';simpa using he) hb
          have h2:=(hi.iff y.1 hylt).2 (List.mem_map.2 ⟨y,List.mem_append_left _ hy,rfl⟩)
          rw [h1] at h2;cases h2
        · exact hok) a l h
      rw [← List.map_append] at hb
      unfold wpOpIn
      simp only [ho]
      simp only [JJ,hox] at hb
      exact zcU (hnd.ok o (hox ▸ hod _ hlt)) (fun ch w'=>hpq ch a w' hD) hb hw hS fun v l' w' h1 h2 h3=>
        zev hF hpq hnd hsel hE n (π1++π2) _ _ l' w' (by simp at hn ⊢;omega) (hi.next hri) ((zdW _ _ _).trans hD) h3 h1 h2
theorem zkG {md:Region.Mode} {π:List (Nat×K)} (h:WalkR md ops π):Inv md ops π (Array.replicate ops.size false):=
  ⟨fun k o hk=>by
      rcases Nat.lt_or_ge k ops.size with h | h
      · simp [h] at hk
      · simp [Nat.not_lt.2 h] at hk,by simp,fun j hj=>⟨fun _=>h.all j hj,fun _=>by simp [hj]⟩,h.lt,h.on,h.pair⟩
end
variable {P:Program} {Q:Exit→Act→World→Prop} {lS:List (Nat×Ent)}
def Pq (N:Nf) (Q:Exit→Act→World→Prop):Prop:=∀ ch a w,a.defers=N.D→N.pn ch w→Q (.panic ch) a w
theorem Pq.no {N:Nf} {Q:Exit→Act→World→Prop} (h:∀ ch w,¬ N.pn ch w):Pq N Q:=fun ch _ w _ q=>(h ch w q).elim
def T (P:Program) (w0:World) (M:List Nat) (N:Nf) (Q:Exit→Act→World→Prop) (c:Code) (σ:List (Nat×Value)) (l:List (Nat×Ent)):Prop:=
  Pq N Q→∀ a w,Has N σ a→WS w0 M l w→c.wpIn (WF N.ro) 0 P Q a w
def X (w0:World) (M:List Nat) (N:Nf) (Q:Exit→Act→World→Prop) (e:Exit) (σ:List (Nat×Value)) (l:List (Nat×Ent)):Prop:=
  Pq N Q→∀ a w,Has N σ a→WS w0 M l w→Q e a w
def J (P:Program) (ops:Array Oper) (F:Act→World→Prop) (w0:World) (M:List Nat) (N:Nf) (lS:List (Nat×Ent)) (L:List (Oper×K)) (σ:List (Nat×Value)) (l:List (Nat×Ent)):Prop:=
  Sub lS l→∀ a,Has N σ a→JJ P ops N.pn F w0 M lS L a l
def NQ (N:Nf) (Q:Exit→Act→World→Prop) (a:Act) (w:World):Prop:=Pq N Q→Q .normal a w
abbrev Kw (P:Program) (N:Nf) (Q:Exit→Act→World→Prop) (y:Code):Act→World→Prop:=y.wpIn (WF N.ro) 0 P Q
theorem T.au {x y:Code} (h:T P w0 M N (Exit.then (Kw P N Q y) Q) x σ l):T P w0 M N Q (.seq x y) σ l:=fun hq a w ha hw=>wpIn_seq (h hq a w ha hw)
theorem T.ax (h:X w0 M N Q .normal σ l):T P w0 M N Q .skip σ l:=fun hq a w ha hw=>wpIn_skip (h hq a w ha hw)
theorem T.aF {n:Nat} (h:X w0 M N Q .normal σ l):T P w0 M N Q (.label n) σ l:=fun hq a w ha hw=>wpIn_label (h hq a w ha hw)
theorem T.aI {id:Nat} (h:X w0 M N Q (.exit id) σ l):T P w0 M N Q (.exit id) σ l:=fun hq a w ha hw=>wpIn_exit (h hq a w ha hw)
theorem T.aH {id:Nat} (h:X w0 M N Q (.goto id) σ l):T P w0 M N Q (.goto id) σ l:=fun hq a w ha hw=>wpIn_goto (h hq a w ha hw)
theorem T.aD (h:X w0 M N Q .ret σ l):T P w0 M N Q .ret σ l:=fun hq a w ha hw=>wpIn_ret (h hq a w ha hw)
theorem T.aG {id:Nat} {c:Code} (h:T P w0 M N (Exit.inBlock id Q) c σ l):T P w0 M N Q (.block id c) σ l:=fun hq a w ha hw=>wpIn_block (h hq a w ha hw)
theorem T.aJ {c:Operand} {x y:Code} {b:Bool} (hc:ev σ c=some (.bool b)) (ht:b=true→T P w0 M N Q x σ l) (hf:b=false→T P w0 M N Q y σ l):T P w0 M N Q (.cond c x y) σ l:=
  fun hq a w ha hw=>wpIn_cond_split (ha.eval hc) (fun h=>ht h hq a w ha hw) (fun h=>hf h hq a w ha hw)
theorem T.ar {c:Operand} {x y:Code} (hc:ev σ c=some (.bool true)) (ht:T P w0 M N Q x σ l):T P w0 M N Q (.cond c x y) σ l:=fun hq a w ha hw=>wpIn_cond_true (ha.eval hc) (ht hq a w ha hw)
theorem T.aq {c:Operand} {x y:Code} (hc:ev σ c=some (.bool false)) (hf:T P w0 M N Q y σ l):T P w0 M N Q (.cond c x y) σ l:=fun hq a w ha hw=>wpIn_cond_false (ha.eval hc) (hf hq a w ha hw)
theorem T.aa {c:Operand} {x y:Code} {p:Prop} [Decidable p] (hc:ev σ c=some (.bool (decide p))) (ht:p→T P w0 M N Q x σ l) (hf:¬ p→T P w0 M N Q y σ l):T P w0 M N Q (.cond c x y) σ l:=
  T.aJ hc (fun h=>ht (of_decide_eq_true h)) (fun h=>hf (of_decide_eq_false h))
theorem T.aw {c:Code} {σ':List (Nat×Value)} {l':List (Nat×Ent)} (hσ:Sub σ' σ) (hl:Sub l' l) (h:T P w0 M N Q c σ' l'):T P w0 M N Q c σ l:=fun hq a w ha hw=>h hq a w (ha.sub hσ) (hw.sub hl)
theorem T.am {id:Nat} {ops:Array Oper} [nd:Nd N.ro ops] (ks:List K) (hn:ops.toList.length=ks.length) (h:J P ops (NQ N Q) w0 M N [] (ops.toList.zip ks) σ l):T P w0 M N Q (.region id ops false) σ l:=
  fun hq a w ha hw=>wpIn_region_list (by
    have:=zct (ro:=N.ro) (Q:=Q) (D:=N.D) (fun a w h=>h hq) (fun ch a w' h1 h2=>hq ch a w' h1 h2) _ a l w (fun x hx=>nd.ok x.1 (List.of_mem_zip (by exact hx)).1) ha.defers hw (Sub.nil _) (h (Sub.nil _) a ha)
    rwa [List.map_fst_zip (by omega)] at this)
theorem T.ae {id:Nat} {ops:Array Oper} [nd:Nd N.ro ops] (lS:List (Nat×Ent)) (π:List (Nat×K)) (hm:P.follows .mixedOrders=true)
    (hB:walkB .any ops π=true)
    (h:J P ops (NQ N Q) w0 M N lS (π.map fun p=>(ops.getD p.1 default,p.2)) σ l) (hlS:Sub lS l):
    T P w0 M N Q (.region id ops true) σ l:=
  fun hq a w ha hw=>wpIn_region_any hm (by
    have hW:=zhm hB
    have:=zev (ro:=N.ro) (Q:=Q) (D:=N.D) (fun a w h=>h hq) (fun ch a w' h1 h2=>hq ch a w' h1 h2) nd hW.sel ⟨w,hw.sub hlS⟩ π.length π _ a l _ rfl (zkG hW) ha.defers (h hlS a ha) hw.drew hlS
    rwa [hW.len] at this)
theorem stepW.yes {ops:Array Oper} {o:Oper} {k:K} {next:Act→List (Nat×Ent)→Prop} (hg:o.guard=none) {pn:List PanicEntry→World→Prop} (h:tr P pn w0 M lS k true (fun w=>(execOp a.eval o).run P w) l fun v=>next (a.put o.dst v)):stepW P ops pn w0 M lS k o a l next:=by
  unfold stepW
  rw [show Region.wanted o (yielded ops a.tmps)=true by simp [Region.wanted,hg]]
  exact h
theorem J.aC {ops:Array Oper} {F:Act→World→Prop} {o:Oper} {k:K} {L:List (Oper×K)} (hg:o.guard=none) (hd:okd N o.dst) (v:Value)
    (hr:∀ a,Has N σ a→∀ w,(execOp a.eval o).run P w=.ok (.value v) w) (h:J P ops F w0 M N lS L (putd o.dst v σ) l):J P ops F w0 M N lS ((o,k)::L) σ l:=fun hlS a ha=>stepW.yes hg (by
  have h2:=h hlS _ (ha.putd hd v)
  cases k with
  | g=>exact ⟨v,fun w _=>hr a ha w,h2⟩
  | s=>exact ⟨v,fun w _=>hr a ha w,h2⟩
  | c=>exact ⟨v,fun w _=>by show Oper.quietUpon P _ w v ((execOp a.eval o).run P w);rw [hr a ha w];exact ⟨rfl,rfl⟩,h2⟩
  | q=>exact ⟨v,fun w _=>by show Oper.quietUpon P _ w v ((execOp a.eval o).run P w);rw [hr a ha w];exact ⟨rfl,rfl⟩,h2⟩
  | a j=>exact .inl ⟨v,fun w _=>hr a ha w,h2⟩
  | l=>exact fun w hw=>by show loudUpon P _ _ ((execOp a.eval o).run P w);rw [hr a ha w];exact ⟨l,hw,hlS,h2⟩)
def nog:K→Prop
  | .l | .q=>True
  | _=>False
theorem J.ba {ops:Array Oper} {F:Act→World→Prop} {o:Oper} {k:K} {L:List (Oper×K)} (hg:o.guard=none) (hk:nog k) (hd:okd N o.dst) (v:Value)
    (hr:∀ a,Has N σ a→∀ w,WS w0 M l w→(execOp a.eval o).run P w=.ok (.value v) w) (h:J P ops F w0 M N lS L (putd o.dst v σ) l):J P ops F w0 M N lS ((o,k)::L) σ l:=fun hlS a ha=>stepW.yes hg (by
  have h2:=h hlS _ (ha.putd hd v)
  cases k with
  | q=>exact ⟨v,fun w hw=>by show Oper.quietUpon P _ w v ((execOp a.eval o).run P w);rw [hr a ha w hw];exact ⟨rfl,rfl⟩,h2⟩
  | l=>exact fun w hw=>by show loudUpon P _ _ ((execOp a.eval o).run P w);rw [hr a ha w hw];exact ⟨l,hw,hlS,h2⟩
  | _=>exact hk.elim)
theorem J.bm {ops:Array Oper} {F:Act→World→Prop} {o:Oper} {L:List (Oper×K)} (hg:o.guard=none) (hd:okd N o.dst) (v:Value)
    (hr:∀ a,Has N σ a→∀ w,WS w0 M lS w→(execOp a.eval o).run P w=.ok (.value v) w) (h:J P ops F w0 M N lS L (putd o.dst v σ) l):J P ops F w0 M N lS ((o,.s)::L) σ l:=fun hlS a ha=>
  stepW.yes hg ⟨v,hr a ha,h hlS _ (ha.putd hd v)⟩
theorem J.aR {ops:Array Oper} {F:Act→World→Prop} {o:Oper} {L:List (Oper×K)} (hg:o.guard=none) (hd:okd N o.dst) {ι:Type} (φ:ι→Prop) (v:ι→Value) (lf:ι→List (Nat×Ent))
    (hS:∀ i,φ i→Sub lS l→Sub lS (lf i))
    (hr:∀ a,Has N σ a→∀ w,WS w0 M l w→loudUpon P N.pn (fun u w'=>∃ i,φ i∧u=v i∧WS w0 M (lf i) w') ((execOp a.eval o).run P w))
    (h:∀ i,φ i→J P ops F w0 M N lS L (putd o.dst (v i) σ) (lf i)):J P ops F w0 M N lS ((o,.l)::L) σ l:=fun hlS a ha=>stepW.yes hg (show ∀ w,_ from
  fun w hw=>zeX (fun u w' ⟨i,hi,hu,hw'⟩=>⟨lf i,hw',hS i hi hlS,by subst hu;exact h i hi (hS i hi hlS) _ (ha.putd hd _)⟩) (hr a ha w hw))
theorem J.dh {ops:Array Oper} {F:Act→World→Prop} {L:List (Oper×K)} {op:Op} {d:Option Tmp} {ty:TypeId} {p:String} {af:Array Edge} {t:TypeId} (h:Nat) (hd:okd N d) (hh:lk lS h=none) (hl:lk l h=none) (cs:List Value) (hr:∀ a,Has N σ a→∀ w,(execOp a.eval ⟨d,op,ty,p,af,none⟩).run P w=.ok (.value (.pointer (some ⟨w.heap.size,0,none⟩))) (w.alloc (.cells cs.toArray t)))
    (hJ:∀ g,w0.heap.size≤g→J P ops F w0 M N lS L (putd d (.pointer (some ⟨g,0,none⟩)) σ) ((h,⟨some g,t,cs⟩)::l)):J P ops F w0 M N lS ((⟨d,op,ty,p,af,none⟩,.a h)::L) σ l:=fun hlS a ha=>
  stepW.yes rfl (.inr ⟨.ptr,t,cs.toArray,hh,hl,fun w _=>hr a ha w,fun g hg=>hJ g hg (hlS.fresh hh) _ (ha.putd hd _)⟩)
theorem J.de {ops:Array Oper} {F:Act→World→Prop} {L:List (Oper×K)} {op:Op} {d:Option Tmp} {ty:TypeId} {p:String} {af:Array Edge} {t:TypeId} (h n c:Nat) (hd:okd N d) (hh:lk lS h=none) (hl:lk l h=none) (cs:List Value) (hr:∀ a,Has N σ a→∀ w,(execOp a.eval ⟨d,op,ty,p,af,none⟩).run P w=.ok (.value (.slice (some ⟨w.heap.size,0,none⟩) n c)) (w.alloc (.cells cs.toArray t)))
    (hJ:∀ g,w0.heap.size≤g→J P ops F w0 M N lS L (putd d (.slice (some ⟨g,0,none⟩) n c) σ) ((h,⟨some g,t,cs⟩)::l)):J P ops F w0 M N lS ((⟨d,op,ty,p,af,none⟩,.a h)::L) σ l:=fun hlS a ha=>
  stepW.yes rfl (.inr ⟨.sl n c,t,cs.toArray,hh,hl,fun w _=>hr a ha w,fun g hg=>hJ g hg (hlS.fresh hh) _ (ha.putd hd _)⟩)
theorem Has.wanted {ops:Array Oper} (ha:Has N σ a) {o:Oper} {j t:Nat} {b b':Bool} (hg:o.guard=some (j,b)) (ht:(ops[j]?).bind (·.dst)=some t) (hb:lk σ t=some (.bool b')):
    Region.wanted o (yielded ops a.tmps)=(b' == b):=by
  have h1:=ha.get t _ hb
  simp only [Region.wanted,hg,yielded,ht,Option.bind_some,h1]
  cases b<;>cases b'<;>rfl
theorem J.aF {ops:Array Oper} {F:Act→World→Prop} {d:Option Tmp} {op:Op} {ty:TypeId} {p:String} {af:Array Edge} {j t:Nat} {b:Bool} {k:K} {L:List (Oper×K)}
    (ht:(ops[j]?).bind (·.dst)=some t) (hb:lk σ t=some (.bool b))
    (h:J P ops F w0 M N lS ((⟨d,op,ty,p,af,none⟩,k)::L) σ l):J P ops F w0 M N lS ((⟨d,op,ty,p,af,some (j,b)⟩,k)::L) σ l:=fun hlS a ha=>by
  have h1:=h hlS a ha
  have e1:Region.wanted ⟨d,op,ty,p,af,some (j,b)⟩ (yielded ops a.tmps)=true:=by rw [ha.wanted rfl ht hb];simp
  have e2:Region.wanted ⟨d,op,ty,p,af,none⟩ (yielded ops a.tmps)=true:=by simp [Region.wanted]
  simp only [JJ,stepW,e1] at h1 ⊢
  rw [e2] at h1
  exact h1
theorem J.no {ops:Array Oper} {F:Act→World→Prop} {d:Option Tmp} {op:Op} {ty:TypeId} {p:String} {af:Array Edge} {j t:Nat} {b b':Bool} {k:K} {L:List (Oper×K)}
    (ht:(ops[j]?).bind (·.dst)=some t) (hb:lk σ t=some (.bool b')) (hne:(b' == b)=false) (hd:okd N d)
    (h:J P ops F w0 M N lS L (putd d undef σ) l):J P ops F w0 M N lS ((⟨d,op,ty,p,af,some (j,b)⟩,k)::L) σ l:=fun hlS a ha=>by
  have e1:Region.wanted ⟨d,op,ty,p,af,some (j,b)⟩ (yielded ops a.tmps)=false:=by rw [ha.wanted rfl ht hb,hne]
  simp only [JJ,stepW,e1]
  exact h hlS _ (ha.putd hd undef)
theorem J.an {ops:Array Oper} {F:Act→World→Prop} {L:List (Oper×K)} {p:Prop} [Decidable p] (t:Nat) (hb:lk σ t=some (.bool (decide p)))
    (ht:p→J P ops F w0 M N lS L ((t,.bool true)::σ) l) (hf:¬ p→J P ops F w0 M N lS L ((t,.bool false)::σ) l):J P ops F w0 M N lS L σ l:=by
  have put:∀ b,(decide p)=b→∀ n v,lk ((t,Value.bool b)::σ) n=some v→lk σ n=some v:=fun b hb' n v hn=>by
    rw [zae] at hn
    split at hn
    · rename_i hk;subst hk;rw [hb,hb'];exact hn
    · exact hn
  by_cases hp:p
  · exact fun hlS a ha=>ht hp hlS a (ha.sub (put true (by simp [hp])))
  · exact fun hlS a ha=>hf hp hlS a (ha.sub (put false (by simp [hp])))
theorem J.bE {ops:Array Oper} (h:X w0 M N Q .normal σ l):J P ops (NQ N Q) w0 M N lS [] σ l:=fun _ a ha w hw hq=>h hq a w ha hw
theorem X.aq {y:Code} (h:T P w0 M N Q y σ l):X w0 M N (Exit.then (Kw P N Q y) Q) .normal σ l:=fun hq=>h hq
theorem X.av {K':Act→World→Prop} (h:X w0 M N Q .ret σ l):X w0 M N (Exit.then K' Q) .ret σ l:=h
theorem X.aA {K':Act→World→Prop} {id:Nat} (h:X w0 M N Q (.exit id) σ l):X w0 M N (Exit.then K' Q) (.exit id) σ l:=h
theorem X.aE {id:Nat} (h:X w0 M N Q .normal σ l):X w0 M N (Exit.inBlock id Q) .normal σ l:=h
theorem X.aw {id:Nat} (h:X w0 M N Q .ret σ l):X w0 M N (Exit.inBlock id Q) .ret σ l:=h
theorem X.ay {id:Nat} (h:X w0 M N Q .normal σ l):X w0 M N (Exit.inBlock id Q) (.exit id) σ l:=fun hq a w ha hw=>by
  simp only [Exit.inBlock,if_true];exact h hq a w ha hw
theorem X.ax {id id':Nat} (hne:Nat.beq id' id=false) (h:X w0 M N Q (.exit id') σ l):X w0 M N (Exit.inBlock id Q) (.exit id') σ l:=fun hq a w ha hw=>by
  simp only [Exit.inBlock,if_neg (fun e=>by subst e;simp at hne:¬ id'=id)];exact h hq a w ha hw
def At (w0:World) (M:List Nat) (N:Nf) {ι:Type} (φ:ι→Prop) (σf:ι→List (Nat×Value)) (lf:ι→List (Nat×Ent)) (a:Act) (w:World):Prop:=
  ∃ i,φ i∧Has N (σf i) a∧WS w0 M (lf i) w
theorem X.at {ι:Type} {φ:ι→Prop} {σf:ι→List (Nat×Value)} {lf:ι→List (Nat×Ent)} {Q':Exit→Act→World→Prop} (i:ι) (hφ:φ i) (hσ:Sub (σf i) σ) (hl:Sub (lf i) l):
    X w0 M N (Exit.then (At w0 M N φ σf lf) Q') .normal σ l:=fun _ _ _ ha hw=>⟨i,hφ,ha.sub hσ,hw.sub hl⟩
theorem T.ai {x y:Code} {ι:Type} (φ:ι→Prop) (σf:ι→List (Nat×Value)) (lf:ι→List (Nat×Ent)) (h:T P w0 M N (Exit.then (At w0 M N φ σf lf) Q) x σ l)
    (hy:∀ i,φ i→T P w0 M N Q y (σf i) (lf i)):T P w0 M N Q (.seq x y) σ l:=fun hq a w ha hw=>
  wpIn_seq (wpIn_mono (h hq a w ha hw) fun e a' w' q=>by
    cases e with
    | normal=>obtain ⟨i,hi,h1,h2⟩:=q;exact hy i hi hq _ _ h1 h2
    | _=>exact q)
theorem T.ag {c:Code} {ι:Type} (φ:ι→Prop) (σf:ι→List (Nat×Value)) (lf:ι→List (Nat×Ent)) (μ:ι→Nat) (i0:ι) (h0:φ i0) (hσ:Sub (σf i0) σ) (hl:Sub (lf i0) l)
    (round:∀ i,φ i→T P w0 M N (Exit.then (At w0 M N (fun j=>φ j∧μ j < μ i) σf lf) Q) c (σf i) (lf i)):T P w0 M N Q (.loop c) σ l:=by
  intro hq a w ha hw b k cs hro hb hr
  have key:∀ n i,μ i=n→φ i→∀ a w,Has N (σf i) a→WS w0 M (lf i) w→
      ∃ e a' w',Q e a' w'∧ArrivesIn (Machine.fenced P (WF N.ro)) P (lone (b.atR a (.code c::.inLoop c::k)) cs w) b k cs e a' w':=by
    intro n
    induction n using Nat.strongRecOn with
    | _ n ih=>
      intro i hn hi a w ha hw
      obtain ⟨e,a₁,w₁,hq,harr⟩:=round i hi (fun ch a w h1 h2=>hq ch a w h1 h2) a w ha hw b (.inLoop c::k) cs hro hb hr
      cases e with
      | normal=>
        obtain ⟨j,⟨hj,hlt⟩,ha1,hw1⟩:=hq
        obtain ⟨e₂,a₂,w₂,hq₂,harr₂⟩:=ih (μ j) (hn ▸ hlt) j rfl hj a₁ w₁ ha1 hw1
        exact ⟨e₂,a₂,w₂,hq₂,.of_steps (StepsIn.trans harr (.one (fenced_calm hb hr rfl) stepR_inLoop)) harr₂⟩
      | exit id=>exact ⟨_,a₁,w₁,hq,.pass (x:=.inLoop c) rfl (fun _ _=>.inl (by simp)) harr⟩
      | goto l=>exact ⟨_,a₁,w₁,hq,.pass (x:=.inLoop c) rfl (fun _ _=>.inl (by simp)) harr⟩
      | ret=>exact ⟨_,a₁,w₁,hq,.pass (x:=.inLoop c) rfl (fun _ _=>.inl (by simp)) harr⟩
      | panic ch=>exact ⟨_,a₁,w₁,hq,.pass (x:=.inLoop c) rfl (fun _ _=>.inl (by simp)) harr⟩
      | outgrown=>exact ⟨_,a₁,w₁,hq,.pass (x:=.inLoop c) rfl (fun _ _=>.inl (by simp)) harr⟩
  obtain ⟨e,a',w',hq,harr⟩:=key _ i0 rfl h0 a w (ha.sub hσ) (hw.sub hl)
  exact ⟨e,a',w',hq,.of_steps (.one (fenced_calm hb hr rfl) stepR_loop) harr⟩
theorem X.ae {ι:Type} {φ:ι→Prop} {σf:ι→List (Nat×Value)} {lf:ι→List (Nat×Ent)} {μ:ι→Nat} {n:Nat} {Q':Exit→Act→World→Prop} (i:ι) (hφ:φ i) (hμ:μ i < n) (hσ:Sub (σf i) σ) (hl:Sub (lf i) l):
    X w0 M N (Exit.then (At w0 M N (fun j=>φ j∧μ j < n) σf lf) Q') .normal σ l:=fun _ _ _ ha hw=>⟨i,⟨hφ,hμ⟩,ha.sub hσ,hw.sub hl⟩
def argσ:Nat→List Value→List (Nat×Value)
  | _,[]=>[]
  | n,v::vs=>(n,v)::argσ (n+1) vs
theorem znG:∀ (vs:List Value) (k n:Nat) (v:Value),lk (argσ k vs) n=some v→k≤n∧vs[n - k]?=some v
  | [],k,n,v,h=>by simp [argσ,lk] at h
  | u::vs,k,n,v,h=>by
    simp only [argσ,zae] at h
    split at h
    · rename_i hk;subst hk;simpa using h
    · obtain ⟨h1,h2⟩:=znG vs (k+1) n v h
      refine ⟨by omega,?_⟩
      rw [show n - k=(n - (k+1))+1 by omega]
      simpa using h2
theorem zeg {args:List Value} {fn:Func} {N:Nf} (hN:fn.ntmps=N.n) (hD:N.D=[]) (hle:args.length≤N.n):Has N (argσ 0 args) { tmps:=args.toArray++Array.replicate (fn.ntmps - args.toArray.size) undef,defers:=[] }:=by
  refine ⟨by simp [hN];omega,hD.symm,fun n v hn=>?_⟩
  obtain ⟨_,h2⟩:=znG args 0 n v hn
  have hlt:n < args.length:=by
    have:=(List.getElem?_eq_some_iff.1 h2).1
    simpa using this
  rw [Nat.sub_zero] at h2
  rw [Array.getElem?_append]
  simp only [List.size_toArray,hlt,if_true,List.getElem?_toArray]
  exact h2
theorem zac {f:FuncId} {fn:Func} {c:Code} {args:List Value} {R:Ending→World→Prop} (M:List Nat) (N:Nat) (l:List (Nat×Ent)) (hf:P.funcs[f]?=some fn) (hb:fn.body=some c) (hN:fn.ntmps=N)
    (hle:args.length≤N) (hw:WS w M l w) (h:T P w M (Nf.of N) (bodyPost P fn R) c (argσ 0 args) l):Calls P f args.toArray w R:=
  (callsIn_wide (n:=0)).1 (callsIn_of_wp (F:=WF none) hf hb trivial (h (Pq.no fun _ _=>id) _ _ (zeg hN rfl hle) hw))
theorem zcq {f:FuncId} {fn:Func} {c:Code} {args:List Value} {R:Ending→World→Prop} (pn:List PanicEntry→World→Prop) (M:List Nat) (N:Nat) (l:List (Nat×Ent)) (hf:P.funcs[f]?=some fn) (hb:fn.body=some c) (hN:fn.ntmps=N)
    (hle:args.length≤N) (hw:WS w M l w) (hpn:∀ ch w',pn ch w'→R (.panicked ch) w') (h:T P w M ⟨N,[],none,pn⟩ (bodyPost P fn R) c (argσ 0 args) l):Calls P f args.toArray w R:=
  (callsIn_wide (n:=0)).1 (callsIn_of_wp (F:=WF none) hf hb trivial (h (fun ch a w hd hp=>⟨hd,hpn ch w hp⟩) _ _ (zeg hN rfl hle) hw))
def aggD (d:TypeDesc):Bool:=match d with
  | .struct _ | .array _ _=>true
  | _=>false
def AggT (P:Program) (t:TypeId) (n:Nat):Prop:=(∃ d,P.underlying t=some d∧aggD d=true)∧(P.info? t).map (·.size)=some n
def OneT (P:Program) (t:TypeId):Prop:=(∃ d,P.underlying t=some d∧aggD d=false)∧(P.info? t).map (·.size)=some 1
theorem zeO {t:TypeId} {d:TypeDesc} (h:P.underlying t=some d) (w:World):(isAgg t).run P w=.ok (aggD d) w:=by
  simp only [isAgg,Sem.run_bind,run_underlying h,Result.andThen]
  cases d<;>rfl
theorem zav {t:TypeId} {n:Nat} (h:(P.info? t).map (·.size)=some n) (w:World):(sizeOf t).run P w=.ok n w:=by
  cases hi:P.info? t with
  | none=>simp [hi] at h
  | some i=>simp [hi] at h;subst h;simp [sizeOf,typeInfo,hi]
theorem zaU {t:TypeId} {n:Nat} (ht:AggT P t n) (ad:Addr) (cs:List Value) (hn:cs.length=n) (hc:∀ j v,cs[j]?=some v→w.cell? (ad.add j)=some v):(loadVar t ad).run P w=.ok (.agg cs.toArray) w:=by
  obtain ⟨⟨d,hd,hdd⟩,hs⟩:=ht
  subst hn
  simp [loadVar,zeO hd,hdd,zav hs,run_loadCells_list (P:=P) w ad cs hc]
theorem zaT {t:TypeId} (ht:OneT P t) (ad:Addr) (v:Value) (hc:w.cell? ad=some v):(loadVar t ad).run P w=.ok v w:=by
  obtain ⟨⟨d,hd,hdd⟩,hs⟩:=ht
  simp [loadVar,zeO hd,hdd,hc]
def RV (P:Program) (w0:World) (M:List Nat) (σ:List (Nat×Value)) (l:List (Nat×Ent)) (r:ResultVar) (v:Value):Prop:=
  match r with
  | .tmp t=>lk σ t=some v
  | .cell a t=>∃ ad,lk σ a=some (.pointer (some ad))∧∀ w,WS w0 M l w→(loadVar t ad).run P w=.ok v w
theorem RV.tmp {t:Nat} {v:Value} (h:lk σ t=some v):RV P w0 M σ l (.tmp t) v:=h
theorem RV.agg {p t n:Nat} {v:Value} (k:Nat) {e:Ent} {o:Nat} (he:lk l k=some e) (hp:lk σ p=some (.pointer (some ⟨e.id.getD 0,o,none⟩))) (ht:AggT P t n)
    (cs:List Value) (hn:cs.length=n) (hc:(e.cs.drop o).take n=cs) (hv:v=.agg cs.toArray):RV P w0 M σ l (.cell p t) v:=by
  refine ⟨_,hp,fun w hw=>?_⟩
  rw [hv]
  refine zaU ht _ cs hn fun j v hj=>?_
  have:(⟨e.id.getD 0,o,none⟩:Addr).add j=⟨e.id.getD 0,o+j,none⟩:=by unfold Addr.add;split<;>simp_all
  rw [this]
  refine hw.cell he ?_
  rw [← hc] at hj
  have hlt:j < n:=by
    rcases Nat.lt_or_ge j n with h | h
    · exact h
    · rw [List.getElem?_eq_none (by simp;omega)] at hj;cases hj
  rw [List.getElem?_take_of_lt hlt,List.getElem?_drop] at hj
  exact hj
theorem RV.one {p t:Nat} {v:Value} (k:Nat) {e:Ent} {o:Nat} (he:lk l k=some e) (hp:lk σ p=some (.pointer (some ⟨e.id.getD 0,o,none⟩))) (ht:OneT P t) (hv:e.cs[o]?=some v):RV P w0 M σ l (.cell p t) v:=
  ⟨_,hp,fun _ hw=>zaT ht _ _ (hw.cell he hv)⟩
def rvSem (tmps:Array Value) (r:ResultVar):Sem Value:=match r with
  | .tmp t=>Pure.pure (tmps.getD t undef)
  | .cell p t=>do loadVar t (← asAddr (tmps.getD p undef))
theorem RV.run {r:ResultVar} {v:Value} (h:RV P w0 M σ l r v) (ha:Has N σ a) (hw:WS w0 M l w):(rvSem a.tmps r).run P w=.ok v w:=by
  cases r with
  | tmp t=>have:=ha.get t v h;simp [rvSem,this]
  | cell p t=>
    obtain ⟨ad,hp,hl⟩:=h
    have:=ha.get p _ hp
    simp [rvSem,this,asAddr,hl w hw]
theorem zcf (fn:Func) (tmps:Array Value):results fn tmps=(do
    let vs ← fn.results.mapM (rvSem tmps)
    Pure.pure (if h:vs.size=1 then vs[0] else .tuple vs)):=by
  unfold results
  congr 2
theorem X.aI {fn:Func} {R:Ending→World→Prop} (hr:fn.results=#[]) (h:∀ w,WS w0 M l w→R (.returned (.tuple #[])) w) (hD:N.D=[]:=by rfl):X w0 M N (bodyPost P fn R) .ret σ l:=fun _ a w ha hw=>
  ⟨ha.defers.trans hD,_,by simp [results,hr],h w hw⟩
theorem X.am {fn:Func} {R:Ending→World→Prop} (hr:fn.results=#[]) (h:∀ w,WS w0 M l w→R (.returned (.tuple #[])) w) (hD:N.D=[]:=by rfl):X w0 M N (bodyPost P fn R) .normal σ l:=fun _ a w ha hw=>
  ⟨ha.defers.trans hD,_,by simp [results,hr],h w hw⟩
theorem X.aa {fn:Func} {R:Ending→World→Prop} {r:ResultVar} {v:Value} (hr:fn.results=#[r]) (hv:RV P w0 M σ l r v) (h:∀ w,WS w0 M l w→R (.returned v) w) (hD:N.D=[]:=by rfl):X w0 M N (bodyPost P fn R) .ret σ l:=fun _ a w ha hw=>
  ⟨ha.defers.trans hD,v,by simp [zcf,hr,hv.run ha hw],h w hw⟩
theorem X.ag {fn:Func} {R:Ending→World→Prop} {r s:ResultVar} {v u:Value} (hr:fn.results=#[r,s]) (hv:RV P w0 M σ l r v) (hu:RV P w0 M σ l s u) (h:∀ w,WS w0 M l w→R (.returned (.tuple #[v,u])) w) (hD:N.D=[]:=by rfl):X w0 M N (bodyPost P fn R) .ret σ l:=fun _ a w ha hw=>
  ⟨ha.defers.trans hD,_,by simp [zcf,hr,hv.run ha hw,hu.run ha hw],h w hw⟩
end Go.Fw
namespace Go.Fw
open Go
variable {P:Program} {ops:Array Oper} {F:Act→World→Prop} {w0:World} {M:List Nat} {N:Nf} {L:List (Oper×K)} {σ:List (Nat×Value)} {l lS:List (Nat×Ent)} {k:K}
  {d:Option Tmp} {ty:TypeId} {p:String} {af:Array Edge} {v v1 v2 z:Value} {x y c:Operand} {t:TypeId} {kd:IntKind} {n m r:Int} {b:Bool}
theorem J.bp (hx:ev σ x=some v) (hd:okd N d) (h:J P ops F w0 M N lS L (putd d v σ) l):J P ops F w0 M N lS ((⟨d,.move x,ty,p,af,none⟩,k)::L) σ l:=
  J.aC rfl hd v (fun a ha w=>by simp [execOp,ha.eval hx]) h
theorem J.bu (hx:ev σ x=some v) (hd:okd N d) (h:J P ops F w0 M N lS L (putd d v σ) l):J P ops F w0 M N lS ((⟨d,.assign x,ty,p,af,none⟩,k)::L) σ l:=
  J.aC rfl hd v (fun a ha w=>by simp [execOp,ha.eval hx]) h
theorem J.bQ (hc:ev σ c=some (.bool true)) (hx:ev σ x=some v) (hd:okd N d) (h:J P ops F w0 M N lS L (putd d v σ) l):J P ops F w0 M N lS ((⟨d,.pick c x y,ty,p,af,none⟩,k)::L) σ l:=
  J.aC rfl hd v (fun a ha w=>by simp [execOp,ha.eval hc,ha.eval hx,asBool]) h
theorem J.bR (hc:ev σ c=some (.bool false)) (hy:ev σ y=some v) (hd:okd N d) (h:J P ops F w0 M N lS L (putd d v σ) l):J P ops F w0 M N lS ((⟨d,.pick c x y,ty,p,af,none⟩,k)::L) σ l:=
  J.aC rfl hd v (fun a ha w=>by simp [execOp,ha.eval hc,ha.eval hy,asBool]) h
theorem J.aq {t':TypeId} (hx:ev σ x=some (.int kd n)) (hy:ev σ y=some (.int kd m)) (hd:okd N d) (hz:kd.wrap (n+m)=r) (h:J P ops F w0 M N lS L (putd d (.int kd r) σ) l):J P ops F w0 M N lS ((⟨d,.binOp .add t x y t',ty,p,af,none⟩,k)::L) σ l:=
  J.aC rfl hd _ (fun a ha w=>by subst hz;simp [execOp,ha.eval hx,ha.eval hy,eqGuard_add,binOp_add,Op.intArith]) h
theorem J.aI {t':TypeId} (hx:ev σ x=some (.int kd n)) (hy:ev σ y=some (.int kd m)) (hd:okd N d) (hz:kd.wrap (n - m)=r) (h:J P ops F w0 M N lS L (putd d (.int kd r) σ) l):J P ops F w0 M N lS ((⟨d,.binOp .sub t x y t',ty,p,af,none⟩,k)::L) σ l:=
  J.aC rfl hd _ (fun a ha w=>by subst hz;simp [execOp,ha.eval hx,ha.eval hy,eqGuard_sub,binOp_sub,Op.intArith]) h
theorem J.bA {t':TypeId} (hx:ev σ x=some (.int kd n)) (hy:ev σ y=some (.int kd m)) (hd:okd N d) (hz:kd.wrap (n*m)=r) (h:J P ops F w0 M N lS L (putd d (.int kd r) σ) l):J P ops F w0 M N lS ((⟨d,.binOp .mul t x y t',ty,p,af,none⟩,k)::L) σ l:=
  J.aC rfl hd _ (fun a ha w=>by subst hz;simp [execOp,ha.eval hx,ha.eval hy,eqGuard_mul,binOp_mul,Op.intArith]) h
theorem J.dv {t':TypeId} (hx:ev σ x=some (.int kd n)) (hy:ev σ y=some (.int kd m)) (hd:okd N d) (hm:m≠0) (hz:kd.wrap (n.tdiv m)=r) (h:J P ops F w0 M N lS L (putd d (.int kd r) σ) l):J P ops F w0 M N lS ((⟨d,.binOp .quo t x y t',ty,p,af,none⟩,k)::L) σ l:=
  J.aC rfl hd _ (fun a ha w=>by subst hz;simp [execOp,ha.eval hx,ha.eval hy,eqGuard_quo,binOp_quo,Op.intDiv,hm]) h
theorem J.dt {t':TypeId} (hx:ev σ x=some (.int kd n)) (hy:ev σ y=some (.int kd m)) (hd:okd N d) (hm:m≠0) (hz:n.tmod m=r) (h:J P ops F w0 M N lS L (putd d (.int kd r) σ) l):J P ops F w0 M N lS ((⟨d,.binOp .rem t x y t',ty,p,af,none⟩,k)::L) σ l:=
  J.aC rfl hd _ (fun a ha w=>by subst hz;simp [execOp,ha.eval hx,ha.eval hy,eqGuard_rem,binOp_rem,Op.intDiv,hm]) h
theorem J.cI {t':TypeId} (hx:ev σ x=some (.int kd n)) (hy:ev σ y=some (.int kd m)) (hd:okd N d) (hz:bits .and kd n m=r) (h:J P ops F w0 M N lS L (putd d (.int kd r) σ) l):J P ops F w0 M N lS ((⟨d,.binOp .and t x y t',ty,p,af,none⟩,k)::L) σ l:=
  J.aC rfl hd _ (fun a ha w=>by subst hz;simp [execOp,ha.eval hx,ha.eval hy,eqGuard_and,binOp_and,intBits_and]) h
theorem J.cW {t':TypeId} (hx:ev σ x=some (.int kd n)) (hy:ev σ y=some (.int kd m)) (hd:okd N d) (hz:bits .or kd n m=r) (h:J P ops F w0 M N lS L (putd d (.int kd r) σ) l):J P ops F w0 M N lS ((⟨d,.binOp .or t x y t',ty,p,af,none⟩,k)::L) σ l:=
  J.aC rfl hd _ (fun a ha w=>by subst hz;simp [execOp,ha.eval hx,ha.eval hy,eqGuard_or,binOp_or,intBits_or]) h
theorem J.cT {t':TypeId} {yk:IntKind} (hx:ev σ x=some (.int kd n)) (hy:ev σ y=some (.int yk m)) (hd:okd N d) (hm:0≤m) (hz:kd.wrap (n*2^min m.toNat kd.bits)=r) (h:J P ops F w0 M N lS L (putd d (.int kd r) σ) l):J P ops F w0 M N lS ((⟨d,.binOp .shl t x y t',ty,p,af,none⟩,k)::L) σ l:=
  J.aC rfl hd _ (fun a ha w=>by subst hz;simp [execOp,ha.eval hx,ha.eval hy,eqGuard_shl,binOp_shl,Op.shift,Int.not_lt.2 hm]) h
theorem J.bK {t':TypeId} {yk:IntKind} (hx:ev σ x=some (.int kd n)) (hy:ev σ y=some (.int yk m)) (hd:okd N d) (hm:0≤m) (hz:n.fdiv (2^min m.toNat kd.bits)=r) (h:J P ops F w0 M N lS L (putd d (.int kd r) σ) l):J P ops F w0 M N lS ((⟨d,.binOp .shr t x y t',ty,p,af,none⟩,k)::L) σ l:=
  J.aC rfl hd _ (fun a ha w=>by subst hz;simp [execOp,ha.eval hx,ha.eval hy,eqGuard_shr,binOp_shr,Op.shift,Int.not_lt.2 hm]) h
theorem J.bq {t':TypeId} (hx:ev σ x=some (.int kd n)) (hy:ev σ y=some (.int kd m)) (hd:okd N d) (hz:decide (n < m)=b) (h:J P ops F w0 M N lS L (putd d (.bool b) σ) l):J P ops F w0 M N lS ((⟨d,.binOp .lss t x y t',ty,p,af,none⟩,k)::L) σ l:=
  J.aC rfl hd _ (fun a ha w=>by subst hz;simp [execOp,ha.eval hx,ha.eval hy,eqGuard_lss,binOp_lss]) h
theorem J.bB {t':TypeId} (hx:ev σ x=some (.int kd n)) (hy:ev σ y=some (.int kd m)) (hd:okd N d) (hz:decide (n≤m)=b) (h:J P ops F w0 M N lS L (putd d (.bool b) σ) l):J P ops F w0 M N lS ((⟨d,.binOp .leq t x y t',ty,p,af,none⟩,k)::L) σ l:=
  J.aC rfl hd _ (fun a ha w=>by subst hz;simp [execOp,ha.eval hx,ha.eval hy,eqGuard_leq,binOp_leq]) h
theorem J.bD {t':TypeId} (hx:ev σ x=some (.int kd n)) (hy:ev σ y=some (.int kd m)) (hd:okd N d) (hz:decide (m < n)=b) (h:J P ops F w0 M N lS L (putd d (.bool b) σ) l):J P ops F w0 M N lS ((⟨d,.binOp .gtr t x y t',ty,p,af,none⟩,k)::L) σ l:=
  J.aC rfl hd _ (fun a ha w=>by subst hz;simp [execOp,ha.eval hx,ha.eval hy,eqGuard_gtr,binOp_gtr]) h
theorem J.br {t':TypeId} (hx:ev σ x=some (.int kd n)) (hy:ev σ y=some (.int kd m)) (hd:okd N d) (hz:decide (m≤n)=b) (h:J P ops F w0 M N lS L (putd d (.bool b) σ) l):J P ops F w0 M N lS ((⟨d,.binOp .geq t x y t',ty,p,af,none⟩,k)::L) σ l:=
  J.aC rfl hd _ (fun a ha w=>by subst hz;simp [execOp,ha.eval hx,ha.eval hy,eqGuard_geq,binOp_geq]) h
theorem J.aT {t':TypeId} (hx:ev σ x=some (.int kd n)) (hy:ev σ y=some (.int kd m)) (hd:okd N d) (hz:decide (n=m)=b) (h:J P ops F w0 M N lS L (putd d (.bool b) σ) l):J P ops F w0 M N lS ((⟨d,.binOp .eql t x y t',ty,p,af,none⟩,k)::L) σ l:=
  J.aC rfl hd _ (fun a ha w=>by subst hz;simp [execOp,ha.eval hx,ha.eval hy,eqGuard_at_int,binOp_eql];rfl) h
theorem J.be {t':TypeId} (hx:ev σ x=some (.int kd n)) (hy:ev σ y=some (.int kd m)) (hd:okd N d) (hz:decide (n≠m)=b) (h:J P ops F w0 M N lS L (putd d (.bool b) σ) l):J P ops F w0 M N lS ((⟨d,.binOp .neq t x y t',ty,p,af,none⟩,k)::L) σ l:=
  J.aC rfl hd _ (fun a ha w=>by
    subst hz
    simp only [execOp,ha.eval hx,ha.eval hy,eqGuard_at_int,binOp_neq,Sem.run_bind,Sem.run_pure,Result.andThen]
    have:(n != m)=decide (n≠m):=by by_cases h:n=m<;>simp [h]
    rw [this]) h
theorem J.aS {op:BinOp} {t':TypeId} (hx:ev σ x=some v1) (hy:ev σ y=some v2) (hd:okd N d) (hz:∀ w,(do eqGuard op t x y v1 v2;binOp op t v1 v2:Sem Value).run P w=.ok z w) (h:J P ops F w0 M N lS L (putd d z σ) l):
    J P ops F w0 M N lS ((⟨d,.binOp op t x y t',ty,p,af,none⟩,k)::L) σ l:=
  J.aC rfl hd _ (fun a ha w=>by
    have:=hz w
    simp only [execOp,ha.eval hx,ha.eval hy,Sem.run_bind] at this ⊢
    rw [this];rfl) h
theorem J.aA {b':Bool} (hx:ev σ x=some (.bool b')) (hd:okd N d) (hz:(!b')=b) (h:J P ops F w0 M N lS L (putd d (.bool b) σ) l):J P ops F w0 M N lS ((⟨d,.unOp .not t x,ty,p,af,none⟩,k)::L) σ l:=
  J.aC rfl hd _ (fun a ha w=>by subst hz;simp [execOp,ha.eval hx,Op.unary]) h
theorem J.aN {src dst:TypeId} {ks:IntKind} (hs:(P.underlying src).isSome=true) (ht:P.underlying dst=some (.int kd)) (hx:ev σ x=some (.int ks n)) (hd:okd N d) (hz:kd.wrap n=r) (h:J P ops F w0 M N lS L (putd d (.int kd r) σ) l):
    J P ops F w0 M N lS ((⟨d,.convert src dst x,ty,p,af,none⟩,k)::L) σ l:=
  J.aC rfl hd _ (fun a ha w=>by
    subst hz
    cases hu:P.underlying src with
    | none=>simp [hu] at hs
    | some ud=>cases ud<;>simp [execOp,ha.eval hx,convert,run_underlying hu,run_underlying ht,Conv.intToInt]) h
theorem J.bx {i:Nat} {vs:List Value} (hx:ev σ x=some (.tuple vs.toArray)) (hi:vs[i]?=some v) (hd:okd N d) (h:J P ops F w0 M N lS L (putd d v σ) l):J P ops F w0 M N lS ((⟨d,.extract x i,ty,p,af,none⟩,k)::L) σ l:=
  J.aC rfl hd v (fun a ha w=>by simp [execOp,ha.eval hx,Instr.extract,hi]) h
theorem J.ce {ad:Addr} (hx:ev σ x=some (.pointer (some ad))) (hd:okd N d) (h:J P ops F w0 M N lS L (putd d (.pointer (some ad)) σ) l):J P ops F w0 M N lS ((⟨d,.nilCheck x,ty,p,af,none⟩,k)::L) σ l:=
  J.aC rfl hd _ (fun a ha w=>by simp [execOp,ha.eval hx]) h
theorem J.bl {fn:Fn} {fs cs:Array Operand} {vf vc:List Value} (hf:evs σ fs.toList=some vf) (hc:evs σ cs.toList=some vc) (hd:okd N d) (h:J P ops F w0 M N lS L (putd d (.func fn vf.toArray vc.toArray) σ) l):
    J P ops F w0 M N lS ((⟨d,.makeFunc fn fs cs,ty,p,af,none⟩,k)::L) σ l:=
  J.aC rfl hd _ (fun a ha w=>by
    have h1:fs.map a.eval=vf.toArray:=by rw [← ha.evals hf,← Array.toList_map,Array.toArray_toList]
    have h2:cs.map a.eval=vc.toArray:=by rw [← ha.evals hc,← Array.toList_map,Array.toArray_toList]
    simp [execOp,Instr.makeFunc,h1,h2]) h
def ZeroT (P:Program) (t:TypeId) (z:Value):Prop:=(P.info? t).map (·.zero)=some (some z)
theorem zaZ (h:ZeroT P t z) (w:World):(zeroValue t).run P w=.ok z w:=by
  unfold ZeroT at h
  cases hi:P.info? t with
  | none=>simp [hi] at h
  | some i=>simp [hi] at h;simp [zeroValue,typeInfo,hi,h]
theorem J.cU {op:Op} (hd:okd N d) (h:Nat) (hh:lk lS h=none) (cs:List Value) (hr:∀ a,Has N σ a→∀ w,(execOp a.eval ⟨d,op,ty,p,af,none⟩).run P w=.ok (.value (.pointer (some ⟨w.heap.size,0,none⟩))) (w.alloc (.cells cs.toArray t)))
    (hJ:∀ g,w0.heap.size≤g→J P ops F w0 M N lS L (putd d (.pointer (some ⟨g,0,none⟩)) σ) ((h,⟨some g,t,cs⟩)::l)):J P ops F w0 M N lS ((⟨d,op,ty,p,af,none⟩,.l)::L) σ l:=
  J.aR rfl hd (ι:=Nat) (fun g=>w0.heap.size≤g) (fun g=>.pointer (some ⟨g,0,none⟩)) (fun g=>(h,⟨some g,t,cs⟩)::l) (fun _ _ hs=>hs.fresh hh)
    (fun a ha w hw=>by rw [hr a ha w];exact ⟨_,hw.size,rfl,hw.alloc h cs t⟩) hJ
theorem J.am (h:Nat) (hh:lk lS h=none) (hz:ZeroT P t z) (cs:List Value) (hc:z.cells=cs.toArray) (hd:okd N d)
    (hJ:∀ g,w0.heap.size≤g→J P ops F w0 M N lS L (putd d (.pointer (some ⟨g,0,none⟩)) σ) ((h,⟨some g,t,cs⟩)::l)):J P ops F w0 M N lS ((⟨d,.alloc t,ty,p,af,none⟩,.l)::L) σ l:=
  J.cU hd h hh cs (fun a ha w=>by
    simp only [execOp,Instr.alloc,Sem.run_bind,zaZ hz,Result.andThen,newVar,newRow,run_newObj,hc]
    rfl) hJ
theorem J.cS (h:Nat) (hh:lk lS h=none) (hl:lk l h=none) (hz:ZeroT P t z) (cs:List Value) (hc:z.cells=cs.toArray) (hd:okd N d)
    (hJ:∀ g,w0.heap.size≤g→J P ops F w0 M N lS L (putd d (.pointer (some ⟨g,0,none⟩)) σ) ((h,⟨some g,t,cs⟩)::l)):J P ops F w0 M N lS ((⟨d,.alloc t,ty,p,af,none⟩,.a h)::L) σ l:=
  J.dh h hd hh hl cs (fun a ha w=>by
    simp only [execOp,Instr.alloc,Sem.run_bind,zaZ hz,Result.andThen,newVar,newRow,run_newObj,hc]
    rfl) hJ
theorem J.aE (h:Nat) (hh:lk lS h=none) (hx:ev σ x=some v) (cs:List Value) (hc:v.cells=cs.toArray) (hd:okd N d)
    (hJ:∀ g,w0.heap.size≤g→J P ops F w0 M N lS L (putd d (.pointer (some ⟨g,0,none⟩)) σ) ((h,⟨some g,t,cs⟩)::l)):J P ops F w0 M N lS ((⟨d,.box t x,ty,p,af,none⟩,.l)::L) σ l:=
  J.cU hd h hh cs (fun a ha w=>by
    simp only [execOp,Instr.box,ha.eval hx,Sem.run_bind,newVar,newRow,run_newObj,hc,Result.andThen]
    rfl) hJ
theorem J.ag (hk:nog k) (h:Nat) {e:Ent} {o:Nat} (he:lk l h=some e) (hx:ev σ x=some (.pointer (some ⟨e.id.getD 0,o,none⟩))) (ht:OneT P t) (hv:e.cs[o]?=some v) (hd:okd N d)
    (hJ:J P ops F w0 M N lS L (putd d v σ) l):J P ops F w0 M N lS ((⟨d,.load t x,ty,p,af,none⟩,k)::L) σ l:=
  J.ba rfl hk hd v (fun a ha w hw=>by
    simp [execOp,ha.eval hx,Instr.loadAt,Instr.sureAddr,zaT ht _ _ (hw.cell he hv)]) hJ
theorem zfs {cs vs:List Value} {o n:Nat} (hc:(cs.drop o).take n=vs) {j:Nat} {u:Value} (hj:vs[j]?=some u):cs[o+j]?=some u:=by
  rw [← hc] at hj
  rcases Nat.lt_or_ge j n with h | h
  · rw [List.getElem?_take_of_lt h,List.getElem?_drop] at hj;exact hj
  · rw [List.getElem?_eq_none (by simp;omega)] at hj;cases hj
theorem J.ai (hk:nog k) (h:Nat) {e:Ent} {o n:Nat} (he:lk l h=some e) (hx:ev σ x=some (.pointer (some ⟨e.id.getD 0,o,none⟩))) (ht:AggT P t n) (vs:List Value) (hn:vs.length=n) (hv:(e.cs.drop o).take n=vs) (hd:okd N d)
    (hJ:J P ops F w0 M N lS L (putd d (.agg vs.toArray) σ) l):J P ops F w0 M N lS ((⟨d,.load t x,ty,p,af,none⟩,k)::L) σ l:=
  J.ba rfl hk hd _ (fun a ha w hw=>by
    have hl:=zaU (P:=P) (w:=w) ht ⟨e.id.getD 0,o,none⟩ vs hn (fun j u hj=>by
      rw [show (⟨e.id.getD 0,o,none⟩:Addr).add j=⟨e.id.getD 0,o+j,none⟩ by unfold Addr.add;split<;>simp_all]
      exact hw.cell he (zfs hv hj))
    simp [execOp,ha.eval hx,Instr.loadAt,Instr.sureAddr,hl]) hJ
theorem J.aJ (h:Nat) {e:Ent} {o:Nat} (he:lk lS h=some e) (hx:ev σ x=some (.pointer (some ⟨e.id.getD 0,o,none⟩))) (ht:OneT P t) (hv:e.cs[o]?=some v) (hd:okd N d)
    (hJ:J P ops F w0 M N lS L (putd d v σ) l):J P ops F w0 M N lS ((⟨d,.load t x,ty,p,af,none⟩,.s)::L) σ l:=
  J.bm rfl hd v (fun a ha w hw=>by
    simp [execOp,ha.eval hx,Instr.loadAt,Instr.sureAddr,zaT ht _ _ (hw.cell he hv)]) hJ
theorem J.bT (h:Nat) {e:Ent} {o n:Nat} (he:lk lS h=some e) (hx:ev σ x=some (.pointer (some ⟨e.id.getD 0,o,none⟩))) (ht:AggT P t n) (vs:List Value) (hn:vs.length=n) (hv:(e.cs.drop o).take n=vs) (hd:okd N d)
    (hJ:J P ops F w0 M N lS L (putd d (.agg vs.toArray) σ) l):J P ops F w0 M N lS ((⟨d,.load t x,ty,p,af,none⟩,.s)::L) σ l:=
  J.bm rfl hd _ (fun a ha w hw=>by
    have hl:=zaU (P:=P) (w:=w) ht ⟨e.id.getD 0,o,none⟩ vs hn (fun j u hj=>by
      rw [show (⟨e.id.getD 0,o,none⟩:Addr).add j=⟨e.id.getD 0,o+j,none⟩ by unfold Addr.add;split<;>simp_all]
      exact hw.cell he (zfs hv hj))
    simp [execOp,ha.eval hx,Instr.loadAt,Instr.sureAddr,hl]) hJ
theorem J.av (hk:nog k) {A:Option Addr} {cs:List Value} {i:Nat} (hc:Cs w0 A cs) (ho:Off M A) (hx:ev σ x=some (.pointer (some ((A.getD default).add i)))) (ht:OneT P t) (hv:cs[i]?=some v) (hd:okd N d)
    (hJ:J P ops F w0 M N lS L (putd d v σ) l):J P ops F w0 M N lS ((⟨d,.load t x,ty,p,af,none⟩,k)::L) σ l:=
  J.ba rfl hk hd v (fun a ha w hw=>by
    obtain ⟨ad,hA,hcell⟩:=(hc.ws hw ho) i v hv
    subst hA
    simp only [Option.getD_some] at hx
    simp [execOp,ha.eval hx,Instr.loadAt,Instr.sureAddr,zaT ht _ _ hcell]) hJ
theorem J.ar (hk:nog k) {A:Option Addr} {cs:List Value} {i n:Nat} (hc:Cs w0 A cs) (ho:Off M A) (hx:ev σ x=some (.pointer (some ((A.getD default).add i)))) (ht:AggT P t n) (vs:List Value) (hn:vs.length=n) (hv:(cs.drop i).take n=vs) (hd:okd N d)
    (hJ:J P ops F w0 M N lS L (putd d (.agg vs.toArray) σ) l):J P ops F w0 M N lS ((⟨d,.load t x,ty,p,af,none⟩,k)::L) σ l:=
  J.ba rfl hk hd _ (fun a ha w hw=>by
    have hl:=zaU (P:=P) (w:=w) ht ((A.getD default).add i) vs hn (fun j u hj=>by
      obtain ⟨ad,hA,hcell⟩:=(hc.ws hw ho) (i+j) u (zfs hv hj)
      subst hA
      rw [Addr.add_add];exact hcell)
    simp [execOp,ha.eval hx,Instr.loadAt,Instr.sureAddr,hl]) hJ
theorem J.bM {A:Option Addr} {cs:List Value} {i:Nat} (hc:Cs w0 A cs) (ho:Off M A) (hx:ev σ x=some (.pointer (some ((A.getD default).add i)))) (ht:OneT P t) (hv:cs[i]?=some v) (hd:okd N d)
    (hJ:J P ops F w0 M N lS L (putd d v σ) l):J P ops F w0 M N lS ((⟨d,.load t x,ty,p,af,none⟩,.s)::L) σ l:=
  J.bm rfl hd v (fun a ha w hw=>by
    obtain ⟨ad,hA,hcell⟩:=(hc.ws hw ho) i v hv
    subst hA
    simp only [Option.getD_some] at hx
    simp [execOp,ha.eval hx,Instr.loadAt,Instr.sureAddr,zaT ht _ _ hcell]) hJ
theorem J.bh {A:Option Addr} {cs:List Value} {i n:Nat} (hc:Cs w0 A cs) (ho:Off M A) (hx:ev σ x=some (.pointer (some ((A.getD default).add i)))) (ht:AggT P t n) (vs:List Value) (hn:vs.length=n) (hv:(cs.drop i).take n=vs) (hd:okd N d)
    (hJ:J P ops F w0 M N lS L (putd d (.agg vs.toArray) σ) l):J P ops F w0 M N lS ((⟨d,.load t x,ty,p,af,none⟩,.s)::L) σ l:=
  J.bm rfl hd _ (fun a ha w hw=>by
    have hl:=zaU (P:=P) (w:=w) ht ((A.getD default).add i) vs hn (fun j u hj=>by
      obtain ⟨ad,hA,hcell⟩:=(hc.ws hw ho) (i+j) u (zfs hv hj)
      subst hA
      rw [Addr.add_add];exact hcell)
    simp [execOp,ha.eval hx,Instr.loadAt,Instr.sureAddr,hl]) hJ
def put (cs:List Value) (o:Nat) (vs:List Value):List Value:=cs.take o++vs++cs.drop (o+vs.length)
theorem zns (cs:List Value) (o:Nat) (v:Value) (ho:o < cs.length):put cs o [v]=cs.set o v:=by
  apply List.ext_getElem?
  intro j
  simp only [put,List.getElem?_append,List.length_append,List.length_take,List.length_singleton,List.getElem?_set,Nat.min_eq_left (Nat.le_of_lt ho)]
  by_cases h1:j < o
  · simp [h1,Nat.ne_of_gt h1,show j < o+1 by omega]
  · by_cases h2:j=o
    · subst h2;simp [ho]
    · have h3:¬ j < o+1:=by omega
      simp only [h3,if_false,List.getElem?_drop]
      rw [if_neg (by omega)]
      congr 1;omega
theorem zeM {w:World} {g o:Nat} {e:Ent} (hg:e.id=some g) (hat:e.At w) (vs:List Value) (hfit:o+vs.length≤e.cs.length) (h1:∀ u∈vs,u.oneCell'=true):
    (storeCells ⟨g,o,none⟩ vs).run P w=.ok () (w.setRow g (put e.cs o vs).toArray):=by
  obtain ⟨t,_,hat'⟩:∃ t,e.t=.ty t∧w.heap[g]?=some (.cells e.cs.toArray t (0,0)):=by simpa only [Ent.At,hg] using hat
  have:=run_storeCells_at P g o t vs 0 e.cs.toArray w hat' (by simpa using hfit) h1
  simpa [put] using this
theorem J.ae (h:Nat) (hh:lk lS h=none) {e:Ent} {o:Nat} (he:lk l h=some e) (hx:ev σ x=some (.pointer (some ⟨e.id.getD 0,o,none⟩))) (hy:ev σ y=some v) (vs:List Value) (hv:v.cells=vs.toArray) (hs:(P.info? t).map (·.size)=some vs.length)
    (hfit:o+vs.length≤e.cs.length) (h1:∀ u∈vs,u.oneCell'=true) (hne:0 < vs.length) (hd:okd N d) (cs':List Value) (hcs:put e.cs o vs=cs')
    (hJ:J P ops F w0 M N lS L (putd d undef σ) ((h,⟨e.id,e.t,cs'⟩)::l)):J P ops F w0 M N lS ((⟨d,.store t x y,ty,p,af,none⟩,.l)::L) σ l:=
  J.aR rfl hd (ι:=Unit) (fun _=>True) (fun _=>undef) (fun _=>(h,⟨e.id,e.t,cs'⟩)::l) (fun _ _ hs=>hs.fresh hh) (fun a ha w hw=>by
    have hat:=hw.live h e he
    cases hid:e.id with
    | none=>
      simp only [Ent.At,hid] at hat
      rw [hat.1] at hfit
      simp at hfit
      simp [hfit.2] at hne
    | some g=>
      rw [hid] at hx
      simp only [Option.getD_some] at hx
      have hst:=zeM (P:=P) hid hat vs hfit h1
      have hsz:vs.length=v.cells.size:=by simp [hv]
      have hset:=hw.set he hid (put e.cs o vs)
      rw [hcs,hid] at hset
      have hrun:(execOp a.eval ⟨d,.store t x y,ty,p,af,none⟩).run P w=.ok .skip (w.setRow g (put e.cs o vs).toArray):=by
        simp only [execOp,ha.eval hx,ha.eval hy,Instr.storeAt,Instr.sureAddr,storeVar,Sem.run_bind,Sem.run_pure,Result.andThen,zav hs,hsz,ne_eq,not_true_eq_false,if_false,hv,hst]
      rw [hrun,hcs]
      exact ⟨(),trivial,rfl,hset⟩) (fun _ _=>hJ)
end Go.Fw
namespace Go.Fw
open Go
variable {P:Program} {ops:Array Oper} {F:Act→World→Prop} {w0:World} {M:List Nat} {N:Nf} {L:List (Oper×K)} {σ:List (Nat×Value)} {l lS:List (Nat×Ent)} {k:K}
  {d:Option Tmp} {ty:TypeId} {p:String} {af:Array Edge} {v v1 v2 z:Value} {x y c:Operand} {t:TypeId} {kd:IntKind} {n m r:Int} {b:Bool}
theorem zbF (g o i:Nat):(⟨g,o,none⟩:Addr).add i=⟨g,o+i,none⟩:=by unfold Addr.add;split<;>simp_all
def SizeT (P:Program) (t:TypeId) (n:Nat):Prop:=(P.info? t).map (·.size)=some n
def FldT (P:Program) (s:TypeId) (i:Nat) (ft:TypeId) (off sz:Nat):Prop:=
  (match P.underlying s with | some (.struct fs)=>(fs[i]?).map (fun f=>(f.type,f.offset)) | _=>none)=some (ft,off)∧SizeT P ft (sz+1)
theorem FldT.open {s i ft off sz:Nat} (h:FldT P s i ft off sz):∃ fs f,P.underlying s=some (.struct fs)∧fs[i]?=some f∧f.type=ft∧f.offset=off:=by
  obtain ⟨h1,_⟩:=h
  cases hu:P.underlying s with
  | none=>simp [hu] at h1
  | some dd=>
    cases dd with
    | struct fs=>
      simp only [hu] at h1
      cases hf:fs[i]? with
      | none=>simp [hf] at h1
      | some f=>simp [hf] at h1;exact ⟨fs,f,rfl,hf,h1.1,h1.2⟩
    | _=>simp [hu] at h1
theorem zgo {s i ft off sz:Nat} (hf:FldT P s i ft off sz) (ad:Addr) (w:World):(Instr.fieldAt s (.pointer (some ad)) i).run P w=.ok (.pointer (some (ad.add off))) w:=by
  obtain ⟨fs,f,h1,h2,h3,h4⟩:=hf.open
  subst h3;subst h4
  simp [Instr.fieldAt,run_underlying h1,h2,Instr.sureAddr,fieldPlace,zav hf.2]
theorem J.aa {s i ft off sz g o:Nat} (hf:FldT P s i ft off sz) (hx:ev σ x=some (.pointer (some ⟨g,o,none⟩))) (hd:okd N d) (hJ:J P ops F w0 M N lS L (putd d (.pointer (some ⟨g,o+off,none⟩)) σ) l):
    J P ops F w0 M N lS ((⟨d,.fieldAddr s x i,ty,p,af,none⟩,k)::L) σ l:=
  J.aC rfl hd _ (fun a ha w=>by simp [execOp,ha.eval hx,zgo hf,zbF]) hJ
theorem J.ak {s i ft off sz j:Nat} {ad:Addr} (hf:FldT P s i ft off sz) (hx:ev σ x=some (.pointer (some (ad.add j)))) (hd:okd N d) (hJ:J P ops F w0 M N lS L (putd d (.pointer (some (ad.add (j+off)))) σ) l):
    J P ops F w0 M N lS ((⟨d,.fieldAddr s x i,ty,p,af,none⟩,k)::L) σ l:=
  J.aC rfl hd _ (fun a ha w=>by simp [execOp,ha.eval hx,zgo hf,Addr.add_add]) hJ
theorem zdG {n:Nat} (ht:AggT P t n) (cs:Array Value) (o:Nat) (w:World):(part t cs o).run P w=.ok (.agg (cs.extract o (o+n))) w:=by
  obtain ⟨⟨dd,hd,hdd⟩,hs⟩:=ht
  simp [part,zeO hd,hdd,zav hs]
theorem zbR (ht:OneT P t) (cs:Array Value) (o:Nat) (h:cs[o]?=some v) (w:World):(part t cs o).run P w=.ok v w:=by
  obtain ⟨⟨dd,hd,hdd⟩,hs⟩:=ht
  simp [part,zeO hd,hdd,h]
theorem J.bH {s i ft off sz:Nat} {cs:List Value} (hf:FldT P s i ft off sz) (ht:OneT P ft) (hx:ev σ x=some (.agg cs.toArray)) (hv:cs[off]?=some v) (hd:okd N d) (hJ:J P ops F w0 M N lS L (putd d v σ) l):
    J P ops F w0 M N lS ((⟨d,.field s x i,ty,p,af,none⟩,k)::L) σ l:=
  J.aC rfl hd _ (fun a ha w=>by
    obtain ⟨fs,f,h1,h2,h3,h4⟩:=hf.open
    subst h3;subst h4
    have:=zbR (P:=P) ht cs.toArray f.offset (by simpa using hv) w
    simp [execOp,ha.eval hx,Instr.field,run_underlying h1,h2,asAgg,this]) hJ
def ArrT (P:Program) (t:TypeId) (len:Nat) (e:TypeId) (s:Nat):Prop:=P.underlying t=some (.array len e)∧SizeT P e s
def SlT (P:Program) (t:TypeId) (e:TypeId) (s:Nat):Prop:=P.underlying t=some (.slice e)∧SizeT P e s
theorem J.aM {len e s g o i:Nat} (ht:ArrT P t len e s) (hx:ev σ x=some (.pointer (some ⟨g,o,none⟩))) (hy:ev σ y=some (.int kd n)) (h0:0≤n) (h1:n < len) (hi:n.toNat=i) (hd:okd N d)
    (hJ:J P ops F w0 M N lS L (putd d (.pointer (some ⟨g,o+i*s,none⟩)) σ) l):J P ops F w0 M N lS ((⟨d,.indexAddr t x y,ty,p,af,none⟩,k)::L) σ l:=
  J.aC rfl hd _ (fun a ha w=>by
    subst hi
    simp [execOp,ha.eval hx,ha.eval hy,Instr.indexAt,asIntOf,run_underlying ht.1,Instr.sureAddr,h0,h1,zav ht.2,zbF]) hJ
theorem J.ah {e s q cap i:Nat} {A:Option Addr} (ht:SlT P t e s) (hx:ev σ x=some (.slice A q cap)) (hA:A.isSome=true) (hy:ev σ y=some (.int kd n)) (h0:0≤n) (h1:n < q) (hi:n.toNat=i) (hd:okd N d)
    (hJ:J P ops F w0 M N lS L (putd d (.pointer (some ((A.getD default).add (i*s)))) σ) l):J P ops F w0 M N lS ((⟨d,.indexAddr t x y,ty,p,af,none⟩,k)::L) σ l:=
  J.aC rfl hd _ (fun a ha w=>by
    subst hi
    cases A with
    | none=>simp at hA
    | some ad=>simp [execOp,ha.eval hx,ha.eval hy,Instr.indexAt,asIntOf,run_underlying ht.1,h0,h1,zav ht.2]) hJ
def hdOf (id:Option Nat):Option Addr:=id.map fun g=>⟨g,0,none⟩
theorem J.bd {e s q cap i:Nat} {id:Option Nat} (ht:SlT P t e s) (hx:ev σ x=some (.slice (hdOf id) q cap)) (hid:id.isSome=true) (hy:ev σ y=some (.int kd n)) (h0:0≤n) (h1:n < q) (hi:n.toNat=i) (hd:okd N d)
    (hJ:J P ops F w0 M N lS L (putd d (.pointer (some ⟨id.getD 0,i*s,none⟩)) σ) l):J P ops F w0 M N lS ((⟨d,.indexAddr t x y,ty,p,af,none⟩,k)::L) σ l:=
  J.aC rfl hd _ (fun a ha w=>by
    subst hi
    cases id with
    | none=>simp at hid
    | some g=>simp [execOp,ha.eval hx,ha.eval hy,hdOf,Instr.indexAt,asIntOf,run_underlying ht.1,h0,h1,zav ht.2,zbF]) hJ
theorem J.aB {e s q cap i g o:Nat} (ht:SlT P t e s) (hx:ev σ x=some (.slice (some ⟨g,o,none⟩) q cap)) (hy:ev σ y=some (.int kd n)) (h0:0≤n) (h1:n < q) (hi:n.toNat=i) (hd:okd N d)
    (hJ:J P ops F w0 M N lS L (putd d (.pointer (some ⟨g,o+i*s,none⟩)) σ) l):J P ops F w0 M N lS ((⟨d,.indexAddr t x y,ty,p,af,none⟩,k)::L) σ l:=
  J.aC rfl hd _ (fun a ha w=>by
    subst hi
    simp [execOp,ha.eval hx,ha.eval hy,Instr.indexAt,asIntOf,run_underlying ht.1,h0,h1,zav ht.2,zbF]) hJ
theorem J.ct {s:ByteArray} {i:Nat} {u:UInt8} (ht:P.underlying t=some .string) (hx:ev σ x=some (.string s)) (hy:ev σ y=some (.int kd n)) (h0:0≤n) (hi:n.toNat=i) (hv:s.data.toList[i]?=some u) (hd:okd N d)
    (hJ:J P ops F w0 M N lS L (putd d (.int .u8 u.toNat) σ) l):J P ops F w0 M N lS ((⟨d,.index t x y,ty,p,af,none⟩,k)::L) σ l:=
  J.aC rfl hd _ (fun a ha w=>by
    subst hi
    have:s[n.toNat]?=some u:=by
      rw [Array.getElem?_toList] at hv
      have h2:=(Array.getElem?_eq_some_iff.1 hv)
      have hlt:n.toNat < s.size:=h2.1
      rw [getElem?_pos s n.toNat hlt]
      exact congrArg some h2.2
    simp [execOp,ha.eval hx,ha.eval hy,Instr.index,asIntOf,run_underlying ht,h0,this]) hJ
def optInt (σ:List (Nat×Value)) (x:Option Operand) (dflt:Nat) (i:Nat):Prop:=match x with
  | none=>i=dflt
  | some y=>∃ kd n,ev σ y=some (.int kd n)∧0≤n∧n.toNat=i
theorem optInt.none {dflt:Nat}:optInt σ none dflt dflt:=rfl
theorem optInt.some {dflt i:Nat} (hy:ev σ y=some (.int kd n)) (h0:0≤n) (hi:n.toNat=i):optInt σ (some y) dflt i:=⟨kd,n,hy,h0,hi⟩
theorem zbN {i q:Nat} {code:BoundsCode} (h0:0≤n) (hi:n.toNat=i) (hq:i≤q) (w:World):(Instr.sliceBound (.int kd n) q code).run P w=.ok i w:=by
  subst hi
  simp [Instr.sliceBound,asIntOf,h0,show n≤(q:Int) by omega]
theorem zbv {a:Act} (ha:Has N σ a) {isS:Bool} {len cap lo hi mx:Nat} {xl xh xm:Option Operand} (hl:optInt σ xl 0 lo) (hh:optInt σ xh len hi) (hm:optInt σ xm cap mx) (hmh:xm.isSome=true→xh.isSome=true)
    (h1:lo≤hi) (h2:hi≤mx) (h3:mx≤cap) (w:World):(Instr.sliceBounds isS len cap (xl.map a.eval) (xh.map a.eval) (xm.map a.eval)).run P w=.ok (lo,hi,mx) w:=by
  have hL:∀ q code w,lo≤q→(match xl.map a.eval with | some v=>Instr.sliceBound v q code | none=>Pure.pure 0:Sem Nat).run P w=.ok lo w:=by
    intro q code w hq
    cases xl with
    | none=>simp only [optInt] at hl;subst hl;rfl
    | some y=>obtain ⟨kd,n,hy,h0,hi'⟩:=hl;simp only [Option.map_some,ha.eval hy];exact zbN h0 hi' hq w
  cases xm with
  | none=>
    simp only [optInt] at hm
    subst hm
    cases xh with
    | none=>
      simp only [optInt] at hh
      subst hh
      have:=hL hi .sliceB w h1
      simp only [Instr.sliceBounds,Option.map_none,Option.isSome_none,Bool.false_eq_true,if_false,Sem.run_bind,Sem.run_pure,Result.andThen] at this ⊢
      cases hx:xl.map a.eval<;>simp_all
    | some y=>
      obtain ⟨kd,n,hy,h0,hi'⟩:=hh
      have:=hL hi .sliceB w h1
      have h4:=zbN (P:=P) (kd:=kd) (code:=if isS then .sliceAcap else .sliceAlen) h0 hi' h2 w
      simp only [Instr.sliceBounds,Option.map_none,Option.map_some,ha.eval hy,Option.isSome_none,Bool.false_eq_true,if_false,Sem.run_bind,Sem.run_pure,Result.andThen,h4] at this ⊢
      cases hx:xl.map a.eval<;>simp_all
  | some z=>
    obtain ⟨km,q,hz,hq0,hqi⟩:=hm
    cases xh with
    | none=>simp at hmh
    | some y=>
      obtain ⟨kd,n,hy,h0,hi'⟩:=hh
      have:=hL hi .slice3C w h1
      have h4:=zbN (P:=P) (kd:=kd) (code:=.slice3B) h0 hi' h2 w
      have h5:=zbN (P:=P) (kd:=km) (code:=if isS then .slice3Acap else .slice3Alen) hq0 hqi h3 w
      simp only [Instr.sliceBounds,Option.map_some,ha.eval hy,ha.eval hz,Option.isSome_some,if_true,Sem.run_bind,Result.andThen,h4,h5] at this ⊢
      cases hx:xl.map a.eval<;>simp_all
theorem J.bk {len e s g o lo hi mx:Nat} {xl xh xm:Option Operand} (ht:ArrT P t len e s) (hx:ev σ x=some (.pointer (some ⟨g,o,none⟩))) (hl:optInt σ xl 0 lo) (hh:optInt σ xh len hi) (hm:optInt σ xm len mx) (hmh:xm.isSome=true→xh.isSome=true)
    (h1:lo≤hi) (h2:hi≤mx) (h3:mx≤len) (hd:okd N d) (hv:Value.slice (some (if mx=lo then ⟨g,o,none⟩ else ⟨g,o+lo*s,none⟩)) (hi - lo) (mx - lo)=v)
    (hJ:J P ops F w0 M N lS L (putd d v σ) l):J P ops F w0 M N lS ((⟨d,.slice t x xl xh xm,ty,p,af,none⟩,k)::L) σ l:=
  J.aC rfl hd _ (fun a ha w=>by
    subst hv
    simp [execOp,ha.eval hx,Instr.sliceAt,run_underlying ht.1,Instr.sureAddr,zbv ha hl hh hm hmh h1 h2 h3,zav ht.2,zbF]) hJ
theorem J.ax {e s q cap lo hi mx:Nat} {A:Option Addr} {xl xh xm:Option Operand} (ht:SlT P t e s) (hx:ev σ x=some (.slice A q cap)) (hl:optInt σ xl 0 lo) (hh:optInt σ xh q hi) (hm:optInt σ xm cap mx) (hmh:xm.isSome=true→xh.isSome=true)
    (h1:lo≤hi) (h2:hi≤mx) (h3:mx≤cap) (hd:okd N d) (hv:Value.slice (if mx=lo then A else A.map (·.add (lo*s))) (hi - lo) (mx - lo)=v)
    (hJ:J P ops F w0 M N lS L (putd d v σ) l):J P ops F w0 M N lS ((⟨d,.slice t x xl xh xm,ty,p,af,none⟩,k)::L) σ l:=
  J.aC rfl hd _ (fun a ha w=>by
    subst hv
    simp [execOp,ha.eval hx,Instr.sliceAt,Instr.slice,run_underlying ht.1,zbv ha hl hh hm hmh h1 h2 h3,zav ht.2]) hJ
theorem J.bJ {s:ByteArray} {lo hi:Nat} {xl xh:Option Operand} (ht:P.underlying t=some .string) (hx:ev σ x=some (.string s)) (hl:optInt σ xl 0 lo) (hh:optInt σ xh s.size hi)
    (h1:lo≤hi) (h2:hi≤s.size) (hd:okd N d) (hJ:J P ops F w0 M N lS L (putd d (.string (s.extract lo hi)) σ) l):J P ops F w0 M N lS ((⟨d,.slice t x xl xh none,ty,p,af,none⟩,k)::L) σ l:=
  J.aC rfl hd _ (fun a ha w=>by
    have:=zbv (P:=P) (isS:=false) ha hl hh (optInt.none (dflt:=s.size)) (by simp) h1 h2 (Nat.le_refl _) w
    simp only [Option.map_none] at this
    simp [execOp,ha.eval hx,Instr.sliceAt,Instr.slice,run_underlying ht,this]) hJ
def FnOk (P : Program) (f : FuncId) : Prop := ∃ fn, P.funcs[f]? = some fn ∧ (fn.name == "runtime.NumGoroutine") = false ∧ fn.body.isNone = false
theorem FnOk.mk' {f : FuncId} {fn : Func} (h : P.funcs[f]? = some fn) (h1 : (fn.name == "runtime.NumGoroutine") = false) (h2 : fn.body.isNone = false) : FnOk P f := ⟨fn, h, h1, h2⟩
theorem zaD {f:FuncId} (h:FnOk P f) (args:Array Value) (w:World):(callFunc f args).run P w=.ok (.enter f args) w:=by
  obtain ⟨fn,hf,hn,hb⟩:=h
  have h1 : fn.name ≠ "runtime.NumGoroutine" := by simpa using hn
  cases hbody:fn.body with
  | none=>simp [hbody] at hb
  | some c=>simp [callFunc,hf,h1,hbody]
theorem zdV {f:FuncId} (hf:FnOk P f) {xs:Array Operand} {tys:Array TypeId} {args:List Value} {a:Act} (ha:Has N σ a) (hx:evs σ xs.toList=some args) (w:World):
    (execOp a.eval ⟨d,.call ⟨.value (.func f),xs,tys⟩,ty,p,af,none⟩).run P w=.ok (.enter f args.toArray) w:=by
  have h1:xs.map a.eval=args.toArray:=by rw [← ha.evals hx,← Array.toList_map,Array.toArray_toList]
  simp [execOp,resolve,Act.eval,Deferred.ofValue,invoke,h1,zaD hf]
theorem zmj {f:FuncId} (hf:FnOk P f) {xs:Array Operand} {tys:Array TypeId} {args:List Value} {a:Act} (ha:Has N σ a) (hx:evs σ xs.toList=some args) {w:World} (spec:Calls P f args.toArray w fun e w'=>e=.returned v∧WS w [] [] w'):
    Oper.quietUpon P (fun w'=>WS w [] [] w') w v ((execOp a.eval ⟨d,.call ⟨.value (.func f),xs,tys⟩,ty,p,af,none⟩).run P w):=by
  rw [zdV hf ha hx w]
  exact ⟨rfl,spec⟩
theorem J.aj {f:FuncId} (hk:nog k) (hf:FnOk P f) {xs:Array Operand} {tys:Array TypeId} {args:List Value} (hx:evs σ xs.toList=some args) (hd:okd N d)
    (spec:∀ w,WS w0 M l w→Calls P f args.toArray w fun e w'=>e=.returned v∧WS w [] [] w') (hJ:J P ops F w0 M N lS L (putd d v σ) l):
    J P ops F w0 M N lS ((⟨d,.call ⟨.value (.func f),xs,tys⟩,ty,p,af,none⟩,k)::L) σ l:=fun hlS a ha=>stepW.yes rfl (by
  have h2:=hJ hlS _ (ha.putd hd v)
  cases k with
  | q=>exact ⟨v,fun w hw=>zmj hf ha hx (spec w hw),h2⟩
  | l=>exact fun w hw=>(by
      show loudUpon P _ _ ((execOp a.eval ⟨d,.call ⟨.value (.func f),xs,tys⟩,ty,p,af,none⟩).run P w)
      rw [zdV hf ha hx w]
      exact (spec w hw).mono fun e w' ⟨he,h2'⟩=>zcS ⟨v,he,l,hw.join0 h2',hlS,h2⟩)
  | _=>exact hk.elim)
theorem J.aL {f:FuncId} (hf:FnOk P f) {xs:Array Operand} {tys:Array TypeId} {args:List Value} (hx:evs σ xs.toList=some args) (hd:okd N d) {ι:Type} (φ:ι→Prop) (vf:ι→Value) (M':List Nat) (lf:ι→List (Nat×Ent))
    (spec:∀ w,WS w0 M l w→Calls P f args.toArray w fun e w'=>∃ i,φ i∧e=.returned (vf i)∧WS w M' (lf i) w')
    (hM:∀ i,φ i→∀ g∈M',∃ k e e2,lk l k=some e∧e.id=some g∧lk (lf i) k=some e2)
    (hh:∀ i k e,lk (lf i) k=some e→lk lS k=none)
    (hJ:∀ i,φ i→J P ops F w0 M N lS L (putd d (vf i) σ) (lf i++l)):
    J P ops F w0 M N lS ((⟨d,.call ⟨.value (.func f),xs,tys⟩,ty,p,af,none⟩,.l)::L) σ l:=
  J.aR rfl hd φ vf (fun i=>lf i++l) (fun i _ hs=>hs.freshs (hh i)) (fun a ha w hw=>by
    rw [zdV hf ha hx w]
    exact (spec w hw).mono fun e w' ⟨i,hi,he,h2⟩=>zcS ⟨vf i,he,i,hi,rfl,hw.join h2 (hM i hi)⟩) hJ
theorem J.bV {f : FuncId} {fn : Func} {e : Array Value → Sem Value} (hf : P.funcs[f]? = some fn) (hname : (fn.name == "runtime.NumGoroutine") = false) (hb : fn.body.isNone = true) (hn : Extern.findNext fn = none) (he : Extern.find fn = some e)
    {xs:Array Operand} {tys:Array TypeId} {args:List Value} (hx:evs σ xs.toList=some args) (hd:okd N d) (hr:∀ w,(e args.toArray).run P w=.ok v w) (hJ:J P ops F w0 M N lS L (putd d v σ) l):
    J P ops F w0 M N lS ((⟨d,.call ⟨.value (.func f),xs,tys⟩,ty,p,af,none⟩,k)::L) σ l:=
  J.aC rfl hd v (fun a ha w=>by
    have h1:xs.map a.eval=args.toArray:=by rw [← ha.evals hx,← Array.toList_map,Array.toArray_toList]
    simp [execOp,resolve,Act.eval,Deferred.ofValue,invoke,h1,run_callFunc_extern hf hname hb hn he,hr w]) hJ
theorem zcj {bi:Builtin} {xs:Array Operand} {tys:Array TypeId} {args:List Value} {a:Act} (ha:Has N σ a) (hx:evs σ xs.toList=some args) (w:World):
    (execOp a.eval ⟨d,.call ⟨.builtin bi,xs,tys⟩,ty,p,af,none⟩).run P w=(builtin bi tys ty (xs.map fun | .const _=>true | _=>false) args.toArray).run P w:=by
  have h1:xs.map a.eval=args.toArray:=by rw [← ha.evals hx,← Array.toList_map,Array.toArray_toList]
  simp [execOp,resolve,h1,invoke]
  rfl
theorem J.al {e q cap:Nat} {A:Option Addr} (ht:P.underlying t=some (.slice e)) (hx:ev σ x=some (.slice A q cap)) (hd:okd N d) (hJ:J P ops F w0 M N lS L (putd d (.int .i64 (q:Int)) σ) l):
    J P ops F w0 M N lS ((⟨d,.call ⟨.builtin .len,#[x],#[t]⟩,ty,p,af,none⟩,k)::L) σ l:=
  J.aC rfl hd _ (fun a ha w=>by
    rw [zcj ha (args:=[.slice A q cap]) (by simp [evs,hx]) w]
    simp [builtin,Builtin.len_,run_underlying ht,goInt]) hJ
theorem J.dk (hx:ev σ x=some (.int kd n)) (hy:ev σ y=some (.int kd m)) {tys:Array TypeId} (hd:okd N d) (hz:(if m > n then m else n)=r) (hJ:J P ops F w0 M N lS L (putd d (.int kd r) σ) l):
    J P ops F w0 M N lS ((⟨d,.call ⟨.builtin .max,#[x,y],tys⟩,ty,p,af,none⟩,k)::L) σ l:=
  J.aC rfl hd _ (fun a ha w=>by
    rw [zcj ha (args:=[.int kd n,.int kd m]) (by simp [evs,hx,hy]) w]
    subst hz
    simp [builtin,Builtin.max_,Builtin.max2]) hJ
theorem J.cB (hx:ev σ x=some (.int kd n)) (hy:ev σ y=some (.int kd m)) {tys:Array TypeId} (hd:okd N d) (hz:(if m < n then m else n)=r) (hJ:J P ops F w0 M N lS L (putd d (.int kd r) σ) l):
    J P ops F w0 M N lS ((⟨d,.call ⟨.builtin .min,#[x,y],tys⟩,ty,p,af,none⟩,k)::L) σ l:=
  J.aC rfl hd _ (fun a ha w=>by
    rw [zcj ha (args:=[.int kd n,.int kd m]) (by simp [evs,hx,hy]) w]
    subst hz
    simp [builtin,Builtin.min_,Builtin.min2]) hJ
end Go.Fw
namespace Go.Fw
open Go
variable {P:Program} {ops:Array Oper} {F:Act→World→Prop} {w0:World} {M:List Nat} {N:Nf} {L:List (Oper×K)} {σ:List (Nat×Value)} {l lS:List (Nat×Ent)} {k:K}
  {d:Option Tmp} {ty:TypeId} {p:String} {af:Array Edge} {v v1 v2 z:Value} {x y c:Operand} {t:TypeId} {kd:IntKind} {n m r:Int} {b:Bool}
def rowI (kd:IntKind) (xs:List Int):List Value:=xs.map (Value.int kd)
theorem zda (kd:IntKind) (xs:List Int):(rowI kd xs).length=xs.length:=by simp [rowI]
theorem zjM (kd:IntKind) (xs ys:List Int):rowI kd (xs++ys)=rowI kd xs++rowI kd ys:=by simp [rowI]
theorem zpk (kd:IntKind) (xs:List Int) (i:Nat) (h:i < xs.length):(rowI kd xs)[i]?=some (.int kd (xs.getD i 0)):=by simp [rowI,h,List.getD]
theorem zhW (kd:IntKind) (xs:List Int):∀ u∈rowI kd xs,u.oneCell'=true:=by
  intro u hu
  simp only [rowI,List.mem_map] at hu
  obtain ⟨x,_,rfl⟩:=hu
  rfl
structure RowIx where
  id:Option Nat
  cap:Nat
  sp:List Value
def RowIx.nil:RowIx:=⟨none,0,[]⟩
structure RowIx.Ok (i:RowIx) (size n:Nat):Prop where
  le:n≤i.cap
  max:i.cap≤maxLen
  len:n*size+i.sp.length=i.cap*size
  none:i.id=none→i.cap=0
  one:∀ u∈i.sp,u.oneCell'=true
def RowIx.ent (i:RowIx) (t:TypeId) (cs:List Value):Ent:=⟨i.id,t,cs++i.sp⟩
def RowIx.val (i:RowIx) (n:Nat):Value:=.slice (hdOf i.id) n i.cap
theorem RowIx.nil_ok (size:Nat):RowIx.nil.Ok size 0:=⟨Nat.le_refl _,by simp [RowIx.nil],by simp [RowIx.nil],fun _=>rfl,by simp [RowIx.nil]⟩
theorem RowIx.Ok.some {i:RowIx} {size n:Nat} (h:i.Ok size n) (hn:0 < n):i.id.isSome=true:=by
  cases hid:i.id with
  | none=>have:=h.none hid;have:=h.le;omega
  | some g=>rfl
def ElT (P:Program) (e:TypeId) (size bytes:Nat) (z:Value):Prop:=(P.info? e).map (fun i=>(i.zero,i.size,i.bytes))=some (some z,size,bytes)∧z.cells.size=size∧0 < size∧∀ u∈z.cells.toList,u.oneCell'=true
theorem ElT.open {e size bytes:Nat} (h:ElT P e size bytes z):∃ i,P.info? e=some i∧i.zero=some z∧i.size=size∧i.bytes=bytes:=by
  obtain ⟨h1,_⟩:=h
  cases hi:P.info? e with
  | none=>simp [hi] at h1
  | some i=>simp [hi] at h1;exact ⟨i,rfl,h1.1,h1.2.1,h1.2.2⟩
theorem ElT.sizeT {e size bytes:Nat} (h:ElT P e size bytes z):SizeT P e size:=by
  obtain ⟨i,h1,_,h3,_⟩:=h.open
  simp [SizeT,h1,h3]
theorem zgK {zs:Array Value} (q:Nat) (h:q < zs.size):zs[q]! ∈zs.toList:=by
  rw [getElem!_pos zs q h];simp
theorem zhO {e size bytes:Nat} (h:ElT P e size bytes z) (q:Nat):∀ u∈(Builtin.zeroCells z.cells q).toList,u.oneCell'=true:=by
  intro u hu
  simp only [Builtin.zeroCells,Array.toList_map,List.mem_map,Array.toList_range,List.mem_range] at hu
  obtain ⟨j,hj,rfl⟩:=hu
  exact h.2.2.2 _ (zgK _ (Nat.mod_lt _ (by rw [h.2.1];exact h.2.2.1)))
theorem J.ay (h:Nat) (hh:lk lS h=none) {e size bytes q m' c0:Nat} {i:RowIx} {cs news:List Value} {A:Option Addr} (ht:P.underlying t=some (.slice e)) (he:ElT P e size bytes z) (hl:lk l h=some (i.ent e cs)) (hi:i.Ok size q) (hcs:cs.length=q*size)
    (hx:ev σ x=some (i.val q)) (hy:ev σ y=some (.slice A m' c0)) (hnl:news.length=m'*size) (hnews:∀ w,WS w0 M l w→Cs w A news) (h1:∀ u∈news,u.oneCell'=true)
    (hb:(q+m')*bytes≤140737488355328) (h63:q+m'≤maxLen) (hd:okd N d) (q':Nat) (hq':q+m'=q') (cs':List Value) (hcs':cs++news=cs')
    (hJ:∀ i':RowIx,i'.Ok size q'→J P ops F w0 M N lS L (putd d (i'.val q') σ) ((h,i'.ent e cs')::l)):
    J P ops F w0 M N lS ((⟨d,.call ⟨.builtin .append,#[x,y],#[t,t]⟩,ty,p,af,none⟩,.l)::L) σ l:=by
  subst hq';subst hcs'
  refine J.aR rfl hd (ι:=RowIx) (fun i'=>i'.Ok size (q+m')) (fun i'=>i'.val (q+m')) (fun i'=>(h,i'.ent e (cs++news))::l) (fun _ _ hs=>hs.fresh hh) (fun a ha w hw=>?_) hJ
  rw [zcj ha (args:=[i.val q,.slice A m' c0]) (by simp [evs,hx,hy]) w]
  obtain ⟨ti,hti,htz,hts,htb⟩:=he.open
  have hzs:=he.2.1
  have hsz:=he.2.2.1
  subst hts;subst htb
  have hsmall:q+m'≤9223372036854775807:=by simp only [maxLen] at h63;omega
  have hnw:=hnews w hw
  by_cases hm:m'=0
  · subst hm
    have hn:news=[]:=List.eq_nil_of_length_eq_zero (by simpa using hnl)
    subst hn
    have hrun:(Builtin.append_ #[t,t] ty #[i.val q,.slice A 0 c0]).run P w=.ok (i.val q) w:=by
      have hle:=hi.le
      cases A<;>cases hid:i.id<;>simp [Builtin.append_,RowIx.val,hdOf,hid,run_underlying ht,sizeOf,typeInfo,hti,Builtin.lenOf,Builtin.firstCells,loadCells,loadCellsFrom,storeCells,hle]
    simp only [builtin,Sem.run_bind,hrun,Result.andThen]
    refine ⟨i,by simpa using hi,by simp,?_⟩
    simp only [List.append_nil]
    exact hw.sub (Sub.cons hl (Sub.refl _))
  obtain ⟨ad,rfl⟩:∃ ad,A=some ad:=by
    cases hne:news with
    | nil=>
      have h0:m'*ti.size=0:=by rw [← hnl,hne];rfl
      rcases Nat.mul_eq_zero.1 h0 with h0 | h0<;>omega
    | cons u us=>obtain ⟨ad,ha,_⟩:=hnw 0 u (by simp [hne]);exact ⟨ad,ha⟩
  have hnews':∀ j u,news[j]?=some u→w.cell? (ad.add j)=some u:=fun j u hj=>by
    obtain ⟨ad',h2,h3⟩:=hnw j u hj
    simp at h2;subst h2;exact h3
  have hat:=hw.live h _ hl
  have fresh:∀ (old:Nat) (w1:World),w1=w.drew.alloc (.cells (cs.toArray++news.toArray++Builtin.zeroCells z.cells (grownCap w (q+m') old e - (q+m'))) e)→
      ∃ i':RowIx,i'.Ok ti.size (q+m')∧Value.slice (some ⟨w.heap.size,0,none⟩) (q+m') (grownCap w (q+m') old e)=i'.val (q+m')∧WS w0 M ((h,i'.ent e (cs++news))::l) w1:=by
    intro old w1 hw1
    have hge:=grownCap_ge w (q+m') old e
    refine ⟨⟨some w.heap.size,grownCap w (q+m') old e,(Builtin.zeroCells z.cells (grownCap w (q+m') old e - (q+m'))).toList⟩,⟨hge,grownCap_le_maxLen w (q+m') old e h63,?_,fun h=>by simp at h,zhO he _⟩,rfl,?_⟩
    · rw [Array.length_toList,size_zeroCells,hzs,← Nat.add_mul,Nat.add_sub_of_le hge]
    · rw [hw1]
      have:=hw.drew.alloc h (cs++news++(Builtin.zeroCells z.cells (grownCap w (q+m') old e - (q+m'))).toList) e
      simp only [RowIx.ent]
      have e1:(cs.toArray++news.toArray++Builtin.zeroCells z.cells (grownCap w (q+m') old e - (q+m')))=(cs++news++(Builtin.zeroCells z.cells (grownCap w (q+m') old e - (q+m'))).toList).toArray:=by simp
      rw [e1]
      exact this
  cases hid:i.id with
  | none=>
    have hc0:=hi.none hid
    have hq0:q=0:=by have:=hi.le;omega
    subst hq0
    have hcs0:cs=[]:=List.eq_nil_of_length_eq_zero (by simpa using hcs)
    subst hcs0
    have hr:=run_append_nil (P:=P) w t ty e ti z ht hti htz ad m' c0 news hnl hnews' (by omega) (by omega) (by simp only [Nat.zero_add] at hb;omega)
    obtain ⟨i',hi',hv',hw'⟩:=fresh 0 _ rfl
    simp only [Nat.zero_add,Array.empty_append] at hi' hv' hw' hr ⊢
    have hval:i.val 0=.slice none 0 0:=by simp [RowIx.val,hid,hdOf,hc0]
    rw [hval]
    simp only [builtin,Sem.run_bind,hr,Result.andThen]
    exact ⟨i',hi',hv',hw'⟩
  | some g=>
    have hval:i.val q=.slice (some ⟨g,0,none⟩) q i.cap:=by simp [RowIx.val,hid,hdOf]
    rw [hval]
    have hg:w.heap[g]?=some (.cells (cs++i.sp).toArray e (0,0)):=by
      have h0:=hat;simp only [Ent.At,RowIx.ent,hid] at h0;obtain ⟨t0,h1,h2⟩:=h0;cases h1;exact h2
    by_cases hroom:q+m'≤i.cap
    · have hlen:=hi.len
      have hfit:q*ti.size+news.length≤(cs++i.sp).toArray.size:=by
        simp only [List.size_toArray,List.length_append,hcs,hnl,hlen,← Nat.add_mul]
        exact Nat.mul_le_mul_right _ hroom
      have hr:=run_append_room (P:=P) w t ty e ti ht hti g q i.cap _ hg ad m' c0 news hnl hnews' h1 hroom hfit
      simp only [builtin,Sem.run_bind,hr,Result.andThen]
      refine ⟨⟨some g,i.cap,i.sp.drop news.length⟩,⟨hroom,hi.max,?_,fun h=>by simp at h,fun u hu=>hi.one u (List.mem_of_mem_drop hu)⟩,rfl,?_⟩
      · simp only [List.length_drop,List.size_toArray,List.length_append,Nat.add_mul] at hfit ⊢;omega
      · have hset:=hw.set hl (g:=g) (by simp [RowIx.ent,hid]) (cs++news++i.sp.drop news.length)
        have e1:(((cs++i.sp).toArray.toList.take (q*ti.size)++news++(cs++i.sp).toArray.toList.drop (q*ti.size+news.length)).toArray)=(cs++news++i.sp.drop news.length).toArray:=by
          rw [← hcs]
          simp [List.drop_append]
        rw [e1]
        simp only [RowIx.ent,hid] at hset ⊢
        exact hset
    · have holds:∀ j u,cs[j]?=some u→w.cell? ((⟨g,0,none⟩:Addr).add j)=some u:=fun j u hj=>by
        rw [zbF,Nat.zero_add]
        have:=hw.cell hl (o:=j) (v:=u) (by simp only [RowIx.ent];rw [List.getElem?_append_left (List.getElem?_eq_some_iff.1 hj).1];exact hj)
        simpa [RowIx.ent,hid] using this
      have hr:=run_append_grow (P:=P) w t ty e ti z ht hti htz ⟨g,0,none⟩ q i.cap cs hcs holds ad m' c0 news hnl hnews' (by omega) (by omega) (growslice_fits (by omega) hb)
      simp only [builtin,Sem.run_bind,hr,Result.andThen]
      exact fresh i.cap _ rfl
def evp (σ:List (Nat×Value)):List (Nat×Operand)→Option (List (Nat×Value))
  | []=>some []
  | (i,x)::xs=>match ev σ x with
    | some v=>match evp σ xs with
      | some vs=>some ((i,v)::vs)
      | none=>none
    | none=>none
theorem Has.evps {a:Act} (h:Has N σ a):∀ {xs:List (Nat×Operand)} {vs:List (Nat×Value)},evp σ xs=some vs→xs.map (fun q=>(q.1,a.eval q.2))=vs
  | [],vs,hx=>by simpa [evp] using hx
  | (i,x)::xs,vs,hx=>by
    simp only [evp] at hx
    cases h1:ev σ x with
    | none=>simp [h1] at hx
    | some v=>
      cases h2:evp σ xs with
      | none=>simp [h1,h2] at hx
      | some us=>
        simp only [h1,h2,Option.some.injEq] at hx
        subst hx
        simp [h.eval h1,h.evps h2]
theorem J.ao {parts:Array (Nat×Operand)} {vs:List (Nat×Value)} (hx:evp σ parts.toList=some vs) (hd:okd N d) (z:Value) (hr:∀ w,(Instr.build t vs.toArray).run P w=.ok z w) (hJ:J P ops F w0 M N lS L (putd d z σ) l):
    J P ops F w0 M N lS ((⟨d,.build t parts,ty,p,af,none⟩,k)::L) σ l:=
  J.aC rfl hd _ (fun a ha w=>by
    have h1:parts.map (fun q=>(q.1,a.eval q.2))=vs.toArray:=by rw [← ha.evps hx,← Array.toList_map,Array.toArray_toList]
    have h2:(execOp a.eval ⟨d,.build t parts,ty,p,af,none⟩)=(do Pure.pure (Next.value (← Instr.build t (parts.map (fun q=>(q.1,a.eval q.2))))):Sem Next):=rfl
    rw [h2,h1]
    simp [hr w]) hJ
theorem J.aV (h:Nat) (hh:lk lS h=none) {e len:Nat} {parts:Array (Nat×Operand)} {vs:List (Nat×Value)} (hx:evp σ parts.toList=some vs) (hd:okd N d) (cs:List Value)
    (hr:∀ w,(Instr.buildSlice t len vs.toArray).run P w=.ok (.slice (some ⟨w.heap.size,0,none⟩) len len) (w.alloc (.cells cs.toArray e)))
    (hJ:∀ g,w0.heap.size≤g→J P ops F w0 M N lS L (putd d (.slice (some ⟨g,0,none⟩) len len) σ) ((h,⟨some g,e,cs⟩)::l)):
    J P ops F w0 M N lS ((⟨d,.buildSlice t len parts,ty,p,af,none⟩,.l)::L) σ l:=
  J.aR rfl hd (ι:=Nat) (fun g=>w0.heap.size≤g) (fun g=>.slice (some ⟨g,0,none⟩) len len) (fun g=>(h,⟨some g,e,cs⟩)::l) (fun _ _ hs=>hs.fresh hh) (fun a ha w hw=>by
    have h1:parts.map (fun q=>(q.1,a.eval q.2))=vs.toArray:=by rw [← ha.evps hx,← Array.toList_map,Array.toArray_toList]
    have h2:(execOp a.eval ⟨d,.buildSlice t len parts,ty,p,af,none⟩)=(do Pure.pure (Next.value (← Instr.buildSlice t len (parts.map (fun q=>(q.1,a.eval q.2))))):Sem Next):=rfl
    rw [h2,h1]
    simp only [Sem.run_bind,hr w,Result.andThen]
    exact ⟨_,hw.size,rfl,hw.alloc h cs e⟩) hJ
def zeros (z:Value) (q:Nat):List Value:=(List.range (q*z.cells.size)).map fun i=>z.cells[i%z.cells.size]!
theorem zbp (z:Value) (q:Nat):(zeros z q).length=q*z.cells.size:=by simp [zeros]
theorem zmC (kd:IntKind) (q:Nat):zeros (.int kd 0) q=rowI kd (List.replicate q 0):=by
  apply List.ext_getElem
  · simp [zeros,rowI,Value.cells]
  · intro i h1 h2
    simp [zeros,rowI,Value.cells,Nat.mod_one]
theorem zmB {e size bytes:Nat} (h:ElT P e size bytes z) (q:Nat):∀ u∈zeros z q,u.oneCell'=true:=by
  intro u hu
  simp only [zeros,List.mem_map,List.mem_range] at hu
  obtain ⟨j,hj,rfl⟩:=hu
  exact h.2.2.2 _ (zgK _ (Nat.mod_lt _ (by rw [h.2.1];exact h.2.2.1)))
theorem zeN {e size bytes q c0:Nat} {kl kc:IntKind} {nl nc:Int} {a:Act} (ha:Has N σ a) (ht:P.underlying t=some (.slice e)) (he:ElT P e size bytes z) (hx:ev σ x=some (.int kl nl)) (hy:ev σ y=some (.int kc nc)) (hq:nl=(q:Int)) (hc:nc=(c0:Int)) (hqc:q≤c0)
    (hb:bytes*c0≤281474976710656) (hm:c0≤maxLen) (w:World):(execOp a.eval ⟨d,.makeSlice t x y,ty,p,af,none⟩).run P w=.ok (.value (.slice (hdOf (some w.heap.size)) q c0)) (w.alloc (.cells (zeros z c0).toArray e)):=by
  subst hq;subst hc
  obtain ⟨ti,hti,htz,hts,htb⟩:=he.open
  subst hts;subst htb
  have hm':c0≤9223372036854775807:=by simp only [maxLen] at hm;omega
  have hwl:IntKind.i64.wrap (q:Int)=(q:Int):=by rw [IntKind.wrap_i64];omega
  have hwc:IntKind.i64.wrap (c0:Int)=(c0:Int):=by rw [IntKind.wrap_i64];omega
  have hbi:¬ ((ti.bytes:Int)*(c0:Int) > 2^48):=by
    have:((ti.bytes*c0:Nat):Int)≤((281474976710656:Nat):Int):=Int.ofNat_le.2 hb
    simp at this ⊢;omega
  have htl:¬ ((decide ((c0:Int) < 0) || decide ((ti.bytes:Int)*(c0:Int) > 2^48))=true∨(q:Int) < 0∨(q:Int) > (c0:Int)):=by simp at hbi ⊢;omega
  have e0:(Array.map (fun i=>z.cells[i%z.cells.size]!) (Array.range (c0*z.cells.size)))=(zeros z c0).toArray:=by
    apply Array.ext'
    simp [zeros]
  have hzs:=he.2.1
  by_cases hz0:c0*ti.size=0
  · have hc00:c0=0:=by
      rcases Nat.mul_eq_zero.1 hz0 with h | h
      · exact h
      · have:=he.2.2.1;omega
    subst hc00
    have hq0:q=0:=by omega
    subst hq0
    simp [execOp,Instr.makeSlice,ha.eval hx,ha.eval hy,run_underlying ht,asInt,asIntOf,typeInfo,hti,IntKind.wrap_i64,sizeOf,newRow,zeros,hdOf]
    rw [Array.range_zero',Array.map_empty]
  · simp only [execOp,Instr.makeSlice,ha.eval hx,ha.eval hy,Sem.run_bind,run_underlying ht,asInt,asIntOf,Sem.run_pure,Result.andThen,typeInfo,run_program,hti,hwl,hwc,sizeOf,run_askRoom,Int.toNat_natCast,hz0,if_false,zeroValue,htz,newRow,run_newObj,Sem.run_ite]
    rw [if_neg (by simpa using htl)]
    simp only [hdOf,← hzs,e0,Option.map_some]
    rfl
theorem J.aQ (h:Nat) (hh:lk lS h=none) {e size bytes q c0:Nat} {kl kc:IntKind} {nl nc:Int} (ht:P.underlying t=some (.slice e)) (he:ElT P e size bytes z) (hx:ev σ x=some (.int kl nl)) (hy:ev σ y=some (.int kc nc)) (hq:nl=(q:Int)) (hc:nc=(c0:Int)) (hqc:q≤c0)
    (hb:bytes*c0≤281474976710656) (hm:c0≤maxLen) (hd:okd N d)
    (hJ:∀ g,w0.heap.size≤g→J P ops F w0 M N lS L (putd d (.slice (hdOf (some g)) q c0) σ) ((h,⟨some g,e,zeros z c0⟩)::l)):
    J P ops F w0 M N lS ((⟨d,.makeSlice t x y,ty,p,af,none⟩,.l)::L) σ l:=
  J.aR rfl hd (ι:=Nat) (fun g=>w0.heap.size≤g) (fun g=>.slice (hdOf (some g)) q c0) (fun g=>(h,⟨some g,e,zeros z c0⟩)::l) (fun _ _ hs=>hs.fresh hh) (fun a ha w hw=>by
    rw [zeN ha ht he hx hy hq hc hqc hb hm w]
    exact ⟨_,hw.size,rfl,hw.alloc h (zeros z c0) e⟩) hJ
theorem J.aY (h:Nat) (hh:lk lS h=none) (hl:lk l h=none) {e size bytes q c0:Nat} {kl kc:IntKind} {nl nc:Int} (ht:P.underlying t=some (.slice e)) (he:ElT P e size bytes z) (hx:ev σ x=some (.int kl nl)) (hy:ev σ y=some (.int kc nc)) (hq:nl=(q:Int)) (hc:nc=(c0:Int)) (hqc:q≤c0)
    (hb:bytes*c0≤281474976710656) (hm:c0≤maxLen) (hd:okd N d)
    (hJ:∀ g,w0.heap.size≤g→J P ops F w0 M N lS L (putd d (.slice (hdOf (some g)) q c0) σ) ((h,⟨some g,e,zeros z c0⟩)::l)):
    J P ops F w0 M N lS ((⟨d,.makeSlice t x y,ty,p,af,none⟩,.a h)::L) σ l:=
  J.de h q c0 hd hh hl (zeros z c0) (fun a ha w=>zeN ha ht he hx hy hq hc hqc hb hm w) hJ
end Go.Fw
namespace Go.Fw
open Go
variable {P:Program} {w0 w w':World} {M:List Nat} {N:Nf} {σ:List (Nat×Value)} {l:List (Nat×Ent)}
theorem Cs.isSome {A:Option Addr} {cs:List Value} (h:Cs w A cs) (hn:0 < cs.length):A.isSome=true:=by
  obtain ⟨ad,ha,_⟩:=h 0 cs[0] (by simp [hn])
  simp [ha]
theorem zab (A:Option Addr):Off [] A:=fun _ _=>by simp
theorem WS.rowCs (hw:WS w0 M l w) {k:Nat} {i:RowIx} {t:TypeId} {cs:List Value} (hl:lk l k=some (i.ent t cs)):Cs w (hdOf i.id) cs:=fun j x hx=>by
  have hlt:j < cs.length:=(List.getElem?_eq_some_iff.1 hx).1
  cases hid:i.id with
  | none=>
    have hat:=hw.live k _ hl
    simp only [Ent.At,RowIx.ent,hid] at hat
    have:cs=[]:=(List.append_eq_nil_iff.1 hat.1).1
    subst this;simp at hlt
  | some g=>
    refine ⟨⟨g,0,none⟩,rfl,?_⟩
    rw [zbF,Nat.zero_add]
    have:=hw.cell hl (o:=j) (v:=x) (by simp only [RowIx.ent];rw [List.getElem?_append_left hlt];exact hx)
    simpa [RowIx.ent,hid] using this
theorem WS.blkCs (hw:WS w0 M l w) {k g:Nat} {t:TypeId} {cs:List Value} (hl:lk l k=some ⟨some g,t,cs⟩):Cs w (some ⟨g,0,none⟩) cs:=fun j x hx=>by
  refine ⟨⟨g,0,none⟩,rfl,?_⟩
  rw [zbF,Nat.zero_add]
  exact hw.cell hl (o:=j) hx
theorem zai (n:Int) (h: -9223372036854775808≤n∧n≤9223372036854775807):IntKind.i64.wrap n=n:=IntWalk.i64_in n h
theorem zto (n:Int) (h:0≤n∧n≤255):IntKind.u8.wrap n=n:=IntWalk.u8_in n h
theorem zhH (x y:Int) (h:0≤x∧x≤9223372036854775807∧1≤y):IntKind.i64.wrap (x.tdiv y)=x / y:=IntWalk.i64_quo x y h
variable {lS:List (Nat×Ent)} {ops:Array Oper} {F:Act→World→Prop} {L:List (Oper×K)} {Q:Exit→Act→World→Prop}
theorem WS.addNil (hw:WS w0 M l w) (k:Nat) (t:TypeId):WS w0 M ((k,⟨none,t,[]⟩)::l) w:=by
  refine ⟨hw.os,hw.tape,hw.output,hw.size,hw.keep,fun j e he=>?_,fun j j' e e' g he he' hne hg=>?_,fun j e g he hg=>?_⟩
  · rw [zae] at he
    split at he
    · simp at he;subst he;exact ⟨rfl,trivial⟩
    · exact hw.live j e he
  · rw [zae] at he he'
    split at he
    · simp at he;subst he;simp at hg
    · split at he'
      · simp at he';subst he';simp
      · exact hw.apart j j' e e' g he he' hne hg
  · rw [zae] at he
    split at he
    · simp at he;subst he;simp at hg
    · exact hw.own j e g he hg
theorem Has.as {a:Act} (ha:Has N σ a) {t:Nat} {v v':Value} (h:lk σ t=some v) (e:v=v'):Has N ((t,v')::σ) a:=ha.sub fun n u hn=>by
  rw [zae] at hn
  split at hn
  · rename_i hk;subst hk;rw [h,e];exact hn
  · exact hn
theorem T.as {c:Code} {v:Value} (t:Nat) (v':Value) (h:lk σ t=some v) (e:v=v') (hT:T P w0 M N Q c ((t,v')::σ) l):T P w0 M N Q c σ l:=fun hq a w ha hw=>hT hq a w (ha.as h e) hw
theorem J.as {v:Value} (t:Nat) (v':Value) (h:lk σ t=some v) (e:v=v') (hT:J P ops F w0 M N lS L ((t,v')::σ) l):J P ops F w0 M N lS L σ l:=fun hlS a ha=>hT hlS a (ha.as h e)
theorem WS.asE (hw:WS w0 M l w) {k:Nat} {e e':Ent} (h:lk l k=some e) (he:e=e'):WS w0 M ((k,e')::l) w:=hw.sub fun n u hn=>by
  rw [zae] at hn
  split at hn
  · rename_i hk;subst hk;rw [h,he];exact hn
  · exact hn
theorem T.ao {c:Code} {e:Ent} (k:Nat) (e':Ent) (h:lk l k=some e) (he:e=e') (hT:T P w0 M N Q c σ ((k,e')::l)):T P w0 M N Q c σ l:=fun hq a w ha hw=>hT hq a w ha (hw.asE h he)
theorem T.aj {c:Code} (k:Nat) (t:TypeId) (h:T P w0 M N Q c σ ((k,⟨none,t,[]⟩)::l)):T P w0 M N Q c σ l:=fun hq a w ha hw=>h hq a w ha (hw.addNil k t)
theorem WS.only (hw:WS w0 M l w) (k k':Nat) {e:Ent} (he:lk l k=some e):WS w0 M [(k',e)] w:=by
  refine ⟨hw.os,hw.tape,hw.output,hw.size,hw.keep,fun j e' h'=>?_,fun j j' e1 e2 g h1 h2 hne hg=>?_,fun j e' g h' hg=>?_⟩
  · rw [zae] at h';split at h'
    · simp at h';subst h';exact hw.live k e he
    · simp [lk] at h'
  · rw [zae] at h1 h2
    split at h1<;>split at h2
    · omega
    · simp [lk] at h2
    · simp [lk] at h1
    · simp [lk] at h1
  · rw [zae] at h';split at h'
    · simp at h';subst h';exact hw.own k e g he hg
    · simp [lk] at h'
variable {d:Option Tmp} {ty:TypeId} {p:String} {af:Array Edge}
theorem WS.rename {e:Ent} (h:WS w0 M [(0,e)] w) (k:Nat):WS w0 M [(k,e)] w:=h.only 0 k rfl
end Go.Fw
namespace Go.Fw
open Go
def rowN (kd:IntKind) (xs:List Nat):List Value:=xs.map fun (n:Nat)=>Value.int kd (n:Int)
theorem zap (kd:IntKind) (xs:List Nat):(rowN kd xs).length=xs.length:=by simp [rowN]
theorem zcZ (kd:IntKind) (xs ys:List Nat):rowN kd (xs++ys)=rowN kd xs++rowN kd ys:=by simp [rowN]
theorem zeR (kd:IntKind) (xs:List Nat) (i:Nat) (h:i < xs.length):(rowN kd xs)[i]?=some (.int kd (xs.getD i 0:Nat)):=by simp [rowN,h,List.getD]
theorem zaH (kd:IntKind) (xs:List Nat) (i:Nat) (h:i < xs.length):(rowN kd xs)[i*1]?=some (.int kd (xs.getD i 0:Nat)):=by rw [Nat.mul_one];exact zeR kd xs i h
theorem zgs (kd:IntKind) (xs:List Nat) (i:Nat) (h:i < xs.length):(rowN kd xs)[0+i*1]?=some (.int kd (xs.getD i 0:Nat)):=by rw [Nat.zero_add];exact zaH kd xs i h
theorem zpi (kd:IntKind) (xs:List Nat) (i:Nat) (x:Nat):(rowN kd xs).set i (.int kd (x:Int))=rowN kd (xs.set i x):=by simp [rowN,List.map_set]
theorem zcv (kd:IntKind) (xs:List Nat):∀ u∈rowN kd xs,u.oneCell'=true:=by
  intro u hu
  simp only [rowN,List.mem_map] at hu
  obtain ⟨x,_,rfl⟩:=hu
  rfl
theorem Cs.isSomeN {w:World} {kd:IntKind} {A:Option Addr} {xs:List Nat} (h:Cs w A (rowN kd xs)) (hn:0 < xs.length):A.isSome=true:=h.isSome (by rw [zap];exact hn)
theorem putN (kd:IntKind) (xs:List Nat) (sp:List Value) (i x:Nat) (h:i < xs.length):put (rowN kd xs++sp) i [.int kd (x:Int)]=rowN kd (xs.set i x)++sp:=by
  rw [zns _ _ _ (by simp [rowN];omega),List.set_append_left _ _ (by rw [zap];exact h),zpi]
theorem putN' (kd:IntKind) (xs:List Nat) (i x:Nat) (h:i < xs.length):put (rowN kd xs) i [.int kd (x:Int)]=rowN kd (xs.set i x):=by
  have:=putN kd xs [] i x h;simpa using this
def RowsPost (w:World) (t:TypeId) (kd:IntKind) (φ:List Nat→Prop) (e:Ending) (w':World):Prop:=
  ∃ zs:List Nat,φ zs∧∃ r:RowIx,r.Ok 1 zs.length∧e=.returned (r.val zs.length)∧WS w [] [(0,r.ent t (rowN kd zs))] w'
theorem RowsPost.mk' {w w':World} {l:List (Nat×Ent)} {t:TypeId} {kd:IntKind} {φ:List Nat→Prop} {e:Ending} (zs:List Nat) (hz:φ zs) (r:RowIx) (hr:r.Ok 1 zs.length) (he:e=.returned (r.val zs.length)) (hw:WS w [] l w') (k:Nat) (hk:lk l k=some (r.ent t (rowN kd zs))):
    RowsPost w t kd φ e w':=⟨zs,hz,r,hr,he,hw.only k 0 hk⟩
section
variable {P:Program} {ops:Array Oper} {F:Act→World→Prop} {w0:World} {M:List Nat} {N:Nf} {L:List (Oper×K)} {σ:List (Nat×Value)} {l lS:List (Nat×Ent)} {d:Option Tmp} {ty:TypeId} {p:String} {af:Array Edge} {x:Operand} {v z:Value}
theorem J.bO (h:Nat) (hh:lk lS h=none) {f:FuncId} (hf:FnOk P f) {xs:Array Operand} {tys:Array TypeId} {args:List Value} (hx:evs σ xs.toList=some args) (hd:okd N d) {t:TypeId} {kd:IntKind} {φ:List Nat→Prop}
    (spec:∀ w,WS w0 M l w→Calls P f args.toArray w (RowsPost w t kd φ))
    (hJ:∀ (zs:List Nat) (r:RowIx),φ zs→r.Ok 1 zs.length→J P ops F w0 M N lS L (putd d (r.val zs.length) σ) ((h,r.ent t (rowN kd zs))::l)):
    J P ops F w0 M N lS ((⟨d,.call ⟨.value (.func f),xs,tys⟩,ty,p,af,none⟩,.l)::L) σ l:=
  J.aL hf hx hd (ι:=List Nat×RowIx) (fun i=>φ i.1∧i.2.Ok 1 i.1.length) (fun i=>i.2.val i.1.length) [] (fun i=>[(h,i.2.ent t (rowN kd i.1))])
    (fun w hw=>(spec w hw).mono fun e w' ⟨zs,hz,r,hr,he,h2⟩=>⟨(zs,r),⟨hz,hr⟩,he,h2.rename h⟩) (fun _ _ g hg=>by simp at hg) (fun i k e he=>by
      rw [zae] at he
      split at he
      · rename_i hk;subst hk;exact hh
      · simp [lk] at he) (fun i hi=>hJ i.1 i.2 hi.1 hi.2)
theorem zlq:∀ (vs:List Value) (k:Nat) (arr:Array Value),k+vs.length=arr.size→
    (vs.zipIdx k).foldl (fun cs (q:Value×Nat)=>cs.setIfInBounds (0+q.2) q.1) arr=(arr.toList.take k++vs).toArray
  | [],k,arr,h=>by
    simp at h
    subst h
    simp
    rw [← Array.length_toList,List.take_length]
  | v::vs,k,arr,h=>by
    simp at h
    rw [List.zipIdx_cons,List.foldl_cons,zlq vs (k+1) _ (by simp;omega)]
    congr 1
    simp only [Nat.zero_add,Array.toList_setIfInBounds]
    rw [List.take_add_one,List.take_set_of_le (Nat.le_refl k)]
    simp [show k < arr.size by omega]
theorem zpY (size:Nat) (arr:Array Value) (v:Value) (cs:List Value) (hv:v.cells=cs.toArray) (hc:cs.length=size) (ha:arr.size=size):
    Instr.fill (fun i=>some (i*size,size)) arr [(0,v)]=some cs.toArray:=by
  have h1:v.cells.size=size:=by rw [hv];simpa using hc
  have h2:=zlq cs 0 arr (by omega)
  simp only [List.take_zero,List.nil_append] at h2
  unfold Instr.fill
  dsimp only
  split
  · rename_i h;simp [h1,ha] at h
  · unfold Instr.fill
    rw [hv,← Array.foldl_toList,Array.toList_zipIdx,Nat.zero_mul]
    exact congrArg some h2
theorem J.aD (h:Nat) (hh:lk lS h=none) {t e size bytes:Nat} (ht:P.underlying t=some (.slice e)) (he:ElT P e size bytes z) (hsz:size≤16777216) (hx:ev σ x=some v) (cs:List Value) (hv:v.cells=cs.toArray) (hc:cs.length=size) (hd:okd N d)
    (hJ:∀ g,w0.heap.size≤g→J P ops F w0 M N lS L (putd d (.slice (some ⟨g,0,none⟩) 1 1) σ) ((h,⟨some g,e,cs⟩)::l)):
    J P ops F w0 M N lS ((⟨d,.buildSlice t 1 #[(0,x)],ty,p,af,none⟩,.l)::L) σ l:=
  J.aV h hh (vs:=[(0,v)]) (by simp [evp,hx]) hd cs (fun w=>by
    have h0:=he.2.2.1
    have h1:¬ (1*size > 2^24):=by simp;omega
    have h2:¬ (1*size=0):=by omega
    obtain ⟨ti,hti,htz,hts,htb⟩:=he.open
    have hz:ZeroT P e z:=by simp [ZeroT,hti,htz]
    have hf:=zpY size ((Array.range (1*size)).map (fun i=>z.cells[i%z.cells.size]!)) v cs hv hc (by simp)
    simp only [Instr.buildSlice,Sem.run_bind,run_underlying ht,Result.andThen,zav he.sizeT,h1,if_false,h2,Sem.run_bind,zaZ hz,Sem.run_pure,hf,newRow,run_newObj]
    rfl) hJ
end
theorem zdT (a b:Nat) (h:a+b≤9223372036854775807):IntKind.i64.wrap ((a:Int)+(b:Int))=((a+b:Nat):Int):=by rw [zai _ (by omega)];omega
theorem zbt (a b:Nat) (h:b≤a∧a≤9223372036854775807):IntKind.i64.wrap ((a:Int) - (b:Int))=((a - b:Nat):Int):=by rw [zai _ (by omega)];omega
theorem zgC (a b:Nat) (h:a*b≤9223372036854775807):IntKind.i64.wrap ((a:Int)*(b:Int))=((a*b:Nat):Int):=by rw [← Int.natCast_mul,zai _ (by omega)]
theorem zrR (a b:Nat) (h:a≤9223372036854775807∧1≤b):IntKind.i64.wrap ((a:Int).tdiv (b:Int))=((a / b:Nat):Int):=by
  rw [zhH _ _ (by omega)];rfl
theorem zrP (a b:Nat):(a:Int).tmod (b:Int)=((a%b:Nat):Int):=rfl
theorem zlO (a:Nat) (h:a≤9223372036854775807):IntKind.i64.wrap (a:Int)=((a:Nat):Int):=zai _ (by omega)
theorem zlP (a:Nat) (h:a≤255):IntKind.u8.wrap (a:Int)=(a:Int):=zto _ (by omega)
def Dg (xs:List Nat):Prop:=∀ x∈xs,x < 256
theorem Dg.nil:Dg []:=fun x h=>by simp at h
theorem Dg.getD {xs:List Nat} (h:Dg xs) (i:Nat):xs.getD i 0 < 256:=by
  rw [List.getD_eq_getElem?_getD]
  by_cases hi:i < xs.length
  · simp [hi];exact h _ (List.getElem_mem hi)
  · simp [List.getElem?_eq_none (Nat.le_of_not_lt hi)]
theorem Dg.take {xs:List Nat} (h:Dg xs) (i:Nat):Dg (xs.take i):=fun x hx=>h x (List.mem_of_mem_take hx)
def lim (x i:Nat):Nat:=x / 18446744073709551616^i%18446744073709551616
def wl (x:Nat):List Nat:=[lim x 0,lim x 1,lim x 2,lim x 3]
abbrev wc (x:Nat):List Value:=rowN .u64 (wl x)
abbrev W (x:Nat):Value:=.agg (wc x).toArray
theorem zbW (x i:Nat):lim x i < 18446744073709551616:=Nat.mod_lt _ (by omega)
theorem ziy (x:Nat):(wl x).length=4:=rfl
theorem ziz (x i:Nat) (h:i < 4):(wl x).getD i 0=lim x i:=by
  match i,h with
  | 0,_=>rfl
  | 1,_=>rfl
  | 2,_=>rfl
  | 3,_=>rfl
end Go.Fw
namespace Go.Fw
open Go
theorem list4 {ys:List Nat} (h:ys.length=4):ys=[ys.getD 0 0,ys.getD 1 0,ys.getD 2 0,ys.getD 3 0]:=by
  match ys,h with
  | [a,b,c,d],_=>rfl
theorem ztm {ys:List Nat} (h:ys.length=4) (x:Nat) (hq:∀ q,q < 4→ys.getD q 0=lim x q):ys=wl x:=by
  rw [list4 h,hq 0 (by omega),hq 1 (by omega),hq 2 (by omega),hq 3 (by omega)];rfl
theorem zln (ys:List Nat) (i j v:Nat) (h:i < ys.length):(ys.set i v).getD j 0=if i=j then v else ys.getD j 0:=by
  rw [List.getD_eq_getElem?_getD,List.getElem?_set]
  by_cases hij:i=j
  · subst hij;simp [h]
  · simp [hij,List.getD_eq_getElem?_getD]
theorem zic (x i:Nat) (h:i < 4):lim (x%2^256) i=lim x i:=by
  unfold lim
  rw [show (2:Nat)^256=18446744073709551616^i*18446744073709551616^(4 - i) by rw [← Nat.pow_add,show i+(4 - i)=4 by omega]]
  rw [Nat.mod_mul_right_div_self]
  rw [show 18446744073709551616^(4 - i)=18446744073709551616*18446744073709551616^(3 - i) by rw [← Nat.pow_succ',show (3 - i).succ=4 - i by omega]]
  exact Nat.mod_mul_right_mod _ _ _
theorem zuL (x:Nat):W (x%2^256)=W x:=by
  show Value.agg (wc _).toArray=Value.agg (wc _).toArray
  have:wl (x%2^256)=wl x:=by unfold wl;rw [zic x 0 (by omega),zic x 1 (by omega),zic x 2 (by omega),zic x 3 (by omega)]
  rw [wc,this]
theorem zta {x y:Nat} (h:x%2^256=y%2^256):W x=W y:=by rw [← zuL x,h,zuL]
def sizeFrom (x:Nat):Nat→Nat
  | 0=>0
  | n+1=>if x / 256^n%256=0 then sizeFrom x n else n+1
def sizeN (x:Nat):Nat:=sizeFrom x 32
theorem zgn (x n:Nat) (h:n≠0→x / 256^(n - 1)%256≠0):∀ m,n≤m→(∀ t,n≤t→t < m→x / 256^t%256=0)→sizeFrom x m=n
  | 0,hm,_=>by unfold sizeFrom;omega
  | m+1,hm,hz=>by
    unfold sizeFrom
    by_cases hn:n=m+1
    · subst hn
      rw [if_neg (by simpa using h (by omega))]
    · rw [if_pos (hz m (by omega) (by omega))]
      exact zgn x n h m (by omega) (fun t h1 h2=>hz t h1 (by omega))
theorem zpc {x n:Nat} (hn:n≤32) (hz:∀ t,n≤t→t < 32→x / 256^t%256=0) (h:n≠0→x / 256^(n - 1)%256≠0):sizeN x=n:=zgn x n h 32 hn hz
end Go.Fw
namespace Go.Fw
open Go
variable {P:Program} {ops:Array Oper} {F:Act→World→Prop} {w0:World} {M:List Nat} {N:Nf} {L:List (Oper×K)} {σ:List (Nat×Value)} {l lS:List (Nat×Ent)} {k:K}
  {d:Option Tmp} {ty:TypeId} {p:String} {af:Array Edge} {v v1 v2 z:Value} {x y c:Operand} {t:TypeId} {kd:IntKind} {n m r:Int} {b:Bool}
def rowW (xs:List Nat):List Value:=xs.flatMap wc
theorem zex (xs:List Nat):(rowW xs).length=xs.length*4:=by
  induction xs with
  | nil=>rfl
  | cons x xs ih=>simp only [rowW,List.flatMap_cons,List.length_append,List.length_cons] at ih ⊢;rw [ih];simp only [wc,zap,ziy];omega
theorem zhV (xs:List Nat):∀ u∈rowW xs,u.oneCell'=true:=by
  intro u hu
  simp only [rowW,List.mem_flatMap] at hu
  obtain ⟨x,_,hx⟩:=hu
  exact zcv _ _ u hx
theorem zbQ (x:Nat):(wc x).length=4:=rfl
theorem znj (xs:List Nat) (i:Nat):(rowW xs).drop (i*4)=rowW (xs.drop i):=by
  induction xs generalizing i with
  | nil=>simp [rowW]
  | cons x xs ih=>
    cases i with
    | zero=>simp [rowW]
    | succ i=>
      rw [show (i+1)*4=(wc x).length+i*4 by rw [zbQ];omega]
      simp only [rowW,List.flatMap_cons,List.drop_succ_cons] at ih ⊢
      rw [List.drop_length_add_append,ih]
theorem zkQ (xs:List Nat) (i:Nat) (h:i < xs.length):((rowW xs).drop (i*4)).take 4=wc (xs.getD i 0):=by
  rw [znj,List.drop_eq_getElem_cons h]
  simp only [rowW,List.flatMap_cons]
  rw [List.take_append_of_le_length (by rw [zbQ];omega),List.take_of_length_le (by rw [zbQ];omega)]
  simp [List.getD,h]
theorem J.bU (hk:nog k) {A:Option Addr} {cs:List Value} {i:Nat} (hc:Cs w0 A cs) (ho:Off M A) (hx:ev σ x=some (.pointer (some ((A.getD default).add i)))) (ht:AggT P t 4) {u:Nat} (hv:(cs.drop i).take 4=wc u) (hd:okd N d)
    (hJ:J P ops F w0 M N lS L (putd d (W u) σ) l):J P ops F w0 M N lS ((⟨d,.load t x,ty,p,af,none⟩,k)::L) σ l:=J.ar hk hc ho hx ht (wc u) rfl hv hd hJ
theorem Cs.isSomeW {w:World} {A:Option Addr} {xs:List Nat} (h:Cs w A (rowW xs)) (hn:0 < xs.length):A.isSome=true:=h.isSome (by rw [zex];omega)
def bstr (xs:List Nat):ByteArray:=⟨(xs.map UInt8.ofNat).toArray⟩
theorem zow (xs:List Nat):((xs.map (fun (n:Nat)=>(n:Int))).foldl (fun r n=>r.push (UInt8.ofNat n.toNat)) ByteArray.empty)=bstr xs:=by
  have key:∀ (xs:List Nat) (s:ByteArray),((xs.map (fun (n:Nat)=>(n:Int))).foldl (fun r n=>r.push (UInt8.ofNat n.toNat)) s)=⟨s.data++(xs.map UInt8.ofNat).toArray⟩:=by
    intro xs
    induction xs with
    | nil=>intro s;simp
    | cons x xs ih=>
      intro s
      simp only [List.map_cons,List.foldl_cons,ih,Int.toNat_natCast]
      congr 1
      simp [ByteArray.push]
  rw [key]
  show (⟨#[]++_⟩:ByteArray)=_
  simp [bstr]
theorem ztp {a b:Nat} (ha:a < 256) (hb:b < 256) (h:UInt8.ofNat a=UInt8.ofNat b):a=b:=by
  have:=congrArg UInt8.toNat h
  simp at this
  omega
theorem zqi {xs ys:List Nat} (hx:Dg xs) (hy:Dg ys) (h:bstr xs=bstr ys):xs=ys:=by
  have h1:xs.map UInt8.ofNat=ys.map UInt8.ofNat:=by
    have:=congrArg ByteArray.data h
    simpa [bstr] using this
  clear h
  induction xs generalizing ys with
  | nil=>cases ys with
    | nil=>rfl
    | cons y ys=>simp at h1
  | cons x xs ih=>
    cases ys with
    | nil=>simp at h1
    | cons y ys=>
      simp only [List.map_cons,List.cons.injEq] at h1
      rw [ztp (hx x (by simp)) (hy y (by simp)) h1.1,ih (fun a ha=>hx a (by simp [ha])) (fun a ha=>hy a (by simp [ha])) h1.2]
theorem zox {xs ys:List Nat} (hx:Dg xs) (hy:Dg ys):((bstr xs).toList == (bstr ys).toList)=decide (xs=ys):=by
  by_cases h:xs=ys
  · subst h;simp
  · rw [decide_eq_false h]
    have e1:∀ zs,(bstr zs).toList=zs.map UInt8.ofNat:=fun zs=>by rw [ByteArray.toList_eq];simp [bstr]
    rw [e1,e1]
    refine beq_eq_false_iff_ne.2 fun e=>h (zqi hx hy ?_)
    unfold bstr;rw [e]
theorem zph {w:World} {A:Option Addr} {q cap:Nat} {xs:List Nat} (hq:xs.length=q) (hc:Cs w A (rowN .u8 xs)):(Conv.bytesToString (.slice A q cap)).run P w=.ok (.string (bstr xs)) w:=by
  cases A with
  | none=>
    cases xs with
    | nil=>rfl
    | cons x xs=>obtain ⟨ad,ha,_⟩:=hc 0 _ (by simp [rowN];rfl);cases ha
  | some a=>
    rw [run_bytesToString w a q cap (xs.map (fun (n:Nat)=>(n:Int))) (by
      have h1:(xs.map (fun (n:Nat)=>(n:Int))).map (Value.int .u8)=rowN .u8 xs:=by simp [rowN]
      rw [h1,← hq,← zap .u8 xs]
      exact run_loadCells_list (P:=P) w a _ fun j u hj=>by
        obtain ⟨ad,ha,h⟩:=hc j u hj
        simp at ha;subst ha;exact h),zow]
theorem J.bc (hk:nog k) {src dst e q cap:Nat} {A:Option Addr} (hs:P.underlying src=some (.slice e)) (he:P.underlying e=some (.int .u8)) (ht:P.underlying dst=some .string) (hx:ev σ x=some (.slice A q cap)) (xs:List Nat) (hq:xs.length=q)
    (hA:∀ w,WS w0 M l w→Cs w A (rowN .u8 xs)) (hd:okd N d) (h:J P ops F w0 M N lS L (putd d (.string (bstr xs)) σ) l):J P ops F w0 M N lS ((⟨d,.convert src dst x,ty,p,af,none⟩,k)::L) σ l:=
  J.ba rfl hk hd _ (fun a ha w hw=>by
    simp only [execOp,ha.eval hx,Sem.run_bind,run_convert_bytes_string w src dst e A q cap hs he ht,zph hq (hA w hw),Result.andThen,Sem.run_pure]) h
theorem J.da {t':TypeId} {xs ys:List Nat} (hx:ev σ x=some (.string (bstr xs))) (hy:ev σ y=some (.string (bstr ys))) (hd:okd N d) (h1:Dg xs) (h2:Dg ys) (h:J P ops F w0 M N lS L (putd d (.bool (decide (xs=ys))) σ) l):
    J P ops F w0 M N lS ((⟨d,.binOp .eql t x y t',ty,p,af,none⟩,k)::L) σ l:=
  J.aS hx hy hd (fun w=>by rw [eqGuard_at_string,← zox h1 h2];rfl) h
theorem J.bG {t':TypeId} {xs ys:List Nat} (hx:ev σ x=some (.string (bstr xs))) (hy:ev σ y=some (.string (bstr ys))) (hd:okd N d) (h1:Dg xs) (h2:Dg ys) (h:J P ops F w0 M N lS L (putd d (.bool (decide (xs≠ys))) σ) l):
    J P ops F w0 M N lS ((⟨d,.binOp .neq t x y t',ty,p,af,none⟩,k)::L) σ l:=
  J.aS hx hy hd (fun w=>by rw [eqGuard_at_string,decide_not,← zox h1 h2];rfl) h
theorem zqk (a b:Nat):((a:Int) == (b:Int))=decide (a=b):=by
  by_cases h:a=b
  · subst h;simp
  · rw [decide_eq_false h];simp;omega
theorem zfu {len e:Nat} (hT:ArrT P t len e 1) (ho:OneT P e) (hk:P.underlying e=some (.int kd)) (d D:Nat) (hD:D=d+1) (xs ys:List Nat) (hx:xs.length=len) (hy:ys.length=len) (w:World):
    (Op.equalIn (D+1) t (.agg (rowN kd xs).toArray) (.agg (rowN kd ys).toArray)).run P w=.ok (decide (xs=ys)) w:=by
  have key:∀ (f:Nat→Option Bool×Unit→Sem (ForInStep (Option Bool×Unit))),
      (∀ i s,f i s=(do
        if (!(← Op.equalIn D e (← part e (rowN kd xs).toArray (i*1)) (← part e (rowN kd ys).toArray (i*1))))=true then Pure.pure (ForInStep.done (some false,()))
          else Pure.pure (ForInStep.yield (none,()))))→∀ (G:Option Bool×Unit→Sem Bool),(∀ u,G (none,u)=Pure.pure true)→(∀ b u,G (some b,u)=Pure.pure b)→∀ (j i:Nat),i+j=len→(∀ q,q < i→xs.getD q 0=ys.getD q 0)→
      ((forIn (List.range' i j) ((none,()):Option Bool×Unit) f).run P w).andThen (fun r w'=>(G r).run P w')=.ok (decide (xs=ys)) w:=by
    intro f hf G hG1 hG2 j
    induction j with
    | zero=>
      intro i hi hpre
      have:xs=ys:=by
        apply List.ext_getElem (by omega)
        intro q h1 h2
        have:=hpre q (by omega)
        simpa [List.getD,h1,h2] using this
      simp [this,hG1]
    | succ j ih=>
      intro i hi hpre
      have hpx:(part e (rowN kd xs).toArray (i*1)).run P w=.ok (.int kd (xs.getD i 0:Nat)) w:=zbR ho _ _ (by rw [List.getElem?_toArray];exact zaH _ _ _ (by omega)) w
      have hpy:(part e (rowN kd ys).toArray (i*1)).run P w=.ok (.int kd (ys.getD i 0:Nat)) w:=zbR ho _ _ (by rw [List.getElem?_toArray];exact zaH _ _ _ (by omega)) w
      have heq:(Op.equalIn D e (.int kd (xs.getD i 0:Nat)) (.int kd (ys.getD i 0:Nat))).run P w=.ok (decide (xs.getD i 0=ys.getD i 0)) w:=by
        rw [hD,run_equalIn_int w d e kd kd _ _ hk,zqk]
      have ih':=ih (i+1) (by omega)
      simp only [List.range'_succ,List.forIn_cons,Sem.run_bind,hf,hpx,hpy,heq,Result.andThen_ok]
      by_cases h:xs.getD i 0=ys.getD i 0
      · simp only [decide_eq_true h,Bool.not_true,Bool.false_eq_true,if_false,Sem.run_pure,Result.andThen_ok]
        refine ih' fun q hq=>?_
        rcases Nat.lt_or_ge q i with h1 | h1
        · exact hpre q h1
        · obtain rfl:q=i:=by omega
          exact h
      · have hne:xs≠ys:=fun e=>h (by rw [e])
        simp only [decide_eq_false h,decide_eq_false hne,Bool.not_false,if_true,Sem.run_pure,Result.andThen_ok,hG2]
  simp only [Op.equalIn,Sem.run_bind,run_underlying hT.1,Result.andThen_ok,zav hT.2,Std.Legacy.Range.forIn_eq_forIn_range',Std.Legacy.Range.size]
  simp only [Nat.sub_zero,Nat.add_sub_cancel,Nat.div_one]
  exact key _ (fun _ _=>rfl) _ (fun _=>rfl) (fun _ _=>rfl) len 0 (by omega) (fun q hq=>by omega)
def EqT (P:Program) (t:TypeId):Prop:=(∃ e,ArrT P t 4 e 1∧OneT P e∧P.underlying e=some (.int .u64))∧P.eqGuardType P.depth t=false
theorem zoP (a b:Nat):decide (wl a=wl b)=decide (a%2^256=b%2^256):=by
  have e:∀ x:Nat,x%2^256=lim x 0+18446744073709551616*(lim x 1+18446744073709551616*(lim x 2+18446744073709551616*lim x 3)):=by
    intro x
    unfold lim
    omega
  by_cases h:wl a=wl b
  · rw [decide_eq_true h]
    unfold wl at h
    simp only [List.cons.injEq,and_true] at h
    rw [decide_eq_true]
    rw [e a,e b,h.1,h.2.1,h.2.2.1,h.2.2.2]
  · rw [decide_eq_false h,decide_eq_false]
    intro h2
    apply h
    rw [e a,e b] at h2
    have l0:=zbW a 0;have l1:=zbW a 1;have l2:=zbW a 2;have l3:=zbW a 3
    have k0:=zbW b 0;have k1:=zbW b 1;have k2:=zbW b 2;have k3:=zbW b 3
    unfold wl
    rw [show lim a 0=lim b 0 by omega,show lim a 1=lim b 1 by omega,show lim a 2=lim b 2 by omega,show lim a 3=lim b 3 by omega]
theorem znf (hT:EqT P t) (a b:Nat) (w:World):(Op.equal t (W a) (W b)).run P w=.ok (decide (a%2^256=b%2^256)) w:=by
  obtain ⟨⟨e,h1,h2,h3⟩,_⟩:=hT
  rw [← zoP]
  exact zfu h1 h2 h3 9998 9999 rfl (wl a) (wl b) rfl rfl w
theorem J.bg {t':TypeId} {x1 x2:Nat} (hT:EqT P t) (hx:ev σ x=some (W x1)) (hy:ev σ y=some (W x2)) (hd:okd N d) (h:J P ops F w0 M N lS L (putd d (.bool (decide (x1%2^256=x2%2^256))) σ) l):
    J P ops F w0 M N lS ((⟨d,.binOp .eql t x y t',ty,p,af,none⟩,k)::L) σ l:=
  J.aS hx hy hd (fun w=>by
    simp only [Sem.run_bind,run_eqGuard_agg w .eql t x y _ _ hT.2,Result.andThen_ok,binOp,znf hT,Sem.run_pure]) h
theorem J.aX {t':TypeId} {x1 x2:Nat} (hT:EqT P t) (hx:ev σ x=some (W x1)) (hy:ev σ y=some (W x2)) (hd:okd N d) (h:J P ops F w0 M N lS L (putd d (.bool (decide (¬ x1%2^256=x2%2^256))) σ) l):
    J P ops F w0 M N lS ((⟨d,.binOp .neq t x y t',ty,p,af,none⟩,k)::L) σ l:=
  J.aS hx hy hd (fun w=>by
    simp only [Sem.run_bind,run_eqGuard_agg w .neq t x y _ _ hT.2,Result.andThen_ok,binOp,znf hT,Sem.run_pure,decide_not]) h
theorem J.cH (h:Nat) (hh:lk lS h=none) {e:Ent} {el size o q dLen dCap sLen sCap:Nat} {D A:Option Addr} {news:List Value} {sT:TypeId} (ht:SlT P t el size) (hs0:0 < size) (he:lk l h=some e) (hx:ev σ x=some (.slice D dLen dCap)) (hy:ev σ y=some (.slice A sLen sCap))
    (hD:news≠[]→D=some ⟨e.id.getD 0,o,none⟩) (hq:min sLen dLen=q) (hn:news.length=q*size) (hA:∀ w,WS w0 M l w→Cs w A news) (h1:∀ u∈news,u.oneCell'=true) (hfit:o+news.length≤e.cs.length) (hd:okd N d) (cs':List Value) (hcs:put e.cs o news=cs')
    (hJ:J P ops F w0 M N lS L (putd d (.int .i64 (q:Int)) σ) ((h,⟨e.id,e.t,cs'⟩)::l)):J P ops F w0 M N lS ((⟨d,.call ⟨.builtin .copy,#[x,y],#[t,sT]⟩,ty,p,af,none⟩,.l)::L) σ l:=
  J.aR rfl hd (ι:=Unit) (fun _=>True) (fun _=>.int .i64 (q:Int)) (fun _=>(h,⟨e.id,e.t,cs'⟩)::l) (fun _ _ hs=>hs.fresh hh) (fun a ha w hw=>by
    rw [zcj ha (args:=[.slice D dLen dCap,.slice A sLen sCap]) (by simp [evs,hx,hy]) w]
    have hmin:Nat.min sLen dLen=q:=hq
    have hc:=hA w hw
    by_cases hz:news=[]
    · subst hz
      have hq0:q=0:=by
        have h3:q*size=0:=by simpa using hn.symm
        rcases Nat.mul_eq_zero.1 h3 with h4 | h4
        · exact h4
        · omega
      subst hq0
      have hput:put e.cs o []=e.cs:=by simp [put]
      rw [hput] at hcs
      subst hcs
      have hrun:(Builtin.copy_ #[t,sT] ty #[.slice D dLen dCap,.slice A sLen sCap]).run P w=.ok (goInt 0) w:=by
        have hl:∀ (x:Addr),(loadCells x 0).run P w=.ok #[] w:=fun x=>by simpa using run_loadCells_list (P:=P) w x [] (by simp)
        cases D<;>cases A<;>simp [Builtin.copy_,run_underlying ht.1,Builtin.lenOf,Builtin.firstCells,zav ht.2,hmin,storeCells,hl]
      simp only [builtin,Sem.run_bind,hrun,Result.andThen]
      exact ⟨(),trivial,rfl,hw.sub (Sub.cons he (Sub.refl _))⟩
    · obtain rfl:=hD hz
      obtain ⟨ad,rfl⟩:∃ ad,A=some ad:=by
        cases hne:news with
        | nil=>exact absurd hne hz
        | cons u us=>obtain ⟨ad,h2,_⟩:=hc 0 u (by simp [hne]);exact ⟨ad,h2⟩
      have hat:=hw.live h e he
      cases hid:e.id with
      | none=>
        simp only [Ent.At,hid] at hat
        rw [hat.1] at hfit
        simp at hfit
        exact absurd hfit.2 hz
      | some g=>
        have hld:(loadCells ad (q*size)).run P w=.ok news.toArray w:=by
          rw [← hn]
          exact run_loadCells_list (P:=P) w ad news fun j u hj=>by
            obtain ⟨ad',h2,h3⟩:=hc j u hj
            simp at h2;subst h2;exact h3
        have hst:=zeM (P:=P) hid hat news hfit h1
        have hset:=hw.set he hid (put e.cs o news)
        rw [hcs,hid] at hset
        have hrun:(Builtin.copy_ #[t,sT] ty #[.slice (some ⟨g,o,none⟩) dLen dCap,.slice (some ad) sLen sCap]).run P w=.ok (.int .i64 (q:Int)) (w.setRow g cs'.toArray):=by
          simp [Builtin.copy_,run_underlying ht.1,Builtin.lenOf,Builtin.firstCells,zav ht.2,hmin,hld,hst,hcs,goInt]
        simp only [Option.getD_some,builtin,Sem.run_bind,hrun,Result.andThen]
        exact ⟨(),trivial,rfl,hset⟩) (fun _ _=>hJ)
theorem J.db {f : FuncId} {fn : Func} {x y c : Operand} {tys : Array TypeId} (hf : P.funcs[f]? = some fn) (hname : (fn.name == "runtime.NumGoroutine") = false) (hb : fn.body.isNone = true) (hn : Extern.findNext fn = none) (he : Extern.find fn = some add64Entry) {a1 a2 cc : Nat}
    (hx:ev σ x=some (.int .u64 (a1:Int))) (hy:ev σ y=some (.int .u64 (a2:Int))) (hc:ev σ c=some (.int .u64 (cc:Int))) (h1:cc≤1) (hd:okd N d)
    (h:J P ops F w0 M N lS L (putd d (.tuple [.int .u64 (((a1+a2+cc)%18446744073709551616:Nat):Int),.int .u64 (((a1+a2+cc) / 18446744073709551616:Nat):Int)].toArray) σ) l):
    J P ops F w0 M N lS ((⟨d,.call ⟨.value (.func f),#[x,y,c],tys⟩,ty,p,af,none⟩,k)::L) σ l:=
  J.bV hf hname hb hn he (args:=[.int .u64 (a1:Int),.int .u64 (a2:Int),.int .u64 (cc:Int)]) (by simp [evs,hx,hy,hc]) hd (fun w=>by
    rw [run_add64 _ _ _ (by omega) (by omega) (by omega) (by omega)]
    rfl) h
def ztt:Array Value→Sem Value:=fun args=>do
  let (x, y, b) ← Extern.MathBitsCarry.three "Sub64" args
  pure (Extern.MathBitsCarry.pair ((x+Extern.MathBitsCarry.m64 - y - b)%Extern.MathBitsCarry.m64) (if x < y+b then 1 else 0))
theorem J.cX {f : FuncId} {fn : Func} {x y c : Operand} {tys : Array TypeId} (hf : P.funcs[f]? = some fn) (hname : (fn.name == "runtime.NumGoroutine") = false) (hb : fn.body.isNone = true) (hn : Extern.findNext fn = none) (he : Extern.find fn = some ztt) {a1 a2 cc : Nat}
    (hx:ev σ x=some (.int .u64 (a1:Int))) (hy:ev σ y=some (.int .u64 (a2:Int))) (hc:ev σ c=some (.int .u64 (cc:Int))) (h1:cc≤1) (hd:okd N d)
    (h:J P ops F w0 M N lS L (putd d (.tuple [.int .u64 (((a1+18446744073709551616 - a2 - cc)%18446744073709551616:Nat):Int),.int .u64 ((if a1 < a2+cc then 1 else 0:Nat):Int)].toArray) σ) l):
    J P ops F w0 M N lS ((⟨d,.call ⟨.value (.func f),#[x,y,c],tys⟩,ty,p,af,none⟩,k)::L) σ l:=
  J.bV hf hname hb hn he (args:=[.int .u64 (a1:Int),.int .u64 (a2:Int),.int .u64 (cc:Int)]) (by simp [evs,hx,hy,hc]) hd (fun w=>by
    have:cc=0∨cc=1:=by omega
    rcases this with rfl | rfl<;>rfl) h
theorem J.cq {s:ByteArray} {i:Nat} {f:Nat→Nat} (ht:P.underlying t=some .string) (hx:ev σ x=some (.string s)) (tab:∀ j:Fin 256,(s.data.toList[j.val]?).map UInt8.toNat=some (f j.val)) (hy:ev σ y=some (.int kd (i:Int))) (hi:i < 256) (hd:okd N d)
    (hJ:J P ops F w0 M N lS L (putd d (.int .u8 (f i:Nat)) σ) l):J P ops F w0 M N lS ((⟨d,.index t x y,ty,p,af,none⟩,k)::L) σ l:=by
  have h1:=tab ⟨i,hi⟩
  simp only [Option.map_eq_some_iff] at h1
  obtain ⟨u,hu,hf⟩:=h1
  refine J.ct ht hx hy (Int.natCast_nonneg _) (Int.toNat_natCast _) hu hd ?_
  rw [hf];exact hJ
end Go.Fw
namespace Go.Fw
open Go
section
variable {P:Program} {ops:Array Oper} {F:Act→World→Prop} {w0 w:World} {M:List Nat} {N:Nf} {L:List (Oper×K)} {σ:List (Nat×Value)} {l lS:List (Nat×Ent)} {Q:Exit→Act→World→Prop}
def rm (k:Nat):List (Nat×Ent)→List (Nat×Ent)
  | []=>[]
  | (j,e)::r=>match Nat.beq j k with | true=>rm k r | false=>(j,e)::rm k r
theorem ztI (k n:Nat) (l:List (Nat×Ent)):lk (rm k l) n=if n=k then none else lk l n:=by
  induction l with
  | nil=>simp [rm,lk]
  | cons p r ih=>
    obtain ⟨j,e⟩:=p
    simp only [rm]
    cases hb:Nat.beq j k with
    | true=>
      have hjk:j=k:=Nat.eq_of_beq_eq_true hb
      subst hjk
      simp only [ih,zae]
      by_cases h:n=j
      · simp [h]
      · simp [h,Ne.symm h]
    | false=>
      have hjk:j≠k:=fun e=>by rw [e] at hb;simp at hb
      simp only [zae,ih]
      by_cases h:j=n
      · subst h;simp [hjk]
      · simp [h]
theorem WS.mv (hw:WS w0 M l w) {e:Ent} (k k':Nat) (he:lk l k=some e):WS w0 M ((k',e)::rm k (rm k' l)) w:=by
  have key:∀ n u,lk ((k',e)::rm k (rm k' l)) n=some u→(n=k'∧u=e)∨(n≠k'∧n≠k∧lk l n=some u):=by
    intro n u h
    rw [zae,ztI,ztI] at h
    by_cases h1:k'=n
    · subst h1;simp at h;exact .inl ⟨rfl,h.symm⟩
    · by_cases h2:n=k
      · subst h2;simp [h1] at h
      · rw [if_neg h1,if_neg h2,if_neg (Ne.symm h1)] at h
        exact .inr ⟨Ne.symm h1,h2,h⟩
  refine ⟨hw.os,hw.tape,hw.output,hw.size,hw.keep,fun j u h=>?_,fun j j' u u' g h h' hne hg=>?_,fun j u g h hg=>?_⟩
  · rcases key j u h with ⟨_,rfl⟩ | ⟨_,_,h2⟩
    · exact hw.live k _ he
    · exact hw.live j u h2
  · rcases key j u h with ⟨rfl,rfl⟩ | ⟨a1,a2,h2⟩<;>rcases key j' u' h' with ⟨rfl,rfl⟩ | ⟨b1,b2,h3⟩
    · exact absurd rfl hne
    · exact hw.apart k j' _ _ g he h3 (Ne.symm b2) hg
    · exact hw.apart j k _ _ g h2 he a2 hg
    · exact hw.apart j j' _ _ g h2 h3 hne hg
  · rcases key j u h with ⟨_,rfl⟩ | ⟨_,_,h2⟩
    · exact hw.own k _ g he hg
    · exact hw.own j u g h2 hg
theorem X.mv {x:Exit} {e:Ent} (k k':Nat) (he:lk l k=some e) (h:X w0 M N Q x σ ((k',e)::rm k (rm k' l))):X w0 M N Q x σ l:=fun hq a w ha hw=>h hq a w ha (hw.mv k k' he)
end
theorem zjK (a s:Nat) (h:s≤64):((a:Int)).fdiv (2^min ((s:Int)).toNat IntKind.u64.bits)=((a / 2^s:Nat):Int):=by
  have e:min ((s:Int)).toNat IntKind.u64.bits=s:=by simp [IntKind.bits];omega
  rw [e,Int.fdiv_eq_ediv_of_nonneg _ (Int.pow_nonneg (by omega))]
  simp
theorem lim0 (x:Nat):lim x 0=x%18446744073709551616:=by unfold lim;omega
theorem zqn (x y i:Nat) (h:i < 4):(lim x i+lim y i+(x%18446744073709551616^i+y%18446744073709551616^i) / 18446744073709551616^i)%18446744073709551616=lim (x+y) i∧
    (lim x i+lim y i+(x%18446744073709551616^i+y%18446744073709551616^i) / 18446744073709551616^i) / 18446744073709551616=(x%18446744073709551616^(i+1)+y%18446744073709551616^(i+1)) / 18446744073709551616^(i+1):=by
  unfold lim
  match i,h with
  | 0,_=>omega
  | 1,_=>omega
  | 2,_=>omega
  | 3,_=>omega
theorem zjz (x y i:Nat):(x%18446744073709551616^i+y%18446744073709551616^i) / 18446744073709551616^i≤1:=by
  have hp:0 < 18446744073709551616^i:=Nat.pow_pos (by omega)
  have h1:=Nat.mod_lt x hp
  have h2:=Nat.mod_lt y hp
  have:(x%18446744073709551616^i+y%18446744073709551616^i) / 18446744073709551616^i < 2:=(Nat.div_lt_iff_lt_mul hp).2 (by omega)
  omega
def bor (x y i:Nat):Nat:=if x%18446744073709551616^i < y%18446744073709551616^i then 1 else 0
theorem zuB (x y i:Nat):bor x y i≤1:=by unfold bor;split<;>omega
theorem zqj (x y:Nat):bor x y 0=0:=by unfold bor;simp [Nat.mod_one]
def dif (x y:Nat):Nat:=x+(2^256 - y%2^256)
theorem zoY (x y i:Nat) (h:i < 4):(lim x i+18446744073709551616 - lim y i - bor x y i)%18446744073709551616=lim (dif x y) i∧
    (if lim x i < lim y i+bor x y i then 1 else 0)=bor x y (i+1):=by
  unfold lim dif bor
  match i,h with
  | 0,_=>constructor;(repeat' split)<;>omega;(repeat' split)<;>omega
  | 1,_=>constructor;(repeat' split)<;>omega;(repeat' split)<;>omega
  | 2,_=>constructor;(repeat' split)<;>omega;(repeat' split)<;>omega
  | 3,_=>constructor;(repeat' split)<;>omega;(repeat' split)<;>omega
def sumN (xs:List Nat):Nat:=(xs.map (·%2^256)).sum
theorem zmQ (xs:List Nat) (x:Nat):sumN (xs++[x])=sumN xs+x%2^256:=by simp [sumN]
theorem ziJ (xs:List Nat) (i:Nat):sumN (xs.take i)≤sumN xs:=by
  have:sumN xs=sumN (xs.take i)+sumN (xs.drop i):=by
    conv=>lhs;rw [← List.take_append_drop i xs]
    simp only [sumN]
    rw [List.map_append,List.sum_append]
  omega
theorem zhc (xs:List Nat) (i:Nat) (h:i < xs.length):xs.take (i+1)=xs.take i++[xs.getD i 0]:=by
  rw [List.take_succ_eq_append_getElem h];simp [List.getD,h]
theorem zgW:bitLen 0=0:=rfl
theorem zkw (x i:Nat) (h:i < 4) (hz:∀ q,i < q→q < 4→lim x q=0) (hn:lim x i≠0):bitLen (x%2^256)=64*i+bitLen (lim x i):=by
  have e:(x%2^256) / 2^(64*i)=lim x i:=by
    unfold lim at hz ⊢
    match i,h with
    | 0,_=>have:=hz 1 (by omega) (by omega);have:=hz 2 (by omega) (by omega);have:=hz 3 (by omega) (by omega);omega
    | 1,_=>have:=hz 2 (by omega) (by omega);have:=hz 3 (by omega) (by omega);omega
    | 2,_=>have:=hz 3 (by omega) (by omega);omega
    | 3,_=>omega
  rw [← e]
  exact bitLen_shift _ _ (by rw [e];exact hn)
theorem zkv (x:Nat) (hz:∀ q,q < 4→lim x q=0):bitLen (x%2^256)=0:=by
  have:x%2^256=0:=by
    have:=hz 0 (by omega);have:=hz 1 (by omega);have:=hz 2 (by omega);have:=hz 3 (by omega)
    unfold lim at *; omega
  rw [this];rfl
theorem zeG (x:Nat) (h:x < 18446744073709551616):bitLen x≤64:=by
  unfold bitLen;split
  · omega
  · rename_i h0;have:=(Nat.log2_lt h0).2 (show x < 2^64 from h);omega
theorem zfL (x:Nat):bitLen (x%2^256)≤256:=by
  unfold bitLen;split
  · omega
  · rename_i h0;have:=(Nat.log2_lt h0).2 (Nat.mod_lt x (show 2^256 > 0 by decide));omega
theorem zmx (x:Nat) (h:x≠0):1≤bitLen x:=by unfold bitLen;rw [if_neg h];omega
theorem zjr (x t:Nat) (h:t < 32):x / 256^t%256=(x%2^256) / 256^t%256:=by
  rw [show (2:Nat)^256=256^t*256^(32 - t) by rw [← Nat.pow_add,show t+(32 - t)=32 by omega]]
  rw [Nat.mod_mul_right_div_self,show 32 - t=(31 - t)+1 by omega,Nat.pow_succ',Nat.mod_mul_right_mod]
theorem zdE (x:Nat):sizeN x=(bitLen (x%2^256)+7) / 8:=by
  have hle:=zfL x
  obtain ⟨h1,h2⟩:=bitLen_spec (x%2^256)
  generalize hb:bitLen (x%2^256)=b at *
  refine zpc (by omega) (fun t ht1 ht2=>?_) (fun hn=>?_)
  · rw [zjr x t ht2,Nat.div_eq_of_lt]
    have:2^b≤256^t:=by rw [show 256^t=2^(8*t) by rw [Nat.pow_mul]];exact Nat.pow_le_pow_right (by omega) (by omega)
    omega
  · have hx0:x%2^256≠0:=fun e=>by rw [e,zgW] at hb;omega
    have h3:=h2 hx0
    have hn':(b+7) / 8 - 1 < 32:=by omega
    generalize hk:(b+7) / 8 - 1=k at *
    rw [zjr x k hn']
    have e1:256^k=2^(8*k):=by rw [Nat.pow_mul]
    have h4:256^k≤x%2^256:=by
      rw [e1]
      exact Nat.le_trans (Nat.pow_le_pow_right (by omega) (by omega)) h3
    have h5:x%2^256 < 256^k*256:=by
      have:2^b≤2^(8*k+8):=Nat.pow_le_pow_right (by omega) (by omega)
      rw [Nat.pow_add,← e1] at this
      omega
    have hp:0 < 256^k:=Nat.pow_pos (by omega)
    have h6:(x%2^256) / 256^k < 256:=(Nat.div_lt_iff_lt_mul hp).2 (by rw [Nat.mul_comm];exact h5)
    have h7:1≤(x%2^256) / 256^k:=(Nat.le_div_iff_mul_le hp).2 (by omega)
    omega
theorem zjf (x:Nat) (h:sizeN x≤8):lim x 0=x%2^256:=by
  rw [zdE] at h
  obtain ⟨h1,_⟩:=bitLen_spec (x%2^256)
  have:2^bitLen (x%2^256)≤2^64:=Nat.pow_le_pow_right (by omega) (by omega)
  rw [lim0]
  omega
theorem Dg.drop {xs:List Nat} (h:Dg xs) (i:Nat):Dg (xs.drop i):=fun x hx=>h x (List.mem_of_mem_drop hx)
end Go.Fw
namespace Go.Fw
open Go
section
variable {P:Program} {ops:Array Oper} {F:Act→World→Prop} {w0 w w':World} {M:List Nat} {N:Nf} {L:List (Oper×K)} {σ:List (Nat×Value)} {l lS:List (Nat×Ent)} {d:Option Tmp} {ty:TypeId} {p:String} {af:Array Edge} {x:Operand} {v z:Value} {t:TypeId} {kd:IntKind}
theorem Cs.take {A:Option Addr} {cs:List Value} (h:Cs w A cs) (n:Nat):Cs w A (cs.take n):=fun i x hx=>h i x (by
  rcases Nat.lt_or_ge i n with h1 | h1
  · rwa [List.getElem?_take_of_lt h1] at hx
  · rw [List.getElem?_eq_none (by simp;omega)] at hx;cases hx)
theorem Cs.drop {A:Option Addr} {cs:List Value} (h:Cs w A cs) (n:Nat):Cs w (A.map (·.add n)) (cs.drop n):=fun i x hx=>by
  rw [List.getElem?_drop] at hx
  obtain ⟨ad,ha,hc⟩:=h (n+i) x hx
  subst ha
  exact ⟨_,rfl,by rw [Addr.add_add];exact hc⟩
theorem Cs.cut {A:Option Addr} {cs:List Value} (h:Cs w A cs) (lo s mx:Nat) (hm:mx=lo→cs.length≤lo*s):Cs w (if mx=lo then A else A.map (·.add (lo*s))) (cs.drop (lo*s)):=by
  split
  · rename_i e
    rw [List.drop_eq_nil_of_le (hm e)]
    exact Cs.nil _ _
  · exact h.drop _
theorem RowIx.blk_ok' (g n s:Nat) (h:n≤maxLen):RowIx.Ok ⟨some g,n,[]⟩ s n:=⟨Nat.le_refl _,h,by simp,fun e=>by simp at e,fun u hu=>by simp at hu⟩
end
theorem zdF (x:Nat) (h:sizeN x > 8):18446744073709551616≤x%2^256:=by
  rcases Nat.lt_or_ge (x%2^256) 18446744073709551616 with h1 | h1
  · rw [zdE] at h
    have:=zeG _ h1
    omega
  · exact h1
end Go.Fw
namespace Go.Fw
open Go
section
variable {P:Program} {ops:Array Oper} {F:Act→World→Prop} {w0 w w':World} {M:List Nat} {N:Nf} {L:List (Oper×K)} {σ:List (Nat×Value)} {l lS:List (Nat×Ent)} {d:Option Tmp} {ty:TypeId} {p:String} {af:Array Edge} {x y:Operand} {v z:Value} {t:TypeId} {kd:IntKind} {k:K}
theorem WS.one {g:Nat} {cs:List Value} (h:Ent.At w ⟨some g,t,cs⟩):WS w [g] [(0,⟨some g,t,cs⟩)] w:=by
  refine ⟨rfl,rfl,rfl,Nat.le_refl _,fun _ _ _=>rfl,fun j e he=>?_,fun j j' e e' g' h1 h2 hne=>?_,fun j e g' he hg=>?_⟩
  · rw [zae] at he
    split at he
    · simp at he;subst he;exact h
    · simp [lk] at he
  · rw [zae] at h1 h2
    split at h1<;>split at h2
    · omega
    · simp [lk] at h2
    · simp [lk] at h1
    · simp [lk] at h1
  · rw [zae] at he
    split at he
    · simp at he;subst he;simp at hg;subst hg;exact .inr (by simp)
    · simp [lk] at he
theorem J.aK (hk:nog k) {g o:Nat} {cs:List Value} (hc:Cs w0 (some ⟨g,0,none⟩) cs) (ho:Off M (some ⟨g,0,none⟩)) (hx:ev σ x=some (.pointer (some ⟨g,o,none⟩))) (ht:OneT P t) (hv:cs[o]?=some v) (hd:okd N d)
    (hJ:J P ops F w0 M N lS L (putd d v σ) l):J P ops F w0 M N lS ((⟨d,.load t x,ty,p,af,none⟩,k)::L) σ l:=
  J.av hk hc ho (i:=o) (by rw [hx];simp [zbF]) ht hv hd hJ
theorem J.cM (hk:nog k) {g o:Nat} {cs:List Value} (hc:Cs w0 (some ⟨g,0,none⟩) cs) (ho:Off M (some ⟨g,0,none⟩)) (hx:ev σ x=some (.pointer (some ⟨g,o,none⟩))) (ht:AggT P t 4) {u:Nat} (hv:(cs.drop o).take 4=wc u) (hd:okd N d)
    (hJ:J P ops F w0 M N lS L (putd d (W u) σ) l):J P ops F w0 M N lS ((⟨d,.load t x,ty,p,af,none⟩,k)::L) σ l:=
  J.bU hk hc ho (i:=o) (by rw [hx];simp [zbF]) ht hv hd hJ
end
theorem zjO (cs vs:List Value) (h:cs.length=vs.length):put cs 0 vs=vs:=by unfold put;rw [List.take_zero,Nat.zero_add,List.drop_of_length_le (by omega)];simp
end Go.Fw
namespace Go.Fw
open Go
section
variable {P:Program} {ops:Array Oper} {F:Act→World→Prop} {w0 w w':World} {M:List Nat} {N:Nf} {L:List (Oper×K)} {σ:List (Nat×Value)} {l lS:List (Nat×Ent)} {d:Option Tmp} {ty:TypeId} {p:String} {af:Array Edge} {x y:Operand} {v z:Value} {t:TypeId} {kd:IntKind} {k:K}
theorem WS.two {a b:Nat} {ta tb:TypeId} {ca cb:List Value} (h1:Ent.At w ⟨some a,ta,ca⟩) (h2:Ent.At w ⟨some b,tb,cb⟩) (hne:a≠b):WS w [a,b] [(0,⟨some a,ta,ca⟩),(1,⟨some b,tb,cb⟩)] w:=by
  have key:∀ j e,lk [(0,(⟨some a,ta,ca⟩:Ent)),(1,⟨some b,tb,cb⟩)] j=some e→(j=0∧e=⟨some a,ta,ca⟩)∨(j=1∧e=⟨some b,tb,cb⟩):=by
    intro j e h
    rw [zae,zae] at h
    split at h
    · simp at h;exact .inl ⟨by omega,h.symm⟩
    · split at h
      · simp at h;exact .inr ⟨by omega,h.symm⟩
      · simp [lk] at h
  refine ⟨rfl,rfl,rfl,Nat.le_refl _,fun _ _ _=>rfl,fun j e he=>?_,fun j j' e e' g' h3 h4 hn hg=>?_,fun j e g' he hg=>?_⟩
  · rcases key j e he with ⟨_,rfl⟩ | ⟨_,rfl⟩
    · exact h1
    · exact h2
  · rcases key j e h3 with ⟨rfl,rfl⟩ | ⟨rfl,rfl⟩<;>rcases key j' e' h4 with ⟨rfl,rfl⟩ | ⟨rfl,rfl⟩
    · exact absurd rfl hn
    · simp at hg ⊢;omega
    · simp at hg ⊢;omega
    · exact absurd rfl hn
  · rcases key j e he with ⟨_,rfl⟩ | ⟨_,rfl⟩
    · simp at hg;subst hg;exact .inr (by simp)
    · simp at hg;subst hg;exact .inr (by simp)
theorem WS.pairOf (hw:WS w0 M l w) (i j:Nat) {e1 e2:Ent} (h1:lk l i=some e1) (h2:lk l j=some e2) (hij:i≠j) (i' j':Nat) (hij':i'≠j'):WS w0 M [(i',e1),(j',e2)] w:=by
  have key:∀ q e,lk [(i',e1),(j',e2)] q=some e→(q=i'∧e=e1)∨(q=j'∧e=e2):=by
    intro q e h
    rw [zae,zae] at h
    split at h
    · simp at h;exact .inl ⟨by omega,h.symm⟩
    · split at h
      · simp at h;exact .inr ⟨by omega,h.symm⟩
      · simp [lk] at h
  refine ⟨hw.os,hw.tape,hw.output,hw.size,hw.keep,fun q e he=>?_,fun q q' e e' g' h3 h4 hn hg=>?_,fun q e g' he hg=>?_⟩
  · rcases key q e he with ⟨_,rfl⟩ | ⟨_,rfl⟩
    · exact hw.live i _ h1
    · exact hw.live j _ h2
  · rcases key q e h3 with ⟨rfl,rfl⟩ | ⟨rfl,rfl⟩<;>rcases key q' e' h4 with ⟨rfl,rfl⟩ | ⟨rfl,rfl⟩
    · exact absurd rfl hn
    · exact hw.apart i j _ _ g' h1 h2 hij hg
    · exact hw.apart j i _ _ g' h2 h1 (Ne.symm hij) hg
    · exact absurd rfl hn
  · rcases key q e he with ⟨_,rfl⟩ | ⟨_,rfl⟩
    · exact hw.own i _ g' h1 hg
    · exact hw.own j _ g' h2 hg
end
end Go.Fw
namespace Go.Fw
open Go
section
variable {P:Program} {ops:Array Oper} {F:Act→World→Prop} {w0 w w':World} {M:List Nat} {N:Nf} {L:List (Oper×K)} {σ:List (Nat×Value)} {l lS:List (Nat×Ent)} {d:Option Tmp} {ty:TypeId} {p:String} {af:Array Edge} {x y:Operand} {v z:Value} {t:TypeId} {kd:IntKind} {k:K} {Q:Exit→Act→World→Prop}
theorem X.ah {u:Exit} {e:Ent} (k:Nat) (e':Ent) (h:lk l k=some e) (he:e=e') (hX:X w0 M N Q u σ ((k,e')::l)):X w0 M N Q u σ l:=fun hq a w ha hw=>hX hq a w ha (hw.asE h he)
theorem X.as {u:Exit} {v:Value} (t:Nat) (v':Value) (h:lk σ t=some v) (e:v=v') (hX:X w0 M N Q u ((t,v')::σ) l):X w0 M N Q u σ l:=fun hq a w ha hw=>hX hq a w (ha.as h e) hw
end
end Go.Fw
namespace Go.Fw
open Go
variable {P:Program} {ops:Array Oper} {F:Act→World→Prop} {w0:World} {M:List Nat} {N:Nf} {L:List (Oper×K)} {σ:List (Nat×Value)} {l lS:List (Nat×Ent)} {k:K}
  {d:Option Tmp} {ty:TypeId} {p:String} {af:Array Edge} {v v1 v2 z:Value} {x y c:Operand} {t tx:TypeId} {kd ki:IntKind} {n m r:Int} {b:Bool}
end Go.Fw
namespace Go.Fw
open Go
section
variable {P:Program} {ops:Array Oper} {F:Act→World→Prop} {w0 w w':World} {M:List Nat} {N:Nf} {L:List (Oper×K)} {σ:List (Nat×Value)} {l lS:List (Nat×Ent)} {d:Option Tmp} {ty:TypeId} {p:String} {af:Array Edge} {x y:Operand} {v z:Value} {t:TypeId} {kd:IntKind} {k:K}
  {tm tb:TypeId} {g:Nat} {i:RowIx} {bs:List Nat}
end
section
variable {w0:World} {M:List Nat} {N:Nf} {σ:List (Nat×Value)} {l:List (Nat×Ent)} {Q:Exit→Act→World→Prop}
theorem X.aH {u:Exit} (k:Nat) (t:TypeId) (h:X w0 M N Q u σ ((k,⟨none,t,[]⟩)::l)):X w0 M N Q u σ l:=fun hq a w ha hw=>h hq a w ha (hw.addNil k t)
end
theorem zpm (cs:List Value) (o:Nat) (v:Value) (vs:List Value) (h:o+vs.length < cs.length):put (cs.set o v) (o+1) vs=put cs o (v::vs):=by
  unfold put
  rw [List.take_add_one,List.take_set_of_le (Nat.le_refl o),List.length_cons,Nat.add_assoc,Nat.add_comm 1,← Nat.add_assoc o,List.drop_set_of_lt (by omega)]
  simp [show o < cs.length by omega]
theorem zlr (o:Nat):∀ (vs:List Value) (k:Nat) (arr:Array Value),o+k+vs.length≤arr.size→
    (vs.zipIdx k).foldl (fun cs (q:Value×Nat)=>cs.setIfInBounds (o+q.2) q.1) arr=(put arr.toList (o+k) vs).toArray
  | [],k,arr,h=>by simp [put]
  | v::vs,k,arr,h=>by
    simp only [List.length_cons] at h
    rw [List.zipIdx_cons,List.foldl_cons,zlr o vs (k+1) _ (by simp;omega)]
    congr 1
    simp only [Array.toList_setIfInBounds]
    rw [← Nat.add_assoc]
    have ha:arr.toList.length=arr.size:=Array.length_toList
    exact zpm _ _ _ _ (by omega)
theorem zrS (cs:List Value) (o:Nat) (us vs:List Value) (h:o+us.length+vs.length≤cs.length):put (put cs o us) (o+us.length) vs=put cs o (us++vs):=by
  have h1:(cs.take o++us).length=o+us.length:=by rw [List.length_append,List.length_take];omega
  unfold put
  rw [List.take_append_of_le_length (by omega),List.take_of_length_le (by omega),List.length_append,List.drop_append,List.drop_drop,h1,List.drop_of_length_le (by rw [h1];omega)]
  simp only [List.nil_append,List.append_assoc]
  congr 4
  omega
theorem zfw (cs:List Value) (o:Nat) (us:List Value) (h:o+us.length≤cs.length):(put cs o us).length=cs.length:=by
  unfold put;rw [List.length_append,List.length_append,List.length_take,List.length_drop];omega
theorem zhJ:∀ (xs:List Nat) (k:Nat) (arr:Array Value),(k+xs.length)*4≤arr.size→
    Instr.fill (fun i=>some (i*4,4)) arr ((xs.zipIdx k).map fun q=>(q.2,W q.1))=some (put arr.toList (k*4) (rowW xs)).toArray
  | [],k,arr,h=>by unfold Instr.fill;simp [put,rowW]
  | x::xs,k,arr,h=>by
    simp only [List.length_cons] at h
    rw [List.zipIdx_cons,List.map_cons]
    unfold Instr.fill
    dsimp only
    have hf:=zlr (k*4) (wc x) 0 arr (by rw [zbQ];omega)
    rw [Nat.add_zero] at hf
    have hs:(W x).cells=(wc x).toArray:=rfl
    have ha:arr.toList.length=arr.size:=Array.length_toList
    split
    · rename_i h0;simp [hs,zbQ] at h0;omega
    · rw [hs,← Array.foldl_toList,Array.toList_zipIdx,hf,zhJ xs (k+1) _ (by rw [List.size_toArray,zfw _ _ _ (by rw [zbQ];omega)];omega)]
      congr 2
      have:=zrS arr.toList (k*4) (wc x) (rowW xs) (by rw [zbQ,zex];omega)
      rw [zbQ] at this
      rw [show (k+1)*4=k*4+4 by omega]
      exact this
section
variable {P:Program} {ops:Array Oper} {F:Act→World→Prop} {w0:World} {M:List Nat} {N:Nf} {L:List (Oper×K)} {σ:List (Nat×Value)} {l lS:List (Nat×Ent)} {d:Option Tmp} {ty:TypeId} {p:String} {af:Array Edge} {t:TypeId} {z:Value}
theorem J.cZ (h:Nat) (hh:lk lS h=none) (xs:List Nat) {e bytes len:Nat} {parts:Array (Nat×Operand)} (ht:P.underlying t=some (.slice e)) (he:ElT P e 4 bytes z) (h0:0 < xs.length) (hl:xs.length=len) (hsz:len*4≤16777216) (hx:evp σ parts.toList=some ((xs.zipIdx 0).map fun q=>(q.2,W q.1))) (hd:okd N d)
    (hJ:∀ g,w0.heap.size≤g→J P ops F w0 M N lS L (putd d (.slice (some ⟨g,0,none⟩) len len) σ) ((h,⟨some g,e,rowW xs⟩)::l)):
    J P ops F w0 M N lS ((⟨d,.buildSlice t len parts,ty,p,af,none⟩,.l)::L) σ l:=
  J.aV h hh hx hd (rowW xs) (fun w=>by
    subst hl
    have h1:¬ (xs.length*4 > 2^24):=by simp;omega
    have h2:¬ (xs.length*4=0):=by omega
    obtain ⟨ti,hti,htz,hts,htb⟩:=he.open
    have hz:ZeroT P e z:=by simp [ZeroT,hti,htz]
    have hf:=zhJ xs 0 ((Array.range (xs.length*4)).map (fun i=>z.cells[i%z.cells.size]!)) (by simp)
    rw [Nat.zero_mul,zjO _ _ (by rw [zex,Array.length_toList];simp)] at hf
    simp only [Instr.buildSlice,Sem.run_bind,run_underlying ht,Result.andThen,zav he.sizeT,h1,if_false,h2,zaZ hz,Sem.run_pure,hf,newRow,run_newObj]
    rfl) hJ
end
section
variable {P:Program} {w0:World} {M:List Nat} {N:Nf} {L:List (Oper×K)} {σ:List (Nat×Value)} {l lS:List (Nat×Ent)} {k:K}
theorem J.dw {ops:Array Oper} {F:Act→World→Prop} {d:Option Tmp} {op:Op} {ty:TypeId} {p:String} {af:Array Edge} {j t:Nat} {b:Bool}
    (ht:(ops[j]?).bind (·.dst)=some t) (hb:lk σ t=some undef) (hd:okd N d)
    (h:J P ops F w0 M N lS L (putd d undef σ) l):J P ops F w0 M N lS ((⟨d,op,ty,p,af,some (j,b)⟩,k)::L) σ l:=fun hlS a ha=>by
  have hw:Region.wanted ⟨d,op,ty,p,af,some (j,b)⟩ (yielded ops a.tmps)=false:=by
    have h1:=ha.get t _ hb
    simp only [Region.wanted,yielded,ht,Option.bind_some,h1]
    cases b<;>rfl
  simp only [JJ,stepW,hw]
  exact h hlS _ (ha.putd hd undef)
end
end Go.Fw
namespace Go.Fw
open Go
variable {P:Program} {w0 w w' W:World} {M:List Nat} {l l1:List (Nat×Ent)} {n:Nat} {B B0 I:List (Option Nat)}
def snapE (W:World) (n0:Nat) (I:List (Option Nat)) (g:Nat):Option (Nat×Ent):=
  if g < n0∨some g∈I then none else match W.heap[g]? with
    | some (.cells c t (0,0))=>some (1000000+g,⟨some g,t,c.toList⟩)
    | _=>none
def snapL (W:World) (n0:Nat) (I:List (Option Nat)):List (Nat×Ent):=(List.range W.heap.size).filterMap (snapE W n0 I)
theorem zhs {W:World} {n0 g k:Nat} {I:List (Option Nat)} {e:Ent} (h:snapE W n0 I g=some (k,e)):k=1000000+g∧n0≤g∧some g∉I∧e.id=some g∧e.At W:=by
  unfold snapE at h
  split at h
  · cases h
  · rename_i hg
    split at h
    · rename_i c t hc
      cases h
      refine ⟨rfl,by omega,fun q=>hg (.inr q),rfl,Ent.at_cells (by simpa using hc)⟩
    · cases h
theorem zqG {α:Type}:∀ {l:List (Nat×α)} {k:Nat} {v:α},lk l k=some v→(k,v)∈l
  | [],k,v,h=>by simp [lk] at h
  | (j,u)::l,k,v,h=>by
    rw [zae] at h
    split at h
    · rename_i hk;subst hk;cases h;exact List.mem_cons_self
    · exact List.mem_cons_of_mem _ (zqG h)
theorem zdO {n0 k:Nat} {e:Ent} (h:lk (snapL W n0 I) k=some e):∃ g,k=1000000+g∧n0≤g∧some g∉I∧e.id=some g∧e.At W:=by
  have:=zqG h
  simp only [snapL,List.mem_filterMap] at this
  obtain ⟨g,_,hg⟩:=this
  obtain ⟨h1,h2,h3,h4,h5⟩:=zhs hg
  exact ⟨g,h1,h2,h3,h4,h5⟩
theorem zdP {f:Nat→Option (Nat×Ent)} (hf:∀ g k e,f g=some (k,e)→k=1000000+g):∀ (xs:List Nat) (g:Nat) (e:Ent),g∈xs→f g=some (1000000+g,e)→lk (xs.filterMap f) (1000000+g)=some e
  | [],g,e,h,_=>by cases h
  | x::xs,g,e,h,hg=>by
    rw [List.filterMap_cons]
    by_cases hx:x=g
    · subst hx;rw [hg,zae,if_pos rfl]
    · have h:g∈xs:=by
        rcases List.mem_cons.1 h with h | h
        · exact absurd h.symm hx
        · exact h
      cases hfx:f x with
      | none=>exact zdP hf xs g e h hg
      | some p=>
        obtain ⟨k,e'⟩:=p
        have:=hf x k e' hfx
        rw [zae,if_neg (by omega)]
        exact zdP hf xs g e h hg
theorem zrH {n0 g:Nat} {c:Array Value} {t:TypeId} (h1:n0≤g) (h2:some g∉I) (h:W.heap[g]?=some (.cells c t (0,0))):lk (snapL W n0 I) (1000000+g)=some ⟨some g,t,c.toList⟩:=by
  refine zdP (fun g k e hg=>(zhs hg).1) _ _ _ (List.mem_range.2 (Array.getElem?_eq_some_iff.1 h).1) ?_
  unfold snapE
  rw [if_neg (fun q=>q.elim (fun q=>by omega) h2),h]
  rfl
def keysB:List (Nat×Ent)→Bool
  | []=>true
  | (k,_)::l=>Nat.blt k 1000000 && !(l.any fun p=>Nat.beq p.1 k) && keysB l
def ids:List (Nat×Ent)→List (Option Nat)
  | []=>[]
  | (_,e)::l=>e.id::ids l
theorem zfb:∀ {l:List (Nat×Ent)} {k:Nat} {e:Ent},keysB l=true→lk l k=some e→k < 1000000∧e.id∈ids l
  | [],k,e,_,h=>by simp [lk] at h
  | (j,u)::l,k,e,hb,h=>by
    simp only [keysB,Bool.and_eq_true] at hb
    rw [zae] at h
    split at h
    · rename_i hk;subst hk;cases h;exact ⟨by simpa [Nat.blt_eq] using hb.1.1,List.mem_cons_self⟩
    · have:=zfb hb.2 h;exact ⟨this.1,List.mem_cons_of_mem _ this.2⟩
theorem znF {α:Type}:∀ {l:List (Nat×α)} {k:Nat},(l.any fun p=>Nat.beq p.1 k)=false→lk l k=none
  | [],k,_=>rfl
  | (j,u)::l,k,h=>by
    simp only [List.any_cons,Bool.or_eq_false_iff] at h
    rw [zae,if_neg (by intro q;subst q;simp at h)]
    exact znF h.2
theorem zcQ:∀ {l:List (Nat×Ent)} {o:Option Nat},keysB l=true→o∈ids l→∃ k e,lk l k=some e∧e.id=o
  | [],o,_,h=>by cases h
  | (j,u)::l,o,hb,h=>by
    simp only [keysB,Bool.and_eq_true] at hb
    rcases List.mem_cons.1 h with h | h
    · exact ⟨j,u,by rw [zae,if_pos rfl],h.symm⟩
    · obtain ⟨k,e,h1,h2⟩:=zcQ hb.2 h
      refine ⟨k,e,?_,h2⟩
      rw [zae,if_neg (by
        intro q;subst q
        have:=znF (l:=l) (k:=j) (by simpa using hb.1.2)
        rw [this] at h1;cases h1)]
      exact h1
theorem WS.snap (hw:WS w0 M l w) (hs:Sub l1 l) (hk:keysB l1=true):WS w0 M (l1++snapL w w0.heap.size (ids l1)) w:=by
  have hw1:=hw.sub hs
  refine ⟨hw.os,hw.tape,hw.output,hw.size,hw.keep,fun j e he=>?_,fun j j' e e' g he he' hne hg hg'=>?_,fun j e g he hg=>?_⟩
  · rw [zax] at he
    cases hj:lk l1 j with
    | some u=>rw [hj] at he;cases he;exact hw1.live j _ hj
    | none=>
      rw [hj] at he
      obtain ⟨g,_,_,_,h4,h5⟩:=zdO (by simpa using he)
      exact h5
  · rw [zax] at he he'
    cases hj:lk l1 j with
    | some u=>
      rw [hj] at he;cases he
      cases hj':lk l1 j' with
      | some u'=>rw [hj'] at he';cases he';exact hw1.apart j j' _ _ g hj hj' hne hg hg'
      | none=>
        rw [hj'] at he'
        obtain ⟨g2,_,_,h3,h4,_⟩:=zdO (by simpa using he')
        rw [h4] at hg';cases hg'
        exact h3 (hg ▸ (zfb hk hj).2)
    | none=>
      rw [hj] at he
      obtain ⟨g2,h1,_,h3,h4,_⟩:=zdO (by simpa using he)
      rw [h4] at hg;cases hg
      cases hj':lk l1 j' with
      | some u'=>rw [hj'] at he';cases he';exact h3 (hg' ▸ (zfb hk hj').2)
      | none=>
        rw [hj'] at he'
        obtain ⟨g3,h1',_,_,h4',_⟩:=zdO (by simpa using he')
        rw [h4'] at hg';cases hg'
        omega
  · rw [zax] at he
    cases hj:lk l1 j with
    | some u=>rw [hj] at he;cases he;exact hw1.own j _ g hj hg
    | none=>
      rw [hj] at he
      obtain ⟨g2,_,h2,_,h4,_⟩:=zdO (by simpa using he)
      rw [h4] at hg;cases hg
      exact .inl h2
def Fit (W:World) (n:Nat) (B:List (Option Nat)) (A:Option Addr) (cs:List Value):Prop:=
  ∀ i x,cs[i]?=some x→∃ ad,A=some ad∧W.cell? (ad.add i)=some x∧some ad.block∉B∧(n≤ad.block→∃ c t,W.heap[ad.block]?=some (.cells c t (0,0)))
def Keep (W:World) (n:Nat) (B:List (Option Nat)) (w:World) (B':List (Option Nat)):Prop:=∀ A cs,Fit W n B A cs→Fit w n B' A cs
theorem Fit.keep {A:Option Addr} {cs:List Value} {B':List (Option Nat)} (h:Fit W n B A cs) (k:Keep W n B w B'):Fit w n B' A cs:=k _ _ h
theorem Keep.trans {w1 w2 w3:World} {B1 B2 B3:List (Option Nat)} (h:Keep w1 n B1 w2 B2) (h2:Keep w2 n B2 w3 B3):Keep w1 n B1 w3 B3:=fun A cs hf=>h2 _ _ (h _ _ hf)
theorem Keep.less {B':List (Option Nat)} (h:∀ o∈B',o∈B):Keep W n B W B':=fun A cs hf i x hx=>by
  obtain ⟨ad,h1,h2,h3,h4⟩:=hf i x hx
  exact ⟨ad,h1,h2,fun q=>h3 (h _ q),h4⟩
theorem Fit.cs {A:Option Addr} {cs:List Value} (h:Fit W n B A cs):Cs W A cs:=fun i x hx=>by
  obtain ⟨ad,h1,h2,_⟩:=h i x hx
  exact ⟨ad,h1,h2⟩
theorem Fit.nil {A:Option Addr}:Fit W n B A []:=fun i x hx=>by simp at hx
theorem Fit.isSome {A:Option Addr} {cs:List Value} (h:Fit W n B A cs) (h0:0 < cs.length):A.isSome=true:=h.cs.isSome h0
theorem zaa (hW:WS w0 M [] W) (hn:n≤w0.heap.size) (hB0:∀ g∈M,some g∈B0) (hw:WS w0 M l w) (hs:Sub (snapL W w0.heap.size I) l) (h1:Sub l1 l) (hk:keysB l1=true):Keep W n (B0++I) w (B0++ids l1):=fun A cs hf i x hx=>by
  obtain ⟨ad,hA,hc,hB,hp⟩:=hf i x hx
  have hlt:=World.block_lt_of_cell? _ _ hc
  rw [Addr.add_block] at hlt
  rw [List.mem_append] at hB
  have heq:w.heap[ad.block]?=W.heap[ad.block]?∧(w0.heap.size≤ad.block→some ad.block∉ids l1):=by
    rcases Nat.lt_or_ge ad.block w0.heap.size with h | h
    · have hM:ad.block∉M:=fun q=>hB (.inl (hB0 _ q))
      exact ⟨(hw.keep _ h hM).trans (hW.keep _ h hM).symm,fun q=>by omega⟩
    · obtain ⟨c,t,hct⟩:=hp (Nat.le_trans hn h)
      have hl:=hs _ _ (zrH h (fun q=>hB (.inr q)) hct)
      have hat:=(hw.live _ _ hl).cells
      refine ⟨by rw [hat,hct],fun _ q=>?_⟩
      obtain ⟨k,e,he,hid⟩:=zcQ hk q
      have hkb:=(zfb hk he).1
      exact hw.apart _ _ _ _ ad.block (h1 _ _ he) hl (by omega) hid rfl
  refine ⟨ad,hA,?_,fun q=>?_,fun q=>?_⟩
  · rw [← hc]
    exact World.cell?_of_block (by rw [Addr.add_block];exact heq.1)
  · rcases List.mem_append.1 q with q | q
    · exact hB (.inl q)
    · rcases Nat.lt_or_ge ad.block w0.heap.size with h | h
      · obtain ⟨k,e,he,hid⟩:=zcQ hk q
        rcases hw.own k e _ (h1 _ _ he) hid with h2 | h2
        · omega
        · exact hB (.inl (hB0 _ h2))
      · exact heq.2 h q
  · rw [heq.1];exact hp q
theorem zpb (w:World):snapL w w.heap.size []=[]:=by
  unfold snapL
  rw [List.filterMap_eq_nil_iff]
  intro g hg
  unfold snapE
  rw [if_pos (.inl (List.mem_range.1 hg))]
theorem zad (hn:n≤w0.heap.size) (hB0:∀ g∈M,some g∈B0) (hw:WS w0 M l w) (h1:Sub l1 l) (hk:keysB l1=true):Keep w0 n B0 w (B0++ids l1):=by
  have:=zaa (I:=[]) (WS.refl w0 M) hn hB0 hw (by rw [zpb];exact Sub.nil _) h1 hk
  rwa [List.append_nil] at this
theorem Keep.le {w1 w2:World} {B1 B2 B3:List (Option Nat)} (h:Keep w1 n B1 w2 B2) (h2:∀ o∈B3,o∈B2):Keep w1 n B1 w2 B3:=h.trans (Keep.less h2)
section
variable {N:Nf} {Q:Exit→Act→World→Prop} {σ:List (Nat×Value)} {ops:Array Oper} {F:Act→World→Prop} {L:List (Oper×K)} {lS:List (Nat×Ent)} {k:K}
  {d:Option Tmp} {ty t:TypeId} {p:String} {af:Array Edge} {x:Operand} {v:Value}
theorem X.aj {e:Exit} (l1:List (Nat×Ent)) (hs:Sub l1 l) (hk:keysB l1=true) (h:∀ W,WS w0 M l W→X w0 M N Q e σ (l1++snapL W w0.heap.size (ids l1))):X w0 M N Q e σ l:=fun hq a w ha hw=>h w hw hq a w ha (hw.snap hs hk)
theorem T.al {c:Code} (l1:List (Nat×Ent)) (hs:Sub l1 l) (hk:keysB l1=true) (h:∀ W,WS w0 M l W→T P w0 M N Q c σ (l1++snapL W w0.heap.size (ids l1))):T P w0 M N Q c σ l:=fun hq a w ha hw=>h w hw hq a w ha (hw.snap hs hk)
theorem J.aZ {f:FuncId} (hf:FnOk P f) {xs:Array Operand} {tys:Array TypeId} {args:List Value} (hx:evs σ xs.toList=some args) (hd:okd N d) {ι:Type} (Φ:ι→World→Prop) (vf:ι→Value) (M':List Nat) (lf:ι→List (Nat×Ent)) (l1:ι→List (Nat×Ent))
    (hs:∀ i,Sub (l1 i) (lf i++l)) (hk:∀ i,keysB (l1 i)=true) (hS:∀ i W,Sub lS l→Sub lS (l1 i++snapL W w0.heap.size (ids (l1 i))))
    (hM:∀ i,∀ g∈M',∃ k e e2,lk l k=some e∧e.id=some g∧lk (lf i) k=some e2)
    (spec:∀ w,WS w0 M l w→Calls P f args.toArray w fun e w'=>∃ i,Φ i w'∧e=.returned (vf i)∧WS w M' (lf i) w')
    (hJ:∀ i W,Φ i W→WS w0 M (lf i++l) W→J P ops F w0 M N lS L (putd d (vf i) σ) (l1 i++snapL W w0.heap.size (ids (l1 i)))):
    J P ops F w0 M N lS ((⟨d,.call ⟨.value (.func f),xs,tys⟩,ty,p,af,none⟩,.l)::L) σ l:=
  J.aR (ι:=ι×World) rfl hd (fun q=>Φ q.1 q.2∧WS w0 M (lf q.1++l) q.2) (fun q=>vf q.1) (fun q=>l1 q.1++snapL q.2 w0.heap.size (ids (l1 q.1)))
    (fun q _ h=>hS q.1 q.2 h) (fun a ha w hw=>by
      rw [zdV hf ha hx w]
      exact (spec w hw).mono fun e w' ⟨i,hi,he,h2⟩=>zcS ⟨vf i,he,(i,w'),⟨hi,hw.join h2 (hM i)⟩,rfl,(hw.join h2 (hM i)).snap (hs i) (hk i)⟩)
    (fun q hq=>hJ q.1 q.2 hq.1 hq.2)
theorem J.aw {f:FuncId} (hf:FnOk P f) {xs:Array Operand} {tys:Array TypeId} {args:List Value} (hx:evs σ xs.toList=some args) (hd:okd N d) {ι:Type} (Φ:ι→World→Prop) (vf:ι→Value) (l1:List (Nat×Ent))
    (hs:Sub l1 l) (hk:keysB l1=true) (hS:∀ W,Sub lS l→Sub lS (l1++snapL W w0.heap.size (ids l1)))
    (spec:∀ w,WS w0 M l w→Calls P f args.toArray w fun e w'=>∃ i,Φ i w'∧e=.returned (vf i)∧WS w [] [] w')
    (hJ:∀ i W,Φ i W→WS w0 M l W→J P ops F w0 M N lS L (putd d (vf i) σ) (l1++snapL W w0.heap.size (ids l1))):
    J P ops F w0 M N lS ((⟨d,.call ⟨.value (.func f),xs,tys⟩,ty,p,af,none⟩,.l)::L) σ l:=
  J.aZ hf hx hd Φ vf [] (fun _=>[]) (fun _=>l1) (fun _=>hs) (fun _=>hk) (fun _ W h=>hS W h) (fun _ g hg=>by cases hg) spec (fun i W h1 h2=>hJ i W h1 h2)
theorem zts {α:Type} {s l:List (Nat×α)} (hs:∀ k v,lk s k=some v→1000000≤k) {k:Nat} {e:α} (h:Sub s l) (hk:Nat.blt k 1000000=true):Sub s ((k,e)::l):=fun j u hj=>by
  have:=hs j u hj
  have hk':k < 1000000:=by simpa [Nat.blt_eq] using hk
  rw [zae,if_neg (by intro q;subst q;omega)]
  exact h j u hj
theorem zfN {n0 k:Nat} {e:Ent} (h:Sub (snapL W n0 I) l) (hk:Nat.blt k 1000000=true):Sub (snapL W n0 I) ((k,e)::l):=zts (fun j u hj=>by obtain ⟨g,hg,_⟩:=zdO hj;omega) h hk
theorem J.aG (hk:nog k) {A:Option Addr} {cs:List Value} {i:Nat} (hc:∀ w,WS w0 M l w→Cs w A cs) (hx:ev σ x=some (.pointer (some ((A.getD default).add i)))) (ht:OneT P t) (hv:cs[i]?=some v) (hd:okd N d)
    (hJ:J P ops F w0 M N lS L (putd d v σ) l):J P ops F w0 M N lS ((⟨d,.load t x,ty,p,af,none⟩,k)::L) σ l:=
  J.ba rfl hk hd v (fun a ha w hw=>by
    obtain ⟨ad,hA,hcell⟩:=hc w hw i v hv
    subst hA
    simp only [Option.getD_some] at hx
    simp [execOp,ha.eval hx,Instr.loadAt,Instr.sureAddr,zaT ht _ _ hcell]) hJ
theorem zot {A:Option Addr} {cs vs:List Value} {i:Nat} {ad:Addr} (hc:Cs w (some ad) cs) (hv:(cs.drop i).take vs.length=vs):∀ (j:Nat) (u:Value),vs[j]?=some u→w.cell? ((ad.add i).add j)=some u:=fun j u hj=>by
  obtain ⟨ad',hA,hcell⟩:=hc (i+j) u (zfs hv hj)
  cases hA
  rw [Addr.add_add];exact hcell
theorem J.aU (hk:nog k) {A:Option Addr} {cs vs:List Value} {i m:Nat} (hc:∀ w,WS w0 M l w→Cs w A cs) (hx:ev σ x=some (.pointer (some ((A.getD default).add i)))) (ht:AggT P t m) (hn:vs.length=m) (h0:0 < m) (hv:(cs.drop i).take m=vs) (hd:okd N d)
    (hJ:J P ops F w0 M N lS L (putd d (.agg vs.toArray) σ) l):J P ops F w0 M N lS ((⟨d,.load t x,ty,p,af,none⟩,k)::L) σ l:=
  J.ba rfl hk hd _ (fun a ha w hw=>by
    subst hn
    have hv0:=hv
    obtain ⟨u,hu⟩:∃ u,vs[0]?=some u:=⟨vs[0],by simp [h0]⟩
    obtain ⟨ad,hA,_⟩:=hc w hw (i+0) u (zfs hv hu)
    subst hA
    have hl:=zaU (P:=P) (w:=w) ht (ad.add i) vs rfl (zot (A:=none) (hc w hw) hv0)
    simp only [Option.getD_some] at hx
    simp [execOp,ha.eval hx,Instr.loadAt,Instr.sureAddr,hl]) hJ
end
attribute [irreducible] snapL
end Go.Fw
namespace Go.Fw
open Go
section
variable {P:Program} {ops:Array Oper} {md:Region.Mode} {w0:World} {M:List Nat} {lS lS2:List (Nat×Ent)} {F F1:Act→World→Prop} {pn:List PanicEntry→World→Prop}
theorem zgd {ro:Option Nat} {Q:Exit→Act→World→Prop} {D:List Deferred} (hpq:∀ ch a w',a.defers=D→pn ch w'→Q (.panic ch) a w') (hnd:Nd ro ops) (hsel:∀ (j:Nat) (o:Oper) cs b,ops[j]?=some o→o.op≠.select cs b) (hE:∃ w,WS w0 M lS w) {πb:List (Nat×K)}
    (hend:∀ listed a w,a.defers=D→Inv md ops πb listed→F1 a w→wpAnyIn (WF ro) 0 P md ops Q πb.length listed a w):∀ (n:Nat) (π:List (Nat×K)) (listed:Array Bool) (a:Act) (l:List (Nat×Ent)) (w:World),π.length=n→Inv md ops (π++πb) listed→
    (∀ x∈π,∀ y∈πb,Anc md ops x.1 y.1)→a.defers=D→JJ P ops pn F1 w0 M lS (π.map (opK ops)) a l→WS w0 M l w→Sub lS l→wpAnyIn (WF ro) 0 P md ops Q (n+πb.length) listed a w
  | 0,π,listed,a,l,w,hn,hi,hanc,hD,h,hw,hS=>by
    obtain rfl:=List.length_eq_zero_iff.1 hn
    rw [Nat.zero_add]
    exact hend listed a w hD hi (h w hw)
  | n+1,π,listed,a,l,w,hn,hi,hanc,hD,h,hw,hS=>by
    rw [Nat.succ_add]
    refine ⟨fun h0=>?_,fun i hri=>?_⟩
    · cases π with
      | nil=>simp at hn
      | cons x π=>have:=hi.head;rw [h0] at this;cases this
    · obtain ⟨hun,o,ho,hall⟩:=mem_ready.1 hri
      have hlt:i < ops.size:=(Array.getElem?_eq_some_iff.1 ho).1
      have hm:=(hi.iff i hlt).1 (by rw [zdi (by rw [hi.size];exact hlt) false true];exact hun)
      have unl:∀ y∈π++πb,listed.getD y.1 false=false:=fun y hy=>(hi.iff y.1 (hi.lt y hy).1).2 (List.mem_map.2 ⟨y,hy,rfl⟩)
      have hlis:∀ y,Anc md ops y i→listed.getD y false=true:=fun y hy=>hy.listed hi.down fun o' ho' e he hb=>hall e (by
        rw [ho] at ho';cases ho';simpa using he) hb
      have hm1:i∈π.map (·.1):=by
        rw [List.map_append,List.mem_append] at hm
        rcases hm with hm | hm
        · exact hm
        · exfalso
          obtain ⟨y,hy,rfl⟩:=List.mem_map.1 hm
          cases π with
          | nil=>simp at hn
          | cons x π=>
            have h1:=hlis x.1 (hanc x List.mem_cons_self y hy)
            rw [unl x (List.mem_append_left _ List.mem_cons_self)] at h1
            cases h1
      obtain ⟨x,hx,rfl⟩:=List.mem_map.1 hm1
      obtain ⟨π1,π2,rfl⟩:=List.append_of_mem hx
      have hod:∀ j,j < ops.size→ops.getD j default∈ops.toList:=fun j hj=>by
        rw [show ops.getD j default=ops[j] by simp [hj]]
        simp
      have hox:ops.getD x.1 default=o:=by
        simp only [Array.getD,hlt,dif_pos]
        exact (Array.getElem?_eq_some_iff.1 ho).2
      have hsel':∀ (o:Oper) cs b,o∈ops.toList→o.op≠.select cs b:=fun o cs b ho=>by
        obtain ⟨j,hj⟩:=List.getElem?_of_mem ho
        exact hsel j o cs b (by simpa using hj)
      have hp:=(List.pairwise_append.1 hi.pair).1
      rw [List.pairwise_append] at hp
      rw [List.map_append,List.map_cons] at h
      have hb:=zhb hE hsel' (opK ops x) (hod _ hlt) (π2.map (opK ops)) (π1.map (opK ops)) (fun y hy=>by
        obtain ⟨y,hy',rfl⟩:=List.mem_map.1 hy
        have hy:=hy'
        have hymem:y∈(π1++x::π2)++πb:=List.mem_append_left _ (List.mem_append_left _ hy)
        have hylt:=(hi.lt y hymem).1
        refine ⟨hod _ hylt,?_⟩
        rcases (hp.2.2 y hy x List.mem_cons_self).ok with hanc' | hok
        · have h1:=hlis _ hanc'
          rw [unl y hymem] at h1;cases h1
        · exact hok) a l h
      rw [← List.map_append] at hb
      unfold wpOpIn
      simp only [ho]
      simp only [JJ,hox] at hb
      have hi2:Inv md ops ((π1++π2)++πb) (listed.setIfInBounds x.1 true):=by
        have:=Inv.next (π1:=π1) (π2:=π2++πb) (by simpa using hi) hri
        simpa using this
      exact zcU (hnd.ok o (hox ▸ hod _ hlt)) (fun ch w'=>hpq ch a w' hD) hb hw hS fun v l' w' h1 h2 h3=>
        zgd hpq hnd hsel hE hend n (π1++π2) _ _ l' w' (by simp at hn ⊢;omega) hi2 (fun z hz y hy=>hanc z (by
          rcases List.mem_append.1 hz with hz | hz
          · exact List.mem_append_left _ hz
          · exact List.mem_append_right _ (List.mem_cons_of_mem _ hz)) y hy) ((zdW _ _ _).trans hD) h3 h1 h2
def phaseB (md:Region.Mode) (ops:Array Oper) (π πb:List (Nat×K)):Bool:=
  let t:=ancs md ops ((π++πb).map (·.1)) []
  π.all fun x=>πb.all fun y=>(tbl t y.1).testBit x.1
theorem zjQ {π πb:List (Nat×K)} (h:phaseB md ops π πb=true):∀ x∈π,∀ y∈πb,Anc md ops x.1 y.1:=fun x hx y hy=>
  zkC _ _ ziI _ _ (List.all_eq_true.1 (List.all_eq_true.1 h x hx) y hy)
def Mid (P:Program) (ops:Array Oper) (pn:List PanicEntry→World→Prop) (F:Act→World→Prop) (w0:World) (M:List Nat) (lS:List (Nat×Ent)) (L:List (Oper×K)) (a:Act) (w:World):Prop:=
  ∃ l,WS w0 M l w∧Sub lS l∧JJ P ops pn F w0 M lS L a l
end
variable {P:Program} {Q:Exit→Act→World→Prop} {w0 w:World} {M:List Nat} {l lS lS2:List (Nat×Ent)} {N:Nf} {σ:List (Nat×Value)} {ops:Array Oper} {F:Act→World→Prop} {L:List (Oper×K)}
theorem J.cV (h:J P ops F w0 M N lS2 L σ l) (hS:Sub lS2 l):J P ops (Mid P ops N.pn F w0 M lS2 L) w0 M N lS [] σ l:=fun _ a ha w hw=>⟨l,hw,hS,h hS a ha⟩
theorem T.an {id:Nat} [nd:Nd N.ro ops] (lS:List (Nat×Ent)) (π:List (Nat×K)) (lS2:List (Nat×Ent)) (πb:List (Nat×K)) (hm:P.follows .mixedOrders=true) (hB:walkB .any ops (π++πb)=true) (hP:phaseB .any ops π πb=true)
    (h:J P ops (Mid P ops N.pn (NQ N Q) w0 M lS2 (πb.map fun p=>(ops.getD p.1 default,p.2))) w0 M N lS (π.map fun p=>(ops.getD p.1 default,p.2)) σ l) (hlS:Sub lS l):T P w0 M N Q (.region id ops true) σ l:=
  fun hq a w ha hw=>wpIn_region_any hm (by
    have hW:=zhm hB
    have hpq:∀ ch a w',a.defers=N.D→N.pn ch w'→Q (.panic ch) a w':=fun ch a w' h1 h2=>hq ch a w' h1 h2
    have hend:∀ listed a w,a.defers=N.D→Inv .any ops πb listed→Mid P ops N.pn (NQ N Q) w0 M lS2 (πb.map fun p=>(ops.getD p.1 default,p.2)) a w→wpAnyIn (WF N.ro) 0 P .any ops Q πb.length listed a w:=fun listed a w hD hi ⟨l,hw,hS,hJ⟩=>
      zev (ro:=N.ro) (Q:=Q) (D:=N.D) (fun a w h=>h hq) hpq nd hW.sel ⟨w,hw.sub hS⟩ πb.length πb _ a l _ rfl hi hD hJ hw hS
    have:=zgd hpq nd hW.sel ⟨w,hw.sub hlS⟩ hend π.length π _ a l _ rfl (zkG hW) (zjQ hP) ha.defers (h hlS a ha) hw.drew hlS
    rw [← List.length_append,hW.len] at this
    exact this)
end Go.Fw
namespace Go.Fw
open Go
variable {P:Program} {ops:Array Oper} {F:Act→World→Prop} {w0 w w':World} {M:List Nat} {N:Nf} {L:List (Oper×K)} {σ:List (Nat×Value)} {l lS:List (Nat×Ent)} {k:K} {Q:Exit→Act→World→Prop}
  {d:Option Tmp} {ty:TypeId} {p:String} {af:Array Edge} {v v1 v2 z:Value} {x y c:Operand} {t:TypeId} {kd:IntKind} {n m r:Int} {b:Bool}
theorem zay {b:Frame} {a:Act} {k:List Item} {cs:List Frame} {c:Code}:step P (lone (b.atR a (.code (.scope c)::k)) cs w)=.next (lone (b.atR a (.code c::.inScope c::k)) cs w):=
  step_lone_go (by simp [stepG,stepG.exec,Frame.atR])
theorem zcX {b:Frame} {a:Act} {k:List Item} {cs:List Frame} {c:Code}:step P (lone (b.atR a (.inScope c::k)) cs w)=.next (lone (b.atR a k) cs w):=
  step_lone_go (by simp [stepG,stepG.exec,Frame.atR])
theorem T.aE {c:Code} (h:T P w0 M N (Exit.noGoto Q) c σ l):T P w0 M N Q (.scope c) σ l:=fun hq a w ha hw b k cs hro hb hr=>by
  obtain ⟨e,a₁,w₁,hq,harr⟩:=h (fun ch a w h1 h2=>hq ch a w h1 h2) a w ha hw b (.inScope c::k) cs hro hb hr
  have h0:∀ {a w},(lone (b.atR a (.code (.scope c)::k)) cs w).fenced P (WF N.ro):=fenced_calm hb hr rfl
  cases e with
  | normal=>exact ⟨.normal,a₁,w₁,hq,.head h0 zay (StepsIn.trans harr (.one (fenced_calm hb hr rfl) zcX))⟩
  | exit id=>exact ⟨.exit id,a₁,w₁,hq,fun k' hk=>.head h0 zay (harr.1 k' (by simp [exitTo,hk])),fun hr' hk=>let ⟨k₁,h1,h2⟩:=harr.2 hr' (by simp [exitTo,hk]);⟨k₁,h1,.head h0 zay h2⟩⟩
  | goto l=>exact hq.elim
  | ret=>exact ⟨_,a₁,w₁,hq,.of_steps (.one h0 zay) harr⟩
  | panic ch=>exact ⟨_,a₁,w₁,hq,.of_steps (.one h0 zay) harr⟩
  | outgrown=>exact ⟨_,a₁,w₁,hq,.of_steps (.one h0 zay) harr⟩
theorem X.aB (h:X w0 M N Q .ret σ l):X w0 M N (Exit.noGoto Q) .ret σ l:=h
theorem ziR {f:FuncId} (hf:FnOk P f) {xs:Array Operand} {tys:Array TypeId} {args cap:List Value} {a:Act} (ha:Has N σ a) (hy:ev σ y=some (.func (.func f) #[] cap.toArray)) (hx:evs σ xs.toList=some args) (w:World):
    (execOp a.eval ⟨d,.call ⟨.value y,xs,tys⟩,ty,p,af,none⟩).run P w=.ok (.enter f (args++cap).toArray) w:=by
  have h1:xs.map a.eval=args.toArray:=by rw [← ha.evals hx,← Array.toList_map,Array.toArray_toList]
  simp [execOp,resolve,ha.eval hy,Deferred.ofValue,invoke,h1,zaD hf]
theorem J.bF {f:FuncId} (hf:FnOk P f) {xs:Array Operand} {tys:Array TypeId} {args cap:List Value} (hy:ev σ y=some (.func (.func f) #[] cap.toArray)) (hx:evs σ xs.toList=some args) (hd:okd N d) {ι:Type} (φ:ι→Prop) (vf:ι→Value) (M':List Nat) (lf:ι→List (Nat×Ent))
    (spec:∀ w,WS w0 M l w→Calls P f (args++cap).toArray w fun e w'=>∃ i,φ i∧e=.returned (vf i)∧WS w M' (lf i) w')
    (hM:∀ i,φ i→∀ g∈M',∃ k e e2,lk l k=some e∧e.id=some g∧lk (lf i) k=some e2)
    (hh:∀ i k e,lk (lf i) k=some e→lk lS k=none)
    (hJ:∀ i,φ i→J P ops F w0 M N lS L (putd d (vf i) σ) (lf i++l)):
    J P ops F w0 M N lS ((⟨d,.call ⟨.value y,xs,tys⟩,ty,p,af,none⟩,.l)::L) σ l:=
  J.aR rfl hd φ vf (fun i=>lf i++l) (fun i _ hs=>hs.freshs (hh i)) (fun a ha w hw=>by
    rw [ziR hf ha hy hx w]
    exact (spec w hw).mono fun e w' ⟨i,hi,he,h2⟩=>zcS ⟨vf i,he,i,hi,rfl,hw.join h2 (hM i hi)⟩) hJ
theorem J.aH {f:FuncId} (hf:FnOk P f) {xs:Array Operand} {tys:Array TypeId} {args cap:List Value} (hy:ev σ y=some (.func (.func f) #[] cap.toArray)) (hx:evs σ xs.toList=some args) (hd:okd N d)
    (spec:∀ w,WS w0 M l w→Calls P f (args++cap).toArray w fun e w'=>e=.returned v∧WS w [] [] w') (hJ:J P ops F w0 M N lS L (putd d v σ) l):
    J P ops F w0 M N lS ((⟨d,.call ⟨.value y,xs,tys⟩,ty,p,af,none⟩,.l)::L) σ l:=
  J.bF hf hy hx hd (ι:=Unit) (fun _=>True) (fun _=>v) [] (fun _=>[]) (fun w hw=>(spec w hw).mono fun e w' ⟨he,h2⟩=>⟨(),trivial,he,h2⟩) (fun _ _ g hg=>by simp at hg) (fun _ k e he=>by simp [lk] at he) (fun _ _=>hJ)
theorem zsZ {a:Nat} (h:a < 18446744073709551616):Value.agg ([.int .u64 (a:Int),.int .u64 0,.int .u64 0,.int .u64 0]:List Value).toArray=W a:=by
  have e:wl a=[a,0,0,0]:=by
    have e0:lim a 0=a:=by unfold lim;omega
    have e1:lim a 1=0:=by unfold lim;omega
    have e2:lim a 2=0:=by unfold lim;omega
    have e3:lim a 3=0:=by unfold lim;omega
    unfold wl;rw [e0,e1,e2,e3]
  show _=Value.agg (rowN .u64 (wl a)).toArray
  rw [e];rfl
end Go.Fw
namespace Go.Fw
open Go
variable {P:Program} {ops:Array Oper} {F:Act→World→Prop} {w0 w w':World} {M:List Nat} {N:Nf} {L:List (Oper×K)} {σ:List (Nat×Value)} {l lS:List (Nat×Ent)} {k:K}
  {d:Option Tmp} {ty:TypeId} {p:String} {af:Array Edge} {v v1 v2 z:Value} {x y c:Operand} {t:TypeId} {b:Bool}
theorem zkt (xs ys:List Nat):bstr xs++bstr ys=bstr (xs++ys):=by
  unfold bstr
  rw [List.map_append]
  exact ByteArray.mk_append_mk _ _
theorem zdS (xs:List Nat):(bstr xs).size=xs.length:=by simp [bstr,ByteArray.size]
theorem J.bv {t':TypeId} {xs ys:List Nat} (hx:ev σ x=some (.string (bstr xs))) (hy:ev σ y=some (.string (bstr ys))) (hd:okd N d) (h63:xs.length+ys.length≤9223372036854775807) (h:J P ops F w0 M N lS L (putd d (.string (bstr (xs++ys))) σ) l):
    J P ops F w0 M N lS ((⟨d,.binOp .add t x y t',ty,p,af,none⟩,k)::L) σ l:=
  J.aS hx hy hd (fun w=>by
    rw [eqGuard_at_string,← zkt]
    exact run_string_add_sum w _ _ (by rw [zdS,zdS];exact h63)) h
end Go.Fw
namespace Go.Fw
open Go
def cmpL:List Nat→List Nat→Int
  | [],[]=>0
  | [],_::_=> -1
  | _::_,[]=>1
  | x::xs,y::ys=>if x < y then -1 else if y < x then 1 else cmpL xs ys
theorem zoo (xs ys:List Nat) (hx:Dg xs) (hy:Dg ys):∀ (n k:Nat),n+k=min xs.length ys.length→
    (match (List.range' k n).find? fun i=>(bstr xs)[i]! != (bstr ys)[i]! with
      | some i=>if (bstr xs)[i]! < (bstr ys)[i]! then (-1:Int) else 1
      | none=>if xs.length < ys.length then -1 else if ys.length < xs.length then 1 else 0)=cmpL (xs.drop k) (ys.drop k)
  | 0,k,h=>by
    simp only [Nat.zero_add] at h
    simp only [List.range'_zero,List.find?_nil]
    subst h
    rcases Nat.lt_trichotomy xs.length ys.length with h1 | h1 | h1
    · rw [if_pos h1,List.drop_eq_nil_of_le (by omega)]
      obtain ⟨y,t,ht⟩:∃ y t,ys.drop (min xs.length ys.length)=y::t:=by
        cases hd:ys.drop (min xs.length ys.length) with
        | nil=>have:=congrArg List.length hd;simp at this;omega
        | cons y t=>exact ⟨y,t,rfl⟩
      rw [ht];rfl
    · rw [if_neg (by omega),if_neg (by omega),List.drop_eq_nil_of_le (by omega),List.drop_eq_nil_of_le (by omega)];rfl
    · rw [if_neg (by omega),if_pos h1,@List.drop_eq_nil_of_le _ ys _ (by omega)]
      obtain ⟨y,t,ht⟩:∃ y t,xs.drop (min xs.length ys.length)=y::t:=by
        cases hd:xs.drop (min xs.length ys.length) with
        | nil=>have:=congrArg List.length hd;simp at this;omega
        | cons y t=>exact ⟨y,t,rfl⟩
      rw [ht];rfl
  | n+1,k,h=>by
    have hkx:k < xs.length:=by omega
    have hky:k < ys.length:=by omega
    have gx:∀ (zs:List Nat) (hz:k < zs.length),(bstr zs)[k]! =UInt8.ofNat (zs[k]):=fun zs hz=>by
      rw [getElem!_pos _ k (by rw [zdS];exact hz)]
      simp [bstr,ByteArray.getElem_eq_getElem_data]
    have ih:=zoo xs ys hx hy n (k+1) (by omega)
    rw [List.range'_succ,List.find?_cons,gx xs hkx,gx ys hky]
    have hxl:=hx _ (List.getElem_mem hkx)
    have hyl:=hy _ (List.getElem_mem hky)
    rw [List.drop_eq_getElem_cons hkx,List.drop_eq_getElem_cons hky]
    by_cases he:xs[k]=ys[k]
    · simp only [he,bne_self_eq_false]
      rw [ih]
      simp only [cmpL]
      rw [if_neg (by omega),if_neg (by omega)]
    · have hne:(UInt8.ofNat xs[k] != UInt8.ofNat ys[k])=true:=by
        rw [bne_iff_ne]
        intro q
        have:=congrArg UInt8.toNat q
        simp [Nat.mod_eq_of_lt hxl,Nat.mod_eq_of_lt hyl] at this
        exact he this
      simp only [hne]
      simp only [cmpL]
      rw [gx xs hkx,gx ys hky]
      have hlt:(UInt8.ofNat xs[k] < UInt8.ofNat ys[k])↔xs[k] < ys[k]:=by
        rw [UInt8.lt_iff_toNat_lt]
        simp [Nat.mod_eq_of_lt hxl,Nat.mod_eq_of_lt hyl]
      by_cases hl:xs[k] < ys[k]
      · rw [if_pos (hlt.2 hl),if_pos hl]
      · rw [if_neg (fun q=>hl (hlt.1 q)),if_neg hl,if_pos (by omega)]
theorem zqc (xs ys:List Nat) (hx:Dg xs) (hy:Dg ys):Extern.BytealgCompare.cmp (bstr xs) (bstr ys)=cmpL xs ys:=by
  have:=zoo xs ys hx hy (min xs.length ys.length) 0 (by omega)
  simp only [List.drop_zero] at this
  rw [← this]
  unfold Extern.BytealgCompare.cmp
  rw [zdS,zdS,List.range_eq_range']
  rfl
theorem zgp {P:Program} {w:World} {A:Option Addr} {q cap:Nat} {xs:List Nat} (hq:xs.length=q) (hc:Cs w A (rowN .u8 xs)):(Extern.Bytes.bytesOf (.slice A q cap)).run P w=.ok (bstr xs) w:=by
  cases A with
  | none=>
    cases xs with
    | nil=>rfl
    | cons x xs=>obtain ⟨ad,ha,_⟩:=hc 0 _ (by simp [rowN];rfl);cases ha
  | some a=>
    have:=Lib.run_loadBytesX (P:=P) w (xs.map fun (n:Nat)=>(n:Int)) a .empty (fun j x hj=>by
      obtain ⟨ad,ha,h⟩:=hc j (.int .u8 x) (by
        rw [List.getElem?_map] at hj
        simp only [rowN,List.getElem?_map]
        cases hx:xs[j]? with
        | none=>simp [hx] at hj
        | some y=>simp [hx] at hj ⊢;exact hj)
      cases ha;exact h)
    simp only [List.length_map,hq] at this
    simp only [Extern.Bytes.bytesOf,this]
    congr 1
    apply ByteArray.ext
    simp [bstr,Lib.bytesOf]
section
variable {P:Program} {ops:Array Oper} {F:Act→World→Prop} {w0 w w':World} {M:List Nat} {N:Nf} {L:List (Oper×K)} {σ:List (Nat×Value)} {l lS:List (Nat×Ent)} {k:K}
  {d:Option Tmp} {ty t:TypeId} {p:String} {af:Array Edge} {x y:Operand}
theorem zpg {w:World} {v1 v2:Value} {b1 b2:ByteArray} (h1:(Extern.Bytes.bytesOf v1).run P w=.ok b1 w) (h2:(Extern.Bytes.bytesOf v2).run P w=.ok b2 w):(Extern.BytealgCompare.compare #[v1,v2]).run P w=.ok (.int .i64 (Extern.BytealgCompare.cmp b1 b2)) w:=by
  show (do pure (goInt (Extern.BytealgCompare.cmp (← Extern.Bytes.bytesOf v1) (← Extern.Bytes.bytesOf v2))):Sem Value).run P w=_
  simp only [Sem.run_bind,h1,h2,Result.andThen,Sem.run_pure]
  rfl
theorem J.dq {f : FuncId} {fn : Func} (hf : P.funcs[f]? = some fn) (hname : (fn.name == "runtime.NumGoroutine") = false) (hb : fn.body.isNone = true) (hn : Extern.findNext fn = none) (he : Extern.find fn = some Extern.BytealgCompare.compare)
    {tys:Array TypeId} {A1 A2:Option Addr} {q1 q2 c1 c2:Nat} {xs ys:List Nat} (hk:nog k) (hx:ev σ x=some (.slice A1 q1 c1)) (hy:ev σ y=some (.slice A2 q2 c2)) (h1:xs.length=q1) (h2:ys.length=q2)
    (hA1:∀ w,WS w0 M l w→Cs w A1 (rowN .u8 xs)) (hA2:∀ w,WS w0 M l w→Cs w A2 (rowN .u8 ys)) (d1:Dg xs) (d2:Dg ys) (hd:okd N d)
    (hJ:J P ops F w0 M N lS L (putd d (.int .i64 (cmpL xs ys)) σ) l):J P ops F w0 M N lS ((⟨d,.call ⟨.value (.func f),#[x,y],tys⟩,ty,p,af,none⟩,k)::L) σ l:=
  J.ba rfl hk hd _ (fun a ha w hw=>by
    have hr:=zpg (zgp (P:=P) (cap:=c1) h1 (hA1 w hw)) (zgp (cap:=c2) h2 (hA2 w hw))
    rw [zqc xs ys d1 d2] at hr
    have h1:(#[x,y]:Array Operand).map a.eval=#[.slice A1 q1 c1,.slice A2 q2 c2]:=by simp [ha.eval hx,ha.eval hy]
    simp [execOp,resolve,Act.eval,Deferred.ofValue,invoke,h1,run_callFunc_extern hf hname hb hn he,hr]) hJ
end
def ab (a i:Nat):Nat:=a / 256^(19 - i)%256
def adL (a:Nat):List Nat:=(List.range 20).map (ab a)
def ac (a:Nat):List Value:=rowN .u8 (adL a)
theorem zmA (a:Nat):(adL a).length=20:=rfl
theorem zdz (a:Nat):Dg (adL a):=fun x hx=>by
  simp only [adL,List.mem_map] at hx
  obtain ⟨i,_,rfl⟩:=hx
  exact Nat.mod_lt _ (by omega)
def hiN (xs:List Nat):Nat:=xs.foldl (fun a x=>a*256+x) 0
theorem zfW (xs:List Nat) (x:Nat):hiN (xs++[x])=hiN xs*256+x:=by simp [hiN,List.foldl_append]
def hiL (a m n:Nat):List Nat:=(List.range n).map fun i=>a / 256^(m - 1 - i)%256
theorem zpG (a m n:Nat):hiL a m (n+1)=hiL a m n++[a / 256^(m - 1 - n)%256]:=by simp [hiL,List.range_succ]
theorem znV (a m:Nat):∀ n,n≤m→hiN (hiL a m n)=a / 256^(m - n)%256^n
  | 0,_=>by simp [hiL,hiN,Nat.mod_one]
  | n+1,h=>by
    rw [zpG,zfW,znV a m n (by omega),Nat.pow_succ,Nat.mul_comm (256^n),Nat.mod_mul,Nat.div_div_eq_div_mul,← Nat.pow_succ]
    rw [show m - 1 - n=m - (n+1) by omega,show (m - (n+1)).succ=m - n by omega]
    rw [Nat.add_comm,Nat.mul_comm]
theorem zha (a:Nat):hiN (adL a)=a%256^20:=by
  rw [show adL a=hiL a 20 20 from rfl,znV a 20 20 (Nat.le_refl _),Nat.sub_self,Nat.pow_zero,Nat.div_one]
theorem zkp:∀ (xs ys:List Nat),Dg xs→Dg ys→xs.length=ys.length→∀ a b,a < b→xs.foldl (fun a x=>a*256+x) a < ys.foldl (fun a x=>a*256+x) b
  | [],[],_,_,_,a,b,h=>h
  | x::xs,y::ys,hx,hy,hl,a,b,h=>by
    have h1:=hx x List.mem_cons_self
    exact zkp xs ys (fun z hz=>hx z (List.mem_cons_of_mem _ hz)) (fun z hz=>hy z (List.mem_cons_of_mem _ hz)) (by simpa using hl) (a*256+x) (b*256+y) (by omega)
  | [],_::_,_,_,hl,_,_,_=>by simp at hl
  | _::_,[],_,_,hl,_,_,_=>by simp at hl
theorem zlF:∀ (xs ys:List Nat),Dg xs→Dg ys→xs.length=ys.length→∀ a,cmpL xs ys=(if xs.foldl (fun a x=>a*256+x) a < ys.foldl (fun a x=>a*256+x) a then -1 else if ys.foldl (fun a x=>a*256+x) a < xs.foldl (fun a x=>a*256+x) a then 1 else 0)
  | [],[],_,_,_,a=>by simp [cmpL]
  | x::xs,y::ys,hx,hy,hl,a=>by
    have hx':Dg xs:=fun z hz=>hx z (List.mem_cons_of_mem _ hz)
    have hy':Dg ys:=fun z hz=>hy z (List.mem_cons_of_mem _ hz)
    have hl':xs.length=ys.length:=by simpa using hl
    simp only [cmpL,List.foldl_cons]
    by_cases h1:x < y
    · have:=zkp xs ys hx' hy' hl' (a*256+x) (a*256+y) (by omega)
      rw [if_pos h1];exact (if_pos this).symm
    · rw [if_neg h1]
      by_cases h2:y < x
      · have:=zkp ys xs hy' hx' hl'.symm (a*256+y) (a*256+x) (by omega)
        rw [if_pos h2];exact ((if_neg (by omega)).trans (if_pos this)).symm
      · obtain rfl:x=y:=by omega
        rw [if_neg h2]
        exact zlF xs ys hx' hy' hl' (a*256+x)
  | [],_::_,_,_,hl,_=>by simp at hl
  | _::_,[],_,_,hl,_=>by simp at hl
def cmpZ (a b:Nat):Int:=if a < b then -1 else if b < a then 1 else 0
theorem zlD (a b:Nat):cmpL (adL a) (adL b)=cmpZ (a%256^20) (b%256^20):=by
  rw [zlF _ _ (zdz a) (zdz b) rfl 0]
  show (if hiN (adL a) < hiN (adL b) then _ else if hiN (adL b) < hiN (adL a) then _ else _)=_
  rw [zha,zha];rfl
theorem zds {a b:Nat}:adL a=adL b↔a%256^20=b%256^20:=by
  constructor
  · intro h;rw [← zha,← zha,h]
  · intro h
    have key:∀ c,adL c=adL (c%256^20):=fun c=>by
      unfold adL
      refine List.map_congr_left fun i hi=>?_
      have hi:=List.mem_range.1 hi
      unfold ab
      have e:(256:Nat)^20=256^(19 - i)*(256*256^i):=by rw [← Nat.pow_succ',← Nat.pow_add];congr 1;omega
      rw [e,Nat.mod_mul_right_div_self,Nat.mod_mul_right_mod]
    rw [key a,key b,h]
theorem zkL {C:List Nat→Prop} (h0:C []) (h1:∀ ys y,C ys→C (ys++[y])) (xs:List Nat):C xs:=by
  rw [← List.reverse_reverse xs]
  induction xs.reverse with
  | nil=>exact h0
  | cons y t ih=>rw [List.reverse_cons];exact h1 _ _ ih
theorem zoL (xs:List Nat) (h:xs.length=20) (hd:Dg xs):∃ a,a < 256^20∧adL a=xs:=by
  have hv:∀ (ys:List Nat),Dg ys→hiN ys < 256^ys.length:=by
    intro ys
    refine zkL (C:=fun ys=>Dg ys→hiN ys < 256^ys.length) ?_ ?_ ys
    · simp [hiN]
    · intro ys y ih hy
      have h1:=ih (fun z hz=>hy z (List.mem_append_left _ hz))
      have h2:=hy y (by simp)
      rw [zfW,List.length_append,List.length_singleton,Nat.pow_succ]
      omega
  have hinj:∀ (ys zs:List Nat),Dg ys→Dg zs→ys.length=zs.length→hiN ys=hiN zs→ys=zs:=by
    intro ys
    refine zkL (C:=fun ys=>∀ (zs:List Nat),Dg ys→Dg zs→ys.length=zs.length→hiN ys=hiN zs→ys=zs) ?_ ?_ ys
    · intro zs _ _ hl _;exact (List.length_eq_zero_iff.1 hl.symm).symm
    · intro ys y ih zs hy hz hl he
      rcases List.eq_nil_or_concat zs with rfl | ⟨zs',z,rfl⟩
      · simp at hl
      · rw [List.concat_eq_append] at *
        rw [zfW,zfW] at he
        have h1:=hy y (by simp)
        have h2:=hz z (by simp)
        obtain rfl:y=z:=by omega
        rw [ih zs' (fun q hq=>hy q (List.mem_append_left _ hq)) (fun q hq=>hz q (List.mem_append_left _ hq)) (by simpa using hl) (by omega)]
  refine ⟨hiN xs,by have:=hv xs hd;rwa [h] at this,hinj _ _ (zdz _) hd (by rw [zmA,h]) ?_⟩
  rw [zha]
  exact Nat.mod_eq_of_lt (by have:=hv xs hd;rwa [h] at this)
end Go.Fw
namespace Go.Fw
open Go
def wcmp (x y:Nat):Int:=if x%2^256=y%2^256 then 0 else if x%2^256 < y%2^256 then -1 else 1
theorem ziD (x y:Nat):wcmp y x= - wcmp x y:=by unfold wcmp;split<;>split<;>(try split)<;>(try split)<;>omega
theorem ziB (x y:Nat):wcmp x y=0↔x%2^256=y%2^256:=by unfold wcmp;split<;>(try split)<;>omega
theorem zoR (x y:Nat):wcmp x y < 0↔x%2^256 < y%2^256:=by unfold wcmp;split<;>(try split)<;>omega
theorem zoQ (x y:Nat):wcmp x y > 0↔y%2^256 < x%2^256:=by unfold wcmp;split<;>(try split)<;>omega
end Go.Fw
namespace Go.Fw
open Go
section
variable {P:Program} {ops:Array Oper} {F:Act→World→Prop} {w0 w w':World} {M:List Nat} {N:Nf} {L:List (Oper×K)} {σ:List (Nat×Value)} {l lS:List (Nat×Ent)} {k:K}
  {d:Option Tmp} {ty t:TypeId} {p:String} {af:Array Edge} {x y:Operand} {n:Nat} {B:List (Option Nat)}
theorem zbc {r:RowIx} {t:TypeId} {cs:List Value} {j:Nat} (hw:WS w0 M l w) (hl:lk l j=some (r.ent t cs)) (hB:∀ g,some g∈B→g < w0.heap.size∧g∉M):Fit w n B (hdOf r.id) cs:=fun i x hx=>by
  obtain ⟨ad,hA,hc⟩:=hw.rowCs hl i x hx
  refine ⟨ad,hA,hc,?_⟩
  cases hid:r.id with
  | none=>rw [hid] at hA;cases hA
  | some g=>
    rw [hid] at hA;cases hA
    have hat:=hw.live j _ hl
    simp only [Ent.At,RowIx.ent,hid] at hat
    obtain ⟨t',_,hat⟩:=hat
    refine ⟨fun q=>?_,fun _=>⟨_,_,hat⟩⟩
    have:=hB g q
    rcases hw.own j _ g hl (by simp only [RowIx.ent,hid]) with h | h
    · omega
    · exact this.2 h
theorem ziv {g:Nat} {t:TypeId} {cs:List Value} {j:Nat} (hw:WS w0 M l w) (hl:lk l j=some ⟨some g,t,cs⟩) (hB:∀ g,some g∈B→g < w0.heap.size∧g∉M):Fit w n B (some ⟨g,0,none⟩) cs:=fun i x hx=>by
  obtain ⟨ad,hA,hc⟩:=hw.blkCs hl i x hx
  cases hA
  have hat:=(hw.live j _ hl).cells
  refine ⟨_,rfl,hc,fun q=>?_,fun _=>⟨_,_,hat⟩⟩
  have:=hB g q
  rcases hw.own j _ g hl rfl with h | h
  · omega
  · exact this.2 h
theorem WS.pre {g:Nat} {t:TypeId} (xs ys:List Value) {j:Nat} (hw:WS w0 M l w) (hl:lk l j=some ⟨some g,t,xs++ys⟩):Cs w (some ⟨g,0,none⟩) xs:=fun i x hx=>by
  have hlt:i < xs.length:=(List.getElem?_eq_some_iff.1 hx).1
  exact hw.blkCs hl i x (by rw [List.getElem?_append_left hlt];exact hx)
theorem zaf {l1:List (Nat×Ent)} (hB:∀ g,some g∈B→g < w0.heap.size) (hw:WS w0 M l w) (hs:Sub l1 l) (hk:keysB l1=true):∀ g,some g∈B++ids l1→g < w.heap.size:=fun g hg=>by
  rcases List.mem_append.1 hg with h | h
  · exact Nat.lt_of_lt_of_le (hB g h) hw.size
  · obtain ⟨j,e,he,hid⟩:=zcQ hk h
    exact (hw.live j e (hs _ _ he)).lt hid
theorem J.cN {t' e:TypeId} {A:Option Addr} {q c:Nat} (ht:P.underlying t=some (.slice e)) (hx:ev σ x=some (.slice A q c)) (hy:ev σ y=some (.slice none 0 0)) (hd:okd N d) (h:J P ops F w0 M N lS L (putd d (.bool (decide (A=none))) σ) l):
    J P ops F w0 M N lS ((⟨d,.binOp .eql t x y t',ty,p,af,none⟩,k)::L) σ l:=
  J.aS hx hy hd (fun w=>by
    rw [eqGuard_at_slice]
    have he:(Op.equal t (.slice A q c) (.slice none 0 0)).run P w=.ok A.isNone w:=run_equal_slice_nil w t e A q c ht
    simp only [Sem.run_bind,Sem.run_pure,Result.andThen_ok,binOp,he]
    cases A<;>simp) h
end
section
variable {α:Type} {f:α→List Value} {s:Nat}
theorem zaF (hs:∀ x,(f x).length=s):∀ (xs:List α),(xs.flatMap f).length=xs.length*s
  | []=>by simp
  | x::xs=>by rw [List.flatMap_cons,List.length_append,hs,zaF hs xs,List.length_cons,Nat.succ_mul,Nat.add_comm]
theorem zfj (hs:∀ x,(f x).length=s):∀ (xs:List α) (i:Nat),(xs.flatMap f).drop (i*s)=(xs.drop i).flatMap f
  | xs,0=>by simp
  | [],i+1=>by simp
  | x::xs,i+1=>by
    rw [List.flatMap_cons,List.drop_succ_cons,← zfj hs xs i,Nat.succ_mul,Nat.add_comm,← hs x,List.drop_append]
    simp
theorem zcC (hs:∀ x,(f x).length=s) (xs:List α) (i:Nat) [Inhabited α] (h:i < xs.length):((xs.flatMap f).drop (i*s)).take s=f (xs.getD i default):=by
  rw [zfj hs,List.drop_eq_getElem_cons h,List.flatMap_cons,← hs xs[i],List.take_left']
  · rw [List.getD_eq_getElem?_getD,List.getElem?_eq_getElem h];rfl
  · rfl
theorem zcF (hs:∀ x,(f x).length=s) (xs:List α) (i o:Nat) [Inhabited α] (h:i < xs.length) (ho:o < s):(xs.flatMap f)[i*s+o]?=(f (xs.getD i default))[o]?:=by
  rw [← zcC hs xs i h,List.getElem?_take_of_lt ho,List.getElem?_drop]
theorem zpW (h1:∀ x,∀ u∈f x,u.oneCell'=true) (xs:List α):∀ u∈xs.flatMap f,u.oneCell'=true:=fun u hu=>by
  obtain ⟨x,_,hx⟩:=List.mem_flatMap.1 hu
  exact h1 x u hx
end
structure Ch where
  who:Nat
  kind:Int
  key:Nat
  old:Nat
  new:Nat
  oc:List Nat
  nc:List Nat
  oA:Option Addr
  oC:Nat
  nA:Option Addr
  nC:Nat
instance:Inhabited Ch:=⟨⟨0,0,0,0,0,[],[],none,0,none,0⟩⟩
def Ch.cells (c:Ch):List Value:=ac c.who++(.int .i64 c.kind::(wc c.key++(wc c.old++(wc c.new++[.slice c.oA c.oc.length c.oC,.slice c.nA c.nc.length c.nC]))))
theorem Ch.cells_length (c:Ch):c.cells.length=35:=rfl
theorem zrn (a:Nat):∀ u∈ac a,u.oneCell'=true:=zcv _ _
theorem zhl (x:Nat):∀ u∈wc x,u.oneCell'=true:=by
  have h:=zhV [x]
  intro u hu
  exact h u (by rw [show rowW [x]=wc x++[] from rfl,List.append_nil];exact hu)
theorem Ch.cells_one (c:Ch):∀ u∈c.cells,u.oneCell'=true:=fun u hu=>by
  simp only [Ch.cells,List.mem_append,List.mem_cons,List.not_mem_nil,or_false] at hu
  rcases hu with h | rfl | h | h | h | rfl | rfl
  · exact zrn _ u h
  · rfl
  · exact zhl _ u h
  · exact zhl _ u h
  · exact zhl _ u h
  · rfl
  · rfl
structure Ch.Ok (W:World) (n:Nat) (B:List (Option Nat)) (c:Ch):Prop where
  kd: -9223372036854775808≤c.kind∧c.kind≤9223372036854775807
  dO:Dg c.oc
  dN:Dg c.nc
  lo:c.oc.length≤1000000000000
  ln:c.nc.length≤1000000000000
  fo:Fit W n B c.oA (rowN .u8 c.oc)
  fn:Fit W n B c.nA (rowN .u8 c.nc)
theorem Ch.Ok.keep {W w:World} {n:Nat} {B B':List (Option Nat)} {c:Ch} (h:c.Ok W n B) (k:Keep W n B w B'):c.Ok w n B':=⟨h.kd,h.dO,h.dN,h.lo,h.ln,k _ _ h.fo,k _ _ h.fn⟩
def AllC (W:World) (n:Nat) (B:List (Option Nat)) (cs:List Ch):Prop:=∀ c∈cs,c.Ok W n B
theorem AllC.keep {W w:World} {n:Nat} {B B':List (Option Nat)} {cs:List Ch} (h:AllC W n B cs) (k:Keep W n B w B'):AllC w n B' cs:=fun c hc=>(h c hc).keep k
theorem AllC.nil {W:World} {n:Nat} {B:List (Option Nat)}:AllC W n B []:=fun c hc=>by cases hc
theorem AllC.snoc {W:World} {n:Nat} {B:List (Option Nat)} {cs:List Ch} {c:Ch} (h:AllC W n B cs) (hc:c.Ok W n B):AllC W n B (cs++[c]):=fun x hx=>by
  rcases List.mem_append.1 hx with h1 | h1
  · exact h x h1
  · rw [List.mem_singleton.1 h1];exact hc
theorem AllC.get {W:World} {n:Nat} {B:List (Option Nat)} {cs:List Ch} (h:AllC W n B cs) {i:Nat} (hi:i < cs.length):(cs.getD i default).Ok W n B:=h _ (by
  rw [List.getD_eq_getElem?_getD,List.getElem?_eq_getElem hi];exact List.getElem_mem hi)
theorem AllC.drop {W:World} {n:Nat} {B:List (Option Nat)} {cs:List Ch} (h:AllC W n B cs) (i:Nat):AllC W n B (cs.drop i):=fun c hc=>h c (List.mem_of_mem_drop hc)
theorem AllC.take {W:World} {n:Nat} {B:List (Option Nat)} {cs:List Ch} (h:AllC W n B cs) (i:Nat):AllC W n B (cs.take i):=fun c hc=>h c (List.mem_of_mem_take hc)
def rowC (cs:List Ch):List Value:=cs.flatMap Ch.cells
theorem zaq (cs:List Ch):(rowC cs).length=cs.length*35:=zaF Ch.cells_length cs
theorem zez (xs ys:List Ch):rowC (xs++ys)=rowC xs++rowC ys:=List.flatMap_append
theorem zbw (xs:List Ch) (c:Ch):rowC (xs++[c])=rowC xs++c.cells:=by rw [zez];simp [rowC]
theorem zdb (cs:List Ch) (i:Nat) (h:i < cs.length):((rowC cs).drop (i*35)).take 35=(cs.getD i default).cells:=zcC Ch.cells_length cs i h
structure CV where
  who:Nat
  kind:Int
  key:Nat
  old:Nat
  new:Nat
  oc:List Nat
  nc:List Nat
instance:Inhabited CV:=⟨⟨0,0,0,0,0,[],[]⟩⟩
def Ch.v (c:Ch):CV:=⟨c.who%256^20,c.kind,c.key%2^256,c.old%2^256,c.new%2^256,c.oc,c.nc⟩
def CV.turn (c:CV):CV:=⟨c.who,c.kind,c.key,c.new,c.old,c.nc,c.oc⟩
def CV.idle (c:CV):Prop:=c.old=c.new∧c.oc=c.nc
instance (c:CV):Decidable c.idle:=by unfold CV.idle;infer_instance
def spotZ (a b:CV):Int:=if a.who≠b.who then cmpZ a.who b.who else if a.kind≠b.kind then a.kind - b.kind else wcmp a.key b.key
theorem zjY {w:World} {A:Option Addr} {kd:IntKind} {xs:List Nat} (h:A=none) (hc:Cs w A (rowN kd xs)):xs=[]:=by
  cases xs with
  | nil=>rfl
  | cons x xs=>obtain ⟨ad,ha,_⟩:=hc 0 _ rfl;rw [h] at ha;cases ha
theorem zop (a b:Nat):cmpZ a b≠0↔a≠b:=by unfold cmpZ;split<;>(try split)<;>omega
theorem zdC {a b:CV} (h:a.who≠b.who):spotZ a b=cmpZ a.who b.who:=if_pos h
theorem zcI {a b:CV} (h:a.who=b.who) (h2:a.kind≠b.kind):spotZ a b=a.kind - b.kind:=by unfold spotZ;rw [if_neg (fun q=>q h),if_pos h2]
theorem zcJ {a b:CV} (h:a.who=b.who) (h2:a.kind=b.kind):spotZ a b=wcmp a.key b.key:=by unfold spotZ;rw [if_neg (fun q=>q h),if_neg (fun q=>q h2)]
theorem zhQ (a b:Nat):wcmp (a%2^256) (b%2^256)=wcmp a b:=by unfold wcmp;rw [Nat.mod_mod,Nat.mod_mod]
theorem zbH (x:Nat):¬ sizeN x > 8↔x%2^256 < 2^64:=by
  constructor
  · intro h
    rw [← zjf x (by omega)]
    exact zbW x 0
  · intro h h2
    have:=zdF x h2
    omega
end Go.Fw
namespace Go.Fw
open Go
def CV.mayL (c:CV):Prop:=1≤c.kind∧c.kind≤4∧(c.kind=1→c.old < 2^64∧c.new < 2^64)∧(c.kind=3→c.old=0∧c.new=0)∧(c.kind≠3→c.oc.length=0∧c.nc.length=0)∧(c.key=0∨c.kind=4)
instance (c:CV):Decidable c.mayL:=by unfold CV.mayL;infer_instance
def CV.may (c:CV):Prop:=c.mayL∧¬ c.idle
instance (c:CV):Decidable c.may:=by unfold CV.may;infer_instance
def badO (p:Option CV) (c:CV):Bool:=match p with
  | some q=>decide (0≤spotZ q c)
  | none=>false
def formF:Option CV→List CV→Int
  | _,[]=>0
  | p,c::cs=>if ¬ c.may then 1 else if badO p c=true then 110 else formF (some c) cs
def formZ (cs:List CV):Int:=formF none cs
def prevC (cs:List CV) (i:Nat):Option CV:=if i=0 then none else some (cs.getD (i - 1) default)
theorem zcR (ds:List Ch) (i:Nat) (h:i < ds.length):(ds.map Ch.v).getD i default=(ds.getD i default).v:=by
  simp [List.getD_eq_getElem?_getD,h]
theorem znX {cs:List CV} {i:Nat} (h:i < cs.length):formF (prevC cs i) (cs.drop i)=if ¬ (cs.getD i default).may then 1 else if 0 < i∧0≤spotZ (cs.getD (i - 1) default) (cs.getD i default) then 110 else formF (prevC cs (i+1)) (cs.drop (i+1)):=by
  rw [List.drop_eq_getElem_cons h]
  have e:cs[i]=cs.getD i default:=by rw [List.getD_eq_getElem?_getD,List.getElem?_eq_getElem h];rfl
  simp only [formF]
  rw [e]
  split
  · rfl
  · have e2:prevC cs (i+1)=some (cs.getD i default):=by unfold prevC;rw [if_neg (by omega)];rfl
    rw [e2]
    by_cases h0:i=0
    · subst h0;simp [prevC,badO]
    · have e3:prevC cs i=some (cs.getD (i - 1) default):=by unfold prevC;rw [if_neg h0]
      rw [e3]
      simp only [badO,decide_eq_true_eq]
      by_cases h1:0≤spotZ (cs.getD (i - 1) default) (cs.getD i default)
      · rw [if_pos h1,if_pos ⟨by omega,h1⟩]
      · rw [if_neg h1,if_neg (fun q=>h1 q.2)]
theorem zpN (cs:List CV):formF (prevC cs cs.length) (cs.drop cs.length)=0:=by rw [List.drop_length];rfl
theorem CV.may.kinds {c:CV} (h:c.may):1≤c.kind∧c.kind≤4:=⟨h.1.1,h.1.2.1⟩
def Ch.turn (c:Ch):Ch:=⟨c.who,c.kind,c.key,c.new,c.old,c.nc,c.oc,c.nA,c.nC,c.oA,c.oC⟩
theorem Ch.turn_v (c:Ch):c.turn.v=c.v.turn:=rfl
theorem Ch.Ok.turn {W:World} {n:Nat} {B:List (Option Nat)} {c:Ch} (h:c.Ok W n B):c.turn.Ok W n B:=⟨h.kd,h.dN,h.dO,h.ln,h.lo,h.fn,h.fo⟩
theorem zbs {α:Type} [Inhabited α] (xs:List α) (i:Nat) (h:i < xs.length):xs.take (i+1)=xs.take i++[xs.getD i default]:=by
  rw [List.take_succ_eq_append_getElem h];simp [List.getD,h]
theorem zhG {f:CV→CV} {zs:List Ch} {ds:List Ch} {i:Nat} {c:Ch} (hz:zs.map Ch.v=(ds.take i).map (fun c=>f c.v)) (hi:i < ds.length) (hc:c.v=f (ds.getD i default).v):(zs++[c]).map Ch.v=(ds.take (i+1)).map (fun c=>f c.v):=by
  rw [zbs ds i hi,List.map_append,List.map_append,hz,List.map_singleton,List.map_singleton,hc]
theorem zgE {C:Nat→Prop} {i:Nat} (h:∀ j,j < i→C j) (hi:C i):∀ j,j < i+1→C j:=fun j hj=>by
  rcases Nat.lt_succ_iff_lt_or_eq.1 hj with h1 | h1
  · exact h j h1
  · subst h1;exact hi
end Go.Fw
namespace Go.Fw
open Go
theorem zeQ {α:Type} {f:α→List Value} {s:Nat} (hs:∀ x,(f x).length=s) {w:World} {A:Option Addr} {c:Nat} {xs:List α} (h:Cs w A (xs.flatMap f)) (hc:xs.length≤c) (k:Nat):Cs w (if c=k then A else A.map (·.add (k*s))) ((xs.drop k).flatMap f):=by
  split
  · rw [List.drop_eq_nil_of_le (by omega)];exact Cs.nil _ _
  · have:=h.drop (k*s)
    rwa [zfj hs] at this
theorem zaA {w:World} {A:Option Addr} {c:Nat} {x:Ch} {xs:List Ch} (h:Cs w A (rowC (x::xs))) (hc:(x::xs).length≤c):Cs w (if c=1 then A else A.map (·.add (1*35))) (rowC xs):=zeQ Ch.cells_length h hc 1
theorem zaj {α:Type} {x:α} {xs:List α} {c:Nat} (h:(x::xs).length≤c):xs.length≤c - 1:=by rw [List.length_cons] at h;omega
theorem zbx (x:Ch) (xs:List Ch):((rowC (x::xs)).drop (0*35)).take 35=x.cells:=rfl
theorem AllC.head {W:World} {n:Nat} {B:List (Option Nat)} {x:Ch} {xs:List Ch} (h:AllC W n B (x::xs)):x.Ok W n B:=h x List.mem_cons_self
theorem AllC.tail {W:World} {n:Nat} {B:List (Option Nat)} {x:Ch} {xs:List Ch} (h:AllC W n B (x::xs)):AllC W n B xs:=fun c hc=>h c (List.mem_cons_of_mem _ hc)
def AllMay (xs:List Ch):Prop:=∀ c∈xs,c.v.may
theorem AllMay.head {x:Ch} {xs:List Ch} (h:AllMay (x::xs)):x.v.may:=h x List.mem_cons_self
theorem AllMay.tail {x:Ch} {xs:List Ch} (h:AllMay (x::xs)):AllMay xs:=fun c hc=>h c (List.mem_cons_of_mem _ hc)
theorem zlc {c:Ch} (h:c.v.may): -4611686018427387904≤c.kind∧c.kind≤4611686018427387903:=by
  have:=h.kinds
  unfold Ch.v at this
  dsimp only at this
  omega
theorem zjj:∀ (p:Option CV) (cs:List CV),formF p cs=0→∀ c∈cs,c.may
  | _,[],_,c,hc=>by cases hc
  | p,x::cs,h,c,hc=>by
    unfold formF at h
    split at h
    · cases h
    · rename_i hm
      split at h
      · cases h
      · rcases List.mem_cons.1 hc with rfl | hc
        · exact Decidable.not_not.1 hm
        · exact zjj _ cs h c hc
theorem zim {ds:List Ch} (h:formZ (ds.map Ch.v)=0):AllMay ds:=fun c hc=>zjj _ _ h _ (List.mem_map.2 ⟨c,hc,rfl⟩)
def CV.then (a b:CV):CV:=⟨a.who,a.kind,a.key,a.old,b.new,a.oc,b.nc⟩
def Ch.then (a b:Ch):Ch:=⟨a.who,a.kind,a.key,a.old,b.new,a.oc,b.nc,a.oA,a.oC,b.nA,b.nC⟩
theorem Ch.Ok.then {W:World} {n:Nat} {B:List (Option Nat)} {a b:Ch} (ha:a.Ok W n B) (hb:b.Ok W n B):(a.then b).Ok W n B:=⟨ha.kd,ha.dO,hb.dN,ha.lo,hb.ln,ha.fo,hb.fn⟩
def CV.meets (a b:CV):Prop:=a.new=b.old∧a.nc=b.oc
instance (a b:CV):Decidable (a.meets b):=by unfold CV.meets;infer_instance
def joinL:List CV→List CV→Option (List CV)
  | [],bs=>some bs
  | az,[]=>some az
  | a::az,b::bs=>if spotZ a b < 0 then (joinL az (b::bs)).map (a::·) else if 0 < spotZ a b then (joinL (a::az) bs).map (b::·) else if ¬ a.meets b then none else if (a.then b).idle then joinL az bs else (joinL az bs).map (a.then b::·)
termination_by az bs=>az.length+bs.length
theorem zcP (az:List CV):joinL az []=some az:=by cases az<;>simp [joinL]
theorem zbJ (bs:List CV):joinL [] bs=some bs:=by simp [joinL]
theorem zli (a:CV) (az bs:List CV) (h:bs=[]∨∃ b bs',bs=b::bs'∧spotZ a b < 0):joinL (a::az) bs=(joinL az bs).map (a::·):=by
  rcases h with rfl | ⟨b,bs',rfl,h⟩
  · rw [zcP,zcP];rfl
  · rw [joinL,if_pos h]
theorem zlh (b:CV) (az bs:List CV) (h:az=[]∨∃ a as',az=a::as'∧0 < spotZ a b):joinL az (b::bs)=(joinL az bs).map (b::·):=by
  rcases h with rfl | ⟨a,as',rfl,h⟩
  · rw [zbJ,zbJ];rfl
  · rw [joinL,if_neg (by omega),if_pos h]
theorem zid {a b:CV} {az bs:List CV} (h:spotZ a b=0) (hm:¬ a.meets b):joinL (a::az) (b::bs)=none:=by
  rw [joinL,if_neg (by omega),if_neg (by omega),if_pos hm]
theorem zdR {a b:CV} {az bs:List CV} (h:spotZ a b=0) (hm:a.meets b) (hi:(a.then b).idle):joinL (a::az) (b::bs)=joinL az bs:=by
  rw [joinL,if_neg (by omega),if_neg (by omega),if_neg (fun q=>q hm),if_pos hi]
theorem zfc {a b:CV} {az bs:List CV} (h:spotZ a b=0) (hm:a.meets b) (hi:¬ (a.then b).idle):joinL (a::az) (b::bs)=(joinL az bs).map (a.then b::·):=by
  rw [joinL,if_neg (by omega),if_neg (by omega),if_neg (fun q=>q hm),if_neg hi]
theorem zgH {J R:Option (List CV)} {c:CV} {zs:List CV} (h:J=(R.map (c::·)).map (zs++·)):J=R.map ((zs++[c])++·):=by
  rw [h]
  cases R<;>simp
theorem zgl (zs:List Ch) (c:Ch):(zs++[c]).map Ch.v=zs.map Ch.v++[c.v]:=by simp
def joinZ (az bs:List CV):List CV×Int:=
  if formZ az≠0 then ([],formZ az) else if formZ bs≠0 then ([],formZ bs) else match joinL az bs with
    | some l=>(l,0)
    | none=>([],240)
theorem zss {az bs:List CV} (h:formZ az≠0):joinZ az bs=([],formZ az):=if_pos h
theorem zsr {az bs:List CV} (h:formZ az=0) (h2:formZ bs≠0):joinZ az bs=([],formZ bs):=by unfold joinZ;rw [if_neg (fun q=>q h),if_pos h2]
theorem zef {az bs l:List CV} (h:formZ az=0) (h2:formZ bs=0) (hj:joinL az bs=some l):joinZ az bs=(l,0):=by unfold joinZ;rw [if_neg (fun q=>q h),if_neg (fun q=>q h2),hj]
theorem zfV {az bs:List CV} (h:formZ az=0) (h2:formZ bs=0) (hj:joinL az bs=none):joinZ az bs=([],240):=by unfold joinZ;rw [if_neg (fun q=>q h),if_neg (fun q=>q h2),hj]
theorem zoS {w:World} {n:Nat} {B:List (Option Nat)} {A1 A2:Option Addr} {c1 c2:Nat} {az bs:List Ch} (h1:Cs w A1 (rowC az)) (h2:Cs w A2 (rowC bs)) (hd1:AllC w n B az) (hd2:AllC w n B bs) (hl1:az.length≤1000000000) (hl2:bs.length≤1000000000) {j:Nat} (hj:j < 2):
    ∃ (Aj:Option Addr) (cj:Nat) (dj:List Ch),[Value.slice A1 az.length c1,.slice A2 bs.length c2][j]?=some (.slice Aj dj.length cj)∧Cs w Aj (rowC dj)∧AllC w n B dj∧dj.length≤1000000000∧dj=(if j=0 then az else bs):=by
  rcases (show j=0∨j=1 by omega) with rfl | rfl
  · exact ⟨A1,c1,az,rfl,h1,hd1,hl1,rfl⟩
  · exact ⟨A2,c2,bs,rfl,h2,hd2,hl2,rfl⟩
theorem zsq {az bs dj:List Ch} {j:Nat} (hj:j < 2) (h:dj=if j=0 then az else bs) (hz:formZ (dj.map Ch.v)=0) (hfa:0 < j→formZ (az.map Ch.v)=0):0 < j+1→formZ (az.map Ch.v)=0:=fun _=>by
  by_cases h0:j=0
  · rw [if_pos h0] at h;rw [← h];exact hz
  · exact hfa (by omega)
theorem zsp {az bs dj:List Ch} {j:Nat} (hj:j < 2) (h:dj=if j=0 then az else bs) (hz:formZ (dj.map Ch.v)=0) (hfb:1 < j→formZ (bs.map Ch.v)=0):1 < j+1→formZ (bs.map Ch.v)=0:=fun q=>by
  rw [if_neg (by omega)] at h;rw [← h];exact hz
theorem zfU {az bs dj:List Ch} {j:Nat} (hj:j < 2) (h:dj=if j=0 then az else bs) (hz:formZ (dj.map Ch.v)≠0) (hfa:0 < j→formZ (az.map Ch.v)=0):joinZ (az.map Ch.v) (bs.map Ch.v)=([],formZ (dj.map Ch.v)):=by
  by_cases h0:j=0
  · rw [if_pos h0] at h;subst h;exact zss hz
  · rw [if_neg h0] at h;subst h;exact zsr (hfa (by omega)) hz
theorem zfT (zs:List CV):(joinL [] []).map (zs++·)=some zs:=by simp [zbJ]
end Go.Fw
namespace Go.Fw
open Go
section
variable {w0 w:World} {M:List Nat} {l:List (Nat×Ent)}
def oneMap (k k2:Nat):List (Nat×Ent)→Bool
  | []=>true
  | (j,e)::l=>(Nat.beq j k || Nat.beq j k2 || (match e.t with | .ty _=>true | .mp _ _=>false | .df _=>true)) && oneMap k k2 l
theorem zgz {k k2:Nat}:∀ {l:List (Nat×Ent)},oneMap k k2 l=true→∀ {j:Nat} {e:Ent},lk l j=some e→j≠k→j≠k2→(∃ t,e.t=.ty t)∨∃ g,e.t=.df g
  | [],_,j,e,h,_,_=>by simp [lk] at h
  | (i,u)::l,hb,j,e,h,hne,hne2=>by
    simp only [oneMap,Bool.and_eq_true,Bool.or_eq_true] at hb
    rw [zae] at h
    split at h
    · rename_i hij;subst hij;cases h
      rcases hb.1 with (h1 | h1) | h1
      · exact absurd (Nat.eq_of_beq_eq_true h1) hne
      · exact absurd (Nat.eq_of_beq_eq_true h1) hne2
      · cases ht:u.t with
        | ty t=>exact .inl ⟨t,rfl⟩
        | mp g r=>rw [ht] at h1;cases h1
        | df g=>exact .inr ⟨g,rfl⟩
    · exact zgz hb.2 h hne hne2
theorem WS.newMap (h:WS w0 M l w) (k:Nat):WS w0 M ((k,⟨none,.mp w.heap.size (fun r=>r=[]),[]⟩)::l) (w.alloc (.map #[] 0)):=by
  refine ⟨h.os,h.tape,h.output,by have:=h.size;simp;omega,fun i hi hM=>?_,fun j e he=>?_,fun j j' e e' g he he' hne hg=>?_,fun j e g he hg=>?_⟩
  · rw [zau,if_neg (by have:=h.size;omega)];exact h.keep i hi hM
  · rw [zae] at he
    split at he
    · cases he
      exact ⟨rfl,#[],0,by rw [zau,if_pos rfl],rfl,List.nodup_nil,fun e he=>(by cases he)⟩
    · refine (h.live j e he).same (fun g hg=>?_) (fun g o ho hm=>?_)
      · rw [zau,if_neg (by have:=(h.live j e he).lt hg;omega)]
      · rw [zau,if_neg (by have:=(Array.getElem?_eq_some_iff.1 hm).1;omega)]
  · rw [zae] at he he'
    split at he
    · cases he;cases hg
    · split at he'
      · cases he';intro q;cases q
      · exact h.apart j j' e e' g he he' hne hg
  · rw [zae] at he
    split at he
    · cases he;cases hg
    · exact h.own j e g he hg
def setObjW (w:World) (g:Nat) (o:Obj):World:={ w with heap:=w.heap.setIfInBounds g o }
theorem zbb (w:World) (g i:Nat) (o:Obj):(setObjW w g o).heap[i]?=if g=i∧i < w.heap.size then some o else w.heap[i]?:=by
  unfold setObjW
  simp only [Array.getElem?_setIfInBounds]
  by_cases h:g=i
  · subst h
    by_cases h2:g < w.heap.size
    · simp [h2]
    · simp [h2]
  · simp [h]
theorem WS.setMap (h:WS w0 M l w) {k k2 g:Nat} {C:List MapEntry→Prop} {es':List MapEntry} (hl:lk l k=some ⟨none,.mp g C,[]⟩) (hone:oneMap k k2 l=true) (h2:k2≠k→∀ e,lk l k2=some e→∃ D,e=⟨none,.mp g D,[]⟩∧D es') (hg:w0.heap.size≤g) (clk:Nat) (hn:(es'.map (·.born)).Nodup) (hb:∀ e∈es',e.born < clk):
    WS w0 M ((k,⟨none,.mp g (fun r=>r=es'),[]⟩)::l) (setObjW w g (.map es'.toArray clk)):=by
  obtain ⟨_,esA,clk0,hat,_⟩:=h.live k _ hl
  have hlt:=(Array.getElem?_eq_some_iff.1 hat).1
  refine ⟨h.os,h.tape,h.output,by have:=h.size;simpa [setObjW] using this,fun i hi hM=>?_,fun j e he=>?_,fun j j' e e' g he he' hne hg=>?_,fun j e g he hg=>?_⟩
  · rw [zbb,if_neg (by omega)];exact h.keep i hi hM
  · rw [zae] at he
    split at he
    · cases he
      exact ⟨rfl,es'.toArray,clk,by rw [zbb,if_pos ⟨rfl,hlt⟩],by simp,by simpa using hn,by simpa using hb⟩
    · rename_i hne
      by_cases hj2:j=k2
      · obtain ⟨D,rfl,hD⟩:=h2 (by rw [← hj2];exact Ne.symm hne) e (by rw [← hj2];exact he)
        exact ⟨rfl,es'.toArray,clk,by rw [zbb,if_pos ⟨rfl,hlt⟩],by simpa using hD,by simpa using hn,by simpa using hb⟩
      have hat':=h.live j e he
      cases hid:e.id with
      | none=>
        rcases zgz hone he (Ne.symm hne) hj2 with ⟨t,ht⟩ | ⟨g',ht⟩
        · simp only [Ent.At,hid,ht] at hat' ⊢
          exact hat'
        · simp only [Ent.At,hid,ht] at hat' ⊢
          refine ⟨hat'.1,?_⟩
          rw [zbb,if_neg (by rintro ⟨rfl,_⟩;rw [hat] at hat';cases hat'.2)]
          exact hat'.2
      | some q=>
        simp only [Ent.At,hid] at hat' ⊢
        obtain ⟨t',h1,h2⟩:=hat'
        refine ⟨t',h1,?_⟩
        rw [zbb,if_neg (by rintro ⟨rfl,_⟩;rw [hat] at h2;cases h2)]
        exact h2
  · rw [zae] at he he'
    split at he
    · cases he;cases hg
    · split at he'
      · cases he';intro q;cases q
      · exact h.apart j j' e e' g he he' hne hg
  · rw [zae] at he
    split at he
    · cases he;cases hg
    · exact h.own j e g he hg
end
structure SpotT (P:Program) (k ta tb ti tw tu:TypeId):Prop where
  fs : ∃ f1 f2 f3 : Field, P.underlying k = some (.struct #[f1, f2, f3]) ∧ (f1.type = ta ∧ f1.offset = 0 ∧ (f1.name != "_") = true) ∧ (f2.type = ti ∧ f2.offset = 20 ∧ (f2.name != "_") = true) ∧ (f3.type = tw ∧ f3.offset = 21 ∧ (f3.name != "_") = true)
  ua:P.underlying ta=some (.array 20 tb)
  ub:P.underlying tb=some (.int .u8)
  ui:P.underlying ti=some (.int .i64)
  uw:P.underlying tw=some (.array 4 tu)
  uu:P.underlying tu=some (.int .u64)
  ca:P.cellsOf ta=20
  cb:P.cellsOf tb=1
  ci:P.cellsOf ti=1
  cw:P.cellsOf tw=4
  cu:P.cellsOf tu=1
  ck:P.cellsOf k=25
  kt:P.keyType k=true
  ka:P.keyTypeAt 3 k=true
  tl:P.tiled 3 k=true
  dp:∃ d,P.types.size+1=d+3
def spotV (c:Ch):Value:=.agg (ac c.who++(.int .i64 c.kind::wc c.key)).toArray
variable {P:Program} {k ta tb ti tw tu:TypeId}
theorem zgG (d:Nat) {t e:TypeId} {kd:IntKind} {m:Nat} (ht:P.underlying t=some (.array m e)) (he:P.underlying e=some (.int kd)) (hct:P.cellsOf t=m) (hce:P.cellsOf e=1) (xs:List Nat) (hl:xs.length=m) (hw:∀ x∈xs,(Lit.int kd x).wf=true):P.keyLits (d+2) t (rowN kd xs)=some (xs.map fun (x:Nat)=>Lit.int kd (x:Int)):=by
  unfold Program.keyLits
  simp only [ht]
  rw [if_pos (by rw [zap,hl,hct])]
  have h:∀ i,i < m→P.keyLits (d+1) e (((rowN kd xs).drop (i*P.cellsOf e)).take (P.cellsOf e))=some [Lit.int kd ((xs.getD i 0:Nat):Int)]:=fun i hi=>by
    have hg:=zeR kd xs i (by omega)
    rw [hce,Nat.mul_one]
    have:((rowN kd xs).drop i).take 1=[.int kd ((xs.getD i 0:Nat):Int)]:=by
      apply List.ext_getElem?
      intro j
      cases j with
      | zero=>rw [List.getElem?_take_of_lt (by omega),List.getElem?_drop,Nat.add_zero,hg];rfl
      | succ j=>rw [List.getElem?_eq_none (by simp;omega),List.getElem?_eq_none (by simp)]
    rw [this]
    unfold Program.keyLits
    simp only [he]
    rw [if_pos ⟨trivial,hw _ (by rw [List.getD_eq_getElem?_getD,List.getElem?_eq_getElem (by omega)];exact List.getElem_mem _)⟩]
  have hm:∀ (ys:List Nat),(∀ i∈ys,i < m)→ys.mapM (fun i=>P.keyLits (d+1) e (((rowN kd xs).drop (i*P.cellsOf e)).take (P.cellsOf e)))=some (ys.map fun i=>[Lit.int kd ((xs.getD i 0:Nat):Int)]):=by
    intro ys
    induction ys with
    | nil=>intro _;rfl
    | cons y ys ih=>
      intro hy
      rw [List.mapM_cons,h y (hy y List.mem_cons_self),ih (fun i hi=>hy i (List.mem_cons_of_mem _ hi))]
      rfl
  rw [hm _ (fun i hi=>List.mem_range.1 hi)]
  simp only [Option.map_some,Option.some.injEq]
  apply List.ext_getElem?
  intro i
  have:((List.range m).map fun i=>[Lit.int kd ((xs.getD i 0:Nat):Int)]).flatten=(List.range m).map fun i=>Lit.int kd ((xs.getD i 0:Nat):Int):=by
    induction List.range m with
    | nil=>rfl
    | cons y ys ih=>rw [List.map_cons,List.flatten_cons,ih];rfl
  rw [this]
  simp only [List.getElem?_map]
  rcases Nat.lt_or_ge i m with h1 | h1
  · rw [List.getElem?_range h1,List.getElem?_eq_getElem (by omega:i < xs.length)]
    simp [List.getD,h1,hl]
  · rw [List.getElem?_eq_none (by simp;omega),List.getElem?_eq_none (by omega)];rfl
theorem zhT (T:SpotT P k ta tb ti tw tu) (c:Ch) (hk: -9223372036854775808≤c.kind∧c.kind≤9223372036854775807):∃ lt,keyOf P k (spotV c)=some lt:=by
  obtain ⟨f1,f2,f3,hf,⟨t1,o1,n1⟩,⟨t2,o2,n2⟩,⟨t3,o3,n3⟩⟩:=T.fs
  obtain ⟨d,hd⟩:=T.dp
  have hfm:(spotV c).formed P k=true:=by
    simp only [spotV,Value.formed,hf,T.ck]
    rfl
  have wf8:∀ x∈adL c.who,(Lit.int .u8 x).wf=true:=fun x hx=>by
    have:=zdz c.who x hx
    simp [Lit.wf,IntKind.min,IntKind.max,IntKind.signed,IntKind.bits]
    omega
  have wf64:∀ x∈wl c.key,(Lit.int .u64 x).wf=true:=fun x hx=>by
    have:x < 18446744073709551616:=by
      simp only [wl,List.mem_cons,List.not_mem_nil,or_false] at hx
      rcases hx with rfl | rfl | rfl | rfl<;>exact zbW _ _
    simp [Lit.wf,IntKind.min,IntKind.max,IntKind.signed,IntKind.bits]
    omega
  have e1:=zgG d T.ua T.ub T.ca T.cb (adL c.who) rfl wf8
  have e3:=zgG d T.uw T.uu T.cw T.cu (wl c.key) rfl wf64
  have e2:P.keyLits (d+2) ti [.int .i64 c.kind]=some [Lit.int .i64 c.kind]:=by
    unfold Program.keyLits
    simp only [T.ui]
    rw [if_pos ⟨trivial,by simp [Lit.wf,IntKind.min,IntKind.max,IntKind.signed,IntKind.bits];omega⟩]
  have e:P.keyLits (d+3) k (spotV c).cells.toList=some ((adL c.who).map (fun (x:Nat)=>Lit.int .u8 (x:Int))++([Lit.int .i64 c.kind]++((wl c.key).map fun (x:Nat)=>Lit.int .u64 (x:Int)))):=by
    show P.keyLits (d+2+1) k (ac c.who++(.int .i64 c.kind::wc c.key))=_
    unfold Program.keyLits
    simp only [hf]
    rw [if_pos ⟨by rw [T.ck];rfl,by simp [n1,n2,n3]⟩]
    simp only [List.mapM_cons,List.mapM_nil,t1,o1,t2,o2,t3,o3,T.ca,T.ci,T.cw]
    rw [show ((ac c.who++(.int .i64 c.kind::wc c.key)).drop 0).take 20=rowN .u8 (adL c.who) from rfl,show ((ac c.who++(.int .i64 c.kind::wc c.key)).drop 20).take 1=[.int .i64 c.kind] from rfl,show ((ac c.who++(.int .i64 c.kind::wc c.key)).drop 21).take 4=rowN .u64 (wl c.key) from rfl,e1,e2,e3]
    simp
  unfold keyOf
  rw [hf]
  simp only [T.kt,hfm,Bool.and_self,if_true,hd,e,Option.map_some]
  exact ⟨_,rfl⟩
end Go.Fw
namespace Go.Fw
open Go
section
variable {P:Program} {ops:Array Oper} {F:Act→World→Prop} {w0 w w':World} {M:List Nat} {N:Nf} {L:List (Oper×K)} {σ:List (Nat×Value)} {l lS:List (Nat×Ent)} {k:K}
  {d:Option Tmp} {ty t kt et:TypeId} {p:String} {af:Array Edge} {x y z:Operand} {g:Nat} {es:List MapEntry} {v key:Value}
theorem J.bw (l':List (Nat×Ent)) (hs:Sub l' l) {lS2:List (Nat×Ent)} (h:J P ops F w0 M N lS2 L σ l') (hS:Sub lS2 l'):J P ops (Mid P ops N.pn F w0 M lS2 L) w0 M N lS [] σ l:=fun _ a ha w hw=>⟨l',hw.sub hs,hS,h hS a ha⟩
theorem getM {esA:Array MapEntry} {clk:Nat} (hb:w.heap[g]?=some (.map esA clk)):(getObj g).run P w=.ok (.map esA clk) w:=by simp [getObj,Sem.run,hb]
theorem setM {esA:Array MapEntry} {clk:Nat} (o:Obj) (hb:w.heap[g]?=some (.map esA clk)):(setObj g o).run P w=.ok () (setObjW w g o):=by simp [setObj,Sem.run,hb,setObjW]
theorem J.cD (h:Nat) (hh:lk lS h=none) (hd:okd N d) (hJ:∀ g,w0.heap.size≤g→J P ops F w0 M N lS L (putd d (.map (some g)) σ) ((h,⟨none,.mp g (fun r=>r=[]),[]⟩)::l)):J P ops F w0 M N lS ((⟨d,.makeMap t none,ty,p,af,none⟩,.l)::L) σ l:=
  J.aR rfl hd (ι:=Nat) (fun g=>w0.heap.size≤g) (fun g=>.map (some g)) (fun g=>(h,⟨none,.mp g (fun r=>r=[]),[]⟩)::l) (fun _ _ hs=>hs.fresh hh)
    (fun a ha w hw=>by
      have:(execOp a.eval ⟨d,.makeMap t none,ty,p,af,none⟩).run P w=.ok (.value (.map (some w.heap.size))) (w.alloc (.map #[] 0)):=by
        simp only [execOp,Option.map_none,Instr.makeMap,Sem.run_bind,run_newObj,Result.andThen,Sem.run_pure]
        rfl
      rw [this];exact ⟨_,hw.size,rfl,hw.newMap h⟩) hJ
theorem zeW (hw:WS w0 M l w) {j:Nat} {C:List MapEntry→Prop} (hl:lk l j=some ⟨none,.mp g C,[]⟩):MapAt w g C:=(hw.live j _ hl).2
abbrev Is (es:List MapEntry):List MapEntry→Prop:=fun r=>r=es
theorem T.aC {Q:Exit→Act→World→Prop} {c:Code} (j k2:Nat) {C:List MapEntry→Prop} (D:List MapEntry→Prop) (hl:lk l j=some ⟨none,.mp g C,[]⟩) (hD:∀ r,C r→D r) (h:T P w0 M N Q c σ ((k2,⟨none,.mp g D,[]⟩)::l)):T P w0 M N Q c σ l:=fun hq a w ha hw=>h hq a w ha (by
  obtain ⟨esA,clk,h1,h2,h3,h4⟩:=zeW hw hl
  refine ⟨hw.os,hw.tape,hw.output,hw.size,hw.keep,fun i e he=>?_,fun i i' e e' q he he' hne hg=>?_,fun i e q he hg=>?_⟩
  · rw [zae] at he
    split at he
    · cases he;exact ⟨rfl,esA,clk,h1,hD _ h2,h3,h4⟩
    · exact hw.live i e he
  · rw [zae] at he he'
    split at he
    · cases he;cases hg
    · split at he'
      · cases he';intro q;cases q
      · exact hw.apart i i' e e' q he he' hne hg
  · rw [zae] at he
    split at he
    · cases he;cases hg
    · exact hw.own i e q he hg)
def ValAt (es:List MapEntry) (key:Value) (c:Int):Prop:=(∃ e∈es,e.key=key∧e.val=.int .i64 c)∨((∀ e∈es,e.key≠key)∧c=0)
theorem zmk {es:List MapEntry} (h:(es.map (·.key)).Nodup) {e e':MapEntry} (he:e∈es) (he':e'∈es) (hk:e.key=e'.key):e=e':=by
  induction es with
  | nil=>cases he
  | cons x es ih=>
    rw [List.map_cons,List.nodup_cons] at h
    rcases List.mem_cons.1 he with h1 | h1<;>rcases List.mem_cons.1 he' with h2 | h2
    · rw [h1,h2]
    · exact absurd (List.mem_map.2 ⟨e',h2,by rw [← hk,h1]⟩) h.1
    · exact absurd (List.mem_map.2 ⟨e,h1,by rw [hk,h2]⟩) h.1
    · exact ih h.2 h1 h2
def LookOk (P:Program) (kt:TypeId) (key:Value) (c:Int) (es:List MapEntry):Prop:=(∀ e∈es,∃ l,keyOf P kt e.key=some l)∧(es.map (·.key)).Nodup∧ValAt es key c
theorem zhu {c:Int} (hK:WideMaps.KeyLaw P kt) (ht:P.underlying t=some (.map kt et)) (hz:ZeroT P et (.int .i64 0)) (hm:MapAt w g (LookOk P kt key c)) {lt:Lit} (hkey:keyOf P kt key=some lt):
    (Instr.lookup t (.map (some g)) key false).run P w=.ok (.int .i64 c) w:=by
  obtain ⟨esA,clk,hat,⟨hks,hn,hv⟩,_⟩:=hm
  have hc:=hK.check w esA.isEmpty hkey
  unfold Instr.lookup
  simp only [Sem.run_bind,run_underlying ht,Result.andThen_ok,getM hat,Sem.run_pure,hc]
  rcases hK.find w hkey esA.toList hks with ⟨h1,h2⟩ | ⟨j,e,h1,h2,h3⟩
  · simp only [h1,Result.andThen_ok,Sem.run_bind,zaZ hz,Sem.run_pure]
    rcases hv with ⟨e,he,hk,_⟩ | ⟨_,rfl⟩
    · exact absurd hk (h2 e he)
    · rfl
  · simp only [h1,Result.andThen_ok]
    rcases hv with ⟨e',he,hk,hval⟩ | ⟨hno,_⟩
    · obtain rfl:=zmk hn he (List.mem_of_getElem? h2) (hk.trans h3.symm)
      rw [hval];rfl
    · exact absurd h3 (hno e (List.mem_of_getElem? h2))
theorem J.cL (j:Nat) (hk:nog k) (hK:WideMaps.KeyLaw P kt) (ht:P.underlying t=some (.map kt et)) (hz:ZeroT P et (.int .i64 0)) {C:List MapEntry→Prop} {c:Int} (hl:lk l j=some ⟨none,.mp g C,[]⟩) (hx:ev σ x=some (.map (some g))) (hy:ev σ y=some key) {lt:Lit} (hkey:keyOf P kt key=some lt)
    (hC:∀ r,C r→LookOk P kt key c r) (hd:okd N d) (hJ:J P ops F w0 M N lS L (putd d (.int .i64 c) σ) l):
    J P ops F w0 M N lS ((⟨d,.lookup t x y false,ty,p,af,none⟩,k)::L) σ l:=
  J.ba rfl hk hd _ (fun a ha w hw=>by
    obtain ⟨esA,clk,h1,h2,h3,h4⟩:=zeW hw hl
    simp only [execOp,ha.eval hx,ha.eval hy,zhu hK ht hz ⟨esA,clk,h1,hC _ h2,h3,h4⟩ hkey,Sem.run_bind,Result.andThen,Sem.run_pure]) hJ
theorem J.cE (j:Nat) (hK:WideMaps.KeyLaw P kt) (ht:P.underlying t=some (.map kt et)) (hz:ZeroT P et (.int .i64 0)) {C:List MapEntry→Prop} {c:Int} (hl:lk lS j=some ⟨none,.mp g C,[]⟩) (hx:ev σ x=some (.map (some g))) (hy:ev σ y=some key) {lt:Lit} (hkey:keyOf P kt key=some lt)
    (hC:∀ r,C r→LookOk P kt key c r) (hd:okd N d) (hJ:J P ops F w0 M N lS L (putd d (.int .i64 c) σ) l):
    J P ops F w0 M N lS ((⟨d,.lookup t x y false,ty,p,af,none⟩,.s)::L) σ l:=
  J.bm rfl hd _ (fun a ha w hw=>by
    obtain ⟨esA,clk,h1,h2,h3,h4⟩:=zeW hw hl
    simp only [execOp,ha.eval hx,ha.eval hy,zhu hK ht hz ⟨esA,clk,h1,hC _ h2,h3,h4⟩ hkey,Sem.run_bind,Result.andThen,Sem.run_pure]) hJ
def Touched (es:List MapEntry) (key:Value) (es2:List MapEntry) (st:Nat):Prop:=
  (es2=es∧∃ e∈es,e.key=key∧e.born=st)∨(es2=es++[⟨key,.int .i64 0,st⟩]∧∀ e∈es,e.key≠key)
theorem J.cg (j:Nat) (hh:lk lS j=none) (hK:WideMaps.KeyLaw P kt) (ht:P.underlying t=some (.map kt et)) (hz:ZeroT P et (.int .i64 0)) (k2:Nat) (hl:lk l j=some ⟨none,.mp g (Is es),[]⟩) (hone:oneMap j k2 l=true) (h2:k2≠j→∃ D,lk l k2=some ⟨none,.mp g D,[]⟩∧∀ es2 st,Touched es key es2 st→D es2) (hg:w0.heap.size≤g) (hx:ev σ x=some (.map (some g))) (hy:ev σ y=some key) {lt:Lit} (hkey:keyOf P kt key=some lt)
    (hks:∀ e∈es,∃ l,keyOf P kt e.key=some l) (hd:okd N d) (hJ:∀ (v:Value) (st:Nat) (es2:List MapEntry),Touched es key es2 st→(es2.map (·.born)).Nodup→J P ops F w0 M N lS L (putd d (.tuple [v,.int .i64 (st:Int)].toArray) σ) ((j,⟨none,.mp g (Is es2),[]⟩)::l)):
    J P ops F w0 M N lS ((⟨d,.mapEntry t x y,ty,p,af,none⟩,.l)::L) σ l:=
  J.aR rfl hd (ι:=Value×Nat×List MapEntry) (fun q=>Touched es key q.2.2 q.2.1∧(q.2.2.map (·.born)).Nodup) (fun q=>.tuple [q.1,.int .i64 (q.2.1:Int)].toArray) (fun q=>(j,⟨none,.mp g (Is q.2.2),[]⟩)::l) (fun _ _ hs=>hs.fresh hh)
    (fun a ha w hw=>by
      obtain ⟨esA,clk,hat,hes,hnd,hlt⟩:=zeW hw hl
      have hes:esA.toList=es:=hes
      rw [hes] at hnd hlt
      have hc:=hK.check w false hkey
      have hth:∀ es2 st,Touched es key es2 st→k2≠j→∀ e,lk l k2=some e→∃ D,e=⟨none,.mp g D,[]⟩∧D es2:=fun es2 st ht hne e he=>by
        obtain ⟨D,hD1,hD2⟩:=h2 hne
        rw [hD1] at he;cases he
        exact ⟨D,rfl,hD2 es2 st ht⟩
      simp only [execOp,ha.eval hx,ha.eval hy,Instr.mapEntry,Sem.run_bind,run_underlying ht,Result.andThen_ok,getM hat,hc]
      rw [hes]
      rcases hK.find w hkey es hks with ⟨h1,h3⟩ | ⟨i,e,h1,h4,h3⟩
      · simp only [h1,Result.andThen_ok,Sem.run_bind,zaZ hz,setM _ hat,Sem.run_pure]
        have hnd2:((es++[(⟨key,.int .i64 0,clk⟩:MapEntry)]).map (·.born)).Nodup:=by
          rw [List.map_append,List.nodup_append]
          refine ⟨hnd,by simp,fun b hb c hc=>?_⟩
          simp at hc;subst hc
          obtain ⟨e,he,rfl⟩:=List.mem_map.1 hb
          have:=hlt e he
          omega
        have hset:=hw.setMap (es':=es++[⟨key,.int .i64 0,clk⟩]) hl hone (hth _ clk (.inr ⟨rfl,h3⟩)) hg (clk+1) hnd2 (fun e he=>by
          rcases List.mem_append.1 he with he | he
          · have:=hlt e he;omega
          · simp at he;subst he;simp)
        have e1:esA.push (⟨key,.int .i64 0,clk⟩:MapEntry)=(es++[(⟨key,.int .i64 0,clk⟩:MapEntry)]).toArray:=by
          apply Array.ext';simp [hes]
        rw [e1]
        exact ⟨(.int .i64 0,clk,es++[⟨key,.int .i64 0,clk⟩]),⟨.inr ⟨rfl,h3⟩,hnd2⟩,rfl,hset⟩
      · have hei:esA[i]?=some e:=by rw [← Array.getElem?_toList,hes];exact h4
        have hst:=hK.stays w hkey
        simp only [h1,Result.andThen_ok,Sem.run_bind,hei,Option.map_some,Option.getD_some,h3,hst,setM _ hat,Sem.run_pure]
        have e1:(esA.modify i fun e=>{ e with key:=key })=es.toArray:=by
          apply Array.ext'
          rw [← hes,Array.toList_modify]
          apply List.ext_getElem?
          intro q
          rw [List.getElem?_modify]
          by_cases hq:i=q
          · subst hq
            rw [hes,h4]
            simp only [Option.map_eq_map,Option.map_some,if_true]
            rw [← h3]
          · simp [hq]
        rw [e1]
        have hset:=hw.setMap (es':=es) hl hone (hth _ e.born (.inl ⟨rfl,e,List.mem_of_getElem? h4,h3,rfl⟩)) hg clk hnd hlt
        exact ⟨(e.val,e.born,es),⟨.inl ⟨rfl,e,List.mem_of_getElem? h4,h3,rfl⟩,hnd⟩,rfl,hset⟩) (fun q hq=>hJ q.1 q.2.1 q.2.2 hq.1 hq.2)
def wroteE (es:List MapEntry) (st:Nat) (v:Value):List MapEntry:=es.map fun e=>if e.born=st then { e with val:=v } else e
theorem zoj {es:List MapEntry} {st:Nat} (hn:(es.map (·.born)).Nodup) {e:MapEntry} (he:e∈es) (hb:e.born=st) (v:Value):∃ i,(es.findIdx? fun e=>((e.born:Int) == (st:Int)))=some i∧(es.modify i fun e=>{ e with val:=v })=wroteE es st v:=by
  induction es with
  | nil=>cases he
  | cons x es ih=>
    rw [List.map_cons,List.nodup_cons] at hn
    by_cases hx:x.born=st
    · refine ⟨0,by simp [List.findIdx?_cons,hx],?_⟩
      have hrest:wroteE es st v=es:=by
        unfold wroteE
        conv=>rhs;rw [← List.map_id es]
        refine List.map_congr_left fun y hy=>?_
        rw [if_neg (by rintro rfl;exact hn.1 (List.mem_map.2 ⟨y,hy,hx.symm⟩))];rfl
      have e0:wroteE (x::es) st v=(if x.born=st then { x with val:=v } else x)::wroteE es st v:=rfl
      rw [e0,hrest,if_pos hx]
      simp [List.modify]
    · have he':e∈es:=by
        rcases List.mem_cons.1 he with rfl | h
        · exact absurd hb hx
        · exact h
      obtain ⟨i,h1,h2⟩:=ih hn.2 he'
      refine ⟨i+1,?_,?_⟩
      · rw [List.findIdx?_cons]
        have:((x.born:Int) == (st:Int))=false:=by simp;omega
        rw [this];simp [h1]
      · have e0:wroteE (x::es) st v=(if x.born=st then { x with val:=v } else x)::wroteE es st v:=rfl
        rw [e0,if_neg hx,← h2]
        simp [List.modify]
theorem zgc (es:List MapEntry) (st:Nat) (v:Value):(wroteE es st v).map (·.born)=es.map (·.born):=by
  unfold wroteE
  rw [List.map_map]
  refine List.map_congr_left fun e _=>?_
  simp only [Function.comp]
  split<;>rfl
theorem zlN (es:List MapEntry) (st:Nat) (v:Value):(wroteE es st v).map (·.key)=es.map (·.key):=by
  unfold wroteE
  rw [List.map_map]
  refine List.map_congr_left fun e _=>?_
  simp only [Function.comp]
  split<;>rfl
theorem J.bW (j:Nat) (hh:lk lS j=none) {st:Nat} (hl:lk l j=some ⟨none,.mp g (Is es),[]⟩) (hone:oneMap j j l=true) (hg:w0.heap.size≤g) (hx:ev σ x=some (.map (some g))) (hy:ev σ y=some (.int .i64 (st:Int))) (hz:ev σ z=some v) (hn:(es.map (·.born)).Nodup) {e:MapEntry} (he:e∈es) (hb:e.born=st) (hd:okd N d)
    (hJ:J P ops F w0 M N lS L (putd d undef σ) ((j,⟨none,.mp g (Is (wroteE es st v)),[]⟩)::l)):J P ops F w0 M N lS ((⟨d,.entryStore t x y z,ty,p,af,none⟩,.l)::L) σ l:=
  J.aR rfl hd (ι:=Unit) (fun _=>True) (fun _=>undef) (fun _=>(j,⟨none,.mp g (Is (wroteE es st v)),[]⟩)::l) (fun _ _ hs=>hs.fresh hh)
    (fun a ha w hw=>by
      obtain ⟨esA,clk,hat,hes,hnd,hlt⟩:=zeW hw hl
      have hes:esA.toList=es:=hes
      rw [hes] at hnd hlt
      obtain ⟨i,h1,h2⟩:=zoj hn he hb v
      have hset:=hw.setMap (es':=wroteE es st v) hl hone (fun q=>absurd rfl q) hg clk (by rw [zgc];exact hn) (fun q hq=>by
        have:q.born∈(wroteE es st v).map (·.born):=List.mem_map.2 ⟨q,hq,rfl⟩
        rw [zgc] at this
        obtain ⟨q2,hq2,e2⟩:=List.mem_map.1 this
        rw [← e2];exact hlt q2 hq2)
      have e1:(esA.modify i fun e=>{ e with val:=v })=(wroteE es st v).toArray:=by
        apply Array.ext'
        rw [Array.toList_modify,hes,h2]
      have e2:(esA.findIdx? fun e=>((e.born:Int) == (st:Int)))=some i:=by
        rw [show esA=es.toArray by apply Array.ext';simp [hes],List.findIdx?_toArray];exact h1
      have hrun:(execOp a.eval ⟨d,.entryStore t x y z,ty,p,af,none⟩).run P w=.ok .skip (setObjW w g (.map (wroteE es st v).toArray clk)):=by
        simp only [execOp,ha.eval hx,ha.eval hy,ha.eval hz,Instr.entryStore,Sem.run_bind,Result.andThen_ok,getM hat,asInt,asIntOf,Sem.run_pure,e2,setM _ hat,e1]
      rw [hrun]
      exact ⟨(),trivial,rfl,hset⟩) (fun _ _=>hJ)
end
end Go.Fw
namespace Go.Fw
open Go
structure MI (es:List MapEntry) (cs:List Ch):Prop where
  kn:(es.map (·.key)).Nodup
  ks:∀ e∈es,∃ c∈cs,e.key=spotV c
  vs:∀ e∈es,∃ q:Nat,e.val=.int .i64 (q:Int)∧1≤q∧q≤cs.length
  hs:∀ c∈cs,∃ e∈es,e.key=spotV c
theorem MI.nil:MI [] []:=⟨List.nodup_nil,fun e he=>(by cases he),fun e he=>(by cases he),fun c hc=>(by cases hc)⟩
theorem MI.look {es:List MapEntry} {cs:List Ch} (h:MI es cs) (c:Ch):∃ q:Nat,ValAt es (spotV c) (q:Int)∧q≤cs.length∧(0 < q↔∃ x∈cs,spotV x=spotV c):=by
  by_cases hx:∃ x∈cs,spotV x=spotV c
  · obtain ⟨x,hx1,hx2⟩:=hx
    obtain ⟨e,he,hk⟩:=h.hs x hx1
    obtain ⟨q,hq,h1,h2⟩:=h.vs e he
    exact ⟨q,.inl ⟨e,he,hk.trans hx2,hq⟩,h2,⟨fun _=>⟨x,hx1,hx2⟩,fun _=>h1⟩⟩
  · refine ⟨0,.inr ⟨fun e he q=>?_,rfl⟩,Nat.zero_le _,⟨fun q=>absurd q (Nat.lt_irrefl 0),fun q=>absurd q hx⟩⟩
    obtain ⟨y,hy,hk⟩:=h.ks e he
    exact hx ⟨y,hy,hk.symm.trans q⟩
theorem MI.keys {P:Program} {k ta tb ti tw tu:TypeId} (T:SpotT P k ta tb ti tw tu) {es:List MapEntry} {cs:List Ch} (h:MI es cs) (hk:∀ c∈cs,-9223372036854775808≤c.kind∧c.kind≤9223372036854775807):∀ e∈es,∃ l,keyOf P k e.key=some l:=fun e he=>by
  obtain ⟨c,hc,e1⟩:=h.ks e he
  rw [e1]
  exact zhT T c (hk c hc)
theorem MI.lookOk {P:Program} {k ta tb ti tw tu:TypeId} (T:SpotT P k ta tb ti tw tu) {es:List MapEntry} {cs:List Ch} (h:MI es cs) (hk:∀ c∈cs,-9223372036854775808≤c.kind∧c.kind≤9223372036854775807) {key:Value} {q:Int} (hv:ValAt es key q):∀ r,Is es r→LookOk P k key q r:=fun r hr=>by
  rw [show r=es from hr];exact ⟨h.keys T hk,h.kn,hv⟩
theorem MI.lookTouched {P:Program} {k ta tb ti tw tu:TypeId} (T:SpotT P k ta tb ti tw tu) {es:List MapEntry} {cs:List Ch} (h:MI es cs) (hk:∀ c∈cs,-9223372036854775808≤c.kind∧c.kind≤9223372036854775807) {key:Value} {lt:Lit} (hkey:keyOf P k key=some lt) {q:Int} (hv:ValAt es key q):∀ es2 st,Touched es key es2 st→LookOk P k key q es2:=fun es2 st ht=>by
  rcases ht with ⟨rfl,_⟩ | ⟨rfl,hno⟩
  · exact ⟨h.keys T hk,h.kn,hv⟩
  · refine ⟨fun e he=>?_,?_,?_⟩
    · rcases List.mem_append.1 he with h1 | h1
      · exact h.keys T hk e h1
      · simp at h1;subst h1;exact ⟨lt,hkey⟩
    · rw [List.map_append,List.nodup_append]
      refine ⟨h.kn,by simp,fun a ha b hb=>?_⟩
      simp at hb;subst hb
      obtain ⟨e,he,rfl⟩:=List.mem_map.1 ha
      exact hno e he
    · rcases hv with ⟨e,he,hke,_⟩ | ⟨_,rfl⟩
      · exact absurd hke (hno e he)
      · exact .inl ⟨_,List.mem_append_right _ List.mem_cons_self,rfl,rfl⟩
theorem zgi {es es2:List MapEntry} {key:Value} {st:Nat} (h:Touched es key es2 st):∃ e∈es2,e.key=key∧e.born=st:=by
  rcases h with ⟨rfl,e,he,h1,h2⟩ | ⟨rfl,_⟩
  · exact ⟨e,he,h1,h2⟩
  · exact ⟨_,List.mem_append_right _ List.mem_cons_self,rfl,rfl⟩
theorem MI.next {es es2:List MapEntry} {cs:List Ch} {c:Ch} {st q:Nat} (h:MI es cs) (ht:Touched es (spotV c) es2 st) (hq:q≤cs.length):MI (wroteE es2 st (.int .i64 ((q+1:Nat):Int))) (cs++[c]):=by
  have hkn:(es2.map (·.key)).Nodup:=by
    rcases ht with ⟨rfl,_⟩ | ⟨rfl,hno⟩
    · exact h.kn
    · rw [List.map_append,List.nodup_append]
      refine ⟨h.kn,by simp,fun a ha b hb=>?_⟩
      simp at hb;subst hb
      obtain ⟨e,he,rfl⟩:=List.mem_map.1 ha
      exact hno e he
  have hmem:∀ e∈es2,e∈es∨(e.key=spotV c∧e.born=st):=fun e he=>by
    rcases ht with ⟨rfl,_⟩ | ⟨rfl,_⟩
    · exact .inl he
    · rcases List.mem_append.1 he with h1 | h1
      · exact .inl h1
      · simp at h1;subst h1;exact .inr ⟨rfl,rfl⟩
  have hk2:∀ e∈es2,∃ x∈cs++[c],e.key=spotV x:=fun e he=>by
    rcases hmem e he with h1 | ⟨h1,_⟩
    · obtain ⟨x,hx,e1⟩:=h.ks e h1;exact ⟨x,List.mem_append_left _ hx,e1⟩
    · exact ⟨c,List.mem_append_right _ List.mem_cons_self,h1⟩
  have hwk:=zlN es2 st (.int .i64 ((q+1:Nat):Int))
  refine ⟨by rw [hwk];exact hkn,fun e he=>?_,fun e he=>?_,fun x hx=>?_⟩
  · have:e.key∈es2.map (·.key):=by rw [← hwk];exact List.mem_map.2 ⟨e,he,rfl⟩
    obtain ⟨e2,he2,e3⟩:=List.mem_map.1 this
    rw [← e3];exact hk2 e2 he2
  · simp only [wroteE,List.mem_map] at he
    obtain ⟨e2,he2,rfl⟩:=he
    rw [List.length_append,List.length_singleton]
    by_cases hb:e2.born=st
    · rw [if_pos hb];exact ⟨q+1,rfl,by omega,by omega⟩
    · rw [if_neg hb]
      rcases hmem e2 he2 with h1 | ⟨_,h1⟩
      · obtain ⟨r,h3,h4,h5⟩:=h.vs e2 h1
        exact ⟨r,h3,h4,by omega⟩
      · exact absurd h1 hb
  · have key:∃ e∈es2,e.key=spotV x:=by
      rcases List.mem_append.1 hx with h1 | h1
      · obtain ⟨e,he,e1⟩:=h.hs x h1
        rcases ht with ⟨rfl,_⟩ | ⟨rfl,_⟩
        · exact ⟨e,he,e1⟩
        · exact ⟨e,List.mem_append_left _ he,e1⟩
      · simp at h1;subst h1
        obtain ⟨e,he,e1,_⟩:=zgi ht
        exact ⟨e,he,e1⟩
    obtain ⟨e,he,e1⟩:=key
    have:e.key∈(wroteE es2 st (.int .i64 ((q+1:Nat):Int))).map (·.key):=by rw [hwk];exact List.mem_map.2 ⟨e,he,rfl⟩
    obtain ⟨e3,he3,e4⟩:=List.mem_map.1 this
    exact ⟨e3,he3,e4.trans e1⟩
def CV.meetsAt (a b:CV):Prop:=a.who=b.who∧a.kind=b.kind∧a.key=b.key
instance (a b:CV):Decidable (a.meetsAt b):=by unfold CV.meetsAt;infer_instance
theorem zkK (a b:Ch):spotV a=spotV b↔a.v.meetsAt b.v:=by
  unfold CV.meetsAt Ch.v spotV
  dsimp only
  have hrow:∀ {kd:IntKind} {xs ys:List Nat},rowN kd xs=rowN kd ys→xs=ys:=fun {kd xs ys} h=>by
    unfold rowN at h
    have inj:∀ (xs ys:List Nat),xs.map (fun (n:Nat)=>Value.int kd (n:Int))=ys.map (fun (n:Nat)=>Value.int kd (n:Int))→xs=ys:=by
      intro xs
      induction xs with
      | nil=>intro ys h;cases ys with
        | nil=>rfl
        | cons y ys=>simp at h
      | cons x xs ih=>intro ys h;cases ys with
        | nil=>simp at h
        | cons y ys=>
          simp only [List.map_cons,List.cons.injEq,Value.int.injEq,true_and] at h
          rw [ih ys h.2,show x=y by omega]
    exact inj xs ys h
  constructor
  · intro h
    have h1:ac a.who++(.int .i64 a.kind::wc a.key)=ac b.who++(.int .i64 b.kind::wc b.key):=by
      have:=congrArg Array.toList (Value.agg.inj h);simpa using this
    obtain ⟨h2,h3⟩:=List.append_inj h1 rfl
    rw [List.cons.injEq] at h3
    refine ⟨zds.1 (hrow h2),(Value.int.inj h3.1).2,?_⟩
    have:=zoP a.key b.key
    rw [decide_eq_decide] at this
    exact this.1 (hrow h3.2)
  · rintro ⟨h1,h2,h3⟩
    have e1:ac a.who=ac b.who:=by unfold ac;rw [zds.2 h1]
    have e3:wc a.key=wc b.key:=by
      have:=zoP a.key b.key
      rw [decide_eq_decide] at this
      show rowN .u64 (wl a.key)=rowN .u64 (wl b.key)
      rw [this.2 h3]
    rw [e1,h2,e3]
def apartL (ps qs:List CV):Prop:=∀ b∈qs,¬ ∃ a∈ps,a.meetsAt b
instance (ps qs:List CV):Decidable (apartL ps qs):=by unfold apartL;infer_instance
theorem zoE {ps qs:List Ch} {i:Nat} (hi:i < qs.length) {q:Nat} (hpos:0 < q↔∃ x∈ps,spotV x=spotV (qs.getD i default)) (hq:0 < q):¬ apartL (ps.map Ch.v) (qs.map Ch.v):=fun h=>by
  obtain ⟨x,hx,he⟩:=hpos.1 hq
  refine h (qs.getD i default).v (List.mem_map.2 ⟨_,?_,rfl⟩) ⟨x.v,List.mem_map.2 ⟨x,hx,rfl⟩,(zkK _ _).1 he⟩
  rw [List.getD_eq_getElem?_getD,List.getElem?_eq_getElem hi]
  exact List.getElem_mem hi
theorem zoF {ps qs:List Ch} (h:∀ j,j < qs.length→¬ ∃ x∈ps,spotV x=spotV (qs.getD j default)):apartL (ps.map Ch.v) (qs.map Ch.v):=fun b hb ⟨a,ha,hm⟩=>by
  obtain ⟨y,hy,rfl⟩:=List.mem_map.1 hb
  obtain ⟨x,hx,rfl⟩:=List.mem_map.1 ha
  obtain ⟨j,hj,rfl⟩:=List.mem_iff_getElem.1 hy
  exact h j hj ⟨x,hx,by rw [List.getD_eq_getElem?_getD,List.getElem?_eq_getElem hj];exact (zkK _ _).2 hm⟩
end Go.Fw
namespace Go.Fw
open Go
theorem zsJ {a b:Nat} (h:a < b):cmpZ a b= -1:=if_pos h
theorem zgT {a b:Nat}:cmpZ a b=0↔a=b:=by unfold cmpZ;split<;>(try split)<;>omega
end Go.Fw
namespace Go.Fw
open Go
section
variable {P:Program} {ops:Array Oper} {F:Act→World→Prop} {w0 w w':World} {M:List Nat} {N:Nf} {L:List (Oper×K)} {σ:List (Nat×Value)} {l lS:List (Nat×Ent)} {d:Option Tmp} {ty:TypeId} {p:String} {af:Array Edge} {x y:Operand} {v z:Value} {t:TypeId} {kd:IntKind} {k:K}
  {tm tr tb:TypeId} {a b:Nat} {i j:RowIx} {bs cs:List Nat}
theorem WS.ren (hw:WS w0 M l w) (l':List (Nat×Ent)) (f:Nat→Nat) (hl:∀ k e,lk l' k=some e→lk l (f k)=some e) (hf:∀ k k' e e',lk l' k=some e→lk l' k'=some e'→f k=f k'→k=k'):WS w0 M l' w:=
  ⟨hw.os,hw.tape,hw.output,hw.size,hw.keep,fun k e he=>hw.live _ e (hl k e he),fun k k' e e' g he he' hne hg=>hw.apart _ _ e e' g (hl k e he) (hl k' e' he') (fun h=>hne (hf k k' e e' he he' h)) hg,fun k e g he hg=>hw.own _ e g (hl k e he) hg⟩
end
end Go.Fw
namespace Go.Fw
open Go Go.ChangeShapes Go.WideShapes Go.ChangeAt Go.RowKit
section
variable {P:Program} {W:World} {H:Type} {enc:TypeId×Value→H} {base:Nat} {sp:Nat→Bool} {held:Bool}
theorem znD {α β:Type} {f:α→Option β}:∀ {xs:List α} {ys:List β},xs.mapM f=some ys→xs.length=ys.length∧∀ (i:Nat) (x:α),xs[i]?=some x→∃ y,ys[i]?=some y∧f x=some y
  | [],ys,h=>by simp at h;subst h;simp
  | x::xs,ys,h=>by
    rw [List.mapM_cons] at h
    cases h1:f x with
    | none=>simp [h1] at h
    | some y=>
      cases h2:xs.mapM f with
      | none=>simp [h1,h2] at h
      | some zs=>
        simp [h1,h2] at h
        subst h
        obtain ⟨e,k⟩:=znD h2
        refine ⟨by simp [e],fun i u hu=>?_⟩
        cases i with
        | zero=>simp at hu;subst hu;exact ⟨y,rfl,h1⟩
        | succ i=>exact k i u (by simpa using hu)
theorem zlG {a:Addr} {n:Nat} {cs:List Value} (h:W.cells? base a n=some cs):cs.length=n∧∀ i,i < n→W.cell? (a.add i)=cs[i]?:=by
  unfold World.cells? at h
  split at h
  · obtain ⟨e,k⟩:=znD h
    refine ⟨by rw [← e];simp,fun i hi=>?_⟩
    obtain ⟨y,hy,h2⟩:=k i i (by simp [hi])
    rw [hy,h2]
  · cases h
theorem ztn {n:Int} (h:(Lit.int .u8 n).wf=true):0≤n∧n < 256:=by
  simp [Lit.wf,IntKind.min,IntKind.max,IntKind.signed,IntKind.bits] at h
  omega
theorem ziA {n:Int} (h:(Lit.int .u64 n).wf=true):0≤n∧n < 18446744073709551616:=by
  simp [Lit.wf,IntKind.min,IntKind.max,IntKind.signed,IntKind.bits] at h
  omega
def wval (a b c d:Nat):Nat:=a+18446744073709551616*(b+18446744073709551616*(c+18446744073709551616*d))
theorem zru {a b c d:Nat} (h:a < 18446744073709551616∧b < 18446744073709551616∧c < 18446744073709551616∧d < 18446744073709551616):wval a b c d < 2^256:=by unfold wval;omega
theorem zrv {a b c d:Nat} (h:a < 18446744073709551616∧b < 18446744073709551616∧c < 18446744073709551616∧d < 18446744073709551616):wl (wval a b c d)=[a,b,c,d]:=by
  have e0:lim (wval a b c d) 0=a:=by unfold lim wval;omega
  have e1:lim (wval a b c d) 1=b:=by unfold lim wval;omega
  have e2:lim (wval a b c d) 2=c:=by unfold lim wval;omega
  have e3:lim (wval a b c d) 3=d:=by unfold lim wval;omega
  unfold wl
  rw [e0,e1,e2,e3]
structure WordT (P:Program) (t e:TypeId):Prop where
  arr:P.underlying t=some (.array 4 e)
  int:P.underlying e=some (.int .u64)
  one:P.cellsOf e=1
  four:P.cellsOf t=4
theorem zgg {t e:TypeId} (T:WordT P t e) {fuel:Nat} {cs:List Value} {x:DataW H×List MemPlace} (h:DataW.trod enc P W base sp held fuel t cs=some x):∃ n,n < 2^256∧cs=wc n:=by
  obtain ⟨xs,m,_,_,hl,hxl,hx⟩:=DataW.trod_array T.arr h
  rw [T.four] at hl
  rw [T.one] at hx
  match cs,hl with
  | [c0,c1,c2,c3],_=>
    have get:∀ i,i < 4→∃ n,(([c0,c1,c2,c3].drop (i*1)).take 1)=[.int .u64 n]∧(Lit.int .u64 n).wf=true:=fun i hi=>by
      have h1:=hx i hi
      rw [List.getElem?_eq_getElem (by omega)] at h1
      obtain ⟨n,e1,_,e2⟩:=DataW.trod_int T.int h1
      exact ⟨n,e1,e2⟩
    obtain ⟨n0,e0,f0⟩:=get 0 (by omega)
    obtain ⟨n1,e1,f1⟩:=get 1 (by omega)
    obtain ⟨n2,e2,f2⟩:=get 2 (by omega)
    obtain ⟨n3,e3,f3⟩:=get 3 (by omega)
    simp at e0 e1 e2 e3
    subst e0;subst e1;subst e2;subst e3
    have g0:=ziA f0
    have g1:=ziA f1
    have g2:=ziA f2
    have g3:=ziA f3
    have hb:n0.toNat < 18446744073709551616∧n1.toNat < 18446744073709551616∧n2.toNat < 18446744073709551616∧n3.toNat < 18446744073709551616:=by omega
    refine ⟨wval n0.toNat n1.toNat n2.toNat n3.toNat,zru hb,?_⟩
    rw [wc,zrv hb]
    simp only [rowN,List.map_cons,List.map_nil]
    rw [Int.toNat_of_nonneg g0.1,Int.toNat_of_nonneg g1.1,Int.toNat_of_nonneg g2.1,Int.toNat_of_nonneg g3.1]
end
end Go.Fw
namespace Go.Fw
open Go
section
variable {P:Program} {ops:Array Oper} {F:Act→World→Prop} {w0 w w':World} {M:List Nat} {N:Nf} {L:List (Oper×K)} {σ:List (Nat×Value)} {l lS:List (Nat×Ent)}
  {d:Option Tmp} {ty:TypeId} {p:String} {af:Array Edge} {x:Operand}
end
end Go.Fw
namespace Go.Fw
open Go Go.ChangeShapes Go.WideShapes Go.ChangeAt Go.RowKit
section
variable {P:Program} {ops:Array Oper} {F:Act→World→Prop} {w0 w w':World} {M:List Nat} {N:Nf} {L:List (Oper×K)} {σ:List (Nat×Value)} {l lS:List (Nat×Ent)} {k:K}
  {d:Option Tmp} {ty t:TypeId} {p:String} {af:Array Edge} {x y:Operand}
def EqA (P:Program) (t:TypeId) (len:Nat):Prop:=(∃ e,ArrT P t len e 1∧OneT P e∧P.underlying e=some (.int .u8))∧P.eqGuardType P.depth t=false
theorem zng {len:Nat} (hT:EqA P t len) (xs ys:List Nat) (hx:xs.length=len) (hy:ys.length=len) (w:World):(Op.equal t (.agg (rowN .u8 xs).toArray) (.agg (rowN .u8 ys).toArray)).run P w=.ok (decide (xs=ys)) w:=by
  obtain ⟨⟨e,h1,h2,h3⟩,_⟩:=hT
  exact zfu h1 h2 h3 9998 9999 rfl xs ys hx hy w
theorem J.dx {t':TypeId} {len:Nat} {xs ys:List Nat} (hT:EqA P t len) (hx:ev σ x=some (.agg (rowN .u8 xs).toArray)) (hy:ev σ y=some (.agg (rowN .u8 ys).toArray)) (hlx:xs.length=len) (hly:ys.length=len) (hd:okd N d) (h:J P ops F w0 M N lS L (putd d (.bool (decide (xs=ys))) σ) l):
    J P ops F w0 M N lS ((⟨d,.binOp .eql t x y t',ty,p,af,none⟩,k)::L) σ l:=
  J.aS hx hy hd (fun w=>by
    simp only [Sem.run_bind,run_eqGuard_agg w .eql t x y _ _ hT.2,Result.andThen_ok,binOp,zng hT xs ys hlx hly,Sem.run_pure]) h
theorem J.cz {t':TypeId} {len:Nat} {xs ys:List Nat} (hT:EqA P t len) (hx:ev σ x=some (.agg (rowN .u8 xs).toArray)) (hy:ev σ y=some (.agg (rowN .u8 ys).toArray)) (hlx:xs.length=len) (hly:ys.length=len) (hd:okd N d) (h:J P ops F w0 M N lS L (putd d (.bool (decide (¬ xs=ys))) σ) l):
    J P ops F w0 M N lS ((⟨d,.binOp .neq t x y t',ty,p,af,none⟩,k)::L) σ l:=
  J.aS hx hy hd (fun w=>by
    simp only [Sem.run_bind,run_eqGuard_agg w .neq t x y _ _ hT.2,Result.andThen_ok,binOp,zng hT xs ys hlx hly,Sem.run_pure,decide_not]) h
end
end Go.Fw
namespace Go.Fw
open Go
theorem zbY (cs:List Ch) (i o k:Nat) (h:i < cs.length) (ho:o+k≤35):((rowC cs).drop (i*35+o)).take k=((cs.getD i default).cells.drop o).take k:=by
  rw [← zdb cs i h,← List.drop_drop,List.drop_take,List.take_take,Nat.min_eq_left (by omega)]
theorem zbT (cs:List Ch) (i o:Nat) (h:i < cs.length) (ho:o < 35):(rowC cs)[i*35+o]?=(cs.getD i default).cells[o]?:=zcF Ch.cells_length cs i o h ho
def mk3:List Nat:=[171,172,173]
structure Ch.Lent (W:World) (n:Nat) (B:List (Option Nat)) (c:Ch):Prop where
  kd: -9223372036854775808≤c.kind∧c.kind≤9223372036854775807
  dO:Dg c.oc
  dN:Dg c.nc
  lo:c.oc.length≤1000000000
  ln:c.nc.length≤1000000000
  co:c.oc.length+3≤c.oC
  cn:c.nc.length+3≤c.nC
  fo:Fit W n B c.oA (rowN .u8 (c.oc++mk3))
  fn:Fit W n B c.nA (rowN .u8 (c.nc++mk3))
theorem Ch.Lent.keep {W w:World} {n:Nat} {B B':List (Option Nat)} {c:Ch} (h:c.Lent W n B) (k:Keep W n B w B'):c.Lent w n B':=⟨h.kd,h.dO,h.dN,h.lo,h.ln,h.co,h.cn,k _ _ h.fo,k _ _ h.fn⟩
theorem Fit.pre {W:World} {n:Nat} {B:List (Option Nat)} {A:Option Addr} {xs ys:List Value} (h:Fit W n B A (xs++ys)):Fit W n B A xs:=fun i x hx=>h i x (by
  have:i < xs.length:=(List.getElem?_eq_some_iff.1 hx).1
  rw [List.getElem?_append_left this];exact hx)
theorem Ch.Lent.ok {W:World} {n:Nat} {B:List (Option Nat)} {c:Ch} (h:c.Lent W n B):c.Ok W n B:=⟨h.kd,h.dO,h.dN,by have:=h.lo;omega,by have:=h.ln;omega,Fit.pre (ys:=rowN .u8 mk3) (by rw [← zcZ];exact h.fo),Fit.pre (ys:=rowN .u8 mk3) (by rw [← zcZ];exact h.fn)⟩
def AllL (W:World) (n:Nat) (B:List (Option Nat)) (cs:List Ch):Prop:=∀ c∈cs,c.Lent W n B
theorem AllL.keep {W w:World} {n:Nat} {B B':List (Option Nat)} {cs:List Ch} (h:AllL W n B cs) (k:Keep W n B w B'):AllL w n B' cs:=fun c hc=>(h c hc).keep k
theorem AllL.ok {W:World} {n:Nat} {B:List (Option Nat)} {cs:List Ch} (h:AllL W n B cs):AllC W n B cs:=fun c hc=>(h c hc).ok
theorem AllL.nil {W:World} {n:Nat} {B:List (Option Nat)}:AllL W n B []:=fun c hc=>by cases hc
theorem AllL.snoc {W:World} {n:Nat} {B:List (Option Nat)} {cs:List Ch} {c:Ch} (h:AllL W n B cs) (hc:c.Lent W n B):AllL W n B (cs++[c]):=fun x hx=>by
  rcases List.mem_append.1 hx with h1 | h1
  · exact h x h1
  · rw [List.mem_singleton.1 h1];exact hc
def markC:Ch:=⟨0,771,0,0,0,[],[],none,0,none,0⟩
theorem ziP (A:Option Addr) (c s:Nat):(if c=0 then A else A.map (·.add (0*s)))=A:=by
  rw [Nat.zero_mul]
  split
  · rfl
  · cases A<;>simp [Addr.add]
theorem RowIx.Ok.cap_ge {r:RowIx} {s n:Nat} (h:r.Ok s n):n≤r.cap:=h.le
instance:DecidableEq CV:=fun a b=>decidable_of_iff (a.who=b.who∧a.kind=b.kind∧a.key=b.key∧a.old=b.old∧a.new=b.new∧a.oc=b.oc∧a.nc=b.nc) ⟨fun ⟨h1,h2,h3,h4,h5,h6,h7⟩=>by
  cases a;cases b;dsimp only at *; subst h1 h2 h3 h4 h5 h6 h7;rfl,fun h=>by subst h;exact ⟨rfl,rfl,rfl,rfl,rfl,rfl,rfl⟩⟩
theorem znd {ps qs:List Ch} (hl:ps.length=qs.length):(∀ i,i < ps.length→(ps.getD i default).v=(qs.getD i default).v)↔ps.map Ch.v=qs.map Ch.v:=by
  constructor
  · intro h
    apply List.ext_getElem
    · simp [hl]
    · intro i h1 h2
      rw [List.length_map] at h1 h2
      have:=h i h1
      rw [List.getD_eq_getElem?_getD,List.getElem?_eq_getElem h1,List.getD_eq_getElem?_getD,List.getElem?_eq_getElem h2] at this
      simpa using this
  · intro h i hi
    have:=zcR ps i hi
    rw [← zcR ps i hi,← zcR qs i (by omega),h]
theorem v_ext {a b:Ch} (h1:adL a.who=adL b.who) (h2:a.kind=b.kind) (h3:a.key%2^256=b.key%2^256) (h4:a.old%2^256=b.old%2^256) (h5:a.new%2^256=b.new%2^256) (h6:a.oc=b.oc) (h7:a.nc=b.nc):a.v=b.v:=by
  unfold Ch.v;rw [zds.1 h1,h2,h3,h4,h5,h6,h7]
def Ch.lent1 (c:Ch) (q1:RowIx):Ch:=⟨c.who,c.kind,c.key,c.old,c.new,c.oc,c.nc,hdOf q1.id,q1.cap,c.nA,c.nC⟩
def Ch.lent (c:Ch) (q1 q2:RowIx):Ch:=⟨c.who,c.kind,c.key,c.old,c.new,c.oc,c.nc,hdOf q1.id,q1.cap,hdOf q2.id,q2.cap⟩
theorem Ch.lent_ok {W:World} {n:Nat} {B:List (Option Nat)} {c:Ch} {q1 q2:RowIx} (h:c.Ok W n B) (hs:c.oc.length≤1000000000∧c.nc.length≤1000000000) (h1:Fit W n B (hdOf q1.id) (rowN .u8 (c.oc++mk3))) (h2:c.oc.length+3≤q1.cap) (h3:Fit W n B (hdOf q2.id) (rowN .u8 (c.nc++mk3))) (h4:c.nc.length+3≤q2.cap):(c.lent q1 q2).Lent W n B:=
  ⟨h.kd,h.dO,h.dN,hs.1,hs.2,h2,h4,h1,h3⟩
theorem zpx {ds:List Ch} (hs:∀ c∈ds,c.oc.length≤262144∧c.nc.length≤262144) {i:Nat} (hi:i < ds.length):(ds.getD i default).oc.length≤1000000000∧(ds.getD i default).nc.length≤1000000000:=by
  have:=hs (ds.getD i default) (by
    rw [List.getD_eq_getElem?_getD,List.getElem?_eq_getElem hi];exact List.getElem_mem hi)
  omega
end Go.Fw
namespace Go.Fw
open Go
theorem zmH (a b:Nat):wcmp a b=cmpZ (a%2^256) (b%2^256):=by unfold wcmp cmpZ;split<;>(try split)<;>(try split)<;>omega
theorem zhr (a b:CV):spotZ b a= - spotZ a b:=by
  by_cases h1:a.who=b.who
  · by_cases h2:a.kind=b.kind
    · rw [zcJ h1 h2,zcJ h1.symm h2.symm,ziD]
    · rw [zcI h1 h2,zcI h1.symm (fun q=>h2 q.symm)];omega
  · rw [zdC h1,zdC (fun q=>h1 q.symm)]
    unfold cmpZ
    split<;>split<;>(try split)<;>(try split)<;>omega
end Go.Fw
namespace Go.Fw
open Go
structure Sl where
  key:Nat
  val:Nat
instance:Inhabited Sl:=⟨⟨0,0⟩⟩
def Sl.cells (s:Sl):List Value:=wc s.key++wc s.val
theorem Sl.cells_length (s:Sl):s.cells.length=8:=rfl
theorem Sl.cells_one (s:Sl):∀ u∈s.cells,u.oneCell'=true:=fun u hu=>by
  simp only [Sl.cells,List.mem_append] at hu
  rcases hu with h | h
  · exact zhl _ u h
  · exact zhl _ u h
def Sl.v (s:Sl):Nat×Nat:=(s.key%2^256,s.val%2^256)
def rowS (cs:List Sl):List Value:=cs.flatMap Sl.cells
theorem zaO (cs:List Sl):(rowS cs).length=cs.length*8:=zaF Sl.cells_length cs
theorem zey (xs ys:List Sl):rowS (xs++ys)=rowS xs++rowS ys:=List.flatMap_append
theorem zdK (xs:List Sl) (c:Sl):rowS (xs++[c])=rowS xs++c.cells:=by rw [zey];simp [rowS]
theorem zfP (cs:List Sl) (i:Nat) (h:i < cs.length):((rowS cs).drop (i*8)).take 8=(cs.getD i default).cells:=zcC Sl.cells_length cs i h
theorem zkW (cs:List Sl):∀ u∈rowS cs,u.oneCell'=true:=zpW Sl.cells_one cs
theorem zkV (cs:List Sl) (i o k:Nat) (h:i < cs.length) (ho:o+k≤8):((rowS cs).drop (i*8+o)).take k=((cs.getD i default).cells.drop o).take k:=by
  rw [← zfP cs i h,← List.drop_drop,List.drop_take,List.take_take,Nat.min_eq_left (by omega)]
structure Ac where
  who:Nat
  nonce:Nat
  bal:Nat
  code:List Nat
  sl:List Sl
  cA:Option Addr
  cC:Nat
  sA:Option Addr
  sC:Nat
instance:Inhabited Ac:=⟨⟨0,0,0,[],[],none,0,none,0⟩⟩
def Ac.cells (a:Ac):List Value:=ac a.who++(.int .u64 ((a.nonce:Nat):Int)::(wc a.bal++[.slice a.cA a.code.length a.cC,.slice a.sA a.sl.length a.sC]))
theorem Ac.cells_length (a:Ac):a.cells.length=27:=rfl
theorem Ac.cells_one (c:Ac):∀ u∈c.cells,u.oneCell'=true:=fun u hu=>by
  simp only [Ac.cells,List.mem_append,List.mem_cons,List.not_mem_nil,or_false] at hu
  rcases hu with h | rfl | h | rfl | rfl
  · exact zrn _ u h
  · rfl
  · exact zhl _ u h
  · rfl
  · rfl
structure Ac.Ok (W:World) (n:Nat) (B:List (Option Nat)) (a:Ac):Prop where
  hn:a.nonce < 18446744073709551616
  dC:Dg a.code
  lc:a.code.length≤1000000000000
  ls:a.sl.length≤1000000000
  fc:Fit W n B a.cA (rowN .u8 a.code)
  fs:Fit W n B a.sA (rowS a.sl)
theorem Ac.Ok.keep {W w:World} {n:Nat} {B B':List (Option Nat)} {c:Ac} (h:c.Ok W n B) (k:Keep W n B w B'):c.Ok w n B':=⟨h.hn,h.dC,h.lc,h.ls,k _ _ h.fc,k _ _ h.fs⟩
def AllA (W:World) (n:Nat) (B:List (Option Nat)) (cs:List Ac):Prop:=∀ c∈cs,c.Ok W n B
theorem AllA.keep {W w:World} {n:Nat} {B B':List (Option Nat)} {cs:List Ac} (h:AllA W n B cs) (k:Keep W n B w B'):AllA w n B' cs:=fun c hc=>(h c hc).keep k
theorem AllA.nil {W:World} {n:Nat} {B:List (Option Nat)}:AllA W n B []:=fun c hc=>by cases hc
theorem AllA.snoc {W:World} {n:Nat} {B:List (Option Nat)} {cs:List Ac} {c:Ac} (h:AllA W n B cs) (hc:c.Ok W n B):AllA W n B (cs++[c]):=fun x hx=>by
  rcases List.mem_append.1 hx with h1 | h1
  · exact h x h1
  · rw [List.mem_singleton.1 h1];exact hc
theorem AllA.get {W:World} {n:Nat} {B:List (Option Nat)} {cs:List Ac} (h:AllA W n B cs) {i:Nat} (hi:i < cs.length):(cs.getD i default).Ok W n B:=h _ (by
  rw [List.getD_eq_getElem?_getD,List.getElem?_eq_getElem hi];exact List.getElem_mem hi)
theorem AllA.head {W:World} {n:Nat} {B:List (Option Nat)} {x:Ac} {xs:List Ac} (h:AllA W n B (x::xs)):x.Ok W n B:=h x List.mem_cons_self
theorem AllA.tail {W:World} {n:Nat} {B:List (Option Nat)} {x:Ac} {xs:List Ac} (h:AllA W n B (x::xs)):AllA W n B xs:=fun c hc=>h c (List.mem_cons_of_mem _ hc)
def rowA (cs:List Ac):List Value:=cs.flatMap Ac.cells
theorem zcn (cs:List Ac):(rowA cs).length=cs.length*27:=zaF Ac.cells_length cs
theorem zgv (xs ys:List Ac):rowA (xs++ys)=rowA xs++rowA ys:=List.flatMap_append
theorem zgu (xs:List Ac) (c:Ac):rowA (xs++[c])=rowA xs++c.cells:=by rw [zgv];simp [rowA]
theorem zfQ (cs:List Ac) (i:Nat) (h:i < cs.length):((rowA cs).drop (i*27)).take 27=(cs.getD i default).cells:=zcC Ac.cells_length cs i h
theorem zeS (cs:List Ac) (i o k:Nat) (h:i < cs.length) (ho:o+k≤27):((rowA cs).drop (i*27+o)).take k=((cs.getD i default).cells.drop o).take k:=by
  rw [← zfQ cs i h,← List.drop_drop,List.drop_take,List.take_take,Nat.min_eq_left (by omega)]
theorem zaN (cs:List Ac) (i o:Nat) (h:i < cs.length) (ho:o < 27):(rowA cs)[i*27+o]?=(cs.getD i default).cells[o]?:=zcF Ac.cells_length cs i o h ho
structure AV where
  who:Nat
  nonce:Nat
  bal:Nat
  code:List Nat
  sl:List (Nat×Nat)
instance:Inhabited AV:=⟨⟨0,0,0,[],[]⟩⟩
def Ac.v (a:Ac):AV:=⟨a.who%256^20,a.nonce,a.bal%2^256,a.code,a.sl.map Sl.v⟩
def Ac.void (a:Ac):Prop:=a.nonce=0∧a.bal%2^256=0∧a.code.length=0∧a.sl.length=0
instance (a:Ac):Decidable a.void:=by unfold Ac.void;infer_instance
theorem X.ak {P:Program} {N:Nf} {σ:List (Nat×Value)} {w0:World} {M:List Nat} {l:List (Nat×Ent)} {fn:Func} {R:Ending→World→Prop} {r s t:ResultVar} {v u y:Value} (hr:fn.results=#[r,s,t]) (hv:RV P w0 M σ l r v) (hu:RV P w0 M σ l s u) (hy:RV P w0 M σ l t y) (h:∀ w,WS w0 M l w→R (.returned (.tuple #[v,u,y])) w) (hD:N.D=[]:=by rfl):X w0 M N (bodyPost P fn R) .ret σ l:=fun _ a w ha hw=>
  ⟨ha.defers.trans hD,_,by simp [zcf,hr,hv.run ha hw,hu.run ha hw,hy.run ha hw],h w hw⟩
def Ac.setN (a:Ac) (x:Nat):Ac:=⟨a.who,if sizeN x > 8 then 0 else lim x 0,a.bal,a.code,a.sl,a.cA,a.cC,a.sA,a.sC⟩
def Ac.setB (a:Ac) (x:Nat):Ac:=⟨a.who,a.nonce,x,a.code,a.sl,a.cA,a.cC,a.sA,a.sC⟩
end Go.Fw
namespace Go.Fw
open Go
section
variable {P:Program} {ops:Array Oper} {F:Act→World→Prop} {w0 w w':World} {M:List Nat} {N:Nf} {L:List (Oper×K)} {σ:List (Nat×Value)} {l lS:List (Nat×Ent)} {d:Option Tmp} {ty:TypeId} {p:String} {af:Array Edge} {x y:Operand} {v z:Value} {t:TypeId} {kd:IntKind} {k:K}
theorem J.cG {g o:Nat} {cs:List Value} (hc:Cs w0 (some ⟨g,0,none⟩) cs) (ho:Off M (some ⟨g,0,none⟩)) (hx:ev σ x=some (.pointer (some ⟨g,o,none⟩))) (ht:OneT P t) (hv:cs[o]?=some v) (hd:okd N d)
    (hJ:J P ops F w0 M N lS L (putd d v σ) l):J P ops F w0 M N lS ((⟨d,.load t x,ty,p,af,none⟩,.s)::L) σ l:=
  J.bM hc ho (i:=o) (by rw [hx];simp [zbF]) ht hv hd hJ
end
end Go.Fw
namespace Go.Fw
open Go
def kC (a b:Ac):Nat→Ch
  | 1=>⟨a.who,1,0,a.nonce,b.nonce,[],[],none,0,none,0⟩
  | 2=>⟨a.who,2,0,a.bal,b.bal,[],[],none,0,none,0⟩
  | 3=>⟨a.who,3,0,0,0,a.code,b.code,a.cA,a.cC,b.cA,b.cC⟩
  | _=>⟨a.who,0,0,0,0,[],[],none,0,none,0⟩
def bt (a b:Ac):Nat→List CV
  | 0=>[]
  | i+1=>bt a b i++(if (kC a b i).v.idle then [] else [(kC a b i).v])
theorem zqh {a b:Ac} {i:Nat} (h:(kC a b i).v.idle):bt a b (i+1)=bt a b i:=by rw [bt,if_pos h,List.append_nil]
theorem zou {a b:Ac} {i:Nat} (h:¬ (kC a b i).v.idle):bt a b (i+1)=bt a b i++[(kC a b i).v]:=by rw [bt,if_neg h]
theorem bt_0 (a b:Ac):bt a b (0+1)=bt a b 0:=zqh ⟨rfl,rfl⟩
theorem zaX:Dg []:=fun _ h=>(by cases h)
theorem zeB {W:World} {n:Nat} {B:List (Option Nat)} {a b:Ac} (ha:a.Ok W n B) (hb:b.Ok W n B):∀ i,(kC a b i).Ok W n B
  | 1=>⟨⟨by show (-9223372036854775808:Int)≤1;decide,by show (1:Int)≤9223372036854775807;decide⟩,zaX,zaX,Nat.zero_le _,Nat.zero_le _,Fit.nil,Fit.nil⟩
  | 2=>⟨⟨by show (-9223372036854775808:Int)≤2;decide,by show (2:Int)≤9223372036854775807;decide⟩,zaX,zaX,Nat.zero_le _,Nat.zero_le _,Fit.nil,Fit.nil⟩
  | 3=>⟨⟨by show (-9223372036854775808:Int)≤3;decide,by show (3:Int)≤9223372036854775807;decide⟩,ha.dC,hb.dC,ha.lc,hb.lc,ha.fc,hb.fc⟩
  | 0=>⟨⟨by show (-9223372036854775808:Int)≤0;decide,by show (0:Int)≤9223372036854775807;decide⟩,zaX,zaX,Nat.zero_le _,Nat.zero_le _,Fit.nil,Fit.nil⟩
  | _+4=>⟨⟨by show (-9223372036854775808:Int)≤0;decide,by show (0:Int)≤9223372036854775807;decide⟩,zaX,zaX,Nat.zero_le _,Nat.zero_le _,Fit.nil,Fit.nil⟩
end Go.Fw
namespace Go.Fw
open Go
section
variable {P:Program} {ops:Array Oper} {F:Act→World→Prop} {w0 w w':World} {M:List Nat} {N:Nf} {L:List (Oper×K)} {σ:List (Nat×Value)} {l lS:List (Nat×Ent)} {d:Option Tmp} {ty:TypeId} {p:String} {af:Array Edge} {x y:Operand} {v z:Value} {t:TypeId} {kd:IntKind} {k:K} {n:Int}
theorem J.aW {len e s i m:Nat} {cs vs:List Value} (ht:ArrT P t len e s) (he:AggT P e m) (hx:ev σ x=some (.agg cs.toArray)) (hy:ev σ y=some (.int kd n)) (h0:0≤n) (h1:n < len) (hi:n.toNat=i) (hv:(cs.drop (i*s)).take m=vs) (hd:okd N d)
    (hJ:J P ops F w0 M N lS L (putd d (.agg vs.toArray) σ) l):J P ops F w0 M N lS ((⟨d,.index t x y,ty,p,af,none⟩,k)::L) σ l:=
  J.aC rfl hd _ (fun a ha w=>by
    subst hi
    subst hv
    have:=zdG (P:=P) he cs.toArray (n.toNat*s) w
    simp [execOp,ha.eval hx,ha.eval hy,Instr.index,asIntOf,run_underlying ht.1,h0,h1,zav ht.2,this]) hJ
theorem zep (w:World) (e:Nat) (t:TypeId) {ps rs:Array TypeId} {b:Bool} (f:Fn) (fs cs:Array Value) (h:P.underlying t=some (.func ps rs b)):(Op.equalIn (e+1) t (.func f fs cs) .nilFunc).run P w=.ok false w:=by
  simp [Op.equalIn,run_underlying h]
theorem zeo (w:World) (e:Nat) (t:TypeId) {ps rs:Array TypeId} {b:Bool} (h:P.underlying t=some (.func ps rs b)):(Op.equalIn (e+1) t .nilFunc .nilFunc).run P w=.ok true w:=by
  simp [Op.equalIn,run_underlying h]
theorem J.bI {t':TypeId} {ps rs:Array TypeId} {b:Bool} {f:Fn} {fs cs:Array Value} (ht:P.underlying t=some (.func ps rs b)) (hx:ev σ x=some (.func f fs cs)) (hy:ev σ y=some .nilFunc) (hd:okd N d) (h:J P ops F w0 M N lS L (putd d (.bool false) σ) l):
    J P ops F w0 M N lS ((⟨d,.binOp .eql t x y t',ty,p,af,none⟩,k)::L) σ l:=
  J.aS hx hy hd (fun w=>by
    rw [eqGuard_at_func]
    have he:(Op.equal t (.func f fs cs) .nilFunc).run P w=.ok false w:=zep w 9999 t f fs cs ht
    simp only [Sem.run_bind,Sem.run_pure,Result.andThen_ok,binOp,he]) h
theorem J.cO {t':TypeId} {ps rs:Array TypeId} {b:Bool} (ht:P.underlying t=some (.func ps rs b)) (hx:ev σ x=some .nilFunc) (hy:ev σ y=some .nilFunc) (hd:okd N d) (h:J P ops F w0 M N lS L (putd d (.bool true) σ) l):
    J P ops F w0 M N lS ((⟨d,.binOp .eql t x y t',ty,p,af,none⟩,k)::L) σ l:=
  J.aS hx hy hd (fun w=>by
    rw [eqGuard_at_nilFunc]
    have he:(Op.equal t .nilFunc .nilFunc).run P w=.ok true w:=zeo w 9999 t ht
    simp only [Sem.run_bind,Sem.run_pure,Result.andThen_ok,binOp,he]) h
end
end Go.Fw
namespace Go.Fw
open Go
section
variable {P:Program} {ops:Array Oper} {F:Act→World→Prop} {w0 w w':World} {M:List Nat} {N:Nf} {L:List (Oper×K)} {σ:List (Nat×Value)} {l lS:List (Nat×Ent)} {d:Option Tmp} {ty:TypeId} {p:String} {af:Array Edge} {x y:Operand} {v z:Value} {t:TypeId} {kd:IntKind} {k:K} {n:Int} {Q:Exit→Act→World→Prop}
theorem J.bL (h:Nat) {g:Nat} {cs cs':List Value} {f:FuncId} {xs:Array Operand} {tys:Array TypeId} {args cap:List Value} (hl:lk l h=some ⟨some g,t,cs⟩) (hh:lk lS h=none) (hf:FnOk P f) (hy:ev σ y=some (.func (.func f) #[] cap.toArray)) (hx:evs σ xs.toList=some args) (hd:okd N d)
    (spec:∀ w,WS w0 M l w→Calls P f (args++cap).toArray w fun e w'=>e=.returned v∧WS w [g] [(0,⟨some g,t,cs'⟩)] w')
    (hJ:J P ops F w0 M N lS L (putd d v σ) ((h,⟨some g,t,cs'⟩)::l)):
    J P ops F w0 M N lS ((⟨d,.call ⟨.value y,xs,tys⟩,ty,p,af,none⟩,.l)::L) σ l:=
  J.bF hf hy hx hd (ι:=Unit) (fun _=>True) (fun _=>v) [g] (fun _=>[(h,⟨some g,t,cs'⟩)]) (fun w hw=>(spec w hw).mono fun e w' ⟨he,h2⟩=>⟨(),trivial,he,h2.only 0 h rfl⟩)
    (fun _ _ q hq=>by
      simp at hq;subst hq
      exact ⟨h,_,⟨some q,t,cs'⟩,hl,rfl,by simp [lk]⟩)
    (fun i j e he=>by
      rw [zae] at he
      split at he
      · rename_i hk;subst hk;exact hh
      · simp [lk] at he) (fun _ _=>hJ)
theorem zdv {ro:Option Nat} {pn:List PanicEntry→World→Prop} {D:List Deferred} {L2:List Oper} (hF:∀ a w,F a w→wpListIn (WF ro) 0 P ops Q L2 a w) (hp:∀ ch a w',a.defers=D→pn ch w'→Q (.panic ch) a w'):∀ (L:List (Oper×K)) (a:Act) (l:List (Nat×Ent)) (w:World),(∀ x∈L,∀ ρ,x.1.semAt ro ρ=execOp ρ x.1)→a.defers=D→WS w0 M l w→Sub lS l→JJ P ops pn F w0 M lS L a l→wpListIn (WF ro) 0 P ops Q (L.map (·.1)++L2) a w
  | [],a,_,w,_,_,hw,_,h=>hF _ _ (h w hw)
  | (o,k)::L,a,l,w,hx,hd,hw,hS,h=>by
    simp only [List.map_cons,List.cons_append,wpListIn]
    exact zcU (hx _ List.mem_cons_self) (fun ch w'=>hp ch a w' hd) h hw hS fun v l' w' h1 h2 h3=>zdv hF hp L _ l' w' (fun x hm=>hx x (List.mem_cons_of_mem _ hm)) ((zdW _ _ _).trans hd) h1 h2 h3
def DQ (P:Program) (ops:Array Oper) (N:Nf) (Q:Exit→Act→World→Prop) (L2:List Oper) (a:Act) (w:World):Prop:=Pq N Q→wpListIn (WF N.ro) 0 P ops Q L2 a w
theorem T.ah {id:Nat} {ops:Array Oper} [nd:Nd N.ro ops] (m:Nat) (ks:List K) (L1 L2:List Oper) (h1:ops.toList.take m=L1) (h2:ops.toList.drop m=L2) (hn:L1.length=ks.length) (h:J P ops (DQ P ops N Q L2) w0 M N [] (L1.zip ks) σ l):T P w0 M N Q (.region id ops false) σ l:=
  fun hq a w ha hw=>wpIn_region_list (by
    have:=zdv (ro:=N.ro) (Q:=Q) (L2:=L2) (D:=N.D) (fun a w h=>h hq) (fun ch a w' h1 h2=>hq ch a w' h1 h2) _ a l w (fun x hx=>nd.ok x.1 (List.mem_of_mem_take (i:=m) (by rw [h1];exact (List.of_mem_zip (by exact hx)).1))) ha.defers hw (Sub.nil _) (h (Sub.nil _) a ha)
    rwa [List.map_fst_zip (by omega),← h1,← h2,List.take_append_drop] at this)
theorem J.cx {f:FuncId} {cap:List Value} {tys:Array TypeId} (pn':List PanicEntry→World→Prop) (hro:N.ro=none) (hpn:Pq N Q→Pq ⟨N.n,⟨.fn (.func f) cap.toArray,#[]⟩::N.D,N.ro,pn'⟩ Q) (hy:ev σ y=some (.func (.func f) #[] cap.toArray)) (h:X w0 M ⟨N.n,⟨.fn (.func f) cap.toArray,#[]⟩::N.D,N.ro,pn'⟩ Q .normal σ l):
    J P ops (DQ P ops N Q [⟨none,.defer ⟨.value y,#[],tys⟩,ty,p,af,none⟩]) w0 M N lS [] σ l:=fun hlS a ha w hw hq=>by
  simp only [wpListIn]
  rw [if_pos (by simp [Region.wanted])]
  have hr:(execOp a.eval ⟨none,.defer ⟨.value y,#[],tys⟩,ty,p,af,none⟩).run P w=.ok (.defer ⟨.fn (.func f) cap.toArray,#[]⟩) w:=by
    simp [execOp,resolve,ha.eval hy,Deferred.ofValue]
  refine ⟨fun _ _=>trivial,?_⟩
  show Oper.uponIn _ _ _ _ _ _ _ ((Oper.semAt N.ro a.eval _).run P w)
  rw [hro,Oper.semAt_none,hr]
  exact h (hpn hq) _ w ⟨ha.size,by show _::a.defers=_;rw [ha.defers],ha.get⟩ hw
theorem J.bP {f:FuncId} {cap:List Value} {tys:Array TypeId} (hy:ev σ y=some (.func (.func f) #[] cap.toArray)) (h:X w0 M ⟨N.n,⟨.fn (.func f) cap.toArray,#[]⟩::N.D,N.ro,fun _ _=>False⟩ Q .normal σ l) (hro:N.ro=none:=by rfl):
    J P ops (DQ P ops N Q [⟨none,.defer ⟨.value y,#[],tys⟩,ty,p,af,none⟩]) w0 M N lS [] σ l:=J.cx (fun _ _=>False) hro (fun _=>Pq.no fun _ _=>id) hy h
theorem zkq {f:FuncId} {fn:Func} {c:Code} {args:List Value} {u:FrameMode} {R:Ending→World→Prop} (M:List Nat) (N:Nat) (l:List (Nat×Ent)) (hf:P.funcs[f]?=some fn) (hb:fn.body=some c) (hN:fn.ntmps=N)
    (hle:args.length≤N) (hw:WS w M l w) (h:T P w M (Nf.of N) (bodyPost P fn R) c (argσ 0 args) l):CallsD P f args.toArray u w fun e u' w'=>u'=u∧R e w':=
  callsD_of_wp hf hb (wpIn_wide.1 (h (Pq.no fun _ _=>id) _ _ (zeg hN rfl hle) hw))
theorem zgU {f:FuncId} {fn:Func} {c:Code} {args:List Value} {R:Ending→World→Prop} (M:List Nat) (N:Nat) (l:List (Nat×Ent)) (hf:P.funcs[f]?=some fn) (hb:fn.body=some c) (hN:fn.ntmps=N)
    (hle:args.length≤N) (hw:WS w M l w) (h:T P w M (Nf.of N) (bodyPostD P fn R) c (argσ 0 args) l):Calls P f args.toArray w R:=
  calls_of_wp_defers hf hb (wpIn_wide.1 (h (Pq.no fun _ _=>id) _ _ (zeg hN rfl hle) hw))
theorem X.au {fn:Func} {R:Ending→World→Prop} {r s:ResultVar} {v u:Value} {f:FuncId} {cap:List Value} {M':List Nat} {l2:List (Nat×Ent)} (hr:fn.results=#[r,s]) (hD:N.D=[⟨.fn (.func f) cap.toArray,#[]⟩]) (hf:FnOk P f)
    (spec:∀ w,WS w0 M l w→CallsD P f cap.toArray .returning w fun e u' w'=>u'=.returning∧(∃ z,e=.returned z)∧WS w M' l2 w')
    (hM:∀ g∈M',∃ k e e2,lk l k=some e∧e.id=some g∧lk l2 k=some e2)
    (hv:RV P w0 M σ (l2++l) r v) (hu:RV P w0 M σ (l2++l) s u) (h:∀ w,WS w0 M (l2++l) w→R (.returned (.tuple #[v,u])) w):X w0 M N (bodyPostD P fn R) .ret σ l:=fun _ a w ha hw=>by
  show Leaves P fn a.tmps R a.defers .returning w
  rw [ha.defers.trans hD]
  refine leaves_cons (fun q=>by cases q) (f:=f) (args:=cap.toArray) (by simp [invoke,zaD hf]) ((spec w hw).mono ?_)
  rintro e u' w' ⟨rfl,⟨z,rfl⟩,h2⟩
  have hw2:=hw.join h2 hM
  exact ⟨_,by simp [zcf,hr,hv.run ha hw2,hu.run ha hw2],h _ hw2⟩
end
def Ac.coded (a:Ac) (zs:List Nat) (r:RowIx):Ac:=⟨a.who,a.nonce,a.bal,zs,a.sl,hdOf r.id,r.cap,a.sA,a.sC⟩
end Go.Fw
namespace Go.Fw
open Go
section
variable {P:Program} {w0 w:World} {M:List Nat} {l:List (Nat×Ent)} {A:Option Addr}
theorem Cs.pre {xs ys:List Value} (h:Cs w A (xs++ys)):Cs w A xs:=fun i x hx=>h i x (by
  have:i < xs.length:=(List.getElem?_eq_some_iff.1 hx).1
  rw [List.getElem?_append_left this];exact hx)
theorem zrN {a:Ac} {az:List Ac} (h:Cs w A (rowA (a::az))):Cs w A (rowN .u8 (adL a.who)):=Cs.pre (ys:=_) (show Cs w A (ac a.who++_) from by
  have:rowA (a::az)=ac a.who++((.int .u64 ((a.nonce:Nat):Int)::(wc a.bal++[.slice a.cA a.code.length a.cC,.slice a.sA a.sl.length a.sC]))++rowA az):=by
    rw [← List.append_assoc];rfl
  rw [this] at h
  exact h)
theorem zrM {c:Ch} {cs:List Ch} (h:Cs w A (rowC (c::cs))):Cs w A (rowN .u8 (adL c.who)):=Cs.pre (ys:=_) (show Cs w A (ac c.who++_) from by
  have:rowC (c::cs)=ac c.who++((.int .i64 c.kind::(wc c.key++(wc c.old++(wc c.new++[.slice c.oA c.oc.length c.oC,.slice c.nA c.nc.length c.nC]))))++rowC cs):=by
    rw [← List.append_assoc];rfl
  rw [this] at h
  exact h)
theorem zrV (hw:WS w0 M l w) {a b j ga gb:Nat} {ta tb t:TypeId} {ca cb cs:List Value} {r:RowIx} (h1:lk l a=some ⟨some ga,ta,ca⟩) (h2:lk l b=some ⟨some gb,tb,cb⟩) (hj:lk l j=some (r.ent t cs)) (hja:a≠j) (hjb:b≠j):Off [ga,gb] (hdOf r.id):=fun ad had hm=>by
  cases hid:r.id with
  | none=>rw [hid] at had;cases had
  | some g=>
    rw [hid] at had
    cases had
    have k1:=hw.apart a j _ _ ga h1 hj hja rfl
    have k2:=hw.apart b j _ _ gb h2 hj hjb rfl
    simp only [RowIx.ent,hid] at k1 k2
    simp only [List.mem_cons,List.not_mem_nil,or_false] at hm
    rcases hm with q | q
    · exact k1 (by rw [q])
    · exact k2 (by rw [q])
theorem WS.two54 {a b:Nat} {ta tb:TypeId} {ca cb:List Value} (h1:Ent.At w ⟨some a,ta,ca⟩) (h2:Ent.At w ⟨some b,tb,cb⟩) (hne:a≠b):WS w [a,b] [(5,⟨some a,ta,ca⟩),(4,⟨some b,tb,cb⟩)] w:=
  (WS.two h1 h2 hne).pairOf 0 1 rfl rfl (by decide) 5 4 (by decide)
theorem hM54 {a b:Nat} {e1 e2 f1 f2:Ent} (h1:lk l 5=some e1) (h2:lk l 4=some e2) (i1:e1.id=some a) (i2:e2.id=some b):∀ g∈[a,b],∃ k e e',lk l k=some e∧e.id=some g∧lk [(5,f1),(4,f2)] k=some e':=fun g hg=>by
  simp only [List.mem_cons,List.not_mem_nil,or_false] at hg
  rcases hg with rfl | rfl
  · exact ⟨5,e1,f1,h1,i1,rfl⟩
  · exact ⟨4,e2,f2,h2,i2,rfl⟩
end
theorem znp {w:World} {A:Option Addr} {a:Ac} (h:Cs w A a.cells):Cs w A (rowA [a]):=by rw [show rowA [a]=a.cells++[] from rfl,List.append_nil];exact h
theorem row1C {w:World} {A:Option Addr} {c:Ch} (h:Cs w A c.cells):Cs w A (rowC [c]):=by rw [show rowC [c]=c.cells++[] from rfl,List.append_nil];exact h
def Ac.ofBal (x:Nat):Ac:=⟨0,0,x,[],[],none,0,none,0⟩
theorem zps {W:World} {n:Nat} {B:List (Option Nat)} (x:Nat):(Ac.ofBal x).Ok W n B:=⟨by show 0 < _;decide,zaX,Nat.zero_le _,Nat.zero_le _,fun i x hx=>by simp [Ac.ofBal,rowN] at hx,fun i x hx=>by simp [Ac.ofBal,rowS] at hx⟩
def CV.ofBal (x y:Nat):CV:=⟨0,2,0,x,y,[],[]⟩
def Ch.ofBal (x y:Nat):Ch:=⟨0,2,0,x,y,[],[],none,0,none,0⟩
theorem zqg {W:World} {n:Nat} {B:List (Option Nat)} (x y:Nat):(Ch.ofBal x y).Ok W n B:=⟨⟨by show (-9223372036854775808:Int)≤2;decide,by show (2:Int)≤9223372036854775807;decide⟩,zaX,zaX,Nat.zero_le _,Nat.zero_le _,Fit.nil,Fit.nil⟩
theorem znz {xs:List Ch} (h:xs.map Ch.v=[]):xs=[]:=List.map_eq_nil_iff.1 h
theorem zsc {x y:Nat} (h:x≠y):(CV.ofBal x y).may:=⟨⟨by show (1:Int)≤2;decide,by show (2:Int)≤4;decide,fun q=>absurd (show (2:Int)=1 from q) (by decide),fun q=>absurd (show (2:Int)=3 from q) (by decide),fun _=>⟨rfl,rfl⟩,.inl rfl⟩,fun q=>h q.1⟩
theorem zlp {x y:Nat} (h:x≠y):formZ [CV.ofBal x y]=0:=by
  show formF none [CV.ofBal x y]=0
  unfold formF
  rw [if_neg (fun q=>q (zsc h))]
  rfl
theorem zoZ (x y u v:Nat):spotZ (CV.ofBal x y) (CV.ofBal u v)=0:=(zcJ rfl rfl).trans rfl
theorem zmy:joinZ [CV.ofBal 5 2] [CV.ofBal 2 5]=([],0):=
  zef (zlp (by decide)) (zlp (by decide)) (by rw [zdR (zoZ _ _ _ _) ⟨rfl,rfl⟩ ⟨rfl,rfl⟩,zbJ])
theorem zky:¬ apartL [CV.ofBal 5 2] [CV.ofBal 2 5]:=fun h=>h _ List.mem_cons_self ⟨_,List.mem_cons_self,rfl,rfl,rfl⟩
theorem zoD (ps:List CV):apartL ps []:=fun b hb=>by cases hb
end Go.Fw
