/-
  Texts that the statement stands on, one behind the other: plain lemmas and walks of functions.
  No condition.
-/
import Derived.Laws.StructEq
import Derived.Test.YtlllcafedekojaaGreatDoorChecked
import Derived.Test.YtlllcafedekojaaGreatDoorMha
set_option linter.unusedVariables false
set_option maxRecDepth 20000
set_option maxHeartbeats 16000000
namespace Go.Fw
open Go
def CV.sp (c:CV):Nat×Int×Nat:=(c.who,c.kind,c.key)
def NfL (cs:List CV):Prop:=∀ c∈cs,c.key < 2^256
theorem NfL.head {x:CV} {xs:List CV} (h:NfL (x::xs)):x.key < 2^256:=h x List.mem_cons_self
theorem NfL.tail {x:CV} {xs:List CV} (h:NfL (x::xs)):NfL xs:=fun c hc=>h c (List.mem_cons_of_mem _ hc)
theorem znK {x y:Nat} (hx:x < 2^256) (hy:y < 2^256):wcmp x y=cmpZ x y:=by
  rw [zmH,Nat.mod_eq_of_lt hx,Nat.mod_eq_of_lt hy]
theorem zpa {a b:CV} (ha:a.key < 2^256) (hb:b.key < 2^256):spotZ a b=0↔a.sp=b.sp:=by
  unfold CV.sp
  rw [Prod.mk.injEq,Prod.mk.injEq]
  by_cases h1:a.who=b.who
  · by_cases h2:a.kind=b.kind
    · rw [zcJ h1 h2,znK ha hb,zgT]
      exact ⟨fun q=>⟨h1,h2,q⟩,fun q=>q.2.2⟩
    · rw [zcI h1 h2]
      exact ⟨fun q=>absurd (by omega) h2,fun q=>absurd q.2.1 h2⟩
  · rw [zdC h1,zgT]
    exact ⟨fun q=>absurd q h1,fun q=>absurd q.1 h1⟩
theorem zfo {a b:CV} (ha:a.key < 2^256) (hb:b.key < 2^256):spotZ a b < 0↔a.who < b.who∨a.who=b.who∧(a.kind < b.kind∨a.kind=b.kind∧a.key < b.key):=by
  have hc:∀ x y:Nat,cmpZ x y < 0↔x < y:=fun x y=>by unfold cmpZ;split<;>(try split)<;>omega
  by_cases h1:a.who=b.who
  · by_cases h2:a.kind=b.kind
    · rw [zcJ h1 h2,znK ha hb,hc]
      exact ⟨fun q=>.inr ⟨h1,.inr ⟨h2,q⟩⟩,fun q=>by omega⟩
    · rw [zcI h1 h2]
      exact ⟨fun q=>.inr ⟨h1,.inl (by omega)⟩,fun q=>by omega⟩
  · rw [zdC h1,hc]
    exact ⟨fun q=>.inl q,fun q=>by omega⟩
theorem zhq {a b c:CV} (ha:a.key < 2^256) (hb:b.key < 2^256) (hc:c.key < 2^256) (h1:spotZ a b < 0) (h2:spotZ b c < 0):spotZ a c < 0:=by
  rw [zfo ha hb] at h1
  rw [zfo hb hc] at h2
  rw [zfo ha hc]
  omega
theorem ziO {a b:CV} (h:a.sp=b.sp):a.who=b.who∧a.kind=b.kind∧a.key=b.key:=by
  unfold CV.sp at h
  rw [Prod.mk.injEq,Prod.mk.injEq] at h
  exact h
theorem ziN {a b c:CV} (h:a.sp=b.sp):spotZ a c=spotZ b c:=by
  obtain ⟨h1,h2,h3⟩:=ziO h
  unfold spotZ
  rw [h1,h2,h3]
theorem zmX {a b c:CV} (h:a.sp=b.sp):spotZ c a=spotZ c b:=by
  obtain ⟨h1,h2,h3⟩:=ziO h
  unfold spotZ
  rw [h1,h2,h3]
def Ord (cs:List CV):Prop:=cs.Pairwise (fun a b=>spotZ a b < 0)
def Above (a:CV) (cs:List CV):Prop:=∀ c∈cs,spotZ a c < 0
theorem zjk:∀ (cs:List CV) (p:Option CV) (hn:NfL cs) (hp:∀ q,p=some q→q.key < 2^256),formF p cs=0↔(∀ c∈cs,c.may)∧Ord cs∧(∀ q,p=some q→Above q cs)
  | [],p,hn,hp=>⟨fun _=>⟨fun c hc=>(by cases hc),List.Pairwise.nil,fun q _ c hc=>(by cases hc)⟩,fun _=>rfl⟩
  | x::cs,p,hn,hp=>by
    have ih:=zjk cs (some x) hn.tail (fun q hq=>by cases hq;exact hn.head)
    unfold formF
    constructor
    · intro h
      split at h
      · cases h
      · rename_i hm
        split at h
        · cases h
        · rename_i hb
          obtain ⟨h1,h2,h3⟩:=ih.1 h
          have hx:=h3 x rfl
          refine ⟨fun c hc=>?_,List.pairwise_cons.2 ⟨hx,h2⟩,fun q hq c hc=>?_⟩
          · rcases List.mem_cons.1 hc with rfl | hc
            · exact Decidable.not_not.1 hm
            · exact h1 c hc
          · subst hq
            have hqx:spotZ q x < 0:=by
              simp only [badO,decide_eq_true_eq] at hb
              omega
            rcases List.mem_cons.1 hc with rfl | hc
            · exact hqx
            · exact zhq (hp q rfl) hn.head (hn.tail c hc) hqx (hx c hc)
    · rintro ⟨h1,h2,h3⟩
      obtain ⟨h4,h5⟩:=List.pairwise_cons.1 h2
      rw [if_neg (fun q=>q (h1 x List.mem_cons_self)),if_neg]
      · exact ih.2 ⟨fun c hc=>h1 c (List.mem_cons_of_mem _ hc),h5,fun q hq=>by cases hq;exact h4⟩
      · cases p with
        | none=>simp [badO]
        | some q=>
          have:=h3 q rfl x List.mem_cons_self
          simp only [badO,decide_eq_true_eq]
          omega
theorem zpM {cs:List CV} (hn:NfL cs):formZ cs=0↔(∀ c∈cs,c.may)∧Ord cs:=by
  unfold formZ
  rw [zjk cs none hn (fun q hq=>by cases hq)]
  exact ⟨fun h=>⟨h.1,h.2.1⟩,fun h=>⟨h.1,h.2,fun q hq=>by cases hq⟩⟩
theorem zee {C:CV→Prop}:∀ (az bs l:List CV) (ha:∀ c∈az,C c) (hb:∀ c∈bs,C c) (hC:∀ a b,C a→C b→C (a.then b)) (h:joinL az bs=some l),∀ c∈l,C c
  | [],bs,l,ha,hb,hC,h=>by rw [zbJ] at h;cases h;exact hb
  | a::az,[],l,ha,hb,hC,h=>by rw [zcP] at h;cases h;exact ha
  | a::az,b::bs,l,ha,hb,hC,h=>by
    have ha2:∀ c∈az,C c:=fun c hc=>ha c (List.mem_cons_of_mem _ hc)
    have hb2:∀ c∈bs,C c:=fun c hc=>hb c (List.mem_cons_of_mem _ hc)
    have push:∀ {x:CV} {o:Option (List CV)},C x→o.map (x::·)=some l→(∀ m,o=some m→∀ c∈m,C c)→∀ c∈l,C c:=fun {x o} hx ho hm c hc=>by
      cases o with
      | none=>cases ho
      | some m=>
        cases ho
        rcases List.mem_cons.1 hc with rfl | hc
        · exact hx
        · exact hm m rfl c hc
    by_cases h1:spotZ a b < 0
    · rw [zli a az (b::bs) (.inr ⟨b,bs,rfl,h1⟩)] at h
      exact push (ha a List.mem_cons_self) h (fun m hm=>zee az (b::bs) m ha2 hb hC hm)
    · by_cases h2:0 < spotZ a b
      · rw [zlh b (a::az) bs (.inr ⟨a,az,rfl,h2⟩)] at h
        exact push (hb b List.mem_cons_self) h (fun m hm=>zee (a::az) bs m ha hb2 hC hm)
      · have h3:spotZ a b=0:=by omega
        by_cases h4:a.meets b
        · by_cases h5:(a.then b).idle
          · rw [zdR h3 h4 h5] at h
            exact zee az bs l ha2 hb2 hC h
          · rw [zfc h3 h4 h5] at h
            exact push (hC a b (ha a List.mem_cons_self) (hb b List.mem_cons_self)) h (fun m hm=>zee az bs m ha2 hb2 hC hm)
        · rw [zid h3 h4] at h
          cases h
termination_by az bs=>az.length+bs.length
def at_ (s:Nat×Int×Nat):List CV→Option CV
  | []=>none
  | c::cs=>if c.sp=s then some c else at_ s cs
theorem zbV {s:Nat×Int×Nat} {c:CV} {cs:List CV} (h:¬ c.sp=s):at_ s (c::cs)=at_ s cs:=by rw [at_,if_neg h]
theorem zbD {s:Nat×Int×Nat} {c:CV} {cs:List CV} (h:c.sp=s):at_ s (c::cs)=some c:=by rw [at_,if_pos h]
theorem zuD {s:Nat×Int×Nat}:∀ {cs:List CV} {c:CV},at_ s cs=some c→c.sp=s∧c∈cs
  | [],c,h=>by cases h
  | x::cs,c,h=>by
    unfold at_ at h
    split at h
    · rename_i hx;cases h;exact ⟨hx,List.mem_cons_self⟩
    · obtain ⟨h1,h2⟩:=zuD h
      exact ⟨h1,List.mem_cons_of_mem _ h2⟩
theorem zbE {a:CV} {cs:List CV} (ha:a.key < 2^256) (hn:NfL cs) (h:Above a cs):at_ a.sp cs=none:=by
  cases hc:at_ a.sp cs with
  | none=>rfl
  | some c=>
    obtain ⟨h1,h2⟩:=zuD hc
    have h3:=h c h2
    have h4:=(zpa ha (hn c h2)).2 h1.symm
    omega
def J1:Option CV→Option CV→Option CV
  | none,y=>y
  | some a,none=>some a
  | some a,some b=>if (a.then b).idle then none else some (a.then b)
theorem ztc (x:Option CV):J1 x none=x:=by cases x<;>rfl
theorem Ord.head {x:CV} {xs:List CV} (h:Ord (x::xs)):Above x xs:=(List.pairwise_cons.1 h).1
theorem Ord.tail {x:CV} {xs:List CV} (h:Ord (x::xs)):Ord xs:=(List.pairwise_cons.1 h).2
theorem zso {az bs l:List CV} (ha:NfL az) (hb:NfL bs) (h:joinL az bs=some l):NfL l:=zee az bs l ha hb (fun a b h1 _=>h1) h
theorem zfC {x:CV} {az bs l:List CV} (ha:Above x az) (hb:Above x bs) (h:joinL az bs=some l):Above x l:=
  zee (C:=fun c=>spotZ x c < 0) az bs l ha hb (fun a b h1 _=>by rw [zmX (show (a.then b).sp=a.sp from rfl)];exact h1) h
theorem zem {x b:CV} {bs:List CV} (hx:x.key < 2^256) (hb:b.key < 2^256) (hn:NfL bs) (h:spotZ x b < 0) (ho:Above b bs):Above x (b::bs):=fun c hc=>by
  rcases List.mem_cons.1 hc with rfl | hc
  · exact h
  · exact zhq hx hb (hn c hc) h (ho c hc)
theorem zdQ:∀ (az bs l:List CV) (ha:NfL az) (hb:NfL bs) (oa:Ord az) (ob:Ord bs) (h:joinL az bs=some l),
    Ord l∧∀ s,at_ s l=J1 (at_ s az) (at_ s bs)∧(∀ a b,at_ s az=some a→at_ s bs=some b→a.meets b)
  | [],bs,l,ha,hb,oa,ob,h=>by
    rw [zbJ] at h
    cases h
    exact ⟨ob,fun s=>⟨rfl,fun a b q=>by cases q⟩⟩
  | a::az,[],l,ha,hb,oa,ob,h=>by
    rw [zcP] at h
    cases h
    exact ⟨oa,fun s=>⟨(ztc _).symm,fun a b _ q=>by cases q⟩⟩
  | a::az,b::bs,l,ha,hb,oa,ob,h=>by
    by_cases h1:spotZ a b < 0
    · rw [zli a az (b::bs) (.inr ⟨b,bs,rfl,h1⟩)] at h
      cases hm:joinL az (b::bs) with
      | none=>rw [hm] at h;cases h
      | some m=>
        rw [hm] at h
        cases h
        obtain ⟨o1,s1⟩:=zdQ az (b::bs) m ha.tail hb oa.tail ob hm
        have hab:Above a (b::bs):=zem ha.head hb.head hb.tail h1 ob.head
        refine ⟨List.pairwise_cons.2 ⟨zfC oa.head hab hm,o1⟩,fun s=>?_⟩
        by_cases hs:a.sp=s
        · subst hs
          have hn:=zbE ha.head hb hab
          rw [hn,ztc]
          exact ⟨by simp [at_],fun _ _ _ q=>by cases q⟩
        · obtain ⟨s2,s3⟩:=s1 s
          exact ⟨by rw [zbV hs,s2,zbV hs],fun x y hx hy=>by rw [zbV hs] at hx;exact s3 x y hx hy⟩
    · by_cases h2:0 < spotZ a b
      · rw [zlh b (a::az) bs (.inr ⟨a,az,rfl,h2⟩)] at h
        have h1':spotZ b a < 0:=by rw [zhr];omega
        cases hm:joinL (a::az) bs with
        | none=>rw [hm] at h;cases h
        | some m=>
          rw [hm] at h
          cases h
          obtain ⟨o1,s1⟩:=zdQ (a::az) bs m ha hb.tail oa ob.tail hm
          have hab:Above b (a::az):=zem hb.head ha.head ha.tail h1' oa.head
          refine ⟨List.pairwise_cons.2 ⟨zfC hab ob.head hm,o1⟩,fun s=>?_⟩
          by_cases hs:b.sp=s
          · subst hs
            have hn:=zbE hb.head ha hab
            rw [hn]
            exact ⟨by simp [at_,J1],fun _ _ q=>by cases q⟩
          · obtain ⟨s2,s3⟩:=s1 s
            exact ⟨by rw [zbV hs,s2,zbV (cs:=bs) hs],fun x y hx hy=>by rw [zbV hs] at hy;exact s3 x y hx hy⟩
      · have h3:spotZ a b=0:=by omega
        have hsp:=(zpa ha.head hb.head).1 h3
        have hna:at_ a.sp az=none:=zbE ha.head ha.tail oa.head
        have hnb:at_ a.sp bs=none:=by rw [hsp];exact zbE hb.head hb.tail ob.head
        have hba:Above a bs:=fun c hc=>by rw [ziN hsp];exact ob.head c hc
        by_cases h4:a.meets b
        · by_cases h5:(a.then b).idle
          · rw [zdR h3 h4 h5] at h
            obtain ⟨o1,s1⟩:=zdQ az bs l ha.tail hb.tail oa.tail ob.tail h
            refine ⟨o1,fun s=>?_⟩
            obtain ⟨s2,s3⟩:=s1 s
            by_cases hs:a.sp=s
            · subst hs
              refine ⟨?_,fun x y hx hy=>?_⟩
              · rw [s2,hna,hnb,zbD rfl,zbD hsp.symm]
                simp [J1,h5]
              · rw [zbD rfl] at hx
                rw [zbD hsp.symm] at hy
                cases hx;cases hy;exact h4
            · refine ⟨?_,fun x y hx hy=>?_⟩
              · rw [s2,zbV hs,zbV (c:=b) (by rw [← hsp];exact hs)]
              · rw [zbV hs] at hx
                rw [zbV (by rw [← hsp];exact hs)] at hy
                exact s3 x y hx hy
          · rw [zfc h3 h4 h5] at h
            cases hm:joinL az bs with
            | none=>rw [hm] at h;cases h
            | some m=>
              rw [hm] at h
              cases h
              obtain ⟨o1,s1⟩:=zdQ az bs m ha.tail hb.tail oa.tail ob.tail hm
              have hab:Above (a.then b) m:=fun c hc=>by
                rw [ziN (show (a.then b).sp=a.sp from rfl)]
                exact zfC oa.head hba hm c hc
              refine ⟨List.pairwise_cons.2 ⟨hab,o1⟩,fun s=>?_⟩
              obtain ⟨s2,s3⟩:=s1 s
              by_cases hs:a.sp=s
              · subst hs
                refine ⟨?_,fun x y hx hy=>?_⟩
                · rw [zbD (show (a.then b).sp=a.sp from rfl),zbD rfl,zbD hsp.symm]
                  simp [J1,h5]
                · rw [zbD rfl] at hx
                  rw [zbD hsp.symm] at hy
                  cases hx;cases hy;exact h4
              · refine ⟨?_,fun x y hx hy=>?_⟩
                · rw [zbV (show ¬ (a.then b).sp=s from hs),s2,zbV (c:=a) hs,zbV (c:=b) (by rw [← hsp];exact hs)]
                · rw [zbV hs] at hx
                  rw [zbV (by rw [← hsp];exact hs)] at hy
                  exact s3 x y hx hy
        · rw [zid h3 h4] at h
          cases h
termination_by az bs=>az.length+bs.length
theorem zrj:∀ (ps qs:List CV) (hp:NfL ps) (hq:NfL qs) (op:Ord ps) (oq:Ord qs) (h:∀ s,at_ s ps=at_ s qs),ps=qs
  | [],[],_,_,_,_,_=>rfl
  | [],q::qs,_,_,_,_,h=>by have:=h q.sp;simp [at_] at this
  | p::ps,[],_,_,_,_,h=>by have:=h p.sp;simp [at_] at this
  | p::ps,q::qs,hp,hq,op,oq,h=>by
    have hpq:p.sp=q.sp:=by
      rcases Int.lt_trichotomy (spotZ p q) 0 with h1 | h1 | h1
      · have h2:=h p.sp
        rw [zbD rfl,zbE hp.head hq (zem hp.head hq.head hq.tail h1 oq.head)] at h2
        cases h2
      · exact (zpa hp.head hq.head).1 h1
      · have h2:=h q.sp
        rw [zbE hq.head hp (zem hq.head hp.head hp.tail (by rw [zhr];omega) op.head),zbD rfl] at h2
        cases h2
    have he:p=q:=by
      have h2:=h p.sp
      rw [zbD rfl,zbD hpq.symm] at h2
      exact Option.some.inj h2
    subst he
    congr 1
    refine zrj ps qs hp.tail hq.tail op.tail oq.tail (fun s=>?_)
    by_cases hs:p.sp=s
    · subst hs
      rw [zbE hp.head hp.tail op.head,zbE hp.head hq.tail oq.head]
    · have h2:=h s
      rwa [zbV hs,zbV hs] at h2
end Go.Fw
namespace Go.Fw
open Go Go.ChangeShapes Go.WideShapes Go.ChangeAt Go.RowKit
section
variable {P:Program} {W:World} {H:Type} {enc:TypeId×Value→H} {base:Nat} {sp:Nat→Bool} {held:Bool}
theorem zlT {t e:TypeId} (ht:P.underlying t=some (.slice e)) (he:P.underlying e=some (.int .u8)) (hc:P.cellsOf e=1) {fuel:Nat} {cs:List Value} {x:DataW H×List MemPlace} (h:DataW.trod enc P W base sp held fuel t cs=some x):
    ∃ (A:Option Addr) (c:Nat) (xs:List Nat),cs=[.slice A xs.length c]∧Cs W A (rowN .u8 xs)∧Dg xs∧xs.length≤c∧c≤maxLen:=by
  rcases DataW.trod_slice ht h with ⟨h0,_⟩ | ⟨a,len,cap,elems,rest,n,_,h0,_,hb,hl,hm,hlen,hel,_,_⟩
  · exact ⟨none,0,[],h0,Cs.nil _ _,Dg.nil,Nat.le_refl _,Nat.zero_le _⟩
  · subst h0
    rw [hc] at hel
    have each:∀ i,i < len→∃ n:Nat,n < 256∧W.cell? (a.add i)=some (.int .u8 (n:Int)):=fun i hi=>by
      have h1:=hel i hi
      rw [List.getElem?_eq_getElem (by omega)] at h1
      cases hc2:W.cells? base (a.add (i*1)) 1 with
      | none=>rw [hc2] at h1;cases h1
      | some cs=>
        rw [hc2] at h1
        obtain ⟨n,e1,_,e2⟩:=DataW.trod_int he h1
        obtain ⟨_,e3⟩:=zlG hc2
        have e4:=e3 0 (by omega)
        rw [e1,Addr.add_add] at e4
        have:=ztn e2
        refine ⟨n.toNat,by omega,?_⟩
        rw [Int.toNat_of_nonneg this.1]
        simpa using e4
    let f:Nat→Nat:=fun i=>if h:i < len then (each i h).choose else 0
    have hf1:∀ i,i < len→f i < 256∧W.cell? (a.add i)=some (.int .u8 (f i:Int)):=fun i hi=>by
      have:=(each i hi).choose_spec
      simp only [f,dif_pos hi]
      exact this
    refine ⟨some a,cap,(List.range len).map f,by simp,fun i x hx=>⟨a,rfl,?_⟩,fun y hy=>?_,by simpa using hl,hm⟩
    · have hi:i < len:=by
        have:=(List.getElem?_eq_some_iff.1 hx).1
        simpa [rowN] using this
      rw [(hf1 i hi).2,← hx]
      simp [rowN,hi]
    · simp only [List.mem_map,List.mem_range] at hy
      obtain ⟨i,hi,rfl⟩:=hy
      exact (hf1 i hi).1
end
end Go.Fw
namespace Go.Fw
open Go Go.ChangeShapes Go.WideShapes Go.ChangeAt Go.RowKit
section
variable {P:Program} {W:World} {H:Type} {enc:TypeId×Value→H} {base:Nat} {sp:Nat→Bool} {held:Bool}
theorem zkH:∀ {ds:List (DataW H)} {e:TypeId} {i:Nat} {d:DataW H},ds[i]?=some d→∀ n∈d.weights P e,n∈DataW.weightsAll P e ds
  | [],e,i,d,h=>by simp at h
  | x::ds,e,0,d,h=>fun n hn=>by
    simp at h;subst h
    simp only [DataW.weightsAll]
    exact List.mem_append_left _ hn
  | x::ds,e,i+1,d,h=>fun n hn=>by
    simp only [DataW.weightsAll]
    exact List.mem_append_right _ (zkH (by simpa using h) n hn)
theorem zge:∀ {ts:List TypeId} {ds:List (DataW H)} {i:Nat} {t:TypeId} {d:DataW H},ts[i]?=some t→ds[i]?=some d→∀ n∈d.weights P t,n∈DataW.weightsEach P ts ds
  | [],_,i,t,d,h,_=>by simp at h
  | _::_,[],i,t,d,_,h=>by simp at h
  | u::ts,x::ds,0,t,d,ht,h=>fun n hn=>by
    simp at h ht;subst h;subst ht
    simp only [DataW.weightsEach]
    exact List.mem_append_left _ hn
  | u::ts,x::ds,i+1,t,d,ht,h=>fun n hn=>by
    simp only [DataW.weightsEach]
    exact List.mem_append_right _ (zge (by simpa using ht) (by simpa using h) n hn)
def Light (P:Program) (t:TypeId) (d:DataW H):Prop:=∀ n∈d.weights P t,n≤reachBytes
theorem Light.each {ts:List TypeId} {ds:List (DataW H)} (h:(DataW.weightsEach P ts ds).all (·≤reachBytes)=true) {i:Nat} {t:TypeId} {d:DataW H} (ht:ts[i]?=some t) (hd:ds[i]?=some d):Light P t d:=fun n hn=>
  of_decide_eq_true (List.all_eq_true.1 h n (zge ht hd n hn))
theorem zjB {t e:TypeId} (ht:P.underlying t=some (.slice e)) (he:P.underlying e=some (.int .u8)) (hc:P.cellsOf e=1) (hb:P.bytesOf e=1) {fuel:Nat} {cs:List Value} {x:DataW H×List MemPlace} (h:DataW.trod enc P W base sp held fuel t cs=some x) (hL:Light P t x.1):
    ∃ (A:Option Addr) (c:Nat) (xs:List Nat),cs=[.slice A xs.length c]∧Cs W A (rowN .u8 xs)∧Dg xs∧xs.length≤1000000000000000:=by
  obtain ⟨A,c,xs,h1,h2,h3,h4,h5⟩:=zlT ht he hc h
  refine ⟨A,c,xs,h1,h2,h3,?_⟩
  rcases DataW.trod_slice ht h with ⟨h0,_⟩ | ⟨a,len,cap,elems,rest,n,_,h0,hx,_,_,_,hlen,_,_,_⟩
  · rw [h1] at h0
    simp only [List.cons.injEq,Value.slice.injEq,and_true] at h0
    omega
  · rw [h1] at h0
    simp only [List.cons.injEq,Value.slice.injEq,and_true] at h0
    have h6:=hL ((elems.length+rest.length)*P.bytesOf e) (by rw [hx];simp [DataW.weights,ht])
    rw [hb] at h6
    simp only [reachBytes] at h6
    omega
theorem zmO {ta tb:TypeId} (ht:P.underlying ta=some (.array 20 tb)) (h20:P.cellsOf ta=20) (he:P.underlying tb=some (.int .u8)) (hc:P.cellsOf tb=1) {fuel:Nat} {cs:List Value} {x:DataW H×List MemPlace} (h:DataW.trod enc P W base sp held fuel ta cs=some x):∃ n,n < 256^20∧cs=ac n:=by
  obtain ⟨xs,m,_,_,hl,hxl,hx⟩:=DataW.trod_array ht h
  rw [h20] at hl
  rw [hc] at hx
  have each:∀ i,i < 20→∃ q:Nat,q < 256∧cs[i]?=some (.int .u8 (q:Int)):=fun i hi=>by
    have h1:=hx i hi
    rw [List.getElem?_eq_getElem (by omega)] at h1
    obtain ⟨q,e1,_,e2⟩:=DataW.trod_int he h1
    have:=ztn e2
    refine ⟨q.toNat,by omega,?_⟩
    rw [Int.toNat_of_nonneg this.1]
    have e3:=congrArg (fun l:List Value=>l[0]?) e1
    simpa using e3
  let f:Nat→Nat:=fun i=>if h:i < 20 then (each i h).choose else 0
  have hf1:∀ i,i < 20→f i < 256∧cs[i]?=some (.int .u8 (f i:Int)):=fun i hi=>by
    have:=(each i hi).choose_spec
    simp only [f,dif_pos hi]
    exact this
  obtain ⟨a,ha,hb⟩:=zoL ((List.range 20).map f) (by simp) (fun y hy=>by
    simp only [List.mem_map,List.mem_range] at hy
    obtain ⟨i,hi,rfl⟩:=hy
    exact (hf1 i hi).1)
  refine ⟨a,ha,?_⟩
  unfold ac
  rw [hb]
  apply List.ext_getElem?
  intro i
  rcases Nat.lt_or_ge i 20 with hi | hi
  · rw [(hf1 i hi).2];simp [rowN,hi]
  · rw [List.getElem?_eq_none (by omega),List.getElem?_eq_none (by simp [rowN];omega)]
theorem zlz {A:Option Addr} {cs:List Value} (h:Cs W A cs):Fit W W.heap.size [] A cs:=fun i x hx=>by
  obtain ⟨ad,h1,h2⟩:=h i x hx
  refine ⟨ad,h1,h2,fun q=>(by cases q),fun q=>?_⟩
  unfold World.cell? at h2
  simp only [Addr.add_block] at h2
  rw [Array.getElem?_eq_none (by omega)] at h2
  cases h2
end
end Go.Fw
namespace Go.Fw
open Go
theorem lentRow {W:World} {n:Nat} {B:List (Option Nat)} {A:Option Addr} {xs:List Ch} (h:Fit W n B A (rowC (xs++[markC]))):Fit W n B A (rowC xs):=by
  rw [zez] at h
  exact h.pre
theorem znC (xs:List Ch):xs.map (fun c=>c.v.turn)=(xs.map Ch.v).map CV.turn:=by rw [List.map_map];rfl
theorem zeZ {xs ys:List Ch} (h:xs.map Ch.v=ys.map (fun c=>c.v.turn)):xs.length=ys.length:=by
  have:=congrArg List.length h
  simpa using this
theorem zgf {x y:List Ch} {vs:List CV} (h:x.map Ch.v=y.map (fun c=>c.v.turn)) (h2:y.map Ch.v=vs):x.map Ch.v=vs.map CV.turn:=by
  rw [h,znC,h2]
end Go.Fw
namespace Go.Fw
open Go
section
variable {P:Program} {ops:Array Oper} {F:Act→World→Prop} {w0 w w':World} {M:List Nat} {N:Nf} {L:List (Oper×K)} {σ:List (Nat×Value)} {l lS:List (Nat×Ent)} {d:Option Tmp} {ty:TypeId} {p:String} {af:Array Edge} {x y:Operand} {v z:Value} {t tw:TypeId} {k:K}
structure SlEq (P:Program) (t tw:TypeId):Prop where
  fs : (P.fieldsOf t).toList.map (fun f => (f.name, f.type, f.offset)) = [("Key", tw, 0), ("Value", tw, 4)]
  und:P.underlying t=some (.struct (P.fieldsOf t))
  held:P.stoodInHeld t=false
  guard:P.eqGuardType P.depth t=false
  word:EqT P tw
  agg:AggT P tw 4
theorem zft (hT:EqT P t) (a b:Nat) (w:World):(Op.equalIn 9999 t (W a) (W b)).run P w=.ok (decide (a%2^256=b%2^256)) w:=by
  obtain ⟨⟨e,h1,h2,h3⟩,_⟩:=hT
  rw [← zoP]
  exact zfu h1 h2 h3 9997 9998 rfl (wl a) (wl b) rfl rfl w
theorem ztB (h:AggT P tw 4) (s:Sl) (w:World):(part tw s.cells.toArray 0).run P w=.ok (W s.key) w:=by
  rw [zdG h];rfl
theorem zqx (h:AggT P tw 4) (s:Sl) (w:World):(part tw s.cells.toArray 4).run P w=.ok (W s.val) w:=by
  rw [zdG h];rfl
theorem zpf (T:SlEq P t tw) (a b:Sl) (w:World):(Op.equalIn 10000 t (.agg a.cells.toArray) (.agg b.cells.toArray)).run P w=.ok (decide (a.v=b.v)) w:=by
  rw [run_equalIn_struct w 9999 t _ _ T.und T.held]
  have hf:=T.fs
  match hl:(P.fieldsOf t).toList,hf with
  | [f1,f2],hf=>
    simp only [List.map_cons,List.map_nil,List.cons.injEq,Prod.mk.injEq,and_true] at hf
    obtain ⟨⟨n1,t1,o1⟩,n2,t2,o2⟩:=hf
    have h1 : f1.name ≠ "_" := by rw [n1]; decide
    have h2 : f2.name ≠ "_" := by rw [n2]; decide
    simp only [Op.eqFields,if_pos h1,if_pos h2,t1,t2,o1,o2,Sem.run_bind,ztB T.agg,zft T.word,Result.andThen_ok]
    unfold Sl.v
    by_cases q1:a.key%2^256=b.key%2^256
    · by_cases q2:a.val%2^256=b.val%2^256
      · simp [q1,q2,Sem.run_bind,zqx T.agg,zft T.word]
      · simp [q1,q2,Sem.run_bind,zqx T.agg,zft T.word]
    · simp [q1]
  | [],hf=>simp at hf
  | [_],hf=>simp at hf
  | _::_::_::_,hf=>simp at hf
theorem J.cY {t':TypeId} {a b:Sl} (T:SlEq P t tw) (hx:ev σ x=some (.agg a.cells.toArray)) (hy:ev σ y=some (.agg b.cells.toArray)) (hd:okd N d) (h:J P ops F w0 M N lS L (putd d (.bool (decide (¬ a.v=b.v))) σ) l):
    J P ops F w0 M N lS ((⟨d,.binOp .neq t x y t',ty,p,af,none⟩,k)::L) σ l:=
  J.aS hx hy hd (fun w=>by
    simp only [Sem.run_bind,run_eqGuard_agg w .neq t x y _ _ T.guard,Result.andThen_ok,run_neq_struct,zpf T,decide_not]) h
end
def mk2:List Sl:=[⟨171,0⟩,⟨172,0⟩]
structure Ac.Lent (W:World) (n:Nat) (B:List (Option Nat)) (a:Ac):Prop where
  hn:a.nonce < 18446744073709551616
  dC:Dg a.code
  lc:a.code.length≤1000000000
  ls:a.sl.length≤1000000000
  cc:a.code.length+3≤a.cC
  cs:a.sl.length+2≤a.sC
  fc:Fit W n B a.cA (rowN .u8 (a.code++mk3))
  fs:Fit W n B a.sA (rowS (a.sl++mk2))
theorem Ac.Lent.keep {W w:World} {n:Nat} {B B':List (Option Nat)} {c:Ac} (h:c.Lent W n B) (k:Keep W n B w B'):c.Lent w n B':=⟨h.hn,h.dC,h.lc,h.ls,h.cc,h.cs,k _ _ h.fc,k _ _ h.fs⟩
theorem Ac.Lent.ok {W:World} {n:Nat} {B:List (Option Nat)} {c:Ac} (h:c.Lent W n B):c.Ok W n B:=
  ⟨h.hn,h.dC,by have:=h.lc;omega,h.ls,Fit.pre (ys:=rowN .u8 mk3) (by rw [← zcZ];exact h.fc),Fit.pre (ys:=rowS mk2) (by rw [← zey];exact h.fs)⟩
def AllLA (W:World) (n:Nat) (B:List (Option Nat)) (cs:List Ac):Prop:=∀ c∈cs,c.Lent W n B
theorem AllLA.keep {W w:World} {n:Nat} {B B':List (Option Nat)} {cs:List Ac} (h:AllLA W n B cs) (k:Keep W n B w B'):AllLA w n B' cs:=fun c hc=>(h c hc).keep k
theorem AllLA.ok {W:World} {n:Nat} {B:List (Option Nat)} {cs:List Ac} (h:AllLA W n B cs):AllA W n B cs:=fun c hc=>(h c hc).ok
theorem AllLA.nil {W:World} {n:Nat} {B:List (Option Nat)}:AllLA W n B []:=fun c hc=>by cases hc
theorem AllLA.snoc {W:World} {n:Nat} {B:List (Option Nat)} {cs:List Ac} {c:Ac} (h:AllLA W n B cs) (hc:c.Lent W n B):AllLA W n B (cs++[c]):=fun x hx=>by
  rcases List.mem_append.1 hx with h1 | h1
  · exact h x h1
  · rw [List.mem_singleton.1 h1];exact hc
def markA:Ac:=⟨0,771,0,[],[],none,0,none,0⟩
def weightR:Nat→List Ac→Nat
  | n,[]=>n
  | n,c::cs=>if n≤262144 then weightR (n+c.code.length+c.sl.length) cs else n
theorem zhj:∀ (cs:List Ac) (n:Nat),n≤weightR n cs
  | [],n=>Nat.le_refl _
  | c::cs,n=>by
    unfold weightR
    split
    · exact Nat.le_trans (by omega) (zhj cs _)
    · exact Nat.le_refl _
def SmallA (cs:List Ac):Prop:=∀ c∈cs,c.code.length≤100000000∧c.sl.length≤100000000
theorem zkE {ds:List Ac} {m:Nat} (hs:∀ c∈ds,c.code.length≤m∧c.sl.length≤m) {i:Nat} (hi:i < ds.length):(ds.getD i default).code.length≤m∧(ds.getD i default).sl.length≤m:=hs _ (by
  rw [List.getD_eq_getElem?_getD,List.getElem?_eq_getElem hi];exact List.getElem_mem hi)
theorem zjA {ds:List Ac} {R i m:Nat} (h:R=weightR m (ds.drop i)) (hi:i < ds.length) (hm:m≤262144):R=weightR (m+(ds.getD i default).code.length+(ds.getD i default).sl.length) (ds.drop (i+1)):=by
  rw [h,List.drop_eq_getElem_cons hi]
  have e:ds[i]=ds.getD i default:=by rw [List.getD_eq_getElem?_getD,List.getElem?_eq_getElem hi];rfl
  rw [e,weightR,if_pos hm]
theorem zhh {ds:List Ac} {R i m:Nat} (h:R=weightR m (ds.drop i)) (hi:i≤ds.length) (hm:¬ (i < ds.length∧m≤262144)):R=m:=by
  rw [h]
  rcases Nat.lt_or_ge i ds.length with h1 | h1
  · rw [List.drop_eq_getElem_cons h1,weightR,if_neg (fun q=>hm ⟨h1,q⟩)]
  · rw [List.drop_eq_nil_of_le h1];rfl
theorem zfE (ds:List Ac) (i:Nat) (h:i < ds.length):(ds.map Ac.v).getD i default=(ds.getD i default).v:=by
  simp [List.getD_eq_getElem?_getD,h]
theorem zkO {ps qs:List Ac} (hl:ps.length=qs.length):(∀ i,i < ps.length→(ps.getD i default).v=(qs.getD i default).v)↔ps.map Ac.v=qs.map Ac.v:=by
  constructor
  · intro h
    apply List.ext_getElem
    · simp [hl]
    · intro i h1 h2
      rw [List.length_map] at h1 h2
      have:=h i h1
      rw [List.getD_eq_getElem?_getD,List.getElem?_eq_getElem h1,List.getD_eq_getElem?_getD,List.getElem?_eq_getElem h2] at this
      simpa using this
  · intro h i hi
    have:=zfE ps i hi
    rw [← zfE ps i hi,← zfE qs i (by omega),h]
theorem zqw {ps qs:List Sl} (hl:ps.length=qs.length):(∀ i,i < ps.length→(ps.getD i default).v=(qs.getD i default).v)↔ps.map Sl.v=qs.map Sl.v:=by
  constructor
  · intro h
    apply List.ext_getElem
    · simp [hl]
    · intro i h1 h2
      rw [List.length_map] at h1 h2
      have:=h i h1
      rw [List.getD_eq_getElem?_getD,List.getElem?_eq_getElem h1,List.getD_eq_getElem?_getD,List.getElem?_eq_getElem h2] at this
      simpa using this
  · intro h i hi
    have e:∀ (xs:List Sl),i < xs.length→(xs.map Sl.v)[i]?=some (xs.getD i default).v:=fun xs hx=>by
      rw [List.getElem?_map,List.getElem?_eq_getElem hx,List.getD_eq_getElem?_getD,List.getElem?_eq_getElem hx];rfl
    have h2:=e ps hi
    rw [h,e qs (by omega)] at h2
    exact (Option.some.inj h2).symm
theorem a_ext {a b:Ac} (h1:adL a.who=adL b.who) (h2:a.nonce=b.nonce) (h3:a.bal%2^256=b.bal%2^256) (h4:a.code=b.code) (h5:a.sl.map Sl.v=b.sl.map Sl.v):a.v=b.v:=by
  unfold Ac.v;rw [zds.1 h1,h2,h3,h4,h5]
instance:DecidableEq AV:=fun a b=>decidable_of_iff (a.who=b.who∧a.nonce=b.nonce∧a.bal=b.bal∧a.code=b.code∧a.sl=b.sl) ⟨fun ⟨h1,h2,h3,h4,h5⟩=>by
  cases a;cases b;dsimp only at *; subst h1 h2 h3 h4 h5;rfl,fun h=>by subst h;exact ⟨rfl,rfl,rfl,rfl,rfl⟩⟩
def Ac.lent1 (a:Ac) (q1:RowIx):Ac:=⟨a.who,a.nonce,a.bal,a.code,a.sl,hdOf q1.id,q1.cap,a.sA,a.sC⟩
def Ac.lent (a:Ac) (q1 q2:RowIx):Ac:=⟨a.who,a.nonce,a.bal,a.code,a.sl,hdOf q1.id,q1.cap,hdOf q2.id,q2.cap⟩
theorem Ac.lent_ok {W:World} {n:Nat} {B:List (Option Nat)} {c:Ac} {q1 q2:RowIx} (h:c.Ok W n B) (hs:c.code.length≤100000000∧c.sl.length≤100000000) (h1:Fit W n B (hdOf q1.id) (rowN .u8 (c.code++mk3))) (h2:c.code.length+3≤q1.cap) (h3:Fit W n B (hdOf q2.id) (rowS (c.sl++mk2))) (h4:c.sl.length+2≤q2.cap):(c.lent q1 q2).Lent W n B:=
  ⟨h.hn,h.dC,by show c.code.length≤_;omega,by show c.sl.length≤_;omega,h2,h4,h1,h3⟩
theorem zmm {zs:List Ac} {ds:List Ac} {i:Nat} {c:Ac} (hz:zs.map Ac.v=(ds.take i).map Ac.v) (hi:i < ds.length) (hc:c.v=(ds.getD i default).v):(zs++[c]).map Ac.v=(ds.take (i+1)).map Ac.v:=by
  rw [zbs ds i hi,List.map_append,List.map_append,hz,List.map_singleton,List.map_singleton,hc]
theorem zpX {w0 w:World} {M:List Nat} {l:List (Nat×Ent)} {n:Nat} {B:List (Option Nat)} {r r3:RowIx} {t t3:TypeId} {cs cs3:List Value} {j j3:Nat} (hw:WS w0 M l w) (hl:lk l j=some (r.ent t cs)) (h3:lk l j3=some (r3.ent t3 cs3)) (hne:j3≠j) (hB:∀ g,some g∈B→g < w0.heap.size∧g∉M):Fit w n (B++[r3.id]) (hdOf r.id) cs:=fun i x hx=>by
  obtain ⟨ad,hA,hc⟩:=hw.rowCs hl i x hx
  refine ⟨ad,hA,hc,?_⟩
  cases hid:r.id with
  | none=>rw [hid] at hA;cases hA
  | some g=>
    rw [hid] at hA;cases hA
    have hat:=hw.live j _ hl
    simp only [Ent.At,RowIx.ent,hid] at hat
    obtain ⟨t',_,hat⟩:=hat
    refine ⟨fun q=>?_,fun _=>⟨_,_,hat⟩⟩
    rcases List.mem_append.1 q with q | q
    · have:=hB g q
      rcases hw.own j _ g hl (by simp only [RowIx.ent,hid]) with h | h
      · omega
      · exact this.2 h
    · have k1:=hw.apart j j3 _ _ g hl h3 (fun h=>hne h.symm) (by simp only [RowIx.ent,hid])
      simp only [RowIx.ent] at k1
      exact k1 (List.mem_singleton.1 q).symm
theorem lentRowA {W:World} {n:Nat} {B:List (Option Nat)} {A:Option Addr} {xs:List Ac} (h:Fit W n B A (rowA (xs++[markA]))):Fit W n B A (rowA xs):=by
  rw [zgv] at h
  exact h.pre
end Go.Fw
namespace Go.Fw
open Go
theorem zaG {w:World} {A:Option Addr} {c:Nat} {x:Sl} {xs:List Sl} (h:Cs w A (rowS (x::xs))) (hc:(x::xs).length≤c):Cs w (if c=1 then A else A.map (·.add (1*8))) (rowS xs):=zeQ Sl.cells_length h hc 1
theorem ziT (x:Sl) (xs:List Sl):((rowS (x::xs)).drop (0*8)).take 8=x.cells:=rfl
theorem zjI (zs:List Sl) (c:Sl):(zs++[c]).map Sl.v=zs.map Sl.v++[c.v]:=by simp
def emS (c:CV):List (Nat×Nat):=if c.new=0 then [] else [(c.key,c.new)]
def stL:List (Nat×Nat)→List CV→Option (List (Nat×Nat))
  | hs,[]=>some hs
  | [],c::cs=>if 0=c.old then (stL [] cs).map (emS c++·) else none
  | h::hs,c::cs=>if wcmp h.1 c.key < 0 then (stL hs (c::cs)).map ([h]++·) else if wcmp h.1 c.key=0 then (if h.2=c.old then (stL hs cs).map (emS c++·) else none) else (if 0=c.old then (stL (h::hs) cs).map (emS c++·) else none)
termination_by hs cs=>hs.length+cs.length
theorem zgk (hs:List (Nat×Nat)):stL hs []=some hs:=by cases hs<;>simp [stL]
theorem ztu (h:Nat×Nat) (hs:List (Nat×Nat)):stL (h::hs) []=(stL hs []).map ([h]++·):=by rw [zgk,zgk];rfl
theorem zrE {h:Nat×Nat} {hs:List (Nat×Nat)} {c:CV} {cs:List CV} (hw:wcmp h.1 c.key < 0):stL (h::hs) (c::cs)=(stL hs (c::cs)).map ([h]++·):=by rw [stL,if_pos hw]
theorem zmW {h:Nat×Nat} {hs:List (Nat×Nat)} {c:CV} {cs:List CV} (hw:wcmp h.1 c.key=0) (ho:h.2=c.old):stL (h::hs) (c::cs)=(stL hs cs).map (emS c++·):=by rw [stL,if_neg (by omega),if_pos hw,if_pos ho]
theorem zmV {h:Nat×Nat} {hs:List (Nat×Nat)} {c:CV} {cs:List CV} (hw:wcmp h.1 c.key=0) (ho:¬ h.2=c.old):stL (h::hs) (c::cs)=none:=by rw [stL,if_neg (by omega),if_pos hw,if_neg ho]
theorem zlZ {hs:List (Nat×Nat)} {c:CV} {cs:List CV} (hw:hs=[]∨∃ h hs',hs=h::hs'∧0 < wcmp h.1 c.key) (ho:0=c.old):stL hs (c::cs)=(stL hs cs).map (emS c++·):=by
  rcases hw with rfl | ⟨h,hs',rfl,hw⟩
  · rw [stL,if_pos ho]
  · rw [stL,if_neg (by omega),if_neg (by omega),if_pos ho]
theorem zhS {hs:List (Nat×Nat)} {c:CV} {cs:List CV} (hw:hs=[]∨∃ h hs',hs=h::hs'∧0 < wcmp h.1 c.key) (ho:¬ 0=c.old):stL hs (c::cs)=none:=by
  rcases hw with rfl | ⟨h,hs',rfl,hw⟩
  · rw [stL,if_neg ho]
  · rw [stL,if_neg (by omega),if_neg (by omega),if_neg ho]
theorem zfO {J R:Option (List (Nat×Nat))} {m zs:List (Nat×Nat)} (h:J=(R.map (m++·)).map (zs++·)):J=R.map ((zs++m)++·):=by
  rw [h]
  cases R<;>simp
theorem zkn {c:Ch} (h:¬ c.new%2^256=0):emS c.v=[(Sl.mk c.key c.new).v]:=if_neg h
theorem zol {c:Ch} (h:c.new%2^256=0):emS c.v=[]:=if_pos h
theorem ziC (s:Sl) (c:Ch):wcmp s.v.1 c.v.key=wcmp s.key c.key:=zhQ s.key c.key
end Go.Fw
namespace Go.Fw
open Go
theorem WS.rowAt {w:World} {r:RowIx} {t:TypeId} {cs:List Value} (h:(r.ent t cs).At w):WS w r.id.toList [(0,r.ent t cs)] w:=by
  cases hid:r.id with
  | none=>
    have e:r.ent t cs=⟨none,t,cs++r.sp⟩:=by simp only [RowIx.ent,hid]
    rw [e] at h ⊢
    refine ⟨rfl,rfl,rfl,Nat.le_refl _,fun _ _ _=>rfl,fun j e he=>?_,fun j j' e e' g' h1 h2 hne hg=>?_,fun j e g' he hg=>?_⟩
    · rw [zae] at he
      split at he
      · simp at he;subst he;exact h
      · simp [lk] at he
    · rw [zae] at h1
      split at h1
      · simp at h1;subst h1;cases hg
      · simp [lk] at h1
    · rw [zae] at he
      split at he
      · simp at he;subst he;cases hg
      · simp [lk] at he
  | some g=>
    have e:r.ent t cs=⟨some g,t,cs++r.sp⟩:=by simp only [RowIx.ent,hid]
    rw [e] at h ⊢
    exact WS.one h
def emC (who k o n:Nat):List CV:=if o=n then [] else [⟨who,4,k,o,n,[],[]⟩]
def slL (who:Nat):List (Nat×Nat)→List (Nat×Nat)→List CV
  | [],[]=>[]
  | a::xa,[]=>emC who a.1 a.2 0++slL who xa []
  | [],b::xb=>emC who b.1 0 b.2++slL who [] xb
  | a::xa,b::xb=>if wcmp a.1 b.1 < 0 then emC who a.1 a.2 0++slL who xa (b::xb) else if wcmp a.1 b.1=0 then emC who b.1 a.2 b.2++slL who xa xb else emC who b.1 0 b.2++slL who (a::xa) xb
termination_by xa xb=>xa.length+xb.length
section
variable {who:Nat} {a b:Nat×Nat} {xa xb:List (Nat×Nat)}
theorem sl_a (h:xb=[]∨∃ b xb',xb=b::xb'∧wcmp a.1 b.1 < 0):slL who (a::xa) xb=emC who a.1 a.2 0++slL who xa xb:=by
  rcases h with rfl | ⟨b,xb',rfl,h⟩
  · rw [slL]
  · rw [slL,if_pos h]
theorem sl_b (h:xa=[]∨∃ a xa',xa=a::xa'∧0 < wcmp a.1 b.1):slL who xa (b::xb)=emC who b.1 0 b.2++slL who xa xb:=by
  rcases h with rfl | ⟨a,xa',rfl,h⟩
  · rw [slL]
  · rw [slL,if_neg (by omega),if_neg (by omega)]
theorem zhd (h:wcmp a.1 b.1=0):slL who (a::xa) (b::xb)=emC who b.1 a.2 b.2++slL who xa xb:=by rw [slL,if_neg (by omega),if_pos h]
end
theorem zeL (who:Nat):slL who [] []=[]:=by rw [slL]
def Ch.ofSlot (who k o n:Nat):Ch:=⟨who,4,k,o,n,[],[],none,0,none,0⟩
theorem zgQ {who k o n:Nat} (h:¬ (Ch.ofSlot who k o n).v.idle):emC (who%256^20) (k%2^256) (o%2^256) (n%2^256)=[(Ch.ofSlot who k o n).v]:=if_neg (fun q=>h ⟨q,rfl⟩)
theorem zjp {who k o n:Nat} (h:(Ch.ofSlot who k o n).v.idle):emC (who%256^20) (k%2^256) (o%2^256) (n%2^256)=[]:=if_pos h.1
theorem zrI {W:World} {n:Nat} {B:List (Option Nat)} (who k o m:Nat):(Ch.ofSlot who k o m).Ok W n B:=⟨⟨by show (-9223372036854775808:Int)≤4;decide,by show (4:Int)≤9223372036854775807;decide⟩,zaX,zaX,Nat.zero_le _,Nat.zero_le _,Fit.nil,Fit.nil⟩
theorem zhk (s t:Sl):wcmp s.v.1 t.v.1=wcmp s.key t.key:=zhQ s.key t.key
def Bare (cs:List Ch):Prop:=∀ (W:World) (n:Nat) (B:List (Option Nat)),AllC W n B cs
theorem Bare.nil:Bare []:=fun W n B c hc=>by cases hc
theorem Bare.snoc {cs:List Ch} {who k o m:Nat} (h:Bare cs):Bare (cs++[Ch.ofSlot who k o m]):=fun W n B=>(h W n B).snoc (zrI _ _ _ _)
theorem zbX {α:Type} (l:List α) (c:α):l.length+1=(l++[c]).length:=by simp
theorem zbk {M:List Nat} {A:Option Addr} {c k:Nat} (h:Off M A):Off M (if c=1 then A else A.map (·.add k)):=fun ad had=>by
  split at had
  · exact h ad had
  · cases A with
    | none=>cases had
    | some a0=>
      cases had
      show (a0.add k).block∉M
      rw [Addr.add_block]
      exact h a0 rfl
theorem zmZ {J Q S e R:List CV} (hj:J=Q++S) (hs:S=e++R) (he:e=[]):J=Q++R:=by rw [hj,hs,he];rfl
theorem zgm {J S e R:List CV} {qs:List Ch} {c:Ch} (hj:J=qs.map Ch.v++S) (hs:S=e++R) (he:e=[c.v]):J=(qs++[c]).map Ch.v++R:=by rw [hj,hs,he,zgl,List.append_assoc]
theorem zkm {W:World} {n:Nat} {B:List (Option Nat)} {A:Option Addr} {cs:List Value} {M:List Nat} (h:Fit W n B A cs) (hn:cs≠[]) (hM:∀ g∈M,some g∈B):Off M A:=fun ad had hm=>by
  cases cs with
  | nil=>exact hn rfl
  | cons x xs=>
    obtain ⟨ad',h1,_,h3,_⟩:=h 0 x rfl
    rw [had] at h1
    cases h1
    exact h3 (hM _ hm)
section
variable {P:Program} {ops:Array Oper} {F:Act→World→Prop} {w0 w w':World} {M:List Nat} {N:Nf} {L:List (Oper×K)} {σ:List (Nat×Value)} {l lS:List (Nat×Ent)} {d:Option Tmp} {ty:TypeId} {p:String} {af:Array Edge}
theorem J.bX (h:Nat) {r:RowIx} {t:TypeId} {cs:List Value} (hl:lk l h=some (r.ent t cs)) (hh:lk lS h=none) {f:FuncId} (hf:FnOk P f) {xs:Array Operand} {tys:Array TypeId} {args:List Value} (hx:evs σ xs.toList=some args) (hd:okd N d) {ι:Type} (φ:ι→Prop) (vf:ι→Value) (ef:ι→Ent)
    (spec:∀ w,WS w0 M l w→Calls P f args.toArray w fun e w'=>∃ i,φ i∧e=.returned (vf i)∧WS w r.id.toList [(0,ef i)] w')
    (hJ:∀ i,φ i→J P ops F w0 M N lS L (putd d (vf i) σ) ((h,ef i)::l)):
    J P ops F w0 M N lS ((⟨d,.call ⟨.value (.func f),xs,tys⟩,ty,p,af,none⟩,.l)::L) σ l:=
  J.aL hf hx hd φ vf r.id.toList (fun i=>[(h,ef i)]) (fun w hw=>(spec w hw).mono fun e w' ⟨i,hi,he,h2⟩=>⟨i,hi,he,h2.only 0 h rfl⟩)
    (fun i _ q hq=>⟨h,_,ef i,hl,by simpa [RowIx.ent] using hq,by simp [lk]⟩)
    (fun i j e he=>by
      rw [zae] at he
      split at he
      · rename_i hk;subst hk;exact hh
      · simp [lk] at he) hJ
end
def btA (a b:Ac):List CV:=bt a b 4++slL (a.who%256^20) (a.sl.map Sl.v) (b.sl.map Sl.v)
theorem znk {xs:List Sl} (h:xs≠[]):rowS xs≠[]:=fun q=>by
  have:=congrArg List.length q
  rw [zaO] at this
  rw [List.length_nil] at this
  exact h (List.length_eq_zero_iff.1 (by omega))
theorem AllC.app {W:World} {n:Nat} {B:List (Option Nat)} {xs ys:List Ch} (h:AllC W n B xs) (h2:AllC W n B ys):AllC W n B (xs++ys):=fun c hc=>by
  rcases List.mem_append.1 hc with q | q
  · exact h c q
  · exact h2 c q
theorem zgD {r:RowIx} {B xs:List (Option Nat)}:∀ g∈r.id.toList,some g∈B++(r.id::xs):=fun g hg=>by
  have:r.id=some g:=by simpa using hg
  rw [this]
  simp
end Go.Fw
namespace Go.Fw
open Go
def btV (a b:AV):List CV:=
  (if a.nonce=b.nonce then [] else [⟨a.who,1,0,a.nonce,b.nonce,[],[]⟩])++(if a.bal=b.bal then [] else [⟨a.who,2,0,a.bal,b.bal,[],[]⟩])++(if a.code=b.code then [] else [⟨a.who,3,0,0,0,a.code,b.code⟩])++slL a.who a.sl b.sl
theorem zov {a b:Ac} (ha:a.nonce < 18446744073709551616) (hb:b.nonce < 18446744073709551616):btA a b=btV a.v b.v:=by
  have m:∀ x:Nat,x < 18446744073709551616→x%2^256=x:=fun x hx=>Nat.mod_eq_of_lt (Nat.lt_trans hx (by decide))
  have e1:(kC a b 1).v=⟨a.who%256^20,1,0,a.nonce,b.nonce,[],[]⟩:=by
    show CV.mk _ _ (0%2^256) (a.nonce%2^256) (b.nonce%2^256) _ _=_
    rw [m _ ha,m _ hb,Nat.zero_mod];rfl
  have e2:(kC a b 2).v=⟨a.who%256^20,2,0,a.bal%2^256,b.bal%2^256,[],[]⟩:=by
    show CV.mk _ _ (0%2^256) _ _ _ _=_
    rw [Nat.zero_mod];rfl
  have e3:(kC a b 3).v=⟨a.who%256^20,3,0,0,0,a.code,b.code⟩:=by
    show CV.mk _ _ (0%2^256) (0%2^256) (0%2^256) _ _=_
    rw [Nat.zero_mod];rfl
  have s1:bt a b 2=if a.nonce=b.nonce then [] else [⟨a.who%256^20,1,0,a.nonce,b.nonce,[],[]⟩]:=by
    rw [show bt a b 2=bt a b 1++(if (kC a b 1).v.idle then [] else [(kC a b 1).v]) from rfl,show bt a b 1=[] from bt_0 a b,e1]
    unfold CV.idle
    by_cases h:a.nonce=b.nonce<;>simp [h]
  have s2:bt a b 3=bt a b 2++if a.bal%2^256=b.bal%2^256 then [] else [⟨a.who%256^20,2,0,a.bal%2^256,b.bal%2^256,[],[]⟩]:=by
    rw [show bt a b 3=bt a b 2++(if (kC a b 2).v.idle then [] else [(kC a b 2).v]) from rfl,e2]
    unfold CV.idle
    by_cases h:a.bal%2^256=b.bal%2^256<;>simp [h]
  have s3:bt a b 4=bt a b 3++if a.code=b.code then [] else [⟨a.who%256^20,3,0,0,0,a.code,b.code⟩]:=by
    rw [show bt a b 4=bt a b 3++(if (kC a b 3).v.idle then [] else [(kC a b 3).v]) from rfl,e3]
    unfold CV.idle
    by_cases h:a.code=b.code<;>simp [h]
  unfold btA btV
  rw [s3,s2,s1]
  rfl
def AV.bare (who:Nat):AV:=⟨who,0,0,[],[]⟩
def ofL:List AV→List AV→List CV
  | [],[]=>[]
  | a::xa,[]=>btV a (.bare a.who)++ofL xa []
  | [],b::xb=>btV (.bare b.who) b++ofL [] xb
  | a::xa,b::xb=>if a.who < b.who then btV a (.bare a.who)++ofL xa (b::xb) else if b.who < a.who then btV (.bare b.who) b++ofL (a::xa) xb else btV a b++ofL xa xb
termination_by xa xb=>xa.length+xb.length
section
variable {a b:AV} {xa xb:List AV}
theorem zdM:ofL [] []=[]:=by rw [ofL]
theorem of_a (h:xb=[]∨∃ b xb',xb=b::xb'∧a.who < b.who):ofL (a::xa) xb=btV a (.bare a.who)++ofL xa xb:=by
  rcases h with rfl | ⟨b,xb',rfl,h⟩
  · rw [ofL]
  · rw [ofL,if_pos h]
theorem of_b (h:xa=[]∨∃ a xa',xa=a::xa'∧b.who < a.who):ofL xa (b::xb)=btV (.bare b.who) b++ofL xa xb:=by
  rcases h with rfl | ⟨a,xa',rfl,h⟩
  · rw [ofL]
  · rw [ofL,if_neg (by omega),if_pos h]
theorem zja (h:a.who=b.who):ofL (a::xa) (b::xb)=btV a b++ofL xa xb:=by rw [ofL,if_neg (by omega),if_neg (by omega)]
end
section
variable {P:Program} {ops:Array Oper} {F:Act→World→Prop} {w0 w w':World} {M:List Nat} {N:Nf} {L:List (Oper×K)} {σ:List (Nat×Value)} {l lS:List (Nat×Ent)} {d:Option Tmp} {ty:TypeId} {p:String} {af:Array Edge} {x y:Operand} {v:Value} {t:TypeId} {k:K}
theorem J.bf {len e s:Nat} {ad:Addr} (ht:ArrT P t len e s) (hl:0 < len) (hx:ev σ x=some (.pointer (some ad))) (hd:okd N d)
    (hJ:J P ops F w0 M N lS L (putd d (.slice (some ad) len len) σ) l):J P ops F w0 M N lS ((⟨d,.slice t x none none none,ty,p,af,none⟩,k)::L) σ l:=
  J.aC rfl hd _ (fun a ha w=>by
    have hne:¬ len=0:=by omega
    have h0:ad.add 0=ad:=by cases ad;simp [Addr.add]
    have hb:(Instr.sliceBounds false len len none none none).run P w=.ok (0,len,len) w:=by
      have:=zbv (P:=P) ha (isS:=false) (len:=len) (cap:=len) (xl:=none) (xh:=none) (xm:=none) (lo:=0) (hi:=len) (mx:=len) rfl rfl rfl (fun h=>by cases h) (Nat.zero_le _) (Nat.le_refl _) (Nat.le_refl _) w
      simpa using this
    simp [execOp,ha.eval hx,Instr.sliceAt,run_underlying ht.1,Instr.sureAddr,hb,zav ht.2,hne,h0]) hJ
end
theorem zni {w:World} {A:Option Addr} {x:Ac} {xs:List Ac} (h:Cs w A (rowA (x::xs))):Cs w (some ((A.getD default).add (0*27+0))) (rowN .u8 (adL x.who)):=by
  have h2:=zrN h
  cases A with
  | none=>
    obtain ⟨ad,q,_⟩:=h 0 _ rfl
    cases q
  | some ad=>
    have h0:ad.add (0*27+0)=ad:=by cases ad;simp [Addr.add]
    rw [show (some ad:Option Addr).getD default=ad from rfl,h0]
    exact h2
theorem zcm {w:World} {A:Option Addr} {c:Nat} {x:Ac} {xs:List Ac} (h:Cs w A (rowA (x::xs))) (hc:(x::xs).length≤c):Cs w (if c=1 then A else A.map (·.add (1*27))) (rowA xs):=zeQ Ac.cells_length h hc 1
theorem zcN (x:Ac) (xs:List Ac):((rowA (x::xs)).drop (0*27)).take 27=x.cells:=rfl
def CkOk (P:Program) (f:FuncId) (ck:List AV→Int×Int):Prop:=∀ (w:World) (n:Nat) (B:List (Option Nat)) (A:Option Addr) (c:Nat) (xs:List Ac),Cs w A (rowA xs)→AllA w n B xs→xs.length≤1000000000→
  Calls P f [.slice A xs.length c].toArray w fun e w'=>e=.returned (.tuple #[.int .i64 (ck (xs.map Ac.v)).1,.int .i64 (ck (xs.map Ac.v)).2])∧WS w [] [] w'
def ofZ (ck:List AV→Int×Int) (xa xb:List AV):List CV×Int:=if (ck xa).1≠0 then ([],(ck xa).1) else if (ck xb).1≠0 then ([],(ck xb).1) else (ofL xa xb,0)
theorem zpr {ck:List AV→Int×Int} {xa xb:List AV} (h:(ck xa).1≠0):ofZ ck xa xb=([],(ck xa).1):=if_pos h
theorem zpq {ck:List AV→Int×Int} {xa xb:List AV} (h:(ck xa).1=0) (h2:(ck xb).1≠0):ofZ ck xa xb=([],(ck xb).1):=by unfold ofZ;rw [if_neg (fun q=>q h),if_pos h2]
theorem zfJ {ck:List AV→Int×Int} {xa xb:List AV} (h:(ck xa).1=0) (h2:(ck xb).1=0):ofZ ck xa xb=(ofL xa xb,0):=by unfold ofZ;rw [if_neg (fun q=>q h),if_neg (fun q=>q h2)]
def Ac.bare (who:Nat):Ac:=⟨who,0,0,[],[],none,0,none,0⟩
theorem Ac.bare_v (who:Nat):(Ac.bare who).v=.bare (who%256^20):=by unfold Ac.bare Ac.v AV.bare;simp
theorem zgY {W:World} {n:Nat} {B:List (Option Nat)} (who:Nat):(Ac.bare who).Ok W n B:=⟨by show 0 < 18446744073709551616;decide,zaX,Nat.zero_le _,Nat.zero_le _,fun i x hx=>by simp [Ac.bare,rowN] at hx,fun i x hx=>by simp [Ac.bare,rowS] at hx⟩
theorem zgB {J R:List CV} {S m:List CV} {zs q:List Ch} (hj:J=zs.map Ch.v++S) (hs:S=m++R) (hq:q.map Ch.v=m):J=(zs++q).map Ch.v++R:=by rw [hj,hs,List.map_append,hq,List.append_assoc]
theorem zdN {B:List (Option Nat)} {a b c d:Option Nat}:∀ o∈B++[d,b,c],o∈(B++[a,b,c])++[d]:=fun o h=>by
  simp only [List.mem_append,List.mem_cons,List.not_mem_nil,or_false] at h ⊢
  rcases h with h | h | h | h<;>simp [h]
theorem zlE {a b:Nat} (h:cmpZ a b < 0):a < b:=by unfold cmpZ at h;split at h;assumption;split at h<;>omega
theorem zqd {a b:Nat} (h:0 < cmpZ a b):b < a:=by unfold cmpZ at h;split at h;omega;split at h;assumption;omega
def Ac.at (a:Ac) (who:Nat):Ac:=⟨who,a.nonce,a.bal,a.code,a.sl,a.cA,a.cC,a.sA,a.sC⟩
theorem Ac.at_ok {W:World} {n:Nat} {B:List (Option Nat)} {a:Ac} (who:Nat) (h:a.Ok W n B):(a.at who).Ok W n B:=⟨h.hn,h.dC,h.lc,h.ls,h.fc,h.fs⟩
theorem Ac.at_v {a:Ac} {who:Nat} (h:a.who%256^20=who%256^20):(a.at who).v=a.v:=by unfold Ac.at Ac.v;rw [h]
theorem ztd {J S:List CV} {zs:List Ch} (h:J=zs.map Ch.v++S):zs.length≤J.length:=by rw [h,List.length_append,List.length_map];omega
end Go.Fw
namespace Go.Fw
open Go
def SlW (xs:List (Nat×Nat)):Prop:=xs.Pairwise (fun s t=>s.1 < t.1)∧∀ s∈xs,s.1 < 2^256∧s.2≠0
theorem SlW.nil:SlW []:=⟨.nil,fun s h=>by cases h⟩
theorem SlW.tail {x:Nat×Nat} {xs:List (Nat×Nat)} (h:SlW (x::xs)):SlW xs:=⟨(List.pairwise_cons.1 h.1).2,fun s hs=>h.2 s (List.mem_cons_of_mem _ hs)⟩
theorem SlW.lt {x:Nat×Nat} {xs:List (Nat×Nat)} (h:SlW (x::xs)):∀ s∈xs,x.1 < s.1:=(List.pairwise_cons.1 h.1).1
theorem SlW.key {x:Nat×Nat} {xs:List (Nat×Nat)} (h:SlW (x::xs)):x.1 < 2^256:=(h.2 x List.mem_cons_self).1
theorem SlW.val {x:Nat×Nat} {xs:List (Nat×Nat)} (h:SlW (x::xs)):x.2≠0:=(h.2 x List.mem_cons_self).2
theorem zmI {a b:Nat} (ha:a < 2^256) (hb:b < 2^256):wcmp a b < 0↔a < b:=by rw [zoR,Nat.mod_eq_of_lt ha,Nat.mod_eq_of_lt hb]
theorem zqq {a b:Nat} (ha:a < 2^256) (hb:b < 2^256):0 < wcmp a b↔b < a:=by have:=zoQ a b;rw [Nat.mod_eq_of_lt ha,Nat.mod_eq_of_lt hb] at this;exact this
theorem zfn {a b:Nat} (ha:a < 2^256) (hb:b < 2^256):wcmp a b=0↔a=b:=by rw [ziB,Nat.mod_eq_of_lt ha,Nat.mod_eq_of_lt hb]
theorem zgR {who k o n:Nat} {c:CV} (h:c∈emC who k o n):c=⟨who,4,k,o,n,[],[]⟩∧o≠n:=by
  unfold emC at h
  split at h
  · cases h
  · rename_i q;exact ⟨List.mem_singleton.1 h,q⟩
theorem zjq {who k o n:Nat} (h:o≠n):emC who k o n=[⟨who,4,k,o,n,[],[]⟩]:=if_neg h
theorem zrh {who k n:Nat}:emC who k n n=[]:=if_pos rfl
structure SlC (who:Nat) (c:CV):Prop where
  who:c.who=who
  kind:c.kind=4
  oc:c.oc=[]
  nc:c.nc=[]
  ne:c.old≠c.new
theorem zdD:∀ (who:Nat) (xa xb:List (Nat×Nat)) (c:CV),c∈slL who xa xb→SlC who c∧((∃ s∈xa,s.1=c.key)∨(∃ s∈xb,s.1=c.key))
  | who,[],[],c,h=>by rw [zeL] at h;cases h
  | who,a::xa,[],c,h=>by
    rw [sl_a (.inl rfl)] at h
    rcases List.mem_append.1 h with h | h
    · obtain ⟨rfl,h2⟩:=zgR h
      exact ⟨⟨rfl,rfl,rfl,rfl,h2⟩,.inl ⟨a,List.mem_cons_self,rfl⟩⟩
    · obtain ⟨h1,h2⟩:=zdD who xa [] c h
      exact ⟨h1,h2.imp (fun ⟨s,hs,e⟩=>⟨s,List.mem_cons_of_mem _ hs,e⟩) id⟩
  | who,[],b::xb,c,h=>by
    rw [sl_b (.inl rfl)] at h
    rcases List.mem_append.1 h with h | h
    · obtain ⟨rfl,h2⟩:=zgR h
      exact ⟨⟨rfl,rfl,rfl,rfl,h2⟩,.inr ⟨b,List.mem_cons_self,rfl⟩⟩
    · obtain ⟨h1,h2⟩:=zdD who [] xb c h
      exact ⟨h1,h2.imp id (fun ⟨s,hs,e⟩=>⟨s,List.mem_cons_of_mem _ hs,e⟩)⟩
  | who,a::xa,b::xb,c,h=>by
    rcases Int.lt_trichotomy (wcmp a.1 b.1) 0 with hw | hw | hw
    · rw [sl_a (.inr ⟨b,xb,rfl,hw⟩)] at h
      rcases List.mem_append.1 h with h | h
      · obtain ⟨rfl,h2⟩:=zgR h
        exact ⟨⟨rfl,rfl,rfl,rfl,h2⟩,.inl ⟨a,List.mem_cons_self,rfl⟩⟩
      · obtain ⟨h1,h2⟩:=zdD who xa (b::xb) c h
        exact ⟨h1,h2.imp (fun ⟨s,hs,e⟩=>⟨s,List.mem_cons_of_mem _ hs,e⟩) id⟩
    · rw [zhd hw] at h
      rcases List.mem_append.1 h with h | h
      · obtain ⟨rfl,h2⟩:=zgR h
        exact ⟨⟨rfl,rfl,rfl,rfl,h2⟩,.inr ⟨b,List.mem_cons_self,rfl⟩⟩
      · obtain ⟨h1,h2⟩:=zdD who xa xb c h
        exact ⟨h1,h2.imp (fun ⟨s,hs,e⟩=>⟨s,List.mem_cons_of_mem _ hs,e⟩) (fun ⟨s,hs,e⟩=>⟨s,List.mem_cons_of_mem _ hs,e⟩)⟩
    · rw [sl_b (.inr ⟨a,xa,rfl,hw⟩)] at h
      rcases List.mem_append.1 h with h | h
      · obtain ⟨rfl,h2⟩:=zgR h
        exact ⟨⟨rfl,rfl,rfl,rfl,h2⟩,.inr ⟨b,List.mem_cons_self,rfl⟩⟩
      · obtain ⟨h1,h2⟩:=zdD who (a::xa) xb c h
        exact ⟨h1,h2.imp id (fun ⟨s,hs,e⟩=>⟨s,List.mem_cons_of_mem _ hs,e⟩)⟩
termination_by _ xa xb=>xa.length+xb.length
def KeyA (k:Nat) (cs:List CV):Prop:=∀ c∈cs,k < c.key
theorem zdU {who k:Nat} {xa xb:List (Nat×Nat)} (ha:∀ s∈xa,k < s.1) (hb:∀ s∈xb,k < s.1):KeyA k (slL who xa xb):=fun c hc=>by
  rcases (zdD who xa xb c hc).2 with ⟨s,hs,e⟩ | ⟨s,hs,e⟩
  · rw [← e];exact ha s hs
  · rw [← e];exact hb s hs
theorem zrD {h:Nat×Nat} {hs:List (Nat×Nat)} {cs:List CV} (hh:h.1 < 2^256) (hc:∀ c∈cs,h.1 < c.key∧c.key < 2^256):stL (h::hs) cs=(stL hs cs).map ([h]++·):=by
  cases cs with
  | nil=>exact ztu h hs
  | cons c cs=>
    obtain ⟨h1,h2⟩:=hc c List.mem_cons_self
    exact zrE ((zmI hh h2).2 h1)
theorem zna {who:Nat} {xa xb:List (Nat×Nat)} (ha:SlW xa) (hb:SlW xb):∀ c∈slL who xa xb,c.key < 2^256:=fun c hc=>by
  rcases (zdD who xa xb c hc).2 with ⟨s,hs,e⟩ | ⟨s,hs,e⟩
  · rw [← e];exact (ha.2 s hs).1
  · rw [← e];exact (hb.2 s hs).1
theorem zjF:∀ (who:Nat) (xa xb:List (Nat×Nat)),SlW xa→SlW xb→stL xa (slL who xa xb)=some xb
  | who,[],[],_,_=>by rw [zeL,zgk]
  | who,a::xa,[],ha,hb=>by
    rw [sl_a (.inl rfl),zjq ha.val,List.singleton_append]
    refine (zmW ((zfn ha.key ha.key).2 rfl) rfl).trans ?_
    rw [zjF who xa [] ha.tail hb];rfl
  | who,[],b::xb,ha,hb=>by
    rw [sl_b (.inl rfl),zjq (Ne.symm hb.val),List.singleton_append]
    refine (zlZ (.inl rfl) rfl).trans ?_
    rw [zjF who [] xb ha hb.tail]
    simp only [emS,if_neg hb.val,Option.map_some,List.singleton_append]
  | who,a::xa,b::xb,ha,hb=>by
    rcases Int.lt_trichotomy (wcmp a.1 b.1) 0 with hw | hw | hw
    · rw [sl_a (.inr ⟨b,xb,rfl,hw⟩),zjq ha.val,List.singleton_append]
      refine (zmW ((zfn ha.key ha.key).2 rfl) rfl).trans ?_
      rw [zjF who xa (b::xb) ha.tail hb];rfl
    · have hk:=(zfn ha.key hb.key).1 hw
      rw [zhd hw]
      by_cases hv:a.2=b.2
      · rw [hv,zrh,List.nil_append,zrD ha.key (fun c hc=>⟨zdU ha.lt (fun s hs=>by rw [hk];exact hb.lt s hs) c hc,zna ha.tail hb.tail c hc⟩),zjF who xa xb ha.tail hb.tail]
        have:a=b:=Prod.ext hk hv
        rw [this];rfl
      · rw [zjq hv,List.singleton_append]
        refine (zmW hw rfl).trans ?_
        rw [zjF who xa xb ha.tail hb.tail]
        simp only [emS,if_neg hb.val,Option.map_some,List.singleton_append]
    · rw [sl_b (.inr ⟨a,xa,rfl,hw⟩),zjq (Ne.symm hb.val),List.singleton_append]
      refine (zlZ (.inr ⟨a,xa,rfl,hw⟩) rfl).trans ?_
      rw [zjF who (a::xa) xb ha hb.tail]
      simp only [emS,if_neg hb.val,Option.map_some,List.singleton_append]
termination_by _ xa xb=>xa.length+xb.length
theorem zmY:∀ (who:Nat) (xs:List (Nat×Nat)),slL who xs xs=[]
  | who,[]=>zeL who
  | who,x::xs=>by
    rw [zhd (by rw [ziB]),zrh,zmY who xs];rfl
def SlD (who:Nat) (cs:List CV):Prop:=cs.Pairwise (fun a b=>a.key < b.key)∧∀ c∈cs,SlC who c∧c.key < 2^256
theorem map_some {α β:Type} {f:α→β} {o:Option α} {y:β} (h:o.map f=some y):∃ x,o=some x∧f x=y:=by
  cases o with
  | none=>cases h
  | some x=>exact ⟨x,rfl,by simpa using h⟩
theorem zgO {who k o n:Nat}:(emC who k o n).map CV.turn=emC who k n o:=by
  unfold emC
  by_cases h:o=n
  · rw [if_pos h,if_pos h.symm];rfl
  · rw [if_neg h,if_neg (Ne.symm h)];rfl
theorem zfq:∀ (who:Nat) (xa xb:List (Nat×Nat)),SlW xa→SlW xb→(slL who xa xb).map CV.turn=slL who xb xa
  | who,[],[],_,_=>by rw [zeL];rfl
  | who,a::xa,[],ha,hb=>by rw [sl_a (.inl rfl),sl_b (.inl rfl),List.map_append,zfq who xa [] ha.tail hb,zgO]
  | who,[],b::xb,ha,hb=>by rw [sl_a (.inl rfl),sl_b (.inl rfl),List.map_append,zfq who [] xb ha hb.tail,zgO]
  | who,a::xa,b::xb,ha,hb=>by
    have hf:=ziD a.1 b.1
    rcases Int.lt_trichotomy (wcmp a.1 b.1) 0 with hw | hw | hw
    · rw [sl_a (.inr ⟨b,xb,rfl,hw⟩),sl_b (.inr ⟨b,xb,rfl,by omega⟩),List.map_append,zfq who xa (b::xb) ha.tail hb,zgO]
    · rw [zhd hw,zhd (by omega),List.map_append,zfq who xa xb ha.tail hb.tail,zgO,(zfn ha.key hb.key).1 hw]
    · rw [sl_b (.inr ⟨a,xa,rfl,hw⟩),sl_a (.inr ⟨a,xa,rfl,by omega⟩),List.map_append,zfq who (a::xa) xb ha hb.tail,zgO]
termination_by _ xa xb=>xa.length+xb.length
theorem zgP {who k o n:Nat} {cs:List CV} (h:cs.Pairwise (fun a b=>a.key < b.key)) (hk:KeyA k cs):(emC who k o n++cs).Pairwise (fun a b=>a.key < b.key):=by
  unfold emC
  split
  · exact h
  · exact List.pairwise_cons.2 ⟨hk,h⟩
theorem zcL:∀ (who:Nat) (xa xb:List (Nat×Nat)),SlW xa→SlW xb→(slL who xa xb).Pairwise (fun a b=>a.key < b.key)
  | who,[],[],_,_=>by rw [zeL];exact .nil
  | who,a::xa,[],ha,hb=>by
    rw [sl_a (.inl rfl)]
    exact zgP (zcL who xa [] ha.tail hb) (zdU ha.lt (fun s hs=>by cases hs))
  | who,[],b::xb,ha,hb=>by
    rw [sl_b (.inl rfl)]
    exact zgP (zcL who [] xb ha hb.tail) (zdU (fun s hs=>by cases hs) hb.lt)
  | who,a::xa,b::xb,ha,hb=>by
    rcases Int.lt_trichotomy (wcmp a.1 b.1) 0 with hw | hw | hw
    · have hk:=(zmI ha.key hb.key).1 hw
      rw [sl_a (.inr ⟨b,xb,rfl,hw⟩)]
      exact zgP (zcL who xa (b::xb) ha.tail hb) (zdU ha.lt (fun s hs=>by
        rcases List.mem_cons.1 hs with rfl | hs
        · exact hk
        · exact Nat.lt_trans hk (hb.lt s hs)))
    · have hk:=(zfn ha.key hb.key).1 hw
      rw [zhd hw]
      exact zgP (zcL who xa xb ha.tail hb.tail) (zdU (by rw [← hk];exact ha.lt) hb.lt)
    · have hk:=(zqq ha.key hb.key).1 hw
      rw [sl_b (.inr ⟨a,xa,rfl,hw⟩)]
      exact zgP (zcL who (a::xa) xb ha hb.tail) (zdU (fun s hs=>by
        rcases List.mem_cons.1 hs with rfl | hs
        · exact hk
        · exact Nat.lt_trans hk (ha.lt s hs)) hb.lt)
termination_by _ xa xb=>xa.length+xb.length
theorem sl_d {who:Nat} {xa xb:List (Nat×Nat)} (ha:SlW xa) (hb:SlW xb):SlD who (slL who xa xb):=⟨zcL who xa xb ha hb,fun c hc=>⟨(zdD who xa xb c hc).1,zna ha hb c hc⟩⟩
structure AV.Wf (a:AV):Prop where
  hn:a.nonce < 2^64
  hs:SlW a.sl
theorem AV.bare_wf (who:Nat):(AV.bare who).Wf:=⟨by show 0 < 2^64;decide,SlW.nil⟩
def AV.get (a:AV) (k:Int):Nat×List Nat:=if k=1 then (a.nonce,[]) else if k=2 then (a.bal,[]) else (0,a.code)
def AV.put (a:AV) (c:CV):AV:=if c.kind=1 then ⟨a.who,c.new,a.bal,a.code,a.sl⟩ else if c.kind=2 then ⟨a.who,a.nonce,c.new,a.code,a.sl⟩ else ⟨a.who,a.nonce,a.bal,c.nc,a.sl⟩
def AV.holds (a:AV) (c:CV):Prop:=(a.get c.kind).1=c.old∧(a.get c.kind).2=c.oc
instance (a:AV) (c:CV):Decidable (a.holds c):=by unfold AV.holds;infer_instance
def AV.slots (a:AV) (s:List (Nat×Nat)):AV:=⟨a.who,a.nonce,a.bal,a.code,s⟩
def tuL:AV→List CV→Option AV
  | a,[]=>some a
  | a,c::cs=>if c.kind=4 then (stL a.sl (c::cs)).map a.slots else if a.holds c then tuL (a.put c) cs else none
theorem tu_sl {a:AV}:∀ {cs:List CV},(∀ c∈cs,c.kind=4)→tuL a cs=(stL a.sl cs).map a.slots
  | [],_=>by rw [zgk];rfl
  | c::cs,h=>by rw [tuL,if_pos (h c List.mem_cons_self)]
theorem zkI {a:AV} {c:CV} {cs:List CV} (h:c.kind≠4) (h2:a.holds c):tuL a (c::cs)=tuL (a.put c) cs:=by rw [tuL,if_neg h,if_pos h2]
theorem zoT {a b:AV} (hw:a.who=b.who) (ha:a.Wf) (hb:b.Wf):tuL a (btV a b)=some b:=by
  have step:∀ (a:AV) (k:Int) (o n:Nat) (oc nc:List Nat) (cs:List CV),k≠4→a.get k=(o,oc)→tuL a (⟨a.who,k,0,o,n,oc,nc⟩::cs)=tuL (a.put ⟨a.who,k,0,o,n,oc,nc⟩) cs:=fun a k o n oc nc cs hk hg=>zkI hk (by unfold AV.holds;dsimp only;rw [hg];exact ⟨rfl,rfl⟩)
  have e4:∀ a:AV,SlW a.sl→a.nonce=b.nonce→a.bal=b.bal→a.code=b.code→a.who=b.who→tuL a (slL a.who a.sl b.sl)=some b:=fun a h1 h2 h3 h4 h5=>by
    rw [tu_sl (fun c hc=>(zdD _ _ _ c hc).1.kind),zjF _ _ _ h1 hb.hs]
    show some (AV.mk a.who a.nonce a.bal a.code b.sl)=_
    rw [h2,h3,h4,h5]
  have e3:∀ a:AV,SlW a.sl→a.nonce=b.nonce→a.bal=b.bal→a.who=b.who→tuL a ((if a.code=b.code then [] else [⟨a.who,3,0,0,0,a.code,b.code⟩])++slL a.who a.sl b.sl)=some b:=fun a h1 h2 h3 h5=>by
    by_cases h:a.code=b.code
    · rw [if_pos h,List.nil_append];exact e4 a h1 h2 h3 h h5
    · rw [if_neg h,List.singleton_append,step a 3 0 0 a.code b.code _ (by decide) rfl]
      exact e4 _ h1 h2 h3 rfl h5
  have e2:∀ a:AV,SlW a.sl→a.nonce=b.nonce→a.who=b.who→tuL a ((if a.bal=b.bal then [] else [⟨a.who,2,0,a.bal,b.bal,[],[]⟩])++((if a.code=b.code then [] else [⟨a.who,3,0,0,0,a.code,b.code⟩])++slL a.who a.sl b.sl))=some b:=fun a h1 h2 h5=>by
    by_cases h:a.bal=b.bal
    · rw [if_pos h,List.nil_append];exact e3 a h1 h2 h h5
    · rw [if_neg h,List.singleton_append,step a 2 a.bal b.bal [] [] _ (by decide) rfl]
      exact e3 ⟨a.who,a.nonce,b.bal,a.code,a.sl⟩ h1 h2 rfl h5
  unfold btV
  rw [List.append_assoc,List.append_assoc]
  by_cases h:a.nonce=b.nonce
  · rw [if_pos h,List.nil_append];exact e2 a ha.hs h hw
  · rw [if_neg h,List.singleton_append,step a 1 a.nonce b.nonce [] [] _ (by decide) rfl]
    exact e2 ⟨a.who,b.nonce,a.bal,a.code,a.sl⟩ ha.hs rfl hw
def bt3 (a b:AV):List CV:=(if a.code=b.code then [] else [⟨a.who,3,0,0,0,a.code,b.code⟩])++slL a.who a.sl b.sl
def bt2 (a b:AV):List CV:=(if a.bal=b.bal then [] else [⟨a.who,2,0,a.bal,b.bal,[],[]⟩])++bt3 a b
theorem bt1 (a b:AV):btV a b=(if a.nonce=b.nonce then [] else [⟨a.who,1,0,a.nonce,b.nonce,[],[]⟩])++bt2 a b:=by
  unfold btV bt2 bt3
  rw [List.append_assoc,List.append_assoc]
structure InD (who:Nat) (k:Int) (cs:List CV):Prop where
  may:∀ c∈cs,c.may
  ord:Ord cs
  nf:NfL cs
  who:∀ c∈cs,c.who=who
  kind:∀ c∈cs,k≤c.kind
theorem zsb {w o n:Nat} {k:Int} {oc nc:List Nat} (h1:1≤k) (h2:k≤4) (h3:k=1→o < 2^64∧n < 2^64) (h4:k=3→o=0∧n=0) (h5:k≠3→oc.length=0∧nc.length=0):(CV.mk w k 0 o n oc nc).mayL:=⟨h1,h2,h3,h4,h5,.inl rfl⟩
theorem zbU {a b:AV} (ha:a.Wf) (hb:b.Wf):InD a.who 1 (btV a b):=by
  have push:∀ {k:Int} {c:CV} {cs:List CV},InD a.who (k+1) cs→c.may→c.who=a.who→c.kind=k→c.key=0→InD a.who k (c::cs):=fun {k c cs} h hm hw hk h0=>by
    refine ⟨fun d hd=>?_,List.pairwise_cons.2 ⟨fun d hd=>?_,h.ord⟩,fun d hd=>?_,fun d hd=>?_,fun d hd=>?_⟩
    · rcases List.mem_cons.1 hd with rfl | hd
      · exact hm
      · exact h.may d hd
    · have h1:=h.kind d hd
      have h2:=h.who d hd
      exact (zfo (by rw [h0];decide) (h.nf d hd)).2 (.inr ⟨by rw [hw,h2],.inl (by omega)⟩)
    · rcases List.mem_cons.1 hd with rfl | hd
      · rw [h0];decide
      · exact h.nf d hd
    · rcases List.mem_cons.1 hd with rfl | hd
      · exact hw
      · exact h.who d hd
    · rcases List.mem_cons.1 hd with rfl | hd
      · omega
      · have:=h.kind d hd;omega
  have low:∀ {k:Int} {cs:List CV},InD a.who (k+1) cs→InD a.who k cs:=fun {k cs} h=>⟨h.may,h.ord,h.nf,h.who,fun c hc=>by have:=h.kind c hc;omega⟩
  have h4:InD a.who 4 (slL a.who a.sl b.sl):=by
    have hD:=sl_d (who:=a.who) ha.hs hb.hs
    refine ⟨fun c hc=>?_,hD.1.imp_of_mem (fun {x y} hx hy hxy=>?_),fun c hc=>(hD.2 c hc).2,fun c hc=>(hD.2 c hc).1.who,fun c hc=>by rw [(hD.2 c hc).1.kind];decide⟩
    · obtain ⟨h1,h2,h3,h4,h5⟩:=(hD.2 c hc).1
      refine ⟨⟨by omega,by omega,fun q=>by omega,fun q=>by omega,fun _=>by rw [h3,h4];exact ⟨rfl,rfl⟩,.inr h2⟩,fun q=>h5 q.1⟩
    · have hx2:=hD.2 x hx
      have hy2:=hD.2 y hy
      refine (zfo hx2.2 hy2.2).2 (.inr ⟨by rw [hx2.1.who,hy2.1.who],.inr ⟨by rw [hx2.1.kind,hy2.1.kind],hxy⟩⟩)
  have h3:InD a.who 3 (bt3 a b):=by
    unfold bt3
    split
    · exact low h4
    · rename_i q
      exact push h4 ⟨zsb (by omega) (by omega) (fun h=>absurd h (by decide)) (fun _=>⟨rfl,rfl⟩) (fun h=>absurd rfl h),fun r=>q r.2⟩ rfl rfl rfl
  have h2:InD a.who 2 (bt2 a b):=by
    unfold bt2
    split
    · exact low h3
    · rename_i q
      exact push h3 ⟨zsb (by omega) (by omega) (fun h=>absurd h (by decide)) (fun h=>absurd h (by decide)) (fun _=>⟨rfl,rfl⟩),fun r=>q r.1⟩ rfl rfl rfl
  rw [bt1]
  split
  · exact low h2
  · rename_i q
    exact push h2 ⟨zsb (by omega) (by omega) (fun _=>⟨ha.hn,hb.hn⟩) (fun h=>absurd h (by decide)) (fun _=>⟨rfl,rfl⟩),fun r=>q r.1⟩ rfl rfl rfl
theorem zkr {a b:AV} (hw:a.who=b.who) (ha:a.Wf) (hb:b.Wf):(btV a b).map CV.turn=btV b a:=by
  unfold btV
  rw [List.map_append,List.map_append,List.map_append,zfq _ _ _ ha.hs hb.hs,hw]
  have t:∀ {p q:Prop} [Decidable p] [Decidable q] {c:CV},(p↔q)→(if p then [] else [c]).map CV.turn=(if q then [] else [c.turn]):=fun {p q _ _ c} h=>by
    by_cases hp:p
    · rw [if_pos hp,if_pos (h.1 hp)];rfl
    · rw [if_neg hp,if_neg (fun q=>hp (h.2 q))];rfl
  rw [t eq_comm,t eq_comm,t eq_comm]
  rfl
theorem zks {a b:AV} (hw:a.who=b.who) (ha:a.Wf) (hb:b.Wf):btV a b=[]↔a=b:=by
  constructor
  · intro h
    have h1:=zoT hw ha hb
    rw [h] at h1
    exact Option.some.inj h1
  · rintro rfl
    unfold btV
    rw [if_pos rfl,if_pos rfl,if_pos rfl,zmY];rfl
end Go.Fw
namespace Go.Fw
open Go
def AV.void (a:AV):Prop:=a.nonce=0∧a.bal=0∧a.code=[]∧a.sl=[]
instance (a:AV):Decidable a.void:=by unfold AV.void;infer_instance
theorem zgX (w:Nat):(AV.bare w).void:=⟨rfl,rfl,rfl,rfl⟩
def keepA (a:AV):List AV:=if a.void then [] else [a]
def mine (w:Nat) (d:List CV):List CV:=d.takeWhile (fun c=>decide (c.who=w))
def rest (w:Nat) (d:List CV):List CV:=d.dropWhile (fun c=>decide (c.who=w))
theorem zfR (w:Nat):∀ (d:List CV),(rest w d).length≤d.length
  | []=>Nat.le_refl _
  | c::d=>by
    unfold rest
    rw [List.dropWhile_cons]
    split
    · have:=zfR w d;unfold rest at this;rw [List.length_cons];omega
    · exact Nat.le_refl _
theorem znq (c:CV) (d:List CV):rest c.who (c::d)=rest c.who d:=by
  unfold rest
  rw [List.dropWhile_cons,if_pos (by simp)]
def apL:List AV→List CV→Option (List AV)
  | [],[]=>some []
  | [],c::cs=>(tuL (.bare c.who) (mine c.who (c::cs))).bind fun a=>(apL [] (rest c.who cs)).map (keepA a++·)
  | a::l,[]=>(tuL a []).bind fun a'=>(apL l []).map (keepA a'++·)
  | a::l,c::cs=>if c.who < a.who then (tuL (.bare c.who) (mine c.who (c::cs))).bind fun a'=>(apL (a::l) (rest c.who cs)).map (keepA a'++·)
    else (tuL a (mine a.who (c::cs))).bind fun a'=>(apL l (rest a.who (c::cs))).map (keepA a'++·)
termination_by l d=>l.length+d.length
decreasing_by
  · have:=zfR c.who cs;simp only [List.length_cons,List.length_nil];omega
  · simp only [List.length_cons,List.length_nil];omega
  · have:=zfR c.who cs;simp only [List.length_cons];omega
  · have:=zfR a.who (c::cs);simp only [List.length_cons] at *; omega
theorem zoH:apL [] []=some []:=by rw [apL]
theorem zrk {l:List AV} {c:CV} {cs:List CV} (h:l=[]∨∃ a l',l=a::l'∧c.who < a.who):apL l (c::cs)=(tuL (.bare c.who) (mine c.who (c::cs))).bind fun a=>(apL l (rest c.who (c::cs))).map (keepA a++·):=by
  rw [znq]
  rcases h with rfl | ⟨a,l',rfl,h⟩
  · rw [apL]
  · rw [apL,if_pos h]
theorem zlJ {a:AV} {l:List AV} {d:List CV} (h:d=[]∨∃ c cs,d=c::cs∧¬ c.who < a.who):apL (a::l) d=(tuL a (mine a.who d)).bind fun a'=>(apL l (rest a.who d)).map (keepA a'++·):=by
  rcases h with rfl | ⟨c,cs,rfl,h⟩
  · rw [apL];rfl
  · rw [apL,if_neg h]
theorem zfS {w:Nat}:∀ {x y:List CV},(∀ c∈x,c.who=w)→(∀ c∈y,w < c.who)→mine w (x++y)=x∧rest w (x++y)=y
  | [],[],_,_=>⟨rfl,rfl⟩
  | [],c::y,_,h=>by
    have:=h c List.mem_cons_self
    unfold mine rest
    rw [List.nil_append,List.takeWhile_cons,List.dropWhile_cons,if_neg (by simp;omega),if_neg (by simp;omega)]
    exact ⟨rfl,rfl⟩
  | c::x,y,h1,h2=>by
    have h3:=h1 c List.mem_cons_self
    obtain ⟨e1,e2⟩:=zfS (x:=x) (y:=y) (fun d hd=>h1 d (List.mem_cons_of_mem _ hd)) h2
    unfold mine rest at *
    rw [List.cons_append,List.takeWhile_cons,List.dropWhile_cons,if_pos (by simp [h3]),if_pos (by simp [h3]),e1,e2]
    exact ⟨rfl,rfl⟩
structure WfL (l:List AV):Prop where
  ord:l.Pairwise (fun a b=>a.who < b.who)
  wf:∀ a∈l,a.Wf
  is:∀ a∈l,¬ a.void
theorem WfL.tail {a:AV} {l:List AV} (h:WfL (a::l)):WfL l:=⟨(List.pairwise_cons.1 h.ord).2,fun x hx=>h.wf x (List.mem_cons_of_mem _ hx),fun x hx=>h.is x (List.mem_cons_of_mem _ hx)⟩
theorem WfL.lt {a:AV} {l:List AV} (h:WfL (a::l)):∀ x∈l,a.who < x.who:=(List.pairwise_cons.1 h.ord).1
theorem WfL.hd {a:AV} {l:List AV} (h:WfL (a::l)):a.Wf:=h.wf a List.mem_cons_self
theorem WfL.no {a:AV} {l:List AV} (h:WfL (a::l)):¬ a.void:=h.is a List.mem_cons_self
theorem WfL.nil:WfL []:=⟨List.Pairwise.nil,(fun a h=>nomatch h),(fun a h=>nomatch h)⟩
structure InF (d:List CV):Prop where
  may:∀ c∈d,c.may
  ord:Ord d
  nf:NfL d
theorem InF.form {d:List CV} (h:InF d):formZ d=0:=(zpM h.nf).2 ⟨h.may,h.ord⟩
theorem InF.nil:InF []:=⟨(fun c h=>nomatch h),List.Pairwise.nil,(fun c h=>nomatch h)⟩
theorem InD.inF {who:Nat} {k:Int} {d:List CV} (h:InD who k d):InF d:=⟨h.may,h.ord,h.nf⟩
theorem InF.app {x y:List CV} (hx:InF x) (hy:InF y) (h:∀ a∈x,∀ b∈y,a.who < b.who):InF (x++y):=by
  refine ⟨fun c hc=>?_,List.pairwise_append.2 ⟨hx.ord,hy.ord,fun a ha b hb=>(zfo (hx.nf a ha) (hy.nf b hb)).2 (.inl (h a ha b hb))⟩,fun c hc=>?_⟩
  · rcases List.mem_append.1 hc with q | q
    · exact hx.may c q
    · exact hy.may c q
  · rcases List.mem_append.1 hc with q | q
    · exact hx.nf c q
    · exact hy.nf c q
theorem zhD:∀ (x y:List AV) (hx:WfL x) (hy:WfL y) (c:CV),c∈ofL x y→(∃ a∈x,a.who=c.who)∨(∃ a∈y,a.who=c.who)
  | [],[],_,_,c,h=>by rw [zdM] at h;cases h
  | a::xa,[],hx,hy,c,h=>by
    rw [of_a (.inl rfl)] at h
    rcases List.mem_append.1 h with h | h
    · exact .inl ⟨a,List.mem_cons_self,((zbU hx.hd (AV.bare_wf _)).who c h).symm⟩
    · exact (zhD xa [] hx.tail hy c h).imp (fun ⟨s,hs,e⟩=>⟨s,List.mem_cons_of_mem _ hs,e⟩) id
  | [],b::xb,hx,hy,c,h=>by
    rw [of_b (.inl rfl)] at h
    rcases List.mem_append.1 h with h | h
    · exact .inr ⟨b,List.mem_cons_self,((zbU (AV.bare_wf _) hy.hd).who c h).symm⟩
    · exact (zhD [] xb hx hy.tail c h).imp id (fun ⟨s,hs,e⟩=>⟨s,List.mem_cons_of_mem _ hs,e⟩)
  | a::xa,b::xb,hx,hy,c,h=>by
    rcases Nat.lt_trichotomy a.who b.who with hw | hw | hw
    · rw [of_a (.inr ⟨b,xb,rfl,hw⟩)] at h
      rcases List.mem_append.1 h with h | h
      · exact .inl ⟨a,List.mem_cons_self,((zbU hx.hd (AV.bare_wf _)).who c h).symm⟩
      · exact (zhD xa (b::xb) hx.tail hy c h).imp (fun ⟨s,hs,e⟩=>⟨s,List.mem_cons_of_mem _ hs,e⟩) id
    · rw [zja hw] at h
      rcases List.mem_append.1 h with h | h
      · exact .inl ⟨a,List.mem_cons_self,((zbU hx.hd hy.hd).who c h).symm⟩
      · exact (zhD xa xb hx.tail hy.tail c h).imp (fun ⟨s,hs,e⟩=>⟨s,List.mem_cons_of_mem _ hs,e⟩) (fun ⟨s,hs,e⟩=>⟨s,List.mem_cons_of_mem _ hs,e⟩)
    · rw [of_b (.inr ⟨a,xa,rfl,hw⟩)] at h
      rcases List.mem_append.1 h with h | h
      · exact .inr ⟨b,List.mem_cons_self,((zbU (AV.bare_wf _) hy.hd).who c h).symm⟩
      · exact (zhD (a::xa) xb hx hy.tail c h).imp id (fun ⟨s,hs,e⟩=>⟨s,List.mem_cons_of_mem _ hs,e⟩)
termination_by x y=>x.length+y.length
theorem zdX {k:Nat} {x y:List AV} (hx:WfL x) (hy:WfL y) (h1:∀ a∈x,k < a.who) (h2:∀ a∈y,k < a.who):∀ c∈ofL x y,k < c.who:=fun c hc=>by
  rcases zhD x y hx hy c hc with ⟨a,ha,e⟩ | ⟨a,ha,e⟩
  · rw [← e];exact h1 a ha
  · rw [← e];exact h2 a ha
theorem znE {k:Nat} {b:AV} {xb:List AV} (h:k < b.who) (h2:∀ x∈xb,b.who < x.who):∀ x∈b::xb,k < x.who:=fun x hx=>by
  rcases List.mem_cons.1 hx with rfl | hx
  · exact h
  · exact Nat.lt_trans h (h2 x hx)
theorem zqA {k:Nat}:∀ x∈([]:List AV),k < x.who:=fun x hx=>by cases hx
inductive Step:List AV→List AV→Prop
  | nil:Step [] []
  | a {a:AV} {xa xb:List AV}:WfL (a::xa)→WfL xb→(∀ x∈xb,a.who < x.who)→ofL (a::xa) xb=btV a (.bare a.who)++ofL xa xb→Step xa xb→Step (a::xa) xb
  | b {b:AV} {xa xb:List AV}:WfL xa→WfL (b::xb)→(∀ x∈xa,b.who < x.who)→ofL xa (b::xb)=btV (.bare b.who) b++ofL xa xb→Step xa xb→Step xa (b::xb)
  | ab {a b:AV} {xa xb:List AV}:WfL (a::xa)→WfL (b::xb)→a.who=b.who→ofL (a::xa) (b::xb)=btV a b++ofL xa xb→Step xa xb→Step (a::xa) (b::xb)
theorem steps:∀ (x y:List AV),WfL x→WfL y→Step x y
  | [],[],_,_=>.nil
  | a::xa,[],hx,hy=>.a hx hy zqA (of_a (.inl rfl)) (steps xa [] hx.tail hy)
  | [],b::xb,hx,hy=>.b hx hy zqA (of_b (.inl rfl)) (steps [] xb hx hy.tail)
  | a::xa,b::xb,hx,hy=>by
    rcases Nat.lt_trichotomy a.who b.who with hw | hw | hw
    · exact .a hx hy (znE hw hy.lt) (of_a (.inr ⟨b,xb,rfl,hw⟩)) (steps xa (b::xb) hx.tail hy)
    · exact .ab hx hy hw (zja hw) (steps xa xb hx.tail hy.tail)
    · exact .b hx hy (znE hw hx.lt) (of_b (.inr ⟨a,xa,rfl,hw⟩)) (steps (a::xa) xb hx hy.tail)
termination_by x y=>x.length+y.length
theorem Step.wf {x y:List AV} (h:Step x y):WfL x∧WfL y:=by
  cases h with
  | nil=>exact ⟨.nil,.nil⟩
  | a h1 h2=>exact ⟨h1,h2⟩
  | b h1 h2=>exact ⟨h1,h2⟩
  | ab h1 h2=>exact ⟨h1,h2⟩
theorem zlb {x y:List AV} (h:Step x y):InF (ofL x y):=by
  induction h with
  | nil=>rw [zdM];exact .nil
  | @a a xa xb h1 h2 h3 h4 h5 ih=>
    rw [h4]
    refine (zbU h1.hd (AV.bare_wf _)).inF.app ih (fun c hc d hd=>?_)
    rw [(zbU h1.hd (AV.bare_wf _)).who c hc]
    exact zdX h1.tail h2 h1.lt h3 d hd
  | @b b xa xb h1 h2 h3 h4 h5 ih=>
    rw [h4]
    refine (zbU (AV.bare_wf _) h2.hd).inF.app ih (fun c hc d hd=>?_)
    rw [(zbU (AV.bare_wf _) h2.hd).who c hc]
    exact zdX h1 h2.tail h3 h2.lt d hd
  | @ab a b xa xb h1 h2 h3 h4 h5 ih=>
    rw [h4]
    refine (zbU h1.hd h2.hd).inF.app ih (fun c hc d hd=>?_)
    rw [(zbU h1.hd h2.hd).who c hc]
    exact zdX h1.tail h2.tail h1.lt (by rw [h3];exact h2.lt) d hd
theorem zsQ {a:AV} (h:a.Wf) (hn:¬ a.void):btV a (.bare a.who)≠[]∧btV (.bare a.who) a≠[]:=by
  refine ⟨fun q=>?_,fun q=>?_⟩
  · have:=(zks (a:=a) (b:=.bare a.who) rfl h (AV.bare_wf _)).1 q
    exact hn (by rw [this];exact zgX _)
  · have:=(zks (a:=.bare a.who) (b:=a) rfl (AV.bare_wf _) h).1 q
    exact hn (by rw [← this];exact zgX _)
theorem zsV {x y:List AV} (h:Step x y):apL x (ofL x y)=some y:=by
  induction h with
  | nil=>rw [zdM,zoH]
  | @a a xa xb h1 h2 h3 h4 h5 ih=>
    have hB:=zbU h1.hd (AV.bare_wf a.who)
    have hR:=zdX h1.tail h2 h1.lt h3
    obtain ⟨m1,m2⟩:=zfS (x:=btV a (.bare a.who)) (y:=ofL xa xb) (w:=a.who) hB.who hR
    rw [h4,zlJ,m1,m2,zoT (a:=a) (b:=.bare a.who) rfl h1.hd (AV.bare_wf _),Option.bind_some,ih]
    · unfold keepA
      rw [if_pos (zgX _)];rfl
    · cases hc:btV a (.bare a.who)++ofL xa xb with
      | nil=>exact .inl rfl
      | cons c cs=>
        refine .inr ⟨c,cs,rfl,?_⟩
        have:c∈btV a (.bare a.who)++ofL xa xb:=by rw [hc];exact List.mem_cons_self
        rcases List.mem_append.1 this with q | q
        · have:=hB.who c q;omega
        · have:=hR c q;omega
  | @b b xa xb h1 h2 h3 h4 h5 ih=>
    have hB:=zbU (AV.bare_wf b.who) h2.hd
    have hR:=zdX h1 h2.tail h3 h2.lt
    obtain ⟨m1,m2⟩:=zfS (x:=btV (.bare b.who) b) (y:=ofL xa xb) (w:=b.who) hB.who hR
    cases hc:btV (.bare b.who) b with
    | nil=>exact absurd hc (zsQ h2.hd h2.no).2
    | cons c cs=>
      have hw:c.who=b.who:=hB.who c (by rw [hc];exact List.mem_cons_self)
      rw [hc] at m1 m2
      rw [h4,hc,List.cons_append,zrk,hw,← List.cons_append,m1,m2,← hc,zoT (a:=.bare b.who) (b:=b) rfl (AV.bare_wf _) h2.hd,Option.bind_some,ih]
      · unfold keepA
        rw [if_neg h2.no];rfl
      · cases xa with
        | nil=>exact .inl rfl
        | cons a xa=>exact .inr ⟨a,xa,rfl,by rw [hw];exact h3 a List.mem_cons_self⟩
  | @ab a b xa xb h1 h2 h3 h4 h5 ih=>
    have hB:=zbU h1.hd h2.hd
    have hR:=zdX h1.tail h2.tail h1.lt (by rw [h3];exact h2.lt)
    obtain ⟨m1,m2⟩:=zfS (x:=btV a b) (y:=ofL xa xb) (w:=a.who) hB.who hR
    rw [h4,zlJ,m1,m2,zoT h3 h1.hd h2.hd,Option.bind_some,ih]
    · unfold keepA
      rw [if_neg h2.no];rfl
    · cases hc:btV a b++ofL xa xb with
      | nil=>exact .inl rfl
      | cons c cs=>
        refine .inr ⟨c,cs,rfl,?_⟩
        have:c∈btV a b++ofL xa xb:=by rw [hc];exact List.mem_cons_self
        rcases List.mem_append.1 this with q | q
        · have:=hB.who c q;omega
        · have:=hR c q;omega
theorem zrW {x y:List AV} (h:Step x y):(ofL x y).map CV.turn=ofL y x:=by
  induction h with
  | nil=>rw [zdM];rfl
  | @a a xa xb h1 h2 h3 h4 h5 ih=>
    rw [h4,List.map_append,ih,zkr (a:=a) (b:=.bare a.who) rfl h1.hd (AV.bare_wf _)]
    refine (of_b (b:=a) ?_).symm
    cases xb with
    | nil=>exact .inl rfl
    | cons b xb=>exact .inr ⟨b,xb,rfl,h3 b List.mem_cons_self⟩
  | @b b xa xb h1 h2 h3 h4 h5 ih=>
    rw [h4,List.map_append,ih,zkr (a:=.bare b.who) (b:=b) rfl (AV.bare_wf _) h2.hd]
    refine (of_a (a:=b) ?_).symm
    cases xa with
    | nil=>exact .inl rfl
    | cons a xa=>exact .inr ⟨a,xa,rfl,h3 a List.mem_cons_self⟩
  | @ab a b xa xb h1 h2 h3 h4 h5 ih=>
    rw [h4,List.map_append,ih,zkr h3 h1.hd h2.hd]
    exact (zja h3.symm).symm
theorem zrX {x y:List AV} (h:Step x y):ofL x y=[]↔x=y:=by
  constructor
  · intro q
    have h1:=zsV h
    have h2:=zsV (steps x x h.wf.1 h.wf.1)
    rw [q] at h1
    have h3:∀ (x:List AV),WfL x→apL x []=some x:=fun x=>by
      induction x with
      | nil=>intro _;exact zoH
      | cons a x ih=>
        intro hx
        rw [zlJ (.inl rfl)]
        show Option.bind (some a) _=_
        rw [Option.bind_some]
        show (apL x []).map _=_
        rw [ih hx.tail]
        unfold keepA
        rw [if_neg hx.no];rfl
    rw [h3 x h.wf.1] at h1
    exact Option.some.inj h1
  · rintro rfl
    have:∀ (x:List AV),WfL x→ofL x x=[]:=fun x=>by
      induction x with
      | nil=>intro _;exact zdM
      | cons a x ih=>intro hx;rw [zja rfl,ih hx.tail,(zks rfl hx.hd hx.hd).2 rfl];rfl
    exact this x h.wf.1
end Go.Fw
namespace Go.Fw
open Go
section
variable {P:Program} {ops:Array Oper} {F:Act→World→Prop} {w0 w w':World} {M:List Nat} {N:Nf} {L:List (Oper×K)} {σ:List (Nat×Value)} {l lS:List (Nat×Ent)} {d:Option Tmp} {ty:TypeId} {p:String} {af:Array Edge} {x y:Operand}
theorem J.cQ {f:FuncId} (hf:FnOk P f) {xs:Array Operand} {tys:Array TypeId} {args cap:List Value} (hy:ev σ y=some (.func (.func f) #[] cap.toArray)) (hx:evs σ xs.toList=some args) (hd:okd N d) {ι:Type} (Φ:ι→World→Prop) (vf:ι→Value) (M':List Nat) (lf:ι→List (Nat×Ent)) (l1:ι→List (Nat×Ent))
    (hs:∀ i,Sub (l1 i) (lf i++l)) (hk:∀ i,keysB (l1 i)=true) (hS:∀ i W,Sub lS l→Sub lS (l1 i++snapL W w0.heap.size (ids (l1 i))))
    (hM:∀ i,∀ g∈M',∃ k e e2,lk l k=some e∧e.id=some g∧lk (lf i) k=some e2)
    (spec:∀ w,WS w0 M l w→Calls P f (args++cap).toArray w fun e w'=>∃ i,Φ i w'∧e=.returned (vf i)∧WS w M' (lf i) w')
    (hJ:∀ i W,Φ i W→WS w0 M (lf i++l) W→J P ops F w0 M N lS L (putd d (vf i) σ) (l1 i++snapL W w0.heap.size (ids (l1 i)))):
    J P ops F w0 M N lS ((⟨d,.call ⟨.value y,xs,tys⟩,ty,p,af,none⟩,.l)::L) σ l:=
  J.aR (ι:=ι×World) rfl hd (fun q=>Φ q.1 q.2∧WS w0 M (lf q.1++l) q.2) (fun q=>vf q.1) (fun q=>l1 q.1++snapL q.2 w0.heap.size (ids (l1 q.1)))
    (fun q _ h=>hS q.1 q.2 h) (fun a ha w hw=>by
      rw [ziR hf ha hy hx w]
      exact (spec w hw).mono fun e w' ⟨i,hi,he,h2⟩=>zcS ⟨vf i,he,(i,w'),⟨hi,hw.join h2 (hM i)⟩,rfl,(hw.join h2 (hM i)).snap (hs i) (hk i)⟩)
    (fun q hq=>hJ q.1 q.2 hq.1 hq.2)
end
theorem Cs.wsE {w0 w:World} {M:List Nat} {l:List (Nat×Ent)} {A:Option Addr} {cs:List Value} (h:Cs w0 A cs) (hw:WS w0 M l w) (ho:cs≠[]→Off M A):Cs w A cs:=by
  cases cs with
  | nil=>exact Cs.nil _ _
  | cons c cs=>exact h.ws hw (ho (fun q=>by cases q))
theorem ziM:∀ (hs:List (Nat×Nat)) (cs:List CV) (xb:List (Nat×Nat)),stL hs cs=some xb→xb.length≤hs.length+cs.length
  | hs,[],xb,h=>by rw [zgk] at h;cases h;simp
  | [],c::cs,xb,h=>by
    by_cases ho:0=c.old
    · rw [zlZ (.inl rfl) ho] at h
      obtain ⟨m,hm,rfl⟩:=map_some h
      have:=ziM [] cs m hm
      unfold emS;split<;>simp at * <;>omega
    · rw [zhS (.inl rfl) ho] at h;cases h
  | x::hs,c::cs,xb,h=>by
    rcases Int.lt_trichotomy (wcmp x.1 c.key) 0 with hw | hw | hw
    · rw [zrE hw] at h
      obtain ⟨m,hm,rfl⟩:=map_some h
      have:=ziM hs (c::cs) m hm
      simp at *; omega
    · by_cases ho:x.2=c.old
      · rw [zmW hw ho] at h
        obtain ⟨m,hm,rfl⟩:=map_some h
        have:=ziM hs cs m hm
        unfold emS;split<;>simp at * <;>omega
      · rw [zmV hw ho] at h;cases h
    · by_cases ho:0=c.old
      · rw [zlZ (.inr ⟨x,hs,rfl,hw⟩) ho] at h
        obtain ⟨m,hm,rfl⟩:=map_some h
        have:=ziM (x::hs) cs m hm
        unfold emS;split<;>simp at * <;>omega
      · rw [zhS (.inr ⟨x,hs,rfl,hw⟩) ho] at h;cases h
termination_by hs cs=>hs.length+cs.length
theorem RowsPost.nest {w w':World} {t:TypeId} {xs:List Nat} {e:Ending} {n:Nat} {B:List (Option Nat)} (hB:∀ g,some g∈B→g < w.heap.size) (h:RowsPost w t .u8 (fun zs=>zs=xs) e w'):∃ q:RowIx,Fit w' n B (hdOf q.id) (rowN .u8 xs)∧e=.returned (.slice (hdOf q.id) xs.length q.cap)∧WS w [] [] w':=by
  obtain ⟨zs,rfl,r,hr,he,hw⟩:=h
  exact ⟨r,zbc hw (j:=0) rfl (fun g h=>⟨hB g h,fun q=>by cases q⟩),he,hw.sub (Sub.nil _)⟩
section
variable {W:World} {n:Nat} {B:List (Option Nat)} {x:Ac} {y:Ch}
theorem zlC {zs:List Nat} {r:RowIx} (h:x.Ok W n B) (hd:Dg zs) (hl:zs.length≤1000000000000) (hf:Fit W n B (hdOf r.id) (rowN .u8 zs)):(x.coded zs r).Ok W n B:=⟨h.hn,hd,hl,h.ls,hf,h.fs⟩
theorem zrK {z:Nat} (h:x.Ok W n B):(x.setB z).Ok W n B:=⟨h.hn,h.dC,h.lc,h.ls,h.fc,h.fs⟩
theorem zrJ {z:Nat} (h:x.Ok W n B):(x.setN z).Ok W n B:=⟨by
  show (if sizeN z > 8 then 0 else lim z 0) < _
  split
  · decide
  · exact zbW z 0,h.dC,h.lc,h.ls,h.fc,h.fs⟩
def Ac.slotted (a:Ac) (zs:List Sl) (r:RowIx):Ac:=⟨a.who,a.nonce,a.bal,a.code,zs,a.cA,a.cC,hdOf r.id,r.cap⟩
theorem zmb {zs:List Sl} {r:RowIx} (h:x.Ok W n B) (hl:zs.length≤1000000000) (hf:Fit W n B (hdOf r.id) (rowS zs)):(x.slotted zs r).Ok W n B:=⟨h.hn,h.dC,h.lc,hl,h.fc,hf⟩
theorem znA (h:x.nonce < 18446744073709551616):x.nonce%2^256=x.nonce:=Nat.mod_eq_of_lt (Nat.lt_trans h (by decide))
theorem znU (hn:x.nonce < 18446744073709551616) (hk:y.kind=1):x.v.holds y.v↔x.nonce%2^256=y.old%2^256∧[]=y.oc:=by
  have e:x.v.get y.v.kind=(x.nonce,[]):=by show x.v.get y.kind=_;rw [hk];rfl
  unfold AV.holds
  rw [e,znA hn];rfl
theorem znT (hk:y.kind=2):x.v.holds y.v↔x.bal%2^256=y.old%2^256∧[]=y.oc:=by
  have e:x.v.get y.v.kind=(x.bal%2^256,[]):=by show x.v.get y.kind=_;rw [hk];rfl
  unfold AV.holds
  rw [e];rfl
theorem znS (hk:y.kind=3):x.v.holds y.v↔0%2^256=y.old%2^256∧x.code=y.oc:=by
  have e:x.v.get y.v.kind=(0,x.code):=by show x.v.get y.kind=_;rw [hk];rfl
  unfold AV.holds
  rw [e,Nat.zero_mod];rfl
theorem put1 (hk:y.kind=1) (hm:y.v.may):(x.setN y.new).v=x.v.put y.v:=by
  have h:=(hm.1.2.2.1 hk).2
  have h:y.new%2^256 < 2^64:=h
  have e:(if sizeN y.new > 8 then 0 else lim y.new 0)=y.new%2^256:=by
    rw [if_neg ((zbH y.new).2 h)]
    have hs:¬ sizeN y.new > 8:=(zbH y.new).2 h
    exact zjf y.new (by omega)
  unfold AV.put
  rw [if_pos (show y.v.kind=1 from hk)]
  show AV.mk _ (if sizeN y.new > 8 then 0 else lim y.new 0) _ _ _=_
  rw [e];rfl
theorem put2 (hk:y.kind=2):(x.setB y.new).v=x.v.put y.v:=by
  have h1:y.v.kind=2:=hk
  unfold AV.put
  rw [if_neg (by rw [h1];decide),if_pos h1];rfl
theorem put3 {r:RowIx} (hk:y.kind=3):(x.coded y.nc r).v=x.v.put y.v:=by
  have h1:y.v.kind=3:=hk
  unfold AV.put
  rw [if_neg (by rw [h1];decide),if_neg (by rw [h1];decide)];rfl
theorem zlS {a:AV} {c:CV} {cs:List CV} (h:c.kind≠4) (h2:¬ a.holds c):tuL a (c::cs)=none:=by rw [tuL,if_neg h,if_neg h2]
theorem zrx {a:AV}:tuL a []=(stL a.sl []).map a.slots:=by rw [zgk];rfl
theorem zrw {a:AV} {c:CV} {cs:List CV} (h:c.kind=4):tuL a (c::cs)=(stL a.sl (c::cs)).map a.slots:=by rw [tuL,if_pos h]
theorem zho {zs:List Sl} {r:RowIx} {b:Bool} {T:Option AV} {cs:List CV} (hs:if b=true then stL (x.sl.map Sl.v) cs=some (zs.map Sl.v) else stL (x.sl.map Sl.v) cs=none∧zs=[]) (he:T=(stL (x.sl.map Sl.v) cs).map x.v.slots) (hx:x.Ok W n B) (hf:Fit W n B (hdOf r.id) (rowS zs)) (hr:r.Ok 8 zs.length) (hb:x.sl.length+cs.length≤1000000000):
    if b=true then T=some (x.slotted zs r).v∧(x.slotted zs r).Ok W n B∧(x.slotted zs r).sl.length≤(x.slotted zs r).sC else T=none:=by
  by_cases hq:b=true
  · rw [if_pos hq] at hs ⊢
    have hl:=ziM _ _ _ hs
    simp only [List.length_map] at hl
    exact ⟨he.trans (congrArg (Option.map _) hs),zmb hx (by omega) hf,hr.le⟩
  · rw [if_neg hq] at hs ⊢
    exact he.trans (congrArg (Option.map _) hs.1)
end
end Go.Fw
namespace Go.Fw
open Go
section
variable {P:Program} {w0 w w':World} {M:List Nat} {N:Nf} {σ:List (Nat×Value)} {l:List (Nat×Ent)}
theorem X.aC {fn:Func} {R:Ending→World→Prop} {r s:ResultVar} {v u:Value} (hr:fn.results=#[r,s]) (hv:RV P w0 M σ l r v) (hu:RV P w0 M σ l s u) (h:∀ w,WS w0 M l w→R (.returned (.tuple #[v,u])) w) (hD:N.D=[]:=by rfl):X w0 M N (bodyPostD P fn R) .ret σ l:=fun _ a w ha hw=>by
  show Leaves P fn a.tmps R a.defers .returning w
  rw [ha.defers.trans hD]
  exact ⟨_,by simp [zcf,hr,hv.run ha hw,hu.run ha hw],h w hw⟩
theorem zly {r:RowIx} {t ta tb:TypeId} {cs ca cb:List Value} {a b j ga gb n:Nat} {B:List (Option Nat)} (hw:WS w0 M l w) (hl:lk l j=some (r.ent t cs)) (h1:lk l a=some ⟨some ga,ta,ca⟩) (h2:lk l b=some ⟨some gb,tb,cb⟩) (hja:a≠j) (hjb:b≠j) (hB:∀ g,some g∈B→g < w0.heap.size∧g∉M):Fit w n (B++[some ga,some gb]) (hdOf r.id) cs:=fun i x hx=>by
  obtain ⟨ad,hA,hc,h3,h4⟩:=zbc (n:=n) hw hl hB i x hx
  refine ⟨ad,hA,hc,fun q=>?_,h4⟩
  rcases List.mem_append.1 q with q | q
  · exact h3 q
  · refine zrV hw h1 h2 hl hja hjb ad hA ?_
    simp only [List.mem_cons,List.not_mem_nil,or_false,Option.some.injEq] at q ⊢
    exact q
end
def apZ (ck:List AV→Int×Int) (l:List AV) (d:List CV):List AV×Int:=
  if (ck l).1≠0 then ([],(ck l).1) else if formZ d≠0 then ([],formZ d) else match apL l d with
    | none=>([],240)
    | some m=>if (ck m).1≠0 then ([],(ck m).1) else (m,0)
section
variable {ck:List AV→Int×Int} {l m:List AV} {d:List CV}
theorem zuH (h:(ck l).1≠0):apZ ck l d=([],(ck l).1):=if_pos h
theorem zuI (h:(ck l).1=0) (h2:formZ d≠0):apZ ck l d=([],formZ d):=by unfold apZ;rw [if_neg (fun q=>q h),if_pos h2]
theorem zrl (h:(ck l).1=0) (h2:formZ d=0) (h3:apL l d=none):apZ ck l d=([],240):=by unfold apZ;rw [if_neg (fun q=>q h),if_neg (fun q=>q h2),h3]
theorem zoJ (h:(ck l).1=0) (h2:formZ d=0) (h3:apL l d=some m) (h4:(ck m).1≠0):apZ ck l d=([],(ck m).1):=by
  unfold apZ;rw [if_neg (fun q=>q h),if_neg (fun q=>q h2),h3];exact if_pos h4
theorem zoI (h:(ck l).1=0) (h2:formZ d=0) (h3:apL l d=some m) (h4:(ck m).1=0):apZ ck l d=(m,0):=by
  unfold apZ;rw [if_neg (fun q=>q h),if_neg (fun q=>q h2),h3];exact if_neg (fun q=>q h4)
end
theorem zhF {w:Nat}:∀ {x y:List CV},(∀ c∈x,c.who=w)→(∀ c,y.head?=some c→c.who≠w)→mine w (x++y)=x∧rest w (x++y)=y
  | [],[],_,_=>⟨rfl,rfl⟩
  | [],c::y,_,h=>by
    have:=h c rfl
    unfold mine rest
    rw [List.nil_append,List.takeWhile_cons,List.dropWhile_cons,if_neg (by simp [this]),if_neg (by simp [this])]
    exact ⟨rfl,rfl⟩
  | c::x,y,h1,h2=>by
    have h3:=h1 c List.mem_cons_self
    obtain ⟨e1,e2⟩:=zhF (x:=x) (y:=y) (fun d hd=>h1 d (List.mem_cons_of_mem _ hd)) h2
    unfold mine rest at *
    rw [List.cons_append,List.takeWhile_cons,List.dropWhile_cons,if_pos (by simp [h3]),if_pos (by simp [h3]),e1,e2]
    exact ⟨rfl,rfl⟩
section
variable {ys:List Ch} {j:Nat} {z:Ac}
def Mine (z:Ac) (ys:List Ch) (j:Nat):Prop:=∀ c∈ys.take j,c.v.who=z.v.who
theorem Mine.zero:Mine z ys 0:=fun c hc=>by rw [List.take_zero] at hc;cases hc
theorem Mine.step (h:Mine z ys j) (hj:j < ys.length) (he:adL (ys.getD j default).who=adL z.who):Mine z ys (j+1):=fun c hc=>by
  rw [zbs ys j hj] at hc
  rcases List.mem_append.1 hc with q | q
  · exact h c q
  · rw [List.mem_singleton.1 q];exact zds.1 he
theorem Mine.all (h:Mine z ys j) (hj:j≤ys.length) (hn:¬ j < ys.length∨¬ adL (ys.getD j default).who=adL z.who):mine z.v.who (ys.map Ch.v)=(ys.take j).map Ch.v∧rest z.v.who (ys.map Ch.v)=(ys.drop j).map Ch.v:=by
  have e:ys.map Ch.v=(ys.take j).map Ch.v++(ys.drop j).map Ch.v:=by rw [← List.map_append,List.take_append_drop]
  rw [e]
  refine zhF (fun c hc=>?_) (fun c hc=>?_)
  · obtain ⟨x,hx,rfl⟩:=List.mem_map.1 hc
    exact h x hx
  · rcases Nat.lt_or_ge j ys.length with hl | hl
    · rw [List.drop_eq_getElem_cons hl] at hc
      have e2:ys[j]=ys.getD j default:=by rw [List.getD_eq_getElem?_getD,List.getElem?_eq_getElem hl];rfl
      rw [e2] at hc
      cases hc
      rcases hn with hn | hn
      · exact absurd hl hn
      · exact fun q=>hn (zds.2 q)
    · rw [List.drop_eq_nil_of_le hl] at hc;cases hc
theorem Mine.pos (hn:¬ j < ys.length∨¬ adL (ys.getD j default).who=adL z.who) {y:Ch} {ys2:List Ch} (he:ys=y::ys2) (hw:y.v.who=z.v.who):0 < j:=by
  cases j with
  | zero=>
    subst he
    rcases hn with hn | hn
    · exact absurd (Nat.zero_lt_succ _) hn
    · exact absurd (zds.2 hw) hn
  | succ j=>exact Nat.zero_lt_succ _
end
theorem zrL {w:World} {A:Option Addr} {x:Ch} {xs:List Ch} (h:Cs w A (rowC (x::xs))):Cs w (some ((A.getD default).add (0*35+0))) (rowN .u8 (adL x.who)):=by
  have h2:=zrM h
  cases A with
  | none=>
    obtain ⟨ad,q,_⟩:=h 0 _ rfl
    cases q
  | some ad=>
    have h0:ad.add (0*35+0)=ad:=by cases ad;simp [Addr.add]
    rw [show (some ad:Option Addr).getD default=ad from rfl,h0]
    exact h2
theorem zno {w:World} {A:Option Addr} {ys:List Ch} (h:Cs w A (rowC ys)) (j:Nat):Cs w A (rowC (ys.take j)):=by
  rw [← List.take_append_drop j ys,zez] at h
  exact h.pre
theorem AllMay.take {ys:List Ch} (h:AllMay ys) (j:Nat):AllMay (ys.take j):=fun c hc=>h c (List.mem_of_mem_take hc)
theorem AllMay.drop {ys:List Ch} (h:AllMay ys) (j:Nat):AllMay (ys.drop j):=fun c hc=>h c (List.mem_of_mem_drop hc)
theorem zqr (a:Ac):a.void↔a.v.void:=by
  unfold Ac.void AV.void Ac.v
  dsimp only
  rw [List.length_eq_zero_iff,List.length_eq_zero_iff,List.map_eq_nil_iff]
theorem ztL {xs:List Ac} {c:CV} (h:xs.length=0∨(0 < xs.length∧c.who < (xs.getD 0 default).v.who)):xs.map Ac.v=[]∨∃ a l',xs.map Ac.v=a::l'∧c.who < a.who:=by
  cases xs with
  | nil=>exact .inl rfl
  | cons x xs=>
    rcases h with h | h
    · cases h
    · exact .inr ⟨x.v,xs.map Ac.v,rfl,h.2⟩
theorem ztK {ys:List Ch} {a:AV} (h:ys.length=0∨¬ (ys.getD 0 default).v.who < a.who):ys.map Ch.v=[]∨∃ c cs,ys.map Ch.v=c::cs∧¬ c.who < a.who:=by
  cases ys with
  | nil=>exact .inl rfl
  | cons y ys=>
    rcases h with h | h
    · cases h
    · exact .inr ⟨y.v,ys.map Ch.v,rfl,h⟩
def Cap (l:List Ac):Prop:=∀ a∈l,a.sl.length≤a.sC
theorem Cap.nil:Cap []:=fun a h=>by cases h
theorem Cap.head {a:Ac} {l:List Ac} (h:Cap (a::l)):a.sl.length≤a.sC:=h a List.mem_cons_self
theorem Cap.tail {a:Ac} {l:List Ac} (h:Cap (a::l)):Cap l:=fun x hx=>h x (List.mem_cons_of_mem _ hx)
theorem Cap.snoc {a:Ac} {l:List Ac} (h:Cap l) (h2:a.sl.length≤a.sC):Cap (l++[a]):=fun x hx=>by
  rcases List.mem_append.1 hx with q | q
  · exact h x q
  · rw [List.mem_singleton.1 q];exact h2
def Few (l:List Ac):Prop:=∀ a∈l,a.sl.length≤500000000
theorem Few.head {a:Ac} {l:List Ac} (h:Few (a::l)):a.sl.length≤500000000:=h a List.mem_cons_self
theorem Few.tail {a:Ac} {l:List Ac} (h:Few (a::l)):Few l:=fun x hx=>h x (List.mem_cons_of_mem _ hx)
theorem zoG {J R R0:Option (List AV)} {o:Option AV} {zs m:List AV} {a:AV} (hj:J=R0.map (zs++·)) (hs:R0=o.bind fun a'=>R.map (keepA a'++·)) (ho:o=some a) (hm:keepA a=m):J=R.map ((zs++m)++·):=by
  rw [hj,hs,ho,Option.bind_some,hm]
  cases R<;>simp
theorem zsU {J R R0:Option (List AV)} {o:Option AV} {zs:List AV} (hj:J=R0.map (zs++·)) (hs:R0=o.bind fun a'=>R.map (keepA a'++·)) (ho:o=none):J=none:=by
  rw [hj,hs,ho];rfl
theorem zpA {a:Ac} (h:¬ a.void):keepA a.v=[a].map Ac.v:=if_neg (fun q=>h ((zqr a).2 q))
theorem zsn {a:Ac} (h:a.void):keepA a.v=[]:=if_pos ((zqr a).1 h)
theorem zrG (zs:List Ac) (a:Ac):(zs++[a]).map Ac.v=zs.map Ac.v++[a].map Ac.v:=List.map_append
theorem zuG {J:Option (List AV)} {zs:List AV} (h:J=(apL [] []).map (zs++·)):J=some zs:=by rw [h,zoH];simp
end Go.Fw
namespace Go.Fw
open Go
def slotV:List (Nat×Nat)→Nat→Nat
  | [],_=>0
  | s::r,k=>if s.1=k then s.2 else slotV r k
def AV.val (a:AV) (k:Int) (key:Nat):Nat×List Nat:=if k=4 then (slotV a.sl key,[]) else if key≠0 then (0,[]) else if k=1 then (a.nonce,[]) else if k=2 then (a.bal,[]) else if k=3 then (0,a.code) else (0,[])
def valA:List AV→Nat×Int×Nat→Nat×List Nat
  | [],_=>(0,[])
  | a::l,s=>if a.who=s.1 then a.val s.2.1 s.2.2 else valA l s
def df (s:Nat×Int×Nat) (u v:Nat×List Nat):Option CV:=if u=v then none else some ⟨s.1,s.2.1,s.2.2,u.1,v.1,u.2,v.2⟩
theorem zbM (s:Nat×Int×Nat) (u:Nat×List Nat):df s u u=none:=if_pos rfl
theorem zdx (s:Nat×Int×Nat):∀ (x y:List CV),at_ s (x++y)=(at_ s x).or (at_ s y)
  | [],y=>rfl
  | c::x,y=>by
    rw [List.cons_append]
    by_cases h:c.sp=s
    · rw [zbD h,zbD h];rfl
    · rw [zbV h,zbV h,zdx s x y]
theorem zkz {s:Nat×Int×Nat}:∀ {x:List CV},(∀ c∈x,c.sp≠s)→at_ s x=none
  | [],_=>rfl
  | c::x,h=>by rw [zbV (h c List.mem_cons_self),zkz (fun d hd=>h d (List.mem_cons_of_mem _ hd))]
theorem zaY {k:Nat}:∀ {xs:List (Nat×Nat)},(∀ s∈xs,k < s.1)→slotV xs k=0
  | [],_=>rfl
  | s::xs,h=>by
    have:=h s List.mem_cons_self
    rw [slotV,if_neg (by omega),zaY (fun t ht=>h t (List.mem_cons_of_mem _ ht))]
theorem zoA {w k o n j:Nat}:at_ (w,4,j) (emC w k o n)=if k=j then df (w,4,j) (o,[]) (n,[]) else none:=by
  unfold emC
  by_cases h:o=n
  · subst h;rw [if_pos rfl,zbM];split<;>rfl
  · rw [if_neg h]
    by_cases hk:k=j
    · subst hk;rw [if_pos rfl,zbD (s:=(w,4,k)) rfl];unfold df;rw [if_neg (fun q=>h (congrArg Prod.fst q))]
    · have hs:(CV.mk w 4 k o n [] []).sp≠(w,4,j):=fun q=>hk (congrArg (fun s:Nat×Int×Nat=>s.2.2) q)
      rw [zbV hs,if_neg hk];rfl
theorem zcK (s:Nat×Nat) (r:List (Nat×Nat)) (k:Nat):slotV (s::r) k=if s.1=k then s.2 else slotV r k:=rfl
theorem zeH (a:AV) (l:List AV) (s:Nat×Int×Nat):valA (a::l) s=if a.who=s.1 then a.val s.2.1 s.2.2 else valA l s:=rfl
theorem zmz (w j:Nat):∀ (xa xb:List (Nat×Nat)),SlW xa→SlW xb→at_ (w,4,j) (slL w xa xb)=df (w,4,j) (slotV xa j,[]) (slotV xb j,[])
  | [],[],_,_=>by rw [zeL,zbM];rfl
  | a::xa,[],ha,hb=>by
    rw [sl_a (.inl rfl),zdx,zoA,zmz w j xa [] ha.tail hb,zcK]
    by_cases h:a.1=j
    · rw [if_pos h,if_pos h,zaY (xs:=xa) (by rw [← h];exact ha.lt)]
      show (df _ _ (0,[])).or (df _ (0,[]) (0,[]))=_
      rw [zbM,Option.or_none];rfl
    · rw [if_neg h,if_neg h,Option.none_or]
  | [],b::xb,ha,hb=>by
    rw [sl_b (.inl rfl),zdx,zoA,zmz w j [] xb ha hb.tail,zcK]
    by_cases h:b.1=j
    · rw [if_pos h,if_pos h,zaY (xs:=xb) (by rw [← h];exact hb.lt)]
      show (df _ (0,[]) _).or (df _ (0,[]) (0,[]))=_
      rw [zbM,Option.or_none];rfl
    · rw [if_neg h,if_neg h,Option.none_or]
  | a::xa,b::xb,ha,hb=>by
    rcases Int.lt_trichotomy (wcmp a.1 b.1) 0 with hw | hw | hw
    · have hk:=(zmI ha.key hb.key).1 hw
      rw [sl_a (.inr ⟨b,xb,rfl,hw⟩),zdx,zoA,zmz w j xa (b::xb) ha.tail hb,zcK a xa]
      by_cases h:a.1=j
      · have h2:slotV (b::xb) j=0:=zaY (fun s hs=>by
          rcases List.mem_cons.1 hs with rfl | hs
          · omega
          · have:=hb.lt s hs;omega)
        rw [if_pos h,if_pos h,h2,zaY (xs:=xa) (by rw [← h];exact ha.lt),zbM,Option.or_none]
      · rw [if_neg h,if_neg h,Option.none_or]
    · have hk:=(zfn ha.key hb.key).1 hw
      rw [zhd hw,zdx,zoA,zmz w j xa xb ha.tail hb.tail,zcK a xa,zcK b xb,hk]
      by_cases h:b.1=j
      · rw [if_pos h,if_pos h,if_pos h,zaY (xs:=xa) (by rw [← h,← hk];exact ha.lt),zaY (xs:=xb) (by rw [← h];exact hb.lt),zbM,Option.or_none]
      · rw [if_neg h,if_neg h,if_neg h,Option.none_or]
    · have hk:=(zqq ha.key hb.key).1 hw
      rw [sl_b (.inr ⟨a,xa,rfl,hw⟩),zdx,zoA,zmz w j (a::xa) xb ha hb.tail,zcK b xb]
      by_cases h:b.1=j
      · have h2:slotV (a::xa) j=0:=zaY (fun s hs=>by
          rcases List.mem_cons.1 hs with rfl | hs
          · omega
          · have:=ha.lt s hs;omega)
        rw [if_pos h,if_pos h,h2,zaY (xs:=xb) (by rw [← h];exact hb.lt),zbM,Option.or_none]
      · rw [if_neg h,if_neg h,Option.none_or]
termination_by xa xb=>xa.length+xb.length
theorem zoy {c:CV} {s:Nat×Int×Nat} {p:Prop} [Decidable p]:at_ s (if p then [] else [c])=if c.sp=s∧¬ p then some c else none:=by
  by_cases h:p
  · rw [if_pos h,if_neg (fun q=>q.2 h)];rfl
  · rw [if_neg h]
    by_cases h2:c.sp=s
    · rw [zbD h2,if_pos ⟨h2,h⟩]
    · rw [zbV h2,if_neg (fun q=>h2 q.1)];rfl
theorem zsR {a b:AV} (hw:a.who=b.who) (ha:a.Wf) (hb:b.Wf) (k:Int) (key:Nat):at_ (a.who,k,key) (btV a b)=df (a.who,k,key) (a.val k key) (b.val k key):=by
  unfold btV
  rw [zdx,zdx,zdx,zoy,zoy,zoy]
  have hs:k≠4→at_ (a.who,k,key) (slL a.who a.sl b.sl)=none:=fun h=>zkz (fun c hc q=>h (by rw [← (zdD _ _ _ c hc).1.kind];exact (congrArg (fun s:Nat×Int×Nat=>s.2.1) q).symm))
  have ne:∀ {k':Int} {o n:Nat} {oc nc:List Nat},k'≠k∨key≠0→(CV.mk a.who k' 0 o n oc nc).sp≠(a.who,k,key):=fun {k' o n oc nc} h q=>by
    have e1:=congrArg (fun s:Nat×Int×Nat=>s.2.1) q
    have e2:=congrArg (fun s:Nat×Int×Nat=>s.2.2) q
    have e1:k'=k:=e1
    have e2:0=key:=e2
    rcases h with h | h
    · exact h e1
    · exact h e2.symm
  by_cases h4:k=4
  · subst h4
    rw [if_neg (fun q=>ne (.inl (by decide)) q.1),if_neg (fun q=>ne (.inl (by decide)) q.1),if_neg (fun q=>ne (.inl (by decide)) q.1),zmz _ _ _ _ ha.hs hb.hs]
    unfold AV.val
    rw [if_pos rfl,if_pos rfl];rfl
  · rw [hs h4,Option.or_none]
    unfold AV.val
    rw [if_neg h4,if_neg h4]
    by_cases h0:key=0
    · subst h0
      have z:¬ (0:Nat)≠0:=fun q=>q rfl
      rw [if_neg z,if_neg z]
      by_cases h1:k=1
      · subst h1
        rw [if_neg (c:=_∧¬ a.bal=b.bal) (fun q=>ne (.inl (by decide)) q.1),if_neg (c:=_∧¬ a.code=b.code) (fun q=>ne (.inl (by decide)) q.1),Option.or_none,Option.or_none,if_pos rfl,if_pos rfl]
        unfold df
        by_cases h:a.nonce=b.nonce
        · rw [if_neg (fun q=>q.2 h),if_pos (by rw [h])]
        · rw [if_pos ⟨rfl,h⟩,if_neg (fun q=>h (congrArg Prod.fst q))]
      · rw [if_neg (c:=_∧¬ a.nonce=b.nonce) (fun q=>ne (.inl (Ne.symm h1)) q.1),if_neg h1,if_neg h1,Option.none_or]
        by_cases h2:k=2
        · subst h2
          rw [if_neg (c:=_∧¬ a.code=b.code) (fun q=>ne (.inl (by decide)) q.1),Option.or_none,if_pos rfl,if_pos rfl]
          unfold df
          by_cases h:a.bal=b.bal
          · rw [if_neg (fun q=>q.2 h),if_pos (by rw [h])]
          · rw [if_pos ⟨rfl,h⟩,if_neg (fun q=>h (congrArg Prod.fst q))]
        · rw [if_neg (c:=_∧¬ a.bal=b.bal) (fun q=>ne (.inl (Ne.symm h2)) q.1),if_neg h2,if_neg h2,Option.none_or]
          by_cases h3:k=3
          · subst h3
            rw [if_pos rfl,if_pos rfl]
            unfold df
            by_cases h:a.code=b.code
            · rw [if_neg (fun q=>q.2 h),if_pos (by rw [h])]
            · rw [if_pos ⟨rfl,h⟩,if_neg (fun q=>h (congrArg Prod.snd q))]
          · rw [if_neg (fun q=>ne (.inl (Ne.symm h3)) q.1),if_neg h3,if_neg h3,zbM]
    · rw [if_pos h0,if_pos h0,zbM,if_neg (fun q=>ne (.inr h0) q.1),if_neg (fun q=>ne (.inr h0) q.1),if_neg (fun q=>ne (.inr h0) q.1)];rfl
theorem zlI (w:Nat) (k:Int) (key:Nat):(AV.bare w).val k key=(0,[]):=by
  unfold AV.val AV.bare
  split
  · rfl
  · split
    · rfl
    · split
      · rfl
      · split
        · rfl
        · split<;>rfl
theorem zbG {s:Nat×Int×Nat}:∀ {l:List AV},(∀ a∈l,s.1 < a.who)→valA l s=(0,[])
  | [],_=>rfl
  | a::l,h=>by
    have:=h a List.mem_cons_self
    rw [valA,if_neg (by omega),zbG (fun t ht=>h t (List.mem_cons_of_mem _ ht))]
theorem ziw {s:Nat×Int×Nat} {w:Nat} {k:Int} {d:List CV} (h:InD w k d) (hw:w≠s.1):at_ s d=none:=zkz (fun c hc q=>hw (by rw [← h.who c hc];exact congrArg Prod.fst q))
theorem zoz {x y:List AV} (h:Step x y) (s:Nat×Int×Nat):at_ s (ofL x y)=df s (valA x s) (valA y s):=by
  obtain ⟨w,k,key⟩:=s
  induction h with
  | nil=>rw [zdM,zbM];rfl
  | @a a xa xb h1 h2 h3 h4 h5 ih=>
    rw [h4,zdx,ih,zeH]
    by_cases hw:a.who=w
    · subst hw
      rw [if_pos rfl,zsR (a:=a) (b:=.bare a.who) rfl h1.hd (AV.bare_wf _),zlI,zbG (l:=xa) h1.lt,zbG (l:=xb) h3,zbM,Option.or_none]
    · rw [if_neg hw,ziw (zbU h1.hd (AV.bare_wf _)) hw,Option.none_or]
  | @b b xa xb h1 h2 h3 h4 h5 ih=>
    rw [h4,zdx,ih,zeH b xb]
    by_cases hw:b.who=w
    · subst hw
      have:=zsR (a:=.bare b.who) (b:=b) rfl (AV.bare_wf _) h2.hd k key
      rw [if_pos rfl,zbG (l:=xa) h3,zbG (l:=xb) h2.lt,zbM,Option.or_none]
      rw [zlI] at this
      exact this
    · rw [if_neg hw,ziw (s:=(w,k,key)) (zbU (a:=.bare b.who) (b:=b) (AV.bare_wf b.who) h2.hd) hw,Option.none_or]
  | @ab a b xa xb h1 h2 h3 h4 h5 ih=>
    rw [h4,zdx,ih,zeH a xa,zeH b xb,← h3]
    by_cases hw:a.who=w
    · subst hw
      rw [if_pos rfl,if_pos rfl,zsR h3 h1.hd h2.hd,zbG (l:=xa) h1.lt,zbG (l:=xb) (by rw [h3];exact h2.lt),zbM,Option.or_none]
    · rw [if_neg hw,if_neg hw,ziw (zbU h1.hd h2.hd) hw,Option.none_or]
theorem zie:∀ (az bs:List CV) (ha:NfL az) (hb:NfL bs) (oa:Ord az) (ob:Ord bs) (h:∀ s a b,at_ s az=some a→at_ s bs=some b→a.meets b),∃ l,joinL az bs=some l
  | [],bs,_,_,_,_,_=>⟨bs,zbJ _⟩
  | a::az,[],_,_,_,_,_=>⟨a::az,zcP _⟩
  | a::az,b::bs,ha,hb,oa,ob,h=>by
    rcases Int.lt_trichotomy (spotZ a b) 0 with h1 | h1 | h1
    · obtain ⟨l,hl⟩:=zie az (b::bs) ha.tail hb oa.tail ob (fun s x y hx hy=>by
        by_cases hs:a.sp=s
        · subst hs;rw [zbE ha.head ha.tail oa.head] at hx;cases hx
        · exact h s x y (by rw [zbV hs];exact hx) hy)
      exact ⟨a::l,by rw [zli a az (b::bs) (.inr ⟨b,bs,rfl,h1⟩),hl];rfl⟩
    · have hsp:=(zpa ha.head hb.head).1 h1
      have hm:=h a.sp a b (zbD rfl) (zbD hsp.symm)
      obtain ⟨l,hl⟩:=zie az bs ha.tail hb.tail oa.tail ob.tail (fun s x y hx hy=>by
        by_cases hs:a.sp=s
        · subst hs;rw [zbE ha.head ha.tail oa.head] at hx;cases hx
        · exact h s x y (by rw [zbV hs];exact hx) (by rw [zbV (by rw [← hsp];exact hs)];exact hy))
      by_cases hi:(a.then b).idle
      · exact ⟨l,by rw [zdR h1 hm hi,hl]⟩
      · exact ⟨_,by rw [zfc h1 hm hi,hl];rfl⟩
    · obtain ⟨l,hl⟩:=zie (a::az) bs ha hb.tail oa ob.tail (fun s x y hx hy=>by
        by_cases hs:b.sp=s
        · subst hs;rw [zbE hb.head hb.tail ob.head] at hy;cases hy
        · exact h s x y hx (by rw [zbV hs];exact hy))
      exact ⟨b::l,by rw [zlh b (a::az) bs (.inr ⟨a,az,rfl,h1⟩),hl];rfl⟩
termination_by az bs=>az.length+bs.length
theorem zom {s:Nat×Int×Nat} {u v:Nat×List Nat} {c:CV} (h:df s u v=some c):c=⟨s.1,s.2.1,s.2.2,u.1,v.1,u.2,v.2⟩∧u≠v:=by
  unfold df at h
  split at h
  · cases h
  · rename_i q;cases h;exact ⟨rfl,q⟩
theorem J1_df (s:Nat×Int×Nat) (u v w:Nat×List Nat):J1 (df s u v) (df s v w)=df s u w:=by
  unfold df
  by_cases h1:u=v
  · subst h1;rw [if_pos rfl];rfl
  · rw [if_neg h1]
    by_cases h2:v=w
    · subst h2;rw [if_pos rfl,ztc,if_neg h1]
    · rw [if_neg h2]
      have e1:∀ x y:CV,J1 (some x) (some y)=if x.old=y.new∧x.oc=y.nc then none else some (x.then y):=fun x y=>rfl
      rw [e1]
      by_cases h3:u=w
      · subst h3;rw [if_pos rfl,if_pos ⟨rfl,rfl⟩]
      · rw [if_neg h3,if_neg (fun q=>h3 (Prod.ext q.1 q.2))];rfl
theorem zrY {x y z:List AV} (hx:WfL x) (hy:WfL y) (hz:WfL z):joinZ (ofL x y) (ofL y z)=(ofL x z,0):=by
  have s1:=steps x y hx hy
  have s2:=steps y z hy hz
  have s3:=steps x z hx hz
  have f1:=zlb s1
  have f2:=zlb s2
  have f3:=zlb s3
  obtain ⟨l,hl⟩:=zie _ _ f1.nf f2.nf f1.ord f2.ord (fun s a b h1 h2=>by
    rw [zoz s1] at h1
    rw [zoz s2] at h2
    rw [(zom h1).1,(zom h2).1]
    exact ⟨rfl,rfl⟩)
  obtain ⟨o,hs⟩:=zdQ _ _ l f1.nf f2.nf f1.ord f2.ord hl
  rw [zef f1.form f2.form hl]
  rw [zrj l (ofL x z) (zso f1.nf f2.nf hl) f3.nf o f3.ord (fun s=>by rw [(hs s).1,zoz s1,zoz s2,zoz s3,J1_df])]
end Go.Fw
namespace Go.Fw
open Go
theorem zjo (who k o n:Nat):(emC who k o n).length≤1:=by unfold emC;split<;>simp
theorem zht:∀ (who:Nat) (xa xb:List (Nat×Nat)),(slL who xa xb).length≤xa.length+xb.length
  | who,[],[]=>by rw [zeL];exact Nat.le_refl _
  | who,a::xa,[]=>by
    have:=zht who xa []
    have h2:=zjo who a.1 a.2 0
    rw [sl_a (.inl rfl),List.length_append];simp at *; omega
  | who,[],b::xb=>by
    have:=zht who [] xb
    have h2:=zjo who b.1 0 b.2
    rw [sl_b (.inl rfl),List.length_append];simp at *; omega
  | who,a::xa,b::xb=>by
    rcases Int.lt_trichotomy (wcmp a.1 b.1) 0 with hw | hw | hw
    · have:=zht who xa (b::xb)
      have h2:=zjo who a.1 a.2 0
      rw [sl_a (.inr ⟨b,xb,rfl,hw⟩),List.length_append];simp at *; omega
    · have:=zht who xa xb
      have h2:=zjo who b.1 a.2 b.2
      rw [zhd hw,List.length_append];simp at *; omega
    · have:=zht who (a::xa) xb
      have h2:=zjo who b.1 0 b.2
      rw [sl_b (.inr ⟨a,xa,rfl,hw⟩),List.length_append];simp at *; omega
termination_by _ xa xb=>xa.length+xb.length
def szA:List AV→Nat
  | []=>0
  | a::l=>1+a.sl.length+szA l
theorem zkJ:∀ {l:List AV} {a:AV},a∈l→a.sl.length≤szA l
  | b::l,a,h=>by
    rcases List.mem_cons.1 h with rfl | h
    · rw [szA];omega
    · have:=zkJ h;rw [szA];omega
theorem zqs:∀ (l:List AV),l.length≤szA l
  | []=>Nat.le_refl _
  | a::l=>by have:=zqs l;rw [szA,List.length_cons];omega
theorem zjx (a b:AV):(btV a b).length≤3+a.sl.length+b.sl.length:=by
  have h:=zht a.who a.sl b.sl
  unfold btV
  rw [List.length_append,List.length_append,List.length_append]
  have one:∀ (p:Prop) [Decidable p] (c:CV),(if p then [] else [c]:List CV).length≤1:=fun p _ c=>by split<;>simp
  have h1:=one (a.nonce=b.nonce) ⟨a.who,1,0,a.nonce,b.nonce,[],[]⟩
  have h2:=one (a.bal=b.bal) ⟨a.who,2,0,a.bal,b.bal,[],[]⟩
  have h3:=one (a.code=b.code) ⟨a.who,3,0,0,0,a.code,b.code⟩
  omega
theorem zhE:∀ (x y:List AV),(ofL x y).length≤3*(szA x+szA y)
  | [],[]=>by rw [zdM];exact Nat.zero_le _
  | a::x,[]=>by
    have h1:=zjx a (.bare a.who)
    have h2:=zhE x []
    have h3:(AV.bare a.who).sl.length=0:=rfl
    have e1:szA (a::x)=1+a.sl.length+szA x:=rfl
    rw [of_a (.inl rfl),List.length_append];omega
  | [],b::y=>by
    have h1:=zjx (.bare b.who) b
    have h2:=zhE [] y
    have h3:(AV.bare b.who).sl.length=0:=rfl
    have e1:szA (b::y)=1+b.sl.length+szA y:=rfl
    rw [of_b (.inl rfl),List.length_append];omega
  | a::x,b::y=>by
    have e1:szA (a::x)=1+a.sl.length+szA x:=rfl
    have e2:szA (b::y)=1+b.sl.length+szA y:=rfl
    rcases Nat.lt_trichotomy a.who b.who with hw | hw | hw
    · have h1:=zjx a (.bare a.who)
      have h2:=zhE x (b::y)
      have h3:(AV.bare a.who).sl.length=0:=rfl
      rw [of_a (.inr ⟨b,y,rfl,hw⟩),List.length_append];omega
    · have h1:=zjx a b
      have h2:=zhE x y
      rw [zja hw,List.length_append];omega
    · have h1:=zjx (.bare b.who) b
      have h2:=zhE (a::x) y
      have h3:(AV.bare b.who).sl.length=0:=rfl
      rw [of_b (.inr ⟨a,x,rfl,hw⟩),List.length_append];omega
termination_by x y=>x.length+y.length
def CodeA (k:Nat) (l:List AV):Prop:=∀ a∈l,a.code.length≤k
def CodeC (k:Nat) (d:List CV):Prop:=∀ c∈d,c.oc.length≤k∧c.nc.length≤k
theorem CodeC.app {k:Nat} {x y:List CV} (h:CodeC k x) (h2:CodeC k y):CodeC k (x++y):=fun c hc=>by
  rcases List.mem_append.1 hc with q | q
  · exact h c q
  · exact h2 c q
theorem zgV {k:Nat} {a b:AV} (ha:a.code.length≤k) (hb:b.code.length≤k):CodeC k (btV a b):=by
  have one:∀ (p:Prop) [Decidable p] (c:CV),(c.oc.length≤k∧c.nc.length≤k)→CodeC k (if p then [] else [c]):=fun p _ c hc x hx=>by
    split at hx
    · cases hx
    · rw [List.mem_singleton.1 hx];exact hc
  unfold btV
  refine ((CodeC.app (one _ _ ⟨Nat.zero_le _,Nat.zero_le _⟩) (one _ _ ⟨Nat.zero_le _,Nat.zero_le _⟩)).app (one _ _ ⟨ha,hb⟩)).app (fun c hc=>?_)
  have h:=(zdD _ _ _ c hc).1
  rw [h.oc,h.nc]
  exact ⟨Nat.zero_le _,Nat.zero_le _⟩
theorem CodeA.tail {k:Nat} {a:AV} {l:List AV} (h:CodeA k (a::l)):CodeA k l:=fun x hx=>h x (List.mem_cons_of_mem _ hx)
theorem CodeA.head {k:Nat} {a:AV} {l:List AV} (h:CodeA k (a::l)):a.code.length≤k:=h a List.mem_cons_self
theorem CodeA.cons {k:Nat} {a:AV} {l:List AV} (h:CodeA k l) (h2:a.code.length≤k):CodeA k (a::l):=fun x hx=>by
  rcases List.mem_cons.1 hx with rfl | hx
  · exact h2
  · exact h x hx
theorem zdf {k:Nat}:∀ (x y:List AV),CodeA k x→CodeA k y→CodeC k (ofL x y)
  | [],[],_,_=>by rw [zdM];exact fun c hc=>(by cases hc)
  | a::x,[],hx,hy=>by rw [of_a (.inl rfl)];exact (zgV hx.head (Nat.zero_le _)).app (zdf x [] hx.tail hy)
  | [],b::y,hx,hy=>by rw [of_b (.inl rfl)];exact (zgV (Nat.zero_le _) hy.head).app (zdf [] y hx hy.tail)
  | a::x,b::y,hx,hy=>by
    rcases Nat.lt_trichotomy a.who b.who with hw | hw | hw
    · rw [of_a (.inr ⟨b,y,rfl,hw⟩)];exact (zgV hx.head (Nat.zero_le _)).app (zdf x (b::y) hx.tail hy)
    · rw [zja hw];exact (zgV hx.head hy.head).app (zdf x y hx.tail hy.tail)
    · rw [of_b (.inr ⟨a,x,rfl,hw⟩)];exact (zgV (Nat.zero_le _) hy.head).app (zdf (a::x) y hx hy.tail)
termination_by x y=>x.length+y.length
end Go.Fw
namespace Go.Fw
open Go
structure Ac.In (W:World) (a:Ac):Prop where
  hn:a.nonce < 18446744073709551616
  dC:Dg a.code
  lc:a.code.length≤1000000000000000
  ls:a.sl.length≤1000000000000000
  cap:a.sl.length≤a.sC
  fc:Cs W a.cA (rowN .u8 a.code)
  fs:Cs W a.sA (rowS a.sl)
theorem Ac.In.ok {W:World} {a:Ac} (h:a.In W) (hc:a.code.length≤1000000000000) (hs:a.sl.length≤1000000000):a.Ok W W.heap.size []:=⟨h.hn,h.dC,hc,hs,zlz h.fc,zlz h.fs⟩
def WdV (l:List AV):Prop:=∀ a∈l,a.nonce < 18446744073709551616∧∀ s∈a.sl,s.1 < 2^256
theorem znR {W:World} {n:Nat} {B:List (Option Nat)} {xs:List Ac} (h:AllA W n B xs):WdV (xs.map Ac.v):=fun a ha=>by
  obtain ⟨x,hx,rfl⟩:=List.mem_map.1 ha
  refine ⟨(h x hx).hn,fun s hs=>?_⟩
  obtain ⟨t,_,rfl⟩:=List.mem_map.1 hs
  exact Nat.mod_lt _ (by decide)
structure CkS (P:Program) (f:FuncId) (ck:List AV→Int×Int):Prop where
  ok:CkOk P f ck
  wf:∀ l,WdV l→(ck l).1=0→WfL l
  nil:(ck []).1=0
  b5:(ck [⟨0,0,5,[],[]⟩]).1=0
  b2:(ck [⟨0,0,2,[],[]⟩]).1=0
theorem zhi:∀ (cs:List Ac) (n:Nat),weightR n cs≤262144→szA (cs.map Ac.v)+n≤cs.length+262144∧CodeA 262144 (cs.map Ac.v)
  | [],n,h=>by
    simp only [weightR] at h
    exact ⟨by simp [szA];omega,fun a ha=>by cases ha⟩
  | c::cs,n,h=>by
    unfold weightR at h
    split at h
    · obtain ⟨h1,h2⟩:=zhi cs _ h
      have h3:=zhj cs (n+c.code.length+c.sl.length)
      refine ⟨?_,h2.cons (show c.code.length≤262144 by omega)⟩
      have e:szA ((c::cs).map Ac.v)=1+(c.sl.map Sl.v).length+szA (cs.map Ac.v):=rfl
      rw [e,List.length_map,List.length_cons]
      omega
    · omega
structure Lite (w:World) (n:Nat) (xs:List Ac):Prop where
  ok:AllA w n [] xs
  cap:Cap xs
  sz:szA (xs.map Ac.v)≤262144
  code:CodeA 262144 (xs.map Ac.v)
  len:xs.length≤262144
theorem lite {w:World} {n:Nat} {xs:List Ac} (hn:n=w.heap.size) (h:∀ x∈xs,x.In w) (hl:weightR xs.length xs≤262144):Lite w n xs:=by
  obtain ⟨h1,h2⟩:=zhi xs xs.length hl
  have h3:=zqs (xs.map Ac.v)
  rw [List.length_map] at h3
  refine ⟨fun a ha=>?_,fun a ha=>(h a ha).cap,by omega,h2,by omega⟩
  have h4:=h2 a.v (List.mem_map.2 ⟨a,ha,rfl⟩)
  have h5:=zkJ (List.mem_map.2 ⟨a,ha,rfl⟩:a.v∈xs.map Ac.v)
  have h4:a.code.length≤262144:=h4
  have h5:(a.sl.map Sl.v).length≤szA (xs.map Ac.v):=h5
  rw [List.length_map] at h5
  rw [hn]
  exact (h a ha).ok (by omega) (by omega)
theorem zii {w:World} {xs:List Ac} (h:∀ x∈xs,x.In w):∀ c∈xs,c.code.length≤1000000000000000∧c.sl.length≤1000000000000000:=fun c hc=>⟨(h c hc).lc,(h c hc).ls⟩
theorem zbu {xs:List Ac} {K Z:Nat} (hk:CodeA K (xs.map Ac.v)) (hz:szA (xs.map Ac.v)≤Z) (h1:K≤100000000) (h2:Z≤100000000):SmallA xs:=fun a ha=>by
  have h4:=hk a.v (List.mem_map.2 ⟨a,ha,rfl⟩)
  have h5:=zkJ (List.mem_map.2 ⟨a,ha,rfl⟩:a.v∈xs.map Ac.v)
  have h4:a.code.length≤K:=h4
  have h5:(a.sl.map Sl.v).length≤szA (xs.map Ac.v):=h5
  rw [List.length_map] at h5
  exact ⟨by omega,by omega⟩
theorem zrg {xs:List Ac} {Z:Nat} (hz:szA (xs.map Ac.v)≤Z) (h2:Z≤500000000):Few xs:=fun a ha=>by
  have h5:=zkJ (List.mem_map.2 ⟨a,ha,rfl⟩:a.v∈xs.map Ac.v)
  have h5:(a.sl.map Sl.v).length≤szA (xs.map Ac.v):=h5
  rw [List.length_map] at h5
  omega
theorem zci {ds:List Ch} {K:Nat} (hk:CodeC K (ds.map Ch.v)) (h1:K≤262144):∀ c∈ds,c.oc.length≤262144∧c.nc.length≤262144:=fun c hc=>by
  have h4:=hk c.v (List.mem_map.2 ⟨c,hc,rfl⟩)
  have h4:c.oc.length≤K∧c.nc.length≤K:=h4
  exact ⟨by omega,by omega⟩
theorem zeb {W:World} {n:Nat} {B:List (Option Nat)} {xs:List Ac} (h:AllLA W n B xs):Cap xs:=fun a ha=>by have:=(h a ha).cs;omega
theorem zqH {xs:List Ac} {l:List AV} (h:xs.map Ac.v=l):xs.length=l.length:=by rw [← h,List.length_map]
theorem zfK {xs:List Ch} {l:List CV} (h:xs.map Ch.v=l):xs.length=l.length:=by rw [← h,List.length_map]
theorem zeV {X Y:List AV} (hx:szA X≤3000000) (hy:szA Y≤3000000):(ofL X Y).length≤18000000:=by have:=zhE X Y;omega
section
variable {P:Program} {f:FuncId} {ck:List AV→Int×Int} {X Y Z:List AV} {D:List CV}
theorem CkS.step (S:CkS P f ck) (hx:WdV X) (hy:WdV Y) (h1:(ck X).1=0) (h2:(ck Y).1=0):Step X Y:=steps X Y (S.wf X hx h1) (S.wf Y hy h2)
theorem CkS.leads (S:CkS P f ck) (hx:WdV X) (hy:WdV Y) (h1:(ck X).1=0) (h2:(ck Y).1=0):apZ ck X (ofL X Y)=(Y,0):=
  zoI h1 (zlb (S.step hx hy h1 h2)).form (zsV (S.step hx hy h1 h2)) h2
theorem CkS.turned (S:CkS P f ck) (hx:WdV X) (hy:WdV Y) (h1:(ck X).1=0) (h2:(ck Y).1=0):(ofL X Y).map CV.turn=ofL Y X:=zrW (S.step hx hy h1 h2)
theorem CkS.none (S:CkS P f ck) (hx:WdV X) (hy:WdV Y) (h1:(ck X).1=0) (h2:(ck Y).1=0):ofL X Y=[]↔X=Y:=zrX (S.step hx hy h1 h2)
theorem CkS.join (S:CkS P f ck) (hx:WdV X) (hy:WdV Y) (hz:WdV Z) (h1:(ck X).1=0) (h2:(ck Y).1=0) (h3:(ck Z).1=0):joinZ (ofL X Y) (ofL Y Z)=(ofL X Z,0):=zrY (S.wf X hx h1) (S.wf Y hy h2) (S.wf Z hz h3)
theorem CkS.join_back (S:CkS P f ck) (hx:WdV X) (hy:WdV Y) (h1:(ck X).1=0) (h2:(ck Y).1=0):joinZ (ofL X Y) ((ofL X Y).map CV.turn)=([],0):=by
  rw [S.turned hx hy h1 h2,S.join hx hy hx h1 h2 h1,(S.none hx hx h1 h1).2 rfl]
end
structure LiteB (w:World) (n:Nat) (B:List (Option Nat)) (xs:List Ac):Prop where
  ok:AllA w n B xs
  cap:Cap xs
  sz:szA (xs.map Ac.v)≤262144
  code:CodeA 262144 (xs.map Ac.v)
  len:xs.length≤262144
theorem Lite.at {w w':World} {n:Nat} {B:List (Option Nat)} {xs:List Ac} (h:Lite w n xs) (k:AllA w' n B xs):LiteB w' n B xs:=⟨k,h.cap,h.sz,h.code,h.len⟩
theorem Lite.sz3 {w:World} {n:Nat} {xs:List Ac} (h:Lite w n xs):szA (xs.map Ac.v)≤3000000:=Nat.le_trans h.sz (by decide)
theorem zjy (x:Nat) (h:x < 2^256):[Ac.ofBal x].map Ac.v=[AV.mk 0 0 x [] []]:=by
  show [AV.mk (0%256^20) 0 (x%2^256) [] []]=_
  rw [Nat.mod_eq_of_lt h,Nat.zero_mod]
theorem zgy {W:World} {n:Nat} {B:List (Option Nat)} (x:Nat):AllA W n B [Ac.ofBal x]:=AllA.snoc (cs:=[]) AllA.nil (zps x)
theorem zjU (x:Nat):Cap [Ac.ofBal x]:=fun a ha=>by rw [List.mem_singleton.1 ha];exact Nat.le_refl _
theorem zjV (x y:Nat) (h:x≠y):ofL [AV.mk 0 0 x [] []] [AV.mk 0 0 y [] []]=[CV.ofBal x y]:=by
  rw [zja (a:=⟨0,0,x,[],[]⟩) (b:=⟨0,0,y,[],[]⟩) rfl,zdM]
  unfold btV
  rw [if_pos rfl,if_neg h,if_pos rfl,zeL];rfl
theorem zif (x:Nat):WdV [AV.mk 0 0 x [] []]:=fun a ha=>by
  rw [List.mem_singleton.1 ha]
  exact ⟨by show 0 < 18446744073709551616;decide,fun s hs=>by cases hs⟩
theorem CkS.awake_of {P:Program} {f:FuncId} {ck:List AV→Int×Int} (S:CkS P f ck):ofZ ck [AV.mk 0 0 5 [] []] [AV.mk 0 0 2 [] []]=([CV.ofBal 5 2],0):=by rw [zfJ S.b5 S.b2,zjV 5 2 (by decide)]
theorem CkS.awake_ap {P:Program} {f:FuncId} {ck:List AV→Int×Int} (S:CkS P f ck):apZ ck [AV.mk 0 0 5 [] []] [CV.ofBal 5 2]=([AV.mk 0 0 2 [] []],0):=by
  have:=S.leads (zif 5) (zif 2) S.b5 S.b2
  rwa [zjV 5 2 (by decide)] at this
theorem CkS.awake_ap2 {P:Program} {f:FuncId} {ck:List AV→Int×Int} (S:CkS P f ck):apZ ck [AV.mk 0 0 2 [] []] [CV.ofBal 2 5]=([AV.mk 0 0 5 [] []],0):=by
  have:=S.leads (zif 2) (zif 5) S.b2 S.b5
  rwa [zjV 2 5 (by decide)] at this
end Go.Fw
namespace Go.Fw
open Go
structure Fu (n:Nat) (p:Prop):Prop where
  h:p
theorem Fu.s {n:Nat} {A B:Prop} (h:A→B) (a:Fu n A):Fu (n+1) B:=⟨h a.h⟩
section
variable {P:Program} {ops:Array Oper} {F:Act→World→Prop} {w0:World} {M:List Nat} {N:Nf} {L:List (Oper×K)} {σ:List (Nat×Value)} {l lS:List (Nat×Ent)} {k:K} {Q:Exit→Act→World→Prop}
def cP (f:Int→Int→Bool):Option Value→Option Value→Option Value
  | some (.int k n),some (.int k' m)=>match decide (k=k') with
    | true=>some (.bool (f n m))
    | false=>none
  | _,_=>none
theorem zsP {f:Int→Int→Bool} {x y:Option Value} {v:Value} (h:cP f x y=some v):∃ k n m,x=some (.int k n)∧y=some (.int k m)∧v=.bool (f n m):=by
  unfold cP at h
  split at h
  · split at h
    · rename_i k n k' m _ hk
      have:=of_decide_eq_true hk
      subst this
      cases h
      exact ⟨k,n,m,rfl,rfl,rfl⟩
    · cases h
  · cases h
def aO (σ:List (Nat×Value)):Op→Option Value
  | .move x=>ev σ x
  | .assign x=>ev σ x
  | .pick c x y=>match ev σ c with
    | some (.bool true)=>ev σ x
    | some (.bool false)=>ev σ y
    | _=>none
  | .extract x i=>match ev σ x with
    | some (.tuple vs)=>vs.toList[i]?
    | _=>none
  | .nilCheck x=>match ev σ x with
    | some (.pointer (some ad))=>some (.pointer (some ad))
    | _=>none
  | .binOp .lss _ x y _=>cP (fun n m=>decide (n < m)) (ev σ x) (ev σ y)
  | .binOp .leq _ x y _=>cP (fun n m=>decide (n≤m)) (ev σ x) (ev σ y)
  | .binOp .gtr _ x y _=>cP (fun n m=>decide (m < n)) (ev σ x) (ev σ y)
  | .binOp .geq _ x y _=>cP (fun n m=>decide (m≤n)) (ev σ x) (ev σ y)
  | .binOp .eql _ x y _=>cP (fun n m=>decide (n=m)) (ev σ x) (ev σ y)
  | .binOp .neq _ x y _=>cP (fun n m=>decide (n≠m)) (ev σ x) (ev σ y)
  | .unOp .not _ x=>match ev σ x with
    | some (.bool true)=>some (.bool false)
    | some (.bool false)=>some (.bool true)
    | _=>none
  | _=>none
theorem J.aO {d:Option Tmp} {op:Op} {ty:TypeId} {p:String} {af:Array Edge} {v:Value} (hv:Go.Fw.aO σ op=some v) (hd:okd N d) (h:J P ops F w0 M N lS L (putd d v σ) l):J P ops F w0 M N lS ((⟨d,op,ty,p,af,none⟩,k)::L) σ l:=by
  cases op with
  | move x=>exact J.bp hv hd h
  | assign x=>exact J.bu hv hd h
  | pick c x y=>
    simp only [Go.Fw.aO] at hv
    split at hv
    · rename_i hc;exact J.bQ hc hv hd h
    · rename_i hc;exact J.bR hc hv hd h
    · cases hv
  | extract x i=>
    simp only [Go.Fw.aO] at hv
    split at hv
    · rename_i vs hx;exact J.bx (vs:=vs.toList) (by rw [hx,Array.toArray_toList]) hv hd h
    · cases hv
  | nilCheck x=>
    simp only [Go.Fw.aO] at hv
    split at hv
    · rename_i ad hx;cases hv;exact J.ce hx hd h
    · cases hv
  | binOp u t x y t'=>
    cases u<;>simp only [Go.Fw.aO] at hv
    all_goals first | (cases hv;done) | (obtain ⟨k',n,m,hx,hy,rfl⟩:=zsP hv)
    case eql=>exact J.aT hx hy hd rfl h
    case neq=>exact J.be hx hy hd rfl h
    case lss=>exact J.bq hx hy hd rfl h
    case leq=>exact J.bB hx hy hd rfl h
    case gtr=>exact J.bD hx hy hd rfl h
    case geq=>exact J.br hx hy hd rfl h
  | unOp u t x=>
    cases u<;>simp only [Go.Fw.aO] at hv
    all_goals first | cases hv | skip
    split at hv
    · rename_i hx;cases hv;exact J.aA hx hd rfl h
    · rename_i hx;cases hv;exact J.aA hx hd rfl h
    · cases hv
  | _=>simp only [Go.Fw.aO] at hv;cases hv
def gV (ops:Array Oper) (σ:List (Nat×Value)):Option (Nat×Bool)→Option Bool
  | none=>some true
  | some (j,b)=>match ops[j]? with
    | some oj=>match oj.dst with
      | some t=>match lk σ t with
        | some (.bool b')=>some (b' == b)
        | some (.tuple ⟨[]⟩)=>some false
        | _=>none
      | none=>none
    | none=>none
def sV (ops:Array Oper) (o:Oper) (σ:List (Nat×Value)):Option Value:=match gV ops σ o.guard with
  | some true=>Go.Fw.aO σ o.op
  | some false=>some undef
  | none=>none
theorem J.sV {ops:Array Oper} {o:Oper} {v:Value} (hv:Go.Fw.sV ops o σ=some v) (hd:okd N o.dst) (h:J P ops F w0 M N lS L (putd o.dst v σ) l):J P ops F w0 M N lS ((o,k)::L) σ l:=by
  obtain ⟨d,op,ty,p,af,g⟩:=o
  simp only [Go.Fw.sV] at hv
  cases g with
  | none=>simp only [gV] at hv;exact J.aO hv hd h
  | some q=>
    obtain ⟨j,b⟩:=q
    simp only [gV] at hv
    cases hj:ops[j]? with
    | none=>simp [hj] at hv
    | some oj=>
      cases ht:oj.dst with
      | none=>simp [hj,ht] at hv
      | some t=>
        have hjt:(ops[j]?).bind (·.dst)=some t:=by rw [hj];exact ht
        simp only [hj,ht] at hv
        split at hv
        · rename_i h1
          split at h1
          · rename_i b' hb
            have h1:(b' == b)=true:=by simpa using h1
            have:b'=b:=by simpa using h1
            subst this
            exact J.aF hjt hb (J.aO hv hd h)
          · cases h1
          · cases h1
        · rename_i h1
          split at h1
          · rename_i b' hb
            cases hv
            exact J.no hjt hb (by simpa using h1) hd h
          · rename_i hb
            cases hv
            exact J.dw hjt hb hd h
          · cases h1
        · cases hv
def rn (ops:Array Oper) (b:Nat):Nat→List (Oper×K)→List (Nat×Value)→Nat×List (Oper×K)×List (Nat×Value)
  | 0,L,σ=>(0,L,σ)
  | n+1,[],σ=>(n+1,[],σ)
  | n+1,(o,k)::L,σ=>match Go.Fw.sV ops o σ with
    | none=>(n+1,(o,k)::L,σ)
    | some v=>match o.dst with
      | none=>rn ops b n L σ
      | some t=>match Nat.blt t b with
        | true=>rn ops b n L ((t,v)::σ)
        | false=>(n+1,(o,k)::L,σ)
theorem J.rn {ops:Array Oper}:∀ (n:Nat) (L:List (Oper×K)) (σ:List (Nat×Value)) {m:Nat} {L':List (Oper×K)} {σ':List (Nat×Value)},Go.Fw.rn ops N.n n L σ=(m,L',σ')→J P ops F w0 M N lS L' σ' l→J P ops F w0 M N lS L σ l
  | 0,L,σ,m,L',σ',hr,h=>by simp only [Go.Fw.rn] at hr;cases hr;exact h
  | n+1,[],σ,m,L',σ',hr,h=>by simp only [Go.Fw.rn] at hr;cases hr;exact h
  | n+1,(o,k)::L,σ,m,L',σ',hr,h=>by
    simp only [Go.Fw.rn] at hr
    split at hr
    · cases hr;exact h
    · rename_i v hv
      split at hr
      · rename_i hd
        exact J.sV hv (by rw [hd];trivial) (by rw [hd];exact J.rn n L σ hr h)
      · rename_i t hd
        split at hr
        · rename_i hb
          exact J.sV hv (by rw [hd];exact hb) (by rw [hd];exact J.rn n L _ hr h)
        · cases hr;exact h
def rn1 (ops:Array Oper) (b:Nat) (n:Nat) (L:List (Oper×K)) (σ:List (Nat×Value)):Option (Nat×List (Oper×K)×List (Nat×Value)):=match n,L with
  | 0,_=>none
  | _,[]=>none
  | n,(o,k)::L=>match Go.Fw.sV ops o σ with
    | none=>none
    | some _=>some (rn ops b n ((o,k)::L) σ)
theorem Fu.rn {ops:Array Oper} {n m:Nat} {L':List (Oper×K)} {σ':List (Nat×Value)} (hr:Go.Fw.rn1 ops N.n n L σ=some (m,L',σ')) (a:Fu m (J P ops F w0 M N lS L' σ' l)):Fu n (J P ops F w0 M N lS L σ l):=by
  refine ⟨J.rn n L σ (m:=m) (L':=L') (σ':=σ') ?_ a.h⟩
  unfold rn1 at hr
  split at hr
  · cases hr
  · cases hr
  · split at hr
    · cases hr
    · exact Option.some.inj hr
theorem zte {α:Type}:∀ (xs:List α),xs.zip (xs.map fun _=>K.l)=xs.map fun o=>(o,K.l)
  | []=>rfl
  | x::xs=>by rw [List.map_cons,List.zip_cons_cons,zte xs];rfl
theorem T.aK {id:Nat} {ops:Array Oper} [Nd N.ro ops] (h:J P ops (NQ N Q) w0 M N [] (ops.toList.map fun o=>(o,K.l)) σ l):T P w0 M N Q (.region id ops false) σ l:=
  T.am (ops.toList.map fun _=>K.l) (by simp) (by rw [zte];exact h)
end
theorem zz (n:Nat) {A B:Prop} (a:A) (h:A→Fu n B:=by
  intro h
  repeat (first
    | refine Fu.rn rfl ?_
    | refine Fu.s J.bE ?_
    | refine Fu.s X.aq ?_
    | refine Fu.s T.au ?_
    | refine Fu.s T.aK ?_
    | refine Fu.s T.aD ?_
    | refine Fu.s X.av ?_
    | refine Fu.s X.aA ?_
    | refine Fu.s T.aI ?_
    | refine Fu.s X.aE ?_
    | refine Fu.s X.aw ?_
    | refine Fu.s X.ay ?_
    | refine Fu.s (X.ax rfl) ?_
    | refine Fu.s T.aG ?_
    | refine Fu.s (J.aF rfl rfl) ?_
    | refine Fu.s (T.ar rfl) ?_
    | refine Fu.s (T.aq rfl) ?_
    | refine Fu.s T.ax ?_
    | refine Fu.s T.aF ?_
    | refine Fu.s T.aE ?_
    | refine Fu.s X.scope ?_
    | refine Fu.s X.aB ?_
    | refine Fu.s X.scope_exit ?_)
  exact ⟨h⟩):B:=(h a).h
end Go.Fw
namespace Go.Fw
open Go
theorem Y0 {p:Prop} (h:p:=by repeat (first | exact Sub.nil _ | refine Sub.cons (by first | rfl | (rw [dgs_zero];rfl) | (rw [List.drop_length];rfl) | (simp;done) | (congr 2;omega) | (congr 3;omega)) ?_ | exact Sub.refl _ | refine zfN ?_ rfl)):p:=h
theorem Y2 {p:Prop} (h:p:=by repeat (first | exact Sub.nil _ | refine Sub.cons (by first | rfl | (rw [dgs_zero];rfl) | (rw [List.drop_length];rfl) | (simp;done) | (congr 2;omega) | (congr 3;omega)) ?_)):p:=h
theorem Y3 {p:Prop} (h:p:=by first | rfl | with_reducible exact zgs _ _ _ (by omega) | with_reducible exact zaH _ _ _ (by omega) | with_reducible exact rowN_get1s _ _ _ _ (by omega) | exact zaH _ _ _ (by omega) | exact rowN_get1s _ _ _ _ (by omega) | exact zgs _ _ _ (by omega)):p:=h
theorem Y4 {p:Prop} (h:p:=by repeat (first | exact Sub.refl _ | refine zfN ?_ rfl)):p:=h
theorem Y5 {p:Prop} (h:p:=by omega):p:=h
theorem Y6 {p:Prop} (h:p:=by first | exact zcv _ _ | (simp;done) | (intro u hu;simp at hu;subst hu;rfl) | (intro u hu;simp at hu;rcases hu with rfl | rfl<;>rfl)):p:=h
theorem Y7 {p:Prop} (h:p:=by first | decide | exact Nat.le_refl _ | exact Nat.le_of_ble_eq_true rfl | (simp [rowN];done) | (simp [rowN];omega)):p:=h
theorem Y8 {p:Prop} (h:p:=by first | exact Int.toNat_natCast _ | rfl):p:=h
theorem Y9 {p:Prop} (h:p:=by unfold SizeT;kernel_rfl):p:=h
theorem Y10 {p:Prop} (h:p:=by first | exact zdT _ 1 (by omega) | exact zai _ (by omega) | exact rfl):p:=h
theorem Y11 {p:Prop} (h:p:=by first | decide | exact Nat.zero_lt_succ _ | simp):p:=h
theorem Y12 {p:Prop} (h:p:=by kernel_rfl):p:=h
theorem Y13 {p:Prop} (h:p:=by first | omega | rfl | assumption | (simp only [*];done)):p:=h
theorem Y14 {p:Prop} (h:p:=by first | omega | (dsimp only;omega)):p:=h
theorem Y15 {p:Prop} (h:p:=by rw [zaq];omega):p:=h
theorem Y17 {p:Prop} (h:p:=by unfold ZeroT;kernel_rfl):p:=h
theorem Y18 {p:Prop} (h:p:=by rw [← decide_not]):p:=h
theorem Y19 {p:Prop} (h:p:=by first | rfl | with_reducible exact rowW_seg0 _ _ _ (by omega) | with_reducible exact rowW_seg00 _ _ (by omega) | with_reducible exact rowW_segs _ _ _ (by omega) | with_reducible exact zkQ _ _ (by omega) | with_reducible exact rowW_segb _ _ _ (by omega) | exact zkQ _ _ (by omega) | exact rowW_segs _ _ _ (by omega)):p:=h
theorem Y20 {p:Prop} (h:p:=by simp):p:=h
theorem Y21 {p:Prop} (h:p:=by rw [zaq];show 0 < (_+1)*35;omega):p:=h
theorem Y22 {p:Prop} (h:p:=by rfl):p:=h
theorem Y23 {p:Prop} (h:p:=by decide):p:=h
theorem Y24 {p:Prop} (h:p:=by first | exact Ac.cells_one _ | exact Ch.cells_one _):p:=h
theorem Y25 {p:Prop} (h:p:=by rw [List.length_append];rfl):p:=h
theorem Y27 {p:Prop} (h:p:=by intro u hu;rw [List.mem_singleton.1 hu];rfl):p:=h
theorem Y28 {p:Prop} (h:p:=by unfold maxLen;omega):p:=h
end Go.Fw
namespace Go.Fw
open Go
abbrev zc0:List Value:=[.int .u8 0,.int .u8 0,.int .u8 0,.int .u8 0,.int .u8 0,.int .u8 0,.int .u8 0,.int .u8 0,.int .u8 0,.int .u8 0,.int .u8 0,.int .u8 0,.int .u8 0,.int .u8 0,.int .u8 0,.int .u8 0,.int .u8 0,.int .u8 0,.int .u8 0,.int .u8 0,.int .i64 0,.int .u64 0,.int .u64 0,.int .u64 0,.int .u64 0,.int .u64 0,.int .u64 0,.int .u64 0,.int .u64 0,.int .u64 0,.int .u64 0,.int .u64 0,.int .u64 0,.slice none 0 0,.slice none 0 0]
abbrev zc1:List Value:=[.int .u8 0,.int .u8 0,.int .u8 0,.int .u8 0,.int .u8 0,.int .u8 0,.int .u8 0,.int .u8 0,.int .u8 0,.int .u8 0,.int .u8 0,.int .u8 0,.int .u8 0,.int .u8 0,.int .u8 0,.int .u8 0,.int .u8 0,.int .u8 0,.int .u8 0,.int .u8 0,.int .u64 0,.int .u64 0,.int .u64 0,.int .u64 0,.int .u64 0,.slice none 0 0,.slice none 0 0]
abbrev zc2:List Value:=[.nilFunc,.nilFunc,.func (.func 81) #[] #[],.func (.func 83) #[] #[],.func (.func 85) #[] #[],.func (.func 86) #[] #[],.func (.func 87) #[] #[],.func (.func 88) #[] #[]]
abbrev zc3:List Value:=[.int .u64 0,.int .u64 0,.int .u64 0,.int .u64 0,.int .u64 0,.int .u64 0,.int .u64 0,.int .u64 0]
abbrev zc4:List Value:=[.int .i64 0,.nilFunc,.nilFunc,.int .i64 0,.nilFunc,.nilFunc,.int .i64 0,.nilFunc,.nilFunc]
abbrev zc5:List Value:=[.slice none 0 0,.slice none 0 0,.slice none 0 0,.slice none 0 0,.int .i64 0]
abbrev zc6:List Value:=[.nilFunc,.nilFunc,.nilFunc,.nilFunc,.nilFunc,.nilFunc,.nilFunc,.nilFunc]
abbrev zc7:List Value:=[.int .i64 0,.slice none 0 0,.int .i64 0,.int .i64 0]
abbrev zc8:List Value:=[.int .i64 0,.int .i64 0,.slice none 0 0,.int .i64 0]
abbrev zc9:List Value:=[.int .u64 0,.int .u64 0,.int .u64 0,.int .u64 0]
abbrev zc10:List Value:=[.int .i64 0,.int .i64 0,.int .i64 0]
abbrev zc11:List Value:=[.int .i64 0,.nilFunc,.nilFunc]
theorem Y18b {p:Prop} (h:p:=by decide):p:=h
theorem Y8k {p:Prop} (h:p:=by trivial):p:=h
theorem WS.s0 {w0 w:World} {M:List Nat} {l:List (Nat×Ent)} (h:WS w0 M l w):WS w0 M [] w:=h.sub (Sub.nil _)
theorem Y100 {p:Prop} (h:p:=by intro w' hw';first | exact ⟨([],RowIx.nil),⟨by rw [zfU hjl hjeq hne hfa];rfl,RowIx.nil_ok 35,Fit.nil,AllC.nil⟩,by rw [zfU hjl hjeq hne hfa];rfl,hw'.s0⟩ | exact ⟨([],RowIx.nil),⟨by rw [zfV hfz1 hfz2 hjn];rfl,RowIx.nil_ok 35,Fit.nil,AllC.nil⟩,by rw [zfV hfz1 hfz2 hjn];rfl,hw'.s0⟩ | exact ⟨(zs,r),⟨by rw [zef hfz1 hfz2 (hj.trans (zfT _))],hr,zbc hw' (j:=9) rfl (fun g h=>⟨hB g h,fun q=>by cases q⟩),hz.keep (((zaa (I:=[r.id]) (B0:=B) (l1:=[]) hV hn (fun g hg=>by cases hg) hw' Y4 (Sub.nil _) rfl)).le (fun o h=>List.mem_append_left _ h))⟩,by rw [zef hfz1 hfz2 (hj.trans (zfT _))],hw'.s0⟩):p:=h
theorem Y101 {p:Prop} (h:p:=by intro w' hw';first | exact ⟨([],RowIx.nil),⟨by rw [zpr hne1];rfl,RowIx.nil_ok 35,Fit.nil,AllC.nil⟩,by rw [zpr hne1];rfl,hw'.s0⟩ | exact ⟨([],RowIx.nil),⟨by rw [zpq hk1 hne2];rfl,RowIx.nil_ok 35,Fit.nil,AllC.nil⟩,by rw [zpq hk1 hne2];rfl,hw'.s0⟩ | exact ⟨(zs,r),⟨by rw [zfJ hk1 hk2,hj,List.map_nil,zdM,List.append_nil],hr,zbc hw' (j:=10) rfl (fun g h=>⟨hB g h,fun q=>by cases q⟩),hz.keep ((Keep.less (fun o h=>h)).le (fun o h=>List.mem_append_left _ h))⟩,by rw [zfJ hk1 hk2],hw'.s0⟩):p:=h
theorem Y102 {p:Prop} (h:p:=by intro w' hw';first | (exfalso;omega) | exact ⟨none,by rw [zsl Y5],hw'.s0⟩ | exact ⟨none,by rw [zsk hn1 Y5],hw'.s0⟩ | exact ⟨none,by rw [zsj hn1 hn2 hlt0 hi2 hlt],hw'.s0⟩ | exact ⟨none,by rw [zsi hn1 hn2 hrise hj2 hz2],hw'.s0⟩ | exact ⟨none,by rw [zsh hn1 hn2 hrise hfull Y5],hw'.s0⟩ | exact ⟨none,by rw [zsg hn1 hn2 hrise hfull Y5 Y5],hw'.s0⟩ | exact ⟨none,by rw [zsf hn1 hn2 hrise hfull Y5 Y5 hq81 hbad],hw'.s0⟩ | exact ⟨q81.1,by rw [zse hn1 hn2 hrise hfull Y5 Y5 hq81 hgood],hw'.s0⟩):p:=h
theorem Y103 {p:Prop} (h:p:=by first | exact boolD (zpK Y5).symm | exact boolT (zsy Y5 Y5 Y5) | exact boolF (zpJ Y5 Y5) | exact boolD (zpL Y5 Y5).symm | exact boolT (znW Y5 Y5 (by assumption)) | exact boolD (((zlm Y5 Y5 (by assumption)).trans ⟨fun q=>q.2,fun q=>⟨by assumption,q⟩⟩).symm) | exact boolF (fun q=>absurd ((zlm Y5 Y5 (by assumption)).1 q).1 (by assumption))):p:=h
theorem Y104 {p:Prop} (h:p:=by intro w' hw';first | exact ⟨(([],RowIx.nil),false),⟨by rw [if_neg Y23];exact ⟨hj.trans (congrArg (Option.map _) hno),rfl⟩,RowIx.nil_ok 8,Fit.nil⟩,rfl,hw'.s0⟩ | exact ⟨((zs,r),true),⟨by rw [if_pos rfl,hj,List.map_nil,List.map_nil,zgk];simp,hr,zbc hw' (j:=6) rfl (fun g h=>⟨hB g h,fun q=>by cases q⟩)⟩,rfl,hw'.s0⟩):p:=h
theorem Y105 {p:Prop} (h:p:=by intro _ _ g hg;simp only [List.mem_cons,List.not_mem_nil,or_false] at hg;rcases hg with q | q | q | q | q | q;exact ⟨13,_,_,rfl,by rw [q],rfl⟩;exact ⟨11,_,_,rfl,by rw [q],rfl⟩;exact ⟨39,_,_,rfl,by rw [q],rfl⟩;exact ⟨16,_,_,rfl,by rw [q],rfl⟩;exact ⟨12,_,_,rfl,by rw [q],rfl⟩;exact ⟨45,_,_,rfl,by rw [q],rfl⟩):p:=h
theorem Y106 {p:Prop} (h:p:=by first | exact ztj Y5 (by assumption) | exact wr_0a Y5 (Decidable.not_not.1 (by assumption)) | exact wr_70 Y5 Y5 | exact wr_71 Y5 Y5 Y5 Y5 | exact wr_74 Y5 Y5 Y5 Y5 (by assumption) | exact ztl Y5 Y5 Y5 (.inr (Decidable.not_not.1 (by assumption))) | exact ztl Y5 Y5 Y5 (.inl Y5) | exact ztk Y5 Y5 Y5 Y5 Y5 | exact wr_0 Y5 Y5 Y5 Y5 Y5):p:=h
theorem Y107 {p:Prop} (h:p:=by intro w' hw';first | exact ⟨by congr 2;exact (decide_eq_false (fun q=>by have q1:=q.1;unfold CV.mayL Ch.v at *; dsimp only at *; omega)).symm,hw'.s0⟩ | exact ⟨by congr 2;exact decide_eq_decide.2 ⟨fun q=>⟨by unfold CV.mayL Ch.v at *; dsimp only at *; omega,q⟩,fun q=>q.2⟩,hw'.s0⟩):p:=h
theorem Y108 {p:Prop} (h:p:=by intro w' hw';first | exact ⟨.slice none 0 0,by rw [zsO hi2 hall Y5 hle],hw'.s0⟩ | exact ⟨.slice none 0 0,by rw [zqe hi2 hall (fun z=>by omega) hlk],hw'.s0⟩ | exact ⟨.slice none 0 0,by rw [zsN hall hj2 hsum hov],hw'.s0⟩ | exact ⟨_,by rw [zqf hall hsum],hw'.s0⟩):p:=h
theorem Y109 {p:Prop} (h:p:=by repeat (first | exact Sub.nil _ | refine Sub.cons (by first | rfl | (rw [dgs_zero];rfl) | (rw [List.drop_length];rfl) | (simp;done) | (congr 2;omega) | (congr 3;omega)) ?_ | exact Sub.refl _ | refine zfN ?_ rfl)):p:=h
theorem Y110 {p:Prop} (h:p:=by intro w' hw';first | exact ⟨by congr 2;exact decide_eq_decide.2 ⟨fun q=>⟨by assumption,q⟩,fun q=>q.2⟩,hw'.s0⟩ | exact ⟨by congr 2;exact (decide_eq_false (fun q=>by have:=q.1;contradiction)).symm,hw'.s0⟩):p:=h
theorem Y111 {p:Prop} (h:p:=by intro w' hw';first | exact ⟨by rw [decide_eq_false hap],hw'.s0⟩ | exact ⟨by rw [decide_eq_true hap],hw'.s0⟩ | exact ⟨by rw [decide_eq_false (fun q=>hne ((znd hll).2 q i hi2))],hw'.s0⟩):p:=h
theorem Y112 {p:Prop} (h:p:=by intro w' hw';first | exact ⟨by rw [decide_eq_false hap],hw'.s0⟩ | exact ⟨by rw [decide_eq_true hap],hw'.s0⟩ | exact ⟨by rw [decide_eq_false (fun q=>hne ((zkO hll).2 q i hi2))],hw'.s0⟩):p:=h
theorem Y113 {p:Prop} (h:p:=by rw [zlK _ (by rw [← hm29,List.length_map];exact hk2),hvk,ztx (by first | omega | (intro z;rcases z with z | z;omega;exact absurd z.2 (by assumption))),Bool.or_false]):p:=h
theorem Y114 {p:Prop} (h:p:=by intro o ho;rcases List.mem_append.1 ho with q | q;exact List.mem_append_left _ (List.mem_append_left _ q);refine List.mem_append_right _ ?_;exact zpE q):p:=h
theorem Y115 {p:Prop} (h:p:=by intro w' hw';first | exact ⟨by rw [decide_eq_false hno],hw'.s0⟩ | exact ⟨by congr 2;exact decide_eq_decide.2 ⟨fun q=>⟨q0,q1,q⟩,fun q=>q.2.2⟩,hw'.s0⟩):p:=h
theorem Y116 {p:Prop} (h:p:=by rw [zlK _ (by rw [← hm29,List.length_map];exact hk2),hvk,ztw (by first | exact .inl Y5 | exact .inr ⟨by omega,by assumption⟩),Bool.or_true]):p:=h
theorem Y117 {p:Prop} (h:p:=by repeat (first | exact Ndf.nil | exact Ndf.snap | refine Ndf.cons (by first | (intro h;cases h;done) | (intro h D q;cases q;done)) ?_)):p:=h
theorem Y118 {p:Prop} (h:p:=by rcases Nat.eq_zero_or_pos i with q0 | q0;(subst q0;exact zml Y5);(dsimp only;rw [hm q0,zjb Y5,if_pos Y5])):p:=h
theorem Y119 {p:Prop} (h:p:=by first | rfl | with_reducible exact zaH _ _ _ Y5 | with_reducible exact zeR _ _ _ Y5 | exact zaH _ _ _ Y5):p:=h
theorem Y120 {p:Prop} (h:p:=by intro u hu;rw [zns _ _ _ Y5] at hu;rcases List.mem_or_eq_of_mem_set hu with q | q;exact hc1 u q;rw [q];rfl):p:=h
theorem Y121 {p:Prop} (h:p:=by rw [zhY Y5 (Decidable.not_not.1 h2) (fun q=>by first | exact h3 (of_decide_eq_true q.1) | omega)];decide):p:=h
theorem Y122 {p:Prop} (h:p:=by simp only [List.mem_cons,List.not_mem_nil,or_false] at hg;rcases hg with rfl | rfl | rfl | rfl<;>simp [ids]):p:=h
theorem Y123 {p:Prop} (h:p:=by intro w' hw';first | exact ⟨by rw [decide_eq_false hap],hw'.s0⟩ | exact ⟨by rw [decide_eq_true hap],hw'.s0⟩):p:=h
theorem Y124 {p:Prop} (h:p:=by intro x hx;rcases List.mem_cons.1 hx with q | q;rw [q];exact hg;rw [List.mem_singleton.1 q];exact hgc):p:=h
theorem Y125 {p:Prop} (h:p:=by have h0:=zfO (hj.trans (congrArg (Option.map _) hsb));rw [hem,List.append_nil] at h0;exact h0):p:=h
theorem Y126 {p:Prop} (h:p:=by first | exact InR.cells_one _ | exact TyV.cells_one _ | exact OpV.cells_one _ | exact HtV.cells_one _):p:=h
theorem Y127 {p:Prop} (h:p:=by intro u hu;simp at hu;rcases hu with rfl | rfl | rfl | rfl | rfl | rfl | rfl | rfl<;>rfl):p:=h
theorem Y128 {p:Prop} (h:p:=by rw [zjI];exact zfO ((hj.trans (congrArg (Option.map _) hsb)).trans (by rw [hem]))):p:=h
theorem Y129 {p:Prop} (h:p:=by rw [zgl,hv56];exact zgH (hj.trans (congrArg (Option.map _) (zli _ _ _ hwa)))):p:=h
theorem Y130 {p:Prop} (h:p:=by rw [zgl,hv79];exact zgH (hj.trans (congrArg (Option.map _) (zlh _ _ _ hwb)))):p:=h
theorem Y131 {p:Prop} (h:p:=by intro q;have hq:=q.2.1 _ (zaE hk2);obtain ⟨m1,m2,m3,m4,m5,m6⟩:=hq;omega):p:=h
theorem Y132 {p:Prop} (h:p:=by intro w' hw';first | exact ⟨by rw [hst],hw'.s0⟩ | exact ⟨by rw [hz4],hw'.s0⟩):p:=h
theorem Y133 {p:Prop} (h:p:=by first | exact hg | exact List.mem_append_left _ hg | (simp [ids];done)):p:=h
theorem Y134 {p:Prop} (h:p:=by first | exact zcv _ _ | (intro u hu;simp at hu;subst hu;rfl)):p:=h
theorem Y135 {p:Prop} (h:p:=by have:=congrArg List.length hm;simp at this;unfold maxLen;omega):p:=h
theorem Y136 {p:Prop} (h:p:=by have h0:=hca;rw [List.length_cons] at h0;show _+1≤_;omega):p:=h
theorem Y137 {p:Prop} (h:p:=by have h0:=hcb;rw [List.length_cons] at h0;show _+1≤_;omega):p:=h
theorem Y138 {p:Prop} (h:p:=by have h0:=hcc;rw [List.length_cons] at h0;show _+1≤_;omega):p:=h
theorem Y139 {p:Prop} (h:p:=by have:=hcm Y5;obtain ⟨c1,c2,c3,c4,c5,c6⟩:=this;omega):p:=h
theorem Y140 {p:Prop} (h:p:=by first | exact zlO _ Y5 | exact zai _ Y5 | exact rfl):p:=h
theorem Y141 {p:Prop} (h:p:=by first | omega | (intro z;exact absurd z.2.2 (by assumption))):p:=h
theorem Y142 {p:Prop} (h:p:=by first | exact zdT _ _ Y5 | exact zai _ Y5 | exact rfl):p:=h
theorem Y143 {p:Prop} (h:p:=by rw [List.length_append];simp at hlen;unfold maxLen;omega):p:=h
theorem Y144 {p:Prop} (h:p:=by repeat (first | exact Sub.nil _ | refine Sub.cons rfl ?_)):p:=h
theorem Y145 {p:Prop} (h:p:=by first | exact boolT Y5 | exact boolF Y5 | exact boolD Y5):p:=h
theorem Y146 {p:Prop} (h:p:=by first | exact (if_pos Y5).symm | exact (if_neg Y5).symm):p:=h
theorem Y147 {p:Prop} (h:p:=by first | exact CtR.cells_one _ | exact RjR.cells_one _):p:=h
theorem Y148 {p:Prop} (h:p:=by first | exact InR.cells_one _ | exact OpV.cells_one _):p:=h
theorem Y149 {p:Prop} (h:p:=by first | exact InR.cells_one _ | exact TyV.cells_one _):p:=h
theorem Y150 {p:Prop} (h:p:=by first | exact RjR.cells_one _ | exact CtR.cells_one _):p:=h
theorem Y151 {p:Prop} (h:p:=by have:=congrArg List.length hm;simp at this;omega):p:=h
theorem Y152 {p:Prop} (h:p:=by rw [← List.append_assoc];exact (zbw _ _).symm):p:=h
theorem Y153 {p:Prop} (h:p:=by intro x hx;rw [List.mem_singleton.1 hx];exact hg):p:=h
theorem Y154 {p:Prop} (h:p:=by exact congrArg Value.bool Bool.decide_eq_true.symm):p:=h
theorem Y155 {p:Prop} (h:p:=by rw [zhv types (namedP x.v).1 1 Y5 Y23];rfl):p:=h
theorem Y156 {p:Prop} (h:p:=by exact congrArg Value.bool (decide_eq_decide.2 Y5)):p:=h
theorem Y157 {p:Prop} (h:p:=by exact zgs _ _ _ (by rw [ziy];omega)):p:=h
theorem Y158 {p:Prop} (h:p:=by rw [zcn];show 0 < (_+1)*27;omega):p:=h
theorem Y159 {p:Prop} (h:p:=by rw [hv50];exact (zdf _ _ E0.code E1.code)):p:=h
theorem Y160 {p:Prop} (h:p:=by rw [zaO];show 0 < (_+1)*8;omega):p:=h
theorem Y161 {p:Prop} (h:p:=by rw [List.length_append];unfold maxLen;omega):p:=h
theorem Y162 {p:Prop} (h:p:=by rw [List.length_append];simp at hlen;omega):p:=h
theorem Y163 {p:Prop} (h:p:=by dsimp only;rw [List.length_drop];omega):p:=h
theorem Y164 {p:Prop} (h:p:=by rw [zck];show _+1≤_;omega):p:=h
theorem Y165 {p:Prop} (h:p:=by show 0 < 18446744073709551616;decide):p:=h
theorem Y166 {p:Prop} (h:p:=by dsimp only;simp at hlen ⊢<;>omega):p:=h
theorem Y167 {p:Prop} (h:p:=by rw [← List.append_assoc];exact hr71):p:=h
theorem Y168 {p:Prop} (h:p:=by simp at hlen;unfold maxLen;omega):p:=h
theorem Y169 {p:Prop} (h:p:=by rw [List.length_append];omega):p:=h
theorem Y170 {p:Prop} (h:p:=by rw [zap,Nat.mul_one]):p:=h
theorem Y171 {p:Prop} (h:p:=by first | exact OpV.cells_one _):p:=h
theorem Y172 {p:Prop} (h:p:=by first | exact Ch.cells_one _):p:=h
theorem Y173 {p:Prop} (h:p:=by rw [List.mem_singleton.1 hq]):p:=h
theorem Y174 {p:Prop} (h:p:=by rw [List.length_drop];omega):p:=h
theorem Y175 {p:Prop} (h:p:=by dsimp only;simp<;>omega):p:=h
theorem Y176 {p:Prop} (h:p:=by rw [zaI];omega):p:=h
theorem Y177 {p:Prop} (h:p:=by rw [← List.append_assoc]):p:=h
theorem Y178 {p:Prop} (h:p:=by rw [Bool.decide_eq_true]):p:=h
theorem Y179 {p:Prop} (h:p:=by rw [zdI];omega):p:=h
theorem Y180 {p:Prop} (h:p:=by have:=zde q;omega):p:=h
theorem Y181 {p:Prop} (h:p:=by intro _ _ q hq;cases hq):p:=h
theorem Y182 {p:Prop} (h:p:=by intro _ _ g hg;cases hg):p:=h
theorem Y183 {p:Prop} (h:p:=by rw [zcx];omega):p:=h
theorem Y184 {p:Prop} (h:p:=by rw [zcn];omega):p:=h
theorem Y185 {p:Prop} (h:p:=by rw [zaO];omega):p:=h
theorem Y186 {p:Prop} (h:p:=by rw [zap];omega):p:=h
theorem Y187 {p:Prop} (h:p:=by rw [zck];omega):p:=h
theorem Y188 {p:Prop} (h:p:=by rw [underlying5];rfl):p:=h
theorem Y189 {p:Prop} (h:p:=by intro g hg;cases hg):p:=h
theorem Y190 {p:Prop} (h:p:=by rw [zlM];rfl):p:=h
theorem Y191 {p:Prop} (h:p:=by intro w;kernel_rfl):p:=h
theorem Y192 {p:Prop} (h:p:=by first | rfl | omega):p:=h
theorem Y193 {p:Prop} (h:p:=by rintro ⟨xs,r⟩;rfl):p:=h
theorem Y194 {p:Prop} (h:p:=by intro g h;cases h):p:=h
theorem Y195 {p:Prop} (h:p:=by assumption):p:=h
theorem Y196 {p:Prop} (h:p:=by simp [ids]):p:=h
end Go.Fw
namespace Go.Fz
open Go Go.Fw Go.Proofs.Tryz
theorem zup:FnOk prog 150:=FnOk.mk' func150 Y12 rfl
theorem zbr:ZeroT prog 50 (.agg (zc9).toArray):=Y17
theorem sz48:SizeT prog 48 1:=Y9
theorem zix:ArrT prog 50 4 48 1:=⟨underlying50,sz48⟩
theorem zfM:OneT prog 48:=⟨⟨_,underlying48,rfl⟩,Y12⟩
theorem zah:AggT prog 50 4:=⟨⟨_,underlying50,rfl⟩,Y12⟩
theorem sz50:SizeT prog 50 4:=Y9
theorem zus:FnOk prog 108:=FnOk.mk' func108 Y12 rfl
theorem zcd:EqT prog 50:=⟨⟨48,zix,zfM,underlying48⟩,Y12⟩
theorem zur:FnOk prog 127:=FnOk.mk' func127 Y12 rfl
theorem zut:FnOk prog 107:=FnOk.mk' func107 Y12 rfl
theorem znY:FnOk prog 98:=FnOk.mk' func98 Y12 rfl
theorem sl128:SlT prog 128 50 4:=⟨underlying128,sz50⟩
theorem zuu:FnOk prog 101:=FnOk.mk' func101 Y12 rfl
end Go.Fz
namespace Go.Proofs.YtlllcafedekojaaGreatDoor.Wa
open Go Go.Fw Go.Fz Go.Proofs.Tryz
attribute [local irreducible] J T X
theorem Len64 (w:World) (x0:Nat) (hx:x0 < 18446744073709551616):
    Calls prog 150 [.int .u64 (x0:Int)].toArray w fun e w'=>e=.returned (.int .i64 (bitLen x0:Int))∧WS w [] [] w':=by
 refine zac [] 25 [] func150 rfl ntmps150 Y20 (WS.refl _ _) <| zz 5 ?_
 refine T.ai (ι:=Nat×Nat) (fun (n1,x1)=>bitLen x0=n1+bitLen x1∧x1 < 4294967296∧n1≤32) (fun (n1,x1)=>[(2,.int .i64 (n1:Int)),(0,.int .u64 (x1:Int))]) (fun (n1,x1)=>[]) ?_ ?_
 refine zz 6 ?_
 refine T.aa rfl (fun h1=>?_) (fun h1=>?_)
 refine zz 3 ?_
 refine J.bK rfl rfl rfl Y23 (by exact zjK _ 32 Y5) <| zz 6 ?_
 exact X.at ⟨(0+32),(x0 / 2^32)⟩ ⟨by have:=bitLen_shift x0 32;omega,by omega,by omega⟩ Y2 Y2
 refine zz 1 ?_
 exact X.at ⟨0,x0⟩ ⟨by have:=bitLen_shift x0 32;omega,by omega,by omega⟩ Y2 Y2
 rintro ⟨n1,x1⟩ ⟨hb1,hx1,hn1⟩
 try dsimp only at *
 refine T.ai (ι:=Nat×Nat) (fun (n2,x2)=>bitLen x0=n2+bitLen x2∧x2 < 65536∧n2≤48) (fun (n2,x2)=>[(2,.int .i64 (n2:Int)),(0,.int .u64 (x2:Int))]) (fun (n2,x2)=>[]) ?_ ?_
 refine zz 6 ?_
 refine T.aa rfl (fun h2=>?_) (fun h2=>?_)
 refine zz 3 ?_
 refine J.bK rfl rfl rfl Y23 (by exact zjK _ 16 Y5) <| zz 5 ?_
 refine J.aq rfl rfl rfl (by first | exact zdT _ 16 Y5 | exact zai _ Y5 | exact rfl) <| zz 2 ?_
 exact X.at ⟨(n1+16),(x1 / 2^16)⟩ ⟨by have:=bitLen_shift x1 16;omega,by omega,by omega⟩ Y2 Y2
 refine zz 1 ?_
 exact X.at ⟨n1,x1⟩ ⟨by have:=bitLen_shift x1 16;omega,by omega,by omega⟩ Y2 Y2
 rintro ⟨n2,x2⟩ ⟨hb2,hx2,hn2⟩
 try dsimp only at *
 refine T.ai (ι:=Nat×Nat) (fun (n3,x3)=>bitLen x0=n3+bitLen x3∧x3 < 256∧n3≤56) (fun (n3,x3)=>[(2,.int .i64 (n3:Int)),(0,.int .u64 (x3:Int))]) (fun (n3,x3)=>[]) ?_ ?_
 refine zz 6 ?_
 refine T.aa rfl (fun h3=>?_) (fun h3=>?_)
 refine zz 3 ?_
 refine J.bK rfl rfl rfl Y23 (by exact zjK _ 8 Y5) <| zz 5 ?_
 refine J.aq rfl rfl rfl (by first | exact zdT _ 8 Y5 | exact zai _ Y5 | exact rfl) <| zz 2 ?_
 exact X.at ⟨(n2+8),(x2 / 2^8)⟩ ⟨by have:=bitLen_shift x2 8;omega,by omega,by omega⟩ Y2 Y2
 refine zz 1 ?_
 exact X.at ⟨n2,x2⟩ ⟨by have:=bitLen_shift x2 8;omega,by omega,by omega⟩ Y2 Y2
 rintro ⟨n3,x3⟩ ⟨hb3,hx3,hn3⟩
 try dsimp only at *
 refine zz 4 ?_
 refine J.aN (by rw [underlying48];rfl) underlying5 rfl rfl (by first | exact zlP _ Y5 | exact wrap8_nat _ | exact zto _ Y5 | exact u8_wrap _) <| J.cq (f:=bitLen) underlying9 rfl (by decide+kernel) rfl Y5 rfl ?_
 have hb8:=bitLen_le8 x3 hx3
 refine J.aN Y188 underlying3 rfl rfl Y140 <| J.aq rfl rfl rfl Y142 <| zz 4 ?_
 exact X.aa rfl (RV.tmp rfl) (fun w' hw'=>⟨by congr 2;omega,hw'.s0⟩)
theorem LeadingZeros64 (w:World) (x0:Nat) (hx:x0 < 18446744073709551616):
    Calls prog 127 [.int .u64 (x0:Int)].toArray w fun e w'=>e=.returned (.int .i64 ((64 - bitLen x0:Nat):Int))∧WS w [] [] w':=by
 have hb:=zeG x0 hx
 refine zac [] 6 [] func127 rfl ntmps127 Y20 (WS.refl _ _) <| zz 8 ?_
 refine J.aj Y8k zup rfl rfl (fun w hw=>Wa.Len64 w _ hx) ?_
 refine J.aI rfl rfl rfl (by first | exact zbt 64 _ Y5 | exact zai _ Y5 | exact rfl) <| zz 4 ?_
 exact X.aa rfl (RV.tmp rfl) (fun w' hw'=>⟨rfl,hw'.s0⟩)
theorem plus (w:World) (x0:Nat) (x1:Nat):
    Calls prog 101 [W x0,W x1].toArray w fun e w'=>e=.returned (.tuple #[W (x0+x1),.int .u64 (((x0%2^256+x1%2^256) / 2^256:Nat):Int)])∧WS w [] [] w':=by
 refine zac [] 28 [] func101 rfl ntmps101 Y20 (WS.refl _ _) <| zz 2 ?_
 refine J.aE 2 rfl rfl (wc x0) rfl rfl fun g2 hg2=>J.aE 3 rfl rfl (wc x1) rfl rfl fun g3 hg3=>J.am 4 rfl zbr zc9 rfl rfl fun g4 hg4=>zz 5 ?_
 refine J.am 6 rfl zbr zc9 rfl rfl fun g6 hg6=>zz 14 ?_
 refine T.ag (ι:=Nat×Nat×List Nat) (fun (i,c,ys)=>i≤4∧c=(x0%18446744073709551616^i+x1%18446744073709551616^i) / 18446744073709551616^i∧ys.length=4∧∀ q,q < i→ys.getD q 0=lim (x0+x1) q) (fun (i,c,ys)=>[(0,W x0),(1,W x1),(2,.pointer (some ⟨g2,0,none⟩)),(3,.pointer (some ⟨g3,0,none⟩)),(4,.pointer (some ⟨g4,0,none⟩)),(5,.int .u64 0),(6,.pointer (some ⟨g6,0,none⟩)),(7,.int .u64 (c:Int)),(9,.int .i64 (i:Int))]) (fun (i,c,ys)=>[(2,⟨some g2,50,(wc x0)⟩),(3,⟨some g3,50,(wc x1)⟩),(4,⟨some g4,50,zc9⟩),(6,⟨some g6,50,rowN .u64 ys⟩)]) (fun (i,c,ys)=>4 - i) ⟨0,0,[0,0,0,0]⟩ ⟨Nat.zero_le _,by simp [Nat.mod_one],rfl,fun q hq=>by omega⟩ Y2 Y2 ?_
 rintro ⟨i,c,ys⟩ ⟨hi,hc,hl,hy⟩
 try dsimp only at *
 have hcl:c≤1:=by rw [hc];exact zjz x0 x1 i
 have hl0:=zbW x0 i
 have hl1:=zbW x1 i
 refine zz 6 ?_
 refine T.aa rfl (fun h1=>?_) (fun h1=>?_)
 have hi4:i < 4:=by omega
 have hst:=zqn x0 x1 i hi4
 refine zz 10 ?_
 refine T.ae [] [(0,.g),(1,.g),(2,.g),(3,.q),(4,.g),(5,.g),(6,.q),(7,.g),(8,.g),(9,.g),(10,.g),(11,.g),(12,.g),(13,.l),(14,.g)] Y12 Y12 ?_ Y2
 refine zz 2 ?_
 refine J.aM zix rfl rfl Y5 Y5 Y8 rfl <| J.ag Y8k 2 rfl rfl zfM Y157 rfl <| J.as 16 (.int .u64 ((lim x0 i:Nat):Int)) rfl (by rw [ziz _ _ Y5]) <| zz 1 ?_
 refine J.aM zix rfl rfl Y5 Y5 Y8 rfl <| J.ag Y8k 3 rfl rfl zfM Y157 rfl <| J.as 19 (.int .u64 ((lim x1 i:Nat):Int)) rfl (by rw [ziz _ _ Y5]) <| zz 1 ?_
 refine J.db func112 Y12 Y12 Y12 Y12 rfl rfl rfl Y5 rfl <| zz 3 ?_
 refine J.aM zix rfl rfl Y5 Y5 Y8 rfl <| J.ae 6 rfl rfl rfl rfl [.int .u64 ((((lim x0 i+lim x1 i+c)%18446744073709551616:Nat)):Int)] rfl sz48 (by rw [zap,hl];show _+1≤4;omega) Y6 Y11 trivial (rowN .u64 (ys.set i ((lim x0 i+lim x1 i+c)%18446744073709551616))) (by rw [Nat.zero_add,Nat.mul_one];exact putN' _ _ _ _ Y5) <| zz 5 ?_
 refine J.aq rfl rfl rfl Y10 <| zz 2 ?_
 exact X.ae ⟨(i+1),((lim x0 i+lim x1 i+c) / 18446744073709551616),(ys.set i ((lim x0 i+lim x1 i+c)%18446744073709551616))⟩ ⟨by omega,by rw [hc];exact hst.2,by simp [hl],fun q hq=>by
       rw [zln _ _ _ _ Y5]
       split
       · rename_i hiq;subst hiq;rw [hc];exact hst.1
       · exact hy q Y5⟩ Y14 Y2 Y2
 obtain rfl:i=4:=by omega
 obtain rfl:ys=wl (x0+x1):=ztm hl _ hy
 refine zz 7 ?_
 refine J.ai Y8k 6 rfl rfl zah (wc (x0+x1)) rfl rfl rfl <| zz 1 ?_
 refine J.ae 4 rfl rfl rfl rfl (wc (x0+x1)) rfl sz50 Y7 Y6 Y11 trivial (wc (x0+x1)) rfl <| zz 4 ?_
 exact X.ag rfl (RV.agg 4 rfl rfl zah (wc (x0+x1)) Y22 Y22 rfl) (RV.tmp rfl) (fun w' hw'=>⟨by first | (rw [hc];done) | (rw [hc];rfl),hw'.s0⟩)
theorem minus (w:World) (x0:Nat) (x1:Nat):
    Calls prog 108 [W x0,W x1].toArray w fun e w'=>e=.returned (.tuple #[W (dif x0 x1),.int .u64 ((if x0%2^256 < x1%2^256 then 1 else 0:Nat):Int)])∧WS w [] [] w':=by
 refine zac [] 28 [] func108 rfl ntmps108 Y20 (WS.refl _ _) <| zz 2 ?_
 refine J.aE 2 rfl rfl (wc x0) rfl rfl fun g2 hg2=>J.aE 3 rfl rfl (wc x1) rfl rfl fun g3 hg3=>J.am 4 rfl zbr zc9 rfl rfl fun g4 hg4=>zz 5 ?_
 refine J.am 6 rfl zbr zc9 rfl rfl fun g6 hg6=>zz 14 ?_
 refine T.ag (ι:=Nat×Nat×List Nat) (fun (i,c,ys)=>i≤4∧c=bor x0 x1 i∧ys.length=4∧∀ q,q < i→ys.getD q 0=lim (dif x0 x1) q) (fun (i,c,ys)=>[(0,W x0),(1,W x1),(2,.pointer (some ⟨g2,0,none⟩)),(3,.pointer (some ⟨g3,0,none⟩)),(4,.pointer (some ⟨g4,0,none⟩)),(5,.int .u64 0),(6,.pointer (some ⟨g6,0,none⟩)),(7,.int .u64 (c:Int)),(9,.int .i64 (i:Int))]) (fun (i,c,ys)=>[(2,⟨some g2,50,(wc x0)⟩),(3,⟨some g3,50,(wc x1)⟩),(4,⟨some g4,50,zc9⟩),(6,⟨some g6,50,rowN .u64 ys⟩)]) (fun (i,c,ys)=>4 - i) ⟨0,0,[0,0,0,0]⟩ ⟨Nat.zero_le _,(zqj x0 x1).symm,rfl,fun q hq=>by omega⟩ Y2 Y2 ?_
 rintro ⟨i,c,ys⟩ ⟨hi,hc,hl,hy⟩
 try dsimp only at *
 have hcl:c≤1:=by rw [hc];exact zuB x0 x1 i
 have hl0:=zbW x0 i
 have hl1:=zbW x1 i
 refine zz 6 ?_
 refine T.aa rfl (fun h1=>?_) (fun h1=>?_)
 have hi4:i < 4:=by omega
 have hst:=zoY x0 x1 i hi4
 refine zz 10 ?_
 refine T.ae [] [(0,.g),(1,.g),(2,.g),(3,.q),(4,.g),(5,.g),(6,.q),(7,.g),(8,.g),(9,.g),(10,.g),(11,.g),(12,.g),(13,.l),(14,.g)] Y12 Y12 ?_ Y2
 refine zz 2 ?_
 refine J.aM zix rfl rfl Y5 Y5 Y8 rfl <| J.ag Y8k 2 rfl rfl zfM Y157 rfl <| J.as 16 (.int .u64 ((lim x0 i:Nat):Int)) rfl (by rw [ziz _ _ Y5]) <| zz 1 ?_
 refine J.aM zix rfl rfl Y5 Y5 Y8 rfl <| J.ag Y8k 3 rfl rfl zfM Y157 rfl <| J.as 19 (.int .u64 ((lim x1 i:Nat):Int)) rfl (by rw [ziz _ _ Y5]) <| zz 1 ?_
 refine J.cX func128 Y12 Y12 Y12 Y12 rfl rfl rfl Y5 rfl <| zz 3 ?_
 refine J.aM zix rfl rfl Y5 Y5 Y8 rfl <| J.ae 6 rfl rfl rfl rfl [.int .u64 ((((lim x0 i+18446744073709551616 - lim x1 i - c)%18446744073709551616:Nat)):Int)] rfl sz48 (by rw [zap,hl];show _+1≤4;omega) Y6 Y11 trivial (rowN .u64 (ys.set i ((lim x0 i+18446744073709551616 - lim x1 i - c)%18446744073709551616))) (by rw [Nat.zero_add,Nat.mul_one];exact putN' _ _ _ _ Y5) <| zz 5 ?_
 refine J.aq rfl rfl rfl Y10 <| zz 2 ?_
 exact X.ae ⟨(i+1),(if lim x0 i < lim x1 i+c then 1 else 0),(ys.set i ((lim x0 i+18446744073709551616 - lim x1 i - c)%18446744073709551616))⟩ ⟨by omega,by rw [hc];exact hst.2,by simp [hl],fun q hq=>by
       rw [zln _ _ _ _ Y5]
       split
       · rename_i hiq;subst hiq;rw [hc];exact hst.1
       · exact hy q Y5⟩ Y14 Y2 Y2
 obtain rfl:i=4:=by omega
 obtain rfl:ys=wl (dif x0 x1):=ztm hl _ hy
 refine zz 7 ?_
 refine J.ai Y8k 6 rfl rfl zah (wc (dif x0 x1)) rfl rfl rfl <| zz 1 ?_
 refine J.ae 4 rfl rfl rfl rfl (wc (dif x0 x1)) rfl sz50 Y7 Y6 Y11 trivial (wc (dif x0 x1)) rfl <| zz 4 ?_
 exact X.ag rfl (RV.agg 4 rfl rfl zah (wc (dif x0 x1)) Y22 Y22 rfl) (RV.tmp rfl) (fun w' hw'=>⟨by first | (rw [hc];done) | (rw [hc];rfl),hw'.s0⟩)
theorem Lt (w:World) (x0:Nat) (x1:Nat):
    Calls prog 99 [W x0,W x1].toArray w fun e w'=>e=.returned (.bool (decide (x0%2^256 < x1%2^256)))∧WS w [] [] w':=by
 refine zac [] 15 [] func99 rfl ntmps99 Y20 (WS.refl _ _) <| zz 2 ?_
 refine J.aE 2 rfl rfl (wc x0) rfl rfl fun g2 hg2=>J.aE 3 rfl rfl (wc x1) rfl rfl fun g3 hg3=>zz 5 ?_
 refine J.ai Y8k 2 rfl rfl zah (wc x0) rfl rfl rfl <| J.ai Y8k 3 rfl rfl zah (wc x1) rfl rfl rfl <| J.aj Y8k zus rfl rfl (fun w hw=>Wa.minus w _ _) ?_
 refine zz 3 ?_
 refine J.am 5 rfl zbr zc9 rfl rfl fun g5 hg5=>J.ae 5 rfl rfl rfl rfl (wc (dif x0 x1)) rfl sz50 Y7 Y6 Y11 trivial (wc (dif x0 x1)) rfl <| zz 11 ?_
 exact X.aa rfl (RV.tmp rfl) (fun w' hw'=>⟨by congr 2;split<;>simp_all,hw'.s0⟩)
theorem IsZero (w:World) (x0:Nat):
    Calls prog 74 [W x0].toArray w fun e w'=>e=.returned (.bool (decide (x0%2^256=0)))∧WS w [] [] w':=by
 refine zac [] 6 [] func74 rfl ntmps74 Y20 (WS.refl _ _) <| zz 2 ?_
 refine J.aE 1 rfl rfl (wc x0) rfl rfl fun g1 hg1=>zz 5 ?_
 refine J.ai Y8k 1 rfl rfl zah (wc x0) rfl rfl rfl <| J.ao rfl rfl (W 0) Y191 <| J.bg zcd rfl rfl rfl <| zz 4 ?_
 exact X.aa rfl (RV.tmp rfl) (fun w' hw'=>⟨rfl,hw'.s0⟩)
theorem ahead (w:World) (x0:Nat):
    Calls prog 107 [W x0].toArray w fun e w'=>e=.returned (.int .i64 ((256 - bitLen (x0%2^256):Nat):Int))∧WS w [] [] w':=by
 refine zac [] 20 [] func107 rfl ntmps107 Y20 (WS.refl _ _) <| zz 2 ?_
 refine J.aE 1 rfl rfl (wc x0) rfl rfl fun g1 hg1=>zz 15 ?_
 refine T.ag (ι:=Nat) (fun (j:Nat)=>j≤4∧∀ q,j≤q→q < 4→lim x0 q=0) (fun (j:Nat)=>[(0,W x0),(1,.pointer (some ⟨g1,0,none⟩)),(2,.int .i64 0),(3,.int .i64 ((256 - 64*j:Nat):Int)),(4,.int .i64 ((j:Int) - 1))]) (fun (j:Nat)=>[(1,⟨some g1,50,(wc x0)⟩)]) (fun (j:Nat)=>j) 4 ⟨Nat.le_refl _,fun q h1 h2=>by omega⟩ Y2 Y2 ?_
 rintro j ⟨hj,hz⟩
 refine zz 7 ?_
 refine T.aa rfl (fun h1=>?_) (fun h1=>?_)
 obtain ⟨i,rfl⟩:∃ i,j=i+1:=⟨j - 1,by omega⟩
 refine T.as 4 (.int .i64 (i:Int)) rfl (by congr 1;omega) ?_
 have hll:=zbW x0 i
 have hbl:=zeG (lim x0 i) hll
 refine zz 7 ?_
 refine J.aM zix rfl rfl Y5 Y5 Y8 rfl <| J.ag Y8k 1 rfl rfl zfM Y157 rfl <| J.as 12 (.int .u64 ((lim x0 i:Nat):Int)) rfl (by rw [ziz _ _ Y5]) <| J.aj Y8k zur rfl rfl (fun w hw=>Wa.LeadingZeros64 w _ hll) ?_
 refine zz 7 ?_
 refine J.aq rfl rfl rfl Y142 <| zz 9 ?_
 refine T.aa rfl (fun h2=>?_) (fun h2=>?_)
 have hne:lim x0 i≠0:=fun e=>by rw [e,zgW] at h2;omega
 have hbe:=zkw x0 i Y5 (fun q h1 h2=>hz q Y5 h2) hne
 refine zz 13 ?_
 exact X.aa rfl (RV.tmp rfl) (fun w' hw'=>⟨by congr 2;omega,hw'.s0⟩)
 refine T.as 3 (.int .i64 ((256 - 64*i:Nat):Int)) rfl (by congr 2;omega) <| zz 5 ?_
 refine J.aI rfl rfl rfl (by first | exact zbt _ 1 Y5 | exact zai _ Y5 | exact rfl) <| zz 2 ?_
 exact X.ae i ⟨by omega,fun q h3 h4=>(Nat.lt_or_ge i q).elim (fun h=>hz q h h4) (fun h=>by obtain rfl:q=i:=Y5;exact Classical.byContradiction fun hne=>by have:=zmx _ hne;omega)⟩ Y14 Y2 Y2
 obtain rfl:j=0:=by omega
 have hbn:=zkv x0 (fun q hq=>hz q (Nat.zero_le _) hq)
 refine zz 12 ?_
 exact X.aa rfl (RV.tmp rfl) (fun w' hw'=>⟨by congr 2;omega,hw'.s0⟩)
theorem Size (w:World) (x0:Nat):
    Calls prog 98 [W x0].toArray w fun e w'=>e=.returned (.int .i64 (sizeN x0:Int))∧WS w [] [] w':=by
 have hb:=zfL x0
 have hs:=zdE x0
 refine zac [] 7 [] func98 rfl ntmps98 Y20 (WS.refl _ _) <| zz 2 ?_
 refine J.aE 1 rfl rfl (wc x0) rfl rfl fun g1 hg1=>zz 5 ?_
 refine J.ai Y8k 1 rfl rfl zah (wc x0) rfl rfl rfl <| J.aj Y8k zut rfl rfl (fun w hw=>Wa.ahead w _) ?_
 refine J.aI rfl rfl rfl (by first | exact zbt 263 _ Y5 | exact zai _ Y5 | exact rfl) <| J.dv rfl rfl rfl Y5 (by first | exact zrR _ 8 Y5 | exact zhH _ _ Y5 | exact rfl) <| zz 4 ?_
 exact X.aa rfl (RV.tmp rfl) (fun w' hw'=>⟨by congr 2;omega,hw'.s0⟩)
theorem Uint (w:World) (x0:Nat):
    Calls prog 84 [W x0].toArray w fun e w'=>e=.returned (.tuple #[.int .u64 ((if sizeN x0 > 8 then 0 else lim x0 0:Nat):Int),.bool (decide (¬ sizeN x0 > 8))])∧WS w [] [] w':=by
 refine zac [] 9 [] func84 rfl ntmps84 Y20 (WS.refl _ _) <| zz 2 ?_
 refine J.aE 1 rfl rfl (wc x0) rfl rfl fun g1 hg1=>zz 7 ?_
 refine J.ai Y8k 1 rfl rfl zah (wc x0) rfl rfl rfl <| J.aj Y8k znY rfl rfl (fun w hw=>Wa.Size w _) ?_
 refine zz 3 ?_
 refine T.aa rfl (fun h1=>?_) (fun h1=>?_)
 refine zz 8 ?_
 exact X.ag rfl (RV.tmp rfl) (RV.tmp rfl) (fun w' hw'=>⟨by rw [if_pos Y5,decide_eq_false Y5];rfl,hw'.s0⟩)
 refine zz 4 ?_
 refine J.aM zix rfl rfl Y5 Y5 Y22 rfl <| J.ag Y8k 1 rfl rfl zfM rfl rfl <| zz 5 ?_
 exact X.ag rfl (RV.tmp rfl) (RV.tmp rfl) (fun w' hw'=>⟨by rw [if_neg Y5,decide_eq_true Y5],hw'.s0⟩)
theorem Sum (w:World) (A0:Option Addr) (c0:Nat) (xs0:List Nat) (hc0:Cs w A0 (rowW xs0)) (hb0:xs0.length≤9223372036854775807):
    Calls prog 80 [.slice A0 xs0.length c0].toArray w fun e w'=>e=.returned (.tuple #[W (if sumN xs0 < 2^256 then sumN xs0 else 0),.bool (decide (sumN xs0 < 2^256))])∧WS w [] [] w':=by
 refine zac [] 25 [] func80 rfl ntmps80 Y20 (WS.refl _ _) <| zz 2 ?_
 refine J.am 2 rfl zbr zc9 rfl rfl fun g2 hg2=>zz 5 ?_
 refine J.am 4 rfl zbr zc9 rfl rfl fun g4 hg4=>zz 6 ?_
 refine J.al underlying128 rfl rfl <| zz 4 ?_
 refine T.ao 4 ⟨some g4,50,wc (sumN (xs0.take 0))⟩ rfl (by rw [show sumN (xs0.take 0)=0 by simp [sumN]];rfl) <| T.ag (ι:=Nat) (fun (i:Nat)=>i≤xs0.length∧sumN (xs0.take i) < 2^256) (fun (i:Nat)=>[(0,.slice A0 xs0.length c0),(2,.pointer (some ⟨g2,0,none⟩)),(4,.pointer (some ⟨g4,0,none⟩)),(8,.slice A0 xs0.length c0),(9,.int .i64 ((xs0.length:Nat):Int)),(10,.int .i64 (i:Int))]) (fun (i:Nat)=>[(2,⟨some g2,50,zc9⟩),(4,⟨some g4,50,wc (sumN (xs0.take i))⟩)]) (fun (i:Nat)=>xs0.length - i) 0 ⟨Nat.zero_le _,by simp [sumN]⟩ Y2 Y2 ?_
 rintro i ⟨hi,hs⟩
 refine zz 6 ?_
 refine T.aa rfl (fun h1=>?_) (fun h1=>?_)
 refine zz 6 ?_
 refine J.ah sl128 rfl (Cs.isSomeW hc0 Y5) rfl Y5 Y5 Y8 rfl <| J.bU Y8k hc0 (zab _) rfl zah Y19 rfl ?_
 have hts:sumN (xs0.take (i+1))=sumN (xs0.take i)+xs0.getD i 0%2^256:=by rw [zhc _ _ Y5,zmQ]
 have hml:=Nat.mod_lt (xs0.getD i 0) (show 2^256 > 0 by decide)
 have hme:=Nat.mod_eq_of_lt hs
 refine J.am 6 rfl zbr zc9 rfl rfl fun g6 hg6=>J.ae 6 rfl rfl rfl rfl (wc (xs0.getD i 0)) rfl sz50 Y7 Y6 Y11 trivial (wc (xs0.getD i 0)) rfl <| zz 9 ?_
 refine J.ai Y8k 4 rfl rfl zah (wc (sumN (xs0.take i))) rfl rfl rfl <| J.ai Y8k 6 rfl rfl zah (wc (xs0.getD i 0)) rfl rfl rfl <| J.aj Y8k zuu rfl rfl (fun w hw=>Wa.plus w _ _) ?_
 refine zz 2 ?_
 refine J.as 18 (W (sumN (xs0.take i)+xs0.getD i 0%2^256)) rfl (zta Y5) <| zz 1 ?_
 refine J.ae 4 rfl rfl rfl rfl (wc (sumN (xs0.take i)+xs0.getD i 0%2^256)) rfl sz50 Y7 Y6 Y11 trivial (wc (sumN (xs0.take i)+xs0.getD i 0%2^256)) rfl <| zz 9 ?_
 refine T.aa rfl (fun h2=>?_) (fun h2=>?_)
 have hle:=ziJ xs0 (i+1)
 rw [hme] at h2
 refine zz 2 ?_
 refine J.ao rfl rfl (W 0) Y191 <| J.ae 2 rfl rfl rfl rfl (wc 0) rfl sz50 Y7 Y6 Y11 trivial (wc 0) rfl <| zz 9 ?_
 exact X.ag rfl (RV.agg 2 rfl rfl zah (wc 0) Y22 Y22 rfl) (RV.tmp rfl) (fun w' hw'=>⟨by rw [if_neg Y5,decide_eq_false Y5],hw'.s0⟩)
 rw [hme] at h2
 refine zz 4 ?_
 refine J.aq rfl rfl rfl Y10 <| zz 2 ?_
 exact X.ae (i+1) ⟨by omega,by rw [hts];omega⟩ Y14 Y2 (by repeat (first | exact Sub.nil _ | refine Sub.cons (by first | rfl | (rw [hts];rfl)) ?_))
 obtain rfl:i=xs0.length:=by omega
 rw [List.take_length] at hs
 rw [List.take_length]
 refine zz 7 ?_
 refine J.ai Y8k 4 rfl rfl zah (wc (sumN xs0)) rfl rfl rfl <| J.ae 2 rfl rfl rfl rfl (wc (sumN xs0)) rfl sz50 Y7 Y6 Y11 trivial (wc (sumN xs0)) rfl <| zz 4 ?_
 exact X.ag rfl (RV.agg 2 rfl rfl zah (wc (sumN xs0)) Y22 Y22 rfl) (RV.tmp rfl) (fun w' hw'=>⟨by rw [if_pos hs,decide_eq_true hs],hw'.s0⟩)
end Go.Proofs.YtlllcafedekojaaGreatDoor.Wa
namespace Go.Fz
open Go Go.Fw Go.Proofs.Tryz
theorem el5:ElT prog 5 1 1 (.int .u8 0):=⟨Y12,rfl,Y18b,Y18b⟩
theorem ztM:FnOk prog 99:=FnOk.mk' func99 Y12 rfl
theorem sz47:SizeT prog 47 20:=Y9
theorem zdk:FldT prog 53 0 47 0 19:=⟨Y12,sz47⟩
theorem sz5:SizeT prog 5 1:=Y9
theorem zgZ:ArrT prog 47 20 5 1:=⟨underlying47,sz5⟩
theorem zpO:FnOk prog 40:=FnOk.mk' func40 Y12 rfl
theorem sz3:SizeT prog 3 1:=Y9
theorem zaR:FldT prog 53 1 3 20 0:=⟨Y12,sz3⟩
theorem one3:OneT prog 3:=⟨⟨_,underlying3,rfl⟩,Y12⟩
theorem zaM:FldT prog 53 2 50 21 3:=⟨Y12,sz50⟩
theorem zsD:FnOk prog 77:=FnOk.mk' func77 Y12 rfl
theorem zaW:FldT prog 53 3 50 25 3:=⟨Y12,sz50⟩
theorem zaB:FldT prog 53 4 50 29 3:=⟨Y12,sz50⟩
theorem sz51:SizeT prog 51 1:=Y9
theorem zbe:FldT prog 53 5 51 33 0:=⟨Y12,sz51⟩
theorem zaw:OneT prog 51:=⟨⟨_,underlying51,rfl⟩,Y12⟩
theorem zaV:FldT prog 53 6 51 34 0:=⟨Y12,sz51⟩
theorem znZ:FnOk prog 60:=FnOk.mk' func60 Y12 rfl
theorem zdu:ZeroT prog 53 (.agg (zc0).toArray):=Y17
theorem zjl:FnOk prog 72:=FnOk.mk' func72 Y12 rfl
theorem zaz:AggT prog 53 35:=⟨⟨_,underlying53,rfl⟩,Y12⟩
theorem sz53:SizeT prog 53 35:=Y9
end Go.Fz
namespace Go.Proofs.YtlllcafedekojaaGreatDoor.Da
open Go Go.Fw Go.Fz Go.Proofs.Tryz
attribute [local irreducible] J T X
theorem Compare (w:World) (A1 A2:Option Addr) (c1 c2:Nat) (xs ys:List Nat) (e1:Cs w A1 (rowN .u8 xs)) (e2:Cs w A2 (rowN .u8 ys)) (d1:Dg xs) (d2:Dg ys):
    Calls prog 40 [.slice A1 xs.length c1,.slice A2 ys.length c2].toArray w fun e w'=>e=.returned (.int .i64 (cmpL xs ys))∧WS w [] [] w':=by
 refine zac [] 8 [] func40 rfl ntmps40 Y20 (WS.refl _ _) <| zz 9 ?_
 refine J.dq func63 Y12 Y12 Y12 Y12 Y8k rfl rfl rfl rfl (fun w hw=>e1.ws hw (zab _)) (fun w hw=>e2.ws hw (zab _)) d1 d2 rfl <| zz 4 ?_
 exact X.aa rfl (RV.tmp rfl) (fun w' hw'=>⟨rfl,hw'.s0⟩)
theorem Equal (w:World) (A1 A2:Option Addr) (c1 c2:Nat) (xs ys:List Nat) (e1:Cs w A1 (rowN .u8 xs)) (e2:Cs w A2 (rowN .u8 ys)) (d1:Dg xs) (d2:Dg ys):
    Calls prog 60 [.slice A1 xs.length c1,.slice A2 ys.length c2].toArray w fun e w'=>e=.returned (.bool (decide (xs=ys)))∧WS w [] [] w':=by
 refine zac [] 10 [] func60 rfl ntmps60 Y20 (WS.refl _ _) <| zz 8 ?_
 refine J.bc Y8k underlying51 underlying5 underlying9 rfl (xs) rfl (fun w hw=>(e1.ws hw (zab _))) rfl <| zz 1 ?_
 refine J.bc Y8k underlying51 underlying5 underlying9 rfl (ys) rfl (fun w hw=>(e2.ws hw (zab _))) rfl <| J.da (xs:=xs) (ys:=ys) rfl rfl rfl Y195 Y195 <| zz 4 ?_
 exact X.aa rfl (RV.tmp rfl) (fun w' hw'=>⟨rfl,hw'.s0⟩)
theorem Clone (w:World) (A1:Option Addr) (c1:Nat) (xs:List Nat) (e1:Cs w A1 (rowN .u8 xs)) (hl:xs.length≤1000000000000):
    Calls prog 72 [.slice A1 xs.length c1].toArray w fun e w'=>RowsPost w 5 .u8 (fun zs=>zs=xs) e w':=by
 refine zac [] 8 [] func72 rfl ntmps72 Y20 (WS.refl _ _) <| zz 9 ?_
 refine J.cN underlying51 rfl rfl rfl <| zz 2 ?_
 refine T.aa rfl (fun h1=>?_) (fun h1=>?_)
 refine zz 7 ?_
 exact X.aa rfl (RV.tmp rfl) (fun w' hw'=>⟨[],(zjY Y195 e1).symm,RowIx.nil,RowIx.nil_ok 1,rfl,(hw'.addNil 0 5).sub (Sub.cons rfl (Sub.nil _))⟩)
 refine zz 4 ?_
 refine J.aV 5 rfl (e:=5) rfl rfl [] Y191 fun g5 hg5=>zz 1 ?_
 refine J.ay (i:=⟨some g5,0,[]⟩) (cs:=[]) 5 rfl underlying51 el5 rfl (RowIx.blk_ok' g5 0 1 (Nat.zero_le _)) rfl rfl rfl Y170 (fun w hw=>e1.ws hw (zab _)) Y134 Y5 Y28 rfl xs.length (Nat.zero_add _) (rowN .u8 xs) (List.nil_append _) fun r7 hr7=>zz 4 ?_
 exact X.aa rfl (RV.tmp rfl) (fun w' hw'=>RowsPost.mk' xs rfl r7 hr7 rfl hw' 5 rfl)
theorem Cmp (w:World) (x0 x1:Nat):
    Calls prog 77 [W x0,W x1].toArray w fun e w'=>e=.returned (.int .i64 (wcmp x0 x1))∧WS w [] [] w':=by
 refine zac [] 13 [] func77 rfl ntmps77 Y20 (WS.refl _ _) <| zz 2 ?_
 refine J.aE 2 rfl rfl (wc x0) rfl rfl fun g2 hg2=>J.aE 3 rfl rfl (wc x1) rfl rfl fun g3 hg3=>zz 7 ?_
 refine J.ai Y8k 2 rfl rfl zah (wc x0) rfl rfl rfl <| J.ai Y8k 3 rfl rfl zah (wc x1) rfl rfl rfl <| J.bg zcd rfl rfl rfl <| zz 3 ?_
 refine T.aa rfl (fun h1=>?_) (fun h1=>?_)
 refine zz 8 ?_
 exact X.aa rfl (RV.tmp rfl) (fun w' hw'=>⟨by unfold wcmp;rw [if_pos Y195],hw'.s0⟩)
 refine zz 2 ?_
 refine J.ai Y8k 2 rfl rfl zah (wc x0) rfl rfl rfl <| J.ai Y8k 3 rfl rfl zah (wc x1) rfl rfl rfl <| J.aj Y8k ztM rfl rfl (fun w hw=>Wa.Lt w _ _) ?_
 refine zz 3 ?_
 refine T.aa rfl (fun h2=>?_) (fun h2=>?_)
 refine zz 8 ?_
 exact X.aa rfl (RV.tmp rfl) (fun w' hw'=>⟨by unfold wcmp;rw [if_neg Y195,if_pos Y195],hw'.s0⟩)
 refine zz 9 ?_
 exact X.aa rfl (RV.tmp rfl) (fun w' hw'=>⟨by unfold wcmp;rw [if_neg Y195,if_neg Y195],hw'.s0⟩)
theorem spots (w:World) (a b:Ch) (ha:(-4611686018427387904≤a.kind∧a.kind≤4611686018427387903)) (hb:(-4611686018427387904≤b.kind∧b.kind≤4611686018427387903)):
    Calls prog 59 [.agg a.cells.toArray,.agg b.cells.toArray].toArray w fun e w'=>e=.returned (.int .i64 (spotZ a.v b.v))∧WS w [] [] w':=by
 refine zac [] 29 [] func59 rfl ntmps59 Y20 (WS.refl _ _) <| zz 2 ?_
 refine J.aE 2 rfl rfl (a.cells) rfl rfl fun g2 hg2=>J.aE 3 rfl rfl (b.cells) rfl rfl fun g3 hg3=>zz 5 ?_
 refine T.ae [] [(0,.g),(1,.g),(2,.g),(3,.g),(4,.q),(5,.g)] Y12 Y12 ?_ Y2
 refine J.aa zdk rfl rfl <| J.bk zgZ rfl optInt.none optInt.none optInt.none Y20 Y5 Y5 Y5 rfl rfl <| J.aa zdk rfl rfl <| J.bk zgZ rfl optInt.none optInt.none optInt.none Y20 Y5 Y5 Y5 rfl rfl <| J.aj Y8k zpO rfl rfl (fun w hw=>Da.Compare w _ _ _ _ (adL a.who) (adL b.who) (hw.pre (j:=2) (ac a.who) _ rfl) (hw.pre (j:=3) (ac b.who) _ rfl) (zdz _) (zdz _)) ?_
 refine J.as 10 (.int .i64 (cmpZ (a.who%256^20) (b.who%256^20))) rfl (by rw [zlD]) <| zz 9 ?_
 refine T.aa rfl (fun h1=>?_) (fun h1=>?_)
 have hwh:=(zop _ _).1 h1
 refine zz 8 ?_
 exact X.aa rfl (RV.tmp rfl) (fun w' hw'=>⟨by rw [zdC hwh];rfl,hw'.s0⟩)
 have hwh:=Decidable.not_not.1 fun q=>h1 ((zop _ _).2 q)
 refine zz 5 ?_
 refine J.aa zaR rfl rfl <| J.ag Y8k 2 rfl rfl one3 Y3 rfl <| J.aa zaR rfl rfl <| J.ag Y8k 3 rfl rfl one3 Y3 rfl <| zz 3 ?_
 refine T.aa rfl (fun h2=>?_) (fun h2=>?_)
 refine zz 2 ?_
 refine J.aa zaR rfl rfl <| J.ag Y8k 2 rfl rfl one3 Y3 rfl <| J.aa zaR rfl rfl <| J.ag Y8k 3 rfl rfl one3 Y3 rfl <| J.aI rfl rfl rfl (by exact zai _ Y5) <| zz 5 ?_
 exact X.aa rfl (RV.tmp rfl) (fun w' hw'=>⟨by rw [zcI hwh Y195];rfl,hw'.s0⟩)
 refine zz 4 ?_
 refine J.aa zaM rfl rfl <| J.ai Y8k 2 rfl rfl zah (wc a.key) rfl rfl rfl <| J.aa zaM rfl rfl <| J.ai Y8k 3 rfl rfl zah (wc b.key) rfl rfl rfl <| J.aj Y8k zsD rfl rfl (fun w hw=>Da.Cmp w _ _) ?_
 refine zz 4 ?_
 exact X.aa rfl (RV.tmp rfl) (fun w' hw'=>⟨by rw [zcJ hwh (Decidable.not_not.1 Y195)];exact congrArg (fun z=>Ending.returned (.int .i64 z)) (zhQ _ _).symm,hw'.s0⟩)
theorem idle (w:World) (c:Ch) (e1:Cs w c.oA (rowN .u8 c.oc)) (e2:Cs w c.nA (rowN .u8 c.nc)) (d1:Dg c.oc) (d2:Dg c.nc):
    Calls prog 61 [.agg c.cells.toArray].toArray w fun e w'=>e=.returned (.bool (decide c.v.idle))∧WS w [] [] w':=by
 refine zac [] 15 [] func61 rfl ntmps61 Y20 (WS.refl _ _) <| zz 2 ?_
 refine J.aE 1 rfl rfl (c.cells) rfl rfl fun g1 hg1=>zz 5 ?_
 refine J.aa zaW rfl rfl <| J.ai Y8k 1 rfl rfl zah (wc c.old) rfl rfl rfl <| J.aa zaB rfl rfl <| J.ai Y8k 1 rfl rfl zah (wc c.new) rfl rfl rfl <| J.bg zcd rfl rfl rfl <| zz 1 ?_
 refine J.an 8 rfl (fun h1=>?_) (fun h1=>?_)
 refine zz 1 ?_
 refine J.aa zbe rfl rfl <| zz 1 ?_
 refine J.ag Y8k 1 rfl rfl zaw Y3 rfl <| zz 1 ?_
 refine J.aa zaV rfl rfl <| zz 1 ?_
 refine J.ag Y8k 1 rfl rfl zaw Y3 rfl <| zz 1 ?_
 refine J.aj Y8k znZ rfl rfl (fun w hw=>Da.Equal w _ _ _ _ _ _ (e1.ws hw (zab _)) (e2.ws hw (zab _)) Y195 Y195) ?_
 refine zz 5 ?_
 exact X.aa rfl (RV.tmp rfl) Y110
 refine zz 10 ?_
 exact X.aa rfl (RV.tmp rfl) Y110
theorem own (w:World) (n:Nat) (B:List (Option Nat)) (c:Ch) (hB:∀ g,some g∈B→g < w.heap.size) (hc:c.Ok w n B):
    Calls prog 58 [.agg c.cells.toArray].toArray w fun e w'=>∃ c':Ch,(c'.v=c.v∧c'.Ok w' n B)∧e=.returned (.agg c'.cells.toArray)∧WS w [] [] w':=by
 have hlo:=hc.lo
 have hln:=hc.ln
 refine zac [] 12 [] func58 rfl ntmps58 Y20 (WS.refl _ _) <| zz 2 ?_
 refine J.aE 1 rfl rfl (c.cells) rfl rfl fun g1 hg1=>J.am 2 rfl zdu zc0 rfl rfl fun g2 hg2=>zz 3 ?_
 refine T.an [(1,⟨some g1,53,(c.cells)⟩)] [(0,.g),(1,.q),(3,.g),(4,.s),(2,.l),(6,.g),(5,.l)] [] [(7,.l),(8,.g),(9,.l)] Y12 Y12 Y12 ?_ Y2
 refine J.aa zbe rfl rfl <| J.ag Y8k 1 rfl rfl zaw Y3 rfl <| J.aa zaV rfl rfl <| J.aJ 1 rfl rfl zaw Y3 rfl <| J.bO 5 rfl (t:=5) (kd:=.u8) zjl rfl rfl (fun w hw=>Da.Clone w _ _ _ (hc.fo.cs.ws hw (zab _)) hlo) fun zs5 r5 hz5 hr5=>?_
 refine J.aa zbe rfl rfl <| J.bO 8 rfl (t:=5) (kd:=.u8) zjl rfl rfl (fun w hw=>Da.Clone w _ _ _ (hc.fn.cs.ws hw (zab _)) hln) fun zs8 r8 hz8 hr8=>?_
 refine J.cV ?_ (Sub.nil _)
 refine J.ae 1 rfl rfl rfl rfl [r5.val zs5.length] rfl sz51 Y7 Y27 Y11 trivial _ rfl <| J.aa zaV rfl rfl <| J.ae 1 rfl rfl rfl rfl [r8.val zs8.length] rfl sz51 Y7 Y27 Y11 trivial _ rfl <| zz 1 ?_
 refine X.ah 1 ⟨some g1,53,(Ch.mk c.who c.kind c.key c.old c.new zs5 zs8 (hdOf r5.id) r5.cap (hdOf r8.id) r8.cap).cells⟩ rfl Y22 <| zz 3 ?_
 refine J.ai Y8k 1 rfl rfl zaz (Ch.mk c.who c.kind c.key c.old c.new zs5 zs8 (hdOf r5.id) r5.cap (hdOf r8.id) r8.cap).cells rfl rfl rfl <| J.ae 2 rfl rfl rfl rfl (Ch.mk c.who c.kind c.key c.old c.new zs5 zs8 (hdOf r5.id) r5.cap (hdOf r8.id) r8.cap).cells rfl sz53 (Nat.le_of_ble_eq_true rfl) Y172 (Nat.zero_lt_succ _) trivial (Ch.mk c.who c.kind c.key c.old c.new zs5 zs8 (hdOf r5.id) r5.cap (hdOf r8.id) r8.cap).cells rfl <| zz 3 ?_
 exact X.aa rfl (RV.agg 2 rfl rfl zaz (Ch.mk c.who c.kind c.key c.old c.new zs5 zs8 (hdOf r5.id) r5.cap (hdOf r8.id) r8.cap).cells Y22 Y22 rfl) (fun w' hw'=>⟨(Ch.mk c.who c.kind c.key c.old c.new zs5 zs8 (hdOf r5.id) r5.cap (hdOf r8.id) r8.cap),⟨by show CV.mk _ _ _ _ _ zs5 zs8=_;rw [hz5,hz8];rfl,⟨hc.kd,by show Dg zs5;rw [hz5];exact hc.dO,by show Dg zs8;rw [hz8];exact hc.dN,by show zs5.length≤_;rw [hz5];exact hc.lo,by show zs8.length≤_;rw [hz8];exact hc.ln,zbc hw' (j:=5) rfl (fun g h=>⟨hB g h,fun q=>by cases q⟩),zbc hw' (j:=8) rfl (fun g h=>⟨hB g h,fun q=>by cases q⟩)⟩⟩,rfl,hw'.s0⟩)
end Go.Proofs.YtlllcafedekojaaGreatDoor.Da
namespace Go.Fz
open Go Go.Fw Go.Proofs.Tryz
theorem zcp:FnOk prog 61:=FnOk.mk' func61 Y12 rfl
theorem sl25:SlT prog 25 53 35:=⟨underlying25,sz53⟩
theorem fok71:FnOk prog 71:=FnOk.mk' func71 Y12 rfl
theorem zsE:FnOk prog 59:=FnOk.mk' func59 Y12 rfl
theorem zin:FnOk prog 58:=FnOk.mk' func58 Y12 rfl
theorem el53:ElT prog 53 35 176 (.agg (zc0).toArray):=⟨Y12,rfl,Y18b,Y18b⟩
end Go.Fz
namespace Go.Proofs.YtlllcafedekojaaGreatDoor.Db
open Go Go.Fw Go.Fz Go.Proofs.Tryz
attribute [local irreducible] J T X
theorem may (w:World) (c:Ch) (e1:Cs w c.oA (rowN .u8 c.oc)) (e2:Cs w c.nA (rowN .u8 c.nc)) (d1:Dg c.oc) (d2:Dg c.nc) (hlo:c.oc.length≤1000000000000) (hln:c.nc.length≤1000000000000):
    Calls prog 71 [.agg c.cells.toArray].toArray w fun e w'=>e=.returned (.bool (decide c.v.may))∧WS w [] [] w':=by
 refine zac [] 63 [] func71 rfl ntmps71 Y20 (WS.refl _ _) <| zz 2 ?_
 refine J.aE 1 rfl rfl (c.cells) rfl rfl fun g1 hg1=>zz 5 ?_
 refine J.am 3 rfl zbr (wc 0) rfl rfl fun g3 hg3=>zz 4 ?_
 refine J.aa zaW rfl rfl <| J.ai Y8k 1 rfl rfl zah (wc c.old) rfl rfl rfl <| J.ai Y8k 3 rfl rfl zah (wc 0) rfl rfl rfl <| J.aX zcd rfl rfl rfl <| zz 1 ?_
 refine J.an 10 rfl (fun h1=>?_) (fun h1=>?_)
 refine zz 10 ?_
 refine J.aa zbe rfl rfl <| J.ag Y8k 1 rfl rfl zaw Y3 rfl <| J.al underlying51 rfl rfl <| J.aa zaV rfl rfl <| J.ag Y8k 1 rfl rfl zaw Y3 rfl <| J.al underlying51 rfl rfl <| J.aq rfl rfl rfl (by exact zai _ Y5) <| zz 7 ?_
 refine J.aa zaR rfl rfl <| J.ag Y8k 1 rfl rfl one3 Y3 rfl <| zz 9 ?_
 refine T.aa rfl (fun h2=>?_) (fun h2=>?_)
 refine zz 2 ?_
 refine J.aa zaW rfl rfl <| J.ai Y8k 1 rfl rfl zah (wc c.old) rfl rfl rfl <| J.aj Y8k znY rfl rfl (fun w hw=>Wa.Size w _) ?_
 refine zz 2 ?_
 refine J.an 32 rfl (fun h3=>?_) (fun h3=>?_)
 have hbig:=zdF c.old Y5
 refine zz 16 ?_
 exact X.aa rfl (RV.tmp rfl) Y107
 have hsm_old:=(zbH c.old).1 Y5
 refine zz 1 ?_
 refine J.aa zaB rfl rfl <| zz 1 ?_
 refine J.ai Y8k 1 rfl rfl zah (wc c.new) rfl rfl rfl <| zz 1 ?_
 refine J.aj Y8k znY rfl rfl (fun w hw=>Wa.Size w _) ?_
 refine zz 4 ?_
 refine T.aa rfl (fun h4=>?_) (fun h4=>?_)
 have hbig:=zdF c.new Y5
 refine zz 8 ?_
 exact X.aa rfl (RV.tmp rfl) Y107
 have hsm_new:=(zbH c.new).1 Y5
 refine zz 6 ?_
 refine J.aA rfl rfl Y18 <| zz 1 ?_
 refine J.an 47 rfl (fun h5=>?_) (fun h5=>?_)
 refine zz 1 ?_
 refine J.aa zaM rfl rfl <| zz 1 ?_
 refine J.ai Y8k 1 rfl rfl zah (wc c.key) rfl rfl rfl <| zz 1 ?_
 refine J.ai Y8k 3 rfl rfl zah (wc 0) rfl rfl rfl <| zz 1 ?_
 refine J.bg zcd rfl rfl rfl <| zz 1 ?_
 refine J.an 52 rfl (fun h6=>?_) (fun h6=>?_)
 refine zz 7 ?_
 refine J.ai Y8k 1 rfl rfl zaz (c.cells) rfl rfl rfl <| zz 1 ?_
 refine J.aj Y8k zcp rfl rfl (fun w hw=>Da.idle w c (e1.ws hw (zab _)) (e2.ws hw (zab _)) d1 d2) ?_
 refine J.aF rfl rfl <| J.aA rfl rfl Y18 <| zz 5 ?_
 exact X.aa rfl (RV.tmp rfl) Y107
 refine zz 1 ?_
 refine J.aa zaR rfl rfl <| zz 1 ?_
 refine J.ag Y8k 1 rfl rfl one3 Y3 rfl <| zz 4 ?_
 refine J.an 58 rfl (fun h7=>?_) (fun h7=>?_)
 refine zz 1 ?_
 refine J.ai Y8k 1 rfl rfl zaz (c.cells) rfl rfl rfl <| zz 1 ?_
 refine J.aj Y8k zcp rfl rfl (fun w hw=>Da.idle w c (e1.ws hw (zab _)) (e2.ws hw (zab _)) d1 d2) ?_
 refine J.aF rfl rfl <| J.aA rfl rfl Y18 <| zz 5 ?_
 exact X.aa rfl (RV.tmp rfl) Y107
 refine zz 8 ?_
 exact X.aa rfl (RV.tmp rfl) Y107
 refine zz 19 ?_
 exact X.aa rfl (RV.tmp rfl) Y107
 refine zz 6 ?_
 refine T.aa rfl (fun h8=>?_) (fun h8=>?_)
 refine zz 32 ?_
 exact X.aa rfl (RV.tmp rfl) Y107
 refine zz 7 ?_
 refine T.aa rfl (fun h9=>?_) (fun h9=>?_)
 refine zz 2 ?_
 refine T.aa rfl (fun h10=>?_) (fun h10=>?_)
 refine zz 6 ?_
 refine J.aA rfl rfl Y18 <| zz 1 ?_
 refine J.an 47 rfl (fun h11=>?_) (fun h11=>?_)
 refine zz 1 ?_
 refine J.aa zaM rfl rfl <| zz 1 ?_
 refine J.ai Y8k 1 rfl rfl zah (wc c.key) rfl rfl rfl <| zz 1 ?_
 refine J.ai Y8k 3 rfl rfl zah (wc 0) rfl rfl rfl <| zz 1 ?_
 refine J.bg zcd rfl rfl rfl <| zz 1 ?_
 refine J.an 52 rfl (fun h12=>?_) (fun h12=>?_)
 refine zz 7 ?_
 refine J.ai Y8k 1 rfl rfl zaz (c.cells) rfl rfl rfl <| zz 1 ?_
 refine J.aj Y8k zcp rfl rfl (fun w hw=>Da.idle w c (e1.ws hw (zab _)) (e2.ws hw (zab _)) d1 d2) ?_
 refine J.aF rfl rfl <| J.aA rfl rfl Y18 <| zz 5 ?_
 exact X.aa rfl (RV.tmp rfl) Y107
 refine zz 1 ?_
 refine J.aa zaR rfl rfl <| zz 1 ?_
 refine J.ag Y8k 1 rfl rfl one3 Y3 rfl <| zz 4 ?_
 refine J.an 58 rfl (fun h13=>?_) (fun h13=>?_)
 refine zz 1 ?_
 refine J.ai Y8k 1 rfl rfl zaz (c.cells) rfl rfl rfl <| zz 1 ?_
 refine J.aj Y8k zcp rfl rfl (fun w hw=>Da.idle w c (e1.ws hw (zab _)) (e2.ws hw (zab _)) d1 d2) ?_
 refine J.aF rfl rfl <| J.aA rfl rfl Y18 <| zz 5 ?_
 exact X.aa rfl (RV.tmp rfl) Y107
 refine zz 8 ?_
 exact X.aa rfl (RV.tmp rfl) Y107
 refine zz 19 ?_
 exact X.aa rfl (RV.tmp rfl) Y107
 refine zz 8 ?_
 exact X.aa rfl (RV.tmp rfl) Y107
 refine zz 5 ?_
 refine T.aa rfl (fun h14=>?_) (fun h14=>?_)
 refine zz 6 ?_
 refine J.aA rfl rfl Y18 <| zz 1 ?_
 refine J.an 47 rfl (fun h15=>?_) (fun h15=>?_)
 refine zz 1 ?_
 refine J.aa zaM rfl rfl <| zz 1 ?_
 refine J.ai Y8k 1 rfl rfl zah (wc c.key) rfl rfl rfl <| zz 1 ?_
 refine J.ai Y8k 3 rfl rfl zah (wc 0) rfl rfl rfl <| zz 1 ?_
 refine J.bg zcd rfl rfl rfl <| zz 1 ?_
 refine J.an 52 rfl (fun h16=>?_) (fun h16=>?_)
 refine zz 7 ?_
 refine J.ai Y8k 1 rfl rfl zaz (c.cells) rfl rfl rfl <| zz 1 ?_
 refine J.aj Y8k zcp rfl rfl (fun w hw=>Da.idle w c (e1.ws hw (zab _)) (e2.ws hw (zab _)) d1 d2) ?_
 refine J.aF rfl rfl <| J.aA rfl rfl Y18 <| zz 5 ?_
 exact X.aa rfl (RV.tmp rfl) Y107
 refine zz 1 ?_
 refine J.aa zaR rfl rfl <| zz 1 ?_
 refine J.ag Y8k 1 rfl rfl one3 Y3 rfl <| zz 4 ?_
 refine J.an 58 rfl (fun h17=>?_) (fun h17=>?_)
 refine zz 1 ?_
 refine J.ai Y8k 1 rfl rfl zaz (c.cells) rfl rfl rfl <| zz 1 ?_
 refine J.aj Y8k zcp rfl rfl (fun w hw=>Da.idle w c (e1.ws hw (zab _)) (e2.ws hw (zab _)) d1 d2) ?_
 refine J.aF rfl rfl <| J.aA rfl rfl Y18 <| zz 5 ?_
 exact X.aa rfl (RV.tmp rfl) Y107
 refine zz 8 ?_
 exact X.aa rfl (RV.tmp rfl) Y107
 refine zz 19 ?_
 exact X.aa rfl (RV.tmp rfl) Y107
 refine zz 8 ?_
 exact X.aa rfl (RV.tmp rfl) Y107
 refine zz 1 ?_
 refine J.aa zaB rfl rfl <| zz 1 ?_
 refine J.ai Y8k 1 rfl rfl zah (wc c.new) rfl rfl rfl <| zz 1 ?_
 refine J.ai Y8k 3 rfl rfl zah (wc 0) rfl rfl rfl <| zz 1 ?_
 refine J.aX zcd rfl rfl rfl <| zz 6 ?_
 refine J.aa zbe rfl rfl <| J.ag Y8k 1 rfl rfl zaw Y3 rfl <| J.al underlying51 rfl rfl <| J.aa zaV rfl rfl <| J.ag Y8k 1 rfl rfl zaw Y3 rfl <| J.al underlying51 rfl rfl <| J.aq rfl rfl rfl (by exact zai _ Y5) <| zz 7 ?_
 refine J.aa zaR rfl rfl <| J.ag Y8k 1 rfl rfl one3 Y3 rfl <| zz 9 ?_
 refine T.aa rfl (fun h18=>?_) (fun h18=>?_)
 refine zz 2 ?_
 refine J.aa zaW rfl rfl <| J.ai Y8k 1 rfl rfl zah (wc c.old) rfl rfl rfl <| J.aj Y8k znY rfl rfl (fun w hw=>Wa.Size w _) ?_
 refine zz 2 ?_
 refine J.an 32 rfl (fun h19=>?_) (fun h19=>?_)
 have hbig:=zdF c.old Y5
 refine zz 16 ?_
 exact X.aa rfl (RV.tmp rfl) Y107
 have hsm_old:=(zbH c.old).1 Y5
 refine zz 1 ?_
 refine J.aa zaB rfl rfl <| zz 1 ?_
 refine J.ai Y8k 1 rfl rfl zah (wc c.new) rfl rfl rfl <| zz 1 ?_
 refine J.aj Y8k znY rfl rfl (fun w hw=>Wa.Size w _) ?_
 refine zz 4 ?_
 refine T.aa rfl (fun h20=>?_) (fun h20=>?_)
 have hbig:=zdF c.new Y5
 refine zz 8 ?_
 exact X.aa rfl (RV.tmp rfl) Y107
 have hsm_new:=(zbH c.new).1 Y5
 refine zz 6 ?_
 refine J.aA rfl rfl Y18 <| zz 1 ?_
 refine J.an 47 rfl (fun h21=>?_) (fun h21=>?_)
 refine zz 1 ?_
 refine J.aa zaM rfl rfl <| zz 1 ?_
 refine J.ai Y8k 1 rfl rfl zah (wc c.key) rfl rfl rfl <| zz 1 ?_
 refine J.ai Y8k 3 rfl rfl zah (wc 0) rfl rfl rfl <| zz 1 ?_
 refine J.bg zcd rfl rfl rfl <| zz 1 ?_
 refine J.an 52 rfl (fun h22=>?_) (fun h22=>?_)
 refine zz 7 ?_
 refine J.ai Y8k 1 rfl rfl zaz (c.cells) rfl rfl rfl <| zz 1 ?_
 refine J.aj Y8k zcp rfl rfl (fun w hw=>Da.idle w c (e1.ws hw (zab _)) (e2.ws hw (zab _)) d1 d2) ?_
 refine J.aF rfl rfl <| J.aA rfl rfl Y18 <| zz 5 ?_
 exact X.aa rfl (RV.tmp rfl) Y107
 refine zz 1 ?_
 refine J.aa zaR rfl rfl <| zz 1 ?_
 refine J.ag Y8k 1 rfl rfl one3 Y3 rfl <| zz 4 ?_
 refine J.an 58 rfl (fun h23=>?_) (fun h23=>?_)
 refine zz 1 ?_
 refine J.ai Y8k 1 rfl rfl zaz (c.cells) rfl rfl rfl <| zz 1 ?_
 refine J.aj Y8k zcp rfl rfl (fun w hw=>Da.idle w c (e1.ws hw (zab _)) (e2.ws hw (zab _)) d1 d2) ?_
 refine J.aF rfl rfl <| J.aA rfl rfl Y18 <| zz 5 ?_
 exact X.aa rfl (RV.tmp rfl) Y107
 refine zz 8 ?_
 exact X.aa rfl (RV.tmp rfl) Y107
 refine zz 19 ?_
 exact X.aa rfl (RV.tmp rfl) Y107
 refine zz 6 ?_
 refine T.aa rfl (fun h24=>?_) (fun h24=>?_)
 refine zz 11 ?_
 refine J.aA rfl rfl Y18 <| zz 1 ?_
 refine J.an 47 rfl (fun h25=>?_) (fun h25=>?_)
 refine zz 1 ?_
 refine J.aa zaM rfl rfl <| zz 1 ?_
 refine J.ai Y8k 1 rfl rfl zah (wc c.key) rfl rfl rfl <| zz 1 ?_
 refine J.ai Y8k 3 rfl rfl zah (wc 0) rfl rfl rfl <| zz 1 ?_
 refine J.bg zcd rfl rfl rfl <| zz 1 ?_
 refine J.an 52 rfl (fun h26=>?_) (fun h26=>?_)
 refine zz 7 ?_
 refine J.ai Y8k 1 rfl rfl zaz (c.cells) rfl rfl rfl <| zz 1 ?_
 refine J.aj Y8k zcp rfl rfl (fun w hw=>Da.idle w c (e1.ws hw (zab _)) (e2.ws hw (zab _)) d1 d2) ?_
 refine J.aF rfl rfl <| J.aA rfl rfl Y18 <| zz 5 ?_
 exact X.aa rfl (RV.tmp rfl) Y107
 refine zz 1 ?_
 refine J.aa zaR rfl rfl <| zz 1 ?_
 refine J.ag Y8k 1 rfl rfl one3 Y3 rfl <| zz 4 ?_
 refine J.an 58 rfl (fun h27=>?_) (fun h27=>?_)
 refine zz 1 ?_
 refine J.ai Y8k 1 rfl rfl zaz (c.cells) rfl rfl rfl <| zz 1 ?_
 refine J.aj Y8k zcp rfl rfl (fun w hw=>Da.idle w c (e1.ws hw (zab _)) (e2.ws hw (zab _)) d1 d2) ?_
 refine J.aF rfl rfl <| J.aA rfl rfl Y18 <| zz 5 ?_
 exact X.aa rfl (RV.tmp rfl) Y107
 refine zz 8 ?_
 exact X.aa rfl (RV.tmp rfl) Y107
 refine zz 19 ?_
 exact X.aa rfl (RV.tmp rfl) Y107
 refine zz 7 ?_
 refine T.aa rfl (fun h28=>?_) (fun h28=>?_)
 refine zz 2 ?_
 refine T.aa rfl (fun h29=>?_) (fun h29=>?_)
 refine zz 6 ?_
 refine J.aA rfl rfl Y18 <| zz 1 ?_
 refine J.an 47 rfl (fun h30=>?_) (fun h30=>?_)
 refine zz 1 ?_
 refine J.aa zaM rfl rfl <| zz 1 ?_
 refine J.ai Y8k 1 rfl rfl zah (wc c.key) rfl rfl rfl <| zz 1 ?_
 refine J.ai Y8k 3 rfl rfl zah (wc 0) rfl rfl rfl <| zz 1 ?_
 refine J.bg zcd rfl rfl rfl <| zz 1 ?_
 refine J.an 52 rfl (fun h31=>?_) (fun h31=>?_)
 refine zz 7 ?_
 refine J.ai Y8k 1 rfl rfl zaz (c.cells) rfl rfl rfl <| zz 1 ?_
 refine J.aj Y8k zcp rfl rfl (fun w hw=>Da.idle w c (e1.ws hw (zab _)) (e2.ws hw (zab _)) d1 d2) ?_
 refine J.aF rfl rfl <| J.aA rfl rfl Y18 <| zz 5 ?_
 exact X.aa rfl (RV.tmp rfl) Y107
 refine zz 1 ?_
 refine J.aa zaR rfl rfl <| zz 1 ?_
 refine J.ag Y8k 1 rfl rfl one3 Y3 rfl <| zz 4 ?_
 refine J.an 58 rfl (fun h32=>?_) (fun h32=>?_)
 refine zz 1 ?_
 refine J.ai Y8k 1 rfl rfl zaz (c.cells) rfl rfl rfl <| zz 1 ?_
 refine J.aj Y8k zcp rfl rfl (fun w hw=>Da.idle w c (e1.ws hw (zab _)) (e2.ws hw (zab _)) d1 d2) ?_
 refine J.aF rfl rfl <| J.aA rfl rfl Y18 <| zz 5 ?_
 exact X.aa rfl (RV.tmp rfl) Y107
 refine zz 8 ?_
 exact X.aa rfl (RV.tmp rfl) Y107
 refine zz 19 ?_
 exact X.aa rfl (RV.tmp rfl) Y107
 refine zz 8 ?_
 exact X.aa rfl (RV.tmp rfl) Y107
 refine zz 5 ?_
 refine T.aa rfl (fun h33=>?_) (fun h33=>?_)
 refine zz 6 ?_
 refine J.aA rfl rfl Y18 <| zz 1 ?_
 refine J.an 47 rfl (fun h34=>?_) (fun h34=>?_)
 refine zz 1 ?_
 refine J.aa zaM rfl rfl <| zz 1 ?_
 refine J.ai Y8k 1 rfl rfl zah (wc c.key) rfl rfl rfl <| zz 1 ?_
 refine J.ai Y8k 3 rfl rfl zah (wc 0) rfl rfl rfl <| zz 1 ?_
 refine J.bg zcd rfl rfl rfl <| zz 1 ?_
 refine J.an 52 rfl (fun h35=>?_) (fun h35=>?_)
 refine zz 7 ?_
 refine J.ai Y8k 1 rfl rfl zaz (c.cells) rfl rfl rfl <| zz 1 ?_
 refine J.aj Y8k zcp rfl rfl (fun w hw=>Da.idle w c (e1.ws hw (zab _)) (e2.ws hw (zab _)) d1 d2) ?_
 refine J.aF rfl rfl <| J.aA rfl rfl Y18 <| zz 5 ?_
 exact X.aa rfl (RV.tmp rfl) Y107
 refine zz 1 ?_
 refine J.aa zaR rfl rfl <| zz 1 ?_
 refine J.ag Y8k 1 rfl rfl one3 Y3 rfl <| zz 4 ?_
 refine J.an 58 rfl (fun h36=>?_) (fun h36=>?_)
 refine zz 1 ?_
 refine J.ai Y8k 1 rfl rfl zaz (c.cells) rfl rfl rfl <| zz 1 ?_
 refine J.aj Y8k zcp rfl rfl (fun w hw=>Da.idle w c (e1.ws hw (zab _)) (e2.ws hw (zab _)) d1 d2) ?_
 refine J.aF rfl rfl <| J.aA rfl rfl Y18 <| zz 5 ?_
 exact X.aa rfl (RV.tmp rfl) Y107
 refine zz 8 ?_
 exact X.aa rfl (RV.tmp rfl) Y107
 refine zz 19 ?_
 exact X.aa rfl (RV.tmp rfl) Y107
 refine zz 8 ?_
 exact X.aa rfl (RV.tmp rfl) Y107
theorem form (w:World) (n:Nat) (B:List (Option Nat)) (A1:Option Addr) (c1:Nat) (ds:List Ch) (hA:Cs w A1 (rowC ds)) (hd:AllC w n B ds) (hl:ds.length≤1000000000000):
    Calls prog 49 [.slice A1 ds.length c1].toArray w fun e w'=>e=.returned (.int .i64 (formZ (ds.map Ch.v)))∧WS w [] [] w':=by
 refine zac [] 28 [] func49 rfl ntmps49 Y20 (WS.refl _ _) <| zz 9 ?_
 refine J.al underlying25 rfl rfl <| zz 4 ?_
 refine T.ag (ι:=Nat) (fun (i:Nat)=>i≤ds.length∧formZ (ds.map Ch.v)=formF (prevC (ds.map Ch.v) i) ((ds.map Ch.v).drop i)∧(∀ j,j < i→(ds.getD j default).v.may)) (fun (i:Nat)=>[(0,.slice A1 ds.length c1),(5,.slice A1 ds.length c1),(6,.int .i64 ((ds.length:Nat):Int)),(7,.int .i64 (i:Int))]) (fun (i:Nat)=>[]) (fun (i:Nat)=>ds.length - i) 0 ⟨Nat.zero_le _,rfl,fun j hj=>by omega⟩ Y2 Y2 ?_
 rintro i ⟨hi,hz,hmy⟩
 refine zz 6 ?_
 refine T.aa rfl (fun h1=>?_) (fun h1=>?_)
 have hi2:i < ds.length:=by omega
 have hst:=znX (cs:=ds.map Ch.v) (i:=i) (by rw [List.length_map];exact hi2)
 rw [zcR ds i hi2,zcR ds (i - 1) Y5,← hz] at hst
 refine zz 7 ?_
 refine J.ah sl25 rfl (hA.isSome Y15) rfl Y5 Y5 Y8 rfl <| J.ar Y8k hA (zab _) rfl zaz ((ds.getD i default).cells) rfl (zdb ds i Y5) rfl <| J.am 4 rfl zdu zc0 rfl rfl fun g4 hg4=>zz 1 ?_
 refine J.ae 4 rfl rfl rfl rfl ((ds.getD i default).cells) rfl sz53 (Nat.le_of_ble_eq_true rfl) Y172 (Nat.zero_lt_succ _) trivial ((ds.getD i default).cells) rfl <| zz 5 ?_
 refine J.ai Y8k 4 rfl rfl zaz ((ds.getD i default).cells) rfl rfl rfl <| J.aj Y8k fok71 rfl rfl (fun w hw=>Db.may w (ds.getD i default) ((hd.get (i:=i) Y5).fo.cs.ws hw (zab _)) ((hd.get (i:=i) Y5).fn.cs.ws hw (zab _)) (hd.get (i:=i) Y5).dO (hd.get (i:=i) Y5).dN (hd.get (i:=i) Y5).lo (hd.get (i:=i) Y5).ln) ?_
 refine J.aA rfl rfl Y18 <| zz 2 ?_
 refine T.aa rfl (fun h2=>?_) (fun h2=>?_)
 rw [if_pos h2] at hst
 refine zz 12 ?_
 exact X.aa rfl (RV.tmp rfl) Y132
 have hmi:=Decidable.not_not.1 h2
 rw [if_neg h2] at hst
 have hmy2:=zgE hmy hmi
 refine zz 3 ?_
 refine T.ae [] [(0,.g),(1,.g),(2,.g),(3,.g),(4,.g),(5,.g),(6,.g),(7,.q),(8,.q),(9,.q),(10,.g),(11,.g)] Y12 Y12 ?_ Y2
 refine zz 3 ?_
 refine J.an 17 rfl (fun h3=>?_) (fun h3=>?_)
 refine zz 3 ?_
 refine J.aI rfl rfl rfl (by exact zbt _ 1 Y5) <| zz 1 ?_
 refine J.ah sl25 rfl (hA.isSome Y15) rfl Y5 Y5 Y8 rfl <| zz 1 ?_
 refine J.ar Y8k hA (zab _) rfl zaz ((ds.getD (i - 1) default).cells) rfl (zdb ds (i - 1) Y5) rfl <| zz 1 ?_
 refine J.ai Y8k 4 rfl rfl zaz ((ds.getD i default).cells) rfl rfl rfl <| zz 1 ?_
 refine J.aj Y8k zsE rfl rfl (fun w hw=>Da.spots w (ds.getD (i - 1) default) (ds.getD i default) (by have:=(hmy (i - 1) Y5).kinds;unfold Ch.v at this;dsimp only at this;omega) (by have:=(hmi).kinds;unfold Ch.v at this;dsimp only at this;omega)) ?_
 refine zz 4 ?_
 refine T.aa rfl (fun h4=>?_) (fun h4=>?_)
 rw [if_pos ⟨by omega,by assumption⟩] at hst
 refine zz 11 ?_
 exact X.aa rfl (RV.tmp rfl) Y132
 have hz3:=hst
 rw [if_neg (fun q=>by have:=q.1;have:=q.2;omega)] at hz3
 refine zz 4 ?_
 refine J.aq rfl rfl rfl Y10 <| zz 2 ?_
 exact X.ae (i+1) ⟨by omega,hz3,hmy2⟩ Y14 Y2 Y2
 have hz3:=hst
 rw [if_neg (fun q=>by have:=q.1;omega)] at hz3
 refine zz 16 ?_
 refine J.aq rfl rfl rfl Y10 <| zz 2 ?_
 exact X.ae (i+1) ⟨by omega,hz3,hmy2⟩ Y14 Y2 Y2
 obtain rfl:i=ds.length:=by omega
 have hz4:=hz
 have hfe:=zpN (ds.map Ch.v)
 rw [List.length_map] at hfe
 rw [hfe] at hz4
 refine zz 11 ?_
 exact X.aa rfl (RV.tmp rfl) Y132
theorem Turn (w:World) (n:Nat) (B:List (Option Nat)) (A1:Option Addr) (c1:Nat) (ds:List Ch) (hn:n≤w.heap.size) (hB:∀ g,some g∈B→g < w.heap.size) (hA:Cs w A1 (rowC ds)) (hd:AllC w n B ds) (hl:ds.length≤1000000000):
    Calls prog 28 [.slice A1 ds.length c1].toArray w fun e w'=>∃ q:List Ch×RowIx,(q.1.map Ch.v=ds.map (fun c=>c.v.turn)∧q.2.Ok 35 q.1.length∧Fit w' n B (hdOf q.2.id) (rowC q.1)∧AllC w' n B q.1)∧e=.returned (q.2.val q.1.length)∧WS w [] [] w':=by
 refine zac [] 32 [] func28 rfl ntmps28 Y20 (WS.refl _ _) <| zz 6 ?_
 refine T.aj 3 53 <| zz 8 ?_
 refine J.al underlying25 rfl rfl <| zz 4 ?_
 refine T.al [(3,⟨none,53,[]⟩)] Y0 rfl fun Wl1 hWWl1=>?_
 have kpWl1:=(zad (B0:=B) (l1:=[(3,⟨none,53,[]⟩)]) hn Y189 hWWl1 Y0 rfl)
 have hd:=hd.keep kpWl1
 have hVWl1:=hWWl1.s0
 refine T.ag (ι:=World×Nat×List Ch×RowIx) (fun (W,i,zs,r)=>i≤ds.length∧zs.map Ch.v=(ds.take i).map (fun c=>c.v.turn)∧r.Ok 35 zs.length∧WS w [] [] W∧AllC W n (B++[r.id]) ds∧AllC W n (B++[r.id]) zs) (fun (W,i,zs,r)=>[(0,.slice A1 ds.length c1),(2,.slice none 0 0),(6,.slice A1 ds.length c1),(7,.int .i64 ((ds.length:Nat):Int)),(8,.int .i64 (i:Int)),(3,r.val zs.length)]) (fun (W,i,zs,r)=>((3,r.ent 53 (rowC zs))::snapL W w.heap.size [r.id])) (fun (W,i,zs,r)=>ds.length - i) ⟨Wl1,0,[],RowIx.nil⟩ ⟨Nat.zero_le _,rfl,RowIx.nil_ok 35,hVWl1,hd,AllC.nil⟩ Y0 Y0 ?_
 rintro ⟨W,i,zs,r⟩ ⟨hi,hm,hr,hV,hd,hz⟩
 try dsimp only at *
 refine zz 6 ?_
 refine T.aa rfl (fun h2=>?_) (fun h2=>?_)
 have hi2:i < ds.length:=by omega
 refine zz 6 ?_
 refine J.ah sl25 rfl (hA.isSome Y15) rfl Y5 Y5 Y8 rfl <| J.ar Y8k hA (zab _) rfl zaz ((ds.getD i default).cells) rfl (zdb ds i Y5) rfl <| J.am 5 rfl zdu zc0 rfl rfl fun g5 hg5=>J.ae 5 rfl rfl rfl rfl ((ds.getD i default).cells) rfl sz53 (Nat.le_of_ble_eq_true rfl) Y172 (Nat.zero_lt_succ _) trivial ((ds.getD i default).cells) rfl <| zz 4 ?_
 refine J.ai Y8k 5 rfl rfl zaz ((ds.getD i default).cells) rfl rfl rfl <| J.aw zin rfl rfl _ _ [(3,r.ent 53 (rowC zs)),(5,⟨some g5,53,((ds.getD i default).cells)⟩)] Y0 rfl (fun _ _=>Sub.nil _) (fun w hw=>Da.own w n (B++ids [(3,r.ent 53 (rowC zs)),(5,⟨some g5,53,((ds.getD i default).cells)⟩)]) _ (zaf (l1:=[(3,r.ent 53 (rowC zs)),(5,⟨some g5,53,((ds.getD i default).cells)⟩)]) hB hw Y0 rfl) ((hd.keep (zaa (I:=[r.id]) (B0:=B) (l1:=[(3,r.ent 53 (rowC zs)),(5,⟨some g5,53,((ds.getD i default).cells)⟩)]) hV hn Y189 hw Y4 Y0 rfl)).get (i:=i) Y5)) fun i13 W13 hP13 hW13=>?_
 obtain ⟨hv13,hc13⟩:=hP13
 have kpW13:=(zaa (I:=[r.id]) (B0:=B) (l1:=[(3,r.ent 53 (rowC zs)),(5,⟨some g5,53,((ds.getD i default).cells)⟩)]) hV hn Y189 hW13 Y4 Y0 rfl)
 have hd:=hd.keep kpW13
 have hz:=hz.keep kpW13
 have hVW13:=hW13.s0
 refine J.ae 5 rfl rfl rfl rfl (i13.cells) rfl sz53 (Nat.le_of_ble_eq_true rfl) Y172 (Nat.zero_lt_succ _) trivial (i13.cells) rfl <| zz 4 ?_
 refine J.aa zaB rfl rfl <| J.ai Y8k 5 rfl rfl zah (wc i13.new) rfl rfl rfl <| J.aa zaW rfl rfl <| J.ai Y8k 5 rfl rfl zah (wc i13.old) rfl rfl rfl <| J.aa zaV rfl rfl <| J.ag Y8k 5 rfl rfl zaw Y3 rfl <| J.aa zbe rfl rfl <| J.ag Y8k 5 rfl rfl zaw Y3 rfl ?_
 refine J.aa zaW rfl rfl <| J.ae 5 rfl rfl rfl rfl (wc i13.new) rfl sz50 Y7 Y6 Y11 trivial _ rfl <| J.aa zaB rfl rfl <| J.ae 5 rfl rfl rfl rfl (wc i13.old) rfl sz50 Y7 Y6 Y11 trivial _ rfl <| J.aa zbe rfl rfl <| J.ae 5 rfl rfl rfl rfl [_] rfl sz51 Y7 Y6 Y11 trivial _ rfl <| J.aa zaV rfl rfl <| J.ae 5 rfl rfl rfl rfl [_] rfl sz51 Y7 Y6 Y11 trivial _ rfl ?_
 refine zz 1 ?_
 refine X.ah 5 ⟨some g5,53,i13.turn.cells⟩ rfl Y22 <| zz 3 ?_
 refine J.ai Y8k 5 rfl rfl zaz (i13.turn.cells) rfl rfl rfl <| J.aD 28 rfl underlying25 el53 Y23 rfl (i13.turn.cells) rfl rfl rfl fun g28 hg28=>J.ay 3 rfl underlying25 el53 rfl hr (zaq zs) rfl rfl rfl (fun w hw=>(hw.blkCs (k:=28) rfl)) (Ch.cells_one _) Y151 Y135 rfl (zs++[i13.turn]).length Y25 (rowC (zs++[i13.turn])) (zbw _ _).symm fun r29 hr29=>zz 5 ?_
 refine J.aq rfl rfl rfl Y10 <| zz 2 ?_
 refine X.aj [(3,r29.ent 53 (rowC (zs++[i13.turn])))] Y0 rfl fun Wx3 hWWx3=>?_
 have kpWx3:=(zaa (I:=[r.id,some g5]) (B0:=B) (l1:=[(3,r29.ent 53 (rowC (zs++[i13.turn])))]) hVW13 hn Y189 hWWx3 Y4 Y0 rfl)
 have hd:=hd.keep kpWx3
 have hz:=hz.keep kpWx3
 have hc13:=hc13.keep kpWx3
 have hVWx3:=hWWx3.s0
 exact X.ae ⟨Wx3,(i+1),(zs++[i13.turn]),r29⟩ ⟨by show i+1≤_;omega,zhG (f:=CV.turn) hm hi2 (by rw [Ch.turn_v,hv13]),hr29,hVWx3,hd,hz.snoc hc13.turn⟩ Y14 Y0 Y0
 obtain rfl:i=ds.length:=by omega
 rw [List.take_length] at hm
 refine zz 12 ?_
 exact X.aa rfl (RV.tmp rfl) (fun w' hw'=>⟨(zs,r),⟨hm,hr,zbc hw' (j:=3) rfl (fun g h=>⟨hB g h,fun q=>by cases q⟩),hz.keep (((zaa (I:=[r.id]) (B0:=B) (l1:=[]) hV hn Y189 hw' Y4 (Sub.nil _) rfl)).le (fun o h=>List.mem_append_left _ h))⟩,rfl,hw'.s0⟩)
end Go.Proofs.YtlllcafedekojaaGreatDoor.Db
namespace Go.Fz
open Go Go.Fw Go.Proofs.Tryz
theorem sz25:SizeT prog 25 1:=Y9
theorem sl43:SlT prog 43 25 1:=⟨underlying43,sz25⟩
theorem one25:OneT prog 25:=⟨⟨_,underlying25,rfl⟩,Y12⟩
theorem ztQ:FnOk prog 49:=FnOk.mk' func49 Y12 rfl
end Go.Fz
namespace Go.Proofs.YtlllcafedekojaaGreatDoor.Dc
open Go Go.Fw Go.Fz Go.Proofs.Tryz
attribute [local irreducible] J T X
theorem Join (w:World) (n:Nat) (B:List (Option Nat)) (A1 A2:Option Addr) (c1 c2:Nat) (ps bs:List Ch) (hn:n≤w.heap.size) (hB:∀ g,some g∈B→g < w.heap.size) (hA1:Cs w A1 (rowC ps)) (hb1:ps.length≤c1) (hd1:AllC w n B ps) (hA2:Cs w A2 (rowC bs)) (hb2:bs.length≤c2) (hd2:AllC w n B bs) (hl1:ps.length≤1000000000) (hl2:bs.length≤1000000000):
    Calls prog 32 [.slice A1 ps.length c1,.slice A2 bs.length c2].toArray w fun e w'=>∃ q:List Ch×RowIx,(q.1.map Ch.v=(joinZ (ps.map Ch.v) (bs.map Ch.v)).1∧q.2.Ok 35 q.1.length∧Fit w' n B (hdOf q.2.id) (rowC q.1)∧AllC w' n B q.1)∧e=.returned (.tuple #[q.2.val q.1.length,.int .i64 (joinZ (ps.map Ch.v) (bs.map Ch.v)).2])∧WS w [] [] w':=by
 refine zac [] 127 [] func32 rfl ntmps32 Y20 (WS.refl _ _) <| zz 12 ?_
 refine J.aV 13 rfl (e:=25) rfl rfl [.slice A1 ps.length c1,.slice A2 bs.length c2] Y191 fun g13 hg13=>J.al underlying43 rfl rfl <| zz 4 ?_
 refine T.ag (ι:=Nat) (fun (j:Nat)=>j≤2∧(0 < j→formZ (ps.map Ch.v)=0)∧(1 < j→formZ (bs.map Ch.v)=0)) (fun (j:Nat)=>[(0,.slice A1 ps.length c1),(1,.slice A2 bs.length c2),(11,.slice A1 ps.length c1),(12,.slice A2 bs.length c2),(13,.slice (some ⟨g13,0,none⟩) 2 2),(14,.int .i64 ((2:Nat):Int)),(15,.int .i64 (j:Int))]) (fun (j:Nat)=>[(13,⟨some g13,25,[.slice A1 ps.length c1,.slice A2 bs.length c2]⟩)]) (fun (j:Nat)=>2 - j) 0 ⟨by omega,fun q=>by omega,fun q=>by omega⟩ Y0 Y0 ?_
 rintro j ⟨hj2,hfa,hfb⟩
 refine zz 6 ?_
 refine T.aa rfl (fun h1=>?_) (fun h1=>?_)
 have hjl:j < 2:=by omega
 obtain ⟨Aj,cj,dj,hcell,hAj,hdj,hlj,hjeq⟩:=zoS (c1:=c1) (c2:=c2) hA1 hA2 hd1 hd2 hl1 hl2 hjl
 refine zz 6 ?_
 refine J.aB sl43 rfl rfl Y5 Y5 Y8 rfl <| J.ag Y8k 13 rfl rfl one25 (by rw [Nat.zero_add,Nat.mul_one];exact hcell) rfl <| zz 6 ?_
 refine J.aj Y8k ztQ rfl rfl (fun w hw=>Db.form w n B _ _ _ (hAj.ws hw (zab _)) (hdj.keep ((zad (l1:=[]) hn Y189 hw (Sub.nil _) rfl).le (fun o h=>List.mem_append_left _ h))) Y5) ?_
 refine zz 9 ?_
 refine T.aa rfl (fun h2=>?_) (fun h2=>?_)
 have hne:=h2
 refine zz 14 ?_
 exact X.ag rfl (RV.tmp rfl) (RV.tmp rfl) (fun w' hw'=>by first | exact ⟨([],RowIx.nil),⟨by rw [zfU hjl hjeq hne hfa];rfl,RowIx.nil_ok 35,Fit.nil,AllC.nil⟩,by rw [zfU hjl hjeq hne hfa];rfl,hw'.s0⟩ | exact ⟨([],RowIx.nil),⟨by rw [zfV hfz1 hfz2 hjn];rfl,RowIx.nil_ok 35,Fit.nil,AllC.nil⟩,by rw [zfV hfz1 hfz2 hjn];rfl,hw'.s0⟩ | exact ⟨(zs,r),⟨by rw [zef hfz1 hfz2 (hj.trans (zfT _))],hr,zbc hw' (j:=9) rfl (fun g h=>⟨hB g h,fun q=>by cases q⟩),hz.keep ((Keep.less (fun o h=>h)).le (fun o h=>List.mem_append_left _ h))⟩,by rw [zef hfz1 hfz2 (hj.trans (zfT _))],hw'.s0⟩)
 have hzero:formZ (dj.map Ch.v)=0:=Decidable.not_not.1 h2
 have hf1:=zsq hjl hjeq hzero hfa
 have hf2:=zsp hjl hjeq hzero hfb
 refine zz 4 ?_
 refine J.aq rfl rfl rfl Y10 <| zz 2 ?_
 exact X.ae (j+1) ⟨by show j+1≤2;omega,hf1,hf2⟩ Y14 Y0 Y0
 obtain rfl:j=2:=by omega
 have hfz1:=hfa Y5
 have hfz2:=hfb Y5
 refine zz 6 ?_
 refine T.aj 9 53 <| zz 9 ?_
 have hma:=zim hfz1
 have hmb:=zim hfz2
 refine T.al [(9,⟨none,53,[]⟩)] Y0 rfl fun Wl3 hWWl3=>?_
 have hVWl3:=hWWl3.s0
 refine T.ag (ι:=World×Option Addr×Nat×List Ch×Option Addr×Nat×List Ch×List Ch×RowIx) (fun (W,Aa,ca,xs,Ab,cb,ys,zs,r)=>Cs w Aa (rowC xs)∧xs.length≤ca∧AllC w n B xs∧AllMay xs∧Cs w Ab (rowC ys)∧ys.length≤cb∧AllC w n B ys∧AllMay ys∧joinL (ps.map Ch.v) (bs.map Ch.v)=(joinL (xs.map Ch.v) (ys.map Ch.v)).map (zs.map Ch.v++·)∧zs.length+xs.length+ys.length≤2000000000∧r.Ok 35 zs.length∧WS w [] [] W∧AllC W n (B++[r.id]) zs∧True) (fun (W,Aa,ca,xs,Ab,cb,ys,zs,r)=>[(11,.slice A1 ps.length c1),(12,.slice A2 bs.length c2),(14,.int .i64 ((2:Nat):Int)),(0,.slice Aa xs.length ca),(1,.slice Ab ys.length cb),(9,r.val zs.length)]) (fun (W,Aa,ca,xs,Ab,cb,ys,zs,r)=>((9,r.ent 53 (rowC zs))::snapL W w.heap.size [r.id])) (fun (W,Aa,ca,xs,Ab,cb,ys,zs,r)=>xs.length+ys.length) ⟨Wl3,A1,c1,ps,A2,c2,bs,[],RowIx.nil⟩ ⟨hA1,hb1,hd1,hma,hA2,hb2,hd2,hmb,by cases joinL (ps.map Ch.v) (bs.map Ch.v)<;>rfl,by show 0+_+_≤_;omega,RowIx.nil_ok 35,hVWl3,AllC.nil,trivial⟩ Y0 Y0 ?_
 rintro ⟨W,Aa,ca,xs,Ab,cb,ys,zs,r⟩ ⟨hA,hca,hdx,hmx,hA2,hcb,hdy,hmy,hj,hlen,hr,hV,hz,_⟩
 try dsimp only at *
 refine zz 4 ?_
 refine J.al underlying25 rfl rfl <| zz 2 ?_
 refine J.an 28 rfl (fun h4=>?_) (fun h4=>?_)
 obtain ⟨x,xs2,rfl⟩:=List.exists_cons_of_length_pos (l:=xs) Y5
 refine zz 13 ?_
 refine T.ae [] [(0,.g),(1,.g),(2,.g),(3,.g),(4,.g),(5,.g),(6,.g),(7,.g),(8,.g),(9,.g),(10,.q),(11,.g),(12,.g),(13,.q),(14,.q),(15,.g),(16,.g),(17,.g),(18,.g)] Y12 Y12 ?_ Y0
 refine zz 1 ?_
 refine J.al underlying25 rfl rfl <| zz 2 ?_
 refine J.an 37 rfl (fun h5=>?_) (fun h5=>?_)
 obtain rfl:ys=[]:=List.length_eq_zero_iff.1 Y5
 have hwa:([]:List Ch).map Ch.v=[]∨∃ b bs2,([]:List Ch).map Ch.v=b::bs2∧spotZ x.v b < 0:=.inl rfl
 refine zz 22 ?_
 refine J.ah sl25 rfl (hA.isSome Y21) rfl Y5 Y5 Y22 rfl <| J.ar Y8k hA (zab _) rfl zaz (x.cells) rfl (zbx _ _) rfl <| J.aw zin rfl rfl _ _ [(9,r.ent 53 (rowC zs))] Y0 rfl (fun _ _=>Sub.nil _) (fun w hw=>Da.own w n (B++ids [(9,r.ent 53 (rowC zs))]) x (zaf (l1:=[(9,r.ent 53 (rowC zs))]) hB hw Y0 rfl) (hdx.head.keep (zad (B0:=B) (l1:=[(9,r.ent 53 (rowC zs))]) hn Y189 hw Y0 rfl))) fun i56 W56 hP56 hW56=>?_
 obtain ⟨hv56,hc56⟩:=hP56
 have kpW56:=(zaa (I:=[r.id]) (B0:=B) (l1:=[(9,r.ent 53 (rowC zs))]) hV hn Y189 hW56 Y4 Y0 rfl)
 have hz:=hz.keep kpW56
 have hVW56:=hW56.s0
 refine J.aD 57 rfl underlying25 el53 Y23 rfl (i56.cells) rfl rfl rfl fun g57 hg57=>J.ay 9 rfl underlying25 el53 rfl hr (zaq zs) rfl rfl rfl (fun w hw=>(hw.blkCs (k:=57) rfl)) (Ch.cells_one _) Y5 Y28 rfl (zs++[i56]).length Y25 (rowC (zs++[i56])) (zbw _ _).symm fun r58 hr58=>zz 6 ?_
 refine J.ax sl25 rfl (optInt.some rfl Y5 Y22) optInt.none optInt.none Y20 Y5 Y136 (Nat.le_refl _) rfl rfl <| zz 7 ?_
 refine X.aj [(9,r58.ent 53 (rowC (zs++[i56])))] Y0 rfl fun Wx6 hWWx6=>?_
 have kpWx6:=(zaa (I:=[r.id]) (B0:=B) (l1:=[(9,r58.ent 53 (rowC (zs++[i56])))]) hVW56 hn Y189 hWWx6 Y4 Y0 rfl)
 have hz:=hz.keep kpWx6
 have hc56:=hc56.keep kpWx6
 have hVWx6:=hWWx6.s0
 exact X.ae ⟨Wx6,(if ca=1 then Aa else Aa.map (·.add (1*35))),(ca - 1),xs2,Ab,cb,[],(zs++[i56]),r58⟩ ⟨(zaA hA hca),(zaj hca),hdx.tail,hmx.tail,hA2,hcb,hdy,hmy,Y129,Y166,hr58,hVWx6,(hz.snoc hc56),trivial⟩ Y175 Y0 Y0
 obtain ⟨y,ys2,rfl⟩:=List.exists_cons_of_length_pos (l:=ys) Y5
 refine zz 2 ?_
 refine J.al underlying25 rfl rfl <| J.aF rfl rfl <| J.bD rfl rfl rfl (decide_eq_true Y13) <| zz 3 ?_
 refine J.ah sl25 rfl (hA.isSome Y21) rfl Y5 Y5 Y22 rfl <| zz 1 ?_
 refine J.ar Y8k hA (zab _) rfl zaz (x.cells) rfl (zbx _ _) rfl <| zz 2 ?_
 refine J.ah sl25 rfl (hA2.isSome Y21) rfl Y5 Y5 Y22 rfl <| zz 1 ?_
 refine J.ar Y8k hA2 (zab _) rfl zaz (y.cells) rfl (zbx _ _) rfl <| zz 1 ?_
 refine J.aj Y8k zsE rfl rfl (fun w hw=>Da.spots w x y (zlc hmx.head) (zlc hmy.head)) ?_
 refine zz 6 ?_
 refine T.aa rfl (fun h7=>?_) (fun h7=>?_)
 have hwa:(y::ys2).map Ch.v=[]∨∃ b bs2,(y::ys2).map Ch.v=b::bs2∧spotZ x.v b < 0:=.inr ⟨y.v,ys2.map Ch.v,rfl,by omega⟩
 refine zz 4 ?_
 refine J.ah sl25 rfl (hA.isSome Y21) rfl Y5 Y5 Y22 rfl <| J.ar Y8k hA (zab _) rfl zaz (x.cells) rfl (zbx _ _) rfl <| J.aw zin rfl rfl _ _ [(9,r.ent 53 (rowC zs))] Y0 rfl (fun _ _=>Sub.nil _) (fun w hw=>Da.own w n (B++ids [(9,r.ent 53 (rowC zs))]) x (zaf (l1:=[(9,r.ent 53 (rowC zs))]) hB hw Y0 rfl) (hdx.head.keep (zad (B0:=B) (l1:=[(9,r.ent 53 (rowC zs))]) hn Y189 hw Y0 rfl))) fun i56 W56 hP56 hW56=>?_
 obtain ⟨hv56,hc56⟩:=hP56
 have kpW56:=(zaa (I:=[r.id]) (B0:=B) (l1:=[(9,r.ent 53 (rowC zs))]) hV hn Y189 hW56 Y4 Y0 rfl)
 have hz:=hz.keep kpW56
 have hVW56:=hW56.s0
 refine J.aD 57 rfl underlying25 el53 Y23 rfl (i56.cells) rfl rfl rfl fun g57 hg57=>J.ay 9 rfl underlying25 el53 rfl hr (zaq zs) rfl rfl rfl (fun w hw=>(hw.blkCs (k:=57) rfl)) (Ch.cells_one _) Y5 Y28 rfl (zs++[i56]).length Y25 (rowC (zs++[i56])) (zbw _ _).symm fun r58 hr58=>zz 6 ?_
 refine J.ax sl25 rfl (optInt.some rfl Y5 Y22) optInt.none optInt.none Y20 Y5 Y136 (Nat.le_refl _) rfl rfl <| zz 7 ?_
 refine X.aj [(9,r58.ent 53 (rowC (zs++[i56])))] Y0 rfl fun Wx8 hWWx8=>?_
 have kpWx8:=(zaa (I:=[r.id]) (B0:=B) (l1:=[(9,r58.ent 53 (rowC (zs++[i56])))]) hVW56 hn Y189 hWWx8 Y4 Y0 rfl)
 have hz:=hz.keep kpWx8
 have hc56:=hc56.keep kpWx8
 have hVWx8:=hWWx8.s0
 exact X.ae ⟨Wx8,(if ca=1 then Aa else Aa.map (·.add (1*35))),(ca - 1),xs2,Ab,cb,(y::ys2),(zs++[i56]),r58⟩ ⟨(zaA hA hca),(zaj hca),hdx.tail,hmx.tail,hA2,hcb,hdy,hmy,Y129,Y166,hr58,hVWx8,(hz.snoc hc56),trivial⟩ Y175 Y0 Y0
 refine zz 1 ?_
 refine T.ae [] [(0,.g),(1,.g),(2,.g),(3,.g),(4,.g),(5,.g),(6,.q),(7,.g),(8,.g),(9,.q),(10,.q),(11,.g),(12,.g),(13,.g)] Y12 Y12 ?_ Y0
 refine zz 1 ?_
 refine J.al underlying25 rfl rfl <| J.aT rfl rfl rfl (decide_eq_false Y13) <| zz 3 ?_
 refine J.ah sl25 rfl (hA.isSome Y21) rfl Y5 Y5 Y22 rfl <| zz 1 ?_
 refine J.ar Y8k hA (zab _) rfl zaz (x.cells) rfl (zbx _ _) rfl <| zz 2 ?_
 refine J.ah sl25 rfl (hA2.isSome Y21) rfl Y5 Y5 Y22 rfl <| zz 1 ?_
 refine J.ar Y8k hA2 (zab _) rfl zaz (y.cells) rfl (zbx _ _) rfl <| zz 1 ?_
 refine J.aj Y8k zsE rfl rfl (fun w hw=>Da.spots w x y (zlc hmx.head) (zlc hmy.head)) ?_
 refine zz 5 ?_
 refine T.aa rfl (fun h9=>?_) (fun h9=>?_)
 have hwb:(x::xs2).map Ch.v=[]∨∃ a as2,(x::xs2).map Ch.v=a::as2∧0 < spotZ a y.v:=.inr ⟨x.v,xs2.map Ch.v,rfl,by omega⟩
 refine zz 4 ?_
 refine J.ah sl25 rfl (hA2.isSome Y21) rfl Y5 Y5 Y22 rfl <| J.ar Y8k hA2 (zab _) rfl zaz (y.cells) rfl (zbx _ _) rfl <| J.aw zin rfl rfl _ _ [(9,r.ent 53 (rowC zs))] Y0 rfl (fun _ _=>Sub.nil _) (fun w hw=>Da.own w n (B++ids [(9,r.ent 53 (rowC zs))]) y (zaf (l1:=[(9,r.ent 53 (rowC zs))]) hB hw Y0 rfl) (hdy.head.keep (zad (B0:=B) (l1:=[(9,r.ent 53 (rowC zs))]) hn Y189 hw Y0 rfl))) fun i79 W79 hP79 hW79=>?_
 obtain ⟨hv79,hc79⟩:=hP79
 have kpW79:=(zaa (I:=[r.id]) (B0:=B) (l1:=[(9,r.ent 53 (rowC zs))]) hV hn Y189 hW79 Y4 Y0 rfl)
 have hz:=hz.keep kpW79
 have hVW79:=hW79.s0
 refine J.aD 80 rfl underlying25 el53 Y23 rfl (i79.cells) rfl rfl rfl fun g80 hg80=>J.ay 9 rfl underlying25 el53 rfl hr (zaq zs) rfl rfl rfl (fun w hw=>(hw.blkCs (k:=80) rfl)) (Ch.cells_one _) Y5 Y28 rfl (zs++[i79]).length Y25 (rowC (zs++[i79])) (zbw _ _).symm fun r81 hr81=>zz 6 ?_
 refine J.ax sl25 rfl (optInt.some rfl Y5 Y22) optInt.none optInt.none Y20 Y5 Y137 (Nat.le_refl _) rfl rfl <| zz 7 ?_
 refine X.aj [(9,r81.ent 53 (rowC (zs++[i79])))] Y0 rfl fun Wx10 hWWx10=>?_
 have kpWx10:=(zaa (I:=[r.id]) (B0:=B) (l1:=[(9,r81.ent 53 (rowC (zs++[i79])))]) hVW79 hn Y189 hWWx10 Y4 Y0 rfl)
 have hz:=hz.keep kpWx10
 have hc79:=hc79.keep kpWx10
 have hVWx10:=hWWx10.s0
 exact X.ae ⟨Wx10,Aa,ca,(x::xs2),(if cb=1 then Ab else Ab.map (·.add (1*35))),(cb - 1),ys2,(zs++[i79]),r81⟩ ⟨hA,hca,hdx,hmx,(zaA hA2 hcb),(zaj hcb),hdy.tail,hmy.tail,Y130,Y166,hr81,hVWx10,(hz.snoc hc79),trivial⟩ Y175 Y0 Y0
 have hsp:spotZ x.v y.v=0:=by omega
 refine zz 6 ?_
 refine J.ah sl25 rfl (hA.isSome Y21) rfl Y5 Y5 Y22 rfl <| J.ar Y8k hA (zab _) rfl zaz (x.cells) rfl (zbx _ _) rfl <| J.am 10 rfl zdu zc0 rfl rfl fun g10 hg10=>J.ae 10 rfl rfl rfl rfl (x.cells) rfl sz53 (Nat.le_of_ble_eq_true rfl) Y172 (Nat.zero_lt_succ _) trivial (x.cells) rfl <| zz 4 ?_
 refine T.ae [] [(0,.g),(1,.q),(2,.g),(3,.g),(4,.g),(5,.q),(6,.g),(7,.g),(8,.g),(9,.q),(10,.g),(11,.g),(12,.g),(13,.q),(14,.q),(15,.g),(16,.g)] Y12 Y12 ?_ Y0
 refine J.aa zaB rfl rfl <| J.ai Y8k 10 rfl rfl zah (wc x.new) rfl rfl rfl <| zz 1 ?_
 refine J.ah sl25 rfl (hA2.isSome Y21) rfl Y5 Y5 Y22 rfl <| J.ak zaW rfl rfl <| J.ar Y8k hA2 (zab _) rfl zah (wc y.old) rfl rfl rfl <| J.aX zcd rfl rfl rfl <| zz 1 ?_
 refine J.an 94 rfl (fun h11=>?_) (fun h11=>?_)
 have hnm:¬ x.v.meets y.v:=fun q=>h11 q.1
 have hjn:=hj.trans (congrArg (Option.map _) (zid hsp hnm))
 refine zz 25 ?_
 exact X.ag rfl (RV.tmp rfl) (RV.tmp rfl) Y100
 refine zz 1 ?_
 refine J.aa zaV rfl rfl <| zz 1 ?_
 refine J.ag Y8k 10 rfl rfl zaw Y3 rfl <| zz 2 ?_
 refine J.ah sl25 rfl (hA2.isSome Y21) rfl Y5 Y5 Y22 rfl <| zz 1 ?_
 refine J.ak zbe rfl rfl <| zz 1 ?_
 refine J.av Y8k hA2 (zab _) rfl zaw rfl rfl <| zz 1 ?_
 refine J.aj Y8k znZ rfl rfl (fun w hw=>Da.Equal w _ _ _ _ x.nc y.oc (hdx.head.fn.cs.ws hw (zab _)) (hdy.head.fo.cs.ws hw (zab _)) hdx.head.dN hdy.head.dO) ?_
 refine J.aF rfl rfl <| J.aA rfl rfl Y18 <| zz 3 ?_
 refine T.aa rfl (fun h12=>?_) (fun h12=>?_)
 have hnm:¬ x.v.meets y.v:=fun q=>by first | exact (by assumption:¬ x.new%2^256=y.old%2^256) q.1 | exact (by assumption:¬ x.nc=y.oc) q.2
 have hjn:=hj.trans (congrArg (Option.map _) (zid hsp hnm))
 refine zz 13 ?_
 exact X.ag rfl (RV.tmp rfl) (RV.tmp rfl) Y100
 have hmt:x.v.meets y.v:=⟨Decidable.not_not.1 Y195,Decidable.not_not.1 Y195⟩
 refine zz 3 ?_
 refine T.ae [] [(0,.g),(1,.g),(2,.g),(3,.q),(4,.g),(5,.g),(6,.g),(7,.s),(8,.g),(9,.l),(10,.g),(11,.l)] Y12 Y12 ?_ Y0
 refine zz 1 ?_
 refine J.ah sl25 rfl (hA2.isSome Y21) rfl Y5 Y5 Y22 rfl <| J.ak zaB rfl rfl <| J.ar Y8k hA2 (zab _) rfl zah (wc y.new) rfl rfl rfl <| zz 1 ?_
 refine J.ah sl25 rfl (hA2.isSome Y21) rfl Y5 Y5 Y22 rfl <| J.ak zaV rfl rfl <| J.bM hA2 (zab _) rfl zaw rfl rfl <| J.aa zaB rfl rfl <| J.ae 10 rfl rfl rfl rfl (wc y.new) rfl sz50 Y7 Y6 Y11 trivial _ rfl <| J.aa zaV rfl rfl <| J.ae 10 rfl rfl rfl rfl [.slice y.nA y.nc.length y.nC] rfl sz51 Y7 Y27 Y11 trivial _ rfl <| zz 1 ?_
 refine X.ah 10 ⟨some g10,53,(x.then y).cells⟩ rfl Y22 <| zz 4 ?_
 refine J.ai Y8k 10 rfl rfl zaz (x.then y).cells rfl rfl rfl <| J.aj Y8k zcp rfl rfl (fun w hw=>Da.idle w (x.then y) (hdx.head.fo.cs.ws hw (zab _)) (hdy.head.fn.cs.ws hw (zab _)) hdx.head.dO hdy.head.dN) ?_
 refine J.aA rfl rfl Y18 <| zz 2 ?_
 refine T.aa rfl (fun h13=>?_) (fun h13=>?_)
 have hid:=h13
 refine zz 2 ?_
 refine J.ai Y8k 10 rfl rfl zaz (x.then y).cells rfl rfl rfl <| J.aw zin rfl rfl _ _ [(9,r.ent 53 (rowC zs)),(10,⟨some g10,53,(x.then y).cells⟩)] Y0 rfl (fun _ _=>Sub.nil _) (fun w hw=>Da.own w n (B++ids [(9,r.ent 53 (rowC zs)),(10,⟨some g10,53,(x.then y).cells⟩)]) (x.then y) (zaf (l1:=[(9,r.ent 53 (rowC zs)),(10,⟨some g10,53,(x.then y).cells⟩)]) hB hw Y0 rfl) ((hdx.head.then hdy.head).keep (zad (B0:=B) (l1:=[(9,r.ent 53 (rowC zs)),(10,⟨some g10,53,(x.then y).cells⟩)]) hn Y189 hw Y0 rfl))) fun i119 W119 hP119 hW119=>?_
 obtain ⟨hv119,hc119⟩:=hP119
 have kpW119:=(zaa (I:=[r.id]) (B0:=B) (l1:=[(9,r.ent 53 (rowC zs)),(10,⟨some g10,53,(x.then y).cells⟩)]) hV hn Y189 hW119 Y4 Y0 rfl)
 have hz:=hz.keep kpW119
 have hVW119:=hW119.s0
 refine J.aD 120 rfl underlying25 el53 Y23 rfl (i119.cells) rfl rfl rfl fun g120 hg120=>J.ay 9 rfl underlying25 el53 rfl hr (zaq zs) rfl rfl rfl (fun w hw=>(hw.blkCs (k:=120) rfl)) (Ch.cells_one _) Y5 Y28 rfl (zs++[i119]).length Y25 (rowC (zs++[i119])) (zbw _ _).symm fun r121 hr121=>zz 3 ?_
 refine T.ae [] [(0,.g),(1,.g),(2,.g),(3,.g),(4,.g),(5,.g)] Y12 Y12 ?_ Y0
 refine zz 1 ?_
 refine J.ax sl25 rfl (optInt.some rfl Y5 Y22) optInt.none optInt.none Y20 Y5 Y136 (Nat.le_refl _) rfl rfl <| zz 1 ?_
 refine J.ax sl25 rfl (optInt.some rfl Y5 Y22) optInt.none optInt.none Y20 Y5 Y137 (Nat.le_refl _) rfl rfl <| zz 4 ?_
 refine X.aj [(9,r121.ent 53 (rowC (zs++[i119])))] Y0 rfl fun Wx14 hWWx14=>?_
 have kpWx14:=(zaa (I:=[r.id,some g10]) (B0:=B) (l1:=[(9,r121.ent 53 (rowC (zs++[i119])))]) hVW119 hn Y189 hWWx14 Y4 Y0 rfl)
 have hz:=hz.keep kpWx14
 have hc119:=hc119.keep kpWx14
 have hVWx14:=hWWx14.s0
 exact X.ae ⟨Wx14,(if ca=1 then Aa else Aa.map (·.add (1*35))),(ca - 1),xs2,(if cb=1 then Ab else Ab.map (·.add (1*35))),(cb - 1),ys2,(zs++[i119]),r121⟩ ⟨(zaA hA hca),(zaj hca),hdx.tail,hmx.tail,(zaA hA2 hcb),(zaj hcb),hdy.tail,hmy.tail,(by rw [zgl,hv119];exact zgH (hj.trans (congrArg (Option.map _) (zfc hsp hmt hid)))),Y166,hr121,hVWx14,(hz.snoc hc119),trivial⟩ Y175 Y0 Y0
 have hid:=Decidable.not_not.1 h13
 refine zz 2 ?_
 refine T.ae [] [(0,.g),(1,.g),(2,.g),(3,.g),(4,.g),(5,.g)] Y12 Y12 ?_ Y0
 refine zz 1 ?_
 refine J.ax sl25 rfl (optInt.some rfl Y5 Y22) optInt.none optInt.none Y20 Y5 Y136 (Nat.le_refl _) rfl rfl <| zz 1 ?_
 refine J.ax sl25 rfl (optInt.some rfl Y5 Y22) optInt.none optInt.none Y20 Y5 Y137 (Nat.le_refl _) rfl rfl <| zz 4 ?_
 refine X.aj [(9,r.ent 53 (rowC zs))] Y0 rfl fun Wx15 hWWx15=>?_
 have kpWx15:=(zaa (I:=[r.id]) (B0:=B) (l1:=[(9,r.ent 53 (rowC zs))]) hV hn Y189 hWWx15 Y4 Y0 rfl)
 have hz:=hz.keep kpWx15
 have hVWx15:=hWWx15.s0
 exact X.ae ⟨Wx15,(if ca=1 then Aa else Aa.map (·.add (1*35))),(ca - 1),xs2,(if cb=1 then Ab else Ab.map (·.add (1*35))),(cb - 1),ys2,zs,r⟩ ⟨(zaA hA hca),(zaj hca),hdx.tail,hmx.tail,(zaA hA2 hcb),(zaj hcb),hdy.tail,hmy.tail,(hj.trans (congrArg (Option.map _) (zdR hsp hmt hid))),Y166,hr,hVWx15,hz,trivial⟩ Y175 Y0 Y0
 obtain rfl:xs=[]:=List.length_eq_zero_iff.1 Y5
 refine zz 2 ?_
 refine J.al underlying25 rfl rfl <| zz 4 ?_
 refine T.aa rfl (fun h16=>?_) (fun h16=>?_)
 obtain ⟨y,ys2,rfl⟩:=List.exists_cons_of_length_pos (l:=ys) Y5
 refine zz 6 ?_
 refine T.ae [] [(0,.g),(1,.g),(2,.g),(3,.g),(4,.g),(5,.g),(6,.g),(7,.g),(8,.g),(9,.g),(10,.q),(11,.g),(12,.g),(13,.q),(14,.q),(15,.g),(16,.g),(17,.g),(18,.g)] Y12 Y12 ?_ Y0
 refine zz 1 ?_
 refine J.al underlying25 rfl rfl <| J.aT rfl rfl rfl (decide_eq_false Y13) <| zz 3 ?_
 refine J.al underlying25 rfl rfl <| J.aF rfl rfl <| J.bD rfl rfl rfl (decide_eq_false Y13) <| zz 16 ?_
 refine T.ae [] [(0,.g),(1,.g),(2,.g),(3,.g),(4,.g),(5,.g),(6,.q),(7,.g),(8,.g),(9,.q),(10,.q),(11,.g),(12,.g),(13,.g)] Y12 Y12 ?_ Y0
 refine zz 1 ?_
 refine J.al underlying25 rfl rfl <| J.aT rfl rfl rfl (decide_eq_true Y5) ?_
 have hwb:([]:List Ch).map Ch.v=[]∨∃ a as2,([]:List Ch).map Ch.v=a::as2∧0 < spotZ a y.v:=.inl rfl
 refine zz 18 ?_
 refine J.ah sl25 rfl (hA2.isSome Y21) rfl Y5 Y5 Y22 rfl <| J.ar Y8k hA2 (zab _) rfl zaz (y.cells) rfl (zbx _ _) rfl <| J.aw zin rfl rfl _ _ [(9,r.ent 53 (rowC zs))] Y0 rfl (fun _ _=>Sub.nil _) (fun w hw=>Da.own w n (B++ids [(9,r.ent 53 (rowC zs))]) y (zaf (l1:=[(9,r.ent 53 (rowC zs))]) hB hw Y0 rfl) (hdy.head.keep (zad (B0:=B) (l1:=[(9,r.ent 53 (rowC zs))]) hn Y189 hw Y0 rfl))) fun i79 W79 hP79 hW79=>?_
 obtain ⟨hv79,hc79⟩:=hP79
 have kpW79:=(zaa (I:=[r.id]) (B0:=B) (l1:=[(9,r.ent 53 (rowC zs))]) hV hn Y189 hW79 Y4 Y0 rfl)
 have hz:=hz.keep kpW79
 have hVW79:=hW79.s0
 refine J.aD 80 rfl underlying25 el53 Y23 rfl (i79.cells) rfl rfl rfl fun g80 hg80=>J.ay 9 rfl underlying25 el53 rfl hr (zaq zs) rfl rfl rfl (fun w hw=>(hw.blkCs (k:=80) rfl)) (Ch.cells_one _) Y5 Y28 rfl (zs++[i79]).length Y25 (rowC (zs++[i79])) (zbw _ _).symm fun r81 hr81=>zz 6 ?_
 refine J.ax sl25 rfl (optInt.some rfl Y5 Y22) optInt.none optInt.none Y20 Y5 Y137 (Nat.le_refl _) rfl rfl <| zz 7 ?_
 refine X.aj [(9,r81.ent 53 (rowC (zs++[i79])))] Y0 rfl fun Wx17 hWWx17=>?_
 have kpWx17:=(zaa (I:=[r.id]) (B0:=B) (l1:=[(9,r81.ent 53 (rowC (zs++[i79])))]) hVW79 hn Y189 hWWx17 Y4 Y0 rfl)
 have hz:=hz.keep kpWx17
 have hc79:=hc79.keep kpWx17
 have hVWx17:=hWWx17.s0
 exact X.ae ⟨Wx17,Aa,ca,[],(if cb=1 then Ab else Ab.map (·.add (1*35))),(cb - 1),ys2,(zs++[i79]),r81⟩ ⟨hA,hca,hdx,hmx,(zaA hA2 hcb),(zaj hcb),hdy.tail,hmy.tail,Y130,Y166,hr81,hVWx17,(hz.snoc hc79),trivial⟩ Y175 Y0 Y0
 obtain rfl:ys=[]:=List.length_eq_zero_iff.1 Y5
 refine zz 14 ?_
 exact X.ag rfl (RV.tmp rfl) (RV.tmp rfl) Y100
end Go.Proofs.YtlllcafedekojaaGreatDoor.Dc
namespace Go.Fz
open Go Go.Fw Go.Proofs.Tryz
theorem zcs:AggT prog 47 20:=⟨⟨_,underlying47,rfl⟩,Y12⟩
end Go.Fz
namespace Go.Proofs.YtlllcafedekojaaGreatDoor.Dd
open Go Go.Fw Go.Fz Go.Proofs.Tryz
attribute [local irreducible] J T X
theorem spotT:SpotT prog 85 47 5 3 50 48:=⟨⟨_,_,_,underlying85,⟨rfl,rfl,rfl⟩,⟨rfl,rfl,rfl⟩,⟨rfl,rfl,rfl⟩⟩,underlying47,underlying5,underlying3,underlying50,underlying48,by kernel_rfl,by kernel_rfl,by kernel_rfl,by kernel_rfl,by kernel_rfl,by kernel_rfl,by kernel_rfl,by kernel_rfl,by kernel_rfl,⟨_,rfl⟩⟩
theorem klaw:WideMaps.KeyLaw prog 85:=deep_law (m:=3) (by decide) spotT.ka spotT.tl (by kernel_rfl)
theorem zeroI:ZeroT prog 3 (.int .i64 0):=(by unfold ZeroT;kernel_rfl)
theorem Apart (w:World) (n:Nat) (B:List (Option Nat)) (A1 A2:Option Addr) (c1 c2:Nat) (ps qs:List Ch) (hA1:Cs w A1 (rowC ps)) (hd1:AllC w n B ps) (hA2:Cs w A2 (rowC qs)) (hd2:AllC w n B qs) (hl1:ps.length≤1000000000) (hl2:qs.length≤1000000000):
    Calls prog 29 [.slice A1 ps.length c1,.slice A2 qs.length c2].toArray w fun e w'=>e=.returned (.bool (decide (apartL (ps.map Ch.v) (qs.map Ch.v))))∧WS w [] [] w':=by
 refine zac [] 47 [] func29 rfl ntmps29 Y20 (WS.refl _ _) <| zz 7 ?_
 refine J.cD 10 rfl rfl fun g10 hg10=>zz 7 ?_
 refine J.al underlying25 rfl rfl <| zz 4 ?_
 refine T.ag (ι:=Nat×List MapEntry) (fun (i,es)=>i≤ps.length∧MI es (ps.take i)) (fun (i,es)=>[(0,.slice A1 ps.length c1),(1,.slice A2 qs.length c2),(4,.bool false),(10,.map (some g10)),(5,.map (some g10)),(11,.slice A1 ps.length c1),(12,.int .i64 ((ps.length:Nat):Int)),(13,.int .i64 (i:Int))]) (fun (i,es)=>[(10,⟨none,.mp g10 (Is es),[]⟩)]) (fun (i,es)=>ps.length - i) ⟨0,[]⟩ ⟨Nat.zero_le _,MI.nil⟩ Y2 Y2 ?_
 rintro ⟨i,es⟩ ⟨hi,hmi⟩
 try dsimp only at *
 refine zz 6 ?_
 refine T.aa rfl (fun h1=>?_) (fun h1=>?_)
 have hi2:i < ps.length:=by omega
 refine zz 6 ?_
 refine J.ah sl25 rfl (hA1.isSome Y15) rfl Y5 Y5 Y8 rfl <| J.ar Y8k hA1 (zab _) rfl zaz ((ps.getD i default).cells) rfl (zdb ps i Y5) rfl <| J.am 7 rfl zdu zc0 rfl rfl fun g7 hg7=>J.ae 7 rfl rfl rfl rfl ((ps.getD i default).cells) rfl sz53 (Nat.le_of_ble_eq_true rfl) Y172 (Nat.zero_lt_succ _) trivial ((ps.getD i default).cells) rfl <| zz 2 ?_
 obtain ⟨q,hval,hq,hpos⟩:=hmi.look (ps.getD i default)
 obtain ⟨lt,hkey⟩:=zhT spotT (ps.getD i default) (hd1.get Y5).kd
 have hkd:∀ c∈ps.take i,-9223372036854775808≤c.kind∧c.kind≤9223372036854775807:=fun c hc=>(hd1.take i c hc).kd
 have hks:=hmi.keys spotT hkd
 refine T.aC 10 9000 (LookOk prog 85 (spotV (ps.getD i default)) ((q:Nat):Int)) rfl (hmi.lookOk spotT hkd hval) ?_
 refine T.an [(9000,⟨none,.mp g10 (LookOk prog 85 (spotV (ps.getD i default)) ((q:Nat):Int)),[]⟩)] [(0,.g),(1,.g),(2,.q),(3,.g),(4,.q),(5,.g),(6,.q),(7,.g),(8,.s),(9,.g),(10,.l),(11,.g)] [] [(12,.l)] Y12 Y12 Y12 ?_ Y2
 refine zz 1 ?_
 refine J.aa zdk rfl rfl <| J.ai Y8k 7 rfl rfl zcs (ac (ps.getD i default).who) rfl rfl rfl <| J.aa zaR rfl rfl <| J.ag Y8k 7 rfl rfl one3 Y3 rfl <| J.aa zaM rfl rfl <| J.ai Y8k 7 rfl rfl zah (wc (ps.getD i default).key) rfl rfl rfl <| J.ao rfl rfl (spotV (ps.getD i default)) Y191 <| J.cE 9000 klaw underlying83 zeroI rfl rfl rfl hkey (fun r hr=>hr) rfl ?_
 refine J.aq rfl rfl rfl (by exact zai _ (by have h0:=List.length_take_le i ps;omega)) <| J.as 26 (.int .i64 ((q+1:Nat):Int)) rfl Y22 <| J.cg 10 rfl klaw underlying83 zeroI 9000 rfl rfl (fun _=>⟨_,rfl,hmi.lookTouched spotT hkd hkey hval⟩) hg10 rfl rfl hkey hks rfl fun v27 st27 es27 hto27 hbn27=>zz 1 ?_
 refine J.bw [(7,⟨some g7,53,((ps.getD i default).cells)⟩),(10,⟨none,.mp g10 (Is es27),[]⟩)] Y2 ?_ (Sub.nil _)
 obtain ⟨e27,he27,_,hst27⟩:=zgi hto27
 refine J.bW 10 rfl rfl rfl hg10 rfl rfl rfl hbn27 he27 hst27 trivial <| zz 4 ?_
 refine J.aq rfl rfl rfl Y10 <| zz 2 ?_
 exact X.ae ⟨(i+1),(wroteE es27 st27 (.int .i64 ((q+1:Nat):Int)))⟩ ⟨by show i+1≤_;omega,by rw [zbs ps i hi2];exact hmi.next hto27 hq⟩ Y14 Y2 Y2
 obtain rfl:i=ps.length:=by omega
 rw [List.take_length] at hmi
 refine zz 9 ?_
 refine J.al underlying25 rfl rfl <| zz 4 ?_
 refine T.ag (ι:=Nat) (fun (i:Nat)=>i≤qs.length∧(∀ j,j < i→¬ ∃ x∈ps,spotV x=spotV (qs.getD j default))) (fun (i:Nat)=>[(0,.slice A1 ps.length c1),(1,.slice A2 qs.length c2),(10,.map (some g10)),(5,.map (some g10)),(11,.slice A1 ps.length c1),(12,.int .i64 ((ps.length:Nat):Int)),(30,.slice A2 qs.length c2),(31,.int .i64 ((qs.length:Nat):Int)),(32,.int .i64 (i:Int))]) (fun (i:Nat)=>[(10,⟨none,.mp g10 (Is es),[]⟩)]) (fun (i:Nat)=>qs.length - i) 0 ⟨Nat.zero_le _,fun j hj=>by omega⟩ Y2 Y2 ?_
 rintro i ⟨hi,hno⟩
 refine zz 6 ?_
 refine T.aa rfl (fun h2=>?_) (fun h2=>?_)
 have hi2:i < qs.length:=by omega
 refine zz 6 ?_
 refine J.ah sl25 rfl (hA2.isSome Y15) rfl Y5 Y5 Y8 rfl <| J.ar Y8k hA2 (zab _) rfl zaz ((qs.getD i default).cells) rfl (zdb qs i Y5) rfl <| J.am 9 rfl zdu zc0 rfl rfl fun g9 hg9=>J.ae 9 rfl rfl rfl rfl ((qs.getD i default).cells) rfl sz53 (Nat.le_of_ble_eq_true rfl) Y172 (Nat.zero_lt_succ _) trivial ((qs.getD i default).cells) rfl <| zz 5 ?_
 refine J.aa zdk rfl rfl <| J.ai Y8k 9 rfl rfl zcs (ac (qs.getD i default).who) rfl rfl rfl <| J.aa zaR rfl rfl <| J.ag Y8k 9 rfl rfl one3 Y3 rfl <| J.aa zaM rfl rfl <| J.ai Y8k 9 rfl rfl zah (wc (qs.getD i default).key) rfl rfl rfl <| J.ao rfl rfl (spotV (qs.getD i default)) Y191 ?_
 obtain ⟨q,hval,hq,hpos⟩:=hmi.look (qs.getD i default)
 obtain ⟨lt,hkey⟩:=zhT spotT (qs.getD i default) (hd2.get Y5).kd
 have hkd:∀ c∈ps,-9223372036854775808≤c.kind∧c.kind≤9223372036854775807:=fun c hc=>(hd1 c hc).kd
 have hks:=hmi.keys spotT hkd
 refine J.cL 10 Y8k klaw underlying83 zeroI rfl rfl rfl hkey (hmi.lookOk spotT hkd hval) rfl <| zz 3 ?_
 refine T.aa rfl (fun h3=>?_) (fun h3=>?_)
 have hap:=zoE hi2 hpos Y5
 refine zz 11 ?_
 exact X.aa rfl (RV.tmp rfl) Y123
 have hn2:¬ ∃ x∈ps,spotV x=spotV (qs.getD i default):=fun q1=>by have:=hpos.2 q1;omega
 refine zz 4 ?_
 refine J.aq rfl rfl rfl Y10 <| zz 2 ?_
 exact X.ae (i+1) ⟨by omega,zgE hno hn2⟩ Y14 Y2 Y2
 obtain rfl:i=qs.length:=by omega
 have hap:=zoF hno
 refine zz 11 ?_
 exact X.aa rfl (RV.tmp rfl) Y123
end Go.Proofs.YtlllcafedekojaaGreatDoor.Dd
namespace Go.Fz
open Go Go.Fw Go.Proofs.Tryz
theorem sl51:SlT prog 51 5 1:=⟨underlying51,sz5⟩
theorem one5:OneT prog 5:=⟨⟨_,underlying5,rfl⟩,Y12⟩
theorem zsG:FnOk prog 39:=FnOk.mk' func39 Y12 rfl
end Go.Fz
namespace Go.Proofs.YtlllcafedekojaaGreatDoor.Df
open Go Go.Fw Go.Fz Go.Proofs.Tryz
attribute [local irreducible] J T X
theorem eqA47:EqA prog 47 20:=⟨⟨5,zgZ,one5,underlying5⟩,by kernel_rfl⟩
theorem roomy (w:World) (n:Nat) (B:List (Option Nat)) (A1:Option Addr) (c1:Nat) (xs:List Nat) (hB:∀ g,some g∈B→g < w.heap.size) (e1:Cs w A1 (rowN .u8 xs)) (hl:xs.length≤1000000000):
    Calls prog 39 [.slice A1 xs.length c1].toArray w fun e w'=>∃ q:RowIx,(Fit w' n B (hdOf q.id) (rowN .u8 (xs++mk3))∧xs.length+3≤q.cap)∧e=.returned (.slice (hdOf q.id) xs.length q.cap)∧WS w [] [] w':=by
 refine zac [] 14 [] func39 rfl ntmps39 Y20 (WS.refl _ _) <| zz 11 ?_
 refine T.aj 3 5 <| zz 3 ?_
 refine J.ay (i:=RowIx.nil) (cs:=[]) 3 rfl underlying51 el5 rfl (RowIx.nil_ok 1) rfl rfl rfl Y170 (fun w hw=>e1.ws hw (zab _)) (zcv _ _) Y5 Y28 rfl xs.length (Nat.zero_add _) (rowN .u8 xs) (List.nil_append _) fun r6 hr6=>zz 6 ?_
 refine J.aV 8 rfl (e:=5) rfl rfl (rowN .u8 mk3) Y191 fun g8 hg8=>J.ay 3 rfl underlying51 el5 rfl hr6 Y170 rfl rfl rfl (fun w hw=>(hw.blkCs (k:=8) rfl)) (zcv _ _) Y5 Y28 rfl (xs.length+3) rfl (rowN .u8 (xs++mk3)) (zcZ _ _ _).symm fun r9 hr9=>?_
 have hcp9:=hr9.cap_ge
 refine zz 7 ?_
 refine J.al underlying51 rfl rfl <| J.ax sl51 rfl optInt.none (optInt.some rfl Y5 Y8) optInt.none Y20 (Nat.zero_le _) Y5 (Nat.le_refl _) rfl (by rw [ziP]) <| zz 4 ?_
 exact X.aa rfl (RV.tmp rfl) (fun w' hw'=>⟨r9,⟨zbc hw' (j:=3) rfl (fun g h=>⟨hB g h,fun q=>by cases q⟩),hcp9⟩,rfl,hw'.s0⟩)
theorem same (w:World) (n:Nat) (B:List (Option Nat)) (A1 A2:Option Addr) (c1 c2:Nat) (ps qs:List Ch) (hA1:Cs w A1 (rowC ps)) (hd1:AllC w n B ps) (hA2:Cs w A2 (rowC qs)) (hd2:AllC w n B qs) (hl1:ps.length≤1000000000000) (hl2:qs.length≤1000000000000):
    Calls prog 20 [.slice A1 ps.length c1,.slice A2 qs.length c2].toArray w fun e w'=>e=.returned (.bool (decide (ps.map Ch.v=qs.map Ch.v)))∧WS w [] [] w':=by
 refine zac [] 110 [] func20 rfl ntmps20 Y20 (WS.refl _ _) <| zz 9 ?_
 refine J.al underlying25 rfl rfl <| zz 1 ?_
 refine J.al underlying25 rfl rfl <| zz 3 ?_
 refine T.aa rfl (fun h1=>?_) (fun h1=>?_)
 have hap:¬ ps.map Ch.v=qs.map Ch.v:=fun q=>by have:=congrArg List.length q;simp at this;omega
 refine zz 7 ?_
 exact X.aa rfl (RV.tmp rfl) Y111
 have hll:ps.length=qs.length:=by omega
 refine zz 9 ?_
 refine T.ag (ι:=Nat) (fun (i:Nat)=>i≤ps.length∧(∀ j,j < i→(ps.getD j default).v=(qs.getD j default).v)) (fun (i:Nat)=>[(0,.slice A1 ps.length c1),(1,.slice A2 qs.length c2),(5,.int .i64 ((i:Nat):Int))]) (fun (i:Nat)=>[]) (fun (i:Nat)=>ps.length - i) 0 ⟨Nat.zero_le _,fun j hj=>by omega⟩ Y2 Y2 ?_
 rintro i ⟨hi,hsm⟩
 refine zz 5 ?_
 refine J.al underlying25 rfl rfl <| zz 3 ?_
 refine T.aa rfl (fun h2=>?_) (fun h2=>?_)
 have hi2:i < ps.length:=by omega
 have hj2:i < qs.length:=by omega
 refine zz 5 ?_
 refine T.ae [] [(0,.g),(1,.g),(2,.g),(3,.g),(4,.q),(5,.g),(6,.g),(7,.g),(8,.g),(9,.q),(10,.g),(11,.g),(12,.g),(13,.g),(14,.g),(15,.g),(16,.q),(17,.g),(18,.g),(19,.g),(20,.g),(21,.q),(22,.g),(23,.g),(24,.g),(25,.g),(26,.g),(27,.g),(28,.g),(29,.q),(30,.g),(31,.g),(32,.g),(33,.g),(34,.q),(35,.g),(36,.g),(37,.g),(38,.g),(39,.g),(40,.g),(41,.g),(42,.q),(43,.g),(44,.g),(45,.g),(46,.g),(47,.q),(48,.g),(49,.g),(50,.g),(51,.g),(52,.g),(53,.g),(54,.g),(55,.q),(56,.g),(57,.g),(58,.g),(59,.g),(60,.q),(61,.g),(62,.g),(63,.g),(64,.g),(65,.g),(66,.g),(67,.g),(68,.q),(69,.q),(70,.g),(71,.g),(72,.g),(73,.g),(74,.q),(75,.q),(76,.g),(77,.g),(78,.g),(79,.g),(80,.g),(81,.g),(82,.g),(83,.q),(84,.q),(85,.g),(86,.g),(87,.g),(88,.g),(89,.q),(90,.q),(91,.g),(92,.g)] Y12 Y12 ?_ Y2
 refine zz 2 ?_
 refine J.ah sl25 rfl (hA1.isSome Y15) rfl Y5 Y5 Y8 rfl <| J.ak zdk rfl rfl <| J.ar Y8k hA1 (zab _) rfl zcs (ac (ps.getD i default).who) rfl (by rw [zbY ps i 0 20 Y5 Y23];rfl) rfl <| zz 2 ?_
 refine J.ah sl25 rfl (hA2.isSome Y15) rfl Y5 Y5 Y8 rfl <| J.ak zdk rfl rfl <| J.ar Y8k hA2 (zab _) rfl zcs (ac (qs.getD i default).who) rfl (by rw [zbY qs i 0 20 Y5 Y23];rfl) rfl <| J.cz eqA47 rfl rfl Y22 Y22 rfl <| zz 1 ?_
 refine J.an 28 rfl (fun h3=>?_) (fun h3=>?_)
 have hne:¬ (ps.getD i default).v=(qs.getD i default).v:=fun q=>h3 (zds.2 (congrArg CV.who q))
 refine zz 95 ?_
 exact X.aa rfl (RV.tmp rfl) Y111
 have hq1:=Decidable.not_not.1 h3
 refine zz 3 ?_
 refine J.ah sl25 rfl (hA1.isSome Y15) rfl Y5 Y5 Y8 rfl <| zz 1 ?_
 refine J.ak zaR rfl rfl <| zz 1 ?_
 refine J.av Y8k hA1 (zab _) rfl one3 (by rw [zbT ps i 20 Y5 Y23];rfl) rfl <| zz 3 ?_
 refine J.ah sl25 rfl (hA2.isSome Y15) rfl Y5 Y5 Y8 rfl <| zz 1 ?_
 refine J.ak zaR rfl rfl <| zz 1 ?_
 refine J.av Y8k hA2 (zab _) rfl one3 (by rw [zbT qs i 20 Y5 Y23];rfl) rfl <| zz 3 ?_
 refine J.an 41 rfl (fun h4=>?_) (fun h4=>?_)
 have hne:¬ (ps.getD i default).v=(qs.getD i default).v:=fun q=>h4 (congrArg CV.kind q)
 refine zz 82 ?_
 exact X.aa rfl (RV.tmp rfl) Y111
 have hq2:=Decidable.not_not.1 h4
 refine zz 3 ?_
 refine J.ah sl25 rfl (hA1.isSome Y15) rfl Y5 Y5 Y8 rfl <| zz 1 ?_
 refine J.ak zaM rfl rfl <| zz 1 ?_
 refine J.ar Y8k hA1 (zab _) rfl zah (wc (ps.getD i default).key) rfl (by rw [zbY ps i 21 4 Y5 Y23];rfl) rfl <| zz 3 ?_
 refine J.ah sl25 rfl (hA2.isSome Y15) rfl Y5 Y5 Y8 rfl <| zz 1 ?_
 refine J.ak zaM rfl rfl <| zz 1 ?_
 refine J.ar Y8k hA2 (zab _) rfl zah (wc (qs.getD i default).key) rfl (by rw [zbY qs i 21 4 Y5 Y23];rfl) rfl <| zz 1 ?_
 refine J.aX zcd rfl rfl rfl <| zz 2 ?_
 refine J.an 54 rfl (fun h5=>?_) (fun h5=>?_)
 have hne:¬ (ps.getD i default).v=(qs.getD i default).v:=fun q=>h5 (congrArg CV.key q)
 refine zz 69 ?_
 exact X.aa rfl (RV.tmp rfl) Y111
 have hq3:=Decidable.not_not.1 h5
 refine zz 3 ?_
 refine J.ah sl25 rfl (hA1.isSome Y15) rfl Y5 Y5 Y8 rfl <| zz 1 ?_
 refine J.ak zaW rfl rfl <| zz 1 ?_
 refine J.ar Y8k hA1 (zab _) rfl zah (wc (ps.getD i default).old) rfl (by rw [zbY ps i 25 4 Y5 Y23];rfl) rfl <| zz 3 ?_
 refine J.ah sl25 rfl (hA2.isSome Y15) rfl Y5 Y5 Y8 rfl <| zz 1 ?_
 refine J.ak zaW rfl rfl <| zz 1 ?_
 refine J.ar Y8k hA2 (zab _) rfl zah (wc (qs.getD i default).old) rfl (by rw [zbY qs i 25 4 Y5 Y23];rfl) rfl <| zz 1 ?_
 refine J.aX zcd rfl rfl rfl <| zz 2 ?_
 refine J.an 67 rfl (fun h6=>?_) (fun h6=>?_)
 have hne:¬ (ps.getD i default).v=(qs.getD i default).v:=fun q=>h6 (congrArg CV.old q)
 refine zz 56 ?_
 exact X.aa rfl (RV.tmp rfl) Y111
 have hq4:=Decidable.not_not.1 h6
 refine zz 3 ?_
 refine J.ah sl25 rfl (hA1.isSome Y15) rfl Y5 Y5 Y8 rfl <| zz 1 ?_
 refine J.ak zaB rfl rfl <| zz 1 ?_
 refine J.ar Y8k hA1 (zab _) rfl zah (wc (ps.getD i default).new) rfl (by rw [zbY ps i 29 4 Y5 Y23];rfl) rfl <| zz 3 ?_
 refine J.ah sl25 rfl (hA2.isSome Y15) rfl Y5 Y5 Y8 rfl <| zz 1 ?_
 refine J.ak zaB rfl rfl <| zz 1 ?_
 refine J.ar Y8k hA2 (zab _) rfl zah (wc (qs.getD i default).new) rfl (by rw [zbY qs i 29 4 Y5 Y23];rfl) rfl <| zz 1 ?_
 refine J.aX zcd rfl rfl rfl <| zz 2 ?_
 refine J.an 80 rfl (fun h7=>?_) (fun h7=>?_)
 have hne:¬ (ps.getD i default).v=(qs.getD i default).v:=fun q=>h7 (congrArg CV.new q)
 refine zz 43 ?_
 exact X.aa rfl (RV.tmp rfl) Y111
 have hq5:=Decidable.not_not.1 h7
 refine zz 3 ?_
 refine J.ah sl25 rfl (hA1.isSome Y15) rfl Y5 Y5 Y8 rfl <| zz 1 ?_
 refine J.ak zbe rfl rfl <| zz 1 ?_
 refine J.av Y8k hA1 (zab _) rfl zaw (by rw [zbT ps i 33 Y5 Y23];rfl) rfl <| zz 1 ?_
 refine J.bc Y8k underlying51 underlying5 underlying9 rfl ((ps.getD i default).oc) rfl (fun w hw=>((hd1.get hi2).fo.cs.ws hw (zab _))) rfl <| zz 3 ?_
 refine J.ah sl25 rfl (hA2.isSome Y15) rfl Y5 Y5 Y8 rfl <| zz 1 ?_
 refine J.ak zbe rfl rfl <| zz 1 ?_
 refine J.av Y8k hA2 (zab _) rfl zaw (by rw [zbT qs i 33 Y5 Y23];rfl) rfl <| zz 1 ?_
 refine J.bc Y8k underlying51 underlying5 underlying9 rfl ((qs.getD i default).oc) rfl (fun w hw=>((hd2.get hj2).fo.cs.ws hw (zab _))) rfl <| zz 1 ?_
 refine J.bG (xs:=(ps.getD i default).oc) (ys:=(qs.getD i default).oc) rfl rfl rfl (hd1.get hi2).dO (hd2.get hj2).dO <| zz 2 ?_
 refine J.an 95 rfl (fun h8=>?_) (fun h8=>?_)
 have hne:¬ (ps.getD i default).v=(qs.getD i default).v:=fun q=>h8 (congrArg CV.oc q)
 refine zz 28 ?_
 exact X.aa rfl (RV.tmp rfl) Y111
 have hq6:=Decidable.not_not.1 h8
 refine zz 3 ?_
 refine J.ah sl25 rfl (hA1.isSome Y15) rfl Y5 Y5 Y8 rfl <| zz 1 ?_
 refine J.ak zaV rfl rfl <| zz 1 ?_
 refine J.av Y8k hA1 (zab _) rfl zaw (by rw [zbT ps i 34 Y5 Y23];rfl) rfl <| zz 1 ?_
 refine J.bc Y8k underlying51 underlying5 underlying9 rfl ((ps.getD i default).nc) rfl (fun w hw=>((hd1.get hi2).fn.cs.ws hw (zab _))) rfl <| zz 3 ?_
 refine J.ah sl25 rfl (hA2.isSome Y15) rfl Y5 Y5 Y8 rfl <| zz 1 ?_
 refine J.ak zaV rfl rfl <| zz 1 ?_
 refine J.av Y8k hA2 (zab _) rfl zaw (by rw [zbT qs i 34 Y5 Y23];rfl) rfl <| zz 1 ?_
 refine J.bc Y8k underlying51 underlying5 underlying9 rfl ((qs.getD i default).nc) rfl (fun w hw=>((hd2.get hj2).fn.cs.ws hw (zab _))) rfl <| zz 1 ?_
 refine J.bG (xs:=(ps.getD i default).nc) (ys:=(qs.getD i default).nc) rfl rfl rfl (hd1.get hi2).dN (hd2.get hj2).dN <| zz 3 ?_
 refine T.aa rfl (fun h9=>?_) (fun h9=>?_)
 have hne:¬ (ps.getD i default).v=(qs.getD i default).v:=fun q=>(by assumption:¬ (ps.getD i default).nc=(qs.getD i default).nc) (congrArg CV.nc q)
 have hap:¬ ps.map Ch.v=qs.map Ch.v:=fun q=>hne ((znd hll).2 q i hi2)
 refine zz 11 ?_
 exact X.aa rfl (RV.tmp rfl) Y111
 have heq:(ps.getD i default).v=(qs.getD i default).v:=v_ext hq1 hq2 hq3 hq4 hq5 hq6 (Decidable.not_not.1 Y195)
 refine zz 5 ?_
 refine J.aq rfl rfl rfl Y10 <| zz 2 ?_
 exact X.ae (i+1) ⟨by omega,zgE hsm heq⟩ Y14 Y2 Y2
 obtain rfl:i=ps.length:=by omega
 have hap:=(znd hll).1 hsm
 refine zz 11 ?_
 exact X.aa rfl (RV.tmp rfl) Y111
theorem lendTurns (w:World) (n:Nat) (B:List (Option Nat)) (A1:Option Addr) (c1:Nat) (ds:List Ch) (hn:n≤w.heap.size) (hB:∀ g,some g∈B→g < w.heap.size) (hA:Cs w A1 (rowC ds)) (hd:AllC w n B ds) (hs:∀ c∈ds,c.oc.length≤262144∧c.nc.length≤262144) (hl:ds.length≤100000000):
    Calls prog 23 [.slice A1 ds.length c1].toArray w fun e w'=>∃ q:List Ch×RowIx,(q.1.map Ch.v=ds.map Ch.v∧AllL w' n B q.1∧Fit w' n B (hdOf q.2.id) (rowC (q.1++[markC]))∧q.1.length+1≤q.2.cap)∧e=.returned (.slice (hdOf q.2.id) q.1.length q.2.cap)∧WS w [] [] w':=by
 have hs2:∀ {i:Nat},i < ds.length→(ds.getD i default).oc.length≤1000000000∧(ds.getD i default).nc.length≤1000000000:=fun hi=>zpx hs hi
 refine zac [] 42 [] func23 rfl ntmps23 Y20 (WS.refl _ _) <| zz 6 ?_
 refine T.aj 3 53 <| zz 11 ?_
 refine T.al [(3,⟨none,53,[]⟩)] Y0 rfl fun Wl1 hWWl1=>?_
 have kpWl1:=(zad (B0:=B) (l1:=[(3,⟨none,53,[]⟩)]) hn Y189 hWWl1 Y0 rfl)
 have hd:=hd.keep kpWl1
 have hVWl1:=hWWl1.s0
 refine T.ag (ι:=World×Nat×List Ch×RowIx) (fun (W,i,zs,r)=>i≤ds.length∧zs.map Ch.v=(ds.take i).map Ch.v∧r.Ok 35 zs.length∧WS w [] [] W∧AllC W n (B++[r.id]) ds∧AllL W n (B++[r.id]) zs) (fun (W,i,zs,r)=>[(0,.slice A1 ds.length c1),(2,.slice none 0 0),(4,.int .i64 ((i:Nat):Int)),(3,r.val zs.length)]) (fun (W,i,zs,r)=>((3,r.ent 53 (rowC zs))::snapL W w.heap.size [r.id])) (fun (W,i,zs,r)=>ds.length - i) ⟨Wl1,0,[],RowIx.nil⟩ ⟨Nat.zero_le _,rfl,RowIx.nil_ok 35,hVWl1,hd,AllL.nil⟩ Y0 Y0 ?_
 rintro ⟨W,i,zs,r⟩ ⟨hi,hm,hr,hV,hd,hz⟩
 try dsimp only at *
 refine zz 5 ?_
 refine J.al underlying25 rfl rfl <| zz 3 ?_
 refine T.aa rfl (fun h2=>?_) (fun h2=>?_)
 have hi2:i < ds.length:=by omega
 refine zz 8 ?_
 refine J.ah sl25 rfl (hA.isSome Y15) rfl Y5 Y5 Y8 rfl <| J.ar Y8k hA (zab _) rfl zaz ((ds.getD i default).cells) rfl (zdb ds i Y5) rfl <| J.am 5 rfl zdu zc0 rfl rfl fun g5 hg5=>J.ae 5 rfl rfl rfl rfl ((ds.getD i default).cells) rfl sz53 (Nat.le_of_ble_eq_true rfl) Y172 (Nat.zero_lt_succ _) trivial ((ds.getD i default).cells) rfl <| zz 6 ?_
 refine J.ah sl25 rfl (hA.isSome Y15) rfl Y5 Y5 Y8 rfl <| J.ak zbe rfl rfl <| J.av Y8k hA (zab _) rfl zaw (by rw [zbT ds i 33 Y5 Y23];rfl) rfl <| J.aw zsG rfl rfl _ _ [(3,r.ent 53 (rowC zs)),(5,⟨some g5,53,((ds.getD i default).cells)⟩)] Y0 rfl (fun _ _=>Sub.nil _) (fun w hw=>Df.roomy w n (B++ids [(3,r.ent 53 (rowC zs)),(5,⟨some g5,53,((ds.getD i default).cells)⟩)]) _ _ _ (zaf (l1:=[(3,r.ent 53 (rowC zs)),(5,⟨some g5,53,((ds.getD i default).cells)⟩)]) hB hw Y0 rfl) ((hd.keep (zaa (I:=[r.id]) (B0:=B) (l1:=[(3,r.ent 53 (rowC zs)),(5,⟨some g5,53,((ds.getD i default).cells)⟩)]) hV hn Y189 hw Y4 Y0 rfl)).get (i:=i) hi2).fo.cs (hs2 (i:=i) hi2).1) fun i21 W21 hP21 hW21=>?_
 obtain ⟨hf21,hp21⟩:=hP21
 have kpW21:=(zaa (I:=[r.id]) (B0:=B) (l1:=[(3,r.ent 53 (rowC zs)),(5,⟨some g5,53,((ds.getD i default).cells)⟩)]) hV hn Y189 hW21 Y4 Y0 rfl)
 have hd:=hd.keep kpW21
 have hz:=hz.keep kpW21
 have hVW21:=hW21.s0
 refine J.aa zbe rfl rfl <| J.ae 5 rfl rfl rfl rfl [_] rfl sz51 Y7 Y6 Y11 trivial _ rfl <| zz 1 ?_
 refine X.ah 5 ⟨some g5,53,((ds.getD i default).lent1 i21).cells⟩ rfl Y22 <| zz 5 ?_
 refine J.ah sl25 rfl (hA.isSome Y15) rfl Y5 Y5 Y8 rfl <| J.ak zaV rfl rfl <| J.av Y8k hA (zab _) rfl zaw (by rw [zbT ds i 34 Y5 Y23];rfl) rfl <| J.aw zsG rfl rfl _ _ [(3,r.ent 53 (rowC zs)),(5,⟨some g5,53,((ds.getD i default).lent1 i21).cells⟩)] Y0 rfl (fun _ _=>Sub.nil _) (fun w hw=>Df.roomy w n (B++ids [(3,r.ent 53 (rowC zs)),(5,⟨some g5,53,((ds.getD i default).lent1 i21).cells⟩)]) _ _ _ (zaf (l1:=[(3,r.ent 53 (rowC zs)),(5,⟨some g5,53,((ds.getD i default).lent1 i21).cells⟩)]) hB hw Y0 rfl) ((hd.keep (zaa (I:=[r.id,some g5]) (B0:=B) (l1:=[(3,r.ent 53 (rowC zs)),(5,⟨some g5,53,((ds.getD i default).lent1 i21).cells⟩)]) hVW21 hn Y189 hw Y4 Y0 rfl)).get (i:=i) hi2).fn.cs (hs2 (i:=i) hi2).2) fun i28 W28 hP28 hW28=>?_
 obtain ⟨hf28,hp28⟩:=hP28
 have kpW28:=(zaa (I:=[r.id,some g5]) (B0:=B) (l1:=[(3,r.ent 53 (rowC zs)),(5,⟨some g5,53,((ds.getD i default).lent1 i21).cells⟩)]) hVW21 hn Y189 hW28 Y4 Y0 rfl)
 have hd:=hd.keep kpW28
 have hz:=hz.keep kpW28
 have hf21:=hf21.keep kpW28
 have hVW28:=hW28.s0
 refine J.aa zaV rfl rfl <| J.ae 5 rfl rfl rfl rfl [_] rfl sz51 Y7 Y6 Y11 trivial _ rfl <| zz 1 ?_
 refine X.ah 5 ⟨some g5,53,((ds.getD i default).lent i21 i28).cells⟩ rfl Y22 <| zz 3 ?_
 refine J.ai Y8k 5 rfl rfl zaz ((ds.getD i default).lent i21 i28).cells rfl rfl rfl <| J.aD 32 rfl underlying25 el53 Y23 rfl ((ds.getD i default).lent i21 i28).cells rfl rfl rfl fun g32 hg32=>J.ay 3 rfl underlying25 el53 rfl hr (zaq zs) rfl rfl rfl (fun w hw=>(hw.blkCs (k:=32) rfl)) (Ch.cells_one _) Y151 Y135 rfl (zs++[((ds.getD i default).lent i21 i28)]).length Y25 (rowC (zs++[((ds.getD i default).lent i21 i28)])) (zbw _ _).symm fun r33 hr33=>zz 6 ?_
 refine J.aq rfl rfl rfl Y10 <| zz 2 ?_
 refine X.aj [(3,r33.ent 53 (rowC (zs++[((ds.getD i default).lent i21 i28)])))] Y0 rfl fun Wx3 hWWx3=>?_
 have kpWx3:=(zaa (I:=[r.id,some g5]) (B0:=B) (l1:=[(3,r33.ent 53 (rowC (zs++[((ds.getD i default).lent i21 i28)])))]) hVW28 hn Y189 hWWx3 Y4 Y0 rfl)
 have hd:=hd.keep kpWx3
 have hz:=hz.keep kpWx3
 have hf21:=hf21.keep kpWx3
 have hf28:=hf28.keep kpWx3
 have hVWx3:=hWWx3.s0
 exact X.ae ⟨Wx3,(i+1),(zs++[((ds.getD i default).lent i21 i28)]),r33⟩ ⟨by show i+1≤_;omega,zhG (f:=id) hm hi2 rfl,hr33,hVWx3,hd,hz.snoc (Ch.lent_ok (hd.get hi2) (hs2 hi2) hf21 hp21 hf28 hp28)⟩ Y14 Y0 Y0
 obtain rfl:i=ds.length:=by omega
 rw [List.take_length] at hm
 have hzl:zs.length=ds.length:=by simpa using congrArg List.length hm
 refine zz 8 ?_
 refine J.ao rfl rfl (.agg markC.cells.toArray) Y191 <| J.aD 36 rfl underlying25 el53 Y23 rfl (markC.cells) rfl rfl rfl fun g36 hg36=>J.ay 3 rfl underlying25 el53 rfl hr (zaq zs) rfl rfl rfl (fun w hw=>(hw.blkCs (k:=36) rfl)) (Ch.cells_one _) Y151 Y135 rfl (zs++[markC]).length Y25 (rowC (zs++[markC])) (zbw _ _).symm fun r37 hr37=>?_
 have hcp37:=hr37.cap_ge
 rw [List.length_append,List.length_singleton] at hcp37
 refine zz 7 ?_
 refine J.al underlying25 rfl rfl <| J.ax sl25 rfl optInt.none (optInt.some rfl Y5 Y8) optInt.none Y20 (Nat.zero_le _) Y151 (Nat.le_refl _) rfl (by rw [ziP]) <| zz 4 ?_
 exact X.aa rfl (RV.tmp rfl) (fun w' hw'=>⟨(zs,r37),⟨hm,hz.keep (((zaa (I:=[r.id]) (B0:=B) (l1:=[]) hV hn Y189 hw' Y4 (Sub.nil _) rfl)).le (fun o h=>List.mem_append_left _ h)),zbc hw' (j:=3) rfl (fun g h=>⟨hB g h,fun q=>by cases q⟩),by show zs.length+1≤_;omega⟩,by rw [hzl];rfl,hw'.s0⟩)
end Go.Proofs.YtlllcafedekojaaGreatDoor.Df
namespace Go.Fz
open Go Go.Fw Go.Proofs.Tryz
theorem sz56:SizeT prog 56 27:=Y9
theorem sl22:SlT prog 22 56 27:=⟨underlying22,sz56⟩
theorem zbo:FldT prog 56 3 51 25 0:=⟨Y12,sz51⟩
theorem sz54:SizeT prog 54 1:=Y9
theorem zaQ:FldT prog 56 4 54 26 0:=⟨Y12,sz54⟩
theorem zdA:OneT prog 54:=⟨⟨_,underlying54,rfl⟩,Y12⟩
theorem zaJ:FldT prog 56 0 47 0 19:=⟨Y12,sz47⟩
theorem zfF:FldT prog 56 1 48 20 0:=⟨Y12,sz48⟩
theorem zeD:FldT prog 56 2 50 21 3:=⟨Y12,sz50⟩
theorem sz62:SizeT prog 62 8:=Y9
theorem sl54:SlT prog 54 62 8:=⟨underlying54,sz62⟩
theorem zoK:AggT prog 62 8:=⟨⟨_,underlying62,rfl⟩,Y12⟩
end Go.Fz
namespace Go.Proofs.YtlllcafedekojaaGreatDoor.Ee
open Go Go.Fw Go.Fz Go.Proofs.Tryz
attribute [local irreducible] J T X
theorem slEq:SlEq prog 62 50:=⟨by kernel_rfl,by kernel_rfl,by kernel_rfl,by kernel_rfl,zcd,zah⟩
theorem eqA47:EqA prog 47 20:=⟨⟨5,zgZ,one5,underlying5⟩,by kernel_rfl⟩
theorem weight (w:World) (A1:Option Addr) (c1:Nat) (ds:List Ac) (hA:Cs w A1 (rowA ds)) (hs:(∀ c∈ds,c.code.length≤1000000000000000∧c.sl.length≤1000000000000000)) (hl:ds.length≤1000000000000000):
    Calls prog 15 [.slice A1 ds.length c1].toArray w fun e w'=>e=.returned (.int .i64 ((weightR ds.length ds:Nat):Int))∧WS w [] [] w':=by
 refine zac [] 33 [] func15 rfl ntmps15 Y20 (WS.refl _ _) <| zz 8 ?_
 refine J.al underlying22 rfl rfl <| zz 10 ?_
 refine T.ag (ι:=Nat×Nat) (fun (i,m)=>i≤ds.length∧m≤3000000000000000∧weightR ds.length ds=weightR m (ds.drop i)) (fun (i,m)=>[(0,.slice A1 ds.length c1),(2,.int .i64 0),(3,.int .i64 ((m:Nat):Int)),(4,.int .i64 ((i:Nat):Int))]) (fun (i,m)=>[]) (fun (i,m)=>ds.length - i) ⟨0,ds.length⟩ ⟨Nat.zero_le _,by omega,rfl⟩ Y2 Y2 ?_
 rintro ⟨i,m⟩ ⟨hi,hm,hR⟩
 try dsimp only at *
 refine zz 5 ?_
 refine J.al underlying22 rfl rfl <| zz 2 ?_
 refine J.an 11 rfl (fun h1=>?_) (fun h1=>?_)
 refine zz 5 ?_
 refine T.aa rfl (fun h2=>?_) (fun h2=>?_)
 have hi2:i < ds.length:=by omega
 obtain ⟨hs1,hs2⟩:=zkE hs hi2
 have hR2:=zjA hR hi2 Y5
 refine zz 4 ?_
 refine T.ae [] [(0,.g),(1,.g),(2,.g),(3,.g),(4,.g),(5,.q),(6,.g),(7,.g),(8,.g),(9,.g),(10,.g),(11,.g),(12,.q),(13,.g),(14,.g),(15,.g)] Y12 Y12 ?_ Y2
 refine zz 3 ?_
 refine J.ah sl22 rfl (hA.isSome Y184) rfl Y5 Y5 Y8 rfl <| J.ak zbo rfl rfl <| J.av Y8k hA (zab _) rfl zaw (by rw [zaN ds i 25 Y5 Y23];rfl) rfl <| J.al underlying51 rfl rfl <| J.aq rfl rfl rfl (by exact zai _ Y5) <| J.as 24 (.int .i64 ((m+(ds.getD i default).code.length:Nat):Int)) rfl (by congr 1) <| zz 2 ?_
 refine J.ah sl22 rfl (hA.isSome Y184) rfl Y5 Y5 Y8 rfl <| J.ak zaQ rfl rfl <| J.av Y8k hA (zab _) rfl zdA (by rw [zaN ds i 26 Y5 Y23];rfl) rfl <| J.al underlying54 rfl rfl <| J.aq rfl rfl rfl (by exact zai _ Y5) <| J.as 31 (.int .i64 ((m+(ds.getD i default).code.length+(ds.getD i default).sl.length:Nat):Int)) rfl (by congr 1) <| zz 6 ?_
 refine J.aq rfl rfl rfl Y10 <| zz 2 ?_
 exact X.ae ⟨(i+1),(m+(ds.getD i default).code.length+(ds.getD i default).sl.length)⟩ ⟨by show i+1≤_;omega,by show m+_+_≤_;omega,hR2⟩ Y14 Y2 Y2
 have hR3:=zhh hR hi Y5
 refine zz 12 ?_
 exact X.aa rfl (RV.tmp rfl) (fun w' hw'=>⟨by rw [hR3],hw'.s0⟩)
 have hR3:=zhh hR hi Y5
 refine zz 18 ?_
 exact X.aa rfl (RV.tmp rfl) (fun w' hw'=>⟨by rw [hR3],hw'.s0⟩)
theorem worlds (w:World) (n:Nat) (B:List (Option Nat)) (A1 A2:Option Addr) (c1 c2:Nat) (ps qs:List Ac) (hA1:Cs w A1 (rowA ps)) (hd1:AllA w n B ps) (hA2:Cs w A2 (rowA qs)) (hd2:AllA w n B qs) (hl1:ps.length≤1000000000000) (hl2:qs.length≤1000000000000):
    Calls prog 26 [.slice A1 ps.length c1,.slice A2 qs.length c2].toArray w fun e w'=>e=.returned (.bool (decide (ps.map Ac.v=qs.map Ac.v)))∧WS w [] [] w':=by
 refine zac [] 112 [] func26 rfl ntmps26 Y20 (WS.refl _ _) <| zz 9 ?_
 refine J.al underlying22 rfl rfl <| zz 1 ?_
 refine J.al underlying22 rfl rfl <| zz 3 ?_
 refine T.aa rfl (fun h1=>?_) (fun h1=>?_)
 have hap:¬ ps.map Ac.v=qs.map Ac.v:=fun q=>by have:=congrArg List.length q;simp at this;omega
 refine zz 7 ?_
 exact X.aa rfl (RV.tmp rfl) Y112
 have hll:ps.length=qs.length:=by omega
 refine zz 9 ?_
 refine T.ag (ι:=Nat) (fun (i:Nat)=>i≤ps.length∧(∀ j,j < i→(ps.getD j default).v=(qs.getD j default).v)) (fun (i:Nat)=>[(0,.slice A1 ps.length c1),(1,.slice A2 qs.length c2),(5,.int .i64 ((i:Nat):Int))]) (fun (i:Nat)=>[]) (fun (i:Nat)=>ps.length - i) 0 ⟨Nat.zero_le _,fun j hj=>by omega⟩ Y2 Y2 ?_
 rintro i ⟨hi,hsm⟩
 refine zz 5 ?_
 refine J.al underlying22 rfl rfl <| zz 3 ?_
 refine T.aa rfl (fun h2=>?_) (fun h2=>?_)
 have hi2:i < ps.length:=by omega
 have hj2:i < qs.length:=by omega
 have hz1:=(hd1.get hi2).lc
 have hz2:=(hd1.get hi2).ls
 have hz3:=(hd2.get hj2).lc
 have hz4:=(hd2.get hj2).ls
 refine zz 6 ?_
 refine T.ae [] [(0,.g),(1,.g),(2,.g),(3,.g),(4,.q),(5,.g),(6,.g),(7,.g),(8,.g),(9,.q),(10,.g),(11,.g),(12,.g),(13,.g),(14,.g),(15,.g),(16,.q),(17,.g),(18,.g),(19,.g),(20,.g),(21,.q),(22,.g),(23,.g),(24,.g),(25,.g),(26,.g),(27,.g),(28,.g),(29,.q),(30,.g),(31,.g),(32,.g),(33,.g),(34,.q),(35,.g),(36,.g),(37,.g),(38,.g),(39,.g),(40,.g),(41,.g),(42,.q),(43,.q),(44,.g),(45,.g),(46,.g),(47,.g),(48,.q),(49,.q),(50,.g),(51,.g),(52,.g),(53,.g),(54,.g),(55,.g),(56,.g),(57,.q),(58,.g),(59,.g),(60,.g),(61,.g),(62,.g),(63,.q),(64,.g),(65,.g),(66,.g)] Y12 Y12 ?_ Y2
 refine zz 2 ?_
 refine J.ah sl22 rfl (hA1.isSome Y184) rfl Y5 Y5 Y8 rfl <| J.ak zaJ rfl rfl <| J.ar Y8k hA1 (zab _) rfl zcs (ac (ps.getD i default).who) rfl (by rw [zeS ps i 0 20 Y5 Y23];rfl) rfl <| zz 2 ?_
 refine J.ah sl22 rfl (hA2.isSome Y184) rfl Y5 Y5 Y8 rfl <| J.ak zaJ rfl rfl <| J.ar Y8k hA2 (zab _) rfl zcs (ac (qs.getD i default).who) rfl (by rw [zeS qs i 0 20 Y5 Y23];rfl) rfl <| J.cz eqA47 rfl rfl Y22 Y22 rfl <| zz 1 ?_
 refine J.an 29 rfl (fun h3=>?_) (fun h3=>?_)
 have hne:¬ (ps.getD i default).v=(qs.getD i default).v:=fun q=>h3 (zds.2 (congrArg AV.who q))
 refine zz 70 ?_
 exact X.aa rfl (RV.tmp rfl) Y112
 have hq1:=Decidable.not_not.1 h3
 refine zz 3 ?_
 refine J.ah sl22 rfl (hA1.isSome Y184) rfl Y5 Y5 Y8 rfl <| zz 1 ?_
 refine J.ak zfF rfl rfl <| zz 1 ?_
 refine J.av Y8k hA1 (zab _) rfl zfM (by rw [zaN ps i 20 Y5 Y23];rfl) rfl <| zz 3 ?_
 refine J.ah sl22 rfl (hA2.isSome Y184) rfl Y5 Y5 Y8 rfl <| zz 1 ?_
 refine J.ak zfF rfl rfl <| zz 1 ?_
 refine J.av Y8k hA2 (zab _) rfl zfM (by rw [zaN qs i 20 Y5 Y23];rfl) rfl <| zz 3 ?_
 refine J.an 42 rfl (fun h4=>?_) (fun h4=>?_)
 have hne:¬ (ps.getD i default).v=(qs.getD i default).v:=fun q=>h4 (congrArg (fun z=>((z.nonce:Nat):Int)) q)
 refine zz 57 ?_
 exact X.aa rfl (RV.tmp rfl) Y112
 have hq2:=Decidable.not_not.1 h4
 refine zz 3 ?_
 refine J.ah sl22 rfl (hA1.isSome Y184) rfl Y5 Y5 Y8 rfl <| zz 1 ?_
 refine J.ak zeD rfl rfl <| zz 1 ?_
 refine J.ar Y8k hA1 (zab _) rfl zah (wc (ps.getD i default).bal) rfl (by rw [zeS ps i 21 4 Y5 Y23];rfl) rfl <| zz 3 ?_
 refine J.ah sl22 rfl (hA2.isSome Y184) rfl Y5 Y5 Y8 rfl <| zz 1 ?_
 refine J.ak zeD rfl rfl <| zz 1 ?_
 refine J.ar Y8k hA2 (zab _) rfl zah (wc (qs.getD i default).bal) rfl (by rw [zeS qs i 21 4 Y5 Y23];rfl) rfl <| zz 1 ?_
 refine J.aX zcd rfl rfl rfl <| zz 2 ?_
 refine J.an 55 rfl (fun h5=>?_) (fun h5=>?_)
 have hne:¬ (ps.getD i default).v=(qs.getD i default).v:=fun q=>h5 (congrArg AV.bal q)
 refine zz 44 ?_
 exact X.aa rfl (RV.tmp rfl) Y112
 have hq3:=Decidable.not_not.1 h5
 refine zz 3 ?_
 refine J.ah sl22 rfl (hA1.isSome Y184) rfl Y5 Y5 Y8 rfl <| zz 1 ?_
 refine J.ak zbo rfl rfl <| zz 1 ?_
 refine J.av Y8k hA1 (zab _) rfl zaw (by rw [zaN ps i 25 Y5 Y23];rfl) rfl <| zz 1 ?_
 refine J.bc Y8k underlying51 underlying5 underlying9 rfl ((ps.getD i default).code) rfl (fun w hw=>((hd1.get hi2).fc.cs.ws hw (zab _))) rfl <| zz 3 ?_
 refine J.ah sl22 rfl (hA2.isSome Y184) rfl Y5 Y5 Y8 rfl <| zz 1 ?_
 refine J.ak zbo rfl rfl <| zz 1 ?_
 refine J.av Y8k hA2 (zab _) rfl zaw (by rw [zaN qs i 25 Y5 Y23];rfl) rfl <| zz 1 ?_
 refine J.bc Y8k underlying51 underlying5 underlying9 rfl ((qs.getD i default).code) rfl (fun w hw=>((hd2.get hj2).fc.cs.ws hw (zab _))) rfl <| zz 1 ?_
 refine J.bG (xs:=(ps.getD i default).code) (ys:=(qs.getD i default).code) rfl rfl rfl (hd1.get hi2).dC (hd2.get hj2).dC <| zz 2 ?_
 refine J.an 70 rfl (fun h6=>?_) (fun h6=>?_)
 have hne:¬ (ps.getD i default).v=(qs.getD i default).v:=fun q=>h6 (congrArg AV.code q)
 refine zz 29 ?_
 exact X.aa rfl (RV.tmp rfl) Y112
 have hq4:=Decidable.not_not.1 h6
 refine zz 3 ?_
 refine J.ah sl22 rfl (hA1.isSome Y184) rfl Y5 Y5 Y8 rfl <| zz 1 ?_
 refine J.ak zaQ rfl rfl <| zz 1 ?_
 refine J.av Y8k hA1 (zab _) rfl zdA (by rw [zaN ps i 26 Y5 Y23];rfl) rfl <| zz 1 ?_
 refine J.al underlying54 rfl rfl <| zz 3 ?_
 refine J.ah sl22 rfl (hA2.isSome Y184) rfl Y5 Y5 Y8 rfl <| zz 1 ?_
 refine J.ak zaQ rfl rfl <| zz 1 ?_
 refine J.av Y8k hA2 (zab _) rfl zdA (by rw [zaN qs i 26 Y5 Y23];rfl) rfl <| zz 1 ?_
 refine J.al underlying54 rfl rfl <| zz 4 ?_
 refine T.aa rfl (fun h7=>?_) (fun h7=>?_)
 have hne:¬ (ps.getD i default).v=(qs.getD i default).v:=fun q=>by have h0:=congrArg (fun z=>z.sl.length) q;simp only [Ac.v,List.length_map] at h0;omega
 have hap:¬ ps.map Ac.v=qs.map Ac.v:=fun q=>hne ((zkO hll).2 q i hi2)
 refine zz 12 ?_
 exact X.aa rfl (RV.tmp rfl) Y112
 have hq5:(ps.getD i default).sl.length=(qs.getD i default).sl.length:=by omega
 refine zz 8 ?_
 refine T.ag (ι:=Nat) (fun (j:Nat)=>j≤(ps.getD i default).sl.length∧(∀ r,r < j→((ps.getD i default).sl.getD r default).v=((qs.getD i default).sl.getD r default).v)) (fun (j:Nat)=>[(0,.slice A1 ps.length c1),(1,.slice A2 qs.length c2),(5,.int .i64 ((i:Nat):Int)),(6,.int .i64 ((j:Nat):Int))]) (fun (j:Nat)=>[]) (fun (j:Nat)=>(ps.getD i default).sl.length - j) 0 ⟨Nat.zero_le _,fun r hr=>by omega⟩ Y2 Y2 ?_
 rintro j ⟨hj,hsj⟩
 refine zz 6 ?_
 refine J.ah sl22 rfl (hA1.isSome Y184) rfl Y5 Y5 Y8 rfl <| J.ak zaQ rfl rfl <| J.av Y8k hA1 (zab _) rfl zdA (by rw [zaN ps i 26 Y5 Y23];rfl) rfl <| J.al underlying54 rfl rfl <| zz 3 ?_
 refine T.aa rfl (fun h8=>?_) (fun h8=>?_)
 have hjl:j < (ps.getD i default).sl.length:=by omega
 refine zz 5 ?_
 refine T.ae [] [(0,.g),(1,.g),(2,.g),(3,.g),(4,.q),(5,.g),(6,.g),(7,.q),(8,.g),(9,.g),(10,.g),(11,.g),(12,.q),(13,.g),(14,.g),(15,.q),(16,.g)] Y12 Y12 ?_ Y2
 refine zz 2 ?_
 refine J.ah sl22 rfl (hA1.isSome Y184) rfl Y5 Y5 Y8 rfl <| J.ak zaQ rfl rfl <| J.av Y8k hA1 (zab _) rfl zdA (by rw [zaN ps i 26 Y5 Y23];rfl) rfl <| zz 1 ?_
 refine J.ah sl54 rfl ((hd1.get hi2).fs.cs.isSome Y185) rfl Y5 Y5 Y8 rfl <| J.ar Y8k (hd1.get hi2).fs.cs (zab _) rfl zoK (((ps.getD i default).sl.getD j default).cells) rfl (zfP _ j Y5) rfl <| zz 2 ?_
 refine J.ah sl22 rfl (hA2.isSome Y184) rfl Y5 Y5 Y8 rfl <| J.ak zaQ rfl rfl <| J.av Y8k hA2 (zab _) rfl zdA (by rw [zaN qs i 26 Y5 Y23];rfl) rfl <| zz 1 ?_
 refine J.ah sl54 rfl ((hd2.get hj2).fs.cs.isSome Y185) rfl Y5 Y5 Y8 rfl <| J.ar Y8k (hd2.get hj2).fs.cs (zab _) rfl zoK (((qs.getD i default).sl.getD j default).cells) rfl (zfP _ j Y5) rfl <| J.cY slEq (a:=(ps.getD i default).sl.getD j default) (b:=(qs.getD i default).sl.getD j default) rfl rfl rfl <| zz 2 ?_
 refine T.aa rfl (fun h9=>?_) (fun h9=>?_)
 have hne:¬ (ps.getD i default).v=(qs.getD i default).v:=fun q=>h9 ((zqw hq5).2 (congrArg AV.sl q) j hjl)
 have hap:¬ ps.map Ac.v=qs.map Ac.v:=fun q=>hne ((zkO hll).2 q i hi2)
 refine zz 15 ?_
 exact X.aa rfl (RV.tmp rfl) Y112
 refine zz 5 ?_
 refine J.aq rfl rfl rfl Y10 <| zz 2 ?_
 exact X.ae (j+1) ⟨by omega,zgE hsj (Decidable.not_not.1 Y195)⟩ Y14 Y2 Y2
 obtain rfl:j=(ps.getD i default).sl.length:=by omega
 have heq:(ps.getD i default).v=(qs.getD i default).v:=a_ext hq1 Y5 hq3 hq4 ((zqw hq5).1 hsj)
 refine zz 8 ?_
 refine J.aq rfl rfl rfl Y10 <| zz 2 ?_
 exact X.ae (i+1) ⟨by omega,zgE hsm heq⟩ Y14 Y2 Y2
 obtain rfl:i=ps.length:=by omega
 have hap:=(zkO hll).1 hsm
 refine zz 11 ?_
 exact X.aa rfl (RV.tmp rfl) Y112
end Go.Proofs.YtlllcafedekojaaGreatDoor.Ee
namespace Go.Fz
open Go Go.Fw Go.Proofs.Tryz
theorem zaK:AggT prog 56 27:=⟨⟨_,underlying56,rfl⟩,Y12⟩
theorem zcG:ZeroT prog 56 (.agg (zc1).toArray):=Y17
theorem el62:ElT prog 62 8 64 (.agg (zc3).toArray):=⟨Y12,rfl,Y18b,Y18b⟩
theorem el56:ElT prog 56 27 112 (.agg (zc1).toArray):=⟨Y12,rfl,Y18b,Y18b⟩
end Go.Fz
namespace Go.Proofs.YtlllcafedekojaaGreatDoor.Ef
open Go Go.Fw Go.Fz Go.Proofs.Tryz
attribute [local irreducible] J T X
theorem lend (w:World) (n:Nat) (B:List (Option Nat)) (A1:Option Addr) (c1:Nat) (ds:List Ac) (hn:n≤w.heap.size) (hB:∀ g,some g∈B→g < w.heap.size) (hA:Cs w A1 (rowA ds)) (hd:AllA w n B ds) (hs:SmallA ds) (hl:ds.length≤100000000):
    Calls prog 16 [.slice A1 ds.length c1].toArray w fun e w'=>∃ q:List Ac×RowIx,(q.1.map Ac.v=ds.map Ac.v∧AllLA w' n B q.1∧Fit w' n B (hdOf q.2.id) (rowA (q.1++[markA]))∧q.1.length+1≤q.2.cap)∧e=.returned (.slice (hdOf q.2.id) q.1.length q.2.cap)∧WS w [] [] w':=by
 refine zac [] 59 [] func16 rfl ntmps16 Y20 (WS.refl _ _) <| zz 6 ?_
 refine T.aj 3 56 <| zz 11 ?_
 refine T.al [(3,⟨none,56,[]⟩)] Y0 rfl fun Wl1 hWWl1=>?_
 have kpWl1:=(zad (B0:=B) (l1:=[(3,⟨none,56,[]⟩)]) hn Y189 hWWl1 Y0 rfl)
 have hd:=hd.keep kpWl1
 have hVWl1:=hWWl1.s0
 refine T.ag (ι:=World×Nat×List Ac×RowIx) (fun (W,i,zs,r)=>i≤ds.length∧zs.map Ac.v=(ds.take i).map Ac.v∧r.Ok 27 zs.length∧WS w [] [] W∧AllA W n (B++[r.id]) ds∧AllLA W n (B++[r.id]) zs) (fun (W,i,zs,r)=>[(0,.slice A1 ds.length c1),(2,.slice none 0 0),(4,.int .i64 ((i:Nat):Int)),(3,r.val zs.length)]) (fun (W,i,zs,r)=>((3,r.ent 56 (rowA zs))::snapL W w.heap.size [r.id])) (fun (W,i,zs,r)=>ds.length - i) ⟨Wl1,0,[],RowIx.nil⟩ ⟨Nat.zero_le _,rfl,RowIx.nil_ok 27,hVWl1,hd,AllLA.nil⟩ Y0 Y0 ?_
 rintro ⟨W,i,zs,r⟩ ⟨hi,hm,hr,hV,hd,hz⟩
 try dsimp only at *
 refine zz 5 ?_
 refine J.al underlying22 rfl rfl <| zz 3 ?_
 refine T.aa rfl (fun h2=>?_) (fun h2=>?_)
 have hi2:i < ds.length:=by omega
 have hs3:=zkE hs hi2
 obtain ⟨hs4,hs5⟩:=hs3
 have hs3:=zkE hs hi2
 refine zz 8 ?_
 refine J.ah sl22 rfl (hA.isSome Y184) rfl Y5 Y5 Y8 rfl <| J.ar Y8k hA (zab _) rfl zaK ((ds.getD i default).cells) rfl (zfQ ds i Y5) rfl <| J.am 5 rfl zcG zc1 rfl rfl fun g5 hg5=>J.ae 5 rfl rfl rfl rfl ((ds.getD i default).cells) rfl sz56 (Nat.le_of_ble_eq_true rfl) (by first | exact Ac.cells_one _) (Nat.zero_lt_succ _) trivial ((ds.getD i default).cells) rfl <| zz 6 ?_
 refine J.ah sl22 rfl (hA.isSome Y184) rfl Y5 Y5 Y8 rfl <| J.ak zbo rfl rfl <| J.av Y8k hA (zab _) rfl zaw (by rw [zaN ds i 25 Y5 Y23];rfl) rfl <| J.aw zsG rfl rfl _ _ [(3,r.ent 56 (rowA zs)),(5,⟨some g5,56,((ds.getD i default).cells)⟩)] Y0 rfl (fun _ _=>Sub.nil _) (fun w hw=>Df.roomy w n (B++ids [(3,r.ent 56 (rowA zs)),(5,⟨some g5,56,((ds.getD i default).cells)⟩)]) _ _ _ (zaf (l1:=[(3,r.ent 56 (rowA zs)),(5,⟨some g5,56,((ds.getD i default).cells)⟩)]) hB hw Y0 rfl) ((hd.keep (zaa (I:=[r.id]) (B0:=B) (l1:=[(3,r.ent 56 (rowA zs)),(5,⟨some g5,56,((ds.getD i default).cells)⟩)]) hV hn Y189 hw Y4 Y0 rfl)).get (i:=i) hi2).fc.cs Y5) fun i22 W22 hP22 hW22=>?_
 obtain ⟨hf22,hp22⟩:=hP22
 have kpW22:=(zaa (I:=[r.id]) (B0:=B) (l1:=[(3,r.ent 56 (rowA zs)),(5,⟨some g5,56,((ds.getD i default).cells)⟩)]) hV hn Y189 hW22 Y4 Y0 rfl)
 have hd:=hd.keep kpW22
 have hz:=hz.keep kpW22
 have hVW22:=hW22.s0
 refine J.aa zbo rfl rfl <| J.ae 5 rfl rfl rfl rfl [_] rfl sz51 Y7 Y6 Y11 trivial _ rfl <| zz 1 ?_
 refine X.ah 5 ⟨some g5,56,((ds.getD i default).lent1 i22).cells⟩ rfl Y22 <| zz 7 ?_
 refine T.aj 6 62 <| zz 4 ?_
 refine J.ah sl22 rfl (hA.isSome Y184) rfl Y5 Y5 Y8 rfl <| J.ak zaQ rfl rfl <| J.av Y8k hA (zab _) rfl zdA (by rw [zaN ds i 26 Y5 Y23];rfl) rfl <| J.ay (i:=RowIx.nil) (cs:=[]) 6 rfl underlying54 el62 rfl (RowIx.nil_ok 8) rfl rfl rfl (zaO _) (fun w hw=>(((hd.get hi2).fs.keep (zaa (I:=[r.id,some g5]) (B0:=B) (l1:=[]) hVW22 hn Y189 hw Y4 (Sub.nil _) rfl)).cs)) (zkW _) Y5 Y28 rfl (ds.getD i default).sl.length (Nat.zero_add _) (rowS (ds.getD i default).sl) (List.nil_append _) fun r30 hr30=>zz 6 ?_
 refine J.ao rfl rfl (Go.Fw.W 171) Y191 <| J.ao rfl rfl (.agg (Sl.mk 171 0).cells.toArray) Y191 <| J.ao rfl rfl (Go.Fw.W 172) Y191 <| J.ao rfl rfl (.agg (Sl.mk 172 0).cells.toArray) Y191 <| J.aV 36 rfl (e:=62) rfl rfl (rowS mk2) Y191 fun g36 hg36=>J.ay 6 rfl underlying54 el62 rfl hr30 (zaO _) rfl rfl rfl (fun w hw=>(hw.blkCs (k:=36) rfl)) (zkW _) Y5 Y28 rfl ((ds.getD i default).sl.length+2) rfl (rowS ((ds.getD i default).sl++mk2)) (zey _ _).symm fun r37 hr37=>?_
 have hcp37:=hr37.cap_ge
 refine zz 8 ?_
 refine J.ah sl22 rfl (hA.isSome Y184) rfl Y5 Y5 Y8 rfl <| J.ak zaQ rfl rfl <| J.av Y8k hA (zab _) rfl zdA (by rw [zaN ds i 26 Y5 Y23];rfl) rfl <| J.al underlying54 rfl rfl <| J.ax sl54 rfl optInt.none (optInt.some rfl Y5 Y8) optInt.none Y20 (Nat.zero_le _) Y5 (Nat.le_refl _) rfl (by rw [ziP]) <| J.aa zaQ rfl rfl <| J.ae 5 rfl rfl rfl rfl [_] rfl sz54 Y7 Y6 Y11 trivial _ rfl <| zz 1 ?_
 refine X.ah 5 ⟨some g5,56,((ds.getD i default).lent i22 r37).cells⟩ rfl Y22 <| zz 3 ?_
 refine J.ai Y8k 5 rfl rfl zaK ((ds.getD i default).lent i22 r37).cells rfl rfl rfl <| J.aD 49 rfl underlying22 el56 Y23 rfl ((ds.getD i default).lent i22 r37).cells rfl rfl rfl fun g49 hg49=>J.ay 3 rfl underlying22 el56 rfl hr (zcn zs) rfl rfl rfl (fun w hw=>(hw.blkCs (k:=49) rfl)) (Ac.cells_one _) Y151 Y135 rfl (zs++[((ds.getD i default).lent i22 r37)]).length Y25 (rowA (zs++[((ds.getD i default).lent i22 r37)])) (zgu _ _).symm fun r50 hr50=>zz 6 ?_
 refine J.aq rfl rfl rfl Y10 <| zz 2 ?_
 refine X.aj [(3,r50.ent 56 (rowA (zs++[((ds.getD i default).lent i22 r37)])))] Y0 rfl fun Wx3 hWWx3=>?_
 have kpWx3:=(zaa (I:=[r.id,some g5]) (B0:=B) (l1:=[(3,r50.ent 56 (rowA (zs++[((ds.getD i default).lent i22 r37)])))]) hVW22 hn Y189 hWWx3 Y4 Y0 rfl)
 have hd:=hd.keep kpWx3
 have hz:=hz.keep kpWx3
 have hf22:=hf22.keep kpWx3
 have hVWx3:=hWWx3.s0
 exact X.ae ⟨Wx3,(i+1),(zs++[((ds.getD i default).lent i22 r37)]),r50⟩ ⟨by show i+1≤_;omega,zmm hm hi2 rfl,hr50,hVWx3,hd,hz.snoc (Ac.lent_ok (hd.get hi2) hs3 hf22 hp22 (zpX hWWx3 (j:=6) (j3:=3) rfl rfl Y23 (fun g h=>⟨hB g h,fun q=>by cases q⟩)) hcp37)⟩ Y14 Y0 Y0
 obtain rfl:i=ds.length:=by omega
 rw [List.take_length] at hm
 have hzl:zs.length=ds.length:=by simpa using congrArg List.length hm
 refine zz 8 ?_
 refine J.ao rfl rfl (.agg markA.cells.toArray) Y191 <| J.aD 53 rfl underlying22 el56 Y23 rfl (markA.cells) rfl rfl rfl fun g53 hg53=>J.ay 3 rfl underlying22 el56 rfl hr (zcn zs) rfl rfl rfl (fun w hw=>(hw.blkCs (k:=53) rfl)) (Ac.cells_one _) Y151 Y135 rfl (zs++[markA]).length Y25 (rowA (zs++[markA])) (zgu _ _).symm fun r54 hr54=>?_
 have hcp54:=hr54.cap_ge
 rw [List.length_append,List.length_singleton] at hcp54
 refine zz 7 ?_
 refine J.al underlying22 rfl rfl <| J.ax sl22 rfl optInt.none (optInt.some rfl Y5 Y8) optInt.none Y20 (Nat.zero_le _) Y151 (Nat.le_refl _) rfl (by rw [ziP]) <| zz 4 ?_
 exact X.aa rfl (RV.tmp rfl) (fun w' hw'=>⟨(zs,r54),⟨hm,hz.keep (((zaa (I:=[r.id]) (B0:=B) (l1:=[]) hV hn Y189 hw' Y4 (Sub.nil _) rfl)).le (fun o h=>List.mem_append_left _ h)),zbc hw' (j:=3) rfl (fun g h=>⟨hB g h,fun q=>by cases q⟩),by show zs.length+1≤_;omega⟩,by rw [hzl];rfl,hw'.s0⟩)
end Go.Proofs.YtlllcafedekojaaGreatDoor.Ef
namespace Go.Fz
open Go Go.Fw Go.Proofs.Tryz
theorem zmu:FnOk prog 74:=FnOk.mk' func74 Y12 rfl
end Go.Fz
namespace Go.Proofs.YtlllcafedekojaaGreatDoor.Di
open Go Go.Fw Go.Fz Go.Proofs.Tryz
attribute [local irreducible] J T X
theorem byAddress (w:World) (a b:Nat):
    Calls prog 78 [.agg (ac a).toArray,.agg (ac b).toArray].toArray w fun e w'=>e=.returned (.int .i64 (cmpZ (a%256^20) (b%256^20)))∧WS w [] [] w':=by
 refine zac [] 8 [] func78 rfl ntmps78 Y20 (WS.refl _ _) <| zz 2 ?_
 refine J.aE 2 rfl rfl (ac a) rfl rfl fun g2 hg2=>J.aE 3 rfl rfl (ac b) rfl rfl fun g3 hg3=>zz 4 ?_
 refine T.ae [] [(0,.g),(1,.g),(2,.q),(3,.g)] Y12 Y12 ?_ Y2
 refine J.bk zgZ rfl optInt.none optInt.none optInt.none Y20 Y5 Y5 Y5 rfl rfl <| J.bk zgZ rfl optInt.none optInt.none optInt.none Y20 Y5 Y5 Y5 rfl rfl <| J.aj Y8k zpO rfl rfl (fun w hw=>Da.Compare w _ _ _ _ (adL a) (adL b) (hw.blkCs (k:=2) rfl) (hw.blkCs (k:=3) rfl) (zdz _) (zdz _)) ?_
 refine J.as 7 (.int .i64 (cmpZ (a%256^20) (b%256^20))) rfl (by rw [zlD]) <| zz 4 ?_
 exact X.aa rfl (RV.tmp rfl) (fun w' hw'=>⟨rfl,hw'.s0⟩)
theorem FromUint (w:World) (n:Nat) (hn:n < 18446744073709551616):
    Calls prog 82 [.int .u64 (n:Int)].toArray w fun e w'=>e=.returned (W n)∧WS w [] [] w':=by
 refine zac [] 5 [] func82 rfl ntmps82 Y20 (WS.refl _ _) <| zz 2 ?_
 refine J.am 2 rfl zbr zc9 rfl rfl fun g2 hg2=>zz 5 ?_
 refine J.ao rfl rfl (.agg ([.int .u64 ((n:Nat):Int),.int .u64 0,.int .u64 0,.int .u64 0]:List Value).toArray) Y191 ?_
 refine J.as 4 (W (n)) rfl (zsZ (by first | omega | (refine ⟨?_,?_,?_,?_⟩<;>omega))) ?_
 refine J.ae 2 rfl rfl rfl rfl (wc (n)) rfl sz50 Y7 Y6 Y11 trivial (wc (n)) rfl <| zz 3 ?_
 exact X.aa rfl (RV.agg 2 rfl rfl zah (wc (n)) Y22 Y22 rfl) (fun w' hw'=>⟨rfl,hw'.s0⟩)
theorem empty (w:World) (a:Ac):
    Calls prog 52 [.agg a.cells.toArray].toArray w fun e w'=>e=.returned (.bool (decide (a.void)))∧WS w [] [] w':=by
 refine zac [] 23 [] func52 rfl ntmps52 Y20 (WS.refl _ _) <| zz 2 ?_
 refine J.aE 1 rfl rfl (a.cells) rfl rfl fun g1 hg1=>zz 5 ?_
 refine J.aa zfF rfl rfl <| J.ag Y8k 1 rfl rfl zfM Y3 rfl <| zz 2 ?_
 refine J.an 6 rfl (fun h1=>?_) (fun h1=>?_)
 refine zz 1 ?_
 refine J.aa zeD rfl rfl <| zz 1 ?_
 refine J.ai Y8k 1 rfl rfl zah (wc a.bal) rfl rfl rfl <| zz 1 ?_
 refine J.aj Y8k zmu rfl rfl (fun w hw=>Wa.IsZero w _) ?_
 refine zz 2 ?_
 refine J.an 11 rfl (fun h2=>?_) (fun h2=>?_)
 refine zz 1 ?_
 refine J.aa zbo rfl rfl <| zz 1 ?_
 refine J.ag Y8k 1 rfl rfl zaw Y3 rfl <| zz 1 ?_
 refine J.al underlying51 rfl rfl <| zz 3 ?_
 refine J.an 17 rfl (fun h3=>?_) (fun h3=>?_)
 refine zz 1 ?_
 refine J.aa zaQ rfl rfl <| zz 1 ?_
 refine J.ag Y8k 1 rfl rfl zdA Y3 rfl <| zz 1 ?_
 refine J.al underlying54 rfl rfl <| zz 6 ?_
 exact X.aa rfl (RV.tmp rfl) (fun w' hw'=>⟨by congr 2;unfold Ac.void;first | exact (decide_eq_false Y5).symm | exact decide_eq_decide.2 Y5,hw'.s0⟩)
 refine zz 9 ?_
 exact X.aa rfl (RV.tmp rfl) (fun w' hw'=>⟨by congr 2;unfold Ac.void;first | exact (decide_eq_false Y5).symm | exact decide_eq_decide.2 Y5,hw'.s0⟩)
 refine zz 15 ?_
 exact X.aa rfl (RV.tmp rfl) (fun w' hw'=>⟨by congr 2;unfold Ac.void;first | exact (decide_eq_false Y5).symm | exact decide_eq_decide.2 Y5,hw'.s0⟩)
 refine zz 20 ?_
 exact X.aa rfl (RV.tmp rfl) (fun w' hw'=>⟨by congr 2;unfold Ac.void;first | exact (decide_eq_false Y5).symm | exact decide_eq_decide.2 Y5,hw'.s0⟩)
end Go.Proofs.YtlllcafedekojaaGreatDoor.Di
namespace Go.Fz
open Go Go.Fw Go.Proofs.Tryz
theorem fok82:FnOk prog 82:=FnOk.mk' func82 Y12 rfl
theorem fok84:FnOk prog 84:=FnOk.mk' func84 Y12 rfl
theorem zqp:ZeroT prog 97 (.agg (zc6).toArray):=Y17
theorem sz97:SizeT prog 97 8:=Y9
theorem agg97:AggT prog 97 8:=⟨⟨_,underlying97,rfl⟩,Y12⟩
end Go.Fz
namespace Go.Proofs.YtlllcafedekojaaGreatDoor.Dk
open Go Go.Fw Go.Fz Go.Proofs.Tryz
attribute [local irreducible] J T X
theorem getN (w:World) (g:Nat) (a:Ac) (hn:a.nonce < 18446744073709551616) (hcS:Cs w (some ⟨g,0,none⟩) a.cells):
    Calls prog 81 [.pointer (some ⟨g,0,none⟩)].toArray w fun e w'=>e=.returned (.tuple #[W a.nonce,.slice none 0 0])∧WS w [] [] w':=by
 refine zac [] 9 [] func81 rfl ntmps81 Y20 (WS.refl _ _) <| zz 2 ?_
 refine J.am 2 rfl zbr zc9 rfl rfl fun g2 hg2=>zz 7 ?_
 refine J.aa zfF rfl rfl <| J.aK Y8k hcS (zab _) rfl zfM rfl rfl <| J.aj Y8k fok82 rfl rfl (fun w hw=>Di.FromUint w a.nonce hn) ?_
 refine J.ae 2 rfl rfl rfl rfl (wc a.nonce) rfl sz50 Y7 Y6 Y11 trivial (wc a.nonce) rfl <| zz 4 ?_
 exact X.ag rfl (RV.agg 2 rfl rfl zah (wc a.nonce) Y22 Y22 rfl) (RV.tmp rfl) (fun w' hw'=>⟨rfl,hw'.s0⟩)
theorem getB (w:World) (g:Nat) (a:Ac) (hn:a.nonce < 18446744073709551616) (hcS:Cs w (some ⟨g,0,none⟩) a.cells):
    Calls prog 85 [.pointer (some ⟨g,0,none⟩)].toArray w fun e w'=>e=.returned (.tuple #[W a.bal,.slice none 0 0])∧WS w [] [] w':=by
 refine zac [] 8 [] func85 rfl ntmps85 Y20 (WS.refl _ _) <| zz 2 ?_
 refine J.am 2 rfl zbr zc9 rfl rfl fun g2 hg2=>zz 7 ?_
 refine J.aa zeD rfl rfl <| J.cM Y8k hcS (zab _) rfl zah rfl rfl <| J.ae 2 rfl rfl rfl rfl (wc a.bal) rfl sz50 Y7 Y6 Y11 trivial (wc a.bal) rfl <| zz 4 ?_
 exact X.ag rfl (RV.agg 2 rfl rfl zah (wc a.bal) Y22 Y22 rfl) (RV.tmp rfl) (fun w' hw'=>⟨rfl,hw'.s0⟩)
theorem getC (w:World) (g:Nat) (a:Ac) (hn:a.nonce < 18446744073709551616) (hcS:Cs w (some ⟨g,0,none⟩) a.cells):
    Calls prog 87 [.pointer (some ⟨g,0,none⟩)].toArray w fun e w'=>e=.returned (.tuple #[W 0,.slice a.cA a.code.length a.cC])∧WS w [] [] w':=by
 refine zac [] 9 [] func87 rfl ntmps87 Y20 (WS.refl _ _) <| zz 2 ?_
 refine J.am 2 rfl zbr zc9 rfl rfl fun g2 hg2=>zz 4 ?_
 refine T.ae [] [(0,.g),(1,.g),(2,.g),(3,.g),(4,.s),(5,.l),(6,.g)] Y12 Y12 ?_ Y2
 refine J.ao rfl rfl (W 0) Y191 <| zz 2 ?_
 refine J.aa zbo rfl rfl <| J.cG hcS (zab _) rfl zaw rfl rfl <| J.ae 2 rfl rfl rfl rfl (wc 0) rfl sz50 Y7 Y6 Y11 trivial (wc 0) rfl <| zz 4 ?_
 exact X.ag rfl (RV.agg 2 rfl rfl zah (wc 0) Y22 Y22 rfl) (RV.tmp rfl) (fun w' hw'=>⟨rfl,hw'.s0⟩)
theorem setN (w:World) (g:Nat) (a:Ac) (x0:Nat) (v:Value) (hat:Ent.At w ⟨some g,56,a.cells⟩):
    Calls prog 83 [.pointer (some ⟨g,0,none⟩),W x0,v].toArray w fun e w'=>e=.returned (.tuple #[])∧WS w [g] [(0,⟨some g,56,(a.setN x0).cells⟩)] w':=by
 refine zac [g] 14 [(0,⟨some g,56,a.cells⟩)] func83 rfl ntmps83 Y20 (WS.one hat) <| zz 2 ?_
 refine J.aE 4 rfl rfl (wc x0) rfl rfl fun g4 hg4=>zz 4 ?_
 refine J.ai Y8k 4 rfl rfl zah (wc x0) rfl rfl rfl <| J.aj Y8k fok84 rfl rfl (fun w hw=>Wa.Uint w _) ?_
 refine zz 4 ?_
 refine J.aa zfF rfl rfl <| J.ae 0 rfl rfl rfl rfl [.int .u64 ((if sizeN x0 > 8 then 0 else lim x0 0:Nat):Int)] rfl sz48 Y7 Y6 Y11 trivial (a.setN x0).cells rfl <| zz 1 ?_
 exact X.am rfl (fun w' hw'=>⟨rfl,hw'.only 0 0 rfl⟩)
theorem setB (w:World) (g:Nat) (a:Ac) (x0:Nat) (v:Value) (hat:Ent.At w ⟨some g,56,a.cells⟩):
    Calls prog 86 [.pointer (some ⟨g,0,none⟩),W x0,v].toArray w fun e w'=>e=.returned (.tuple #[])∧WS w [g] [(0,⟨some g,56,(a.setB x0).cells⟩)] w':=by
 refine zac [g] 10 [(0,⟨some g,56,a.cells⟩)] func86 rfl ntmps86 Y20 (WS.one hat) <| zz 2 ?_
 refine J.aE 4 rfl rfl (wc x0) rfl rfl fun g4 hg4=>zz 4 ?_
 refine J.ai Y8k 4 rfl rfl zah (wc x0) rfl rfl rfl <| zz 1 ?_
 refine J.aa zeD rfl rfl <| J.ae 0 rfl rfl rfl rfl (wc x0) rfl sz50 Y7 Y6 Y11 trivial (a.setB x0).cells rfl <| zz 1 ?_
 exact X.am rfl (fun w' hw'=>⟨rfl,hw'.only 0 0 rfl⟩)
theorem views (w:World):
    Calls prog 64 [].toArray w fun e w'=>e=.returned (.agg (zc2:List Value).toArray)∧WS w [] [] w':=by
 refine zac [] 5 [] func64 rfl ntmps64 Y20 (WS.refl _ _) <| zz 2 ?_
 refine J.am 0 rfl zqp zc6 rfl rfl fun g0 hg0=>zz 4 ?_
 refine J.ao rfl rfl (.agg ([.func (.func 81) #[] #[],.func (.func 83) #[] #[]]:List Value).toArray) Y191 <| J.ao rfl rfl (.agg ([.func (.func 85) #[] #[],.func (.func 86) #[] #[]]:List Value).toArray) Y191 <| J.ao rfl rfl (.agg ([.func (.func 87) #[] #[],.func (.func 88) #[] #[]]:List Value).toArray) Y191 <| J.ao rfl rfl (.agg (zc2:List Value).toArray) Y191 <| J.ae 0 rfl rfl rfl rfl (zc2:List Value) rfl sz97 Y7 Y127 Y11 trivial (zc2:List Value) rfl <| zz 3 ?_
 exact X.aa rfl (RV.agg 0 rfl rfl agg97 (zc2:List Value) Y22 Y22 rfl) (fun w' hw'=>⟨rfl,hw'.s0⟩)
end Go.Proofs.YtlllcafedekojaaGreatDoor.Dk
namespace Go.Fz
open Go Go.Fw Go.Proofs.Tryz
theorem zcE:FldT prog 62 0 50 0 3:=⟨Y12,sz50⟩
theorem zeC:FldT prog 62 1 50 4 3:=⟨Y12,sz50⟩
end Go.Fz
namespace Go.Proofs.YtlllcafedekojaaGreatDoor.Ei
open Go Go.Fw Go.Fz Go.Proofs.Tryz
attribute [local irreducible] J T X
theorem slots (w:World) (zs:List Ch) (r0:RowIx) (who:Nat) (A1 A2:Option Addr) (c1 c2:Nat) (ps bs:List Sl) (hat:(r0.ent 53 (rowC zs)).At w) (hr0:r0.Ok 35 zs.length) (hA1:Cs w A1 (rowS ps)) (hb1:ps.length≤c1) (ho1:ps≠[]→Off r0.id.toList A1) (hA2:Cs w A2 (rowS bs)) (hb2:bs.length≤c2) (ho2:bs≠[]→Off r0.id.toList A2) (hlz:zs.length≤1000000000) (hl1:ps.length≤1000000000) (hl2:bs.length≤1000000000):
    Calls prog 65 [r0.val zs.length,.agg (ac who).toArray,.slice A1 ps.length c1,.slice A2 bs.length c2].toArray w fun e w'=>∃ q:List Ch×RowIx,(q.1.map Ch.v=slL (who%256^20) (ps.map Sl.v) (bs.map Sl.v)∧q.2.Ok 35 (zs++q.1).length∧Bare q.1)∧e=.returned (q.2.val (zs++q.1).length)∧WS w r0.id.toList [(0,q.2.ent 53 (rowC (zs++q.1)))] w':=by
 refine zac r0.id.toList 73 [(0,r0.ent 53 (rowC zs))] func65 rfl ntmps65 Y20 (WS.rowAt hat) <| zz 2 ?_
 refine J.aE 5 rfl rfl (ac who) rfl rfl fun g5 hg5=>zz 9 ?_
 refine T.as 0 (r0.val (zs++([]:List Ch)).length) rfl (by rw [List.append_nil]) <| T.ao 0 (r0.ent 53 (rowC (zs++([]:List Ch)))) rfl (by rw [List.append_nil]) <| T.ag (ι:=Option Addr×Nat×List Sl×Option Addr×Nat×List Sl×List Ch×RowIx) (fun (Aa,ca,xs,Ab,cb,ys,qs,r)=>(Cs w Aa (rowS xs)∧(xs≠[]→Off r0.id.toList Aa))∧xs.length≤ca∧(Cs w Ab (rowS ys)∧(ys≠[]→Off r0.id.toList Ab))∧ys.length≤cb∧slL (who%256^20) (ps.map Sl.v) (bs.map Sl.v)=qs.map Ch.v++slL (who%256^20) (xs.map Sl.v) (ys.map Sl.v)∧qs.length+xs.length+ys.length≤2000000000∧r.Ok 35 (zs++qs).length∧Bare qs) (fun (Aa,ca,xs,Ab,cb,ys,qs,r)=>[(1,.agg (ac who).toArray),(5,.pointer (some ⟨g5,0,none⟩)),(8,.slice none 0 0),(2,.slice Aa xs.length ca),(3,.slice Ab ys.length cb),(0,r.val (zs++qs).length)]) (fun (Aa,ca,xs,Ab,cb,ys,qs,r)=>[(5,⟨some g5,47,(ac who)⟩),(0,r.ent 53 (rowC (zs++qs)))]) (fun (Aa,ca,xs,Ab,cb,ys,qs,r)=>xs.length+ys.length) ⟨A1,c1,ps,A2,c2,bs,[],r0⟩ ⟨⟨hA1,ho1⟩,hb1,⟨hA2,ho2⟩,hb2,rfl,by show 0+_+_≤_;omega,by rw [List.append_nil];exact hr0,Bare.nil⟩ Y2 Y2 ?_
 rintro ⟨Aa,ca,xs,Ab,cb,ys,qs,r⟩ ⟨⟨hA,hoa0⟩,hca,⟨hA2,hob0⟩,hcb,hj,hlen,hr,hbr⟩
 try dsimp only at *
 refine zz 4 ?_
 refine J.al underlying54 rfl rfl <| zz 2 ?_
 refine J.an 14 rfl (fun h1=>?_) (fun h1=>?_)
 obtain ⟨x,xs2,rfl⟩:=List.exists_cons_of_length_pos (l:=xs) Y5
 have hoa:=hoa0 Y20
 refine zz 12 ?_
 refine J.ai Y8k 5 rfl rfl zcs (ac who) rfl rfl rfl <| J.ao rfl rfl (.agg (Ch.ofSlot who 0 0 0).cells.toArray) Y191 <| J.am 9 rfl zdu zc0 rfl rfl fun g9 hg9=>J.ae 9 rfl rfl rfl rfl ((Ch.ofSlot who 0 0 0).cells) rfl sz53 (Nat.le_of_ble_eq_true rfl) Y172 (Nat.zero_lt_succ _) trivial ((Ch.ofSlot who 0 0 0).cells) rfl <| zz 12 ?_
 refine J.al underlying54 rfl rfl <| J.aT rfl rfl rfl (decide_eq_false Y13) <| zz 7 ?_
 refine J.al underlying54 rfl rfl <| zz 4 ?_
 refine T.aa rfl (fun h2=>?_) (fun h2=>?_)
 obtain rfl:ys=[]:=List.length_eq_zero_iff.1 Y5
 refine zz 9 ?_
 refine J.bB rfl rfl rfl (decide_eq_true Y13) <| zz 4 ?_
 refine T.ae [] [(0,.g),(1,.g),(2,.g),(3,.q),(4,.g),(5,.g),(6,.g),(7,.s),(8,.g),(9,.l),(10,.g),(11,.l)] Y12 Y12 ?_ Y2
 refine zz 1 ?_
 refine J.ah sl54 rfl (hA.isSome Y160) rfl Y5 Y5 Y22 rfl <| J.ak zcE rfl rfl <| J.ar Y8k hA hoa rfl zah (wc x.key) rfl rfl rfl <| zz 1 ?_
 refine J.ah sl54 rfl (hA.isSome Y160) rfl Y5 Y5 Y22 rfl <| J.ak zeC rfl rfl <| J.bh hA hoa rfl zah (wc x.val) rfl rfl rfl <| J.aa zaM rfl rfl <| J.ae 9 rfl rfl rfl rfl (wc x.key) rfl sz50 Y7 Y6 Y11 trivial ((Ch.ofSlot who x.key 0 0).cells) rfl <| J.aa zaW rfl rfl <| J.ae 9 rfl rfl rfl rfl (wc x.val) rfl sz50 Y7 Y6 Y11 trivial ((Ch.ofSlot who x.key x.val 0).cells) rfl <| zz 4 ?_
 refine J.ax sl54 rfl (optInt.some rfl Y5 Y22) optInt.none optInt.none Y20 Y5 Y136 (Nat.le_refl _) rfl rfl <| zz 7 ?_
 refine J.br rfl rfl rfl (decide_eq_false Y13) <| zz 8 ?_
 refine J.ai Y8k 9 rfl rfl zaz ((Ch.ofSlot who x.key x.val 0).cells) rfl rfl rfl <| J.aj Y8k zcp rfl rfl (fun w hw=>Da.idle w (Ch.ofSlot who x.key x.val 0) (Cs.nil _ _) (Cs.nil _ _) zaX zaX) ?_
 refine zz 2 ?_
 refine T.aa rfl (fun h3=>?_) (fun h3=>?_)
 have hstep:=sl_a (who:=who%256^20) (a:=x.v) (xa:=xs2.map Sl.v) (xb:=([]:List Sl).map Sl.v) (.inl rfl)
 have hem:=zjp h3
 refine zz 3 ?_
 exact X.ae ⟨(if ca=1 then Aa else Aa.map (·.add (1*8))),(ca - 1),xs2,Ab,cb,([]:List Sl),qs,r⟩ ⟨⟨zaG hA hca,fun _=>zbk hoa⟩,(zaj hca),⟨hA2,hob0⟩,hcb,(zmZ hj hstep hem),Y166,hr,hbr⟩ Y175 Y2 Y2
 have hstep:=sl_a (who:=who%256^20) (a:=x.v) (xa:=xs2.map Sl.v) (xb:=([]:List Sl).map Sl.v) (.inl rfl)
 have hem:=zgQ h3
 refine zz 4 ?_
 refine J.ai Y8k 9 rfl rfl zaz ((Ch.ofSlot who x.key x.val 0).cells) rfl rfl rfl <| J.aD 70 rfl underlying25 el53 Y23 rfl ((Ch.ofSlot who x.key x.val 0).cells) rfl rfl rfl fun g70 hg70=>J.ay 0 rfl underlying25 el53 rfl hr (zaq _) rfl rfl rfl (fun w hw=>(hw.blkCs (k:=70) rfl)) (Ch.cells_one _) Y162 Y143 rfl (zs++qs++[(Ch.ofSlot who x.key x.val 0)]).length (zbX _ _) (rowC (zs++(qs++[(Ch.ofSlot who x.key x.val 0)]))) Y152 fun r71 hr71=>J.as 71 (r71.val (zs++(qs++[(Ch.ofSlot who x.key x.val 0)])).length) rfl Y177 <| zz 3 ?_
 exact X.ae ⟨(if ca=1 then Aa else Aa.map (·.add (1*8))),(ca - 1),xs2,Ab,cb,([]:List Sl),(qs++[(Ch.ofSlot who x.key x.val 0)]),r71⟩ ⟨⟨zaG hA hca,fun _=>zbk hoa⟩,(zaj hca),⟨hA2,hob0⟩,hcb,(zgm hj hstep hem),Y166,Y167,hbr.snoc⟩ Y175 Y2 Y2
 obtain ⟨y,ys2,rfl⟩:=List.exists_cons_of_length_pos (l:=ys) Y5
 have hob:=hob0 Y20
 refine T.ae [] [(0,.g),(1,.g),(2,.g),(3,.q),(4,.g),(5,.g),(6,.g),(7,.q),(8,.q),(9,.g)] Y12 Y12 ?_ Y2
 refine zz 1 ?_
 refine J.ah sl54 rfl (hA.isSome Y160) rfl Y5 Y5 Y22 rfl <| J.ak zcE rfl rfl <| J.ar Y8k hA hoa rfl zah (wc x.key) rfl rfl rfl <| zz 1 ?_
 refine J.ah sl54 rfl (hA2.isSome Y160) rfl Y5 Y5 Y22 rfl <| J.ak zcE rfl rfl <| J.ar Y8k hA2 hob rfl zah (wc y.key) rfl rfl rfl <| J.aj Y8k zsD rfl rfl (fun w hw=>Da.Cmp w x.key y.key) ?_
 refine zz 11 ?_
 refine T.aa rfl (fun h4=>?_) (fun h4=>?_)
 refine zz 1 ?_
 refine T.ae [] [(0,.g),(1,.g),(2,.g),(3,.q),(4,.g),(5,.g),(6,.g),(7,.s),(8,.g),(9,.l),(10,.g),(11,.l)] Y12 Y12 ?_ Y2
 refine zz 1 ?_
 refine J.ah sl54 rfl (hA.isSome Y160) rfl Y5 Y5 Y22 rfl <| J.ak zcE rfl rfl <| J.ar Y8k hA hoa rfl zah (wc x.key) rfl rfl rfl <| zz 1 ?_
 refine J.ah sl54 rfl (hA.isSome Y160) rfl Y5 Y5 Y22 rfl <| J.ak zeC rfl rfl <| J.bh hA hoa rfl zah (wc x.val) rfl rfl rfl <| J.aa zaM rfl rfl <| J.ae 9 rfl rfl rfl rfl (wc x.key) rfl sz50 Y7 Y6 Y11 trivial ((Ch.ofSlot who x.key 0 0).cells) rfl <| J.aa zaW rfl rfl <| J.ae 9 rfl rfl rfl rfl (wc x.val) rfl sz50 Y7 Y6 Y11 trivial ((Ch.ofSlot who x.key x.val 0).cells) rfl <| zz 4 ?_
 refine J.ax sl54 rfl (optInt.some rfl Y5 Y22) optInt.none optInt.none Y20 Y5 Y136 (Nat.le_refl _) rfl rfl <| zz 10 ?_
 refine T.aa rfl (fun h5=>?_) (fun h5=>?_)
 refine zz 1 ?_
 refine T.ae [] [(0,.g),(1,.g),(2,.g),(3,.q),(4,.g),(5,.g),(6,.g),(7,.s),(8,.g),(9,.l),(10,.g),(11,.l)] Y12 Y12 ?_ Y2
 refine zz 1 ?_
 refine J.ah sl54 rfl (hA2.isSome Y160) rfl Y5 Y5 Y22 rfl <| J.ak zcE rfl rfl <| J.ar Y8k hA2 hob rfl zah (wc y.key) rfl rfl rfl <| zz 1 ?_
 refine J.ah sl54 rfl (hA2.isSome Y160) rfl Y5 Y5 Y22 rfl <| J.ak zeC rfl rfl <| J.bh hA2 hob rfl zah (wc y.val) rfl rfl rfl <| J.aa zaM rfl rfl <| J.ae 9 rfl rfl rfl rfl (wc y.key) rfl sz50 Y7 Y6 Y11 trivial ((Ch.ofSlot who y.key x.val 0).cells) rfl <| J.aa zaB rfl rfl <| J.ae 9 rfl rfl rfl rfl (wc y.val) rfl sz50 Y7 Y6 Y11 trivial ((Ch.ofSlot who y.key x.val y.val).cells) rfl <| zz 4 ?_
 refine J.ax sl54 rfl (optInt.some rfl Y5 Y22) optInt.none optInt.none Y20 Y5 Y137 (Nat.le_refl _) rfl rfl <| zz 6 ?_
 refine J.ai Y8k 9 rfl rfl zaz ((Ch.ofSlot who y.key x.val y.val).cells) rfl rfl rfl <| J.aj Y8k zcp rfl rfl (fun w hw=>Da.idle w (Ch.ofSlot who y.key x.val y.val) (Cs.nil _ _) (Cs.nil _ _) zaX zaX) ?_
 refine zz 2 ?_
 refine T.aa rfl (fun h6=>?_) (fun h6=>?_)
 have hstep:=zhd (who:=who%256^20) (a:=x.v) (b:=y.v) (xa:=xs2.map Sl.v) (xb:=ys2.map Sl.v) (by rw [zhk];omega)
 have hem:=zjp h6
 refine zz 3 ?_
 exact X.ae ⟨(if ca=1 then Aa else Aa.map (·.add (1*8))),(ca - 1),xs2,(if cb=1 then Ab else Ab.map (·.add (1*8))),(cb - 1),ys2,qs,r⟩ ⟨⟨zaG hA hca,fun _=>zbk hoa⟩,(zaj hca),⟨zaG hA2 hcb,fun _=>zbk hob⟩,(zaj hcb),(zmZ hj hstep hem),Y166,hr,hbr⟩ Y175 Y2 Y2
 have hstep:=zhd (who:=who%256^20) (a:=x.v) (b:=y.v) (xa:=xs2.map Sl.v) (xb:=ys2.map Sl.v) (by rw [zhk];omega)
 have hem:=zgQ h6
 refine zz 4 ?_
 refine J.ai Y8k 9 rfl rfl zaz ((Ch.ofSlot who y.key x.val y.val).cells) rfl rfl rfl <| J.aD 70 rfl underlying25 el53 Y23 rfl ((Ch.ofSlot who y.key x.val y.val).cells) rfl rfl rfl fun g70 hg70=>J.ay 0 rfl underlying25 el53 rfl hr (zaq _) rfl rfl rfl (fun w hw=>(hw.blkCs (k:=70) rfl)) (Ch.cells_one _) Y162 Y143 rfl (zs++qs++[(Ch.ofSlot who y.key x.val y.val)]).length (zbX _ _) (rowC (zs++(qs++[(Ch.ofSlot who y.key x.val y.val)]))) Y152 fun r71 hr71=>J.as 71 (r71.val (zs++(qs++[(Ch.ofSlot who y.key x.val y.val)])).length) rfl Y177 <| zz 3 ?_
 exact X.ae ⟨(if ca=1 then Aa else Aa.map (·.add (1*8))),(ca - 1),xs2,(if cb=1 then Ab else Ab.map (·.add (1*8))),(cb - 1),ys2,(qs++[(Ch.ofSlot who y.key x.val y.val)]),r71⟩ ⟨⟨zaG hA hca,fun _=>zbk hoa⟩,(zaj hca),⟨zaG hA2 hcb,fun _=>zbk hob⟩,(zaj hcb),(zgm hj hstep hem),Y166,Y167,hbr.snoc⟩ Y175 Y2 Y2
 refine zz 5 ?_
 refine J.ai Y8k 9 rfl rfl zaz ((Ch.ofSlot who x.key x.val 0).cells) rfl rfl rfl <| J.aj Y8k zcp rfl rfl (fun w hw=>Da.idle w (Ch.ofSlot who x.key x.val 0) (Cs.nil _ _) (Cs.nil _ _) zaX zaX) ?_
 refine zz 2 ?_
 refine T.aa rfl (fun h7=>?_) (fun h7=>?_)
 have hstep:=sl_a (who:=who%256^20) (a:=x.v) (xa:=xs2.map Sl.v) (xb:=(y::ys2).map Sl.v) (.inr ⟨y.v,ys2.map Sl.v,rfl,by rw [zhk];omega⟩)
 have hem:=zjp h7
 refine zz 3 ?_
 exact X.ae ⟨(if ca=1 then Aa else Aa.map (·.add (1*8))),(ca - 1),xs2,Ab,cb,(y::ys2),qs,r⟩ ⟨⟨zaG hA hca,fun _=>zbk hoa⟩,(zaj hca),⟨hA2,hob0⟩,hcb,(zmZ hj hstep hem),Y166,hr,hbr⟩ Y175 Y2 Y2
 have hstep:=sl_a (who:=who%256^20) (a:=x.v) (xa:=xs2.map Sl.v) (xb:=(y::ys2).map Sl.v) (.inr ⟨y.v,ys2.map Sl.v,rfl,by rw [zhk];omega⟩)
 have hem:=zgQ h7
 refine zz 4 ?_
 refine J.ai Y8k 9 rfl rfl zaz ((Ch.ofSlot who x.key x.val 0).cells) rfl rfl rfl <| J.aD 70 rfl underlying25 el53 Y23 rfl ((Ch.ofSlot who x.key x.val 0).cells) rfl rfl rfl fun g70 hg70=>J.ay 0 rfl underlying25 el53 rfl hr (zaq _) rfl rfl rfl (fun w hw=>(hw.blkCs (k:=70) rfl)) (Ch.cells_one _) Y162 Y143 rfl (zs++qs++[(Ch.ofSlot who x.key x.val 0)]).length (zbX _ _) (rowC (zs++(qs++[(Ch.ofSlot who x.key x.val 0)]))) Y152 fun r71 hr71=>J.as 71 (r71.val (zs++(qs++[(Ch.ofSlot who x.key x.val 0)])).length) rfl Y177 <| zz 3 ?_
 exact X.ae ⟨(if ca=1 then Aa else Aa.map (·.add (1*8))),(ca - 1),xs2,Ab,cb,(y::ys2),(qs++[(Ch.ofSlot who x.key x.val 0)]),r71⟩ ⟨⟨zaG hA hca,fun _=>zbk hoa⟩,(zaj hca),⟨hA2,hob0⟩,hcb,(zgm hj hstep hem),Y166,Y167,hbr.snoc⟩ Y175 Y2 Y2
 refine zz 6 ?_
 refine J.br rfl rfl rfl (decide_eq_true Y13) <| zz 4 ?_
 refine T.ae [] [(0,.g),(1,.g),(2,.g),(3,.q),(4,.g),(5,.g),(6,.g),(7,.s),(8,.g),(9,.l),(10,.g),(11,.l)] Y12 Y12 ?_ Y2
 refine zz 1 ?_
 refine J.ah sl54 rfl (hA2.isSome Y160) rfl Y5 Y5 Y22 rfl <| J.ak zcE rfl rfl <| J.ar Y8k hA2 hob rfl zah (wc y.key) rfl rfl rfl <| zz 1 ?_
 refine J.ah sl54 rfl (hA2.isSome Y160) rfl Y5 Y5 Y22 rfl <| J.ak zeC rfl rfl <| J.bh hA2 hob rfl zah (wc y.val) rfl rfl rfl <| J.aa zaM rfl rfl <| J.ae 9 rfl rfl rfl rfl (wc y.key) rfl sz50 Y7 Y6 Y11 trivial ((Ch.ofSlot who y.key 0 0).cells) rfl <| J.aa zaB rfl rfl <| J.ae 9 rfl rfl rfl rfl (wc y.val) rfl sz50 Y7 Y6 Y11 trivial ((Ch.ofSlot who y.key 0 y.val).cells) rfl <| zz 4 ?_
 refine J.ax sl54 rfl (optInt.some rfl Y5 Y22) optInt.none optInt.none Y20 Y5 Y137 (Nat.le_refl _) rfl rfl <| zz 6 ?_
 refine J.ai Y8k 9 rfl rfl zaz ((Ch.ofSlot who y.key 0 y.val).cells) rfl rfl rfl <| J.aj Y8k zcp rfl rfl (fun w hw=>Da.idle w (Ch.ofSlot who y.key 0 y.val) (Cs.nil _ _) (Cs.nil _ _) zaX zaX) ?_
 refine zz 2 ?_
 refine T.aa rfl (fun h8=>?_) (fun h8=>?_)
 have hstep:=sl_b (who:=who%256^20) (b:=y.v) (xb:=ys2.map Sl.v) (xa:=(x::xs2).map Sl.v) (.inr ⟨x.v,xs2.map Sl.v,rfl,by rw [zhk];omega⟩)
 have hem:=zjp h8
 refine zz 3 ?_
 exact X.ae ⟨Aa,ca,(x::xs2),(if cb=1 then Ab else Ab.map (·.add (1*8))),(cb - 1),ys2,qs,r⟩ ⟨⟨hA,hoa0⟩,hca,⟨zaG hA2 hcb,fun _=>zbk hob⟩,(zaj hcb),(zmZ hj hstep hem),Y166,hr,hbr⟩ Y175 Y2 Y2
 have hstep:=sl_b (who:=who%256^20) (b:=y.v) (xb:=ys2.map Sl.v) (xa:=(x::xs2).map Sl.v) (.inr ⟨x.v,xs2.map Sl.v,rfl,by rw [zhk];omega⟩)
 have hem:=zgQ h8
 refine zz 4 ?_
 refine J.ai Y8k 9 rfl rfl zaz ((Ch.ofSlot who y.key 0 y.val).cells) rfl rfl rfl <| J.aD 70 rfl underlying25 el53 Y23 rfl ((Ch.ofSlot who y.key 0 y.val).cells) rfl rfl rfl fun g70 hg70=>J.ay 0 rfl underlying25 el53 rfl hr (zaq _) rfl rfl rfl (fun w hw=>(hw.blkCs (k:=70) rfl)) (Ch.cells_one _) Y162 Y143 rfl (zs++qs++[(Ch.ofSlot who y.key 0 y.val)]).length (zbX _ _) (rowC (zs++(qs++[(Ch.ofSlot who y.key 0 y.val)]))) Y152 fun r71 hr71=>J.as 71 (r71.val (zs++(qs++[(Ch.ofSlot who y.key 0 y.val)])).length) rfl Y177 <| zz 3 ?_
 exact X.ae ⟨Aa,ca,(x::xs2),(if cb=1 then Ab else Ab.map (·.add (1*8))),(cb - 1),ys2,(qs++[(Ch.ofSlot who y.key 0 y.val)]),r71⟩ ⟨⟨hA,hoa0⟩,hca,⟨zaG hA2 hcb,fun _=>zbk hob⟩,(zaj hcb),(zgm hj hstep hem),Y166,Y167,hbr.snoc⟩ Y175 Y2 Y2
 obtain rfl:xs=[]:=List.length_eq_zero_iff.1 Y5
 refine zz 2 ?_
 refine J.al underlying54 rfl rfl <| zz 4 ?_
 refine T.aa rfl (fun h9=>?_) (fun h9=>?_)
 obtain ⟨y,ys2,rfl⟩:=List.exists_cons_of_length_pos (l:=ys) Y5
 have hob:=hob0 Y20
 refine zz 5 ?_
 refine J.ai Y8k 5 rfl rfl zcs (ac who) rfl rfl rfl <| J.ao rfl rfl (.agg (Ch.ofSlot who 0 0 0).cells.toArray) Y191 <| J.am 9 rfl zdu zc0 rfl rfl fun g9 hg9=>J.ae 9 rfl rfl rfl rfl ((Ch.ofSlot who 0 0 0).cells) rfl sz53 (Nat.le_of_ble_eq_true rfl) Y172 (Nat.zero_lt_succ _) trivial ((Ch.ofSlot who 0 0 0).cells) rfl <| zz 12 ?_
 refine J.al underlying54 rfl rfl <| J.aT rfl rfl rfl (decide_eq_true Y13) <| zz 13 ?_
 refine J.bB rfl rfl rfl (decide_eq_false Y13) <| zz 9 ?_
 refine J.br rfl rfl rfl (decide_eq_true Y13) <| zz 4 ?_
 refine T.ae [] [(0,.g),(1,.g),(2,.g),(3,.q),(4,.g),(5,.g),(6,.g),(7,.s),(8,.g),(9,.l),(10,.g),(11,.l)] Y12 Y12 ?_ Y2
 refine zz 1 ?_
 refine J.ah sl54 rfl (hA2.isSome Y160) rfl Y5 Y5 Y22 rfl <| J.ak zcE rfl rfl <| J.ar Y8k hA2 hob rfl zah (wc y.key) rfl rfl rfl <| zz 1 ?_
 refine J.ah sl54 rfl (hA2.isSome Y160) rfl Y5 Y5 Y22 rfl <| J.ak zeC rfl rfl <| J.bh hA2 hob rfl zah (wc y.val) rfl rfl rfl <| J.aa zaM rfl rfl <| J.ae 9 rfl rfl rfl rfl (wc y.key) rfl sz50 Y7 Y6 Y11 trivial ((Ch.ofSlot who y.key 0 0).cells) rfl <| J.aa zaB rfl rfl <| J.ae 9 rfl rfl rfl rfl (wc y.val) rfl sz50 Y7 Y6 Y11 trivial ((Ch.ofSlot who y.key 0 y.val).cells) rfl <| zz 4 ?_
 refine J.ax sl54 rfl (optInt.some rfl Y5 Y22) optInt.none optInt.none Y20 Y5 Y137 (Nat.le_refl _) rfl rfl <| zz 6 ?_
 refine J.ai Y8k 9 rfl rfl zaz ((Ch.ofSlot who y.key 0 y.val).cells) rfl rfl rfl <| J.aj Y8k zcp rfl rfl (fun w hw=>Da.idle w (Ch.ofSlot who y.key 0 y.val) (Cs.nil _ _) (Cs.nil _ _) zaX zaX) ?_
 refine zz 2 ?_
 refine T.aa rfl (fun h10=>?_) (fun h10=>?_)
 have hstep:=sl_b (who:=who%256^20) (b:=y.v) (xb:=ys2.map Sl.v) (xa:=([]:List Sl).map Sl.v) (.inl rfl)
 have hem:=zjp h10
 refine zz 3 ?_
 exact X.ae ⟨Aa,ca,([]:List Sl),(if cb=1 then Ab else Ab.map (·.add (1*8))),(cb - 1),ys2,qs,r⟩ ⟨⟨hA,hoa0⟩,hca,⟨zaG hA2 hcb,fun _=>zbk hob⟩,(zaj hcb),(zmZ hj hstep hem),Y166,hr,hbr⟩ Y175 Y2 Y2
 have hstep:=sl_b (who:=who%256^20) (b:=y.v) (xb:=ys2.map Sl.v) (xa:=([]:List Sl).map Sl.v) (.inl rfl)
 have hem:=zgQ h10
 refine zz 4 ?_
 refine J.ai Y8k 9 rfl rfl zaz ((Ch.ofSlot who y.key 0 y.val).cells) rfl rfl rfl <| J.aD 70 rfl underlying25 el53 Y23 rfl ((Ch.ofSlot who y.key 0 y.val).cells) rfl rfl rfl fun g70 hg70=>J.ay 0 rfl underlying25 el53 rfl hr (zaq _) rfl rfl rfl (fun w hw=>(hw.blkCs (k:=70) rfl)) (Ch.cells_one _) Y162 Y143 rfl (zs++qs++[(Ch.ofSlot who y.key 0 y.val)]).length (zbX _ _) (rowC (zs++(qs++[(Ch.ofSlot who y.key 0 y.val)]))) Y152 fun r71 hr71=>J.as 71 (r71.val (zs++(qs++[(Ch.ofSlot who y.key 0 y.val)])).length) rfl Y177 <| zz 3 ?_
 exact X.ae ⟨Aa,ca,([]:List Sl),(if cb=1 then Ab else Ab.map (·.add (1*8))),(cb - 1),ys2,(qs++[(Ch.ofSlot who y.key 0 y.val)]),r71⟩ ⟨⟨hA,hoa0⟩,hca,⟨zaG hA2 hcb,fun _=>zbk hob⟩,(zaj hcb),(zgm hj hstep hem),Y166,Y167,hbr.snoc⟩ Y175 Y2 Y2
 obtain rfl:ys=[]:=List.length_eq_zero_iff.1 Y5
 refine zz 13 ?_
 exact X.aa rfl (RV.tmp rfl) (fun w' hw'=>⟨(qs,r),⟨by rw [hj,List.map_nil,zeL,List.append_nil],hr,hbr⟩,rfl,hw'.only 0 0 rfl⟩)
end Go.Proofs.YtlllcafedekojaaGreatDoor.Ei
