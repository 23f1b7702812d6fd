/-
  Texts that the statement stands on, one behind the other: plain lemmas and walks of functions.
  No condition.
-/
import Derived.Laws.StructEq
import Derived.Test.YtlllcafedekojaaGreatDoorChecked
import Derived.Test.YtlllcafedekojaaGreatDoorMha
import Derived.Test.YtlllcafedekojaaGreatDoorMhb
import Derived.Test.YtlllcafedekojaaGreatDoorMhc
set_option linter.unusedVariables false
set_option maxRecDepth 20000
set_option maxHeartbeats 16000000
namespace Go.Fw
open Go
def OpV.io (o:OpV):Prop:=0≤o.inn∧o.inn≤20∧0≤o.out∧o.out≤20
theorem zjc (c:Int) (n:List Nat) (m i o g:Int) (e:Bool) (h1:0≤i) (h2:i≤20) (h3:0≤o) (h4:o≤20):(OpV.mk c n m i o g e).io:=⟨h1,h2,h3,h4⟩
theorem zoV (c:Int):(sumsV c).io:=by
  unfold sumsV;repeat' (with_reducible refine iteInduction (motive:=fun o:OpV=>o.io) (fun h=>?_) (fun h=>?_))
  all_goals exact zjc _ _ _ _ _ _ _ (by decide) (by decide) (by decide) (by decide)
theorem zjW (c:Int):(ofBlockV c).io:=by
  unfold ofBlockV;repeat' (with_reducible refine iteInduction (motive:=fun o:OpV=>o.io) (fun h=>?_) (fun h=>?_))
  all_goals exact zjc _ _ _ _ _ _ _ (by decide) (by decide) (by decide) (by decide)
theorem zoB (c:Int):(askedV c).io:=by
  unfold askedV;repeat' (with_reducible refine iteInduction (motive:=fun o:OpV=>o.io) (fun h=>?_) (fun h=>?_))
  all_goals first | exact zjW c | exact zjc _ _ _ _ _ _ _ (by decide) (by decide) (by decide) (by decide)
theorem zpH (c:Int):(heldV c).io:=by
  unfold heldV;repeat' (with_reducible refine iteInduction (motive:=fun o:OpV=>o.io) (fun h=>?_) (fun h=>?_))
  all_goals exact zjc _ _ _ _ _ _ _ (by decide) (by decide) (by decide) (by decide)
theorem zjS (c:Int):(outwardV c).io:=by
  unfold outwardV;repeat' (with_reducible refine iteInduction (motive:=fun o:OpV=>o.io) (fun h=>?_) (fun h=>?_))
  all_goals exact zjc _ _ _ _ _ _ _ (by decide) (by decide) (by decide) (by decide)
theorem zlQ (c:Int):(turnedV c).io:=by
  unfold turnedV;repeat' (with_reducible refine iteInduction (motive:=fun o:OpV=>o.io) (fun h=>?_) (fun h=>?_))
  all_goals first | exact zjS c | exact zjc _ _ _ _ _ _ _ (by decide) (by decide) (by decide) (by decide)
theorem zju (c:Int):(comparedV c).io:=by
  unfold comparedV;repeat' (with_reducible refine iteInduction (motive:=fun o:OpV=>o.io) (fun h=>?_) (fun h=>?_))
  all_goals first | exact zjc _ _ _ _ _ _ _ (by decide) (by decide) (by decide) (by decide) | (refine ⟨?_,?_,?_,?_⟩<;>(simp only [plainV];first | (split<;>decide) | decide))
theorem zlA (c:Int):(findV c).io:=by
  unfold findV;repeat' (with_reducible refine iteInduction (motive:=fun o:OpV=>o.io) (fun h=>?_) (fun h=>?_))
  all_goals first | exact zoV c | exact zju c | exact zoB c | exact zpH c | exact zlQ c | (refine ⟨?_,?_,?_,?_⟩<;>(simp only [plainV];omega)) | exact zjc _ _ _ _ _ _ _ (by decide) (by decide) (by decide) (by decide)
theorem zpt {v:InV} (h:v.Fine):0≤(needsV v).1∧(needsV v).1≤300∧0≤(needsV v).2∧(needsV v).2≤300:=by
  obtain ⟨h1,h2,h3,h4⟩:=zlA v.code
  have hb:=h.dg.getD 0
  unfold needsV
  split
  · exact ⟨by dsimp only;omega,by dsimp only;omega,by dsimp only;omega,by dsimp only;omega⟩
  · split
    · exact ⟨by dsimp only;omega,by dsimp only;omega,by dsimp only;omega,by dsimp only;omega⟩
    · exact ⟨by dsimp only;omega,by dsimp only;omega,by dsimp only;omega,by dsimp only;omega⟩
theorem zpF (n:Nat) (h:n < 65536):IntKind.i16.wrap ((n:Nat):Int)=s16 n:=by
  unfold s16
  show (if (true && decide (((n:Nat):Int)%2^16≥2^(16 - 1)))=true then ((n:Nat):Int)%2^16 - 2^16 else ((n:Nat):Int)%2^16)=_
  by_cases hn:n < 32768
  · rw [if_neg (by simp;omega),if_pos hn];omega
  · rw [if_pos (by simp;omega),if_neg hn];omega
theorem zne (n:Nat) (h:n < 65536): -32768≤s16 n∧s16 n < 32768:=by unfold s16;split<;>omega
theorem zla {bs:List Nat} (h:Dg bs):pairN bs < 65536:=by
  have h0:=h.getD 0
  have h1:=h.getD 1
  unfold pairN;omega
theorem zkd {bs:List Nat} (h:2≤bs.length) (nx:Int):leadsF bs nx=(nx+s16 (pairN bs))::leadsF (bs.drop 2) nx:=by
  match bs,h with
  | a::b::r,_=>rfl
theorem zke {bs:List Nat} (h:¬ 0 < bs.length) (nx:Int):leadsF bs nx=[]:=by
  cases bs with
  | nil=>rfl
  | cons a r=>simp at h
theorem zfA:∀ (bs:List Nat) (nx:Int),(leadsF bs nx).length≤bs.length
  | [],nx=>Nat.le_refl _
  | [a],nx=>Nat.zero_le _
  | a::b::r,nx=>by
    have:=zfA r nx
    simp only [leadsF,List.length_cons];omega
theorem InV.Fine.imm_le {v:InV} (h:v.Fine):v.imm.length≤513:=by rw [← h.ln];exact zkc (zdp v.code) h.dg
theorem InV.Fine.jump2 {v:InV} (h:v.Fine) (hc:v.code=224∨v.code=225):v.imm.length=2:=by
  rcases hc with hc | hc<;>exact h.len hc (by decide)
theorem InV.Fine.table {v:InV} (h:v.Fine) (hc:v.code=226):0 < v.imm.length∧v.imm.length=1+2*(v.imm.getD 0 0+1):=by
  have h1:=h.ln
  have hk:¬ (findV v.code).imm≠ -1:=by rw [hc];decide
  have hb:=h.lb
  have hne:v.imm≠[]:=by
    have:=of_decide_eq_true (by simpa [lenB] using hb)
    exact this.resolve_left hk
  rw [zfa hk hne] at h1
  omega
theorem znI {v:InV} (h:v.code=226):leadsV v=leadsF (v.imm.drop 1) v.next:=if_pos h
theorem zjh {v:InV} (h:v.code=224∨v.code=225):leadsV v=leadsF v.imm v.next:=by rw [leadsV,if_neg (by omega),if_pos h]
theorem zec {v:InV} (h:v.code≠226) (h2:v.code≠224) (h3:v.code≠225):leadsV v=[]:=by rw [leadsV,if_neg h,if_neg (by omega)]
instance (types:List TyV) (own:TyV) (v:InV):Decidable (goesV types own v):=by unfold goesV;infer_instance
section
variable {types:List TyV} {own:TyV} {v:InV}
theorem zpK (h:v.code=228):goesV types own v↔own.out≠128:=⟨fun q=>q.1 h,fun q=>⟨fun _=>q,fun q2=>by omega⟩⟩
theorem zsy (h:v.code≠228) (h2:v.code≠227) (h3:v.code≠229):goesV types own v:=⟨fun q=>absurd q h,fun q=>by omega⟩
theorem zpJ (h:v.code=227∨v.code=229) (hn:¬ (namedP v).1 < types.length):¬ goesV types own v:=fun q=>hn (q.2 h).1
theorem zpL (h:v.code=227) (hn:(namedP v).1 < types.length):goesV types own v↔(calleeV types v).out≠128:=
  ⟨fun q=>(q.2 (.inl h)).2.1 h,fun q=>⟨fun z=>by omega,fun _=>⟨hn,fun _=>q,fun z=>by omega⟩⟩⟩
theorem znW (h:v.code=229) (hn:(namedP v).1 < types.length) (ho:(calleeV types v).out=128):goesV types own v:=
  ⟨fun z=>by omega,fun _=>⟨hn,fun z=>by omega,fun _ z=>absurd ho z⟩⟩
theorem zlm (h:v.code=229) (hn:(namedP v).1 < types.length) (ho:(calleeV types v).out≠128):goesV types own v↔own.out≠128∧(calleeV types v).out≤own.out:=
  ⟨fun q=>(q.2 (.inr h)).2.2 h ho,fun q=>⟨fun z=>by omega,fun _=>⟨hn,fun z=>by omega,fun _ _=>q⟩⟩⟩
theorem zfG (ht:∀ t∈types,t.mid) (hn:(namedP v).1 < types.length):(calleeV types v).mid:=ht _ (zaE hn)
theorem zhR (ht:∀ t∈types,t.mid) (ho:own.mid) (hv:v.Fine) (hg:goesV types own v):0≤(turnsV types own v).1∧(turnsV types own v).1≤300∧0≤(turnsV types own v).2∧(turnsV types own v).2≤300:=by
  obtain ⟨o1,o2,o3,o4,o5,o6⟩:=ho
  unfold turnsV
  split
  · rename_i h
    obtain ⟨h1,h2,h3,h4,_⟩:=zfG ht (hg.2 (.inl h)).1
    exact ⟨h1,by dsimp only;omega,h3,by dsimp only;omega⟩
  · split
    · rename_i h
      obtain ⟨h1,h2,h3,h4,_⟩:=zfG ht (hg.2 (.inr h)).1
      exact ⟨h1,by dsimp only;omega,by dsimp only;omega,by dsimp only;omega⟩
    · split
      · exact ⟨o3,by dsimp only;omega,by dsimp only;omega,by dsimp only;omega⟩
      · exact zpt hv
def HtOk (h:Int×Int):Prop:=0≤h.1∧h.1≤h.2∧h.2≤1023
theorem zoO {h:Int×Int} (ht:∀ t∈types,t.mid) (ho:own.mid) (hv:v.Fine) (hg:goesV types own v) (hh:HtOk h) (hw:wrongV types own v h=0):HtOk (onV h (turnsV types own v)):=by
  obtain ⟨t1,t2,t3,t4⟩:=zhR ht ho hv hg
  obtain ⟨h1,h2,h3⟩:=hh
  unfold wrongV at hw
  split at hw
  · rename_i hc
    have htu:turnsV types own v=(own.out,0):=by unfold turnsV;rw [if_neg (by omega),if_neg (by omega),if_pos hc]
    split at hw
    · cases hw
    · rename_i q
      rw [Decidable.not_not.1 q,htu]
      exact ⟨by show 0≤own.out - own.out+0;omega,by show own.out - own.out+0≤own.out - own.out+0;omega,by show own.out - own.out+0≤1023;omega⟩
  · split at hw
    · cases hw
    · split at hw
      · cases hw
      · split at hw
        · rename_i hc
          have htu:(turnsV types own v).2=0:=by unfold turnsV;rw [if_neg (by omega),if_pos hc]
          exact ⟨by show 0≤h.1 - _+_;omega,by show h.1 - _+_≤h.2 - _+_;omega,by show h.2 - _+_≤1023;omega⟩
        · split at hw
          · cases hw
          · exact ⟨by show 0≤h.1 - _+_;omega,by show h.1 - _+_≤h.2 - _+_;omega,by show h.2 - _+_≤1023;omega⟩
end
section
variable {types:List TyV} {own:TyV} {v:InV} {lo hi:Int}
theorem ziF (h:v.code=228):turnsV types own v=(own.out,0):=by unfold turnsV;rw [if_neg (by omega),if_neg (by omega),if_pos h]
theorem ztj (hc:v.code=228) (h:¬ (lo=(turnsV types own v).1∧hi=(turnsV types own v).1)):wrongV types own v (lo,hi)=74:=by
  rw [ziF hc] at h
  unfold wrongV;rw [if_pos hc,if_pos (fun q=>h (by rw [Prod.mk.injEq] at q;exact q))]
theorem wr_0a (hc:v.code=228) (h:lo=(turnsV types own v).1∧hi=(turnsV types own v).1):wrongV types own v (lo,hi)=0:=by
  rw [ziF hc] at h
  unfold wrongV;rw [if_pos hc,if_neg (fun q=>q (by rw [h.1,h.2]))]
theorem wr_70 (hc:v.code≠228) (h:lo < (turnsV types own v).1):wrongV types own v (lo,hi)=70:=by unfold wrongV;rw [if_neg hc,if_pos h]
theorem wr_71 (hc:v.code≠228) (h:¬ lo < (turnsV types own v).1) (h2:v.code=227∨v.code=229) (h3:hi - (turnsV types own v).1+(calleeV types v).most > 1024):wrongV types own v (lo,hi)=71:=by
  unfold wrongV;rw [if_neg hc,if_neg h,if_pos ⟨h2,h3⟩]
theorem wr_74 (hc:v.code=229) (h:¬ lo < (turnsV types own v).1) (h3:¬ hi - (turnsV types own v).1+(calleeV types v).most > 1024) (h4:(calleeV types v).out≠128) (h5:¬ (lo=own.out - (calleeV types v).out+(calleeV types v).inn∧hi=own.out - (calleeV types v).out+(calleeV types v).inn)):wrongV types own v (lo,hi)=74:=by
  unfold wrongV;rw [if_neg (by omega),if_neg h,if_neg (fun q=>h3 q.2),if_pos hc,if_pos ⟨h4,fun q=>h5 (by rw [Prod.mk.injEq] at q;exact q)⟩]
theorem ztl (hc:v.code=229) (h:¬ lo < (turnsV types own v).1) (h3:¬ hi - (turnsV types own v).1+(calleeV types v).most > 1024) (h4:(calleeV types v).out=128∨(lo=own.out - (calleeV types v).out+(calleeV types v).inn∧hi=own.out - (calleeV types v).out+(calleeV types v).inn)):wrongV types own v (lo,hi)=0:=by
  unfold wrongV;rw [if_neg (by omega),if_neg h,if_neg (fun q=>h3 q.2),if_pos hc,if_neg (fun q=>h4.elim (fun z=>q.1 z) (fun z=>q.2 (Prod.ext z.1 z.2)))]
theorem ztk (hc:v.code≠228) (hc2:v.code≠229) (h:¬ lo < (turnsV types own v).1) (h3:v.code=227→¬ hi - (turnsV types own v).1+(calleeV types v).most > 1024) (h4:hi - (turnsV types own v).1+(turnsV types own v).2 > 1023):wrongV types own v (lo,hi)=71:=by
  unfold wrongV;rw [if_neg hc,if_neg h,if_neg (fun q=>h3 (q.1.resolve_right hc2) q.2),if_neg hc2,if_pos h4]
theorem wr_0 (hc:v.code≠228) (hc2:v.code≠229) (h:¬ lo < (turnsV types own v).1) (h3:v.code=227→¬ hi - (turnsV types own v).1+(calleeV types v).most > 1024) (h4:¬ hi - (turnsV types own v).1+(turnsV types own v).2 > 1023):wrongV types own v (lo,hi)=0:=by
  unfold wrongV;rw [if_neg hc,if_neg h,if_neg (fun q=>h3 (q.1.resolve_right hc2) q.2),if_neg hc2,if_neg h4]
end
def goesE (how:Int) (own to:TyV):Int:=if how=227∧to.out=128 then 82 else if how=227∨to.out=128 then 0 else if own.out=128 then 82 else if to.out > own.out then 83 else 0
structure HtV where
  at_:Int
  lo:Int
  hi:Int
instance:Inhabited HtV:=⟨⟨0,0,0⟩⟩
def HtV.cells (t:HtV):List Value:=[.int .i64 t.at_,.int .i64 t.lo,.int .i64 t.hi]
theorem HtV.cells_length (t:HtV):t.cells.length=3:=rfl
theorem HtV.cells_one (t:HtV):∀ u∈t.cells,u.oneCell'=true:=by
  intro u hu
  simp only [HtV.cells,List.mem_cons,List.not_mem_nil,or_false] at hu
  rcases hu with rfl | rfl | rfl<;>rfl
def rowHt (xs:List HtV):List Value:=xs.flatMap HtV.cells
theorem zfH (xs:List HtV):(rowHt xs).length=xs.length*3:=zaF HtV.cells_length xs
theorem zmg (xs:List HtV) (x:HtV):rowHt (xs++[x])=rowHt xs++x.cells:=by rw [rowHt,List.flatMap_append];simp [rowHt]
theorem znn (xs:List HtV) (i:Nat) (h:i < xs.length):((rowHt xs).drop (i*3)).take 3=(xs.getD i default).cells:=zcC HtV.cells_length xs i h
def HtV.p (t:HtV):Int×Int:=(t.lo,t.hi)
theorem zjb {xs:List HtV} {i:Nat} (hi:i < xs.length) (m:Int):mostF ((xs.drop i).map HtV.p) m=mostF ((xs.drop (i+1)).map HtV.p) (if (xs.getD i default).hi > m then (xs.getD i default).hi else m):=by
  rw [List.drop_eq_getElem_cons hi,List.map_cons,mostF,List.getD_eq_getElem?_getD,List.getElem?_eq_getElem hi];rfl
theorem zml {xs:List HtV} (h:0 < xs.length):mostV (xs.map HtV.p)=mostF ((xs.drop (0+1)).map HtV.p) (xs.getD 0 default).hi:=by
  cases xs with
  | nil=>simp at h
  | cons x xs=>rfl
structure SpT (P:Program) (t ti:TypeId):Prop where
  fs : (P.fieldsOf t).toList.map (fun f => (f.name, f.type, f.offset)) = [("lo", ti, 0), ("hi", ti, 1)]
  und:P.underlying t=some (.struct (P.fieldsOf t))
  held:P.stoodInHeld t=false
  guard:P.eqGuardType P.depth t=false
  int:P.underlying ti=some (.int .i64)
  one:OneT P ti
section
variable {P:Program} {ops:Array Oper} {F:Act→World→Prop} {w0 w:World} {M:List Nat} {N:Nf} {L:List (Oper×K)} {σ:List (Nat×Value)} {l lS:List (Nat×Ent)} {k:K}
  {d:Option Tmp} {ty t ti:TypeId} {p:String} {af:Array Edge} {x y:Operand}
theorem zkP (T:SpT P t ti) (a b c e:Int) (w:World):(Op.equalIn 10000 t (.agg [.int .i64 a,.int .i64 b].toArray) (.agg [.int .i64 c,.int .i64 e].toArray)).run P w=.ok (decide (a=c∧b=e)) w:=by
  rw [run_equalIn_struct w 9999 t _ _ T.und T.held]
  have hf:=T.fs
  have p0:∀ u v,(part ti [Value.int .i64 u,.int .i64 v].toArray 0).run P w=.ok (.int .i64 u) w:=fun u v=>by
    rw [zbR (v:=.int .i64 u) T.one];rfl
  have p1:∀ u v,(part ti [Value.int .i64 u,.int .i64 v].toArray 1).run P w=.ok (.int .i64 v) w:=fun u v=>by
    rw [zbR (v:=.int .i64 v) T.one];rfl
  have e1:∀ u v,(Op.equalIn 9999 ti (.int .i64 u) (.int .i64 v)).run P w=.ok (u == v) w:=fun u v=>run_equalIn_int w 9998 ti .i64 .i64 u v T.int
  match hl:(P.fieldsOf t).toList,hf with
  | [f1,f2],hf=>
    simp only [List.map_cons,List.map_nil,List.cons.injEq,Prod.mk.injEq,and_true] at hf
    obtain ⟨⟨n1,t1,o1⟩,n2,t2,o2⟩:=hf
    have h1 : f1.name ≠ "_" := by rw [n1]; decide
    have h2 : f2.name ≠ "_" := by rw [n2]; decide
    simp only [Op.eqFields,if_pos h1,if_pos h2,t1,t2,o1,o2,Sem.run_bind,p0,e1,Result.andThen_ok]
    by_cases q1:a=c
    · by_cases q2:b=e
      · simp [q1,q2,Sem.run_bind,p1,e1]
      · simp [q1,q2,Sem.run_bind,p1,e1]
    · simp [q1]
  | [],hf=>simp at hf
  | [_],hf=>simp at hf
  | _::_::_::_,hf=>simp at hf
theorem J.bz {t':TypeId} {a b c e:Int} (T:SpT P t ti) (hx:ev σ x=some (.agg [.int .i64 a,.int .i64 b].toArray)) (hy:ev σ y=some (.agg [.int .i64 c,.int .i64 e].toArray)) (hd:okd N d) (h:J P ops F w0 M N lS L (putd d (.bool (decide (¬ (a=c∧b=e)))) σ) l):
    J P ops F w0 M N lS ((⟨d,.binOp .neq t x y t',ty,p,af,none⟩,k)::L) σ l:=
  J.aS hx hy hd (fun w=>by
    simp only [Sem.run_bind,run_eqGuard_agg w .neq t x y _ _ T.guard,Result.andThen_ok,run_neq_struct,zkP T,decide_not]) h
theorem J.dn {t':TypeId} {a b c e:Int} (T:SpT P t ti) (hx:ev σ x=some (.agg [.int .i64 a,.int .i64 b].toArray)) (hy:ev σ y=some (.agg [.int .i64 c,.int .i64 e].toArray)) (hd:okd N d) (h:J P ops F w0 M N lS L (putd d (.bool (decide (a=c∧b=e))) σ) l):
    J P ops F w0 M N lS ((⟨d,.binOp .eql t x y t',ty,p,af,none⟩,k)::L) σ l:=
  J.aS hx hy hd (fun w=>by
    simp only [Sem.run_bind,run_eqGuard_agg w .eql t x y _ _ T.guard,Result.andThen_ok,run_eql_struct,zkP T]) h
end
def needC (o:OpV) (i u:Int):List Value:=[.int .i64 o.code,.string (bstr o.name),.int .i64 o.imm,.int .i64 i,.int .i64 u,.int .i64 o.gas,.bool o.ends]
theorem shr4 (a:Nat):((a:Nat):Int).fdiv (2^min (Int.toNat 4) IntKind.u8.bits)=((a / 16:Nat):Int):=by
  show ((a:Nat):Int).fdiv 16=_
  rw [Int.fdiv_eq_ediv_of_nonneg _ (by decide)];omega
set_option maxRecDepth 20000 in
theorem zuJ (a:Nat) (h:a < 256):bits .and .u8 ((a:Nat):Int) 15=((a%16:Nat):Int):=by
  have:∀ b:Fin 256,bits .and .u8 ((b.val:Nat):Int) 15=((b.val%16:Nat):Int):=by decide
  exact this ⟨a,h⟩
theorem InV.Fine.need1 {v:InV} (h:v.Fine):v.code=226∨v.code=230∨v.code=231∨v.code=232→1≤v.imm.length:=by
  rintro (hc | hc | hc | hc)
  · exact (h.table hc).1
  all_goals rw [h.len hc (by decide)];decide
theorem InV.Fine.tab {v:InV} (h:v.Fine) (hk:(findV v.code).imm= -1):1≤v.imm.length∧v.imm.length=2*v.imm.getD 0 0+3:=by
  have hk2:¬ (findV v.code).imm≠ -1:=fun q=>q hk
  have hne:v.imm≠[]:=by
    have:=of_decide_eq_true (by simpa [lenB] using h.lb)
    exact this.resolve_left hk2
  have h1:=h.ln
  rw [zfa hk2 hne] at h1
  omega
theorem InV.Fine.notab {v:InV} (h:v.Fine) (hk:¬ (findV v.code).imm= -1):(findV v.code).imm=((v.imm.length:Nat):Int):=by
  rw [← h.ln];exact (zlf hk (zdp v.code).1).symm
def passC (tA:Option Addr) (nt tC:Nat) (own:TyV) (lA:Option Addr) (nl lC:Nat) (gm:Nat):List Value:=[.slice tA nt tC,.int .i64 own.inn,.int .i64 own.out,.int .i64 own.most,.slice lA nl lC,.map (some gm)]
end Go.Fw
namespace Go.Fw
open Go
theorem zaP {bs:List Nat} {xs:List InR} (hm:xs.map InR.v=insA bs 0) {i:Nat} (hi:i < xs.length):(xs.getD i default).v∈insA bs 0:=by
  rw [← hm];exact List.mem_map.2 ⟨_,zaE hi,rfl⟩
theorem zbl {bs:List Nat} (hd:Dg bs) (hl:bs.length≤1000000) {v:InV} (h:v∈insA bs 0):v.Fine:=by
  obtain ⟨h1,h2⟩:=zih h
  rw [h2];exact zmi hd hl h1
theorem zlg {st:List Bool} {v:InV} (h:∀ j,j < (leadsV v).length→0≤(leadsV v).getD j 0∧(leadsV v).getD j 0 < st.length∧st.getD ((leadsV v).getD j 0).toNat false=true):leadOk st v:=fun t ht=>by
  obtain ⟨j,hj,rfl⟩:=List.mem_iff_getElem.1 ht
  have:=h j hj
  rw [List.getD_eq_getElem?_getD,List.getElem?_eq_getElem hj] at this
  exact this
theorem zfB {st:List Bool} {v:InV} (h:leadOk st v) {j:Nat} (hj:j < (leadsV v).length):0≤(leadsV v).getD j 0∧(leadsV v).getD j 0 < st.length∧st.getD ((leadsV v).getD j 0).toNat false=true:=h _ (by
  rw [List.getD_eq_getElem?_getD,List.getElem?_eq_getElem hj];exact List.getElem_mem hj)
theorem zig {bs:List Nat} {xs:List InR} {p:InV→Prop} (hm:xs.map InR.v=insA bs 0) (h:∀ j,j < xs.length→p (xs.getD j default).v):∀ v∈insA bs 0,p v:=fun v hv=>by
  rw [← hm] at hv
  obtain ⟨x,hx,rfl⟩:=List.mem_map.1 hv
  obtain ⟨j,hj,rfl⟩:=List.mem_iff_getElem.1 hx
  have:=h j hj
  rw [List.getD_eq_getElem?_getD,List.getElem?_eq_getElem hj] at this
  exact this
theorem zhX (xs:List Int) (sp:List Value) (i:Nat) (h:i < xs.length):(rowI .i64 xs++sp)[i*1]?=some (.int .i64 (xs.getD i 0)):=by
  rw [Nat.mul_one,List.getElem?_append_left (by rw [zda];exact h),zpk _ _ _ h]
theorem zdJ (xs:List Bool) (i:Nat) (h:i < xs.length):(rowT xs)[0+i*1]?=some (.bool (xs.getD i false)):=by rw [Nat.zero_add,Nat.mul_one];exact zkS xs i h
theorem zcl (xs:List Bool) (i:Nat) (h:i < xs.length):(rowT xs)[i*1]?=some (.bool (xs.getD i false)):=by rw [Nat.mul_one];exact zkS xs i h
theorem zgF {v:InV} (h:v.Fine):(leadsV v).length≤513:=by
  have hi:=h.imm_le
  unfold leadsV
  split
  · have:=zfA (v.imm.drop 1) v.next
    rw [List.length_drop] at this
    omega
  · split
    · have:=zfA v.imm v.next
      omega
    · exact Nat.zero_le _
end Go.Fw
set_option linter.unusedSimpArgs false
namespace Go.Fw
open Go
section
variable {P:Program} {w0 w w':World} {M M':List Nat} {l l1 l2 lr:List (Nat×Ent)} {N:Nf} {Q:Exit→Act→World→Prop} {σ:List (Nat×Value)} {ops:Array Oper} {F:Act→World→Prop} {L:List (Oper×K)} {lS:List (Nat×Ent)} {k:K}
  {d:Option Tmp} {ty t:TypeId} {p:String} {af:Array Edge} {x y:Operand} {v:Value}
theorem zuy {D:Nat} (h:Ent.At w ⟨none,.df D,[]⟩):w.heap[D]?=some (.deferred (some [])):=h.2
theorem zka {gm jm:Nat} (h:WS w0 M l w) (hj:∃ C,lk l jm=some ⟨none,.mp gm C,[]⟩):∃ es clk,w.heap[gm]?=some (.map es clk):=by
  obtain ⟨C,hC⟩:=hj
  obtain ⟨_,es,clk,hat,_⟩:=h.live jm _ hC
  exact ⟨es,clk,hat⟩
theorem ztE {gm jm:Nat} (h:WS w0 M l w) (hj:∃ C,lk l jm=some ⟨none,.mp gm C,[]⟩):gm < w.heap.size:=by
  obtain ⟨es,clk,hat⟩:=zka h hj
  exact (Array.getElem?_eq_some_iff.1 hat).1
theorem WS.joinX {gm D:Nat} (h:WS w0 M l w) (h2:WS w M' l2 w') (hgm:w0.heap.size≤gm) (hD:D≠gm) (hM:∀ g∈M',g=gm∨∃ k e,lk l k=some e∧e.id=some g) (hs:Sub lr l) (hlr:lr=[(990000,⟨none,.df D,[]⟩)]):WS w0 M (l2++lr) w':=by
  subst hlr
  have hlk:∀ {j:Nat} {e:Ent},lk [(990000,(⟨none,.df D,[]⟩:Ent))] j=some e→e=⟨none,.df D,[]⟩:=fun he=>by
    rw [zae] at he
    split at he
    · cases he;rfl
    · cases he
  refine ⟨h2.os.trans h.os,h2.tape.trans h.tape,h2.output.trans h.output,Nat.le_trans h.size h2.size,fun i hi hiM=>?_,fun j e he=>?_,fun j j' e e' g he he' hne hg=>?_,fun j e g he hg=>?_⟩
  · rw [h2.keep i (Nat.lt_of_lt_of_le hi h.size) (fun hin=>by
      rcases hM i hin with q | ⟨k,e1,h1,hg1⟩
      · omega
      · rcases h.own k e1 i h1 hg1 with h3 | h3
        · omega
        · exact hiM h3)]
    exact h.keep i hi hiM
  · rw [zax] at he
    cases hj:lk l2 j with
    | some e2=>rw [hj] at he;simp at he;subst he;exact h2.live j _ hj
    | none=>
      rw [hj] at he;simp at he
      have hl:=h.live j e (hs _ _ he)
      have hed:=hlk he
      subst hed
      refine ⟨rfl,?_⟩
      have h0:w.heap[D]?=some (.deferred (some [])):=hl.2
      show w'.heap[D]?=some (.deferred (some []))
      rw [h2.keep D (Array.getElem?_eq_some_iff.1 h0).1 (fun q=>by
        rcases hM D q with q | ⟨k,e1,h1,hg1⟩
        · exact hD q
        · exact (h.live k e1 h1).ne_odd hg1 (o:=.deferred (some [])) rfl h0)]
      exact h0
  · rw [zax] at he he'
    cases hj:lk l2 j with
    | some e2=>
      rw [hj] at he;simp at he;subst he
      cases hj':lk l2 j' with
      | some e3=>rw [hj'] at he';simp at he';subst he';exact h2.apart j j' _ _ g hj hj' hne hg
      | none=>
        rw [hj'] at he';simp at he'
        have hed:=hlk he'
        subst hed
        intro q;cases q
    | none=>
      rw [hj] at he;simp at he
      have hed:=hlk he
      subst hed
      cases hg
  · rw [zax] at he
    cases hj:lk l2 j with
    | some e2=>
      rw [hj] at he;simp at he;subst he
      rcases h2.own j _ g hj hg with h3 | h3
      · exact .inl (Nat.le_trans h.size h3)
      · rcases hM g h3 with q | ⟨k,e1,h1,hg1⟩
        · rw [q];exact .inl hgm
        · exact h.own k e1 g h1 hg1
    | none=>
      rw [hj] at he;simp at he
      have hed:=hlk he
      subst hed
      cases hg
theorem T.aB {ι:Type} {gp:Operand} {assign body:Code} {gf:FuncId} {lb:List Value} {cnt:Nat} {item:Nat→List Value→World→List Nat→Prop} {H:World→Prop} (φ:Nat→ι→List (Option Nat)→World→Prop) (lf:ι→List (Nat×Ent)) (B:List (Option Nat)) (i0:ι) (p v:Nat) (tx:TypeId) (gm jm:Nat) (hgm:w0.heap.size≤gm) (hjm:∀ i,∃ C,lk (lf i) jm=some ⟨none,.mp gm C,[]⟩)
    (hp:Nat.blt p N.n=true) (hro:N.ro=none) (hg:ev σ gp=some (.func (.func gf) #[] lb.toArray)) (hfn:FnOk P gf) (hs:Sub (lf i0) l) (hk:∀ i,keysB (lf i)=true) (hD:∀ i,lk (lf i) 990000=none) (hv:∀ i,lk (lf i) v=none) (hvb:Nat.blt v 990000=true)
    (h0:∀ W,WS w0 M l W→φ 0 i0 (B++ids (lf i0)) W)
    (hφ:∀ k i Bz Bz' V V',(∀ n,n≤w0.heap.size→Keep V n Bz V' Bz')→φ k i Bz V→φ k i Bz' V')
    (hitem:∀ k cs V V' MB MB',(∀ X,Keep V 0 ((MB++X).map some) V' ((MB'++X).map some))→item k cs V MB→item k cs V' MB')
    (hH:∀ i V,WS w0 M (lf i) V→H V) (seq:SeqSpec P gf lb cnt item H w0.heap.size)
    (hA:∀ b V k i cs,item k cs V (gm::idsN (lf i))→T P V (gm::idsN (lf i)) ⟨N.n,[],some b,fun _ _=>False⟩ (Exit.then (At V (gm::idsN (lf i)) ⟨N.n,[],some b,fun _ _=>False⟩ (fun g=>V.heap.size≤g) (fun g=>(v,.pointer (some ⟨g,0,none⟩))::(p,.agg cs.toArray)::σ) (fun g=>(v,⟨some g,tx,cs⟩)::lf i)) (fun _ _ _=>False)) assign ((p,.agg cs.toArray)::σ) (lf i))
    (hB:∀ b V k i cs g,w0.heap.size≤V.heap.size→k < cnt→φ k i (B++some g::some gm::ids (lf i)) V→item k cs V (g::gm::idsN (lf i))→
      T P V (g::gm::idsN (lf i)) ⟨N.n,[],some b,fun _ _=>False⟩ (RoundQ V (g::gm::idsN (lf i)) (φ (k+1)) lf B) body ((v,.pointer (some ⟨g,0,none⟩))::(p,.agg cs.toArray)::σ) ((v,⟨some g,tx,cs⟩)::lf i))
    (hX:∀ D i W,w0.heap.size≤D→φ cnt i (B++ids ((990000,⟨none,.df D,[]⟩)::lf i)) W→WS w0 M ((990000,⟨none,.df D,[]⟩)::lf i) W→
      X w0 M ⟨N.n,⟨.collected D,#[]⟩::N.D,N.ro,fun _ _=>False⟩ Q .normal σ (((990000,⟨none,.df D,[]⟩)::lf i)++snapL W w0.heap.size (ids ((990000,⟨none,.df D,[]⟩)::lf i)))):
    T P w0 M N Q (.rangeFunc gp #[p] assign body) σ l:=fun hq a w ha hw=>by
  refine wpIn_rangeFunc ?_
  intro fn hfnF
  rw [show (WF N.ro).round=none from hro]
  obtain ⟨rec,hrec⟩:∃ rec:LoopState→Option Code→Loop,rec=fun st pe=>{ state:=st,pending:=pe,fn,tmps:=a.tmps,params:=#[p],assign,body,defers:=w.heap.size }:=⟨_,rfl⟩
  obtain ⟨W1,hW1⟩:∃ W1,(w.alloc (.deferred (some []))).alloc (.loop (rec .ready none))=W1:=⟨_,rfl⟩
  obtain ⟨D,hDd⟩:∃ D,D=w.heap.size:=⟨_,rfl⟩
  obtain ⟨b,hb⟩:∃ b,b=w.heap.size+1:=⟨_,rfl⟩
  have hL1:W1.heap[b]?=some (.loop (rec .ready none)):=by
    rw [← hW1,hb];have:=World.alloc_heap_new (w.alloc (.deferred (some []))) (.loop (rec .ready none));rwa [World.size_alloc] at this
  have hK1:W1.heap[D]?=some (.deferred (some [])):=by
    rw [← hW1,hDd];exact (RowKit.Below.heap_alloc _ _ _ (by simp)).trans (World.alloc_heap_new w _)
  have hWS1:WS w0 M l W1:=by rw [← hW1];exact (hw.allocOdd _).allocOdd _
  have hDb:w0.heap.size≤D:=by rw [hDd];exact hw.size
  have hbb:w0.heap.size≤b:=by rw [hb];have:=hw.size;omega
  have hWd:WS w0 M ((990000,⟨none,.df D,[]⟩)::lf i0) W1:=(hWS1.sub hs).addDf 990000 D hK1
  have hsub:∀ i,Sub (lf i) ((990000,⟨none,.df D,[]⟩)::lf i):=fun i=>(Sub.refl _).fresh (hD i)
  refine ⟨b,[{ target:=.collected D,args:=#[] }],W1,{ target:=.fn (.func gf) lb.toArray,args:=#[.func (.yield b) #[] #[]] },W1,gf,(.func (.yield b) #[] #[]::lb).toArray,W1,?_,?_,?_,?_,fun q=>by simp [WF] at q,?_⟩
  · rw [← hW1,hrec,hb,hDd];exact run_enterLoop_outer _ _ _ _ _
  · have:=ha.eval hg
    simp only [resolve,this]
    simp [go_sem]
  · intro f' _;trivial
  · simp [invoke,zaD hfn]
  · refine (zga (seq b (fun k MB V=>∃ i,φ k i (B++ids (lf i)) V∧WS w0 M ((990000,⟨none,.df D,[]⟩)::lf i) V∧V.heap[b]?=some (.loop (rec .ready none))∧MB=gm::idsN (lf i)) (gm::idsN (lf i0)) W1 ?_ ?_ ?_ ⟨i0,h0 W1 hWS1,hWd,hL1,rfl⟩)).mono ?_
    · rintro k MB V V' ⟨i,h1,h2,h3,rfl⟩ hVV
      exact ⟨i,hφ k i _ _ V V' (fun n _=>znL hVV) h1,h2.join0 hVV,(hVV.keep b (Array.getElem?_eq_some_iff.1 h3).1 (by simp)).trans h3,rfl⟩
    · rintro k MB V ⟨i,h1,h2,h3,rfl⟩
      refine ⟨fun g hg=>?_,h2.size,hH i V (h2.sub (hsub i))⟩
      rcases List.mem_cons.1 hg with hg | hg
      · rw [hg];exact ztE (h2.sub (hsub i)) (hjm i)
      · obtain ⟨j,e,_,he,hat⟩:=zij h2 (hsub i) (hk i) hg
        exact hat.lt he
    · rintro k MB cs V hlt ⟨i,h1,h2,h3,rfl⟩ hit
      have hy:=run_yield (P:=P) (args:=#[.agg cs.toArray]) h3 (by simp [hrec])
      rw [hrec] at hy
      have h3r:=h3
      rw [hrec] at h3
      refine ⟨fn,_,assign,body,hy,roundIn_of_wpIn trivial ?_⟩
      have hlb:b < V.heap.size:=(Array.getElem?_eq_some_iff.1 h3).1
      obtain ⟨esm,clkm,hmap⟩:=zka (h2.sub (hsub i)) (hjm i)
      have hb1:b∉gm::idsN (lf i):=fun q=>by
        rcases List.mem_cons.1 q with q | q
        · rw [q,hmap] at h3;cases h3
        · obtain ⟨j,e,_,he,hat⟩:=zij h2 (hsub i) (hk i) q
          exact zhL hat he h3 rfl
      have hact:Has ⟨N.n,[],some b,fun _ _=>False⟩ ((p,.agg cs.toArray)::σ) { tmps:=((#[p]:Array Tmp).zip #[.agg cs.toArray]).foldl (fun tmps (t,a)=>tmps.setIfInBounds t a) a.tmps,defers:=[] }:=by
        have h:=ha.put (d:=p) (by simpa using hp) (.agg cs.toArray)
        exact ⟨by simpa [Act.put] using h.size,rfl,fun n u hn=>by simpa [Act.put] using h.get n u hn⟩
      refine wpIn_mono (hA b V k i cs hit (Pq.no fun _ _=>id) _ V hact ((h2.sub (hsub i)).rebase (hk i) (fun g hg=>List.mem_cons_of_mem _ hg))) ?_
      rintro e a1 V1 hq1
      cases e with
      | normal=>
        obtain ⟨g,hgV,ha1,hw1⟩:=hq1
        have hL:V1.heap[b]?=some (.loop { state:=.ready,pending:=none,fn,tmps:=a.tmps,params:=#[p],assign,body,defers:=w.heap.size }):=(hw1.keep b hlb hb1).trans h3
        refine ⟨_,run_beginRound hL rfl,?_⟩
        generalize hV1':V1.putObj b (.loop _)=V1'
        have hgb:g≠b:=by omega
        have hk1:∀ {g0:Nat},g0 < V.heap.size→g0∉gm::idsN (lf i)→g0≠b→V1'.heap[g0]?=V.heap[g0]?:=fun h h' hne=>by
          rw [← hV1',World.putObj_heap_other hne];exact hw1.keep _ h h'
        have hs1:V.heap.size≤V1'.heap.size:=by rw [← hV1',World.putObj_size];exact hw1.size
        have hkeep:∀ n (Bz Bz':List (Option Nat)),(n≤w0.heap.size)→(∀ g0,some g0∉Bz→g0∉idsN (lf i))→(∀ g0,some g0∉Bz→g0 < V.heap.size→g0≠gm→some g0∉Bz')→Keep V n Bz V1' Bz':=fun n Bz Bz' hn hz hz'=>zco fun g0 hB0 hlt0 hpl=>⟨hk1 hlt0 (fun q=>by
          rcases List.mem_cons.1 q with q | q
          · obtain ⟨c,t,hct⟩:=hpl (by omega)
            rw [q,hmap] at hct;cases hct
          · exact hz g0 hB0 q) (fun q=>by
          subst q
          obtain ⟨c,t,hct⟩:=hpl (by omega)
          rw [h3] at hct;cases hct),hz' g0 hB0 hlt0 (fun q=>by
          obtain ⟨c,t,hct⟩:=hpl (by
            have:=hgm
            omega)
          rw [q,hmap] at hct;cases hct)⟩
        have hvb':v < 990000:=by simpa [Nat.blt_eq] using hvb
        have hM1:∀ g0∈gm::idsN (lf i),g0=gm∨∃ j e,lk ((990000,(⟨none,.df D,[]⟩:Ent))::lf i) j=some e∧e.id=some g0:=fun g0 hg0=>by
          rcases List.mem_cons.1 hg0 with hg0 | hg0
          · exact .inl hg0
          · obtain ⟨j,e,hj,he⟩:=zcQ (hk i) (zba.1 hg0)
            exact .inr ⟨j,e,hsub i _ _ hj,he⟩
        have hDg:∀ {V:World},V.heap[gm]?=some (.map esm clkm)→V.heap[D]?=some (.deferred (some []))→D≠gm:=fun h1 h2 q=>by rw [q,h1] at h2;cases h2
        have hDV:V.heap[D]?=some (.deferred (some [])):=zuy (h2.live 990000 _ (by rw [zae,if_pos rfl]))
        have j1:=h2.joinX hw1 hgm (hDg hmap hDV) hM1 (lr:=[(990000,⟨none,.df D,[]⟩)]) (Sub.cons (by rw [zae,if_pos rfl]) (Sub.nil _)) rfl
        have j2:WS w0 M (((v,⟨some g,tx,cs⟩)::lf i)++[(990000,⟨none,.df D,[]⟩)]) V1':=by rw [← hV1'];exact j1.putLoop hL hbb
        have hka:keysB ((v,(⟨some g,tx,cs⟩:Ent))::lf i)=true:=zed (by simp [Nat.blt_eq];omega) (hv i) (hk i)
        have hwb:WS V1' (g::gm::idsN (lf i)) ((v,⟨some g,tx,cs⟩)::lf i) V1':=(j2.sub zeJ).rebase hka (fun g0 h=>by
          rcases List.mem_cons.1 (show g0∈g::idsN (lf i) from h) with h | h
          · rw [h];exact List.mem_cons_self
          · exact List.mem_cons_of_mem _ (List.mem_cons_of_mem _ h))
        have hT:=hB b V1' k i cs g (by have:=h2.size;omega) hlt
          (hφ k i _ _ V V1' (fun n hn=>hkeep n _ _ hn (fun g0 hz q=>hz (List.mem_append_right _ (zba.1 q))) (fun g0 hz hlt0 hng q=>by
            rcases List.mem_append.1 q with q | q
            · exact hz (List.mem_append_left _ q)
            · rcases List.mem_cons.1 q with q | q
              · cases q;omega
              · rcases List.mem_cons.1 q with q | q
                · cases q;exact hng rfl
                · exact hz (List.mem_append_right _ q))) h1)
          (hitem k cs V V1' _ _ (fun X=>hkeep 0 _ _ (Nat.zero_le _) (fun g0 hz q=>hz (List.mem_map.2 ⟨g0,List.mem_append_left _ (List.mem_cons_of_mem _ q),rfl⟩)) (fun g0 hz hlt0 _ q=>by
            obtain ⟨g1,q,hq⟩:=List.mem_map.1 q
            cases hq
            rcases List.mem_append.1 q with q | q
            · rcases List.mem_cons.1 q with q | q
              · omega
              · exact hz (List.mem_map.2 ⟨g0,List.mem_append_left _ q,rfl⟩)
            · exact hz (List.mem_map.2 ⟨g0,List.mem_append_right _ q,rfl⟩))) hit)
        refine wpIn_mono (hT (Pq.no fun _ _=>id) a1 V1' ha1 hwb) ?_
        rintro e2 a3 V3 ⟨rfl,i',h4,hw3⟩
        have hL2:V1'.heap[b]?=some (.loop { state:=.busy,pending:=none,fn,tmps:=a.tmps,params:=#[p],assign,body,defers:=w.heap.size }):=by
          rw [← hV1'];exact World.putObj_heap_same (Array.getElem?_eq_some_iff.1 hL).1
        have hb3:b∉g::gm::idsN (lf i):=fun q=>by
          rcases List.mem_cons.1 q with q | q
          · exact hgb q.symm
          · exact hb1 q
        have hL3:=(hw3.keep b (Array.getElem?_eq_some_iff.1 hL2).1 hb3).trans hL2
        have hend:=run_endRound (P:=P) none hL3
        have hM2:∀ g0∈g::gm::idsN (lf i),g0=gm∨∃ j e,lk (((v,(⟨some g,tx,cs⟩:Ent))::lf i)++[(990000,⟨none,.df D,[]⟩)]) j=some e∧e.id=some g0:=fun g0 hg0=>by
          have hg1:g0=gm∨g0∈idsN ((v,(⟨some g,tx,cs⟩:Ent))::lf i):=by
            rcases List.mem_cons.1 hg0 with q | q
            · rw [q];exact .inr List.mem_cons_self
            · rcases List.mem_cons.1 q with q | q
              · exact .inl q
              · exact .inr (List.mem_cons_of_mem _ q)
          rcases hg1 with hg1 | hg1
          · exact .inl hg1
          · obtain ⟨j,e,hj,he⟩:=zcQ hka (zba.1 hg1)
            exact .inr ⟨j,e,zeJ _ _ hj,he⟩
        obtain ⟨esm2,clkm2,hmap2⟩:=zka (j2.sub zeJ) (by obtain ⟨C,hC⟩:=hjm i;exact ⟨C,by rw [zae,if_neg (fun q=>by have:=hv i;rw [q,hC] at this;cases this)];exact hC⟩)
        have hDV2:V1'.heap[D]?=some (.deferred (some [])):=zuy (j2.live 990000 _ (by rw [zax,zae,if_neg (by omega),hD i,zae,if_pos rfl];rfl))
        have hDg2:D≠gm:=fun q=>by rw [q,hmap2] at hDV2;cases hDV2
        have hsr:Sub [(990000,(⟨none,.df D,[]⟩:Ent))] (((v,(⟨some g,tx,cs⟩:Ent))::lf i)++[(990000,⟨none,.df D,[]⟩)]):=Sub.cons (by
          rw [zax,zae,if_neg (by omega),hD i,zae,if_pos rfl];rfl) (Sub.nil _)
        have j3:=j2.joinX hw3 hgm hDg2 hM2 hsr rfl
        have j4:=(j3.putLoop (r':={ state:=.ready,pending:=none,fn,tmps:=a.tmps,params:=#[p],assign,body,defers:=w.heap.size }) hL3 hbb).sub (zmS (hD i'))
        refine ⟨_,_,hend,rfl,⟨gm::idsN (lf i'),i',?_,j4,?_,rfl⟩,?_⟩
        · refine hφ (k+1) i' _ _ V3 _ (fun n hn=>zco fun g0 hB0 hlt0 hpl=>⟨?_,hB0⟩) h4
          exact World.putObj_heap_other (fun q=>by
            subst q
            obtain ⟨c,t,hct⟩:=hpl (by omega)
            rw [hL3] at hct;cases hct)
        · rw [World.putObj_heap_same (Array.getElem?_eq_some_iff.1 hL3).1,hrec];rfl
        · intro g0 hg0 hgM ⟨c,t,hct⟩
          have hne:g0≠b:=fun q=>by subst q;rw [h3] at hct;cases hct
          rw [World.putObj_heap_other hne,hw3.keep g0 (by omega) (fun q=>by
            rcases List.mem_cons.1 q with q | q
            · omega
            · exact hgM q)]
          exact hk1 hg0 hgM hne
      | ret=>exact hq1.elim
      | exit id=>exact hq1.elim
      | goto t=>exact hq1.elim
      | panic ch=>exact hq1.elim
      | outgrown=>exact hq1.elim
    · rintro e W2 ⟨⟨v,rfl⟩,MB,i,h1,h2,h3,rfl⟩
      rw [hrec] at h3
      refine ⟨none,_,run_endLoop (P:=P) h3 (by simp),?_⟩
      generalize hW4:W2.putObj b (.loop _)=W4
      have hkb:∀ n (Bz Bz':List (Option Nat)),n≤w0.heap.size→(∀ g0,some g0∈Bz'→some g0∈Bz)→Keep W2 n Bz W4 Bz':=fun n Bz Bz' hn hz=>zco fun g0 hB0 hlt0 hpl=>⟨by
          rw [← hW4,World.putObj_heap_other (fun q=>by
            subst q
            obtain ⟨c,t,hct⟩:=hpl (by omega)
            rw [h3] at hct;cases hct)],fun q=>hB0 (hz g0 q)⟩
      have h4:WS w0 M ((990000,⟨none,.df D,[]⟩)::lf i) W4:=by rw [← hW4];exact h2.putLoop h3 hbb
      have hkk:keysB ((990000,⟨none,.df D,[]⟩)::lf i)=true:=by
        exact zed rfl (hD i) (hk i)
      exact hX D i W4 hDb (hφ cnt i _ _ W2 W4 (fun n hn=>hkb n _ _ hn (fun g0 q=>by simpa [ids] using q)) h1) h4 (Pq.no fun _ _=>id) _ W4 ⟨ha.size,by show _::a.defers=_;rw [ha.defers],ha.get⟩ (h4.snap (Sub.refl _) hkk)
end
section
variable {P:Program} {ops:Array Oper} {F:Act→World→Prop} {w0 w w':World} {M:List Nat} {N:Nf} {L:List (Oper×K)} {σ:List (Nat×Value)} {l lS:List (Nat×Ent)} {k:K}
  {d:Option Tmp} {ty t kt et:TypeId} {p:String} {af:Array Edge} {x y z:Operand} {g:Nat} {es:List MapEntry} {v key:Value}
def KV (es:List MapEntry) (kv:List (Int×Int)):Prop:=es.map (fun e=>(e.key,e.val))=kv.map fun q=>(Value.int .i64 q.1,Value.int .i64 q.2)
def lookKV:List (Int×Int)→Int→Int
  | [],_=>0
  | q::qs,a=>if a=q.1 then q.2 else lookKV qs a
theorem KV.cons {e:MapEntry} {es:List MapEntry} {kv:List (Int×Int)} (h:KV (e::es) kv):∃ q qs,kv=q::qs∧e.key=.int .i64 q.1∧e.val=.int .i64 q.2∧KV es qs:=by
  cases kv with
  | nil=>simp [KV] at h
  | cons q qs=>
    simp only [KV,List.map_cons,List.cons.injEq,Prod.mk.injEq] at h
    exact ⟨q,qs,rfl,h.1.1,h.1.2,h.2⟩
theorem zhI (a:Int):∀ (es:List MapEntry) (kv:List (Int×Int)) (i:Nat),KV es kv→
    (Instr.findNow (.int .i64) (.int .i64 a) es i=some none∧(∀ q∈kv,a≠q.1)∧lookKV kv a=0)∨∃ j,Instr.findNow (.int .i64) (.int .i64 a) es i=some (some (j,.int .i64 (lookKV kv a)))∧∃ q∈kv,a=q.1
  | [],kv,i,h=>by
    cases kv with
    | nil=>exact .inl ⟨rfl,(fun q hq=>by cases hq),rfl⟩
    | cons q qs=>simp [KV] at h
  | e::es,kv,i,h=>by
    obtain ⟨q,qs,rfl,h1,h2,h3⟩:=h.cons
    unfold Instr.findNow
    rw [h1]
    by_cases hq:a=q.1
    · refine .inr ⟨i,?_,q,List.mem_cons_self,hq⟩
      simp [Instr.sameNow,hq,lookKV,h2]
    · have hs:Instr.sameNow (.int .i64) (.int .i64 a) (.int .i64 q.1)=some false:=by simp [Instr.sameNow,hq]
      rw [hs]
      have hl:lookKV (q::qs) a=lookKV qs a:=by rw [lookKV,if_neg hq]
      rw [hl]
      rcases zhI a es qs (i+1) h3 with ⟨q1,q2,q3⟩ | ⟨j,q1,q2,q3,q4⟩
      · refine .inl ⟨q1,fun z hz=>?_,q3⟩
        rcases List.mem_cons.1 hz with hz | hz
        · rw [hz];exact hq
        · exact q2 z hz
      · exact .inr ⟨j,q1,q2,List.mem_cons_of_mem _ q3,q4⟩
theorem zdw (em:Bool) (a:Int) (hk:P.underlying kt=some (.int .i64)) (w:World):(Instr.checkKey em 10000 kt (.int .i64 a)).run P w=.ok () w:=by
  show (Instr.checkKey em (9999+1) kt _).run P w=_
  unfold Instr.checkKey
  simp [run_underlying hk]
theorem zdH {kv:List (Int×Int)} (a:Int) (hk:P.underlying kt=some (.int .i64)) (h:KV es kv) (w:World):
    ((Instr.findKey kt (.int .i64 a) es).run P w=.ok none w∧(∀ q∈kv,a≠q.1)∧lookKV kv a=0)∨∃ j,(Instr.findKey kt (.int .i64 a) es).run P w=.ok (some (j,.int .i64 (lookKV kv a))) w∧∃ q∈kv,a=q.1:=by
  unfold Instr.findKey
  rcases zhI a es kv 0 h with ⟨h1,h2⟩ | ⟨j,h1,h2⟩
  · exact .inl ⟨by simp [run_underlying hk,h1],h2⟩
  · exact .inr ⟨j,by simp [run_underlying hk,h1],h2⟩
theorem zjL {kv:List (Int×Int)} {a:Int} (ht:P.underlying t=some (.map kt et)) (hkt:P.underlying kt=some (.int .i64)) (hz:ZeroT P et (.int .i64 0)) {esA:Array MapEntry} {clk:Nat} (hat:w.heap[g]?=some (.map esA clk)) (hkv:KV esA.toList kv):
    (Instr.lookup t (.map (some g)) (.int .i64 a) false).run P w=.ok (.int .i64 (lookKV kv a)) w:=by
  have hc:=zdw esA.isEmpty a hkt w
  have hg:(getObj g).run P w=.ok (.map esA clk) w:=by simp [getObj,Sem.run,hat]
  unfold Instr.lookup
  simp only [Sem.run_bind,run_underlying ht,Result.andThen_ok,hg,Sem.run_pure,hc]
  rcases zdH a hkt hkv w with ⟨h1,_,h3⟩ | ⟨i,h1,_⟩
  · simp only [h1,Result.andThen_ok,Sem.run_bind,zaZ hz,Sem.run_pure,h3];rfl
  · simp only [h1,Result.andThen_ok];rfl
theorem J.cF (j:Nat) (hk:nog k) (ht:P.underlying t=some (.map kt et)) (hkt:P.underlying kt=some (.int .i64)) (hz:ZeroT P et (.int .i64 0)) {C:List MapEntry→Prop} {kv:List (Int×Int)} {a:Int} (hl:lk l j=some ⟨none,.mp g C,[]⟩) (hC:∀ r,C r→KV r kv) (hx:ev σ x=some (.map (some g))) (hy:ev σ y=some (.int .i64 a))
    (hd:okd N d) (hJ:J P ops F w0 M N lS L (putd d (.int .i64 (lookKV kv a)) σ) l):J P ops F w0 M N lS ((⟨d,.lookup t x y false,ty,p,af,none⟩,k)::L) σ l:=
  J.ba rfl hk hd _ (fun ac ha w hw=>by
    obtain ⟨_,esA,clk,hat,hes,_⟩:=hw.live j _ hl
    simp only [execOp,ha.eval hx,ha.eval hy,zjL ht hkt hz hat (hC _ hes),Sem.run_bind,Result.andThen,Sem.run_pure]) hJ
theorem WS.setMapM {j:Nat} {C:List MapEntry→Prop} {es':List MapEntry} (h:WS w0 M l w) (hl:lk l j=some ⟨none,.mp g C,[]⟩) (hone:oneMap j j l=true) (hg:w0.heap.size≤g∨g∈M) (clk:Nat) (hn:(es'.map (·.born)).Nodup) (hb:∀ e∈es',e.born < clk) (D:List MapEntry→Prop) (hD:D es'):
    WS w0 M ((j,⟨none,.mp g D,[]⟩)::l) (setObjW w g (.map es'.toArray clk)):=by
  obtain ⟨_,esA,clk0,hat,_⟩:=h.live j _ hl
  have hlt:=(Array.getElem?_eq_some_iff.1 hat).1
  refine ⟨h.os,h.tape,h.output,by have:=h.size;simpa [setObjW] using this,fun i hi hM=>?_,fun j e he=>?_,fun j j' e e' g he he' hne hg=>?_,fun j e g he hg=>?_⟩
  · rw [zbb,if_neg (by
      rintro ⟨rfl,_⟩
      rcases hg with hg | hg
      · omega
      · exact hM hg)]
    exact h.keep i hi hM
  · rw [zae] at he
    split at he
    · cases he
      exact ⟨rfl,es'.toArray,clk,by rw [zbb,if_pos ⟨rfl,hlt⟩],by simpa using hD,by simpa using hn,by simpa using hb⟩
    · rename_i hne
      have hat':=h.live j e he
      cases hid:e.id with
      | none=>
        rcases zgz hone he (Ne.symm hne) (Ne.symm hne) with ⟨t,ht⟩ | ⟨g',ht⟩
        · simp only [Ent.At,hid,ht] at hat' ⊢
          exact hat'
        · simp only [Ent.At,hid,ht] at hat' ⊢
          refine ⟨hat'.1,?_⟩
          rw [zbb,if_neg (by rintro ⟨rfl,_⟩;rw [hat] at hat';cases hat'.2)]
          exact hat'.2
      | some q=>
        simp only [Ent.At,hid] at hat' ⊢
        obtain ⟨t',h1,h2⟩:=hat'
        refine ⟨t',h1,?_⟩
        rw [zbb,if_neg (by rintro ⟨rfl,_⟩;rw [hat] at h2;cases h2)]
        exact h2
  · rw [zae] at he he'
    split at he
    · cases he;cases hg
    · split at he'
      · cases he';intro q;cases q
      · exact h.apart j j' e e' g he he' hne hg
  · rw [zae] at he
    split at he
    · cases he;cases hg
    · exact h.own j e g he hg
theorem J.cK (j:Nat) (hh:lk lS j=none) (ht:P.underlying t=some (.map kt et)) (hkt:P.underlying kt=some (.int .i64)) {kv:List (Int×Int)} {a b:Int} (hl:lk l j=some ⟨none,.mp g (fun r=>KV r kv),[]⟩) (hone:oneMap j j l=true) (hg:w0.heap.size≤g∨g∈M) (hx:ev σ x=some (.map (some g))) (hy:ev σ y=some (.int .i64 a)) (hz:ev σ z=some (.int .i64 b))
    (hnew:∀ q∈kv,a≠q.1) (hd:okd N d) (hJ:J P ops F w0 M N lS L (putd d undef σ) ((j,⟨none,.mp g (fun r=>KV r (kv++[(a,b)])),[]⟩)::l)):
    J P ops F w0 M N lS ((⟨d,.mapUpdate t x y z,ty,p,af,none⟩,.l)::L) σ l:=
  J.aR rfl hd (ι:=Unit) (fun _=>True) (fun _=>undef) (fun _=>(j,⟨none,.mp g (fun r=>KV r (kv++[(a,b)])),[]⟩)::l) (fun _ _ hs=>hs.fresh hh)
    (fun ac ha w hw=>by
      obtain ⟨_,esA,clk,hat,hes,hnd,hlt⟩:=hw.live j _ hl
      have hes:KV esA.toList kv:=hes
      have hg1:(getObj g).run P w=.ok (.map esA clk) w:=by simp [getObj,Sem.run,hat]
      have hset1:∀ o,(setObj g o).run P w=.ok () (setObjW w g o):=fun o=>by simp [setObj,Sem.run,hat,setObjW]
      have hf:(Instr.findKey kt (.int .i64 a) esA.toList).run P w=.ok none w:=by
        rcases zdH a hkt hes w with ⟨h1,_⟩ | ⟨_,_,q,hq,hq2⟩
        · exact h1
        · exact absurd hq2 (hnew q hq)
      have e1:esA.push (⟨.int .i64 a,.int .i64 b,clk⟩:MapEntry)=(esA.toList++[(⟨.int .i64 a,.int .i64 b,clk⟩:MapEntry)]).toArray:=by
        apply Array.ext';simp
      have hrun:(execOp ac.eval ⟨d,.mapUpdate t x y z,ty,p,af,none⟩).run P w=.ok .skip (setObjW w g (.map (esA.toList++[(⟨.int .i64 a,.int .i64 b,clk⟩:MapEntry)]).toArray (clk+1))):=by
        simp only [execOp,ha.eval hx,ha.eval hy,ha.eval hz,Instr.mapUpdate,Sem.run_bind,run_underlying ht,Result.andThen_ok,hg1,zdw _ _ hkt w,hf,hset1,e1,Sem.run_pure]
      rw [hrun]
      refine ⟨(),trivial,rfl,hw.setMapM hl hone hg (clk+1) ?_ ?_ _ ?_⟩
      · rw [List.map_append,List.nodup_append]
        refine ⟨hnd,by simp,fun b hb c hc=>?_⟩
        simp at hc;subst hc
        obtain ⟨e,he,rfl⟩:=List.mem_map.1 hb
        have:=hlt e he
        omega
      · intro e he
        rcases List.mem_append.1 he with he | he
        · have:=hlt e he;omega
        · simp at he;subst he;simp
      · show KV _ _
        unfold KV at hes ⊢
        rw [List.map_append,List.map_append,hes];rfl) (fun _ _=>hJ)
theorem WS.newMapI (h:WS w0 M l w) (k:Nat):WS w0 M ((k,⟨none,.mp w.heap.size (fun r=>KV r []),[]⟩)::l) (w.alloc (.map #[] 0)):=by
  have h1:=h.newMap k
  refine ⟨h1.os,h1.tape,h1.output,h1.size,h1.keep,fun j e he=>?_,fun j j' e e' q he he' hne hg=>?_,fun j e q he hg=>?_⟩
  · rw [zae] at he
    split at he
    · rename_i hj;subst hj;cases he
      obtain ⟨_,es,clk,q1,q2,q3⟩:=h1.live k _ (by rw [zae,if_pos rfl])
      refine ⟨rfl,es,clk,q1,?_,q3⟩
      have q2:es.toList=[]:=q2
      rw [q2];rfl
    · rename_i hj;exact h1.live j e (by rw [zae,if_neg hj];exact he)
  · rw [zae] at he he'
    split at he
    · cases he;cases hg
    · split at he'
      · cases he';intro q;cases q
      · rename_i hj hj'
        exact h1.apart j j' e e' q (by rw [zae,if_neg hj];exact he) (by rw [zae,if_neg hj'];exact he') hne hg
  · rw [zae] at he
    split at he
    · cases he;cases hg
    · rename_i hj;exact h1.own j e q (by rw [zae,if_neg hj];exact he) hg
theorem J.cm (h:Nat) (hh:lk lS h=none) (hd:okd N d) (hJ:∀ g,w0.heap.size≤g→J P ops F w0 M N lS L (putd d (.map (some g)) σ) ((h,⟨none,.mp g (fun r=>KV r []),[]⟩)::l)):J P ops F w0 M N lS ((⟨d,.makeMap t none,ty,p,af,none⟩,.l)::L) σ l:=
  J.aR rfl hd (ι:=Nat) (fun g=>w0.heap.size≤g) (fun g=>.map (some g)) (fun g=>(h,⟨none,.mp g (fun r=>KV r []),[]⟩)::l) (fun _ _ hs=>hs.fresh hh)
    (fun a ha w hw=>by
      have:(execOp a.eval ⟨d,.makeMap t none,ty,p,af,none⟩).run P w=.ok (.value (.map (some w.heap.size))) (w.alloc (.map #[] 0)):=by
        simp only [execOp,Option.map_none,Instr.makeMap,Sem.run_bind,run_newObj,Result.andThen,Sem.run_pure]
        rfl
      rw [this];exact ⟨_,hw.size,rfl,hw.newMapI h⟩) hJ
end
end Go.Fw
namespace Go.Fw
open Go
def kvF:List InV→Nat→List (Int×Int)
  | [],_=>[]
  | v::vs,k=>(((v.at_:Nat):Int),((k:Nat):Int))::kvF vs (k+1)
theorem zpz (vs:List InV) (v:InV) (k:Nat):kvF (vs++[v]) k=kvF vs k++[(((v.at_:Nat):Int),((k+vs.length:Nat):Int))]:=by
  induction vs generalizing k with
  | nil=>rfl
  | cons u vs ih=>rw [List.cons_append,kvF,ih,kvF,List.length_cons,Nat.add_right_comm,Nat.add_assoc];rfl
theorem zsm {vs:List InV} {k:Nat} {q:Int×Int} (h:q∈kvF vs k):∃ v∈vs,q.1=((v.at_:Nat):Int):=by
  induction vs generalizing k with
  | nil=>cases h
  | cons u vs ih=>
    rcases List.mem_cons.1 h with h | h
    · exact ⟨u,List.mem_cons_self,by rw [h]⟩
    · obtain ⟨v,hv,e⟩:=ih h
      exact ⟨v,List.mem_cons_of_mem _ hv,e⟩
theorem zkb (vs:List InV) (t:Int) (k:Nat):lookKV (kvF vs k) t=((((vs.findIdx? fun v=>decide (((v.at_:Nat):Int)=t)).map (·+k)).getD 0:Nat):Int):=by
  induction vs generalizing k with
  | nil=>rfl
  | cons u vs ih=>
    rw [kvF,lookKV,List.findIdx?_cons]
    by_cases h:t=((u.at_:Nat):Int)
    · rw [if_pos h,if_pos (by simp [h])];simp
    · rw [if_neg h,ih,if_neg (by simp;intro q;exact h q.symm)]
      congr 2
      cases vs.findIdx? fun v=>decide (((v.at_:Nat):Int)=t) with
      | none=>rfl
      | some i=>simp;omega
theorem zje (vs:List InV) (t:Int):lookKV (kvF vs 0) t=((placeV vs t:Nat):Int):=by
  rw [zkb,placeV]
  congr 2
  cases vs.findIdx? fun v=>decide (((v.at_:Nat):Int)=t) with
  | none=>rfl
  | some i=>rfl
theorem znO {bs:List Nat}:∀ (f a:Nat) (v:InV),v∈insF bs f a→a≤v.at_
  | 0,a,v,h=>by cases h
  | f+1,a,v,h=>by
    rw [insF] at h
    split at h
    · rename_i hE
      rcases List.mem_cons.1 h with h | h
      · rw [h,readV,if_pos hE];exact Nat.le_refl _
      · have h1:=znO f _ v h
        have h2:=zbI hE
        omega
    · cases h
theorem znM {bs:List Nat}:∀ (f a:Nat),(insF bs f a).Pairwise fun u v=>u.at_ < v.at_
  | 0,a=>List.Pairwise.nil
  | f+1,a=>by
    rw [insF]
    split
    · rename_i hE
      refine List.Pairwise.cons (fun v hv=>?_) (znM f _)
      have h1:=znO f _ v hv
      have h2:=zbI hE
      rw [show (readV bs a).at_=a by rw [readV,if_pos hE]]
      omega
    · exact List.Pairwise.nil
theorem zst (bs:List Nat):(insA bs 0).Pairwise fun u v=>u.at_ < v.at_:=znM _ _
theorem zmq {bs:List Nat} {k:Nat} (hk:k < (insA bs 0).length):∀ q∈kvF ((insA bs 0).take k) 0,((((insA bs 0).getD k default).at_:Nat):Int)≠q.1:=fun q hq e=>by
  obtain ⟨v,hv,h⟩:=zsm hq
  obtain ⟨i,hi,rfl⟩:=List.mem_iff_getElem.1 hv
  rw [List.length_take] at hi
  have h2:=List.pairwise_iff_getElem.1 (zst bs) i k (by omega) hk (by omega)
  rw [List.getElem_take] at h
  rw [List.getD_eq_getElem?_getD,List.getElem?_eq_getElem hk,h] at e
  simp only [Option.getD_some] at e
  omega
theorem InR.Ok.less2 {V:World} {n N0 g gm:Nat} {B:List (Option Nat)} {x:InR} {l:List (Nat×Ent)} (h:x.Ok V 0 (((g::gm::idsN l)++List.range N0).map some)) (hB:∀ g,some g∈B→g < N0):x.Ok V n (B++some g::some gm::ids l):=by
  have h1:x.Ok V 0 (((g::idsN ((0,(⟨some gm,0,[]⟩:Ent))::l))++List.range N0).map some):=h
  exact h1.less hB
theorem busyX {g gm:Nat} {B:List (Option Nat)} {l:List (Nat×Ent)}:∀ g0∈g::gm::idsN l,some g0∈B++some g::some gm::ids l:=fun g0 hg=>by
  have h:=busyB (B:=B) (l:=(0,(⟨some gm,0,[]⟩:Ent))::l) g0 hg
  exact h
theorem zsW {α:Type} [Inhabited α] {xs:List α} {p:α→Prop} (h:∀ i,i < xs.length→p (xs.getD i default)):∀ x∈xs,p x:=fun x hx=>by
  obtain ⟨i,hi,rfl⟩:=List.mem_iff_getElem.1 hx
  have:=h i hi
  rwa [List.getD_eq_getElem?_getD,List.getElem?_eq_getElem hi] at this
def tMap:Bool→Nat→List (Int×Int)→Tk
  | true,gm,kv=>.mp gm (fun r=>KV r kv)
  | false,_,_=>.ty 3
def pB:Bool→Nat→Option Addr
  | true,g=>some ⟨g,0,none⟩
  | false,_=>none
structure RtR where
  b:Bool
  g:Nat
  gm:Nat
  xs:List InR
  lA:Option Addr
  lC:Nat
structure RtR.Ok (W:World) (n:Nat) (B:List (Option Nat)) (types:List TyV) (s:Nat) (bs:List Nat) (tA:Option Addr) (tC:Nat) (q:RtR):Prop where
  iff:q.b=true↔rightV types s bs
  vs:q.b=true→q.xs.map InR.v=insA bs 0
  le:q.b=true→q.xs.length≤q.lC
  fl:q.b=true→Fit W n B q.lA (rowIn q.xs)
  all:q.b=true→AllI W n B q.xs
  fp:q.b=true→Fit W n B (some ⟨q.g,0,none⟩) (passC tA types.length tC (types.getD s default) q.lA q.xs.length q.lC q.gm)
theorem RtR.bad {W:World} {n:Nat} {B:List (Option Nat)} {types:List TyV} {s:Nat} {bs:List Nat} {tA:Option Addr} {tC:Nat} (h:¬ rightV types s bs):RtR.Ok W n B types s bs tA tC ⟨false,0,0,[],none,0⟩:=
  ⟨⟨fun q=>absurd q (by simp),fun q=>absurd q h⟩,fun q=>absurd q (by simp),fun q=>absurd q (by simp),fun q=>absurd q (by simp),fun q=>absurd q (by simp),fun q=>absurd q (by simp)⟩
end Go.Fw
namespace Go.Fw
open Go
def spC (h:Int×Int):List Value:=[.int .i64 h.1,.int .i64 h.2]
theorem zce (h:Int×Int):(spC h).length=2:=rfl
theorem zjH (h:Int×Int):∀ u∈spC h,u.oneCell'=true:=by
  intro u hu
  simp only [spC,List.mem_cons,List.not_mem_nil,or_false] at hu
  rcases hu with rfl | rfl<;>rfl
def rowSp (xs:List (Int×Int)):List Value:=xs.flatMap spC
theorem zcu (xs:List (Int×Int)):(rowSp xs).length=xs.length*2:=zaF zce xs
theorem zoh {α:Type} {f:α→List Value} {s:Nat} (hs:∀ x,(f x).length=s) (xs:List α) (i:Nat) (h:i≤xs.length):(xs.flatMap f).take (i*s)=(xs.take i).flatMap f:=by
  have h1:(xs.take i).flatMap f++(xs.drop i).flatMap f=xs.flatMap f:=by rw [← List.flatMap_append,List.take_append_drop]
  have hl:((xs.take i).flatMap f).length=i*s:=by rw [zaF hs,List.length_take,Nat.min_eq_left h]
  rw [← h1,← hl,List.take_left]
theorem zlx {α:Type} {f:α→List Value} {s:Nat} (hs:∀ x,(f x).length=s) (xs:List α) (i:Nat) (h:i < xs.length) (x:α):put (xs.flatMap f) (i*s) (f x)=(xs.set i x).flatMap f:=by
  unfold put
  rw [zoh hs xs i (by omega),hs,show i*s+s=(i+1)*s by rw [Nat.succ_mul],zfj hs,List.set_eq_take_append_cons_drop,if_pos h,List.flatMap_append,List.flatMap_cons,List.append_assoc]
theorem zgr (xs:List (Int×Int)) (i:Nat) (h:i < xs.length) (g:Int×Int):put (rowSp xs) (0+i*2) [.int .i64 g.1,.int .i64 g.2]=rowSp (xs.set i g):=by
  rw [Nat.zero_add];exact zlx zce xs i h g
theorem zjG {xs:List (Int×Int)} {i:Nat} (h:i < xs.length):xs.getD i default=xs.getD i (0,0):=by
  rw [List.getD_eq_getElem?_getD,List.getD_eq_getElem?_getD,List.getElem?_eq_getElem h];rfl
theorem zgq (xs:List (Int×Int)) (i:Nat) (h:i < xs.length):((rowSp xs).drop (0+i*2)).take 2=[.int .i64 (xs.getD i (0,0)).1,.int .i64 (xs.getD i (0,0)).2]:=by
  rw [Nat.zero_add]
  have:=zcC zce xs i h
  rw [zjG h] at this
  exact this
theorem zkT (xs:List (Int×Int)) (i:Nat) (h:i < xs.length):(rowSp xs)[0+i*2]?=some (.int .i64 (xs.getD i (0,0)).1):=by
  rw [Nat.zero_add]
  have:=zcF zce xs i 0 h (by decide)
  rw [zjG h] at this
  exact this
theorem zkU (xs:List (Int×Int)) (i:Nat) (h:i < xs.length):(rowSp xs)[0+i*2+1]?=some (.int .i64 (xs.getD i (0,0)).2):=by
  rw [Nat.zero_add]
  have:=zcF zce xs i 1 h (by decide)
  rw [zjG h] at this
  exact this
theorem zcM (xs:List Bool) (i:Nat) (b:Bool) (h:i < xs.length):put (rowT xs) (0+i*1) [.bool b]=rowT (xs.set i b):=by
  rw [Nat.zero_add,Nat.mul_one];exact zkR xs i b h
theorem zoM (m:Nat):zeros (.agg ([.int .i64 0,.int .i64 0]:List Value).toArray) m=rowSp (List.replicate m (0,0)):=by
  unfold zeros
  apply List.ext_getElem?
  intro i
  have hsz:(Value.agg ([.int .i64 0,.int .i64 0]:List Value).toArray).cells.size=2:=rfl
  rw [hsz]
  by_cases hi:i < m*2
  · rw [List.getElem?_map,List.getElem?_range hi]
    have hd:i / 2 < (List.replicate m ((0:Int),(0:Int))).length:=by rw [List.length_replicate];omega
    have:=zcF zce (List.replicate m ((0:Int),(0:Int))) (i / 2) (i%2) hd (by omega)
    rw [show i / 2*2+i%2=i by omega] at this
    show _=(List.flatMap spC _)[i]?
    rw [this,List.getD_eq_getElem?_getD,List.getElem?_eq_getElem hd,List.getElem_replicate]
    rcases (by omega:i%2=0∨i%2=1) with h | h
    · show some ((Value.agg ([.int .i64 0,.int .i64 0]:List Value).toArray).cells[i%2]!)=_
      rw [h];simp [Value.cells,spC]
    · show some ((Value.agg ([.int .i64 0,.int .i64 0]:List Value).toArray).cells[i%2]!)=_
      rw [h];simp [Value.cells,spC]
  · rw [List.getElem?_eq_none (by simp;omega),List.getElem?_eq_none (by rw [zcu,List.length_replicate];omega)]
theorem ztC (a b:Int):(if b < a then b else a)=min a b:=by omega
theorem ztD (a b:Int):(if b > a then b else a)=max a b:=by omega
section
variable {n to:Nat} {st:HSt} {g:Int×Int}
theorem zpp (h:to≤n):passV n st to g=(decide (st.1.getD to (0,0)=g),st):=if_pos h
theorem znv (h:¬ to≤n) (h2:st.2.getD to false=false):passV n st to g=(true,st.1.set to g,st.2.set to true):=by unfold passV;rw [if_neg h,if_pos h2]
theorem znu (h:¬ to≤n) (h2:¬ st.2.getD to false=false):passV n st to g=(true,st.1.set to (min (st.1.getD to (0,0)).1 g.1,max (st.1.getD to (0,0)).2 g.2),st.2):=by unfold passV;rw [if_neg h,if_neg h2]
theorem ztz:(passV n st to g).2.1.length=st.1.length∧(passV n st to g).2.2.length=st.2.length:=by
  unfold passV
  split
  · exact ⟨rfl,rfl⟩
  · split
    · exact ⟨List.length_set ..,List.length_set ..⟩
    · exact ⟨List.length_set ..,rfl⟩
def HsOk (st:HSt):Prop:=∀ i,st.2.getD i false=true→HtOk (st.1.getD i (0,0))
theorem zbz {α:Type} (l:List α) (i j:Nat) (x d:α):(l.set i x).getD j d=if i=j∧j < l.length then x else l.getD j d:=by
  rw [List.getD_eq_getElem?_getD,List.getD_eq_getElem?_getD,List.getElem?_set]
  by_cases h:i=j
  · subst h
    by_cases hl:i < l.length
    · simp [hl]
    · simp [hl]
  · simp [h]
theorem zkZ (hl:st.1.length=st.2.length) (h:HsOk st) (hg:HtOk g):HsOk (passV n st to g).2:=by
  unfold passV
  split
  · exact h
  · split
    · intro i hi
      dsimp only at hi ⊢
      rw [zbz] at hi ⊢
      by_cases q:to=i∧i < st.1.length
      · rw [if_pos q];exact hg
      · rw [if_neg q];rw [if_neg (by rw [← hl];exact q)] at hi;exact h i hi
    · rename_i hb
      have hb:st.2.getD to false=true:=by simpa using hb
      intro i hi
      dsimp only at hi ⊢
      rw [zbz]
      by_cases q:to=i∧i < st.1.length
      · rw [if_pos q]
        obtain ⟨a1,a2,a3⟩:=h to hb
        obtain ⟨b1,b2,b3⟩:=hg
        refine ⟨?_,?_,?_⟩
        · show 0≤min _ _;omega
        · show min _ _≤max _ _;omega
        · show max _ _≤1023;omega
      · rw [if_neg q];exact h i hi
end
theorem znt {vs:List InV} (h:0 < vs.length) (t:Int):placeV vs t < vs.length:=by
  unfold placeV
  cases hf:vs.findIdx? fun v=>decide (((v.at_:Nat):Int)=t) with
  | none=>exact h
  | some i=>exact (List.findIdx?_eq_some_iff_findIdx_eq.1 hf).1
theorem zkg {vs:List InV} {n:Nat} {g:Int×Int} {ts:List Int} {j:Nat} {st:HSt} (h:j < ts.length) (hp:(passV n st (placeV vs (ts.getD j 0)) g).1=true):jumpsV vs n g (ts.drop j) st=jumpsV vs n g (ts.drop (j+1)) (passV n st (placeV vs (ts.getD j 0)) g).2:=by
  rw [List.drop_eq_getElem_cons h,jumpsV]
  rw [List.getD_eq_getElem?_getD,List.getElem?_eq_getElem h] at hp ⊢
  exact if_pos hp
theorem zkf {vs:List InV} {n:Nat} {g:Int×Int} {ts:List Int} {j:Nat} {st:HSt} (h:j < ts.length) (hp:¬ (passV n st (placeV vs (ts.getD j 0)) g).1=true):jumpsV vs n g (ts.drop j) st=none:=by
  rw [List.drop_eq_getElem_cons h,jumpsV]
  rw [List.getD_eq_getElem?_getD,List.getElem?_eq_getElem h] at hp
  exact if_neg hp
theorem znh {types:List TyV} {own:TyV} {vs:List InV} {n:Nat} (h:runV types own vs n=none):∀ m,n≤m→runV types own vs m=none:=by
  intro m hm
  induction m with
  | zero=>rwa [show n=0 by omega] at h
  | succ m ih=>
    by_cases q:n=m+1
    · rwa [← q]
    · rw [runV,ih (by omega)];rfl
theorem Fit.nn {W:World} {n:Nat} {B:List (Option Nat)} {A:Option Addr} {cs:List Value} (h:Fit W n (B++[]) A cs):Fit W n (B++[none]) A cs:=fun i x hx=>by
  obtain ⟨ad,h1,h2,h3,h4⟩:=h i x hx
  exact ⟨ad,h1,h2,fun q=>by
    rcases List.mem_append.1 q with q | q
    · exact h3 (List.mem_append_left _ q)
    · simp at q,h4⟩
theorem AllI.nn {W:World} {n:Nat} {B:List (Option Nat)} {xs:List InR} (h:AllI W n (B++[]) xs):AllI W n (B++[none]) xs:=fun x hx=>⟨(h x hx).dg,(h x hx).ln,(h x hx).fi.nn⟩
def HtsOk (types:List TyV) (s:Nat) (bs:List Nat) (e:Int) (xs:List HtV):Prop:=(e=0↔rightV types s bs∧heightsV types s bs≠none)∧(e=0→heightsV types s bs=some (xs.map HtV.p))∧xs.length≤1000001
section
variable {types:List TyV} {s:Nat} {bs:List Nat} {e:Int}
theorem zsx (h:¬ rightV types s bs) (he:e≠0):HtsOk types s bs e []:=⟨⟨fun q=>absurd q he,fun q=>absurd q.1 h⟩,fun q=>absurd q he,Nat.zero_le _⟩
theorem zil (h:heightsV types s bs=none) (he:e≠0):HtsOk types s bs e []:=⟨⟨fun q=>absurd q he,fun q=>absurd h q.2⟩,fun q=>absurd q he,Nat.zero_le _⟩
theorem ztJ {xs:List HtV} (h:rightV types s bs) (hh:heightsV types s bs=some (xs.map HtV.p)) (hl:xs.length≤1000001):HtsOk types s bs 0 xs:=⟨⟨fun _=>⟨h,by rw [hh];simp⟩,fun _=>rfl⟩,fun _=>hh,hl⟩
theorem zkN (h:scanE bs=0):0 < (insA bs 0).length:=by
  unfold scanE at h
  split at h
  · exact absurd h (zgI bs)
  · split at h
    · cases h
    · rename_i q
      exact List.length_pos_iff.2 q
theorem zmd (h:scanE bs=0) {k:Nat} (hk:k+1=(insA bs 0).length):(findV ((insA bs 0).getD k default).code).ends=true:=by
  have h0:=zkN h
  unfold scanE at h
  split at h
  · exact absurd h (zgI bs)
  · split at h
    · cases h
    · split at h
      · rename_i q
        rw [zji h0] at q
        rwa [show k=(insA bs 0).length - 1 by omega]
      · cases h
variable {own:TyV} {vs:List InV} {k:Nat} {st:HSt} {x:InR}
theorem zmU (h:st.2.getD k false=false):stepV types own vs k st=none:=by
  unfold stepV;exact if_neg (fun q=>by rw [h] at q;cases q.1)
theorem zlY (hv:vs.getD k default=x.v) (h:wrongV types own x.v (st.1.getD k (0,0))≠0):stepV types own vs k st=none:=by
  unfold stepV;rw [hv];exact if_neg (fun q=>h q.2)
theorem zmT (hv:vs.getD k default=x.v) (h1:st.2.getD k false=true) (h:wrongV types own x.v (st.1.getD k (0,0))=0):stepV types own vs k st=jumpsV vs k (onV (st.1.getD k (0,0)) (turnsV types own x.v)) (leadsV x.v) (if (findV x.v.code).ends=true then st else (passV k st (k+1) (onV (st.1.getD k (0,0)) (turnsV types own x.v))).2):=by
  unfold stepV;rw [hv];exact if_pos ⟨h1,h⟩
theorem zik (hk:k < (insA bs 0).length) (hr:runV types (types.getD s default) (insA bs 0) k=some st) (h:stepV types (types.getD s default) (insA bs 0) k st=none):heightsV types s bs=none:=by
  unfold heightsV
  rw [znh (n:=k+1) (by rw [runV,hr];exact h) _ hk];rfl
theorem zpe {st2:HSt} (hr:runV types own vs k=some st) (h:stepV types own vs k st=some st2):runV types own vs (k+1)=some st2:=by rw [runV,hr];exact h
theorem zsw (hr:runV types (types.getD s default) (insA bs 0) (insA bs 0).length=some st):heightsV types s bs=some st.1:=by
  unfold heightsV;rw [hr];rfl
theorem zmp {g:Int×Int} {ts:List Int}:jumpsV vs k g (ts.drop ts.length) st=some st:=by rw [List.drop_length];rfl
theorem zll (own:TyV) (m:Nat):(initV own m).1.length=m∧(initV own m).2.length=m:=by
  unfold initV;simp
theorem zsv {own:TyV} (ho:own.mid) (m:Nat):HsOk (initV own m):=fun i hi=>by
  obtain ⟨o1,o2,o3,o4,o5,o6⟩:=ho
  unfold initV at hi ⊢
  dsimp only at hi ⊢
  rw [zbz] at hi ⊢
  rw [List.length_replicate] at hi ⊢
  split at hi
  · rename_i q
    rw [if_pos q]
    exact ⟨o1,Int.le_refl _,by show own.inn≤1023;omega⟩
  · rw [List.getD_eq_getElem?_getD,List.getElem?_replicate] at hi
    split at hi<;>simp at hi
end
theorem zpw {W:World} {n h:Nat} {I:List (Option Nat)} (hh:Nat.blt h 1000000=true):lk (snapL W n I) h=none:=by
  cases q:lk (snapL W n I) h with
  | none=>rfl
  | some e=>
    obtain ⟨g,hg,_⟩:=zdO q
    have:h < 1000000:=by simpa [Nat.blt_eq] using hh
    omega
theorem znl (g c0:Nat) (z:Value) (hz:z.cells.size=3) (h1:∀ u∈zeros z c0,u.oneCell'=true) (h:c0≤maxLen):(RowIx.mk (some g) c0 (zeros z c0)).Ok 3 0:=⟨Nat.zero_le _,h,(by
  show 0*3+(zeros _ c0).length=c0*3
  rw [zbp,hz];omega),(fun q=>by cases q),h1⟩
theorem zmn {ys:List HtV} {hs:List (Int×Int)} {k:Nat} (a:Int) (hm:ys.map HtV.p=hs.take k) (hk:k < hs.length):(ys++[HtV.mk a (hs.getD k (0,0)).1 (hs.getD k (0,0)).2]).map HtV.p=hs.take (k+1):=by
  rw [List.map_append,hm,List.take_add_one,List.getElem?_eq_getElem hk,List.getD_eq_getElem?_getD,List.getElem?_eq_getElem hk];rfl
end Go.Fw
namespace Go.Fw
open Go
structure NmOk (c:CtV) (own:TyV) (kind:Int) (st:List Bool) (v:InV):Prop where
  bar:barsV v.code kind=false
  lead:leadOk st v
  call:v.code=227∨v.code=229→(namedP v).1 < c.types.length∧goesE v.code own (calleeV c.types v)=0
  ret:v.code=228→own.out≠128
  data:v.code=209→(((namedP v).1:Nat):Int)+32≤c.size
  sub:v.code=236∨v.code=238→(namedP v).1 < c.subs.length
def mkE (l:List Bool) (v:InV):List Bool:=if v.code=236 then l.set (namedP v).1 true else l
def lyE (l:List Bool) (v:InV):List Bool:=if v.code=238 then l.set (namedP v).1 true else l
def clE (l:List Nat) (v:InV):List Nat:=if v.code=227∨v.code=229 then l++[(namedP v).1] else l
def retB (types:List TyV) (v:InV):Bool:=decide (v.code=228∨v.code=229∧(calleeV types v).out≠128)
structure NmQ where
  e:Int
  mm:List Bool
  ly:List Bool
  cl:List Nat
  r:RowIx
structure NmQ.Ok (c:CtV) (own:TyV) (kind:Int) (st:List Bool) (v:InV) (mk ly:List Bool) (cl:List Nat) (q:NmQ):Prop where
  iff:q.e=0↔NmOk c own kind st v
  mk_:q.e=0→q.mm=mkE mk v
  ly_:q.e=0→q.ly=lyE ly v
  cl_:q.e=0→q.cl=clE cl v
  lm:q.mm.length=mk.length
  ll:q.ly.length=ly.length
  rok:q.r.Ok 1 q.cl.length
  lq:q.cl.length≤cl.length+1
section
variable {c:CtV} {own:TyV} {kind:Int} {st:List Bool} {v:InV} {mk ly:List Bool} {cl cl2:List Nat} {r r2:RowIx} {e:Int}
theorem zer (h:¬ NmOk c own kind st v) (he:e≠0) (hr:r.Ok 1 cl.length):NmQ.Ok c own kind st v mk ly cl ⟨e,mk,ly,cl,r⟩:=
  ⟨⟨fun q=>absurd q he,fun q=>absurd q h⟩,fun q=>absurd q he,fun q=>absurd q he,fun q=>absurd q he,rfl,rfl,hr,Nat.le_succ _⟩
theorem zny (hc:v.code=227∨v.code=229) (h:goesE v.code own (calleeV c.types v)=0→NmOk c own kind st v) (hr:r.Ok 1 (cl++[(namedP v).1]).length):NmQ.Ok c own kind st v mk ly cl ⟨goesE v.code own (calleeV c.types v),mk,ly,cl++[(namedP v).1],r⟩:=
  ⟨⟨h,fun q=>(q.call hc).2⟩,fun _=>by rw [mkE,if_neg (by omega)],fun _=>by rw [lyE,if_neg (by omega)],fun _=>by rw [clE,if_pos hc],rfl,rfl,hr,by rw [List.length_append];exact Nat.le_refl _⟩
theorem zrZ (h:NmOk c own kind st v) (h1:¬ (v.code=227∨v.code=229)) (h2:v.code≠236) (h3:v.code≠238) (hr:r.Ok 1 cl.length):NmQ.Ok c own kind st v mk ly cl ⟨0,mk,ly,cl,r⟩:=
  ⟨⟨fun _=>h,fun _=>rfl⟩,fun _=>by rw [mkE,if_neg h2],fun _=>by rw [lyE,if_neg h3],fun _=>by rw [clE,if_neg h1],rfl,rfl,hr,Nat.le_succ _⟩
theorem nq_mk (h:NmOk c own kind st v) (h2:v.code=236) (hr:r.Ok 1 cl.length):NmQ.Ok c own kind st v mk ly cl ⟨0,mk.set (namedP v).1 true,ly,cl,r⟩:=
  ⟨⟨fun _=>h,fun _=>rfl⟩,fun _=>by rw [mkE,if_pos h2],fun _=>by rw [lyE,if_neg (by omega)],fun _=>by rw [clE,if_neg (by omega)],List.length_set ..,rfl,hr,Nat.le_succ _⟩
theorem nq_ly (h:NmOk c own kind st v) (h2:v.code=238) (hr:r.Ok 1 cl.length):NmQ.Ok c own kind st v mk ly cl ⟨0,mk,ly.set (namedP v).1 true,cl,r⟩:=
  ⟨⟨fun _=>h,fun _=>rfl⟩,fun _=>by rw [mkE,if_neg (by omega)],fun _=>by rw [lyE,if_pos h2],fun _=>by rw [clE,if_neg (by omega)],rfl,List.length_set ..,hr,Nat.le_succ _⟩
end
structure SecOk (c:CtV) (kind:Int) (s:Nat):Prop where
  scan:scanE (c.codes.getD s [])=0
  nm:∀ v∈insA (c.codes.getD s []) 0,NmOk c (c.types.getD s default) kind (startsV (c.codes.getD s []).length (insA (c.codes.getD s []) 0)) v
  right:rightV c.types s (c.codes.getD s [])
  hts:heightsV c.types s (c.codes.getD s [])≠none
  most:∀ hs,heightsV c.types s (c.codes.getD s [])=some hs→mostV hs=(c.types.getD s default).most
  ret:(c.types.getD s default).out≠128→(insA (c.codes.getD s []) 0).any (retB c.types)=true
def mkF (b:List Nat) (m:List Bool):List Bool:=(insA b 0).foldl mkE m
def lyF (b:List Nat) (m:List Bool):List Bool:=(insA b 0).foldl lyE m
def clsV (b:List Nat):List Nat:=(insA b 0).foldl clE []
def mksV (c:CtV):List Bool:=c.codes.foldl (fun m b=>mkF b m) (List.replicate c.subs.length false)
def lysV (c:CtV):List Bool:=c.codes.foldl (fun m b=>lyF b m) (List.replicate c.subs.length false)
theorem zfe {α:Type} {l:List α} {i:Nat} {d:α} (h:i < l.length):l.getD i d∈l:=by
  rw [List.getD_eq_getElem?_getD,List.getElem?_eq_getElem h];exact List.getElem_mem h
theorem zeh {α β:Type} [Inhabited α] (f:β→α→β) (b:β) {l:List α} {k:Nat} (h:k < l.length):(l.take (k+1)).foldl f b=f ((l.take k).foldl f b) (l.getD k default):=by
  rw [zcH h,List.foldl_append];rfl
theorem zlK {α:Type} [Inhabited α] (p:α→Bool) {l:List α} {k:Nat} (h:k < l.length):(l.take (k+1)).any p=((l.take k).any p || p (l.getD k default)):=by
  rw [zcH h,List.any_append];simp
structure IsR where
  xs:List Nat
  A:Option Addr
  cap:Nat
instance:Inhabited IsR:=⟨⟨[],none,0⟩⟩
def IsR.cells (x:IsR):List Value:=[.slice x.A x.xs.length x.cap]
theorem IsR.cells_length (x:IsR):x.cells.length=1:=rfl
def rowIs (xs:List IsR):List Value:=xs.flatMap IsR.cells
theorem zcw (xs:List IsR):(rowIs xs).length=xs.length*1:=zaF IsR.cells_length xs
theorem zfv (xs:List IsR) (i:Nat) (h:i < xs.length):(rowIs xs)[0+i*1]?=some (.slice (xs.getD i default).A (xs.getD i default).xs.length (xs.getD i default).cap):=by
  have:=zcF IsR.cells_length xs i 0 h (by decide)
  rw [Nat.add_zero] at this
  rw [Nat.zero_add];exact this
theorem zhx (xs:List IsR) (i:Nat) (h:i < xs.length):(rowIs xs)[i*1]?=some (.slice (xs.getD i default).A (xs.getD i default).xs.length (xs.getD i default).cap):=by
  have:=zfv xs i h
  rwa [Nat.zero_add] at this
theorem znm (xs:List IsR) (i:Nat) (h:i < xs.length) (x:IsR):put (rowIs xs) (0+i*1) [.slice x.A x.xs.length x.cap]=rowIs (xs.set i x):=by
  rw [Nat.zero_add];exact zlx IsR.cells_length xs i h x
theorem zhw (xs:List IsR) (i:Nat) (h:i < xs.length) (a x:IsR):put (rowIs (xs.set i a)) (0+i*1) [.slice x.A x.xs.length x.cap]=rowIs (xs.set i x):=by
  have:=znm (xs.set i a) i (by rw [List.length_set];exact h) x
  rwa [List.set_set] at this
theorem zpd {α:Type} (l:List α) (i:Nat) (x d:α) (h:i < l.length) (e:l.getD i d=x):l.set i x=l:=by
  rw [List.getD_eq_getElem?_getD,List.getElem?_eq_getElem h] at e
  have e:l[i]=x:=e
  rw [← e];exact List.set_getElem_self h
theorem zkF (m:Nat):zeros (.slice none 0 0) m=rowIs (List.replicate m ⟨[],none,0⟩):=by
  unfold zeros
  apply List.ext_getElem?
  intro i
  have hsz:(Value.slice none 0 0).cells.size=1:=rfl
  rw [hsz]
  by_cases hi:i < m*1
  · rw [List.getElem?_map,List.getElem?_range hi]
    have hd:i < (List.replicate m (IsR.mk [] none 0)).length:=by rw [List.length_replicate];omega
    have:=zhx (List.replicate m (IsR.mk [] none 0)) i hd
    rw [Nat.mul_one] at this
    rw [this,List.getD_eq_getElem?_getD,List.getElem?_eq_getElem hd,List.getElem_replicate]
    show some ((Value.slice none 0 0).cells[i%1]!)=_
    rw [Nat.mod_one];rfl
  · rw [List.getElem?_eq_none (by simp;omega),List.getElem?_eq_none (by rw [zcw,List.length_replicate];omega)]
theorem zfd {α:Type} (l:List α) (i:Nat) (x d:α) (h:i < l.length):(l.set i x).getD i d=x:=by
  rw [zbz,if_pos ⟨rfl,h⟩]
def AllIs (W:World) (n:Nat) (B:List (Option Nat)) (ys:List IsR):Prop:=∀ y∈ys,Fit W n B y.A (rowN .i64 y.xs)
theorem AllIs.keep {W w:World} {n:Nat} {B B':List (Option Nat)} {ys:List IsR} (h:AllIs W n B ys) (k:Keep W n B w B'):AllIs w n B' ys:=fun y hy=>k _ _ (h y hy)
theorem AllIs.set {W:World} {n:Nat} {B:List (Option Nat)} {ys:List IsR} {y:IsR} {i:Nat} (h:AllIs W n B ys) (hy:Fit W n B y.A (rowN .i64 y.xs)):AllIs W n B (ys.set i y):=fun z hz=>by
  rcases List.mem_or_eq_of_mem_set hz with q | q
  · exact h z q
  · rw [q];exact hy
theorem AllIs.start {W:World} {n:Nat} {B:List (Option Nat)} {m:Nat}:AllIs W n B (List.replicate m ⟨[],none,0⟩):=fun y hy=>by
  rw [List.eq_of_mem_replicate hy];exact Fit.nil
def judC (c:CtR) (kind:Int) (gm gl gc:Nat):List Value:=
  [.slice c.tA c.types.length c.tC,.slice c.cA c.codes.length c.cC,.slice c.sA c.subs.length c.sC,.slice c.dA c.data.length c.dC,.int .i64 c.size,.int .i64 kind,
    .slice (some ⟨gm,0,none⟩) c.subs.length c.subs.length,.slice (some ⟨gl,0,none⟩) c.subs.length c.subs.length,.slice (some ⟨gc,0,none⟩) c.codes.length c.codes.length]
inductive Reached (cs:Nat→List Nat):Nat→Prop
  | zero:Reached cs 0
  | step {a b:Nat}:Reached cs a→b∈cs a→Reached cs b
structure Dfs (cs:Nat→List Nat) (rd:List Bool) (wk:List Nat):Prop where
  r0:rd.getD 0 false=true
  sound:∀ i,rd.getD i false=true→Reached cs i
  wr:∀ i∈wk,rd.getD i false=true
  closed:∀ i,rd.getD i false=true→i∉wk→∀ j∈cs i,rd.getD j false=true
theorem zar {rd:List Bool} {n i:Nat}:(rd.set n true).getD i false=true↔rd.getD i false=true∨(n=i∧i < rd.length):=by
  rw [zbz]
  split
  · rename_i h;exact ⟨fun _=>.inr h,fun _=>rfl⟩
  · rename_i h;exact ⟨.inl,fun q=>q.elim id (fun q=>absurd q h)⟩
theorem Dfs.push {cs:Nat→List Nat} {rd:List Bool} {wk:List Nat} {i n:Nat} (h:Dfs cs rd (wk++[i])) (hn:n∈cs i) (hl:n < rd.length):Dfs cs (rd.set n true) (wk++[i,n]) where
  r0:=zar.2 (.inl h.r0)
  sound:=fun j hj=>by
    rcases zar.1 hj with q | ⟨q,_⟩
    · exact h.sound j q
    · rw [← q];exact (h.sound i (h.wr i (List.mem_append_right _ List.mem_cons_self))).step hn
  wr:=fun j hj=>by
    rcases List.mem_append.1 hj with q | q
    · exact zar.2 (.inl (h.wr j (List.mem_append_left _ q)))
    · rcases List.mem_cons.1 q with q | q
      · exact zar.2 (.inl (h.wr j (List.mem_append_right _ (by rw [q];exact List.mem_cons_self))))
      · rw [List.mem_singleton.1 q];exact zar.2 (.inr ⟨rfl,hl⟩)
  closed:=fun j hj hw k hk=>by
    rcases zar.1 hj with q | ⟨q,_⟩
    · refine zar.2 (.inl (h.closed j q (fun z=>hw ?_) k hk))
      rcases List.mem_append.1 z with z | z
      · exact List.mem_append_left _ z
      · rw [List.mem_singleton.1 z];exact List.mem_append_right _ List.mem_cons_self
    · exact absurd (List.mem_append_right _ (by rw [q];simp)) hw
theorem Dfs.pop {cs:Nat→List Nat} {rd:List Bool} {wk:List Nat} {i:Nat} (h:Dfs cs rd (wk++[i])) (hi:∀ j∈cs i,rd.getD j false=true):Dfs cs rd wk where
  r0:=h.r0
  sound:=h.sound
  wr:=fun j hj=>h.wr j (List.mem_append_left _ hj)
  closed:=fun j hj hw k hk=>by
    by_cases q:j=i
    · rw [q] at hk;exact hi k hk
    · exact h.closed j hj (fun z=>by
        rcases List.mem_append.1 z with z | z
        · exact hw z
        · exact q (List.mem_singleton.1 z)) k hk
theorem Dfs.all {cs:Nat→List Nat} {rd:List Bool} (h:Dfs cs rd []) (i:Nat):rd.getD i false=true↔Reached cs i:=by
  refine ⟨h.sound i,fun q=>?_⟩
  induction q with
  | zero=>exact h.r0
  | step _ hb ih=>exact h.closed _ ih (by simp) _ hb
theorem Dfs.start {cs:Nat→List Nat} {m:Nat} (hm:0 < m):Dfs cs ((List.replicate m false).set 0 true) [0] where
  r0:=zar.2 (.inr ⟨rfl,by rw [List.length_replicate];exact hm⟩)
  sound:=fun i hi=>by
    rcases zar.1 hi with q | ⟨q,_⟩
    · rw [List.getD_eq_getElem?_getD,List.getElem?_replicate] at q
      split at q<;>simp at q
    · rw [← q];exact .zero
  wr:=fun i hi=>by
    rw [List.mem_singleton.1 hi];exact zar.2 (.inr ⟨rfl,by rw [List.length_replicate];exact hm⟩)
  closed:=fun i hi hw=>by
    rcases zar.1 hi with q | ⟨q,_⟩
    · rw [List.getD_eq_getElem?_getD,List.getElem?_replicate] at q
      split at q<;>simp at q
    · exact absurd (by rw [← q];exact List.mem_cons_self) hw
def unN (rd:List Bool):Nat:=rd.countP (fun b=> !b)
theorem zmK {rd:List Bool} {n:Nat} (h:n < rd.length) (hn:rd.getD n false=false):unN (rd.set n true)+1=unN rd:=by
  unfold unN
  rw [List.countP_set h]
  rw [List.getD_eq_getElem?_getD,List.getElem?_eq_getElem h] at hn
  have hn:rd[n]=false:=hn
  have hp:0 < rd.countP (fun b=> !b):=List.countP_pos_iff.2 ⟨rd[n],List.getElem_mem h,by rw [hn];rfl⟩
  simp [hn];omega
theorem zmJ {m:Nat} (hm:0 < m):unN ((List.replicate m false).set 0 true)+1=m:=by
  rw [zmK (by rw [List.length_replicate];exact hm) (by rw [List.getD_eq_getElem?_getD,List.getElem?_replicate,if_pos hm];rfl)]
  unfold unN;rw [List.countP_replicate];rfl
inductive ValidC:CtV→Int→Prop
  | mk {c:CtV} {kind:Int} (hk:kind=1∨kind=2) (fine:c.Fine) (secs:∀ s,s < c.codes.length→SecOk c kind s) (apart:∀ s,s < c.codes.length→Reached (fun i=>clsV (c.codes.getD i [])) s)
      (idle:∀ i,i < c.subs.length→(mksV c).getD i false=true∨(lysV c).getD i false=true) (both:∀ i,i < c.subs.length→¬ ((mksV c).getD i false=true∧(lysV c).getD i false=true))
      (subs:∀ i,i < c.subs.length→OkP (c.subs.getD i []) ((lysV c).getD i false))
      (deep:∀ i,i < c.subs.length→ValidC (contH (c.subs.getD i [])) (if (lysV c).getD i false=true then 1 else 2)):ValidC c kind
structure NestOk (c:CtV) (mk ly:List Bool):Prop where
  idle:∀ i,i < c.subs.length→mk.getD i false=true∨ly.getD i false=true
  both:∀ i,i < c.subs.length→¬ (mk.getD i false=true∧ly.getD i false=true)
  subs:∀ i,i < c.subs.length→OkP (c.subs.getD i []) (ly.getD i false)
  deep:∀ i,i < c.subs.length→ValidC (contH (c.subs.getD i [])) (if ly.getD i false=true then 1 else 2)
theorem ValidC.nest {c:CtV} {kind:Int} (h:ValidC c kind):NestOk c (mksV c) (lysV c):=by
  cases h with
  | mk hk fine secs apart idle both subs deep=>exact ⟨idle,both,subs,deep⟩
theorem ValidC.fine {c:CtV} {kind:Int} (h:ValidC c kind):(kind=1∨kind=2)∧c.Fine∧(∀ s,s < c.codes.length→SecOk c kind s)∧∀ s,s < c.codes.length→Reached (fun i=>clsV (c.codes.getD i [])) s:=by
  cases h with
  | mk hk fine secs apart idle both subs deep=>exact ⟨hk,fine,secs,apart⟩
theorem ValidC.of {c:CtV} {kind:Int} (hk:kind=1∨kind=2) (fine:c.Fine) (secs:∀ s,s < c.codes.length→SecOk c kind s) (apart:∀ s,s < c.codes.length→Reached (fun i=>clsV (c.codes.getD i [])) s) (h:NestOk c (mksV c) (lysV c)):ValidC c kind:=.mk hk fine secs apart h.idle h.both h.subs h.deep
end Go.Fw
namespace Go.Fw
open Go
section
variable {w0 w:World} {M:List Nat} {l L L':List (Nat×Ent)}
theorem znJ:∀ {L L':List (Nat×Ent)} (h:L.map (·.1)=L'.map (·.1)) {k:Nat} {e:Ent} (he:lk L k=some e),∃ e2,lk L' k=some e2
  | [],[],_,k,e,he=>by cases he
  | [],_::_,h,_,_,_=>by cases h
  | _::_,[],h,_,_,_=>by cases h
  | (a,x)::L,(b,y)::L',h,k,e,he=>by
    simp only [List.map_cons,List.cons.injEq] at h
    obtain ⟨h1,h2⟩:=h
    have h1:a=b:=h1
    subst h1
    rw [zae] at he ⊢
    split at he
    · rename_i q;rw [if_pos q];exact ⟨y,rfl⟩
    · rename_i q;rw [if_neg q];exact znJ h2 he
theorem zki (hk:keysB L=true) (hs:Sub L l) (h:L.map (·.1)=L'.map (·.1)):∀ g∈idsN L,∃ k e e2,lk l k=some e∧e.id=some g∧lk L' k=some e2:=fun g hg=>by
  obtain ⟨k,e,he,hid⟩:=zcQ hk (zba.1 hg)
  obtain ⟨e2,h2⟩:=znJ h he
  exact ⟨k,e,e2,hs _ _ he,hid,h2⟩
theorem zdo {n:Nat} {B:List (Option Nat)} {g:Nat} {t:TypeId} {cs:List Value} {j:Nat} (hw:WS w0 M l w) (hl:lk l j=some ⟨some g,t,cs⟩) (hB:∀ g,some g∈B→(g < w0.heap.size∧g∉M)∨∃ k e,lk l k=some e∧k≠j∧e.id=some g):Fit w n B (some ⟨g,0,none⟩) cs:=
  zbC (r:=⟨some g,0,[]⟩) (t:=t) hw (hl.trans (by simp [RowIx.ent])) hB
theorem zdq {B:List (Option Nat)} {l1:List (Nat×Ent)} {j:Nat} (hB:∀ g,some g∈B→g < w0.heap.size) (hm:∀ g∈M,∃ k e,lk l1 k=some e∧e.id=some g) (hs:Sub l1 l) (hk:keysB l1=true) (hj:lk l1 j=none):∀ g,some g∈B++ids l1→(g < w0.heap.size∧g∉M)∨∃ k e,lk l k=some e∧k≠j∧e.id=some g:=fun g hg=>by
  have hof:∀ {k:Nat} {e:Ent},lk l1 k=some e→e.id=some g→(g < w0.heap.size∧g∉M)∨∃ k e,lk l k=some e∧k≠j∧e.id=some g:=fun {k e} h1 h2=>.inr ⟨k,e,hs _ _ h1,(fun q=>by rw [q,hj] at h1;cases h1),h2⟩
  by_cases hgM:g∈M
  · obtain ⟨k,e,h1,h2⟩:=hm g hgM
    exact hof h1 h2
  · rcases List.mem_append.1 hg with q | q
    · exact .inl ⟨hB g q,hgM⟩
    · obtain ⟨k,e,h1,h2⟩:=zcQ hk q
      exact hof h1 h2
theorem zdh (hk:keysB L=true):∀ g∈idsN L,∃ k e,lk L k=some e∧e.id=some g:=fun g hg=>zcQ hk (zba.1 hg)
end
theorem zpD {o a b c d e f:Option Nat} (h:o∈[a,b,c,d,e]):o∈[a,b,c,d,e,f]:=by
  simp only [List.mem_cons,List.not_mem_nil,or_false] at h ⊢
  rcases h with h | h | h | h | h<;>simp [h]
structure SeQ where
  e:Int
  at_:Int
  mm:List Bool
  ly:List Bool
  cl:List Nat
  A:Option Addr
  cap:Nat
structure SeQ.Ok (c:CtV) (kind:Int) (s:Nat) (mk ly:List Bool) (q:SeQ):Prop where
  iff:q.e=0↔SecOk c kind s
  mm_:q.e=0→q.mm=mkF (c.codes.getD s []) mk
  ly_:q.e=0→q.ly=lyF (c.codes.getD s []) ly
  cl_:q.e=0→q.cl=clsV (c.codes.getD s [])
  lm:q.mm.length=mk.length
  ll:q.ly.length=ly.length
  lc:q.cl.length≤1000000
  cc:q.e=0→∀ n∈q.cl,n < c.types.length
theorem ziQ {c:CtV} {kind:Int} {s:Nat} {mk ly mm l2:List Bool} {e at_:Int} {cl:List Nat} {A:Option Addr} {cap:Nat} (h:¬ SecOk c kind s) (he:e≠0) (h1:mm.length=mk.length) (h2:l2.length=ly.length) (h3:cl.length≤1000000):SeQ.Ok c kind s mk ly ⟨e,at_,mm,l2,cl,A,cap⟩:=
  ⟨⟨fun q=>absurd q he,fun q=>absurd q h⟩,fun q=>absurd q he,fun q=>absurd q he,fun q=>absurd q he,h1,h2,h3,fun q=>absurd q he⟩
theorem zsK (l:List Nat) (v:InV):(clE l v).length≤l.length+1:=by
  unfold clE;split
  · rw [List.length_append];exact Nat.le_refl _
  · omega
theorem zsL {l:List Nat} {v:InV} {m:Nat} (h:∀ n∈l,n < m) (hv:v.code=227∨v.code=229→(namedP v).1 < m):∀ n∈clE l v,n < m:=by
  unfold clE;split
  · rename_i q
    intro n hn
    rcases List.mem_append.1 hn with z | z
    · exact h n z
    · rw [List.mem_singleton.1 z];exact hv q
  · exact h
theorem ztw {types:List TyV} {v:InV} (h:v.code=228∨v.code=229∧(calleeV types v).out≠128):retB types v=true:=decide_eq_true h
theorem ztx {types:List TyV} {v:InV} (h:¬ (v.code=228∨v.code=229∧(calleeV types v).out≠128)):retB types v=false:=decide_eq_false h
theorem zmw (c:CtR) {s:Nat} (h:s < c.codes.length):c.v.codes.getD s []=(c.codes.getD s default).b:=by
  show (c.codes.map ByR.b).getD s []=_
  rw [List.getD_eq_getElem?_getD,List.getD_eq_getElem?_getD,List.getElem?_map,List.getElem?_eq_getElem h];rfl
theorem zmR (c:CtR) {s:Nat} (h:s < c.subs.length):c.v.subs.getD s []=(c.subs.getD s default).b:=by
  show (c.subs.map ByR.b).getD s []=_
  rw [List.getD_eq_getElem?_getD,List.getD_eq_getElem?_getD,List.getElem?_map,List.getElem?_eq_getElem h];rfl
theorem znB {v:InV} (h:v.Fine):(namedP v).1 < 65536:=by
  have h0:=h.dg.getD 0
  have h1:=zla h.dg
  unfold namedP
  split
  · exact h1
  · split
    · show v.imm.getD 0 0 < 65536;omega
    · decide
theorem bTrue {b:Bool} (h:¬ b=false):b=true:=by cases b;exact absurd rfl h;rfl
theorem zon {bs:List Nat}:∀ {a:Nat} {ns:List Nat} {p:List Nat},p∈cutH bs a ns→p.length≤bs.length - a
  | _,[],_,h=>by cases h
  | a,n::ns,p,h=>by
    rcases List.mem_cons.1 h with h | h
    · rw [h,List.length_take,List.length_drop];omega
    · have:=zon h;omega
theorem zjE {bs:List Nat} {op:Bool} (q:OkP bs op):∀ p∈(contH bs).subs,p.length < bs.length:=fun p hp=>by
  have h1:=zon hp
  have h2:=zde q
  omega
theorem zgS {x:CtR} {bs:List Nat} {op:Bool} (h:x.v=contH bs) (q:OkP bs op):x.codes.length≤1000000000∧x.subs.length≤1000000000∧x.types.length≤1000000000:=by
  have h2:=zde q
  have e1:x.codes.length=x.v.codes.length:=(List.length_map ..).symm
  have e2:x.subs.length=x.v.subs.length:=(List.length_map ..).symm
  have e3:x.types.length=x.v.types.length:=rfl
  have f1:(contH bs).codes.length=nH bs:=by
    show (cutH bs _ (codesH bs)).length=_
    rw [zeE,codesH,List.length_map,List.length_range]
  have f2:(contH bs).subs.length=mH bs:=by
    show (cutH bs _ (subsH bs)).length=_
    rw [zeE,subsH,List.length_map,List.length_range]
  have f3:(contH bs).types.length=nH bs:=by
    show ((List.range (nH bs)).map _).length=_
    rw [List.length_map,List.length_range]
  have hm:mH bs≤256:=by
    by_cases hk:kindH bs=3
    · exact (q.sb hk).2.1
    · rw [zsd hk];exact Nat.zero_le _
  rw [e1,e2,e3,h,f1,f2,f3]
  omega
def RjR.Okm (m:Nat) (W:World) (n:Nat) (B:List (Option Nat)) (x:RjR):Prop:=x.path.length≤m∧Fit W n B x.A (rowI .i64 x.path)
theorem RjR.Okm.keep {m:Nat} {W w:World} {n:Nat} {B B':List (Option Nat)} {x:RjR} (h:x.Okm m W n B) (k:Keep W n B w B'):x.Okm m w n B':=⟨h.1,k _ _ h.2⟩
theorem zfI {m:Nat} {W:World} {n:Nat} {B:List (Option Nat)} (c s a:Int):(RjR.mk c [] s a none 0).Okm m W n B:=⟨Nat.zero_le _,Fit.nil⟩
theorem clsV_nil:clsV []=[]:=rfl
theorem zor {c:CtV} {ys:List IsR} (hl:ys.length=c.codes.length) (h:∀ q,q < c.codes.length→(ys.getD q default).xs=clsV (c.codes.getD q [])):(fun i=>(ys.getD i default).xs)=fun i=>clsV (c.codes.getD i []):=by
  funext i
  by_cases hi:i < c.codes.length
  · exact h i hi
  · rw [List.getD_eq_getElem?_getD,List.getD_eq_getElem?_getD,List.getElem?_eq_none (by omega),List.getElem?_eq_none (by omega)]
    exact clsV_nil.symm
theorem ziE {c:CtV} {kind:Int} (hk:kind=1∨kind=2) (fine:c.Fine) (secs:∀ s,s < c.codes.length→SecOk c kind s) (apart:∀ s,s < c.codes.length→Reached (fun i=>clsV (c.codes.getD i [])) s):NestOk c (mksV c) (lysV c)↔ValidC c kind:=
  ⟨fun h=>.of hk fine secs apart h,fun h=>h.nest⟩
theorem zlo {α:Type} (m:Nat) (x:α) {i:Nat}:(List.replicate m x).getD i x=x:=by
  rw [List.getD_eq_getElem?_getD,List.getElem?_replicate];split<;>rfl
theorem zdj {β:Type} (f:β→List Nat→β) (b:β) {l:List (List Nat)} {k:Nat} (h:k < l.length):(l.take (k+1)).foldl f b=f ((l.take k).foldl f b) (l.getD k []):=zeh f b h
theorem slc0 (A:Option Addr) (n c:Nat):Value.slice (if c=0 then A else Option.map (fun x=>x.add (0*1)) A) (n - 0) (c - 0)=.slice A n c:=by
  have:(if c=0 then A else Option.map (fun x=>x.add (0*1)) A)=A:=by
    split
    · rfl
    · cases A with
      | none=>rfl
      | some a=>rfl
  rw [this];rfl
theorem zpu {l:List Nat} {b:Nat} (h:b∈l):∃ q,q < l.length∧l.getD q 0=b:=by
  obtain ⟨q,hq,rfl⟩:=List.mem_iff_getElem.1 h
  exact ⟨q,hq,by rw [List.getD_eq_getElem?_getD,List.getElem?_eq_getElem hq];rfl⟩
theorem zjN (g:Nat) (x:Nat):(RowIx.mk (some g) 1 []).Ok 1 [x].length:=⟨Nat.le_refl _,(by show 1≤maxLen;unfold maxLen;decide),rfl,(fun q=>by cases q),(fun u hu=>by cases hu)⟩
theorem zrF {α:Type} {l:List α} (h:0 < l.length):∃ l2 i,l=l2++[i]:=by
  have hne:l≠[]:=fun q=>by rw [q] at h;simp at h
  exact ⟨l.dropLast,l.getLast hne,(List.dropLast_concat_getLast hne).symm⟩
theorem znH {α:Type} (l:List α) (i:α) (h:l.length≤1000000000):IntKind.i64.wrap ((((l++[i]).length:Nat):Int) - 1)=((l.length:Nat):Int):=by
  rw [List.length_append]
  show IntKind.i64.wrap (((l.length+1:Nat):Int) - 1)=_
  rw [zai _ (by omega)];omega
theorem zpy (l:List Nat) (i:Nat) (sp:List Value):(rowN .i64 (l++[i])++sp)[l.length*1]?=some (.int .i64 ((i:Nat):Int)):=by
  rw [Nat.mul_one,List.getElem?_append_left (by rw [zap,List.length_append];show l.length < l.length+1;omega)]
  simp [rowN]
theorem zty {r:RowIx} {xs:List Nat} {x:Nat} (h:r.Ok 1 (xs++[x]).length):(RowIx.mk r.id r.cap (.int .i64 ((x:Nat):Int)::r.sp)).Ok 1 xs.length:=by
  obtain ⟨h1,h2,h3,h4,h5⟩:=h
  rw [List.length_append] at h1 h3
  have hx:[x].length=1:=rfl
  refine ⟨by show _≤r.cap;omega,h2,?_,h4,fun u hu=>?_⟩
  · show xs.length*1+(_::r.sp).length=r.cap*1
    rw [List.length_cons];omega
  · rcases List.mem_cons.1 hu with q | q
    · rw [q];rfl
    · exact h5 u q
theorem zrT {r:RowIx} {xs:List Nat} {x:Nat} {t:TypeId}:r.ent t (rowN .i64 (xs++[x]))=(RowIx.mk r.id r.cap (.int .i64 ((x:Nat):Int)::r.sp)).ent t (rowN .i64 xs):=by
  unfold RowIx.ent
  congr 1
  simp [rowN]
end Go.Fw
namespace Go.Fw
open Go
def ValidB (bs:List Nat) (kind:Int):Prop:=OkP bs false∧ValidC (contH bs) kind
def riseV (l:List (Nat×Nat)):Prop:=∀ q,0 < q→q < l.length→(l.getD (q - 1) default).1 < (l.getD q default).1
def fullV (l:List (Nat×Nat)):Prop:=∀ q,q < l.length→(l.getD q default).2≠0
open Classical in
noncomputable def lookV (a:AV):Int:=
  if a.nonce=0∧a.bal=0∧a.code.length=0 then 111
  else if a.code.length=0∧0 < a.sl.length then 112
  else if ¬ riseV a.sl then 110
  else if ¬ fullV a.sl then 111
  else if a.code.length=0 then 0
  else if 24576 < a.code.length then 113
  else if ValidB a.code 1 then 0 else 113
theorem zqF {a:AV} (h:a.nonce=0∧a.bal=0∧a.code.length=0):lookV a=111:=if_pos h
section
variable {a:AV} (h1:¬ (a.nonce=0∧a.bal=0∧a.code.length=0))
include h1
theorem zqE (h2:a.code.length=0∧0 < a.sl.length):lookV a=112:=by unfold lookV;rw [if_neg h1,if_pos h2]
variable (h2:¬ (a.code.length=0∧0 < a.sl.length))
include h2
theorem zqD (h3:¬ riseV a.sl):lookV a=110:=by unfold lookV;rw [if_neg h1,if_neg h2,if_pos h3]
variable (h3:riseV a.sl)
include h3
theorem zqC (h4:¬ fullV a.sl):lookV a=111:=by unfold lookV;rw [if_neg h1,if_neg h2,if_neg (fun q=>q h3),if_pos h4]
variable (h4:fullV a.sl)
include h4
theorem zqB (h5:a.code.length=0):lookV a=0:=by unfold lookV;rw [if_neg h1,if_neg h2,if_neg (fun q=>q h3),if_neg (fun q=>q h4),if_pos h5]
variable (h5:¬ a.code.length=0)
include h5
theorem ztH (h6:24576 < a.code.length):lookV a=113:=by unfold lookV;rw [if_neg h1,if_neg h2,if_neg (fun q=>q h3),if_neg (fun q=>q h4),if_neg h5,if_pos h6]
variable (h6:¬ 24576 < a.code.length)
include h6
theorem ztG (h7:¬ ValidB a.code 1):lookV a=113:=by unfold lookV;rw [if_neg h1,if_neg h2,if_neg (fun q=>q h3),if_neg (fun q=>q h4),if_neg h5,if_neg h6,if_neg h7]
theorem ztF (h7:ValidB a.code 1):lookV a=0:=by unfold lookV;rw [if_neg h1,if_neg h2,if_neg (fun q=>q h3),if_neg (fun q=>q h4),if_neg h5,if_neg h6,if_pos h7]
end
theorem zjd {a:AV} (h:lookV a=0):¬ (a.nonce=0∧a.bal=0∧a.code.length=0)∧riseV a.sl∧fullV a.sl:=by
  by_cases h1:a.nonce=0∧a.bal=0∧a.code.length=0
  · rw [zqF h1] at h;cases h
  by_cases h2:a.code.length=0∧0 < a.sl.length
  · rw [zqE h1 h2] at h;cases h
  by_cases h3:riseV a.sl
  · by_cases h4:fullV a.sl
    · exact ⟨h1,h3,h4⟩
    · rw [zqC h1 h2 h3 h4] at h;cases h
  · rw [zqD h1 h2 h3] at h;cases h
def backW (p:Option Nat) (a:AV):Prop:=∃ q,p=some q∧a.who≤q
open Classical in
noncomputable def scanW:Option Nat→Nat→List AV→Int×Int
  | _,_,[]=>(0,0)
  | p,i,a::l=>if backW p a then (110,(i:Int)) else if lookV a≠0 then (lookV a,(i:Int)) else scanW (some a.who) (i+1) l
section
variable {p:Option Nat} {i:Nat} {a:AV} {l:List AV}
theorem zqv (h:backW p a):scanW p i (a::l)=(110,(i:Int)):=by rw [scanW,if_pos h]
theorem zqu (h:¬ backW p a) (h2:lookV a≠0):scanW p i (a::l)=(lookV a,(i:Int)):=by rw [scanW,if_neg h,if_pos h2]
theorem zqt (h:¬ backW p a) (h2:lookV a=0):scanW p i (a::l)=scanW (some a.who) (i+1) l:=by rw [scanW,if_neg h,if_neg (fun q=>q h2)]
end
def sumW:Nat→Nat→List AV→Int×Int
  | _,_,[]=>(0,0)
  | s,i,a::l=>if s+a.bal < 2^256 then sumW (s+a.bal) (i+1) l else (114,(i:Int))
noncomputable def ckV (l:List AV):Int×Int:=if (scanW none 0 l).1≠0 then scanW none 0 l else sumW 0 0 l
def okW (l:List AV) (q:Nat):Prop:=(0 < q→(l.getD (q - 1) default).who < (l.getD q default).who)∧lookV (l.getD q default)=0
def prevW (l:List AV) (i:Nat):Option Nat:=if i=0 then none else some (l.getD (i - 1) default).who
theorem zfk {l:List AV} {i:Nat} (h:i < l.length):l.drop i=l.getD i default::l.drop (i+1):=by
  rw [List.getD_eq_getElem?_getD,List.getElem?_eq_getElem h];exact List.drop_eq_getElem_cons h
theorem zjP {l:List AV} {i:Nat}:backW (prevW l i) (l.getD i default)↔0 < i∧(l.getD i default).who≤(l.getD (i - 1) default).who:=by
  unfold prevW
  by_cases h:i=0
  · rw [if_pos h]
    exact ⟨fun ⟨q,hq,_⟩=>(by cases hq),fun z=>(by omega)⟩
  · rw [if_neg h]
    exact ⟨fun ⟨q,hq,hz⟩=>(by cases hq;exact ⟨by omega,hz⟩),fun z=>⟨_,rfl,z.2⟩⟩
theorem zhU {l:List AV}:∀ (i:Nat),i≤l.length→(∀ q,q < i→okW l q)→scanW none 0 l=scanW (prevW l i) i (l.drop i)
  | 0,_,_=>rfl
  | i+1,hi,h=>by
    obtain ⟨h1,h2⟩:=h i (by omega)
    rw [zhU i (by omega) (fun q hq=>h q (by omega)),zfk (by omega),zqt (fun q=>by have:=zjP.1 q;have:=h1 this.1;omega) h2]
    rfl
theorem zuA {l:List AV} {i:Nat} (hi:i < l.length) (h:∀ q,q < i→okW l q) (h0:0 < i) (hn:(l.getD i default).who≤(l.getD (i - 1) default).who):ckV l=(110,(i:Int)):=by
  have e:scanW none 0 l=(110,(i:Int)):=by
    rw [zhU i (Nat.le_of_lt hi) h,zfk hi,zqv (zjP.2 ⟨h0,hn⟩)]
  unfold ckV;rw [e,if_pos (show (110:Int)≠0 by decide)]
theorem zsM {l:List AV} {i:Nat} (hi:i < l.length) (h:∀ q,q < i→okW l q) (h0:0 < i→(l.getD (i - 1) default).who < (l.getD i default).who) (hn:lookV (l.getD i default)≠0):ckV l=(lookV (l.getD i default),(i:Int)):=by
  have e:scanW none 0 l=(lookV (l.getD i default),(i:Int)):=by
    rw [zhU i (Nat.le_of_lt hi) h,zfk hi,zqu (fun q=>by have:=zjP.1 q;have:=h0 this.1;omega) hn]
  unfold ckV;rw [e,if_pos hn]
theorem zkM {l:List AV} (h:∀ q,q < l.length→okW l q):scanW none 0 l=(0,0):=by
  rw [zhU _ (Nat.le_refl _) h,List.drop_length];rfl
def balW (l:List AV) (j:Nat):Nat:=((l.take j).map AV.bal).sum
theorem zfl {l:List AV} {j:Nat} (hj:j < l.length):balW l (j+1)=balW l j+(l.getD j default).bal:=by
  unfold balW
  rw [List.take_succ_eq_append_getElem hj,List.map_append,List.sum_append,List.getD_eq_getElem?_getD,List.getElem?_eq_getElem hj]
  simp
theorem zmP {l:List AV}:∀ (j:Nat),j≤l.length→(∀ q,q < j→balW l (q+1) < 2^256)→sumW 0 0 l=sumW (balW l j) j (l.drop j)
  | 0,_,_=>rfl
  | j+1,hj,h=>by
    have h1:=h j (by omega)
    rw [zfl (by omega)] at h1
    rw [zmP j (by omega) (fun q hq=>h q (by omega)),zfk (by omega),sumW,if_pos h1,← zfl (by omega)]
theorem zuz {l:List AV} (h:∀ q,q < l.length→okW l q) {j:Nat} (hj:j < l.length) (hs:∀ q,q < j→balW l (q+1) < 2^256) (hn:¬ balW l j+(l.getD j default).bal < 2^256):ckV l=(114,(j:Int)):=by
  unfold ckV
  rw [zkM h,if_neg (fun q=>q rfl),zmP j (Nat.le_of_lt hj) hs,zfk hj]
  rw [sumW,if_neg hn]
theorem zos {l:List AV} (h:∀ q,q < l.length→okW l q) (hs:∀ q,q < l.length→balW l (q+1) < 2^256):ckV l=(0,0):=by
  unfold ckV
  rw [zkM h,if_neg (fun q=>q rfl),zmP _ (Nat.le_refl _) hs,List.drop_length];rfl
theorem znc:∀ (l:List AV) (p:Option Nat) (i:Nat),(scanW p i l).1=0→l.Pairwise (fun a b=>a.who < b.who)∧(∀ a∈l,lookV a=0)∧∀ q,p=some q→∀ a∈l,q < a.who
  | [],_,_,_=>⟨List.Pairwise.nil,(fun a h=>nomatch h),fun q _ a h=>nomatch h⟩
  | a::l,p,i,h=>by
    by_cases h1:backW p a
    · rw [zqv h1] at h;cases h
    by_cases h2:lookV a=0
    · rw [zqt h1 h2] at h
      obtain ⟨h3,h4,h5⟩:=znc l _ _ h
      have h6:=h5 a.who rfl
      refine ⟨List.pairwise_cons.2 ⟨h6,h3⟩,fun x hx=>?_,fun q hq x hx=>?_⟩
      · rcases List.mem_cons.1 hx with rfl | hx
        · exact h2
        · exact h4 x hx
      · have h7:q < a.who:=Nat.lt_of_not_le (fun z=>h1 ⟨q,hq,z⟩)
        rcases List.mem_cons.1 hx with rfl | hx
        · exact h7
        · exact Nat.lt_trans h7 (h6 x hx)
    · rw [zqu h1 h2] at h;exact absurd h h2
theorem zhz:∀ {l:List (Nat×Nat)},riseV l→l.Pairwise (fun a b=>a.1 < b.1)
  | [],_=>List.Pairwise.nil
  | [a],_=>List.pairwise_singleton _ _
  | a::b::l,h=>by
    have h1:riseV (b::l):=fun q h0 hq=>by
      have:=h (q+1) (by omega) (by rw [List.length_cons];omega)
      cases q with
      | zero=>omega
      | succ q=>simpa using this
    have h2:=zhz h1
    have h3:a.1 < b.1:=by simpa using h 1 (by omega) (by simp)
    refine List.pairwise_cons.2 ⟨fun x hx=>?_,h2⟩
    rcases List.mem_cons.1 hx with rfl | hx
    · exact h3
    · exact Nat.lt_trans h3 ((List.pairwise_cons.1 h2).1 x hx)
theorem ck_wf {l:List AV} (hv:WdV l) (h:(ckV l).1=0):WfL l:=by
  have e:(scanW none 0 l).1=0:=by
    unfold ckV at h
    split at h
    · exact h
    · rename_i q;exact Decidable.not_not.1 q
  obtain ⟨h1,h2,_⟩:=znc _ _ _ e
  refine ⟨h1,fun a ha=>?_,fun a ha hz=>?_⟩
  · obtain ⟨_,h4,h5⟩:=zjd (h2 a ha)
    refine ⟨(hv a ha).1,zhz h4,fun s hs=>⟨(hv a ha).2 s hs,?_⟩⟩
    obtain ⟨q,hq,rfl⟩:=List.mem_iff_getElem.1 hs
    have:=h5 q hq
    rwa [List.getD_eq_getElem?_getD,List.getElem?_eq_getElem hq] at this
  · obtain ⟨h3,_,_⟩:=zjd (h2 a ha)
    obtain ⟨z1,z2,z3,_⟩:=hz
    exact h3 ⟨z1,z2,by rw [z3];rfl⟩
theorem zpv {b:Nat} (h:b≠0):lookV ⟨0,0,b,[],[]⟩=0:=
  zqB (fun q=>h q.2.1) (fun q=>absurd q.2 (by simp)) (fun q _ hq=>absurd hq (Nat.not_lt_zero q)) (fun q hq=>absurd hq (Nat.not_lt_zero q)) rfl
theorem zri {b:Nat} (h:b≠0) (hb:b < 2^256):(ckV [⟨0,0,b,[],[]⟩]).1=0:=by
  rw [zos (fun q hq=>?_) (fun q hq=>?_)]
  · obtain rfl:q=0:=by simp at hq;exact hq
    exact ⟨fun z=>absurd z (Nat.lt_irrefl 0),zpv h⟩
  · obtain rfl:q=0:=by simp at hq;exact hq
    rw [zfl (by simp)]
    show 0+b < _
    omega
theorem ck_s {P:Program} {f:FuncId} (h:CkOk P f ckV):CkS P f ckV:=⟨h,fun l hv h0=>ck_wf hv h0,by rfl,zri (by decide) (by decide),zri (by decide) (by decide)⟩
theorem zfp (xs:List Sl) {q:Nat} (h:q < xs.length):(xs.map Sl.v).getD q default=(xs.getD q default).v:=by
  rw [List.getD_eq_getElem?_getD,List.getD_eq_getElem?_getD,List.getElem?_map,List.getElem?_eq_getElem h];rfl
theorem zdt (xs:List Ac) {q:Nat} (h:q < xs.length):(xs.map Ac.v).getD q default=(xs.getD q default).v:=by
  rw [List.getD_eq_getElem?_getD,List.getD_eq_getElem?_getD,List.getElem?_map,List.getElem?_eq_getElem h];rfl
theorem zeT {xs:List Sl} (h:∀ q,0 < q→q < xs.length→(xs.getD (q - 1) default).key%2^256 < (xs.getD q default).key%2^256):riseV (xs.map Sl.v):=fun q h0 hq=>by
  rw [List.length_map] at hq
  rw [zfp xs hq,zfp xs (by omega)];exact h q h0 hq
theorem zrO {xs:List Sl} {q:Nat} (h0:0 < q) (hq:q < xs.length) (hn:¬ (xs.getD (q - 1) default).key%2^256 < (xs.getD q default).key%2^256):¬ riseV (xs.map Sl.v):=fun z=>by
  have:=z q h0 (by rw [List.length_map];exact hq)
  rw [zfp xs hq,zfp xs (by omega)] at this
  exact hn this
theorem zfX {xs:List Sl} (h:∀ q,q < xs.length→(xs.getD q default).val%2^256≠0):fullV (xs.map Sl.v):=fun q hq=>by
  rw [List.length_map] at hq
  rw [zfp xs hq];exact h q hq
theorem zsz {xs:List Sl} {q:Nat} (hq:q < xs.length) (hn:(xs.getD q default).val%2^256=0):¬ fullV (xs.map Sl.v):=fun z=>by
  have:=z q (by rw [List.length_map];exact hq)
  rw [zfp xs hq] at this
  exact this hn
theorem lookB {a:Ac} (h2:¬ (a.code.length=0∧0 < a.sl.length)):¬ (a.v.code.length=0∧0 < a.v.sl.length):=fun q=>h2 ⟨q.1,by have:=q.2;rwa [show a.v.sl.length=a.sl.length from List.length_map ..] at this⟩
section
variable {a:Ac}
theorem zsl (h:a.nonce=0∧a.bal%2^256=0∧a.code.length=0):lookV a.v=111:=zqF h
variable (h1:¬ (a.nonce=0∧a.bal%2^256=0∧a.code.length=0))
include h1
theorem zsk (h2:a.code.length=0∧0 < a.sl.length):lookV a.v=112:=zqE h1 ⟨h2.1,by show 0 < (a.sl.map Sl.v).length;rw [List.length_map];exact h2.2⟩
variable (h2:¬ (a.code.length=0∧0 < a.sl.length))
include h2
theorem zsj {q:Nat} (h0:0 < q) (hq:q < a.sl.length) (hn:¬ (a.sl.getD (q - 1) default).key%2^256 < (a.sl.getD q default).key%2^256):lookV a.v=110:=zqD h1 (lookB h2) (zrO h0 hq hn)
variable (h3:∀ q,q < a.sl.length→0 < q→(a.sl.getD (q - 1) default).key%2^256 < (a.sl.getD q default).key%2^256)
include h3
theorem zsi {q:Nat} (hq:q < a.sl.length) (hn:(a.sl.getD q default).val%2^256=0):lookV a.v=111:=zqC h1 (lookB h2) (zeT fun q h0 hq=>h3 q hq h0) (zsz hq hn)
variable (h4:∀ q,q < a.sl.length→(a.sl.getD q default).val%2^256≠0)
include h4
theorem zsh (h5:a.code.length=0):lookV a.v=0:=zqB h1 (lookB h2) (zeT fun q h0 hq=>h3 q hq h0) (zfX h4) h5
variable (h5:¬ a.code.length=0)
include h5
theorem zsg (h6:24576 < a.code.length):lookV a.v=113:=ztH h1 (lookB h2) (zeT fun q h0 hq=>h3 q hq h0) (zfX h4) h5 h6
variable (h6:¬ 24576 < a.code.length)
include h6
theorem zsf {x:Int} (h7:x=0↔((1:Int)=1∨(1:Int)=2)∧ValidB a.code 1) (h8:x≠0):lookV a.v=113:=ztG h1 (lookB h2) (zeT fun q h0 hq=>h3 q hq h0) (zfX h4) h5 h6 (fun q=>h8 (h7.2 ⟨.inl rfl,q⟩))
theorem zse {x:Int} (h7:x=0↔((1:Int)=1∨(1:Int)=2)∧ValidB a.code 1) (h8:x=0):lookV a.v=0:=ztF h1 (lookB h2) (zeT fun q h0 hq=>h3 q hq h0) (zfX h4) h5 h6 (h7.1 h8).2
end
def hdC (A:Option Addr) (m cp:Nat) (c:CtR) (kind:Int) (g:Nat):List Value:=.slice A m cp::(c.cells++[.int .i64 kind,.slice (some ⟨g,0,none⟩) c.codes.length c.codes.length])
theorem zqz {xs:List Ac} {i:Nat} (hi:i < xs.length) (h0:0 < i→(xs.getD (i - 1) default).who%256^20 < (xs.getD i default).who%256^20) (h:lookV (xs.getD i default).v=0):okW (xs.map Ac.v) i:=
  ⟨fun z=>by rw [zdt xs hi,zdt xs (by omega)];exact h0 z,by rw [zdt xs hi];exact h⟩
theorem zql {xs:List Ac} {j s:Nat} (hj:j < xs.length) (hs:s=balW (xs.map Ac.v) j):sumN [s,(xs.getD j default).bal]=s%2^256+(xs.getD j default).bal%2^256:=by
  simp [sumN]
theorem zqm {xs:List Ac} {j:Nat} (hj:j < xs.length):balW (xs.map Ac.v) (j+1)=balW (xs.map Ac.v) j+(xs.getD j default).bal%2^256:=by
  rw [zfl (by rw [List.length_map];exact hj),zdt xs hj];rfl
theorem zoq {a b:Nat}:cmpZ a b≥0↔b≤a:=by unfold cmpZ;split<;>(try split)<;>omega
theorem zpo (m:Nat):(zeros (.pointer none) m).length=m:=by unfold zeros;rw [List.length_map,List.length_range];exact Nat.mul_one m
theorem zpn (m:Nat):∀ u∈zeros (.pointer none) m,u.oneCell'=true:=fun u hu=>by
  unfold zeros at hu
  obtain ⟨i,hi,rfl⟩:=List.mem_map.1 hu
  rw [show (Value.pointer none).cells.size=1 from rfl,Nat.mod_one];rfl
section
variable {xs:List Ac}
theorem zsO {i:Nat} (hi:i < xs.length) (h:∀ q,q < i→okW (xs.map Ac.v) q) (h0:0 < i) (hn:(xs.getD i default).who%256^20≤(xs.getD (i - 1) default).who%256^20):ckV (xs.map Ac.v)=(110,((i:Nat):Int)):=
  zuA (by rw [List.length_map];exact hi) h h0 (by rw [zdt xs hi,zdt xs (by omega)];exact hn)
theorem zqe {i:Nat} (hi:i < xs.length) (h:∀ q,q < i→okW (xs.map Ac.v) q) (h0:0 < i→(xs.getD (i - 1) default).who%256^20 < (xs.getD i default).who%256^20) (hn:lookV (xs.getD i default).v≠0):ckV (xs.map Ac.v)=(lookV (xs.getD i default).v,((i:Nat):Int)):=by
  rw [← zdt xs hi] at hn ⊢
  exact zsM (by rw [List.length_map];exact hi) h (fun z=>by rw [zdt xs hi,zdt xs (by omega)];exact h0 z) hn
theorem zuC {j:Nat} (hs:∀ q,q < j→balW (xs.map Ac.v) (q+1) < 2^256):balW (xs.map Ac.v) j < 2^256:=by
  cases j with
  | zero=>exact Nat.two_pow_pos 256
  | succ j=>exact hs j (Nat.lt_succ_self j)
theorem zkx {j:Nat} (hj:j < xs.length) (hs:∀ q,q < j→balW (xs.map Ac.v) (q+1) < 2^256):sumN [balW (xs.map Ac.v) j,(xs.getD j default).bal]=balW (xs.map Ac.v) (j+1):=by
  rw [zql hj rfl,zqm hj,Nat.mod_eq_of_lt (zuC hs)]
theorem zsN (h:∀ q,q < xs.length→okW (xs.map Ac.v) q) {j:Nat} (hj:j < xs.length) (hs:∀ q,q < j→balW (xs.map Ac.v) (q+1) < 2^256) (hn:¬ balW (xs.map Ac.v) (j+1) < 2^256):ckV (xs.map Ac.v)=(114,((j:Nat):Int)):=
  zuz (fun q hq=>h q (by rwa [List.length_map] at hq)) (by rw [List.length_map];exact hj) hs (by rw [← zfl (by rw [List.length_map];exact hj)];exact hn)
theorem zqf (h:∀ q,q < xs.length→okW (xs.map Ac.v) q) (hs:∀ q,q < xs.length→balW (xs.map Ac.v) (q+1) < 2^256):ckV (xs.map Ac.v)=(0,0):=
  zos (fun q hq=>h q (by rwa [List.length_map] at hq)) (fun q hq=>hs q (by rwa [List.length_map] at hq))
end
theorem zsX {w:World} {n:Nat} {B:List (Option Nat)} {xs:List Ac} (h:AllA w n B xs):AllA w w.heap.size [] xs:=fun a ha=>by
  have q:=h a ha
  exact ⟨q.hn,q.dC,q.lc,q.ls,zlz q.fc.cs,zlz q.fs.cs⟩
end Go.Fw
namespace Go.Fz
open Go Go.Fw Go.Proofs.Tryz
theorem zbB:FldT prog 168 1 3 1 0:=⟨Y12,sz3⟩
theorem zfi:FldT prog 168 0 51 0 0:=⟨Y12,sz51⟩
theorem zes:FnOk prog 131:=FnOk.mk' func131 Y12 rfl
theorem zcB:FnOk prog 132:=FnOk.mk' func132 Y12 rfl
end Go.Fz
namespace Go.Proofs.YtlllcafedekojaaGreatDoor.Ua
open Go Go.Fw Go.Fz Go.Proofs.Tryz
attribute [local irreducible] J T X
theorem next (w:World) (n:Nat) (hn:n≤w.heap.size) (B:List (Option Nat)) (g:Nat) (hg:some g∈B) (bs:List Nat) (hd:Dg bs) (hl:bs.length≤1000000) (A:Option Addr) (c at_:Nat) (hat:at_≤bs.length) (hF:Fit w n B A (rowN .u8 bs)) (hr:Ent.At w ⟨some g,168,rdC A bs.length c (at_)⟩) (sz:Nat) (hsz:sz≤4):
    Calls prog 131 [.pointer (some ⟨g,0,none⟩),.int .i64 ((sz:Nat):Int)].toArray w fun e w'=>Go.Fw.endsIn (Gave 165 (at_+sz≤bs.length) w g) (fun v w'=>at_+sz≤bs.length∧v=.tuple #[.int .i64 ((numB bs at_ sz:Nat):Int),.int .i64 ((at_:Nat):Int)]∧WS w [g] [(0,⟨some g,168,rdC A bs.length c (at_+sz)⟩)] w') e w':=by
 refine zcq (Gave 165 (at_+sz≤bs.length) w g) [g] 53 [(0,⟨some g,168,rdC A bs.length c (at_)⟩)] func131 rfl ntmps131 Y20 (WS.one hr) (fun _ _ h=>h) <| zz 10 ?_
 refine J.aa zbB rfl rfl <| J.ag Y8k 0 rfl rfl one3 Y3 rfl <| zz 8 ?_
 refine J.aq rfl rfl rfl Y142 <| zz 2 ?_
 refine J.aa zfi rfl rfl <| J.ag Y8k 0 rfl rfl zaw Y3 rfl <| J.al underlying51 rfl rfl <| zz 3 ?_
 refine T.aa rfl (fun h1=>?_) (fun h1=>?_)
 refine zz 3 ?_
 refine J.aa zfi rfl rfl <| J.ag Y8k 0 rfl rfl zaw Y3 rfl <| J.al underlying51 rfl rfl <| J.ao rfl rfl (.agg [.int .i64 50,.int .i64 ((bs.length:Nat):Int)].toArray) Y191 <| J.bC (⟨_,underlying165,trivial⟩) rfl rfl ?_
 exact J.bY rfl (fun w' hw'=>⟨⟨50,_,by decide,rfl⟩,by omega,hw'.s0⟩)
 refine zz 10 ?_
 refine T.ag (ι:=Nat) (fun (i:Nat)=>i≤sz) (fun (i:Nat)=>[(0,.pointer (some ⟨g,0,none⟩)),(1,.int .i64 ((sz:Nat):Int)),(5,.int .i64 ((at_:Nat):Int)),(26,.int .i64 ((sz:Nat):Int)),(27,.int .i64 ((i:Nat):Int)),(4,.int .i64 ((numB bs at_ i:Nat):Int))]) (fun (i:Nat)=>[(0,⟨some g,168,rdC A bs.length c (at_+i)⟩)]) (fun (i:Nat)=>sz - i) 0 (Nat.zero_le _) Y0 Y0 ?_
 rintro i hi
 refine zz 6 ?_
 refine T.aa rfl (fun h2=>?_) (fun h2=>?_)
 have hb:=hd.getD (at_+i)
 have hv:=zbZ hd at_ (Nat.le_trans hi hsz)
 refine zz 5 ?_
 refine T.ae [] [(0,.g),(1,.g),(2,.g),(3,.g),(4,.g),(5,.q),(6,.g),(7,.g),(8,.g),(9,.q),(10,.g),(11,.q),(12,.g),(13,.g),(14,.g)] Y12 Y12 ?_ Y0
 refine zz 1 ?_
 refine J.cT rfl rfl rfl Y23 (show IntKind.i64.wrap (((numB bs at_ i:Nat):Int)*256)=((numB bs at_ i*256:Nat):Int) from (by rw [Int.natCast_mul];exact zai _ Y5)) <| zz 2 ?_
 refine J.aa zfi rfl rfl <| J.ag Y8k 0 rfl rfl zaw Y3 rfl <| zz 2 ?_
 refine J.aa zbB rfl rfl <| J.ag Y8k 0 rfl rfl one3 Y3 rfl <| J.ah sl51 rfl (hF.isSome Y186) rfl Y5 Y5 Y8 rfl <| J.aG Y8k (fun w hw=>(hF.keep (zad (B0:=B) (l1:=[]) hn Y153 hw (Sub.nil _) rfl)).cs) rfl one5 Y3 rfl <| J.aN Y188 underlying3 rfl rfl Y140 <| J.cW rfl rfl rfl (orB _ _ Y5 hb) <| zz 6 ?_
 refine J.aa zbB rfl rfl <| J.ag Y8k 0 rfl rfl one3 Y3 rfl <| J.aq rfl rfl rfl Y10 <| zz 1 ?_
 refine J.aa zbB rfl rfl <| J.ae 0 rfl rfl rfl rfl [.int .i64 ((at_+(i+1):Nat):Int)] rfl sz3 Y7 Y6 Y11 trivial (rdC A bs.length c (at_+(i+1))) rfl <| zz 4 ?_
 refine J.aq rfl rfl rfl Y10 <| zz 2 ?_
 exact X.ae (i+1) Y5 Y14 Y0 Y0
 obtain rfl:i=sz:=by omega
 refine zz 14 ?_
 exact X.ag rfl (RV.tmp rfl) (RV.tmp rfl) (fun w' hw'=>⟨by omega,rfl,hw'.only 0 0 rfl⟩)
theorem ask (w:World) (r:Value) (p:Prop) [Decidable p] (code at_:Int) (hc:code≠0):
    Calls prog 132 [r,.bool (decide p),.int .i64 code,.int .i64 at_].toArray w fun e w'=>Go.Fw.endsIn (fun ch w'=>Wrong 165 ch∧¬ p∧WS w [] [] w') (fun v w'=>p∧v=.tuple #[]∧WS w [] [] w') e w':=by
 refine zcq (fun ch w'=>Wrong 165 ch∧¬ p∧WS w [] [] w') [] 14 [] func132 rfl ntmps132 Y20 (WS.refl _ _) (fun _ _ h=>h) <| zz 3 ?_
 refine J.aA rfl rfl Y18 <| zz 2 ?_
 refine T.aa rfl (fun h1=>?_) (fun h1=>?_)
 refine zz 3 ?_
 refine J.ao rfl rfl (.agg [.int .i64 code,.int .i64 at_].toArray) Y191 <| J.bC (⟨_,underlying165,trivial⟩) rfl rfl ?_
 exact J.bY rfl (fun w' hw'=>⟨⟨code,at_,hc,rfl⟩,by assumption,hw'.s0⟩)
 have hp:=Decidable.not_not.1 h1
 refine zz 1 ?_
 exact X.am rfl (fun w' hw'=>⟨hp,rfl,hw'.s0⟩)
theorem want (w:World) (n:Nat) (hn:n≤w.heap.size) (B:List (Option Nat)) (g:Nat) (hg:some g∈B) (bs:List Nat) (hd:Dg bs) (hl:bs.length≤1000000) (A:Option Addr) (c at_:Nat) (hat:at_≤bs.length) (hF:Fit w n B A (rowN .u8 bs)) (hr:Ent.At w ⟨some g,168,rdC A bs.length c (at_)⟩) (v:Nat) (code:Int) (hc:code≠0):
    Calls prog 130 [.pointer (some ⟨g,0,none⟩),.int .i64 ((v:Nat):Int),.int .i64 code].toArray w fun e w'=>Go.Fw.endsIn (Gave 165 (at_+1≤bs.length∧numB bs at_ 1=v) w g) (fun u w'=>(at_+1≤bs.length∧numB bs at_ 1=v)∧u=.tuple #[]∧WS w [g] [(0,⟨some g,168,rdC A bs.length c (at_+1)⟩)] w') e w':=by
 refine zcq (Gave 165 (at_+1≤bs.length∧numB bs at_ 1=v) w g) [g] 20 [(0,⟨some g,168,rdC A bs.length c (at_)⟩)] func130 rfl ntmps130 Y20 (WS.one hr) (fun _ _ h=>h) <| zz 3 ?_
 refine J.bn 0 (cs':=rdC A bs.length c (at_+1)) rfl rfl zes rfl rfl (fun w hw=>(Ua.next w n (Nat.le_trans hn hw.size) (B++ids [(0,⟨some g,168,rdC A bs.length c (at_)⟩)]) g Y133 bs hd hl A c (at_) hat (hF.keep (zad (B0:=B) (l1:=[(0,⟨some g,168,rdC A bs.length c (at_)⟩)]) hn Y153 hw Y0 rfl)) (hw.live 0 _ rfl) 1 Y23).mono fun e w2 he=>zbd he (fun ch w3 hg=>⟨hg.1,fun q=>hg.2.1 q.1,hw.gave hg.2.2 0 rfl rfl (Sub.nil _) (fun j e' q=>by simp [lk] at q)⟩)) fun ha10=>?_
 refine zz 12 ?_
 refine J.as 16 (.bool (decide (numB bs at_ 1=v))) rfl (by exact congrArg Value.bool (decide_eq_decide.2 Int.ofNat_inj)) <| zz 2 ?_
 refine J.bo zcB rfl rfl (fun w hw=>(Ua.ask w _ (numB bs at_ 1=v) code (((at_:Nat):Int)) hc).mono fun e w2 he=>zbd he (fun ch w3 hg=>⟨hg.1,fun q=>hg.2.1 q.2,(hw.join0 hg.2.2).s0⟩)) fun ha19=>?_
 refine zz 1 ?_
 exact X.am rfl (fun w' hw'=>⟨⟨by assumption,by assumption⟩,rfl,hw'.only 0 0 rfl⟩)
end Go.Proofs.YtlllcafedekojaaGreatDoor.Ua
namespace Go.Fz
open Go Go.Fw Go.Proofs.Tryz
theorem zmE:ZeroT prog 214 (.agg (zc4).toArray):=Y17
theorem ztq:SizeT prog 214 9:=Y9
theorem zrm:AggT prog 214 9:=⟨⟨_,underlying214,rfl⟩,Y12⟩
theorem zbO:FldT prog 154 0 3 0 0:=⟨Y12,sz3⟩
theorem zam:FldT prog 154 1 3 1 0:=⟨Y12,sz3⟩
theorem zek:FldT prog 154 2 3 2 0:=⟨Y12,sz3⟩
theorem sl45:SlT prog 45 51 1:=⟨underlying45,sz51⟩
theorem sz45:SizeT prog 45 1:=Y9
theorem zbn:FldT prog 122 1 45 1 0:=⟨Y12,sz45⟩
theorem zcr:OneT prog 45:=⟨⟨_,underlying45,rfl⟩,Y12⟩
theorem zrB:SizeT prog 120 1:=Y9
theorem zbi:FldT prog 122 0 120 0 0:=⟨Y12,zrB⟩
theorem zby:OneT prog 120:=⟨⟨_,underlying120,rfl⟩,Y12⟩
theorem zqW:FnOk prog 152:=FnOk.mk' func152 Y12 rfl
theorem zbm:FldT prog 122 2 45 2 0:=⟨Y12,sz45⟩
theorem zdm:FldT prog 122 4 3 4 0:=⟨Y12,sz3⟩
theorem zlw:FldT prog 122 3 51 3 0:=⟨Y12,sz51⟩
theorem zgj:SizeT prog 154 3:=Y9
theorem zfr:SlT prog 120 154 3:=⟨underlying120,zgj⟩
theorem zdy:AggT prog 154 3:=⟨⟨_,underlying154,rfl⟩,Y12⟩
theorem zcD:ZeroT prog 154 (.agg (zc10).toArray):=Y17
theorem zqX:FnOk prog 151:=FnOk.mk' func151 Y12 rfl
theorem zjC:SizeT prog 213 3:=Y9
theorem zhM:ArrT prog 214 3 213 3:=⟨underlying214,zjC⟩
theorem zhN:AggT prog 213 3:=⟨⟨_,underlying213,rfl⟩,Y12⟩
theorem zfm:ZeroT prog 213 (.agg (zc11).toArray):=Y17
theorem sz210:SizeT prog 210 1:=Y9
theorem zej:FldT prog 213 1 210 1 0:=⟨Y12,sz210⟩
theorem zhC:OneT prog 210:=⟨⟨_,underlying210,rfl⟩,Y12⟩
theorem sz211:SizeT prog 211 1:=Y9
theorem zei:FldT prog 213 2 211 2 0:=⟨Y12,sz211⟩
theorem zhB:OneT prog 211:=⟨⟨_,underlying211,rfl⟩,Y12⟩
theorem zqS:FnOk prog 172:=FnOk.mk' func172 Y12 rfl
theorem zqT:FnOk prog 171:=FnOk.mk' func171 Y12 rfl
theorem zqQ:FnOk prog 174:=FnOk.mk' func174 Y12 rfl
theorem zqR:FnOk prog 173:=FnOk.mk' func173 Y12 rfl
theorem zqO:FnOk prog 176:=FnOk.mk' func176 Y12 rfl
theorem zqP:FnOk prog 175:=FnOk.mk' func175 Y12 rfl
end Go.Fz
namespace Go.Proofs.YtlllcafedekojaaGreatDoor.Ub
open Go Go.Fw Go.Fz Go.Proofs.Tryz
attribute [local irreducible] J T X
theorem bounds (w:World):
    Calls prog 151 [].toArray w fun e w'=>e=.returned (.agg boundsL.toArray)∧WS w [] [] w':=by
 refine zac [] 5 [] func151 rfl ntmps151 Y20 (WS.refl _ _) <| zz 2 ?_
 refine J.am 0 rfl zmE zc4 rfl rfl fun g0 hg0=>zz 4 ?_
 refine J.ao rfl rfl (.agg (boundL 0).toArray) Y191 <| J.ao rfl rfl (.agg (boundL 1).toArray) Y191 <| J.ao rfl rfl (.agg (boundL 2).toArray) Y191 <| J.ao rfl rfl (.agg boundsL.toArray) Y191 <| J.ae 0 rfl rfl rfl rfl boundsL rfl ztq (Nat.le_of_ble_eq_true rfl) (by intro u hu;simp only [boundsL,List.mem_cons,List.not_mem_nil,or_false] at hu;rcases hu with rfl | rfl | rfl | rfl | rfl | rfl | rfl | rfl | rfl<;>rfl) Y23 trivial boundsL rfl <| zz 3 ?_
 exact X.aa rfl (RV.agg 0 rfl rfl zrm boundsL Y22 Y22 rfl) (fun w' hw'=>⟨rfl,hw'.s0⟩)
theorem fits0 (w:World) (p:Prop) [Decidable p] (v:Int):
    Calls prog 171 [.bool (decide p),.int .i64 v].toArray w fun e w'=>e=.returned (.bool (fitK 0 (decide p) v))∧WS w [] [] w':=by
 refine zac [] 19 [] func171 rfl ntmps171 Y20 (WS.refl _ _) <| zz 10 ?_
 refine J.an 7 rfl (fun h1=>?_) (fun h1=>?_)
 refine zz 4 ?_
 refine J.an 11 rfl (fun h2=>?_) (fun h2=>?_)
 refine zz 1 ?_
 refine J.aF rfl rfl <| J.aA rfl rfl Y18 <| zz 1 ?_
 refine J.an 14 rfl (fun h3=>?_) (fun h3=>?_)
 refine zz 8 ?_
 exact X.aa rfl (RV.tmp rfl) (fun w' hw'=>⟨by first | rfl | (simp [fitK, *];done) | (simp [fitK, *];omega),hw'.s0⟩)
 refine zz 8 ?_
 exact X.aa rfl (RV.tmp rfl) (fun w' hw'=>⟨by first | rfl | (simp [fitK, *];done) | (simp [fitK, *];omega),hw'.s0⟩)
 refine zz 11 ?_
 exact X.aa rfl (RV.tmp rfl) (fun w' hw'=>⟨by first | rfl | (simp [fitK, *];done) | (simp [fitK, *];omega),hw'.s0⟩)
 refine zz 15 ?_
 exact X.aa rfl (RV.tmp rfl) (fun w' hw'=>⟨by first | rfl | (simp [fitK, *];done) | (simp [fitK, *];omega),hw'.s0⟩)
theorem val0 (w:World) (g:Nat):
    Calls prog 172 [.pointer (some ⟨g,0,none⟩)].toArray w fun e w'=>e=.returned (.pointer (some ⟨g,0,none⟩))∧WS w [] [] w':=by
 refine zac [] 6 [] func172 rfl ntmps172 Y20 (WS.refl _ _) <| zz 9 ?_
 refine J.aa zbO rfl rfl <| zz 4 ?_
 exact X.aa rfl (RV.tmp rfl) (fun w' hw'=>⟨rfl,hw'.s0⟩)
theorem fits1 (w:World) (p:Prop) [Decidable p] (v:Int):
    Calls prog 173 [.bool (decide p),.int .i64 v].toArray w fun e w'=>e=.returned (.bool (fitK 1 (decide p) v))∧WS w [] [] w':=by
 refine zac [] 19 [] func173 rfl ntmps173 Y20 (WS.refl _ _) <| zz 10 ?_
 refine J.an 7 rfl (fun h1=>?_) (fun h1=>?_)
 refine zz 4 ?_
 refine J.an 11 rfl (fun h2=>?_) (fun h2=>?_)
 refine zz 1 ?_
 refine J.aF rfl rfl <| J.aA rfl rfl Y18 <| zz 1 ?_
 refine J.an 14 rfl (fun h3=>?_) (fun h3=>?_)
 refine zz 8 ?_
 exact X.aa rfl (RV.tmp rfl) (fun w' hw'=>⟨by first | rfl | (simp [fitK, *];done) | (simp [fitK, *];omega),hw'.s0⟩)
 refine zz 8 ?_
 exact X.aa rfl (RV.tmp rfl) (fun w' hw'=>⟨by first | rfl | (simp [fitK, *];done) | (simp [fitK, *];omega),hw'.s0⟩)
 refine zz 11 ?_
 exact X.aa rfl (RV.tmp rfl) (fun w' hw'=>⟨by first | rfl | (simp [fitK, *];done) | (simp [fitK, *];omega),hw'.s0⟩)
 refine zz 15 ?_
 exact X.aa rfl (RV.tmp rfl) (fun w' hw'=>⟨by first | rfl | (simp [fitK, *];done) | (simp [fitK, *];omega),hw'.s0⟩)
theorem val1 (w:World) (g:Nat):
    Calls prog 174 [.pointer (some ⟨g,0,none⟩)].toArray w fun e w'=>e=.returned (.pointer (some ⟨g,1,none⟩))∧WS w [] [] w':=by
 refine zac [] 6 [] func174 rfl ntmps174 Y20 (WS.refl _ _) <| zz 9 ?_
 refine J.aa zam rfl rfl <| zz 4 ?_
 exact X.aa rfl (RV.tmp rfl) (fun w' hw'=>⟨rfl,hw'.s0⟩)
theorem fits2 (w:World) (p:Prop) [Decidable p] (v:Int):
    Calls prog 175 [.bool (decide p),.int .i64 v].toArray w fun e w'=>e=.returned (.bool (fitK 2 (decide p) v))∧WS w [] [] w':=by
 refine zac [] 11 [] func175 rfl ntmps175 Y20 (WS.refl _ _) <| zz 10 ?_
 refine J.an 7 rfl (fun h1=>?_) (fun h1=>?_)
 refine zz 7 ?_
 exact X.aa rfl (RV.tmp rfl) (fun w' hw'=>⟨by first | rfl | (simp [fitK, *];done) | (simp [fitK, *];omega),hw'.s0⟩)
 refine zz 7 ?_
 exact X.aa rfl (RV.tmp rfl) (fun w' hw'=>⟨by first | rfl | (simp [fitK, *];done) | (simp [fitK, *];omega),hw'.s0⟩)
theorem val2 (w:World) (g:Nat):
    Calls prog 176 [.pointer (some ⟨g,0,none⟩)].toArray w fun e w'=>e=.returned (.pointer (some ⟨g,2,none⟩))∧WS w [] [] w':=by
 refine zac [] 6 [] func176 rfl ntmps176 Y20 (WS.refl _ _) <| zz 9 ?_
 refine J.aa zek rfl rfl <| zz 4 ?_
 exact X.aa rfl (RV.tmp rfl) (fun w' hw'=>⟨rfl,hw'.s0⟩)
theorem parts (w:World) (xs:List ByR) (hl:xs.length≤1000000000) (A:Option Addr) (c:Nat) (hA:Cs w A (rowBy xs)) (most:Nat):
    Calls prog 152 [.slice A xs.length c,.int .i64 ((most:Nat):Int)].toArray w fun e w'=>e=.returned (.int .i64 (partsF most (xs.map ByR.b)))∧WS w [] [] w':=by
 refine zac [] 21 [] func152 rfl ntmps152 Y20 (WS.refl _ _) <| zz 9 ?_
 refine J.al underlying45 rfl rfl <| zz 4 ?_
 refine T.ag (ι:=Nat) (fun (i:Nat)=>i≤xs.length∧partsF most (xs.map ByR.b)=partsF most ((xs.map ByR.b).drop i)) (fun (i:Nat)=>[(0,.slice A xs.length c),(1,.int .i64 ((most:Nat):Int)),(7,.slice A xs.length c),(8,.int .i64 ((xs.length:Nat):Int)),(9,.int .i64 ((i:Nat):Int))]) (fun (i:Nat)=>[]) (fun (i:Nat)=>xs.length - i) 0 ⟨Nat.zero_le _,rfl⟩ Y2 Y2 ?_
 rintro i ⟨hi,hp⟩
 refine zz 6 ?_
 refine T.aa rfl (fun h1=>?_) (fun h1=>?_)
 have hi2:i < xs.length:=by omega
 have hp2:=zjR (most:=most) (ps:=xs.map ByR.b) (i:=i) (by rw [List.length_map];exact hi2)
 rw [zib xs ByR.b i hi2] at hp2
 refine zz 6 ?_
 refine J.ah sl45 rfl (hA.isSome (by rw [zcy];omega)) rfl Y5 Y5 Y8 rfl <| J.av Y8k hA (zab _) rfl zaw (by show (rowBy xs)[i*1]?=_;rw [Nat.mul_one];exact zgt xs i Y5) rfl <| zz 7 ?_
 refine J.al underlying51 rfl rfl <| zz 3 ?_
 refine T.aa rfl (fun h2=>?_) (fun h2=>?_)
 rw [if_pos Y5] at hp2
 refine zz 12 ?_
 exact X.aa rfl (RV.tmp rfl) (fun w' hw'=>⟨by first | (rw [hp,hp2];done) | (rw [hp];rfl),hw'.s0⟩)
 rw [if_neg Y5] at hp2
 refine zz 5 ?_
 refine J.al underlying51 rfl rfl <| zz 4 ?_
 refine T.aa rfl (fun h3=>?_) (fun h3=>?_)
 rw [if_pos Y5] at hp2
 refine zz 11 ?_
 exact X.aa rfl (RV.tmp rfl) (fun w' hw'=>⟨by first | (rw [hp,hp2];done) | (rw [hp];rfl),hw'.s0⟩)
 rw [if_neg Y5] at hp2
 refine zz 4 ?_
 refine J.aq rfl rfl rfl Y10 <| zz 2 ?_
 exact X.ae (i+1) ⟨by omega,hp.trans hp2⟩ Y14 Y2 Y2
 obtain rfl:i=xs.length:=by omega
 rw [List.drop_eq_nil_of_le (by rw [List.length_map];omega)] at hp
 refine zz 11 ?_
 exact X.aa rfl (RV.tmp rfl) (fun w' hw'=>⟨by first | (rw [hp,hp2];done) | (rw [hp];rfl),hw'.s0⟩)
theorem Check (w:World) (n:Nat) (B:List (Option Nat)) (c:CtR) (hc:c.Ok w n B) (hl1:c.codes.length≤1000000000) (hl2:c.subs.length≤1000000000) (hl3:c.types.length≤1000000000):
    Calls prog 136 [.agg c.cells.toArray].toArray w fun e w'=>e=.returned (.int .i64 (checkC c.v))∧WS w [] [] w':=by
 have hFc:=hc.fc.cs
 have hFt:=hc.ft.cs
 have hFs:=hc.fs.cs
 have hcl:c.v.codes.length=c.codes.length:=List.length_map _
 have hsl:c.v.subs.length=c.subs.length:=List.length_map _
 have htl:c.v.types.length=c.types.length:=rfl
 have hdl:c.v.data.length=c.data.length:=rfl
 have hsz:c.v.size=c.size:=rfl
 refine zac [] 83 [] func136 rfl ntmps136 Y20 (WS.refl _ _) <| zz 2 ?_
 refine J.aE 1 rfl rfl (c.cells) rfl rfl fun g1 hg1=>zz 7 ?_
 refine J.aa zbn rfl rfl <| J.ag Y8k 1 rfl rfl zcr Y3 rfl <| J.al underlying45 rfl rfl <| zz 2 ?_
 refine J.an 14 rfl (fun h1=>?_) (fun h1=>?_)
 refine zz 17 ?_
 exact X.aa rfl (RV.tmp rfl) (fun w' hw'=>⟨congrArg (fun z=>Ending.returned (.int .i64 z)) (chk0 Y5).symm,hw'.s0⟩)
 refine zz 1 ?_
 refine J.aa zbn rfl rfl <| zz 1 ?_
 refine J.ag Y8k 1 rfl rfl zcr Y3 rfl <| zz 1 ?_
 refine J.al underlying45 rfl rfl <| zz 5 ?_
 refine T.aa rfl (fun h2=>?_) (fun h2=>?_)
 refine zz 8 ?_
 exact X.aa rfl (RV.tmp rfl) (fun w' hw'=>⟨congrArg (fun z=>Ending.returned (.int .i64 z)) (chk0 Y5).symm,hw'.s0⟩)
 refine zz 2 ?_
 refine J.aa zbi rfl rfl <| J.ag Y8k 1 rfl rfl zby Y3 rfl <| J.al underlying120 rfl rfl <| J.aa zbn rfl rfl <| J.ag Y8k 1 rfl rfl zcr Y3 rfl <| J.al underlying45 rfl rfl <| zz 4 ?_
 refine T.aa rfl (fun h3=>?_) (fun h3=>?_)
 refine zz 8 ?_
 exact X.aa rfl (RV.tmp rfl) (fun w' hw'=>⟨congrArg (fun z=>Ending.returned (.int .i64 z)) (chk1 Y5 Y5).symm,hw'.s0⟩)
 refine zz 6 ?_
 refine J.aa zbn rfl rfl <| J.ag Y8k 1 rfl rfl zcr Y3 rfl <| J.aj Y8k zqW rfl rfl (fun w hw=>Ub.parts w c.codes Y5 _ _ (hFc.ws hw (zab _)) 65535) ?_
 refine zz 9 ?_
 refine T.aa rfl (fun h4=>?_) (fun h4=>?_)
 have hp1:partsF 65535 c.v.codes≠0:=h4
 refine zz 8 ?_
 exact X.aa rfl (RV.tmp rfl) (fun w' hw'=>⟨congrArg (fun z=>Ending.returned (.int .i64 z)) (chk2 Y5 Y5 hp1).symm,hw'.s0⟩)
 have hp1:¬ partsF 65535 c.v.codes≠0:=h4
 refine zz 5 ?_
 refine J.aa zbm rfl rfl <| J.ag Y8k 1 rfl rfl zcr Y3 rfl <| J.al underlying45 rfl rfl <| zz 3 ?_
 refine T.aa rfl (fun h5=>?_) (fun h5=>?_)
 refine zz 7 ?_
 exact X.aa rfl (RV.tmp rfl) (fun w' hw'=>⟨congrArg (fun z=>Ending.returned (.int .i64 z)) (chk3 Y5 Y5 hp1 Y5).symm,hw'.s0⟩)
 refine zz 5 ?_
 refine J.aa zbm rfl rfl <| J.ag Y8k 1 rfl rfl zcr Y3 rfl <| J.aj Y8k zqW rfl rfl (fun w hw=>Ub.parts w c.subs Y5 _ _ (hFs.ws hw (zab _)) 4294967295) ?_
 refine zz 9 ?_
 refine T.aa rfl (fun h6=>?_) (fun h6=>?_)
 have hp2:partsF 4294967295 c.v.subs≠0:=h6
 refine zz 8 ?_
 exact X.aa rfl (RV.tmp rfl) (fun w' hw'=>⟨congrArg (fun z=>Ending.returned (.int .i64 z)) (chk4 Y5 Y5 hp1 Y5 hp2).symm,hw'.s0⟩)
 have hp2:¬ partsF 4294967295 c.v.subs≠0:=h6
 refine zz 6 ?_
 refine J.aa zdm rfl rfl <| J.ag Y8k 1 rfl rfl one3 Y3 rfl <| zz 4 ?_
 refine T.aa rfl (fun h7=>?_) (fun h7=>?_)
 refine zz 8 ?_
 exact X.aa rfl (RV.tmp rfl) (fun w' hw'=>⟨congrArg (fun z=>Ending.returned (.int .i64 z)) (chk5 Y5 Y5 hp1 Y5 hp2 Y5).symm,hw'.s0⟩)
 refine zz 2 ?_
 refine J.aa zdm rfl rfl <| J.ag Y8k 1 rfl rfl one3 Y3 rfl <| J.aa zlw rfl rfl <| J.ag Y8k 1 rfl rfl zaw Y3 rfl <| J.al underlying51 rfl rfl <| zz 4 ?_
 refine T.aa rfl (fun h8=>?_) (fun h8=>?_)
 refine zz 8 ?_
 exact X.aa rfl (RV.tmp rfl) (fun w' hw'=>⟨congrArg (fun z=>Ending.returned (.int .i64 z)) (chk6 Y5 Y5 hp1 Y5 hp2 Y5 Y5).symm,hw'.s0⟩)
 refine zz 6 ?_
 refine J.aa zbi rfl rfl <| J.ag Y8k 1 rfl rfl zby Y3 rfl <| J.al underlying120 rfl rfl <| zz 4 ?_
 refine T.ag (ι:=Nat) (fun (i:Nat)=>i≤c.types.length∧typesB c.types true=typesB (c.types.drop i) (decide (i=0))) (fun (i:Nat)=>[(0,.agg c.cells.toArray),(1,.pointer (some ⟨g1,0,none⟩)),(11,.slice c.cA c.codes.length c.cC),(12,.int .i64 ((c.codes.length:Nat):Int)),(14,.bool false),(16,.slice c.cA c.codes.length c.cC),(17,.int .i64 ((c.codes.length:Nat):Int)),(22,.slice c.tA c.types.length c.tC),(23,.int .i64 ((c.types.length:Nat):Int)),(25,.slice c.cA c.codes.length c.cC),(26,.int .i64 ((c.codes.length:Nat):Int)),(29,.slice c.cA c.codes.length c.cC),(30,.int .i64 (partsF 65535 c.v.codes)),(3,.int .i64 (partsF 65535 c.v.codes)),(31,.int .i64 (partsF 65535 c.v.codes)),(35,.slice c.sA c.subs.length c.sC),(36,.int .i64 ((c.subs.length:Nat):Int)),(39,.slice c.sA c.subs.length c.sC),(40,.int .i64 (partsF 4294967295 c.v.subs)),(4,.int .i64 (partsF 4294967295 c.v.subs)),(41,.int .i64 (partsF 4294967295 c.v.subs)),(46,.int .i64 c.size),(50,.int .i64 c.size),(52,.slice c.dA c.data.length c.dC),(53,.int .i64 ((c.data.length:Nat):Int)),(56,.slice c.tA c.types.length c.tC),(57,.int .i64 ((c.types.length:Nat):Int)),(58,.int .i64 ((i:Nat):Int))]) (fun (i:Nat)=>[(1,⟨some g1,122,(c.cells)⟩)]) (fun (i:Nat)=>c.types.length - i) 0 ⟨Nat.zero_le _,rfl⟩ Y2 Y2 ?_
 rintro i ⟨hi,hp⟩
 refine zz 6 ?_
 refine T.aa rfl (fun h9=>?_) (fun h9=>?_)
 have hi2:i < c.types.length:=by omega
 refine zz 12 ?_
 refine J.aa zbi rfl rfl <| J.ag Y8k 1 rfl rfl zby Y3 rfl <| zz 1 ?_
 refine J.ah zfr rfl (hFt.isSome Y179) rfl Y5 Y5 Y8 rfl <| J.ar Y8k hFt (zab _) rfl zdy ((c.types.getD i default).cells) rfl (zbS c.types i Y5) rfl <| J.am 6 rfl zcD zc10 rfl rfl fun g6 hg6=>J.ae 6 rfl rfl rfl rfl ((c.types.getD i default).cells) rfl zgj (Nat.le_of_ble_eq_true rfl) (by first | exact CtR.cells_one _ | exact TyV.cells_one _) (Nat.zero_lt_succ _) trivial ((c.types.getD i default).cells) rfl <| zz 4 ?_
 refine J.aj Y8k zqX rfl rfl (fun w hw=>Ub.bounds w) ?_
 refine zz 4 ?_
 refine T.ag (ι:=Nat) (fun (k:Nat)=>k≤3∧∀ m,m < k→fitK m (decide (i=0)) ((c.types.getD i default).field m)=true) (fun (k:Nat)=>[(0,.agg c.cells.toArray),(1,.pointer (some ⟨g1,0,none⟩)),(11,.slice c.cA c.codes.length c.cC),(12,.int .i64 ((c.codes.length:Nat):Int)),(14,.bool false),(16,.slice c.cA c.codes.length c.cC),(17,.int .i64 ((c.codes.length:Nat):Int)),(22,.slice c.tA c.types.length c.tC),(23,.int .i64 ((c.types.length:Nat):Int)),(25,.slice c.cA c.codes.length c.cC),(26,.int .i64 ((c.codes.length:Nat):Int)),(29,.slice c.cA c.codes.length c.cC),(30,.int .i64 (partsF 65535 c.v.codes)),(3,.int .i64 (partsF 65535 c.v.codes)),(31,.int .i64 (partsF 65535 c.v.codes)),(35,.slice c.sA c.subs.length c.sC),(36,.int .i64 ((c.subs.length:Nat):Int)),(39,.slice c.sA c.subs.length c.sC),(40,.int .i64 (partsF 4294967295 c.v.subs)),(4,.int .i64 (partsF 4294967295 c.v.subs)),(41,.int .i64 (partsF 4294967295 c.v.subs)),(46,.int .i64 c.size),(50,.int .i64 c.size),(52,.slice c.dA c.data.length c.dC),(53,.int .i64 ((c.data.length:Nat):Int)),(56,.slice c.tA c.types.length c.tC),(57,.int .i64 ((c.types.length:Nat):Int)),(58,.int .i64 ((i:Nat):Int)),(60,.int .i64 ((i:Nat):Int)),(5,.int .i64 ((i:Nat):Int)),(62,.slice c.tA c.types.length c.tC),(63,.int .i64 ((i:Nat):Int)),(6,.pointer (some ⟨g6,0,none⟩)),(66,.agg boundsL.toArray),(67,.int .i64 ((k:Nat):Int))]) (fun (k:Nat)=>[(1,⟨some g1,122,(c.cells)⟩),(6,⟨some g6,154,((c.types.getD i default).cells)⟩)]) (fun (k:Nat)=>3 - k) 0 ⟨Nat.zero_le _,fun m hm=>by omega⟩ Y2 Y2 ?_
 rintro k ⟨hk3,hk⟩
 refine zz 6 ?_
 refine T.aa rfl (fun h10=>?_) (fun h10=>?_)
 rcases (show k=0∨k=1∨k=2 from by omega) with rfl | rfl | rfl
 refine zz 6 ?_
 refine J.aW zhM zhN rfl rfl Y23 Y23 rfl rfl rfl <| J.am 8 rfl zfm zc11 rfl rfl fun g8 hg8=>J.ae 8 rfl rfl rfl rfl (boundL 0) rfl zjC (Nat.le_of_ble_eq_true rfl) (zcg 0) Y23 trivial (boundL 0) rfl <| zz 3 ?_
 refine T.ae [(8,⟨some g8,213,(boundL 0)⟩)] [(0,.g),(1,.s),(2,.g),(3,.g),(4,.g),(5,.q),(6,.l),(7,.g),(8,.q),(9,.l),(10,.g)] Y12 Y12 ?_ Y2
 refine J.aa zej rfl rfl <| J.aJ 8 rfl rfl zhC rfl rfl <| zz 2 ?_
 refine J.as 73 (.bool (decide (i=0))) rfl Y156 <| J.aa zei rfl rfl <| J.ag Y8k 8 rfl rfl zhB rfl rfl <| J.aH zqS rfl rfl rfl (fun w hw=>Ub.val0 w g6) ?_
 refine zz 1 ?_
 refine J.ag Y8k 6 rfl rfl one3 rfl rfl <| J.aH zqT rfl rfl rfl (fun w hw=>Ub.fits0 w (i=0) _) ?_
 refine J.as 79 (.bool (decide (fitK 0 (decide (i=0)) ((c.types.getD i default).field 0)=true))) rfl Y154 <| J.aA rfl rfl Y18 <| zz 2 ?_
 refine T.aa rfl (fun h11=>?_) (fun h11=>?_)
 have hty:¬ typesB c.v.types true=true:=fun q=>by rw [show typesB c.v.types true=typesB c.types true from rfl,hp,zcW hi2,ziu 0 Y23 h11] at q;cases q
 refine zz 15 ?_
 exact X.aa rfl (RV.tmp rfl) (fun w' hw'=>⟨congrArg (fun z=>Ending.returned (.int .i64 z)) (chk8 Y5 Y5 hp1 Y5 hp2 Y5 Y5 hty).symm,hw'.s0⟩)
 refine zz 4 ?_
 refine J.aq rfl rfl rfl Y10 <| J.as 81 (.int .i64 ((1:Nat):Int)) rfl Y22 <| zz 2 ?_
 exact X.ae 1 ⟨by decide,zao hk (by exact Decidable.not_not.1 Y195)⟩ Y23 Y2 Y2
 refine zz 6 ?_
 refine J.aW zhM zhN rfl rfl Y23 Y23 rfl rfl rfl <| J.am 8 rfl zfm zc11 rfl rfl fun g8 hg8=>J.ae 8 rfl rfl rfl rfl (boundL 1) rfl zjC (Nat.le_of_ble_eq_true rfl) (zcg 1) Y23 trivial (boundL 1) rfl <| zz 3 ?_
 refine T.ae [(8,⟨some g8,213,(boundL 1)⟩)] [(0,.g),(1,.s),(2,.g),(3,.g),(4,.g),(5,.q),(6,.l),(7,.g),(8,.q),(9,.l),(10,.g)] Y12 Y12 ?_ Y2
 refine J.aa zej rfl rfl <| J.aJ 8 rfl rfl zhC rfl rfl <| zz 2 ?_
 refine J.as 73 (.bool (decide (i=0))) rfl Y156 <| J.aa zei rfl rfl <| J.ag Y8k 8 rfl rfl zhB rfl rfl <| J.aH zqQ rfl rfl rfl (fun w hw=>Ub.val1 w g6) ?_
 refine zz 1 ?_
 refine J.ag Y8k 6 rfl rfl one3 rfl rfl <| J.aH zqR rfl rfl rfl (fun w hw=>Ub.fits1 w (i=0) _) ?_
 refine J.as 79 (.bool (decide (fitK 1 (decide (i=0)) ((c.types.getD i default).field 1)=true))) rfl Y154 <| J.aA rfl rfl Y18 <| zz 2 ?_
 refine T.aa rfl (fun h12=>?_) (fun h12=>?_)
 have hty:¬ typesB c.v.types true=true:=fun q=>by rw [show typesB c.v.types true=typesB c.types true from rfl,hp,zcW hi2,ziu 1 Y23 h12] at q;cases q
 refine zz 15 ?_
 exact X.aa rfl (RV.tmp rfl) (fun w' hw'=>⟨congrArg (fun z=>Ending.returned (.int .i64 z)) (chk8 Y5 Y5 hp1 Y5 hp2 Y5 Y5 hty).symm,hw'.s0⟩)
 refine zz 4 ?_
 refine J.aq rfl rfl rfl Y10 <| J.as 81 (.int .i64 ((2:Nat):Int)) rfl Y22 <| zz 2 ?_
 exact X.ae 2 ⟨by decide,zao hk (by exact Decidable.not_not.1 Y195)⟩ Y23 Y2 Y2
 refine zz 6 ?_
 refine J.aW zhM zhN rfl rfl Y23 Y23 rfl rfl rfl <| J.am 8 rfl zfm zc11 rfl rfl fun g8 hg8=>J.ae 8 rfl rfl rfl rfl (boundL 2) rfl zjC (Nat.le_of_ble_eq_true rfl) (zcg 2) Y23 trivial (boundL 2) rfl <| zz 3 ?_
 refine T.ae [(8,⟨some g8,213,(boundL 2)⟩)] [(0,.g),(1,.s),(2,.g),(3,.g),(4,.g),(5,.q),(6,.l),(7,.g),(8,.q),(9,.l),(10,.g)] Y12 Y12 ?_ Y2
 refine J.aa zej rfl rfl <| J.aJ 8 rfl rfl zhC rfl rfl <| zz 2 ?_
 refine J.as 73 (.bool (decide (i=0))) rfl Y156 <| J.aa zei rfl rfl <| J.ag Y8k 8 rfl rfl zhB rfl rfl <| J.aH zqO rfl rfl rfl (fun w hw=>Ub.val2 w g6) ?_
 refine zz 1 ?_
 refine J.ag Y8k 6 rfl rfl one3 rfl rfl <| J.aH zqP rfl rfl rfl (fun w hw=>Ub.fits2 w (i=0) _) ?_
 refine J.as 79 (.bool (decide (fitK 2 (decide (i=0)) ((c.types.getD i default).field 2)=true))) rfl Y154 <| J.aA rfl rfl Y18 <| zz 2 ?_
 refine T.aa rfl (fun h13=>?_) (fun h13=>?_)
 have hty:¬ typesB c.v.types true=true:=fun q=>by rw [show typesB c.v.types true=typesB c.types true from rfl,hp,zcW hi2,ziu 2 Y23 h13] at q;cases q
 refine zz 15 ?_
 exact X.aa rfl (RV.tmp rfl) (fun w' hw'=>⟨congrArg (fun z=>Ending.returned (.int .i64 z)) (chk8 Y5 Y5 hp1 Y5 hp2 Y5 Y5 hty).symm,hw'.s0⟩)
 refine zz 4 ?_
 refine J.aq rfl rfl rfl Y10 <| J.as 81 (.int .i64 ((3:Nat):Int)) rfl Y22 <| zz 2 ?_
 exact X.ae 3 ⟨by decide,zao hk (by exact Decidable.not_not.1 Y195)⟩ Y23 Y2 Y2
 obtain rfl:k=3:=by omega
 refine zz 7 ?_
 refine J.aq rfl rfl rfl Y10 <| zz 2 ?_
 have hp3:=zcW hi2 (decide (i=0))
 rw [zoi hk,Bool.true_and] at hp3
 rw [show (false:Bool)=decide (i+1=0) from (decide_eq_false Y5).symm] at hp3
 exact X.ae (i+1) ⟨by omega,hp.trans hp3⟩ Y14 Y2 Y2
 obtain rfl:i=c.types.length:=by omega
 rw [List.drop_length] at hp
 have hty:typesB c.v.types true=true:=hp
 refine zz 11 ?_
 exact X.aa rfl (RV.tmp rfl) (fun w' hw'=>⟨congrArg (fun z=>Ending.returned (.int .i64 z)) (chk7 Y5 Y5 hp1 Y5 hp2 Y5 Y5 hty).symm,hw'.s0⟩)
end Go.Proofs.YtlllcafedekojaaGreatDoor.Ub
namespace Go.Fz
open Go Go.Fw Go.Proofs.Tryz
theorem el3:ElT prog 3 1 8 (.int .i64 0):=⟨Y12,rfl,Y18b,Y18b⟩
theorem zir:FldT prog 213 0 3 0 0:=⟨Y12,sz3⟩
theorem zuw:ElT prog 154 3 24 (.agg (zc10).toArray):=⟨Y12,rfl,Y18b,Y18b⟩
theorem zjJ:SlT prog 123 3 1:=⟨underlying123,sz3⟩
theorem el51:ElT prog 51 1 24 (.slice none 0 0):=⟨Y12,rfl,Y18b,Y18b⟩
end Go.Fz
namespace Go.Proofs.YtlllcafedekojaaGreatDoor.Uc
open Go Go.Fw Go.Fz Go.Proofs.Tryz
attribute [local irreducible] J T X
theorem CloneB (w:World) (n:Nat) (B:List (Option Nat)) (A1:Option Addr) (c1:Nat) (xs:List Nat) (hB:∀ g,some g∈B→g < w.heap.size) (e1:Cs w A1 (rowN .u8 xs)) (hl:xs.length≤1000000000000):
    Calls prog 72 [.slice A1 xs.length c1].toArray w fun e w'=>∃ q:RowIx,(xs.length≤q.cap∧Fit w' n B (hdOf q.id) (rowN .u8 xs))∧e=.returned (.slice (hdOf q.id) xs.length q.cap)∧WS w [] [] w':=(Da.Clone w A1 c1 xs e1 hl).mono fun e w' h=>h.nestC hB
theorem sizes (w:World) (n:Nat) (hn:n≤w.heap.size) (B:List (Option Nat)) (g:Nat) (hg:some g∈B) (bs:List Nat) (hd:Dg bs) (hl:bs.length≤1000000) (A:Option Addr) (c at_:Nat) (hat:at_≤bs.length) (hF:Fit w n B A (rowN .u8 bs)) (hr:Ent.At w ⟨some g,168,rdC A bs.length c (at_)⟩) (m sz:Nat) (hm:m≤100000) (hsz:sz≤4):
    Calls prog 133 [.pointer (some ⟨g,0,none⟩),.int .i64 ((m:Nat):Int),.int .i64 ((sz:Nat):Int)].toArray w fun e w'=>Go.Fw.endsIn (Gave 165 (SizesOk bs at_ sz m) w g) (fun v w'=>(SizesOk bs at_ sz m)∧at_+m*sz≤bs.length∧∃ q:RowIx,q.Ok 1 m∧v=.tuple #[q.val m,.int .i64 (((lensB bs at_ sz m).sum:Nat):Int)]∧WS w [g] [(0,⟨some g,168,rdC A bs.length c (at_+m*sz)⟩),(1,q.ent 3 (rowN .i64 (lensB bs at_ sz m)))] w') e w':=by
 refine zcq (Gave 165 (SizesOk bs at_ sz m) w g) [g] 44 [(0,⟨some g,168,rdC A bs.length c (at_)⟩)] func133 rfl ntmps133 Y20 (WS.one hr) (fun _ _ h=>h) <| zz 11 ?_
 refine J.aa zfi rfl rfl <| J.ag Y8k 0 rfl rfl zaw Y3 rfl <| J.al underlying51 rfl rfl <| J.cB rfl rfl rfl (zsa m bs.length) <| J.aQ 19 rfl (q:=0) (c0:=(min m bs.length)) underlying123 el3 rfl rfl Y192 Y192 (Nat.zero_le _) Y5 Y28 rfl fun g19 hg19=>zz 14 ?_
 refine X.ah 0 ⟨some g,168,rdC A bs.length c (at_+0*sz)⟩ rfl (by rw [Nat.zero_mul];rfl) <| zz 2 ?_
 refine T.ag (ι:=Nat×RowIx) (fun (i,r)=>i≤m∧at_+i*sz≤bs.length∧SizesOk bs at_ sz i∧r.Ok 1 i) (fun (i,r)=>[(0,.pointer (some ⟨g,0,none⟩)),(1,.int .i64 ((m:Nat):Int)),(2,.int .i64 ((sz:Nat):Int)),(6,.slice none 0 0),(7,.int .i64 0),(20,.int .i64 ((m:Nat):Int)),(21,.int .i64 ((i:Nat):Int)),(8,r.val i),(9,.int .i64 (((lensB bs at_ sz i).sum:Nat):Int))]) (fun (i,r)=>[(0,⟨some g,168,rdC A bs.length c (at_+i*sz)⟩),(19,r.ent 3 (rowN .i64 (lensB bs at_ sz i)))]) (fun (i,r)=>m - i) ⟨0,(RowIx.mk (some g19) (min m bs.length) (zeros (.int .i64 0) (min m bs.length)))⟩ ⟨Nat.zero_le _,Y14,fun j hj=>absurd hj (Nat.not_lt_zero j),zpj _ _ Y28⟩ Y0 Y0 ?_
 rintro ⟨i,r⟩ ⟨hi,hat2,hso,hr⟩
 try dsimp only at *
 have hsm:=zeY hd at_ hsz i
 have hsc:(i+1)*sz=i*sz+sz:=Nat.succ_mul i sz
 refine zz 6 ?_
 refine T.aa rfl (fun h1=>?_) (fun h1=>?_)
 have hin:i < m:=by omega
 have hnl:=zbZ hd (at_+i*sz) hsz
 refine zz 8 ?_
 refine J.bn 0 (cs':=rdC A bs.length c (at_+i*sz+sz)) rfl rfl zes rfl rfl (fun w hw=>(Ua.next w n (Nat.le_trans hn hw.size) (B++ids [(0,⟨some g,168,rdC A bs.length c (at_+i*sz)⟩),(19,r.ent 3 (rowN .i64 (lensB bs at_ sz i)))]) g Y133 bs hd hl A c (at_+i*sz) Y5 (hF.keep (zad (B0:=B) (l1:=[(0,⟨some g,168,rdC A bs.length c (at_+i*sz)⟩),(19,r.ent 3 (rowN .i64 (lensB bs at_ sz i)))]) hn Y153 hw Y0 rfl)) (hw.live 0 _ rfl) sz hsz).mono fun e w2 he=>zbd he (fun ch w3 hg=>⟨hg.1,fun q=>hg.2.1 (q i hin).1,hw.gave hg.2.2 0 rfl rfl (Sub.nil _) (fun j e2 q=>by rw [show lk [] j=none from rfl] at q;cases q)⟩)) fun ha26=>?_
 refine zz 12 ?_
 refine J.as 31 (.bool (decide (0 < numB bs (at_+i*sz) sz))) rfl Y156 <| zz 1 ?_
 refine J.bo zcB rfl rfl (fun w hw=>(Ua.ask w _ (0 < numB bs (at_+i*sz) sz) 56 ((((at_+i*sz):Nat):Int)) Y23).mono fun e w2 he=>zbd he (fun ch w3 hg=>⟨hg.1,fun q=>hg.2.1 (q i hin).2,(hw.join0 hg.2.2).s0⟩)) fun ha33=>?_
 refine zz 6 ?_
 refine J.aD 36 rfl underlying123 el3 Y23 rfl [.int .i64 ((numB bs (at_+i*sz) sz:Nat):Int)] rfl rfl rfl fun g36 hg36=>J.ay 19 rfl underlying123 el3 rfl hr (by rw [zap,zjg,Nat.mul_one]) rfl rfl rfl (fun w hw=>(hw.blkCs (k:=36) rfl)) Y134 Y5 Y28 rfl (i+1) rfl (rowN .i64 (lensB bs at_ sz (i+1))) (by rw [zfz];simp [rowN]) fun r37 hr37=>zz 6 ?_
 refine J.aq rfl rfl rfl (zdT _ _ Y5) <| J.as 40 (.int .i64 (((lensB bs at_ sz (i+1)).sum:Nat):Int)) rfl (by rw [zfz,List.sum_append];simp only [List.sum_cons,List.sum_nil,Nat.add_zero]) <| zz 5 ?_
 refine J.aq rfl rfl rfl Y10 <| zz 2 ?_
 refine X.ah 0 ⟨some g,168,rdC A bs.length c (at_+(i+1)*sz)⟩ rfl (congrArg (fun z=>Ent.mk (some g) 168 (rdC A bs.length c z)) (by rw [hsc,Nat.add_assoc])) ?_
 exact X.ae ⟨(i+1),r37⟩ ⟨Y14,Y14,zao hso ⟨by assumption,by assumption⟩,hr37⟩ Y14 Y0 Y0
 obtain rfl:i=m:=by omega
 refine zz 12 ?_
 refine X.mv 19 1 rfl <| zz 2 ?_
 exact X.ag rfl (RV.tmp rfl) (RV.tmp rfl) (fun w' hw'=>⟨hso,hat2,r,hr,rfl,hw'.sub (Sub.cons rfl (Sub.cons rfl (Sub.nil _)))⟩)
theorem types (w:World) (n:Nat) (hn:n≤w.heap.size) (B:List (Option Nat)) (g:Nat) (hg:some g∈B) (bs:List Nat) (hd:Dg bs) (hl:bs.length≤1000000) (A:Option Addr) (c at_:Nat) (hat:at_≤bs.length) (hF:Fit w n B A (rowN .u8 bs)) (hr:Ent.At w ⟨some g,168,rdC A bs.length c (at_)⟩) (gc:Nat) (hgc:some gc∈B) (hne:g≠gc) (cr:CtR) (hc1:cr.types=[]) (hc2:cr.tA=none) (hc3:cr.tC=0) (hcr:Ent.At w ⟨some gc,122,(cr.cells)⟩) (m:Nat) (hm:m≤100000):
    Calls prog 134 [.pointer (some ⟨g,0,none⟩),.pointer (some ⟨gc,0,none⟩),.int .i64 ((m:Nat):Int)].toArray w fun e w'=>Go.Fw.endsIn (GaveC 165 122 (TypesOk bs at_ m) w g gc) (fun v w'=>(TypesOk bs at_ m)∧∃ q:RowIx,q.Ok 3 (tysB bs at_ m).length∧v=.tuple #[]∧WS w [g,gc] [(0,⟨some g,168,rdC A bs.length c (at_+m*4)⟩),(1,⟨some gc,122,((cr.typed (tysB bs at_ m) q).cells)⟩),(60,q.ent 154 (rowTy (tysB bs at_ m)))] w') e w':=by
 refine zcq (GaveC 165 122 (TypesOk bs at_ m) w g gc) [g,gc] 55 [(0,⟨some g,168,rdC A bs.length c (at_)⟩),(1,⟨some gc,122,(cr.cells)⟩)] func134 rfl ntmps134 Y20 (WS.two hr hcr hne) (fun _ _ h=>h) <| zz 2 ?_
 refine J.aj Y8k zqX rfl rfl (fun w hw=>Ub.bounds w) ?_
 refine J.am 6 rfl zmE zc4 rfl rfl fun g6 hg6=>J.ae 6 rfl rfl rfl rfl boundsL rfl ztq (Nat.le_of_ble_eq_true rfl) zku Y23 trivial boundsL rfl <| zz 3 ?_
 refine T.aj 60 154 <| zz 4 ?_
 refine X.ah 0 ⟨some g,168,rdC A bs.length c (at_+0*4)⟩ rfl (by rw [Nat.zero_mul];rfl) <| X.ah 1 ⟨some gc,122,((cr.typed (tysB bs at_ 0) RowIx.nil).cells)⟩ rfl (by rw [show tysB bs at_ 0=[] from rfl,zmM hc1 hc2 hc3]) <| zz 2 ?_
 refine T.ag (ι:=Nat×RowIx) (fun (i,r)=>i≤m∧at_+i*4≤bs.length∧TypesOk bs at_ i∧r.Ok 3 (tysB bs at_ i).length) (fun (i,r)=>[(0,.pointer (some ⟨g,0,none⟩)),(1,.pointer (some ⟨gc,0,none⟩)),(2,.int .i64 ((m:Nat):Int)),(13,.agg boundsL.toArray),(6,.pointer (some ⟨g6,0,none⟩)),(14,.int .i64 ((m:Nat):Int)),(15,.int .i64 ((i:Nat):Int))]) (fun (i,r)=>[(6,⟨some g6,214,boundsL⟩),(0,⟨some g,168,rdC A bs.length c (at_+i*4)⟩),(1,⟨some gc,122,((cr.typed (tysB bs at_ i) r).cells)⟩),(60,r.ent 154 (rowTy (tysB bs at_ i)))]) (fun (i,r)=>m - i) ⟨0,RowIx.nil⟩ ⟨Nat.zero_le _,Y14,fun j hj=>absurd hj (Nat.not_lt_zero j),RowIx.nil_ok 3⟩ Y0 Y0 ?_
 rintro ⟨i,r⟩ ⟨hi,hat2,hto,hr⟩
 try dsimp only at *
 refine zz 6 ?_
 refine T.aa rfl (fun h1=>?_) (fun h1=>?_)
 have hin:i < m:=by omega
 have hl0:=zbZ hd (at_+i*4) (by decide:1≤4)
 have hl1:=zbZ hd (at_+i*4+1) (by decide:1≤4)
 have hl2:=zbZ hd (at_+i*4+2) (by decide:2≤4)
 refine zz 12 ?_
 refine J.am 8 rfl zcD zc10 rfl rfl fun g8 hg8=>zz 1 ?_
 refine X.ah 8 ⟨some g8,154,((tyP bs (at_+i*4) 0).cells)⟩ rfl Y22 <| X.ah 0 ⟨some g,168,rdC A bs.length c (at_+i*4+offK 0)⟩ rfl Y22 <| zz 4 ?_
 refine J.ai Y8k 6 rfl rfl zrm boundsL rfl rfl rfl <| zz 4 ?_
 refine T.ag (ι:=Nat) (fun (k:Nat)=>k≤3∧at_+i*4+offK k≤bs.length∧∀ q,q < k→fitK q (decide (i=0)) ((tyT bs (at_+i*4)).field q)=true) (fun (k:Nat)=>[(0,.pointer (some ⟨g,0,none⟩)),(1,.pointer (some ⟨gc,0,none⟩)),(2,.int .i64 ((m:Nat):Int)),(13,.agg boundsL.toArray),(6,.pointer (some ⟨g6,0,none⟩)),(14,.int .i64 ((m:Nat):Int)),(15,.int .i64 ((i:Nat):Int)),(17,.int .i64 ((i:Nat):Int)),(7,.int .i64 ((i:Nat):Int)),(8,.pointer (some ⟨g8,0,none⟩)),(18,.agg boundsL.toArray),(19,.int .i64 ((k:Nat):Int))]) (fun (k:Nat)=>[(6,⟨some g6,214,boundsL⟩),(1,⟨some gc,122,((cr.typed (tysB bs at_ i) r).cells)⟩),(60,r.ent 154 (rowTy (tysB bs at_ i))),(0,⟨some g,168,rdC A bs.length c (at_+i*4+offK k)⟩),(8,⟨some g8,154,((tyP bs (at_+i*4) k).cells)⟩)]) (fun (k:Nat)=>3 - k) 0 ⟨Nat.zero_le _,hat2,fun q hq=>absurd hq (Nat.not_lt_zero q)⟩ Y0 Y0 ?_
 rintro k ⟨hk3,hat3,hk⟩
 refine zz 6 ?_
 refine T.aa rfl (fun h2=>?_) (fun h2=>?_)
 rcases (show k=0∨k=1∨k=2 from by omega) with rfl | rfl | rfl
 refine zz 6 ?_
 refine J.aW zhM zhN rfl rfl Y23 Y23 rfl rfl rfl <| J.am 10 rfl zfm zc11 rfl rfl fun g10 hg10=>J.ae 10 rfl rfl rfl rfl (boundL 0) rfl zjC (Nat.le_of_ble_eq_true rfl) (zcg 0) Y23 trivial (boundL 0) rfl <| zz 5 ?_
 refine J.aa zir rfl rfl <| J.ag Y8k 10 rfl rfl one3 rfl rfl <| J.bn 0 (cs':=rdC A bs.length c (at_+i*4+offK 1)) rfl rfl zes rfl rfl (fun w hw=>((Ua.next w n (Nat.le_trans hn hw.size) (B++ids [(6,⟨some g6,214,boundsL⟩),(1,⟨some gc,122,((cr.typed (tysB bs at_ i) r).cells)⟩),(60,r.ent 154 (rowTy (tysB bs at_ i))),(0,⟨some g,168,rdC A bs.length c (at_+i*4+offK 0)⟩),(8,⟨some g8,154,((tyP bs (at_+i*4) 0).cells)⟩),(10,⟨some g10,213,(boundL 0)⟩)]) g Y133 bs hd hl A c (at_+i*4+offK 0) hat3 (hF.keep (zad (B0:=B) (l1:=[(6,⟨some g6,214,boundsL⟩),(1,⟨some gc,122,((cr.typed (tysB bs at_ i) r).cells)⟩),(60,r.ent 154 (rowTy (tysB bs at_ i))),(0,⟨some g,168,rdC A bs.length c (at_+i*4+offK 0)⟩),(8,⟨some g8,154,((tyP bs (at_+i*4) 0).cells)⟩),(10,⟨some g10,213,(boundL 0)⟩)]) hn Y124 hw Y0 rfl)) (hw.live 0 _ rfl) 1 Y23)).mono fun e w2 he=>zbd he (fun ch w3 hg=>⟨hg.1,fun q=>hg.2.1 (by have:=(q i hin).1;show at_+i*4+0+1≤_;omega),⟨_,hw.gave hg.2.2 0 rfl rfl (Sub.cons rfl (Sub.nil _)) (fun j e2 q=>zle q rfl)⟩⟩)) fun ha26=>?_
 have hle0:at_+i*4+0+1≤bs.length:=ha26
 refine zz 10 ?_
 refine J.aa zej rfl rfl <| J.ag Y8k 10 rfl rfl zhC rfl rfl <| zz 2 ?_
 refine J.as 33 (.bool (decide (i=0))) rfl Y156 <| zz 1 ?_
 refine J.aH zqT rfl rfl rfl (fun w hw=>Ub.fits0 w (i=0) _) ?_
 refine J.as 35 (.bool (decide (fitK 0 (decide (i=0)) ((tyT bs (at_+i*4)).field 0)=true))) rfl Y154 <| zz 1 ?_
 refine J.bo zcB rfl rfl (fun w hw=>(Ua.ask w _ (fitK 0 (decide (i=0)) ((tyT bs (at_+i*4)).field 0)=true) 59 (((at_+i*4+offK 0:Nat):Int)) Y23).mono fun e w2 he=>zbd he (fun ch w3 hg=>⟨hg.1,fun q=>hg.2.1 ((zdn _ _).1 (q i hin).2 0 Y23),⟨_,(hw.join0 hg.2.2).sub (Sub.cons rfl (Sub.nil _))⟩⟩)) fun ha37=>?_
 refine zz 3 ?_
 refine J.aa zei rfl rfl <| J.ag Y8k 10 rfl rfl zhB rfl rfl <| J.aH zqS rfl rfl rfl (fun w hw=>Ub.val0 w g8) ?_
 refine zz 2 ?_
 refine J.ae 8 rfl rfl rfl rfl [.int .i64 ((numB bs (at_+i*4) 1:Nat):Int)] rfl sz3 (Nat.le_of_ble_eq_true rfl) Y6 Y11 trivial ((tyP bs (at_+i*4) 1).cells) rfl <| zz 4 ?_
 refine J.aq rfl rfl rfl Y10 <| J.as 43 (.int .i64 ((1:Nat):Int)) rfl Y22 <| zz 2 ?_
 exact X.ae 1 ⟨by decide,(by show at_+i*4+1≤_;omega),zao hk Y195⟩ Y23 Y0 Y0
 refine zz 6 ?_
 refine J.aW zhM zhN rfl rfl Y23 Y23 rfl rfl rfl <| J.am 10 rfl zfm zc11 rfl rfl fun g10 hg10=>J.ae 10 rfl rfl rfl rfl (boundL 1) rfl zjC (Nat.le_of_ble_eq_true rfl) (zcg 1) Y23 trivial (boundL 1) rfl <| zz 5 ?_
 refine J.aa zir rfl rfl <| J.ag Y8k 10 rfl rfl one3 rfl rfl <| J.bn 0 (cs':=rdC A bs.length c (at_+i*4+offK 2)) rfl rfl zes rfl rfl (fun w hw=>((Ua.next w n (Nat.le_trans hn hw.size) (B++ids [(6,⟨some g6,214,boundsL⟩),(1,⟨some gc,122,((cr.typed (tysB bs at_ i) r).cells)⟩),(60,r.ent 154 (rowTy (tysB bs at_ i))),(0,⟨some g,168,rdC A bs.length c (at_+i*4+offK 1)⟩),(8,⟨some g8,154,((tyP bs (at_+i*4) 1).cells)⟩),(10,⟨some g10,213,(boundL 1)⟩)]) g Y133 bs hd hl A c (at_+i*4+offK 1) hat3 (hF.keep (zad (B0:=B) (l1:=[(6,⟨some g6,214,boundsL⟩),(1,⟨some gc,122,((cr.typed (tysB bs at_ i) r).cells)⟩),(60,r.ent 154 (rowTy (tysB bs at_ i))),(0,⟨some g,168,rdC A bs.length c (at_+i*4+offK 1)⟩),(8,⟨some g8,154,((tyP bs (at_+i*4) 1).cells)⟩),(10,⟨some g10,213,(boundL 1)⟩)]) hn Y124 hw Y0 rfl)) (hw.live 0 _ rfl) 1 Y23)).mono fun e w2 he=>zbd he (fun ch w3 hg=>⟨hg.1,fun q=>hg.2.1 (by have:=(q i hin).1;show at_+i*4+1+1≤_;omega),⟨_,hw.gave hg.2.2 0 rfl rfl (Sub.cons rfl (Sub.nil _)) (fun j e2 q=>zle q rfl)⟩⟩)) fun ha26=>?_
 have hle1:at_+i*4+1+1≤bs.length:=ha26
 refine zz 10 ?_
 refine J.aa zej rfl rfl <| J.ag Y8k 10 rfl rfl zhC rfl rfl <| zz 2 ?_
 refine J.as 33 (.bool (decide (i=0))) rfl Y156 <| zz 1 ?_
 refine J.aH zqR rfl rfl rfl (fun w hw=>Ub.fits1 w (i=0) _) ?_
 refine J.as 35 (.bool (decide (fitK 1 (decide (i=0)) ((tyT bs (at_+i*4)).field 1)=true))) rfl Y154 <| zz 1 ?_
 refine J.bo zcB rfl rfl (fun w hw=>(Ua.ask w _ (fitK 1 (decide (i=0)) ((tyT bs (at_+i*4)).field 1)=true) 59 (((at_+i*4+offK 1:Nat):Int)) Y23).mono fun e w2 he=>zbd he (fun ch w3 hg=>⟨hg.1,fun q=>hg.2.1 ((zdn _ _).1 (q i hin).2 1 Y23),⟨_,(hw.join0 hg.2.2).sub (Sub.cons rfl (Sub.nil _))⟩⟩)) fun ha37=>?_
 refine zz 3 ?_
 refine J.aa zei rfl rfl <| J.ag Y8k 10 rfl rfl zhB rfl rfl <| J.aH zqQ rfl rfl rfl (fun w hw=>Ub.val1 w g8) ?_
 refine zz 2 ?_
 refine J.ae 8 rfl rfl rfl rfl [.int .i64 ((numB bs (at_+i*4+1) 1:Nat):Int)] rfl sz3 (Nat.le_of_ble_eq_true rfl) Y6 Y11 trivial ((tyP bs (at_+i*4) 2).cells) rfl <| zz 4 ?_
 refine J.aq rfl rfl rfl Y10 <| J.as 43 (.int .i64 ((2:Nat):Int)) rfl Y22 <| zz 2 ?_
 exact X.ae 2 ⟨by decide,(by show at_+i*4+2≤_;omega),zao hk Y195⟩ Y23 Y0 Y0
 refine zz 6 ?_
 refine J.aW zhM zhN rfl rfl Y23 Y23 rfl rfl rfl <| J.am 10 rfl zfm zc11 rfl rfl fun g10 hg10=>J.ae 10 rfl rfl rfl rfl (boundL 2) rfl zjC (Nat.le_of_ble_eq_true rfl) (zcg 2) Y23 trivial (boundL 2) rfl <| zz 5 ?_
 refine J.aa zir rfl rfl <| J.ag Y8k 10 rfl rfl one3 rfl rfl <| J.bn 0 (cs':=rdC A bs.length c (at_+i*4+offK 3)) rfl rfl zes rfl rfl (fun w hw=>((Ua.next w n (Nat.le_trans hn hw.size) (B++ids [(6,⟨some g6,214,boundsL⟩),(1,⟨some gc,122,((cr.typed (tysB bs at_ i) r).cells)⟩),(60,r.ent 154 (rowTy (tysB bs at_ i))),(0,⟨some g,168,rdC A bs.length c (at_+i*4+offK 2)⟩),(8,⟨some g8,154,((tyP bs (at_+i*4) 2).cells)⟩),(10,⟨some g10,213,(boundL 2)⟩)]) g Y133 bs hd hl A c (at_+i*4+offK 2) hat3 (hF.keep (zad (B0:=B) (l1:=[(6,⟨some g6,214,boundsL⟩),(1,⟨some gc,122,((cr.typed (tysB bs at_ i) r).cells)⟩),(60,r.ent 154 (rowTy (tysB bs at_ i))),(0,⟨some g,168,rdC A bs.length c (at_+i*4+offK 2)⟩),(8,⟨some g8,154,((tyP bs (at_+i*4) 2).cells)⟩),(10,⟨some g10,213,(boundL 2)⟩)]) hn Y124 hw Y0 rfl)) (hw.live 0 _ rfl) 2 Y23)).mono fun e w2 he=>zbd he (fun ch w3 hg=>⟨hg.1,fun q=>hg.2.1 (by have:=(q i hin).1;show at_+i*4+2+2≤_;omega),⟨_,hw.gave hg.2.2 0 rfl rfl (Sub.cons rfl (Sub.nil _)) (fun j e2 q=>zle q rfl)⟩⟩)) fun ha26=>?_
 have hle2:at_+i*4+2+2≤bs.length:=ha26
 refine zz 10 ?_
 refine J.aa zej rfl rfl <| J.ag Y8k 10 rfl rfl zhC rfl rfl <| zz 2 ?_
 refine J.as 33 (.bool (decide (i=0))) rfl Y156 <| zz 1 ?_
 refine J.aH zqP rfl rfl rfl (fun w hw=>Ub.fits2 w (i=0) _) ?_
 refine J.as 35 (.bool (decide (fitK 2 (decide (i=0)) ((tyT bs (at_+i*4)).field 2)=true))) rfl Y154 <| zz 1 ?_
 refine J.bo zcB rfl rfl (fun w hw=>(Ua.ask w _ (fitK 2 (decide (i=0)) ((tyT bs (at_+i*4)).field 2)=true) 59 (((at_+i*4+offK 2:Nat):Int)) Y23).mono fun e w2 he=>zbd he (fun ch w3 hg=>⟨hg.1,fun q=>hg.2.1 ((zdn _ _).1 (q i hin).2 2 Y23),⟨_,(hw.join0 hg.2.2).sub (Sub.cons rfl (Sub.nil _))⟩⟩)) fun ha37=>?_
 refine zz 3 ?_
 refine J.aa zei rfl rfl <| J.ag Y8k 10 rfl rfl zhB rfl rfl <| J.aH zqO rfl rfl rfl (fun w hw=>Ub.val2 w g8) ?_
 refine zz 2 ?_
 refine J.ae 8 rfl rfl rfl rfl [.int .i64 ((numB bs (at_+i*4+2) 2:Nat):Int)] rfl sz3 (Nat.le_of_ble_eq_true rfl) Y6 Y11 trivial ((tyP bs (at_+i*4) 3).cells) rfl <| zz 4 ?_
 refine J.aq rfl rfl rfl Y10 <| J.as 43 (.int .i64 ((3:Nat):Int)) rfl Y22 <| zz 2 ?_
 exact X.ae 3 ⟨by decide,(by show at_+i*4+4≤_;omega),zao hk Y195⟩ Y23 Y0 Y0
 obtain rfl:k=3:=by omega
 have hfit:=(zdn (tyT bs (at_+i*4)) (decide (i=0))).2 hk
 have hle4:at_+i*4+4≤bs.length:=hat3
 refine zz 5 ?_
 refine T.an [(1,⟨some gc,122,((cr.typed (tysB bs at_ i) r).cells)⟩)] [(0,.g),(1,.g),(2,.g),(3,.g),(4,.s),(5,.q),(6,.l),(7,.l),(8,.g),(9,.g)] [] [(10,.l)] Y12 Y12 Y12 ?_ Y0
 refine zz 3 ?_
 refine J.aa zbi rfl rfl <| J.aJ 1 rfl rfl zby Y3 rfl <| J.ai Y8k 8 rfl rfl zdy ((tyT bs (at_+i*4)).cells) rfl rfl rfl <| J.aD 50 rfl underlying120 zuw Y23 rfl ((tyT bs (at_+i*4)).cells) rfl rfl rfl fun g50 hg50=>J.ay 60 rfl underlying120 zuw rfl hr (zdI _) rfl rfl rfl (fun w hw=>(hw.blkCs (k:=50) rfl)) (TyV.cells_one _) (by rw [zcV];omega) (by unfold maxLen;rw [zcV];omega) rfl (tysB bs at_ (i+1)).length (by rw [zcV,zcV]) (rowTy (tysB bs at_ (i+1))) (by rw [zmL,zme]) fun r51 hr51=>zz 1 ?_
 refine J.aa zbi rfl rfl ?_
 refine J.bw [(6,⟨some g6,214,boundsL⟩),(0,⟨some g,168,rdC A bs.length c (at_+i*4+offK 3)⟩),(1,⟨some gc,122,((cr.typed (tysB bs at_ i) r).cells)⟩),(60,r51.ent 154 (rowTy (tysB bs at_ (i+1))))] Y0 ?_ (Sub.nil _)
 refine J.ae 1 rfl rfl rfl rfl [r51.val (tysB bs at_ (i+1)).length] rfl zrB (Nat.le_of_ble_eq_true rfl) Y27 Y11 trivial ((cr.typed (tysB bs at_ (i+1)) r51).cells) rfl <| zz 1 ?_
 refine X.ah 0 ⟨some g,168,rdC A bs.length c (at_+(i+1)*4)⟩ rfl (congrArg (fun z=>Ent.mk (some g) 168 (rdC A bs.length c z)) (by show at_+i*4+4=_;omega)) <| zz 3 ?_
 refine J.aq rfl rfl rfl Y10 <| zz 2 ?_
 exact X.ae ⟨(i+1),r51⟩ ⟨Y14,Y14,zao hto ⟨hle4,hfit⟩,hr51⟩ Y14 Y0 Y0
 obtain rfl:i=m:=by omega
 refine zz 4 ?_
 exact X.am rfl (fun w' hw'=>⟨hto,r,hr,rfl,hw'.sub (Sub.cons rfl (Sub.cons rfl (Sub.cons rfl (Sub.nil _))))⟩)
theorem cut (w:World) (n:Nat) (hn:n≤w.heap.size) (B:List (Option Nat)) (g:Nat) (hg:some g∈B) (bs:List Nat) (hd:Dg bs) (hl:bs.length≤1000000) (A:Option Addr) (c at_:Nat) (hat:at_≤bs.length) (hF:Fit w n B A (rowN .u8 bs)) (hr:Ent.At w ⟨some g,168,rdC A bs.length c (at_)⟩) (hcap:bs.length≤c) (hB:∀ g,some g∈B→g < w.heap.size) (sA:Option Addr) (sC:Nat) (ns:List Nat) (hS:Fit w n B sA (rowN .i64 ns)) (hnl:ns.length≤100000) (hsum:at_+ns.sum≤bs.length):
    Calls prog 135 [.pointer (some ⟨g,0,none⟩),.slice sA ns.length sC].toArray w fun e w'=>∃ q:List ByR×RowIx,(q.1.map ByR.b=cutH bs at_ ns∧q.2.Ok 1 q.1.length∧Fit w' n B (hdOf q.2.id) (rowBy q.1)∧AllBy w' n B q.1)∧e=.returned (q.2.val q.1.length)∧WS w [g] [(0,⟨some g,168,rdC A bs.length c (at_+ns.sum)⟩)] w':=by
 refine zac [g] 49 [(0,⟨some g,168,rdC A bs.length c (at_)⟩)] func135 rfl ntmps135 Y20 (WS.one hr) <| zz 6 ?_
 refine T.aj 60 51 <| zz 8 ?_
 refine J.al underlying123 rfl rfl <| zz 2 ?_
 refine X.ah 0 ⟨some g,168,rdC A bs.length c (at_+(ns.take 0).sum)⟩ rfl Y22 <| zz 2 ?_
 refine T.al [(0,⟨some g,168,rdC A bs.length c (at_+(ns.take 0).sum)⟩),(60,⟨none,51,[]⟩)] Y0 rfl fun Wl1 hWWl1=>?_
 have kpWl1:=(zad (B0:=B) (l1:=[(0,⟨some g,168,rdC A bs.length c (at_+(ns.take 0).sum)⟩),(60,⟨none,51,[]⟩)]) hn Y153 hWWl1 Y0 rfl)
 have hF:=hF.keep kpWl1
 have hS:=hS.keep kpWl1
 have hVWl1:=hWWl1.s0
 refine T.ag (ι:=World×Nat×List ByR×RowIx) (fun (W,i,zs,r)=>i≤ns.length∧zs.map ByR.b=cutH bs at_ (ns.take i)∧zs.length=i∧r.Ok 1 zs.length∧WS w [g] [] W∧Fit W n (B++[some g,r.id]) A (rowN .u8 bs)∧Fit W n (B++[some g,r.id]) sA (rowN .i64 ns)∧AllBy W n (B++[some g,r.id]) zs) (fun (W,i,zs,r)=>[(0,.pointer (some ⟨g,0,none⟩)),(1,.slice sA ns.length sC),(4,.slice none 0 0),(8,.slice sA ns.length sC),(9,.int .i64 ((ns.length:Nat):Int)),(10,.int .i64 ((i:Nat):Int)),(5,r.val zs.length)]) (fun (W,i,zs,r)=>((0,⟨some g,168,rdC A bs.length c (at_+(ns.take i).sum)⟩)::(60,r.ent 51 (rowBy zs))::snapL W w.heap.size [some g,r.id])) (fun (W,i,zs,r)=>ns.length - i) ⟨Wl1,0,[],RowIx.nil⟩ ⟨Nat.zero_le _,rfl,rfl,RowIx.nil_ok 1,hVWl1,hF,hS,AllBy.nil⟩ Y0 Y0 ?_
 rintro ⟨W,i,zs,r⟩ ⟨hi,hm,hzl,hr,hV,hF,hS,hz⟩
 try dsimp only at *
 refine zz 6 ?_
 refine T.aa rfl (fun h2=>?_) (fun h2=>?_)
 have hi2:i < ns.length:=by omega
 have hst:=zjD ns (i+1)
 rw [zeI hi2] at hst
 refine zz 6 ?_
 refine J.ah zjJ rfl (hS.isSome Y186) rfl Y5 Y5 Y8 rfl <| J.aG Y8k (fun w hw=>(hS.keep (zaa (I:=[some g,r.id]) (B0:=B) (l1:=[]) hV hn Y153 hw Y4 (Sub.nil _) rfl)).cs) rfl one3 Y3 rfl <| zz 4 ?_
 refine T.ae [] [(0,.g),(1,.g),(2,.g),(3,.g),(4,.q),(5,.g),(6,.g),(7,.g),(8,.q),(9,.g),(10,.g),(11,.g),(12,.q),(13,.g),(14,.g),(15,.g),(16,.g),(17,.g),(18,.q),(19,.g),(20,.g),(21,.g),(22,.l),(23,.l),(24,.l),(25,.g)] Y12 Y12 ?_ Y0
 refine zz 3 ?_
 refine J.aa zfi rfl rfl <| J.ag Y8k 0 rfl rfl zaw Y3 rfl <| zz 2 ?_
 refine J.aa zbB rfl rfl <| J.ag Y8k 0 rfl rfl one3 Y3 rfl <| zz 2 ?_
 refine J.aa zbB rfl rfl <| J.ag Y8k 0 rfl rfl one3 Y3 rfl <| zz 1 ?_
 refine J.aq rfl rfl rfl Y142 <| zz 2 ?_
 refine J.aa zbB rfl rfl <| J.ag Y8k 0 rfl rfl one3 Y3 rfl <| zz 1 ?_
 refine J.aq rfl rfl rfl Y142 <| J.ax sl51 rfl (optInt.some rfl Y5 Y8) (optInt.some rfl Y5 Y8) (optInt.some rfl Y5 Y8) Y20 (Nat.le_add_right _ _) (Nat.le_refl _) Y5 rfl rfl <| J.as 35 (.slice (if (at_+(ns.take i).sum)+(ns.getD i 0)=(at_+(ns.take i).sum) then A else A.map (·.add ((at_+(ns.take i).sum)*1))) ((bs.drop (at_+(ns.take i).sum)).take (ns.getD i 0)).length ((at_+(ns.take i).sum)+(ns.getD i 0) - (at_+(ns.take i).sum))) rfl (by rw [ziW Y5,Nat.add_sub_cancel_left]) <| J.aw zjl rfl rfl _ _ [(0,⟨some g,168,rdC A bs.length c (at_+(ns.take i).sum)⟩),(60,r.ent 51 (rowBy zs))] Y0 rfl (fun _ _=>Sub.nil _) (fun w hw=>CloneB w n (B++ids [(0,⟨some g,168,rdC A bs.length c (at_+(ns.take i).sum)⟩),(60,r.ent 51 (rowBy zs))]) _ _ _ (zaf (l1:=[(0,⟨some g,168,rdC A bs.length c (at_+(ns.take i).sum)⟩),(60,r.ent 51 (rowBy zs))]) hB hw Y0 rfl) (cut83 (hF.keep (zaa (I:=[some g,r.id]) (B0:=B) (l1:=[(0,⟨some g,168,rdC A bs.length c (at_+(ns.take i).sum)⟩),(60,r.ent 51 (rowBy zs))]) hV hn Y153 hw Y4 Y0 rfl)).cs (at_+(ns.take i).sum) (ns.getD i 0)) (by rw [ziW Y5];omega)) fun i36 W36 hP36 hW36=>?_
 obtain ⟨hcp36,hP36⟩:=hP36
 have kpW36:=(zaa (I:=[some g,r.id]) (B0:=B) (l1:=[(0,⟨some g,168,rdC A bs.length c (at_+(ns.take i).sum)⟩),(60,r.ent 51 (rowBy zs))]) hV hn Y153 hW36 Y4 Y0 rfl)
 have hF:=hF.keep kpW36
 have hS:=hS.keep kpW36
 have hz:=hz.keep kpW36
 have hVW36:=hW36.s0
 refine J.aD 37 rfl underlying45 el51 Y23 rfl ((ByR.mk ((bs.drop (at_+(ns.take i).sum)).take (ns.getD i 0)) (hdOf i36.id) i36.cap).cells) rfl rfl rfl fun g37 hg37=>J.ay 60 rfl underlying45 el51 rfl hr (zcy zs) rfl rfl rfl (fun w hw=>(hw.blkCs (k:=37) rfl)) (ByR.cells_one _) Y5 Y28 rfl (zs++[(ByR.mk ((bs.drop (at_+(ns.take i).sum)).take (ns.getD i 0)) (hdOf i36.id) i36.cap)]).length Y25 (rowBy (zs++[(ByR.mk ((bs.drop (at_+(ns.take i).sum)).take (ns.getD i 0)) (hdOf i36.id) i36.cap)])) (zmh _ _).symm fun r38 hr38=>zz 6 ?_
 refine J.aa zbB rfl rfl <| J.ag Y8k 0 rfl rfl one3 Y3 rfl <| zz 1 ?_
 refine J.aq rfl rfl rfl Y142 <| zz 1 ?_
 refine J.aa zbB rfl rfl <| J.ae 0 rfl rfl rfl rfl [.int .i64 (((at_+(ns.take i).sum)+(ns.getD i 0):Nat):Int)] rfl sz3 Y7 Y6 Y11 trivial (rdC A bs.length c ((at_+(ns.take i).sum)+(ns.getD i 0))) rfl <| zz 1 ?_
 refine X.ah 0 ⟨some g,168,rdC A bs.length c (at_+(ns.take (i+1)).sum)⟩ rfl (congrArg (fun z=>Ent.mk (some g) 168 (rdC A bs.length c z)) (by rw [zeI hi2,Nat.add_assoc])) <| zz 3 ?_
 refine J.aq rfl rfl rfl Y10 <| zz 2 ?_
 refine X.aj [(0,⟨some g,168,rdC A bs.length c (at_+(ns.take (i+1)).sum)⟩),(60,r38.ent 51 (rowBy (zs++[(ByR.mk ((bs.drop (at_+(ns.take i).sum)).take (ns.getD i 0)) (hdOf i36.id) i36.cap)])))] Y0 rfl fun Wx3 hWWx3=>?_
 have kpWx3:=(zaa (I:=[some g,r.id]) (B0:=B) (l1:=[(0,⟨some g,168,rdC A bs.length c (at_+(ns.take (i+1)).sum)⟩),(60,r38.ent 51 (rowBy (zs++[(ByR.mk ((bs.drop (at_+(ns.take i).sum)).take (ns.getD i 0)) (hdOf i36.id) i36.cap)])))]) hVW36 hn Y153 hWWx3 Y4 Y0 rfl)
 have hF:=hF.keep kpWx3
 have hS:=hS.keep kpWx3
 have hz:=hz.keep kpWx3
 have hP36:=hP36.keep kpWx3
 have hVWx3:=hWWx3.s0
 exact X.ae ⟨Wx3,(i+1),(zs++[(ByR.mk ((bs.drop (at_+(ns.take i).sum)).take (ns.getD i 0)) (hdOf i36.id) i36.cap)]),r38⟩ ⟨by show i+1≤_;omega,by rw [List.map_append,hm,zcH hi2,zjt];rfl,by dsimp only;rw [List.length_append,hzl];rfl,hr38,hVWx3,hF,hS,hz.snoc ⟨(hd.drop _).take _,hcp36,hP36⟩⟩ Y14 Y0 Y0
 obtain rfl:i=ns.length:=by omega
 rw [List.take_length] at hm
 refine zz 12 ?_
 exact X.aa rfl (RV.tmp rfl) (fun w' hw'=>⟨(zs,r),⟨hm,hr,zbC hw' (j:=60) rfl (fun g2 h=>by by_cases q:g2=g;exact .inr ⟨0,_,rfl,by decide,by rw [q]⟩;exact .inl ⟨hB g2 h,fun q2=>q (List.mem_singleton.1 q2)⟩),hz.keep (((zaa (I:=[some g,r.id]) (B0:=B) (l1:=[]) hV hn Y153 hw' Y4 (Sub.nil _) rfl)).le (fun o h=>List.mem_append_left _ h))⟩,rfl,hw'.only 0 0 (by rw [List.take_length];rfl)⟩)
end Go.Proofs.YtlllcafedekojaaGreatDoor.Uc
namespace Go.Fz
open Go Go.Fw Go.Proofs.Tryz
theorem zre:FnOk prog 129:=FnOk.mk' func129 Y12 rfl
theorem zcT:AggT prog 122 5:=⟨⟨_,underlying122,rfl⟩,Y12⟩
theorem zaL:AggT prog 125 4:=⟨⟨_,underlying125,rfl⟩,Y12⟩
theorem zrt:ZeroT prog 165 (.agg ([.int .i64 0,.int .i64 0]).toArray):=Y17
theorem sz165:SizeT prog 165 2:=Y9
theorem zpV:FldT prog 165 0 26 0 0:=⟨Y12,sz26⟩
theorem zpU:FldT prog 165 1 3 1 0:=⟨Y12,sz3⟩
theorem zlW:SizeT prog 122 5:=Y9
theorem zbq:SizeT prog 125 4:=Y9
theorem zhP:ZeroT prog 122 (.agg (zc5).toArray):=Y17
theorem zdB:ZeroT prog 125 (.agg (zc7).toArray):=Y17
theorem zgM:FnOk prog 130:=FnOk.mk' func130 Y12 rfl
theorem zrd:FnOk prog 133:=FnOk.mk' func133 Y12 rfl
theorem zuq:FnOk prog 134:=FnOk.mk' func134 Y12 rfl
theorem zrc:FnOk prog 135:=FnOk.mk' func135 Y12 rfl
end Go.Fz
namespace Go.Proofs.YtlllcafedekojaaGreatDoor.Ud
open Go Go.Fw Go.Fz Go.Proofs.Tryz
attribute [local irreducible] J T X
theorem ParseRec (w:World) (gc gno:Nat) (hne:gc≠gno) (cr:CtR) (rj:RjR) (hc:Ent.At w ⟨some gc,122,(cr.cells)⟩) (hno:Ent.At w ⟨some gno,125,(rj.cells)⟩) (code at_:Int):
    CallsD prog 129 [.pointer (some ⟨gc,0,none⟩),.pointer (some ⟨gno,0,none⟩)].toArray (.panicking [{ v:=.iface 165 (.agg [.int .i64 code,.int .i64 at_].toArray),recovered:=false }]) w fun e um w'=>um=.panicking [{ v:=.iface 165 (.agg [.int .i64 code,.int .i64 at_].toArray),recovered:=true }]∧((∃ z,e=.returned z)∧WS w [gc,gno] [(0,⟨some gc,122,(CtR.none.cells)⟩),(1,⟨some gno,125,((RjR.of code at_).cells)⟩)] w'):=by
 refine zet [gc,gno] 15 [(0,⟨some gc,122,(cr.cells)⟩),(1,⟨some gno,125,(rj.cells)⟩)] func129 rfl ntmps129 Y20 Y23 Y23 (.inr ⟨[],rfl,rfl⟩) (WS.two hc hno hne) <| zz 3 ?_
 refine J.cf underlying20 rfl rfl <| zz 6 ?_
 refine J.cR ⟨_,underlying165,trivial⟩ rfl rfl <| J.am 3 rfl zrt [.int .i64 0,.int .i64 0] rfl rfl fun g3 hg3=>J.ae 3 rfl rfl rfl rfl [.int .i64 code,.int .i64 at_] rfl sz165 Y7 Y6 Y11 trivial [.int .i64 code,.int .i64 at_] rfl <| zz 2 ?_
 refine T.ae [(3,⟨some g3,165,[.int .i64 code,.int .i64 at_]⟩)] [(0,.g),(1,.g),(2,.s),(3,.g),(4,.s),(5,.g),(6,.l),(7,.l)] Y12 Y12 ?_ Y2
 refine J.ao rfl rfl (.agg CtR.none.cells.toArray) Y191 <| J.aa zpV rfl rfl <| J.aJ 3 rfl rfl zdd rfl rfl <| J.aa zpU rfl rfl <| J.aJ 3 rfl rfl one3 rfl rfl <| J.ao rfl rfl (.agg (RjR.of code at_).cells.toArray) Y191 <| J.ae 0 rfl rfl rfl rfl (CtR.none.cells) rfl zlW (Nat.le_of_ble_eq_true rfl) Y147 (Nat.zero_lt_succ _) trivial _ rfl <| J.ae 1 rfl rfl rfl rfl ((RjR.of code at_).cells) rfl zbq (Nat.le_of_ble_eq_true rfl) Y147 (Nat.zero_lt_succ _) trivial _ rfl ?_
 refine zz 1 ?_
 exact X.am rfl (fun w' hw'=>⟨⟨_,rfl⟩,hw'.sub (Sub.cons rfl (Sub.cons rfl (Sub.nil _)))⟩)
theorem ParseRet (w:World) (gc gno:Nat):
    CallsD prog 129 [.pointer (some ⟨gc,0,none⟩),.pointer (some ⟨gno,0,none⟩)].toArray .returning w fun e um w'=>um=.returning∧((∃ z,e=.returned z)∧WS w [] [] w'):=by
 refine zet [] 15 [] func129 rfl ntmps129 Y20 Y23 Y23 (.inl ⟨rfl,rfl,rfl⟩) (WS.refl _ _) <| zz 3 ?_
 refine J.cy underlying20 rfl rfl <| zz 4 ?_
 exact X.am rfl (fun w' hw'=>⟨⟨_,rfl⟩,hw'.s0⟩)
theorem zas {fn:Func} {N:Nf} {σ:List (Nat×Value)} {a:Act} {ch:List PanicEntry} {w w':World} {bs:List Nat} {op:Bool} {g4 g5 n:Nat} {B:List (Option Nat)} (hr:fn.results=#[.cell 4 122,.cell 5 125]) (hD:N.D=[⟨.fn (.func 129) [.pointer (some ⟨g4,0,none⟩),.pointer (some ⟨g5,0,none⟩)].toArray,#[]⟩])
    (h4:lk σ 4=some (.pointer (some ⟨g4,0,none⟩))) (h5:lk σ 5=some (.pointer (some ⟨g5,0,none⟩))) (ha:Has N σ a) (hg:ParsePn 165 122 125 (OkP bs op) w g4 g5 ch w'):bodyPostD prog fn (fun e w'=>ParseR bs op n B w e w') (.panic ch) a w':=by
  obtain ⟨⟨code,at_,hc,rfl⟩,hno,cr,hw⟩:=hg
  have hne:g4≠g5:=fun q=>hw.apart 4 5 _ _ g4 rfl rfl (by decide) rfl (congrArg some q.symm)
  refine zhf (l2:=[(4,⟨some g4,122,CtR.none.cells⟩),(5,⟨some g5,125,(RjR.of code at_).cells⟩)]) (M':=[g4,g5]) hr ha hD zre hw ((ParseRec w' g4 g5 hne cr (RjR.of 0 0) (hw.live 4 _ rfl) (hw.live 5 _ rfl) code at_).mono fun e um w2 ⟨h1,h2,h3⟩=>⟨h1,h2,h3.ren11 4 5 (by decide)⟩) (fun q hq=>?_) (RV.agg 4 rfl h4 zcT _ rfl rfl rfl) (RV.agg 5 rfl h5 zaL _ rfl rfl rfl) (fun w3 hw3=>⟨(CtR.none,RjR.of code at_),⟨⟨fun q=>absurd q hc,fun q=>absurd q hno⟩,fun q=>absurd q hno,CtR.none_ok,RjR.of_ok _ _ _⟩,rfl,hw3.s0⟩)
  rcases List.mem_cons.1 hq with h | h
  · rw [h];exact ⟨4,_,_,rfl,rfl,rfl⟩
  · rw [List.mem_singleton.1 h];exact ⟨5,_,_,rfl,rfl,rfl⟩
theorem Parse (w:World) (n:Nat) (hn:n≤w.heap.size) (B:List (Option Nat)) (hB:∀ g,some g∈B→g < w.heap.size) (bs:List Nat) (hd:Dg bs) (hl:bs.length≤1000000) (A:Option Addr) (c:Nat) (hcap:bs.length≤c) (hF:Fit w n B A (rowN .u8 bs)) (op:Bool):
    Calls prog 109 [.slice A bs.length c,.bool op].toArray w fun e w'=>ParseR bs op n B w e w':=by
 have hb4:fourH bs < 4294967296:=zbZ hd 4 Y23
 have hb7:nH bs < 4294967296:=zbZ hd 7 Y23
 have hb9:sizeH bs < 4294967296:=zbZ hd _ Y23
 have hE:at2H bs+3=endH bs:=rfl
 have hH:endH bs+nH bs*4+(codesH bs).sum+(subsH bs).sum=headH bs:=rfl
 have hcl:=zhK bs
 have hsl:=ziK bs
 have hs1:(codesH bs).sum≤nH bs*4294967296:=zeY hd 9 Y23 (nH bs)
 have hs2:(subsH bs).sum≤mH bs*4294967296:=zeY hd (at1H bs+3) Y23 (mH bs)
 refine zgU [] 180 [] func109 rfl ntmps109 Y20 (WS.refl _ _) <| zz 2 ?_
 refine J.am 4 rfl zhP zc5 rfl rfl fun g4 hg4=>J.am 5 rfl zdB zc7 rfl rfl fun g5 hg5=>zz 3 ?_
 refine T.ah 1 [.l] _ _ rfl rfl rfl <| J.bl (vf:=[]) (vc:=[.pointer (some ⟨g4,0,none⟩),.pointer (some ⟨g5,0,none⟩)]) rfl rfl rfl <| J.bP rfl ?_
 refine zz 4 ?_
 refine J.ao rfl rfl (.agg (rdC A bs.length c 0).toArray) Y191 <| J.aE 21 rfl rfl (rdC A bs.length c 0) rfl rfl fun g21 hg21=>zz 2 ?_
 refine X.ah 4 ⟨some g4,122,(CtR.none.cells)⟩ rfl Y22 <| X.ah 5 ⟨some g5,125,((RjR.of 0 0).cells)⟩ rfl Y22 <| zz 2 ?_
 refine T.ah 1 [.l] _ _ rfl rfl rfl <| zz 1 ?_
 refine J.aP zgM rfl rfl [] rfl (ι:=Unit) (fun _=>0+1≤bs.length∧numB bs (0) 1=239) (fun _=>.tuple #[]) [g21] (fun _=>[(21,⟨some g21,168,rdC A bs.length c (1)⟩)]) (ParsePn 165 122 125 (OkP bs op) w g4 g5) (fun w hw=>(Ua.want w n (Nat.le_trans hn hw.size) (B++ids [(4,⟨some g4,122,(CtR.none.cells)⟩),(5,⟨some g5,125,((RjR.of 0 0).cells)⟩),(21,⟨some g21,168,(rdC A bs.length c 0)⟩)]) g21 (List.mem_append_right _ Y196) bs hd hl A c (0) (Nat.zero_le _) (hF.keep (zad (B0:=B) (l1:=[(4,⟨some g4,122,(CtR.none.cells)⟩),(5,⟨some g5,125,((RjR.of 0 0).cells)⟩),(21,⟨some g21,168,(rdC A bs.length c 0)⟩)]) hn Y189 hw Y0 rfl)) (hw.live 21 _ rfl) 239 51 Y23).mono fun e w2 he=>zak he (fun ch w3 hg=>⟨hg.1,(fun q=>hg.2.1 ⟨Y180,q.m0⟩),_,hw.gave hg.2.2 21 rfl rfl (Sub.cons rfl (Sub.cons rfl (Sub.nil _))) (fun j e2 q=>zcA q rfl)⟩) (fun v w3 hr=>⟨(),hr.1,hr.2.1,hr.2.2.only 0 21 rfl⟩)) (fun _ _ q hq=>⟨21,_,_,rfl,Y173,rfl⟩) (fun ch a2 w2 ha2 hg2=>zas rfl rfl rfl rfl ha2 hg2) fun _ ha23=>?_
 refine zz 3 ?_
 refine T.ah 1 [.l] _ _ rfl rfl rfl <| zz 1 ?_
 refine J.aP zgM rfl rfl [] rfl (ι:=Unit) (fun _=>1+1≤bs.length∧numB bs (1) 1=0) (fun _=>.tuple #[]) [g21] (fun _=>[(21,⟨some g21,168,rdC A bs.length c (2)⟩)]) (ParsePn 165 122 125 (OkP bs op) w g4 g5) (fun w hw=>(Ua.want w n (Nat.le_trans hn hw.size) (B++ids [(4,⟨some g4,122,(CtR.none.cells)⟩),(5,⟨some g5,125,((RjR.of 0 0).cells)⟩),(21,⟨some g21,168,rdC A bs.length c (1)⟩)]) g21 (List.mem_append_right _ Y196) bs hd hl A c (1) Y5 (hF.keep (zad (B0:=B) (l1:=[(4,⟨some g4,122,(CtR.none.cells)⟩),(5,⟨some g5,125,((RjR.of 0 0).cells)⟩),(21,⟨some g21,168,rdC A bs.length c (1)⟩)]) hn Y189 hw Y0 rfl)) (hw.live 21 _ rfl) 0 51 Y23).mono fun e w2 he=>zak he (fun ch w3 hg=>⟨hg.1,(fun q=>hg.2.1 ⟨Y180,q.m1⟩),_,hw.gave hg.2.2 21 rfl rfl (Sub.cons rfl (Sub.cons rfl (Sub.nil _))) (fun j e2 q=>zcA q rfl)⟩) (fun v w3 hr=>⟨(),hr.1,hr.2.1,hr.2.2.only 0 21 rfl⟩)) (fun _ _ q hq=>⟨21,_,_,rfl,Y173,rfl⟩) (fun ch a2 w2 ha2 hg2=>zas rfl rfl rfl rfl ha2 hg2) fun _ ha25=>?_
 refine zz 3 ?_
 refine T.ah 1 [.l] _ _ rfl rfl rfl <| zz 1 ?_
 refine J.aP zgM rfl rfl [] rfl (ι:=Unit) (fun _=>2+1≤bs.length∧numB bs (2) 1=1) (fun _=>.tuple #[]) [g21] (fun _=>[(21,⟨some g21,168,rdC A bs.length c (3)⟩)]) (ParsePn 165 122 125 (OkP bs op) w g4 g5) (fun w hw=>(Ua.want w n (Nat.le_trans hn hw.size) (B++ids [(4,⟨some g4,122,(CtR.none.cells)⟩),(5,⟨some g5,125,((RjR.of 0 0).cells)⟩),(21,⟨some g21,168,rdC A bs.length c (2)⟩)]) g21 (List.mem_append_right _ Y196) bs hd hl A c (2) Y5 (hF.keep (zad (B0:=B) (l1:=[(4,⟨some g4,122,(CtR.none.cells)⟩),(5,⟨some g5,125,((RjR.of 0 0).cells)⟩),(21,⟨some g21,168,rdC A bs.length c (2)⟩)]) hn Y189 hw Y0 rfl)) (hw.live 21 _ rfl) 1 52 Y23).mono fun e w2 he=>zak he (fun ch w3 hg=>⟨hg.1,(fun q=>hg.2.1 ⟨Y180,q.m2⟩),_,hw.gave hg.2.2 21 rfl rfl (Sub.cons rfl (Sub.cons rfl (Sub.nil _))) (fun j e2 q=>zcA q rfl)⟩) (fun v w3 hr=>⟨(),hr.1,hr.2.1,hr.2.2.only 0 21 rfl⟩)) (fun _ _ q hq=>⟨21,_,_,rfl,Y173,rfl⟩) (fun ch a2 w2 ha2 hg2=>zas rfl rfl rfl rfl ha2 hg2) fun _ ha27=>?_
 refine zz 3 ?_
 refine T.ah 1 [.l] _ _ rfl rfl rfl <| zz 1 ?_
 refine J.aP zgM rfl rfl [] rfl (ι:=Unit) (fun _=>3+1≤bs.length∧numB bs (3) 1=1) (fun _=>.tuple #[]) [g21] (fun _=>[(21,⟨some g21,168,rdC A bs.length c (4)⟩)]) (ParsePn 165 122 125 (OkP bs op) w g4 g5) (fun w hw=>(Ua.want w n (Nat.le_trans hn hw.size) (B++ids [(4,⟨some g4,122,(CtR.none.cells)⟩),(5,⟨some g5,125,((RjR.of 0 0).cells)⟩),(21,⟨some g21,168,rdC A bs.length c (3)⟩)]) g21 (List.mem_append_right _ Y196) bs hd hl A c (3) Y5 (hF.keep (zad (B0:=B) (l1:=[(4,⟨some g4,122,(CtR.none.cells)⟩),(5,⟨some g5,125,((RjR.of 0 0).cells)⟩),(21,⟨some g21,168,rdC A bs.length c (3)⟩)]) hn Y189 hw Y0 rfl)) (hw.live 21 _ rfl) 1 53 Y23).mono fun e w2 he=>zak he (fun ch w3 hg=>⟨hg.1,(fun q=>hg.2.1 ⟨Y180,q.m3⟩),_,hw.gave hg.2.2 21 rfl rfl (Sub.cons rfl (Sub.cons rfl (Sub.nil _))) (fun j e2 q=>zcA q rfl)⟩) (fun v w3 hr=>⟨(),hr.1,hr.2.1,hr.2.2.only 0 21 rfl⟩)) (fun _ _ q hq=>⟨21,_,_,rfl,Y173,rfl⟩) (fun ch a2 w2 ha2 hg2=>zas rfl rfl rfl rfl ha2 hg2) fun _ ha29=>?_
 refine zz 3 ?_
 refine T.ah 1 [.l] _ _ rfl rfl rfl <| zz 1 ?_
 refine J.aP zes rfl rfl [.l,.l,.l,.l,.l] rfl (ι:=Unit) (fun _=>4+2≤bs.length) (fun _=>.tuple #[.int .i64 ((fourH bs:Nat):Int),.int .i64 ((4:Nat):Int)]) [g21] (fun _=>[(21,⟨some g21,168,rdC A bs.length c (6)⟩)]) (ParsePn 165 122 125 (OkP bs op) w g4 g5) (fun w hw=>(Ua.next w n (Nat.le_trans hn hw.size) (B++ids [(4,⟨some g4,122,(CtR.none.cells)⟩),(5,⟨some g5,125,((RjR.of 0 0).cells)⟩),(21,⟨some g21,168,rdC A bs.length c (4)⟩)]) g21 (List.mem_append_right _ Y196) bs hd hl A c (4) Y5 (hF.keep (zad (B0:=B) (l1:=[(4,⟨some g4,122,(CtR.none.cells)⟩),(5,⟨some g5,125,((RjR.of 0 0).cells)⟩),(21,⟨some g21,168,rdC A bs.length c (4)⟩)]) hn Y189 hw Y0 rfl)) (hw.live 21 _ rfl) 2 Y23).mono fun e w2 he=>zak he (fun ch w3 hg=>⟨hg.1,(fun q=>hg.2.1 Y180),_,hw.gave hg.2.2 21 rfl rfl (Sub.cons rfl (Sub.cons rfl (Sub.nil _))) (fun j e2 q=>zcA q rfl)⟩) (fun v w3 hr=>⟨(),hr.1,hr.2.1,hr.2.2.only 0 21 rfl⟩)) (fun _ _ q hq=>⟨21,_,_,rfl,Y173,rfl⟩) (fun ch a2 w2 ha2 hg2=>zas rfl rfl rfl rfl ha2 hg2) fun _ ha32=>?_
 refine zz 8 ?_
 refine T.ah 13 [.l,.l,.l,.l,.l,.l,.l,.l,.l,.l,.l,.l,.l] _ _ rfl rfl rfl <| zz 3 ?_
 refine J.as 37 (.bool (decide (0 < fourH bs))) rfl Y156 <| zz 1 ?_
 refine J.an 38 rfl (fun h1=>?_) (fun h1=>?_)
 refine zz 2 ?_
 refine J.dt rfl rfl rfl Y5 (by first | exact zrP _ 4 | exact rem_ok _ _ Y5 | exact rfl) <| zz 1 ?_
 refine J.as 41 (.bool (decide (fourH bs%4=0))) rfl Y156 <| zz 2 ?_
 refine J.an 43 rfl (fun h2=>?_) (fun h2=>?_)
 refine zz 2 ?_
 refine J.as 45 (.bool (decide (fourH bs≤4096))) rfl Y156 <| zz 2 ?_
 refine J.aP zcB rfl rfl [] rfl (ι:=Unit) (fun _=>fourH bs≤4096) (fun _=>.tuple #[]) [] (fun _=>[]) (ParsePn 165 122 125 (OkP bs op) w g4 g5) (fun w hw=>(Ua.ask w _ (fourH bs≤4096) 54 (((4:Nat):Int)) Y23).mono fun e w2 he=>zak he (fun ch w3 hg=>⟨hg.1,(fun q=>hg.2.1 q.f1),_,(hw.join0 hg.2.2).sub (Sub.cons rfl (Sub.cons rfl (Sub.nil _)))⟩) (fun v w3 hr=>⟨(),hr.1,hr.2.1,hr.2.2⟩)) Y181 (fun ch a2 w2 ha2 hg2=>zas rfl rfl rfl rfl ha2 hg2) fun _ ha48=>?_
 refine zz 3 ?_
 refine T.ah 1 [.l] _ _ rfl rfl rfl <| zz 1 ?_
 refine J.aP zgM rfl rfl [] rfl (ι:=Unit) (fun _=>6+1≤bs.length∧numB bs (6) 1=2) (fun _=>.tuple #[]) [g21] (fun _=>[(21,⟨some g21,168,rdC A bs.length c (7)⟩)]) (ParsePn 165 122 125 (OkP bs op) w g4 g5) (fun w hw=>(Ua.want w n (Nat.le_trans hn hw.size) (B++ids [(4,⟨some g4,122,(CtR.none.cells)⟩),(5,⟨some g5,125,((RjR.of 0 0).cells)⟩),(21,⟨some g21,168,rdC A bs.length c (6)⟩)]) g21 (List.mem_append_right _ Y196) bs hd hl A c (6) Y5 (hF.keep (zad (B0:=B) (l1:=[(4,⟨some g4,122,(CtR.none.cells)⟩),(5,⟨some g5,125,((RjR.of 0 0).cells)⟩),(21,⟨some g21,168,rdC A bs.length c (6)⟩)]) hn Y189 hw Y0 rfl)) (hw.live 21 _ rfl) 2 53 Y23).mono fun e w2 he=>zak he (fun ch w3 hg=>⟨hg.1,(fun q=>hg.2.1 ⟨Y180,q.two⟩),_,hw.gave hg.2.2 21 rfl rfl (Sub.cons rfl (Sub.cons rfl (Sub.nil _))) (fun j e2 q=>zcA q rfl)⟩) (fun v w3 hr=>⟨(),hr.1,hr.2.1,hr.2.2.only 0 21 rfl⟩)) (fun _ _ q hq=>⟨21,_,_,rfl,Y173,rfl⟩) (fun ch a2 w2 ha2 hg2=>zas rfl rfl rfl rfl ha2 hg2) fun _ ha50=>?_
 refine zz 3 ?_
 refine T.ah 1 [.l] _ _ rfl rfl rfl <| zz 1 ?_
 refine J.aP zes rfl rfl [.l,.l,.l,.l,.l] rfl (ι:=Unit) (fun _=>7+2≤bs.length) (fun _=>.tuple #[.int .i64 ((nH bs:Nat):Int),.int .i64 ((7:Nat):Int)]) [g21] (fun _=>[(21,⟨some g21,168,rdC A bs.length c (9)⟩)]) (ParsePn 165 122 125 (OkP bs op) w g4 g5) (fun w hw=>(Ua.next w n (Nat.le_trans hn hw.size) (B++ids [(4,⟨some g4,122,(CtR.none.cells)⟩),(5,⟨some g5,125,((RjR.of 0 0).cells)⟩),(21,⟨some g21,168,rdC A bs.length c (7)⟩)]) g21 (List.mem_append_right _ Y196) bs hd hl A c (7) Y5 (hF.keep (zad (B0:=B) (l1:=[(4,⟨some g4,122,(CtR.none.cells)⟩),(5,⟨some g5,125,((RjR.of 0 0).cells)⟩),(21,⟨some g21,168,rdC A bs.length c (7)⟩)]) hn Y189 hw Y0 rfl)) (hw.live 21 _ rfl) 2 Y23).mono fun e w2 he=>zak he (fun ch w3 hg=>⟨hg.1,(fun q=>hg.2.1 Y180),_,hw.gave hg.2.2 21 rfl rfl (Sub.cons rfl (Sub.cons rfl (Sub.nil _))) (fun j e2 q=>zcA q rfl)⟩) (fun v w3 hr=>⟨(),hr.1,hr.2.1,hr.2.2.only 0 21 rfl⟩)) (fun _ _ q hq=>⟨21,_,_,rfl,Y173,rfl⟩) (fun ch a2 w2 ha2 hg2=>zas rfl rfl rfl rfl ha2 hg2) fun _ ha53=>?_
 refine zz 8 ?_
 refine T.ah 6 [.l,.l,.l,.l,.l,.l] _ _ rfl rfl rfl <| zz 2 ?_
 refine J.bA rfl rfl rfl (by first | exact zgC 4 _ Y5 | exact zai _ Y5 | exact rfl) <| zz 2 ?_
 refine J.as 60 (.bool (decide (nH bs*4=fourH bs))) rfl Y156 <| zz 1 ?_
 refine J.aP zcB rfl rfl [] rfl (ι:=Unit) (fun _=>nH bs*4=fourH bs) (fun _=>.tuple #[]) [] (fun _=>[]) (ParsePn 165 122 125 (OkP bs op) w g4 g5) (fun w hw=>(Ua.ask w _ (nH bs*4=fourH bs) 55 (((7:Nat):Int)) Y23).mono fun e w2 he=>zak he (fun ch w3 hg=>⟨hg.1,(fun q=>hg.2.1 q.nn),_,(hw.join0 hg.2.2).sub (Sub.cons rfl (Sub.cons rfl (Sub.nil _)))⟩) (fun v w3 hr=>⟨(),hr.1,hr.2.1,hr.2.2⟩)) Y181 (fun ch a2 w2 ha2 hg2=>zas rfl rfl rfl rfl ha2 hg2) fun _ ha62=>?_
 refine zz 3 ?_
 refine T.ah 2 [.l,.l] _ _ rfl rfl rfl <| zz 2 ?_
 refine J.aP zrd rfl rfl [.l,.l,.l,.l,.l] rfl (ι:=RowIx) (fun q=>SizesOk bs (9) 2 (nH bs)∧q.Ok 1 (nH bs)∧at1H bs≤bs.length) (fun q=>.tuple #[q.val (nH bs),.int .i64 (((codesH bs).sum:Nat):Int)]) [g21] (fun q=>[(21,⟨some g21,168,rdC A bs.length c (at1H bs)⟩),(10,q.ent 3 (rowN .i64 (codesH bs)))]) (ParsePn 165 122 125 (OkP bs op) w g4 g5) (fun w hw=>(Uc.sizes w n (Nat.le_trans hn hw.size) (B++ids [(4,⟨some g4,122,(CtR.none.cells)⟩),(5,⟨some g5,125,((RjR.of 0 0).cells)⟩),(21,⟨some g21,168,rdC A bs.length c (9)⟩)]) g21 (List.mem_append_right _ Y196) bs hd hl A c (9) Y5 (hF.keep (zad (B0:=B) (l1:=[(4,⟨some g4,122,(CtR.none.cells)⟩),(5,⟨some g5,125,((RjR.of 0 0).cells)⟩),(21,⟨some g21,168,rdC A bs.length c (9)⟩)]) hn Y189 hw Y0 rfl)) (hw.live 21 _ rfl) (nH bs) 2 Y5 Y23).mono fun e w2 he=>zak he (fun ch w3 hg=>⟨hg.1,(fun q=>hg.2.1 (fun j hj=>⟨by have:=zde q;omega,q.cl j hj⟩)),_,hw.gave hg.2.2 21 rfl rfl (Sub.cons rfl (Sub.cons rfl (Sub.nil _))) (fun j e2 q=>zcA q rfl)⟩) (fun v w3 hr=>(let ⟨h1,h0,q,h2,h3,h4⟩:=hr;⟨q,⟨h1,h2,h0⟩,h3,h4.ren11 21 10 Y23⟩))) (fun _ _ q hq=>⟨21,_,_,rfl,Y173,rfl⟩) (fun ch a2 w2 ha2 hg2=>zas rfl rfl rfl rfl ha2 hg2) fun q66 ha66=>?_
 refine zz 2 ?_
 refine J.as 67 (q66.val (codesH bs).length) rfl (by rw [zhK]) <| zz 16 ?_
 refine T.ah 1 [.l] _ _ rfl rfl rfl <| zz 1 ?_
 refine J.aP zes rfl rfl [.l,.l,.l,.l,.l] rfl (ι:=Unit) (fun _=>at1H bs+1≤bs.length) (fun _=>.tuple #[.int .i64 ((kindH bs:Nat):Int),.int .i64 ((at1H bs:Nat):Int)]) [g21] (fun _=>[(21,⟨some g21,168,rdC A bs.length c (at1H bs+1)⟩)]) (ParsePn 165 122 125 (OkP bs op) w g4 g5) (fun w hw=>(Ua.next w n (Nat.le_trans hn hw.size) (B++ids [(4,⟨some g4,122,(CtR.none.cells)⟩),(5,⟨some g5,125,((RjR.of 0 0).cells)⟩),(21,⟨some g21,168,rdC A bs.length c (at1H bs)⟩),(10,q66.ent 3 (rowN .i64 (codesH bs)))]) g21 (List.mem_append_right _ Y196) bs hd hl A c (at1H bs) ha66.2.2 (hF.keep (zad (B0:=B) (l1:=[(4,⟨some g4,122,(CtR.none.cells)⟩),(5,⟨some g5,125,((RjR.of 0 0).cells)⟩),(21,⟨some g21,168,rdC A bs.length c (at1H bs)⟩),(10,q66.ent 3 (rowN .i64 (codesH bs)))]) hn Y189 hw Y0 rfl)) (hw.live 21 _ rfl) 1 Y23).mono fun e w2 he=>zak he (fun ch w3 hg=>⟨hg.1,(fun q=>hg.2.1 Y180),_,hw.gave hg.2.2 21 rfl rfl (Sub.cons rfl (Sub.cons rfl (Sub.nil _))) (fun j e2 q=>zcA q rfl)⟩) (fun v w3 hr=>⟨(),hr.1,hr.2.1,hr.2.2.only 0 21 rfl⟩)) (fun _ _ q hq=>⟨21,_,_,rfl,Y173,rfl⟩) (fun ch a2 w2 ha2 hg2=>zas rfl rfl rfl rfl ha2 hg2) fun _ ha71=>?_
 refine zz 7 ?_
 refine T.ai (ι:=Unit) (fun (_:Unit)=>kindH bs=3∨kindH bs=255) (fun (_:Unit)=>[(0,.slice A bs.length c),(1,.bool op),(4,.pointer (some ⟨g4,0,none⟩)),(5,.pointer (some ⟨g5,0,none⟩)),(18,.func (.func 129) #[] #[.pointer (some ⟨g4,0,none⟩),.pointer (some ⟨g5,0,none⟩)]),(19,.slice A bs.length c),(20,(.agg (rdC A bs.length c 0).toArray)),(21,.pointer (some ⟨g21,0,none⟩)),(6,.pointer (some ⟨g21,0,none⟩)),(22,.pointer (some ⟨g21,0,none⟩)),(23,.tuple #[]),(24,.pointer (some ⟨g21,0,none⟩)),(25,.tuple #[]),(26,.pointer (some ⟨g21,0,none⟩)),(27,.tuple #[]),(28,.pointer (some ⟨g21,0,none⟩)),(29,.tuple #[]),(31,.pointer (some ⟨g21,0,none⟩)),(32,.tuple #[.int .i64 ((fourH bs:Nat):Int),.int .i64 ((4:Nat):Int)]),(30,.tuple #[.int .i64 ((fourH bs:Nat):Int),.int .i64 ((4:Nat):Int)]),(33,.int .i64 ((fourH bs:Nat):Int)),(34,.int .i64 ((4:Nat):Int)),(7,.int .i64 ((fourH bs:Nat):Int)),(8,.int .i64 ((at1H bs:Nat):Int)),(35,.pointer (some ⟨g21,0,none⟩)),(36,.int .i64 ((fourH bs:Nat):Int)),(37,.bool (decide (0 < fourH bs))),(38,.bool true),(39,.int .i64 ((fourH bs:Nat):Int)),(41,.bool (decide (fourH bs%4=0))),(42,.bool (decide (fourH bs%4=0))),(43,.bool true),(44,.int .i64 ((fourH bs:Nat):Int)),(45,.bool (decide (fourH bs≤4096))),(46,.bool (decide (fourH bs≤4096))),(47,.int .i64 ((4:Nat):Int)),(48,.tuple #[]),(49,.pointer (some ⟨g21,0,none⟩)),(50,.tuple #[]),(52,.pointer (some ⟨g21,0,none⟩)),(53,.tuple #[.int .i64 ((nH bs:Nat):Int),.int .i64 ((7:Nat):Int)]),(51,.tuple #[.int .i64 ((nH bs:Nat):Int),.int .i64 ((7:Nat):Int)]),(54,.int .i64 ((nH bs:Nat):Int)),(55,.int .i64 ((7:Nat):Int)),(9,.int .i64 ((nH bs:Nat):Int)),(56,.pointer (some ⟨g21,0,none⟩)),(57,.int .i64 ((nH bs:Nat):Int)),(59,.int .i64 ((fourH bs:Nat):Int)),(60,.bool (decide (nH bs*4=fourH bs))),(61,.int .i64 ((7:Nat):Int)),(62,.tuple #[]),(64,.pointer (some ⟨g21,0,none⟩)),(65,.int .i64 ((nH bs:Nat):Int)),(66,.tuple #[q66.val (nH bs),.int .i64 (((codesH bs).sum:Nat):Int)]),(63,.tuple #[q66.val (nH bs),.int .i64 (((codesH bs).sum:Nat):Int)]),(67,q66.val (codesH bs).length),(68,.int .i64 (((codesH bs).sum:Nat):Int)),(10,q66.val (codesH bs).length),(11,.int .i64 (((codesH bs).sum:Nat):Int)),(12,.slice none 0 0),(13,.int .i64 0),(70,.pointer (some ⟨g21,0,none⟩)),(71,.tuple #[.int .i64 ((kindH bs:Nat):Int),.int .i64 ((at1H bs:Nat):Int)]),(69,.tuple #[.int .i64 ((kindH bs:Nat):Int),.int .i64 ((at1H bs:Nat):Int)]),(72,.int .i64 ((kindH bs:Nat):Int)),(73,.int .i64 ((at1H bs:Nat):Int)),(14,.int .i64 ((kindH bs:Nat):Int))]) (fun (_:Unit)=>[(4,⟨some g4,122,(CtR.none.cells)⟩),(5,⟨some g5,125,((RjR.of 0 0).cells)⟩),(21,⟨some g21,168,rdC A bs.length c (at1H bs+1)⟩),(10,q66.ent 3 (rowN .i64 (codesH bs)))]) ?_ ?_
 refine T.ah 8 [.l,.l,.l,.l,.l,.l,.l,.l] _ _ rfl rfl rfl <| zz 3 ?_
 refine J.as 76 (.bool (decide (kindH bs=3))) rfl Y156 <| zz 1 ?_
 refine J.an 77 rfl (fun h3=>?_) (fun h3=>?_)
 refine zz 4 ?_
 refine J.aP zcB rfl rfl [] rfl (ι:=Unit) (fun _=>True) (fun _=>.tuple #[]) [] (fun _=>[]) (ParsePn 165 122 125 (OkP bs op) w g4 g5) (fun w hw=>(Ua.ask w _ (True) 53 (((at1H bs:Nat):Int)) Y23).mono fun e w2 he=>zak he (fun ch w3 hg=>⟨hg.1,(fun q=>hg.2.1 trivial),_,(hw.join0 hg.2.2).sub (Sub.cons rfl (Sub.cons rfl (Sub.nil _)))⟩) (fun v w3 hr=>⟨(),hr.1,hr.2.1,hr.2.2⟩)) Y181 (fun ch a2 w2 ha2 hg2=>zas rfl rfl rfl rfl ha2 hg2) fun _ ha82=>?_
 refine zz 1 ?_
 exact X.at () (by first | exact .inl Y195 | exact .inr Y195) Y0 Y0
 refine zz 2 ?_
 refine J.as 79 (.bool (decide (kindH bs=255))) rfl Y156 <| zz 2 ?_
 refine J.aP zcB rfl rfl [] rfl (ι:=Unit) (fun _=>kindH bs=255) (fun _=>.tuple #[]) [] (fun _=>[]) (ParsePn 165 122 125 (OkP bs op) w g4 g5) (fun w hw=>(Ua.ask w _ (kindH bs=255) 53 (((at1H bs:Nat):Int)) Y23).mono fun e w2 he=>zak he (fun ch w3 hg=>⟨hg.1,(fun q=>hg.2.1 (q.kd.resolve_left Y195)),_,(hw.join0 hg.2.2).sub (Sub.cons rfl (Sub.cons rfl (Sub.nil _)))⟩) (fun v w3 hr=>⟨(),hr.1,hr.2.1,hr.2.2⟩)) Y181 (fun ch a2 w2 ha2 hg2=>zas rfl rfl rfl rfl ha2 hg2) fun _ ha82=>?_
 refine zz 1 ?_
 exact X.at () (by first | exact .inl Y195 | exact .inr Y195) Y0 Y0
 rintro _ hkd
 refine T.ai (ι:=RowIx) (fun (q2:RowIx)=>at2H bs≤bs.length∧mH bs≤256∧q2.Ok 1 (mH bs)∧(kindH bs=3→0 < mH bs∧mH bs≤256∧(∀ i,i < mH bs→0 < sLen bs i)∧numB bs (at1H bs+3+mH bs*4) 1=255)) (fun (q2:RowIx)=>[(0,.slice A bs.length c),(1,.bool op),(4,.pointer (some ⟨g4,0,none⟩)),(5,.pointer (some ⟨g5,0,none⟩)),(18,.func (.func 129) #[] #[.pointer (some ⟨g4,0,none⟩),.pointer (some ⟨g5,0,none⟩)]),(19,.slice A bs.length c),(20,(.agg (rdC A bs.length c 0).toArray)),(21,.pointer (some ⟨g21,0,none⟩)),(6,.pointer (some ⟨g21,0,none⟩)),(22,.pointer (some ⟨g21,0,none⟩)),(23,.tuple #[]),(24,.pointer (some ⟨g21,0,none⟩)),(25,.tuple #[]),(26,.pointer (some ⟨g21,0,none⟩)),(27,.tuple #[]),(28,.pointer (some ⟨g21,0,none⟩)),(29,.tuple #[]),(31,.pointer (some ⟨g21,0,none⟩)),(32,.tuple #[.int .i64 ((fourH bs:Nat):Int),.int .i64 ((4:Nat):Int)]),(30,.tuple #[.int .i64 ((fourH bs:Nat):Int),.int .i64 ((4:Nat):Int)]),(33,.int .i64 ((fourH bs:Nat):Int)),(34,.int .i64 ((4:Nat):Int)),(7,.int .i64 ((fourH bs:Nat):Int)),(8,.int .i64 ((at1H bs:Nat):Int)),(35,.pointer (some ⟨g21,0,none⟩)),(36,.int .i64 ((fourH bs:Nat):Int)),(37,.bool (decide (0 < fourH bs))),(38,.bool true),(39,.int .i64 ((fourH bs:Nat):Int)),(41,.bool (decide (fourH bs%4=0))),(42,.bool (decide (fourH bs%4=0))),(43,.bool true),(44,.int .i64 ((fourH bs:Nat):Int)),(45,.bool (decide (fourH bs≤4096))),(46,.bool (decide (fourH bs≤4096))),(47,.int .i64 ((4:Nat):Int)),(48,.tuple #[]),(49,.pointer (some ⟨g21,0,none⟩)),(50,.tuple #[]),(52,.pointer (some ⟨g21,0,none⟩)),(53,.tuple #[.int .i64 ((nH bs:Nat):Int),.int .i64 ((7:Nat):Int)]),(51,.tuple #[.int .i64 ((nH bs:Nat):Int),.int .i64 ((7:Nat):Int)]),(54,.int .i64 ((nH bs:Nat):Int)),(55,.int .i64 ((7:Nat):Int)),(9,.int .i64 ((nH bs:Nat):Int)),(56,.pointer (some ⟨g21,0,none⟩)),(57,.int .i64 ((nH bs:Nat):Int)),(59,.int .i64 ((fourH bs:Nat):Int)),(60,.bool (decide (nH bs*4=fourH bs))),(61,.int .i64 ((7:Nat):Int)),(62,.tuple #[]),(64,.pointer (some ⟨g21,0,none⟩)),(65,.int .i64 ((nH bs:Nat):Int)),(66,.tuple #[q66.val (nH bs),.int .i64 (((codesH bs).sum:Nat):Int)]),(63,.tuple #[q66.val (nH bs),.int .i64 (((codesH bs).sum:Nat):Int)]),(67,q66.val (codesH bs).length),(68,.int .i64 (((codesH bs).sum:Nat):Int)),(10,q66.val (codesH bs).length),(11,.int .i64 (((codesH bs).sum:Nat):Int)),(12,q2.val (subsH bs).length),(13,.int .i64 (((subsH bs).sum:Nat):Int)),(70,.pointer (some ⟨g21,0,none⟩)),(71,.tuple #[.int .i64 ((kindH bs:Nat):Int),.int .i64 ((at1H bs:Nat):Int)]),(69,.tuple #[.int .i64 ((kindH bs:Nat):Int),.int .i64 ((at1H bs:Nat):Int)]),(72,.int .i64 ((kindH bs:Nat):Int)),(73,.int .i64 ((at1H bs:Nat):Int)),(14,.int .i64 ((kindH bs:Nat):Int))]) (fun (q2:RowIx)=>[(4,⟨some g4,122,(CtR.none.cells)⟩),(5,⟨some g5,125,((RjR.of 0 0).cells)⟩),(10,q66.ent 3 (rowN .i64 (codesH bs))),(21,⟨some g21,168,rdC A bs.length c (at2H bs)⟩),(12,q2.ent 3 (rowN .i64 (subsH bs)))]) ?_ ?_
 refine zz 4 ?_
 refine J.as 84 (.bool (decide (kindH bs=3))) rfl Y156 <| zz 2 ?_
 refine T.aa rfl (fun h4=>?_) (fun h4=>?_)
 have hk3:=h4
 refine zz 1 ?_
 refine T.ah 1 [.l] _ _ rfl rfl rfl <| zz 1 ?_
 refine J.aP zes rfl rfl [.l,.l,.l,.l,.l] rfl (ι:=Unit) (fun _=>at1H bs+1+2≤bs.length) (fun _=>.tuple #[.int .i64 ((mH bs:Nat):Int),.int .i64 ((at1H bs+1:Nat):Int)]) [g21] (fun _=>[(21,⟨some g21,168,rdC A bs.length c (at1H bs+3)⟩)]) (ParsePn 165 122 125 (OkP bs op) w g4 g5) (fun w hw=>(Ua.next w n (Nat.le_trans hn hw.size) (B++ids [(4,⟨some g4,122,(CtR.none.cells)⟩),(5,⟨some g5,125,((RjR.of 0 0).cells)⟩),(21,⟨some g21,168,rdC A bs.length c (at1H bs+1)⟩),(10,q66.ent 3 (rowN .i64 (codesH bs)))]) g21 (List.mem_append_right _ Y196) bs hd hl A c (at1H bs+1) Y5 (hF.keep (zad (B0:=B) (l1:=[(4,⟨some g4,122,(CtR.none.cells)⟩),(5,⟨some g5,125,((RjR.of 0 0).cells)⟩),(21,⟨some g21,168,rdC A bs.length c (at1H bs+1)⟩),(10,q66.ent 3 (rowN .i64 (codesH bs)))]) hn Y189 hw Y0 rfl)) (hw.live 21 _ rfl) 2 Y23).mono fun e w2 he=>zak he (fun ch w3 hg=>⟨hg.1,(fun q=>hg.2.1 Y180),_,hw.gave hg.2.2 21 rfl rfl (Sub.cons rfl (Sub.cons rfl (Sub.nil _))) (fun j e2 q=>zcA q rfl)⟩) (fun v w3 hr=>⟨(),hr.1,(by rw [mH_3 hk3];exact hr.2.1),hr.2.2.only 0 21 rfl⟩)) (fun _ _ q hq=>⟨21,_,_,rfl,Y173,rfl⟩) (fun ch a2 w2 ha2 hg2=>zas rfl rfl rfl rfl ha2 hg2) fun _ ha87=>?_
 refine zz 8 ?_
 refine T.ah 8 [.l,.l,.l,.l,.l,.l,.l,.l] _ _ rfl rfl rfl <| zz 3 ?_
 refine J.as 92 (.bool (decide (0 < mH bs))) rfl Y156 <| zz 1 ?_
 refine J.an 93 rfl (fun h5=>?_) (fun h5=>?_)
 refine zz 2 ?_
 refine J.as 95 (.bool (decide (mH bs≤256))) rfl Y156 <| zz 2 ?_
 refine J.aP zcB rfl rfl [] rfl (ι:=Unit) (fun _=>mH bs≤256) (fun _=>.tuple #[]) [] (fun _=>[]) (ParsePn 165 122 125 (OkP bs op) w g4 g5) (fun w hw=>(Ua.ask w _ (mH bs≤256) 57 (((at1H bs+1:Nat):Int)) Y23).mono fun e w2 he=>zak he (fun ch w3 hg=>⟨hg.1,(fun q=>hg.2.1 (q.sb hk3).2.1),_,(hw.join0 hg.2.2).sub (Sub.cons rfl (Sub.cons rfl (Sub.nil _)))⟩) (fun v w3 hr=>⟨(),hr.1,hr.2.1,hr.2.2⟩)) Y181 (fun ch a2 w2 ha2 hg2=>zas rfl rfl rfl rfl ha2 hg2) fun _ ha98=>?_
 refine zz 3 ?_
 refine T.ah 2 [.l,.l] _ _ rfl rfl rfl <| zz 2 ?_
 refine J.aP zrd rfl rfl [.l,.l,.l,.l,.l] rfl (ι:=RowIx) (fun q=>SizesOk bs (at1H bs+3) 4 (mH bs)∧q.Ok 1 (mH bs)∧at1H bs+3+mH bs*4≤bs.length) (fun q=>.tuple #[q.val (mH bs),.int .i64 (((subsH bs).sum:Nat):Int)]) [g21] (fun q=>[(21,⟨some g21,168,rdC A bs.length c (at1H bs+3+mH bs*4)⟩),(12,q.ent 3 (rowN .i64 (subsH bs)))]) (ParsePn 165 122 125 (OkP bs op) w g4 g5) (fun w hw=>(Uc.sizes w n (Nat.le_trans hn hw.size) (B++ids [(4,⟨some g4,122,(CtR.none.cells)⟩),(5,⟨some g5,125,((RjR.of 0 0).cells)⟩),(21,⟨some g21,168,rdC A bs.length c (at1H bs+3)⟩),(10,q66.ent 3 (rowN .i64 (codesH bs)))]) g21 (List.mem_append_right _ Y196) bs hd hl A c (at1H bs+3) Y5 (hF.keep (zad (B0:=B) (l1:=[(4,⟨some g4,122,(CtR.none.cells)⟩),(5,⟨some g5,125,((RjR.of 0 0).cells)⟩),(21,⟨some g21,168,rdC A bs.length c (at1H bs+3)⟩),(10,q66.ent 3 (rowN .i64 (codesH bs)))]) hn Y189 hw Y0 rfl)) (hw.live 21 _ rfl) (mH bs) 4 Y5 Y23).mono fun e w2 he=>zak he (fun ch w3 hg=>⟨hg.1,(fun q=>hg.2.1 (fun j hj=>⟨by have:=zde q;have:=zsS hk3;omega,(q.sb hk3).2.2.1 j hj⟩)),_,hw.gave hg.2.2 21 rfl rfl (Sub.cons rfl (Sub.cons rfl (Sub.nil _))) (fun j e2 q=>zcA q rfl)⟩) (fun v w3 hr=>(let ⟨h1,h0,q,h2,h3,h4⟩:=hr;⟨q,⟨h1,h2,h0⟩,h3,h4.ren11 21 12 Y23⟩))) (fun _ _ q hq=>⟨21,_,_,rfl,Y173,rfl⟩) (fun ch a2 w2 ha2 hg2=>zas rfl rfl rfl rfl ha2 hg2) fun q102 ha102=>?_
 refine zz 7 ?_
 refine T.ah 1 [.l] _ _ rfl rfl rfl <| zz 1 ?_
 refine J.aP zgM rfl rfl [] rfl (ι:=Unit) (fun _=>at1H bs+3+mH bs*4+1≤bs.length∧numB bs (at1H bs+3+mH bs*4) 1=255) (fun _=>.tuple #[]) [g21] (fun _=>[(21,⟨some g21,168,rdC A bs.length c (at1H bs+3+mH bs*4+1)⟩)]) (ParsePn 165 122 125 (OkP bs op) w g4 g5) (fun w hw=>(Ua.want w n (Nat.le_trans hn hw.size) (B++ids [(4,⟨some g4,122,(CtR.none.cells)⟩),(5,⟨some g5,125,((RjR.of 0 0).cells)⟩),(21,⟨some g21,168,rdC A bs.length c (at1H bs+3+mH bs*4)⟩),(10,q66.ent 3 (rowN .i64 (codesH bs))),(12,q102.ent 3 (rowN .i64 (subsH bs)))]) g21 (List.mem_append_right _ Y196) bs hd hl A c (at1H bs+3+mH bs*4) ha102.2.2 (hF.keep (zad (B0:=B) (l1:=[(4,⟨some g4,122,(CtR.none.cells)⟩),(5,⟨some g5,125,((RjR.of 0 0).cells)⟩),(21,⟨some g21,168,rdC A bs.length c (at1H bs+3+mH bs*4)⟩),(10,q66.ent 3 (rowN .i64 (codesH bs))),(12,q102.ent 3 (rowN .i64 (subsH bs)))]) hn Y189 hw Y0 rfl)) (hw.live 21 _ rfl) 255 53 Y23).mono fun e w2 he=>zak he (fun ch w3 hg=>⟨hg.1,(fun q=>hg.2.1 ⟨(by have:=zde q;have:=zsS hk3;omega),(q.sb hk3).2.2.2⟩),_,hw.gave hg.2.2 21 rfl rfl (Sub.cons rfl (Sub.cons rfl (Sub.nil _))) (fun j e2 q=>zcA q rfl)⟩) (fun v w3 hr=>⟨(),hr.1,hr.2.1,hr.2.2.only 0 21 rfl⟩)) (fun _ _ q hq=>⟨21,_,_,rfl,Y173,rfl⟩) (fun ch a2 w2 ha2 hg2=>zas rfl rfl rfl rfl ha2 hg2) fun _ ha106=>?_
 refine zz 1 ?_
 have ha2e:=zsS hk3
 refine X.as 12 (q102.val (subsH bs).length) rfl (by rw [ziK]) <| X.ah 21 ⟨some g21,168,rdC A bs.length c (at2H bs)⟩ rfl (congrArg (fun z=>Ent.mk (some g21) 168 (rdC A bs.length c z)) Y5) ?_
 exact X.at q102 ⟨by omega,ha98,ha102.2.1,fun _=>⟨by assumption,ha98,fun i hi=>(ha102.1 i hi).2,ha106.2⟩⟩ Y0 Y0
 refine zz 4 ?_
 refine J.aP zcB rfl rfl [] rfl (ι:=Unit) (fun _=>False) (fun _=>.tuple #[]) [] (fun _=>[]) (ParsePn 165 122 125 (OkP bs op) w g4 g5) (fun w hw=>(Ua.ask w _ (False) 57 (((at1H bs+1:Nat):Int)) Y23).mono fun e w2 he=>zak he (fun ch w3 hg=>⟨hg.1,fun q=>(by have h1:=(q.sb hk3).1;contradiction),_,(hw.join0 hg.2.2).sub (Sub.cons rfl (Sub.cons rfl (Sub.nil _)))⟩) (fun v w3 hr=>⟨(),hr.1,hr.2.1,hr.2.2⟩)) Y181 (fun ch a2 w2 ha2 hg2=>zas rfl rfl rfl rfl ha2 hg2) fun _ ha98=>?_
 exact ha98.elim
 have hk3:=h4
 refine zz 1 ?_
 have ha2e:=zuE hk3
 have hm0:=zsd hk3
 have hs0:=zoX hk3
 refine X.ah 21 ⟨some g21,168,rdC A bs.length c (at2H bs)⟩ rfl (congrArg (fun z=>Ent.mk (some g21) 168 (rdC A bs.length c z)) ha2e.symm) <| X.aH 12 3 <| X.ah 12 (RowIx.nil.ent 3 (rowN .i64 (subsH bs))) rfl (by rw [hs0];rfl) <| X.as 12 (RowIx.nil.val (subsH bs).length) rfl (by rw [hs0];rfl) <| X.as 13 (.int .i64 (((subsH bs).sum:Nat):Int)) rfl (by rw [hs0];rfl) ?_
 exact X.at RowIx.nil ⟨by omega,by omega,by rw [hm0];exact RowIx.nil_ok 1,fun q=>absurd q hk3⟩ Y0 Y0
 rintro q2 ⟨hat2,hm2,hq2,hsb⟩
 refine zz 1 ?_
 refine T.ah 1 [.l] _ _ rfl rfl rfl <| zz 1 ?_
 refine J.aP zes rfl rfl [.l,.l,.l,.l,.l] rfl (ι:=Unit) (fun _=>at2H bs+2≤bs.length) (fun _=>.tuple #[.int .i64 ((sizeH bs:Nat):Int),.int .i64 ((at2H bs:Nat):Int)]) [g21] (fun _=>[(21,⟨some g21,168,rdC A bs.length c (at2H bs+2)⟩)]) (ParsePn 165 122 125 (OkP bs op) w g4 g5) (fun w hw=>(Ua.next w n (Nat.le_trans hn hw.size) (B++ids [(4,⟨some g4,122,(CtR.none.cells)⟩),(5,⟨some g5,125,((RjR.of 0 0).cells)⟩),(10,q66.ent 3 (rowN .i64 (codesH bs))),(21,⟨some g21,168,rdC A bs.length c (at2H bs)⟩),(12,q2.ent 3 (rowN .i64 (subsH bs)))]) g21 (List.mem_append_right _ Y196) bs hd hl A c (at2H bs) Y5 (hF.keep (zad (B0:=B) (l1:=[(4,⟨some g4,122,(CtR.none.cells)⟩),(5,⟨some g5,125,((RjR.of 0 0).cells)⟩),(10,q66.ent 3 (rowN .i64 (codesH bs))),(21,⟨some g21,168,rdC A bs.length c (at2H bs)⟩),(12,q2.ent 3 (rowN .i64 (subsH bs)))]) hn Y189 hw Y0 rfl)) (hw.live 21 _ rfl) 2 Y23).mono fun e w2 he=>zak he (fun ch w3 hg=>⟨hg.1,(fun q=>hg.2.1 Y180),_,hw.gave hg.2.2 21 rfl rfl (Sub.cons rfl (Sub.cons rfl (Sub.nil _))) (fun j e2 q=>zcA q rfl)⟩) (fun v w3 hr=>⟨(),hr.1,hr.2.1,hr.2.2.only 0 21 rfl⟩)) (fun _ _ q hq=>⟨21,_,_,rfl,Y173,rfl⟩) (fun ch a2 w2 ha2 hg2=>zas rfl rfl rfl rfl ha2 hg2) fun _ ha109=>?_
 refine zz 3 ?_
 refine J.aa zdm rfl rfl <| J.ae 4 rfl rfl rfl rfl [.int .i64 ((sizeH bs:Nat):Int)] rfl sz3 (Nat.le_of_ble_eq_true rfl) Y27 Y11 trivial ((CtR.none.sized ((sizeH bs:Nat):Int)).cells) rfl <| zz 3 ?_
 refine T.ah 1 [.l] _ _ rfl rfl rfl <| zz 1 ?_
 refine J.aP zgM rfl rfl [] rfl (ι:=Unit) (fun _=>at2H bs+2+1≤bs.length∧numB bs (at2H bs+2) 1=0) (fun _=>.tuple #[]) [g21] (fun _=>[(21,⟨some g21,168,rdC A bs.length c (endH bs)⟩)]) (ParsePn 165 122 125 (OkP bs op) w g4 g5) (fun w hw=>(Ua.want w n (Nat.le_trans hn hw.size) (B++ids [(4,⟨some g4,122,((CtR.none.sized ((sizeH bs:Nat):Int)).cells)⟩),(5,⟨some g5,125,((RjR.of 0 0).cells)⟩),(10,q66.ent 3 (rowN .i64 (codesH bs))),(21,⟨some g21,168,rdC A bs.length c (at2H bs+2)⟩),(12,q2.ent 3 (rowN .i64 (subsH bs)))]) g21 (List.mem_append_right _ Y196) bs hd hl A c (at2H bs+2) Y5 (hF.keep (zad (B0:=B) (l1:=[(4,⟨some g4,122,((CtR.none.sized ((sizeH bs:Nat):Int)).cells)⟩),(5,⟨some g5,125,((RjR.of 0 0).cells)⟩),(10,q66.ent 3 (rowN .i64 (codesH bs))),(21,⟨some g21,168,rdC A bs.length c (at2H bs+2)⟩),(12,q2.ent 3 (rowN .i64 (subsH bs)))]) hn Y189 hw Y0 rfl)) (hw.live 21 _ rfl) 0 53 Y23).mono fun e w2 he=>zak he (fun ch w3 hg=>⟨hg.1,(fun q=>hg.2.1 ⟨Y180,q.ez⟩),_,hw.gave hg.2.2 21 rfl rfl (Sub.cons rfl (Sub.cons rfl (Sub.nil _))) (fun j e2 q=>zcA q rfl)⟩) (fun v w3 hr=>⟨(),hr.1,hr.2.1,hr.2.2.only 0 21 rfl⟩)) (fun _ _ q hq=>⟨21,_,_,rfl,Y173,rfl⟩) (fun ch a2 w2 ha2 hg2=>zas rfl rfl rfl rfl ha2 hg2) fun _ ha114=>?_
 refine zz 6 ?_
 refine J.aa zbB rfl rfl <| J.ag Y8k 21 rfl rfl one3 Y3 rfl <| zz 1 ?_
 refine J.aq rfl rfl rfl Y142 <| zz 1 ?_
 refine J.aq rfl rfl rfl Y142 <| zz 1 ?_
 refine J.aq rfl rfl rfl Y142 <| J.as 124 (.int .i64 ((headH bs:Nat):Int)) rfl (by exact congrArg (fun z:Nat=>Value.int .i64 (z:Int)) (by rw [← ha62];rfl)) <| zz 3 ?_
 refine T.ai (ι:=Unit) (fun (_:Unit)=>headH bs≤bs.length∧(op=false→headH bs+sizeH bs≤bs.length)) (fun (_:Unit)=>[(0,.slice A bs.length c),(1,.bool op),(4,.pointer (some ⟨g4,0,none⟩)),(5,.pointer (some ⟨g5,0,none⟩)),(18,.func (.func 129) #[] #[.pointer (some ⟨g4,0,none⟩),.pointer (some ⟨g5,0,none⟩)]),(19,.slice A bs.length c),(20,(.agg (rdC A bs.length c 0).toArray)),(21,.pointer (some ⟨g21,0,none⟩)),(6,.pointer (some ⟨g21,0,none⟩)),(22,.pointer (some ⟨g21,0,none⟩)),(23,.tuple #[]),(24,.pointer (some ⟨g21,0,none⟩)),(25,.tuple #[]),(26,.pointer (some ⟨g21,0,none⟩)),(27,.tuple #[]),(28,.pointer (some ⟨g21,0,none⟩)),(29,.tuple #[]),(31,.pointer (some ⟨g21,0,none⟩)),(32,.tuple #[.int .i64 ((fourH bs:Nat):Int),.int .i64 ((4:Nat):Int)]),(30,.tuple #[.int .i64 ((fourH bs:Nat):Int),.int .i64 ((4:Nat):Int)]),(33,.int .i64 ((fourH bs:Nat):Int)),(34,.int .i64 ((4:Nat):Int)),(7,.int .i64 ((fourH bs:Nat):Int)),(8,.int .i64 ((at1H bs:Nat):Int)),(35,.pointer (some ⟨g21,0,none⟩)),(36,.int .i64 ((fourH bs:Nat):Int)),(37,.bool (decide (0 < fourH bs))),(38,.bool true),(39,.int .i64 ((fourH bs:Nat):Int)),(41,.bool (decide (fourH bs%4=0))),(42,.bool (decide (fourH bs%4=0))),(43,.bool true),(44,.int .i64 ((fourH bs:Nat):Int)),(45,.bool (decide (fourH bs≤4096))),(46,.bool (decide (fourH bs≤4096))),(47,.int .i64 ((4:Nat):Int)),(48,.tuple #[]),(49,.pointer (some ⟨g21,0,none⟩)),(50,.tuple #[]),(52,.pointer (some ⟨g21,0,none⟩)),(53,.tuple #[.int .i64 ((nH bs:Nat):Int),.int .i64 ((7:Nat):Int)]),(51,.tuple #[.int .i64 ((nH bs:Nat):Int),.int .i64 ((7:Nat):Int)]),(54,.int .i64 ((nH bs:Nat):Int)),(55,.int .i64 ((7:Nat):Int)),(9,.int .i64 ((nH bs:Nat):Int)),(56,.pointer (some ⟨g21,0,none⟩)),(57,.int .i64 ((nH bs:Nat):Int)),(59,.int .i64 ((fourH bs:Nat):Int)),(60,.bool (decide (nH bs*4=fourH bs))),(61,.int .i64 ((7:Nat):Int)),(62,.tuple #[]),(64,.pointer (some ⟨g21,0,none⟩)),(65,.int .i64 ((nH bs:Nat):Int)),(66,.tuple #[q66.val (nH bs),.int .i64 (((codesH bs).sum:Nat):Int)]),(63,.tuple #[q66.val (nH bs),.int .i64 (((codesH bs).sum:Nat):Int)]),(67,q66.val (codesH bs).length),(68,.int .i64 (((codesH bs).sum:Nat):Int)),(10,q66.val (codesH bs).length),(11,.int .i64 (((codesH bs).sum:Nat):Int)),(12,q2.val (subsH bs).length),(13,.int .i64 (((subsH bs).sum:Nat):Int)),(70,.pointer (some ⟨g21,0,none⟩)),(71,.tuple #[.int .i64 ((kindH bs:Nat):Int),.int .i64 ((at1H bs:Nat):Int)]),(69,.tuple #[.int .i64 ((kindH bs:Nat):Int),.int .i64 ((at1H bs:Nat):Int)]),(72,.int .i64 ((kindH bs:Nat):Int)),(73,.int .i64 ((at1H bs:Nat):Int)),(14,.int .i64 ((kindH bs:Nat):Int)),(108,.pointer (some ⟨g21,0,none⟩)),(109,.tuple #[.int .i64 ((sizeH bs:Nat):Int),.int .i64 ((at2H bs:Nat):Int)]),(107,.tuple #[.int .i64 ((sizeH bs:Nat):Int),.int .i64 ((at2H bs:Nat):Int)]),(110,.int .i64 ((sizeH bs:Nat):Int)),(111,.int .i64 ((at2H bs:Nat):Int)),(113,.pointer (some ⟨g21,0,none⟩)),(114,.tuple #[]),(115,.pointer (some ⟨g21,0,none⟩)),(116,.pointer (some ⟨g21,0,none⟩)),(118,.int .i64 ((endH bs:Nat):Int)),(119,.int .i64 ((fourH bs:Nat):Int)),(121,.int .i64 (((codesH bs).sum:Nat):Int)),(123,.int .i64 (((subsH bs).sum:Nat):Int)),(124,.int .i64 ((headH bs:Nat):Int)),(17,.int .i64 ((headH bs:Nat):Int))]) (fun (_:Unit)=>[(4,⟨some g4,122,((CtR.none.sized ((sizeH bs:Nat):Int)).cells)⟩),(5,⟨some g5,125,((RjR.of 0 0).cells)⟩),(10,q66.ent 3 (rowN .i64 (codesH bs))),(21,⟨some g21,168,rdC A bs.length c (endH bs)⟩),(12,q2.ent 3 (rowN .i64 (subsH bs)))]) ?_ ?_
 refine zz 3 ?_
 refine J.al underlying51 rfl rfl <| zz 2 ?_
 refine J.as 128 (.bool (decide (bs.length < headH bs))) rfl Y156 <| zz 1 ?_
 refine J.an 129 rfl (fun h6=>?_) (fun h6=>?_)
 refine zz 15 ?_
 refine T.ah 4 [.l,.l,.l,.l] _ _ rfl rfl rfl <| zz 1 ?_
 refine J.al underlying51 rfl rfl <| J.ao rfl rfl (.agg [.int .i64 50,.int .i64 ((bs.length:Nat):Int)].toArray) Y191 <| J.bC (⟨_,underlying165,trivial⟩) rfl rfl ?_
 exact J.bN rfl (fun a2 w2 ha2 hw2=>zas rfl rfl rfl rfl ha2 ⟨⟨50,_,by decide,rfl⟩,fun (q:OkP bs op)=>by have h1:=zde q;have h2:=q.dl;first | omega | (have h3:=h2 Y195;omega),_,hw2.sub (Sub.cons rfl (Sub.cons rfl (Sub.nil _)))⟩)
 refine zz 1 ?_
 refine J.aF rfl rfl <| J.aA (b:= !op) rfl rfl rfl <| J.as 131 (.bool (decide (op=false))) rfl (by cases op<;>rfl) <| zz 1 ?_
 refine J.an 132 rfl (fun h7=>?_) (fun h7=>?_)
 refine zz 2 ?_
 refine J.al underlying51 rfl rfl <| zz 2 ?_
 refine J.aa zdm rfl rfl <| zz 1 ?_
 refine J.ag Y8k 4 rfl rfl one3 rfl rfl <| zz 1 ?_
 refine J.aq rfl rfl rfl Y142 <| zz 1 ?_
 refine J.as 139 (.bool (decide (bs.length < headH bs+sizeH bs))) rfl Y156 <| zz 4 ?_
 refine T.aa rfl (fun h8=>?_) (fun h8=>?_)
 refine T.ah 4 [.l,.l,.l,.l] _ _ rfl rfl rfl <| zz 1 ?_
 refine J.al underlying51 rfl rfl <| J.ao rfl rfl (.agg [.int .i64 50,.int .i64 ((bs.length:Nat):Int)].toArray) Y191 <| J.bC (⟨_,underlying165,trivial⟩) rfl rfl ?_
 exact J.bN rfl (fun a2 w2 ha2 hw2=>zas rfl rfl rfl rfl ha2 ⟨⟨50,_,by decide,rfl⟩,fun (q:OkP bs op)=>by have h1:=zde q;have h2:=q.dl;first | omega | (have h3:=h2 Y195;omega),_,hw2.sub (Sub.cons rfl (Sub.cons rfl (Sub.nil _)))⟩)
 refine zz 1 ?_
 exact X.at () ⟨by omega,fun q=>by first | omega | contradiction⟩ Y0 Y0
 refine zz 13 ?_
 exact X.at () ⟨by omega,fun q=>by first | omega | contradiction⟩ Y0 Y0
 rintro _ ⟨hhl,hdl⟩
 refine zz 1 ?_
 refine T.ah 12 [.l,.l,.l,.l,.l,.l,.l,.l,.l,.l,.l,.l] _ _ rfl rfl rfl <| zz 2 ?_
 refine J.al underlying51 rfl rfl <| zz 1 ?_
 refine J.aa zdm rfl rfl <| J.ag Y8k 4 rfl rfl one3 rfl rfl <| J.aq rfl rfl rfl Y142 <| zz 1 ?_
 refine J.as 153 (.bool (decide (bs.length≤headH bs+sizeH bs))) rfl Y156 <| zz 1 ?_
 refine J.aa zdm rfl rfl <| J.ag Y8k 4 rfl rfl one3 rfl rfl <| J.aq rfl rfl rfl Y142 <| J.aP zcB rfl rfl [] rfl (ι:=Unit) (fun _=>bs.length≤headH bs+sizeH bs) (fun _=>.tuple #[]) [] (fun _=>[]) (ParsePn 165 122 125 (OkP bs op) w g4 g5) (fun w hw=>(Ua.ask w _ (bs.length≤headH bs+sizeH bs) 58 (((headH bs+sizeH bs:Nat):Int)) Y23).mono fun e w2 he=>zak he (fun ch w3 hg=>⟨hg.1,(fun q=>hg.2.1 q.du),_,(hw.join0 hg.2.2).sub (Sub.cons rfl (Sub.cons rfl (Sub.nil _)))⟩) (fun v w3 hr=>⟨(),hr.1,hr.2.1,hr.2.2⟩)) Y181 (fun ch a2 w2 ha2 hg2=>zas rfl rfl rfl rfl ha2 hg2) fun _ ha158=>?_
 refine zz 3 ?_
 refine T.ah 2 [.l,.l] _ _ rfl rfl rfl <| zz 2 ?_
 refine J.aP zuq rfl rfl [] rfl (ι:=RowIx) (fun q=>TypesOk bs (endH bs) (nH bs)∧q.Ok 3 (tysB bs (endH bs) (nH bs)).length) (fun q=>.tuple #[]) [g21,g4] (fun q=>[(21,⟨some g21,168,rdC A bs.length c (endH bs+nH bs*4)⟩),(4,⟨some g4,122,(((CtR.none.sized ((sizeH bs:Nat):Int)).typed (tysB bs (endH bs) (nH bs)) q).cells)⟩),(60,q.ent 154 (rowTy (tysB bs (endH bs) (nH bs))))]) (ParsePn 165 122 125 (OkP bs op) w g4 g5) (fun w hw=>(Uc.types w n (Nat.le_trans hn hw.size) (B++ids [(4,⟨some g4,122,((CtR.none.sized ((sizeH bs:Nat):Int)).cells)⟩),(5,⟨some g5,125,((RjR.of 0 0).cells)⟩),(10,q66.ent 3 (rowN .i64 (codesH bs))),(21,⟨some g21,168,rdC A bs.length c (endH bs)⟩),(12,q2.ent 3 (rowN .i64 (subsH bs)))]) g21 (List.mem_append_right _ Y196) bs hd hl A c (endH bs) Y5 (hF.keep (zad (B0:=B) (l1:=[(4,⟨some g4,122,((CtR.none.sized ((sizeH bs:Nat):Int)).cells)⟩),(5,⟨some g5,125,((RjR.of 0 0).cells)⟩),(10,q66.ent 3 (rowN .i64 (codesH bs))),(21,⟨some g21,168,rdC A bs.length c (endH bs)⟩),(12,q2.ent 3 (rowN .i64 (subsH bs)))]) hn Y189 hw Y0 rfl)) (hw.live 21 _ rfl) g4 (List.mem_append_right _ Y196) (fun q=>hw.apart 21 4 _ _ g21 rfl rfl Y23 rfl (congrArg some q.symm)) (CtR.none.sized ((sizeH bs:Nat):Int)) rfl rfl rfl (hw.live 4 _ rfl) (nH bs) Y5).mono fun e w2 he=>zak he (fun ch w3 hg=>⟨hg.1,fun q=>hg.2.1 (fun j hj=>⟨by have:=zde q;omega,q.ty j hj⟩),(let ⟨cr,h5⟩:=hg.2.2;⟨cr,hw.gave2 h5 21 4 rfl rfl rfl rfl rfl Y23 Y23⟩)⟩) (fun v w3 hr=>(let ⟨h1,q,h2,h3,h4⟩:=hr;⟨q,⟨h1,h2⟩,h3,h4.ren111 21 4 60 Y23 Y23 Y23⟩))) (fun _ _ q hq=>by rcases List.mem_cons.1 hq with h | h;exact ⟨21,_,_,rfl,(by rw [h]),rfl⟩;exact ⟨4,_,_,rfl,(by rw [List.mem_singleton.1 h]),rfl⟩) (fun ch a2 w2 ha2 hg2=>zas rfl rfl rfl rfl ha2 hg2) fun q161 ha161=>?_
 refine zz 3 ?_
 refine T.al [(4,⟨some g4,122,(((CtR.none.sized ((sizeH bs:Nat):Int)).typed (tysB bs (endH bs) (nH bs)) q161).cells)⟩),(5,⟨some g5,125,((RjR.of 0 0).cells)⟩),(21,⟨some g21,168,rdC A bs.length c (endH bs+nH bs*4)⟩)] Y0 rfl fun Wz9 hWWz9=>?_
 have hf10:=zbC (n:=n) (B:=B++ids [(4,⟨some g4,122,(((CtR.none.sized ((sizeH bs:Nat):Int)).typed (tysB bs (endH bs) (nH bs)) q161).cells)⟩),(5,⟨some g5,125,((RjR.of 0 0).cells)⟩),(21,⟨some g21,168,rdC A bs.length c (endH bs+nH bs*4)⟩)]) hWWz9 (j:=10) rfl (zdr (fun g h=>⟨hB g h,fun q=>by cases q⟩) Y0 rfl rfl)
 have hf12:=zbC (n:=n) (B:=B++ids [(4,⟨some g4,122,(((CtR.none.sized ((sizeH bs:Nat):Int)).typed (tysB bs (endH bs) (nH bs)) q161).cells)⟩),(5,⟨some g5,125,((RjR.of 0 0).cells)⟩),(21,⟨some g21,168,rdC A bs.length c (endH bs+nH bs*4)⟩)]) hWWz9 (j:=12) rfl (zdr (fun g h=>⟨hB g h,fun q=>by cases q⟩) Y0 rfl rfl)
 have hf60:=zbC (n:=n) (B:=B++ids [(4,⟨some g4,122,(((CtR.none.sized ((sizeH bs:Nat):Int)).typed (tysB bs (endH bs) (nH bs)) q161).cells)⟩),(5,⟨some g5,125,((RjR.of 0 0).cells)⟩),(21,⟨some g21,168,rdC A bs.length c (endH bs+nH bs*4)⟩)]) hWWz9 (j:=60) rfl (zdr (fun g h=>⟨hB g h,fun q=>by cases q⟩) Y0 rfl rfl)
 have kpWz9:=(zad (B0:=B) (l1:=[(4,⟨some g4,122,(((CtR.none.sized ((sizeH bs:Nat):Int)).typed (tysB bs (endH bs) (nH bs)) q161).cells)⟩),(5,⟨some g5,125,((RjR.of 0 0).cells)⟩),(21,⟨some g21,168,rdC A bs.length c (endH bs+nH bs*4)⟩)]) hn Y189 hWWz9 Y0 rfl)
 have hF:=hF.keep kpWz9
 have hVWz9:=hWWz9.s0
 refine zz 3 ?_
 refine J.aZ zrc rfl rfl _ _ [g21] (fun i=>[(21,⟨some g21,168,rdC A bs.length c (endH bs+nH bs*4+(codesH bs).sum)⟩)]) (fun i=>[(4,⟨some g4,122,(((CtR.none.sized ((sizeH bs:Nat):Int)).typed (tysB bs (endH bs) (nH bs)) q161).cells)⟩),(5,⟨some g5,125,((RjR.of 0 0).cells)⟩),(21,⟨some g21,168,rdC A bs.length c (endH bs+nH bs*4+(codesH bs).sum)⟩)]) (fun i=>Y0) (fun _=>rfl) (fun _ _ _=>Sub.nil _) (fun i g hg=>⟨21,_,_,rfl,by first | (rw [List.mem_singleton.1 hg];done) | (simpa [RowIx.ent] using hg),rfl⟩) (fun w hw=>(Uc.cut w n (Nat.le_trans hn hw.size) (B++ids [(4,⟨some g4,122,(((CtR.none.sized ((sizeH bs:Nat):Int)).typed (tysB bs (endH bs) (nH bs)) q161).cells)⟩),(5,⟨some g5,125,((RjR.of 0 0).cells)⟩),(21,⟨some g21,168,rdC A bs.length c (endH bs+nH bs*4)⟩)]) g21 (List.mem_append_right _ Y196) bs hd hl A c (endH bs+nH bs*4) Y5 (hF.keep (zaa (I:=[some g4,some g5,some g21]) (B0:=B) (l1:=[(4,⟨some g4,122,(((CtR.none.sized ((sizeH bs:Nat):Int)).typed (tysB bs (endH bs) (nH bs)) q161).cells)⟩),(5,⟨some g5,125,((RjR.of 0 0).cells)⟩),(21,⟨some g21,168,rdC A bs.length c (endH bs+nH bs*4)⟩)]) hVWz9 hn Y189 hw Y4 Y0 rfl)) (hw.live 21 _ rfl) hcap (zaf (l1:=[(4,⟨some g4,122,(((CtR.none.sized ((sizeH bs:Nat):Int)).typed (tysB bs (endH bs) (nH bs)) q161).cells)⟩),(5,⟨some g5,125,((RjR.of 0 0).cells)⟩),(21,⟨some g21,168,rdC A bs.length c (endH bs+nH bs*4)⟩)]) hB hw Y0 rfl) _ _ (codesH bs) (hf10.keep (zaa (I:=[some g4,some g5,some g21]) (B0:=B) (l1:=[(4,⟨some g4,122,(((CtR.none.sized ((sizeH bs:Nat):Int)).typed (tysB bs (endH bs) (nH bs)) q161).cells)⟩),(5,⟨some g5,125,((RjR.of 0 0).cells)⟩),(21,⟨some g21,168,rdC A bs.length c (endH bs+nH bs*4)⟩)]) hVWz9 hn Y189 hw Y4 Y0 rfl)) Y5 Y5).mono fun e w2 ⟨q,h1,h2,h3⟩=>⟨q,h1,h2,h3.only 0 21 rfl⟩) fun i164 W164 hP164 hW164=>?_
 obtain ⟨hm164,hr164,hf164,ha164⟩:=hP164
 have kpW164:=(zaa (I:=[some g4,some g5,some g21]) (B0:=B) (l1:=[(4,⟨some g4,122,(((CtR.none.sized ((sizeH bs:Nat):Int)).typed (tysB bs (endH bs) (nH bs)) q161).cells)⟩),(5,⟨some g5,125,((RjR.of 0 0).cells)⟩),(21,⟨some g21,168,rdC A bs.length c (endH bs+nH bs*4+(codesH bs).sum)⟩)]) hVWz9 hn Y189 hW164 Y4 Y0 rfl)
 have hF:=hF.keep kpW164
 have hf10:=hf10.keep kpW164
 have hf12:=hf12.keep kpW164
 have hf60:=hf60.keep kpW164
 have hVW164:=hW164.s0
 refine J.aa zbn rfl rfl <| J.ae 4 rfl rfl rfl rfl [i164.2.val i164.1.length] rfl sz45 (Nat.le_of_ble_eq_true rfl) Y27 Y11 trivial ((((CtR.none.sized ((sizeH bs:Nat):Int)).typed (tysB bs (endH bs) (nH bs)) q161).withC i164.1 i164.2).cells) rfl <| zz 6 ?_
 refine J.aZ zrc rfl rfl _ _ [g21] (fun i=>[(21,⟨some g21,168,rdC A bs.length c (endH bs+nH bs*4+(codesH bs).sum+(subsH bs).sum)⟩)]) (fun i=>[(4,⟨some g4,122,((((CtR.none.sized ((sizeH bs:Nat):Int)).typed (tysB bs (endH bs) (nH bs)) q161).withC i164.1 i164.2).cells)⟩),(5,⟨some g5,125,((RjR.of 0 0).cells)⟩),(21,⟨some g21,168,rdC A bs.length c (endH bs+nH bs*4+(codesH bs).sum+(subsH bs).sum)⟩)]) (fun i=>Y0) (fun _=>rfl) (fun _ _ _=>Sub.nil _) (fun i g hg=>⟨21,_,_,rfl,by first | (rw [List.mem_singleton.1 hg];done) | (simpa [RowIx.ent] using hg),rfl⟩) (fun w hw=>(Uc.cut w n (Nat.le_trans hn hw.size) (B++ids [(4,⟨some g4,122,((((CtR.none.sized ((sizeH bs:Nat):Int)).typed (tysB bs (endH bs) (nH bs)) q161).withC i164.1 i164.2).cells)⟩),(5,⟨some g5,125,((RjR.of 0 0).cells)⟩),(21,⟨some g21,168,rdC A bs.length c (endH bs+nH bs*4+(codesH bs).sum)⟩)]) g21 (List.mem_append_right _ Y196) bs hd hl A c (endH bs+nH bs*4+(codesH bs).sum) Y5 (hF.keep (zaa (I:=[some g4,some g5,some g21]) (B0:=B) (l1:=[(4,⟨some g4,122,((((CtR.none.sized ((sizeH bs:Nat):Int)).typed (tysB bs (endH bs) (nH bs)) q161).withC i164.1 i164.2).cells)⟩),(5,⟨some g5,125,((RjR.of 0 0).cells)⟩),(21,⟨some g21,168,rdC A bs.length c (endH bs+nH bs*4+(codesH bs).sum)⟩)]) hVW164 hn Y189 hw Y4 Y0 rfl)) (hw.live 21 _ rfl) hcap (zaf (l1:=[(4,⟨some g4,122,((((CtR.none.sized ((sizeH bs:Nat):Int)).typed (tysB bs (endH bs) (nH bs)) q161).withC i164.1 i164.2).cells)⟩),(5,⟨some g5,125,((RjR.of 0 0).cells)⟩),(21,⟨some g21,168,rdC A bs.length c (endH bs+nH bs*4+(codesH bs).sum)⟩)]) hB hw Y0 rfl) _ _ (subsH bs) (hf12.keep (zaa (I:=[some g4,some g5,some g21]) (B0:=B) (l1:=[(4,⟨some g4,122,((((CtR.none.sized ((sizeH bs:Nat):Int)).typed (tysB bs (endH bs) (nH bs)) q161).withC i164.1 i164.2).cells)⟩),(5,⟨some g5,125,((RjR.of 0 0).cells)⟩),(21,⟨some g21,168,rdC A bs.length c (endH bs+nH bs*4+(codesH bs).sum)⟩)]) hVW164 hn Y189 hw Y4 Y0 rfl)) Y5 Y5).mono fun e w2 ⟨q,h1,h2,h3⟩=>⟨q,h1,h2,h3.only 0 21 rfl⟩) fun i168 W168 hP168 hW168=>?_
 obtain ⟨hm168,hr168,hf168,ha168⟩:=hP168
 have kpW168:=(zaa (I:=[some g4,some g5,some g21]) (B0:=B) (l1:=[(4,⟨some g4,122,((((CtR.none.sized ((sizeH bs:Nat):Int)).typed (tysB bs (endH bs) (nH bs)) q161).withC i164.1 i164.2).cells)⟩),(5,⟨some g5,125,((RjR.of 0 0).cells)⟩),(21,⟨some g21,168,rdC A bs.length c (endH bs+nH bs*4+(codesH bs).sum+(subsH bs).sum)⟩)]) hVW164 hn Y189 hW168 Y4 Y0 rfl)
 have hF:=hF.keep kpW168
 have hf10:=hf10.keep kpW168
 have hf12:=hf12.keep kpW168
 have hf60:=hf60.keep kpW168
 have hf164:=hf164.keep kpW168
 have ha164:=ha164.keep kpW168
 have hVW168:=hW168.s0
 refine J.aa zbm rfl rfl <| J.ae 4 rfl rfl rfl rfl [i168.2.val i168.1.length] rfl sz45 (Nat.le_of_ble_eq_true rfl) Y27 Y11 trivial (((((CtR.none.sized ((sizeH bs:Nat):Int)).typed (tysB bs (endH bs) (nH bs)) q161).withC i164.1 i164.2).withS i168.1 i168.2).cells) rfl <| zz 7 ?_
 refine J.aa zbB rfl rfl <| J.ag Y8k 21 rfl rfl one3 Y3 rfl <| J.ax sl51 rfl (optInt.some rfl Y5 Y8) optInt.none optInt.none Y20 Y5 Y5 Y5 rfl rfl <| J.as 175 (.slice (if c=headH bs then A else A.map (·.add (headH bs*1))) (bs.drop (headH bs)).length (c - headH bs)) rfl (by rw [List.length_drop,← hH]) <| J.aw zjl rfl rfl _ _ [(4,⟨some g4,122,(((((CtR.none.sized ((sizeH bs:Nat):Int)).typed (tysB bs (endH bs) (nH bs)) q161).withC i164.1 i164.2).withS i168.1 i168.2).cells)⟩),(5,⟨some g5,125,((RjR.of 0 0).cells)⟩),(21,⟨some g21,168,rdC A bs.length c (endH bs+nH bs*4+(codesH bs).sum+(subsH bs).sum)⟩)] Y0 rfl (fun _ _=>Sub.nil _) (fun w hw=>Uc.CloneB w n (B++ids [(4,⟨some g4,122,(((((CtR.none.sized ((sizeH bs:Nat):Int)).typed (tysB bs (endH bs) (nH bs)) q161).withC i164.1 i164.2).withS i168.1 i168.2).cells)⟩),(5,⟨some g5,125,((RjR.of 0 0).cells)⟩),(21,⟨some g21,168,rdC A bs.length c (endH bs+nH bs*4+(codesH bs).sum+(subsH bs).sum)⟩)]) _ _ _ (zaf (l1:=[(4,⟨some g4,122,(((((CtR.none.sized ((sizeH bs:Nat):Int)).typed (tysB bs (endH bs) (nH bs)) q161).withC i164.1 i164.2).withS i168.1 i168.2).cells)⟩),(5,⟨some g5,125,((RjR.of 0 0).cells)⟩),(21,⟨some g21,168,rdC A bs.length c (endH bs+nH bs*4+(codesH bs).sum+(subsH bs).sum)⟩)]) hB hw Y0 rfl) (cut8 (hF.keep (zaa (I:=[some g4,some g5,some g21]) (B0:=B) (l1:=[(4,⟨some g4,122,(((((CtR.none.sized ((sizeH bs:Nat):Int)).typed (tysB bs (endH bs) (nH bs)) q161).withC i164.1 i164.2).withS i168.1 i168.2).cells)⟩),(5,⟨some g5,125,((RjR.of 0 0).cells)⟩),(21,⟨some g21,168,rdC A bs.length c (endH bs+nH bs*4+(codesH bs).sum+(subsH bs).sum)⟩)]) hVW168 hn Y189 hw Y4 Y0 rfl)).cs hcap (headH bs)) Y174) fun i176 W176 hP176 hW176=>?_
 obtain ⟨hcp176,hP176⟩:=hP176
 have kpW176:=(zaa (I:=[some g4,some g5,some g21]) (B0:=B) (l1:=[(4,⟨some g4,122,(((((CtR.none.sized ((sizeH bs:Nat):Int)).typed (tysB bs (endH bs) (nH bs)) q161).withC i164.1 i164.2).withS i168.1 i168.2).cells)⟩),(5,⟨some g5,125,((RjR.of 0 0).cells)⟩),(21,⟨some g21,168,rdC A bs.length c (endH bs+nH bs*4+(codesH bs).sum+(subsH bs).sum)⟩)]) hVW168 hn Y189 hW176 Y4 Y0 rfl)
 have hF:=hF.keep kpW176
 have hf10:=hf10.keep kpW176
 have hf12:=hf12.keep kpW176
 have hf60:=hf60.keep kpW176
 have hf164:=hf164.keep kpW176
 have ha164:=ha164.keep kpW176
 have hf168:=hf168.keep kpW176
 have ha168:=ha168.keep kpW176
 have hVW176:=hW176.s0
 refine J.aa zlw rfl rfl <| J.ae 4 rfl rfl rfl rfl [.slice (hdOf i176.id) (bs.drop (headH bs)).length i176.cap] rfl sz51 (Nat.le_of_ble_eq_true rfl) Y27 Y11 trivial ((((((CtR.none.sized ((sizeH bs:Nat):Int)).typed (tysB bs (endH bs) (nH bs)) q161).withC i164.1 i164.2).withS i168.1 i168.2).withD (bs.drop (headH bs)) i176).cells) rfl <| zz 3 ?_
 refine T.an [(5,⟨some g5,125,((RjR.of 0 0).cells)⟩)] [(0,.q),(1,.s),(2,.l)] [] [(3,.l)] Y12 Y12 Y12 ?_ Y0
 refine J.ai Y8k 4 rfl rfl zcT ((((((CtR.none.sized ((sizeH bs:Nat):Int)).typed (tysB bs (endH bs) (nH bs)) q161).withC i164.1 i164.2).withS i168.1 i168.2).withD (bs.drop (headH bs)) i176).cells) rfl rfl rfl <| J.bT 5 rfl rfl zaL ((RjR.of 0 0).cells) rfl rfl rfl <| J.ae 4 rfl rfl rfl rfl ((((((CtR.none.sized ((sizeH bs:Nat):Int)).typed (tysB bs (endH bs) (nH bs)) q161).withC i164.1 i164.2).withS i168.1 i168.2).withD (bs.drop (headH bs)) i176).cells) rfl zlW (Nat.le_of_ble_eq_true rfl) Y147 (Nat.zero_lt_succ _) trivial ((((((CtR.none.sized ((sizeH bs:Nat):Int)).typed (tysB bs (endH bs) (nH bs)) q161).withC i164.1 i164.2).withS i168.1 i168.2).withD (bs.drop (headH bs)) i176).cells) rfl ?_
 refine J.cV ?_ (Sub.nil _)
 refine J.ae 5 rfl rfl rfl rfl ((RjR.of 0 0).cells) rfl zbq (Nat.le_of_ble_eq_true rfl) Y147 (Nat.zero_lt_succ _) trivial ((RjR.of 0 0).cells) rfl <| zz 3 ?_
 have hok:OkP bs op:=⟨ha23.2,ha25.2,ha27.2,ha29.2,by assumption,by assumption,ha48,ha50.2,ha62,fun i hi=>(ha66.1 i hi).2,hkd,hsb,ha114.2,hhl,hdl,ha158,fun i hi=>(ha161.1 i hi).2⟩
 exact X.au rfl rfl zre (M':=[]) (l2:=[]) (fun w hw=>ParseRet w g4 g5) (fun q hq=>by cases hq) (RV.agg 4 rfl rfl zcT _ rfl rfl rfl) (RV.agg 5 rfl rfl zaL _ rfl rfl rfl) (fun w' hw'=>⟨(((((CtR.none.sized ((sizeH bs:Nat):Int)).typed (tysB bs (endH bs) (nH bs)) q161).withC i164.1 i164.2).withS i168.1 i168.2).withD (bs.drop (headH bs)) i176,RjR.of 0 0),⟨⟨fun _=>hok,fun _=>rfl⟩,fun _=>zqb hm164 hm168,⟨hf60.keep (((zaa (I:=[some g4,some g5,some g21]) (B0:=B) (l1:=[]) hVW176 hn Y189 hw' Y4 (Sub.nil _) rfl)).le (fun o h=>List.mem_append_left _ h)),hf164.keep (((zaa (I:=[some g4,some g5,some g21]) (B0:=B) (l1:=[]) hVW176 hn Y189 hw' Y4 (Sub.nil _) rfl)).le (fun o h=>List.mem_append_left _ h)),hf168.keep (((zaa (I:=[some g4,some g5,some g21]) (B0:=B) (l1:=[]) hVW176 hn Y189 hw' Y4 (Sub.nil _) rfl)).le (fun o h=>List.mem_append_left _ h)),hP176.keep (((zaa (I:=[some g4,some g5,some g21]) (B0:=B) (l1:=[]) hVW176 hn Y189 hw' Y4 (Sub.nil _) rfl)).le (fun o h=>List.mem_append_left _ h)),ha164.keep (((zaa (I:=[some g4,some g5,some g21]) (B0:=B) (l1:=[]) hVW176 hn Y189 hw' Y4 (Sub.nil _) rfl)).le (fun o h=>List.mem_append_left _ h)),ha168.keep (((zaa (I:=[some g4,some g5,some g21]) (B0:=B) (l1:=[]) hVW176 hn Y189 hw' Y4 (Sub.nil _) rfl)).le (fun o h=>List.mem_append_left _ h))⟩,RjR.of_ok _ _ _⟩,rfl,hw'.s0⟩)
 refine zz 4 ?_
 refine J.aP zcB rfl rfl [] rfl (ι:=Unit) (fun _=>False) (fun _=>.tuple #[]) [] (fun _=>[]) (ParsePn 165 122 125 (OkP bs op) w g4 g5) (fun w hw=>(Ua.ask w _ (False) 54 (((4:Nat):Int)) Y23).mono fun e w2 he=>zak he (fun ch w3 hg=>⟨hg.1,fun q=>(by have h1:=q.f0;have h4:=q.f4;contradiction),_,(hw.join0 hg.2.2).sub (Sub.cons rfl (Sub.cons rfl (Sub.nil _)))⟩) (fun v w3 hr=>⟨(),hr.1,hr.2.1,hr.2.2⟩)) Y181 (fun ch a2 w2 ha2 hg2=>zas rfl rfl rfl rfl ha2 hg2) fun _ ha48=>?_
 exact ha48.elim
 refine zz 9 ?_
 refine J.aP zcB rfl rfl [] rfl (ι:=Unit) (fun _=>False) (fun _=>.tuple #[]) [] (fun _=>[]) (ParsePn 165 122 125 (OkP bs op) w g4 g5) (fun w hw=>(Ua.ask w _ (False) 54 (((4:Nat):Int)) Y23).mono fun e w2 he=>zak he (fun ch w3 hg=>⟨hg.1,fun q=>(by have h1:=q.f0;have h4:=q.f4;contradiction),_,(hw.join0 hg.2.2).sub (Sub.cons rfl (Sub.cons rfl (Sub.nil _)))⟩) (fun v w3 hr=>⟨(),hr.1,hr.2.1,hr.2.2⟩)) Y181 (fun ch a2 w2 ha2 hg2=>zas rfl rfl rfl rfl ha2 hg2) fun _ ha48=>?_
 exact ha48.elim
end Go.Proofs.YtlllcafedekojaaGreatDoor.Ud
namespace Go.Fz
open Go Go.Fw Go.Proofs.Tryz
theorem ztU:FnOk prog 221:=FnOk.mk' func221 Y12 rfl
theorem ztV:FnOk prog 220:=FnOk.mk' func220 Y12 rfl
theorem ztY:FnOk prog 217:=FnOk.mk' func217 Y12 rfl
theorem zbj:ZeroT prog 227 (.agg ([.int .i64 0,.string ByteArray.empty,.int .i64 0,.int .i64 0,.int .i64 0,.int .i64 0,.bool false]).toArray):=Y17
theorem zal:SizeT prog 227 7:=Y9
theorem zag:AggT prog 227 7:=⟨⟨_,underlying227,rfl⟩,Y12⟩
end Go.Fz
namespace Go.Proofs.YtlllcafedekojaaGreatDoor.Va
open Go Go.Fw Go.Fz Go.Proofs.Tryz
attribute [local irreducible] J T X
theorem small (w:World) (n:Int) (h0:0≤n) (h1:n < 100):
    Calls prog 221 [.int .i64 n].toArray w fun e w'=>e=.returned (.string (bstr (smallV n)))∧WS w [] [] w':=by
 refine zac [] 15 [] func221 rfl ntmps221 Y20 (WS.refl _ _) <| zz 3 ?_
 refine J.as 2 (.string (bstr [])) rfl rfl <| zz 9 ?_
 refine T.aa rfl (fun h1=>?_) (fun h1=>?_)
 refine zz 4 ?_
 refine J.aq rfl rfl rfl Y10 <| J.bJ underlying9 rfl (optInt.some rfl Y5 rfl) (optInt.some rfl Y5 rfl) Y5 (by show (n+1).toNat≤36;omega) rfl <| J.as 8 (.string (bstr ((digB.take (n+1).toNat).drop n.toNat))) rfl (by exact congrArg Value.string (zlH digB _ _)) <| zz 5 ?_
 exact X.aa rfl (RV.tmp rfl) (fun w' hw'=>⟨by unfold smallV;rw [if_pos Y195],hw'.s0⟩)
 refine zz 5 ?_
 refine J.bA rfl rfl rfl (by first | exact zgC _ 2 Y5 | exact zai _ Y5 | exact rfl) <| zz 1 ?_
 refine J.bA rfl rfl rfl (by first | exact zgC _ 2 Y5 | exact zai _ Y5 | exact rfl) <| J.aq rfl rfl rfl (by first | exact zdT _ 2 Y5 | exact zai _ Y5 | exact rfl) <| J.bJ underlying9 rfl (optInt.some rfl Y5 rfl) (optInt.some rfl Y5 rfl) Y5 (by show (n*2+2).toNat≤200;omega) rfl <| J.as 14 (.string (bstr ((smB.take (n*2+2).toNat).drop (n*2).toNat))) rfl (by exact congrArg Value.string (zlH smB _ _)) <| zz 4 ?_
 exact X.aa rfl (RV.tmp rfl) (fun w' hw'=>⟨by unfold smallV;rw [if_neg Y195],hw'.s0⟩)
theorem FormatInt (w:World) (n:Int) (h0:0≤n) (h1:n < 100):
    Calls prog 220 [.int .i64 n,.int .i64 10].toArray w fun e w'=>e=.returned (.string (bstr (smallV n)))∧WS w [] [] w':=by
 refine zac [] 54 [] func220 rfl ntmps220 Y20 (WS.refl _ _) <| zz 3 ?_
 refine J.as 4 (.string (bstr [])) rfl rfl <| zz 6 ?_
 refine J.aT rfl rfl rfl (decide_eq_true Y13) <| zz 7 ?_
 refine J.bB rfl rfl rfl (decide_eq_true Y13) <| zz 2 ?_
 refine J.aF rfl rfl <| J.bq rfl rfl rfl (decide_eq_true Y13) <| zz 7 ?_
 refine J.aj Y8k ztU rfl rfl (fun w hw=>Va.small w _ Y5 Y5) ?_
 refine zz 6 ?_
 exact X.aa rfl (RV.tmp rfl) (fun w' hw'=>⟨rfl,hw'.s0⟩)
theorem Itoa (w:World) (n:Int) (h0:0≤n) (h1:n < 100):
    Calls prog 217 [.int .i64 n].toArray w fun e w'=>e=.returned (.string (bstr (smallV n)))∧WS w [] [] w':=by
 refine zac [] 5 [] func217 rfl ntmps217 Y20 (WS.refl _ _) <| zz 3 ?_
 refine J.as 2 (.string (bstr [])) rfl rfl <| zz 5 ?_
 refine J.aj Y8k ztV rfl rfl (fun w hw=>Va.FormatInt w _ Y5 Y5) ?_
 refine zz 4 ?_
 exact X.aa rfl (RV.tmp rfl) (fun w' hw'=>⟨rfl,hw'.s0⟩)
theorem Itoa2 (w:World) (n:Int) (h0:0≤n) (h1:n < 100):
    Calls prog 210 [.int .i64 n].toArray w fun e w'=>e=.returned (.string (bstr (smallV n)))∧WS w [] [] w':=by
 refine zac [] 5 [] func210 rfl ntmps210 Y20 (WS.refl _ _) <| zz 3 ?_
 refine J.as 2 (.string (bstr [])) rfl rfl <| zz 5 ?_
 refine J.aj Y8k ztY rfl rfl (fun w hw=>Va.Itoa w _ Y5 Y5) ?_
 refine zz 4 ?_
 exact X.aa rfl (RV.tmp rfl) (fun w' hw'=>⟨rfl,hw'.s0⟩)
theorem plain (w:World) (c i o g:Int) (nm:List Nat):
    Calls prog 211 [.int .i64 c,.string (bstr nm),.int .i64 i,.int .i64 o,.int .i64 g].toArray w fun e w'=>e=.returned (.agg (plainV c nm i o g).cells.toArray)∧WS w [] [] w':=by
 refine zac [] 17 [] func211 rfl ntmps211 Y20 (WS.refl _ _) <| zz 2 ?_
 refine J.am 10 rfl zbj [.int .i64 0,.string ByteArray.empty,.int .i64 0,.int .i64 0,.int .i64 0,.int .i64 0,.bool false] rfl rfl fun g10 hg10=>zz 9 ?_
 refine J.ao rfl rfl (.agg (plainV c nm i o g).cells.toArray) Y191 <| J.ae 10 rfl rfl rfl rfl ((plainV c nm i o g).cells) rfl zal (Nat.le_of_ble_eq_true rfl) Y171 (Nat.zero_lt_succ _) trivial ((plainV c nm i o g).cells) rfl <| zz 3 ?_
 exact X.aa rfl (RV.agg 10 rfl rfl zag (plainV c nm i o g).cells Y22 Y22 rfl) (fun w' hw'=>⟨rfl,hw'.s0⟩)
end Go.Proofs.YtlllcafedekojaaGreatDoor.Va
namespace Go.Fz
open Go Go.Fw Go.Proofs.Tryz
theorem zan:FnOk prog 211:=FnOk.mk' func211 Y12 rfl
theorem ztX:FnOk prog 218:=FnOk.mk' func218 Y12 rfl
theorem ztW:FnOk prog 219:=FnOk.mk' func219 Y12 rfl
end Go.Fz
namespace Go.Proofs.YtlllcafedekojaaGreatDoor.Vb
open Go Go.Fw Go.Fz Go.Proofs.Tryz
attribute [local irreducible] J T X
theorem sums (w:World) (c:Int):
    Calls prog 212 [.int .i64 c].toArray w fun e w'=>e=.returned (.agg (sumsV c).cells.toArray)∧WS w [] [] w':=by
 refine zac [] 52 [] func212 rfl ntmps212 Y20 (WS.refl _ _) <| zz 2 ?_
 refine J.am 2 rfl zbj [.int .i64 0,.string ByteArray.empty,.int .i64 0,.int .i64 0,.int .i64 0,.int .i64 0,.bool false] rfl rfl fun g2 hg2=>zz 15 ?_
 refine T.aa rfl (fun h1=>?_) (fun h1=>?_)
 refine zz 2 ?_
 refine J.ao rfl rfl (.agg (OpV.mk 0 [83,84,79,80] 0 0 0 0 true).cells.toArray) Y191 <| J.ae 2 rfl rfl rfl rfl ((OpV.mk 0 [83,84,79,80] 0 0 0 0 true).cells) rfl zal (Nat.le_of_ble_eq_true rfl) Y171 (Nat.zero_lt_succ _) trivial ((OpV.mk 0 [83,84,79,80] 0 0 0 0 true).cells) rfl <| zz 5 ?_
 exact X.aa rfl (RV.agg 2 rfl rfl zag ((OpV.mk 0 [83,84,79,80] 0 0 0 0 true).cells) Y22 Y22 rfl) (fun w' hw'=>⟨by rw [sumsV,if_pos h1],hw'.s0⟩)
 refine zz 6 ?_
 refine T.aa rfl (fun h2=>?_) (fun h2=>?_)
 refine zz 3 ?_
 refine J.aj Y8k zan rfl rfl (fun w hw=>Va.plain w c 2 1 3 [65,68,68]) ?_
 refine J.ae 2 rfl rfl rfl rfl ((plainV c [65,68,68] 2 1 3).cells) rfl zal (Nat.le_of_ble_eq_true rfl) Y171 (Nat.zero_lt_succ _) trivial ((plainV c [65,68,68] 2 1 3).cells) rfl <| zz 5 ?_
 exact X.aa rfl (RV.agg 2 rfl rfl zag ((plainV c [65,68,68] 2 1 3).cells) Y22 Y22 rfl) (fun w' hw'=>⟨by rw [sumsV,if_neg h1,if_pos h2],hw'.s0⟩)
 refine zz 6 ?_
 refine T.aa rfl (fun h3=>?_) (fun h3=>?_)
 refine zz 3 ?_
 refine J.aj Y8k zan rfl rfl (fun w hw=>Va.plain w c 2 1 3 [83,85,66]) ?_
 refine J.ae 2 rfl rfl rfl rfl ((plainV c [83,85,66] 2 1 3).cells) rfl zal (Nat.le_of_ble_eq_true rfl) Y171 (Nat.zero_lt_succ _) trivial ((plainV c [83,85,66] 2 1 3).cells) rfl <| zz 5 ?_
 exact X.aa rfl (RV.agg 2 rfl rfl zag ((plainV c [83,85,66] 2 1 3).cells) Y22 Y22 rfl) (fun w' hw'=>⟨by rw [sumsV,if_neg h1,if_neg h2,if_pos h3],hw'.s0⟩)
 refine zz 6 ?_
 refine T.aa rfl (fun h4=>?_) (fun h4=>?_)
 refine zz 3 ?_
 refine J.aj Y8k zan rfl rfl (fun w hw=>Va.plain w c 2 1 5 [77,85,76]) ?_
 refine J.ae 2 rfl rfl rfl rfl ((plainV c [77,85,76] 2 1 5).cells) rfl zal (Nat.le_of_ble_eq_true rfl) Y171 (Nat.zero_lt_succ _) trivial ((plainV c [77,85,76] 2 1 5).cells) rfl <| zz 5 ?_
 exact X.aa rfl (RV.agg 2 rfl rfl zag ((plainV c [77,85,76] 2 1 5).cells) Y22 Y22 rfl) (fun w' hw'=>⟨by rw [sumsV,if_neg h1,if_neg h2,if_neg h3,if_pos h4],hw'.s0⟩)
 refine zz 6 ?_
 refine T.aa rfl (fun h5=>?_) (fun h5=>?_)
 refine zz 3 ?_
 refine J.aj Y8k zan rfl rfl (fun w hw=>Va.plain w c 2 1 5 [68,73,86]) ?_
 refine J.ae 2 rfl rfl rfl rfl ((plainV c [68,73,86] 2 1 5).cells) rfl zal (Nat.le_of_ble_eq_true rfl) Y171 (Nat.zero_lt_succ _) trivial ((plainV c [68,73,86] 2 1 5).cells) rfl <| zz 5 ?_
 exact X.aa rfl (RV.agg 2 rfl rfl zag ((plainV c [68,73,86] 2 1 5).cells) Y22 Y22 rfl) (fun w' hw'=>⟨by rw [sumsV,if_neg h1,if_neg h2,if_neg h3,if_neg h4,if_pos h5],hw'.s0⟩)
 refine zz 6 ?_
 refine T.aa rfl (fun h6=>?_) (fun h6=>?_)
 refine zz 3 ?_
 refine J.aj Y8k zan rfl rfl (fun w hw=>Va.plain w c 2 1 5 [83,68,73,86]) ?_
 refine J.ae 2 rfl rfl rfl rfl ((plainV c [83,68,73,86] 2 1 5).cells) rfl zal (Nat.le_of_ble_eq_true rfl) Y171 (Nat.zero_lt_succ _) trivial ((plainV c [83,68,73,86] 2 1 5).cells) rfl <| zz 5 ?_
 exact X.aa rfl (RV.agg 2 rfl rfl zag ((plainV c [83,68,73,86] 2 1 5).cells) Y22 Y22 rfl) (fun w' hw'=>⟨by rw [sumsV,if_neg h1,if_neg h2,if_neg h3,if_neg h4,if_neg h5,if_pos h6],hw'.s0⟩)
 refine zz 6 ?_
 refine T.aa rfl (fun h7=>?_) (fun h7=>?_)
 refine zz 3 ?_
 refine J.aj Y8k zan rfl rfl (fun w hw=>Va.plain w c 2 1 5 [77,79,68]) ?_
 refine J.ae 2 rfl rfl rfl rfl ((plainV c [77,79,68] 2 1 5).cells) rfl zal (Nat.le_of_ble_eq_true rfl) Y171 (Nat.zero_lt_succ _) trivial ((plainV c [77,79,68] 2 1 5).cells) rfl <| zz 5 ?_
 exact X.aa rfl (RV.agg 2 rfl rfl zag ((plainV c [77,79,68] 2 1 5).cells) Y22 Y22 rfl) (fun w' hw'=>⟨by rw [sumsV,if_neg h1,if_neg h2,if_neg h3,if_neg h4,if_neg h5,if_neg h6,if_pos h7],hw'.s0⟩)
 refine zz 6 ?_
 refine T.aa rfl (fun h8=>?_) (fun h8=>?_)
 refine zz 3 ?_
 refine J.aj Y8k zan rfl rfl (fun w hw=>Va.plain w c 2 1 5 [83,77,79,68]) ?_
 refine J.ae 2 rfl rfl rfl rfl ((plainV c [83,77,79,68] 2 1 5).cells) rfl zal (Nat.le_of_ble_eq_true rfl) Y171 (Nat.zero_lt_succ _) trivial ((plainV c [83,77,79,68] 2 1 5).cells) rfl <| zz 5 ?_
 exact X.aa rfl (RV.agg 2 rfl rfl zag ((plainV c [83,77,79,68] 2 1 5).cells) Y22 Y22 rfl) (fun w' hw'=>⟨by rw [sumsV,if_neg h1,if_neg h2,if_neg h3,if_neg h4,if_neg h5,if_neg h6,if_neg h7,if_pos h8],hw'.s0⟩)
 refine zz 6 ?_
 refine T.aa rfl (fun h9=>?_) (fun h9=>?_)
 refine zz 3 ?_
 refine J.aj Y8k zan rfl rfl (fun w hw=>Va.plain w c 3 1 8 [65,68,68,77,79,68]) ?_
 refine J.ae 2 rfl rfl rfl rfl ((plainV c [65,68,68,77,79,68] 3 1 8).cells) rfl zal (Nat.le_of_ble_eq_true rfl) Y171 (Nat.zero_lt_succ _) trivial ((plainV c [65,68,68,77,79,68] 3 1 8).cells) rfl <| zz 5 ?_
 exact X.aa rfl (RV.agg 2 rfl rfl zag ((plainV c [65,68,68,77,79,68] 3 1 8).cells) Y22 Y22 rfl) (fun w' hw'=>⟨by rw [sumsV,if_neg h1,if_neg h2,if_neg h3,if_neg h4,if_neg h5,if_neg h6,if_neg h7,if_neg h8,if_pos h9],hw'.s0⟩)
 refine zz 6 ?_
 refine T.aa rfl (fun h10=>?_) (fun h10=>?_)
 refine zz 3 ?_
 refine J.aj Y8k zan rfl rfl (fun w hw=>Va.plain w c 3 1 8 [77,85,76,77,79,68]) ?_
 refine J.ae 2 rfl rfl rfl rfl ((plainV c [77,85,76,77,79,68] 3 1 8).cells) rfl zal (Nat.le_of_ble_eq_true rfl) Y171 (Nat.zero_lt_succ _) trivial ((plainV c [77,85,76,77,79,68] 3 1 8).cells) rfl <| zz 5 ?_
 exact X.aa rfl (RV.agg 2 rfl rfl zag ((plainV c [77,85,76,77,79,68] 3 1 8).cells) Y22 Y22 rfl) (fun w' hw'=>⟨by rw [sumsV,if_neg h1,if_neg h2,if_neg h3,if_neg h4,if_neg h5,if_neg h6,if_neg h7,if_neg h8,if_neg h9,if_pos h10],hw'.s0⟩)
 refine zz 6 ?_
 refine T.aa rfl (fun h11=>?_) (fun h11=>?_)
 refine zz 3 ?_
 refine J.aj Y8k zan rfl rfl (fun w hw=>Va.plain w c 2 1 10 [69,88,80]) ?_
 refine J.ae 2 rfl rfl rfl rfl ((plainV c [69,88,80] 2 1 10).cells) rfl zal (Nat.le_of_ble_eq_true rfl) Y171 (Nat.zero_lt_succ _) trivial ((plainV c [69,88,80] 2 1 10).cells) rfl <| zz 5 ?_
 exact X.aa rfl (RV.agg 2 rfl rfl zag ((plainV c [69,88,80] 2 1 10).cells) Y22 Y22 rfl) (fun w' hw'=>⟨by rw [sumsV,if_neg h1,if_neg h2,if_neg h3,if_neg h4,if_neg h5,if_neg h6,if_neg h7,if_neg h8,if_neg h9,if_neg h10,if_pos h11],hw'.s0⟩)
 refine zz 6 ?_
 refine T.aa rfl (fun h12=>?_) (fun h12=>?_)
 refine zz 3 ?_
 refine J.aj Y8k zan rfl rfl (fun w hw=>Va.plain w c 2 1 5 [83,73,71,78,69,88,84,69,78,68]) ?_
 refine J.ae 2 rfl rfl rfl rfl ((plainV c [83,73,71,78,69,88,84,69,78,68] 2 1 5).cells) rfl zal (Nat.le_of_ble_eq_true rfl) Y171 (Nat.zero_lt_succ _) trivial ((plainV c [83,73,71,78,69,88,84,69,78,68] 2 1 5).cells) rfl <| zz 5 ?_
 exact X.aa rfl (RV.agg 2 rfl rfl zag ((plainV c [83,73,71,78,69,88,84,69,78,68] 2 1 5).cells) Y22 Y22 rfl) (fun w' hw'=>⟨by rw [sumsV,if_neg h1,if_neg h2,if_neg h3,if_neg h4,if_neg h5,if_neg h6,if_neg h7,if_neg h8,if_neg h9,if_neg h10,if_neg h11,if_pos h12],hw'.s0⟩)
 refine zz 5 ?_
 refine J.ao rfl rfl (.agg OpV.zero.cells.toArray) Y191 <| J.ae 2 rfl rfl rfl rfl (OpV.zero.cells) rfl zal (Nat.le_of_ble_eq_true rfl) Y171 (Nat.zero_lt_succ _) trivial (OpV.zero.cells) rfl <| zz 3 ?_
 exact X.aa rfl (RV.agg 2 rfl rfl zag (OpV.zero.cells) Y22 Y22 rfl) (fun w' hw'=>⟨by rw [sumsV,if_neg h1,if_neg h2,if_neg h3,if_neg h4,if_neg h5,if_neg h6,if_neg h7,if_neg h8,if_neg h9,if_neg h10,if_neg h11,if_neg h12],hw'.s0⟩)
theorem ofBlock (w:World) (c:Int):
    Calls prog 218 [.int .i64 c].toArray w fun e w'=>e=.returned (.agg (ofBlockV c).cells.toArray)∧WS w [] [] w':=by
 refine zac [] 37 [] func218 rfl ntmps218 Y20 (WS.refl _ _) <| zz 2 ?_
 refine J.am 2 rfl zbj [.int .i64 0,.string ByteArray.empty,.int .i64 0,.int .i64 0,.int .i64 0,.int .i64 0,.bool false] rfl rfl fun g2 hg2=>zz 15 ?_
 refine T.aa rfl (fun h1=>?_) (fun h1=>?_)
 refine zz 3 ?_
 refine J.aj Y8k zan rfl rfl (fun w hw=>Va.plain w c 0 1 2 [67,79,73,78,66,65,83,69]) ?_
 refine J.ae 2 rfl rfl rfl rfl ((plainV c [67,79,73,78,66,65,83,69] 0 1 2).cells) rfl zal (Nat.le_of_ble_eq_true rfl) Y171 (Nat.zero_lt_succ _) trivial ((plainV c [67,79,73,78,66,65,83,69] 0 1 2).cells) rfl <| zz 5 ?_
 exact X.aa rfl (RV.agg 2 rfl rfl zag ((plainV c [67,79,73,78,66,65,83,69] 0 1 2).cells) Y22 Y22 rfl) (fun w' hw'=>⟨by rw [ofBlockV,if_pos h1],hw'.s0⟩)
 refine zz 6 ?_
 refine T.aa rfl (fun h2=>?_) (fun h2=>?_)
 refine zz 3 ?_
 refine J.aj Y8k zan rfl rfl (fun w hw=>Va.plain w c 0 1 2 [84,73,77,69,83,84,65,77,80]) ?_
 refine J.ae 2 rfl rfl rfl rfl ((plainV c [84,73,77,69,83,84,65,77,80] 0 1 2).cells) rfl zal (Nat.le_of_ble_eq_true rfl) Y171 (Nat.zero_lt_succ _) trivial ((plainV c [84,73,77,69,83,84,65,77,80] 0 1 2).cells) rfl <| zz 5 ?_
 exact X.aa rfl (RV.agg 2 rfl rfl zag ((plainV c [84,73,77,69,83,84,65,77,80] 0 1 2).cells) Y22 Y22 rfl) (fun w' hw'=>⟨by rw [ofBlockV,if_neg h1,if_pos h2],hw'.s0⟩)
 refine zz 6 ?_
 refine T.aa rfl (fun h3=>?_) (fun h3=>?_)
 refine zz 3 ?_
 refine J.aj Y8k zan rfl rfl (fun w hw=>Va.plain w c 0 1 2 [78,85,77,66,69,82]) ?_
 refine J.ae 2 rfl rfl rfl rfl ((plainV c [78,85,77,66,69,82] 0 1 2).cells) rfl zal (Nat.le_of_ble_eq_true rfl) Y171 (Nat.zero_lt_succ _) trivial ((plainV c [78,85,77,66,69,82] 0 1 2).cells) rfl <| zz 5 ?_
 exact X.aa rfl (RV.agg 2 rfl rfl zag ((plainV c [78,85,77,66,69,82] 0 1 2).cells) Y22 Y22 rfl) (fun w' hw'=>⟨by rw [ofBlockV,if_neg h1,if_neg h2,if_pos h3],hw'.s0⟩)
 refine zz 6 ?_
 refine T.aa rfl (fun h4=>?_) (fun h4=>?_)
 refine zz 3 ?_
 refine J.aj Y8k zan rfl rfl (fun w hw=>Va.plain w c 0 1 2 [80,82,69,86,82,65,78,68,65,79]) ?_
 refine J.ae 2 rfl rfl rfl rfl ((plainV c [80,82,69,86,82,65,78,68,65,79] 0 1 2).cells) rfl zal (Nat.le_of_ble_eq_true rfl) Y171 (Nat.zero_lt_succ _) trivial ((plainV c [80,82,69,86,82,65,78,68,65,79] 0 1 2).cells) rfl <| zz 5 ?_
 exact X.aa rfl (RV.agg 2 rfl rfl zag ((plainV c [80,82,69,86,82,65,78,68,65,79] 0 1 2).cells) Y22 Y22 rfl) (fun w' hw'=>⟨by rw [ofBlockV,if_neg h1,if_neg h2,if_neg h3,if_pos h4],hw'.s0⟩)
 refine zz 6 ?_
 refine T.aa rfl (fun h5=>?_) (fun h5=>?_)
 refine zz 3 ?_
 refine J.aj Y8k zan rfl rfl (fun w hw=>Va.plain w c 0 1 2 [71,65,83,76,73,77,73,84]) ?_
 refine J.ae 2 rfl rfl rfl rfl ((plainV c [71,65,83,76,73,77,73,84] 0 1 2).cells) rfl zal (Nat.le_of_ble_eq_true rfl) Y171 (Nat.zero_lt_succ _) trivial ((plainV c [71,65,83,76,73,77,73,84] 0 1 2).cells) rfl <| zz 5 ?_
 exact X.aa rfl (RV.agg 2 rfl rfl zag ((plainV c [71,65,83,76,73,77,73,84] 0 1 2).cells) Y22 Y22 rfl) (fun w' hw'=>⟨by rw [ofBlockV,if_neg h1,if_neg h2,if_neg h3,if_neg h4,if_pos h5],hw'.s0⟩)
 refine zz 6 ?_
 refine T.aa rfl (fun h6=>?_) (fun h6=>?_)
 refine zz 3 ?_
 refine J.aj Y8k zan rfl rfl (fun w hw=>Va.plain w c 0 1 2 [67,72,65,73,78,73,68]) ?_
 refine J.ae 2 rfl rfl rfl rfl ((plainV c [67,72,65,73,78,73,68] 0 1 2).cells) rfl zal (Nat.le_of_ble_eq_true rfl) Y171 (Nat.zero_lt_succ _) trivial ((plainV c [67,72,65,73,78,73,68] 0 1 2).cells) rfl <| zz 5 ?_
 exact X.aa rfl (RV.agg 2 rfl rfl zag ((plainV c [67,72,65,73,78,73,68] 0 1 2).cells) Y22 Y22 rfl) (fun w' hw'=>⟨by rw [ofBlockV,if_neg h1,if_neg h2,if_neg h3,if_neg h4,if_neg h5,if_pos h6],hw'.s0⟩)
 refine zz 6 ?_
 refine T.aa rfl (fun h7=>?_) (fun h7=>?_)
 refine zz 3 ?_
 refine J.aj Y8k zan rfl rfl (fun w hw=>Va.plain w c 0 1 2 [66,65,83,69,70,69,69]) ?_
 refine J.ae 2 rfl rfl rfl rfl ((plainV c [66,65,83,69,70,69,69] 0 1 2).cells) rfl zal (Nat.le_of_ble_eq_true rfl) Y171 (Nat.zero_lt_succ _) trivial ((plainV c [66,65,83,69,70,69,69] 0 1 2).cells) rfl <| zz 5 ?_
 exact X.aa rfl (RV.agg 2 rfl rfl zag ((plainV c [66,65,83,69,70,69,69] 0 1 2).cells) Y22 Y22 rfl) (fun w' hw'=>⟨by rw [ofBlockV,if_neg h1,if_neg h2,if_neg h3,if_neg h4,if_neg h5,if_neg h6,if_pos h7],hw'.s0⟩)
 refine zz 6 ?_
 refine T.aa rfl (fun h8=>?_) (fun h8=>?_)
 refine zz 3 ?_
 refine J.aj Y8k zan rfl rfl (fun w hw=>Va.plain w c 0 1 2 [66,76,79,66,66,65,83,69,70,69,69]) ?_
 refine J.ae 2 rfl rfl rfl rfl ((plainV c [66,76,79,66,66,65,83,69,70,69,69] 0 1 2).cells) rfl zal (Nat.le_of_ble_eq_true rfl) Y171 (Nat.zero_lt_succ _) trivial ((plainV c [66,76,79,66,66,65,83,69,70,69,69] 0 1 2).cells) rfl <| zz 5 ?_
 exact X.aa rfl (RV.agg 2 rfl rfl zag ((plainV c [66,76,79,66,66,65,83,69,70,69,69] 0 1 2).cells) Y22 Y22 rfl) (fun w' hw'=>⟨by rw [ofBlockV,if_neg h1,if_neg h2,if_neg h3,if_neg h4,if_neg h5,if_neg h6,if_neg h7,if_pos h8],hw'.s0⟩)
 refine zz 5 ?_
 refine J.ao rfl rfl (.agg OpV.zero.cells.toArray) Y191 <| J.ae 2 rfl rfl rfl rfl (OpV.zero.cells) rfl zal (Nat.le_of_ble_eq_true rfl) Y171 (Nat.zero_lt_succ _) trivial (OpV.zero.cells) rfl <| zz 3 ?_
 exact X.aa rfl (RV.agg 2 rfl rfl zag (OpV.zero.cells) Y22 Y22 rfl) (fun w' hw'=>⟨by rw [ofBlockV,if_neg h1,if_neg h2,if_neg h3,if_neg h4,if_neg h5,if_neg h6,if_neg h7,if_neg h8],hw'.s0⟩)
theorem outward (w:World) (c:Int):
    Calls prog 219 [.int .i64 c].toArray w fun e w'=>e=.returned (.agg (outwardV c).cells.toArray)∧WS w [] [] w':=by
 refine zac [] 41 [] func219 rfl ntmps219 Y20 (WS.refl _ _) <| zz 2 ?_
 refine J.am 2 rfl zbj [.int .i64 0,.string ByteArray.empty,.int .i64 0,.int .i64 0,.int .i64 0,.int .i64 0,.bool false] rfl rfl fun g2 hg2=>zz 15 ?_
 refine T.aa rfl (fun h1=>?_) (fun h1=>?_)
 refine zz 3 ?_
 refine J.ao rfl rfl (.agg (OpV.mk c [69,79,70,67,82,69,65,84,69] 1 4 1 32000 false).cells.toArray) Y191 <| J.ae 2 rfl rfl rfl rfl ((OpV.mk c [69,79,70,67,82,69,65,84,69] 1 4 1 32000 false).cells) rfl zal (Nat.le_of_ble_eq_true rfl) Y171 (Nat.zero_lt_succ _) trivial ((OpV.mk c [69,79,70,67,82,69,65,84,69] 1 4 1 32000 false).cells) rfl <| zz 5 ?_
 exact X.aa rfl (RV.agg 2 rfl rfl zag ((OpV.mk c [69,79,70,67,82,69,65,84,69] 1 4 1 32000 false).cells) Y22 Y22 rfl) (fun w' hw'=>⟨by rw [outwardV,if_pos h1],hw'.s0⟩)
 refine zz 6 ?_
 refine T.aa rfl (fun h2=>?_) (fun h2=>?_)
 refine zz 3 ?_
 refine J.ao rfl rfl (.agg (OpV.mk c [82,69,84,85,82,78,67,79,68,69] 1 2 0 0 true).cells.toArray) Y191 <| J.ae 2 rfl rfl rfl rfl ((OpV.mk c [82,69,84,85,82,78,67,79,68,69] 1 2 0 0 true).cells) rfl zal (Nat.le_of_ble_eq_true rfl) Y171 (Nat.zero_lt_succ _) trivial ((OpV.mk c [82,69,84,85,82,78,67,79,68,69] 1 2 0 0 true).cells) rfl <| zz 5 ?_
 exact X.aa rfl (RV.agg 2 rfl rfl zag ((OpV.mk c [82,69,84,85,82,78,67,79,68,69] 1 2 0 0 true).cells) Y22 Y22 rfl) (fun w' hw'=>⟨by rw [outwardV,if_neg h1,if_pos h2],hw'.s0⟩)
 refine zz 6 ?_
 refine T.aa rfl (fun h3=>?_) (fun h3=>?_)
 refine zz 3 ?_
 refine J.ao rfl rfl (.agg (OpV.mk c [82,69,84,85,82,78] 0 2 0 0 true).cells.toArray) Y191 <| J.ae 2 rfl rfl rfl rfl ((OpV.mk c [82,69,84,85,82,78] 0 2 0 0 true).cells) rfl zal (Nat.le_of_ble_eq_true rfl) Y171 (Nat.zero_lt_succ _) trivial ((OpV.mk c [82,69,84,85,82,78] 0 2 0 0 true).cells) rfl <| zz 5 ?_
 exact X.aa rfl (RV.agg 2 rfl rfl zag ((OpV.mk c [82,69,84,85,82,78] 0 2 0 0 true).cells) Y22 Y22 rfl) (fun w' hw'=>⟨by rw [outwardV,if_neg h1,if_neg h2,if_pos h3],hw'.s0⟩)
 refine zz 6 ?_
 refine T.aa rfl (fun h4=>?_) (fun h4=>?_)
 refine zz 3 ?_
 refine J.aj Y8k zan rfl rfl (fun w hw=>Va.plain w c 1 1 3 [82,69,84,85,82,78,68,65,84,65,76,79,65,68]) ?_
 refine J.ae 2 rfl rfl rfl rfl ((plainV c [82,69,84,85,82,78,68,65,84,65,76,79,65,68] 1 1 3).cells) rfl zal (Nat.le_of_ble_eq_true rfl) Y171 (Nat.zero_lt_succ _) trivial ((plainV c [82,69,84,85,82,78,68,65,84,65,76,79,65,68] 1 1 3).cells) rfl <| zz 5 ?_
 exact X.aa rfl (RV.agg 2 rfl rfl zag ((plainV c [82,69,84,85,82,78,68,65,84,65,76,79,65,68] 1 1 3).cells) Y22 Y22 rfl) (fun w' hw'=>⟨by rw [outwardV,if_neg h1,if_neg h2,if_neg h3,if_pos h4],hw'.s0⟩)
 refine zz 6 ?_
 refine T.aa rfl (fun h5=>?_) (fun h5=>?_)
 refine zz 3 ?_
 refine J.aj Y8k zan rfl rfl (fun w hw=>Va.plain w c 4 1 100 [69,88,84,67,65,76,76]) ?_
 refine J.ae 2 rfl rfl rfl rfl ((plainV c [69,88,84,67,65,76,76] 4 1 100).cells) rfl zal (Nat.le_of_ble_eq_true rfl) Y171 (Nat.zero_lt_succ _) trivial ((plainV c [69,88,84,67,65,76,76] 4 1 100).cells) rfl <| zz 5 ?_
 exact X.aa rfl (RV.agg 2 rfl rfl zag ((plainV c [69,88,84,67,65,76,76] 4 1 100).cells) Y22 Y22 rfl) (fun w' hw'=>⟨by rw [outwardV,if_neg h1,if_neg h2,if_neg h3,if_neg h4,if_pos h5],hw'.s0⟩)
 refine zz 6 ?_
 refine T.aa rfl (fun h6=>?_) (fun h6=>?_)
 refine zz 3 ?_
 refine J.aj Y8k zan rfl rfl (fun w hw=>Va.plain w c 3 1 100 [69,88,84,68,69,76,69,71,65,84,69,67,65,76,76]) ?_
 refine J.ae 2 rfl rfl rfl rfl ((plainV c [69,88,84,68,69,76,69,71,65,84,69,67,65,76,76] 3 1 100).cells) rfl zal (Nat.le_of_ble_eq_true rfl) Y171 (Nat.zero_lt_succ _) trivial ((plainV c [69,88,84,68,69,76,69,71,65,84,69,67,65,76,76] 3 1 100).cells) rfl <| zz 5 ?_
 exact X.aa rfl (RV.agg 2 rfl rfl zag ((plainV c [69,88,84,68,69,76,69,71,65,84,69,67,65,76,76] 3 1 100).cells) Y22 Y22 rfl) (fun w' hw'=>⟨by rw [outwardV,if_neg h1,if_neg h2,if_neg h3,if_neg h4,if_neg h5,if_pos h6],hw'.s0⟩)
 refine zz 6 ?_
 refine T.aa rfl (fun h7=>?_) (fun h7=>?_)
 refine zz 3 ?_
 refine J.aj Y8k zan rfl rfl (fun w hw=>Va.plain w c 3 1 100 [69,88,84,83,84,65,84,73,67,67,65,76,76]) ?_
 refine J.ae 2 rfl rfl rfl rfl ((plainV c [69,88,84,83,84,65,84,73,67,67,65,76,76] 3 1 100).cells) rfl zal (Nat.le_of_ble_eq_true rfl) Y171 (Nat.zero_lt_succ _) trivial ((plainV c [69,88,84,83,84,65,84,73,67,67,65,76,76] 3 1 100).cells) rfl <| zz 5 ?_
 exact X.aa rfl (RV.agg 2 rfl rfl zag ((plainV c [69,88,84,83,84,65,84,73,67,67,65,76,76] 3 1 100).cells) Y22 Y22 rfl) (fun w' hw'=>⟨by rw [outwardV,if_neg h1,if_neg h2,if_neg h3,if_neg h4,if_neg h5,if_neg h6,if_pos h7],hw'.s0⟩)
 refine zz 6 ?_
 refine T.aa rfl (fun h8=>?_) (fun h8=>?_)
 refine zz 3 ?_
 refine J.ao rfl rfl (.agg (OpV.mk c [82,69,86,69,82,84] 0 2 0 0 true).cells.toArray) Y191 <| J.ae 2 rfl rfl rfl rfl ((OpV.mk c [82,69,86,69,82,84] 0 2 0 0 true).cells) rfl zal (Nat.le_of_ble_eq_true rfl) Y171 (Nat.zero_lt_succ _) trivial ((OpV.mk c [82,69,86,69,82,84] 0 2 0 0 true).cells) rfl <| zz 5 ?_
 exact X.aa rfl (RV.agg 2 rfl rfl zag ((OpV.mk c [82,69,86,69,82,84] 0 2 0 0 true).cells) Y22 Y22 rfl) (fun w' hw'=>⟨by rw [outwardV,if_neg h1,if_neg h2,if_neg h3,if_neg h4,if_neg h5,if_neg h6,if_neg h7,if_pos h8],hw'.s0⟩)
 refine zz 6 ?_
 refine T.aa rfl (fun h9=>?_) (fun h9=>?_)
 refine zz 3 ?_
 refine J.ao rfl rfl (.agg (OpV.mk c [73,78,86,65,76,73,68] 0 0 0 0 true).cells.toArray) Y191 <| J.ae 2 rfl rfl rfl rfl ((OpV.mk c [73,78,86,65,76,73,68] 0 0 0 0 true).cells) rfl zal (Nat.le_of_ble_eq_true rfl) Y171 (Nat.zero_lt_succ _) trivial ((OpV.mk c [73,78,86,65,76,73,68] 0 0 0 0 true).cells) rfl <| zz 5 ?_
 exact X.aa rfl (RV.agg 2 rfl rfl zag ((OpV.mk c [73,78,86,65,76,73,68] 0 0 0 0 true).cells) Y22 Y22 rfl) (fun w' hw'=>⟨by rw [outwardV,if_neg h1,if_neg h2,if_neg h3,if_neg h4,if_neg h5,if_neg h6,if_neg h7,if_neg h8,if_pos h9],hw'.s0⟩)
 refine zz 5 ?_
 refine J.ao rfl rfl (.agg OpV.zero.cells.toArray) Y191 <| J.ae 2 rfl rfl rfl rfl (OpV.zero.cells) rfl zal (Nat.le_of_ble_eq_true rfl) Y171 (Nat.zero_lt_succ _) trivial (OpV.zero.cells) rfl <| zz 3 ?_
 exact X.aa rfl (RV.agg 2 rfl rfl zag (OpV.zero.cells) Y22 Y22 rfl) (fun w' hw'=>⟨by rw [outwardV,if_neg h1,if_neg h2,if_neg h3,if_neg h4,if_neg h5,if_neg h6,if_neg h7,if_neg h8,if_neg h9],hw'.s0⟩)
theorem asked (w:World) (c:Int):
    Calls prog 214 [.int .i64 c].toArray w fun e w'=>e=.returned (.agg (askedV c).cells.toArray)∧WS w [] [] w':=by
 refine zac [] 62 [] func214 rfl ntmps214 Y20 (WS.refl _ _) <| zz 2 ?_
 refine J.am 2 rfl zbj [.int .i64 0,.string ByteArray.empty,.int .i64 0,.int .i64 0,.int .i64 0,.int .i64 0,.bool false] rfl rfl fun g2 hg2=>zz 15 ?_
 refine T.aa rfl (fun h1=>?_) (fun h1=>?_)
 refine zz 3 ?_
 refine J.aj Y8k zan rfl rfl (fun w hw=>Va.plain w c 0 1 2 [65,68,68,82,69,83,83]) ?_
 refine J.ae 2 rfl rfl rfl rfl ((plainV c [65,68,68,82,69,83,83] 0 1 2).cells) rfl zal (Nat.le_of_ble_eq_true rfl) Y171 (Nat.zero_lt_succ _) trivial ((plainV c [65,68,68,82,69,83,83] 0 1 2).cells) rfl <| zz 5 ?_
 exact X.aa rfl (RV.agg 2 rfl rfl zag ((plainV c [65,68,68,82,69,83,83] 0 1 2).cells) Y22 Y22 rfl) (fun w' hw'=>⟨by rw [askedV,if_pos h1],hw'.s0⟩)
 refine zz 6 ?_
 refine T.aa rfl (fun h2=>?_) (fun h2=>?_)
 refine zz 3 ?_
 refine J.aj Y8k zan rfl rfl (fun w hw=>Va.plain w c 1 1 100 [66,65,76,65,78,67,69]) ?_
 refine J.ae 2 rfl rfl rfl rfl ((plainV c [66,65,76,65,78,67,69] 1 1 100).cells) rfl zal (Nat.le_of_ble_eq_true rfl) Y171 (Nat.zero_lt_succ _) trivial ((plainV c [66,65,76,65,78,67,69] 1 1 100).cells) rfl <| zz 5 ?_
 exact X.aa rfl (RV.agg 2 rfl rfl zag ((plainV c [66,65,76,65,78,67,69] 1 1 100).cells) Y22 Y22 rfl) (fun w' hw'=>⟨by rw [askedV,if_neg h1,if_pos h2],hw'.s0⟩)
 refine zz 6 ?_
 refine T.aa rfl (fun h3=>?_) (fun h3=>?_)
 refine zz 3 ?_
 refine J.aj Y8k zan rfl rfl (fun w hw=>Va.plain w c 0 1 2 [79,82,73,71,73,78]) ?_
 refine J.ae 2 rfl rfl rfl rfl ((plainV c [79,82,73,71,73,78] 0 1 2).cells) rfl zal (Nat.le_of_ble_eq_true rfl) Y171 (Nat.zero_lt_succ _) trivial ((plainV c [79,82,73,71,73,78] 0 1 2).cells) rfl <| zz 5 ?_
 exact X.aa rfl (RV.agg 2 rfl rfl zag ((plainV c [79,82,73,71,73,78] 0 1 2).cells) Y22 Y22 rfl) (fun w' hw'=>⟨by rw [askedV,if_neg h1,if_neg h2,if_pos h3],hw'.s0⟩)
 refine zz 6 ?_
 refine T.aa rfl (fun h4=>?_) (fun h4=>?_)
 refine zz 3 ?_
 refine J.aj Y8k zan rfl rfl (fun w hw=>Va.plain w c 0 1 2 [67,65,76,76,69,82]) ?_
 refine J.ae 2 rfl rfl rfl rfl ((plainV c [67,65,76,76,69,82] 0 1 2).cells) rfl zal (Nat.le_of_ble_eq_true rfl) Y171 (Nat.zero_lt_succ _) trivial ((plainV c [67,65,76,76,69,82] 0 1 2).cells) rfl <| zz 5 ?_
 exact X.aa rfl (RV.agg 2 rfl rfl zag ((plainV c [67,65,76,76,69,82] 0 1 2).cells) Y22 Y22 rfl) (fun w' hw'=>⟨by rw [askedV,if_neg h1,if_neg h2,if_neg h3,if_pos h4],hw'.s0⟩)
 refine zz 6 ?_
 refine T.aa rfl (fun h5=>?_) (fun h5=>?_)
 refine zz 3 ?_
 refine J.aj Y8k zan rfl rfl (fun w hw=>Va.plain w c 0 1 2 [67,65,76,76,86,65,76,85,69]) ?_
 refine J.ae 2 rfl rfl rfl rfl ((plainV c [67,65,76,76,86,65,76,85,69] 0 1 2).cells) rfl zal (Nat.le_of_ble_eq_true rfl) Y171 (Nat.zero_lt_succ _) trivial ((plainV c [67,65,76,76,86,65,76,85,69] 0 1 2).cells) rfl <| zz 5 ?_
 exact X.aa rfl (RV.agg 2 rfl rfl zag ((plainV c [67,65,76,76,86,65,76,85,69] 0 1 2).cells) Y22 Y22 rfl) (fun w' hw'=>⟨by rw [askedV,if_neg h1,if_neg h2,if_neg h3,if_neg h4,if_pos h5],hw'.s0⟩)
 refine zz 6 ?_
 refine T.aa rfl (fun h6=>?_) (fun h6=>?_)
 refine zz 3 ?_
 refine J.aj Y8k zan rfl rfl (fun w hw=>Va.plain w c 1 1 3 [67,65,76,76,68,65,84,65,76,79,65,68]) ?_
 refine J.ae 2 rfl rfl rfl rfl ((plainV c [67,65,76,76,68,65,84,65,76,79,65,68] 1 1 3).cells) rfl zal (Nat.le_of_ble_eq_true rfl) Y171 (Nat.zero_lt_succ _) trivial ((plainV c [67,65,76,76,68,65,84,65,76,79,65,68] 1 1 3).cells) rfl <| zz 5 ?_
 exact X.aa rfl (RV.agg 2 rfl rfl zag ((plainV c [67,65,76,76,68,65,84,65,76,79,65,68] 1 1 3).cells) Y22 Y22 rfl) (fun w' hw'=>⟨by rw [askedV,if_neg h1,if_neg h2,if_neg h3,if_neg h4,if_neg h5,if_pos h6],hw'.s0⟩)
 refine zz 6 ?_
 refine T.aa rfl (fun h7=>?_) (fun h7=>?_)
 refine zz 3 ?_
 refine J.aj Y8k zan rfl rfl (fun w hw=>Va.plain w c 0 1 2 [67,65,76,76,68,65,84,65,83,73,90,69]) ?_
 refine J.ae 2 rfl rfl rfl rfl ((plainV c [67,65,76,76,68,65,84,65,83,73,90,69] 0 1 2).cells) rfl zal (Nat.le_of_ble_eq_true rfl) Y171 (Nat.zero_lt_succ _) trivial ((plainV c [67,65,76,76,68,65,84,65,83,73,90,69] 0 1 2).cells) rfl <| zz 5 ?_
 exact X.aa rfl (RV.agg 2 rfl rfl zag ((plainV c [67,65,76,76,68,65,84,65,83,73,90,69] 0 1 2).cells) Y22 Y22 rfl) (fun w' hw'=>⟨by rw [askedV,if_neg h1,if_neg h2,if_neg h3,if_neg h4,if_neg h5,if_neg h6,if_pos h7],hw'.s0⟩)
 refine zz 6 ?_
 refine T.aa rfl (fun h8=>?_) (fun h8=>?_)
 refine zz 3 ?_
 refine J.aj Y8k zan rfl rfl (fun w hw=>Va.plain w c 3 0 3 [67,65,76,76,68,65,84,65,67,79,80,89]) ?_
 refine J.ae 2 rfl rfl rfl rfl ((plainV c [67,65,76,76,68,65,84,65,67,79,80,89] 3 0 3).cells) rfl zal (Nat.le_of_ble_eq_true rfl) Y171 (Nat.zero_lt_succ _) trivial ((plainV c [67,65,76,76,68,65,84,65,67,79,80,89] 3 0 3).cells) rfl <| zz 5 ?_
 exact X.aa rfl (RV.agg 2 rfl rfl zag ((plainV c [67,65,76,76,68,65,84,65,67,79,80,89] 3 0 3).cells) Y22 Y22 rfl) (fun w' hw'=>⟨by rw [askedV,if_neg h1,if_neg h2,if_neg h3,if_neg h4,if_neg h5,if_neg h6,if_neg h7,if_pos h8],hw'.s0⟩)
 refine zz 6 ?_
 refine T.aa rfl (fun h9=>?_) (fun h9=>?_)
 refine zz 3 ?_
 refine J.aj Y8k zan rfl rfl (fun w hw=>Va.plain w c 0 1 2 [71,65,83,80,82,73,67,69]) ?_
 refine J.ae 2 rfl rfl rfl rfl ((plainV c [71,65,83,80,82,73,67,69] 0 1 2).cells) rfl zal (Nat.le_of_ble_eq_true rfl) Y171 (Nat.zero_lt_succ _) trivial ((plainV c [71,65,83,80,82,73,67,69] 0 1 2).cells) rfl <| zz 5 ?_
 exact X.aa rfl (RV.agg 2 rfl rfl zag ((plainV c [71,65,83,80,82,73,67,69] 0 1 2).cells) Y22 Y22 rfl) (fun w' hw'=>⟨by rw [askedV,if_neg h1,if_neg h2,if_neg h3,if_neg h4,if_neg h5,if_neg h6,if_neg h7,if_neg h8,if_pos h9],hw'.s0⟩)
 refine zz 6 ?_
 refine T.aa rfl (fun h10=>?_) (fun h10=>?_)
 refine zz 3 ?_
 refine J.aj Y8k zan rfl rfl (fun w hw=>Va.plain w c 0 1 2 [82,69,84,85,82,78,68,65,84,65,83,73,90,69]) ?_
 refine J.ae 2 rfl rfl rfl rfl ((plainV c [82,69,84,85,82,78,68,65,84,65,83,73,90,69] 0 1 2).cells) rfl zal (Nat.le_of_ble_eq_true rfl) Y171 (Nat.zero_lt_succ _) trivial ((plainV c [82,69,84,85,82,78,68,65,84,65,83,73,90,69] 0 1 2).cells) rfl <| zz 5 ?_
 exact X.aa rfl (RV.agg 2 rfl rfl zag ((plainV c [82,69,84,85,82,78,68,65,84,65,83,73,90,69] 0 1 2).cells) Y22 Y22 rfl) (fun w' hw'=>⟨by rw [askedV,if_neg h1,if_neg h2,if_neg h3,if_neg h4,if_neg h5,if_neg h6,if_neg h7,if_neg h8,if_neg h9,if_pos h10],hw'.s0⟩)
 refine zz 6 ?_
 refine T.aa rfl (fun h11=>?_) (fun h11=>?_)
 refine zz 3 ?_
 refine J.aj Y8k zan rfl rfl (fun w hw=>Va.plain w c 3 0 3 [82,69,84,85,82,78,68,65,84,65,67,79,80,89]) ?_
 refine J.ae 2 rfl rfl rfl rfl ((plainV c [82,69,84,85,82,78,68,65,84,65,67,79,80,89] 3 0 3).cells) rfl zal (Nat.le_of_ble_eq_true rfl) Y171 (Nat.zero_lt_succ _) trivial ((plainV c [82,69,84,85,82,78,68,65,84,65,67,79,80,89] 3 0 3).cells) rfl <| zz 5 ?_
 exact X.aa rfl (RV.agg 2 rfl rfl zag ((plainV c [82,69,84,85,82,78,68,65,84,65,67,79,80,89] 3 0 3).cells) Y22 Y22 rfl) (fun w' hw'=>⟨by rw [askedV,if_neg h1,if_neg h2,if_neg h3,if_neg h4,if_neg h5,if_neg h6,if_neg h7,if_neg h8,if_neg h9,if_neg h10,if_pos h11],hw'.s0⟩)
 refine zz 6 ?_
 refine T.aa rfl (fun h12=>?_) (fun h12=>?_)
 refine zz 3 ?_
 refine J.aj Y8k zan rfl rfl (fun w hw=>Va.plain w c 1 1 20 [66,76,79,67,75,72,65,83,72]) ?_
 refine J.ae 2 rfl rfl rfl rfl ((plainV c [66,76,79,67,75,72,65,83,72] 1 1 20).cells) rfl zal (Nat.le_of_ble_eq_true rfl) Y171 (Nat.zero_lt_succ _) trivial ((plainV c [66,76,79,67,75,72,65,83,72] 1 1 20).cells) rfl <| zz 5 ?_
 exact X.aa rfl (RV.agg 2 rfl rfl zag ((plainV c [66,76,79,67,75,72,65,83,72] 1 1 20).cells) Y22 Y22 rfl) (fun w' hw'=>⟨by rw [askedV,if_neg h1,if_neg h2,if_neg h3,if_neg h4,if_neg h5,if_neg h6,if_neg h7,if_neg h8,if_neg h9,if_neg h10,if_neg h11,if_pos h12],hw'.s0⟩)
 refine zz 6 ?_
 refine T.aa rfl (fun h13=>?_) (fun h13=>?_)
 refine zz 3 ?_
 refine J.aj Y8k zan rfl rfl (fun w hw=>Va.plain w c 1 1 3 [66,76,79,66,72,65,83,72]) ?_
 refine J.ae 2 rfl rfl rfl rfl ((plainV c [66,76,79,66,72,65,83,72] 1 1 3).cells) rfl zal (Nat.le_of_ble_eq_true rfl) Y171 (Nat.zero_lt_succ _) trivial ((plainV c [66,76,79,66,72,65,83,72] 1 1 3).cells) rfl <| zz 5 ?_
 exact X.aa rfl (RV.agg 2 rfl rfl zag ((plainV c [66,76,79,66,72,65,83,72] 1 1 3).cells) Y22 Y22 rfl) (fun w' hw'=>⟨by rw [askedV,if_neg h1,if_neg h2,if_neg h3,if_neg h4,if_neg h5,if_neg h6,if_neg h7,if_neg h8,if_neg h9,if_neg h10,if_neg h11,if_neg h12,if_pos h13],hw'.s0⟩)
 refine zz 6 ?_
 refine T.aa rfl (fun h14=>?_) (fun h14=>?_)
 refine zz 3 ?_
 refine J.aj Y8k zan rfl rfl (fun w hw=>Va.plain w c 0 1 5 [83,69,76,70,66,65,76,65,78,67,69]) ?_
 refine J.ae 2 rfl rfl rfl rfl ((plainV c [83,69,76,70,66,65,76,65,78,67,69] 0 1 5).cells) rfl zal (Nat.le_of_ble_eq_true rfl) Y171 (Nat.zero_lt_succ _) trivial ((plainV c [83,69,76,70,66,65,76,65,78,67,69] 0 1 5).cells) rfl <| zz 5 ?_
 exact X.aa rfl (RV.agg 2 rfl rfl zag ((plainV c [83,69,76,70,66,65,76,65,78,67,69] 0 1 5).cells) Y22 Y22 rfl) (fun w' hw'=>⟨by rw [askedV,if_neg h1,if_neg h2,if_neg h3,if_neg h4,if_neg h5,if_neg h6,if_neg h7,if_neg h8,if_neg h9,if_neg h10,if_neg h11,if_neg h12,if_neg h13,if_pos h14],hw'.s0⟩)
 refine zz 6 ?_
 refine J.aj Y8k ztX rfl rfl (fun w hw=>Vb.ofBlock w _) ?_
 refine J.ae 2 rfl rfl rfl rfl ((ofBlockV c).cells) rfl zal (Nat.le_of_ble_eq_true rfl) Y171 (Nat.zero_lt_succ _) trivial ((ofBlockV c).cells) rfl <| zz 3 ?_
 exact X.aa rfl (RV.agg 2 rfl rfl zag ((ofBlockV c).cells) Y22 Y22 rfl) (fun w' hw'=>⟨by rw [askedV,if_neg h1,if_neg h2,if_neg h3,if_neg h4,if_neg h5,if_neg h6,if_neg h7,if_neg h8,if_neg h9,if_neg h10,if_neg h11,if_neg h12,if_neg h13,if_neg h14],hw'.s0⟩)
theorem held (w:World) (c:Int):
    Calls prog 215 [.int .i64 c].toArray w fun e w'=>e=.returned (.agg (heldV c).cells.toArray)∧WS w [] [] w':=by
 refine zac [] 53 [] func215 rfl ntmps215 Y20 (WS.refl _ _) <| zz 2 ?_
 refine J.am 2 rfl zbj [.int .i64 0,.string ByteArray.empty,.int .i64 0,.int .i64 0,.int .i64 0,.int .i64 0,.bool false] rfl rfl fun g2 hg2=>zz 15 ?_
 refine T.aa rfl (fun h1=>?_) (fun h1=>?_)
 refine zz 3 ?_
 refine J.aj Y8k zan rfl rfl (fun w hw=>Va.plain w c 1 0 2 [80,79,80]) ?_
 refine J.ae 2 rfl rfl rfl rfl ((plainV c [80,79,80] 1 0 2).cells) rfl zal (Nat.le_of_ble_eq_true rfl) Y171 (Nat.zero_lt_succ _) trivial ((plainV c [80,79,80] 1 0 2).cells) rfl <| zz 5 ?_
 exact X.aa rfl (RV.agg 2 rfl rfl zag ((plainV c [80,79,80] 1 0 2).cells) Y22 Y22 rfl) (fun w' hw'=>⟨by rw [heldV,if_pos h1],hw'.s0⟩)
 refine zz 6 ?_
 refine T.aa rfl (fun h2=>?_) (fun h2=>?_)
 refine zz 3 ?_
 refine J.aj Y8k zan rfl rfl (fun w hw=>Va.plain w c 1 1 3 [77,76,79,65,68]) ?_
 refine J.ae 2 rfl rfl rfl rfl ((plainV c [77,76,79,65,68] 1 1 3).cells) rfl zal (Nat.le_of_ble_eq_true rfl) Y171 (Nat.zero_lt_succ _) trivial ((plainV c [77,76,79,65,68] 1 1 3).cells) rfl <| zz 5 ?_
 exact X.aa rfl (RV.agg 2 rfl rfl zag ((plainV c [77,76,79,65,68] 1 1 3).cells) Y22 Y22 rfl) (fun w' hw'=>⟨by rw [heldV,if_neg h1,if_pos h2],hw'.s0⟩)
 refine zz 6 ?_
 refine T.aa rfl (fun h3=>?_) (fun h3=>?_)
 refine zz 3 ?_
 refine J.aj Y8k zan rfl rfl (fun w hw=>Va.plain w c 2 0 3 [77,83,84,79,82,69]) ?_
 refine J.ae 2 rfl rfl rfl rfl ((plainV c [77,83,84,79,82,69] 2 0 3).cells) rfl zal (Nat.le_of_ble_eq_true rfl) Y171 (Nat.zero_lt_succ _) trivial ((plainV c [77,83,84,79,82,69] 2 0 3).cells) rfl <| zz 5 ?_
 exact X.aa rfl (RV.agg 2 rfl rfl zag ((plainV c [77,83,84,79,82,69] 2 0 3).cells) Y22 Y22 rfl) (fun w' hw'=>⟨by rw [heldV,if_neg h1,if_neg h2,if_pos h3],hw'.s0⟩)
 refine zz 6 ?_
 refine T.aa rfl (fun h4=>?_) (fun h4=>?_)
 refine zz 3 ?_
 refine J.aj Y8k zan rfl rfl (fun w hw=>Va.plain w c 2 0 3 [77,83,84,79,82,69,56]) ?_
 refine J.ae 2 rfl rfl rfl rfl ((plainV c [77,83,84,79,82,69,56] 2 0 3).cells) rfl zal (Nat.le_of_ble_eq_true rfl) Y171 (Nat.zero_lt_succ _) trivial ((plainV c [77,83,84,79,82,69,56] 2 0 3).cells) rfl <| zz 5 ?_
 exact X.aa rfl (RV.agg 2 rfl rfl zag ((plainV c [77,83,84,79,82,69,56] 2 0 3).cells) Y22 Y22 rfl) (fun w' hw'=>⟨by rw [heldV,if_neg h1,if_neg h2,if_neg h3,if_pos h4],hw'.s0⟩)
 refine zz 6 ?_
 refine T.aa rfl (fun h5=>?_) (fun h5=>?_)
 refine zz 3 ?_
 refine J.aj Y8k zan rfl rfl (fun w hw=>Va.plain w c 1 1 100 [83,76,79,65,68]) ?_
 refine J.ae 2 rfl rfl rfl rfl ((plainV c [83,76,79,65,68] 1 1 100).cells) rfl zal (Nat.le_of_ble_eq_true rfl) Y171 (Nat.zero_lt_succ _) trivial ((plainV c [83,76,79,65,68] 1 1 100).cells) rfl <| zz 5 ?_
 exact X.aa rfl (RV.agg 2 rfl rfl zag ((plainV c [83,76,79,65,68] 1 1 100).cells) Y22 Y22 rfl) (fun w' hw'=>⟨by rw [heldV,if_neg h1,if_neg h2,if_neg h3,if_neg h4,if_pos h5],hw'.s0⟩)
 refine zz 6 ?_
 refine T.aa rfl (fun h6=>?_) (fun h6=>?_)
 refine zz 3 ?_
 refine J.aj Y8k zan rfl rfl (fun w hw=>Va.plain w c 2 0 100 [83,83,84,79,82,69]) ?_
 refine J.ae 2 rfl rfl rfl rfl ((plainV c [83,83,84,79,82,69] 2 0 100).cells) rfl zal (Nat.le_of_ble_eq_true rfl) Y171 (Nat.zero_lt_succ _) trivial ((plainV c [83,83,84,79,82,69] 2 0 100).cells) rfl <| zz 5 ?_
 exact X.aa rfl (RV.agg 2 rfl rfl zag ((plainV c [83,83,84,79,82,69] 2 0 100).cells) Y22 Y22 rfl) (fun w' hw'=>⟨by rw [heldV,if_neg h1,if_neg h2,if_neg h3,if_neg h4,if_neg h5,if_pos h6],hw'.s0⟩)
 refine zz 6 ?_
 refine T.aa rfl (fun h7=>?_) (fun h7=>?_)
 refine zz 3 ?_
 refine J.aj Y8k zan rfl rfl (fun w hw=>Va.plain w c 0 1 2 [77,83,73,90,69]) ?_
 refine J.ae 2 rfl rfl rfl rfl ((plainV c [77,83,73,90,69] 0 1 2).cells) rfl zal (Nat.le_of_ble_eq_true rfl) Y171 (Nat.zero_lt_succ _) trivial ((plainV c [77,83,73,90,69] 0 1 2).cells) rfl <| zz 5 ?_
 exact X.aa rfl (RV.agg 2 rfl rfl zag ((plainV c [77,83,73,90,69] 0 1 2).cells) Y22 Y22 rfl) (fun w' hw'=>⟨by rw [heldV,if_neg h1,if_neg h2,if_neg h3,if_neg h4,if_neg h5,if_neg h6,if_pos h7],hw'.s0⟩)
 refine zz 6 ?_
 refine T.aa rfl (fun h8=>?_) (fun h8=>?_)
 refine zz 3 ?_
 refine J.aj Y8k zan rfl rfl (fun w hw=>Va.plain w c 0 0 1 [78,79,80]) ?_
 refine J.ae 2 rfl rfl rfl rfl ((plainV c [78,79,80] 0 0 1).cells) rfl zal (Nat.le_of_ble_eq_true rfl) Y171 (Nat.zero_lt_succ _) trivial ((plainV c [78,79,80] 0 0 1).cells) rfl <| zz 5 ?_
 exact X.aa rfl (RV.agg 2 rfl rfl zag ((plainV c [78,79,80] 0 0 1).cells) Y22 Y22 rfl) (fun w' hw'=>⟨by rw [heldV,if_neg h1,if_neg h2,if_neg h3,if_neg h4,if_neg h5,if_neg h6,if_neg h7,if_pos h8],hw'.s0⟩)
 refine zz 6 ?_
 refine T.aa rfl (fun h9=>?_) (fun h9=>?_)
 refine zz 3 ?_
 refine J.aj Y8k zan rfl rfl (fun w hw=>Va.plain w c 1 1 100 [84,76,79,65,68]) ?_
 refine J.ae 2 rfl rfl rfl rfl ((plainV c [84,76,79,65,68] 1 1 100).cells) rfl zal (Nat.le_of_ble_eq_true rfl) Y171 (Nat.zero_lt_succ _) trivial ((plainV c [84,76,79,65,68] 1 1 100).cells) rfl <| zz 5 ?_
 exact X.aa rfl (RV.agg 2 rfl rfl zag ((plainV c [84,76,79,65,68] 1 1 100).cells) Y22 Y22 rfl) (fun w' hw'=>⟨by rw [heldV,if_neg h1,if_neg h2,if_neg h3,if_neg h4,if_neg h5,if_neg h6,if_neg h7,if_neg h8,if_pos h9],hw'.s0⟩)
 refine zz 6 ?_
 refine T.aa rfl (fun h10=>?_) (fun h10=>?_)
 refine zz 3 ?_
 refine J.aj Y8k zan rfl rfl (fun w hw=>Va.plain w c 2 0 100 [84,83,84,79,82,69]) ?_
 refine J.ae 2 rfl rfl rfl rfl ((plainV c [84,83,84,79,82,69] 2 0 100).cells) rfl zal (Nat.le_of_ble_eq_true rfl) Y171 (Nat.zero_lt_succ _) trivial ((plainV c [84,83,84,79,82,69] 2 0 100).cells) rfl <| zz 5 ?_
 exact X.aa rfl (RV.agg 2 rfl rfl zag ((plainV c [84,83,84,79,82,69] 2 0 100).cells) Y22 Y22 rfl) (fun w' hw'=>⟨by rw [heldV,if_neg h1,if_neg h2,if_neg h3,if_neg h4,if_neg h5,if_neg h6,if_neg h7,if_neg h8,if_neg h9,if_pos h10],hw'.s0⟩)
 refine zz 6 ?_
 refine T.aa rfl (fun h11=>?_) (fun h11=>?_)
 refine zz 3 ?_
 refine J.aj Y8k zan rfl rfl (fun w hw=>Va.plain w c 3 0 3 [77,67,79,80,89]) ?_
 refine J.ae 2 rfl rfl rfl rfl ((plainV c [77,67,79,80,89] 3 0 3).cells) rfl zal (Nat.le_of_ble_eq_true rfl) Y171 (Nat.zero_lt_succ _) trivial ((plainV c [77,67,79,80,89] 3 0 3).cells) rfl <| zz 5 ?_
 exact X.aa rfl (RV.agg 2 rfl rfl zag ((plainV c [77,67,79,80,89] 3 0 3).cells) Y22 Y22 rfl) (fun w' hw'=>⟨by rw [heldV,if_neg h1,if_neg h2,if_neg h3,if_neg h4,if_neg h5,if_neg h6,if_neg h7,if_neg h8,if_neg h9,if_neg h10,if_pos h11],hw'.s0⟩)
 refine zz 6 ?_
 refine T.aa rfl (fun h12=>?_) (fun h12=>?_)
 refine zz 3 ?_
 refine J.aj Y8k zan rfl rfl (fun w hw=>Va.plain w c 0 1 2 [80,85,83,72,48]) ?_
 refine J.ae 2 rfl rfl rfl rfl ((plainV c [80,85,83,72,48] 0 1 2).cells) rfl zal (Nat.le_of_ble_eq_true rfl) Y171 (Nat.zero_lt_succ _) trivial ((plainV c [80,85,83,72,48] 0 1 2).cells) rfl <| zz 5 ?_
 exact X.aa rfl (RV.agg 2 rfl rfl zag ((plainV c [80,85,83,72,48] 0 1 2).cells) Y22 Y22 rfl) (fun w' hw'=>⟨by rw [heldV,if_neg h1,if_neg h2,if_neg h3,if_neg h4,if_neg h5,if_neg h6,if_neg h7,if_neg h8,if_neg h9,if_neg h10,if_neg h11,if_pos h12],hw'.s0⟩)
 refine zz 5 ?_
 refine J.ao rfl rfl (.agg OpV.zero.cells.toArray) Y191 <| J.ae 2 rfl rfl rfl rfl (OpV.zero.cells) rfl zal (Nat.le_of_ble_eq_true rfl) Y171 (Nat.zero_lt_succ _) trivial (OpV.zero.cells) rfl <| zz 3 ?_
 exact X.aa rfl (RV.agg 2 rfl rfl zag (OpV.zero.cells) Y22 Y22 rfl) (fun w' hw'=>⟨by rw [heldV,if_neg h1,if_neg h2,if_neg h3,if_neg h4,if_neg h5,if_neg h6,if_neg h7,if_neg h8,if_neg h9,if_neg h10,if_neg h11,if_neg h12],hw'.s0⟩)
theorem turned (w:World) (c:Int):
    Calls prog 216 [.int .i64 c].toArray w fun e w'=>e=.returned (.agg (turnedV c).cells.toArray)∧WS w [] [] w':=by
 refine zac [] 58 [] func216 rfl ntmps216 Y20 (WS.refl _ _) <| zz 2 ?_
 refine J.am 2 rfl zbj [.int .i64 0,.string ByteArray.empty,.int .i64 0,.int .i64 0,.int .i64 0,.int .i64 0,.bool false] rfl rfl fun g2 hg2=>zz 15 ?_
 refine T.aa rfl (fun h1=>?_) (fun h1=>?_)
 refine zz 3 ?_
 refine J.aj Y8k zan rfl rfl (fun w hw=>Va.plain w c 1 1 4 [68,65,84,65,76,79,65,68]) ?_
 refine J.ae 2 rfl rfl rfl rfl ((plainV c [68,65,84,65,76,79,65,68] 1 1 4).cells) rfl zal (Nat.le_of_ble_eq_true rfl) Y171 (Nat.zero_lt_succ _) trivial ((plainV c [68,65,84,65,76,79,65,68] 1 1 4).cells) rfl <| zz 5 ?_
 exact X.aa rfl (RV.agg 2 rfl rfl zag ((plainV c [68,65,84,65,76,79,65,68] 1 1 4).cells) Y22 Y22 rfl) (fun w' hw'=>⟨by rw [turnedV,if_pos h1],hw'.s0⟩)
 refine zz 6 ?_
 refine T.aa rfl (fun h2=>?_) (fun h2=>?_)
 refine zz 3 ?_
 refine J.ao rfl rfl (.agg (OpV.mk c [68,65,84,65,76,79,65,68,78] 2 0 1 3 false).cells.toArray) Y191 <| J.ae 2 rfl rfl rfl rfl ((OpV.mk c [68,65,84,65,76,79,65,68,78] 2 0 1 3 false).cells) rfl zal (Nat.le_of_ble_eq_true rfl) Y171 (Nat.zero_lt_succ _) trivial ((OpV.mk c [68,65,84,65,76,79,65,68,78] 2 0 1 3 false).cells) rfl <| zz 5 ?_
 exact X.aa rfl (RV.agg 2 rfl rfl zag ((OpV.mk c [68,65,84,65,76,79,65,68,78] 2 0 1 3 false).cells) Y22 Y22 rfl) (fun w' hw'=>⟨by rw [turnedV,if_neg h1,if_pos h2],hw'.s0⟩)
 refine zz 6 ?_
 refine T.aa rfl (fun h3=>?_) (fun h3=>?_)
 refine zz 3 ?_
 refine J.aj Y8k zan rfl rfl (fun w hw=>Va.plain w c 0 1 2 [68,65,84,65,83,73,90,69]) ?_
 refine J.ae 2 rfl rfl rfl rfl ((plainV c [68,65,84,65,83,73,90,69] 0 1 2).cells) rfl zal (Nat.le_of_ble_eq_true rfl) Y171 (Nat.zero_lt_succ _) trivial ((plainV c [68,65,84,65,83,73,90,69] 0 1 2).cells) rfl <| zz 5 ?_
 exact X.aa rfl (RV.agg 2 rfl rfl zag ((plainV c [68,65,84,65,83,73,90,69] 0 1 2).cells) Y22 Y22 rfl) (fun w' hw'=>⟨by rw [turnedV,if_neg h1,if_neg h2,if_pos h3],hw'.s0⟩)
 refine zz 6 ?_
 refine T.aa rfl (fun h4=>?_) (fun h4=>?_)
 refine zz 3 ?_
 refine J.aj Y8k zan rfl rfl (fun w hw=>Va.plain w c 3 0 3 [68,65,84,65,67,79,80,89]) ?_
 refine J.ae 2 rfl rfl rfl rfl ((plainV c [68,65,84,65,67,79,80,89] 3 0 3).cells) rfl zal (Nat.le_of_ble_eq_true rfl) Y171 (Nat.zero_lt_succ _) trivial ((plainV c [68,65,84,65,67,79,80,89] 3 0 3).cells) rfl <| zz 5 ?_
 exact X.aa rfl (RV.agg 2 rfl rfl zag ((plainV c [68,65,84,65,67,79,80,89] 3 0 3).cells) Y22 Y22 rfl) (fun w' hw'=>⟨by rw [turnedV,if_neg h1,if_neg h2,if_neg h3,if_pos h4],hw'.s0⟩)
 refine zz 6 ?_
 refine T.aa rfl (fun h5=>?_) (fun h5=>?_)
 refine zz 3 ?_
 refine J.ao rfl rfl (.agg (OpV.mk c [82,74,85,77,80] 2 0 0 2 true).cells.toArray) Y191 <| J.ae 2 rfl rfl rfl rfl ((OpV.mk c [82,74,85,77,80] 2 0 0 2 true).cells) rfl zal (Nat.le_of_ble_eq_true rfl) Y171 (Nat.zero_lt_succ _) trivial ((OpV.mk c [82,74,85,77,80] 2 0 0 2 true).cells) rfl <| zz 5 ?_
 exact X.aa rfl (RV.agg 2 rfl rfl zag ((OpV.mk c [82,74,85,77,80] 2 0 0 2 true).cells) Y22 Y22 rfl) (fun w' hw'=>⟨by rw [turnedV,if_neg h1,if_neg h2,if_neg h3,if_neg h4,if_pos h5],hw'.s0⟩)
 refine zz 6 ?_
 refine T.aa rfl (fun h6=>?_) (fun h6=>?_)
 refine zz 3 ?_
 refine J.ao rfl rfl (.agg (OpV.mk c [82,74,85,77,80,73] 2 1 0 4 false).cells.toArray) Y191 <| J.ae 2 rfl rfl rfl rfl ((OpV.mk c [82,74,85,77,80,73] 2 1 0 4 false).cells) rfl zal (Nat.le_of_ble_eq_true rfl) Y171 (Nat.zero_lt_succ _) trivial ((OpV.mk c [82,74,85,77,80,73] 2 1 0 4 false).cells) rfl <| zz 5 ?_
 exact X.aa rfl (RV.agg 2 rfl rfl zag ((OpV.mk c [82,74,85,77,80,73] 2 1 0 4 false).cells) Y22 Y22 rfl) (fun w' hw'=>⟨by rw [turnedV,if_neg h1,if_neg h2,if_neg h3,if_neg h4,if_neg h5,if_pos h6],hw'.s0⟩)
 refine zz 6 ?_
 refine T.aa rfl (fun h7=>?_) (fun h7=>?_)
 refine zz 3 ?_
 refine J.ao rfl rfl (.agg (OpV.mk c [82,74,85,77,80,86] (-1) 1 0 4 false).cells.toArray) Y191 <| J.ae 2 rfl rfl rfl rfl ((OpV.mk c [82,74,85,77,80,86] (-1) 1 0 4 false).cells) rfl zal (Nat.le_of_ble_eq_true rfl) Y171 (Nat.zero_lt_succ _) trivial ((OpV.mk c [82,74,85,77,80,86] (-1) 1 0 4 false).cells) rfl <| zz 5 ?_
 exact X.aa rfl (RV.agg 2 rfl rfl zag ((OpV.mk c [82,74,85,77,80,86] (-1) 1 0 4 false).cells) Y22 Y22 rfl) (fun w' hw'=>⟨by rw [turnedV,if_neg h1,if_neg h2,if_neg h3,if_neg h4,if_neg h5,if_neg h6,if_pos h7],hw'.s0⟩)
 refine zz 6 ?_
 refine T.aa rfl (fun h8=>?_) (fun h8=>?_)
 refine zz 3 ?_
 refine J.ao rfl rfl (.agg (OpV.mk c [67,65,76,76,70] 2 0 0 5 false).cells.toArray) Y191 <| J.ae 2 rfl rfl rfl rfl ((OpV.mk c [67,65,76,76,70] 2 0 0 5 false).cells) rfl zal (Nat.le_of_ble_eq_true rfl) Y171 (Nat.zero_lt_succ _) trivial ((OpV.mk c [67,65,76,76,70] 2 0 0 5 false).cells) rfl <| zz 5 ?_
 exact X.aa rfl (RV.agg 2 rfl rfl zag ((OpV.mk c [67,65,76,76,70] 2 0 0 5 false).cells) Y22 Y22 rfl) (fun w' hw'=>⟨by rw [turnedV,if_neg h1,if_neg h2,if_neg h3,if_neg h4,if_neg h5,if_neg h6,if_neg h7,if_pos h8],hw'.s0⟩)
 refine zz 6 ?_
 refine T.aa rfl (fun h9=>?_) (fun h9=>?_)
 refine zz 3 ?_
 refine J.ao rfl rfl (.agg (OpV.mk c [82,69,84,70] 0 0 0 3 true).cells.toArray) Y191 <| J.ae 2 rfl rfl rfl rfl ((OpV.mk c [82,69,84,70] 0 0 0 3 true).cells) rfl zal (Nat.le_of_ble_eq_true rfl) Y171 (Nat.zero_lt_succ _) trivial ((OpV.mk c [82,69,84,70] 0 0 0 3 true).cells) rfl <| zz 5 ?_
 exact X.aa rfl (RV.agg 2 rfl rfl zag ((OpV.mk c [82,69,84,70] 0 0 0 3 true).cells) Y22 Y22 rfl) (fun w' hw'=>⟨by rw [turnedV,if_neg h1,if_neg h2,if_neg h3,if_neg h4,if_neg h5,if_neg h6,if_neg h7,if_neg h8,if_pos h9],hw'.s0⟩)
 refine zz 6 ?_
 refine T.aa rfl (fun h10=>?_) (fun h10=>?_)
 refine zz 3 ?_
 refine J.ao rfl rfl (.agg (OpV.mk c [74,85,77,80,70] 2 0 0 5 true).cells.toArray) Y191 <| J.ae 2 rfl rfl rfl rfl ((OpV.mk c [74,85,77,80,70] 2 0 0 5 true).cells) rfl zal (Nat.le_of_ble_eq_true rfl) Y171 (Nat.zero_lt_succ _) trivial ((OpV.mk c [74,85,77,80,70] 2 0 0 5 true).cells) rfl <| zz 5 ?_
 exact X.aa rfl (RV.agg 2 rfl rfl zag ((OpV.mk c [74,85,77,80,70] 2 0 0 5 true).cells) Y22 Y22 rfl) (fun w' hw'=>⟨by rw [turnedV,if_neg h1,if_neg h2,if_neg h3,if_neg h4,if_neg h5,if_neg h6,if_neg h7,if_neg h8,if_neg h9,if_pos h10],hw'.s0⟩)
 refine zz 6 ?_
 refine T.aa rfl (fun h11=>?_) (fun h11=>?_)
 refine zz 3 ?_
 refine J.ao rfl rfl (.agg (OpV.mk c [68,85,80,78] 1 1 2 3 false).cells.toArray) Y191 <| J.ae 2 rfl rfl rfl rfl ((OpV.mk c [68,85,80,78] 1 1 2 3 false).cells) rfl zal (Nat.le_of_ble_eq_true rfl) Y171 (Nat.zero_lt_succ _) trivial ((OpV.mk c [68,85,80,78] 1 1 2 3 false).cells) rfl <| zz 5 ?_
 exact X.aa rfl (RV.agg 2 rfl rfl zag ((OpV.mk c [68,85,80,78] 1 1 2 3 false).cells) Y22 Y22 rfl) (fun w' hw'=>⟨by rw [turnedV,if_neg h1,if_neg h2,if_neg h3,if_neg h4,if_neg h5,if_neg h6,if_neg h7,if_neg h8,if_neg h9,if_neg h10,if_pos h11],hw'.s0⟩)
 refine zz 6 ?_
 refine T.aa rfl (fun h12=>?_) (fun h12=>?_)
 refine zz 3 ?_
 refine J.ao rfl rfl (.agg (OpV.mk c [83,87,65,80,78] 1 2 2 3 false).cells.toArray) Y191 <| J.ae 2 rfl rfl rfl rfl ((OpV.mk c [83,87,65,80,78] 1 2 2 3 false).cells) rfl zal (Nat.le_of_ble_eq_true rfl) Y171 (Nat.zero_lt_succ _) trivial ((OpV.mk c [83,87,65,80,78] 1 2 2 3 false).cells) rfl <| zz 5 ?_
 exact X.aa rfl (RV.agg 2 rfl rfl zag ((OpV.mk c [83,87,65,80,78] 1 2 2 3 false).cells) Y22 Y22 rfl) (fun w' hw'=>⟨by rw [turnedV,if_neg h1,if_neg h2,if_neg h3,if_neg h4,if_neg h5,if_neg h6,if_neg h7,if_neg h8,if_neg h9,if_neg h10,if_neg h11,if_pos h12],hw'.s0⟩)
 refine zz 6 ?_
 refine T.aa rfl (fun h13=>?_) (fun h13=>?_)
 refine zz 3 ?_
 refine J.ao rfl rfl (.agg (OpV.mk c [69,88,67,72,65,78,71,69] 1 3 3 3 false).cells.toArray) Y191 <| J.ae 2 rfl rfl rfl rfl ((OpV.mk c [69,88,67,72,65,78,71,69] 1 3 3 3 false).cells) rfl zal (Nat.le_of_ble_eq_true rfl) Y171 (Nat.zero_lt_succ _) trivial ((OpV.mk c [69,88,67,72,65,78,71,69] 1 3 3 3 false).cells) rfl <| zz 5 ?_
 exact X.aa rfl (RV.agg 2 rfl rfl zag ((OpV.mk c [69,88,67,72,65,78,71,69] 1 3 3 3 false).cells) Y22 Y22 rfl) (fun w' hw'=>⟨by rw [turnedV,if_neg h1,if_neg h2,if_neg h3,if_neg h4,if_neg h5,if_neg h6,if_neg h7,if_neg h8,if_neg h9,if_neg h10,if_neg h11,if_neg h12,if_pos h13],hw'.s0⟩)
 refine zz 6 ?_
 refine J.aj Y8k ztW rfl rfl (fun w hw=>Vb.outward w _) ?_
 refine J.ae 2 rfl rfl rfl rfl ((outwardV c).cells) rfl zal (Nat.le_of_ble_eq_true rfl) Y171 (Nat.zero_lt_succ _) trivial ((outwardV c).cells) rfl <| zz 3 ?_
 exact X.aa rfl (RV.agg 2 rfl rfl zag ((outwardV c).cells) Y22 Y22 rfl) (fun w' hw'=>⟨by rw [turnedV,if_neg h1,if_neg h2,if_neg h3,if_neg h4,if_neg h5,if_neg h6,if_neg h7,if_neg h8,if_neg h9,if_neg h10,if_neg h11,if_neg h12,if_neg h13],hw'.s0⟩)
end Go.Proofs.YtlllcafedekojaaGreatDoor.Vb
namespace Go.Fz
open Go Go.Fw Go.Proofs.Tryz
theorem zro:ZeroT prog 274 (.agg ([.string ByteArray.empty,.string ByteArray.empty,.string ByteArray.empty,.string ByteArray.empty,.string ByteArray.empty,.string ByteArray.empty,.string ByteArray.empty,.string ByteArray.empty,.string ByteArray.empty,.string ByteArray.empty,.string ByteArray.empty,.string ByteArray.empty,.string ByteArray.empty,.string ByteArray.empty]).toArray):=Y17
theorem sz274:SizeT prog 274 14:=Y9
theorem sz9:SizeT prog 9 1:=Y9
theorem zuF:ArrT prog 274 14 9 1:=⟨underlying274,sz9⟩
theorem one9:OneT prog 9:=⟨⟨_,underlying9,rfl⟩,Y12⟩
theorem zls:FnOk prog 210:=FnOk.mk' func210 Y12 rfl
theorem zud:FnOk prog 212:=FnOk.mk' func212 Y12 rfl
theorem zuc:FnOk prog 213:=FnOk.mk' func213 Y12 rfl
theorem zub:FnOk prog 214:=FnOk.mk' func214 Y12 rfl
theorem zua:FnOk prog 215:=FnOk.mk' func215 Y12 rfl
theorem ztZ:FnOk prog 216:=FnOk.mk' func216 Y12 rfl
theorem zuh:FnOk prog 201:=FnOk.mk' func201 Y12 rfl
theorem zpR:FldT prog 227 1 9 1 0:=⟨Y12,sz9⟩
end Go.Fz
namespace Go.Proofs.YtlllcafedekojaaGreatDoor.Vc
open Go Go.Fw Go.Fz Go.Proofs.Tryz
attribute [local irreducible] J T X
theorem compared (w:World) (c:Int) (h0:16≤c):
    Calls prog 213 [.int .i64 c].toArray w fun e w'=>e=.returned (.agg (comparedV c).cells.toArray)∧WS w [] [] w':=by
 refine zac [] 29 [] func213 rfl ntmps213 Y20 (WS.refl _ _) <| zz 2 ?_
 refine J.am 2 rfl zbj [.int .i64 0,.string ByteArray.empty,.int .i64 0,.int .i64 0,.int .i64 0,.int .i64 0,.bool false] rfl rfl fun g2 hg2=>zz 9 ?_
 refine T.aa rfl (fun h1=>?_) (fun h1=>?_)
 refine zz 3 ?_
 refine J.aj Y8k zan rfl rfl (fun w hw=>Va.plain w c 1 1 5 [67,76,90]) ?_
 refine J.ae 2 rfl rfl rfl rfl ((plainV c [67,76,90] 1 1 5).cells) rfl zal (Nat.le_of_ble_eq_true rfl) Y171 (Nat.zero_lt_succ _) trivial ((plainV c [67,76,90] 1 1 5).cells) rfl <| zz 4 ?_
 exact X.aa rfl (RV.agg 2 rfl rfl zag ((plainV c [67,76,90] 1 1 5).cells) Y22 Y22 rfl) (fun w' hw'=>⟨by rw [comparedV,if_pos h1],hw'.s0⟩)
 refine zz 9 ?_
 refine T.aa rfl (fun h2=>?_) (fun h2=>?_)
 refine zz 3 ?_
 refine J.aj Y8k zan rfl rfl (fun w hw=>Va.plain w c 2 1 30 [75,69,67,67,65,75,50,53,54]) ?_
 refine J.ae 2 rfl rfl rfl rfl ((plainV c [75,69,67,67,65,75,50,53,54] 2 1 30).cells) rfl zal (Nat.le_of_ble_eq_true rfl) Y171 (Nat.zero_lt_succ _) trivial ((plainV c [75,69,67,67,65,75,50,53,54] 2 1 30).cells) rfl <| zz 4 ?_
 exact X.aa rfl (RV.agg 2 rfl rfl zag ((plainV c [75,69,67,67,65,75,50,53,54] 2 1 30).cells) Y22 Y22 rfl) (fun w' hw'=>⟨by rw [comparedV,if_neg h1,if_pos h2],hw'.s0⟩)
 refine zz 9 ?_
 refine T.aa rfl (fun h3=>?_) (fun h3=>?_)
 refine zz 2 ?_
 refine J.ao rfl rfl (.agg OpV.zero.cells.toArray) Y191 <| J.ae 2 rfl rfl rfl rfl (OpV.zero.cells) rfl zal (Nat.le_of_ble_eq_true rfl) Y171 (Nat.zero_lt_succ _) trivial (OpV.zero.cells) rfl <| zz 4 ?_
 exact X.aa rfl (RV.agg 2 rfl rfl zag (OpV.zero.cells) Y22 Y22 rfl) (fun w' hw'=>⟨by rw [comparedV,if_neg h1,if_neg h2,if_pos h3],hw'.s0⟩)
 refine zz 4 ?_
 refine J.ao rfl rfl (.agg (cmpNames.map fun n=>Value.string (bstr n)).toArray) Y191 <| J.am 3 rfl zro [.string ByteArray.empty,.string ByteArray.empty,.string ByteArray.empty,.string ByteArray.empty,.string ByteArray.empty,.string ByteArray.empty,.string ByteArray.empty,.string ByteArray.empty,.string ByteArray.empty,.string ByteArray.empty,.string ByteArray.empty,.string ByteArray.empty,.string ByteArray.empty,.string ByteArray.empty] rfl rfl fun g3 hg3=>J.ae 3 rfl rfl rfl rfl (cmpNames.map fun n=>Value.string (bstr n)) rfl sz274 Y7 (fun _ hu=>by rw [List.mem_map] at hu;obtain ⟨_,_,rfl⟩:=hu;rfl) Y11 trivial (cmpNames.map fun n=>Value.string (bstr n)) rfl <| zz 7 ?_
 refine T.ai (ι:=Int) (fun (i_:Int)=>i_=(if c=21∨c=25 then 1 else 2)) (fun (i_:Int)=>[(0,.int .i64 c),(2,.pointer (some ⟨g2,0,none⟩)),(5,.int .i64 c),(9,.int .i64 c),(13,.int .i64 c),(16,(.agg (cmpNames.map fun n=>Value.string (bstr n)).toArray)),(3,.pointer (some ⟨g3,0,none⟩)),(4,.int .i64 i_)]) (fun (i_:Int)=>[(2,⟨some g2,227,[.int .i64 0,.string ByteArray.empty,.int .i64 0,.int .i64 0,.int .i64 0,.int .i64 0,.bool false]⟩),(3,⟨some g3,274,(cmpNames.map fun n=>Value.string (bstr n))⟩)]) ?_ ?_
 refine zz 17 ?_
 refine T.aa rfl (fun h4=>?_) (fun h4=>?_)
 refine zz 13 ?_
 exact X.at 1 Y146 Y2 Y2
 refine zz 8 ?_
 refine T.aa rfl (fun h5=>?_) (fun h5=>?_)
 refine zz 12 ?_
 exact X.at 1 Y146 Y2 Y2
 refine zz 7 ?_
 exact X.at 2 Y146 Y2 Y2
 rintro i_ hφ
 refine zz 4 ?_
 refine J.aI rfl rfl rfl (by first | exact zbt _ 16 Y5 | exact zai _ Y5 | exact rfl) <| J.aM zuF rfl rfl Y5 Y5 (show _=(c - 16).toNat from rfl) rfl <| J.ag Y8k 3 rfl rfl one9 (by rw [Nat.zero_add,Nat.mul_one];exact zko (c - 16).toNat Y5) rfl <| zz 1 ?_
 refine J.aj Y8k zan rfl rfl (fun w hw=>Va.plain w _ _ _ _ _) ?_
 refine J.ae 2 rfl rfl rfl rfl ((plainV c (cmpNames.getD (c - 16).toNat []) i_ 1 3).cells) rfl zal (Nat.le_of_ble_eq_true rfl) Y171 (Nat.zero_lt_succ _) trivial ((plainV c (cmpNames.getD (c - 16).toNat []) i_ 1 3).cells) rfl <| zz 3 ?_
 exact X.aa rfl (RV.agg 2 rfl rfl zag ((plainV c (cmpNames.getD (c - 16).toNat []) i_ 1 3).cells) Y22 Y22 rfl) (fun w' hw'=>⟨by rw [comparedV,if_neg Y195,if_neg Y195,if_neg Y195,hφ],hw'.s0⟩)
theorem find (w:World) (c:Int) (hc0:0≤c) (hc1:c < 256):
    Calls prog 201 [.int .i64 c].toArray w fun e w'=>e=.returned (.agg (findV c).cells.toArray)∧WS w [] [] w':=by
 refine zac [] 101 [] func201 rfl ntmps201 Y20 (WS.refl _ _) <| zz 2 ?_
 refine J.am 2 rfl zbj [.int .i64 0,.string ByteArray.empty,.int .i64 0,.int .i64 0,.int .i64 0,.int .i64 0,.bool false] rfl rfl fun g2 hg2=>zz 4 ?_
 refine T.ai (ι:=Unit) (fun (_:Unit)=>True) (fun (_:Unit)=>[(0,.int .i64 c),(2,.pointer (some ⟨g2,0,none⟩)),(7,.bool (decide (96≤c∧c≤127)))]) (fun (_:Unit)=>[(2,⟨some g2,227,[.int .i64 0,.string ByteArray.empty,.int .i64 0,.int .i64 0,.int .i64 0,.int .i64 0,.bool false]⟩)]) ?_ ?_
 refine zz 4 ?_
 refine J.an 10 rfl (fun h1=>?_) (fun h1=>?_)
 refine zz 5 ?_
 refine X.as 7 (.bool (decide (96≤c∧c≤127))) rfl Y145 ?_
 exact X.at () trivial Y2 Y2
 refine zz 5 ?_
 refine X.as 7 (.bool (decide (96≤c∧c≤127))) rfl Y145 ?_
 exact X.at () trivial Y2 Y2
 rintro _ hφ
 refine T.aa rfl (fun h2=>?_) (fun h2=>?_)
 refine zz 3 ?_
 refine J.aI rfl rfl rfl (by first | exact zbt _ 96 Y5 | exact zai _ Y5 | exact rfl) <| J.aq rfl rfl rfl Y10 <| zz 7 ?_
 refine J.aj Y8k zls rfl rfl (fun w hw=>Va.Itoa2 w _ Y5 Y5) ?_
 refine J.bv (xs:=[80,85,83,72]) (ys:=(smallV (c - 96+1))) rfl rfl rfl (zeK _ _ Y23) <| zz 1 ?_
 refine J.ao rfl rfl (.agg (OpV.mk c ([80,85,83,72]++smallV (c - 96+1)) (c - 96+1) 0 1 3 false).cells.toArray) Y191 <| J.ae 2 rfl rfl rfl rfl ((OpV.mk c ([80,85,83,72]++smallV (c - 96+1)) (c - 96+1) 0 1 3 false).cells) rfl zal (Nat.le_of_ble_eq_true rfl) Y171 (Nat.zero_lt_succ _) trivial ((OpV.mk c ([80,85,83,72]++smallV (c - 96+1)) (c - 96+1) 0 1 3 false).cells) rfl <| zz 5 ?_
 exact X.aa rfl (RV.agg 2 rfl rfl zag ((OpV.mk c ([80,85,83,72]++smallV (c - 96+1)) (c - 96+1) 0 1 3 false).cells) Y22 Y22 rfl) (fun w' hw'=>⟨by rw [findV,if_pos h2],hw'.s0⟩)
 refine T.ai (ι:=Unit) (fun (_:Unit)=>True) (fun (_:Unit)=>[(0,.int .i64 c),(2,.pointer (some ⟨g2,0,none⟩)),(7,.bool (decide (96≤c∧c≤127))),(23,.bool (decide (128≤c∧c≤143)))]) (fun (_:Unit)=>[(2,⟨some g2,227,[.int .i64 0,.string ByteArray.empty,.int .i64 0,.int .i64 0,.int .i64 0,.int .i64 0,.bool false]⟩)]) ?_ ?_
 refine zz 4 ?_
 refine J.an 26 rfl (fun h3=>?_) (fun h3=>?_)
 refine zz 5 ?_
 refine X.as 23 (.bool (decide (128≤c∧c≤143))) rfl Y145 ?_
 exact X.at () trivial Y2 Y2
 refine zz 5 ?_
 refine X.as 23 (.bool (decide (128≤c∧c≤143))) rfl Y145 ?_
 exact X.at () trivial Y2 Y2
 rintro _ hφ
 refine T.aa rfl (fun h4=>?_) (fun h4=>?_)
 refine zz 3 ?_
 refine J.aI rfl rfl rfl (by first | exact zbt _ 128 Y5 | exact zai _ Y5 | exact rfl) <| J.aq rfl rfl rfl Y10 <| zz 7 ?_
 refine J.aj Y8k zls rfl rfl (fun w hw=>Va.Itoa2 w _ Y5 Y5) ?_
 refine J.bv (xs:=[68,85,80]) (ys:=(smallV (c - 128+1))) rfl rfl rfl (zeK _ _ Y23) <| zz 2 ?_
 refine J.aq rfl rfl rfl Y10 <| J.aj Y8k zan rfl rfl (fun w hw=>Va.plain w _ _ _ _ _) ?_
 refine J.ae 2 rfl rfl rfl rfl ((plainV c ([68,85,80]++smallV (c - 128+1)) (c - 128+1) (c - 128+1+1) (3)).cells) rfl zal (Nat.le_of_ble_eq_true rfl) Y171 (Nat.zero_lt_succ _) trivial ((plainV c ([68,85,80]++smallV (c - 128+1)) (c - 128+1) (c - 128+1+1) (3)).cells) rfl <| zz 5 ?_
 exact X.aa rfl (RV.agg 2 rfl rfl zag ((plainV c ([68,85,80]++smallV (c - 128+1)) (c - 128+1) (c - 128+1+1) (3)).cells) Y22 Y22 rfl) (fun w' hw'=>⟨by rw [findV,if_neg h2,if_pos h4],hw'.s0⟩)
 refine T.ai (ι:=Unit) (fun (_:Unit)=>True) (fun (_:Unit)=>[(0,.int .i64 c),(2,.pointer (some ⟨g2,0,none⟩)),(7,.bool (decide (96≤c∧c≤127))),(23,.bool (decide (128≤c∧c≤143))),(41,.bool (decide (144≤c∧c≤159)))]) (fun (_:Unit)=>[(2,⟨some g2,227,[.int .i64 0,.string ByteArray.empty,.int .i64 0,.int .i64 0,.int .i64 0,.int .i64 0,.bool false]⟩)]) ?_ ?_
 refine zz 4 ?_
 refine J.an 44 rfl (fun h5=>?_) (fun h5=>?_)
 refine zz 5 ?_
 refine X.as 41 (.bool (decide (144≤c∧c≤159))) rfl Y145 ?_
 exact X.at () trivial Y2 Y2
 refine zz 5 ?_
 refine X.as 41 (.bool (decide (144≤c∧c≤159))) rfl Y145 ?_
 exact X.at () trivial Y2 Y2
 rintro _ hφ
 refine T.aa rfl (fun h6=>?_) (fun h6=>?_)
 refine zz 3 ?_
 refine J.aI rfl rfl rfl (by first | exact zbt _ 144 Y5 | exact zai _ Y5 | exact rfl) <| J.aq rfl rfl rfl Y10 <| zz 7 ?_
 refine J.aj Y8k zls rfl rfl (fun w hw=>Va.Itoa2 w _ Y5 Y5) ?_
 refine J.bv (xs:=[83,87,65,80]) (ys:=(smallV (c - 144+1))) rfl rfl rfl (zeK _ _ Y23) <| zz 1 ?_
 refine J.aq rfl rfl rfl Y10 <| zz 1 ?_
 refine J.aq rfl rfl rfl Y10 <| J.aj Y8k zan rfl rfl (fun w hw=>Va.plain w _ _ _ _ _) ?_
 refine J.ae 2 rfl rfl rfl rfl ((plainV c ([83,87,65,80]++smallV (c - 144+1)) (c - 144+1+1) (c - 144+1+1) (3)).cells) rfl zal (Nat.le_of_ble_eq_true rfl) Y171 (Nat.zero_lt_succ _) trivial ((plainV c ([83,87,65,80]++smallV (c - 144+1)) (c - 144+1+1) (c - 144+1+1) (3)).cells) rfl <| zz 5 ?_
 exact X.aa rfl (RV.agg 2 rfl rfl zag ((plainV c ([83,87,65,80]++smallV (c - 144+1)) (c - 144+1+1) (c - 144+1+1) (3)).cells) Y22 Y22 rfl) (fun w' hw'=>⟨by rw [findV,if_neg h2,if_neg h4,if_pos h6],hw'.s0⟩)
 refine T.ai (ι:=Unit) (fun (_:Unit)=>True) (fun (_:Unit)=>[(0,.int .i64 c),(2,.pointer (some ⟨g2,0,none⟩)),(7,.bool (decide (96≤c∧c≤127))),(23,.bool (decide (128≤c∧c≤143))),(41,.bool (decide (144≤c∧c≤159))),(60,.bool (decide (160≤c∧c≤164)))]) (fun (_:Unit)=>[(2,⟨some g2,227,[.int .i64 0,.string ByteArray.empty,.int .i64 0,.int .i64 0,.int .i64 0,.int .i64 0,.bool false]⟩)]) ?_ ?_
 refine zz 4 ?_
 refine J.an 63 rfl (fun h7=>?_) (fun h7=>?_)
 refine zz 5 ?_
 refine X.as 60 (.bool (decide (160≤c∧c≤164))) rfl Y145 ?_
 exact X.at () trivial Y2 Y2
 refine zz 5 ?_
 refine X.as 60 (.bool (decide (160≤c∧c≤164))) rfl Y145 ?_
 exact X.at () trivial Y2 Y2
 rintro _ hφ
 refine T.aa rfl (fun h8=>?_) (fun h8=>?_)
 refine zz 3 ?_
 refine J.aI rfl rfl rfl (by first | exact zbt _ 160 Y5 | exact zai _ Y5 | exact rfl) <| zz 7 ?_
 refine J.aj Y8k zls rfl rfl (fun w hw=>Va.Itoa2 w _ Y5 Y5) ?_
 refine J.bv (xs:=[76,79,71]) (ys:=(smallV (c - 160))) rfl rfl rfl (zeK _ _ Y23) <| zz 1 ?_
 refine J.aq rfl rfl rfl (by first | exact zdT _ 2 Y5 | exact zai _ Y5 | exact rfl) <| zz 1 ?_
 refine J.aq rfl rfl rfl Y10 <| J.bA rfl rfl rfl (by first | exact zgC 375 _ Y5 | exact zai _ Y5 | exact rfl) <| J.aj Y8k zan rfl rfl (fun w hw=>Va.plain w _ _ _ _ _) ?_
 refine J.ae 2 rfl rfl rfl rfl ((plainV c ([76,79,71]++smallV (c - 160)) (c - 160+2) (0) (375*(c - 160+1))).cells) rfl zal (Nat.le_of_ble_eq_true rfl) Y171 (Nat.zero_lt_succ _) trivial ((plainV c ([76,79,71]++smallV (c - 160)) (c - 160+2) (0) (375*(c - 160+1))).cells) rfl <| zz 5 ?_
 exact X.aa rfl (RV.agg 2 rfl rfl zag ((plainV c ([76,79,71]++smallV (c - 160)) (c - 160+2) (0) (375*(c - 160+1))).cells) Y22 Y22 rfl) (fun w' hw'=>⟨by rw [findV,if_neg h2,if_neg h4,if_neg h6,if_pos h8],hw'.s0⟩)
 refine zz 7 ?_
 refine T.aa rfl (fun h9=>?_) (fun h9=>?_)
 refine zz 3 ?_
 refine J.aj Y8k zud rfl rfl (fun w hw=>Vb.sums w _) ?_
 refine J.ae 2 rfl rfl rfl rfl ((sumsV c).cells) rfl zal (Nat.le_of_ble_eq_true rfl) Y171 (Nat.zero_lt_succ _) trivial ((sumsV c).cells) rfl <| zz 5 ?_
 exact X.aa rfl (RV.agg 2 rfl rfl zag ((sumsV c).cells) Y22 Y22 rfl) (fun w' hw'=>⟨by rw [findV,if_neg h2,if_neg h4,if_neg h6,if_neg h8,if_pos h9],hw'.s0⟩)
 refine zz 7 ?_
 refine T.aa rfl (fun h10=>?_) (fun h10=>?_)
 refine zz 3 ?_
 refine J.aj Y8k zuc rfl rfl (fun w hw=>Vc.compared w _ Y5) ?_
 refine J.ae 2 rfl rfl rfl rfl ((comparedV c).cells) rfl zal (Nat.le_of_ble_eq_true rfl) Y171 (Nat.zero_lt_succ _) trivial ((comparedV c).cells) rfl <| zz 5 ?_
 exact X.aa rfl (RV.agg 2 rfl rfl zag ((comparedV c).cells) Y22 Y22 rfl) (fun w' hw'=>⟨by rw [findV,if_neg h2,if_neg h4,if_neg h6,if_neg h8,if_neg h9,if_pos h10],hw'.s0⟩)
 refine zz 7 ?_
 refine T.aa rfl (fun h11=>?_) (fun h11=>?_)
 refine zz 3 ?_
 refine J.aj Y8k zub rfl rfl (fun w hw=>Vb.asked w _) ?_
 refine J.ae 2 rfl rfl rfl rfl ((askedV c).cells) rfl zal (Nat.le_of_ble_eq_true rfl) Y171 (Nat.zero_lt_succ _) trivial ((askedV c).cells) rfl <| zz 5 ?_
 exact X.aa rfl (RV.agg 2 rfl rfl zag ((askedV c).cells) Y22 Y22 rfl) (fun w' hw'=>⟨by rw [findV,if_neg h2,if_neg h4,if_neg h6,if_neg h8,if_neg h9,if_neg h10,if_pos h11],hw'.s0⟩)
 refine zz 7 ?_
 refine T.aa rfl (fun h12=>?_) (fun h12=>?_)
 refine zz 3 ?_
 refine J.aj Y8k zua rfl rfl (fun w hw=>Vb.held w _) ?_
 refine J.ae 2 rfl rfl rfl rfl ((heldV c).cells) rfl zal (Nat.le_of_ble_eq_true rfl) Y171 (Nat.zero_lt_succ _) trivial ((heldV c).cells) rfl <| zz 5 ?_
 exact X.aa rfl (RV.agg 2 rfl rfl zag ((heldV c).cells) Y22 Y22 rfl) (fun w' hw'=>⟨by rw [findV,if_neg h2,if_neg h4,if_neg h6,if_neg h8,if_neg h9,if_neg h10,if_neg h11,if_pos h12],hw'.s0⟩)
 refine zz 6 ?_
 refine J.aj Y8k ztZ rfl rfl (fun w hw=>Vb.turned w _) ?_
 refine J.ae 2 rfl rfl rfl rfl ((turnedV c).cells) rfl zal (Nat.le_of_ble_eq_true rfl) Y171 (Nat.zero_lt_succ _) trivial ((turnedV c).cells) rfl <| zz 3 ?_
 exact X.aa rfl (RV.agg 2 rfl rfl zag ((turnedV c).cells) Y22 Y22 rfl) (fun w' hw'=>⟨by rw [findV,if_neg h2,if_neg h4,if_neg h6,if_neg h8,if_neg h9,if_neg h10,if_neg h11,if_neg h12],hw'.s0⟩)
theorem Of (w:World) (c:Int) (hc0:0≤c) (hc1:c < 256):
    Calls prog 179 [.int .i64 c].toArray w fun e w'=>e=.returned (.tuple #[.agg (findV c).cells.toArray,.bool (decide ((findV c).name≠[]))])∧WS w [] [] w':=by
 refine zac [] 11 [] func179 rfl ntmps179 Y20 (WS.refl _ _) <| zz 2 ?_
 refine J.am 2 rfl zbj [.int .i64 0,.string ByteArray.empty,.int .i64 0,.int .i64 0,.int .i64 0,.int .i64 0,.bool false] rfl rfl fun g2 hg2=>zz 6 ?_
 refine J.aj Y8k zuh rfl rfl (fun w hw=>Vc.find w _ hc0 hc1) ?_
 refine J.am 4 rfl zbj [.int .i64 0,.string ByteArray.empty,.int .i64 0,.int .i64 0,.int .i64 0,.int .i64 0,.bool false] rfl rfl fun g4 hg4=>J.ae 4 rfl rfl rfl rfl ((findV c).cells) rfl zal (Nat.le_of_ble_eq_true rfl) Y171 (Nat.zero_lt_succ _) trivial ((findV c).cells) rfl <| zz 3 ?_
 refine T.ae [(4,⟨some g4,227,((findV c).cells)⟩)] [(0,.q),(1,.g),(2,.s),(3,.g),(4,.l),(5,.g)] Y12 Y12 ?_ Y2
 refine J.ai Y8k 4 rfl rfl zag ((findV c).cells) rfl rfl rfl <| J.aa zpR rfl rfl <| J.aJ 4 rfl rfl one9 Y3 rfl <| J.di (xs:=(findV c).name) rfl rfl rfl <| J.ae 2 rfl rfl rfl rfl ((findV c).cells) rfl zal (Nat.le_of_ble_eq_true rfl) Y171 (Nat.zero_lt_succ _) trivial ((findV c).cells) rfl <| zz 4 ?_
 exact X.ag rfl (RV.agg 2 rfl rfl zag ((findV c).cells) Y22 Y22 rfl) (RV.tmp rfl) (fun w' hw'=>⟨rfl,hw'.s0⟩)
theorem Bars (w:World) (c k:Int):
    Calls prog 180 [.int .i64 c,.int .i64 k].toArray w fun e w'=>e=.returned (.bool (barsV c k))∧WS w [] [] w':=by
 refine zac [] 18 [] func180 rfl ntmps180 Y20 (WS.refl _ _) <| zz 18 ?_
 refine T.aa rfl (fun h1=>?_) (fun h1=>?_)
 refine zz 5 ?_
 refine J.an 10 rfl (fun h2=>?_) (fun h2=>?_)
 refine zz 9 ?_
 exact X.aa rfl (RV.tmp rfl) (fun w' hw'=>⟨by first | rfl | (unfold barsV;simp [*];done),hw'.s0⟩)
 refine zz 9 ?_
 exact X.aa rfl (RV.tmp rfl) (fun w' hw'=>⟨by first | rfl | (unfold barsV;simp [*];done),hw'.s0⟩)
 refine zz 6 ?_
 refine T.aa rfl (fun h3=>?_) (fun h3=>?_)
 refine zz 10 ?_
 exact X.aa rfl (RV.tmp rfl) (fun w' hw'=>⟨by first | rfl | (unfold barsV;simp [*];done),hw'.s0⟩)
 refine zz 9 ?_
 exact X.aa rfl (RV.tmp rfl) (fun w' hw'=>⟨by first | rfl | (unfold barsV;simp [*];done),hw'.s0⟩)
end Go.Proofs.YtlllcafedekojaaGreatDoor.Vc
namespace Go.Fz
open Go Go.Fw Go.Proofs.Tryz
theorem ziq:FldT prog 227 2 3 2 0:=⟨Y12,sz3⟩
theorem zch:ZeroT prog 200 (.agg (zc8).toArray):=Y17
theorem zen:SizeT prog 200 4:=Y9
theorem zaC:AggT prog 200 4:=⟨⟨_,underlying200,rfl⟩,Y12⟩
theorem zjm:FnOk prog 179:=FnOk.mk' func179 Y12 rfl
theorem zqI:FnOk prog 200:=FnOk.mk' func200 Y12 rfl
theorem zpS:FldT prog 227 0 3 0 0:=⟨Y12,sz3⟩
end Go.Fz
namespace Go.Proofs.YtlllcafedekojaaGreatDoor.Vd
open Go Go.Fw Go.Fz Go.Proofs.Tryz
attribute [local irreducible] J T X
theorem length (w:World) (r:OpV) (hr:r.im) (im:List Nat) (hd:Dg im) (A:Option Addr) (c:Nat) (hA:Cs w A (rowN .u8 im)):
    Calls prog 200 [.agg r.cells.toArray,.slice A im.length c].toArray w fun e w'=>e=.returned (.tuple #[.int .i64 ((lenN r im:Nat):Int),.bool (lenB r im)])∧WS w [] [] w':=by
 obtain ⟨hr1,hr2⟩:=hr
 have hb0:=hd.getD 0
 refine zac [] 21 [] func200 rfl ntmps200 Y20 (WS.refl _ _) <| zz 2 ?_
 refine J.aE 2 rfl rfl (r.cells) rfl rfl fun g2 hg2=>zz 7 ?_
 refine J.aa ziq rfl rfl <| J.ag Y8k 2 rfl rfl one3 Y3 rfl <| zz 3 ?_
 refine T.aa rfl (fun h1=>?_) (fun h1=>?_)
 refine zz 2 ?_
 refine J.aa ziq rfl rfl <| J.ag Y8k 2 rfl rfl one3 Y3 rfl <| zz 6 ?_
 exact X.ag rfl (RV.tmp rfl) (RV.tmp rfl) (fun w' hw'=>⟨by rw [zlf Y195 hr1,lenB,decide_eq_true (.inl Y195)],hw'.s0⟩)
 refine zz 6 ?_
 refine J.al underlying51 rfl rfl <| zz 3 ?_
 refine T.aa rfl (fun h2=>?_) (fun h2=>?_)
 refine zz 8 ?_
 exact X.ag rfl (RV.tmp rfl) (RV.tmp rfl) (fun w' hw'=>⟨by have h0:=List.eq_nil_of_length_eq_zero (by omega:im.length=0);rw [lenN,if_neg Y195,if_pos h0,lenB,decide_eq_false (fun q=>q.elim Y195 (fun q=>q h0))];rfl,hw'.s0⟩)
 refine zz 5 ?_
 refine J.ah sl51 rfl (Cs.isSomeN hA Y5) rfl Y5 Y5 Y22 rfl <| J.av Y8k hA (zab _) rfl one5 Y119 rfl <| J.as 16 (.int .u8 ((im.getD 0 0:Nat):Int)) rfl Y22 <| J.aN Y188 underlying3 rfl rfl Y140 <| J.aq rfl rfl rfl Y10 <| J.bA rfl rfl rfl (by first | exact zgC 2 _ Y5 | exact zai _ Y5 | exact rfl) <| J.aq rfl rfl rfl (by first | exact zdT 1 _ Y5 | exact zai _ Y5 | exact rfl) <| zz 5 ?_
 exact X.ag rfl (RV.tmp rfl) (RV.tmp rfl) (fun w' hw'=>⟨by have h0:im≠[]:=(fun q=>by rw [q] at h2;exact h2 rfl);rw [zfa h1 h0,lenB,decide_eq_true (.inr h0)],hw'.s0⟩)
theorem read (w:World) (n:Nat) (B:List (Option Nat)) (hB:∀ g,some g∈B→g < w.heap.size) (bs:List Nat) (hd:Dg bs) (hl:bs.length≤1000000000000) (at_:Nat) (hat:at_≤bs.length) (A:Option Addr) (c:Nat) (hc:bs.length≤c) (hA:Cs w A (rowN .u8 bs)):
    Calls prog 178 [.slice A bs.length c,.int .i64 ((at_:Nat):Int)].toArray w fun e w'=>∃ x:InR,(x.v=readV bs at_∧x.Ok w' n B)∧e=.returned (.tuple #[.agg x.cells.toArray,.int .i64 (readE bs at_)])∧WS w [] [] w':=by
 have hb1:=hd.getD at_
 have hN:=zkc (zdp ((bs.getD at_ 0:Nat):Int)) (hd.drop (at_+1))
 change imN bs at_≤513 at hN
 refine zac [] 69 [] func178 rfl ntmps178 Y20 (WS.refl _ _) <| zz 2 ?_
 refine J.am 4 rfl zch zc8 rfl rfl fun g4 hg4=>zz 7 ?_
 refine J.bq rfl rfl rfl (decide_eq_false Y13) <| zz 4 ?_
 refine J.al underlying51 rfl rfl <| zz 4 ?_
 refine T.aa rfl (fun h1=>?_) (fun h1=>?_)
 refine zz 2 ?_
 refine J.ao rfl rfl (.agg InR.none.cells.toArray) Y191 <| J.ae 4 rfl rfl rfl rfl (InR.none.cells) rfl zen (Nat.le_of_ble_eq_true rfl) Y148 (Nat.zero_lt_succ _) trivial (InR.none.cells) rfl <| zz 5 ?_
 exact X.ag rfl (RV.agg 4 rfl rfl zaC (InR.none.cells) Y22 Y22 rfl) (RV.tmp rfl) (fun w' hw'=>⟨InR.none,⟨(zeU (by rw [znr Y5];decide)).symm,InR.none_ok⟩,by rw [znr Y5],hw'.s0⟩)
 refine zz 6 ?_
 refine J.ah sl51 rfl (Cs.isSomeN hA Y5) rfl Y5 Y5 Y8 rfl <| J.av Y8k hA (zab _) rfl one5 Y119 rfl <| J.aN Y188 underlying3 rfl rfl Y140 <| J.aj Y8k zjm rfl rfl (fun w hw=>Vc.Of w _ Y5 Y5) ?_
 refine zz 3 ?_
 refine J.as 27 (.bool (decide ((opAt bs at_).name≠[]))) rfl Y22 <| J.am 6 rfl zbj [.int .i64 0,.string ByteArray.empty,.int .i64 0,.int .i64 0,.int .i64 0,.int .i64 0,.bool false] rfl rfl fun g6 hg6=>J.ae 6 rfl rfl rfl rfl ((opAt bs at_).cells) rfl zal (Nat.le_of_ble_eq_true rfl) Y148 (Nat.zero_lt_succ _) trivial ((opAt bs at_).cells) rfl <| zz 7 ?_
 refine J.aA rfl rfl Y18 <| zz 2 ?_
 refine T.aa rfl (fun h2=>?_) (fun h2=>?_)
 refine zz 2 ?_
 refine J.ao rfl rfl (.agg InR.none.cells.toArray) Y191 <| J.ae 4 rfl rfl rfl rfl (InR.none.cells) rfl zen (Nat.le_of_ble_eq_true rfl) Y148 (Nat.zero_lt_succ _) trivial (InR.none.cells) rfl <| zz 5 ?_
 exact X.ag rfl (RV.agg 4 rfl rfl zaC (InR.none.cells) Y22 Y22 rfl) (RV.tmp rfl) (fun w' hw'=>⟨InR.none,⟨(zeU (by rw [zkY Y5 (Decidable.not_not.1 Y195)];decide)).symm,InR.none_ok⟩,by rw [zkY Y5 (Decidable.not_not.1 Y195)],hw'.s0⟩)
 refine zz 3 ?_
 refine T.ae [] [(0,.q),(1,.g),(2,.g),(3,.g),(4,.g),(5,.q),(6,.g),(7,.g),(8,.g),(9,.g),(10,.g)] Y12 Y12 ?_ Y2
 refine J.ai Y8k 6 rfl rfl zag ((opAt bs at_).cells) rfl rfl rfl <| zz 2 ?_
 refine J.aq rfl rfl rfl Y10 <| J.ax sl51 rfl (optInt.some rfl Y5 Y8) optInt.none optInt.none Y20 Y5 Y5 Y5 rfl rfl <| J.as 36 (.slice (if c=at_+1 then A else A.map (·.add ((at_+1)*1))) (bs.drop (at_+1)).length (c - (at_+1))) rfl (by rw [List.length_drop]) <| J.aj Y8k zqI rfl rfl (fun w hw=>Vd.length w _ (zdp _) _ (hd.drop _) _ _ ((cut8 hA hc (at_+1)).ws hw (zab _))) ?_
 refine zz 2 ?_
 refine J.as 38 (.int .i64 ((imN bs at_:Nat):Int)) rfl Y22 <| zz 1 ?_
 refine J.as 39 (.bool (decide ((opAt bs at_).imm≠ -1∨bs.drop (at_+1)≠[]))) rfl Y22 <| zz 8 ?_
 refine J.aA rfl rfl Y18 <| zz 1 ?_
 refine J.an 42 rfl (fun h3=>?_) (fun h3=>?_)
 refine zz 13 ?_
 refine J.ao rfl rfl (.agg InR.none.cells.toArray) Y191 <| J.ae 4 rfl rfl rfl rfl (InR.none.cells) rfl zen (Nat.le_of_ble_eq_true rfl) Y148 (Nat.zero_lt_succ _) trivial (InR.none.cells) rfl <| zz 5 ?_
 exact X.ag rfl (RV.agg 4 rfl rfl zaC (InR.none.cells) Y22 Y22 rfl) (RV.tmp rfl) (fun w' hw'=>⟨InR.none,⟨(zeU Y121).symm,InR.none_ok⟩,by rw [zhY Y5 (Decidable.not_not.1 h2) (fun q=>by first | exact h3 (of_decide_eq_true q.1) | omega)],hw'.s0⟩)
 refine zz 3 ?_
 refine J.al underlying51 rfl rfl <| zz 2 ?_
 refine J.aI rfl rfl rfl (by first | exact zbt _ _ Y5 | exact zai _ Y5 | exact rfl) <| zz 1 ?_
 refine J.aI rfl rfl rfl (by first | exact zbt _ 1 Y5 | exact zai _ Y5 | exact rfl) <| zz 4 ?_
 refine T.aa rfl (fun h4=>?_) (fun h4=>?_)
 refine zz 2 ?_
 refine J.ao rfl rfl (.agg InR.none.cells.toArray) Y191 <| J.ae 4 rfl rfl rfl rfl (InR.none.cells) rfl zen (Nat.le_of_ble_eq_true rfl) Y148 (Nat.zero_lt_succ _) trivial (InR.none.cells) rfl <| zz 5 ?_
 exact X.ag rfl (RV.agg 4 rfl rfl zaC (InR.none.cells) Y22 Y22 rfl) (RV.tmp rfl) (fun w' hw'=>⟨InR.none,⟨(zeU Y121).symm,InR.none_ok⟩,by rw [zhY Y5 (Decidable.not_not.1 h2) (fun q=>by first | exact h3 (of_decide_eq_true q.1) | omega)],hw'.s0⟩)
 refine zz 5 ?_
 refine J.aQ 53 rfl (q:=(imN bs at_)) (c0:=(imN bs at_)) underlying51 el5 rfl rfl Y192 Y192 Y5 Y5 Y28 rfl fun g53 hg53=>zz 8 ?_
 refine J.aq rfl rfl rfl Y10 <| J.ax sl51 rfl (optInt.some rfl Y5 Y8) optInt.none optInt.none Y20 Y5 Y5 Y5 rfl rfl <| J.as 58 (.slice (if c=at_+1 then A else A.map (·.add ((at_+1)*1))) (bs.drop (at_+1)).length (c - (at_+1))) rfl (by rw [List.length_drop]) <| J.cH 53 rfl (o:=0) (q:=(imN bs at_)) (news:=(rowN .u8 (imV bs at_))) sl51 Y23 rfl rfl rfl (fun _=>rfl) Y174 (by rw [zap,zfD Y5,Nat.mul_one]) (fun w hw=>(cut8t ((cut8 hA hc (at_+1)).ws hw (zab _)) (imN bs at_))) (by first | exact zcv _ _ | exact zhV _) (by rw [Nat.zero_add,zap,zfD Y5,zbp];exact Nat.le_of_eq (Nat.mul_one _).symm) rfl (rowN .u8 (imV bs at_)) (zjO _ _ (by rw [zap,zfD Y5,zbp];exact Nat.mul_one _)) <| zz 5 ?_
 refine J.aa zpS rfl rfl <| J.ag Y8k 6 rfl rfl one3 Y3 rfl <| zz 1 ?_
 refine J.as 63 (.slice (some ⟨g53,0,none⟩) (imV bs at_).length (imN bs at_)) rfl (by rw [zfD Y5];rfl) <| zz 1 ?_
 refine J.aq rfl rfl rfl Y10 <| zz 1 ?_
 refine J.aq rfl rfl rfl Y142 <| J.ao rfl rfl (.agg (InR.mk ⟨at_,(opAt bs at_).code,imV bs at_,at_+1+imN bs at_⟩ (some ⟨g53,0,none⟩) (imN bs at_)).cells.toArray) Y191 <| J.ae 4 rfl rfl rfl rfl ((InR.mk ⟨at_,(opAt bs at_).code,imV bs at_,at_+1+imN bs at_⟩ (some ⟨g53,0,none⟩) (imN bs at_)).cells) rfl zen (Nat.le_of_ble_eq_true rfl) Y148 (Nat.zero_lt_succ _) trivial ((InR.mk ⟨at_,(opAt bs at_).code,imV bs at_,at_+1+imN bs at_⟩ (some ⟨g53,0,none⟩) (imN bs at_)).cells) rfl <| zz 4 ?_
 exact X.ag rfl (RV.agg 4 rfl rfl zaC ((InR.mk ⟨at_,(opAt bs at_).code,imV bs at_,at_+1+imN bs at_⟩ (some ⟨g53,0,none⟩) (imN bs at_)).cells) Y22 Y22 rfl) (RV.tmp rfl) (fun w' hw'=>(fun hE:readE bs at_=0=>⟨(InR.mk ⟨at_,(opAt bs at_).code,imV bs at_,at_+1+imN bs at_⟩ (some ⟨g53,0,none⟩) (imN bs at_)),⟨(zpl hE).symm,⟨(hd.drop _).take _,Nat.le_of_eq (zfD Y5),ziv hw' (j:=53) rfl (fun g h=>⟨hB g h,fun q=>by cases q⟩)⟩⟩,by rw [hE],hw'.s0⟩) (zrQ Y5 (Decidable.not_not.1 h2) (decide_eq_true (Decidable.not_not.1 h3)) Y5))
end Go.Proofs.YtlllcafedekojaaGreatDoor.Vd
