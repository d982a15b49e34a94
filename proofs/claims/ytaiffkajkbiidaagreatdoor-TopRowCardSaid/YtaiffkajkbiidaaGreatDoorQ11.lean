/- What this claim leans on, part 11: laws of the model, and what functions of the program compute. No condition but what each law states. -/
import Derived.Test.YtaiffkajkbiidaaGreatDoorQ10
namespace Go.Proofs.YtaiffkajkbiidaaGreatDoor
set_option linter.unusedSimpArgs false
set_option linter.unusedVariables false
set_option linter.unusedSectionVars false
set_option maxRecDepth 100000
set_option maxHeartbeats 40000000
section
open Go.RowKit
section
variable {P:Program}
def kN (ops:Array Oper)(i j:Nat):Bool:=match ops[i]? with
 | some o=>o.after.any λe=>e.on==j&&Region.binds .any e
 | none=>false
def oV (o:Oper):Bool:=match o.op with
 | .select _ _=>false
 | _=>true
def adm (ops:Array Oper)(n:Nat):Bool:=ops.toList.zipIdx.all λ(o,i)=>oV o&&(o.dst.all λd=>decide (d<n))&&ops.toList.zipIdx.all λ(o',j)=>match o'.dst with
 | none=>true
 | some s=>(i==j || o.dst != some s)&&(!(o.looksAt ops).contains s || kN ops i j)
def usB (ops:Array Oper)(us:List Nat):Bool:=us.all λs=>ops.any λo=>o.dst==some s
def chainB (ops:Array Oper):List Nat->Bool
 | []=>true
 | c::cs=>decide (c<ops.size)&&cs.all (λd=>kN ops d c)&&chainB ops cs
def ZZ (ops:Array Oper)(cs:List Nat)(i k:Nat):Bool:=cs.zipIdx.all λ(c,j)=>(!kN ops i c || decide (j<k))&&(!(c==i || kN ops c i) || decide (k<=j))
def abv (ops:Array Oper):Bool:=ops.toList.zipIdx.all λ(o,i)=>o.after.all λe=>decide (e.on<i) || !Region.binds .any e
theorem gQ {α:Type}{l:List α}{i:Nat}{x:α}(h:l[i]?=some x):(x,i)∈l.zipIdx:=by
 rw[List.mem_iff_getElem?]
 exact⟨i,by simp[List.getElem?_zipIdx,h]⟩
theorem gG {ops:Array Oper}{cs:List Nat}{i k:Nat}(h:ZZ ops cs i k=true)(j c:Nat)(hj:cs[j]?=some c)(hb:kN ops i c=true):j<k:=by
 have:=List.all_eq_true.1 h _ (gQ hj)
 simp only[hb,Bool.not_true,Bool.false_or,Bool.and_eq_true,decide_eq_true_eq] at this
 exact this.1
theorem aQ {ops:Array Oper}{cs:List Nat}{i k:Nat}(h:ZZ ops cs i k=true)(j c:Nat)(hj:cs[j]?=some c)(hb:(c==i || kN ops c i)=true):k<=j:=by
 have:=List.all_eq_true.1 h _ (gQ hj)
 simp only[hb,Bool.not_true,Bool.false_or,Bool.and_eq_true,decide_eq_true_eq] at this
 exact this.2
def QF:Exit->Act->World->Prop:=λ_ _ _=>False
def zg (ops:Array Oper)(i s:Nat):Bool:=ops.toList.zipIdx.all λ(o',j)=>o'.dst != some s || kN ops i j
def iL (late:List Nat)(dst:Option Nat)(v:Value)(e:Nat->Value):Nat->Value:=match dst with
 | some d=>if late.contains d then λs=>if s=d then v else e s else e
 | none=>e
def KL (o:Oper)(tb:Act)(late:List Nat)(p:Nat->World->Value->Prop)(R:World->World->Prop)(S:(Nat->Value)->World->Prop)(e:Nat->Value)(W:World):Act->World->Prop :=
 λa W'=>(∃v,a=tb.put o.dst v/\(∀d,o.dst=some d->if late.contains d then p d W' v else v=tb.tmps.getD d undef)/\S (iL late o.dst v e) W')/\R W W'
section
variable {o:Oper}{tb:Act}{la:List Nat}{p:Nat->World->Value->Prop}{R:World->World->Prop}{S:(Nat->Value)->World->Prop}{e:Nat->Value}{v:Value}{W W':World}
theorem KL.none (hv:o.dst=none)(hR:R W W')(hK:S e W'):KL o tb la p R S e W (tb.put o.dst v) W':=⟨⟨v,rfl,λd h=>(by rw[hv] at h;cases h),by rw[hv];exact hK⟩,hR⟩
theorem KL.at_ (d:Nat)(hd:o.dst=some d)(hl:la.contains d=false)(hv:tb.tmps.getD d undef=v)(hR:R W W')(hK:S e W'):KL o tb la p R S e W (tb.put o.dst v) W' :=
 ⟨⟨v,rfl,λd' h=>(by rw[hd] at h;cases h;rw[hl];exact hv.symm),by rw[hd];unfold iL;simp only[hl];exact hK⟩,hR⟩
theorem KL.lt (d:Nat)(hd:o.dst=some d)(hl:la.contains d=true)(hv:p d W' v)(hR:R W W')(hK:S (λs=>if s=d then v else e s) W'):KL o tb la p R S e W (tb.put o.dst v) W' :=
 ⟨⟨v,rfl,λd' h=>(by rw[hd] at h;cases h;rw[hl];exact hv),by rw[hd];unfold iL;simp only[hl,if_true];exact hK⟩,hR⟩
end
section
variable {P:Program}{ops:Array Oper}{Q:Exit->Act->World->Prop}{i:Nat}{o:Oper}{tb:Act}{la:List Nat}{p:Nat->World->Value->Prop}{R:World->World->Prop}{S:(Nat->Value)->World->Prop}{e:Nat->Value}{v:Value}{W:World}
theorem kv (d:Nat)(hi:ops[i]?=some o)(hw:Region.wanted o (yielded ops tb.tmps)=true)(hr:(execOp tb.eval o).run P W=.ok (.value v) W)(hd:o.dst=some d)(hl:la.contains d=false)(hv:tb.tmps.getD d undef=v)(hR:R W W)(hK:S e W):wpOp P ops Q i (KL o tb la p R S e W) tb W :=
 af hi hw hr (KL.at_ d hd hl hv hR hK)
theorem kc (d:Nat)(f:FuncId){fn:Func}{xs:Array Operand}{ats:Array TypeId}(hi:ops[i]?=some o)(hw:Region.wanted o (yielded ops tb.tmps)=true)(ho:o.op=.call { callee:=.value (.func f),args:=xs,argTypes:=ats })(hf:P.funcs[f]?=some fn)
  (hc:Calls P f (xs.toList.map tb.eval).toArray W λe w'=>e=.returned v/\Below W.heap.size W w') (hd:o.dst=some d) (hl:la.contains d=false) (hv:tb.tmps.getD d undef=v) (hR:∀W',Below W.heap.size W W'->R W W') (hK:∀W',Below W.heap.size W W'->S e W')
  (hn:(fn.name== "runtime.NumGoroutine")=false:=by kernel_rfl) (hb:fn.body.isNone=false:=by kernel_rfl):wpOp P ops Q i (KL o tb la p R S e W) tb W :=
 aV f hi hw ho hf hn hb hc λw' h=>KL.at_ d hd hl hv (hR w' h) (hK w' h)
end
theorem mH {a:Act}{d:Nat}{v:Value}(h:d<a.tmps.size):(a.put (some d) v).tmps.getD d undef=v:=by
 simp[Act.put,Array.getD_eq_getD_getElem?,h]
theorem oU {a:Act}{dst:Option Nat}{s:Nat}{v:Value}(h:dst≠some s):(a.put dst v).tmps.getD s undef=a.tmps.getD s undef:=by
 cases dst with
 | none=>rfl
 | some d =>
  have:d≠s:=λe=>h (by rw[e])
  simp[Act.put,Array.getD_eq_getD_getElem?,Array.getElem?_setIfInBounds_ne this]
theorem EU (a:Act)(dst:Option Nat)(v:Value):(a.put dst v).tmps.size=a.tmps.size:=by cases dst<;>simp[Act.put]
theorem iJ (a:Act)(dst:Option Nat)(v:Value):(a.put dst v).defers=a.defers:=by cases dst<;>rfl
theorem Qr {ops:Array Oper}{Q:Exit->Act->World->Prop}{i:Nat}{o:Oper}{late:List Nat}{p:Nat->World->Value->Prop}{R:World->World->Prop}{S:(Nat->Value)->World->Prop}{e:Nat->Value}{tb a:Act}{W:World}(ho:ops[i]?=some o)(hp:oV o=true)(hd:∀d,o.dst=some d->d<tb.tmps.size)(hsz:a.tmps.size=tb.tmps.size)
  (hag:∀s∈o.looksAt ops,a.tmps.getD s undef=tb.tmps.getD s undef) (h:wpOp P ops QF i (KL o tb late p R S e W) tb W):wpOp P ops Q i (λa' W'=>(∃v,a'=a.put o.dst v/\(∀d,o.dst=some d->if late.contains d then p d W' v else v=tb.tmps.getD d undef)/\S (iL late o.dst v e) W')/\R W W') a W:=by
 have hns:∀cs b,o.op≠.select cs b:=λcs b e=>by unfold oV at hp;rw[e] at hp;cases hp
 have he:execOp a.eval o=execOp tb.eval o:=execOp_congr o hns λx hx=>by
  cases x with
  | tmp t=>exact hag t (List.mem_append_left _ (List.mem_filterMap.2 ⟨.tmp t,by simpa using hx,rfl⟩))
  | _=>rfl
 have hw:Region.wanted o (yielded ops a.tmps)=Region.wanted o (yielded ops tb.tmps):=by
  unfold Region.wanted
  cases hg:o.guard with
  | none=>rfl
  | some gw =>
   obtain⟨g,want⟩:=gw
   have hy:yielded ops a.tmps g=yielded ops tb.tmps g:=by
    unfold yielded
    cases ht:(ops[g]?).bind (·.dst) with
    | none=>rfl
    | some t =>
     have h1:=hag t (List.mem_append_right _ (by simp[hg,ht]))
     rw[Array.getD_eq_getD_getElem?,Array.getD_eq_getD_getElem?] at h1
     have h2:a.tmps[t]?=tb.tmps[t]?:=by
      by_cases hlt:t<a.tmps.size
      ·have hlt':t<tb.tmps.size:=hsz▸hlt
       rw[Array.getElem?_eq_getElem hlt,Array.getElem?_eq_getElem hlt'] at h1
       rw[Array.getElem?_eq_getElem hlt,Array.getElem?_eq_getElem hlt']
       exact congrArg some h1
      ·have hle:a.tmps.size<=t:=Nat.le_of_not_lt hlt
       rw[Array.getElem?_eq_none hle,Array.getElem?_eq_none (hsz▸hle)]
     simp[h2]
   simp only[hy]
 have hput:∀(v:Value) (W':World),KL o tb late p R S e W (tb.put o.dst v) W'->(∃u,a.put o.dst v=a.put o.dst u/\(∀d,o.dst=some d->if late.contains d then p d W' u else u=tb.tmps.getD d undef)/\S (iL late o.dst u e) W')/\R W W':=by
  rintro v W' ⟨⟨u,he',hu,hS⟩,hR⟩
  by_cases hnd:∃d,o.dst=some d
  ·obtain⟨d,e'⟩:=hnd
   have h1:=congrArg (λx:Act=>x.tmps.getD d undef) he'
   simp only[e'] at h1
   rw[mH (hd d e'),mH (hd d e')] at h1
   subst h1
   exact⟨⟨v,rfl,hu,hS⟩,hR⟩
  ·have hn:o.dst=none:=by
    cases h:o.dst with
    | none=>rfl
    | some d=>exact absurd ⟨d,h⟩ hnd
   rw[hn] at hS
   refine⟨⟨v,rfl,λd h=>?_,?_⟩,hR⟩
   ·rw[hn] at h
    cases h
   ·rw[hn]
    exact hS
 unfold wpOp at h ⊢
 simp only[ho,hw] at h ⊢
 split
 ·rename_i hwt
  simp only[hwt,if_true] at h
  rcases h with h|⟨-,h⟩
  ·refine .inl ?_
   unfold Oper.wp at h ⊢
   rw[he]
   generalize (execOp tb.eval o).run P W=r at h
   cases r with
   | ok n w' =>
    cases n<;>simp only[Oper.upon] at h ⊢
    case defer d =>
     obtain⟨⟨u,e',-⟩,-⟩:=h
     have h1:=congrArg Act.defers e'
     rw[iJ,iJ] at h1
     have h2:=congrArg List.length h1
     simp at h2
    case enter f args =>
     refine h.mono λe w'' he'=>?_
     cases e with
     | returned v=>exact hput v w'' he'
     | panicked c=>exact he'.elim
     | outgrown=>obtain⟨_,_,hq⟩:=he';exact hq.elim
    case row r' args=>exact Rows.mono h λv w'' he'=>hput v w'' he'
    all_goals first|exact hput _ _ h|exact h.elim
   | halt x w'=>cases x<;>simp only[Oper.upon] at h ⊢<;>first|exact h.elim|cases h
  ·obtain⟨_,_,hq⟩:=h
   exact hq.elim
 ·rename_i hwt
  simp only[hwt] at h
  exact hput _ _ h
theorem ji (us:List (Nat×Value)):∀t:Array Value,(us.foldl (λt p=>t.setIfInBounds p.1 p.2) t).size=t.size/\∀s,s ∉ us.map (·.1)->(us.foldl (λt p=>t.setIfInBounds p.1 p.2) t).getD s undef=t.getD s undef:=by
 induction us with
 | nil=>exact λt=>⟨rfl,λ_ _=>rfl⟩
 | cons p us ih =>
  intro t
  obtain⟨h1,h2⟩:=ih (t.setIfInBounds p.1 p.2)
  refine⟨by rw[List.foldl_cons,h1,Array.size_setIfInBounds],λs hs=>?_⟩
  rw[List.map_cons,List.mem_cons,not_or] at hs
  rw[List.foldl_cons,h2 s hs.2,Array.getD_eq_getD_getElem?,Array.getD_eq_getD_getElem?,Array.getElem?_setIfInBounds_ne λe=>hs.1 e.symm]
theorem gV (late:List Nat)(e:Nat->Value)(t:Array Value):((late.map λs=>(s,e s)).foldl (λt p=>t.setIfInBounds p.1 p.2) t).size=t.size/\∀s,s ∉ late->((late.map λs=>(s,e s)).foldl (λt p=>t.setIfInBounds p.1 p.2) t).getD s undef=t.getD s undef:=by
 obtain⟨h1,h2⟩:=ji (late.map λs=>(s,e s)) t
 refine⟨h1,λs hs=>h2 s ?_⟩
 rw[List.map_map]
 simpa using hs
theorem xw {ops:Array Oper}{Q:Exit->Act->World->Prop}{Cw:Nat}{a:Act}{w:World}{n:Nat}{vs:List Nat}(us:List (Nat×Value))(late:List Nat)(p:Nat->World->Value->Prop)(R:World->World->Prop)(cs:List Nat)(S:Nat->(Nat->Value)->World->Prop)(T:(Nat->Value)->Array Value)(hm:P.follows .mixedOrders=true)
  (hok:abv ops=true) (hn:a.tmps.size=n) (htab:adm ops n=true) (hus:us.map (·.1)=vs) (Sv:usB ops (vs++late)=true) (hch:chainB ops cs=true) (hT:∀e,(late.map λs=>(s,e s)).foldl (λt p=>t.setIfInBounds p.1 p.2) (us.foldl (λt p=>t.setIfInBounds p.1 p.2) a.tmps)=T e) (DY:∀e,late.map (λs=>(T e).getD s undef)=late.map e)
  (hp:∀s W W' v,R W W'->p s W v->p s W' v)
  (h0:S 0 (λ_=>undef) w.drew)
  (hstep:∀(i:Nat) (o:Oper),ops[i]?=some o->∀k,k<=cs.length->ZZ ops cs i k=true->∀(e:Nat->Value) (W:World),S k e W->(∀s,late.contains s=true->zg ops i s=true->p s W (e s))->wpOp P ops QF i (KL o { tmps:=T e,defers:=a.defers } late p R (S (if cs.contains i then k+1 else k)) e W) { tmps:=T e,defers:=a.defers } W)
  (hend:∀e W,S cs.length e W->(∀s,late.contains s=true->p s W (e s))->Q .normal { tmps:=T e,defers:=a.defers } W) :
  (Code.region Cw ops true).wp P Q a w:=by
 have hsz:∀e,(T e).size=n:=λe=>by rw[←hT,(gV _ _ _).1,(ji us _).1,hn]
 have aft:∀e e' s,s ∉ late->(T e).getD s undef=(T e').getD s undef:=λe e' s hs=>by
  rw[←hT,←hT,(gV _ _ _).2 s hs,(gV _ _ _).2 s hs]
 have hTs:∀e s,s∈late->(T e).getD s undef=e s:=by
  intro e s hs
  obtain⟨j,hj⟩:=List.mem_iff_getElem?.1 hs
  have h1:=congrArg (·[j]?) (DY e)
  simp only[List.getElem?_map,hj,Option.map_some,Option.some.injEq] at h1
  exact h1
 have Su:∀s,s∈vs++late->∃(j:Nat) (o:Oper),ops[j]?=some o/\o.dst=some s:=by
  intro s hs
  have h1:=List.all_eq_true.1 Sv s hs
  rw[Array.any_eq_true] at h1
  obtain⟨j,hj,h2⟩:=h1
  exact⟨j,ops[j],Array.getElem?_eq_getElem hj,by simpa using h2⟩
 have hbase:∀e s,(∀(j:Nat) (o:Oper),ops[j]?=some o->o.dst≠some s)->a.tmps.getD s undef=(T e).getD s undef:=by
  intro e s hs
  have hno:s ∉ vs++late:=λh=>by
   obtain⟨j,o,h1,h2⟩:=Su s h
   exact hs j o h1 h2
  rw[List.mem_append,not_or] at hno
  rw[←hT,(gV _ _ _).2 s hno.2,(ji us _).2 s (by rw[hus];exact hno.1)]
 have afs:∀(i:Nat) (o:Oper),ops[i]?=some o->oV o=true/\(∀d,o.dst=some d->d<n)/\∀(j:Nat) (o':Oper),ops[j]?=some o'->∀s,o'.dst=some s->(i=j∨o.dst≠some s)/\(s∈o.looksAt ops->kN ops i j=true):=by
  intro i o ho
  have h1:=List.all_eq_true.1 htab (o,i) (gQ (by rw[Array.getElem?_toList];exact ho))
  simp only[Bool.and_eq_true] at h1
  obtain⟨⟨h2,h3⟩,h4⟩:=h1
  refine⟨h2,λd e=>by rw[e] at h3;simpa using h3,λj o' ho' s hs=>?_⟩
  have h5:=List.all_eq_true.1 h4 (o',j) (gQ (by rw[Array.getElem?_toList];exact ho'))
  simp only[hs,Bool.and_eq_true,Bool.or_eq_true,Bool.not_eq_true',beq_iff_eq,bne_iff_ne,ne_eq] at h5
  refine⟨h5.1,λhmem=>h5.2.resolve_left λhc=>?_⟩
  rw[List.contains_iff_mem.2 hmem] at hc
  cases hc
 have hbef:∀i j,kN ops i j=true->∃o,ops[i]?=some o/\∃e∈o.after,e.on=j/\Region.binds .any e=true:=by
  intro i j h
  unfold kN at h
  cases ho:ops[i]? with
  | none=>rw[ho] at h;cases h
  | some o =>
   rw[ho] at h
   simp only[Array.any_eq_true,Bool.and_eq_true,beq_iff_eq] at h
   obtain⟨k,hk,h1,h2⟩:=h
   exact⟨o,rfl,o.after[k],Array.getElem_mem hk,h1,h2⟩
 have yw:∀(cs:List Nat),chainB ops cs=true->∀(j c:Nat),cs[j]?=some c->∀(j' c':Nat),j<j'->cs[j']?=some c'->kN ops c' c=true:=by
  intro cs
  induction cs with
  | nil=>intro _ j c h;simp at h
  | cons c0 cs ih =>
   intro h j c hj j' c' hlt hj'
   simp only[chainB,Bool.and_eq_true] at h
   cases j with
   | zero =>
    simp at hj
    subst hj
    cases j' with
    | zero=>omega
    | succ j' =>
     simp at hj'
     exact List.all_eq_true.1 h.1.2 c' (List.mem_of_getElem? hj')
   | succ j =>
    cases j' with
    | zero=>omega
    | succ j'=>exact ih h.2 j c (by simpa using hj) j' c' (by omega) (by simpa using hj')
 have hcsz:∀(cs:List Nat),chainB ops cs=true->∀c∈cs,c<ops.size:=by
  intro cs
  induction cs with
  | nil=>intro _ c h;cases h
  | cons c0 cs ih =>
   intro h c hc
   simp only[chainB,Bool.and_eq_true,decide_eq_true_eq] at h
   rcases List.mem_cons.1 hc with rfl|hc
   ·exact h.1.1
   ·exact ih h.2 c hc
 refine jZ hm hok (λD act W=>act.defers=a.defers/\act.tmps.size=n/\(∀(m:Nat) (o:Oper),D m->ops[m]?=some o->∀e∈o.after,Region.binds .any e=true->D e.on)/\∃e:Nat->Value,(∀s,(∀(j:Nat) (o:Oper),ops[j]?=some o->o.dst=some s->D j)->act.tmps.getD s undef=(T e).getD s undef)/\(∀s,late.contains s=true->(∀(j:Nat) (o:Oper),ops[j]?=some o->o.dst=some s->D j)->p s W (e s)) /\
  ∃k,k<=cs.length/\(∀(j c:Nat),cs[j]?=some c->(D c↔j<k))/\S k e W) ?_ ?_ ?_
 ·refine⟨rfl,hn,λ_ _ h=>h.elim,λ_=>undef,λs hs=>hbase _ s λj o ho e=>hs j o ho e,λs hl hs=>?_,0,Nat.zero_le _,λj c _=>⟨λh=>h.elim,λh=>absurd h (Nat.not_lt_zero _)⟩,h0⟩
  obtain⟨j,o,h1,h2⟩:=Su s (List.mem_append_right _ (List.contains_iff_mem.1 hl))
  exact(hs j o h1 h2).elim
 ·rintro i o ho D act W ⟨hdf,hsz',hcl,e,PX,hlt,k,hk,yu,hS⟩ hnD hpre
  obtain⟨t1,t2,t3⟩:=afs i o ho
  have hst:ZZ ops cs i k=true:=by
   refine List.all_eq_true.2 ?_
   rintro ⟨c,j⟩ hmem
   rw[List.mem_iff_getElem?] at hmem
   obtain⟨j',hj'⟩:=hmem
   rw[List.getElem?_zipIdx] at hj'
   obtain⟨x,hx,e⟩:=Option.map_eq_some_iff.1 hj'
   simp only[Nat.zero_add,Prod.mk.injEq] at e
   obtain⟨rfl,rfl⟩:=e
   simp only[Bool.and_eq_true,Bool.or_eq_true,Bool.not_eq_true',decide_eq_true_eq,beq_iff_eq]
   constructor
   ·cases hb:kN ops i x with
    | false=>exact .inl rfl
    | true =>
     obtain⟨o',ho',e,he,h1,h2⟩:=hbef _ _ hb
     rw[ho] at ho'
     cases ho'
     exact .inr ((yu j' x hx).1 (h1▸hpre e he h2))
   ·by_cases hlt:k<=j'
    ·exact .inr hlt
    ·refine .inl ?_
     have afL:=(yu j' x hx).2 (by omega)
     cases hb:(x==i || kN ops x i) with
     | false=>rfl
     | true =>
      exfalso
      simp only[Bool.or_eq_true,beq_iff_eq] at hb
      rcases hb with rfl|hb
      ·exact hnD afL
      ·obtain⟨o',ho',e,he,h1,h2⟩:=hbef _ _ hb
       exact hnD (h1▸hcl x o' afL ho' e he h2)
  have hav:∀s,late.contains s=true->zg ops i s=true->p s W (e s):=by
   intro s hl hs
   refine hlt s hl λj o' ho' e'=>?_
   have h1:=List.all_eq_true.1 hs (o',j) (gQ (by rw[Array.getElem?_toList];exact ho'))
   simp only[e',bne_self_eq_false,Bool.false_or] at h1
   obtain⟨o'',FU,e,he,h1,h2⟩:=hbef _ _ h1
   rw[ho] at FU
   cases FU
   exact h1▸hpre e he h2
  have JN:=hstep i o ho k hk hst e W hS hav
  refine wpOp_mono ?_ (Qr (a:=act) ho t1 (λd e'=>by show d<(T e).size;rw[hsz];exact t2 d e') (by show _=(T e).size;rw[hsz',hsz]) (λs hs=>PX s λj o' ho' e'=>?_) JN)
  ·rintro a' W' ⟨⟨v,rfl,hv,hS'⟩,hR⟩
   have hU:∀s,o.dst=some s->late.contains s=true->iL late o.dst v e s=v:=λs h1 h2=>by rw[h1];unfold iL;simp only[h2,if_true]
   have afr:∀s,o.dst≠some s->iL late o.dst v e s=e s:=λs h1=>by
    unfold iL
    cases hd:o.dst with
    | none=>rfl
    | some d =>
     simp only
     split
     ·show (if s=d then v else e s)=e s
      rw[if_neg λh=>h1 (by rw[hd,h])]
     ·rfl
   refine⟨by rw[iJ,hdf],by rw[EU,hsz'],?_,iL late o.dst v e,λs hs=>?_,λs hl hs=>?_,if cs.contains i then k+1 else k,?_,?_,hS'⟩
   rotate_left
   ·by_cases hds:o.dst=some s
    ·have hput:(act.put o.dst v).tmps.getD s undef=v:=by rw[hds];exact mH (by rw[hsz'];exact t2 s hds)
     rw[hput]
     have h1:=hv s hds
     by_cases hl:late.contains s=true
     ·rw[hTs _ s (List.contains_iff_mem.1 hl),hU s hds hl]
     ·rw[if_neg hl] at h1
      rw[h1]
      exact aft _ _ s λh=>hl (List.contains_iff_mem.2 h)
    ·rw[oU hds]
     have h1:=PX s λj o' ho' e'=>(hs j o' ho' e').resolve_left (by
      rintro rfl
      rw[ho] at ho'
      cases ho'
      exact hds e')
     rw[h1]
     by_cases hl:s∈late
     ·rw[hTs _ s hl,hTs _ s hl,afr s hds]
     ·exact aft _ _ s hl
   ·by_cases hds:o.dst=some s
    ·rw[hU s hds hl]
     have h1:=hv s hds
     rw[if_pos hl] at h1
     exact h1
    ·rw[afr s hds]
     refine hp s W W' _ hR (hlt s hl λj o' ho' e'=>(hs j o' ho' e').resolve_left ?_)
     rintro rfl
     rw[ho] at ho'
     cases ho'
     exact hds e'
   rotate_right
   ·rintro m o' (rfl|Ke) ho' e he hb
    ·rw[ho] at ho'
     cases ho'
     exact .inr (hpre e he hb)
    ·exact .inr (hcl m o' Ke ho' e he hb)
   ·split
    ·rename_i hc
     have hmem:=List.contains_iff_mem.1 hc
     obtain⟨j,hj⟩:=List.mem_iff_getElem?.1 hmem
     have h1:¬j<k:=λh=>hnD ((yu j i hj).2 h)
     have h2:=(List.getElem?_eq_some_iff.1 hj).1
     omega
    ·exact hk
   ·intro j c hj
    by_cases hc:cs.contains i=true
    ·have hmem:=List.contains_iff_mem.1 hc
     obtain⟨j0,hj0⟩:=List.mem_iff_getElem?.1 hmem
     rw[if_pos hc]
     have hlo:k<=j0:=Nat.le_of_not_lt λh=>hnD ((yu j0 i hj0).2 h)
     have hhi:j0<=k:=by
      refine Nat.le_of_not_lt λh=>?_
      have hk':k<cs.length:=Nat.lt_trans h (List.getElem?_eq_some_iff.1 hj0).1
      have hb:=yw cs hch k cs[k] (List.getElem?_eq_getElem hk') j0 i h hj0
      obtain⟨o',ho',e,he,h1,h2⟩:=hbef _ _ hb
      rw[ho] at ho'
      cases ho'
      exact absurd ((yu k _ (List.getElem?_eq_getElem hk')).1 (h1▸hpre e he h2)) (Nat.lt_irrefl _)
     obtain rfl:j0=k:=Nat.le_antisymm hhi hlo
     constructor
     ·rintro (rfl|h)
      ·refine Nat.lt_succ_of_le (Nat.le_of_not_lt λh=>?_)
       have hb:=yw cs hch j0 c hj0 j c h hj
       obtain⟨o',ho',e,he,h1,h2⟩:=hbef _ _ hb
       rw[ho] at ho'
       cases ho'
       exact hnD (h1▸hpre e he h2)
      ·exact Nat.lt_succ_of_lt ((yu j c hj).1 h)
     ·intro h
      rcases Nat.lt_succ_iff_lt_or_eq.1 h with h|rfl
      ·exact .inr ((yu j c hj).2 h)
      ·rw[hj0] at hj
       cases hj
       exact .inl rfl
    ·rw[if_neg hc]
     constructor
     ·rintro (rfl|h)
      ·exact absurd (List.contains_iff_mem.2 (List.mem_of_getElem? hj)) hc
      ·exact(yu j c hj).1 h
     ·exact λh=>.inr ((yu j c hj).2 h)
  ·have hb:=(t3 j o' ho' s e').2 hs
   obtain⟨o'',FU,e,he,h1,h2⟩:=hbef _ _ hb
   rw[ho] at FU
   cases FU
   exact h1▸hpre e he h2
 ·rintro D act W ⟨hdf,hsz',hcl,e,PX,hlt,k,hk,yu,hS⟩ hall
  have hk':k=cs.length:=by
   refine Nat.le_antisymm hk (Nat.le_of_not_lt λh=>?_)
   have hc:=List.getElem?_eq_getElem h
   exact absurd ((yu k _ hc).1 (hall _ (hcsz cs hch _ (List.getElem_mem h)))) (Nat.lt_irrefl _)
  subst hk'
  have ee:act={ tmps:=T e,defers:=a.defers }:=by
   obtain⟨t,df⟩:=act
   simp only at hdf hsz' PX
   subst hdf
   congr 1
   apply Array.ext (by rw[hsz',hsz])
   intro s h1 h2
   have h3:=PX s λj o ho _=>hall j (Array.getElem?_eq_some_iff.1 ho).1
   rw[Array.getD_eq_getD_getElem?,Array.getD_eq_getD_getElem?,Array.getElem?_eq_getElem h1,Array.getElem?_eq_getElem h2] at h3
   exact h3
  rw[ee]
  exact hend e W hS λs hl=>hlt s hl λj o ho _=>hall j (Array.getElem?_eq_some_iff.1 ho).1
theorem oJ {S:Nat->(Nat->Value)->World->Prop}(h:∀(k:Nat) (e:Nat->Value) (W W':World),S k e W->Below W.heap.size W W'->S k e W'):∀(k:Nat) (e:Nat->Value) (W W':World),S k e W->Below W.heap.size W W'->S k e W':=h
theorem aS {ops:Array Oper}{Q:Exit->Act->World->Prop}{Cw:Nat}{a:Act}{w:World}{n:Nat}(us:List (Nat×Value))(late:List Nat)(p:Nat->World->Value->Prop)(R:World->World->Prop)(cs:List Nat)(S:Nat->(Nat->Value)->World->Prop)(hst:∀(k:Nat) (e:Nat->Value) (W W':World),S k e W->Below W.heap.size W W'->S k e W'){T:(Nat->Value)->Array Value}(hm:P.follows .mixedOrders=true)
  (hok:abv ops=true) (hn:a.tmps.size=n) (htab:adm ops n=true) (Sv:usB ops (us.map (·.1)++late)=true) (hch:chainB ops cs=true)
  (hp:∀s W W' v,R W W'->p s W v->p s W' v)
  (h0:S 0 (λ_=>undef) w.drew)
  (hT:∀e,(late.map λs=>(s,e s)).foldl (λt p=>t.setIfInBounds p.1 p.2) (us.foldl (λt p=>t.setIfInBounds p.1 p.2) a.tmps)=T e) (DY:∀e,late.map (λs=>(T e).getD s undef)=late.map e)
  (hstep:∀(i:Nat) (o:Oper),ops[i]?=some o->∀k,k<=cs.length->ZZ ops cs i k=true->∀(e:Nat->Value) (W:World),S k e W->(∀s,late.contains s=true->zg ops i s=true->p s W (e s))->wpOp P ops QF i (KL o { tmps:=T e,defers:=a.defers } late p R (S (if cs.contains i then k+1 else k)) e W) { tmps:=T e,defers:=a.defers } W)
  (hend:∀e W,S cs.length e W->(∀s,late.contains s=true->p s W (e s))->Q .normal { tmps:=T e,defers:=a.defers } W) :
  (Code.region Cw ops true).wp P Q a w :=
 xw us late p R cs S T hm hok hn htab rfl Sv hch hT DY hp h0 hstep hend
def tabO (ops:Array Oper)(rd DR:List Nat)(n:Nat):Bool:=ops.toList.zipIdx.all λ(o,i)=>oV o&&(o.dst.all λd=>decide (d<n))&&ops.toList.zipIdx.all λ(o',j)=>match o'.dst with
 | none=>true
 | some s=>(i==j || o.dst != some s)&&(!(o.looksAt ops).contains s || if (rd.contains i&&DR.contains s)=true then kN ops j i else kN ops i j)
def KO (o:Oper)(tb:Act)(tv:Array Value)(late:List Nat)(p:Nat->World->Value->Prop)(R:World->World->Prop)(S:(Nat->Value)->World->Prop)(e:Nat->Value)(W:World):Act->World->Prop :=
 λa W'=>(∃v,a=tb.put o.dst v/\(∀d,o.dst=some d->if late.contains d then p d W' v else v=tv.getD d undef)/\S (iL late o.dst v e) W')/\R W W'
section
variable {o:Oper}{tb:Act}{tv:Array Value}{la:List Nat}{p:Nat->World->Value->Prop}{R:World->World->Prop}{S:(Nat->Value)->World->Prop}{e:Nat->Value}{v:Value}{W W':World}
theorem KO.at_ (d:Nat)(hd:o.dst=some d)(hl:la.contains d=false)(hv:tv.getD d undef=v)(hR:R W W')(hK:S e W'):KO o tb tv la p R S e W (tb.put o.dst v) W' :=
 ⟨⟨v,rfl,λd' h=>(by rw[hd] at h;cases h;rw[hl];exact hv.symm),by rw[hd];unfold iL;simp only[hl];exact hK⟩,hR⟩
theorem KO.lt (d:Nat)(hd:o.dst=some d)(hl:la.contains d=true)(hv:p d W' v)(hR:R W W')(hK:S (λs=>if s=d then v else e s) W'):KO o tb tv la p R S e W (tb.put o.dst v) W' :=
 ⟨⟨v,rfl,λd' h=>(by rw[hd] at h;cases h;rw[hl];exact hv),by rw[hd];unfold iL;simp only[hl,if_true];exact hK⟩,hR⟩
end
theorem Ns {ops:Array Oper}{Q:Exit->Act->World->Prop}{i:Nat}{o:Oper}{late:List Nat}{p:Nat->World->Value->Prop}{R:World->World->Prop}{S:(Nat->Value)->World->Prop}{e:Nat->Value}{tb a:Act}{tv:Array Value}{W:World}(ho:ops[i]?=some o)(hp:oV o=true)(hd:∀d,o.dst=some d->d<tb.tmps.size)(hsz:a.tmps.size=tb.tmps.size)
  (hag:∀s∈o.looksAt ops,a.tmps.getD s undef=tb.tmps.getD s undef) (h:wpOp P ops QF i (KO o tb tv late p R S e W) tb W):wpOp P ops Q i (λa' W'=>(∃v,a'=a.put o.dst v/\(∀d,o.dst=some d->if late.contains d then p d W' v else v=tv.getD d undef)/\S (iL late o.dst v e) W')/\R W W') a W:=by
 have hns:∀cs b,o.op≠.select cs b:=λcs b e=>by unfold oV at hp;rw[e] at hp;cases hp
 have he:execOp a.eval o=execOp tb.eval o:=execOp_congr o hns λx hx=>by
  cases x with
  | tmp t=>exact hag t (List.mem_append_left _ (List.mem_filterMap.2 ⟨.tmp t,by simpa using hx,rfl⟩))
  | _=>rfl
 have hw:Region.wanted o (yielded ops a.tmps)=Region.wanted o (yielded ops tb.tmps):=by
  unfold Region.wanted
  cases hg:o.guard with
  | none=>rfl
  | some gw =>
   obtain⟨g,want⟩:=gw
   have hy:yielded ops a.tmps g=yielded ops tb.tmps g:=by
    unfold yielded
    cases ht:(ops[g]?).bind (·.dst) with
    | none=>rfl
    | some t =>
     have h1:=hag t (List.mem_append_right _ (by simp[hg,ht]))
     rw[Array.getD_eq_getD_getElem?,Array.getD_eq_getD_getElem?] at h1
     have h2:a.tmps[t]?=tb.tmps[t]?:=by
      by_cases hlt:t<a.tmps.size
      ·have hlt':t<tb.tmps.size:=hsz▸hlt
       rw[Array.getElem?_eq_getElem hlt,Array.getElem?_eq_getElem hlt'] at h1
       rw[Array.getElem?_eq_getElem hlt,Array.getElem?_eq_getElem hlt']
       exact congrArg some h1
      ·have hle:a.tmps.size<=t:=Nat.le_of_not_lt hlt
       rw[Array.getElem?_eq_none hle,Array.getElem?_eq_none (hsz▸hle)]
     simp[h2]
   simp only[hy]
 have hput:∀(v:Value) (W':World),KO o tb tv late p R S e W (tb.put o.dst v) W'->(∃u,a.put o.dst v=a.put o.dst u/\(∀d,o.dst=some d->if late.contains d then p d W' u else u=tv.getD d undef)/\S (iL late o.dst u e) W')/\R W W':=by
  rintro v W' ⟨⟨u,he',hu,hS⟩,hR⟩
  by_cases hnd:∃d,o.dst=some d
  ·obtain⟨d,e'⟩:=hnd
   have h1:=congrArg (λx:Act=>x.tmps.getD d undef) he'
   simp only[e'] at h1
   rw[mH (hd d e'),mH (hd d e')] at h1
   subst h1
   exact⟨⟨v,rfl,hu,hS⟩,hR⟩
  ·have hn:o.dst=none:=by
    cases h:o.dst with
    | none=>rfl
    | some d=>exact absurd ⟨d,h⟩ hnd
   rw[hn] at hS
   refine⟨⟨v,rfl,λd h=>?_,?_⟩,hR⟩
   ·rw[hn] at h
    cases h
   ·rw[hn]
    exact hS
 unfold wpOp at h ⊢
 simp only[ho,hw] at h ⊢
 split
 ·rename_i hwt
  simp only[hwt,if_true] at h
  rcases h with h|⟨-,h⟩
  ·refine .inl ?_
   unfold Oper.wp at h ⊢
   rw[he]
   generalize (execOp tb.eval o).run P W=r at h
   cases r with
   | ok n w' =>
    cases n<;>simp only[Oper.upon] at h ⊢
    case defer d =>
     obtain⟨⟨u,e',-⟩,-⟩:=h
     have h1:=congrArg Act.defers e'
     rw[iJ,iJ] at h1
     have h2:=congrArg List.length h1
     simp at h2
    case enter f args =>
     refine h.mono λe w'' he'=>?_
     cases e with
     | returned v=>exact hput v w'' he'
     | panicked c=>exact he'.elim
     | outgrown=>obtain⟨_,_,hq⟩:=he';exact hq.elim
    case row r' args=>exact Rows.mono h λv w'' he'=>hput v w'' he'
    all_goals first|exact hput _ _ h|exact h.elim
   | halt x w'=>cases x<;>simp only[Oper.upon] at h ⊢<;>first|exact h.elim|cases h
  ·obtain⟨_,_,hq⟩:=h
   exact hq.elim
 ·rename_i hwt
  simp only[hwt] at h
  exact hput _ _ h
theorem jY {ops:Array Oper}{Q:Exit->Act->World->Prop}{Cw:Nat}{a:Act}{w:World}{n:Nat}{vs:List Nat}(us:List (Nat×Value))(late:List Nat)(p:Nat->World->Value->Prop)(R:World->World->Prop)(cs:List Nat)(S:Nat->(Nat->Value)->World->Prop)(T:(Nat->Value)->Array Value)(rd DR:List Nat)(TO:(Nat->Value)->Array Value)(hm:P.follows .mixedOrders=true)
  (hok:abv ops=true) (hn:a.tmps.size=n) (htab:tabO ops rd DR n=true) (hus:us.map (·.1)=vs) (Sv:usB ops (vs++late)=true) (hch:chainB ops cs=true) (hT:∀e,(late.map λs=>(s,e s)).foldl (λt p=>t.setIfInBounds p.1 p.2) (us.foldl (λt p=>t.setIfInBounds p.1 p.2) a.tmps)=T e) (DY:∀e,late.map (λs=>(T e).getD s undef)=late.map e)
  (hTO:∀e,DR.foldl (λt s=>t.setIfInBounds s (a.tmps.getD s undef)) (T e)=TO e)
  (hp:∀s W W' v,R W W'->p s W v->p s W' v)
  (h0:S 0 (λ_=>undef) w.drew)
  (hstep:∀(i:Nat) (o:Oper),ops[i]?=some o->∀k,k<=cs.length->ZZ ops cs i k=true->∀(e:Nat->Value) (W:World),S k e W->(∀s,late.contains s=true->zg ops i s=true->p s W (e s))->wpOp P ops QF i (KO o { tmps:=if rd.contains i then TO e else T e,defers:=a.defers } (T e) late p R (S (if cs.contains i then k+1 else k)) e W) { tmps:=if rd.contains i then TO e else T e,defers:=a.defers } W)
  (hend:∀e W,S cs.length e W->(∀s,late.contains s=true->p s W (e s))->Q .normal { tmps:=T e,defers:=a.defers } W) :
  (Code.region Cw ops true).wp P Q a w:=by
 have hsz:∀e,(T e).size=n:=λe=>by rw[←hT,(gV _ _ _).1,(ji us _).1,hn]
 have afE:∀e,(TO e).size=n/\∀s,s ∉ DR->(TO e).getD s undef=(T e).getD s undef:=by
  intro e
  have h:=ji (DR.map λs=>(s,a.tmps.getD s undef)) (T e)
  have e1:(DR.map λs=>(s,a.tmps.getD s undef)).foldl (λt p=>t.setIfInBounds p.1 p.2) (T e)=TO e:=by rw[←hTO,List.foldl_map]
  rw[e1] at h
  refine⟨h.1.trans (hsz e),λs hs=>h.2 s ?_⟩
  rw[List.map_map]
  simpa using hs
 have hOv:∀(DR:List Nat) (t:Array Value),t.size=n->∀s,s∈DR->s<n->(DR.foldl (λt s=>t.setIfInBounds s (a.tmps.getD s undef)) t).getD s undef=a.tmps.getD s undef:=by
  intro DR
  induction DR with
  | nil=>intro t _ s h;cases h
  | cons x xs ih =>
   intro t ht s hs hsn
   rw[List.foldl_cons]
   by_cases hx:s∈xs
   ·exact ih _ (by rw[Array.size_setIfInBounds,ht]) s hx hsn
   ·obtain rfl:=(List.mem_cons.1 hs).resolve_right hx
    have h:=(ji (xs.map λs=>(s,a.tmps.getD s undef)) (t.setIfInBounds s (a.tmps.getD s undef))).2 s (by rw[List.map_map];simpa using hx)
    rw[List.foldl_map] at h
    rw[h]
    simp[Array.getD_eq_getD_getElem?,ht,hsn]
 have aft:∀e e' s,s ∉ late->(T e).getD s undef=(T e').getD s undef:=λe e' s hs=>by
  rw[←hT,←hT,(gV _ _ _).2 s hs,(gV _ _ _).2 s hs]
 have hTs:∀e s,s∈late->(T e).getD s undef=e s:=by
  intro e s hs
  obtain⟨j,hj⟩:=List.mem_iff_getElem?.1 hs
  have h1:=congrArg (·[j]?) (DY e)
  simp only[List.getElem?_map,hj,Option.map_some,Option.some.injEq] at h1
  exact h1
 have Su:∀s,s∈vs++late->∃(j:Nat) (o:Oper),ops[j]?=some o/\o.dst=some s:=by
  intro s hs
  have h1:=List.all_eq_true.1 Sv s hs
  rw[Array.any_eq_true] at h1
  obtain⟨j,hj,h2⟩:=h1
  exact⟨j,ops[j],Array.getElem?_eq_getElem hj,by simpa using h2⟩
 have hbase:∀e s,(∀(j:Nat) (o:Oper),ops[j]?=some o->o.dst≠some s)->a.tmps.getD s undef=(T e).getD s undef:=by
  intro e s hs
  have hno:s ∉ vs++late:=λh=>by
   obtain⟨j,o,h1,h2⟩:=Su s h
   exact hs j o h1 h2
  rw[List.mem_append,not_or] at hno
  rw[←hT,(gV _ _ _).2 s hno.2,(ji us _).2 s (by rw[hus];exact hno.1)]
 have afs:∀(i:Nat) (o:Oper),ops[i]?=some o->oV o=true/\(∀d,o.dst=some d->d<n)/\∀(j:Nat) (o':Oper),ops[j]?=some o'->∀s,o'.dst=some s->(i=j∨o.dst≠some s)/\(s∈o.looksAt ops->if (rd.contains i&&DR.contains s)=true then kN ops j i=true else kN ops i j=true):=by
  intro i o ho
  have h1:=List.all_eq_true.1 htab (o,i) (gQ (by rw[Array.getElem?_toList];exact ho))
  simp only[Bool.and_eq_true] at h1
  obtain⟨⟨h2,h3⟩,h4⟩:=h1
  refine⟨h2,λd e=>by rw[e] at h3;simpa using h3,λj o' ho' s hs=>?_⟩
  have h5:=List.all_eq_true.1 h4 (o',j) (gQ (by rw[Array.getElem?_toList];exact ho'))
  simp only[hs,Bool.and_eq_true,Bool.or_eq_true,Bool.not_eq_true',beq_iff_eq,bne_iff_ne,ne_eq] at h5
  refine⟨h5.1,λhmem=>?_⟩
  have h6:=h5.2.resolve_left λhc=>by rw[List.contains_iff_mem.2 hmem] at hc;cases hc
  split
  ·rename_i hc
   rw[if_pos (by simpa using hc)] at h6
   exact h6
  ·rename_i hc
   rw[if_neg (by simpa using hc)] at h6
   exact h6
 have hbef:∀i j,kN ops i j=true->∃o,ops[i]?=some o/\∃e∈o.after,e.on=j/\Region.binds .any e=true:=by
  intro i j h
  unfold kN at h
  cases ho:ops[i]? with
  | none=>rw[ho] at h;cases h
  | some o =>
   rw[ho] at h
   simp only[Array.any_eq_true,Bool.and_eq_true,beq_iff_eq] at h
   obtain⟨k,hk,h1,h2⟩:=h
   exact⟨o,rfl,o.after[k],Array.getElem_mem hk,h1,h2⟩
 have yw:∀(cs:List Nat),chainB ops cs=true->∀(j c:Nat),cs[j]?=some c->∀(j' c':Nat),j<j'->cs[j']?=some c'->kN ops c' c=true:=by
  intro cs
  induction cs with
  | nil=>intro _ j c h;simp at h
  | cons c0 cs ih =>
   intro h j c hj j' c' hlt hj'
   simp only[chainB,Bool.and_eq_true] at h
   cases j with
   | zero =>
    simp at hj
    subst hj
    cases j' with
    | zero=>omega
    | succ j' =>
     simp at hj'
     exact List.all_eq_true.1 h.1.2 c' (List.mem_of_getElem? hj')
   | succ j =>
    cases j' with
    | zero=>omega
    | succ j'=>exact ih h.2 j c (by simpa using hj) j' c' (by omega) (by simpa using hj')
 have hcsz:∀(cs:List Nat),chainB ops cs=true->∀c∈cs,c<ops.size:=by
  intro cs
  induction cs with
  | nil=>intro _ c h;cases h
  | cons c0 cs ih =>
   intro h c hc
   simp only[chainB,Bool.and_eq_true,decide_eq_true_eq] at h
   rcases List.mem_cons.1 hc with rfl|hc
   ·exact h.1.1
   ·exact ih h.2 c hc
 refine jZ hm hok (λD act W=>act.defers=a.defers/\act.tmps.size=n/\(∀(m:Nat) (o:Oper),D m->ops[m]?=some o->∀e∈o.after,Region.binds .any e=true->D e.on)/\(∀s,(∀(j:Nat) (o:Oper),ops[j]?=some o->o.dst=some s->¬D j)->act.tmps.getD s undef=a.tmps.getD s undef)/\∃e:Nat->Value,(∀s,(∀(j:Nat) (o:Oper),ops[j]?=some o->o.dst=some s->D j)->act.tmps.getD s undef=(T e).getD s undef)/\(∀s,late.contains s=true->(∀(j:Nat) (o:Oper),ops[j]?=some o->o.dst=some s->D j)->p s W (e s)) /\
  ∃k,k<=cs.length/\(∀(j c:Nat),cs[j]?=some c->(D c↔j<k))/\S k e W) ?_ ?_ ?_
 ·refine⟨rfl,hn,λ_ _ h=>h.elim,λ_ _=>rfl,λ_=>undef,λs hs=>hbase _ s λj o ho e=>hs j o ho e,λs hl hs=>?_,0,Nat.zero_le _,λj c _=>⟨λh=>h.elim,λh=>absurd h (Nat.not_lt_zero _)⟩,h0⟩
  obtain⟨j,o,h1,h2⟩:=Su s (List.mem_append_right _ (List.contains_iff_mem.1 hl))
  exact(hs j o h1 h2).elim
 ·rintro i o ho D act W ⟨hdf,hsz',hcl,hold,e,PX,hlt,k,hk,yu,hS⟩ hnD hpre
  obtain⟨t1,t2,t3⟩:=afs i o ho
  have hst:ZZ ops cs i k=true:=by
   refine List.all_eq_true.2 ?_
   rintro ⟨c,j⟩ hmem
   rw[List.mem_iff_getElem?] at hmem
   obtain⟨j',hj'⟩:=hmem
   rw[List.getElem?_zipIdx] at hj'
   obtain⟨x,hx,e⟩:=Option.map_eq_some_iff.1 hj'
   simp only[Nat.zero_add,Prod.mk.injEq] at e
   obtain⟨rfl,rfl⟩:=e
   simp only[Bool.and_eq_true,Bool.or_eq_true,Bool.not_eq_true',decide_eq_true_eq,beq_iff_eq]
   constructor
   ·cases hb:kN ops i x with
    | false=>exact .inl rfl
    | true =>
     obtain⟨o',ho',e,he,h1,h2⟩:=hbef _ _ hb
     rw[ho] at ho'
     cases ho'
     exact .inr ((yu j' x hx).1 (h1▸hpre e he h2))
   ·by_cases hlt:k<=j'
    ·exact .inr hlt
    ·refine .inl ?_
     have afL:=(yu j' x hx).2 (by omega)
     cases hb:(x==i || kN ops x i) with
     | false=>rfl
     | true =>
      exfalso
      simp only[Bool.or_eq_true,beq_iff_eq] at hb
      rcases hb with rfl|hb
      ·exact hnD afL
      ·obtain⟨o',ho',e,he,h1,h2⟩:=hbef _ _ hb
       exact hnD (h1▸hcl x o' afL ho' e he h2)
  have hav:∀s,late.contains s=true->zg ops i s=true->p s W (e s):=by
   intro s hl hs
   refine hlt s hl λj o' ho' e'=>?_
   have h1:=List.all_eq_true.1 hs (o',j) (gQ (by rw[Array.getElem?_toList];exact ho'))
   simp only[e',bne_self_eq_false,Bool.false_or] at h1
   obtain⟨o'',FU,e,he,h1,h2⟩:=hbef _ _ h1
   rw[ho] at FU
   cases FU
   exact h1▸hpre e he h2
  have JN:=hstep i o ho k hk hst e W hS hav
  refine wpOp_mono ?_ (Ns (a:=act) ho t1 (λd e'=>by show d<(if rd.contains i then TO e else T e).size;split<;>(first|rw[(afE e).1]|rw[hsz])<;>exact t2 d e') (by show _=(if rd.contains i then TO e else T e).size;split<;>(first|rw[(afE e).1]|rw[hsz])<;>exact hsz') (λs hs=>?_) JN)
  ·rintro a' W' ⟨⟨v,rfl,hv,hS'⟩,hR⟩
   have hU:∀s,o.dst=some s->late.contains s=true->iL late o.dst v e s=v:=λs h1 h2=>by rw[h1];unfold iL;simp only[h2,if_true]
   have afr:∀s,o.dst≠some s->iL late o.dst v e s=e s:=λs h1=>by
    unfold iL
    cases hd:o.dst with
    | none=>rfl
    | some d =>
     simp only
     split
     ·show (if s=d then v else e s)=e s
      rw[if_neg λh=>h1 (by rw[hd,h])]
     ·rfl
   refine⟨by rw[iJ,hdf],by rw[EU,hsz'],?_,λs hs=>?_,iL late o.dst v e,λs hs=>?_,λs hl hs=>?_,if cs.contains i then k+1 else k,?_,?_,hS'⟩
   rotate_left
   ·have hds:o.dst≠some s:=λe'=>hs i o ho e' (.inl rfl)
    rw[oU hds]
    exact hold s λj o' ho' e' hD=>hs j o' ho' e' (.inr hD)
   ·by_cases hds:o.dst=some s
    ·have hput:(act.put o.dst v).tmps.getD s undef=v:=by rw[hds];exact mH (by rw[hsz'];exact t2 s hds)
     rw[hput]
     have h1:=hv s hds
     by_cases hl:late.contains s=true
     ·rw[hTs _ s (List.contains_iff_mem.1 hl),hU s hds hl]
     ·rw[if_neg hl] at h1
      rw[h1]
      exact aft _ _ s λh=>hl (List.contains_iff_mem.2 h)
    ·rw[oU hds]
     have h1:=PX s λj o' ho' e'=>(hs j o' ho' e').resolve_left (by
      rintro rfl
      rw[ho] at ho'
      cases ho'
      exact hds e')
     rw[h1]
     by_cases hl:s∈late
     ·rw[hTs _ s hl,hTs _ s hl,afr s hds]
     ·exact aft _ _ s hl
   ·by_cases hds:o.dst=some s
    ·rw[hU s hds hl]
     have h1:=hv s hds
     rw[if_pos hl] at h1
     exact h1
    ·rw[afr s hds]
     refine hp s W W' _ hR (hlt s hl λj o' ho' e'=>(hs j o' ho' e').resolve_left ?_)
     rintro rfl
     rw[ho] at ho'
     cases ho'
     exact hds e'
   rotate_right
   ·rintro m o' (rfl|Ke) ho' e he hb
    ·rw[ho] at ho'
     cases ho'
     exact .inr (hpre e he hb)
    ·exact .inr (hcl m o' Ke ho' e he hb)
   ·split
    ·rename_i hc
     have hmem:=List.contains_iff_mem.1 hc
     obtain⟨j,hj⟩:=List.mem_iff_getElem?.1 hmem
     have h1:¬j<k:=λh=>hnD ((yu j i hj).2 h)
     have h2:=(List.getElem?_eq_some_iff.1 hj).1
     omega
    ·exact hk
   ·intro j c hj
    by_cases hc:cs.contains i=true
    ·have hmem:=List.contains_iff_mem.1 hc
     obtain⟨j0,hj0⟩:=List.mem_iff_getElem?.1 hmem
     rw[if_pos hc]
     have hlo:k<=j0:=Nat.le_of_not_lt λh=>hnD ((yu j0 i hj0).2 h)
     have hhi:j0<=k:=by
      refine Nat.le_of_not_lt λh=>?_
      have hk':k<cs.length:=Nat.lt_trans h (List.getElem?_eq_some_iff.1 hj0).1
      have hb:=yw cs hch k cs[k] (List.getElem?_eq_getElem hk') j0 i h hj0
      obtain⟨o',ho',e,he,h1,h2⟩:=hbef _ _ hb
      rw[ho] at ho'
      cases ho'
      exact absurd ((yu k _ (List.getElem?_eq_getElem hk')).1 (h1▸hpre e he h2)) (Nat.lt_irrefl _)
     obtain rfl:j0=k:=Nat.le_antisymm hhi hlo
     constructor
     ·rintro (rfl|h)
      ·refine Nat.lt_succ_of_le (Nat.le_of_not_lt λh=>?_)
       have hb:=yw cs hch j0 c hj0 j c h hj
       obtain⟨o',ho',e,he,h1,h2⟩:=hbef _ _ hb
       rw[ho] at ho'
       cases ho'
       exact hnD (h1▸hpre e he h2)
      ·exact Nat.lt_succ_of_lt ((yu j c hj).1 h)
     ·intro h
      rcases Nat.lt_succ_iff_lt_or_eq.1 h with h|rfl
      ·exact .inr ((yu j c hj).2 h)
      ·rw[hj0] at hj
       cases hj
       exact .inl rfl
    ·rw[if_neg hc]
     constructor
     ·rintro (rfl|h)
      ·exact absurd (List.contains_iff_mem.2 (List.mem_of_getElem? hj)) hc
      ·exact(yu j c hj).1 h
     ·exact λh=>.inr ((yu j c hj).2 h)
  ·show act.tmps.getD s undef=(if rd.contains i then TO e else T e).getD s undef
   by_cases hw:∃(j:Nat) (o':Oper),ops[j]?=some o'/\o'.dst=some s
   ·obtain⟨j,o',ho',e'⟩:=hw
    have hb:=(t3 j o' ho' s e').2 hs
    have huq:∀(j':Nat) (o'':Oper),ops[j']?=some o''->o''.dst=some s->j'=j:=λj' o'' h1 h2=>((afs j' o'' h1).2.2 j o' ho' s e').1.resolve_right λh=>h h2
    by_cases hc:(rd.contains i&&DR.contains s)=true
    ·rw[if_pos hc] at hb
     have hc':rd.contains i=true/\DR.contains s=true:=by simpa using hc
     rw[if_pos hc'.1,←hTO,hOv DR (T e) (hsz e) s (List.contains_iff_mem.1 hc'.2) ((afs j o' ho').2.1 s e')]
     refine hold s λj' o'' h1 h2 hD=>?_
     obtain rfl:=huq j' o'' h1 h2
     obtain⟨q,hq,ed,he,h3,h4⟩:=hbef _ _ hb
     exact hnD (h3▸hcl j' q hD hq ed he h4)
    ·rw[if_neg hc] at hb
     have hT:act.tmps.getD s undef=(T e).getD s undef:=PX s λj' o'' h1 h2=>by
      obtain rfl:=huq j' o'' h1 h2
      obtain⟨q,hq,ed,he,h3,h4⟩:=hbef _ _ hb
      rw[ho] at hq
      cases hq
      exact h3▸hpre ed he h4
     rw[hT]
     split
     ·rename_i hr
      refine((afE e).2 s λhm=>hc ?_).symm
      rw[hr,List.contains_iff_mem.2 hm]
      rfl
     ·rfl
   ·have hno:∀(j:Nat) (o':Oper),ops[j]?=some o'->o'.dst≠some s:=λj o' h1 h2=>hw ⟨j,o',h1,h2⟩
    have hT:act.tmps.getD s undef=(T e).getD s undef:=PX s λj' o'' h1 h2=>absurd h2 (hno j' o'' h1)
    rw[hT]
    split
    ·by_cases hm:s∈DR
     ·have hA:act.tmps.getD s undef=a.tmps.getD s undef:=hold s λj' o'' h1 h2=>absurd h2 (hno j' o'' h1)
      by_cases hsn:s<n
      ·rw[←hTO,hOv DR (T e) (hsz e) s hm hsn,←hT,hA]
      ·rw[Array.getD_eq_getD_getElem?,Array.getD_eq_getD_getElem?,Array.getElem?_eq_none (show (T e).size<=s by rw[hsz];exact Nat.le_of_not_lt hsn),Array.getElem?_eq_none (show (TO e).size<=s by rw[(afE e).1];exact Nat.le_of_not_lt hsn)]
     ·exact((afE e).2 s hm).symm
    ·rfl
 ·rintro D act W ⟨hdf,hsz',hcl,hold,e,PX,hlt,k,hk,yu,hS⟩ hall
  have hk':k=cs.length:=by
   refine Nat.le_antisymm hk (Nat.le_of_not_lt λh=>?_)
   have hc:=List.getElem?_eq_getElem h
   exact absurd ((yu k _ hc).1 (hall _ (hcsz cs hch _ (List.getElem_mem h)))) (Nat.lt_irrefl _)
  subst hk'
  have ee:act={ tmps:=T e,defers:=a.defers }:=by
   obtain⟨t,df⟩:=act
   simp only at hdf hsz' PX
   subst hdf
   congr 1
   apply Array.ext (by rw[hsz',hsz])
   intro s h1 h2
   have h3:=PX s λj o ho _=>hall j (Array.getElem?_eq_some_iff.1 ho).1
   rw[Array.getD_eq_getD_getElem?,Array.getD_eq_getD_getElem?,Array.getElem?_eq_getElem h1,Array.getElem?_eq_getElem h2] at h3
   exact h3
  rw[ee]
  exact hend e W hS λs hl=>hlt s hl λj o ho _=>hall j (Array.getElem?_eq_some_iff.1 ho).1
end
def RT (t0:TypeId)(W W':World):Prop:=∀g t cs,aA W g t cs->(t≠t0->aA W' g t cs)/\∃cs',cs'.size=cs.size/\aA W' g t cs'
theorem RT.refl (t0:TypeId)(W:World):RT t0 W W:=λg t cs h=>⟨λ_=>h,cs,rfl,h⟩
theorem RT.below {t0:TypeId}{W W':World}(hb:Below W.heap.size W W'):RT t0 W W':=λg t cs h=>⟨λ_=>h.below' hb,cs,rfl,h.below' hb⟩
theorem RT.row {t0:TypeId}{W:World}{g:Nat}{old cs:Array Value}(h:aA W g t0 old)(hs:cs.size=old.size):RT t0 W (W.setRow g cs):=λg' t c h'=>by
 by_cases hg:g'=g
 ·subst hg
  unfold aA at h h'
  rw[h'] at h
  simp only[Option.some.injEq,Obj.cells.injEq,and_true] at h
  obtain⟨rfl,rfl⟩:=h
  exact⟨λhn=>absurd rfl hn,cs,hs,aA.row h' cs⟩
 ·exact⟨λ_=>h'.aM hg _,c,rfl,h'.aM hg _⟩
def NP (B:Nat)(T:TypeId)(n:Nat)(W:World)(v:Value):Prop:=∃g cs,v=.pointer (some ⟨g,0,none⟩)/\B<=g/\cs.size=n/\aA W g T cs
theorem NP.rt {B n:Nat}{T t0:TypeId}{W W':World}{v:Value}(h:NP B T n W v)(hR:RT t0 W W'):NP B T n W' v:=by
 obtain⟨g,cs,rfl,hg,hs,hb⟩:=h
 obtain⟨-,cs',hs',hb'⟩:=hR g T cs hb
 exact⟨g,cs',rfl,hg,hs'.trans hs,hb'⟩
theorem NP.new {B n:Nat}{T:TypeId}{k:IntKind}{W:World}(hB:B<=W.heap.size):NP B T n (W.alloc (.cells (ints k (zeros n)) T)) (.pointer (some ⟨W.heap.size,0,none⟩)):=⟨_,_,rfl,hB,ah k n,aA.new _ _ _⟩
def NS (B:Nat)(T:TypeId)(n:Nat)(cs:Array Value)(W:World)(v:Value):Prop:=∃g,v=.slice (some ⟨g,0,none⟩) n n/\B<=g/\aA W g T cs
theorem NS.below {B n:Nat}{T:TypeId}{cs:Array Value}{W W':World}{v:Value}(h:NS B T n cs W v)(hb:Below W.heap.size W W'):NS B T n cs W' v:=by
 obtain⟨g,h1,h2,h3⟩:=h
 exact⟨g,h1,h2,h3.below' hb⟩
section
variable {P:Program}{ops:Array Oper}{o:Oper}{a:Act}{w:World}{Q:Exit->Act->World->Prop}{K:Act->World->Prop}{i:Nat}
theorem fV {Pv:Value->World->Prop}(f:FuncId){fn:Func}{xs:Array Operand}{ats:Array TypeId}(hi:ops[i]?=some o)(hw:Region.wanted o (yielded ops a.tmps)=true)(ho:o.op=.call { callee:=.value (.func f),args:=xs,argTypes:=ats })
  (hf:P.funcs[f]?=some fn) (hn:(fn.name== "runtime.NumGoroutine")=false) (hb:fn.body.isNone=false)
  (hc:Calls P f (xs.toList.map a.eval).toArray w λe w'=>∃v,e=.returned v/\Pv v w') (h:∀v w',Pv v w'->K (a.put o.dst v) w'):wpOp P ops Q i K a w:=by
 have he:execOp a.eval o=callFunc f (#[]++xs.map a.eval++#[]):=by
  obtain⟨dst,op,type,pos,after,guard⟩:=o
  subst ho
  rfl
 unfold wpOp
 simp only[hi,hw,if_true,Oper.wp,he,enters hf hn hb,Oper.upon]
 have e2:#[]++xs.map a.eval++#[]=(xs.toList.map a.eval).toArray:=by cases xs;simp
 rw[e2]
 exact .inl (hc.mono λe w' ⟨v,h1,h2⟩=>by subst h1;exact h v w' h2)
theorem eD {x:Operand}{j:Nat}{vs:Array Value}{v:Value}(ho:o.op=.extract x j)(hx:a.eval x=.tuple vs)(hv:vs[j]?=some v):(execOp a.eval o).run P w=.ok (.value v) w:=by
 unfold execOp
 simp only[ho,hx,Instr.extract,hv]
 rfl
end
def RS (t0:TypeId)(n:Nat)(W W':World):Prop:=∀g t cs,aA W g t cs->(¬(t=t0/\cs.size=n)->aA W' g t cs)/\∃cs',cs'.size=cs.size/\aA W' g t cs'
theorem RS.refl (t0:TypeId)(n:Nat)(W:World):RS t0 n W W:=λg t cs h=>⟨λ_=>h,cs,rfl,h⟩
theorem RS.below {t0:TypeId}{n:Nat}{W W':World}(hb:Below W.heap.size W W'):RS t0 n W W':=λg t cs h=>⟨λ_=>h.below' hb,cs,rfl,h.below' hb⟩
theorem RS.row {t0:TypeId}{n:Nat}{W:World}{g:Nat}{old cs:Array Value}(h:aA W g t0 old)(hn:old.size=n)(hs:cs.size=old.size):RS t0 n W (W.setRow g cs):=λg' t c h'=>by
 by_cases hg:g'=g
 ·subst hg
  unfold aA at h h'
  rw[h'] at h
  simp only[Option.some.injEq,Obj.cells.injEq,and_true] at h
  obtain⟨rfl,rfl⟩:=h
  exact⟨λhne=>absurd ⟨rfl,hn⟩ hne,cs,hs,aA.row h' cs⟩
 ·exact⟨λ_=>h'.aM hg _,c,rfl,h'.aM hg _⟩
theorem NP.rs {B n m:Nat}{T t0:TypeId}{W W':World}{v:Value}(h:NP B T n W v)(hR:RS t0 m W W'):NP B T n W' v:=by
 obtain⟨g,cs,rfl,hg,hs,hb⟩:=h
 obtain⟨-,cs',hs',hb'⟩:=hR g T cs hb
 exact⟨g,cs',rfl,hg,hs'.trans hs,hb'⟩
theorem NS.rs {B n m:Nat}{T t0:TypeId}{cs:Array Value}{W W':World}{v:Value}(h:NS B T n cs W v)(hR:RS t0 m W W')(hne:¬(T=t0/\cs.size=m)):NS B T n cs W' v:=by
 obtain⟨g,h1,h2,h3⟩:=h
 exact⟨g,h1,h2,(hR g T cs h3).1 hne⟩
theorem dQ (w:World):Below w.heap.size w w.drew:=⟨rfl,rfl,rfl,Nat.le_refl _,λ_ _=>rfl⟩
def uN (w0:World)(g T:Nat)(cs:Array Value)(k:Nat)(e:Nat->Value)(W:World):Prop:=(k=0->Below w0.heap.size w0 W)/\(0<k->aA W g T cs/\Ch g w0 W)
section
variable {w0 W:World}{g T:Nat}{cs:Array Value}{e:Nat->Value}
theorem uN.start (w0:World)(g T:Nat)(cs:Array Value)(e:Nat->Value):uN w0 g T cs 0 e w0.drew:=⟨λ_=>dQ _,λh=>absurd h (Nat.lt_irrefl _)⟩
theorem uN.lN (k:Nat)(e:Nat->Value)(W W':World)(h:uN w0 g T cs k e W)(hb:Below W.heap.size W W'):uN w0 g T cs k e W' :=
 ⟨λhk=>dx (h.1 hk) hb (h.1 hk).size,λhk=>⟨(h.2 hk).1.below' hb,(h.2 hk).2.trans (Ch.of_below hb)⟩⟩
theorem uN.z (h:uN w0 g T cs 0 e W):Below w0.heap.size w0 W:=h.1 rfl
theorem uN.mk (h:uN w0 g T cs 0 e W){W':World}(hB:aA W' g T cs)(hF:iG g W W'):uN w0 g T cs 1 e W':=⟨λh=>absurd h (by decide),λ_=>⟨hB,(Ch.of_below h.z).trans (Ch.bX hF)⟩⟩
theorem uN.done (h:uN w0 g T cs 1 e W):aA W g T cs/\Ch g w0 W:=h.2 (by decide)
end
end
end Go.Proofs.YtaiffkajkbiidaaGreatDoor
