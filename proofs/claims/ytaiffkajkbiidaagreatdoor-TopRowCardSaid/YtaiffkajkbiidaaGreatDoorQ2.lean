/- What this claim leans on, part 2: laws of the model, and what functions of the program compute. No condition but what each law states. -/
import Derived.BigRegion
import Derived.Deep.Matrix
import Derived.Deep.Slices
import Derived.Maps.AppendAt
import Derived.StillTail
import Derived.Test.YtaiffkajkbiidaaGreatDoorQ1
namespace Go.Proofs.YtaiffkajkbiidaaGreatDoor
set_option linter.unusedSimpArgs false
set_option linter.unusedVariables false
set_option linter.unusedSectionVars false
set_option maxRecDepth 100000
set_option maxHeartbeats 40000000
open Go.Proofs.Tryz
open Tryz
section
open Go.RowKit Go.ChangeShapes Go.WideShapes Go.ChangeAt Go.Deep
section
variable {w w':World}{a:Option Addr}{k:IntKind}{n:Nat}{fu:List (List Nat)}
end
section
variable {H:Type}{enc:TypeId×Value->H}{P:Program}{W:World}{base:Nat}{sp:Nat->Bool}{hd:Bool}{k:IntKind}
theorem EK {A:Option Addr}{L C:Nat}{Z:List Int}(hk:k.signed=false)(hLC:L<=C)(hZ:Z.length=C)(hw:∀n∈Z,(Lit.int k n).wf=true)(hA:A=none->C=0)
  (hc:∀a',A=some a'->∀c,c<C->W.cell? (a'.add c)=some (.int k (Z.getD c 0))):∃xs:List Nat,xs.length=L/\Sl W A k xs/\∀x∈xs,x<2^k.bits:=by
 have each:∀i,i<Z.length->∃y:Nat,Z.getD i 0=y/\y<2^k.bits:=λi hi=>qw hk (hw _ (by rw[List.getD_eq_getElem?_getD,List.getElem?_eq_getElem hi];exact List.getElem_mem hi))
 have hxl:((Z.take L).map Int.toNat).length=L:=by simp;omega
 refine⟨(Z.take L).map Int.toNat,hxl,λhne=>?_,λy hy=>?_⟩
 ·have hpos:0<L:=by
   refine Nat.pos_of_ne_zero λh0=>hne ?_
   apply List.length_eq_zero_iff.1;rw[hxl,h0]
  cases A with
  | none=>have:=hA rfl;omega
  | some x =>
   have hcell:=hc x rfl
   have hc0:=hcell 0 (by omega)
   have hsp:x.spot=none:=by
    have h1:x.add 0=x:=by simp[Addr.add]
    rw[h1] at hc0
    cases hs:x.spot with
    | none=>rfl
    | some s=>exfalso;unfold World.cell? at hc0;split at hc0<;>simp[hs] at hc0
   obtain⟨g,off,s⟩:=x
   obtain rfl:s=none:=hsp
   refine⟨g,off,rfl,?_,λi hi=>?_⟩
   ·have:=World.block_lt_of_cell? _ _ hc0
    rw[Addr.add_mid] at this;exact this
   ·rw[hxl] at hi
    obtain⟨y,hy,-⟩:=each i (by omega)
    have e:((Z.take L).map Int.toNat).getD i 0=(Z.getD i 0).toNat:=by
     simp[List.getD_eq_getElem?_getD,List.getElem?_map,List.getElem?_take,hi,List.getElem?_eq_getElem (show i<Z.length by omega)]
    rw[←Addr.add_mid,hcell i (by omega),e,hy];simp
 ·obtain⟨z,hz1,rfl⟩:=List.mem_map.1 hy
  obtain⟨y,rfl,hy2⟩:=qw hk (hw z (List.mem_of_mem_take hz1))
  simpa using hy2
theorem xH {t e fuel:Nat}{cs:List Value}{x:DataW H×List MemPlace}(ht:P.underlying t=some (.slice e))(he:P.underlying e=some (.int k))(hce:P.cellsOf e=1)(hk:k.signed=false)
  (hf:DataW.trod enc P W base (λ_=>true) hd fuel t cs=some x):∃(a:Option Addr) (c:Nat) (xs:List Nat),cs=[.slice a xs.length c]/\Sl W a k xs/\xs.length<=c/\c<=maxLen/\(∀x∈xs,x<2^k.bits)/\(a=none->c=0):=by
 rcases open_ints ht he hce hf with ⟨rfl,_⟩|⟨x,l,c,zs,rfl,_,hl,hm,hz,hx,hcell,hwz⟩
 ·exact⟨none,0,[],rfl,Sl.nil _ _ _,Nat.le_refl _,by simp[maxLen],by simp,λ_=>rfl⟩
 ·have hzc:zs.length=c:=by simpa using hz
  obtain⟨xs,h1,h2,h3⟩:=EK (W:=W) (A:=some x) (L:=l) (C:=c) (Z:=zs) hk hl hzc hwz (λh=>by cases h) (λa' ha i hi=>by cases ha;exact hcell i (by omega))
  exact⟨some x,c,xs,by rw[h1],h2,by omega,hm,h3,λh=>by cases h⟩
end
end
section
open Go.RowKit
section
variable {P:Program}{o:Oper}{a:Act}{w:World}
theorem xJ {S T e c:Nat}{x:Operand}{ad:Option Addr}{xs:List Nat}(hS:P.underlying S=some (.slice e))(he:P.underlying e=some (.int .u8))(hT:P.underlying T=some .string)(ho:o.op=.convert S T x)(hx:a.eval x=.slice ad xs.length c)(h:Sl w ad .u8 xs) :
  (execOp a.eval o).run P w=.ok (.value (.string (NJ xs))) w:=by
 unfold execOp
 simp only[ho,hx,Sem.run_bind,Sem.run_pure,Result.andThen_ok,VT hS he hT rfl h]
theorem NT {T T':TypeId}{x y:Operand}{s t:ByteArray}{b:Bool}(ho:o.op=.binOp .eql T x y T')(hx:a.eval x=.string s)(hy:a.eval y=.string t)(hb:(s.toList==t.toList)=b) :
  (execOp a.eval o).run P w=.ok (.value (.bool b)) w:=by
 have hg:(eqGuard .eql T x y (.string s) (.string t)).run P w=.ok () w:=by simp[eqGuard,Sem.run_bind]
 unfold execOp
 simp only[ho,hx,hy,Sem.run_bind,Sem.run_pure,Result.andThen_ok,hg,EO,hb]
end
end
section
open Go.RowKit
section
variable {w w':World}{B e:Nat}{k:IntKind}{v v1 u:Value}{xs:List Nat}
theorem vU {B:Nat}{g o:Nat}{cs:List Value}(hb:Below B w w')(hg:g<B)(h:w.rangeAt g o cs):w'.rangeAt g o cs:=λj v hv=>(hb.cell (p:=⟨g,_,none⟩) hg).trans (h j v hv)
end
variable {P:Program}
section
variable {o:Oper}{a:Act}{w:World}
theorem jU {T e i n c g off s:Nat}{x y:Operand}(ho:o.op=.indexAddr T x y)(hx:a.eval x=.slice (some ⟨g,off,none⟩) n c)(hy:a.eval y=.int .i64 (i:Int))(hi:i<n)(hT:P.underlying T=some (.slice e))(hs:(P.info? e).map (·.size)=some s) :
  (execOp a.eval o).run P w=.ok (.value (.pointer (some ⟨g,off+i*s,none⟩))) w:=by
 obtain⟨t,ht,rfl⟩:=Option.map_eq_some_iff.1 hs
 have hb:(0:Int)<=(i:Int)/\(i:Int)<(n:Int):=by omega
 unfold execOp
 simp only[ho,hx,hy,Instr.indexAt,asIntOf,Sem.run_bind,Sem.run_pure,Result.andThen_ok,run_underlying hT]
 simp[hb,hi,sizeOf,typeInfo,ht,Addr.add_mid,go_sem]
theorem ku {T e j len g off s:Nat}{x:Operand}(ho:o.op=.indexAddr T x (.const (.int .i64 (j:Int))))(hx:a.eval x=.pointer (some ⟨g,off,none⟩))(hj:j<len)(hT:P.underlying T=some (.array len e))(hs:(P.info? e).map (·.size)=some s) :
  (execOp a.eval o).run P w=.ok (.value (.pointer (some ⟨g,off+j*s,none⟩))) w:=by
 obtain⟨t,ht,rfl⟩:=Option.map_eq_some_iff.1 hs
 have hb:(0:Int)<=(j:Int)/\(j:Int)<(len:Int):=by omega
 have hc:a.eval (.const (.int .i64 (j:Int)))=.int .i64 (j:Int):=rfl
 unfold execOp
 simp only[ho,hx,hc,Instr.indexAt,Instr.sureAddr,asIntOf,Sem.run_bind,Sem.run_pure,Result.andThen_ok,run_underlying hT]
 simp[hb,hj,sizeOf,typeInfo,ht,Addr.add_mid,go_sem]
theorem dB {T g off n:Nat}{x:Operand}{k:IntKind}{xs:List Nat}(ho:o.op=.load T x)(hx:a.eval x=.pointer (some ⟨g,off,none⟩))(hc:w.rangeAt g off (vals k xs))(ha:dG P T n)(hl:xs.length=n) :
  (execOp a.eval o).run P w=.ok (.value (.agg (ints k xs))) w:=by
 obtain⟨⟨d,h1,hd⟩,h2⟩:=ha
 unfold execOp
 simp only[ho,hx,Instr.loadAt,Instr.sureAddr,Sem.run_bind,Sem.run_pure,Result.andThen_ok,run_loadVar_mid w g off _ _ d hc h1 hd (by rw[h2,bg,hl])]
 rfl
end
end
section
open Go.RowKit
theorem TT {fu:List (List Nat)}(h:∀xs∈fu,xs.length=16):fu.flatten.length=16*fu.length:=by
 induction fu with
 | nil=>rfl
 | cons x fu ih =>
  rw[List.flatten_cons,List.length_append,ih (λy hy=>h y (List.mem_cons_of_mem _ hy)),h x (List.mem_cons_self),List.length_cons];omega
theorem Uz {fu:List (List Nat)}(h:∀xs∈fu,xs.length=16):∀i,i<fu.length->blk fu.flatten i=fu.getD i []:=by
 induction fu with
 | nil=>intro i hi;simp at hi
 | cons x fu ih =>
  intro i hi
  have hx:=h x (List.mem_cons_self)
  rw[List.flatten_cons]
  cases i with
  | zero =>
   rw[uI (by omega)]
   unfold blk
   rw[Nat.mul_zero,List.drop_zero,List.take_of_length_le (by omega)];rfl
  | succ i =>
   have:=DF (a:=x) (b:=fu.flatten) (k:=1) (by omega) i
   rw[show i+1=1+i by omega,this,ih (λy hy=>h y (List.mem_cons_of_mem _ hy)) i (by simpa using hi)]
   rw[show 1+i=i+1 by omega];rfl
theorem bQ {fu:List (List Nat)}{p:List Nat->Prop}(h:∀xs∈fu,p xs){i:Nat}(hi:i<fu.length):p (fu.getD i []):=by
 rw[List.getD_eq_getElem?_getD,List.getElem?_eq_getElem hi]
 exact h _ (List.getElem_mem hi)
end
section
open Go.RowKit
section
variable {P:Program}{ops:Array Oper}{rest:List Oper}{o:Oper}{a:Act}{w:World}{Q:Exit->Act->World->Prop}
theorem aZ {v:Value}(hw:Region.wanted o (yielded ops a.tmps)=true)(hr:(execOp a.eval o).run P w=.ok (.value v) w)(h:wpList P ops Q rest (a.put o.dst v) w):wpList P ops Q (o::rest) a w :=
 wpList_step λK hK=>by
  rw[if_pos hw]
  unfold Oper.wp
  rw[hr]
  exact hK _ _ h
end
section
variable {P:Program}
theorem gF {ops:Array Oper}{o:Oper}{a:Act}{w:World}{Q:Exit->Act->World->Prop}{K:Act->World->Prop}{i B e t m c bytes:Nat}{k:IntKind}{z:Value}{v:Value}{ad:Option Addr}{xs zs:List Nat}{s x:Operand}(hi:ops[i]?=some o)(hw:Region.wanted o (yielded ops a.tmps)=true)
  (ho:o.op=.call { callee:=.builtin .append,args:=#[s,x],argTypes:=#[t,t] }) (ht:P.underlying t=some (.slice e)) (Da:(P.info? e).map (λi=>(i.zero,i.size,i.bytes))=some (some z,1,bytes)) (hz:z.cells.size=1) (hby:bytes<=64)
  (hs:a.eval s=v) (hown:Own w B e k v xs) (hx:a.eval x=.slice ad m c) (hm:m=zs.length) (hn:ad=none->c=0) (hsl:Sl w ad k zs) (hl:xs.length+zs.length<2^40) (hB:B<=w.heap.size)
  (h:∀v' w',Own w' B e k v' (xs++zs)->w.grownBy w' v.ownBlock->K (a.put o.dst v') w'):wpOp P ops Q i K a w:=by
 obtain⟨f,hf,hz0,hz1,hz2⟩:=info_parts Da
 subst hm
 cases ad with
 | none =>
  obtain rfl:=hn rfl
  have hz0':zs=[]:=Classical.byContradiction λhne=>by obtain⟨_,_,q,-⟩:=hsl hne;cases q
  subst hz0'
  have hrun:=run_append_owned_none (P:=P) w B t o.type e f 1 ht hf v xs.length _ hown
  refine wpOp_step (v:=v) (w':=w) hi hw ?_ (h v w (by rw[List.append_nil];exact hown) ⟨rfl,rfl,rfl,Nat.le_refl _,λ_ _ _=>rfl⟩)
  unfold execOp
  simp only[ho,resolve,invoke,builtin,Sem.run_bind,Sem.run_pure,Result.andThen_ok,List.map_toArray,List.map_cons,List.map_nil,hs,hx,List.length_nil,hrun]
 | some ad =>
  have hnews:∀j u,(zs.map λn:Nat=>Value.int k n)[j]?=some u->w.cell? (ad.add j)=some u:=by
   intro j u hj
   rw[List.getElem?_map] at hj
   obtain⟨y,hy,rfl⟩:=Option.map_eq_some_iff.1 hj
   obtain⟨hjl,-⟩:=List.getElem?_eq_some_iff.1 hy
   obtain⟨g,off,q1,q2,q3⟩:=hsl (by rintro rfl;simp at hjl)
   injection q1 with q1
   subst q1
   rw[Addr.add_mid,q3 j hjl,List.getD_eq_getElem?_getD,hy];rfl
  have hbb:(xs.length+zs.length)*bytes<=140737488355328:=calc (xs.length+zs.length)*bytes<=2^40*64:=Nat.mul_le_mul (by omega) hby
    _<=_:=by omega
  obtain⟨v',w',hr,h2,h3,-,-⟩:=run_append_own_at (P:=P) w B t o.type e f z 1 bytes ht hf hz0 hz1 hz2 hz (by omega) v xs.length _ hown ad zs.length c (zs.map λn:Nat=>Value.int k n) (by simp) hnews (by simp[Value.oneCell']) (by simp[maxLen];omega) hbb hB
  refine wpOp_step (v:=v') (w':=w') hi hw ?_ (h v' w' (by unfold Own;rw[List.length_append,List.map_append];exact h2) h3)
  unfold execOp
  simp only[ho,resolve,invoke,builtin,Sem.run_bind,Sem.run_pure,Result.andThen_ok,List.map_toArray,List.map_cons,List.map_nil,hs,hx,hr]
end
theorem Tryz.nY:(prog.info? 5).map (λi=>(i.zero,i.size,i.bytes))=some (some (.int .u8 0),1,1):=by kernel_rfl
theorem LC {w:World}{B e g t:Nat}{k:IntKind}{v:Value}{xs:List Nat}{cs:Array Value}(h:Own w B e k v xs)(hb:aA w g t cs)(hne:t≠e):v.ownBlock≠some g:=λhv=>by
 obtain⟨-,h2⟩:=h
 rcases h2 with ⟨rfl,-⟩|⟨g',cap,cur,rfl,q2,q3,-⟩
 ·cases hv
 ·have:g'=g:=Option.some.inj hv
  subst this
  unfold aA at hb
  rw[hb] at q3
  injection q3 with q3
  injection q3 with _ q3
  exact hne q3
theorem Own.ch {w w':World}{B e g t:Nat}{k:IntKind}{v:Value}{xs:List Nat}{cs:Array Value}(h:Own w B e k v xs)(hc:Ch g w w')(hb:aA w g t cs)(hne:t≠e):Own w' B e k v xs:=by
 have hn:=LC h hb hne
 obtain⟨h1,h2⟩:=h
 refine⟨h1,?_⟩
 rcases h2 with h2|⟨g',cap,cur,rfl,q2,q3,q4⟩
 ·exact .inl h2
 ·refine .inr ⟨g',cap,cur,rfl,q2,?_,q4⟩
  rw[hc.heap g' (Array.getElem?_eq_some_iff.1 q3).1 (λe1=>hn (by rw[e1];rfl))]
  exact q3
theorem aA.jO {w w':World}{B e g t:Nat}{k:IntKind}{v:Value}{xs:List Nat}{cs:Array Value}(hb:aA w g t cs)(hgr:w.grownBy w' v.ownBlock)(h:Own w B e k v xs)(hne:t≠e):aA w' g t cs :=
 hb.grown hgr (λe1=>LC h hb hne e1.symm)
theorem Own.lt_ {w:World}{B e:Nat}{k:IntKind}{v:Value}{xs:List Nat}(h:Own w B e k v xs):∀g,v.ownBlock=some g->g<w.heap.size:=λg hg=>(World.ownsRow.lt h g hg).2
theorem Own.afX {w:World}{B e:Nat}{k:IntKind}{v:Value}{xs:List Nat}(h:Own w B e k v xs):∀g,v.ownBlock=some g->B<=g:=λg hg=>(World.ownsRow.lt h g hg).1
theorem Sl.sliced {w:World}{a:Option Addr}{k:IntKind}{xs:List Nat}(h:Sl w a k xs){c n:Nat}(hc:xs.length<=c):Sl w (if c=n then a else a.map (·.add (n*1))) k (xs.drop n):=λhn=>by
 have hlt:n<xs.length:=by
  rcases Nat.lt_or_ge n xs.length with h1|h1
  ·exact h1
  ·exact absurd (List.drop_eq_nil_of_le h1) hn
 obtain⟨g,off,rfl,h2,h3⟩:=h (by rintro rfl;simp at hlt)
 rw[if_neg (by omega),Option.map_some,Nat.mul_one,Addr.add_mid]
 refine⟨g,off+n,rfl,h2,λi hi=>?_⟩
 rw[List.length_drop] at hi
 rw[Nat.add_assoc,h3 (n+i) (by omega)]
 congr 3
 rw[List.getD_eq_getElem?_getD,List.getD_eq_getElem?_getD,List.getElem?_drop]
section
variable {P:Program}{ops:Array Oper}{rest:List Oper}{o:Oper}{a:Act}{w:World}{Q:Exit->Act->World->Prop}
theorem iD {T e n N c:Nat}{x y:Operand}{ad:Option Addr}(hgd:o.guard=none)(ho:o.op=.slice T x (some y) none none)(hT:P.underlying T=some (.slice e))(hs:(P.info? e).map (·.size)=some 1)
  (hx:a.eval x=.slice ad N c) (hy:a.eval y=.int .i64 (n:Int)) (hn:n<=N)
  (h:∀sI c2,(∀(W:World) (k:IntKind) (xs:List Nat),Sl W ad k xs->xs.length<=c->Sl W sI k (xs.drop n))->(N<=c->N-n<=c2)->wpList P ops Q rest (a.put o.dst (.slice sI (N-n) c2)) w):wpList P ops Q (o::rest) a w :=
 wpList_plain hgd λ_ hK=>by
  obtain⟨d,hd,hd1⟩:=Option.map_eq_some_iff.1 hs
  have he:=jQ hT
  have hT':P.underlying T=some (.slice (P.elem T)):=by rw[he];exact hT
  have hr:=run_slice_l (P:=P) (w:=w) T ad N c hT' .i64 n (by omega) (by omega)
  have hsz:(sizeOf (P.elem T)).run P w=.ok 1 w:=by simp[sizeOf,typeInfo,he,hd,hd1]
  rw[hsz] at hr
  unfold Oper.wp execOp
  simp only[ho,hx,hy,Option.map_some,Option.map_none,Sem.run_bind,Sem.run_pure,run_sliceAt_slice w T _ _ _ _ hT',hr,Result.andThen_ok,Int.toNat_natCast,sliced]
  exact hK _ _ (h _ _ (λW k xs hsl hl=>hsl.sliced hl) (λhc=>by omega))
end
theorem Own.mZ {w:World}{B:Nat}{e:TypeId}{k:IntKind}{v:Value}{xs:List Nat}(h:Own w B e k v xs):∃a c,v=.slice a xs.length c/\Sl w a k xs/\xs.length<=c/\c<=maxLen/\(a=none->c=0):=by
 obtain⟨a,c,rfl,h1,h2,h3⟩:=h.sl
 refine⟨a,c,rfl,h1,h2,h3,λha=>?_⟩
 obtain⟨-,⟨q,-⟩|⟨g,cap,cur,q,-⟩⟩:=h
 ·injection q with q1 q2 q3
 ·injection q with q1 q2 q3
  rw[ha] at q1;cases q1
section
variable {P:Program}{ops:Array Oper}{rest:List Oper}{o:Oper}{a:Act}{w:World}{Q:Exit->Act->World->Prop}
theorem xy {T e m n N c:Nat}{x y z:Operand}{ad:Option Addr}{k:IntKind}{xs:List Nat}(hgd:o.guard=none)(ho:o.op=.slice T x (some y) (some z) none)(hT:P.underlying T=some (.slice e))(hs:(P.info? e).map (·.size)=some 1)
  (hx:a.eval x=.slice ad N c) (hy:a.eval y=.int .i64 (m:Int)) (hz:a.eval z=.int .i64 (n:Int)) (JR:m<=n) (hn:n<=c) (hl:xs.length<=c) (hsl:Sl w ad k xs)
  (h:∀sI,Sl w sI k ((xs.drop m).take (n-m))->wpList P ops Q rest (a.put o.dst (.slice sI (n-m) (c-m))) w):wpList P ops Q (o::rest) a w :=
 wpList_plain hgd λ_ hK=>by
  obtain⟨d,hd,hd1⟩:=Option.map_eq_some_iff.1 hs
  have he:=jQ hT
  have hT':P.underlying T=some (.slice (P.elem T)):=by rw[he];exact hT
  have hr:=run_slice_lh (P:=P) (w:=w) T ad N c hT' .i64 .i64 m n (by omega) (by omega) (by omega)
  have hsz:(sizeOf (P.elem T)).run P w=.ok 1 w:=by simp[sizeOf,typeInfo,he,hd,hd1]
  rw[hsz] at hr
  unfold Oper.wp execOp
  simp only[ho,hx,hy,hz,Option.map_some,Option.map_none,Sem.run_bind,Sem.run_pure,run_sliceAt_slice w T _ _ _ _ hT',hr,Result.andThen_ok,Int.toNat_natCast,sliced]
  exact hK _ _ (h _ ((hsl.sliced hl).take _))
end
section
variable {P:Program}{ops:Array Oper}{rest:List Oper}{o:Oper}{a:Act}{w:World}{Q:Exit->Act->World->Prop}
theorem kg {T e n N c:Nat}{x y:Operand}{ad:Option Addr}{k:IntKind}{xs:List Nat}(hgd:o.guard=none)(ho:o.op=.slice T x none (some y) none)(hT:P.underlying T=some (.slice e))(hs:(P.info? e).map (·.size)=some 1)
  (hx:a.eval x=.slice ad N c) (hy:a.eval y=.int .i64 (n:Int)) (hn:n<=c) (hsl:Sl w ad k xs)
  (h:∀sI,Sl w sI k (xs.take n)->(sI=none->ad=none)->wpList P ops Q rest (a.put o.dst (.slice sI n c)) w):wpList P ops Q (o::rest) a w :=
 wpList_plain hgd λ_ hK=>by
  obtain⟨d,hd,hd1⟩:=Option.map_eq_some_iff.1 hs
  have he:=jQ hT
  have hT':P.underlying T=some (.slice (P.elem T)):=by rw[he];exact hT
  have hr:=run_slice_h (P:=P) (w:=w) T ad N c hT' .i64 n (by omega) (by omega)
  have hsz:(sizeOf (P.elem T)).run P w=.ok 1 w:=by simp[sizeOf,typeInfo,he,hd,hd1]
  rw[hsz] at hr
  unfold Oper.wp execOp
  have hadd:∀ad:Option Addr,(if c=0 then ad else ad.map (·.add (0*1)))=ad:=λad=>by
   split
   ·rfl
   ·cases ad with
    | none=>rfl
    | some p=>simp[Addr.add]
  simp only[ho,hx,hy,Option.map_some,Option.map_none,Sem.run_bind,Sem.run_pure,run_sliceAt_slice w T _ _ _ _ hT',hr,Result.andThen_ok,Int.toNat_natCast,sliced,hadd,Nat.sub_zero]
  exact hK _ _ (h _ (hsl.take n) (λh=>h))
end
end
section
open Go.RowKit
def Vk (a:Nat):Nat:=(a*2%256)^^^(a/128*27)
theorem yB:∀a,a<256->Vk a<256:=by decide
theorem rW (a:Nat)(ha:a<256)(w:World):Calls prog 25 #[.int .u8 (a:Int)] w λe w'=>e=.returned (.int .u8 (Vk a:Nat))/\w=w':=by
 have hx:bits BinOp.xor IntKind.u8 ((a:Int)*2%256) ((a:Int)/128*27)=((Vk a:Nat):Int):=by
  have:=u8_xor_nat (a*2%256) (a/128*27) (by omega) (by omega)
  simpa [Vk] using this
 have HX:=aR hx
 clear hx
 go_enter func25,ntmps25
 go_wp2
 rw[HX.out]
 go_ret
 exact⟨rfl,rfl⟩
def VY (a k:Nat):Nat:=(a*2^k%256) ||| (a/2^(8-k))
theorem Ll {a k:Nat}(ha:a<256)(hk:k<5):VY a k<256:=by
 have h1:a*2^k%256<2^8:=Nat.mod_lt _ (by decide)
 have h2:a/2^(8-k)<2^8:=Nat.lt_of_le_of_lt (Nat.div_le_self _ _) ha
 exact Nat.or_lt_two_pow h1 h2
theorem Fg {x y:Nat}{X Y:Int}(hx:x<256)(hy:y<256)(hX:X=(x:Int))(hY:Y=(y:Int)):Ending.returned (.int .u8 (bits BinOp.or IntKind.u8 X Y))=Ending.returned (.int .u8 ((x ||| y:Nat):Int)):=by
 rw[hX,hY,u8_or_nat x y hx hy]
theorem aaf (a k:Nat)(ha:a<256)(hk:k<5)(w:World):Calls prog 32 #[.int .u8 (a:Int),.int .i64 (k:Int)] w λe w'=>e=.returned (.int .u8 (VY a k:Nat))/\w=w':=by
 have h:k=0∨k=1∨k=2∨k=3∨k=4:=by omega
 rcases h with rfl|rfl|rfl|rfl|rfl
 all_goals
  have b0:bits BinOp.and IntKind.u64 0 7=0:=by decide
  have b1:bits BinOp.and IntKind.u64 1 7=1:=by decide
  have b2:bits BinOp.and IntKind.u64 2 7=2:=by decide
  have b3:bits BinOp.and IntKind.u64 3 7=3:=by decide
  have b4:bits BinOp.and IntKind.u64 4 7=4:=by decide
  go_enter func32,ntmps32
  go_wp2
  clear b0 b1 b2 b3 b4
  go_ret
  refine⟨?_,rfl⟩
 ·exact Fg (x:=a*1%256) (y:=a/256) (by omega) (by omega) (by omega) (by omega)
 ·exact Fg (x:=a*2%256) (y:=a/128) (by omega) (by omega) (by omega) (by omega)
 ·exact Fg (x:=a*4%256) (y:=a/64) (by omega) (by omega) (by omega) (by omega)
 ·exact Fg (x:=a*8%256) (y:=a/32) (by omega) (by omega) (by omega) (by omega)
 ·exact Fg (x:=a*16%256) (y:=a/16) (by omega) (by omega) (by omega) (by omega)
def Gj:Nat->Nat->Nat->Nat->Nat
 | 0,_,_,s=>s
 | n+1,a,b,s=>if b=0 then s else Gj n (Vk a) (b/2) (s^^^(a*(b%2)))
theorem OU (n a s:Nat):Gj n a 0 s=s:=by cases n<;>simp[Gj]
theorem Mt:∀n {a b s:Nat},a<256->s<256->Gj n a b s<256
 | 0,_,_,_,_,h=>h
 | n+1,a,b,s,ha,hs=>by
  unfold Gj
  split
  ·exact hs
  ·refine Mt n (yB a ha) (Nat.xor_lt_two_pow (n:=8) hs ?_)
   rcases Nat.mod_two_eq_zero_or_one b with h|h<;>rw[h]<;>omega
def Qa (a b:Nat):Nat:=Gj 8 a b 0
theorem TN {a b:Nat}(ha:a<256):Qa a b<256:=Mt 8 ha (by decide)
theorem OT (a b:Nat)(ha:a<256)(hb:b<256)(w:World):Calls prog 31 #[.int .u8 (a:Int),.int .u8 (b:Int)] w λe w'=>e=.returned (.int .u8 (Qa a b:Nat))/\w=w':=by
 go_enter func31,ntmps31
 go_wp2_with fail
 obtain⟨J,HJ,HI0⟩:=jmp (λaJ w'=>∃(U:Nat->Value) (m:Nat) (x:Nat) (y:Nat) (s:Nat),aJ={ tmps:=#[.int .u8 (x:Int),.int .u8 (y:Int),U 2,U 3,U 4,.int .u8 (s:Int),U 6,U 7,U 8,U 9,U 10,U 11,U 12,U 13,U 14,U 15,U 16,U 17,U 18],defers:=[] }/\x<256/\y<2^m/\m<=8/\s<256/\Gj m x y s=Qa a b/\w=w')
 have HI:Hid (∀(T:Array Value) (w':World),(∃(m:Nat) (x:Nat) (y:Nat) (s:Nat),T=((λ(U:Nat->Value)=>#[.int .u8 (x:Int),.int .u8 (y:Int),U 2,U 3,U 4,.int .u8 (s:Int),U 6,U 7,U 8,U 9,U 10,U 11,U 12,U 13,U 14,U 15,U 16,U 17,U 18]) λi=>T.getD i undef)/\x<256/\y<2^m/\m<=8/\s<256/\Gj m x y s=Qa a b/\w=w')->J { tmps:=T,defers:=[] } w') :=
  aR λT w' ⟨m,x,y,s,hJ,rJ⟩=>HI0.out _ _ ⟨λi=>T.getD i undef,m,x,y,s,congrArg (λT=>({ tmps:=T,defers:=[] }:Act)) hJ,rJ⟩
 clear HI0
 obtain⟨μ,Hμ⟩:∃μ:Act->World->Nat,Hid (∀a w',μ a w'=(intOf (a.tmps.getD 1 undef)).toNat):=⟨_,aR λ_ _=>rfl⟩
 refine dF 0 J μ (by simp only[findLabel];rfl) ?_ ?_
 ·intro a' wr hj
  obtain⟨U,m,x,y,s,rfl,hx,hy,hm,hs,hR,rfl⟩:=HJ.out _ _ hj
  clear hj
  have HR:=aR hR
  clear hR
  by_cases h0:y=0
  ·subst h0
   go_wp2_with fail
   (try simp only[Exit.jump,Exit.inBlock,Exit.then])
   go_ret
   refine⟨?_,rfl⟩
   rw[←HR.out,OU];rfl
  ·have hd:((y:Int)==0)=false:=by simp;omega
   obtain⟨n,rfl⟩:∃n,m=n+1:=⟨m-1,by
    cases m with
    | zero=>exact absurd hy (by omega)
    | succ n=>rfl⟩
   have hy2:y/2<2^n:=by rw[Nat.pow_succ] at hy;omega
   have hyb:y<256:=Nat.lt_of_lt_of_le hy (Nat.pow_le_pow_right (by decide) hm:2^(n+1)<=2^8)
   have hand:bits BinOp.and IntKind.u8 (y:Int) 1=((y%2:Nat):Int):=by
    have:=u8_and_nat y 1 hyb (by omega)
    rw[Nat.and_one_is_mod] at this
    simpa using this
   obtain⟨p,Hp⟩:=bD (x*(y%2))
   have hp:p<256:=by rw[←Hp.out];rcases Nat.mod_two_eq_zero_or_one y with h|h<;>rw[h]<;>omega
   have hmul:(x:Int)*((y:Int)%2)%256=(p:Int):=by
    have e:(y:Int)%2=((y%2:Nat):Int):=by omega
    rw[e,←Int.natCast_mul,Hp.out];omega
   have zR:=u8_xor_nat s p hs hp
   have JV:=rW x hx w
   clear hy hyb
   have HXR:=aR zR
   clear zR
   go_wp2_with fail
   refine JV.mono ?_
   clear JV
   rintro e w1 ⟨rfl,rfl⟩
   rw[HXR.out]
   go_wp2_with fail
   go_step3
   refine⟨rfl,HI.out _ _ ⟨n,Vk x,y/2,s^^^p,rfl,yB x hx,hy2,by omega,Nat.xor_lt_two_pow (n:=8) hs hp,?_,rfl⟩,?_⟩
   ·rw[←HR.out,←Hp.out]
    show _=if y=0 then _ else _
    rw[if_neg h0]
   ·rw[Hμ.out,Hμ.out]
    change (((y/2:Nat):Int)).toNat<((y:Int)).toNat
    omega
 ·intro pass
  go_wp2_with fail
  refine wp_label ?_
  rename_i hK
  refine hK _ _ ?_
  exact pass _ _ (HI.out _ _ ⟨8,a,b,0,rfl,ha,hb,by omega,by omega,rfl,rfl⟩)
end
section
open Go.RowKit
def Uu (i:Nat):Nat->Nat
 | 0=>99
 | k+1=>Uu i k^^^VY i k
def Ab (i:Nat):Nat:=Uu i 5
theorem DD {i:Nat}(hi:i<256):∀k,k<=5->Uu i k<256
 | 0,_=>(by decide:99<256)
 | k+1,h=>Nat.xor_lt_two_pow (n:=8) (DD hi k (by omega)) (Ll hi (by omega))
theorem wY {i:Nat}(hi:i<256):Ab i<256:=DD hi 5 dM
theorem Mw (i:Nat)(hi:i<256)(w:World):Calls prog 27 #[.int .u8 (i:Int)] w λe w'=>e=.returned (.int .u8 (Ab i:Nat))/\w=w':=by
 go_enter func27,ntmps27
 go_wp2_with fail
 go_loop [3,5] (λs t=>∃k:Nat,k<=5/\t=.int .i64 (k:Int)/\s=.int .u8 ((Uu i k:Nat):Int)) (λs t=>5-(intOf t).toNat)
 case atStart=>exact⟨0,by omega,rfl,rfl⟩
 case round =>
  obtain⟨k,hk,rfl,rfl⟩:=hrel
  by_cases hlt:k<5
  ·have hd:decide ((k:Int)<5)=true:=by simp;omega
   have HX:=aR (u8_xor_nat (Uu i k) (VY i k) (DD hi k hk) (Ll hi hlt))
   go_wp2_with fail
   refine(aaf i k hi hlt _).mono ?_
   rintro e w1 ⟨rfl,rfl⟩
   go_wp2_with fail
   rw[HX.out]
   exact⟨⟨k+1,by omega,by go_num,rfl⟩,by simp[intOf]<;>omega⟩
  ·obtain rfl:k=5:=by omega
   go_wp2_with fail
   go_ret
   exact⟨rfl,rfl⟩
theorem Mv (g a b:Nat)(L:List Nat)(ha:a<256)(hb:b<256)(hL:L.length=512)(w:World)(B0:aA w g 69 (ints .u8 L)) :
  Calls prog 26 #[.pointer (some ⟨g,0,none⟩),.int .u8 (a:Int),.int .u8 (b:Int)] w λe w'=>e=.returned (.tuple #[])/\aA w' g 69 (ints .u8 ((L.set a b).set (256+b) a))/\Ch g w w':=by
 have hai:(a:Int)<256:=by omega
 have hbi:(b:Int)<256:=by omega
 have c0:=B0.int (i:=a) (by omega)
 have c1:=B0.int (i:=256+b) (by omega)
 have z0:=B0.frozen a
 have z1:=B0.frozen (256+b)
 have hne:¬a=256+b:=by omega
 have hne':¬256+b=a:=by omega
 go_enter func26,ntmps26
 go_wp2_with fail
 go_region
 have B2:=((B0.dw a b).dw (256+b) a).drew
 go_end0
 exact⟨rfl,B2,((Ch.bX (iG.set w g a _)).trans (Ch.bX (iG.set _ g (256+b) _))).drew⟩
theorem Ki (g a:Nat)(L:List Nat)(ha:a<256)(hL:L.length=512)(w:World)(B0:aA w g 69 (ints .u8 L)) :
  Calls prog 21 #[.pointer (some ⟨g,0,none⟩),.int .u8 (a:Int)] w λe w'=>e=.returned (.int .u8 (L.getD a 0:Nat))/\w=w':=by
 have hai:(a:Int)<256:=by omega
 have c0:=B0.int (i:=a) (by omega)
 generalize L.getD a 0=v at *
 go_enter func21,ntmps21
 go_wp2
 go_ret
 exact⟨rfl,rfl⟩
def xP:Nat->Nat
 | 0=>1
 | i+1=>xP i^^^Vk (xP i)
theorem lQ:∀i,xP i<256
 | 0=>(by decide:1<256)
 | i+1=>Nat.xor_lt_two_pow (n:=8) (lQ i) (yB _ (lQ i))
def Cy (i:Nat):List Nat:=(List.range i).map xP++zeros (255-i)
theorem xQ {i:Nat}(h:i<=255):(Cy i).length=255:=by unfold Cy;rw[List.length_append,List.length_map,List.length_range,aH];omega
theorem Rk {i:Nat}(h:i<255):(Cy i).set i (xP i)=Cy (i+1):=by
 unfold Cy
 rw[List.set_append_right _ _ (by simp),List.length_map,List.length_range,Nat.sub_self,List.range_succ,List.map_append,List.append_assoc]
 congr 1
 rw[show 255-i=(255-(i+1))+1 by omega]
 rfl
theorem EZ {i:Nat}(h:i<255):(Cy 255).getD i 0=xP i:=by
 unfold Cy
 rw[List.getD_eq_getElem?_getD,List.getElem?_append_left (by simp;exact h),List.getElem?_map,List.getElem?_range h];rfl
def dW:Nat->List Nat
 | 0=>((zeros 512).set 0 (Ab 0)).set (256+Ab 0) 0
 | i+1=>((dW i).set (xP i) (Ab (xP ((255-i)%255)))).set (256+Ab (xP ((255-i)%255))) (xP i)
theorem gB:∀i,(dW i).length=512
 | 0=>by unfold dW;rw[List.length_set,List.length_set,aH]
 | i+1=>by unfold dW;rw[List.length_set,List.length_set,gB i]
theorem oL {L:List Nat}{i v:Nat}(h:∀x∈L,x<256)(hv:v<256):∀x∈L.set i v,x<256:=λx hx=>(List.mem_or_eq_of_mem_set hx).elim (h x) λe=>by rw[e];exact hv
theorem gH:∀i,∀x∈dW i,x<256
 | 0=>by
  unfold dW
  exact oL (oL (λx hx=>by unfold zeros at hx;rw[List.mem_replicate] at hx;omega) (wY (by decide))) (by decide)
 | i+1=>by
  unfold dW
  exact oL (oL (gH i) (wY (lQ _))) (lQ _)
theorem Tryz.z66:IsZero prog 66 255 .u8:=isZero (by kernel_rfl)
theorem UA (W:World):(Instr.build 69 #[]).run prog W=.ok (.agg (ints .u8 (zeros 512))) W:=by kernel_rfl
theorem TP (w:World):Calls prog 20 #[] w λe w'=>∃g,e=.returned (.pointer (some ⟨g,0,none⟩))/\w.heap.size<=g/\aA w' g 69 (ints .u8 (dW 255))/\Below w.heap.size w w':=by
 have P0:=aA.new w 66 (ints .u8 (zeros 255))
 have hbel0:=bN w (.cells (ints .u8 (zeros 255)) 66)
 go_enter func20,ntmps20
 go_wp2_with (refine ae rfl 66 rfl z66 ?_;(try simp only[nn,Nat.reduceAdd]))
 go_loopw [2,6] (λs t wr=>∃i:Nat,i<=255/\t=.int .i64 (i:Int)/\s=.int .u8 ((xP i:Nat):Int)/\aA wr w.heap.size 66 (ints .u8 (Cy i))/\Below w.heap.size w wr) (λs t wr=>255-(intOf t).toNat)
 case atStart=>exact⟨0,by omega,rfl,rfl,P0,hbel0⟩
 case round =>
  obtain⟨i,hi,rfl,rfl,P1,hbel⟩:=hrel
  by_cases hlt:i<255
  ·have hd:decide ((i:Int)<255)=true:=by simp;omega
   have c0:=P1.int (i:=i) (by rw[xQ hi];exact hlt)
   have z0:=P1.frozen i
   have P2:=P1.dw i (xP i)
   rw[Rk hlt] at P2
   have aB:=hbel.setCell (p:=⟨w.heap.size,i,none⟩) dM (.int .u8 (xP i:Nat))
   have HX:=aR (u8_xor_nat (xP i) (Vk (xP i)) (lQ i) (yB _ (lQ i)))
   have JV:=rW (xP i) (lQ i)
   clear P1 hbel
   go_wp2_with fail
   refine(JV _).mono ?_
   clear JV
   rintro e w1 ⟨rfl,rfl⟩
   go_wp2_with fail
   rw[HX.out]
   exact⟨⟨i+1,by omega,by go_num,rfl,P2,aB⟩,by simp[intOf]<;>omega⟩
  ·obtain rfl:i=255:=by omega
   have hbd:=UA
   have G1:=aA.new wr 69 (ints .u8 (zeros 512))
   have hb1:=bN wr (.cells (ints .u8 (zeros 512)) 69)
   have P2:=P1.below' hb1
   have aB:=bC hbel hb1
   have hg:=hbel.size
   have hgs:w.heap.size<wr.heap.size:=P1.lt
   go_wp2_with fail
   refine(Mw 0 (by decide) _).mono ?_
   rintro e w1 ⟨rfl,rfl⟩
   go_wp2_with fail
   refine(Mv wr.heap.size 0 (Ab 0) (zeros 512) (by decide) (wY (by decide)) (aH _) _ G1).mono ?_
   rintro e w2 ⟨rfl,G2,hch⟩
   have P3:=hch.blk P2 (by have:=P1.lt;omega)
   have aG:=hch.below aB hg aB.size
   clear G1 hb1 P2 aB P1 hbel hbd hch
   go_wp2_with fail
   generalize wr.heap.size=gb at *
   go_loopw [22] (λt wr'=>∃i:Nat,i<=255/\t=.int .i64 (i:Int)/\aA wr' w.heap.size 66 (ints .u8 (Cy 255))/\aA wr' gb 69 (ints .u8 (dW i))/\Below w.heap.size w wr') (λt wr'=>255-(intOf t).toNat)
   case atStart=>exact⟨0,by omega,rfl,P3,G2,aG⟩
   case round =>
    clear P3 G2 aG
    obtain⟨i,hi,rfl,P3,G2,aG⟩:=hrel
    by_cases hlt:i<255
    ·have hd:decide ((i:Int)<255)=true:=by simp;omega
     obtain⟨j,Hj⟩:=bD ((255-i)%255)
     have hj:j<255:=by rw[←Hj.out];omega
     have hrt:(IntKind.i64.wrap ((255:Int)-(i:Int))).tmod 255=(j:Int):=by
      rw[IntWalk.i64_in _ (by omega),Int.tmod_eq_emod_of_nonneg (by omega),←Hj.out];omega
     have c0:=(P3.drew).int (i:=i) (by rw[xQ dM];exact hlt)
     have c1:=(P3.drew).int (i:=j) (by rw[xQ dM];exact hj)
     rw[EZ hlt] at c0
     rw[EZ hj] at c1
     have hi1:(i:Int)<255:=by omega
     have hj1:(j:Int)<255:=by omega
     go_wp2_with fail
     refine wp_region_still_tail 10 (by kernel_rfl) (by kernel_rfl) ?_
     simp only[List.take_succ_cons,List.take_zero,List.drop_succ_cons,List.drop_zero]
     still_step
     still_step
     still_step
     still_step
     still_step
     still_step
     still_step
     still_step
     still_step
     still_call (Mw (xP j) (lQ j) _).mono λe w' h=>⟨h.1,h.2.symm⟩
     refine wpStill_nil ?_
     have hjl:=wY (lQ j)
     have G3:=G2.drew
     have P4:=P3.drew
     have aY:=aG.drew
     have hgl:=P3.lt
     have HJ2:=aR (show dW (i+1)=((dW i).set (xP i) (Ab (xP j))).set (256+Ab (xP j)) (xP i) by rw[←Hj.out];rfl)
     change wpList _ _ _ _ _ wr.drew
     clear P3 G2 aG c0 c1 hrt hi1 hj1
     generalize wr.drew=w5 at *
     go_wp2_with fail
     refine(Mv gb (xP i) (Ab (xP j)) (dW i) (lQ i) hjl (gB i) _ G3).mono ?_
     rintro e w6 ⟨rfl,G4,hch⟩
     have P5:=hch.blk P4 (by omega)
     have bA:=hch.below aY hg aY.size
     rw[←HJ2.out] at G4
     clear P4 G3 aY hch
     go_wp2_with fail
     exact⟨⟨i+1,by omega,by go_num,P5,G4,bA⟩,by simp[intOf]<;>omega⟩
    ·obtain rfl:i=255:=by omega
     go_wp2
     go_ret
     exact⟨gb,rfl,hg,G2,aG⟩
end
section
open Go.RowKit
section
variable {P:Program}{ops:Array Oper}{md:Region.Mode}{C:World->Prop}
def sW (P:Program)(md:Region.Mode)(ops:Array Oper)(C:World->Prop)(n:Nat)(L:Array Bool->Act->Prop):Nat->Array Bool->Act->Prop
 | 0,listed,a=>L listed a
 | f+1,listed,a=>Region.ready md ops listed≠[]/\∀i∈Region.ready md ops listed,i<n/\qOp P ops C i (sW P md ops C n L f (listed.setIfInBounds i true)) a
theorem oG {n g:Nat}{L:Array Bool->Act->Prop}{Q':Exit->Act->World->Prop}(hL:∀listed a w,C w->L listed a->wpAny P md ops Q' g listed a w) :
  ∀(f:Nat) (listed:Array Bool) (a:Act) (w:World),C w->sW P md ops C n L f listed a->wpAny P md ops Q' (f+g) listed a w
 | 0,listed,a,w,hC,h=>by rw[Nat.zero_add];exact hL _ _ _ hC h
 | f+1,listed,a,w,hC,h=>by
  rw[show f+1+g=(f+g)+1 by omega]
  exact⟨λh0=>absurd h0 h.1,λi hi=>wpOp_of_qOp hC (λa' w' hC' h'=>oG hL f _ a' w' hC' h') (h.2 i hi).2⟩
theorem zJ {n i:Nat}{oi:Oper}{v:Value}{L:Array Bool->Act->Prop}(hi:ops[i]?=some oi)(hsel:∀(j:Nat) (o:Oper) cs b,ops[j]?=some o->o.op≠.select cs b)
  (hs:Region.sinkB md ops n=true) (hc:Region.chainB md ops n=true) (hn:n<ops.size) (hin:i<n)
  (hdone:∀listed a,L listed a->∀j∈Region.ready md ops listed,n<=j) :
  ∀(f:Nat) (listed:Array Bool) (a:Act),HeadInv md ops n listed ->
   (∀j oj,ops[j]?=some oj->j≠i->listed.getD j true=false->(∀e∈oj.after,Region.binds md e=true->e.on≠i)->oi.apart ops oj=true) ->
   i∈Region.ready md ops listed->YieldsIn P ops C oi v a ->
   sW P md ops C n L f (listed.setIfInBounds i true) (a.put oi.dst v)->sW P md ops C n L (f+1) listed a:=by
 intro f
 induction f with
 | zero =>
  intro listed a inv _ hr hy H
  have hun:=(mem_ready.1 hr).1
  refine⟨λh=>(by rw[h] at hr;cases hr),λj hj=>?_⟩
  have hjn:j<n:=(Nat.lt_or_ge j n).elim id λh=>absurd hj (tail_waits hs hc hn inv _ i rfl hin hun j h)
  refine⟨hjn,?_⟩
  by_cases hji:j=i
  ·subst hji;exact hy.qOp hi H
  ·have:=hdone _ _ H j (ready_mono hj hji)
   omega
 | succ f ih =>
  intro listed a inv hfree hr hy H
  have hun:=(mem_ready.1 hr).1
  refine⟨λh=>(by rw[h] at hr;cases hr),λj hj=>?_⟩
  have hjn:j<n:=(Nat.lt_or_ge j n).elim id λh=>absurd hj (tail_waits hs hc hn inv _ i rfl hin hun j h)
  refine⟨hjn,?_⟩
  by_cases hji:j=i
  ·subst hji;exact hy.qOp hi H
  ·have h1:=(H.2 j (ready_mono hj hji)).2
   obtain⟨hjun,oj,hoj,hall⟩:=mem_ready.1 hj
   have hnot:∀e∈oj.after,Region.binds md e=true->e.on≠i:=λe he hb heq=>by
    have h1:=hall e he hb
    rw[heq,getD_both hun] at h1
    cases h1
   have h2:=qOp_put hoj (hfree j oj hoj hji hjun hnot) (λcs b=>hsel i oi cs b hi) (λcs b=>hsel j oj cs b hoj) hy h1
   have hfree':∀k ok,ops[k]?=some ok->k≠i->(listed.setIfInBounds j true).getD k true=false ->
     (∀e∈ok.after,Region.binds md e=true->e.on≠i)->oi.apart ops ok=true:=λk ok hk hki hun hno=>by
    refine hfree k ok hk hki ?_ hno
    by_cases hjk:j=k
    ·subst hjk;exact hjun
    ·rw[getD_set_ne true hjk] at hun;exact hun
   refine qOp_mono (λa' h3=>ih (listed.setIfInBounds j true) a' (inv.set hj hjn) hfree' (ready_mono hr (Ne.symm hji)) h3.1 ?_) h2
   rw[Array.setIfInBounds_comm _ _ hji]
   exact h3.2
theorem vM {n g:Nat}{Lq:Act->Prop}(hsel:Region.noSelect ops=true)(hs:Region.sinkB md ops n=true)(hc:Region.chainB md ops n=true)(hn:n<ops.size) :
  ∀(l:List Oper) (k:Nat) (listed:Array Bool) (a:Act),(∀j,j<l.length->l[j]?=ops[k+j]?)->k+l.length=n->HeadInv md ops n listed ->
  Region.lexHead md ops g l.length k listed=true->wpQuiet P ops C Lq l a ->
  sW P md ops C n (λlisted' a'=>Region.seqB md ops g n listed'=true/\Lq a') l.length listed a
 | [],k,listed,a,_,hk,_,hB,h=>by
  have:k=n:=by simpa using hk
  subst this
  exact⟨by simpa [Region.lexHead] using hB,h⟩
 | o::l,k,listed,a,hl,hk,inv,hB,h=>by
  have h0:ops[k]?=some o:=by simpa using (hl 0 (by simp)).symm
  simp only[List.length_cons,Region.lexHead,Bool.and_eq_true] at hB
  obtain⟨⟨hr,hf⟩,hB'⟩:=hB
  have hkn:k<n:=by simp only[List.length_cons] at hk;omega
  have hr':k∈Region.ready md ops listed:=by simpa using hr
  have hst:qOp P ops C k (wpQuiet P ops C Lq l) a:=by unfold qOp;simp only[h0];exact h
  obtain⟨v,hy,hK⟩:=yieldsIn_of_qOp h0 hst
  exact zJ h0 (Region.noSelect_spec hsel) hs hc hn hkn (λlisted' a' hL=>seqB_ready hL.1) l.length listed a inv (Region.free_spec h0 hf) hr' hy
   (vM hsel hs hc hn l (k+1) _ _ (λj hj=>by have:=hl (j+1) (by simp;omega);simpa [Nat.add_assoc,Nat.add_comm 1 j] using this) (by simp only[List.length_cons] at hk;omega) (inv.set hr' hkn) hB' hK)
theorem oC {id:Nat}{Q:Exit->Act->World->Prop}{a:Act}{w:World}{l:List Oper}(n:Nat)(hm:P.follows .mixedOrders=true)(hB:Region.lexTailB .any l.toArray n=true)(hC:C { w with drawn:=w.drawn+1 })
  (h:wpQuiet P l.toArray C (λa'=>∀w',C w'->wpList P l.toArray Q (l.drop n) a' w') (l.take n) a):(Code.region id l.toArray true).wp P Q a w:=by
 simp only[Region.lexTailB,Bool.and_eq_true,decide_eq_true_eq] at hB
 obtain⟨⟨⟨⟨hsel,hn⟩,hs⟩,hc⟩,hlex⟩:=hB
 have hn':n<l.length:=by simpa using hn
 have htl:(l.take n).length=n:=by simp;omega
 have hdl:(l.drop n).length=l.toArray.size-n:=by simp
 have inv0:HeadInv .any l.toArray n (Array.replicate l.toArray.size false) :=
  ⟨by simp,λj oj _ hl=>(by rw[getD_replicate_false] at hl;cases hl),λt _ ht=>getD_in (by simpa using ht) (getD_replicate_false _ _)⟩
 have H:=vM (md:=.any) (g:=l.toArray.size-n) hsel hs hc hn (l.take n) 0 _ a (λj hj=>by
  have hj':j<n:=by rw[htl] at hj;exact hj
  simp[hj']) (by simpa using htl) inv0 (by rw[htl];exact hlex) h
 refine wp_region_any hm ?_
 have:=oG (C:=C) (Q':=Q) (g:=l.toArray.size-n) (λlisted a' w' hC' hL=>by
  have:=wpAny_of_seq (md:=.any) (Q':=Q) (l.drop n) n listed a' w' (λj=>by simp[List.getElem?_drop]) (by rw[hdl];exact hL.1) (hL.2 w' hC')
  rwa [hdl] at this) _ _ _ _ hC H
 rw[htl,show n+(l.toArray.size-n)=l.toArray.size by omega] at this
 exact this
theorem bR {id:Nat}{Q:Exit->Act->World->Prop}{a:Act}{w:World}{l:List Oper}(n:Nat)(hm:P.follows .mixedOrders=true)(hB:Region.lexTailB .any l.toArray n=true)
  (h:wpQuiet P l.toArray (Below w.heap.size w) (λa'=>∀w',Below w.heap.size w w'->wpList P l.toArray Q (l.drop n) a' w') (l.take n) a):(Code.region id l.toArray true).wp P Q a w :=
 oC (C:=Below w.heap.size w) n hm hB ⟨rfl,rfl,rfl,Nat.le_refl _,λ_ _=>rfl⟩ h
theorem tN {f:FuncId}{args:Array Value}{w:World}{v:Value}(h:Calls P f args w λe w'=>e=.returned v/\w=w'):Calls P f args w λe w'=>e=.returned v/\Below w.heap.size w w' :=
 h.mono λe w' ⟨h1,h2⟩=>⟨h1,h2▸Below.refl _ _⟩
theorem oM {W:World}{o:Oper}{a:Act}{S T:TypeId}{x:Operand}{k k':IntKind}{n m:Int}(ho:o.op=.convert S T x)(hS:P.underlying S=some (.int k))(hT:P.underlying T=some (.int k'))(hx:a.eval x=.int k n)(hm:k'.wrap n=m):(execOp a.eval o).run P W=.ok (.value (.int k' m)) W:=by
 unfold execOp
 simp only[ho,hx,Sem.run_bind,Sem.run_pure,Result.andThen_ok]
 simp[convert,run_underlying hS,run_underlying hT,Sem.run_bind,hm,go_sem]
end
end
end Go.Proofs.YtaiffkajkbiidaaGreatDoor
