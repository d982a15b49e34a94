/- What this claim leans on, part 7: laws of the model, and what functions of the program compute. No condition but what each law states. -/
import Derived.Test.YtaiffkajkbiidaaGreatDoorQ6
namespace Go.Proofs.YtaiffkajkbiidaaGreatDoor
set_option linter.unusedSimpArgs false
set_option linter.unusedVariables false
set_option linter.unusedSectionVars false
set_option maxRecDepth 100000
set_option maxHeartbeats 40000000
open Go.Proofs.Tryz
open Tryz
section
open Go.RowKit
def f1:Nat:=4607182418800017408
def f2:Nat:=4611686018427387904
theorem MZ {x:Nat}(h:x<256):bits BinOp.and IntKind.u8 (x:Int) 15=((x%16:Nat):Int):=by
 have h1:=u8_and_nat x 15 h (by omega)
 have h2:x &&& 15=x%16:=Nat.and_two_pow_sub_one_eq_mod x 4
 rw[h2] at h1
 exact h1
end
section
open Go.RowKit
theorem or16:∀l,l<16->∀r,r<16->l*16 ||| r=l*16+r:=by decide
end
section
open Go.RowKit
def Du (n:Nat):Nat->List Nat
 | 0=>zeros 16
 | k+1=>(Du n k).set (15-k) ((cZ 256 8 n).getD k 0)
def zZ (n:Nat):List Nat:=Du n 8
theorem mR (n:Nat):∀k,(Du n k).length=16
 | 0=>aH _
 | k+1=>by unfold Du;rw[List.length_set,mR]
theorem Dt (n:Nat):∀k,∀x∈Du n k,x<256
 | 0=>gJ 16
 | k+1=>by unfold Du;exact oL (Dt n k) (aC (dU (by omega) _ _) (by decide) k)
theorem Pe (n:Nat)(hn:n<2^31)(w:World) :
  Calls prog 188 #[.int .i64 (n:Int)] w λe w'=>e=.returned (.agg (ints .u8 (zZ n)))/\Below w.heap.size w w':=by
 have A0:=(aA.new w 96 (ints .u8 (zeros 16))).alloc (.cells (ints .u8 (zeros 16)) 96)
 have A1:=aA.new (w.alloc (.cells (ints .u8 (zeros 16)) 96)) 96 (ints .u8 (zeros 16))
 rw[World.size_alloc] at A1
 have hbel0:=(bN w (.cells (ints .u8 (zeros 16)) 96)).alloc (by simp) (.cells (ints .u8 (zeros 16)) 96)
 have hwn:IntKind.u64.wrap (n:Int)=(n:Int):=by rw[IntKind.wrap_u64];omega
 go_enter func188,ntmps188
 go_wp2_with ((first|(refine ae rfl 96 rfl fw ?_));(try simp only[nn,Nat.reduceAdd]))
 generalize ((w.alloc (.cells (ints .u8 (zeros 16)) 96)).alloc (.cells (ints .u8 (zeros 16)) 96))=w0 at *
 refine(jh n (by omega) _).mono ?_
 rintro e w1 ⟨rfl,hb1⟩
 have B0:=A0.below' hb1
 have B1:=A1.below' hb1
 have aK:=bC hbel0 hb1
 clear A0 A1 hbel0 hb1
 go_wp2_with fail
 go_loopw [9] (λt wr=>∃k:Nat,k<=8/\t=.int .i64 (k:Int)/\aA wr w.heap.size 96 (ints .u8 (zeros 16))/\aA wr (w.heap.size+1) 96 (ints .u8 (Du n k))/\Below w.heap.size w wr) (λt wr=>8-(intOf t).toNat)
 case atStart=>exact⟨0,by omega,rfl,B0,B1,aK⟩
 case round =>
  clear B0 B1 aK
  obtain⟨k,hk,rfl,B0,B1,aK⟩:=hrel
  by_cases hlt:k<8
  ·have hd:decide ((k:Int)<8)=true:=by simp;omega
   obtain⟨j,Hj⟩:=bD (15-k)
   have hji:(15:Int)-(k:Int)=(j:Int):=by rw[←Hj.out];omega
   have hj:j<16:=by rw[←Hj.out];omega
   have hj1:(j:Int)<16:=by omega
   have hix:=gT underlying107 underlying5 s15 (bn 256 8 n) hlt
   have c1:=B1.int (i:=j) (by rw[mR];exact hj)
   have z1:=B1.frozen j
   have HK:Hid (Du n (k+1)=(Du n k).set j ((cZ 256 8 n).getD k 0)):=aR (by rw[←Hj.out];rfl)
   generalize (cZ 256 8 n).getD k 0=v at *
   have B2:=B1.dw j v
   have aB:=aK.setCell (p:=⟨w.heap.size+1,j,none⟩) (show w.heap.size<=w.heap.size+1 by omega) (.int .u8 (v:Int))
   have B3:=B0.far (p:=⟨w.heap.size+1,j,none⟩) (show w.heap.size≠w.heap.size+1 by omega) (.int .u8 (v:Int))
   have H2:=aR B2
   clear B0 B1 aK B2
   go_wp2_with fail
   exact⟨⟨k+1,by omega,by go_num,B3,by rw[HK.out];exact H2.out,aB⟩,by simp[intOf]<;>omega⟩
  ·obtain rfl:k=8:=by omega
   have hd:decide (((8:Nat):Int)<8)=false:=by simp
   go_wp2_with ((first|(refine ag rfl 96 _ rfl _ rfl B1 aD (mR _ _) ?_)|(refine aa rfl 96 _ _ rfl _ rfl rfl B0 (ah _ _) aD (mR _ _) ?_));(try simp only[nn,Nat.reduceAdd]))
   refine aO rfl rfl (B0.row _) aD (mR _ _) ⟨rfl,?_⟩
   exact az aK dM _
end
section
open Go.RowKit
theorem XN (a:Option Addr)(c:Nat)(xs:List Nat)(hn:a=none->c=0)(hl:xs.length<2^31)(w:World)(hs:Sl w a .u8 xs) :
  Calls prog 117 #[.slice a xs.length c] w λe w'=>∃v,e=.returned v/\Own w' w.heap.size 5 .u8 v xs/\Below w.heap.size w w':=by
 cases a with
 | none =>
  obtain rfl:=hn rfl
  have hx:xs=[]:=Classical.byContradiction λhne=>by obtain⟨_,_,q,-⟩:=hs hne;cases q
  subst hx
  have hnil:∀W,(binOp .eql 23 (.slice none 0 0) (.slice none 0 0)).run prog W=.ok (.bool true) W:=λW=>Lib.run_eql_slice_nil W _ _ none 0 0 0 0 underlying23
  rw[List.length_nil]
  go_enter func117,ntmps117
  go_wp2
  go_ret
  exact⟨_,rfl,Own.nil _ _ _ _,Below.refl _ _⟩
 | some p =>
  have E:Own (w.alloc (.cells #[] 5)) w.heap.size 5 .u8 (.slice (some ⟨w.heap.size,0,none⟩) 0 0) []:=Own.made (xs:=[]) (aA.new w 5 (ints .u8 [])) dM (by simp)
  have hbel:=bN w (.cells #[] 5)
  have hs1:=hs.below hbel
  have hnil:∀W,(binOp .eql 23 (.slice (some p) xs.length c) (.slice none 0 0)).run prog W=.ok (.bool false) W:=λW=>Lib.run_eql_slice_nil W _ _ (some p) _ _ 0 0 underlying23
  go_enter func117,ntmps117
  go_wp2_with (refine dA (zs:=xs) rfl rfl underlying23 nY rfl (by omega) rfl E rfl rfl (λh=>by cases h) hs1 (by simp;omega) (by simp) ?_;intro v' w' hown' hgr;rw[List.nil_append] at hown';have iX:=gI hbel hgr (by simp) E dM;(try simp only[nn,Nat.reduceAdd]))
  go_ret
  exact⟨_,rfl,hown',iX⟩
theorem yO (a:Option Addr)(c n:Nat)(xs:List Nat)(hnl:n=xs.length)(hl:xs.length<2^31)(w:World)(hs:Sl w a .u8 xs) :
  Calls prog 117 #[.slice a n c] w λe w'=>∃v,e=.returned v/\Own w' w.heap.size 5 .u8 v xs/\Below w.heap.size w w':=by
 subst hnl
 cases a with
 | none =>
  have hx:xs=[]:=Classical.byContradiction λhne=>by obtain⟨_,_,q,-⟩:=hs hne;cases q
  subst hx
  have hnil:∀W,(binOp .eql 23 (.slice none 0 c) (.slice none 0 0)).run prog W=.ok (.bool true) W:=λW=>Lib.run_eql_slice_nil W _ _ none 0 c 0 0 underlying23
  rw[List.length_nil]
  go_enter func117,ntmps117
  go_wp2
  go_ret
  exact⟨_,rfl,Own.nil _ _ _ _,Below.refl _ _⟩
 | some p=>exact XN (some p) c xs (λh=>by cases h) hl w hs
end
section
open Go.RowKit
theorem Ay {P:Program}{fn:Func}{p T:Nat}(h:fn.results=#[.cell p T]){R:Ending->World->Prop}{tmps:Array Value}{w:World}{g n t:Nat}{cs:Array Value}(hp:tmps.getD p undef=.pointer (some ⟨g,0,none⟩))
  (hb:aA w g t cs) (ha:dG P T n) (hl:cs.size=n) (hR:R (.returned (.agg cs)) w):bodyPost P fn R .ret { tmps:=tmps,defers:=[] } w:=by
 obtain⟨⟨d,h1,hd⟩,h2⟩:=ha
 exact bodyPost_ret (results_cell_row h tmps w g t _ _ _ hp hb h1 (by cases d<;>first|rfl|cases hd) (by rw[hl];exact h2)) rfl hR
theorem Tryz.agt:dG prog 254 2:=jH underlying254 (by kernel_rfl)
end
section
open Go.RowKit
def bk1 (x:Nat):List Nat:=x::zeros 15
end
section
open Go.RowKit
def sX (H:List Nat)(j x:Nat):List Nat:=dR (zeros 16) [bk1 (x*16+8),H,zZ j]
def sS (I J Z H:List Nat)(j x:Nat):Nat:=(eE I J Z 0 7 (sX H j x)).getD 0 0/16
theorem uX {p:List Nat->Prop}{a b c:List Nat}(ha:p a)(hb:p b)(hc:p c):∀k∈[a,b,c],p k:=λk hk=>by
 rcases List.mem_cons.1 hk with rfl|hk
 ·exact ha
 exact dz hb hc k hk
end
section
open Go.RowKit
section
variable {P:Program}
theorem bW {ops:Array Oper}{Q:Exit->Act->World->Prop}{Cw:Nat}{a:Act}{w:World}(n:Nat)(hm:P.follows .mixedOrders=true)
  (hok:(ops.toList.zipIdx.all λ(o,i)=>o.after.all λe=>decide (e.on<i))=true)
  (hsz:decide (n<ops.size)=true)
  (hall:((List.range ops.size).all λi=>decide (i<n) || (List.range i).all λj=>(List.range (i+1)).any λm=>decide (j<m)&&((ops[m]?.map λo=>o.after.toList.any λe=>e.on==j&&Region.binds .any e)==some true))=true)
  (I:(Nat->Prop)->Act->World->Prop)
  (h0:I (λ_=>False) a w.drew)
  (hstep:∀(i:Nat) (o:Oper),i<n->ops[i]?=some o->∀(D:Nat->Prop) (a:Act) (w:World),I D a w->¬D i->(∀e∈o.after,Region.binds .any e=true->D e.on) ->
   wpOp P ops Q i (λa' w'=>I (λj=>j=i∨D j) a' w') a w)
  (hend:∀(D:Nat->Prop) (a:Act) (w:World),I D a w->(∀j,j<n->D j)->wpList P ops Q (ops.toList.drop n) a w) :
  (Code.region Cw ops true).wp P Q a w:=by
 rw[decide_eq_true_eq] at hsz
 refine eZ hm hok (λD a' w'=>(∀m o,D m->ops[m]?=some o->∀e∈o.after,Region.binds .any e=true->D e.on)/\(((∀i,n<=i->i<ops.size->¬D i)/\I D a' w')∨(∃k,n<k/\k<=ops.size/\(∀j,j<k->D j)/\(∀i,k<=i->i<ops.size->¬D i)/\wpList P ops Q (ops.toList.drop k) a' w'))) ⟨λ_ _ h=>h.elim,.inl ⟨λ_ _ _ h=>h,h0⟩⟩ ?_ ?_
 ·intro i o hi D a' w' hI hnD hpre
  obtain⟨hcl,hI⟩:=hI
  have hlt:i<ops.size:=(Array.getElem?_eq_some_iff.1 hi).1
  have pO:n<=i->∀j,j<i->D j:=λhni=>by
   have hi1:=List.all_eq_true.1 hall i (List.mem_range.2 hlt)
   rw[Bool.or_eq_true,decide_eq_true_eq] at hi1
   have hi2:=hi1.resolve_left (by omega)
   have hk:∀k j,j<i->i-j<=k->D j:=λk=>by
    induction k with
    | zero=>intro j hj hk;omega
    | succ k ih =>
     intro j hj hk
     have h1:=List.all_eq_true.1 hi2 j (List.mem_range.2 hj)
     obtain⟨m,hm1,hm2⟩:=List.any_eq_true.1 h1
     rw[List.mem_range] at hm1
     simp only[Bool.and_eq_true,decide_eq_true_eq,beq_iff_eq] at hm2
     obtain⟨hjm,hm2⟩:=hm2
     obtain⟨om,vX⟩:∃om,ops[m]?=some om:=⟨ops[m]'(by omega),Array.getElem?_eq_getElem (by omega)⟩
     rw[vX] at hm2
     simp only[Option.map_some,Option.some.injEq] at hm2
     by_cases WY:m=i
     ·subst WY
      rw[hi] at vX
      cases vX
      exact aj hpre j hm2
     ·exact aj (hcl m om (ih m (by omega) (by omega)) vX) j hm2
   exact λj hj=>hk _ j hj dM
  have hcl':∀m om,(m=i∨D m)->ops[m]?=some om->∀e∈om.after,Region.binds .any e=true->e.on=i∨D e.on:=by
   intro m om Ke vX e he hb
   rcases Ke with rfl|Ke
   ·rw[hi] at vX
    cases vX
    exact .inr (hpre e he hb)
   ·exact .inr (hcl m om Ke vX e he hb)
  have htl:∀k,i=k->wpList P ops Q (ops.toList.drop k) a' w'->wpOp P ops Q i (wpList P ops Q (ops.toList.drop (k+1))) a' w':=by
   intro k hik h
   subst hik
   have hd:ops.toList.drop i=o::ops.toList.drop (i+1):=by
    rw[List.drop_eq_getElem_cons (by simpa using hlt)]
    congr 1
    rw[Array.getElem?_eq_getElem hlt] at hi
    simpa using hi
   rw[hd] at h
   unfold wpOp
   simp only[hi]
   exact h
  rcases hI with ⟨hno,hI⟩|⟨k,hk1,hk2,hk3,hk4,hq⟩
  ·by_cases hin:i<n
   ·exact wpOp_mono (λa2 w2 q=>⟨hcl',.inl ⟨λj hj1 hj2 h=>h.elim (λe=>by omega) (hno j hj1 hj2),q⟩⟩) (hstep i o hin hi D a' w' hI hnD hpre)
   ·have hD:=pO (by omega)
    obtain rfl:i=n:=Classical.byContradiction λhne=>hno n dM hsz (hD n (by omega))
    refine wpOp_mono (λa2 w2 q=>⟨hcl',.inr ⟨i+1,by omega,hlt,λj hj=>?_,λj hj1 hj2 h=>h.elim (λe=>by omega) (hno j (by omega) hj2),q⟩⟩) (htl i rfl (hend D a' w' hI hD))
    by_cases hji:j=i
    ·exact .inl hji
    ·exact .inr (hD j (by omega))
  ·have hik:k<=i:=Nat.le_of_not_lt λh=>hnD (hk3 i h)
   have hD:=pO (by omega)
   obtain rfl:i=k:=Classical.byContradiction λhne=>hk4 k dM (by omega) (hD k (by omega))
   refine wpOp_mono (λa2 w2 q=>⟨hcl',.inr ⟨i+1,by omega,hlt,λj hj=>?_,λj hj1 hj2 h=>h.elim (λe=>by omega) (hk4 j (by omega) hj2),q⟩⟩) (htl i rfl hq)
   by_cases hji:j=i
   ·exact .inl hji
   ·exact .inr (hD j (by omega))
 ·intro D a' w' hI hD
  obtain⟨-,⟨hno,-⟩|⟨k,hk1,hk2,hk3,hk4,hq⟩⟩:=hI
  ·exact absurd (hD n hsz) (hno n dM hsz)
  ·have hk:k=ops.size:=Classical.byContradiction λhne=>hk4 k dM (by omega) (hD k (by omega))
   subst hk
   rw[List.drop_of_length_le (by simp)] at hq
   exact hq
end
end
section
open Go.RowKit
def sT (I J Z H:List Nat)(j x:Nat):Nat:=sS I J Z H j x%16
theorem bO {P:Program}{a:Act}{o:Oper}{W:World}{T:TypeId}{x:Operand}{g i e:Nat}{p:Option Addr}{n c:Nat}(ho:o.op=.load T x)(hx:a.eval x=.pointer (some ⟨g,i,none⟩))(hT:P.underlying T=some (.slice e))(hc:W.cell? ⟨g,i,none⟩=some (.slice p n c)):(execOp a.eval o).run P W=.ok (.value (.slice p n c)) W:=by
 unfold execOp
 simp only[ho,hx,Instr.loadAt,Instr.sureAddr,Sem.run_bind,Sem.run_pure,Result.andThen_ok]
 simp[loadVar,isAgg,run_underlying hT,hc,go_sem]
end
section
open Go.RowKit
def qR (a b:List Nat):List Nat:=aU (dS a b 16)
theorem gP (a b:List Nat):(qR a b).length=16:=bG _
theorem sM {a b:List Nat}(ha:∀x∈a,x<256)(hb:∀x∈b,x<256)(n:Nat):∀x∈dS a b n,x<256:=λx hx=>by
 unfold dS at hx
 obtain⟨i,-,rfl⟩:=List.mem_map.1 hx
 exact Nat.xor_lt_two_pow (n:=8) (aC ha (by decide) i) (aC hb (by decide) i)
theorem vL {a b:List Nat}(ha:∀x∈a,x<256)(hb:∀x∈b,x<256):∀x∈qR a b,x<256:=dN (sM ha hb 16)
theorem wU (x y:List Nat)(hx:x.length=16)(hy:y.length=16)(hxb:∀z∈x,z<256)(hyb:∀z∈y,z<256)(w:World) :
  Calls prog 184 #[.agg (ints .u8 x),.agg (ints .u8 y)] w λe w'=>e=.returned (.agg (ints .u8 (qR x y)))/\Below w.heap.size w w':=by
 have X0:=((aA.new w 96 (ints .u8 x)).alloc (.cells (ints .u8 y) 96)).alloc (.cells (ints .u8 (zeros 16)) 96)
 have Y0:=(aA.new (w.alloc (.cells (ints .u8 x) 96)) 96 (ints .u8 y)).alloc (.cells (ints .u8 (zeros 16)) 96)
 have R0:=aA.new ((w.alloc (.cells (ints .u8 x) 96)).alloc (.cells (ints .u8 y) 96)) 96 (ints .u8 (zeros 16))
 simp only[World.size_alloc,Nat.add_assoc,Nat.reduceAdd] at Y0 R0
 have hbel0:=((bN w (.cells (ints .u8 x) 96)).alloc (by simp) (.cells (ints .u8 y) 96)).alloc (by simp;omega) (.cells (ints .u8 (zeros 16)) 96)
 go_enter func184,ntmps184
 go_wp2_with ((first|(refine ae rfl 96 rfl fw ?_));(try simp only[nn,Nat.reduceAdd]))
 generalize (((w.alloc (.cells (ints .u8 x) 96)).alloc (.cells (ints .u8 y) 96)).alloc (.cells (ints .u8 (zeros 16)) 96))=w0 at *
 have LX:∀W,Below w0.heap.size w0 W->Calls prog 42 #[.slice (some ⟨w.heap.size,0,none⟩) 16 16,.slice (some ⟨w.heap.size+1,0,none⟩) 16 16] W λe w'=>e=.returned (.slice (some ⟨W.heap.size,0,none⟩) 16 16)/\Below W.heap.size W w'/\aA w' W.heap.size 5 (ints .u8 (dS x y 16)):=λW hW=>by
  have h:=Qk (some ⟨w.heap.size,0,none⟩) (some ⟨w.heap.size+1,0,none⟩) 16 16 16 x y (by decide) hx (by omega) (by omega) hxb hyb W ((Sl.blk X0).below hW) ((Sl.blk Y0).below hW)
  rw[hy] at h
  exact h
 have Vi:=dJ x y 16
 have LB:∀(g:Nat) (W:World),aA W g 5 (ints .u8 (dS x y 16))->Calls prog 38 #[.slice (some ⟨g,0,none⟩) 16 16] W λe w'=>e=.returned (.agg (ints .u8 (qR x y)))/\Below W.heap.size W w':=λg W hB=>by
  have h:=fB (some ⟨g,0,none⟩) 16 (dS x y 16) W (Sl.blk hB)
  rw[Vi] at h
  exact h
 have Dg:=gP x y
 obtain⟨Q,HQ⟩:=bD (qR x y)
 rw[HQ.out] at LB Dg
 generalize dS x y 16=X at *
 refine bW 4 (by kernel_rfl) (by kernel_rfl) (by kernel_rfl) (by kernel_rfl) (λD bP W=>∃u5 u6 u7 u8:Value,bP={ tmps:=#[.agg (ints .u8 x),.agg (ints .u8 y),.pointer (some ⟨w.heap.size,0,none⟩),.pointer (some ⟨w.heap.size+1,0,none⟩),.pointer (some ⟨w.heap.size+2,0,none⟩),u5,u6,u7,u8],defers:=[] }/\Below w0.heap.size w0 W/\(D 0->u5=.slice (some ⟨w.heap.size,0,none⟩) 16 16)/\(D 1->u6=.slice (some ⟨w.heap.size+1,0,none⟩) 16 16)/\(D 2->KG W w0.heap.size u7 5 16 .u8 (X))/\(D 3->u8=.agg (ints .u8 Q))) ?_ ?_ ?_
 ·exact(⟨_,_,_,_,rfl,⟨rfl,rfl,rfl,Nat.le_refl _,λ_ _=>rfl⟩,nofun,nofun,nofun,nofun⟩)
 ·intro i o hilt hi D bP W hI hnD hall
  obtain⟨u5,u6,u7,u8,rfl,hW,f0,f1,f2,f3⟩:=hI
  rcases i with _|_|_|_|i<;>try cases hi
  ·refine af (v:=.slice (some ⟨w.heap.size,0,none⟩) 16 16) rfl rfl (by kernel_rfl) ?_
   exact(⟨_,_,_,_,rfl,hW,λ_=>rfl,ro f1,ro f2,ro f3⟩)
  ·refine af (v:=.slice (some ⟨w.heap.size+1,0,none⟩) 16 16) rfl rfl (by kernel_rfl) ?_
   exact(⟨_,_,_,_,rfl,hW,ro f0,λ_=>rfl,ro f2,ro f3⟩)
  ·obtain rfl:=f0 (aj hall 0 rfl)
   obtain rfl:=f1 (aj hall 1 rfl)
   refine iE 42 rfl rfl rfl func42 (by kernel_rfl) (by kernel_rfl) (LX W hW) ?_
   intro W' hW' hT
   exact(⟨_,_,_,_,rfl,bC hW hW',ro f0,ro f1,(λ_=>⟨_,rfl,by have:=hW.size;omega,Vi,hT⟩),ro f3⟩)
  ·obtain⟨g_,rfl,Td,Tc,Ea⟩:=f2 (aj hall 2 rfl)
   refine aV 38 rfl rfl rfl func38 (by kernel_rfl) (by kernel_rfl) (LB g_ W Ea) ?_
   intro W' hW'
   have q2:KG W w0.heap.size (.slice (some ⟨g_,0,none⟩) _ _) _ _ _ _:=⟨g_,rfl,Td,Tc,Ea⟩
   exact(⟨_,_,_,_,rfl,bC hW hW',ro f0,ro f1,(λ_=>q2.below hW'),λ_=>rfl⟩)
  ·exfalso;omega
 ·rintro D bP W ⟨u5,u6,u7,u8,rfl,hW,f0,f1,f2,f3⟩ hall
  obtain rfl:=f0 (hall 0 (by decide))
  obtain rfl:=f1 (hall 1 (by decide))
  obtain rfl:=f3 (hall 3 (by decide))
  obtain⟨g7,rfl,hg7,aeD,acI⟩:=f2 (hall 2 (by decide))
  clear f0 f1 f2 f3 hall
  simp only[List.drop_succ_cons,List.drop_zero]
  have R1:=R0.below' hW
  have aK:=bC hbel0 hW
  go_wp2_with (refine aa rfl 96 _ _ rfl _ rfl rfl R1 (ah _ _) aD Dg ?_;(try simp only[nn,Nat.reduceAdd]))
  exact aO rfl rfl (R1.row _) aD Dg ⟨by rw[HQ.out],az aK (by omega) _⟩
end
section
open Go.RowKit
def IW (I J Z:List Nat)(j:Nat)(b:List Nat):Nat->List Nat
 | 0=>zeros 16
 | k+1=>qR (IW I J Z j b k) (eE I J Z j (k+1) (aU (b.drop (16*k))))
def agb (I J Z:List Nat)(j:Nat)(s r:List Nat):List Nat:=qR s (eE I J Z j 0 (aU (dC (r++[128]))))
def oW (I J Z:List Nat)(j:Nat)(b:List Nat):List Nat :=
 if b.length=0∨b.length%16≠0 then agb I J Z j (IW I J Z j b (b.length/16)) (b.drop (16*(b.length/16))) else IW I J Z j b (b.length/16)
theorem EC (I J Z:List Nat)(j:Nat)(b:List Nat):∀k,(IW I J Z j b k).length=16
 | 0=>aH _
 | _+1=>gP _ _
theorem wO (I J Z:List Nat)(j:Nat)(b:List Nat)(hb:∀x∈b,x<256):∀k,∀x∈IW I J Z j b k,x<256
 | 0=>gJ 16
 | k+1=>vL (wO I J Z j b hb k) (fT I J Z j _ (dN λx hx=>hb x (List.mem_of_mem_drop hx)))
theorem Cz {r:List Nat}(hr:∀x∈r,x<256):∀x∈dC (r++[128]),x<256 :=
 qo λx hx=>(List.mem_append.1 hx).elim (hr x) λh=>by rw[List.mem_singleton.1 h];decide
theorem TY (I J Z:List Nat)(j:Nat)(s r:List Nat):(agb I J Z j s r).length=16:=gP _ _
theorem Oj (I J Z:List Nat)(j:Nat)(b:List Nat):(oW I J Z j b).length=16:=by
 unfold oW
 split
 ·exact TY _ _ _ _ _ _
 ·exact EC _ _ _ _ _ _
theorem Fb (I J Z:List Nat)(j:Nat)(b:List Nat)(hb:∀x∈b,x<256):∀x∈oW I J Z j b,x<256:=by
 unfold oW
 split
 ·exact vL (wO I J Z j b hb _) (fT I J Z j _ (dN (Cz λx hx=>hb x (List.mem_of_mem_drop hx))))
 ·exact wO I J Z j b hb _
theorem CP (ab:Option Addr)(cb n:Nat)(r:List Nat)(hn:r.length=n)(hlen:n<2^31)(W:World)(hs:Sl W ab .u8 r) :
  Calls prog 156 #[.slice ab n cb,.int .u8 128,.int .i64 16] W λe w'=>e=.returned (.slice (some ⟨W.heap.size+1,0,none⟩) (dC (r++[128])).length (dC (r++[128])).length)/\Below W.heap.size W w'/\aA w' (W.heap.size+1) 5 (ints .u8 (dC (r++[128]))):=by
 subst hn
 exact FI ab cb 128 r hlen W hs
theorem aal (gk gt gb:Nat)(I J Z:List Nat)(j:Nat)(hj:j<2^31)(b:List Nat)(hb:∀x∈b,x<256)(hbl:b.length<2^31)(a0:Option Addr)(c0:Nat)(hc0:b.length<=c0)(w:World)(hs:Sl w a0 .u8 b)(hK:IsKey w gk gt gb I J Z) :
  Calls prog 185 #[.pointer (some ⟨gk,0,none⟩),.int .i64 (j:Int),.slice a0 b.length c0] w λe w'=>e=.returned (.agg (ints .u8 (oW I J Z j b)))/\Below w.heap.size w w':=by
 have acE:∀W,Below w.heap.size w W->IsKey W gk gt gb I J Z:=λW h=>hK.below h
 have hEE:∀(i:Nat) (x:List Nat) (hi:i<2^31) (hx:x.length=16) (hxb:∀y∈x,y<256) (W:World) (hW:Below w.heap.size w W),Calls prog 180 #[.pointer (some ⟨gk,0,none⟩),.int .i64 (j:Int),.int .i64 (i:Int),.agg (ints .u8 x)] W λe w'=>e=.returned (.agg (ints .u8 (eE I J Z j i x)))/\Below W.heap.size W w':=λi x hi hx hxb W hW=>rq gk gt gb I J Z x j i hj hi hx hxb W (acE W hW)
 obtain⟨E,HE⟩:∃E,Hid (∀i x,eE I J Z j i x=E i x):=⟨λi x=>eE I J Z j i x,aR λ_ _=>rfl⟩
 obtain⟨S,HS⟩:∃S:Nat->List Nat,Hid (∀k,IW I J Z j b k=S k):=⟨λk=>IW I J Z j b k,aR λ_=>rfl⟩
 have oh:∀k,(S k).length=16:=λk=>by rw[←HS.out];exact EC I J Z j b k
 have hSb:∀k,∀x∈S k,x<256:=λk=>by rw[←HS.out];exact wO I J Z j b hb k
 have hS0:S 0=zeros 16:=by rw[←HS.out];rfl
 have Qi:Hid (∀k,S (k+1)=qR (S k) (E (k+1) (aU (b.drop (16*k))))):=aR λk=>by rw[←HS.out,←HS.out,←HE.out];rfl
 have hEl:∀i x,x.length=16->(E i x).length=16:=λi x h=>by rw[←HE.out];exact iZ I J Z j i h
 have afK:∀i x,(∀y∈x,y<256)->∀y∈E i x,y<256:=λi x h=>by rw[←HE.out];exact fT I J Z j i h
 obtain⟨N,HN⟩:=bD (b.length)
 have HP:Hid (oW I J Z j b=if N=0∨N%16≠0 then qR (S (N/16)) (E 0 (aU (dC (b.drop (16*(N/16))++[128])))) else S (N/16)):=aR (by
  rw[←HN.out,←HS.out,←HE.out];rfl)
 simp only[HE.out] at hEE
 obtain⟨PN,HPN⟩:=bD (oW I J Z j b)
 rw[HPN.out] at HP
 clear HE HS acE hK
 rw[HN.out] at hc0 hbl ⊢
 have Z0:=(aA.new w 96 (ints .u8 (zeros 16))).alloc (.cells (ints .u8 (zeros 16)) 96)
 have Z1:=aA.new (w.alloc (.cells (ints .u8 (zeros 16)) 96)) 96 (ints .u8 (zeros 16))
 rw[World.size_alloc] at Z1
 have hbel0:=(bN w (.cells (ints .u8 (zeros 16)) 96)).alloc (by simp) (.cells (ints .u8 (zeros 16)) 96)
 go_enter func185,ntmps185
 go_wp2_with ((first|(refine ae rfl 96 rfl fw ?_));(try simp only[nn,Nat.reduceAdd]))
 by_cases hN:N=0
 ·skip
  obtain⟨J,HJ,HI0⟩:=jmp (λaJ w'=>∃(U:Nat->Value) (n:Nat) (ab:Option Addr) (cb:Nat),aJ={ tmps:=#[.pointer (some ⟨gk,0,none⟩),.int .i64 (j:Int),.slice ab n cb,U 3,U 4,U 5,.pointer (some ⟨w.heap.size,0,none⟩),.pointer (some ⟨w.heap.size+1,0,none⟩),U 8,U 9,U 10,U 11,U 12,U 13,U 14,U 15,U 16,U 17,U 18,U 19,U 20,U 21,U 22,U 23,U 24,U 25,U 26,U 27,U 28,U 29,U 30,U 31,U 32,U 33,U 34,U 35,U 36,U 37,U 38],defers:=[] }/\Hid (n=0)/\aA w' w.heap.size 96 (ints .u8 (zeros 16))/\aA w' (w.heap.size+1) 96 (ints .u8 (zeros 16))/\Below w.heap.size w w')
  have HI:Hid (∀(T:Array Value) (w':World),(∃(n:Nat) (ab:Option Addr) (cb:Nat),T=((λ(U:Nat->Value)=>#[.pointer (some ⟨gk,0,none⟩),.int .i64 (j:Int),.slice ab n cb,U 3,U 4,U 5,.pointer (some ⟨w.heap.size,0,none⟩),.pointer (some ⟨w.heap.size+1,0,none⟩),U 8,U 9,U 10,U 11,U 12,U 13,U 14,U 15,U 16,U 17,U 18,U 19,U 20,U 21,U 22,U 23,U 24,U 25,U 26,U 27,U 28,U 29,U 30,U 31,U 32,U 33,U 34,U 35,U 36,U 37,U 38]) λi=>T.getD i undef)/\Hid (n=0)/\aA w' w.heap.size 96 (ints .u8 (zeros 16))/\aA w' (w.heap.size+1) 96 (ints .u8 (zeros 16))/\Below w.heap.size w w')->J { tmps:=T,defers:=[] } w') :=
   aR λT w' ⟨n,ab,cb,hJ,rJ⟩=>HI0.out _ _ ⟨λi=>T.getD i undef,n,ab,cb,congrArg (λT=>({ tmps:=T,defers:=[] }:Act)) hJ,rJ⟩
  clear HI0
  subst hN
  obtain⟨μ,Hμ⟩:∃μ:Act->World->Nat,Hid (∀a w',μ a w'=0):=⟨λ_ _=>0,aR λ_ _=>rfl⟩
  obtain rfl:b=[]:=List.eq_nil_of_length_eq_zero HN.out
  have JV:∀x∈([]:List Nat),x<256:=hb
  have HF:Hid (PN=qR (S 0) (E 0 (aU (dC ([]++[128]))))):=aR (by rw[HP.out];rfl)
  refine dF 0 J μ (by simp only[findLabel];rfl) ?_ ?_
  ·intro a' wr hj'
   obtain⟨U,n,ab,cb,rfl,hn0,B0,B1,hbel⟩:=HJ.out _ _ hj'
   rw[←hS0] at B1
   clear hj' Z0 Z1 hbel0
   have hnl:([]:List Nat).length=n:=hn0.out.symm
   have aaS:n<2^31:=by rw[hn0.out];decide
   have hsl:Sl w ab .u8 []:=Sl.nil w ab .u8
   have afG:∀W,Below w.heap.size w W->Calls prog 156 #[.slice ab n cb,.int .u8 128,.int .i64 16] W λe w'=>e=.returned (.slice (some ⟨W.heap.size+1,0,none⟩) (dC ([]++[128])).length (dC ([]++[128])).length)/\Below W.heap.size W w'/\aA w' (W.heap.size+1) 5 (ints .u8 (dC ([]++[128]))):=λW hW=>CP ab cb n [] hnl aaS W (hsl.below hW)
   have hpb:=Cz JV
   generalize dC ([]++[128])=pl at *
   have afR:∀(g:Nat) (W:World),Sl W (some ⟨g,0,none⟩) .u8 pl->Calls prog 38 #[.slice (some ⟨g,0,none⟩) pl.length pl.length] W λe w'=>e=.returned (.agg (ints .u8 (aU pl)))/\Below W.heap.size W w':=λg W h=>fB (some ⟨g,0,none⟩) pl.length pl W h
   have hyl:=bG pl
   have hyb:=dN hpb
   generalize aU pl=y at *
   have hE0:∀W,Below w.heap.size w W->Calls prog 180 #[.pointer (some ⟨gk,0,none⟩),.int .i64 (j:Int),.int .i64 0,.agg (ints .u8 y)] W λe w'=>e=.returned (.agg (ints .u8 (E 0 y)))/\Below W.heap.size W w':=λW hW=>hEE 0 y (by decide) hyl hyb W hW
   have hel:=hEl 0 y hyl
   have aba:=afK 0 y hyb
   generalize E 0 y=e1 at *
   have OO:=oh (0)
   have TG:=hSb (0)
   generalize S (0)=sk at *
   have DW:=gP sk e1
   have zx:=hbel.size
   obtain⟨q,Hq⟩:=bD (qR sk e1)
   have hpc:=λW=>wU sk e1 OO hel TG aba W
   rw[Hq.out] at DW HF
   simp only[Hq.out] at hpc
   go_wp2_with fail
   refine bW 8 (by kernel_rfl) (by kernel_rfl) (by kernel_rfl) (by kernel_rfl) (λD bP W=>∃u3 u4 u5 u8 u9 u10 u11 u12 u13 u14 u15 u16 u17 u18 u19 u20 u21 u22 u23 u24 u25 u26 u27 u28 u29 u30 u31 u32 u33 u34 u35 u36 u37 u38:Value,bP={ tmps:=#[.pointer (some ⟨gk,0,none⟩),.int .i64 (j:Int),.slice ab n cb,u3,u4,u5,.pointer (some ⟨w.heap.size,0,none⟩),.pointer (some ⟨w.heap.size+1,0,none⟩),u8,u9,u10,u11,u12,u13,u14,u15,u16,u17,u18,u19,u20,u21,u22,u23,u24,u25,u26,u27,u28,u29,u30,u31,u32,u33,u34,u35,u36,u37,u38],defers:=[] }/\Below wr.heap.size wr W/\(D 0->u31=.agg (ints .u8 sk))/\(D 1->u32=.pointer (some ⟨gk,0,none⟩))/\(D 2->u33=.int .i64 (j:Int))/\(D 3->u34=.slice ab n cb)/\(D 4->KG W wr.heap.size u35 5 pl.length .u8 (pl))/\(D 5->u36=.agg (ints .u8 y))/\(D 6->u37=.agg (ints .u8 e1))/\(D 7->u38=.agg (ints .u8 q))) ?_ ?_ ?_
   ·exact aL <| aL <| aL <| aL <| (⟨_,_,rfl,⟨rfl,rfl,rfl,Nat.le_refl _,λ_ _=>rfl⟩,nofun,nofun,nofun,nofun,nofun,nofun,nofun,nofun⟩)
   ·intro i o hilt hi D bP W hI hnD hall
    obtain⟨u3,u4,u5,u8,u9,u10,u11,u12,u13,u14,u15,u16,u17,u18,u19,u20,u21,u22,u23,u24,u25,u26,u27,u28,u29,u30,u31,u32,u33,u34,u35,u36,u37,u38,rfl,hW,f0,f1,f2,f3,f4,f5,f6,f7⟩:=hI
    rcases i with _|_|_|_|_|_|_|_|i<;>try cases hi
    ·refine bf rfl rfl rfl rfl (B1.below' hW) aD OO ?_
     exact aL <| aL <| aL <| aL <| (⟨_,_,rfl,hW,λ_=>rfl,ro f1,ro f2,ro f3,ro f4,ro f5,ro f6,ro f7⟩)
    ·refine af (v:=.pointer (some ⟨gk,0,none⟩)) rfl rfl (by kernel_rfl) ?_
     exact aL <| aL <| aL <| aL <| (⟨_,_,rfl,hW,ro f0,λ_=>rfl,ro f2,ro f3,ro f4,ro f5,ro f6,ro f7⟩)
    ·refine af (v:=.int .i64 (j:Int)) rfl rfl (by kernel_rfl) ?_
     exact aL <| aL <| aL <| aL <| (⟨_,_,rfl,hW,ro f0,ro f1,λ_=>rfl,ro f3,ro f4,ro f5,ro f6,ro f7⟩)
    ·refine af (v:=.slice ab n cb) rfl rfl rfl ?_
     exact aL <| aL <| aL <| aL <| (⟨_,_,rfl,hW,ro f0,ro f1,ro f2,λ_=>rfl,ro f4,ro f5,ro f6,ro f7⟩)
    ·obtain rfl:=f3 (aj hall 3 rfl)
     refine iE 156 rfl rfl rfl func156 (by kernel_rfl) (by kernel_rfl) (afG W (Below.trans hbel (hW.mono zx))) ?_
     intro W' hW' hT
     exact aL <| aL <| aL <| aL <| (⟨_,_,rfl,bC hW hW',ro f0,ro f1,ro f2,ro f3,(λ_=>⟨_,rfl,by have:=hW.size;omega,rfl,hT⟩),ro f5,ro f6,ro f7⟩)
    ·obtain⟨g_,rfl,Td,Tc,Ea⟩:=f4 (aj hall 4 rfl)
     refine aV 38 rfl rfl rfl func38 (by kernel_rfl) (by kernel_rfl) (afR g_ W (Sl.blk Ea)) ?_
     intro W' hW'
     have q4:KG W wr.heap.size (.slice (some ⟨g_,0,none⟩) _ _) _ _ _ _:=⟨g_,rfl,Td,Tc,Ea⟩
     exact aL <| aL <| aL <| aL <| (⟨_,_,rfl,bC hW hW',ro f0,ro f1,ro f2,ro f3,(λ_=>q4.below hW'),λ_=>rfl,ro f6,ro f7⟩)
    ·obtain rfl:=f1 (aj hall 1 rfl)
     obtain rfl:=f2 (aj hall 2 rfl)
     obtain rfl:=f5 (aj hall 5 rfl)
     refine aV 180 rfl rfl rfl func180 (by kernel_rfl) (by kernel_rfl) (hE0 W (Below.trans hbel (hW.mono zx))) ?_
     intro W' hW'
     exact aL <| aL <| aL <| aL <| (⟨_,_,rfl,bC hW hW',ro f0,ro f1,ro f2,ro f3,(λh=>(f4 (cO h)).below hW'),ro f5,λ_=>rfl,ro f7⟩)
    ·obtain rfl:=f0 (aj hall 0 rfl)
     obtain rfl:=f6 (aj hall 6 rfl)
     refine aV 184 rfl rfl rfl func184 (by kernel_rfl) (by kernel_rfl) (hpc W) ?_
     intro W' hW'
     exact aL <| aL <| aL <| aL <| (⟨_,_,rfl,bC hW hW',ro f0,ro f1,ro f2,ro f3,(λh=>(f4 (cO h)).below hW'),ro f5,ro f6,λ_=>rfl⟩)
    ·exfalso;omega
   ·rintro D bP W ⟨u3,u4,u5,u8,u9,u10,u11,u12,u13,u14,u15,u16,u17,u18,u19,u20,u21,u22,u23,u24,u25,u26,u27,u28,u29,u30,u31,u32,u33,u34,u35,u36,u37,u38,rfl,hW,f0,f1,f2,f3,f4,f5,f6,f7⟩ hall
    obtain rfl:=f0 (hall 0 (by decide))
    obtain rfl:=f1 (hall 1 (by decide))
    obtain rfl:=f2 (hall 2 (by decide))
    obtain rfl:=f3 (hall 3 (by decide))
    obtain rfl:=f5 (hall 5 (by decide))
    obtain rfl:=f6 (hall 6 (by decide))
    obtain rfl:=f7 (hall 7 (by decide))
    obtain⟨g35,rfl,hg35,hl35,hB35⟩:=f4 (hall 4 (by decide))
    clear f0 f1 f2 f3 f4 f5 f6 f7 hall
    simp only[List.drop_succ_cons,List.drop_zero]
    have C0:=B0.below' hW
    have aK:=bC hbel hW
    clear B0 B1 afG afR hE0
    go_wp2_with (refine aa rfl 96 _ _ rfl _ rfl rfl C0 (ah _ _) aD DW ?_;(try simp only[nn,Nat.reduceAdd]))
    (try simp only[Exit.jump,Exit.inBlock,Exit.then])
    exact aO rfl rfl (C0.row _) aD DW ⟨by rw[HPN.out,HF.out],az aK dM _⟩
  ·intro pass
   go_wp2_with ((first|(refine ae rfl 96 rfl fw ?_));(try simp only[nn,Nat.reduceAdd]))
   go_step3
   exact⟨rfl,HI.out _ _ ⟨0,a0,c0,rfl,aR rfl,Z0,Z1,hbel0⟩⟩
 ·skip
  obtain⟨J,HJ,HI0⟩:=jmp (λaJ w'=>∃(U:Nat->Value) (k:Nat) (ab:Option Addr) (cb:Nat),aJ={ tmps:=#[.pointer (some ⟨gk,0,none⟩),.int .i64 (j:Int),.slice ab (N-16*k) cb,U 3,U 4,U 5,.pointer (some ⟨w.heap.size,0,none⟩),.pointer (some ⟨w.heap.size+1,0,none⟩),.int .i64 (k:Int),U 9,U 10,U 11,U 12,U 13,U 14,U 15,U 16,U 17,U 18,U 19,U 20,U 21,U 22,U 23,U 24,U 25,U 26,U 27,U 28,U 29,U 30,U 31,U 32,U 33,U 34,U 35,U 36,U 37,U 38],defers:=[] }/\16*k<=N/\N-16*k<=cb/\Sl w ab .u8 (b.drop (16*k))/\aA w' w.heap.size 96 (ints .u8 (zeros 16))/\aA w' (w.heap.size+1) 96 (ints .u8 (S k))/\Below w.heap.size w w')
  have HI:Hid (∀(T:Array Value) (w':World),(∃(k:Nat) (ab:Option Addr) (cb:Nat),T=((λ(U:Nat->Value)=>#[.pointer (some ⟨gk,0,none⟩),.int .i64 (j:Int),.slice ab (N-16*k) cb,U 3,U 4,U 5,.pointer (some ⟨w.heap.size,0,none⟩),.pointer (some ⟨w.heap.size+1,0,none⟩),.int .i64 (k:Int),U 9,U 10,U 11,U 12,U 13,U 14,U 15,U 16,U 17,U 18,U 19,U 20,U 21,U 22,U 23,U 24,U 25,U 26,U 27,U 28,U 29,U 30,U 31,U 32,U 33,U 34,U 35,U 36,U 37,U 38]) λi=>T.getD i undef)/\16*k<=N/\N-16*k<=cb/\Sl w ab .u8 (b.drop (16*k))/\aA w' w.heap.size 96 (ints .u8 (zeros 16))/\aA w' (w.heap.size+1) 96 (ints .u8 (S k))/\Below w.heap.size w w')->J { tmps:=T,defers:=[] } w') :=
   aR λT w' ⟨k,ab,cb,hJ,rJ⟩=>HI0.out _ _ ⟨λi=>T.getD i undef,k,ab,cb,congrArg (λT=>({ tmps:=T,defers:=[] }:Act)) hJ,rJ⟩
  clear HI0
  obtain⟨μ,Hμ⟩:∃μ:Act->World->Nat,Hid (∀a w',μ a w'=N+1-(intOf (a.tmps.getD 8 undef)).toNat):=⟨_,aR λ_ _=>rfl⟩
  refine dF 1 J μ (by simp only[findLabel];rfl) ?_ ?_
  ·intro a' wr hj'
   obtain⟨U,k,ab,cb,rfl,hk,hcb,hsl,B0,B1,hbel⟩:=HJ.out _ _ hj'
   clear hj' Z0 Z1 hbel0 hs
   have hdl:(b.drop (16*k)).length=N-16*k:=by rw[List.length_drop,HN.out]
   have JV:∀x∈b.drop (16*k),x<256:=λx hx=>hb x (List.mem_of_mem_drop hx)
   obtain⟨r,Hr⟩:=bD (b.drop (16*k))
   have HS2:=aR (Qi.out k)
   rw[Hr.out] at hsl hdl JV HS2
   have hBl:=bG r
   have hBb:=dN JV
   obtain⟨y,Hy⟩:=bD (aU r)
   rw[Hy.out] at hBl hBb
   by_cases h16:16<=N-16*k
   ·have hd1:decide (((N-16*k:Nat):Int)≥16)=true:=by simp;omega
    have hk31:k+1<2^31:=by omega
    have hel:=hEl (k+1) y hBl
    have aba:=afK (k+1) y hBb
    have iy:∀W,Below w.heap.size w W->Calls prog 38 #[.slice ab (N-16*k) cb] W λe w'=>e=.returned (.agg (ints .u8 y))/\Below W.heap.size W w':=λW hW=>by
     have h:=fB ab cb r W (hsl.below hW)
     rw[hdl,Hy.out] at h
     exact h
    have hE1:∀W,Below w.heap.size w W->Calls prog 180 #[.pointer (some ⟨gk,0,none⟩),.int .i64 (j:Int),.int .i64 ((k:Int)+1),.agg (ints .u8 y)] W λe w'=>e=.returned (.agg (ints .u8 (E (k+1) y)))/\Below W.heap.size W w':=λW hW=>hEE (k+1) y hk31 hBl hBb W hW
    rw[Hy.out] at HS2
    have OO:=oh k
    have TG:=hSb k
    generalize E (k+1) y=e1 at *
    generalize S k=sk at *
    have DW:=gP sk e1
    obtain⟨q,Hq⟩:=bD (qR sk e1)
    have hpc:=λW=>wU sk e1 OO hel TG aba W
    rw[Hq.out] at DW HS2
    simp only[Hq.out] at hpc
    have zx:=hbel.size
    have hwk:IntKind.i64.wrap ((k:Int)+1)=(k:Int)+1:=by rw[IntKind.wrap_i64];omega
    go_wp2_with fail
    refine bW 8 (by kernel_rfl) (by kernel_rfl) (by kernel_rfl) (by kernel_rfl) (λD bP W=>∃u3 u4 u5 u9 u10 u11 u12 u13 u14 u15 u16 u17 u18 u19 u20 u21 u22 u23 u24 u25 u26 u27 u28 u29 u30 u31 u32 u33 u34 u35 u36 u37 u38:Value,bP={ tmps:=#[.pointer (some ⟨gk,0,none⟩),.int .i64 (j:Int),.slice ab (N-16*k) cb,u3,u4,u5,.pointer (some ⟨w.heap.size,0,none⟩),.pointer (some ⟨w.heap.size+1,0,none⟩),.int .i64 ((k:Int)+1),u9,u10,u11,u12,u13,u14,u15,u16,u17,u18,u19,u20,u21,u22,u23,u24,u25,u26,u27,u28,u29,u30,u31,u32,u33,u34,u35,u36,u37,u38],defers:=[] }/\Below wr.heap.size wr W/\(D 0->u17=.agg (ints .u8 sk))/\(D 1->u18=.pointer (some ⟨gk,0,none⟩))/\(D 2->u19=.int .i64 (j:Int))/\(D 3->u20=.int .i64 ((k:Int)+1))/\(D 4->u21=.slice ab (N-16*k) cb)/\(D 5->u22=.agg (ints .u8 y))/\(D 6->u23=.agg (ints .u8 e1))/\(D 7->u24=.agg (ints .u8 q))) ?_ ?_ ?_
    ·exact aL <| aL <| aL <| aL <| (⟨_,rfl,⟨rfl,rfl,rfl,Nat.le_refl _,λ_ _=>rfl⟩,nofun,nofun,nofun,nofun,nofun,nofun,nofun,nofun⟩)
    ·intro i o hilt hi D bP W hI hnD hall
     obtain⟨u3,u4,u5,u9,u10,u11,u12,u13,u14,u15,u16,u17,u18,u19,u20,u21,u22,u23,u24,u25,u26,u27,u28,u29,u30,u31,u32,u33,u34,u35,u36,u37,u38,rfl,hW,f0,f1,f2,f3,f4,f5,f6,f7⟩:=hI
     rcases i with _|_|_|_|_|_|_|_|i<;>try cases hi
     ·refine bf rfl rfl rfl rfl (B1.below' hW) aD OO ?_
      exact aL <| aL <| aL <| aL <| (⟨_,rfl,hW,λ_=>rfl,ro f1,ro f2,ro f3,ro f4,ro f5,ro f6,ro f7⟩)
     ·refine af (v:=.pointer (some ⟨gk,0,none⟩)) rfl rfl (by kernel_rfl) ?_
      exact aL <| aL <| aL <| aL <| (⟨_,rfl,hW,ro f0,λ_=>rfl,ro f2,ro f3,ro f4,ro f5,ro f6,ro f7⟩)
     ·refine af (v:=.int .i64 (j:Int)) rfl rfl (by kernel_rfl) ?_
      exact aL <| aL <| aL <| aL <| (⟨_,rfl,hW,ro f0,ro f1,λ_=>rfl,ro f3,ro f4,ro f5,ro f6,ro f7⟩)
     ·refine af (v:=.int .i64 ((k:Int)+1)) rfl rfl (by kernel_rfl) ?_
      exact aL <| aL <| aL <| aL <| (⟨_,rfl,hW,ro f0,ro f1,ro f2,λ_=>rfl,ro f4,ro f5,ro f6,ro f7⟩)
     ·refine af (v:=.slice ab (N-16*k) cb) rfl rfl rfl ?_
      exact aL <| aL <| aL <| aL <| (⟨_,rfl,hW,ro f0,ro f1,ro f2,ro f3,λ_=>rfl,ro f5,ro f6,ro f7⟩)
     ·obtain rfl:=f4 (aj hall 4 rfl)
      refine aV 38 rfl rfl rfl func38 (by kernel_rfl) (by kernel_rfl) (iy W (Below.trans hbel (hW.mono zx))) ?_
      intro W' hW'
      exact aL <| aL <| aL <| aL <| (⟨_,rfl,bC hW hW',ro f0,ro f1,ro f2,ro f3,ro f4,λ_=>rfl,ro f6,ro f7⟩)
     ·obtain rfl:=f1 (aj hall 1 rfl)
      obtain rfl:=f2 (aj hall 2 rfl)
      obtain rfl:=f3 (aj hall 3 rfl)
      obtain rfl:=f5 (aj hall 5 rfl)
      refine aV 180 rfl rfl rfl func180 (by kernel_rfl) (by kernel_rfl) (hE1 W (Below.trans hbel (hW.mono zx))) ?_
      intro W' hW'
      exact aL <| aL <| aL <| aL <| (⟨_,rfl,bC hW hW',ro f0,ro f1,ro f2,ro f3,ro f4,ro f5,λ_=>rfl,ro f7⟩)
     ·obtain rfl:=f0 (aj hall 0 rfl)
      obtain rfl:=f6 (aj hall 6 rfl)
      refine aV 184 rfl rfl rfl func184 (by kernel_rfl) (by kernel_rfl) (hpc W) ?_
      intro W' hW'
      exact aL <| aL <| aL <| aL <| (⟨_,rfl,bC hW hW',ro f0,ro f1,ro f2,ro f3,ro f4,ro f5,ro f6,λ_=>rfl⟩)
     ·exfalso;omega
    ·rintro D bP W ⟨u3,u4,u5,u9,u10,u11,u12,u13,u14,u15,u16,u17,u18,u19,u20,u21,u22,u23,u24,u25,u26,u27,u28,u29,u30,u31,u32,u33,u34,u35,u36,u37,u38,rfl,hW,f0,f1,f2,f3,f4,f5,f6,f7⟩ hall
     obtain rfl:=f0 (hall 0 (by decide))
     obtain rfl:=f1 (hall 1 (by decide))
     obtain rfl:=f2 (hall 2 (by decide))
     obtain rfl:=f3 (hall 3 (by decide))
     obtain rfl:=f4 (hall 4 (by decide))
     obtain rfl:=f5 (hall 5 (by decide))
     obtain rfl:=f6 (hall 6 (by decide))
     obtain rfl:=f7 (hall 7 (by decide))
     clear f0 f1 f2 f3 f4 f5 f6 f7 hall
     simp only[List.drop_succ_cons,List.drop_zero]
     have C1:=B1.below' hW
     have C0:=B0.below' hW
     have aK:=bC hbel hW
     clear B0 B1 iy hE1
     have D1:=C1.row (ints .u8 q)
     have D0:=C0.aM (show w.heap.size≠w.heap.size+1 by omega) (ints .u8 q)
     have aB:=az aK (show w.heap.size<=w.heap.size+1 by omega) (ints .u8 q)
     go_wp2_with ((first
      | (refine aa rfl 96 _ _ rfl _ rfl rfl C1 (by rw[aF,OO]) aD DW ?_;(generalize W.setRow (w.heap.size+1) (ints .u8 q)=w3 at *))
      | (refine iD (n:=16) rfl rfl underlying23 s15 rfl rfl h16 ?_;intro sI c2 hsl2 hc2));(try simp only[nn,Nat.reduceAdd]))
     go_step3
     refine⟨rfl,HI.out _ _ ⟨k+1,sI,c2,?_,by omega,by have:=hc2 hcb;omega,?_,D0,by rw[HS2.out];exact D1,aB⟩,?_⟩
     ·rw[show N-16*(k+1)=N-16*k-16 by omega];rfl
     ·have h:=hsl2 w .u8 r hsl (by omega)
      rw[←Hr.out,List.drop_drop,show 16*k+16=16*(k+1) by omega] at h
      exact h
     ·rw[Hμ.out,Hμ.out]
      change N+1-((k:Int)+1).toNat<N+1-(k:Int).toNat
      omega
   ·have hd1:decide (((N-16*k:Nat):Int)≥16)=false:=by rw[decide_eq_false_iff_not];omega
    have Hkq:Hid (k=N/16):=aR (by omega)
    clear HS2 hBl hBb
    by_cases h0:N-16*k=0
    ·have HF:Hid (PN=S k):=aR (by rw[HP.out,if_neg (by omega),←Hkq.out])
     have OO:=oh k
     obtain⟨n,Hn⟩:=bD (N-16*k)
     rw[Hn.out] at h0 hd1 ⊢
     subst h0
     go_wp2_with ((first
      | (refine ag rfl 96 _ rfl _ rfl B1 aD OO ?_)
      | (refine aa rfl 96 _ _ rfl _ rfl rfl B0 (ah _ _) aD OO ?_));(try simp only[nn,Nat.reduceAdd]))
     (try simp only[Exit.jump,Exit.inBlock,Exit.then])
     exact aO rfl rfl (B0.row _) aD OO ⟨by rw[HPN.out,HF.out],az hbel dM _⟩
    ·have hne:((N-16*k:Nat):Int)≠0:=by omega
     have hd2:(((N-16*k:Nat):Int)==0)=false:=by simp;omega
     have HF:Hid (PN=qR (S k) (E 0 (aU (dC (r++[128]))))):=aR (by rw[HP.out,if_pos (by omega),←Hkq.out,Hr.out])
     obtain⟨n,Hn⟩:=bD (N-16*k)
     rw[Hn.out] at hd1 hd2 hcb hdl ⊢
     have hnl:r.length=n:=hdl
     have aaS:n<2^31:=by rw[←Hn.out];omega
     have afG:∀W,Below w.heap.size w W->Calls prog 156 #[.slice ab n cb,.int .u8 128,.int .i64 16] W λe w'=>e=.returned (.slice (some ⟨W.heap.size+1,0,none⟩) (dC (r++[128])).length (dC (r++[128])).length)/\Below W.heap.size W w'/\aA w' (W.heap.size+1) 5 (ints .u8 (dC (r++[128]))):=λW hW=>CP ab cb n r hnl aaS W (hsl.below hW)
     have hpb:=Cz JV
     generalize dC (r++[128])=pl at *
     have afR:∀(g:Nat) (W:World),Sl W (some ⟨g,0,none⟩) .u8 pl->Calls prog 38 #[.slice (some ⟨g,0,none⟩) pl.length pl.length] W λe w'=>e=.returned (.agg (ints .u8 (aU pl)))/\Below W.heap.size W w':=λg W h=>fB (some ⟨g,0,none⟩) pl.length pl W h
     have hyl:=bG pl
     have hyb:=dN hpb
     generalize aU pl=y at *
     have hE0:∀W,Below w.heap.size w W->Calls prog 180 #[.pointer (some ⟨gk,0,none⟩),.int .i64 (j:Int),.int .i64 0,.agg (ints .u8 y)] W λe w'=>e=.returned (.agg (ints .u8 (E 0 y)))/\Below W.heap.size W w':=λW hW=>hEE 0 y (by decide) hyl hyb W hW
     have hel:=hEl 0 y hyl
     have aba:=afK 0 y hyb
     generalize E 0 y=e1 at *
     have OO:=oh (k)
     have TG:=hSb (k)
     generalize S (k)=sk at *
     have DW:=gP sk e1
     have zx:=hbel.size
     obtain⟨q,Hq⟩:=bD (qR sk e1)
     have hpc:=λW=>wU sk e1 OO hel TG aba W
     rw[Hq.out] at DW HF
     simp only[Hq.out] at hpc
     go_wp2_with fail
     refine wp_label ?_
     rename_i hKx
     refine hKx _ _ ?_
     clear hKx
     go_wp2_with fail
     refine bW 8 (by kernel_rfl) (by kernel_rfl) (by kernel_rfl) (by kernel_rfl) (λD bP W=>∃u3 u4 u5 u8 u9 u10 u11 u12 u13 u14 u15 u16 u17 u18 u19 u20 u21 u22 u23 u24 u25 u26 u27 u28 u29 u30 u31 u32 u33 u34 u35 u36 u37 u38:Value,bP={ tmps:=#[.pointer (some ⟨gk,0,none⟩),.int .i64 (j:Int),.slice ab n cb,u3,u4,u5,.pointer (some ⟨w.heap.size,0,none⟩),.pointer (some ⟨w.heap.size+1,0,none⟩),u8,u9,u10,u11,u12,u13,u14,u15,u16,u17,u18,u19,u20,u21,u22,u23,u24,u25,u26,u27,u28,u29,u30,u31,u32,u33,u34,u35,u36,u37,u38],defers:=[] }/\Below wr.heap.size wr W/\(D 0->u31=.agg (ints .u8 sk))/\(D 1->u32=.pointer (some ⟨gk,0,none⟩))/\(D 2->u33=.int .i64 (j:Int))/\(D 3->u34=.slice ab n cb)/\(D 4->KG W wr.heap.size u35 5 pl.length .u8 (pl))/\(D 5->u36=.agg (ints .u8 y))/\(D 6->u37=.agg (ints .u8 e1))/\(D 7->u38=.agg (ints .u8 q))) ?_ ?_ ?_
     ·exact aL <| aL <| aL <| aL <| (⟨_,_,rfl,⟨rfl,rfl,rfl,Nat.le_refl _,λ_ _=>rfl⟩,nofun,nofun,nofun,nofun,nofun,nofun,nofun,nofun⟩)
     ·intro i o hilt hi D bP W hI hnD hall
      obtain⟨u3,u4,u5,u8,u9,u10,u11,u12,u13,u14,u15,u16,u17,u18,u19,u20,u21,u22,u23,u24,u25,u26,u27,u28,u29,u30,u31,u32,u33,u34,u35,u36,u37,u38,rfl,hW,f0,f1,f2,f3,f4,f5,f6,f7⟩:=hI
      rcases i with _|_|_|_|_|_|_|_|i<;>try cases hi
      ·refine bf rfl rfl rfl rfl (B1.below' hW) aD OO ?_
       exact aL <| aL <| aL <| aL <| (⟨_,_,rfl,hW,λ_=>rfl,ro f1,ro f2,ro f3,ro f4,ro f5,ro f6,ro f7⟩)
      ·refine af (v:=.pointer (some ⟨gk,0,none⟩)) rfl rfl (by kernel_rfl) ?_
       exact aL <| aL <| aL <| aL <| (⟨_,_,rfl,hW,ro f0,λ_=>rfl,ro f2,ro f3,ro f4,ro f5,ro f6,ro f7⟩)
      ·refine af (v:=.int .i64 (j:Int)) rfl rfl (by kernel_rfl) ?_
       exact aL <| aL <| aL <| aL <| (⟨_,_,rfl,hW,ro f0,ro f1,λ_=>rfl,ro f3,ro f4,ro f5,ro f6,ro f7⟩)
      ·refine af (v:=.slice ab n cb) rfl rfl rfl ?_
       exact aL <| aL <| aL <| aL <| (⟨_,_,rfl,hW,ro f0,ro f1,ro f2,λ_=>rfl,ro f4,ro f5,ro f6,ro f7⟩)
      ·obtain rfl:=f3 (aj hall 3 rfl)
       refine iE 156 rfl rfl rfl func156 (by kernel_rfl) (by kernel_rfl) (afG W (Below.trans hbel (hW.mono zx))) ?_
       intro W' hW' hT
       exact aL <| aL <| aL <| aL <| (⟨_,_,rfl,bC hW hW',ro f0,ro f1,ro f2,ro f3,(λ_=>⟨_,rfl,by have:=hW.size;omega,rfl,hT⟩),ro f5,ro f6,ro f7⟩)
      ·obtain⟨g_,rfl,Td,Tc,Ea⟩:=f4 (aj hall 4 rfl)
       refine aV 38 rfl rfl rfl func38 (by kernel_rfl) (by kernel_rfl) (afR g_ W (Sl.blk Ea)) ?_
       intro W' hW'
       have q4:KG W wr.heap.size (.slice (some ⟨g_,0,none⟩) _ _) _ _ _ _:=⟨g_,rfl,Td,Tc,Ea⟩
       exact aL <| aL <| aL <| aL <| (⟨_,_,rfl,bC hW hW',ro f0,ro f1,ro f2,ro f3,(λ_=>q4.below hW'),λ_=>rfl,ro f6,ro f7⟩)
      ·obtain rfl:=f1 (aj hall 1 rfl)
       obtain rfl:=f2 (aj hall 2 rfl)
       obtain rfl:=f5 (aj hall 5 rfl)
       refine aV 180 rfl rfl rfl func180 (by kernel_rfl) (by kernel_rfl) (hE0 W (Below.trans hbel (hW.mono zx))) ?_
       intro W' hW'
       exact aL <| aL <| aL <| aL <| (⟨_,_,rfl,bC hW hW',ro f0,ro f1,ro f2,ro f3,(λh=>(f4 (cO h)).below hW'),ro f5,λ_=>rfl,ro f7⟩)
      ·obtain rfl:=f0 (aj hall 0 rfl)
       obtain rfl:=f6 (aj hall 6 rfl)
       refine aV 184 rfl rfl rfl func184 (by kernel_rfl) (by kernel_rfl) (hpc W) ?_
       intro W' hW'
       exact aL <| aL <| aL <| aL <| (⟨_,_,rfl,bC hW hW',ro f0,ro f1,ro f2,ro f3,(λh=>(f4 (cO h)).below hW'),ro f5,ro f6,λ_=>rfl⟩)
      ·exfalso;omega
     ·rintro D bP W ⟨u3,u4,u5,u8,u9,u10,u11,u12,u13,u14,u15,u16,u17,u18,u19,u20,u21,u22,u23,u24,u25,u26,u27,u28,u29,u30,u31,u32,u33,u34,u35,u36,u37,u38,rfl,hW,f0,f1,f2,f3,f4,f5,f6,f7⟩ hall
      obtain rfl:=f0 (hall 0 (by decide))
      obtain rfl:=f1 (hall 1 (by decide))
      obtain rfl:=f2 (hall 2 (by decide))
      obtain rfl:=f3 (hall 3 (by decide))
      obtain rfl:=f5 (hall 5 (by decide))
      obtain rfl:=f6 (hall 6 (by decide))
      obtain rfl:=f7 (hall 7 (by decide))
      obtain⟨g35,rfl,hg35,hl35,hB35⟩:=f4 (hall 4 (by decide))
      clear f0 f1 f2 f3 f4 f5 f6 f7 hall
      simp only[List.drop_succ_cons,List.drop_zero]
      have C0:=B0.below' hW
      have aK:=bC hbel hW
      clear B0 B1 afG afR hE0
      go_wp2_with (refine aa rfl 96 _ _ rfl _ rfl rfl C0 (ah _ _) aD DW ?_;(try simp only[nn,Nat.reduceAdd]))
      (try simp only[Exit.jump,Exit.inBlock,Exit.then])
      exact aO rfl rfl (C0.row _) aD DW ⟨by rw[HPN.out,HF.out],az aK dM _⟩
  ·intro pass
   go_wp2_with ((first|(refine ae rfl 96 rfl fw ?_));(try simp only[nn,Nat.reduceAdd]))
   refine wp_label ?_
   rename_i hKx
   refine hKx _ _ ?_
   exact pass _ _ (HI.out _ _ ⟨0,a0,c0,by rw[Nat.mul_zero,Nat.sub_zero];rfl,by omega,by omega,by rw[Nat.mul_zero];exact hs,Z0,by rw[hS0];exact Z1,hbel0⟩)
end
end Go.Proofs.YtaiffkajkbiidaaGreatDoor
