/- What this claim leans on, part 19: laws of the model, and what functions of the program compute. No condition but what each law states. -/
import Derived.Test.YtaiffkajkbiidaaGreatDoorQ10
namespace Go.Proofs.YtaiffkajkbiidaaGreatDoor
set_option linter.unusedSimpArgs false
set_option linter.unusedVariables false
set_option linter.unusedSectionVars false
set_option maxRecDepth 100000
set_option maxHeartbeats 40000000
open Go.Proofs.Tryz
open Tryz
section
open Go.RowKit
namespace zG
def val (xs:List Nat):Nat:=dL 67108864 xs
def numOf (v:Nat):List Nat:=cZ 67108864 5 (v%pp)
def yL (s:Nat×List Nat)(k:Nat):Nat×List Nat:=((s.2.getD k 0+s.1)/67108864,s.2.set k ((s.2.getD k 0+s.1)%67108864))
def eY (xs:List Nat):Nat->Nat×List Nat
 | 0=>(0,xs)
 | k+1=>yL (eY xs k) k
def bU (xs:List Nat):List Nat:=(eY xs 5).2.set 0 ((eY xs 5).2.getD 0 0+5*(eY xs 5).1)
theorem mK {α:Type}{xs:List α}(h:xs.length=5):∃a b c d e,xs=[a,b,c,d,e]:=by
 match xs,h with
 | [a,b,c,d,e],_=>exact⟨a,b,c,d,e,rfl⟩
theorem yS (xs:List Nat)(k:Nat):(eY xs k).2.length=xs.length:=by
 induction k with
 | zero=>rfl
 | succ k ih=>simp[eY,yL,ih]
theorem uG (xs:List Nat)(B:Nat)(hB:B<=2^60)(h26:67108864<=B)(hb:∀x∈xs,x<B)(k:Nat):(eY xs k).1<2^35/\∀x∈(eY xs k).2,x<B:=by
 induction k with
 | zero=>exact⟨by simp[eY],hb⟩
 | succ k ih =>
  obtain⟨h1,h2⟩:=ih
  have hv:(eY xs k).2.getD k 0<B:=by
   by_cases h:k<(eY xs k).2.length
   ·rw[List.getD_eq_getElem?_getD,List.getElem?_eq_getElem h]
    exact h2 _ (List.getElem_mem h)
   ·rw[List.getD_eq_getElem?_getD,List.getElem?_eq_none (by omega)];show 0<B;omega
  simp only[eY,yL]
  refine⟨by omega,λx hx=>?_⟩
  rcases List.mem_or_eq_of_mem_set hx with h|h
  ·exact h2 x h
  ·subst h;omega
theorem Dx (xs:List Nat):(bU xs).length=xs.length:=by simp[bU,yS]
theorem yT {xs:List Nat}(hl:xs.length=5)(hb:∀x∈xs,x<2^60):∀x∈bU xs,x<2^60:=by
 obtain⟨a,b,c,d,e,rfl⟩:=mK hl
 intro x hx
 obtain⟨h1,h2⟩:=uG [a,b,c,d,e] (2^60) (by omega) (by omega) hb 5
 unfold bU at hx
 rcases List.mem_or_eq_of_mem_set hx with h|h
 ·exact h2 x h
 ·subst h
  have:(eY [a,b,c,d,e] 5).2.getD 0 0=a%67108864:=by simp[eY,yL]
  rw[this];omega
def Aa (a b c d e:Nat):List Nat :=
 [a%67108864+5*((e+(d+(c+(b+a/67108864)/67108864)/67108864)/67108864)/67108864),(b+a/67108864)%67108864,(c+(b+a/67108864)/67108864)%67108864,
  (d+(c+(b+a/67108864)/67108864)/67108864)%67108864,(e+(d+(c+(b+a/67108864)/67108864)/67108864)/67108864)%67108864]
theorem iM (a b c d e:Nat):bU [a,b,c,d,e]=Aa a b c d e:=by simp[bU,eY,yL,Aa]
def Zr (a b c d e:Nat):Nat:=(e+(d+(c+(b+a/67108864)/67108864)/67108864)/67108864)/67108864
theorem yU (a b c d e:Nat):val (Aa a b c d e)+Zr a b c d e*pp=val [a,b,c,d,e]:=by
 simp only[val,dL,Aa,Zr,pp]
 omega
theorem vP {a b c d e:Nat}(h:Zr a b c d e≠0):val (Aa a b c d e)<val [a,b,c,d,e]:=by
 have:=yU a b c d e
 have h2:0<Zr a b c d e*pp:=Nat.mul_pos (Nat.pos_of_ne_zero h) (by decide)
 omega
theorem GN {a b c d e:Nat}(h:Zr a b c d e=0):∀x∈Aa a b c d e,x<67108864:=by
 intro x hx
 unfold Zr at h
 simp only[Aa,h,List.mem_cons,List.not_mem_nil,or_false] at hx
 rcases hx with rfl|rfl|rfl|rfl|rfl<;>omega
theorem Dv {a b c d e:Nat}(h:∀x∈[a,b,c,d,e],x<67108864):Aa a b c d e=[a,b,c,d,e]:=by
 have ha:=h a (by simp)
 have hb:=h b (by simp)
 have hc:=h c (by simp)
 have hd:=h d (by simp)
 have he:=h e (by simp)
 have e1:a/67108864=0:=by omega
 have e2:b/67108864=0:=by omega
 have e3:c/67108864=0:=by omega
 have e4:d/67108864=0:=by omega
 have e5:e/67108864=0:=by omega
 simp only[Aa,e1,e2,e3,e4,e5,Nat.add_zero]
 rw[Nat.mod_eq_of_lt ha,Nat.mod_eq_of_lt hb,Nat.mod_eq_of_lt hc,Nat.mod_eq_of_lt hd,Nat.mod_eq_of_lt he,Nat.mul_zero,Nat.add_zero]
theorem Gt {xs:List Nat}(hl:xs.length=5)(h:bU xs=xs):∀x∈xs,x<67108864:=by
 obtain⟨a,b,c,d,e,rfl⟩:=mK hl
 rw[iM] at h
 have h0:Zr a b c d e=0:=by
  refine Classical.byContradiction λhn=>?_
  have:=vP hn
  rw[h] at this
  exact absurd this (Nat.lt_irrefl _)
 have:=GN h0
 rwa [h] at this
def left (xs:List Nat):Nat:=2*val xs+if bU xs=xs then 0 else 1
theorem WK {xs:List Nat}(hl:xs.length=5)(h:bU xs≠xs):left (bU xs)<left xs:=by
 obtain⟨a,b,c,d,e,rfl⟩:=mK hl
 unfold left
 rw[if_neg h]
 by_cases h0:Zr a b c d e=0
 ·have h1:=GN h0
  have h2:bU (bU [a,b,c,d,e])=bU [a,b,c,d,e]:=by
   rw[iM] at *
   generalize hcs:Aa a b c d e=cs at *
   obtain⟨a',b',c',d',e',rfl⟩:∃a b c d e,cs=[a,b,c,d,e]:=mK (by rw[←hcs];rfl)
   rw[iM,Dv h1]
  rw[if_pos h2,iM]
  have h3:=yU a b c d e
  rw[h0] at h3
  omega
 ·rw[iM]
  have h3:=vP h0
  split<;>omega
theorem Dw {xs:List Nat}(hl:xs.length=5):val (bU xs)%pp=val xs%pp:=by
 obtain⟨a,b,c,d,e,rfl⟩:=mK hl
 rw[iM,←yU a b c d e,Nat.add_mul_mod_self_right]
theorem Om {x:Nat}(h:∀y∈[x,67108863,67108863,67108863,67108863],y<67108864)(hx:67108858<x):numOf (val [x,67108863,67108863,67108863,67108863])=[x-67108859,0,0,0,0]:=by
 have h0:=h x (by simp)
 have hv:val [x,67108863,67108863,67108863,67108863]%pp=x-67108859:=by
  simp only[val,dL,pp]
  omega
 unfold numOf
 rw[hv]
 have e1:(x-67108859)/67108864=0:=by omega
 simp only[cZ,e1,Nat.zero_div,Nat.zero_mod]
 rw[Nat.mod_eq_of_lt (by omega)]
theorem Fp {xs:List Nat}(hl:xs.length=5)(h:∀y∈xs,y<67108864)(hn:¬(xs.drop 1=[67108863,67108863,67108863,67108863]/\67108858<xs.getD 0 0)):numOf (val xs)=xs:=by
 have hd:=jX 67108864 xs h
 rw[hl] at hd
 have hv:val xs<pp:=by
  obtain⟨a,b,c,d,e,rfl⟩:=mK hl
  have ha:=h a (by simp)
  have hb:=h b (by simp)
  have hc:=h c (by simp)
  have hd':=h d (by simp)
  have he:=h e (by simp)
  simp only[List.drop_succ_cons,List.drop_zero,List.cons.injEq,and_true,List.getD_cons_zero] at hn
  simp only[val,dL,pp]
  omega
 unfold numOf
 rw[Nat.mod_eq_of_lt hv]
 exact hd
theorem bB (v:Nat):(numOf v).length=5:=by simp[numOf]
theorem kE (v:Nat):∀x∈numOf v,x<67108864:=dU (by omega) _ _
def addN (xs ys:List Nat):Nat->List Nat
 | 0=>xs
 | k+1=>(addN xs ys k).set k ((addN xs ys k).getD k 0+ys.getD k 0)
theorem vJ (xs ys:List Nat)(k:Nat):addN xs ys (k+1)=(addN xs ys k).set k ((addN xs ys k).getD k 0+ys.getD k 0):=rfl
theorem UI (xs ys:List Nat)(k:Nat):(addN xs ys k).length=xs.length:=by
 induction k with
 | zero=>rfl
 | succ k ih=>simp[addN,ih]
theorem UJ (xs ys:List Nat)(k i:Nat)(h:k<=i):(addN xs ys k).getD i 0=xs.getD i 0:=by
 induction k with
 | zero=>rfl
 | succ k ih =>
  rw[vJ,List.getD_eq_getElem?_getD,List.getElem?_set_ne (by omega),←List.getD_eq_getElem?_getD,ih (by omega)]
theorem uu {xs:List Nat}{B:Nat}(hb:∀x∈xs,x<B)(hB:0<B)(i:Nat):xs.getD i 0<B:=by
 rw[List.getD_eq_getElem?_getD]
 by_cases h:i<xs.length
 ·rw[List.getElem?_eq_getElem h];exact hb _ (List.getElem_mem h)
 ·rw[List.getElem?_eq_none (by omega)];exact hB
theorem Yf {xs ys:List Nat}(_hl:xs.length=5)(hx:∀x∈xs,x<2^32)(hy:∀x∈ys,x<2^32)(k:Nat):∀x∈addN xs ys k,x<2^33:=by
 induction k with
 | zero=>intro x h;exact Nat.lt_trans (hx x h) (by omega)
 | succ k ih =>
  intro x h
  rw[vJ] at h
  rcases List.mem_or_eq_of_mem_set h with h|rfl
  ·exact ih x h
  ·rw[UJ _ _ _ _ dM]
   have h1:=uu hx (by omega) k
   have h2:=uu hy (by omega) k
   omega
theorem UH {xs ys:List Nat}(hl:xs.length=5)(hl':ys.length=5):val (addN xs ys 5)=val xs+val ys:=by
 obtain⟨a,b,c,d,e,rfl⟩:=mK hl
 obtain⟨a',b',c',d',e',rfl⟩:=mK hl'
 simp[addN,val,dL]
 omega
theorem Jl:0<pp:=by decide
theorem adw:pp<67108864^5:=by decide
theorem jT (v:Nat):val (numOf v)=v%pp:=by
 unfold val numOf
 rw[iH,Nat.mod_eq_of_lt (Nat.lt_trans (Nat.mod_lt _ Jl) adw)]
theorem AP (v:Nat):numOf (v%pp)=numOf v:=by simp[numOf]
theorem pg {u v:Nat}(h:u%pp=v%pp):numOf u=numOf v:=by simp[numOf,h]
def wR (fF bs l:List Nat)(i j:Nat):List Nat:=l.set ((i+j)%5) (l.getD ((i+j)%5) 0+fF.getD i 0*bs.getD j 0*(if 5<=i+j then 5 else 1))
def bV (fF bs:List Nat):Nat->List Nat
 | 0=>List.replicate 5 0
 | c+1=>wR fF bs (bV fF bs c) (c/5) (c%5)
theorem xY (fF bs:List Nat)(c:Nat):(bV fF bs c).length=5:=by
 induction c with
 | zero=>rfl
 | succ c ih=>simp[bV,wR,ih]
theorem Oq (fF bs:List Nat)(i j:Nat)(hj:j<5):bV fF bs (5*i+(j+1))=(bV fF bs (5*i+j)).set ((i+j)%5) ((bV fF bs (5*i+j)).getD ((i+j)%5) 0+fF.getD i 0*bs.getD j 0*(if 5<=i+j then 5 else 1)):=by
 rw[show 5*i+(j+1)=(5*i+j)+1 by omega]
 simp only[bV]
 rw[show (5*i+j)/5=i by omega,show (5*i+j)%5=j by omega]
 rfl
theorem Wv {fF bs:List Nat}(ha:∀x∈fF,x<67108864)(hb:∀x∈bs,x<67108864)(c:Nat):∀x∈bV fF bs c,x<=c*22517998136852480:=by
 induction c with
 | zero=>intro x hx;simp[bV] at hx;omega
 | succ c ih =>
  intro x hx
  simp only[bV,wR] at hx
  rcases List.mem_or_eq_of_mem_set hx with h|h
  ·exact Nat.le_trans (ih x h) (Nat.mul_le_mul_right _ (Nat.le_succ c))
  ·subst h
   have h1:(bV fF bs c).getD ((c/5+c%5)%5) 0<=c*22517998136852480:=by
    rw[List.getD_eq_getElem?_getD]
    by_cases h:(c/5+c%5)%5<(bV fF bs c).length
    ·rw[List.getElem?_eq_getElem h];exact ih _ (List.getElem_mem h)
    ·rw[List.getElem?_eq_none (by omega)];exact Nat.zero_le _
   have h2:=uu ha (by omega) (c/5)
   have h3:=uu hb (by omega) (c%5)
   have h4:fF.getD (c/5) 0*bs.getD (c%5) 0<=4503599627370496:=Nat.le_trans (Nat.mul_le_mul (Nat.le_of_lt h2) (Nat.le_of_lt h3)) (by omega)
   generalize fF.getD (c/5) 0*bs.getD (c%5) 0=q at *
   generalize (bV fF bs c).getD ((c/5+c%5)%5) 0=r at *
   split<;>omega
theorem Fx {fF bs:List Nat}(ha:∀x∈fF,x<67108864)(hb:∀x∈bs,x<67108864)(c:Nat)(hc:c<=25):∀x∈bV fF bs c,x<576460752303423488:=λx hx=>by
 have:=Wv ha hb c x hx
 omega
theorem Ak (b:Nat):∀(l:List Nat) (p x:Nat),p<l.length->dL b (l.set p (l.getD p 0+x))=dL b l+x*b^p
 | [],p,x,h=>by simp at h
 | y::l,0,x,_=>by simp only[List.set_cons_zero,List.getD_cons_zero,dL,Nat.pow_zero];omega
 | y::l,p+1,x,h=>by
  simp only[List.set_cons_succ,List.getD_cons_succ,dL]
  rw[Ak b l p x (by simpa using h),Nat.pow_succ',Nat.mul_add]
  have:b*(x*b^p)=x*(b*b^p):=Nat.mul_left_comm _ _ _
  omega
def Cf (fF bs:List Nat):Nat->Nat
 | 0=>0
 | c+1=>Cf fF bs c+fF.getD (c/5) 0*bs.getD (c%5) 0*67108864^(c/5+c%5)
theorem pow5 (p:Nat):67108864^(5+p)%pp=5*67108864^p%pp:=by
 rw[Nat.pow_add,Nat.mul_mod,show 67108864^5%pp=5 from by decide,Nat.mul_mod_mod]
theorem RG (fF bs:List Nat)(c:Nat)(hc:c<=25):val (bV fF bs c)%pp=Cf fF bs c%pp:=by
 induction c with
 | zero=>rfl
 | succ c ih =>
  have ih:=ih (by omega)
  simp only[bV,wR,Cf]
  unfold val at *
  rw[Ak _ _ _ _ (by rw[xY];omega),Nat.add_mod,ih]
  conv=>rhs;rw[Nat.add_mod]
  congr 2
  generalize fF.getD (c/5) 0*bs.getD (c%5) 0=q
  by_cases h:5<=c/5+c%5
  ·rw[if_pos h,Nat.mul_assoc,Nat.mul_mod]
   have e:c/5+c%5=5+(c/5+c%5)%5:=by omega
   conv=>rhs;rw[e,Nat.mul_mod,pow5]
  ·rw[if_neg h,Nat.mul_one,Nat.mod_eq_of_lt (show c/5+c%5<5 by omega)]
theorem oI (fF:List Nat)(b0 b1 b2 b3 b4 i:Nat):Cf fF [b0,b1,b2,b3,b4] (5*i+5)=Cf fF [b0,b1,b2,b3,b4] (5*i)+fF.getD i 0*67108864^i*val [b0,b1,b2,b3,b4]:=by
 have e:∀j,j<5->Cf fF [b0,b1,b2,b3,b4] (5*i+(j+1))=Cf fF [b0,b1,b2,b3,b4] (5*i+j)+fF.getD i 0*67108864^i*([b0,b1,b2,b3,b4].getD j 0*67108864^j):=by
  intro j hj
  rw[show 5*i+(j+1)=(5*i+j)+1 by omega]
  simp only[Cf]
  rw[show (5*i+j)/5=i by omega,show (5*i+j)%5=j by omega,Nat.pow_add]
  congr 1
  generalize fF.getD i 0=x
  generalize [b0,b1,b2,b3,b4].getD j 0=y
  rw[Nat.mul_assoc,Nat.mul_assoc]
  congr 1
  rw[←Nat.mul_assoc,←Nat.mul_assoc]
  congr 1
  exact Nat.mul_comm _ _
 have e0:=e 0 (by omega)
 have e1:=e 1 (by omega)
 have e2:=e 2 (by omega)
 have e3:=e 3 (by omega)
 have e4:=e 4 (by omega)
 rw[show 5*i+5=5*i+(4+1) by omega,e4,e3,e2,e1,e0]
 simp only[List.getD_cons_zero,List.getD_cons_succ,Nat.add_zero]
 generalize fF.getD i 0*67108864^i=x
 have ev:val [b0,b1,b2,b3,b4]=b0*67108864^0+(b1*67108864^1+(b2*67108864^2+(b3*67108864^3+b4*67108864^4))):=by
  simp only[val,dL];omega
 rw[ev,Nat.mul_add,Nat.mul_add,Nat.mul_add,Nat.mul_add]
 omega
theorem RF {fF bs:List Nat}(ha:fF.length=5)(hb:bs.length=5):val (bV fF bs 25)%pp=val fF*val bs%pp:=by
 rw[RG _ _ _ (by omega)]
 obtain⟨b0,b1,b2,b3,b4,rfl⟩:=mK hb
 have r0:=oI fF b0 b1 b2 b3 b4 0
 have r1:=oI fF b0 b1 b2 b3 b4 1
 have r2:=oI fF b0 b1 b2 b3 b4 2
 have r3:=oI fF b0 b1 b2 b3 b4 3
 have r4:=oI fF b0 b1 b2 b3 b4 4
 simp only[Nat.mul_zero,Nat.zero_add,Nat.mul_one,Nat.reduceMul,Nat.reduceAdd] at r0 r1 r2 r3 r4
 rw[r4,r3,r2,r1,r0]
 obtain⟨a0,a1,a2,a3,a4,rfl⟩:=mK ha
 simp only[List.getD_cons_zero,List.getD_cons_succ,Cf]
 congr 1
 have ev:val [a0,a1,a2,a3,a4]=a0*67108864^0+(a1*67108864^1+(a2*67108864^2+(a3*67108864^3+a4*67108864^4))):=by
  simp only[val,dL];omega
 rw[ev,Nat.add_mul,Nat.add_mul,Nat.add_mul,Nat.add_mul]
 omega
theorem RH (u v:Nat):numOf (val (bV (numOf u) (numOf v) 25))=numOf (u*v):=by
 refine pg ?_
 rw[RF (by simp[numOf]) (by simp[numOf])]
 have e:∀x,val (numOf x)%pp=x%pp:=λx=>by
  unfold val numOf
  rw[iH,Nat.mod_eq_of_lt (Nat.lt_trans (Nat.mod_lt _ (by decide)) (by decide:pp<67108864^5)),Nat.mod_mod]
 rw[Nat.mul_mod,e,e,←Nat.mul_mod]
def le (xs:List Nat):Nat:=dL 256 xs
theorem GV (a:Nat)(h:a<2^64):bits BinOp.and IntKind.u64 (a:Int) 67108863=((a%67108864:Nat):Int):=by
 rw[←Nat.and_two_pow_sub_one_eq_mod a 26]
 exact u64_and_nat a 67108863 (by omega) (by omega)
theorem BC (xs:List Nat)(hl:xs.length=5)(hb:∀x∈xs,x<2^60)(w:World) :
  Calls prog 137 #[.agg (ints .u64 xs)] w λe w'=>e=.returned (.agg (ints .u64 (bU xs)))/\Below w.heap.size w w':=by
 go_enter func137,ntmps137
 go_wp2
 go_loopw [3,5] (λc t wr=>∃k:Nat,k<=5/\t=.int .i64 k/\c=.int .u64 (eY xs k).1/\aA wr w.heap.size 222 (ints .u64 (eY xs k).2)/\aA wr (w.heap.size+1) 222 (ints .u64 [0,0,0,0,0])/\Below w.heap.size w wr) (λc t wr=>5-(intOf t).toNat)
 case atStart =>
  exact⟨0,by omega,rfl,rfl,heap_alloc2_old _ _ _,heap_alloc2_new _ _ _,(bN _ _).alloc (by simp) _⟩
 case round =>
  rename_i hrel
  obtain⟨k,hk,rfl,rfl,B1,B2,hbel⟩:=hrel
  have hcl:=yS xs k
  obtain⟨hc,hx⟩:=uG xs (2^60) (by omega) (by omega) hb k
  by_cases hlt:k<5
  ·have hS:eY xs (k+1)=yL (eY xs k) k:=rfl
   unfold yL at hS
   generalize hcs:eY xs k=cs at *
   obtain⟨c,ys⟩:=cs
   dsimp only at *
   have hv:=aC hx (by omega) k
   have hcell:=B1.int (i:=k) (by omega)
   generalize hvv:ys.getD k 0=v at *
   have hfz:=B1.frozen k
   have hand:=GV (v+c) (by omega)
   have HS:=aR hS
   clear hS hvv hcs hx hcl
   go_wp2
   go_roundw
   case rel =>
    refine⟨k+1,by omega,by go_num,?_,?_,?_,?_⟩
    ·rw[HS.out];simp
    ·rw[HS.out]
     simp only[Int.natCast_add] at hand
     rw[hand]
     have:=(B1.kL k (.int .u64 ((v:Int)+c))).kL k (.int .u64 (((v+c)%67108864:Nat):Int))
     rwa [Array.setIfInBounds_setIfInBounds,ints_set] at this
    ·exact(B2.far (by simp) _).far (by simp) _
    ·exact(hbel.setCell dM _).setCell dM _
   case measure=>simp[intOf];omega
  ·obtain rfl:k=5:=by omega
   have hfin:bU xs=(eY xs 5).2.set 0 ((eY xs 5).2.getD 0 0+5*(eY xs 5).1):=rfl
   generalize hcs:eY xs 5=cs at *
   obtain⟨c,ys⟩:=cs
   dsimp only at *
   have hv:=aC hx (by omega) 0
   have hcell:=B1.int (i:=0) (by omega)
   generalize hvv:ys.getD 0 0=v at *
   have hfz:=B1.frozen 0
   have acW:=B1.dw 0 (v+5*c)
   have acm:=B2.far (p:=⟨w.heap.size,0,none⟩) (by simp) (.int .u64 ((v+5*c:Nat):Int))
   have Hfin:=aR hfin
   have hy:(ys.set 0 (v+5*c)).length=5:=by simp[hcl,hl]
   clear hvv hcs hx hfin
   have E5:Hid (((v:Int)+5*c)=((v+5*c:Nat):Int)):=aR (by simp)
   go_wp2_with (first|(rw[E5.out];refine wpList_load_row rfl 222 _ rfl _ rfl _ _ _ _ acW underlying222 rfl (by rw[aF,hy];kernel_rfl) ?_)|(refine wpList_store_row rfl 222 _ _ rfl _ _ rfl rfl _ _ acm (by rw[aF,hy];kernel_rfl) (by rw[aF,aF,hy];rfl) (pI _ _) ?_))
   refine bodyPost_ret (results_cell_row rfl _ _ _ _ _ _ _ rfl (acm.row _) underlying222 rfl (by rw[aF,hy];kernel_rfl)) rfl ⟨by rw[Hfin.out],?_⟩
   exact az (hbel.setCell dM _) (by simp) _
theorem uf (xs:List Nat)(hl:xs.length=5)(hb:∀x∈xs,x<2^32)(w:World) :
  Calls prog 138 #[.agg (ints .u32 xs)] w λe w'=>e=.returned (.agg (ints .u64 xs))/\Below w.heap.size w w':=by
 go_enter func138,ntmps138
 go_wp2
 go_loopw [5] (λt wr=>∃k:Nat,k<=5/\t=.int .i64 k/\aA wr w.heap.size 213 (ints .u32 xs)/\aA wr (w.heap.size+1) 222 (ints .u64 [0,0,0,0,0])/\aA wr (w.heap.size+2) 222 (ints .u64 (xs.take k++List.replicate (5-k) 0))/\Below w.heap.size w wr) (λt wr=>5-(intOf t).toNat)
 case atStart =>
  exact⟨0,by omega,rfl,((aA.new _ _ _).alloc _).alloc _,(aA.new' (by simp)).alloc _,aA.new' (by simp),((bN _ _).alloc (by simp) _).alloc (by simp;omega) _⟩
 case round =>
  rename_i hrel
  obtain⟨k,hk,rfl,B1,B2,B3,hbel⟩:=hrel
  by_cases hlt:k<5
  ·have hcell:=B1.int (i:=k) (by omega)
   have hv:=aC hb (by omega) k
   generalize hvv:xs.getD k 0=v at *
   have abd:=B3.int (i:=k) (by simp;omega)
   have hfz:=B3.frozen k
   have B3':=B3.dw k v
   have he:(xs.take k++List.replicate (5-k) 0).set k v=xs.take (k+1)++List.replicate (5-(k+1)) 0:=by
    have e1:5-k=(5-(k+1))+1:=by omega
    rw[List.set_append_right _ _ (by simp;omega),List.length_take,Nat.min_eq_left (by omega),Nat.sub_self,e1,List.replicate_succ,List.set_cons_zero,List.take_add_one,getD_lt (by omega),hvv]
    simp
   have He:=aR he
   clear hvv he
   go_wp2
   go_roundw
   case rel =>
    refine⟨k+1,by omega,by go_num,B1.far (by simp;omega) _,B2.far (by simp) _,?_,hbel.setCell (by simp<;>omega) _⟩
    rw[←He.out];exact B3'
   case measure=>simp[intOf];omega
  ·obtain rfl:k=5:=by omega
   have he:xs.take 5++List.replicate (5-5) 0=xs:=by simp[←hl]
   rw[he] at B3
   clear he
   go_wp2_with (first|(refine wpList_load_row rfl 222 _ rfl _ rfl _ _ _ _ B3 underlying222 rfl (by rw[aF,hl];kernel_rfl) ?_)|(refine wpList_store_row rfl 222 _ _ rfl _ _ rfl rfl _ _ B2 (by rw[aF,hl];kernel_rfl) (by rw[aF,aF,hl];rfl) (pI _ _) ?_))
   refine bodyPost_ret (results_cell_row rfl _ _ _ _ _ _ _ rfl (B2.row _) underlying222 rfl (by rw[aF,hl];kernel_rfl)) rfl ⟨rfl,?_⟩
   exact az hbel (by simp) _
theorem Cb (xs:List Nat)(hl:xs.length=5)(hb:∀x∈xs,x<2^60)(w:World) :
  Calls prog 132 #[.agg (ints .u64 xs)] w λe w'=>e=.returned (.agg (ints .u32 (numOf (val xs))))/\Below w.heap.size w w':=by
 go_enter func132,ntmps132
 go_wp2_with (refine ae rfl 213 rfl z213 ?_;(try simp only[nn,Nat.reduceAdd]))
 refine sN 0 (λa w'=>∃u3 u4 u5 u6 u7 u8 u9 u10 u11 u12 u13 u14 u15 u16 u17 u18 u19 u20 u21 u22 u23 u24 u25 u26 u27 u28 u29 u30 u31 u32 u33 u34 u35 u36:Value,∃ys:List Nat,a={ tmps:=#[.agg (ints .u64 xs),.pointer (some ⟨w.heap.size,0,none⟩),.pointer (some ⟨w.heap.size+1,0,none⟩),u3,u4,u5,u6,u7,u8,u9,u10,u11,u12,u13,u14,u15,u16,u17,u18,u19,u20,u21,u22,u23,u24,u25,u26,u27,u28,u29,u30,u31,u32,u33,u34,u35,u36],defers:=[] }
   /\ ys.length=5/\(∀x∈ys,x<2^60)/\val ys%pp=val xs%pp/\aA w' w.heap.size 222 (ints .u64 ys)/\aA w' (w.heap.size+1) 213 (ints .u32 (zeros 5))/\Below w.heap.size w w')
  (λ_ w'=>left (Je w' w.heap.size)) ?_ ?_
 ·refine⟨_,_,_,_,_,_,_,_,_,_,_,_,_,_,_,_,_,_,_,_,_,_,_,_,_,_,_,_,_,_,_,_,_,_,xs,rfl,hl,hb,rfl,heap_alloc2_old _ _ _,heap_alloc2_new _ _ _,(bN _ _).alloc (by simp) _⟩
 ·rintro a wr ⟨u3,u4,u5,u6,u7,u8,u9,u10,u11,u12,u13,u14,u15,u16,u17,u18,u19,u20,u21,u22,u23,u24,u25,u26,u27,u28,u29,u30,u31,u32,u33,u34,u35,u36,ys,rfl,hyl,hyb,hval,B1,B2,hbel⟩
  have hcl:(bU ys).length=5:=(Dx ys).trans hyl
  have hcb:=yT hyl hyb
  have heq:=Co (P:=prog) (n:=5) underlying222 underlying106 YT QK (bU ys) ys hcl hyl
  by_cases hcar:bU ys=ys
  ·have hb1:(bU ys==ys)=true:=by simpa using hcar
   rw[hb1] at heq
   have hys:∀x∈ys,x<67108864:=Gt hyl hcar
   have hx0:=hys (ys.getD 0 0) (Gm (by omega))
   have hat:∀W:World,(Instr.arrayAt 218 (.slice (some ⟨w.heap.size,1,none⟩) 4 4)).run prog W=.ok (.pointer (some ⟨w.heap.size,1,none⟩)) W:=λW=>run_arrayAt W _ _ 4 _ 4 4 underlying218 (by omega)
   have hd4:((ys.drop 1).take 4)=ys.tail:=by rw[List.drop_one];exact List.take_of_length_le (by simp[hyl])
   have heq2:=Cr (P:=prog) (n:=4) underlying218 underlying106 YT QK ys.tail [67108863,67108863,67108863,67108863] (by simp[hyl]) rfl
   change ∀W:World,(binOp .eql 218 (.agg (ints .u64 ys.tail)) (.agg #[.int .u64 67108863,.int .u64 67108863,.int .u64 67108863,.int .u64 67108863])).run prog W=_ at heq2
   have Hd4:=aR hd4
   have agJ:=aR (show numOf (val xs)=numOf (val ys) from pg hval.symm)
   have Hys:=aR hys
   clear hd4 hb1 hcar hys
   have h3:(Hid (ys.tail=[67108863,67108863,67108863,67108863])/\67108858<ys.getD 0 0)∨(Hid (ys.tail=[67108863,67108863,67108863,67108863])/\¬67108858<ys.getD 0 0)∨(Hid (ys.tail≠[67108863,67108863,67108863,67108863])/\True):=by
    by_cases h:ys.tail=[67108863,67108863,67108863,67108863]
    ·by_cases h':67108858<ys.getD 0 0
     ·exact .inl ⟨h,h'⟩
     ·exact .inr (.inl ⟨h,h'⟩)
    ·exact .inr (.inr ⟨h,trivial⟩)
   rcases h3 with ⟨Hd,hbig⟩|⟨Hd,hbig⟩|⟨Hd,hbig⟩
   all_goals
    first
     | (have hb2:(ys.tail==[67108863,67108863,67108863,67108863])=false:=by simpa using Hd.out)
     | (have hb2:(ys.tail==[67108863,67108863,67108863,67108863])=true:=by simpa using Hd.out)
    rw[hb2] at heq2
    clear hb2
    go_wp2_with (refine ag rfl 222 _ rfl _ rfl B1 jI hyl ?_)
    refine(BC ys hyl hyb _).mono ?_
    rintro e w1 ⟨rfl,hb1⟩
    have acW:=(B1.below' hb1).alloc (.cells (ints .u64 (zeros 5)) 222)
    have acm:=(B2.below' hb1).alloc (.cells (ints .u64 (zeros 5)) 222)
    have B3':=aA.new w1 222 (ints .u64 (zeros 5))
    have hlt1:=(B2.below' hb1).lt
    have zt:=acW.aM (k:=w1.heap.size) (by omega) (ints .u64 (bU ys))
    have UX:=acm.aM (k:=w1.heap.size) (by omega) (ints .u64 (bU ys))
    have YA:=B3'.row (ints .u64 (bU ys))
    have aB:=az ((dx hbel hb1 (by have:=B1.lt;omega)).alloc (by omega) (.cells (ints .u64 (zeros 5)) 222)) (g:=w1.heap.size) (by omega) (ints .u64 (bU ys))
    have hc0:=zt.int (i:=0) (by omega)
    generalize adV:ys.getD 0 0=x0 at *
    have agH:=aR adV
    clear adV
    have B1z:=zt.row (ints .u64 [x0-67108859,0,0,0,0])
    have B2z:=UX.aM (k:=w.heap.size) (by omega) (ints .u64 [x0-67108859,0,0,0,0])
    have Bf:=az aB (Nat.le_refl w.heap.size) (ints .u64 [x0-67108859,0,0,0,0])
    have Es:Hid (67108858<x0->(x0:Int)-67108859=((x0-67108859:Nat):Int)):=aR (by omega)
    go_wp2_with ((first|(refine ae rfl 222 rfl z222 ?_)|(refine ae rfl 213 rfl z213 ?_)|(refine aa rfl 222 _ _ rfl w1.heap.size rfl rfl B3' (ah _ _) jI hcl ?_)|(refine ag rfl 222 _ rfl w1.heap.size rfl YA jI hcl ?_)|(refine ag rfl 222 _ rfl w.heap.size rfl zt jI hyl ?_)|(refine wz rfl 218 _ rfl w.heap.size 1 rfl zt Zu (by omega) ?_;rw[Hd4.out])|(rw[Es.out hbig];refine aa rfl 222 _ _ rfl w.heap.size (xs:=[x0-67108859,0,0,0,0]) rfl rfl zt (by rw[aF,hyl]) jI rfl ?_));(try simp only[nn,Nat.reduceAdd]))
    obtain⟨zs,ace,Bz,Bz2,hz⟩:∃zs,Hid (numOf (val xs)=zs)/\aA _ w.heap.size 222 (ints .u64 zs)/\aA _ (w.heap.size+1) 213 (ints .u32 (zeros 5))/\Below w.heap.size w _:=by
     first
      |refine⟨_,?_,B1z,B2z,Bf⟩
       obtain⟨a,b,c,d,e,rfl⟩:=mK hyl
       have h1:=Hd.out
       have h2:=agH.out
       have h3:=Hys.out
       simp only[List.tail_cons,List.cons.injEq,and_true] at h1
       obtain⟨rfl,rfl,rfl,rfl⟩:=h1
       obtain rfl:a=x0:=h2
       exact agJ.out.trans (Om h3 hbig)
      |refine⟨_,?_,zt,UX,aB⟩
       refine agJ.out.trans (Fp hyl Hys.out λh=>?_)
       rw[List.drop_one,agH.out] at h
       first|exact hbig h.2|exact Hd.out h.1
    have hzl:zs.length=5:=by rw[←ace.out];exact bB _
    have hzs:∀x∈zs,x<67108864:=by rw[←ace.out];exact kE _
    have hsz:w.heap.size+1<w1.heap.size:=hlt1
    clear B1z B2z Bf zt UX aB acW acm B3' YA hb1 hc0 Es heq heq2 hbig
    go_loopw [26] (λt wr'=>∃k:Nat,k<=5/\t=.int .i64 k/\aA wr' w.heap.size 222 (ints .u64 zs)/\aA wr' (w.heap.size+1) 213 (ints .u32 (zeros 5))/\aA wr' (w1.heap.size+1) 213 (ints .u32 (zs.take k++zeros (5-k)))/\Below w.heap.size w wr') (λt wr=>5-(intOf t).toNat)
    case atStart =>
     exact⟨0,by omega,rfl,Bz.alloc _,Bz2.alloc _,aA.new' (by simp),hz.alloc (by simp;omega) _⟩
    case round =>
     rename_i hrel
     obtain⟨k,hk,rfl,C1,C2,C3,iX⟩:=hrel
     by_cases hlt:k<5
     ·have hcell:=C1.int (i:=k) (by omega)
      have hv:=aC hzs (by omega) k
      generalize hvv:zs.getD k 0=v at *
      have hlen:(zs.take k++zeros (5-k)).length=5:=by simp[aH];omega
      have abd:=C3.int (i:=k) (by omega)
      have hfz:=C3.frozen k
      have agO:=C3.dw k v
      have He:=aR (take_set (n:=5) hzl hlt hvv)
      clear hvv hlen
      go_wp2
      go_roundw
      case rel =>
       refine⟨k+1,by omega,by go_num,C1.far (by simp;omega) _,C2.far (by simp;omega) _,?_,iX.setCell (by simp<;>omega) _⟩
       rw[←He.out];exact agO
      case measure=>simp[intOf];omega
     ·obtain rfl:k=5:=by omega
      have he:zs.take 5++zeros (5-5)=zs:=by simp[←hzl,zeros]
      rw[he] at C3
      clear he
      go_wp2_with ((first|(refine ag rfl 213 _ rfl _ rfl C3 fU hzl ?_)|(refine aa rfl 213 _ _ rfl _ rfl rfl C2 (ah _ _) fU hzl ?_));(try simp only[nn,Nat.reduceAdd]))
      simp only[Exit.jump]
      refine aO rfl rfl (C2.row _) fU hzl ⟨by rw[ace.out],?_⟩
      exact az iX (by simp) _
  ·have hb1:(bU ys==ys)=false:=by simpa using hcar
   rw[hb1] at heq
   have Hcar:=aR hcar
   clear hb1 hcar
   go_wp2_with (refine ag rfl 222 _ rfl _ rfl B1 jI hyl ?_)
   refine(BC ys hyl hyb _).mono ?_
   rintro e w1 ⟨rfl,hb1⟩
   have acW:=(B1.below' hb1).alloc (.cells (ints .u64 (zeros 5)) 222)
   have acm:=(B2.below' hb1).alloc (.cells (ints .u64 (zeros 5)) 222)
   have B3':=aA.new w1 222 (ints .u64 (zeros 5))
   have hlt1:=(B2.below' hb1).lt
   have zt:=acW.aM (k:=w1.heap.size) (by omega) (ints .u64 (bU ys))
   have UX:=acm.aM (k:=w1.heap.size) (by omega) (ints .u64 (bU ys))
   have YA:=B3'.row (ints .u64 (bU ys))
   have aB:=az ((dx hbel hb1 (by have:=B1.lt;omega)).alloc (by omega) (.cells (ints .u64 (zeros 5)) 222)) (g:=w1.heap.size) (by omega) (ints .u64 (bU ys))
   go_wp2_with (first|(refine ae rfl 222 rfl z222 ?_)|(refine aa rfl 222 _ _ rfl w1.heap.size rfl rfl B3' (ah _ _) jI hcl ?_)|(refine ag rfl 222 _ rfl w1.heap.size rfl YA jI hcl ?_)|(refine ag rfl 222 _ rfl w.heap.size rfl zt jI hyl ?_)|(refine aa rfl 222 _ _ rfl w.heap.size rfl rfl zt (by rw[aF,hyl]) jI hcl ?_))
   go_step3
   have B1f:=zt.row (ints .u64 (bU ys))
   refine⟨rfl,⟨_,_,_,_,_,_,_,_,_,_,_,_,_,_,_,_,_,_,_,_,_,_,_,_,_,_,_,_,_,_,_,_,_,_,bU ys,rfl,hcl,hcb,(Dw hyl).trans hval,B1f,UX.aM (by omega) _,az aB dM _⟩,?_⟩
   exact Nat.lt_of_le_of_lt (Nat.le_of_eq (congrArg left (vS B1f))) (Nat.lt_of_lt_of_eq (WK hyl Hcar.out) (congrArg left (vS B1)).symm)
theorem Kj (xs:List Nat)(hl:xs.length=5)(hb:∀x∈xs,x<2^32)(w:World) :
  Calls prog 139 #[.agg (ints .u32 xs)] w λe w'=>e=.returned (.agg (ints .u32 (numOf (val xs))))/\Below w.heap.size w w':=by
 have hb':∀x∈xs,x<2^60:=λx hx=>Nat.lt_trans (hb x hx) (by omega)
 have hnl:=bB (val xs)
 have B1:=(aA.new w 213 (ints .u32 xs)).alloc (.cells (ints .u32 (zeros 5)) 213)
 have B2:=aA.new (w.alloc (.cells (ints .u32 xs) 213)) 213 (ints .u32 (zeros 5))
 have hbel:=(bN w (.cells (ints .u32 xs) 213)).alloc (by simp) (.cells (ints .u32 (zeros 5)) 213)
 rw[World.size_alloc] at B2
 go_enter func139,ntmps139
 go_wp2_with ((first|(refine ae rfl 213 rfl z213 ?_)|(refine ag rfl 213 _ rfl w.heap.size rfl B1 fU hl ?_));(try simp only[nn,Nat.reduceAdd]))
 refine(uf xs hl hb _).mono ?_
 rintro e w1 ⟨rfl,hb1⟩
 go_wp2_with fail
 refine(Cb xs hl hb' _).mono ?_
 rintro e w2 ⟨rfl,hb2⟩
 have C2:=(B2.below' hb1).below' hb2
 go_wp2_with ((first|(refine aa rfl 213 _ _ rfl _ rfl rfl C2 (ah _ _) fU hnl ?_));(try simp only[nn,Nat.reduceAdd]))
 refine aO rfl rfl (C2.row _) fU hnl ⟨rfl,?_⟩
 exact az (dx (dx hbel hb1 (by simp;omega)) hb2 (by have:=(B1.below' hb1).lt;omega)) (by simp) _
theorem aak (xs ys:List Nat)(hl:xs.length=5)(hb:∀x∈xs,x<2^32)(hl':ys.length=5)(hb':∀x∈ys,x<2^32)(w:World) :
  Calls prog 133 #[.agg (ints .u32 xs),.agg (ints .u32 ys)] w λe w'=>e=.returned (.agg (ints .u32 (numOf (val xs+val ys))))/\Below w.heap.size w w':=by
 go_enter func133,ntmps133
 have B1:=((aA.new w 213 (ints .u32 xs)).alloc (.cells (ints .u32 ys) 213)).alloc (.cells (ints .u32 (zeros 5)) 213)
 have B2:=(aA.new (w.alloc (.cells (ints .u32 xs) 213)) 213 (ints .u32 ys)).alloc (.cells (ints .u32 (zeros 5)) 213)
 have B3:=aA.new ((w.alloc (.cells (ints .u32 xs) 213)).alloc (.cells (ints .u32 ys) 213)) 213 (ints .u32 (zeros 5))
 have hbel:=((bN w (.cells (ints .u32 xs) 213)).alloc (by simp) (.cells (ints .u32 ys) 213)).alloc (by simp;omega) (.cells (ints .u32 (zeros 5)) 213)
 simp only[World.size_alloc,Nat.add_assoc,Nat.reduceAdd] at B2 B3
 go_wp2_with ((first|(refine ae rfl 213 rfl z213 ?_)|(refine ag rfl 213 _ rfl w.heap.size rfl B1 fU hl ?_));(try simp only[nn,Nat.reduceAdd]))
 refine(uf xs hl hb _).mono ?_
 rintro e w1 ⟨rfl,hb1⟩
 have C2:=((B2.below' hb1).alloc (.cells (ints .u64 (zeros 5)) 222))
 have C3:=((B3.below' hb1).alloc (.cells (ints .u64 (zeros 5)) 222))
 have C4:=aA.new w1 222 (ints .u64 (zeros 5))
 have hlt:=(B3.below' hb1).lt
 have aK:=az ((dx hbel hb1 (by simp;omega)).alloc (by omega) (.cells (ints .u64 (zeros 5)) 222)) (g:=w1.heap.size) (by omega) (ints .u64 xs)
 go_wp2_with ((first|(refine ae rfl 222 rfl z222 ?_)|(refine aa rfl 222 _ _ rfl _ rfl rfl C4 (ah _ _) jI hl ?_));(try simp only[nn,Nat.reduceAdd]))
 go_loopw [9] (λt wr=>∃k:Nat,k<=5/\t=.int .i64 k/\aA wr (w.heap.size+1) 213 (ints .u32 ys)/\aA wr (w.heap.size+2) 213 (ints .u32 (zeros 5))/\aA wr w1.heap.size 222 (ints .u64 (addN xs ys k))/\Below w.heap.size w wr) (λt wr=>5-(intOf t).toNat)
 case atStart =>
  exact⟨0,by omega,rfl,C2.aM (by omega) _,C3.aM (by omega) _,C4.row _,aK⟩
 case round =>
  rename_i hrel
  obtain⟨k,hk,rfl,D2,D3,D4,iX⟩:=hrel
  have hal:=UI xs ys k
  have hab:=Yf hl hb hb' k
  by_cases hlt:k<5
  ·have hcell:=D2.int (i:=k) (by omega)
   have hv:=aC hb' (by omega) k
   have hcell4:=D4.int (i:=k) (by omega)
   have hv4:=aC hab (by omega) k
   have hfz:=D4.frozen k
   have D4':=D4.dw k ((addN xs ys k).getD k 0+ys.getD k 0)
   have He:=aR (vJ xs ys k).symm
   generalize ys.getD k 0=v at *
   generalize (addN xs ys k).getD k 0=u at *
   go_wp2
   go_region
   all_goals
    go_wp2
    refine⟨⟨k+1,by omega,by go_num,(D2.far (by simp;omega) _).drew,(D3.far (by simp;omega) _).drew,?_,(iX.setCell (by simp;omega) _).drew⟩,by simp[intOf];omega⟩
    rw[←He.out]
    rw[Int.natCast_add] at D4'
    exact D4'.drew
  ·obtain rfl:k=5:=by omega
   have hv5:val (addN xs ys 5)=val xs+val ys:=UH hl hl'
   have hnl:=bB (val (addN xs ys 5))
   go_wp2_with ((first|(refine ag rfl 222 _ rfl _ rfl D4 jI (hal.trans hl) ?_));(try simp only[nn,Nat.reduceAdd]))
   refine(Cb (addN xs ys 5) (hal.trans hl) (λx hx=>Nat.lt_trans (hab x hx) (by omega)) _).mono ?_
   rintro e w2 ⟨rfl,hb2⟩
   have E3:=D3.below' hb2
   go_wp2_with ((first|(refine aa rfl 213 _ _ rfl _ rfl rfl E3 (ah _ _) fU hnl ?_));(try simp only[nn,Nat.reduceAdd]))
   refine aO rfl rfl (E3.row _) fU hnl ⟨rfl,?_⟩
   exact az (dx iX hb2 (by have:=D3.lt;omega)) (by simp) _
theorem VE (xs ys:List Nat)(hl:xs.length=5)(hb:∀x∈xs,x<2^32)(hl':ys.length=5)(hb':∀x∈ys,x<2^32)(w:World) :
  Calls prog 134 #[.agg (ints .u32 xs),.agg (ints .u32 ys)] w λe w'=>e=.returned (.agg (ints .u32 (numOf (val xs*val ys))))/\Below w.heap.size w w':=by
 go_enter func134,ntmps134
 have B1:=((aA.new w 213 (ints .u32 xs)).alloc (.cells (ints .u32 ys) 213)).alloc (.cells (ints .u32 (zeros 5)) 213)
 have B2:=(aA.new (w.alloc (.cells (ints .u32 xs) 213)) 213 (ints .u32 ys)).alloc (.cells (ints .u32 (zeros 5)) 213)
 have B3:=aA.new ((w.alloc (.cells (ints .u32 xs) 213)).alloc (.cells (ints .u32 ys) 213)) 213 (ints .u32 (zeros 5))
 have hbel:=((bN w (.cells (ints .u32 xs) 213)).alloc (by simp) (.cells (ints .u32 ys) 213)).alloc (by simp;omega) (.cells (ints .u32 (zeros 5)) 213)
 simp only[World.size_alloc,Nat.add_assoc,Nat.reduceAdd] at B2 B3
 have hsz:w.heap.size+3=(((w.alloc (.cells (ints .u32 xs) 213)).alloc (.cells (ints .u32 ys) 213)).alloc (.cells (ints .u32 (zeros 5)) 213)).heap.size:=by simp
 have Hsz:=aR hsz
 clear hsz
 go_wp2_with ((first|(refine ae rfl 213 rfl z213 ?_));(try simp only[nn,Nat.reduceAdd]))
 generalize (((w.alloc (.cells (ints .u32 xs) 213)).alloc (.cells (ints .u32 ys) 213)).alloc (.cells (ints .u32 (zeros 5)) 213))=w0 at *
 have hnx:=bB (val xs)
 have hny:=bB (val ys)
 have hnxb:∀x∈numOf (val xs),x<2^32:=λx hx=>Nat.lt_trans (kE _ x hx) (by omega)
 have hnyb:∀x∈numOf (val ys),x<2^32:=λx hx=>Nat.lt_trans (kE _ x hx) (by omega)
 refine eZ (by kernel_rfl) (by kernel_rfl) (λD bP W=>∃u5 u6 u11 u12 u13 u14 u15 u16:Value,bP={ tmps:=#[.agg (ints .u32 xs),.agg (ints .u32 ys),.pointer (some ⟨w.heap.size,0,none⟩),.pointer (some ⟨w.heap.size+1,0,none⟩),.pointer (some ⟨w.heap.size+2,0,none⟩),u5,u6,undef,undef,undef,undef,u11,u12,u13,u14,u15,u16,undef,undef,undef,undef,undef,undef,undef,undef,undef,undef,undef,undef,undef,undef,undef,undef,undef,undef,undef,undef,undef,undef,undef,undef,undef,undef,undef,undef,undef,undef,undef,undef],defers:=[] }/\Below w0.heap.size w0 W/\(D 0->u11=.agg (ints .u32 xs))/\(D 1->u12=.agg (ints .u32 (numOf (val xs))))/\(D 2->u13=.agg (ints .u64 (numOf (val xs))))/\(D 3->u14=.agg (ints .u32 ys))/\(D 4->u15=.agg (ints .u32 (numOf (val ys))))/\(D 5->u16=.agg (ints .u64 (numOf (val ys))))/\(D 6->Al W w0.heap.size u5 222 5 .u64 (D 8) (numOf (val xs)))/\(D 7->Al W w0.heap.size u6 222 5 .u64 (D 9) (numOf (val ys)))/\(D 8->D 6)/\(D 9->D 7)/\(D 6->D 7->u5≠u6)) ?_ ?_ ?_
 ·exact aL <| (⟨rfl,⟨rfl,rfl,rfl,Nat.le_refl _,λ_ _=>rfl⟩,nofun,nofun,nofun,nofun,nofun,nofun,nofun,nofun,nofun,nofun,nofun⟩)
 ·intro i o hi D bP W hI hnD hall
  obtain⟨u5,u6,u11,u12,u13,u14,u15,u16,rfl,hW,f0,f1,f2,f3,f4,f5,f6,f7,f8,f9,f10⟩:=hI
  rcases i with _|_|_|_|_|_|_|_|_|_|i<;>try cases hi
  ·refine bf rfl rfl rfl rfl (B1.below' hW) fU hl ?_
   exact aL <| (⟨rfl,hW,λ_=>rfl,ro f1,ro f2,ro f3,ro f4,ro f5,(λh=>(f6 (cO h)).same (λh'=>h'.resolve_left (by decide))),(λh=>(f7 (cO h)).same (λh'=>h'.resolve_left (by decide))),(λh=>.inr (f8 (cO h))),(λh=>.inr (f9 (cO h))),(λh h2=>f10 (cO h) (cO h2))⟩)
  ·obtain rfl:=f0 (aj hall 0 rfl)
   refine aV 139 rfl rfl rfl func139 (by kernel_rfl) (by kernel_rfl) (Kj xs hl hb W) ?_
   intro W' hW'
   exact aL <| (⟨rfl,bC hW hW',ro f0,λ_=>rfl,ro f2,ro f3,ro f4,ro f5,(λh=>(f6 (cO h)).below hW' (λh'=>h'.resolve_left (by decide))),(λh=>(f7 (cO h)).below hW' (λh'=>h'.resolve_left (by decide))),(λh=>.inr (f8 (cO h))),(λh=>.inr (f9 (cO h))),(λh h2=>f10 (cO h) (cO h2))⟩)
  ·obtain rfl:=f1 (aj hall 1 rfl)
   refine aV 138 rfl rfl rfl func138 (by kernel_rfl) (by kernel_rfl) (uf _ hnx hnxb W) ?_
   intro W' hW'
   exact aL <| (⟨rfl,bC hW hW',ro f0,ro f1,λ_=>rfl,ro f3,ro f4,ro f5,(λh=>(f6 (cO h)).below hW' (λh'=>h'.resolve_left (by decide))),(λh=>(f7 (cO h)).below hW' (λh'=>h'.resolve_left (by decide))),(λh=>.inr (f8 (cO h))),(λh=>.inr (f9 (cO h))),(λh h2=>f10 (cO h) (cO h2))⟩)
  ·refine bf rfl rfl rfl rfl (B2.below' hW) fU hl' ?_
   exact aL <| (⟨rfl,hW,ro f0,ro f1,ro f2,λ_=>rfl,ro f4,ro f5,(λh=>(f6 (cO h)).same (λh'=>h'.resolve_left (by decide))),(λh=>(f7 (cO h)).same (λh'=>h'.resolve_left (by decide))),(λh=>.inr (f8 (cO h))),(λh=>.inr (f9 (cO h))),(λh h2=>f10 (cO h) (cO h2))⟩)
  ·obtain rfl:=f3 (aj hall 3 rfl)
   refine aV 139 rfl rfl rfl func139 (by kernel_rfl) (by kernel_rfl) (Kj ys hl' hb' W) ?_
   intro W' hW'
   exact aL <| (⟨rfl,bC hW hW',ro f0,ro f1,ro f2,ro f3,λ_=>rfl,ro f5,(λh=>(f6 (cO h)).below hW' (λh'=>h'.resolve_left (by decide))),(λh=>(f7 (cO h)).below hW' (λh'=>h'.resolve_left (by decide))),(λh=>.inr (f8 (cO h))),(λh=>.inr (f9 (cO h))),(λh h2=>f10 (cO h) (cO h2))⟩)
  ·obtain rfl:=f4 (aj hall 4 rfl)
   refine aV 138 rfl rfl rfl func138 (by kernel_rfl) (by kernel_rfl) (uf _ hny hnyb W) ?_
   intro W' hW'
   exact aL <| (⟨rfl,bC hW hW',ro f0,ro f1,ro f2,ro f3,ro f4,λ_=>rfl,(λh=>(f6 (cO h)).below hW' (λh'=>h'.resolve_left (by decide))),(λh=>(f7 (cO h)).below hW' (λh'=>h'.resolve_left (by decide))),(λh=>.inr (f8 (cO h))),(λh=>.inr (f9 (cO h))),(λh h2=>f10 (cO h) (cO h2))⟩)
  ·refine bZ rfl rfl rfl z222 ?_
   have aaR:¬(8=6∨D 8):=λh=>h.elim (by decide) (λh=>hnD (f8 h))
   exact aL <| (⟨rfl,hW.alloc hW.size _,ro f0,ro f1,ro f2,ro f3,ro f4,ro f5,(λ_=>Al.new hW.size (λh=>(aaR h).elim)),(λh=>(f7 (cO h)).alloc _ (λh'=>h'.resolve_left (by decide))),(λ_=>.inl rfl),(λh=>.inr (f9 (cO h))),(λ_ h=>(f7 (cO h)).LH)⟩)
  ·refine bZ rfl rfl rfl z222 ?_
   have aaR:¬(9=7∨D 9):=λh=>h.elim (by decide) (λh=>hnD (f9 h))
   exact aL <| (⟨rfl,hW.alloc hW.size _,ro f0,ro f1,ro f2,ro f3,ro f4,ro f5,(λh=>(f6 (cO h)).alloc _ (λh'=>h'.resolve_left (by decide))),(λ_=>Al.new hW.size (λh=>(aaR h).elim)),(λh=>.inr (f8 (cO h))),(λ_=>.inl rfl),(λh _=>(f6 (cO h)).JB)⟩)
  ·obtain rfl:=f2 (aj hall 2 rfl)
   obtain⟨g,l,rfl,hg,hl0,hB,hst⟩:=f6 (aj hall 6 rfl)
   refine bJ rfl rfl rfl rfl rfl hB ((aF _ _).trans hl0) jI hnx ?_
   exact aL <| (⟨rfl,az hW hg _,ro f0,ro f1,ro f2,ro f3,ro f4,ro f5,(λ_=>Al.set hB hg hnx),(λh=>(f7 (cO h)).far (λe=>f10 (aj hall 6 rfl) (aj hall 7 rfl) e.symm) (λh'=>h'.resolve_left (by decide))),(λ_=>.inr (aj hall 6 rfl)),(λh=>.inr (f9 (cO h))),(λh h2=>f10 (cO h) (cO h2))⟩)
  ·obtain rfl:=f5 (aj hall 5 rfl)
   obtain⟨g,l,rfl,hg,hl0,hB,hst⟩:=f7 (aj hall 7 rfl)
   refine bJ rfl rfl rfl rfl rfl hB ((aF _ _).trans hl0) jI hny ?_
   exact aL <| (⟨rfl,az hW hg _,ro f0,ro f1,ro f2,ro f3,ro f4,ro f5,(λh=>(f6 (cO h)).far (λe=>f10 (aj hall 6 rfl) (aj hall 7 rfl) e) (λh'=>h'.resolve_left (by decide))),(λ_=>Al.set hB hg hny),(λh=>.inr (f8 (cO h))),(λ_=>.inr (aj hall 7 rfl)),(λh h2=>f10 (cO h) (cO h2))⟩)
  all_goals (exfalso;simp at hi)
 ·rintro D bP W ⟨u5,u6,u11,u12,u13,u14,u15,u16,rfl,hW,f0,f1,f2,f3,f4,f5,f6,f7,f8,f9,f10⟩ hall
  obtain rfl:=f0 (hall 0 (by decide))
  obtain rfl:=f1 (hall 1 (by decide))
  obtain rfl:=f2 (hall 2 (by decide))
  obtain rfl:=f3 (hall 3 (by decide))
  obtain rfl:=f4 (hall 4 (by decide))
  obtain rfl:=f5 (hall 5 (by decide))
  obtain⟨g5,l5,rfl,hg5,-,afT,hl5⟩:=f6 (hall 6 (by decide))
  obtain rfl:=hl5 (hall 8 (by decide))
  obtain⟨g6,l6,rfl,hg6,-,afS,hl6⟩:=f7 (hall 7 (by decide))
  obtain rfl:=hl6 (hall 9 (by decide))
  have SQ:=f10 (hall 6 (by decide)) (hall 7 (by decide))
  clear f0 f1 f2 f3 f4 f5 f6 f7 f8 f9 f10 hall
  have hlt3:=B3.lt
  have C3:=B3.below' hW
  have hbelW:=dx hbel hW (by omega)
  clear hbel B1 B2
  have hax:=kE (val xs)
  have hay:=kE (val ys)
  have hmod:=RH (val xs) (val ys)
  generalize numOf (val xs)=ax at *
  generalize numOf (val ys)=bx at *
  have Hmod:=aR hmod
  have hne:g5≠g6:=λe=>SQ (by rw[e])
  have hl5:=afT.lt
  have hl6:=afS.lt
  clear hmod SQ
  dsimp only
  go_wp2_with ((first|(refine ae rfl 222 rfl z222 ?_));(try simp only[nn,Nat.reduceAdd]))
  go_loopw [17] (λt wr=>∃i:Nat,i<=5/\t=.int .i64 i/\aA wr g5 222 (ints .u64 ax)/\aA wr g6 222 (ints .u64 bx)/\aA wr (w.heap.size+2) 213 (ints .u32 (zeros 5))/\aA wr W.heap.size 222 (ints .u64 (bV ax bx (5*i)))/\Below w.heap.size w wr) (λt wr=>5-(intOf t).toNat)
  case atStart =>
   exact⟨0,by omega,rfl,afT.alloc _,afS.alloc _,C3.alloc _,aA.new' rfl,hbelW.alloc (by omega) _⟩
  case round =>
   rename_i hrel
   obtain⟨i,hi,rfl,D5,D6,D3,D4,iX⟩:=hrel
   by_cases hlt:i<5
   ·go_wp2
    go_loopw [20] (λt wr=>∃j:Nat,j<=5/\t=.int .i64 j/\aA wr g5 222 (ints .u64 ax)/\aA wr g6 222 (ints .u64 bx)/\aA wr (w.heap.size+2) 213 (ints .u32 (zeros 5))/\aA wr W.heap.size 222 (ints .u64 (bV ax bx (5*i+j)))/\Below w.heap.size w wr) (λt wr=>5-(intOf t).toNat)
    case atStart=>exact⟨0,by omega,rfl,D5,D6,D3,D4,iX⟩
    case round =>
     rename_i hrel
     obtain⟨j,hj,rfl,E5,E6,E3,E4,aB⟩:=hrel
     by_cases hlj:j<5
     ·have gq:=xY ax bx (5*i+j)
      have hmb:(bV ax bx (5*i+j)).getD ((i+j)%5) 0<2^59:=aC (Fx hax hay (5*i+j) (by omega)) (by omega) ((i+j)%5)
      have c5:=E5.int (i:=i) (by omega)
      have c6:=E6.int (i:=j) (by omega)
      have c4:=E4.int (i:=(i+j)%5) (by omega)
      have z4:=E4.frozen ((i+j)%5)
      have va:=aC hax (by omega) i
      have vb:=aC hay (by omega) j
      have hS:=Oq ax bx i j hlj
      have E4':=E4.dw ((i+j)%5) ((bV ax bx (5*i+j)).getD ((i+j)%5) 0+ax.getD i 0*bx.getD j 0*(if 5<=i+j then 5 else 1))
      rw[←hS] at E4'
      generalize (bV ax bx (5*i+j)).getD ((i+j)%5) 0=m at *
      generalize ax.getD i 0=x at *
      generalize bx.getD j 0=y at *
      have hxy:x*y<2^52:=Nat.lt_of_le_of_lt (Nat.mul_le_mul (Nat.le_of_lt_succ va) (Nat.le_of_lt_succ vb)) (by omega)
      have hxyi:((x*y:Nat):Int)=(x:Int)*y:=by simp
      have hxy0:(0:Int)<=(x:Int)*y:=by omega
      have hxy1:(x:Int)*y<2^52:=by omega
      have HE4:=aR E4'
      clear hS hxyi E4' gq
      have Hxy:=aR hxy
      clear hxy0 hxy1 hxy
      go_wp2
      go_quiet (fail)
      have ew:IntKind.u64.wrap ((x:Int)*y)=((x*y:Nat):Int):=by
       have:=Hxy.out
       have e:(x:Int)*y=((x*y:Nat):Int):=by simp
       rw[e]
       exact IntWalk.u64_in _ (by omega)
      rw[ew]
      have hq:x*y<2^52:=Hxy.out
      clear ew Hxy
      generalize x*y=q at *
      by_cases hge:5<=i+j
      ·rw[if_pos hge] at HE4
       go_wp2
       refine⟨⟨j+1,by omega,by go_num,(E5.drewN nq).far (by simp;omega) _,(E6.drewN nq).far (by simp;omega) _,(E3.drewN nq).far (by simp;omega) _,?_,(UF aB nq).setCell (by simp;omega) _⟩,by simp[intOf];omega⟩
       have:=HE4.out
       simp only[Int.natCast_add,Int.natCast_mul] at this
       exact this
      ·rw[if_neg hge] at HE4
       go_wp2
       refine⟨⟨j+1,by omega,by go_num,(E5.drewN nq).far (by simp;omega) _,(E6.drewN nq).far (by simp;omega) _,(E3.drewN nq).far (by simp;omega) _,?_,(UF aB nq).setCell (by simp;omega) _⟩,by simp[intOf];omega⟩
       have:=HE4.out
       simp only[Int.natCast_add,Int.natCast_mul,Nat.mul_one] at this
       exact this
     ·obtain rfl:j=5:=by omega
      go_wp2
      exact⟨⟨i+1,by omega,by go_num,E5,E6,E3,E4,aB⟩,by simp[intOf];omega⟩
   ·obtain rfl:i=5:=by omega
    have gq:=xY ax bx 25
    have hmb:=Fx hax hay 25 (by omega)
    have hnl:=bB (val (bV ax bx 25))
    go_wp2_with ((first|(refine ag rfl 222 _ rfl W.heap.size rfl D4 jI gq ?_));(try simp only[nn,Nat.reduceAdd]))
    refine(Cb (bV ax bx 25) gq (λx hx=>Nat.lt_trans (hmb x hx) (by omega)) _).mono ?_
    rintro e w2 ⟨rfl,hb2⟩
    have G3:=D3.below' hb2
    go_wp2_with ((first|(refine aa rfl 213 _ _ rfl _ rfl rfl G3 (ah _ _) fU hnl ?_));(try simp only[nn,Nat.reduceAdd]))
    refine aO rfl rfl (G3.row _) fU hnl ⟨by rw[Hmod.out],?_⟩
    exact az (dx iX hb2 (by have:=D3.lt;omega)) (by simp) _
theorem Ji {xs:List Nat}{n:Nat}(h:xs.length=n):(List.range n).map (λi=>xs.getD i 0)=xs:=by
 apply List.ext_getElem? λi=>?_
 by_cases hi:i<n
 ·rw[List.getElem?_map,List.getElem?_range hi,getD_lt (by omega)];rfl
 ·rw[List.getElem?_eq_none (by simp;omega),List.getElem?_eq_none (by omega)]
theorem vo {a b:Nat}(i:Nat)(ha:a<2^i)(h:a+b*2^i<18446744073709551616):bits BinOp.or IntKind.u64 (a:Int) ((b*2^i:Nat):Int)=((a+b*2^i:Nat):Int):=by
 rw[u64_or_nat a _ (by omega) (by omega)]
 have:=Nat.two_pow_add_eq_or_of_lt (i:=i) (b:=a) ha b
 rw[Nat.or_comm,Nat.mul_comm b,←this,Nat.add_comm]
theorem GG (b n m x y:Nat)(hb:0<b)(hx:x<b^n):cZ b n x++cZ b m y=cZ b (n+m) (x+b^n*y):=by
 have h:=jX b (cZ b n x++cZ b m y) (λz hz=>(List.mem_append.1 hz).elim (dU hb n x z) (dU hb m y z))
 rw[eB,iH,iH,bn,Nat.mod_eq_of_lt hx,List.length_append,bn,bn] at h
 rw[←h,←qE b (n+m) (x+b^n*y)]
 congr 1
 rw[Nat.pow_add,Nat.mod_mul,Nat.add_mul_mod_self_left,Nat.mod_eq_of_lt hx,Nat.add_mul_div_left _ _ (Nat.pow_pos hb),Nat.div_eq_of_lt hx,Nat.zero_add]
theorem WG {a b c:Nat}(va:a<67108864)(vb:b<67108864)(vc:c<67108864):bits BinOp.or IntKind.u64 (bits BinOp.or IntKind.u64 (a:Int) ((b:Int)*67108864)) (IntKind.u64.wrap ((c:Int)*4503599627370496))=((a+b*67108864+c%4096*4503599627370496:Nat):Int):=by
 have e1:bits BinOp.or IntKind.u64 (a:Int) ((b:Int)*67108864)=((a+b*67108864:Nat):Int):=by
  have:=vo (a:=a) (b:=b) 26 (by omega) (by omega)
  simpa using this
 have e2:IntKind.u64.wrap ((c:Int)*4503599627370496)=((c%4096*2^52:Nat):Int):=by
  simp[IntKind.wrap,IntKind.bits,IntKind.signed];omega
 rw[e1,e2,vo 52 (by omega) (by omega)]
theorem Xb {c d e:Nat}(vc:c<67108864)(vd:d<67108864)(ve:e<67108864):bits BinOp.or IntKind.u64 (bits BinOp.or IntKind.u64 ((c:Int)/4096) ((d:Int)*16384)) (IntKind.u64.wrap ((e:Int)*1099511627776))=((c/4096+d*16384+e%16777216*1099511627776:Nat):Int):=by
 have e1:bits BinOp.or IntKind.u64 ((c:Int)/4096) ((d:Int)*16384)=((c/4096+d*16384:Nat):Int):=by
  have:=vo (a:=c/4096) (b:=d) 14 (by omega) (by omega)
  simpa using this
 have e2:IntKind.u64.wrap ((e:Int)*1099511627776)=((e%16777216*2^40:Nat):Int):=by
  simp[IntKind.wrap,IntKind.bits,IntKind.signed];omega
 rw[e1,e2,vo 40 (by omega) (by omega)]
theorem Ov {a b c d e:Nat}(va:a<67108864)(vb:b<67108864)(vc:c<67108864)(vd:d<67108864)(ve:e<67108864):cZ 256 8 (a+b*67108864+c%4096*4503599627370496)++cZ 256 8 (c/4096+d*16384+e%16777216*1099511627776)=cZ 256 16 (val [a,b,c,d,e]):=by
 rw[GG 256 8 8 _ _ (by omega) (by omega),←qE 256 16 (val [a,b,c,d,e])]
 congr 1
 have:val [a,b,c,d,e]=a+67108864*(b+67108864*(c+67108864*(d+67108864*e))):=rfl
 rw[this]
 omega
theorem adG (xs:List Nat)(hl:xs.length=5)(hb:∀x∈xs,x<2^32)(w:World) :
  Calls prog 136 #[.agg (ints .u32 xs)] w λe w'=>e=.returned (.agg (ints .u8 (cZ 256 16 (val xs%pp))))/\Below w.heap.size w w':=by
 have B0:=(aA.new w 213 (ints .u32 xs)).alloc (.cells (ints .u8 (zeros 16)) 96)
 have B1:=aA.new (w.alloc (.cells (ints .u32 xs) 213)) 96 (ints .u8 (zeros 16))
 rw[World.size_alloc] at B1
 have hbel:=(bN w (.cells (ints .u32 xs) 213)).alloc (by simp) (.cells (ints .u8 (zeros 16)) 96)
 have hnl:=bB (val xs)
 have hnb:=kE (val xs)
 have aaH:=jT (val xs)
 go_enter func136,ntmps136
 go_wp2_with ((first|(refine ae rfl 96 rfl fw ?_)|(refine ag rfl 213 _ rfl w.heap.size rfl B0 fU hl ?_));(try simp only[nn,Nat.reduceAdd]))
 refine(Kj xs hl hb _).mono ?_
 rintro e w1 ⟨rfl,hb1⟩
 have aK:=bC hbel hb1
 go_wp2_with (fail)
 refine(uf (numOf (val xs)) hnl (λx hx=>Nat.lt_trans (hnb x hx) (by omega)) _).mono ?_
 rintro e w2 ⟨rfl,hb2⟩
 have aB:=bC aK hb2
 have C1:=(B1.below' hb1).below' hb2
 have L0:=aA.new w2 222 (ints .u64 (zeros 5))
 have L1:=L0.row (ints .u64 (numOf (val xs)))
 have C2:=(C1.alloc (.cells (ints .u64 (zeros 5)) 222)).aM (show w.heap.size+1≠w2.heap.size by have:=C1.lt;omega) (ints .u64 (numOf (val xs)))
 have aG:=az (aB.alloc aB.size (.cells (ints .u64 (zeros 5)) 222)) aB.size (ints .u64 (numOf (val xs)))
 clear B0 B1 C1 hbel aK aB
 obtain⟨a,b,c,d,e,hn⟩:=mK hnl
 have HN:=aR hn
 have c0:=L1.int (i:=0) (by omega)
 have c1:=L1.int (i:=1) (by omega)
 have c2:=L1.int (i:=2) (by omega)
 have c3:=L1.int (i:=3) (by omega)
 have c4:=L1.int (i:=4) (by omega)
 rw[show (numOf (val xs)).getD 0 0=a by rw[hn];rfl] at c0
 rw[show (numOf (val xs)).getD 1 0=b by rw[hn];rfl] at c1
 rw[show (numOf (val xs)).getD 2 0=c by rw[hn];rfl] at c2
 rw[show (numOf (val xs)).getD 3 0=d by rw[hn];rfl] at c3
 rw[show (numOf (val xs)).getD 4 0=e by rw[hn];rfl] at c4
 rw[hn] at hnb aaH
 clear hn
 have va:=hnb a (by simp)
 have vb:=hnb b (by simp)
 have vc:=hnb c (by simp)
 have vd:=hnb d (by simp)
 have ve:=hnb e (by simp)
 have HV:=aR aaH
 clear hnb aaH
 go_wp2_with ((first|(refine ae rfl 222 rfl z222 ?_)|(refine aa rfl 222 _ _ rfl w2.heap.size (k:=.u64) rfl rfl L0 (ah _ _) jI hnl ?_));(try simp only[nn,Nat.reduceAdd]))
 rw[WG va vb vc,Xb vc vd ve]
 refine(mo (a+b*67108864+c%4096*4503599627370496) (c/4096+d*16384+e%16777216*1099511627776) (by omega) (by omega) _).mono ?_
 rintro e1 w3 ⟨rfl,hb3⟩
 have C3:=C2.below' hb3
 have aY:=bC aG hb3
 rw[Ov va vb vc vd ve,HV.out]
 have hdl:(cZ 256 16 (val xs%pp)).length=16:=bn _ _ _
 go_wp2_with (refine aa rfl 96 _ _ rfl (w.heap.size+1) rfl rfl C3 (ah _ _) aD hdl ?_;(try simp only[nn,Nat.reduceAdd]))
 exact aO rfl rfl (C3.row _) aD hdl ⟨rfl,az aY (by omega) _⟩
def Jw (bs:List Nat)(high:Nat):Nat:=le bs+340282366920938463463374607431768211456*high
theorem Ba {bs:List Nat}(hl:bs.length=16):le bs=aT bs 0 8+18446744073709551616*aT bs 8 8:=by
 have e:bs=(List.range 8).map (λk=>bs.getD (0+k) 0)++(List.range 8).map (λk=>bs.getD (8+k) 0):=by
  have h:=Ji hl
  have h2:List.range 16=List.range 8++(List.range 8).map (8+·):=rfl
  rw[h2,List.map_append,List.map_map] at h
  have f1:(List.range 8).map (λk=>bs.getD (0+k) 0)=(List.range 8).map (λi=>bs.getD i 0):=List.map_congr_left λk _=>by rw[Nat.zero_add]
  rw[f1]
  exact h.symm
 unfold le aT
 conv=>lhs;rw[e,eB]
 simp
theorem ady {lo hi:Nat}(h0:lo<18446744073709551616)(h1:hi<18446744073709551616):bits BinOp.and IntKind.u64 (bits BinOp.or IntKind.u64 ((lo:Int)/4503599627370496) (IntKind.u64.wrap ((hi:Int)*4096))) 67108863=((lo/4503599627370496+hi%16384*4096:Nat):Int):=by
 have e2:IntKind.u64.wrap ((hi:Int)*4096)=((hi%4503599627370496*2^12:Nat):Int):=by
  simp[IntKind.wrap,IntKind.bits,IntKind.signed];omega
 have e1:((lo:Int)/4503599627370496)=((lo/4503599627370496:Nat):Int):=by simp
 rw[e1,e2,vo 12 (by omega) (by omega),GV _ (by omega)]
 congr 1
 omega
theorem adx {hi h:Nat}(h1:hi<18446744073709551616)(h2:h<4294967296):bits BinOp.or IntKind.u64 ((hi:Int)/1099511627776) ((h:Int)*16777216)=((hi/1099511627776+h*16777216:Nat):Int):=by
 have e1:((hi:Int)/1099511627776)=((hi/1099511627776:Nat):Int):=by simp
 rw[e1]
 have:=vo (a:=hi/1099511627776) (b:=h) 24 (by omega) (by omega)
 simpa using this
theorem aan (bs:List Nat)(hl:bs.length=16)(hb:∀x∈bs,x<256)(high:Nat)(hh:high<4294967296)(w:World) :
  Calls prog 127 #[.agg (ints .u8 bs),.int .u32 high] w λe w'=>e=.returned (.agg (ints .u32 (numOf (Jw bs high))))/\Below w.heap.size w w':=by
 have B0:=(aA.new w 96 (ints .u8 bs)).alloc (.cells (ints .u32 (zeros 5)) 213)
 have B1:=aA.new (w.alloc (.cells (ints .u8 bs) 96)) 213 (ints .u32 (zeros 5))
 rw[World.size_alloc] at B1
 have hbel:=(bN w (.cells (ints .u8 bs) 96)).alloc (by simp) (.cells (ints .u32 (zeros 5)) 213)
 have hlo:aT bs 0 8<18446744073709551616:=eG hb 0 8
 have hhi:aT bs 8 8<18446744073709551616:=eG hb 8 8
 have YY:=Ba hl
 have hld:=yg (some ⟨w.heap.size,0,none⟩) 16 bs hb (by rw[hl];unfold maxLen;omega) _ (Sl.blk B0)
 rw[hl] at hld
 have HL:=aR hld
 have HH:=aR YY
 clear hld YY
 go_enter func127,ntmps127
 go_wp2_with (refine ae rfl 213 rfl z213 ?_;(try simp only[nn,Nat.reduceAdd]))
 refine(HL.out).mono ?_
 rintro e w1 ⟨rfl,hb1⟩
 have aK:=bC hbel hb1
 have C1:=B1.below' hb1
 have L0:=aA.new w1 149 (ints .u64 (zeros 2))
 have L1:=L0.row (ints .u64 [aT bs 0 8,aT bs 8 8])
 have C2:=(C1.alloc (.cells (ints .u64 (zeros 2)) 149)).aM (show w.heap.size+1≠w1.heap.size by have:=C1.lt;omega) (ints .u64 [aT bs 0 8,aT bs 8 8])
 have aG:=az (aK.alloc aK.size (.cells (ints .u64 (zeros 2)) 149)) aK.size (ints .u64 [aT bs 0 8,aT bs 8 8])
 have c0:=L1.int (i:=0) (by simp)
 have c1:=L1.int (i:=1) (by simp)
 simp only[List.getD_cons_zero,List.getD_cons_succ] at c0 c1
 clear B0 B1 C1 hbel aK HL
 go_wp2_with ((first|(refine ae rfl 149 rfl Ee ?_)|(refine aa rfl 149 _ _ rfl w1.heap.size (k:=.u64) (xs:=[aT bs 0 8,aT bs 8 8]) rfl rfl L0 (ah _ _) eH rfl ?_));(try simp only[nn,Nat.reduceAdd]))
 have g0:bits BinOp.and IntKind.u64 ((aT bs 0 8:Nat):Int) 67108863=((aT bs 0 8%67108864:Nat):Int):=GV _ (by omega)
 have g1:bits BinOp.and IntKind.u64 (((aT bs 0 8:Nat):Int)/67108864) 67108863=((aT bs 0 8/67108864%67108864:Nat):Int):=by
  rw[show ((aT bs 0 8:Nat):Int)/67108864=((aT bs 0 8/67108864:Nat):Int) by simp];exact GV _ (by omega)
 have g3:bits BinOp.and IntKind.u64 (((aT bs 8 8:Nat):Int)/16384) 67108863=((aT bs 8 8/16384%67108864:Nat):Int):=by
  rw[show ((aT bs 8 8:Nat):Int)/16384=((aT bs 8 8/16384:Nat):Int) by simp];exact GV _ (by omega)
 rw[g0,g1,ady hlo hhi,g3,adx hhi hh]
 clear g0 g1 g3
 have hvx:val [aT bs 0 8%67108864,aT bs 0 8/67108864%67108864,aT bs 0 8/4503599627370496+aT bs 8 8%16384*4096,aT bs 8 8/16384%67108864,aT bs 8 8/1099511627776+high*16777216]=Jw bs high:=by
  unfold Jw
  rw[HH.out]
  generalize aT bs 0 8=x at *
  generalize aT bs 8 8=y at *
  show x%67108864+67108864*(x/67108864%67108864+67108864*(x/4503599627370496+y%16384*4096+67108864*(y/16384%67108864+67108864*(y/1099511627776+high*16777216+67108864*0))))=_
  omega
 have hlt:∀z∈[aT bs 0 8%67108864,aT bs 0 8/67108864%67108864,aT bs 0 8/4503599627370496+aT bs 8 8%16384*4096,aT bs 8 8/16384%67108864,aT bs 8 8/1099511627776+high*16777216],z<2^60:=by
  generalize aT bs 0 8=x at *
  generalize aT bs 8 8=y at *
  intro z hz
  simp only[List.mem_cons,List.not_mem_nil,or_false] at hz
  rcases hz with rfl|rfl|rfl|rfl|rfl<;>omega
 have htd:=Cb _ rfl hlt
 rw[hvx] at htd
 refine(htd _).mono ?_
 rintro e w3 ⟨rfl,hb3⟩
 have C3:=C2.below' hb3
 have aY:=bC aG hb3
 clear hvx hlt htd HH
 have hnl:=bB (Jw bs high)
 go_wp2_with (refine aa rfl 213 _ _ rfl (w.heap.size+1) rfl rfl C3 (ah _ _) fU hnl ?_;(try simp only[nn,Nat.reduceAdd]))
 exact aO rfl rfl (C3.row _) fU hnl ⟨rfl,az aY (by omega) _⟩
def Kw (i x:Nat):Nat:=if i%4=3 then x%16 else if i=4∨i=8∨i=12 then x/4*4 else x
def nS (key:List Nat):List Nat:=(List.range 16).map λi=>Kw i (key.getD i 0)
theorem yP (key:List Nat):(nS key).length=16:=by simp[nS]
theorem Ph {i x:Nat}(h:x<256):Kw i x<256:=by unfold Kw;split;omega;split<;>omega
theorem Pg {key:List Nat}(hb:∀x∈key,x<256):∀x∈nS key,x<256:=λx hx=>by
 obtain⟨i,-,rfl⟩:=List.mem_map.1 hx
 exact Ph (aC hb (by omega) i)
def uM (key:List Nat):Nat:=Jw (nS key) 0
def rZ (bs:List Nat)(i:Nat):Nat:=le (blk bs i++[1])
theorem aaw (xs:List Nat):le (xs++[1])=le xs+256^xs.length:=by
 unfold le;rw[eB];simp[dL]
theorem RZ (xs:List Nat)(n:Nat):le (xs++zeros n)=le xs:=by
 unfold le zeros;rw[eB,wC];simp
theorem Pk {xs:List Nat}(h:xs.length=16):le (xs++[1])=Jw xs 1:=by
 rw[aaw,h];rfl
theorem GM {bs:List Nat}{i:Nat}(h:16*(i+1)<=bs.length):rZ bs i=Jw (blk bs i) 1:=Pk (MU h)
theorem Ky (xs:List Nat)(n:Nat):Jw (xs++[1]++zeros n) 0=le (xs++[1]):=by
 unfold Jw;rw[RZ];omega
def iq (r v:Nat)(bs:List Nat):Nat->Nat
 | 0=>v%pp
 | n+1=>((iq r v bs n+rZ bs n)*r)%pp
theorem nI (r v:Nat)(bs:List Nat)(n:Nat):iq r v bs (n+1)=((iq r v bs n+rZ bs n)*r)%pp:=rfl
theorem Rl (r v:Nat)(bs:List Nat):∀n,iq r v bs n<pp
 | 0=>Nat.mod_lt _ Jl
 | n+1=>Nat.mod_lt _ Jl
theorem yQ {a:List Nat}(b:List Nat){i:Nat}(h:16*(i+1)<=a.length):rZ (a++b) i=rZ a i:=by
 unfold rZ;rw[uI h]
theorem kD (r v:Nat){a:List Nat}(b:List Nat):∀n,16*n<=a.length->iq r v (a++b) n=iq r v a n
 | 0,_=>rfl
 | n+1,h=>by rw[nI,nI,kD r v b n (by omega),yQ b h]
def chunks (n:Nat):Nat:=(n+15)/16
def iK (key bs:List Nat):Nat:=iq (uM key) 0 bs (chunks bs.length)
theorem Rm (key bs:List Nat):iK key bs<pp:=Rl _ _ _ _
def mP (key bs:List Nat):List Nat:=cZ 256 16 (iK key bs)
theorem Bg (key bs:List Nat):(mP key bs).length=16:=bn _ _ _
theorem FZ (key bs:List Nat):∀x∈mP key bs,x<256:=dU (by omega) _ _
theorem OM (key bs:List Nat):cZ 256 16 (val (numOf (iK key bs))%pp)=mP key bs:=by
 rw[jT,Nat.mod_mod,Nat.mod_eq_of_lt (Rm key bs)];rfl
def Qd (k1 k2:Nat)(key:List Nat):List Nat:=(List.range 16).map λj=>if j%4=3/\j<k1 then key.getD j 0%16 else if (j=4∨j=8∨j=12)/\j<k2 then key.getD j 0/4*4 else key.getD j 0
theorem MO (k1 k2:Nat)(key:List Nat):(Qd k1 k2 key).length=16:=by simp[Qd]
theorem Uk (key:List Nat):∀m,m<4->(Qd (4*m) 0 key).set (4*m+3) (key.getD (4*m+3) 0%16)=Qd (4*(m+1)) 0 key
 | 0,_=>rfl
 | 1,_=>rfl
 | 2,_=>rfl
 | 3,_=>rfl
 | m+4,h=>by omega
theorem Uj (key:List Nat):∀m,m<3->(Qd 16 (4*m+4) key).set (4*m+4) (key.getD (4*m+4) 0/4*4)=Qd 16 (4*(m+1)+4) key
 | 0,_=>rfl
 | 1,_=>rfl
 | 2,_=>rfl
 | m+3,h=>by omega
theorem Um (key:List Nat):∀m,m<4->(Qd (4*m) 0 key).getD (4*m+3) 0=key.getD (4*m+3) 0
 | 0,_=>rfl
 | 1,_=>rfl
 | 2,_=>rfl
 | 3,_=>rfl
 | m+4,h=>by omega
theorem Ul (key:List Nat):∀m,m<3->(Qd 16 (4*m+4) key).getD (4*m+4) 0=key.getD (4*m+4) 0
 | 0,_=>rfl
 | 1,_=>rfl
 | 2,_=>rfl
 | m+3,h=>by omega
theorem Ui {key:List Nat}(h:key.length=16):Qd 0 0 key=key:=by
 match key,h with
 | [a,b,c,d,e,f,g,i,j,k,l,m,n,o,p,q],_=>rfl
theorem MZ {x:Nat}(h:x<256):x &&& 15=x%16:=Nat.and_two_pow_sub_one_eq_mod x 4
theorem abO:∀x,x<256->x &&& 252=x/4*4:=by decide +kernel
theorem VC {x:Nat}(h:x<256):bits BinOp.and IntKind.u8 (x:Int) 15=((x%16:Nat):Int):=by rw[←MZ h];exact u8_and_nat x 15 h (by omega)
theorem QB {x:Nat}(h:x<256):bits BinOp.and IntKind.u8 (x:Int) 252=((x/4*4:Nat):Int):=by rw[←abO x h];exact u8_and_nat x 252 h (by omega)
theorem XO (key:List Nat)(hl:key.length=16)(hb:∀x∈key,x<256)(w:World) :
  Calls prog 128 #[.agg (ints .u8 key)] w λe w'=>e=.returned (.agg (ints .u8 (nS key)))/\Below w.heap.size w w':=by
 have B0:=(aA.new w 96 (ints .u8 key)).alloc (.cells (ints .u8 (zeros 16)) 96)
 have B1:=aA.new (w.alloc (.cells (ints .u8 key) 96)) 96 (ints .u8 (zeros 16))
 rw[World.size_alloc] at B1
 have hbel:=(bN w (.cells (ints .u8 key) 96)).alloc (by simp) (.cells (ints .u8 (zeros 16)) 96)
 go_enter func128,ntmps128
 go_wp2_with (refine ae rfl 96 rfl fw ?_;(try simp only[nn,Nat.reduceAdd]))
 generalize ((w.alloc (.cells (ints .u8 key) 96)).alloc (.cells (ints .u8 (zeros 16)) 96))=w1 at *
 go_loopw [3] (λt wr=>∃m:Nat,m<=4/\t=.int .i64 ((4*m+3:Nat):Int)/\aA wr w.heap.size 96 (ints .u8 (Qd (4*m) 0 key))/\aA wr (w.heap.size+1) 96 (ints .u8 (zeros 16))/\Below w.heap.size w wr) (λt wr=>20-(intOf t).toNat)
 case atStart=>exact⟨0,by omega,rfl,by rw[Nat.mul_zero,Ui hl];exact B0,B1,hbel⟩
 case round =>
  obtain⟨m,hm,rfl,C0,C1,bH⟩:=hrel
  clear B0 B1 hbel
  by_cases hlt:m<4
  ·have hkl:=MO (4*m) 0 key
   have c0:=C0.int (i:=4*m+3) (by omega)
   have z0:=C0.frozen (4*m+3)
   rw[Um key m hlt] at c0
   have vx:=aC hb (by omega) (4*m+3)
   have PK:=C0.dw (4*m+3) (key.getD (4*m+3) 0%16)
   rw[Uk key m hlt] at PK
   have HC:=aR PK
   have hand:=VC vx
   have HX:=aR hand
   clear PK hkl hand
   generalize key.getD (4*m+3) 0=x at *
   have hd:decide (((4*m+3:Nat):Int)<16)=true:=by simp;omega
   obtain⟨i,hi⟩:∃i,i=4*m+3:=⟨_,rfl⟩
   rw[←hi] at c0 z0 HC hd ⊢
   have wI:i<16:=by omega
   have HI:=aR hi
   clear hi
   go_wp2
   rw[show (x:Int)%16=((x%16:Nat):Int) by omega]
   exact⟨⟨m+1,by omega,congrArg (Value.int .i64) (by have:=HI.out;omega),HC.out,C1.far (by first|omega|(simp;done)|(simp;omega)) _,bH.setCell (by first|omega|(simp;done)|(simp;omega)) _⟩,by simp[intOf];omega⟩
  ·obtain rfl:m=4:=by omega
   clear hlt
   have PK:aA wr w.heap.size 96 (ints .u8 (Qd 16 (4*0+4) key)):=C0
   go_wp2
   go_loopw [4] (λt wr=>∃m:Nat,m<=3/\t=.int .i64 ((4*m+4:Nat):Int)/\aA wr w.heap.size 96 (ints .u8 (Qd 16 (4*m+4) key))/\aA wr (w.heap.size+1) 96 (ints .u8 (zeros 16))/\Below w.heap.size w wr) (λt wr=>20-(intOf t).toNat)
   case atStart=>exact⟨0,by omega,rfl,PK,C1,bH⟩
   case round =>
    obtain⟨m,hm,rfl,D0,D1,aB⟩:=hrel
    clear C0 PK C1 bH
    by_cases hlt:m<3
    ·have hkl:=MO 16 (4*m+4) key
     have c0:=D0.int (i:=4*m+4) (by omega)
     have z0:=D0.frozen (4*m+4)
     rw[Ul key m hlt] at c0
     have vx:=aC hb (by omega) (4*m+4)
     have PK:=D0.dw (4*m+4) (key.getD (4*m+4) 0/4*4)
     rw[Uj key m hlt] at PK
     have HC:=aR PK
     have hand:=QB vx
     clear PK hkl
     generalize key.getD (4*m+4) 0=x at *
     have hd:decide (((4*m+4:Nat):Int)<16)=true:=by simp;omega
     obtain⟨i,hi⟩:∃i,i=4*m+4:=⟨_,rfl⟩
     rw[←hi] at c0 z0 HC hd ⊢
     have wI:i<16:=by omega
     have HI:=aR hi
     have HX:=aR hand
     clear hi hand
     go_wp2
     rw[HX.out]
     exact⟨⟨m+1,by omega,congrArg (Value.int .i64) (by have:=HI.out;omega),HC.out,D1.far (by first|omega|(simp;done)|(simp;omega)) _,aB.setCell (by first|omega|(simp;done)|(simp;omega)) _⟩,by simp[intOf];omega⟩
    ·obtain rfl:m=3:=by omega
     clear hlt
     have D0':aA wr w.heap.size 96 (ints .u8 (nS key)):=D0
     have hcl:=yP key
     clear D0
     go_wp2_with ((first|(refine ag rfl 96 _ rfl w.heap.size rfl D0' aD hcl ?_)|(refine aa rfl 96 _ _ rfl (w.heap.size+1) rfl rfl D1 (ah _ _) aD hcl ?_));(try simp only[nn,Nat.reduceAdd]))
     exact aO rfl rfl (D1.row _) aD hcl ⟨rfl,az aB (by omega) _⟩
section
variable {P:Program}
theorem uU {w:World}{ops:Array Oper}{rest:List Oper}{o:Oper}{a:Act}{Q:Exit->Act->World->Prop}{d s:Operand}{dT sT elem t g off dLen dCap sLen sCap:Nat}{sp:Option Addr}{k:IntKind}{pre old post:List Value}{zs:List Nat}(hgd:o.guard=none)
  (ho:o.op=.call { callee:=.builtin .copy,args:=#[d,s],argTypes:=#[dT,sT] }) (hu:P.underlying dT=some (.slice elem)) (hsz:(P.info? elem).map (·.size)=some 1)
  (hd:a.eval d=.slice (some ⟨g,off,none⟩) dLen dCap) (hs:a.eval s=.slice sp sLen sCap) (hg:aA w g t (pre++old++post).toArray) (hsl:Sl w sp k zs) (hn:zs.length=Nat.min sLen dLen)
  (hoff:off=pre.length) (hold:old.length=zs.length)
  (h:∀w',aA w' g t (pre++vals k zs++post).toArray->iG g w w'->wpList P ops Q rest (a.put o.dst (goInt zs.length)) w'):wpList P ops Q (o::rest) a w:=by
 by_cases h0:zs=[]
 ·subst h0
  refine wpList_copy_nothing hgd d s dT sT ho elem hu hsz _ sp dLen dCap sLen sCap hd hs hn.symm ?_
  refine h w ?_ (iG.refl _ _)
  obtain rfl:=List.eq_nil_of_length_eq_zero hold
  exact hg
 ·obtain⟨g2,o2,rfl,hg2,hc⟩:=hsl h0
  have gq:=bg k zs
  refine wpList_copy_own hgd d s dT sT ho elem hu hsz g off dLen dCap ⟨g2,o2,none⟩ sLen sCap hd hs _ t hg (vals k zs) (gq.trans hn) (λj v hv=>?_) (by rw[gq,←hold];simp[hoff]) (dX _ _) ?_
  ·unfold vals at hv
   rw[List.getElem?_map] at hv
   obtain⟨x,hx,rfl⟩:=Option.map_eq_some_iff.1 hv
   obtain⟨hj,-⟩:=List.getElem?_eq_some_iff.1 hx
   rw[Addr.add_mid,hc j hj,List.getD_eq_getElem?_getD,hx];rfl
  ·rw[gq]
   refine h _ ?_ (iG.row _ _ _)
   have e:((pre++old++post).toArray.toList.take off++(vals k zs++(pre++old++post).toArray.toList.drop (off+zs.length)))=pre++vals k zs++post:=by
    subst hoff
    rw[←hold]
    simp[List.take_append,List.drop_append]
   rw[e]
   exact hg.row _
end
def qh (r v rest:List Nat)(m:Nat):Array Value:=(vals .u32 r++vals .u32 v++vals .u8 rest++[Value.int .i64 (m:Int)]).toArray
theorem aaa (r v rest:List Nat)(m:Nat):qh r v rest m=([]++vals .u32 r++(vals .u32 v++vals .u8 rest++[Value.int .i64 (m:Int)])).toArray:=by simp[qh]
theorem Lf (r v rest:List Nat)(m:Nat):qh r v rest m=(vals .u32 r++vals .u32 v++(vals .u8 rest++[Value.int .i64 (m:Int)])).toArray:=by simp[qh]
theorem EJ (r v rest:List Nat)(m:Nat):qh r v rest m=((vals .u32 r++vals .u32 v)++vals .u8 rest++[Value.int .i64 (m:Int)]).toArray:=by simp[qh]
theorem oK (r v rest:List Nat)(m:Nat):qh r v rest m=((vals .u32 r++vals .u32 v++vals .u8 rest)++[Value.int .i64 (m:Int)]++[]).toArray:=by simp[qh]
theorem vO (k:IntKind)(xs ys:List Nat):vals k (xs++ys)=vals k xs++vals k ys:=by simp[vals]
theorem QU (r v:List Nat){rest:List Nat}(m j n:Nat)(hj:j+n<=rest.length):qh r v rest m=((vals .u32 r++vals .u32 v++vals .u8 (rest.take j))++vals .u8 ((rest.drop j).take n)++(vals .u8 (rest.drop (j+n))++[Value.int .i64 (m:Int)])).toArray:=by
 have e:rest=rest.take j++((rest.drop j).take n++rest.drop (j+n)):=by
  rw[←List.drop_drop,List.take_append_drop,List.take_append_drop]
 conv=>lhs;rw[e]
 simp[qh,vO]
theorem wF (v:Nat):∀x∈numOf v,x<2^32:=λx hx=>Nat.lt_trans (kE v x hx) (by decide)
theorem EI {r v rest:List Nat}(hr:r.length=5)(hv:v.length=5)(hs:rest.length=16)(m:Nat):(qh r v rest m).size=27:=by simp[qh,bg,hr,hv,hs]
theorem Rn (r v c:Nat):numOf (val (numOf (val (numOf v)+val (numOf c)))*val (numOf r))=numOf ((v+c)*r):=by
 refine pg ?_
 rw[jT,jT,jT,jT,←Nat.mul_mod,Nat.mul_mod,←Nat.add_mod,←Nat.mul_mod]
theorem LA (g r v c:Nat)(rest:List Nat)(m:Nat)(w:World)(S0:aA w g 216 (qh (numOf r) (numOf v) rest m)) :
  Calls prog 129 #[.pointer (some ⟨g,0,none⟩),.agg (ints .u32 (numOf c))] w λe w'=>e=.returned (.tuple #[])/\aA w' g 216 (qh (numOf r) (numOf ((v+c)*r)) rest m)/\Ch g w w':=by
 have B0:=aA.new w 213 (ints .u32 (numOf c))
 have S1:=S0.alloc (.cells (ints .u32 (numOf c)) 213)
 have hch:=Ch.of_below (g:=g) (bN w (.cells (ints .u32 (numOf c)) 213))
 have hgl:=S1.lt
 go_enter func129,ntmps129
 go_wp2_with fail
 generalize (w.alloc (.cells (ints .u32 (numOf c)) 213))=w0 at *
 have SR:=S1
 rw[aaa] at SR
 have SV:=S1
 rw[Lf] at SV
 have hpl:5=(vals .u32 (numOf r)).length:=by rw[bg,bB]
 have hcl:=bB c
 refine fD 14 (by kernel_rfl) (by kernel_rfl) (by kernel_rfl) (by kernel_rfl) (λD bP W=>∃u2 u4 u5 u6 u7 u8 u9 u10 u11 u12 u13 u14 u15 u16 u17:Value,bP={ tmps:=#[.pointer (some ⟨g,0,none⟩),.agg (ints .u32 (numOf c)),u2,.pointer (some ⟨w.heap.size,0,none⟩),u4,u5,u6,u7,u8,u9,u10,u11,u12,u13,u14,u15,u16,u17],defers:=[] }/\Below w0.heap.size w0 W/\(D 0->u4=.pointer (some ⟨g,0,none⟩))/\(D 1->u5=.pointer (some ⟨g,0,none⟩))/\(D 2->u6=.pointer (some ⟨g,0,none⟩))/\(D 3->u7=.pointer (some ⟨g,5,none⟩))/\(D 4->u8=.agg (ints .u32 (numOf v)))/\(D 5->u9=.agg (ints .u32 (numOf c)))/\(D 6->u10=.agg (ints .u32 (numOf (val (numOf v)+val (numOf c)))))/\(D 7->u11=.pointer (some ⟨g,0,none⟩))/\(D 8->u12=.pointer (some ⟨g,0,none⟩))/\(D 9->u13=.pointer (some ⟨g,0,none⟩))/\(D 10->u14=.agg (ints .u32 (numOf r)))/\(D 11->u15=.agg (ints .u32 (numOf (val (numOf (val (numOf v)+val (numOf c)))*val (numOf r)))))/\(D 12->u16=.pointer (some ⟨g,0,none⟩))/\(D 13->u17=.pointer (some ⟨g,5,none⟩))) ?_ ?_ ?_
 ·exact aL <| (⟨_,_,_,_,_,_,_,rfl,⟨rfl,rfl,rfl,Nat.le_refl _,λ_ _=>rfl⟩,nofun,nofun,nofun,nofun,nofun,nofun,nofun,nofun,nofun,nofun,nofun,nofun,nofun,nofun⟩)
 ·intro i o hilt hi D bP W hI hnD hall
  obtain⟨u2,u4,u5,u6,u7,u8,u9,u10,u11,u12,u13,u14,u15,u16,u17,rfl,hW,f0,f1,f2,f3,f4,f5,f6,f7,f8,f9,f10,f11,f12,f13⟩:=hI
  rcases i with _|_|_|_|_|_|_|_|_|_|_|_|_|_|i<;>try cases hi
  ·refine af (v:=.pointer (some ⟨g,0,none⟩)) rfl rfl rfl ?_
   exact aL <| (⟨_,_,_,_,_,_,_,rfl,hW,λ_=>rfl,λh=>f1 (rl h),λh=>f2 (rl h),λh=>f3 (rl h),λh=>f4 (rl h),λh=>f5 (rl h),λh=>f6 (rl h),λh=>f7 (rl h),λh=>f8 (rl h),λh=>f9 (rl h),λh=>f10 (rl h),λh=>f11 (rl h),λh=>f12 (rl h),λh=>f13 (rl h)⟩)
  ·refine af (v:=.pointer (some ⟨g,0,none⟩)) rfl rfl rfl ?_
   exact aL <| (⟨_,_,_,_,_,_,_,rfl,hW,λh=>f0 (rl h),λ_=>rfl,λh=>f2 (rl h),λh=>f3 (rl h),λh=>f4 (rl h),λh=>f5 (rl h),λh=>f6 (rl h),λh=>f7 (rl h),λh=>f8 (rl h),λh=>f9 (rl h),λh=>f10 (rl h),λh=>f11 (rl h),λh=>f12 (rl h),λh=>f13 (rl h)⟩)
  ·obtain rfl:=f1 (aj hall 1 rfl)
   refine af (v:=.pointer (some ⟨g,0,none⟩)) rfl rfl (by kernel_rfl) ?_
   exact aL <| (⟨_,_,_,_,_,_,_,rfl,hW,λh=>f0 (rl h),λh=>f1 (rl h),λ_=>rfl,λh=>f3 (rl h),λh=>f4 (rl h),λh=>f5 (rl h),λh=>f6 (rl h),λh=>f7 (rl h),λh=>f8 (rl h),λh=>f9 (rl h),λh=>f10 (rl h),λh=>f11 (rl h),λh=>f12 (rl h),λh=>f13 (rl h)⟩)
  ·obtain rfl:=f2 (aj hall 2 rfl)
   refine af (v:=.pointer (some ⟨g,5,none⟩)) rfl rfl (by kernel_rfl) ?_
   exact aL <| (⟨_,_,_,_,_,_,_,rfl,hW,λh=>f0 (rl h),λh=>f1 (rl h),λh=>f2 (rl h),λ_=>rfl,λh=>f4 (rl h),λh=>f5 (rl h),λh=>f6 (rl h),λh=>f7 (rl h),λh=>f8 (rl h),λh=>f9 (rl h),λh=>f10 (rl h),λh=>f11 (rl h),λh=>f12 (rl h),λh=>f13 (rl h)⟩)
  ·obtain rfl:=f3 (aj hall 3 rfl)
   refine af (v:=.agg (ints .u32 (numOf v))) rfl rfl (dB rfl rfl ((SV.below' hW).part hpl) fU (bB _)) ?_
   exact aL <| (⟨_,_,_,_,_,_,_,rfl,hW,λh=>f0 (rl h),λh=>f1 (rl h),λh=>f2 (rl h),λh=>f3 (rl h),λ_=>rfl,λh=>f5 (rl h),λh=>f6 (rl h),λh=>f7 (rl h),λh=>f8 (rl h),λh=>f9 (rl h),λh=>f10 (rl h),λh=>f11 (rl h),λh=>f12 (rl h),λh=>f13 (rl h)⟩)
  ·refine bf rfl rfl rfl rfl (B0.below' hW) fU hcl ?_
   exact aL <| (⟨_,_,_,_,_,_,_,rfl,hW,λh=>f0 (rl h),λh=>f1 (rl h),λh=>f2 (rl h),λh=>f3 (rl h),λh=>f4 (rl h),λ_=>rfl,λh=>f6 (rl h),λh=>f7 (rl h),λh=>f8 (rl h),λh=>f9 (rl h),λh=>f10 (rl h),λh=>f11 (rl h),λh=>f12 (rl h),λh=>f13 (rl h)⟩)
  ·obtain rfl:=f4 (aj hall 4 rfl)
   obtain rfl:=f5 (aj hall 5 rfl)
   refine aV 133 rfl rfl rfl func133 (by kernel_rfl) (by kernel_rfl) (aak (numOf v) (numOf c) (bB _) (wF _) (bB _) (wF _) W) ?_
   intro W' hW'
   exact aL <| (⟨_,_,_,_,_,_,_,rfl,bC hW hW',λh=>f0 (rl h),λh=>f1 (rl h),λh=>f2 (rl h),λh=>f3 (rl h),λh=>f4 (rl h),λh=>f5 (rl h),λ_=>rfl,λh=>f7 (rl h),λh=>f8 (rl h),λh=>f9 (rl h),λh=>f10 (rl h),λh=>f11 (rl h),λh=>f12 (rl h),λh=>f13 (rl h)⟩)
  ·refine af (v:=.pointer (some ⟨g,0,none⟩)) rfl rfl rfl ?_
   exact aL <| (⟨_,_,_,_,_,_,_,rfl,hW,λh=>f0 (rl h),λh=>f1 (rl h),λh=>f2 (rl h),λh=>f3 (rl h),λh=>f4 (rl h),λh=>f5 (rl h),λh=>f6 (rl h),λ_=>rfl,λh=>f8 (rl h),λh=>f9 (rl h),λh=>f10 (rl h),λh=>f11 (rl h),λh=>f12 (rl h),λh=>f13 (rl h)⟩)
  ·obtain rfl:=f7 (aj hall 7 rfl)
   refine af (v:=.pointer (some ⟨g,0,none⟩)) rfl rfl (by kernel_rfl) ?_
   exact aL <| (⟨_,_,_,_,_,_,_,rfl,hW,λh=>f0 (rl h),λh=>f1 (rl h),λh=>f2 (rl h),λh=>f3 (rl h),λh=>f4 (rl h),λh=>f5 (rl h),λh=>f6 (rl h),λh=>f7 (rl h),λ_=>rfl,λh=>f9 (rl h),λh=>f10 (rl h),λh=>f11 (rl h),λh=>f12 (rl h),λh=>f13 (rl h)⟩)
  ·obtain rfl:=f8 (aj hall 8 rfl)
   refine af (v:=.pointer (some ⟨g,0,none⟩)) rfl rfl (by kernel_rfl) ?_
   exact aL <| (⟨_,_,_,_,_,_,_,rfl,hW,λh=>f0 (rl h),λh=>f1 (rl h),λh=>f2 (rl h),λh=>f3 (rl h),λh=>f4 (rl h),λh=>f5 (rl h),λh=>f6 (rl h),λh=>f7 (rl h),λh=>f8 (rl h),λ_=>rfl,λh=>f10 (rl h),λh=>f11 (rl h),λh=>f12 (rl h),λh=>f13 (rl h)⟩)
  ·obtain rfl:=f9 (aj hall 9 rfl)
   refine af (v:=.agg (ints .u32 (numOf r))) rfl rfl (dB rfl rfl ((SR.below' hW).part rfl) fU (bB _)) ?_
   exact aL <| (⟨_,_,_,_,_,_,_,rfl,hW,λh=>f0 (rl h),λh=>f1 (rl h),λh=>f2 (rl h),λh=>f3 (rl h),λh=>f4 (rl h),λh=>f5 (rl h),λh=>f6 (rl h),λh=>f7 (rl h),λh=>f8 (rl h),λh=>f9 (rl h),λ_=>rfl,λh=>f11 (rl h),λh=>f12 (rl h),λh=>f13 (rl h)⟩)
  ·obtain rfl:=f6 (aj hall 6 rfl)
   obtain rfl:=f10 (aj hall 10 rfl)
   refine aV 134 rfl rfl rfl func134 (by kernel_rfl) (by kernel_rfl) (VE _ (numOf r) (bB _) (wF _) (bB _) (wF _) W) ?_
   intro W' hW'
   exact aL <| (⟨_,_,_,_,_,_,_,rfl,bC hW hW',λh=>f0 (rl h),λh=>f1 (rl h),λh=>f2 (rl h),λh=>f3 (rl h),λh=>f4 (rl h),λh=>f5 (rl h),λh=>f6 (rl h),λh=>f7 (rl h),λh=>f8 (rl h),λh=>f9 (rl h),λh=>f10 (rl h),λ_=>rfl,λh=>f12 (rl h),λh=>f13 (rl h)⟩)
  ·obtain rfl:=f0 (aj hall 0 rfl)
   refine af (v:=.pointer (some ⟨g,0,none⟩)) rfl rfl (by kernel_rfl) ?_
   exact aL <| (⟨_,_,_,_,_,_,_,rfl,hW,λh=>f0 (rl h),λh=>f1 (rl h),λh=>f2 (rl h),λh=>f3 (rl h),λh=>f4 (rl h),λh=>f5 (rl h),λh=>f6 (rl h),λh=>f7 (rl h),λh=>f8 (rl h),λh=>f9 (rl h),λh=>f10 (rl h),λh=>f11 (rl h),λ_=>rfl,λh=>f13 (rl h)⟩)
  ·obtain rfl:=f12 (aj hall 12 rfl)
   refine af (v:=.pointer (some ⟨g,5,none⟩)) rfl rfl (by kernel_rfl) ?_
   exact aL <| (⟨_,_,_,_,_,_,_,rfl,hW,λh=>f0 (rl h),λh=>f1 (rl h),λh=>f2 (rl h),λh=>f3 (rl h),λh=>f4 (rl h),λh=>f5 (rl h),λh=>f6 (rl h),λh=>f7 (rl h),λh=>f8 (rl h),λh=>f9 (rl h),λh=>f10 (rl h),λh=>f11 (rl h),λh=>f12 (rl h),λ_=>rfl⟩)
  ·exfalso;omega
 ·rintro D bP W ⟨u2,u4,u5,u6,u7,u8,u9,u10,u11,u12,u13,u14,u15,u16,u17,rfl,hW,f0,f1,f2,f3,f4,f5,f6,f7,f8,f9,f10,f11,f12,f13⟩ hall
  obtain rfl:=f0 (hall 0 (by decide))
  obtain rfl:=f1 (hall 1 (by decide))
  obtain rfl:=f2 (hall 2 (by decide))
  obtain rfl:=f3 (hall 3 (by decide))
  obtain rfl:=f4 (hall 4 (by decide))
  obtain rfl:=f5 (hall 5 (by decide))
  obtain rfl:=f6 (hall 6 (by decide))
  obtain rfl:=f7 (hall 7 (by decide))
  obtain rfl:=f8 (hall 8 (by decide))
  obtain rfl:=f9 (hall 9 (by decide))
  obtain rfl:=f10 (hall 10 (by decide))
  obtain rfl:=f11 (hall 11 (by decide))
  obtain rfl:=f12 (hall 12 (by decide))
  obtain rfl:=f13 (hall 13 (by decide))
  clear f0 f1 f2 f3 f4 f5 f6 f7 f8 f9 f10 f11 f12 f13 hall
  refine eO rfl rfl 213 _ _ rfl 5 (vs:=vals .u32 (numOf (val (numOf (val (numOf v)+val (numOf c)))*val (numOf r)))) rfl rfl (SV.below' hW) hpl fU (by rw[bg];exact bB _) (by rw[bg];exact bB _) (dX _ _) ?_
  intro w5 S5 F5
  rw[Rn,←Lf] at S5
  have nZ:=(hch.trans (Ch.of_below hW)).trans (Ch.bX F5)
  go_wp2_with fail
  refine bodyPost_end (v:=.tuple #[]) (by simp[results,results129]) rfl ⟨rfl,S5,nZ⟩
def jD (w:World)(g:Nat)(key bs:List Nat):Prop:=∃rest:List Nat,rest.length=16/\(∀x∈rest,x<256)/\rest.take (bs.length%16)=bs.drop (16*(bs.length/16)) /\
 aA w g 216 (qh (numOf (uM key)) (numOf (iq (uM key) 0 bs (bs.length/16))) rest (bs.length%16))
theorem jD.lt {w:World}{g:Nat}{key bs:List Nat}(h:jD w g key bs):g<w.heap.size:=let ⟨_,_,_,_,hb⟩:=h;hb.lt
theorem jD.below {w w':World}{g:Nat}{key bs:List Nat}(h:jD w g key bs)(hb:Below w.heap.size w w'):jD w' g key bs:=let ⟨r,h1,h2,h3,h4⟩:=h;⟨r,h1,h2,h3,h4.below' hb⟩
theorem adP (k:IntKind)(a b c d e:Nat):ints k [a,b,c,d,e]=#[.int k a,.int k b,.int k c,.int k d,.int k e]:=rfl
theorem JA (key:List Nat)(hl:key.length=16)(hb:∀x∈key,x<256)(w:World) :
  Calls prog 118 #[.agg (ints .u8 key)] w λe w'=>∃g,e=.returned (.pointer (some ⟨g,0,none⟩))/\w.heap.size<=g/\jD w' g key []/\Below w.heap.size w w':=by
 have B0:=aA.new w 96 (ints .u8 key)
 have hbel:=bN w (.cells (ints .u8 key) 96)
 have hof:=λW=>aan (nS key) (yP key) (Pg hb) 0 (by omega) W
 go_enter func118,ntmps118
 go_wp2_with (refine ag rfl 96 _ rfl w.heap.size rfl B0 aD hl ?_;(try simp only[nn,Nat.reduceAdd]))
 generalize (w.alloc (.cells (ints .u8 key) 96))=w0 at *
 refine(XO key hl hb _).mono ?_
 rintro e w1 ⟨rfl,hb1⟩
 have aK:=bC hbel hb1
 go_wp2_with fail
 refine(hof _).mono ?_
 rintro e w2 ⟨rfl,hb2⟩
 have aB:=bC aK hb2
 obtain⟨n0,n1,n2,n3,n4,hn⟩:=mK (bB (Jw (nS key) 0))
 rw[hn,adP]
 go_wp2_with fail
 have S:=aA.new w2 216 (qh [n0,n1,n2,n3,n4] (zeros 5) (zeros 16) 0)
 go_ret
 have hz:numOf (iq (uM key) 0 [] (([]:List Nat).length/16))=zeros 5:=by
  show numOf (0%pp)=zeros 5
  decide
 refine⟨_,rfl,aB.size,⟨zeros 16,aH _,dh _ (by omega),rfl,?_⟩,aB.alloc aB.size _⟩
 rw[hz,show uM key=Jw (nS key) 0 from rfl,hn]
 exact S
theorem Tryz.aam:qc prog 3:=by unfold qc;kernel_rfl
def RY:Value->Nat
 | .slice _ n _=>n
 | _=>0
theorem jv (r v:Nat){rest:List Nat}{m:Nat}(hl:rest.length=16):(qh (numOf r) (numOf v) rest m)[26]?=some (.int .i64 (m:Int)):=by
 have h:((vals .u32 (numOf r)++vals .u32 (numOf v)++vals .u8 rest):List Value).length=26:=by simp[bg,bB,hl]
 unfold qh
 rw[List.getElem?_toArray,List.getElem?_append_right (by omega),h];rfl
def ky (rest:List Nat)(m:Nat)(zs:List Nat):List Nat:=rest.take m++zs++rest.drop (m+zs.length)
section
variable {rest zs:List Nat}{m:Nat}
theorem Az (h:rest.length=16)(hm:m+zs.length<=16):(ky rest m zs).length=16:=by
 unfold ky
 rw[List.length_append,List.length_append,List.length_take,List.length_drop];omega
theorem Rf (h:∀x∈rest,x<256)(hz:∀x∈zs,x<256):∀x∈ky rest m zs,x<256:=λx hx=>by
 unfold ky at hx
 rcases List.mem_append.1 hx with hx|hx
 ·rcases List.mem_append.1 hx with hx|hx
  ·exact h x (List.mem_of_mem_take hx)
  ·exact hz x hx
 ·exact h x (List.mem_of_mem_drop hx)
theorem rG (h:rest.length=16)(hm:m+zs.length<=16):(ky rest m zs).take (m+zs.length)=rest.take m++zs:=by
 unfold ky
 rw[List.take_left' (by rw[List.length_append,List.length_take];omega)]
end
theorem VP (r v:List Nat)(rest zs:List Nat)(m k:Nat):((vals .u32 r++vals .u32 v++vals .u8 (rest.take k))++vals .u8 zs++(vals .u8 (rest.drop (k+zs.length))++[Value.int .i64 (m:Int)])).toArray=qh r v (ky rest k zs) m:=by
 simp[qh,ky,vO]
section
variable {key L zs rest:List Nat}{q m:Nat}
theorem VM (hL:L.length=16*q+m)(hm:m+zs.length<16)(hr:rest.length=16)(ht:rest.take m=L.drop (16*q)) :
  (L++zs).length/16=q/\(L++zs).length%16=m+zs.length/\(ky rest m zs).take (m+zs.length)=(L++zs).drop (16*q)/\iq (uM key) 0 (L++zs) q=iq (uM key) 0 L q:=by
 refine⟨by rw[List.length_append];omega,by rw[List.length_append];omega,?_,kD _ _ _ _ (by omega)⟩
 rw[rG hr (by omega),ht,List.drop_append_of_le_length (by omega)]
theorem VN (hL:L.length=16*q+m)(hm:m+zs.length=16)(hr:rest.length=16)(ht:rest.take m=L.drop (16*q)) :
  (L++zs).length/16=q+1/\(L++zs).length%16=0/\(L++zs).drop (16*(q+1))=[]/\numOf ((iq (uM key) 0 L q+Jw (ky rest m zs) 1)*uM key)=numOf (iq (uM key) 0 (L++zs) (q+1)):=by
 refine⟨by rw[List.length_append];omega,by rw[List.length_append];omega,List.drop_eq_nil_of_le (by rw[List.length_append];omega),?_⟩
 have hb:blk (L++zs) q=ky rest m zs:=by
  unfold blk
  rw[List.drop_append_of_le_length (by omega),←ht,←rG hr (by omega),hm,List.take_take,Nat.min_self,List.take_of_length_le (by rw[Az hr (by omega)];omega)]
 rw[nI,kD _ _ _ _ (by omega),GM (by rw[List.length_append];omega),hb,AP]
end
def Ed (a:Option Addr)(g:Nat)(xs:List Nat):Prop:=xs≠[]->∀p,a=some p->p.block≠g
theorem _root_.Go.Proofs.YtaiffkajkbiidaaGreatDoor.Ch.sl' {g:Nat}{w w':World}(h:Ch g w w'){ad:Option Addr}{k:IntKind}{xs:List Nat}(hs:Sl w ad k xs)(hne:Ed ad g xs):Sl w' ad k xs:=λhn=>h.sl hs (λb off e=>hne hn _ e) hn
theorem Ed.sliced {a:Option Addr}{g c n:Nat}{xs:List Nat}(h:Ed a g xs):Ed (if c=n then a else a.map (·.add (n*1))) g (xs.drop n):=by
 intro hn p
 have hn':xs≠[]:=by rintro rfl;simp at hn
 split
 ·exact h hn' p
 ·cases a with
  | none=>intro e;cases e
  | some a =>
   intro e
   rw[Option.map_some] at e
   cases e
   have:=h hn' a rfl
   unfold Addr.add
   split<;>exact this
theorem Ed.LG {w:World}{a:Option Addr}{k:IntKind}{xs:List Nat}{g:Nat}(h:Sl w a k xs)(hg:w.heap.size<=g):Ed a g xs:=λhn p e=>by
 obtain⟨b,off,q1,q2,-⟩:=h hn
 rw[q1] at e
 cases e
 show b≠g
 omega
section
variable {P:Program}{ops:Array Oper}{rest:List Oper}{o:Oper}{a:Act}{w:World}{Q:Exit->Act->World->Prop}
theorem iQ {T e n N c:Nat}{x y:Operand}{ad:Option Addr}{k:IntKind}{xs:List Nat}(hgd:o.guard=none)(ho:o.op=.slice T x (some y) none none)(hT:P.underlying T=some (.slice e))(hs:(P.info? e).map (·.size)=some 1)
  (hx:a.eval x=.slice ad N c) (hy:a.eval y=.int .i64 (n:Int)) (hN:xs.length=N) (hn:n<=N) (hc:N<=c) (hsl:Sl w ad k xs)
  (h:∀sI c2,Sl w sI k (xs.drop n)->(∀g,Ed ad g xs->Ed sI g (xs.drop n))->N-n<=c2->(c<=maxLen->c2<=maxLen)->wpList P ops Q rest (a.put o.dst (.slice sI (N-n) c2)) w):wpList P ops Q (o::rest) a w :=
 wpList_plain hgd λ_ hK=>by
  obtain⟨d,hd,hd1⟩:=Option.map_eq_some_iff.1 hs
  have he:=jQ hT
  have hT':P.underlying T=some (.slice (P.elem T)):=by rw[he];exact hT
  have hr:=run_slice_l (P:=P) (w:=w) T ad N c hT' .i64 n (by omega) (by omega)
  have hsz:(sizeOf (P.elem T)).run P w=.ok 1 w:=by simp[sizeOf,typeInfo,he,hd,hd1]
  rw[hsz] at hr
  unfold Oper.wp execOp
  simp only[ho,hx,hy,Option.map_some,Option.map_none,Sem.run_bind,Sem.run_pure,run_sliceAt_slice w T _ _ _ _ hT',hr,Result.andThen_ok,Int.toNat_natCast,sliced]
  exact hK _ _ (h _ _ (hsl.sliced (by omega)) (λg hg=>hg.sliced) (by omega) (λhm=>by omega))
end
theorem oz (g:Nat)(key al b:List Nat)(hbb:∀x∈b,x<256)(hal:al.length<2^31)(hbl:b.length<2^31)(ad:Option Addr)(c:Nat)(hc:b.length<=c)(hne:Ed ad g b)(w:World)(hS:jD w g key al)(hs0:Sl w ad .u8 b) :
  Calls prog 119 #[.pointer (some ⟨g,0,none⟩),.slice ad b.length c] w λe w'=>e=.returned (.tuple #[])/\jD w' g key (al++b)/\Ch g w w':=by
 obtain⟨N,HN⟩:=bD (b.length)
 rw[HN.out] at hc hbl ⊢
 go_enter func119,ntmps119
 obtain⟨J,HJ,HI0⟩:=jmp (λaJ w'=>∃(U:Nat->Value) (i:Nat) (zm:Option Addr) (c':Nat),aJ={ tmps:=#[.pointer (some ⟨g,0,none⟩),.slice zm (N-i) c',U 2,U 3,U 4,U 5,U 6,U 7,U 8,U 9,U 10,U 11,U 12,U 13,U 14,U 15,U 16,U 17,U 18,U 19,U 20,U 21,U 22,U 23,U 24,U 25,U 26,U 27,U 28,U 29,U 30,U 31,U 32,U 33,U 34,U 35,U 36,U 37,U 38,U 39,U 40,U 41,U 42],defers:=[] }/\i<=N/\N-i<=c'/\Ed zm g (b.drop i)/\Sl w' zm .u8 (b.drop i)/\jD w' g key (al++b.take i)/\Ch g w w')
 have HI:Hid (∀(T:Array Value) (w':World),(∃(i:Nat) (zm:Option Addr) (c':Nat),T=((λ(U:Nat->Value)=>#[.pointer (some ⟨g,0,none⟩),.slice zm (N-i) c',U 2,U 3,U 4,U 5,U 6,U 7,U 8,U 9,U 10,U 11,U 12,U 13,U 14,U 15,U 16,U 17,U 18,U 19,U 20,U 21,U 22,U 23,U 24,U 25,U 26,U 27,U 28,U 29,U 30,U 31,U 32,U 33,U 34,U 35,U 36,U 37,U 38,U 39,U 40,U 41,U 42]) λi=>T.getD i undef)/\i<=N/\N-i<=c'/\Ed zm g (b.drop i)/\Sl w' zm .u8 (b.drop i)/\jD w' g key (al++b.take i)/\Ch g w w')->J { tmps:=T,defers:=[] } w') :=
  aR λT w' ⟨i,zm,c',hJ,rJ⟩=>HI0.out _ _ ⟨λi=>T.getD i undef,i,zm,c',congrArg (λT=>({ tmps:=T,defers:=[] }:Act)) hJ,rJ⟩
 clear HI0
 obtain⟨μ,Hμ⟩:∃μ:Act->World->Nat,Hid (∀a w',μ a w'=RY (a.tmps.getD 1 undef)):=⟨_,aR λ_ _=>rfl⟩
 refine dF 0 J μ (by simp only[findLabel];rfl) ?_ ?_
 ·intro a wr hj
  obtain⟨U,i,zm,c',rfl,hi,hc',hne',hsl,⟨rest,hrl,hrb,hrt,S0⟩,hch⟩:=HJ.out _ _ hj
  clear hj
  have hμ:=Hμ.out
  clear Hμ
  obtain⟨L,HL⟩:=bD (al++b.take i)
  rw[HL.out] at hrt S0
  obtain⟨q,Hq⟩:=bD (L.length/16)
  obtain⟨m,Hm⟩:=bD (L.length%16)
  rw[Hq.out,Hm.out] at S0 hrt
  have aez:m<16:=by rw[←Hm.out];omega
  have hLl:Hid (L.length=16*q+m):=aR (by rw[←Hq.out,←Hm.out];omega)
  obtain⟨v,Hv⟩:=bD (iq (uM key) 0 L q)
  rw[Hv.out] at S0
  obtain⟨n,Hn⟩:=bD (min (N-i) (16-m))
  have hn0:n<=N-i:=by rw[←Hn.out];omega
  have hn1:n<=16-m:=by rw[←Hn.out];omega
  have hn2:m+n<16->n=N-i:=by rw[←Hn.out];omega
  obtain⟨zs,Yn⟩:=bD ((b.drop i).take n)
  have hzl:zs.length=n:=by rw[←Yn.out,List.length_take,List.length_drop,HN.out];omega
  have HZ:Sl wr zm .u8 zs:=by rw[←Yn.out];exact hsl.take n
  have hzb:∀x∈zs,x<256:=λx hx=>by rw[←Yn.out] at hx;exact hbb x (List.mem_of_mem_drop (List.mem_of_mem_take hx))
  have hmin:zs.length=Nat.min (N-i) (16-m):=by rw[hzl];exact Hn.out.symm
  have S1:=S0
  rw[QU _ _ m m zs.length (by omega)] at S1
  have hcm:wr.cell? ⟨g,26,none⟩=some (.int .i64 (m:Int)):=by rw[S0.cell,jv _ _ hrl]
  have hnm:¬16=m:=by omega
  have hmI:(m:Int)<=16:=by omega
  have hgl:=S0.lt
  go_wp2_with fail
  go_still_tail 9,(by kernel_rfl)
  change wpList _ _ _ _ _ wr.drew
  replace S0:=S0.drew
  replace S1:=S1.drew
  have HZ':Sl wr.drew zm .u8 zs:=HZ
  have aem:Sl wr.drew zm .u8 (b.drop i):=hsl
  have hch':=hch.drew
  clear HZ hsl hch hcm hgl
  generalize wr.drew=w2 at *
  have hgl:=S1.lt
  refine uU rfl rfl underlying23 s15 rfl rfl S1 HZ' hmin (by simp[bg,bB,hrl];omega) (by simp[bg,hrl];omega) ?_
  intro w3 S3 F3
  rw[VP] at S3
  have OB:=(Ch.bX F3).sl' aem hne'
  have JW:=hch'.trans (Ch.bX F3)
  have hr3:=Az (rest:=rest) (zs:=zs) hrl (by omega:m+zs.length<=16)
  have hb3:=Rf (rest:=rest) (zs:=zs) (m:=m) hrb hzb
  have Ht3:=aR (rG (rest:=rest) (zs:=zs) hrl (by omega:m+zs.length<=16))
  have hcm:w3.cell? ⟨g,26,none⟩=some (.int .i64 (m:Int)):=by rw[S3.cell,jv _ _ hr3]
  clear S0 S1 HZ' aem hch'
  have Hrt:=aR hrt
  clear hrt hmin
  have HR:Hid (ky rest m zs=ky rest m zs):=aR rfl
  have Hzl:=aR hzl
  rw[hzl]
  clear hzl
  have hw1:IntKind.i64.wrap (n:Int)=(n:Int):=by rw[IntKind.wrap_i64];omega
  have hw2:IntKind.i64.wrap ((m:Int)+(n:Int))=((m+n:Nat):Int):=by rw[IntKind.wrap_i64];omega
  rw[oK] at S3
  have hdl:(b.drop i).length=N-i:=by rw[List.length_drop,HN.out]
  have Dh:Hid (∀w4,iG g w3 w4->Sl w4 zm .u8 (b.drop i)):=aR λw4 F4=>(Ch.bX F4).sl' OB hne'
  have HLn:Hid (al++b.take (i+n)=L++zs):=aR (by rw[←HL.out,←Yn.out,List.append_assoc,List.take_add])
  have Hdn:Hid ((b.drop i).drop n=b.drop (i+n)):=aR (by rw[List.drop_drop])
  have Hin:Hid (N-(i+n)=N-i-n):=aR (by omega)
  by_cases hfull:m+n<16
  ·have hd:decide (((m+n:Nat):Int)<16)=true:=by simp;omega
   have hd':decide ((m:Int)+(n:Int)<16)=true:=by simp;omega
   have HM:=aR (VM (key:=key) (zs:=zs) hLl.out (by rw[Hzl.out];exact hfull) hrl Hrt.out)
   have hiN:i+n=N:=by have:=hn2 hfull;omega
   have HLN:Hid (al++b=L++zs):=aR (by rw[←HLn.out,List.take_of_length_le (by rw[HN.out];omega)])
   go_wp2_with (first
    | (refine iP rfl 3 _ _ rfl Tryz.aam 26 (v:=.int .i64 ((m+n:Nat):Int)) rfl rfl rfl rfl S3 (by simp[bg,bB,hr3]) ?_;intro w4 S4 F4;rw[←oK] at S4;have afe:w4.cell? ⟨g,26,none⟩=some (.int .i64 ((m+n:Nat):Int)):=(by rw[S4.cell,jv _ _ hr3]);have wH:=Dh.out _ F4)
    | (refine iQ rfl rfl underlying23 s15 rfl rfl hdl hn0 hc' wH ?_;intro sI c2 FQ hne5 Xm _))
   simp only[Exit.jump]
   obtain⟨e1,e2,e3,e4⟩:=HM.out
   refine bodyPost_ret (v:=.tuple #[]) (by simp[results,results119]) rfl ⟨rfl,⟨ky rest m zs,hr3,hb3,?_,?_⟩,JW.trans (Ch.bX F4)⟩
   ·rw[HLN.out,e1,e2,e3]
   ·rw[HLN.out,e1,e2,e4,Hv.out,Hzl.out];exact S4
  ·have hfull:m+n=16:=by omega
   have hd:decide (((m+n:Nat):Int)<16)=false:=by simp;omega
   have hd':decide ((m:Int)+(n:Int)<16)=false:=by simp;omega
   have HM:=aR (VN (key:=key) (zs:=zs) hLl.out (by rw[Hzl.out];exact hfull) hrl Hrt.out)
   have HR3:=aR hr3
   have HB3:=aR hb3
   obtain⟨rs,HRS⟩:=bD (ky rest m zs)
   rw[HRS.out] at S3 hr3 hb3 HM
   go_wp2_with (first
    | (refine iP rfl 3 _ _ rfl Tryz.aam 26 (v:=.int .i64 ((16:Nat):Int)) rfl rfl rfl rfl S3 (by simp[bg,bB,hr3]) ?_;intro w4 S4 F4;rw[←oK] at S4;have afe:w4.cell? ⟨g,26,none⟩=some (.int .i64 ((16:Nat):Int)):=(by rw[S4.cell,jv _ _ hr3]);have wH:=Dh.out _ F4;have S4':=S4;rw[EJ] at S4')
    | (refine iQ rfl rfl underlying23 s15 rfl rfl hdl hn0 hc' wH ?_;intro sI c2 FQ hne5 Xm _)
    | (refine dZ (old:=vals .u8 rs) rfl 96 _ rfl 10 rfl S4' (by simp[bg,bB]) aD (by rw[bg];exact hr3) ?_;(try simp only[nn,Nat.reduceAdd])))
   refine(aan rs hr3 hb3 1 (by omega) _).mono ?_
   rintro e w5 ⟨rfl,hb5⟩
   have S5:=S4.below' hb5
   have nZ:=(JW.trans (Ch.bX F4)).trans (Ch.of_below (g:=g) hb5)
   have hsl6:=FQ.below hb5
   go_wp2_with fail
   refine(LA g (uM key) v (Jw rs 1) rs 16 _ S5).mono ?_
   rintro e w6 ⟨rfl,S6,zU⟩
   have hch7:=nZ.trans zU
   have hsl7:=zU.sl' hsl6 (hne5 g hne')
   obtain⟨e1,e2,e3,e4⟩:=HM.out
   rw[←Hv.out,e4] at S6
   rw[oK] at S6
   go_wp2_with (refine iP rfl 3 _ _ rfl Tryz.aam 26 (v:=.int .i64 ((0:Nat):Int)) rfl rfl rfl rfl S6 (by simp[bg,bB,hr3]) ?_;intro w8 S8 F8;rw[←oK] at S8)
   have ael:=(Ch.bX F8).sl' hsl7 (hne5 g hne')
   rw[Hdn.out] at ael
   have Xf:=hch7.trans (Ch.bX F8)
   go_wp2_with fail
   go_step3
   refine⟨rfl,HI.out _ _ ⟨i+n,sI,c2,by rw[Hin.out];rfl,by omega,by rw[Hin.out];exact Xm,by rw[←Hdn.out];exact hne5 g hne',ael,⟨rs,hr3,hb3,?_,?_⟩,Xf⟩,?_⟩
   ·rw[HLn.out,e1,e2,e3];rfl
   ·rw[HLn.out,e1,e2];exact S8
   ·rw[hμ,hμ]
    change N-i-n<N-i
    omega
 ·intro hgo
  go_wp2_with fail
  refine wp_label ?_
  rename_i hK
  refine hK _ _ ?_
  refine hgo _ _ (HI.out _ _ ⟨0,ad,c,rfl,by omega,by omega,hne,hs0,?_,Ch.refl _ _⟩)
  rw[List.take_zero,List.append_nil]
  exact hS
section
variable {P:Program}{ops:Array Oper}{rest:List Oper}{o:Oper}{a:Act}{w:World}{Q:Exit->Act->World->Prop}
theorem wB (hgd:o.guard=none)(T:TypeId)(x:Operand)(ho:o.op=.load T x)(g:Nat)(hx:a.eval x=.pointer (some ⟨g,0,none⟩)){n t:Nat}{cs:Array Value}(hb:aA w g t cs)(ha:dG P T n)(hl:cs.size=n)
  (h:wpList P ops Q rest (a.put o.dst (.agg cs)) w):wpList P ops Q (o::rest) a w:=by
 obtain⟨⟨d,h1,hd⟩,h2⟩:=ha
 exact wpList_load_row hgd T x ho g hx t _ _ _ hb h1 (by cases d<;>first|rfl|cases hd) (by rw[hl];exact h2) h
theorem uT (hgd:o.guard=none)(T:TypeId)(x y:Operand)(ho:o.op=.store T x y)(g:Nat){cs:Array Value}(hx:a.eval x=.pointer (some ⟨g,0,none⟩))(hy:a.eval y=.agg cs){n t:Nat}{old:Array Value}(hb:aA w g t old)(hold:old.size=n)(ha:dG P T n)(hl:cs.size=n)(h1:cs.all (·.oneCell')=true)
  (h:wpList P ops Q rest (a.put o.dst undef) (w.setRow g cs)):wpList P ops Q (o::rest) a w :=
 wpList_store_row hgd T x y ho g _ hx hy t old hb (by rw[hl];exact ha.2) (by rw[hold,hl]) h1 h
def IsZ (P:Program)(T:TypeId)(cs:Array Value):Prop:=(P.info? T).bind (·.zero)=some (.agg cs)
theorem xA (hgd:o.guard=none)(T:TypeId)(ho:o.op=.alloc T){cs:Array Value}(hz:IsZ P T cs)
  (h:wpList P ops Q rest (a.put o.dst (.pointer (some ⟨w.heap.size,0,none⟩))) (w.alloc (.cells cs T))):wpList P ops Q (o::rest) a w :=
 wpList_plain hgd λ_ hK=>by
  unfold IsZ at hz
  rw[Option.bind_eq_some_iff] at hz
  obtain⟨i,h1,h2⟩:=hz
  unfold Oper.wp execOp
  simp[ho,Instr.alloc,zeroValue,typeInfo,h1,h2,newVar,newRow,newObj,Value.cells,Sem.run_bind]
  exact hK _ _ h
end
theorem Tryz.zS:IsZ prog 216 (qh (zeros 5) (zeros 5) (zeros 16) 0):=by unfold IsZ;kernel_rfl
theorem VO (r v rest:List Nat)(m:Nat):(qh r v rest m).all (·.oneCell')=true:=by
 unfold qh
 refine all_oneCell_toArray λx hx=>?_
 simp only[List.mem_append,List.mem_singleton] at hx
 rcases hx with ((hx|hx)|hx)|rfl
 ·exact dX _ _ x hx
 ·exact dX _ _ x hx
 ·exact dX _ _ x hx
 ·rfl
theorem Tryz.Zv:dG prog 216 27:=isStr underlying216 (by kernel_rfl)
theorem Jm {key bs last:List Nat}{q m:Nat}(hq:bs.length/16=q)(hm:bs.length%16=m)(h0:m≠0)(hl:last=bs.drop (16*q)++[1]++zeros (15-m)) :
  numOf ((iq (uM key) 0 bs q+Jw last 0)*uM key)=numOf (iK key bs):=by
 unfold iK
 rw[show chunks bs.length=q+1 by unfold chunks;omega,nI,AP]
 unfold rZ blk
 rw[List.take_of_length_le (by rw[List.length_drop];omega),←Ky _ (15-m),←hl]
theorem Jn {key bs:List Nat}{q:Nat}(hq:bs.length/16=q)(hm:bs.length%16=0):iq (uM key) 0 bs q=iK key bs:=by
 unfold iK
 rw[show chunks bs.length=q by unfold chunks;omega]
theorem Tryz.adA:qc prog 5:=by unfold qc;kernel_rfl
theorem Sc {xs:List Nat}{m:Nat}(hl:xs.length=m)(hm:m<16):(splice (zeros 16) 0 xs).set m 1=xs++[1]++zeros (15-m):=by
 unfold splice
 rw[List.take_zero,List.nil_append,Nat.zero_add,hl]
 have e:(zeros 16).drop m=0::zeros (15-m):=by
  unfold zeros
  rw[List.drop_replicate,show 16-m=(15-m)+1 by omega,List.replicate_succ]
 rw[e,List.set_append_right _ _ (by omega),hl,Nat.sub_self,List.set_cons_zero,List.append_assoc]
 rfl
theorem Qv (g:Nat)(key bs:List Nat)(hbb:∀x∈bs,x<256)(w:World)(hS:jD w g key bs) :
  Calls prog 135 #[.pointer (some ⟨g,0,none⟩)] w λe w'=>e=.returned (.agg (ints .u32 (numOf (iK key bs))))/\Below w.heap.size w w':=by
 obtain⟨rest,hrl,hrb,hrt,S0⟩:=hS
 obtain⟨q,Hq⟩:=bD (bs.length/16)
 obtain⟨m,Hm⟩:=bD (bs.length%16)
 rw[Hq.out,Hm.out] at S0 hrt
 have aez:m<16:=by rw[←Hm.out];omega
 have R0:=aA.new w 213 (ints .u32 (zeros 5))
 have S1:=S0.alloc (.cells (ints .u32 (zeros 5)) 213)
 have hbel:=bN w (.cells (ints .u32 (zeros 5)) 213)
 have hcm:(w.alloc (.cells (ints .u32 (zeros 5)) 213)).cell? ⟨g,26,none⟩=some (.int .i64 (m:Int)):=by rw[S1.cell,jv _ _ hrl]
 have Hrt:=aR hrt
 clear hrt S0
 have hg2:g<w.heap.size+1:=by have:=S1.lt;rwa [World.size_alloc] at this
 by_cases h0:m=0
 ·subst h0
  have HV:=aR (Jn (key:=key) Hq.out Hm.out)
  rw[HV.out] at S1
  have S1v:=S1
  rw[Lf] at S1v
  go_enter func135,ntmps135
  go_wp2_with ((first
   | (refine ae rfl 213 rfl z213 ?_)
   | (refine dZ (old:=vals .u32 (numOf (iK key bs))) rfl 213 _ rfl 5 rfl S1v (by simp[bg,bB]) fU (by rw[bg];exact bB _) ?_)
   | (refine aa (k:=.u32) (xs:=numOf (iK key bs)) rfl 213 _ _ rfl w.heap.size rfl rfl R0 (ah _ _) fU (bB _) ?_));(try simp only[nn,Nat.reduceAdd]))
  exact aO rfl rfl (R0.row _) fU (bB _) ⟨rfl,az hbel dM _⟩
 ·obtain⟨zs,Yn⟩:∃zs,Hid (rest.take m=zs):=⟨_,aR rfl⟩
  have hzl:zs.length=m:=by rw[←Yn.out,List.length_take];omega
  have hd0:((m:Int)==0)=false:=by simp;omega
  have hm16I:(m:Int)<16:=by omega
  have hmle:(m:Int)<=16:=by omega
  have HL:=aR (Sc hzl aez)
  have hzb:∀x∈zs,x<256:=λx hx=>by rw[←Yn.out] at hx;exact hrb x (List.mem_of_mem_take hx)
  obtain⟨last,zo⟩:=bD (zs++[1]++zeros (15-m))
  have hll:last.length=16:=by rw[←zo.out];simp[aH,hzl];omega
  have hlb:∀x∈last,x<256:=λx hx=>by
   rw[←zo.out] at hx
   rcases List.mem_append.1 hx with hx|hx
   ·rcases List.mem_append.1 hx with hx|hx
    ·exact hzb x hx
    ·obtain rfl:=List.mem_singleton.1 hx;omega
   ·exact dh _ (by omega) x hx
  have HV:=aR (Jm (key:=key) Hq.out Hm.out h0 (show last=_ by rw[←zo.out,←Hrt.out,←Yn.out]))
  have HLS:=aR (HL.out.trans zo.out)
  clear HL
  go_enter func135,ntmps135
  have L1:=aA.new (w.alloc (.cells (ints .u32 (zeros 5)) 213)) 96 (ints .u8 (zeros 16))
  rw[World.size_alloc] at L1
  have S2:=S1.alloc (.cells (ints .u8 (zeros 16)) 96)
  have R2:=R0.alloc (.cells (ints .u8 (zeros 16)) 96)
  have aB:=hbel.alloc (by simp) (.cells (ints .u8 (zeros 16)) 96)
  go_wp2_with ((first
   | (refine ae rfl 213 rfl z213 ?_)
   | (refine ae rfl 96 rfl fw ?_));(try simp only[nn,Nat.reduceAdd]))
  have hcm2:((w.alloc (.cells (ints .u32 (zeros 5)) 213)).alloc (.cells (ints .u8 (zeros 16)) 96)).cell? ⟨g,26,none⟩=some (.int .i64 (m:Int)):=by rw[S2.cell,jv _ _ hrl]
  clear hcm S1 R0 hbel
  generalize ((w.alloc (.cells (ints .u32 (zeros 5)) 213)).alloc (.cells (ints .u8 (zeros 16)) 96))=w1 at *
  go_still_tail 9,(by kernel_rfl)
  change wpList _ _ _ _ _ w1.drew
  replace S2:=S2.drew
  replace R2:=R2.drew
  replace L1:=L1.drew
  replace aB:=aB.drew
  clear hcm2
  generalize w1.drew=w2 at *
  have HZ:Sl w2 (some ⟨g,10,none⟩) .u8 zs:=by
   rw[←Yn.out]
   intro hn
   refine⟨g,10,rfl,S2.lt,λi hi=>?_⟩
   rw[List.length_take] at hi
   have S2':=S2
   rw[EJ] at S2'
   refine S2'.part (by simp[bg,bB]) i _ ?_
   unfold vals
   rw[List.getElem?_map,List.getD_eq_getElem?_getD,List.getElem?_take,if_pos (by omega),List.getElem?_eq_getElem (by omega)];rfl
  have hne2:g≠w.heap.size+1:=by omega
  refine bM (xs:=zeros 16) (zs:=zs) (off:=0) rfl rfl underlying23 s15 rfl rfl L1 HZ (by rw[hzl];exact(Nat.min_eq_left (by omega)).symm) (λ_=>rfl) (by rw[hzl,aH];omega) ?_
  intro w3 L3 O3
  rw[hzl]
  have S3:=S2.only O3 hne2
  have R3:=R2.only O3 (by omega)
  have aG:=O3.below _ _ aB (by omega)
  have hw1:IntKind.i64.wrap (m:Int)=(m:Int):=by rw[IntKind.wrap_i64];omega
  have hcm3:w3.cell? ⟨g,26,none⟩=some (.int .i64 (m:Int)):=by rw[S3.cell,jv _ _ hrl]
  have hspl:(splice (zeros 16) 0 zs).length=16:=by rw[ny (by rw[hzl,aH];omega),aH]
  clear S2 R2 L1 HZ aB O3
  have hsz:∀r v m,r.length=5->v.length=5->(qh r v rest m).size=27:=λr v m h1 h2=>EI h1 h2 hrl m
  have aek:=hsz (numOf (uM key)) (numOf (iq (uM key) 0 bs q)) m (bB _) (bB _)
  go_wp2_with (first
   | (refine wpList_store_one (k:=.u8) (n:=1) rfl 5 _ _ rfl Tryz.adA L3 m rfl rfl (by rw[hspl];omega) ?_;intro w4 L4 F4;rw[HLS.out] at L4;have S4:=F4.blk S3 hne2;have R4:=F4.blk R3 (show w.heap.size≠w.heap.size+1 by omega);have aY:=F4.below aG (show w.heap.size<=w.heap.size+1 by omega);have afe:w4.cell? ⟨g,26,none⟩=some (.int .i64 (m:Int)):=(by rw[S4.cell,jv _ _ hrl]);clear L3 S3 R3 aG hcm3)
   | (refine wB rfl 216 _ rfl g rfl S4 Tryz.Zv aek ?_;(try simp only[nn,Nat.reduceAdd]))
   | (refine xA rfl 216 rfl Tryz.zS ?_;have T5:=aA.new w4 216 (qh (zeros 5) (zeros 5) (zeros 16) 0);(try simp only[nn,Nat.reduceAdd]))
   | (refine uT rfl 216 _ _ rfl w4.heap.size rfl rfl T5 (EI (aH _) (aH _) (aH _) _) Tryz.Zv aek (VO _ _ _ _) ?_;have T6:=T5.row (qh (numOf (uM key)) (numOf (iq (uM key) 0 bs q)) rest m);have hl4:=L4.lt;have L6:=(L4.alloc (.cells (qh (zeros 5) (zeros 5) (zeros 16) 0) 216)).aM (show w.heap.size+1≠w4.heap.size by omega) (qh (numOf (uM key)) (numOf (iq (uM key) 0 bs q)) rest m);have R6:=(R4.alloc (.cells (qh (zeros 5) (zeros 5) (zeros 16) 0) 216)).aM (show w.heap.size≠w4.heap.size by omega) (qh (numOf (uM key)) (numOf (iq (uM key) 0 bs q)) rest m);have bK:=az (aY.alloc aY.size (.cells (qh (zeros 5) (zeros 5) (zeros 16) 0) 216)) (show w.heap.size<=w4.heap.size by omega) (qh (numOf (uM key)) (numOf (iq (uM key) 0 bs q)) rest m);(try simp only[nn,Nat.reduceAdd]))
   | (refine ag rfl 96 _ rfl (w.heap.size+1) rfl L6 aD hll ?_;(try simp only[nn,Nat.reduceAdd])))
  generalize ((w4.alloc (.cells (qh (zeros 5) (zeros 5) (zeros 16) 0) 216)).setRow w4.heap.size (qh (numOf (uM key)) (numOf (iq (uM key) 0 bs q)) rest m))=w6 at *
  have hgt:w.heap.size<=w4.heap.size:=by omega
  have hgt2:w.heap.size≠w4.heap.size:=by omega
  generalize w4.heap.size=gt at *
  refine(aan last hll hlb 0 (by omega) _).mono ?_
  rintro e w7 ⟨rfl,yA⟩
  have T7:=T6.below' yA
  have R7:=R6.below' yA
  have dm:=bC bK yA
  go_wp2_with fail
  refine(LA gt (uM key) _ (Jw last 0) rest m _ T7).mono ?_
  rintro e w8 ⟨rfl,T8,Xf⟩
  have R8:=Xf.blk R7 hgt2
  have gL:=Xf.below dm hgt dm.size
  rw[HV.out,Lf] at T8
  go_wp2_with ((first
   | (refine dZ (old:=vals .u32 (numOf (iK key bs))) rfl 213 _ rfl 5 rfl T8 (by simp[bg,bB]) fU (by rw[bg];exact bB _) ?_)
   | (refine aa (k:=.u32) (xs:=numOf (iK key bs)) rfl 213 _ _ rfl w.heap.size rfl rfl R8 (ah _ _) fU (bB _) ?_));(try simp only[nn,Nat.reduceAdd]))
  exact aO rfl rfl (R8.row _) fU (bB _) ⟨rfl,az gL dM _⟩
theorem ZQ (g:Nat)(key bs:List Nat)(hbb:∀x∈bs,x<256)(w:World)(hS:jD w g key bs) :
  Calls prog 130 #[.pointer (some ⟨g,0,none⟩)] w λe w'=>e=.returned (.agg (ints .u8 (mP key bs)))/\Below w.heap.size w w':=by
 have B0:=aA.new w 96 (ints .u8 (zeros 16))
 have hbel:=bN w (.cells (ints .u8 (zeros 16)) 96)
 have S1:=hS.below hbel
 go_enter func130,ntmps130
 go_wp2_with (refine ae rfl 96 rfl fw ?_;(try simp only[nn,Nat.reduceAdd]))
 generalize (w.alloc (.cells (ints .u8 (zeros 16)) 96))=w1 at *
 refine(Qv g key bs hbb _ S1).mono ?_
 rintro e w2 ⟨rfl,hb2⟩
 have C0:=B0.below' hb2
 have aB:=bC hbel hb2
 go_wp2_with fail
 refine(adG _ (bB _) (wF _) _).mono ?_
 rintro e w3 ⟨rfl,hb3⟩
 have D0:=C0.below' hb3
 have aG:=bC aB hb3
 rw[OM]
 have Mj:=Bg key bs
 go_wp2_with (refine aa (k:=.u8) (xs:=mP key bs) rfl 96 _ _ rfl w.heap.size rfl rfl D0 (ah _ _) aD Mj ?_;(try simp only[nn,Nat.reduceAdd]))
 exact aO rfl rfl (D0.row _) aD Mj ⟨rfl,az aG dM _⟩
theorem jD.only {w w':World}{g:Nat}{key bs:List Nat}(h:jD w g key bs)(he:∀t cs,aA w g t cs->aA w' g t cs):jD w' g key bs:=let ⟨r,h1,h2,h3,h4⟩:=h;⟨r,h1,h2,h3,he _ _ h4⟩
theorem jD.blk {w:World}{g:Nat}{key bs:List Nat}(h:jD w g key bs):∃cs,aA w g 216 cs:=let ⟨r,_,_,_,h4⟩:=h;⟨_,h4⟩
def uv (W bs:List Nat)(p u i:Nat):Nat:=((aT bs (16*u+4*i) 4+W.getD (4*u+4*p+i) 0)%4294967296)*((aT bs (16*u+4*i+8) 4+W.getD (4*u+4*p+i+2) 0)%4294967296)
def uvS (W bs:List Nat)(p u:Nat):Nat->Nat
 | 0=>0
 | i+1=>uvS W bs p u i+uv W bs p u i
def Ii (W bs:List Nat)(p:Nat):Nat->Nat
 | 0=>0
 | u+1=>(Ii W bs p u+uvS W bs p u 2)%18446744073709551616
theorem Ry (W bs:List Nat)(p:Nat):∀u,Ii W bs p u<18446744073709551616
 | 0=>by simp[Ii]
 | u+1=>Nat.mod_lt _ (by omega)
def Fs (W bs:List Nat)(p:Nat):List Nat:=cZ 256 8 (Ii W bs p (bs.length/16))
def DT (W bs:List Nat):List Nat:=Fs W bs 0++(Fs W bs 1++(Fs W bs 2++Fs W bs 3))
def qZ (W bs:List Nat):Nat:=if 1024<bs.length then 6 else if bs.length%16≠0 then 5 else if W.length<bs.length/4+12 then 2 else 0
def jw (W bs:List Nat):List Nat:=if qZ W bs=0 then DT W bs else List.replicate 32 0
theorem jV (a k b l:Nat)(ha:a<4294967296)(hk:k<4294967296)(hb:b<4294967296)(hl:l<4294967296)(w:World) :
  Calls prog 131 #[.int .u32 a,.int .u32 k,.int .u32 b,.int .u32 l] w λe w'=>e=.returned (.int .u64 (((a+k)%4294967296)*((b+l)%4294967296):Nat))/\w=w':=by
 go_enter func131,ntmps131
 have h1:((a:Int)+k)%4294967296=(((a+k)%4294967296:Nat):Int):=by simp
 have h2:((b:Int)+l)%4294967296=(((b+l)%4294967296:Nat):Int):=by simp
 have l1:=Nat.mod_lt (a+k) (show 0<4294967296 by omega)
 have l2:=Nat.mod_lt (b+l) (show 0<4294967296 by omega)
 have l3:(a+k)%4294967296*((b+l)%4294967296)<=4294967295*4294967295:=Nat.mul_le_mul (by omega) (by omega)
 have hfin:IntKind.u64.wrap (((a:Int)+k)%4294967296*(((b:Int)+l)%4294967296))=(((a+k)%4294967296*((b+l)%4294967296):Nat):Int):=by
  rw[h1,h2,←Int.natCast_mul]
  exact IntWalk.u64_in _ (by omega)
 have H:=aR hfin
 clear hfin h1 h2 l3
 go_wp2
 go_ret
 refine⟨?_,rfl⟩
 exact congrArg (λz=>Ending.returned (.int .u64 z)) H.out
theorem nL (W bs:List Nat)(p:Nat):(Fs W bs p).length=8:=by simp[Fs]
theorem CL (W bs:List Nat):(DT W bs).length=32:=by simp[DT,nL]
theorem AQ (W bs:List Nat):(jw W bs).length=32:=by unfold jw;split;exact CL W bs;simp
theorem Rz (W bs:List Nat)(p i:Nat)(hp:p<4)(hi:i<8):(DT W bs).getD (8*p+i) 0=(Fs W bs p).getD i 0:=by
 have h0:=nL W bs 0
 have h1:=nL W bs 1
 have h2:=nL W bs 2
 have h3:=nL W bs 3
 unfold DT
 simp only[List.getD_eq_getElem?_getD]
 rcases p with _|_|_|_|p
 ·rw[List.getElem?_append_left (by omega),show 8*0+i=i by omega]
 ·rw[List.getElem?_append_right (by omega),List.getElem?_append_left (by omega),h0,show 8*(0+1)+i-8=i by omega]
 ·rw[List.getElem?_append_right (by omega),List.getElem?_append_right (by omega),List.getElem?_append_left (by omega),h0,h1,show 8*(0+1+1)+i-8-8=i by omega]
 ·rw[List.getElem?_append_right (by omega),List.getElem?_append_right (by omega),List.getElem?_append_right (by omega),h0,h1,h2,show 8*(0+1+1+1)+i-8-8-8=i by omega]
 ·omega
def ko (W bs:List Nat)(u p:Nat):List Nat:=(List.range 4).map λi=>if i<p then Ii W bs i (u+1) else Ii W bs i u
theorem IU (W bs:List Nat):ko W bs 0 0=zeros 4:=rfl
theorem iI (W bs:List Nat)(u p:Nat):(ko W bs u p).length=4:=by simp[ko]
theorem IV (W bs:List Nat)(u:Nat):ko W bs u 4=ko W bs (u+1) 0:=by
 unfold ko
 apply List.map_congr_left
 intro i hi
 rw[List.mem_range] at hi
 rw[if_pos hi,if_neg (by omega)]
theorem nk (W bs:List Nat)(u p i:Nat)(hi:i<4):(ko W bs u p).getD i 0=if i<p then Ii W bs i (u+1) else Ii W bs i u:=by
 unfold ko
 rw[List.getD_eq_getElem?_getD,List.getElem?_map,List.getElem?_range hi];rfl
theorem NH (W bs:List Nat)(u p:Nat)(hp:p<4):(ko W bs u p).set p (Ii W bs p (u+1))=ko W bs u (p+1):=by
 apply List.ext_getElem? λi=>?_
 by_cases hi:i<4
 ·rw[getD_lt (xs:=ko W bs u (p+1)) (by rw[iI];exact hi),nk _ _ _ _ _ hi,List.getElem?_set]
  by_cases h:p=i
  ·subst h
   rw[if_pos rfl,if_pos (by rw[iI];exact hp),if_pos (by omega)]
  ·rw[if_neg h,getD_lt (by rw[iI];exact hi),nk _ _ _ _ _ hi]
   by_cases h2:i<p
   ·rw[if_pos h2,if_pos (by omega)]
   ·rw[if_neg h2,if_neg (by omega)]
 ·rw[List.getElem?_eq_none (by simp[iI];omega),List.getElem?_eq_none (by rw[iI];omega)]
theorem EG (W bs:List Nat){p:Nat}(hp:p<4):splice ((DT W bs).take (8*p)++zeros (32-8*p)) (8*p) (Fs W bs p)=(DT W bs).take (8*(p+1))++zeros (32-8*(p+1)):=by
 have hH:=CL W bs
 have hB:=nL W bs p
 apply List.ext_getElem? λi=>?_
 by_cases hi:i<32
 ·have e1:(splice ((DT W bs).take (8*p)++zeros (32-8*p)) (8*p) (Fs W bs p)).length=32:=by
   rw[ny (by simp[zeros,hH,hB];omega)];simp[zeros,hH];omega
  have e2:((DT W bs).take (8*(p+1))++zeros (32-8*(p+1))).length=32:=by simp[zeros,hH];omega
  rw[getD_lt (by omega),getD_lt (by omega)]
  congr 1
  simp only[splice,List.getD_eq_getElem?_getD]
  by_cases h1:i<8*p
  ·rw[List.getElem?_append_left (by simp[zeros,hH];omega),List.getElem?_take,if_pos h1,List.getElem?_append_left (by simp[hH];omega),List.getElem?_take,if_pos h1,List.getElem?_append_left (by simp[hH];omega),List.getElem?_take,if_pos (by omega)]
  ·have e3:(((DT W bs).take (8*p)++zeros (32-8*p)).take (8*p)).length=8*p:=by simp[zeros,hH];omega
   rw[List.getElem?_append_right (by omega),e3]
   by_cases h2:i<8*p+8
   ·have hg:=Rz W bs p (i-8*p) hp (by omega)
    rw[show 8*p+(i-8*p)=i by omega] at hg
    simp only[List.getD_eq_getElem?_getD] at hg
    rw[List.getElem?_append_left (by omega),←hg,List.getElem?_append_left (by simp[hH];omega),List.getElem?_take,if_pos (by omega)]
   ·rw[List.getElem?_append_right (by omega),List.getElem?_drop,hB,List.getElem?_append_right (by simp[hH];omega),List.getElem?_append_right (by simp[hH];omega)]
    have z:∀m j:Nat,(zeros m)[j]?.getD 0=0:=λm j=>by
     unfold zeros;rw[List.getElem?_replicate];split<;>rfl
    rw[z,z]
 ·rw[List.getElem?_eq_none (by rw[ny (by simp[zeros,hH,hB];omega)];simp[zeros,hH];omega),List.getElem?_eq_none (by simp[zeros,hH];omega)]
theorem QM (a x y:Nat):IntKind.u64.wrap ((a:Int)+IntKind.u64.wrap ((x:Int)+(y:Int)))=(((a+(x+y))%18446744073709551616:Nat):Int):=by
 simp[IntKind.wrap,IntKind.bits,IntKind.signed]
theorem Kc (aw ab:Option Addr)(cw cb:Nat)(W bs:List Nat)(hb:∀x∈bs,x<256)(hW:∀x∈W,x<4294967296)(hlb:bs.length<2^40)(hlW:W.length<2^40)(hcw:W.length<=cw)(aeW:cw<=maxLen)(w:World)(hsw:Sl w aw .u32 W)(hsb:Sl w ab .u8 bs) :
  Calls prog 123 #[.slice aw W.length cw,.slice ab bs.length cb] w λe w'=>e=.returned (.tuple #[.agg (ints .u8 (jw W bs)),.int .i64 (qZ W bs:Nat)])/\Below w.heap.size w w':=by
 have Z0:=(aA.new w 85 (ints .u8 (zeros 32))).alloc (.cells (ints .u8 (zeros 32)) 85)
 have Z1:=aA.new (w.alloc (.cells (ints .u8 (zeros 32)) 85)) 85 (ints .u8 (zeros 32))
 rw[World.size_alloc] at Z1
 have hbel:=(bN w (.cells (ints .u8 (zeros 32)) 85)).alloc (by simp) (.cells (ints .u8 (zeros 32)) 85)
 have Bf:=az hbel (Nat.le_refl w.heap.size) (ints .u8 (zeros 32))
 have ZR:=Z0.row (ints .u8 (zeros 32))
 by_cases h1:1024<bs.length
 ·have e1:qZ W bs=6:=by simp[qZ,h1]
  have e2:jw W bs=zeros 32:=by simp[jw,e1,zeros]
  rw[e1,e2]
  clear e1 e2
  go_enter func123,ntmps123
  go_wp2_with ((first|(refine ae rfl 85 rfl z85 ?_));(try simp only[nn,Nat.reduceAdd]))
  go_step3
  go_wp2_with ((first|(refine ae rfl 85 rfl z85 ?_)|(refine ag rfl 85 _ rfl (w.heap.size+1) rfl Z1 vI (aH _) ?_)|(refine aa rfl 85 _ _ rfl w.heap.size rfl rfl Z0 (ah _ _) vI (aH _) ?_));(try simp only[nn,Nat.reduceAdd]))
  rw[Exit.noGoto_ret];exact ic rfl rfl rfl ZR vI (aH _) ⟨rfl,Bf⟩
 ·by_cases h2:bs.length%16=0
  ·by_cases h3:W.length<bs.length/4+12
   ·have e1:qZ W bs=2:=by simp[qZ,h1,h2,h3]
    have e2:jw W bs=zeros 32:=by simp[jw,e1,zeros]
    rw[e1,e2]
    clear e1 e2
    have h3i:(W.length:Int)<(bs.length:Int)/16*4+12:=by omega
    go_enter func123,ntmps123
    go_wp2_with ((first|(refine ae rfl 85 rfl z85 ?_));(try simp only[nn,Nat.reduceAdd]))
    go_step3
    go_wp2_with ((first|(refine ae rfl 85 rfl z85 ?_)|(refine ag rfl 85 _ rfl (w.heap.size+1) rfl Z1 vI (aH _) ?_)|(refine aa rfl 85 _ _ rfl w.heap.size rfl rfl Z0 (ah _ _) vI (aH _) ?_));(try simp only[nn,Nat.reduceAdd]))
    rw[Exit.noGoto_ret];exact ic rfl rfl rfl ZR vI (aH _) ⟨rfl,Bf⟩
   ·have e1:qZ W bs=0:=by simp[qZ,h1,h2,h3]
    have e2:jw W bs=DT W bs:=by simp[jw,e1]
    rw[e1,e2]
    clear e1 e2
    have hH:=CL W bs
    have h3i:¬(W.length:Int)<(bs.length:Int)/16*4+12:=by omega
    go_enter func123,ntmps123
    go_wp2_with ((first|(refine ae rfl 85 rfl z85 ?_)|(refine ae rfl 218 rfl z218 ?_));(try simp only[nn,Nat.reduceAdd]))
    have Xa:bs.length<=maxLen:=by unfold maxLen;omega
    have Z2:=Z0.alloc (.cells (ints .u64 (zeros 4)) 218)
    have Z3:=Z1.alloc (.cells (ints .u64 (zeros 4)) 218)
    have Z4:=aA.new ((w.alloc (.cells (ints .u8 (zeros 32)) 85)).alloc (.cells (ints .u8 (zeros 32)) 85)) 218 (ints .u64 (zeros 4))
    rw[World.size_alloc,World.size_alloc] at Z4
    have aB:=hbel.alloc (by simp;omega) (.cells (ints .u64 (zeros 4)) 218)
    simp only[Nat.add_assoc,Nat.reduceAdd] at Z4
    obtain⟨J,HJ,HI0⟩:=jmp (λaJ w'=>∃(U:Nat->Value) (u:Nat),aJ={ tmps:=#[.slice aw W.length cw,.slice ab bs.length cb,U 2,U 3,.pointer (some ⟨w.heap.size,0,none⟩),.int .i64 0,.pointer (some ⟨w.heap.size+1,0,none⟩),.pointer (some ⟨w.heap.size+2,0,none⟩),.int .i64 (16*(u:Int)),U 9,U 10,U 11,U 12,U 13,U 14,U 15,U 16,U 17,U 18,U 19,U 20,U 21,U 22,U 23,U 24,U 25,U 26,U 27,U 28,U 29,U 30,U 31,U 32,U 33,U 34,U 35,U 36,U 37,U 38,U 39,U 40,U 41,U 42,U 43,U 44,U 45,U 46,U 47,U 48,U 49,U 50,U 51,U 52,U 53,U 54,U 55,U 56,U 57,U 58,U 59,U 60,U 61,U 62,U 63,U 64,U 65,U 66,U 67,U 68,U 69,U 70,U 71,U 72,U 73,U 74,U 75,U 76,U 77,U 78,U 79,U 80,U 81,U 82,U 83,U 84,U 85,U 86,U 87,U 88,U 89,U 90,U 91,U 92,U 93,U 94,U 95,U 96,U 97,U 98,U 99,U 100,U 101,U 102,U 103,U 104,U 105,U 106,U 107,U 108,U 109,U 110,U 111],defers:=[] }/\u<=bs.length/16/\aA w' w.heap.size 85 (ints .u8 (zeros 32))/\aA w' (w.heap.size+1) 85 (ints .u8 (zeros 32))/\aA w' (w.heap.size+2) 218 (ints .u64 (ko W bs u 0))/\Below w.heap.size w w')
    have HI:Hid (∀(T:Array Value) (w':World),(∃(u:Nat),T=((λ(U:Nat->Value)=>#[.slice aw W.length cw,.slice ab bs.length cb,U 2,U 3,.pointer (some ⟨w.heap.size,0,none⟩),.int .i64 0,.pointer (some ⟨w.heap.size+1,0,none⟩),.pointer (some ⟨w.heap.size+2,0,none⟩),.int .i64 (16*(u:Int)),U 9,U 10,U 11,U 12,U 13,U 14,U 15,U 16,U 17,U 18,U 19,U 20,U 21,U 22,U 23,U 24,U 25,U 26,U 27,U 28,U 29,U 30,U 31,U 32,U 33,U 34,U 35,U 36,U 37,U 38,U 39,U 40,U 41,U 42,U 43,U 44,U 45,U 46,U 47,U 48,U 49,U 50,U 51,U 52,U 53,U 54,U 55,U 56,U 57,U 58,U 59,U 60,U 61,U 62,U 63,U 64,U 65,U 66,U 67,U 68,U 69,U 70,U 71,U 72,U 73,U 74,U 75,U 76,U 77,U 78,U 79,U 80,U 81,U 82,U 83,U 84,U 85,U 86,U 87,U 88,U 89,U 90,U 91,U 92,U 93,U 94,U 95,U 96,U 97,U 98,U 99,U 100,U 101,U 102,U 103,U 104,U 105,U 106,U 107,U 108,U 109,U 110,U 111]) λi=>T.getD i undef)/\u<=bs.length/16/\aA w' w.heap.size 85 (ints .u8 (zeros 32))/\aA w' (w.heap.size+1) 85 (ints .u8 (zeros 32))/\aA w' (w.heap.size+2) 218 (ints .u64 (ko W bs u 0))/\Below w.heap.size w w')->J { tmps:=T,defers:=[] } w') :=
     aR λT w' ⟨u,hJ,rJ⟩=>HI0.out _ _ ⟨λi=>T.getD i undef,u,congrArg (λT=>({ tmps:=T,defers:=[] }:Act)) hJ,rJ⟩
    clear HI0
    obtain⟨μ,Hμ⟩:∃μ:Act->World->Nat,Hid (∀a w',μ a w'=bs.length/16-(intOf (a.tmps.getD 8 undef)).toNat/16):=⟨_,aR λ_ _=>rfl⟩
    refine dF 0 J μ (by simp only[findLabel];rfl) ?_ ?_
    ·intro a wr hj
     obtain⟨U,u,rfl,hu,C0,C1,C2,bH⟩:=HJ.out _ _ hj
     clear hj
     have hμ:=Hμ.out
     clear Hμ
     by_cases hlt:u<bs.length/16
     ·have hti:decide (16*(u:Int)<(bs.length:Int))=true:=by simp;omega
      go_wp2_with (fail)
      refine(sZ ab cb bs hb Xa (16*u) (16*(u:Int)) (by omega) (by omega) _ (hsb.below bH)).mono ?_
      rintro e w1 ⟨rfl,hb1⟩
      have aK:=bC bH hb1
      go_wp2_with (fail)
      refine(sZ ab cb bs hb Xa (16*u+4) (16*(u:Int)+4) (by omega) (by omega) _ (hsb.below aK)).mono ?_
      rintro e w2 ⟨rfl,hb2⟩
      have JZ:=bC aK hb2
      go_wp2_with (fail)
      refine(sZ ab cb bs hb Xa (16*u+8) (16*(u:Int)+8) (by omega) (by omega) _ (hsb.below JZ)).mono ?_
      rintro e w3 ⟨rfl,hb3⟩
      have aG:=bC JZ hb3
      go_wp2_with (fail)
      refine(sZ ab cb bs hb Xa (16*u+12) (16*(u:Int)+12) (by omega) (by omega) _ (hsb.below aG)).mono ?_
      rintro e w4 ⟨rfl,hb4⟩
      have aY:=bC aG hb4
      have D0:=((((C0.below' hb1).below' hb2).below' hb3).below' hb4)
      have D1:=((((C1.below' hb1).below' hb2).below' hb3).below' hb4)
      have D2:=((((C2.below' hb1).below' hb2).below' hb3).below' hb4)
      clear C0 C1 C2 hb1 hb2 hb3 hb4 bH aK JZ aG hti
      have l2:=D2.lt
      have M0:=aA.new w4 219 (ints .u32 (zeros 4))
      have hm0:=eG hb (16*u) 4
      have hm1:=eG hb (16*u+4) 4
      have hm2:=eG hb (16*u+8) 4
      have hm3:=eG hb (16*u+12) 4
      go_wp2_with ((first|(refine ae rfl 219 rfl z219 ?_)|(refine aa rfl 219 _ _ rfl w4.heap.size (k:=.u32) (xs:=[aT bs (16*u) 4,aT bs (16*u+4) 4,aT bs (16*u+8) 4,aT bs (16*u+12) 4]) rfl rfl M0 (ah _ _) agu rfl ?_));(try simp only[nn,Nat.reduceAdd]))
      have E0:=(D0.alloc (.cells (ints .u32 (zeros 4)) 219)).aM (show w.heap.size≠w4.heap.size by omega) (ints .u32 [aT bs (16*u) 4,aT bs (16*u+4) 4,aT bs (16*u+8) 4,aT bs (16*u+12) 4])
      have E1:=(D1.alloc (.cells (ints .u32 (zeros 4)) 219)).aM (show w.heap.size+1≠w4.heap.size by omega) (ints .u32 [aT bs (16*u) 4,aT bs (16*u+4) 4,aT bs (16*u+8) 4,aT bs (16*u+12) 4])
      have E2:=(D2.alloc (.cells (ints .u32 (zeros 4)) 219)).aM (show w.heap.size+2≠w4.heap.size by omega) (ints .u32 [aT bs (16*u) 4,aT bs (16*u+4) 4,aT bs (16*u+8) 4,aT bs (16*u+12) 4])
      have M1:=M0.row (ints .u32 [aT bs (16*u) 4,aT bs (16*u+4) 4,aT bs (16*u+8) 4,aT bs (16*u+12) 4])
      have bA:=az (aY.alloc aY.size (.cells (ints .u32 (zeros 4)) 219)) aY.size (ints .u32 [aT bs (16*u) 4,aT bs (16*u+4) 4,aT bs (16*u+8) 4,aT bs (16*u+12) 4])
      clear D0 D1 D2 M0 aY
      generalize ((w4.alloc (.cells (ints .u32 (zeros 4)) 219)).setRow w4.heap.size (ints .u32 [aT bs (16*u) 4,aT bs (16*u+4) 4,aT bs (16*u+8) 4,aT bs (16*u+12) 4]))=w5 at *
      generalize w4.heap.size=gm at *
      go_loopw [56] (λt wr=>∃p:Nat,p<=4/\t=.int .i64 p/\aA wr w.heap.size 85 (ints .u8 (zeros 32))/\aA wr (w.heap.size+1) 85 (ints .u8 (zeros 32))/\aA wr (w.heap.size+2) 218 (ints .u64 (ko W bs u p))/\aA wr gm 219 (ints .u32 [aT bs (16*u) 4,aT bs (16*u+4) 4,aT bs (16*u+8) 4,aT bs (16*u+12) 4])/\Below w.heap.size w wr) (λt wr=>4-(intOf t).toNat)
      case atStart=>exact⟨0,by omega,rfl,E0,E1,E2,M1,bA⟩
      case round =>
       rename_i hrel
       obtain⟨p,hp,rfl,F0,F1,F2,F3,bK⟩:=hrel
       by_cases hlp:p<4
       ·obtain⟨g,off,rfl,hg,k0⟩:=(hsw.below bK).at_ (i:=4*u+4*p) (by omega)
        have k1:=(hsw.below bK).eq (i:=4*u+4*p+1) (by omega)
        have k2:=(hsw.below bK).eq (i:=4*u+4*p+2) (by omega)
        have k3:=(hsw.below bK).eq (i:=4*u+4*p+3) (by omega)
        have ea:off+(4*u+4*p)=off+(u*4+p*4):=by omega
        have ea1:off+(4*u+4*p+1)=off+(u*4+p*4)+1:=by omega
        have ea2:off+(4*u+4*p+2)=off+(u*4+p*4)+2:=by omega
        have ea3:off+(4*u+4*p+3)=off+(u*4+p*4)+3:=by omega
        rw[ea] at k0
        rw[ea1] at k1
        rw[ea2] at k2
        rw[ea3] at k3
        clear ea ea1 ea2 ea3
        have y0:0<W.length-(u*4+p*4):=by omega
        have y1:1<W.length-(u*4+p*4):=by omega
        have y2:2<W.length-(u*4+p*4):=by omega
        have y3:3<W.length-(u*4+p*4):=by omega
        have y1':(1:Int)<((W.length-(u*4+p*4):Nat):Int):=by omega
        have y2':(2:Int)<((W.length-(u*4+p*4):Nat):Int):=by omega
        have y3':(3:Int)<((W.length-(u*4+p*4):Nat):Int):=by omega
        have s0:=F2.int (i:=p) (by rw[iI];exact hlp)
        have zs:=F2.frozen p
        have n0:=F3.int (i:=0) (by simp)
        have n1:=F3.int (i:=1) (by simp)
        have n2:=F3.int (i:=2) (by simp)
        have n3:=F3.int (i:=3) (by simp)
        simp only[List.getD_cons_zero,List.getD_cons_succ] at n0 n1 n2 n3
        have b0:=aC hW (by omega) (4*u+4*p)
        have b1:=aC hW (by omega) (4*u+4*p+1)
        have b2:=aC hW (by omega) (4*u+4*p+2)
        have b3:=aC hW (by omega) (4*u+4*p+3)
        have hp1:=jV (aT bs (16*u) 4) (W.getD (4*u+4*p) 0) (aT bs (16*u+8) 4) (W.getD (4*u+4*p+2) 0) hm0 b0 hm2 b2
        have hp2:=jV (aT bs (16*u+4) 4) (W.getD (4*u+4*p+1) 0) (aT bs (16*u+12) 4) (W.getD (4*u+4*p+3) 0) hm1 b1 hm3 b3
        have hsN:(ko W bs u p).getD p 0=Ii W bs p u:=by rw[nk _ _ _ _ _ hlp,if_neg (by omega)]
        have hnx:Ii W bs p (u+1)=(Ii W bs p u+((aT bs (16*u) 4+W.getD (4*u+4*p) 0)%4294967296*((aT bs (16*u+8) 4+W.getD (4*u+4*p+2) 0)%4294967296)+(aT bs (16*u+4) 4+W.getD (4*u+4*p+1) 0)%4294967296*((aT bs (16*u+12) 4+W.getD (4*u+4*p+3) 0)%4294967296)))%18446744073709551616:=by
         show (Ii W bs p u+(0+uv W bs p u 0+uv W bs p u 1))%_=_
         rw[Nat.zero_add];rfl
        have hsl:=Ry W bs p u
        rw[hsN] at s0
        have Ah:=F2.dw p (Ii W bs p (u+1))
        rw[NH _ _ _ _ hlp] at Ah
        have HF:=aR Ah
        have HX:=aR hnx
        have HP1:=aR hp1
        have HP2:=aR hp2
        clear hsN hnx Ah hp1 hp2
        generalize aT bs (16*u) 4=q0 at *
        generalize aT bs (16*u+4) 4=q1 at *
        generalize aT bs (16*u+8) 4=q2 at *
        generalize aT bs (16*u+12) 4=q3 at *
        generalize W.getD (4*u+4*p) 0=r0 at *
        generalize W.getD (4*u+4*p+1) 0=r1 at *
        generalize W.getD (4*u+4*p+2) 0=r2 at *
        generalize W.getD (4*u+4*p+3) 0=r3 at *
        go_wp2
        refine wp_region_still_tail 28 (by kernel_rfl) (by kernel_rfl) ?_
        simp only[List.take_succ_cons,List.take_zero,List.drop_succ_cons,List.drop_zero]
        repeat still_step
        still_call ((HP1.out _).mono λe w' ⟨h1,h2⟩=>⟨h1,h2.symm⟩)
        repeat still_step
        still_call ((HP2.out _).mono λe w' ⟨h1,h2⟩=>⟨h1,h2.symm⟩)
        repeat still_step
        refine wpStill_nil ?_
        change wpList _ _ _ _ _ wr.drew
        go_wp2
        have hval:IntKind.u64.wrap ((Ii W bs p u:Int)+IntKind.u64.wrap (((q0:Int)+r0)%4294967296*(((q2:Int)+r2)%4294967296)+((q1:Int)+r1)%4294967296*(((q3:Int)+r3)%4294967296)))=((Ii W bs p (u+1):Nat):Int):=by
         rw[HX.out,←QM];simp
        rw[hval]
        exact⟨⟨p+1,by omega,by go_num,(F0.far (by first|omega|(simp;done)|(simp;omega)) _).drew,(F1.far (by first|omega|(simp;done)|(simp;omega)) _).drew,HF.out.drew,(F3.far (by first|omega|(simp;done)|(simp;omega)) _).drew,(bK.setCell (by first|omega|(simp;done)|(simp;omega)) _).drew⟩,by simp[intOf]<;>omega⟩
       ·obtain rfl:p=4:=by omega
        go_wp2
        go_step3
        rw[IV] at F2
        refine⟨rfl,HI.out _ _ ⟨u+1,rfl,by omega,F0,F1,F2,bK⟩,?_⟩
        rw[hμ,hμ]
        simp[intOf]
        omega
     ·obtain rfl:u=bs.length/16:=by omega
      have hti:¬(16*((bs.length:Int)/16)<(bs.length:Int)):=by omega
      have hidx:=λp hp W0=>gT (P:=prog) underlying218 underlying106 YK (iI W bs (bs.length/16) 0) (i:=p) hp W0
      have Hidx:=aR hidx
      clear hidx
      go_wp2_with ((first|(refine ag rfl 218 _ rfl (w.heap.size+2) rfl C2 Zu (iI _ _ _ _) ?_));(try simp only[nn,Nat.reduceAdd]))
      go_loopw [99] (λt wr=>∃p:Nat,p<=4/\t=.int .i64 p/\aA wr w.heap.size 85 (ints .u8 (zeros 32))/\aA wr (w.heap.size+1) 85 (ints .u8 ((DT W bs).take (8*p)++zeros (32-8*p)))/\Below w.heap.size w wr) (λt wr=>4-(intOf t).toNat)
      case atStart=>exact⟨0,by omega,rfl,C0,C1,bH⟩
      case round =>
       rename_i hrel
       obtain⟨p,hp,rfl,F0,F1,bK⟩:=hrel
       by_cases hlp:p<4
       ·have hix:=Hidx.out p hlp
        rw[nk _ _ _ _ _ hlp,if_neg (by omega)] at hix
        have hs:=Ry W bs p (bs.length/16)
        go_wp2_with (fail)
        refine(jh _ hs _).mono ?_
        rintro e w1 ⟨rfl,hb1⟩
        have dm:=bC bK hb1
        have hBl:=nL W bs p
        have hV:=aA.new w1 107 (ints .u8 (zeros 8))
        have G0:=((F0.below' hb1).alloc (.cells (ints .u8 (zeros 8)) 107)).aM (show w.heap.size≠w1.heap.size by have:=(F1.below' hb1).lt;omega) (ints .u8 (Fs W bs p))
        have G1:=((F1.below' hb1).alloc (.cells (ints .u8 (zeros 8)) 107)).aM (show w.heap.size+1≠w1.heap.size by have:=(F1.below' hb1).lt;omega) (ints .u8 (Fs W bs p))
        have G2:=hV.row (ints .u8 (Fs W bs p))
        have gL:=az (dm.alloc dm.size (.cells (ints .u8 (zeros 8)) 107)) dm.size (ints .u8 (Fs W bs p))
        have aff:splice ((DT W bs).take (8*p)++zeros (32-8*p)) (8*p) (Fs W bs p)=(DT W bs).take (8*(p+1))++zeros (32-8*(p+1)):=EG W bs hlp
        have hll:((DT W bs).take (8*p)++zeros (32-8*p)).length=32:=by simp[zeros,hH];omega
        go_wp2_with ((first|(refine ae rfl 107 rfl z107 ?_)|(refine aa rfl 107 _ _ rfl w1.heap.size (k:=.u8) (xs:=Fs W bs p) rfl rfl hV (ah _ _) wh hBl ?_));(try simp only[nn,Nat.reduceAdd]))
        have HC:=aR aff
        have hsz1:¬w1.heap.size=w.heap.size+1:=by have:=(F1.below' hb1).lt;omega
        clear aff hb1 dm bK F0 F1 hV hix hs
        generalize ((w1.alloc (.cells (ints .u8 (zeros 8)) 107)).setRow w1.heap.size (ints .u8 (Fs W bs p)))=w2 at *
        generalize w1.heap.size=gv at *
        refine wp_region_still_tail 4 (by kernel_rfl) (by kernel_rfl) ?_
        simp only[List.take_succ_cons,List.take_zero,List.drop_succ_cons,List.drop_zero]
        have q1:IntKind.i64.wrap (8*(p:Int))=8*p:=IntWalk.i64_in _ (by omega)
        have q2:(0:Int)<=8*p:=by omega
        have q3:(8:Int)*p<=32:=by omega
        have q4:(8*(p:Int)).toNat=8*p:=by omega
        have q5:8*p<=32:=by omega
        have q6:¬8*p=32:=by omega
        repeat still_step
        refine wpStill_nil ?_
        change wpList _ _ _ _ _ w2.drew
        clear q1 q2 q3 q4 q5 q6
        refine bM (off:=8*p) (dLen:=32-8*p) (sLen:=8) rfl rfl underlying23 s15 rfl rfl (G1.drew) (Sl.blk G2.drew) (by rw[hBl];exact(Nat.min_eq_left (by omega)).symm) (λ_=>by rw[if_neg (by omega)]) (by rw[hll,hBl];omega) ?_
        intro w3 K1 ho
        rw[HC.out] at K1
        have K0:=G0.drew.only ho (by omega)
        have mO:=ho.below _ _ gL.drew (by omega)
        go_wp2
        exact⟨⟨p+1,by omega,by go_num,K0,K1,mO⟩,by simp[intOf]<;>omega⟩
       ·obtain rfl:p=4:=by omega
        have he:(DT W bs).take (8*4)++zeros (32-8*4)=DT W bs:=by rw[List.take_of_length_le (by omega)];simp[zeros]
        rw[he] at F1
        clear he
        go_wp2_with ((first|(refine ag rfl 85 _ rfl (w.heap.size+1) rfl F1 vI hH ?_)|(refine aa rfl 85 _ _ rfl w.heap.size rfl rfl F0 (ah _ _) vI hH ?_));(try simp only[nn,Nat.reduceAdd]))
        simp only[Exit.jump]
        exact ic rfl rfl rfl (F0.row _) vI hH ⟨rfl,az bK dM _⟩
    ·intro hgo
     go_wp2_with ((first|(refine ae rfl 85 rfl z85 ?_)|(refine ae rfl 218 rfl z218 ?_));(try simp only[nn,Nat.reduceAdd]))
     refine wp_label ?_
     rename_i hK
     refine hK _ _ ?_
     refine hgo _ _ (HI.out _ _ ⟨0,rfl,by omega,Z2,Z3,?_,aB⟩)
     rw[IU];exact Z4
  ·have e1:qZ W bs=5:=by simp[qZ,h1,h2]
   have e2:jw W bs=zeros 32:=by simp[jw,e1,zeros]
   rw[e1,e2]
   clear e1 e2
   go_enter func123,ntmps123
   go_wp2_with ((first|(refine ae rfl 85 rfl z85 ?_));(try simp only[nn,Nat.reduceAdd]))
   go_step3
   go_wp2_with ((first|(refine ae rfl 85 rfl z85 ?_)|(refine ag rfl 85 _ rfl (w.heap.size+1) rfl Z1 vI (aH _) ?_)|(refine aa rfl 85 _ _ rfl w.heap.size rfl rfl Z0 (ah _ _) vI (aH _) ?_));(try simp only[nn,Nat.reduceAdd]))
   rw[Exit.noGoto_ret];exact ic rfl rfl rfl ZR vI (aH _) ⟨rfl,Bf⟩
def eu (key:List Nat):List Nat:=(List.range 268).map λi=>aT key (4*i) 4
theorem xB (key:List Nat):(eu key).length=268:=by simp[eu]
theorem Nu {key:List Nat}(hb:∀x∈key,x<256):∀x∈eu key,x<4294967296:=λx hx=>by
 obtain⟨i,-,rfl⟩:=List.mem_map.1 hx
 exact eG hb _ 4
theorem Em (key:List Nat){i:Nat}(hi:i<268):(eu key).getD i 0=aT key (4*i) 4:=by
 unfold eu
 rw[List.getD_eq_getElem?_getD,List.getElem?_map,List.getElem?_range hi];rfl
theorem Vx (a:Option Addr)(c:Nat)(key:List Nat)(hb:∀x∈key,x<256)(hl:key.length=1072)(w:World)(hs:Sl w a .u8 key) :
  Calls prog 49 #[.slice a key.length c] w λe w'=>e=.returned (.tuple #[.slice (some ⟨w.heap.size,0,none⟩) 268 268,.int .i64 0])/\aA w' w.heap.size 52 (ints .u32 (eu key))/\Below w.heap.size w w':=by
 have hmk:∀W:World,(Instr.makeSlice 125 (.int .i64 268) (.int .i64 268)).run prog W=.ok (.slice (some ⟨W.heap.size,0,none⟩) 268 268) (W.alloc (.cells (ints .u32 (zeros 268)) 52)):=λ_=>by kernel_rfl
 have hlm:key.length<=maxLen:=by unfold maxLen;omega
 have hw:=xB key
 rw[hl]
 have hwd:=λp z hz hp W0 hs0=>sZ a c key hb hlm p z hz hp W0 hs0
 rw[hl] at hwd
 have HWD:=aR hwd
 clear hwd
 go_enter func49,ntmps49
 go_wp2
 go_loopw [12] (λt wr=>∃k:Nat,k<=268/\t=.int .i64 k/\aA wr w.heap.size 52 (ints .u32 ((eu key).take k++zeros (268-k)))/\Below w.heap.size w wr) (λt wr=>268-(intOf t).toNat)
 case atStart=>exact⟨0,by omega,rfl,aA.new _ _ _,bN _ _⟩
 case round =>
  rename_i hrel
  obtain⟨k,hk,rfl,C0,hbel⟩:=hrel
  by_cases hlt:k<268
  ·go_wp2_with (fail)
   refine(HWD.out (4*k) (4*(k:Int)) (by omega) (by omega) _ (hs.below hbel)).mono ?_
   rintro e w1 ⟨rfl,hb1⟩
   have D0:=C0.below' hb1
   have aK:=bC hbel hb1
   have hv:=Em key hlt
   have hll:((eu key).take k++zeros (268-k)).length=268:=by simp[zeros,hw];omega
   have c0:=D0.int (i:=k) (by omega)
   have z0:=D0.frozen k
   have D0':=D0.dw k (aT key (4*k) 4)
   rw[take_set hw hlt hv] at D0'
   have HD:=aR D0'
   clear D0' hll hv C0 hbel hb1
   go_wp2
   exact⟨⟨k+1,by omega,by go_num,HD.out,aK.setCell (by first|omega|(simp;done)|(simp;omega)) _⟩,by simp[intOf]<;>omega⟩
  ·obtain rfl:k=268:=by omega
   have he:(eu key).take 268++zeros (268-268)=eu key:=by rw[List.take_of_length_le (by omega)];simp[zeros]
   rw[he] at C0
   clear he
   go_wp2
   go_ret2
   exact⟨rfl,C0,hbel⟩
def fJ (n:Nat):List Nat:=[n%18446744073709551616,n/18446744073709551616%18446744073709551616]
theorem dO (n:Nat):(fJ n).length=2:=rfl
theorem Yk (n:Nat):fJ (n%340282366920938463463374607431768211456)=fJ n:=by
 unfold fJ
 have h1:n%340282366920938463463374607431768211456%18446744073709551616=n%18446744073709551616:=by omega
 have h2:n%340282366920938463463374607431768211456/18446744073709551616%18446744073709551616=n/18446744073709551616%18446744073709551616:=by omega
 rw[h1,h2]
theorem iN (n:Nat):cZ 256 8 (n%18446744073709551616)++cZ 256 8 (n/18446744073709551616%18446744073709551616)=cZ 256 16 n:=by
 rw[GG 256 8 8 _ _ (by omega) (by omega)]
 have e:n%18446744073709551616+256^8*(n/18446744073709551616%18446744073709551616)=n%256^16:=by omega
 rw[e,qE]
theorem jb {bs:List Nat}(hl:bs.length=16)(hb:∀x∈bs,x<256):[aT bs 0 8,aT bs 8 8]=fJ (le bs):=by
 have h:=Ba hl
 have h1:=eG hb 0 8
 have h2:=eG hb 8 8
 rw[h]
 generalize aT bs 0 8=x at *
 generalize aT bs 8 8=y at *
 unfold fJ
 have e1:(x+18446744073709551616*y)%18446744073709551616=x:=by omega
 have e2:(x+18446744073709551616*y)/18446744073709551616%18446744073709551616=y:=by omega
 rw[e1,e2]
theorem FM (v:Nat):le (cZ 256 16 v)=v%340282366920938463463374607431768211456:=by
 unfold le;rw[iH]
theorem UO (key bs:List Nat):fJ (le (mP key bs))=fJ (iK key bs):=by
 unfold mP;rw[FM,Yk]
theorem UN (a b:Nat):[(a%18446744073709551616+b%18446744073709551616)%18446744073709551616,(a/18446744073709551616%18446744073709551616+b/18446744073709551616%18446744073709551616+(a%18446744073709551616+b%18446744073709551616)/18446744073709551616)%18446744073709551616]=fJ (a+b):=by
 unfold fJ
 congr 1
 ·omega
 ·congr 1
  omega
def nJ (m:List Nat)(i:Nat):List Nat:=(m.drop (1024*i)).take 1024
def pq (W m:List Nat):Nat->List Nat
 | 0=>[]
 | q+1=>pq W m q++jw W (nJ m q)
theorem AR (W m:List Nat):∀q,(pq W m q).length=32*q
 | 0=>rfl
 | q+1=>by
  show (pq W m q++jw W (nJ m q)).length=_
  rw[List.length_append,AR W m q,AQ];omega
theorem Fq (W bs:List Nat):∀x∈jw W bs,x<256:=by
 unfold jw DT Fs
 split
 ·intro x hx
  rcases List.mem_append.1 hx with h|hx
  ·exact dU (by omega) _ _ x h
  ·rcases List.mem_append.1 hx with h|hx
   ·exact dU (by omega) _ _ x h
   ·rcases List.mem_append.1 hx with h|hx
    ·exact dU (by omega) _ _ x h
    ·exact dU (by omega) _ _ x hx
 ·intro x hx
  rw[(List.mem_replicate.1 hx).2];omega
theorem xV (W m:List Nat):∀q,∀x∈pq W m q,x<256
 | 0=>λx hx=>by cases hx
 | q+1=>λx hx=>(List.mem_append.1 hx).elim (xV W m q x) (Fq W _ x)
def jo (n:Nat):Nat:=(n+1023)/1024
theorem Oh {m:List Nat}(hb:∀x∈m,x<256)(i:Nat):∀x∈nJ m i,x<256:=λx hx=>hb x (List.mem_of_mem_drop (List.mem_of_mem_take hx))
theorem Jr (m:List Nat)(i:Nat):(nJ m i).length=min 1024 (m.length-1024*i):=by
 unfold nJ;rw[List.length_take,List.length_drop]
def Mk (tk iB:List Nat)(n:Nat):Nat:=iK tk (cZ 256 16 (8*n)++iB)
def MS (mk W b:List Nat):Nat:=iK mk (pq W (dC b) (jo (dC b).length))
def QQ:Array Value->Sem Value:=λargs=>do
 let (x,y,b) ←Extern.MathBitsCarry.three "Sub64" args
 pure (Extern.MathBitsCarry.pair ((x+Extern.MathBitsCarry.m64-y-b)%Extern.MathBitsCarry.m64) (if x<y+b then 1 else 0))
theorem Jc {P:Program}(x y b:Nat)(hb:b<=1)(w:World) :
  (QQ #[.int .u64 x,.int .u64 y,.int .u64 b]).run P w =
   .ok (.tuple #[.int .u64 (((x+18446744073709551616-y-b)%18446744073709551616:Nat):Int),.int .u64 ((if x<y+b then 1 else 0:Nat):Int)]) w:=by
 have:b=0∨b=1:=by omega
 rcases this with rfl|rfl<;>rfl
theorem Lc (x y b:Nat)(hb:b<=1)(w:World) :
  (callFunc 115 #[.int .u64 (x:Int),.int .u64 (y:Int),.int .u64 (b:Int)]).run prog w=.ok (.value (.tuple #[.int .u64 (((x+18446744073709551616-y-b)%18446744073709551616:Nat):Int),.int .u64 ((if x<y+b then 1 else 0:Nat):Int)])) w:=by
 rw[run_callFunc_extern func115 (by kernel_rfl) (by kernel_rfl) (by kernel_rfl) (e:=QQ) (by kernel_rfl),Jc x y b hb]
 rfl
def CU (x y:Nat):Nat:=if x<y then 1 else 0
theorem Nv (x0 x1 y0 y1:Nat)(h0:x0<18446744073709551616)(h1:x1<18446744073709551616)(k0:y0<18446744073709551616)(k1:y1<18446744073709551616)(w:World) :
  Calls prog 106 #[.agg (ints .u64 [x0,x1]),.agg (ints .u64 [y0,y1])] w λe w'=>e=.returned (.agg (ints .u64 [(x0+18446744073709551616-y0)%18446744073709551616,(x1+18446744073709551616-y1-CU x0 y0)%18446744073709551616]))/\Below w.heap.size w w':=by
 have B0:=((aA.new w 149 (ints .u64 [x0,x1])).alloc (.cells (ints .u64 [y0,y1]) 149)).alloc (.cells (ints .u64 (zeros 2)) 149)
 have B1:=(aA.new (w.alloc (.cells (ints .u64 [x0,x1]) 149)) 149 (ints .u64 [y0,y1])).alloc (.cells (ints .u64 (zeros 2)) 149)
 have B2:=aA.new ((w.alloc (.cells (ints .u64 [x0,x1]) 149)).alloc (.cells (ints .u64 [y0,y1]) 149)) 149 (ints .u64 (zeros 2))
 rw[World.size_alloc] at B1
 rw[World.size_alloc,World.size_alloc] at B2
 simp only[Nat.add_assoc,Nat.reduceAdd] at B2
 have hbel:=((bN w (.cells (ints .u64 [x0,x1]) 149)).alloc (by simp) (.cells (ints .u64 [y0,y1]) 149)).alloc (by simp;omega) (.cells (ints .u64 (zeros 2)) 149)
 have hq:CU x0 y0<=1:=by unfold CU;split<;>omega
 have a0:=λW=>Lc x0 y0 0 (by omega) W
 have el:(if x0<y0 then 1 else 0:Nat)=CU x0 y0:=rfl
 have a1:=λW=>Lc x1 y1 (CU x0 y0) hq W
 simp only[Nat.add_zero,Nat.sub_zero,show ((0:Nat):Int)=0 from rfl,el] at a0
 clear el
 have c0:=B0.int (i:=0) (by simp)
 have c1:=B0.int (i:=1) (by simp)
 have d0:=B1.int (i:=0) (by simp)
 have d1:=B1.int (i:=1) (by simp)
 simp only[List.getD_cons_zero,List.getD_cons_succ] at c0 c1 d0 d1
 obtain⟨q,Hq⟩:∃q,q=CU x0 y0:=⟨_,rfl⟩
 obtain⟨s,Hs⟩:∃s,s=(x0+18446744073709551616-y0)%18446744073709551616:=⟨_,rfl⟩
 rw[←Hq,←Hs] at a0
 rw[←Hq] at a1
 obtain⟨t,Ht⟩:∃t,t=(x1+18446744073709551616-y1-q)%18446744073709551616:=⟨_,rfl⟩
 obtain⟨u,Hu⟩:∃u,u=(if x1<y1+q then 1 else 0:Nat):=⟨_,rfl⟩
 rw[←Ht,←Hu] at a1
 have HQ:=aR Hq
 have HS:=aR Hs
 have HT:=aR Ht
 clear Hq Hs Ht Hu hq
 go_enter func106,ntmps106
 go_wp2_with ((first|(refine ae rfl 149 rfl zW ?_)|(refine aa (k:=.u64) (xs:=[s,t]) rfl 149 _ _ rfl (w.heap.size+2) rfl rfl B2 (ah _ _) sF rfl ?_));(try simp only[nn,Nat.reduceAdd]))
 refine aO rfl rfl (B2.row _) sF rfl ⟨?_,az hbel (by omega) _⟩
 rw[HQ.out] at HT
 rw[HS.out,HT.out]
theorem En (a b:Nat)(w:World) :
  Calls prog 106 #[.agg (ints .u64 (fJ a)),.agg (ints .u64 (fJ b))] w λe w'=>e=.returned (.agg (ints .u64 (fJ (a+340282366920938463463374607431768211456-b%340282366920938463463374607431768211456))))/\Below w.heap.size w w':=by
 have h:=Nv _ _ _ _ (Nat.mod_lt a (by omega)) (Nat.mod_lt (a/18446744073709551616) (by omega)) (Nat.mod_lt b (by omega)) (Nat.mod_lt (b/18446744073709551616) (by omega)) w
 have e:[(a%18446744073709551616+18446744073709551616-b%18446744073709551616)%18446744073709551616,(a/18446744073709551616%18446744073709551616+18446744073709551616-b/18446744073709551616%18446744073709551616-CU (a%18446744073709551616) (b%18446744073709551616))%18446744073709551616]=fJ (a+340282366920938463463374607431768211456-b%340282366920938463463374607431768211456):=by
  unfold fJ CU
  congr 1
  ·omega
  ·congr 1
   split<;>omega
 rw[e] at h
 exact h
theorem BP (a b:Nat)(w:World) :
  Calls prog 70 #[.agg (ints .u64 (fJ a)),.agg (ints .u64 (fJ b))] w λe w'=>e=.returned (.agg (ints .u64 (fJ (a+b))))/\Below w.heap.size w w':=by
 have h:=Ei _ _ _ _ (Nat.mod_lt a (by omega)) (Nat.mod_lt (a/18446744073709551616) (by omega)) (Nat.mod_lt b (by omega)) (Nat.mod_lt (b/18446744073709551616) (by omega)) w
 rw[UN] at h
 exact h
theorem Md {xs:List Nat}(h:xs.length=16):∃a b c d e f g i j k l m n o p q,xs=[a,b,c,d,e,f,g,i,j,k,l,m,n,o,p,q]:=by
 match xs,h with
 | [a,b,c,d,e,f,g,i,j,k,l,m,n,o,p,q],_=>exact⟨a,b,c,d,e,f,g,i,j,k,l,m,n,o,p,q,rfl⟩
def PW (tk mk:List Nat)(gw:Nat):Array Value:=(vals .u8 tk++vals .u8 mk++[Value.slice (some ⟨gw,0,none⟩) 268 268]).toArray
theorem YS (tk mk:List Nat)(gw:Nat):PW tk mk gw=([]++vals .u8 tk++(vals .u8 mk++[Value.slice (some ⟨gw,0,none⟩) 268 268])).toArray:=by simp[PW]
theorem adO (tk mk:List Nat)(gw:Nat):PW tk mk gw=(vals .u8 tk++vals .u8 mk++[Value.slice (some ⟨gw,0,none⟩) 268 268]).toArray:=rfl
theorem adN {tk mk:List Nat}(h1:tk.length=16)(h2:mk.length=16)(gw:Nat):(PW tk mk gw)[32]?=some (.slice (some ⟨gw,0,none⟩) 268 268):=by
 have h:((vals .u8 tk++vals .u8 mk):List Value).length=32:=by simp[bg,h1,h2]
 unfold PW
 rw[List.getElem?_toArray,List.getElem?_append_right (by omega),h];rfl
def xk (w:World)(g gw:Nat)(key:List Nat):Prop:=aA w g 129 (PW (aU key) (aU (key.drop 16)) gw)/\aA w gw 52 (ints .u32 (eu (key.drop 32)))
theorem xk.below {w w':World}{g gw:Nat}{key:List Nat}(h:xk w g gw key)(hb:Below w.heap.size w w'):xk w' g gw key:=⟨h.1.below' hb,h.2.below' hb⟩
theorem xk.ch {w w':World}{g gw gc t:Nat}{key:List Nat}{cs:Array Value}(h:xk w g gw key)(hc:Ch gc w w')(hb:aA w gc t cs)(h1:129≠t)(h2:52≠t):xk w' g gw key:=⟨hc.blk h.1 (h.1.LJ hb h1),hc.blk h.2 (h.2.LJ hb h2)⟩
theorem VQ {w:World}{a:Option Addr}{k:IntKind}{xs:List Nat}(h:Sl w a k xs)(hn:xs≠[]):∃g off,a=some ⟨g,off,none⟩:=let ⟨g,off,h1,_,_⟩:=h hn;⟨g,off,h1⟩
section
variable {P:Program}{o:Oper}{a:Act}{w:World}
theorem zO {T e:TypeId}{x y:Operand}{g off len cap lo:Nat}(hT:P.underlying T=some (.slice e))(hs:(P.info? e).map (·.size)=some 1)(ho:o.op=.slice T x (some y) none none)
  (hx:a.eval x=.slice (some ⟨g,off,none⟩) len cap) (hy:a.eval y=.int .i64 (lo:Int)) (h1:lo<=len) (h3:lo<cap) :
  (execOp a.eval o).run P w=.ok (.value (.slice (some ⟨g,off+lo,none⟩) (len-lo) (cap-lo))) w:=by
 obtain⟨d,hd,hd1⟩:=Option.map_eq_some_iff.1 hs
 have he:=jQ hT
 have hT':P.underlying T=some (.slice (P.elem T)):=by rw[he];exact hT
 have hr:=run_slice_l (P:=P) (w:=w) T (some ⟨g,off,none⟩) len cap hT' .i64 lo (by omega) (by omega)
 have hsz:(sizeOf (P.elem T)).run P w=.ok 1 w:=by simp[sizeOf,typeInfo,he,hd,hd1]
 rw[hsz] at hr
 have hne:¬cap=lo:=by omega
 unfold execOp
 simp only[ho,hx,hy,Option.map_some,Option.map_none,Sem.run_bind,Sem.run_pure,run_sliceAt_slice w T _ _ _ _ hT',hr,Result.andThen_ok,Int.toNat_natCast,sliced,if_neg hne,Nat.mul_one,Addr.add_mid]
end
theorem BG (g off n c:Nat)(bs:List Nat)(hn:n=bs.length)(w:World)(hs:Sl w (some ⟨g,off,none⟩) .u8 bs) :
  Calls prog 38 #[.slice (some ⟨g,off,none⟩) n c] w λe w'=>e=.returned (.agg (ints .u8 (aU bs)))/\Below w.heap.size w w':=by
 subst hn;exact fB _ c bs w hs
theorem Wt (key:List Nat)(hb:∀x∈key,x<256)(hl:key.length=1104)(a:Option Addr)(c:Nat)(hc:1104<=c)(w:World)(hs0:Sl w a .u8 key) :
  Calls prog 35 #[.slice a 1104 c] w λe w'=>∃g gw,e=.returned (.tuple #[.pointer (some ⟨g,0,none⟩),.int .i64 0])/\w.heap.size<=g/\w.heap.size<=gw/\xk w' g gw key/\Below w.heap.size w w':=by
 have hwo:=λW a2 c2 (h:Sl W a2 .u8 (key.drop 32))=>Vx a2 c2 (key.drop 32) (λx hx=>hb x (List.mem_of_mem_drop hx)) (by rw[List.length_drop];omega) W h
 have hdl:(key.drop 32).length=1072:=by rw[List.length_drop];omega
 rw[hdl] at hwo
 obtain⟨ga,off,rfl⟩:=VQ hs0 (by rintro rfl;simp at hl)
 obtain⟨t0,t1,t2,t3,t4,t5,t6,t7,t8,t9,t10,t11,t12,t13,t14,t15,ht⟩:=Md (bG key)
 obtain⟨m0,m1,m2,m3,m4,m5,m6,m7,m8,m9,m10,m11,m12,m13,m14,m15,hm⟩:=Md (bG (key.drop 16))
 go_enter func35,ntmps35
 go_wp2_with (refine iQ (n:=32) rfl rfl underlying23 s15 rfl rfl hl (by omega) hc hs0 ?_;intro sI c2 hsl2 hne2 hc2 _)
 refine(hwo _ _ _ hsl2).mono ?_
 rintro e w1 ⟨rfl,W1,hb1⟩
 have hs1:=hs0.below hb1
 have JP:=hs1.drop 16
 go_wp2_with fail
 have hk0:Hid (∀W,Below w1.heap.size w1 W->Calls prog 38 #[.slice (some ⟨ga,off,none⟩) 1104 c] W λe w'=>e=.returned (.agg (ints .u8 [t0,t1,t2,t3,t4,t5,t6,t7,t8,t9,t10,t11,t12,t13,t14,t15]))/\Below W.heap.size W w'):=aR λW hW=>by
  rw[←ht]
  exact BG ga off 1104 c key hl.symm W (hs1.below hW)
 have hk1:Hid (∀W,Below w1.heap.size w1 W->Calls prog 38 #[.slice (some ⟨ga,off+16,none⟩) (1104-16) (c-16)] W λe w'=>e=.returned (.agg (ints .u8 [m0,m1,m2,m3,m4,m5,m6,m7,m8,m9,m10,m11,m12,m13,m14,m15]))/\Below W.heap.size W w'):=aR λW hW=>by
  rw[←hm]
  exact BG ga (off+16) (1104-16) (c-16) (key.drop 16) (by rw[List.length_drop];omega) W (JP.below hW)
 refine eZ (by kernel_rfl) (by kernel_rfl) (λD bP W=>∃u2 u3 u18 u19 u20 u21 u22 u23 u24 u25:Value,bP={ tmps:=#[Value.slice (some { block:=ga,off:=off }) 1104 c,undef,u2,u3,Value.slice (some { block:=w.heap.size,off:=0 }) 268 268,Value.int IntKind.i64 0,Value.slice (some { block:=ga,off:=off }) 1104 c,Value.int IntKind.i64 1104,Value.bool false,Value.tuple #[Value.slice (some { block:=w.heap.size,off:=0 }) 268 268,Value.int IntKind.i64 0],Value.slice (some { block:=ga,off:=off }) 1104 c,Value.slice sI 1072 c2,Value.tuple #[Value.slice (some { block:=w.heap.size,off:=0 }) 268 268,Value.int IntKind.i64 0],Value.slice (some { block:=w.heap.size,off:=0 }) 268 268,Value.int IntKind.i64 0,Value.int IntKind.i64 0,Value.bool false,undef,u18,u19,u20,u21,u22,u23,u24,u25],defers:=[] }/\Below w1.heap.size w1 W/\(D 0->u18=.slice (some ⟨ga,off,none⟩) 1104 c)/\(D 1->u19=.agg (ints .u8 [t0,t1,t2,t3,t4,t5,t6,t7,t8,t9,t10,t11,t12,t13,t14,t15]))/\(D 2->u20=.slice (some ⟨ga,off,none⟩) 1104 c)/\(D 3->u21=.slice (some ⟨ga,off+16,none⟩) (1104-16) (c-16))/\(D 4->u22=.agg (ints .u8 [m0,m1,m2,m3,m4,m5,m6,m7,m8,m9,m10,m11,m12,m13,m14,m15]))/\(D 5->u23=.slice (some ⟨w.heap.size,0,none⟩) 268 268)/\(D 6->u24=.agg (PW [t0,t1,t2,t3,t4,t5,t6,t7,t8,t9,t10,t11,t12,t13,t14,t15] [m0,m1,m2,m3,m4,m5,m6,m7,m8,m9,m10,m11,m12,m13,m14,m15] w.heap.size))/\(D 7->(∃g,u25=.pointer (some ⟨g,0,none⟩)/\w1.heap.size<=g/\aA W g 129 (PW [t0,t1,t2,t3,t4,t5,t6,t7,t8,t9,t10,t11,t12,t13,t14,t15] [m0,m1,m2,m3,m4,m5,m6,m7,m8,m9,m10,m11,m12,m13,m14,m15] w.heap.size)))/\(D 8->(∃g,u2=.pointer (some ⟨g,0,none⟩)/\w1.heap.size<=g/\aA W g 129 (PW [t0,t1,t2,t3,t4,t5,t6,t7,t8,t9,t10,t11,t12,t13,t14,t15] [m0,m1,m2,m3,m4,m5,m6,m7,m8,m9,m10,m11,m12,m13,m14,m15] w.heap.size)))/\(D 9->u3=.int .i64 0)) ?_ ?_ ?_
 ·exact aL <| (⟨_,_,rfl,⟨rfl,rfl,rfl,Nat.le_refl _,λ_ _=>rfl⟩,nofun,nofun,nofun,nofun,nofun,nofun,nofun,nofun,nofun,nofun⟩)
 ·intro i o hi D bP W hI hnD hall
  obtain⟨u2,u3,u18,u19,u20,u21,u22,u23,u24,u25,rfl,hW,f0,f1,f2,f3,f4,f5,f6,f7,f8,f9⟩:=hI
  rcases i with _|_|_|_|_|_|_|_|_|_|i<;>try cases hi
  ·refine af (v:=.slice (some ⟨ga,off,none⟩) 1104 c) rfl rfl rfl ?_
   exact aL <| (⟨_,_,rfl,hW,λ_=>rfl,ro f1,ro f2,ro f3,ro f4,ro f5,ro f6,ro f7,ro f8,ro f9⟩)
  ·obtain rfl:=f0 (aj hall 0 rfl)
   refine aV 38 rfl rfl rfl func38 (by kernel_rfl) (by kernel_rfl) (hk0.out W hW) ?_
   intro W' hW'
   exact aL <| (⟨_,_,rfl,bC hW hW',ro f0,λ_=>rfl,ro f2,ro f3,ro f4,ro f5,ro f6,(λh=>((λ⟨g,h1,h2,h3⟩ hb=>⟨g,h1,h2,h3.below' hb⟩)) (f7 (cO h)) hW'),(λh=>((λ⟨g,h1,h2,h3⟩ hb=>⟨g,h1,h2,h3.below' hb⟩)) (f8 (cO h)) hW'),ro f9⟩)
  ·refine af (v:=.slice (some ⟨ga,off,none⟩) 1104 c) rfl rfl rfl ?_
   exact aL <| (⟨_,_,rfl,hW,ro f0,ro f1,λ_=>rfl,ro f3,ro f4,ro f5,ro f6,ro f7,ro f8,ro f9⟩)
  ·obtain rfl:=f2 (aj hall 2 rfl)
   refine af (v:=.slice (some ⟨ga,off+16,none⟩) (1104-16) (c-16)) rfl rfl (zO (lo:=16) underlying23 s15 rfl rfl rfl (by omega) (by omega)) ?_
   exact aL <| (⟨_,_,rfl,hW,ro f0,ro f1,ro f2,λ_=>rfl,ro f4,ro f5,ro f6,ro f7,ro f8,ro f9⟩)
  ·obtain rfl:=f3 (aj hall 3 rfl)
   refine aV 38 rfl rfl rfl func38 (by kernel_rfl) (by kernel_rfl) (hk1.out W hW) ?_
   intro W' hW'
   exact aL <| (⟨_,_,rfl,bC hW hW',ro f0,ro f1,ro f2,ro f3,λ_=>rfl,ro f5,ro f6,(λh=>((λ⟨g,h1,h2,h3⟩ hb=>⟨g,h1,h2,h3.below' hb⟩)) (f7 (cO h)) hW'),(λh=>((λ⟨g,h1,h2,h3⟩ hb=>⟨g,h1,h2,h3.below' hb⟩)) (f8 (cO h)) hW'),ro f9⟩)
  ·refine af (v:=.slice (some ⟨w.heap.size,0,none⟩) 268 268) rfl rfl rfl ?_
   exact aL <| (⟨_,_,rfl,hW,ro f0,ro f1,ro f2,ro f3,ro f4,λ_=>rfl,ro f6,ro f7,ro f8,ro f9⟩)
  ·obtain rfl:=f1 (aj hall 1 rfl)
   obtain rfl:=f4 (aj hall 4 rfl)
   obtain rfl:=f5 (aj hall 5 rfl)
   refine af (v:=.agg (PW [t0,t1,t2,t3,t4,t5,t6,t7,t8,t9,t10,t11,t12,t13,t14,t15] [m0,m1,m2,m3,m4,m5,m6,m7,m8,m9,m10,m11,m12,m13,m14,m15] w.heap.size)) rfl rfl (by kernel_rfl) ?_
   exact aL <| (⟨_,_,rfl,hW,ro f0,ro f1,ro f2,ro f3,ro f4,ro f5,λ_=>rfl,ro f7,ro f8,ro f9⟩)
  ·obtain rfl:=f6 (aj hall 6 rfl)
   refine wpOp_step (v:=.pointer (some ⟨W.heap.size,0,none⟩)) (w':=W.alloc (.cells (PW [t0,t1,t2,t3,t4,t5,t6,t7,t8,t9,t10,t11,t12,t13,t14,t15] [m0,m1,m2,m3,m4,m5,m6,m7,m8,m9,m10,m11,m12,m13,m14,m15] w.heap.size) 129)) rfl rfl (by kernel_rfl) ?_;have hW':=bN W (.cells (PW [t0,t1,t2,t3,t4,t5,t6,t7,t8,t9,t10,t11,t12,t13,t14,t15] [m0,m1,m2,m3,m4,m5,m6,m7,m8,m9,m10,m11,m12,m13,m14,m15] w.heap.size) 129)
   exact aL <| (⟨_,_,rfl,bC hW hW',ro f0,ro f1,ro f2,ro f3,ro f4,ro f5,ro f6,(λ_=>⟨_,rfl,hW.size,aA.new _ _ _⟩),(λh=>((λ⟨g,h1,h2,h3⟩ hb=>⟨g,h1,h2,h3.below' hb⟩)) (f8 (cO h)) hW'),ro f9⟩)
  ·have hx:=(f7 (aj hall 7 rfl));refine af (v:=u25) rfl rfl (by kernel_rfl) ?_;have hW':=Below.refl W.heap.size W
   exact aL <| (⟨_,_,rfl,bC hW hW',ro f0,ro f1,ro f2,ro f3,ro f4,ro f5,ro f6,(λh=>((λ⟨g,h1,h2,h3⟩ hb=>⟨g,h1,h2,h3.below' hb⟩)) (f7 (cO h)) hW'),(λ_=>hx),ro f9⟩)
  ·refine af (v:=.int .i64 0) rfl rfl (by kernel_rfl) ?_
   exact aL <| (⟨_,_,rfl,hW,ro f0,ro f1,ro f2,ro f3,ro f4,ro f5,ro f6,ro f7,ro f8,λ_=>rfl⟩)
  all_goals (exfalso;simp at hi)
 ·rintro D bP W ⟨u2,u3,u18,u19,u20,u21,u22,u23,u24,u25,rfl,hW,f0,f1,f2,f3,f4,f5,f6,f7,f8,f9⟩ hall
  obtain rfl:=f0 (hall 0 (by decide))
  obtain rfl:=f1 (hall 1 (by decide))
  obtain rfl:=f2 (hall 2 (by decide))
  obtain rfl:=f3 (hall 3 (by decide))
  obtain rfl:=f4 (hall 4 (by decide))
  obtain rfl:=f5 (hall 5 (by decide))
  obtain rfl:=f6 (hall 6 (by decide))
  obtain rfl:=f9 (hall 9 (by decide))
  have x25:=f7 (hall 7 (by decide))
  have x2:=f8 (hall 8 (by decide))
  clear f0 f1 f2 f3 f4 f5 f6 f9 hall
  obtain⟨g,rfl,hg,hK⟩:=x2
  have hz1:=hb1.size
  have hgw:=W1.lt
  go_wp2
  go_ret2
  refine⟨g,w.heap.size,rfl,by omega,Nat.le_refl _,⟨?_,W1.below' hW⟩,bC hb1 hW⟩
  rw[ht,hm]
  exact hK
theorem rO (g:Nat)(key bs:List Nat)(hbb:∀x∈bs,x<256)(w:World)(hS:jD w g key bs) :
  Calls prog 120 #[.pointer (some ⟨g,0,none⟩)] w λe w'=>e=.returned (.agg (ints .u64 (fJ (iK key bs))))/\Below w.heap.size w w':=by
 have B0:=aA.new w 149 (ints .u64 (zeros 2))
 have hbel:=bN w (.cells (ints .u64 (zeros 2)) 149)
 have S1:=hS.below hbel
 go_enter func120,ntmps120
 go_wp2_with (refine ae rfl 149 rfl zW ?_;(try simp only[nn,Nat.reduceAdd]))
 generalize (w.alloc (.cells (ints .u64 (zeros 2)) 149))=w1 at *
 have hl1:=B0.lt
 refine(ZQ g key bs hbb _ S1).mono ?_
 rintro e w2 ⟨rfl,hb2⟩
 have hz2:=hb2.size
 have Z:=aA.new w2 96 (ints .u8 (zeros 16))
 have T:=Z.row (ints .u8 (mP key bs))
 have C0:=((B0.below' hb2).alloc (.cells (ints .u8 (zeros 16)) 96)).aM (show w.heap.size≠w2.heap.size by omega) (ints .u8 (mP key bs))
 have aB:=az ((bC hbel hb2).alloc (by have:=hbel.size;omega) (.cells (ints .u8 (zeros 16)) 96)) (show w.heap.size<=w2.heap.size by omega) (ints .u8 (mP key bs))
 have Mj:=Bg key bs
 go_wp2_with ((first|(refine ae rfl 96 rfl fw ?_)|(refine aa (k:=.u8) (xs:=mP key bs) rfl 96 _ _ rfl w2.heap.size rfl rfl Z (ah _ _) aD Mj ?_));(try simp only[nn,Nat.reduceAdd]))
 generalize ((w2.alloc (.cells (ints .u8 (zeros 16)) 96)).setRow w2.heap.size (ints .u8 (mP key bs)))=w3 at *
 have hld:=yg (some ⟨w2.heap.size,0,none⟩) 16 (mP key bs) (FZ _ _) (by rw[Mj];simp[maxLen]) w3 (Sl.blk T)
 rw[Mj,jb Mj (FZ _ _),UO] at hld
 refine hld.mono ?_
 rintro e w4 ⟨rfl,hb4⟩
 have D0:=C0.below' hb4
 have aY:=bC aB hb4
 go_wp2_with (refine aa (k:=.u64) (xs:=fJ (iK key bs)) rfl 149 _ _ rfl w.heap.size rfl rfl D0 (ah _ _) sF (dO _) ?_;(try simp only[nn,Nat.reduceAdd]))
 exact aO rfl rfl (D0.row _) sF (dO _) ⟨rfl,az aY dM _⟩
theorem Tj (g gw:Nat)(key iB:List Nat)(hkb:∀x∈key,x<256)(htb:∀x∈iB,x<256)(htl:iB.length<2^30)(z:Int)(n:Nat)(hn:n<2^63)(hz:z=(n:Int)∨z<0/\n=0)(a:Option Addr)(c:Nat)(hc:iB.length<=c)(w:World)(hK:xk w g gw key)(hs0:Sl w a .u8 iB) :
  Calls prog 109 #[.pointer (some ⟨g,0,none⟩),.slice a iB.length c,.int .i64 z] w λe w'=>e=.returned (.agg (ints .u64 (fJ (Mk (aU key) iB n))))/\Below w.heap.size w w':=by
 have B0:=aA.new w 149 (ints .u64 (zeros 2))
 have hbel:=bN w (.cells (ints .u64 (zeros 2)) 149)
 have K1:=hK.below hbel
 have hs1:=hs0.below hbel
 have htk:=bG key
 have aej:=dN hkb
 have hw1:IntKind.u64.wrap (n:Int)=(n:Int):=by rw[IntKind.wrap_u64];omega
 have hw2:IntKind.u64.wrap ((n:Int)*8)=((8*n%18446744073709551616:Nat):Int):=by rw[IntKind.wrap_u64];omega
 have hlo:8*n%18446744073709551616<18446744073709551616:=by omega
 have hhi:8*n/18446744073709551616%18446744073709551616<18446744073709551616:=by omega
 have hwb:=λW=>mo _ _ hlo hhi W
 rw[iN] at hwb
 have HWB:=aR hwb
 clear hwb
 have e1:8*(n:Int)%18446744073709551616=((8*n%18446744073709551616:Nat):Int):=by omega
 have e2:(n:Int)/2305843009213693952=((8*n/18446744073709551616%18446744073709551616:Nat):Int):=by omega
 have E1:=aR e1
 have E2:=aR e2
 clear e1 e2
 have hmb:∀x∈cZ 256 16 (8*n),x<256:=dU (by omega) _ _
 have gq:(cZ 256 16 (8*n)).length=16:=bn _ _ _
 rcases hz with rfl|⟨hz0,hn0⟩
 ·have hd0:decide ((n:Int)<0)=false:=by simp
  have hge:(0:Int)<=(n:Int):=by omega
  go_enter func109,ntmps109
  go_wp2_with (refine ae rfl 149 rfl zW ?_;(try simp only[nn,Nat.reduceAdd]))
  rw[E1.out,E2.out]
  generalize (w.alloc (.cells (ints .u64 (zeros 2)) 149))=w1 at *
  refine(HWB.out _).mono ?_
  rintro e w2 ⟨rfl,hb2⟩
  have hz2:=hb2.size
  have hl1:=B0.lt
  have Z:=aA.new w2 96 (ints .u8 (zeros 16))
  have T:=Z.row (ints .u8 (cZ 256 16 (8*n)))
  have C0:=((B0.below' hb2).alloc (.cells (ints .u8 (zeros 16)) 96)).aM (show w.heap.size≠w2.heap.size by omega) (ints .u8 (cZ 256 16 (8*n)))
  have hb3:Below w1.heap.size w1 ((w2.alloc (.cells (ints .u8 (zeros 16)) 96)).setRow w2.heap.size (ints .u8 (cZ 256 16 (8*n)))):=az (hb2.alloc hz2 (.cells (ints .u8 (zeros 16)) 96)) hz2 (ints .u8 (cZ 256 16 (8*n)))
  have K3:=K1.below hb3
  have hs3:=hs1.below hb3
  have aG:=bC hbel hb3
  have KT:=K3.1
  rw[YS] at KT
  go_wp2_with ((first|(refine ae rfl 96 rfl fw ?_)|(refine aa (k:=.u8) (xs:=cZ 256 16 (8*n)) rfl 96 _ _ rfl w2.heap.size rfl rfl Z (ah _ _) aD gq ?_)|(refine dZ (old:=vals .u8 (aU key)) rfl 96 _ rfl 0 rfl KT rfl aD (by rw[bg];exact htk) ?_));(try simp only[nn,Nat.reduceAdd]))
  generalize ((w2.alloc (.cells (ints .u8 (zeros 16)) 96)).setRow w2.heap.size (ints .u8 (cZ 256 16 (8*n))))=w3 at *
  have TF:=T.lt
  have hC3:=C0.lt
  refine(JA (aU key) htk aej _).mono ?_
  rintro e w4 ⟨gs,rfl,hgs,hS,hb4⟩
  have T4:=T.below' hb4
  have C4:=C0.below' hb4
  have hs4:=hs3.below hb4
  have aY:=bC aG hb4
  go_wp2_with fail
  have hwr:=oz gs (aU key) [] (cZ 256 16 (8*n)) hmb (by decide) (by rw[gq];omega) (some ⟨w2.heap.size,0,none⟩) 16 (by rw[gq];omega) (λ_ p hp=>by cases hp;show w2.heap.size≠gs;omega) w4 hS (Sl.blk T4)
  rw[gq] at hwr
  refine hwr.mono ?_
  rintro e w5 ⟨rfl,hS5,nZ⟩
  have C5:=nZ.blk C4 (by omega)
  have hs5:=nZ.sl' hs4 (Ed.LG hs3 hgs)
  have bA:=nZ.below aY (by omega) aY.size
  rw[List.nil_append] at hS5
  go_wp2_with fail
  refine(oz gs (aU key) _ iB htb (by rw[gq];omega) (by omega) a c hc (Ed.LG hs3 hgs) _ hS5 hs5).mono ?_
  rintro e w6 ⟨rfl,hS6,zU⟩
  have C6:=zU.blk C5 (by omega)
  have bK:=zU.below bA (by omega) bA.size
  go_wp2_with fail
  refine(rO gs (aU key) _ (λx hx=>(List.mem_append.1 hx).elim (hmb x) (htb x)) _ hS6).mono ?_
  rintro e w7 ⟨rfl,yA⟩
  have C7:=C6.below' yA
  have dm:=bC bK yA
  go_wp2_with (refine aa (k:=.u64) (xs:=fJ (iK (aU key) (cZ 256 16 (8*n)++iB))) rfl 149 _ _ rfl w.heap.size rfl rfl C7 (ah _ _) sF (dO _) ?_;(try simp only[nn,Nat.reduceAdd]))
  exact aO rfl rfl (C7.row _) sF (dO _) ⟨rfl,az dm dM _⟩
 ·have q1:8*n%18446744073709551616=0:=by omega
  have q2:8*n/18446744073709551616%18446744073709551616=0:=by omega
  have aaG:=HWB.out
  rw[q1,q2] at aaG
  have HW0:=aR aaG
  clear aaG q1 q2 hw1 hw2 hlo hhi E1 E2 HWB hn0
  have hge:¬(0:Int)<=z:=by omega
  go_enter func109,ntmps109
  go_wp2_with (refine ae rfl 149 rfl zW ?_;(try simp only[nn,Nat.reduceAdd]))
  rw[show max z 0=0 by omega]
  simp only[Int.zero_mul,Int.zero_ediv]
  generalize (w.alloc (.cells (ints .u64 (zeros 2)) 149))=w1 at *
  refine(HW0.out _).mono ?_
  rintro e w2 ⟨rfl,hb2⟩
  have hz2:=hb2.size
  have hl1:=B0.lt
  have Z:=aA.new w2 96 (ints .u8 (zeros 16))
  have T:=Z.row (ints .u8 (cZ 256 16 (8*n)))
  have C0:=((B0.below' hb2).alloc (.cells (ints .u8 (zeros 16)) 96)).aM (show w.heap.size≠w2.heap.size by omega) (ints .u8 (cZ 256 16 (8*n)))
  have hb3:Below w1.heap.size w1 ((w2.alloc (.cells (ints .u8 (zeros 16)) 96)).setRow w2.heap.size (ints .u8 (cZ 256 16 (8*n)))):=az (hb2.alloc hz2 (.cells (ints .u8 (zeros 16)) 96)) hz2 (ints .u8 (cZ 256 16 (8*n)))
  have K3:=K1.below hb3
  have hs3:=hs1.below hb3
  have aG:=bC hbel hb3
  have KT:=K3.1
  rw[YS] at KT
  go_wp2_with ((first|(refine ae rfl 96 rfl fw ?_)|(refine aa (k:=.u8) (xs:=cZ 256 16 (8*n)) rfl 96 _ _ rfl w2.heap.size rfl rfl Z (ah _ _) aD gq ?_)|(refine dZ (old:=vals .u8 (aU key)) rfl 96 _ rfl 0 rfl KT rfl aD (by rw[bg];exact htk) ?_));(try simp only[nn,Nat.reduceAdd]))
  generalize ((w2.alloc (.cells (ints .u8 (zeros 16)) 96)).setRow w2.heap.size (ints .u8 (cZ 256 16 (8*n))))=w3 at *
  have TF:=T.lt
  have hC3:=C0.lt
  refine(JA (aU key) htk aej _).mono ?_
  rintro e w4 ⟨gs,rfl,hgs,hS,hb4⟩
  have T4:=T.below' hb4
  have C4:=C0.below' hb4
  have hs4:=hs3.below hb4
  have aY:=bC aG hb4
  go_wp2_with fail
  have hwr:=oz gs (aU key) [] (cZ 256 16 (8*n)) hmb (by decide) (by rw[gq];omega) (some ⟨w2.heap.size,0,none⟩) 16 (by rw[gq];omega) (λ_ p hp=>by cases hp;show w2.heap.size≠gs;omega) w4 hS (Sl.blk T4)
  rw[gq] at hwr
  refine hwr.mono ?_
  rintro e w5 ⟨rfl,hS5,nZ⟩
  have C5:=nZ.blk C4 (by omega)
  have hs5:=nZ.sl' hs4 (Ed.LG hs3 hgs)
  have bA:=nZ.below aY (by omega) aY.size
  rw[List.nil_append] at hS5
  go_wp2_with fail
  refine(oz gs (aU key) _ iB htb (by rw[gq];omega) (by omega) a c hc (Ed.LG hs3 hgs) _ hS5 hs5).mono ?_
  rintro e w6 ⟨rfl,hS6,zU⟩
  have C6:=zU.blk C5 (by omega)
  have bK:=zU.below bA (by omega) bA.size
  go_wp2_with fail
  refine(rO gs (aU key) _ (λx hx=>(List.mem_append.1 hx).elim (hmb x) (htb x)) _ hS6).mono ?_
  rintro e w7 ⟨rfl,yA⟩
  have C7:=C6.below' yA
  have dm:=bC bK yA
  go_wp2_with (refine aa (k:=.u64) (xs:=fJ (iK (aU key) (cZ 256 16 (8*n)++iB))) rfl 149 _ _ rfl w.heap.size rfl rfl C7 (ah _ _) sF (dO _) ?_;(try simp only[nn,Nat.reduceAdd]))
  exact aO rfl rfl (C7.row _) sF (dO _) ⟨rfl,az dm dM _⟩
def EY (g:Nat):Array Value:=#[.pointer (some ⟨g,0,none⟩)]
theorem abD (gk TJ g gw gs:Nat)(key L part:List Nat)(hkb:∀x∈key,x<256)(hpb:∀x∈part,x<256)(hp1:part.length<=1024)(hp2:part.length%16=0)(hLl:L.length<2^31)(DZ:∀x∈L,x<256)(a:Option Addr)(c:Nat)(w:World)
  (hK:xk w g gw key) (hS:jD w gs (aU (key.drop 16)) L) (k1:aA w gk 87 (EY g)) (k2:aA w TJ 205 (EY gs)) (hs0:Sl w a .u8 part) :
  Calls prog 122 #[.slice a part.length c,.pointer (some ⟨gk,0,none⟩),.pointer (some ⟨TJ,0,none⟩)] w λe w'=>e=.returned (.tuple #[])/\jD w' gs (aU (key.drop 16)) (L++jw (eu (key.drop 32)) part)/\Ch gs w w':=by
 have c1:w.cell? ⟨gk,0,none⟩=some (.pointer (some ⟨g,0,none⟩)):=by rw[k1.cell];rfl
 have c2:w.cell? ⟨g,32,none⟩=some (.slice (some ⟨gw,0,none⟩) 268 268):=by rw[hK.1.cell,adN (bG _) (bG _)]
 have hwl:=xB (key.drop 32)
 have hh:=λW hsw hsb=>Kc (some ⟨gw,0,none⟩) a 268 c (eu (key.drop 32)) part hpb (Nu λx hx=>hkb x (List.mem_of_mem_drop hx)) (by omega) (by omega) (by omega) (by simp[maxLen]) W hsw hsb
 rw[hwl] at hh
 have hol:=AQ (eu (key.drop 32)) part
 have FT:=Fq (eu (key.drop 32)) part
 obtain⟨out,HO⟩:=bD (jw (eu (key.drop 32)) part)
 rw[HO.out] at hh hol FT
 go_enter func122,ntmps122
 go_wp2_with fail
 refine(hh _ (Sl.blk hK.2) hs0).mono ?_
 rintro e w1 ⟨rfl,hb1⟩
 have S1:=hS.below hb1
 have K2:=k2.below' hb1
 have hz1:=hb1.size
 have Z:=aA.new w1 85 (ints .u8 (zeros 32))
 have O2:=Z.row (ints .u8 out)
 have hb2:Below w.heap.size w ((w1.alloc (.cells (ints .u8 (zeros 32)) 85)).setRow w1.heap.size (ints .u8 out)):=az (hb1.alloc hz1 (.cells (ints .u8 (zeros 32)) 85)) hz1 (ints .u8 out)
 have S2:=hS.below hb2
 have K2':=k2.below' hb2
 go_wp2_with ((first|(refine ae rfl 85 rfl z85 ?_)|(refine aa (k:=.u8) (xs:=out) rfl 85 _ _ rfl w1.heap.size rfl rfl Z (ah _ _) vI hol ?_));(try simp only[nn,Nat.reduceAdd]))
 generalize ((w1.alloc (.cells (ints .u8 (zeros 32)) 85)).setRow w1.heap.size (ints .u8 out))=w2 at *
 have c3:w2.cell? ⟨TJ,0,none⟩=some (.pointer (some ⟨gs,0,none⟩)):=by rw[K2'.cell];rfl
 go_still_tail 2,(by kernel_rfl)
 change wpList _ _ _ _ _ w2.drew
 have O3:=O2.drew
 have S3:jD w2.drew gs (aU (key.drop 16)) L:=S2.only λ_ _ h=>h.drew
 have hch:=(Ch.of_below (g:=gs) hb2).drew
 have hsl:=hS.lt
 generalize w2.drew=w3 at *
 have hwr:=oz gs (aU (key.drop 16)) L out FT hLl (by omega) (some ⟨w1.heap.size,0,none⟩) 32 (by omega) (λ_ p hp=>by cases hp;show w1.heap.size≠gs;omega) w3 S3 (Sl.blk O3)
 rw[hol] at hwr
 go_wp2_with fail
 refine hwr.mono ?_
 rintro e w4 ⟨rfl,S4,Xg⟩
 go_wp2_with fail
 refine bodyPost_end (v:=.tuple #[]) (by simp[results,results122]) rfl ⟨rfl,by rw[HO.out];exact S4,hch.trans Xg⟩
theorem Jq (m:List Nat)(i:Nat):(m.drop (1024*i)).take (min (m.length-1024*i) 1024)=nJ m i:=by
 unfold nJ
 by_cases h:m.length-1024*i<=1024
 ·rw[Nat.min_eq_left h,List.take_of_length_le (by rw[List.length_drop];omega),List.take_of_length_le (by rw[List.length_drop];omega)]
 ·rw[Nat.min_eq_right (by omega)]
theorem Jp (gk TJ g gw gs:Nat)(key m:List Nat)(hkb:∀x∈key,x<256)(hmb:∀x∈m,x<256)(gq:m.length<2^31)(hmm:m.length%16=0)(a:Option Addr)(c:Nat)(hc:m.length<=c)(w:World)
  (hK:xk w g gw key) (hS:jD w gs (aU (key.drop 16)) []) (k1:aA w gk 87 (EY g)) (k2:aA w TJ 205 (EY gs)) (hs0:Sl w a .u8 m) (hne:Ed a gs m) :
  Calls prog 121 #[.slice a m.length c,.func (.func 122) #[] #[.pointer (some ⟨gk,0,none⟩),.pointer (some ⟨TJ,0,none⟩)]] w λe w'=>e=.returned (.tuple #[])/\jD w' gs (aU (key.drop 16)) (pq (eu (key.drop 32)) m (jo m.length))/\Ch gs w w':=by
 obtain⟨N,HN⟩:=bD (m.length)
 rw[HN.out] at gq hmm hc ⊢
 obtain⟨cs,hSb⟩:=hS.blk
 have k1n:=k1.LJ hSb (by decide)
 have k2n:=k2.LJ hSb (by decide)
 go_enter func121,ntmps121
 obtain⟨J,HJ,HI0⟩:=jmp (λaJ w'=>∃(U:Nat->Value) (q:Nat) (a':Option Addr) (c':Nat),aJ={ tmps:=#[.slice a' (N-1024*q) c',.func (.func 122) #[] #[.pointer (some ⟨gk,0,none⟩),.pointer (some ⟨TJ,0,none⟩)],U 2,U 3,U 4,U 5,U 6,U 7,U 8,U 9,U 10,U 11,U 12,U 13,U 14,U 15,U 16,U 17,U 18],defers:=[] }/\q<=jo N/\N-1024*q<=c'/\Sl w' a' .u8 (m.drop (1024*q))/\Ed a' gs (m.drop (1024*q))/\xk w' g gw key/\jD w' gs (aU (key.drop 16)) (pq (eu (key.drop 32)) m q)/\aA w' gk 87 (EY g)/\aA w' TJ 205 (EY gs)/\Ch gs w w')
 have HI:Hid (∀(T:Array Value) (w':World),(∃(q:Nat) (a':Option Addr) (c':Nat),T=((λ(U:Nat->Value)=>#[.slice a' (N-1024*q) c',.func (.func 122) #[] #[.pointer (some ⟨gk,0,none⟩),.pointer (some ⟨TJ,0,none⟩)],U 2,U 3,U 4,U 5,U 6,U 7,U 8,U 9,U 10,U 11,U 12,U 13,U 14,U 15,U 16,U 17,U 18]) λi=>T.getD i undef)/\q<=jo N/\N-1024*q<=c'/\Sl w' a' .u8 (m.drop (1024*q))/\Ed a' gs (m.drop (1024*q))/\xk w' g gw key/\jD w' gs (aU (key.drop 16)) (pq (eu (key.drop 32)) m q)/\aA w' gk 87 (EY g)/\aA w' TJ 205 (EY gs)/\Ch gs w w')->J { tmps:=T,defers:=[] } w') :=
  aR λT w' ⟨q,a',c',hJ,rJ⟩=>HI0.out _ _ ⟨λi=>T.getD i undef,q,a',c',congrArg (λT=>({ tmps:=T,defers:=[] }:Act)) hJ,rJ⟩
 clear HI0
 obtain⟨μ,Hμ⟩:∃μ:Act->World->Nat,Hid (∀a w',μ a w'=RY (a.tmps.getD 0 undef)):=⟨_,aR λ_ _=>rfl⟩
 refine sN 0 J μ ?_ ?_
 ·exact HI.out _ _ ⟨0,a,c,rfl,by omega,by omega,by rw[Nat.mul_zero,List.drop_zero];exact hs0,by rw[Nat.mul_zero,List.drop_zero];exact hne,hK,hS,k1,k2,Ch.refl _ _⟩
 ·intro a0 wr hj
  obtain⟨U,q,a',c',rfl,hq,hc',hsl,hne',hK',hS',k1',k2',hch⟩:=HJ.out _ _ hj
  clear hj hK hS k1 k2 hs0 hne
  have hμ:=Hμ.out
  clear Hμ
  by_cases h0:N-1024*q=0
  ·have HQ:Hid (jo N=q):=aR (by unfold jo at hq ⊢;omega)
   rw[h0]
   have hd0:(((0:Nat):Int)==0)=true:=by simp
   go_wp2_with fail
   simp only[Exit.jump]
   refine bodyPost_ret (v:=.tuple #[]) (by simp[results,results121]) rfl ⟨rfl,?_,hch⟩
   rw[HQ.out]
   exact hS'
  ·obtain⟨n,hn⟩:∃n,n=min (N-1024*q) 1024:=⟨_,rfl⟩
   have HPT:=aR (Jq m q)
   have hpl:(nJ m q).length=n:=by rw[Jr,HN.out];omega
   rw[HN.out,←hn] at HPT
   have hpb:=Oh hmb q
   have hn1:n<=1024:=by omega
   have hn2:n%16=0:=by omega
   have hall:=AR (eu (key.drop 32)) m q
   have afm:(pq (eu (key.drop 32)) m q).length<2^31:=by rw[hall];unfold jo at hq;omega
   have hdo:=λad h=>abD gk TJ g gw gs key (pq (eu (key.drop 32)) m q) (nJ m q) hkb hpb (by omega) (by omega) afm (xV _ _ _) ad c' wr hK' hS' k1' k2' h
   rw[hpl] at hdo
   have HDO:=aR hdo
   clear hdo
   have hdl:(m.drop (1024*q)).length=N-1024*q:=by rw[List.length_drop,HN.out]
   have hnR:n<=N-1024*q:=by omega
   have hnc:n<=c':=by omega
   have PH:Hid (q+1<=jo N):=aR (by unfold jo at hq ⊢;omega)
   have HR1:Hid (N-1024*(q+1)=N-1024*q-n):=aR (by omega)
   have HD1:Hid ((m.drop (1024*q)).drop n=m.drop (1024*(q+1))):=aR (by
    rw[List.drop_drop]
    by_cases h1:N-1024*q<=1024
    ·rw[List.drop_eq_nil_of_le (by rw[HN.out];omega),List.drop_eq_nil_of_le (by rw[HN.out];omega)]
    ·rw[show 1024*q+n=1024*(q+1) by omega])
   have hnpos:0<n:=by omega
   obtain⟨R,HR⟩:=bD (N-1024*q)
   rw[HR.out] at h0 hn hdl hnR HR1 hc' ⊢
   have agM:Hid (min (R:Int) 1024=(n:Int)):=aR (by omega)
   have hd0:((R:Int)==0)=false:=by simp;omega
   have hRb:R<2^31:=by have:=HR.out;omega
   clear hn
   go_wp2_with (refine kg (n:=n) rfl rfl underlying23 s15 rfl (congrArg (Value.int IntKind.i64) agM.out) hnc hsl ?_;intro sI hsl2 _)
   rw[HPT.out] at hsl2
   refine(HDO.out sI hsl2).mono ?_
   rintro e w2 ⟨rfl,S2,OH⟩
   have hslR:=OH.sl' hsl hne'
   obtain⟨cs',afy⟩:=hS'.blk
   have K2:=hK'.ch OH afy (by decide) (by decide)
   have k1'':=OH.blk k1' k1n
   have k2'':=OH.blk k2' k2n
   have JW:=hch.trans OH
   clear hsl hsl2 hS' hK' k1' k2' hch OH afy HDO
   go_wp2_with (refine iQ (n:=n) rfl rfl underlying23 s15 rfl (congrArg (Value.int IntKind.i64) agM.out) hdl hnR hc' hslR ?_;intro ad3 c3 OB hne3 hc3 _)
   go_step3
   refine⟨rfl,HI.out _ _ ⟨q+1,ad3,c3,by rw[HR1.out];rfl,PH.out,by rw[HR1.out];exact hc3,by rw[←HD1.out];exact OB,by rw[←HD1.out];exact hne3 gs hne',K2,S2,k1'',k2'',JW⟩,?_⟩
   rw[hμ,hμ]
   change R-n<R
   omega
theorem YI {w:World}{g g' t:Nat}{key bs:List Nat}{cs:Array Value}(h:jD w g key bs)(hb:aA w g' t cs)(hne:t≠216):g'≠g:=by
 obtain⟨c2,h2⟩:=h.blk
 exact hb.LJ h2 hne
theorem Uv (g gw:Nat)(key b:List Nat)(hkb:∀x∈key,x<256)(hbb:∀x∈b,x<256)(hbl:b.length<2^30)(a:Option Addr)(c:Nat)(w:World)(hK:xk w g gw key)(hs0:Sl w a .u8 b) :
  Calls prog 110 #[.pointer (some ⟨g,0,none⟩),.slice a b.length c] w λe w'=>e=.returned (.agg (ints .u64 (fJ (MS (aU (key.drop 16)) (eu (key.drop 32)) b))))/\Below w.heap.size w w':=by
 have P0:=(aA.new w 87 #[.pointer (some ⟨g,0,none⟩)]).alloc (.cells (ints .u64 (zeros 2)) 149)
 have R0:=aA.new (w.alloc (.cells #[.pointer (some ⟨g,0,none⟩)] 87)) 149 (ints .u64 (zeros 2))
 rw[World.size_alloc] at R0
 have hbel:=(bN w (.cells #[.pointer (some ⟨g,0,none⟩)] 87)).alloc (by simp) (.cells (ints .u64 (zeros 2)) 149)
 have K1:=hK.below hbel
 have hs1:=hs0.below hbel
 have hmk:=bG (key.drop 16)
 have hmkb:=dN (bs:=key.drop 16) λx hx=>hkb x (List.mem_of_mem_drop hx)
 have c1:((w.alloc (.cells #[.pointer (some ⟨g,0,none⟩)] 87)).alloc (.cells (ints .u64 (zeros 2)) 149)).cell? ⟨w.heap.size,0,none⟩=some (.pointer (some ⟨g,0,none⟩)):=by rw[P0.cell];rfl
 have KM:=K1.1
 rw[adO] at KM
 go_enter func110,ntmps110
 go_wp2_with ((first|(refine ae rfl 149 rfl zW ?_)|(refine dZ (pre:=vals .u8 (aU key)) (old:=vals .u8 (aU (key.drop 16))) rfl 96 _ rfl 16 rfl KM (by rw[bg,bG]) aD (by rw[bg];exact hmk) ?_));(try simp only[nn,Nat.reduceAdd]))
 generalize ((w.alloc (.cells #[.pointer (some ⟨g,0,none⟩)] 87)).alloc (.cells (ints .u64 (zeros 2)) 149))=w1 at *
 have hr1:=R0.lt
 refine(JA (aU (key.drop 16)) hmk hmkb _).mono ?_
 rintro e w2 ⟨gs,rfl,hgs,hS2,hb2⟩
 have hsl2:=hS2.lt
 have hz2:=hb2.size
 have V3:=aA.new w2 205 #[.pointer (some ⟨gs,0,none⟩)]
 have hb3:Below w1.heap.size w1 (w2.alloc (.cells #[.pointer (some ⟨gs,0,none⟩)] 205)):=hb2.alloc hz2 (.cells #[.pointer (some ⟨gs,0,none⟩)] 205)
 have abl:=bN w2 (.cells #[.pointer (some ⟨gs,0,none⟩)] 205)
 have P3:=P0.below' hb3
 have R3:=R0.below' hb3
 have K3:=K1.below hb3
 have hs3:=hs1.below hb3
 have S3:=hS2.below abl
 have aG:=bC hbel hb3
 have hz3:=abl.size
 go_wp2_with fail
 generalize (w2.alloc (.cells #[.pointer (some ⟨gs,0,none⟩)] 205))=w3 at *
 have hgv:w1.heap.size<=w2.heap.size:=hz2
 generalize w2.heap.size=gv at *
 clear hb2 abl hS2 P0 R0 K1 KM hs1 c1 hb3
 refine(oZ a c b (by omega) _ hs3).mono ?_
 rintro e w4 ⟨rfl,hb4,M4⟩
 have P4:=P3.below' hb4
 have R4:=R3.below' hb4
 have K4:=K3.below hb4
 have S4:=S3.below hb4
 have V4:=V3.below' hb4
 have aY:=bC aG hb4
 have hS3l:=S3.lt
 have hpl:=mI b
 have hpm:=Fe b
 have hpb:=qo hbb
 have hpi:=Jp w.heap.size gv g gw gs key (dC b) hkb hpb (by omega) hpm (some ⟨w3.heap.size,0,none⟩) (dC b).length dM w4 K4 S4 P4 V4 (Sl.blk M4) (λ_ p hp=>by cases hp;show w3.heap.size≠gs;omega)
 have HPI:=aR hpi
 clear hpi hpl hpm
 go_wp2_with fail
 refine HPI.out.mono ?_
 rintro e w5 ⟨rfl,S5,nZ⟩
 have hRs:=YI S4 R4 (by decide)
 have hVs:=YI S4 V4 (by decide)
 have R5:=nZ.blk R4 hRs
 have V5:=nZ.blk V4 hVs
 have bA:=nZ.below aY (by omega) aY.size
 have c5:w5.cell? ⟨gv,0,none⟩=some (.pointer (some ⟨gs,0,none⟩)):=by rw[V5.cell];rfl
 go_wp2_with fail
 refine(rO gs (aU (key.drop 16)) _ (xV _ _ _) _ S5).mono ?_
 rintro e w6 ⟨rfl,hb6⟩
 have R6:=R5.below' hb6
 have bK:=bC bA hb6
 go_wp2_with (refine aa (k:=.u64) (xs:=fJ (iK (aU (key.drop 16)) (pq (eu (key.drop 32)) (dC b) (jo (dC b).length)))) rfl 149 _ _ rfl (w.heap.size+1) rfl rfl R6 (ah _ _) sF (dO _) ?_;(try simp only[nn,Nat.reduceAdd]))
 exact aO rfl rfl (R6.row _) sF (dO _) ⟨rfl,az bK (by omega) _⟩
theorem Lb (g gw:Nat)(key iB b:List Nat)(hkb:∀x∈key,x<256)(htb:∀x∈iB,x<256)(htl:iB.length<2^30)(hbb:∀x∈b,x<256)(hbl:b.length<2^30)(a1 a2:Option Addr)(c1 c2:Nat)(hc1:iB.length<=c1)(w:World)(hK:xk w g gw key)(hs1:Sl w a1 .u8 iB)(hs2:Sl w a2 .u8 b) :
  Calls prog 101 #[.pointer (some ⟨g,0,none⟩),.slice a1 iB.length c1,.slice a2 b.length c2] w λe w'=>e=.returned (.agg (ints .u64 (fJ (Mk (aU key) iB b.length+MS (aU (key.drop 16)) (eu (key.drop 32)) b))))/\Below w.heap.size w w':=by
 have B0:=aA.new w 149 (ints .u64 (zeros 2))
 have hbel:=bN w (.cells (ints .u64 (zeros 2)) 149)
 have K1:=hK.below hbel
 have s1:=hs1.below hbel
 have s2:=hs2.below hbel
 go_enter func101,ntmps101
 go_wp2_with (refine ae rfl 149 rfl zW ?_;(try simp only[nn,Nat.reduceAdd]))
 generalize (w.alloc (.cells (ints .u64 (zeros 2)) 149))=w1 at *
 refine(Tj g gw key iB hkb htb htl _ b.length (by omega) (.inl rfl) a1 c1 hc1 _ K1 s1).mono ?_
 rintro e w2 ⟨rfl,hb2⟩
 have B2:=B0.below' hb2
 have K2:=K1.below hb2
 have t2:=s2.below hb2
 have aB:=bC hbel hb2
 go_wp2_with fail
 refine(Uv g gw key b hkb hbb hbl a2 c2 _ K2 t2).mono ?_
 rintro e w3 ⟨rfl,hb3⟩
 have B3:=B2.below' hb3
 have aG:=bC aB hb3
 go_wp2_with fail
 refine(BP _ _ _).mono ?_
 rintro e w4 ⟨rfl,hb4⟩
 have B4:=B3.below' hb4
 have aY:=bC aG hb4
 go_wp2_with (refine aa (k:=.u64) (xs:=fJ (Mk (aU key) iB b.length+MS (aU (key.drop 16)) (eu (key.drop 32)) b)) rfl 149 _ _ rfl w.heap.size rfl rfl B4 (ah _ _) sF (dO _) ?_;(try simp only[nn,Nat.reduceAdd]))
 exact aO rfl rfl (B4.row _) sF (dO _) ⟨rfl,az aY dM _⟩
end zG
end
end Go.Proofs.YtaiffkajkbiidaaGreatDoor
