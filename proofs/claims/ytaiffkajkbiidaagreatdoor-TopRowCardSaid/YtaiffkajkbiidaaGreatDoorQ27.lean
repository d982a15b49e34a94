/- What this claim leans on, part 27: laws of the model, and what functions of the program compute. No condition but what each law states. -/
import Derived.Test.YtaiffkajkbiidaaGreatDoorQ26
namespace Go.Proofs.YtaiffkajkbiidaaGreatDoor
set_option linter.unusedSimpArgs false
set_option linter.unusedVariables false
set_option linter.unusedSectionVars false
set_option maxRecDepth 100000
set_option maxHeartbeats 40000000
section
open Go.RowKit
def zF (n:Nat)(p:List Nat×List Nat):Prop:=p.1.length=n/\p.2.length=n/\(∀x∈p.1,x<16)/\∀x∈p.2,x<16
def xN (S:Nat->List Nat->List Nat)(n j:Nat)(p:List Nat×List Nat):List Nat×List Nat:=(p.2,dS p.1 (S j p.2) n)
def DN (p:List Nat×List Nat):List Nat×List Nat:=(p.2,p.1)
def mG (S:Nat->List Nat->List Nat)(n:Nat):Nat->List Nat×List Nat->List Nat×List Nat
 | 0,p=>p
 | k+1,p=>xN S n k (mG S n k p)
def kJ (S:Nat->List Nat->List Nat)(n:Nat):Nat->List Nat×List Nat->List Nat×List Nat
 | 0,p=>p
 | k+1,p=>kJ S n k (xN S n k p)
theorem uP {a:List Nat}(s:List Nat){n:Nat}(ha:a.length=n):dS (dS a s n) s n=a:=by
 refine gX (by rw[dJ,ha]) λi hi=>?_
 rw[dJ] at hi
 rw[jf _ _ hi,jf _ _ hi,Nat.xor_assoc,Nat.xor_self,Nat.xor_zero]
theorem uQ {a b:List Nat}(ha:∀x∈a,x<16)(hb:∀x∈b,x<16)(n:Nat):∀x∈dS a b n,x<16:=λx hx=>by
 unfold dS at hx
 obtain⟨i,-,rfl⟩:=List.mem_map.1 hx
 exact Nat.xor_lt_two_pow (n:=4) (aC ha (by decide) i) (aC hb (by decide) i)
theorem Lp (S:Nat->List Nat->List Nat){n:Nat}(j:Nat){p:List Nat×List Nat}(h:p.1.length=n):xN S n j (DN (xN S n j p))=DN p:=by
 obtain⟨a,b⟩:=p
 simp only[xN,DN]
 rw[uP _ h]
theorem QL (p:List Nat×List Nat):DN (DN p)=p:=rfl
section
variable {S:Nat->List Nat->List Nat}{n:Nat}(hS:∀j x,(∀y∈x,y<16)->∀y∈S j x,y<16)
include hS
theorem Cv (j:Nat){p:List Nat×List Nat}(h:zF n p):zF n (xN S n j p):=⟨h.2.1,dJ _ _ _,h.2.2.2,uQ h.2.2.1 (hS j _ h.2.2.2) n⟩
theorem mE:∀(k:Nat) {p:List Nat×List Nat},zF n p->zF n (mG S n k p)
 | 0,_,h=>h
 | k+1,_,h=>Cv hS k (mE k h)
theorem uJ:∀(k:Nat) {p:List Nat×List Nat},zF n p->zF n (kJ S n k p)
 | 0,_,h=>h
 | k+1,_,h=>uJ k (Cv hS k h)
theorem zf:∀(k:Nat) {p:List Nat×List Nat},zF n p->kJ S n k (DN (mG S n k p))=DN p
 | 0,p,_=>rfl
 | k+1,p,h=>by
  show kJ S n k (xN S n k (DN (xN S n k (mG S n k p))))=_
  rw[Lp S k (mE hS k h).1,zf k h]
theorem xM:∀(k:Nat) {p:List Nat×List Nat},zF n p->mG S n k (DN (kJ S n k p))=DN p
 | 0,p,_=>rfl
 | k+1,p,h=>by
  show xN S n k (mG S n k (DN (kJ S n k (xN S n k p))))=_
  rw[xM k (Cv hS k h),Lp S k h.1]
end
def nX (m:List Nat):List Nat×List Nat:=(zw m 0 m.length,zw m m.length m.length)
def Oz (p:List Nat×List Nat):List Nat:=Ik (p.1++p.2)
theorem uY {n:Nat}{p:List Nat×List Nat}(h:zF n p):zF n (DN p):=⟨h.2.1,h.1,h.2.2.2,h.2.2.1⟩
theorem iU {m:List Nat}(hb:∀x∈m,x<256):zF m.length (nX m):=⟨gK _ _ _,gK _ _ _,JK hb _ _,JK hb _ _⟩
theorem wT {n:Nat}{p:List Nat×List Nat}(h:zF n p):(Oz p).length=n:=by
 unfold Oz
 rw[ui,List.length_append,h.1,h.2.1];omega
theorem Sk {n:Nat}{p:List Nat×List Nat}(h:zF n p):∀x∈Oz p,x<256:=by
 unfold Oz
 refine JH λx hx=>?_
 rcases List.mem_append.1 hx with hx|hx
 ·exact h.2.2.1 x hx
 ·exact h.2.2.2 x hx
theorem Rw {ns:List Nat}(hb:∀x∈ns,x<16){k:Nat}(hk:k<ns.length):qY (Ik ns) k=ns.getD k 0:=by
 have hq:k/2<(ns.length+1)/2:=by omega
 have e:(Ik ns).getD (k/2) 0=pG ns ns.length (k/2):=CY _ _ hq
 unfold qY
 rw[e]
 unfold pG
 have h1:=aC hb (by decide) (2*(k/2))
 have h2:=aC hb (by decide) (2*(k/2)+1)
 by_cases hp:k%2=0
 ·rw[if_pos hp]
  have e1:2*(k/2)=k:=by omega
  rw[e1] at h1 h2 ⊢
  rw[if_pos hk]
  split<;>omega
 ·rw[if_neg hp]
  have e1:2*(k/2)+1=k:=by omega
  rw[e1] at h2 ⊢
  rw[if_pos hk,if_pos (by omega)]
  omega
theorem Bi {a b:List Nat}{i:Nat}(h:i<a.length):(a++b).getD i 0=a.getD i 0:=by
 rw[List.getD_eq_getElem?_getD,List.getD_eq_getElem?_getD,List.getElem?_append_left h]
theorem Bh {a b:List Nat}{n:Nat}(h:a.length=n)(i:Nat):(a++b).getD (n+i) 0=b.getD i 0:=by
 rw[List.getD_eq_getElem?_getD,List.getD_eq_getElem?_getD,List.getElem?_append_right (by omega)]
 congr 2
 omega
theorem Le {n:Nat}{p:List Nat×List Nat}(h:zF n p):nX (Oz p)=p:=by
 obtain⟨a,b⟩:=p
 have hl:=wT h
 obtain⟨h1,h2,h3,h4⟩:=h
 simp only at h1 h2 h3 h4
 have hab:∀x∈a++b,x<16:=λx hx=>by
  rcases List.mem_append.1 hx with hx|hx
  ·exact h3 x hx
  ·exact h4 x hx
 have hll:(a++b).length=n+n:=by rw[List.length_append,h1,h2]
 unfold nX
 rw[hl]
 unfold Oz
 simp only
 congr 1
 ·refine gX (by rw[gK,h1]) λi hi=>?_
  rw[gK] at hi
  rw[uj _ _ hi,Nat.zero_add,Rw hab (by rw[hll];omega),Bi (by omega)]
 ·refine gX (by rw[gK,h2]) λi hi=>?_
  rw[gK] at hi
  rw[uj _ _ hi,Rw hab (by rw[hll];omega),Bh h1]
theorem Mf {m:List Nat}(hb:∀x∈m,x<256):Oz (nX m)=m:=by
 have hl:=wT (iU hb)
 refine gX hl λi hi=>?_
 rw[hl] at hi
 have hll:(zw m 0 m.length++zw m m.length m.length).length=m.length+m.length:=by rw[List.length_append,gK,gK]
 have key:∀k,k<m.length+m.length->(zw m 0 m.length++zw m m.length m.length).getD k 0=qY m k:=λk hk=>by
  by_cases h:k<m.length
  ·rw[Bi (by rw[gK];exact h),uj _ _ h,Nat.zero_add]
  ·obtain⟨j,rfl⟩:∃j,k=m.length+j:=⟨k-m.length,by omega⟩
   rw[Bh (gK _ _ _),uj _ _ (by omega)]
 show (Ik (zw m 0 m.length++zw m m.length m.length)).getD i 0=_
 unfold Ik
 rw[hll,CY _ _ (by omega)]
 unfold pG
 rw[if_pos (by omega),if_pos (by omega),key _ (by omega),key _ (by omega)]
 unfold qY
 rw[if_pos (by omega),if_neg (by omega),show 2*i/2=i by omega,show (2*i+1)/2=i by omega]
 omega
def zV (S:Nat->List Nat->List Nat)(m:List Nat):List Nat:=Oz (DN (mG S m.length 8 (nX m)))
def zX (S:Nat->List Nat->List Nat)(m:List Nat):List Nat:=Oz (DN (kJ S m.length 8 (nX m)))
section
variable {S:Nat->List Nat->List Nat}(hS:∀j x,(∀y∈x,y<16)->∀y∈S j x,y<16)
include hS
theorem Gy {m:List Nat}(hb:∀x∈m,x<256):(zV S m).length=m.length:=wT (uY (mE hS 8 (iU hb)))
theorem GH {m:List Nat}(hb:∀x∈m,x<256):(zX S m).length=m.length:=wT (uY (uJ hS 8 (iU hb)))
theorem XE {m:List Nat}(hb:∀x∈m,x<256):∀x∈zV S m,x<256:=Sk (uY (mE hS 8 (iU hb)))
theorem XJ {m:List Nat}(hb:∀x∈m,x<256):∀x∈zX S m,x<256:=Sk (uY (uJ hS 8 (iU hb)))
theorem OZ {m:List Nat}(hb:∀x∈m,x<256):zX S (zV S m)=m:=by
 have h1:=uY (mE hS 8 (iU hb))
 unfold zX
 rw[Gy hS hb]
 unfold zV
 rw[Le h1,zf hS 8 (iU hb),QL,Mf hb]
theorem OX {m:List Nat}(hb:∀x∈m,x<256):zV S (zX S m)=m:=by
 have h1:=uY (uJ hS 8 (iU hb))
 unfold zV
 rw[GH hS hb]
 unfold zX
 rw[Le h1,xM hS 8 (iU hb),QL,Mf hb]
end
end
section
open Go.RowKit
def aW (E:Nat->Nat->List Nat->List Nat)(F:List Nat)(i:Nat):List Nat:=fK [pA F i,E 1 (i+1) (pB F i)]
def aX (E:Nat->Nat->List Nat->List Nat)(F:List Nat)(i:Nat):List Nat:=fK [pB F i,E 0 0 (aW E F i)]
def bY (E:Nat->Nat->List Nat->List Nat)(z:List Nat)(i:Nat)(w:List Nat):List Nat:=fK [w,E 2 (i+1) z]
def bS (E:Nat->Nat->List Nat->List Nat)(z:List Nat)(i:Nat)(w x:List Nat):List Nat:=fK [bY E z i w,E 0 0 (bY E z i x)]
def bF (E:Nat->Nat->List Nat->List Nat)(z:List Nat)(i:Nat)(w x:List Nat):List Nat:=fK [bY E z i x,E 1 (i+1) (bS E z i w x)]
theorem MW (E:Nat->Nat->List Nat->List Nat)(z:List Nat)(i:Nat){w:List Nat}(hw:w.length=16):bY E z i (bY E z i w)=w:=iW hw
theorem UE (E:Nat->Nat->List Nat->List Nat)(z:List Nat)(i:Nat)(w:List Nat):(bY E z i w).length=16:=bI _
def cP (E:Nat->Nat->List Nat->List Nat)(z:List Nat)(F:List Nat)(i:Nat):List Nat×List Nat:=(bF E z i (aW E F i) (aX E F i),bS E z i (aW E F i) (aX E F i))
theorem yV (E:Nat->Nat->List Nat->List Nat)(z F:List Nat):∀i,(cP E z F i).1.length=16/\(cP E z F i).2.length=16:=λi=>⟨bI _,bI _⟩
theorem DK (E:Nat->Nat->List Nat->List Nat)(z F:List Nat){i n:Nat}(hi:i<n):aW E (jd (cP E z F) n) i=bY E z i (aX E F i):=by
 unfold aW
 rw[Rp (yV E z F) hi,Ro (yV E z F) hi]
 exact iW (UE _ _ _ _)
theorem Ni (E:Nat->Nat->List Nat->List Nat)(z F:List Nat){i n:Nat}(hi:i<n):aX E (jd (cP E z F) n) i=bY E z i (aW E F i):=by
 unfold aX
 rw[DK E z F hi,Ro (yV E z F) hi]
 exact iW (UE _ _ _ _)
theorem XT (E:Nat->Nat->List Nat->List Nat)(z:List Nat){F:List Nat}{i n:Nat}(hF:F.length=32*n)(hi:i<n):cP E z (jd (cP E z F) n) i=(pA F i,pB F i):=by
 have hw:(aW E F i).length=16:=bI _
 have hx:(aX E F i).length=16:=bI _
 show (bF E z i (aW E (jd (cP E z F) n) i) (aX E (jd (cP E z F) n) i),bS E z i (aW E (jd (cP E z F) n) i) (aX E (jd (cP E z F) n) i))=_
 rw[DK E z F hi,Ni E z F hi]
 have hS:bS E z i (bY E z i (aX E F i)) (bY E z i (aW E F i))=pB F i:=by
  unfold bS
  rw[MW E z i hx,MW E z i hw]
  exact iW (Js hF hi)
 have hF2:bF E z i (bY E z i (aX E F i)) (bY E z i (aW E F i))=pA F i:=by
  unfold bF
  rw[hS,MW E z i hw]
  exact iW (Jt hF hi)
 rw[hS,hF2]
theorem XR (E:Nat->Nat->List Nat->List Nat)(z:List Nat){F:List Nat}{n:Nat}(hF:F.length=32*n):jd (cP E z (jd (cP E z F) n)) n=F:=by
 rw[vD λi hi=>XT E z hF hi]
 exact abx hF
def cT (Ma:List Nat->List Nat)(s y:List Nat):List Nat:=fK [y,Ma s]
theorem Bd {x:List Nat}(h p e:List Nat)(hx:x.length=16):fK [fK [x,h,p,e],h,p,e]=x:=Gx (bI _) hx λi hi=>by
 rw[lh hi]
 simp only[xg,List.foldl_cons,List.foldl_nil,lh hi,Nat.zero_xor]
 generalize x.getD i 0=a
 generalize h.getD i 0=b
 generalize p.getD i 0=c
 generalize e.getD i 0=d
 refine Nat.eq_of_testBit_eq λj=>?_
 simp only[Nat.testBit_xor]
 cases a.testBit j<;>cases b.testBit j<;>cases c.testBit j<;>cases d.testBit j<;>rfl
theorem OI (a b:List Nat):fK [a,b]=fK [b,a]:=Gx (bI _) (bI _) λi hi=>by
 rw[lh hi,lh hi]
 simp only[xg,List.foldl_cons,List.foldl_nil,Nat.zero_xor]
 exact Nat.xor_comm _ _
def mF (m:List Nat):List Nat:=m.take (32*qH m.length)
def mU (m:List Nat):List Nat:=(m.drop (32*qH m.length)).take (DJ m.length)
def mV (m:List Nat):List Nat:=(m.drop (32*qH m.length+DJ m.length)).take (UG m.length)
def mX (m:List Nat):List Nat:=(m.drop (m.length-32)).take 16
def mY (m:List Nat):List Nat:=(m.drop (m.length-16)).take 16
def zY (E:Nat->Nat->List Nat->List Nat)(tl:List Nat->List Nat->List Nat)(h:List Nat)(a:Nat)(m:List Nat):List Nat :=
 fK [mX m,h,fK [jc (aX E (mF m)) (qH m.length),tl (mU m) (mV m)],E 0 a (mY m)]
def Qb (M:Nat->List Nat->List Nat)(a:Nat)(s y:List Nat):List Nat:=fK [y,M a s]
def abG (M:Nat->List Nat->List Nat)(z u:List Nat):List Nat:=dS u (M 4 z) u.length
def abF (M:Nat->List Nat->List Nat)(z v:List Nat):List Nat:=dS v (M 5 z) v.length
def abH (E:Nat->Nat->List Nat->List Nat)(M:Nat->List Nat->List Nat)(tl:List Nat->List Nat->List Nat)(z m:List Nat):List Nat :=
 fK [jc (λi=>bY E z i (aW E (mF m) i)) (qH m.length),tl (abG M z (mU m)) (abF M z (mV m))]
def Zp (M:Nat->List Nat->List Nat)(b:Nat)(s t:List Nat):List Nat:=fK [s,M b t]
def coX (E:Nat->Nat->List Nat->List Nat)(h q:List Nat)(b:Nat)(t y:List Nat):List Nat:=fK [t,h,q,E 0 b y]
def uF (E:Nat->Nat->List Nat->List Nat)(M:Nat->List Nat->List Nat)(tl:List Nat->List Nat->List Nat)(h:List Nat)(b:Nat)(m s t z:List Nat):List Nat :=
 jd (cP E z (mF m)) (qH m.length)++abG M z (mU m)++abF M z (mV m)++coX E h (abH E M tl z m) b t (Zp M b s t)++Zp M b s t
def Qc (E:Nat->Nat->List Nat->List Nat)(M:Nat->List Nat->List Nat)(tl:List Nat->List Nat->List Nat)(h:List Nat)(a b:Nat)(m:List Nat):List Nat :=
 uF E M tl h b m (zY E tl h a m) (Qb M a (zY E tl h a m) (mY m)) (fK [zY E tl h a m,Qb M a (zY E tl h a m) (mY m)])
theorem sH {L:Nat}(h:32<=L):32*qH L+DJ L+UG L+32=L:=by unfold UG DJ qH;omega
theorem AB {P U V X Y:List Nat}{L:Nat}(hP:P.length=32*qH L)(hU:U.length=DJ L)(hV:V.length=UG L)(hX:X.length=16)(hY:Y.length=16)(h:32<=L):(P++U++V++X++Y).length=L:=by
 have:=sH h
 simp only[List.length_append];omega
theorem parts {P U V X Y:List Nat}{L:Nat}(hP:P.length=32*qH L)(hU:U.length=DJ L)(hV:V.length=UG L)(hX:X.length=16)(hY:Y.length=16)(h:32<=L) :
  mF (P++U++V++X++Y)=P/\mU (P++U++V++X++Y)=U/\mV (P++U++V++X++Y)=V/\mX (P++U++V++X++Y)=X/\mY (P++U++V++X++Y)=Y:=by
 have hl:=AB hP hU hV hX hY h
 have hs:=sH h
 unfold mF mU mV mX mY
 rw[hl]
 refine⟨?_,?_,?_,?_,?_⟩
 ·rw[List.append_assoc,List.append_assoc,List.append_assoc,←hP,List.take_left]
 ·rw[List.append_assoc,List.append_assoc,List.append_assoc,←hP,List.drop_left,←hU,List.take_left]
 ·rw[List.append_assoc,List.append_assoc,show 32*qH L+DJ L=(P++U).length by rw[List.length_append,hP,hU],List.drop_left,←hV,List.take_left]
 ·rw[List.append_assoc,show L-32=(P++U++V).length by simp only[List.length_append];omega,List.drop_left,←hX,List.take_left]
 ·rw[show L-16=(P++U++V++X).length by simp only[List.length_append];omega,List.drop_left,List.take_of_length_le (by omega)]
theorem RQ {m:List Nat}(h:32<=m.length):(mF m).length=32*qH m.length:=by have:=sH h;unfold mF;rw[List.length_take];omega
theorem JE {m:List Nat}(h:32<=m.length):(mU m).length=DJ m.length:=by have:=sH h;unfold mU;rw[List.length_take,List.length_drop];omega
theorem JD {m:List Nat}(h:32<=m.length):(mV m).length=UG m.length:=by have:=sH h;unfold mV;rw[List.length_take,List.length_drop];omega
theorem CR {m:List Nat}(h:32<=m.length):(mX m).length=16:=by unfold mX;rw[List.length_take,List.length_drop];omega
theorem CQ {m:List Nat}(h:32<=m.length):(mY m).length=16:=by unfold mY;rw[List.length_take,List.length_drop];omega
theorem Oi {m:List Nat}(h:32<=m.length):mF m++mU m++mV m++mX m++mY m=m:=by
 have hs:=sH h
 have e1:mF m++mU m=m.take (32*qH m.length+DJ m.length):=by unfold mF mU;rw[←List.take_add]
 have e2:m.take (32*qH m.length+DJ m.length)++mV m=m.take (m.length-32):=by unfold mV;rw[←List.take_add];congr 1;omega
 have e3:m.take (m.length-32)++mX m=m.take (m.length-16):=by unfold mX;rw[←List.take_add];congr 1;omega
 have e4:m.take (m.length-16)++mY m=m:=by unfold mY;rw[←List.take_add,List.take_of_length_le (by omega)]
 rw[e1,e2,e3,e4]
theorem MM (M:Nat->List Nat->List Nat)(z u:List Nat):(abG M z u).length=u.length:=dJ _ _ _
theorem ML (M:Nat->List Nat->List Nat)(z v:List Nat):(abF M z v).length=v.length:=dJ _ _ _
section
variable (E:Nat->Nat->List Nat->List Nat)(M:Nat->List Nat->List Nat)(tl:List Nat->List Nat->List Nat)(h:List Nat)
theorem MN (a b:Nat){m:List Nat}(hm:32<=m.length):(Qc E M tl h a b m).length=m.length :=
 AB (jP (yV _ _ _) _) ((MM _ _ _).trans (JE hm)) ((ML _ _ _).trans (JD hm)) (bI _) (bI _) hm
theorem GL (a b:Nat){m:List Nat}(hm:32<=m.length):Qc E M tl h b a (Qc E M tl h a b m)=m:=by
 have hL:=MN E M tl h a b hm
 obtain⟨s,Hs⟩:∃s,s=zY E tl h a m:=⟨_,rfl⟩
 obtain⟨t,Ht⟩:∃t,t=Qb M a s (mY m):=⟨_,rfl⟩
 obtain⟨z,Hz⟩:∃z,z=fK [s,t]:=⟨_,rfl⟩
 have hO:Qc E M tl h a b m=uF E M tl h b m s t z:=by unfold Qc;rw[Hz,Ht,Hs]
 obtain⟨p1,p2,p3,p4,p5⟩:=parts (jP (yV E z (mF m)) (qH m.length)) ((MM M z _).trans (JE hm)) ((ML M z _).trans (JD hm)) (bI [t,h,abH E M tl z m,E 0 b (Zp M b s t)]) (bI [s,M b t]) hm
 have q1:mF (uF E M tl h b m s t z)=jd (cP E z (mF m)) (qH m.length):=p1
 have q2:mU (uF E M tl h b m s t z)=abG M z (mU m):=p2
 have q3:mV (uF E M tl h b m s t z)=abF M z (mV m):=p3
 have q4:mX (uF E M tl h b m s t z)=coX E h (abH E M tl z m) b t (Zp M b s t):=p4
 have q5:mY (uF E M tl h b m s t z)=Zp M b s t:=p5
 have hls:s.length=16:=by rw[Hs];exact bI _
 have hlt:t.length=16:=by rw[Ht];exact bI _
 rw[hO] at hL ⊢
 generalize uF E M tl h b m s t z=o at *
 have hF:=RQ hm
 have hx:jc (aX E (mF o)) (qH o.length)=jc (λi=>bY E z i (aW E (mF m) i)) (qH m.length):=by
  rw[hL,q1]
  exact qg λi hi=>Ni E z (mF m) hi
 have hw:jc (λi=>bY E z i (aW E (mF o) i)) (qH o.length)=jc (aX E (mF m)) (qH m.length):=by
  rw[hL,q1]
  exact qg λi hi=>by rw[DK E z (mF m) hi];exact MW E z i (bI _)
 have hs:zY E tl h b o=t:=by
  unfold zY
  rw[hx,q2,q3,q4,q5]
  exact Bd _ _ _ hlt
 have ht:Qb M b t (mY o)=s:=by
  unfold Qb
  rw[q5]
  exact iW hls
 have hU:abG M z (mU o)=mU m:=by
  rw[q2]
  unfold abG
  rw[dJ]
  exact uP _ rfl
 have hV:abF M z (mV o)=mV m:=by
  rw[q3]
  unfold abF
  rw[dJ]
  exact uP _ rfl
 have hQ:abH E M tl z o=fK [jc (aX E (mF m)) (qH m.length),tl (mU m) (mV m)]:=by
  unfold abH
  rw[hw,hU,hV]
 have hY:Zp M a t s=mY m:=by
  unfold Zp
  rw[Ht]
  exact iW (CQ hm)
 have hX:coX E h (abH E M tl z o) a s (mY m)=mX m:=by
  unfold coX
  rw[hQ,Hs]
  exact Bd _ _ _ (CR hm)
 have hP:jd (cP E z (mF o)) (qH o.length)=mF m:=by
  rw[hL,q1]
  exact XR E z hF
 unfold Qc
 rw[hs,ht,OI t s,←Hz]
 unfold uF
 rw[hP,hU,hV,hY,hX]
 exact Oi hm
end
end
section
open Go.RowKit
def B8 (xs:List Nat):Prop:=∀x∈xs,x<256
theorem B8.app {a b:List Nat}(ha:B8 a)(hb:B8 b):B8 (a++b):=λx hx=>(List.mem_append.1 hx).elim (ha x) (hb x)
theorem B8.hc {ks:List (List Nat)}(h:∀k∈ks,B8 k):B8 (fK ks):=dE _ _ (dh 16 (by decide)) h
theorem B8.hc2 {a b:List Nat}(ha:B8 a)(hb:B8 b):B8 (fK [a,b]):=B8.hc (dz (p:=B8) ha hb)
theorem B8.hc4 {a b c d:List Nat}(ha:B8 a)(hb:B8 b)(hc:B8 c)(hd:B8 d):B8 (fK [a,b,c,d]):=B8.hc λk hk=>by
 simp only[List.mem_cons,List.not_mem_nil,or_false] at hk
 rcases hk with rfl|rfl|rfl|rfl<;>assumption
theorem B8.take {a:List Nat}(h:B8 a)(n:Nat):B8 (a.take n):=λx hx=>h x (List.mem_of_mem_take hx)
theorem B8.drop {a:List Nat}(h:B8 a)(n:Nat):B8 (a.drop n):=λx hx=>h x (List.mem_of_mem_drop hx)
section
variable {E:Nat->Nat->List Nat->List Nat}{M:Nat->List Nat->List Nat}{tl:List Nat->List Nat->List Nat}{h:List Nat}(hE:∀j i x,B8 x->B8 (E j i x))(hM:∀i x,B8 x->B8 (M i x))(htl:∀u v,B8 u->B8 v->B8 (tl u v))(hh:B8 h)
include hE
theorem BM {F:List Nat}(hF:B8 F)(i:Nat):B8 (aW E F i):=B8.hc2 (Ff hF i) (hE _ _ _ (AL hF i))
theorem Ib {F:List Nat}(hF:B8 F)(i:Nat):B8 (aX E F i):=B8.hc2 (AL hF i) (hE _ _ _ (BM hE hF i))
theorem GU {z w:List Nat}(hz:B8 z)(hw:B8 w)(i:Nat):B8 (bY E z i w):=B8.hc2 hw (hE _ _ _ hz)
theorem Zt {z w x:List Nat}(hz:B8 z)(hw:B8 w)(hx:B8 x)(i:Nat):B8 (bS E z i w x):=B8.hc2 (GU hE hz hw i) (hE _ _ _ (GU hE hz hx i))
theorem agp {z w x:List Nat}(hz:B8 z)(hw:B8 w)(hx:B8 x)(i:Nat):B8 (bF E z i w x):=B8.hc2 (GU hE hz hx i) (hE _ _ _ (Zt hE hz hw hx i))
theorem age {z F:List Nat}(hz:B8 z)(hF:B8 F)(i:Nat):B8 (cP E z F i).1/\B8 (cP E z F i).2:=⟨agp hE hz (BM hE hF i) (Ib hE hF i) i,Zt hE hz (BM hE hF i) (Ib hE hF i) i⟩
include hM htl hh
theorem abI (a b:Nat){m:List Nat}(hm:B8 m):B8 (Qc E M tl h a b m):=by
 have hF:B8 (mF m):=hm.take _
 have hU:B8 (mU m):=(hm.drop _).take _
 have hV:B8 (mV m):=(hm.drop _).take _
 have hX:B8 (mX m):=(hm.drop _).take _
 have hY:B8 (mY m):=(hm.drop _).take _
 have hs:B8 (zY E tl h a m):=B8.hc4 hX hh (B8.hc2 (rF (Ib hE hF) _) (htl _ _ hU hV)) (hE _ _ _ hY)
 have ht:B8 (Qb M a (zY E tl h a m) (mY m)):=B8.hc2 hY (hM _ _ hs)
 have hz:B8 (fK [zY E tl h a m,Qb M a (zY E tl h a m) (mY m)]):=B8.hc2 hs ht
 have hU':B8 (abG M (fK [zY E tl h a m,Qb M a (zY E tl h a m) (mY m)]) (mU m)):=sM hU (hM _ _ hz) _
 have hV':B8 (abF M (fK [zY E tl h a m,Qb M a (zY E tl h a m) (mY m)]) (mV m)):=sM hV (hM _ _ hz) _
 have hy':B8 (Zp M b (zY E tl h a m) (Qb M a (zY E tl h a m) (mY m))):=B8.hc2 hs (hM _ _ ht)
 have hq:B8 (abH E M tl (fK [zY E tl h a m,Qb M a (zY E tl h a m) (mY m)]) m):=B8.hc2 (rF (λi=>GU hE hz (BM hE hF i) i) _) (htl _ _ hU' hV')
 have hP:B8 (jd (cP E (fK [zY E tl h a m,Qb M a (zY E tl h a m) (mY m)]) (mF m)) (qH m.length)):=Kl (λi=>age hE hz hF i) _
 exact(((hP.app hU').app hV').app (B8.hc4 ht hh hq (hE _ _ _ hy'))).app hy'
end
end
section
open Go.RowKit
structure mW (T:TypeId)(w w':World):Prop where
 size:w.heap.size<=w'.heap.size
 keep:∀(g:Nat) (cs:Array Value) (t:TypeId) (fr:Nat×Nat),w.heap[g]?=some (.cells cs t fr)->t≠T->w'.heap[g]?=some (.cells cs t fr)
theorem mW.trans {T:TypeId}{a b c:World}(h:mW T a b)(h':mW T b c):mW T a c:=⟨Nat.le_trans h.size h'.size,λg cs t fr h1 h2=>h'.keep g cs t fr (h.keep g cs t fr h1 h2) h2⟩
theorem mW.of_below {T:TypeId}{w w':World}(h:Below w.heap.size w w'):mW T w w':=⟨h.size,λg cs t fr h1 _=>(h.block g (Array.getElem?_eq_some_iff.1 h1).1).trans h1⟩
theorem mW.YN {T:TypeId}{w w':World}{g:Nat}(h:Ch g w w'){old:Array Value}(hb:aA w g T old):mW T w w':=⟨h.size,λg' cs t fr h1 h2=>by
 refine(h.heap g' (Array.getElem?_eq_some_iff.1 h1).1 λe=>?_).trans h1
 subst e
 unfold aA at hb
 rw[hb] at h1
 injection h1 with h1
 injection h1 with _ h1
 exact h2 h1.symm⟩
theorem mW.blk {T:TypeId}{w w':World}(h:mW T w w'){g t:Nat}{cs:Array Value}(hb:aA w g t cs)(hne:t≠T):aA w' g t cs:=h.keep g cs t _ hb hne
theorem dD.open_ {w:World}{B e m n:Nat}{k:IntKind}{v:Value}{xs:List Nat}(h:dD w B e m k v n xs)(hn:0<n):∃g cap rest,v=.slice (some ⟨g,0,none⟩) n cap/\B<=g/\aA w g e (vals k xs++rest).toArray/\∀(w':World) (ys:List Nat),ys.length=xs.length->aA w' g e (vals k ys++rest).toArray->dD w' B e m k v n ys:=by
 obtain⟨h1,h2⟩:=h
 rw[bg] at h1
 rcases h2 with ⟨-,h2⟩|⟨g,cap,cur,rfl,hg,hh,hc,hm,hs,ht⟩
 ·omega
 ·have aeX:cur=(vals k xs++cur.toList.drop (n*m)).toArray:=by
   apply Array.ext'
   simp only[List.toList_toArray]
   rw[←ht,List.take_append_drop]
  refine⟨g,cap,cur.toList.drop (n*m),rfl,hg,?_,?_⟩
  ·unfold aA
   rw[←aeX]
   exact hh
  ·intro w' ys hl hb
   refine⟨by rw[bg,hl,h1],.inr ⟨g,cap,_,rfl,hg,hb,hc,hm,?_,?_⟩⟩
   ·have e1:(vals k ys++cur.toList.drop (n*m)).toArray.size=cur.size:=by
     conv=>rhs;rw[aeX]
     simp[bg,hl]
    rw[e1]
    exact hs
   ·show (vals k ys++cur.toList.drop (n*m)).toArray.toList.take (n*m)=_
    rw[List.toList_toArray,←h1,←hl,←bg k ys,List.take_left]
end
section
open Go.RowKit
theorem jq (k:IntKind)(xs ys:List Nat):vals k (xs++ys)=vals k xs++vals k ys:=by simp[vals]
def PV (v:Value)(W:World):Prop:=v=undef∨∃g,v=.pointer (some ⟨g,0,none⟩)/\g<W.heap.size
theorem PV.mono {v:Value}{W W':World}(h:PV v W)(hs:W.heap.size<=W'.heap.size):PV v W':=h.imp id λ⟨g,h1,h2⟩=>⟨g,h1,Nat.lt_of_lt_of_le h2 hs⟩
def qQ (w0:World)(T a b:Nat)(c1 c2:Array Value)(k:Nat)(e:Nat->Value)(W:World):Prop :=
 Below w0.heap.size w0 W/\(k=0->PV (e a) W/\PV (e b) W/\(e a=e b->e a=undef)) /\
 (k=1->∃g h,e a=.pointer (some ⟨g,0,none⟩)/\e b=.pointer (some ⟨h,0,none⟩)/\g≠h/\w0.heap.size<=g/\w0.heap.size<=h/\aA W g T c1) /\
 (k=2->∃g h,e a=.pointer (some ⟨g,0,none⟩)/\e b=.pointer (some ⟨h,0,none⟩)/\g≠h/\w0.heap.size<=g/\w0.heap.size<=h/\aA W g T c1/\aA W h T c2)
section
variable {w0 W:World}{T a b:Nat}{c1 c2:Array Value}{e:Nat->Value}
theorem qQ.start (w0:World)(T a b:Nat)(c1 c2:Array Value):qQ w0 T a b c1 c2 0 (λ_=>undef) w0.drew:=⟨dQ _,λ_=>⟨.inl rfl,.inl rfl,λ_=>rfl⟩,λh=>absurd h (by decide),λh=>absurd h (by decide)⟩
theorem qQ.lN (k:Nat)(e:Nat->Value)(W W':World)(h:qQ w0 T a b c1 c2 k e W)(hb:Below W.heap.size W W'):qQ w0 T a b c1 c2 k e W' :=
 ⟨dx h.1 hb h.1.size,λhk=>let ⟨h1,h2,h3⟩:=h.2.1 hk;⟨h1.mono hb.size,h2.mono hb.size,h3⟩,λhk=>let ⟨g,q,h1,h2,h3,h4,h5,h6⟩:=h.2.2.1 hk;⟨g,q,h1,h2,h3,h4,h5,h6.below' hb⟩,λhk=>let ⟨g,q,h1,h2,h3,h4,h5,h6,h7⟩:=h.2.2.2 hk;⟨g,q,h1,h2,h3,h4,h5,h6.below' hb,h7.below' hb⟩⟩
theorem qQ.Ws (h:qQ w0 T a b c1 c2 0 e W){e':Nat->Value}{cs:Array Value}{t:TypeId}(ha:e' a=.pointer (some ⟨W.heap.size,0,none⟩))(hb:e' b=e b):qQ w0 T a b c1 c2 0 e' (W.alloc (.cells cs t)):=by
 obtain⟨-,h2,-⟩:=h.2.1 rfl
 refine⟨h.1.alloc h.1.size _,λ_=>⟨.inr ⟨W.heap.size,ha,by rw[World.size_alloc];omega⟩,?_,λe1=>?_⟩,λh=>absurd h (by decide),λh=>absurd h (by decide)⟩
 ·rw[hb]
  exact h2.mono (by rw[World.size_alloc];omega)
 ·rw[ha,hb] at e1
  rcases h2 with h2|⟨g,h2,h3⟩
  ·rw[h2] at e1;cases e1
  ·rw[h2] at e1
   injection e1 with e1
   injection e1 with e1
   injection e1 with e1
   omega
theorem qQ.Wq (h:qQ w0 T a b c1 c2 0 e W){e':Nat->Value}{cs:Array Value}{t:TypeId}(hb:e' b=.pointer (some ⟨W.heap.size,0,none⟩))(ha:e' a=e a):qQ w0 T a b c1 c2 0 e' (W.alloc (.cells cs t)):=by
 obtain⟨h2,-,-⟩:=h.2.1 rfl
 refine⟨h.1.alloc h.1.size _,λ_=>⟨?_,.inr ⟨W.heap.size,hb,by rw[World.size_alloc];omega⟩,λe1=>?_⟩,λh=>absurd h (by decide),λh=>absurd h (by decide)⟩
 ·rw[ha]
  exact h2.mono (by rw[World.size_alloc];omega)
 ·rw[hb,ha] at e1
  rcases h2 with h2|⟨g,h2,h3⟩
  ·rw[h2] at e1;cases e1
  ·rw[h2] at e1
   injection e1 with e1
   injection e1 with e1
   injection e1 with e1
   omega
theorem qQ.ads (h:qQ w0 T a b c1 c2 0 e W){g q:Nat}{old:Array Value}(ha:e a=.pointer (some ⟨g,0,none⟩))(hb:e b=.pointer (some ⟨q,0,none⟩))(hg:w0.heap.size<=g)(hq:w0.heap.size<=q)(hB:aA W g T old):qQ w0 T a b c1 c2 1 e (W.setRow g c1):=by
 obtain⟨-,-,h3⟩:=h.2.1 rfl
 refine⟨az h.1 hg _,λh=>absurd h (by decide),λ_=>⟨g,q,ha,hb,λe1=>?_,hg,hq,hB.row _⟩,λh=>absurd h (by decide)⟩
 subst e1
 have h4:=h3 (ha.trans hb.symm)
 rw[ha] at h4
 cases h4
theorem qQ.adr (h:qQ w0 T a b c1 c2 1 e W){q:Nat}{old:Array Value}(hb:e b=.pointer (some ⟨q,0,none⟩))(hB:aA W q T old):qQ w0 T a b c1 c2 2 e (W.setRow q c2):=by
 obtain⟨g,q',h1,h2,h3,h4,h5,h6⟩:=h.2.2.1 rfl
 obtain rfl:q'=q:=by
  rw[h2] at hb
  injection hb with hb
  injection hb with hb
  injection hb with hb
 exact⟨az h.1 h5 _,λh=>absurd h (by decide),λh=>absurd h (by decide),λ_=>⟨g,q',h1,h2,h3,h4,h5,h6.aM h3 _,hB.row _⟩⟩
theorem qQ.done (h:qQ w0 T a b c1 c2 2 e W):Below w0.heap.size w0 W/\∃g h,e a=.pointer (some ⟨g,0,none⟩)/\e b=.pointer (some ⟨h,0,none⟩)/\g≠h/\w0.heap.size<=g/\w0.heap.size<=h/\aA W g T c1/\aA W h T c2:=⟨h.1,h.2.2.2 rfl⟩
end
theorem aA.gU {w:World}{g g' t t':Nat}{cs cs':Array Value}(h:aA w g t cs)(h':aA w g' t' cs')(hne:t≠t'):g≠g':=λe=>by
 subst e
 unfold aA at h h'
 rw[h] at h'
 injection h' with h'
 injection h' with _ h'
 exact hne h'
theorem mW.xL {T:TypeId}{w w':World}(h:mW T w w'){g:Nat}(hg:w.heap.size<=g)(cs:Array Value):mW T w (w'.setRow g cs):=⟨by rw[setRow_size];exact h.size,λg' c t fr h1 h2=>by
 have h3:=(Array.getElem?_eq_some_iff.1 h1).1
 exact(setRow_other _ _ _ _ (show g'≠g by omega)).trans (h.keep g' c t fr h1 h2)⟩
theorem dD.aM {w:World}{B e m n:Nat}{k:IntKind}{v:Value}{xs:List Nat}(h:dD w B e m k v n xs){g t:Nat}{cs:Array Value}(hb:aA w g t cs)(hne:t≠e)(cs':Array Value):dD (w.setRow g cs') B e m k v n xs:=by
 obtain⟨h1,h2⟩:=h
 refine⟨h1,h2.imp id ?_⟩
 rintro ⟨g',cap,cur,hv,hg,hh,r⟩
 have hh':aA w g' e cur:=hh
 exact⟨g',cap,cur,hv,hg,hh'.aM (hb.gU hh' hne).symm cs',r⟩
theorem RB.far {B g:Nat}{W W':World}(hF:iG g W W')(hg:g<B):RB B W W':=λg' _ _ h1 h=>hF.blk h (λe=>by omega)
def RA (T0 n:Nat)(W W':World):Prop:=∀(g:Nat) (cs:Array Value),aA W g T0 cs->(cs.size≠n->aA W' g T0 cs)/\∃cs',cs'.size=cs.size/\aA W' g T0 cs'
theorem RA.refl (T0 n:Nat)(W:World):RA T0 n W W:=λg cs h=>⟨λ_=>h,cs,rfl,h⟩
theorem RA.below {T0 n:Nat}{W W':World}(hb:Below W.heap.size W W'):RA T0 n W W':=λg cs h=>⟨λ_=>h.below' hb,cs,rfl,h.below' hb⟩
theorem RA.cht {T T0 n:Nat}{W W':World}(hc:mW T W W')(hne:T0≠T):RA T0 n W W':=λg cs h=>⟨λ_=>hc.blk h hne,cs,rfl,hc.blk h hne⟩
theorem RA.row {T0 n:Nat}{W:World}{g:Nat}{old cs:Array Value}(h:aA W g T0 old)(hn:old.size=n)(hs:cs.size=old.size):RA T0 n W (W.setRow g cs):=λg' c h'=>by
 by_cases e:g'=g
 ·subst e
  have e2:c=old:=by
   unfold aA at h h'
   rw[h] at h'
   injection h' with h'
   injection h' with h'
   exact h'.symm
  subst e2
  exact⟨λq=>absurd hn q,cs,hs,h'.row cs⟩
 ·exact⟨λ_=>h'.aM e cs,c,rfl,h'.aM e cs⟩
theorem NP.ra {B n m:Nat}{T:TypeId}{W W':World}{v:Value}(h:NP B T n W v)(hR:RA T m W W'):NP B T n W' v:=by
 obtain⟨g,cs,h1,h2,h3,h4⟩:=h
 obtain⟨-,cs',h5,h6⟩:=hR g cs h4
 exact⟨g,cs',h1,h2,h5.trans h3,h6⟩
theorem NS.ra {B n m:Nat}{T:TypeId}{cs:Array Value}{W W':World}{v:Value}(h:NS B T n cs W v)(hR:RA T m W W')(hne:cs.size≠m):NS B T n cs W' v:=by
 obtain⟨g,h1,h2,h3⟩:=h
 exact⟨g,h1,h2,(hR g cs h3).1 hne⟩
def SA (wb w0:World)(T m n:Nat)(ps:Value)(F F':List Nat)(T1 d:Nat)(cs:Array Value)(k:Nat)(e:Nat->Value)(W:World):Prop :=
 Below wb.heap.size wb W/\mW T w0 W/\dD W wb.heap.size T m .u8 ps n (if k=0 then F else F')/\(k=2->∃g,e d=.pointer (some ⟨g,0,none⟩)/\w0.heap.size<=g/\aA W g T1 cs)
section
variable {wb w0 W:World}{T m n T1 d:Nat}{ps:Value}{F F':List Nat}{cs:Array Value}{e:Nat->Value}
theorem SA.start (hb:Below wb.heap.size wb w0)(ho:dD w0 wb.heap.size T m .u8 ps n F)(e:Nat->Value):SA wb w0 T m n ps F F' T1 d cs 0 e w0.drew:=⟨bC hb (dQ _),mW.of_below (dQ _),ho.below (dQ _),λh=>absurd h (by decide)⟩
theorem SA.lN (k:Nat)(e:Nat->Value)(W W':World)(h:SA wb w0 T m n ps F F' T1 d cs k e W)(hb:Below W.heap.size W W'):SA wb w0 T m n ps F F' T1 d cs k e W' :=
 ⟨dx h.1 hb h.1.size,h.2.1.trans (mW.of_below hb),h.2.2.1.below hb,λhk=>let ⟨g,h1,h2,h3⟩:=h.2.2.2 hk;⟨g,h1,h2,h3.below' hb⟩⟩
theorem SA.own0 (h:SA wb w0 T m n ps F F' T1 d cs 0 e W):dD W wb.heap.size T m .u8 ps n F:=h.2.2.1
theorem SA.turn (h:SA wb w0 T m n ps F F' T1 d cs 0 e W){W':World}(ho:dD W' wb.heap.size T m .u8 ps n F')(hb:Below wb.heap.size wb W')(hc:mW T W W'):SA wb w0 T m n ps F F' T1 d cs 1 e W':=⟨hb,h.2.1.trans hc,ho,λh=>absurd h (by decide)⟩
theorem SA.set (h:SA wb w0 T m n ps F F' T1 d cs 1 e W)(hw:wb.heap.size<=w0.heap.size){g:Nat}{old:Array Value}(hd:e d=.pointer (some ⟨g,0,none⟩))(hg:w0.heap.size<=g)(hB:aA W g T1 old)(hne:T1≠T):SA wb w0 T m n ps F F' T1 d cs 2 e (W.setRow g cs) :=
 ⟨az h.1 (Nat.le_trans hw hg) _,h.2.1.xL hg _,dD.aM h.2.2.1 hB hne _,λ_=>⟨g,hd,hg,hB.row _⟩⟩
theorem SA.done (h:SA wb w0 T m n ps F F' T1 d cs 2 e W):Below wb.heap.size wb W/\mW T w0 W/\dD W wb.heap.size T m .u8 ps n F'/\∃g,e d=.pointer (some ⟨g,0,none⟩)/\w0.heap.size<=g/\aA W g T1 cs:=⟨h.1,h.2.1,h.2.2.1,h.2.2.2 rfl⟩
end
theorem qj {P:Program}{o:Oper}{a:Act}{w:World}{T g n t:Nat}{x:Operand}{cs:Array Value}(ho:o.op=.load T x)(hx:a.eval x=.pointer (some ⟨g,0,none⟩))(hb:aA w g t cs)(ha:dG P T n)(hl:cs.size=n) :
  (execOp a.eval o).run P w=.ok (.value (.agg cs)) w:=by
 obtain⟨⟨d,h1,hd⟩,h2⟩:=ha
 unfold execOp
 simp only[ho,hx,Instr.loadAt,Instr.sureAddr,Sem.run_bind,Sem.run_pure,Result.andThen_ok,run_loadVar_row w g t T _ _ _ hb h1 (by cases d<;>first|rfl|cases hd) (by rw[hl];exact h2)]
theorem SA.adC {wb w0 W:World}{T m n T1 d:Nat}{ps:Value}{F F':List Nat}{cs:Array Value}{e:Nat->Value}{k:Nat}(h:SA wb w0 T m n ps F F' T1 d cs k e W)(hk:k<=1){W':World}{e':Nat->Value}(hb:Below W.heap.size W W'):SA wb w0 T m n ps F F' T1 d cs k e' W':=⟨dx h.1 hb h.1.size,h.2.1.trans (mW.of_below hb),h.2.2.1.below hb,λh=>absurd h (by omega)⟩
end
end Go.Proofs.YtaiffkajkbiidaaGreatDoor
