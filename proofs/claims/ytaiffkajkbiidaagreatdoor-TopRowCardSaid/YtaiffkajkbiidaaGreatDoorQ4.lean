/- What this claim leans on, part 4: laws of the model, and what functions of the program compute. No condition but what each law states. -/
import Derived.Test.YtaiffkajkbiidaaGreatDoorQ0
namespace Go.Proofs.YtaiffkajkbiidaaGreatDoor
set_option linter.unusedSimpArgs false
set_option linter.unusedVariables false
set_option linter.unusedSectionVars false
set_option maxRecDepth 100000
set_option maxHeartbeats 40000000
section
namespace Gf
theorem qG {a b:Nat}(h:∀i,a.testBit i=b.testBit i):a=b:=Nat.eq_of_testBit_eq h
def uO (f:Nat->Nat):Prop:=∀a b,f (a^^^b)=f a^^^f b
theorem uO.zero {f:Nat->Nat}(h:uO f):f 0=0:=by
 have:=h 0 0
 rw[Nat.xor_self,Nat.xor_self] at this
 exact this
theorem uO.id:uO λa=>a:=λ_ _=>rfl
theorem uO.comp {f g:Nat->Nat}(hf:uO f)(hg:uO g):uO λa=>f (g a):=λa b=>by
 show f (g (a^^^b))=_
 rw[hg,hf]
theorem Vu (a b c d:Nat):(a^^^b)^^^(c^^^d)=(a^^^c)^^^(b^^^d):=by
 apply qG;intro i
 simp only[Nat.testBit_xor]
 cases a.testBit i<;>cases b.testBit i<;>cases c.testBit i<;>cases d.testBit i<;>rfl
theorem uO.xor {f g:Nat->Nat}(hf:uO f)(hg:uO g):uO λa=>f a^^^g a:=λa b=>by
 show f (a^^^b)^^^g (a^^^b)=_
 rw[hf,hg,Vu]
theorem NF (b n:Nat)(h:b<2^(n+1)):b=(b%2^n)^^^(if b.testBit n then 2^n else 0):=by
 apply qG;intro i
 rw[Nat.testBit_xor,Nat.testBit_mod_two_pow]
 by_cases h1:i<n
 ·have:(if b.testBit n then 2^n else 0).testBit i=false:=by
   split
   ·rw[Nat.testBit_two_pow];simp;omega
   ·simp
  rw[this];simp[h1]
 ·by_cases h2:i=n
  ·subst h2
   have:¬i<i:=by omega
   cases hb:b.testBit i<;>simp[this]
  ·have hlt:b<2^i:=Nat.lt_of_lt_of_le h (Nat.pow_le_pow_right (by omega) (by omega))
   rw[Nat.testBit_lt_two_pow hlt]
   have:(if b.testBit n then 2^n else 0).testBit i=false:=by
    split
    ·rw[Nat.testBit_two_pow];simp;omega
    ·simp
   rw[this];simp[h1]
theorem nM {f g:Nat->Nat}(hf:uO f)(hg:uO g)(n:Nat)(h:∀i,i<n->f (2^i)=g (2^i)):∀b,b<2^n->f b=g b:=by
 induction n with
 | zero =>
  intro b hb
  have:b=0:=by omega
  subst this;rw[hf.zero,hg.zero]
 | succ n ih =>
  intro b hb
  have e:=NF b n hb
  rw[e,hf,hg,ih (λi hi=>h i (by omega)) _ (Nat.mod_lt _ (Nat.two_pow_pos n))]
  congr 1
  split
  ·exact h n (by omega)
  ·rw[hf.zero,hg.zero]
def up (R n:Nat):Nat:=(2*n)%2^128^^^(if n.testBit 127 then R else 0)
theorem JI (c d:Bool)(R:Nat):(if (c ^^ d) then R else 0)=(if c then R else 0)^^^(if d then R else 0):=by
 cases c<;>cases d<;>simp
theorem XK (a b:Nat):2*(a^^^b)%2^128=(2*a%2^128)^^^(2*b%2^128):=by
 rw[←Nat.xor_mod_two_pow]
 congr 1
 apply qG;intro i
 cases i with
 | zero=>simp[Nat.testBit_xor,Nat.testBit_zero]
 | succ i =>
  rw[Nat.testBit_xor,Nat.testBit_succ,Nat.testBit_succ,Nat.testBit_succ,Nat.mul_div_cancel_left _ (by omega),Nat.mul_div_cancel_left _ (by omega),Nat.mul_div_cancel_left _ (by omega),Nat.testBit_xor]
theorem rz (R:Nat):uO (up R):=λa b=>by
 unfold up
 rw[XK,Nat.testBit_xor,JI,Vu]
theorem adj {R:Nat}(hR:R<2^128)(n:Nat):up R n<2^128:=by
 unfold up
 refine Nat.xor_lt_two_pow (Nat.mod_lt _ (by omega)) ?_
 split
 ·exact hR
 ·exact Nat.two_pow_pos _
theorem BU (R:Nat){i:Nat}(h:i<127):up R (2^i)=2^(i+1):=by
 unfold up
 rw[Nat.testBit_two_pow,←Nat.pow_succ',Nat.mod_eq_of_lt (Nat.pow_lt_pow_right (by omega) (by omega))]
 have:decide (i=127)=false:=by simp;omega
 rw[this];simp
theorem IB (R:Nat):up R (2^127)=R:=by
 unfold up
 rw[Nat.testBit_two_pow,←Nat.pow_succ',Nat.mod_self];simp
def dI (R:Nat):Nat->Nat->Nat
 | 0,a=>a
 | k+1,a=>up R (dI R k a)
theorem BV (R:Nat):∀k,uO (dI R k)
 | 0=>λ_ _=>rfl
 | k+1=>(rz R).comp (BV R k)
theorem jE {R:Nat}(hR:R<2^128){a:Nat}(ha:a<2^128):∀k,dI R k a<2^128
 | 0=>ha
 | k+1=>adj hR _
theorem qd (R j k a:Nat):dI R (j+k) a=dI R j (dI R k a):=by
 induction j with
 | zero=>rw[Nat.zero_add];rfl
 | succ j ih=>rw[Nat.succ_add];show up R _=up R _;rw[ih]
theorem Ny (R k a:Nat):dI R (k+1) a=dI R k (up R a):=qd R k 1 a
theorem wN (R:Nat){i:Nat}(h:i<128):dI R i 1=2^i:=by
 induction i with
 | zero=>rfl
 | succ i ih=>show up R _=_;rw[ih (by omega),BU R (by omega)]
def bV (R a b:Nat):Nat->Nat
 | 0=>0
 | k+1=>bV R a b k^^^(if b.testBit k then dI R k a else 0)
def mul (R a b:Nat):Nat:=bV R a b 128
theorem uO.ite (c:Bool){f:Nat->Nat}(h:uO f):uO λa=>if c then f a else 0:=λa b=>by
 cases c
 ·simp
 ·simp[h a b]
theorem xX (R b:Nat):∀k,uO λa=>bV R a b k
 | 0=>λ_ _=>by simp[bV]
 | k+1=>(xX R b k).xor ((BV R k).ite _)
theorem xW (R a:Nat):∀k,uO λb=>bV R a b k
 | 0=>λ_ _=>by simp[bV]
 | k+1=>(xW R a k).xor (λb c=>by show (if (b^^^c).testBit k then _ else _)=_;rw[Nat.testBit_xor,JI])
theorem vB (R b:Nat):uO λa=>mul R a b:=xX R b 128
theorem fO (R a:Nat):uO λb=>mul R a b:=xW R a 128
theorem tT {R:Nat}(hR:R<2^128){a:Nat}(ha:a<2^128)(b:Nat):∀k,bV R a b k<2^128
 | 0=>Nat.two_pow_pos _
 | k+1=>Nat.xor_lt_two_pow (tT hR ha b k) (by split;exact jE hR ha k;exact Nat.two_pow_pos _)
theorem mul_lt {R:Nat}(hR:R<2^128){a:Nat}(ha:a<2^128)(b:Nat):mul R a b<2^128:=tT hR ha b 128
theorem Fw (R a i:Nat):∀k,bV R a (2^i) k=if i<k then dI R i a else 0
 | 0=>by simp[bV]
 | k+1=>by
  show bV R a (2^i) k^^^_=_
  rw[Fw R a i k,Nat.testBit_two_pow]
  by_cases h1:i<k
  ·have:decide (i=k)=false:=decide_eq_false (by omega)
   rw[this,if_pos h1,if_pos (show i<k+1 by omega)];simp
  ·by_cases h2:i=k
   ·subst h2;simp
   ·have:decide (i=k)=false:=decide_eq_false (by omega)
    rw[this,if_neg h1,if_neg (show ¬i<k+1 by omega)];simp
theorem mul_pow (R a:Nat){i:Nat}(h:i<128):mul R a (2^i)=dI R i a:=by
 unfold mul;rw[Fw,if_pos h]
theorem KS (R:Nat):up R 0=0:=(rz R).zero
theorem AU (R a b:Nat):∀k,bV R (up R a) b k=up R (bV R a b k)
 | 0=>(KS R).symm
 | k+1=>by
  show bV R (up R a) b k^^^_=up R (bV R a b k^^^_)
  rw[rz,AU R a b k,←Ny]
  congr 1
  split
  ·rfl
  ·exact(KS R).symm
theorem Fv (R a b:Nat):mul R (up R a) b=up R (mul R a b):=AU R a b 128
theorem vw (R a b:Nat):∀k,mul R (dI R k a) b=dI R k (mul R a b)
 | 0=>rfl
 | k+1=>by show mul R (up R _) b=up R _;rw[Fv,vw R a b k]
theorem one_mul (R:Nat){b:Nat}(hb:b<2^128):mul R 1 b=b :=
 nM (fO R 1) uO.id 128 (λi hi=>by show mul R 1 (2^i)=2^i;rw[mul_pow R 1 hi,wN R hi]) b hb
theorem mul_one (R a:Nat):mul R a 1=a:=mul_pow R a (i:=0) (by omega)
theorem YP (R:Nat)(hR:R<2^128){a:Nat}(ha:a<2^128):mul R a R=dI R 128 a :=
 nM (vB R R) (BV R 128) 128 (λk hk=>by
  show mul R (2^k) R=dI R 128 (2^k)
  rw[←wN R hk,vw,one_mul R hR,←qd,Nat.add_comm,qd]
  congr 1
  show R=up R (dI R 127 1)
  rw[wN R (by omega),IB]) a ha
theorem RD (R:Nat)(hR:R<2^128){a b:Nat}(ha:a<2^128)(hb:b<2^128):mul R a (up R b)=up R (mul R a b) :=
 nM ((fO R a).comp (rz R)) ((rz R).comp (fO R a)) 128 (λi hi=>by
  show mul R a (up R (2^i))=up R (mul R a (2^i))
  rw[mul_pow R a hi]
  by_cases h:i<127
  ·rw[BU R h,mul_pow R a (by omega)];rfl
  ·obtain rfl:i=127:=by omega
   rw[IB,YP R hR ha];rfl) b hb
theorem qx (R:Nat)(hR:R<2^128){a b:Nat}(ha:a<2^128)(hb:b<2^128):∀k,mul R a (dI R k b)=dI R k (mul R a b)
 | 0=>rfl
 | k+1=>by show mul R a (up R _)=up R _;rw[RD R hR ha (jE hR hb k),qx R hR ha hb k]
theorem mul_comm (R:Nat){a b:Nat}(ha:a<2^128)(hb:b<2^128):mul R a b=mul R b a :=
 nM (fO R a) (vB R a) 128 (λi hi=>by
  show mul R a (2^i)=mul R (2^i) a
  rw[mul_pow R a hi,←wN R hi,vw,one_mul R ha]) b hb
theorem mul_assoc (R:Nat)(hR:R<2^128){a b c:Nat}(ha:a<2^128)(hb:b<2^128)(hc:c<2^128):mul R (mul R a b) c=mul R a (mul R b c) :=
 nM (fO R (mul R a b)) ((fO R a).comp (fO R b)) 128 (λi hi=>by
  show mul R (mul R a b) (2^i)=mul R a (mul R b (2^i))
  rw[mul_pow R _ hi,mul_pow R _ hi,qx R hR ha hb]) c hc
def down (D n:Nat):Nat:=(n/2)^^^(if n.testBit 0 then D else 0)
theorem TB (a b:Nat):(a^^^b)/2=(a/2)^^^(b/2):=by
 apply qG;intro i
 rw[Nat.testBit_xor,←Nat.testBit_succ,←Nat.testBit_succ,←Nat.testBit_succ,Nat.testBit_xor]
theorem yI (D:Nat):uO (down D):=λa b=>by
 unfold down
 rw[TB,Nat.testBit_xor,JI,Vu]
theorem MH {D:Nat}(hD:D<2^128){n:Nat}(hn:n<2^128):down D n<2^128:=by
 unfold down
 refine Nat.xor_lt_two_pow (by omega) ?_
 split
 ·exact hD
 ·exact Nat.two_pow_pos _
structure PD (R D:Nat):Prop where
 r:R<2^128
 d:D<2^128
 u:up R D=1
 w:down D R=2^127
theorem GA (D:Nat){i:Nat}:down D (2^(i+1))=2^i:=by
 unfold down
 rw[Nat.testBit_two_pow,Nat.pow_succ,Nat.mul_div_cancel _ (by omega)]
 simp
theorem Ua (D:Nat):down D 1=D:=by simp[down]
section
variable {R D:Nat}(h:PD R D)
include h
theorem up_down {a:Nat}(ha:a<2^128):up R (down D a)=a :=
 nM ((rz R).comp (yI D)) uO.id 128 (λi hi=>by
  show up R (down D (2^i))=2^i
  cases i with
  | zero=>rw[Nat.pow_zero,Ua,h.u]
  | succ i=>rw[GA,BU R (by omega)]) a ha
theorem down_up {a:Nat}(ha:a<2^128):down D (up R a)=a :=
 nM ((yI D).comp (rz R)) uO.id 128 (λi hi=>by
  show down D (up R (2^i))=2^i
  by_cases h1:i<127
  ·rw[BU R h1,GA]
  ·obtain rfl:i=127:=by omega
   rw[IB,h.w]) a ha
end
def ja (D:Nat):Nat->Nat->Nat
 | 0,a=>a
 | k+1,a=>down D (ja D k a)
theorem vF (D:Nat):∀k,uO (ja D k)
 | 0=>λ_ _=>rfl
 | k+1=>(yI D).comp (vF D k)
theorem uw {D:Nat}(hD:D<2^128){a:Nat}(ha:a<2^128):∀k,ja D k a<2^128
 | 0=>ha
 | k+1=>MH hD (uw hD ha k)
theorem GD (D k a:Nat):ja D (k+1) a=ja D k (down D a):=by
 induction k with
 | zero=>rfl
 | succ k ih=>show down D _=down D _;rw[ih]
section
variable {R D:Nat}(h:PD R D)
include h
theorem Bt {a:Nat}(ha:a<2^128):∀k,ja D k (dI R k a)=a
 | 0=>rfl
 | k+1=>by rw[GD];show ja D k (down D (up R (dI R k a)))=a;rw[down_up h (jE h.r ha k),Bt ha k]
theorem JC {a b:Nat}(ha:a<2^128)(hb:b<2^128):mul R (down D a) b=down D (mul R a b):=by
 have e:=Fv R (down D a) b
 rw[up_down h ha] at e
 rw[e,down_up h (mul_lt h.r (MH h.d ha) b)]
theorem vV {a b:Nat}(ha:a<2^128)(hb:b<2^128):∀k,mul R (ja D k a) b=ja D k (mul R a b)
 | 0=>rfl
 | k+1=>by show mul R (down D _) b=down D _;rw[JC h (uw h.d ha k) hb,vV ha hb k]
end
def qK (D x y:Nat):Nat->Nat
 | 0=>0
 | k+1=>down D (qK D x y k^^^(if y.testBit k then x else 0))
theorem Dn {R D:Nat}(h:PD R D){x:Nat}(hx:x<2^128)(y:Nat):∀k,qK D x y k=ja D k (bV R x y k)
 | 0=>rfl
 | k+1=>by
  show down D (_^^^_)=down D (ja D k (bV R x y k^^^_))
  rw[Dn h hx y k,vF]
  congr 2
  split
  ·exact(Bt h hx k).symm
  ·exact((vF D k).zero).symm
def dot (R D x y:Nat):Nat:=ja D 128 (mul R x y)
theorem Ub {R D:Nat}(h:PD R D){x:Nat}(hx:x<2^128)(y:Nat):dot R D x y<2^128:=uw h.d (mul_lt h.r hx y) 128
section
variable {R D:Nat}(h:PD R D){a b c:Nat}(ha:a<2^128)(hb:b<2^128)(hc:c<2^128)
include ha hb
theorem Uc:dot R D a b=dot R D b a:=by unfold dot;rw[mul_comm R ha hb]
include h
include hc
end
end Gf
namespace Gf
section
variable {R:Nat}(hR:R<2^128)
def sq (R a:Nat):Nat:=mul R a a
include hR
omit hR in
theorem zero_mul (b:Nat):mul R 0 b=0:=(vB R b).zero
end
def R1:Nat:=0xc2000000000000000000000000000001
def D1:Nat:=0xe1000000000000000000000000000000
theorem qb:R1<2^128:=by decide
theorem AJ:PD R1 D1:=⟨by decide,by decide,by kernel_rfl,by kernel_rfl⟩
def app:List Nat->Nat->Nat
 | [],_=>0
 | m::ms,v=>(if v%2=1 then m else 0)^^^app ms (v/2)
end Gf
namespace Gf
open Go.Proofs.YtaiffkajkbiidaaGreatDoor
def W2 (n:Nat):List Nat:=[n%18446744073709551616,n/18446744073709551616]
theorem mf (n:Nat):(W2 n).length=2:=rfl
theorem w64:(18446744073709551616:Nat)=2^64:=by decide
theorem ZG (x y:Nat):(x^^^y)%18446744073709551616=(x%18446744073709551616)^^^(y%18446744073709551616):=by
 rw[w64];exact Nat.xor_mod_two_pow
theorem ZH (x y:Nat):(x^^^y)/18446744073709551616=(x/18446744073709551616)^^^(y/18446744073709551616):=by
 rw[w64,←Nat.shiftRight_eq_div_pow,←Nat.shiftRight_eq_div_pow,←Nat.shiftRight_eq_div_pow];exact Nat.shiftRight_xor_distrib
theorem KE (x y:Nat):W2 (x^^^y)=[(x%18446744073709551616)^^^(y%18446744073709551616),(x/18446744073709551616)^^^(y/18446744073709551616)]:=by
 unfold W2;rw[ZG,ZH]
theorem sK {a b:Nat}(i:Nat)(ha:a<2^i):a^^^(b*2^i)=a+b*2^i:=by
 have h1:=Nat.two_pow_add_eq_or_of_lt (i:=i) (b:=a) ha b
 rw[Nat.mul_comm b,Nat.add_comm,h1]
 apply qG;intro j
 rw[Nat.testBit_xor,Nat.testBit_or,Nat.testBit_two_pow_mul]
 by_cases hj:i<=j
 ·rw[Nat.testBit_lt_two_pow (Nat.lt_of_lt_of_le ha (Nat.pow_le_pow_right (by omega) hj))]
  simp
 ·simp[hj]
theorem UB (n:Nat)(h:n<2^128):n.testBit 127=decide (n/18446744073709551616/9223372036854775808=1):=by
 rw[Nat.testBit_eq_decide_div_mod_eq,Nat.div_div_eq_div_mul]
 congr 1
 apply propext
 omega
theorem Qx {n:Nat}(h:n<2^128):W2 (up R1 n)=[(n%18446744073709551616*2%18446744073709551616)^^^(n/18446744073709551616/9223372036854775808),(n/18446744073709551616*2%18446744073709551616)^^^(n%18446744073709551616/9223372036854775808)^^^(n/18446744073709551616/9223372036854775808*13979173243358019584)]:=by
 unfold up
 rw[KE,UB n h]
 have hx:=sK (a:=n%18446744073709551616/9223372036854775808) (b:=n/18446744073709551616%9223372036854775808) 1 (by omega)
 have e1:n/18446744073709551616*2%18446744073709551616=n/18446744073709551616%9223372036854775808*2^1:=by omega
 have e2:2*n%2^128/18446744073709551616=n%18446744073709551616/9223372036854775808+n/18446744073709551616%9223372036854775808*2^1:=by omega
 have e3:2*n%2^128%18446744073709551616=n%18446744073709551616*2%18446744073709551616:=by omega
 rw[e1,e2,e3,←hx,Nat.xor_comm (n%18446744073709551616/9223372036854775808)]
 have h2:n/18446744073709551616/9223372036854775808=0∨n/18446744073709551616/9223372036854775808=1:=by omega
 rcases h2 with h2|h2
 ·rw[h2];simp
 ·rw[h2]
  simp only[decide_true,if_true]
  rw[show R1%18446744073709551616=1 by decide,show R1/18446744073709551616=1*13979173243358019584 by decide]
theorem Kq {n:Nat}(h:n<2^128):W2 (down D1 n)=[(n%18446744073709551616/2)^^^(n/18446744073709551616*9223372036854775808%18446744073709551616),(n/18446744073709551616/2)^^^(n%18446744073709551616%2*16212958658533785600)]:=by
 unfold down
 rw[KE,Nat.testBit_zero]
 have hx:=sK (a:=n%18446744073709551616/2) (b:=n/18446744073709551616%2) 63 (by omega)
 have e1:n/18446744073709551616*9223372036854775808%18446744073709551616=n/18446744073709551616%2*2^63:=by omega
 have e2:n/2%18446744073709551616=n%18446744073709551616/2+n/18446744073709551616%2*2^63:=by omega
 have e3:n/2/18446744073709551616=n/18446744073709551616/2:=by omega
 have e4:n%18446744073709551616%2=n%2:=by omega
 rw[e1,hx,←e2,e3,e4]
 have h2:n%2=0∨n%2=1:=by omega
 rcases h2 with h2|h2
 ·rw[h2];simp
 ·rw[h2]
  simp only[decide_true,if_true]
  rw[show D1%18446744073709551616=0 by decide,show D1/18446744073709551616=1*16212958658533785600 by decide,Nat.xor_zero]
theorem Jo (a b f:Nat)(hf:f<=1):W2 (a^^^f*b)=[(a%18446744073709551616)^^^(f*(b%18446744073709551616)),(a/18446744073709551616)^^^(f*(b/18446744073709551616))]:=by
 rw[KE]
 have:f=0∨f=1:=by omega
 rcases this with rfl|rfl<;>simp
theorem Pq {n i:Nat}(h:n<2^128):(if i<64 then n%18446744073709551616/2^i%2 else n/18446744073709551616/2^(i-64)%2)=n/2^i%2:=by
 by_cases hi:i<64
 ·rw[if_pos hi]
  have e:n.testBit i=(n%2^64).testBit i:=by rw[Nat.testBit_mod_two_pow];simp[hi]
  rw[Nat.testBit_eq_decide_div_mod_eq,Nat.testBit_eq_decide_div_mod_eq] at e
  rw[w64]
  have:=decide_eq_decide.1 e
  omega
 ·rw[if_neg hi,Nat.div_div_eq_div_mul,w64,←Nat.pow_add,show 64+(i-64)=i by omega]
theorem abM (n i:Nat):n/2^i%2<=1:=by omega
theorem JJ (y x k:Nat):(if y.testBit k then x else 0)=y/2^k%2*x:=by
 rw[Nat.testBit_eq_decide_div_mod_eq]
 have:y/2^k%2=0∨y/2^k%2=1:=by omega
 rcases this with h|h<;>rw[h]<;>simp
end Gf
end
end Go.Proofs.YtaiffkajkbiidaaGreatDoor
