/- What this claim leans on, part 5: laws of the model, and what functions of the program compute. No condition but what each law states. -/
import Derived.Test.YtaiffkajkbiidaaGreatDoorQ1
import Derived.Test.YtaiffkajkbiidaaGreatDoorQ4
namespace Go.Proofs.YtaiffkajkbiidaaGreatDoor
set_option linter.unusedSimpArgs false
set_option linter.unusedVariables false
set_option linter.unusedSectionVars false
set_option maxRecDepth 100000
set_option maxHeartbeats 40000000
open Go.Proofs.Tryz
open Tryz
section
open Go.RowKit
open Gf (W2 up down R1 D1)
theorem xc (n:Nat):(W2 n).getD 0 0=n%18446744073709551616:=rfl
theorem wZ (n:Nat):(W2 n).getD 1 0=n/18446744073709551616:=rfl
theorem wrapN (x:Nat):IntKind.u64.wrap (x:Int)=((x%18446744073709551616:Nat):Int):=by
 simp[IntKind.wrap,IntKind.bits,IntKind.signed]
theorem Iq {a b:Nat}(ha:a<18446744073709551616)(hb:b<18446744073709551616):bits BinOp.xor IntKind.u64 (a:Int) (b:Int)=((a^^^b:Nat):Int):=u64_xor_nat a b ha hb
theorem Vt {a b:Nat}(ha:a<18446744073709551616)(hb:b<18446744073709551616):a^^^b<18446744073709551616:=Nat.xor_lt_two_pow (n:=64) ha hb
theorem and1 (a:Nat)(ha:a<18446744073709551616):bits BinOp.and IntKind.u64 (a:Int) 1=((a%2:Nat):Int):=by
 have h:=u64_and_nat a 1 ha (by omega)
 rw[Nat.and_one_is_mod] at h
 exact h
theorem ZK (n:Nat)(hn:n<2^128)(w:World) :
  Calls prog 161 #[.agg (ints .u64 (W2 n))] w λe w'=>e=.returned (.agg (ints .u64 (W2 (up R1 n))))/\Below w.heap.size w w':=by
 have hw:=Gf.Qx hn
 have h0:n%18446744073709551616<18446744073709551616:=Nat.mod_lt _ (by omega)
 have h1:n/18446744073709551616<18446744073709551616:=by omega
 have B0:=(aA.new w 149 (ints .u64 (W2 n))).alloc (.cells (ints .u64 (zeros 2)) 149)
 have B1:=aA.new (w.alloc (.cells (ints .u64 (W2 n)) 149)) 149 (ints .u64 (zeros 2))
 rw[World.size_alloc] at B1
 have hbel:=(bN w (.cells (ints .u64 (W2 n)) 149)).alloc (by simp) (.cells (ints .u64 (zeros 2)) 149)
 have c0:=B0.int (i:=0) (by simp[Gf.mf])
 have c1:=B0.int (i:=1) (by simp[Gf.mf])
 rw[xc] at c0
 rw[wZ] at c1
 generalize n%18446744073709551616=lo at *
 generalize n/18446744073709551616=hi at *
 have e0:bits BinOp.xor IntKind.u64 (IntKind.u64.wrap ((lo:Int)*2)) ((hi:Int)/9223372036854775808)=(((lo*2%18446744073709551616)^^^(hi/9223372036854775808):Nat):Int):=by
  rw[show (lo:Int)*2=((lo*2:Nat):Int) by simp,wrapN,show (hi:Int)/9223372036854775808=((hi/9223372036854775808:Nat):Int) by simp,Iq (by omega) (by omega)]
 have e1:bits BinOp.xor IntKind.u64 (bits BinOp.xor IntKind.u64 (IntKind.u64.wrap ((hi:Int)*2)) ((lo:Int)/9223372036854775808)) ((hi:Int)/9223372036854775808*13979173243358019584)=(((hi*2%18446744073709551616)^^^(lo/9223372036854775808)^^^(hi/9223372036854775808*13979173243358019584):Nat):Int):=by
  rw[show (hi:Int)*2=((hi*2:Nat):Int) by simp,wrapN,show (lo:Int)/9223372036854775808=((lo/9223372036854775808:Nat):Int) by simp,Iq (by omega) (by omega),show (hi:Int)/9223372036854775808*13979173243358019584=((hi/9223372036854775808*13979173243358019584:Nat):Int) by simp,Iq (Vt (by omega) (by omega)) (by omega)]
 have HE:Hid (Value.agg #[.int .u64 (bits BinOp.xor IntKind.u64 (IntKind.u64.wrap ((lo:Int)*2)) ((hi:Int)/9223372036854775808)),.int .u64 (bits BinOp.xor IntKind.u64 (bits BinOp.xor IntKind.u64 (IntKind.u64.wrap ((hi:Int)*2)) ((lo:Int)/9223372036854775808)) ((hi:Int)/9223372036854775808*13979173243358019584))]=.agg (ints .u64 (W2 (up R1 n)))):=aR (by rw[e0,e1,hw];rfl)
 clear hw e0 e1
 go_enter func161,ntmps161
 go_wp2_with ((first|(refine ae rfl 149 rfl Ee ?_)|(refine aa rfl 149 _ _ rfl (w.heap.size+1) (k:=.u64) (xs:=W2 (up R1 n)) rfl HE.out B1 (ah _ _) eH rfl ?_));(try simp only[nn,Nat.reduceAdd]))
 exact aO rfl rfl (B1.row _) eH rfl ⟨rfl,az hbel (by omega) _⟩
theorem abA (n:Nat)(hn:n<2^128)(w:World) :
  Calls prog 162 #[.agg (ints .u64 (W2 n))] w λe w'=>e=.returned (.agg (ints .u64 (W2 (down D1 n))))/\Below w.heap.size w w':=by
 have hw:=Gf.Kq hn
 have h0:n%18446744073709551616<18446744073709551616:=Nat.mod_lt _ (by omega)
 have h1:n/18446744073709551616<18446744073709551616:=by omega
 have B0:=(aA.new w 149 (ints .u64 (W2 n))).alloc (.cells (ints .u64 (zeros 2)) 149)
 have B1:=aA.new (w.alloc (.cells (ints .u64 (W2 n)) 149)) 149 (ints .u64 (zeros 2))
 rw[World.size_alloc] at B1
 have hbel:=(bN w (.cells (ints .u64 (W2 n)) 149)).alloc (by simp) (.cells (ints .u64 (zeros 2)) 149)
 have c0:=B0.int (i:=0) (by simp[Gf.mf])
 have c1:=B0.int (i:=1) (by simp[Gf.mf])
 rw[xc] at c0
 rw[wZ] at c1
 generalize n%18446744073709551616=lo at *
 generalize n/18446744073709551616=hi at *
 have e0:bits BinOp.xor IntKind.u64 ((lo:Int)/2) (IntKind.u64.wrap ((hi:Int)*9223372036854775808))=(((lo/2)^^^(hi*9223372036854775808%18446744073709551616):Nat):Int):=by
  rw[show (hi:Int)*9223372036854775808=((hi*9223372036854775808:Nat):Int) by simp,wrapN,show (lo:Int)/2=((lo/2:Nat):Int) by simp,Iq (by omega) (by omega)]
 have e1:bits BinOp.xor IntKind.u64 ((hi:Int)/2) (IntKind.u64.wrap (bits BinOp.and IntKind.u64 (lo:Int) 1*16212958658533785600))=(((hi/2)^^^(lo%2*16212958658533785600):Nat):Int):=by
  rw[and1 lo h0,show ((lo%2:Nat):Int)*16212958658533785600=((lo%2*16212958658533785600:Nat):Int) by simp,wrapN,Nat.mod_eq_of_lt (by omega),show (hi:Int)/2=((hi/2:Nat):Int) by simp,Iq (by omega) (by omega)]
 have HE:Hid (Value.agg #[.int .u64 (bits BinOp.xor IntKind.u64 ((lo:Int)/2) (IntKind.u64.wrap ((hi:Int)*9223372036854775808))),.int .u64 (bits BinOp.xor IntKind.u64 ((hi:Int)/2) (IntKind.u64.wrap (bits BinOp.and IntKind.u64 (lo:Int) 1*16212958658533785600)))]=.agg (ints .u64 (W2 (down D1 n)))):=aR (by rw[e0,e1,hw];rfl)
 clear hw e0 e1
 go_enter func162,ntmps162
 go_wp2_with ((first|(refine ae rfl 149 rfl Ee ?_)|(refine aa rfl 149 _ _ rfl (w.heap.size+1) (k:=.u64) (xs:=W2 (down D1 n)) rfl HE.out B1 (ah _ _) eH rfl ?_));(try simp only[nn,Nat.reduceAdd]))
 exact aO rfl rfl (B1.row _) eH rfl ⟨rfl,az hbel (by omega) _⟩
theorem agm (n i:Nat)(hn:n<2^128)(hi:i<128)(w:World) :
  Calls prog 163 #[.agg (ints .u64 (W2 n)),.int .i64 i] w λe w'=>e=.returned (.int .u64 (n/2^i%2:Nat))/\Below w.heap.size w w':=by
 have hw:=Gf.Pq (i:=i) hn
 have h0:n%18446744073709551616<18446744073709551616:=Nat.mod_lt _ (by omega)
 have h1:n/18446744073709551616<18446744073709551616:=by omega
 have B0:=aA.new w 149 (ints .u64 (W2 n))
 have hbel:=bN w (.cells (ints .u64 (W2 n)) 149)
 have c0:=B0.int (i:=0) (by simp[Gf.mf])
 have c1:=B0.int (i:=1) (by simp[Gf.mf])
 rw[xc] at c0
 rw[wZ] at c1
 generalize n%18446744073709551616=lo at *
 generalize n/18446744073709551616=hw1 at *
 by_cases h64:i<64
 ·rw[if_pos h64] at hw
  have HW:=aR hw
  clear hw
  go_enter func163,ntmps163
  go_wp2
  go_ret
  refine⟨?_,hbel⟩
  have hq:lo/2^i<18446744073709551616:=Nat.lt_of_le_of_lt (Nat.div_le_self _ _) h0
  have e:bits BinOp.and IntKind.u64 ((lo:Int)/2^i) 1=((n/2^i%2:Nat):Int):=by
   rw[show (lo:Int)/2^i=((lo/2^i:Nat):Int) by simp,and1 _ hq,HW.out]
  exact congrArg (λz=>Ending.returned (.int .u64 z)) e
 ·rw[if_neg h64] at hw
  have HW:=aR hw
  clear hw
  have hge:64<=i:=by omega
  go_enter func163,ntmps163
  go_wp2
  go_ret
  refine⟨?_,hbel⟩
  have hq:hw1/2^(i-64)<18446744073709551616:=Nat.lt_of_le_of_lt (Nat.div_le_self _ _) h1
  have e:bits BinOp.and IntKind.u64 ((hw1:Int)/2^(i-64)) 1=((n/2^i%2:Nat):Int):=by
   rw[show (hw1:Int)/2^(i-64)=((hw1/2^(i-64):Nat):Int) by simp,and1 _ hq,HW.out]
  exact congrArg (λz=>Ending.returned (.int .u64 z)) e
theorem tO (a b f:Nat)(ha:a<2^128)(hb:b<2^128)(hf:f<=1)(w:World) :
  Calls prog 160 #[.agg (ints .u64 (W2 a)),.agg (ints .u64 (W2 b)),.int .u64 f] w λe w'=>e=.returned (.agg (ints .u64 (W2 (a^^^f*b))))/\Below w.heap.size w w':=by
 have hw:=Gf.Jo a b f hf
 have h0:a%18446744073709551616<18446744073709551616:=Nat.mod_lt _ (by omega)
 have h1:a/18446744073709551616<18446744073709551616:=by omega
 have h2:b%18446744073709551616<18446744073709551616:=Nat.mod_lt _ (by omega)
 have h3:b/18446744073709551616<18446744073709551616:=by omega
 have B0:=((aA.new w 149 (ints .u64 (W2 a))).alloc (.cells (ints .u64 (W2 b)) 149)).alloc (.cells (ints .u64 (zeros 2)) 149)
 have B1:=(aA.new (w.alloc (.cells (ints .u64 (W2 a)) 149)) 149 (ints .u64 (W2 b))).alloc (.cells (ints .u64 (zeros 2)) 149)
 have B2:=aA.new ((w.alloc (.cells (ints .u64 (W2 a)) 149)).alloc (.cells (ints .u64 (W2 b)) 149)) 149 (ints .u64 (zeros 2))
 rw[World.size_alloc] at B1
 rw[World.size_alloc,World.size_alloc] at B2
 simp only[Nat.add_assoc,Nat.reduceAdd] at B2
 have hbel:=((bN w (.cells (ints .u64 (W2 a)) 149)).alloc (by simp) (.cells (ints .u64 (W2 b)) 149)).alloc (by simp;omega) (.cells (ints .u64 (zeros 2)) 149)
 have c0:=B0.int (i:=0) (by simp[Gf.mf])
 have c1:=B0.int (i:=1) (by simp[Gf.mf])
 have d0:=B1.int (i:=0) (by simp[Gf.mf])
 have d1:=B1.int (i:=1) (by simp[Gf.mf])
 rw[xc] at c0 d0
 rw[wZ] at c1 d1
 generalize a%18446744073709551616=alo at *
 generalize a/18446744073709551616=ahi at *
 generalize b%18446744073709551616=acL at *
 generalize b/18446744073709551616=acM at *
 have hf2:f=0∨f=1:=by omega
 have m1:f*acL<18446744073709551616:=by rcases hf2 with rfl|rfl<;>omega
 have m2:f*acM<18446744073709551616:=by rcases hf2 with rfl|rfl<;>omega
 have e0:bits BinOp.xor IntKind.u64 (alo:Int) (IntKind.u64.wrap ((f:Int)*acL))=((alo^^^(f*acL):Nat):Int):=by
  rw[show (f:Int)*acL=((f*acL:Nat):Int) by simp,wrapN,Nat.mod_eq_of_lt m1,Iq h0 m1]
 have e1:bits BinOp.xor IntKind.u64 (ahi:Int) (IntKind.u64.wrap ((f:Int)*acM))=((ahi^^^(f*acM):Nat):Int):=by
  rw[show (f:Int)*acM=((f*acM:Nat):Int) by simp,wrapN,Nat.mod_eq_of_lt m2,Iq h1 m2]
 have HE:Hid (Value.agg #[.int .u64 (bits BinOp.xor IntKind.u64 (alo:Int) (IntKind.u64.wrap ((f:Int)*acL))),.int .u64 (bits BinOp.xor IntKind.u64 (ahi:Int) (IntKind.u64.wrap ((f:Int)*acM)))]=.agg (ints .u64 (W2 (a^^^f*b)))):=aR (by rw[e0,e1,hw];rfl)
 clear hw e0 e1 m1 m2 hf2
 go_enter func160,ntmps160
 go_wp2_with ((first|(refine ae rfl 149 rfl Ee ?_)|(refine aa rfl 149 _ _ rfl (w.heap.size+2) (k:=.u64) (xs:=W2 (a^^^f*b)) rfl HE.out B2 (ah _ _) eH rfl ?_));(try simp only[nn,Nat.reduceAdd]))
 exact aO rfl rfl (B2.row _) eH rfl ⟨rfl,az hbel (by omega) _⟩
open Go.RowKit
open Gf (W2 up down dI ja bV mul dot qK R1 D1)
def num (bs:List Nat):Nat:=dL 256 bs
def elem (n:Nat):List Nat:=cZ 256 16 n
theorem jB (n:Nat):(elem n).length=16:=bn _ _ _
theorem qD (n:Nat):∀x∈elem n,x<256:=dU (by omega) _ _
theorem vv {bs:List Nat}(hl:bs.length=16)(hb:∀x∈bs,x<256):num bs<2^128:=by
 have:=tq bs hb
 rw[hl] at this
 exact this
theorem xS {n:Nat}(h:n<2^128):num (elem n)=n:=by
 unfold num elem;rw[iH];exact Nat.mod_eq_of_lt h
theorem yG {bs:List Nat}(hl:bs.length=16)(hb:∀x∈bs,x<256):elem (num bs)=bs:=by
 have:=jX 256 bs hb
 rw[hl] at this
 exact this
theorem oQ {xs:List Nat}{n:Nat}(h:xs.length=n):(List.range n).map (λi=>xs.getD i 0)=xs:=by
 apply List.ext_getElem? λi=>?_
 by_cases hi:i<n
 ·rw[List.getElem?_map,List.getElem?_range hi,getD_lt (by omega)];rfl
 ·rw[List.getElem?_eq_none (by simp;omega),List.getElem?_eq_none (by omega)]
theorem halves {bs:List Nat}(hl:bs.length=16)(hb:∀x∈bs,x<256):[aT bs 0 8,aT bs 8 8]=W2 (num bs):=by
 have h0:aT bs 0 8<18446744073709551616:=eG hb 0 8
 have e:num bs=aT bs 0 8+18446744073709551616*aT bs 8 8:=by
  have h:=oQ hl
  have h2:List.range 16=List.range 8++(List.range 8).map (8+·):=rfl
  rw[h2,List.map_append,List.map_map] at h
  have f1:(List.range 8).map (λk=>bs.getD (0+k) 0)=(List.range 8).map (λi=>bs.getD i 0):=List.map_congr_left λk _=>by rw[Nat.zero_add]
  unfold num aT
  rw[f1]
  conv=>lhs;rw[←h,eB]
  simp;rfl
 unfold W2
 rw[e,Nat.add_mul_mod_self_left,Nat.mod_eq_of_lt h0,Nat.add_mul_div_left _ _ (by omega),Nat.div_eq_of_lt h0,Nat.zero_add]
theorem Bu (b n m x y:Nat)(hb:0<b)(hx:x<b^n):cZ b n x++cZ b m y=cZ b (n+m) (x+b^n*y):=by
 have h:=jX b (cZ b n x++cZ b m y) (λz hz=>(List.mem_append.1 hz).elim (dU hb n x z) (dU hb m y z))
 rw[eB,iH,iH,bn,Nat.mod_eq_of_lt hx,List.length_append,bn,bn] at h
 rw[←h,←qE b (n+m) (x+b^n*y)]
 congr 1
 rw[Nat.pow_add,Nat.mod_mul,Nat.add_mul_mod_self_left,Nat.mod_eq_of_lt hx,Nat.add_mul_div_left _ _ (Nat.pow_pos hb),Nat.div_eq_of_lt hx,Nat.zero_add]
theorem WE (a:Option Addr)(c m:Nat)(bs:List Nat)(hb:∀x∈bs,x<256)(hl:bs.length=16)(hm:m=16)(w:World)(hs:Sl w a .u8 bs) :
  Calls prog 108 #[.slice a m c] w λe w'=>e=.returned (.agg (ints .u64 (W2 (num bs))))/\Below w.heap.size w w':=by
 have h:=yg a c bs hb (by rw[hl];unfold maxLen;omega) w hs
 rw[halves hl hb,hl] at h
 rw[hm];exact h
theorem Uo (n:Nat)(hn:n<2^128)(w:World) :
  Calls prog 111 #[.agg (ints .u64 (W2 n))] w λe w'=>e=.returned (.agg (ints .u8 (elem n)))/\Below w.heap.size w w':=by
 have h:=mo (n%18446744073709551616) (n/18446744073709551616) (Nat.mod_lt _ (by omega)) (by omega) w
 rw[Bu 256 8 8 _ _ (by omega) (Nat.mod_lt _ (by omega)),show n%18446744073709551616+256^8*(n/18446744073709551616)=n by omega] at h
 exact h
theorem abB (x y:Nat)(hx:x<2^128)(hy:y<2^128)(w:World) :
  Calls prog 159 #[.agg (ints .u64 (W2 x)),.agg (ints .u64 (W2 y))] w λe w'=>e=.returned (.agg (ints .u64 (W2 (dot R1 D1 x y))))/\Below w.heap.size w w':=by
 have B0:=(((aA.new w 149 (ints .u64 (W2 x))).alloc (.cells (ints .u64 (W2 y)) 149)).alloc (.cells (ints .u64 (zeros 2)) 149)).alloc (.cells (ints .u64 (zeros 2)) 149)
 have B1:=((aA.new (w.alloc (.cells (ints .u64 (W2 x)) 149)) 149 (ints .u64 (W2 y))).alloc (.cells (ints .u64 (zeros 2)) 149)).alloc (.cells (ints .u64 (zeros 2)) 149)
 have B2:=(aA.new ((w.alloc (.cells (ints .u64 (W2 x)) 149)).alloc (.cells (ints .u64 (W2 y)) 149)) 149 (ints .u64 (zeros 2))).alloc (.cells (ints .u64 (zeros 2)) 149)
 have B3:=aA.new (((w.alloc (.cells (ints .u64 (W2 x)) 149)).alloc (.cells (ints .u64 (W2 y)) 149)).alloc (.cells (ints .u64 (zeros 2)) 149)) 149 (ints .u64 (zeros 2))
 rw[World.size_alloc] at B1
 rw[World.size_alloc,World.size_alloc] at B2
 rw[World.size_alloc,World.size_alloc,World.size_alloc] at B3
 simp only[Nat.add_assoc,Nat.reduceAdd] at B2 B3
 have hbel:=(((bN w (.cells (ints .u64 (W2 x)) 149)).alloc (by simp) (.cells (ints .u64 (W2 y)) 149)).alloc (by simp;omega) (.cells (ints .u64 (zeros 2)) 149)).alloc (by simp;omega) (.cells (ints .u64 (zeros 2)) 149)
 go_enter func159,ntmps159
 go_wp2_with (refine ae rfl 149 rfl Ee ?_;(try simp only[nn,Nat.reduceAdd]))
 generalize ((((w.alloc (.cells (ints .u64 (W2 x)) 149)).alloc (.cells (ints .u64 (W2 y)) 149)).alloc (.cells (ints .u64 (zeros 2)) 149)).alloc (.cells (ints .u64 (zeros 2)) 149))=w1 at *
 go_loopw [7] (λt wr=>∃i:Nat,i<=128/\t=.int .i64 i/\aA wr w.heap.size 149 (ints .u64 (W2 x))/\aA wr (w.heap.size+1) 149 (ints .u64 (W2 y))/\aA wr (w.heap.size+2) 149 (ints .u64 (zeros 2))/\aA wr (w.heap.size+3) 149 (ints .u64 (W2 (qK D1 x y i)))/\Below w.heap.size w wr) (λt wr=>128-(intOf t).toNat)
 case atStart=>exact⟨0,by omega,rfl,B0,B1,B2,by rw[show W2 (qK D1 x y 0)=zeros 2 by show W2 0=zeros 2;decide];exact B3,hbel⟩
 case round =>
  rename_i hrel
  obtain⟨i,hi,rfl,C0,C1,C2,C3,bH⟩:=hrel
  have hS:qK D1 x y i<2^128:=by rw[Gf.Dn Gf.AJ hx];exact Gf.uw Gf.AJ.d (Gf.tT Gf.qb hx y i) i
  by_cases hlt:i<128
  ·have hnx:qK D1 x y (i+1)=down D1 (qK D1 x y i^^^y/2^i%2*x):=by
    show down D1 (_^^^_)=_
    rw[Gf.JJ]
   have HX:=aR hnx
   clear hnx
   generalize qK D1 x y i=S at *
   have hle:=Gf.abM y i
   have hT:S^^^y/2^i%2*x<2^128:=Nat.xor_lt_two_pow hS (by rcases(show y/2^i%2=0∨y/2^i%2=1 by omega) with h|h<;>rw[h]<;>simp<;>omega)
   go_wp2
   refine oD 7 (by kernel_rfl) (by kernel_rfl) (by kernel_rfl) (by kernel_rfl) (λD bP W=>∃u10 u11 u12 u13 u14 u15 u16 u17:Value,bP={ tmps:=#[.agg (ints .u64 (W2 x)),.agg (ints .u64 (W2 y)),.pointer (some ⟨w.heap.size,0,none⟩),.pointer (some ⟨w.heap.size+1,0,none⟩),.pointer (some ⟨w.heap.size+2,0,none⟩),.pointer (some ⟨w.heap.size+3,0,none⟩),.int .i64 i,.int .i64 i,.bool (decide ((i:Int)<128)),.int .i64 i,u10,u11,u12,u13,u14,u15,u16,u17,undef],defers:=[] }/\Below wr.heap.size wr W/\(D 0->u10=.agg (ints .u64 (W2 S)))/\(D 1->u11=.agg (ints .u64 (W2 x)))/\(D 2->u12=.agg (ints .u64 (W2 y)))/\(D 3->u13=.int .i64 i)/\(D 4->u14=.int .u64 ((y/2^i%2:Nat):Int))/\(D 5->u15=.agg (ints .u64 (W2 (S^^^y/2^i%2*x))))/\(D 6->u16=.agg (ints .u64 (W2 (down D1 (S^^^y/2^i%2*x)))))) ?_ ?_ ?_
   ·exact aL <| (⟨rfl,⟨rfl,rfl,rfl,Nat.le_refl _,λ_ _=>rfl⟩,nofun,nofun,nofun,nofun,nofun,nofun,nofun⟩)
   ·intro i o hilt hi D bP W hI hnD hall
    obtain⟨u10,u11,u12,u13,u14,u15,u16,u17,rfl,hW,f0,f1,f2,f3,f4,f5,f6⟩:=hI
    rcases i with _|_|_|_|_|_|_|i<;>try cases hi
    ·refine bf rfl rfl rfl rfl (C3.below' hW) eH rfl ?_
     exact aL <| (⟨rfl,hW,λ_=>rfl,ro f1,ro f2,ro f3,ro f4,ro f5,ro f6⟩)
    ·refine bf rfl rfl rfl rfl (C0.below' hW) eH rfl ?_
     exact aL <| (⟨rfl,hW,ro f0,λ_=>rfl,ro f2,ro f3,ro f4,ro f5,ro f6⟩)
    ·refine bf rfl rfl rfl rfl (C1.below' hW) eH rfl ?_
     exact aL <| (⟨rfl,hW,ro f0,ro f1,λ_=>rfl,ro f3,ro f4,ro f5,ro f6⟩)
    ·refine af (v:=.int .i64 i) rfl rfl rfl ?_
     exact aL <| (⟨rfl,hW,ro f0,ro f1,ro f2,λ_=>rfl,ro f4,ro f5,ro f6⟩)
    ·obtain rfl:=f2 (aj hall 2 rfl)
     obtain rfl:=f3 (aj hall 3 rfl)
     refine aV 163 rfl rfl rfl func163 (by kernel_rfl) (by kernel_rfl) (agm y i hy hlt W) ?_
     intro W' hW'
     exact aL <| (⟨rfl,bC hW hW',ro f0,ro f1,ro f2,ro f3,λ_=>rfl,ro f5,ro f6⟩)
    ·obtain rfl:=f0 (aj hall 0 rfl)
     obtain rfl:=f1 (aj hall 1 rfl)
     obtain rfl:=f4 (aj hall 4 rfl)
     refine aV 160 rfl rfl rfl func160 (by kernel_rfl) (by kernel_rfl) (tO S x (y/2^i%2) hS hx hle W) ?_
     intro W' hW'
     exact aL <| (⟨rfl,bC hW hW',ro f0,ro f1,ro f2,ro f3,ro f4,λ_=>rfl,ro f6⟩)
    ·obtain rfl:=f5 (aj hall 5 rfl)
     refine aV 162 rfl rfl rfl func162 (by kernel_rfl) (by kernel_rfl) (abA (S^^^y/2^i%2*x) hT W) ?_
     intro W' hW'
     exact aL <| (⟨rfl,bC hW hW',ro f0,ro f1,ro f2,ro f3,ro f4,ro f5,λ_=>rfl⟩)
    ·exfalso;omega
   ·rintro D bP W ⟨u10,u11,u12,u13,u14,u15,u16,u17,rfl,hW,f0,f1,f2,f3,f4,f5,f6⟩ hall
    obtain rfl:=f0 (hall 0 (by decide))
    obtain rfl:=f1 (hall 1 (by decide))
    obtain rfl:=f2 (hall 2 (by decide))
    obtain rfl:=f3 (hall 3 (by decide))
    obtain rfl:=f4 (hall 4 (by decide))
    obtain rfl:=f5 (hall 5 (by decide))
    obtain rfl:=f6 (hall 6 (by decide))
    clear f0 f1 f2 f3 f4 f5 f6 hall
    have PK:=C0.below' hW
    have PI:=C1.below' hW
    have nW:=C2.below' hW
    have agO:=C3.below' hW
    have aG:=bC bH hW
    have D3:=agO.row (ints .u64 (W2 (down D1 (S^^^y/2^i%2*x))))
    have D0:=PK.aM (show w.heap.size≠w.heap.size+3 by omega) (ints .u64 (W2 (down D1 (S^^^y/2^i%2*x))))
    have D1':=PI.aM (show w.heap.size+1≠w.heap.size+3 by omega) (ints .u64 (W2 (down D1 (S^^^y/2^i%2*x))))
    have D2:=nW.aM (show w.heap.size+2≠w.heap.size+3 by omega) (ints .u64 (W2 (down D1 (S^^^y/2^i%2*x))))
    have aY:=az aG (show w.heap.size<=w.heap.size+3 by omega) (ints .u64 (W2 (down D1 (S^^^y/2^i%2*x))))
    refine bJ rfl rfl rfl rfl rfl agO rfl eH rfl ?_
    clear PK PI nW agO aG C0 C1 C2 C3 hW
    rw[←HX.out] at D0 D1' D2 D3 aY ⊢
    go_wp2
    exact⟨⟨i+1,by omega,by go_num,D0,D1',D2,D3,aY⟩,by simp[intOf]<;>omega⟩
  ·obtain rfl:i=128:=by omega
   have he:qK D1 x y 128=dot R1 D1 x y:=Gf.Dn Gf.AJ hx y 128
   rw[he] at C3
   clear he
   go_wp2_with ((first|(refine ag rfl 149 _ rfl (w.heap.size+3) rfl C3 eH rfl ?_)|(refine aa rfl 149 _ _ rfl (w.heap.size+2) rfl rfl C2 (ah _ _) eH rfl ?_));(try simp only[nn,Nat.reduceAdd]))
   exact aO rfl rfl (C2.row _) eH rfl ⟨rfl,az bH (by omega) _⟩
open Go.RowKit
open Gf (W2 up down dI ja bV mul dot qK R1 D1)
def eT (xs ys:List Nat):List Nat:=(List.range 16).map λi=>xs.getD i 0^^^ys.getD i 0
theorem cK (xs ys:List Nat):(eT xs ys).length=16:=by simp[eT]
theorem xor8 {a b:Nat}(ha:a<256)(hb:b<256):a^^^b<256:=Nat.xor_lt_two_pow (n:=8) ha hb
theorem jJ {xs ys:List Nat}(hx:∀x∈xs,x<256)(hy:∀x∈ys,x<256):∀x∈eT xs ys,x<256:=λx h=>by
 obtain⟨i,-,rfl⟩:=List.mem_map.1 h
 exact xor8 (aC hx (by omega) i) (aC hy (by omega) i)
def qI (xs ys:List Nat)(k:Nat):List Nat:=(eT xs ys).take k++xs.drop k
theorem oq {xs ys:List Nat}{k:Nat}(hl:xs.length=16)(hk:k<=16):(qI xs ys k).length=16:=by simp[qI,cK,hl];omega
theorem gD (xs ys:List Nat){i:Nat}(hi:i<16):(eT xs ys).getD i 0=xs.getD i 0^^^ys.getD i 0:=by
 unfold eT
 rw[List.getD_eq_getElem?_getD,List.getElem?_map,List.getElem?_range hi];rfl
theorem Ev {xs:List Nat}{k v:Nat}(hk:k<xs.length)(hv:xs.getD k 0=v):xs.take (k+1)=xs.take k++[v]:=by
 rw[List.take_add_one,getD_lt hk,hv];rfl
theorem ow {xs ys:List Nat}{k:Nat}(hl:xs.length=16)(hk:k<16):(qI xs ys k).getD k 0=xs.getD k 0:=by
 unfold qI
 rw[List.getD_eq_getElem?_getD,List.getD_eq_getElem?_getD,List.getElem?_append_right (by simp[cK];omega),List.getElem?_drop,List.length_take,cK,Nat.min_eq_left (by omega),Nat.sub_self,Nat.add_zero]
theorem oo {xs ys:List Nat}{k:Nat}(hl:xs.length=16)(hk:k<16):(qI xs ys k).set k (xs.getD k 0^^^ys.getD k 0)=qI xs ys (k+1):=by
 unfold qI
 rw[List.set_append_right _ _ (by simp[cK];omega),List.length_take,cK,Nat.min_eq_left (by omega),Nat.sub_self,List.drop_eq_getElem_cons (by omega),List.set_cons_zero,Ev (by rw[cK];exact hk) (gD xs ys hk),List.append_assoc];rfl
theorem tC {a b:Nat}(ha:a<256)(hb:b<256):bits BinOp.xor IntKind.u8 (a:Int) (b:Int)=((a^^^b:Nat):Int):=u8_xor_nat a b ha hb
def yK (xs:List Nat):List Nat:=(List.range 16).map λi=>if i<15 then (xs.getD i 0*2%256) ||| (xs.getD (i+1) 0/128) else (xs.getD 15 0*2%256)^^^(xs.getD 0 0/128*135)
theorem GI (xs:List Nat):(yK xs).length=16:=by simp[yK]
theorem vG (xs:List Nat){i:Nat}(hi:i<16):(yK xs).getD i 0=if i<15 then (xs.getD i 0*2%256) ||| (xs.getD (i+1) 0/128) else (xs.getD 15 0*2%256)^^^(xs.getD 0 0/128*135):=by
 unfold yK
 rw[List.getD_eq_getElem?_getD,List.getElem?_map,List.getElem?_range hi];rfl
theorem uy (xs:List Nat)(hl:xs.length=16)(hb:∀x∈xs,x<256)(w:World) :
  Calls prog 197 #[.agg (ints .u8 xs)] w λe w'=>e=.returned (.agg (ints .u8 (yK xs)))/\Below w.heap.size w w':=by
 have B0:=((aA.new w 96 (ints .u8 xs)).alloc (.cells (ints .u8 (zeros 16)) 96)).alloc (.cells (ints .u8 (zeros 16)) 96)
 have B1:=(aA.new (w.alloc (.cells (ints .u8 xs) 96)) 96 (ints .u8 (zeros 16))).alloc (.cells (ints .u8 (zeros 16)) 96)
 have B2:=aA.new ((w.alloc (.cells (ints .u8 xs) 96)).alloc (.cells (ints .u8 (zeros 16)) 96)) 96 (ints .u8 (zeros 16))
 rw[World.size_alloc] at B1
 rw[World.size_alloc,World.size_alloc] at B2
 simp only[Nat.add_assoc,Nat.reduceAdd] at B2
 have hbel:=((bN w (.cells (ints .u8 xs) 96)).alloc (by simp) (.cells (ints .u8 (zeros 16)) 96)).alloc (by simp;omega) (.cells (ints .u8 (zeros 16)) 96)
 have hdl:=GI xs
 go_enter func197,ntmps197
 go_wp2_with (refine ae rfl 96 rfl fw ?_;(try simp only[nn,Nat.reduceAdd]))
 generalize (((w.alloc (.cells (ints .u8 xs) 96)).alloc (.cells (ints .u8 (zeros 16)) 96)).alloc (.cells (ints .u8 (zeros 16)) 96))=w1 at *
 go_loopw [5] (λt wr=>∃k:Nat,k<=15/\t=.int .i64 k/\aA wr w.heap.size 96 (ints .u8 xs)/\aA wr (w.heap.size+1) 96 (ints .u8 (zeros 16))/\aA wr (w.heap.size+2) 96 (ints .u8 ((yK xs).take k++zeros (16-k)))/\Below w.heap.size w wr) (λt wr=>15-(intOf t).toNat)
 case atStart=>exact⟨0,by omega,rfl,B0,B1,B2,hbel⟩
 case round =>
  rename_i hrel
  obtain⟨k,hk,rfl,C0,C1,C2,bH⟩:=hrel
  have hkl:((yK xs).take k++zeros (16-k)).length=16:=by simp[zeros,hdl];omega
  by_cases hlt:k<15
  ·have c0:=C0.int (i:=k) (by omega)
   have c1:=C0.int (i:=k+1) (by omega)
   have c2:=C2.int (i:=k) (by omega)
   have z2:=C2.frozen k
   have vx:=aC hb (by omega) k
   have vy:=aC hb (by omega) (k+1)
   have hv:=vG xs (i:=k) (by omega)
   rw[if_pos hlt] at hv
   have nW:=C2.dw k (xs.getD k 0*2%256 ||| xs.getD (k+1) 0/128)
   rw[take_set hdl (by omega) hv] at nW
   have HC:=aR nW
   have hor:bits BinOp.or IntKind.u8 (((xs.getD k 0:Nat):Int)*2%256) (((xs.getD (k+1) 0:Nat):Int)/128)=((xs.getD k 0*2%256 ||| xs.getD (k+1) 0/128:Nat):Int):=by
    rw[show ((xs.getD k 0:Nat):Int)*2%256=((xs.getD k 0*2%256:Nat):Int) by simp,show (((xs.getD (k+1) 0:Nat):Int)/128)=((xs.getD (k+1) 0/128:Nat):Int) by simp,u8_or_nat _ _ (by omega) (by omega)]
   have HX:=aR hor
   clear nW hv hor hkl
   generalize xs.getD k 0=x at *
   generalize xs.getD (k+1) 0=y at *
   go_wp2
   go_region
   all_goals
    rw[HX.out]
    go_wp2
    exact⟨⟨k+1,by omega,by go_num,(C0.far (by first|omega|(simp;done)|(simp;omega)) _).drew,(C1.far (by first|omega|(simp;done)|(simp;omega)) _).drew,HC.out.drew,(bH.setCell (by first|omega|(simp;done)|(simp;omega)) _).drew⟩,by simp[intOf]<;>omega⟩
  ·obtain rfl:k=15:=by omega
   have c0:=C0.int (i:=15) (by omega)
   have c1:=C0.int (i:=0) (by omega)
   have c2:=C2.int (i:=15) (by omega)
   have z2:=C2.frozen 15
   have vx:=aC hb (by omega) 15
   have vy:=aC hb (by omega) 0
   have hv:=vG xs (i:=15) (by omega)
   rw[if_neg (by omega)] at hv
   have nW:=C2.dw 15 (xs.getD 15 0*2%256^^^xs.getD 0 0/128*135)
   rw[take_set hdl (by omega) hv] at nW
   have he:(yK xs).take (15+1)++zeros (16-(15+1))=yK xs:=by rw[List.take_of_length_le (by omega)];simp[zeros]
   rw[he] at nW
   clear hv he hkl
   generalize xs.getD 15 0=x at *
   generalize xs.getD 0 0=y at *
   have zR:bits BinOp.xor IntKind.u8 ((x:Int)*2%256) ((y:Int)/128*135)=((x*2%256^^^y/128*135:Nat):Int):=by
    rw[show (x:Int)*2%256=((x*2%256:Nat):Int) by simp,show (y:Int)/128*135=((y/128*135:Nat):Int) by simp,tC (by omega) (by omega)]
   rw[←zR] at nW
   have PI:=C1.far (p:=⟨w.heap.size+2,15,none⟩) (by first|omega|(simp;done)|(simp;omega)) (.int .u8 (bits BinOp.xor IntKind.u8 ((x:Int)*2%256) ((y:Int)/128*135)))
   have aB:=bH.setCell (p:=⟨w.heap.size+2,15,none⟩) (by first|omega|(simp;done)|(simp;omega)) (.int .u8 (bits BinOp.xor IntKind.u8 ((x:Int)*2%256) ((y:Int)/128*135)))
   clear zR
   go_wp2_with ((first|(refine ag rfl 96 _ rfl (w.heap.size+2) rfl nW aD hdl ?_)|(refine aa rfl 96 _ _ rfl (w.heap.size+1) rfl rfl PI (ah _ _) aD hdl ?_));(try simp only[nn,Nat.reduceAdd]))
   exact aO rfl rfl (PI.row _) aD hdl ⟨rfl,az aB (by omega) _⟩
def Yb:List Nat:=[0,0,0,0,0,0,0,0,0,0,0,0,0,0,0,135]
theorem agq:ints .u8 Yb=#[.int .u8 0,.int .u8 0,.int .u8 0,.int .u8 0,.int .u8 0,.int .u8 0,.int .u8 0,.int .u8 0,.int .u8 0,.int .u8 0,.int .u8 0,.int .u8 0,.int .u8 0,.int .u8 0,.int .u8 0,.int .u8 135]:=by kernel_rfl
open Go.RowKit
open Gf (W2 up down dI ja bV mul dot qK R1 D1)
theorem Wo {xs ys:List Nat}(hl:xs.length=16)(hb:∀x∈xs,x<256)(hl':ys.length=16)(hb':∀x∈ys,x<256):num (eT xs ys)=num xs^^^num ys:=by
 have key:∀(n:Nat) (f g:Nat->Nat),(∀i,f i<256)->(∀i,g i<256)->dL 256 ((List.range n).map λi=>f i^^^g i)=dL 256 ((List.range n).map f)^^^dL 256 ((List.range n).map g):=by
  intro n
  induction n with
  | zero=>intro f g _ _;simp[dL]
  | succ n ih =>
   intro f g hf hg
   rw[List.range_succ,List.map_append,List.map_append,List.map_append,eB,eB,eB,ih f g hf hg]
   simp only[List.length_map,List.length_range,List.map_cons,List.map_nil,dL,Nat.mul_zero,Nat.add_zero]
   have l1:dL 256 ((List.range n).map f)<256^n:=by
    have:=tq ((List.range n).map f) (b:=256) (λx hx=>by obtain⟨i,-,rfl⟩:=List.mem_map.1 hx;exact hf i)
    rw[List.length_map,List.length_range] at this
    exact this
   have l2:dL 256 ((List.range n).map g)<256^n:=by
    have:=tq ((List.range n).map g) (b:=256) (λx hx=>by obtain⟨i,-,rfl⟩:=List.mem_map.1 hx;exact hg i)
    rw[List.length_map,List.length_range] at this
    exact this
   generalize dL 256 ((List.range n).map f)=u at *
   generalize dL 256 ((List.range n).map g)=v at *
   have e8:(256:Nat)^n=2^(8*n):=by rw[Nat.pow_mul]
   rw[e8] at l1 l2 ⊢
   rw[Nat.mul_comm _ (f n),Nat.mul_comm _ (g n),Nat.mul_comm _ (f n^^^g n),←Gf.sK (8*n) l1,←Gf.sK (8*n) l2,←Gf.sK (8*n) (Nat.xor_lt_two_pow l1 l2),Gf.Vu]
   congr 1
   apply Gf.qG;intro j
   rw[Nat.testBit_xor,Nat.testBit_mul_two_pow,Nat.testBit_mul_two_pow,Nat.testBit_mul_two_pow,Nat.testBit_xor]
   cases decide (8*n<=j)<;>simp
 have h:=key 16 (λi=>xs.getD i 0) (λi=>ys.getD i 0) (λi=>aC hb (by omega) i) (λi=>aC hb' (by omega) i)
 rw[oQ hl,oQ hl'] at h
 exact h
theorem TZ {m n:Nat}(hm:m<2^128)(hn:n<2^128):eT (elem m) (elem n)=elem (m^^^n):=by
 have h:=Wo (jB m) (qD m) (jB n) (qD n)
 rw[xS hm,xS hn] at h
 rw[←h,yG (cK _ _) (jJ (qD m) (qD n))]
open Gf (up dI bV mul)
def R2:Nat:=135
theorem qa:R2<2^128:=by decide
def kM (xs:List Nat):Nat:=num xs.reverse
def bu (n:Nat):List Nat:=(elem n).reverse
theorem bT (n:Nat):(bu n).length=16:=by simp[bu,jB]
theorem dV (n:Nat):∀x∈bu n,x<256:=λx hx=>qD n x (by simpa [bu] using hx)
theorem uH {xs:List Nat}(hl:xs.length=16)(hb:∀x∈xs,x<256):kM xs<2^128:=vv (by simpa using hl) (λx hx=>hb x (by simpa using hx))
theorem kI {n:Nat}(h:n<2^128):kM (bu n)=n:=by unfold kM bu;rw[List.reverse_reverse,xS h]
theorem nT {xs:List Nat}(hl:xs.length=16)(hb:∀x∈xs,x<256):bu (kM xs)=xs:=by
 unfold kM bu;rw[yG (by simpa using hl) (λx hx=>hb x (by simpa using hx)),List.reverse_reverse]
theorem tL {xs:List Nat}(hl:xs.length=16){i:Nat}(hi:i<16):xs.reverse.getD i 0=xs.getD (15-i) 0:=by
 rw[List.getD_eq_getElem?_getD,List.getD_eq_getElem?_getD,List.getElem?_reverse (by omega),hl,show 16-1-i=15-i by omega]
theorem Br (n:Nat){i:Nat}(hi:i<16):(elem n).getD i 0=n/256^i%256:=uz 256 16 n i hi
theorem AO {xs:List Nat}(hl:xs.length=16)(hb:∀x∈xs,x<256){i:Nat}(hi:i<16):xs.getD i 0=num xs/256^i%256:=by
 rw[←Br (num xs) hi,yG hl hb]
theorem za (n:Nat){i:Nat}(hi:i<16):(bu n).getD i 0=n/256^(15-i)%256:=by
 unfold bu;rw[tL (jB n) hi,Br n (by omega)]
theorem kH {xs:List Nat}(hl:xs.length=16)(hb:∀x∈xs,x<256){i:Nat}(hi:i<16):xs.getD i 0=kM xs/256^(15-i)%256:=by
 rw[←za _ hi,nT hl hb]
theorem eP {xs ys:List Nat}(hl:xs.length=16)(hl':ys.length=16)(h:∀i,i<16->xs.getD i 0=ys.getD i 0):xs=ys:=by
 apply List.ext_getElem? λi=>?_
 by_cases hi:i<16
 ·rw[getD_lt (by omega),getD_lt (by omega),h i hi]
 ·rw[List.getElem?_eq_none (by omega),List.getElem?_eq_none (by omega)]
theorem Np (a b j:Nat):(a^^^b)/256^j%256=(a/256^j%256)^^^(b/256^j%256):=by
 rw[show (256:Nat)^j=2^(8*j) by rw[Nat.pow_mul],show (256:Nat)=2^8 by decide,←Nat.shiftRight_eq_div_pow,←Nat.shiftRight_eq_div_pow,←Nat.shiftRight_eq_div_pow,Nat.shiftRight_xor_distrib,Nat.xor_mod_two_pow]
theorem Pb (n j:Nat):2*n/256^(j+1)%256=(n/256^(j+1)%256*2%256)+n/256^j%256/128:=by
 have hK:0<256^j:=Nat.pow_pos (by omega)
 have e1:2*n/256^(j+1)=2*n/256^j/256:=by rw[Nat.div_div_eq_div_mul,←Nat.pow_succ]
 have e2:n/256^(j+1)=n/256^j/256:=by rw[Nat.div_div_eq_div_mul,←Nat.pow_succ]
 rw[e1,e2]
 have h:=Nat.div_add_mod n (256^j)
 have hr:=Nat.mod_lt n hK
 have e3:2*n/256^j=2*(n/256^j)+2*(n%256^j)/256^j:=by
  conv=>lhs;rw[←h]
  rw[Nat.mul_add,←Nat.mul_assoc,Nat.mul_comm 2 (256^j),Nat.mul_assoc,Nat.mul_add_div hK]
 have h2:2*(n%256^j)/256^j<2:=by
  rw[Nat.div_lt_iff_lt_mul hK];omega
 rw[e3]
 generalize n/256^j=m at *
 generalize 2*(n%256^j)/256^j=b at *
 omega
theorem Rq {a b:Nat}(ha:a<256)(hb:b<256):(a*2%256) ||| (b/128)=a*2%256+b/128:=by
 have:=Nat.two_pow_add_eq_or_of_lt (i:=1) (b:=b/128) (by omega) (a%128)
 rw[show 2^1*(a%128)=a*2%256 by omega] at this
 exact this.symm
theorem Ot (n j:Nat)(hj:j<16):n%2^128/256^j%256=n/256^j%256:=by
 have e:(2:Nat)^128=256^j*256^(16-j):=by rw[←Nat.pow_add,show j+(16-j)=16 by omega]
 rw[e,Nat.mod_mul_right_div_self,show 16-j=(15-j)+1 by omega,Nat.pow_succ,Nat.mul_comm,Nat.mod_mul_right_mod]
theorem VD {n:Nat}(h:n<2^128):n/256^15%256/128=if n.testBit 127 then 1 else 0:=by
 rw[Gf.UB n h]
 have:n/256^15%256/128=n/18446744073709551616/9223372036854775808:=by omega
 rw[this]
 have h2:n/18446744073709551616/9223372036854775808=0∨n/18446744073709551616/9223372036854775808=1:=by omega
 rcases h2 with h2|h2<;>rw[h2]<;>simp
theorem XL {xs:List Nat}(hl:xs.length=16)(hb:∀x∈xs,x<256):yK xs=bu (up R2 (kM xs)):=by
 have hn:=uH hl hb
 refine eP (GI xs) (bT _) λi hi=>?_
 rw[vG xs hi,za _ hi]
 unfold up
 rw[Np,Ot _ _ (by omega)]
 by_cases h:i<15
 ·rw[if_pos h,Rq (aC hb (by omega) _) (aC hb (by omega) _),kH hl hb (by omega),kH hl hb (i:=i+1) (by omega),show 15-i=15-(i+1)+1 by omega,Pb]
  have e0:(if (kM xs).testBit 127 then R2 else 0)/256^(15-(i+1)+1)%256=0:=by
   have:(if (kM xs).testBit 127 then R2 else 0)<256^(15-(i+1)+1):=by
    refine Nat.lt_of_lt_of_le (show _<256^1 by split<;>decide) (Nat.pow_le_pow_right (by omega) (by omega))
   rw[Nat.div_eq_of_lt this]
  rw[e0,Nat.xor_zero]
 ·obtain rfl:i=15:=by omega
  rw[if_neg h,kH hl hb (i:=15) (by omega),kH hl hb (i:=0) (by omega),show 15-15=0 by omega,show 15-0=15 by omega,VD hn,Nat.pow_zero,Nat.div_one,Nat.div_one,Nat.div_one]
  congr 1
  ·omega
  ·cases (kM xs).testBit 127<;>simp[R2]
theorem Qm {xs ys:List Nat}(hl:xs.length=16)(hl':ys.length=16):(eT xs ys).reverse=eT xs.reverse ys.reverse:=by
 refine eP (by simp[cK]) (cK _ _) λi hi=>?_
 rw[tL (cK _ _) hi,gD _ _ (by omega),gD _ _ hi,tL hl hi,tL hl' hi]
theorem Ps {m n:Nat}(hm:m<2^128)(hn:n<2^128):eT (bu m) (bu n)=bu (m^^^n):=by
 unfold bu
 rw[←Qm (jB m) (jB n),TZ hm hn]
open Go.RowKit
open Gf (up dI bV mul)
def VI (b:Bool)(xs ys:List Nat):List Nat:=if b then eT xs ys else xs
theorem ZI (p q:Nat)(xs ys:List Nat)(hl:xs.length=16)(hb:∀x∈xs,x<256)(hl':ys.length=16)(hb':∀x∈ys,x<256)(w:World)(A0:aA w p 96 (ints .u8 xs))(A1:aA w q 96 (ints .u8 ys)) :
  Calls prog 42 #[.slice (some ⟨p,0,none⟩) 16 16,.slice (some ⟨q,0,none⟩) 16 16] w λe w'=>e=.returned (.slice (some ⟨w.heap.size,0,none⟩) 16 16)/\Below w.heap.size w w'/\aA w' w.heap.size 5 (ints .u8 (eT xs ys)):=by
 have hmk:∀W:World,(Instr.makeSlice 23 (.int .i64 16) (.int .i64 16)).run prog W=.ok (.slice (some ⟨W.heap.size,0,none⟩) 16 16) (W.alloc (.cells (ints .u8 (zeros 16)) 5)):=λ_=>by kernel_rfl
 have hxl:=cK xs ys
 have hp:=A0.lt
 have hq:=A1.lt
 go_enter func42,ntmps42
 go_wp2
 go_loopw [15] (λt wr=>∃k:Nat,k<=16/\t=.int .i64 k/\aA wr p 96 (ints .u8 xs)/\aA wr q 96 (ints .u8 ys)/\aA wr w.heap.size 5 (ints .u8 ((eT xs ys).take k++zeros (16-k)))/\Below w.heap.size w wr) (λt wr=>16-(intOf t).toNat)
 case atStart=>exact⟨0,by omega,rfl,A0.alloc _,A1.alloc _,aA.new _ _ _,bN _ _⟩
 case round =>
  rename_i hrel
  obtain⟨k,hk,rfl,C0,C1,C2,bH⟩:=hrel
  by_cases hlt:k<16
  ·have hll:((eT xs ys).take k++zeros (16-k)).length=16:=by simp[zeros,hxl];omega
   have c0:=C0.int (i:=k) (by omega)
   have c1:=C1.int (i:=k) (by omega)
   have c2:=C2.int (i:=k) (by omega)
   have z2:=C2.frozen k
   have vx:=aC hb (by omega) k
   have vy:=aC hb' (by omega) k
   have hv:=gD xs ys hlt
   have nW:=C2.dw k (xs.getD k 0^^^ys.getD k 0)
   rw[take_set hxl hlt hv] at nW
   have HC:=aR nW
   have HX:=aR (tC vx vy)
   clear nW hll hv
   generalize xs.getD k 0=x at *
   generalize ys.getD k 0=y at *
   go_wp2
   go_region
   all_goals
    rw[HX.out]
    go_wp2
    exact⟨⟨k+1,by omega,by go_num,(C0.far (by first|omega|(simp;done)|(simp;omega)) _).drew,(C1.far (by first|omega|(simp;done)|(simp;omega)) _).drew,HC.out.drew,(bH.setCell (by first|omega|(simp;done)|(simp;omega)) _).drew⟩,by simp[intOf]<;>omega⟩
  ·obtain rfl:k=16:=by omega
   have he:(eT xs ys).take 16++zeros (16-16)=eT xs ys:=by rw[List.take_of_length_le (by omega)];simp[zeros]
   rw[he] at C2
   go_wp2
   go_ret
   exact⟨rfl,bH,C2⟩
theorem QN (xs ys:List Nat)(b:Bool)(hl:xs.length=16)(hb:∀x∈xs,x<256)(hl':ys.length=16)(hb':∀x∈ys,x<256)(w:World) :
  Calls prog 196 #[.agg (ints .u8 xs),.agg (ints .u8 ys),.bool b] w λe w'=>e=.returned (.agg (ints .u8 (VI b xs ys)))/\Below w.heap.size w w':=by
 have B0:=((aA.new w 96 (ints .u8 xs)).alloc (.cells (ints .u8 ys) 96)).alloc (.cells (ints .u8 (zeros 16)) 96)
 have B1:=(aA.new (w.alloc (.cells (ints .u8 xs) 96)) 96 (ints .u8 ys)).alloc (.cells (ints .u8 (zeros 16)) 96)
 have B2:=aA.new ((w.alloc (.cells (ints .u8 xs) 96)).alloc (.cells (ints .u8 ys) 96)) 96 (ints .u8 (zeros 16))
 rw[World.size_alloc] at B1
 rw[World.size_alloc,World.size_alloc] at B2
 simp only[Nat.add_assoc,Nat.reduceAdd] at B2
 have hbel:=((bN w (.cells (ints .u8 xs) 96)).alloc (by simp) (.cells (ints .u8 ys) 96)).alloc (by simp;omega) (.cells (ints .u8 (zeros 16)) 96)
 have hxl:=cK xs ys
 cases b
 ·have aB:=az hbel (show w.heap.size<=w.heap.size+2 by omega) (ints .u8 xs)
  go_enter func196,ntmps196
  go_wp2_with ((first|(refine ae rfl 96 rfl fw ?_)|(refine ag rfl 96 _ rfl w.heap.size rfl B0 aD hl ?_)|(refine aa rfl 96 _ _ rfl (w.heap.size+2) rfl rfl B2 (ah _ _) aD hl ?_));(try simp only[nn,Nat.reduceAdd]))
  exact aO rfl rfl (B2.row _) aD hl ⟨rfl,aB⟩
 ·go_enter func196,ntmps196
  go_wp2_with (refine ae rfl 96 rfl fw ?_;(try simp only[nn,Nat.reduceAdd]))
  generalize (((w.alloc (.cells (ints .u8 xs) 96)).alloc (.cells (ints .u8 ys) 96)).alloc (.cells (ints .u8 (zeros 16)) 96))=w1 at *
  go_still_tail 2,(by kernel_rfl)
  change wpList _ _ _ _ _ w1.drew
  replace B0:=B0.drew
  replace B1:=B1.drew
  replace B2:=B2.drew
  replace hbel:=hbel.drew
  generalize w1.drew=w2 at *
  go_wp2_with (fail)
  refine(ZI _ _ xs ys hl hb hl' hb' _ B0 B1).mono ?_
  rintro e w3 ⟨rfl,hb3,D3⟩
  have D2:=B2.below' hb3
  have aG:=bC hbel hb3
  have hs:=Sl.blk D3
  go_wp2_with (fail)
  have hbk:=fB (some ⟨w2.heap.size,0,none⟩) 16 (eT xs ys) _ hs
  rw[hxl] at hbk
  refine hbk.mono ?_
  rintro e w4 ⟨rfl,hb4⟩
  have E2:=D2.below' hb4
  have aY:=bC aG hb4
  have hbn:aU (eT xs ys)=eT xs ys:=by
   refine eP (bG _) hxl λi hi=>?_
   unfold aU
   rw[List.getD_eq_getElem?_getD,List.getElem?_map,List.getElem?_range hi];rfl
  rw[hbn]
  go_wp2_with (refine aa rfl 96 _ _ rfl (w.heap.size+2) rfl rfl E2 (ah _ _) aD hxl ?_;(try simp only[nn,Nat.reduceAdd]))
  exact aO rfl rfl (E2.row _) aD hxl ⟨rfl,az aY (by omega) _⟩
open Go.RowKit
open Gf (up dI bV mul)
theorem vW (R a n i:Nat)(h:n<2^i):∀k,bV R a n (i+k)=bV R a n i
 | 0=>rfl
 | k+1=>by
  show bV R a n (i+k)^^^(if n.testBit (i+k) then dI R (i+k) a else 0)=_
  rw[vW R a n i h k,Nat.testBit_lt_two_pow (Nat.lt_of_lt_of_le h (Nat.pow_le_pow_right (by omega) (by omega)))]
  simp
theorem Oo (R a n i:Nat)(hi:i<=128)(h:n<2^i):mul R a n=bV R a n i:=by
 have:=vW R a n i h (128-i)
 rw[show i+(128-i)=128 by omega] at this
 exact this
theorem Ez {S X:Nat}(hS:S<2^128)(hX:X<2^128):VI true (bu S) (bu X)=bu (S^^^1*X):=by
 rw[Nat.one_mul,←Ps hS hX];rfl
theorem Aq {S X:Nat}(hS:S<2^128)(hX:X<2^128):VI false (bu S) (bu X)=bu (S^^^0*X):=by
 rw[Nat.zero_mul,Nat.xor_zero];rfl
theorem nP {X:Nat}(hX:X<2^128):yK (bu X)=bu (up R2 X):=by
 rw[XL (bT X) (dV X),kI hX]
theorem yZ:bu 0=zeros 16:=by decide
theorem rQ (n:Nat)(xs:List Nat)(hn:n<2^64)(hl:xs.length=16)(hb:∀x∈xs,x<256)(w:World) :
  Calls prog 193 #[.int .u64 n,.agg (ints .u8 xs)] w λe w'=>e=.returned (.agg (ints .u8 (bu (mul R2 (kM xs) n))))/\Below w.heap.size w w':=by
 have hx:=uH hl hb
 have hxe:=nT hl hb
 have B0:=((aA.new w 96 (ints .u8 xs)).alloc (.cells (ints .u8 (zeros 16)) 96)).alloc (.cells (ints .u8 (zeros 16)) 96)
 have B1:=(aA.new (w.alloc (.cells (ints .u8 xs) 96)) 96 (ints .u8 (zeros 16))).alloc (.cells (ints .u8 (zeros 16)) 96)
 have B2:=aA.new ((w.alloc (.cells (ints .u8 xs) 96)).alloc (.cells (ints .u8 (zeros 16)) 96)) 96 (ints .u8 (zeros 16))
 rw[World.size_alloc] at B1
 rw[World.size_alloc,World.size_alloc] at B2
 simp only[Nat.add_assoc,Nat.reduceAdd] at B2
 have hbel:=((bN w (.cells (ints .u8 xs) 96)).alloc (by simp) (.cells (ints .u8 (zeros 16)) 96)).alloc (by simp;omega) (.cells (ints .u8 (zeros 16)) 96)
 go_enter func193,ntmps193
 go_wp2_with (refine ae rfl 96 rfl fw ?_;(try simp only[nn,Nat.reduceAdd]))
 generalize (((w.alloc (.cells (ints .u8 xs) 96)).alloc (.cells (ints .u8 (zeros 16)) 96)).alloc (.cells (ints .u8 (zeros 16)) 96))=w1 at *
 rw[←hxe] at B0
 generalize hxd:kM xs=x at *
 have Yo:=aR hxd
 clear hxe hxd
 go_loopw [0] (λt wr=>∃i:Nat,i<=64/\t=.int .u64 ((n/2^i:Nat):Int)/\aA wr w.heap.size 96 (ints .u8 (bu (dI R2 i x)))/\aA wr (w.heap.size+1) 96 (ints .u8 (zeros 16))/\aA wr (w.heap.size+2) 96 (ints .u8 (bu (bV R2 x n i)))/\Below w.heap.size w wr) (λt wr=>(intOf t).toNat)
 case atStart=>exact⟨0,by omega,by rw[Nat.pow_zero,Nat.div_one],B0,B1,by rw[show bu (bV R2 x n 0)=zeros 16 from yZ];exact B2,hbel⟩
 case round =>
  rename_i hrel
  obtain⟨i,hi,rfl,C0,C1,C2,bH⟩:=hrel
  have hX:=Gf.jE qa hx i
  have hS:=Gf.tT qa hx n i
  have hv64:n/2^i<18446744073709551616:=Nat.lt_of_le_of_lt (Nat.div_le_self _ _) hn
  have hstep:n/2^(i+1)=n/2^i/2:=by rw[Nat.pow_succ,Nat.div_div_eq_div_mul]
  by_cases hlt:0<n/2^i
  ·have hi64:i<64:=by
    apply Classical.byContradiction;intro hc
    obtain rfl:i=64:=by omega
    rw[Nat.div_eq_of_lt hn] at hlt;omega
   have hnx:bV R2 x n (i+1)=bV R2 x n i^^^n/2^i%2*dI R2 i x:=by
    show bV R2 x n i^^^_=_
    rw[Gf.JJ]
   have Il:dI R2 (i+1) x=up R2 (dI R2 i x):=rfl
   have hand:=and1 (n/2^i) hv64
   have HS:=aR hstep
   clear hstep
   rcases Nat.mod_two_eq_zero_or_one (n/2^i) with h2|h2
   ·rw[h2] at hand hnx
    have HX:=aR hnx
    have HU:=aR Il
    clear hnx Il
    generalize bV R2 x n i=S at *
    generalize dI R2 i x=X at *
    generalize n/2^i=v at *
    have Vf:=bT S
    have Bc:=bT X
    have hq:decide ((v:Int)>0)=true:=by simp;omega
    go_wp2_with ((first|(refine ag rfl 96 _ rfl (w.heap.size+2) rfl C2 aD Vf ?_)|(refine ag rfl 96 _ rfl w.heap.size rfl C0 aD Bc ?_));(try simp only[nn,Nat.reduceAdd]))
    refine(QN (bu S) (bu X) false Vf (dV S) Bc (dV X) _).mono ?_
    rintro e w2 ⟨rfl,hb2⟩
    rw[Aq hS hX,←HX.out]
    have hln:=bT (bV R2 x n (i+1))
    have D0:=(C0.below' hb2).aM (show w.heap.size≠w.heap.size+2 by omega) (ints .u8 (bu (bV R2 x n (i+1))))
    have D1:=(C1.below' hb2).aM (show w.heap.size+1≠w.heap.size+2 by omega) (ints .u8 (bu (bV R2 x n (i+1))))
    have nW:=C2.below' hb2
    have D2:=nW.row (ints .u8 (bu (bV R2 x n (i+1))))
    have aB:=az (bC bH hb2) (show w.heap.size<=w.heap.size+2 by omega) (ints .u8 (bu (bV R2 x n (i+1))))
    have hsz2:(bu S).length=16:=Vf
    go_wp2_with ((first|(refine aa rfl 96 _ _ rfl (w.heap.size+2) rfl rfl nW (by rw[aF,hsz2]) aD hln ?_)|(refine ag rfl 96 _ rfl w.heap.size rfl D0 aD Bc ?_));(try simp only[nn,Nat.reduceAdd]))
    refine(uy (bu X) Bc (dV X) _).mono ?_
    rintro e w4 ⟨rfl,hb4⟩
    rw[nP hX,←HU.out]
    have WZ:=bT (dI R2 (i+1) x)
    have D0':=D0.below' hb4
    have E0:=D0'.row (ints .u8 (bu (dI R2 (i+1) x)))
    have E1:=(D1.below' hb4).aM (show w.heap.size+1≠w.heap.size by omega) (ints .u8 (bu (dI R2 (i+1) x)))
    have E2:=(D2.below' hb4).aM (show w.heap.size+2≠w.heap.size by omega) (ints .u8 (bu (dI R2 (i+1) x)))
    have aG:=az (bC aB hb4) (Nat.le_refl w.heap.size) (ints .u8 (bu (dI R2 (i+1) x)))
    go_wp2_with (refine aa rfl 96 _ _ rfl w.heap.size rfl rfl D0' (by rw[aF,Bc]) aD WZ ?_;(try simp only[nn,Nat.reduceAdd]))
    exact⟨⟨i+1,by omega,by rw[HS.out];go_num,E0,E1,E2,aG⟩,by simp[intOf]<;>omega⟩
   ·rw[h2] at hand hnx
    have HX:=aR hnx
    have HU:=aR Il
    clear hnx Il
    generalize bV R2 x n i=S at *
    generalize dI R2 i x=X at *
    generalize n/2^i=v at *
    have Vf:=bT S
    have Bc:=bT X
    have hq:decide ((v:Int)>0)=true:=by simp;omega
    go_wp2_with ((first|(refine ag rfl 96 _ rfl (w.heap.size+2) rfl C2 aD Vf ?_)|(refine ag rfl 96 _ rfl w.heap.size rfl C0 aD Bc ?_));(try simp only[nn,Nat.reduceAdd]))
    refine(QN (bu S) (bu X) true Vf (dV S) Bc (dV X) _).mono ?_
    rintro e w2 ⟨rfl,hb2⟩
    rw[Ez hS hX,←HX.out]
    have hln:=bT (bV R2 x n (i+1))
    have D0:=(C0.below' hb2).aM (show w.heap.size≠w.heap.size+2 by omega) (ints .u8 (bu (bV R2 x n (i+1))))
    have D1:=(C1.below' hb2).aM (show w.heap.size+1≠w.heap.size+2 by omega) (ints .u8 (bu (bV R2 x n (i+1))))
    have nW:=C2.below' hb2
    have D2:=nW.row (ints .u8 (bu (bV R2 x n (i+1))))
    have aB:=az (bC bH hb2) (show w.heap.size<=w.heap.size+2 by omega) (ints .u8 (bu (bV R2 x n (i+1))))
    have hsz2:(bu S).length=16:=Vf
    go_wp2_with ((first|(refine aa rfl 96 _ _ rfl (w.heap.size+2) rfl rfl nW (by rw[aF,hsz2]) aD hln ?_)|(refine ag rfl 96 _ rfl w.heap.size rfl D0 aD Bc ?_));(try simp only[nn,Nat.reduceAdd]))
    refine(uy (bu X) Bc (dV X) _).mono ?_
    rintro e w4 ⟨rfl,hb4⟩
    rw[nP hX,←HU.out]
    have WZ:=bT (dI R2 (i+1) x)
    have D0':=D0.below' hb4
    have E0:=D0'.row (ints .u8 (bu (dI R2 (i+1) x)))
    have E1:=(D1.below' hb4).aM (show w.heap.size+1≠w.heap.size by omega) (ints .u8 (bu (dI R2 (i+1) x)))
    have E2:=(D2.below' hb4).aM (show w.heap.size+2≠w.heap.size by omega) (ints .u8 (bu (dI R2 (i+1) x)))
    have aG:=az (bC aB hb4) (Nat.le_refl w.heap.size) (ints .u8 (bu (dI R2 (i+1) x)))
    go_wp2_with (refine aa rfl 96 _ _ rfl w.heap.size rfl rfl D0' (by rw[aF,Bc]) aD WZ ?_;(try simp only[nn,Nat.reduceAdd]))
    exact⟨⟨i+1,by omega,by rw[HS.out];go_num,E0,E1,E2,aG⟩,by simp[intOf]<;>omega⟩
  ·have h0:n/2^i=0:=Nat.eq_zero_of_not_pos hlt
   have hlt2:n<2^i:=by
    rcases Nat.div_eq_zero_iff.1 h0 with h|h
    ·exact absurd h (Nat.ne_of_gt (Nat.two_pow_pos i))
    ·exact h
   have hm:=Oo R2 x n i (by omega) hlt2
   rw[←hm] at C2 hS
   rw[h0]
   clear hstep hlt hv64 hm
   have hel:=bT (mul R2 x n)
   go_wp2_with ((first|(refine ag rfl 96 _ rfl (w.heap.size+2) rfl C2 aD hel ?_)|(refine aa rfl 96 _ _ rfl (w.heap.size+1) rfl rfl C1 (ah _ _) aD hel ?_));(try simp only[nn,Nat.reduceAdd]))
   exact aO rfl rfl (C1.row _) aD hel ⟨by rw[Yo.out],az bH (by omega) _⟩
section
variable {P:Program}{ops:Array Oper}{w:World}{Q:Act->Prop}{rest:List Oper}{o:Oper}{a:Act}
theorem mD {v:Value}(hw:Region.wanted o (yielded ops a.tmps)=true)(hr:(execOp a.eval o).run P w=.ok (.value v) w)(h:wpStill P ops w Q rest (a.put o.dst v)):wpStill P ops w Q (o::rest) a:=by
 unfold wpStill
 rw[if_pos hw]
 unfold Oper.still
 rw[hr,Oper.stillUpon_value]
 exact h
end
open Go.RowKit
open Gf (up dI bV mul)
section
variable {P:Program}{ops:Array Oper}{w:World}{Q:Act->Prop}{rest:List Oper}{o:Oper}{a:Act}
theorem nu {T g n t:Nat}{k:IntKind}{xs:List Nat}{x:Operand}(hw:Region.wanted o (yielded ops a.tmps)=true)(ho:o.op=.load T x)(hx:a.eval x=.pointer (some ⟨g,0,none⟩))(hb:aA w g t (ints k xs))(ha:dG P T n)(hl:xs.length=n)
  (h:wpStill P ops w Q rest (a.put o.dst (.agg (ints k xs)))):wpStill P ops w Q (o::rest) a:=by
 obtain⟨⟨d,h1,hd⟩,h2⟩:=ha
 refine mD hw ?_ h
 unfold execOp
 simp only[ho,hx,Instr.loadAt,Instr.sureAddr,Sem.run_bind,Sem.run_pure,Result.andThen_ok,run_loadVar_row w g t T _ _ _ hb h1 (by cases d<;>first|rfl|cases hd) (by rw[aF,hl];exact h2)]
end
theorem Uq (m r:Nat)(hr:r<8):m%256/2^r%2=m/2^r%2:=by
 have:r=0∨r=1∨r=2∨r=3∨r=4∨r=5∨r=6∨r=7:=by omega
 rcases this with h|h|h|h|h|h|h|h<;>subst h<;>omega
theorem Uw {xs:List Nat}(hl:xs.length=16)(hb:∀x∈xs,x<256)(i:Nat)(hi:i<128):xs.getD (15-i/8) 0/2^(i%8)%2=kM xs/2^i%2:=by
 rw[kH hl hb (i:=15-i/8) (by omega),Uq _ _ (by omega),show 15-(15-i/8)=i/8 by omega,Nat.div_div_eq_div_mul,show (256:Nat)=2^8 by decide,←Nat.pow_mul,←Nat.pow_add,show 8*(i/8)+i%8=i by omega]
theorem agw (a:Nat)(ha:a<256):bits BinOp.and IntKind.u8 (a:Int) 1=((a%2:Nat):Int):=by
 have h:=u8_and_nat a 1 ha (by omega)
 rw[Nat.and_one_is_mod] at h
 exact h
theorem dec1 (v:Nat):(((v:Nat):Int)==1)=decide (v=1):=by
 rw[Bool.eq_iff_iff,beq_iff_eq,decide_eq_true_eq]
 omega
theorem VH {S X v:Nat}(hS:S<2^128)(hX:X<2^128)(hv:v<2):VI (decide (v=1)) (bu S) (bu X)=bu (S^^^v*X):=by
 have:v=0∨v=1:=by omega
 rcases this with rfl|rfl
 ·exact Aq hS hX
 ·exact Ez hS hX
theorem jV (xs ys:List Nat)(hl:xs.length=16)(hb:∀x∈xs,x<256)(hl':ys.length=16)(hb':∀x∈ys,x<256)(w:World) :
  Calls prog 198 #[.agg (ints .u8 xs),.agg (ints .u8 ys)] w λe w'=>e=.returned (.agg (ints .u8 (bu (mul R2 (kM xs) (kM ys)))))/\Below w.heap.size w w':=by
 have hx:=uH hl hb
 have hy:=uH hl' hb'
 have hxe:=nT hl hb
 have B0:=(((aA.new w 96 (ints .u8 xs)).alloc (.cells (ints .u8 ys) 96)).alloc (.cells (ints .u8 (zeros 16)) 96)).alloc (.cells (ints .u8 (zeros 16)) 96)
 have B1:=((aA.new (w.alloc (.cells (ints .u8 xs) 96)) 96 (ints .u8 ys)).alloc (.cells (ints .u8 (zeros 16)) 96)).alloc (.cells (ints .u8 (zeros 16)) 96)
 have B2:=(aA.new ((w.alloc (.cells (ints .u8 xs) 96)).alloc (.cells (ints .u8 ys) 96)) 96 (ints .u8 (zeros 16))).alloc (.cells (ints .u8 (zeros 16)) 96)
 have B3:=aA.new (((w.alloc (.cells (ints .u8 xs) 96)).alloc (.cells (ints .u8 ys) 96)).alloc (.cells (ints .u8 (zeros 16)) 96)) 96 (ints .u8 (zeros 16))
 rw[World.size_alloc] at B1
 rw[World.size_alloc,World.size_alloc] at B2
 rw[World.size_alloc,World.size_alloc,World.size_alloc] at B3
 simp only[Nat.add_assoc,Nat.reduceAdd] at B2 B3
 have hbel:=(((bN w (.cells (ints .u8 xs) 96)).alloc (by simp) (.cells (ints .u8 ys) 96)).alloc (by simp;omega) (.cells (ints .u8 (zeros 16)) 96)).alloc (by simp;omega) (.cells (ints .u8 (zeros 16)) 96)
 go_enter func198,ntmps198
 go_wp2_with (refine ae rfl 96 rfl fw ?_;(try simp only[nn,Nat.reduceAdd]))
 generalize ((((w.alloc (.cells (ints .u8 xs) 96)).alloc (.cells (ints .u8 ys) 96)).alloc (.cells (ints .u8 (zeros 16)) 96)).alloc (.cells (ints .u8 (zeros 16)) 96))=w1 at *
 have hbit:=λi hi=>Uw hl' hb' i hi
 rw[←hxe] at B0
 generalize hxd:kM xs=x at *
 have Yo:=aR hxd
 generalize hyd:kM ys=y at *
 have Hyd:=aR hyd
 clear hxe hxd hyd
 go_loopw [7] (λt wr=>∃i:Nat,i<=128/\t=.int .i64 i/\aA wr w.heap.size 96 (ints .u8 (bu (dI R2 i x)))/\aA wr (w.heap.size+1) 96 (ints .u8 ys)/\aA wr (w.heap.size+2) 96 (ints .u8 (zeros 16))/\aA wr (w.heap.size+3) 96 (ints .u8 (bu (bV R2 x y i)))/\Below w.heap.size w wr) (λt wr=>128-(intOf t).toNat)
 case atStart=>exact⟨0,by omega,rfl,B0,B1,B2,by rw[show bu (bV R2 x y 0)=zeros 16 from yZ];exact B3,hbel⟩
 case round =>
  rename_i hrel
  obtain⟨i,hi,rfl,C0,C1,C2,C3,bH⟩:=hrel
  have hX:=Gf.jE qa hx i
  have hS:=Gf.tT qa hx y i
  by_cases hlt:i<128
  ·have hnx:bV R2 x y (i+1)=bV R2 x y i^^^y/2^i%2*dI R2 i x:=by
    show bV R2 x y i^^^_=_
    rw[Gf.JJ]
   have Il:dI R2 (i+1) x=up R2 (dI R2 i x):=rfl
   have hbi:=hbit i hlt
   rw[←hbi] at hnx
   have c1:=C1.int (i:=15-i/8) (by omega)
   have hv8:=aC hb' (by omega) (15-i/8)
   have hs8:ys.getD (15-i/8) 0/2^(i%8)<256:=Nat.lt_of_le_of_lt (Nat.div_le_self _ _) hv8
   have hand:=agw (ys.getD (15-i/8) 0/2^(i%8)) hs8
   clear hbi hbit
   generalize ys.getD (15-i/8) 0=b at *
   generalize hqd:i/8=q at *
   generalize hrd:i%8=r at *
   have hq1:(i:Int).tdiv 8=(q:Int):=by rw[Int.tdiv_eq_ediv_of_nonneg (by omega)];omega
   have hr1:(i:Int).tmod 8=(r:Int):=by rw[Int.tmod_eq_emod_of_nonneg (by omega)];omega
   have hpd:((15:Int)-(q:Int))=((15-q:Nat):Int):=by omega
   have hp:15-q<16:=by omega
   have hr0:r<8:=by omega
   have wq:IntKind.i64.wrap (q:Int)=(q:Int):=IntWalk.i64_in _ (by omega)
   have wp:IntKind.i64.wrap ((15-q:Nat):Int)=((15-q:Nat):Int):=IntWalk.i64_in _ (by omega)
   have wrr:IntKind.i64.wrap (r:Int)=(r:Int):=IntWalk.i64_in _ (by omega)
   generalize 15-q=p at *
   have hp1:(p:Int)<16:=by omega
   go_wp2
   refine wp_region_still_tail 12 (by kernel_rfl) (by kernel_rfl) ?_
   simp only[List.take_succ_cons,List.take_zero,List.drop_succ_cons,List.drop_zero]
   refine nu rfl rfl rfl C3.drew aD (bT _) ?_;(try simp only[nn,Nat.reduceAdd])
   refine nu rfl rfl rfl C0.drew aD (bT _) ?_;(try simp only[nn,Nat.reduceAdd])
   still_step
   still_step
   still_step
   still_step
   still_step
   still_step
   still_step
   repeat still_step
   refine wpStill_nil ?_
   rw[show ((b:Int)/2^r)=((b/2^r:Nat):Int) by simp,hand,dec1 (b/2^r%2)]
   have hv2:b/2^r%2<2:=Nat.mod_lt _ (by omega)
   change wpList _ _ _ _ _ wr.drew
   have D0:=C0.drew
   have D1:=C1.drew
   have D2:=C2.drew
   have D3:=C3.drew
   have aK:=bH.drew
   have HX:=aR hnx
   have HU:=aR Il
   clear hnx Il C0 C1 C2 C3 bH hand c1 wq wp wrr hq1 hr1
   generalize wr.drew=w2 at *
   generalize b/2^r%2=v at *
   generalize bV R2 x y i=S at *
   generalize dI R2 i x=X at *
   have Vf:=bT S
   have Bc:=bT X
   go_wp2_with (fail)
   refine(QN (bu S) (bu X) (decide (v=1)) Vf (dV S) Bc (dV X) _).mono ?_
   rintro e w3 ⟨rfl,hb2⟩
   rw[VH hS hX hv2,←HX.out]
   have hln:=bT (bV R2 x y (i+1))
   have E0:=(D0.below' hb2).aM (show w.heap.size≠w.heap.size+3 by omega) (ints .u8 (bu (bV R2 x y (i+1))))
   have E1:=(D1.below' hb2).aM (show w.heap.size+1≠w.heap.size+3 by omega) (ints .u8 (bu (bV R2 x y (i+1))))
   have E2:=(D2.below' hb2).aM (show w.heap.size+2≠w.heap.size+3 by omega) (ints .u8 (bu (bV R2 x y (i+1))))
   have D3':=D3.below' hb2
   have E3:=D3'.row (ints .u8 (bu (bV R2 x y (i+1))))
   have aB:=az (bC aK hb2) (show w.heap.size<=w.heap.size+3 by omega) (ints .u8 (bu (bV R2 x y (i+1))))
   go_wp2_with ((first|(refine aa rfl 96 _ _ rfl (w.heap.size+3) rfl rfl D3' (by rw[aF,Vf]) aD hln ?_)|(refine ag rfl 96 _ rfl w.heap.size rfl E0 aD Bc ?_));(try simp only[nn,Nat.reduceAdd]))
   refine(uy (bu X) Bc (dV X) _).mono ?_
   rintro e w4 ⟨rfl,hb4⟩
   rw[nP hX,←HU.out]
   have WZ:=bT (dI R2 (i+1) x)
   have E0':=E0.below' hb4
   have G0:=E0'.row (ints .u8 (bu (dI R2 (i+1) x)))
   have G1:=(E1.below' hb4).aM (show w.heap.size+1≠w.heap.size by omega) (ints .u8 (bu (dI R2 (i+1) x)))
   have G2:=(E2.below' hb4).aM (show w.heap.size+2≠w.heap.size by omega) (ints .u8 (bu (dI R2 (i+1) x)))
   have G3:=(E3.below' hb4).aM (show w.heap.size+3≠w.heap.size by omega) (ints .u8 (bu (dI R2 (i+1) x)))
   have aG:=az (bC aB hb4) (Nat.le_refl w.heap.size) (ints .u8 (bu (dI R2 (i+1) x)))
   go_wp2_with (refine aa rfl 96 _ _ rfl w.heap.size rfl rfl E0' (by rw[aF,Bc]) aD WZ ?_;(try simp only[nn,Nat.reduceAdd]))
   exact⟨⟨i+1,by omega,by go_num,G0,G1,G2,G3,aG⟩,by simp[intOf]<;>omega⟩
  ·obtain rfl:i=128:=by omega
   have he:bV R2 x y 128=mul R2 x y:=rfl
   rw[he] at C3
   have hel:=bT (mul R2 x y)
   go_wp2_with ((first|(refine ag rfl 96 _ rfl (w.heap.size+3) rfl C3 aD hel ?_)|(refine aa rfl 96 _ _ rfl (w.heap.size+2) rfl rfl C2 (ah _ _) aD hel ?_));(try simp only[nn,Nat.reduceAdd]))
   exact aO rfl rfl (C2.row _) aD hel ⟨by rw[Yo.out,Hyd.out],az bH (by omega) _⟩
open Go.RowKit
open Gf (up dI bV mul)
theorem agv (a:Nat)(ha:a<9223372036854775808):bits BinOp.and IntKind.i64 (a:Int) 1=((a%2:Nat):Int):=by
 show IntKind.i64.wrap ((BitVec.ofInt 64 (a:Int) &&& BitVec.ofInt 64 ((1:Nat):Int)).toNat:Int)=_
 rw[BitVec.toNat_and,ofInt_u64 a (by omega),ofInt_u64 1 (by omega),Nat.and_one_is_mod]
 exact IntWalk.i64_in _ (by omega)
theorem CG:1<2^128:=by decide
theorem adk:dI R2 128 1=R2:=by
 rw[←Gf.YP R2 qa CG,Gf.one_mul R2 qa]
theorem UC:bu R2=Yb:=by decide
theorem LK {a:Nat}(ha:a<2^128)(e:Nat):mul R2 a (dI R2 e 1)=dI R2 e a:=by
 rw[Gf.qx R2 qa ha CG,Gf.mul_one]
theorem Ar (e:Nat):mul R2 (dI R2 e 1) (dI R2 e 1)=dI R2 (2*e) 1:=by
 rw[LK (Gf.jE qa CG e),←Gf.qd,show e+e=2*e by omega]
theorem Rj (n:Nat)(xs:List Nat)(hn:n<2^63)(hl:xs.length=16)(hb:∀x∈xs,x<256)(w:World) :
  Calls prog 195 #[.int .i64 n,.agg (ints .u8 xs)] w λe w'=>e=.returned (.agg (ints .u8 (bu (dI R2 n (kM xs)))))/\Below w.heap.size w w':=by
 have hx:=uH hl hb
 have hxe:=nT hl hb
 have B0:=(aA.new w 96 (ints .u8 xs)).alloc (.cells (ints .u8 (zeros 16)) 96)
 have B1:=aA.new (w.alloc (.cells (ints .u8 xs) 96)) 96 (ints .u8 (zeros 16))
 rw[World.size_alloc] at B1
 have hbel:=(bN w (.cells (ints .u8 xs) 96)).alloc (by simp) (.cells (ints .u8 (zeros 16)) 96)
 have hxe2:Hid (bu (kM xs)=xs):=aR hxe
 clear hxe
 obtain⟨x,Yo⟩:=bD (kM xs)
 rw[Yo.out] at hx
 have hxe3:=hxe2.out
 rw[Yo.out] at hxe3
 have Hxe:=aR hxe3
 clear hxe3 hxe2
 go_enter func195,ntmps195
 go_wp2_with (refine ae rfl 96 rfl fw ?_;(try simp only[nn,Nat.reduceAdd]))
 obtain⟨J,HJ,HI0⟩:=jmp (λaJ w'=>∃(U:Nat->Value) (v e g A:Nat),aJ={ tmps:=#[.int .i64 (v:Int),.agg (ints .u8 xs),undef,.pointer (some ⟨w.heap.size,0,none⟩),.pointer (some ⟨w.heap.size+1,0,none⟩),.pointer (some ⟨g,0,none⟩),U 6,U 7,U 8,U 9,U 10,U 11,U 12,U 13,U 14,U 15,U 16,U 17,U 18,U 19,U 20,U 21,U 22,U 23,U 24,U 25,U 26,U 27,U 28,U 29,U 30,U 31,U 32],defers:=[] }/\v<2^63/\w.heap.size+2<=g/\A<2^128/\dI R2 (e*v) A=dI R2 n x/\aA w' w.heap.size 96 (ints .u8 (bu A))/\aA w' (w.heap.size+1) 96 (ints .u8 (zeros 16))/\aA w' g 96 (ints .u8 (bu (dI R2 e 1)))/\Below w.heap.size w w')
 have HI:Hid (∀(T:Array Value) (w':World),(∃(v e g A:Nat),T=((λ(U:Nat->Value)=>#[.int .i64 (v:Int),.agg (ints .u8 xs),undef,.pointer (some ⟨w.heap.size,0,none⟩),.pointer (some ⟨w.heap.size+1,0,none⟩),.pointer (some ⟨g,0,none⟩),U 6,U 7,U 8,U 9,U 10,U 11,U 12,U 13,U 14,U 15,U 16,U 17,U 18,U 19,U 20,U 21,U 22,U 23,U 24,U 25,U 26,U 27,U 28,U 29,U 30,U 31,U 32]) λi=>T.getD i undef)/\v<2^63/\w.heap.size+2<=g/\A<2^128/\dI R2 (e*v) A=dI R2 n x/\aA w' w.heap.size 96 (ints .u8 (bu A))/\aA w' (w.heap.size+1) 96 (ints .u8 (zeros 16))/\aA w' g 96 (ints .u8 (bu (dI R2 e 1)))/\Below w.heap.size w w')->J { tmps:=T,defers:=[] } w') :=
  aR λT w' ⟨v,e,g,A,hJ,rJ⟩=>HI0.out _ _ ⟨λi=>T.getD i undef,v,e,g,A,congrArg (λT=>({ tmps:=T,defers:=[] }:Act)) hJ,rJ⟩
 clear HI0
 obtain⟨μ,Hμ⟩:∃μ:Act->World->Nat,Hid (∀a w',μ a w'=(intOf (a.tmps.getD 0 undef)).toNat):=⟨_,aR λ_ _=>rfl⟩
 refine dF 0 J μ (by simp only[findLabel];rfl) ?_ ?_
 ·intro a wr hj
  obtain⟨U,v,e,g,A,rfl,hv,hg,hA,hup,C0,C1,C2,bH⟩:=HJ.out _ _ hj
  clear hj
  have hμ:=Hμ.out
  clear Hμ
  have hlA:=bT A
  have Vg:=bT (dI R2 e 1)
  have hE:=Gf.jE qa CG e
  by_cases h0:v=0
  ·subst h0
   rw[Nat.mul_zero] at hup
   replace hup:A=dI R2 n x:=hup
   clear hμ
   go_wp2_with ((first|(refine ag rfl 96 _ rfl w.heap.size rfl C0 aD hlA ?_)|(refine aa rfl 96 _ _ rfl (w.heap.size+1) rfl rfl C1 (ah _ _) aD hlA ?_));(try simp only[nn,Nat.reduceAdd]))
   simp only[Exit.jump]
   exact aO rfl rfl (C1.row _) aD hlA ⟨by rw[Yo.out],az bH (by omega) _⟩
  ·have hand:=agv v (by omega)
   have hne:decide ((v:Int)=0)=false:=by simp;omega
   rcases Nat.mod_two_eq_zero_or_one v with h2|h2
   ·rw[h2] at hand
    have acb:Hid (dI R2 (2*e*(v/2)) A=dI R2 n x):=aR (by
     rw[←hup]
     congr 1
     rw[Nat.mul_comm 2 e,Nat.mul_assoc]
     congr 1
     omega)
    clear hup
    go_wp2_with (refine ag rfl 96 _ rfl g rfl C2 aD Vg ?_;(try simp only[nn,Nat.reduceAdd]))
    refine(jV _ _ Vg (dV _) Vg (dV _) _).mono ?_
    rintro e3 w5 ⟨rfl,hb5⟩
    rw[kI hE,Ar]
    have hl2:=bT (dI R2 (2*e) 1)
    have F0:=(C0.below' hb5).aM (show w.heap.size≠g by omega) (ints .u8 (bu (dI R2 (2*e) 1)))
    have F1:=(C1.below' hb5).aM (show w.heap.size+1≠g by omega) (ints .u8 (bu (dI R2 (2*e) 1)))
    have Ah:=C2.below' hb5
    have F2:=Ah.row (ints .u8 (bu (dI R2 (2*e) 1)))
    have bA:=az (bC bH hb5) (show w.heap.size<=g by omega) (ints .u8 (bu (dI R2 (2*e) 1)))
    go_wp2_with (refine aa rfl 96 _ _ rfl g rfl rfl Ah (by rw[aF,Vg]) aD hl2 ?_;(try simp only[nn,Nat.reduceAdd]))
    go_step3
    refine⟨rfl,HI.out _ _ ⟨v/2,2*e,g,_,rfl,by omega,hg,hA,acb.out,F0,F1,F2,bA⟩,?_⟩
    rw[hμ,hμ]
    simp[intOf]
    omega
   ·rw[h2] at hand
    have hA2:=Gf.jE qa hA e
    have acb:Hid (dI R2 (2*e*(v/2)) (dI R2 e A)=dI R2 n x):=aR (by
     rw[←Gf.qd,←hup]
     congr 1
     rw[Nat.mul_comm 2 e,Nat.mul_assoc,←Nat.mul_succ]
     congr 1
     omega)
    clear hup
    go_wp2_with ((first|(refine ag rfl 96 _ rfl w.heap.size rfl C0 aD hlA ?_)|(refine ag rfl 96 _ rfl g rfl C2 aD Vg ?_));(try simp only[nn,Nat.reduceAdd]))
    refine(jV _ _ hlA (dV _) Vg (dV _) _).mono ?_
    rintro e2 w4 ⟨rfl,hb4⟩
    rw[kI hE,kI hA,LK hA]
    have hl1:=bT (dI R2 e A)
    have D0':=C0.below' hb4
    have D0:=D0'.row (ints .u8 (bu (dI R2 e A)))
    have D1:=(C1.below' hb4).aM (show w.heap.size+1≠w.heap.size by omega) (ints .u8 (bu (dI R2 e A)))
    have D2:=(C2.below' hb4).aM (show g≠w.heap.size by omega) (ints .u8 (bu (dI R2 e A)))
    have aY:=az (bC bH hb4) (Nat.le_refl w.heap.size) (ints .u8 (bu (dI R2 e A)))
    clear C0 C1 C2 bH hb4
    go_wp2_with ((first|(refine aa rfl 96 _ _ rfl w.heap.size rfl rfl D0' (by rw[aF,hlA]) aD hl1 ?_)|(refine ag rfl 96 _ rfl g rfl D2 aD Vg ?_));(try simp only[nn,Nat.reduceAdd]))
    refine(jV _ _ Vg (dV _) Vg (dV _) _).mono ?_
    rintro e3 w5 ⟨rfl,hb5⟩
    rw[kI hE,Ar]
    have hl2:=bT (dI R2 (2*e) 1)
    have F0:=(D0.below' hb5).aM (show w.heap.size≠g by omega) (ints .u8 (bu (dI R2 (2*e) 1)))
    have F1:=(D1.below' hb5).aM (show w.heap.size+1≠g by omega) (ints .u8 (bu (dI R2 (2*e) 1)))
    have Ah:=D2.below' hb5
    have F2:=Ah.row (ints .u8 (bu (dI R2 (2*e) 1)))
    have bA:=az (bC aY hb5) (show w.heap.size<=g by omega) (ints .u8 (bu (dI R2 (2*e) 1)))
    go_wp2_with (refine aa rfl 96 _ _ rfl g rfl rfl Ah (by rw[aF,Vg]) aD hl2 ?_;(try simp only[nn,Nat.reduceAdd]))
    go_step3
    refine⟨rfl,HI.out _ _ ⟨v/2,2*e,g,_,rfl,by omega,hg,hA2,acb.out,F0,F1,F2,bA⟩,?_⟩
    rw[hμ,hμ]
    simp[intOf]
    omega
 ·intro hgo
  have hn0:decide ((n:Int)<0)=false:=by simp
  obtain⟨m,q,hmq,hm,hr1,hq1⟩:∃m q:Nat,n=128*q+m/\m<128/\(n:Int)%128=(m:Int)/\(n:Int)/128=(q:Int):=⟨n%128,n/128,by omega,by omega,by omega,by omega⟩
  have Hnq:Hid (dI R2 (128*q) (dI R2 m x)=dI R2 n x):=aR (by rw[←Gf.qd,←hmq])
  have hq63:q<2^63:=by omega
  clear hmq
  go_wp2_with (refine ae rfl 96 rfl fw ?_;(try simp only[nn,Nat.reduceAdd]))
  generalize ((w.alloc (.cells (ints .u8 xs) 96)).alloc (.cells (ints .u8 (zeros 16)) 96))=w1 at *
  go_loopw [11] (λt wr=>∃i:Nat,i<=m/\t=.int .i64 i/\aA wr w.heap.size 96 (ints .u8 (bu (dI R2 i x)))/\aA wr (w.heap.size+1) 96 (ints .u8 (zeros 16))/\Below w.heap.size w wr) (λt wr=>m-(intOf t).toNat)
  case atStart=>exact⟨0,by omega,rfl,by rw[show bu (dI R2 0 x)=xs from Hxe.out];exact B0,B1,hbel⟩
  case round =>
   rename_i hrel
   obtain⟨i,hi,rfl,C0,C1,bH⟩:=hrel
   have hX:=Gf.jE qa hx i
   by_cases hlt:i<m
   ·have Il:dI R2 (i+1) x=up R2 (dI R2 i x):=rfl
    have HU:=aR Il
    clear Il
    generalize dI R2 i x=X at *
    have Bc:=bT X
    go_wp2_with (refine ag rfl 96 _ rfl w.heap.size rfl C0 aD Bc ?_;(try simp only[nn,Nat.reduceAdd]))
    refine(uy (bu X) Bc (dV X) _).mono ?_
    rintro e w4 ⟨rfl,hb4⟩
    rw[nP hX,←HU.out]
    have WZ:=bT (dI R2 (i+1) x)
    have D0':=C0.below' hb4
    have D0:=D0'.row (ints .u8 (bu (dI R2 (i+1) x)))
    have D1:=(C1.below' hb4).aM (show w.heap.size+1≠w.heap.size by omega) (ints .u8 (bu (dI R2 (i+1) x)))
    have aG:=az (bC bH hb4) (Nat.le_refl w.heap.size) (ints .u8 (bu (dI R2 (i+1) x)))
    go_wp2_with (refine aa rfl 96 _ _ rfl w.heap.size rfl rfl D0' (by rw[aF,Bc]) aD WZ ?_;(try simp only[nn,Nat.reduceAdd]))
    exact⟨⟨i+1,by omega,by go_num,D0,D1,aG⟩,by simp[intOf]<;>omega⟩
   ·obtain rfl:i=m:=by omega
    have l1:=C1.lt
    have D0:=C0.alloc (.cells (ints .u8 (zeros 16)) 96)
    have D1:=C1.alloc (.cells (ints .u8 (zeros 16)) 96)
    have D2:=aA.new wr 96 (ints .u8 (zeros 16))
    have E0:=D0.aM (show w.heap.size≠wr.heap.size by omega) (ints .u8 Yb)
    have E1:=D1.aM (show w.heap.size+1≠wr.heap.size by omega) (ints .u8 Yb)
    have E2:=D2.row (ints .u8 Yb)
    have aB:=az (bH.alloc bH.size (.cells (ints .u8 (zeros 16)) 96)) bH.size (ints .u8 Yb)
    have hal:Yb.length=16:=rfl
    have HA:=aR (show Value.agg #[.int .u8 0,.int .u8 0,.int .u8 0,.int .u8 0,.int .u8 0,.int .u8 0,.int .u8 0,.int .u8 0,.int .u8 0,.int .u8 0,.int .u8 0,.int .u8 0,.int .u8 0,.int .u8 0,.int .u8 0,.int .u8 135]=.agg (ints .u8 Yb) by rw[agq])
    clear C0 C1 D0 D1
    go_wp2_with ((first|(refine ae rfl 96 rfl fw ?_)|(refine aa rfl 96 _ _ rfl wr.heap.size (k:=.u8) (xs:=Yb) rfl HA.out D2 (ah _ _) aD hal ?_));(try simp only[nn,Nat.reduceAdd]))
    refine wp_label ?_
    rename_i hK
    refine hK _ _ ?_
    refine hgo _ _ (HI.out _ _ ⟨q,128,wr.heap.size,dI R2 i x,rfl,hq63,by omega,hX,Hnq.out,E0,E1,?_,aB⟩)
    rw[adk,UC];exact E2
open Go.RowKit
open Gf (W2 up down dI ja bV mul dot qK R1 D1)
def jL (X c n:Nat):Nat:=if n<c then mul R1 X n else 0
def mq (X c:Nat):List Nat:=(List.range 32).map λi=>if i%2=0 then jL X c (i/2)%18446744073709551616 else jL X c (i/2)/18446744073709551616
theorem jr (X c:Nat):(mq X c).length=32:=by simp[mq]
theorem oH (X c:Nat){i:Nat}(hi:i<32):(mq X c)[i]?=some (if i%2=0 then jL X c (i/2)%18446744073709551616 else jL X c (i/2)/18446744073709551616):=by
 unfold mq
 rw[List.getElem?_map,List.getElem?_range hi];rfl
theorem Cc (X c:Nat){n:Nat}(hn:n<16):(mq X c).getD (2*n) 0=jL X c n%18446744073709551616:=by
 rw[List.getD_eq_getElem?_getD,oH X c (by omega),if_pos (by omega),show 2*n/2=n by omega];rfl
theorem Ce (X c:Nat){n:Nat}(hn:n<16):(mq X c).getD (2*n+1) 0=jL X c n/18446744073709551616:=by
 rw[List.getD_eq_getElem?_getD,oH X c (by omega),if_neg (by omega),show (2*n+1)/2=n by omega];rfl
theorem VF (X c:Nat)(hc:c<16):((mq X c).set (2*c) (mul R1 X c%18446744073709551616)).set (2*c+1) (mul R1 X c/18446744073709551616)=mq X (c+1):=by
 apply List.ext_getElem? λj=>?_
 have hv:jL X (c+1) c=mul R1 X c:=by unfold jL;rw[if_pos (by omega)]
 by_cases hj:j<32
 ·rw[List.getElem?_set,List.getElem?_set,oH _ _ hj,oH _ _ hj]
  by_cases h1:2*c+1=j
  ·rw[if_pos h1,if_pos (by simp[jr];omega),←h1,if_neg (by omega),show (2*c+1)/2=c by omega,hv]
  ·rw[if_neg h1]
   by_cases h2:2*c=j
   ·rw[if_pos h2,if_pos (by simp[jr];omega),←h2,if_pos (by omega),show 2*c/2=c by omega,hv]
   ·rw[if_neg h2]
    have:jL X c (j/2)=jL X (c+1) (j/2):=by
     unfold jL
     by_cases h3:j/2<c
     ·rw[if_pos h3,if_pos (by omega)]
     ·rw[if_neg h3,if_neg (by omega)]
    rw[this]
 ·rw[List.getElem?_eq_none (by simp[jr];omega),List.getElem?_eq_none (by simp[jr];omega)]
theorem NG (X:Nat):mq X 1=zeros 32:=by
 apply List.ext_getElem? λj=>?_
 have h0:∀n,jL X 1 n=0:=λn=>by
  unfold jL
  by_cases h:n<1
  ·rw[if_pos h,show n=0 by omega];exact(Gf.fO R1 X).zero
  ·rw[if_neg h]
 by_cases hj:j<32
 ·rw[oH _ _ hj,h0]
  unfold zeros
  rw[List.getElem?_replicate,if_pos hj]
  simp
 ·rw[List.getElem?_eq_none (by rw[jr];omega),List.getElem?_eq_none (by simp[zeros];omega)]
theorem QH (X k i:Nat)(hk:k<4)(hi:i<2^k):mul R1 X (2^k+i)=jL X (2^k+i) i^^^1*dI R1 k X:=by
 have h1:2^k+i=2^k^^^i:=by
  have:∀k,k<4->∀i,i<2^k->2^k+i=2^k^^^i:=by decide
  exact this k hk i hi
 have h2:mul R1 X (2^k^^^i)=mul R1 X (2^k)^^^mul R1 X i:=Gf.fO R1 X (2^k) i
 unfold jL
 rw[if_pos (by omega),h1,h2,Gf.mul_pow R1 X (by omega),Nat.one_mul,Nat.xor_comm]
theorem VG (X c n:Nat)(hX:X<2^128):jL X c n<2^128:=by
 unfold jL
 split
 ·exact Gf.mul_lt Gf.qb hX n
 ·exact Nat.two_pow_pos _
end
end Go.Proofs.YtaiffkajkbiidaaGreatDoor
