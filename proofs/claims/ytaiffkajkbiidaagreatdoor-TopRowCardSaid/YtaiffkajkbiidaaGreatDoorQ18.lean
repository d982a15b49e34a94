/- What this claim leans on, part 18: laws of the model, and what functions of the program compute. No condition but what each law states. -/
import Derived.Test.YtaiffkajkbiidaaGreatDoorQ15
import Derived.Test.YtaiffkajkbiidaaGreatDoorQ17
namespace Go.Proofs.YtaiffkajkbiidaaGreatDoor
set_option linter.unusedSimpArgs false
set_option linter.unusedVariables false
set_option linter.unusedSectionVars false
set_option maxRecDepth 100000
set_option maxHeartbeats 40000000
open Go.Proofs.Tryz
open Tryz
section
open Go.RowKit
def Eh (b zs:List Nat):Nat->List Nat
 | 0=>b
 | i+1=>(Eh b zs i).set i ((Eh b zs i).getD i 0^^^zs.getD i 0)
theorem BO (b zs:List Nat):∀i,(Eh b zs i).length=b.length
 | 0=>rfl
 | i+1=>by unfold Eh;rw[List.length_set,BO b zs i]
theorem BN {b zs:List Nat}(hb:∀x∈b,x<256)(hz:∀x∈zs,x<256):∀i,∀x∈Eh b zs i,x<256
 | 0=>hb
 | i+1=>by
  unfold Eh
  intro x hx
  exact(List.mem_or_eq_of_mem_set hx).elim (BN hb hz i x) λe=>e▸Nat.xor_lt_two_pow (n:=8) (aC (BN hb hz i) (by decide) i) (aC hz (by decide) i)
theorem nO {L:List Nat}{ks:List (List Nat)}(ok:lI L ks)(b:List Nat):∀x∈jA L ks b,x<256 :=
 Sd ok.bL _ (bQ (p:=λk=>∀x∈k,x<256) ok.byt (by have:=ok.two;omega))
theorem iY (L:List Nat)(ks:List (List Nat))(b:List Nat):(jA L ks b).length=16:=qA _ _ _
def UY (L:List Nat)(ks:List (List Nat))(start:List Nat)(q:Nat):List Nat:=jA L ks (Eh start (cZ 256 8 q) 8)
theorem Eg (ga gt gb gk ck:Nat)(L:List Nat)(ks:List (List Nat))(start:List Nat)(q:Nat)(hq:q<18446744073709551616)(ok:lI L ks)(hb:start.length=16)(hbb:∀x∈start,x<256)(w:World)(hK:Ag w ga gt gb gk ck L ks) :
  Calls prog 151 #[.pointer (some ⟨ga,0,none⟩),.agg (ints .u8 start),.int .u64 (q:Int)] w λe w'=>e=.returned (.agg (ints .u8 (UY L ks start q)))/\(UY L ks start q).length=16/\(∀x∈UY L ks start q,x<256)/\Below w.heap.size w w':=by
 have A0:=(aA.new w 96 (ints .u8 start)).alloc (.cells (ints .u8 (zeros 16)) 96)
 have A1:=aA.new (w.alloc (.cells (ints .u8 start) 96)) 96 (ints .u8 (zeros 16))
 rw[World.size_alloc] at A1
 have hbel0:=(bN w (.cells (ints .u8 start) 96)).alloc (by simp) (.cells (ints .u8 (zeros 16)) 96)
 have dl:(cZ 256 8 q).length=8:=bn _ _ _
 have abE:∀x∈cZ 256 8 q,x<256:=dU (by decide) _ _
 obtain⟨Z,HZ⟩:=bD (UY L ks start q)
 have HY:Hid (jA L ks (Eh start (cZ 256 8 q) 8)=Z):=aR HZ.out
 rw[HZ.out]
 have hpl:=λW=>jh q hq W
 generalize cZ 256 8 q=zs at *
 clear HZ
 go_enter func151,ntmps151
 go_wp2_with (refine ae rfl 96 rfl fw ?_;(try simp only[nn,Nat.reduceAdd]))
 generalize ((w.alloc (.cells (ints .u8 start) 96)).alloc (.cells (ints .u8 (zeros 16)) 96))=w0 at *
 refine(hpl _).mono ?_
 rintro e w1 ⟨rfl,hb1⟩
 have B0:=A0.below' hb1
 have B1:=A1.below' hb1
 have aK:=bC hbel0 hb1
 clear A0 A1 hbel0 hb1 hpl
 go_wp2_with fail
 go_loopw [11] (λt wr=>∃k:Nat,k<=8/\t=.int .i64 (k:Int)/\aA wr w.heap.size 96 (ints .u8 (Eh start zs k))/\aA wr (w.heap.size+1) 96 (ints .u8 (zeros 16))/\Below w.heap.size w wr) (λt wr=>8-(intOf t).toNat)
 case atStart=>exact⟨0,by omega,rfl,B0,B1,aK⟩
 case round =>
  clear B0 B1 aK
  obtain⟨k,hk,rfl,B0,B1,aK⟩:=hrel
  by_cases hlt:k<8
  ·have hd:decide ((k:Int)<8)=true:=by simp;omega
   have fI:(k:Int)<16:=by omega
   have hix:=gT underlying107 underlying5 s15 dl hlt
   have hxl:=BO start zs k
   have hx:=aC (BN hbb abE k) (by decide) k
   have hy:=aC abE (by decide) k
   have c1:=B0.int (i:=k) (by omega)
   have z1:=B0.frozen k
   have HK:Hid (Eh start zs (k+1)=(Eh start zs k).set k ((Eh start zs k).getD k 0^^^zs.getD k 0)):=aR rfl
   have hxo:=u8_xor_nat ((Eh start zs k).getD k 0) (zs.getD k 0) hx hy
   have B2:=B0.dw k ((Eh start zs k).getD k 0^^^zs.getD k 0)
   rw[←HK.out] at B2
   clear HK B0 hxl hx hy
   generalize (Eh start zs k).getD k 0^^^zs.getD k 0=v at *
   generalize (Eh start zs k).getD k 0=x at *
   generalize zs.getD k 0=y at *
   have B3:=B1.far (p:=⟨w.heap.size,k,none⟩) (show w.heap.size+1≠w.heap.size by omega) (.int .u8 (v:Int))
   have aB:=aK.setCell (p:=⟨w.heap.size,k,none⟩) dM (.int .u8 (v:Int))
   have H2:=aR B2
   clear B1 aK B2
   go_wp2_with fail
   exact⟨⟨k+1,by omega,by go_num,H2.out,B3,aB⟩,by simp[intOf]<;>omega⟩
  ·obtain rfl:k=8:=by omega
   have hd:decide (((8:Nat):Int)<8)=false:=by simp
   have hxl:=BO start zs 8
   rw[hb] at hxl
   have hxb:=BN hbb abE 8
   generalize Eh start zs 8=x at *
   go_wp2_with (refine ag rfl 96 _ rfl _ rfl B0 aD hxl ?_;(try simp only[nn,Nat.reduceAdd]))
   refine(mQ ga gt gb gk ck L ks x ok hxl hxb _ (hK.below aK)).mono ?_
   rintro e w2 ⟨rfl,hb2⟩
   have hel:Z.length=16:=by rw[←HY.out];exact qA _ _ _
   have aba:∀y∈Z,y<256:=by rw[←HY.out];exact nO ok x
   rw[HY.out]
   have C1:=B1.below' hb2
   have aB:=bC aK hb2
   go_wp2_with (refine aa rfl 96 _ _ rfl _ rfl rfl C1 (ah _ _) aD hel ?_;(try simp only[nn,Nat.reduceAdd]))
   exact aO rfl rfl (C1.row _) aD hel ⟨rfl,hel,aba,az aB (by omega) _⟩
theorem Vv (L:List Nat)(ks:List (List Nat))(start:List Nat)(q:Nat):(UY L ks start q).length=16:=iY _ _ _
theorem Ir {L:List Nat}{ks:List (List Nat)}(ok:lI L ks)(start:List Nat)(q:Nat):∀x∈UY L ks start q,x<256:=nO ok _
def Nn (L:List Nat)(ks:List (List Nat))(start b:List Nat):List Nat:=Pd (λq=>UY L ks start (q+1)) 16 b
theorem Ef (ga gt gb gk ck:Nat)(L:List Nat)(ks:List (List Nat))(start b:List Nat)(ok:lI L ks)(hst:start.length=16)(hstb:∀x∈start,x<256)(hb:∀x∈b,x<256)(hbl:b.length<2^31)(a0:Option Addr)(c0:Nat)(hc0:b.length<=c0)(w:World)(hs:Sl w a0 .u8 b)(hK:Ag w ga gt gb gk ck L ks) :
  Calls prog 148 #[.pointer (some ⟨ga,0,none⟩),.agg (ints .u8 start),.slice a0 b.length c0] w λe w'=>∃v,e=.returned (.tuple #[v,.int .i64 0])/\Own w' w.heap.size 5 .u8 v (Nn L ks start b)/\Below w.heap.size w w':=by
 obtain⟨N,HN⟩:=bD (b.length)
 rw[HN.out] at hc0 hbl ⊢
 obtain⟨RR,HRR⟩:=bD (Nn L ks start b)
 have hrl:RR.length=N:=by rw[←HRR.out];unfold Nn;rw[gN,HN.out]
 have HST:Hid (∀q n,n=min (N-16*q) 16->RR.take (16*q)++dS (b.drop (16*q)) (UY L ks start (q+1)) n=RR.take (16*q+n)):=aR λq n h=>by
  rw[←HRR.out];unfold Nn;exact GJ (λq=>UY L ks start (q+1)) b q n (by decide) (by rw[HN.out];exact h)
 rw[HRR.out]
 have A0:=aA.new w 96 (ints .u8 start)
 have hbel:=bN w (.cells (ints .u8 start) 96)
 go_enter func148,ntmps148
 go_wp2_with fail
 generalize (w.alloc (.cells (ints .u8 start) 96))=w0 at *
 obtain⟨J,HJ,HI0⟩:=jmp (λaJ w'=>∃(U:Nat->Value) (q:Nat) (a':Option Addr) (c':Nat) (v:Value),aJ={ tmps:=#[.pointer (some ⟨ga,0,none⟩),.agg (ints .u8 start),.slice a' (N-16*q) c',U 3,.pointer (some ⟨w.heap.size,0,none⟩),U 5,.slice none 0 0,.int .i64 0,v,.int .u64 ((q+1:Nat):Int),U 10,U 11,U 12,U 13,U 14,U 15,U 16,U 17,U 18,U 19,U 20,U 21,U 22,U 23,U 24,U 25,U 26,U 27,U 28,U 29,U 30,U 31,U 32,U 33,U 34,U 35,U 36],defers:=[] }/\16*q<=N+15/\N-16*q<=c'/\Sl w a' .u8 (b.drop (16*q))/\aA w' w.heap.size 96 (ints .u8 start)/\Own w' w.heap.size 5 .u8 v (RR.take (16*q))/\Below w.heap.size w w')
 have HI:Hid (∀(T:Array Value) (w':World),(∃(q:Nat) (a':Option Addr) (c':Nat) (v:Value),T=((λ(U:Nat->Value)=>#[.pointer (some ⟨ga,0,none⟩),.agg (ints .u8 start),.slice a' (N-16*q) c',U 3,.pointer (some ⟨w.heap.size,0,none⟩),U 5,.slice none 0 0,.int .i64 0,v,.int .u64 ((q+1:Nat):Int),U 10,U 11,U 12,U 13,U 14,U 15,U 16,U 17,U 18,U 19,U 20,U 21,U 22,U 23,U 24,U 25,U 26,U 27,U 28,U 29,U 30,U 31,U 32,U 33,U 34,U 35,U 36]) λi=>T.getD i undef)/\16*q<=N+15/\N-16*q<=c'/\Sl w a' .u8 (b.drop (16*q))/\aA w' w.heap.size 96 (ints .u8 start)/\Own w' w.heap.size 5 .u8 v (RR.take (16*q))/\Below w.heap.size w w')->J { tmps:=T,defers:=[] } w') :=
  aR λT w' ⟨q,a',c',v,hJ,rJ⟩=>HI0.out _ _ ⟨λi=>T.getD i undef,q,a',c',v,congrArg (λT=>({ tmps:=T,defers:=[] }:Act)) hJ,rJ⟩
 clear HI0
 obtain⟨μ,Hμ⟩:∃μ:Act->World->Nat,Hid (∀a w',μ a w'=RX (a.tmps.getD 2 undef)):=⟨_,aR λ_ _=>rfl⟩
 refine dF 0 J μ (by simp only[findLabel];rfl) ?_ ?_
 ·intro a' wr hj
  obtain⟨U,q,ab,cb,v,rfl,hq,hcb,hsl,B0,O,bH⟩:=HJ.out _ _ hj
  clear hj A0 hbel
  by_cases h0:N-16*q=0
  ·rw[h0]
   have hR:RR.take (16*q)=RR:=List.take_of_length_le (by omega)
   rw[hR] at O
   have hd0:(((0:Nat):Int)==0)=true:=by simp
   go_wp2_with fail
   simp only[Exit.jump]
   exact bodyPost_ret (v:=.tuple #[v,.int .i64 0]) (by simp[results,results148]) rfl ⟨v,rfl,O,bH⟩
  ·obtain⟨n,hnm⟩:∃n,n=min (N-16*q) 16:=⟨_,rfl⟩
   have HT:=aR (HST.out q n hnm)
   have hn1:n<=16:=by omega
   have hn0:0<n:=by omega
   have hdr:(b.drop (16*q)).length=N-16*q:=by rw[List.length_drop,HN.out]
   have Tk:∀x∈b.drop (16*q),x<256:=λx hx=>hb x (List.mem_of_mem_drop hx)
   have HR1:Hid (N-16*(q+1)=N-16*q-n):=aR (by omega)
   have PH:Hid (16*(q+1)<=N+15):=aR (by omega)
   have HD1:Hid ((b.drop (16*q)).drop n=b.drop (16*(q+1))):=aR (by
    rw[List.drop_drop]
    by_cases h1:N-16*q<=16
    ·rw[List.drop_eq_nil_of_le (by rw[HN.out];omega),List.drop_eq_nil_of_le (by rw[HN.out];omega)]
    ·rw[show 16*q+n=16*(q+1) by omega])
   have HT1:Hid (RR.take (16*q+n)=RR.take (16*(q+1))):=aR (by
    by_cases h1:N-16*q<=16
    ·rw[List.take_of_length_le (by omega),List.take_of_length_le (by omega)]
    ·rw[show 16*q+n=16*(q+1) by omega])
   have JR:n=N-16*q∨n=16:=by omega
   have aes:q+1<18446744073709551616:=by omega
   have hnR:n<=N-16*q:=by omega
   obtain⟨R,HR⟩:=bD (N-16*q)
   obtain⟨bd,Hbd⟩:=bD (b.drop (16*q))
   rw[HR.out] at h0 hdr JR HR1 hcb hnR ⊢
   rw[Hbd.out] at hdr Tk HD1 HT hsl
   have hR31:R<2^31:=by have:=HR.out;omega
   have hd0:((R:Int)==0)=false:=by simp;omega
   clear hnm
   have hbk:=λW (h:Ag W ga gt gb gk ck L ks)=>Eg ga gt gb gk ck L ks start (q+1) aes ok hst hstb W h
   have wH:=Vv L ks start (q+1)
   have WV:=Ir ok start (q+1)
   generalize UY L ks start (q+1)=S at *
   have HQ2:Hid (((q+1:Nat):Int)+1=((q+2:Nat):Int)):=aR (by omega)
   have hqw:IntKind.u64.wrap (((q+1:Nat):Int)+1)=((q+2:Nat):Int):=by rw[IntKind.wrap_u64];omega
   obtain⟨q1,Hq1⟩:=bD (q+1)
   obtain⟨q2,Hq2⟩:=bD (q+2)
   rw[Hq1.out,Hq2.out] at hqw
   simp only[Hq1.out] at hbk
   rw[Hq1.out]
   go_wp2_with (refine ag rfl 96 _ rfl _ rfl B0 aD hst ?_;(try simp only[nn,Nat.reduceAdd]))
   refine(hbk wr (hK.below bH)).mono ?_
   clear hbk
   rintro e w4 ⟨rfl,-,-,hb4⟩
   have M0:=(B0.below' hb4).alloc (.cells (ints .u8 (zeros 16)) 96)
   have M2:=(O.below hb4).alloc (.cells (ints .u8 (zeros 16)) 96)
   have M3:=aA.new w4 96 (ints .u8 (zeros 16))
   have hl0:=(B0.below' hb4).lt
   have bA:=bC bH hb4
   have E0:=M0.aM (show w.heap.size≠w4.heap.size by omega) (ints .u8 S)
   have E2:=M2.ch (Ch.qp (Only.row _ w4.heap.size (ints .u8 S))) M3 (by decide)
   have E3:=M3.row (ints .u8 S)
   have bK:=az (bA.alloc bA.size (.cells (ints .u8 (zeros 16)) 96)) bA.size (ints .u8 S)
   clear B0 O hb4 M0 M2 bA bH hl0
   have aaE:=λW (h1:Sl W ab .u8 bd) (h2:Sl W (some ⟨w4.heap.size,0,none⟩) .u8 S)=>uR ab (some ⟨w4.heap.size,0,none⟩) cb 16 n R bd S hdr (by omega) hnR (by omega) (by rw[wH];exact JR) (by omega) (by omega) Tk WV W h1 h2
   rw[wH] at aaE
   go_wp2_with ((first|(refine ae rfl 96 rfl fw ?_)|(refine aa rfl 96 _ _ rfl w4.heap.size rfl rfl M3 (ah _ _) aD wH ?_));(try simp only[nn,Nat.reduceAdd]))
   clear M3
   generalize ((w4.alloc (.cells (ints .u8 (zeros 16)) 96)).setRow w4.heap.size (ints .u8 S))=w5 at *
   refine(aaE w5 (hsl.below bK) (Sl.blk E3)).mono ?_
   clear aaE
   rintro e w6 ⟨rfl,hb6,X6⟩
   have P0:=E0.below' hb6
   have P2:=E2.below hb6
   have dm:=bC bK hb6
   clear E0 E2 E3 hb6 bK
   have WR:=dm.size
   have hxl:=dJ bd S n
   have hoL:(RR.take (16*q)).length=16*q:=by rw[List.length_take];have:=HR.out;omega
   go_wp2_with ((first
    | (refine dA (zs:=dS bd S n) rfl rfl underlying23 nY rfl (by omega) rfl P2 rfl hxl.symm (λh=>by cases h) (Sl.blk X6) (by rw[hoL,hxl];omega) WR ?_;intro v7 w7 O7 hgr;have gL:=gI dm hgr WR P2 dM;have Q0:=P0.jO hgr P2 (by decide);clear hgr P0 P2 dm X6 WR)
    | (refine iD (n:=n) rfl rfl underlying23 s15 rfl rfl hnR ?_;intro sI c2 hsl2 hc2));(try simp only[nn,Nat.reduceAdd]))
   have FQ:=hsl2 w .u8 bd hsl (by rw[hdr];exact hcb)
   rw[HD1.out] at FQ
   rw[HT.out,HT1.out] at O7
   have hμ:=Hμ.out
   clear Hμ
   go_step3
   refine⟨rfl,HI.out _ _ ⟨q+1,sI,c2,v7,by rw[HR1.out,show q+1+1=q2 from Hq2.out];rfl,PH.out,by rw[HR1.out];exact hc2 hcb,FQ,Q0,O7,gL⟩,?_⟩
   rw[hμ,hμ]
   change R-n<R
   omega
 ·intro pass
  obtain⟨i8,aeF,aaD,aaC,aaB⟩:=info_parts nY
  have JL:=hbel.size
  go_wp2_with (at_make;refine wpList_make_own _ rfl _ _ 23 rfl w.heap.size 5 i8 (.int .u8 0) 1 underlying23 aeF aaD aaC .i64 .i64 _ N rfl rfl rfl (by rw[aaB];omega) (by unfold maxLen;omega) JL ?_;intro w5 ho hgr;have B5:aA w5 w.heap.size 96 (ints .u8 start):=A0.grown hgr (λh=>by cases h);have bA:=hbel.grown hgr JL (λk hk=>by cases hk);have O5:Own w5 w.heap.size 5 .u8 (.slice (some ⟨w0.heap.size,0,none⟩) 0 N) []:=ho;clear ho hgr A0 hbel;(try simp only[nn,Nat.reduceAdd]))
  refine wp_label ?_
  rename_i hKx
  refine hKx _ _ ?_
  exact pass _ _ (HI.out _ _ ⟨0,a0,c0,_,by rw[Nat.mul_zero,Nat.sub_zero];rfl,by omega,by omega,by rw[Nat.mul_zero];exact hs,B5,by rw[Nat.mul_zero,List.take_zero];exact O5,bA⟩)
end
end Go.Proofs.YtaiffkajkbiidaaGreatDoor
