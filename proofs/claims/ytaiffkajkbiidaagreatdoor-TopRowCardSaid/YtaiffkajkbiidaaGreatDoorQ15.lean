/- What this claim leans on, part 15: laws of the model, and what functions of the program compute. No condition but what each law states. -/
import Derived.Test.YtaiffkajkbiidaaGreatDoorQ14
namespace Go.Proofs.YtaiffkajkbiidaaGreatDoor
set_option linter.unusedSimpArgs false
set_option linter.unusedVariables false
set_option linter.unusedSectionVars false
set_option maxRecDepth 100000
set_option maxHeartbeats 40000000
open Go.Proofs.Tryz
open Tryz
section
open Go.RowKit
def Ag (w:World)(ga gt gb gk ck:Nat)(L:List Nat)(ks:List (List Nat)):Prop:=aA w ga 123 #[.pointer (some ⟨gt,0,none⟩),.slice (some ⟨gk,0,none⟩) ks.length ck]/\Sl w (some ⟨gk,0,none⟩) .u8 ks.flatten/\ks.length<=ck/\ng w gt gb L 1024/\aA w gb 69 (ints .u8 L)
theorem Ag.below {w w':World}{ga gt gb gk ck:Nat}{L:List Nat}{ks:List (List Nat)}(h:Ag w ga gt gb gk ck L ks)(hb:Below w.heap.size w w'):Ag w' ga gt gb gk ck L ks:=⟨h.1.below' hb,h.2.1.below hb,h.2.2.1,h.2.2.2.1.below hb,h.2.2.2.2.below' hb⟩
structure lI (L:List Nat)(ks:List (List Nat)):Prop where
 lL:L.length=512
 bL:∀x∈L,x<256
 two:2<=ks.length
 few:ks.length<2^31
 len:∀k∈ks,k.length=16
 byt:∀k∈ks,∀x∈k,x<256
def jA (L:List Nat)(ks:List (List Nat))(b:List Nat):List Nat:=pF L (jN L (qR b (ks.getD 0 [])) ((ks.drop 1).take (ks.length-2))) (ks.getD (ks.length-1) [])
def jk (L:List Nat)(ks:List (List Nat))(b:List Nat):Nat->List Nat
 | 0=>zK L b (ks.getD (ks.length-1) [])
 | j+1=>xC L (jk L ks b j) (ks.getD (ks.length-2-j) [])
def ma (L:List Nat)(ks:List (List Nat))(b:List Nat):List Nat:=qR (jk L ks b (ks.length-2)) (ks.getD 0 [])
theorem Kk {ks:List (List Nat)}(hl:∀k∈ks,k.length=16):(ks.drop 1).flatten=ks.flatten.drop 16:=by
 rcases ks with _|⟨k,ks⟩
 ·rfl
 ·have h:=hl k (List.mem_cons_self ..)
  rw[List.drop_succ_cons,List.drop_zero,List.flatten_cons,List.drop_append_of_le_length (by omega),List.drop_of_length_le (by omega),List.nil_append]
theorem pQ:∀{ks:List (List Nat)} (m:Nat),(∀k∈ks,k.length=16)->(ks.take m).flatten=ks.flatten.take (16*m)
 | [],m,_=>by simp
 | k::ks,0,_=>by simp
 | k::ks,m+1,hl=>by
  have h:=hl k (List.mem_cons_self ..)
  rw[List.take_succ_cons,List.flatten_cons,List.flatten_cons,pQ m (λk hk=>hl k (List.mem_cons_of_mem _ hk)),show 16*(m+1)=k.length+16*m by omega,List.take_length_add_append]
theorem mQ (ga gt gb gk ck:Nat)(L:List Nat)(ks:List (List Nat))(b:List Nat)(ok:lI L ks)(hb:b.length=16)(hbb:∀x∈b,x<256)(w:World)(hK:Ag w ga gt gb gk ck L ks) :
  Calls prog 36 #[.pointer (some ⟨ga,0,none⟩),.agg (ints .u8 b)] w λe w'=>e=.returned (.agg (ints .u8 (jA L ks b)))/\Below w.heap.size w w':=by
 obtain⟨lL,bL,two,few,FJ,Qg⟩:=ok
 obtain⟨h1,h2,h3,h4,h5⟩:=hK
 obtain⟨k0,hk0⟩:=bD (ks.getD 0 [])
 obtain⟨kl,hkl⟩:=bD (ks.getD (ks.length-1) [])
 have WN:k0.length=16:=by rw[←hk0.out];exact bQ (p:=λk=>k.length=16) FJ (by omega)
 have k0b:∀x∈k0,x<256:=by rw[←hk0.out];exact bQ (p:=λk=>∀x∈k,x<256) Qg (by omega)
 have WL:kl.length=16:=by rw[←hkl.out];exact bQ (p:=λk=>k.length=16) FJ (by omega)
 have klb:∀x∈kl,x<256:=by rw[←hkl.out];exact bQ (p:=λk=>∀x∈k,x<256) Qg (by omega)
 have k0n:k0≠[]:=λe=>by rw[e] at WN;simp at WN
 have kln:kl≠[]:=λe=>by rw[e] at WL;simp at WL
 have S0:Sl w (some ⟨gk,0+0*16,none⟩) .u8 k0:=by rw[←hk0.out];exact qi h2 FJ (by omega)
 have SL:Sl w (some ⟨gk,0+(ks.length-1)*16,none⟩) .u8 kl:=by rw[←hkl.out];exact qi h2 FJ (by omega)
 have hx0:=gP b k0
 have aaF:=vL hbb k0b
 have DX:=λW=>BJ b k0 hb WN hbb k0b W
 obtain⟨x0,Hx0⟩:=bD (qR b k0)
 rw[Hx0.out] at hx0 aaF
 simp only[Hx0.out] at DX
 have SM:Sl w (some ⟨gk,0+1*16,none⟩) .u8 ((ks.drop 1).take (ks.length-2)).flatten:=by
  rw[pQ _ (λk hk=>FJ k (List.mem_of_mem_drop hk)),Kk FJ]
  exact(h2.drop 16).take _
 have gq:((ks.drop 1).take (ks.length-2)).length=ks.length-2:=by rw[List.length_take,List.length_drop];omega
 have hrd:=λ(W:World) (hT:ng W gt gb L 1024) (hS:Sl W (some ⟨gk,0+1*16,none⟩) .u8 ((ks.drop 1).take (ks.length-2)).flatten)=>NZ gt gb gk (0+1*16) L x0 ((ks.drop 1).take (ks.length-2)) bL hx0 aaF (λk hk=>FJ k (List.mem_of_mem_drop (List.mem_of_mem_take hk))) (λk hk=>Qg k (List.mem_of_mem_drop (List.mem_of_mem_take hk))) (by omega) W hT hS (ck-1)
 rw[gq] at hrd
 have hx1:=kz L ((ks.drop 1).take (ks.length-2)) x0 hx0
 have adU:=nE L ((ks.drop 1).take (ks.length-2)) x0 aaF
 obtain⟨x1,Yp⟩:=bD (jN L x0 ((ks.drop 1).take (ks.length-2)))
 rw[Yp.out] at hx1 adU
 simp only[Yp.out] at hrd
 obtain⟨F,HF⟩:=bD (((ks.drop 1).take (ks.length-2)).flatten)
 rw[HF.out] at SM
 simp only[HF.out] at hrd
 have hla:=λ(W:World) (hT:ng W gt gb L 1024) (hB:aA W gb 69 (ints .u8 L))=>IG gt gb L x1 kl lL bL hx1 adU WL klb W hT hB
 have HE:Hid (jA L ks b=pF L x1 kl):=aR (by unfold jA;rw[hk0.out,Hx0.out,Yp.out,hkl.out])
 rw[HE.out]
 have hyl:=qA L x1 kl
 generalize pF L x1 kl=y at *
 obtain⟨m,hm⟩:=bD (ks.length)
 rw[hm.out] at two few h1 h3 SL hrd
 clear gq FJ Qg h2 hm HE Yp Hx0 HF
 obtain⟨q,hq⟩:=bD (m-1)
 have eq1:(m:Int)-1=(q:Int):=by rw[←hq.out];omega
 have hqm:q<m:=by rw[←hq.out];omega
 have hq1:1<=q:=by rw[←hq.out];omega
 rw[show m-2=q-1 by rw[←hq.out];omega] at hrd
 rw[hq.out] at SL
 have A3:=(aA.new w 96 (ints .u8 b)).alloc (.cells (ints .u8 (zeros 16)) 96)
 have A4:=aA.new (w.alloc (.cells (ints .u8 b) 96)) 96 (ints .u8 (zeros 16))
 rw[World.size_alloc] at A4
 have hbel0:=(bN w (.cells (ints .u8 b) 96)).alloc (by simp) (.cells (ints .u8 (zeros 16)) 96)
 have h1':=h1.below' hbel0
 have h4':=h4.below hbel0
 have h5':=h5.below' hbel0
 have S0':=S0.below hbel0
 have agA:=SL.below hbel0
 have SM':=SM.below hbel0
 have hk1:=h1'.lt
 clear S0 SM
 have c0:=h1'.cell 0
 have c1:=h1'.cell 1
 go_enter func36,ntmps36
 go_wp2_with ((first|(refine ae rfl 96 rfl fw ?_)|(refine aZ rfl (bO rfl rfl underlying121 c1) ?_));(try simp only[nn,Nat.reduceAdd]))
 generalize ((w.alloc (.cells (ints .u8 b) 96)).alloc (.cells (ints .u8 (zeros 16)) 96))=w0 at *
 refine bW 19 (by kernel_rfl) (by kernel_rfl) (by kernel_rfl) (by kernel_rfl) (λD bP W=>∃u15 u16 u17 u18 u19 u20 u21 u22 u23 u24 u25 u26 u27 u28 u29 u30 u31 u32 u33:Value,bP={ tmps:=#[Value.pointer (some ⟨ga,0,none⟩),Value.agg (ints IntKind.u8 b),undef,Value.pointer (some ⟨w.heap.size,0,none⟩),Value.pointer (some ⟨w.heap.size+1,0,none⟩),Value.int IntKind.i64 ↑q,Value.pointer (some ⟨ga,0,none⟩),Value.bool false,undef,Value.pointer (some ⟨ga,0,none⟩),Value.pointer (some ⟨ga,0,none⟩),Value.pointer (some ⟨ga,1,none⟩),Value.slice (some ⟨gk,0,none⟩) m ck,Value.int IntKind.i64 ↑m,Value.int IntKind.i64 ↑q,u15,u16,u17,u18,u19,u20,u21,u22,u23,u24,u25,u26,u27,u28,u29,u30,u31,u32,u33,undef,undef,undef,undef,undef,undef,undef,undef,undef,undef,undef,undef,undef],defers:=[] }/\Below w0.heap.size w0 W/\(D 0->u15=.pointer (some ⟨ga,0,none⟩))/\(D 1->u16=.pointer (some ⟨ga,0,none⟩))/\(D 2->u17=.pointer (some ⟨ga,0,none⟩))/\(D 3->u18=.pointer (some ⟨gt,0,none⟩))/\(D 4->u19=.agg (ints .u8 b))/\(D 5->u20=.pointer (some ⟨ga,0,none⟩))/\(D 6->u21=.pointer (some ⟨ga,0,none⟩))/\(D 7->u22=.pointer (some ⟨ga,1,none⟩))/\(D 8->u23=.slice (some ⟨gk,0,none⟩) m ck)/\(D 9->u24=.pointer (some ⟨gk,0+0*16,none⟩))/\(D 10->u25=.agg (ints .u8 k0))/\(D 11->u26=.agg (ints .u8 x0))/\(D 12->u27=.pointer (some ⟨ga,0,none⟩))/\(D 13->u28=.pointer (some ⟨ga,0,none⟩))/\(D 14->u29=.pointer (some ⟨ga,1,none⟩))/\(D 15->u30=.slice (some ⟨gk,0,none⟩) m ck)/\(D 16->u31=.int .i64 (q:Int))/\(D 17->u32=.slice (some ⟨gk,0+1*16,none⟩) (q-1) (ck-1))/\(D 18->u33=.agg (ints .u8 x1))) ?_ ?_ ?_
 ·exact aL <| aL <| (⟨_,_,_,rfl,⟨rfl,rfl,rfl,Nat.le_refl _,λ_ _=>rfl⟩,nofun,nofun,nofun,nofun,nofun,nofun,nofun,nofun,nofun,nofun,nofun,nofun,nofun,nofun,nofun,nofun,nofun,nofun,nofun⟩)
 ·intro i o hilt hi D bP W hI hnD hall
  obtain⟨u15,u16,u17,u18,u19,u20,u21,u22,u23,u24,u25,u26,u27,u28,u29,u30,u31,u32,u33,rfl,hW,f0,f1,f2,f3,f4,f5,f6,f7,f8,f9,f10,f11,f12,f13,f14,f15,f16,f17,f18⟩:=hI
  rcases i with _|_|_|_|_|_|_|_|_|_|_|_|_|_|_|_|_|_|_|i<;>try cases hi
  ·refine af (v:=.pointer (some ⟨ga,0,none⟩)) rfl rfl rfl ?_
   exact aL <| aL <| (⟨_,_,_,rfl,hW,λ_=>rfl,ro f1,ro f2,ro f3,ro f4,ro f5,ro f6,ro f7,ro f8,ro f9,ro f10,ro f11,ro f12,ro f13,ro f14,ro f15,ro f16,ro f17,ro f18⟩)
  ·obtain rfl:=f0 (aj hall 0 rfl)
   refine af (v:=.pointer (some ⟨ga,0,none⟩)) rfl rfl (by kernel_rfl) ?_
   exact aL <| aL <| (⟨_,_,_,rfl,hW,ro f0,λ_=>rfl,ro f2,ro f3,ro f4,ro f5,ro f6,ro f7,ro f8,ro f9,ro f10,ro f11,ro f12,ro f13,ro f14,ro f15,ro f16,ro f17,ro f18⟩)
  ·obtain rfl:=f1 (aj hall 1 rfl)
   refine af (v:=.pointer (some ⟨ga,0,none⟩)) rfl rfl (by kernel_rfl) ?_
   exact aL <| aL <| (⟨_,_,_,rfl,hW,ro f0,ro f1,λ_=>rfl,ro f3,ro f4,ro f5,ro f6,ro f7,ro f8,ro f9,ro f10,ro f11,ro f12,ro f13,ro f14,ro f15,ro f16,ro f17,ro f18⟩)
  ·obtain rfl:=f2 (aj hall 2 rfl)
   refine af (v:=.pointer (some ⟨gt,0,none⟩)) rfl rfl (dH rfl rfl underlying41 ((hW.cell (p:=⟨_,_,none⟩) hk1).trans c0)) ?_
   exact aL <| aL <| (⟨_,_,_,rfl,hW,ro f0,ro f1,ro f2,λ_=>rfl,ro f4,ro f5,ro f6,ro f7,ro f8,ro f9,ro f10,ro f11,ro f12,ro f13,ro f14,ro f15,ro f16,ro f17,ro f18⟩)
  ·refine bf rfl rfl rfl rfl (A3.below' hW) aD hb ?_
   exact aL <| aL <| (⟨_,_,_,rfl,hW,ro f0,ro f1,ro f2,ro f3,λ_=>rfl,ro f5,ro f6,ro f7,ro f8,ro f9,ro f10,ro f11,ro f12,ro f13,ro f14,ro f15,ro f16,ro f17,ro f18⟩)
  ·refine af (v:=.pointer (some ⟨ga,0,none⟩)) rfl rfl rfl ?_
   exact aL <| aL <| (⟨_,_,_,rfl,hW,ro f0,ro f1,ro f2,ro f3,ro f4,λ_=>rfl,ro f6,ro f7,ro f8,ro f9,ro f10,ro f11,ro f12,ro f13,ro f14,ro f15,ro f16,ro f17,ro f18⟩)
  ·obtain rfl:=f5 (aj hall 5 rfl)
   refine af (v:=.pointer (some ⟨ga,0,none⟩)) rfl rfl (by kernel_rfl) ?_
   exact aL <| aL <| (⟨_,_,_,rfl,hW,ro f0,ro f1,ro f2,ro f3,ro f4,ro f5,λ_=>rfl,ro f7,ro f8,ro f9,ro f10,ro f11,ro f12,ro f13,ro f14,ro f15,ro f16,ro f17,ro f18⟩)
  ·obtain rfl:=f6 (aj hall 6 rfl)
   refine af (v:=.pointer (some ⟨ga,1,none⟩)) rfl rfl (by kernel_rfl) ?_
   exact aL <| aL <| (⟨_,_,_,rfl,hW,ro f0,ro f1,ro f2,ro f3,ro f4,ro f5,ro f6,λ_=>rfl,ro f8,ro f9,ro f10,ro f11,ro f12,ro f13,ro f14,ro f15,ro f16,ro f17,ro f18⟩)
  ·obtain rfl:=f7 (aj hall 7 rfl)
   refine af (v:=.slice (some ⟨gk,0,none⟩) m ck) rfl rfl (bO rfl rfl underlying121 ((hW.cell (p:=⟨_,_,none⟩) hk1).trans c1)) ?_
   exact aL <| aL <| (⟨_,_,_,rfl,hW,ro f0,ro f1,ro f2,ro f3,ro f4,ro f5,ro f6,ro f7,λ_=>rfl,ro f9,ro f10,ro f11,ro f12,ro f13,ro f14,ro f15,ro f16,ro f17,ro f18⟩)
  ·obtain rfl:=f8 (aj hall 8 rfl)
   refine af (v:=.pointer (some ⟨gk,0+0*16,none⟩)) rfl rfl (jU rfl rfl rfl (by omega) underlying121 aD.2) ?_
   exact aL <| aL <| (⟨_,_,_,rfl,hW,ro f0,ro f1,ro f2,ro f3,ro f4,ro f5,ro f6,ro f7,ro f8,λ_=>rfl,ro f10,ro f11,ro f12,ro f13,ro f14,ro f15,ro f16,ro f17,ro f18⟩)
  ·obtain rfl:=f9 (aj hall 9 rfl)
   refine af (v:=.agg (ints .u8 k0)) rfl rfl (bq rfl rfl (S0'.below hW) aD WN k0n) ?_
   exact aL <| aL <| (⟨_,_,_,rfl,hW,ro f0,ro f1,ro f2,ro f3,ro f4,ro f5,ro f6,ro f7,ro f8,ro f9,λ_=>rfl,ro f11,ro f12,ro f13,ro f14,ro f15,ro f16,ro f17,ro f18⟩)
  ·obtain rfl:=f4 (aj hall 4 rfl)
   obtain rfl:=f10 (aj hall 10 rfl)
   refine aV 51 rfl rfl rfl func51 (by kernel_rfl) (by kernel_rfl) (DX W) ?_
   intro W' hW'
   exact aL <| aL <| (⟨_,_,_,rfl,bC hW hW',ro f0,ro f1,ro f2,ro f3,ro f4,ro f5,ro f6,ro f7,ro f8,ro f9,ro f10,λ_=>rfl,ro f12,ro f13,ro f14,ro f15,ro f16,ro f17,ro f18⟩)
  ·refine af (v:=.pointer (some ⟨ga,0,none⟩)) rfl rfl rfl ?_
   exact aL <| aL <| (⟨_,_,_,rfl,hW,ro f0,ro f1,ro f2,ro f3,ro f4,ro f5,ro f6,ro f7,ro f8,ro f9,ro f10,ro f11,λ_=>rfl,ro f13,ro f14,ro f15,ro f16,ro f17,ro f18⟩)
  ·obtain rfl:=f12 (aj hall 12 rfl)
   refine af (v:=.pointer (some ⟨ga,0,none⟩)) rfl rfl (by kernel_rfl) ?_
   exact aL <| aL <| (⟨_,_,_,rfl,hW,ro f0,ro f1,ro f2,ro f3,ro f4,ro f5,ro f6,ro f7,ro f8,ro f9,ro f10,ro f11,ro f12,λ_=>rfl,ro f14,ro f15,ro f16,ro f17,ro f18⟩)
  ·obtain rfl:=f13 (aj hall 13 rfl)
   refine af (v:=.pointer (some ⟨ga,1,none⟩)) rfl rfl (by kernel_rfl) ?_
   exact aL <| aL <| (⟨_,_,_,rfl,hW,ro f0,ro f1,ro f2,ro f3,ro f4,ro f5,ro f6,ro f7,ro f8,ro f9,ro f10,ro f11,ro f12,ro f13,λ_=>rfl,ro f15,ro f16,ro f17,ro f18⟩)
  ·obtain rfl:=f14 (aj hall 14 rfl)
   refine af (v:=.slice (some ⟨gk,0,none⟩) m ck) rfl rfl (bO rfl rfl underlying121 ((hW.cell (p:=⟨_,_,none⟩) hk1).trans c1)) ?_
   exact aL <| aL <| (⟨_,_,_,rfl,hW,ro f0,ro f1,ro f2,ro f3,ro f4,ro f5,ro f6,ro f7,ro f8,ro f9,ro f10,ro f11,ro f12,ro f13,ro f14,λ_=>rfl,ro f16,ro f17,ro f18⟩)
  ·refine af (v:=.int .i64 (q:Int)) rfl rfl rfl ?_
   exact aL <| aL <| (⟨_,_,_,rfl,hW,ro f0,ro f1,ro f2,ro f3,ro f4,ro f5,ro f6,ro f7,ro f8,ro f9,ro f10,ro f11,ro f12,ro f13,ro f14,ro f15,λ_=>rfl,ro f17,ro f18⟩)
  ·obtain rfl:=f15 (aj hall 15 rfl)
   obtain rfl:=f16 (aj hall 16 rfl)
   refine af (v:=.slice (some ⟨gk,0+1*16,none⟩) (q-1) (ck-1)) rfl rfl (tH (lo:=1) underlying121 YU rfl rfl rfl rfl hq1 (by omega) (by omega) rfl) ?_
   exact aL <| aL <| (⟨_,_,_,rfl,hW,ro f0,ro f1,ro f2,ro f3,ro f4,ro f5,ro f6,ro f7,ro f8,ro f9,ro f10,ro f11,ro f12,ro f13,ro f14,ro f15,ro f16,λ_=>rfl,ro f18⟩)
  ·obtain rfl:=f3 (aj hall 3 rfl)
   obtain rfl:=f11 (aj hall 11 rfl)
   obtain rfl:=f17 (aj hall 17 rfl)
   refine aV 50 rfl rfl rfl func50 (by kernel_rfl) (by kernel_rfl) (hrd W (h4'.below hW) (SM'.below hW)) ?_
   intro W' hW'
   exact aL <| aL <| (⟨_,_,_,rfl,bC hW hW',ro f0,ro f1,ro f2,ro f3,ro f4,ro f5,ro f6,ro f7,ro f8,ro f9,ro f10,ro f11,ro f12,ro f13,ro f14,ro f15,ro f16,ro f17,λ_=>rfl⟩)
  ·exfalso;omega
 ·rintro D bP W ⟨u15,u16,u17,u18,u19,u20,u21,u22,u23,u24,u25,u26,u27,u28,u29,u30,u31,u32,u33,rfl,hW,f0,f1,f2,f3,f4,f5,f6,f7,f8,f9,f10,f11,f12,f13,f14,f15,f16,f17,f18⟩ hall
  obtain rfl:=f0 (hall 0 (by decide))
  obtain rfl:=f1 (hall 1 (by decide))
  obtain rfl:=f2 (hall 2 (by decide))
  obtain rfl:=f3 (hall 3 (by decide))
  obtain rfl:=f4 (hall 4 (by decide))
  obtain rfl:=f5 (hall 5 (by decide))
  obtain rfl:=f6 (hall 6 (by decide))
  obtain rfl:=f7 (hall 7 (by decide))
  obtain rfl:=f8 (hall 8 (by decide))
  obtain rfl:=f9 (hall 9 (by decide))
  obtain rfl:=f10 (hall 10 (by decide))
  obtain rfl:=f11 (hall 11 (by decide))
  obtain rfl:=f12 (hall 12 (by decide))
  obtain rfl:=f13 (hall 13 (by decide))
  obtain rfl:=f14 (hall 14 (by decide))
  obtain rfl:=f15 (hall 15 (by decide))
  obtain rfl:=f16 (hall 16 (by decide))
  obtain rfl:=f17 (hall 17 (by decide))
  obtain rfl:=f18 (hall 18 (by decide))
  clear f0 f1 f2 f3 f4 f5 f6 f7 f8 f9 f10 f11 f12 f13 f14 f15 f16 f17 f18 hall
  simp only[List.drop_succ_cons,List.drop_zero]
  have h1q:=h1'.below' hW
  have h4q:=h4'.below hW
  have h5q:=h5'.below' hW
  have SLq:=agA.below hW
  have PO:=A3.below' hW
  have Ie:=A4.below' hW
  have aK:=bC hbel0 hW
  clear h1' h4' h5' agA S0' SM' A3 A4 hbel0 hW c0 c1 DX hrd
  have hg3:ga≠w.heap.size:=h1q.LJ PO (by decide)
  have hg3b:gb≠w.heap.size:=h5q.LJ PO (by decide)
  have acY:=PO.row (ints .u8 x1)
  have hsz:w.heap.size+1<W.heap.size:=Ie.lt
  have acX:=Ie.aM (show w.heap.size+1≠w.heap.size by omega) (ints .u8 x1)
  have aB:=az aK dM (ints .u8 x1)
  have OQ:=h1.below' aB
  have afW:=h4.below aB
  have afV:=h5.below' aB
  have SLr:=SL.below aB
  have hk2:=OQ.lt
  have c0:=OQ.cell 0
  have c1:=OQ.cell 1
  clear h1q h4q h5q SLq Ie aK hg3 hg3b hsz h1 h4 h5 SL
  go_wp2_with (refine aa rfl 96 _ _ rfl w.heap.size rfl rfl PO (by rw[aF];exact hb) aD hx1 ?_;clear PO;(try simp only[nn,Nat.reduceAdd]))
  generalize W.setRow w.heap.size (ints .u8 x1)=w2 at *
  refine bW 13 (by kernel_rfl) (by kernel_rfl) (by kernel_rfl) (by kernel_rfl) (λD bP W=>∃u34 u35 u36 u37 u38 u39 u40 u41 u42 u43 u44 u45 u46:Value,bP={ tmps:=#[Value.pointer (some ⟨ga,0,none⟩),Value.agg (ints IntKind.u8 b),undef,Value.pointer (some ⟨w.heap.size,0,none⟩),Value.pointer (some ⟨w.heap.size+1,0,none⟩),Value.int IntKind.i64 ↑q,Value.pointer (some ⟨ga,0,none⟩),Value.bool false,undef,Value.pointer (some ⟨ga,0,none⟩),Value.pointer (some ⟨ga,0,none⟩),Value.pointer (some ⟨ga,1,none⟩),Value.slice (some ⟨gk,0,none⟩) m ck,Value.int IntKind.i64 ↑m,Value.int IntKind.i64 ↑q,Value.pointer (some ⟨ga,0,none⟩),Value.pointer (some ⟨ga,0,none⟩),Value.pointer (some ⟨ga,0,none⟩),Value.pointer (some ⟨gt,0,none⟩),Value.agg (ints IntKind.u8 b),Value.pointer (some ⟨ga,0,none⟩),Value.pointer (some ⟨ga,0,none⟩),Value.pointer (some ⟨ga,1,none⟩),Value.slice (some ⟨gk,0,none⟩) m ck,Value.pointer (some ⟨gk,0+0*16,none⟩),Value.agg (ints IntKind.u8 k0),Value.agg (ints IntKind.u8 x0),Value.pointer (some ⟨ga,0,none⟩),Value.pointer (some ⟨ga,0,none⟩),Value.pointer (some ⟨ga,1,none⟩),Value.slice (some ⟨gk,0,none⟩) m ck,Value.int IntKind.i64 ↑q,Value.slice (some ⟨gk,0+1*16,none⟩) (q-1) (ck-1),Value.agg (ints IntKind.u8 x1),u34,u35,u36,u37,u38,u39,u40,u41,u42,u43,u44,u45,u46],defers:=[] }/\Below w2.heap.size w2 W/\(D 0->u34=.pointer (some ⟨ga,0,none⟩))/\(D 1->u35=.pointer (some ⟨ga,0,none⟩))/\(D 2->u36=.pointer (some ⟨ga,0,none⟩))/\(D 3->u37=.pointer (some ⟨gt,0,none⟩))/\(D 4->u38=.agg (ints .u8 x1))/\(D 5->u39=.pointer (some ⟨ga,0,none⟩))/\(D 6->u40=.pointer (some ⟨ga,0,none⟩))/\(D 7->u41=.pointer (some ⟨ga,1,none⟩))/\(D 8->u42=.slice (some ⟨gk,0,none⟩) m ck)/\(D 9->u43=.int .i64 (q:Int))/\(D 10->u44=.pointer (some ⟨gk,0+q*16,none⟩))/\(D 11->u45=.agg (ints .u8 kl))/\(D 12->u46=.agg (ints .u8 y))) ?_ ?_ ?_
  ·exact aL <| (⟨_,_,_,_,_,rfl,⟨rfl,rfl,rfl,Nat.le_refl _,λ_ _=>rfl⟩,nofun,nofun,nofun,nofun,nofun,nofun,nofun,nofun,nofun,nofun,nofun,nofun,nofun⟩)
  ·intro i o hilt hi D bP W hI hnD hall
   obtain⟨u34,u35,u36,u37,u38,u39,u40,u41,u42,u43,u44,u45,u46,rfl,hW,f0,f1,f2,f3,f4,f5,f6,f7,f8,f9,f10,f11,f12⟩:=hI
   rcases i with _|_|_|_|_|_|_|_|_|_|_|_|_|i<;>try cases hi
   ·refine af (v:=.pointer (some ⟨ga,0,none⟩)) rfl rfl rfl ?_
    exact aL <| (⟨_,_,_,_,_,rfl,hW,λ_=>rfl,ro f1,ro f2,ro f3,ro f4,ro f5,ro f6,ro f7,ro f8,ro f9,ro f10,ro f11,ro f12⟩)
   ·obtain rfl:=f0 (aj hall 0 rfl)
    refine af (v:=.pointer (some ⟨ga,0,none⟩)) rfl rfl (by kernel_rfl) ?_
    exact aL <| (⟨_,_,_,_,_,rfl,hW,ro f0,λ_=>rfl,ro f2,ro f3,ro f4,ro f5,ro f6,ro f7,ro f8,ro f9,ro f10,ro f11,ro f12⟩)
   ·obtain rfl:=f1 (aj hall 1 rfl)
    refine af (v:=.pointer (some ⟨ga,0,none⟩)) rfl rfl (by kernel_rfl) ?_
    exact aL <| (⟨_,_,_,_,_,rfl,hW,ro f0,ro f1,λ_=>rfl,ro f3,ro f4,ro f5,ro f6,ro f7,ro f8,ro f9,ro f10,ro f11,ro f12⟩)
   ·obtain rfl:=f2 (aj hall 2 rfl)
    refine af (v:=.pointer (some ⟨gt,0,none⟩)) rfl rfl (dH rfl rfl underlying41 ((hW.cell (p:=⟨_,_,none⟩) hk2).trans c0)) ?_
    exact aL <| (⟨_,_,_,_,_,rfl,hW,ro f0,ro f1,ro f2,λ_=>rfl,ro f4,ro f5,ro f6,ro f7,ro f8,ro f9,ro f10,ro f11,ro f12⟩)
   ·refine bf rfl rfl rfl rfl (acY.below' hW) aD hx1 ?_
    exact aL <| (⟨_,_,_,_,_,rfl,hW,ro f0,ro f1,ro f2,ro f3,λ_=>rfl,ro f5,ro f6,ro f7,ro f8,ro f9,ro f10,ro f11,ro f12⟩)
   ·refine af (v:=.pointer (some ⟨ga,0,none⟩)) rfl rfl rfl ?_
    exact aL <| (⟨_,_,_,_,_,rfl,hW,ro f0,ro f1,ro f2,ro f3,ro f4,λ_=>rfl,ro f6,ro f7,ro f8,ro f9,ro f10,ro f11,ro f12⟩)
   ·obtain rfl:=f5 (aj hall 5 rfl)
    refine af (v:=.pointer (some ⟨ga,0,none⟩)) rfl rfl (by kernel_rfl) ?_
    exact aL <| (⟨_,_,_,_,_,rfl,hW,ro f0,ro f1,ro f2,ro f3,ro f4,ro f5,λ_=>rfl,ro f7,ro f8,ro f9,ro f10,ro f11,ro f12⟩)
   ·obtain rfl:=f6 (aj hall 6 rfl)
    refine af (v:=.pointer (some ⟨ga,1,none⟩)) rfl rfl (by kernel_rfl) ?_
    exact aL <| (⟨_,_,_,_,_,rfl,hW,ro f0,ro f1,ro f2,ro f3,ro f4,ro f5,ro f6,λ_=>rfl,ro f8,ro f9,ro f10,ro f11,ro f12⟩)
   ·obtain rfl:=f7 (aj hall 7 rfl)
    refine af (v:=.slice (some ⟨gk,0,none⟩) m ck) rfl rfl (bO rfl rfl underlying121 ((hW.cell (p:=⟨_,_,none⟩) hk2).trans c1)) ?_
    exact aL <| (⟨_,_,_,_,_,rfl,hW,ro f0,ro f1,ro f2,ro f3,ro f4,ro f5,ro f6,ro f7,λ_=>rfl,ro f9,ro f10,ro f11,ro f12⟩)
   ·refine af (v:=.int .i64 (q:Int)) rfl rfl rfl ?_
    exact aL <| (⟨_,_,_,_,_,rfl,hW,ro f0,ro f1,ro f2,ro f3,ro f4,ro f5,ro f6,ro f7,ro f8,λ_=>rfl,ro f10,ro f11,ro f12⟩)
   ·obtain rfl:=f8 (aj hall 8 rfl)
    obtain rfl:=f9 (aj hall 9 rfl)
    refine af (v:=.pointer (some ⟨gk,0+q*16,none⟩)) rfl rfl (jU rfl rfl rfl hqm underlying121 aD.2) ?_
    exact aL <| (⟨_,_,_,_,_,rfl,hW,ro f0,ro f1,ro f2,ro f3,ro f4,ro f5,ro f6,ro f7,ro f8,ro f9,λ_=>rfl,ro f11,ro f12⟩)
   ·obtain rfl:=f10 (aj hall 10 rfl)
    refine af (v:=.agg (ints .u8 kl)) rfl rfl (bq rfl rfl (SLr.below hW) aD WL kln) ?_
    exact aL <| (⟨_,_,_,_,_,rfl,hW,ro f0,ro f1,ro f2,ro f3,ro f4,ro f5,ro f6,ro f7,ro f8,ro f9,ro f10,λ_=>rfl,ro f12⟩)
   ·obtain rfl:=f3 (aj hall 3 rfl)
    obtain rfl:=f4 (aj hall 4 rfl)
    obtain rfl:=f11 (aj hall 11 rfl)
    refine aV 52 rfl rfl rfl func52 (by kernel_rfl) (by kernel_rfl) (hla W (afW.below hW) (afV.below' hW)) ?_
    intro W' hW'
    exact aL <| (⟨_,_,_,_,_,rfl,bC hW hW',ro f0,ro f1,ro f2,ro f3,ro f4,ro f5,ro f6,ro f7,ro f8,ro f9,ro f10,ro f11,λ_=>rfl⟩)
   ·exfalso;omega
  ·rintro D bP W ⟨u34,u35,u36,u37,u38,u39,u40,u41,u42,u43,u44,u45,u46,rfl,hW,f0,f1,f2,f3,f4,f5,f6,f7,f8,f9,f10,f11,f12⟩ hall
   obtain rfl:=f0 (hall 0 (by decide))
   obtain rfl:=f1 (hall 1 (by decide))
   obtain rfl:=f2 (hall 2 (by decide))
   obtain rfl:=f3 (hall 3 (by decide))
   obtain rfl:=f4 (hall 4 (by decide))
   obtain rfl:=f5 (hall 5 (by decide))
   obtain rfl:=f6 (hall 6 (by decide))
   obtain rfl:=f7 (hall 7 (by decide))
   obtain rfl:=f8 (hall 8 (by decide))
   obtain rfl:=f9 (hall 9 (by decide))
   obtain rfl:=f10 (hall 10 (by decide))
   obtain rfl:=f11 (hall 11 (by decide))
   obtain rfl:=f12 (hall 12 (by decide))
   clear f0 f1 f2 f3 f4 f5 f6 f7 f8 f9 f10 f11 f12 hall
   simp only[List.drop_succ_cons,List.drop_zero]
   have Ie:=acX.below' hW
   have aG:=bC aB hW
   clear acY acX aB hW c0 c1 hla OQ afW afV SLr
   go_wp2_with (refine aa rfl 96 _ _ rfl _ rfl rfl Ie (ah _ _) aD hyl ?_;(try simp only[nn,Nat.reduceAdd]))
   refine aO rfl rfl (Ie.row _) aD hyl ⟨rfl,?_⟩
   exact az aG (by omega) _
theorem uC (L:List Nat)(ks:List (List Nat))(b:List Nat):∀j,(jk L ks b j).length=16
 | 0=>kQ _ _ _
 | j+1=>Er _ _ _
theorem Dq {L:List Nat}(hL:∀x∈L,x<256)(ks:List (List Nat))(b:List Nat):∀j,∀x∈jk L ks b j,x<256
 | 0=>BZ hL _ _
 | j+1=>BZ hL _ _
theorem Bv (ga gt gb gk ck:Nat)(L:List Nat)(ks:List (List Nat))(b:List Nat)(ok:lI L ks)(hb:b.length=16)(hbb:∀x∈b,x<256)(w:World)(hK:Ag w ga gt gb gk ck L ks) :
  Calls prog 105 #[.pointer (some ⟨ga,0,none⟩),.agg (ints .u8 b)] w λe w'=>e=.returned (.agg (ints .u8 (ma L ks b)))/\Below w.heap.size w w':=by
 obtain⟨lL,bL,two,few,FJ,Qg⟩:=ok
 obtain⟨h1,h2,h3,h4,h5⟩:=hK
 obtain⟨m,hm⟩:=bD (ks.length)
 obtain⟨q,hq⟩:=bD (m-1)
 have hkq:Hid (ks.length=q+1):=aR (by have:=hm.out;have:=hq.out;omega)
 rw[hm.out] at two few h1 h3
 have eq1:(m:Int)-1=(q:Int):=by rw[←hq.out];omega
 have hqm:q<m:=by rw[←hq.out];omega
 have hq1:1<=q:=by rw[←hq.out];omega
 obtain⟨k0,hk0⟩:=bD (ks.getD 0 [])
 obtain⟨kl,hkl⟩:=bD (ks.getD q [])
 have WN:k0.length=16:=by rw[←hk0.out];exact bQ (p:=λk=>k.length=16) FJ (by rw[hkq.out];omega)
 have k0b:∀x∈k0,x<256:=by rw[←hk0.out];exact bQ (p:=λk=>∀x∈k,x<256) Qg (by rw[hkq.out];omega)
 have WL:kl.length=16:=by rw[←hkl.out];exact bQ (p:=λk=>k.length=16) FJ (by rw[hkq.out];omega)
 have klb:∀x∈kl,x<256:=by rw[←hkl.out];exact bQ (p:=λk=>∀x∈k,x<256) Qg (by rw[hkq.out];omega)
 have k0n:k0≠[]:=λe=>by rw[e] at WN;simp at WN
 have kln:kl≠[]:=λe=>by rw[e] at WL;simp at WL
 have S0:Sl w (some ⟨gk,0+0*16,none⟩) .u8 k0:=by rw[←hk0.out];exact qi h2 FJ (by rw[hkq.out];omega)
 have SL:Sl w (some ⟨gk,0+q*16,none⟩) .u8 kl:=by rw[←hkl.out];exact qi h2 FJ (by rw[hkq.out];omega)
 have HD0:Hid (jk L ks b 0=zK L b kl):=aR (by unfold jk;rw[hkq.out,Nat.add_sub_cancel,hkl.out])
 have hx1:=kQ L (eT b kl) 16
 have hun:=λ(W:World) (hT:ng W gt gb L 1024) (hB:aA W gb 69 (ints .u8 L))=>Ca gt gb L b kl lL bL hb hbb WL klb W hT hB
 simp only[←HD0.out] at hun
 have hx1:=uC L ks b 0
 have A3:=(aA.new w 96 (ints .u8 b)).alloc (.cells (ints .u8 (zeros 16)) 96)
 have A4:=aA.new (w.alloc (.cells (ints .u8 b) 96)) 96 (ints .u8 (zeros 16))
 rw[World.size_alloc] at A4
 have hbel0:=(bN w (.cells (ints .u8 b) 96)).alloc (by simp) (.cells (ints .u8 (zeros 16)) 96)
 have h1':=h1.below' hbel0
 have h4':=h4.below hbel0
 have h5':=h5.below' hbel0
 have agA:=SL.below hbel0
 have hk1:=h1'.lt
 have c0:=h1'.cell 0
 have c1:=h1'.cell 1
 clear SL
 obtain⟨x1,Yp⟩:=bD (jk L ks b 0)
 rw[Yp.out] at hx1
 simp only[Yp.out] at hun
 obtain⟨Y,HY⟩:=bD (ma L ks b)
 rw[HY.out]
 go_enter func105,ntmps105
 go_wp2_with ((first|(refine ae rfl 96 rfl fw ?_)|(refine aZ rfl (bO rfl rfl underlying121 c1) ?_));(try simp only[nn,Nat.reduceAdd]))
 generalize ((w.alloc (.cells (ints .u8 b) 96)).alloc (.cells (ints .u8 (zeros 16)) 96))=w0 at *
 refine bW 13 (by kernel_rfl) (by kernel_rfl) (by kernel_rfl) (by kernel_rfl) (λD bP W=>∃u15 u16 u17 u18 u19 u20 u21 u22 u23 u24 u25 u26 u27:Value,bP={ tmps:=#[Value.pointer (some ⟨ga,0,none⟩),Value.agg (ints IntKind.u8 b),undef,Value.pointer (some ⟨w.heap.size,0,none⟩),Value.pointer (some ⟨w.heap.size+1,0,none⟩),Value.int IntKind.i64 ↑q,Value.pointer (some ⟨ga,0,none⟩),Value.bool false,undef,Value.pointer (some ⟨ga,0,none⟩),Value.pointer (some ⟨ga,0,none⟩),Value.pointer (some ⟨ga,1,none⟩),Value.slice (some ⟨gk,0,none⟩) m ck,Value.int IntKind.i64 ↑m,Value.int IntKind.i64 ↑q,u15,u16,u17,u18,u19,u20,u21,u22,u23,u24,u25,u26,u27,undef,undef,undef,undef,undef,undef,undef,undef,undef,undef,undef,undef,undef,undef,undef,undef,undef,undef,undef,undef,undef,undef,undef,undef,undef],defers:=[] }/\Below w0.heap.size w0 W/\(D 0->u15=.pointer (some ⟨ga,0,none⟩))/\(D 1->u16=.pointer (some ⟨ga,0,none⟩))/\(D 2->u17=.pointer (some ⟨ga,0,none⟩))/\(D 3->u18=.pointer (some ⟨gt,0,none⟩))/\(D 4->u19=.agg (ints .u8 b))/\(D 5->u20=.pointer (some ⟨ga,0,none⟩))/\(D 6->u21=.pointer (some ⟨ga,0,none⟩))/\(D 7->u22=.pointer (some ⟨ga,1,none⟩))/\(D 8->u23=.slice (some ⟨gk,0,none⟩) m ck)/\(D 9->u24=.int .i64 (q:Int))/\(D 10->u25=.pointer (some ⟨gk,0+q*16,none⟩))/\(D 11->u26=.agg (ints .u8 kl))/\(D 12->u27=.agg (ints .u8 x1))) ?_ ?_ ?_
 ·exact aL <| (⟨_,_,_,_,_,rfl,⟨rfl,rfl,rfl,Nat.le_refl _,λ_ _=>rfl⟩,nofun,nofun,nofun,nofun,nofun,nofun,nofun,nofun,nofun,nofun,nofun,nofun,nofun⟩)
 ·intro i o hilt hi D bP W hI hnD hall
  obtain⟨u15,u16,u17,u18,u19,u20,u21,u22,u23,u24,u25,u26,u27,rfl,hW,f0,f1,f2,f3,f4,f5,f6,f7,f8,f9,f10,f11,f12⟩:=hI
  rcases i with _|_|_|_|_|_|_|_|_|_|_|_|_|i<;>try cases hi
  ·refine af (v:=.pointer (some ⟨ga,0,none⟩)) rfl rfl rfl ?_
   exact aL <| (⟨_,_,_,_,_,rfl,hW,λ_=>rfl,ro f1,ro f2,ro f3,ro f4,ro f5,ro f6,ro f7,ro f8,ro f9,ro f10,ro f11,ro f12⟩)
  ·obtain rfl:=f0 (aj hall 0 rfl)
   refine af (v:=.pointer (some ⟨ga,0,none⟩)) rfl rfl (by kernel_rfl) ?_
   exact aL <| (⟨_,_,_,_,_,rfl,hW,ro f0,λ_=>rfl,ro f2,ro f3,ro f4,ro f5,ro f6,ro f7,ro f8,ro f9,ro f10,ro f11,ro f12⟩)
  ·obtain rfl:=f1 (aj hall 1 rfl)
   refine af (v:=.pointer (some ⟨ga,0,none⟩)) rfl rfl (by kernel_rfl) ?_
   exact aL <| (⟨_,_,_,_,_,rfl,hW,ro f0,ro f1,λ_=>rfl,ro f3,ro f4,ro f5,ro f6,ro f7,ro f8,ro f9,ro f10,ro f11,ro f12⟩)
  ·obtain rfl:=f2 (aj hall 2 rfl)
   refine af (v:=.pointer (some ⟨gt,0,none⟩)) rfl rfl (dH rfl rfl underlying41 ((hW.cell (p:=⟨_,_,none⟩) hk1).trans c0)) ?_
   exact aL <| (⟨_,_,_,_,_,rfl,hW,ro f0,ro f1,ro f2,λ_=>rfl,ro f4,ro f5,ro f6,ro f7,ro f8,ro f9,ro f10,ro f11,ro f12⟩)
  ·refine bf rfl rfl rfl rfl (A3.below' hW) aD hb ?_
   exact aL <| (⟨_,_,_,_,_,rfl,hW,ro f0,ro f1,ro f2,ro f3,λ_=>rfl,ro f5,ro f6,ro f7,ro f8,ro f9,ro f10,ro f11,ro f12⟩)
  ·refine af (v:=.pointer (some ⟨ga,0,none⟩)) rfl rfl rfl ?_
   exact aL <| (⟨_,_,_,_,_,rfl,hW,ro f0,ro f1,ro f2,ro f3,ro f4,λ_=>rfl,ro f6,ro f7,ro f8,ro f9,ro f10,ro f11,ro f12⟩)
  ·obtain rfl:=f5 (aj hall 5 rfl)
   refine af (v:=.pointer (some ⟨ga,0,none⟩)) rfl rfl (by kernel_rfl) ?_
   exact aL <| (⟨_,_,_,_,_,rfl,hW,ro f0,ro f1,ro f2,ro f3,ro f4,ro f5,λ_=>rfl,ro f7,ro f8,ro f9,ro f10,ro f11,ro f12⟩)
  ·obtain rfl:=f6 (aj hall 6 rfl)
   refine af (v:=.pointer (some ⟨ga,1,none⟩)) rfl rfl (by kernel_rfl) ?_
   exact aL <| (⟨_,_,_,_,_,rfl,hW,ro f0,ro f1,ro f2,ro f3,ro f4,ro f5,ro f6,λ_=>rfl,ro f8,ro f9,ro f10,ro f11,ro f12⟩)
  ·obtain rfl:=f7 (aj hall 7 rfl)
   refine af (v:=.slice (some ⟨gk,0,none⟩) m ck) rfl rfl (bO rfl rfl underlying121 ((hW.cell (p:=⟨_,_,none⟩) hk1).trans c1)) ?_
   exact aL <| (⟨_,_,_,_,_,rfl,hW,ro f0,ro f1,ro f2,ro f3,ro f4,ro f5,ro f6,ro f7,λ_=>rfl,ro f9,ro f10,ro f11,ro f12⟩)
  ·refine af (v:=.int .i64 (q:Int)) rfl rfl rfl ?_
   exact aL <| (⟨_,_,_,_,_,rfl,hW,ro f0,ro f1,ro f2,ro f3,ro f4,ro f5,ro f6,ro f7,ro f8,λ_=>rfl,ro f10,ro f11,ro f12⟩)
  ·obtain rfl:=f8 (aj hall 8 rfl)
   obtain rfl:=f9 (aj hall 9 rfl)
   refine af (v:=.pointer (some ⟨gk,0+q*16,none⟩)) rfl rfl (jU rfl rfl rfl hqm underlying121 aD.2) ?_
   exact aL <| (⟨_,_,_,_,_,rfl,hW,ro f0,ro f1,ro f2,ro f3,ro f4,ro f5,ro f6,ro f7,ro f8,ro f9,λ_=>rfl,ro f11,ro f12⟩)
  ·obtain rfl:=f10 (aj hall 10 rfl)
   refine af (v:=.agg (ints .u8 kl)) rfl rfl (bq rfl rfl (agA.below hW) aD WL kln) ?_
   exact aL <| (⟨_,_,_,_,_,rfl,hW,ro f0,ro f1,ro f2,ro f3,ro f4,ro f5,ro f6,ro f7,ro f8,ro f9,ro f10,λ_=>rfl,ro f12⟩)
  ·obtain rfl:=f3 (aj hall 3 rfl)
   obtain rfl:=f4 (aj hall 4 rfl)
   obtain rfl:=f11 (aj hall 11 rfl)
   refine aV 113 rfl rfl rfl func113 (by kernel_rfl) (by kernel_rfl) (hun W (h4'.below hW) (h5'.below' hW)) ?_
   intro W' hW'
   exact aL <| (⟨_,_,_,_,_,rfl,bC hW hW',ro f0,ro f1,ro f2,ro f3,ro f4,ro f5,ro f6,ro f7,ro f8,ro f9,ro f10,ro f11,λ_=>rfl⟩)
  ·exfalso;omega
 ·rintro D bP W ⟨u15,u16,u17,u18,u19,u20,u21,u22,u23,u24,u25,u26,u27,rfl,hW,f0,f1,f2,f3,f4,f5,f6,f7,f8,f9,f10,f11,f12⟩ hall
  obtain rfl:=f0 (hall 0 (by decide))
  obtain rfl:=f1 (hall 1 (by decide))
  obtain rfl:=f2 (hall 2 (by decide))
  obtain rfl:=f3 (hall 3 (by decide))
  obtain rfl:=f4 (hall 4 (by decide))
  obtain rfl:=f5 (hall 5 (by decide))
  obtain rfl:=f6 (hall 6 (by decide))
  obtain rfl:=f7 (hall 7 (by decide))
  obtain rfl:=f8 (hall 8 (by decide))
  obtain rfl:=f9 (hall 9 (by decide))
  obtain rfl:=f10 (hall 10 (by decide))
  obtain rfl:=f11 (hall 11 (by decide))
  obtain rfl:=f12 (hall 12 (by decide))
  clear f0 f1 f2 f3 f4 f5 f6 f7 f8 f9 f10 f11 f12 hall
  simp only[List.drop_succ_cons,List.drop_zero]
  have PO:=A3.below' hW
  have Ie:=A4.below' hW
  have aK:=bC hbel0 hW
  have acY:=PO.row (ints .u8 x1)
  have hsz:w.heap.size+1<W.heap.size:=Ie.lt
  have acX:=Ie.aM (show w.heap.size+1≠w.heap.size by omega) (ints .u8 x1)
  have aB:=az aK dM (ints .u8 x1)
  rw[←Yp.out] at acY acX aB
  clear h1' h4' h5' agA A3 A4 hbel0 hW c0 c1 hun Ie aK hsz hk1
  go_wp2_with (refine aa rfl 96 _ _ rfl w.heap.size rfl rfl PO (by rw[aF];exact hb) aD hx1 ?_;rw[←Yp.out];clear PO;(try simp only[nn,Nat.reduceAdd]))
  generalize W.setRow w.heap.size (ints .u8 (jk L ks b 0))=w2 at *
  go_loopw [5] (λt wr=>∃i j:Nat,i+j=q/\1<=i/\t=.int .i64 (i:Int)/\aA wr w.heap.size 96 (ints .u8 (jk L ks b j))/\aA wr (w.heap.size+1) 96 (ints .u8 (zeros 16))/\Below w.heap.size w wr) (λt wr=>(intOf t).toNat)
  case atStart=>exact⟨q,0,by omega,hq1,rfl,acY,acX,aB⟩
  case round =>
   clear acY acX aB
   obtain⟨i,j,hij,hi1,rfl,A3,A4,hbel⟩:=hrel
   have hxl:=uC L ks b j
   have hxb:=Dq bL ks b j
   by_cases hlt:1<i
   ·have hd:decide ((i:Int)>1)=true:=by simp;omega
    obtain⟨r,hr⟩:=bD (i-1)
    have er:(i:Int)-1=(r:Int):=by rw[←hr.out];omega
    have hrm:r<m:=by rw[←hr.out];omega
    obtain⟨kr,hkr⟩:=bD (ks.getD r [])
    have krl:kr.length=16:=by rw[←hkr.out];exact bQ (p:=λk=>k.length=16) FJ (by rw[hkq.out];omega)
    have krb:∀x∈kr,x<256:=by rw[←hkr.out];exact bQ (p:=λk=>∀x∈k,x<256) Qg (by rw[hkq.out];omega)
    have krn:kr≠[]:=λe=>by rw[e] at krl;simp at krl
    have SR:Sl w (some ⟨gk,0+r*16,none⟩) .u8 kr:=by rw[←hkr.out];exact qi h2 FJ (by rw[hkq.out];omega)
    have HDj:Hid (jk L ks b (j+1)=xC L (jk L ks b j) kr):=aR (by
     rw[←hkr.out,show r=ks.length-2-j by rw[hkq.out,←hr.out];omega];rfl)
    have hyl:=uC L ks b (j+1)
    have hun:=λ(W:World) (hT:ng W gt gb L 1024) (hB:aA W gb 69 (ints .u8 L))=>zL gt gb L (jk L ks b j) kr lL bL hxl hxb krl krb W hT hB
    simp only[←HDj.out] at hun
    obtain⟨x,Hx⟩:=bD (jk L ks b j)
    obtain⟨y,Hy⟩:=bD (jk L ks b (j+1))
    rw[Hx.out] at A3 hxl
    rw[Hy.out] at hyl
    simp only[Hx.out,Hy.out] at hun
    clear hxb HDj
    have OQ:=h1.below' hbel
    have afW:=h4.below hbel
    have afV:=h5.below' hbel
    have SRr:=SR.below hbel
    have hk2:=OQ.lt
    have c0:=OQ.cell 0
    have c1:=OQ.cell 1
    clear SR
    go_wp2_with fail
    refine bW 13 (by kernel_rfl) (by kernel_rfl) (by kernel_rfl) (by kernel_rfl) (λD bP W=>∃u32 u33 u34 u35 u36 u37 u38 u39 u40 u41 u42 u43 u44:Value,bP={ tmps:=#[Value.pointer (some ⟨ga,0,none⟩),Value.agg (ints IntKind.u8 b),undef,Value.pointer (some ⟨w.heap.size,0,none⟩),Value.pointer (some ⟨w.heap.size+1,0,none⟩),Value.int IntKind.i64 ↑r,Value.pointer (some ⟨ga,0,none⟩),Value.bool false,undef,Value.pointer (some ⟨ga,0,none⟩),Value.pointer (some ⟨ga,0,none⟩),Value.pointer (some ⟨ga,1,none⟩),Value.slice (some ⟨gk,0,none⟩) m ck,Value.int IntKind.i64 ↑m,Value.int IntKind.i64 ↑q,Value.pointer (some ⟨ga,0,none⟩),Value.pointer (some ⟨ga,0,none⟩),Value.pointer (some ⟨ga,0,none⟩),Value.pointer (some ⟨gt,0,none⟩),Value.agg (ints IntKind.u8 b),Value.pointer (some ⟨ga,0,none⟩),Value.pointer (some ⟨ga,0,none⟩),Value.pointer (some ⟨ga,1,none⟩),Value.slice (some ⟨gk,0,none⟩) m ck,Value.int IntKind.i64 ↑q,Value.pointer (some ⟨gk,0+q*16,none⟩),Value.agg (ints IntKind.u8 kl),Value.agg (ints IntKind.u8 (jk L ks b 0)),Value.int IntKind.i64 ↑i,Value.bool true,Value.int IntKind.i64 ↑i,Value.int IntKind.i64 ↑r,u32,u33,u34,u35,u36,u37,u38,u39,u40,u41,u42,u43,u44,undef,undef,undef,undef,undef,undef,undef,undef],defers:=[] }/\Below wr.heap.size wr W/\(D 0->u32=.pointer (some ⟨ga,0,none⟩))/\(D 1->u33=.pointer (some ⟨ga,0,none⟩))/\(D 2->u34=.pointer (some ⟨ga,0,none⟩))/\(D 3->u35=.pointer (some ⟨gt,0,none⟩))/\(D 4->u36=.agg (ints .u8 x))/\(D 5->u37=.pointer (some ⟨ga,0,none⟩))/\(D 6->u38=.pointer (some ⟨ga,0,none⟩))/\(D 7->u39=.pointer (some ⟨ga,1,none⟩))/\(D 8->u40=.slice (some ⟨gk,0,none⟩) m ck)/\(D 9->u41=.int .i64 (r:Int))/\(D 10->u42=.pointer (some ⟨gk,0+r*16,none⟩))/\(D 11->u43=.agg (ints .u8 kr))/\(D 12->u44=.agg (ints .u8 y))) ?_ ?_ ?_
    ·exact aL <| (⟨_,_,_,_,_,rfl,⟨rfl,rfl,rfl,Nat.le_refl _,λ_ _=>rfl⟩,nofun,nofun,nofun,nofun,nofun,nofun,nofun,nofun,nofun,nofun,nofun,nofun,nofun⟩)
    ·intro i o hilt hi D bP W hI hnD hall
     obtain⟨u32,u33,u34,u35,u36,u37,u38,u39,u40,u41,u42,u43,u44,rfl,hW,f0,f1,f2,f3,f4,f5,f6,f7,f8,f9,f10,f11,f12⟩:=hI
     rcases i with _|_|_|_|_|_|_|_|_|_|_|_|_|i<;>try cases hi
     ·refine af (v:=.pointer (some ⟨ga,0,none⟩)) rfl rfl rfl ?_
      exact aL <| (⟨_,_,_,_,_,rfl,hW,λ_=>rfl,ro f1,ro f2,ro f3,ro f4,ro f5,ro f6,ro f7,ro f8,ro f9,ro f10,ro f11,ro f12⟩)
     ·obtain rfl:=f0 (aj hall 0 rfl)
      refine af (v:=.pointer (some ⟨ga,0,none⟩)) rfl rfl (by kernel_rfl) ?_
      exact aL <| (⟨_,_,_,_,_,rfl,hW,ro f0,λ_=>rfl,ro f2,ro f3,ro f4,ro f5,ro f6,ro f7,ro f8,ro f9,ro f10,ro f11,ro f12⟩)
     ·obtain rfl:=f1 (aj hall 1 rfl)
      refine af (v:=.pointer (some ⟨ga,0,none⟩)) rfl rfl (by kernel_rfl) ?_
      exact aL <| (⟨_,_,_,_,_,rfl,hW,ro f0,ro f1,λ_=>rfl,ro f3,ro f4,ro f5,ro f6,ro f7,ro f8,ro f9,ro f10,ro f11,ro f12⟩)
     ·obtain rfl:=f2 (aj hall 2 rfl)
      refine af (v:=.pointer (some ⟨gt,0,none⟩)) rfl rfl (dH rfl rfl underlying41 ((hW.cell (p:=⟨_,_,none⟩) hk2).trans c0)) ?_
      exact aL <| (⟨_,_,_,_,_,rfl,hW,ro f0,ro f1,ro f2,λ_=>rfl,ro f4,ro f5,ro f6,ro f7,ro f8,ro f9,ro f10,ro f11,ro f12⟩)
     ·refine bf rfl rfl rfl rfl (A3.below' hW) aD hxl ?_
      exact aL <| (⟨_,_,_,_,_,rfl,hW,ro f0,ro f1,ro f2,ro f3,λ_=>rfl,ro f5,ro f6,ro f7,ro f8,ro f9,ro f10,ro f11,ro f12⟩)
     ·refine af (v:=.pointer (some ⟨ga,0,none⟩)) rfl rfl rfl ?_
      exact aL <| (⟨_,_,_,_,_,rfl,hW,ro f0,ro f1,ro f2,ro f3,ro f4,λ_=>rfl,ro f6,ro f7,ro f8,ro f9,ro f10,ro f11,ro f12⟩)
     ·obtain rfl:=f5 (aj hall 5 rfl)
      refine af (v:=.pointer (some ⟨ga,0,none⟩)) rfl rfl (by kernel_rfl) ?_
      exact aL <| (⟨_,_,_,_,_,rfl,hW,ro f0,ro f1,ro f2,ro f3,ro f4,ro f5,λ_=>rfl,ro f7,ro f8,ro f9,ro f10,ro f11,ro f12⟩)
     ·obtain rfl:=f6 (aj hall 6 rfl)
      refine af (v:=.pointer (some ⟨ga,1,none⟩)) rfl rfl (by kernel_rfl) ?_
      exact aL <| (⟨_,_,_,_,_,rfl,hW,ro f0,ro f1,ro f2,ro f3,ro f4,ro f5,ro f6,λ_=>rfl,ro f8,ro f9,ro f10,ro f11,ro f12⟩)
     ·obtain rfl:=f7 (aj hall 7 rfl)
      refine af (v:=.slice (some ⟨gk,0,none⟩) m ck) rfl rfl (bO rfl rfl underlying121 ((hW.cell (p:=⟨_,_,none⟩) hk2).trans c1)) ?_
      exact aL <| (⟨_,_,_,_,_,rfl,hW,ro f0,ro f1,ro f2,ro f3,ro f4,ro f5,ro f6,ro f7,λ_=>rfl,ro f9,ro f10,ro f11,ro f12⟩)
     ·refine af (v:=.int .i64 (r:Int)) rfl rfl rfl ?_
      exact aL <| (⟨_,_,_,_,_,rfl,hW,ro f0,ro f1,ro f2,ro f3,ro f4,ro f5,ro f6,ro f7,ro f8,λ_=>rfl,ro f10,ro f11,ro f12⟩)
     ·obtain rfl:=f8 (aj hall 8 rfl)
      obtain rfl:=f9 (aj hall 9 rfl)
      refine af (v:=.pointer (some ⟨gk,0+r*16,none⟩)) rfl rfl (jU rfl rfl rfl hrm underlying121 aD.2) ?_
      exact aL <| (⟨_,_,_,_,_,rfl,hW,ro f0,ro f1,ro f2,ro f3,ro f4,ro f5,ro f6,ro f7,ro f8,ro f9,λ_=>rfl,ro f11,ro f12⟩)
     ·obtain rfl:=f10 (aj hall 10 rfl)
      refine af (v:=.agg (ints .u8 kr)) rfl rfl (bq rfl rfl (SRr.below hW) aD krl krn) ?_
      exact aL <| (⟨_,_,_,_,_,rfl,hW,ro f0,ro f1,ro f2,ro f3,ro f4,ro f5,ro f6,ro f7,ro f8,ro f9,ro f10,λ_=>rfl,ro f12⟩)
     ·obtain rfl:=f3 (aj hall 3 rfl)
      obtain rfl:=f4 (aj hall 4 rfl)
      obtain rfl:=f11 (aj hall 11 rfl)
      refine aV 114 rfl rfl rfl func114 (by kernel_rfl) (by kernel_rfl) (hun W (afW.below hW) (afV.below' hW)) ?_
      intro W' hW'
      exact aL <| (⟨_,_,_,_,_,rfl,bC hW hW',ro f0,ro f1,ro f2,ro f3,ro f4,ro f5,ro f6,ro f7,ro f8,ro f9,ro f10,ro f11,λ_=>rfl⟩)
     ·exfalso;omega
    ·rintro D bP W ⟨u32,u33,u34,u35,u36,u37,u38,u39,u40,u41,u42,u43,u44,rfl,hW,f0,f1,f2,f3,f4,f5,f6,f7,f8,f9,f10,f11,f12⟩ hall
     obtain rfl:=f0 (hall 0 (by decide))
     obtain rfl:=f1 (hall 1 (by decide))
     obtain rfl:=f2 (hall 2 (by decide))
     obtain rfl:=f3 (hall 3 (by decide))
     obtain rfl:=f4 (hall 4 (by decide))
     obtain rfl:=f5 (hall 5 (by decide))
     obtain rfl:=f6 (hall 6 (by decide))
     obtain rfl:=f7 (hall 7 (by decide))
     obtain rfl:=f8 (hall 8 (by decide))
     obtain rfl:=f9 (hall 9 (by decide))
     obtain rfl:=f10 (hall 10 (by decide))
     obtain rfl:=f11 (hall 11 (by decide))
     obtain rfl:=f12 (hall 12 (by decide))
     clear f0 f1 f2 f3 f4 f5 f6 f7 f8 f9 f10 f11 f12 hall
     simp only[List.drop_succ_cons,List.drop_zero]
     have PO:=A3.below' hW
     have Ie:=A4.below' hW
     have aK:=bC hbel hW
     have A3s:=PO.row (ints .u8 y)
     have hsz:w.heap.size+1<W.heap.size:=Ie.lt
     have A4s:=Ie.aM (show w.heap.size+1≠w.heap.size by omega) (ints .u8 y)
     have aB:=az aK dM (ints .u8 y)
     rw[←Hy.out] at A3s A4s aB
     clear OQ afW afV SRr hW c0 c1 hun A3 A4 Ie hbel aK hsz hk2
     go_wp2_with (refine aa rfl 96 _ _ rfl w.heap.size rfl rfl PO (by rw[aF];exact hxl) aD hyl ?_;rw[←Hy.out];clear PO;(try simp only[nn,Nat.reduceAdd]))
     exact⟨⟨r,j+1,by omega,by omega,rfl,A3s,A4s,aB⟩,by simp[intOf];omega⟩
   ·have ei:i=1:=by omega
    have hd:decide ((i:Int)>1)=false:=by simp;omega
    have HN:Hid (qR (jk L ks b j) k0=Y):=aR (by rw[←HY.out];unfold ma;rw[hk0.out,show ks.length-2=j by rw[hkq.out];omega])
    have DX:=λW=>BJ (jk L ks b j) k0 hxl WN hxb k0b W
    have hyl:=gP (jk L ks b j) k0
    rw[HN.out] at hyl
    simp only[HN.out] at DX
    obtain⟨x,Hx⟩:=bD (jk L ks b j)
    rw[Hx.out] at A3 hxl
    simp only[Hx.out] at DX
    clear hxb ei hij hi1 hlt HN
    have OQ:=h1.below' hbel
    have S0r:=S0.below hbel
    have hk2:=OQ.lt
    have c1:=OQ.cell 1
    go_wp2_with fail
    refine bW 8 (by kernel_rfl) (by kernel_rfl) (by kernel_rfl) (by kernel_rfl) (λD bP W=>∃u45 u46 u47 u48 u49 u50 u51 u52:Value,bP={ tmps:=#[Value.pointer (some ⟨ga,0,none⟩),Value.agg (ints IntKind.u8 b),undef,Value.pointer (some ⟨w.heap.size,0,none⟩),Value.pointer (some ⟨w.heap.size+1,0,none⟩),Value.int IntKind.i64 ↑i,Value.pointer (some ⟨ga,0,none⟩),Value.bool false,undef,Value.pointer (some ⟨ga,0,none⟩),Value.pointer (some ⟨ga,0,none⟩),Value.pointer (some ⟨ga,1,none⟩),Value.slice (some ⟨gk,0,none⟩) m ck,Value.int IntKind.i64 ↑m,Value.int IntKind.i64 ↑q,Value.pointer (some ⟨ga,0,none⟩),Value.pointer (some ⟨ga,0,none⟩),Value.pointer (some ⟨ga,0,none⟩),Value.pointer (some ⟨gt,0,none⟩),Value.agg (ints IntKind.u8 b),Value.pointer (some ⟨ga,0,none⟩),Value.pointer (some ⟨ga,0,none⟩),Value.pointer (some ⟨ga,1,none⟩),Value.slice (some ⟨gk,0,none⟩) m ck,Value.int IntKind.i64 ↑q,Value.pointer (some ⟨gk,0+q*16,none⟩),Value.agg (ints IntKind.u8 kl),Value.agg (ints IntKind.u8 (jk L ks b 0)),Value.int IntKind.i64 ↑i,Value.bool false,u30,u31,u32,u33,u34,u35,u36,u37,u38,u39,u40,u41,u42,u43,u44,u45,u46,u47,u48,u49,u50,u51,u52],defers:=[] }/\Below wr.heap.size wr W/\(D 0->u45=.agg (ints .u8 x))/\(D 1->u46=.pointer (some ⟨ga,0,none⟩))/\(D 2->u47=.pointer (some ⟨ga,0,none⟩))/\(D 3->u48=.pointer (some ⟨ga,1,none⟩))/\(D 4->u49=.slice (some ⟨gk,0,none⟩) m ck)/\(D 5->u50=.pointer (some ⟨gk,0+0*16,none⟩))/\(D 6->u51=.agg (ints .u8 k0))/\(D 7->u52=.agg (ints .u8 Y))) ?_ ?_ ?_
    ·exact aL <| (⟨rfl,⟨rfl,rfl,rfl,Nat.le_refl _,λ_ _=>rfl⟩,nofun,nofun,nofun,nofun,nofun,nofun,nofun,nofun⟩)
    ·intro i o hilt hi D bP W hI hnD hall
     obtain⟨u45,u46,u47,u48,u49,u50,u51,u52,rfl,hW,f0,f1,f2,f3,f4,f5,f6,f7⟩:=hI
     rcases i with _|_|_|_|_|_|_|_|i<;>try cases hi
     ·refine bf rfl rfl rfl rfl (A3.below' hW) aD hxl ?_
      exact aL <| (⟨rfl,hW,λ_=>rfl,ro f1,ro f2,ro f3,ro f4,ro f5,ro f6,ro f7⟩)
     ·refine af (v:=.pointer (some ⟨ga,0,none⟩)) rfl rfl rfl ?_
      exact aL <| (⟨rfl,hW,ro f0,λ_=>rfl,ro f2,ro f3,ro f4,ro f5,ro f6,ro f7⟩)
     ·obtain rfl:=f1 (aj hall 1 rfl)
      refine af (v:=.pointer (some ⟨ga,0,none⟩)) rfl rfl (by kernel_rfl) ?_
      exact aL <| (⟨rfl,hW,ro f0,ro f1,λ_=>rfl,ro f3,ro f4,ro f5,ro f6,ro f7⟩)
     ·obtain rfl:=f2 (aj hall 2 rfl)
      refine af (v:=.pointer (some ⟨ga,1,none⟩)) rfl rfl (by kernel_rfl) ?_
      exact aL <| (⟨rfl,hW,ro f0,ro f1,ro f2,λ_=>rfl,ro f4,ro f5,ro f6,ro f7⟩)
     ·obtain rfl:=f3 (aj hall 3 rfl)
      refine af (v:=.slice (some ⟨gk,0,none⟩) m ck) rfl rfl (bO rfl rfl underlying121 ((hW.cell (p:=⟨_,_,none⟩) hk2).trans c1)) ?_
      exact aL <| (⟨rfl,hW,ro f0,ro f1,ro f2,ro f3,λ_=>rfl,ro f5,ro f6,ro f7⟩)
     ·obtain rfl:=f4 (aj hall 4 rfl)
      refine af (v:=.pointer (some ⟨gk,0+0*16,none⟩)) rfl rfl (jU rfl rfl rfl (by omega) underlying121 aD.2) ?_
      exact aL <| (⟨rfl,hW,ro f0,ro f1,ro f2,ro f3,ro f4,λ_=>rfl,ro f6,ro f7⟩)
     ·obtain rfl:=f5 (aj hall 5 rfl)
      refine af (v:=.agg (ints .u8 k0)) rfl rfl (bq rfl rfl (S0r.below hW) aD WN k0n) ?_
      exact aL <| (⟨rfl,hW,ro f0,ro f1,ro f2,ro f3,ro f4,ro f5,λ_=>rfl,ro f7⟩)
     ·obtain rfl:=f0 (aj hall 0 rfl)
      obtain rfl:=f6 (aj hall 6 rfl)
      refine aV 51 rfl rfl rfl func51 (by kernel_rfl) (by kernel_rfl) (DX W) ?_
      intro W' hW'
      exact aL <| (⟨rfl,bC hW hW',ro f0,ro f1,ro f2,ro f3,ro f4,ro f5,ro f6,λ_=>rfl⟩)
     ·exfalso;omega
    ·rintro D bP W ⟨u45,u46,u47,u48,u49,u50,u51,u52,rfl,hW,f0,f1,f2,f3,f4,f5,f6,f7⟩ hall
     obtain rfl:=f0 (hall 0 (by decide))
     obtain rfl:=f1 (hall 1 (by decide))
     obtain rfl:=f2 (hall 2 (by decide))
     obtain rfl:=f3 (hall 3 (by decide))
     obtain rfl:=f4 (hall 4 (by decide))
     obtain rfl:=f5 (hall 5 (by decide))
     obtain rfl:=f6 (hall 6 (by decide))
     obtain rfl:=f7 (hall 7 (by decide))
     clear f0 f1 f2 f3 f4 f5 f6 f7 hall
     simp only[List.drop_succ_cons,List.drop_zero]
     have Ie:=A4.below' hW
     have aG:=bC hbel hW
     clear A3 A4 hbel hW c1 DX OQ S0r hk2
     go_wp2_with (refine aa rfl 96 _ _ rfl _ rfl rfl Ie (ah _ _) aD hyl ?_;(try simp only[nn,Nat.reduceAdd]))
     refine aO rfl rfl (Ie.row _) aD hyl ⟨rfl,?_⟩
     exact az aG (by omega) _
end
end Go.Proofs.YtaiffkajkbiidaaGreatDoor
