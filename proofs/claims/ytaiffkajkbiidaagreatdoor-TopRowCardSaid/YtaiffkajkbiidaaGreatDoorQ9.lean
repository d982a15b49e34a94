/- What this claim leans on, part 9: laws of the model, and what functions of the program compute. No condition but what each law states. -/
import Derived.Test.YtaiffkajkbiidaaGreatDoorQ8
namespace Go.Proofs.YtaiffkajkbiidaaGreatDoor
set_option linter.unusedSimpArgs false
set_option linter.unusedVariables false
set_option linter.unusedSectionVars false
set_option maxRecDepth 100000
set_option maxHeartbeats 40000000
open Go.Proofs.Tryz
open Tryz
section
open Go.RowKit
def gW:List Nat:=[7640891576956012808,13503953896175478587,4354685564936845355,11912009170470909681,5840696475078001361,11170449401992604703,2270897969802886507,6620516959819538809]
def Li:List Nat:=[0,1,2,3,4,5,6,7,8,9,10,11,12,13,14,15,
 14,10,4,8,9,15,13,6,1,12,0,2,11,7,5,3,
 11,8,12,0,5,2,15,13,10,14,3,6,7,1,9,4,
 7,9,3,1,13,12,11,14,2,6,5,10,4,0,15,8,
 9,0,5,7,2,4,10,15,14,1,11,12,6,8,3,13,
 2,12,6,10,0,11,8,3,4,13,7,5,15,14,1,9,
 12,5,1,15,14,13,4,10,0,7,6,3,9,2,8,11,
 13,11,7,14,12,1,3,9,5,0,15,4,8,6,2,10,
 6,15,14,9,11,3,0,8,12,2,13,7,1,4,10,5,
 10,2,8,4,7,6,1,5,15,11,9,14,3,12,13,0]
def Ct (r:Nat):List Nat:=(Li.drop (16*r)).take 16
theorem ER:∀r,r<10->(Ct r).length=16:=by decide
theorem VW:∀r,r<10->∀x∈Ct r,x<16:=by decide
theorem Bn:∀x∈gW,x<18446744073709551616:=by decide
def uL (w:World):Prop:=Sl w (some ⟨2,0,none⟩) .u64 gW/\Sl w (some ⟨3,0,none⟩) .u8 Li
theorem uL.below {w w':World}(h:uL w)(hb:Below w.heap.size w w'):uL w':=⟨h.1.below hb,h.2.below hb⟩
theorem uL.row {w:World}(h:uL w)(r:Nat):Sl w (some ⟨3,r*16,none⟩) .u8 (Ct r):=by
 have h1:=(h.2.drop (16*r)).take 16
 rw[Nat.zero_add] at h1
 rw[Nat.mul_comm r 16]
 exact h1
theorem uL.first {w:World}(h:uL w){k:Nat}(hk:k<8):w.cell? ⟨2,k,none⟩=some (.int .u64 ((gW.getD k 0:Nat):Int)):=by
 have h1:=h.1.eq (i:=k) (by exact hk)
 rw[Nat.zero_add] at h1
 exact h1
theorem Tryz.sG:dG prog 147 8:=jH underlying147 (by kernel_rfl)
theorem Tryz.ade:IsZero prog 147 8 .u64:=isZero (by kernel_rfl)
theorem Tryz.ada:IsZero prog 163 16 .u64:=isZero (by kernel_rfl)
def mL (b:List Nat):List Nat:=(List.range 16).map λi=>aT b (8*i) 8
theorem CS (b:List Nat):(mL b).length=16:=by simp[mL]
theorem adF {b:List Nat}(hb:∀x∈b,x<256):∀x∈mL b,x<18446744073709551616:=λx hx=>by
 obtain⟨i,-,rfl⟩:=List.mem_map.1 hx
 exact eG hb (8*i) 8
theorem WC (b:List Nat){i:Nat}(hi:i<16):(mL b).getD i 0=aT b (8*i) 8:=by
 unfold mL
 rw[List.getD_eq_getElem?_getD,List.getElem?_map,List.getElem?_range hi];rfl
def vK (h:List Nat):Nat->List Nat
 | 0=>zeros 16
 | k+1=>((vK h k).set k (h.getD k 0)).set (k+8) (gW.getD k 0)
theorem ZJ (h:List Nat):∀k,(vK h k).length=16
 | 0=>aH _
 | k+1=>by unfold vK;rw[List.length_set,List.length_set,ZJ h k]
theorem Qw {h:List Nat}(hh:∀x∈h,x<18446744073709551616):∀k,∀x∈vK h k,x<18446744073709551616
 | 0=>dh 16 (by decide)
 | k+1=>by unfold vK;exact jl (jl (Qw hh k) (eF hh k)) (eF Bn k)
def vT (v:List Nat)(c0 c1:Nat):List Nat:=((v.set 12 (v.getD 12 0^^^c0)).set 13 (v.getD 13 0^^^c1)).set 14 (18446744073709551615^^^v.getD 14 0)
def YH (m v row:List Nat):Nat->List Nat
 | 0=>v
 | i+1=>VL (YH m v row i) (i%4) (i/4) (m.getD (row.getD (2*i) 0) 0) (m.getD (row.getD (2*i+1) 0) 0)
def Vd (m v:List Nat):Nat->List Nat
 | 0=>v
 | r+1=>YH m (Vd m v r) (Ct (r%10)) 8
def Gq (h v:List Nat):Nat->List Nat
 | 0=>h
 | k+1=>(Gq h v k).set k ((Gq h v k).getD k 0^^^(v.getD k 0^^^v.getD (k+8) 0))
theorem wW (h v:List Nat):∀k,(Gq h v k).length=h.length
 | 0=>rfl
 | k+1=>by unfold Gq;rw[List.length_set,wW h v k]
theorem Dl {h v:List Nat}(hh:∀x∈h,x<18446744073709551616)(hv:∀x∈v,x<18446744073709551616):∀k,∀x∈Gq h v k,x<18446744073709551616
 | 0=>hh
 | k+1=>by
  unfold Gq
  exact jl (Dl hh hv k) (Nat.xor_lt_two_pow (n:=64) (eF (Dl hh hv k) k) (Nat.xor_lt_two_pow (n:=64) (eF hv k) (eF hv (k+8))))
def uE (h b:List Nat)(c0 c1:Nat):List Nat:=Gq h (Vd (mL b) (vT (vK h 8) c0 c1) 12) 8
theorem BA (h b:List Nat)(c0 c1:Nat):(uE h b c0 c1).length=h.length:=wW _ _ _
structure CB (w w':World)(H b:List Nat)(c0 c1:Nat)(M V:List Nat):Prop where
 h:aA w' w.heap.size 147 (ints .u64 H)
 b:aA w' (w.heap.size+1) 155 (ints .u8 b)
 c:aA w' (w.heap.size+2) 149 (ints .u64 [c0,c1])
 z:aA w' (w.heap.size+3) 147 (ints .u64 (zeros 8))
 m:aA w' (w.heap.size+4) 163 (ints .u64 M)
 v:xe w' (w.heap.size+5) V
 je:Below w.heap.size w w'
theorem CB.below {w w' w'':World}{H b:List Nat}{c0 c1:Nat}{M V:List Nat}(h:CB w w' H b c0 c1 M V)(hb:Below w'.heap.size w' w''):CB w w'' H b c0 c1 M V :=
 ⟨h.h.below' hb,h.b.below' hb,h.c.below' hb,h.z.below' hb,h.m.below' hb,h.v.below hb,dx h.je hb h.je.size⟩
theorem CB.drew {w w':World}{H b:List Nat}{c0 c1:Nat}{M V:List Nat}(h:CB w w' H b c0 c1 M V):CB w w'.drew H b c0 c1 M V :=
 ⟨h.h.drew,h.b.drew,h.c.drew,h.z.drew,h.m.drew,h.v.drew,h.je.drew⟩
theorem CB.setM {w w':World}{H b:List Nat}{c0 c1:Nat}{M V:List Nat}(h:CB w w' H b c0 c1 M V)(i n:Nat):CB w (w'.setCell ⟨w.heap.size+4,i,none⟩ (.int .u64 (n:Int))) H b c0 c1 (M.set i n) V :=
 ⟨h.h.far (show w.heap.size≠w.heap.size+4 by omega) _,h.b.far (show w.heap.size+1≠w.heap.size+4 by omega) _,h.c.far (show w.heap.size+2≠w.heap.size+4 by omega) _,h.z.far (show w.heap.size+3≠w.heap.size+4 by omega) _,h.m.dw i n,h.v.ch (Ch.bX (iG.set _ _ _ _)) (by omega),h.je.setCell (p:=⟨w.heap.size+4,i,none⟩) (by show w.heap.size<=w.heap.size+4;omega) _⟩
theorem CB.wE {w w':World}{H b:List Nat}{c0 c1:Nat}{M V:List Nat}(h:CB w w' H b c0 c1 M V)(i:Nat){n:Nat}(hn:n<18446744073709551616):CB w (w'.setCell ⟨w.heap.size+5,i,none⟩ (.int .u64 (n:Int))) H b c0 c1 M (V.set i n) :=
 ⟨h.h.far (show w.heap.size≠w.heap.size+5 by omega) _,h.b.far (show w.heap.size+1≠w.heap.size+5 by omega) _,h.c.far (show w.heap.size+2≠w.heap.size+5 by omega) _,h.z.far (show w.heap.size+3≠w.heap.size+5 by omega) _,h.m.far (show w.heap.size+4≠w.heap.size+5 by omega) _,h.v.set i hn,h.je.setCell (p:=⟨w.heap.size+5,i,none⟩) (by show w.heap.size<=w.heap.size+5;omega) _⟩
theorem CB.setH {w w':World}{H b:List Nat}{c0 c1:Nat}{M V:List Nat}(h:CB w w' H b c0 c1 M V)(i n:Nat):CB w (w'.setCell ⟨w.heap.size,i,none⟩ (.int .u64 (n:Int))) (H.set i n) b c0 c1 M V :=
 ⟨h.h.dw i n,h.b.far (show w.heap.size+1≠w.heap.size by omega) _,h.c.far (show w.heap.size+2≠w.heap.size by omega) _,h.z.far (show w.heap.size+3≠w.heap.size by omega) _,h.m.far (show w.heap.size+4≠w.heap.size by omega) _,h.v.ch (Ch.bX (iG.set _ _ _ _)) (by omega),h.je.setCell (p:=⟨w.heap.size,i,none⟩) dM _⟩
theorem CB.ch {w w' w'':World}{H b:List Nat}{c0 c1:Nat}{M V V':List Nat}(h:CB w w' H b c0 c1 M V)(hc:Ch (w.heap.size+5) w' w'')(hv:xe w'' (w.heap.size+5) V'):CB w w'' H b c0 c1 M V' :=
 ⟨hc.blk h.h (by omega),hc.blk h.b (by omega),hc.blk h.c (by omega),hc.blk h.z (by omega),hc.blk h.m (by omega),hv,hc.below h.je (by omega) h.je.size⟩
theorem agc (w:World)(hs b:List Nat)(c0 c1:Nat)(hb:∀x∈b,x<256)(hs8:hs.length=8):CB w ((((((w.alloc (.cells (ints .u64 hs) 147)).alloc (.cells (ints .u8 b) 155)).alloc (.cells (ints .u64 [c0,c1]) 149)).alloc (.cells (ints .u64 (zeros 8)) 147)).alloc (.cells (ints .u64 (zeros 16)) 163)).alloc (.cells (ints .u64 (zeros 16)) 163)) hs b c0 c1 (zeros 16) (zeros 16):=by
 refine⟨?_,?_,?_,?_,?_,⟨aH _,dh 16 (by decide),?_⟩,?_⟩
 ·exact(((((aA.new _ _ _).alloc _).alloc _).alloc _).alloc _).alloc _
 ·exact((((aA.new' (by simp)).alloc _).alloc _).alloc _).alloc _
 ·exact(((aA.new' (by simp)).alloc _).alloc _).alloc _
 ·exact((aA.new' (by simp)).alloc _).alloc _
 ·exact(aA.new' (by simp)).alloc _
 ·exact aA.new' (by simp)
 ·exact((((((bN _ _).alloc (by simp) _).alloc (by simp;omega) _).alloc (by simp;omega) _).alloc (by simp;omega) _).alloc (by simp;omega) _)
theorem Ku (hs b:List Nat)(c0 c1:Nat)(hl:hs.length=8)(hh:∀x∈hs,x<18446744073709551616)(hb:b.length=128)(hbb:∀x∈b,x<256)(h0:c0<18446744073709551616)(h1:c1<18446744073709551616)(w:World)(hG:uL w) :
  Calls prog 71 #[.agg (ints .u64 hs),.agg (ints .u8 b),.agg (ints .u64 [c0,c1]),.bool true] w λe w'=>e=.returned (.agg (ints .u64 (uE hs b c0 c1)))/\Below w.heap.size w w':=by
 have C0:=agc w hs b c0 c1 hbb hl
 have HW:Hid (∀W,Below w.heap.size w W->uL W):=aR λW h=>hG.below h
 obtain⟨Z,HZ⟩:=bD (uE hs b c0 c1)
 rw[HZ.out]
 go_enter func71,ntmps71
 go_wp2_with ((first|(refine ae rfl 147 rfl ade ?_)|(refine ae rfl 163 rfl ada ?_));(try simp only[nn,Nat.reduceAdd]))
 generalize ((((((w.alloc (.cells (ints .u64 hs) 147)).alloc (.cells (ints .u8 b) 155)).alloc (.cells (ints .u64 [c0,c1]) 149)).alloc (.cells (ints .u64 (zeros 8)) 147)).alloc (.cells (ints .u64 (zeros 16)) 163)).alloc (.cells (ints .u64 (zeros 16)) 163))=w0 at *
 go_loopw [17] (λt wr=>∃i:Nat,i<=16/\t=.int .i64 (i:Int)/\CB w wr hs b c0 c1 ((mL b).take i++zeros (16-i)) (zeros 16)) (λt wr=>16-(intOf t).toNat)
 case atStart=>exact⟨0,by omega,rfl,C0⟩
 case round =>
  clear C0
  obtain⟨i,hi,rfl,C⟩:=hrel
  by_cases hlt:i<16
  ·have hd:decide ((i:Int)<16)=true:=by simp;omega
   have hii:(i:Int)<16:=by omega
   obtain⟨p,Hp⟩:=bD (8*i)
   have hp:8*(i:Int)=(p:Int):=by rw[←Hp.out];omega
   have SH:(p:Int)<128:=by rw[←Hp.out];omega
   have acB:=JF (some ⟨w.heap.size+1,0,none⟩) 128 b hbb (by rw[hb];decide) p (by omega) wr (Sl.blk C.b)
   rw[hb] at acB
   have hv:=WC b hlt
   rw[Hp.out] at hv
   have HM:=aR (take_set (n:=16) (CS b) hlt hv)
   have hle:((mL b).take i++zeros (16-i)).length=16:=by rw[List.length_append,List.length_take,CS,aH];omega
   generalize (mL b).take i++zeros (16-i)=M at *
   clear hv
   generalize aT b p 8=n at *
   go_wp2_with fail
   refine acB.mono ?_
   clear acB
   rintro e w1 ⟨rfl,hb1⟩
   have D:=C.below hb1
   clear C hb1
   have c1:=D.m.int (i:=i) (by omega)
   have z1:=D.m.frozen i
   have E:=D.setM i n
   rw[HM.out] at E
   clear HM D hle
   generalize M.getD i 0=mv at *
   go_wp2_with fail
   exact⟨⟨i+1,by omega,by go_num,E⟩,by simp[intOf]<;>omega⟩
  ·have e16:i=16:=by omega
   have hd:decide ((i:Int)<16)=false:=by simp;omega
   have hz:(mL b).take i++zeros (16-i)=mL b:=by rw[List.take_of_length_le (by rw[CS];omega),e16];simp[zeros]
   rw[hz] at C
   clear hz e16
   have gq:=adF hbb
   have JR:=CS b
   obtain⟨M,HM⟩:=bD (mL b)
   rw[HM.out] at C gq JR
   go_wp2_with fail
   go_loopw [27] (λt wr=>∃k:Nat,k<=8/\t=.int .i64 (k:Int)/\CB w wr hs b c0 c1 M (vK hs k)) (λt wr=>8-(intOf t).toNat)
   case atStart=>exact⟨0,by omega,rfl,C⟩
   case round =>
    clear C
    obtain⟨k,hk,rfl,C⟩:=hrel
    by_cases hlk:k<8
    ·have hd2:decide ((k:Int)<8)=true:=by simp;omega
     have hki:(k:Int)<8:=by omega
     have d0:=C.h.int (i:=k) (by omega)
     have d1:=(HW.out _ C.je).first hlk
     have D:=C.drew
     have HE:Hid (((vK hs k).set k (hs.getD k 0)).set (k+8) (gW.getD k 0)=vK hs (k+1)):=aR rfl
     have hx0:=eF hh k
     have hx1:=eF Bn k
     generalize hs.getD k 0=x0 at *
     generalize gW.getD k 0=x1 at *
     generalize vK hs k=V at *
     obtain⟨-,k0⟩:=C.v.at_ (i:=k) (by omega)
     obtain⟨-,k1⟩:=C.v.at_ (i:=k+8) (by omega)
     have z0:=C.v.frozen k
     have z1:=C.v.frozen (k+8)
     have hne:(⟨w.heap.size+5,k,none⟩:Addr)≠⟨w.heap.size+5,k+8,none⟩:=by simp
     have E:=(D.wE k hx0).wE (k+8) hx1
     rw[HE.out] at E
     generalize V.getD k 0=y0 at *
     generalize V.getD (k+8) 0=y1 at *
     clear D HE
     go_wp2_with fail
     go_region
     go_wp2_with fail
     exact⟨⟨k+1,by omega,by go_num,E⟩,by simp[intOf]<;>omega⟩
    ·have e8:k=8:=by omega
     have hd2:decide ((k:Int)<8)=false:=by simp;omega
     rw[e8] at C
     clear e8
     have hvl:=Qw hh 8
     have HZ2:Hid (Gq hs (Vd M (vT (vK hs 8) c0 c1) 12) 8=Z):=aR (by rw[←HM.out,←HZ.out];rfl)
     clear HM HZ
     generalize vK hs 8=v0 at *
     have HV:Hid (((v0.set 12 (v0.getD 12 0^^^c0)).set 13 (v0.getD 13 0^^^c1)).set 14 (18446744073709551615^^^v0.getD 14 0)=vT v0 c0 c1):=aR rfl
     obtain⟨hx,k0⟩:=C.v.at_ (i:=12) (by omega)
     obtain⟨hy,k1⟩:=C.v.at_ (i:=13) (by omega)
     obtain⟨hz,k2⟩:=C.v.at_ (i:=14) (by omega)
     have z0:=C.v.frozen 12
     have z1:=C.v.frozen 13
     have z2:=C.v.frozen 14
     have kc:=C.c.int (i:=0) (Nat.zero_lt_succ _)
     have kd:=C.c.int (i:=1) (Nat.lt_succ_self _)
     simp only[List.getD_cons_zero,List.getD_cons_succ] at kc kd
     have hxo:=u64_xor_nat (v0.getD 12 0) c0 hx h0
     have hyo:=u64_xor_nat (v0.getD 13 0) c1 hy h1
     have hzo:bits BinOp.xor IntKind.u64 IntKind.u64.max ((v0.getD 14 0:Nat):Int)=((18446744073709551615^^^v0.getD 14 0:Nat):Int):=u64_xor_nat 18446744073709551615 (v0.getD 14 0) (by decide) hz
     have D:=((C.wE 12 (Nat.xor_lt_two_pow (n:=64) hx h0:v0.getD 12 0^^^c0<18446744073709551616)).wE 13 (Nat.xor_lt_two_pow (n:=64) hy h1:v0.getD 13 0^^^c1<18446744073709551616)).wE 14 (Nat.xor_lt_two_pow (n:=64) (by decide) hz:18446744073709551615^^^v0.getD 14 0<18446744073709551616)
     rw[HV.out] at D
     clear HV
     generalize v0.getD 12 0^^^c0=x at *
     generalize v0.getD 12 0=xx at *
     generalize v0.getD 13 0^^^c1=y at *
     generalize v0.getD 13 0=yy at *
     generalize 18446744073709551615^^^v0.getD 14 0=z at *
     generalize v0.getD 14 0=zz at *
     go_wp2_with fail
     clear k0 k1 k2 z0 z1 z2 hxo hyo hzo kc kd hx hy hz C
     generalize (((wr.setCell ⟨w.heap.size+5,12,none⟩ (.int .u64 (x:Int))).setCell ⟨w.heap.size+5,13,none⟩ (.int .u64 (y:Int))).setCell ⟨w.heap.size+5,14,none⟩ (.int .u64 (z:Int)))=w1 at *
     generalize vT v0 c0 c1=vs at *
     clear hvl
     go_loopw [59] (λt wr=>∃r:Nat,r<=12/\t=.int .i64 (r:Int)/\CB w wr hs b c0 c1 M (Vd M vs r)) (λt wr=>12-(intOf t).toNat)
     case atStart=>exact⟨0,by omega,rfl,D⟩
     case round =>
      clear D
      obtain⟨r,hr,rfl,C⟩:=hrel
      by_cases hlr:r<12
      ·have hd3:decide ((r:Int)<12)=true:=by simp;omega
       obtain⟨q,Hq⟩:=bD (r%10)
       have hq:q<10:=by rw[←Hq.out];omega
       have hqi:(q:Int)<10:=by omega
       have hrm:(r:Int).tmod 10=(q:Int):=by rw[Int.tmod_eq_emod_of_nonneg (by omega),←Hq.out];omega
       have HR:Hid (YH M (Vd M vs r) (Ct q) 8=Vd M vs (r+1)):=aR (by rw[←Hq.out];rfl)
       have hS:=(HW.out _ C.je).row q
       have hrl:=ER q hq
       have hrb:=VW q hq
       clear Hq
       generalize Vd M vs r=V at *
       generalize Ct q=row at *
       have hrne:row≠[]:=λe=>by rw[e] at hrl;simp at hrl
       have D:=C.below (az (bN wr (.cells (ints .u8 (zeros 16)) 96)) dM (ints .u8 row))
       have X0:=aA.new wr 96 (ints .u8 (zeros 16))
       have X1:=X0.row (ints .u8 row)
       have hgl:=C.v.lt
       clear C
       go_wp2_with ((first
        | (refine aZ rfl (bq rfl rfl hS aD hrl hrne) ?_)
        | (refine ae rfl 96 rfl fw ?_)
        | (refine aa rfl 96 _ _ rfl wr.heap.size rfl rfl X0 (ah _ _) aD hrl ?_));(try simp only[nn,Nat.reduceAdd]))
       clear X0 hS
       generalize ((wr.alloc (.cells (ints .u8 (zeros 16)) 96)).setRow wr.heap.size (ints .u8 row))=w2 at *
       generalize wr.heap.size=nb at *
       go_loopw [66] (λt wr=>∃i:Nat,i<=8/\t=.int .i64 (i:Int)/\CB w wr hs b c0 c1 M (YH M V row i)/\aA wr nb 96 (ints .u8 row)) (λt wr=>8-(intOf t).toNat)
       case atStart=>exact⟨0,by omega,rfl,D,X1⟩
       case round =>
        clear D X1
        obtain⟨j,hj,rfl,C,X⟩:=hrel
        by_cases hlj:j<8
        ·have hd4:decide ((j:Int)<8)=true:=by simp;omega
         obtain⟨p,Hp⟩:=bD (j%4)
         obtain⟨o,Ho⟩:=bD (j/4)
         obtain⟨u,Hu⟩:=bD (2*j)
         have hp:p<4:=by rw[←Hp.out];omega
         have ho:o<2:=by rw[←Ho.out];omega
         have hu:u+1<16:=by rw[←Hu.out];omega
         have hjm:(j:Int).tmod 4=(p:Int):=by rw[Int.tmod_eq_emod_of_nonneg (by omega),←Hp.out];omega
         have hjd:(j:Int).tdiv 4=(o:Int):=by rw[Int.tdiv_eq_ediv_of_nonneg (by omega),←Ho.out];omega
         have hju:2*(j:Int)=(u:Int):=by rw[←Hu.out];omega
         have HS:Hid (YH M V row (j+1)=VL (YH M V row j) p o (M.getD (row.getD u 0) 0) (M.getD (row.getD (u+1) 0) 0)):=aR (by rw[←Hp.out,←Ho.out,←Hu.out];rfl)
         have r0:=X.int (i:=u) (by omega)
         have r1:=X.int (i:=u+1) (by omega)
         have b0:=aC hrb (by decide) u
         have b1:=aC hrb (by decide) (u+1)
         generalize row.getD u 0=xa at *
         generalize row.getD (u+1) 0=xb at *
         have m0:=C.m.int (i:=xa) (by omega)
         have m1:=C.m.int (i:=xb) (by omega)
         have l0:=eF gq xa
         have l1:=eF gq xb
         generalize M.getD xa 0=ya at *
         generalize M.getD xb 0=yb at *
         have f1:=ZV (w.heap.size+5) p o hp ho ya yb l0 l1 wr.drew _ C.v.drew
         rw[←HS.out] at f1
         have hxa:(xa:Int)<16:=by omega
         have hxb:(xb:Int)<16:=by omega
         have hui:(u:Int)<16:=by omega
         have hwo:IntKind.i64.wrap (o:Int)=(o:Int):=IntWalk.i64_in _ (by omega)
         have hwu:IntKind.i64.wrap (u:Int)=(u:Int):=IntWalk.i64_in _ (by omega)
         have hwv:IntKind.i64.wrap ((u:Int)+1)=((u+1:Nat):Int):=(IntWalk.i64_in _ (by omega)).trans (by omega)
         have huj:((u+1:Nat):Int)<16:=by omega
         clear HS Hp Ho Hu
         generalize u+1=u1 at *
         go_wp2_with fail
         go_still_tail 17,(by kernel_rfl)
         change wpList _ _ _ _ _ wr.drew
         go_wp2_with fail
         refine f1.mono ?_
         clear f1 r0 r1 m0 m1
         rintro e w3 ⟨rfl,hV,hc⟩
         have D:=C.drew.ch hc hV
         have X2:=hc.blk X.drew (show nb≠w.heap.size+5 by omega)
         go_wp2_with fail
         exact⟨⟨j+1,by omega,by go_num,D,X2⟩,by simp[intOf]<;>omega⟩
        ·have ej:j=8:=by omega
         have hd4:decide ((j:Int)<8)=false:=by simp;omega
         rw[ej,HR.out] at C
         clear ej
         go_wp2_with fail
         exact⟨⟨r+1,by omega,by go_num,C⟩,by simp[intOf]<;>omega⟩
      ·have er:r=12:=by omega
       have hd3:decide ((r:Int)<12)=false:=by simp;omega
       rw[er] at C
       clear er
       generalize Vd M vs 12=V at *
       go_wp2_with fail
       go_loopw [89] (λt wr=>∃j:Nat,j<=8/\t=.int .i64 (j:Int)/\CB w wr (Gq hs V j) b c0 c1 M V) (λt wr=>8-(intOf t).toNat)
       case atStart=>exact⟨0,by omega,rfl,C⟩
       case round =>
        have hvl:=C.v.Ou
        clear C
        obtain⟨j,hj,rfl,C⟩:=hrel
        by_cases hlj:j<8
        ·have hd4:decide ((j:Int)<8)=true:=by simp;omega
         have hji:(j:Int)<8:=by omega
         have hjk:(j:Int)<16:=by omega
         have hfl:=wW hs V j
         rw[hl] at hfl
         have d0:=C.h.int (i:=j) (by omega)
         have bh:=eF (Dl hh hvl j) j
         obtain⟨bv,k0⟩:=C.v.at_ (i:=j) (by omega)
         obtain⟨bw,k1⟩:=C.v.at_ (i:=j+8) (by omega)
         have HS:Hid ((Gq hs V j).set j ((Gq hs V j).getD j 0^^^(V.getD j 0^^^V.getD (j+8) 0))=Gq hs V (j+1)):=aR rfl
         have x1:=u64_xor_nat (V.getD j 0) (V.getD (j+8) 0) bv bw
         have x2:=u64_xor_nat ((Gq hs V j).getD j 0) (V.getD j 0^^^V.getD (j+8) 0) bh (Nat.xor_lt_two_pow (n:=64) bv bw)
         have D:=C.drew
         generalize (Gq hs V j).getD j 0^^^(V.getD j 0^^^V.getD (j+8) 0)=n at *
         generalize V.getD j 0^^^V.getD (j+8) 0=n2 at *
         generalize V.getD j 0=n3 at *
         generalize V.getD (j+8) 0=n4 at *
         have HD:Hid (∃n5,n5=(Gq hs V j).getD j 0):=aR ⟨_,rfl⟩
         generalize (Gq hs V j).getD j 0=n6 at *
         generalize Gq hs V j=F at *
         clear HD
         have hjw:IntKind.i64.wrap ((j:Int)+8)=((j+8:Nat):Int):=(IntWalk.i64_in _ (by omega)).trans (by omega)
         have hjl:((j+8:Nat):Int)<16:=by omega
         generalize j+8=j8 at *
         go_wp2_with fail
         go_still_tail 12,(by kernel_rfl)
         change wpList _ _ _ _ _ wr.drew
         clear d0 k0 k1 C x1 x2
         generalize wr.drew=w2 at *
         have d0:=D.h.int (i:=j) (by omega)
         have z0:=D.h.frozen j
         have E:=D.setH j n
         rw[HS.out] at E
         generalize F.getD j 0=n7 at *
         clear D HS
         go_wp2_with fail
         exact⟨⟨j+1,by omega,by go_num,E⟩,by simp[intOf]<;>omega⟩
        ·have ej:j=8:=by omega
         have hd4:decide ((j:Int)<8)=false:=by simp;omega
         rw[ej,HZ2.out] at C
         have Gc:Z.length=8:=by rw[←HZ2.out,wW,hl]
         clear ej HZ2
         go_wp2_with ((first|(refine ag rfl 147 _ rfl _ rfl C.h sG Gc ?_)|(refine aa rfl 147 _ _ rfl _ rfl rfl C.z (ah _ _) sG Gc ?_));(try simp only[nn,Nat.reduceAdd]))
         refine aO rfl rfl (C.z.row _) sG Gc ⟨rfl,?_⟩
         exact az C.je (by omega) _
end
section
open Go.RowKit
structure HB (w:World)(g:Nat)(hs:List Nat)(c0 c1:Nat)(v:Value)(n:Nat):Prop where
 blk:aA w g 151 (vals .u64 hs++vals .u64 [c0,c1]++[v,.int .i64 (n:Int)]).toArray
 len:hs.length=8
theorem HB.lt {w:World}{g:Nat}{hs:List Nat}{c0 c1:Nat}{v:Value}{n:Nat}(h:HB w g hs c0 c1 v n):g<w.heap.size:=h.blk.lt
theorem HB.below {w w':World}{g:Nat}{hs:List Nat}{c0 c1:Nat}{v:Value}{n:Nat}(h:HB w g hs c0 c1 v n)(hb:Below w.heap.size w w'):HB w' g hs c0 c1 v n:=⟨h.blk.below' hb,h.len⟩
theorem HB.drew {w:World}{g:Nat}{hs:List Nat}{c0 c1:Nat}{v:Value}{n:Nat}(h:HB w g hs c0 c1 v n):HB w.drew g hs c0 c1 v n:=⟨h.blk.drew,h.len⟩
theorem HB.only {w w':World}{g g':Nat}{hs:List Nat}{c0 c1:Nat}{v:Value}{n:Nat}(h:HB w g hs c0 c1 v n)(ho:Only w w' g')(hne:g≠g'):HB w' g hs c0 c1 v n:=⟨h.blk.only ho hne,h.len⟩
theorem HB.BR {w:World}{g:Nat}{hs:List Nat}{c0 c1:Nat}{v:Value}{n:Nat}(h:HB w g hs c0 c1 v n):(vals .u64 hs).length=8:=by rw[bg,h.len]
theorem HB.asH {w:World}{g:Nat}{hs:List Nat}{c0 c1:Nat}{v:Value}{n:Nat}(h:HB w g hs c0 c1 v n):aA w g 151 ([]++vals .u64 hs++(vals .u64 [c0,c1]++[v,.int .i64 (n:Int)])).toArray:=by
 have h1:=h.blk
 rw[List.append_assoc] at h1
 exact h1
theorem HB.rH {w:World}{g:Nat}{hs:List Nat}{c0 c1:Nat}{v:Value}{n:Nat}(h:HB w g hs c0 c1 v n):w.rangeAt g 0 (vals .u64 hs):=h.asH.part rfl
theorem HB.rC {w:World}{g:Nat}{hs:List Nat}{c0 c1:Nat}{v:Value}{n:Nat}(h:HB w g hs c0 c1 v n):w.rangeAt g 8 (vals .u64 [c0,c1]):=h.blk.part h.BR.symm
theorem HB.cV {w:World}{g:Nat}{hs:List Nat}{c0 c1:Nat}{v:Value}{n:Nat}(h:HB w g hs c0 c1 v n):w.cell? ⟨g,10,none⟩=some v:=by
 rw[h.blk.cell,List.getElem?_toArray,List.getElem?_append_right (by rw[List.length_append,h.BR,bg];simp),List.length_append,h.BR,bg];rfl
theorem HB.cN {w:World}{g:Nat}{hs:List Nat}{c0 c1:Nat}{v:Value}{n:Nat}(h:HB w g hs c0 c1 v n):w.cell? ⟨g,11,none⟩=some (.int .i64 (n:Int)):=by
 rw[h.blk.cell,List.getElem?_toArray,List.getElem?_append_right (by rw[List.length_append,h.BR,bg];simp),List.length_append,h.BR,bg];rfl
theorem Tryz.abN:dG prog 155 128:=jH underlying155 (by kernel_rfl)
theorem Tryz.adb:IsZero prog 155 128 .u8:=isZero (by kernel_rfl)
theorem bldW (n:Nat)(W:World):(Instr.build 149 #[(0,.int .u64 (n:Int))]).run prog W=.ok (.agg (ints .u64 [n,0])) W:=by kernel_rfl
theorem Rb {o:Oper}{a:Act}{x:Operand}{n:Nat}{w:World}(ho:o.op=.build 149 #[(0,x)])(hx:a.eval x=.int .u64 (n:Int)):(execOp a.eval o).run prog w=.ok (.value (.agg (ints .u64 [n,0]))) w:=by
 unfold execOp
 simp only[ho,List.map_toArray,List.map_cons,List.map_nil,hx]
 simp only[Sem.run_bind,bldW,Result.andThen_ok]
 rfl
theorem uL.ch {w w':World}{g:Nat}(h:uL w)(hc:Ch g w w')(h2:2≠g)(h3:3≠g):uL w' :=
 ⟨hc.sl h.1 λb off e=>by cases e;exact h2,hc.sl h.2 λb off e=>by cases e;exact h3⟩
theorem uL.lt {w:World}(h:uL w):2<w.heap.size/\3<w.heap.size:=by
 obtain⟨g,o,e,h1,-⟩:=h.1 (by decide)
 obtain⟨g',o',e',h2,-⟩:=h.2 (by decide)
 cases e
 cases e'
 exact⟨h1,h2⟩
theorem IZ (b:List Nat)(h:b.length<=128):splice (zeros 128) 0 b=b++zeros (128-b.length):=by
 have h1:=jM b (128-b.length)
 rwa [show b.length+(128-b.length)=128 by omega] at h1
theorem Vw (n:Nat)(h:n<2^31):IntKind.u64.wrap (n:Int)=(n:Int):=by rw[IntKind.wrap_u64];omega
theorem Tu (g:Nat)(hs b:List Nat)(v:Value)(sz:Nat)(a:Option Addr)(c:Nat)(hh:∀x∈hs,x<18446744073709551616)(hbl:b.length<=128)(hbb:∀x∈b,x<256)(hg2:2≠g)(hg3:3≠g)(w:World)(hG:uL w)(hB:HB w g hs 0 0 v sz)(hS:Sl w a .u8 b) :
  Calls prog 66 #[.pointer (some ⟨g,0,none⟩),.slice a b.length c,.int .i64 (b.length:Int),.bool true] w λe w'=>e=.returned (.tuple #[])/\HB w' g (uE hs (b++zeros (128-b.length)) b.length 0) b.length 0 v sz/\Ch g w w':=by
 obtain⟨n,Hn⟩:=bD (b.length)
 have hsp:=IZ b hbl
 have hn:n<=128:=by rw[←Hn.out];exact hbl
 have hfl:(b++zeros (128-n)).length=128:=by rw[List.length_append,aH,Hn.out];omega
 have aeU:∀x∈b++zeros (128-n),x<256:=λx hx=>(List.mem_append.1 hx).elim (hbb x) (dh _ (by decide) x)
 rw[Hn.out] at hsp ⊢
 obtain⟨Z,HZ⟩:=bD (uE hs (b++zeros (128-n)) n 0)
 rw[HZ.out]
 have hlh:=hB.len
 have hgl:=hB.lt
 have G1:=hG.below (bN w (.cells (ints .u8 (zeros 128)) 155))
 have B1:=hB.below (bN w (.cells (ints .u8 (zeros 128)) 155))
 have S1:=hS.below (bN w (.cells (ints .u8 (zeros 128)) 155))
 have X1:=aA.new w 155 (ints .u8 (zeros 128))
 have aK:=bN w (.cells (ints .u8 (zeros 128)) 155)
 have hpl:=λW=>Ei 0 0 n 0 (by decide) (by decide) (by omega) (by decide) W
 rw[show (0+n)%18446744073709551616=n by omega,show (0+0+(0+n)/18446744073709551616)%18446744073709551616=0 by omega] at hpl
 have hwr:=Vw n (by omega)
 have hgw:g≠w.heap.size:=by omega
 go_enter func66,ntmps66
 go_wp2_with ((first
  | (refine ae rfl 155 rfl adb ?_)
  | (refine bM (off:=0) (dLen:=128) (sLen:=n) rfl rfl underlying23 s15 rfl rfl X1 S1 (by rw[Hn.out];exact(Nat.min_eq_left hn).symm) (λ_=>rfl) (by rw[Hn.out,aH];omega) ?_;intro w2 X2 ho2;rw[hsp] at X2;have B2:=B1.only ho2 hgw;have aB:=ho2.below _ _ aK dM;have G2:=hG.below aB;clear B1 X1 S1 ho2 G1 aK)
  | (refine aZ rfl (dB rfl rfl B2.rC eH rfl) ?_)
  | (refine aZ rfl (Rb rfl rfl) ?_));(try simp only[nn,Nat.reduceAdd]))
 refine(hpl _).mono ?_
 clear hpl
 rintro e w3 ⟨rfl,hb3⟩
 have B3:=B2.below hb3
 have X3:=X2.below' hb3
 have aG:=bC aB hb3
 have HB3:=B3.blk
 have hvl:=B3.BR
 clear B2 X2 G2 aB hb3
 go_wp2_with (refine iO rfl 149 _ _ rfl 8 rfl (vs:=vals .u64 [n,0]) rfl HB3 hvl.symm eH rfl rfl (dX _ _) ?_;intro w4 hB4 hF4;(try simp only[nn,Nat.reduceAdd]))
 have B4:HB w4 g hs n 0 v sz:=⟨hB4,hlh⟩
 have X4:=hF4.blk X3 hgw.symm
 have hch:=(Ch.of_below (g:=g) aG).trans (Ch.bX hF4)
 have G4:=hG.ch hch hg2 hg3
 have r0:=B4.rH
 have r1:=B4.rC
 clear hB4 B3 X3 HB3 hvl aG hF4
 have hcmp:=λW (h:Below w4.heap.size w4 W)=>Ku hs (b++zeros (128-n)) n 0 hlh hh hfl aeU (by omega) (by decide) W (G4.below h)
 have hcl:=BA hs (b++zeros (128-n)) n 0
 rw[hlh] at hcl
 rw[HZ.out] at hcl
 rw[HZ.out] at hcmp
 clear HZ
 generalize b++zeros (128-n)=bb at *
 have hg4:=B4.lt
 refine bR 12 (by kernel_rfl) (by kernel_rfl) ?_
 simp only[List.take_succ_cons,List.take_zero,List.drop_succ_cons,List.drop_zero]
 go_big_quiet_step (fail)
 go_big_quiet_step (fail)
 refine bE (v:=.pointer (some ⟨g,0,none⟩)) rfl (λW=>by kernel_rfl) ?_
 (try simp only[nn,Nat.reduceAdd])
 refine bE (v:=.pointer (some ⟨g,0,none⟩)) rfl (λW=>by kernel_rfl) ?_
 (try simp only[nn,Nat.reduceAdd])
 refine fA rfl (λW hQ=>dB rfl rfl (vU hQ hg4 r0) sG hlh) ?_
 (try simp only[nn,Nat.reduceAdd])
 refine Jj rfl rfl rfl X4 abN hfl ?_
 (try simp only[nn,Nat.reduceAdd])
 go_big_quiet_step (fail)
 refine bE (v:=.pointer (some ⟨g,0,none⟩)) rfl (λW=>by kernel_rfl) ?_
 (try simp only[nn,Nat.reduceAdd])
 refine bE (v:=.pointer (some ⟨g,8,none⟩)) rfl (λW=>by kernel_rfl) ?_
 (try simp only[nn,Nat.reduceAdd])
 refine fA rfl (λW hQ=>dB rfl rfl (vU hQ hg4 r1) eH rfl) ?_
 (try simp only[nn,Nat.reduceAdd])
 go_big_quiet_step (fail)
 refine di 71 rfl rfl func71 (by kernel_rfl) (by kernel_rfl) (λW hQ=>hcmp W hQ) ?_
 (try simp only[nn,Nat.reduceAdd])
 refine wpQuiet_nil ?_
 intro w' hw'
 have B6:=(B4.below hw').asH
 replace hch:=hch.trans (Ch.of_below (g:=g) hw')
 clear B4 G4 hw' X4 r0 r1 hcmp
 go_wp2_with (refine iO rfl 147 _ _ rfl 0 rfl (pre:=[]) (vs:=vals .u64 Z) rfl B6 rfl sG (by rw[bg];exact hlh) (by rw[bg];exact hcl) (dX _ _) ?_;intro w7 acI Vj;(try simp only[nn,Nat.reduceAdd]))
 refine bodyPost_end (v:=.tuple #[]) (by simp[results,results66]) rfl ⟨rfl,⟨?_,hcl⟩,hch.trans (Ch.bX Vj)⟩
 rw[List.append_assoc]
 exact acI
end
section
open Go.RowKit
def nU:List Nat:=[7640891576939301176,13503953896175478587,4354685564936845355,11912009170470909681,5840696475078001361,11170449401992604703,2270897969802886507,6620516959819538809]
theorem KD:∀x∈nU,x<18446744073709551616:=by decide
theorem bldH (W:World):(Instr.build 151 #[(0,.agg (ints .u64 gW)),(3,.int .i64 48)]).run prog W=.ok (.agg (vals .u64 gW++vals .u64 [0,0]++[Value.slice none 0 0,Value.int .i64 ((48:Nat):Int)]).toArray) W:=by kernel_rfl
theorem Rc {o:Oper}{a:Act}{x y:Operand}{w:World}(ho:o.op=.build 151 #[(0,x),(3,y)])(hx:a.eval x=.agg (ints .u64 gW))(hy:a.eval y=.int .i64 48):(execOp a.eval o).run prog w=.ok (.value (.agg (vals .u64 gW++vals .u64 [0,0]++[Value.slice none 0 0,Value.int .i64 ((48:Nat):Int)]).toArray)) w:=by
 unfold execOp
 simp only[ho,List.map_toArray,List.map_cons,List.map_nil,hx,hy]
 simp only[Sem.run_bind,bldH,Result.andThen_ok]
 rfl
theorem Km:gW.length=8:=rfl
theorem HB.c0 {w:World}{g:Nat}{c0 c1:Nat}{v:Value}{n:Nat}{x:Nat}{hs:List Nat}(h:HB w g (x::hs) c0 c1 v n):w.cell? ⟨g,0,none⟩=some (.int .u64 (x:Int)):=by rw[h.blk.cell];rfl
theorem HB.set0 {w:World}{g:Nat}{c0 c1:Nat}{v:Value}{n:Nat}{x y:Nat}{hs:List Nat}(h:HB w g (x::hs) c0 c1 v n):HB (w.setCell ⟨g,0,none⟩ (.int .u64 (y:Int))) g (y::hs) c0 c1 v n:=by
 have h1:=h.blk.kL 0 (.int .u64 (y:Int))
 exact⟨h1,h.len⟩
theorem aaQ (w:World)(hG:uL w) :
  Calls prog 53 #[.int .i64 48,.slice none 0 0] w λe w'=>∃g,e=.returned (.tuple #[.pointer (some ⟨g,0,none⟩),.int .i64 0])/\w.heap.size<=g/\HB w' g nU 0 0 (.slice none 0 0) 48/\Below w.heap.size w w':=by
 have hF:=hG.1
 go_enter func53,ntmps53
 go_wp2_with ((first
  | (refine aZ rfl (bq rfl rfl hF sG Km (by decide)) ?_)
  | (refine aZ rfl (Rc rfl rfl rfl) ?_));(try simp only[nn,Nat.reduceAdd]))
 have B0:=aA.new w 151 (vals .u64 gW++vals .u64 [0,0]++[Value.slice none 0 0,Value.int .i64 ((48:Nat):Int)]).toArray
 have B:HB (w.alloc (.cells (vals .u64 gW++vals .u64 [0,0]++[Value.slice none 0 0,Value.int .i64 ((48:Nat):Int)]).toArray 151)) w.heap.size gW 0 0 (.slice none 0 0) 48:=⟨B0,rfl⟩
 have hbel:=bN w (.cells (vals .u64 gW++vals .u64 [0,0]++[Value.slice none 0 0,Value.int .i64 ((48:Nat):Int)]).toArray 151)
 rw[List.append_assoc] at B hbel
 generalize (w.alloc (.cells (vals .u64 gW++(vals .u64 [0,0]++[Value.slice none 0 0,Value.int .i64 ((48:Nat):Int)])).toArray 151))=w1 at *
 have k0:=B.c0
 have x4:IntKind.u64.wrap 0=0:=by decide
 have x5:IntKind.u64.wrap 48=48:=by decide
 have x6:IntKind.u64.wrap (0*256)=0:=by decide
 have x1:bits BinOp.xor IntKind.u64 16842752 0=16842752:=by decide
 have x2:bits BinOp.xor IntKind.u64 16842752 48=16842800:=by decide
 have x3:bits BinOp.xor IntKind.u64 ((7640891576956012808:Nat):Int) 16842800=((7640891576939301176:Nat):Int):=by decide
 obtain⟨n0,N0⟩:∃n0:Nat,Hid (7640891576956012808=n0):=⟨_,aR rfl⟩
 obtain⟨n1,N1⟩:∃n1:Nat,Hid (7640891576939301176=n1):=⟨_,aR rfl⟩
 rw[N0.out] at x3 k0
 rw[N1.out] at x3
 clear B0
 go_still_tail 16,(by kernel_rfl)
 change wpList _ _ _ _ _ w1.drew
 replace B:=B.drew
 replace hbel:=hbel.drew
 clear k0 x1 x2 x3 x4 x5 x6
 generalize w1.drew=w2 at *
 have k0:=B.c0
 have z0:=B.blk.frozen 0
 have B2:=B.set0 (y:=n1)
 have hl2:Below w.heap.size w (w2.setCell ⟨w.heap.size,0,none⟩ (.int .u64 (n1:Int))):=hbel.setCell (p:=⟨w.heap.size,0,none⟩) dM _
 clear B hbel hF hG
 go_wp2_with fail
 refine bodyPost_ret (v:=.tuple #[.pointer (some ⟨w.heap.size,0,none⟩),.int .i64 0]) ?_ rfl ⟨_,rfl,Nat.le_refl _,?_,hl2⟩
 ·simp[results,results53]
 ·rw[←N1.out]
  rw[←N1.out] at B2
  exact B2
theorem HB.wE {w:World}{g:Nat}{hs:List Nat}{c0 c1:Nat}{v u:Value}{n:Nat}(h:HB w g hs c0 c1 v n):HB (w.setCell ⟨g,10,none⟩ u) g hs c0 c1 u n:=by
 have h1:=h.blk.kL 10 u
 refine⟨?_,h.len⟩
 rw[List.setIfInBounds_toArray,List.set_append_right (h:=by rw[List.length_append,h.BR,bg];simp),List.length_append,h.BR,bg] at h1
 exact h1
theorem Sr (g:Nat)(hs b:List Nat)(sz:Nat)(a:Option Addr)(c:Nat)(hbl:b.length<=128)(hn:a=none->c=0)(w:World)(hB:HB w g hs 0 0 (.slice none 0 0) sz)(hS:Sl w a .u8 b) :
  Calls prog 54 #[.pointer (some ⟨g,0,none⟩),.slice a b.length c] w λe w'=>∃a2 c2,e=.returned (.tuple #[])/\HB w' g hs 0 0 (.slice a2 b.length c2) sz/\Sl w' a2 .u8 b/\Ch g w w':=by
 obtain⟨n,Hn⟩:=bD (b.length)
 have hn128:n<=128:=by rw[←Hn.out];exact hbl
 have hni:(n:Int)<=128:=by omega
 rw[Hn.out]
 have k0:=hB.cV
 have z0:=hB.blk.frozen 10
 have ov:Own w w.heap.size 5 .u8 (.slice none 0 0) []:=Own.nil _ _ _ _
 have hgl:=hB.lt
 obtain⟨J,HJ,HI0⟩:=jmp (λaJ w'=>∃(U:Nat->Value) (a2:Option Addr) (c2:Nat),aJ={ tmps:=#[.pointer (some ⟨g,0,none⟩),U 1,U 2,U 3,U 4,U 5,U 6,U 7,U 8,U 9,U 10,U 11,U 12,U 13,U 14,U 15,U 16,U 17,U 18,U 19,U 20,U 21,U 22,U 23,U 24,U 25,U 26,U 27,U 28,U 29,U 30,U 31,U 32,U 33,U 34,U 35],defers:=[] }/\HB w' g hs 0 0 (.slice a2 n c2) sz/\Sl w' a2 .u8 b/\Ch g w w')
 have HI:Hid (∀(T:Array Value) (w':World),(∃(a2:Option Addr) (c2:Nat),T=((λ(U:Nat->Value)=>#[.pointer (some ⟨g,0,none⟩),U 1,U 2,U 3,U 4,U 5,U 6,U 7,U 8,U 9,U 10,U 11,U 12,U 13,U 14,U 15,U 16,U 17,U 18,U 19,U 20,U 21,U 22,U 23,U 24,U 25,U 26,U 27,U 28,U 29,U 30,U 31,U 32,U 33,U 34,U 35]) λi=>T.getD i undef)/\HB w' g hs 0 0 (.slice a2 n c2) sz/\Sl w' a2 .u8 b/\Ch g w w')->J { tmps:=T,defers:=[] } w') :=
  aR λT w' ⟨a2,c2,hJ,rJ⟩=>HI0.out _ _ ⟨λi=>T.getD i undef,a2,c2,congrArg (λT=>({ tmps:=T,defers:=[] }:Act)) hJ,rJ⟩
 clear HI0
 obtain⟨μ,Hμ⟩:∃μ:Act->World->Nat,Hid (∀a w',μ a w'=0):=⟨λ_ _=>0,aR λ_ _=>rfl⟩
 go_enter func54,ntmps54
 refine dF 0 J μ (by simp only[findLabel];rfl) ?_ ?_
 ·intro a' wr hj
  obtain⟨U,a2,c2,rfl,B,S,hc⟩:=HJ.out _ _ hj
  clear hj k0 z0
  have k0:=B.cV
  go_wp2_with fail
  (try simp only[Exit.jump,Exit.inBlock,Exit.then])
  exact bodyPost_ret (v:=.tuple #[]) (by simp[results,results54]) rfl ⟨rfl,a2,⟨c2,B⟩,S,hc⟩
 ·intro pass
  go_wp2_with ((first
   | (at_builtin;refine dA (zs:=b) rfl rfl underlying23 nY rfl (by omega) rfl ov rfl Hn.out.symm hn hS (by simp;omega) dM ?_;(intro v' w' hown' hgr);(rw[List.nil_append] at hown');(have B1:HB w' g hs 0 0 (.slice none 0 0) sz:=⟨hB.blk.jO hgr ov (by decide),hB.len⟩);(have aK:=gI (Below.refl w.heap.size w) hgr dM ov dM);(obtain⟨a2,c2,rfl,s2,-,-,hn2⟩:=hown'.mZ);(rw[Hn.out]);(have k1:=B1.cV);(have z1:=B1.blk.frozen 10);(have B2:=B1.wE (u:=.slice a2 n c2));(have S2:Sl (w'.setCell ⟨g,10,none⟩ (.slice a2 n c2)) a2 .u8 b:=(Ch.bX (iG.set w' g 10 (.slice a2 n c2))).sl s2 (λbb off e=>by subst e;have:=hown'.afX bb rfl;omega));(have hc2:=(Ch.of_below (g:=g) aK).trans (Ch.bX (iG.set w' g 10 (.slice a2 n c2))));(clear k0 z0 ov hB hS hgr aK B1 hown' s2)));(try simp only[nn,Nat.reduceAdd]))
  refine wp_label ?_
  rename_i hKx
  refine hKx _ _ ?_
  exact pass _ _ (HI.out _ _ ⟨_,_,rfl,B2,S2,hc2⟩)
end
section
open Go.RowKit
section
variable {P:Program}{o:Oper}{a:Act}{w:World}
theorem Cq {T g n t:Nat}{x:Operand}{cs:Array Value}(ho:o.op=.load T x)(hx:a.eval x=.pointer (some ⟨g,0,none⟩))(hb:aA w g t cs)(ha:dG P T n)(hl:cs.size=n) :
  (execOp a.eval o).run P w=.ok (.value (.agg cs)) w:=by
 obtain⟨⟨d,h1,hd⟩,h2⟩:=ha
 unfold execOp
 simp only[ho,hx,Instr.loadAt,Instr.sureAddr,Sem.run_bind,Sem.run_pure,Result.andThen_ok,run_loadVar_row w g t T _ _ _ hb h1 (by cases d<;>first|rfl|cases hd) (by rw[hl];exact h2)]
end
theorem Tryz.arH:dG prog 151 12:=isStr underlying151 (by kernel_rfl)
def zH:Array Value:=(vals .u64 (zeros 8)++vals .u64 [0,0]++[Value.slice none 0 0,Value.int .i64 0]).toArray
theorem ZF (w:World):(Instr.alloc 151 true (.tuple #[])).run prog w=.ok (.pointer (some ⟨w.heap.size,0,none⟩)) (w.alloc (.cells zH 151)):=by kernel_rfl
theorem Jd {o:Oper}{a:Act}{w:World}(ho:o.op=.alloc 151):(execOp a.eval o).run prog w=.ok (.value (.pointer (some ⟨w.heap.size,0,none⟩))) (w.alloc (.cells zH 151)):=by
 unfold execOp
 simp only[ho,Sem.run_bind,ZF,Result.andThen_ok]
 rfl
def yJ (Z:List Nat)(k:Nat):List Nat:=((Z.take k).map λn=>cZ 256 8 n).flatten
theorem uA (Z:List Nat):∀k,k<=Z.length->(yJ Z k).length=8*k
 | 0,_=>rfl
 | k+1,h=>by
  have h1:=uA Z k (by omega)
  unfold yJ at h1 ⊢
  rw[Ap (v:=Z.getD k 0) (by omega) rfl,List.map_append,List.flatten_append,List.length_append,h1]
  simp[bn]
  omega
theorem OY {Z:List Nat}{k:Nat}(h:k<Z.length):yJ Z (k+1)=yJ Z k++cZ 256 8 (Z.getD k 0):=by
 unfold yJ
 rw[Ap (v:=Z.getD k 0) h rfl,List.map_append,List.flatten_append]
 simp
def ED (hs b:List Nat):List Nat:=(yJ (uE hs (b++zeros (128-b.length)) b.length 0) 8).take 48
theorem QT {m v row:List Nat}(hv:∀x∈v,x<18446744073709551616)(hst:∀(v:List Nat) (i y a b:Nat),(∀x∈v,x<18446744073709551616)->∀x∈VL v i y a b,x<18446744073709551616):∀k,∀x∈YH m v row k,x<18446744073709551616
 | 0=>hv
 | k+1=>by unfold YH;exact hst _ _ _ _ _ (QT hv hst k)
theorem Gb {v:List Nat}(a b x:Nat)(hv:∀x∈v,x<18446744073709551616):∀y∈TE v a b x,y<18446744073709551616:=jl hv (Nat.mod_lt _ (by decide))
theorem Ga {v:List Nat}(a b:Nat)(hv:∀x∈v,x<18446744073709551616):∀y∈TD v a b,y<18446744073709551616:=jl hv (Nat.mod_lt _ (by decide))
theorem uq {v:List Nat}(a b x:Nat)(hv:∀x∈v,x<18446744073709551616):∀y∈Mq v a b x,y<18446744073709551616:=jl hv (Cu (Nat.xor_lt_two_pow (n:=64) (eF hv a) (eF hv b)))
theorem ZX (v:List Nat)(i y a b:Nat)(hv:∀x∈v,x<18446744073709551616):∀x∈VL v i y a b,x<18446744073709551616:=by
 unfold VL rf
 exact uq _ _ _ (Ga _ _ (uq _ _ _ (Gb _ _ _ (uq _ _ _ (Ga _ _ (uq _ _ _ (Gb _ _ _ hv)))))))
theorem Ri {m v:List Nat}(hv:∀x∈v,x<18446744073709551616):∀r,∀x∈Vd m v r,x<18446744073709551616
 | 0=>hv
 | r+1=>by unfold Vd;exact QT (Ri hv r) ZX 8
theorem Ug {h b:List Nat}{c0 c1:Nat}(hh:∀x∈h,x<18446744073709551616)(h0:c0<18446744073709551616)(h1:c1<18446744073709551616):∀x∈uE h b c0 c1,x<18446744073709551616:=by
 unfold uE
 refine Dl hh (Ri ?_ 12) 8
 have hv:=Qw hh 8
 generalize vK h 8=v at hv
 unfold vT
 exact jl (jl (jl hv (Nat.xor_lt_two_pow (n:=64) (eF hv 12) h0)) (Nat.xor_lt_two_pow (n:=64) (eF hv 13) h1)) (Nat.xor_lt_two_pow (n:=64) (by decide) (eF hv 14))
theorem aaI (g:Nat)(hs b:List Nat)(a:Option Addr)(c:Nat)(hh:∀x∈hs,x<18446744073709551616)(hbl:b.length<=128)(hbb:∀x∈b,x<256)(w:World)(hG:uL w)(hB:HB w g hs 0 0 (.slice a b.length c) 48)(hS:Sl w a .u8 b) :
  Calls prog 55 #[.pointer (some ⟨g,0,none⟩)] w λe w'=>∃a2 c2,e=.returned (.slice a2 48 c2)/\Sl w' a2 .u8 (ED hs b)/\48<=c2/\Below w.heap.size w w':=by
 have hB0:=hB.blk
 have hsz:(vals .u64 hs++vals .u64 [0,0]++[Value.slice a b.length c,Value.int .i64 ((48:Nat):Int)]).toArray.size=12:=by
  rw[List.size_toArray,List.length_append,List.length_append,hB.BR,bg];rfl
 have hone:(vals .u64 hs++vals .u64 [0,0]++[Value.slice a b.length c,Value.int .i64 ((48:Nat):Int)]).toArray.all (·.oneCell')=true:=by
  rw[all_oneCell_toArray]
  intro v hv
  rcases List.mem_append.1 hv with hv|hv
  ·rcases List.mem_append.1 hv with hv|hv<;>exact dX _ _ v hv
  ·simp only[List.mem_cons,List.not_mem_nil,or_false] at hv
   rcases hv with rfl|rfl<;>rfl
 have hlh:=hB.len
 obtain⟨cs,hcs⟩:=bD ((vals .u64 hs++vals .u64 [0,0]++[Value.slice a b.length c,Value.int .i64 ((48:Nat):Int)]).toArray)
 rw[hcs.out] at hB0 hsz hone
 have X1:=(aA.new w 151 zH)
 have X2:=X1.row cs
 have hbel:=az (bN w (.cells zH 151)) dM cs
 have hgl:=hG.lt
 go_enter func55,ntmps55
 go_wp2_with ((first
  | (refine aZ rfl (Cq rfl rfl hB0 arH hsz) ?_)
  | (refine fP rfl (Jd rfl) ?_)
  | (refine wpList_store_row rfl 151 _ _ rfl _ _ rfl rfl _ _ X1 (by rw[hsz];exact arH.2) (by rw[hsz];rfl) hone ?_;(generalize ((w.alloc (.cells zH 151)).setRow w.heap.size cs)=w1 at *);(have B1:HB w1 w.heap.size hs 0 0 (.slice a b.length c) 48:=⟨by rw[hcs.out];exact X2,hlh⟩);(have k0:=B1.cV)));(try simp only[nn,Nat.reduceAdd]))
 have S1:=hS.below hbel
 refine(Tu w.heap.size hs b (.slice a b.length c) 48 a c hh hbl hbb (by omega) (by omega) w1 (hG.below hbel) B1 S1).mono ?_
 rintro e w2 ⟨rfl,B2,hc2⟩
 have aB:=hc2.below hbel dM hbel.size
 obtain⟨Z,HZ⟩:=bD (uE hs (b++zeros (128-b.length)) b.length 0)
 have Vh:=Ug (h:=hs) (b:=b++zeros (128-b.length)) (c0:=b.length) (c1:=0) hh (by omega) (by decide)
 have HS:Hid (ED hs b=(yJ Z 8).take 48):=aR (by unfold ED;rw[HZ.out])
 rw[HZ.out] at B2 Vh
 have Gc:=B2.len
 obtain⟨i8,aeF,hz0,hz1,hz2⟩:=info_parts nY
 have hsz2:=aB.size
 clear HZ B1 k0 X1 X2 S1 hbel hB0 hB hS hcs hone hsz
 go_wp2_with ((first
  | (refine wpList_make_own _ rfl _ _ 23 rfl w.heap.size 5 i8 (.int .u8 0) 1 underlying23 aeF hz0 hz1 .i64 .i64 _ 64 rfl rfl rfl (by rw[hz2];decide) (by decide) hsz2 ?_;(intro w3 ho hgr);(have B3:HB w3 w.heap.size Z b.length 0 (.slice a b.length c) 48:=⟨B2.blk.grown hgr (λh=>by cases h),B2.len⟩);(have r3:=B3.rH);(have aG:=aB.grown hgr hsz2 (λk hk=>by cases hk));(have O3:Own w3 w.heap.size 5 .u8 (.slice (some ⟨w2.heap.size,0,none⟩) 0 64) (yJ Z 0):=ho);(clear ho hgr aB B2))
  | (refine aZ rfl (dB rfl rfl r3 sG Gc) ?_));(try simp only[nn,Nat.reduceAdd]))
 clear r3 hsz2
 go_loopw [4,22] (λs t wr=>∃k:Nat,k<=8/\t=.int .i64 (k:Int)/\HB wr w.heap.size Z b.length 0 (.slice a b.length c) 48/\Own wr w.heap.size 5 .u8 s (yJ Z k)/\Below w.heap.size w wr) (λs t wr=>8-(intOf t).toNat)
 case atStart=>exact⟨0,by omega,rfl,B3,O3,aG⟩
 case round =>
  clear B3 O3 aG
  obtain⟨k,hk,rfl,B,O,hbel⟩:=hrel
  by_cases hlt:k<8
  ·have hd:decide ((k:Int)<8)=true:=by simp;omega
   have hix:=gT underlying147 underlying106 YK Gc hlt
   have hds:=OY (Z:=Z) (k:=k) (by omega)
   have hxb:=eF Vh k
   have hdl:=uA Z k (by omega)
   generalize Z.getD k 0=x at *
   have hpl:=jh x hxb wr
   have hzl:(cZ 256 8 x).length=8:=bn _ _ _
   have HDS:=aR hds
   clear hds
   generalize cZ 256 8 x=zs at *
   go_wp2_with fail
   refine hpl.mono ?_
   clear hpl
   rintro e w3 ⟨rfl,hb3⟩
   have B3:=B.below hb3
   have O3:=O.below hb3
   have aG:=bC hbel hb3
   have X3:=aA.new w3 107 (ints .u8 (zeros 8))
   have hb4:=az (bN w3 (.cells (ints .u8 (zeros 8)) 107)) dM (ints .u8 zs)
   have X4:=X3.row (ints .u8 zs)
   have B4:=B3.below hb4
   have O4:=O3.below hb4
   have aY:=bC aG hb4
   have s4:Sl _ (some ⟨w3.heap.size,0,none⟩) .u8 zs:=Sl.blk X4
   clear B O hbel hb3 B3 O3 aG hb4 X4 hix
   go_wp2_with ((first
    | (refine ae rfl 107 rfl z107 ?_)
    | (refine aa rfl 107 _ _ rfl _ rfl rfl X3 (ah _ _) wh hzl ?_;(generalize ((w3.alloc (.cells (ints .u8 (zeros 8)) 107)).setRow w3.heap.size (ints .u8 zs))=w4 at *);(generalize w3.heap.size=nb at *);(clear X3))
    | (at_builtin;refine dA (zs:=zs) rfl rfl underlying23 nY rfl (by omega) rfl O4 rfl hzl.symm (λh=>by cases h) s4 (by rw[hdl,hzl];omega) aY.size ?_;(intro v' w5 hown' hgr);(rw[←HDS.out] at hown');(have B5:HB w5 w.heap.size Z b.length 0 (.slice a b.length c) 48:=⟨B4.blk.jO hgr O4 (by decide),B4.len⟩);(have bA:=gI aY hgr aY.size O4 dM);(clear B4 O4 aY s4 hgr HDS)));(try simp only[nn,Nat.reduceAdd]))
   exact⟨⟨k+1,by omega,by go_num,B5,hown',bA⟩,by simp[intOf]<;>omega⟩
  ·have ek:k=8:=by omega
   have hd:decide ((k:Int)<8)=false:=by simp;omega
   rw[ek] at O
   clear ek
   have hdl:=uA Z 8 (by omega)
   obtain⟨a4,c4,rfl,s4,hc4,-,hn4⟩:=O.mZ
   rw[hdl] at hc4 ⊢
   have k1:=B.cN
   clear O B
   go_wp2_with (refine kg (n:=48) rfl rfl underlying23 s15 rfl rfl (by omega) s4 ?_;intro sI hs2 hnn;rw[←HS.out] at hs2;(try simp only[nn,Nat.reduceAdd]))
   go_ret
   exact⟨_,_,rfl,hs2,by omega,hbel⟩
end
end Go.Proofs.YtaiffkajkbiidaaGreatDoor
