/- What this claim leans on, part 22: laws of the model, and what functions of the program compute. No condition but what each law states. -/
import Derived.Test.YtaiffkajkbiidaaGreatDoorQ11
namespace Go.Proofs.YtaiffkajkbiidaaGreatDoor
set_option linter.unusedSimpArgs false
set_option linter.unusedVariables false
set_option linter.unusedSectionVars false
set_option maxRecDepth 100000
set_option maxHeartbeats 40000000
open Go.Proofs.Tryz
open Tryz
section
open Go.RowKit
namespace UW
open Gf (W2 up down dI ja bV mul dot qK R1 D1)
theorem abR:ints .u64 (W2 1)=#[.int .u64 1,.int .u64 0]:=by kernel_rfl
theorem Nl:ints .u64 (zeros 32)=#[.int .u64 0,.int .u64 0,.int .u64 0,.int .u64 0,.int .u64 0,.int .u64 0,.int .u64 0,.int .u64 0,.int .u64 0,.int .u64 0,.int .u64 0,.int .u64 0,.int .u64 0,.int .u64 0,.int .u64 0,.int .u64 0,.int .u64 0,.int .u64 0,.int .u64 0,.int .u64 0,.int .u64 0,.int .u64 0,.int .u64 0,.int .u64 0,.int .u64 0,.int .u64 0,.int .u64 0,.int .u64 0,.int .u64 0,.int .u64 0,.int .u64 0,.int .u64 0]:=by kernel_rfl
theorem QX {a:Act}{o:Oper}{W:World}{x:Operand}{g off v:Nat}(ho:o.op=.load 149 x)(hx:a.eval x=.pointer (some ⟨g,off,none⟩))
  (c0:W.cell? ⟨g,off,none⟩=some (.int .u64 ((v%18446744073709551616:Nat):Int))) (c1:W.cell? ⟨g,off+1,none⟩=some (.int .u64 ((v/18446744073709551616:Nat):Int))) :
  (execOp a.eval o).run prog W=.ok (.value (.agg (ints .u64 (W2 v)))) W:=by
 obtain⟨⟨d,h1,hd⟩,h2⟩:=eH
 have hr:W.rangeAt g off [Value.int .u64 ((v%18446744073709551616:Nat):Int),Value.int .u64 ((v/18446744073709551616:Nat):Int)]:=λj u hj=>by
  rcases j with _|_|j
  ·simp only[List.getElem?_cons_zero,Option.some.injEq] at hj;subst hj;exact c0
  ·simp only[List.getElem?_cons_succ,List.getElem?_cons_zero,Option.some.injEq,Nat.zero_add] at hj;subst hj;exact c1
  ·simp at hj
 unfold execOp
 simp only[ho,hx,Instr.loadAt,Instr.sureAddr,Sem.run_bind,Sem.run_pure,Result.andThen_ok,run_loadVar_mid W g off _ _ d hr h1 (by cases d<;>first|rfl|cases hd) h2]
 rfl
theorem wy {Q:Exit->Act->World->Prop}{K:Act->World->Prop}{ops:Array Oper}{i:Nat}{o:Oper}{a:Act}{W:World}{x y:Operand}{g off v t:Nat}{xs:List Nat}(hi:ops[i]?=some o)(hw:Region.wanted o (yielded ops a.tmps)=true)(ho:o.op=.store 149 x y)
  (hx:a.eval x=.pointer (some ⟨g,off,none⟩)) (hy:a.eval y=.agg (ints .u64 (W2 v))) (hb:aA W g t (ints .u64 xs)) (hoff:off+1<xs.length)
  (h:K (a.put o.dst undef) ((W.setCell ⟨g,off,none⟩ (.int .u64 ((v%18446744073709551616:Nat):Int))).setCell ⟨g,off+1,none⟩ (.int .u64 ((v/18446744073709551616:Nat):Int)))):wpOp prog ops Q i K a W:=by
 unfold wpOp
 simp only[hi,hw,if_true]
 refine .inl (wp_store_mid 149 x y ho g off (ints .u64 (W2 v)) hx hy (λj hj=>?_) eH.2 (pI _ _) h)
 have hj2:j<2:=hj
 exact⟨by rw[hb.int (i:=off+j) (by omega)];rfl,hb.frozen _⟩
theorem shl4 (k:Nat)(hk:k<4)(W:World):(binOp .shl 3 (.int .i64 1) (.int .i64 (k:Int))).run prog W=.ok (.int .i64 ((2^k:Nat):Int)) W:=by
 rcases(by omega:k=0∨k=1∨k=2∨k=3) with h|h|h|h<;>subst h<;>kernel_rfl
theorem QZ {o:Oper}{a:Act}{W:World}{x:Operand}{k P:Nat}(ho:o.op=.binOp .shl 3 (.const (.int .i64 1)) x 3)(hx:a.eval x=.int .i64 (k:Int))(hk:k<4)(hP:2^k=P):(execOp a.eval o).run prog W=.ok (.value (.int .i64 (P:Int))) W:=by
 have hc:a.eval (.const (.int .i64 1))=.int .i64 1:=rfl
 rw[←hP]
 unfold execOp
 simp only[ho,hx,hc,Sem.run_bind,shl4 k hk,Result.andThen_ok,Sem.run_pure]
 rfl
theorem or8 (P i:Nat)(hP:P=1∨P=2∨P=4∨P=8)(hi:i<P)(W:World):(binOp .or 3 (.int .i64 (P:Int)) (.int .i64 (i:Int))).run prog W=.ok (.int .i64 ((P+i:Nat):Int)) W:=by
 rcases hP with h|h|h|h<;>subst h
 ·obtain h:i=0:=by omega
  subst h;kernel_rfl
 ·rcases(by omega:i=0∨i=1) with h|h<;>subst h<;>kernel_rfl
 ·rcases(by omega:i=0∨i=1∨i=2∨i=3) with h|h|h|h<;>subst h<;>kernel_rfl
 ·rcases(by omega:i=0∨i=1∨i=2∨i=3∨i=4∨i=5∨i=6∨i=7) with h|h|h|h|h|h|h|h<;>subst h<;>kernel_rfl
theorem pow4 (k:Nat)(hk:k<4){P:Nat}(hP:2^k=P):P=1∨P=2∨P=4∨P=8:=by
 subst hP
 rcases(by omega:k=0∨k=1∨k=2∨k=3) with h|h|h|h<;>subst h<;>decide
theorem Ra {o:Oper}{a:Act}{W:World}{x y:Operand}{k P i q:Nat}(ho:o.op=.binOp .or 3 x y 3)(hx:a.eval x=.int .i64 (P:Int))(hy:a.eval y=.int .i64 (i:Int))(hk:k<4)(hP:2^k=P)(hi:i<P)(hq:P+i=q):(execOp a.eval o).run prog W=.ok (.value (.int .i64 (q:Int))) W:=by
 rw[←hq]
 unfold execOp
 simp only[ho,hx,hy,Sem.run_bind,or8 P i (pow4 k hk hP) hi,Result.andThen_ok,Sem.run_pure]
 rfl
theorem EN {P:Program}{o:Oper}{a:Act}{w:World}{T e j len g s z:Nat}{x y:Operand}(hz:j*s=z)(ho:o.op=.indexAddr T x y)(hx:a.eval x=.pointer (some ⟨g,0,none⟩))(hy:a.eval y=.int .i64 (j:Int))(hj:j<len)(hT:P.underlying T=some (.array len e))(hs:(P.info? e).map (·.size)=some s) :
  (execOp a.eval o).run P w=.ok (.value (.pointer (some ⟨g,z,none⟩))) w:=by
 subst hz
 obtain⟨t,ht,rfl⟩:=Option.map_eq_some_iff.1 hs
 have hb:(0:Int)<=(j:Int)/\(j:Int)<(len:Int):=by omega
 unfold execOp
 simp only[ho,hx,hy,Instr.indexAt,Instr.sureAddr,asIntOf,Sem.run_bind,Sem.run_pure,Result.andThen_ok,run_underlying hT]
 simp[hb,hj,sizeOf,typeInfo,ht,Addr.add_mid,go_sem]
theorem szW:(prog.info? 149).map (·.size)=some 2:=by kernel_rfl
theorem aat (hs:List Nat)(hl:hs.length=16)(hb:∀x∈hs,x<256)(w:World) :
  Calls prog 157 #[.agg (ints .u8 hs)] w λe w'=>e=.returned (.pointer (some ⟨w.heap.size+1,0,none⟩))/\Below w.heap.size w w'/\aA w' (w.heap.size+1) 243 (ints .u64 (mq (dot R1 D1 (num hs) 1) 16)):=by
 have hx:=vv hl hb
 have hX:=Gf.Ub Gf.AJ hx 1
 have B0:=(aA.new w 96 (ints .u8 hs)).alloc (.cells (ints .u64 (zeros 32)) 243)
 have B1:=aA.new (w.alloc (.cells (ints .u8 hs) 96)) 243 (ints .u64 (zeros 32))
 rw[World.size_alloc] at B1
 have hbel:=(bN w (.cells (ints .u8 hs) 96)).alloc (by simp) (.cells (ints .u64 (zeros 32)) 243)
 have HZ:=aR Nl
 go_enter func157,ntmps157
 go_wp2_with (fail)
 rw[←HZ.out]
 generalize ((w.alloc (.cells (ints .u8 hs) 96)).alloc (.cells (ints .u64 (zeros 32)) 243))=w0 at *
 refine(WE (some ⟨w.heap.size,0,none⟩) 16 16 hs hb hl rfl _ (Sl.blk B0)).mono ?_
 rintro e w1 ⟨rfl,hb1⟩
 have C1:=B1.below' hb1
 have aK:=bC hbel hb1
 clear B0 B1 hbel hb1
 go_wp2_with (fail)
 rw[←abR]
 refine(abB (num hs) 1 hx (by decide) _).mono ?_
 rintro e w2 ⟨rfl,hb2⟩
 have D1':=C1.below' hb2
 have aB:=bC aK hb2
 clear C1 aK hb2
 generalize hXd:dot R1 D1 (num hs) 1=X at *
 have HX:=aR hXd
 clear hXd
 generalize hxd:num hs=x at *
 have Yo:=aR hxd
 clear hxd
 have l1:=D1'.lt
 have E1:=(D1'.alloc (.cells (ints .u64 (zeros 2)) 149)).aM (show w.heap.size+1≠w2.heap.size by omega) (ints .u64 (W2 X))
 have Z4:=aA.new w2 149 (ints .u64 (zeros 2))
 have E4:=Z4.row (ints .u64 (W2 X))
 have aG:=az (aB.alloc aB.size (.cells (ints .u64 (zeros 2)) 149)) aB.size (ints .u64 (W2 X))
 go_wp2_with ((first|(refine ae rfl 149 rfl Ee ?_)|(refine aa rfl 149 _ _ rfl w2.heap.size rfl rfl Z4 rfl eH rfl ?_));(try simp only[nn,Nat.reduceAdd]))
 clear D1' Z4 aB
 generalize hgd:w2.heap.size=g4 at *
 have hg4:w.heap.size+1≠g4:=by omega
 have hg4b:w.heap.size<=g4:=by omega
 clear hgd l1
 generalize (w2.alloc (.cells (ints .u64 (zeros 2)) 149)).setRow g4 (ints .u64 (W2 X))=w3 at *
 go_loopw [13] (λt wr=>∃k:Nat,k<=4/\t=.int .i64 k/\aA wr (w.heap.size+1) 243 (ints .u64 (mq X (2^k)))/\aA wr g4 149 (ints .u64 (W2 (dI R1 k X)))/\Below w.heap.size w wr) (λt wr=>4-(intOf t).toNat)
 case atStart=>exact⟨0,by omega,rfl,by rw[show mq X (2^0)=zeros 32 from NG X];exact E1,E4,aG⟩
 case round =>
  rename_i hrel
  obtain⟨k,hk,rfl,C1,C4,bH⟩:=hrel
  clear E1 E4 aG
  by_cases hk4:k<4
  ·have hd:decide ((k:Int)<4)=true:=by simp;omega
   have hY:=Gf.jE Gf.qb hX k
   have HU:Hid (dI R1 (k+1) X=up R1 (dI R1 k X)):=aR rfl
   have hnx:=λi (hi:i<2^k)=>QH X k i hk4 hi
   have hP8:2^k<=8:=(by decide:∀k,k<4->2^k<=8) k hk4
   obtain⟨P,HP⟩:=bD (2^k)
   have HP2:Hid (2^(k+1)=P+P):=aR (by rw[Nat.pow_succ,HP.out];omega)
   rw[HP.out] at C1 hnx hP8
   generalize hYd:dI R1 k X=Y at *
   clear hYd
   have hsh:wrap64 ((2:Int)^k)=(P:Int):=by
    rw[←HP.out]
    rcases(by omega:k=0∨k=1∨k=2∨k=3) with h|h|h|h<;>subst h<;>kernel_rfl
   go_wp2_with (fail)
   rw[hsh]
   go_loopw [18] (λt wr=>∃i:Nat,i<=P/\t=.int .i64 (i:Int)/\aA wr (w.heap.size+1) 243 (ints .u64 (mq X (P+i)))/\aA wr g4 149 (ints .u64 (W2 Y))/\Below w.heap.size w wr) (λt wr=>P-(intOf t).toNat)
   case atStart=>exact⟨0,by omega,rfl,C1,C4,bH⟩
   case round =>
    obtain⟨i,hi,rfl,D1,D4,aY⟩:=hrel
    clear C1 C4 bH
    by_cases hlt:i<P
    ·have hd2:decide ((i:Int)<(P:Int))=true:=by simp;omega
     have hv:=VG X (P+i) i hX
     have hn:=hnx i hlt
     obtain⟨q,Hq⟩:=bD (P+i)
     have aet:q<16:=by rw[←Hq.out];omega
     have PH:Hid (P+(i+1)=q+1):=aR (by rw[←Hq.out];omega)
     rw[Hq.out] at D1 hn hv
     have lD:=jr X q
     obtain⟨z,Hz⟩:=bD (2*i)
     obtain⟨zq,Hzq⟩:∃z,Hid (2*q=z):=⟨_,aR rfl⟩
     have HZ1:Hid (i*2=z):=aR (by rw[←Hz.out];omega)
     have HZQ1:Hid (q*2=zq):=aR (by rw[←Hzq.out];omega)
     have c0:wr.cell? ⟨w.heap.size+1,z,none⟩=some (.int .u64 ((jL X q i%18446744073709551616:Nat):Int)):=by
      have:=D1.int (i:=2*i) (by rw[lD];omega)
      rw[Cc X q (n:=i) (by omega),Hz.out] at this
      exact this
     have c1:wr.cell? ⟨w.heap.size+1,z+1,none⟩=some (.int .u64 ((jL X q i/18446744073709551616:Nat):Int)):=by
      have:=D1.int (i:=2*i+1) (by rw[lD];omega)
      rw[Ce X q (n:=i) (by omega),Hz.out] at this
      exact this
     have hts:((mq X q).set zq (mul R1 X q%18446744073709551616)).set (zq+1) (mul R1 X q/18446744073709551616)=mq X (q+1):=by rw[←Hzq.out];exact VF X q aet
     have hzq:zq+1<32:=by rw[←Hzq.out];omega
     have CU:=D1.lt
     generalize jL X q i=V at *
     have wI:i<16:=by omega
     go_wp2_with (fail)
     have aI:=oJ (S:=(uN wr (w.heap.size+1) 243 (ints .u64 (mq X (q+1))))) (λk e W W' h hb=>uN.lN k e W W' h hb)
     refine aS (n:=42) (T:=?_) [(21,.pointer (some ⟨w.heap.size+1,0,none⟩)),(22,.int .i64 (k:Int)),(23,.int .i64 (P:Int)),(24,.int .i64 (i:Int)),(25,.int .i64 (q:Int)),(26,.pointer (some ⟨w.heap.size+1,0,none⟩)),(27,.int .i64 (i:Int)),(28,.pointer (some ⟨w.heap.size+1,0,none⟩)),(29,.pointer (some ⟨w.heap.size+1,0,none⟩)),(30,.pointer (some ⟨w.heap.size+1,z,none⟩)),(31,.agg (ints .u64 (W2 V))),(32,.agg (ints .u64 (W2 Y))),(33,.agg (ints .u64 (W2 (V^^^1*Y)))),(34,.pointer (some ⟨w.heap.size+1,0,none⟩)),(35,.pointer (some ⟨w.heap.size+1,0,none⟩)),(36,.pointer (some ⟨w.heap.size+1,zq,none⟩))] [] (λs W u=>True) (λ_ _=>True) [16] _ aI (by kernel_rfl) (by kernel_rfl) rfl (by kernel_rfl) (by kernel_rfl) (by kernel_rfl) (λs W W' v hR h=>trivial) (uN.start _ _ _ _ _) ?_ ?_ ?_ ?_
     rotate_left
     ·intro e;simp only[tv,nn,Nat.reduceAdd];exact rfl
     ·exact λe=>rfl
     ·intro i o il k qB hst e W hS hla
      rcases i with _|_|_|_|_|_|_|_|_|_|_|_|_|_|_|_|_|i<;>try cases il
      ·exact kv 21 rfl rfl rfl rfl rfl rfl trivial hS
      ·exact kv 22 rfl rfl rfl rfl rfl rfl trivial hS
      ·exact kv 23 rfl rfl (QZ rfl rfl hk4 HP.out) rfl rfl rfl trivial hS
      ·exact kv 24 rfl rfl rfl rfl rfl rfl trivial hS
      ·exact kv 25 rfl rfl (Ra rfl rfl rfl hk4 HP.out hlt Hq.out) rfl rfl rfl trivial hS
      ·exact kv 26 rfl rfl rfl rfl rfl rfl trivial hS
      ·exact kv 27 rfl rfl rfl rfl rfl rfl trivial hS
      ·exact kv 28 rfl rfl (by kernel_rfl) rfl rfl rfl trivial hS
      ·exact kv 29 rfl rfl (by kernel_rfl) rfl rfl rfl trivial hS
      ·exact kv 30 rfl rfl (EN HZ1.out rfl rfl rfl wI underlying241 szW) rfl rfl rfl trivial hS
      ·obtain rfl:k=0:=Nat.le_zero.1 (aQ hst 0 16 rfl (by kernel_rfl))
       exact kv 31 rfl rfl (QX rfl rfl ((hS.z.cell (p:=⟨_,_,none⟩) CU).trans c0) ((hS.z.cell (p:=⟨_,_,none⟩) CU).trans c1)) rfl rfl rfl trivial hS
      ·obtain rfl:k=0:=Nat.le_zero.1 (aQ hst 0 16 rfl (by kernel_rfl))
       refine bf rfl rfl rfl rfl (D4.below' hS.z) eH rfl ?_
       exact KL.at_ 32 rfl rfl rfl trivial hS
      ·obtain rfl:k=0:=Nat.le_zero.1 (aQ hst 0 16 rfl (by kernel_rfl))
       exact kc 33 160 rfl rfl rfl func160 (tO V Y 1 hv hY (Nat.le_refl 1) W) rfl rfl rfl (λ_ hW'=>trivial) λ_ hW'=>aI 0 e _ _ hS hW'
      ·exact kv 34 rfl rfl (by kernel_rfl) rfl rfl rfl trivial hS
      ·exact kv 35 rfl rfl (by kernel_rfl) rfl rfl rfl trivial hS
      ·exact kv 36 rfl rfl (EN HZQ1.out rfl rfl rfl aet underlying241 szW) rfl rfl rfl trivial hS
      ·obtain rfl:k=0:=Nat.le_zero.1 (aQ hst 0 16 rfl (by kernel_rfl))
       refine wy rfl rfl rfl rfl (by show Value.agg (ints .u64 (W2 (V^^^1*Y)))=_;rw[←hn]) (D1.below' hS.z) (by rw[lD];exact hzq) ?_
       exact KL.none rfl (trivial) (uN.mk hS (by rw[←hts];exact((D1.below' hS.z).dw zq _).dw (zq+1) _) ((iG.set _ _ _ _).trans (iG.set _ _ _ _)))
     ·intro em wm hS hla
      clear hla aI
      obtain⟨F1,hC⟩:=hS.done
      have F4:=hC.blk D4 (Ne.symm hg4)
      have bK:=hC.below aY (Nat.le_succ _) aY.size
      rw[←PH.out] at F1
      clear hS D1 D4 aY hC c0 c1 hts hn hnx
      go_wp2_with (fail)
      exact⟨⟨i+1,by omega,by go_num,F1,F4,bK⟩,by simp[intOf]<;>omega⟩
    ·obtain rfl:i=P:=by omega
     have hd2:decide ((i:Int)<(i:Int))=false:=by simp
     rw[←HP2.out] at D1
     clear hnx
     go_wp2_with (refine ag rfl 149 _ rfl g4 rfl D4 eH rfl ?_;(try simp only[nn,Nat.reduceAdd]))
     refine(ZK Y hY _).mono ?_
     rintro e w4 ⟨rfl,hb4⟩
     have F4':=D4.below' hb4
     have F4:=F4'.row (ints .u64 (W2 (up R1 Y)))
     have F1:=(D1.below' hb4).aM hg4 (ints .u64 (W2 (up R1 Y)))
     have dm:=az (bC aY hb4) hg4b (ints .u64 (W2 (up R1 Y)))
     clear D1 D4 aY hb4
     go_wp2_with (refine aa rfl 149 _ _ rfl g4 rfl rfl F4' rfl eH rfl ?_;(try simp only[nn,Nat.reduceAdd]))
     rw[←HU.out] at F1 F4 dm ⊢
     exact⟨⟨k+1,by omega,by go_num,F1,F4,dm⟩,by simp[intOf]<;>omega⟩
  ·obtain rfl:k=4:=by omega
   go_wp2_with (fail)
   go_ret
   exact⟨rfl,bH,by have:=C1;rw[←HX.out,←Yo.out] at this;exact this⟩
open Gf (W2 up down dI ja bV mul dot qK R1 D1)
theorem Aj (k n:Nat):∀j,n<2^(128-j)->j<=128->dI R1 j n=2^j*n
 | 0,_,_=>by simp[dI]
 | j+1,h,hj=>by
  have h1:n<2^(128-j):=Nat.lt_of_lt_of_le h (Nat.pow_le_pow_right (by omega) (by omega))
  show up R1 (dI R1 j n)=_
  rw[Aj k n j h1 (by omega)]
  have h2:2^j*n<2^127:=by
   have:2^j*n<2^j*2^(128-(j+1)):=Nat.mul_lt_mul_of_pos_left h (Nat.two_pow_pos j)
   rwa [←Nat.pow_add,show j+(128-(j+1))=127 by omega] at this
  unfold up
  rw[Nat.testBit_lt_two_pow h2,Nat.mod_eq_of_lt (by omega),Nat.pow_succ]
  simp
  rw[Nat.mul_comm (2^j) 2,Nat.mul_assoc]
theorem horner (X q n:Nat)(hX:X<2^128)(hq:q<2^124)(hn:n<16):dI R1 4 (mul R1 X q)^^^1*mul R1 X n=mul R1 X (16*q+n):=by
 have e:16*q+n=16*q^^^n:=by
  have h:=Nat.two_pow_add_eq_or_of_lt (i:=4) (b:=n) (by omega) q
  have h2:(2^4*q)^^^n=(2^4*q) ||| n:=by
   apply Nat.eq_of_testBit_eq
   intro i
   rw[Nat.testBit_xor,Nat.testBit_or,Nat.testBit_two_pow_mul]
   by_cases hi:i≥4
   ·have:n.testBit i=false:=Nat.testBit_lt_two_pow (Nat.lt_of_lt_of_le hn (show 2^4<=2^i from Nat.pow_le_pow_right (by omega) hi))
    simp[this]
   ·simp[hi]
  rw[show 16*q=2^4*q from rfl,h,h2]
 have h1:mul R1 X (16*q^^^n)=mul R1 X (16*q)^^^mul R1 X n:=Gf.fO R1 X (16*q) n
 have h2:dI R1 4 q=16*q:=Aj 0 q 4 hq (by omega)
 rw[e,h1,Nat.one_mul,←h2,Gf.qx R1 Gf.qb hX (by omega)]
theorem aaq {fF:List Nat}(hl:fF.length=16)(hb:∀x∈fF,x<256){i:Nat}(hi:i<16):num fF/256^(15-i)/16=16*(num fF/256^(15-i)/256)+fF.getD (15-i) 0/16:=by
 rw[AO hl hb (i:=15-i) (by omega)]
 generalize num fF/256^(15-i)=m
 omega
theorem aap {fF:List Nat}(hl:fF.length=16)(hb:∀x∈fF,x<256){i:Nat}(hi:i<16):num fF/256^(15-i)=16*(num fF/256^(15-i)/16)+fF.getD (15-i) 0%16:=by
 rw[AO hl hb (i:=15-i) (by omega)]
 generalize num fF/256^(15-i)=m
 omega
open Gf (W2 up down dI ja bV mul dot qK R1 D1)
theorem MZ (b:Nat)(hb:b<256):bits BinOp.and IntKind.u8 (b:Int) 15=((b%16:Nat):Int):=by
 have h:=u8_and_nat b 15 hb (by omega)
 rw[show b &&& 15=b%16 from Nat.and_two_pow_sub_one_eq_mod b 4] at h
 exact h
theorem Av {a:Act}{o:Oper}{W:World}{x:Operand}{g off v:Nat}(ho:o.op=.load 149 x)(hx:a.eval x=.pointer (some ⟨g,off,none⟩))
  (c0:W.cell? ⟨g,off,none⟩=some (.int .u64 ((v%18446744073709551616:Nat):Int))) (c1:W.cell? ⟨g,off+1,none⟩=some (.int .u64 ((v/18446744073709551616:Nat):Int))) :
  (execOp a.eval o).run prog W=.ok (.value (.agg (ints .u64 (W2 v)))) W:=by
 obtain⟨⟨d,h1,hd⟩,h2⟩:=eH
 have hr:W.rangeAt g off [Value.int .u64 ((v%18446744073709551616:Nat):Int),Value.int .u64 ((v/18446744073709551616:Nat):Int)]:=λj u hj=>by
  rcases j with _|_|j
  ·simp only[List.getElem?_cons_zero,Option.some.injEq] at hj;subst hj;exact c0
  ·simp only[List.getElem?_cons_succ,List.getElem?_cons_zero,Option.some.injEq,Nat.zero_add] at hj;subst hj;exact c1
  ·simp at hj
 unfold execOp
 simp only[ho,hx,Instr.loadAt,Instr.sureAddr,Sem.run_bind,Sem.run_pure,Result.andThen_ok,run_loadVar_mid W g off _ _ d hr h1 (by cases d<;>first|rfl|cases hd) h2]
 rfl
theorem Lg {a:Act}{o:Oper}{W:World}{x y:Operand}{g n:Nat}(ho:o.op=.indexAddr 241 x y)(hx:a.eval x=.pointer (some ⟨g,0,none⟩))(hy:a.eval y=.int .u8 (n:Int))(hn:n<16) :
  (execOp a.eval o).run prog W=.ok (.value (.pointer (some ⟨g,2*n,none⟩))) W:=by
 have h16:n=0∨n=1∨n=2∨n=3∨n=4∨n=5∨n=6∨n=7∨n=8∨n=9∨n=10∨n=11∨n=12∨n=13∨n=14∨n=15:=by omega
 unfold execOp
 simp only[ho,hx,hy]
 rcases h16 with rfl|rfl|rfl|rfl|rfl|rfl|rfl|rfl|rfl|rfl|rfl|rfl|rfl|rfl|rfl|rfl<;>first|rfl|(show _=_;kernel_rfl)
theorem xz {P:Program}{ops:Array Oper}{rest:List Oper}{o:Oper}{a:Act}{w:World}{Q:Exit->Act->World->Prop}{v:Value}{T:TypeId}{x y:Operand}(hgd:o.guard=none)(ho:o.op=.index T x y)(hr:(execOp a.eval o).run P w=.ok (.value v) w)
  (h:wpList P ops Q rest (a.put o.dst v) w):wpList P ops Q (o::rest) a w :=
 wpList_plain hgd λ_ hK=>by
  unfold Oper.wp
  rw[hr]
  simp only[Oper.upon]
  exact hK _ _ h
def Wp (q j:Nat):Nat:=if j=0 then q/256 else if j=1 then q/16 else q
theorem abC (g X:Nat)(fF:List Nat)(hX:X<2^128)(hl:fF.length=16)(hb:∀x∈fF,x<256)(w:World)(hT:aA w g 243 (ints .u64 (mq X 16))) :
  Calls prog 158 #[.pointer (some ⟨g,0,none⟩),.agg (ints .u8 fF)] w λe w'=>e=.returned (.agg (ints .u8 (elem (mul R1 X (num fF)))))/\Below w.heap.size w w':=by
 have hA:=vv hl hb
 have hg:=hT.lt
 have B0:=((aA.new w 96 (ints .u8 fF)).alloc (.cells (ints .u8 (zeros 16)) 96)).alloc (.cells (ints .u64 (zeros 2)) 149)
 have B1:=(aA.new (w.alloc (.cells (ints .u8 fF) 96)) 96 (ints .u8 (zeros 16))).alloc (.cells (ints .u64 (zeros 2)) 149)
 have B2:=aA.new ((w.alloc (.cells (ints .u8 fF) 96)).alloc (.cells (ints .u8 (zeros 16)) 96)) 149 (ints .u64 (zeros 2))
 rw[World.size_alloc] at B1
 rw[World.size_alloc,World.size_alloc] at B2
 simp only[Nat.add_assoc,Nat.reduceAdd] at B2
 have hbel:=((bN w (.cells (ints .u8 fF) 96)).alloc (by simp) (.cells (ints .u8 (zeros 16)) 96)).alloc (by simp;omega) (.cells (ints .u64 (zeros 2)) 149)
 have hz0:W2 (mul R1 X (num fF/256^16))=zeros 2:=by
  rw[Nat.div_eq_of_lt (show num fF<256^16 from hA),show mul R1 X 0=0 from (Gf.fO R1 X).zero];decide
 go_enter func158,ntmps158
 go_wp2_with ((first|(refine ae rfl 96 rfl fw ?_)|(refine ae rfl 149 rfl Ee ?_));(try simp only[nn,Nat.reduceAdd]))
 generalize (((w.alloc (.cells (ints .u8 fF) 96)).alloc (.cells (ints .u8 (zeros 16)) 96)).alloc (.cells (ints .u64 (zeros 2)) 149))=w1 at *
 go_loopw [13] (λt wr=>∃i:Nat,i<=16/\t=.int .i64 i/\aA wr w.heap.size 96 (ints .u8 fF)/\aA wr (w.heap.size+1) 96 (ints .u8 (zeros 16))/\aA wr (w.heap.size+2) 149 (ints .u64 (W2 (mul R1 X (num fF/256^(16-i)))))/\Below w.heap.size w wr) (λt wr=>16-(intOf t).toNat)
 case atStart=>exact⟨0,by omega,rfl,B0,B1,by rw[hz0];exact B2,hbel⟩
 case round =>
  rename_i hrel
  obtain⟨i,hi,rfl,C0,C1,C2,bH⟩:=hrel
  by_cases hlt:i<16
  ·have hi1:=aaq hl hb hlt
   have lo1:=aap hl hb hlt
   have hq0:num fF/256^(16-i)=num fF/256^(15-i)/256:=by
    rw[Nat.div_div_eq_div_mul,←Nat.pow_succ,show (15-i).succ=16-i by omega]
   have hq2:num fF/256^(15-i)<2^128:=Nat.lt_of_le_of_lt (Nat.div_le_self _ _) hA
   have hnext:16-(i+1)=15-i:=by omega
   rw[hq0] at C2
   have cb:=C0.int (i:=15-i) (by omega)
   have hv:=aC hb (by omega) (15-i)
   have hand:=MZ _ hv
   clear hz0 hq0
   generalize fF.getD (15-i) 0=b at *
   generalize hQ:num fF/256^(15-i)=q at *
   have HQ:=aR hQ
   clear hQ
   have hpd:((15:Int)-(i:Int))=((15-i:Nat):Int):=by omega
   have hp:15-i<16:=by omega
   have agK:=aR hnext
   clear hnext
   have Hpi:=aR (show 15-i=15-i from rfl)
   generalize hpp:15-i=p at *
   have hp1:(p:Int)<16:=by omega
   have hn1:b/16<16:=by omega
   have hn2:b%16<16:=by omega
   have hd1:((b:Int)/16)=((b/16:Nat):Int):=by omega
   generalize b/16=n1 at *
   generalize b%16=n2 at *
   have hk1:=horner X (q/256) n1 hX (by omega) hn1
   have hk2:=horner X (q/16) n2 hX (by omega) hn2
   rw[←hi1] at hk1
   rw[←lo1] at hk2
   have Hk1:=aR hk1
   have Hk2:=aR hk2
   clear hk1 hk2 hi1 lo1
   clear hpp Hpi
   have hd0:decide ((i:Int)<16)=true:=by simp;omega
   go_wp2
   go_loopw [25] (λt wr=>∃j:Nat,j<=2/\t=.int .i64 j/\aA wr w.heap.size 96 (ints .u8 fF)/\aA wr (w.heap.size+1) 96 (ints .u8 (zeros 16))/\aA wr (w.heap.size+2) 149 (ints .u64 (W2 (mul R1 X (Wp q j))))/\Below w.heap.size w wr) (λt wr=>2-(intOf t).toNat)
   case atStart=>exact⟨0,by omega,rfl,C0,C1,C2,bH⟩
   case round =>
    clear C0 C1 C2 bH
    obtain⟨j,hj,rfl,D0,D1',D2,aY⟩:=hrel
    have hj3:j=0∨j=1∨j=2:=by omega
    rcases hj3 with rfl|rfl|rfl
    ·rw[show Wp q 0=q/256 from rfl] at D2
     have hS:=Gf.mul_lt Gf.qb hX (q/256)
     have HK:=Hk1
     generalize mul R1 X (q/256)=S at *
     go_wp2_with (refine xz (v:=.int .u8 n1) rfl rfl ?h1 ?_;(case h1=>kernel_rfl);(try simp only[nn,Nat.reduceAdd]))
     go_loopw [28] (λt wr=>∃m:Nat,m<=4/\t=.int .i64 m/\aA wr w.heap.size 96 (ints .u8 fF)/\aA wr (w.heap.size+1) 96 (ints .u8 (zeros 16))/\aA wr (w.heap.size+2) 149 (ints .u64 (W2 (dI R1 m S)))/\Below w.heap.size w wr) (λt wr=>4-(intOf t).toNat)
     case atStart=>exact⟨0,by omega,rfl,D0,D1',D2,aY⟩
     case round =>
      obtain⟨m,hm,rfl,E0,E1,E2,bA⟩:=hrel
      have hY:=Gf.jE Gf.qb hS m
      by_cases hm4:m<4
      ·have Il:dI R1 (m+1) S=up R1 (dI R1 m S):=rfl
       have HU:=aR Il
       clear Il HK
       generalize dI R1 m S=Y at *
       go_wp2_with (refine ag rfl 149 _ rfl (w.heap.size+2) rfl E2 eH rfl ?_;(try simp only[nn,Nat.reduceAdd]))
       refine(ZK Y hY _).mono ?_
       rintro e w4 ⟨rfl,hb4⟩
       rw[←HU.out]
       have F0:=(E0.below' hb4).aM (show w.heap.size≠w.heap.size+2 by omega) (ints .u64 (W2 (dI R1 (m+1) S)))
       have F1:=(E1.below' hb4).aM (show w.heap.size+1≠w.heap.size+2 by omega) (ints .u64 (W2 (dI R1 (m+1) S)))
       have Ah:=E2.below' hb4
       have F2:=Ah.row (ints .u64 (W2 (dI R1 (m+1) S)))
       have dm:=az (bC bA hb4) (show w.heap.size<=w.heap.size+2 by omega) (ints .u64 (W2 (dI R1 (m+1) S)))
       clear E0 E1 E2 bA hb4
       go_wp2_with (refine aa rfl 149 _ _ rfl (w.heap.size+2) rfl rfl Ah rfl eH rfl ?_;(try simp only[nn,Nat.reduceAdd]))
       first|exact⟨⟨m+1,by omega,by go_num,F0,F1,F2,dm⟩,by simp[intOf]<;>omega⟩|exact⟨⟨_,_,_,_,_,⟨m+1,by omega,by go_num,F0,F1,F2,dm⟩,rfl⟩,by simp[intOf]<;>omega⟩
      ·obtain rfl:m=4:=by omega
       have T:=hT.below bA hg
       have lD:=jr X 16
       have hV:jL X 16 n1=mul R1 X n1:=by unfold jL;rw[if_pos (by omega)]
       have hVl:=Gf.mul_lt Gf.qb hX n1
       have c0:wr.cell? ⟨g,2*n1,none⟩=some (.int .u64 ((mul R1 X n1%18446744073709551616:Nat):Int)):=by
        have:=T.int (i:=2*n1) (by rw[lD];omega)
        rw[Cc X 16 (by omega),hV] at this
        exact this
       have c1:wr.cell? ⟨g,2*n1+1,none⟩=some (.int .u64 ((mul R1 X n1/18446744073709551616:Nat):Int)):=by
        have:=T.int (i:=2*n1+1) (by rw[lD];omega)
        rw[Ce X 16 (by omega),hV] at this
        exact this
       have CU:=T.lt
       clear hV T
       generalize mul R1 X n1=V at *
       generalize dI R1 4 S=Y at *
       go_wp2_with (fail)
       refine fD 8 (by kernel_rfl) (by kernel_rfl) (by kernel_rfl) (by kernel_rfl) (λD bP W=>∃u30 u31 u32 u33 u34 u35 u36 u37 u38 u39 u40 u41:Value,bP={ tmps:=#[.pointer (some ⟨g,0,none⟩),.agg (ints .u8 fF),undef,.pointer (some ⟨w.heap.size,0,none⟩),.pointer (some ⟨w.heap.size+1,0,none⟩),.pointer (some ⟨w.heap.size+2,0,none⟩),.int .i64 i,.int .u8 b,undef,.int .u8 n1,.pointer (some ⟨g,0,none⟩),.bool false,undef,.int .i64 i,.bool true,.int .i64 i,.int .i64 i,.int .i64 p,.pointer (some ⟨w.heap.size,p,none⟩),.int .u8 b,.int .u8 b,.int .u8 n1,.int .u8 b,.int .u8 n2,.agg #[.int .u8 n1,.int .u8 n2],.int .i64 ((0:Nat):Int),.bool true,.int .u8 n1,.int .i64 ((4:Nat):Int),.bool false,u30,u31,u32,u33,u34,u35,u36,u37,u38,u39,u40,u41,u42,undef,undef],defers:=[] }/\Below wr.heap.size wr W/\(D 0->u33=.agg (ints .u64 (W2 Y)))/\(D 1->u34=.pointer (some ⟨g,0,none⟩))/\(D 2->u35=.int .u8 n1)/\(D 3->u36=.pointer (some ⟨g,0,none⟩))/\(D 4->u37=.pointer (some ⟨g,0,none⟩))/\(D 5->u38=.pointer (some ⟨g,2*n1,none⟩))/\(D 6->u39=.agg (ints .u64 (W2 V)))/\(D 7->u40=.agg (ints .u64 (W2 (Y^^^1*V))))) ?_ ?_ ?_
       ·exact aL <| (⟨_,_,_,_,rfl,⟨rfl,rfl,rfl,Nat.le_refl _,λ_ _=>rfl⟩,nofun,nofun,nofun,nofun,nofun,nofun,nofun,nofun⟩)
       ·intro i o hilt hi D bP W hI hnD hall
        obtain⟨u30,u31,u32,u33,u34,u35,u36,u37,u38,u39,u40,u41,rfl,hW,f0,f1,f2,f3,f4,f5,f6,f7⟩:=hI
        rcases i with _|_|_|_|_|_|_|_|i<;>try cases hi
        ·refine bf rfl rfl rfl rfl (E2.below' hW) eH rfl ?_
         exact aL <| (⟨_,_,_,_,rfl,hW,λ_=>rfl,λh=>f1 (rl h),λh=>f2 (rl h),λh=>f3 (rl h),λh=>f4 (rl h),λh=>f5 (rl h),λh=>f6 (rl h),λh=>f7 (rl h)⟩)
        ·refine af (v:=.pointer (some ⟨g,0,none⟩)) rfl rfl rfl ?_
         exact aL <| (⟨_,_,_,_,rfl,hW,λh=>f0 (rl h),λ_=>rfl,λh=>f2 (rl h),λh=>f3 (rl h),λh=>f4 (rl h),λh=>f5 (rl h),λh=>f6 (rl h),λh=>f7 (rl h)⟩)
        ·refine af (v:=.int .u8 n1) rfl rfl rfl ?_
         exact aL <| (⟨_,_,_,_,rfl,hW,λh=>f0 (rl h),λh=>f1 (rl h),λ_=>rfl,λh=>f3 (rl h),λh=>f4 (rl h),λh=>f5 (rl h),λh=>f6 (rl h),λh=>f7 (rl h)⟩)
        ·obtain rfl:=f1 (aj hall 1 rfl)
         refine af (v:=.pointer (some ⟨g,0,none⟩)) rfl rfl (by kernel_rfl) ?_
         exact aL <| (⟨_,_,_,_,rfl,hW,λh=>f0 (rl h),λh=>f1 (rl h),λh=>f2 (rl h),λ_=>rfl,λh=>f4 (rl h),λh=>f5 (rl h),λh=>f6 (rl h),λh=>f7 (rl h)⟩)
        ·obtain rfl:=f3 (aj hall 3 rfl)
         refine af (v:=.pointer (some ⟨g,0,none⟩)) rfl rfl (by kernel_rfl) ?_
         exact aL <| (⟨_,_,_,_,rfl,hW,λh=>f0 (rl h),λh=>f1 (rl h),λh=>f2 (rl h),λh=>f3 (rl h),λ_=>rfl,λh=>f5 (rl h),λh=>f6 (rl h),λh=>f7 (rl h)⟩)
        ·obtain rfl:=f4 (aj hall 4 rfl)
         obtain rfl:=f2 (aj hall 2 rfl)
         refine af (v:=.pointer (some ⟨g,2*n1,none⟩)) rfl rfl (Lg rfl rfl rfl hn1) ?_
         exact aL <| (⟨_,_,_,_,rfl,hW,λh=>f0 (rl h),λh=>f1 (rl h),λh=>f2 (rl h),λh=>f3 (rl h),λh=>f4 (rl h),λ_=>rfl,λh=>f6 (rl h),λh=>f7 (rl h)⟩)
        ·obtain rfl:=f5 (aj hall 5 rfl)
         refine af (v:=.agg (ints .u64 (W2 V))) rfl rfl (Av rfl rfl ((hW.cell (p:=⟨_,_,none⟩) CU).trans c0) ((hW.cell (p:=⟨_,_,none⟩) CU).trans c1)) ?_
         exact aL <| (⟨_,_,_,_,rfl,hW,λh=>f0 (rl h),λh=>f1 (rl h),λh=>f2 (rl h),λh=>f3 (rl h),λh=>f4 (rl h),λh=>f5 (rl h),λ_=>rfl,λh=>f7 (rl h)⟩)
        ·obtain rfl:=f0 (aj hall 0 rfl)
         obtain rfl:=f6 (aj hall 6 rfl)
         refine aV 160 rfl rfl rfl func160 (by kernel_rfl) (by kernel_rfl) (tO Y V 1 hY hVl (Nat.le_refl 1) W) ?_
         intro W' hW'
         exact aL <| (⟨_,_,_,_,rfl,bC hW hW',λh=>f0 (rl h),λh=>f1 (rl h),λh=>f2 (rl h),λh=>f3 (rl h),λh=>f4 (rl h),λh=>f5 (rl h),λh=>f6 (rl h),λ_=>rfl⟩)
        ·exfalso;omega
       ·rintro D bP W ⟨u30,u31,u32,u33,u34,u35,u36,u37,u38,u39,u40,u41,rfl,hW,f0,f1,f2,f3,f4,f5,f6,f7⟩ hall
        obtain rfl:=f0 (hall 0 (by decide))
        obtain rfl:=f1 (hall 1 (by decide))
        obtain rfl:=f2 (hall 2 (by decide))
        obtain rfl:=f3 (hall 3 (by decide))
        obtain rfl:=f4 (hall 4 (by decide))
        obtain rfl:=f5 (hall 5 (by decide))
        obtain rfl:=f6 (hall 6 (by decide))
        obtain rfl:=f7 (hall 7 (by decide))
        clear f0 f1 f2 f3 f4 f5 f6 f7 hall
        rw[HK.out]
        have F0:=(E0.below' hW).aM (show w.heap.size≠w.heap.size+2 by omega) (ints .u64 (W2 (mul R1 X (q/16))))
        have F1:=(E1.below' hW).aM (show w.heap.size+1≠w.heap.size+2 by omega) (ints .u64 (W2 (mul R1 X (q/16))))
        have Ah:=E2.below' hW
        have F2:=Ah.row (ints .u64 (W2 (mul R1 X (q/16))))
        have dm:=az (bC bA hW) (show w.heap.size<=w.heap.size+2 by omega) (ints .u64 (W2 (mul R1 X (q/16))))
        refine bJ rfl rfl rfl rfl rfl Ah rfl eH rfl ?_
        clear E0 E1 E2 bA hW c0 c1
        generalize W.setRow (w.heap.size+2) (ints .u64 (W2 (mul R1 X (q/16))))=w9 at *
        go_wp2_with (fail)
        exact⟨⟨1,by omega,rfl,F0,F1,F2,dm⟩,by simp[intOf]⟩
    ·rw[show Wp q 1=q/16 from rfl] at D2
     have hS:=Gf.mul_lt Gf.qb hX (q/16)
     have HK:=Hk2
     generalize mul R1 X (q/16)=S at *
     go_wp2_with (refine xz (v:=.int .u8 n2) rfl rfl ?h1 ?_;(case h1=>kernel_rfl);(try simp only[nn,Nat.reduceAdd]))
     go_loopw [28] (λt wr=>∃m:Nat,m<=4/\t=.int .i64 m/\aA wr w.heap.size 96 (ints .u8 fF)/\aA wr (w.heap.size+1) 96 (ints .u8 (zeros 16))/\aA wr (w.heap.size+2) 149 (ints .u64 (W2 (dI R1 m S)))/\Below w.heap.size w wr) (λt wr=>4-(intOf t).toNat)
     case atStart=>exact⟨0,by omega,rfl,D0,D1',D2,aY⟩
     case round =>
      obtain⟨m,hm,rfl,E0,E1,E2,bA⟩:=hrel
      have hY:=Gf.jE Gf.qb hS m
      by_cases hm4:m<4
      ·have Il:dI R1 (m+1) S=up R1 (dI R1 m S):=rfl
       have HU:=aR Il
       clear Il HK
       generalize dI R1 m S=Y at *
       go_wp2_with (refine ag rfl 149 _ rfl (w.heap.size+2) rfl E2 eH rfl ?_;(try simp only[nn,Nat.reduceAdd]))
       refine(ZK Y hY _).mono ?_
       rintro e w4 ⟨rfl,hb4⟩
       rw[←HU.out]
       have F0:=(E0.below' hb4).aM (show w.heap.size≠w.heap.size+2 by omega) (ints .u64 (W2 (dI R1 (m+1) S)))
       have F1:=(E1.below' hb4).aM (show w.heap.size+1≠w.heap.size+2 by omega) (ints .u64 (W2 (dI R1 (m+1) S)))
       have Ah:=E2.below' hb4
       have F2:=Ah.row (ints .u64 (W2 (dI R1 (m+1) S)))
       have dm:=az (bC bA hb4) (show w.heap.size<=w.heap.size+2 by omega) (ints .u64 (W2 (dI R1 (m+1) S)))
       clear E0 E1 E2 bA hb4
       go_wp2_with (refine aa rfl 149 _ _ rfl (w.heap.size+2) rfl rfl Ah rfl eH rfl ?_;(try simp only[nn,Nat.reduceAdd]))
       first|exact⟨⟨m+1,by omega,by go_num,F0,F1,F2,dm⟩,by simp[intOf]<;>omega⟩|exact⟨⟨_,_,_,_,_,⟨m+1,by omega,by go_num,F0,F1,F2,dm⟩,rfl⟩,by simp[intOf]<;>omega⟩
      ·obtain rfl:m=4:=by omega
       have T:=hT.below bA hg
       have lD:=jr X 16
       have hV:jL X 16 n2=mul R1 X n2:=by unfold jL;rw[if_pos (by omega)]
       have hVl:=Gf.mul_lt Gf.qb hX n2
       have c0:wr.cell? ⟨g,2*n2,none⟩=some (.int .u64 ((mul R1 X n2%18446744073709551616:Nat):Int)):=by
        have:=T.int (i:=2*n2) (by rw[lD];omega)
        rw[Cc X 16 (by omega),hV] at this
        exact this
       have c1:wr.cell? ⟨g,2*n2+1,none⟩=some (.int .u64 ((mul R1 X n2/18446744073709551616:Nat):Int)):=by
        have:=T.int (i:=2*n2+1) (by rw[lD];omega)
        rw[Ce X 16 (by omega),hV] at this
        exact this
       have CU:=T.lt
       clear hV T
       generalize mul R1 X n2=V at *
       generalize dI R1 4 S=Y at *
       go_wp2_with (fail)
       refine fD 8 (by kernel_rfl) (by kernel_rfl) (by kernel_rfl) (by kernel_rfl) (λD bP W=>∃u30 u31 u32 u33 u34 u35 u36 u37 u38 u39 u40 u41:Value,bP={ tmps:=#[.pointer (some ⟨g,0,none⟩),.agg (ints .u8 fF),undef,.pointer (some ⟨w.heap.size,0,none⟩),.pointer (some ⟨w.heap.size+1,0,none⟩),.pointer (some ⟨w.heap.size+2,0,none⟩),.int .i64 i,.int .u8 b,undef,.int .u8 n2,.pointer (some ⟨g,0,none⟩),.bool false,undef,.int .i64 i,.bool true,.int .i64 i,.int .i64 i,.int .i64 p,.pointer (some ⟨w.heap.size,p,none⟩),.int .u8 b,.int .u8 b,.int .u8 n1,.int .u8 b,.int .u8 n2,.agg #[.int .u8 n1,.int .u8 n2],.int .i64 ((1:Nat):Int),.bool true,.int .u8 n2,.int .i64 ((4:Nat):Int),.bool false,u30,u31,u32,u33,u34,u35,u36,u37,u38,u39,u40,u41,u42,undef,undef],defers:=[] }/\Below wr.heap.size wr W/\(D 0->u33=.agg (ints .u64 (W2 Y)))/\(D 1->u34=.pointer (some ⟨g,0,none⟩))/\(D 2->u35=.int .u8 n2)/\(D 3->u36=.pointer (some ⟨g,0,none⟩))/\(D 4->u37=.pointer (some ⟨g,0,none⟩))/\(D 5->u38=.pointer (some ⟨g,2*n2,none⟩))/\(D 6->u39=.agg (ints .u64 (W2 V)))/\(D 7->u40=.agg (ints .u64 (W2 (Y^^^1*V))))) ?_ ?_ ?_
       ·exact aL <| (⟨_,_,_,_,rfl,⟨rfl,rfl,rfl,Nat.le_refl _,λ_ _=>rfl⟩,nofun,nofun,nofun,nofun,nofun,nofun,nofun,nofun⟩)
       ·intro i o hilt hi D bP W hI hnD hall
        obtain⟨u30,u31,u32,u33,u34,u35,u36,u37,u38,u39,u40,u41,rfl,hW,f0,f1,f2,f3,f4,f5,f6,f7⟩:=hI
        rcases i with _|_|_|_|_|_|_|_|i<;>try cases hi
        ·refine bf rfl rfl rfl rfl (E2.below' hW) eH rfl ?_
         exact aL <| (⟨_,_,_,_,rfl,hW,λ_=>rfl,λh=>f1 (rl h),λh=>f2 (rl h),λh=>f3 (rl h),λh=>f4 (rl h),λh=>f5 (rl h),λh=>f6 (rl h),λh=>f7 (rl h)⟩)
        ·refine af (v:=.pointer (some ⟨g,0,none⟩)) rfl rfl rfl ?_
         exact aL <| (⟨_,_,_,_,rfl,hW,λh=>f0 (rl h),λ_=>rfl,λh=>f2 (rl h),λh=>f3 (rl h),λh=>f4 (rl h),λh=>f5 (rl h),λh=>f6 (rl h),λh=>f7 (rl h)⟩)
        ·refine af (v:=.int .u8 n2) rfl rfl rfl ?_
         exact aL <| (⟨_,_,_,_,rfl,hW,λh=>f0 (rl h),λh=>f1 (rl h),λ_=>rfl,λh=>f3 (rl h),λh=>f4 (rl h),λh=>f5 (rl h),λh=>f6 (rl h),λh=>f7 (rl h)⟩)
        ·obtain rfl:=f1 (aj hall 1 rfl)
         refine af (v:=.pointer (some ⟨g,0,none⟩)) rfl rfl (by kernel_rfl) ?_
         exact aL <| (⟨_,_,_,_,rfl,hW,λh=>f0 (rl h),λh=>f1 (rl h),λh=>f2 (rl h),λ_=>rfl,λh=>f4 (rl h),λh=>f5 (rl h),λh=>f6 (rl h),λh=>f7 (rl h)⟩)
        ·obtain rfl:=f3 (aj hall 3 rfl)
         refine af (v:=.pointer (some ⟨g,0,none⟩)) rfl rfl (by kernel_rfl) ?_
         exact aL <| (⟨_,_,_,_,rfl,hW,λh=>f0 (rl h),λh=>f1 (rl h),λh=>f2 (rl h),λh=>f3 (rl h),λ_=>rfl,λh=>f5 (rl h),λh=>f6 (rl h),λh=>f7 (rl h)⟩)
        ·obtain rfl:=f4 (aj hall 4 rfl)
         obtain rfl:=f2 (aj hall 2 rfl)
         refine af (v:=.pointer (some ⟨g,2*n2,none⟩)) rfl rfl (Lg rfl rfl rfl hn2) ?_
         exact aL <| (⟨_,_,_,_,rfl,hW,λh=>f0 (rl h),λh=>f1 (rl h),λh=>f2 (rl h),λh=>f3 (rl h),λh=>f4 (rl h),λ_=>rfl,λh=>f6 (rl h),λh=>f7 (rl h)⟩)
        ·obtain rfl:=f5 (aj hall 5 rfl)
         refine af (v:=.agg (ints .u64 (W2 V))) rfl rfl (Av rfl rfl ((hW.cell (p:=⟨_,_,none⟩) CU).trans c0) ((hW.cell (p:=⟨_,_,none⟩) CU).trans c1)) ?_
         exact aL <| (⟨_,_,_,_,rfl,hW,λh=>f0 (rl h),λh=>f1 (rl h),λh=>f2 (rl h),λh=>f3 (rl h),λh=>f4 (rl h),λh=>f5 (rl h),λ_=>rfl,λh=>f7 (rl h)⟩)
        ·obtain rfl:=f0 (aj hall 0 rfl)
         obtain rfl:=f6 (aj hall 6 rfl)
         refine aV 160 rfl rfl rfl func160 (by kernel_rfl) (by kernel_rfl) (tO Y V 1 hY hVl (Nat.le_refl 1) W) ?_
         intro W' hW'
         exact aL <| (⟨_,_,_,_,rfl,bC hW hW',λh=>f0 (rl h),λh=>f1 (rl h),λh=>f2 (rl h),λh=>f3 (rl h),λh=>f4 (rl h),λh=>f5 (rl h),λh=>f6 (rl h),λ_=>rfl⟩)
        ·exfalso;omega
       ·rintro D bP W ⟨u30,u31,u32,u33,u34,u35,u36,u37,u38,u39,u40,u41,rfl,hW,f0,f1,f2,f3,f4,f5,f6,f7⟩ hall
        obtain rfl:=f0 (hall 0 (by decide))
        obtain rfl:=f1 (hall 1 (by decide))
        obtain rfl:=f2 (hall 2 (by decide))
        obtain rfl:=f3 (hall 3 (by decide))
        obtain rfl:=f4 (hall 4 (by decide))
        obtain rfl:=f5 (hall 5 (by decide))
        obtain rfl:=f6 (hall 6 (by decide))
        obtain rfl:=f7 (hall 7 (by decide))
        clear f0 f1 f2 f3 f4 f5 f6 f7 hall
        rw[HK.out]
        have F0:=(E0.below' hW).aM (show w.heap.size≠w.heap.size+2 by omega) (ints .u64 (W2 (mul R1 X (q))))
        have F1:=(E1.below' hW).aM (show w.heap.size+1≠w.heap.size+2 by omega) (ints .u64 (W2 (mul R1 X (q))))
        have Ah:=E2.below' hW
        have F2:=Ah.row (ints .u64 (W2 (mul R1 X (q))))
        have dm:=az (bC bA hW) (show w.heap.size<=w.heap.size+2 by omega) (ints .u64 (W2 (mul R1 X (q))))
        refine bJ rfl rfl rfl rfl rfl Ah rfl eH rfl ?_
        clear E0 E1 E2 bA hW c0 c1
        generalize W.setRow (w.heap.size+2) (ints .u64 (W2 (mul R1 X (q))))=w9 at *
        go_wp2_with (fail)
        exact⟨⟨2,by omega,rfl,F0,F1,F2,dm⟩,by simp[intOf]⟩
    ·rw[show Wp q 2=q from rfl] at D2
     go_wp2_with (fail)
     exact⟨⟨i+1,by omega,by go_num,D0,D1',by rw[agK.out,HQ.out];exact D2,aY⟩,by simp[intOf]<;>omega⟩
  ·obtain rfl:i=16:=by omega
   rw[show num fF/256^(16-16)=num fF by rw[Nat.sub_self,Nat.pow_zero,Nat.div_one]] at C2
   have hM:=Gf.mul_lt Gf.qb hX (num fF)
   have hel:=jB (mul R1 X (num fF))
   go_wp2_with (refine ag rfl 149 _ rfl (w.heap.size+2) rfl C2 eH rfl ?_;(try simp only[nn,Nat.reduceAdd]))
   refine(Uo _ hM _).mono ?_
   rintro e w4 ⟨rfl,hb4⟩
   have E1:=C1.below' hb4
   have bA:=bC bH hb4
   go_wp2_with (refine aa rfl 96 _ _ rfl (w.heap.size+1) rfl rfl E1 (ah _ _) aD hel ?_;(try simp only[nn,Nat.reduceAdd]))
   exact aO rfl rfl (E1.row _) aD hel ⟨rfl,az bA (by omega) _⟩
open Gf (up dI bV mul dot R1 D1)
def Ue (h x:List Nat):List Nat:=elem (dot R1 D1 (num h) (num x))
theorem Ud (h x:List Nat):(Ue h x).length=16:=jB _
theorem XG (h x:List Nat):∀y∈Ue h x,y<256:=qD _
def Ih (h v bs:List Nat):Nat->List Nat
 | 0=>v
 | n+1=>Ue h (eT (Ih h v bs n) (blk bs n))
def Ep (h bs:List Nat):List Nat:=Ih h (zeros 16) (dC bs) ((dC bs).length/16)
theorem tQ {h v bs:List Nat}(hv:v.length=16):∀n,(Ih h v bs n).length=16
 | 0=>hv
 | n+1=>Ud _ _
theorem CJ {h v bs:List Nat}(hv:∀x∈v,x<256):∀n,∀x∈Ih h v bs n,x<256
 | 0=>hv
 | n+1=>XG _ _
def lW (n:Nat)(whole:Bool):List Nat:=cZ 256 16 (16*n+if whole then 2 else 3)
theorem yj (n:Nat)(w:Bool):(lW n w).length=16:=bn _ _ _
theorem WJ (n:Nat)(w:Bool):∀x∈lW n w,x<256:=dU (by omega) _ _
def jF (t m:List Nat):List Nat:=lW t.length (decide (m.length%16=0))++dC t++Fy m
open Gf (W2 up dI bV mul R1 D1 dot)
def ZY (gt:Nat)(v:List Nat):Array Value:=([Value.pointer (some ⟨gt,0,none⟩)]++vals .u8 v++[]).toArray
def aca (w:World)(g gt:Nat)(h v:List Nat):Prop:=aA w g 240 (ZY gt v)/\aA w gt 243 (ints .u64 (mq (dot R1 D1 (num h) 1) 16))
theorem QI {h x:List Nat}(hh:h.length=16)(hb:∀z∈h,z<256)(hx:x.length=16)(hxb:∀z∈x,z<256):elem (mul R1 (dot R1 D1 (num h) 1) (num x))=Ue h x:=by
 have nh:=vv hh hb
 have nx:=vv hx hxb
 unfold Ue
 congr 1
 rw[Gf.Uc nh nx]
 unfold dot
 rw[Gf.mul_one,Gf.vV Gf.AJ nh nx,Gf.mul_comm R1 nh nx]
theorem Wu (hs:List Nat)(hl:hs.length=16)(hb:∀x∈hs,x<256)(w:World) :
  Calls prog 152 #[.agg (ints .u8 hs)] w λe w'=>∃g gt,e=.returned (.pointer (some ⟨g,0,none⟩))/\w.heap.size<=g/\w.heap.size<=gt/\aca w' g gt hs (zeros 16)/\Below w.heap.size w w':=by
 have B0:=aA.new w 96 (ints .u8 hs)
 have hbel:=bN w (.cells (ints .u8 hs) 96)
 go_enter func152,ntmps152
 go_wp2_with (refine ag rfl 96 _ rfl w.heap.size rfl B0 aD hl ?_;(try simp only[nn,Nat.reduceAdd]))
 generalize (w.alloc (.cells (ints .u8 hs) 96))=w0 at *
 have hl0:=B0.lt
 refine(aat hs hl hb _).mono ?_
 rintro e w1 ⟨rfl,hb1,T⟩
 have aK:=bC hbel hb1
 have hs1:=hb1.size
 have hgt0:w.heap.size<=w0.heap.size+1:=by omega
 generalize w0.heap.size+1=gt at *
 go_wp2
 have S:=aA.new w1 240 (ZY gt (zeros 16))
 go_ret
 exact⟨_,gt,rfl,aK.size,hgt0,⟨S,T.alloc _⟩,aK.alloc aK.size _⟩
theorem adp {w:World}{g t gt:Nat}{v:List Nat}(h:aA w g t (ZY gt v)):Sl w (some ⟨g,1,none⟩) .u8 v:=λhn=>by
 refine⟨g,1,rfl,h.lt,λi hi=>?_⟩
 refine h.part (o:=1) rfl i _ ?_
 unfold vals
 rw[List.getElem?_map,getD_lt hi];rfl
theorem ZW {w:World}{g t gt:Nat}{v:List Nat}(h:aA w g t (ZY gt v)):w.cell? ⟨g,0,none⟩=some (.pointer (some ⟨gt,0,none⟩)):=by rw[h.cell];rfl
theorem Uy {bs:List Nat}{i j:Nat}(hj:j<16):(blk bs i).getD j 0=(bs.drop (16*i)).getD j 0:=by
 unfold blk
 rw[List.getD_eq_getElem?_getD,List.getD_eq_getElem?_getD,List.getElem?_take,if_pos hj]
theorem Ql (v bs:List Nat)(i:Nat):dS v (bs.drop (16*i)) 16=eT v (blk bs i):=by
 refine eP (dJ _ _ _) (cK _ _) λj hj=>?_
 rw[jf _ _ hj,gD _ _ hj,Uy hj]
theorem GR {bs:List Nat}(h:bs.length=16):aU bs=bs:=by
 refine eP (bG _) h λi hi=>?_
 unfold aU
 rw[List.getD_eq_getElem?_getD,List.getElem?_map,List.getElem?_range hi];rfl
theorem Pp (a:Option Addr)(c:Nat)(bs:List Nat)(hl:bs.length=16)(w:World)(hs:Sl w a .u8 bs) :
  Calls prog 38 #[.slice a 16 c] w λe w'=>e=.returned (.agg (ints .u8 bs))/\Below w.heap.size w w':=by
 have h:=fB a c bs w hs
 rw[hl,GR hl] at h
 exact h
def lenOf:Value->Nat
 | .slice _ n _=>n
 | _=>0
theorem Nr (g gt:Nat)(hs v bs:List Nat)(hl:hs.length=16)(hb:∀x∈hs,x<256)(hv:v.length=16)(hvb:∀x∈v,x<256)(hlen:bs.length<2^31)(hbb:∀x∈bs,x<256)(ad:Option Addr)(c:Nat)(w:World)(hS:aca w g gt hs v)(hs0:Sl w ad .u8 bs) :
  Calls prog 153 #[.pointer (some ⟨g,0,none⟩),.slice ad bs.length c] w λe w'=>e=.returned (.tuple #[])/\aca w' g gt hs (Ih hs v (dC bs) ((dC bs).length/16))/\Ch g w w':=by
 obtain⟨S0,T0⟩:=hS
 have hpm:=Fe bs
 have hpl:=mI bs
 have hpb:=qo hbb
 have hX:=Gf.Ub Gf.AJ (vv hl hb) 1
 have hgl:=S0.lt
 have hgt:gt≠g:=T0.LJ S0 (by decide)
 have hP0:=oZ ad c bs (by omega) w hs0
 generalize dC bs=pb at *
 have hL32:pb.length<2^32:=by omega
 clear hpl
 obtain⟨L,HL⟩:=bD (pb.length)
 rw[HL.out] at hP0 hpm hL32
 obtain⟨K,HK⟩:∃K,Hid (L=16*K):=⟨L/16,aR (by omega)⟩
 obtain rfl:=HK.out
 clear HK
 go_enter func153,ntmps153
 obtain⟨J,HJ,HI0⟩:=jmp (λaJ w'=>∃(U:Nat->Value) (i:Nat) (zm:Option Addr),aJ={ tmps:=#[.pointer (some ⟨g,0,none⟩),.slice zm (16*K-16*i) (16*K-16*i),U 2,U 3,U 4,U 5,U 6,U 7,U 8,U 9,U 10,U 11,U 12,U 13,U 14,U 15,U 16,U 17,U 18,U 19,U 20,U 21,U 22,U 23,U 24,U 25,U 26,U 27],defers:=[] }/\i<=K/\(i<K->zm=some ⟨w.heap.size,16*i,none⟩)/\aA w' g 240 (ZY gt (Ih hs v pb i))/\aA w' gt 243 (ints .u64 (mq (dot R1 D1 (num hs) 1) 16))/\aA w' w.heap.size 5 (ints .u8 pb)/\Ch g w w')
 have HI:Hid (∀(T:Array Value) (w':World),(∃(i:Nat) (zm:Option Addr),T=((λ(U:Nat->Value)=>#[.pointer (some ⟨g,0,none⟩),.slice zm (16*K-16*i) (16*K-16*i),U 2,U 3,U 4,U 5,U 6,U 7,U 8,U 9,U 10,U 11,U 12,U 13,U 14,U 15,U 16,U 17,U 18,U 19,U 20,U 21,U 22,U 23,U 24,U 25,U 26,U 27]) λi=>T.getD i undef)/\i<=K/\(i<K->zm=some ⟨w.heap.size,16*i,none⟩)/\aA w' g 240 (ZY gt (Ih hs v pb i))/\aA w' gt 243 (ints .u64 (mq (dot R1 D1 (num hs) 1) 16))/\aA w' w.heap.size 5 (ints .u8 pb)/\Ch g w w')->J { tmps:=T,defers:=[] } w') :=
  aR λT w' ⟨i,zm,hJ,rJ⟩=>HI0.out _ _ ⟨λi=>T.getD i undef,i,zm,congrArg (λT=>({ tmps:=T,defers:=[] }:Act)) hJ,rJ⟩
 clear HI0
 obtain⟨μ,Hμ⟩:∃μ:Act->World->Nat,Hid (∀a w',μ a w'=lenOf (a.tmps.getD 1 undef)):=⟨_,aR λ_ _=>rfl⟩
 refine dF 0 J μ (by simp only[findLabel];rfl) ?_ ?_
 ·intro a wr hj
  obtain⟨U,i,zm,rfl,hi,had,S1,T1,P1,hch⟩:=HJ.out _ _ hj
  clear hj
  have hμ:=Hμ.out
  clear Hμ
  by_cases hlt:i<K
  ·obtain rfl:=had hlt
   clear had
   have hp1:=P1.lt
   have hne:decide (((16*K-16*i:Nat):Int)=0)=false:=by simp;omega
   have hvl:=tQ (h:=hs) (bs:=pb) hv i
   have WT:=CJ (h:=hs) (bs:=pb) hvb i
   have aep:(pb.drop (16*i)).length=16*K-16*i:=by rw[List.length_drop,HL.out]
   have SB:Sl wr (some ⟨w.heap.size,16*i,none⟩) .u8 (pb.drop (16*i)):=by
    have:=(Sl.blk P1).drop (16*i)
    rwa [Nat.zero_add] at this
   have LX:Hid (∀W,Below wr.heap.size wr W->Calls prog 42 #[.slice (some ⟨g,1,none⟩) 16 16,.slice (some ⟨w.heap.size,16*i,none⟩) (16*K-16*i) (16*K-16*i)] W λe w'=>e=.returned (.slice (some ⟨W.heap.size,0,none⟩) 16 16)/\Below W.heap.size W w'/\aA w' W.heap.size 5 (ints .u8 (eT (Ih hs v pb i) (blk pb i)))):=aR λW hW=>by
    have h:=Qk (some ⟨g,1,none⟩) (some ⟨w.heap.size,16*i,none⟩) 16 (16*K-16*i) 16 (Ih hs v pb i) (pb.drop (16*i)) (by omega) hvl (by omega) (by omega) WT (λx hx=>hpb x (List.mem_of_mem_drop hx)) W ((adp S1).below hW) (SB.below hW)
    rw[aep,Ql] at h
    exact h
   have hbl:=MU (bs:=pb) (i:=i) (by rw[HL.out];omega)
   have LD:Hid (∀W,Below wr.heap.size wr W->Calls prog 158 #[.pointer (some ⟨gt,0,none⟩),.agg (ints .u8 (eT (Ih hs v pb i) (blk pb i)))] W λe w'=>e=.returned (.agg (ints .u8 (Ih hs v pb (i+1))))/\Below W.heap.size W w'):=aR λW hW=>by
    have h:=abC gt (dot R1 D1 (num hs) 1) (eT (Ih hs v pb i) (blk pb i)) hX (cK _ _) (jJ WT (Ux hpb i)) W (T1.below' hW)
    rw[QI hl hb (cK _ _) (jJ WT (Ux hpb i))] at h
    exact h
   have cp:=ZW S1
   have hgr:=S1.lt
   have aaH:=tQ (h:=hs) (bs:=pb) hv (i+1)
   have Hm:=aR (show 16*K-16*(i+1)=16*K-16*i-16 by omega)
   have hm0:16<=16*K-16*i:=by omega
   have hm1:16*K-16*i<2^32:=by omega
   have zo:Hid (16*K-16*i=16↔i+1=K):=aR (by omega)
   clear aep WT hbl
   obtain⟨m,HM⟩:=bD (16*K-16*i)
   rw[HM.out] at hne LX Hm hm0 hm1 zo ⊢
   go_wp2_with fail
   refine fD 15 (by kernel_rfl) (by kernel_rfl) (by kernel_rfl) (by kernel_rfl) (λD bP W=>∃u2 u3 u4 u5 u6 u7 u8 u9 u10 u11 u12 u13 u14 u15 u16 u17 u18 u19 u20 u21 u22 u23 u24 u25 u26 u27:Value,bP={ tmps:=#[.pointer (some ⟨g,0,none⟩),.slice (some ⟨w.heap.size,16*i,none⟩) m m,u2,u3,u4,u5,u6,u7,u8,u9,u10,u11,u12,u13,u14,u15,u16,u17,u18,u19,u20,u21,u22,u23,u24,u25,u26,u27],defers:=[] }/\Below wr.heap.size wr W/\(D 0->u11=.pointer (some ⟨g,0,none⟩))/\(D 1->u12=.pointer (some ⟨g,0,none⟩))/\(D 2->u13=.pointer (some ⟨g,0,none⟩))/\(D 3->u14=.pointer (some ⟨g,0,none⟩))/\(D 4->u15=.pointer (some ⟨gt,0,none⟩))/\(D 5->u16=.pointer (some ⟨g,0,none⟩))/\(D 6->u17=.pointer (some ⟨g,0,none⟩))/\(D 7->u18=.pointer (some ⟨g,1,none⟩))/\(D 8->u19=.slice (some ⟨g,1,none⟩) 16 16)/\(D 9->u20=.slice (some ⟨w.heap.size,16*i,none⟩) m m)/\(D 10->KG W wr.heap.size u21 5 16 .u8 (eT (Ih hs v pb i) (blk pb i)))/\(D 11->u22=.agg (ints .u8 (eT (Ih hs v pb i) (blk pb i))))/\(D 12->u23=.agg (ints .u8 (Ih hs v pb (i+1))))/\(D 13->u24=.pointer (some ⟨g,0,none⟩))/\(D 14->u25=.pointer (some ⟨g,1,none⟩))) ?_ ?_ ?_
   ·exact aL <| aL <| aL <| (⟨_,_,rfl,⟨rfl,rfl,rfl,Nat.le_refl _,λ_ _=>rfl⟩,nofun,nofun,nofun,nofun,nofun,nofun,nofun,nofun,nofun,nofun,nofun,nofun,nofun,nofun,nofun⟩)
   ·intro i o hilt hi D bP W hI hnD hall
    obtain⟨u2,u3,u4,u5,u6,u7,u8,u9,u10,u11,u12,u13,u14,u15,u16,u17,u18,u19,u20,u21,u22,u23,u24,u25,u26,u27,rfl,hW,f0,f1,f2,f3,f4,f5,f6,f7,f8,f9,f10,f11,f12,f13,f14⟩:=hI
    rcases i with _|_|_|_|_|_|_|_|_|_|_|_|_|_|_|i<;>try cases hi
    ·refine af (v:=.pointer (some ⟨g,0,none⟩)) rfl rfl rfl ?_
     exact aL <| aL <| aL <| (⟨_,_,rfl,hW,λ_=>rfl,λh=>f1 (rl h),λh=>f2 (rl h),λh=>f3 (rl h),λh=>f4 (rl h),λh=>f5 (rl h),λh=>f6 (rl h),λh=>f7 (rl h),λh=>f8 (rl h),λh=>f9 (rl h),λh=>f10 (rl h),λh=>f11 (rl h),λh=>f12 (rl h),λh=>f13 (rl h),λh=>f14 (rl h)⟩)
    ·refine af (v:=.pointer (some ⟨g,0,none⟩)) rfl rfl rfl ?_
     exact aL <| aL <| aL <| (⟨_,_,rfl,hW,λh=>f0 (rl h),λ_=>rfl,λh=>f2 (rl h),λh=>f3 (rl h),λh=>f4 (rl h),λh=>f5 (rl h),λh=>f6 (rl h),λh=>f7 (rl h),λh=>f8 (rl h),λh=>f9 (rl h),λh=>f10 (rl h),λh=>f11 (rl h),λh=>f12 (rl h),λh=>f13 (rl h),λh=>f14 (rl h)⟩)
    ·obtain rfl:=f1 (aj hall 1 rfl)
     refine af (v:=.pointer (some ⟨g,0,none⟩)) rfl rfl (by kernel_rfl) ?_
     exact aL <| aL <| aL <| (⟨_,_,rfl,hW,λh=>f0 (rl h),λh=>f1 (rl h),λ_=>rfl,λh=>f3 (rl h),λh=>f4 (rl h),λh=>f5 (rl h),λh=>f6 (rl h),λh=>f7 (rl h),λh=>f8 (rl h),λh=>f9 (rl h),λh=>f10 (rl h),λh=>f11 (rl h),λh=>f12 (rl h),λh=>f13 (rl h),λh=>f14 (rl h)⟩)
    ·obtain rfl:=f2 (aj hall 2 rfl)
     refine af (v:=.pointer (some ⟨g,0,none⟩)) rfl rfl (by kernel_rfl) ?_
     exact aL <| aL <| aL <| (⟨_,_,rfl,hW,λh=>f0 (rl h),λh=>f1 (rl h),λh=>f2 (rl h),λ_=>rfl,λh=>f4 (rl h),λh=>f5 (rl h),λh=>f6 (rl h),λh=>f7 (rl h),λh=>f8 (rl h),λh=>f9 (rl h),λh=>f10 (rl h),λh=>f11 (rl h),λh=>f12 (rl h),λh=>f13 (rl h),λh=>f14 (rl h)⟩)
    ·obtain rfl:=f3 (aj hall 3 rfl)
     refine af (v:=.pointer (some ⟨gt,0,none⟩)) rfl rfl (vg rfl rfl underlying237 ((hW.cell (p:=⟨_,_,none⟩) hgr).trans cp)) ?_
     exact aL <| aL <| aL <| (⟨_,_,rfl,hW,λh=>f0 (rl h),λh=>f1 (rl h),λh=>f2 (rl h),λh=>f3 (rl h),λ_=>rfl,λh=>f5 (rl h),λh=>f6 (rl h),λh=>f7 (rl h),λh=>f8 (rl h),λh=>f9 (rl h),λh=>f10 (rl h),λh=>f11 (rl h),λh=>f12 (rl h),λh=>f13 (rl h),λh=>f14 (rl h)⟩)
    ·refine af (v:=.pointer (some ⟨g,0,none⟩)) rfl rfl rfl ?_
     exact aL <| aL <| aL <| (⟨_,_,rfl,hW,λh=>f0 (rl h),λh=>f1 (rl h),λh=>f2 (rl h),λh=>f3 (rl h),λh=>f4 (rl h),λ_=>rfl,λh=>f6 (rl h),λh=>f7 (rl h),λh=>f8 (rl h),λh=>f9 (rl h),λh=>f10 (rl h),λh=>f11 (rl h),λh=>f12 (rl h),λh=>f13 (rl h),λh=>f14 (rl h)⟩)
    ·obtain rfl:=f5 (aj hall 5 rfl)
     refine af (v:=.pointer (some ⟨g,0,none⟩)) rfl rfl (by kernel_rfl) ?_
     exact aL <| aL <| aL <| (⟨_,_,rfl,hW,λh=>f0 (rl h),λh=>f1 (rl h),λh=>f2 (rl h),λh=>f3 (rl h),λh=>f4 (rl h),λh=>f5 (rl h),λ_=>rfl,λh=>f7 (rl h),λh=>f8 (rl h),λh=>f9 (rl h),λh=>f10 (rl h),λh=>f11 (rl h),λh=>f12 (rl h),λh=>f13 (rl h),λh=>f14 (rl h)⟩)
    ·obtain rfl:=f6 (aj hall 6 rfl)
     refine af (v:=.pointer (some ⟨g,1,none⟩)) rfl rfl (by kernel_rfl) ?_
     exact aL <| aL <| aL <| (⟨_,_,rfl,hW,λh=>f0 (rl h),λh=>f1 (rl h),λh=>f2 (rl h),λh=>f3 (rl h),λh=>f4 (rl h),λh=>f5 (rl h),λh=>f6 (rl h),λ_=>rfl,λh=>f8 (rl h),λh=>f9 (rl h),λh=>f10 (rl h),λh=>f11 (rl h),λh=>f12 (rl h),λh=>f13 (rl h),λh=>f14 (rl h)⟩)
    ·obtain rfl:=f7 (aj hall 7 rfl)
     refine af (v:=.slice (some ⟨g,1,none⟩) 16 16) rfl rfl (by kernel_rfl) ?_
     exact aL <| aL <| aL <| (⟨_,_,rfl,hW,λh=>f0 (rl h),λh=>f1 (rl h),λh=>f2 (rl h),λh=>f3 (rl h),λh=>f4 (rl h),λh=>f5 (rl h),λh=>f6 (rl h),λh=>f7 (rl h),λ_=>rfl,λh=>f9 (rl h),λh=>f10 (rl h),λh=>f11 (rl h),λh=>f12 (rl h),λh=>f13 (rl h),λh=>f14 (rl h)⟩)
    ·refine af (v:=.slice (some ⟨w.heap.size,16*i,none⟩) m m) rfl rfl rfl ?_
     exact aL <| aL <| aL <| (⟨_,_,rfl,hW,λh=>f0 (rl h),λh=>f1 (rl h),λh=>f2 (rl h),λh=>f3 (rl h),λh=>f4 (rl h),λh=>f5 (rl h),λh=>f6 (rl h),λh=>f7 (rl h),λh=>f8 (rl h),λ_=>rfl,λh=>f10 (rl h),λh=>f11 (rl h),λh=>f12 (rl h),λh=>f13 (rl h),λh=>f14 (rl h)⟩)
    ·obtain rfl:=f8 (aj hall 8 rfl)
     obtain rfl:=f9 (aj hall 9 rfl)
     refine iE 42 rfl rfl rfl func42 (by kernel_rfl) (by kernel_rfl) (LX.out W hW) ?_
     intro W' hW' hT
     exact aL <| aL <| aL <| (⟨_,_,rfl,bC hW hW',λh=>f0 (rl h),λh=>f1 (rl h),λh=>f2 (rl h),λh=>f3 (rl h),λh=>f4 (rl h),λh=>f5 (rl h),λh=>f6 (rl h),λh=>f7 (rl h),λh=>f8 (rl h),λh=>f9 (rl h),(λ_=>⟨_,rfl,by have:=hW.size;omega,cK _ _,hT⟩),λh=>f11 (rl h),λh=>f12 (rl h),λh=>f13 (rl h),λh=>f14 (rl h)⟩)
    ·obtain⟨g_,rfl,Td,Tc,Ea⟩:=f10 (aj hall 10 rfl)
     refine aV 38 rfl rfl rfl func38 (by kernel_rfl) (by kernel_rfl) (Pp (some ⟨g_,0,none⟩) 16 _ (cK _ _) W (Sl.blk Ea)) ?_
     intro W' hW'
     have q10:KG W wr.heap.size (.slice (some ⟨g_,0,none⟩) _ _) _ _ _ _:=⟨g_,rfl,Td,Tc,Ea⟩
     exact aL <| aL <| aL <| (⟨_,_,rfl,bC hW hW',λh=>f0 (rl h),λh=>f1 (rl h),λh=>f2 (rl h),λh=>f3 (rl h),λh=>f4 (rl h),λh=>f5 (rl h),λh=>f6 (rl h),λh=>f7 (rl h),λh=>f8 (rl h),λh=>f9 (rl h),(λ_=>q10.below hW'),λ_=>rfl,λh=>f12 (rl h),λh=>f13 (rl h),λh=>f14 (rl h)⟩)
    ·obtain rfl:=f4 (aj hall 4 rfl)
     obtain rfl:=f11 (aj hall 11 rfl)
     refine aV 158 rfl rfl rfl func158 (by kernel_rfl) (by kernel_rfl) (LD.out W hW) ?_
     intro W' hW'
     exact aL <| aL <| aL <| (⟨_,_,rfl,bC hW hW',λh=>f0 (rl h),λh=>f1 (rl h),λh=>f2 (rl h),λh=>f3 (rl h),λh=>f4 (rl h),λh=>f5 (rl h),λh=>f6 (rl h),λh=>f7 (rl h),λh=>f8 (rl h),λh=>f9 (rl h),(λh=>(f10 (rl h)).below hW'),λh=>f11 (rl h),λ_=>rfl,λh=>f13 (rl h),λh=>f14 (rl h)⟩)
    ·obtain rfl:=f0 (aj hall 0 rfl)
     refine af (v:=.pointer (some ⟨g,0,none⟩)) rfl rfl (by kernel_rfl) ?_
     exact aL <| aL <| aL <| (⟨_,_,rfl,hW,λh=>f0 (rl h),λh=>f1 (rl h),λh=>f2 (rl h),λh=>f3 (rl h),λh=>f4 (rl h),λh=>f5 (rl h),λh=>f6 (rl h),λh=>f7 (rl h),λh=>f8 (rl h),λh=>f9 (rl h),λh=>f10 (rl h),λh=>f11 (rl h),λh=>f12 (rl h),λ_=>rfl,λh=>f14 (rl h)⟩)
    ·obtain rfl:=f13 (aj hall 13 rfl)
     refine af (v:=.pointer (some ⟨g,1,none⟩)) rfl rfl (by kernel_rfl) ?_
     exact aL <| aL <| aL <| (⟨_,_,rfl,hW,λh=>f0 (rl h),λh=>f1 (rl h),λh=>f2 (rl h),λh=>f3 (rl h),λh=>f4 (rl h),λh=>f5 (rl h),λh=>f6 (rl h),λh=>f7 (rl h),λh=>f8 (rl h),λh=>f9 (rl h),λh=>f10 (rl h),λh=>f11 (rl h),λh=>f12 (rl h),λh=>f13 (rl h),λ_=>rfl⟩)
    ·exfalso;omega
   ·rintro D bP W ⟨u2,u3,u4,u5,u6,u7,u8,u9,u10,u11,u12,u13,u14,u15,u16,u17,u18,u19,u20,u21,u22,u23,u24,u25,u26,u27,rfl,hW,f0,f1,f2,f3,f4,f5,f6,f7,f8,f9,f10,f11,f12,f13,f14⟩ hall
    obtain rfl:=f0 (hall 0 (by decide))
    obtain rfl:=f1 (hall 1 (by decide))
    obtain rfl:=f2 (hall 2 (by decide))
    obtain rfl:=f3 (hall 3 (by decide))
    obtain rfl:=f4 (hall 4 (by decide))
    obtain rfl:=f5 (hall 5 (by decide))
    obtain rfl:=f6 (hall 6 (by decide))
    obtain rfl:=f7 (hall 7 (by decide))
    obtain rfl:=f8 (hall 8 (by decide))
    obtain rfl:=f9 (hall 9 (by decide))
    obtain rfl:=f11 (hall 11 (by decide))
    obtain rfl:=f12 (hall 12 (by decide))
    obtain rfl:=f13 (hall 13 (by decide))
    obtain rfl:=f14 (hall 14 (by decide))
    obtain⟨g21,rfl,aeK,aeE,afU⟩:=f10 (hall 10 (by decide))
    clear f0 f1 f2 f3 f4 f5 f6 f7 f8 f9 f10 f11 f12 f13 f14 hall
    refine eO rfl rfl 96 _ _ rfl 1 (vs:=vals .u8 (Ih hs v pb (i+1))) rfl rfl (S1.below' hW) rfl aD (by rw[bg];exact hvl) (by rw[bg];exact aaH) (dX _ _) ?_
    intro w5 S5 F5
    have nZ:=(hch.trans (Ch.of_below hW)).trans (Ch.bX F5)
    have T5:=F5.blk (T1.below' hW) hgt
    have P5:=F5.blk (P1.below' hW) (show w.heap.size≠g by omega)
    clear S1 T1 P1 SB cp hch
    by_cases h16:m=16
    ·subst h16
     have hK:i+1=K:=zo.out.1 rfl
     go_wp2_with fail
     go_step3
     refine⟨rfl,HI.out _ _ ⟨i+1,_,by rw[Hm.out];rfl,by omega,λh=>absurd h (by omega),S5,T5,P5,nZ⟩,?_⟩
     rw[hμ,hμ]
     simp[lenOf]
    ·have hm2:16<m:=by omega
     go_wp2_with fail
     go_step3
     refine⟨rfl,HI.out _ _ ⟨i+1,some ⟨w.heap.size,16*i+16,none⟩,by rw[Hm.out];rfl,by omega,λ_=>by rw[Nat.mul_succ],S5,T5,P5,nZ⟩,?_⟩
     rw[hμ,hμ]
     simp[lenOf]
     omega
  ·obtain rfl:i=K:=by omega
   clear had
   rw[Nat.sub_self]
   have HK:Hid (pb.length/16=i):=aR (by rw[HL.out];omega)
   go_wp2_with fail
   simp only[Exit.jump]
   refine bodyPost_ret (v:=.tuple #[]) (by simp[results,results153]) rfl ⟨rfl,⟨?_,T1⟩,hch⟩
   rw[HK.out]
   exact S1
 ·intro hgo
  go_wp2_with fail
  refine hP0.mono ?_
  rintro e w1 ⟨rfl,hb1,P1⟩
  go_wp2_with fail
  refine wp_label ?_
  rename_i hK
  refine hK _ _ ?_
  refine hgo _ _ (HI.out _ _ ⟨0,some ⟨w.heap.size,0,none⟩,rfl,by omega,λ_=>rfl,S0.below' hb1,T0.below' hb1,P1,Ch.of_below hb1⟩)
open Gf (W2 up dI bV mul R1 D1 dot)
theorem Nw (g gt:Nat)(v:List Nat)(hv:v.length=16)(w:World)(S0:aA w g 240 (ZY gt v)) :
  Calls prog 154 #[.pointer (some ⟨g,0,none⟩)] w λe w'=>e=.returned (.agg (ints .u8 v))/\Below w.heap.size w w':=by
 have B0:=aA.new w 96 (ints .u8 (zeros 16))
 have S1:=S0.alloc (.cells (ints .u8 (zeros 16)) 96)
 have hbel:=bN w (.cells (ints .u8 (zeros 16)) 96)
 go_enter func154,ntmps154
 go_wp2_with ((first|(refine ae rfl 96 rfl fw ?_)|(refine dZ (old:=vals .u8 v) rfl 96 _ rfl 1 rfl S1 rfl aD (by rw[bg];exact hv) ?_)|(refine aa (k:=.u8) (xs:=v) rfl 96 _ _ rfl w.heap.size rfl rfl B0 (ah _ _) aD hv ?_));(try simp only[nn,Nat.reduceAdd]))
 exact aO rfl rfl (B0.row _) aD hv ⟨rfl,az hbel dM _⟩
theorem VJ (hs bs:List Nat)(hl:hs.length=16)(hb:∀x∈hs,x<256)(hlen:bs.length<2^31)(hbb:∀x∈bs,x<256)(ad:Option Addr)(c:Nat)(w:World)(hs0:Sl w ad .u8 bs) :
  Calls prog 149 #[.agg (ints .u8 hs),.slice ad bs.length c] w λe w'=>e=.returned (.agg (ints .u8 (Ep hs bs)))/\Below w.heap.size w w':=by
 have B0:=(aA.new w 96 (ints .u8 hs)).alloc (.cells (ints .u8 (zeros 16)) 96)
 have B1:=aA.new (w.alloc (.cells (ints .u8 hs) 96)) 96 (ints .u8 (zeros 16))
 rw[World.size_alloc] at B1
 have hbel:=(bN w (.cells (ints .u8 hs) 96)).alloc (by simp) (.cells (ints .u8 (zeros 16)) 96)
 have hs1:=hs0.below hbel
 have hvl:(Ep hs bs).length=16:=tQ (aH _) _
 go_enter func149,ntmps149
 go_wp2_with ((first|(refine ae rfl 96 rfl fw ?_)|(refine ag rfl 96 _ rfl w.heap.size rfl B0 aD hl ?_));(try simp only[nn,Nat.reduceAdd]))
 generalize ((w.alloc (.cells (ints .u8 hs) 96)).alloc (.cells (ints .u8 (zeros 16)) 96))=w0 at *
 have hl1:=B1.lt
 refine(Wu hs hl hb _).mono ?_
 rintro e w1 ⟨g,gt,rfl,hg,hgt,hS,hb1⟩
 have hs2:=hs1.below hb1
 have C1:=B1.below' hb1
 have aK:=bC hbel hb1
 go_wp2_with fail
 refine(Nr g gt hs (zeros 16) bs hl hb (aH _) (dh _ (by omega)) hlen hbb ad c _ hS hs2).mono ?_
 rintro e w2 ⟨rfl,hS2,hch⟩
 have D1:=hch.blk C1 (by omega)
 have aB:=hch.below aK (by omega) aK.size
 go_wp2_with fail
 refine(Nw g gt _ hvl _ hS2.1).mono ?_
 rintro e w3 ⟨rfl,hb3⟩
 have E1:=D1.below' hb3
 have aG:=bC aB hb3
 go_wp2_with (refine aa (k:=.u8) (xs:=Ep hs bs) rfl 96 _ _ rfl (w.heap.size+1) rfl rfl E1 (ah _ _) aD hvl ?_;(try simp only[nn,Nat.reduceAdd]))
 exact aO rfl rfl (E1.row _) aD hvl ⟨rfl,az aG (by omega) _⟩
open Gf (W2 up dI bV mul R1 D1 dot)
theorem RV (n k:Nat)(hk:k<16):bits BinOp.or IntKind.u64 ((16*n%18446744073709551616:Nat):Int) ((k:Nat):Int)=((16*n%18446744073709551616+k:Nat):Int):=by
 have e:16*n%18446744073709551616=2^4*(n%1152921504606846976):=by omega
 have h:=u64_or_nat (16*n%18446744073709551616) k (by omega) (by omega)
 rw[h,e,Nat.two_pow_add_eq_or_of_lt hk]
theorem WI (n:Nat)(b:Bool):cZ 256 8 (16*n%18446744073709551616+(if b then 2 else 3))++cZ 256 8 (n/1152921504606846976)=lW n b:=by
 rw[Bu 256 8 8 _ _ (by omega) (by split<;>omega)]
 unfold lW
 congr 1
 split<;>omega
theorem yh (n:Nat)(hn:n<2^63)(b:Bool)(w:World) :
  Calls prog 155 #[.int .i64 n,.bool b] w λe w'=>e=.returned (.agg (ints .u8 (lW n b)))/\Below w.heap.size w w':=by
 have B0:=aA.new w 96 (ints .u8 (zeros 16))
 have hbel:=bN w (.cells (ints .u8 (zeros 16)) 96)
 have hrow:=WI n b
 have hll:=yj n b
 have hcl:(n:Int)<=9223372036854775807:=by omega
 have hq:n/1152921504606846976<18446744073709551616:=by omega
 have hw1:IntKind.u64.wrap (n:Int)=(n:Int):=by rw[wrapN,Nat.mod_eq_of_lt (by omega)]
 have hw2:IntKind.u64.wrap ((n:Int)*16)=((16*n%18446744073709551616:Nat):Int):=by
  rw[show (n:Int)*16=((16*n:Nat):Int) by omega,wrapN]
 have hd0:decide ((n:Int)<0)=false:=by simp
 cases b
 ·have hx:16*n%18446744073709551616+3<18446744073709551616:=by omega
  have acd:=aR (show cZ 256 8 (16*n%18446744073709551616+3)++cZ 256 8 (n/1152921504606846976)=lW n false from hrow)
  have SN:bits BinOp.or IntKind.u64 (16*(n:Int)%18446744073709551616) 3=((16*n%18446744073709551616+3:Nat):Int):=by
   rw[←RV n 3 (by omega)];rfl
  have aer:(n:Int)/1152921504606846976=((n/1152921504606846976:Nat):Int):=by omega
  clear hrow
  have Hor:=aR SN
  have HqI:=aR aer
  clear SN aer
  go_enter func155,ntmps155
  go_wp2_with (refine ae rfl 96 rfl fw ?_;(try simp only[nn,Nat.reduceAdd]))
  rw[Hor.out,HqI.out]
  generalize 16*n%18446744073709551616+3=lo at *
  generalize n/1152921504606846976=hi at *
  have hwb:=mo lo hi hx hq (w.alloc (.cells (ints .u8 (zeros 16)) 96))
  rw[acd.out] at hwb
  refine hwb.mono ?_
  rintro e w1 ⟨rfl,hb1⟩
  have C0:=B0.below' hb1
  have aK:=bC hbel hb1
  go_wp2_with (refine aa (k:=.u8) (xs:=lW n false) rfl 96 _ _ rfl w.heap.size rfl rfl C0 (ah _ _) aD hll ?_;(try simp only[nn,Nat.reduceAdd]))
  exact aO rfl rfl (C0.row _) aD hll ⟨rfl,az aK dM _⟩
 ·have hx:16*n%18446744073709551616+2<18446744073709551616:=by omega
  have acd:=aR (show cZ 256 8 (16*n%18446744073709551616+2)++cZ 256 8 (n/1152921504606846976)=lW n true from hrow)
  have SN:bits BinOp.or IntKind.u64 (16*(n:Int)%18446744073709551616) 2=((16*n%18446744073709551616+2:Nat):Int):=by
   rw[←RV n 2 (by omega)];rfl
  have aer:(n:Int)/1152921504606846976=((n/1152921504606846976:Nat):Int):=by omega
  clear hrow
  have Hor:=aR SN
  have HqI:=aR aer
  clear SN aer
  go_enter func155,ntmps155
  go_wp2_with (refine ae rfl 96 rfl fw ?_;(try simp only[nn,Nat.reduceAdd]))
  rw[Hor.out,HqI.out]
  generalize 16*n%18446744073709551616+2=lo at *
  generalize n/1152921504606846976=hi at *
  have hwb:=mo lo hi hx hq (w.alloc (.cells (ints .u8 (zeros 16)) 96))
  rw[acd.out] at hwb
  refine hwb.mono ?_
  rintro e w1 ⟨rfl,hb1⟩
  have C0:=B0.below' hb1
  have aK:=bC hbel hb1
  go_wp2_with (refine aa (k:=.u8) (xs:=lW n true) rfl 96 _ _ rfl w.heap.size rfl rfl C0 (ah _ _) aD hll ?_;(try simp only[nn,Nat.reduceAdd]))
  exact aO rfl rfl (C0.row _) aD hll ⟨rfl,az aK dM _⟩
open Gf (W2 up dI bV mul R1 D1 dot)
theorem Ww {m:List Nat}(hb:∀x∈m,x<256):∀x∈Fy m,x<256:=by
 unfold Fy
 split
 ·exact hb
 ·refine qo λx hx=>?_
  rcases List.mem_append.1 hx with h|h
  ·exact hb x h
  ·obtain rfl:=List.mem_singleton.1 h;omega
theorem XD {t m:List Nat}(ht:∀x∈t,x<256)(hm:∀x∈m,x<256):∀x∈jF t m,x<256:=λx hx=>by
 unfold jF at hx
 rcases List.mem_append.1 hx with h|h
 ·rcases List.mem_append.1 h with h|h
  ·exact WJ _ _ x h
  ·exact qo ht x h
 ·exact Ww hm x h
theorem RI (m:List Nat):(Fy m).length<=m.length+17:=by
 unfold Fy
 split
 ·omega
 ·unfold RP;rw[mI,List.length_append];simp;omega
theorem yF (t m:List Nat):(jF t m).length<=t.length+m.length+64:=by
 unfold jF
 rw[List.length_append,List.length_append,yj,mI]
 have:=RI m
 omega
def vE (t m:List Nat):List (List Nat):=[lW t.length (decide (m.length%16=0)),dC t,Fy m]
theorem Bq (t m:List Nat):(vE t m).flatten=jF t m:=by simp[vE,jF]
theorem slP {fu:List (List Nat)}{A B C:List Nat}{W:World}{p q:Nat}{a:Option Addr}{c:Nat}(h:fu=[A,B,C])(h1:Sl W (some ⟨p,0,none⟩) .u8 A)(hA:A.length=16)(h2:Sl W (some ⟨q,0,none⟩) .u8 B)(h3:Sl W a .u8 C)(hc:a=none->c=0) :
  ∀i,i<fu.length->∃ai ci,[Value.slice (some ⟨p,0,none⟩) 16 16,.slice (some ⟨q,0,none⟩) B.length B.length,.slice a C.length c][i]?=some (.slice ai (fu.getD i []).length ci)/\Sl W ai .u8 (fu.getD i [])/\(ai=none->ci=0):=by
 subst h
 intro i hi
 match i,hi with
 | 0,_=>exact⟨_,16,by rw[←hA];rfl,h1,λh=>by cases h⟩
 | 1,_=>exact⟨_,B.length,rfl,h2,λh=>by cases h⟩
 | 2,_=>exact⟨_,c,rfl,h3,hc⟩
theorem agd {t m:List Nat}{W:World}{B g c:Nat}(hle:(jF t m).length<2^31)(hs:abS W (some ⟨g,0,none⟩) (vE t m))(hB:B<=W.heap.size) :
  Calls prog 112 #[.slice (some ⟨g,0,none⟩) (vE t m).length c] W λe w'=>∃v,e=.returned v/\Own w' B 5 .u8 v (jF t m)/\Below W.heap.size W w':=by
 have h:=yN (some ⟨g,0,none⟩) c (vE t m) (show 3<2^31 by omega) (by rw[Bq];exact hle) W hs
 rw[Bq] at h
 exact h.mono λe w' ⟨v,h1,h2,h3⟩=>⟨v,h1,h2.mono hB,h3⟩
theorem XF (t m:List Nat)(ht:t.length<2^29)(hm:m.length<2^29)(a1 a2:Option Addr)(c1 c2:Nat)(hc2:a2=none->c2=0)(w:World)(hs1:Sl w a1 .u8 t)(hs2:Sl w a2 .u8 m) :
  Calls prog 150 #[.slice a1 t.length c1,.slice a2 m.length c2] w λe w'=>∃v,e=.returned v/\Own w' w.heap.size 5 .u8 v (jF t m)/\Below w.heap.size w w':=by
 have hr:(m.length:Int)%16=((m.length%16:Nat):Int):=by omega
 have hl63:t.length<2^63:=by omega
 have hll:=aR (λb=>yj t.length b)
 by_cases h0:m.length%16=0
 ·have HP:Hid (vE t m=[lW t.length true,dC t,m]):=aR (by unfold vE Fy;rw[if_pos h0,decide_eq_true h0])
  rw[h0] at hr
  go_enter func150,ntmps150
  go_wp2_with fail
  refine(yh t.length hl63 true _).mono ?_
  rintro e w1 ⟨rfl,hb1⟩
  have C6:=aA.new w1 96 (ints .u8 (zeros 16))
  have aK:=az (hb1.alloc hb1.size (.cells (ints .u8 (zeros 16)) 96)) hb1.size (ints .u8 (lW t.length true))
  have L1:=C6.row (ints .u8 (lW t.length true))
  have abk:=hll.out true
  go_wp2_with ((first|(refine ae rfl 96 rfl fw ?_)|(refine aa (k:=.u8) (xs:=lW t.length true) rfl 96 _ _ rfl w1.heap.size rfl rfl C6 (ah _ _) aD abk ?_));(try simp only[nn,Nat.reduceAdd]))
  generalize ((w1.alloc (.cells (ints .u8 (zeros 16)) 96)).setRow w1.heap.size (ints .u8 (lW t.length true)))=w2 at *
  have aB:=aK
  have S1:=hs1.below aB
  have M1:=hs2.below aB
  have hmc:=hc2
  have hle:(jF t m).length<2^31:=by have:=yF t m;omega
  refine eZ (by kernel_rfl) (by kernel_rfl) (λD bP W=>∃u2 u3 u4 u5 u7 u8 u9 u10 u11 u12 u13 u14 u15 u16 u17 u18 u19 u20 u21 u22 u23 u24:Value,bP={ tmps:=#[.slice a1 t.length c1,.slice a2 m.length c2,u2,u3,u4,u5,.pointer (some ⟨w1.heap.size,0,none⟩),u7,u8,u9,u10,u11,u12,u13,u14,u15,u16,u17,u18,u19,u20,u21,u22,u23,u24],defers:=[] }/\Below w2.heap.size w2 W/\(D 0->u19=.slice (some ⟨w1.heap.size,0,none⟩) 16 16)/\(D 1->u20=.slice a1 t.length c1)/\(D 2->KG W w2.heap.size u21 5 (dC t).length .u8 (dC t))/\(D 3->u22=.slice a2 m.length c2)/\(D 4->UQ W u23 (vE t m))/\(D 5->Own W w2.heap.size 5 .u8 u24 (jF t m))/\(D 6->Own W w2.heap.size 5 .u8 u4 (jF t m))) ?_ ?_ ?_
  ·exact aL <| aL <| (⟨_,_,_,_,_,_,rfl,⟨rfl,rfl,rfl,Nat.le_refl _,λ_ _=>rfl⟩,nofun,nofun,nofun,nofun,nofun,nofun,nofun⟩)
  ·intro i o hi D bP W hI hnD hall
   obtain⟨u2,u3,u4,u5,u7,u8,u9,u10,u11,u12,u13,u14,u15,u16,u17,u18,u19,u20,u21,u22,u23,u24,rfl,hW,f0,f1,f2,f3,f4,f5,f6⟩:=hI
   rcases i with _|_|_|_|_|_|_|i<;>try cases hi
   ·refine af (v:=.slice (some ⟨w1.heap.size,0,none⟩) 16 16) rfl rfl (by kernel_rfl) ?_
    exact aL <| aL <| (⟨_,_,_,_,_,_,rfl,hW,λ_=>rfl,ro f1,ro f2,ro f3,ro f4,ro f5,ro f6⟩)
   ·refine af (v:=.slice a1 t.length c1) rfl rfl rfl ?_
    exact aL <| aL <| (⟨_,_,_,_,_,_,rfl,hW,ro f0,λ_=>rfl,ro f2,ro f3,ro f4,ro f5,ro f6⟩)
   ·obtain rfl:=f1 (aj hall 1 rfl)
    refine iE 65 rfl rfl rfl func65 (by kernel_rfl) (by kernel_rfl) (oZ a1 c1 t (by omega) W (S1.below hW)) ?_
    intro W' hW' hT
    exact aL <| aL <| (⟨_,_,_,_,_,_,rfl,bC hW hW',ro f0,ro f1,(λ_=>⟨_,rfl,by have:=hW.size;omega,rfl,hT⟩),ro f3,(λh=>(UQ.below) (f4 (cO h)) hW'),(λh=>(Own.below) (f5 (cO h)) hW'),(λh=>(Own.below) (f6 (cO h)) hW')⟩)
   ·refine af (v:=.slice a2 m.length c2) rfl rfl rfl ?_
    exact aL <| aL <| (⟨_,_,_,_,_,_,rfl,hW,ro f0,ro f1,ro f2,λ_=>rfl,ro f4,ro f5,ro f6⟩)
   ·obtain rfl:=f0 (aj hall 0 rfl)
    obtain rfl:=f3 (aj hall 3 rfl)
    obtain⟨g_,rfl,Td,Tc,Ea⟩:=(f2 (aj hall 2 rfl));refine wpOp_step (v:=.slice (some ⟨W.heap.size,0,none⟩) 3 3) (w':=W.alloc (.cells [Value.slice (some ⟨w1.heap.size,0,none⟩) 16 16,.slice (some ⟨g_,0,none⟩) (dC t).length (dC t).length,.slice a2 m.length c2].toArray 23)) rfl rfl (by kernel_rfl) ?_;have hW':Below W.heap.size W (W.alloc (.cells [Value.slice (some ⟨w1.heap.size,0,none⟩) 16 16,.slice (some ⟨g_,0,none⟩) (dC t).length (dC t).length,.slice a2 m.length c2].toArray 23)):=bN _ _;have HS:=Cn (fu:=vE t m) (aA.new W 23 [Value.slice (some ⟨w1.heap.size,0,none⟩) 16 16,.slice (some ⟨g_,0,none⟩) (dC t).length (dC t).length,.slice a2 m.length c2].toArray) (slP HP.out (((Sl.blk L1).below hW).below hW') (hll.out _) ((Sl.blk Ea).below hW') ((M1.below hW).below hW') hmc)
    exact aL <| aL <| (⟨_,_,_,_,_,_,rfl,bC hW hW',ro f0,ro f1,(λh=>(f2 (cO h)).below hW'),ro f3,(λ_=>⟨_,_,rfl,HS⟩),(λh=>(Own.below) (f5 (cO h)) hW'),(λh=>(Own.below) (f6 (cO h)) hW')⟩)
   ·obtain⟨g2,c2',rfl,hsl2⟩:=(f4 (aj hall 4 rfl));refine dY (R:=λv w'=>Own w' w2.heap.size 5 .u8 v (jF t m)/\Below W.heap.size W w') 112 rfl rfl rfl func112 (by kernel_rfl) (by kernel_rfl) (agd hle hsl2 hW.size) ?_;rintro v W' ⟨hown,hW'⟩
    exact aL <| aL <| (⟨_,_,_,_,_,_,rfl,bC hW hW',ro f0,ro f1,(λh=>(f2 (cO h)).below hW'),ro f3,(λh=>(UQ.below) (f4 (cO h)) hW'),(λ_=>hown),(λh=>(Own.below) (f6 (cO h)) hW')⟩)
   ·have hx:=(f5 (aj hall 5 rfl));refine af (v:=u24) rfl rfl (by kernel_rfl) ?_;have hW':=Below.refl W.heap.size W
    exact aL <| aL <| (⟨_,_,_,_,_,_,rfl,bC hW hW',ro f0,ro f1,(λh=>(f2 (cO h)).below hW'),ro f3,(λh=>(UQ.below) (f4 (cO h)) hW'),(λh=>(Own.below) (f5 (cO h)) hW'),(λ_=>hx)⟩)
   all_goals (exfalso;simp at hi)
  ·rintro D bP W ⟨u2,u3,u4,u5,u7,u8,u9,u10,u11,u12,u13,u14,u15,u16,u17,u18,u19,u20,u21,u22,u23,u24,rfl,hW,f0,f1,f2,f3,f4,f5,f6⟩ hall
   obtain rfl:=f0 (hall 0 (by decide))
   obtain rfl:=f1 (hall 1 (by decide))
   obtain rfl:=f3 (hall 3 (by decide))
   have YC:=f4 (hall 4 (by decide))
   have x24:=f5 (hall 5 (by decide))
   have x4:=f6 (hall 6 (by decide))
   obtain⟨g21,rfl,aeK,aeE,afU⟩:=f2 (hall 2 (by decide))
   clear f0 f1 f2 f3 hall
   go_wp2_with fail
   go_ret
   exact⟨_,rfl,x4.mono aB.size,bC aB hW⟩
 ·have HP:Hid (vE t m=[lW t.length false,dC t,dC (m++[1])]):=aR (by unfold vE Fy RP;rw[if_neg h0,decide_eq_false h0])
  have hr2:(((m.length%16:Nat):Int)==0)=false:=by simp;omega
  generalize m.length%16=r at *
  go_enter func150,ntmps150
  go_wp2_with fail
  refine(yh t.length hl63 false _).mono ?_
  rintro e w1 ⟨rfl,hb1⟩
  have C6:=aA.new w1 96 (ints .u8 (zeros 16))
  have aK:=az (hb1.alloc hb1.size (.cells (ints .u8 (zeros 16)) 96)) hb1.size (ints .u8 (lW t.length false))
  have L1:=C6.row (ints .u8 (lW t.length false))
  have abk:=hll.out false
  go_wp2_with ((first|(refine ae rfl 96 rfl fw ?_)|(refine aa (k:=.u8) (xs:=lW t.length false) rfl 96 _ _ rfl w1.heap.size rfl rfl C6 (ah _ _) aD abk ?_));(try simp only[nn,Nat.reduceAdd]))
  generalize ((w1.alloc (.cells (ints .u8 (zeros 16)) 96)).setRow w1.heap.size (ints .u8 (lW t.length false)))=w5 at *
  have hm5:=hs2.below aK
  refine(FI a2 c2 1 m (by omega) _ hm5).mono ?_
  rintro e w2 ⟨rfl,hb2,M2⟩
  have aB:=bC aK hb2
  have S1:=hs1.below aB
  have M1:=Sl.blk M2
  have L1':=L1.below' hb2
  clear L1
  have L1:=L1'
  have hmc:some (⟨w5.heap.size+1,0,none⟩:Addr)=none->(dC (m++[1])).length=0:=λh=>by cases h
  have hle:(jF t m).length<2^31:=by have:=yF t m;omega
  go_wp2_with fail
  refine eZ (by kernel_rfl) (by kernel_rfl) (λD bP W=>∃u2 u3 u4 u5 u7 u8 u9 u10 u11 u12 u13 u14 u15 u16 u17 u18 u19 u20 u21 u22 u23 u24:Value,bP={ tmps:=#[.slice a1 t.length c1,.slice (some ⟨w5.heap.size+1,0,none⟩) (dC (m++[1])).length (dC (m++[1])).length,u2,u3,u4,u5,.pointer (some ⟨w1.heap.size,0,none⟩),u7,u8,u9,u10,u11,u12,u13,u14,u15,u16,u17,u18,u19,u20,u21,u22,u23,u24],defers:=[] }/\Below w2.heap.size w2 W/\(D 0->u19=.slice (some ⟨w1.heap.size,0,none⟩) 16 16)/\(D 1->u20=.slice a1 t.length c1)/\(D 2->KG W w2.heap.size u21 5 (dC t).length .u8 (dC t))/\(D 3->u22=.slice (some ⟨w5.heap.size+1,0,none⟩) (dC (m++[1])).length (dC (m++[1])).length)/\(D 4->UQ W u23 (vE t m))/\(D 5->Own W w2.heap.size 5 .u8 u24 (jF t m))/\(D 6->Own W w2.heap.size 5 .u8 u4 (jF t m))) ?_ ?_ ?_
  ·exact aL <| aL <| (⟨_,_,_,_,_,_,rfl,⟨rfl,rfl,rfl,Nat.le_refl _,λ_ _=>rfl⟩,nofun,nofun,nofun,nofun,nofun,nofun,nofun⟩)
  ·intro i o hi D bP W hI hnD hall
   obtain⟨u2,u3,u4,u5,u7,u8,u9,u10,u11,u12,u13,u14,u15,u16,u17,u18,u19,u20,u21,u22,u23,u24,rfl,hW,f0,f1,f2,f3,f4,f5,f6⟩:=hI
   rcases i with _|_|_|_|_|_|_|i<;>try cases hi
   ·refine af (v:=.slice (some ⟨w1.heap.size,0,none⟩) 16 16) rfl rfl (by kernel_rfl) ?_
    exact aL <| aL <| (⟨_,_,_,_,_,_,rfl,hW,λ_=>rfl,ro f1,ro f2,ro f3,ro f4,ro f5,ro f6⟩)
   ·refine af (v:=.slice a1 t.length c1) rfl rfl rfl ?_
    exact aL <| aL <| (⟨_,_,_,_,_,_,rfl,hW,ro f0,λ_=>rfl,ro f2,ro f3,ro f4,ro f5,ro f6⟩)
   ·obtain rfl:=f1 (aj hall 1 rfl)
    refine iE 65 rfl rfl rfl func65 (by kernel_rfl) (by kernel_rfl) (oZ a1 c1 t (by omega) W (S1.below hW)) ?_
    intro W' hW' hT
    exact aL <| aL <| (⟨_,_,_,_,_,_,rfl,bC hW hW',ro f0,ro f1,(λ_=>⟨_,rfl,by have:=hW.size;omega,rfl,hT⟩),ro f3,(λh=>(UQ.below) (f4 (cO h)) hW'),(λh=>(Own.below) (f5 (cO h)) hW'),(λh=>(Own.below) (f6 (cO h)) hW')⟩)
   ·refine af (v:=.slice (some ⟨w5.heap.size+1,0,none⟩) (dC (m++[1])).length (dC (m++[1])).length) rfl rfl rfl ?_
    exact aL <| aL <| (⟨_,_,_,_,_,_,rfl,hW,ro f0,ro f1,ro f2,λ_=>rfl,ro f4,ro f5,ro f6⟩)
   ·obtain rfl:=f0 (aj hall 0 rfl)
    obtain rfl:=f3 (aj hall 3 rfl)
    obtain⟨g_,rfl,Td,Tc,Ea⟩:=(f2 (aj hall 2 rfl));refine wpOp_step (v:=.slice (some ⟨W.heap.size,0,none⟩) 3 3) (w':=W.alloc (.cells [Value.slice (some ⟨w1.heap.size,0,none⟩) 16 16,.slice (some ⟨g_,0,none⟩) (dC t).length (dC t).length,.slice (some ⟨w5.heap.size+1,0,none⟩) (dC (m++[1])).length (dC (m++[1])).length].toArray 23)) rfl rfl (by kernel_rfl) ?_;have hW':Below W.heap.size W (W.alloc (.cells [Value.slice (some ⟨w1.heap.size,0,none⟩) 16 16,.slice (some ⟨g_,0,none⟩) (dC t).length (dC t).length,.slice (some ⟨w5.heap.size+1,0,none⟩) (dC (m++[1])).length (dC (m++[1])).length].toArray 23)):=bN _ _;have HS:=Cn (fu:=vE t m) (aA.new W 23 [Value.slice (some ⟨w1.heap.size,0,none⟩) 16 16,.slice (some ⟨g_,0,none⟩) (dC t).length (dC t).length,.slice (some ⟨w5.heap.size+1,0,none⟩) (dC (m++[1])).length (dC (m++[1])).length].toArray) (slP HP.out (((Sl.blk L1).below hW).below hW') (hll.out _) ((Sl.blk Ea).below hW') ((M1.below hW).below hW') hmc)
    exact aL <| aL <| (⟨_,_,_,_,_,_,rfl,bC hW hW',ro f0,ro f1,(λh=>(f2 (cO h)).below hW'),ro f3,(λ_=>⟨_,_,rfl,HS⟩),(λh=>(Own.below) (f5 (cO h)) hW'),(λh=>(Own.below) (f6 (cO h)) hW')⟩)
   ·obtain⟨g2,c2',rfl,hsl2⟩:=(f4 (aj hall 4 rfl));refine dY (R:=λv w'=>Own w' w2.heap.size 5 .u8 v (jF t m)/\Below W.heap.size W w') 112 rfl rfl rfl func112 (by kernel_rfl) (by kernel_rfl) (agd hle hsl2 hW.size) ?_;rintro v W' ⟨hown,hW'⟩
    exact aL <| aL <| (⟨_,_,_,_,_,_,rfl,bC hW hW',ro f0,ro f1,(λh=>(f2 (cO h)).below hW'),ro f3,(λh=>(UQ.below) (f4 (cO h)) hW'),(λ_=>hown),(λh=>(Own.below) (f6 (cO h)) hW')⟩)
   ·have hx:=(f5 (aj hall 5 rfl));refine af (v:=u24) rfl rfl (by kernel_rfl) ?_;have hW':=Below.refl W.heap.size W
    exact aL <| aL <| (⟨_,_,_,_,_,_,rfl,bC hW hW',ro f0,ro f1,(λh=>(f2 (cO h)).below hW'),ro f3,(λh=>(UQ.below) (f4 (cO h)) hW'),(λh=>(Own.below) (f5 (cO h)) hW'),(λ_=>hx)⟩)
   all_goals (exfalso;simp at hi)
  ·rintro D bP W ⟨u2,u3,u4,u5,u7,u8,u9,u10,u11,u12,u13,u14,u15,u16,u17,u18,u19,u20,u21,u22,u23,u24,rfl,hW,f0,f1,f2,f3,f4,f5,f6⟩ hall
   obtain rfl:=f0 (hall 0 (by decide))
   obtain rfl:=f1 (hall 1 (by decide))
   obtain rfl:=f3 (hall 3 (by decide))
   have YC:=f4 (hall 4 (by decide))
   have x24:=f5 (hall 5 (by decide))
   have x4:=f6 (hall 6 (by decide))
   obtain⟨g21,rfl,aeK,aeE,afU⟩:=f2 (hall 2 (by decide))
   clear f0 f1 f2 f3 hall
   go_wp2_with fail
   go_ret
   exact⟨_,rfl,x4.mono aB.size,bC aB hW⟩
open Gf (W2 up dI bV mul R1 D1 dot)
theorem QO {hs xs:List Nat}(hl:hs.length=16)(hb:∀x∈hs,x<256)(hlen:xs.length<2^31)(hbb:∀x∈xs,x<256){W:World}{B:Nat}{v:Value}(ho:Own W B 5 .u8 v xs) :
  Calls prog 149 #[.agg (ints .u8 hs),v] W λe w'=>e=.returned (.agg (ints .u8 (Ep hs xs)))/\Below W.heap.size W w':=by
 obtain⟨a,c,rfl,hsl,-,-⟩:=ho.sl
 exact VJ hs xs hl hb hlen hbb a c W hsl
theorem abz (t m:List Nat)(ht:t.length<2^29)(hm:m.length<2^29)(a1 a2:Option Addr)(c1 c2:Nat)(hc2:a2=none->c2=0)(B:Nat)(w:World)(hB:B<=w.heap.size)(hs1:Sl w a1 .u8 t)(hs2:Sl w a2 .u8 m) :
  Calls prog 150 #[.slice a1 t.length c1,.slice a2 m.length c2] w λe w'=>∃v,e=.returned v/\Own w' B 5 .u8 v (jF t m)/\Below w.heap.size w w' :=
 (XF t m ht hm a1 a2 c1 c2 hc2 w hs1 hs2).mono λe w' ⟨v,h1,h2,h3⟩=>⟨v,h1,h2.mono hB,h3⟩
theorem TA (hs t m:List Nat)(hl:hs.length=16)(hb:∀x∈hs,x<256)(ht:t.length<2^29)(hm:m.length<2^29)(htb:∀x∈t,x<256)(hmb:∀x∈m,x<256)(a1 a2:Option Addr)(c1 c2:Nat)(hc2:a2=none->c2=0)(w:World)(hs1:Sl w a1 .u8 t)(hs2:Sl w a2 .u8 m) :
  Calls prog 147 #[.agg (ints .u8 hs),.slice a1 t.length c1,.slice a2 m.length c2] w λe w'=>e=.returned (.agg (ints .u8 (Ep hs (jF t m))))/\Below w.heap.size w w':=by
 have B0:=(aA.new w 96 (ints .u8 hs)).alloc (.cells (ints .u8 (zeros 16)) 96)
 have B1:=aA.new (w.alloc (.cells (ints .u8 hs) 96)) 96 (ints .u8 (zeros 16))
 rw[World.size_alloc] at B1
 have hbel:=(bN w (.cells (ints .u8 hs) 96)).alloc (by simp) (.cells (ints .u8 (zeros 16)) 96)
 have S1:=hs1.below hbel
 have S2:=hs2.below hbel
 have hvl:(Ep hs (jF t m)).length=16:=tQ (aH _) _
 have hle:(jF t m).length<2^31:=by have:=yF t m;omega
 have hel:=XD htb hmb
 go_enter func147,ntmps147
 go_wp2_with (refine ae rfl 96 rfl fw ?_;(try simp only[nn,Nat.reduceAdd]))
 generalize ((w.alloc (.cells (ints .u8 hs) 96)).alloc (.cells (ints .u8 (zeros 16)) 96))=w0 at *
 refine fD 5 (by kernel_rfl) (by kernel_rfl) (by kernel_rfl) (by kernel_rfl) (λD bP W=>∃u4 u5 u7 u8 u9 u10 u11:Value,bP={ tmps:=#[.agg (ints .u8 hs),.slice a1 t.length c1,.slice a2 m.length c2,.pointer (some ⟨w.heap.size,0,none⟩),u4,u5,.pointer (some ⟨w.heap.size+1,0,none⟩),u7,u8,u9,u10,u11],defers:=[] }/\Below w0.heap.size w0 W/\(D 0->u7=.agg (ints .u8 hs))/\(D 1->u8=.slice a1 t.length c1)/\(D 2->u9=.slice a2 m.length c2)/\(D 3->Own W w0.heap.size 5 .u8 u10 (jF t m))/\(D 4->u11=.agg (ints .u8 (Ep hs (jF t m))))) ?_ ?_ ?_
 ·exact(⟨_,_,_,_,_,_,_,rfl,⟨rfl,rfl,rfl,Nat.le_refl _,λ_ _=>rfl⟩,nofun,nofun,nofun,nofun,nofun⟩)
 ·intro i o hilt hi D bP W hI hnD hall
  obtain⟨u4,u5,u7,u8,u9,u10,u11,rfl,hW,f0,f1,f2,f3,f4⟩:=hI
  rcases i with _|_|_|_|_|i<;>try cases hi
  ·refine bf rfl rfl rfl rfl (B0.below' hW) aD hl ?_
   exact(⟨_,_,_,_,_,_,_,rfl,hW,λ_=>rfl,λh=>f1 (rl h),λh=>f2 (rl h),λh=>f3 (rl h),λh=>f4 (rl h)⟩)
  ·refine af (v:=.slice a1 t.length c1) rfl rfl rfl ?_
   exact(⟨_,_,_,_,_,_,_,rfl,hW,λh=>f0 (rl h),λ_=>rfl,λh=>f2 (rl h),λh=>f3 (rl h),λh=>f4 (rl h)⟩)
  ·refine af (v:=.slice a2 m.length c2) rfl rfl rfl ?_
   exact(⟨_,_,_,_,_,_,_,rfl,hW,λh=>f0 (rl h),λh=>f1 (rl h),λ_=>rfl,λh=>f3 (rl h),λh=>f4 (rl h)⟩)
  ·obtain rfl:=f1 (aj hall 1 rfl)
   obtain rfl:=f2 (aj hall 2 rfl)
   refine dY (R:=λv w'=>Own w' w0.heap.size 5 .u8 v (jF t m)/\Below W.heap.size W w') 150 rfl rfl rfl func150 (by kernel_rfl) (by kernel_rfl) (abz t m ht hm a1 a2 c1 c2 hc2 w0.heap.size W hW.size (S1.below hW) (S2.below hW)) ?_;rintro v W' ⟨hown,hW'⟩
   exact(⟨_,_,_,_,_,_,_,rfl,bC hW hW',λh=>f0 (rl h),λh=>f1 (rl h),λh=>f2 (rl h),(λ_=>hown),(λh=>((λh _=>h)) (f4 (rl h)) hW')⟩)
  ·obtain rfl:=f0 (aj hall 0 rfl)
   have hx:=(f3 (aj hall 3 rfl));refine aV 149 rfl rfl rfl func149 (by kernel_rfl) (by kernel_rfl) (QO hl hb hle hel hx) ?_;intro W' hW'
   exact(⟨_,_,_,_,_,_,_,rfl,bC hW hW',λh=>f0 (rl h),λh=>f1 (rl h),λh=>f2 (rl h),(λh=>(Own.below) (f3 (rl h)) hW'),λ_=>rfl⟩)
  ·exfalso;omega
 ·rintro D bP W ⟨u4,u5,u7,u8,u9,u10,u11,rfl,hW,f0,f1,f2,f3,f4⟩ hall
  obtain rfl:=f0 (hall 0 (by decide))
  obtain rfl:=f1 (hall 1 (by decide))
  obtain rfl:=f2 (hall 2 (by decide))
  have Qo:=f3 (hall 3 (by decide))
  have PS:=f4 (hall 4 (by decide))
  clear f0 f1 f2 hall
  obtain rfl:=PS
  have K2:=B1.below' hW
  have aK:=dx hbel hW (by have:=B1.lt;omega)
  refine bJ rfl rfl rfl rfl rfl K2 (ah _ _) aD hvl ?_
  go_wp2
  exact aO rfl rfl (K2.row _) aD hvl ⟨rfl,az aK (by omega) _⟩
end UW
end
end Go.Proofs.YtaiffkajkbiidaaGreatDoor
