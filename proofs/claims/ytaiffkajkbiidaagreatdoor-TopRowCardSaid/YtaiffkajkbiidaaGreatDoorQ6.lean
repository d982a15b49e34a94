/- What this claim leans on, part 6: laws of the model, and what functions of the program compute. No condition but what each law states. -/
import Derived.Deep.Cut
import Derived.Deep.CutRange
import Derived.Deep.DeepCutAuto
import Derived.Test.YtaiffkajkbiidaaGreatDoorQ3
import Derived.Test.YtaiffkajkbiidaaGreatDoorQ5
namespace Go.Proofs.YtaiffkajkbiidaaGreatDoor
set_option linter.unusedSimpArgs false
set_option linter.unusedVariables false
set_option linter.unusedSectionVars false
set_option maxRecDepth 100000
set_option maxHeartbeats 40000000
open Go.Proofs.Tryz
open Tryz
section
open Go.RowKit
def dR (b:List Nat)(ks:List (List Nat)):List Nat:=ks.foldl eT b
theorem fC:∀(ks:List (List Nat)) (b:List Nat),b.length=16->(dR b ks).length=16
 | [],b,h=>h
 | k::ks,b,h=>fC ks _ (cK b k)
theorem dE:∀(ks:List (List Nat)) (b:List Nat),(∀x∈b,x<256)->(∀k∈ks,∀x∈k,x<256)->∀x∈dR b ks,x<256
 | [],b,h,_=>h
 | k::ks,b,h,hk=>dE ks _ (jJ h (hk k List.mem_cons_self)) λk' h'=>hk k' (List.mem_cons_of_mem _ h')
theorem mh (x k:List Nat):qI x k 0=x:=by simp[qI]
theorem mi {x k:List Nat}(hx:x.length=16):qI x k 16=eT x k:=by
 unfold qI
 rw[List.take_of_length_le (by rw[cK];omega),List.drop_of_length_le (by omega),List.append_nil]
theorem yE (gk c:Nat)(b:List Nat)(ks:List (List Nat))(hb:b.length=16)(hbb:∀x∈b,x<256)(hk:∀k∈ks,k.length=16)(hkb:∀k∈ks,∀x∈k,x<256)(hn:ks.length<2^31)(w:World)(hK:Sl w (some ⟨gk,0,none⟩) .u8 ks.flatten) :
  Calls prog 191 #[.agg (ints .u8 b),.slice (some ⟨gk,0,none⟩) ks.length c] w λe w'=>e=.returned (.agg (ints .u8 (dR b ks)))/\Below w.heap.size w w':=by
 obtain⟨m,HM⟩:=bD (ks.length)
 rw[HM.out] at hn ⊢
 have A0:=(aA.new w 96 (ints .u8 b)).alloc (.cells (ints .u8 (zeros 16)) 96)
 have A1:=aA.new (w.alloc (.cells (ints .u8 b) 96)) 96 (ints .u8 (zeros 16))
 rw[World.size_alloc] at A1
 have hbel0:=(bN w (.cells (ints .u8 b) 96)).alloc (by simp) (.cells (ints .u8 (zeros 16)) 96)
 go_enter func191,ntmps191
 go_wp2_with ((first|(refine ae rfl 96 rfl fw ?_));(try simp only[nn,Nat.reduceAdd]))
 generalize ((w.alloc (.cells (ints .u8 b) 96)).alloc (.cells (ints .u8 (zeros 16)) 96))=w0 at *
 go_loopw [10] (λt wr=>∃i:Nat,i<=m/\t=.int .i64 (i:Int)/\aA wr w.heap.size 96 (ints .u8 (dR b (ks.take i)))/\aA wr (w.heap.size+1) 96 (ints .u8 (zeros 16))/\Below w.heap.size w wr) (λt wr=>m-(intOf t).toNat)
 case atStart=>exact⟨0,by omega,rfl,A0,A1,hbel0⟩
 case round =>
  clear A0 A1 hbel0
  obtain⟨i,hi,rfl,A0,A1,hbel⟩:=hrel
  have hln:=fC (ks.take i) b hb
  have hlb:=dE (ks.take i) b hbb λk h=>hkb k (List.mem_of_mem_take h)
  by_cases hlt:i<m
  ·have hd:decide ((i:Int)<(m:Int))=true:=by simp;omega
   have hik:i<ks.length:=by rw[HM.out];exact hlt
   have hS:=xI (hK.below hbel) hk hik
   have fI:(ks.getD i []).length=16:=bQ (p:=λk=>k.length=16) hk hik
   have pK:∀x∈ks.getD i [],x<256:=bQ (p:=λk=>∀x∈k,x<256) hkb hik
   have HF:Hid (dR b (ks.take (i+1))=eT (dR b (ks.take i)) (ks.getD i [])):=aR (iF _ _ _ _ hik)
   have hii:(i:Int)<(m:Int):=by omega
   generalize ks.getD i []=k at *
   generalize dR b (ks.take i)=x at *
   have hkne:k≠[]:=λe=>by rw[e] at fI;simp at fI
   have K0:=A0.alloc (.cells (ints .u8 (zeros 16)) 96)
   have K1:=A1.alloc (.cells (ints .u8 (zeros 16)) 96)
   have K2:=aA.new wr 96 (ints .u8 (zeros 16))
   have hl1:=A1.lt
   have M0:=K0.aM (show w.heap.size≠wr.heap.size by omega) (ints .u8 k)
   have M1:=K1.aM (show w.heap.size+1≠wr.heap.size by omega) (ints .u8 k)
   have M2:=K2.row (ints .u8 k)
   have aB:=az (hbel.alloc hbel.size (.cells (ints .u8 (zeros 16)) 96)) hbel.size (ints .u8 k)
   clear A0 A1 hbel K0 K1
   go_wp2_with ((first
    | (refine aZ rfl (bq rfl rfl hS aD fI hkne) ?_)
    | (refine ae rfl 96 rfl fw ?_)
    | (refine aa rfl 96 _ _ rfl wr.heap.size rfl rfl K2 (ah _ _) aD fI ?_));(try simp only[nn,Nat.reduceAdd]))
   generalize ((wr.alloc (.cells (ints .u8 (zeros 16)) 96)).setRow wr.heap.size (ints .u8 k))=w2 at *
   have hnb:w.heap.size+1<wr.heap.size:=hl1
   clear K2 hS
   generalize wr.heap.size=nb at *
   go_loopw [14] (λt wr'=>∃q:Nat,q<=16/\t=.int .i64 (q:Int)/\aA wr' w.heap.size 96 (ints .u8 (qI x k q))/\aA wr' (w.heap.size+1) 96 (ints .u8 (zeros 16))/\aA wr' nb 96 (ints .u8 k)/\Below w.heap.size w wr') (λt wr'=>16-(intOf t).toNat)
   case atStart=>exact⟨0,by omega,rfl,by rw[mh];exact M0,M1,M2,aB⟩
   case round =>
    clear M0 M1 M2 aB
    obtain⟨q,hq,rfl,M0,M1,M2,aB⟩:=hrel
    by_cases hlq:q<16
    ·have hd2:decide ((q:Int)<16)=true:=by simp;omega
     have hxl:=oq (ys:=k) hln hq
     have c0:=M0.int (i:=q) (by omega)
     rw[ow hln hlq] at c0
     have c1:=M2.int (i:=q) (by omega)
     have z0:=M0.frozen q
     have hqi:(q:Int)<16:=by omega
     have zn:=M0.dw q (x.getD q 0^^^k.getD q 0)
     rw[oo hln hlq] at zn
     have HX:=aR (tC (aC hlb (by decide) q) (aC pK (by decide) q))
     have P0:=aR zn.drew
     have P1:=(M1.far (p:=⟨w.heap.size,q,none⟩) (show w.heap.size+1≠w.heap.size by omega) (.int .u8 ((x.getD q 0^^^k.getD q 0:Nat):Int))).drew
     have P2:=(M2.far (p:=⟨w.heap.size,q,none⟩) (show nb≠w.heap.size by omega) (.int .u8 ((x.getD q 0^^^k.getD q 0:Nat):Int))).drew
     have aG:=(aB.setCell (p:=⟨w.heap.size,q,none⟩) dM (.int .u8 ((x.getD q 0^^^k.getD q 0:Nat):Int))).drew
     have R0:=aR P1
     have R1:=aR P2
     have R2:=aR aG
     clear M0 M1 M2 zn P1 P2 aB aG hxl
     generalize x.getD q 0=xv at *
     generalize k.getD q 0=kv at *
     go_wp2_with fail
     go_region
     rw[HX.out]
     go_wp2_with fail
     exact⟨⟨q+1,by omega,by go_num,P0.out,R0.out,R1.out,R2.out⟩,by simp[intOf]<;>omega⟩
    ·obtain rfl:q=16:=by omega
     have hd2:decide (((16:Nat):Int)<16)=false:=by simp
     rw[mi hln] at M0
     go_wp2_with fail
     exact⟨⟨i+1,by omega,by go_num,by rw[HF.out];exact M0,M1,aB⟩,by simp[intOf]<;>omega⟩
  ·obtain rfl:i=m:=by omega
   have hd:decide ((i:Int)<(i:Int))=false:=by simp
   have he:ks.take i=ks:=List.take_of_length_le (by rw[HM.out];omega)
   rw[he] at A0 hln
   clear he
   go_wp2_with ((first|(refine ag rfl 96 _ rfl _ rfl A0 aD hln ?_)|(refine aa rfl 96 _ _ rfl _ rfl rfl A1 (ah _ _) aD hln ?_));(try simp only[nn,Nat.reduceAdd]))
   refine aO rfl rfl (A1.row _) aD hln ⟨rfl,?_⟩
   exact az hbel (by omega) _
theorem IL (gk c:Nat)(ks:List (List Nat))(hk:∀k∈ks,k.length=16)(hkb:∀k∈ks,∀x∈k,x<256)(hn:ks.length<2^31)(w:World)(hK:Sl w (some ⟨gk,0,none⟩) .u8 ks.flatten) :
  Calls prog 186 #[.slice (some ⟨gk,0,none⟩) ks.length c] w λe w'=>e=.returned (.agg (ints .u8 (dR (zeros 16) ks)))/\Below w.heap.size w w':=by
 obtain⟨m,HM⟩:=bD (ks.length)
 rw[HM.out] at hn ⊢
 have hb:(zeros 16).length=16:=aH _
 have hbb:∀x∈zeros 16,x<256:=λx hx=>by unfold zeros at hx;rw[List.mem_replicate] at hx;omega
 have A1:=(aA.new w 96 (ints .u8 (zeros 16))).alloc (.cells (ints .u8 (zeros 16)) 96)
 have A0:=aA.new (w.alloc (.cells (ints .u8 (zeros 16)) 96)) 96 (ints .u8 (zeros 16))
 rw[World.size_alloc] at A0
 have hbel0:=(bN w (.cells (ints .u8 (zeros 16)) 96)).alloc (by simp) (.cells (ints .u8 (zeros 16)) 96)
 go_enter func186,ntmps186
 go_wp2_with ((first|(refine ae rfl 96 rfl fw ?_));(try simp only[nn,Nat.reduceAdd]))
 generalize ((w.alloc (.cells (ints .u8 (zeros 16)) 96)).alloc (.cells (ints .u8 (zeros 16)) 96))=w0 at *
 go_loopw [9] (λt wr=>∃i:Nat,i<=m/\t=.int .i64 (i:Int)/\aA wr (w.heap.size+1) 96 (ints .u8 (dR (zeros 16) (ks.take i)))/\aA wr w.heap.size 96 (ints .u8 (zeros 16))/\Below w.heap.size w wr) (λt wr=>m-(intOf t).toNat)
 case atStart=>exact⟨0,by omega,rfl,A0,A1,hbel0⟩
 case round =>
  clear A0 A1 hbel0
  obtain⟨i,hi,rfl,A0,A1,hbel⟩:=hrel
  have hln:=fC (ks.take i) (zeros 16) hb
  have hlb:=dE (ks.take i) (zeros 16) hbb λk h=>hkb k (List.mem_of_mem_take h)
  by_cases hlt:i<m
  ·have hd:decide ((i:Int)<(m:Int))=true:=by simp;omega
   have hik:i<ks.length:=by rw[HM.out];exact hlt
   have hS:=xI (hK.below hbel) hk hik
   have fI:(ks.getD i []).length=16:=bQ (p:=λk=>k.length=16) hk hik
   have pK:∀x∈ks.getD i [],x<256:=bQ (p:=λk=>∀x∈k,x<256) hkb hik
   have HF:Hid (dR (zeros 16) (ks.take (i+1))=eT (dR (zeros 16) (ks.take i)) (ks.getD i [])):=aR (iF _ _ _ _ hik)
   have hii:(i:Int)<(m:Int):=by omega
   generalize ks.getD i []=k at *
   generalize dR (zeros 16) (ks.take i)=x at *
   have hkne:k≠[]:=λe=>by rw[e] at fI;simp at fI
   have K0:=A0.alloc (.cells (ints .u8 (zeros 16)) 96)
   have K1:=A1.alloc (.cells (ints .u8 (zeros 16)) 96)
   have K2:=aA.new wr 96 (ints .u8 (zeros 16))
   have hl1:=A0.lt
   have M0:=K0.aM (show w.heap.size+1≠wr.heap.size by omega) (ints .u8 k)
   have M1:=K1.aM (show w.heap.size≠wr.heap.size by omega) (ints .u8 k)
   have M2:=K2.row (ints .u8 k)
   have aB:=az (hbel.alloc hbel.size (.cells (ints .u8 (zeros 16)) 96)) hbel.size (ints .u8 k)
   clear A0 A1 hbel K0 K1
   go_wp2_with ((first
    | (refine aZ rfl (bq rfl rfl hS aD fI hkne) ?_)
    | (refine ae rfl 96 rfl fw ?_)
    | (refine aa rfl 96 _ _ rfl wr.heap.size rfl rfl K2 (ah _ _) aD fI ?_));(try simp only[nn,Nat.reduceAdd]))
   generalize ((wr.alloc (.cells (ints .u8 (zeros 16)) 96)).setRow wr.heap.size (ints .u8 k))=w2 at *
   have hnb:w.heap.size+1<wr.heap.size:=hl1
   clear K2 hS
   generalize wr.heap.size=nb at *
   go_loopw [13] (λt wr'=>∃q:Nat,q<=16/\t=.int .i64 (q:Int)/\aA wr' (w.heap.size+1) 96 (ints .u8 (qI x k q))/\aA wr' w.heap.size 96 (ints .u8 (zeros 16))/\aA wr' nb 96 (ints .u8 k)/\Below w.heap.size w wr') (λt wr'=>16-(intOf t).toNat)
   case atStart=>exact⟨0,by omega,rfl,by rw[mh];exact M0,M1,M2,aB⟩
   case round =>
    clear M0 M1 M2 aB
    obtain⟨q,hq,rfl,M0,M1,M2,aB⟩:=hrel
    by_cases hlq:q<16
    ·have hd2:decide ((q:Int)<16)=true:=by simp;omega
     have hxl:=oq (ys:=k) hln hq
     have c0:=M0.int (i:=q) (by omega)
     rw[ow hln hlq] at c0
     have c1:=M2.int (i:=q) (by omega)
     have z0:=M0.frozen q
     have hqi:(q:Int)<16:=by omega
     have zn:=M0.dw q (x.getD q 0^^^k.getD q 0)
     rw[oo hln hlq] at zn
     have HX:=aR (tC (aC hlb (by decide) q) (aC pK (by decide) q))
     have P0:=aR zn.drew
     have P1:=(M1.far (p:=⟨w.heap.size+1,q,none⟩) (show w.heap.size≠w.heap.size+1 by omega) (.int .u8 ((x.getD q 0^^^k.getD q 0:Nat):Int))).drew
     have P2:=(M2.far (p:=⟨w.heap.size+1,q,none⟩) (show nb≠w.heap.size+1 by omega) (.int .u8 ((x.getD q 0^^^k.getD q 0:Nat):Int))).drew
     have aG:=(aB.setCell (p:=⟨w.heap.size+1,q,none⟩) (by show w.heap.size<=w.heap.size+1;omega) (.int .u8 ((x.getD q 0^^^k.getD q 0:Nat):Int))).drew
     have R0:=aR P1
     have R1:=aR P2
     have R2:=aR aG
     clear M0 M1 M2 zn P1 P2 aB aG hxl
     generalize x.getD q 0=xv at *
     generalize k.getD q 0=kv at *
     go_wp2_with fail
     go_region
     rw[HX.out]
     go_wp2_with fail
     exact⟨⟨q+1,by omega,by go_num,P0.out,R0.out,R1.out,R2.out⟩,by simp[intOf]<;>omega⟩
    ·obtain rfl:q=16:=by omega
     have hd2:decide (((16:Nat):Int)<16)=false:=by simp
     rw[mi hln] at M0
     go_wp2_with fail
     exact⟨⟨i+1,by omega,by go_num,by rw[HF.out];exact M0,M1,aB⟩,by simp[intOf]<;>omega⟩
  ·obtain rfl:i=m:=by omega
   have hd:decide ((i:Int)<(i:Int))=false:=by simp
   have he:ks.take i=ks:=List.take_of_length_le (by rw[HM.out];omega)
   rw[he] at A0 hln
   clear he
   go_wp2_with ((first|(refine ag rfl 96 _ rfl _ rfl A0 aD hln ?_)|(refine aa rfl 96 _ _ rfl _ rfl rfl A1 (ah _ _) aD hln ?_));(try simp only[nn,Nat.reduceAdd]))
   refine aO rfl rfl (A1.row _) aD hln ⟨rfl,?_⟩
   exact az hbel dM _
end
section
open Go.RowKit
section
variable {P:Program}{ops:Array Oper}{rest:List Oper}{o:Oper}{a:Act}{w:World}{Q:Exit->Act->World->Prop}
theorem oN {T n:Nat}{parts:Array (Nat×Operand)}{vs:Array (Nat×Value)}{v:Value}{w':World}(ho:o.op=.buildSlice T n parts)(hp:parts.map (λp=>(p.1,a.eval p.2))=vs)(hr:(Instr.buildSlice T n vs).run P w=.ok v w'):(execOp a.eval o).run P w=.ok (.value v) w':=by
 unfold execOp
 simp only[ho]
 subst hp
 simp only[Sem.run_bind,Sem.run_pure,hr,Result.andThen_ok]
theorem nD {T n:Nat}{x0:Operand}{u0:Value}{v:Value}{w':World}(ho:o.op=.buildSlice T n #[(0,x0)])(h0:a.eval x0=u0)(hr:(Instr.buildSlice T n #[(0,u0)]).run P w=.ok v w'):(execOp a.eval o).run P w=.ok (.value v) w' :=
 oN ho (by simp only[List.map_toArray,List.map_cons,List.map_nil,h0]) hr
theorem fE {T n:Nat}{x0 x1:Operand}{u0 u1:Value}{v:Value}{w':World}(ho:o.op=.buildSlice T n #[(0,x0),(1,x1)])(h0:a.eval x0=u0)(h1:a.eval x1=u1)(hr:(Instr.buildSlice T n #[(0,u0),(1,u1)]).run P w=.ok v w'):(execOp a.eval o).run P w=.ok (.value v) w' :=
 oN ho (by simp only[List.map_toArray,List.map_cons,List.map_nil,h0,h1]) hr
theorem Lh {T n:Nat}{x0 x1 x2:Operand}{u0 u1 u2:Value}{v:Value}{w':World}(ho:o.op=.buildSlice T n #[(0,x0),(1,x1),(2,x2)])(h0:a.eval x0=u0)(h1:a.eval x1=u1)(h2:a.eval x2=u2)(hr:(Instr.buildSlice T n #[(0,u0),(1,u1),(2,u2)]).run P w=.ok v w'):(execOp a.eval o).run P w=.ok (.value v) w' :=
 oN ho (by simp only[List.map_toArray,List.map_cons,List.map_nil,h0,h1,h2]) hr
theorem Cs {T n:Nat}{x0 x1 x2 x3:Operand}{u0 u1 u2 u3:Value}{v:Value}{w':World}(ho:o.op=.buildSlice T n #[(0,x0),(1,x1),(2,x2),(3,x3)])(h0:a.eval x0=u0)(h1:a.eval x1=u1)(h2:a.eval x2=u2)(h3:a.eval x3=u3)(hr:(Instr.buildSlice T n #[(0,u0),(1,u1),(2,u2),(3,u3)]).run P w=.ok v w'):(execOp a.eval o).run P w=.ok (.value v) w' :=
 oN ho (by simp only[List.map_toArray,List.map_cons,List.map_nil,h0,h1,h2,h3]) hr
theorem fP {v:Value}{w':World}(hgd:o.guard=none)(hr:(execOp a.eval o).run P w=.ok (.value v) w')(h:wpList P ops Q rest (a.put o.dst v) w'):wpList P ops Q (o::rest) a w :=
 wpList_plain hgd λ_ hK=>by
  unfold Oper.wp
  rw[hr]
  exact hK _ _ h
end
theorem fZ (k:List Nat)(h:k.length=16):∃x0 x1 x2 x3 x4 x5 x6 x7 x8 x9 Qo PS PR PQ Va UZ,k=[x0,x1,x2,x3,x4,x5,x6,x7,x8,x9,Qo,PS,PR,PQ,Va,UZ]:=by
 match k,h with
 | [x0,x1,x2,x3,x4,x5,x6,x7,x8,x9,Qo,PS,PR,PQ,Va,UZ],_=>exact⟨_,_,_,_,_,_,_,_,_,_,_,_,_,_,_,_,rfl⟩
theorem Dz (k1:List Nat)(h1:k1.length=16)(W:World):(Instr.buildSlice 121 1 #[(0,.agg (ints .u8 k1))]).run prog W=.ok (.slice (some ⟨W.heap.size,0,none⟩) 1 1) (W.alloc (.cells (ints .u8 [k1].flatten) 96)):=by
 obtain⟨a0,a1,a2,a3,a4,a5,a6,a7,a8,a9,acR,acQ,a12,acP,acO,acN,rfl⟩:=fZ k1 h1
 kernel_rfl
theorem gY (k1 k2:List Nat)(h1:k1.length=16)(h2:k2.length=16)(W:World):(Instr.buildSlice 121 2 #[(0,.agg (ints .u8 k1)),(1,.agg (ints .u8 k2))]).run prog W=.ok (.slice (some ⟨W.heap.size,0,none⟩) 2 2) (W.alloc (.cells (ints .u8 [k1,k2].flatten) 96)):=by
 obtain⟨a0,a1,a2,a3,a4,a5,a6,a7,a8,a9,acR,acQ,a12,acP,acO,acN,rfl⟩:=fZ k1 h1
 obtain⟨b0,b1,b2,b3,b4,b5,b6,b7,b8,b9,b10,b11,b12,b13,b14,b15,rfl⟩:=fZ k2 h2
 kernel_rfl
theorem Ut (k1 k2 k3:List Nat)(h1:k1.length=16)(h2:k2.length=16)(h3:k3.length=16)(W:World):(Instr.buildSlice 121 3 #[(0,.agg (ints .u8 k1)),(1,.agg (ints .u8 k2)),(2,.agg (ints .u8 k3))]).run prog W=.ok (.slice (some ⟨W.heap.size,0,none⟩) 3 3) (W.alloc (.cells (ints .u8 [k1,k2,k3].flatten) 96)):=by
 obtain⟨a0,a1,a2,a3,a4,a5,a6,a7,a8,a9,acR,acQ,a12,acP,acO,acN,rfl⟩:=fZ k1 h1
 obtain⟨b0,b1,b2,b3,b4,b5,b6,b7,b8,b9,b10,b11,b12,b13,b14,b15,rfl⟩:=fZ k2 h2
 obtain⟨c0,c1,c2,c3,c4,c5,c6,c7,c8,c9,c10,c11,c12,c13,c14,c15,rfl⟩:=fZ k3 h3
 kernel_rfl
theorem Kz (k1 k2 k3 k4:List Nat)(h1:k1.length=16)(h2:k2.length=16)(h3:k3.length=16)(h4:k4.length=16)(W:World):(Instr.buildSlice 121 4 #[(0,.agg (ints .u8 k1)),(1,.agg (ints .u8 k2)),(2,.agg (ints .u8 k3)),(3,.agg (ints .u8 k4))]).run prog W=.ok (.slice (some ⟨W.heap.size,0,none⟩) 4 4) (W.alloc (.cells (ints .u8 [k1,k2,k3,k4].flatten) 96)):=by
 obtain⟨a0,a1,a2,a3,a4,a5,a6,a7,a8,a9,acR,acQ,a12,acP,acO,acN,rfl⟩:=fZ k1 h1
 obtain⟨b0,b1,b2,b3,b4,b5,b6,b7,b8,b9,b10,b11,b12,b13,b14,b15,rfl⟩:=fZ k2 h2
 obtain⟨c0,c1,c2,c3,c4,c5,c6,c7,c8,c9,c10,c11,c12,c13,c14,c15,rfl⟩:=fZ k3 h3
 obtain⟨d0,d1,d2,d3,d4,d5,d6,d7,d8,d9,d10,d11,d12,d13,d14,d15,rfl⟩:=fZ k4 h4
 kernel_rfl
end
section
open Go.RowKit
open Gf (mul dI)
def ik (xs:List Nat)(n:Nat):List Nat:=bu (mul R2 (kM xs) n)
def IC (xs:List Nat)(n:Nat):List Nat:=bu (dI R2 n (kM xs))
theorem pz (xs:List Nat)(n:Nat):(ik xs n).length=16:=bT _
theorem KW (xs:List Nat)(n:Nat):(IC xs n).length=16:=bT _
theorem qy (xs:List Nat)(n:Nat):∀x∈ik xs n,x<256:=dV _
theorem Qy (xs:List Nat)(n:Nat):∀x∈IC xs n,x<256:=dV _
structure IsKey (w:World)(gk gt gb:Nat)(I J Z:List Nat):Prop where
 blk:aA w gk 103 (#[.pointer (some ⟨gt,0,none⟩)]++ints .u8 (I++J++Z))
 tab:lJ w gt gb
 li:I.length=16
 lj:J.length=16
 lz:Z.length=16
 bi:∀x∈I,x<256
 bj:∀x∈J,x<256
 bz:∀x∈Z,x<256
theorem IsKey.below {w w':World}{gk gt gb:Nat}{I J Z:List Nat}(h:IsKey w gk gt gb I J Z)(hb:Below w.heap.size w w'):IsKey w' gk gt gb I J Z :=
 ⟨h.blk.below' hb,h.tab.below hb,h.li,h.lj,h.lz,h.bi,h.bj,h.bz⟩
theorem IsKey.cell {w:World}{gk gt gb i:Nat}{I J Z:List Nat}(h:IsKey w gk gt gb I J Z)(hi:i<48):w.cell? ⟨gk,1+i,none⟩=some (.int .u8 (((I++J++Z).getD i 0:Nat):Int)):=by
 rw[h.blk.cell,Array.getElem?_append_right (by simp)]
 simp only[List.size_toArray,List.length_singleton,Nat.add_sub_cancel_left]
 rw[iC,getD_lt (by rw[List.length_append,List.length_append,h.li,h.lj,h.lz];omega)];rfl
theorem IsKey.t_ {w:World}{gk gt gb:Nat}{I J Z:List Nat}(h:IsKey w gk gt gb I J Z):w.cell? ⟨gk,0,none⟩=some (.pointer (some ⟨gt,0,none⟩)):=by
 rw[h.blk.cell]
 rw[Array.getElem?_append_left (by simp)];rfl
theorem IsKey.si {w:World}{gk gt gb:Nat}{I J Z:List Nat}(h:IsKey w gk gt gb I J Z):Sl w (some ⟨gk,1,none⟩) .u8 I:=λ_ =>
 ⟨gk,1,rfl,h.blk.lt,λi hi=>by
  have hl:=h.li
  rw[h.cell (i:=i) (by omega)]
  congr 3
  rw[List.getD_eq_getElem?_getD,List.getD_eq_getElem?_getD,List.append_assoc,List.getElem?_append_left hi]⟩
theorem IsKey.sj {w:World}{gk gt gb:Nat}{I J Z:List Nat}(h:IsKey w gk gt gb I J Z):Sl w (some ⟨gk,17,none⟩) .u8 J:=λ_ =>
 ⟨gk,17,rfl,h.blk.lt,λi hi=>by
  have hl:=h.li
  have hl2:=h.lj
  rw[show 17+i=1+(16+i) by omega,h.cell (i:=16+i) (by omega)]
  congr 3
  rw[List.getD_eq_getElem?_getD,List.getD_eq_getElem?_getD,List.append_assoc,List.getElem?_append_right (by omega),hl,Nat.add_sub_cancel_left,List.getElem?_append_left hi]⟩
theorem IsKey.sz {w:World}{gk gt gb:Nat}{I J Z:List Nat}(h:IsKey w gk gt gb I J Z):Sl w (some ⟨gk,33,none⟩) .u8 Z:=λ_ =>
 ⟨gk,33,rfl,h.blk.lt,λi hi=>by
  have hl:=h.li
  have hl2:=h.lj
  have hl3:=h.lz
  rw[show 33+i=1+(32+i) by omega,h.cell (i:=32+i) (by omega)]
  congr 3
  rw[List.getD_eq_getElem?_getD,List.getD_eq_getElem?_getD,List.getElem?_append_right (by rw[List.length_append];omega),List.length_append,hl,hl2]
  congr 2
  omega⟩
theorem rP {xs:List Nat}(h:xs.length=16):xs≠[]:=λe=>by rw[e] at h;simp at h
def nK (I J Z:List Nat)(j i:Nat):List Nat:=dR (ik J j) [IC I (i/8+min (i%8) 1),ik Z (i%8)]
theorem Fh (I J Z:List Nat)(j i:Nat):(nK I J Z j i).length=16:=fC _ _ (pz _ _)
theorem dz {p:List Nat->Prop}{a b:List Nat}(ha:p a)(hb:p b):∀k∈[a,b],p k:=λk hk=>by
 rcases List.mem_cons.1 hk with rfl|hk
 ·exact ha
 ·rw[List.mem_singleton.1 hk];exact hb
theorem LF (I J Z:List Nat)(j i:Nat):∀x∈nK I J Z j i,x<256:=dE _ _ (qy _ _) (dz (Qy _ _) (qy _ _))
theorem Rv (gk gt gb:Nat)(I J Z:List Nat)(j i:Nat)(hj:j<2^31)(hi:i<2^31)(w:World)(hK:IsKey w gk gt gb I J Z) :
  Calls prog 192 #[.pointer (some ⟨gk,0,none⟩),.int .i64 (j:Int),.int .i64 (i:Int)] w λe w'=>e=.returned (.agg (ints .u8 (nK I J Z j i)))/\Below w.heap.size w w':=by
 obtain⟨r,Hr⟩:=bD (i%8)
 obtain⟨u,Hu⟩:=bD (i/8)
 have hr:r<8:=by rw[←Hr.out];omega
 have hu:u<2^31:=by rw[←Hu.out];omega
 have hrt:(i:Int).tmod 8=(r:Int):=by rw[Int.tmod_eq_emod_of_nonneg (by omega),←Hr.out];omega
 have hqt:(i:Int).tdiv 8=(u:Int):=by rw[Int.tdiv_eq_ediv_of_nonneg (by omega),←Hu.out];omega
 obtain⟨m,Hm⟩:=bD (min r 1)
 have hm:m<=1:=by rw[←Hm.out];omega
 have hd1:decide ((j:Int)<0)=false:=by simp
 have hd2:decide ((i:Int)<0)=false:=by simp
 have A0:=aA.new w 96 (ints .u8 (zeros 16))
 have hbel0:=bN w (.cells (ints .u8 (zeros 16)) 96)
 have K0:=hK.below hbel0
 go_enter func192,ntmps192
 go_wp2_with ((first|(refine ae rfl 96 rfl fw ?_));(try simp only[nn,Nat.reduceAdd]))
 have hum:Hid ((u:Int)+min (r:Int) 1=((u+m:Nat):Int)):=aR (by rw[←Hm.out];omega)
 rw[hum.out]
 obtain⟨v,Hv⟩:=bD (u+m)
 have hv:v<2^63:=by rw[←Hv.out];omega
 rw[Hv.out]
 have hwj:IntKind.u64.wrap (j:Int)=(j:Int):=by rw[IntKind.wrap_u64];omega
 have hwr:IntKind.u64.wrap (r:Int)=(r:Int):=by rw[IntKind.wrap_u64];omega
 have hwu:IntKind.i64.wrap (i:Int)=(i:Int):=IntWalk.i64_in _ (by omega)
 have SI:=K0.si
 have SJ:=K0.sj
 have SZ:=K0.sz
 have HO:Hid (nK I J Z j i=dR (ik J j) [IC I v,ik Z r]):=aR (by unfold nK;rw[Hr.out,Hu.out,Hm.out,Hv.out])
 have hm1:∀W,Calls prog 193 #[.int .u64 j,.agg (ints .u8 J)] W λe w'=>e=.returned (.agg (ints .u8 (ik J j)))/\Below W.heap.size W w':=λW=>rQ j J (by omega) K0.lj K0.bj W
 have hm2:∀W,Calls prog 193 #[.int .u64 r,.agg (ints .u8 Z)] W λe w'=>e=.returned (.agg (ints .u8 (ik Z r)))/\Below W.heap.size W w':=λW=>rQ r Z (by omega) K0.lz K0.bz W
 have hm3:∀W,Calls prog 195 #[.int .i64 v,.agg (ints .u8 I)] W λe w'=>e=.returned (.agg (ints .u8 (IC I v)))/\Below W.heap.size W w':=λW=>Rj v I hv K0.li K0.bi W
 have PY:=K0.li
 have hlj:=K0.lj
 have hlz:=K0.lz
 generalize (w.alloc (.cells (ints .u8 (zeros 16)) 96))=w1 at *
 refine bR 21 (by kernel_rfl) (by kernel_rfl) ?_
 simp only[List.take_succ_cons,List.take_zero,List.drop_succ_cons,List.drop_zero]
 go_big_quiet_step (fail)
 refine bE (v:=.int .u64 (j:Int)) rfl (λW=>oM rfl underlying3 underlying106 rfl hwj) ?_
 (try simp only[nn,Nat.reduceAdd])
 go_big_quiet_step (fail)
 refine bE (v:=.pointer (some ⟨gk,0,none⟩)) rfl (λW=>by kernel_rfl) ?_
 (try simp only[nn,Nat.reduceAdd])
 refine bE (v:=.pointer (some ⟨gk,17,none⟩)) rfl (λW=>by kernel_rfl) ?_
 (try simp only[nn,Nat.reduceAdd])
 refine fA rfl (λW hC=>bq rfl rfl (SJ.below hC) aD hlj (rP hlj)) ?_
 (try simp only[nn,Nat.reduceAdd])
 refine di 193 rfl rfl func193 (by kernel_rfl) (by kernel_rfl) (λW hQ=>hm1 W) ?_
 (try simp only[nn,Nat.reduceAdd])
 go_big_quiet_step (fail)
 go_big_quiet_step (fail)
 refine bE (v:=.pointer (some ⟨gk,0,none⟩)) rfl (λW=>by kernel_rfl) ?_
 (try simp only[nn,Nat.reduceAdd])
 refine bE (v:=.pointer (some ⟨gk,1,none⟩)) rfl (λW=>by kernel_rfl) ?_
 (try simp only[nn,Nat.reduceAdd])
 refine fA rfl (λW hC=>bq rfl rfl (SI.below hC) aD PY (rP PY)) ?_
 (try simp only[nn,Nat.reduceAdd])
 refine di 195 rfl rfl func195 (by kernel_rfl) (by kernel_rfl) (λW hQ=>hm3 W) ?_
 (try simp only[nn,Nat.reduceAdd])
 go_big_quiet_step (fail)
 go_big_quiet_step ((intro _;rfl))
 refine bE (v:=.int .u64 (r:Int)) rfl (λW=>oM rfl underlying3 underlying106 rfl hwr) ?_
 (try simp only[nn,Nat.reduceAdd])
 go_big_quiet_step (fail)
 refine bE (v:=.pointer (some ⟨gk,0,none⟩)) rfl (λW=>by kernel_rfl) ?_
 (try simp only[nn,Nat.reduceAdd])
 refine bE (v:=.pointer (some ⟨gk,33,none⟩)) rfl (λW=>by kernel_rfl) ?_
 (try simp only[nn,Nat.reduceAdd])
 refine fA rfl (λW hC=>bq rfl rfl (SZ.below hC) aD hlz (rP hlz)) ?_
 (try simp only[nn,Nat.reduceAdd])
 refine di 193 rfl rfl func193 (by kernel_rfl) (by kernel_rfl) (λW hQ=>hm2 W) ?_
 (try simp only[nn,Nat.reduceAdd])
 refine wpQuiet_nil ?_
 intro w' hw'
 have aK:=bC hbel0 hw'
 have A1:=A0.below' hw'
 have hbs:=gY (IC I v) (ik Z r) (KW _ _) (pz _ _)
 have hpl:Calls prog 191 #[.agg (ints .u8 (ik J j)),.slice (some ⟨w'.heap.size,0,none⟩) 2 2] (w'.alloc (.cells (ints .u8 [IC I v,ik Z r].flatten) 96)) λe w2=>e=.returned (.agg (ints .u8 (dR (ik J j) [IC I v,ik Z r])))/\Below (w'.alloc (.cells (ints .u8 [IC I v,ik Z r].flatten) 96)).heap.size (w'.alloc (.cells (ints .u8 [IC I v,ik Z r].flatten) 96)) w2:=yE w'.heap.size 2 (ik J j) [IC I v,ik Z r] (pz _ _) (qy _ _) (dz (p:=λk=>k.length=16) (KW _ _) (pz _ _)) (dz (p:=λk=>∀x∈k,x<256) (Qy _ _) (qy _ _)) (show 2<2^31 by decide) (w'.alloc (.cells (ints .u8 [IC I v,ik Z r].flatten) 96)) (Sl.blk (aA.new w' _ _))
 have A2:=A1.alloc (.cells (ints .u8 [IC I v,ik Z r].flatten) 96)
 have aB:=aK.alloc aK.size (.cells (ints .u8 [IC I v,ik Z r].flatten) 96)
 rw[←HO.out] at hpl
 have hol:=Fh I J Z j i
 clear hm1 hm2 hm3 SI SJ SZ A0 A1 hbel0 hw' aK hrt hqt hwj hwr hwu hd1 hd2
 generalize IC I v=e1 at *
 generalize ik Z r=e2 at *
 generalize ik J j=e3 at *
 obtain⟨e4,H4⟩:=bD (nK I J Z j i)
 rw[H4.out] at hpl hol
 clear HO
 go_wp2_with (refine fP rfl (fE (u0:=.agg (ints .u8 e1)) (u1:=.agg (ints .u8 e2)) rfl rfl rfl (hbs _)) ?_;generalize (w'.alloc (.cells (ints .u8 [e1,e2].flatten) 96))=w2 at *;(try simp only[nn,Nat.reduceAdd]))
 refine hpl.mono ?_
 clear hpl
 rintro e w3 ⟨rfl,hb3⟩
 have A3:=A2.below' hb3
 have aG:=bC aB hb3
 go_wp2_with (refine aa rfl 96 _ _ rfl _ rfl rfl A3 (ah _ _) aD hol ?_;(try simp only[nn,Nat.reduceAdd]))
 refine aO rfl rfl (A3.row _) aD hol ⟨by rw[H4.out],?_⟩
 exact az aG dM _
end
section
open Go.RowKit
def eE (I J Z:List Nat)(j i:Nat)(x:List Nat):List Nat:=jN (dW 255) (dR x [nK I J Z j i]) [J,I,Z,zeros 16]
theorem iZ (I J Z:List Nat)(j i:Nat){x:List Nat}(hx:x.length=16):(eE I J Z j i x).length=16:=kz _ _ _ (fC _ _ hx)
theorem kT {p:List Nat->Prop}{a:List Nat}(ha:p a):∀k∈[a],p k:=λk hk=>by rw[List.mem_singleton.1 hk];exact ha
theorem fT (I J Z:List Nat)(j i:Nat){x:List Nat}(hx:∀y∈x,y<256):∀y∈eE I J Z j i x,y<256:=nE _ _ _ (dE _ _ hx (kT (LF _ _ _ _ _)))
theorem Gp {p:List Nat->Prop}{a b c d:List Nat}(ha:p a)(hb:p b)(hc:p c)(hd:p d):∀k∈[a,b,c,d],p k:=λk hk=>by
 rcases List.mem_cons.1 hk with rfl|hk
 ·exact ha
 rcases List.mem_cons.1 hk with rfl|hk
 ·exact hb
 exact dz hc hd k hk
theorem gJ (n:Nat):∀x∈zeros n,x<256:=λx hx=>by unfold zeros at hx;rw[List.mem_replicate] at hx;omega
def pY (w:World)(v:Value)(n:Nat)(xs:List Nat):Prop:=∃g,v=.slice (some ⟨g,0,none⟩) n n/\Sl w (some ⟨g,0,none⟩) .u8 xs
theorem pY.below {w w':World}{v:Value}{n:Nat}{xs:List Nat}(h:pY w v n xs)(hb:Below w.heap.size w w'):pY w' v n xs:=let ⟨g,h1,h2⟩:=h;⟨g,h1,h2.below hb⟩
theorem dH {P:Program}{a:Act}{o:Oper}{W:World}{x:Operand}{T g i e:Nat}{p:Option Addr}(ho:o.op=.load T x)(hx:a.eval x=.pointer (some ⟨g,i,none⟩))(hT:P.underlying T=some (.pointer e))(hc:W.cell? ⟨g,i,none⟩=some (.pointer p)):(execOp a.eval o).run P W=.ok (.value (.pointer p)) W:=by
 unfold execOp
 simp only[ho,hx,Instr.loadAt,Instr.sureAddr,Sem.run_bind,Sem.run_pure,Result.andThen_ok]
 simp[loadVar,isAgg,run_underlying hT,hc,go_sem]
theorem Zi {a b c d:List Nat}:[a,b,c,d].flatten=a++(b++(c++d)):=by simp
section
variable {P:Program}{ops:Array Oper}{o:Oper}{a:Act}{w:World}{Q:Exit->Act->World->Prop}{K:Act->World->Prop}{k:Nat}
theorem cz {v:Value}{w':World}(hi:ops[k]?=some o)(hw:Region.wanted o (yielded ops a.tmps)=true)(hr:(execOp a.eval o).run P w=.ok (.value v) w')(h:K (a.put o.dst v) w'):wpOp P ops Q k K a w:=by
 unfold wpOp
 simp only[hi,hw,if_true,Oper.wp,hr,Oper.upon]
 exact .inl h
theorem Qt {T n:Nat}{x0:Operand}{u0 v:Value}{w':World}(hi:ops[k]?=some o)(hw:Region.wanted o (yielded ops a.tmps)=true)(ho:o.op=.buildSlice T n #[(0,x0)])(h0:a.eval x0=u0)(hr:(Instr.buildSlice T n #[(0,u0)]).run P w=.ok v w')(h:K (a.put o.dst v) w'):wpOp P ops Q k K a w :=
 cz hi hw (nD ho h0 hr) h
theorem Qs {T n:Nat}{x0 x1 x2 x3:Operand}{u0 u1 u2 u3 v:Value}{w':World}(hi:ops[k]?=some o)(hw:Region.wanted o (yielded ops a.tmps)=true)(ho:o.op=.buildSlice T n #[(0,x0),(1,x1),(2,x2),(3,x3)])(h0:a.eval x0=u0)(h1:a.eval x1=u1)(h2:a.eval x2=u2)(h3:a.eval x3=u3)(hr:(Instr.buildSlice T n #[(0,u0),(1,u1),(2,u2),(3,u3)]).run P w=.ok v w')(h:K (a.put o.dst v) w'):wpOp P ops Q k K a w :=
 cz hi hw (Cs ho h0 h1 h2 h3 hr) h
end
theorem rq (gk gt gb:Nat)(I J Z x:List Nat)(j i:Nat)(hj:j<2^31)(hi:i<2^31)(hx:x.length=16)(hxb:∀y∈x,y<256)(w:World)(hK:IsKey w gk gt gb I J Z) :
  Calls prog 180 #[.pointer (some ⟨gk,0,none⟩),.int .i64 (j:Int),.int .i64 (i:Int),.agg (ints .u8 x)] w λe w'=>e=.returned (.agg (ints .u8 (eE I J Z j i x)))/\Below w.heap.size w w':=by
 have hd1:decide ((j:Int) < -1)=false:=by rw[decide_eq_false_iff_not];omega
 have hd2:decide ((i:Int)<0)=false:=by simp
 have hd3:decide ((j:Int)≥0)=true:=by simp
 have A0:=(aA.new w 96 (ints .u8 x)).alloc (.cells (ints .u8 (zeros 16)) 96)
 have A1:=aA.new (w.alloc (.cells (ints .u8 x) 96)) 96 (ints .u8 (zeros 16))
 rw[World.size_alloc] at A1
 have hbel0:=(bN w (.cells (ints .u8 x) 96)).alloc (by simp) (.cells (ints .u8 (zeros 16)) 96)
 have K0:=hK.below hbel0
 go_enter func180,ntmps180
 go_wp2_with ((first|(refine ae rfl 96 rfl fw ?_));(try simp only[nn,Nat.reduceAdd]))
 generalize ((w.alloc (.cells (ints .u8 x) 96)).alloc (.cells (ints .u8 (zeros 16)) 96))=w0 at *
 have SI:=K0.si
 have SJ:=K0.sj
 have SZ:=K0.sz
 have kt:=K0.t_
 have PY:=K0.li
 have hlj:=K0.lj
 have hlz:=K0.lz
 have hol:=Fh I J Z j i
 have FT:=LF I J Z j i
 have hgl:=K0.blk.lt
 have hs1:=fC [nK I J Z j i] x hx
 have hs2:=dE [nK I J Z j i] x hxb (kT (p:=λk=>∀y∈k,y<256) FT)
 have HE:Hid (eE I J Z j i x=jN (dW 255) (dR x [nK I J Z j i]) [J,I,Z,zeros 16]):=aR rfl
 have hEl:=iZ I J Z j i hx
 refine oD 26 (by kernel_rfl) (by kernel_rfl) (by kernel_rfl) (by kernel_rfl) (λD bP W=>∃u24 u25 u26 u27 u28 u29 u30 u31 u32 u33 u34 u35 u36 u37 u38 u39 u40 u41 u42 u43 u44 u45 u46 u47 u48 u49:Value,bP={ tmps:=#[.pointer (some ⟨gk,0,none⟩),.int .i64 (j:Int),.int .i64 (i:Int),.agg (ints .u8 x),undef,undef,undef,.pointer (some ⟨w.heap.size,0,none⟩),.pointer (some ⟨w.heap.size+1,0,none⟩),undef,undef,.pointer (some ⟨gk,0,none⟩),.bool false,.bool false,.int .i64 (j:Int),.bool false,.bool false,.bool false,.int .i64 (i:Int),.bool false,.bool false,undef,.int .i64 (j:Int),.bool true,u24,u25,u26,u27,u28,u29,u30,u31,u32,u33,u34,u35,u36,u37,u38,u39,u40,u41,u42,u43,u44,u45,u46,u47,u48,u49,undef,undef,undef,undef,undef,undef,undef,undef,undef,undef,undef,undef,undef,undef,undef,undef,undef,undef,undef,undef,undef,undef,undef,undef,undef,undef,undef],defers:=[] }/\Below w0.heap.size w0 W/\(D 0->u24=.pointer (some ⟨gk,0,none⟩))/\(D 1->u25=.pointer (some ⟨gk,0,none⟩))/\(D 2->u26=.pointer (some ⟨gk,0,none⟩))/\(D 3->u27=.pointer (some ⟨gt,0,none⟩))/\(D 4->u28=.agg (ints .u8 x))/\(D 5->u29=.pointer (some ⟨gk,0,none⟩))/\(D 6->u30=.int .i64 (j:Int))/\(D 7->u31=.int .i64 (i:Int))/\(D 8->u32=.agg (ints .u8 (nK I J Z j i)))/\(D 9->pY W u33 1 (nK I J Z j i))/\(D 10->u34=.agg (ints .u8 (dR x [nK I J Z j i])))/\(D 11->u35=.pointer (some ⟨gk,0,none⟩))/\(D 12->u36=.pointer (some ⟨gk,0,none⟩))/\(D 13->u37=.pointer (some ⟨gk,17,none⟩))/\(D 14->u38=.agg (ints .u8 J))/\(D 15->u39=.pointer (some ⟨gk,0,none⟩))/\(D 16->u40=.pointer (some ⟨gk,0,none⟩))/\(D 17->u41=.pointer (some ⟨gk,1,none⟩))/\(D 18->u42=.agg (ints .u8 I))/\(D 19->u43=.pointer (some ⟨gk,0,none⟩))/\(D 20->u44=.pointer (some ⟨gk,0,none⟩))/\(D 21->u45=.pointer (some ⟨gk,33,none⟩))/\(D 22->u46=.agg (ints .u8 Z))/\(D 23->u47=.agg (ints .u8 (zeros 16)))/\(D 24->pY W u48 4 (J++(I++(Z++zeros 16))))/\(D 25->u49=.agg (ints .u8 (eE I J Z j i x)))) ?_ ?_ ?_
 ·exact aL <| aL <| aL <| (⟨_,_,rfl,⟨rfl,rfl,rfl,Nat.le_refl _,λ_ _=>rfl⟩,nofun,nofun,nofun,nofun,nofun,nofun,nofun,nofun,nofun,nofun,nofun,nofun,nofun,nofun,nofun,nofun,nofun,nofun,nofun,nofun,nofun,nofun,nofun,nofun,nofun,nofun⟩)
 ·intro i o hilt hi D bP W hI hnD hall
  obtain⟨u24,u25,u26,u27,u28,u29,u30,u31,u32,u33,u34,u35,u36,u37,u38,u39,u40,u41,u42,u43,u44,u45,u46,u47,u48,u49,rfl,hW,f0,f1,f2,f3,f4,f5,f6,f7,f8,f9,f10,f11,f12,f13,f14,f15,f16,f17,f18,f19,f20,f21,f22,f23,f24,f25⟩:=hI
  rcases i with _|_|_|_|_|_|_|_|_|_|_|_|_|_|_|_|_|_|_|_|_|_|_|_|_|_|i<;>try cases hi
  ·refine af (v:=.pointer (some ⟨gk,0,none⟩)) rfl rfl (by kernel_rfl) ?_
   exact aL <| aL <| aL <| (⟨_,_,rfl,hW,λ_=>rfl,ro f1,ro f2,ro f3,ro f4,ro f5,ro f6,ro f7,ro f8,ro f9,ro f10,ro f11,ro f12,ro f13,ro f14,ro f15,ro f16,ro f17,ro f18,ro f19,ro f20,ro f21,ro f22,ro f23,ro f24,ro f25⟩)
  ·obtain rfl:=f0 (aj hall 0 rfl)
   refine af (v:=.pointer (some ⟨gk,0,none⟩)) rfl rfl (by kernel_rfl) ?_
   exact aL <| aL <| aL <| (⟨_,_,rfl,hW,ro f0,λ_=>rfl,ro f2,ro f3,ro f4,ro f5,ro f6,ro f7,ro f8,ro f9,ro f10,ro f11,ro f12,ro f13,ro f14,ro f15,ro f16,ro f17,ro f18,ro f19,ro f20,ro f21,ro f22,ro f23,ro f24,ro f25⟩)
  ·obtain rfl:=f1 (aj hall 1 rfl)
   refine af (v:=.pointer (some ⟨gk,0,none⟩)) rfl rfl (by kernel_rfl) ?_
   exact aL <| aL <| aL <| (⟨_,_,rfl,hW,ro f0,ro f1,λ_=>rfl,ro f3,ro f4,ro f5,ro f6,ro f7,ro f8,ro f9,ro f10,ro f11,ro f12,ro f13,ro f14,ro f15,ro f16,ro f17,ro f18,ro f19,ro f20,ro f21,ro f22,ro f23,ro f24,ro f25⟩)
  ·obtain rfl:=f2 (aj hall 2 rfl)
   refine af (v:=.pointer (some ⟨gt,0,none⟩)) rfl rfl (dH rfl rfl underlying41 ((hW.cell (p:=⟨_,_,none⟩) hgl).trans kt)) ?_
   exact aL <| aL <| aL <| (⟨_,_,rfl,hW,ro f0,ro f1,ro f2,λ_=>rfl,ro f4,ro f5,ro f6,ro f7,ro f8,ro f9,ro f10,ro f11,ro f12,ro f13,ro f14,ro f15,ro f16,ro f17,ro f18,ro f19,ro f20,ro f21,ro f22,ro f23,ro f24,ro f25⟩)
  ·refine bf rfl rfl rfl rfl (A0.below' hW) aD hx ?_
   exact aL <| aL <| aL <| (⟨_,_,rfl,hW,ro f0,ro f1,ro f2,ro f3,λ_=>rfl,ro f5,ro f6,ro f7,ro f8,ro f9,ro f10,ro f11,ro f12,ro f13,ro f14,ro f15,ro f16,ro f17,ro f18,ro f19,ro f20,ro f21,ro f22,ro f23,ro f24,ro f25⟩)
  ·refine af (v:=.pointer (some ⟨gk,0,none⟩)) rfl rfl (by kernel_rfl) ?_
   exact aL <| aL <| aL <| (⟨_,_,rfl,hW,ro f0,ro f1,ro f2,ro f3,ro f4,λ_=>rfl,ro f6,ro f7,ro f8,ro f9,ro f10,ro f11,ro f12,ro f13,ro f14,ro f15,ro f16,ro f17,ro f18,ro f19,ro f20,ro f21,ro f22,ro f23,ro f24,ro f25⟩)
  ·refine af (v:=.int .i64 (j:Int)) rfl rfl (by kernel_rfl) ?_
   exact aL <| aL <| aL <| (⟨_,_,rfl,hW,ro f0,ro f1,ro f2,ro f3,ro f4,ro f5,λ_=>rfl,ro f7,ro f8,ro f9,ro f10,ro f11,ro f12,ro f13,ro f14,ro f15,ro f16,ro f17,ro f18,ro f19,ro f20,ro f21,ro f22,ro f23,ro f24,ro f25⟩)
  ·refine af (v:=.int .i64 (i:Int)) rfl rfl (by kernel_rfl) ?_
   exact aL <| aL <| aL <| (⟨_,_,rfl,hW,ro f0,ro f1,ro f2,ro f3,ro f4,ro f5,ro f6,λ_=>rfl,ro f8,ro f9,ro f10,ro f11,ro f12,ro f13,ro f14,ro f15,ro f16,ro f17,ro f18,ro f19,ro f20,ro f21,ro f22,ro f23,ro f24,ro f25⟩)
  ·obtain rfl:=f5 (aj hall 5 rfl)
   obtain rfl:=f6 (aj hall 6 rfl)
   obtain rfl:=f7 (aj hall 7 rfl)
   refine aV 192 rfl rfl rfl func192 (by kernel_rfl) (by kernel_rfl) (Rv gk gt gb I J Z j i hj hi W (K0.below hW)) ?_
   intro W' hW'
   exact aL <| aL <| aL <| (⟨_,_,rfl,bC hW hW',ro f0,ro f1,ro f2,ro f3,ro f4,ro f5,ro f6,ro f7,λ_=>rfl,(λh=>(pY.below) (f9 (cO h)) hW'),ro f10,ro f11,ro f12,ro f13,ro f14,ro f15,ro f16,ro f17,ro f18,ro f19,ro f20,ro f21,ro f22,ro f23,(λh=>(pY.below) (f24 (cO h)) hW'),ro f25⟩)
  ·obtain rfl:=f8 (aj hall 8 rfl)
   refine Qt (u0:=.agg (ints .u8 (nK I J Z j i))) rfl rfl rfl rfl (Dz _ hol W) ?_;have hW':=bN W (.cells (ints .u8 [nK I J Z j i].flatten) 96);have Ms:=aA.new W 96 (ints .u8 [nK I J Z j i].flatten);rw[List.flatten_singleton] at hW' Ms ⊢
   exact aL <| aL <| aL <| (⟨_,_,rfl,bC hW hW',ro f0,ro f1,ro f2,ro f3,ro f4,ro f5,ro f6,ro f7,ro f8,(λ_=>⟨_,rfl,Sl.blk Ms⟩),ro f10,ro f11,ro f12,ro f13,ro f14,ro f15,ro f16,ro f17,ro f18,ro f19,ro f20,ro f21,ro f22,ro f23,(λh=>(pY.below) (f24 (cO h)) hW'),ro f25⟩)
  ·obtain rfl:=f4 (aj hall 4 rfl)
   obtain⟨g9,h9,s9⟩:=(f9 (aj hall 9 rfl));subst h9;refine dY (R:=λv w'=>v=.agg (ints .u8 (dR x [nK I J Z j i]))/\Below W.heap.size W w') 191 rfl rfl rfl func191 (by kernel_rfl) (by kernel_rfl) ((yE g9 1 x [nK I J Z j i] hx hxb (kT (p:=λk=>k.length=16) hol) (kT (p:=λk=>∀y∈k,y<256) FT) (show 1<2^31 by decide) W (by rw[List.flatten_singleton];exact s9)).mono λe w' h=>⟨_,h.1,rfl,h.2⟩) ?_;rintro v W' ⟨rfl,hW'⟩
   exact aL <| aL <| aL <| (⟨_,_,rfl,bC hW hW',ro f0,ro f1,ro f2,ro f3,ro f4,ro f5,ro f6,ro f7,ro f8,(λh=>(pY.below) (f9 (cO h)) hW'),λ_=>rfl,ro f11,ro f12,ro f13,ro f14,ro f15,ro f16,ro f17,ro f18,ro f19,ro f20,ro f21,ro f22,ro f23,(λh=>(pY.below) (f24 (cO h)) hW'),ro f25⟩)
  ·refine af (v:=.pointer (some ⟨gk,0,none⟩)) rfl rfl (by kernel_rfl) ?_
   exact aL <| aL <| aL <| (⟨_,_,rfl,hW,ro f0,ro f1,ro f2,ro f3,ro f4,ro f5,ro f6,ro f7,ro f8,ro f9,ro f10,λ_=>rfl,ro f12,ro f13,ro f14,ro f15,ro f16,ro f17,ro f18,ro f19,ro f20,ro f21,ro f22,ro f23,ro f24,ro f25⟩)
  ·obtain rfl:=f11 (aj hall 11 rfl)
   refine af (v:=.pointer (some ⟨gk,0,none⟩)) rfl rfl (by kernel_rfl) ?_
   exact aL <| aL <| aL <| (⟨_,_,rfl,hW,ro f0,ro f1,ro f2,ro f3,ro f4,ro f5,ro f6,ro f7,ro f8,ro f9,ro f10,ro f11,λ_=>rfl,ro f13,ro f14,ro f15,ro f16,ro f17,ro f18,ro f19,ro f20,ro f21,ro f22,ro f23,ro f24,ro f25⟩)
  ·obtain rfl:=f12 (aj hall 12 rfl)
   refine af (v:=.pointer (some ⟨gk,17,none⟩)) rfl rfl (by kernel_rfl) ?_
   exact aL <| aL <| aL <| (⟨_,_,rfl,hW,ro f0,ro f1,ro f2,ro f3,ro f4,ro f5,ro f6,ro f7,ro f8,ro f9,ro f10,ro f11,ro f12,λ_=>rfl,ro f14,ro f15,ro f16,ro f17,ro f18,ro f19,ro f20,ro f21,ro f22,ro f23,ro f24,ro f25⟩)
  ·obtain rfl:=f13 (aj hall 13 rfl)
   refine af (v:=.agg (ints .u8 J)) rfl rfl (bq rfl rfl (SJ.below hW) aD hlj (rP hlj)) ?_
   exact aL <| aL <| aL <| (⟨_,_,rfl,hW,ro f0,ro f1,ro f2,ro f3,ro f4,ro f5,ro f6,ro f7,ro f8,ro f9,ro f10,ro f11,ro f12,ro f13,λ_=>rfl,ro f15,ro f16,ro f17,ro f18,ro f19,ro f20,ro f21,ro f22,ro f23,ro f24,ro f25⟩)
  ·refine af (v:=.pointer (some ⟨gk,0,none⟩)) rfl rfl (by kernel_rfl) ?_
   exact aL <| aL <| aL <| (⟨_,_,rfl,hW,ro f0,ro f1,ro f2,ro f3,ro f4,ro f5,ro f6,ro f7,ro f8,ro f9,ro f10,ro f11,ro f12,ro f13,ro f14,λ_=>rfl,ro f16,ro f17,ro f18,ro f19,ro f20,ro f21,ro f22,ro f23,ro f24,ro f25⟩)
  ·obtain rfl:=f15 (aj hall 15 rfl)
   refine af (v:=.pointer (some ⟨gk,0,none⟩)) rfl rfl (by kernel_rfl) ?_
   exact aL <| aL <| aL <| (⟨_,_,rfl,hW,ro f0,ro f1,ro f2,ro f3,ro f4,ro f5,ro f6,ro f7,ro f8,ro f9,ro f10,ro f11,ro f12,ro f13,ro f14,ro f15,λ_=>rfl,ro f17,ro f18,ro f19,ro f20,ro f21,ro f22,ro f23,ro f24,ro f25⟩)
  ·obtain rfl:=f16 (aj hall 16 rfl)
   refine af (v:=.pointer (some ⟨gk,1,none⟩)) rfl rfl (by kernel_rfl) ?_
   exact aL <| aL <| aL <| (⟨_,_,rfl,hW,ro f0,ro f1,ro f2,ro f3,ro f4,ro f5,ro f6,ro f7,ro f8,ro f9,ro f10,ro f11,ro f12,ro f13,ro f14,ro f15,ro f16,λ_=>rfl,ro f18,ro f19,ro f20,ro f21,ro f22,ro f23,ro f24,ro f25⟩)
  ·obtain rfl:=f17 (aj hall 17 rfl)
   refine af (v:=.agg (ints .u8 I)) rfl rfl (bq rfl rfl (SI.below hW) aD PY (rP PY)) ?_
   exact aL <| aL <| aL <| (⟨_,_,rfl,hW,ro f0,ro f1,ro f2,ro f3,ro f4,ro f5,ro f6,ro f7,ro f8,ro f9,ro f10,ro f11,ro f12,ro f13,ro f14,ro f15,ro f16,ro f17,λ_=>rfl,ro f19,ro f20,ro f21,ro f22,ro f23,ro f24,ro f25⟩)
  ·refine af (v:=.pointer (some ⟨gk,0,none⟩)) rfl rfl (by kernel_rfl) ?_
   exact aL <| aL <| aL <| (⟨_,_,rfl,hW,ro f0,ro f1,ro f2,ro f3,ro f4,ro f5,ro f6,ro f7,ro f8,ro f9,ro f10,ro f11,ro f12,ro f13,ro f14,ro f15,ro f16,ro f17,ro f18,λ_=>rfl,ro f20,ro f21,ro f22,ro f23,ro f24,ro f25⟩)
  ·obtain rfl:=f19 (aj hall 19 rfl)
   refine af (v:=.pointer (some ⟨gk,0,none⟩)) rfl rfl (by kernel_rfl) ?_
   exact aL <| aL <| aL <| (⟨_,_,rfl,hW,ro f0,ro f1,ro f2,ro f3,ro f4,ro f5,ro f6,ro f7,ro f8,ro f9,ro f10,ro f11,ro f12,ro f13,ro f14,ro f15,ro f16,ro f17,ro f18,ro f19,λ_=>rfl,ro f21,ro f22,ro f23,ro f24,ro f25⟩)
  ·obtain rfl:=f20 (aj hall 20 rfl)
   refine af (v:=.pointer (some ⟨gk,33,none⟩)) rfl rfl (by kernel_rfl) ?_
   exact aL <| aL <| aL <| (⟨_,_,rfl,hW,ro f0,ro f1,ro f2,ro f3,ro f4,ro f5,ro f6,ro f7,ro f8,ro f9,ro f10,ro f11,ro f12,ro f13,ro f14,ro f15,ro f16,ro f17,ro f18,ro f19,ro f20,λ_=>rfl,ro f22,ro f23,ro f24,ro f25⟩)
  ·obtain rfl:=f21 (aj hall 21 rfl)
   refine af (v:=.agg (ints .u8 Z)) rfl rfl (bq rfl rfl (SZ.below hW) aD hlz (rP hlz)) ?_
   exact aL <| aL <| aL <| (⟨_,_,rfl,hW,ro f0,ro f1,ro f2,ro f3,ro f4,ro f5,ro f6,ro f7,ro f8,ro f9,ro f10,ro f11,ro f12,ro f13,ro f14,ro f15,ro f16,ro f17,ro f18,ro f19,ro f20,ro f21,λ_=>rfl,ro f23,ro f24,ro f25⟩)
  ·refine af (v:=.agg (ints .u8 (zeros 16))) rfl rfl (by kernel_rfl) ?_
   exact aL <| aL <| aL <| (⟨_,_,rfl,hW,ro f0,ro f1,ro f2,ro f3,ro f4,ro f5,ro f6,ro f7,ro f8,ro f9,ro f10,ro f11,ro f12,ro f13,ro f14,ro f15,ro f16,ro f17,ro f18,ro f19,ro f20,ro f21,ro f22,λ_=>rfl,ro f24,ro f25⟩)
  ·obtain rfl:=f14 (aj hall 14 rfl)
   obtain rfl:=f18 (aj hall 18 rfl)
   obtain rfl:=f22 (aj hall 22 rfl)
   obtain rfl:=f23 (aj hall 23 rfl)
   refine Qs (u0:=.agg (ints .u8 J)) (u1:=.agg (ints .u8 I)) (u2:=.agg (ints .u8 Z)) (u3:=.agg (ints .u8 (zeros 16))) rfl rfl rfl rfl rfl rfl rfl (Kz _ _ _ _ hlj PY hlz (aH _) W) ?_;have hW':=bN W (.cells (ints .u8 [J,I,Z,zeros 16].flatten) 96);have Ms:=aA.new W 96 (ints .u8 [J,I,Z,zeros 16].flatten);rw[Zi] at hW' Ms ⊢
   exact aL <| aL <| aL <| (⟨_,_,rfl,bC hW hW',ro f0,ro f1,ro f2,ro f3,ro f4,ro f5,ro f6,ro f7,ro f8,(λh=>(pY.below) (f9 (cO h)) hW'),ro f10,ro f11,ro f12,ro f13,ro f14,ro f15,ro f16,ro f17,ro f18,ro f19,ro f20,ro f21,ro f22,ro f23,(λ_=>⟨_,rfl,Sl.blk Ms⟩),ro f25⟩)
  ·obtain rfl:=f3 (aj hall 3 rfl)
   obtain rfl:=f10 (aj hall 10 rfl)
   obtain⟨g9,h9,s9⟩:=(f24 (aj hall 24 rfl));subst h9;refine dY (R:=λv w'=>v=.agg (ints .u8 (eE I J Z j i x))/\Below W.heap.size W w') 50 rfl rfl rfl func50 (by kernel_rfl) (by kernel_rfl) ((ES gt gb g9 (dW 255) (dR x [nK I J Z j i]) [J,I,Z,zeros 16] (gH 255) hs1 hs2 (Gp (p:=λk=>k.length=16) hlj PY hlz (aH _)) (Gp (p:=λk=>∀y∈k,y<256) K0.bj K0.bi K0.bz (gJ 16)) (show 4<2^31 by decide) W (K0.tab.1.below hW) (by rw[Zi];exact s9) 4).mono λe w' h=>⟨_,h.1,rfl,h.2⟩) ?_;rintro v W' ⟨rfl,hW'⟩
   exact aL <| aL <| aL <| (⟨_,_,rfl,bC hW hW',ro f0,ro f1,ro f2,ro f3,ro f4,ro f5,ro f6,ro f7,ro f8,(λh=>(pY.below) (f9 (cO h)) hW'),ro f10,ro f11,ro f12,ro f13,ro f14,ro f15,ro f16,ro f17,ro f18,ro f19,ro f20,ro f21,ro f22,ro f23,(λh=>(pY.below) (f24 (cO h)) hW'),λ_=>rfl⟩)
  ·exfalso;omega
 ·rintro D bP W ⟨u24,u25,u26,u27,u28,u29,u30,u31,u32,u33,u34,u35,u36,u37,u38,u39,u40,u41,u42,u43,u44,u45,u46,u47,u48,u49,rfl,hW,f0,f1,f2,f3,f4,f5,f6,f7,f8,f9,f10,f11,f12,f13,f14,f15,f16,f17,f18,f19,f20,f21,f22,f23,f24,f25⟩ hall
  obtain rfl:=f0 (hall 0 (by decide))
  obtain rfl:=f1 (hall 1 (by decide))
  obtain rfl:=f2 (hall 2 (by decide))
  obtain rfl:=f3 (hall 3 (by decide))
  obtain rfl:=f4 (hall 4 (by decide))
  obtain rfl:=f5 (hall 5 (by decide))
  obtain rfl:=f6 (hall 6 (by decide))
  obtain rfl:=f7 (hall 7 (by decide))
  obtain rfl:=f8 (hall 8 (by decide))
  obtain rfl:=f10 (hall 10 (by decide))
  obtain rfl:=f11 (hall 11 (by decide))
  obtain rfl:=f12 (hall 12 (by decide))
  obtain rfl:=f13 (hall 13 (by decide))
  obtain rfl:=f14 (hall 14 (by decide))
  obtain rfl:=f15 (hall 15 (by decide))
  obtain rfl:=f16 (hall 16 (by decide))
  obtain rfl:=f17 (hall 17 (by decide))
  obtain rfl:=f18 (hall 18 (by decide))
  obtain rfl:=f19 (hall 19 (by decide))
  obtain rfl:=f20 (hall 20 (by decide))
  obtain rfl:=f21 (hall 21 (by decide))
  obtain rfl:=f22 (hall 22 (by decide))
  obtain rfl:=f23 (hall 23 (by decide))
  obtain rfl:=f25 (hall 25 (by decide))
  have x33:=f9 (hall 9 (by decide))
  have x48:=f24 (hall 24 (by decide))
  clear f0 f1 f2 f3 f4 f5 f6 f7 f8 f10 f11 f12 f13 f14 f15 f16 f17 f18 f19 f20 f21 f22 f23 f25 hall
  have A2:=A1.below' hW
  have aB:=bC hbel0 hW
  refine bJ rfl rfl rfl rfl rfl A2 (ah _ _) aD hEl ?_
  have A3:=A2.row (ints .u8 (eE I J Z j i x))
  have aG:=az aB (show w.heap.size<=w.heap.size+1 by omega) (ints .u8 (eE I J Z j i x))
  clear A0 A1 A2 aB hbel0 hW K0 SI SJ SZ kt HE hs1 hs2 FT hol hgl
  generalize W.setRow (w.heap.size+1) (ints .u8 (eE I J Z j i x))=w3 at *
  go_wp2_with fail
  refine aO rfl rfl A3 aD hEl ⟨rfl,aG⟩
end
end Go.Proofs.YtaiffkajkbiidaaGreatDoor
