/- What this claim leans on, part 25: laws of the model, and what functions of the program compute. No condition but what each law states. -/
import Derived.Test.YtaiffkajkbiidaaGreatDoorQ24
namespace Go.Proofs.YtaiffkajkbiidaaGreatDoor
set_option linter.unusedSimpArgs false
set_option linter.unusedVariables false
set_option linter.unusedSectionVars false
set_option maxRecDepth 100000
set_option maxHeartbeats 40000000
open Go.Proofs.Tryz
open Tryz
section
open Go.RowKit
theorem jW (gk c:Nat)(ks:List (List Nat))(hk:∀k∈ks,k.length=16)(hkb:∀k∈ks,∀x∈k,x<256)(hn:ks.length<2^31)(w:World)(hK:Sl w (some ⟨gk,0,none⟩) .u8 ks.flatten) :
  Calls prog 177 #[.slice (some ⟨gk,0,none⟩) ks.length c] w λe w'=>e=.returned (.agg (ints .u8 (dR (zeros 16) ks)))/\Below w.heap.size w w':=by
 obtain⟨m,HM⟩:=bD (ks.length)
 rw[HM.out] at hn ⊢
 have hb:(zeros 16).length=16:=aH _
 have hbb:∀x∈zeros 16,x<256:=λx hx=>by unfold zeros at hx;rw[List.mem_replicate] at hx;omega
 have A1:=(aA.new w 96 (ints .u8 (zeros 16))).alloc (.cells (ints .u8 (zeros 16)) 96)
 have A0:=aA.new (w.alloc (.cells (ints .u8 (zeros 16)) 96)) 96 (ints .u8 (zeros 16))
 rw[World.size_alloc] at A0
 have hbel0:=(bN w (.cells (ints .u8 (zeros 16)) 96)).alloc (by simp) (.cells (ints .u8 (zeros 16)) 96)
 go_enter func177,ntmps177
 go_wp2_with ((first|(refine ae rfl 96 rfl fw ?_));(try simp only[nn,Nat.reduceAdd]))
 generalize ((w.alloc (.cells (ints .u8 (zeros 16)) 96)).alloc (.cells (ints .u8 (zeros 16)) 96))=w0 at *
 go_loopw [9] (λt wr=>∃i:Nat,i<=m/\t=.int .i64 (i:Int)/\aA wr (w.heap.size+1) 96 (ints .u8 (dR (zeros 16) (ks.take i)))/\aA wr w.heap.size 96 (ints .u8 (zeros 16))/\Below w.heap.size w wr) (λt wr=>m-(intOf t).toNat)
 case atStart=>exact⟨0,by omega,rfl,A0,A1,hbel0⟩
 case round =>
  clear A0 A1 hbel0
  obtain⟨i,hi,rfl,A0,A1,hbel⟩:=hrel
  have hln:=fC (ks.take i) (zeros 16) hb
  have hlb:=dE (ks.take i) (zeros 16) hbb λk h=>hkb k (List.mem_of_mem_take h)
  by_cases hlt:i<m
  ·have hd:decide ((i:Int)<(m:Int))=true:=by simp;omega
   have hik:i<ks.length:=by rw[HM.out];exact hlt
   have hS:=xI (hK.below hbel) hk hik
   have fI:(ks.getD i []).length=16:=bQ (p:=λk=>k.length=16) hk hik
   have pK:∀x∈ks.getD i [],x<256:=bQ (p:=λk=>∀x∈k,x<256) hkb hik
   have HF:Hid (dR (zeros 16) (ks.take (i+1))=eT (dR (zeros 16) (ks.take i)) (ks.getD i [])):=aR (iF _ _ _ _ hik)
   have hii:(i:Int)<(m:Int):=by omega
   generalize ks.getD i []=k at *
   generalize dR (zeros 16) (ks.take i)=x at *
   have hkne:k≠[]:=λe=>by rw[e] at fI;simp at fI
   have K0:=A0.alloc (.cells (ints .u8 (zeros 16)) 96)
   have K1:=A1.alloc (.cells (ints .u8 (zeros 16)) 96)
   have K2:=aA.new wr 96 (ints .u8 (zeros 16))
   have hl1:=A0.lt
   have M0:=K0.aM (show w.heap.size+1≠wr.heap.size by omega) (ints .u8 k)
   have M1:=K1.aM (show w.heap.size≠wr.heap.size by omega) (ints .u8 k)
   have M2:=K2.row (ints .u8 k)
   have aB:=az (hbel.alloc hbel.size (.cells (ints .u8 (zeros 16)) 96)) hbel.size (ints .u8 k)
   clear A0 A1 hbel K0 K1
   go_wp2_with ((first
    | (refine aZ rfl (bq rfl rfl hS aD fI hkne) ?_)
    | (refine ae rfl 96 rfl fw ?_)
    | (refine aa rfl 96 _ _ rfl wr.heap.size rfl rfl K2 (ah _ _) aD fI ?_));(try simp only[nn,Nat.reduceAdd]))
   generalize ((wr.alloc (.cells (ints .u8 (zeros 16)) 96)).setRow wr.heap.size (ints .u8 k))=w2 at *
   have hnb:w.heap.size+1<wr.heap.size:=hl1
   clear K2 hS
   generalize wr.heap.size=nb at *
   go_loopw [13] (λt wr'=>∃q:Nat,q<=16/\t=.int .i64 (q:Int)/\aA wr' (w.heap.size+1) 96 (ints .u8 (qI x k q))/\aA wr' w.heap.size 96 (ints .u8 (zeros 16))/\aA wr' nb 96 (ints .u8 k)/\Below w.heap.size w wr') (λt wr'=>16-(intOf t).toNat)
   case atStart=>exact⟨0,by omega,rfl,by rw[mh];exact M0,M1,M2,aB⟩
   case round =>
    clear M0 M1 M2 aB
    obtain⟨q,hq,rfl,M0,M1,M2,aB⟩:=hrel
    by_cases hlq:q<16
    ·have hd2:decide ((q:Int)<16)=true:=by simp;omega
     have hxl:=oq (ys:=k) hln hq
     have c0:=M0.int (i:=q) (by omega)
     rw[ow hln hlq] at c0
     have c1:=M2.int (i:=q) (by omega)
     have z0:=M0.frozen q
     have hqi:(q:Int)<16:=by omega
     have zn:=M0.dw q (x.getD q 0^^^k.getD q 0)
     rw[oo hln hlq] at zn
     have HX:=aR (tC (aC hlb (by decide) q) (aC pK (by decide) q))
     have P0:=aR zn.drew
     have P1:=(M1.far (p:=⟨w.heap.size+1,q,none⟩) (show w.heap.size≠w.heap.size+1 by omega) (.int .u8 ((x.getD q 0^^^k.getD q 0:Nat):Int))).drew
     have P2:=(M2.far (p:=⟨w.heap.size+1,q,none⟩) (show nb≠w.heap.size+1 by omega) (.int .u8 ((x.getD q 0^^^k.getD q 0:Nat):Int))).drew
     have aG:=(aB.setCell (p:=⟨w.heap.size+1,q,none⟩) (by show w.heap.size<=w.heap.size+1;omega) (.int .u8 ((x.getD q 0^^^k.getD q 0:Nat):Int))).drew
     have R0:=aR P1
     have R1:=aR P2
     have R2:=aR aG
     clear M0 M1 M2 zn P1 P2 aB aG hxl
     generalize x.getD q 0=xv at *
     generalize k.getD q 0=kv at *
     go_wp2_with fail
     go_region
     rw[HX.out]
     go_wp2_with fail
     exact⟨⟨q+1,by omega,by go_num,P0.out,R0.out,R1.out,R2.out⟩,by simp[intOf]<;>omega⟩
    ·obtain rfl:q=16:=by omega
     have hd2:decide (((16:Nat):Int)<16)=false:=by simp
     rw[mi hln] at M0
     go_wp2_with fail
     exact⟨⟨i+1,by omega,by go_num,by rw[HF.out];exact M0,M1,aB⟩,by simp[intOf]<;>omega⟩
  ·obtain rfl:i=m:=by omega
   have hd:decide ((i:Int)<(i:Int))=false:=by simp
   have he:ks.take i=ks:=List.take_of_length_le (by rw[HM.out];omega)
   rw[he] at A0 hln
   clear he
   go_wp2_with ((first|(refine ag rfl 96 _ rfl _ rfl A0 aD hln ?_)|(refine aa rfl 96 _ _ rfl _ rfl rfl A1 (ah _ _) aD hln ?_));(try simp only[nn,Nat.reduceAdd]))
   refine aO rfl rfl (A1.row _) aD hln ⟨rfl,?_⟩
   exact az hbel dM _
theorem Bo (m:List Nat)(k:Nat)(hk:k<=m.length)(fI:16<=k)(hm:m.length<208)(a:Option Addr)(c:Nat)(hc:m.length<=c)(w:World)(hs:Sl w a .u8 m) :
  Calls prog 189 #[.slice a m.length c,.int .i64 (k:Int)] w λe w'=>e=.returned (.agg (ints .u8 (aU ((m.drop (m.length-k)).take 16))))/\Below w.heap.size w w':=by
 obtain⟨N,HN⟩:=bD (m.length)
 have ho:=λW (h:Sl W a .u8 m)=>uD (m.length-k) 16 m (by omega) hm a c hc W h
 rw[Yy,HN.out] at ho
 rw[HN.out] at hk hm hc ⊢
 obtain⟨q,Hq⟩:=bD (N-k)
 rw[Hq.out] at ho ⊢
 have hq:(N:Int)-(k:Int)=(q:Int):=by rw[←Hq.out];omega
 have hwq:IntKind.i64.wrap (q:Int)=(q:Int):=IntWalk.i64_in _ (by rw[←Hq.out];omega)
 have hcv:=λW=>nR q W
 have hpl:((m.drop q).take 16).length=16:=by rw[List.length_take,List.length_drop,HN.out,←Hq.out];omega
 generalize (m.drop q).take 16=X at *
 generalize FL q=fq at *
 have A0:=aA.new w 96 (ints .u8 (zeros 16))
 have hbel0:=bN w (.cells (ints .u8 (zeros 16)) 96)
 have hs0:=hs.below hbel0
 clear Hq
 go_enter func189,ntmps189
 go_wp2_with ((first|(refine ae rfl 96 rfl fw ?_));(try simp only[nn,Nat.reduceAdd]))
 generalize (w.alloc (.cells (ints .u8 (zeros 16)) 96))=w0 at *
 refine(ho w0 hs0).mono ?_
 rintro e w1 ⟨v,rfl,O,hb1⟩
 obtain⟨av,cv,rfl,S,-,-,-⟩:=O.mZ
 have hbk:=fB av cv X w1 S
 rw[hpl] at hbk
 have A1:=A0.below' hb1
 have aK:=bC hbel0 hb1
 go_wp2_with fail
 refine hbk.mono ?_
 rintro e w2 ⟨rfl,hb2⟩
 have A2:=A1.below' hb2
 have aB:=bC aK hb2
 have hbl:=bG X
 clear A0 A1 hbel0 aK hs hs0 hb1 hb2 hbk ho
 go_wp2_with ((first|(refine aa rfl 96 _ _ rfl _ rfl rfl A2 (ah _ _) aD hbl ?_));(try simp only[nn,Nat.reduceAdd]))
 refine aO rfl rfl (A2.row _) aD hbl ⟨rfl,az aB dM _⟩
def lS (b:List Nat):List Nat:=aU (dC (b++[128]))
theorem mJ (b:List Nat):(lS b).length=16:=bG _
theorem RJ (b:List Nat)(hb:∀x∈b,x<256)(hl:b.length<2^20)(a:Option Addr)(c:Nat)(w:World)(hs:Sl w a .u8 b) :
  Calls prog 190 #[.slice a b.length c] w λe w'=>e=.returned (.agg (ints .u8 (lS b)))/\Below w.heap.size w w':=by
 have A0:=aA.new w 96 (ints .u8 (zeros 16))
 have hbel0:=bN w (.cells (ints .u8 (zeros 16)) 96)
 have hs0:=hs.below hbel0
 obtain⟨N,HN⟩:=bD (b.length)
 have hmk:=λW s=>CP a c N b HN.out (by rw[←HN.out];omega) W s
 have hbl:=mJ b
 have HM:Hid (lS b=aU (dC (b++[128]))):=aR rfl
 rw[HN.out]
 generalize dC (b++[128])=PL at *
 generalize lS b=M at *
 go_enter func190,ntmps190
 go_wp2_with ((first|(refine ae rfl 96 rfl fw ?_));(try simp only[nn,Nat.reduceAdd]))
 generalize (w.alloc (.cells (ints .u8 (zeros 16)) 96))=w0 at *
 refine(hmk w0 hs0).mono ?_
 rintro e w1 ⟨rfl,hb1,X1⟩
 have hbk:=fB (some ⟨w0.heap.size+1,0,none⟩) PL.length PL w1 (Sl.blk X1)
 rw[←HM.out] at hbk
 have A1:=A0.below' hb1
 have aK:=bC hbel0 hb1
 go_wp2_with fail
 refine hbk.mono ?_
 rintro e w2 ⟨rfl,hb2⟩
 have A2:=A1.below' hb2
 have aB:=bC aK hb2
 clear A0 A1 hbel0 aK hs hs0 hb1 hb2 hbk hmk X1
 go_wp2_with ((first|(refine aa rfl 96 _ _ rfl _ rfl rfl A2 (ah _ _) aD hbl ?_));(try simp only[nn,Nat.reduceAdd]))
 refine aO rfl rfl (A2.row _) aD hbl ⟨rfl,az aB dM _⟩
end
section
open Go.RowKit
def iA (ps us vs:Value)(x y:List Nat):List Value:=[ps,us,vs]++(vals .u8 x++vals .u8 y)
theorem WB (ps us vs:Value){x y:List Nat}(hx:x.length=16)(hy:y.length=16):(iA ps us vs x y).length=35:=by simp[iA,bg,hx,hy]
theorem pE (ps us vs:Value){x y:List Nat}(hx:x.length=16)(hy:y.length=16):(iA ps us vs x y).toArray.size=35:=by rw[List.size_toArray];exact WB ps us vs hx hy
theorem Tryz.qW:dG prog 259 35:=isStr underlying259 (by kernel_rfl)
theorem Tryz.Yc:dG prog 269 32:=⟨⟨_,underlying269,rfl⟩,by kernel_rfl⟩
theorem Tryz.adQ:(prog.info? 269).map (λi=>(i.zero,i.size,i.bytes))=some (some (.agg (ints .u8 (zeros 32))),32,32):=by kernel_rfl
theorem adn:(prog.info? 257).map (·.size)=some 1:=by kernel_rfl
theorem agk (x y:List Nat)(hx:x.length=16)(hy:y.length=16)(W:World):(Instr.build 259 #[(3,.agg (ints .u8 x)),(4,.agg (ints .u8 y))]).run prog W=.ok (.agg (iA (.slice none 0 0) (.slice none 0 0) (.slice none 0 0) x y).toArray) W:=by
 obtain⟨a0,a1,a2,a3,a4,a5,a6,a7,a8,a9,acR,acQ,a12,acP,acO,acN,rfl⟩:=fZ x hx
 obtain⟨b0,b1,b2,b3,b4,b5,b6,b7,b8,b9,b10,b11,b12,b13,b14,b15,rfl⟩:=fZ y hy
 kernel_rfl
theorem NV {o:Oper}{a:Act}{p q:Operand}{x y:List Nat}{w:World}(ho:o.op=.build 259 #[(3,p),(4,q)])(hp:a.eval p=.agg (ints .u8 x))(hq:a.eval q=.agg (ints .u8 y))(hx:x.length=16)(hy:y.length=16):(execOp a.eval o).run prog w=.ok (.value (.agg (iA (.slice none 0 0) (.slice none 0 0) (.slice none 0 0) x y).toArray)) w:=by
 unfold execOp
 simp only[ho,List.map_toArray,List.map_cons,List.map_nil,hp,hq]
 simp only[Sem.run_bind,agk x y hx hy,Result.andThen_ok]
 rfl
theorem agj (x y:List Nat)(hx:x.length=16)(hy:y.length=16)(W:World):(Instr.build 269 #[(0,.agg (ints .u8 x)),(1,.agg (ints .u8 y))]).run prog W=.ok (.agg (ints .u8 (x++y))) W:=by
 obtain⟨a0,a1,a2,a3,a4,a5,a6,a7,a8,a9,acR,acQ,a12,acP,acO,acN,rfl⟩:=fZ x hx
 obtain⟨b0,b1,b2,b3,b4,b5,b6,b7,b8,b9,b10,b11,b12,b13,b14,b15,rfl⟩:=fZ y hy
 kernel_rfl
theorem vk {o:Oper}{a:Act}{p q:Operand}{x y:List Nat}{w:World}(ho:o.op=.build 269 #[(0,p),(1,q)])(hp:a.eval p=.agg (ints .u8 x))(hq:a.eval q=.agg (ints .u8 y))(hx:x.length=16)(hy:y.length=16):(execOp a.eval o).run prog w=.ok (.value (.agg (ints .u8 (x++y)))) w:=by
 unfold execOp
 simp only[ho,List.map_toArray,List.map_cons,List.map_nil,hp,hq]
 simp only[Sem.run_bind,agj x y hx hy,Result.andThen_ok]
 rfl
theorem bsPr (x y:List Nat)(hx:x.length=16)(hy:y.length=16)(W:World):(Instr.buildSlice 257 1 #[(0,.agg (ints .u8 (x++y)))]).run prog W=.ok (.slice (some ⟨W.heap.size,0,none⟩) 1 1) (W.alloc (.cells (ints .u8 (x++y)) 269)):=by
 obtain⟨a0,a1,a2,a3,a4,a5,a6,a7,a8,a9,acR,acQ,a12,acP,acO,acN,rfl⟩:=fZ x hx
 obtain⟨b0,b1,b2,b3,b4,b5,b6,b7,b8,b9,b10,b11,b12,b13,b14,b15,rfl⟩:=fZ y hy
 kernel_rfl
def qH (L:Nat):Nat:=(L-32)/32
def DJ (L:Nat):Nat:=min ((L-32)%32) 16
def UG (L:Nat):Nat:=(L-32)%32-DJ L
theorem lv {xs:List Nat}(h:16<=xs.length):aU xs=xs.take 16:=by
 refine gX (by rw[bG,List.length_take];omega) λi hi=>?_
 rw[bG] at hi
 rw[yC hi]
 unfold aU
 rw[List.getD_eq_getElem?_getD,List.getElem?_map,List.getElem?_range hi]
 rfl
theorem ZP {m:List Nat}(i D:Nat)(hD:32<=D)(h:32*i+D<=m.length):m.take (32*i)++(aU ((m.drop (32*i)).take D)++aU (((m.drop (32*i)).take D).drop 16))=m.take (32*(i+1)):=by
 have h1:((m.drop (32*i)).take D).length=D:=by rw[List.length_take,List.length_drop];omega
 rw[lv (by omega),lv (by rw[List.length_drop];omega),←List.take_add,List.take_take,←List.take_add]
 congr 1
 omega
structure Vo (w:World)(gz gm n:Nat)(zc:Array Value)(p q:Value)(X Y Q:List Nat)(W:World):Prop where
 je:Below w.heap.size w W
 z:aA W gz 259 zc
 m:aA W gm 259 (iA p (.slice none 0 0) (.slice none 0 0) X Y).toArray
 o:dD W w.heap.size 269 32 .u8 q n Q
theorem Vo.below {w:World}{gz gm n:Nat}{zc:Array Value}{p q:Value}{X Y Q:List Nat}{W W':World}(h:Vo w gz gm n zc p q X Y Q W)(hb:Below W.heap.size W W'):Vo w gz gm n zc p q X Y Q W' :=
 ⟨dx h.je hb h.je.size,h.z.below' hb,h.m.below' hb,h.o.below hb⟩
def aco (w wr:World)(gz gm n:Nat)(zc:Array Value)(p:Value)(X Y Q:List Nat)(k:Nat)(e:Nat->Value)(W:World):Prop :=
 (k=0->Below wr.heap.size wr W)/\(k=1->Vo w gz gm n zc p (e 26) X Y Q W)/\(1<k->Vo w gz gm n zc (e 26) (e 26) X Y Q W)
theorem aco.lN {w wr:World}{gz gm n:Nat}{zc:Array Value}{p:Value}{X Y Q:List Nat}(k:Nat)(e:Nat->Value)(W W':World)(h:aco w wr gz gm n zc p X Y Q k e W)(hb:Below W.heap.size W W'):aco w wr gz gm n zc p X Y Q k e W' :=
 ⟨λhk=>dx (h.1 hk) hb (h.1 hk).size,λhk=>(h.2.1 hk).below hb,λhk=>(h.2.2 hk).below hb⟩
theorem aco.agn {w wr:World}{gz gm n:Nat}{zc:Array Value}{p:Value}{X Y Q:List Nat}{k:Nat}{e:Nat->Value}{W:World}(h:aco w wr gz gm n zc p X Y Q k e W)(hb:Below w.heap.size w wr):Below w.heap.size w W:=by
 rcases Nat.lt_trichotomy k 1 with h1|h1|h1
 ·have:=h.1 (by omega)
  exact bC hb this
 ·exact(h.2.1 h1).je
 ·exact(h.2.2 h1).je
theorem WA (p q us vs:Value)(X Y:List Nat):(iA p us vs X Y).toArray.setIfInBounds 0 q=(iA q us vs X Y).toArray:=by simp[iA]
theorem Vo.set {w:World}{gz gm n:Nat}{zc:Array Value}{p q:Value}{X Y Q:List Nat}{W:World}(h:Vo w gz gm n zc p q X Y Q W){ad:Option Addr}{l c:Nat}(he:q=.slice ad l c)(h1:w.heap.size<=gm)(h2:gz≠gm):Vo w gz gm n zc q q X Y Q (W.setCell ⟨gm,0,none⟩ (.slice ad l c)):=by
 rw[←he]
 refine⟨h.je.setCell (p:=⟨gm,0,none⟩) h1 _,h.z.far (p:=⟨gm,0,none⟩) h2 _,?_,h.o.ch (Ch.bX (iG.set W gm 0 _)) (h.o.KA h.m (by decide))⟩
 have h3:=h.m.kL 0 q
 rwa [WA] at h3
theorem CO (a1 a2 a3:Option Addr)(n1 n2 n3 c1 c2 c3:Nat)(X Y:List Nat):(iA (.slice a1 n1 c1) (.slice a2 n2 c2) (.slice a3 n3 c3) X Y).toArray.all (·.oneCell')=true:=by
 rw[Array.all_eq_true]
 intro i hi
 have h1:∀v∈iA (.slice a1 n1 c1) (.slice a2 n2 c2) (.slice a3 n3 c3) X Y,v.oneCell'=true:=λv hv=>by
  unfold iA at hv
  rcases List.mem_append.1 hv with hv|hv
  ·simp only[List.mem_cons,List.not_mem_nil,or_false] at hv
   rcases hv with rfl|rfl|rfl<;>rfl
  ·rcases List.mem_append.1 hv with hv|hv<;>exact dX _ _ v hv
 exact h1 _ (by simp)
theorem FH (p us q vs:Value)(X Y:List Nat):(iA p us vs X Y).toArray.setIfInBounds 1 q=(iA p q vs X Y).toArray:=by simp[iA]
theorem FE (p us vs q:Value)(X Y:List Nat):(iA p us vs X Y).toArray.setIfInBounds 2 q=(iA p us q X Y).toArray:=by simp[iA]
def Mc:Array Value:=(iA (.slice none 0 0) (.slice none 0 0) (.slice none 0 0) (zeros 16) (zeros 16)).toArray
theorem Yd (m:List Nat)(hm:∀x∈m,x<256)(h32:32<=m.length)(hL:m.length<208)(g0 o0 c:Nat)(hc:m.length<=c)(w:World)(hs:Sl w (some ⟨g0,o0,none⟩) .u8 m) :
  Calls prog 176 #[.slice (some ⟨g0,o0,none⟩) m.length c] w λe w'=>∃ps cu cv,e=.returned (.agg (iA ps (.slice (some ⟨g0,o0+32*qH m.length,none⟩) (DJ m.length) cu) (.slice (some ⟨g0,o0+(32*qH m.length+DJ m.length),none⟩) (UG m.length) cv) (aU ((m.drop (m.length-32)).take 16)) (aU ((m.drop (m.length-16)).take 16))).toArray)/\dD w' w.heap.size 269 32 .u8 ps (qH m.length) (m.take (32*qH m.length))/\Below w.heap.size w w':=by
 obtain⟨L,HL⟩:=bD (m.length)
 have hx:=λW (s:Sl W (some ⟨g0,o0,none⟩) .u8 m)=>Bo m 32 (by omega) (by decide) hL (some ⟨g0,o0,none⟩) c hc W s
 have hy:=λW (s:Sl W (some ⟨g0,o0,none⟩) .u8 m)=>Bo m 16 (by omega) (by decide) hL (some ⟨g0,o0,none⟩) c hc W s
 rw[HL.out] at hx hy h32 hL hc ⊢
 simp only[Int.cast_ofNat_Int] at hx hy
 have hxl:=bG ((m.drop (L-32)).take 16)
 have hyl:=bG ((m.drop (L-16)).take 16)
 generalize aU ((m.drop (L-32)).take 16)=X at *
 generalize aU ((m.drop (L-16)).take 16)=Y at *
 obtain⟨M,HM⟩:=bD (L-32)
 have hM:(L:Int)-32=(M:Int):=by rw[←HM.out];omega
 have hwM:IntKind.i64.wrap (M:Int)=(M:Int):=IntWalk.i64_in _ (by rw[←HM.out];omega)
 have hMc:M+32<=c:=by rw[←HM.out];omega
 have hML:M+32=L:=by rw[←HM.out];omega
 have A0:=aA.new w 259 (iA (.slice none 0 0) (.slice none 0 0) (.slice none 0 0) (zeros 16) (zeros 16)).toArray
 have hbel0:=bN w (.cells (iA (.slice none 0 0) (.slice none 0 0) (.slice none 0 0) (zeros 16) (zeros 16)).toArray 259)
 have hs0:=hs.below hbel0
 go_enter func176,ntmps176
 go_wp2_with fail
 change aA _ _ _ Mc at A0
 change Below _ _ (w.alloc (.cells Mc 259)) at hbel0
 change aA (w.alloc (.cells Mc 259)) _ _ _ at A0
 change Sl (w.alloc (.cells Mc 259)) _ _ _ at hs0
 show Code.wp _ _ _ _ (w.alloc (.cells Mc 259))
 generalize (w.alloc (.cells Mc 259))=w0 at *
 have hzc:Mc.size=35:=pE _ _ _ rfl rfl
 generalize Mc=zc at *
 obtain⟨J,HJ,HI0⟩:=jmp (λaJ w'=>∃(U:Nat->Value) (i:Nat) (gm:Nat) (ps:Value),aJ={ tmps:=#[.slice (some ⟨g0,o0+32*i,none⟩) (M-32*i) (c-32*i),U 1,.pointer (some ⟨w.heap.size,0,none⟩),.pointer (some ⟨gm,0,none⟩),U 4,U 5,U 6,U 7,U 8,U 9,U 10,U 11,U 12,U 13,U 14,U 15,U 16,U 17,U 18,U 19,U 20,U 21,U 22,U 23,U 24,U 25,U 26,U 27,U 28,U 29,U 30,U 31,U 32,U 33,U 34,U 35,U 36,U 37,U 38,U 39,U 40,U 41,U 42],defers:=[] }/\32*i<=M/\w.heap.size<gm/\Vo w w.heap.size gm i zc ps ps X Y (m.take (32*i)) w')
 have HI:Hid (∀(T:Array Value) (w':World),(∃(i:Nat) (gm:Nat) (ps:Value),T=((λ(U:Nat->Value)=>#[.slice (some ⟨g0,o0+32*i,none⟩) (M-32*i) (c-32*i),U 1,.pointer (some ⟨w.heap.size,0,none⟩),.pointer (some ⟨gm,0,none⟩),U 4,U 5,U 6,U 7,U 8,U 9,U 10,U 11,U 12,U 13,U 14,U 15,U 16,U 17,U 18,U 19,U 20,U 21,U 22,U 23,U 24,U 25,U 26,U 27,U 28,U 29,U 30,U 31,U 32,U 33,U 34,U 35,U 36,U 37,U 38,U 39,U 40,U 41,U 42]) λi=>T.getD i undef)/\32*i<=M/\w.heap.size<gm/\Vo w w.heap.size gm i zc ps ps X Y (m.take (32*i)) w')->J { tmps:=T,defers:=[] } w') :=
  aR λT w' ⟨i,gm,ps,hJ,rJ⟩=>HI0.out _ _ ⟨λi=>T.getD i undef,i,gm,ps,congrArg (λT=>({ tmps:=T,defers:=[] }:Act)) hJ,rJ⟩
 clear HI0
 obtain⟨μ,Hμ⟩:∃μ:Act->World->Nat,Hid (∀a w',μ a w'=RX (a.tmps.getD 0 undef)):=⟨_,aR λ_ _=>rfl⟩
 refine dF 0 J μ (by simp only[findLabel];rfl) ?_ ?_
 ·intro a' wr hj
  obtain⟨U,i,gm,ps,rfl,hiM,hwg,hG⟩:=HJ.out _ _ hj
  clear hj A0 hbel0 hs0 hx hy
  obtain⟨B,HB⟩:=bD (32*i)
  rw[HB.out] at hiM hG ⊢
  obtain⟨D,HD⟩:=bD (M-B)
  rw[HD.out]
  by_cases hd:32<=D
  ·have hd1:decide ((D:Int)≥32)=true:=by simp;omega
   have hcB:32<c-B:=by have:=HD.out;omega
   have hbl:((m.drop B).take D).length=D:=by rw[List.length_take,List.length_drop,HL.out,←HD.out];omega
   have hbl2:(((m.drop B).take D).drop 16).length=D-16:=by rw[List.length_drop,hbl]
   have S0w:=(hs.off B).take D
   have S1w:=S0w.off 16
   have HQ:Hid (m.take B++(aU ((m.drop B).take D)++aU (((m.drop B).take D).drop 16))=m.take (32*(i+1))):=aR (by
    rw[←HB.out]
    exact ZP i D hd (by rw[HB.out,HL.out,←HD.out];omega))
   have hk1:=λW (s:Sl W (some ⟨g0,o0+B,none⟩) .u8 ((m.drop B).take D))=>fB (some ⟨g0,o0+B,none⟩) (c-B) _ W s
   have hk2:=λW (s:Sl W (some ⟨g0,o0+B+16,none⟩) .u8 (((m.drop B).take D).drop 16))=>fB (some ⟨g0,o0+B+16,none⟩) (c-B-16) _ W s
   rw[hbl] at hk1
   rw[hbl2] at hk2
   have hl1:=bG ((m.drop B).take D)
   have hl2:=bG (((m.drop B).take D).drop 16)
   generalize aU (((m.drop B).take D).drop 16)=P2 at *
   generalize aU ((m.drop B).take D)=P1 at *
   generalize ((m.drop B).take D).drop 16=b2 at *
   generalize (m.drop B).take D=b1 at *
   generalize m.take B=Q0 at *
   obtain⟨Q1,PH⟩:=bD (m.take (32*(i+1)))
   rw[PH.out] at HQ
   have hP:(P1++P2).length=32:=by rw[List.length_append,hl1,hl2]
   have hbs:=λW=>bsPr P1 P2 hl1 hl2 W
   generalize hPP:P1++P2=PP at *
   have hi32:i+1<2^32:=by have:=HB.out;omega
   obtain⟨aP,cP,rfl,-,-,-⟩:=hG.o.mZ
   have k0:wr.cell? ⟨gm,0,none⟩=some (.slice aP i cP):=by rw[hG.m.cell];rfl
   have z0:=hG.m.frozen 0
   have hgm:=hG.m.lt
   have DV:=hG.je.size
   go_wp2_with fail
   have aI:=oJ (S:=(aco w wr w.heap.size gm (i+1) zc (.slice aP i cP) X Y Q1)) (λk e W W' h hb=>aco.lN k e W W' h hb)
   refine aS (n:=43) (T:=?_) [(17,.pointer (some ⟨gm,0,none⟩)),(18,.slice aP i cP),(19,.slice (some ⟨g0,o0+B,none⟩) D (c-B)),(20,.agg (ints .u8 P1)),(21,.slice (some ⟨g0,o0+B,none⟩) D (c-B)),(22,.slice (some ⟨g0,o0+B+16,none⟩) (D-16) (c-B-16)),(23,.agg (ints .u8 P2)),(24,.agg (ints .u8 PP)),(27,.pointer (some ⟨gm,0,none⟩))] [25,26] (λs W u=>(s=25->NS wr.heap.size 269 1 (ints .u8 PP) W u)/\(s=26->∃ad n c,u=Value.slice ad n c)) (RB wr.heap.size) [9,11] _ aI (by kernel_rfl) (by kernel_rfl) rfl (by kernel_rfl) (by kernel_rfl) (by kernel_rfl) (λs W W' v hR h=>⟨λe=>(λh hR=>h.rb hR) (h.1 e) hR,λe=>(λh _=>h) (h.2 e) hR⟩) (⟨λ_=>dQ _,λh=>absurd h (by decide),λh=>absurd h (by decide)⟩) ?_ ?_ ?_ ?_
   rotate_left
   ·intro e;simp only[tv,nn,Nat.reduceAdd];exact rfl
   ·exact λe=>rfl
   ·intro i o il k qB hst e W hS hla
    rcases i with _|_|_|_|_|_|_|_|_|_|_|_|i<;>try cases il
    ·exact kv 17 rfl rfl (by kernel_rfl) rfl rfl rfl (RB.refl _ _) hS
    ·obtain rfl:k=0:=Nat.le_zero.1 (aQ hst 0 9 rfl (by kernel_rfl))
     exact kv 18 rfl rfl (bO rfl rfl underlying257 (((hS.1 rfl).cell (p:=⟨gm,0,none⟩) hgm).trans k0)) rfl rfl rfl (RB.refl _ _) hS
    ·exact kv 19 rfl rfl rfl rfl rfl rfl (RB.refl _ _) hS
    ·exact kc 20 38 rfl rfl rfl func38 (hk1 W (S0w.below (hS.agn hG.je))) rfl rfl rfl (λ_ hW'=>(RB.below hW')) λ_ hW'=>aI k e _ _ hS hW'
    ·exact kv 21 rfl rfl rfl rfl rfl rfl (RB.refl _ _) hS
    ·exact kv 22 rfl rfl (nA rfl underlying23 s15 rfl rfl (n:=16) (by omega) (by omega)) rfl rfl rfl (RB.refl _ _) hS
    ·exact kc 23 38 rfl rfl rfl func38 (hk2 W (S1w.below (hS.agn hG.je))) rfl rfl rfl (λ_ hW'=>(RB.below hW')) λ_ hW'=>aI k e _ _ hS hW'
    ·exact kv 24 rfl rfl (by rw[←hPP];exact vk rfl rfl rfl hl1 hl2) rfl rfl rfl (RB.refl _ _) hS
    ·obtain rfl:k=0:=Nat.le_zero.1 (aQ hst 0 9 rfl (by kernel_rfl))
     refine cz rfl rfl (nD (u0:=.agg (ints .u8 PP)) rfl rfl (hbs W)) ?_
     exact KL.lt 25 rfl rfl ⟨λ_=>(⟨W.heap.size,rfl,(hS.1 rfl).size,aA.new _ _ _⟩),λe=>absurd e (by decide)⟩ ((RB.below (bN _ _))) (aI _ _ _ _ hS (bN _ _))
    ·obtain rfl:k=0:=Nat.le_zero.1 (aQ hst 0 9 rfl (by kernel_rfl))
     obtain⟨g9,hg9,hgB9,hgK9⟩:=((hla 25 rfl (by kernel_rfl)).1 rfl);have O9:=hG.o.below (hS.1 rfl);refine sO rfl rfl rfl underlying257 adQ (ah _ _) (by decide) (by decide) rfl O9 (by show e 25=_;exact hg9) hP (Sl.blk hgK9) hi32 (Nat.le_trans DV (hS.1 rfl).size) ?_;intro v' w9 O8 hgr;have hBz9:=(hS.1 rfl).size
     exact KL.lt 26 rfl rfl ⟨λe=>absurd e (by decide),λ_=>((let ⟨a9,c9,h9,_⟩:=O8.mZ;⟨a9,i+1,c9,h9⟩))⟩ ((RB.grown hgr (λg hg=>hG.o.lt_ g hg))) (⟨λh=>absurd h (by decide),λ_=>⟨O9.gI (dx hG.je (hS.1 rfl) DV) hgr (Nat.le_trans DV hBz9) dM,O9.Gi hgr (hG.z.below' (hS.1 rfl)) (by decide),O9.Gi hgr (hG.m.below' (hS.1 rfl)) (by decide),HQ.out▸O8⟩,λh=>absurd h (by decide)⟩)
    ·exact kv 27 rfl rfl (by kernel_rfl) rfl rfl rfl (RB.refl _ _) hS
    ·obtain rfl:k=1:=Nat.le_antisymm (aQ hst 1 11 rfl (by kernel_rfl)) (gG hst 0 9 rfl (by kernel_rfl))
     obtain⟨ad9,n9,c9,h9⟩:=((hla 26 rfl (by kernel_rfl)).2 rfl);have hG9:=hS.2.1 rfl;refine oF rfl rfl rfl adn rfl (by show e 26=_;exact h9) ((hG9.m.cell 0).trans rfl) (hG9.m.frozen 0) ?_
     exact KL.none rfl ((RB.set _ _ hgm)) (⟨λh=>absurd h (by decide),λh=>absurd h (by decide),λ_=>hG9.set h9 (Nat.le_of_lt hwg) (Nat.ne_of_lt hwg)⟩)
   ·intro e W hS hla
    have l25:=(hla 25 rfl).1 rfl
    have l26:=(hla 26 rfl).2 rfl
    clear hla aI
    have hG2:=hS.2.2 (by decide)
    obtain⟨aN,cN,hN,-,-,-⟩:=hG2.o.mZ
    clear hS l25 l26 hk1 hk2 hbs
    generalize e 26=u26 at *
    generalize e 25=u25 at *
    subst hN
    have HB1:Hid (B+32=32*(i+1)):=aR (by rw[←HB.out];omega)
    have HD1:Hid (D-32=M-32*(i+1)):=aR (by rw[←HB1.out,←HD.out];omega)
    go_wp2_with ((first|(refine aZ rfl (nA rfl underlying23 s15 rfl rfl (n:=32) (by omega) (by omega)) ?_));(try simp only[nn,Nat.reduceAdd]))
    go_step3
    refine⟨rfl,HI.out _ _ ⟨i+1,gm,.slice aN (i+1) cN,?_,by rw[←HB1.out];have:=HD.out;omega,hwg,by rw[PH.out];exact hG2⟩,?_⟩
    ·rw[←HD1.out,←HB1.out,←Nat.sub_sub];rfl
    ·rw[Hμ.out,Hμ.out]
     change D-32<D
     omega
  ·have hd1:decide ((D:Int)≥32)=false:=by simp;omega
   have hG':=hG
   obtain⟨je,zB,mB,oP⟩:=hG'
   obtain⟨aP,cP,rfl,-,-,-⟩:=oP.mZ
   obtain⟨ul,agI⟩:=bD (min D 16)
   have hmin:min (D:Int) 16=(ul:Int):=by rw[←agI.out];omega
   have hulD:ul<=D:=by rw[←agI.out];omega
   have hDc:D<c-B:=by have:=HD.out;omega
   have aeh:ul<c-B:=by omega
   have HN:Hid (qH L=i):=aR (by unfold qH;have:=HB.out;have:=HD.out;omega)
   have HR:Hid ((L-32)%32=D):=aR (by have:=HB.out;have:=HD.out;omega)
   have HU:Hid (DJ L=ul):=aR (by unfold DJ;rw[HR.out];exact agI.out)
   have HV:Hid (UG L=D-ul):=aR (by unfold UG;rw[HR.out,HU.out])
   have k1:wr.cell? ⟨gm,1,none⟩=some (.slice none 0 0):=by rw[mB.cell];rfl
   have k2:wr.cell? ⟨gm,2,none⟩=some (.slice none 0 0):=by rw[mB.cell];rfl
   have z1:=mB.frozen 1
   have z2:=mB.frozen 2
   have B1:=mB.kL 1 (.slice (some ⟨g0,o0+B,none⟩) ul (c-B))
   rw[FH] at B1
   have B2:=B1.kL 2 (.slice (some ⟨g0,o0+(B+ul),none⟩) (D-ul) (c-B-ul))
   rw[FE] at B2
   have hch:Ch gm wr ((wr.setCell ⟨gm,1,none⟩ (.slice (some ⟨g0,o0+B,none⟩) ul (c-B))).setCell ⟨gm,2,none⟩ (.slice (some ⟨g0,o0+(B+ul),none⟩) (D-ul) (c-B-ul))):=(Ch.bX (iG.set wr gm 1 _)).trans (Ch.bX (iG.set _ gm 2 _))
   have oP2:=oP.ch hch (oP.KA mB (by decide))
   have zB2:=hch.blk zB (Nat.ne_of_lt hwg)
   have bel2:=hch.below je (Nat.le_of_lt hwg) je.size
   clear HI HJ HR hG je zB mB oP
   have hsz2:=pE (.slice aP i cP) (.slice (some ⟨g0,o0+B,none⟩) ul (c-B)) (.slice (some ⟨g0,o0+(B+ul),none⟩) (D-ul) (c-B-ul)) hxl hyl
   have hone:=CO aP (some ⟨g0,o0+B,none⟩) (some ⟨g0,o0+(B+ul),none⟩) i ul (D-ul) cP (c-B) (c-B-ul) X Y
   go_wp2_with ((first
    | (refine aZ rfl (tJ rfl underlying23 s15 rfl rfl (n:=ul) (Nat.le_of_lt aeh)) ?_)
    | (refine aZ rfl (nA rfl underlying23 s15 rfl rfl (n:=ul) hulD aeh) ?_)
    | (refine sP rfl _ _ rfl gm rfl B2 qW hsz2 ?_;(generalize ((wr.setCell ⟨gm,1,none⟩ (.slice (some ⟨g0,o0+B,none⟩) ul (c-B))).setCell ⟨gm,2,none⟩ (.slice (some ⟨g0,o0+(B+ul),none⟩) (D-ul) (c-B-ul)))=w3 at *);(have Z3:=zB2.row (iA (.slice aP i cP) (.slice (some ⟨g0,o0+B,none⟩) ul (c-B)) (.slice (some ⟨g0,o0+(B+ul),none⟩) (D-ul) (c-B-ul)) X Y).toArray);(have bel3:=az bel2 dM (iA (.slice aP i cP) (.slice (some ⟨g0,o0+B,none⟩) ul (c-B)) (.slice (some ⟨g0,o0+(B+ul),none⟩) (D-ul) (c-B-ul)) X Y).toArray);(generalize hMG:(iA (.slice aP i cP) (.slice (some ⟨g0,o0+B,none⟩) ul (c-B)) (.slice (some ⟨g0,o0+(B+ul),none⟩) (D-ul) (c-B-ul)) X Y).toArray=MG at *))
    | (refine lK rfl _ _ _ rfl w.heap.size rfl rfl zB2 hzc qW hsz2 hone ?_));(try simp only[nn,Nat.reduceAdd]))
   simp only[Exit.jump]
   have oP3:=oP2.ch (Ch.bX (iG.row w3 w.heap.size MG)) (oP2.KA zB2 (by decide))
   refine Ay (cs:=MG) rfl rfl Z3 qW hsz2 ⟨.slice aP i cP,c-B,c-B-ul,?_,?_,bel3⟩
   ·rw[HN.out,HU.out,HV.out,HB.out,←hMG]
   ·rw[HN.out,HB.out]
    exact oP3
 ·intro pass
  go_wp2_with fail
  refine(hx w0 hs0).mono ?_
  clear hx
  rintro e w1 ⟨rfl,hb1⟩
  have hs1:=hs0.below hb1
  have A1:=A0.below' hb1
  have aK:=bC hbel0 hb1
  clear A0 hs0 hbel0 hb1
  go_wp2_with fail
  refine(hy w1 hs1).mono ?_
  clear hy
  rintro e w2 ⟨rfl,hb2⟩
  have aB:=bC aK hb2
  have Z2:=aA.new w2 259 Mc
  have hb3:=az (bN w2 (.cells Mc 259)) dM (iA (.slice none 0 0) (.slice none 0 0) (.slice none 0 0) X Y).toArray
  have G3:=Z2.row (iA (.slice none 0 0) (.slice none 0 0) (.slice none 0 0) X Y).toArray
  have A2:=(A1.below' hb2).below' hb3
  have aG:=bC aB hb3
  have JM:=pE (.slice none 0 0) (.slice none 0 0) (.slice none 0 0) hxl hyl
  have hone:=CO none none none 0 0 0 0 0 0 X Y
  have hlw:=aB.size
  have hgw:=(A1.below' hb2).lt
  clear A1 hs1 aK aB hb2 hb3
  go_wp2_with ((first
   | (refine aZ rfl (NV rfl rfl rfl hxl hyl) ?_)
   | (refine lK rfl _ _ _ rfl w2.heap.size rfl rfl Z2 (pE _ _ _ rfl rfl) qW JM hone ?_)
   | (refine aZ rfl (tJ rfl underlying23 s15 rfl rfl (n:=M) (by omega)) ?_));(try simp only[nn,Nat.reduceAdd]))
  refine wp_label ?_
  rename_i hKx
  refine hKx _ _ ?_
  exact pass _ _ (HI.out _ _ ⟨0,w2.heap.size,.slice none 0 0,rfl,by omega,hgw,⟨aG,A2,G3,dD.nil _ _ _ _ _⟩⟩)
end
end Go.Proofs.YtaiffkajkbiidaaGreatDoor
