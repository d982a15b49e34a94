/- What this claim leans on, part 26: laws of the model, and what functions of the program compute. No condition but what each law states. -/
import Derived.Test.YtaiffkajkbiidaaGreatDoorQ25
namespace Go.Proofs.YtaiffkajkbiidaaGreatDoor
set_option linter.unusedSimpArgs false
set_option linter.unusedVariables false
set_option linter.unusedSectionVars false
set_option maxRecDepth 100000
set_option maxHeartbeats 40000000
open Go.Proofs.Tryz
open Tryz
section
open Go.RowKit
structure PM (w:World)(g1 g5 t1 t5:Nat)(mc pc:Array Value)(v:Value)(xs:List Nat)(W:World):Prop where
 je:Below w.heap.size w W
 b:aA W g1 t1 mc
 p:aA W g5 t5 pc
 o:Own W w.heap.size 5 .u8 v xs
theorem PM.below {w:World}{g1 g5 t1 t5:Nat}{mc pc:Array Value}{v:Value}{xs:List Nat}{W W':World}(h:PM w g1 g5 t1 t5 mc pc v xs W)(hb:Below W.heap.size W W'):PM w g1 g5 t1 t5 mc pc v xs W' :=
 ⟨dx h.je hb h.je.size,h.b.below' hb,h.p.below' hb,h.o.below hb⟩
theorem PM.grown {w:World}{g1 g5 t1 t5:Nat}{mc pc:Array Value}{v v':Value}{xs ys:List Nat}{W W':World}(h:PM w g1 g5 t1 t5 mc pc v xs W)(h1:t1≠5)(h5:t5≠5)(hgr:W.grownBy W' v.ownBlock)(ho:Own W' w.heap.size 5 .u8 v' ys):PM w g1 g5 t1 t5 mc pc v' ys W' :=
 ⟨gI h.je hgr h.je.size h.o dM,h.b.jO hgr h.o h1,h.p.jO hgr h.o h5,ho⟩
def Ec (w wr:World)(g1 g5 t1 t5:Nat)(mc pc:Array Value)(s1 s2 s3:Nat)(c1 c2:List Nat)(k:Nat)(e:Nat->Value)(W:World):Prop :=
 (k=0->Below wr.heap.size wr W)/\(k=1->PM w g1 g5 t1 t5 mc pc (e s1) c1 W)/\(k=2->PM w g1 g5 t1 t5 mc pc (e s2) c2 W)/\(2<k->PM w g1 g5 t1 t5 mc pc (e s3) c2 W)
theorem Ec.lN {w wr:World}{g1 g5 t1 t5:Nat}{mc pc:Array Value}{s1 s2 s3:Nat}{c1 c2:List Nat}(k:Nat)(e:Nat->Value)(W W':World)(h:Ec w wr g1 g5 t1 t5 mc pc s1 s2 s3 c1 c2 k e W)(hb:Below W.heap.size W W'):Ec w wr g1 g5 t1 t5 mc pc s1 s2 s3 c1 c2 k e W' :=
 ⟨λhk=>dx (h.1 hk) hb (h.1 hk).size,λhk=>(h.2.1 hk).below hb,λhk=>(h.2.2.1 hk).below hb,λhk=>(h.2.2.2 hk).below hb⟩
theorem Ec.start (w wr:World)(g1 g5 t1 t5:Nat)(mc pc:Array Value)(s1 s2 s3:Nat)(c1 c2:List Nat)(e:Nat->Value):Ec w wr g1 g5 t1 t5 mc pc s1 s2 s3 c1 c2 0 e wr.drew :=
 ⟨λ_=>dQ _,λh=>absurd h (by decide),λh=>absurd h (by decide),λh=>absurd h (by decide)⟩
theorem Ec.two {w wr:World}{g1 g5 t1 t5:Nat}{mc pc:Array Value}{s1 s2 s3:Nat}{c1 c2:List Nat}{k:Nat}{e:Nat->Value}{W:World}(h:Ec w wr g1 g5 t1 t5 mc pc s1 s2 s3 c1 c2 k e W){v:Value}{xs:List Nat}(G:PM w g1 g5 t1 t5 mc pc v xs wr):aA W g1 t1 mc:=by
 have h0:k=0∨k=1∨k=2∨2<k:=by omega
 rcases h0 with h0|h0|h0|h0
 ·exact(G.below (h.1 h0)).b
 ·exact(h.2.1 h0).b
 ·exact(h.2.2.1 h0).b
 ·exact(h.2.2.2 h0).b
theorem Sl.range {w:World}{g o:Nat}{k:IntKind}{xs:List Nat}(h:w.rangeAt g o (vals k xs))(hg:g<w.heap.size):Sl w (some ⟨g,o,none⟩) k xs:=λ_ =>
 ⟨g,o,rfl,hg,λi hi=>h i _ (by unfold vals;rw[List.getElem?_map,getD_lt hi];rfl)⟩
theorem adE {W:World}{g:Nat}{ps us vs:Value}{x y:List Nat}(h:aA W g 259 (iA ps us vs x y).toArray):Sl W (some ⟨g,3,none⟩) .u8 x:=by
 have h1:aA W g 259 ([ps,us,vs]++vals .u8 x++vals .u8 y).toArray:=by unfold iA at h;rwa [←List.append_assoc] at h
 exact Sl.range (h1.part rfl) h.lt
theorem adD {W:World}{g:Nat}{ps us vs:Value}{x y:List Nat}(hx:x.length=16)(h:aA W g 259 (iA ps us vs x y).toArray):Sl W (some ⟨g,19,none⟩) .u8 y:=by
 have h1:aA W g 259 (([ps,us,vs]++vals .u8 x)++vals .u8 y++[]).toArray:=by unfold iA at h;rw[List.append_nil,List.append_assoc];exact h
 exact Sl.range (h1.part (by rw[List.length_append,bg,hx];rfl)) h.lt
theorem Tryz.zPr:IsZero prog 269 32 .u8:=isZero (by kernel_rfl)
theorem XU (n:Nat)(F u v x y:List Nat)(hF:F.length=32*n)(hn:n<2^20)(hx:x.length=16)(hy:y.length=16)(Mi:u.length<2^20)(hvl:v.length<2^20)(ap:Option Addr)(gu gv ou ov cp cu cv:Nat)(w:World)(hp:Sl w ap .u8 F)(hu:Sl w (some ⟨gu,ou,none⟩) .u8 u)(hv:Sl w (some ⟨gv,ov,none⟩) .u8 v) :
  Calls prog 182 #[.agg (iA (.slice ap n cp) (.slice (some ⟨gu,ou,none⟩) u.length cu) (.slice (some ⟨gv,ov,none⟩) v.length cv) x y).toArray] w λe w'=>∃r,e=.returned r/\Own w' w.heap.size 5 .u8 r (F++u++v++x++y)/\Below w.heap.size w w':=by
 obtain⟨ul,Qh⟩:=bD (u.length)
 obtain⟨vl,Yq⟩:=bD (v.length)
 rw[Qh.out,Yq.out]
 rw[Qh.out] at Mi
 rw[Yq.out] at hvl
 have A0:=aA.new w 259 (iA (.slice ap n cp) (.slice (some ⟨gu,ou,none⟩) ul cu) (.slice (some ⟨gv,ov,none⟩) vl cv) x y).toArray
 have hbel0:=bN w (.cells (iA (.slice ap n cp) (.slice (some ⟨gu,ou,none⟩) ul cu) (.slice (some ⟨gv,ov,none⟩) vl cv) x y).toArray 259)
 have k0:=A0.cell 0
 have k1:=A0.cell 1
 have k2:=A0.cell 2
 rw[show (iA (.slice ap n cp) (.slice (some ⟨gu,ou,none⟩) ul cu) (.slice (some ⟨gv,ov,none⟩) vl cv) x y).toArray[0]?=some (.slice ap n cp) from rfl] at k0
 rw[show (iA (.slice ap n cp) (.slice (some ⟨gu,ou,none⟩) ul cu) (.slice (some ⟨gv,ov,none⟩) vl cv) x y).toArray[1]?=some (.slice (some ⟨gu,ou,none⟩) ul cu) from rfl] at k1
 rw[show (iA (.slice ap n cp) (.slice (some ⟨gu,ou,none⟩) ul cu) (.slice (some ⟨gv,ov,none⟩) vl cv) x y).toArray[2]?=some (.slice (some ⟨gv,ov,none⟩) vl cv) from rfl] at k2
 obtain⟨MC,HMC⟩:=bD ((iA (.slice ap n cp) (.slice (some ⟨gu,ou,none⟩) ul cu) (.slice (some ⟨gv,ov,none⟩) vl cv) x y).toArray)
 have mX:Hid (∀W,aA W w.heap.size 259 MC->Sl W (some ⟨w.heap.size,3,none⟩) .u8 x):=aR λW h=>adE (by rw[HMC.out];exact h)
 have mY:Hid (∀W,aA W w.heap.size 259 MC->Sl W (some ⟨w.heap.size,19,none⟩) .u8 y):=aR λW h=>adD hx (by rw[HMC.out];exact h)
 rw[HMC.out] at A0 hbel0 k0 k1 k2 ⊢
 have m1:Hid (∀W,aA W w.heap.size 259 MC->W.cell? ⟨w.heap.size,1,none⟩=some (.slice (some ⟨gu,ou,none⟩) ul cu)):=aR λW h=>(h.cell 1).trans ((A0.cell 1).symm.trans k1)
 have m2:Hid (∀W,aA W w.heap.size 259 MC->W.cell? ⟨w.heap.size,2,none⟩=some (.slice (some ⟨gv,ov,none⟩) vl cv)):=aR λW h=>(h.cell 2).trans ((A0.cell 2).symm.trans k2)
 go_enter func182,ntmps182
 go_wp2_with fail
 go_loopw [3,9] (λr t wr=>∃i:Nat,i<=n/\t=.int .i64 (i:Int)/\PM w w.heap.size w.heap.size 259 259 MC MC r (F.take (32*i)) wr) (λr t wr=>n-(intOf t).toNat)
 case atStart=>exact⟨0,by omega,rfl,⟨hbel0,A0,A0,Own.nil _ _ _ _⟩⟩
 case round =>
  clear A0 hbel0 k0 k1 k2
  rename_i r hrel
  obtain⟨i,hi,rfl,G⟩:=hrel
  by_cases hlt:i<n
  ·have hd0:decide ((i:Int)<(n:Int))=true:=by simp;omega
   have hii:(i:Int)<(n:Int):=by omega
   obtain⟨gp,op,rfl,hgp,hcp⟩:=hp (by intro e;rw[e] at hF;simp at hF;omega)
   have hP:=((hp.off (i*32)).take 32).below G.je
   have Dg:((F.drop (i*32)).take 32).length=32:=by rw[List.length_take,List.length_drop];omega
   have HF:Hid (F.take (32*i)++(F.drop (i*32)).take 32=F.take (32*(i+1))):=aR (by rw[Nat.mul_comm i 32,←List.take_add];congr 1)
   generalize (F.drop (i*32)).take 32=PP at *
   have hPne:PP≠[]:=λe=>by rw[e] at Dg;simp at Dg
   have Z0:=aA.new wr 269 (ints .u8 (zeros 32))
   have hb0:=az (bN wr (.cells (ints .u8 (zeros 32)) 269)) dM (ints .u8 PP)
   have Z1:=Z0.row (ints .u8 PP)
   have G1:=G.below hb0
   go_wp2_with ((first
    | (refine aZ rfl (bq rfl rfl hP Yc Dg hPne) ?_)
    | (refine ae rfl 269 rfl zPr ?_)
    | (refine aa rfl 269 _ _ rfl wr.heap.size rfl rfl Z0 (ah _ _) Yc Dg ?_;(generalize ((wr.alloc (.cells (ints .u8 (zeros 32)) 269)).setRow wr.heap.size (ints .u8 PP))=w2 at *);(generalize wr.heap.size=g5 at *)));(try simp only[nn,Nat.reduceAdd]))
   have hA:∀W,aA W g5 269 (ints .u8 PP)->Sl W (some ⟨g5,0,none⟩) .u8 (PP.take 16):=λW h=>(Sl.blk h).take 16
   have hB:∀W,aA W g5 269 (ints .u8 PP)->Sl W (some ⟨g5,16,none⟩) .u8 (PP.drop 16):=λW h=>by have h1:=(Sl.blk h).off 16;rwa [Nat.zero_add] at h1
   have Kh:16=(PP.take 16).length:=by rw[List.length_take];omega
   have hBl:16=(PP.drop 16).length:=by rw[List.length_drop];omega
   have hlen1:(F.take (32*i)).length+(PP.take 16).length<2^40:=by rw[←Kh,List.length_take];omega
   have aeC:(F.take (32*i)++PP.take 16).length+(PP.drop 16).length<2^40:=by rw[←hBl,List.length_append,List.length_take,←Kh];omega
   have HQ:Hid (F.take (32*i)++PP.take 16++PP.drop 16=F.take (32*(i+1))):=aR (by rw[List.append_assoc,List.take_append_drop];exact HF.out)
   have G2:PM w w.heap.size g5 259 269 MC (ints .u8 PP) u3 (F.take (32*i)) w2:=⟨G1.je,G1.b,Z1,G1.o⟩
   have DV:=G1.je.size
   clear G G1 hb0 Z0 hP
   have aI:=oJ (S:=(Ec w w2 w.heap.size g5 259 269 MC (ints .u8 PP) 16 19 3 (F.take (32*i)++PP.take 16) (F.take (32*i)++PP.take 16++PP.drop 16))) (λk e W W' h hb=>Ec.lN k e W W' h hb)
   refine jY (n:=35) (vs:=[13,14,15,17,18]) [(13,u3),(14,.pointer (some ⟨g5,0,none⟩)),(15,.slice (some ⟨g5,0,none⟩) 16 16),(17,.pointer (some ⟨g5,16,none⟩)),(18,.slice (some ⟨g5,16,none⟩) 16 16)] [16,19,3] (λs W u=>(s=16->True)/\(s=19->True)/\(s=3->True)) (λ_ _=>True) [3,6,7] (Ec w w2 w.heap.size g5 259 269 MC (ints .u8 PP) 16 19 3 (F.take (32*i)++PP.take 16) (F.take (32*i)++PP.take 16++PP.drop 16)) (λe=>#[.agg MC,.pointer (some ⟨w.heap.size,0,none⟩),.slice none 0 0,e 3,undef,.pointer (some ⟨g5,0,none⟩),.pointer (some ⟨w.heap.size,0,none⟩),.slice (some ⟨gp,op,none⟩) n cp,.int .i64 ↑n,.int .i64 ↑i,.bool true,.pointer (some ⟨gp,op+i*32,none⟩),.agg (ints .u8 PP),u3,.pointer (some ⟨g5,0,none⟩),.slice (some ⟨g5,0,none⟩) 16 16,e 16,.pointer (some ⟨g5,16,none⟩),.slice (some ⟨g5,16,none⟩) 16 16,e 19,u20,undef,undef,undef,undef,undef,undef,undef,undef,undef,undef,undef,undef,undef,undef]) [0] [3] (λe=>#[.agg MC,.pointer (some ⟨w.heap.size,0,none⟩),.slice none 0 0,u3,undef,.pointer (some ⟨g5,0,none⟩),.pointer (some ⟨w.heap.size,0,none⟩),.slice (some ⟨gp,op,none⟩) n cp,.int .i64 ↑n,.int .i64 ↑i,.bool true,.pointer (some ⟨gp,op+i*32,none⟩),.agg (ints .u8 PP),u3,.pointer (some ⟨g5,0,none⟩),.slice (some ⟨g5,0,none⟩) 16 16,e 16,.pointer (some ⟨g5,16,none⟩),.slice (some ⟨g5,16,none⟩) 16 16,e 19,u20,undef,undef,undef,undef,undef,undef,undef,undef,undef,undef,undef,undef,undef,undef]) (by kernel_rfl) (by kernel_rfl) rfl (by kernel_rfl) rfl (by kernel_rfl) (by kernel_rfl) (λe=>by kernel_rfl) (λe=>rfl) (λe=>by kernel_rfl) (λs W W' v hR h=>⟨λe=>(λh _=>h) (h.1 e) hR,λe=>(λh _=>h) (h.2.1 e) hR,λe=>(λh _=>h) (h.2.2 e) hR⟩) (Ec.start _ _ _ _ _ _ _ _ _ _ _ _ _ _) ?_ ?_
   ·intro i o il k qB hst e W hS hla
    rcases i with _|_|_|_|_|_|_|_|i<;>try cases il
    ·exact af rfl rfl rfl (KO.at_ 13 rfl rfl rfl trivial hS)
    ·exact af rfl rfl (by kernel_rfl) (KO.at_ 14 rfl rfl rfl trivial hS)
    ·exact af rfl rfl (by kernel_rfl) (KO.at_ 15 rfl rfl rfl trivial hS)
    ·obtain rfl:k=0:=Nat.le_zero.1 (aQ hst 0 3 rfl (by kernel_rfl))
     have G9:=G2.below (hS.1 rfl);refine gF (zs:=PP.take 16) rfl rfl rfl underlying23 nY rfl (by omega) rfl G9.o rfl Kh (λq=>by cases q) (hA W G9.p) hlen1 G9.je.size ?_;intro v' w9 O8 hgr
     exact KO.lt 16 rfl rfl ⟨λ_=>(trivial),λe=>absurd e (by decide),λe=>absurd e (by decide)⟩ (trivial) (⟨λh=>absurd h (by decide),λ_=>G9.grown (by decide) (by decide) hgr O8,λh=>absurd h (by decide),λh=>absurd h (by decide)⟩)
    ·exact af rfl rfl (by kernel_rfl) (KO.at_ 17 rfl rfl rfl trivial hS)
    ·exact af rfl rfl (by kernel_rfl) (KO.at_ 18 rfl rfl rfl trivial hS)
    ·obtain rfl:k=1:=Nat.le_antisymm (aQ hst 1 6 rfl (by kernel_rfl)) (gG hst 0 3 rfl (by kernel_rfl))
     have G9:=hS.2.1 rfl;refine gF (zs:=PP.drop 16) rfl rfl rfl underlying23 nY rfl (by omega) rfl G9.o rfl hBl (λq=>by cases q) (hB W G9.p) aeC G9.je.size ?_;intro v' w9 O8 hgr
     exact KO.lt 19 rfl rfl ⟨λe=>absurd e (by decide),λ_=>(trivial),λe=>absurd e (by decide)⟩ (trivial) (⟨λh=>absurd h (by decide),λh=>absurd h (by decide),λ_=>G9.grown (by decide) (by decide) hgr O8,λh=>absurd h (by decide)⟩)
    ·obtain rfl:k=2:=Nat.le_antisymm (aQ hst 2 7 rfl (by kernel_rfl)) (gG hst 1 6 rfl (by kernel_rfl))
     refine af (v:=e 19) rfl rfl rfl ?_
     exact KO.lt 3 rfl rfl ⟨λe=>absurd e (by decide),λe=>absurd e (by decide),λ_=>(trivial)⟩ (trivial) (⟨λh=>absurd h (by decide),λh=>absurd h (by decide),λh=>absurd h (by decide),λ_=>hS.2.2.1 rfl⟩)
   ·intro e W hS hla
    have adL:=(hla 16 rfl).1 rfl
    have l19:=(hla 19 rfl).2.1 rfl
    have l3:=(hla 3 rfl).2.2 rfl
    clear hla aI
    have G3:=hS.2.2.2 (by decide)
    rw[HQ.out] at G3
    clear hS adL l19 l3
    generalize e 16=u16
    generalize e 19=u19
    generalize e 3=v3 at *
    have G4:PM w w.heap.size w.heap.size 259 259 MC MC v3 (F.take (32*(i+1))) W:=⟨G3.je,G3.b,G3.b,G3.o⟩
    go_wp2_with fail
    exact⟨⟨i+1,by omega,by go_num,G4⟩,by simp[intOf]<;>omega⟩
  ·obtain rfl:i=n:=by omega
   have hd0:decide ((i:Int)<(i:Int))=false:=by simp
   rw[List.take_of_length_le (by omega:F.length<=32*i)] at G
   have WZ:F.length+u.length<2^40:=by rw[Qh.out];omega
   have hlv:(F++u).length+v.length<2^40:=by rw[List.length_append,Qh.out,Yq.out];omega
   have hlx:(F++u++v).length+x.length<2^40:=by rw[List.length_append,List.length_append,Qh.out,Yq.out];omega
   have hly:(F++u++v++x).length+y.length<2^40:=by rw[List.length_append,List.length_append,List.length_append,Qh.out,Yq.out];omega
   have DV:=G.je.size
   go_wp2_with fail
   have aI:=oJ (S:=(Ec w wr w.heap.size w.heap.size 259 259 MC MC 24 27 3 (F++u) (F++u++v))) (λk e W W' h hb=>Ec.lN k e W W' h hb)
   refine jY (n:=35) (vs:=[21,22,23,25,26]) [(21,u3),(22,.pointer (some ⟨w.heap.size,1,none⟩)),(23,.slice (some ⟨gu,ou,none⟩) ul cu),(25,.pointer (some ⟨w.heap.size,2,none⟩)),(26,.slice (some ⟨gv,ov,none⟩) vl cv)] [24,27,3] (λs W u=>(s=24->True)/\(s=27->True)/\(s=3->True)) (λ_ _=>True) [3,6,7] (Ec w wr w.heap.size w.heap.size 259 259 MC MC 24 27 3 (F++u) (F++u++v)) (λe=>#[.agg MC,.pointer (some ⟨w.heap.size,0,none⟩),.slice none 0 0,e 3,undef,u5,.pointer (some ⟨w.heap.size,0,none⟩),.slice ap i cp,.int .i64 ↑i,.int .i64 ↑i,.bool false,u11,u12,u13,u14,u15,u16,u17,u18,u19,u20,u3,.pointer (some ⟨w.heap.size,1,none⟩),.slice (some ⟨gu,ou,none⟩) ul cu,e 24,.pointer (some ⟨w.heap.size,2,none⟩),.slice (some ⟨gv,ov,none⟩) vl cv,e 27,undef,undef,undef,undef,undef,undef,undef]) [0] [3] (λe=>#[.agg MC,.pointer (some ⟨w.heap.size,0,none⟩),.slice none 0 0,u3,undef,u5,.pointer (some ⟨w.heap.size,0,none⟩),.slice ap i cp,.int .i64 ↑i,.int .i64 ↑i,.bool false,u11,u12,u13,u14,u15,u16,u17,u18,u19,u20,u3,.pointer (some ⟨w.heap.size,1,none⟩),.slice (some ⟨gu,ou,none⟩) ul cu,e 24,.pointer (some ⟨w.heap.size,2,none⟩),.slice (some ⟨gv,ov,none⟩) vl cv,e 27,undef,undef,undef,undef,undef,undef,undef]) (by kernel_rfl) (by kernel_rfl) rfl (by kernel_rfl) rfl (by kernel_rfl) (by kernel_rfl) (λe=>by kernel_rfl) (λe=>rfl) (λe=>by kernel_rfl) (λs W W' v hR h=>⟨λe=>(λh _=>h) (h.1 e) hR,λe=>(λh _=>h) (h.2.1 e) hR,λe=>(λh _=>h) (h.2.2 e) hR⟩) (Ec.start _ _ _ _ _ _ _ _ _ _ _ _ _ _) ?_ ?_
   ·intro i o il k qB hst e W hS hla
    rcases i with _|_|_|_|_|_|_|_|i<;>try cases il
    ·exact af rfl rfl rfl (KO.at_ 21 rfl rfl rfl trivial hS)
    ·exact af rfl rfl (by kernel_rfl) (KO.at_ 22 rfl rfl rfl trivial hS)
    ·exact af rfl rfl (bO rfl rfl underlying23 (m1.out W (hS.two G))) (KO.at_ 23 rfl rfl rfl trivial hS)
    ·obtain rfl:k=0:=Nat.le_zero.1 (aQ hst 0 3 rfl (by kernel_rfl))
     have G9:=G.below (hS.1 rfl);refine gF (zs:=u) rfl rfl rfl underlying23 nY rfl (by omega) rfl G9.o rfl Qh.out.symm (λq=>by cases q) (hu.below G9.je) WZ G9.je.size ?_;intro v' w9 O8 hgr
     exact KO.lt 24 rfl rfl ⟨λ_=>(trivial),λe=>absurd e (by decide),λe=>absurd e (by decide)⟩ (trivial) (⟨λh=>absurd h (by decide),λ_=>G9.grown (by decide) (by decide) hgr O8,λh=>absurd h (by decide),λh=>absurd h (by decide)⟩)
    ·exact af rfl rfl (by kernel_rfl) (KO.at_ 25 rfl rfl rfl trivial hS)
    ·exact af rfl rfl (bO rfl rfl underlying23 (m2.out W (hS.two G))) (KO.at_ 26 rfl rfl rfl trivial hS)
    ·obtain rfl:k=1:=Nat.le_antisymm (aQ hst 1 6 rfl (by kernel_rfl)) (gG hst 0 3 rfl (by kernel_rfl))
     have G9:=hS.2.1 rfl;refine gF (zs:=v) rfl rfl rfl underlying23 nY rfl (by omega) rfl G9.o rfl Yq.out.symm (λq=>by cases q) (hv.below G9.je) hlv G9.je.size ?_;intro v' w9 O8 hgr
     exact KO.lt 27 rfl rfl ⟨λe=>absurd e (by decide),λ_=>(trivial),λe=>absurd e (by decide)⟩ (trivial) (⟨λh=>absurd h (by decide),λh=>absurd h (by decide),λ_=>G9.grown (by decide) (by decide) hgr O8,λh=>absurd h (by decide)⟩)
    ·obtain rfl:k=2:=Nat.le_antisymm (aQ hst 2 7 rfl (by kernel_rfl)) (gG hst 1 6 rfl (by kernel_rfl))
     refine af (v:=e 27) rfl rfl rfl ?_
     exact KO.lt 3 rfl rfl ⟨λe=>absurd e (by decide),λe=>absurd e (by decide),λ_=>(trivial)⟩ (trivial) (⟨λh=>absurd h (by decide),λh=>absurd h (by decide),λh=>absurd h (by decide),λ_=>hS.2.2.1 rfl⟩)
   ·intro e W hS hla
    have l24:=(hla 24 rfl).1 rfl
    have l27:=(hla 27 rfl).2.1 rfl
    have l3:=(hla 3 rfl).2.2 rfl
    clear hla aI
    have G3:=hS.2.2.2 (by decide)
    clear hS l24 l27 l3 G
    generalize e 24=u24
    generalize e 27=u27
    generalize e 3=v3 at *
    go_wp2_with fail
    have zT:=aR hx.symm
    have hyl2:=aR hy.symm
    have aI:=oJ (S:=(Ec w W w.heap.size w.heap.size 259 259 MC MC 31 34 2 (F++u++v++x) (F++u++v++x++y))) (λk e W W' h hb=>Ec.lN k e W W' h hb)
    refine aS (n:=35) (T:=?_) [(28,v3),(29,.pointer (some ⟨w.heap.size,3,none⟩)),(30,.slice (some ⟨w.heap.size,3,none⟩) 16 16),(32,.pointer (some ⟨w.heap.size,19,none⟩)),(33,.slice (some ⟨w.heap.size,19,none⟩) 16 16)] [31,34,2] (λs W u=>(s=31->True)/\(s=34->True)/\(s=2->True)) (λ_ _=>True) [3,6,7] _ aI (by kernel_rfl) (by kernel_rfl) rfl (by kernel_rfl) (by kernel_rfl) (by kernel_rfl) (λs W W' v hR h=>⟨λe=>(λh _=>h) (h.1 e) hR,λe=>(λh _=>h) (h.2.1 e) hR,λe=>(λh _=>h) (h.2.2 e) hR⟩) (Ec.start _ _ _ _ _ _ _ _ _ _ _ _ _ _) ?_ ?_ ?_ ?_
    rotate_left
    ·intro e;simp only[tv,nn,Nat.reduceAdd];exact rfl
    ·exact λe=>rfl
    ·intro i o il k qB hst e W hS hla
     rcases i with _|_|_|_|_|_|_|_|i<;>try cases il
     ·exact kv 28 rfl rfl rfl rfl rfl rfl trivial hS
     ·exact kv 29 rfl rfl (by kernel_rfl) rfl rfl rfl trivial hS
     ·exact kv 30 rfl rfl (by kernel_rfl) rfl rfl rfl trivial hS
     ·obtain rfl:k=0:=Nat.le_zero.1 (aQ hst 0 3 rfl (by kernel_rfl))
      have G9:=G3.below (hS.1 rfl);refine gF (zs:=x) rfl rfl rfl underlying23 nY rfl (by omega) rfl G9.o rfl zT.out (λq=>by cases q) (mX.out W G9.b) hlx G9.je.size ?_;intro v' w9 O8 hgr
      exact KL.lt 31 rfl rfl ⟨λ_=>(trivial),λe=>absurd e (by decide),λe=>absurd e (by decide)⟩ (trivial) (⟨λh=>absurd h (by decide),λ_=>G9.grown (by decide) (by decide) hgr O8,λh=>absurd h (by decide),λh=>absurd h (by decide)⟩)
     ·exact kv 32 rfl rfl (by kernel_rfl) rfl rfl rfl trivial hS
     ·exact kv 33 rfl rfl (by kernel_rfl) rfl rfl rfl trivial hS
     ·obtain rfl:k=1:=Nat.le_antisymm (aQ hst 1 6 rfl (by kernel_rfl)) (gG hst 0 3 rfl (by kernel_rfl))
      have G9:=hS.2.1 rfl;refine gF (zs:=y) rfl rfl rfl underlying23 nY rfl (by omega) rfl G9.o rfl hyl2.out (λq=>by cases q) (mY.out W G9.b) hly G9.je.size ?_;intro v' w9 O8 hgr
      exact KL.lt 34 rfl rfl ⟨λe=>absurd e (by decide),λ_=>(trivial),λe=>absurd e (by decide)⟩ (trivial) (⟨λh=>absurd h (by decide),λh=>absurd h (by decide),λ_=>G9.grown (by decide) (by decide) hgr O8,λh=>absurd h (by decide)⟩)
     ·obtain rfl:k=2:=Nat.le_antisymm (aQ hst 2 7 rfl (by kernel_rfl)) (gG hst 1 6 rfl (by kernel_rfl))
      refine af (v:=e 34) rfl rfl rfl ?_
      exact KL.lt 2 rfl rfl ⟨λe=>absurd e (by decide),λe=>absurd e (by decide),λ_=>(trivial)⟩ (trivial) (⟨λh=>absurd h (by decide),λh=>absurd h (by decide),λh=>absurd h (by decide),λ_=>hS.2.2.1 rfl⟩)
    ·intro e8 W8 hS hla
     have adJ:=(hla 31 rfl).1 rfl
     have l34:=(hla 34 rfl).2.1 rfl
     have l2:=(hla 2 rfl).2.2 rfl
     clear hla aI
     have G5:=hS.2.2.2 (by decide)
     clear hS adJ l34 l2
     generalize e8 31=u31
     generalize e8 34=u34
     generalize e8 2=v2 at *
     go_wp2_with fail
     go_ret
     exact⟨_,rfl,G5.o,G5.je⟩
end
section
open Go.RowKit
theorem Iu {P:Program}{ops:Array Oper}{o:Oper}{a:Act}{w:World}{Q:Exit->Act->World->Prop}{K:Act->World->Prop}{i:Nat}{v u:Value}(f:FuncId){fn:Func}{x y:Operand}{ats:Array TypeId}(hi:ops[i]?=some o)(hw:Region.wanted o (yielded ops a.tmps)=true)(ho:o.op=.call { callee:=.value x,args:=#[y],argTypes:=ats })(hx:a.eval x=.func (.func f) #[] #[])(hy:a.eval y=u)
  (hf:P.funcs[f]?=some fn) (hn:(fn.name== "runtime.NumGoroutine")=false) (hb:fn.body.isNone=false)
  (hc:Calls P f #[u] w λe w'=>e=.returned v/\Below w.heap.size w w') (h:∀w',Below w.heap.size w w'->K (a.put o.dst v) w'):wpOp P ops Q i K a w:=by
 have he:execOp a.eval o=callFunc f (#[]++#[u]++#[]):=by
  obtain⟨dst,op,type,pos,after,guard⟩:=o
  subst ho
  unfold execOp
  simp only[resolve,hx,List.map_toArray,List.map_cons,List.map_nil,hy]
  rfl
 unfold wpOp
 simp only[hi,hw,if_true,Oper.wp,he,enters hf hn hb,Oper.upon]
 have e2:(#[]++#[u]++#[]:Array Value)=#[u]:=by simp
 rw[e2]
 exact .inl (hc.mono λe w' ⟨h1,h2⟩=>by subst h1;exact h w' h2)
def La (I J Z u v:List Nat):List Nat:=if u.length=0 then zeros 16 else if u.length=16 then fK [eE I J Z 0 4 (aU u),eE I J Z 0 5 (lS v)] else eE I J Z 0 4 (lS u)
theorem tV {b:List Nat}(hb:∀x∈b,x<256):∀x∈lS b,x<256:=dN (qo λx hx=>by
 rcases List.mem_append.1 hx with h|h
 ·exact hb x h
 ·rw[List.mem_singleton.1 h];decide)
theorem KZ (I J Z u v:List Nat):(La I J Z u v).length=16:=by
 unfold La
 split
 ·exact aH _
 ·split
  ·exact bI _
  ·exact iZ I J Z 0 4 (mJ u)
theorem IJ (I J Z:List Nat){u v:List Nat}(hu:∀x∈u,x<256)(hv:∀x∈v,x<256):∀x∈La I J Z u v,x<256:=by
 unfold La
 split
 ·exact gJ 16
 ·split
  ·exact dE _ _ (gJ 16) (dz (p:=λk=>∀y∈k,y<256) (fT I J Z 0 4 (dN hu)) (fT I J Z 0 5 (tV hv)))
  ·exact fT I J Z 0 4 (tV hu)
theorem QG (gk gt gb:Nat)(I J Z:List Nat)(ps:Value)(u v x y:List Nat)(Mi:u.length<=16)(hvl:v.length<2^20)(hub:∀x∈u,x<256)(hvb:∀x∈v,x<256)(au av:Option Addr)(cu cv:Nat)(w:World)(hu:Sl w au .u8 u)(hv:Sl w av .u8 v)(hK:IsKey w gk gt gb I J Z) :
  Calls prog 179 #[.agg (iA ps (.slice au u.length cu) (.slice av v.length cv) x y).toArray,.pointer (some ⟨gk,0,none⟩)] w λe w'=>e=.returned (.agg (ints .u8 (La I J Z u v)))/\Below w.heap.size w w':=by
 obtain⟨ul,Qh⟩:=bD (u.length)
 obtain⟨vl,Yq⟩:=bD (v.length)
 have hmu:=λW (s:Sl W au .u8 u)=>RJ u hub (by omega) au cu W s
 have hmv:=λW (s:Sl W av .u8 v)=>RJ v hvb (by omega) av cv W s
 have hbu:=λW (s:Sl W au .u8 u)=>fB au cu u W s
 have HT:Hid (La I J Z u v=if ul=0 then zeros 16 else if ul=16 then fK [eE I J Z 0 4 (aU u),eE I J Z 0 5 (lS v)] else eE I J Z 0 4 (lS u)):=aR (by rw[←Qh.out];rfl)
 rw[Qh.out] at hmu hbu
 rw[Yq.out] at hmv
 rw[Qh.out] at Mi
 rw[Qh.out,Yq.out]
 have hE:=λ(i:Nat) (hi:i<2^31) (x:List Nat) (hx:x.length=16) (hxb:∀y∈x,y<256) (W:World) (k:IsKey W gk gt gb I J Z)=>rq gk gt gb I J Z x 0 i (by decide) hi hx hxb W k
 have A0:=(aA.new w 259 (iA ps (.slice au ul cu) (.slice av vl cv) x y).toArray).alloc (.cells (ints .u8 (zeros 16)) 96)
 have Z0:=aA.new (w.alloc (.cells (iA ps (.slice au ul cu) (.slice av vl cv) x y).toArray 259)) 96 (ints .u8 (zeros 16))
 rw[World.size_alloc] at Z0
 have hbel0:=(bN w (.cells (iA ps (.slice au ul cu) (.slice av vl cv) x y).toArray 259)).alloc (by simp) (.cells (ints .u8 (zeros 16)) 96)
 have k1:=A0.cell 1
 have k2:=A0.cell 2
 rw[show (iA ps (.slice au ul cu) (.slice av vl cv) x y).toArray[1]?=some (.slice au ul cu) from rfl] at k1
 rw[show (iA ps (.slice au ul cu) (.slice av vl cv) x y).toArray[2]?=some (.slice av vl cv) from rfl] at k2
 generalize (iA ps (.slice au ul cu) (.slice av vl cv) x y).toArray=MC at *
 have hrv:La I J Z u v=if ul=0 then zeros 16 else if ul=16 then fK [eE I J Z 0 4 (aU u),eE I J Z 0 5 (lS v)] else eE I J Z 0 4 (lS u):=HT.out
 rw[hrv]
 clear hrv HT
 by_cases h0:ul=0
 ·subst h0
  rw[if_pos rfl]
  go_enter func179,ntmps179
  go_wp2_with ((first
   | (refine ae rfl 96 rfl fw ?_)
   | (refine aa (xs:=zeros 16) rfl 96 _ _ rfl _ rfl rfl Z0 (ah _ _) aD (aH _) ?_));(try simp only[nn,Nat.reduceAdd]))
  refine aO rfl rfl (Z0.row _) aD (aH _) ⟨rfl,az hbel0 (by omega) _⟩
 ·by_cases h16:ul=16
  ·subst h16
   rw[if_neg (by decide),if_pos rfl]
   go_enter func179,ntmps179
   go_wp2_with ((first|(refine ae rfl 96 rfl fw ?_));(try simp only[nn,Nat.reduceAdd]))
   generalize ((w.alloc (.cells MC 259)).alloc (.cells (ints .u8 (zeros 16)) 96))=w0 at *
   have hu0:=hu.below hbel0
   have hv0:=hv.below hbel0
   have K0:=hK.below hbel0
   have hEl:=bI [eE I J Z 0 4 (aU u),eE I J Z 0 5 (lS v)]
   have hl1:=iZ I J Z 0 4 (bG u)
   have hl2:=iZ I J Z 0 5 (mJ v)
   have hb1:=fT I J Z 0 4 (dN hub)
   have hb2:=fT I J Z 0 5 (tV hvb)
   have hE1:=λW (k:IsKey W gk gt gb I J Z)=>hE 4 (by decide) (aU u) (bG u) (dN hub) W k
   have hE2:=λW (k:IsKey W gk gt gb I J Z)=>hE 5 (by decide) (lS v) (mJ v) (tV hvb) W k
   have hbs:=λW=>gY _ _ hl1 hl2 W
   have hpl:=λg W (s:Sl W (some ⟨g,0,none⟩) .u8 [eE I J Z 0 4 (aU u),eE I J Z 0 5 (lS v)].flatten)=>jW g 2 [eE I J Z 0 4 (aU u),eE I J Z 0 5 (lS v)] (dz (p:=λk=>k.length=16) hl1 hl2) (dz (p:=λk=>∀y∈k,y<256) hb1 hb2) (show 2<2^31 by decide) W s
   obtain⟨R,HR⟩:=bD (fK [eE I J Z 0 4 (aU u),eE I J Z 0 5 (lS v)])
   change ∀g W,_->Calls prog 177 #[.slice (some ⟨g,0,none⟩) 2 2] W λe w'=>e=.returned (.agg (ints .u8 (fK [eE I J Z 0 4 (aU u),eE I J Z 0 5 (lS v)])))/\Below W.heap.size W w' at hpl
   rw[HR.out] at hpl hEl
   obtain⟨fl,acV⟩:∃fl,Hid ([eE I J Z 0 4 (aU u),eE I J Z 0 5 (lS v)].flatten=fl):=⟨_,aR rfl⟩
   simp only[acV.out] at hpl hbs
   obtain⟨E1,H1⟩:=bD (eE I J Z 0 4 (aU u))
   obtain⟨E2,H2⟩:=bD (eE I J Z 0 5 (lS v))
   simp only[H1.out,H2.out] at hbs hE1 hE2
   have hwm:w.heap.size<w0.heap.size:=A0.lt
   have aI:=oJ (S:=(zy w0 (w.heap.size+1) (ints .u8 R))) (λk e W W' h hb=>zy.lN k e W W' h hb)
   refine aS (n:=33) (T:=?_) [(14,.pointer (some ⟨gk,0,none⟩)),(15,.pointer (some ⟨w.heap.size,1,none⟩)),(16,.slice au 16 cu),(17,.agg (ints .u8 (aU u))),(18,.agg (ints .u8 E1)),(19,.pointer (some ⟨gk,0,none⟩)),(20,.func (.func 190) #[] #[]),(21,.pointer (some ⟨w.heap.size,2,none⟩)),(22,.slice av vl cv),(23,.agg (ints .u8 (lS v))),(24,.agg (ints .u8 E2)),(26,.agg (ints .u8 R))] [25] (λs W u=>(s=25->NS w0.heap.size 96 2 (ints .u8 fl) W u)) (RB w0.heap.size) [13] _ aI (by kernel_rfl) (by kernel_rfl) rfl (by kernel_rfl) (by kernel_rfl) (by kernel_rfl) (λs W W' v hR h=>λe=>(λh hR=>h.rb hR) (h e) hR) (zy.start _ _ _ _) ?_ ?_ ?_ ?_
   rotate_left
   ·intro e;simp only[tv,nn,Nat.reduceAdd];exact rfl
   ·exact λe=>rfl
   ·intro i o il k qB hst e W hS hla
    rcases i with _|_|_|_|_|_|_|_|_|_|_|_|_|_|i<;>try cases il
    ·exact kv 14 rfl rfl rfl rfl rfl rfl (RB.refl _ _) hS
    ·exact kv 15 rfl rfl (by kernel_rfl) rfl rfl rfl (RB.refl _ _) hS
    ·obtain rfl:k=0:=Nat.le_zero.1 (aQ hst 0 13 rfl (by kernel_rfl))
     exact kv 16 rfl rfl (bO rfl rfl underlying23 ((hS.z.cell (p:=⟨w.heap.size,1,none⟩) hwm).trans k1)) rfl rfl rfl (RB.refl _ _) hS
    ·obtain rfl:k=0:=Nat.le_zero.1 (aQ hst 0 13 rfl (by kernel_rfl))
     exact kc 17 38 rfl rfl rfl func38 (hbu W (hu0.below hS.z)) rfl rfl rfl (λ_ hW'=>(RB.below hW')) λ_ hW'=>aI 0 e _ _ hS hW'
    ·obtain rfl:k=0:=Nat.le_zero.1 (aQ hst 0 13 rfl (by kernel_rfl))
     exact kc 18 180 rfl rfl rfl func180 (hE1 W (K0.below hS.z)) rfl rfl rfl (λ_ hW'=>(RB.below hW')) λ_ hW'=>aI 0 e _ _ hS hW'
    ·exact kv 19 rfl rfl rfl rfl rfl rfl (RB.refl _ _) hS
    ·exact kv 20 rfl rfl rfl rfl rfl rfl (RB.refl _ _) hS
    ·exact kv 21 rfl rfl (by kernel_rfl) rfl rfl rfl (RB.refl _ _) hS
    ·obtain rfl:k=0:=Nat.le_zero.1 (aQ hst 0 13 rfl (by kernel_rfl))
     exact kv 22 rfl rfl (bO rfl rfl underlying23 ((hS.z.cell (p:=⟨w.heap.size,2,none⟩) hwm).trans k2)) rfl rfl rfl (RB.refl _ _) hS
    ·obtain rfl:k=0:=Nat.le_zero.1 (aQ hst 0 13 rfl (by kernel_rfl))
     refine Iu 190 rfl rfl rfl rfl rfl func190 (by kernel_rfl) (by kernel_rfl) (hmv W (hv0.below hS.z)) ?_;intro W' hW'
     exact KL.at_ 23 rfl rfl rfl ((RB.below hW')) (aI _ _ _ _ hS hW')
    ·obtain rfl:k=0:=Nat.le_zero.1 (aQ hst 0 13 rfl (by kernel_rfl))
     exact kc 24 180 rfl rfl rfl func180 (hE2 W (K0.below hS.z)) rfl rfl rfl (λ_ hW'=>(RB.below hW')) λ_ hW'=>aI 0 e _ _ hS hW'
    ·obtain rfl:k=0:=Nat.le_zero.1 (aQ hst 0 13 rfl (by kernel_rfl))
     refine cz rfl rfl (fE (u0:=.agg (ints .u8 E1)) (u1:=.agg (ints .u8 E2)) rfl rfl rfl (hbs W)) ?_
     exact KL.lt 25 rfl rfl (λ_=>(⟨W.heap.size,rfl,hS.z.size,aA.new _ _ _⟩)) ((RB.below (bN _ _))) (aI _ _ _ _ hS (bN _ _))
    ·obtain⟨g,hg,hgB,pM⟩:=((hla 25 rfl (by kernel_rfl)) rfl);refine aV 177 rfl rfl rfl func177 (by kernel_rfl) (by kernel_rfl) (by show Calls _ _ #[e 25] W _;rw[hg];exact hpl g W (Sl.blk pM)) ?_;intro W' hW'
     exact KL.at_ 26 rfl rfl rfl ((RB.below hW')) (aI k e _ _ hS hW')
    ·obtain rfl:k=0:=Nat.le_zero.1 (aQ hst 0 13 rfl (by kernel_rfl))
     refine bJ rfl rfl rfl rfl rfl (Z0.below' hS.z) (ah _ _) aD hEl ?_
     exact KL.none rfl ((RB.row _ _ Z0.lt)) (zy.mk hS)
   ·intro e W hS hla
    have l25:=(hla 25 rfl) rfl
    clear hla aI
    have Z1:=hS.blk Z0
    have aK:=hS.je hbel0 (by omega) dM
    clear hS
    go_wp2_with fail
    refine aO rfl rfl Z1 aD hEl ⟨by rw[←HR.out],aK⟩
  ·rw[if_neg h0,if_neg h16]
   have hd0:((ul:Int)==0)=false:=by simp;omega
   have aeV:((ul:Int)==16)=false:=by simp;omega
   go_enter func179,ntmps179
   go_wp2_with ((first|(refine ae rfl 96 rfl fw ?_));(try simp only[nn,Nat.reduceAdd]))
   generalize ((w.alloc (.cells MC 259)).alloc (.cells (ints .u8 (zeros 16)) 96))=w0 at *
   refine(hmu w0 (hu.below hbel0)).mono ?_
   rintro e w1 ⟨rfl,hb1⟩
   have Z1:=Z0.below' hb1
   have aK:=bC hbel0 hb1
   have acG:=hE 4 (by decide) (lS u) (mJ u) (tV hub) w1 (hK.below aK)
   have hEl:=iZ I J Z 0 4 (mJ u)
   clear Z0 hbel0 hb1 A0 k1 k2 hE
   go_wp2_with fail
   refine acG.mono ?_
   rintro e w2 ⟨rfl,hb2⟩
   have Z2:=Z1.below' hb2
   have aB:=bC aK hb2
   clear Z1 aK hb2 acG
   go_wp2_with ((first|(refine aa rfl 96 _ _ rfl _ rfl rfl Z2 (ah _ _) aD hEl ?_));(try simp only[nn,Nat.reduceAdd]))
   refine aO rfl rfl (Z2.row _) aD hEl ⟨rfl,az aB (by omega) _⟩
end
section
open Go.RowKit
def qY (xs:List Nat)(k:Nat):Nat:=if k%2=0 then xs.getD (k/2) 0/16 else xs.getD (k/2) 0%16
def zw (xs:List Nat)(at_ n:Nat):List Nat:=(List.range n).map λi=>qY xs (at_+i)
theorem gK (xs:List Nat)(at_ n:Nat):(zw xs at_ n).length=n:=by simp[zw]
theorem uj (xs:List Nat)(at_:Nat){n k:Nat}(h:k<n):(zw xs at_ n).getD k 0=qY xs (at_+k):=by
 rw[List.getD_eq_getElem?_getD];simp[zw,h]
theorem Rx {xs:List Nat}(hb:∀x∈xs,x<256)(k:Nat):qY xs k<16:=by
 have h:=aC hb (by decide) (k/2)
 unfold qY
 split<;>omega
theorem JK {xs:List Nat}(hb:∀x∈xs,x<256)(at_ n:Nat):∀x∈zw xs at_ n,x<16:=λx hx=>by
 unfold zw at hx
 obtain⟨i,-,rfl⟩:=List.mem_map.1 hx
 exact Rx hb _
theorem nQ (at_ n:Nat)(xs:List Nat)(h:at_+n<=2*xs.length)(hm:2*xs.length<208)(hb:∀x∈xs,x<256)(a:Option Addr)(c:Nat)(w:World)(hs:Sl w a .u8 xs) :
  Calls prog 187 #[.slice a xs.length c,.complex .f64 (FL at_) (FL n)] w λe w'=>∃v,e=.returned (.tuple #[v,.bool true])/\Own w' w.heap.size 5 .u8 v (zw xs at_ n)/\Below w.heap.size w w':=by
 have hnot:∀(x:Bool) (w:World),(Op.unary .not (.bool x)).run prog w=.ok (.bool (!x)) w:=λ_ _=>rfl
 have hmk:=λW=>xZ n (by omega) W
 have hw:=Eo at_ n (2*xs.length) h hm w
 have hxl:=gK xs at_ n
 have HG:Hid (∀k,k<n->(zw xs at_ n).getD k 0=qY xs (at_+k)):=aR λk hk=>uj xs at_ hk
 obtain⟨N,HN⟩:=bD (xs.length)
 rw[HN.out] at hw h hm ⊢
 obtain⟨m,Hm⟩:=bD (2*N)
 rw[Hm.out] at hw h hm
 have hm2:2*(N:Int)=(m:Int):=by rw[←Hm.out];omega
 obtain⟨RR,HRR⟩:=bD (zw xs at_ n)
 rw[HRR.out] at hxl HG ⊢
 go_enter func187,ntmps187
 go_wp2_with fail
 refine hw.mono ?_
 rintro e w1 ⟨rfl,hb1⟩
 have hs1:=hs.below hb1
 have B1:=aA.new w1 5 (ints .u8 (zeros n))
 have aK:=hb1.alloc hb1.size (.cells (ints .u8 (zeros n)) 5)
 have hl1:=hb1.size
 clear hw
 go_wp2_with fail
 generalize (w1.alloc (.cells (ints .u8 (zeros n)) 5))=w2 at *
 generalize w1.heap.size=s1 at *
 clear hmk hb1 hs1
 go_loopw [27] (λt wr=>∃k:Nat,k<=n/\t=.int .i64 k/\aA wr s1 5 (ints .u8 (RR.take k++zeros (n-k)))/\Below w.heap.size w wr) (λt wr=>n-(intOf t).toNat)
 case atStart=>exact⟨0,by omega,rfl,B1,aK⟩
 case round =>
  clear B1 aK
  obtain⟨k,hk,rfl,C2,bH⟩:=hrel
  by_cases hlt:k<n
  ·have hll:(RR.take k++zeros (n-k)).length=n:=by rw[List.length_append,List.length_take,hxl,aH];omega
   obtain⟨j,Hj⟩:=bD (at_+k)
   obtain⟨q,Hq⟩:=bD (j/2)
   have hj1:(at_:Int)+(k:Int)=(j:Int):=by rw[←Hj.out];omega
   have hjw:IntKind.i64.wrap (j:Int)=(j:Int):=IntWalk.i64_in _ (by rw[←Hj.out];omega)
   have hq1:(j:Int)/2=(q:Int):=by rw[←Hq.out];omega
   have hqN:q<N:=by rw[←Hq.out,←Hj.out];omega
   obtain⟨g0,o0,rfl,hg0,c0⟩:=(hs.below bH).at_ (i:=q) (by rw[HN.out];omega)
   have c2:=C2.int (i:=k) (by omega)
   have z2:=C2.frozen k
   have vx:=aC hb (by omega) q
   have hv:=HG.out k hlt
   obtain⟨v,Hv⟩:=bD (qY xs (at_+k))
   rw[Hv.out] at hv
   have nW:=C2.dw k v
   rw[take_set hxl hlt hv] at nW
   have HC:=aR nW
   have HV:Hid (v=if j%2=0 then xs.getD q 0/16 else xs.getD q 0%16):=aR (by rw[←Hv.out,←Hj.out,←Hq.out,←Hj.out];rfl)
   clear nW hll hv hxl
   generalize xs.getD q 0=x at *
   have hd0:decide ((k:Int)<(n:Int))=true:=by simp;omega
   have hqi:(q:Int)<(N:Int):=by omega
   have FW:=bH.setCell (p:=⟨s1,k,none⟩) hl1 (.int .u8 (v:Int))
   by_cases hp:j%2=0
   ·have hr:(j:Int)%2=0:=by omega
    have he:v=x/16:=by rw[HV.out,if_pos hp]
    go_wp2
    rw[show ((x:Int)/16%16)=(v:Int) by omega]
    exact⟨⟨k+1,by omega,by go_num,HC.out,FW⟩,by simp[intOf]<;>omega⟩
   ·have hr:(j:Int)%2=1:=by omega
    have he:v=x%16:=by rw[HV.out,if_neg hp]
    go_wp2
    rw[show ((x:Int)%16)=(v:Int) by omega]
    exact⟨⟨k+1,by omega,by go_num,HC.out,FW⟩,by simp[intOf]<;>omega⟩
  ·obtain rfl:k=n:=by omega
   have he:RR.take k++zeros (k-k)=RR:=by rw[List.take_of_length_le (by omega)];simp[zeros]
   rw[he] at C2
   have hd0:decide ((k:Int)<(k:Int))=false:=by simp
   go_wp2_with fail
   refine bodyPost_ret (v:=.tuple #[.slice (some ⟨s1,0,none⟩) k k,.bool true]) (by simp[results,results187]) rfl ⟨_,rfl,?_,bH⟩
   have O:=Own.made (xs:=RR) C2 hl1 (by rw[hxl];simp[maxLen];omega)
   rwa [hxl] at O
def pG (ns:List Nat)(k i:Nat):Nat:=(if 2*i<k then ns.getD (2*i) 0*16 else 0)+(if 2*i+1<k then ns.getD (2*i+1) 0 else 0)
def DU (ns:List Nat)(k m:Nat):List Nat:=(List.range m).map (pG ns k)
def Ik (ns:List Nat):List Nat:=DU ns ns.length ((ns.length+1)/2)
theorem nN (ns:List Nat)(k m:Nat):(DU ns k m).length=m:=by simp[DU]
theorem CY (ns:List Nat)(k:Nat){m i:Nat}(h:i<m):(DU ns k m).getD i 0=pG ns k i:=by
 rw[List.getD_eq_getElem?_getD];simp[DU,h]
theorem Sj (ns:List Nat)(m:Nat):DU ns 0 m=zeros m:=by
 apply List.ext_getElem (by rw[nN,aH])
 intro i h1 h2
 simp[DU,pG,zeros]
theorem WO (ns:List Nat)(k m:Nat){v:Nat}(hv:v=pG ns (k+1) (k/2)):(DU ns k m).set (k/2) v=DU ns (k+1) m:=by
 apply List.ext_getElem (by rw[List.length_set,nN,nN])
 intro i h1 h2
 rw[List.getElem_set]
 by_cases he:k/2=i
 ·subst he
  simp[DU,hv]
 ·rw[if_neg he]
  simp only[DU,List.getElem_map,List.getElem_range,pG]
  have e1:(2*i<k)=(2*i<k+1):=propext ⟨by omega,by omega⟩
  have e2:(2*i+1<k)=(2*i+1<k+1):=propext ⟨by omega,by omega⟩
  simp only[e1,e2]
theorem OA (ns:List Nat){k:Nat}(h:k%2=0):pG ns k (k/2)=0/\pG ns (k+1) (k/2)=ns.getD k 0*16:=by
 have e:2*(k/2)=k:=by omega
 unfold pG
 rw[e]
 constructor
 ·rw[if_neg (by omega),if_neg (by omega)]
 ·rw[if_pos (by omega),if_neg (by omega)];rfl
theorem Sm (ns:List Nat){k:Nat}(h:k%2=1):∃j,k=j+1/\pG ns k (k/2)=ns.getD j 0*16/\pG ns (k+1) (k/2)=ns.getD j 0*16+ns.getD k 0:=by
 have e:2*(k/2)=k-1:=by omega
 have e2:k-1+1=k:=by omega
 refine⟨k-1,by omega,?_⟩
 unfold pG
 rw[e,e2]
 constructor
 ·rw[if_pos (by omega),if_neg (by omega)];rfl
 ·rw[if_pos (by omega),if_pos (by omega)]
theorem WQ {ns:List Nat}(hb:∀x∈ns,x<16)(k i:Nat):pG ns k i<256:=by
 have h1:=aC hb (by decide) (2*i)
 have h2:=aC hb (by decide) (2*i+1)
 unfold pG
 split<;>split<;>omega
theorem ui (ns:List Nat):(Ik ns).length=(ns.length+1)/2:=nN _ _ _
theorem JH {ns:List Nat}(hb:∀x∈ns,x<16):∀x∈Ik ns,x<256:=λx hx=>by
 unfold Ik DU at hx
 obtain⟨i,-,rfl⟩:=List.mem_map.1 hx
 exact WQ hb _ _
theorem rY (ns:List Nat)(hb:∀x∈ns,x<16)(hm:ns.length<208)(a:Option Addr)(c:Nat)(w:World)(hs:Sl w a .u8 ns) :
  Calls prog 175 #[.slice a ns.length c] w λe w'=>∃v,e=.returned v/\Own w' w.heap.size 5 .u8 v (Ik ns)/\Below w.heap.size w w':=by
 have hjl:=ui ns
 have HJN:Hid (Ik ns=DU ns ns.length ((ns.length+1)/2)):=aR rfl
 obtain⟨N,HN⟩:=bD (ns.length)
 rw[HN.out] at hm hjl HJN ⊢
 obtain⟨m,Hm⟩:=bD ((N+1)/2)
 rw[Hm.out] at hjl HJN
 have hm1:((N:Int)+1)/2=(m:Int):=by rw[←Hm.out];omega
 have hm8:m<208:=by rw[←Hm.out];omega
 have hmk:=λW=>xZ m (by omega) W
 go_enter func175,ntmps175
 go_wp2_with fail
 have B1:=aA.new w 5 (ints .u8 (zeros m))
 have aK:=bN w (.cells (ints .u8 (zeros m)) 5)
 generalize (w.alloc (.cells (ints .u8 (zeros m)) 5))=w2 at *
 clear hmk
 go_loopw [13] (λt wr=>∃k:Nat,k<=N/\t=.int .i64 k/\aA wr w.heap.size 5 (ints .u8 (DU ns k m))/\Below w.heap.size w wr) (λt wr=>N-(intOf t).toNat)
 case atStart=>exact⟨0,by omega,rfl,by rw[Sj];exact B1,aK⟩
 case round =>
  clear B1 aK
  obtain⟨k,hk,rfl,C2,bH⟩:=hrel
  by_cases hlt:k<N
  ·obtain⟨q,Hq⟩:∃q,Hid (k/2=q):=⟨_,aR rfl⟩
   have hq1:(k:Int)/2=(q:Int):=by rw[←Hq.out];omega
   have hqm:q<m:=by rw[←Hq.out,←Hm.out];omega
   obtain⟨g0,o0,rfl,hg0,c0⟩:=(hs.below bH).at_ (i:=k) (by rw[HN.out];omega)
   have c2:=C2.int (i:=q) (by rw[nN];exact hqm)
   rw[CY ns k hqm] at c2
   have z2:=C2.frozen q
   have vx:=aC hb (by omega) k
   obtain⟨v,Hv⟩:=bD (pG ns (k+1) q)
   have HC:Hid (aA (wr.setCell ⟨w.heap.size,q,none⟩ (.int .u8 (v:Int))) w.heap.size 5 (ints .u8 (DU ns (k+1) m))):=aR (by
    have h1:=C2.dw q v
    rwa [show (DU ns k m).set q v=DU ns (k+1) m by rw[←Hq.out];exact WO ns k m (by rw[←Hv.out,Hq.out])] at h1)
   have FW:=bH.setCell (p:=⟨w.heap.size,q,none⟩) dM (.int .u8 (v:Int))
   have hd0:decide ((k:Int)<(N:Int))=true:=by simp;omega
   have hqi:(q:Int)<(m:Int):=by omega
   by_cases hp:k%2=0
   ·have hr:(k:Int)%2=0:=by omega
    obtain⟨e1,e2⟩:=OA ns hp
    rw[Hq.out] at e1 e2
    rw[e1] at c2
    rw[Hv.out] at e2
    generalize ns.getD k 0=x at *
    have HX:Hid (bits BinOp.or IntKind.u8 0 ((x:Int)%16*16)=(v:Int)):=aR (by
     have h1:=u8_or_nat 0 (x*16) (by omega) (by omega)
     rw[Nat.zero_or,←e2] at h1
     rw[show (x:Int)%16*16=(v:Int) by omega]
     exact h1)
    clear Hv Hq
    go_wp2_with fail
    go_region
    go_wp2_with fail
    rw[HX.out]
    exact⟨⟨k+1,by omega,by go_num,HC.out.drew,FW.drew⟩,by simp[intOf]<;>omega⟩
   ·have hr:(k:Int)%2=1:=by omega
    obtain⟨j,hj,e1,e2⟩:=Sm ns (k:=k) (by omega)
    have vy:=aC hb (by omega) j
    rw[Hq.out] at e1 e2
    rw[e1] at c2
    rw[Hv.out] at e2
    generalize ns.getD k 0=x at *
    generalize ns.getD j 0=y at *
    have HX:Hid (bits BinOp.or IntKind.u8 ((y:Int)*16) ((x:Int)%16)=(v:Int)):=aR (by
     have h1:=u8_or_nat (y*16) x (by omega) (by omega)
     rw[or16 y vy x vx,←e2] at h1
     rw[show (y:Int)*16=((y*16:Nat):Int) by omega,show (x:Int)%16=(x:Int) by omega]
     exact h1)
    clear Hv Hq hj
    go_wp2_with fail
    go_region
    go_wp2_with fail
    rw[HX.out]
    exact⟨⟨k+1,by omega,by go_num,HC.out.drew,FW.drew⟩,by simp[intOf]<;>omega⟩
  ·obtain rfl:k=N:=by omega
   have hd0:decide ((k:Int)<(k:Int))=false:=by simp
   go_wp2_with fail
   go_ret
   refine⟨_,rfl,?_,bH⟩
   rw[HJN.out]
   have O:=Own.made (xs:=DU ns k m) C2 dM (by rw[nN];simp[maxLen];omega)
   rwa [nN] at O
end
end Go.Proofs.YtaiffkajkbiidaaGreatDoor
