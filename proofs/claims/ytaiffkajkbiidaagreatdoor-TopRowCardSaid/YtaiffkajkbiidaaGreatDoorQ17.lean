/- What this claim leans on, part 17: laws of the model, and what functions of the program compute. No condition but what each law states. -/
import Derived.Test.YtaiffkajkbiidaaGreatDoorQ16
namespace Go.Proofs.YtaiffkajkbiidaaGreatDoor
set_option linter.unusedSimpArgs false
set_option linter.unusedVariables false
set_option linter.unusedSectionVars false
set_option maxRecDepth 100000
set_option maxHeartbeats 40000000
open Go.Proofs.Tryz
open Tryz
section
open Go.RowKit
def nH (X:List Nat)(o:Nat)(ns:List Nat):Nat->List Nat
 | 0=>X
 | i+1=>splice (nH X o ns i) (o+4*i) (cZ 256 4 (ns.getD i 0))
theorem kC {X:List Nat}{o:Nat}(ns:List Nat):∀{i:Nat},o+4*i<=X.length->(nH X o ns i).length=X.length
 | 0,_=>rfl
 | i+1,h=>by
  have h1:=kC (X:=X) (o:=o) ns (i:=i) (by omega)
  unfold nH
  rw[ny (by rw[bn,h1];omega),h1]
theorem NM {X cs:List Nat}{o B:Nat}(hX:∀x∈X,x<B)(hc:∀x∈cs,x<B):∀x∈splice X o cs,x<B:=by
 intro x hx
 unfold splice at hx
 rcases List.mem_append.1 hx with h|h
 ·exact hX x (List.mem_of_mem_take h)
 ·rcases List.mem_append.1 h with h|h
  ·exact hc x h
  ·exact hX x (List.mem_of_mem_drop h)
theorem wQ {X:List Nat}(o:Nat)(ns:List Nat)(hX:∀x∈X,x<256):∀i,∀x∈nH X o ns i,x<256
 | 0=>hX
 | i+1=>by unfold nH;exact NM (wQ o ns hX i) (λx hx=>dU (by decide) _ _ x hx)
theorem Ch.qp {g:Nat}{w w':World}(h:Only w w' g):Ch g w w':=⟨λb _ hg=>h.other b hg,Nat.le_of_eq h.size.symm,λhb hB _=>h.below _ _ hb hB⟩
theorem Jk (go o m cm gn p cn T:Nat)(X ns:List Nat)(hX:X.length=o+m)(hm:m<=cm)(hn:4*ns.length<=m)(hm31:m<2^31)(hcm31:cm<2^31)(hnb:∀x∈ns,x<4294967296)(hne:gn≠go)(w:World)(hO:aA w go T (ints .u8 X))(hN:Sl w (some ⟨gn,p,none⟩) .u32 ns) :
  Calls prog 59 #[.slice (some ⟨go,o,none⟩) m cm,.slice (some ⟨gn,p,none⟩) ns.length cn] w λe w'=>e=.returned (.tuple #[])/\aA w' go T (ints .u8 (nH X o ns ns.length))/\Ch go w w':=by
 obtain⟨N,HN⟩:=bD (ns.length)
 rw[HN.out] at hn ⊢
 go_enter func59,ntmps59
 go_wp2_with fail
 go_loopw [9] (λt wr=>∃i:Nat,i<=N/\t=.int .i64 (i:Int)/\aA wr go T (ints .u8 (nH X o ns i))/\Ch go w wr) (λt wr=>N-(intOf t).toNat)
 case atStart=>exact⟨0,by omega,rfl,hO,Ch.refl go w⟩
 case round =>
  clear hO
  obtain⟨i,hi,rfl,O,hch⟩:=hrel
  by_cases hlt:i<N
  ·have hd:decide ((i:Int)<(N:Int))=true:=by simp;omega
   have hiN:(i:Int)<(N:Int):=by omega
   have N1:=hch.sl hN λb off e=>by cases e;exact hne
   have c0:=N1.eq (i:=i) (by rw[HN.out];exact hlt)
   have hx:=aC hnb (by decide) i
   have HS:Hid (splice (nH X o ns i) (o+4*i) (cZ 256 4 (ns.getD i 0))=nH X o ns (i+1)):=aR rfl
   have hpl:=kC (X:=X) (o:=o) ns (i:=i) (by omega)
   obtain⟨q,Hq⟩:=bD (4*i)
   have hq:4*(i:Int)=(q:Int):=by rw[←Hq.out];omega
   have hqm:q+4<=m:=by rw[←Hq.out];omega
   rw[Hq.out] at HS
   clear Hq
   generalize nH X o ns i=Y at *
   generalize ns.getD i 0=x at *
   have hpw:=qm x hx
   go_wp2_with fail
   refine(hpw _).mono ?_
   clear hpw
   rintro e w3 ⟨rfl,hb3⟩
   have JW:=hch.trans (Ch.of_below hb3)
   have E3:=(O.below' hb3).alloc (.cells (ints .u8 (zeros 4)) 65)
   have E4:=aA.new w3 65 (ints .u8 (zeros 4))
   have hl3:=(O.below' hb3).lt
   have dl:(cZ 256 4 x).length=4:=bn _ _ _
   generalize cZ 256 4 x=zs at *
   have F3:=E3.aM (show go≠w3.heap.size by omega) (ints .u8 zs)
   have F4:=E4.row (ints .u8 zs)
   have Xg:=JW.trans (Ch.of_below (az (bN w3 (.cells (ints .u8 (zeros 4)) 65)) dM (ints .u8 zs)))
   clear O c0 N1 hch hb3 E3 JW hx
   go_wp2_with ((first|(refine ae rfl 65 rfl Vp ?_)|(refine aa rfl 65 _ _ rfl w3.heap.size rfl rfl E4 (ah _ _) vZ dl ?_));(try simp only[nn,Nat.reduceAdd]))
   clear E4
   have hl5:go<w3.heap.size:=hl3
   generalize ((w3.alloc (.cells (ints .u8 (zeros 4)) 65)).setRow w3.heap.size (ints .u8 zs))=w5 at *
   generalize w3.heap.size=s5 at *
   have hpi:(0:Int)<=(q:Int):=by omega
   have acA:(q:Int)<=(m:Int):=by omega
   have hne16:¬(cm=q):=by omega
   have hwp:IntKind.i64.wrap (q:Int)=(q:Int):=IntWalk.i64_in _ (by omega)
   refine wp_region_still_tail 5 (by kernel_rfl) (by kernel_rfl) ?_
   simp only[List.take_succ_cons,List.take_zero,List.drop_succ_cons,List.drop_zero]
   repeat still_step
   refine wpStill_nil ?_
   change wpList _ _ _ _ _ w5.drew
   have G3:=F3.drew
   refine bM (off:=o+q) (dLen:=m-q) (sLen:=4) rfl rfl underlying23 s15 rfl rfl G3 (Sl.blk F4.drew) (by rw[dl];exact(Nat.min_eq_left (by omega:4<=m-q)).symm) (λ_=>rfl) (by rw[hpl,dl];omega) ?_
   intro w6 G4 ho
   rw[HS.out] at G4
   have zU:=Xg.drew.trans (Ch.qp ho)
   clear F3 F4 G3 ho Xg
   go_wp2_with fail
   exact⟨⟨i+1,by omega,by go_num,G4,zU⟩,by simp[intOf]<;>omega⟩
  ·obtain rfl:i=N:=by omega
   have hd:decide ((i:Int)<(i:Int))=false:=by simp
   go_wp2_with fail
   exact bodyPost_end (v:=.tuple #[]) (by simp[results,results59]) rfl ⟨rfl,O,hch⟩
theorem Tryz.YB:IsZero prog 109 64 .u8:=isZero (by kernel_rfl)
theorem Tryz.adf:IsZero prog 85 32 .u8:=isZero (by kernel_rfl)
theorem Tryz.DI:dG prog 109 64:=jH underlying109 (by kernel_rfl)
theorem Tryz.pW:dG prog 85 32:=jH underlying85 (by kernel_rfl)
def Nc (t s:List Nat):Nat->List Nat
 | 0=>t
 | i+1=>(Nc t s i).set i (((Nc t s i).getD i 0+s.getD i 0)%4294967296)
def Zq (key fG:List Nat):List Nat:=nH (zeros 64) 0 (Nc (Fu (zM key fG 4) 6) (zM key fG 4) 16) 16
def XP (key fG:List Nat):List Nat:=nH (nH (zeros 32) 0 (((Fu (zM key fG 4) 6).drop 0).take 4) 4) 16 (((Fu (zM key fG 4) 6).drop 12).take 4) 4
theorem MQ (key fG:List Nat):(Zq key fG).length=64:=by unfold Zq;rw[kC _ (by simp[aH]),aH]
theorem yR (key fG:List Nat):∀x∈Zq key fG,x<256:=wQ _ _ (dh 64 (by decide)) 16
theorem MP (key fG:List Nat):(XP key fG).length=32:=by unfold XP;rw[kC _ (by rw[kC _ (by simp[aH])];simp[aH]),kC _ (by simp[aH]),aH]
theorem abJ (key fG:List Nat):∀x∈XP key fG,x<256:=wQ _ _ (wQ _ _ (dh 32 (by decide)) 4) 4
theorem Pn (key fG:List Nat)(hk:key.length=32)(hkb:∀x∈key,x<256)(hi:fG.length=16)(hib:∀x∈fG,x<256)(w:World) :
  Calls prog 41 #[.agg (ints .u8 key),.agg (ints .u8 fG),.int .i64 12] w λe w'=>e=.returned (.tuple #[.agg (ints .u8 (Zq key fG)),.int .i64 0])/\Below w.heap.size w w':=by
 have A0:=(((aA.new w 85 (ints .u8 key)).alloc (.cells (ints .u8 fG) 96)).alloc (.cells (ints .u8 (zeros 64)) 109)).alloc (.cells (ints .u8 (zeros 64)) 109)
 have A1:=((aA.new (w.alloc (.cells (ints .u8 key) 85)) 96 (ints .u8 fG)).alloc (.cells (ints .u8 (zeros 64)) 109)).alloc (.cells (ints .u8 (zeros 64)) 109)
 have A2:=(aA.new ((w.alloc (.cells (ints .u8 key) 85)).alloc (.cells (ints .u8 fG) 96)) 109 (ints .u8 (zeros 64))).alloc (.cells (ints .u8 (zeros 64)) 109)
 have A3:=aA.new (((w.alloc (.cells (ints .u8 key) 85)).alloc (.cells (ints .u8 fG) 96)).alloc (.cells (ints .u8 (zeros 64)) 109)) 109 (ints .u8 (zeros 64))
 have hbel:=(((bN w (.cells (ints .u8 key) 85)).alloc (by simp) (.cells (ints .u8 fG) 96)).alloc (by simp;omega) (.cells (ints .u8 (zeros 64)) 109)).alloc (by simp;omega) (.cells (ints .u8 (zeros 64)) 109)
 simp only[World.size_alloc,Nat.add_assoc,Nat.reduceAdd] at A1 A2 A3
 have HB:Hid (Zq key fG=nH (zeros 64) 0 (Nc (Fu (zM key fG 4) 6) (zM key fG 4) 16) 16):=aR rfl
 have hbl:=MQ key fG
 generalize Zq key fG=R at *
 go_enter func41,ntmps41
 go_wp2_with (refine ae rfl 109 rfl YB ?_;(try simp only[nn,Nat.reduceAdd]))
 generalize ((((w.alloc (.cells (ints .u8 key) 85)).alloc (.cells (ints .u8 fG) 96)).alloc (.cells (ints .u8 (zeros 64)) 109)).alloc (.cells (ints .u8 (zeros 64)) 109))=w0 at *
 refine(Bb _).mono ?_
 rintro e w1 ⟨rfl,rfl⟩
 go_wp2_with ((first|(refine ag rfl 85 _ rfl _ rfl A0 pW hk ?_)|(refine ag rfl 96 _ rfl _ rfl A1 aD hi ?_));(try simp only[nn,Nat.reduceAdd]))
 refine(Ld key fG hk hkb hi hib _).mono ?_
 rintro e w2 ⟨rfl,hb2⟩
 have hs0:=Cj key fG 4
 have hsl:=IY hkb hib 4
 generalize zM key fG 4=s0 at *
 have C2:=A2.below' hb2
 have C3:=A3.below' hb2
 have aB:=bC hbel hb2
 have hl3:=C3.lt
 have D0:=aA.new w2 139 (ints .u32 (zeros 16))
 have D1:=D0.row (ints .u32 s0)
 have D2:=(C2.alloc (.cells (ints .u32 (zeros 16)) 139)).aM (show w.heap.size+2≠w2.heap.size by omega) (ints .u32 s0)
 have D3:=(C3.alloc (.cells (ints .u32 (zeros 16)) 139)).aM (show w.heap.size+3≠w2.heap.size by omega) (ints .u32 s0)
 have aG:=az (aB.alloc aB.size (.cells (ints .u32 (zeros 16)) 139)) aB.size (ints .u32 s0)
 clear A0 A1 A2 A3 hbel hb2 C2 C3 aB
 go_wp2_with ((first|(refine ae rfl 139 rfl z5 ?_)|(refine aa rfl 139 _ _ rfl _ rfl rfl D0 (ah _ _) Vm hs0 ?_;clear D0)|(refine ag rfl 139 _ rfl _ rfl D1 Vm hs0 ?_));(try simp only[nn,Nat.reduceAdd]))
 generalize ((w2.alloc (.cells (ints .u32 (zeros 16)) 139)).setRow w2.heap.size (ints .u32 s0))=w3 at *
 obtain⟨gs,Hgs⟩:=bD (w2.heap.size)
 rw[Hgs.out] at D1 hl3 ⊢
 clear Hgs
 refine(LM s0 hs0 hsl w3).mono ?_
 rintro e w4 ⟨rfl,gq,WX,hb4⟩
 generalize Fu s0 6=t0 at *
 have E1:=D1.below' hb4
 have E2:=D2.below' hb4
 have E3:=D3.below' hb4
 have aY:=bC aG hb4
 have hl4:=E1.lt
 have F0:=aA.new w4 139 (ints .u32 (zeros 16))
 have F4:=F0.row (ints .u32 t0)
 have F1:=(E1.alloc (.cells (ints .u32 (zeros 16)) 139)).aM (show gs≠w4.heap.size by omega) (ints .u32 t0)
 have F2:=(E2.alloc (.cells (ints .u32 (zeros 16)) 139)).aM (show w.heap.size+2≠w4.heap.size by omega) (ints .u32 t0)
 have F3:=(E3.alloc (.cells (ints .u32 (zeros 16)) 139)).aM (show w.heap.size+3≠w4.heap.size by omega) (ints .u32 t0)
 have bA:=az (aY.alloc aY.size (.cells (ints .u32 (zeros 16)) 139)) aY.size (ints .u32 t0)
 clear D1 D2 D3 aG hb4 E1 E2 E3 aY
 go_wp2_with ((first|(refine ae rfl 139 rfl z5 ?_)|(refine aa rfl 139 _ _ rfl _ rfl rfl F0 (ah _ _) Vm gq ?_;clear F0));(try simp only[nn,Nat.reduceAdd]))
 have hgt:w.heap.size+3<w4.heap.size:=by omega
 have hgst:gs<w4.heap.size:=hl4
 generalize ((w4.alloc (.cells (ints .u32 (zeros 16)) 139)).setRow w4.heap.size (ints .u32 t0))=w5 at *
 obtain⟨gt,agL⟩:=bD (w4.heap.size)
 rw[agL.out] at F4 hgt hgst ⊢
 clear agL
 have S0:wu w5 gt t0:=⟨gq,WX,F4⟩
 clear F4 hl4 hl3
 obtain⟨Y,HY⟩:=bD (Nc t0 s0 16)
 go_loopw [25] (λt wr=>∃i:Nat,i<=16/\t=.int .i64 (i:Int)/\wu wr gt (Nc t0 s0 i)/\aA wr gs 139 (ints .u32 s0)/\aA wr (w.heap.size+2) 109 (ints .u8 (zeros 64))/\aA wr (w.heap.size+3) 109 (ints .u8 (zeros 64))/\Below w.heap.size w wr) (λt wr=>16-(intOf t).toNat)
 case atStart=>exact⟨0,by omega,rfl,S0,F1,F2,F3,bA⟩
 case round =>
  clear S0 F1 F2 F3 bA
  obtain⟨i,wI,rfl,S,F1,F2,F3,bA⟩:=hrel
  by_cases hlt:i<16
  ·have hd:decide ((i:Int)<16)=true:=by simp;omega
   have hii:(i:Int)<16:=by omega
   have HS:Hid (Nc t0 s0 (i+1)=(Nc t0 s0 i).set i (((Nc t0 s0 i).getD i 0+s0.getD i 0)%4294967296)):=aR rfl
   obtain⟨hx,c0⟩:=S.at_ hlt
   have c1:=F1.int (i:=i) (by omega)
   have z0:=S.frozen i
   have S2:=S.drew.set i (n:=((Nc t0 s0 i).getD i 0+s0.getD i 0)%4294967296) (Nat.mod_lt _ (by decide))
   rw[←HS.out] at S2
   have hw:IntKind.u32.wrap (((Nc t0 s0 i).getD i 0:Nat)+(s0.getD i 0:Nat):Int)=((((Nc t0 s0 i).getD i 0+s0.getD i 0)%4294967296:Nat):Int):=by rw[IntKind.wrap_u32];omega
   clear HS
   generalize ((Nc t0 s0 i).getD i 0+s0.getD i 0)%4294967296=v at *
   generalize (Nc t0 s0 i).getD i 0=x at *
   generalize s0.getD i 0=y at *
   have G1:=F1.drew.far (p:=⟨gt,i,none⟩) (show gs≠gt by omega) (.int .u32 (v:Int))
   have G2:=F2.drew.far (p:=⟨gt,i,none⟩) (show w.heap.size+2≠gt by omega) (.int .u32 (v:Int))
   have G3:=F3.drew.far (p:=⟨gt,i,none⟩) (show w.heap.size+3≠gt by omega) (.int .u32 (v:Int))
   have bK:=bA.drew.setCell (p:=⟨gt,i,none⟩) (show w.heap.size<=gt by omega) (.int .u32 (v:Int))
   clear S F1 F2 F3 bA
   go_wp2_with fail
   go_region
   go_wp2_with fail
   exact⟨⟨i+1,by omega,by go_num,S2,G1,G2,G3,bK⟩,by simp[intOf]<;>omega⟩
  ·obtain rfl:i=16:=by omega
   have hd:decide (((16:Nat):Int)<16)=false:=by simp
   rw[HY.out] at S
   have HR:Hid (R=nH (zeros 64) 0 Y 16):=aR (by rw[HB.out,HY.out])
   clear HY HB
   have hyl:=S.len
   have hput:=λW (h1:aA W (w.heap.size+3) 109 (ints .u8 (zeros 64))) (h2:Sl W (some ⟨gt,0,none⟩) .u32 Y)=>Jk (w.heap.size+3) 0 64 64 gt 0 16 109 (zeros 64) Y (by rw[aH]) (by decide) (by omega) (by decide) (by decide) S.wF (by omega) W h1 h2
   rw[hyl] at hput
   rw[←HR.out] at hput
   clear HR
   go_wp2_with fail
   refine wp_region_still_tail 2 (by kernel_rfl) (by kernel_rfl) ?_
   simp only[List.take_succ_cons,List.take_zero,List.drop_succ_cons,List.drop_zero]
   repeat still_step
   refine wpStill_nil ?_
   change wpList _ _ _ _ _ wr.drew
   have G2:=F2.drew
   have bK:=bA.drew
   have hp1:=hput wr.drew F3.drew (Sl.blk S.blk.drew)
   clear hput S F1 F2 F3 bA
   go_wp2_with fail
   refine hp1.mono ?_
   clear hp1
   rintro e w6 ⟨rfl,O,hch⟩
   have G3:=hch.blk G2 (by omega)
   have dm:=hch.below bK (by omega) bK.size
   go_wp2_with ((first|(refine ag rfl 109 _ rfl _ rfl O DI hbl ?_)|(refine aa rfl 109 _ _ rfl _ rfl rfl G3 (ah _ _) DI hbl ?_));(try simp only[nn,Nat.reduceAdd]))
   exact ic rfl rfl rfl (G3.row _) DI hbl ⟨rfl,az dm (by omega) _⟩
theorem Pm (key fG:List Nat)(hk:key.length=32)(hkb:∀x∈key,x<256)(hi:fG.length=16)(hib:∀x∈fG,x<256)(w:World) :
  Calls prog 39 #[.agg (ints .u8 key),.agg (ints .u8 fG),.int .i64 12] w λe w'=>e=.returned (.tuple #[.agg (ints .u8 (XP key fG)),.int .i64 0])/\Below w.heap.size w w':=by
 have A0:=(((aA.new w 85 (ints .u8 key)).alloc (.cells (ints .u8 fG) 96)).alloc (.cells (ints .u8 (zeros 32)) 85)).alloc (.cells (ints .u8 (zeros 32)) 85)
 have A1:=((aA.new (w.alloc (.cells (ints .u8 key) 85)) 96 (ints .u8 fG)).alloc (.cells (ints .u8 (zeros 32)) 85)).alloc (.cells (ints .u8 (zeros 32)) 85)
 have A2:=(aA.new ((w.alloc (.cells (ints .u8 key) 85)).alloc (.cells (ints .u8 fG) 96)) 85 (ints .u8 (zeros 32))).alloc (.cells (ints .u8 (zeros 32)) 85)
 have A3:=aA.new (((w.alloc (.cells (ints .u8 key) 85)).alloc (.cells (ints .u8 fG) 96)).alloc (.cells (ints .u8 (zeros 32)) 85)) 85 (ints .u8 (zeros 32))
 have hbel:=(((bN w (.cells (ints .u8 key) 85)).alloc (by simp) (.cells (ints .u8 fG) 96)).alloc (by simp;omega) (.cells (ints .u8 (zeros 32)) 85)).alloc (by simp;omega) (.cells (ints .u8 (zeros 32)) 85)
 simp only[World.size_alloc,Nat.add_assoc,Nat.reduceAdd] at A1 A2 A3
 have HB:Hid (XP key fG=nH (nH (zeros 32) 0 (((Fu (zM key fG 4) 6).drop 0).take 4) 4) 16 (((Fu (zM key fG 4) 6).drop 12).take 4) 4):=aR rfl
 have hbl:=MP key fG
 generalize XP key fG=R at *
 go_enter func39,ntmps39
 go_wp2_with (refine ae rfl 85 rfl adf ?_;(try simp only[nn,Nat.reduceAdd]))
 generalize ((((w.alloc (.cells (ints .u8 key) 85)).alloc (.cells (ints .u8 fG) 96)).alloc (.cells (ints .u8 (zeros 32)) 85)).alloc (.cells (ints .u8 (zeros 32)) 85))=w0 at *
 refine(Bb _).mono ?_
 rintro e w1 ⟨rfl,rfl⟩
 go_wp2_with ((first|(refine ag rfl 85 _ rfl _ rfl A0 pW hk ?_)|(refine ag rfl 96 _ rfl _ rfl A1 aD hi ?_));(try simp only[nn,Nat.reduceAdd]))
 refine(Ld key fG hk hkb hi hib _).mono ?_
 rintro e w2 ⟨rfl,hb2⟩
 have hs0:=Cj key fG 4
 have hsl:=IY hkb hib 4
 generalize zM key fG 4=s0 at *
 have C2:=A2.below' hb2
 have C3:=A3.below' hb2
 have aB:=bC hbel hb2
 clear A0 A1 A2 A3 hbel hb2
 go_wp2_with fail
 refine(LM s0 hs0 hsl w2).mono ?_
 rintro e w4 ⟨rfl,gq,WX,hb4⟩
 generalize Fu s0 6=t0 at *
 have E2:=C2.below' hb4
 have E3:=C3.below' hb4
 have aY:=bC aB hb4
 have hl3:=E3.lt
 have F0:=aA.new w4 139 (ints .u32 (zeros 16))
 have F4:=F0.row (ints .u32 t0)
 have F2:=(E2.alloc (.cells (ints .u32 (zeros 16)) 139)).aM (show w.heap.size+2≠w4.heap.size by omega) (ints .u32 t0)
 have F3:=(E3.alloc (.cells (ints .u32 (zeros 16)) 139)).aM (show w.heap.size+3≠w4.heap.size by omega) (ints .u32 t0)
 have bA:=az (aY.alloc aY.size (.cells (ints .u32 (zeros 16)) 139)) aY.size (ints .u32 t0)
 clear C2 C3 aB hb4 E2 E3 aY
 go_wp2_with ((first|(refine ae rfl 139 rfl z5 ?_)|(refine aa rfl 139 _ _ rfl _ rfl rfl F0 (ah _ _) Vm gq ?_;clear F0));(try simp only[nn,Nat.reduceAdd]))
 generalize ((w4.alloc (.cells (ints .u32 (zeros 16)) 139)).setRow w4.heap.size (ints .u32 t0))=w5 at *
 have hgt:w.heap.size+3<w4.heap.size:=hl3
 obtain⟨gt,agL⟩:=bD (w4.heap.size)
 rw[agL.out] at F4 hgt ⊢
 clear agL hl3
 have hY:=λW (h:aA W gt 139 (ints .u32 t0))=>Sl.sub h 0 4 (by omega)
 have hZ:=λW (h:aA W gt 139 (ints .u32 t0))=>Sl.sub h 12 4 (by omega)
 have yl:((t0.drop 0).take 4).length=4:=by rw[List.length_take,List.length_drop];omega
 have zl:((t0.drop 12).take 4).length=4:=by rw[List.length_take,List.length_drop];omega
 have yb:∀x∈(t0.drop 0).take 4,x<4294967296:=λx hx=>WX x (List.mem_of_mem_drop (List.mem_of_mem_take hx))
 have zb:∀x∈(t0.drop 12).take 4,x<4294967296:=λx hx=>WX x (List.mem_of_mem_drop (List.mem_of_mem_take hx))
 generalize (t0.drop 0).take 4=Y at *
 generalize (t0.drop 12).take 4=Z at *
 have hx1l:(nH (zeros 32) 0 Y 4).length=32:=by rw[kC _ (by simp[aH]),aH]
 have hput:=λW (h1:aA W (w.heap.size+3) 85 (ints .u8 (zeros 32))) (h2:Sl W (some ⟨gt,0,none⟩) .u32 Y)=>Jk (w.heap.size+3) 0 32 32 gt 0 16 85 (zeros 32) Y (by rw[aH]) (by decide) (by omega) (by decide) (by decide) yb (by omega) W h1 h2
 rw[yl] at hput
 generalize nH (zeros 32) 0 Y 4=X1 at *
 have SG:=λW (h1:aA W (w.heap.size+3) 85 (ints .u8 X1)) (h2:Sl W (some ⟨gt,12,none⟩) .u32 Z)=>Jk (w.heap.size+3) 16 16 16 gt 12 4 85 X1 Z (by rw[hx1l]) (by decide) (by omega) (by decide) (by decide) zb (by omega) W h1 h2
 rw[zl,←HB.out] at SG
 clear HB yl zl yb zb
 refine wp_region_still_tail 2 (by kernel_rfl) (by kernel_rfl) ?_
 simp only[List.take_succ_cons,List.take_zero,List.drop_succ_cons,List.drop_zero]
 repeat still_step
 refine wpStill_nil ?_
 change wpList _ _ _ _ _ w5.drew
 have G2:=F2.drew
 have G4:=F4.drew
 have bK:=bA.drew
 have hp1:=hput w5.drew F3.drew (hY _ G4)
 clear hput F4 F2 F3 bA hY
 go_wp2_with fail
 refine hp1.mono ?_
 clear hp1
 rintro e w6 ⟨rfl,O,hch⟩
 have G3:=hch.blk G2 (by omega)
 have G5:=hch.blk G4 (by omega)
 have dm:=hch.below bK (by omega) bK.size
 clear hch G2 G4 bK
 go_wp2_with fail
 refine wp_region_still_tail 2 (by kernel_rfl) (by kernel_rfl) ?_
 simp only[List.take_succ_cons,List.take_zero,List.drop_succ_cons,List.drop_zero]
 repeat still_step
 refine wpStill_nil ?_
 change wpList _ _ _ _ _ w6.drew
 have G6:=G3.drew
 have gL:=dm.drew
 have hp2:=SG w6.drew O.drew (hZ _ G5.drew)
 clear SG G3 G5 dm hZ O
 go_wp2_with fail
 refine hp2.mono ?_
 clear hp2
 rintro e w7 ⟨rfl,O,hch⟩
 have G7:=hch.blk G6 (by omega)
 have mO:=hch.below gL (by omega) gL.size
 go_wp2_with ((first|(refine ag rfl 85 _ rfl _ rfl O pW hbl ?_)|(refine aa rfl 85 _ _ rfl _ rfl rfl G7 (ah _ _) pW hbl ?_));(try simp only[nn,Nat.reduceAdd]))
 exact ic rfl rfl rfl (G7.row _) pW hbl ⟨rfl,az mO (by omega) _⟩
end
section
open Go.RowKit
def Pd (B:Nat->List Nat)(s:Nat)(xs:List Nat):List Nat:=(List.range xs.length).map λi=>xs.getD i 0^^^(B (i/s)).getD (i%s) 0
theorem gN (B:Nat->List Nat)(s:Nat)(xs:List Nat):(Pd B s xs).length=xs.length:=by simp[Pd]
theorem yM (B:Nat->List Nat)(s:Nat)(xs:List Nat){i:Nat}(h:i<xs.length):(Pd B s xs).getD i 0=xs.getD i 0^^^(B (i/s)).getD (i%s) 0:=by
 unfold Pd
 rw[List.getD_eq_getElem?_getD,List.getElem?_map,List.getElem?_range h]
 rfl
theorem vH {B:Nat->List Nat}{s:Nat}{xs:List Nat}(hB:∀k,∀x∈B k,x<256)(hx:∀x∈xs,x<256):∀x∈Pd B s xs,x<256:=by
 intro x h
 unfold Pd at h
 obtain⟨i,-,rfl⟩:=List.mem_map.1 h
 exact Nat.xor_lt_two_pow (n:=8) (aC hx (by decide) i) (aC (hB _) (by decide) _)
theorem gX {xs ys:List Nat}(hl:xs.length=ys.length)(h:∀i,i<xs.length->xs.getD i 0=ys.getD i 0):xs=ys:=by
 apply List.ext_getElem hl
 intro i h1 h2
 have:=h i h1
 rwa [List.getD_eq_getElem?_getD,List.getD_eq_getElem?_getD,List.getElem?_eq_getElem h1,List.getElem?_eq_getElem h2] at this
theorem MK (B:Nat->List Nat)(s:Nat)(xs:List Nat):Pd B s (Pd B s xs)=xs:=by
 refine gX (by rw[gN,gN]) λi hi=>?_
 rw[gN,gN] at hi
 rw[yM B s _ (by rw[gN];exact hi),yM B s _ hi,Nat.xor_assoc,Nat.xor_self,Nat.xor_zero]
theorem yD (xs:List Nat)(p i:Nat):(xs.drop p).getD i 0=xs.getD (p+i) 0:=by
 rw[List.getD_eq_getElem?_getD,List.getD_eq_getElem?_getD,List.getElem?_drop]
theorem yC {xs:List Nat}{n i:Nat}(h:i<n):(xs.take n).getD i 0=xs.getD i 0:=by
 rw[List.getD_eq_getElem?_getD,List.getD_eq_getElem?_getD,List.getElem?_take_of_lt h]
theorem GJ (B:Nat->List Nat){s:Nat}(b:List Nat)(q n:Nat)(hs:0<s)(hn:n=min (b.length-s*q) s):(Pd B s b).take (s*q)++dS (b.drop (s*q)) (B q) n=(Pd B s b).take (s*q+n):=by
 rw[List.take_add]
 congr 1
 have hl:(((Pd B s b).drop (s*q)).take n).length=n:=by rw[List.length_take,List.length_drop,gN];omega
 refine gX (by rw[hl,dJ]) λi hi=>?_
 rw[dJ] at hi
 rw[jf _ _ hi,yC hi,yD,yD,yM B s b (by omega)]
 have h1:(s*q+i)/s=q:=by rw[Nat.mul_add_div hs,Nat.div_eq_of_lt (by omega),Nat.add_zero]
 have h2:(s*q+i)%s=i:=by rw[Nat.mul_add_mod,Nat.mod_eq_of_lt (by omega)]
 rw[h1,h2]
end
section
open Go.RowKit
theorem Tryz.ags:dG prog 91 24:=jH underlying91 (by kernel_rfl)
theorem uR (a b:Option Addr)(c d n N:Nat)(xs ys:List Nat)(hN:xs.length=N)(hn:n<2^32)(hl:n<=N)(hl':n<=ys.length)(JR:n=N∨n=ys.length)(hNl:N<2^32)(hlen:ys.length<2^32)(hb:∀x∈xs,x<256)(hb':∀x∈ys,x<256)(w:World)(A0:Sl w a .u8 xs)(A1:Sl w b .u8 ys) :
  Calls prog 42 #[.slice a N c,.slice b ys.length d] w λe w'=>e=.returned (.slice (some ⟨w.heap.size,0,none⟩) n n)/\Below w.heap.size w w'/\aA w' w.heap.size 5 (ints .u8 (dS xs ys n)):=by
 have hmk:=λW=>xZ n (by omega) W
 have hmin:min (N:Int) (ys.length:Int)=(n:Int):=by omega
 have hxl:=dJ xs ys n
 obtain⟨m,Hm⟩:=bD (ys.length)
 rw[Hm.out] at hmin hlen hl' JR ⊢
 replace JR:=aR JR
 go_enter func42,ntmps42
 go_wp2
 clear hmk
 have Ta:min (N:Int) (m:Int)=(n:Int):=hmin
 go_loopw [15] (λt wr=>∃k:Nat,k<=n/\t=.int .i64 k/\aA wr w.heap.size 5 (ints .u8 ((dS xs ys n).take k++zeros (n-k)))/\Below w.heap.size w wr) (λt wr=>n-(intOf t).toNat)
 case atStart=>exact⟨0,by omega,rfl,aA.new _ _ _,bN _ _⟩
 case round =>
  rename_i hrel
  obtain⟨k,hk,rfl,C2,bH⟩:=hrel
  by_cases hlt:k<n
  ·have hll:((dS xs ys n).take k++zeros (n-k)).length=n:=by rw[List.length_append,List.length_take,hxl,aH];omega
   obtain⟨g0,o0,rfl,hg0,c0⟩:=(A0.below bH).at_ (i:=k) (by rw[hN];omega)
   obtain⟨g1,o1,rfl,hg1,c1⟩:=(A1.below bH).at_ (i:=k) (by rw[Hm.out];omega)
   have c2:=C2.int (i:=k) (by omega)
   have z2:=C2.frozen k
   have vx:=aC hb (by omega) k
   have vy:=aC hb' (by omega) k
   have hv:=jf xs ys hlt
   have nW:=C2.dw k (xs.getD k 0^^^ys.getD k 0)
   rw[take_set hxl hlt hv] at nW
   have HC:=aR nW
   have HX:=aR (show bits BinOp.xor IntKind.u8 ((xs.getD k 0:Nat):Int) ((ys.getD k 0:Nat):Int)=((xs.getD k 0^^^ys.getD k 0:Nat):Int) from u8_xor_nat _ _ vx vy)
   clear nW hll hv hmin Ta
   generalize xs.getD k 0=x at *
   generalize ys.getD k 0=y at *
   have hd0:decide ((k:Int)<(n:Int))=true:=by simp;omega
   have hkm:(k:Int)<(m:Int):=by omega
   have hkN:(k:Int)<(N:Int):=by omega
   go_wp2
   go_region
   all_goals
    rw[HX.out]
    go_wp2
    exact⟨⟨k+1,by omega,by go_num,HC.out.drew,(bH.setCell (by first|omega|(simp;done)|(simp;omega)) _).drew⟩,by simp[intOf]<;>omega⟩
  ·obtain rfl:k=n:=by omega
   have he:(dS xs ys k).take k++zeros (k-k)=dS xs ys k:=by rw[List.take_of_length_le (by omega)];simp[zeros]
   rw[he] at C2
   have hd0:decide ((k:Int)<(k:Int))=false:=by simp
   go_wp2
   go_ret
   exact⟨rfl,bH,C2⟩
theorem EH {X Y zs:List Nat}(h:X.length=zs.length):splice (X++Y) 0 zs=zs++Y:=by
 unfold splice
 rw[List.take_zero,List.nil_append,Nat.zero_add,←h,List.drop_left]
theorem Ck {nd:List Nat}(h:nd.length=8):splice (zeros 16) 8 nd=zeros 8++nd:=by
 have h1:=qf (A:=zeros 8) (zs:=nd) (p:=8) (n:=8) (m:=0) (aH 8) h
 have e:zeros 8++zeros (8+0)=zeros 16:=rfl
 rw[e] at h1
 rw[h1]
 exact List.append_nil _
def RX:Value->Nat
 | .slice _ n _=>n
 | _=>0
def chN (key fe:List Nat)(q:Nat):List Nat:=Zq (XP key (fe.take 16)) (cZ 256 8 q++fe.drop 16)
def xu (key fe b:List Nat):List Nat:=Pd (chN key fe) 64 b
theorem BB (key fe b:List Nat)(hk:key.length=32)(hkb:∀x∈key,x<256)(hn:fe.length=24)(hnb:∀x∈fe,x<256)(hb:∀x∈b,x<256)(hbl:b.length<2^31)(a0:Option Addr)(c0:Nat)(hc0:b.length<=c0)(w:World)(hs:Sl w a0 .u8 b) :
  Calls prog 33 #[.agg (ints .u8 key),.agg (ints .u8 fe),.int .i64 12,.slice a0 b.length c0] w λe w'=>∃v,e=.returned (.tuple #[v,.int .i64 0])/\Own w' w.heap.size 5 .u8 v (xu key fe b)/\Below w.heap.size w w':=by
 obtain⟨N,HN⟩:=bD (b.length)
 rw[HN.out] at hc0 hbl ⊢
 obtain⟨RR,HRR⟩:=bD (xu key fe b)
 have hrl:RR.length=N:=by rw[←HRR.out];unfold xu;rw[gN,HN.out]
 have HST:Hid (∀q n,n=min (N-64*q) 64->RR.take (64*q)++dS (b.drop (64*q)) (chN key fe q) n=RR.take (64*q+n)):=aR λq n h=>by
  rw[←HRR.out];unfold xu;exact GJ _ b q n (by decide) (by rw[HN.out];exact h)
 rw[HRR.out]
 have A0:=(aA.new w 85 (ints .u8 key)).alloc (.cells (ints .u8 fe) 91)
 have A1:=aA.new (w.alloc (.cells (ints .u8 key) 85)) 91 (ints .u8 fe)
 rw[World.size_alloc] at A1
 have hbel:=(bN w (.cells (ints .u8 key) 85)).alloc (by simp) (.cells (ints .u8 fe) 91)
 have hnl:(fe.take 16).length=16:=by rw[List.length_take];omega
 have hntb:∀x∈fe.take 16,x<256:=λx hx=>hnb x (List.mem_of_mem_take hx)
 have hsh:=λW=>Pm key (fe.take 16) hk hkb hnl hntb W
 have hol:=MP key (fe.take 16)
 have FT:=abJ key (fe.take 16)
 have HO:Hid (∀q,chN key fe q=Zq (XP key (fe.take 16)) (cZ 256 8 q++fe.drop 16)):=aR λ_=>rfl
 generalize XP key (fe.take 16)=own at *
 have hs1:=hs.below hbel
 go_enter func33,ntmps33
 go_wp2_with fail
 generalize ((w.alloc (.cells (ints .u8 key) 85)).alloc (.cells (ints .u8 fe) 91))=w0 at *
 have hdl:(fe.drop 16).length=8:=by rw[List.length_drop];omega
 have JV:∀x∈fe.drop 16,x<256:=λx hx=>hnb x (List.mem_of_mem_drop hx)
 have HD:=Sl.sub A1 16 8 (by omega)
 rw[List.take_of_length_le (by omega:(fe.drop 16).length<=8)] at HD
 obtain⟨nd,Hnd⟩:=bD (fe.drop 16)
 rw[Hnd.out] at hdl JV HD
 simp only[Hnd.out] at HO
 have hz0:=hbel.size
 obtain⟨J,HJ,HI0⟩:=jmp (λaJ w'=>∃(U:Nat->Value) (q:Nat) (a':Option Addr) (c':Nat) (go:Nat) (gi:Nat) (v:Value) (X:List Nat),aJ={ tmps:=#[.agg (ints .u8 key),.agg (ints .u8 fe),.int .i64 12,.slice a' (N-64*q) c',.pointer (some ⟨w.heap.size,0,none⟩),.pointer (some ⟨w.heap.size+1,0,none⟩),U 6,U 7,.slice none 0 0,.int .i64 0,.pointer (some ⟨go,0,none⟩),U 11,.pointer (some ⟨gi,0,none⟩),v,.int .u64 (q:Int),U 15,U 16,U 17,U 18,U 19,U 20,U 21,U 22,U 23,U 24,U 25,U 26,U 27,U 28,U 29,U 30,U 31,U 32,U 33,U 34,U 35,U 36,U 37,U 38,U 39,U 40,U 41,U 42,U 43,U 44,U 45,U 46,U 47,U 48,U 49,U 50,U 51,U 52,U 53,U 54,U 55,U 56,U 57,U 58,U 59,U 60,U 61,U 62,U 63,U 64],defers:=[] }/\64*q<=N+63/\N-64*q<=c'/\Sl w a' .u8 (b.drop (64*q))/\w.heap.size<=gi/\X.length=8/\aA w' go 85 (ints .u8 own)/\aA w' gi 96 (ints .u8 (X++nd))/\Own w' w.heap.size 5 .u8 v (RR.take (64*q))/\Below w.heap.size w w')
 have HI:Hid (∀(T:Array Value) (w':World),(∃(q:Nat) (a':Option Addr) (c':Nat) (go:Nat) (gi:Nat) (v:Value) (X:List Nat),T=((λ(U:Nat->Value)=>#[.agg (ints .u8 key),.agg (ints .u8 fe),.int .i64 12,.slice a' (N-64*q) c',.pointer (some ⟨w.heap.size,0,none⟩),.pointer (some ⟨w.heap.size+1,0,none⟩),U 6,U 7,.slice none 0 0,.int .i64 0,.pointer (some ⟨go,0,none⟩),U 11,.pointer (some ⟨gi,0,none⟩),v,.int .u64 (q:Int),U 15,U 16,U 17,U 18,U 19,U 20,U 21,U 22,U 23,U 24,U 25,U 26,U 27,U 28,U 29,U 30,U 31,U 32,U 33,U 34,U 35,U 36,U 37,U 38,U 39,U 40,U 41,U 42,U 43,U 44,U 45,U 46,U 47,U 48,U 49,U 50,U 51,U 52,U 53,U 54,U 55,U 56,U 57,U 58,U 59,U 60,U 61,U 62,U 63,U 64]) λi=>T.getD i undef)/\64*q<=N+63/\N-64*q<=c'/\Sl w a' .u8 (b.drop (64*q))/\w.heap.size<=gi/\X.length=8/\aA w' go 85 (ints .u8 own)/\aA w' gi 96 (ints .u8 (X++nd))/\Own w' w.heap.size 5 .u8 v (RR.take (64*q))/\Below w.heap.size w w')->J { tmps:=T,defers:=[] } w') :=
  aR λT w' ⟨q,a',c',go,gi,v,X,hJ,rJ⟩=>HI0.out _ _ ⟨λi=>T.getD i undef,q,a',c',go,gi,v,X,congrArg (λT=>({ tmps:=T,defers:=[] }:Act)) hJ,rJ⟩
 clear HI0
 obtain⟨μ,Hμ⟩:∃μ:Act->World->Nat,Hid (∀a w',μ a w'=RX (a.tmps.getD 3 undef)):=⟨_,aR λ_ _=>rfl⟩
 refine dF 0 J μ (by simp only[findLabel];rfl) ?_ ?_
 ·intro a' wr hj
  obtain⟨U,q,ab,cb,go,gi,v,X,rfl,hq,hcb,hsl,hgi,hX,B0,B1,O,bH⟩:=HJ.out _ _ hj
  clear hj A0 A1 hbel hs1 hsh HD
  by_cases h0:N-64*q=0
  ·rw[h0]
   have hR:RR.take (64*q)=RR:=List.take_of_length_le (by omega)
   rw[hR] at O
   have hd0:(((0:Nat):Int)==0)=true:=by simp
   go_wp2_with fail
   simp only[Exit.jump]
   exact bodyPost_ret (v:=.tuple #[v,.int .i64 0]) (by simp[results,results33]) rfl ⟨v,rfl,O,bH⟩
  ·obtain⟨n,hnm⟩:∃n,n=min (N-64*q) 64:=⟨_,rfl⟩
   have HT:=aR (HST.out q n hnm)
   have hn1:n<=64:=by omega
   have hn0:0<n:=by omega
   have hdr:(b.drop (64*q)).length=N-64*q:=by rw[List.length_drop,HN.out]
   have Tk:∀x∈b.drop (64*q),x<256:=λx hx=>hb x (List.mem_of_mem_drop hx)
   have HR1:Hid (N-64*(q+1)=N-64*q-n):=aR (by omega)
   have PH:Hid (64*(q+1)<=N+63):=aR (by omega)
   have HD1:Hid ((b.drop (64*q)).drop n=b.drop (64*(q+1))):=aR (by
    rw[List.drop_drop]
    by_cases h1:N-64*q<=64
    ·rw[List.drop_eq_nil_of_le (by rw[HN.out];omega),List.drop_eq_nil_of_le (by rw[HN.out];omega)]
    ·rw[show 64*q+n=64*(q+1) by omega])
   have HT1:Hid (RR.take (64*q+n)=RR.take (64*(q+1))):=aR (by
    by_cases h1:N-64*q<=64
    ·rw[List.take_of_length_le (by omega),List.take_of_length_le (by omega)]
    ·rw[show 64*q+n=64*(q+1) by omega])
   have JR:n=N-64*q∨n=64:=by omega
   have aes:q<2^31:=by omega
   have hnR:n<=N-64*q:=by omega
   obtain⟨R,HR⟩:=bD (N-64*q)
   obtain⟨bd,Hbd⟩:=bD (b.drop (64*q))
   rw[HR.out] at h0 hdr JR HR1 hcb hnR ⊢
   rw[Hbd.out] at hdr Tk HD1 HT hsl
   have hR31:R<2^31:=by have:=HR.out;omega
   have hd0:((R:Int)==0)=false:=by simp;omega
   clear hnm
   go_wp2_with fail
   refine(jh q (by omega) _).mono ?_
   rintro e w1 ⟨rfl,hb1⟩
   have C0:=(B0.below' hb1).alloc (.cells (ints .u8 (zeros 8)) 107)
   have C1:=(B1.below' hb1).alloc (.cells (ints .u8 (zeros 8)) 107)
   have C2:=(O.below hb1).alloc (.cells (ints .u8 (zeros 8)) 107)
   have C3:=aA.new w1 107 (ints .u8 (zeros 8))
   have hl0:=(B0.below' hb1).lt
   have hl1:=(B1.below' hb1).lt
   have hl2:=(O.below hb1).lt_
   have aK:=bC bH hb1
   have dl:(cZ 256 8 q).length=8:=bn _ _ _
   have abE:∀x∈cZ 256 8 q,x<256:=dU (by decide) _ _
   have HB:=aR (HO.out q)
   generalize cZ 256 8 q=zs at *
   have E0:=C0.aM (show go≠w1.heap.size by omega) (ints .u8 zs)
   have E1:=C1.aM (show gi≠w1.heap.size by omega) (ints .u8 zs)
   have E2:=C2.ch (Ch.qp (Only.row _ w1.heap.size (ints .u8 zs))) C3 (by decide)
   have E3:=C3.row (ints .u8 zs)
   have aB:=az (aK.alloc aK.size (.cells (ints .u8 (zeros 8)) 107)) aK.size (ints .u8 zs)
   have aeJ:gi≠w1.heap.size:=by omega
   clear B0 B1 O hb1 C0 C1 C2 aK
   go_wp2_with ((first|(refine ae rfl 107 rfl z107 ?_)|(refine aa rfl 107 _ _ rfl w1.heap.size rfl rfl C3 (ah _ _) wh dl ?_));(try simp only[nn,Nat.reduceAdd]))
   clear C3
   generalize ((w1.alloc (.cells (ints .u8 (zeros 8)) 107)).setRow w1.heap.size (ints .u8 zs))=w2 at *
   obtain⟨g15,agN⟩:=bD (w1.heap.size)
   rw[agN.out] at E3 aeJ ⊢
   clear agN hl0 hl1 hl2
   refine wp_region_still_tail 2 (by kernel_rfl) (by kernel_rfl) ?_
   simp only[List.take_succ_cons,List.take_zero,List.drop_succ_cons,List.drop_zero]
   repeat still_step
   refine wpStill_nil ?_
   change wpList _ _ _ _ _ w2.drew
   have K0:=E0.drew
   have K2:Own w2.drew w.heap.size 5 .u8 v (RR.take (64*q)):=E2.drewN 1
   have aG:=aB.drew
   have hXn:(X++nd).length=16:=by rw[List.length_append];omega
   refine bM (off:=0) (dLen:=8) (sLen:=8) rfl rfl underlying23 s15 rfl rfl E1.drew (Sl.blk E3.drew) (by rw[dl];rfl) (λ_=>rfl) (by rw[hXn,dl];decide) ?_
   intro w3 L1 ho
   rw[EH (by omega)] at L1
   have L0:=K0.only ho (K0.LJ E1.drew (by decide))
   have L2:=K2.ch (Ch.qp ho) E1.drew (by decide)
   have aY:=ho.below _ _ aG hgi
   clear E0 E1 E2 E3 K0 K2 ho aB aG hXn aeJ
   have hzl:(zs++nd).length=16:=by rw[List.length_append];omega
   have hzb:∀x∈zs++nd,x<256:=λx hx=>(List.mem_append.1 hx).elim (abE x) (JV x)
   have hbk:=λW=>Pn own (zs++nd) hol FT hzl hzb W
   rw[←HB.out] at hbk
   have wH:=MQ own (zs++nd)
   have WV:=yR own (zs++nd)
   rw[←HB.out] at wH WV
   clear HB
   generalize chN key fe q=S at *
   obtain⟨io,Hio⟩:=bD (zs++nd)
   rw[Hio.out] at hzl hzb L1
   simp only[Hio.out] at hbk
   go_wp2_with ((first|(refine ag rfl 85 _ rfl _ rfl L0 pW hol ?_)|(refine ag rfl 96 _ rfl _ rfl L1 aD hzl ?_));(try simp only[nn,Nat.reduceAdd]))
   refine(hbk w3).mono ?_
   clear hbk
   rintro e w4 ⟨rfl,hb4⟩
   have M0:=(L0.below' hb4).alloc (.cells (ints .u8 (zeros 64)) 109)
   have M1:=(L1.below' hb4).alloc (.cells (ints .u8 (zeros 64)) 109)
   have M2:=(L2.below hb4).alloc (.cells (ints .u8 (zeros 64)) 109)
   have M3:=aA.new w4 109 (ints .u8 (zeros 64))
   have hl0:=(L0.below' hb4).lt
   have hl1:=(L1.below' hb4).lt
   have bA:=bC aY hb4
   have E0:=M0.aM (show go≠w4.heap.size by omega) (ints .u8 S)
   have E1:=M1.aM (show gi≠w4.heap.size by omega) (ints .u8 S)
   have E2:=M2.ch (Ch.qp (Only.row _ w4.heap.size (ints .u8 S))) M3 (by decide)
   have E3:=M3.row (ints .u8 S)
   have bK:=az (bA.alloc bA.size (.cells (ints .u8 (zeros 64)) 109)) bA.size (ints .u8 S)
   clear L0 L1 L2 hb4 M0 M1 M2 bA aY hl0 hl1
   have aaE:=λW (h1:Sl W ab .u8 bd) (h2:Sl W (some ⟨w4.heap.size,0,none⟩) .u8 S)=>uR ab (some ⟨w4.heap.size,0,none⟩) cb 64 n R bd S hdr (by omega) hnR (by omega) (by rw[wH];exact JR) (by omega) (by omega) Tk WV W h1 h2
   rw[wH] at aaE
   go_wp2_with ((first|(refine ae rfl 109 rfl YB ?_)|(refine aa rfl 109 _ _ rfl w4.heap.size rfl rfl M3 (ah _ _) DI wH ?_));(try simp only[nn,Nat.reduceAdd]))
   clear M3
   generalize ((w4.alloc (.cells (ints .u8 (zeros 64)) 109)).setRow w4.heap.size (ints .u8 S))=w5 at *
   refine(aaE w5 (hsl.below bK) (Sl.blk E3)).mono ?_
   clear aaE
   rintro e w6 ⟨rfl,hb6,X6⟩
   have P0:=E0.below' hb6
   have P1:=E1.below' hb6
   have P2:=E2.below hb6
   have dm:=bC bK hb6
   clear E0 E1 E2 E3 hb6 bK
   have WR:=dm.size
   have hxl:=dJ bd S n
   have hoL:(RR.take (64*q)).length=64*q:=by rw[List.length_take];have:=HR.out;omega
   go_wp2_with ((first
    | (refine dA (zs:=dS bd S n) rfl rfl underlying23 nY rfl (by omega) rfl P2 rfl hxl.symm (λh=>by cases h) (Sl.blk X6) (by rw[hoL,hxl];omega) WR ?_;intro v7 w7 O7 hgr;have gL:=gI dm hgr WR P2 dM;have Q0:=P0.jO hgr P2 (by decide);have Q1:=P1.jO hgr P2 (by decide);clear hgr P0 P1 P2 dm X6 WR)
    | (refine iD (n:=n) rfl rfl underlying23 s15 rfl rfl hnR ?_;intro sI c2 hsl2 hc2));(try simp only[nn,Nat.reduceAdd]))
   have FQ:=hsl2 w .u8 bd hsl (by rw[hdr];exact hcb)
   rw[HD1.out] at FQ
   rw[HT.out,HT1.out] at O7
   have hqw:IntKind.u64.wrap ((q:Int)+1)=((q+1:Nat):Int):=by rw[IntKind.wrap_u64];omega
   rw[←Hio.out] at Q1
   have hμ:=Hμ.out
   clear Hμ
   go_step3
   refine⟨rfl,HI.out _ _ ⟨q+1,sI,c2,go,gi,v7,zs,by rw[HR1.out];rfl,PH.out,by rw[HR1.out];exact hc2 hcb,FQ,hgi,dl,Q0,Q1,O7,gL⟩,?_⟩
   rw[hμ,hμ]
   change R-n<R
   omega
 ·intro pass
  go_wp2_with fail
  have aI:=oJ (S:=(λk e W=>Below w0.heap.size w0 W/\(0<k->∃g,e 10=.pointer (some ⟨g,0,none⟩)/\w0.heap.size<=g/\aA W g 85 (ints .u8 own)))) (λk e W W' h hb=>⟨dx h.1 hb h.1.size,λhk=>let ⟨g,h1,h2,h3⟩:=h.2 hk;⟨g,h1,h2,h3.below' hb⟩⟩)
  refine aS (n:=65) (T:=?_) [(20,.agg (ints .u8 key)),(21,.slice (some ⟨w.heap.size+1,0,none⟩) 16 24),(22,.pointer (some ⟨w.heap.size+1,0,none⟩)),(23,.agg (ints .u8 (fe.take 16))),(24,.int .i64 12),(25,.tuple #[.agg (ints .u8 own),.int .i64 0]),(19,.tuple #[.agg (ints .u8 own),.int .i64 0]),(26,.agg (ints .u8 own)),(27,.int .i64 0),(11,.int .i64 0)] [10] (λs W u=>(s=10->NP w0.heap.size 85 32 W u)) (RT 85) [10] _ aI (by kernel_rfl) (by kernel_rfl) rfl (by kernel_rfl) (by kernel_rfl) (by kernel_rfl) (λs W W' v hR h=>λe=>(λh hR=>NP.rt h hR) (h e) hR) (⟨dQ _,λh=>absurd h (Nat.lt_irrefl _)⟩) ?_ ?_ ?_ ?_
  rotate_left
  ·intro e;simp only[tv,nn,Nat.reduceAdd];exact rfl
  ·exact λe=>rfl
  ·intro i o il k qB hst e W hS hla
   rcases i with _|_|_|_|_|_|_|_|_|_|_|_|i<;>try cases il
   ·refine bf rfl rfl rfl rfl (A0.below' hS.1) pW hk ?_
    exact KL.at_ 20 rfl rfl rfl (RT.refl _ _) hS
   ·exact kv 21 rfl rfl (by kernel_rfl) rfl rfl rfl (RT.refl _ _) hS
   ·exact kv 22 rfl rfl (by kernel_rfl) rfl rfl rfl (RT.refl _ _) hS
   ·exact kv 23 rfl rfl (bq rfl rfl ((Sl.blk (A1.below' hS.1)).take 16) aD hnl (λe=>by rw[e] at hnl;simp at hnl)) rfl rfl rfl (RT.refl _ _) hS
   ·exact kv 24 rfl rfl rfl rfl rfl rfl (RT.refl _ _) hS
   ·exact kc 25 39 rfl rfl rfl func39 (hsh W) rfl rfl rfl (λ_ hW'=>(RT.below hW')) λ_ hW'=>aI k e _ _ hS hW'
   ·exact kv 19 rfl rfl rfl rfl rfl rfl (RT.refl _ _) hS
   ·exact kv 26 rfl rfl (by kernel_rfl) rfl rfl rfl (RT.refl _ _) hS
   ·exact kv 27 rfl rfl (by kernel_rfl) rfl rfl rfl (RT.refl _ _) hS
   ·obtain rfl:k=0:=Nat.le_zero.1 (aQ hst 0 10 rfl (by kernel_rfl))
    refine bZ rfl rfl rfl adf ?_
    exact KL.lt 10 rfl rfl (λ_=>(NP.new (hS.1.size))) (((RT.below (bN _ _)))) (⟨hS.1.alloc hS.1.size _,λh=>absurd h (Nat.lt_irrefl _)⟩)
   ·obtain rfl:k=0:=Nat.le_zero.1 (aQ hst 0 10 rfl (by kernel_rfl))
    obtain⟨g,cs,hg,hBg,hcs,iy⟩:=((hla 10 rfl (by kernel_rfl)) rfl);refine bJ rfl rfl rfl hg rfl iy hcs pW hol ?_
    exact KL.none rfl (RT.row iy ((aF _ _).trans (hol.trans hcs.symm))) (⟨az hS.1 hBg _,λ_=>⟨g,hg,hBg,iy.row _⟩⟩)
   ·exact kv 11 rfl rfl rfl rfl rfl rfl (RT.refl _ _) hS
  ·intro e W hS hla
   have l10:=(hla 10 rfl) rfl
   clear hla aI
   obtain⟨hbelW,hx⟩:=hS
   obtain⟨go,hgo,hBo,B10⟩:=hx (by decide)
   clear hx l10 hsh
   generalize e 10=u10 at hgo ⊢
   subst hgo
   have F0:=B10.alloc (.cells (ints .u8 (zeros 16)) 96)
   have F1:=aA.new W 96 (ints .u8 (zeros 16))
   have aB:=(bC hbel hbelW).alloc (Nat.le_trans hz0 hbelW.size) (.cells (ints .u8 (zeros 16)) 96)
   have hS2:=(HD.below hbelW).below (fo.alloc dM (.cells (ints .u8 (zeros 16)) 96))
   have hgW:w.heap.size<=W.heap.size:=Nat.le_trans hz0 hbelW.size
   have aeH:go≠W.heap.size:=by have:=B10.lt;omega
   clear A0 A1 B10
   go_wp2_with (refine ae rfl 96 rfl fw ?_;(try simp only[nn,Nat.reduceAdd]))
   generalize (W.alloc (.cells (ints .u8 (zeros 16)) 96))=w2 at *
   obtain⟨gi,Hgi⟩:=bD (W.heap.size)
   rw[Hgi.out] at F1 aeH hgW ⊢
   refine wp_region_still_tail 2 (by kernel_rfl) (by kernel_rfl) ?_
   simp only[List.take_succ_cons,List.take_zero,List.drop_succ_cons,List.drop_zero]
   repeat still_step
   refine wpStill_nil ?_
   change wpList _ _ _ _ _ w2.drew
   have G0:=F0.drew
   have aG:=aB.drew
   refine bM (off:=8) (dLen:=8) (sLen:=8) rfl rfl underlying23 s15 rfl rfl F1.drew (show Sl w2.drew (some ⟨w.heap.size+1,16,none⟩) .u8 nd from hS2) (by rw[hdl];rfl) (λ_=>rfl) (by rw[aH,hdl];decide) ?_
   intro w3 L1 ho
   rw[Ck hdl] at L1
   have L0:=G0.only ho aeH
   have aY:=ho.below _ _ aG hgW
   clear F0 F1 hS2 G0 aB aG ho
   obtain⟨i8,aeF,aaD,aaC,aaB⟩:=info_parts nY
   have JL:=aY.size
   go_wp2_with (at_make;refine wpList_make_own _ rfl _ _ 23 rfl w.heap.size 5 i8 (.int .u8 0) 1 underlying23 aeF aaD aaC .i64 .i64 _ N rfl rfl rfl (by rw[aaB];omega) (by unfold maxLen;omega) JL ?_;intro w5 ho hgr;have B5:aA w5 go 85 (ints .u8 own):=L0.grown hgr (λh=>by cases h);have B6:aA w5 gi 96 (ints .u8 (zeros 8++nd)):=L1.grown hgr (λh=>by cases h);have bA:=aY.grown hgr JL (λk hk=>by cases hk);have O5:Own w5 w.heap.size 5 .u8 (.slice (some ⟨w3.heap.size,0,none⟩) 0 N) []:=ho;clear ho hgr L0 L1 aY;(try simp only[nn,Nat.reduceAdd]))
   refine wp_label ?_
   rename_i hKx
   refine hKx _ _ ?_
   exact pass _ _ (HI.out _ _ ⟨0,a0,c0,go,gi,_,zeros 8,by rw[Nat.mul_zero,Nat.sub_zero];rfl,by omega,by omega,by rw[Nat.mul_zero];exact hs,hgW,aH 8,B5,B6,by rw[Nat.mul_zero,List.take_zero];exact O5,bA⟩)
end
end Go.Proofs.YtaiffkajkbiidaaGreatDoor
