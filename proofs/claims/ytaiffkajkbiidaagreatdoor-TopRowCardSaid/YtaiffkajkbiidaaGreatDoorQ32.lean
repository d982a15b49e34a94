/- What this claim leans on, part 32: laws of the model, and what functions of the program compute. No condition but what each law states. -/
import Derived.Test.YtaiffkajkbiidaaGreatDoorQ30
import Derived.Test.YtaiffkajkbiidaaGreatDoorQ31
namespace Go.Proofs.YtaiffkajkbiidaaGreatDoor
set_option linter.unusedSimpArgs false
set_option linter.unusedVariables false
set_option linter.unusedSectionVars false
set_option maxRecDepth 100000
set_option maxHeartbeats 40000000
open Go.Proofs.Tryz
open Tryz
section
open Go.RowKit
theorem IP (gk gt gb:Nat)(I J Z H:List Nat)(hH:H.length=16)(Dh:∀y∈H,y<256)(m:List Nat)(hm:∀x∈m,x<256)(h16:16<=m.length)(h31:m.length<=31)(a:Option Addr)(c:Nat)(rv:Value)(w:World)(hs:Sl w a .u8 m)(hK:IsKey w gk gt gb I J Z)
  (hh:∀W,Below w.heap.size w W->Calls prog 170 #[.pointer (some ⟨gk,0,none⟩),rv] W λe w'=>e=.returned (.agg (ints .u8 H))/\Below W.heap.size W w') :
  Calls prog 168 #[.pointer (some ⟨gk,0,none⟩),rv,.slice a m.length c,.bool true] w λe w'=>∃v,e=.returned (.tuple #[v,.int .i64 0])/\Own w' w.heap.size 5 .u8 v (zX (tS I J Z H) m)/\Below w.heap.size w w':=by
 have oh:=λj x (hx:∀y∈x,y<16)=>Ex I J Z Dh j hx
 have afx:=QJ I J Z H
 obtain⟨N,HN⟩:=bD (m.length)
 have vY:∀(j:Nat) (x:List Nat) (hx:∀y∈x,y<16) (hxl:x.length=N) (hj:j<2^31) (a:Option Addr) (c:Nat) (W:World) (hs:Sl W a .u8 x) (hK:IsKey W gk gt gb I J Z),
  Calls prog 174 #[.pointer (some ⟨gk,0,none⟩),.agg (ints .u8 H),.int .i64 6,.int .i64 (j:Int),.slice a N c] W λe w'=>∃v,e=.returned v/\Own w' W.heap.size 5 .u8 v (tS I J Z H j x)/\Below W.heap.size W w':=λj x hx hxl hj a c W hs hK=>by
  have h1:=vQ gk gt gb I J Z H hH Dh x (by rw[hxl,←HN.out];exact h31) hx j hj a c W hs hK
  rwa [hxl] at h1
 have Gg:∀(x:List Nat),x.length=N->∀(a:Option Addr) (c:Nat) (W:World) (hs:Sl W a .u8 x),
  Calls prog 172 #[.pointer (some ⟨gk,0,none⟩),.agg (ints .u8 H),.slice a N c] W λe w'=>∃v,e=.returned v/\Own w' W.heap.size 5 .u8 v x/\Below W.heap.size W w':=λx hx a c W hs=>by
  have h1:=vR gk H x (by rw[hx,←HN.out];exact h16) (by rw[hx,←HN.out];omega) a c W hs
  rwa [hx] at h1
 have afJ:=λad cd W (s:Sl W ad .u8 m)=>lM m hm (by omega) ad cd W s
 have acF:=λW (s:Sl W a .u8 m)=>lM m hm (by omega) a c W s
 obtain⟨S,HS⟩:=bD (tS I J Z H)
 have HEQ:Hid (zX (tS I J Z H) m=Oz (DN (kJ S N 8 (nX m)))):=aR (by rw[HS.out,←HN.out];rfl)
 rw[HS.out] at vY oh afx
 have hok:zF N (nX m):=by rw[←HN.out];exact iU hm
 rw[HN.out] at h16 h31 acF afJ ⊢
 have OP:=λW=>qV N h16 h31 W
 generalize nX m=PP at *
 clear HS
 have hd0:((N:Int)==0)=false:=by simp;omega
 have hd31:decide ((N:Int)>31)=false:=by simp;omega
 have aeV:decide ((N:Int)≥16)=true:=by simp;omega
 go_enter func168,ntmps168
 go_wp2_with fail
 have acE:∀W,Below w.heap.size w W->IsKey W gk gt gb I J Z:=λW h=>hK.below h
 clear hK
 obtain⟨J,HJ,HI0⟩:=jmp (λaJ w'=>∃(U:Nat->Value) (j:Nat) (l:List Nat) (r:List Nat) (g1:Nat) (g2:Nat) (au:Option Addr) (av:Option Addr) (am:Option Addr) (cu:Nat) (cv:Nat) (cm:Nat),aJ={ tmps:=#[.pointer (some ⟨gk,0,none⟩),U 1,.slice am N cm,.bool true,U 4,U 5,U 6,U 7,U 8,U 9,.pointer (some ⟨g1,0,none⟩),.int .i64 6,.int .i64 (j:Int),.int .i64 (-1),.pointer (some ⟨g2,0,none⟩),U 15,U 16,U 17,U 18,U 19,U 20,U 21,U 22,U 23,U 24,U 25,U 26,U 27,U 28,U 29,U 30,U 31,U 32,U 33,U 34,U 35,U 36,U 37,U 38,U 39,U 40,U 41,U 42,U 43,U 44,U 45,U 46,U 47,U 48,U 49,U 50,U 51,U 52,U 53,U 54,U 55,U 56,U 57,U 58,U 59,U 60,U 61,U 62,U 63,U 64,U 65,U 66,U 67,U 68,U 69,U 70,U 71,U 72,U 73,U 74,U 75,U 76,U 77,U 78,U 79,U 80,U 81,U 82],defers:=[] }/\j<=7/\zF N (l,r)/\kJ S N (j+1) (l,r)=kJ S N 8 PP/\aA w' g1 96 (ints .u8 H)/\aA w' g2 254 #[.slice au N cu,.slice av N cv]/\w.heap.size<=g1/\w.heap.size<=g2/\Own w' w.heap.size 5 .u8 (.slice au N cu) l/\Own w' w.heap.size 5 .u8 (.slice av N cv) r/\Below w.heap.size w w')
 have HI:Hid (∀(T:Array Value) (w':World),(∃(j:Nat) (l:List Nat) (r:List Nat) (g1:Nat) (g2:Nat) (au:Option Addr) (av:Option Addr) (am:Option Addr) (cu:Nat) (cv:Nat) (cm:Nat),T=((λ(U:Nat->Value)=>#[.pointer (some ⟨gk,0,none⟩),U 1,.slice am N cm,.bool true,U 4,U 5,U 6,U 7,U 8,U 9,.pointer (some ⟨g1,0,none⟩),.int .i64 6,.int .i64 (j:Int),.int .i64 (-1),.pointer (some ⟨g2,0,none⟩),U 15,U 16,U 17,U 18,U 19,U 20,U 21,U 22,U 23,U 24,U 25,U 26,U 27,U 28,U 29,U 30,U 31,U 32,U 33,U 34,U 35,U 36,U 37,U 38,U 39,U 40,U 41,U 42,U 43,U 44,U 45,U 46,U 47,U 48,U 49,U 50,U 51,U 52,U 53,U 54,U 55,U 56,U 57,U 58,U 59,U 60,U 61,U 62,U 63,U 64,U 65,U 66,U 67,U 68,U 69,U 70,U 71,U 72,U 73,U 74,U 75,U 76,U 77,U 78,U 79,U 80,U 81,U 82]) λi=>T.getD i undef)/\j<=7/\zF N (l,r)/\kJ S N (j+1) (l,r)=kJ S N 8 PP/\aA w' g1 96 (ints .u8 H)/\aA w' g2 254 #[.slice au N cu,.slice av N cv]/\w.heap.size<=g1/\w.heap.size<=g2/\Own w' w.heap.size 5 .u8 (.slice au N cu) l/\Own w' w.heap.size 5 .u8 (.slice av N cv) r/\Below w.heap.size w w')->J { tmps:=T,defers:=[] } w') :=
  aR λT w' ⟨j,l,r,g1,g2,au,av,am,cu,cv,cm,hJ,rJ⟩=>HI0.out _ _ ⟨λi=>T.getD i undef,j,l,r,g1,g2,au,av,am,cu,cv,cm,congrArg (λT=>({ tmps:=T,defers:=[] }:Act)) hJ,rJ⟩
 clear HI0
 obtain⟨μ,Hμ⟩:∃μ:Act->World->Nat,Hid (∀a w',μ a w'=(intOf (a.tmps.getD 12 undef)).toNat):=⟨_,aR λ_ _=>rfl⟩
 refine dF 0 J μ (by simp only[findLabel];rfl) ?_ ?_
 ·intro a' wr hj
  obtain⟨U,j,l,r,g1,g2,au,av,am,cu,cv,cm,rfl,hj7,hLR,hR,B1,B2,hg1,hg2,ou,ov,hbel⟩:=HJ.out _ _ hj
  clear hj
  have HR:=aR hR
  clear hR hh hs
  have aaY:j<2^31:=by omega
  obtain⟨hll,hrl,hlb,hrb⟩:=hLR
  simp only at hll hrl hlb hrb
  have k0:wr.cell? ⟨g2,0,none⟩=some (.slice au N cu):=by rw[B2.cell];rfl
  have k1:wr.cell? ⟨g2,1,none⟩=some (.slice av N cv):=by rw[B2.cell];rfl
  have hgl:=B2.lt
  obtain⟨su,sv⟩:Sl wr au .u8 l/\Sl wr av .u8 r:=by
   obtain⟨_,_,e1,s1,-⟩:=ou.sl
   obtain⟨_,_,e2,s2,-⟩:=ov.sl
   rw[hll] at e1
   rw[hrl] at e2
   cases e1
   cases e2
   exact⟨s1,s2⟩
  have hKW:∀W,Below wr.heap.size wr W->IsKey W gk gt gb I _ Z:=λW h=>acE W (bC hbel h)
  have hxl:(S j r).length=N:=(afx j r).trans hrl
  have hxb:=oh j r hrb
  have Sq:=dJ l (S j r) N
  have zx:=hbel.size
  go_wp2_with fail
  have hXor:∀(x y:List Nat),x.length=N->y.length=N->(∀z∈x,z<16)->(∀z∈y,z<16)->∀a b c d (W:World),Sl W a .u8 x->Sl W b .u8 y->Calls prog 42 #[.slice a N c,.slice b N d] W λe w'=>e=.returned (.slice (some ⟨W.heap.size,0,none⟩) N N)/\Below W.heap.size W w'/\aA w' W.heap.size 5 (ints .u8 (dS x y N)):=λx y hx hy hxb hyb a b c d W s1 s2=>by
   have h1:=uR a b c d N N x y hx (by omega) dM (by omega) (.inl rfl) (by omega) (by omega) (λz hz=>Nat.lt_trans (hxb z hz) (by decide)) (λz hz=>Nat.lt_trans (hyb z hz) (by decide)) W s1 s2
   rwa [hy] at h1
  have hNm:(dS l (S j r) N).length<=maxLen:=by rw[dJ];unfold maxLen;omega
  refine bW 13 (by kernel_rfl) (by kernel_rfl) (by kernel_rfl) (by kernel_rfl) (λD bP W=>∃u44 u45 u46 u47 u48 u49 u50 u51 u52 u53 u54 u55 u56:Value,bP={ tmps:=#[.pointer (some ⟨gk,0,none⟩),U 1,.slice am N cm,.bool true,U 4,U 5,U 6,U 7,U 8,U 9,.pointer (some ⟨g1,0,none⟩),.int .i64 6,.int .i64 (j:Int),.int .i64 (-1),.pointer (some ⟨g2,0,none⟩),U 15,U 16,U 17,U 18,U 19,U 20,U 21,U 22,U 23,U 24,U 25,U 26,U 27,U 28,U 29,U 30,U 31,U 32,U 33,U 34,U 35,U 36,U 37,U 38,U 39,U 40,U 41,U 42,U 43,u44,u45,u46,u47,u48,u49,u50,u51,u52,u53,u54,u55,u56,U 57,U 58,U 59,U 60,U 61,U 62,U 63,U 64,U 65,U 66,U 67,U 68,U 69,U 70,U 71,U 72,U 73,U 74,U 75,U 76,U 77,U 78,U 79,U 80,U 81,U 82],defers:=[] }/\Below wr.heap.size wr W/\(D 0->u44=.pointer (some ⟨g2,1,none⟩))/\(D 1->u45=.slice av N cv)/\(D 2->u46=.pointer (some ⟨g2,0,none⟩))/\(D 3->u47=.slice au N cu)/\(D 4->u48=.pointer (some ⟨gk,0,none⟩))/\(D 5->u49=.agg (ints .u8 H))/\(D 6->u50=.int .i64 6)/\(D 7->u51=.int .i64 (j:Int))/\(D 8->u52=.pointer (some ⟨g2,1,none⟩))/\(D 9->u53=.slice av N cv)/\(D 10->Own W w.heap.size 5 .u8 u54 (S j r))/\(D 11->Own W w.heap.size 5 .u8 u55 (dS l (S j r) N))/\(D 12->u56=.pointer (some ⟨g2,0,none⟩))) ?_ ?_ ?_
  ·exact aL <| (⟨_,_,_,_,_,rfl,⟨rfl,rfl,rfl,Nat.le_refl _,λ_ _=>rfl⟩,nofun,nofun,nofun,nofun,nofun,nofun,nofun,nofun,nofun,nofun,nofun,nofun,nofun⟩)
  ·intro i o hilt hi D bP W hI hnD hall
   obtain⟨u44,u45,u46,u47,u48,u49,u50,u51,u52,u53,u54,u55,u56,rfl,hW,f0,f1,f2,f3,f4,f5,f6,f7,f8,f9,f10,f11,f12⟩:=hI
   rcases i with _|_|_|_|_|_|_|_|_|_|_|_|_|i<;>try cases hi
   ·refine af (v:=.pointer (some ⟨g2,1,none⟩)) rfl rfl (by kernel_rfl) ?_
    exact aL <| (⟨_,_,_,_,_,rfl,hW,λ_=>rfl,ro f1,ro f2,ro f3,ro f4,ro f5,ro f6,ro f7,ro f8,ro f9,ro f10,ro f11,ro f12⟩)
   ·obtain rfl:=f0 (aj hall 0 rfl)
    refine af (v:=.slice av N cv) rfl rfl (bO rfl rfl underlying23 ((hW.cell (p:=⟨g2,1,none⟩) hgl).trans k1)) ?_
    exact aL <| (⟨_,_,_,_,_,rfl,hW,ro f0,λ_=>rfl,ro f2,ro f3,ro f4,ro f5,ro f6,ro f7,ro f8,ro f9,ro f10,ro f11,ro f12⟩)
   ·refine af (v:=.pointer (some ⟨g2,0,none⟩)) rfl rfl (by kernel_rfl) ?_
    exact aL <| (⟨_,_,_,_,_,rfl,hW,ro f0,ro f1,λ_=>rfl,ro f3,ro f4,ro f5,ro f6,ro f7,ro f8,ro f9,ro f10,ro f11,ro f12⟩)
   ·obtain rfl:=f2 (aj hall 2 rfl)
    refine af (v:=.slice au N cu) rfl rfl (bO rfl rfl underlying23 ((hW.cell (p:=⟨g2,0,none⟩) hgl).trans k0)) ?_
    exact aL <| (⟨_,_,_,_,_,rfl,hW,ro f0,ro f1,ro f2,λ_=>rfl,ro f4,ro f5,ro f6,ro f7,ro f8,ro f9,ro f10,ro f11,ro f12⟩)
   ·refine af (v:=.pointer (some ⟨gk,0,none⟩)) rfl rfl (by kernel_rfl) ?_
    exact aL <| (⟨_,_,_,_,_,rfl,hW,ro f0,ro f1,ro f2,ro f3,λ_=>rfl,ro f5,ro f6,ro f7,ro f8,ro f9,ro f10,ro f11,ro f12⟩)
   ·refine bf rfl rfl rfl rfl (B1.below' hW) aD hH ?_
    exact aL <| (⟨_,_,_,_,_,rfl,hW,ro f0,ro f1,ro f2,ro f3,ro f4,λ_=>rfl,ro f6,ro f7,ro f8,ro f9,ro f10,ro f11,ro f12⟩)
   ·refine af (v:=.int .i64 6) rfl rfl (by kernel_rfl) ?_
    exact aL <| (⟨_,_,_,_,_,rfl,hW,ro f0,ro f1,ro f2,ro f3,ro f4,ro f5,λ_=>rfl,ro f7,ro f8,ro f9,ro f10,ro f11,ro f12⟩)
   ·refine af (v:=.int .i64 (j:Int)) rfl rfl (by kernel_rfl) ?_
    exact aL <| (⟨_,_,_,_,_,rfl,hW,ro f0,ro f1,ro f2,ro f3,ro f4,ro f5,ro f6,λ_=>rfl,ro f8,ro f9,ro f10,ro f11,ro f12⟩)
   ·refine af (v:=.pointer (some ⟨g2,1,none⟩)) rfl rfl (by kernel_rfl) ?_
    exact aL <| (⟨_,_,_,_,_,rfl,hW,ro f0,ro f1,ro f2,ro f3,ro f4,ro f5,ro f6,ro f7,λ_=>rfl,ro f9,ro f10,ro f11,ro f12⟩)
   ·obtain rfl:=f8 (aj hall 8 rfl)
    refine af (v:=.slice av N cv) rfl rfl (bO rfl rfl underlying23 ((hW.cell (p:=⟨g2,1,none⟩) hgl).trans k1)) ?_
    exact aL <| (⟨_,_,_,_,_,rfl,hW,ro f0,ro f1,ro f2,ro f3,ro f4,ro f5,ro f6,ro f7,ro f8,λ_=>rfl,ro f10,ro f11,ro f12⟩)
   ·obtain rfl:=f4 (aj hall 4 rfl)
    obtain rfl:=f5 (aj hall 5 rfl)
    obtain rfl:=f6 (aj hall 6 rfl)
    obtain rfl:=f7 (aj hall 7 rfl)
    obtain rfl:=f9 (aj hall 9 rfl)
    refine dY (R:=λv w'=>Own w' w.heap.size 5 .u8 v (S j r)/\Below W.heap.size W w') 174 rfl rfl rfl func174 (by kernel_rfl) (by kernel_rfl) ((vY j r hrb hrl aaY av cv W (sv.below hW) (hKW W hW)).mono λe w' ⟨v,h1,h2,h3⟩=>⟨v,h1,h2.mono (Nat.le_trans zx hW.size),h3⟩) ?_;rintro v W' ⟨aaP,hW'⟩
    exact aL <| (⟨_,_,_,_,_,rfl,bC hW hW',ro f0,ro f1,ro f2,ro f3,ro f4,ro f5,ro f6,ro f7,ro f8,ro f9,(λ_=>aaP),(λh=>(Own.below) (f11 (cO h)) hW'),ro f12⟩)
   ·obtain rfl:=f3 (aj hall 3 rfl)
    obtain⟨a9,c9,h9,s9,-,-⟩:=((f10 (aj hall 10 rfl))).sl;rw[hxl] at h9;subst h9;refine dY (R:=λv w'=>Own w' w.heap.size 5 .u8 v (dS l (S j r) N)/\Below W.heap.size W w') 42 rfl rfl rfl func42 (by kernel_rfl) (by kernel_rfl) ((hXor l (S j r) hll hxl hlb hxb au a9 cu c9 W (su.below hW) s9).mono λe w' ⟨h1,h2,h3⟩=>⟨_,h1,by have O9:=Own.made (xs:=(dS l (S j r) N)) h3 (Nat.le_trans zx hW.size) hNm;rwa [Sq] at O9,h2⟩) ?_;rintro v W' ⟨aaP,hW'⟩
    exact aL <| (⟨_,_,_,_,_,rfl,bC hW hW',ro f0,ro f1,ro f2,ro f3,ro f4,ro f5,ro f6,ro f7,ro f8,ro f9,(λh=>(Own.below) (f10 (cO h)) hW'),(λ_=>aaP),ro f12⟩)
   ·refine af (v:=.pointer (some ⟨g2,0,none⟩)) rfl rfl (by kernel_rfl) ?_
    exact aL <| (⟨_,_,_,_,_,rfl,hW,ro f0,ro f1,ro f2,ro f3,ro f4,ro f5,ro f6,ro f7,ro f8,ro f9,ro f10,ro f11,λ_=>rfl⟩)
   ·exfalso;omega
  ·rintro D bP W ⟨u44,u45,u46,u47,u48,u49,u50,u51,u52,u53,u54,u55,u56,rfl,hW,f0,f1,f2,f3,f4,f5,f6,f7,f8,f9,f10,f11,f12⟩ hall
   obtain rfl:=f0 (hall 0 (by decide))
   obtain rfl:=f1 (hall 1 (by decide))
   obtain rfl:=f2 (hall 2 (by decide))
   obtain rfl:=f3 (hall 3 (by decide))
   obtain rfl:=f4 (hall 4 (by decide))
   obtain rfl:=f5 (hall 5 (by decide))
   obtain rfl:=f6 (hall 6 (by decide))
   obtain rfl:=f7 (hall 7 (by decide))
   obtain rfl:=f8 (hall 8 (by decide))
   obtain rfl:=f9 (hall 9 (by decide))
   obtain rfl:=f12 (hall 12 (by decide))
   have x54:=f10 (hall 10 (by decide))
   have x55:=f11 (hall 11 (by decide))
   clear f0 f1 f2 f3 f4 f5 f6 f7 f8 f9 f12 hall
   simp only[List.drop_succ_cons,List.drop_zero]
   obtain⟨a5,c5,h5,-,-,-⟩:=x55.sl
   rw[Sq] at h5
   subst h5
   have C2:=B2.below' hW
   have hne:=aA.LJ B1 B2 (by decide)
   have kk0:W.cell? ⟨g2,0,none⟩=some (.slice au N cu):=by rw[C2.cell];rfl
   have kk1:W.cell? ⟨g2,1,none⟩=some (.slice av N cv):=by rw[C2.cell];rfl
   have z0:=C2.frozen 0
   have z1:=C2.frozen 1
   have A3:aA ((W.setCell ⟨g2,0,none⟩ (.slice av N cv)).setCell ⟨g2,1,none⟩ (.slice a5 N c5)) g2 254 #[.slice av N cv,.slice a5 N c5]:=(C2.kL 0 (.slice av N cv)).kL 1 (.slice a5 N c5)
   have hch:Ch g2 W ((W.setCell ⟨g2,0,none⟩ (.slice av N cv)).setCell ⟨g2,1,none⟩ (.slice a5 N c5)):=(Ch.bX (iG.set W g2 0 _)).trans (Ch.bX (iG.set _ g2 1 _))
   have Wj:Own _ w.heap.size 5 .u8 (.slice av N cv) r:=(ov.below hW).ch hch C2 (by decide)
   have Ig:Own _ w.heap.size 5 .u8 (.slice a5 N c5) (dS l (S j r) N):=x55.ch hch C2 (by decide)
   have acn:=hch.blk (B1.below' hW) hne
   have hbelW:=bC hbel hW
   have aG:=hch.below hbelW hg2 hbelW.size
   have hok2:zF N (r,dS l (S j r) N):=⟨hrl,Sq,hrb,uQ hlb hxb N⟩
   have HR2:Hid (kJ S N j (r,dS l (S j r) N)=kJ S N 8 PP):=HR
   clear f10 f11 x54 x55 hW hch C2 B1 B2 ou ov k0 k1 hgl su sv hKW hxl hxb Sq zx hbel hbelW hne HR vY oh
   generalize dS l (S j r) N=q at *
   replace OP:=OP ((W.setCell ⟨g2,0,none⟩ (.slice av N cv)).setCell ⟨g2,1,none⟩ (.slice a5 N c5))
   have m0:((W.setCell ⟨g2,0,none⟩ (.slice av N cv)).setCell ⟨g2,1,none⟩ (.slice a5 N c5)).cell? ⟨g2,0,none⟩=some (.slice av N cv):=by rw[A3.cell];rfl
   have m1:((W.setCell ⟨g2,0,none⟩ (.slice av N cv)).setCell ⟨g2,1,none⟩ (.slice a5 N c5)).cell? ⟨g2,1,none⟩=some (.slice a5 N c5):=by rw[A3.cell];rfl
   by_cases hj:0<j
   ·obtain⟨i,rfl⟩:∃i,j=i+1:=⟨j-1,by omega⟩
    have hd1:decide ((i:Int)≥0)=true:=by simp
    have hd2:decide ((i:Int)<8)=true:=by simp;omega
    have hj1:((i+1:Nat):Int)+-1=(i:Int):=by omega
    have hj2:(i:Int)+1+-1=(i:Int):=by omega
    have hj3:IntKind.i64.wrap ((i:Int)+1+-1)=(i:Int):=by rw[IntKind.wrap_i64];omega
    go_wp2_with fail
    refine OP.mono ?_
    clear OP
    rintro e w4 ⟨rfl,rfl⟩
    go_wp2_with fail
    go_step3
    refine⟨rfl,HI.out _ _ ⟨i,r,q,g1,g2,av,a5,am,cv,c5,cm,rfl,by omega,hok2,HR2.out,acn,A3,hg1,hg2,Wj,Ig,aG⟩,?_⟩
    rw[Hμ.out,Hμ.out]
    change (i:Int).toNat<((i+1:Nat):Int).toNat
    omega
   ·obtain rfl:j=0:=by omega
    clear OP
    obtain⟨s1,hn1⟩:Sl ((W.setCell ⟨g2,0,none⟩ (.slice av N cv)).setCell ⟨g2,1,none⟩ (.slice a5 N c5)) av .u8 r/\(av=none->cv=0):=by
     obtain⟨_,_,e1,s1,-,-,hn1⟩:=Wj.mZ
     rw[hrl] at e1
     cases e1
     exact⟨s1,hn1⟩
    have HR3:Hid (Ik (q++r)=Oz (DN (kJ S N 8 PP))):=aR (by rw[←HR2.out];rfl)
    obtain⟨-,DW,-,aeq⟩:=hok2
    simp only at DW aeq
    have hqr:∀x∈q++r,x<16:=λx hx=>by
     rcases List.mem_append.1 hx with hx|hx
     ·exact aeq x hx
     ·exact hrb x hx
    have JQ:(q++r).length=N+N:=by rw[List.length_append,DW,hrl]
    have hap:q.length+r.length<2^40:=by omega
    have hjo:=λad cd W (s:Sl W ad .u8 (q++r))=>rY (q++r) hqr (by omega) ad cd W s
    have hjl:=ui (q++r)
    rw[JQ,HR3.out] at hjo
    rw[HR3.out,JQ,show (N+N+1)/2=N by omega] at hjl
    have hrl2:=aR hrl.symm
    have zx:=aG.size
    go_wp2_with (refine dA (zs:=r) rfl rfl underlying23 nY rfl (by omega) rfl Ig rfl hrl2.out hn1 s1 hap zx ?_;intro v' w5 hown' hgr;have iX:=gI aG hgr zx Ig dM;have agP:=acn.jO hgr Ig (by decide);clear Ig Wj acn hgr aG m0 m1 s1 A3 hn1;(try simp only[nn,Nat.reduceAdd]))
    obtain⟨a6,c6,rfl,s6,-,-⟩:=hown'.sl
    rw[JQ]
    refine(hjo a6 c6 _ s6).mono ?_
    rintro e w6 ⟨v6,rfl,acz,hb6⟩
    have B15:=agP.below' hb6
    have bK:=bC iX hb6
    have hbz':=iX.size
    clear agP hb6 hown' s6
    obtain⟨a7,c7,rfl,s7,-,-⟩:=acz.sl
    rw[hjl]
    have Ve:=acz.mono (B':=w.heap.size) hbz'
    rw[hjl] at Ve
    clear acz s7
    go_wp2_with fail
    (try simp only[Exit.jump,Exit.inBlock,Exit.then])
    refine bodyPost_ret (v:=.tuple #[.slice a7 N c7,.int .i64 0]) ?_ rfl ⟨_,rfl,by rw[HEQ.out];exact Ve,bK⟩
    simp[results,results168]
 ·intro pass
  go_wp2_with fail
  refine(hh w fo).mono ?_
  rintro e w1 ⟨rfl,hb1⟩
  have X1:=aA.new w1 96 (ints .u8 (zeros 16))
  have B1:=X1.row (ints .u8 H)
  have aK:=az (hb1.alloc hb1.size (.cells (ints .u8 (zeros 16)) 96)) hb1.size (ints .u8 H)
  have hg1:=hb1.size
  clear hh hb1
  go_wp2_with ((first
   | (refine ae rfl 96 rfl fw ?_)
   | (refine aa rfl 96 _ _ rfl _ rfl rfl X1 (ah _ _) aD hH ?_;(generalize ((w1.alloc (.cells (ints .u8 (zeros 16)) 96)).setRow w1.heap.size (ints .u8 H))=w2 at *);(generalize w1.heap.size=g1 at *)));(try simp only[nn,Nat.reduceAdd]))
  refine(OP w2).mono ?_
  rintro e w8 ⟨rfl,rfl⟩
  go_wp2_with ((first|(refine ag rfl 96 _ rfl _ rfl B1 aD hH ?_));(try simp only[nn,Nat.reduceAdd]))
  refine(Gg m HN.out a c _ (hs.below aK)).mono ?_
  rintro e w8 ⟨v8,rfl,Ve,FY⟩
  have gL:=bC aK FY
  have B8:=B1.below' FY
  obtain⟨a8,c8,rfl,s8,-,-⟩:=Ve.sl
  rw[HN.out]
  replace acF:=afJ a8 c8 w8 s8
  clear X1 B1 aK FY Ve Gg vY
  go_wp2_with fail
  refine acF.mono ?_
  rintro e w3 ⟨u,v,rfl,ou,ov,hb3⟩
  have aG:=bC gL hb3
  have B3:=B8.below' hb3
  obtain⟨au,cu,rfl,-,-,-⟩:=ou.sl
  obtain⟨av,cv,rfl,-,-,-⟩:=ov.sl
  rw[hok.1] at ou ⊢
  rw[hok.2.1] at ov ⊢
  have YM:=ou.mono (B':=w.heap.size) gL.size
  have zu:=ov.mono (B':=w.heap.size) gL.size
  clear ou ov B8 hb3 gL
  have B4:=aA.new w3 254 #[.slice au N cu,.slice av N cv]
  have hb4:=bN w3 (.cells #[.slice au N cu,.slice av N cv] 254)
  have aY:=bC aG hb4
  have YL:=YM.below hb4
  have Ol:=zu.below hb4
  have B5:=B3.below' hb4
  have hg2:=aG.size
  clear YM zu B3 aG hb4
  go_wp2_with fail
  refine wp_label ?_
  rename_i hKx
  refine hKx _ _ ?_
  exact pass _ _ (HI.out _ _ ⟨7,PP.1,PP.2,g1,_,au,av,a8,cu,cv,c8,rfl,by omega,hok,rfl,B5,B4,hg1,hg2,YL,Ol,aY⟩)
end
section
open Go.RowKit
open zG (fJ jb iN dO le xk)
theorem lu {x y:Nat}(h:x%340282366920938463463374607431768211456=y%340282366920938463463374607431768211456):cZ 256 16 x=cZ 256 16 y:=by
 rw[←qE 256 16 x,←qE 256 16 y,show 256^16=340282366920938463463374607431768211456 from by decide,h]
theorem lZ {y:List Nat}(hl:y.length=16)(hb:∀x∈y,x<256):cZ 256 16 (le y)=y:=by
 have:=jX 256 y hb
 rw[hl] at this
 exact this
theorem CW (x:Nat):le (cZ 256 16 x)=x%340282366920938463463374607431768211456:=zG.FM x
theorem KN (key n b:List Nat):xu key n (xu key n b)=b:=MK _ _ _
theorem Py (key t:List Nat){m:List Nat}(h:16<=m.length):(kK key t m).length=m.length:=by
 unfold kK
 rw[List.length_append,Ia,bn,List.length_take];omega
theorem Pz (key t:List Nat){m:List Nat}(h:16<=m.length):(lH key t m).length=m.length:=by
 unfold lH
 rw[List.length_append,Hw,bn,List.length_take];omega
theorem UL (key t:List Nat){m:List Nat}(hm:∀x∈m,x<256):∀x∈kK key t m,x<256:=λx hx=>by
 unfold kK at hx
 exact(List.mem_append.1 hx).elim (Nh key t m hm x) (dU (by decide) _ _ x)
theorem UM (key t:List Nat){m:List Nat}(hm:∀x∈m,x<256):∀x∈lH key t m,x<256:=λx hx=>by
 unfold lH at hx
 exact(List.mem_append.1 hx).elim (Ng key t m hm x) (dU (by decide) _ _ x)
theorem Fa {a b:List Nat}(hb:b.length=16):(a++b).take ((a++b).length-16)=a/\(a++b).drop ((a++b).length-16)=b:=by
 have e:(a++b).length-16=a.length:=by rw[List.length_append];omega
 rw[e]
 exact⟨List.take_left,List.drop_left⟩
theorem Hg (key t:List Nat){m:List Nat}(h:16<=m.length)(hm:∀x∈m,x<256):lH key t (kK key t m)=m:=by
 have hr:(m.drop (m.length-16)).length=16:=by rw[List.length_drop];omega
 have hrb:∀x∈m.drop (m.length-16),x<256:=λx hx=>hm x (List.mem_of_mem_drop hx)
 have HM:lG key t m=jA (dW 255) (qM key) (cZ 256 16 (le (m.drop (m.length-16))+sJ key t (m.take (m.length-16)))):=rfl
 have HB:qO key t m=xu key (cZ 256 16 (le (lG key t m))++ig) (m.take (m.length-16)):=rfl
 have HE:kK key t m=qO key t m++cZ 256 16 (le (lG key t m)+mg-sJ key t (qO key t m)%mg):=rfl
 have gq:=BL key t m
 have hmb:=GZ key t m
 rw[lZ gq hmb] at HB
 have hsplit:=List.take_append_drop (m.length-16) m
 generalize lG key t m=md at *
 generalize qO key t m=b2 at *
 generalize m.take (m.length-16)=bl at *
 generalize m.drop (m.length-16)=rr at *
 obtain⟨p1,p2⟩:=Fa (a:=b2) (b:=cZ 256 16 (le md+mg-sJ key t b2%mg)) (bn _ _ _)
 have JR:cZ 256 16 (GY key t (kK key t m))=md:=by
  unfold GY
  rw[HE,p1,p2,CW]
  rw[←lZ gq hmb]
  refine lu ?_
  rw[lZ gq hmb]
  unfold mg
  omega
 have hd2:qN key t (kK key t m)=bl:=by
  unfold qN
  rw[JR,HE,p1,HB,KN]
 have hrt:zh key t (kK key t m)=cZ 256 16 (le rr+sJ key t bl):=by
  unfold zh
  rw[JR,HM,MJ (Px key) (bn _ _ _) (dU (by decide) _ _)]
 unfold lH
 rw[hd2,hrt,CW]
 have e:cZ 256 16 ((le rr+sJ key t bl)%340282366920938463463374607431768211456+mg-sJ key t bl%mg)=rr:=by
  rw[←lZ hr hrb]
  refine lu ?_
  rw[lZ hr hrb]
  unfold mg
  omega
 rw[e,hsplit]
theorem Ha (key t:List Nat){m:List Nat}(h:16<=m.length)(hm:∀x∈m,x<256):kK key t (lH key t m)=m:=by
 have hr:(m.drop (m.length-16)).length=16:=by rw[List.length_drop];omega
 have hrb:∀x∈m.drop (m.length-16),x<256:=λx hx=>hm x (List.mem_of_mem_drop hx)
 have HN:GY key t m=le (m.drop (m.length-16))+sJ key t (m.take (m.length-16)):=rfl
 have HB:qN key t m=xu key (cZ 256 16 (GY key t m)++ig) (m.take (m.length-16)):=rfl
 have HR:zh key t m=ma (dW 255) (qM key) (cZ 256 16 (GY key t m)):=rfl
 have HE:lH key t m=qN key t m++cZ 256 16 (le (zh key t m)+mg-sJ key t (qN key t m)%mg):=rfl
 have gq:=GX key t m
 have hmb:=Nb key t m
 have hsplit:=List.take_append_drop (m.length-16) m
 generalize zh key t m=rt at *
 generalize qN key t m=b2 at *
 generalize GY key t m=mn at *
 generalize m.take (m.length-16)=bl at *
 generalize m.drop (m.length-16)=rr at *
 obtain⟨p1,p2⟩:=Fa (a:=b2) (b:=cZ 256 16 (le rt+mg-sJ key t b2%mg)) (bn _ _ _)
 have hmd:lG key t (lH key t m)=cZ 256 16 mn:=by
  unfold lG
  rw[HE,p1,p2,CW]
  have e:cZ 256 16 ((le rt+mg-sJ key t b2%mg)%340282366920938463463374607431768211456+sJ key t b2)=rt:=by
   rw[←lZ gq hmb]
   refine lu ?_
   rw[lZ gq hmb]
   unfold mg
   omega
  rw[e,HR,MF (Px key) (bn _ _ _) (dU (by decide) _ _)]
 have hb2:qO key t (lH key t m)=bl:=by
  unfold qO
  rw[hmd,lZ (bn _ _ _) (dU (by decide) _ _),HE,p1,HB,KN]
 unfold kK
 rw[hb2,hmd,CW,HN]
 have e:cZ 256 16 ((le rr+sJ key t bl)%340282366920938463463374607431768211456+mg-sJ key t bl%mg)=rr:=by
  rw[←lZ hr hrb]
  refine lu ?_
  rw[lZ hr hrb]
  unfold mg
  omega
 rw[e,hsplit]
end
section
open Go.RowKit
def Bp (back:Bool)(I J Z t m:List Nat):List Nat :=
 if m.length<32 then (if back then zX (tS I J Z (gM I J Z t)) m else zV (tS I J Z (gM I J Z t)) m)
 else Qc (eE I J Z) (eM I J Z) (La I J Z) (gM I J Z t) (if back then 2 else 1) (if back then 1 else 2) m
theorem Kn (back:Bool)(I J Z t:List Nat){m:List Nat}(h:m.length<32):Bp back I J Z t m=if back then zX (tS I J Z (gM I J Z t)) m else zV (tS I J Z (gM I J Z t)) m:=if_pos h
theorem Ko (back:Bool)(I J Z t:List Nat){m:List Nat}(h:¬m.length<32):Bp back I J Z t m=Qc (eE I J Z) (eM I J Z) (La I J Z) (gM I J Z t) (if back then 2 else 1) (if back then 1 else 2) m:=if_neg h
section
variable {I J Z t m:List Nat}(ht:B8 t)(hm:B8 m)
include ht hm
theorem ME (back:Bool):(Bp back I J Z t m).length=m.length:=by
 have hS:∀j x,(∀y∈x,y<16)->∀y∈tS I J Z (gM I J Z t) j x,y<16:=λj x hx=>Ex I J Z (kG I J Z t ht) j hx
 unfold Bp
 split
 ·cases back
  ·exact Gy hS hm
  ·exact GH hS hm
 ·exact MN _ _ _ _ _ _ (by omega)
theorem aby (back:Bool):B8 (Bp back I J Z t m):=by
 have hS:∀j x,(∀y∈x,y<16)->∀y∈tS I J Z (gM I J Z t) j x,y<16:=λj x hx=>Ex I J Z (kG I J Z t ht) j hx
 unfold Bp
 split
 ·cases back
  ·exact XE hS hm
  ·exact XJ hS hm
 ·exact abI (λj i x h=>fT I J Z j i h) (λi x h=>Gz I J Z i h) (λu v h h'=>IJ I J Z h h') (kG I J Z t ht) _ _ hm
theorem TU (back:Bool):Bp (!back) I J Z t (Bp back I J Z t m)=m:=by
 have hS:∀j x,(∀y∈x,y<16)->∀y∈tS I J Z (gM I J Z t) j x,y<16:=λj x hx=>Ex I J Z (kG I J Z t ht) j hx
 have hl:=ME (I:=I) (J:=J) (Z:=Z) ht hm back
 by_cases h:m.length<32
 ·rw[Kn (!back) I J Z t (m:=Bp back I J Z t m) (by rw[hl];exact h),Kn back I J Z t h]
  cases back
  ·exact OZ hS hm
  ·exact OX hS hm
 ·rw[Ko (!back) I J Z t (m:=Bp back I J Z t m) (by rw[hl];exact h),Ko back I J Z t h]
  cases back
  ·exact GL _ _ _ _ _ _ (by omega)
  ·exact GL _ _ _ _ _ _ (by omega)
end
def PG (dK:Nat)(key:List Nat):Prop:=(dK=1/\key.length=32)∨(dK=2/\(key.length=16∨key.length=24∨key.length=32))∨(dK=3/\0<key.length/\key.length<=128)
def Qe (dK:Nat)(key t:List Nat)(back:Bool)(m:List Nat):List Nat :=
 if dK=1 then (if back then lH key t m else kK key t m)
 else if dK=2 then jy (if back then ma (dW 255) (rT key) else jA (dW 255) (rT key)) (rT key) (Xj key) (Xi key) t m
 else Bp back (Zn key) (Zm key) (Zl key) t m
section
variable {dK:Nat}{key t m:List Nat}(hk:PG dK key)(kb:B8 key)(ht:B8 t)(hm:B8 m)(h16:16<=m.length)
include hk kb ht hm h16
theorem XQ (back:Bool):(Qe dK key t back m).length=m.length:=by
 rcases hk with ⟨rfl,hk⟩|⟨rfl,hk⟩|⟨rfl,hk⟩
 ·cases back
  ·exact Py key t h16
  ·exact Pz key t h16
 ·exact Tp _ _ _ _ _ h16
 ·exact ME ht hm back
theorem abK (back:Bool):B8 (Qe dK key t back m):=by
 rcases hk with ⟨rfl,hk⟩|⟨rfl,hk⟩|⟨rfl,hk⟩
 ·cases back
  ·exact UL key t hm
  ·exact UM key t hm
 ·have ok:=BI (gB 255) (gH 255) hk
  cases back
  ·exact Mm ok (λx=>nO ok x) hm
  ·exact Mm ok (λx=>Dp ok x) hm
 ·exact aby ht hm back
theorem Un (back:Bool):Qe dK key t (!back) (Qe dK key t back m)=m:=by
 rcases hk with ⟨rfl,hk⟩|⟨rfl,hk⟩|⟨rfl,hk⟩
 ·cases back
  ·exact Hg key t h16 hm
  ·exact Ha key t h16 hm
 ·have ok:=BI (gB 255) (gH 255) hk
  cases back
  ·exact Be (λx=>iY _ _ x) (λx hx hb=>MJ ok hx hb) h16 hm
  ·exact Be (λx=>uB _ _ x) (λx hx hb=>MF ok hx hb) h16 hm
 ·exact TU ht hm back
end
end
section
open Go.RowKit
theorem Gv (gk gt gb:Nat)(I J Z t:List Nat)(ht:∀x∈t,x<256)(htl:t.length<2^29)(ta:Option Addr)(ct:Nat)(hct:t.length<=ct)(gr:Nat)(w:World)(hgr:gr<w.heap.size)(hcl:w.cell? ⟨gr,0,none⟩=some (.slice ta t.length ct))(hst:Sl w ta .u8 t)(hK:IsKey w gk gt gb I J Z) :
  ∀W,Below w.heap.size w W->Calls prog 170 #[.pointer (some ⟨gk,0,none⟩),.slice (some ⟨gr,0,none⟩) 1 1] W λe w'=>e=.returned (.agg (ints .u8 (gM I J Z t)))/\Below W.heap.size W w':=λW h =>
 Kc gk gt gb I J Z t ht (by omega) ta ct hct gr 0 1 W (Nat.lt_of_lt_of_le hgr h.size) ((h.cell (p:=⟨gr,0,none⟩) hgr).trans hcl) (hst.below h) (hK.below h)
theorem Eu (back:Bool)(gk gt gb:Nat)(I J Z t:List Nat)(ht:∀x∈t,x<256)(htl:t.length<2^29)(ta:Option Addr)(ct:Nat)(hct:t.length<=ct)(gr:Nat)(m:List Nat)(hm:∀x∈m,x<256)(h16:16<=m.length)(hL:m.length<208)(a:Option Addr)(c:Nat)(hc:m.length<=c)(h31:m.length<32)(w:World)(hgr:gr<w.heap.size)(hcl:w.cell? ⟨gr,0,none⟩=some (.slice ta t.length ct))(hst:Sl w ta .u8 t)(hs:Sl w a .u8 m)(hK:IsKey w gk gt gb I J Z) :
  Calls prog 168 #[.pointer (some ⟨gk,0,none⟩),.slice (some ⟨gr,0,none⟩) 1 1,.slice a m.length c,.bool back] w λe w'=>∃v,e=.returned (.tuple #[v,.int .i64 0])/\Own w' w.heap.size 5 .u8 v (Bp back I J Z t m)/\Below w.heap.size w w':=by
 rw[Kn back I J Z t h31]
 have hh:=Gv gk gt gb I J Z t ht htl ta ct hct gr w hgr hcl hst hK
 cases back
 ·exact IM gk gt gb I J Z (gM I J Z t) (qC _ _ _ _) (kG _ _ _ _ ht) m hm h16 (by omega) a c _ w hs hK hh
 ·exact IP gk gt gb I J Z (gM I J Z t) (qC _ _ _ _) (kG _ _ _ _ ht) m hm h16 (by omega) a c _ w hs hK hh
theorem GK (back:Bool)(gk gt gb:Nat)(I J Z t:List Nat)(ht:∀x∈t,x<256)(htl:t.length<2^29)(ta:Option Addr)(ct:Nat)(hct:t.length<=ct)(gr:Nat)(m:List Nat)(hm:∀x∈m,x<256)(h16:16<=m.length)(hL:m.length<208)(a:Option Addr)(c:Nat)(hc:m.length<=c)(h32:¬m.length<32)(w:World)(hgr:gr<w.heap.size)(hcl:w.cell? ⟨gr,0,none⟩=some (.slice ta t.length ct))(hst:Sl w ta .u8 t)(hs:Sl w a .u8 m)(hK:IsKey w gk gt gb I J Z) :
  Calls prog 169 #[.pointer (some ⟨gk,0,none⟩),.slice (some ⟨gr,0,none⟩) 1 1,.slice a m.length c,.bool back] w λe w'=>∃v,e=.returned (.tuple #[v,.int .i64 0])/\Own w' w.heap.size 5 .u8 v (Bp back I J Z t m)/\Below w.heap.size w w':=by
 rw[Ko back I J Z t h32]
 have hh:=Gv gk gt gb I J Z t ht htl ta ct hct gr w hgr hcl hst hK
 obtain⟨g0,o0,rfl,-,-⟩:=hs (λe=>by rw[e] at h16;simp at h16)
 exact OV gk gt gb I J Z (gM I J Z t) (qC _ _ _ _) (kG _ _ _ _ ht) m hm (by omega) hL g0 o0 c hc _ back _ _ ⟨rfl,rfl⟩ w hs hK hh
theorem Gu (back:Bool)(gk gt gb:Nat)(I J Z t:List Nat)(ht:∀x∈t,x<256)(htl:t.length<2^29)(ta:Option Addr)(ct:Nat)(hct:t.length<=ct)(gr:Nat)(m:List Nat)(hm:∀x∈m,x<256)(h16:16<=m.length)(hL:m.length<208)(a:Option Addr)(c:Nat)(hc:m.length<=c)(w:World)(hgr:gr<w.heap.size)(hcl:w.cell? ⟨gr,0,none⟩=some (.slice ta t.length ct))(hst:Sl w ta .u8 t)(hs:Sl w a .u8 m)(hK:IsKey w gk gt gb I J Z) :
  Calls prog 167 #[.agg #[.pointer (some ⟨gk,0,none⟩)],.slice (some ⟨gr,0,none⟩) 1 1,.slice a m.length c,.bool back] w λe w'=>∃v,e=.returned (.tuple #[v,.int .i64 0])/\Own w' w.heap.size 5 .u8 v (Bp back I J Z t m)/\Below w.heap.size w w':=by
 have hb1:=bN w (.cells #[.pointer (some ⟨gk,0,none⟩)] 81)
 obtain⟨N,HN⟩:=bD (m.length)
 by_cases h32:m.length<32
 ·have ht1:=(Eu back gk gt gb I J Z t ht htl ta ct hct gr m hm h16 hL a c hc h32 (w.alloc (.cells #[.pointer (some ⟨gk,0,none⟩)] 81)) (Nat.lt_of_lt_of_le hgr hb1.size) ((hb1.cell (p:=⟨gr,0,none⟩) hgr).trans hcl) (hst.below hb1) (hs.below hb1) (hK.below hb1))
  rw[HN.out] at ht1 h32 ⊢
  have hd:decide ((N:Int)<32)=true:=by simp;omega
  generalize Bp back I J Z t m=RR at *
  go_enter func167,ntmps167
  go_wp2_with fail
  refine ht1.mono ?_
  rintro e w1 ⟨v,rfl,ov,hb2⟩
  have zu:=ov.mono (B':=w.heap.size) hb1.size
  have hbel:=bC hb1 hb2
  clear ov hb2 ht1
  go_wp2_with fail
  refine bodyPost_ret (v:=.tuple #[v,.int .i64 0]) ?_ rfl ⟨_,rfl,zu,hbel⟩
  simp[results,results167]
 ·have ht1:=(GK back gk gt gb I J Z t ht htl ta ct hct gr m hm h16 hL a c hc h32 (w.alloc (.cells #[.pointer (some ⟨gk,0,none⟩)] 81)) (Nat.lt_of_lt_of_le hgr hb1.size) ((hb1.cell (p:=⟨gr,0,none⟩) hgr).trans hcl) (hst.below hb1) (hs.below hb1) (hK.below hb1))
  rw[HN.out] at ht1 h32 ⊢
  have hd:decide ((N:Int)<32)=false:=by simp;omega
  generalize Bp back I J Z t m=RR at *
  go_enter func167,ntmps167
  go_wp2_with fail
  refine ht1.mono ?_
  rintro e w1 ⟨v,rfl,ov,hb2⟩
  have zu:=ov.mono (B':=w.heap.size) hb1.size
  have hbel:=bC hb1 hb2
  clear ov hb2 ht1
  go_wp2_with fail
  refine bodyPost_ret (v:=.tuple #[v,.int .i64 0]) ?_ rfl ⟨_,rfl,zu,hbel⟩
  simp[results,results167]
theorem TV (gk gt gb:Nat)(I J Z t:List Nat)(ht:∀x∈t,x<256)(htl:t.length<2^29)(ta:Option Addr)(ct:Nat)(hct:t.length<=ct)(m:List Nat)(hm:∀x∈m,x<256)(h16:16<=m.length)(hL:m.length<208)(a:Option Addr)(c:Nat)(hc:m.length<=c)(w:World)(hst:Sl w ta .u8 t)(hs:Sl w a .u8 m)(hK:IsKey w gk gt gb I J Z) :
  Calls prog 166 #[.agg #[.pointer (some ⟨gk,0,none⟩)],.slice ta t.length ct,.slice a m.length c] w λe w'=>∃v,e=.returned (.tuple #[v,.int .i64 0])/\Own w' w.heap.size 5 .u8 v (Bp false I J Z t m)/\Below w.heap.size w w':=by
 obtain⟨w1,h1⟩:∃w1,w1=w.alloc (.cells #[.pointer (some ⟨gk,0,none⟩)] 81):=⟨_,rfl⟩
 have hb1:Below w.heap.size w w1:=by rw[h1];exact bN w _
 obtain⟨w2,h2⟩:∃w2,w2=w1.alloc (.cells #[.slice ta t.length ct] 23):=⟨_,rfl⟩
 have hb2:Below w.heap.size w w2:=by rw[h2];exact hb1.alloc hb1.size _
 have hg:w1.heap.size<w2.heap.size:=by rw[h2];simp
 have hB:aA w2 w1.heap.size 23 #[.slice ta t.length ct]:=by rw[h2];exact aA.new _ _ _
 have hcl:w2.cell? ⟨w1.heap.size,0,none⟩=some (.slice ta t.length ct):=by rw[hB.cell];rfl
 have ht1:=Gu false gk gt gb I J Z t ht htl ta ct hct w1.heap.size m hm h16 hL a c hc w2 hg hcl (hst.below hb2) (hs.below hb2) (hK.below hb2)
 generalize Bp false I J Z t m=RR at *
 go_enter func166,ntmps166
 go_wp2_with fail
 rw[show w1.heap.size=w.heap.size+1 by rw[h1];simp] at ht1
 rw[h2,h1] at ht1
 refine ht1.mono ?_
 rintro e w3 ⟨v,rfl,ov,hb3⟩
 rw[←h1,←h2] at ov hb3
 have zu:=ov.mono (B':=w.heap.size) hb2.size
 have hbel:=bC hb2 hb3
 clear ov hb3 ht1
 go_wp2_with fail
 refine bodyPost_ret (v:=.tuple #[v,.int .i64 0]) ?_ rfl ⟨_,rfl,zu,hbel⟩
 simp[results,results166]
theorem TW (gk gt gb:Nat)(I J Z t:List Nat)(ht:∀x∈t,x<256)(htl:t.length<2^29)(ta:Option Addr)(ct:Nat)(hct:t.length<=ct)(m:List Nat)(hm:∀x∈m,x<256)(h16:16<=m.length)(hL:m.length<208)(a:Option Addr)(c:Nat)(hc:m.length<=c)(w:World)(hst:Sl w ta .u8 t)(hs:Sl w a .u8 m)(hK:IsKey w gk gt gb I J Z) :
  Calls prog 165 #[.agg #[.pointer (some ⟨gk,0,none⟩)],.slice ta t.length ct,.slice a m.length c] w λe w'=>∃v,e=.returned (.tuple #[v,.int .i64 0])/\Own w' w.heap.size 5 .u8 v (Bp true I J Z t m)/\Below w.heap.size w w':=by
 obtain⟨w1,h1⟩:∃w1,w1=w.alloc (.cells #[.pointer (some ⟨gk,0,none⟩)] 81):=⟨_,rfl⟩
 have hb1:Below w.heap.size w w1:=by rw[h1];exact bN w _
 obtain⟨w2,h2⟩:∃w2,w2=w1.alloc (.cells #[.slice ta t.length ct] 23):=⟨_,rfl⟩
 have hb2:Below w.heap.size w w2:=by rw[h2];exact hb1.alloc hb1.size _
 have hg:w1.heap.size<w2.heap.size:=by rw[h2];simp
 have hB:aA w2 w1.heap.size 23 #[.slice ta t.length ct]:=by rw[h2];exact aA.new _ _ _
 have hcl:w2.cell? ⟨w1.heap.size,0,none⟩=some (.slice ta t.length ct):=by rw[hB.cell];rfl
 have ht1:=Gu true gk gt gb I J Z t ht htl ta ct hct w1.heap.size m hm h16 hL a c hc w2 hg hcl (hst.below hb2) (hs.below hb2) (hK.below hb2)
 generalize Bp true I J Z t m=RR at *
 go_enter func165,ntmps165
 go_wp2_with fail
 rw[show w1.heap.size=w.heap.size+1 by rw[h1];simp] at ht1
 rw[h2,h1] at ht1
 refine ht1.mono ?_
 rintro e w3 ⟨v,rfl,ov,hb3⟩
 rw[←h1,←h2] at ov hb3
 have zu:=ov.mono (B':=w.heap.size) hb2.size
 have hbel:=bC hb2 hb3
 clear ov hb3 ht1
 go_wp2_with fail
 refine bodyPost_ret (v:=.tuple #[v,.int .i64 0]) ?_ rfl ⟨_,rfl,zu,hbel⟩
 simp[results,results165]
end
end Go.Proofs.YtaiffkajkbiidaaGreatDoor
