/- What this claim leans on, part 33: laws of the model, and what functions of the program compute. No condition but what each law states. -/
import Derived.Test.YtaiffkajkbiidaaGreatDoorQ32
namespace Go.Proofs.YtaiffkajkbiidaaGreatDoor
set_option linter.unusedSimpArgs false
set_option linter.unusedVariables false
set_option linter.unusedSectionVars false
set_option maxRecDepth 100000
set_option maxHeartbeats 40000000
open Go.Proofs.Tryz
open Tryz
section
open Go.RowKit
def abT (W:World)(dK:Nat)(key:List Nat)(x:Value):Prop :=
 (dK=1/\∃g1 ga gs gt gb gk ck gw,x=.iface 71 (.pointer (some ⟨g1,0,none⟩))/\acp W g1 ga gs gt gb gk ck gw key) ∨
 (dK=2/\∃g1 ga gt gb gk ck,x=.iface 74 (.pointer (some ⟨g1,0,none⟩))/\Eb W g1 ga gt gb gk ck (rT key) (Xj key) (Xi key)) ∨
 (dK=3/\∃gk gt gb,x=.iface 81 (.agg #[.pointer (some ⟨gk,0,none⟩)])/\IsKey W gk gt gb (Zn key) (Zm key) (Zl key))
theorem abT.below {W W':World}{dK:Nat}{key:List Nat}{x:Value}(h:abT W dK key x)(hb:Below W.heap.size W W'):abT W' dK key x:=by
 rcases h with ⟨h,g1,ga,gs,gt,gb,gk,ck,gw,hx,i⟩|⟨h,g1,ga,gt,gb,gk,ck,hx,i⟩|⟨h,gk,gt,gb,hx,i⟩
 ·exact .inl ⟨h,g1,ga,gs,gt,gb,gk,ck,gw,hx,i.below hb⟩
 ·exact .inr (.inl ⟨h,g1,ga,gt,gb,gk,ck,hx,i.below hb⟩)
 ·exact .inr (.inr ⟨h,gk,gt,gb,hx,i.below hb⟩)
theorem abT.iface {W:World}{dK:Nat}{key:List Nat}{x:Value}(h:abT W dK key x):∃T v,x=.iface T v:=by
 rcases h with ⟨h,g1,ga,gs,gt,gb,gk,ck,gw,hx,i⟩|⟨h,g1,ga,gt,gb,gk,ck,hx,i⟩|⟨h,gk,gt,gb,hx,i⟩
 ·exact⟨_,_,hx⟩
 ·exact⟨_,_,hx⟩
 ·exact⟨_,_,hx⟩
theorem Jb (dK:Nat)(gt gb:Nat)(key:List Nat)(hk:PG dK key)(a:Option Addr)(c:Nat)(hb:∀x∈key,x<256)(hc:key.length<=c)(hn:a=none->c=0)(w:World)(hT:lJ w gt gb)(hG:uL w)(hS:Sl w a .u8 key) :
  Calls prog 22 #[.pointer (some ⟨gt,0,none⟩),.int .i64 (dK:Int),.slice a key.length c] w λe w'=>∃x,e=.returned (.tuple #[x,.int .i64 0])/\abT w' dK key x/\Below w.heap.size w w':=by
 rcases hk with ⟨rfl,hk⟩|⟨rfl,hk⟩|⟨rfl,hk0,hk1⟩
 ·have hnew:=Yg gt gb key hk hb a c (by omega) w hT hS
  rw[hk]
  go_enter func22,ntmps22
  go_wp2_with fail
  refine hnew.mono ?_
  rintro e w1 ⟨gc,rfl,hg,⟨ga,gs,gk,ck,gw,hA,hKy,hIs⟩,hbel⟩
  go_wp2_with fail
  refine bodyPost_ret (v:=.tuple #[.iface 71 (.pointer (some ⟨gc,0,none⟩)),.int .i64 0]) ?_ rfl ⟨_,rfl,.inl ⟨rfl,gc,ga,gs,gt,gb,gk,ck,gw,rfl,⟨hA,hKy,hIs,hb⟩⟩,hbel⟩
  simp[results,results22]
 ·have hnew:=Xh gt gb key hk hb a c w hT hS
  have ok:lI (dW 255) (rT key):=BI (gB 255) (gH 255) hk
  go_enter func22,ntmps22
  go_wp2_with fail
  refine hnew.mono ?_
  rintro e w1 ⟨gc,ga,gk,ck,rfl,hg,hB,hKy,hbel⟩
  go_wp2_with fail
  refine bodyPost_ret (v:=.tuple #[.iface 74 (.pointer (some ⟨gc,0,none⟩)),.int .i64 0]) ?_ rfl ⟨_,rfl,.inr (.inl ⟨rfl,gc,ga,gt,gb,gk,ck,rfl,⟨hB,hKy,ok,iY _ _ _,nO ok _,iY _ _ _,nO ok _⟩⟩),hbel⟩
  simp[results,results22]
 ·refine(NR gt gb key a c (by omega) hk1 hb hc hn w hT hG hS).mono ?_
  rintro e w1 ⟨gk,rfl,hg,K,hbel⟩
  exact⟨_,rfl,.inr (.inr ⟨rfl,gk,gt,gb,rfl,K⟩),hbel⟩
def Yz (W:World)(dK:Nat)(key:List Nat)(gc:Nat):Prop:=∃x,aA W gc 62 #[.int .i64 (dK:Int),x]/\abT W dK key x
theorem Yz.below {W W':World}{dK gc:Nat}{key:List Nat}(h:Yz W dK key gc)(hb:Below W.heap.size W W'):Yz W' dK key gc:=let ⟨x,h1,h2⟩:=h;⟨x,h1.below' hb,h2.below hb⟩
theorem Iw (dK:Nat)(gt gb:Nat)(key:List Nat)(hk:PG dK key)(a:Option Addr)(c:Nat)(hb:∀x∈key,x<256)(hc:key.length<=c)(hn:a=none->c=0)(w:World)(hT:lJ w gt gb)(hG:uL w)(hS:Sl w a .u8 key) :
  Calls prog 15 #[.pointer (some ⟨gt,0,none⟩),.int .i64 (dK:Int),.slice a key.length c] w λe w'=>∃gc,e=.returned (.tuple #[.pointer (some ⟨gc,0,none⟩),.int .i64 0])/\w.heap.size<=gc/\Yz w' dK key gc/\Below w.heap.size w w':=by
 have hsc:=Jb dK gt gb key hk a c hb hc hn w hT hG hS
 clear hk hT hG hS
 obtain⟨N,HN⟩:=bD (key.length)
 rw[HN.out] at hsc ⊢
 go_enter func15,ntmps15
 go_wp2_with fail
 refine hsc.mono ?_
 rintro e w1 ⟨x,rfl,S1,hbel⟩
 obtain⟨T,v,rfl⟩:=S1.iface
 have B1:=aA.new w1 62 #[.int .i64 (dK:Int),.iface T v]
 have hb1:=bN w1 (.cells #[.int .i64 (dK:Int),.iface T v] 62)
 have S2:=S1.below hb1
 have aK:=bC hbel hb1
 go_wp2_with fail
 refine bodyPost_ret (v:=.tuple #[.pointer (some ⟨w1.heap.size,0,none⟩),.int .i64 0]) ?_ rfl ⟨w1.heap.size,rfl,hbel.size,⟨_,B1,S2⟩,aK⟩
 simp[results,results15]
theorem ym (dK gc:Nat)(x:Value)(w:World)(hB:aA w gc 62 #[.int .i64 (dK:Int),x]) :
  Calls prog 23 #[.pointer (some ⟨gc,0,none⟩)] w λe w'=>e=.returned (.int .i64 (if dK=3 then 1 else 16))/\w=w':=by
 have k0:w.cell? ⟨gc,0,none⟩=some (.int .i64 (dK:Int)):=by rw[hB.cell];rfl
 by_cases h:dK=3
 ·subst h
  go_enter func23,ntmps23
  go_wp2_with fail
  go_ret
  exact⟨rfl,rfl⟩
 ·have hd:((dK:Int)==3)=false:=by simp;omega
  rw[if_neg h]
  go_enter func23,ntmps23
  go_wp2_with fail
  go_ret
  exact⟨rfl,rfl⟩
theorem NC (back:Bool)(gc:Nat)(key:List Nat)(g1 ga gs gt gb gk ck gw:Nat)(t:List Nat)(ht:∀x∈t,x<256)(htl:t.length<2^29)(ta:Option Addr)(ct:Nat)(hct:t.length<=ct)(m:List Nat)(hm:∀x∈m,x<256)(h16:16<=m.length)(hL:m.length<208)(a:Option Addr)(c:Nat)(hc:m.length<=c)(w:World)(hst:Sl w ta .u8 t)(hs:Sl w a .u8 m)(hB:aA w gc 62 #[.int .i64 1,.iface 71 (.pointer (some ⟨g1,0,none⟩))])(hI:acp w g1 ga gs gt gb gk ck gw key) :
  Calls prog 16 #[.pointer (some ⟨gc,0,none⟩),.slice ta t.length ct,.slice a m.length c,.bool back] w λe w'=>∃v,e=.returned (.tuple #[v,.int .i64 0])/\Own w' w.heap.size 5 .u8 v (Qe 1 key t back m)/\Below w.heap.size w w':=by
 have k1:w.cell? ⟨gc,1,none⟩=some (.iface 71 (.pointer (some ⟨g1,0,none⟩))):=by rw[hB.cell];rfl
 have Di:=Yh g1 ga gs gt gb gk ck gw key t m ht (by omega) hm h16 hL ta a ct c hct hc w hst hs hI
 have hDe:=Yi g1 ga gs gt gb gk ck gw key t m ht (by omega) hm h16 hL ta a ct c hct hc w hst hs hI
 have hle:=ym 1 gc _ w hB
 have hm1:∀W:World,(method 376 71 (.pointer (some ⟨g1,0,none⟩)) "Encipher").run prog W=.ok (98,(.pointer (some ⟨g1,0,none⟩))) W:=λ_=>by kernel_rfl
 have hm2:∀W:World,(method 376 71 (.pointer (some ⟨g1,0,none⟩)) "Decipher").run prog W=.ok (97,(.pointer (some ⟨g1,0,none⟩))) W:=λ_=>by kernel_rfl
 clear hB hst hs hI
 obtain⟨N,HN⟩:=bD (m.length)
 rw[HN.out] at Di hDe h16 ⊢
 have hd:decide ((N:Int)<16)=false:=by simp;omega
 go_enter func16,ntmps16
 go_wp2_with fail
 refine hle.mono ?_
 clear hle
 rintro e w1 ⟨rfl,rfl⟩
 cases back
 ·go_wp2_with fail
  refine Di.mono ?_
  clear Di hDe
  rintro e w1 ⟨v,rfl,ov,hbel⟩
  go_wp2_with fail
  refine bodyPost_ret (v:=.tuple #[v,.int .i64 0]) ?_ rfl ⟨_,rfl,ov,hbel⟩
  simp[results,results16]
 ·go_wp2_with fail
  refine hDe.mono ?_
  clear Di hDe
  rintro e w1 ⟨v,rfl,ov,hbel⟩
  go_wp2_with fail
  refine bodyPost_ret (v:=.tuple #[v,.int .i64 0]) ?_ rfl ⟨_,rfl,ov,hbel⟩
  simp[results,results16]
theorem NB (back:Bool)(gc:Nat)(key:List Nat)(g1 ga gt gb gk ck:Nat)(t:List Nat)(ht:∀x∈t,x<256)(htl:t.length<2^29)(ta:Option Addr)(ct:Nat)(hct:t.length<=ct)(m:List Nat)(hm:∀x∈m,x<256)(h16:16<=m.length)(hL:m.length<208)(a:Option Addr)(c:Nat)(hc:m.length<=c)(w:World)(hst:Sl w ta .u8 t)(hs:Sl w a .u8 m)(hB:aA w gc 62 #[.int .i64 2,.iface 74 (.pointer (some ⟨g1,0,none⟩))])(hI:Eb w g1 ga gt gb gk ck (rT key) (Xj key) (Xi key)) :
  Calls prog 16 #[.pointer (some ⟨gc,0,none⟩),.slice ta t.length ct,.slice a m.length c,.bool back] w λe w'=>∃v,e=.returned (.tuple #[v,.int .i64 0])/\Own w' w.heap.size 5 .u8 v (Qe 2 key t back m)/\Below w.heap.size w w':=by
 have k1:w.cell? ⟨gc,1,none⟩=some (.iface 74 (.pointer (some ⟨g1,0,none⟩))):=by rw[hB.cell];rfl
 have Di:=Xk g1 ga gt gb gk ck (rT key) (Xj key) (Xi key) t m ht htl hm h16 hL ta a ct c hct hc w hst hs hI
 have hDe:=Xl g1 ga gt gb gk ck (rT key) (Xj key) (Xi key) t m ht htl hm h16 hL ta a ct c hct hc w hst hs hI
 have hle:=ym 2 gc _ w hB
 have hm1:∀W:World,(method 376 74 (.pointer (some ⟨g1,0,none⟩)) "Encipher").run prog W=.ok (141,(.pointer (some ⟨g1,0,none⟩))) W:=λ_=>by kernel_rfl
 have hm2:∀W:World,(method 376 74 (.pointer (some ⟨g1,0,none⟩)) "Decipher").run prog W=.ok (140,(.pointer (some ⟨g1,0,none⟩))) W:=λ_=>by kernel_rfl
 clear hB hst hs hI
 obtain⟨N,HN⟩:=bD (m.length)
 rw[HN.out] at Di hDe h16 ⊢
 have hd:decide ((N:Int)<16)=false:=by simp;omega
 go_enter func16,ntmps16
 go_wp2_with fail
 refine hle.mono ?_
 clear hle
 rintro e w1 ⟨rfl,rfl⟩
 cases back
 ·go_wp2_with fail
  refine Di.mono ?_
  clear Di hDe
  rintro e w1 ⟨v,rfl,ov,hbel⟩
  go_wp2_with fail
  refine bodyPost_ret (v:=.tuple #[v,.int .i64 0]) ?_ rfl ⟨_,rfl,ov,hbel⟩
  simp[results,results16]
 ·go_wp2_with fail
  refine hDe.mono ?_
  clear Di hDe
  rintro e w1 ⟨v,rfl,ov,hbel⟩
  go_wp2_with fail
  refine bodyPost_ret (v:=.tuple #[v,.int .i64 0]) ?_ rfl ⟨_,rfl,ov,hbel⟩
  simp[results,results16]
theorem NA (back:Bool)(gc:Nat)(key:List Nat)(gk gt gb:Nat)(t:List Nat)(ht:∀x∈t,x<256)(htl:t.length<2^29)(ta:Option Addr)(ct:Nat)(hct:t.length<=ct)(m:List Nat)(hm:∀x∈m,x<256)(h16:16<=m.length)(hL:m.length<208)(a:Option Addr)(c:Nat)(hc:m.length<=c)(w:World)(hst:Sl w ta .u8 t)(hs:Sl w a .u8 m)(hB:aA w gc 62 #[.int .i64 3,.iface 81 (.agg #[.pointer (some ⟨gk,0,none⟩)])])(hI:IsKey w gk gt gb (Zn key) (Zm key) (Zl key)) :
  Calls prog 16 #[.pointer (some ⟨gc,0,none⟩),.slice ta t.length ct,.slice a m.length c,.bool back] w λe w'=>∃v,e=.returned (.tuple #[v,.int .i64 0])/\Own w' w.heap.size 5 .u8 v (Qe 3 key t back m)/\Below w.heap.size w w':=by
 have k1:w.cell? ⟨gc,1,none⟩=some (.iface 81 (.agg #[.pointer (some ⟨gk,0,none⟩)])):=by rw[hB.cell];rfl
 have Di:=TV gk gt gb (Zn key) (Zm key) (Zl key) t ht htl ta ct hct m hm h16 hL a c hc w hst hs hI
 have hDe:=TW gk gt gb (Zn key) (Zm key) (Zl key) t ht htl ta ct hct m hm h16 hL a c hc w hst hs hI
 have hle:=ym 3 gc _ w hB
 have hm1:∀W:World,(method 376 81 (.agg #[.pointer (some ⟨gk,0,none⟩)]) "Encipher").run prog W=.ok (166,(.agg #[.pointer (some ⟨gk,0,none⟩)])) W:=λ_=>by kernel_rfl
 have hm2:∀W:World,(method 376 81 (.agg #[.pointer (some ⟨gk,0,none⟩)]) "Decipher").run prog W=.ok (165,(.agg #[.pointer (some ⟨gk,0,none⟩)])) W:=λ_=>by kernel_rfl
 clear hB hst hs hI
 obtain⟨N,HN⟩:=bD (m.length)
 rw[HN.out] at Di hDe h16 ⊢
 have hd:decide ((N:Int)<1)=false:=by simp;omega
 go_enter func16,ntmps16
 go_wp2_with fail
 refine hle.mono ?_
 clear hle
 rintro e w1 ⟨rfl,rfl⟩
 cases back
 ·go_wp2_with fail
  refine Di.mono ?_
  clear Di hDe
  rintro e w1 ⟨v,rfl,ov,hbel⟩
  go_wp2_with fail
  refine bodyPost_ret (v:=.tuple #[v,.int .i64 0]) ?_ rfl ⟨_,rfl,ov,hbel⟩
  simp[results,results16]
 ·go_wp2_with fail
  refine hDe.mono ?_
  clear Di hDe
  rintro e w1 ⟨v,rfl,ov,hbel⟩
  go_wp2_with fail
  refine bodyPost_ret (v:=.tuple #[v,.int .i64 0]) ?_ rfl ⟨_,rfl,ov,hbel⟩
  simp[results,results16]
theorem Ao (back:Bool)(dK gc:Nat)(key:List Nat)(t:List Nat)(ht:∀x∈t,x<256)(htl:t.length<2^29)(ta:Option Addr)(ct:Nat)(hct:t.length<=ct)(m:List Nat)(hm:∀x∈m,x<256)(h16:16<=m.length)(hL:m.length<208)(a:Option Addr)(c:Nat)(hc:m.length<=c)(w:World)(hst:Sl w ta .u8 t)(hs:Sl w a .u8 m)(hC:Yz w dK key gc) :
  Calls prog 16 #[.pointer (some ⟨gc,0,none⟩),.slice ta t.length ct,.slice a m.length c,.bool back] w λe w'=>∃v,e=.returned (.tuple #[v,.int .i64 0])/\Own w' w.heap.size 5 .u8 v (Qe dK key t back m)/\Below w.heap.size w w':=by
 obtain⟨x,hB,hx⟩:=hC
 rcases hx with ⟨rfl,g1,ga,gs,gt,gb,gk,ck,gw,rfl,i⟩|⟨rfl,g1,ga,gt,gb,gk,ck,rfl,i⟩|⟨rfl,gk,gt,gb,rfl,i⟩
 ·exact NC back gc key g1 ga gs gt gb gk ck gw t ht htl ta ct hct m hm h16 hL a c hc w hst hs hB i
 ·exact NB back gc key g1 ga gt gb gk ck t ht htl ta ct hct m hm h16 hL a c hc w hst hs hB i
 ·exact NA back gc key gk gt gb t ht htl ta ct hct m hm h16 hL a c hc w hst hs hB i
theorem Iy (dK gc:Nat)(key:List Nat)(t:List Nat)(ht:∀x∈t,x<256)(htl:t.length<2^29)(ta:Option Addr)(ct:Nat)(hct:t.length<=ct)(m:List Nat)(hm:∀x∈m,x<256)(h16:16<=m.length)(hL:m.length<208)(a:Option Addr)(c:Nat)(hc:m.length<=c)(w:World)(hst:Sl w ta .u8 t)(hs:Sl w a .u8 m)(hC:Yz w dK key gc) :
  Calls prog 10 #[.pointer (some ⟨gc,0,none⟩),.slice ta t.length ct,.slice a m.length c] w λe w'=>∃v,e=.returned (.tuple #[v,.int .i64 0])/\Own w' w.heap.size 5 .u8 v (Qe dK key t false m)/\Below w.heap.size w w':=by
 have h1:=Ao false dK gc key t ht htl ta ct hct m hm h16 hL a c hc w hst hs hC
 go_enter func10,ntmps10
 go_wp2_with fail
 refine h1.mono ?_
 clear h1
 rintro e w1 ⟨v,rfl,ov,hbel⟩
 go_wp2_with fail
 refine bodyPost_ret (v:=.tuple #[v,.int .i64 0]) ?_ rfl ⟨_,rfl,ov,hbel⟩
 simp[results,results10]
theorem Iz (dK gc:Nat)(key:List Nat)(t:List Nat)(ht:∀x∈t,x<256)(htl:t.length<2^29)(ta:Option Addr)(ct:Nat)(hct:t.length<=ct)(m:List Nat)(hm:∀x∈m,x<256)(h16:16<=m.length)(hL:m.length<208)(a:Option Addr)(c:Nat)(hc:m.length<=c)(w:World)(hst:Sl w ta .u8 t)(hs:Sl w a .u8 m)(hC:Yz w dK key gc) :
  Calls prog 11 #[.pointer (some ⟨gc,0,none⟩),.slice ta t.length ct,.slice a m.length c] w λe w'=>∃v,e=.returned (.tuple #[v,.int .i64 0])/\Own w' w.heap.size 5 .u8 v (Qe dK key t true m)/\Below w.heap.size w w':=by
 have h1:=Ao true dK gc key t ht htl ta ct hct m hm h16 hL a c hc w hst hs hC
 go_enter func11,ntmps11
 go_wp2_with fail
 refine h1.mono ?_
 clear h1
 rintro e w1 ⟨v,rfl,ov,hbel⟩
 go_wp2_with fail
 refine bodyPost_ret (v:=.tuple #[v,.int .i64 0]) ?_ rfl ⟨_,rfl,ov,hbel⟩
 simp[results,results11]
end
section
open Go.RowKit
theorem Oc (n:Nat)(w:World):Calls prog 17 #[.int .i64 (n:Int)] w λe w'=>e=.returned (.bool (decide (n=16∨n=24∨n=32)))/\w=w':=by
 obtain⟨R,HR⟩:∃R,Hid (decide (n=16∨n=24∨n=32)=R):=⟨_,aR rfl⟩
 rw[HR.out]
 go_enter func17,ntmps17
 by_cases h0:n=16
 ·subst h0
  obtain rfl:R=true:=by rw[←HR.out];rfl
  go_wp2
  go_ret
  exact⟨rfl,rfl⟩
 ·have e0:((n:Int)==16)=false:=by simp;omega
  by_cases h1:n=24
  ·subst h1
   obtain rfl:R=true:=by rw[←HR.out];rfl
   go_wp2
   go_ret
   exact⟨rfl,rfl⟩
  ·have e1:((n:Int)==24)=false:=by simp;omega
   by_cases h2:n=32
   ·subst h2
    obtain rfl:R=true:=by rw[←HR.out];rfl
    go_wp2
    go_ret
    exact⟨rfl,rfl⟩
   ·have e2:((n:Int)==32)=false:=by simp;omega
    obtain rfl:R=false:=by rw[←HR.out,decide_eq_false (show ¬(n=16∨n=24∨n=32) by omega)]
    go_wp2
    go_ret
    exact⟨rfl,rfl⟩
def eQ (dK:Int)(n:Nat):Prop:=(dK=1/\n=32)∨(dK=2/\(n=16∨n=24∨n=32))∨(dK=3/\0<n/\n<=128)
instance (dK:Int)(n:Nat):Decidable (eQ dK n):=by unfold eQ;infer_instance
theorem eQ.key {dK:Int}{key:List Nat}(h:eQ dK key.length):∃k:Nat,dK=(k:Int)/\PG k key:=by
 rcases h with ⟨h,h1⟩|⟨h,h1⟩|⟨h,h1⟩
 ·exact⟨1,h,.inl ⟨rfl,h1⟩⟩
 ·exact⟨2,h,.inr (.inl ⟨rfl,h1⟩)⟩
 ·exact⟨3,h,.inr (.inr ⟨rfl,h1⟩)⟩
theorem Qp (dK:Int)(n c:Nat)(a:Option Addr)(w:World):Calls prog 12 #[.int .i64 dK,.slice a n c] w λe w'=>(∃r:Int,e=.returned (.int .i64 r)/\(r==0)=decide (eQ dK n))/\w=w':=by
 by_cases hlo:dK<1
 ·have e0:decide (dK<1)=true:=by simp;omega
  have e1:decide (eQ dK n)=false:=decide_eq_false (by unfold eQ;omega)
  rw[e1]
  clear e1 hlo
  go_enter func12,ntmps12
  go_wp2
  go_ret
  exact⟨⟨_,rfl,rfl⟩,rfl⟩
 ·by_cases hhi:3<dK
  ·have e0:decide (dK<1)=false:=by simp;omega
   have e2:decide (dK>3)=true:=by simp;omega
   have e1:decide (eQ dK n)=false:=decide_eq_false (by unfold eQ;omega)
   rw[e1]
   clear e1 hlo hhi
   go_enter func12,ntmps12
   go_wp2
   go_ret
   exact⟨⟨_,rfl,rfl⟩,rfl⟩
  ·obtain rfl|rfl|rfl:dK=1∨dK=2∨dK=3:=by omega
   ·by_cases hn:n=32
    ·subst hn
     rw[decide_eq_true (show eQ 1 32 from .inl ⟨rfl,rfl⟩)]
     clear hlo hhi
     go_enter func12,ntmps12
     go_wp2
     go_ret
     exact⟨⟨_,rfl,rfl⟩,rfl⟩
    ·rw[decide_eq_false (show ¬eQ 1 n by unfold eQ;omega)]
     have e0:((n:Int) != 32)=true:=by simp;omega
     clear hlo hhi hn
     go_enter func12,ntmps12
     go_wp2
     go_ret
     exact⟨⟨_,rfl,rfl⟩,rfl⟩
   ·have hr:=Oc n w
    have e0:decide (eQ 2 n)=decide (n=16∨n=24∨n=32):=decide_eq_decide.mpr (by unfold eQ;omega)
    rw[e0]
    clear hlo hhi e0
    generalize decide (n=16∨n=24∨n=32)=R at *
    go_enter func12,ntmps12
    go_wp2_with fail
    refine hr.mono ?_
    rintro e w1 ⟨rfl,rfl⟩
    cases R
    ·go_wp2
     go_ret
     exact⟨⟨_,rfl,rfl⟩,rfl⟩
    ·go_wp2
     go_ret
     exact⟨⟨_,rfl,rfl⟩,rfl⟩
   ·refine(Qq n c a w).mono ?_
    rintro e w1 ⟨rfl,rfl⟩
    refine⟨⟨_,rfl,?_⟩,rfl⟩
    by_cases h:0<n/\n<=128
    ·rw[if_pos h,decide_eq_true (show eQ 3 n from .inr (.inr ⟨rfl,h⟩))];rfl
    ·rw[if_neg h,decide_eq_false (show ¬eQ 3 n by unfold eQ;omega)];rfl
theorem aas (dK:Int)(n c:Nat)(a:Option Addr)(w:World):Calls prog 6 #[.agg #[.int .i64 dK,.slice a n c]] w λe w'=>e=.returned (.bool (decide (eQ dK n)))/\Below w.heap.size w w':=by
 have hb1:=bN w (.cells #[.int .i64 dK,.slice a n c] 25)
 have hr:=Qp dK n c a (w.alloc (.cells #[.int .i64 dK,.slice a n c] 25))
 obtain⟨R,HR⟩:=bD (decide (eQ dK n))
 rw[HR.out] at hr ⊢
 go_enter func6,ntmps6
 by_cases h2:n<=200
 ·have e0:decide ((n:Int)<=200)=true:=by simp;omega
  clear HR
  go_wp2_with fail
  refine hr.mono ?_
  rintro e w1 ⟨⟨r,rfl,h⟩,rfl⟩
  clear hr
  go_wp2
  go_ret
  exact⟨rfl,hb1⟩
 ·have e0:decide ((n:Int)<=200)=false:=by simp;omega
  obtain rfl:R=false:=by rw[←HR.out,decide_eq_false (show ¬eQ dK n by unfold eQ;omega)]
  clear hr HR
  go_wp2
  go_ret
  exact⟨rfl,hb1⟩
end
section
open Go.RowKit
def qU (W:World)(B:Nat)(dK:Nat)(key:List Nat)(v:Value):Prop:=∃gc,v=.pointer (some ⟨gc,0,none⟩)/\B<=gc/\Yz W dK key gc
theorem qU.below {W W':World}{B dK:Nat}{key:List Nat}{v:Value}(h:qU W B dK key v)(hb:Below W.heap.size W W'):qU W' B dK key v:=let ⟨gc,h1,h2,h3⟩:=h;⟨gc,h1,h2,h3.below hb⟩
def qP (W:World)(B:Nat)(dK:Nat)(key:List Nat)(v:Value):Prop:=∃u,v=.tuple #[u,.int .i64 0]/\qU W B dK key u
theorem qP.below {W W':World}{B dK:Nat}{key:List Nat}{v:Value}(h:qP W B dK key v)(hb:Below W.heap.size W W'):qP W' B dK key v:=let ⟨u,h1,h2⟩:=h;⟨u,h1,h2.below hb⟩
theorem Pj (dK:Nat)(key:List Nat)(hk:PG dK key)(a:Option Addr)(c:Nat)(hb:∀x∈key,x<256)(hc:key.length<=c)(hn:a=none->c=0)(w:World)(PZ:Gl w)(hG:uL w)(hS:Sl w a .u8 key) :
  Calls prog 9 #[.agg #[.int .i64 (dK:Int),.slice a key.length c]] w λe w'=>∃gc,e=.returned (.tuple #[.pointer (some ⟨gc,0,none⟩),.bool true])/\w.heap.size<=gc/\Yz w' dK key gc/\Below w.heap.size w w':=by
 have hb1:=bN w (.cells #[.int .i64 (dK:Int),.slice a key.length c] 25)
 have B1:=aA.new w 25 #[.int .i64 (dK:Int),.slice a key.length c]
 have hnew:=λ(W:World) gt gb (h1:lJ W gt gb) (h2:uL W) (h3:Sl W a .u8 key)=>Iw dK gt gb key hk a c hb hc hn W h1 h2 h3
 obtain⟨n,Hn⟩:=bD (key.length)
 rw[Hn.out] at hb1 B1 hnew ⊢
 go_enter func9,ntmps9
 go_wp2_with fail
 have hgl:=B1.lt
 have k0:(w.alloc (.cells #[.int .i64 (dK:Int),.slice a n c] 25)).cell? ⟨w.heap.size,0,none⟩=some (.int .i64 (dK:Int)):=by rw[B1.cell];rfl
 have k1:(w.alloc (.cells #[.int .i64 (dK:Int),.slice a n c] 25)).cell? ⟨w.heap.size,1,none⟩=some (.slice a n c):=by rw[B1.cell];rfl
 have G1:=hG.below hb1
 have L1:=PZ.below hb1
 have S1:=hS.below hb1
 have hsz:=hb1.size
 generalize (w.alloc (.cells #[.int .i64 (dK:Int),.slice a n c] 25))=w1 at *
 refine jZ (by kernel_rfl) (by kernel_rfl) (λD bP W=>∃u4 u5 u6 u7 u8 u9 u10 u11 u12 u13 u14:Value,bP={ tmps:=#[.agg #[.int .i64 (dK:Int),.slice a n c],.pointer (some ⟨w.heap.size,0,none⟩),.pointer none,.bool false,u4,u5,u6,u7,u8,u9,u10,u11,u12,u13,u14,undef,undef,undef,undef,undef,undef,undef],defers:=[] }/\Below w1.heap.size w1 W/\(D 0->Ae W w.heap.size u7)/\(D 1->u8=.pointer (some ⟨w.heap.size,0,none⟩))/\(D 2->u9=.int .i64 (dK:Int))/\(D 3->u10=.pointer (some ⟨w.heap.size,1,none⟩))/\(D 4->u11=.slice a n c)/\(D 5->qP W w.heap.size dK key u12)/\(D 6->qP W w.heap.size dK key u6)/\(D 7->qU W w.heap.size dK key u13)/\(D 8->u14=.int .i64 0)/\(D 9->qU W w.heap.size dK key u4)/\(D 10->u5=.int .i64 0)) ?_ ?_ ?_
 ·exact aL <| (⟨_,_,_,rfl,⟨rfl,rfl,rfl,Nat.le_refl _,λ_ _=>rfl⟩,nofun,nofun,nofun,nofun,nofun,nofun,nofun,nofun,nofun,nofun,nofun⟩)
 ·intro i o hi D bP W hI hnD hall
  obtain⟨u4,u5,u6,u7,u8,u9,u10,u11,u12,u13,u14,rfl,hW,f0,f1,f2,f3,f4,f5,f6,f7,f8,f9,f10⟩:=hI
  rcases i with _|_|_|_|_|_|_|_|_|_|_|i<;>try cases hi
  ·refine dY (R:=λv w'=>Ae w' w.heap.size v/\Below W.heap.size W w') 13 rfl rfl rfl func13 (by kernel_rfl) (by kernel_rfl) ((Ew W (L1.below hW)).mono λe w' ⟨gt,gb,h1,h2,h3,h4⟩=>⟨_,h1,⟨gt,gb,rfl,Nat.le_trans hsz (Nat.le_trans hW.size h2),h3⟩,h4⟩) ?_;rintro v W' ⟨afw,hW'⟩
   exact aL <| (⟨_,_,_,rfl,bC hW hW',(λ_=>afw),ro f1,ro f2,ro f3,ro f4,(λh=>(qP.below) (f5 (cO h)) hW'),(λh=>(qP.below) (f6 (cO h)) hW'),(λh=>(qU.below) (f7 (cO h)) hW'),ro f8,(λh=>(qU.below) (f9 (cO h)) hW'),ro f10⟩)
  ·refine af (v:=.pointer (some ⟨w.heap.size,0,none⟩)) rfl rfl (by kernel_rfl) ?_
   exact aL <| (⟨_,_,_,rfl,hW,ro f0,λ_=>rfl,ro f2,ro f3,ro f4,ro f5,ro f6,ro f7,ro f8,ro f9,ro f10⟩)
  ·obtain rfl:=f1 (aj hall 1 rfl)
   refine uS rfl rfl rfl rfl underlying3 ((hW.cell (p:=⟨_,_,none⟩) hgl).trans k0) ?_
   exact aL <| (⟨_,_,_,rfl,hW,ro f0,ro f1,λ_=>rfl,ro f3,ro f4,ro f5,ro f6,ro f7,ro f8,ro f9,ro f10⟩)
  ·refine af (v:=.pointer (some ⟨w.heap.size,1,none⟩)) rfl rfl (by kernel_rfl) ?_
   exact aL <| (⟨_,_,_,rfl,hW,ro f0,ro f1,ro f2,λ_=>rfl,ro f4,ro f5,ro f6,ro f7,ro f8,ro f9,ro f10⟩)
  ·obtain rfl:=f3 (aj hall 3 rfl)
   refine af (v:=.slice a n c) rfl rfl (bO rfl rfl underlying23 ((hW.cell (p:=⟨w.heap.size,1,none⟩) hgl).trans k1)) ?_
   exact aL <| (⟨_,_,_,rfl,hW,ro f0,ro f1,ro f2,ro f3,λ_=>rfl,ro f5,ro f6,ro f7,ro f8,ro f9,ro f10⟩)
  ·obtain rfl:=f2 (aj hall 2 rfl)
   obtain rfl:=f4 (aj hall 4 rfl)
   obtain⟨gt9,gb9,h9,Ms,afw⟩:=(f0 (aj hall 0 rfl));subst h9;refine dY (R:=λv w'=>qP w' w.heap.size dK key v/\Below W.heap.size W w') 15 rfl rfl rfl func15 (by kernel_rfl) (by kernel_rfl) ((hnew W gt9 gb9 afw (G1.below hW) (S1.below hW)).mono λe w' ⟨gc,h1,h2,h3,h4⟩=>⟨_,h1,⟨_,rfl,gc,rfl,Nat.le_trans hsz (Nat.le_trans hW.size h2),h3⟩,h4⟩) ?_;rintro v W' ⟨afw,hW'⟩
   exact aL <| (⟨_,_,_,rfl,bC hW hW',(λh=>(Ae.below) (f0 (cO h)) hW'),ro f1,ro f2,ro f3,ro f4,(λ_=>afw),(λh=>(qP.below) (f6 (cO h)) hW'),(λh=>(qU.below) (f7 (cO h)) hW'),ro f8,(λh=>(qU.below) (f9 (cO h)) hW'),ro f10⟩)
  ·obtain⟨u9,h9,Mr⟩:=(f5 (aj hall 5 rfl));subst h9;refine af (v:=.tuple #[u9,.int .i64 0]) rfl rfl rfl ?_;have hW':=Below.refl W.heap.size W
   exact aL <| (⟨_,_,_,rfl,bC hW hW',(λh=>(Ae.below) (f0 (cO h)) hW'),ro f1,ro f2,ro f3,ro f4,(λh=>(qP.below) (f5 (cO h)) hW'),(λ_=>⟨u9,rfl,Mr⟩),(λh=>(qU.below) (f7 (cO h)) hW'),ro f8,(λh=>(qU.below) (f9 (cO h)) hW'),ro f10⟩)
  ·obtain⟨u9,h9,Mr⟩:=(f6 (aj hall 6 rfl));subst h9;refine af (v:=u9) rfl rfl (by rfl) ?_;have hW':=Below.refl W.heap.size W
   exact aL <| (⟨_,_,_,rfl,bC hW hW',(λh=>(Ae.below) (f0 (cO h)) hW'),ro f1,ro f2,ro f3,ro f4,(λh=>(qP.below) (f5 (cO h)) hW'),(λh=>(qP.below) (f6 (cO h)) hW'),(λ_=>Mr),ro f8,(λh=>(qU.below) (f9 (cO h)) hW'),ro f10⟩)
  ·obtain⟨u9,h9,Mr⟩:=(f6 (aj hall 6 rfl));subst h9;refine af (v:=.int .i64 0) rfl rfl (by rfl) ?_;have hW':=Below.refl W.heap.size W
   exact aL <| (⟨_,_,_,rfl,bC hW hW',(λh=>(Ae.below) (f0 (cO h)) hW'),ro f1,ro f2,ro f3,ro f4,(λh=>(qP.below) (f5 (cO h)) hW'),(λh=>(qP.below) (f6 (cO h)) hW'),(λh=>(qU.below) (f7 (cO h)) hW'),λ_=>rfl,(λh=>(qU.below) (f9 (cO h)) hW'),ro f10⟩)
  ·have h9:=(f7 (aj hall 7 rfl));refine af (v:=_) rfl rfl rfl ?_;have hW':=Below.refl W.heap.size W
   exact aL <| (⟨_,_,_,rfl,bC hW hW',(λh=>(Ae.below) (f0 (cO h)) hW'),ro f1,ro f2,ro f3,ro f4,(λh=>(qP.below) (f5 (cO h)) hW'),(λh=>(qP.below) (f6 (cO h)) hW'),(λh=>(qU.below) (f7 (cO h)) hW'),ro f8,(λ_=>h9),ro f10⟩)
  ·obtain rfl:=f8 (aj hall 8 rfl)
   refine af (v:=.int .i64 0) rfl rfl rfl ?_
   exact aL <| (⟨_,_,_,rfl,hW,ro f0,ro f1,ro f2,ro f3,ro f4,ro f5,ro f6,ro f7,ro f8,ro f9,λ_=>rfl⟩)
  all_goals (exfalso;simp at hi)
 ·rintro D bP W ⟨u4,u5,u6,u7,u8,u9,u10,u11,u12,u13,u14,rfl,hW,f0,f1,f2,f3,f4,f5,f6,f7,f8,f9,f10⟩ hall
  obtain rfl:=f1 (hall 1 (by decide))
  obtain rfl:=f2 (hall 2 (by decide))
  obtain rfl:=f3 (hall 3 (by decide))
  obtain rfl:=f4 (hall 4 (by decide))
  obtain rfl:=f8 (hall 8 (by decide))
  obtain rfl:=f10 (hall 10 (by decide))
  have x7:=f0 (hall 0 (by decide))
  have PR:=f5 (hall 5 (by decide))
  have x6:=f6 (hall 6 (by decide))
  have PQ:=f7 (hall 7 (by decide))
  have x4:=f9 (hall 9 (by decide))
  clear f1 f2 f3 f4 f8 f10 hall
  obtain⟨gc,rfl,hgc,C⟩:=x4
  clear x7 PR x6 PQ k0 k1 S1 hnew
  have hbel:=bC hb1 hW
  go_wp2_with fail
  refine bodyPost_ret (v:=.tuple #[.pointer (some ⟨gc,0,none⟩),.bool true]) ?_ rfl ⟨gc,rfl,hgc,C,hbel⟩
  simp[results,results9]
theorem XH (dK:Nat)(key:List Nat)(hk:PG dK key)(kb:∀x∈key,x<256)(ka:Option Addr)(kc:Nat)(hkc:key.length<=kc)(hkn:ka=none->kc=0)(t:List Nat)(ht:∀x∈t,x<256)(htl:t.length<2^29)(ta:Option Addr)(tc:Nat)(htc:t.length<=tc)(sb back:Bool)(m:List Nat)(hm:∀x∈m,x<256)(h16:16<=m.length)(hL:m.length<208)(a:Option Addr)(c:Nat)(hc:m.length<=c)(w:World)(PZ:Gl w)(hG:uL w)(hsk:Sl w ka .u8 key)(hst:Sl w ta .u8 t)(hs:Sl w a .u8 m) :
  Calls prog 7 #[.agg #[.int .i64 (dK:Int),.slice ka key.length kc,.slice ta t.length tc,.bool sb],.slice a m.length c,.bool back] w λe w'=>∃v,e=.returned (.tuple #[v,.int .i64 0])/\Own w' w.heap.size 5 .u8 v (Qe dK key t back m)/\Below w.heap.size w w':=by
 have hci:=λW h1 h2 h3=>Pj dK key hk ka kc kb hkc hkn W h1 h2 h3
 have Di:=λgc W h1 h2 h3=>Iy dK gc key t ht htl ta tc htc m hm h16 hL a c hc W h1 h2 h3
 have hDe:=λgc W h1 h2 h3=>Iz dK gc key t ht htl ta tc htc m hm h16 hL a c hc W h1 h2 h3
 obtain⟨n,Hn⟩:=bD (key.length)
 obtain⟨tl,Ht⟩:∃n,Hid (t.length=n):=⟨_,aR rfl⟩
 obtain⟨ml,Hm⟩:∃n,Hid (m.length=n):=⟨_,aR rfl⟩
 rw[Hn.out] at hci ⊢
 rw[Ht.out] at Di hDe ⊢
 rw[Hm.out] at Di hDe ⊢
 have B1:=aA.new w 27 #[.int .i64 (dK:Int),.slice ka n kc,.slice ta tl tc,.bool sb]
 have hb1:=bN w (.cells #[.int .i64 (dK:Int),.slice ka n kc,.slice ta tl tc,.bool sb] 27)
 go_enter func7,ntmps7
 have k0:(w.alloc (.cells #[.int .i64 (dK:Int),.slice ka n kc,.slice ta tl tc,.bool sb] 27)).cell? ⟨w.heap.size,0,none⟩=some (.int .i64 (dK:Int)):=by rw[B1.cell];rfl
 have k1:(w.alloc (.cells #[.int .i64 (dK:Int),.slice ka n kc,.slice ta tl tc,.bool sb] 27)).cell? ⟨w.heap.size,1,none⟩=some (.slice ka n kc):=by rw[B1.cell];rfl
 go_wp2_with fail
 have hgl:=B1.lt
 generalize (w.alloc (.cells #[.int .i64 (dK:Int),.slice ka n kc,.slice ta tl tc,.bool sb] 27))=w1 at *
 refine(hci w1 (PZ.below hb1) (hG.below hb1) (hsk.below hb1)).mono ?_
 rintro e w2 ⟨gc,rfl,hgc,C,hb2⟩
 have aB:=bC hb1 hb2
 have B2:=B1.below' hb2
 have k2:w2.cell? ⟨w.heap.size,2,none⟩=some (.slice ta tl tc):=by rw[B2.cell];rfl
 have abq:=Di gc w2 (hst.below aB) (hs.below aB) C
 have abr:=hDe gc w2 (hst.below aB) (hs.below aB) C
 have hsz:=aB.size
 clear hci Di hDe k0 k1 B1 B2 hb1 hb2 hgl C PZ hG hsk hst hs
 cases back
 ·go_wp2_with fail
  refine abq.mono ?_
  clear abq abr k2
  rintro e w3 ⟨v,rfl,ov,hb3⟩
  have zu:=ov.mono (B':=w.heap.size) hsz
  have aG:=bC aB hb3
  go_wp2_with fail
  refine bodyPost_ret (v:=.tuple #[v,.int .i64 0]) ?_ rfl ⟨_,rfl,zu,aG⟩
  simp[results,results7]
 ·go_wp2_with fail
  refine abr.mono ?_
  clear abq abr k2
  rintro e w3 ⟨v,rfl,ov,hb3⟩
  have zu:=ov.mono (B':=w.heap.size) hsz
  have aG:=bC aB hb3
  go_wp2_with fail
  refine bodyPost_ret (v:=.tuple #[v,.int .i64 0]) ?_ rfl ⟨_,rfl,zu,aG⟩
  simp[results,results7]
end
section
open Go.RowKit Go.ChangeShapes Go.WideShapes Go.ChangeAt Go.Deep
structure jG where
 dK:Int
 ka:Option Addr
 kc:Nat
 key:List Nat
 ta:Option Addr
 tc:Nat
 tw:List Nat
 bk:Bool
def jG.cells (s:jG):List Value:=[.int .i64 s.dK,.slice s.ka s.key.length s.kc,.slice s.ta s.tw.length s.tc,.bool s.bk]
structure jG.Ok (W:World)(s:jG):Prop where
 sk:Sl W s.ka .u8 s.key
 st:Sl W s.ta .u8 s.tw
 kb:∀x∈s.key,x<256
 tb:∀x∈s.tw,x<256
 kl:s.key.length<=s.kc
 tl:s.tw.length<=s.tc
 kx:s.kc<=maxLen
 tx:s.tc<=maxLen
 kn:s.ka=none->s.kc=0
theorem jG.Ok.below {W W':World}{s:jG}(h:s.Ok W)(hb:Below W.heap.size W W'):s.Ok W':=⟨h.sk.below hb,h.st.below hb,h.kb,h.tb,h.kl,h.tl,h.kx,h.tx,h.kn⟩
def jG.none:jG:=⟨0,.none,0,[],.none,0,[],false⟩
def agz (w:World)(a:Option Addr)(ss:List jG):Prop :=
 ∀i,i<ss.length->∃g off,a=some ⟨g,off,Option.none⟩/\g<w.heap.size/\w.rangeAt g (off+i*4) (ss.getD i jG.none).cells
section
variable {H:Type}{enc:TypeId×Value->H}{P:Program}{W:World}{base:Nat}{sp:Nat->Bool}{hd:Bool}{k:IntKind}
theorem Ru {α:Type}(cells:α->List Value)(ok:α->Prop)(dft:α){t e m:Nat}{v:Value}{d:DataW H}{p:List MemPlace}(gq:∀s,(cells s).length=m)(ht:P.underlying t=some (.slice e))(ce:P.cellsOf e=m)
  (hel:∀(fuel:Nat) (cs:List Value) (x:DataW H×List MemPlace),DataW.trod enc P W 0 (λ_=>true) true fuel e cs=some x->∃s,cs=cells s/\ok s) (hm:0<m)
  {r:Reach} {b:Nat} (hv:Value.okWide P W r b t v) (h:DataW.Trod enc P W 0 (λ_=>true) true t v d p) :
  ∃(a:Option Addr) (c:Nat) (ss:List α),v=.slice a ss.length c/\(∀i,i<ss.length->∃g off,a=some ⟨g,off,none⟩/\g<W.heap.size/\W.rangeAt g (off+i*m) (cells (ss.getD i dft)))/\ss.length<=c/\c<=maxLen/\(∀s∈ss,ok s)/\(a=none->c=0):=by
 obtain⟨a,len,cap,rfl⟩:=okWide_slice ht hv
 obtain⟨fuel,hf⟩:=h
 rcases open_slice ht hf with ⟨hcs,_⟩|⟨a',len',cap',M,nn,D,Pl,hcs,-,hl,hcm,hM,-,hx⟩
 ·simp[Value.cells] at hcs
  obtain⟨rfl,rfl,rfl⟩:=hcs
  exact⟨none,0,[],rfl,(λi hi=>by simp at hi),Nat.le_refl _,by simp[maxLen],by simp,λ_=>rfl⟩
 ·simp[Value.cells] at hcs
  obtain⟨rfl,rfl,rfl⟩:=hcs
  simp only[if_true] at hM
  have hMl:len<=M:=by omega
  have each:∀i,i<len->∃s:α,ok s/\a'.block<W.heap.size/\∃off,a'=⟨a'.block,off,none⟩/\W.rangeAt a'.block (off+i*m) (cells s):=by
   intro i hi
   obtain⟨cs',h1,h2⟩:=hx i (by omega)
   obtain⟨s,rfl,hok⟩:=hel _ _ _ h2
   obtain⟨-,hlen,hcell⟩:=World.cells?_some h1
   rw[ce] at hcell h1
   have hc0:=hcell 0 (by omega)
   have hsm:∃u,W.cell? ((a'.add (i*m)).add 0)=some u:=by
    rw[hc0]
    exact⟨_,List.getElem?_eq_getElem (by rw[gq];omega)⟩
   obtain⟨u,hu⟩:=hsm
   have hsp:a'.spot=none:=by
    obtain⟨cs0,q1,q2⟩:=hx 0 (by omega)
    obtain⟨s0,rfl,-⟩:=hel _ _ _ q2
    obtain⟨-,-,hcell0⟩:=World.cells?_some q1
    rw[ce] at hcell0
    have h00:=hcell0 0 (by omega)
    rw[Nat.zero_mul,show a'.add 0=a' by simp[Addr.add],show a'.add 0=a' by simp[Addr.add],List.getElem?_eq_getElem (by rw[gq];omega)] at h00
    cases hs:a'.spot with
    | none=>rfl
    | some s=>exfalso;unfold World.cell? at h00;split at h00<;>simp[hs] at h00
   obtain⟨g,off,sq⟩:=a'
   obtain rfl:sq=none:=hsp
   refine⟨s,hok,?_,off,rfl,?_⟩
   ·have:=World.block_lt_of_cell? _ _ hu
    rw[Addr.add_mid,Addr.add_mid] at this;exact this
   ·intro j v hj
    have hjl:=(List.getElem?_eq_some_iff.1 hj).1
    rw[gq] at hjl
    have h3:=hcell j (by omega)
    rw[Addr.add_mid,Addr.add_mid] at h3
    exact h3.trans hj
  have hex:∃f:Nat->α,∀i,i<len->ok (f i)/\a'.block<W.heap.size/\∃off,a'=⟨a'.block,off,none⟩/\W.rangeAt a'.block (off+i*m) (cells (f i)):=by
   refine⟨λi=>if h:i<len then Classical.choose (each i h) else dft,λi hi=>?_⟩
   simp only[dif_pos hi]
   exact Classical.choose_spec (each i hi)
  obtain⟨f,hfe⟩:=hex
  have hgl:∀i,i<len->((List.range len).map f).getD i dft=f i:=λi hi=>by
   rw[List.getD_eq_getElem?_getD,List.getElem?_map,List.getElem?_range hi];rfl
  refine⟨some a',cap,(List.range len).map f,by simp,?_,by simpa using hl,hcm,?_,λh=>by cases h⟩
  ·intro i hi
   rw[List.length_map,List.length_range] at hi
   obtain⟨-,h3,off,h4,h5⟩:=hfe i hi
   rw[hgl i hi]
   exact⟨a'.block,off,by rw[←h4],h3,h5⟩
  ·intro s hs
   obtain⟨i,hi,rfl⟩:=List.mem_map.1 hs
   rw[List.mem_range] at hi
   exact(hfe i hi).1
theorem Cg {t L I T q B:Nat}{fs gs:Array Field}{f0 f1 f2 g0 g1:Field}(ht:P.underlying t=some (.struct fs))(h0:fs[0]?=some f0)(h1:fs[1]?=some f1)(h2:fs[2]?=some f2)(o0:f0.offset=0)(o1:f1.offset=2)(o2:f2.offset=3)(t0:f0.type=L)(t1:f1.type=T)(t2:f2.type=B)
  (hL:P.underlying L=some (.struct gs)) (k0:gs[0]?=some g0) (k1:gs[1]?=some g1) (p0:g0.offset=0) (p1:g1.offset=1) (u0:g0.type=I) (u1:g1.type=T)
  (hI:P.underlying I=some (.int .i64)) (hT:P.underlying T=some (.slice q)) (hB:P.underlying B=some .bool) (hq:P.underlying q=some (.int .u8)) (cI:P.cellsOf I=1) (cT:P.cellsOf T=1) (cB:P.cellsOf B=1) (cq:P.cellsOf q=1) (cL:P.cellsOf L=2) (ct:P.cellsOf t=4) (hs:fs.size=3) (hgs:gs.size=2)
  {fuel:Nat} {cs:List Value} {x:DataW H×List MemPlace} (hf:DataW.trod enc P W 0 (λ_=>true) true fuel t cs=some x):∃s:jG,cs=s.cells/\s.Ok W:=by
 obtain⟨xs,n,-,-,hlen,hxl,each⟩:=DataW.trod_struct ht hf
 rw[ct] at hlen
 have e0:=each 0 f0 h0
 have e1:=each 1 f1 h1
 have e2:=each 2 f2 h2
 rw[o0,t0,cL,List.getElem?_eq_getElem (by omega)] at e0
 rw[o1,t1,cT,List.getElem?_eq_getElem (by omega)] at e1
 rw[o2,t2,cB,List.getElem?_eq_getElem (by omega)] at e2
 obtain⟨ys,n',-,-,hlen',hyl,Zo⟩:=DataW.trod_struct hL e0
 have d0:=Zo 0 g0 k0
 have d1:=Zo 1 g1 k1
 rw[p0,u0,cI,List.getElem?_eq_getElem (by omega)] at d0
 rw[p1,u1,cT,List.getElem?_eq_getElem (by omega)] at d1
 obtain⟨z,q0,-,-⟩:=DataW.trod_int hI d0
 obtain⟨ka,kc,key,q1,s1,m1,l1,b1,n1⟩:=xH (k:=.u8) hT hq cq rfl d1
 obtain⟨ta,tc,tw,q2,s2,m2,l2,b2,n2⟩:=xH (k:=.u8) hT hq cq rfl e1
 obtain⟨bk,q3,-⟩:=DataW.trod_bool hB e2
 refine⟨⟨z,ka,kc,key,ta,tc,tw,bk⟩,?_,⟨s1,s2,b1,b2,m1,m2,l1,l2,n1⟩⟩
 match cs,hlen with
 | [v0,v1,v2,v3],_ =>
  simp at q0 q1 q2 q3
  unfold jG.cells
  rw[q0,q1,q2,q3]
end
theorem Jv {H:Type}{enc:TypeId×Value->H}{W:World}{v:Value}{d:DataW H}{p:List MemPlace}{r:Reach}{b:Nat}(hv:Value.okWide prog W r b 22 v)(h:DataW.Trod enc prog W 0 (λ_=>true) true 22 v d p) :
  ∃(a:Option Addr) (c:Nat) (ss:List jG),v=.slice a ss.length c/\agz W a ss/\ss.length<=c/\c<=maxLen/\(∀s∈ss,s.Ok W)/\(a=none->c=0) :=
 Ru jG.cells (jG.Ok W) jG.none (λ_=>rfl) underlying22 (by kernel_rfl) (λfuel cs x h=>Cg underlying27 rfl rfl rfl rfl rfl rfl rfl rfl rfl underlying25 rfl rfl rfl rfl rfl rfl underlying3 underlying23 underlying4 underlying5 (by kernel_rfl) (by kernel_rfl) (by kernel_rfl) (by kernel_rfl) (by kernel_rfl) (by kernel_rfl) rfl rfl h) (by decide) hv h
end
end Go.Proofs.YtaiffkajkbiidaaGreatDoor
