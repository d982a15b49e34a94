/- What this claim leans on, part 10: laws of the model, and what functions of the program compute. No condition but what each law states. -/
import Derived.Handed
import Derived.LaidLaws
import Derived.LaidMore
import Derived.Stop.Joined
import Derived.Test.YtaiffkajkbiidaaGreatDoorQ9
namespace Go.Proofs.YtaiffkajkbiidaaGreatDoor
set_option linter.unusedSimpArgs false
set_option linter.unusedVariables false
set_option linter.unusedSectionVars false
set_option maxRecDepth 100000
set_option maxHeartbeats 40000000
open Go.Proofs.Tryz
open Tryz
section
open Go.RowKit
theorem KC (b:List Nat)(a:Option Addr)(c:Nat)(hbl:b.length<=128)(hbb:∀x∈b,x<256)(hn:a=none->c=0)(w:World)(hG:uL w)(hS:Sl w a .u8 b) :
  Calls prog 37 #[.int .i64 48,.slice none 0 0,.slice a b.length c] w λe w'=>∃a2 c2,e=.returned (.tuple #[.slice a2 48 c2,.int .i64 0])/\Sl w' a2 .u8 (ED nU b)/\48<=c2/\Below w.heap.size w w':=by
 go_enter func37,ntmps37
 go_wp2_with fail
 refine(aaQ w hG).mono ?_
 rintro e w1 ⟨g,rfl,hg,B1,hb1⟩
 have S1:=hS.below hb1
 go_wp2_with fail
 refine(Sr g nU b 48 a c hbl hn w1 B1 S1).mono ?_
 rintro e w2 ⟨a2,c2,rfl,B2,S2,hc2⟩
 have hb2:=hc2.below hb1 hg hb1.size
 go_wp2_with fail
 refine(aaI g nU b a2 c2 KD hbl hbb w2 (hG.below hb2) B2 S2).mono ?_
 rintro e w3 ⟨a3,c3,rfl,S3,hc3,hb3⟩
 have hbel:=bC hb2 hb3
 go_wp2_with fail
 refine bodyPost_ret (v:=.tuple #[.slice a3 48 c3,.int .i64 0]) ?_ rfl ⟨_,_,rfl,S3,hc3,hbel⟩
 simp[results,results37]
end
section
open Go.RowKit
section
variable {P:Program}{o:Oper}{a:Act}{w:World}
theorem kS {T e:TypeId}{x y:Operand}{g off len cap lo:Nat}(hT:P.underlying T=some (.slice e))(hs:(P.info? e).map (·.size)=some 1)(ho:o.op=.slice T x (some y) none none)
  (hx:a.eval x=.slice (some ⟨g,off,none⟩) len cap) (hy:a.eval y=.int .i64 (lo:Int)) (h1:lo<=len) (h3:lo<cap) :
  (execOp a.eval o).run P w=.ok (.value (.slice (some ⟨g,off+lo,none⟩) (len-lo) (cap-lo))) w:=by
 obtain⟨d,hd,hd1⟩:=Option.map_eq_some_iff.1 hs
 have he:=jQ hT
 have hT':P.underlying T=some (.slice (P.elem T)):=by rw[he];exact hT
 have hr:=run_slice_l (P:=P) (w:=w) T (some ⟨g,off,none⟩) len cap hT' .i64 lo (by omega) (by omega)
 have hsz:(sizeOf (P.elem T)).run P w=.ok 1 w:=by simp[sizeOf,typeInfo,he,hd,hd1]
 rw[hsz] at hr
 have hne:¬cap=lo:=by omega
 unfold execOp
 simp only[ho,hx,hy,Option.map_some,Option.map_none,Sem.run_bind,Sem.run_pure,run_sliceAt_slice w T _ _ _ _ hT',hr,Result.andThen_ok,Int.toNat_natCast,sliced,if_neg hne,Nat.mul_one,Addr.add_mid]
end
theorem bldK (gt:Nat)(I J Z:List Nat)(hI:I.length=16)(hJ:J.length=16)(hZ:Z.length=16)(W:World):(Instr.build 103 #[(0,.pointer (some ⟨gt,0,none⟩)),(1,.agg (ints .u8 I)),(2,.agg (ints .u8 J)),(3,.agg (ints .u8 Z))]).run prog W=.ok (.agg (#[.pointer (some ⟨gt,0,none⟩)]++ints .u8 (I++J++Z))) W:=by
 obtain⟨x0,x1,x2,x3,x4,x5,x6,x7,x8,x9,Qo,PS,PR,PQ,Va,UZ,rfl⟩:=fZ I hI
 obtain⟨y0,y1,y2,y3,y4,y5,y6,y7,y8,y9,y10,y11,y12,y13,y14,y15,rfl⟩:=fZ J hJ
 obtain⟨z0,z1,z2,z3,z4,z5,z6,z7,z8,z9,z10,z11,z12,z13,z14,z15,rfl⟩:=fZ Z hZ
 kernel_rfl
theorem EP {o:Oper}{a:Act}{x0 x1 x2 x3:Operand}{w:World}{gt:Nat}{I J Z:List Nat}(hI:I.length=16)(hJ:J.length=16)(hZ:Z.length=16)(ho:o.op=.build 103 #[(0,x0),(1,x1),(2,x2),(3,x3)])(h0:a.eval x0=.pointer (some ⟨gt,0,none⟩))(h1:a.eval x1=.agg (ints .u8 I))(h2:a.eval x2=.agg (ints .u8 J))(h3:a.eval x3=.agg (ints .u8 Z)) :
  (execOp a.eval o).run prog w=.ok (.value (.agg (#[.pointer (some ⟨gt,0,none⟩)]++ints .u8 (I++J++Z)))) w:=by
 unfold execOp
 simp only[ho,List.map_toArray,List.map_cons,List.map_nil,h0,h1,h2,h3]
 simp only[Sem.run_bind,bldK gt I J Z hI hJ hZ,Result.andThen_ok]
 rfl
def wG (key:List Nat):List Nat:=if key.length=48 then key else ED nU key
theorem QP (hs b:List Nat)(h:hs.length=8):(ED hs b).length=48:=by
 unfold ED
 rw[List.length_take,uA _ 8 (by rw[BA,h];omega)];rfl
theorem XI (Z:List Nat)(k:Nat):∀x∈yJ Z k,x<256:=λx hx=>by
 unfold yJ at hx
 obtain⟨l,hl,hx⟩:=List.mem_flatten.1 hx
 obtain⟨n,-,rfl⟩:=List.mem_map.1 hl
 exact dU (by decide) _ _ x hx
theorem Sg (key:List Nat):(wG key).length=48:=by
 unfold wG
 split
 ·assumption
 ·exact QP _ _ rfl
theorem WM {key:List Nat}(hb:∀x∈key,x<256):∀x∈wG key,x<256:=by
 unfold wG
 split
 ·exact hb
 ·exact λx hx=>XI _ _ x (List.mem_of_mem_take hx)
def Zn (key:List Nat):List Nat:=aU (wG key)
def Zm (key:List Nat):List Nat:=aU ((wG key).drop 16)
def Zl (key:List Nat):List Nat:=aU ((wG key).drop 32)
theorem OW (gt gb:Nat)(key:List Nat)(a:Option Addr)(c:Nat)(h0:key.length≠0)(h128:key.length<=128)(hb:∀x∈key,x<256)(hc:key.length<=c)(hn:a=none->c=0)(w:World)(hT:lJ w gt gb)(hG:uL w)(hS:Sl w a .u8 key) :
  Calls prog 30 #[.pointer (some ⟨gt,0,none⟩),.slice a key.length c] w λe w'=>∃gk,e=.returned (.tuple #[.pointer (some ⟨gk,0,none⟩),.int .i64 0])/\w.heap.size<=gk/\IsKey w' gk gt gb (Zn key) (Zm key) (Zl key)/\Below w.heap.size w w':=by
 obtain⟨n,Hn⟩:=bD (key.length)
 have hsum:=λW (hG':uL W) (hS':Sl W a .u8 key)=>KC key a c h128 hb hn W hG' hS'
 rw[Hn.out] at h0 h128 hc hsum ⊢
 have hi0:(n:Int)≠0:=by omega
 have hi1:((n:Int)==0)=false:=by simp;omega
 have hi2:(n:Int)<=128:=by omega
 have hi3:decide ((n:Int)>128)=false:=by simp;omega
 obtain⟨kb,HK⟩:=bD (wG key)
 have hkl:kb.length=48:=by rw[←HK.out];exact Sg key
 have hkb:∀x∈kb,x<256:=by rw[←HK.out];exact WM hb
 have HI:Hid (Zn key=aU kb/\Zm key=aU (kb.drop 16)/\Zl key=aU (kb.drop 32)):=aR (by rw[←HK.out];exact⟨rfl,rfl,rfl⟩)
 rw[HI.out.1,HI.out.2.1,HI.out.2.2]
 clear HI
 have kl0:(kb.drop 16).length=32:=by rw[List.length_drop,hkl]
 have kl1:(kb.drop 32).length=16:=by rw[List.length_drop,hkl]
 have ml0:=bG kb
 have ml1:=bG (kb.drop 16)
 have ml2:=bG (kb.drop 32)
 have mb0:=dN hkb
 have mb1:=dN (bs:=kb.drop 16) λx hx=>hkb x (List.mem_of_mem_drop hx)
 have mb2:=dN (bs:=kb.drop 32) λx hx=>hkb x (List.mem_of_mem_drop hx)
 have hblk:=λ(ga oa cc:Nat) (W:World) (h:Sl W (some ⟨ga,oa,none⟩) .u8 kb)=>fB (some ⟨ga,oa,none⟩) cc kb W h
 have hblk1:=λ(ga oa cc:Nat) (W:World) (h:Sl W (some ⟨ga,oa,none⟩) .u8 kb)=>fB (some ⟨ga,oa+16,none⟩) cc (kb.drop 16) W (h.drop 16)
 have hblk2:=λ(ga oa cc:Nat) (W:World) (h:Sl W (some ⟨ga,oa,none⟩) .u8 kb)=>fB (some ⟨ga,oa+32,none⟩) cc (kb.drop 32) W (h.drop 32)
 rw[hkl] at hblk
 rw[kl0] at hblk1
 rw[kl1] at hblk2
 generalize aU kb=I at *
 generalize aU (kb.drop 16)=J at *
 generalize aU (kb.drop 32)=Z at *
 have hK:∀(W:World) (g:Nat),lJ W gt gb->aA W g 103 (#[.pointer (some ⟨gt,0,none⟩)]++ints .u8 (I++J++Z))->IsKey W g gt gb I J Z:=λW g h1 h2=>⟨h2,h1,ml0,ml1,ml2,mb0,mb1,mb2⟩
 go_enter func30,ntmps30
 by_cases h48:n=48
 ·subst h48
  have aaW:wG key=key:=by unfold wG;rw[if_pos Hn.out]
  rw[aaW] at HK
  have ek:key=kb:=HK.out
  rw[ek] at hS
  clear ek
  go_wp2_with fail
  have S2:=hS
  have aB:=Below.refl w.heap.size w
  obtain⟨c2,afg⟩:∃c2,c2=c:=⟨_,rfl⟩
  rw[←afg] at hc ⊢
  have hc2:=hc
  clear afg hS hsum
  have hnil:kb≠[]:=λe=>by rw[e] at hkl;simp at hkl
  obtain⟨ga,oa,ea,-,-⟩:=S2 hnil
  subst ea
  refine bR 10 (by kernel_rfl) (by kernel_rfl) ?_
  simp only[List.take_succ_cons,List.take_zero,List.drop_succ_cons,List.drop_zero]
  go_big_quiet_step (fail)
  go_big_quiet_step (fail)
  refine di 38 rfl rfl func38 (by kernel_rfl) (by kernel_rfl) (λW hQ=>(hblk ga oa c2 W (S2.below hQ))) ?_
  (try simp only[nn,Nat.reduceAdd])
  go_big_quiet_step (fail)
  refine bE rfl (λW=>kS (lo:=16) underlying23 s15 rfl rfl rfl (by omega) (by omega)) ?_
  (try simp only[nn,Nat.reduceAdd])
  refine di 38 rfl rfl func38 (by kernel_rfl) (by kernel_rfl) (λW hQ=>(hblk1 ga oa (c2-16) W (S2.below hQ))) ?_
  (try simp only[nn,Nat.reduceAdd])
  go_big_quiet_step (fail)
  refine bE rfl (λW=>kS (lo:=32) underlying23 s15 rfl rfl rfl (by omega) (by omega)) ?_
  (try simp only[nn,Nat.reduceAdd])
  refine di 38 rfl rfl func38 (by kernel_rfl) (by kernel_rfl) (λW hQ=>(hblk2 ga oa (c2-32) W (S2.below hQ))) ?_
  (try simp only[nn,Nat.reduceAdd])
  refine bE rfl (λW=>EP ml0 ml1 ml2 rfl rfl rfl rfl rfl) ?_
  (try simp only[nn,Nat.reduceAdd])
  refine wpQuiet_nil ?_
  intro w' hw'
  have aG:=bC aB hw'
  have T3:=(hT.below aG).below ((Below.refl w'.heap.size w').alloc dM (.cells (#[.pointer (some ⟨gt,0,none⟩)]++ints .u8 (I++J++Z)) 103))
  have B3:=aA.new w' 103 (#[.pointer (some ⟨gt,0,none⟩)]++ints .u8 (I++J++Z))
  have K3:=hK _ _ T3 B3
  have aY:=aG.alloc aG.size (.cells (#[.pointer (some ⟨gt,0,none⟩)]++ints .u8 (I++J++Z)) 103)
  have JM:=aG.size
  clear hK hblk hblk1 hblk2 T3 B3
  rw[List.append_assoc] at K3 aY
  go_wp2_with fail
  refine bodyPost_ret (v:=.tuple #[.pointer (some ⟨w'.heap.size,0,none⟩),.int .i64 0]) ?_ rfl ⟨_,rfl,JM,K3,aY⟩
  simp[results,results30]
 ·have aaW:wG key=ED nU key:=by unfold wG;rw[if_neg (by rw[Hn.out];exact h48)]
  rw[aaW] at HK
  rw[HK.out] at hsum
  have hi4:(n:Int)≠48:=by omega
  have hi5:((n:Int)==48)=false:=by simp;omega
  go_wp2_with fail
  refine(hsum w hG hS).mono ?_
  rintro e w2 ⟨a2,c2,rfl,S2,hc2,aB⟩
  clear hsum hS
  go_wp2_with fail
  have hnil:kb≠[]:=λe=>by rw[e] at hkl;simp at hkl
  obtain⟨ga,oa,ea,-,-⟩:=S2 hnil
  subst ea
  refine bR 10 (by kernel_rfl) (by kernel_rfl) ?_
  simp only[List.take_succ_cons,List.take_zero,List.drop_succ_cons,List.drop_zero]
  go_big_quiet_step (fail)
  go_big_quiet_step (fail)
  refine di 38 rfl rfl func38 (by kernel_rfl) (by kernel_rfl) (λW hQ=>(hblk ga oa c2 W (S2.below hQ))) ?_
  (try simp only[nn,Nat.reduceAdd])
  go_big_quiet_step (fail)
  refine bE rfl (λW=>kS (lo:=16) underlying23 s15 rfl rfl rfl (by omega) (by omega)) ?_
  (try simp only[nn,Nat.reduceAdd])
  refine di 38 rfl rfl func38 (by kernel_rfl) (by kernel_rfl) (λW hQ=>(hblk1 ga oa (c2-16) W (S2.below hQ))) ?_
  (try simp only[nn,Nat.reduceAdd])
  go_big_quiet_step (fail)
  refine bE rfl (λW=>kS (lo:=32) underlying23 s15 rfl rfl rfl (by omega) (by omega)) ?_
  (try simp only[nn,Nat.reduceAdd])
  refine di 38 rfl rfl func38 (by kernel_rfl) (by kernel_rfl) (λW hQ=>(hblk2 ga oa (c2-32) W (S2.below hQ))) ?_
  (try simp only[nn,Nat.reduceAdd])
  refine bE rfl (λW=>EP ml0 ml1 ml2 rfl rfl rfl rfl rfl) ?_
  (try simp only[nn,Nat.reduceAdd])
  refine wpQuiet_nil ?_
  intro w' hw'
  have aG:=bC aB hw'
  have T3:=(hT.below aG).below ((Below.refl w'.heap.size w').alloc dM (.cells (#[.pointer (some ⟨gt,0,none⟩)]++ints .u8 (I++J++Z)) 103))
  have B3:=aA.new w' 103 (#[.pointer (some ⟨gt,0,none⟩)]++ints .u8 (I++J++Z))
  have K3:=hK _ _ T3 B3
  have aY:=aG.alloc aG.size (.cells (#[.pointer (some ⟨gt,0,none⟩)]++ints .u8 (I++J++Z)) 103)
  have JM:=aG.size
  clear hK hblk hblk1 hblk2 T3 B3
  rw[List.append_assoc] at K3 aY
  go_wp2_with fail
  refine bodyPost_ret (v:=.tuple #[.pointer (some ⟨w'.heap.size,0,none⟩),.int .i64 0]) ?_ rfl ⟨_,rfl,JM,K3,aY⟩
  simp[results,results30]
end
section
open Go.RowKit
theorem NR (gt gb:Nat)(key:List Nat)(a:Option Addr)(c:Nat)(h0:key.length≠0)(h128:key.length<=128)(hb:∀x∈key,x<256)(hc:key.length<=c)(hn:a=none->c=0)(w:World)(hT:lJ w gt gb)(hG:uL w)(hS:Sl w a .u8 key) :
  Calls prog 22 #[.pointer (some ⟨gt,0,none⟩),.int .i64 3,.slice a key.length c] w λe w'=>∃gk,e=.returned (.tuple #[.iface 81 (.agg #[.pointer (some ⟨gk,0,none⟩)]),.int .i64 0])/\w.heap.size<=gk/\IsKey w' gk gt gb (Zn key) (Zm key) (Zl key)/\Below w.heap.size w w':=by
 go_enter func22,ntmps22
 go_wp2_with fail
 refine(OW gt gb key a c h0 h128 hb hc hn w hT hG hS).mono ?_
 rintro e w1 ⟨gk,rfl,hg,K,hbel⟩
 go_wp2_with fail
 refine bodyPost_ret (v:=.tuple #[.iface 81 (.agg #[.pointer (some ⟨gk,0,none⟩)]),.int .i64 0]) ?_ rfl ⟨_,rfl,hg,K,hbel⟩
 simp[results,results22]
end
section
open Go.RowKit
theorem bx0:(dW 255).getD 0 0=99:=by decide +kernel
theorem bx1:(dW 255).getD 1 0=124:=by decide +kernel
theorem Oa (n c:Nat)(a:Option Addr)(w:World):Calls prog 18 #[.slice a n c] w λe w'=>e=.returned (.bool (decide (0<n/\n<=128)))/\w=w':=by
 obtain⟨R,HR⟩:∃R,Hid (decide (0<n/\n<=128)=R):=⟨_,aR rfl⟩
 rw[HR.out]
 go_enter func18,ntmps18
 by_cases h0:n=0
 ·subst h0
  obtain rfl:R=false:=by rw[←HR.out];rfl
  go_wp2
  go_ret
  exact⟨rfl,rfl⟩
 ·by_cases h1:n<=128
  ·have e0:decide ((n:Int)>0)=true:=by simp;omega
   have e1:decide ((n:Int)<=128)=true:=by simp;omega
   obtain rfl:R=true:=by rw[←HR.out,decide_eq_true (show 0<n/\n<=128 by omega)]
   go_wp2
   go_ret
   exact⟨rfl,rfl⟩
  ·have e0:decide ((n:Int)>0)=true:=by simp;omega
   have e1:decide ((n:Int)<=128)=false:=by simp;omega
   obtain rfl:R=false:=by rw[←HR.out,decide_eq_false (show ¬(0<n/\n<=128) by omega)]
   go_wp2
   go_ret
   exact⟨rfl,rfl⟩
theorem Qq (n c:Nat)(a:Option Addr)(w:World):Calls prog 12 #[.int .i64 3,.slice a n c] w λe w'=>e=.returned (.int .i64 (if 0<n/\n<=128 then 0 else 2))/\w=w':=by
 have hr:=Oa n c a w
 go_enter func12,ntmps12
 by_cases h:0<n/\n<=128
 ·rw[decide_eq_true h] at hr
  rw[if_pos h]
  go_wp2_with fail
  refine hr.mono ?_
  rintro e w1 ⟨rfl,rfl⟩
  go_wp2
  go_ret
  exact⟨rfl,rfl⟩
 ·rw[decide_eq_false h] at hr
  rw[if_neg h]
  go_wp2_with fail
  refine hr.mono ?_
  rintro e w1 ⟨rfl,rfl⟩
  go_wp2
  go_ret
  exact⟨rfl,rfl⟩
theorem Ew (w:World)(hG:Gl w):Calls prog 13 #[] w λe w'=>∃gt gb,e=.returned (.pointer (some ⟨gt,0,none⟩))/\w.heap.size<=gt/\lJ w' gt gb/\Below w.heap.size w w':=by
 go_enter func13,ntmps13
 go_wp2_with fail
 refine(TP w).mono ?_
 rintro e w1 ⟨gb,rfl,hg,B,hb1⟩
 go_wp2_with fail
 refine(ND gb (dW 255) (gB _) (gH _) w1 B (hG.below hb1)).mono ?_
 rintro e w2 ⟨gt,rfl,hg2,T,hb2⟩
 have hbel:=bC hb1 hb2
 have B2:=B.below' hb2
 go_wp2_with fail
 go_ret
 exact⟨_,gb,rfl,Nat.le_trans hb1.size hg2,⟨T,B2⟩,hbel⟩
theorem II (w:World)(hG:Gl w):Calls prog 8 #[] w λe w'=>e=.returned (.bool true)/\Below w.heap.size w w':=by
 go_enter func8,ntmps8
 go_wp2_with fail
 refine(Ew w hG).mono ?_
 rintro e w1 ⟨gt,gb,rfl,hg,T,hb1⟩
 have h0:=uW gt gb 0 (dW 255) (by decide) (gB _) w1 T.1 T.2
 have h1:=uW gt gb 1 (dW 255) (by decide) (gB _) w1 T.1 T.2
 rw[bx0] at h0
 rw[bx1] at h1
 clear T
 go_wp2_with fail
 refine h0.mono ?_
 rintro e w2 ⟨rfl,rfl⟩
 go_wp2_with fail
 refine h1.mono ?_
 rintro e w2 ⟨rfl,rfl⟩
 go_wp2_with fail
 go_ret
 exact⟨rfl,hb1⟩
end
section
open Go.RowKit
section
variable {P:Program}
theorem xO {md:Region.Mode}{ops:Array Oper}{listed:Array Bool}(hok:(ops.toList.zipIdx.all λ(o,i)=>o.after.all λe=>decide (e.on<i) || !Region.binds md e)=true)
  (hs:listed.size=ops.size) (h:Region.ready md ops listed=[]):∀j,j<ops.size->listed.getD j false=true:=by
 intro j
 induction j using Nat.strongRecOn with
 | ind j ih =>
  intro hj
  refine Classical.byContradiction λhn=>?_
  have hmem:j∈Region.ready md ops listed:=by
   rw[mem_ready]
   refine⟨?_,ops[j],by simp[hj],λe he hbe=>?_⟩
   ·rw[Array.getD_eq_getD_getElem?,Array.getElem?_eq_getElem (by omega)] at hn ⊢
    simpa using hn
   ·rw[List.all_eq_true] at hok
    have:=hok (ops[j],j) (by rw[List.mem_zipIdx_iff_getElem?];simp[hj])
    simp only[Array.all_eq_true_iff_forall_mem,decide_eq_true_eq] at this
    have hlt:e.on<j:=by have h3:=this e he;rw[hbe] at h3;simpa using h3
    exact ih _ hlt (by omega)
  rw[h] at hmem
  cases hmem
theorem jZ {ops:Array Oper}{Q:Exit->Act->World->Prop}{Cw:Nat}{a:Act}{w:World}(hm:P.follows .mixedOrders=true)
  (hok:(ops.toList.zipIdx.all λ(o,i)=>o.after.all λe=>decide (e.on<i) || !Region.binds .any e)=true)
  (I:(Nat->Prop)->Act->World->Prop)
  (h0:I (λ_=>False) a w.drew)
  (hstep:∀(i:Nat) (o:Oper),ops[i]?=some o->∀(D:Nat->Prop) (a:Act) (w:World),I D a w->¬D i->(∀e∈o.after,Region.binds .any e=true->D e.on) ->
   wpOp P ops Q i (λa' w'=>I (λj=>j=i∨D j) a' w') a w)
  (hend:∀(D:Nat->Prop) (a:Act) (w:World),I D a w->(∀j,j<ops.size->D j)->Q .normal a w) :
  (Code.region Cw ops true).wp P Q a w:=by
 refine wp_region_any hm ?_
 have key:∀(fuel:Nat) (listed:Array Bool) (D:Nat->Prop) (a:Act) (w:World),listed.size=ops.size->(∀j,D j↔listed.getD j false=true)->I D a w ->
   (fuel+(listed.toList.filter _root_.id).length=ops.size)->wpAny P .any ops Q fuel listed a w:=by
  intro fuel
  induction fuel with
  | zero =>
   intro listed D a w hs hD hI hf
   have hall:∀j,j<ops.size->listed.getD j false=true:=by
    intro j hj
    have hl:(listed.toList.filter _root_.id).length=listed.toList.length:=by simp at hf ⊢;omega
    have:=List.length_filter_eq_length_iff.1 hl (listed[j]'(by omega)) (by simp)
    rw[Array.getD_eq_getD_getElem?,Array.getElem?_eq_getElem (by omega)]
    simpa using this
   refine⟨?_,hend D a w hI λj hj=>(hD j).2 (hall j hj)⟩
   cases hr:Region.ready .any ops listed with
   | nil=>rfl
   | cons i is =>
    have hi:i∈Region.ready .any ops listed:=by rw[hr];simp
    obtain⟨h1,o,ho,-⟩:=mem_ready.1 hi
    have hlt:i<ops.size:=(Array.getElem?_eq_some_iff.1 ho).1
    have:=hall i hlt
    rw[Array.getD_eq_getD_getElem?,Array.getElem?_eq_getElem (by omega)] at this h1
    simp at this h1
    rw[this] at h1;cases h1
  | succ fuel ih =>
   intro listed D a w hs hD hI hf
   refine⟨λhr=>hend D a w hI λj hj=>(hD j).2 (xO hok hs hr j hj),λi hi=>?_⟩
   obtain⟨h1,o,ho,hall⟩:=mem_ready.1 hi
   have hlt:i<ops.size:=(Array.getElem?_eq_some_iff.1 ho).1
   have hlf:listed[i]'(by omega)=false:=by
    rw[Array.getD_eq_getD_getElem?,Array.getElem?_eq_getElem (by omega)] at h1
    simpa using h1
   refine wpOp_mono (λa' w' hI'=>ih (listed.setIfInBounds i true) (λj=>j=i∨D j) a' w' (by simpa using hs) ?_ hI' ?_)
    (hstep i o ho D a w hI (λhDi=>?_) λe he hb=>(hD _).2 (hall e he hb))
   ·intro j
    by_cases hj:i=j
    ·subst hj
     simp[Array.getD_eq_getD_getElem?,hs,hlt]
    ·rw[getD_set_ne false hj,←hD]
     constructor
     ·rintro (h|h)
      ·exact absurd h.symm hj
      ·exact h
     ·exact Or.inr
   ·have hcount:((listed.setIfInBounds i true).toList.filter _root_.id).length=(listed.toList.filter _root_.id).length+1:=by
     rw[Array.toList_setIfInBounds]
     have hi':i<listed.toList.length:=by simpa [hs] using hlt
     have e1:listed.toList=listed.toList.take i++listed.toList[i]::listed.toList.drop (i+1):=by
      rw[List.getElem_cons_drop,List.take_append_drop]
     rw[List.set_eq_take_append_cons_drop,if_pos hi']
     conv=>rhs;rw[e1]
     have hz:listed.toList[i]=false:=by simpa using hlf
     simp only[List.filter_append,List.length_append,List.filter_cons,hz,_root_.id,if_true,Bool.false_eq_true,if_false,List.length_cons]
     omega
    have Ml:((listed.setIfInBounds i true).toList.filter _root_.id).length=(listed.toList.filter _root_.id).length+1:=hcount
    omega
   ·have:=(hD i).1 hDi
    rw[Array.getD_eq_getD_getElem?,Array.getElem?_eq_getElem (by omega)] at this
    simp[hlf] at this
 refine key ops.size _ (λ_=>False) a _ (by simp) (λj=>?_) h0 ?_
 ·constructor
  ·exact False.elim
  ·intro h
   rw[Array.getD_eq_getD_getElem?] at h
   by_cases hj:j<ops.size
   ·simp[hj] at h
   ·simp[hj] at h
 ·simp
end
end
section
open Go.RowKit
def Ae (W:World)(B:Nat)(v:Value):Prop:=∃gt gb,v=.pointer (some ⟨gt,0,none⟩)/\B<=gt/\lJ W gt gb
theorem Ae.below {W W':World}{B:Nat}{v:Value}(h:Ae W B v)(hb:Below W.heap.size W W'):Ae W' B v:=let ⟨gt,gb,h1,h2,h3⟩:=h;⟨gt,gb,h1,h2,h3.below hb⟩
end
section
open Go.ChangeShapes Go.WideShapes Go.ChangeAt Go.RowKit
section
variable {H:Type}{enc:TypeId×Value->H}{P:Program}{W:World}{base:Nat}{sp:Nat->Bool}{hd:Bool}{k:IntKind}
theorem jK {t e n fuel:Nat}{cs:List Value}{ds:List Nat}{p:List MemPlace}(ht:P.underlying t=some (.array n e))(he:P.underlying e=some (.int k))(hce:P.cellsOf e=1)(hct:P.cellsOf t=n)(hn:ds.length=n)
  (hf:DataW.trod enc P W base sp hd fuel t cs=some (.agg (ds.map λx:Nat=>DataW.lit (Lit.int k (x:Int))),p)):cs=vals k ds:=by
 obtain⟨ys,m,-,hx,hlen,hyl,each⟩:=DataW.trod_array ht hf
 simp only[Prod.mk.injEq,DataW.agg.injEq] at hx
 obtain⟨hx,-⟩:=hx
 rw[hct] at hlen
 simp only[hce,Nat.mul_one] at each
 unfold vals
 apply List.ext_getElem?
 intro i
 by_cases hi:i<n
 ·have h1:=each i hi
  have h2:ys[i]?=some ys[i]:=List.getElem?_eq_getElem (by omega)
  rw[h2] at h1
  have h3:(cs.drop i).take 1=[cs[i]'(by omega)]:=by
   rw[List.drop_eq_getElem_cons (by omega)];rfl
  rw[h3] at h1
  obtain⟨z,e0,e1,-⟩:=DataW.trod_int he h1
  have h4:=congrArg (λl=>l[i]?) hx
  simp only[List.getElem?_map,h2,Option.map_some,e1] at h4
  have h5:ds[i]?=some ds[i]:=List.getElem?_eq_getElem (by omega)
  rw[h5] at h4
  simp only[Option.map_some,Option.some.injEq,DataW.lit.injEq,Lit.int.injEq,true_and] at h4
  rw[List.getElem?_map,h5,List.getElem?_eq_getElem (by omega)]
  simp only[Option.map_some,Option.some.injEq]
  rw[h4]
  simpa using e0
 ·rw[List.getElem?_eq_none (by omega),List.getElem?_eq_none (by simp;omega)]
theorem nz {n:String}{g:Nat}{cs:Array Value}{xs:List Nat}(hg:P.globalNamed n=some g)(hv:W.var? P n=some cs)(hc:cs.toList=vals k xs)(hl:g<W.heap.size):Sl W (some ⟨g,0,none⟩) k xs:=λ_ =>
 ⟨g,0,rfl,hl,λi hi=>by
  have h1:=World.var?_cell hg hv i
  rw[Nat.zero_add,h1,←Array.getElem?_toList,hc]
  unfold vals
  rw[List.getElem?_map,getD_lt hi];rfl⟩
theorem kZ {n:String}{g:Nat}{cs:Array Value}(hg:P.globalNamed n=some g)(hv:W.var? P n=some cs)(hne:cs.size≠0):g<W.heap.size:=by
 have h1:=World.var?_cell hg hv 0
 rw[Array.getElem?_eq_getElem (by omega)] at h1
 refine Classical.byContradiction λhn=>?_
 have h2:W.heap[g]?=none:=Array.getElem?_eq_none (by omega)
 simp[World.cell?,h2] at h1
end
theorem gn1:prog.globalNamed "wringer/blake.first"=some 2:=by kernel_rfl
theorem gn2:prog.globalNamed "wringer/blake.rows"=some 3:=by kernel_rfl
theorem gn3:prog.globalNamed "wringer/turn.mixes"=some 0:=by kernel_rfl
theorem gn4:prog.globalNamed "wringer/turn.unmixes"=some 1:=by kernel_rfl
theorem gt1:(prog.globals[2]?).map (·.type)=some 147:=by kernel_rfl
theorem gt2:(prog.globals[3]?).map (·.type)=some 165:=by kernel_rfl
theorem gt3:(prog.globals[0]?).map (·.type)=some 65:=by kernel_rfl
theorem gt4:(prog.globals[1]?).map (·.type)=some 65:=by kernel_rfl
def FN:List (String×DataW Unit):=[("wringer/blake.first",Rows.laid_wringer_blake_first),("wringer/blake.rows",Rows.laid_wringer_blake_rows),("wringer/turn.mixes",Rows.laid_wringer_turn_mixes),("wringer/turn.unmixes",Rows.laid_wringer_turn_unmixes)]
theorem d1:(Rows.laid_wringer_blake_first:DataW Unit)=.agg (gW.map λx:Nat=>DataW.lit (Lit.int .u64 (x:Int))):=rfl
theorem d3:(Rows.laid_wringer_turn_mixes:DataW Unit)=.agg (iV.map λx:Nat=>DataW.lit (Lit.int .u8 (x:Int))):=rfl
theorem d4:(Rows.laid_wringer_turn_unmixes:DataW Unit)=.agg (fM.map λx:Nat=>DataW.lit (Lit.int .u8 (x:Int))):=rfl
theorem d2:(Rows.laid_wringer_blake_rows:DataW Unit)=.agg ((List.range 10).map λi=>DataW.agg ((Ct i).map λx:Nat=>DataW.lit (Lit.int .u8 (x:Int)))):=rfl
theorem Wm {W:World}(h:laidMetH prog FN W):Gl W/\uL W:=by
 rw[MakeChecks.laidMetH_plain _ _ _ (by kernel_rfl)] at h
 obtain⟨ps,h,-⟩:=h
 obtain⟨g0,t0,cs0,f0,p0,q0,hg0,ht0,hv0,hd0,⟨g1,t1,cs1,f1,p1,q1,hg1,ht1,hv1,hd1,⟨g2,t2,cs2,f2,p2,q2,hg2,ht2,hv2,hd2,⟨g3,t3,cs3,f3,p3,q3,hg3,ht3,hv3,hd3,-,-⟩,-⟩,-⟩,-⟩:=h
 obtain rfl:=Option.some.inj (gn1.symm.trans hg0)
 obtain rfl:=Option.some.inj (gn2.symm.trans hg1)
 obtain rfl:=Option.some.inj (gn3.symm.trans hg2)
 obtain rfl:=Option.some.inj (gn4.symm.trans hg3)
 obtain rfl:=Option.some.inj (gt1.symm.trans ht0)
 obtain rfl:=Option.some.inj (gt2.symm.trans ht1)
 obtain rfl:=Option.some.inj (gt3.symm.trans ht2)
 obtain rfl:=Option.some.inj (gt4.symm.trans ht3)
 have c8:prog.cellsOf 147=8:=by kernel_rfl
 have c4:prog.cellsOf 65=4:=by kernel_rfl
 have c16:prog.cellsOf 96=16:=by kernel_rfl
 have c160:prog.cellsOf 165=160:=by kernel_rfl
 rw[d1] at hd0
 rw[d2] at hd1
 rw[d3] at hd2
 rw[d4] at hd3
 have e0:=jK underlying147 underlying106 QK c8 (by rfl) hd0
 have e2:=jK underlying65 underlying5 sz5 c4 (by rfl) hd2
 have e3:=jK underlying65 underlying5 sz5 c4 (by rfl) hd3
 have e1:cs1.toList=vals .u8 Li:=by
  obtain⟨ys,m,-,hx,hlen,hyl,each⟩:=DataW.trod_array underlying165 hd1
  simp only[Prod.mk.injEq,DataW.agg.injEq] at hx
  obtain⟨hx,-⟩:=hx
  rw[c160] at hlen
  simp only[c16] at each
  have row:∀i,i<10->(cs1.toList.drop (i*16)).take 16=vals .u8 (Ct i):=λi hi=>by
   have h1:=each i hi
   have h2:ys[i]?=some ys[i]:=List.getElem?_eq_getElem (by omega)
   rw[h2] at h1
   have h4:=congrArg (λl=>l[i]?) hx
   simp only[List.getElem?_map,h2,Option.map_some,List.getElem?_range hi,Option.some.injEq] at h4
   generalize ys[i]=y at h1 h4
   obtain⟨y1,y2⟩:=y
   simp only at h4
   subst h4
   exact jK underlying96 underlying5 sz5 c16 (ER i hi) h1
  have cat:∀j,j<=10->cs1.toList.take (16*j)=vals .u8 (Li.take (16*j)):=λj=>by
   induction j with
   | zero=>intro _;rfl
   | succ j ih =>
    intro hj
    have h1:=ih (by omega)
    have h2:=row j (by omega)
    rw[show 16*(j+1)=16*j+16 by omega,List.take_add,h1,Nat.mul_comm 16 j,h2,List.take_add]
    unfold vals Ct
    rw[List.map_append,Nat.mul_comm 16 j]
  have h10:=cat 10 (by omega)
  rw[List.take_of_length_le (by omega),List.take_of_length_le (by decide)] at h10
  exact h10
 have z0:cs0.size≠0:=by rw[←Array.length_toList,e0];decide
 have z1:cs1.size≠0:=by rw[←Array.length_toList,e1];decide
 have z2:cs2.size≠0:=by rw[←Array.length_toList,e2];decide
 have z3:cs3.size≠0:=by rw[←Array.length_toList,e3];decide
 exact⟨⟨nz hg2 hv2 e2 (kZ hg2 hv2 z2),nz hg3 hv3 e3 (kZ hg3 hv3 z3)⟩,⟨nz hg0 hv0 e0 (kZ hg0 hv0 z0),nz hg1 hv1 e1 (kZ hg1 hv1 z1)⟩⟩
theorem Uf (os:Os)(args:Array Value):laidMetH prog FN ((World.doorLaid prog 4000 os).forCall (λ_ _=>0) ⟨#[],args,[]⟩).memory :=
 laidMetH_of_parts3 (fuel:=8) (laidMet_of_run' 8 (by kernel_rfl) (by kernel_rfl)) (by kernel_rfl) (by kernel_rfl)
end
section
open Go.RowKit
def FL (n:Nat):Nat:=FloatKind.f64.nearest (n:Int)
def flB1:Bool:=(List.range 208).all λn=>(FloatKind.f64.decode (FL n)).toInt .zero==some (n:Int)
theorem XB:flB1=true:=by kernel_rfl
def flB2:Bool:=(List.range 208).all λn=>let c:=FloatKind.f64.format.order (FL n) 0;c==some .gt || c==some .eq
theorem XA:flB2=true:=by kernel_rfl
def flB3:Bool:=(List.range 208).all λn=>FloatKind.f64.format.order (FL n) (FL n)==some .eq
theorem Xz:flB3=true:=by kernel_rfl
def flB5:Bool:=(List.range 208).all λb=>(List.range (b+1)).all λa=>let c:=FloatKind.f64.format.order (FL a) (FL b);c==some .lt || c==some .eq
theorem Xy:flB5=true:=by kernel_rfl
theorem abw {n:Nat}(h:n<208):(FloatKind.f64.decode (FL n)).toInt .zero=some (n:Int):=by
 have:=List.all_eq_true.1 XB n (List.mem_range.2 h)
 simpa using this
theorem afZ {n:Nat}(h:n<208):(FloatKind.f64.format.order (FL n) 0==some .gt || FloatKind.f64.format.order (FL n) 0==some .eq)=true:=List.all_eq_true.1 XA n (List.mem_range.2 h)
theorem aga {n:Nat}(h:n<208):(FloatKind.f64.format.order (FL n) (FL n)==some .eq)=true:=List.all_eq_true.1 Xz n (List.mem_range.2 h)
theorem afY {a b:Nat}(h:a<=b)(hb:b<208):(FloatKind.f64.format.order (FL a) (FL b)==some .lt || FloatKind.f64.format.order (FL a) (FL b)==some .eq)=true :=
 List.all_eq_true.1 (List.all_eq_true.1 Xy b (List.mem_range.2 hb)) a (List.mem_range.2 (by omega))
end
end Go.Proofs.YtaiffkajkbiidaaGreatDoor
