/- What this claim leans on, part 16: laws of the model, and what functions of the program compute. No condition but what each law states. -/
import Derived.Lib.SlBytesConst
import Derived.Test.YtaiffkajkbiidaaGreatDoorQ11
namespace Go.Proofs.YtaiffkajkbiidaaGreatDoor
set_option linter.unusedSimpArgs false
set_option linter.unusedVariables false
set_option linter.unusedSectionVars false
set_option maxRecDepth 100000
set_option maxHeartbeats 40000000
open Go.Proofs.Tryz
open Tryz
section
open Go.RowKit
def Wd (x s:Nat):Nat:=(x*2^s%4294967296) ||| (x/2^(32-s))
theorem VZ {x s:Nat}(hx:x<4294967296):Wd x s<4294967296 :=
 Nat.or_lt_two_pow (n:=32) (Nat.mod_lt _ (by decide)) (Nat.lt_of_le_of_lt (Nat.div_le_self _ _) hx)
theorem CF {x y:Nat}{X Y:Int}(hx:x<4294967296)(hy:y<4294967296)(hX:X=(x:Int))(hY:Y=(y:Int)):Ending.returned (.int .u32 (bits BinOp.or IntKind.u32 X Y))=Ending.returned (.int .u32 ((x ||| y:Nat):Int)):=by
 rw[hX,hY,u32_or_nat x y hx hy]
theorem We (x:Nat)(hx:x<4294967296)(k:Int)(s:Nat)(hk:(k=16/\s=16)∨(k=12/\s=12)∨(k=8/\s=8)∨(k=7/\s=7))(w:World) :
  Calls prog 78 #[.int .u32 (x:Int),.int .i64 k] w λe w'=>e=.returned (.int .u32 (Wd x s:Nat))/\w=w':=by
 rcases hk with ⟨rfl,rfl⟩|⟨rfl,rfl⟩|⟨rfl,rfl⟩|⟨rfl,rfl⟩
 all_goals
  have b0:bits BinOp.and IntKind.u64 16 31=16:=by decide
  have b1:bits BinOp.and IntKind.u64 12 31=12:=by decide
  have b2:bits BinOp.and IntKind.u64 8 31=8:=by decide
  have b3:bits BinOp.and IntKind.u64 7 31=7:=by decide
  go_enter func78,ntmps78
  go_wp2
  clear b0 b1 b2 b3
  go_ret
  refine⟨?_,rfl⟩
 ·exact CF (x:=x*2^16%4294967296) (y:=x/2^16) (by omega) (by omega) (by omega) (by omega)
 ·exact CF (x:=x*2^12%4294967296) (y:=x/2^20) (by omega) (by omega) (by omega) (by omega)
 ·exact CF (x:=x*2^8%4294967296) (y:=x/2^24) (by omega) (by omega) (by omega) (by omega)
 ·exact CF (x:=x*2^7%4294967296) (y:=x/2^25) (by omega) (by omega) (by omega) (by omega)
def stA (a b:Nat):Nat:=(a+b)%4294967296
def NL (a b d s:Nat):Nat:=Wd (d^^^stA a b) s
theorem xG (a b:Nat):stA a b<4294967296:=Nat.mod_lt _ (by decide)
theorem rE {a b d s:Nat}(hd:d<4294967296):NL a b d s<4294967296:=VZ (Nat.xor_lt_two_pow (n:=32) hd (xG _ _))
theorem Ci (a b d:Nat)(hd:d<4294967296)(k:Int)(s:Nat)(hk:(k=16/\s=16)∨(k=12/\s=12)∨(k=8/\s=8)∨(k=7/\s=7))(w:World) :
  Calls prog 76 #[.int .u32 (a:Int),.int .u32 (b:Int),.int .u32 (d:Int),.int .i64 k] w λe w'=>e=.returned (.tuple #[.int .u32 (stA a b:Nat),.int .u32 (NL a b d s:Nat)])/\w=w':=by
 have hw:IntKind.u32.wrap ((a:Int)+(b:Int))=((stA a b:Nat):Int):=by rw[IntKind.wrap_u32];unfold stA;omega
 have hx:=u32_xor_nat d (stA a b) hd (xG a b)
 have hX:d^^^stA a b<4294967296:=Nat.xor_lt_two_pow (n:=32) hd (xG _ _)
 have hr:=We (d^^^stA a b) hX k s hk w
 have HD:Hid (Wd (d^^^stA a b) s=NL a b d s):=aR rfl
 rw[HD.out] at hr
 generalize d^^^stA a b=X at *
 generalize stA a b=A at *
 generalize NL a b d s=D at *
 go_enter func76,ntmps76
 go_wp2_with fail
 refine hr.mono ?_
 rintro e w1 ⟨rfl,rfl⟩
 go_wp2_with fail
 refine bodyPost_ret (v:=.tuple #[.int .u32 (A:Int),.int .u32 (D:Int)]) ?_ rfl ⟨rfl,rfl⟩
 simp[results,results76]
def q4 (a b c d:Nat):List Nat :=
 let a1:=stA a b
 let d1:=NL a b d 16
 let c1:=stA c d1
 let b1:=NL c d1 b 12
 let a2:=stA a1 b1
 let d2:=NL a1 b1 d1 8
 let c2:=stA c1 d2
 let b2:=NL c1 d2 b1 7
 [a2,b2,c2,d2]
theorem aaj (a b c d:Nat):(q4 a b c d).length=4:=rfl
theorem adv {a b c d:Nat}(hb:b<4294967296)(hd:d<4294967296):∀x∈q4 a b c d,x<4294967296:=by
 have h1:=rE (a:=a) (b:=b) (s:=16) hd
 have h2:=rE (a:=c) (b:=NL a b d 16) (s:=12) hb
 intro x hx
 unfold q4 at hx
 simp only[List.mem_cons,List.not_mem_nil,or_false] at hx
 rcases hx with rfl|rfl|rfl|rfl
 ·exact xG _ _
 ·exact rE h2
 ·exact xG _ _
 ·exact rE h1
theorem Oe (a b c d:Nat)(hb:b<4294967296)(hd:d<4294967296)(w:World) :
  Calls prog 72 #[.int .u32 (a:Int),.int .u32 (b:Int),.int .u32 (c:Int),.int .u32 (d:Int)] w λe w'=>e=.returned (.tuple (ints .u32 (q4 a b c d)))/\w=w':=by
 obtain⟨r,HR⟩:=bD (q4 a b c d)
 rw[HR.out]
 have H4:=HR.out
 unfold q4 at H4
 simp only at H4
 have h1:=Ci a b d hd 16 16 (by omega) w
 have l1:=rE (a:=a) (b:=b) (s:=16) hd
 generalize stA a b=a1 at *
 generalize NL a b d 16=d1 at *
 have h2:=Ci c d1 b hb 12 12 (by omega) w
 have l2:=rE (a:=c) (b:=d1) (s:=12) hb
 generalize stA c d1=c1 at *
 generalize NL c d1 b 12=b1 at *
 have h3:=Ci a1 b1 d1 l1 8 8 (by omega) w
 have l3:=rE (a:=a1) (b:=b1) (s:=8) l1
 generalize stA a1 b1=a2 at *
 generalize NL a1 b1 d1 8=d2 at *
 have h4:=Ci c1 d2 b1 l2 7 7 (by omega) w
 generalize stA c1 d2=c2 at *
 generalize NL c1 d2 b1 7=b2 at *
 replace H4:=aR H4
 clear HR l1 l2 l3
 go_enter func72,ntmps72
 go_wp2_with fail
 refine h1.mono ?_
 rintro e w1 ⟨rfl,rfl⟩
 go_wp2_with fail
 refine h2.mono ?_
 rintro e w1 ⟨rfl,rfl⟩
 go_wp2_with fail
 refine h3.mono ?_
 rintro e w1 ⟨rfl,rfl⟩
 go_wp2_with fail
 refine h4.mono ?_
 rintro e w1 ⟨rfl,rfl⟩
 go_wp2_with fail
 refine bodyPost_ret (v:=.tuple #[.int .u32 (a2:Int),.int .u32 (b2:Int),.int .u32 (c2:Int),.int .u32 (d2:Int)]) ?_ rfl ⟨?_,rfl⟩
 ·simp[results,results72]
 ·rw[←H4.out];rfl
theorem Bb (w:World):Calls prog 56 #[.int .i64 12] w λe w'=>e=.returned (.int .i64 0)/\w=w':=by
 go_enter func56,ntmps56
 go_wp2
 go_ret
 exact⟨rfl,rfl⟩
end
section
open Go.RowKit
theorem tF {xs:List Nat}{i n:Nat}(h:∀x∈xs,x<4294967296)(hn:n<4294967296):∀x∈xs.set i n,x<4294967296:=λx hx=>(List.mem_or_eq_of_mem_set hx).elim (h x) λe=>e▸hn
theorem QD {xs:List Nat}(h:∀x∈xs,x<4294967296)(i:Nat):xs.getD i 0<4294967296:=aC h (by decide) i
structure wu (w:World)(g:Nat)(vs:List Nat):Prop where
 len:vs.length=16
 wF:∀x∈vs,x<4294967296
 blk:aA w g 139 (ints .u32 vs)
theorem wu.drew {w:World}{g:Nat}{vs:List Nat}(h:wu w g vs):wu w.drew g vs:=⟨h.len,h.wF,h.blk⟩
theorem wu.set {w:World}{g:Nat}{vs:List Nat}(h:wu w g vs)(i:Nat){n:Nat}(hn:n<4294967296):wu (w.setCell ⟨g,i,none⟩ (.int .u32 (n:Int))) g (vs.set i n) :=
 ⟨by rw[List.length_set,h.len],tF h.wF hn,h.blk.dw i n⟩
theorem wu.at_ {w:World}{g:Nat}{vs:List Nat}(h:wu w g vs){i:Nat}(hi:i<16):vs.getD i 0<4294967296/\w.cell? ⟨g,i,none⟩=some (.int .u32 ((vs.getD i 0:Nat):Int)) :=
 ⟨QD h.wF i,h.blk.int (by rw[h.len];exact hi)⟩
theorem wu.cell {w:World}{g:Nat}{vs:List Nat}(h:wu w g vs){i:Nat}(hi:i<16):w.cell? ⟨g,i,none⟩=some (.int .u32 ((vs.getD i 0:Nat):Int)):=(h.at_ hi).2
theorem wu.frozen {w:World}{g:Nat}{vs:List Nat}(h:wu w g vs)(i:Nat):w.frozen? ⟨g,i,none⟩=false:=h.blk.frozen i
theorem wu.lt {w:World}{g:Nat}{vs:List Nat}(h:wu w g vs):g<w.heap.size:=h.blk.lt
theorem wu.below {w w':World}{g:Nat}{vs:List Nat}(h:wu w g vs)(hb:Below w.heap.size w w'):wu w' g vs:=⟨h.len,h.wF,h.blk.below' hb⟩
section
variable {P:Program}{a:Act}{o:Oper}{w:World}
theorem ql {T g i:Nat}{k:IntKind}{n:Int}{x:Operand}(ho:o.op=.load T x)(hx:a.eval x=.pointer (some ⟨g,i,none⟩))(hT:P.underlying T=some (.int k))(hc:w.cell? ⟨g,i,none⟩=some (.int k n)) :
  (execOp a.eval o).run P w=.ok (.value (.int k n)) w:=by
 unfold execOp
 simp only[ho,hx,Instr.loadAt,Instr.sureAddr,Sem.run_bind,Sem.run_pure,Result.andThen_ok]
 simp[loadVar,isAgg,run_underlying hT,hc,go_sem]
theorem fQ {T e j len g:Nat}{x y:Operand}(ho:o.op=.indexAddr T x y)(hx:a.eval x=.pointer (some ⟨g,0,none⟩))(hy:a.eval y=.int .i64 (j:Int))(hj:j<len)(hT:P.underlying T=some (.array len e))(hs:(P.info? e).map (·.size)=some 1) :
  (execOp a.eval o).run P w=.ok (.value (.pointer (some ⟨g,j,none⟩))) w:=by
 obtain⟨t,ht,h1⟩:=Option.map_eq_some_iff.1 hs
 have hb:(0:Int)<=(j:Int)/\(j:Int)<(len:Int):=by omega
 unfold execOp
 simp only[ho,hx,hy,Instr.indexAt,Instr.sureAddr,asIntOf,Sem.run_bind,Sem.run_pure,Result.andThen_ok,run_underlying hT]
 simp[hb,hj,sizeOf,typeInfo,ht,h1,Addr.add_mid,go_sem]
theorem kP {ops:Array Oper}{Q:Exit->Act->World->Prop}{K:Act->World->Prop}{j g i T:Nat}{k:IntKind}{m:Int}{x y:Operand}{u:Value}(hij:ops[j]?=some o)(hw:Region.wanted o (yielded ops a.tmps)=true)(ho:o.op=.store T x y)
  (hT:(P.info? T).map (·.size)=some 1) (hx:a.eval x=.pointer (some ⟨g,i,none⟩)) (hy:a.eval y=.int k m) (hc:w.cell? ⟨g,i,none⟩=some u) (hf:w.frozen? ⟨g,i,none⟩=false) (h:K (a.put o.dst undef) (w.setCell ⟨g,i,none⟩ (.int k m))):wpOp P ops Q j K a w:=by
 obtain⟨d,hd,h1⟩:=Option.map_eq_some_iff.1 hT
 have hr:(storeVar T ⟨g,i,none⟩ (.int k m)).run P w=.ok () (w.setCell ⟨g,i,none⟩ (.int k m)):=by
  simp[storeVar,sizeOf,typeInfo,hd,h1,Value.cells,storeCells,go_sem,hc,hf]
 unfold wpOp
 simp only[hij,hw,if_true]
 refine .inl ?_
 unfold Oper.wp execOp
 simp only[ho,hx,hy,Instr.storeAt,Instr.sureAddr,Sem.run_bind,Sem.run_pure,Result.andThen_ok,hr]
 exact h
end
theorem Tryz.iT:prog.underlying 139=some (.array 16 52):=by kernel_rfl
theorem aau (x:List Nat)(h:x.length=4):∃a b c d,x=[a,b,c,d]:=by
 match x,h with
 | [a,b,c,d],_=>exact⟨_,_,_,_,rfl⟩
theorem wD:(prog.info? 52).map (·.size)=some 1:=by kernel_rfl
def SC (w0 w:World)(g:Nat)(vs:List Nat):Prop:=wu w g vs/\Ch g w0 w
theorem SC.below {w0 w w':World}{g:Nat}{vs:List Nat}(h:SC w0 w g vs)(hb:Below w.heap.size w w'):SC w0 w' g vs:=⟨h.1.below hb,h.2.trans (Ch.of_below hb)⟩
theorem SC.set {w0 w:World}{g:Nat}{vs:List Nat}(h:SC w0 w g vs)(i:Nat){n:Nat}(hn:n<4294967296):SC w0 (w.setCell ⟨g,i,none⟩ (.int .u32 (n:Int))) g (vs.set i n):=⟨h.1.set i hn,h.2.trans (Ch.bX (iG.set w g i _))⟩
theorem SC.cell' {w0 w:World}{g:Nat}{vs:List Nat}(h:SC w0 w g vs){i v:Nat}(hi:i<16)(hv:vs.getD i 0=v):w.cell? ⟨g,i,none⟩=some (.int .u32 (v:Int)):=by rw[←hv];exact h.1.cell hi
def slQ (vs:List Nat)(i j k l:Nat):List Nat:=(((vs.set i ((q4 (vs.getD i 0) (vs.getD j 0) (vs.getD k 0) (vs.getD l 0)).getD 0 0)).set j ((q4 (vs.getD i 0) (vs.getD j 0) (vs.getD k 0) (vs.getD l 0)).getD 1 0)).set k ((q4 (vs.getD i 0) (vs.getD j 0) (vs.getD k 0) (vs.getD l 0)).getD 2 0)).set l ((q4 (vs.getD i 0) (vs.getD j 0) (vs.getD k 0) (vs.getD l 0)).getD 3 0)
def QV (vs:List Nat)(y:Nat):Nat->List Nat
 | 0=>vs
 | i+1=>slQ (QV vs y i) i (4+(i+y)%4) (8+(i+2*y)%4) (12+(i+3*y)%4)
theorem Au (g y:Nat)(hy:y<2)(w:World)(vs:List Nat)(hV:wu w g vs) :
  Calls prog 67 #[.pointer (some ⟨g,0,none⟩),.int .i64 (y:Int)] w λe w'=>e=.returned (.tuple #[])/\wu w' g (QV vs y 4)/\Ch g w w':=by
 obtain⟨y2,Zz⟩:=bD (2*y)
 obtain⟨y3,Zy⟩:=bD (3*y)
 have e2:2*(y:Int)=(y2:Int):=by rw[←Zz.out];omega
 have e3:3*(y:Int)=(y3:Int):=by rw[←Zy.out];omega
 have b2:(y2:Int)<8:=by rw[←Zz.out];omega
 have b3:(y3:Int)<8:=by rw[←Zy.out];omega
 go_enter func67,ntmps67
 go_wp2_with fail
 go_loopw [8] (λt wr=>∃i:Nat,i<=4/\t=.int .i64 (i:Int)/\wu wr g (QV vs y i)/\Ch g w wr) (λt wr=>4-(intOf t).toNat)
 case atStart=>exact⟨0,by omega,rfl,hV,Ch.refl g w⟩
 case round =>
  clear hV
  obtain⟨i,hi,rfl,hV,hch⟩:=hrel
  by_cases hlt:i<4
  ·have hd:decide ((i:Int)<4)=true:=by simp;omega
   obtain⟨p,Hp⟩:=bD ((i+y)%4)
   obtain⟨q,Hq⟩:=bD ((i+2*y)%4)
   obtain⟨r,Hr⟩:=bD ((i+3*y)%4)
   obtain⟨j,Hj⟩:=bD (4+p)
   obtain⟨k9,Hk⟩:=bD (8+q)
   obtain⟨l,Hl⟩:=bD (12+r)
   have t1:((i:Int)+(y:Int)).tmod 4=(p:Int):=by rw[Int.tmod_eq_emod_of_nonneg (by omega),←Hp.out];omega
   have t2:((i:Int)+(y2:Int)).tmod 4=(q:Int):=by rw[Int.tmod_eq_emod_of_nonneg (by omega),←Hq.out,←Zz.out];omega
   have t3:((i:Int)+(y3:Int)).tmod 4=(r:Int):=by rw[Int.tmod_eq_emod_of_nonneg (by omega),←Hr.out,←Zy.out];omega
   have ej:4+(p:Int)=(j:Int):=by rw[←Hj.out];omega
   have ek:8+(q:Int)=(k9:Int):=by rw[←Hk.out];omega
   have el:12+(r:Int)=(l:Int):=by rw[←Hl.out];omega
   have wI:i<16:=by omega
   have JU:j<16:=by rw[←Hj.out,←Hp.out];omega
   have fI:k9<16:=by rw[←Hk.out,←Hq.out];omega
   have JS:l<16:=by rw[←Hl.out,←Hr.out];omega
   have HS:Hid (QV vs y (i+1)=slQ (QV vs y i) i j k9 l):=aR (by rw[←Hj.out,←Hk.out,←Hl.out,←Hp.out,←Hq.out,←Hr.out];rfl)
   have hI:(i:Int)<16:=by omega
   have hJ:(j:Int)<16:=by omega
   have hK:(k9:Int)<16:=by omega
   have hL:(l:Int)<16:=by omega
   obtain⟨V,HV⟩:=bD (QV vs y i)
   rw[HV.out] at hV HS
   obtain⟨bi,ci⟩:=hV.at_ wI
   obtain⟨bj,cj⟩:=hV.at_ JU
   obtain⟨bk,ck⟩:=hV.at_ fI
   obtain⟨bl,cl⟩:=hV.at_ JS
   have hqc:=λW=>tN (Oe (V.getD i 0) (V.getD j 0) (V.getD k9 0) (V.getD l 0) bj bl W)
   have hq4:=adv (a:=V.getD i 0) (b:=V.getD j 0) (c:=V.getD k9 0) (d:=V.getD l 0) bj bl
   clear Hp Hq Hr
   go_wp2_with fail
   have HQ:Hid (slQ V i j k9 l=(((V.set i ((q4 (V.getD i 0) (V.getD j 0) (V.getD k9 0) (V.getD l 0)).getD 0 0)).set j ((q4 (V.getD i 0) (V.getD j 0) (V.getD k9 0) (V.getD l 0)).getD 1 0)).set k9 ((q4 (V.getD i 0) (V.getD j 0) (V.getD k9 0) (V.getD l 0)).getD 2 0)).set l ((q4 (V.getD i 0) (V.getD j 0) (V.getD k9 0) (V.getD l 0)).getD 3 0)):=aR rfl
   obtain⟨n0,n1,n2,n3,hn⟩:=aau _ (aaj (V.getD i 0) (V.getD j 0) (V.getD k9 0) (V.getD l 0))
   rw[hn] at HQ hq4
   simp only[hn] at hqc
   clear hn
   have l0:n0<4294967296:=hq4 n0 (by simp)
   have l1:n1<4294967296:=hq4 n1 (by simp)
   have l2:n2<4294967296:=hq4 n2 (by simp)
   have l3:n3<4294967296:=hq4 n3 (by simp)
   have HZ:Hid ((((V.set i n0).set j n1).set k9 n2).set l n3=QV vs y (i+1)):=aR (by rw[HS.out,HQ.out];rfl)
   clear HS HQ hq4 t1 t2 t3 ej ek el hI hJ hK hL
   obtain⟨v0,hv0⟩:∃x,Hid (V.getD i 0=x):=⟨_,aR rfl⟩
   obtain⟨v1,hv1⟩:∃x,Hid (V.getD j 0=x):=⟨_,aR rfl⟩
   obtain⟨v2,hv2⟩:∃x,Hid (V.getD k9 0=x):=⟨_,aR rfl⟩
   obtain⟨v3,hv3⟩:∃x,Hid (V.getD l 0=x):=⟨_,aR rfl⟩
   rw[hv0.out,hv1.out,hv2.out,hv3.out] at hqc
   have hgl:=hV.lt
   clear ci cj ck cl bi bj bk bl
   have aI:=oJ (S:=(λk _ W=>SC wr W g ([V,V.set i n0,(V.set i n0).set j n1,((V.set i n0).set j n1).set k9 n2,(((V.set i n0).set j n1).set k9 n2).set l n3].getD k []))) (λ_ _ _ _ h hb=>SC.below h hb)
   refine aS (n:=71) (T:=?_) [(29,.pointer (some ⟨g,0,none⟩)),(30,.int .i64 (i:Int)),(31,.pointer (some ⟨g,0,none⟩)),(32,.int .i64 (j:Int)),(33,.pointer (some ⟨g,0,none⟩)),(34,.int .i64 (k9:Int)),(35,.pointer (some ⟨g,0,none⟩)),(36,.int .i64 (l:Int)),(37,.pointer (some ⟨g,0,none⟩)),(38,.int .i64 (i:Int)),(39,.pointer (some ⟨g,0,none⟩)),(40,.pointer (some ⟨g,i,none⟩)),(41,.int .u32 (v0:Int)),(42,.pointer (some ⟨g,0,none⟩)),(43,.int .i64 (j:Int)),(44,.pointer (some ⟨g,0,none⟩)),(45,.pointer (some ⟨g,j,none⟩)),(46,.int .u32 (v1:Int)),(47,.pointer (some ⟨g,0,none⟩)),(48,.int .i64 (k9:Int)),(49,.pointer (some ⟨g,0,none⟩)),(50,.pointer (some ⟨g,k9,none⟩)),(51,.int .u32 (v2:Int)),(52,.pointer (some ⟨g,0,none⟩)),(53,.int .i64 (l:Int)),(54,.pointer (some ⟨g,0,none⟩)),(55,.pointer (some ⟨g,l,none⟩)),(56,.int .u32 (v3:Int)),(57,.tuple #[.int .u32 (n0:Int),.int .u32 (n1:Int),.int .u32 (n2:Int),.int .u32 (n3:Int)]),(28,.tuple #[.int .u32 (n0:Int),.int .u32 (n1:Int),.int .u32 (n2:Int),.int .u32 (n3:Int)]),(58,.int .u32 (n0:Int)),(59,.int .u32 (n1:Int)),(60,.int .u32 (n2:Int)),(61,.int .u32 (n3:Int)),(62,.pointer (some ⟨g,0,none⟩)),(63,.pointer (some ⟨g,i,none⟩)),(64,.pointer (some ⟨g,0,none⟩)),(65,.pointer (some ⟨g,j,none⟩)),(66,.pointer (some ⟨g,0,none⟩)),(67,.pointer (some ⟨g,k9,none⟩)),(68,.pointer (some ⟨g,0,none⟩)),(69,.pointer (some ⟨g,l,none⟩))] [] (λs W u=>True) (λ_ _=>True) [36,39,42,45] _ aI (by kernel_rfl) (by kernel_rfl) rfl (by kernel_rfl) (by kernel_rfl) (by kernel_rfl) (λs W W' v hR h=>trivial) ((⟨hV.drew,Ch.of_below ⟨rfl,rfl,rfl,Nat.le_refl _,λ_ _=>rfl⟩⟩:SC wr wr.drew g V)) ?_ ?_ ?_ ?_
   rotate_left
   ·intro e;simp only[tv,nn,Nat.reduceAdd];exact rfl
   ·exact λe=>rfl
   ·intro i o il k qB hst e W hS hla
    rcases i with _|_|_|_|_|_|_|_|_|_|_|_|_|_|_|_|_|_|_|_|_|_|_|_|_|_|_|_|_|_|_|_|_|_|_|_|_|_|_|_|_|_|_|_|_|_|i<;>try cases il
    ·exact kv 29 rfl rfl rfl rfl rfl rfl trivial hS
    ·exact kv 30 rfl rfl rfl rfl rfl rfl trivial hS
    ·exact kv 31 rfl rfl rfl rfl rfl rfl trivial hS
    ·exact kv 32 rfl rfl rfl rfl rfl rfl trivial hS
    ·exact kv 33 rfl rfl rfl rfl rfl rfl trivial hS
    ·exact kv 34 rfl rfl rfl rfl rfl rfl trivial hS
    ·exact kv 35 rfl rfl rfl rfl rfl rfl trivial hS
    ·exact kv 36 rfl rfl rfl rfl rfl rfl trivial hS
    ·exact kv 37 rfl rfl rfl rfl rfl rfl trivial hS
    ·exact kv 38 rfl rfl rfl rfl rfl rfl trivial hS
    ·exact kv 39 rfl rfl (by kernel_rfl) rfl rfl rfl trivial hS
    ·exact kv 40 rfl rfl (fQ rfl rfl rfl wI iT wD) rfl rfl rfl trivial hS
    ·obtain rfl:k=0:=Nat.le_zero.1 (aQ hst 0 36 rfl (by kernel_rfl))
     exact kv 41 rfl rfl (ql rfl rfl underlying52 (SC.cell' (show SC wr W g V from hS) wI hv0.out)) rfl rfl rfl trivial hS
    ·exact kv 42 rfl rfl rfl rfl rfl rfl trivial hS
    ·exact kv 43 rfl rfl rfl rfl rfl rfl trivial hS
    ·exact kv 44 rfl rfl (by kernel_rfl) rfl rfl rfl trivial hS
    ·exact kv 45 rfl rfl (fQ rfl rfl rfl JU iT wD) rfl rfl rfl trivial hS
    ·obtain rfl:k=0:=Nat.le_zero.1 (aQ hst 0 36 rfl (by kernel_rfl))
     exact kv 46 rfl rfl (ql rfl rfl underlying52 (SC.cell' (show SC wr W g V from hS) JU hv1.out)) rfl rfl rfl trivial hS
    ·exact kv 47 rfl rfl rfl rfl rfl rfl trivial hS
    ·exact kv 48 rfl rfl rfl rfl rfl rfl trivial hS
    ·exact kv 49 rfl rfl (by kernel_rfl) rfl rfl rfl trivial hS
    ·exact kv 50 rfl rfl (fQ rfl rfl rfl fI iT wD) rfl rfl rfl trivial hS
    ·obtain rfl:k=0:=Nat.le_zero.1 (aQ hst 0 36 rfl (by kernel_rfl))
     exact kv 51 rfl rfl (ql rfl rfl underlying52 (SC.cell' (show SC wr W g V from hS) fI hv2.out)) rfl rfl rfl trivial hS
    ·exact kv 52 rfl rfl rfl rfl rfl rfl trivial hS
    ·exact kv 53 rfl rfl rfl rfl rfl rfl trivial hS
    ·exact kv 54 rfl rfl (by kernel_rfl) rfl rfl rfl trivial hS
    ·exact kv 55 rfl rfl (fQ rfl rfl rfl JS iT wD) rfl rfl rfl trivial hS
    ·obtain rfl:k=0:=Nat.le_zero.1 (aQ hst 0 36 rfl (by kernel_rfl))
     exact kv 56 rfl rfl (ql rfl rfl underlying52 (SC.cell' (show SC wr W g V from hS) JS hv3.out)) rfl rfl rfl trivial hS
    ·exact kc 57 72 rfl rfl rfl func72 (hqc W) rfl rfl rfl (λ_ hW'=>trivial) λ_ hW'=>aI k e _ _ hS hW'
    ·exact kv 28 rfl rfl rfl rfl rfl rfl trivial hS
    ·exact kv 58 rfl rfl (by kernel_rfl) rfl rfl rfl trivial hS
    ·exact kv 59 rfl rfl (by kernel_rfl) rfl rfl rfl trivial hS
    ·exact kv 60 rfl rfl (by kernel_rfl) rfl rfl rfl trivial hS
    ·exact kv 61 rfl rfl (by kernel_rfl) rfl rfl rfl trivial hS
    ·exact kv 62 rfl rfl (by kernel_rfl) rfl rfl rfl trivial hS
    ·exact kv 63 rfl rfl (fQ rfl rfl rfl wI iT wD) rfl rfl rfl trivial hS
    ·obtain rfl:k=0:=Nat.le_zero.1 (aQ hst 0 36 rfl (by kernel_rfl))
     have h9:SC wr W g (V):=hS;refine kP rfl rfl rfl wD rfl rfl (h9.1.cell wI) (h9.1.frozen i) ?_
     exact KL.none rfl (trivial) (h9.set i l0)
    ·exact kv 64 rfl rfl (by kernel_rfl) rfl rfl rfl trivial hS
    ·exact kv 65 rfl rfl (fQ rfl rfl rfl JU iT wD) rfl rfl rfl trivial hS
    ·obtain rfl:k=1:=Nat.le_antisymm (aQ hst 1 39 rfl (by kernel_rfl)) (gG hst 0 36 rfl (by kernel_rfl))
     have h9:SC wr W g (V.set i n0):=hS;refine kP rfl rfl rfl wD rfl rfl (h9.1.cell JU) (h9.1.frozen j) ?_
     exact KL.none rfl (trivial) (h9.set j l1)
    ·exact kv 66 rfl rfl (by kernel_rfl) rfl rfl rfl trivial hS
    ·exact kv 67 rfl rfl (fQ rfl rfl rfl fI iT wD) rfl rfl rfl trivial hS
    ·obtain rfl:k=2:=Nat.le_antisymm (aQ hst 2 42 rfl (by kernel_rfl)) (gG hst 1 39 rfl (by kernel_rfl))
     have h9:SC wr W g ((V.set i n0).set j n1):=hS;refine kP rfl rfl rfl wD rfl rfl (h9.1.cell fI) (h9.1.frozen k9) ?_
     exact KL.none rfl (trivial) (h9.set k9 l2)
    ·exact kv 68 rfl rfl (by kernel_rfl) rfl rfl rfl trivial hS
    ·exact kv 69 rfl rfl (fQ rfl rfl rfl JS iT wD) rfl rfl rfl trivial hS
    ·obtain rfl:k=3:=Nat.le_antisymm (aQ hst 3 45 rfl (by kernel_rfl)) (gG hst 2 42 rfl (by kernel_rfl))
     have h9:SC wr W g (((V.set i n0).set j n1).set k9 n2):=hS;refine kP rfl rfl rfl wD rfl rfl (h9.1.cell JS) (h9.1.frozen l) ?_
     exact KL.none rfl (trivial) (h9.set l l3)
   ·intro e W hS hla
    clear hla aI
    have hS4:SC wr W g ((((V.set i n0).set j n1).set k9 n2).set l n3):=hS
    rw[HZ.out] at hS4
    clear hS
    go_wp2_with fail
    exact⟨⟨i+1,by omega,by go_num,hS4.1,hch.trans hS4.2⟩,by simp[intOf]<;>omega⟩
  ·have ei:i=4:=by omega
   have hd:decide ((i:Int)<4)=false:=by simp;omega
   rw[ei] at hV
   clear ei
   go_wp2_with fail
   exact bodyPost_end (v:=.tuple #[]) (by simp[results,results67]) rfl ⟨rfl,hV,hch⟩
end
section
open Go.RowKit
def ib:List Nat:=[101,120,112,97,110,100,32,51,50,45,98,121,116,101,32,107]
theorem ru:∀x∈ib,x<256:=by decide
theorem kW {bs:List Nat}(hb:∀x∈bs,x<256)(p:Nat):aT bs p 4<4294967296:=Nat.lt_of_lt_of_eq (eG hb p 4) (by decide)
def zM (key fG:List Nat):Nat->List Nat
 | 0=>zeros 16
 | i+1=>((((zM key fG i).set i (aT ib (4*i) 4)).set (4+i) (aT key (4*i) 4)).set (8+i) (aT key (4*i+16) 4)).set (12+i) (aT fG (4*i) 4)
theorem bs5 (W:World):(Instr.buildSlice 23 16 #[(0,.int .u8 101),(1,.int .u8 120),(2,.int .u8 112),(3,.int .u8 97),(4,.int .u8 110),(5,.int .u8 100),(6,.int .u8 32),(7,.int .u8 51),(8,.int .u8 50),(9,.int .u8 45),(10,.int .u8 98),(11,.int .u8 121),(12,.int .u8 116),(13,.int .u8 101),(14,.int .u8 32),(15,.int .u8 107)]).run prog W=.ok (.slice (some ⟨W.heap.size,0,none⟩) 16 16) (W.alloc (.cells (ints .u8 ib) 5)):=by kernel_rfl
theorem VV {o:Oper}{a:Act}{w:World}(ho:o.op=.buildSlice 23 16 #[(0,.const (.int .u8 101)),(1,.const (.int .u8 120)),(2,.const (.int .u8 112)),(3,.const (.int .u8 97)),(4,.const (.int .u8 110)),(5,.const (.int .u8 100)),(6,.const (.int .u8 32)),(7,.const (.int .u8 51)),(8,.const (.int .u8 50)),(9,.const (.int .u8 45)),(10,.const (.int .u8 98)),(11,.const (.int .u8 121)),(12,.const (.int .u8 116)),(13,.const (.int .u8 101)),(14,.const (.int .u8 32)),(15,.const (.int .u8 107))]):(execOp a.eval o).run prog w=.ok (.value (.slice (some ⟨w.heap.size,0,none⟩) 16 16)) (w.alloc (.cells (ints .u8 ib) 5)) :=
 oN ho (by simp[Act.eval]) (bs5 w)
theorem aab (w:World)(e:Nat)(xs:List Nat)(fr:Nat×Nat):Sl (w.alloc (.cells (ints .u8 xs) e fr)) (some ⟨w.heap.size,0,none⟩) .u8 xs:=λ_ =>
 ⟨w.heap.size,0,rfl,by simp,λi hi=>by
  have h1:(w.alloc (.cells (ints .u8 xs) e fr)).heap[w.heap.size]?=some (.cells (ints .u8 xs) e fr):=by
   show (w.heap.push _)[w.heap.size]?=_
   simp
  unfold World.cell?
  simp only[h1,Nat.zero_add,iC,getD_lt hi,Option.map_some]
  rfl⟩
structure Zx (w wr:World)(key fG vs:List Nat):Prop where
 k:aA wr w.heap.size 85 (ints .u8 key)
 i:aA wr (w.heap.size+1) 96 (ints .u8 fG)
 z:aA wr (w.heap.size+2) 139 (ints .u32 (zeros 16))
 v:wu wr (w.heap.size+3) vs
 je:Below w.heap.size w wr
theorem Zx.below {w w' w'':World}{key fG vs:List Nat}(h:Zx w w' key fG vs)(hb:Below w'.heap.size w' w''):Zx w w'' key fG vs :=
 ⟨h.k.below' hb,h.i.below' hb,h.z.below' hb,h.v.below hb,dx h.je hb h.je.size⟩
theorem Zx.wE {w w':World}{key fG vs:List Nat}(h:Zx w w' key fG vs)(i:Nat){n:Nat}(hn:n<4294967296):Zx w (w'.setCell ⟨w.heap.size+3,i,none⟩ (.int .u32 (n:Int))) key fG (vs.set i n) :=
 ⟨h.k.far (show w.heap.size≠w.heap.size+3 by omega) _,h.i.far (show w.heap.size+1≠w.heap.size+3 by omega) _,h.z.far (show w.heap.size+2≠w.heap.size+3 by omega) _,h.v.set i hn,h.je.setCell (p:=⟨w.heap.size+3,i,none⟩) (by show w.heap.size<=w.heap.size+3;omega) _⟩
theorem st5A (w:World)(key fG:List Nat):Zx w ((((w.alloc (.cells (ints .u8 key) 85)).alloc (.cells (ints .u8 fG) 96)).alloc (.cells (ints .u32 (zeros 16)) 139)).alloc (.cells (ints .u32 (zeros 16)) 139)) key fG (zeros 16):=by
 refine⟨?_,?_,?_,⟨aH _,dh 16 (by decide),?_⟩,?_⟩
 ·exact(((aA.new _ _ _).alloc _).alloc _).alloc _
 ·exact((aA.new' (by simp)).alloc _).alloc _
 ·exact(aA.new' (by simp)).alloc _
 ·exact aA.new' (by simp)
 ·exact(((bN _ _).alloc (by simp) _).alloc (by simp;omega) _).alloc (by simp;omega) _
theorem Tryz.z5:IsZero prog 139 16 .u32:=isZero (by kernel_rfl)
theorem Tryz.Vm:dG prog 139 16:=jH iT (by kernel_rfl)
theorem Ld (key fG:List Nat)(hk:key.length=32)(hkb:∀x∈key,x<256)(hi:fG.length=16)(hib:∀x∈fG,x<256)(w:World) :
  Calls prog 57 #[.agg (ints .u8 key),.agg (ints .u8 fG)] w λe w'=>e=.returned (.agg (ints .u32 (zM key fG 4)))/\Below w.heap.size w w':=by
 have C0:=st5A w key fG
 obtain⟨Z,HZ⟩:=bD (zM key fG 4)
 rw[HZ.out]
 go_enter func57,ntmps57
 go_wp2_with (refine ae rfl 139 rfl z5 ?_;(try simp only[nn,Nat.reduceAdd]))
 generalize ((((w.alloc (.cells (ints .u8 key) 85)).alloc (.cells (ints .u8 fG) 96)).alloc (.cells (ints .u32 (zeros 16)) 139)).alloc (.cells (ints .u32 (zeros 16)) 139))=w0 at *
 go_loopw [7] (λt wr=>∃i:Nat,i<=4/\t=.int .i64 (i:Int)/\Zx w wr key fG (zM key fG i)) (λt wr=>4-(intOf t).toNat)
 case atStart=>exact⟨0,by omega,rfl,C0⟩
 case round =>
  clear C0
  obtain⟨i,hi4,rfl,C⟩:=hrel
  by_cases hlt:i<4
  ·have hd:decide ((i:Int)<4)=true:=by simp;omega
   obtain⟨p,Hp⟩:=bD (4*i)
   have hp:4*(i:Int)=(p:Int):=by rw[←Hp.out];omega
   obtain⟨q,Hq⟩:=bD (p+16)
   have hq:(p:Int)+16=(q:Int):=by rw[←Hq.out];omega
   obtain⟨j,Hj⟩:=bD (4+i)
   have hj:4+(i:Int)=(j:Int):=by rw[←Hj.out];omega
   obtain⟨k,Hk⟩:=bD (8+i)
   have hk8:8+(i:Int)=(k:Int):=by rw[←Hk.out];omega
   obtain⟨l,Hl⟩:=bD (12+i)
   have hl12:12+(i:Int)=(l:Int):=by rw[←Hl.out];omega
   have hI:(i:Int)<16:=by omega
   have hJ:(j:Int)<16:=by rw[←Hj.out];omega
   have hK:(k:Int)<16:=by rw[←Hk.out];omega
   have hL:(l:Int)<16:=by rw[←Hl.out];omega
   have wI:i<16:=by omega
   have JU:j<16:=by omega
   have fI:k<16:=by omega
   have JS:l<16:=by omega
   have aaN:p<2^62:=by rw[←Hp.out];omega
   have hq62:q<2^62:=by rw[←Hq.out];omega
   have HS:Hid (((((zM key fG i).set i (aT ib p 4)).set j (aT key p 4)).set k (aT key q 4)).set l (aT fG p 4)=zM key fG (i+1)):=aR (by rw[←Hj.out,←Hk.out,←Hl.out,←Hq.out,←Hp.out];rfl)
   clear Hp Hq Hj Hk Hl
   generalize zM key fG i=V at *
   have X:=aab wr 5 ib ((ints .u8 ib).size,(ints .u8 ib).size+1)
   have kc:=λ(w:World) (C:Array Value) (n c:Nat)=>Lib.run_convert_bytes_const (P:=prog) w 23 5 C n c underlying23 underlying5
   have hbx:=bN wr (.cells (ints .u8 ib) 5 ((ints .u8 ib).size,(ints .u8 ib).size+1))
   go_wp2_with (refine fP rfl (VV rfl) ?_;(try simp only[nn,Nat.reduceAdd]))
   refine(ry (some ⟨wr.heap.size,0,none⟩) 16 ib ru (by decide) p aaN _ X).mono ?_
   clear X kc
   rintro e w1 ⟨rfl,hb1⟩
   have D:=C.below (bC hbx hb1)
   have n0:=kW ru p
   generalize aT ib p 4=v0 at *
   have c1:=(D.v.at_ wI).2
   have z1:=D.v.frozen i
   have hg1:=D.v.lt
   generalize V.getD i 0=mv at *
   have E:=D.wE i n0
   clear C hbx hb1 n0
   have hwk:=λW (h:Sl W (some ⟨w.heap.size,0,none⟩) .u8 key)=>ry (some ⟨w.heap.size,0,none⟩) 32 key hkb (by rw[hk];decide) p aaN W h
   rw[hk] at hwk
   go_wp2_with fail
   refine(hwk _ (Sl.blk E.k)).mono ?_
   clear hwk D c1 z1 hg1
   rintro e w2 ⟨rfl,hb2⟩
   have D:=E.below hb2
   have n1:=kW hkb p
   generalize aT key p 4=v1 at *
   obtain⟨mv1,ZB⟩:∃x,Hid ((V.set i v0).getD j 0=x):=⟨_,aR rfl⟩
   have c1:=(D.v.at_ JU).2
   rw[ZB.out] at c1
   clear ZB
   have z1:=D.v.frozen j
   have hg1:=D.v.lt
   have F:=D.wE j n1
   clear E hb2 n1
   have hwk:=λW (h:Sl W (some ⟨w.heap.size,0,none⟩) .u8 key)=>ry (some ⟨w.heap.size,0,none⟩) 32 key hkb (by rw[hk];decide) q hq62 W h
   rw[hk] at hwk
   go_wp2_with fail
   refine(hwk _ (Sl.blk F.k)).mono ?_
   clear hwk D c1 z1 hg1
   rintro e w3 ⟨rfl,hb3⟩
   have D:=F.below hb3
   have n2:=kW hkb q
   generalize aT key q 4=v2 at *
   obtain⟨mv2,ZB⟩:∃x,Hid (((V.set i v0).set j v1).getD k 0=x):=⟨_,aR rfl⟩
   have c1:=(D.v.at_ fI).2
   rw[ZB.out] at c1
   clear ZB
   have z1:=D.v.frozen k
   have hg1:=D.v.lt
   have E:=D.wE k n2
   clear F hb3 n2
   have hwk:=λW (h:Sl W (some ⟨w.heap.size+1,0,none⟩) .u8 fG)=>ry (some ⟨w.heap.size+1,0,none⟩) 16 fG hib (by rw[hi];decide) p aaN W h
   rw[hi] at hwk
   go_wp2_with fail
   refine(hwk _ (Sl.blk E.i)).mono ?_
   clear hwk D c1 z1 hg1
   rintro e w4 ⟨rfl,hb4⟩
   have D:=E.below hb4
   have n3:=kW hib p
   generalize aT fG p 4=v3 at *
   obtain⟨mv3,ZB⟩:∃x,Hid ((((V.set i v0).set j v1).set k v2).getD l 0=x):=⟨_,aR rfl⟩
   have c1:=(D.v.at_ JS).2
   rw[ZB.out] at c1
   clear ZB
   have z1:=D.v.frozen l
   have hg1:=D.v.lt
   have F:=D.wE l n3
   rw[HS.out] at F
   clear E hb4 n3
   go_wp2_with fail
   exact⟨⟨i+1,by omega,by go_num,F⟩,by simp[intOf]<;>omega⟩
  ·obtain rfl:i=4:=by omega
   have hd:decide (((4:Nat):Int)<4)=false:=by simp
   rw[HZ.out] at C
   clear HZ
   have hln:=C.v.len
   go_wp2_with ((first|(refine ag rfl 139 _ rfl _ rfl C.v.blk Vm hln ?_)|(refine aa rfl 139 _ _ rfl _ rfl rfl C.z (ah _ _) Vm hln ?_));(try simp only[nn,Nat.reduceAdd]))
   exact aO rfl rfl (C.z.row _) Vm hln ⟨rfl,az C.je (by omega) _⟩
theorem Cj (key fG:List Nat):∀i,(zM key fG i).length=16
 | 0=>rfl
 | i+1=>by unfold zM;simp only[List.length_set];exact Cj key fG i
theorem IY {key fG:List Nat}(hk:∀x∈key,x<256)(hi:∀x∈fG,x<256):∀i,∀x∈zM key fG i,x<4294967296
 | 0=>dh 16 (by decide)
 | i+1=>by unfold zM;exact tF (tF (tF (tF (IY hk hi i) (kW ru _)) (kW hk _)) (kW hk _)) (kW hi _)
def Fu (vs:List Nat):Nat->List Nat
 | 0=>vs
 | i+1=>QV (QV (Fu vs i) 0 4) 1 4
theorem LM (vs:List Nat)(hl:vs.length=16)(hb:∀x∈vs,x<4294967296)(w:World) :
  Calls prog 58 #[.agg (ints .u32 vs),.int .i64 12] w λe w'=>e=.returned (.agg (ints .u32 (Fu vs 6)))/\(Fu vs 6).length=16/\(∀x∈Fu vs 6,x<4294967296)/\Below w.heap.size w w':=by
 have A0:=(aA.new w 139 (ints .u32 vs)).alloc (.cells (ints .u32 (zeros 16)) 139)
 have A1:=aA.new (w.alloc (.cells (ints .u32 vs) 139)) 139 (ints .u32 (zeros 16))
 rw[World.size_alloc] at A1
 have hbel:=(bN w (.cells (ints .u32 vs) 139)).alloc (by simp) (.cells (ints .u32 (zeros 16)) 139)
 have S0:wu ((w.alloc (.cells (ints .u32 vs) 139)).alloc (.cells (ints .u32 (zeros 16)) 139)) w.heap.size vs:=⟨hl,hb,A0⟩
 clear A0
 obtain⟨Z,HZ⟩:=bD (Fu vs 6)
 rw[HZ.out]
 have hq:(12:Int).tdiv 2=6:=by decide
 go_enter func58,ntmps58
 go_wp2_with (refine ae rfl 139 rfl z5 ?_;(try simp only[nn,Nat.reduceAdd]))
 generalize ((w.alloc (.cells (ints .u32 vs) 139)).alloc (.cells (ints .u32 (zeros 16)) 139))=w0 at *
 go_loopw [7] (λt wr=>∃i:Nat,i<=6/\t=.int .i64 (i:Int)/\wu wr w.heap.size (Fu vs i)/\aA wr (w.heap.size+1) 139 (ints .u32 (zeros 16))/\Below w.heap.size w wr) (λt wr=>6-(intOf t).toNat)
 case atStart=>exact⟨0,by omega,rfl,S0,A1,hbel⟩
 case round =>
  clear S0 A1 hbel
  obtain⟨i,hi6,rfl,S,A,hbel⟩:=hrel
  by_cases hlt:i<6
  ·have hd:decide ((i:Int)<6)=true:=by simp;omega
   have HS:Hid (QV (QV (Fu vs i) 0 4) 1 4=Fu vs (i+1)):=aR rfl
   generalize Fu vs i=V at *
   go_wp2_with fail
   refine(Au w.heap.size 0 (by omega) wr V S).mono ?_
   rintro e w1 ⟨rfl,S1,h1⟩
   have A1:=h1.blk A (by omega)
   have aK:=h1.below hbel dM hbel.size
   go_wp2_with fail
   refine(Au w.heap.size 1 (by omega) w1 _ S1).mono ?_
   rintro e w2 ⟨rfl,S2,h2⟩
   have A2:=h2.blk A1 (by omega)
   have aB:=h2.below aK dM aK.size
   rw[HS.out] at S2
   go_wp2_with fail
   exact⟨⟨i+1,by omega,by go_num,S2,A2,aB⟩,by simp[intOf]<;>omega⟩
  ·obtain rfl:i=6:=by omega
   have hd:decide (((6:Nat):Int)<6)=false:=by simp
   rw[HZ.out] at S
   clear HZ
   have hln:=S.len
   have hlt32:=S.wF
   go_wp2_with ((first|(refine ag rfl 139 _ rfl _ rfl S.blk Vm hln ?_)|(refine aa rfl 139 _ _ rfl _ rfl rfl A (ah _ _) Vm hln ?_));(try simp only[nn,Nat.reduceAdd]))
   exact aO rfl rfl (A.row _) Vm hln ⟨rfl,hln,hlt32,az hbel (by omega) _⟩
end
end Go.Proofs.YtaiffkajkbiidaaGreatDoor
