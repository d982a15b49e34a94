/- What this claim leans on, part 14: laws of the model, and what functions of the program compute. No condition but what each law states. -/
import Derived.Deep.CutBlock
import Derived.Test.YtaiffkajkbiidaaGreatDoorQ13
namespace Go.Proofs.YtaiffkajkbiidaaGreatDoor
set_option linter.unusedSimpArgs false
set_option linter.unusedVariables false
set_option linter.unusedSectionVars false
set_option maxRecDepth 100000
set_option maxHeartbeats 40000000
open Go.Proofs.Tryz
open Tryz
section
open Go.RowKit
def Vb (key:List Nat):Nat->List Nat
 | 0=>[]
 | i+1=>Vb key i++cZ 256 4 (aT key (4*i) 4)
theorem KP (key:List Nat):∀i,(Vb key i).length=4*i
 | 0=>rfl
 | i+1=>by unfold Vb;rw[List.length_append,KP key i,bn];omega
theorem Qu (key:List Nat):∀i,∀x∈Vb key i,x<256
 | 0=>λx hx=>by cases hx
 | i+1=>λx hx=>by
  unfold Vb at hx
  rcases List.mem_append.1 hx with h|h
  ·exact Qu key i x h
  ·exact dU (by decide) _ _ x h
def KR (W:List Nat)(i:Nat):List Nat:=(W.drop (4*i)).take 4
theorem KQ {W:List Nat}{i m:Nat}(hl:W.length=m*4)(hi:i<m):(KR W i).length=4:=by
 unfold KR;rw[List.length_take,List.length_drop];omega
theorem BQ {W:List Nat}(hb:∀x∈W,x<256)(i:Nat):∀x∈KR W i,x<256:=λx hx=>hb x (List.mem_of_mem_drop (List.mem_of_mem_take hx))
def Jg (L x:List Nat)(p:Nat):List Nat:=(pV L [x.getD 1 0,x.getD 2 0,x.getD 3 0,x.getD 0 0]).set 0 ((pV L [x.getD 1 0,x.getD 2 0,x.getD 3 0,x.getD 0 0]).getD 0 0^^^p)
def rR (L:List Nat)(n m:Nat)(x:List Nat)(p:Nat):List Nat:=if m%n=0 then Jg L x p else if n=8/\m%n=4 then pV L x else x
def YO (n m p:Nat):Nat:=if m%n=0 then Vk p else p
def KJ (L:List Nat)(n:Nat)(key:List Nat):Nat->List Nat×Nat
 | 0=>(Vb key n,1)
 | j+1=>let s:=KJ L n key j;(s.1++xn (KR s.1 j) (rR L n (n+j) (KR s.1 (n+j-1)) s.2),YO n (n+j) s.2)
theorem wM (L:List Nat)(n:Nat)(key:List Nat):∀j,(KJ L n key j).1.length=(n+j)*4
 | 0=>by unfold KJ;rw[KP];omega
 | j+1=>by unfold KJ;simp only;rw[List.length_append,wM L n key j,xm];omega
theorem aao {n m p:Nat}(hp:p<256):YO n m p<256:=by
 unfold YO;split
 ·exact yB p hp
 ·exact hp
theorem ET (L x:List Nat)(p:Nat):(Jg L x p).length=4:=by unfold Jg;rw[List.length_set,pU]
theorem VX {L:List Nat}(hL:∀x∈L,x<256)(x:List Nat){p:Nat}(hp:p<256):∀y∈Jg L x p,y<256:=by
 unfold Jg
 exact oL (wX hL _) (Nat.xor_lt_two_pow (n:=8) (aC (wX hL _) (by decide) 0) hp)
theorem RN (L:List Nat)(n m:Nat){x:List Nat}(hx:x.length=4)(p:Nat):(rR L n m x p).length=4:=by
 unfold rR;split
 ·exact ET _ _ _
 ·split
  ·exact pU _ _
  ·exact hx
theorem LZ {L:List Nat}(hL:∀x∈L,x<256)(n m:Nat){x:List Nat}(hx:∀y∈x,y<256){p:Nat}(hp:p<256):∀y∈rR L n m x p,y<256:=by
 unfold rR;split
 ·exact VX hL x hp
 ·split
  ·exact wX hL x
  ·exact hx
theorem Ip {L:List Nat}(hL:∀x∈L,x<256)(n:Nat)(key:List Nat):∀j,(∀x∈(KJ L n key j).1,x<256)/\(KJ L n key j).2<256
 | 0=>⟨Qu key n,(by decide:1<256)⟩
 | j+1=>by
  obtain⟨h1,h2⟩:=Ip hL n key j
  unfold KJ
  simp only
  refine⟨λx hx=>?_,aao h2⟩
  rcases List.mem_append.1 hx with h|h
  ·exact h1 x h
  ·exact Vs (BQ h1 _) (LZ hL _ _ (BQ h1 _) h2) x h
def Ad (L key:List Nat):List Nat:=(KJ L (key.length/4) key (3*(key.length/4)+28)).1
def jC (L key:List Nat):List (List Nat):=(List.range (key.length/4+7)).map λi=>((Ad L key).drop (16*i)).take 16
theorem jR (L key:List Nat):(jC L key).length=key.length/4+7:=by simp[jC]
theorem Sn:(prog.info? 116).map (λi=>(i.zero,i.size,i.bytes))=some (some (.agg (ints .u8 (zeros 4))),4,4):=by kernel_rfl
theorem YU:(prog.info? 96).map (λi=>(i.zero,i.size,i.bytes))=some (some (.agg (ints .u8 (zeros 16))),16,16):=by kernel_rfl
theorem ZE:(Value.agg (ints .u8 (zeros 4))).cells.size=4:=by rfl
theorem acZ:(Value.agg (ints .u8 (zeros 16))).cells.size=16:=by rfl
theorem adH (k:List Nat)(h:k.length=4):∃x0 x1 x2 x3,k=[x0,x1,x2,x3]:=by
 match k,h with
 | [x0,x1,x2,x3],_=>exact⟨_,_,_,_,rfl⟩
theorem bsW (zs:List Nat)(h:zs.length=4)(W:World):(Instr.buildSlice 115 1 #[(0,.agg (ints .u8 zs))]).run prog W=.ok (.slice (some ⟨W.heap.size,0,none⟩) 1 1) (W.alloc (.cells (ints .u8 zs) 116)):=by
 obtain⟨x0,x1,x2,x3,rfl⟩:=adH zs h
 kernel_rfl
theorem QY {P:Program}{o:Oper}{a:Act}{w:World}{T T':TypeId}{x y:Operand}{m n j:Int}(ho:o.op=.binOp .sub T x y T')(hx:a.eval x=.int .i64 m)(hy:a.eval y=.int .i64 n)(h:m-n=j)(hj:-9223372036854775808<=j/\j<9223372036854775808) :
  (execOp a.eval o).run P w=.ok (.value (.int .i64 j)) w:=by
 have hg:(eqGuard .sub T x y (.int .i64 m) (.int .i64 n)).run P w=.ok () w:=by simp[eqGuard,Sem.run_bind]
 have hw:IntKind.i64.wrap j=j:=IntWalk.i64_in _ (by omega)
 unfold execOp
 simp only[ho,hx,hy,Sem.run_bind,Sem.run_pure,Result.andThen_ok,hg]
 simp[binOp,go_sem,h,hw]
theorem EM {P:Program}{o:Oper}{a:Act}{w:World}{T T':TypeId}{x y:Operand}{m n j:Int}(ho:o.op=.binOp .mul T x y T')(hx:a.eval x=.int .i64 m)(hy:a.eval y=.int .i64 n)(h:m*n=j)(hj:-9223372036854775808<=j/\j<9223372036854775808) :
  (execOp a.eval o).run P w=.ok (.value (.int .i64 j)) w:=by
 have hg:(eqGuard .mul T x y (.int .i64 m) (.int .i64 n)).run P w=.ok () w:=by simp[eqGuard,Sem.run_bind]
 have hw:IntKind.i64.wrap j=j:=IntWalk.i64_in _ (by omega)
 unfold execOp
 simp only[ho,hx,hy,Sem.run_bind,Sem.run_pure,Result.andThen_ok,hg]
 simp[binOp,go_sem,h,hw]
theorem xK {P:Program}{o:Oper}{a:Act}{w:World}{T T':TypeId}{x y:Operand}{m n j:Int}(ho:o.op=.binOp .add T x y T')(hx:a.eval x=.int .i64 m)(hy:a.eval y=.int .i64 n)(h:m+n=j)(hj:-9223372036854775808<=j/\j<9223372036854775808) :
  (execOp a.eval o).run P w=.ok (.value (.int .i64 j)) w:=by
 have hg:(eqGuard .add T x y (.int .i64 m) (.int .i64 n)).run P w=.ok () w:=by simp[eqGuard,Sem.run_bind]
 have hw:IntKind.i64.wrap j=j:=IntWalk.i64_in _ (by omega)
 unfold execOp
 simp only[ho,hx,hy,Sem.run_bind,Sem.run_pure,Result.andThen_ok,hg]
 simp[binOp,go_sem,h,hw]
theorem tH {P:Program}{o:Oper}{a:Act}{w:World}{T e s b:TypeId}{z0:Value}{x y z:Operand}{g off len cap lo hi d:Nat}(hT:P.underlying T=some (.slice e))(hs:(P.info? e).map (λi=>(i.zero,i.size,i.bytes))=some (some z0,s,b))(ho:o.op=.slice T x (some y) (some z) none)
  (hx:a.eval x=.slice (some ⟨g,off,none⟩) len cap) (hy:a.eval y=.int .i64 (lo:Int)) (hz:a.eval z=.int .i64 (hi:Int)) (h1:lo<=hi) (h2:hi<=cap) (h3:lo<cap) (hd:hi-lo=d) :
  (execOp a.eval o).run P w=.ok (.value (.slice (some ⟨g,off+lo*s,none⟩) d (cap-lo))) w:=by
 obtain⟨i,hi1,-,hi2,-⟩:=info_parts hs
 have he:=jQ hT
 have hT':P.underlying T=some (.slice (P.elem T)):=by rw[he];exact hT
 have hr:=run_slice_lh (P:=P) (w:=w) T (some ⟨g,off,none⟩) len cap hT' .i64 .i64 lo hi (by omega) (by omega) (by omega)
 have hsz:(sizeOf (P.elem T)).run P w=.ok s w:=by simp[sizeOf,typeInfo,he,hi1,hi2]
 rw[hsz] at hr
 have hne:¬cap=lo:=by omega
 unfold execOp
 simp only[ho,hx,hy,hz,Option.map_some,Option.map_none,Sem.run_bind,Sem.run_pure,run_sliceAt_slice w T _ _ _ _ hT',hr,Result.andThen_ok,Int.toNat_natCast,sliced,if_neg hne,Addr.add_mid,hd]
theorem Sl.MV {w w':World}{B g off:Nat}{k:IntKind}{xs:List Nat}(h:Sl w (some ⟨g,off,none⟩) k xs)(hg:g<B)(hb:Below B w w'):Sl w' (some ⟨g,off,none⟩) k xs:=λhn=>by
 obtain⟨g',off',h1,h2,h3⟩:=h hn
 cases h1
 exact⟨g,off,rfl,Nat.lt_of_lt_of_le h2 hb.size,λi hi=>(hb.cell hg).trans (h3 i hi)⟩
theorem Ej {P:Program}{ops:Array Oper}{o:Oper}{a:Act}{w:World}{Q:Exit->Act->World->Prop}{K:Act->World->Prop}{j g i T n c:Nat}{x y:Operand}{u:Value}{p:Option Addr}(hij:ops[j]?=some o)(hw:Region.wanted o (yielded ops a.tmps)=true)(ho:o.op=.store T x y)
  (hT:(P.info? T).map (·.size)=some 1) (hx:a.eval x=.pointer (some ⟨g,i,none⟩)) (hy:a.eval y=.slice p n c) (hc:w.cell? ⟨g,i,none⟩=some u) (hf:w.frozen? ⟨g,i,none⟩=false) (h:K (a.put o.dst undef) (w.setCell ⟨g,i,none⟩ (.slice p n c))):wpOp P ops Q j K a w:=by
 obtain⟨d,hd,h1⟩:=Option.map_eq_some_iff.1 hT
 have hr:(storeVar T ⟨g,i,none⟩ (.slice p n c)).run P w=.ok () (w.setCell ⟨g,i,none⟩ (.slice p n c)):=by
  simp[storeVar,sizeOf,typeInfo,hd,h1,Value.cells,storeCells,go_sem,hc,hf]
 unfold wpOp
 simp only[hij,hw,if_true]
 refine .inl ?_
 unfold Oper.wp execOp
 simp only[ho,hx,hy,Instr.storeAt,Instr.sureAddr,Sem.run_bind,Sem.run_pure,Result.andThen_ok,hr]
 exact h
theorem rX (F:List Nat):∀N,((List.range N).map λi=>(F.drop (16*i)).take 16).flatten=F.take (16*N)
 | 0=>by simp
 | N+1=>by
  rw[List.range_succ,List.map_append,List.flatten_append,rX F N,List.map_singleton,List.flatten_singleton,Nat.mul_succ,List.take_add]
theorem dP {P:Program}{a:Act}{o:Oper}{w:World}{T e i n c g off s z:Nat}{x y:Operand}(hz:off+i*s=z)(ho:o.op=.indexAddr T x y)(hx:a.eval x=.slice (some ⟨g,off,none⟩) n c)(hy:a.eval y=.int .i64 (i:Int))(hi:i<n)(hT:P.underlying T=some (.slice e))(hs:(P.info? e).map (·.size)=some s) :
  (execOp a.eval o).run P w=.ok (.value (.pointer (some ⟨g,z,none⟩))) w:=by
 subst hz
 exact jU ho hx hy hi hT hs
theorem agi (a0 a1 a2 a3:Nat)(W:World):(Instr.build 116 #[(0,.int .u8 (a0:Int)),(1,.int .u8 (a1:Int)),(2,.int .u8 (a2:Int)),(3,.int .u8 (a3:Int))]).run prog W=.ok (.agg (ints .u8 [a0,a1,a2,a3])) W:=by kernel_rfl
theorem NU {o:Oper}{a:Act}{x0 x1 x2 x3:Operand}{w:World}{a0 a1 a2 a3:Nat}(ho:o.op=.build 116 #[(0,x0),(1,x1),(2,x2),(3,x3)])(h0:a.eval x0=.int .u8 (a0:Int))(h1:a.eval x1=.int .u8 (a1:Int))(h2:a.eval x2=.int .u8 (a2:Int))(h3:a.eval x3=.int .u8 (a3:Int)) :
  (execOp a.eval o).run prog w=.ok (.value (.agg (ints .u8 [a0,a1,a2,a3]))) w:=by
 unfold execOp
 simp only[ho,List.map_toArray,List.map_cons,List.map_nil,h0,h1,h2,h3]
 simp only[Sem.run_bind,agi,Result.andThen_ok]
 rfl
theorem Gw (gt gb:Nat)(L key:List Nat)(hL:L.length=512)(DZ:∀x∈L,x<256)(hkl:key.length=16∨key.length=24∨key.length=32)(hkb:∀x∈key,x<256)(a:Option Addr)(c:Nat)(w:World)(hT:ng w gt gb L 1024)(hB:aA w gb 69 (ints .u8 L))(hS:Sl w a .u8 key) :
  Calls prog 34 #[.pointer (some ⟨gt,0,none⟩),.slice a key.length c] w λe w'=>∃ga gk ck,e=.returned (.tuple #[.pointer (some ⟨ga,0,none⟩),.int .i64 0])/\w.heap.size<=ga/\aA w' ga 123 #[.pointer (some ⟨gt,0,none⟩),.slice (some ⟨gk,0,none⟩) (key.length/4+7) ck]/\Sl w' (some ⟨gk,0,none⟩) .u8 (jC L key).flatten/\key.length/4+7<=ck/\Below w.heap.size w w':=by
 have hsh:=λW=>VR key.length hkl W
 have hwd:=λ(p:Nat) (hp:p<2^62) W h=>ry a c key hkb (by have h1:(32:Nat)<=maxLen:=(by decide);omega) p hp W h
 obtain⟨K,hK⟩:=bD (key.length)
 obtain⟨n,hN⟩:=bD (K/4)
 have hKs:Hid (jC L key=(List.range (n+7)).map λi=>((KJ L n key (3*n+28)).1.drop (16*i)).take 16):=aR (by unfold jC Ad;rw[hK.out,hN.out])
 rw[hK.out] at hsh hwd hkl ⊢
 have SS:(n=4/\(K==32)=false)∨(n=6/\(K==32)=false)∨(n=8/\(K==32)=true):=by
  rcases hkl with h|h|h<;>subst h<;>rw[←hN.out]<;>decide
 obtain⟨lg,acB⟩:=bD ((K==32))
 rw[hN.out] at hsh ⊢
 rw[acB.out] at SS
 simp only[acB.out] at hsh
 have hn8:n<=8:=by omega
 have hn4:4<=n:=by omega
 clear hkl
 obtain⟨R,hR⟩:=bD (4*(n+7))
 have e1:IntKind.i64.wrap (4*((n:Int)+6+1))=(R:Int):=(IntWalk.i64_in _ (by omega)).trans (by rw[←hR.out];omega)
 obtain⟨iw,hiw,hz0,hz1,hz2⟩:=info_parts Sn
 go_enter func34,ntmps34
 go_wp2_with fail
 obtain⟨J,HJ,HI0⟩:=jmp (λaJ w'=>∃(U:Nat->Value) (j:Nat) (m:Nat) (gw:Nat) (cw:Nat) (p:Nat) (ws:List Nat),aJ={ tmps:=#[.pointer (some ⟨gt,0,none⟩),.slice a K c,U 2,U 3,U 4,U 5,.int .i64 (n:Int),.bool lg,U 8,.slice (some ⟨gw,0,none⟩) m cw,U 10,.int .u8 (p:Int),U 12,U 13,U 14,U 15,U 16,U 17,U 18,U 19,U 20,U 21,U 22,U 23,U 24,U 25,U 26,U 27,U 28,U 29,U 30,U 31,U 32,U 33,U 34,U 35,U 36,U 37,U 38,U 39,U 40,U 41,U 42,U 43,U 44,U 45,U 46,U 47,U 48,U 49,U 50,U 51,U 52,U 53,U 54,U 55,U 56,U 57,U 58,U 59,U 60,U 61,U 62,U 63,U 64,U 65,U 66,U 67,U 68,U 69,U 70,U 71,U 72,U 73,U 74,U 75,U 76,U 77,U 78,U 79,U 80,U 81,U 82,U 83,U 84,U 85,U 86,U 87,U 88,U 89,U 90,U 91,U 92,U 93,U 94,U 95,U 96,U 97,U 98,U 99,U 100,U 101,U 102,U 103,U 104,U 105,U 106,U 107,U 108,U 109,U 110,U 111,U 112,U 113,U 114,U 115,U 116,U 117,U 118,U 119,U 120,U 121,U 122,U 123,U 124,U 125,U 126,U 127,U 128,U 129,U 130,U 131,U 132,U 133],defers:=[] }/\Hid (m=n+j)/\j<3*n+28/\dD w' w.heap.size 116 4 .u8 (.slice (some ⟨gw,0,none⟩) m cw) m ws/\Hid (KJ L n key j=(ws,p))/\Below w.heap.size w w')
 have HI:Hid (∀(T:Array Value) (w':World),(∃(j:Nat) (m:Nat) (gw:Nat) (cw:Nat) (p:Nat) (ws:List Nat),T=((λ(U:Nat->Value)=>#[.pointer (some ⟨gt,0,none⟩),.slice a K c,U 2,U 3,U 4,U 5,.int .i64 (n:Int),.bool lg,U 8,.slice (some ⟨gw,0,none⟩) m cw,U 10,.int .u8 (p:Int),U 12,U 13,U 14,U 15,U 16,U 17,U 18,U 19,U 20,U 21,U 22,U 23,U 24,U 25,U 26,U 27,U 28,U 29,U 30,U 31,U 32,U 33,U 34,U 35,U 36,U 37,U 38,U 39,U 40,U 41,U 42,U 43,U 44,U 45,U 46,U 47,U 48,U 49,U 50,U 51,U 52,U 53,U 54,U 55,U 56,U 57,U 58,U 59,U 60,U 61,U 62,U 63,U 64,U 65,U 66,U 67,U 68,U 69,U 70,U 71,U 72,U 73,U 74,U 75,U 76,U 77,U 78,U 79,U 80,U 81,U 82,U 83,U 84,U 85,U 86,U 87,U 88,U 89,U 90,U 91,U 92,U 93,U 94,U 95,U 96,U 97,U 98,U 99,U 100,U 101,U 102,U 103,U 104,U 105,U 106,U 107,U 108,U 109,U 110,U 111,U 112,U 113,U 114,U 115,U 116,U 117,U 118,U 119,U 120,U 121,U 122,U 123,U 124,U 125,U 126,U 127,U 128,U 129,U 130,U 131,U 132,U 133]) λi=>T.getD i undef)/\Hid (m=n+j)/\j<3*n+28/\dD w' w.heap.size 116 4 .u8 (.slice (some ⟨gw,0,none⟩) m cw) m ws/\Hid (KJ L n key j=(ws,p))/\Below w.heap.size w w')->J { tmps:=T,defers:=[] } w') :=
  aR λT w' ⟨j,m,gw,cw,p,ws,hJ,rJ⟩=>HI0.out _ _ ⟨λi=>T.getD i undef,j,m,gw,cw,p,ws,congrArg (λT=>({ tmps:=T,defers:=[] }:Act)) hJ,rJ⟩
 clear HI0
 obtain⟨μ,Hμ⟩:∃μ:Act->World->Nat,Hid (∀a w',μ a w'=R-aav (a.tmps.getD 9 undef)):=⟨_,aR λ_ _=>rfl⟩
 refine dF 0 J μ (by simp only[findLabel];rfl) ?_ ?_
 ·intro a' wr hj
  obtain⟨U,j,m,gw,cw,p,ws,rfl,hm,hj28,O,hX,hbel⟩:=HJ.out _ _ hj
  clear hj hsh hwd hS
  have abm:=O.len
  obtain⟨hWb,hp⟩:(∀x∈ws,x<256)/\p<256:=by have h:=Ip DZ n key j;rw[hX.out] at h;exact h
  have hm4:4<=m:=by have:=hm.out;omega
  have hm60:m<=60:=by have:=hm.out;omega
  obtain⟨q,hq⟩:=bD (m-1)
  have eq1:(m:Int)-1=(q:Int):=by rw[←hq.out];omega
  have hqm:(q:Int)<(m:Int):=by omega
  have hqn:q<m:=by omega
  obtain⟨g',c',e',hgB,hgl,hSW,hcw⟩:=O.sl2 (by omega)
  cases e'
  have S1:Sl wr (some ⟨gw,q*4,none⟩) .u8 (KR ws q):=by
   have h:=(hSW.drop (q*4)).take 4
   rw[Nat.zero_add] at h
   unfold KR
   rw[Nat.mul_comm 4 q]
   exact h
  have hxl:=KQ abm hqn
  have hxb:=BQ hWb q
  have HX:Hid (KR ws q=KR ws (n+j-1)):=aR (by rw[←hq.out,hm.out])
  obtain⟨x,hx⟩:=bD (KR ws q)
  rw[hx.out] at S1 hxl hxb HX
  have Sq:x≠[]:=λe=>by rw[e] at hxl;simp at hxl
  have X1:=aA.new wr 116 (ints .u8 (zeros 4))
  have hb3:=az (bN wr (.cells (ints .u8 (zeros 4)) 116)) dM (ints .u8 x)
  have X3:=X1.row (ints .u8 x)
  have O3:=O.below hb3
  have aG:=bC hbel hb3
  have hnb:gw<wr.heap.size:=hgl
  have hnB:=hbel.size
  clear O hbel hSW hb3
  obtain⟨w3,hw3⟩:=bD ((wr.alloc (.cells (ints .u8 (zeros 4)) 116)).setRow wr.heap.size (ints .u8 x))
  rw[hw3.out] at X3 O3 aG
  obtain⟨nb,aex⟩:=bD (wr.heap.size)
  rw[aex.out] at X3 hnb hnB
  go_upto_block 2 with (first
   | (refine aZ rfl (bq rfl rfl S1 gZ hxl Sq) ?_;(try simp only[nn,Nat.reduceAdd]))
   | (refine ae rfl 116 rfl KH ?_;(try simp only[nn,Nat.reduceAdd]))
   | (refine aa rfl 116 _ _ rfl wr.heap.size rfl rfl X1 (ah _ _) gZ hxl ?_;(try simp only[nn,Nat.reduceAdd])))
  rw[hw3.out,aex.out]
  clear X1 S1
  have TF:=hT.below aG
  have hB3:=hB.below' aG
  have abb:(Value.slice (some ⟨gw,0,none⟩) m cw).ownBlock≠some nb:=λh=>by
   have h1:gw=nb:=Option.some.inj h
   omega
  go_cut [11] from 51 to 86 (λs wx=>∃y:Nat,s=.int .u8 (y:Int)/\y=YO n m p/\aA wx nb 116 (ints .u8 (rR L n m x p))/\dD wx w.heap.size 116 4 .u8 (.slice (some ⟨gw,0,none⟩) m cw) m ws/\Below w.heap.size w wx)
  case first =>
   obtain⟨r,hr⟩:=bD (m%n)
   have hmod:(m:Int).tmod (n:Int)=(r:Int):=by rw[Int.tmod_eq_emod_of_nonneg (by omega),←hr.out];omega
   have hn0:¬(n:Int)=0:=by omega
   clear hKs HJ HI Hμ hiw hz0 hz1 hz2 hX HX hWb abm
   by_cases h0:r=0
   ·have e0:((r:Int)==0)=true:=by simp;omega
    have HM:Hid (rR L n m x p=Jg L x p):=aR (by unfold rR;rw[hr.out,if_pos h0])
    have HP:Hid (YO n m p=Vk p):=aR (by unfold YO;rw[hr.out,if_pos h0])
    have d0:=X3.int (i:=0) (by omega)
    have d1:=X3.int (i:=1) (by omega)
    have d2:=X3.int (i:=2) (by omega)
    have d3:=X3.int (i:=3) (by omega)
    have hrl:=ET L x p
    have HRQ:Hid ((pV L [x.getD 1 0,x.getD 2 0,x.getD 3 0,x.getD 0 0]).set 0 ((pV L [x.getD 1 0,x.getD 2 0,x.getD 3 0,x.getD 0 0]).getD 0 0^^^p)=Jg L x p):=aR rfl
    have b0:=aC hxb (by decide) 0
    have b1:=aC hxb (by decide) 1
    have b2:=aC hxb (by decide) 2
    have b3:=aC hxb (by decide) 3
    generalize x.getD 0 0=x0 at *
    generalize x.getD 1 0=x1 at *
    generalize x.getD 2 0=x2 at *
    generalize x.getD 3 0=x3 at *
    have hbx:=MR gt gb L [x1,x2,x3,x0] hL DZ rfl (λy hy=>by simp only[List.mem_cons,List.not_mem_nil,or_false] at hy;omega) w3 TF hB3
    have hyl:=pU L [x1,x2,x3,x0]
    have hyb:=wX DZ [x1,x2,x3,x0]
    generalize pV L [x1,x2,x3,x0]=Y at *
    have hgd:=rW p hp
    have hy0:=aC hyb (by decide) 0
    have zR:=tC hy0 hp
    go_wp2_with ((first|(refine aZ rfl (NU (a0:=x1) (a1:=x2) (a2:=x3) (a3:=x0) rfl rfl rfl rfl rfl) ?_));(try simp only[nn,Nat.reduceAdd]))
    refine hbx.mono ?_
    clear hbx d0 d1 d2 d3
    rintro e w4 ⟨rfl,hb4⟩
    have X4:=X3.below' hb4
    have O4:=O3.below hb4
    have aY:=bC aG hb4
    have X5:=X4.row (ints .u8 Y)
    have Xm:=Ch.bX (iG.row w4 nb (ints .u8 Y))
    have O5:=O4.ch Xm abb
    have bA:=az aY hnB (ints .u8 Y)
    obtain⟨w5,aec⟩:=bD (w4.setRow nb (ints .u8 Y))
    rw[aec.out] at X5 O5 bA
    have k5:=X5.int (i:=0) (by omega)
    have z5:=X5.frozen 0
    have X6:=X5.dw 0 (Y.getD 0 0^^^p)
    rw[HRQ.out,←HM.out] at X6
    have O6:=O5.ch (Ch.bX (iG.set w5 nb 0 (.int .u8 ((Y.getD 0 0^^^p:Nat):Int)))) abb
    have bK:=bA.setCell (p:=⟨nb,0,none⟩) hnB (.int .u8 ((Y.getD 0 0^^^p:Nat):Int))
    clear O3 aG X3 hb4 O4 aY Xm O5 bA X5
    generalize Y.getD 0 0^^^p=y6 at *
    generalize Y.getD 0 0=y5 at *
    go_wp2_with (refine aa rfl 116 _ _ rfl nb rfl rfl X4 (by rw[aF];exact hxl) gZ hyl ?_;rw[aec.out];clear X4;(try simp only[nn,Nat.reduceAdd]))
    refine(hgd _).mono ?_
    rintro e w7 ⟨rfl,rfl⟩
    go_wp2_with fail
    go_meet
    exact⟨_,rfl,HP.out.symm,X6,O6,bK⟩
   ·have e0:((r:Int)==0)=false:=by simp;omega
    have HP:Hid (p=YO n m p):=aR (by unfold YO;rw[hr.out,if_neg h0])
    have hla:lg=true->n=8:=λh=>by rcases SS with ⟨_,h'⟩|⟨_,h'⟩|⟨h',_⟩<;>first|exact h'|(rw[h] at h';cases h')
    have hlb:lg=false->n≠8:=λh=>by rcases SS with ⟨h',_⟩|⟨h',_⟩|⟨_,h'⟩<;>first|(rw[h] at h';cases h')|omega
    clear SS
    cases lg
    ·have HM:Hid (rR L n m x p=x):=aR (by unfold rR;rw[hr.out,if_neg h0,if_neg (λh=>hlb rfl h.1)])
     rw[←HM.out] at X3
     clear hla hlb
     go_wp2_with fail
     go_meet
     exact⟨_,rfl,HP.out,X3,O3,aG⟩
    ·by_cases h4:r=4
     ·have HM:Hid (rR L n m x p=pV L x):=aR (by unfold rR;rw[hr.out,if_neg h0,if_pos ⟨hla rfl,h4⟩])
      have e4:((r:Int)==4)=true:=by simp;omega
      have hbx:=MR gt gb L x hL DZ hxl hxb w3 TF hB3
      have hyl:=pU L x
      clear hla hlb
      generalize pV L x=Y at *
      go_wp2_with (refine ag rfl 116 _ rfl _ rfl X3 gZ hxl ?_;(try simp only[nn,Nat.reduceAdd]))
      refine hbx.mono ?_
      clear hbx
      rintro e w4 ⟨rfl,hb4⟩
      have X4:=X3.below' hb4
      have O4:=O3.below hb4
      have aY:=bC aG hb4
      have X5:=X4.row (ints .u8 Y)
      have O5:=O4.ch (Ch.bX (iG.row w4 nb (ints .u8 Y))) abb
      have bA:=az aY hnB (ints .u8 Y)
      rw[←HM.out] at X5
      go_wp2_with (refine aa rfl 116 _ _ rfl nb rfl rfl X4 (by rw[aF];exact hxl) gZ hyl ?_;(try simp only[nn,Nat.reduceAdd]))
      go_meet
      exact⟨_,rfl,HP.out,by rw[HM.out] at X5 ⊢;exact X5,O5,bA⟩
     ·have HM:Hid (rR L n m x p=x):=aR (by unfold rR;rw[hr.out,if_neg h0,if_neg (λh=>h4 h.2)])
      have e4:((r:Int)==4)=false:=by simp;omega
      rw[←HM.out] at X3
      clear hla hlb
      go_wp2_with fail
      go_meet
      exact⟨_,rfl,HP.out,X3,O3,aG⟩
  case rest =>
   clear X3 O3 aG TF hB3
   obtain⟨p',rfl,hp',X3,O3,aG⟩:=hcut
   have hyl:=RN L n m hxl p
   have hyb:=LZ DZ n m hxb hp
   obtain⟨y,hy⟩:=bD (rR L n m x p)
   rw[hy.out] at X3 hyl hyb
   have hjm:(m:Int)-(n:Int)=(j:Int):=by have:=hm.out;omega
   have hjl:j<m:=by have:=hm.out;omega
   obtain⟨g',c',e',-,hgl2,hSW,-⟩:=O3.sl2 (by omega)
   cases e'
   obtain⟨q7,hq7⟩:=bD (0+j*4)
   have S2:Sl wc (some ⟨gw,q7,none⟩) .u8 (KR ws j):=by
    rw[←hq7.out]
    have h:=(hSW.drop (j*4)).take 4
    unfold KR
    rw[Nat.mul_comm 4 j]
    exact h
   have hvl:=KQ abm hjl
   have hvb:=BQ hWb j
   have HW2:Hid (KJ L n key (j+1)=(ws++xn (KR ws j) y,p')):=aR (by
    unfold KJ
    simp only[hX.out]
    rw[←HX.out,←hm.out,hy.out,hp'])
   obtain⟨v,hv⟩:=bD (KR ws j)
   rw[hv.out] at S2 hvl hvb HW2
   have aaH:v≠[]:=λe=>by rw[e] at hvl;simp at hvl
   have hpl:=λW=>Pt v y hvl hvb hyl hyb W
   have hzl:=xm v y
   obtain⟨z,hz⟩:=bD (xn v y)
   rw[hz.out] at HW2 hzl
   simp only[hz.out] at hpl
   clear abm hWb hX HX hx hp hp' hSW hqm hqn eq1 hq
   go_wp2_with fail
   refine bW 11 (by kernel_rfl) (by kernel_rfl) (by kernel_rfl) (by kernel_rfl) (λD bP W=>∃u87 u88 u89 u90 u91 u92 u93 u94 u95 u96 u97:Value,bP={ tmps:=#[Value.pointer (some { block:=gt,off:=0 }),Value.slice a K c,U 2,U 3,U 4,U 5,Value.int IntKind.i64 ↑n,Value.bool lg,U 8,Value.slice (some { block:=gw,off:=0 }) m cw,U 10,Value.int IntKind.u8 ↑p',Value.pointer (some { block:=nb,off:=0 }),U 13,U 14,U 15,U 16,U 17,U 18,U 19,U 20,U 21,U 22,U 23,U 24,U 25,U 26,U 27,U 28,U 29,U 30,U 31,U 32,U 33,U 34,U 35,U 36,U 37,U 38,U 39,U 40,U 41,U 42,U 43,U 44,Value.slice (some { block:=gw,off:=0 }) m cw,Value.slice (some { block:=gw,off:=0 }) m cw,Value.int IntKind.i64 ↑m,Value.int IntKind.i64 ↑q,Value.pointer (some { block:=gw,off:=q*4 }),Value.agg (ints IntKind.u8 x),u51,u52,u53,u54,u55,u56,u57,u58,u59,u60,u61,u62,u63,u64,u65,u66,u67,u68,u69,u70,u71,u72,u73,u74,u75,u76,u77,u78,u79,u80,u81,u82,u83,u84,u85,u86,u87,u88,u89,u90,u91,u92,u93,u94,u95,u96,u97,U 98,U 99,U 100,U 101,U 102,U 103,U 104,U 105,U 106,U 107,U 108,U 109,U 110,U 111,U 112,U 113,U 114,U 115,U 116,U 117,U 118,U 119,U 120,U 121,U 122,U 123,U 124,U 125,U 126,U 127,U 128,U 129,U 130,U 131,U 132,U 133],defers:=[] }/\Below wc.heap.size wc W/\(D 0->u87=.slice (some ⟨gw,0,none⟩) m cw)/\(D 1->u88=.slice (some ⟨gw,0,none⟩) m cw)/\(D 2->u89=.slice (some ⟨gw,0,none⟩) m cw)/\(D 3->u90=.int .i64 (m:Int))/\(D 4->u91=.int .i64 (n:Int))/\(D 5->u92=.int .i64 (j:Int))/\(D 6->u93=.pointer (some ⟨gw,q7,none⟩))/\(D 7->u94=.agg (ints .u8 v))/\(D 8->u95=.agg (ints .u8 y))/\(D 9->u96=.agg (ints .u8 z))/\(D 10->pY W u97 1 z)) ?_ ?_ ?_
   ·exact aL <| (⟨_,_,_,rfl,⟨rfl,rfl,rfl,Nat.le_refl _,λ_ _=>rfl⟩,nofun,nofun,nofun,nofun,nofun,nofun,nofun,nofun,nofun,nofun,nofun⟩)
   ·intro i o hilt hi D bP W hI hnD hall
    obtain⟨u87,u88,u89,u90,u91,u92,u93,u94,u95,u96,u97,rfl,hW,f0,f1,f2,f3,f4,f5,f6,f7,f8,f9,f10⟩:=hI
    rcases i with _|_|_|_|_|_|_|_|_|_|_|i<;>try cases hi
    ·refine af (v:=.slice (some ⟨gw,0,none⟩) m cw) rfl rfl rfl ?_
     exact aL <| (⟨_,_,_,rfl,hW,λ_=>rfl,ro f1,ro f2,ro f3,ro f4,ro f5,ro f6,ro f7,ro f8,ro f9,ro f10⟩)
    ·refine af (v:=.slice (some ⟨gw,0,none⟩) m cw) rfl rfl rfl ?_
     exact aL <| (⟨_,_,_,rfl,hW,ro f0,λ_=>rfl,ro f2,ro f3,ro f4,ro f5,ro f6,ro f7,ro f8,ro f9,ro f10⟩)
    ·refine af (v:=.slice (some ⟨gw,0,none⟩) m cw) rfl rfl rfl ?_
     exact aL <| (⟨_,_,_,rfl,hW,ro f0,ro f1,λ_=>rfl,ro f3,ro f4,ro f5,ro f6,ro f7,ro f8,ro f9,ro f10⟩)
    ·obtain rfl:=f2 (aj hall 2 rfl)
     refine af (v:=.int .i64 (m:Int)) rfl rfl (by kernel_rfl) ?_
     exact aL <| (⟨_,_,_,rfl,hW,ro f0,ro f1,ro f2,λ_=>rfl,ro f4,ro f5,ro f6,ro f7,ro f8,ro f9,ro f10⟩)
    ·refine af (v:=.int .i64 (n:Int)) rfl rfl rfl ?_
     exact aL <| (⟨_,_,_,rfl,hW,ro f0,ro f1,ro f2,ro f3,λ_=>rfl,ro f5,ro f6,ro f7,ro f8,ro f9,ro f10⟩)
    ·obtain rfl:=f3 (aj hall 3 rfl)
     obtain rfl:=f4 (aj hall 4 rfl)
     refine af (v:=.int .i64 (j:Int)) rfl rfl (QY rfl rfl rfl hjm (by omega)) ?_
     exact aL <| (⟨_,_,_,rfl,hW,ro f0,ro f1,ro f2,ro f3,ro f4,λ_=>rfl,ro f6,ro f7,ro f8,ro f9,ro f10⟩)
    ·obtain rfl:=f1 (aj hall 1 rfl)
     obtain rfl:=f5 (aj hall 5 rfl)
     refine af (v:=.pointer (some ⟨gw,q7,none⟩)) rfl rfl (dP hq7.out rfl rfl rfl hjl underlying115 gZ.2) ?_
     exact aL <| (⟨_,_,_,rfl,hW,ro f0,ro f1,ro f2,ro f3,ro f4,ro f5,λ_=>rfl,ro f7,ro f8,ro f9,ro f10⟩)
    ·obtain rfl:=f6 (aj hall 6 rfl)
     refine af (v:=.agg (ints .u8 v)) rfl rfl (bq rfl rfl ((S2.below hW)) gZ hvl aaH) ?_
     exact aL <| (⟨_,_,_,rfl,hW,ro f0,ro f1,ro f2,ro f3,ro f4,ro f5,ro f6,λ_=>rfl,ro f8,ro f9,ro f10⟩)
    ·refine bf rfl rfl rfl rfl (X3.below' hW) gZ hyl ?_
     exact aL <| (⟨_,_,_,rfl,hW,ro f0,ro f1,ro f2,ro f3,ro f4,ro f5,ro f6,ro f7,λ_=>rfl,ro f9,ro f10⟩)
    ·obtain rfl:=f7 (aj hall 7 rfl)
     obtain rfl:=f8 (aj hall 8 rfl)
     refine aV 47 rfl rfl rfl func47 (by kernel_rfl) (by kernel_rfl) (hpl W) ?_
     intro W' hW'
     exact aL <| (⟨_,_,_,rfl,bC hW hW',ro f0,ro f1,ro f2,ro f3,ro f4,ro f5,ro f6,ro f7,ro f8,λ_=>rfl,(λh=>(pY.below) (f10 (cO h)) hW')⟩)
    ·obtain rfl:=f9 (aj hall 9 rfl)
     refine cz rfl rfl (nD (u0:=.agg (ints .u8 z)) rfl rfl (bsW z hzl W)) ?_;have hW':=bN W (.cells (ints .u8 z) 116);have Ms:=aA.new W 116 (ints .u8 z)
     exact aL <| (⟨_,_,_,rfl,bC hW hW',ro f0,ro f1,ro f2,ro f3,ro f4,ro f5,ro f6,ro f7,ro f8,ro f9,(λ_=>⟨_,rfl,Sl.blk Ms⟩)⟩)
    ·exfalso;omega
   ·rintro D bP W ⟨u87,u88,u89,u90,u91,u92,u93,u94,u95,u96,u97,rfl,hW,f0,f1,f2,f3,f4,f5,f6,f7,f8,f9,f10⟩ hall
    obtain rfl:=f0 (hall 0 (by decide))
    obtain rfl:=f1 (hall 1 (by decide))
    obtain rfl:=f2 (hall 2 (by decide))
    obtain rfl:=f3 (hall 3 (by decide))
    obtain rfl:=f4 (hall 4 (by decide))
    obtain rfl:=f5 (hall 5 (by decide))
    obtain rfl:=f6 (hall 6 (by decide))
    obtain rfl:=f7 (hall 7 (by decide))
    obtain rfl:=f8 (hall 8 (by decide))
    obtain rfl:=f9 (hall 9 (by decide))
    have x97:=f10 (hall 10 (by decide))
    clear f0 f1 f2 f3 f4 f5 f6 f7 f8 f9 hall
    simp only[List.drop_succ_cons,List.drop_zero]
    obtain⟨g9,rfl,s9⟩:=x97
    have O4:=O3.below hW
    have aY:=bC aG hW
    clear hW X3 O3 aG S2 hpl hT hB
    have eR:((n:Int)+6+1)*4=(R:Int):=by rw[←hR.out];omega
    by_cases hlast:m+1<R
    ·have hdl:decide (((m+1:Nat):Int)<(R:Int))=true:=by simp;omega
     rw[Int.natCast_add,Int.cast_ofNat_Int] at hdl
     go_wp2_with (at_builtin;refine iR rfl rfl underlying115 Sn ZE (by decide) (by decide) rfl O4 rfl hzl s9 (by omega) aY.size ?_;(intro v' w6 O6 hgr);(have bK:=O4.gI aY hgr aY.size dM);(clear O4 aY s9 hgr);(obtain⟨Im,Vl,rfl,-,-,-,-⟩:=O6.sl2 (Nat.succ_pos _));((try simp only[nn,Nat.reduceAdd])))
     go_step3
     refine⟨rfl,HI.out _ _ ⟨j+1,m+1,Im,Vl,p',ws++z,rfl,aR (by rw[hm.out];omega),?_,O6,HW2,bK⟩,?_⟩
     ·have h1:=hm.out;have h2:=hR.out;omega
     ·rw[Hμ.out,Hμ.out]
      change R-(m+1)<R-m
      omega
    ·have hdl:decide (((m+1:Nat):Int)<(R:Int))=false:=by simp;omega
     have hmR:m+1=R:=by have h1:=hm.out;have h2:=hR.out;omega
     have HF:Hid ((KJ L n key (3*n+28)).1=ws++z):=aR (by rw[show 3*n+28=j+1 by have h1:=hm.out;have h2:=hR.out;omega,HW2.out])
     rw[Int.natCast_add,Int.cast_ofNat_Int] at hdl
     go_wp2_with (at_builtin;refine iR rfl rfl underlying115 Sn ZE (by decide) (by decide) rfl O4 rfl hzl s9 (by omega) aY.size ?_;(intro v' w6 O6 hgr);(have bK:=O4.gI aY hgr aY.size dM);(clear O4 aY s9 hgr);(obtain⟨Im,Vl,rfl,-,-,-,-⟩:=O6.sl2 (Nat.succ_pos _));((try simp only[nn,Nat.reduceAdd])))
     have Hm1:=aR hmR
     obtain⟨S6,hgw2⟩:Sl w6 (some ⟨Im,0,none⟩) .u8 (ws++z)/\Im<w6.heap.size:=by
      obtain⟨g',c',e',-,h1,h2,-⟩:=O6.sl2 (Nat.succ_pos _)
      cases e'
      exact⟨h2,h1⟩
     have Zf:=O6.len
     obtain⟨g6',c6',e6',-,-,-,hcw2⟩:=O6.sl2 (Nat.succ_pos _)
     cases e6'
     clear hm hmR hjm hjl hlast HW2 HJ HI Hμ O6
     generalize ws++z=F at *
     have B7:=aA.new w6 123 #[.pointer (some ⟨gt,0,none⟩),.slice none 0 0]
     have yA:=bN w6 (.cells #[.pointer (some ⟨gt,0,none⟩),.slice none 0 0] 123)
     have dm:=bC bK yA
     have S7:=S6.below yA
     have afS:=bK.size
     clear yA S6 bK
     go_wp2_with fail
     obtain⟨w7,hw7⟩:=bD (w6.alloc (.cells #[.pointer (some ⟨gt,0,none⟩),.slice none 0 0] 123))
     obtain⟨gk,aaZ⟩:=bD (w6.heap.size)
     rw[hw7.out] at B7 dm S7
     rw[aaZ.out] at B7 afS hgw2
     rw[hw7.out,aaZ.out]
     go_loopw [112] (λt wr=>∃(i:Nat) (ak:Option Addr) (ck:Nat),i<=n+7/\t=.int .i64 (i:Int)/\aA wr gk 123 #[.pointer (some ⟨gt,0,none⟩),.slice ak i ck]/\dD wr (gk+1) 96 16 .u8 (.slice ak i ck) i (F.take (16*i))/\Sl wr (some ⟨Im,0,none⟩) .u8 F/\Below w.heap.size w wr) (λt wr=>n+7-(intOf t).toNat)
     case atStart=>exact⟨0,none,0,by omega,rfl,B7,dD.nil _ _ _ _ _,S7,dm⟩
     case round =>
      clear B7 dm S7
      obtain⟨i,ak,ck,hi,rfl,B,O,S,hbel⟩:=hrel
      by_cases hlt:i<n+7
      ·have hd:decide ((i:Int)<(n:Int)+6+1)=true:=by simp;omega
       obtain⟨q4,hq4⟩:=bD (4*i)
       have eq4:(4:Int)*(i:Int)=(q4:Int):=by rw[←hq4.out];omega
       obtain⟨q5,hq5⟩:=bD (q4+4)
       have eq5:(q4:Int)+4=(q5:Int):=by rw[←hq5.out];omega
       have hqm:q4+4<=m+1:=by have h1:=Hm1.out;have h2:=hR.out;rw[←hq4.out];omega
       have hgl:=B.lt
       have k1:wr.cell? ⟨gk,1,none⟩=some (.slice ak i ck):=by rw[B.cell];rfl
       have S2:=(S.drop (q4*4)).take 16
       have Mg:((F.drop (q4*4)).take 16).length=16:=by rw[List.length_take,List.length_drop];omega
       have HZ:Hid (F.take (16*i)++(F.drop (q4*4)).take 16=F.take (16*(i+1))):=aR (by
        rw[show q4*4=16*i by rw[←hq4.out];omega,show 16*(i+1)=16*i+16 by omega,List.take_add])
       have hjo:=λ(W:World) (h:Sl W (some ⟨Im,0+q4*4,none⟩) .u8 ((F.drop (q4*4)).take 16))=>Si Im (0+q4*4) (Vl-q4) ((F.drop (q4*4)).take 16) Mg W h
       obtain⟨zs,hzs⟩:=bD ((F.drop (q4*4)).take 16)
       rw[hzs.out] at S2 Mg HZ
       simp only[hzs.out] at hjo
       have Xc:gk+1<=wr.heap.size:=hgl
       go_wp2_with fail
       refine fD 17 (by kernel_rfl) (by kernel_rfl) (by kernel_rfl) (by kernel_rfl) (λD bP W=>∃u115 u116 u117 u118 u119 u120 u121 u122 u123 u124 u125 u126 u127 u128 u129 u130 u131:Value,bP={ tmps:=#[Value.pointer (some { block:=gt,off:=0 }),Value.slice a K c,U 2,U 3,U 4,U 5,Value.int IntKind.i64 ↑n,Value.bool lg,U 8,Value.slice (some { block:=Im,off:=0 }) (m+1) Vl,U 10,Value.int IntKind.u8 ↑p',Value.pointer (some { block:=nb,off:=0 }),Value.pointer (some { block:=gk,off:=0 }),Value.int IntKind.i64 ↑i,U 15,U 16,U 17,U 18,U 19,U 20,U 21,U 22,U 23,U 24,U 25,U 26,U 27,U 28,U 29,U 30,U 31,U 32,U 33,U 34,U 35,U 36,U 37,U 38,U 39,U 40,U 41,U 42,U 43,U 44,Value.slice (some { block:=gw,off:=0 }) m cw,Value.slice (some { block:=gw,off:=0 }) m cw,Value.int IntKind.i64 ↑m,Value.int IntKind.i64 ↑q,Value.pointer (some { block:=gw,off:=q*4 }),Value.agg (ints IntKind.u8 x),u51,u52,u53,u54,u55,u56,u57,u58,u59,u60,u61,u62,u63,u64,u65,u66,u67,u68,u69,u70,u71,u72,u73,u74,u75,u76,u77,u78,u79,u80,u81,u82,u83,u84,u85,u86,Value.slice (some { block:=gw,off:=0 }) m cw,Value.slice (some { block:=gw,off:=0 }) m cw,Value.slice (some { block:=gw,off:=0 }) m cw,Value.int IntKind.i64 ↑m,Value.int IntKind.i64 ↑n,Value.int IntKind.i64 ↑j,Value.pointer (some { block:=gw,off:=q7 }),Value.agg (ints IntKind.u8 v),Value.agg (ints IntKind.u8 y),Value.agg (ints IntKind.u8 z),Value.slice (some { block:=g9,off:=0 }) 1 1,Value.slice (some { block:=Im,off:=0 }) (m+1) Vl,Value.slice (some { block:=Im,off:=0 }) (m+1) Vl,Value.int IntKind.i64 ↑R,Value.int IntKind.i64 ↑n,Value.int IntKind.i64 (↑n+6),Value.int IntKind.i64 (↑n+6+1),Value.int IntKind.i64 ↑R,Value.bool false,Value.pointer (some { block:=gt,off:=0 }),Value.agg #[Value.pointer (some { block:=gt,off:=0 }),Value.slice none 0 0],Value.pointer (some { block:=gk,off:=0 }),Value.int IntKind.i64 ↑n,Value.int IntKind.i64 (↑n+6),Value.int IntKind.i64 (↑n+6+1),Value.int IntKind.i64 ↑i,Value.bool true,Value.int IntKind.i64 ↑i,u115,u116,u117,u118,u119,u120,u121,u122,u123,u124,u125,u126,u127,u128,u129,u130,u131,u132,U 133],defers:=[] }/\Below (gk+1) wr W/\(D 0->u115=.pointer (some ⟨gk,0,none⟩))/\(D 1->u116=.pointer (some ⟨gk,0,none⟩))/\(D 2->u117=.pointer (some ⟨gk,0,none⟩))/\(D 3->u118=.pointer (some ⟨gk,1,none⟩))/\(D 4->u119=.slice ak i ck)/\(D 5->u120=.slice (some ⟨Im,0,none⟩) (m+1) Vl)/\(D 6->u121=.int .i64 (i:Int))/\(D 7->u122=.int .i64 (q4:Int))/\(D 8->u123=.int .i64 (i:Int))/\(D 9->u124=.int .i64 (q4:Int))/\(D 10->u125=.int .i64 (q5:Int))/\(D 11->u126=.slice (some ⟨Im,0+q4*4,none⟩) 4 (Vl-q4))/\(D 12->u127=.agg (ints .u8 zs))/\(D 13->¬D 14->pY W u128 1 zs)/\(D 14->dD W (gk+1) 96 16 .u8 u129 (i+1) (F.take (16*i)++zs))/\(D 15->u130=.pointer (some ⟨gk,0,none⟩))/\(D 16->u131=.pointer (some ⟨gk,1,none⟩))/\(D 14->D 13)/\(¬D 14->Below wr.heap.size wr W)) ?_ ?_ ?_
       ·exact aL <| aL <| (⟨_,rfl,⟨rfl,rfl,rfl,Nat.le_refl _,λ_ _=>rfl⟩,nofun,nofun,nofun,nofun,nofun,nofun,nofun,nofun,nofun,nofun,nofun,nofun,nofun,nofun,nofun,nofun,nofun,nofun,(λ_=>⟨rfl,rfl,rfl,Nat.le_refl _,λ_ _=>rfl⟩)⟩)
       ·intro i o hilt hi D bP W hI hnD hall
        obtain⟨u115,u116,u117,u118,u119,u120,u121,u122,u123,u124,u125,u126,u127,u128,u129,u130,u131,rfl,hW,f0,f1,f2,f3,f4,f5,f6,f7,f8,f9,f10,f11,f12,f13,f14,f15,f16,f17,f18⟩:=hI
        rcases i with _|_|_|_|_|_|_|_|_|_|_|_|_|_|_|_|_|i<;>try cases hi
        ·refine af (v:=.pointer (some ⟨gk,0,none⟩)) rfl rfl rfl ?_
         exact aL <| aL <| (⟨_,rfl,hW,λ_=>rfl,λh=>f1 (rl h),λh=>f2 (rl h),λh=>f3 (rl h),λh=>f4 (rl h),λh=>f5 (rl h),λh=>f6 (rl h),λh=>f7 (rl h),λh=>f8 (rl h),λh=>f9 (rl h),λh=>f10 (rl h),λh=>f11 (rl h),λh=>f12 (rl h),(λh hn=>f13 (rl h) (λhc=>hn (.inr hc))),λh=>f14 (rl h),λh=>f15 (rl h),λh=>f16 (rl h),(λh=>.inr (f17 (rl h))),(λhn=>f18 (λhc=>hn (.inr hc)))⟩)
        ·refine af (v:=.pointer (some ⟨gk,0,none⟩)) rfl rfl rfl ?_
         exact aL <| aL <| (⟨_,rfl,hW,λh=>f0 (rl h),λ_=>rfl,λh=>f2 (rl h),λh=>f3 (rl h),λh=>f4 (rl h),λh=>f5 (rl h),λh=>f6 (rl h),λh=>f7 (rl h),λh=>f8 (rl h),λh=>f9 (rl h),λh=>f10 (rl h),λh=>f11 (rl h),λh=>f12 (rl h),(λh hn=>f13 (rl h) (λhc=>hn (.inr hc))),λh=>f14 (rl h),λh=>f15 (rl h),λh=>f16 (rl h),(λh=>.inr (f17 (rl h))),(λhn=>f18 (λhc=>hn (.inr hc)))⟩)
        ·obtain rfl:=f1 (aj hall 1 rfl)
         refine af (v:=.pointer (some ⟨gk,0,none⟩)) rfl rfl (by kernel_rfl) ?_
         exact aL <| aL <| (⟨_,rfl,hW,λh=>f0 (rl h),λh=>f1 (rl h),λ_=>rfl,λh=>f3 (rl h),λh=>f4 (rl h),λh=>f5 (rl h),λh=>f6 (rl h),λh=>f7 (rl h),λh=>f8 (rl h),λh=>f9 (rl h),λh=>f10 (rl h),λh=>f11 (rl h),λh=>f12 (rl h),(λh hn=>f13 (rl h) (λhc=>hn (.inr hc))),λh=>f14 (rl h),λh=>f15 (rl h),λh=>f16 (rl h),(λh=>.inr (f17 (rl h))),(λhn=>f18 (λhc=>hn (.inr hc)))⟩)
        ·obtain rfl:=f2 (aj hall 2 rfl)
         refine af (v:=.pointer (some ⟨gk,1,none⟩)) rfl rfl (by kernel_rfl) ?_
         exact aL <| aL <| (⟨_,rfl,hW,λh=>f0 (rl h),λh=>f1 (rl h),λh=>f2 (rl h),λ_=>rfl,λh=>f4 (rl h),λh=>f5 (rl h),λh=>f6 (rl h),λh=>f7 (rl h),λh=>f8 (rl h),λh=>f9 (rl h),λh=>f10 (rl h),λh=>f11 (rl h),λh=>f12 (rl h),(λh hn=>f13 (rl h) (λhc=>hn (.inr hc))),λh=>f14 (rl h),λh=>f15 (rl h),λh=>f16 (rl h),(λh=>.inr (f17 (rl h))),(λhn=>f18 (λhc=>hn (.inr hc)))⟩)
        ·obtain rfl:=f3 (aj hall 3 rfl)
         refine af (v:=.slice ak i ck) rfl rfl (bO rfl rfl underlying121 ((hW.cell (Nat.lt_succ_self _)).trans k1)) ?_
         exact aL <| aL <| (⟨_,rfl,hW,λh=>f0 (rl h),λh=>f1 (rl h),λh=>f2 (rl h),λh=>f3 (rl h),λ_=>rfl,λh=>f5 (rl h),λh=>f6 (rl h),λh=>f7 (rl h),λh=>f8 (rl h),λh=>f9 (rl h),λh=>f10 (rl h),λh=>f11 (rl h),λh=>f12 (rl h),(λh hn=>f13 (rl h) (λhc=>hn (.inr hc))),λh=>f14 (rl h),λh=>f15 (rl h),λh=>f16 (rl h),(λh=>.inr (f17 (rl h))),(λhn=>f18 (λhc=>hn (.inr hc)))⟩)
        ·refine af (v:=.slice (some ⟨Im,0,none⟩) (m+1) Vl) rfl rfl rfl ?_
         exact aL <| aL <| (⟨_,rfl,hW,λh=>f0 (rl h),λh=>f1 (rl h),λh=>f2 (rl h),λh=>f3 (rl h),λh=>f4 (rl h),λ_=>rfl,λh=>f6 (rl h),λh=>f7 (rl h),λh=>f8 (rl h),λh=>f9 (rl h),λh=>f10 (rl h),λh=>f11 (rl h),λh=>f12 (rl h),(λh hn=>f13 (rl h) (λhc=>hn (.inr hc))),λh=>f14 (rl h),λh=>f15 (rl h),λh=>f16 (rl h),(λh=>.inr (f17 (rl h))),(λhn=>f18 (λhc=>hn (.inr hc)))⟩)
        ·refine af (v:=.int .i64 (i:Int)) rfl rfl rfl ?_
         exact aL <| aL <| (⟨_,rfl,hW,λh=>f0 (rl h),λh=>f1 (rl h),λh=>f2 (rl h),λh=>f3 (rl h),λh=>f4 (rl h),λh=>f5 (rl h),λ_=>rfl,λh=>f7 (rl h),λh=>f8 (rl h),λh=>f9 (rl h),λh=>f10 (rl h),λh=>f11 (rl h),λh=>f12 (rl h),(λh hn=>f13 (rl h) (λhc=>hn (.inr hc))),λh=>f14 (rl h),λh=>f15 (rl h),λh=>f16 (rl h),(λh=>.inr (f17 (rl h))),(λhn=>f18 (λhc=>hn (.inr hc)))⟩)
        ·obtain rfl:=f6 (aj hall 6 rfl)
         refine af (v:=.int .i64 (q4:Int)) rfl rfl (EM rfl rfl rfl eq4 (by omega)) ?_
         exact aL <| aL <| (⟨_,rfl,hW,λh=>f0 (rl h),λh=>f1 (rl h),λh=>f2 (rl h),λh=>f3 (rl h),λh=>f4 (rl h),λh=>f5 (rl h),λh=>f6 (rl h),λ_=>rfl,λh=>f8 (rl h),λh=>f9 (rl h),λh=>f10 (rl h),λh=>f11 (rl h),λh=>f12 (rl h),(λh hn=>f13 (rl h) (λhc=>hn (.inr hc))),λh=>f14 (rl h),λh=>f15 (rl h),λh=>f16 (rl h),(λh=>.inr (f17 (rl h))),(λhn=>f18 (λhc=>hn (.inr hc)))⟩)
        ·refine af (v:=.int .i64 (i:Int)) rfl rfl rfl ?_
         exact aL <| aL <| (⟨_,rfl,hW,λh=>f0 (rl h),λh=>f1 (rl h),λh=>f2 (rl h),λh=>f3 (rl h),λh=>f4 (rl h),λh=>f5 (rl h),λh=>f6 (rl h),λh=>f7 (rl h),λ_=>rfl,λh=>f9 (rl h),λh=>f10 (rl h),λh=>f11 (rl h),λh=>f12 (rl h),(λh hn=>f13 (rl h) (λhc=>hn (.inr hc))),λh=>f14 (rl h),λh=>f15 (rl h),λh=>f16 (rl h),(λh=>.inr (f17 (rl h))),(λhn=>f18 (λhc=>hn (.inr hc)))⟩)
        ·obtain rfl:=f8 (aj hall 8 rfl)
         refine af (v:=.int .i64 (q4:Int)) rfl rfl (EM rfl rfl rfl eq4 (by omega)) ?_
         exact aL <| aL <| (⟨_,rfl,hW,λh=>f0 (rl h),λh=>f1 (rl h),λh=>f2 (rl h),λh=>f3 (rl h),λh=>f4 (rl h),λh=>f5 (rl h),λh=>f6 (rl h),λh=>f7 (rl h),λh=>f8 (rl h),λ_=>rfl,λh=>f10 (rl h),λh=>f11 (rl h),λh=>f12 (rl h),(λh hn=>f13 (rl h) (λhc=>hn (.inr hc))),λh=>f14 (rl h),λh=>f15 (rl h),λh=>f16 (rl h),(λh=>.inr (f17 (rl h))),(λhn=>f18 (λhc=>hn (.inr hc)))⟩)
        ·obtain rfl:=f9 (aj hall 9 rfl)
         refine af (v:=.int .i64 (q5:Int)) rfl rfl (xK rfl rfl rfl eq5 (by omega)) ?_
         exact aL <| aL <| (⟨_,rfl,hW,λh=>f0 (rl h),λh=>f1 (rl h),λh=>f2 (rl h),λh=>f3 (rl h),λh=>f4 (rl h),λh=>f5 (rl h),λh=>f6 (rl h),λh=>f7 (rl h),λh=>f8 (rl h),λh=>f9 (rl h),λ_=>rfl,λh=>f11 (rl h),λh=>f12 (rl h),(λh hn=>f13 (rl h) (λhc=>hn (.inr hc))),λh=>f14 (rl h),λh=>f15 (rl h),λh=>f16 (rl h),(λh=>.inr (f17 (rl h))),(λhn=>f18 (λhc=>hn (.inr hc)))⟩)
        ·obtain rfl:=f5 (aj hall 5 rfl)
         obtain rfl:=f7 (aj hall 7 rfl)
         obtain rfl:=f10 (aj hall 10 rfl)
         refine af (v:=.slice (some ⟨Im,0+q4*4,none⟩) 4 (Vl-q4)) rfl rfl (tH underlying115 Sn rfl rfl rfl rfl (by rw[←hq5.out];omega) (by omega) (by omega) (by rw[←hq5.out];omega)) ?_
         exact aL <| aL <| (⟨_,rfl,hW,λh=>f0 (rl h),λh=>f1 (rl h),λh=>f2 (rl h),λh=>f3 (rl h),λh=>f4 (rl h),λh=>f5 (rl h),λh=>f6 (rl h),λh=>f7 (rl h),λh=>f8 (rl h),λh=>f9 (rl h),λh=>f10 (rl h),λ_=>rfl,λh=>f12 (rl h),(λh hn=>f13 (rl h) (λhc=>hn (.inr hc))),λh=>f14 (rl h),λh=>f15 (rl h),λh=>f16 (rl h),(λh=>.inr (f17 (rl h))),(λhn=>f18 (λhc=>hn (.inr hc)))⟩)
        ·obtain rfl:=f11 (aj hall 11 rfl)
         refine aV 48 rfl rfl rfl func48 (by kernel_rfl) (by kernel_rfl) (hjo W (S2.MV (by omega) hW)) ?_
         intro W' hW'
         exact aL <| aL <| (⟨_,rfl,dx hW hW' (Nat.le_trans (Xc) hW.size),λh=>f0 (rl h),λh=>f1 (rl h),λh=>f2 (rl h),λh=>f3 (rl h),λh=>f4 (rl h),λh=>f5 (rl h),λh=>f6 (rl h),λh=>f7 (rl h),λh=>f8 (rl h),λh=>f9 (rl h),λh=>f10 (rl h),λh=>f11 (rl h),λ_=>rfl,(λh hn=>(pY.below) (f13 (rl h) (λhc=>hn (.inr hc))) hW'),(λh=>(dD.below) (f14 (rl h)) hW'),λh=>f15 (rl h),λh=>f16 (rl h),(λh=>.inr (f17 (rl h))),(λhn=>((λh hW'=>bC h hW')) (f18 (λhc=>hn (.inr hc))) hW')⟩)
        ·obtain rfl:=f12 (aj hall 12 rfl)
         refine cz rfl rfl (nD (u0:=.agg (ints .u8 zs)) rfl rfl (Dz zs Mg W)) ?_;have hW':=bN W (.cells (ints .u8 [zs].flatten) 96);have Ms:=aA.new W 96 (ints .u8 [zs].flatten);rw[List.flatten_singleton] at hW' Ms ⊢
         exact aL <| aL <| (⟨_,rfl,dx hW hW' (Nat.le_trans (Xc) hW.size),λh=>f0 (rl h),λh=>f1 (rl h),λh=>f2 (rl h),λh=>f3 (rl h),λh=>f4 (rl h),λh=>f5 (rl h),λh=>f6 (rl h),λh=>f7 (rl h),λh=>f8 (rl h),λh=>f9 (rl h),λh=>f10 (rl h),λh=>f11 (rl h),λh=>f12 (rl h),(λ_ _=>⟨_,rfl,Sl.blk Ms⟩),(λh=>(dD.below) (f14 (rl h)) hW'),λh=>f15 (rl h),λh=>f16 (rl h),(λ_=>.inl rfl),(λhn=>((λh hW'=>bC h hW')) (f18 (λhc=>hn (.inr hc))) hW')⟩)
        ·have hI0:=f18 hnD
         obtain rfl:=f4 (aj hall 4 rfl)
         have hO:=O.below hI0;obtain⟨g9,rfl,s9⟩:=(f13 (aj hall 13 rfl) hnD);refine sO rfl rfl rfl underlying121 YU acZ (by decide) (by decide) rfl hO rfl Mg s9 (by omega) (Nat.le_trans Xc hW.size) ?_;intro v' W' O' hgr;have hWB:=hO.gI hW hgr (Nat.le_trans Xc hW.size) dM
         exact aL <| aL <| (⟨_,rfl,hWB,λh=>f0 (rl h),λh=>f1 (rl h),λh=>f2 (rl h),λh=>f3 (rl h),λh=>f4 (rl h),λh=>f5 (rl h),λh=>f6 (rl h),λh=>f7 (rl h),λh=>f8 (rl h),λh=>f9 (rl h),λh=>f10 (rl h),λh=>f11 (rl h),λh=>f12 (rl h),(λ_ hn=>(hn (.inl rfl)).elim),(λ_=>O'),λh=>f15 (rl h),λh=>f16 (rl h),(λ_=>.inr (aj hall 13 rfl)),(λhn=>(hn (.inl rfl)).elim)⟩)
        ·obtain rfl:=f0 (aj hall 0 rfl)
         refine af (v:=.pointer (some ⟨gk,0,none⟩)) rfl rfl (by kernel_rfl) ?_
         exact aL <| aL <| (⟨_,rfl,hW,λh=>f0 (rl h),λh=>f1 (rl h),λh=>f2 (rl h),λh=>f3 (rl h),λh=>f4 (rl h),λh=>f5 (rl h),λh=>f6 (rl h),λh=>f7 (rl h),λh=>f8 (rl h),λh=>f9 (rl h),λh=>f10 (rl h),λh=>f11 (rl h),λh=>f12 (rl h),(λh hn=>f13 (rl h) (λhc=>hn (.inr hc))),λh=>f14 (rl h),λ_=>rfl,λh=>f16 (rl h),(λh=>.inr (f17 (rl h))),(λhn=>f18 (λhc=>hn (.inr hc)))⟩)
        ·obtain rfl:=f15 (aj hall 15 rfl)
         refine af (v:=.pointer (some ⟨gk,1,none⟩)) rfl rfl (by kernel_rfl) ?_
         exact aL <| aL <| (⟨_,rfl,hW,λh=>f0 (rl h),λh=>f1 (rl h),λh=>f2 (rl h),λh=>f3 (rl h),λh=>f4 (rl h),λh=>f5 (rl h),λh=>f6 (rl h),λh=>f7 (rl h),λh=>f8 (rl h),λh=>f9 (rl h),λh=>f10 (rl h),λh=>f11 (rl h),λh=>f12 (rl h),(λh hn=>f13 (rl h) (λhc=>hn (.inr hc))),λh=>f14 (rl h),λh=>f15 (rl h),λ_=>rfl,(λh=>.inr (f17 (rl h))),(λhn=>f18 (λhc=>hn (.inr hc)))⟩)
        ·exfalso;omega
       ·rintro D bP W ⟨u115,u116,u117,u118,u119,u120,u121,u122,u123,u124,u125,u126,u127,u128,u129,u130,u131,rfl,hW,f0,f1,f2,f3,f4,f5,f6,f7,f8,f9,f10,f11,f12,f13,f14,f15,f16,f17,f18⟩ hall
        obtain rfl:=f0 (hall 0 (by decide))
        obtain rfl:=f1 (hall 1 (by decide))
        obtain rfl:=f2 (hall 2 (by decide))
        obtain rfl:=f3 (hall 3 (by decide))
        obtain rfl:=f4 (hall 4 (by decide))
        obtain rfl:=f5 (hall 5 (by decide))
        obtain rfl:=f6 (hall 6 (by decide))
        obtain rfl:=f7 (hall 7 (by decide))
        obtain rfl:=f8 (hall 8 (by decide))
        obtain rfl:=f9 (hall 9 (by decide))
        obtain rfl:=f10 (hall 10 (by decide))
        obtain rfl:=f11 (hall 11 (by decide))
        obtain rfl:=f12 (hall 12 (by decide))
        obtain rfl:=f15 (hall 15 (by decide))
        obtain rfl:=f16 (hall 16 (by decide))
        have Qn:=f14 (hall 14 (by decide))
        clear f0 f1 f2 f3 f4 f5 f6 f7 f8 f9 f10 f11 f12 f13 f14 f15 f16 f17 f18 hall
        rw[HZ.out] at Qn
        have Bw:=B.below hW (Nat.lt_succ_self _)
        have Sw:=S.MV (by omega:Im<gk+1) hW
        have hbw:=hbel.trans (hW.mono (by omega:w.heap.size<=gk+1))
        obtain⟨a9,c9,rfl,-,-,-⟩:=Qn.mZ
        have B8:=Bw.kL 1 (.slice a9 (i+1) c9)
        have O8:=Qn.ch (Ch.bX (iG.set W gk 1 (.slice a9 (i+1) c9))) (λh=>by have:=Qn.afX _ h;omega)
        have S8:=Sw.far (p:=⟨gk,1,none⟩) (λh=>by have h:Im=gk:=h;omega) (.slice a9 (i+1) c9)
        have gL:=hbw.setCell (p:=⟨gk,1,none⟩) (by omega:w.heap.size<=gk) (.slice a9 (i+1) c9)
        have k8:=Bw.cell 1
        have z8:=Bw.frozen 1
        clear B O S hbel hW Qn Sw hbw
        refine Ej rfl rfl rfl (by kernel_rfl) rfl rfl k8 z8 ?_
        generalize W.setCell ⟨gk,1,none⟩ (.slice a9 (i+1) c9)=w9 at *
        go_wp2_with fail
        exact⟨⟨i+1,a9,c9,by omega,by go_num,B8,O8,S8,gL⟩,by simp[intOf]<;>omega⟩
      ·have ei:i=n+7:=by omega
       have hd:decide ((i:Int)<(n:Int)+6+1)=false:=by simp;omega
       have HFl:(jC L key).flatten=F.take (16*i):=by rw[hKs.out,HF.out,rX,ei]
       rw[ei] at O HFl B
       rw[←HFl] at O
       obtain⟨gk2,ck2,e9,-,-,SK,hck⟩:=O.sl2 (by omega)
       cases e9
       clear O HFl S ei hlt hi
       go_wp2_with fail
       simp only[Exit.jump,Exit.inBlock,Exit.then]
       refine bodyPost_ret (v:=.tuple #[.pointer (some ⟨gk,0,none⟩),.int .i64 0]) ?_ rfl ?_
       ·kernel_rfl
       ·exact⟨gk,gk2,ck,rfl,afS,B,SK,hck,hbel⟩
 ·intro pass
  go_wp2_with fail
  refine(hsh w).mono ?_
  clear hsh
  rintro e w1 ⟨rfl,rfl⟩
  go_wp2_with (at_make;refine wpList_make_own _ rfl _ _ 115 rfl w.heap.size 116 iw (.agg (ints .u8 (zeros 4))) 4 underlying115 hiw hz0 hz1 .i64 .i64 _ R rfl rfl rfl (by rw[hz2,←hR.out];omega) (by simp only[maxLen];rw[←hR.out];omega) dM ?_;(intro w2 ho hgr);(have aB:=(Below.refl w.heap.size w).grown hgr dM (λk hk=>by cases hk));(have O2:dD w2 w.heap.size 116 4 .u8 (.slice (some ⟨w.heap.size,0,none⟩) 0 R) 0 []:=ho);(clear ho hgr);((try simp only[nn,Nat.reduceAdd])))
  go_loopw [9,33] (λs t wr=>∃i:Nat,i<=n/\t=.int .i64 (i:Int)/\dD wr w.heap.size 116 4 .u8 s i (Vb key i)/\Below w.heap.size w wr) (λs t wr=>n-(intOf t).toNat)
  case atStart=>exact⟨0,by omega,rfl,O2,aB⟩
  case round =>
   clear O2 aB
   obtain⟨i,hi,rfl,O,hbel⟩:=hrel
   by_cases hlt:i<n
   ·have hd:decide ((i:Int)<(n:Int))=true:=by simp;omega
    obtain⟨q,hq⟩:=bD (4*i)
    have hqi:4*(i:Int)=(q:Int):=by rw[←hq.out];omega
    have hq32:q<32:=by rw[←hq.out];omega
    have hw1:=hwd q (by omega) wr (hS.below hbel)
    have hnl:=eG hkb q 4
    have HD:Hid (Vb key (i+1)=Vb key i++cZ 256 4 (aT key q 4)):=aR (by rw[←hq.out];rfl)
    have hpw:=qm (aT key q 4) hnl
    have hzl:(cZ 256 4 (aT key q 4)).length=4:=bn _ _ _
    generalize cZ 256 4 (aT key q 4)=zs at *
    generalize aT key q 4=v at *
    go_wp2_with fail
    refine hw1.mono ?_
    clear hw1
    rintro e w3 ⟨rfl,hb3⟩
    have aG:=bC hbel hb3
    have O3:=O.below hb3
    go_wp2_with fail
    refine(hpw w3).mono ?_
    clear hpw
    rintro e w4 ⟨rfl,hb4⟩
    have aY:=bC aG hb4
    have O4:=O3.below hb4
    have hb5:=bN w4 (.cells (ints .u8 zs) 116)
    have bA:=bC aY hb5
    have O5:=O4.below hb5
    have S5:Sl _ (some ⟨w4.heap.size,0,none⟩) .u8 zs:=Sl.blk (aA.new w4 116 (ints .u8 zs))
    clear O hbel hb3 O3 aG hb4 O4 aY hb5
    have hbs:=bsW zs hzl w4
    obtain⟨w5,aec⟩:=bD (w4.alloc (.cells (ints .u8 zs) 116))
    obtain⟨g5,hg5⟩:=bD (w4.heap.size)
    rw[aec.out,hg5.out] at hbs
    rw[aec.out] at bA O5 S5
    rw[hg5.out] at S5
    go_wp2_with ((first
     | (refine fP rfl (nD (u0:=.agg (ints .u8 zs)) rfl rfl hbs) ?_)
     | (at_builtin;refine iR rfl rfl underlying115 Sn ZE (by decide) (by decide) rfl O5 rfl hzl S5 (by omega) bA.size ?_;(intro v' w6 O6 hgr);(have bK:=O5.gI bA hgr bA.size dM);(rw[←HD.out] at O6);(clear O5 bA S5 hgr)));(try simp only[nn,Nat.reduceAdd]))
    exact⟨⟨i+1,by omega,by go_num,O6,bK⟩,by simp[intOf]<;>omega⟩
   ·have ei:i=n:=by omega
    have hd:decide ((i:Int)<(n:Int))=false:=by simp;omega
    rw[ei] at O
    obtain⟨gw,cw,rfl,-,-,-,-⟩:=O.sl2 (by omega)
    clear ei
    go_wp2_with fail
    refine wp_label ?_
    rename_i hKx
    refine hKx _ _ ?_
    exact pass _ _ (HI.out _ _ ⟨0,n,gw,cw,1,Vb key n,rfl,aR rfl,by omega,O,aR rfl,hbel⟩)
end
end Go.Proofs.YtaiffkajkbiidaaGreatDoor
