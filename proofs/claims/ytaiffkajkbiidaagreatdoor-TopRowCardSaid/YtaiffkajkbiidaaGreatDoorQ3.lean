/- What this claim leans on, part 3: laws of the model, and what functions of the program compute. No condition but what each law states. -/
import Derived.Test.YtaiffkajkbiidaaGreatDoorQ2
namespace Go.Proofs.YtaiffkajkbiidaaGreatDoor
set_option linter.unusedSimpArgs false
set_option linter.unusedVariables false
set_option linter.unusedSectionVars false
set_option maxRecDepth 100000
set_option maxHeartbeats 40000000
open Go.Proofs.Tryz
open Tryz
section
open Go.RowKit
section
variable {P:Program}
theorem bq {a:Act}{o:Oper}{W:World}{x:Operand}{T n g off:Nat}{k:IntKind}{xs:List Nat}(ho:o.op=.load T x)(hx:a.eval x=.pointer (some ⟨g,off,none⟩))(hs:Sl W (some ⟨g,off,none⟩) k xs)(ha:dG P T n)(hl:xs.length=n)(hne:xs≠[]) :
  (execOp a.eval o).run P W=.ok (.value (.agg (ints k xs))) W:=by
 obtain⟨⟨d,h1,hd⟩,h2⟩:=ha
 obtain⟨g',off',q1,q2,q3⟩:=hs hne
 cases q1
 have hr:W.rangeAt g off (ints k xs).toList:=λj u hj=>by
  rw[Array.getElem?_toList,iC] at hj
  by_cases hlt:j<xs.length
  ·rw[getD_lt hlt] at hj
   simp only[Option.map_some,Option.some.injEq] at hj
   subst hj
   exact q3 j hlt
  ·rw[List.getElem?_eq_none (by omega)] at hj;cases hj
 unfold execOp
 simp only[ho,hx,Instr.loadAt,Instr.sureAddr,Sem.run_bind,Sem.run_pure,Result.andThen_ok,run_loadVar_mid W g off _ _ d hr h1 (by cases d<;>first|rfl|cases hd) (by rw[Array.length_toList,aF,hl];exact h2)]
end
theorem Tryz.vZ:dG prog 65 4:=jH underlying65 (by kernel_rfl)
def iV:List Nat:=[2,3,1,1]
def fM:List Nat:=[14,11,13,9]
def Gl (w:World):Prop:=Sl w (some ⟨0,0,none⟩) .u8 iV/\Sl w (some ⟨1,0,none⟩) .u8 fM
theorem Gl.below {w w':World}(h:Gl w)(hb:Below w.heap.size w w'):Gl w':=⟨h.1.below hb,h.2.below hb⟩
def abL (BD:List Nat)(row a:Nat):Nat->Nat
 | 0=>0
 | r+1=>abL BD row a r ||| Qa (BD.getD ((row+4-r)%4) 0) a*2^(8*r)
def qF (BD:List Nat)(row a:Nat):Nat:=abL BD row a 4
theorem DC {BD:List Nat}(hb:∀x∈BD,x<256)(row a:Nat):∀r,r<=4->abL BD row a r<4294967296
 | 0,_=>(by decide:0<4294967296)
 | r+1,h=>by
  refine Nat.or_lt_two_pow (n:=32) (DC hb row a r (by omega)) ?_
  have h1:=TN (b:=a) (aC hb (by decide) ((row+4-r)%4))
  have h2:r=0∨r=1∨r=2∨r=3:=by omega
  rcases h2 with rfl|rfl|rfl|rfl<;>simp only[Nat.reduceMul,Nat.reducePow]<;>omega
theorem GQ (BD:List Nat)(hl:BD.length=4)(hb:∀x∈BD,x<256)(row a:Nat)(hr:row<4)(ha:a<256)(w:World) :
  Calls prog 24 #[.agg (ints .u8 BD),.int .i64 (row:Int),.int .u8 (a:Int)] w λe w'=>e=.returned (.int .u32 (qF BD row a:Nat))/\Below w.heap.size w w':=by
 have B0:=aA.new w 65 (ints .u8 BD)
 have hbel:=bN w (.cells (ints .u8 BD) 65)
 go_enter func24,ntmps24
 go_wp2_with fail
 go_loop [7,9] (λs t=>∃r:Nat,r<=4/\t=.int .i64 (r:Int)/\s=.int .u32 ((abL BD row a r:Nat):Int)) (λs t=>4-(intOf t).toNat)
 case atStart=>exact⟨0,by omega,rfl,rfl⟩
 case round =>
  obtain⟨r,hr4,rfl,rfl⟩:=hrel
  by_cases hlt:r<4
  ·have hd:decide ((r:Int)<4)=true:=by simp;omega
   obtain⟨j,Hj⟩:=bD ((row+4-r)%4)
   have hj:j<4:=by rw[←Hj.out];omega
   have hji:(j:Int)<4:=by omega
   have hrt:((row:Int)-(r:Int)+4).tmod 4=(j:Int):=by
    rw[Int.tmod_eq_emod_of_nonneg (by omega),←Hj.out];omega
   have c0:=B0.int (i:=j) (by omega)
   have hx:=aC hb (by decide) j
   have HB:Hid (abL BD row a (r+1)=abL BD row a r ||| Qa (BD.getD j 0) a*2^(8*r)):=aR (by rw[←Hj.out];rfl)
   have ht:=TN (b:=a) hx
   have hk:=DC hb row a r hr4
   generalize BD.getD j 0=x at *
   have htc:=OT x a hx ha
   have HS:Hid (Qa x a*2^(8*r)<4294967296):=aR (by
    have h2:r=0∨r=1∨r=2∨r=3:=by omega
    rcases h2 with rfl|rfl|rfl|rfl<;>simp only[Nat.reduceMul,Nat.reducePow]<;>omega)
   have HO:=aR (u32_or_nat (abL BD row a r) (Qa x a*2^(8*r)) hk HS.out)
   go_wp2_with fail
   refine(htc _).mono ?_
   rintro e w1 ⟨rfl,rfl⟩
   clear htc
   go_wp2_with fail
   have he:((Qa x a:Nat):Int)*2^(8*r)%4294967296=((Qa x a*2^(8*r):Nat):Int):=by
    have h1:((Qa x a*2^(8*r):Nat):Int)=((Qa x a:Nat):Int)*2^(8*r):=by simp
    rw[←h1]
    have:=HS.out
    omega
   rw[he,HO.out,←HB.out]
   exact⟨⟨r+1,by omega,by go_num,rfl⟩,by simp[intOf]<;>omega⟩
  ·obtain rfl:r=4:=by omega
   go_wp2_with fail
   go_ret
   exact⟨rfl,hbel⟩
def tY (L:List Nat)(n:Nat):Nat:=qF iV (n/256) (L.getD (n%256) 0)
def Nz (n:Nat):Nat:=qF fM (n/256) (n%256)
def ng (w:World)(g gb:Nat)(L:List Nat)(n:Nat):Prop:=∃cs:Array Value,aA w g 56 cs/\cs.size=2049/\cs[0]?=some (.pointer (some ⟨gb,0,none⟩))/\∀k,k<n->cs[1+k]?=some (.int .u32 ((tY L k:Nat):Int))/\cs[1025+k]?=some (.int .u32 ((Nz k:Nat):Int))
theorem ng.lt {w:World}{g gb n:Nat}{L:List Nat}(h:ng w g gb L n):g<w.heap.size:=let ⟨_,h1,_⟩:=h;h1.lt
theorem ng.below {w w':World}{g gb n:Nat}{L:List Nat}(h:ng w g gb L n)(hb:Below w.heap.size w w'):ng w' g gb L n:=let ⟨cs,h1,h2⟩:=h;⟨cs,h1.below' hb,h2⟩
theorem ng.box {w:World}{g gb n:Nat}{L:List Nat}(h:ng w g gb L n):w.cell? ⟨g,0,none⟩=some (.pointer (some ⟨gb,0,none⟩)):=by
 obtain⟨cs,h1,-,h2,-⟩:=h
 rw[h1.cell,h2]
theorem ng.mix {w:World}{g gb n k:Nat}{L:List Nat}(h:ng w g gb L n)(hk:k<n):w.cell? ⟨g,1+k,none⟩=some (.int .u32 ((tY L k:Nat):Int)):=by
 obtain⟨cs,h1,-,-,h2⟩:=h
 rw[h1.cell,(h2 k hk).1]
theorem ng.at_ {w:World}{g gb n:Nat}{L:List Nat}(h:ng w g gb L n){i:Nat}(hi:i<2049):∃v,w.cell? ⟨g,i,none⟩=some v/\w.frozen? ⟨g,i,none⟩=false:=by
 obtain⟨cs,h1,h2,-⟩:=h
 exact⟨cs[i]'(by omega),by rw[h1.cell,Array.getElem?_eq_getElem (by omega)],h1.frozen i⟩
def acS (w:World)(g gb:Nat)(L:List Nat)(n:Nat):Prop:=ng w g gb L n/\w.cell? ⟨g,1+n,none⟩=some (.int .u32 ((tY L n:Nat):Int))
theorem acS.below {w w':World}{g gb n:Nat}{L:List Nat}(h:acS w g gb L n)(hb:Below w.heap.size w w'):acS w' g gb L n:=⟨h.1.below hb,(hb.cell (p:=⟨g,1+n,none⟩) h.1.lt).trans h.2⟩
theorem ng.lay {w:World}{g gb n:Nat}{L:List Nat}(h:ng w g gb L n)(hn:n<1024):acS (w.setCell ⟨g,1+n,none⟩ (.int .u32 ((tY L n:Nat):Int))) g gb L n:=by
 obtain⟨cs,h1,h2,h3,h4⟩:=h
 have h5:=h1.kL (1+n) (.int .u32 ((tY L n:Nat):Int))
 refine⟨⟨_,h5,by rw[Array.size_setIfInBounds];exact h2,?_,λk hk=>⟨?_,?_⟩⟩,?_⟩
 ·rw[Array.getElem?_setIfInBounds_ne (by omega)];exact h3
 ·rw[Array.getElem?_setIfInBounds_ne (by omega)];exact(h4 k hk).1
 ·rw[Array.getElem?_setIfInBounds_ne (by omega)];exact(h4 k hk).2
 ·rw[h5.cell,Array.getElem?_setIfInBounds_self_of_lt (by omega)]
theorem acS.lay {w:World}{g gb n:Nat}{L:List Nat}(h:acS w g gb L n)(hn:n<1024):ng (w.setCell ⟨g,1025+n,none⟩ (.int .u32 ((Nz n:Nat):Int))) g gb L (n+1):=by
 obtain⟨⟨cs,h1,h2,h3,h4⟩,h6⟩:=h
 rw[h1.cell] at h6
 have h5:=h1.kL (1025+n) (.int .u32 ((Nz n:Nat):Int))
 refine⟨_,h5,by rw[Array.size_setIfInBounds];exact h2,?_,λk hk=>?_⟩
 ·rw[Array.getElem?_setIfInBounds_ne (by omega)];exact h3
 ·by_cases hkn:k=n
  ·subst hkn
   exact⟨by rw[Array.getElem?_setIfInBounds_ne (by omega)];exact h6,by rw[Array.getElem?_setIfInBounds_self_of_lt (by omega)]⟩
  ·have hk':k<n:=by omega
   exact⟨by rw[Array.getElem?_setIfInBounds_ne (by omega)];exact(h4 k hk').1,by rw[Array.getElem?_setIfInBounds_ne (by omega)];exact(h4 k hk').2⟩
theorem Wy {L:List Nat}{r q:Nat}(hq:q<256):tY L (256*r+q)=qF iV r (L.getD q 0):=by
 unfold tY
 rw[show (256*r+q)/256=r by omega,show (256*r+q)%256=q by omega]
theorem ZM {r q:Nat}(hq:q<256):Nz (256*r+q)=qF fM r q:=by
 unfold Nz
 rw[show (256*r+q)/256=r by omega,show (256*r+q)%256=q by omega]
theorem ND (gb:Nat)(L:List Nat)(hL:L.length=512)(DZ:∀x∈L,x<256)(w:World)(B0:aA w gb 69 (ints .u8 L))(hG:Gl w) :
  Calls prog 19 #[.pointer (some ⟨gb,0,none⟩)] w λe w'=>∃g,e=.returned (.pointer (some ⟨g,0,none⟩))/\w.heap.size<=g/\ng w' g gb L 1024/\Below w.heap.size w w':=by
 have T0:ng (w.alloc (.cells (zeroCells56.setIfInBounds 0 (.pointer (some ⟨gb,0,none⟩))) 56)) w.heap.size gb L 0 :=
  ⟨_,aA.new w _ _,by rw[Array.size_setIfInBounds];exact zeroCells56_size,by rw[Array.getElem?_setIfInBounds_self_of_lt (by rw[zeroCells56_size];decide)],λk hk=>by omega⟩
 have hbel0:=bN w (.cells (zeroCells56.setIfInBounds 0 (.pointer (some ⟨gb,0,none⟩))) 56)
 go_enter func19,ntmps19
 go_wp2_with fail
 generalize (w.alloc (.cells (zeroCells56.setIfInBounds 0 (.pointer (some ⟨gb,0,none⟩))) 56))=w0 at *
 go_loopw [11] (λs wr=>∃r:Nat,r<=4/\s=.int .i64 (r:Int)/\ng wr w.heap.size gb L (256*r)/\Below w.heap.size w wr) (λs wr=>4-(intOf s).toNat)
 case atStart=>exact⟨0,by omega,rfl,T0,hbel0⟩
 case round =>
  clear T0 hbel0
  obtain⟨r,hr,rfl,T1,aK⟩:=hrel
  by_cases hlt:r<4
  ·have hd:decide ((r:Int)<4)=true:=by simp;omega
   go_wp2_with fail
   go_loopw [14] (λs wr'=>∃q:Nat,q<=256/\s=.int .i64 (q:Int)/\ng wr' w.heap.size gb L (256*r+q)/\Below w.heap.size w wr') (λs wr'=>256-(intOf s).toNat)
   case atStart=>exact⟨0,by omega,rfl,T1,aK⟩
   case round =>
    clear T1 aK
    obtain⟨q,hq,rfl,T1,aK⟩:=hrel
    by_cases hlq:q<256
    ·have hd2:decide ((q:Int)<256)=true:=by simp;omega
     have hwq:IntKind.u8.wrap (q:Int)=(q:Int):=by rw[IntKind.wrap_u8];omega
     have hG1:=hG.below aK
     have B1:=B0.below' aK
     have hLq:=aC DZ (by decide) q
     have hri:(r:Int)<4:=by omega
     have hqi:(q:Int)<256:=by omega
     have HV:=aR (Wy (L:=L) (r:=r) hlq)
     have HU:=aR (ZM (r:=r) hlq)
     have hn:256*r+q<1024:=by omega
     have HLQ:=aR λW (hB:aA W gb 69 (ints .u8 L))=>Ki gb q L hlq hL W hB
     generalize L.getD q 0=lq at *
     go_wp2_with fail
     refine bR 14 (by kernel_rfl) (by kernel_rfl) ?_
     simp only[List.take_succ_cons,List.take_zero,List.drop_succ_cons,List.drop_zero]
     go_big_quiet_step (fail)
     go_big_quiet_step (fail)
     go_big_quiet_step (fail)
     refine fA rfl (λW hC=>bq rfl rfl (hG1.below hC).1 vZ rfl (by decide)) ?_
     (try simp only[nn,Nat.reduceAdd])
     go_big_quiet_step (fail)
     go_big_quiet_step (fail)
     go_big_quiet_step (fail)
     refine bE (v:=.int .u8 (q:Int)) rfl (λW=>oM rfl underlying3 underlying5 rfl hwq) ?_
     (try simp only[nn,Nat.reduceAdd])
     refine di 21 rfl rfl func21 (by kernel_rfl) (by kernel_rfl) (λW hQ=>tN (HLQ.out W (B1.below' hQ))) ?_
     (try simp only[nn,Nat.reduceAdd])
     refine di 24 rfl rfl func24 (by kernel_rfl) (by kernel_rfl) (λW hQ=>GQ iV rfl (by decide) r lq hlt hLq W) ?_
     (try simp only[nn,Nat.reduceAdd])
     refine bE (v:=.pointer (some ⟨w.heap.size,0,none⟩)) rfl (λW=>by kernel_rfl) ?_
     (try simp only[nn,Nat.reduceAdd])
     refine bE (v:=.pointer (some ⟨w.heap.size,1,none⟩)) rfl (λW=>by kernel_rfl) ?_
     (try simp only[nn,Nat.reduceAdd])
     go_big_quiet_step ((intro _;rfl))
     go_big_quiet_step ((intro _;rfl))
     refine wpQuiet_nil ?_
     intro w' hw'
     have aB:=bC aK hw'
     have T2:=T1.below hw'
     obtain⟨v0,c0,z0⟩:=T2.at_ (i:=1+(256*r+q)) (by omega)
     have hoff:1+(256*r+q)=1+r*256+q:=by omega
     rw[hoff] at c0 z0
     have T3:=T2.lay hn
     rw[HV.out,hoff] at T3
     have aG:=aB.setCell (p:=⟨w.heap.size,1+r*256+q,none⟩) dM (.int .u32 ((qF iV r lq:Nat):Int))
     have hG3:=hG.below aG
     clear T1 T2 aK hw' aB B1 hG1
     go_wp2_with fail
     clear c0 z0
     generalize (w'.setCell ⟨w.heap.size,1+r*256+q,none⟩ (.int .u32 ((qF iV r lq:Nat):Int)))=w3 at *
     refine bR 12 (by kernel_rfl) (by kernel_rfl) ?_
     simp only[List.take_succ_cons,List.take_zero,List.drop_succ_cons,List.drop_zero]
     go_big_quiet_step (fail)
     go_big_quiet_step (fail)
     go_big_quiet_step (fail)
     refine fA rfl (λW hC=>bq rfl rfl (hG3.below hC).2 vZ rfl (by decide)) ?_
     (try simp only[nn,Nat.reduceAdd])
     go_big_quiet_step (fail)
     go_big_quiet_step (fail)
     refine bE (v:=.int .u8 (q:Int)) rfl (λW=>oM rfl underlying3 underlying5 rfl hwq) ?_
     (try simp only[nn,Nat.reduceAdd])
     refine di 24 rfl rfl func24 (by kernel_rfl) (by kernel_rfl) (λW hQ=>GQ fM rfl (by decide) r q hlt hlq W) ?_
     (try simp only[nn,Nat.reduceAdd])
     refine bE (v:=.pointer (some ⟨w.heap.size,0,none⟩)) rfl (λW=>by kernel_rfl) ?_
     (try simp only[nn,Nat.reduceAdd])
     refine bE (v:=.pointer (some ⟨w.heap.size,1025,none⟩)) rfl (λW=>by kernel_rfl) ?_
     (try simp only[nn,Nat.reduceAdd])
     go_big_quiet_step ((intro _;rfl))
     go_big_quiet_step ((intro _;rfl))
     refine wpQuiet_nil ?_
     intro w' hw'
     have aB:=bC aG hw'
     have T2:=T3.below hw'
     obtain⟨v0,c0,z0⟩:=T2.1.at_ (i:=1025+(256*r+q)) (by omega)
     have hoff:1025+(256*r+q)=1025+r*256+q:=by omega
     rw[hoff] at c0 z0
     have T4:=T2.lay hn
     rw[HU.out,hoff] at T4
     have aY:=aB.setCell (p:=⟨w.heap.size,1025+r*256+q,none⟩) dM (.int .u32 ((qF fM r q:Nat):Int))
     clear T2 T3 aG hw' aB hG3
     go_wp2_with fail
     exact⟨⟨q+1,by omega,by go_num,T4,aY⟩,by simp[intOf]<;>omega⟩
    ·obtain rfl:q=256:=by omega
     have hd2:decide (((256:Nat):Int)<256)=false:=by simp
     go_wp2_with fail
     exact⟨⟨r+1,by omega,by go_num,T1,aK⟩,by simp[intOf]<;>omega⟩
  ·obtain rfl:r=4:=by omega
   go_wp2
   go_ret
   exact⟨_,rfl,Nat.le_refl _,T1,aK⟩
theorem uW (g gb a:Nat)(L:List Nat)(ha:a<256)(hL:L.length=512)(w:World)(hT:ng w g gb L 1024)(B0:aA w gb 69 (ints .u8 L)) :
  Calls prog 14 #[.pointer (some ⟨g,0,none⟩),.int .u8 (a:Int)] w λe w'=>e=.returned (.int .u8 (L.getD a 0:Nat))/\w=w':=by
 have c0:=hT.box
 have hto:=Ki gb a L ha hL w B0
 generalize L.getD a 0=v at *
 go_enter func14,ntmps14
 go_wp2_with fail
 refine hto.mono ?_
 rintro e w1 ⟨rfl,rfl⟩
 go_wp2
 go_ret
 exact⟨rfl,rfl⟩
def lJ (w:World)(g gb:Nat):Prop:=ng w g gb (dW 255) 1024/\aA w gb 69 (ints .u8 (dW 255))
theorem lJ.below {w w':World}{g gb:Nat}(h:lJ w g gb)(hb:Below w.heap.size w w'):lJ w' g gb:=⟨h.1.below hb,h.2.below' hb⟩
end
section
open Go.RowKit
theorem Tryz.Vp:IsZero prog 65 4 .u8:=isZero (by kernel_rfl)
theorem qm (n:Nat)(hn:n<4294967296)(w:World) :
  Calls prog 44 #[.int .u32 n] w λe w'=>e=.returned (.agg (ints .u8 (cZ 256 4 n)))/\Below w.heap.size w w':=by
 go_enter func44,ntmps44
 go_wp2_with ((first|(refine ae rfl 65 rfl Vp ?_));(try simp only[nn,Nat.reduceAdd]))
 go_loopw [5] (λt wr=>∃k:Nat,k<=4/\t=.int .i64 k/\aA wr w.heap.size 65 (ints .u8 (zeros 4))/\aA wr (w.heap.size+1) 65 (ints .u8 ((cZ 256 4 n).take k++zeros (4-k)))/\Below w.heap.size w wr) (λt wr=>4-(intOf t).toNat)
 case atStart=>exact⟨0,by omega,rfl,(aA.new _ _ _).alloc _,aA.new' (by simp),((bN _ _).alloc (by simp) _)⟩
 case round =>
  rename_i hrel
  obtain⟨k,hk,rfl,C0,C1,bH⟩:=hrel
  by_cases hlt:k<4
  ·have hl:((cZ 256 4 n).take k++zeros (4-k)).length=4:=by simp[zeros];omega
   have c1:=C1.int (i:=k) (by omega)
   have z1:=C1.frozen k
   have hv:(cZ 256 4 n).getD k 0=n/256^k%256:=uz 256 4 n k hlt
   have PI:=C1.dw k (n/256^k%256)
   rw[take_set (n:=4) (bn _ _ _) hlt hv] at PI
   have HC:=aR PI
   clear PI hl hv
   go_wp2
   rw[EL]
   exact⟨⟨k+1,by omega,by go_num,C0.far (by first|omega|(simp;done)|(simp;omega)) _,HC.out,bH.setCell (by first|omega|(simp;done)|(simp;omega)) _⟩,by simp[intOf]<;>omega⟩
  ·obtain rfl:k=4:=by omega
   have he:(cZ 256 4 n).take 4++zeros (4-4)=cZ 256 4 n:=by rw[List.take_of_length_le (by simp)];simp[zeros]
   rw[he] at C1
   clear he
   go_wp2_with ((first|(refine ag rfl 65 _ rfl _ rfl C1 vZ (bn _ _ _) ?_)|(refine aa rfl 65 _ _ rfl _ rfl rfl C0 (ah _ _) vZ (bn _ _ _) ?_));(try simp only[nn,Nat.reduceAdd]))
   refine aO rfl rfl (C0.row _) vZ (bn _ _ _) ⟨rfl,?_⟩
   exact az bH (by simp) _
def qJ (r c:Nat):Nat:=r+4*((c+r)%4)
theorem Ja {r c:Nat}(hr:r<4):qJ r c<16:=by unfold qJ;omega
theorem uZ (r c:Nat)(hr:r<4)(hc:c<4)(w:World):Calls prog 63 #[.int .i64 (r:Int),.int .i64 (c:Int)] w λe w'=>e=.returned (.int .i64 (qJ r c:Nat))/\w=w':=by
 obtain⟨j,Hj⟩:=bD ((c+r)%4)
 have hj:j<4:=by rw[←Hj.out];omega
 have hrt:((c:Int)+(r:Int)).tmod 4=(j:Int):=by
  rw[Int.tmod_eq_emod_of_nonneg (by omega),←Hj.out];omega
 have HS:Hid (((qJ r c:Nat):Int)=(r:Int)+4*(j:Int)):=aR (by unfold qJ;rw[Hj.out];omega)
 go_enter func63,ntmps63
 go_wp2
 go_ret
 exact⟨by rw[HS.out];rfl,rfl⟩
def Aw (L b key:List Nat)(c:Nat):Nat->Nat
 | 0=>aT key (4*c) 4
 | r+1=>Aw L b key c r^^^tY L (256*r+b.getD (qJ r c) 0)
theorem LV {L:List Nat}(hL:∀x∈L,x<256)(n:Nat):tY L n<4294967296:=DC (by decide) _ _ 4 dM
theorem Jh {L b key:List Nat}(hL:∀x∈L,x<256)(hk:∀x∈key,x<256)(c:Nat):∀r,Aw L b key c r<4294967296
 | 0=>eG hk (4*c) 4
 | r+1=>Nat.xor_lt_two_pow (n:=32) (Jh hL hk c r) (LV hL _)
def Lt (L b key:List Nat):Nat->List Nat
 | 0=>[]
 | c+1=>Lt L b key c++cZ 256 4 (Aw L b key c 4)
theorem wP (L b key:List Nat):∀c,(Lt L b key c).length=4*c
 | 0=>rfl
 | c+1=>by unfold Lt;rw[List.length_append,wP,bn];omega
def Od (L b key:List Nat):List Nat:=Lt L b key 4
theorem nG (L b key:List Nat):(Od L b key).length=16:=wP L b key 4
theorem Rh (L b key:List Nat):∀c,∀x∈Lt L b key c,x<256
 | 0=>λx hx=>by cases hx
 | c+1=>λx hx=>by
  unfold Lt at hx
  exact(List.mem_append.1 hx).elim (Rh L b key c x) (dU (by omega) _ _ x)
theorem aai (L b key:List Nat):∀x∈Od L b key,x<256:=Rh L b key 4
theorem qf {A zs:List Nat}{p m n:Nat}(hp:A.length=p)(hz:zs.length=n):splice (A++zeros (n+m)) p zs=(A++zs)++zeros m:=by
 subst hp hz
 unfold splice
 rw[List.take_left,List.append_assoc,←List.drop_drop,List.drop_left]
 unfold zeros
 rw[List.drop_replicate,Nat.add_sub_cancel_left]
theorem Lj (g gb:Nat)(L b key:List Nat)(hL:∀x∈L,x<256)(hb:b.length=16)(hbb:∀x∈b,x<256)(hk:key.length=16)(hkb:∀x∈key,x<256)(w:World)(hT:ng w g gb L 1024) :
  Calls prog 62 #[.pointer (some ⟨g,0,none⟩),.agg (ints .u8 b),.agg (ints .u8 key)] w λe w'=>e=.returned (.agg (ints .u8 (Od L b key)))/\Below w.heap.size w w':=by
 have hb0:=((bN w (.cells (ints .u8 b) 96)).alloc (by simp) (.cells (ints .u8 key) 96))
 go_enter func62,ntmps62
 go_wp2_with ((first|(refine ae rfl 96 rfl fw ?_));(try simp only[nn,Nat.reduceAdd]))
 obtain⟨s,HSz⟩:=bD (w.heap.size)
 have A0:=(((aA.new w 96 (ints .u8 b)).alloc (.cells (ints .u8 key) 96)).alloc (.cells (ints .u8 (zeros 16)) 96)).alloc (.cells (ints .u8 (zeros 16)) 96)
 have A1:=((aA.new (w.alloc (.cells (ints .u8 b) 96)) 96 (ints .u8 key)).alloc (.cells (ints .u8 (zeros 16)) 96)).alloc (.cells (ints .u8 (zeros 16)) 96)
 have A2:=(aA.new ((w.alloc (.cells (ints .u8 b) 96)).alloc (.cells (ints .u8 key) 96)) 96 (ints .u8 (zeros 16))).alloc (.cells (ints .u8 (zeros 16)) 96)
 have A3:=aA.new (((w.alloc (.cells (ints .u8 b) 96)).alloc (.cells (ints .u8 key) 96)).alloc (.cells (ints .u8 (zeros 16)) 96)) 96 (ints .u8 (zeros 16))
 have hbel0:=(hb0.alloc (by simp;omega) (.cells (ints .u8 (zeros 16)) 96)).alloc (by simp;omega) (.cells (ints .u8 (zeros 16)) 96)
 simp only[World.size_alloc,Nat.add_assoc,Nat.reduceAdd] at A1 A2 A3
 generalize ((((w.alloc (.cells (ints .u8 b) 96)).alloc (.cells (ints .u8 key) 96)).alloc (.cells (ints .u8 (zeros 16)) 96)).alloc (.cells (ints .u8 (zeros 16)) 96))=w0 at *
 clear hb0
 go_loopw [15] (λt wr=>∃c:Nat,c<=4/\t=.int .i64 (c:Int)/\aA wr w.heap.size 96 (ints .u8 b)/\aA wr (w.heap.size+1) 96 (ints .u8 key)/\aA wr (w.heap.size+2) 96 (ints .u8 (zeros 16))/\aA wr (w.heap.size+3) 96 (ints .u8 (Lt L b key c++zeros (16-4*c)))/\Below w.heap.size w wr) (λt wr=>4-(intOf t).toNat)
 case atStart=>exact⟨0,by omega,rfl,A0,A1,A2,A3,hbel0⟩
 case round =>
  clear A0 A1 A2 A3 hbel0
  obtain⟨c,hc,rfl,A0,A1,A2,A3,hbel⟩:=hrel
  by_cases hlt:c<4
  ·have hd:decide ((c:Int)<4)=true:=by simp;omega
   obtain⟨p,Hp⟩:=bD (4*c)
   have hp:4*(c:Int)=(p:Int):=by rw[←Hp.out];omega
   have SH:p+4<=16:=by rw[←Hp.out];omega
   have hwd:=ry (some ⟨w.heap.size+1,0,none⟩) 16 key hkb (by rw[hk];decide) p (by omega) wr (Sl.blk A1)
   rw[hk] at hwd
   have HK0:Hid (aT key p 4=Aw L b key c 0):=aR (by rw[←Hp.out];rfl)
   rw[HK0.out] at hwd
   go_wp2_with fail
   refine hwd.mono ?_
   clear hwd
   rintro e w1 ⟨rfl,hb1⟩
   have aK:=bC hbel hb1
   have C0:=A0.below' hb1
   have C1:=A1.below' hb1
   have C2:=A2.below' hb1
   have C3:=A3.below' hb1
   have T1:=hT.below aK
   clear A0 A1 A2 A3 hbel hb1
   go_wp2_with fail
   go_loopw [9,22] (λs t wr'=>∃r:Nat,r<=4/\t=.int .i64 (r:Int)/\s=.int .u32 ((Aw L b key c r:Nat):Int)/\Below w1.heap.size w1 wr') (λs t wr'=>4-(intOf t).toNat)
   case atStart=>exact⟨0,by omega,rfl,rfl,Below.refl _ _⟩
   case round =>
    obtain⟨r,hr,rfl,rfl,hb2⟩:=hrel
    by_cases hlr:r<4
    ·have hd2:decide ((r:Int)<4)=true:=by simp;omega
     have D0:=C0.below' hb2
     have T2:=T1.below hb2
     have hsh:=Ja (c:=c) hlr
     have hri:(r:Int)<4:=by omega
     have hsi:((qJ r c:Nat):Int)<16:=by omega
     have c0:=D0.int (i:=qJ r c) (by omega)
     have hx:=aC hbb (by decide) (qJ r c)
     have HR:Hid (Aw L b key c (r+1)=Aw L b key c r^^^tY L (256*r+b.getD (qJ r c) 0)):=aR rfl
     have hsc:=uZ r c hlr hlt
     generalize b.getD (qJ r c) 0=x at *
     generalize qJ r c=j at *
     have hxi:(x:Int)<256:=by omega
     have c1:=T2.mix (k:=256*r+x) (by omega)
     have hoff:1+(256*r+x)=1+r*256+x:=by omega
     rw[hoff] at c1
     have HX:=aR (u32_xor_nat (Aw L b key c r) (tY L (256*r+x)) (Jh hL hkb c r) (LV hL _))
     generalize tY L (256*r+x)=mv at *
     generalize Aw L b key c r=kv at *
     have hg0:=D0.lt
     have hg1:=T2.lt
     go_wp2_with fail
     refine nV (by kernel_rfl) (by kernel_rfl) ?_
     go_big_quiet_step (fail)
     go_big_quiet_step (fail)
     go_big_quiet_step (fail)
     go_big_quiet_step (fail)
     go_big_quiet_step (fail)
     refine di 63 rfl rfl func63 (by kernel_rfl) (by kernel_rfl) (λW hQ=>tN (hsc W)) ?_
     (try simp only[nn,Nat.reduceAdd])
     go_big_quiet_step ((intro _;rfl))
     refine fH rfl rfl rfl underlying5 hg0 c0 ?_
     (try simp only[nn,Nat.reduceAdd])
     refine bE (v:=.pointer (some ⟨g,0,none⟩)) rfl (λW=>by kernel_rfl) ?_
     (try simp only[nn,Nat.reduceAdd])
     refine bE (v:=.pointer (some ⟨g,1,none⟩)) rfl (λW=>by kernel_rfl) ?_
     (try simp only[nn,Nat.reduceAdd])
     go_big_quiet_step ((intro _;rfl))
     go_big_quiet_step ((intro _;rfl))
     refine fH rfl rfl rfl underlying52 hg1 c1 ?_
     (try simp only[nn,Nat.reduceAdd])
     refine bE (v:=.int .u32 (bits BinOp.xor IntKind.u32 (kv:Int) (mv:Int))) rfl (λW=>by kernel_rfl) ?_;rw[HX.out]
     (try simp only[nn,Nat.reduceAdd])
     go_big_quiet_step (fail)
     refine wpQuiet_nil ?_
     intro w' hw'
     go_wp2_with fail
     exact⟨⟨r+1,by omega,by go_num,by rw[HR.out],bC hb2 hw'⟩,by simp[intOf]<;>omega⟩
    ·obtain rfl:r=4:=by omega
     have hd2:decide (((4:Nat):Int)<4)=false:=by simp
     have aB:=bC aK hb2
     have D0:=C0.below' hb2
     have D1:=C1.below' hb2
     have D2:=C2.below' hb2
     have D3:=C3.below' hb2
     clear C0 C1 C2 C3 T1 aK hb2
     have hpw:=qm (Aw L b key c 4) (Jh hL hkb c 4)
     have HRD:Hid (Lt L b key (c+1)=Lt L b key c++cZ 256 4 (Aw L b key c 4)):=aR rfl
     go_wp2_with fail
     refine(hpw _).mono ?_
     clear hpw
     rintro e w3 ⟨rfl,hb3⟩
     have aG:=bC aB hb3
     have E0:=(D0.below' hb3).alloc (.cells (ints .u8 (zeros 4)) 65)
     have E1:=(D1.below' hb3).alloc (.cells (ints .u8 (zeros 4)) 65)
     have E2:=(D2.below' hb3).alloc (.cells (ints .u8 (zeros 4)) 65)
     have E3:=(D3.below' hb3).alloc (.cells (ints .u8 (zeros 4)) 65)
     have E4:=aA.new w3 65 (ints .u8 (zeros 4))
     have hl3:=(D3.below' hb3).lt
     have dl:(cZ 256 4 (Aw L b key c 4)).length=4:=bn _ _ _
     generalize cZ 256 4 (Aw L b key c 4)=zs at *
     have F0:=E0.aM (show w.heap.size≠w3.heap.size by omega) (ints .u8 zs)
     have F1:=E1.aM (show w.heap.size+1≠w3.heap.size by omega) (ints .u8 zs)
     have F2:=E2.aM (show w.heap.size+2≠w3.heap.size by omega) (ints .u8 zs)
     have F3:=E3.aM (show w.heap.size+3≠w3.heap.size by omega) (ints .u8 zs)
     have F4:=E4.row (ints .u8 zs)
     have aY:=az (aG.alloc aG.size (.cells (ints .u8 (zeros 4)) 65)) aG.size (ints .u8 zs)
     clear D0 D1 D2 D3 aB hb3 E0 E1 E2 E3 aG
     go_wp2_with ((first|(refine ae rfl 65 rfl Vp ?_)|(refine aa rfl 65 _ _ rfl w3.heap.size rfl rfl E4 (ah _ _) vZ dl ?_));(try simp only[nn,Nat.reduceAdd]))
     clear E4
     have hl5:w.heap.size+3<w3.heap.size:=hl3
     generalize ((w3.alloc (.cells (ints .u8 (zeros 4)) 65)).setRow w3.heap.size (ints .u8 zs))=w5 at *
     generalize w3.heap.size=s5 at *
     have hpi:(0:Int)<=(p:Int):=by omega
     have acA:(p:Int)<=16:=by omega
     have hne16:¬(16=p):=by omega
     have hwp:IntKind.i64.wrap (p:Int)=(p:Int):=IntWalk.i64_in _ (by omega)
     refine wp_region_still_tail 4 (by kernel_rfl) (by kernel_rfl) ?_
     simp only[List.take_succ_cons,List.take_zero,List.drop_succ_cons,List.drop_zero]
     repeat still_step
     refine wpStill_nil ?_
     change wpList _ _ _ _ _ w5.drew
     have hal:(Lt L b key c).length=p:=by rw[wP,Hp.out]
     have G3:=F3.drew
     rw[show 16-4*c=4+(16-4*(c+1)) by omega] at G3
     have hRl:(Lt L b key c++zeros (4+(16-4*(c+1)))).length=16:=by rw[List.length_append,hal,aH,←Hp.out];omega
     have hsp:=qf (m:=16-4*(c+1)) hal dl
     refine bM (off:=p) (dLen:=16-p) (sLen:=4) rfl rfl underlying23 s15 rfl rfl G3 (Sl.blk F4.drew) (by rw[dl];exact(Nat.min_eq_left (by omega:4<=16-p)).symm) (λ_=>rfl) (by rw[hRl,dl];omega) ?_
     intro w6 G4 ho
     rw[hsp,←HRD.out] at G4
     have G0:=F0.drew.only ho (by omega)
     have G1:=F1.drew.only ho (by omega)
     have G2:=F2.drew.only ho (by omega)
     have bK:=ho.below _ _ aY.drew (by omega)
     clear F0 F1 F2 F3 F4 G3 aY hsp hRl hal ho hwp hne16 hpi acA
     go_wp2_with fail
     exact⟨⟨c+1,by omega,by go_num,G0,G1,G2,G4,bK⟩,by simp[intOf]<;>omega⟩
  ·obtain rfl:c=4:=by omega
   have hd:decide (((4:Nat):Int)<4)=false:=by simp
   have hz:Lt L b key 4++zeros (16-4*4)=Od L b key:=by unfold Od;simp[zeros]
   rw[hz] at A3
   clear hz
   go_wp2_with ((first|(refine ag rfl 96 _ rfl _ rfl A3 aD (nG _ _ _) ?_)|(refine aa rfl 96 _ _ rfl _ rfl rfl A2 (ah _ _) aD (nG _ _ _) ?_));(try simp only[nn,Nat.reduceAdd]))
   refine aO rfl rfl (A2.row _) aD (nG _ _ _) ⟨rfl,?_⟩
   exact az hbel (by omega) _
end
section
open Go.RowKit
theorem Bl {ks:List (List Nat)}(hl:∀k∈ks,k.length=16){i j:Nat}(hi:i<ks.length)(hj:j<16):ks.flatten.getD (16*i+j) 0=(ks.getD i []).getD j 0:=by
 rw[←Uz hl i hi]
 unfold blk
 rw[List.getD_eq_getElem?_getD,List.getD_eq_getElem?_getD,List.getElem?_take,if_pos hj,List.getElem?_drop]
theorem xI {w:World}{g:Nat}{ks:List (List Nat)}(h:Sl w (some ⟨g,0,none⟩) .u8 ks.flatten)(hl:∀k∈ks,k.length=16){i:Nat}(hi:i<ks.length):Sl w (some ⟨g,i*16,none⟩) .u8 (ks.getD i []):=λhne=>by
 have hfl:=TT hl
 have h16:(ks.getD i []).length=16:=bQ (p:=λk=>k.length=16) hl hi
 obtain⟨g',off,e,hg,hc⟩:=h (λe=>by rw[e] at hfl;simp at hfl;omega)
 cases e
 refine⟨g,i*16,rfl,hg,λj hj=>?_⟩
 have h1:=hc (16*i+j) (by rw[hfl];omega)
 rw[Nat.zero_add,Bl hl hi (by omega),Nat.mul_comm] at h1
 exact h1
def jN (L b:List Nat)(ks:List (List Nat)):List Nat:=ks.foldl (Od L) b
theorem kz (L:List Nat):∀(ks:List (List Nat)) (b:List Nat),b.length=16->(jN L b ks).length=16
 | [],b,h=>h
 | k::ks,b,h=>kz L ks _ (nG L b k)
theorem nE (L:List Nat):∀(ks:List (List Nat)) (b:List Nat),(∀x∈b,x<256)->∀x∈jN L b ks,x<256
 | [],b,h=>h
 | k::ks,b,h=>nE L ks _ (aai L b k)
theorem iF {α β:Type}(f:α->β->α)(a:α)(d:β)(l:List β){i:Nat}(hi:i<l.length):(l.take (i+1)).foldl f a=f ((l.take i).foldl f a) (l.getD i d):=by
 rw[List.take_add_one,List.getElem?_eq_getElem hi,List.foldl_append,List.getD_eq_getElem?_getD,List.getElem?_eq_getElem hi];rfl
theorem ES (g gb gk:Nat)(L b:List Nat)(ks:List (List Nat))(hL:∀x∈L,x<256)(hb:b.length=16)(hbb:∀x∈b,x<256)(hk:∀k∈ks,k.length=16)(hkb:∀k∈ks,∀x∈k,x<256)(hn:ks.length<2^31)(w:World)(hT:ng w g gb L 1024)(hK:Sl w (some ⟨gk,0,none⟩) .u8 ks.flatten)(c:Nat) :
  Calls prog 50 #[.pointer (some ⟨g,0,none⟩),.agg (ints .u8 b),.slice (some ⟨gk,0,none⟩) ks.length c] w λe w'=>e=.returned (.agg (ints .u8 (jN L b ks)))/\Below w.heap.size w w':=by
 obtain⟨m,HM⟩:=bD (ks.length)
 rw[HM.out] at hn ⊢
 have A0:=(aA.new w 96 (ints .u8 b)).alloc (.cells (ints .u8 (zeros 16)) 96)
 have A1:=aA.new (w.alloc (.cells (ints .u8 b) 96)) 96 (ints .u8 (zeros 16))
 rw[World.size_alloc] at A1
 have hbel0:=(bN w (.cells (ints .u8 b) 96)).alloc (by simp) (.cells (ints .u8 (zeros 16)) 96)
 go_enter func50,ntmps50
 go_wp2_with ((first|(refine ae rfl 96 rfl fw ?_));(try simp only[nn,Nat.reduceAdd]))
 generalize ((w.alloc (.cells (ints .u8 b) 96)).alloc (.cells (ints .u8 (zeros 16)) 96))=w0 at *
 go_loopw [14] (λt wr=>∃i:Nat,i<=m/\t=.int .i64 (i:Int)/\aA wr w.heap.size 96 (ints .u8 (jN L b (ks.take i)))/\aA wr (w.heap.size+1) 96 (ints .u8 (zeros 16))/\Below w.heap.size w wr) (λt wr=>m-(intOf t).toNat)
 case atStart=>exact⟨0,by omega,rfl,A0,A1,hbel0⟩
 case round =>
  clear A0 A1 hbel0
  obtain⟨i,hi,rfl,A0,A1,hbel⟩:=hrel
  have hln:=kz L (ks.take i) b hb
  have hlb:=nE L (ks.take i) b hbb
  by_cases hlt:i<m
  ·have hd:decide ((i:Int)<(m:Int))=true:=by simp;omega
   have hik:i<ks.length:=by rw[HM.out];exact hlt
   have hS:=xI (hK.below hbel) hk hik
   have fI:(ks.getD i []).length=16:=bQ (p:=λk=>k.length=16) hk hik
   have pK:∀x∈ks.getD i [],x<256:=bQ (p:=λk=>∀x∈k,x<256) hkb hik
   have HF:Hid (jN L b (ks.take (i+1))=Od L (jN L b (ks.take i)) (ks.getD i [])):=aR (iF _ _ _ _ hik)
   have hii:(i:Int)<(m:Int):=by omega
   generalize ks.getD i []=k at *
   generalize jN L b (ks.take i)=x at *
   have hkne:k≠[]:=λe=>by rw[e] at fI;simp at fI
   have K0:=A0.alloc (.cells (ints .u8 (zeros 16)) 96)
   have K1:=A1.alloc (.cells (ints .u8 (zeros 16)) 96)
   have K2:=aA.new wr 96 (ints .u8 (zeros 16))
   have hl1:=A1.lt
   have M0:=K0.aM (show w.heap.size≠wr.heap.size by omega) (ints .u8 k)
   have M1:=K1.aM (show w.heap.size+1≠wr.heap.size by omega) (ints .u8 k)
   have M2:=K2.row (ints .u8 k)
   have aB:=az (hbel.alloc hbel.size (.cells (ints .u8 (zeros 16)) 96)) hbel.size (ints .u8 k)
   clear A0 A1 hbel K0 K1
   go_wp2_with ((first
    | (refine aZ rfl (bq rfl rfl hS aD fI hkne) ?_)
    | (refine ae rfl 96 rfl fw ?_)
    | (refine aa rfl 96 _ _ rfl wr.heap.size rfl rfl K2 (ah _ _) aD fI ?_)
    | (refine ag rfl 96 _ rfl w.heap.size rfl M0 aD hln ?_)
    | (refine ag rfl 96 _ rfl wr.heap.size rfl M2 aD fI ?_));(try simp only[nn,Nat.reduceAdd]))
   refine(Lj g gb L x k hL hln hlb fI pK _ (hT.below aB)).mono ?_
   rintro e w3 ⟨rfl,hb3⟩
   have N0:=M0.below' hb3
   have N1:=M1.below' hb3
   have aG:=bC aB hb3
   have hrl:=nG L x k
   clear M0 M1 M2 aB hb3 K2
   go_wp2_with (refine aa rfl 96 _ _ rfl w.heap.size rfl rfl N0 (by rw[aF];exact hln) aD hrl ?_;(try simp only[nn,Nat.reduceAdd]))
   exact⟨⟨i+1,by omega,by go_num,by rw[HF.out];exact N0.row _,N1.aM (by omega) _,az aG dM _⟩,by simp[intOf]<;>omega⟩
  ·obtain rfl:i=m:=by omega
   have hd:decide ((i:Int)<(i:Int))=false:=by simp
   have he:ks.take i=ks:=List.take_of_length_le (by rw[HM.out];omega)
   rw[he] at A0 hln
   clear he
   go_wp2_with ((first|(refine ag rfl 96 _ rfl _ rfl A0 aD hln ?_)|(refine aa rfl 96 _ _ rfl _ rfl rfl A1 (ah _ _) aD hln ?_));(try simp only[nn,Nat.reduceAdd]))
   refine aO rfl rfl (A1.row _) aD hln ⟨rfl,?_⟩
   exact az hbel (by omega) _
end
end Go.Proofs.YtaiffkajkbiidaaGreatDoor
