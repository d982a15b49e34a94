/- What this claim leans on, part 0: laws of the model, and what functions of the program compute. No condition but what each law states. -/
import Derived.ChangeKeysEq
import Derived.Deep.MidRow
import Derived.Deep.Quiet
import Derived.Deep.QuietTactic
import Derived.KernelRfl
import Derived.Laws.BytesArg
import Derived.Laws.CopyOwn
import Derived.Laws.MakeOwn
import Derived.Laws.OwnMore
import Derived.Lib.Hide
import Derived.OwnWalk
import Derived.WalkKit
import Derived.WalkLawsBesides
import Derived.WalkSpells
namespace Go.Proofs.YtaiffkajkbiidaaGreatDoor
set_option linter.unusedSimpArgs false
set_option linter.unusedVariables false
set_option linter.unusedSectionVars false
set_option maxRecDepth 100000
set_option maxHeartbeats 40000000
section
def dL (b:Nat):List Nat->Nat
 | []=>0
 | x::xs=>x+b*dL b xs
def cZ (b:Nat):Nat->Nat->List Nat
 | 0,_=>[]
 | n+1,v=>v%b::cZ b n (v/b)
@[simp] theorem bn (b n v:Nat):(cZ b n v).length=n:=by
 induction n generalizing v with
 | zero=>rfl
 | succ n ih=>simp[cZ,ih]
theorem iH (b n v:Nat):dL b (cZ b n v)=v%b^n:=by
 induction n generalizing v with
 | zero=>simp[cZ,dL,Nat.mod_one]
 | succ n ih =>
  simp only[cZ,dL,ih]
  rw[Nat.pow_succ',Nat.mod_mul]
theorem jX (b:Nat)(xs:List Nat)(h:∀x∈xs,x<b):cZ b xs.length (dL b xs)=xs:=by
 induction xs with
 | nil=>rfl
 | cons x xs ih =>
  have hx:x<b:=h x (by simp)
  simp only[List.length_cons,cZ,dL]
  rw[Nat.add_mul_mod_self_left,Nat.mod_eq_of_lt hx,Nat.add_mul_div_left _ _ (by omega),Nat.div_eq_of_lt hx,Nat.zero_add,ih λy hy=>h y (by simp[hy])]
theorem dU {b:Nat}(hb:0<b)(n v:Nat):∀x∈cZ b n v,x<b:=by
 induction n generalizing v with
 | zero=>simp[cZ]
 | succ n ih =>
  intro x hx
  simp only[cZ,List.mem_cons] at hx
  rcases hx with rfl|hx
  ·exact Nat.mod_lt _ hb
  ·exact ih _ x hx
theorem tq {b:Nat}(xs:List Nat)(h:∀x∈xs,x<b):dL b xs<b^xs.length:=by
 induction xs with
 | nil=>simp[dL]
 | cons x xs ih =>
  have hx:x<b:=h x (by simp)
  have:=ih λy hy=>h y (by simp[hy])
  simp only[dL,List.length_cons,Nat.pow_succ']
  calc x+b*dL b xs<b+b*dL b xs:=by omega
   _=b*(dL b xs+1):=by rw[Nat.mul_add,Nat.mul_one,Nat.add_comm]
   _<=b*b^xs.length:=Nat.mul_le_mul_left _ this
theorem uz (b:Nat)(n v i:Nat)(hi:i<n):(cZ b n v).getD i 0=v/b^i%b:=by
 induction n generalizing v i with
 | zero=>omega
 | succ n ih =>
  cases i with
  | zero=>simp[cZ]
  | succ i =>
   simp only[cZ,List.getD_cons_succ]
   rw[ih _ _ (by omega),Nat.pow_succ',Nat.div_div_eq_div_mul]
theorem eB (b:Nat)(xs ys:List Nat):dL b (xs++ys)=dL b xs+b^xs.length*dL b ys:=by
 induction xs with
 | nil=>simp[dL]
 | cons x xs ih =>
  simp only[List.cons_append,dL,ih,List.length_cons,Nat.pow_succ',Nat.mul_add,Nat.mul_assoc,Nat.add_assoc]
theorem wC (b n:Nat):dL b (List.replicate n 0)=0:=by
 induction n with
 | zero=>rfl
 | succ n ih=>simp[List.replicate_succ,dL,ih]
theorem qE (b n v:Nat):cZ b n (v%b^n)=cZ b n v:=by
 induction n generalizing v with
 | zero=>rfl
 | succ n ih =>
  simp only[cZ]
  rw[Nat.pow_succ',Nat.mod_mul_right_mod,Nat.mod_mul_right_div_self,ih]
def pp:Nat:=1361129467683753853853498429727072845819
open Go.RowKit
theorem nn:(∀(l:List Value) (i:Nat) (a:Value),l.toArray.setIfInBounds i a=(l.set i a).toArray)/\(∀(x a:Value) (xs:List Value),(x::xs).set 0 a=a::xs)/\(∀(x a:Value) (xs:List Value) (n:Nat),(x::xs).set (n+1) a=x::xs.set n a)/\(∀(w:World) (b:Obj),(w.alloc b).heap.size=w.heap.size+1) /\
  (∀(a:Act) (v:Value),a.put none v=a)/\(∀(t:Array Value) (ds) (d:Nat) (v:Value),(Act.mk t ds).put (some d) v=Act.mk (t.setIfInBounds d v) ds)/\(∀a b c:Nat,a+b+c=a+(b+c))/\(∀(w:World) (g:Nat) (cs:Array Value),(w.setRow g cs).heap.size=w.heap.size) :=
 ⟨λ_ _ _=>List.setIfInBounds_toArray ..,λ_ _ _=>rfl,λ_ _ _ _=>rfl,λ_ _=>World.size_alloc ..,λ_ _=>rfl,λ_ _ _ _=>rfl,Nat.add_assoc,λ_ _ _=>setRow_size ..⟩
theorem dM {n:Nat}:n<=n:=Nat.le_refl n
theorem jmp (J0:Act->World->Prop):∃J:Act->World->Prop,Hid (∀a w,J a w->J0 a w)/\Hid (∀a w,J0 a w->J a w):=⟨J0,Lib.hid λ_ _ h=>h,Lib.hid λ_ _ h=>h⟩
theorem bD {α:Sort _}(t:α):∃x,Hid (t=x):=⟨t,Lib.hid rfl⟩
theorem aR {p:Prop}(h:p):Hid p:=Lib.hid h
theorem tv {α β:Type}:(∀(f:α->β) (x:α) (xs:List α),(x::xs).map f=f x::xs.map f)/\(∀f:α->β,[].map f=[])/\(∀(f:β->α->β) (b:β) (x:α) (xs:List α),(x::xs).foldl f b=xs.foldl f (f b x))/\(∀(f:β->α->β) (b:β),[].foldl f b=b):=⟨λ_ _ _=>rfl,λ_=>rfl,λ_ _ _ _=>rfl,λ_ _=>rfl⟩
theorem cO {p q:Prop}(h:p∨q)(hn:¬p:=by decide):q:=h.resolve_left hn
theorem ro {p q r:Prop}(f:q->r)(hn:¬p:=by decide):p∨q->r:=λh=>f (h.resolve_left hn)
theorem aL {α:Type}{P:α->α->α->α->α->α->α->α->Prop}{a b c d e f g h:α}(x:P a b c d e f g h):∃a b c d e f g h,P a b c d e f g h:=⟨a,b,c,d,e,f,g,h,x⟩
def ints (k:IntKind)(xs:List Nat):Array Value:=(xs.map λn:Nat=>Value.int k n).toArray
theorem iC (k:IntKind)(xs:List Nat)(i:Nat):(ints k xs)[i]?=(xs[i]?).map λn:Nat=>Value.int k n:=by simp[ints]
theorem ints_set (k:IntKind)(xs:List Nat)(i n:Nat):(ints k xs).setIfInBounds i (.int k n)=ints k (xs.set i n):=by simp[ints,List.map_set]
theorem aF (k:IntKind)(xs:List Nat):(ints k xs).size=xs.length:=by simp[ints]
theorem pI (k:IntKind)(xs:List Nat):(ints k xs).all (·.oneCell')=true:=by simp[ints,Value.oneCell']
theorem yo (k:IntKind)(n x:Nat):ints k (List.replicate n x)=Array.replicate n (.int k x):=by
 apply Array.ext';simp[ints]
theorem getD_lt {xs:List Nat}{i:Nat}(h:i<xs.length):xs[i]?=some (xs.getD i 0):=by
 rw[List.getD_eq_getElem?_getD,List.getElem?_eq_getElem h];rfl
theorem Gm {xs:List Nat}{i:Nat}(h:i<xs.length):xs.getD i 0∈xs:=by
 rw[List.getD_eq_getElem?_getD,List.getElem?_eq_getElem h];exact List.getElem_mem h
theorem aC {xs:List Nat}{B:Nat}(hb:∀x∈xs,x<B)(hB:0<B)(i:Nat):xs.getD i 0<B:=by
 by_cases h:i<xs.length
 ·exact hb _ (Gm h)
 ·rw[List.getD_eq_getElem?_getD,List.getElem?_eq_none (by omega)];exact hB
def aA (w:World)(g:Nat)(t:TypeId)(cs:Array Value):Prop:=w.heap[g]?=some (.cells cs t (0,0))
section
variable {w w':World}{g:Nat}{t:TypeId}{cs:Array Value}
theorem aA.lt (h:aA w g t cs):g<w.heap.size:=by
 rcases Nat.lt_or_ge g w.heap.size with hlt|hge
 ·exact hlt
 ·unfold aA at h;rw[Array.getElem?_eq_none hge] at h;cases h
theorem aA.cell (h:aA w g t cs)(i:Nat):w.cell? ⟨g,i,none⟩=cs[i]?:=cell_of_row w g i cs t (0,0) h
theorem aA.frozen (h:aA w g t cs)(i:Nat):w.frozen? ⟨g,i,none⟩=false:=by
 unfold aA at h
 simp[World.frozen?,h]
theorem aA.new (w:World)(t:TypeId)(cs:Array Value):aA (w.alloc (.cells cs t)) w.heap.size t cs:=heap_alloc_new w _
theorem aA.new' {n:Nat}(h:n=w.heap.size):aA (w.alloc (.cells cs t)) n t cs:=by subst h;exact heap_alloc_new w _
theorem aA.drew (h:aA w g t cs):aA w.drew g t cs:=h
theorem aA.drewN (h:aA w g t cs)(n:Nat):aA (w.drewN n) g t cs:=h
theorem aA.alloc (h:aA w g t cs)(o:Obj):aA (w.alloc o) g t cs:=(Below.heap_alloc w o g h.lt).trans h
theorem aA.kL (h:aA w g t cs)(i:Nat)(u:Value):aA (w.setCell ⟨g,i,none⟩ u) g t (cs.setIfInBounds i u):=heap_setCell_same _ _ _ _ _ _ h
theorem aA.far (h:aA w g t cs){p:Addr}(hp:g≠p.block)(u:Value):aA (w.setCell p u) g t cs:=(Below.heap_setCell w p u g hp).trans h
theorem aA.below {B:Nat}(h:aA w g t cs)(hb:Below B w w')(hg:g<B):aA w' g t cs:=(hb.block g hg).trans h
theorem aA.below' (h:aA w g t cs)(hb:Below w.heap.size w w'):aA w' g t cs:=(hb.block g h.lt).trans h
theorem aA.row (h:aA w g t cs)(cs':Array Value):aA (w.setRow g cs') g t cs':=setRow_heap _ _ _ _ _ _ h
theorem aA.aM (h:aA w g t cs){k:Nat}(hk:g≠k)(cs':Array Value):aA (w.setRow k cs') g t cs:=(setRow_other _ _ _ _ hk).trans h
theorem aA.grown {row:Option Nat}(h:aA w g t cs)(hb:w.grownBy w' row)(hg:some g≠row):aA w' g t cs:=(hb.block g h.lt hg).trans h
theorem aA.LJ {g':Nat}{t':TypeId}{cs':Array Value}(h:aA w g t cs)(h':aA w g' t' cs')(hne:t≠t'):g≠g':=by
 rintro rfl
 unfold aA at h h'
 rw[h] at h'
 injection h' with h'
 injection h' with _ ht
 exact hne ht
theorem aA.int {k:IntKind}{xs:List Nat}(h:aA w g t (ints k xs)){i:Nat}(hi:i<xs.length):w.cell? ⟨g,i,none⟩=some (.int k ((xs.getD i 0:Nat):Int)):=by
 rw[h.cell,iC,getD_lt hi];rfl
theorem aA.dw {k:IntKind}{xs:List Nat}(h:aA w g t (ints k xs))(i n:Nat):aA (w.setCell ⟨g,i,none⟩ (.int k n)) g t (ints k (xs.set i n)):=by
 have:=h.kL i (.int k n)
 rwa [ints_set] at this
end
def Je (w:World)(g:Nat):List Nat:=match w.heap[g]? with|some (.cells cs _ _)=>cs.toList.map λv=>(intOf v).toNat|_=>[]
theorem vS {w:World}{g:Nat}{t:TypeId}{k:IntKind}{xs:List Nat}(h:aA w g t (ints k xs)):Je w g=xs:=by
 unfold aA at h
 simp[Je,h,ints,Function.comp_def,intOf]
def Sl (w:World)(a:Option Addr)(k:IntKind)(xs:List Nat):Prop :=
 xs≠[]->∃g off,a=some ⟨g,off,none⟩/\g<w.heap.size/\∀i,i<xs.length->w.cell? ⟨g,off+i,none⟩=some (.int k ((xs.getD i 0:Nat):Int))
theorem Sl.below {w w':World}{a:Option Addr}{k:IntKind}{xs:List Nat}(h:Sl w a k xs)(hb:Below w.heap.size w w'):Sl w' a k xs:=λhn=>by
 obtain⟨g,off,h1,h2,h3⟩:=h hn
 exact⟨g,off,h1,Nat.lt_of_lt_of_le h2 hb.size,λi hi=>(hb.cell h2).trans (h3 i hi)⟩
theorem Sl.at_ {w:World}{a:Option Addr}{k:IntKind}{xs:List Nat}(h:Sl w a k xs){i:Nat}(hi:i<xs.length):∃g off,a=some ⟨g,off,none⟩/\g<w.heap.size/\w.cell? ⟨g,off+i,none⟩=some (.int k ((xs.getD i 0:Nat):Int)):=by
 obtain⟨g,off,h1,h2,h3⟩:=h (by rintro rfl;simp at hi)
 exact⟨g,off,h1,h2,h3 i hi⟩
theorem Sl.nil (w:World)(a:Option Addr)(k:IntKind):Sl w a k []:=λh=>absurd rfl h
theorem Sl.blk {w:World}{g:Nat}{t:TypeId}{k:IntKind}{xs:List Nat}(h:aA w g t (ints k xs)):Sl w (some ⟨g,0,none⟩) k xs:=λ_ =>
 ⟨g,0,rfl,h.lt,λi hi=>by rw[Nat.zero_add];exact h.int hi⟩
theorem Sl.sub {w:World}{g:Nat}{t:TypeId}{k:IntKind}{xs:List Nat}(h:aA w g t (ints k xs))(o n:Nat)(hn:o+n<=xs.length):Sl w (some ⟨g,o,none⟩) k ((xs.drop o).take n):=λ_ =>
 ⟨g,o,rfl,h.lt,λi hi=>by
  rw[List.length_take,List.length_drop] at hi
  rw[h.int (i:=o+i) (by omega)]
  congr 3
  rw[List.getD_eq_getElem?_getD,List.getD_eq_getElem?_getD,List.getElem?_take,if_pos (by omega),List.getElem?_drop]⟩
theorem az {B g:Nat}{w0 w:World}(hb:Below B w0 w)(hBg:B<=g)(cs:Array Value):Below B w0 (w.setRow g cs):=below_setRow hb hBg cs
theorem UF {B:Nat}{a w:World}(h:Below B a w)(n:Nat):Below B a (w.drewN n):=⟨h.os,h.tape,h.output,h.size,h.block⟩
theorem dx {B:Nat}{a w w':World}(h:Below B a w)(h':Below w.heap.size w w')(hB:B<=w.heap.size):Below B a w':=h.trans (h'.mono hB)
theorem bN (w:World)(x:Obj):Below w.heap.size w (w.alloc x):=(Below.refl _ _).alloc (Nat.le_refl _) x
theorem bC {a w w':World}(h:Below a.heap.size a w)(h':Below w.heap.size w w'):Below a.heap.size a w':=dx h h' h.size
theorem fo {B:Nat}{w:World}:Below B w w:=Below.refl B w
section
variable {P:Program}{n:Nat}
theorem wpList_store_row {ops:Array Oper}{rest:List Oper}{o:Oper}{a:Act}{w:World}{Q:Exit->Act->World->Prop}(hgd:o.guard=none)(ty:TypeId)(x y:Operand)(ho:o.op=.store ty x y)
  (g:Nat) (cells:Array Value) (hx:a.eval x=.pointer (some ⟨g,0,none⟩)) (hy:a.eval y=.agg cells)
  (t:TypeId) (old:Array Value) (hg:w.heap[g]?=some (.cells old t (0,0))) (hi:(P.info? ty).map (·.size)=some cells.size)
  (hold:old.size=cells.size) (h1:cells.all (·.oneCell')=true)
  (h:wpList P ops Q rest (a.put o.dst undef) (w.setRow g cells)):wpList P ops Q (o::rest) a w :=
 wpList_plain hgd λ_ hK=>wp_store_row ty x y ho g cells hx hy t old hg hi hold h1 (hK _ _ h)
def dG (P:Program)(T n:Nat):Prop:=(∃d,P.underlying T=some d/\(match d with|.struct _|.array _ _=>true|_=>false)=true)/\(P.info? T).map (·.size)=some n
theorem jH {T n e:Nat}(h1:P.underlying T=some (.array n e))(h2:(P.info? T).map (·.size)=some n):dG P T n:=⟨⟨_,h1,rfl⟩,h2⟩
theorem isStr {T n:Nat}{fs}(h1:P.underlying T=some (.struct fs))(h2:(P.info? T).map (·.size)=some n):dG P T n:=⟨⟨_,h1,rfl⟩,h2⟩
theorem ag {ops:Array Oper}{rest:List Oper}{o:Oper}{a:Act}{w:World}{Q:Exit->Act->World->Prop}(hgd:o.guard=none)(T:TypeId)(x:Operand)(ho:o.op=.load T x)
  (g:Nat) (hx:a.eval x=.pointer (some ⟨g,0,none⟩)) {n t:Nat} {k:IntKind} {xs:List Nat} (hb:aA w g t (ints k xs)) (ha:dG P T n) (hl:xs.length=n)
  (h:wpList P ops Q rest (a.put o.dst (.agg (ints k xs))) w):wpList P ops Q (o::rest) a w:=by
 obtain⟨⟨d,h1,hd⟩,h2⟩:=ha
 exact wpList_load_row hgd T x ho g hx t _ _ _ hb h1 (by cases d<;>first|rfl|cases hd) (by rw[aF,hl];exact h2) h
theorem aa {ops:Array Oper}{rest:List Oper}{o:Oper}{a:Act}{w:World}{Q:Exit->Act->World->Prop}(hgd:o.guard=none)(T:TypeId)(x y:Operand)(ho:o.op=.store T x y)
  (g:Nat) {k:IntKind} {xs:List Nat} (hx:a.eval x=.pointer (some ⟨g,0,none⟩)) (hy:a.eval y=.agg (ints k xs)) {n t:Nat} {old:Array Value} (hb:aA w g t old) (hold:old.size=n) (ha:dG P T n) (hl:xs.length=n)
  (h:wpList P ops Q rest (a.put o.dst undef) (w.setRow g (ints k xs))):wpList P ops Q (o::rest) a w :=
 wpList_store_row hgd T x y ho g _ hx hy t old hb (by rw[aF,hl];exact ha.2) (by rw[aF,hold,hl]) (pI _ _) h
theorem wz {ops:Array Oper}{rest:List Oper}{o:Oper}{a:Act}{w:World}{Q:Exit->Act->World->Prop}(hgd:o.guard=none)(T:TypeId)(x:Operand)(ho:o.op=.load T x)
  (g off:Nat) (hx:a.eval x=.pointer (some ⟨g,off,none⟩)) {n t:Nat} {k:IntKind} {xs:List Nat} (hb:aA w g t (ints k xs)) (ha:dG P T n) (hl:off+n<=xs.length)
  (h:wpList P ops Q rest (a.put o.dst (.agg (ints k ((xs.drop off).take n)))) w):wpList P ops Q (o::rest) a w:=by
 obtain⟨⟨d,h1,hd⟩,h2⟩:=ha
 refine wpList_load_mid hgd T x ho g off hx (((xs.drop off).take n).map λn:Nat=>Value.int k n) _ ?_ h1 hd (by rw[h2];simp;omega) h
 intro j v hv
 rw[hb.cell,iC]
 rw[List.getElem?_map] at hv
 by_cases hj:j<n
 ·rw[List.getElem?_take,if_pos hj,List.getElem?_drop] at hv;exact hv
 ·rw[List.getElem?_take,if_neg hj] at hv;cases hv
def zeros (n:Nat):List Nat:=List.replicate n 0
theorem aH (n:Nat):(zeros n).length=n:=by simp[zeros]
theorem dh (n:Nat){B:Nat}(hB:0<B):∀x∈zeros n,x<B:=by
 intro x hx
 rw[(List.mem_replicate.1 hx).2];exact hB
theorem ah (k:IntKind)(n:Nat):(ints k (zeros n)).size=n:=by rw[aF,aH]
theorem take_set {n k v:Nat}{xs:List Nat}(hl:xs.length=n)(hk:k<n)(hv:xs.getD k 0=v):(xs.take k++zeros (n-k)).set k v=xs.take (k+1)++zeros (n-(k+1)):=by
 unfold zeros
 have e1:n-k=(n-(k+1))+1:=by omega
 rw[List.set_append_right _ _ (by simp;omega),List.length_take,Nat.min_eq_left (by omega),Nat.sub_self,e1,List.replicate_succ,List.set_cons_zero,List.take_add_one,getD_lt (by omega),hv]
 simp
def IsZero (P:Program)(T n:Nat)(k:IntKind):Prop:=(P.info? T).bind (·.zero)=some (.agg (ints k (zeros n)))
theorem isZero {T n:Nat}{k:IntKind}(h:(P.info? T).bind (·.zero)=some (.agg (ints k (zeros n)))):IsZero P T n k:=h
theorem oO {T n:Nat}{k:IntKind}(hz:IsZero P T n k)(w:World):(Instr.alloc T true (.tuple #[])).run P w=.ok (.pointer (some ⟨w.heap.size,0,none⟩)) (w.alloc (.cells (ints k (zeros n)) T)):=by
 unfold IsZero at hz
 rw[Option.bind_eq_some_iff] at hz
 obtain⟨i,h1,h2⟩:=hz
 simp[Instr.alloc,zeroValue,typeInfo,h1,h2,newVar,newRow,newObj,Value.cells,Sem.run_bind]
 rfl
theorem ae {ops:Array Oper}{rest:List Oper}{o:Oper}{a:Act}{w:World}{Q:Exit->Act->World->Prop}(hgd:o.guard=none)(T:TypeId)(ho:o.op=.alloc T){n:Nat}{k:IntKind}(hz:IsZero P T n k)
  (h:wpList P ops Q rest (a.put o.dst (.pointer (some ⟨w.heap.size,0,none⟩))) (w.alloc (.cells (ints k (zeros n)) T))):wpList P ops Q (o::rest) a w :=
 wpList_plain hgd λ_ hK=>by
  unfold Oper.wp execOp
  simp only[ho,Sem.run_bind,oO hz,Result.andThen_ok,Sem.run_pure]
  exact hK _ _ h
theorem aO {fn:Func}{p T:Nat}(h:fn.results=#[.cell p T]){R:Ending->World->Prop}{tmps:Array Value}{w:World}{g n t:Nat}{k:IntKind}{xs:List Nat}(hp:tmps.getD p undef=.pointer (some ⟨g,0,none⟩))
  (hb:aA w g t (ints k xs)) (ha:dG P T n) (hl:xs.length=n) (hR:R (.returned (.agg (ints k xs))) w):bodyPost P fn R .ret { tmps:=tmps,defers:=[] } w:=by
 obtain⟨⟨d,h1,hd⟩,h2⟩:=ha
 exact bodyPost_ret (results_cell_row h tmps w g t _ _ _ hp hb h1 (by cases d<;>first|rfl|cases hd) (by rw[aF,hl];exact h2)) rfl hR
theorem ic {fn:Func}{p q T:Nat}(h:fn.results=#[.cell p T,.tmp q]){R:Ending->World->Prop}{tmps:Array Value}{w:World}{g n t:Nat}{k:IntKind}{xs:List Nat}{v:Value}(hp:tmps.getD p undef=.pointer (some ⟨g,0,none⟩))(hq:tmps.getD q undef=v)
  (hb:aA w g t (ints k xs)) (ha:dG P T n) (hl:xs.length=n) (hR:R (.returned (.tuple #[.agg (ints k xs),v])) w):bodyPost P fn R .ret { tmps:=tmps,defers:=[] } w:=by
 obtain⟨⟨d,h1,hd⟩,h2⟩:=ha
 refine bodyPost_ret ?_ rfl hR
 have hp':tmps[p]?.getD undef=.pointer (some ⟨g,0,none⟩):=by simpa using hp
 have hq':tmps[q]?.getD undef=v:=by simpa using hq
 simp[results,h,hp',hq',asAddr,run_loadVar_row w g t T _ _ _ hb h1 (by cases d<;>first|rfl|cases hd) (by rw[aF,hl];exact h2)]
theorem qX {md:Region.Mode}{ops:Array Oper}{listed:Array Bool}(hok:(ops.toList.zipIdx.all λ(o,i)=>o.after.all λe=>decide (e.on<i))=true)
  (hs:listed.size=ops.size) (h:Region.ready md ops listed=[]):∀j,j<ops.size->listed.getD j false=true:=by
 intro j
 induction j using Nat.strongRecOn with
 | ind j ih =>
  intro hj
  refine Classical.byContradiction λhn=>?_
  have hmem:j∈Region.ready md ops listed:=by
   rw[mem_ready]
   refine⟨?_,ops[j],by simp[hj],λe he _=>?_⟩
   ·rw[Array.getD_eq_getD_getElem?,Array.getElem?_eq_getElem (by omega)] at hn ⊢
    simpa using hn
   ·rw[List.all_eq_true] at hok
    have:=hok (ops[j],j) (by rw[List.mem_zipIdx_iff_getElem?];simp[hj])
    simp only[Array.all_eq_true_iff_forall_mem,decide_eq_true_eq] at this
    have hlt:=this e he
    exact ih _ hlt (by omega)
  rw[h] at hmem
  cases hmem
theorem eZ {ops:Array Oper}{Q:Exit->Act->World->Prop}{Cw:Nat}{a:Act}{w:World}(hm:P.follows .mixedOrders=true)
  (hok:(ops.toList.zipIdx.all λ(o,i)=>o.after.all λe=>decide (e.on<i))=true)
  (I:(Nat->Prop)->Act->World->Prop)
  (h0:I (λ_=>False) a w.drew)
  (hstep:∀(i:Nat) (o:Oper),ops[i]?=some o->∀(D:Nat->Prop) (a:Act) (w:World),I D a w->¬D i->(∀e∈o.after,Region.binds .any e=true->D e.on) ->
   wpOp P ops Q i (λa' w'=>I (λj=>j=i∨D j) a' w') a w)
  (hend:∀(D:Nat->Prop) (a:Act) (w:World),I D a w->(∀j,j<ops.size->D j)->Q .normal a w) :
  (Code.region Cw ops true).wp P Q a w:=by
 refine wp_region_any hm ?_
 have key:∀(fuel:Nat) (listed:Array Bool) (D:Nat->Prop) (a:Act) (w:World),listed.size=ops.size->(∀j,D j↔listed.getD j false=true)->I D a w ->
   (fuel+(listed.toList.filter _root_.id).length=ops.size)->wpAny P .any ops Q fuel listed a w:=by
  intro fuel
  induction fuel with
  | zero =>
   intro listed D a w hs hD hI hf
   have hall:∀j,j<ops.size->listed.getD j false=true:=by
    intro j hj
    have hl:(listed.toList.filter _root_.id).length=listed.toList.length:=by simp at hf ⊢;omega
    have:=List.length_filter_eq_length_iff.1 hl (listed[j]'(by omega)) (by simp)
    rw[Array.getD_eq_getD_getElem?,Array.getElem?_eq_getElem (by omega)]
    simpa using this
   refine⟨?_,hend D a w hI λj hj=>(hD j).2 (hall j hj)⟩
   cases hr:Region.ready .any ops listed with
   | nil=>rfl
   | cons i is =>
    have hi:i∈Region.ready .any ops listed:=by rw[hr];simp
    obtain⟨h1,o,ho,-⟩:=mem_ready.1 hi
    have hlt:i<ops.size:=(Array.getElem?_eq_some_iff.1 ho).1
    have:=hall i hlt
    rw[Array.getD_eq_getD_getElem?,Array.getElem?_eq_getElem (by omega)] at this h1
    simp at this h1
    rw[this] at h1;cases h1
  | succ fuel ih =>
   intro listed D a w hs hD hI hf
   refine⟨λhr=>hend D a w hI λj hj=>(hD j).2 (qX hok hs hr j hj),λi hi=>?_⟩
   obtain⟨h1,o,ho,hall⟩:=mem_ready.1 hi
   have hlt:i<ops.size:=(Array.getElem?_eq_some_iff.1 ho).1
   have hlf:listed[i]'(by omega)=false:=by
    rw[Array.getD_eq_getD_getElem?,Array.getElem?_eq_getElem (by omega)] at h1
    simpa using h1
   refine wpOp_mono (λa' w' hI'=>ih (listed.setIfInBounds i true) (λj=>j=i∨D j) a' w' (by simpa using hs) ?_ hI' ?_)
    (hstep i o ho D a w hI (λhDi=>?_) λe he hb=>(hD _).2 (hall e he hb))
   ·intro j
    by_cases hj:i=j
    ·subst hj
     simp[Array.getD_eq_getD_getElem?,hs,hlt]
    ·rw[getD_set_ne false hj,←hD]
     constructor
     ·rintro (h|h)
      ·exact absurd h.symm hj
      ·exact h
     ·exact Or.inr
   ·have hcount:((listed.setIfInBounds i true).toList.filter _root_.id).length=(listed.toList.filter _root_.id).length+1:=by
     rw[Array.toList_setIfInBounds]
     have hi':i<listed.toList.length:=by simpa [hs] using hlt
     have e1:listed.toList=listed.toList.take i++listed.toList[i]::listed.toList.drop (i+1):=by
      rw[List.getElem_cons_drop,List.take_append_drop]
     rw[List.set_eq_take_append_cons_drop,if_pos hi']
     conv=>rhs;rw[e1]
     have hz:listed.toList[i]=false:=by simpa using hlf
     simp only[List.filter_append,List.length_append,List.filter_cons,hz,_root_.id,if_true,Bool.false_eq_true,if_false,List.length_cons]
     omega
    have Ml:((listed.setIfInBounds i true).toList.filter _root_.id).length=(listed.toList.filter _root_.id).length+1:=hcount
    omega
   ·have:=(hD i).1 hDi
    rw[Array.getD_eq_getD_getElem?,Array.getElem?_eq_getElem (by omega)] at this
    simp[hlf] at this
 refine key ops.size _ (λ_=>False) a _ (by simp) (λj=>?_) h0 ?_
 ·constructor
  ·exact False.elim
  ·intro h
   rw[Array.getD_eq_getD_getElem?] at h
   by_cases hj:j<ops.size
   ·simp[hj] at h
   ·simp[hj] at h
 ·simp
theorem Exit.vC {l:Nat}{J J':Act->World->Prop}{Q:Exit->Act->World->Prop}(h:∀a w,J a w->J' a w):∀e a w,Exit.jump l J Q e a w->Exit.jump l J' Q e a w:=λe a w q=>by
 cases e with
 | goto l'=>exact⟨q.1,h _ _ q.2⟩
 | _=>exact q
theorem zI {c rest:Code}{Q:Exit->Act->World->Prop}{a:Act}{w:World}(l:Nat)(J:Act->World->Prop)(μ:Act->World->Nat)(hf:findLabel c l=some rest)
  (pass:∀a w,J a w->rest.wp P (Exit.jump l (λa' w'=>J a' w'/\μ a' w'<μ a w) Q) a w)
  (first:(∀a w,J a w->rest.wp P (Exit.jump l J Q) a w)->c.wp P (Exit.jump l J Q) a w):(Code.scope c).wp P Q a w :=
 wp_scope_jumps l J μ hf (first λa w h=>Code.wp_mono (Exit.vC λ_ _ hh=>hh.1) (pass a w h)) pass
theorem sN {c:Code}{Q:Exit->Act->World->Prop}{a:Act}{w:World}(l:Nat)(J:Act->World->Prop)(μ:Act->World->Nat)(h0:J a w)
  (pass:∀a w,J a w->c.wp P (Exit.jump l (λa' w'=>J a' w'/\μ a' w'<μ a w) Q) a w):(Code.scope (.seq (.label l) c)).wp P Q a w :=
 zI l J μ (rest:=.seq .skip c) (by simp[findLabel]) (λa w h=>wp_seq_k λ_ hK=>wp_skip (hK _ _ (pass a w h)))
  (λh=>wp_seq_k λ_ hK=>wp_label (hK _ _ (Code.wp_mono (Exit.vC λ_ _ hh=>hh.1) (pass a w h0))))
theorem dF {c c':Code}{Q:Exit->Act->World->Prop}{a:Act}{w:World}(l:Nat)(J:Act->World->Prop)(μ:Act->World->Nat)(hf:findLabel c l=some (.seq .skip c'))
  (pass:∀a w,J a w->c'.wp P (Exit.jump l (λa' w'=>J a' w'/\μ a' w'<μ a w) Q) a w)
  (first:(∀a w,J a w->c'.wp P (Exit.jump l J Q) a w)->c.wp P (Exit.jump l J Q) a w):(Code.scope c).wp P Q a w :=
 wp_scope_jumps l J μ hf (first λa w h=>Code.wp_mono (Exit.vC λ_ _ hh=>hh.1) (pass a w h)) (λa w h=>wp_seq_k λ_ hK=>wp_skip (hK _ _ (pass a w h)))
theorem jg (w:World)(d:Nat){e:TypeId}{k:IntKind}(he:P.underlying e=some (.int k))(hc:P.cellsOf e=1)(xs ys:List Nat):∀is:List Nat,(∀i∈is,i<xs.length/\i<ys.length) ->
  (Op.eqItems (d+1) e (P.cellsOf e) (ints k xs) (ints k ys) is).run P w=.ok (is.all λi=>xs.getD i 0==ys.getD i 0) w
 | [],_=>by simp[Op.eqItems]
 | i::is,h=>by
  obtain⟨h1,h2⟩:=h i (by simp)
  have px:(part e (ints k xs) (i*P.cellsOf e)).run P w=.ok (.int k ((xs.getD i 0:Nat):Int)) w:=by
   have gx:(ints k xs)[i]?=some (.int k ((xs.getD i 0:Nat):Int)):=by rw[iC,getD_lt h1];rfl
   simp[part,isAgg,run_underlying he,hc,gx]
  have py:(part e (ints k ys) (i*P.cellsOf e)).run P w=.ok (.int k ((ys.getD i 0:Nat):Int)) w:=by
   have gx:(ints k ys)[i]?=some (.int k ((ys.getD i 0:Nat):Int)):=by rw[iC,getD_lt h2];rfl
   simp[part,isAgg,run_underlying he,hc,gx]
  have pe:=run_equalIn_int (P:=P) w d e k k ((xs.getD i 0:Nat):Int) ((ys.getD i 0:Nat):Int) he
  have ih:=jg w d he hc xs ys is λj hj=>h j (by simp[hj])
  have hb:(((xs.getD i 0:Nat):Int)==((ys.getD i 0:Nat):Int))=(xs.getD i 0==ys.getD i 0):=by
   rw[Bool.eq_iff_iff];simp only[beq_iff_eq];omega
  simp only[Op.eqItems,Sem.run_bind,px,py,pe,hb,Result.andThen_ok,List.all_cons]
  cases xs.getD i 0==ys.getD i 0
  ·simp
  ·simpa using ih
theorem wo {xs ys:List Nat}(hl:xs.length=ys.length):((List.range xs.length).all λi=>xs.getD i 0==ys.getD i 0)=(xs==ys):=by
 rw[Bool.eq_iff_iff]
 simp only[List.all_eq_true,List.mem_range,beq_iff_eq]
 constructor
 ·intro h
  apply List.ext_getElem? λi=>?_
  by_cases hi:i<xs.length
  ·rw[getD_lt hi,getD_lt (hl▸hi),h i hi]
  ·rw[List.getElem?_eq_none (by omega),List.getElem?_eq_none (by omega)]
 ·rintro rfl _ _;rfl
theorem Cr {t e:TypeId}{k:IntKind}(ht:P.underlying t=some (.array n e))(he:P.underlying e=some (.int k))(hi:(P.info? e).isSome=true)(hc:P.cellsOf e=1)(xs ys:List Nat)(hx:xs.length=n)(hy:ys.length=n)(w:World) :
  (binOp .eql t (.agg (ints k xs)) (.agg (ints k ys))).run P w=.ok (.bool (xs==ys)) w:=by
 obtain⟨i,hi⟩:=Option.isSome_iff_exists.1 hi
 have h:=run_equalIn_array (P:=P) (w:=w) 9999 (ints k xs) (ints k ys) ht hi
 rw[jg w 9998 he hc xs ys (List.range n) (λj hj=>by rw[List.mem_range] at hj;omega)] at h
 have h2:=wo (hx.trans hy.symm)
 rw[hx] at h2
 rw[h2] at h
 simp only[binOp]
 simp only[Op.equal,Op.maxDepth,Sem.run_bind,h,Result.andThen_ok,Sem.run_pure]
theorem Co {t e:TypeId}{k:IntKind}(ht:P.underlying t=some (.array n e))(he:P.underlying e=some (.int k))(hi:(P.info? e).isSome=true)(hc:P.cellsOf e=1)(xs ys:List Nat)(hx:xs.length=n)(hy:ys.length=n)(w:World) :
  (binOp .neq t (.agg (ints k xs)) (.agg (ints k ys))).run P w=.ok (.bool (!(xs==ys))) w:=by
 obtain⟨i,hi⟩:=Option.isSome_iff_exists.1 hi
 have h:=run_equalIn_array (P:=P) (w:=w) 9999 (ints k xs) (ints k ys) ht hi
 rw[jg w 9998 he hc xs ys (List.range n) (λj hj=>by rw[List.mem_range] at hj;omega)] at h
 have h2:=wo (hx.trans hy.symm)
 rw[hx] at h2
 rw[h2] at h
 simp only[binOp]
 simp only[Op.equal,Op.maxDepth,Sem.run_bind,h,Result.andThen_ok,Sem.run_pure]
theorem gT {t e n:Nat}{k:IntKind}(ht:P.underlying t=some (.array n e))(he:P.underlying e=some (.int k))(hc:(P.info? e).map (·.size)=some 1){xs:List Nat}(hl:xs.length=n){i:Nat}(hi:i<n)(w:World) :
  (Instr.index t (.agg (ints k xs)) (.int .i64 i)).run P w=.ok (.int k ((xs.getD i 0:Nat):Int)) w:=by
 have gx:(ints k xs)[i]?=some (.int k ((xs.getD i 0:Nat):Int)):=by rw[iC,getD_lt (by omega)];rfl
 obtain⟨d,hd,hd1⟩:=Option.map_eq_some_iff.1 hc
 simp[Instr.index,asIntOf,sizeOf,typeInfo,hd,hd1,Sem.run_bind,run_underlying ht,run_underlying he,part,isAgg,gx,hi]
theorem enters {f:FuncId}{fn:Func}(hf:P.funcs[f]?=some fn)(hn:(fn.name== "runtime.NumGoroutine")=false)(hb:fn.body.isNone=false)(args:Array Value)(w:World) :
  (callFunc f args).run P w=.ok (.enter f args) w:=by
 simp only[callFunc,Sem.run_bind,run_program,Result.andThen_ok,hf]
 rw[if_neg (by rw[hn];exact Bool.false_ne_true),if_neg (by rw[hb];exact Bool.false_ne_true)]
 simp
theorem nV {l:List Oper}{Q:Exit->Act->World->Prop}{Cw:Nat}{a:Act}{w:World}(hm:P.follows .mixedOrders=true)(hB:Region.lexB .any l.toArray=true)
  (h:wpQuiet P l.toArray (Below w.heap.size w) (λa'=>∀w',Below w.heap.size w w'->Q .normal a' w') l a):(Code.region Cw l.toArray true).wp P Q a w :=
 wp_region_quiet (C:=Below w.heap.size w) hm hB ⟨rfl,rfl,rfl,Nat.le_refl _,λ_ _=>rfl⟩ (by simpa using h)
section
variable {ops:Array Oper}{C:World->Prop}{K:Act->Prop}{o:Oper}{rest:List Oper}{a:Act}{w:World}
theorem bE {v:Value}(hw:Region.wanted o (yielded ops a.tmps)=true)(hr:∀W,(execOp a.eval o).run P W=.ok (.value v) W)(h:wpQuiet P ops C K rest (a.put o.dst v)):wpQuiet P ops C K (o::rest) a:=by
 unfold wpQuiet
 rw[if_pos hw]
 refine⟨v,λW _=>?_,h⟩
 unfold Oper.quietAt
 rw[hr W];exact⟨rfl,rfl⟩
theorem fA {v:Value}(hw:Region.wanted o (yielded ops a.tmps)=true)(hr:∀W,C W->(execOp a.eval o).run P W=.ok (.value v) W)(h:wpQuiet P ops C K rest (a.put o.dst v)):wpQuiet P ops C K (o::rest) a:=by
 unfold wpQuiet
 rw[if_pos hw]
 refine⟨v,λW hC=>?_,h⟩
 unfold Oper.quietAt
 rw[hr W hC];exact⟨rfl,rfl⟩
theorem di {v:Value}(f:FuncId){fn:Func}{xs:Array Operand}{ats:Array TypeId}(hw:Region.wanted o (yielded ops a.tmps)=true)(ho:o.op=.call { callee:=.value (.func f),args:=xs,argTypes:=ats })
  (hf:P.funcs[f]?=some fn) (hn:(fn.name== "runtime.NumGoroutine")=false) (hb:fn.body.isNone=false)
  (hc:∀W,Below w.heap.size w W->Calls P f (xs.toList.map a.eval).toArray W λe w'=>e=.returned v/\Below W.heap.size W w')
  (h:wpQuiet P ops (Below w.heap.size w) K rest (a.put o.dst v)):wpQuiet P ops (Below w.heap.size w) K (o::rest) a:=by
 unfold wpQuiet
 rw[if_pos hw]
 refine⟨v,λW hC=>?_,h⟩
 unfold Oper.quietAt
 have he:execOp a.eval o=callFunc f (#[]++xs.map a.eval++#[]):=by
  obtain⟨dst,op,type,pos,after,guard⟩:=o
  subst ho
  rfl
 rw[he,enters hf hn hb]
 refine⟨rfl,?_⟩
 have e2:#[]++xs.map a.eval++#[]=(xs.toList.map a.eval).toArray:=by cases xs;simp
 rw[e2]
 exact(hc W hC).mono λe w' ⟨h1,h2⟩=>⟨h1,dx hC h2 hC.size⟩
theorem Jj {T g n t:Nat}{k:IntKind}{xs:List Nat}{x:Operand}(hw:Region.wanted o (yielded ops a.tmps)=true)(ho:o.op=.load T x)(hx:a.eval x=.pointer (some ⟨g,0,none⟩))(hb:aA w g t (ints k xs))(ha:dG P T n)(hl:xs.length=n)
  (h:wpQuiet P ops (Below w.heap.size w) K rest (a.put o.dst (.agg (ints k xs)))):wpQuiet P ops (Below w.heap.size w) K (o::rest) a:=by
 obtain⟨⟨d,h1,hd⟩,h2⟩:=ha
 refine fA hw (λW hC=>?_) h
 unfold execOp
 simp only[ho,hx,Instr.loadAt,Instr.sureAddr,Sem.run_bind,Sem.run_pure,Result.andThen_ok,run_loadVar_row W g t T _ _ _ (hb.below' hC) h1 (by cases d<;>first|rfl|cases hd) (by rw[aF,hl];exact h2)]
end
section
variable {ops:Array Oper}{Q:Exit->Act->World->Prop}{K:Act->World->Prop}{i:Nat}{o:Oper}{a:Act}{w:World}
theorem af {v:Value}(hi:ops[i]?=some o)(hw:Region.wanted o (yielded ops a.tmps)=true)(hr:(execOp a.eval o).run P w=.ok (.value v) w)(h:K (a.put o.dst v) w):wpOp P ops Q i K a w:=by
 unfold wpOp
 simp only[hi,hw,if_true,Oper.wp,hr,Oper.upon]
 exact .inl h
theorem aV {v:Value}(f:FuncId){fn:Func}{xs:Array Operand}{ats:Array TypeId}(hi:ops[i]?=some o)(hw:Region.wanted o (yielded ops a.tmps)=true)(ho:o.op=.call { callee:=.value (.func f),args:=xs,argTypes:=ats })
  (hf:P.funcs[f]?=some fn) (hn:(fn.name== "runtime.NumGoroutine")=false) (hb:fn.body.isNone=false)
  (hc:Calls P f (xs.toList.map a.eval).toArray w λe w'=>e=.returned v/\Below w.heap.size w w') (h:∀w',Below w.heap.size w w'->K (a.put o.dst v) w'):wpOp P ops Q i K a w:=by
 have he:execOp a.eval o=callFunc f (#[]++xs.map a.eval++#[]):=by
  obtain⟨dst,op,type,pos,after,guard⟩:=o
  subst ho
  rfl
 unfold wpOp
 simp only[hi,hw,if_true,Oper.wp,he,enters hf hn hb,Oper.upon]
 have e2:#[]++xs.map a.eval++#[]=(xs.toList.map a.eval).toArray:=by cases xs;simp
 rw[e2]
 exact .inl (hc.mono λe w' ⟨h1,h2⟩=>by subst h1;exact h w' h2)
theorem bf {T g n t:Nat}{k:IntKind}{xs:List Nat}{x:Operand}(hi:ops[i]?=some o)(hw:Region.wanted o (yielded ops a.tmps)=true)(ho:o.op=.load T x)(hx:a.eval x=.pointer (some ⟨g,0,none⟩))(hb:aA w g t (ints k xs))(ha:dG P T n)(hl:xs.length=n)
  (h:K (a.put o.dst (.agg (ints k xs))) w):wpOp P ops Q i K a w:=by
 obtain⟨⟨d,h1,hd⟩,h2⟩:=ha
 refine af hi hw ?_ h
 unfold execOp
 simp only[ho,hx,Instr.loadAt,Instr.sureAddr,Sem.run_bind,Sem.run_pure,Result.andThen_ok,run_loadVar_row w g t T _ _ _ hb h1 (by cases d<;>first|rfl|cases hd) (by rw[aF,hl];exact h2)]
theorem bZ {T n:Nat}{k:IntKind}(hi:ops[i]?=some o)(hw:Region.wanted o (yielded ops a.tmps)=true)(ho:o.op=.alloc T)(hz:IsZero P T n k)
  (h:K (a.put o.dst (.pointer (some ⟨w.heap.size,0,none⟩))) (w.alloc (.cells (ints k (zeros n)) T))):wpOp P ops Q i K a w:=by
 have hr:(execOp a.eval o).run P w=.ok (.value (.pointer (some ⟨w.heap.size,0,none⟩))) (w.alloc (.cells (ints k (zeros n)) T)):=by
  unfold execOp
  simp only[ho,Sem.run_bind,oO hz,Result.andThen_ok,Sem.run_pure]
 unfold wpOp
 simp only[hi,hw,if_true,Oper.wp,hr,Oper.upon]
 exact .inl h
theorem bJ {T g n t:Nat}{k:IntKind}{xs:List Nat}{x y:Operand}{old:Array Value}(hi:ops[i]?=some o)(hw:Region.wanted o (yielded ops a.tmps)=true)(ho:o.op=.store T x y)(hx:a.eval x=.pointer (some ⟨g,0,none⟩))(hy:a.eval y=.agg (ints k xs))
  (hb:aA w g t old) (hold:old.size=n) (ha:dG P T n) (hl:xs.length=n)
  (h:K (a.put o.dst undef) (w.setRow g (ints k xs))):wpOp P ops Q i K a w:=by
 unfold wpOp
 simp only[hi,hw,if_true]
 exact .inl (wp_store_row T x y ho g _ hx hy t old hb (by rw[aF,hl];exact ha.2) (by rw[aF,hold,hl]) (pI _ _) h)
end
theorem aj {o:Oper}{D:Nat->Prop}(hall:∀e∈o.after,Region.binds .any e=true->D e.on)(j:Nat)(h:(o.after.toList.any λe=>e.on==j&&Region.binds .any e)=true):D j:=by
 obtain⟨e,he,hb⟩:=List.any_eq_true.1 h
 rw[Array.mem_toList_iff] at he
 simp only[Bool.and_eq_true,beq_iff_eq] at hb
 rw[←hb.1];exact hall e he hb.2
def Al (W:World)(B:Nat)(v:Value)(T n:Nat)(k:IntKind)(st:Prop)(xs:List Nat):Prop :=
 ∃g l,v=.pointer (some ⟨g,0,none⟩)/\B<=g/\l.length=n/\aA W g T (ints k l)/\(st->l=xs)
section
variable {W W':World}{B T m:Nat}{v u:Value}{k:IntKind}{st st':Prop}{xs:List Nat}
theorem Al.same (h:Al W B v T m k st xs)(hs:st'->st):Al W B v T m k st' xs:=let ⟨g,l,h1,h2,h3,h4,h5⟩:=h;⟨g,l,h1,h2,h3,h4,λx=>h5 (hs x)⟩
theorem Al.below (h:Al W B v T m k st xs)(hb:Below W.heap.size W W')(hs:st'->st):Al W' B v T m k st' xs:=let ⟨g,l,h1,h2,h3,h4,h5⟩:=h;⟨g,l,h1,h2,h3,h4.below' hb,λx=>h5 (hs x)⟩
theorem Al.alloc (h:Al W B v T m k st xs)(o:Obj)(hs:st'->st):Al (W.alloc o) B v T m k st' xs:=let ⟨g,l,h1,h2,h3,h4,h5⟩:=h;⟨g,l,h1,h2,h3,h4.alloc o,λx=>h5 (hs x)⟩
theorem Al.new (hB:B<=W.heap.size)(hs:st->zeros m=xs):Al (W.alloc (.cells (ints k (zeros m)) T)) B (.pointer (some ⟨W.heap.size,0,none⟩)) T m k st xs:=⟨_,_,rfl,hB,aH m,aA.new _ _ _,hs⟩
theorem Al.set {g:Nat}{old:Array Value}(hb:aA W g T old)(hB:B<=g)(hl:xs.length=m):Al (W.setRow g (ints k xs)) B (.pointer (some ⟨g,0,none⟩)) T m k st xs:=⟨g,xs,rfl,hB,hl,hb.row _,λ_=>rfl⟩
theorem Al.far (h:Al W B v T m k st xs){g:Nat}{ys:List Nat}{k':IntKind}(hne:v≠.pointer (some ⟨g,0,none⟩))(hs:st'->st):Al (W.setRow g (ints k' ys)) B v T m k st' xs :=
 let ⟨g',l,h1,h2,h3,h4,h5⟩:=h
 ⟨g',l,h1,h2,h3,h4.aM (λe=>hne (by rw[h1,e])) _,λx=>h5 (hs x)⟩
theorem Al.JB (h:Al W B v T m k st xs):v≠.pointer (some ⟨W.heap.size,0,none⟩):=by
 obtain⟨g,l,rfl,-,-,h4,-⟩:=h
 intro e
 have:=h4.lt
 injection e with e
 injection e with e
 injection e with e
 omega
theorem Al.LH (h:Al W B v T m k st xs):.pointer (some ⟨W.heap.size,0,none⟩)≠v:=λe=>h.JB e.symm
end
end
open Go.RowKit
variable {P:Program}
def Own (w:World)(B:Nat)(e:TypeId)(k:IntKind)(v:Value)(xs:List Nat):Prop:=w.ownsRow B e 1 v xs.length (xs.map λn:Nat=>Value.int k n)
theorem Own.nil (w:World)(B:Nat)(e:TypeId)(k:IntKind):Own w B e k (.slice none 0 0) []:=World.ownsRow_nil w B e 1
theorem Own.alloc {w:World}{B:Nat}{e:TypeId}{k:IntKind}{v:Value}{xs:List Nat}(h:Own w B e k v xs)(o:Obj):Own (w.alloc o) B e k v xs:=World.ownsRow.alloc h o
theorem Own.drewN {w:World}{B:Nat}{e:TypeId}{k:IntKind}{v:Value}{xs:List Nat}(h:Own w B e k v xs)(n:Nat):Own (w.drewN n) B e k v xs:=h
theorem Own.below {w w':World}{B:Nat}{e:TypeId}{k:IntKind}{v:Value}{xs:List Nat}(h:Own w B e k v xs)(hb:Below w.heap.size w w'):Own w' B e k v xs:=by
 obtain⟨h1,h2⟩:=h
 refine⟨h1,h2.imp id ?_⟩
 rintro ⟨g,cap,cur,hv,hg,hh,r⟩
 exact⟨g,cap,cur,hv,hg,(hb.block g (aA.lt hh)).trans hh,r⟩
theorem Own.sl {w:World}{B:Nat}{e:TypeId}{k:IntKind}{v:Value}{xs:List Nat}(h:Own w B e k v xs):∃a c,v=.slice a xs.length c/\Sl w a k xs/\xs.length<=c/\c<=maxLen:=by
 obtain⟨h1,h2⟩:=h
 rcases h2 with ⟨rfl,h2⟩|⟨g,cap,cur,rfl,hg,hh,hc,hm,hs,ht⟩
 ·have:xs=[]:=List.length_eq_zero_iff.1 h2
  subst this
  exact⟨none,0,rfl,Sl.nil _ _ _,Nat.le_refl _,by simp[maxLen]⟩
 ·refine⟨_,cap,rfl,λ_=>⟨g,0,rfl,aA.lt hh,λi hi=>?_⟩,hc,hm⟩
  rw[Nat.zero_add,cell_of_row w g i cur e _ hh,←Array.getElem?_toList]
  have h3:(cur.toList.take (xs.length*1))[i]?=(xs.map λn:Nat=>Value.int k n)[i]?:=by rw[ht]
  rw[List.getElem?_take,if_pos (by omega),List.getElem?_map,getD_lt hi] at h3
  exact h3
theorem Sl.far {w:World}{g off:Nat}{k:IntKind}{xs:List Nat}(h:Sl w (some ⟨g,off,none⟩) k xs){p:Addr}(hp:g≠p.block)(u:Value):Sl (w.setCell p u) (some ⟨g,off,none⟩) k xs:=λhn=>by
 obtain⟨g2,o2,q1,q2,q3⟩:=h hn
 injection q1 with q1
 injection q1 with q1 q4
 subst q1 q4
 refine⟨g,off,rfl,by simp;exact q2,λj hj=>(World.cell?_setCell_other _ _ _ _ ?_).trans (q3 j hj)⟩
 intro e
 exact hp (by rw[e])
theorem Sl.eq {w:World}{g off:Nat}{k:IntKind}{xs:List Nat}(h:Sl w (some ⟨g,off,none⟩) k xs){i:Nat}(hi:i<xs.length):w.cell? ⟨g,off+i,none⟩=some (.int k ((xs.getD i 0:Nat):Int)):=by
 obtain⟨g2,o2,q1,q2,q3⟩:=h (by rintro rfl;simp at hi)
 injection q1 with q1
 injection q1 with q1 q4
 subst q1 q4
 exact q3 i hi
theorem Own.made {w:World}{B g:Nat}{e:TypeId}{k:IntKind}{xs:List Nat}(h:aA w g e (ints k xs))(hB:B<=g)(hm:xs.length<=maxLen):Own w B e k (.slice (some ⟨g,0,none⟩) xs.length xs.length) xs:=by
 refine⟨by simp,.inr ⟨g,xs.length,ints k xs,rfl,hB,h,Nat.le_refl _,hm,by simp[aF],?_⟩⟩
 rw[Nat.mul_one,List.take_of_length_le (by simp[ints])]
 simp[ints]
structure Only (w w':World)(g:Nat):Prop where
 other:∀g',g'≠g->w'.heap[g']?=w.heap[g']?
 size:w'.heap.size=w.heap.size
 below:∀B w0,Below B w0 w->B<=g->Below B w0 w'
theorem Only.refl (w:World)(g:Nat):Only w w g:=⟨λ_ _=>rfl,rfl,λ_ _ h _=>h⟩
theorem Only.row (w:World)(g:Nat)(cs:Array Value):Only w (w.setRow g cs) g:=⟨λg' h=>setRow_other _ _ _ _ h,setRow_size _ _ _,λ_ _ h hB=>az h hB _⟩
theorem aA.only {w w':World}{g g' t:Nat}{cs:Array Value}(h:aA w g' t cs)(ho:Only w w' g)(hne:g'≠g):aA w' g' t cs:=(ho.other g' hne).trans h
theorem FP (k:IntKind)(xs ys:List Nat)(off:Nat):(((ints k xs).toList.take off++((ys.map λn:Nat=>Value.int k n)++(ints k xs).toList.drop (off+ys.length))).toArray)=ints k (splice xs off ys):=by
 apply Array.ext'
 simp[ints,splice,List.map_take,List.map_drop]
theorem ny {α:Type}{L cs:List α}{off:Nat}(h:off+cs.length<=L.length):(splice L off cs).length=L.length:=length_splice L off cs h
theorem bM {w:World}{ops:Array Oper}{rest:List Oper}{o:Oper}{a:Act}{Q:Exit->Act->World->Prop}{d s:Operand}{dT sT elem t g off dLen dCap sLen sCap:Nat}{dp sp:Option Addr}{k:IntKind}{xs zs:List Nat}(hgd:o.guard=none)
  (ho:o.op=.call { callee:=.builtin .copy,args:=#[d,s],argTypes:=#[dT,sT] }) (hu:P.underlying dT=some (.slice elem)) (hsz:(P.info? elem).map (·.size)=some 1)
  (hd:a.eval d=.slice dp dLen dCap) (hs:a.eval s=.slice sp sLen sCap) (hg:aA w g t (ints k xs)) (hsl:Sl w sp k zs) (hn:zs.length=Nat.min sLen dLen)
  (hpos:zs≠[]->dp=some ⟨g,off,none⟩) (hfit:off+zs.length<=xs.length)
  (h:∀w',aA w' g t (ints k (splice xs off zs))->Only w w' g->wpList P ops Q rest (a.put o.dst (goInt zs.length)) w'):wpList P ops Q (o::rest) a w:=by
 by_cases h0:zs=[]
 ·subst h0
  refine wpList_copy_nothing hgd d s dT sT ho elem hu hsz dp sp dLen dCap sLen sCap hd hs hn.symm ?_
  refine h w ?_ (Only.refl _ _)
  simpa [splice] using hg
 ·obtain⟨g2,o2,rfl,hg2,hc⟩:=hsl h0
  obtain rfl:=hpos h0
  have gq:(zs.map λn:Nat=>Value.int k n).length=zs.length:=by simp
  refine wpList_copy_own hgd d s dT sT ho elem hu hsz g off dLen dCap ⟨g2,o2,none⟩ sLen sCap hd hs _ t hg (zs.map λn:Nat=>Value.int k n) (gq.trans hn) (λj v hv=>?_) (by rw[gq,aF];exact hfit) (by simp[Value.oneCell']) ?_
  ·rw[List.getElem?_map] at hv
   obtain⟨x,hx,rfl⟩:=Option.map_eq_some_iff.1 hv
   obtain⟨hj,-⟩:=List.getElem?_eq_some_iff.1 hx
   rw[Addr.add_mid,hc j hj,List.getD_eq_getElem?_getD,hx];rfl
  ·rw[gq,FP]
   exact h _ (hg.row _) (Only.row _ _ _)
theorem gI {B:Nat}{a w w':World}{v:Value}{B' e:Nat}{k:IntKind}{xs:List Nat}(h:Below B a w)(hg:w.grownBy w' v.ownBlock)(hB:B<=w.heap.size)(hown:Own w B' e k v xs)(hB':B<=B'):Below B a w' :=
 h.grown hg hB λk hk=>Nat.le_trans hB' (World.ownsRow.lt hown k hk).1
theorem aA.TK {w w':World}{g t B e:Nat}{cs:Array Value}{k:IntKind}{v:Value}{xs:List Nat}(h:aA w g t cs)(hg:w.grownBy w' v.ownBlock)(hown:Own w B e k v xs)(hlt:g<B):aA w' g t cs :=
 h.grown hg λe1=>by have:=(World.ownsRow.lt hown g e1.symm).1;omega
section
variable {ops:Array Oper}{C:World->Prop}{K:Act->Prop}{o:Oper}{rest:List Oper}{a:Act}{w:World}
end
open Go.RowKit
variable {P:Program}
def NJ (bs:List Nat):ByteArray:=⟨(bs.map λn:Nat=>UInt8.ofNat n).toArray⟩
theorem NI (bs:List Nat):strOfNums (bs.map λn:Nat=>(n:Int))=NJ bs:=by
 simp[strOfNums,NJ]
theorem VT {S T e:Nat}(hS:P.underlying S=some (.slice e))(he:P.underlying e=some (.int .u8))(hT:P.underlying T=some .string){w:World}{a:Option Addr}{n c:Nat}{bs:List Nat}(hn:n=bs.length)(h:Sl w a .u8 bs) :
  (convert S T (.slice a n c)).run P w=.ok (.string (NJ bs)) w:=by
 subst hn
 by_cases h0:bs=[]
 ·subst h0
  cases a with
  | none=>exact run_convert_bytes_nil w S e hS he 0 c T hT
  | some ad =>
   rw[run_convert_bytes_string w S T e _ _ c hS he hT]
   exact run_bytesToString w ad 0 c [] (by simp[loadCells,loadCellsFrom,Sem.run_pure])
 ·obtain⟨g,off,rfl,-,hc⟩:=h h0
  have hm:∀i,i<bs.length->w.cell? ⟨g,off+i,none⟩=some (.int .u8 ((bs.map λn:Nat=>(n:Int)).getD i 0)):=by
   intro i hi
   rw[hc i hi]
   simp[List.getD_eq_getElem?_getD,List.getElem?_eq_getElem hi]
  have:=run_convert_bytes_arg w S e hS he g off bs.length c (bs.map λn:Nat=>(n:Int)) (by simp) hm T hT
  rw[this,NI]
theorem EO {T:Nat}(x y:ByteArray)(w:World):(binOp .eql T (.string x) (.string y)).run P w=.ok (.bool (x.toList==y.toList)) w:=by
 simp[binOp,Op.stringOp,beq_toListBytes]
theorem IX {xs ys:List Nat}(h:xs=ys):((NJ xs).toList==(NJ ys).toList)=true:=by subst h;simp
section
variable {ops:Array Oper}{K:Act->Prop}{C:World->Prop}{o:Oper}{rest:List Oper}{a:Act}{w:World}
theorem fH {T g i:Nat}{k:IntKind}{x:Operand}{v:Value}(hw:Region.wanted o (yielded ops a.tmps)=true)(ho:o.op=.load T x)(hx:a.eval x=.pointer (some ⟨g,i,none⟩))(hT:P.underlying T=some (.int k))(hg:g<w.heap.size)(hc:w.cell? ⟨g,i,none⟩=some v)
  (h:wpQuiet P ops (Below w.heap.size w) K rest (a.put o.dst v)):wpQuiet P ops (Below w.heap.size w) K (o::rest) a :=
 fA hw (λW hC=>by
  have hc':=(hC.cell (p:=⟨g,i,none⟩) hg).trans hc
  unfold execOp
  simp only[ho,hx,Instr.loadAt,Instr.sureAddr,Sem.run_bind,Sem.run_pure,Result.andThen_ok]
  simp[loadVar,isAgg,run_underlying hT,hc',go_sem]) h
end
theorem Sl.drop {w:World}{g off:Nat}{k:IntKind}{xs:List Nat}(h:Sl w (some ⟨g,off,none⟩) k xs)(m:Nat):Sl w (some ⟨g,off+m,none⟩) k (xs.drop m):=λhn=>by
 obtain⟨g2,o2,q1,q2,q3⟩:=h (by rintro rfl;simp at hn)
 injection q1 with q1
 injection q1 with q1 q4
 subst q1 q4
 refine⟨g,off+m,rfl,q2,λi hi=>?_⟩
 rw[List.length_drop] at hi
 rw[Nat.add_assoc,q3 (m+i) (by omega)]
 congr 3
 rw[List.getD_eq_getElem?_getD,List.getD_eq_getElem?_getD,List.getElem?_drop]
theorem Sl.take {w:World}{a:Option Addr}{k:IntKind}{xs:List Nat}(h:Sl w a k xs)(m:Nat):Sl w a k (xs.take m):=λhn=>by
 obtain⟨g2,o2,q1,q2,q3⟩:=h (by rintro rfl;simp at hn)
 refine⟨g2,o2,q1,q2,λi hi=>?_⟩
 rw[List.length_take] at hi
 rw[q3 i (by omega)]
 congr 3
 rw[List.getD_eq_getElem?_getD,List.getD_eq_getElem?_getD,List.getElem?_take,if_pos (by omega)]
open Go.RowKit
variable {P:Program}
theorem dA {ops:Array Oper}{rest:List Oper}{o:Oper}{a:Act}{w:World}{Q:Exit->Act->World->Prop}{B e t m c bytes:Nat}{k:IntKind}{z:Value}{v:Value}{ad:Option Addr}{xs zs:List Nat}{s x:Operand}(hgd:o.guard=none)
  (ho:o.op=.call { callee:=.builtin .append,args:=#[s,x],argTypes:=#[t,t] }) (ht:P.underlying t=some (.slice e)) (Da:(P.info? e).map (λi=>(i.zero,i.size,i.bytes))=some (some z,1,bytes)) (hz:z.cells.size=1) (hby:bytes<=64)
  (hs:a.eval s=v) (hown:Own w B e k v xs) (hx:a.eval x=.slice ad m c) (hm:m=zs.length) (hn:ad=none->c=0) (hsl:Sl w ad k zs) (hl:xs.length+zs.length<2^40) (hB:B<=w.heap.size)
  (h:∀v' w',Own w' B e k v' (xs++zs)->w.grownBy w' v.ownBlock->wpList P ops Q rest (a.put o.dst v') w'):wpList P ops Q (o::rest) a w:=by
 obtain⟨i,hi,hz0,hz1,hz2⟩:=info_parts Da
 subst hm
 cases ad with
 | none =>
  obtain rfl:=hn rfl
  have hz0':zs=[]:=Classical.byContradiction λhne=>by obtain⟨_,_,q,-⟩:=hsl hne;cases q
  subst hz0'
  refine wpList_plain hgd λK hK=>?_
  have hrun:=run_append_owned_none (P:=P) w B t o.type e i 1 ht hi v xs.length _ hown
  unfold Oper.wp execOp
  simp only[ho,resolve,invoke,builtin,Sem.run_bind,Sem.run_pure,Result.andThen_ok,List.map_toArray,List.map_cons,List.map_nil,hs,hx,List.length_nil,hrun]
  refine hK _ _ (h v w (by rw[List.append_nil];exact hown) ⟨rfl,rfl,rfl,Nat.le_refl _,λ_ _ _=>rfl⟩)
 | some ad =>
  refine wpList_append_own w hgd s x t ho B e i z 1 bytes ht hi hz0 hz1 hz2 hz (by omega) v xs.length _ hs hown ad zs.length c (zs.map λn:Nat=>Value.int k n) hx (by simp) ?_ ?_ ?_ ?_ hB ?_
  ·intro j u hj
   rw[List.getElem?_map] at hj
   obtain⟨y,hy,rfl⟩:=Option.map_eq_some_iff.1 hj
   obtain⟨hjl,-⟩:=List.getElem?_eq_some_iff.1 hy
   obtain⟨g,off,q1,q2,q3⟩:=hsl (by rintro rfl;simp at hjl)
   injection q1 with q1
   subst q1
   rw[Addr.add_mid,q3 j hjl,List.getD_eq_getElem?_getD,hy];rfl
  ·simp[Value.oneCell']
  ·simp[maxLen];omega
  ·calc (xs.length+zs.length)*bytes<=2^40*64:=Nat.mul_le_mul (by omega) hby
    _<=_:=by omega
  ·intro v' w' h1 h2 _
   refine h v' w' ?_ h2
   unfold Own
   rw[List.length_append,List.map_append]
   exact h1
theorem uS {ops:Array Oper}{Q:Exit->Act->World->Prop}{K:Act->World->Prop}{j:Nat}{o:Oper}{a:Act}{w:World}{T g i:Nat}{k:IntKind}{x:Operand}{v:Value}(hi:ops[j]?=some o)(hw:Region.wanted o (yielded ops a.tmps)=true)(ho:o.op=.load T x)(hx:a.eval x=.pointer (some ⟨g,i,none⟩))(hT:P.underlying T=some (.int k))(hc:w.cell? ⟨g,i,none⟩=some v)
  (h:K (a.put o.dst v) w):wpOp P ops Q j K a w :=
 af hi hw (by
  unfold execOp
  simp only[ho,hx,Instr.loadAt,Instr.sureAddr,Sem.run_bind,Sem.run_pure,Result.andThen_ok]
  simp[loadVar,isAgg,run_underlying hT,hc,go_sem]) h
theorem oD {ops:Array Oper}{Q:Exit->Act->World->Prop}{Cw:Nat}{a:Act}{w:World}(last:Nat)(hm:P.follows .mixedOrders=true)
  (hok:(ops.toList.zipIdx.all λ(o,i)=>o.after.all λe=>decide (e.on<i))=true)
  (hsz:(ops.size==last+1)=true)
  (hall:((List.range last).all λj=>(ops[last]?.map λo=>o.after.toList.any λe=>e.on==j&&Region.binds .any e)==some true)=true)
  (I:(Nat->Prop)->Act->World->Prop)
  (h0:I (λ_=>False) a w.drew)
  (hstep:∀(i:Nat) (o:Oper),i<last->ops[i]?=some o->∀(D:Nat->Prop) (a:Act) (w:World),I D a w->¬D i->(∀e∈o.after,Region.binds .any e=true->D e.on) ->
   wpOp P ops Q i (λa' w'=>I (λj=>j=i∨D j) a' w') a w)
  (hend:∀(D:Nat->Prop) (a:Act) (w:World),I D a w->(∀j,j<last->D j)->wpOp P ops Q last (λa' w'=>Q .normal a' w') a w) :
  (Code.region Cw ops true).wp P Q a w:=by
 rw[beq_iff_eq] at hsz
 refine eZ hm hok (λD a' w'=>(¬D last/\I D a' w')∨(D last/\(∀j,j<last->D j)/\Q .normal a' w')) (.inl ⟨λh=>h,h0⟩) ?_ ?_
 ·intro i o hi D a' w' hI hnD hpre
  have hlt:i<ops.size:=(Array.getElem?_eq_some_iff.1 hi).1
  rcases hI with ⟨hl,hI⟩|⟨hl,hD,-⟩
  ·by_cases h:i=last
   ·subst h
    have pO:∀j,j<i->D j:=λj hj=>by
     have h1:=List.all_eq_true.1 hall j (List.mem_range.2 hj)
     rw[hi] at h1
     simp only[Option.map_some,beq_iff_eq,Option.some.injEq] at h1
     exact aj hpre j h1
    refine wpOp_mono (λa2 w2 q=>.inr ⟨.inl rfl,λj hj=>.inr (pO j hj),q⟩) (hend D a' w' hI pO)
   ·refine wpOp_mono (λa2 w2 q=>.inl ⟨λh2=>h2.elim (λh3=>h h3.symm) hl,q⟩) (hstep i o (by omega) hi D a' w' hI hnD hpre)
  ·exfalso
   by_cases h:i=last
   ·subst h;exact hnD hl
   ·exact hnD (hD i (by omega))
 ·intro D a' w' hI hD
  rcases hI with ⟨hl,-⟩|⟨-,-,q⟩
  ·exact absurd (hD last (by omega)) hl
  ·exact q
theorem Own.mono {w:World}{B B' e:Nat}{k:IntKind}{v:Value}{xs:List Nat}(h:Own w B e k v xs)(hB:B'<=B):Own w B' e k v xs:=by
 obtain⟨h1,h2⟩:=h
 refine⟨h1,h2.imp id ?_⟩
 rintro ⟨g,cap,cur,hv,hg,r⟩
 exact⟨g,cap,cur,hv,Nat.le_trans hB hg,r⟩
open Go.RowKit
theorem rl {i j:Nat}{D:Nat->Prop}(h:j=i∨D j)(hne:(j==i)=false:=by rfl):D j:=h.resolve_left (by simpa using hne)
section
variable {P:Program}
theorem fD {ops:Array Oper}{Q:Exit->Act->World->Prop}{Cw:Nat}{a:Act}{w:World}(last:Nat)(hm:P.follows .mixedOrders=true)
  (hok:(ops.toList.zipIdx.all λ(o,i)=>o.after.all λe=>decide (e.on<i))=true)
  (hsz:(ops.size==last+1)=true)
  (hall:((List.range last).all λj=>(List.range (last+1)).any λm=>decide (j<m)&&((ops[m]?.map λo=>o.after.toList.any λe=>e.on==j&&Region.binds .any e)==some true))=true)
  (I:(Nat->Prop)->Act->World->Prop)
  (h0:I (λ_=>False) a w.drew)
  (hstep:∀(i:Nat) (o:Oper),i<last->ops[i]?=some o->∀(D:Nat->Prop) (a:Act) (w:World),I D a w->¬D i->(∀e∈o.after,Region.binds .any e=true->D e.on) ->
   wpOp P ops Q i (λa' w'=>I (λj=>j=i∨D j) a' w') a w)
  (hend:∀(D:Nat->Prop) (a:Act) (w:World),I D a w->(∀j,j<last->D j)->wpOp P ops Q last (λa' w'=>Q .normal a' w') a w) :
  (Code.region Cw ops true).wp P Q a w:=by
 rw[beq_iff_eq] at hsz
 refine eZ hm hok (λD a' w'=>(¬D last/\(∀m o,D m->ops[m]?=some o->∀e∈o.after,Region.binds .any e=true->D e.on)/\I D a' w')∨(D last/\(∀j,j<last->D j)/\Q .normal a' w')) (.inl ⟨λh=>h,λ_ _ h=>h.elim,h0⟩) ?_ ?_
 ·intro i o hi D a' w' hI hnD hpre
  have hlt:i<ops.size:=(Array.getElem?_eq_some_iff.1 hi).1
  rcases hI with ⟨hl,hcl,hI⟩|⟨hl,hD,-⟩
  ·by_cases h:i=last
   ·subst h
    have hk:∀k j,j<i->i-j<=k->D j:=λk=>by
     induction k with
     | zero=>intro j hj hk;omega
     | succ k ih =>
      intro j hj hk
      have h1:=List.all_eq_true.1 hall j (List.mem_range.2 hj)
      obtain⟨m,hm1,hm2⟩:=List.any_eq_true.1 h1
      rw[List.mem_range] at hm1
      simp only[Bool.and_eq_true,decide_eq_true_eq,beq_iff_eq] at hm2
      obtain⟨hjm,hm2⟩:=hm2
      obtain⟨om,vX⟩:∃om,ops[m]?=some om:=⟨ops[m]'(by omega),Array.getElem?_eq_getElem (by omega)⟩
      rw[vX] at hm2
      simp only[Option.map_some,Option.some.injEq] at hm2
      by_cases WY:m=i
      ·subst WY
       rw[hi] at vX
       cases vX
       exact aj hpre j hm2
      ·exact aj (hcl m om (ih m (by omega) (by omega)) vX) j hm2
    have pO:∀j,j<i->D j:=λj hj=>hk _ j hj (Nat.le_refl _)
    refine wpOp_mono (λa2 w2 q=>.inr ⟨.inl rfl,λj hj=>.inr (pO j hj),q⟩) (hend D a' w' hI pO)
   ·refine wpOp_mono (λa2 w2 q=>.inl ⟨λh2=>h2.elim (λh3=>h h3.symm) hl,?_,q⟩) (hstep i o (by omega) hi D a' w' hI hnD hpre)
    intro m om Ke vX e he hb
    rcases Ke with rfl|Ke
    ·rw[hi] at vX
     cases vX
     exact .inr (hpre e he hb)
    ·exact .inr (hcl m om Ke vX e he hb)
  ·exfalso
   by_cases h:i=last
   ·subst h;exact hnD hl
   ·exact hnD (hD i (by omega))
 ·intro D a' w' hI hD
  rcases hI with ⟨hl,-⟩|⟨-,-,q⟩
  ·exact absurd (hD last (by omega)) hl
  ·exact q
end
open Go.RowKit
section
variable {P:Program}{ops:Array Oper}{rest:List Oper}{o:Oper}{a:Act}{w:World}{Q:Exit->Act->World->Prop}
def qc (P:Program)(T:TypeId):Prop:=(P.info? T).map (·.size)=some 1
theorem zN {T:TypeId}(hT:qc P T){g i t:Nat}{k:IntKind}{xs:List Nat}(hb:aA w g t (ints k xs))(hi:i<xs.length)(n:Nat) :
  (storeVar T ⟨g,i,none⟩ (.int k n)).run P w=.ok () (w.setCell ⟨g,i,none⟩ (.int k n)):=by
 unfold qc at hT
 obtain⟨d,hd,h1⟩:=Option.map_eq_some_iff.1 hT
 have hc:=hb.int hi
 have hf:=hb.frozen i
 simp[storeVar,sizeOf,typeInfo,hd,h1,Value.cells,storeCells,go_sem,hc,hf]
structure iG (g:Nat)(w w':World):Prop where
 heap:∀g',g'≠g->w'.heap[g']?=w.heap[g']?
 below:∀{B:Nat} {w0:World},Below B w0 w->B<=g->Below B w0 w'
 size:w'.heap.size=w.heap.size
theorem iG.blk {g:Nat}{w w':World}(h:iG g w w'){g' t':Nat}{cs:Array Value}(hb:aA w g' t' cs)(hne:g'≠g):aA w' g' t' cs:=(h.heap g' hne).trans hb
theorem iG.set (w:World)(g i:Nat)(v:Value):iG g w (w.setCell ⟨g,i,none⟩ v):=⟨λg' hg=>Below.heap_setCell _ _ _ _ hg,λh hB=>h.setCell hB _,by simp⟩
theorem wpList_store_one (hgd:o.guard=none)(T:TypeId)(x y:Operand)(ho:o.op=.store T x y)(hT:qc P T){g t:Nat}{k:IntKind}{xs:List Nat}(hb:aA w g t (ints k xs))(i n:Nat)
  (hx:a.eval x=.pointer (some ⟨g,i,none⟩)) (hy:a.eval y=.int k n) (hi:i<xs.length)
  (h:∀w',aA w' g t (ints k (xs.set i n))->iG g w w'->wpList P ops Q rest (a.put o.dst undef) w'):wpList P ops Q (o::rest) a w :=
 wpList_plain hgd λ_ hK=>by
  unfold Oper.wp execOp
  simp only[ho,hx,hy,Instr.storeAt,Instr.sureAddr,Sem.run_bind,Sem.run_pure,Result.andThen_ok,zN hT hb hi n]
  exact hK _ _ (h _ (hb.dw i n) (iG.set _ _ _ _))
end
section
variable {P:Program}{ops:Array Oper}{o:Oper}{a:Act}{w:World}{Q:Exit->Act->World->Prop}{K:Act->World->Prop}{j:Nat}
theorem iE {v:Value}{g t:Nat}{k:IntKind}{zs:List Nat}(f:FuncId){fn:Func}{xs:Array Operand}{ats:Array TypeId}(hi:ops[j]?=some o)(hw:Region.wanted o (yielded ops a.tmps)=true)(ho:o.op=.call { callee:=.value (.func f),args:=xs,argTypes:=ats })
  (hf:P.funcs[f]?=some fn) (hn:(fn.name== "runtime.NumGoroutine")=false) (hb:fn.body.isNone=false)
  (hc:Calls P f (xs.toList.map a.eval).toArray w λe w'=>e=.returned v/\Below w.heap.size w w'/\aA w' g t (ints k zs)) (h:∀w',Below w.heap.size w w'->aA w' g t (ints k zs)->K (a.put o.dst v) w'):wpOp P ops Q j K a w:=by
 have he:execOp a.eval o=callFunc f (#[]++xs.map a.eval++#[]):=by
  obtain⟨dst,op,type,pos,after,guard⟩:=o
  subst ho
  rfl
 unfold wpOp
 simp only[hi,hw,if_true,Oper.wp,he,enters hf hn hb,Oper.upon]
 have e2:#[]++xs.map a.eval++#[]=(xs.toList.map a.eval).toArray:=by cases xs;simp
 rw[e2]
 exact .inl (hc.mono λe w' ⟨h1,h2,h3⟩=>by subst h1;exact h w' h2 h3)
end
def mix (ys xs:List Nat)(k:Nat):List Nat:=ys.take k++xs.drop k
section
variable {ys xs:List Nat}{n k:Nat}
theorem Fz:mix ys xs 0=xs:=by simp[mix]
theorem LQ (hy:ys.length=n)(hx:xs.length=n)(hk:k<=n):(mix ys xs k).length=n:=by
 unfold mix
 rw[List.length_append,List.length_take,List.length_drop];omega
theorem LU (hy:ys.length=n)(hx:xs.length=n):mix ys xs n=ys:=by
 unfold mix
 rw[List.take_of_length_le (by omega),List.drop_eq_nil_of_le (by omega),List.append_nil]
theorem Wx (hy:ys.length=n)(hk:k<=n)(i:Nat)(hi:k<=i):(mix ys xs k).getD i 0=xs.getD i 0:=by
 unfold mix
 rw[List.getD_eq_getElem?_getD,List.getElem?_append_right (by rw[List.length_take];omega),List.length_take,Nat.min_eq_left (by omega),List.getElem?_drop,show k+(i-k)=i by omega,←List.getD_eq_getElem?_getD]
theorem LP (hy:ys.length=n)(hx:xs.length=n)(hk:k<n):(mix ys xs k).set k (ys.getD k 0)=mix ys xs (k+1):=by
 unfold mix
 rw[List.set_append_right _ _ (by rw[List.length_take];omega),List.length_take,Nat.min_eq_left (by omega),Nat.sub_self,List.drop_eq_getElem_cons (show k<xs.length by omega),List.set_cons_zero,List.take_succ_eq_append_getElem (show k<ys.length by omega),List.getD_eq_getElem?_getD,List.getElem?_eq_getElem (show k<ys.length by omega),List.append_assoc]
 rfl
end
open Go.RowKit
section
variable {P:Program}
theorem yf (k:IntKind)(n:Nat):madeCells (Value.cells (.int k 0)) n=ints k (zeros n):=by
 unfold zeros
 rw[yo]
 apply Array.ext
 ·simp[madeCells]
 ·intro i h1 h2
  simp[madeCells,Value.cells,Nat.mod_one]
theorem zP {T e n bytes:Nat}{k:IntKind}(ht:P.underlying T=some (.slice e))(Da:(P.info? e).map (λi=>(i.zero,i.size,i.bytes))=some (some (.int k 0),1,bytes))(hby:bytes<=8)(hn:n<2^40)(w:World) :
  (Instr.makeSlice T (.int .i64 (n:Int)) (.int .i64 (n:Int))).run P w=.ok (.slice (some ⟨w.heap.size,0,none⟩) n n) (w.alloc (.cells (ints k (zeros n)) e)):=by
 obtain⟨i,hi,hz0,hz1,hz2⟩:=info_parts Da
 have hb:(i.bytes:Int)*(n:Int)<=281474976710656:=by
  have h1:i.bytes*n<=8*2^40:=Nat.mul_le_mul (by omega) (by omega)
  have h2:((i.bytes*n:Nat):Int)<=281474976710656:=by omega
  rwa [Int.natCast_mul] at h2
 have hr:=run_make (P:=P) w T e i _ ht hi hz0 .i64 .i64 n n (by omega) (Int.le_refl _) hb (by omega)
 simp only[Int.toNat_natCast,hz1,Nat.mul_one,yf] at hr
 exact hr
def vals (k:IntKind)(xs:List Nat):List Value:=xs.map λn:Nat=>Value.int k n
theorem bg (k:IntKind)(xs:List Nat):(vals k xs).length=xs.length:=by simp[vals]
theorem dX (k:IntKind)(xs:List Nat):∀v∈vals k xs,v.oneCell'=true:=by
 intro v hv
 obtain⟨x,-,rfl⟩:=List.mem_map.1 hv
 rfl
section
variable {w:World}{g t:Nat}{pre old post vs:List Value}
theorem aA.part (h:aA w g t (pre++old++post).toArray){o:Nat}(ho:o=pre.length):w.rangeAt g o old:=λj v hv=>by
 have hj:=(List.getElem?_eq_some_iff.1 hv).1
 rw[h.cell,List.getElem?_toArray,List.append_assoc,List.getElem?_append_right (by omega),List.getElem?_append_left (by omega),show o+j-pre.length=j by omega]
 exact hv
theorem aA.setCells:∀{vs old pre:List Value} {w:World},aA w g t (pre++old++post).toArray->old.length=vs.length->aA (w.setCells g pre.length vs) g t (pre++vs++post).toArray
 | [],old,pre,w,h,hl=>by
  obtain rfl:=List.eq_nil_of_length_eq_zero hl
  exact h
 | v::vs,[],pre,w,h,hl=>by simp at hl
 | v::vs,u::old,pre,w,h,hl=>by
  have h1:=h.kL pre.length v
  have e:(pre++u::old++post).toArray.setIfInBounds pre.length v=((pre++[v])++old++post).toArray:=by
   simp[List.set_append_right]
  rw[e] at h1
  have h2:=aA.setCells (vs:=vs) h1 (by simpa using hl)
  rw[show (pre++[v]).length=pre.length+1 by simp] at h2
  have e2:(pre++v::vs++post).toArray=((pre++[v])++vs++post).toArray:=by simp
  rw[e2]
  exact h2
theorem iG.trans {g:Nat}{a b c:World}(h:iG g a b)(h':iG g b c):iG g a c:=⟨λg' hg=>(h'.heap g' hg).trans (h.heap g' hg),λhb hB=>h'.below (h.below hb hB) hB,h'.size.trans h.size⟩
theorem iG.refl (g:Nat)(w:World):iG g w w:=⟨λ_ _=>rfl,λh _=>h,rfl⟩
theorem iG.setCells (g:Nat):∀(vs:List Value) (o:Nat) (w:World),iG g w (w.setCells g o vs)
 | [],o,w=>iG.refl g w
 | v::vs,o,w=>(iG.set w g o v).trans (iG.setCells g vs (o+1) _)
theorem iG.row (w:World)(g:Nat)(cs:Array Value):iG g w (w.setRow g cs):=⟨λg' hg=>setRow_other _ _ _ _ hg,λh hB=>az h hB _,setRow_size _ _ _⟩
structure Ch (g:Nat)(w w':World):Prop where
 heap:∀b,b<w.heap.size->b≠g->w'.heap[b]?=w.heap[b]?
 size:w.heap.size<=w'.heap.size
 below:∀{B:Nat} {w0:World},Below B w0 w->B<=g->B<=w.heap.size->Below B w0 w'
theorem Ch.refl (g:Nat)(w:World):Ch g w w:=⟨λ_ _ _=>rfl,Nat.le_refl _,λh _ _=>h⟩
theorem Ch.trans {g:Nat}{a b c:World}(h:Ch g a b)(h':Ch g b c):Ch g a c :=
 ⟨λx hx hg=>(h'.heap x (Nat.lt_of_lt_of_le hx h.size) hg).trans (h.heap x hx hg),Nat.le_trans h.size h'.size,λhb hB hs=>h'.below (h.below hb hB hs) hB (Nat.le_trans hs h.size)⟩
theorem Ch.bX {g:Nat}{w w':World}(h:iG g w w'):Ch g w w':=⟨λb _ hg=>h.heap b hg,Nat.le_of_eq h.size.symm,λhb hB _=>h.below hb hB⟩
theorem Ch.of_below {g:Nat}{w w':World}(h:Below w.heap.size w w'):Ch g w w':=⟨λb hb _=>h.block b hb,h.size,λhb _ hs=>hb.trans (h.mono hs)⟩
theorem Ch.drew {g:Nat}{w w':World}(h:Ch g w w'):Ch g w w'.drew:=⟨h.heap,h.size,λhb hB hs=>(h.below hb hB hs).drew⟩
theorem Ch.blk {g:Nat}{w w':World}(h:Ch g w w'){g' t':Nat}{cs:Array Value}(hb:aA w g' t' cs)(hne:g'≠g):aA w' g' t' cs:=(h.heap g' hb.lt hne).trans hb
theorem Ch.sl {g:Nat}{w w':World}(h:Ch g w w'){ad:Option Addr}{k:IntKind}{xs:List Nat}(hs:Sl w ad k xs)(hne:∀b off,ad=some ⟨b,off,none⟩->b≠g):Sl w' ad k xs:=λhn=>by
 obtain⟨b,off,h1,h2,h3⟩:=hs hn
 exact⟨b,off,h1,Nat.lt_of_lt_of_le h2 h.size,λi hi=>(World.cell?_of_block (w:=w) (h.heap b h2 (hne b off h1))).trans (h3 i hi)⟩
end
section
variable {ops:Array Oper}{rest:List Oper}{o:Oper}{a:Act}{w:World}{Q:Exit->Act->World->Prop}{g t n:Nat}{pre old post vs:List Value}
theorem dZ (hgd:o.guard=none)(T:TypeId)(x:Operand)(ho:o.op=.load T x)(off:Nat)(hx:a.eval x=.pointer (some ⟨g,off,none⟩))(hb:aA w g t (pre++old++post).toArray)(hoff:off=pre.length)
  (ha:dG P T n) (hl:old.length=n) (h:wpList P ops Q rest (a.put o.dst (.agg old.toArray)) w):wpList P ops Q (o::rest) a w:=by
 obtain⟨⟨d,h1,hd⟩,h2⟩:=ha
 exact wpList_load_mid hgd T x ho g off hx old d (hb.part hoff) h1 hd (by rw[h2,hl]) h
theorem xD (hb:aA w g t (pre++old++post).toArray){off:Nat}(hoff:off=pre.length):w.there g off old.length:=λj hj=>by
 refine⟨?_,hb.frozen _⟩
 rw[hb.part hoff j _ (List.getElem?_eq_getElem hj)];rfl
theorem iO (hgd:o.guard=none)(T:TypeId)(x y:Operand)(ho:o.op=.store T x y)(off:Nat)(hx:a.eval x=.pointer (some ⟨g,off,none⟩))(hy:a.eval y=.agg vs.toArray)(hb:aA w g t (pre++old++post).toArray)(hoff:off=pre.length)
  (ha:dG P T n) (hl:old.length=n) (hl':vs.length=n) (h1:∀v∈vs,v.oneCell'=true)
  (h:∀w',aA w' g t (pre++vs++post).toArray->iG g w w'->wpList P ops Q rest (a.put o.dst undef) w'):wpList P ops Q (o::rest) a w:=by
 refine wpList_store_mid hgd T x y ho g off vs.toArray hx hy (by rw[List.size_toArray,hl',←hl];exact xD hb hoff) (by rw[List.size_toArray,hl'];exact ha.2) (all_oneCell_toArray h1) ?_
 refine h _ ?_ (iG.setCells _ _ _ _)
 subst hoff
 exact hb.setCells (by rw[hl,hl'])
theorem iP (hgd:o.guard=none)(T:TypeId)(x y:Operand)(ho:o.op=.store T x y)(hT:qc P T)(off:Nat){v u:Value}(hx:a.eval x=.pointer (some ⟨g,off,none⟩))(hy:a.eval y=v)(h1:v.oneCell'=true)(hcs:v.cells=#[v])(hb:aA w g t (pre++[u]++post).toArray)(hoff:off=pre.length)
  (h:∀w',aA w' g t (pre++[v]++post).toArray->iG g w w'->wpList P ops Q rest (a.put o.dst undef) w'):wpList P ops Q (o::rest) a w :=
 wpList_plain hgd λ_ hK=>by
  unfold qc at hT
  obtain⟨d,hd,hd1⟩:=Option.map_eq_some_iff.1 hT
  have hc:=hb.part hoff 0 u rfl
  have hf:=hb.frozen off
  rw[Nat.add_zero] at hc
  have hr:(storeVar T ⟨g,off,none⟩ v).run P w=.ok () (w.setCell ⟨g,off,none⟩ v):=by
   have ha:(⟨g,off,none⟩:Addr).add 0=⟨g,off,none⟩:=by rw[Addr.add_mid];rfl
   simp[storeVar,sizeOf,typeInfo,hd,hd1,hcs,storeCells,Sem.run_bind,run_store P w _ v _ h1,ha,hc,hf]
  unfold Oper.wp execOp
  simp only[ho,hx,hy,Instr.storeAt,Instr.sureAddr,Sem.run_bind,Sem.run_pure,Result.andThen_ok,hr]
  refine hK _ _ (h _ ?_ (iG.set _ _ _ _))
  subst hoff
  exact hb.setCells (vs:=[v]) rfl
theorem eO {K:Act->World->Prop}{i:Nat}(hi:ops[i]?=some o)(hw:Region.wanted o (yielded ops a.tmps)=true)(T:TypeId)(x y:Operand)(ho:o.op=.store T x y)(off:Nat)(hx:a.eval x=.pointer (some ⟨g,off,none⟩))(hy:a.eval y=.agg vs.toArray)(hb:aA w g t (pre++old++post).toArray)(hoff:off=pre.length)
  (ha:dG P T n) (hl:old.length=n) (hl':vs.length=n) (h1:∀v∈vs,v.oneCell'=true)
  (h:∀w',aA w' g t (pre++vs++post).toArray->iG g w w'->K (a.put o.dst undef) w'):wpOp P ops Q i K a w:=by
 unfold wpOp
 simp only[hi,hw,if_true]
 refine .inl (wp_store_mid T x y ho g off vs.toArray hx hy (by rw[List.size_toArray,hl',←hl];exact xD hb hoff) (by rw[List.size_toArray,hl'];exact ha.2) (all_oneCell_toArray h1) ?_)
 refine h _ ?_ (iG.setCells _ _ _ _)
 subst hoff
 exact hb.setCells (by rw[hl,hl'])
theorem wpOp_step {K:Act->World->Prop}{i:Nat}{v:Value}{w':World}(hi:ops[i]?=some o)(hw:Region.wanted o (yielded ops a.tmps)=true)(hr:(execOp a.eval o).run P w=.ok (.value v) w')(h:K (a.put o.dst v) w'):wpOp P ops Q i K a w:=by
 unfold wpOp
 simp only[hi,hw,if_true,Oper.wp,hr,Oper.upon]
 exact .inl h
theorem dY {K:Act->World->Prop}{i:Nat}{R:Value->World->Prop}(f:FuncId){fn:Func}{xs:Array Operand}{ats:Array TypeId}(hi:ops[i]?=some o)(hw:Region.wanted o (yielded ops a.tmps)=true)(ho:o.op=.call { callee:=.value (.func f),args:=xs,argTypes:=ats })
  (hf:P.funcs[f]?=some fn) (hn:(fn.name== "runtime.NumGoroutine")=false) (hb:fn.body.isNone=false)
  (hc:Calls P f (xs.toList.map a.eval).toArray w λe w'=>∃v,e=.returned v/\R v w') (h:∀v w',R v w'->K (a.put o.dst v) w'):wpOp P ops Q i K a w:=by
 have he:execOp a.eval o=callFunc f (#[]++xs.map a.eval++#[]):=by
  obtain⟨dst,op,type,pos,after,guard⟩:=o
  subst ho
  rfl
 unfold wpOp
 simp only[hi,hw,if_true,Oper.wp,he,enters hf hn hb,Oper.upon]
 have e2:#[]++xs.map a.eval++#[]=(xs.toList.map a.eval).toArray:=by cases xs;simp
 rw[e2]
 exact .inl (hc.mono λe w' ⟨v,h1,h2⟩=>by subst h1;exact h v w' h2)
theorem vg {T e:TypeId}{x:Operand}{i:Nat}{v:Value}(ho:o.op=.load T x)(hx:a.eval x=.pointer (some ⟨g,i,none⟩))(hT:P.underlying T=some (.pointer e))(hc:w.cell? ⟨g,i,none⟩=some v) :
  (execOp a.eval o).run P w=.ok (.value v) w:=by
 unfold execOp
 simp only[ho,hx,Instr.loadAt,Instr.sureAddr,Sem.run_bind,Sem.run_pure,Result.andThen_ok]
 simp[loadVar,isAgg,run_underlying hT,hc,go_sem]
end
def KG (W:World)(B:Nat)(v:Value)(T n:Nat)(k:IntKind)(xs:List Nat):Prop:=∃g,v=.slice (some ⟨g,0,none⟩) n n/\B<=g/\xs.length=n/\aA W g T (ints k xs)
section
variable {W W':World}{B T m:Nat}{v:Value}{k:IntKind}{xs:List Nat}
theorem KG.below (h:KG W B v T m k xs)(hb:Below W.heap.size W W'):KG W' B v T m k xs:=let ⟨g,h1,h2,h3,h4⟩:=h;⟨g,h1,h2,h3,h4.below' hb⟩
end
end
open Go.RowKit
section
variable {P:Program}{o:Oper}{a:Act}{w:World}
theorem jQ {T e:TypeId}(hT:P.underlying T=some (.slice e)):P.elem T=e:=by simp[Program.elem,hT]
end
def dC (bs:List Nat):List Nat:=bs++zeros ((16-bs.length%16)%16)
theorem mI (bs:List Nat):(dC bs).length=bs.length+(16-bs.length%16)%16:=by simp[dC,aH]
theorem Fe (bs:List Nat):(dC bs).length%16=0:=by rw[mI];omega
theorem qo {bs:List Nat}(hb:∀x∈bs,x<256):∀x∈dC bs,x<256:=λx hx=>by
 rcases List.mem_append.1 hx with h|h
 ·exact hb x h
 ·exact dh _ (by omega) x h
def blk (bs:List Nat)(i:Nat):List Nat:=(bs.drop (16*i)).take 16
theorem MU {bs:List Nat}{i:Nat}(h:16*(i+1)<=bs.length):(blk bs i).length=16:=by
 unfold blk;rw[List.length_take,List.length_drop];omega
theorem Ux {bs:List Nat}(hb:∀x∈bs,x<256)(i:Nat):∀x∈blk bs i,x<256:=λx hx=>hb x (List.mem_of_mem_drop (List.mem_of_mem_take hx))
theorem uI {a b:List Nat}{i:Nat}(h:16*(i+1)<=a.length):blk (a++b) i=blk a i:=by
 unfold blk
 rw[List.drop_append_of_le_length (by omega),List.take_append_of_le_length (by rw[List.length_drop];omega)]
theorem DF {a b:List Nat}{k:Nat}(h:a.length=16*k)(i:Nat):blk (a++b) (k+i)=blk b i:=by
 unfold blk
 rw[show 16*(k+i)=a.length+16*i by omega,List.drop_append,List.drop_eq_nil_of_le (by omega),List.nil_append,show a.length+16*i-a.length=16*i by omega]
def RP (m:List Nat):List Nat:=dC (m++[1])
def Fy (m:List Nat):List Nat:=if m.length%16=0 then m else RP m
end
end Go.Proofs.YtaiffkajkbiidaaGreatDoor
