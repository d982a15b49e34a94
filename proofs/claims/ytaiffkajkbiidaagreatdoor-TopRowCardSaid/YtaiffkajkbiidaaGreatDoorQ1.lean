/- What this claim leans on, part 1: laws of the model, and what functions of the program compute. No condition but what each law states. -/
import Derived.BigQuiet
import Derived.ChangeOld
import Derived.Lib.AppendZerosOnto
import Derived.Lib.SliceRun
import Derived.Lib.SmallJoins
import Derived.Lib.Walk
import Derived.OpenShut
import Derived.ProofKit
import Derived.ShutString
import Derived.StillTailTactics
import Derived.Test.YtaiffkajkbiidaaGreatDoorRows
import Derived.Test.YtaiffkajkbiidaaGreatDoorQ0
namespace Go.Proofs.YtaiffkajkbiidaaGreatDoor
set_option linter.unusedSimpArgs false
set_option linter.unusedVariables false
set_option linter.unusedSectionVars false
set_option maxRecDepth 100000
set_option maxHeartbeats 40000000
open Go.Proofs.Tryz
open Tryz
section
open Go.ChangeShapes Go.WideShapes Go.ChangeAt Go.RowKit
theorem own:ownKnob prog.godebug=none:=by kernel_rfl
theorem laidOut:laidOutB prog=true:=by kernel_rfl
def xE:List Char:=[Char.ofNat 104,Char.ofNat 97,Char.ofNat 114,Char.ofNat 110,Char.ofNat 101,Char.ofNat 115,Char.ofNat 115,Char.ofNat 32,Char.ofNat 53,Char.ofNat 49,Char.ofNat 102,Char.ofNat 97,Char.ofNat 55,Char.ofNat 49,Char.ofNat 56,Char.ofNat 98,Char.ofNat 99,Char.ofNat 102,Char.ofNat 50,Char.ofNat 50,Char.ofNat 49,Char.ofNat 53,Char.ofNat 97,Char.ofNat 51,Char.ofNat 53,Char.ofNat 102,Char.ofNat 52,Char.ofNat 100,Char.ofNat 54,Char.ofNat 98,Char.ofNat 101,Char.ofNat 98,Char.ofNat 98,Char.ofNat 50,Char.ofNat 56,Char.ofNat 52,Char.ofNat 102,Char.ofNat 101,Char.ofNat 100,Char.ofNat 100,Char.ofNat 99,Char.ofNat 57,Char.ofNat 53,Char.ofNat 57,Char.ofNat 57,Char.ofNat 49,Char.ofNat 52,Char.ofNat 55,Char.ofNat 98,Char.ofNat 54,Char.ofNat 48,Char.ofNat 57,Char.ofNat 52,Char.ofNat 57,Char.ofNat 98,Char.ofNat 56,Char.ofNat 100,Char.ofNat 100,Char.ofNat 49,Char.ofNat 52,Char.ofNat 98,Char.ofNat 98,Char.ofNat 57,Char.ofNat 51,Char.ofNat 101,Char.ofNat 50,Char.ofNat 52,Char.ofNat 55,Char.ofNat 48,Char.ofNat 99,Char.ofNat 51,Char.ofNat 53,Char.ofNat 32,Char.ofNat 99,Char.ofNat 117,Char.ofNat 116,Char.ofNat 32,Char.ofNat 97,Char.ofNat 116,Char.ofNat 32,Char.ofNat 119,Char.ofNat 114,Char.ofNat 105,Char.ofNat 110,Char.ofNat 103,Char.ofNat 101,Char.ofNat 114,Char.ofNat 47,Char.ofNat 119,Char.ofNat 114,Char.ofNat 105,Char.ofNat 110,Char.ofNat 103,Char.ofNat 101,Char.ofNat 114,Char.ofNat 116,Char.ofNat 111,Char.ofNat 112,Char.ofNat 46,Char.ofNat 84,Char.ofNat 111,Char.ofNat 112,Char.ofNat 82,Char.ofNat 111,Char.ofNat 119,Char.ofNat 32,Char.ofNat 119,Char.ofNat 114,Char.ofNat 105,Char.ofNat 110,Char.ofNat 103,Char.ofNat 101,Char.ofNat 114,Char.ofNat 47,Char.ofNat 119,Char.ofNat 114,Char.ofNat 105,Char.ofNat 110,Char.ofNat 103,Char.ofNat 101,Char.ofNat 114,Char.ofNat 116,Char.ofNat 111,Char.ofNat 112,Char.ofNat 46,Char.ofNat 84,Char.ofNat 111,Char.ofNat 112,Char.ofNat 66,Char.ofNat 121,Char.ofNat 116,Char.ofNat 101,Char.ofNat 32,Char.ofNat 119,Char.ofNat 114,Char.ofNat 105,Char.ofNat 110,Char.ofNat 103,Char.ofNat 101,Char.ofNat 114,Char.ofNat 47,Char.ofNat 119,Char.ofNat 114,Char.ofNat 105,Char.ofNat 110,Char.ofNat 103,Char.ofNat 101,Char.ofNat 114,Char.ofNat 116,Char.ofNat 111,Char.ofNat 112,Char.ofNat 46,Char.ofNat 84,Char.ofNat 111,Char.ofNat 112,Char.ofNat 67,Char.ofNat 121,Char.ofNat 99,Char.ofNat 108,Char.ofNat 101]
theorem NK:prog.initOrder.toList=xE:=by
 unfold prog progTables xE
 exact String.toList_ofList
def Kt:List Char:=[Char.ofNat 99,Char.ofNat 117,Char.ofNat 116]
theorem s1:behindMainWord (wordsSigns xE)=Kt::(behindMainWord (wordsSigns xE)).tail:=by kernel_rfl
theorem mk0:behindMainWord (wordsSigns prog.initOrder.toList)=Kt::(behindMainWord (wordsSigns xE)).tail:=by rw[NK];exact s1
theorem mkE (P:Program)(r:List (List Char))(h:behindMainWord (wordsSigns P.initOrder.toList)=Kt::r):P.make=some .cut:=by unfold Program.make;rw[h];rfl
theorem lfE (P:Program)(r:List (List Char))(h:behindMainWord (wordsSigns P.initOrder.toList)=Kt::r):P.liftsFinal=false:=by
 unfold Program.liftsFinal Program.headLifts;simp only[h];rfl
theorem stE (r:List (List Char)):stripLifts liftWords (Kt::r)=([],Kt::r):=rfl
theorem meE (P:Program)(r:List (List Char))(h:behindMainWord (wordsSigns P.initOrder.toList)=Kt::r)(h1:P.laysLater=false)(h2:P.bearsReflect=false)(h3:P.doorFits []=true):P.mayEnter=true:=by
 unfold Program.mayEnter;simp only[h,stE,h1,h2,h3];rfl
theorem makes:prog.make=some .cut:=mkE _ _ mk0
theorem lifts:prog.liftsFinal=false:=lfE _ _ mk0
theorem l1:prog.laysLater=false:=by kernel_rfl
theorem l2:prog.bearsReflect=false:=by kernel_rfl
theorem l3:prog.doorFits []=true:=by kernel_rfl
theorem starts:prog.mayEnter=true:=meE _ _ mk0 l1 l2 l3
section
variable {H:Type}{enc:TypeId×Value->H}{P:Program}{W:World}{base base':Nat}{sp:Nat->Bool}{hd:Bool}{r:Reach}
theorem qw {k:IntKind}(hk:k.signed=false){z:Int}(h:(Lit.int k z).wf=true):∃x:Nat,z=x/\x<2^k.bits:=by
 cases k<;>simp[IntKind.signed] at hk
 ·have:=bounds_u8 h;exact⟨z.toNat,by omega,by simp[IntKind.bits];omega⟩
 ·have:=bounds_u16 h;exact⟨z.toNat,by omega,by simp[IntKind.bits];omega⟩
 ·have:=bounds_u32 h;exact⟨z.toNat,by omega,by simp[IntKind.bits];omega⟩
 ·have:=bounds_u64 h;exact⟨z.toNat,by omega,by simp[IntKind.bits];omega⟩
theorem Wl {t e:Nat}{k:IntKind}{v:Value}{d:DataW H}{p:List MemPlace}(ht:P.underlying t=some (.slice e))(he:P.underlying e=some (.int k))(hce:P.cellsOf e=1)(hk:k.signed=false)
  (hv:Value.okWide P W r base t v) (h:DataW.Trod enc P W 0 (λ_=>true) true t v d p):∃(a:Option Addr) (c:Nat) (xs:List Nat),v=.slice a xs.length c/\Sl W a k xs/\xs.length<=c/\c<=maxLen/\∀x∈xs,x<2^k.bits:=by
 obtain⟨a,len,cap,rfl⟩:=okWide_slice ht hv
 have lt:∀x∈p,x.block<W.heap.size:=by obtain⟨m,hm⟩:=h;exact DataW.trod_lt m _ _ _ hm
 obtain⟨fuel,hf⟩:=h
 rcases open_ints ht he hce hf with ⟨hcs,_⟩|⟨x,l,c,zs,hcs,_,hl,hm,hz,hx,hcell,hwz⟩
 ·simp[Value.cells] at hcs
  obtain⟨rfl,rfl,rfl⟩:=hcs
  exact⟨none,0,[],rfl,Sl.nil _ _ _,Nat.le_refl _,by simp[maxLen],by simp⟩
 ·simp[Value.cells] at hcs
  obtain⟨rfl,rfl,rfl⟩:=hcs
  have hzc:zs.length=cap:=by simpa using hz
  have each:∀i,i<zs.length->∃y:Nat,zs.getD i 0=y/\y<2^k.bits:=λi hi=>qw hk (hwz _ (by rw[List.getD_eq_getElem?_getD,List.getElem?_eq_getElem hi];exact List.getElem_mem hi))
  have hxl:((zs.take len).map Int.toNat).length=len:=by simp;omega
  have hget:∀i,i<len->zs.getD i 0=((((zs.take len).map Int.toNat).getD i 0:Nat):Int):=by
   intro i hi
   obtain⟨y,hy,-⟩:=each i (by omega)
   have e:((zs.take len).map Int.toNat).getD i 0=(zs.getD i 0).toNat:=by
    simp[List.getD_eq_getElem?_getD,List.getElem?_map,List.getElem?_take,hi,List.getElem?_eq_getElem (show i<zs.length by omega)]
   rw[e,hy];simp
  refine⟨some x,cap,(zs.take len).map Int.toNat,by rw[hxl],λhne=>?_,by rw[hxl];exact hl,hm,?_⟩
  ·have hpos:0<len:=by
    refine Nat.pos_of_ne_zero λh0=>hne ?_
    apply List.length_eq_zero_iff.1;rw[hxl,h0]
   have hc0:=hcell 0 (by omega)
   have hsp:x.spot=none:=by
    have h1:x.add 0=x:=by simp[Addr.add]
    rw[h1] at hc0
    cases hs:x.spot with
    | none=>rfl
    | some s=>exfalso;unfold World.cell? at hc0;split at hc0<;>simp[hs] at hc0
   obtain⟨g,off,s⟩:=x
   obtain rfl:s=none:=hsp
   have hadd:∀i,(⟨g,off,none⟩:Addr).add i=⟨g,off+i,none⟩:=Addr.add_mid g off
   refine⟨g,off,rfl,?_,λi hi=>?_⟩
   ·have:=World.block_lt_of_cell? _ _ hc0
    rw[hadd] at this;exact this
   ·rw[←hadd,hcell i (by omega),hget i (by omega)]
  ·intro y hy
   obtain⟨z,hz1,rfl⟩:=List.mem_map.1 hy
   obtain⟨y,rfl,hy2⟩:=qw hk (hwz z (List.mem_of_mem_take hz1))
   simpa using hy2
end
open Go.ChangeShapes Go.WideShapes Go.ChangeAt Go.RowKit
section
variable {H:Type}{enc:TypeId×Value->H}{P:Program}{W:World}{base:Nat}{r:Reach}
theorem Rt {t e:Nat}{k:IntKind}{v:Value}{d:DataW H}{p:List MemPlace}(ht:P.underlying t=some (.slice e))(he:P.underlying e=some (.int k))(hce:P.cellsOf e=1)(hk:k.signed=false)
  (hv:Value.okWide P W r base t v) (h:DataW.Trod enc P W 0 (λ_=>true) true t v d p):∃(a:Option Addr) (c:Nat) (xs:List Nat),v=.slice a xs.length c/\Sl W a k xs/\xs.length<=c/\c<=maxLen/\(∀x∈xs,x<2^k.bits)/\(a=none->c=0):=by
 obtain⟨a,c,xs,rfl,h1,h2,h3,h4⟩:=Wl ht he hce hk hv h
 refine⟨a,c,xs,rfl,h1,h2,h3,h4,?_⟩
 rintro rfl
 obtain⟨fuel,hf⟩:=h
 rcases open_ints ht he hce hf with ⟨hcs,_⟩|⟨x,l,c',zs,hcs,_⟩
 ·simp[Value.cells] at hcs
  exact hcs.2
 ·simp[Value.cells] at hcs
end
end
section
theorem Tryz.YK:(prog.info? 106).map (·.size)=some 1:=by kernel_rfl
theorem Tryz.s15:(prog.info? 5).map (·.size)=some 1:=by kernel_rfl
theorem Tryz.QK:prog.cellsOf 106=1:=by kernel_rfl
theorem Tryz.YT:(prog.info? 106).isSome=true:=by kernel_rfl
theorem Tryz.sz5:prog.cellsOf 5=1:=by kernel_rfl
theorem Tryz.jI:dG prog 222 5:=jH underlying222 (by kernel_rfl)
theorem Tryz.z222:IsZero prog 222 5 .u64:=isZero (by kernel_rfl)
theorem Tryz.fU:dG prog 213 5:=jH underlying213 (by kernel_rfl)
theorem Tryz.z213:IsZero prog 213 5 .u32:=isZero (by kernel_rfl)
theorem Tryz.agu:dG prog 219 4:=jH underlying219 (by kernel_rfl)
theorem Tryz.z219:IsZero prog 219 4 .u32:=isZero (by kernel_rfl)
theorem Tryz.Zu:dG prog 218 4:=jH underlying218 (by kernel_rfl)
theorem Tryz.z218:IsZero prog 218 4 .u64:=isZero (by kernel_rfl)
theorem Tryz.wh:dG prog 107 8:=jH underlying107 (by kernel_rfl)
theorem Tryz.z107:IsZero prog 107 8 .u8:=isZero (by kernel_rfl)
theorem Tryz.aD:dG prog 96 16:=jH underlying96 (by kernel_rfl)
theorem Tryz.fw:IsZero prog 96 16 .u8:=isZero (by kernel_rfl)
theorem Tryz.vI:dG prog 85 32:=jH underlying85 (by kernel_rfl)
theorem Tryz.z85:IsZero prog 85 32 .u8:=isZero (by kernel_rfl)
open Go.RowKit
def aT (bs:List Nat)(at_ n:Nat):Nat:=dL 256 ((List.range n).map λk=>bs.getD (at_+k) 0)
theorem Jz (bs:List Nat)(p k:Nat):aT bs p (k+1)=aT bs p k+bs.getD (p+k) 0*256^k:=by
 unfold aT
 rw[List.range_succ,List.map_append,eB]
 simp[dL,Nat.mul_comm]
theorem eG {bs:List Nat}(hb:∀x∈bs,x<256)(p n:Nat):aT bs p n<256^n:=by
 have h:=tq (b:=256) ((List.range n).map λk=>bs.getD (p+k) 0) (λx hx=>by
  obtain⟨k,-,rfl⟩:=List.mem_map.1 hx
  exact aC hb (by omega) _)
 rw[List.length_map,List.length_range] at h
 exact h
def One (w:World)(g:Nat)(t:TypeId)(v:Value):Prop:=aA w g t #[v]
theorem One.cell {w:World}{g t:Nat}{v:Value}(h:One w g t v):w.cell? ⟨g,0,none⟩=some v:=by rw[aA.cell h];rfl
theorem Xx (a:Option Addr)(c:Nat)(bs:List Nat)(hb:∀x∈bs,x<256)(hlen:bs.length<=maxLen)(p k g1 g2:Nat)(hp:p<2^62)(hk:k<8)(w:World)(hs:Sl w a .u8 bs)(h1:One w g1 3 (.int .i64 p))(h2:One w g2 23 (.slice a bs.length c)) :
  Calls prog 68 #[.int .i64 k,.pointer (some ⟨g1,0,none⟩),.pointer (some ⟨g2,0,none⟩)] w λe w'=>e=.returned (.int .u8 (bs.getD (p+k) 0:Nat))/\w=w':=by
 have c1:=h1.cell
 have c2:=h2.cell
 unfold maxLen at hlen
 by_cases hin:p+k<bs.length
 ·obtain⟨ga,off,rfl,hga,hcell⟩:=hs.at_ hin
  have hv:=aC hb (by omega) (p+k)
  generalize bs.getD (p+k) 0=v at *
  go_enter func68,ntmps68
  go_wp2
  go_ret
  exact⟨rfl,rfl⟩
 ·have e:bs.getD (p+k) 0=0:=by rw[List.getD_eq_getElem?_getD,List.getElem?_eq_none (by omega)];rfl
  rw[e]
  clear e
  go_enter func68,ntmps68
  go_wp2
  go_ret
  exact⟨rfl,rfl⟩
theorem Rs {m v k:Nat}(hm:m<256^k)(hv:v<256)(hk:k<8):bits BinOp.or IntKind.u64 (m:Int) (IntKind.u64.wrap ((v:Int)*2^(8*k)))=((m+v*256^k:Nat):Int):=by
 have e8:(2:Nat)^(8*k)=256^k:=by rw[Nat.pow_mul]
 have h1:v*256^k<256^8:=by
  calc v*256^k<=255*256^k:=Nat.mul_le_mul_right _ (by omega)
   _<256*256^k:=(Nat.mul_lt_mul_right (Nat.pow_pos (by omega))).2 (by omega)
   _=256^(k+1):=by rw[Nat.pow_succ,Nat.mul_comm]
   _<=256^8:=Nat.pow_le_pow_right (by omega) (by omega)
 have h2:m<256^8:=Nat.lt_of_lt_of_le hm (Nat.pow_le_pow_right (by omega) (by omega))
 have e1:((v:Int)*2^(8*k))=((v*256^k:Nat):Int):=by rw[←e8];simp
 have h256:(256:Nat)^8=18446744073709551616:=by decide
 rw[h256] at h1 h2
 rw[e1,IntWalk.u64_in _ (by omega),u64_or_nat m _ h2 h1]
 have:=Nat.two_pow_add_eq_or_of_lt (i:=8*k) (b:=m) (by rw[e8];exact hm) v
 rw[e8] at this
 rw[Nat.or_comm,Nat.mul_comm v,←this,Nat.add_comm]
theorem Gn (a:Option Addr)(c:Nat)(bs:List Nat)(hb:∀x∈bs,x<256)(hlen:bs.length<=maxLen)(p n g1 g2:Nat)(hp:p<2^62)(hn:n<=8)(w:World)(hs:Sl w a .u8 bs)(h1:One w g1 3 (.int .i64 p))(h2:One w g2 23 (.slice a bs.length c)) :
  Calls prog 60 #[.int .i64 n,.func (.func 68) #[] #[.pointer (some ⟨g1,0,none⟩),.pointer (some ⟨g2,0,none⟩)]] w λe w'=>e=.returned (.int .u64 (aT bs p n:Nat))/\w=w':=by
 go_enter func60,ntmps60
 go_wp2
 go_loop [5,8] (λs t=>∃k:Nat,k<=n/\t=.int .i64 k/\s=.int .u64 (aT bs p k)) (λs t=>n-(intOf t).toNat)
 case atStart=>exact⟨0,by omega,rfl,rfl⟩
 case round =>
  rename_i hrel
  obtain⟨k,hk,rfl,rfl⟩:=hrel
  by_cases hlt:k<n
  ·have hsucc:=Jz bs p k
   have hnl:=eG hb p k
   have hv:=aC hb (by omega) (p+k)
   go_wp2_with (fail)
   refine(Xx a c bs hb hlen p k g1 g2 hp (by omega) _ hs h1 h2).mono ?_
   rintro e w' ⟨rfl,rfl⟩
   generalize aT bs p k=m at *
   generalize bs.getD (p+k) 0=v at *
   have HS:=aR hsucc
   clear hsucc
   go_wp2
   rw[Rs hnl hv (by omega)]
   exact⟨⟨k+1,by omega,by go_num,by rw[HS.out]⟩,by simp[intOf]<;>omega⟩
  ·obtain rfl:k=n:=by omega
   go_wp2
   go_ret
   exact⟨rfl,rfl⟩
theorem TS (a:Option Addr)(n c:Nat)(p:Int)(w:World):Calls prog 61 #[.slice a n c,.int .i64 p] w λe w'=>e=.returned (.func (.func 68) #[] #[.pointer (some ⟨w.heap.size+1,0,none⟩),.pointer (some ⟨w.heap.size,0,none⟩)])/\w'=(w.alloc (.cells #[.slice a n c] 23)).alloc (.cells #[.int .i64 p] 3):=by
 go_enter func61,ntmps61
 go_wp2
 go_ret
 exact⟨rfl,rfl⟩
theorem ry (a:Option Addr)(c:Nat)(bs:List Nat)(hb:∀x∈bs,x<256)(hlen:bs.length<=maxLen)(p:Nat)(hp:p<2^62)(w:World)(hs:Sl w a .u8 bs) :
  Calls prog 45 #[.slice a bs.length c,.int .i64 p] w λe w'=>e=.returned (.int .u32 (aT bs p 4:Nat))/\Below w.heap.size w w':=by
 have hn:aT bs p 4<4294967296:=eG hb p 4
 have hbel:=(bN w (.cells #[.slice a bs.length c] 23)).alloc (by simp) (.cells #[.int .i64 p] 3)
 go_enter func45,ntmps45
 go_wp2_with (fail)
 refine(TS _ _ _ _ _).mono ?_
 rintro e w1 ⟨rfl,rfl⟩
 go_wp2_with (fail)
 refine(Gn a c bs hb hlen p 4 (w.heap.size+1) w.heap.size hp (by omega) _ (hs.below hbel) (aA.new' (by simp)) ((aA.new _ _ _).alloc _)).mono ?_
 rintro e w1 ⟨rfl,rfl⟩
 go_wp2
 go_ret
 exact⟨rfl,hbel⟩
theorem sZ (a:Option Addr)(c:Nat)(bs:List Nat)(hb:∀x∈bs,x<256)(hlen:bs.length<=maxLen)(p:Nat)(z:Int)(hz:z=p)(hp:p<2^62)(w:World)(hs:Sl w a .u8 bs) :
  Calls prog 45 #[.slice a bs.length c,.int .i64 z] w λe w'=>e=.returned (.int .u32 (aT bs p 4:Nat))/\Below w.heap.size w w':=by
 subst hz;exact ry a c bs hb hlen p hp w hs
theorem JF (a:Option Addr)(c:Nat)(bs:List Nat)(hb:∀x∈bs,x<256)(hlen:bs.length<=maxLen)(p:Nat)(hp:p<2^62)(w:World)(hs:Sl w a .u8 bs) :
  Calls prog 74 #[.slice a bs.length c,.int .i64 p] w λe w'=>e=.returned (.int .u64 (aT bs p 8:Nat))/\Below w.heap.size w w':=by
 have hn:aT bs p 8<18446744073709551616:=eG hb p 8
 have hbel:=(bN w (.cells #[.slice a bs.length c] 23)).alloc (by simp) (.cells #[.int .i64 p] 3)
 go_enter func74,ntmps74
 go_wp2_with (fail)
 refine(TS _ _ _ _ _).mono ?_
 rintro e w1 ⟨rfl,rfl⟩
 go_wp2_with (fail)
 refine(Gn a c bs hb hlen p 8 (w.heap.size+1) w.heap.size hp (by omega) _ (hs.below hbel) (aA.new' (by simp)) ((aA.new _ _ _).alloc _)).mono ?_
 rintro e w1 ⟨rfl,rfl⟩
 go_wp2
 go_ret
 exact⟨rfl,hbel⟩
theorem EL (n k:Nat):(n:Int)/2^(8*k)%256=((n/256^k%256:Nat):Int):=by
 rw[show (256:Nat)^k=2^(8*k) by rw[Nat.pow_mul]];simp
theorem jh (n:Nat)(hn:n<18446744073709551616)(w:World) :
  Calls prog 40 #[.int .u64 n] w λe w'=>e=.returned (.agg (ints .u8 (cZ 256 8 n)))/\Below w.heap.size w w':=by
 go_enter func40,ntmps40
 go_wp2_with ((first|(refine ae rfl 107 rfl z107 ?_));(try simp only[nn,Nat.reduceAdd]))
 go_loopw [5] (λt wr=>∃k:Nat,k<=8/\t=.int .i64 k/\aA wr w.heap.size 107 (ints .u8 (zeros 8))/\aA wr (w.heap.size+1) 107 (ints .u8 ((cZ 256 8 n).take k++zeros (8-k)))/\Below w.heap.size w wr) (λt wr=>8-(intOf t).toNat)
 case atStart=>exact⟨0,by omega,rfl,(aA.new _ _ _).alloc _,aA.new' (by simp),((bN _ _).alloc (by simp) _)⟩
 case round =>
  rename_i hrel
  obtain⟨k,hk,rfl,C0,C1,bH⟩:=hrel
  by_cases hlt:k<8
  ·have hl:((cZ 256 8 n).take k++zeros (8-k)).length=8:=by simp[zeros];omega
   have c1:=C1.int (i:=k) (by omega)
   have z1:=C1.frozen k
   have hv:(cZ 256 8 n).getD k 0=n/256^k%256:=uz 256 8 n k hlt
   have PI:=C1.dw k (n/256^k%256)
   rw[take_set (n:=8) (bn _ _ _) hlt hv] at PI
   have HC:=aR PI
   clear PI hl hv
   go_wp2
   rw[EL]
   exact⟨⟨k+1,by omega,by go_num,C0.far (by first|omega|(simp;done)|(simp;omega)) _,HC.out,bH.setCell (by first|omega|(simp;done)|(simp;omega)) _⟩,by simp[intOf]<;>omega⟩
  ·obtain rfl:k=8:=by omega
   have he:(cZ 256 8 n).take 8++zeros (8-8)=cZ 256 8 n:=by rw[List.take_of_length_le (by simp)];simp[zeros]
   rw[he] at C1
   clear he
   go_wp2_with ((first|(refine ag rfl 107 _ rfl _ rfl C1 wh (bn _ _ _) ?_)|(refine aa rfl 107 _ _ rfl _ rfl rfl C0 (ah _ _) wh (bn _ _ _) ?_));(try simp only[nn,Nat.reduceAdd]))
   refine aO rfl rfl (C0.row _) wh (bn _ _ _) ⟨rfl,?_⟩
   exact az bH (by simp) _
open Go.RowKit
theorem Tryz.eH:dG prog 149 2:=isStr underlying149 (by kernel_rfl)
theorem Tryz.Ee:IsZero prog 149 2 .u64:=isZero (by kernel_rfl)
theorem yg (a:Option Addr)(c:Nat)(bs:List Nat)(hb:∀x∈bs,x<256)(hlen:bs.length<=maxLen)(w:World)(hs:Sl w a .u8 bs) :
  Calls prog 108 #[.slice a bs.length c] w λe w'=>e=.returned (.agg (ints .u64 [aT bs 0 8,aT bs 8 8]))/\Below w.heap.size w w':=by
 have Z:=aA.new w 149 (ints .u64 (zeros 2))
 have hbel:=bN w (.cells (ints .u64 (zeros 2)) 149)
 go_enter func108,ntmps108
 go_wp2_with (refine ae rfl 149 rfl Ee ?_;(try simp only[nn,Nat.reduceAdd]))
 refine(JF a c bs hb hlen 0 (by omega) _ (hs.below hbel)).mono ?_
 rintro e w1 ⟨rfl,hb1⟩
 have aK:=bC hbel hb1
 go_wp2_with (fail)
 refine(JF a c bs hb hlen 8 (by omega) _ (hs.below aK)).mono ?_
 rintro e w2 ⟨rfl,hb2⟩
 have Z2:=(Z.below' hb1).below' hb2
 have aB:=bC aK hb2
 go_wp2_with (refine aa rfl 149 _ _ rfl w.heap.size (k:=.u64) (xs:=[aT bs 0 8,aT bs 8 8]) rfl rfl Z2 (ah _ _) eH rfl ?_;(try simp only[nn,Nat.reduceAdd]))
 exact aO rfl rfl (Z2.row _) eH rfl ⟨rfl,az aB dM _⟩
theorem NN {xs:List Nat}(h:xs.length=8):splice (zeros 16) 0 xs=xs++zeros 8:=by
 unfold splice
 rw[h];simp[zeros]
theorem NQ {xs ys:List Nat}(h:xs.length=8)(h':ys.length=8):splice (xs++zeros 8) 8 ys=xs++ys:=by
 unfold splice
 rw[h',←h,List.take_left,List.drop_of_length_le (by simp[zeros,h])];simp
theorem mo (lo hi:Nat)(h0:lo<18446744073709551616)(h1:hi<18446744073709551616)(w:World) :
  Calls prog 111 #[.agg (ints .u64 [lo,hi])] w λe w'=>e=.returned (.agg (ints .u8 (cZ 256 8 lo++cZ 256 8 hi)))/\Below w.heap.size w w':=by
 have B0:=((aA.new w 149 (ints .u64 [lo,hi])).alloc (.cells (ints .u8 (zeros 16)) 96)).alloc (.cells (ints .u8 (zeros 16)) 96)
 have B1:=(aA.new (w.alloc (.cells (ints .u64 [lo,hi]) 149)) 96 (ints .u8 (zeros 16))).alloc (.cells (ints .u8 (zeros 16)) 96)
 have B2:=aA.new ((w.alloc (.cells (ints .u64 [lo,hi]) 149)).alloc (.cells (ints .u8 (zeros 16)) 96)) 96 (ints .u8 (zeros 16))
 rw[World.size_alloc] at B1
 rw[World.size_alloc,World.size_alloc] at B2
 have hbel:=((bN w (.cells (ints .u64 [lo,hi]) 149)).alloc (by simp) (.cells (ints .u8 (zeros 16)) 96)).alloc (by simp;omega) (.cells (ints .u8 (zeros 16)) 96)
 simp only[Nat.add_assoc,Nat.reduceAdd] at B2
 have hsz:Hid ((((w.alloc (.cells (ints .u64 [lo,hi]) 149)).alloc (.cells (ints .u8 (zeros 16)) 96)).alloc (.cells (ints .u8 (zeros 16)) 96)).heap.size=w.heap.size+3):=aR (by simp)
 go_enter func111,ntmps111
 go_wp2_with (refine ae rfl 96 rfl fw ?_;(try simp only[nn,Nat.reduceAdd]))
 generalize (((w.alloc (.cells (ints .u64 [lo,hi]) 149)).alloc (.cells (ints .u8 (zeros 16)) 96)).alloc (.cells (ints .u8 (zeros 16)) 96))=w0 at *
 have c0:=B0.int (i:=0) (by simp)
 have c1:=B0.int (i:=1) (by simp)
 simp only[List.getD_cons_zero,List.getD_cons_succ] at c0 c1
 have aeA:=B0.lt
 have hlo:=bn 256 8 lo
 have hhi:=bn 256 8 hi
 refine eZ (by kernel_rfl) (by kernel_rfl) (λD bP W=>∃u4 u5 u6 u7 u8 u9 u10 u11:Value,bP={ tmps:=#[.agg (ints .u64 [lo,hi]),.pointer (some ⟨w.heap.size,0,none⟩),.pointer (some ⟨w.heap.size+1,0,none⟩),.pointer (some ⟨w.heap.size+2,0,none⟩),u4,u5,u6,u7,u8,u9,u10,u11,undef,undef,undef,undef,undef,undef,undef],defers:=[] }/\Below w0.heap.size w0 W/\(D 0->u6=.pointer (some ⟨w.heap.size,0,none⟩))/\(D 1->u7=.int .u64 lo)/\(D 2->u8=.agg (ints .u8 (cZ 256 8 lo)))/\(D 3->u9=.pointer (some ⟨w.heap.size,1,none⟩))/\(D 4->u10=.int .u64 hi)/\(D 5->u11=.agg (ints .u8 (cZ 256 8 hi)))/\(D 6->Al W w0.heap.size u4 107 8 .u8 (D 8) (cZ 256 8 lo))/\(D 7->Al W w0.heap.size u5 107 8 .u8 (D 9) (cZ 256 8 hi))/\(D 8->D 6)/\(D 9->D 7)/\(D 6->D 7->u4≠u5)) ?_ ?_ ?_
 ·exact aL <| (⟨rfl,⟨rfl,rfl,rfl,Nat.le_refl _,λ_ _=>rfl⟩,nofun,nofun,nofun,nofun,nofun,nofun,nofun,nofun,nofun,nofun,nofun⟩)
 ·intro i o hi D bP W hI hnD hall
  obtain⟨u4,u5,u6,u7,u8,u9,u10,u11,rfl,hW,f0,f1,f2,f3,f4,f5,f6,f7,f8,f9,f10⟩:=hI
  rcases i with _|_|_|_|_|_|_|_|_|_|i<;>try cases hi
  ·refine af (v:=.pointer (some ⟨w.heap.size,0,none⟩)) rfl rfl (by kernel_rfl) ?_
   exact aL <| (⟨rfl,hW,λ_=>rfl,ro f1,ro f2,ro f3,ro f4,ro f5,(λh=>(f6 (cO h)).same (λh'=>h'.resolve_left (by decide))),(λh=>(f7 (cO h)).same (λh'=>h'.resolve_left (by decide))),(λh=>.inr (f8 (cO h))),(λh=>.inr (f9 (cO h))),(λh h2=>f10 (cO h) (cO h2))⟩)
  ·obtain rfl:=f0 (aj hall 0 rfl)
   refine uS rfl rfl rfl rfl underlying106 ((hW.cell (p:=⟨_,_,none⟩) aeA).trans c0) ?_
   exact aL <| (⟨rfl,hW,ro f0,λ_=>rfl,ro f2,ro f3,ro f4,ro f5,(λh=>(f6 (cO h)).same (λh'=>h'.resolve_left (by decide))),(λh=>(f7 (cO h)).same (λh'=>h'.resolve_left (by decide))),(λh=>.inr (f8 (cO h))),(λh=>.inr (f9 (cO h))),(λh h2=>f10 (cO h) (cO h2))⟩)
  ·obtain rfl:=f1 (aj hall 1 rfl)
   refine aV 40 rfl rfl rfl func40 (by kernel_rfl) (by kernel_rfl) (jh lo h0 W) ?_
   intro W' hW'
   exact aL <| (⟨rfl,bC hW hW',ro f0,ro f1,λ_=>rfl,ro f3,ro f4,ro f5,(λh=>(f6 (cO h)).below hW' (λh'=>h'.resolve_left (by decide))),(λh=>(f7 (cO h)).below hW' (λh'=>h'.resolve_left (by decide))),(λh=>.inr (f8 (cO h))),(λh=>.inr (f9 (cO h))),(λh h2=>f10 (cO h) (cO h2))⟩)
  ·refine af (v:=.pointer (some ⟨w.heap.size,1,none⟩)) rfl rfl (by kernel_rfl) ?_
   exact aL <| (⟨rfl,hW,ro f0,ro f1,ro f2,λ_=>rfl,ro f4,ro f5,(λh=>(f6 (cO h)).same (λh'=>h'.resolve_left (by decide))),(λh=>(f7 (cO h)).same (λh'=>h'.resolve_left (by decide))),(λh=>.inr (f8 (cO h))),(λh=>.inr (f9 (cO h))),(λh h2=>f10 (cO h) (cO h2))⟩)
  ·obtain rfl:=f3 (aj hall 3 rfl)
   refine uS rfl rfl rfl rfl underlying106 ((hW.cell (p:=⟨_,_,none⟩) aeA).trans c1) ?_
   exact aL <| (⟨rfl,hW,ro f0,ro f1,ro f2,ro f3,λ_=>rfl,ro f5,(λh=>(f6 (cO h)).same (λh'=>h'.resolve_left (by decide))),(λh=>(f7 (cO h)).same (λh'=>h'.resolve_left (by decide))),(λh=>.inr (f8 (cO h))),(λh=>.inr (f9 (cO h))),(λh h2=>f10 (cO h) (cO h2))⟩)
  ·obtain rfl:=f4 (aj hall 4 rfl)
   refine aV 40 rfl rfl rfl func40 (by kernel_rfl) (by kernel_rfl) (jh hi h1 W) ?_
   intro W' hW'
   exact aL <| (⟨rfl,bC hW hW',ro f0,ro f1,ro f2,ro f3,ro f4,λ_=>rfl,(λh=>(f6 (cO h)).below hW' (λh'=>h'.resolve_left (by decide))),(λh=>(f7 (cO h)).below hW' (λh'=>h'.resolve_left (by decide))),(λh=>.inr (f8 (cO h))),(λh=>.inr (f9 (cO h))),(λh h2=>f10 (cO h) (cO h2))⟩)
  ·refine bZ rfl rfl rfl z107 ?_
   have aaR:¬(8=6∨D 8):=λh=>h.elim (by decide) (λh=>hnD (f8 h))
   exact aL <| (⟨rfl,hW.alloc hW.size _,ro f0,ro f1,ro f2,ro f3,ro f4,ro f5,(λ_=>Al.new hW.size (λh=>(aaR h).elim)),(λh=>(f7 (cO h)).alloc _ (λh'=>h'.resolve_left (by decide))),(λ_=>.inl rfl),(λh=>.inr (f9 (cO h))),(λ_ h=>(f7 (cO h)).LH)⟩)
  ·refine bZ rfl rfl rfl z107 ?_
   have aaR:¬(9=7∨D 9):=λh=>h.elim (by decide) (λh=>hnD (f9 h))
   exact aL <| (⟨rfl,hW.alloc hW.size _,ro f0,ro f1,ro f2,ro f3,ro f4,ro f5,(λh=>(f6 (cO h)).alloc _ (λh'=>h'.resolve_left (by decide))),(λ_=>Al.new hW.size (λh=>(aaR h).elim)),(λh=>.inr (f8 (cO h))),(λ_=>.inl rfl),(λh _=>(f6 (cO h)).JB)⟩)
  ·obtain rfl:=f2 (aj hall 2 rfl)
   obtain⟨g,l,rfl,hg,hl0,hB,hst⟩:=f6 (aj hall 6 rfl)
   refine bJ rfl rfl rfl rfl rfl hB ((aF _ _).trans hl0) wh hlo ?_
   exact aL <| (⟨rfl,az hW hg _,ro f0,ro f1,ro f2,ro f3,ro f4,ro f5,(λ_=>Al.set hB hg hlo),(λh=>(f7 (cO h)).far (λe=>f10 (aj hall 6 rfl) (aj hall 7 rfl) e.symm) (λh'=>h'.resolve_left (by decide))),(λ_=>.inr (aj hall 6 rfl)),(λh=>.inr (f9 (cO h))),(λh h2=>f10 (cO h) (cO h2))⟩)
  ·obtain rfl:=f5 (aj hall 5 rfl)
   obtain⟨g,l,rfl,hg,hl0,hB,hst⟩:=f7 (aj hall 7 rfl)
   refine bJ rfl rfl rfl rfl rfl hB ((aF _ _).trans hl0) wh hhi ?_
   exact aL <| (⟨rfl,az hW hg _,ro f0,ro f1,ro f2,ro f3,ro f4,ro f5,(λh=>(f6 (cO h)).far (λe=>f10 (aj hall 6 rfl) (aj hall 7 rfl) e) (λh'=>h'.resolve_left (by decide))),(λ_=>Al.set hB hg hhi),(λh=>.inr (f8 (cO h))),(λ_=>.inr (aj hall 7 rfl)),(λh h2=>f10 (cO h) (cO h2))⟩)
  all_goals (exfalso;simp at hi)
 ·rintro D bP W ⟨u4,u5,u6,u7,u8,u9,u10,u11,rfl,hW,f0,f1,f2,f3,f4,f5,f6,f7,f8,f9,f10⟩ hall
  obtain rfl:=f0 (hall 0 (by decide))
  obtain rfl:=f1 (hall 1 (by decide))
  obtain rfl:=f2 (hall 2 (by decide))
  obtain rfl:=f3 (hall 3 (by decide))
  obtain rfl:=f4 (hall 4 (by decide))
  obtain rfl:=f5 (hall 5 (by decide))
  obtain⟨g4,l4,rfl,hg4,-,hB4,hl4⟩:=f6 (hall 6 (by decide))
  obtain rfl:=hl4 (hall 8 (by decide))
  obtain⟨g5,l5,rfl,hg5,-,afT,hl5⟩:=f7 (hall 7 (by decide))
  obtain rfl:=hl5 (hall 9 (by decide))
  have SQ:=f10 (hall 6 (by decide)) (hall 7 (by decide))
  clear f0 f1 f2 f3 f4 f5 f6 f7 f8 f9 f10 hall
  have aK:=dx hbel hW (by have:=hsz.out;omega)
  have K2:=B2.below' hW
  have K1:=B1.below' hW
  have l2:=B2.lt
  clear B0 B1 B2 hW hbel c0 c1
  go_wp2
  refine wp_region_still_tail 2 (by kernel_rfl) (by kernel_rfl) ?_
  simp only[List.take_succ_cons,List.take_zero,List.drop_succ_cons,List.drop_zero]
  repeat still_step
  refine wpStill_nil ?_
  change wpList _ _ _ _ _ W.drew
  refine bM (off:=0) (dLen:=16) (sLen:=8) rfl rfl underlying23 s15 rfl rfl K2.drew (Sl.blk hB4.drew) (by rw[hlo];rfl) (λ_=>rfl) (by rw[aH,hlo];omega) ?_
  intro w3 L2 ho
  rw[NN hlo] at L2
  have L1:=K1.drew.only ho (by omega)
  have L5:=afT.drew.only ho (by omega)
  have aB:=ho.below _ _ aK.drew (by omega)
  clear K1 K2 hB4 afT aK ho
  go_wp2
  refine wp_region_still_tail 2 (by kernel_rfl) (by kernel_rfl) ?_
  simp only[List.take_succ_cons,List.take_zero,List.drop_succ_cons,List.drop_zero]
  repeat still_step
  refine wpStill_nil ?_
  change wpList _ _ _ _ _ w3.drew
  refine bM (off:=8) (dLen:=8) (sLen:=8) rfl rfl underlying23 s15 rfl rfl L2.drew (Sl.blk L5.drew) (by rw[hhi];rfl) (λ_=>rfl) (by simp[zeros,hhi,hlo]) ?_
  intro w4 M2 ho2
  rw[NQ hlo hhi] at M2
  have M1:=L1.drew.only ho2 (by omega)
  have aG:=ho2.below _ _ aB.drew (by omega)
  have hlen:(cZ 256 8 lo++cZ 256 8 hi).length=16:=by simp
  go_wp2_with ((first|(refine ag rfl 96 _ rfl (w.heap.size+2) rfl M2 aD hlen ?_)|(refine aa rfl 96 _ _ rfl (w.heap.size+1) rfl rfl M1 (ah _ _) aD hlen ?_));(try simp only[nn,Nat.reduceAdd]))
  exact aO rfl rfl (M1.row _) aD hlen ⟨rfl,az aG (by omega) _⟩
def aU (bs:List Nat):List Nat:=(List.range 16).map λi=>bs.getD i 0
theorem bG (bs:List Nat):(aU bs).length=16:=by simp[aU]
theorem dN {bs:List Nat}(hb:∀x∈bs,x<256):∀x∈aU bs,x<256:=λx hx=>by
 obtain⟨i,-,rfl⟩:=List.mem_map.1 hx
 exact aC hb (by omega) _
theorem Cm (bs:List Nat):splice (zeros 16) 0 (bs.take 16)=aU bs:=by
 apply List.ext_getElem? λi=>?_
 unfold splice aU
 rw[List.take_zero,List.nil_append,Nat.zero_add]
 by_cases hi:i<16
 ·rw[List.getElem?_map,List.getElem?_range hi]
  simp only[Option.map_some]
  by_cases h:i<bs.length
  ·rw[List.getElem?_append_left (by rw[List.length_take];omega),List.getElem?_take,if_pos hi,getD_lt h]
  ·rw[List.getElem?_append_right (by rw[List.length_take];omega),List.getElem?_drop,List.getD_eq_getElem?_getD,List.getElem?_eq_none (show bs.length<=i by omega)]
   unfold zeros
   rw[List.getElem?_replicate,if_pos (by rw[List.length_take];omega)];rfl
 ·rw[List.getElem?_eq_none (by simp[zeros];omega),List.getElem?_eq_none (by simp;omega)]
theorem fB (a:Option Addr)(c:Nat)(bs:List Nat)(w:World)(hs:Sl w a .u8 bs) :
  Calls prog 38 #[.slice a bs.length c] w λe w'=>e=.returned (.agg (ints .u8 (aU bs)))/\Below w.heap.size w w':=by
 have B1:=(aA.new w 96 (ints .u8 (zeros 16))).alloc (.cells (ints .u8 (zeros 16)) 96)
 have B2:=aA.new (w.alloc (.cells (ints .u8 (zeros 16)) 96)) 96 (ints .u8 (zeros 16))
 rw[World.size_alloc] at B2
 have hbel:=(bN w (.cells (ints .u8 (zeros 16)) 96)).alloc (by simp) (.cells (ints .u8 (zeros 16)) 96)
 have hs1:=(hs.below hbel).take 16
 have hmin:(bs.take 16).length=Nat.min bs.length 16:=by exact List.length_take.trans (Nat.min_comm _ _)
 have UU:=aR hmin
 clear hmin
 have hbl:=bG bs
 go_enter func38,ntmps38
 go_wp2_with (first|(refine ae rfl 96 rfl fw ?_;(try simp only[nn,Nat.reduceAdd]))|(refine bM (off:=0) (dLen:=16) rfl rfl underlying23 s15 rfl rfl B2 hs1 UU.out (λ_=>rfl) (by rw[aH,List.length_take];omega) ?_;intro w3 L2 ho;rw[Cm] at L2;have L1:=B1.only ho (by omega);have aB:=ho.below _ _ hbel (by omega))|(refine ag rfl 96 _ rfl (w.heap.size+1) rfl L2 aD hbl ?_;(try simp only[nn,Nat.reduceAdd]))|(refine aa rfl 96 _ _ rfl w.heap.size rfl rfl L1 (ah _ _) aD hbl ?_;(try simp only[nn,Nat.reduceAdd])))
 exact aO rfl rfl (L1.row _) aD hbl ⟨rfl,az aB (by omega) _⟩
open Go.RowKit
theorem ZO:(prog.info? 5).map (λi=>(i.zero,i.size,i.bytes))=some (some (.int .u8 0),1,1):=by kernel_rfl
theorem Tryz.adB:qc prog 5:=by unfold qc;kernel_rfl
theorem xZ (n:Nat)(hn:n<2^40)(W:World):(Instr.makeSlice 23 (.int .i64 (n:Int)) (.int .i64 (n:Int))).run prog W=.ok (.slice (some ⟨W.heap.size,0,none⟩) n n) (W.alloc (.cells (ints .u8 (zeros n)) 5)) :=
 zP underlying23 ZO (by omega) hn W
theorem jM (bs:List Nat)(n:Nat):splice (zeros (bs.length+n)) 0 bs=bs++zeros n:=by
 unfold splice zeros
 simp
theorem aag (n:Nat)(hn:n<2^32)(w:World) :
  Calls prog 69 #[.int .i64 n,.int .i64 16] w λe w'=>e=.returned (.int .i64 (((16-n%16)%16:Nat):Int))/\w=w':=by
 have h1:(n:Int)%16=((n%16:Nat):Int):=by omega
 have h2:(16:Int)-((n%16:Nat):Int)=((16-n%16:Nat):Int):=by omega
 have h3:((16-n%16:Nat):Int)%16=(((16-n%16)%16:Nat):Int):=by omega
 generalize (16-n%16)%16=r at *
 generalize 16-n%16=q at *
 generalize n%16=p at *
 go_enter func69,ntmps69
 go_wp2
 go_ret
 exact⟨by show Ending.returned (.int .i64 ((q:Int)%16))=_;rw[h3],rfl⟩
theorem oZ (a:Option Addr)(c:Nat)(bs:List Nat)(hlen:bs.length<2^32)(w:World)(hs:Sl w a .u8 bs) :
  Calls prog 65 #[.slice a bs.length c,.int .i64 16] w λe w'=>e=.returned (.slice (some ⟨w.heap.size,0,none⟩) (dC bs).length (dC bs).length)/\Below w.heap.size w w'/\aA w' w.heap.size 5 (ints .u8 (dC bs)):=by
 have hpl:=mI bs
 have hmk:=λW=>xZ (bs.length+(16-bs.length%16)%16) (by omega) W
 have hsp:=jM bs ((16-bs.length%16)%16)
 have hmin:bs.length=Nat.min bs.length (bs.length+(16-bs.length%16)%16):=(Nat.min_eq_left (by omega)).symm
 have hr:(16-bs.length%16)%16<16:=by omega
 simp only[Int.natCast_add] at hmk
 have HP:=aR (show bs++zeros ((16-bs.length%16)%16)=dC bs from rfl)
 have Hpl:=aR hpl
 have UU:=aR hmin
 have Hsp:=aR hsp
 have hroom:=aag bs.length hlen
 clear hpl hmin hsp
 generalize (16-bs.length%16)%16=r at *
 go_enter func65,ntmps65
 go_wp2_with fail
 refine(hroom _).mono ?_
 rintro e w1 ⟨rfl,rfl⟩
 clear hroom
 have B0:=aA.new w 5 (ints .u8 (zeros (bs.length+r)))
 have hs1:Sl (w.alloc (.cells (ints .u8 (zeros (bs.length+r))) 5)) a .u8 bs:=hs.below (bN _ _)
 have hbel:=bN w (.cells (ints .u8 (zeros (bs.length+r))) 5)
 go_wp2_with (refine bM (zs:=bs) rfl rfl underlying23 s15 rfl rfl B0 hs1 UU.out (λ_=>rfl) (by rw[aH];omega) ?_;intro w2 C0 O2;(try simp only[nn,Nat.reduceAdd]))
 go_ret
 rw[Hsp.out,HP.out] at C0
 exact⟨by rw[Hpl.out];rfl,O2.below _ _ hbel dM,C0⟩
theorem QW (bs:List Nat)(m:Nat):(bs++zeros 1).set bs.length m=bs++[m]:=by
 rw[List.set_append_right _ _ dM,Nat.sub_self];rfl
theorem FI (a:Option Addr)(c m:Nat)(bs:List Nat)(hlen:bs.length<2^31)(w:World)(hs:Sl w a .u8 bs) :
  Calls prog 156 #[.slice a bs.length c,.int .u8 m,.int .i64 16] w λe w'=>e=.returned (.slice (some ⟨w.heap.size+1,0,none⟩) (dC (bs++[m])).length (dC (bs++[m])).length)/\Below w.heap.size w w'/\aA w' (w.heap.size+1) 5 (ints .u8 (dC (bs++[m]))):=by
 have hmk:=λW=>xZ (bs.length+1) (by omega) W
 simp only[Int.natCast_add,Int.cast_ofNat_Int] at hmk
 have Hsp:=aR (jM bs 1)
 have UU:=aR (show bs.length=Nat.min bs.length (bs.length+1) from (Nat.min_eq_left (by omega)).symm)
 have gq:(bs++[m]).length=bs.length+1:=by simp
 have B0:=aA.new w 5 (ints .u8 (zeros (bs.length+1)))
 have hs1:Sl (w.alloc (.cells (ints .u8 (zeros (bs.length+1))) 5)) a .u8 bs:=hs.below (bN _ _)
 have hbel:=bN w (.cells (ints .u8 (zeros (bs.length+1))) 5)
 have hsz:(w.alloc (.cells (ints .u8 (zeros (bs.length+1))) 5)).heap.size=w.heap.size+1:=by simp
 have Hml:=aR gq
 clear gq
 go_enter func156,ntmps156
 go_wp2_with ((first
  | (refine bM (zs:=bs) rfl rfl underlying23 s15 rfl rfl B0 hs1 UU.out (λ_=>rfl) (by rw[aH];omega) ?_;intro w2 C0 O2;rw[Hsp.out] at C0)
  | (refine wpList_store_one rfl 5 _ _ rfl adB C0 bs.length m rfl rfl (by rw[List.length_append,aH];omega) ?_;intro w3 D0 F3;rw[QW] at D0));(try simp only[nn,Nat.reduceAdd]))
 have hpc:=oZ (some ⟨w.heap.size,0,none⟩) (bs.length+1) (bs++[m]) (by rw[Hml.out];omega) w3 (Sl.blk D0)
 have JM:w3.heap.size=w.heap.size+1:=by rw[F3.size,O2.size,hsz]
 rw[Hml.out,JM] at hpc
 refine hpc.mono ?_
 rintro e w4 ⟨rfl,hb4,E0⟩
 go_wp2_with fail
 go_ret
 refine⟨rfl,?_,E0⟩
 have hb3:=F3.below (O2.below _ _ hbel dM) dM
 exact hb3.trans (hb4.mono (by omega))
def dS (xs ys:List Nat)(n:Nat):List Nat:=(List.range n).map λi=>xs.getD i 0^^^ys.getD i 0
theorem dJ (xs ys:List Nat)(n:Nat):(dS xs ys n).length=n:=by simp[dS]
theorem jf (xs ys:List Nat){n i:Nat}(hi:i<n):(dS xs ys n).getD i 0=xs.getD i 0^^^ys.getD i 0:=by
 unfold dS
 rw[List.getD_eq_getElem?_getD,List.getElem?_map,List.getElem?_range hi];rfl
theorem Qk (a b:Option Addr)(c d n:Nat)(xs ys:List Nat)(hn:n<2^32)(hl:xs.length=n)(hl':n<=ys.length)(hlen:ys.length<2^32)(hb:∀x∈xs,x<256)(hb':∀x∈ys,x<256)(w:World)(A0:Sl w a .u8 xs)(A1:Sl w b .u8 ys) :
  Calls prog 42 #[.slice a n c,.slice b ys.length d] w λe w'=>e=.returned (.slice (some ⟨w.heap.size,0,none⟩) n n)/\Below w.heap.size w w'/\aA w' w.heap.size 5 (ints .u8 (dS xs ys n)):=by
 have hmk:=λW=>xZ n (by omega) W
 have hmin:min (n:Int) (ys.length:Int)=(n:Int):=by omega
 have hxl:=dJ xs ys n
 have hle:(n:Int)<=(ys.length:Int):=by omega
 obtain⟨m,Hm⟩:=bD (ys.length)
 rw[Hm.out] at hmin hle hlen hl' ⊢
 go_enter func42,ntmps42
 go_wp2
 clear hmk
 have Ta:min (n:Int) (m:Int)=(n:Int):=hmin
 go_loopw [15] (λt wr=>∃k:Nat,k<=n/\t=.int .i64 k/\aA wr w.heap.size 5 (ints .u8 ((dS xs ys n).take k++zeros (n-k)))/\Below w.heap.size w wr) (λt wr=>n-(intOf t).toNat)
 case atStart=>exact⟨0,by omega,rfl,aA.new _ _ _,bN _ _⟩
 case round =>
  rename_i hrel
  obtain⟨k,hk,rfl,C2,bH⟩:=hrel
  by_cases hlt:k<n
  ·have hll:((dS xs ys n).take k++zeros (n-k)).length=n:=by rw[List.length_append,List.length_take,hxl,aH];omega
   obtain⟨g0,o0,rfl,hg0,c0⟩:=(A0.below bH).at_ (i:=k) (by omega)
   obtain⟨g1,o1,rfl,hg1,c1⟩:=(A1.below bH).at_ (i:=k) (by rw[Hm.out];omega)
   have c2:=C2.int (i:=k) (by omega)
   have z2:=C2.frozen k
   have vx:=aC hb (by omega) k
   have vy:=aC hb' (by omega) k
   have hv:=jf xs ys hlt
   have nW:=C2.dw k (xs.getD k 0^^^ys.getD k 0)
   rw[take_set hxl hlt hv] at nW
   have HC:=aR nW
   have HX:=aR (show bits BinOp.xor IntKind.u8 ((xs.getD k 0:Nat):Int) ((ys.getD k 0:Nat):Int)=((xs.getD k 0^^^ys.getD k 0:Nat):Int) from u8_xor_nat _ _ vx vy)
   clear nW hll hv hmin Ta
   generalize xs.getD k 0=x at *
   generalize ys.getD k 0=y at *
   have hd0:decide ((k:Int)<(n:Int))=true:=by simp;omega
   have hkm:(k:Int)<(m:Int):=by omega
   go_wp2
   go_region
   all_goals
    rw[HX.out]
    go_wp2
    exact⟨⟨k+1,by omega,by go_num,HC.out.drew,(bH.setCell (by first|omega|(simp;done)|(simp;omega)) _).drew⟩,by simp[intOf]<;>omega⟩
  ·obtain rfl:k=n:=by omega
   have he:(dS xs ys k).take k++zeros (k-k)=dS xs ys k:=by rw[List.take_of_length_le (by omega)];simp[zeros]
   rw[he] at C2
   have hd0:decide ((k:Int)<(k:Int))=false:=by simp
   go_wp2
   go_ret
   exact⟨rfl,bH,C2⟩
open Go.RowKit
theorem Ap {xs:List Nat}{k v:Nat}(hk:k<xs.length)(hv:xs.getD k 0=v):xs.take (k+1)=xs.take k++[v]:=by
 rw[List.take_add_one,getD_lt hk,hv];rfl
open Go.RowKit
def aav:Value->Nat
 | .slice _ n _=>n
 | _=>0
open Go.RowKit
theorem QC:(prog.info? 5).map (λi=>(i.zero,i.size,i.bytes))=some (some (.int .u8 0),1,1):=by kernel_rfl
theorem TM (w:World)(n:Nat)(h0:0<n)(hn:n<2^31):∀ty,∃w' c,(Builtin.append_ #[23,3] ty #[.slice none 0 0,.int .i64 (n:Int)]).run prog w=.ok (.slice (some ⟨w.heap.size,0,none⟩) n c) w'/\n<=c/\Own w' w.heap.size 5 .u8 (.slice (some ⟨w.heap.size,0,none⟩) 0 c) []/\Below w.heap.size w w':=λty=>by
 obtain⟨i,hi,hz0,hz1,hz2⟩:=info_parts QC
 have hold:(Builtin.firstCells i.size 0 (.slice none 0 0)).run prog w.drew=.ok ([]:List Value).toArray w.drew:=run_firstCells_none w.drew i.size 0 0 0
 have hr:=Lib.run_append_grow_zeros (P:=prog) w 23 3 ty 5 i (.int .u8 0) .i64 .i64 underlying23 underlying3 hi hz0 none 0 0 [] hold n h0 (by omega) (by omega) (by omega) (by rw[hz2];omega)
  (growslice_fits (by omega) (by rw[hz2];omega))
 rw[Nat.zero_add] at hr
 have hG:=grownCap_ge w n 0 5
 have hG2:=grownCap_le_maxLen w n 0 5 (by unfold maxLen;omega)
 refine⟨_,_,hr,hG,?_,fo.drew.alloc dM _⟩
 refine⟨by simp,.inr ⟨w.heap.size,_,_,rfl,Nat.le_refl _,heap_alloc_new _ _,by simp,hG2,?_,by simp⟩⟩
 simp[Builtin.zeroCells,Value.cells]
 omega
theorem abu (n:Nat)(hn:n<2^31)(w:World) :
  Calls prog 124 #[.slice none 0 0,.int .i64 n] w λe w'=>∃v,e=.returned v/\Own w' w.heap.size 5 .u8 v []/\Below w.heap.size w w':=by
 by_cases h0:n=0
 ·subst h0
  go_enter func124,ntmps124
  go_wp2
  go_ret
  exact⟨_,rfl,Own.nil _ _ _ _,Below.refl _ _⟩
 ·have hr:=TM w n (by omega) hn
  have hgt:decide ((n:Int)>0)=true:=by simp;omega
  go_enter func124,ntmps124
  obtain⟨w1,c,hrun,hnc,hown,hbel⟩:=hr 23
  clear hr
  go_wp2_with (at_builtin;refine Lib.wpList_append_run _ rfl _ _ _ _ rfl _ _ rfl rfl _ _ hrun ?_)
  go_ret
  exact⟨_,rfl,hown,hbel⟩
def abS (w:World)(a:Option Addr)(fu:List (List Nat)):Prop :=
 ∀i,i<fu.length->∃g off ai ci,a=some ⟨g,off,none⟩/\g<w.heap.size/\w.cell? ⟨g,off+i,none⟩=some (.slice ai (fu.getD i []).length ci)/\Sl w ai .u8 (fu.getD i [])/\(ai=none->ci=0)
theorem abS.below {w w':World}{a:Option Addr}{fu:List (List Nat)}(h:abS w a fu)(hb:Below w.heap.size w w'):abS w' a fu:=λi hi=>by
 obtain⟨g,off,ai,ci,h1,h2,h3,h4,h5⟩:=h i hi
 exact⟨g,off,ai,ci,h1,Nat.lt_of_lt_of_le h2 hb.size,(hb.cell h2).trans h3,h4.below hb,h5⟩
def lens (fu:List (List Nat))(k:Nat):Nat:=(fu.take k).flatten.length
theorem getD_some {fu:List (List Nat)}{k:Nat}(hk:k<fu.length):fu[k]?=some (fu.getD k []):=by
 rw[List.getD_eq_getElem?_getD,List.getElem?_eq_getElem hk];rfl
theorem Bj {fu:List (List Nat)}{k:Nat}(hk:k<fu.length):(fu.take (k+1)).flatten=(fu.take k).flatten++fu.getD k []:=by
 rw[List.take_add_one,getD_some hk]
 simp
theorem AY {fu:List (List Nat)}{k:Nat}(hk:k<fu.length):lens fu (k+1)=lens fu k+(fu.getD k []).length:=by
 unfold lens
 rw[Bj hk,List.length_append]
theorem wS (fu:List (List Nat))(k:Nat):lens fu k<=fu.flatten.length:=by
 unfold lens
 have:=congrArg List.length (List.flatten_append (L₁:=fu.take k) (L₂:=fu.drop k))
 rw[List.take_append_drop,List.length_append] at this
 omega
theorem Cn {w:World}{g t:Nat}{vs:List Value}{fu:List (List Nat)}(hb:aA w g t vs.toArray)(h:∀i,i<fu.length->∃ai ci,vs[i]?=some (.slice ai (fu.getD i []).length ci)/\Sl w ai .u8 (fu.getD i [])/\(ai=none->ci=0)):abS w (some ⟨g,0,none⟩) fu:=λi hi=>by
 obtain⟨ai,ci,h1,h2,h3⟩:=h i hi
 exact⟨g,0,ai,ci,rfl,hb.lt,by rw[Nat.zero_add,hb.cell,List.getElem?_toArray,h1],h2,h3⟩
def UQ (w:World)(v:Value)(fu:List (List Nat)):Prop:=∃g c,v=.slice (some ⟨g,0,none⟩) fu.length c/\abS w (some ⟨g,0,none⟩) fu
theorem UQ.below {w w':World}{v:Value}{fu:List (List Nat)}(h:UQ w v fu)(hb:Below w.heap.size w w'):UQ w' v fu:=let ⟨g,c,h1,h2⟩:=h;⟨g,c,h1,h2.below hb⟩
theorem yN (a:Option Addr)(c:Nat)(fu:List (List Nat))(hm:fu.length<2^31)(hlen:fu.flatten.length<2^31)(w:World)(hs:abS w a fu) :
  Calls prog 112 #[.slice a fu.length c] w λe w'=>∃v,e=.returned v/\Own w' w.heap.size 5 .u8 v fu.flatten/\Below w.heap.size w w':=by
 obtain⟨m,HM⟩:=bD (fu.length)
 rw[HM.out] at hm ⊢
 go_enter func112,ntmps112
 go_wp2
 go_loop [3,11] (λs t=>∃k:Nat,k<=m/\t=.int .i64 k/\s=.int .i64 (lens fu k:Nat)) (λs t=>m-(intOf t).toNat)
 case atStart=>exact⟨0,by omega,rfl,rfl⟩
 case round =>
  rename_i hrel
  obtain⟨k,hk,rfl,rfl⟩:=hrel
  by_cases hlt:k<m
  ·obtain⟨g,off,ai,ci,rfl,hg,hc,-,-⟩:=hs k (by rw[HM.out];exact hlt)
   have hls:=AY (fu:=fu) (k:=k) (by rw[HM.out];exact hlt)
   have hle:=wS fu (k+1)
   have hd0:decide ((k:Int)<(m:Int))=true:=by simp;omega
   have Hls:=aR hls
   have hle1:lens fu k+(fu.getD k []).length<2^31:=by omega
   clear hls hle
   generalize lens fu k=s at *
   generalize (fu.getD k []).length=q at *
   go_wp2_with fail
   exact⟨⟨k+1,by omega,by go_num,by rw[Hls.out];go_num⟩,by simp[intOf]<;>omega⟩
  ·obtain rfl:k=m:=by omega
   have hd0:decide ((k:Int)<(k:Int))=false:=by simp
   have hle:=wS fu k
   have hq:lens fu k<2^31:=by omega
   clear hle
   go_wp2_with fail
   refine(abu (lens fu k) hq _).mono ?_
   rintro e w1 ⟨v,rfl,hown,hbel⟩
   have hs1:=hs.below hbel
   generalize lens fu k=q at *
   clear hq
   go_wp2_with fail
   go_loopw [6,27] (λv t wr=>∃i:Nat,i<=k/\t=.int .i64 i/\Own wr w.heap.size 5 .u8 v ((fu.take i).flatten)/\Below w.heap.size w wr) (λv t wr=>k-(intOf t).toNat)
   case atStart=>exact⟨0,by omega,rfl,hown,hbel⟩
   case round =>
    clear hown hbel hs1
    obtain⟨i,hi,rfl,hown,hbel⟩:=hrel
    by_cases hlt:i<k
    ·have hs1:=hs.below hbel
     obtain⟨g,off,ai,ci,rfl,hg,hc,hsl,hnil⟩:=hs1 i (by rw[HM.out];exact hlt)
     have hfl:=Bj (fu:=fu) (k:=i) (by rw[HM.out];exact hlt)
     have hle:=wS fu i
     have hle2:=wS fu (i+1)
     have hls:=AY (fu:=fu) (k:=i) (by rw[HM.out];exact hlt)
     have hln:(fu.take i).flatten.length+(fu.getD i []).length<2^40:=by unfold lens at *;omega
     have acV:=aR hfl
     have hd0:decide ((i:Int)<(k:Int))=true:=by simp;omega
     have hB:=hbel.size
     clear hfl hle hle2 hls hs hs1
     generalize (fu.take i).flatten=zs at *
     generalize fu.getD i []=ys at *
     go_wp2_with (refine dA rfl rfl underlying23 QC rfl (by omega) rfl hown rfl rfl hnil hsl hln hB ?_;intro v' w' hown' hgr;(try simp only[nn,Nat.reduceAdd]))
     exact⟨⟨i+1,by omega,by go_num,by rw[acV.out];exact hown',gI hbel hgr hB hown dM⟩,by simp[intOf]<;>omega⟩
    ·obtain rfl:i=k:=by omega
     have he:fu.take i=fu:=List.take_of_length_le (by rw[HM.out];omega)
     rw[he] at hown
     have hd0:decide ((i:Int)<(i:Int))=false:=by simp
     clear he
     go_wp2_with fail
     go_ret
     exact⟨_,rfl,hown,hbel⟩
end
end Go.Proofs.YtaiffkajkbiidaaGreatDoor
