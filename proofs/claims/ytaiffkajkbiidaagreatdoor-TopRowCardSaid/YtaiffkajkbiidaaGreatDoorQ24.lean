/- What this claim leans on, part 24: laws of the model, and what functions of the program compute. No condition but what each law states. -/
import Derived.Test.YtaiffkajkbiidaaGreatDoorQ23
namespace Go.Proofs.YtaiffkajkbiidaaGreatDoor
set_option linter.unusedSimpArgs false
set_option linter.unusedVariables false
set_option linter.unusedSectionVars false
set_option maxRecDepth 100000
set_option maxHeartbeats 40000000
open Go.Proofs.Tryz
open Tryz
section
def chkB (l:List Nat):Bool:=(List.range 256).all λa=>l.getD (256+l.getD a 0) 0==a&&l.getD (l.getD (256+a) 0) 0==a
theorem Ur:chkB (dW 255)=true:=by decide +kernel
theorem agf {a:Nat}(ha:a<256):(dW 255).getD (256+(dW 255).getD a 0) 0=a:=by
 have h:=List.all_eq_true.1 Ur a (List.mem_range.2 ha)
 simp only[Bool.and_eq_true,beq_iff_eq] at h
 exact h.1
theorem agh {a:Nat}(ha:a<256):(dW 255).getD ((dW 255).getD (256+a) 0) 0=a:=by
 have h:=List.all_eq_true.1 Ur a (List.mem_range.2 ha)
 simp only[Bool.and_eq_true,beq_iff_eq] at h
 exact h.2
def Qf (f:Nat->Nat)(x i:Nat):Nat:=if x.testBit i then f (2^i) else 0
def FK (f:Nat->Nat)(x:Nat):Nat:=Qf f x 0^^^(Qf f x 1^^^(Qf f x 2^^^(Qf f x 3^^^(Qf f x 4^^^(Qf f x 5^^^(Qf f x 6^^^Qf f x 7))))))
theorem XV (f:Nat->Nat)(x y i:Nat):Qf f (x^^^y) i=Qf f x i^^^Qf f y i:=by
 unfold Qf
 rw[Nat.testBit_xor]
 cases x.testBit i<;>cases y.testBit i<;>simp
theorem x4 (a b c d:Nat):a^^^b^^^(c^^^d)=a^^^c^^^(b^^^d):=by
 rw[Nat.xor_assoc,Nat.xor_assoc,←Nat.xor_assoc b,Nat.xor_comm b c,Nat.xor_assoc]
theorem RU (f:Nat->Nat)(x y:Nat):FK f (x^^^y)=FK f x^^^FK f y:=by
 unfold FK
 simp only[XV,x4]
theorem JG {f:Nat->Nat}(h:∀x,x<256->f x=FK f x){x y:Nat}(hx:x<256)(hy:y<256):f (x^^^y)=f x^^^f y:=by
 rw[h _ (Nat.xor_lt_two_pow (n:=8) hx hy),h _ hx,h _ hy,RU]
theorem WH:∀r,r<4->∀x,x<256->qF iV r x=FK (qF iV r) x:=by decide +kernel
theorem Ow:∀r,r<4->∀x,x<256->qF fM r x=FK (qF fM r) x:=by decide +kernel
def bt (n i:Nat):Nat:=n/256^i%256
theorem yX (n i:Nat):bt n i<256:=Nat.mod_lt _ (by decide)
theorem sw (a b i:Nat):bt (a^^^b) i=bt a i^^^bt b i:=by
 unfold bt
 rw[show (256:Nat)^i=2^(8*i) by rw[Nat.pow_mul]]
 rw[←Nat.shiftRight_eq_div_pow,←Nat.shiftRight_eq_div_pow,←Nat.shiftRight_eq_div_pow,Nat.shiftRight_xor_distrib]
 exact Nat.xor_mod_two_pow (n:=8)
def pR (A:List Nat)(v:Nat->Nat):Nat:=qF A 0 (v 0)^^^qF A 1 (v 1)^^^(qF A 2 (v 2)^^^qF A 3 (v 3))
def XM (v:Nat->Nat):Nat:=v 0^^^v 1*256^1^^^(v 2*256^2^^^v 3*256^3)
def xh (A B:List Nat):Prop:=(∀r,r<4->∀x,x<256->qF B r x=FK (qF B r) x)/\∀r,r<4->∀x,x<256->pR B (λi=>bt (qF A r x) i)=x*256^r
theorem VB:xh iV fM:=⟨Ow,by decide +kernel⟩
theorem VA:xh fM iV:=⟨WH,by decide +kernel⟩
theorem x4' (a0 a1 a2 a3 b0 b1 b2 b3 c0 c1 c2 c3 d0 d1 d2 d3:Nat) :
  (a0^^^b0^^^(c0^^^d0))^^^(a1^^^b1^^^(c1^^^d1))^^^((a2^^^b2^^^(c2^^^d2))^^^(a3^^^b3^^^(c3^^^d3))) =
  (a0^^^a1^^^(a2^^^a3))^^^(b0^^^b1^^^(b2^^^b3))^^^((c0^^^c1^^^(c2^^^c3))^^^(d0^^^d1^^^(d2^^^d3))):=by
 ac_rfl
theorem Uh {A B:List Nat}(h:xh A B){v:Nat->Nat}(hv:∀r,r<4->v r<256):pR B (λi=>bt (pR A v) i)=XM v:=by
 obtain⟨hl,hs⟩:=h
 have e:∀i,i<4->qF B i (bt (pR A v) i)=qF B i (bt (qF A 0 (v 0)) i)^^^qF B i (bt (qF A 1 (v 1)) i)^^^(qF B i (bt (qF A 2 (v 2)) i)^^^qF B i (bt (qF A 3 (v 3)) i)):=λi hi=>by
  have hx:∀a b,bt a i^^^bt b i<256:=λa b=>Nat.xor_lt_two_pow (n:=8) (yX _ _) (yX _ _)
  unfold pR
  rw[sw,sw,sw,JG (hl i hi) (hx _ _) (hx _ _),JG (hl i hi) (yX _ _) (yX _ _),JG (hl i hi) (yX _ _) (yX _ _)]
 have h0:=hs 0 (by decide) _ (hv 0 (by decide))
 have h1:=hs 1 (by decide) _ (hv 1 (by decide))
 have h2:=hs 2 (by decide) _ (hv 2 (by decide))
 have h3:=hs 3 (by decide) _ (hv 3 (by decide))
 have e0:=e 0 (by decide)
 have e1:=e 1 (by decide)
 have e2:=e 2 (by decide)
 have e3:=e 3 (by decide)
 generalize hC:pR A v=C at *
 show qF B 0 (bt C 0)^^^qF B 1 (bt C 1)^^^(qF B 2 (bt C 2)^^^qF B 3 (bt C 3))=_
 rw[e0,e1,e2,e3,x4']
 unfold pR at h0 h1 h2 h3
 rw[h0,h1,h2,h3]
 unfold XM
 rw[Nat.pow_zero,Nat.mul_one]
theorem Dy:∀i,i<4->∀r,r<4->∀x,x<256->bt (x*256^r) i=if i=r then x else 0:=by decide +kernel
theorem XW {v:Nat->Nat}(hv:∀r,r<4->v r<256){i:Nat}(hi:i<4):bt (XM v) i=v i:=by
 have e0:=Dy i hi 0 (by decide) _ (hv 0 (by decide))
 have e1:=Dy i hi 1 (by decide) _ (hv 1 (by decide))
 have e2:=Dy i hi 2 (by decide) _ (hv 2 (by decide))
 have e3:=Dy i hi 3 (by decide) _ (hv 3 (by decide))
 rw[Nat.pow_zero,Nat.mul_one] at e0
 unfold XM
 rw[sw,sw,sw,e0,e1,e2,e3]
 rcases(by omega:i=0∨i=1∨i=2∨i=3) with rfl|rfl|rfl|rfl<;>simp
def zQ (A s:List Nat):List Nat:=(List.range 16).map λq=>bt (pR A λr=>s.getD (4*(q/4)+r) 0) (q%4)
theorem yc (A s:List Nat):(zQ A s).length=16:=by simp[zQ]
theorem Wz (A s:List Nat):∀x∈zQ A s,x<256:=λx hx=>by
 obtain⟨q,-,rfl⟩:=List.mem_map.1 hx
 exact yX _ _
theorem qz (A s:List Nat){q:Nat}(hq:q<16):(zQ A s).getD q 0=bt (pR A λr=>s.getD (4*(q/4)+r) 0) (q%4):=by
 unfold zQ
 rw[List.getD_eq_getElem?_getD,List.getElem?_map,List.getElem?_range hq];rfl
theorem Kv {A:List Nat}{v v':Nat->Nat}(h:∀r,r<4->v r=v' r):pR A v=pR A v':=by
 unfold pR
 rw[h 0 (by decide),h 1 (by decide),h 2 (by decide),h 3 (by decide)]
theorem AX {A B s:List Nat}(h:xh A B)(hl:s.length=16)(hs:∀x∈s,x<256):zQ B (zQ A s)=s:=by
 refine eP (yc _ _) hl λq hq=>?_
 rw[qz _ _ hq]
 have hv:∀r,r<4->(λr=>s.getD (4*(q/4)+r) 0) r<256:=λr hr=>aC hs (by decide) _
 rw[Kv (v':=λr=>bt (pR A λr=>s.getD (4*(q/4)+r) 0) r) (λr hr=>by
  show (zQ A s).getD (4*(q/4)+r) 0=_
  rw[qz _ _ (by omega),show (4*(q/4)+r)/4=q/4 by omega,show (4*(q/4)+r)%4=r by omega])]
 rw[Uh h hv,XW hv (by omega)]
 show s.getD (4*(q/4)+q%4) 0=_
 rw[show 4*(q/4)+q%4=q by omega]
theorem Kr (n i:Nat)(hi:i<4):(cZ 256 4 n).getD i 0=bt n i:=uz 256 4 n i hi
theorem Zh {l m:List Nat}{i:Nat}(h:i<l.length):(l++m).getD i 0=l.getD i 0:=by
 rw[List.getD_eq_getElem?_getD,List.getD_eq_getElem?_getD,List.getElem?_append_left h]
theorem Zg {l m:List Nat}{i:Nat}(h:l.length<=i):(l++m).getD i 0=m.getD (i-l.length) 0:=by
 rw[List.getD_eq_getElem?_getD,List.getD_eq_getElem?_getD,List.getElem?_append_right h]
theorem Me (L b:List Nat):(Ij L b).length=16:=ug _ _ _
theorem aax {L:List Nat}(hL:∀x∈L,x<256)(b:List Nat):∀x∈Ij L b,x<256:=CX hL _ _
theorem Vz {L:List Nat}(hL:∀x∈L,x<256)(b key:List Nat):∀x∈xC L b key,x<256:=BZ hL _ _
theorem Ls (L b key:List Nat):∀n c i,c<n->i<4->(Lt L b key n).getD (4*c+i) 0=bt (Aw L b key c 4) i
 | 0,c,i,h,_=>by omega
 | n+1,c,i,h,hi=>by
  have hl:=wP L b key n
  unfold Lt
  by_cases hc:c<n
  ·rw[Zh (by omega),Ls L b key n c i hc hi]
  ·obtain rfl:c=n:=by omega
   rw[Zg (by omega),hl,Nat.add_sub_cancel_left,Kr _ _ hi]
theorem KY (b:List Nat):∀n c i,c<n->i<4->(BX b n).getD (4*c+i) 0=bt (BS b c 4) i
 | 0,c,i,h,_=>by omega
 | n+1,c,i,h,hi=>by
  have hl:=ni b n
  unfold BX
  by_cases hc:c<n
  ·rw[Zh (by omega),KY b n c i hc hi]
  ·obtain rfl:c=n:=by omega
   rw[Zg (by omega),hl,Nat.add_sub_cancel_left,Kr _ _ hi]
theorem Vy {b:List Nat}(hb:∀x∈b,x<256)(c:Nat):BS b c 4=pR fM λr=>b.getD (4*c+r) 0:=by
 have h:∀r,Nz (256*r+b.getD (4*c+r) 0)=qF fM r (b.getD (4*c+r) 0):=λr=>by
  have h1:b.getD (4*c+r) 0<256:=aC hb (by decide) _
  unfold Nz
  rw[show (256*r+b.getD (4*c+r) 0)/256=r by omega,show (256*r+b.getD (4*c+r) 0)%256=b.getD (4*c+r) 0 by omega]
 unfold BS BS BS BS BS pR
 rw[h 0,h 1,h 2,h 3,Nat.zero_xor,Nat.xor_assoc]
theorem KX {b:List Nat}(hb:∀x∈b,x<256):BX b 4=zQ fM b:=by
 refine eP (ni b 4) (yc _ _) λq hq=>?_
 rw[qz _ _ hq,←Vy hb,←KY b 4 (q/4) (q%4) (by omega) (by omega),show 4*(q/4)+q%4=q by omega]
theorem aay (L b:List Nat):Ij L b=(List.range 16).map λq=>L.getD (b.getD (qJ (q%4) (q/4)) 0) 0:=by
 unfold Ij uh uh uh uh uh uh uh uh uh uh uh uh uh uh uh uh uh
 rfl
theorem yn (L b:List Nat){q:Nat}(hq:q<16):(Ij L b).getD q 0=L.getD (b.getD (qJ (q%4) (q/4)) 0) 0:=by
 rw[aay,List.getD_eq_getElem?_getD,List.getElem?_map,List.getElem?_range hq];rfl
def VS (q:Nat):Nat:=q%4+4*((q/4+4-q%4)%4)
theorem aae (q:Nat):VS q<16:=by unfold VS;omega
theorem aad {q:Nat}(hq:q<16):VS (qJ (q%4) (q/4))=q:=by unfold VS qJ;omega
theorem aac {q:Nat}(hq:q<16):qJ (VS q%4) (VS q/4)=q:=by unfold VS qJ;omega
theorem ZN (L b:List Nat):PU L b=(List.range 16).map λq=>L.getD (256+b.getD (VS q) 0) 0:=by
 unfold PU tu tu tu tu tu tu tu tu tu tu tu tu tu tu tu tu tu
 rfl
theorem Et (L b:List Nat){q:Nat}(hq:q<16):(PU L b).getD q 0=L.getD (256+b.getD (VS q) 0) 0:=by
 rw[ZN,List.getD_eq_getElem?_getD,List.getElem?_map,List.getElem?_range hq];rfl
theorem YD {b:List Nat}(hl:b.length=16)(hb:∀x∈b,x<256):PU (dW 255) (Ij (dW 255) b)=b:=by
 refine eP (kQ _ _ _) hl λq hq=>?_
 rw[Et _ _ hq,yn _ _ (aae q),aac hq,agf (aC hb (by decide) _)]
theorem YQ {b:List Nat}(hl:b.length=16)(hb:∀x∈b,x<256):Ij (dW 255) (PU (dW 255) b)=b:=by
 refine eP (ug _ _ _) hl λq hq=>?_
 rw[yn _ _ hq,Et _ _ (by unfold qJ;omega),aad hq,agh (aC hb (by decide) _)]
theorem Wh {L b key:List Nat}(hL:∀x∈L,x<256)(hb:∀x∈b,x<256){c:Nat}(hc:c<4):Aw L b key c 4=aT key (4*c) 4^^^pR iV λr=>(Ij L b).getD (4*c+r) 0:=by
 have h:∀r,r<4->tY L (256*r+b.getD (qJ r c) 0)=qF iV r ((Ij L b).getD (4*c+r) 0):=λr hr=>by
  have h1:b.getD (qJ r c) 0<256:=aC hb (by decide) _
  unfold tY
  rw[show (256*r+b.getD (qJ r c) 0)/256=r by omega,show (256*r+b.getD (qJ r c) 0)%256=b.getD (qJ r c) 0 by omega,yn _ _ (by omega),show (4*c+r)%4=r by omega,show (4*c+r)/4=c by omega]
 unfold Aw Aw Aw Aw Aw pR
 rw[h 0 (by decide),h 1 (by decide),h 2 (by decide),h 3 (by decide),Nat.xor_assoc,Nat.xor_assoc,Nat.xor_assoc,Nat.xor_assoc]
theorem Us {key:List Nat}(hk:∀x∈key,x<256)(p:Nat){i:Nat}(hi:i<4):bt (aT key p 4) i=key.getD (p+i) 0:=by
 rw[←Kr _ _ hi]
 have h:=jX 256 ((List.range 4).map λk=>key.getD (p+k) 0) (λx hx=>by
  obtain⟨k,-,rfl⟩:=List.mem_map.1 hx
  exact aC hk (by decide) _)
 rw[show ((List.range 4).map λk=>key.getD (p+k) 0).length=4 by simp] at h
 unfold aT
 rw[h,List.getD_eq_getElem?_getD,List.getElem?_map,List.getElem?_range hi];rfl
theorem Lr {L b key:List Nat}(hL:∀x∈L,x<256)(hb:∀x∈b,x<256)(hk:∀x∈key,x<256):Od L b key=eT (zQ iV (Ij L b)) key:=by
 refine eP (nG _ _ _) (cK _ _) λq hq=>?_
 have h:=Ls L b key 4 (q/4) (q%4) (by omega) (by omega)
 rw[show 4*(q/4)+q%4=q by omega,Wh hL hb (by omega),sw,Us hk _ (by omega),show 4*(q/4)+q%4=q by omega] at h
 rw[gD _ _ hq,qz _ _ hq,Nat.xor_comm]
 exact h
theorem jS {a k:List Nat}(hl:a.length=16):eT (eT a k) k=a:=by
 refine eP (cK _ _) hl λq hq=>?_
 rw[gD _ _ hq,gD _ _ hq,Nat.xor_assoc,Nat.xor_self,Nat.xor_zero]
theorem ZL {b key:List Nat}(hl:b.length=16)(hb:∀x∈b,x<256)(hk:∀x∈key,x<256):xC (dW 255) (Od (dW 255) b key) key=b:=by
 unfold xC
 rw[Lr (gH _) hb hk,jS (yc _ _),KX (Wz _ _),AX VB (Me _ _) (aax (gH _) _)]
 exact YD hl hb
theorem aah {y key:List Nat}(hl:y.length=16)(hy:∀x∈y,x<256)(hk:∀x∈key,x<256):Od (dW 255) (xC (dW 255) y key) key=y:=by
 have hx:=jJ hy hk
 rw[Lr (gH _) (Vz (gH _) _ _) hk]
 unfold xC
 rw[YQ (ni _ 4) (IE _ 4),KX hx,AX VA (cK _ _) hx,jS hl]
theorem Qz {b key:List Nat}(hl:b.length=16)(hb:∀x∈b,x<256):zK (dW 255) (pF (dW 255) b key) key=b:=by
 unfold zK pF
 rw[jS (Me _ _)]
 exact YD hl hb
theorem Sa {y key:List Nat}(hl:y.length=16)(hy:∀x∈y,x<256)(hk:∀x∈key,x<256):pF (dW 255) (zK (dW 255) y key) key=y:=by
 unfold zK pF
 rw[YQ (cK _ _) (jJ hy hk),jS hl]
theorem uK (a b:List Nat):qR a b=eT a b:=by
 refine eP (gP _ _) (cK _ _) λq hq=>?_
 unfold qR aU
 rw[List.getD_eq_getElem?_getD,List.getElem?_map,List.getElem?_range hq,gD _ _ hq]
 exact jf _ _ hq
theorem AA (L b:List Nat)(l:List (List Nat)){i:Nat}(hi:i<l.length):jN L b (l.take (i+1))=Od L (jN L b (l.take i)) (l.getD i []):=iF _ _ _ _ hi
theorem FD (ks:List (List Nat)){i:Nat}(hi:i<ks.length-2):((ks.drop 1).take (ks.length-2)).getD i []=ks.getD (i+1) []:=by
 rw[List.getD_eq_getElem?_getD,List.getD_eq_getElem?_getD,List.getElem?_take,if_pos hi,List.getElem?_drop,Nat.add_comm 1 i]
theorem LW (ks:List (List Nat)):((ks.drop 1).take (ks.length-2)).length=ks.length-2:=by
 rw[List.length_take,List.length_drop];omega
theorem LY (ks:List (List Nat)):((ks.drop 1).take (ks.length-2)).take (ks.length-2)=(ks.drop 1).take (ks.length-2):=by
 rw[List.take_take,Nat.min_self]
theorem MJ {ks:List (List Nat)}(ok:lI (dW 255) ks){b:List Nat}(hl:b.length=16)(hb:∀x∈b,x<256):ma (dW 255) ks (jA (dW 255) ks b)=b:=by
 obtain⟨lL,bL,two,few,FJ,Qg⟩:=ok
 have kb:∀i,i<ks.length->∀x∈ks.getD i [],x<256:=λi hi=>bQ (p:=λk=>∀x∈k,x<256) Qg hi
 have h0l:=gP b (ks.getD 0 [])
 have h0b:=vL hb (kb 0 (by omega))
 have hX:∀l,(jN (dW 255) (qR b (ks.getD 0 [])) l).length=16/\∀x∈jN (dW 255) (qR b (ks.getD 0 [])) l,x<256:=λl=>⟨kz _ l _ h0l,nE _ l _ h0b⟩
 have key:∀j,j<=ks.length-2->jk (dW 255) ks (jA (dW 255) ks b) j=jN (dW 255) (qR b (ks.getD 0 [])) (((ks.drop 1).take (ks.length-2)).take (ks.length-2-j)):=by
  intro j
  induction j with
  | zero =>
   intro _
   unfold jk jA
   rw[Qz (hX _).1 (hX _).2,Nat.sub_zero,LY]
  | succ j ih =>
   intro hj
   unfold jk
   rw[ih (by omega),show ks.length-2-j=(ks.length-2-(j+1))+1 by omega,AA _ _ _ (by rw[LW];omega),FD _ (by omega),show ks.length-2-(j+1)+1=ks.length-2-j by omega]
   exact ZL (hX _).1 (hX _).2 (kb _ (by omega))
 unfold ma
 rw[key _ dM,Nat.sub_self,List.take_zero]
 show qR (qR b (ks.getD 0 [])) (ks.getD 0 [])=b
 rw[uK,uK,jS hl]
theorem MF {ks:List (List Nat)}(ok:lI (dW 255) ks){y:List Nat}(hl:y.length=16)(hy:∀x∈y,x<256):jA (dW 255) ks (ma (dW 255) ks y)=y:=by
 obtain⟨lL,bL,two,few,FJ,Qg⟩:=ok
 have kb:∀i,i<ks.length->∀x∈ks.getD i [],x<256:=λi hi=>bQ (p:=λk=>∀x∈k,x<256) Qg hi
 have hD:∀j,(jk (dW 255) ks y j).length=16/\∀x∈jk (dW 255) ks y j,x<256:=λj=>⟨uC _ _ _ j,Dq bL _ _ j⟩
 have key:∀i,i<=ks.length-2->jN (dW 255) (qR (ma (dW 255) ks y) (ks.getD 0 [])) (((ks.drop 1).take (ks.length-2)).take i)=jk (dW 255) ks y (ks.length-2-i):=by
  intro i
  induction i with
  | zero =>
   intro _
   rw[List.take_zero]
   show qR (ma (dW 255) ks y) (ks.getD 0 [])=_
   unfold ma
   rw[uK,uK,jS (hD _).1,Nat.sub_zero]
  | succ i ih =>
   intro hi
   rw[AA _ _ _ (by rw[LW];omega),ih (by omega),FD _ (by omega),show ks.length-2-i=(ks.length-2-(i+1))+1 by omega]
   show Od _ (xC _ (jk (dW 255) ks y (ks.length-2-(i+1))) (ks.getD (ks.length-2-(ks.length-2-(i+1))) [])) _=_
   rw[show ks.length-2-(ks.length-2-(i+1))=i+1 by omega]
   exact aah (hD _).1 (hD _).2 (kb _ (by omega))
 have h:=key _ dM
 rw[LY,Nat.sub_self] at h
 unfold jA
 rw[h]
 exact Sa hl hy (kb _ (by omega))
end
section
open Go.RowKit
theorem Gx {x y:List Nat}(hx:x.length=16)(hy:y.length=16)(h:∀i,i<16->x.getD i 0=y.getD i 0):x=y:=gX (hx.trans hy.symm) λi hi=>h i (by omega)
def xg (i:Nat)(bs:List (List Nat))(x:Nat):Nat:=bs.foldl (λx b=>x^^^b.getD i 0) x
theorem Ai {i:Nat}(hi:i<16):∀(bs:List (List Nat)) (a:List Nat),(dR a bs).getD i 0=xg i bs (a.getD i 0)
 | [],a=>rfl
 | b::bs,a=>by
  unfold dR xg
  rw[List.foldl_cons,List.foldl_cons,←gD a b hi]
  exact Ai hi bs (eT a b)
theorem Nk (i:Nat):(zeros 16).getD i 0=0:=by
 unfold zeros
 rw[List.getD_eq_getElem?_getD,List.getElem?_replicate]
 split<;>rfl
theorem lh {i:Nat}(hi:i<16)(bs:List (List Nat)):(fK bs).getD i 0=xg i bs 0:=by
 unfold fK
 rw[Ai hi,Nk]
theorem xx (a b:Nat):a^^^b^^^b=a:=by rw[Nat.xor_assoc,Nat.xor_self,Nat.xor_zero]
theorem iW {a b:List Nat}(ha:a.length=16):fK [fK [a,b],b]=a:=Gx (bI _) ha λi hi=>by
 rw[lh hi]
 simp only[xg,List.foldl_cons,List.foldl_nil,lh hi,Nat.zero_xor,xx]
theorem Tm (a b c:List Nat):fK [a,b,c]=fK [b,a,c]:=Gx (bI _) (bI _) λi hi=>by
 rw[lh hi,lh hi]
 simp only[xg,List.foldl_cons,List.foldl_nil,Nat.zero_xor]
 rw[Nat.xor_comm (a.getD i 0) (b.getD i 0)]
theorem BF {x:List Nat}(h:x.length=16):aU x=x:=Gx (bG _) h λi hi=>by
 unfold aU
 rw[List.getD_eq_getElem?_getD,List.getElem?_map,List.getElem?_range hi]
 rfl
theorem Vr (L:List Nat)(ks:List (List Nat))(s b:List Nat):(Nn L ks s b).length=b.length:=gN _ _ _
theorem Vq (L:List Nat)(ks:List (List Nat))(s b:List Nat):Nn L ks s (Nn L ks s b)=b:=MK _ _ _
theorem Tp (F:List Nat->List Nat)(ks:List (List Nat))(h l t:List Nat){m:List Nat}(hm:16<=m.length):(jy F ks h l t m).length=m.length:=by
 unfold jy og
 rw[List.length_append,bI,Vr,List.length_drop];omega
theorem Mm {F:List Nat->List Nat}{ks:List (List Nat)}{h l t m:List Nat}(ok:lI (dW 255) ks)(hF:∀x,∀y∈F x,y<256)(hm:∀x∈m,x<256):∀x∈jy F ks h l t m,x<256:=λx hx=>by
 unfold jy at hx
 rcases List.mem_append.1 hx with hx|hx
 ·exact dE _ _ (dh 16 (by decide)) (dz (hF _) (UW.CJ (dh 16 (by decide)) _)) x hx
 ·unfold og Nn at hx
  exact vH (λq=>Ir ok _ _) (λx hx=>hm x (List.mem_of_mem_drop hx)) x hx
theorem Be {F G:List Nat->List Nat}{ks:List (List Nat)}{h l t m:List Nat}(Zf:∀x,(F x).length=16)(hG:∀x,x.length=16->(∀y∈x,y<256)->G (F x)=x)(h16:16<=m.length)(hm:∀x∈m,x<256):jy G ks h l t (jy F ks h l t m)=m:=by
 have hll:(m.take 16).length=16:=by rw[List.length_take];omega
 have hlb:∀x∈m.take 16,x<256:=λx hx=>hm x (List.mem_of_mem_take hx)
 have hsp:=List.take_append_drop 16 m
 have H1:eU h t m=fK [m.take 16,OJ h t (m.drop 16)]:=by unfold eU;rw[BF hll]
 have hol:(eU h t m).length=16:=bI _
 have FT:∀x∈eU h t m,x<256:=by rw[H1];exact dE _ _ (dh 16 (by decide)) (dz hlb (UW.CJ (dh 16 (by decide)) _))
 have HE:jy F ks h l t m=fK [F (eU h t m),OJ h t (og ks l (eU h t m) (F (eU h t m)) (m.drop 16))]++og ks l (eU h t m) (F (eU h t m)) (m.drop 16):=rfl
 have HB:og ks l (eU h t m) (F (eU h t m)) (m.drop 16)=Nn (dW 255) ks (fK [eU h t m,F (eU h t m),l]) (m.drop 16):=rfl
 generalize eU h t m=one at *
 generalize og ks l one (F one) (m.drop 16)=b2 at *
 generalize m.drop 16=bl at *
 generalize m.take 16=lf at *
 have p1:(jy F ks h l t m).take 16=fK [F one,OJ h t b2]:=by rw[HE,List.take_left' (bI _)]
 have p2:(jy F ks h l t m).drop 16=b2:=by rw[HE,List.drop_left' (bI _)]
 have h2:eU h t (jy F ks h l t m)=F one:=by
  unfold eU
  rw[p1,p2,BF (bI _),iW (Zf _)]
 have h3:G (F one)=one:=hG one hol FT
 have h4:og ks l (F one) one b2=bl:=by
  unfold og
  rw[Tm,HB,Vq]
 unfold jy
 change fK [G (eU h t (jy F ks h l t m)),OJ h t (og ks l (eU h t (jy F ks h l t m)) (G (eU h t (jy F ks h l t m))) ((jy F ks h l t m).drop 16))]++og ks l (eU h t (jy F ks h l t m)) (G (eU h t (jy F ks h l t m))) ((jy F ks h l t m).drop 16)=m
 rw[h2,h3,p2,h4,H1,iW hll,hsp]
end
section
open Go.RowKit
def pA (F:List Nat)(i:Nat):List Nat:=(F.drop (32*i)).take 16
def pB (F:List Nat)(i:Nat):List Nat:=(F.drop (32*i+16)).take 16
def jd (f:Nat->List Nat×List Nat):Nat->List Nat
 | 0=>[]
 | n+1=>jd f n++((f n).1++(f n).2)
theorem Jt {F:List Nat}{i n:Nat}(hF:F.length=32*n)(hi:i<n):(pA F i).length=16:=by unfold pA;rw[List.length_take,List.length_drop];omega
theorem Js {F:List Nat}{i n:Nat}(hF:F.length=32*n)(hi:i<n):(pB F i).length=16:=by unfold pB;rw[List.length_take,List.length_drop];omega
theorem Ff {F:List Nat}(hb:∀x∈F,x<256)(i:Nat):∀x∈pA F i,x<256:=λx hx=>hb x (List.mem_of_mem_drop (List.mem_of_mem_take hx))
theorem AL {F:List Nat}(hb:∀x∈F,x<256)(i:Nat):∀x∈pB F i,x<256:=λx hx=>hb x (List.mem_of_mem_drop (List.mem_of_mem_take hx))
section
variable {f:Nat->List Nat×List Nat}
theorem jP (h:∀i,(f i).1.length=16/\(f i).2.length=16):∀n,(jd f n).length=32*n
 | 0=>rfl
 | n+1=>by
  show (jd f n++((f n).1++(f n).2)).length=_
  rw[List.length_append,List.length_append,jP h n,(h n).1,(h n).2];omega
theorem Kl (h:∀i,(∀x∈(f i).1,x<256)/\∀x∈(f i).2,x<256):∀n,∀x∈jd f n,x<256
 | 0,x,hx=>by cases hx
 | n+1,x,hx=>by
  rcases List.mem_append.1 hx with hx|hx
  ·exact Kl h n x hx
  ·rcases List.mem_append.1 hx with hx|hx
   ·exact(h n).1 x hx
   ·exact(h n).2 x hx
theorem Gr (h:∀i,(f i).1.length=16/\(f i).2.length=16)(k:Nat):∀n,k<=n->(jd f n).take (32*k)=jd f k
 | 0,hk=>by
  obtain rfl:k=0:=by omega
  rfl
 | n+1,hk=>by
  have hl:=jP h n
  show (jd f n++((f n).1++(f n).2)).take (32*k)=_
  by_cases he:k=n+1
  ·subst he
   rw[List.take_of_length_le]
   ·rfl
   ·rw[List.length_append,List.length_append,hl,(h n).1,(h n).2];omega
  ·rw[List.take_append_of_le_length (by omega),Gr h k n (by omega)]
theorem Gs (h:∀i,(f i).1.length=16/\(f i).2.length=16){i n:Nat}(hi:i<n):((jd f n).drop (32*i)).take 32=(f i).1++(f i).2:=by
 have h1:=Gr h (i+1) n (by omega)
 have hl:=jP h i
 rw[List.take_drop,show 32*i+32=32*(i+1) by omega,h1]
 show (jd f i++((f i).1++(f i).2)).drop (32*i)=_
 rw[←hl,List.drop_left]
theorem Rp (h:∀i,(f i).1.length=16/\(f i).2.length=16){i n:Nat}(hi:i<n):pA (jd f n) i=(f i).1:=by
 have h1:=Gs h hi
 have h2:=congrArg (List.take 16) h1
 rw[List.take_take,List.take_left' (h i).1] at h2
 exact h2
theorem Ro (h:∀i,(f i).1.length=16/\(f i).2.length=16){i n:Nat}(hi:i<n):pB (jd f n) i=(f i).2:=by
 have h1:=Gs h hi
 have h2:=congrArg (List.drop 16) h1
 rw[List.drop_take,List.drop_drop,List.drop_left' (h i).1] at h2
 exact h2
end
theorem abx {F:List Nat}:∀{n:Nat},F.length=32*n->jd (λi=>(pA F i,pB F i)) n=F:=λ{n} hF=>by
 have key:∀k,k<=n->jd (λi=>(pA F i,pB F i)) k=F.take (32*k):=λk=>by
  induction k with
  | zero=>intro _;rfl
  | succ k ih =>
   intro hk
   show jd (λi=>(pA F i,pB F i)) k++(pA F k++pB F k)=_
   rw[ih (by omega)]
   unfold pA pB
   rw[show 32*(k+1)=32*k+(16+16) by omega,List.take_add,List.take_add,List.drop_drop]
 rw[key n dM,List.take_of_length_le (by omega)]
theorem vD {f g:Nat->List Nat×List Nat}:∀{n:Nat},(∀i,i<n->f i=g i)->jd f n=jd g n
 | 0,_=>rfl
 | n+1,h=>by
  show jd f n++_=jd g n++_
  rw[vD λi hi=>h i (by omega),h n (by omega)]
def jc (f:Nat->List Nat):Nat->List Nat
 | 0=>zeros 16
 | k+1=>fK [jc f k,f k]
theorem kR (f:Nat->List Nat):∀k,(jc f k).length=16
 | 0=>aH _
 | _+1=>bI _
theorem rF {f:Nat->List Nat}(h:∀i,∀x∈f i,x<256):∀k,∀x∈jc f k,x<256
 | 0=>dh 16 (by decide)
 | k+1=>dE _ _ (dh 16 (by decide)) (dz (rF h k) (h k))
theorem qg {f g:Nat->List Nat}:∀{n:Nat},(∀i,i<n->f i=g i)->jc f n=jc g n
 | 0,_=>rfl
 | n+1,h=>by
  show fK [jc f n,f n]=fK [jc g n,g n]
  rw[qg λi hi=>h i (by omega),h n (by omega)]
end
section
open Go.RowKit
def zy (w0:World)(g:Nat)(cs:Array Value)(k:Nat)(e:Nat->Value)(W:World):Prop :=
 (k=0->Below w0.heap.size w0 W)/\(0<k->∃W1,Below w0.heap.size w0 W1/\Below (W1.setRow g cs).heap.size (W1.setRow g cs) W)
section
variable {w0 W:World}{g:Nat}{cs:Array Value}{e:Nat->Value}
theorem zy.start (w0:World)(g:Nat)(cs:Array Value)(e:Nat->Value):zy w0 g cs 0 e w0.drew:=⟨λ_=>dQ _,λh=>absurd h (Nat.lt_irrefl _)⟩
theorem zy.lN (k:Nat)(e:Nat->Value)(W W':World)(h:zy w0 g cs k e W)(hb:Below W.heap.size W W'):zy w0 g cs k e W' :=
 ⟨λhk=>dx (h.1 hk) hb (h.1 hk).size,λhk=>let ⟨W1,h1,h2⟩:=h.2 hk;⟨W1,h1,bC h2 hb⟩⟩
theorem zy.z (h:zy w0 g cs 0 e W):Below w0.heap.size w0 W:=h.1 rfl
theorem zy.mk (h:zy w0 g cs 0 e W):zy w0 g cs 1 e (W.setRow g cs):=⟨λh=>absurd h (by decide),λ_=>⟨W,h.z,Below.refl _ _⟩⟩
theorem zy.blk (h:zy w0 g cs 1 e W){t:Nat}{old:Array Value}(A:aA w0 g t old):aA W g t cs:=by
 obtain⟨W1,h1,h2⟩:=h.2 (by decide)
 exact((A.below' h1).row cs).below' h2
theorem zy.je (h:zy w0 g cs 1 e W){B:Nat}{w:World}(hb:Below B w w0)(hB:B<=g)(hw:B<=w.heap.size):Below B w W:=by
 obtain⟨W1,h1,h2⟩:=h.2 (by decide)
 have h3:=az (dx hb h1 (Nat.le_trans hw hb.size)) hB cs
 exact dx h3 h2 (Nat.le_trans hw h3.size)
end
def RB (B:Nat)(W W':World):Prop:=∀g t cs,B<=g->aA W g t cs->aA W' g t cs
theorem RB.refl (B:Nat)(W:World):RB B W W:=λ_ _ _ _ h=>h
theorem RB.below {B:Nat}{W W':World}(hb:Below W.heap.size W W'):RB B W W':=λ_ _ _ _ h=>h.below' hb
theorem RB.row {B g:Nat}(W:World)(cs:Array Value)(hg:g<B):RB B W (W.setRow g cs):=λg' _ _ h1 h=>h.aM (λe=>by omega) _
theorem NS.rb {B n:Nat}{T:TypeId}{cs:Array Value}{W W':World}{v:Value}(h:NS B T n cs W v)(hR:RB B W W'):NS B T n cs W' v:=by
 obtain⟨g,h1,h2,h3⟩:=h
 exact⟨g,h1,h2,hR g T cs h2 h3⟩
section
variable {P:Program}{ops:Array Oper}{rest:List Oper}{o:Oper}{a:Act}{w:World}{Q:Exit->Act->World->Prop}
theorem nA {T e n N c g off:Nat}{x y:Operand}(ho:o.op=.slice T x (some y) none none)(hT:P.underlying T=some (.slice e))(hs:(P.info? e).map (·.size)=some 1)
  (hx:a.eval x=.slice (some ⟨g,off,none⟩) N c) (hy:a.eval y=.int .i64 (n:Int)) (hn:n<=N) (hc:n<c):(execOp a.eval o).run P w=.ok (.value (.slice (some ⟨g,off+n,none⟩) (N-n) (c-n))) w:=by
 obtain⟨d,hd,hd1⟩:=Option.map_eq_some_iff.1 hs
 have he:=jQ hT
 have hT':P.underlying T=some (.slice (P.elem T)):=by rw[he];exact hT
 have hr:=run_slice_l (P:=P) (w:=w) T (some ⟨g,off,none⟩) N c hT' .i64 n (by omega) (by omega)
 have hsz:(sizeOf (P.elem T)).run P w=.ok 1 w:=by simp[sizeOf,typeInfo,he,hd,hd1]
 rw[hsz] at hr
 unfold execOp
 simp only[ho,hx,hy,Option.map_some,Option.map_none,Sem.run_bind,Sem.run_pure,run_sliceAt_slice w T _ _ _ _ hT',hr,Result.andThen_ok,Int.toNat_natCast,sliced]
 rw[if_neg (by omega),Addr.add_mid,Nat.mul_one]
theorem tJ {T e n N c g off:Nat}{x y:Operand}(ho:o.op=.slice T x none (some y) none)(hT:P.underlying T=some (.slice e))(hs:(P.info? e).map (·.size)=some 1)
  (hx:a.eval x=.slice (some ⟨g,off,none⟩) N c) (hy:a.eval y=.int .i64 (n:Int)) (hn:n<=c):(execOp a.eval o).run P w=.ok (.value (.slice (some ⟨g,off,none⟩) n c)) w:=by
 obtain⟨d,hd,hd1⟩:=Option.map_eq_some_iff.1 hs
 have he:=jQ hT
 have hT':P.underlying T=some (.slice (P.elem T)):=by rw[he];exact hT
 have hr:=run_slice_h (P:=P) (w:=w) T (some ⟨g,off,none⟩) N c hT' .i64 n (by omega) (by omega)
 have hsz:(sizeOf (P.elem T)).run P w=.ok 1 w:=by simp[sizeOf,typeInfo,he,hd,hd1]
 rw[hsz] at hr
 unfold execOp
 simp only[ho,hx,hy,Option.map_some,Option.map_none,Sem.run_bind,Sem.run_pure,run_sliceAt_slice w T _ _ _ _ hT',hr,Result.andThen_ok,Int.toNat_natCast,sliced]
 split<;>simp[Addr.add]
end
theorem Sl.off {w:World}{g off:Nat}{k:IntKind}{xs:List Nat}(h:Sl w (some ⟨g,off,none⟩) k xs)(n:Nat):Sl w (some ⟨g,off+n,none⟩) k (xs.drop n):=λhn=>by
 obtain⟨g',o',he,hg,hc⟩:=h (λe=>hn (by rw[e];simp))
 injection he with he
 injection he with h1 h2 h3
 subst h1
 subst h2
 refine⟨g,off+n,rfl,hg,λi hi=>?_⟩
 rw[List.length_drop] at hi
 have h4:=hc (n+i) (by omega)
 rw[Nat.add_assoc,h4,List.getD_eq_getElem?_getD,List.getD_eq_getElem?_getD,List.getElem?_drop]
theorem oF {P:Program}{o:Oper}{a:Act}{w:World}{ops:Array Oper}{Q:Exit->Act->World->Prop}{K:Act->World->Prop}{j g i T n c:Nat}{ad:Option Addr}{x y:Operand}{u:Value}(hij:ops[j]?=some o)(hw:Region.wanted o (yielded ops a.tmps)=true)(ho:o.op=.store T x y)
  (hT:(P.info? T).map (·.size)=some 1) (hx:a.eval x=.pointer (some ⟨g,i,none⟩)) (hy:a.eval y=.slice ad n c) (hc:w.cell? ⟨g,i,none⟩=some u) (hf:w.frozen? ⟨g,i,none⟩=false) (h:K (a.put o.dst undef) (w.setCell ⟨g,i,none⟩ (.slice ad n c))):wpOp P ops Q j K a w:=by
 obtain⟨d,hd,h1⟩:=Option.map_eq_some_iff.1 hT
 have hr:(storeVar T ⟨g,i,none⟩ (.slice ad n c)).run P w=.ok () (w.setCell ⟨g,i,none⟩ (.slice ad n c)):=by
  simp[storeVar,sizeOf,typeInfo,hd,h1,Value.cells,storeCells,go_sem,hc,hf]
 unfold wpOp
 simp only[hij,hw,if_true]
 refine .inl ?_
 unfold Oper.wp execOp
 simp only[ho,hx,hy,Instr.storeAt,Instr.sureAddr,Sem.run_bind,Sem.run_pure,Result.andThen_ok,hr]
 exact h
theorem RB.grown {B:Nat}{W W':World}{v:Value}(hgr:W.grownBy W' v.ownBlock)(h:∀g,v.ownBlock=some g->g<B):RB B W W':=λg _ _ h1 h2=>h2.grown hgr (λe=>by have:=h g e.symm;omega)
theorem RB.set {B g i:Nat}(W:World)(u:Value)(hg:g<B):RB B W (W.setCell ⟨g,i,none⟩ u):=λg' _ _ h1 h2=>h2.far (p:=⟨g,i,none⟩) (show g'≠g by omega) u
section
variable {P:Program}{ops:Array Oper}{rest:List Oper}{o:Oper}{a:Act}{w:World}{Q:Exit->Act->World->Prop}
theorem sP (hgd:o.guard=none)(T:TypeId)(x:Operand)(ho:o.op=.load T x)(g:Nat)(hx:a.eval x=.pointer (some ⟨g,0,none⟩)){n t:Nat}{cs:Array Value}(hb:aA w g t cs)(ha:dG P T n)(hl:cs.size=n)
  (h:wpList P ops Q rest (a.put o.dst (.agg cs)) w):wpList P ops Q (o::rest) a w:=by
 obtain⟨⟨d,h1,hd⟩,h2⟩:=ha
 exact wpList_load_row hgd T x ho g hx t _ _ _ hb h1 (by cases d<;>first|rfl|cases hd) (by rw[hl];exact h2) h
theorem lK (hgd:o.guard=none)(T:TypeId)(x y:Operand)(ho:o.op=.store T x y)(g:Nat){n t:Nat}{cs old:Array Value}(hx:a.eval x=.pointer (some ⟨g,0,none⟩))(hy:a.eval y=.agg cs)(hb:aA w g t old)(hold:old.size=n)(ha:dG P T n)(hl:cs.size=n)(h1:cs.all (·.oneCell')=true)
  (h:wpList P ops Q rest (a.put o.dst undef) (w.setRow g cs)):wpList P ops Q (o::rest) a w :=
 wpList_store_row hgd T x y ho g _ hx hy t old hb (by rw[hl];exact ha.2) (by rw[hold,hl]) h1 h
end
end
section
open Go.RowKit
def Wi (I J Z:List Nat)(n:Nat):List Nat:=if n=0 then I else if n=1 then J else Z
theorem Ox (gk gt gb:Nat)(I J Z:List Nat)(n:Nat)(hn:n<3)(w:World)(hK:IsKey w gk gt gb I J Z) :
  Calls prog 164 #[.pointer (some ⟨gk,0,none⟩),.int .i64 (n:Int)] w λe w'=>e=.returned (.agg (ints .u8 (Wi I J Z n)))/\Below w.heap.size w w':=by
 have A0:=aA.new w 96 (ints .u8 (zeros 16))
 have hbel0:=bN w (.cells (ints .u8 (zeros 16)) 96)
 have K0:=hK.below hbel0
 have SI:=K0.si
 have SJ:=K0.sj
 have SZ:=K0.sz
 have PY:=K0.li
 have hlj:=K0.lj
 have hlz:=K0.lz
 have hnn:n=0∨n=1∨n=2:=by omega
 clear hK K0
 rcases hnn with rfl|rfl|rfl
 ·go_enter func164,ntmps164
  go_wp2_with ((first
   | (refine ae rfl 96 rfl fw ?_)
   | (refine aZ rfl (bq rfl rfl SI aD PY (rP PY)) ?_)
   | (refine aa rfl 96 _ _ rfl _ rfl rfl A0 (ah _ _) aD PY ?_));(try simp only[nn,Nat.reduceAdd]))
  refine aO rfl rfl (A0.row _) aD PY ⟨rfl,az hbel0 dM _⟩
 ·go_enter func164,ntmps164
  go_wp2_with ((first
   | (refine ae rfl 96 rfl fw ?_)
   | (refine aZ rfl (bq rfl rfl SJ aD hlj (rP hlj)) ?_)
   | (refine aa rfl 96 _ _ rfl _ rfl rfl A0 (ah _ _) aD hlj ?_));(try simp only[nn,Nat.reduceAdd]))
  refine aO rfl rfl (A0.row _) aD hlj ⟨rfl,az hbel0 dM _⟩
 ·go_enter func164,ntmps164
  go_wp2_with ((first
   | (refine ae rfl 96 rfl fw ?_)
   | (refine aZ rfl (bq rfl rfl SZ aD hlz (rP hlz)) ?_)
   | (refine aa rfl 96 _ _ rfl _ rfl rfl A0 (ah _ _) aD hlz ?_));(try simp only[nn,Nat.reduceAdd]))
  refine aO rfl rfl (A0.row _) aD hlz ⟨rfl,az hbel0 dM _⟩
def rM (I J Z:List Nat)(k:Nat):List (List Nat):=(List.range k).map λn=>Wi I J Z (n%3)
theorem EW (I J Z:List Nat)(k:Nat):(rM I J Z k).length=k:=by simp[rM]
theorem Og (I J Z:List Nat)(k:Nat):(rM I J Z k).flatten++Wi I J Z (k%3)=(rM I J Z (k+1)).flatten:=by
 unfold rM
 rw[List.range_succ,List.map_append,List.flatten_append]
 simp
theorem Lu {p:List Nat->Prop}{I J Z:List Nat}(hI:p I)(hJ:p J)(hZ:p Z)(n:Nat):p (Wi I J Z n):=by
 unfold Wi
 split
 ·exact hI
 ·split
  ·exact hJ
  ·exact hZ
theorem EX {p:List Nat->Prop}{I J Z:List Nat}(hI:p I)(hJ:p J)(hZ:p Z)(n:Nat):∀k∈rM I J Z n,p k:=λk hk=>by
 unfold rM at hk
 obtain⟨i,-,rfl⟩:=List.mem_map.1 hk
 exact Lu hI hJ hZ _
def eM (I J Z:List Nat)(i:Nat)(x:List Nat):List Nat:=jN (dW 255) (dR x [ik Z i]) (rM I J Z 10)
theorem yH (I J Z:List Nat)(i:Nat){x:List Nat}(hx:x.length=16):(eM I J Z i x).length=16:=kz _ _ _ (fC _ _ hx)
theorem Gz (I J Z:List Nat)(i:Nat){x:List Nat}(hx:∀y∈x,y<256):∀y∈eM I J Z i x,y<256:=nE _ _ _ (dE _ _ hx (kT (qy _ _)))
theorem Tryz.aaA:(prog.info? 96).map (λi=>(i.zero,i.size,i.bytes))=some (some (.agg (ints .u8 (zeros 16))),16,16):=by kernel_rfl
theorem Dm (gk gt gb:Nat)(I J Z x:List Nat)(i:Nat)(hi:i<2^31)(hx:x.length=16)(hxb:∀y∈x,y<256)(w:World)(hK:IsKey w gk gt gb I J Z) :
  Calls prog 180 #[.pointer (some ⟨gk,0,none⟩),.int .i64 (-1),.int .i64 (i:Int),.agg (ints .u8 x)] w λe w'=>e=.returned (.agg (ints .u8 (eM I J Z i x)))/\Below w.heap.size w w':=by
 have hd2:decide ((i:Int)<0)=false:=by simp
 have hwi:IntKind.u64.wrap (i:Int)=(i:Int):=by rw[IntKind.wrap_u64];omega
 have A0:=(aA.new w 96 (ints .u8 x)).alloc (.cells (ints .u8 (zeros 16)) 96)
 have A1:=aA.new (w.alloc (.cells (ints .u8 x) 96)) 96 (ints .u8 (zeros 16))
 rw[World.size_alloc] at A1
 have hbel0:=(bN w (.cells (ints .u8 x) 96)).alloc (by simp) (.cells (ints .u8 (zeros 16)) 96)
 have hz2:w.heap.size+2<=((w.alloc (.cells (ints .u8 x) 96)).alloc (.cells (ints .u8 (zeros 16)) 96)).heap.size:=by simp
 go_enter func180,ntmps180
 go_wp2_with ((first|(refine ae rfl 96 rfl fw ?_));(try simp only[nn,Nat.reduceAdd]))
 generalize ((w.alloc (.cells (ints .u8 x) 96)).alloc (.cells (ints .u8 (zeros 16)) 96))=w0 at *
 go_loopw [9,50] (λv t wr=>∃k:Nat,k<=10/\t=.int .i64 k/\dD wr (w.heap.size+2) 96 16 .u8 v k (rM I J Z k).flatten/\aA wr w.heap.size 96 (ints .u8 x)/\aA wr (w.heap.size+1) 96 (ints .u8 (zeros 16))/\w.heap.size+2<=wr.heap.size/\Below w.heap.size w wr) (λv t wr=>10-(intOf t).toNat)
 case atStart=>exact⟨0,by omega,rfl,dD.nil _ _ _ _ _,A0,A1,hz2,hbel0⟩
 case round =>
  clear A0 A1 hbel0 hz2
  obtain⟨k,hk,rfl,O,A0,A1,hz2,bH⟩:=hrel
  by_cases hlt:k<10
  ·have hd0:decide ((k:Int)<10)=true:=by simp;omega
   have hm:(k:Int)%3=((k%3:Nat):Int):=by omega
   have hpt:=Ox gk gt gb I J Z (k%3) (by omega) _ (hK.below bH)
   have hpl:(Wi I J Z (k%3)).length=16:=Lu (p:=λx=>x.length=16) hK.li hK.lj hK.lz _
   have HS:Hid ((rM I J Z k).flatten++Wi I J Z (k%3)=(rM I J Z (k+1)).flatten):=aR (Og I J Z k)
   obtain⟨m,Hm⟩:=bD (k%3)
   rw[Hm.out] at hm hpt hpl HS
   have hbs:=λW=>Dz (Wi I J Z m) hpl W
   rw[List.flatten_singleton] at hbs
   generalize Wi I J Z m=X at *
   clear Hm
   go_wp2_with fail
   refine hpt.mono ?_
   clear hpt
   rintro e w1 ⟨rfl,hb1⟩
   have O1:=O.below hb1
   have aK:=bC bH hb1
   have C0:=A0.below' hb1
   have C1:=A1.below' hb1
   have hzz:=hb1.size
   have afk:=bN w1 (.cells (ints .u8 X) 96)
   have O2:=O1.below afk
   have aB:=bC aK afk
   have D0:=C0.below' afk
   have D1:=C1.below' afk
   have S1:=Sl.blk (aA.new w1 96 (ints .u8 X))
   have hz3:w.heap.size+2<=(w1.alloc (.cells (ints .u8 X) 96)).heap.size:=by simp;omega
   clear O O1 A0 A1 C0 C1 aK hb1 bH afk
   go_wp2_with ((first
    | (refine fP rfl (nD (u0:=.agg (ints .u8 X)) rfl rfl (hbs w1)) ?_;(generalize (w1.alloc (.cells (ints .u8 X) 96))=w2 at *))
    | (at_builtin;refine iR rfl rfl underlying121 aaA (ah _ _) (by decide) (by decide) rfl O2 rfl hpl S1 (by omega) hz3 ?_;(intro v' w3 O3 hgr);(have E0:=D0.grown hgr (λe1=>by have:=O2.afX _ e1.symm;omega));(have E1:=D1.grown hgr (λe1=>by have:=O2.afX _ e1.symm;omega));(have aG:=O2.gI aB hgr aB.size (by omega));(have hz4:w.heap.size+2<=w3.heap.size:=Nat.le_trans hz3 hgr.size);(rw[HS.out] at O3)));(try simp only[nn,Nat.reduceAdd]))
   exact⟨⟨k+1,by omega,by go_num,O3,E0,E1,hz4,aG⟩,by simp[intOf]<;>omega⟩
  ·obtain rfl:k=10:=by omega
   have hd0:decide (((10:Nat):Int)<10)=false:=by simp
   go_wp2_with fail
   have K0:=hK.below bH
   have SZ:=K0.sz
   have kt:=K0.t_
   have hlz:=K0.lz
   have hgl:=K0.blk.lt
   obtain⟨gv,cv,rfl,hgv,-,SV,-⟩:=O.sl2 (by decide)
   have gq:=pz Z i
   have hmb:=qy Z i
   have hs1:=fC [ik Z i] x hx
   have hs2:=dE [ik Z i] x hxb (kT (p:=λk=>∀y∈k,y<256) hmb)
   have hmu:=λW=>rQ i Z (by omega) hlz K0.bz W
   change ∀W,Calls prog 193 #[.int .u64 i,.agg (ints .u8 Z)] W λe w'=>e=.returned (.agg (ints .u8 (ik Z i)))/\Below W.heap.size W w' at hmu
   have hpl:=λg W (s:Sl W (some ⟨g,0,none⟩) .u8 [ik Z i].flatten)=>yE g 1 x [ik Z i] hx hxb (kT (p:=λk=>k.length=16) gq) (kT (p:=λk=>∀y∈k,y<256) hmb) (show 1<2^31 by decide) W s
   have hbs:=λW=>Dz (ik Z i) gq W
   have hEl:=yH I J Z i hx
   have HE:Hid (eM I J Z i x=jN (dW 255) (dR x [ik Z i]) (rM I J Z 10)):=aR rfl
   have hrd:=λW (tb:ng W gt gb (dW 255) 1024) (s:Sl W (some ⟨gv,0,none⟩) .u8 (rM I J Z 10).flatten)=>ES gt gb gv (dW 255) (dR x [ik Z i]) (rM I J Z 10) (gH 255) hs1 hs2 (EX (p:=λk=>k.length=16) K0.li K0.lj K0.lz _) (EX (p:=λk=>∀y∈k,y<256) K0.bi K0.bj K0.bz _) (by rw[EW];decide) W tb s cv
   rw[EW,←HE.out] at hrd
   have hfl:[ik Z i].flatten.length=16:=by rw[List.flatten_singleton];exact gq
   obtain⟨E,HE2⟩:=bD (eM I J Z i x)
   rw[HE2.out] at hrd hEl HE
   generalize dR x [ik Z i]=X at *
   generalize ik Z i=M at *
   generalize (rM I J Z 10).flatten=PT at *
   clear O HE
   have aI:=oJ (S:=(zy wr (w.heap.size+1) (ints .u8 E))) (λk e W W' h hb=>zy.lN k e W W' h hb)
   refine aS (n:=77) (T:=?_) [(61,.pointer (some ⟨gk,0,none⟩)),(62,.pointer (some ⟨gk,0,none⟩)),(63,.pointer (some ⟨gk,0,none⟩)),(64,.pointer (some ⟨gt,0,none⟩)),(65,.agg (ints .u8 x)),(66,.int .i64 (i:Int)),(67,.int .u64 (i:Int)),(68,.pointer (some ⟨gk,0,none⟩)),(69,.pointer (some ⟨gk,0,none⟩)),(70,.pointer (some ⟨gk,33,none⟩)),(71,.agg (ints .u8 Z)),(72,.agg (ints .u8 M)),(74,.agg (ints .u8 X)),(75,.slice (some ⟨gv,0,none⟩) 10 cv),(76,.agg (ints .u8 E))] [73] (λs W u=>(s=73->NS wr.heap.size 96 1 (ints .u8 [M].flatten) W u)) (RB wr.heap.size) [16] _ aI (by kernel_rfl) (by kernel_rfl) rfl (by kernel_rfl) (by kernel_rfl) (by kernel_rfl) (λs W W' v hR h=>λe=>(λh hR=>h.rb hR) (h e) hR) (zy.start _ _ _ _) ?_ ?_ ?_ ?_
   rotate_left
   ·intro e;simp only[tv,nn,Nat.reduceAdd];exact rfl
   ·exact λe=>rfl
   ·intro i o il k qB hst e W hS hla
    rcases i with _|_|_|_|_|_|_|_|_|_|_|_|_|_|_|_|_|i<;>try cases il
    ·exact kv 61 rfl rfl rfl rfl rfl rfl (RB.refl _ _) hS
    ·exact kv 62 rfl rfl (by kernel_rfl) rfl rfl rfl (RB.refl _ _) hS
    ·exact kv 63 rfl rfl (by kernel_rfl) rfl rfl rfl (RB.refl _ _) hS
    ·obtain rfl:k=0:=Nat.le_zero.1 (aQ hst 0 16 rfl (by kernel_rfl))
     exact kv 64 rfl rfl (dH rfl rfl underlying41 ((hS.z.cell (p:=⟨_,_,none⟩) hgl).trans kt)) rfl rfl rfl (RB.refl _ _) hS
    ·obtain rfl:k=0:=Nat.le_zero.1 (aQ hst 0 16 rfl (by kernel_rfl))
     refine bf rfl rfl rfl rfl (A0.below' hS.z) aD hx ?_
     exact KL.at_ 65 rfl rfl rfl (RB.refl _ _) hS
    ·exact kv 66 rfl rfl rfl rfl rfl rfl (RB.refl _ _) hS
    ·exact kv 67 rfl rfl (oM rfl underlying3 underlying106 rfl hwi) rfl rfl rfl (RB.refl _ _) hS
    ·exact kv 68 rfl rfl rfl rfl rfl rfl (RB.refl _ _) hS
    ·exact kv 69 rfl rfl (by kernel_rfl) rfl rfl rfl (RB.refl _ _) hS
    ·exact kv 70 rfl rfl (by kernel_rfl) rfl rfl rfl (RB.refl _ _) hS
    ·obtain rfl:k=0:=Nat.le_zero.1 (aQ hst 0 16 rfl (by kernel_rfl))
     exact kv 71 rfl rfl (bq rfl rfl (SZ.below hS.z) aD hlz (rP hlz)) rfl rfl rfl (RB.refl _ _) hS
    ·exact kc 72 193 rfl rfl rfl func193 (hmu W) rfl rfl rfl (λ_ hW'=>(RB.below hW')) λ_ hW'=>aI k e _ _ hS hW'
    ·obtain rfl:k=0:=Nat.le_zero.1 (aQ hst 0 16 rfl (by kernel_rfl))
     refine cz rfl rfl (nD (u0:=.agg (ints .u8 M)) rfl rfl (hbs W)) ?_
     exact KL.lt 73 rfl rfl (λ_=>(⟨W.heap.size,rfl,hS.z.size,aA.new _ _ _⟩)) (RB.below (bN _ _)) (aI _ _ _ _ hS (bN _ _))
    ·obtain⟨g,hg,hgB,pM⟩:=((hla 73 rfl (by kernel_rfl)) rfl);refine aV 191 rfl rfl rfl func191 (by kernel_rfl) (by kernel_rfl) (by show Calls _ _ #[.agg (ints .u8 x),e 73] W _;rw[hg];exact hpl g W (Sl.blk pM)) ?_;intro W' hW'
     exact KL.at_ 74 rfl rfl rfl (RB.below hW') (aI k e _ _ hS hW')
    ·exact kv 75 rfl rfl rfl rfl rfl rfl (RB.refl _ _) hS
    ·obtain rfl:k=0:=Nat.le_zero.1 (aQ hst 0 16 rfl (by kernel_rfl))
     exact kc 76 50 rfl rfl rfl func50 (hrd W (K0.tab.1.below hS.z) (SV.below hS.z)) rfl rfl rfl (λ_ hW'=>(RB.below hW')) λ_ hW'=>aI 0 e _ _ hS hW'
    ·obtain rfl:k=0:=Nat.le_zero.1 (aQ hst 0 16 rfl (by kernel_rfl))
     refine bJ rfl rfl rfl rfl rfl (A1.below' hS.z) (ah _ _) aD hEl ?_
     exact KL.none rfl ((RB.row _ _ A1.lt)) (zy.mk hS)
   ·intro e W hS hla
    have l73:=(hla 73 rfl) rfl
    clear hla aI
    have Z1:=hS.blk A1
    have aK:=hS.je bH (by omega) dM
    clear hS
    go_wp2_with fail
    refine aO rfl rfl Z1 aD hEl ⟨by rw[HE2.out],aK⟩
end
end Go.Proofs.YtaiffkajkbiidaaGreatDoor
