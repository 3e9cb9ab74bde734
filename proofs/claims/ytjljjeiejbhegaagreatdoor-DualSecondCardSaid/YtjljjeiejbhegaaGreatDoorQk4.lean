/- Laws of this claim, part 5. -/
import Derived.Test.YtjljjeiejbhegaaGreatDoorQk0
import Derived.Test.YtjljjeiejbhegaaGreatDoorQk1
import Derived.Test.YtjljjeiejbhegaaGreatDoorQk2
import Derived.Test.YtjljjeiejbhegaaGreatDoorQk3
set_option maxRecDepth 100000
set_option maxHeartbeats 4000000
namespace Go.Proofs.YtjljjeiejbhegaaGreatDoor
open _root_.Array renaming getElem?_append_left -> ub, getElem?_eq_some_iff -> i2, getElem?_push_size -> e6, getElem?_setIfInBounds_ne -> la, getElem?_setIfInBounds_self_of_lt -> Bs, size_setIfInBounds -> PA
open Bool renaming noConfusion -> O8
open Int renaming mul_ne_zero -> OU, mul_pow -> Pj, natAbs_add_le -> OM, natAbs_mul -> Om, natAbs_neg -> ON, natAbs_pow -> Pg, one_mul -> Ps, pow_add -> Pk, pow_succ -> Pf, pow_zero -> Pr, sign_eq_neg_one_iff_neg -> Px, sign_eq_zero_iff_zero -> O7, sign_trichotomy -> Pc
open List renaming cons_append -> MR, ext_getElem -> O1, getD_eq_getElem?_getD -> Nc, getElem?_eq_getElem -> O5, getElem?_eq_some_iff -> NN, getElem?_map -> Nq, getElem?_set -> PB, getElem?_zipIdx -> PF, getElem_map -> vl, getElem_mem -> gg, length_append -> zY, length_cons -> uA, length_map -> PH, length_nil -> Pb, length_replicate -> O4, length_set -> NI, length_singleton -> O6, map_cons -> A7, mem_cons -> hC, mem_iff_getElem? -> PE, mem_map -> g3, mem_singleton -> ti, mergeSort_perm -> PI, range -> o2, replicate -> Af, set_eq_of_length_le -> Pd, size_toArray -> PG, toArray -> Oj
open Nat renaming add_le_add -> Pp, add_zero -> y5, le_mul_of_pos_left -> Oh, le_of_lt -> Ok, le_refl -> ek, le_trans -> ep, lt_of_le_of_lt -> H1, lt_succ_self -> Pe, min_eq_right -> Nm, mul_comm -> MQ, mul_le_mul -> NF, mul_le_mul_left -> M5, mul_le_mul_right -> z7, mul_left_comm -> Pz, mul_pos -> NC, mul_pow -> Pi, not_lt_zero -> O9, one_le_two_pow -> Pv, pow_add -> M4, pow_le_pow_left -> Ph, pow_le_pow_right -> M1, pow_mul -> M7, pow_one -> Pu, pow_succ -> MP, pow_two -> Pw, succ_lt_succ -> PD, succ_mul -> zh, succ_ne_zero -> Pa, succ_pos -> N0, two_pow_pos -> M0, zero_add -> z6, zero_le -> NY
open Rat renaming add_mul -> Pl, intCast_add -> Pm, intCast_mul -> Pn, intCast_neg -> Pq, mul_assoc -> Pt, num_eq_zero -> OW, num_nonneg -> Py
open Go.RowKit
open Go.RowKit Go.Shelf
def fu (xs ys:List Rat)(i:Nat):Nat->Rat
  | 0=>((0:Int):Rat)
  | j+1=>fu xs ys i j+xs.getD j 0*ys.getD (i-j) 0
def fg (xs ys os:List Rat)(i:Nat):Nat->Rat
  | 0=>xs.getD i 0
  | j+1=>fg xs ys os i j-os.getD j 0*ys.getD (i-j) 0
def dK (xs ys:List Rat):Nat->List Rat
  | 0=>[]
  | k+1=>dK xs ys k++[fg xs ys (dK xs ys k) k k/ys.getD 0 0]
theorem iY (xs ys):∀ k,(dK xs ys k).length=k
 | 0=>rfl
 | k+1=>by show (dK xs ys k++[_]).length=_;rw[zY,iY xs ys k];rfl
theorem xe (q d c1 e i)(J:(lim (ab q.num)).length<=c1)(H:(lim q.den).length<=i)(n)(hn:n<=1000)(w h)(g:G w h)(F:S3 d (lim (ab q.num)) h)(L:S3 e (lim q.den) h):CR 71 #[rG q d c1 e i,nV n] w h (fun v h1=>∃ A c C,v=.slice A (C:List RT).length c/\C.length<=c/\Sr A C h1/\RTs h1 C (q::Af n ((0:Int):Rat))):=by
 have a:=(((sS g).aS F).aS L);refine go Tryz.func71 [(0,rG q d c1 e i),(1,nV n)] rfl (aA (lA 2 28 (iT q d c1 e i) a (fun b1 w2 h3 a=>lL a ac (aG (lL a [.o (rG q d c1 e i) 0 0 3] (Jg 7 28 3 eA ([((af q.num,qS d ((lim (ab q.num)).length) c1,qS e ((lim q.den).length) i):RT)]:List RT) a (fun O w5 W a=>lL a ac (ag (kZ ?_)))))))));replace a:=a.aT ((RTs.snoc RTs.nil (lZ J H a.f.2.1 a.f.1)));refine bH _ (CG.loop (fun I Γ V=>∃ (m:Nat)(p:Z9)(j:Nat)(tl:List RT)(h_:Hp),I=n-m/\Γ=[(1,nV n),(4,sZ),(5,qS p ((tl).length) j)]/\SS w h V h_ [⟨b1,28,iT q d c1 e i⟩] [⟨28,3,p,j,(tl).length,(tl).flatMap eA⟩] [Rt tl (q::Af m ((0:Int):Rat)),S3 e (lim q.den),S3 d (lim (ab q.num))]/\m<=n) _ ⟨0,sB O,(([((af q.num,qS d ((lim (ab q.num)).length) c1,qS e ((lim q.den).length) i):RT)]:List RT)).length,([((af q.num,qS d ((lim (ab q.num)).length) c1,qS e ((lim q.den).length) i):RT)]:List RT),W,rfl,rfl,a.to _ _,NY _⟩ ?_);rintro _ _ w9 ⟨m,p,j,tl,_,M,rfl,a,hm⟩;have D:=(a.f.1).len;rw[uA,O4] at D
 refine cQ (aa a [.c,.v (nV ((tl).length)),.c] ?_);cases z:(decide ((((tl).length:Nat):Int)<=(n:Int)))
 .
  have Y:=oF z;refine lB 11 z (ah (CG.exit ?_))
  show CG _ _ _ _ _ _ _ _
  refine aa a ax (lN (kX ?_));obtain ⟨_,a,S⟩:=a.pubr 0 (A:=p) (c:=j) (l:=tl) (f:=eA) (ty:=28) (sz:=3) gV (fun _=>rfl);exact a.ret [] (qS p ((tl).length) j) (by rw[show n=m by omega];exact ⟨_,_,tl,rfl,S,a.f.1,a.f.2.1⟩)
 have Y:=oT z;refine lB 11 z (ak (cK (kZ (kQ (lL a ac (lC 13 a (ud 0 oM oM _ _ a.g) ?_))))));rintro _ _ _ a ⟨B,u,y,x,rfl,Z,zj,X,zl⟩;replace a:=a.aP X zl;refine lR 14 28 1 (iT ((0:Int):Rat) B u y x) a (fun zm _ _ a=>lY 15 0 28 3 j p tl eA ((af ((0:Int):Rat).num,qS B ((lim (ab ((0:Int):Rat).num)).length) u,qS y ((lim ((0:Int):Rat).den).length) x):RT) 56 zm (.agg #[qF,sZ,sZ]) a a.f.1 (fun Q zo _ zp a=>lL a ac (lD ?_)));intro a_ U;replace a:=(a.tl.tl.tl.tl.add (K:=Rt (tl++[((af ((0:Int):Rat).num,qS B ((lim (ab ((0:Int):Rat).num)).length) u,qS y ((lim ((0:Int):Rat).den).length) x):RT)]) (q::Af (m+1) ((0:Int):Rat))) (by rw[List.replicate_succ',<-MR];exact (a.f.r.2.1).snoc (lZ Z zj a.f.r.1 a.f.2.1)));refine ⟨_,_,?_,⟨m+1,Q,zo,tl++[((af ((0:Int):Rat).num,qS B ((lim (ab ((0:Int):Rat).num)).length) u,qS y ((lim ((0:Int):Rat).den).length) x):RT)],zp,rfl,rfl,a.to _ _,oM⟩,U.to _ kR⟩
 omega
def oc (op n:Int)(a b:Rat):Int:=if xn op n a b then (if Dl op a b then 7 else 0) else 6
theorem i1:((1:Int):Rat)=1:=rfl
theorem i0:((0:Int):Rat)=0:=rfl
theorem Mg:((-1:Int):Rat) = -1:=rfl
def MK (z:Nat)(l:List Stp):Prop:=∀ k,k<l.length->(l.getD k fA).op=8->(k=z -> -12<=(l.getD k fA).n/\(l.getD k fA).n<=12)/\(k≠z -> -1<=(l.getD k fA).n/\(l.getD k fA).n<=2)
def mL (n j:Nat):List Rat:=(Af n (0:Rat)).set j ((1:Int):Rat)
theorem Br {α:Type}{l:List α}{i:Nat}{d:α}(h:i<l.length):l.getD i d∈l:=by
 rw[Nc,O5 h];exact gg h
theorem wQ {α:Type}{l:List α}{i:Nat}{d:α}(h:l.length<=i):l.getD i d=d:=by
 rw[Nc,List.getElem?_eq_none h];rfl
def bA (s:ByteArray):List Value:=[.string s]
inductive Tm where
  | mk (op n:Int) (q:Rat) (s:ByteArray) (ks:List Tm)
def Tm.op:Tm->Int|.mk op _ _ _ _=>op
def Tm.n:Tm->Int|.mk _ n _ _ _=>n
def Tm.q:Tm->Rat|.mk _ _ q _ _=>q
def Tm.s:Tm->ByteArray|.mk _ _ _ s _=>s
def Tm.ks:Tm->List Tm|.mk _ _ _ _ ks=>ks
def di:Tm:=.mk 0 0 0 ⟨#[]⟩ []
structure PTm where
  op:Int
  n:Int
  q:Rat
  s:ByteArray
  A:Z9
  m:Nat
  c:Nat
abbrev pX (p:PTm):Value:=.agg #[iV p.op,iV p.n,.bool (af p.q.num),uV (lo (ab p.q.num)),.string (hi (ab p.q.num)),uV (lo (qd p.q)),.string (hi (qd p.q)),.string p.s,.slice p.A p.m p.c]
abbrev pC (p:PTm):List Value:=[iV p.op,iV p.n,.bool (af p.q.num),uV (lo (ab p.q.num)),.string (hi (ab p.q.num)),uV (lo (qd p.q)),.string (hi (qd p.q)),.string p.s,.slice p.A p.m p.c]
abbrev pW (o n:Int)(q:Rat)(s:ByteArray)(A:Z9)(m c:Nat):Value:=.agg #[iV o,iV n,.bool (af q.num),uV (lo (ab q.num)),.string (hi (ab q.num)),uV (lo (qd q)),.string (hi (qd q)),.string s,.slice A m c]
abbrev pG (o n:Int)(q:Rat)(s:ByteArray)(A:Z9)(m c:Nat):List Value:=[iV o,iV n,.bool (af q.num),uV (lo (ab q.num)),.string (hi (ab q.num)),uV (lo (qd q)),.string (hi (qd q)),.string s,.slice A m c]
def cM:PTm:=⟨0,0,0,⟨#[]⟩,none,0,0⟩
def dd (p:PTm):List Value:=[.int .i64 p.op,.int .i64 p.n,.bool (af p.q.num),.int .u64 (lo (ab p.q.num)),.string (hi (ab p.q.num)),.int .u64 (lo (qd p.q)),.string (hi (qd p.q)),.string p.s,.slice p.A p.m p.c]
def bW (p:PTm):Value:=.agg #[.int .i64 p.op,.int .i64 p.n,.bool (af p.q.num),.int .u64 (lo (ab p.q.num)),.string (hi (ab p.q.num)),.int .u64 (lo (qd p.q)),.string (hi (qd p.q)),.string p.s,.slice p.A p.m p.c]
def TmH:Nat->Hp->PTm->Tm->Prop
  | 0,_,_,_=>False
  | d+1,h,p,t=>p.op=t.op/\p.n=t.n/\p.q=t.q/\p.s=t.s/\p.m=t.ks.length/\p.m<=p.c/\∃ ps:List PTm,ps.length=t.ks.length/\SlO 9 dd cM h p.A ps/\∀ i,i<t.ks.length->TmH d h (ps.getD i cM) (t.ks.getD i di)
theorem TmH.gw:∀ {d:Nat} {h a:Hp} {p:PTm} {t:Tm},TmH d h p t->Gw h a->TmH d a p t
 | 0,_,_,_,_,x,_=>x
 | d+1,_,_,_,_,⟨h1,h2,h3,h4,h5,h6,ps,h7,h8,h9⟩,u=>⟨h1,h2,h3,h4,h5,h6,ps,h7,h8.gw u,fun i hi=>TmH.gw (h9 i hi) u⟩
theorem TmH.mono {h:Hp}:∀ {d e:Nat} {p:PTm} {t:Tm},TmH d h p t->d<=e->TmH e h p t
 | d+1,e+1,_,_,⟨h1,h2,h3,h4,h5,h6,ps,h7,h8,h9⟩,u=>⟨h1,h2,h3,h4,h5,h6,ps,h7,h8,fun i hi=>TmH.mono (h9 i hi) oM⟩
structure RTm where
  op:Int
  n:Int
  neg:Bool
  zA:Z9
  zn:Nat
  zc:Nat
  dA:Z9
  dn:Nat
  dc:Nat
  s:ByteArray
  A:Z9
  m:Nat
  c:Nat
def RTm.t (r:RTm):RT:=(r.neg,.slice r.zA r.zn r.zc,.slice r.dA r.dn r.dc)
def bX:RTm:=⟨0,0,false,none,0,0,none,0,0,⟨#[]⟩,none,0,0⟩
def bJ (r:RTm):List Value:=[.int .i64 r.op,.int .i64 r.n,.bool r.neg,.slice r.zA r.zn r.zc,.slice r.dA r.dn r.dc,.string r.s,.slice r.A r.m r.c]
def bO (r:RTm):Value:=.agg #[.int .i64 r.op,.int .i64 r.n,.bool r.neg,.slice r.zA r.zn r.zc,.slice r.dA r.dn r.dc,.string r.s,.slice r.A r.m r.c]
def RZ (h:Hp)(t:RT)(q:Rat):Prop:=∃ has:Bool,RP h (wA t) q.num (if has then q.den else 0)/\(has=false->q=0)
theorem RZ.gw {h a:Hp}{t:RT}{q:Rat}(x:RZ h t q)(u:Gw h a):RZ a t q:=by
 obtain ⟨d,h1,c⟩:=x;exact ⟨d,h1.gw u,c⟩
def RmH:Nat->Hp->RTm->Tm->Prop
  | 0,_,_,_=>False
  | d+1,h,r,t=>r.op=t.op/\r.n=t.n/\RZ h r.t t.q/\r.s=t.s/\r.m=t.ks.length/\r.m<=r.c/\∃ rs:List RTm,rs.length=t.ks.length/\SlO 7 bJ bX h r.A rs/\∀ i,i<t.ks.length->RmH d h (rs.getD i bX) (t.ks.getD i di)
theorem HM {h:Hp}{b:Bool}{y o:Z9}{j i f u:Nat}{q:Rat}(x:RZ h (b,.slice y j i,.slice o f u) q)(p:0<f):RP h (.agg #[.bool b,.slice y j i,.slice o f u]) q.num q.den:=by
 obtain ⟨z,h1,B⟩:=x;cases z
 ·obtain ⟨A,c,D,d,e,C,H,F,I⟩:=h1
  injection e with e;have l:=congrArg (fun a:Array Value=>a.toList) e
  simp at l;have:f=(lim 0).length:=l.2.2.2.1;have h0:(lim 0).length=0:=by have:=@bV 0;omega
  omega
 ·exact h1
theorem KN {h:Hp}{b:Bool}{u o:Z9}{l i p:Nat}{q:Rat}(x:RZ h (b,.slice u l i,.slice o 0 p) q):q=0:=by
 obtain ⟨y,h1,j⟩:=x;cases y
 ·exact j rfl
 ·obtain ⟨A,c,D,d,e,B,H,F,I⟩:=h1
  injection e with e;have f:=congrArg (fun a:Array Value=>a.toList) e
  simp at f;have C:0=(lim q.den).length:=f.2.2.2.1;have z:=(@bV q.den).2 q.den_pos
  omega
theorem RmH.gw:∀ {d:Nat} {h a:Hp} {r:RTm} {t:Tm},RmH d h r t->Gw h a->RmH d a r t
 | 0,_,_,_,_,x,_=>x
 | d+1,_,_,_,_,⟨h1,h2,h3,h4,h5,h6,ps,h7,h8,h9⟩,u=>⟨h1,h2,h3.gw u,h4,h5,h6,ps,h7,h8.gw u,fun i hi=>RmH.gw (h9 i hi) u⟩
structure Tms (d:Nat) (h:Hp) (ps:List PTm) (ts:List Tm):Prop where
  len:ps.length=ts.length
  at_:∀ i,i<ts.length->TmH d h (ps.getD i cM) (ts.getD i di)
theorem Tms.gw {d:Nat}{h a:Hp}{ps:List PTm}{c:List Tm}(x:Tms d h ps c)(u:Gw h a):Tms d a ps c:=⟨x.len,fun i hi=>(x.at_ i hi).gw u⟩
structure Rms (d:Nat) (h:Hp) (rs:List RTm) (ts:List Tm):Prop where
  len:rs.length=ts.length
  at_:∀ i,i<ts.length->RmH d h (rs.getD i bX) (ts.getD i di)
theorem Rms.gw {d:Nat}{h a:Hp}{e:List RTm}{c:List Tm}(x:Rms d h e c)(u:Gw h a):Rms d a e c:=⟨x.len,fun i hi=>(x.at_ i hi).gw u⟩
theorem Rms.nil {d:Nat}{h:Hp}:Rms d h [] []:=⟨rfl,fun i hi=>by simp at hi⟩
theorem Rms.snoc {d:Nat}{h:Hp}{c:List RTm}{a:List Tm}{r:RTm}{t:Tm}(x:Rms d h c a)(y:RmH d h r t):Rms d h (c++[r]) (a++[t]):=by
 refine ⟨by simp[x.len],fun i hi=>?_⟩;rw[zY,O6] at hi
 rw[dW,dW,x.len];by_cases e:i<a.length
 ·rw[if_pos e,if_pos e];exact x.at_ i e
 ·rw[if_neg e,if_neg e,if_pos oM,if_pos oM];exact y
theorem Tms.nil {d:Nat}{h:Hp}:Tms d h [] []:=⟨rfl,fun i hi=>by simp at hi⟩
theorem Tms.snoc {d:Nat}{h:Hp}{c:List PTm}{a:List Tm}{r:PTm}{t:Tm}(x:Tms d h c a)(y:TmH d h r t):Tms d h (c++[r]) (a++[t]):=by
 refine ⟨by simp[x.len],fun i hi=>?_⟩;rw[zY,O6] at hi
 rw[dW,dW,x.len];by_cases e:i<a.length
 ·rw[if_pos e,if_pos e];exact x.at_ i e
 ·rw[if_neg e,if_neg e,if_pos oM,if_pos oM];exact y
theorem TmH.mk {d:Nat}{h:Hp}{op n:Int}{q:Rat}{s:ByteArray}{A:Z9}{c:Nat}{ps:List PTm}{ks:List Tm}(x:Tms d h ps ks)(a:ps.length<=c)(e:SlO 9 dd cM h A ps):TmH (d+1) h ⟨op,n,q,s,A,ps.length,c⟩ (.mk op n q s ks) :=
 ⟨rfl,rfl,rfl,rfl,x.len,a,ps,x.len,e,x.at_⟩
theorem RmH.mk {d:Nat}{h:Hp}{op n:Int}{b:Bool}{l f:Z9}{e a j i:Nat}{q:Rat}{s:ByteArray}{A:Z9}{c:Nat}{ps:List RTm}{ks:List Tm}(z:RZ h (b,.slice l e a,.slice f j i) q)(x:Rms d h ps ks)(o:ps.length<=c)(p:SlO 7 bJ bX h A ps):RmH (d+1) h ⟨op,n,b,l,e,a,f,j,i,s,A,ps.length,c⟩ (.mk op n q s ks) :=
 ⟨rfl,rfl,z,rfl,x.len,o,ps,x.len,p,x.at_⟩
theorem TmH.open {d:Nat}{h:Hp}{p:PTm}{t:Tm}(x:TmH (d+1) h p t):∃ op n q s A c,∃ ps:List PTm,∃ ks:List Tm,p=⟨op,n,q,s,A,ps.length,c⟩/\t=.mk op n q s ks/\ps.length<=c/\SlO 9 dd cM h A ps/\Tms d h ps ks:=by
  obtain ⟨op,n,q,s,A,m,c⟩:=p;cases t with
  | mk vB n2 q2 s2 ks =>
    obtain ⟨h1,f,o,e,u,l,ps,a,i,j⟩:=x;obtain rfl:op=vB:=h1;obtain rfl:n=n2:=f;obtain rfl:q=q2:=o;obtain rfl:s=s2:=e;obtain rfl:m=ps.length:=(show m=ks.length from u).trans a.symm;exact ⟨op,n,q,s,A,c,ps,ks,rfl,rfl,l,i,a,j⟩
theorem RmH.mono {h:Hp}{d e:Nat}{p:RTm}{t:Tm}(x:RmH d h p t)(u:d<=e):RmH e h p t:=by
  induction d generalizing e p t with
  | zero=>exact x.elim
  | succ d ih =>
    cases e with
    | zero=>omega
    | succ e =>
      obtain ⟨h1,c,y,a,z,l,ps,o,f,j⟩:=x;exact ⟨h1,c,y,a,z,l,ps,o,f,fun i hi=>ih (j i hi) oM⟩
theorem RmH.open {d:Nat}{h:Hp}{p:RTm}{t:Tm}(x:RmH (d+1) h p t):∃ op n b l e a f j i q s A c,∃ ps:List RTm,∃ ks:List Tm,p=⟨op,n,b,l,e,a,f,j,i,s,A,ps.length,c⟩/\t=.mk op n q s ks/\RZ h (b,.slice l e a,.slice f j i) q/\ps.length<=c/\SlO 7 bJ bX h A ps/\Rms d h ps ks:=by
  obtain ⟨op,n,b,l,e,a,f,j,i,s,A,m,c⟩:=p;cases t with
  | mk vB n2 q2 s2 ks =>
    obtain ⟨h1,y,D,u,F,C,ps,o,z,B⟩:=x;obtain rfl:op=vB:=h1;obtain rfl:n=n2:=y;obtain rfl:s=s2:=u;obtain rfl:m=ps.length:=(show m=ks.length from F).trans o.symm;exact ⟨op,n,b,l,e,a,f,j,i,q2,s,A,c,ps,ks,rfl,rfl,D,C,z,o,B⟩
def d9 (f:Nat->Nat):Nat->Nat
  | 0=>0
  | k+1=>d9 f k+f k
def bP (n:Int):Nat:=if n.natAbs<=1 then 1 else n.natAbs
def bL:Nat->Tm->Nat
  | 0,_=>0
  | d+1,t=>if t.ks.length=0 then 1 else (if t.op=11 then 2 else if t.op=8 then bP t.n else 1)*d9 (fun i=>bL d (t.ks.getD i di)) t.ks.length
def WfT (ok:ByteArray->Prop):Nat->Tm->Prop
  | 0,_=>False
  | d+1,t=>gQ t.op=t.ks.length/\(t.op≠1->t.q=0)/\LQ 3000 t.q/\(t.op=2->ok t.s)/\(t.op≠2->t.s=⟨#[]⟩)/\(t.op≠8->t.n=0) /\ -12<=t.n/\t.n<=12/\∀ i,i<t.ks.length->WfT ok d (t.ks.getD i di)
theorem WfT.mono {ok:ByteArray->Prop}:∀ {d e:Nat} {t:Tm},WfT ok d t->d<=e->WfT ok e t
 | d+1,e+1,_,⟨h1,h2,h3,h4,h5,h6,h7,h8,h9⟩,u=>⟨h1,h2,h3,h4,h5,h6,h7,h8,fun i hi=>WfT.mono (h9 i hi) oM⟩
def ph (sm:ByteArray->Prop):Nat->Tm->Prop
  | 0,_=>False
  | d+1,t=>t.ks.length<=3/\(-1000<=t.op/\t.op<=1000)/\(-1000<=t.n/\t.n<=1000)/\LQ 3000 t.q/\sm t.s/\∀ i,i<t.ks.length->ph sm d (t.ks.getD i di)
theorem WfT.sm {ok sm:ByteArray->Prop}(h:∀ s,ok s->sm s)(h0:sm ⟨#[]⟩):∀ {d:Nat} {t:Tm},WfT ok d t->ph sm d t
  | d+1,t,⟨h1,h2,h3,h4,h5,h6,h7,h8,h9⟩=>by
    have a:=aF t.op;refine ⟨by omega,⟨by omega,by omega⟩,⟨by omega,by omega⟩,h3,?_,fun i hi=>WfT.sm h h0 (h9 i hi)⟩
    by_cases e:t.op=2
    . exact h _ (h4 e)
    . rw[h5 e];exact h0
def WfT1 (ok:ByteArray->Prop):Nat->Tm->Prop
  | 0,_=>False
  | d+1,t=>gQ t.op=t.ks.length/\(t.op≠1->t.q=0)/\LQ 1 t.q/\(t.op=2->ok t.s)/\(t.op≠2->t.s=⟨#[]⟩)/\(t.op≠8->t.n=0) /\ -12<=t.n/\t.n<=12/\∀ i,i<t.ks.length->WfT1 ok d (t.ks.getD i di)
theorem WfT1.wf {ok:ByteArray->Prop}:∀ {d:Nat} {t:Tm},WfT1 ok d t->WfT ok d t
 | _+1,_,⟨h1,h2,h3,h4,h5,h6,h7,h8,h9⟩=>⟨h1,h2,h3.mono kD,h4,h5,h6,h7,h8,fun i hi=>WfT1.wf (h9 i hi)⟩
def SmT1 (sm:ByteArray->Prop):Nat->Tm->Prop
  | 0,_=>False
  | d+1,t=>t.ks.length<=3/\(-1000<=t.op/\t.op<=1000)/\(-1000<=t.n/\t.n<=1000)/\LQ 1 t.q/\sm t.s/\∀ i,i<t.ks.length->SmT1 sm d (t.ks.getD i di)
theorem SmT1.mono {sm:ByteArray->Prop}:∀ {d e:Nat} {t:Tm},SmT1 sm d t->d<=e->SmT1 sm e t
 | d+1,e+1,_,⟨h1,h2,h3,h4,h5,h6⟩,u=>⟨h1,h2,h3,h4,h5,fun i hi=>SmT1.mono (h6 i hi) oM⟩
theorem SmT1.sm {sm:ByteArray->Prop}:∀ {d:Nat} {t:Tm},SmT1 sm d t->ph sm d t
 | _+1,_,⟨h1,h2,h3,h4,h5,h6⟩=>⟨h1,h2,h3,h4.mono kD,h5,fun i hi=>SmT1.sm (h6 i hi)⟩
theorem WfT1.sm {ok sm:ByteArray->Prop}(h:∀ s,ok s->sm s)(h0:sm ⟨#[]⟩):∀ {d:Nat} {t:Tm},WfT1 ok d t->SmT1 sm d t
  | d+1,t,⟨h1,h2,h3,h4,h5,h6,h7,h8,h9⟩=>by
    have a:=aF t.op;refine ⟨by omega,⟨by omega,by omega⟩,⟨by omega,by omega⟩,h3,?_,fun i hi=>WfT1.sm h h0 (h9 i hi)⟩
    by_cases e:t.op=2
    . exact h _ (h4 e)
    . rw[h5 e];exact h0
def LB (isb:ByteArray->Bool)(op n:Int)(q:Rat)(s:ByteArray)(m:Nat):Prop:=gQ op=m/\(op=1\/q.num=0)/\((op=2->isb s=true)/\(op≠2->s=⟨#[]⟩))/\((op=8\/n=0) /\ -12<=n/\n<=12)
section
variable {isb:ByteArray->Bool}{d:Nat}{op n:Int}{q:Rat}{s:ByteArray}{ks:List Tm}
theorem E3 (w:WfT (fun s=>isb s=true) (d+1) (.mk op n q s ks)):LB isb op n q s ks.length:=by
 obtain ⟨h1,c,o,a,h,i,j,f,l⟩:=w;refine ⟨h1,?_,⟨a,h⟩,?_,j,f⟩
 ·by_cases e:op=1
  ·exact .inl e
  ·exact .inr (OW.2 (c e))
 ·by_cases e:op=8
  ·exact .inl e
  ·exact .inr (i e)
theorem qW (h:¬LB isb op n q s ks.length):∃ a,Value.bool false=.bool a/\(a=true↔WfT (fun s=>isb s=true) (d+1) (.mk op n q s ks)):=⟨false,rfl,fun c=>(by cases c),fun w=>absurd (E3 w) h⟩
theorem Gi {k:Nat}(hk:k<ks.length){a:Bool}(c:a=false)(h:a=true↔WfT (fun s=>isb s=true) d (ks.getD k di)):∃ e,Value.bool false=.bool e/\(e=true↔WfT (fun s=>isb s=true) (d+1) (.mk op n q s ks)):=⟨false,rfl,fun i=>(by cases i),fun ⟨_,_,_,_,_,_,_,_,f⟩=>by rw[h.2 (f k hk)] at c;cases c⟩
theorem F8 (h:LB isb op n q s ks.length)(x:LQ 3000 q)(o:∀ i,i<ks.length->WfT (fun s=>isb s=true) d (ks.getD i di)):∃ a,Value.bool true=.bool a/\(a=true↔WfT (fun s=>isb s=true) (d+1) (.mk op n q s ks)):=by
 obtain ⟨h1,f,⟨c,l⟩,p,u,j⟩:=h;refine ⟨true,rfl,fun _=>⟨h1,fun e=>OW.1 (f.resolve_left e),x,c,l,fun e=>p.resolve_left e,u,j,o⟩,fun _=>rfl⟩
end
def I8 (nm:Int->ByteArray)(l:List Stp):Nat->Nat->Tm
  | 0,_=>di
  | f+1,i =>
    if (l.getD i fA).op=2 then .mk 2 0 0 (nm (l.getD i fA).n) []
    else if gQ (l.getD i fA).op=1 then .mk (l.getD i fA).op (l.getD i fA).n 0 ⟨#[]⟩ [I8 nm l f (l.getD i fA).a.toNat]
    else if gQ (l.getD i fA).op=2 then .mk (l.getD i fA).op 0 0 ⟨#[]⟩ [I8 nm l f (l.getD i fA).a.toNat,I8 nm l f (l.getD i fA).b.toNat]
    else .mk (l.getD i fA).op 0 (l.getD i fA).q ⟨#[]⟩ []
structure MapJ (h0:Hp) (B:List Bx) (w:World) (h:Hp) (b:Nat) (es:List MapEntry) (clk:Nat):Prop where
  obj:w.heap[b]?=some (.map es.toArray clk)
  jk:h[b]?=some bp
  lo:h0.size<=b
  nb:∀ x∈B,x.b≠b
def MapS (h:Hp)(b:Nat)(es:List MapEntry):Prop:=∃ clk,h[b]?=some (.map es.toArray clk)
theorem MapS.gw {h a:Hp}{b:Nat}{d:List MapEntry}(x:MapS h b d)(u:Gw h a):MapS a b d:=by
 obtain ⟨c,e⟩:=x;refine ⟨c,?_⟩
 rcases u.blk b (aW e) with k|k
 ·exact k.trans e
 ·rw[e] at k;cases k
theorem MapS.w {w:World}{h:Hp}{b:Nat}{d:List MapEntry}(x:MapS h b d)(g:G w h):∃ a,w.heap[b]?=some (.map d.toArray a):=by
 obtain ⟨c,e⟩:=x;refine ⟨c,?_⟩
 rcases g.blk b with k|k
 ·rw[<-k];exact e
 ·rw[e] at k;cases k
theorem uJ {P:Program}(w){mty kt et:TypeId}{b a:Nat}{c:Array MapEntry}{s:ByteArray}{val:Value}(f:P.underlying mty=some (.map kt et))(hk:P.underlying kt=some .string)(d:w.heap[b]?=some (.map c a))(hf:Instr.findNow .string (.string s) c.toList 0=some none):
  (Instr.mapUpdate mty (.map (some b)) (.string s) val).run P w=.ok () { w with heap:=w.heap.setIfInBounds b (.map (c.push { key:=.string s,val:=val,born:=a }) (a+1)) }:=by
 have e:(Instr.checkKey false 10000 kt (.string s)).run P w=.ok () w:=MapKept.run_checkKey (k:=.string s) hk (by simp[MapKept.IsKey]) false 9999
 simp[Instr.mapUpdate,run_underlying f,MapKept.run_getObj_map d,e,MapKept.run_findKey hk hf,MapKept.run_setObj_map _ d,Result.andThen]
theorem rK {P:Program}(w){mty kt et:TypeId}{b a i:Nat}{c:Array MapEntry}{s:ByteArray}{val o:Value}(j:P.underlying mty=some (.map kt et))(hk:P.underlying kt=some .string)(d:w.heap[b]?=some (.map c a))(hf:Instr.findNow .string (.string s) c.toList 0=some (some (i,o)))(l:((c[i]?).map (·.key)).getD (.string s)=.string s):
  (Instr.mapUpdate mty (.map (some b)) (.string s) val).run P w=.ok () { w with heap:=w.heap.setIfInBounds b (.map (c.modify i fun e=>{ e with key:=.string s,val:=val }) a) }:=by
 have f:(Instr.checkKey false 10000 kt (.string s)).run P w=.ok () w:=MapKept.run_checkKey (k:=.string s) hk (by simp[MapKept.IsKey]) false 9999;have h:(s == s)=true:=by first|exact beq_self_eq_true s|(show (s.data == s.data)=true;exact beq_self_eq_true _)|(cases s;rfl)
 have p:Instr.sameBits 10000 (.string s) (.string s)=true:=by simp[Instr.sameBits,h]
 simp[Instr.mapUpdate,run_underlying j,MapKept.run_getObj_map d,f,MapKept.run_findKey hk hf,MapKept.run_setObj_map _ d,Result.andThen,l,Instr.keyThatStays,p]
theorem A3 {P:Program}(w){mty kt et:TypeId}{b c:Nat}{a:Array MapEntry}{s:ByteArray}(ok:Bool){v:Value}{found:Bool}(e:P.underlying mty=some (.map kt et))(hk:P.underlying kt=some .string)(f:w.heap[b]?=some (.map a c))
  (hf:(∃ i,Instr.findNow .string (.string s) a.toList 0=some (some (i,v))/\found=true)\/(Instr.findNow .string (.string s) a.toList 0=some none/\found=false/\(zeroValue et).run P w=.ok v w)) :
  (Instr.lookup mty (.map (some b)) (.string s) ok).run P w=.ok (if ok then .tuple #[v,.bool found] else v) w:=by
 have d:(Instr.checkKey a.isEmpty 10000 kt (.string s)).run P w=.ok () w:=MapKept.run_checkKey (k:=.string s) hk (by simp[MapKept.IsKey]) _ 9999
 rcases hf with ⟨i,hf,rfl⟩|⟨hf,rfl,hz⟩
 ·simp[Instr.lookup,run_underlying e,MapKept.run_getObj_map f,d,MapKept.run_findKey hk hf,Result.andThen]
 ·simp[Instr.lookup,run_underlying e,MapKept.run_getObj_map f,d,MapKept.run_findKey hk hf,hz,Result.andThen]
theorem uG {w:World}{b:Nat}{o o':Obj}(e:w.heap[b]?=some o):Put b w { w with heap:=w.heap.setIfInBounds b o' }/\({ w with heap:=w.heap.setIfInBounds b o' }:World).heap[b]?=some o':=by
 have a:b<w.heap.size:=(i2.1 e).1;refine ⟨⟨rfl,rfl,rfl,by simp,fun c d=>by show (w.heap.setIfInBounds b o')[c]?=_;rw[la (Ne.symm d)]⟩,?_⟩
 show (w.heap.setIfInBounds b o')[b]?=_
 rw[Bs a]
section laws
variable {P:Program}{n:Nat}{N R:Po}{X:Nat->Po}{ops:Array Oper}{k:Nat}{Γ:cC}{w:World}{h:Hp}{w0:World}{h0:Hp}{B:List Bx}{Rs:List Rw}{F:List (Hp->Prop)}
theorem SS.pokeJ (s:SS w0 h0 w h B [] F){b:Nat}{w':World}(c:h[b]?=some bp)(d:h0.size<=b)(hn:∀ x∈B,x.b≠b)(p:Put b w w'):SS w0 h0 w' h B [] F :=
 ⟨s.g0,⟨s.st.up.put p c d s.g0.size,fun x a=>(p.blk _ (hn x a)).trans (s.st.own x a),s.st.jk,s.st.lo,s.st.nd⟩,fun _ a=>(by cases a),.nil,s.mo,s.f⟩
theorem Je (t)(s:SS w0 h0 w h B Rs F)(H:∀ b w' h',SS w0 h0 w' h' B Rs F->MapJ h0 B w' h' b [] 0->LG P n N R X ops (k+1) ((t,.map (some b))::Γ) w')(a:cL ops Γ k t n=true:=by kernel_rfl)
  (hr:(execOp (ev Γ) (am ops k)).run P w=.ok (.value (.map (some w.heap.size))) (w.alloc (.map #[] 0)):=by kernel_rfl):LG P n N R X ops k Γ w:=by
 have u:Up w h (w.alloc (.map #[] 0)) (h.push bp):=Up.allocAny s.g _ _ (.inr rfl);refine LG.val t _ _ (bS a).1 (bS a).2 hr (H _ _ _ (s.step u) ⟨?_,?_,?_,fun x c e=>?_⟩)
 ·rw[heap_alloc];exact e6
 ·rw[s.g.size];exact e6
 ·rw[s.g.size];exact s.st.sz
 ·have:=aW (s.st.jk x c)
  have:=s.g.size
  omega
theorem qM {b a:Nat}{c:List MapEntry}(mty kt et ky val)(s:SS w0 h0 w h B [] F)(m:MapJ h0 B w h b c a)(H:∀ w',SS w0 h0 w' h B [] F->MapJ h0 B w' h b (c++[⟨.string ky,val,a⟩]) (a+1)->LG P n N R X ops (k+1) Γ w')
  (d:cS ops Γ k=true:=by kernel_rfl)(i:execOp (ev Γ) (am ops k)=(do Instr.mapUpdate mty (.map (some b)) (.string ky) val;pure .skip):=by kernel_rfl)(f:P.underlying mty=some (.map kt et):=by kernel_rfl)(hk:P.underlying kt=some .string:=by kernel_rfl)(hf:Instr.findNow .string (.string ky) c 0=some none:=by kernel_rfl):LG P n N R X ops k Γ w:=by
 have hr:=uJ w (val:=val) f hk m.obj hf;obtain ⟨p,e⟩:=uG (o':=.map (c.toArray.push { key:=.string ky,val:=val,born:=a }) (a+1)) m.obj;refine LG.store _ (iR d).1 (iR d).2 ?_ (H _ (s.pokeJ m.jk m.lo m.nb p) ⟨?_,m.jk,m.lo,m.nb⟩)
 ·rw[i];simp[hr,Result.andThen]
 ·rw[e];simp
theorem MA {b a i:Nat}{c:List MapEntry}(mty kt et ky val y)(d:List MapEntry)(s:SS w0 h0 w h B [] F)(m:MapJ h0 B w h b c a)(H:∀ w',SS w0 h0 w' h B [] F->MapJ h0 B w' h b d a->LG P n N R X ops (k+1) Γ w')
  (f:cS ops Γ k=true:=by kernel_rfl)(u:execOp (ev Γ) (am ops k)=(do Instr.mapUpdate mty (.map (some b)) (.string ky) val;pure .skip):=by kernel_rfl)(o:P.underlying mty=some (.map kt et):=by kernel_rfl)(hk:P.underlying kt=some .string:=by kernel_rfl)(hf:Instr.findNow .string (.string ky) c 0=some (some (i,y)):=by kernel_rfl)
  (x:((c.toArray[i]?).map (·.key)).getD (.string ky)=.string ky:=by kernel_rfl)(j:c.toArray.modify i (fun e=>{ e with key:=.string ky,val:=val })=d.toArray:=by kernel_rfl):LG P n N R X ops k Γ w:=by
 have hr:=rK w (val:=val) o hk m.obj hf x;obtain ⟨p,l⟩:=uG (o':=.map (c.toArray.modify i fun e=>{ e with key:=.string ky,val:=val }) a) m.obj;refine LG.store _ (iR f).1 (iR f).2 ?_ (H _ (s.pokeJ m.jk m.lo m.nb p) ⟨?_,m.jk,m.lo,m.nb⟩)
 ·rw[u];simp[hr,Result.andThen]
 ·rw[l,j]
theorem Kp (t){b:Nat}{a:List MapEntry}(mty kt et ky)(ok:Bool)(v)(found:Bool)(s:SS w0 h0 w h B Rs F)(m:MapS h b a)(H:LG P n N R X ops (k+1) ((t,if ok then .tuple #[v,.bool found] else v)::Γ) w)(c:cL ops Γ k t n=true:=by kernel_rfl)
  (f:execOp (ev Γ) (am ops k)=(do pure (.value (<-Instr.lookup mty (.map (some b)) (.string ky) ok))):=by kernel_rfl)(e:P.underlying mty=some (.map kt et):=by kernel_rfl)(hk:P.underlying kt=some .string:=by kernel_rfl)
  (hf:(∃ i,Instr.findNow .string (.string ky) a 0=some (some (i,v))/\found=true)\/(Instr.findNow .string (.string ky) a 0=some none/\found=false/\∀ w,(zeroValue et).run P w=.ok v w)):LG P n N R X ops k Γ w:=by
 obtain ⟨d,j⟩:=m.w s.g;refine LG.val t _ w (bS c).1 (bS c).2 ?_ H;rw[f];have hr:=A3 w ok (v:=v) (found:=found) e hk j (hf.imp id fun h=>⟨h.1,h.2.1,h.2.2 w⟩)
 simp[hr,Result.andThen]
theorem Mr (t){b:Nat}{a:List MapEntry}(mty ty kt et)(s:SS w0 h0 w h B Rs F)(m:MapS h b a)(H:LG P n N R X ops (k+1) ((t,.int .i64 (a.length:Nat))::Γ) w)(c:cL ops Γ k t n=true:=by kernel_rfl)
  (i:execOp (ev Γ) (am ops k)=(do pure (.value (<-Builtin.len_ #[mty] ty #[.map (some b)]))):=by kernel_rfl)(f:P.underlying mty=some (.map kt et):=by kernel_rfl):LG P n N R X ops k Γ w:=by
 obtain ⟨e,d⟩:=m.w s.g;refine LG.val t _ w (bS c).1 (bS c).2 ?_ H;rw[i]
 have hr:(Builtin.len_ #[mty] ty #[.map (some b)]).run P w=.ok (goInt a.toArray.size) w:=by
  simp[Builtin.len_,run_underlying f,MapKept.run_getObj_map d,Result.andThen]
 simp[hr,Result.andThen,goInt]
theorem SS.pubMap {b a:Nat}{j:List MapEntry}(s:SS w0 h0 w h B [] F)(m:MapJ h0 B w h b j a):∃ l,SS w0 h0 w l B [] F/\MapS l b j:=by
 have d:=aW m.jk;refine ⟨h.setIfInBounds b (.map j.toArray a),⟨s.g0,⟨⟨s.st.up.ext,⟨by simp;exact s.st.up.gr.size,fun c o=>?_⟩,⟨by simp;exact s.st.up.g.size,fun c=>?_⟩⟩,s.st.own,fun x i=>?_,s.st.lo,s.st.nd⟩,fun _ i=>(by cases i),.nil,s.mo,s.f.gw s.mo ⟨by simp,fun c _=>?_⟩⟩,a,?_⟩
 ·have:=m.lo
  rw[la oM];exact s.st.up.gr.blk c o
 ·by_cases e:b=c
  ·subst e;left;rw[Bs d];exact m.obj.symm
  ·rw[la e];exact s.st.up.g.blk c
 ·rw[la (Ne.symm (m.nb x i))];exact s.st.jk x i
 ·by_cases e:b=c
  ·subst e;exact .inr m.jk
  ·left;rw[la e]
 ·rw[Bs d]
end laws
theorem o6 (f:Nat->Nat){a b:Nat}(h:a<=b):d9 f a<=d9 f b:=by
 induction h with
 | refl=>exact ek _
 | step _ ih=>exact ep ih (Nat.le_add_right _ _)
def ia (op n:Int):Nat:=if op=11 then 2 else if op=8 then bP n else 1
theorem gB (op n):1<=ia op n:=by
 unfold ia bP;split
 ·omega
 ·split
  ·split<;>omega
  ·omega
theorem Ca {d:Nat}{op n:Int}{q:Rat}{s:ByteArray}{ks:List Tm}(h:ks.length=0):bL (d+1) (.mk op n q s ks)=1:=if_pos h
theorem kj {d:Nat}{op n:Int}{q:Rat}{s:ByteArray}{ks:List Tm}(h:ks.length≠0):bL (d+1) (.mk op n q s ks)=ia op n*d9 (fun i=>bL d (ks.getD i di)) ks.length:=if_neg h
theorem uu {d:Nat}{op n:Int}{q:Rat}{s:ByteArray}{ks:List Tm}(h:ks.length≠0):d9 (fun i=>bL d (ks.getD i di)) ks.length<=bL (d+1) (.mk op n q s ks):=by
 rw[kj h];exact Oh _ (gB op n)
theorem mH {m s:Nat}(h:1<=m):min (m*min s 1001) 1001=min (m*s) 1001:=by
 rcases Nat.le_total s 1001 with e|e
 ·rw[Nat.min_eq_left e]
 ·rw[Nm e,Nm (ep e (Oh _ h)),Nm (Oh _ h)]
theorem E2 (op w h)(g:G w h):CV 138 #[iV op] w h (iV (gQ op)):=by
 have a:=sS g;refine go Tryz.func138 [(0,iV op)] rfl (aa a ac (ag (aa a ac (aZ (cQ (aA ?_))))));cases o:((op:Int) == (1:Int))
 .
  have y:=aj o;refine lB 5 o (lL a ac (ah (kQ ?_)));cases i:((op:Int) == (2:Int))
  .
   have B:=aj i;refine lB 6 i (lL a ac (ah (cQ (aA ?_))));cases d:((op:Int) == (7:Int))
   .
    have u:=aj d;refine lB 8 d (lL a ac (ah (aA ?_)));cases f:((op:Int) == (8:Int))
    .
     have F:=aj f;refine lB 9 f (lL a ac (ah (aA ?_)));cases j:((op:Int) == (9:Int))
     .
      have C:=aj j;refine lB 10 j (lL a ac (ah (aA ?_)));cases e:((op:Int) == (10:Int))
      .
       have x:=aj e;refine lB 11 e (lL a ac (ah (kQ ?_)));cases l:((op:Int) == (11:Int))
       .
        have z:=aj l;refine lB 12 l (lL a ac (ah (cQ (aA ?_))));cases c:((op:Int) == (3:Int))
        .
         have H:=aj c;refine lB 14 c (lL a ac (ah (aA ?_)));cases p:((op:Int) == (4:Int))
         .
          have D:=aj p;refine lB 15 p (lL a ac (ah (aA ?_)));cases K:((op:Int) == (5:Int))
          .
           have M:=aj K;refine lB 16 K (lL a ac (ah (aA ?_)));cases L:((op:Int) == (6:Int))
           .
            have Q:=aj L;refine lB 17 L (lL a ac (ah (aA ?_)));cases I:((op:Int) == (12:Int))
            .
             have O:=aj I;refine lB 18 I (lL a ac (ah (kQ ?_)));cases J:((op:Int) == (13:Int))
             .
              have S:=aj J;exact lB 19 J (lL a ac (ah (cK (aa a ac (ae a [] (iV (-1)) (congrArg (Value.int .i64) (by have:=aF op;omega)))))))
             have S:=eq_of_beq J;exact lB 19 J (lL a ac (ak (aa a ac (ae a [] (iV 2) (congrArg (Value.int .i64) (by have:=aF op;omega))))))
            have O:=eq_of_beq I;exact lB 18 I (lL a ac (ak (cK (ck (aa a ac (ae a [] (iV 2) (congrArg (Value.int .i64) (by have:=aF op;omega))))))))
           have Q:=eq_of_beq L;exact lB 17 L (lL a ac (ak (cK (ck (aa a ac (ae a [] (iV 2) (congrArg (Value.int .i64) (by have:=aF op;omega))))))))
          have M:=eq_of_beq K;exact lB 16 K (lL a ac (ak (cK (ck (aa a ac (ae a [] (iV 2) (congrArg (Value.int .i64) (by have:=aF op;omega))))))))
         have D:=eq_of_beq p;exact lB 15 p (lL a ac (ak (cK (ck (aa a ac (ae a [] (iV 2) (congrArg (Value.int .i64) (by have:=aF op;omega))))))))
        have H:=eq_of_beq c;exact lB 14 c (lL a ac (ak (cK (ck (aa a ac (ae a [] (iV 2) (congrArg (Value.int .i64) (by have:=aF op;omega))))))))
       have z:=eq_of_beq l;exact lB 12 l (lL a ac (ak (aa a ac (ae a [] (iV 1) (congrArg (Value.int .i64) (by have:=aF op;omega))))))
      have x:=eq_of_beq e;exact lB 11 e (lL a ac (ak (cK (ck (aa a ac (ae a [] (iV 1) (congrArg (Value.int .i64) (by have:=aF op;omega))))))))
     have C:=eq_of_beq j;exact lB 10 j (lL a ac (ak (cK (ck (aa a ac (ae a [] (iV 1) (congrArg (Value.int .i64) (by have:=aF op;omega))))))))
    have F:=eq_of_beq f;exact lB 9 f (lL a ac (ak (cK (ck (aa a ac (ae a [] (iV 1) (congrArg (Value.int .i64) (by have:=aF op;omega))))))))
   have u:=eq_of_beq d;exact lB 8 d (lL a ac (ak (cK (ck (aa a ac (ae a [] (iV 1) (congrArg (Value.int .i64) (by have:=aF op;omega))))))))
  have B:=eq_of_beq i;exact lB 6 i (lL a ac (ak (aa a ac (ae a [] (iV 0) (congrArg (Value.int .i64) (by have:=aF op;omega))))))
 have y:=eq_of_beq o;exact lB 5 o (lL a ac (ak (cK (ck (aa a ac (ae a [] (iV 0) (congrArg (Value.int .i64) (by have:=aF op;omega))))))))
theorem Ic (n)(h0 : -12<=n)(h1:n<=12)(w h)(g:G w h):CV 140 #[iV n] w h (nV (bP n)):=by
 have a:=sS g;refine go Tryz.func140 [(0,iV n)] rfl (aa a ac (ag (aa a ac ?_)));cases c:(decide ((n:Int)<=(-(2^30):Int)))
 .
  have e:=oF c;refine lB 4 c (lL a ax ?_);cases d:(decide (((2^30):Int)<=(n:Int)))
  .
   have f:=oF d;refine lB 7 d (lL a [.v qF] (ah (cK (aa a ax (lI 11 (0-n) ?_)))));refine lV 12 (iV (max (max (n:Int) (0-n:Int)) (1:Int))) ?_ (hr:=aK (n:=(if (1:Int)>(if (0-n:Int)>(n:Int) then (0-n:Int) else (n:Int)) then (1:Int) else (if (0-n:Int)>(n:Int) then (0-n:Int) else (n:Int)))) kR (by simp only[pg]));exact lL a ac (ae a [] (iV (max (max (n:Int) (0-n:Int)) (1:Int))) (congrArg (Value.int .i64) (by unfold bP;(repeat' split)<;>omega)))
  have f:=oT d;exact lB 7 d (lL a [.v qT] (ak (aa a ac (ae a [] (iV (2^30)) (congrArg (Value.int .i64) (by unfold bP;(repeat' split)<;>omega))))))
 have e:=oT c;refine lB 4 c (lL a ac (lG 6 ?_));exact lG 7 (lL a [.v qT] (ak (aa a ac (ae a [] (iV (2^30)) (congrArg (Value.int .i64) (by unfold bP;(repeat' split)<;>omega))))))
theorem xT  (sm:ByteArray->Prop)(d)(H:∀ (p:PTm) (t:Tm) (a:Int) (w:World) (h:Hp),G w h->TmH d h p t->ph sm d t->(d:Int)<=a->a<=1000->Calls Tryz.prog 84 #[bW p,iV a] w (Ret w h (fun v _=>v=.bool false)))(op n q s A c)(ps:List PTm)(ks:List Tm)(Z:ps.length<=c)(X:ps.length<=3)(F:ks.length<=3)(V : -1000<=op/\op<=1000)(hn : -1000<=n/\n<=1000)(hq:LQ 3000 q)(U:sm s)(M:∀ i,i<ks.length->ph sm d (ks.getD i di))(a)(hm:((d+1:Nat):Int)<=a)(J:a<=1000)(w h)(g:G w h)(D:SlO 9 dd cM h A ps)(B:Tms d h ps ks):CV 84 #[bW ⟨op,n,q,s,A,ps.length,c⟩,iV a] w h (.bool false):=by
 have e:=(((sS g).aS D).add (K:=fun u=>Tms d u ps ks) B);have W:=(e.f.1).len;refine go Tryz.func84 [(0,bW ⟨op,n,q,s,A,ps.length,c⟩),(1,iV a)] rfl (aA (lA 2 51 (dd ⟨op,n,q,s,A,ps.length,c⟩) e (fun C w2 O e=>lL e ac (ag (aa e ac ?_)))));cases l:(decide ((a:Int)<(1:Int)))
 .
  have x:=oF l;refine lB 8 l (ah (cK (cQ (aa e [.v (qP C 8),.o (qS A ps.length c) 0 8 1,.v (nV ps.length),.c] (aZ ?_)))));refine bH _ (CG.loop (fun z Γ L=>∃ (k:Nat)(u:Hp),z=ps.length-k/\Γ=[(1,iV a),(10,qS A ps.length c),(11,nV ps.length),(12,nV k)]/\SS w h L u [⟨C,51,dd ⟨op,n,q,s,A,ps.length,c⟩⟩] [] [fun u=>Tms d u ps ks,fun u=>SlO 9 dd cM u A ps]/\k<=ps.length) _ ⟨0,O,rfl,rfl,e.to _ _,NY _⟩ ?_);rintro _ _ w5 ⟨k,h6,Q,rfl,e,hk⟩;refine aA ?_;cases j:(decide ((k:Int)<(ps.length:Int)))
  .
   have y:=oF j;refine lB 13 j (ag (dE (CG.exit ?_)))
   show CG _ _ _ _ _ _ _ _
   exact aa e ac (ae e [] qF rfl)
  have y:=oT j;refine lB 13 j (ag (ck (cK (cQ (kZ (aA (lX 14 A ps.length c 9 (k:Nat) k ((e.f.2.1).ok oM) ?_)))))));refine lH 15 (bW (ps.getD k cM)) e ((e.f.2.1).el k oM) (lA 6 51 ca e (fun b9 _ _ e=>lP 0 0 (dd (ps.getD k cM)) e (fun _ e=>aG (lL e [.o (bW (ps.getD k cM)) 0 0 9,.c] (lI 18 (a-1) ?_)))));refine ar 19 e (H (ps.getD k cM) (ks.getD k di) (a-1) _ _ e.g ((e.f.1).at_ k oM) (M k oM) oM oM) (fun _ S e=>ah (cK (kQ (bw 20 ((k:Nat)+1) (k+1) ?_))));refine lL e ac (lD ?_);intro Y I;replace e:=e.drop 1 0;refine ⟨_,_,?_,⟨k+1,S,rfl,rfl,e.to _ _,oM⟩,I.to _ kR⟩
  omega
 have x:=oT l;refine lB 8 l (ak (aa e ac (lN (kX ?_))))
 exfalso;omega
theorem vL (sm:ByteArray->Prop):∀ (d:Nat) (p:PTm) (t:Tm) (a:Int) (w:World) (h:Hp),G w h->TmH d h p t->ph sm d t->(d:Int)<=a->a<=1000->Calls Tryz.prog 84 #[bW p,iV a] w (Ret w h (fun v _=>v=.bool false))
  | 0,_,_,_,_,_,_,x,_,_,_=>x.elim
  | d+1,p,t,a,w,h,g,x,wf,hm,hm2=>by
    obtain ⟨op,n,q,s,A,c,ps,ks,rfl,rfl,o,j,e⟩:=x.open;obtain ⟨f,u,l,B,i,z⟩:=wf;have y:ks.length<=3:=f;exact xT sm d (fun p t a w h=>vL sm d p t a w h) op n q s A c ps ks o (by have:=e.len;omega) f u l B i z a hm hm2 w h g j e
theorem BW  (isb:ByteArray->Bool)(sm:ByteArray->Prop)(oW:∀ s,sm s->∀ (w:World) (h:Hp),G w h->Calls Tryz.prog 46 #[.string s] w (Ret w h (fun v _=>∃ b,v=.bool b/\b=isb s)))(d)(ih:∀ (p:PTm) (t:Tm) (w:World) (h:Hp),G w h->TmH d h p t->ph sm d t ->  Calls Tryz.prog 85 #[bW p] w (Ret w h (fun v _=>∃ M,v=.bool M/\(M=true↔WfT (fun s=>isb s=true) d t))))(op n q s A c)(ps:List PTm)(ks:List Tm)(hc:ps.length<=c)(hlp:ps.length<=3)(hk3:ks.length<=3)(hop : -1000<=op/\op<=1000)(hn : -1000<=n/\n<=1000)(hq:LQ 3000 q)(hsm:sm s)(hW:∀ i,i<ks.length->ph sm d (ks.getD i di))(w h)(g:G w h)(hK:SlO 9 dd cM h A ps)(hKs:Tms d h ps ks):CR 85 #[bW ⟨op,n,q,s,A,ps.length,c⟩] w h (fun v _=>∃ M,v=.bool M/\(M=true↔WfT (fun s=>isb s=true) (d+1) (.mk op n q s ks))):=by
 have a:=(((sS g).aS hK).add (K:=fun e=>Tms d e ps ks) hKs);have hln:=(a.f.1).len;have hsg:q.num.sign=0↔q.num=0:=O7;refine go Tryz.func85 [(0,bW ⟨op,n,q,s,A,ps.length,c⟩)] rfl (aA (lA 1 51 (dd ⟨op,n,q,s,A,ps.length,c⟩) a (fun l w2 h3 a=>lL a ac (ag (cQ (cR 7 [] mixed a ao ?_))))));refine eV 0 5 (pB l) (eO 1 6 [(0,0,1)] (iV op) a (eV 3 8 (qP l 8) (eO 4 9 [(0,8,1)] (qS A ps.length c) a (eV 5 10 (nV ps.length) (au 2 7 a (fun _ _ a=>E2 op _ _ a.g) (fun w4 h5 a=>?_))))));cases x:((gQ op:Int) != (ps.length:Int))
 .
  have J:=aU x;refine eB 6 11 x (bM a (fun w7 h8 a=>?_));refine tN (dE (cK (cQ (CG.join (fun Γ B=>∃ (O:Bool)(e:Hp),Γ=[(1,pB l),(2,qF),(20,.bool O)]/\SS w h B e [⟨l,51,dd ⟨op,n,q,s,A,ps.length,c⟩⟩] [] [fun e=>Tms d e ps ks,fun e=>SlO 9 dd cM e A ps]/\(O=true->¬(op=1\/q.num=0))/\(O=false->(op=1\/q.num=0))) ?_ ?_))))
  .
   refine kQ (lL a [.v (pB l),.o (iV op) 0 0 1] ?_);cases z:((op:Int) != (1:Int))
   .
    have S:=aU z;refine lB 14 z (lL a ac (lG 16 ?_));refine lG 17 (lG 18 (lG 19 (lL a [.v qF] (lD ?_))));intro u j;exact ⟨_,⟨false,h8,rfl,a.to _ _,(fun e=>absurd e kD),(fun _=>by omega)⟩,j.to _ kR⟩
   have S:=aJ z;refine lB 14 z (lL a [.c,.v (qP l 2),.o (qv q) 0 2 5] (ar 18 a (j8 q (hq.mono oM) _ _ a.g) (fun _ zD a=>?_)));cases za:((q.num.sign:Int) != (0:Int))
   .
    have zs:=aU za;refine lB 19 za (lL a [.v qF] (lD ?_));intro u j;exact ⟨_,⟨false,zD,rfl,a.to _ _,(fun e=>absurd e kD),(fun _=>by omega)⟩,j.to _ kR⟩
   have zs:=aJ za;refine lB 19 za (lL a [.v qT] (lD ?_));intro u j;exact ⟨_,⟨true,zD,rfl,a.to _ _,(fun _=>by omega),(fun e=>absurd e kD)⟩,j.to _ kR⟩
  rintro _ _ ⟨O,zE,rfl,a,zH,H⟩;cases zb:(O)
  .
   try rw[zb] at a
   try rw[zb]
   refine dE (cK (cQ (CG.join (fun Γ B=>∃ (F:Bool)(e:Hp),Γ=[(1,pB l),(2,qF),(39,.bool F)]/\SS w h B e [⟨l,51,dd ⟨op,n,q,s,A,ps.length,c⟩⟩] [] [fun e=>Tms d e ps ks,fun e=>SlO 9 dd cM e A ps]/\(F=true->¬((op=2->isb s=true)/\(op≠2->s=⟨#[]⟩)))/\(F=false->((op=2->isb s=true)/\(op≠2->s=⟨#[]⟩)))) ?_ ?_)))
   .
    refine kQ (lL a [.v (pB l),.o (iV op) 0 0 1] ?_);cases zc:((op:Int) == (2:Int))
    .
     have zt:=aj zc;refine lB 23 zc (lL a ac (lG 25 ?_));refine lG 26 (lG 27 (lG 28 (lL a [.v qF,.c,.v (pB l),.o (iV op) 0 0 1] ?_)));have zq:((op:Int) != (2:Int))=true:=Bq oM;have bd:=aJ zq;refine lB 33 zq (lL a [.c,.v (qP l 7),.o (.string s) 0 7 1] ?_);cases V:(nZ s (⟨#[]⟩))
     .
      have zu:=qo V;refine lB 37 V (lL a [.v qF,.v qF] (lD ?_));intro u j;exact ⟨_,⟨false,zE,rfl,a.to _ _,(fun e=>absurd e kD),(fun _=>⟨fun e=>by first|exact y.symm.trans aM|exact absurd e oM,fun e=>by first|assumption|exact absurd e oM⟩)⟩,j.to _ kR⟩
     have zu:=pH V;refine lB 37 V (lL a [.v qT,.v qT] (lD ?_));intro u j;exact ⟨_,⟨true,zE,rfl,a.to _ _,(fun _ e=>by first|exact O8 ((e.1 oM).symm.trans (y.symm.trans aM))|exact absurd (e.2 oM) aM),(fun e=>absurd e kD)⟩,j.to _ kR⟩
    have zt:=eq_of_beq zc;refine lB 23 zc (lL a [.c,.v (qP l 7),.o (.string s) 0 7 1] (lC 27 a (oW s hsm _ _ a.g) ?_));rintro _ _ zG a ⟨bi,rfl,y⟩;cases br:(bi)
    .
     refine lL a [.v qT,.v qT,.c] (lG 31 ?_);refine lG 32 (lG 33 (lG 34 (lG 35 (lG 36 (lG 37 (lG 38 (lL a [.v qT] (lD ?_))))))));intro u j;exact ⟨_,⟨true,zG,rfl,a.to _ _,(fun _ e=>by first|exact O8 ((e.1 oM).symm.trans (y.symm.trans aM))|exact absurd (e.2 oM) aM),(fun e=>absurd e kD)⟩,j.to _ kR⟩
    refine lL a [.v qF,.v qF,.c,.v (pB l),.o (iV op) 0 0 1] ?_;have zr:((op:Int) != (2:Int))=false:=Ij oM;have bj:=aU zr;refine lB 33 zr (lL a ac (lG 35 ?_));refine lG 36 (lG 37 (lL a [.v qF,.v qF] (lD ?_)));intro u j;exact ⟨_,⟨false,zG,rfl,a.to _ _,(fun e=>absurd e kD),(fun _=>⟨fun e=>by first|exact y.symm.trans aM|exact absurd e oM,fun e=>by first|assumption|exact absurd e oM⟩)⟩,j.to _ kR⟩
   rintro _ _ ⟨F,I,rfl,a,zI,D⟩;cases Y:(F)
   .
    try rw[Y] at a
    try rw[Y]
    refine dE (cK (cQ (CG.join (fun Γ B=>∃ (U:Bool)(e:Hp),Γ=[(1,pB l),(2,qF),(57,.bool U)]/\SS w h B e [⟨l,51,dd ⟨op,n,q,s,A,ps.length,c⟩⟩] [] [fun e=>Tms d e ps ks,fun e=>SlO 9 dd cM e A ps]/\(U=true->¬((op=8\/n=0) /\ -12<=n/\n<=12))/\(U=false->((op=8\/n=0) /\ -12<=n/\n<=12))) ?_ ?_)))
    .
     refine kQ (lL a [.v (pB l),.o (iV op) 0 0 1] ?_);cases W:((op:Int) != (8:Int))
     .
      have zv:=aU W;refine lB 42 W (lL a ac (lG 44 ?_));refine lG 45 (lG 46 (lL a [.v qF,.c,.v (qP l 1),.o (iV n) 0 1 1] ?_));cases Z:(decide ((n:Int)<(-12:Int)))
      .
       have zw:=oF Z;refine lB 51 Z (lL a [.v qF,.c,.v (qP l 1),.o (iV n) 0 1 1] ?_);cases X:(decide ((12:Int)<(n:Int)))
       .
        have zx:=oF X;refine lB 56 X (lL a [.v qF] (lD ?_));intro u j;exact ⟨_,⟨false,I,rfl,a.to _ _,(fun e=>absurd e kD),(fun _=>by omega)⟩,j.to _ kR⟩
       have zx:=oT X;refine lB 56 X (lL a [.v qT] (lD ?_));intro u j;exact ⟨_,⟨true,I,rfl,a.to _ _,(fun _=>by omega),(fun e=>absurd e kD)⟩,j.to _ kR⟩
      have zw:=oT Z;refine lB 51 Z (lL a [.v qT,.c] (lG 54 ?_));refine lG 55 (lG 56 (lL a [.v qT] (lD ?_)));intro u j;exact ⟨_,⟨true,I,rfl,a.to _ _,(fun _=>by omega),(fun e=>absurd e kD)⟩,j.to _ kR⟩
     have zv:=aJ W;refine lB 42 W (lL a [.c,.v (qP l 1),.o (iV n) 0 1 1] ?_);cases zj:((n:Int) != (0:Int))
     .
      have zA:=aU zj;refine lB 46 zj (lL a [.v qF,.c,.v (qP l 1),.o (iV n) 0 1 1] ?_);have ⟨zJ,bm⟩:=dF (p:=(n:Int)<(-12:Int)) oM;refine lB 51 zJ (lL a [.v qF,.c,.v (qP l 1),.o (iV n) 0 1 1] ?_);have ⟨zK,bl⟩:=dF (p:=(12:Int)<(n:Int)) oM;refine lB 56 zK (lL a [.v qF] (lD ?_));intro u j;exact ⟨_,⟨false,I,rfl,a.to _ _,(fun e=>absurd e kD),(fun _=>by omega)⟩,j.to _ kR⟩
     have zA:=aJ zj;refine lB 46 zj (lL a [.v qT,.c] (lG 49 ?_));refine lG 50 (lG 51 (lL a [.v qT,.c] (lG 54 ?_)));refine lG 55 (lG 56 (lL a [.v qT] (lD ?_)));intro u j;exact ⟨_,⟨true,I,rfl,a.to _ _,(fun _=>by omega),(fun e=>absurd e kD)⟩,j.to _ kR⟩
    rintro _ _ ⟨U,zM,rfl,a,zL,L⟩;cases zk:(U)
    .
     try rw[zk] at a
     try rw[zk]
     refine dE (cK (cQ (aa a [.v (qP l 8),.o (qS A ps.length c) 0 8 1,.v (nV ps.length),.c] (aZ ?_))));refine bH _ (CG.loop (fun μ_ Γ B=>∃ (k:Nat)(e:Hp),μ_=ps.length-k/\Γ=[(59,qS A ps.length c),(60,nV ps.length),(61,nV k)]/\SS w h B e [⟨l,51,dd ⟨op,n,q,s,A,ps.length,c⟩⟩] [] [fun e=>Tms d e ps ks,fun e=>SlO 9 dd cM e A ps]/\k<=ps.length/\(∀ i,i<k->WfT (fun s=>isb s=true) d (ks.getD i di))) _ ⟨0,zM,rfl,rfl,a.to _ _,NY _,(fun i hi=>absurd hi (O9 i))⟩ ?_);rintro _ _ _ ⟨k,_,bq,rfl,a,hk,Q⟩;refine aA ?_;cases zl:(decide ((k:Int)<(ps.length:Int)))
     .
      have zB:=oF zl;refine lB 62 zl (ag (dE (CG.exit ?_)))
      show CG _ _ _ _ _ _ _ _
      exact aa a ac (ae a [] qT (F8 ⟨by omega,H aM,D aM,L aM⟩ hq (fun i hi=>Q i oM)))
     have zB:=oT zl;refine lB 62 zl (ag (ck (cK (cQ (kZ (aA (lX 63 A ps.length c 9 (k:Nat) k ((a.f.2.1).ok oM) ?_)))))));refine lH 64 (bW (ps.getD k cM)) a ((a.f.2.1).el k oM) (lA 4 51 ca a (fun b63 _ _ a=>lP 0 0 (dd (ps.getD k cM)) a (fun _ a=>aG (lL a [.o (bW (ps.getD k cM)) 0 0 9] (lC 66 a (ih (ps.getD k cM) (ks.getD k di) _ _ a.g ((a.f.1).at_ k oM) (hW k oM)) ?_)))));rintro _ _ zN a ⟨bk,rfl,C⟩;cases bn:(bk)
     .
      exact lL a [.v qT] (ak (aa a ac (ae a [] qF (Gi (k:=k) oM aM C))))
     refine lL a [.v qF] (ah (cK (kQ (bw 68 ((k:Nat)+1) (k+1) ?_))));refine lL a ac (lD ?_);intro u j;replace a:=a.drop 1 0;refine ⟨_,_,?_,⟨k+1,zN,rfl,rfl,a.to _ _,oM,(fun i hi=>by rcases Nat.lt_succ_iff_lt_or_eq.1 hi with e|rfl;exact Q i e;exact C.1 aM)⟩,j.to _ kR⟩
     omega
    try rw[zk] at a
    try rw[zk]
    exact ck (aa a ac (ae a [] qF (qW (fun e=>zL aM e.2.2.2))))
   try rw[Y] at a
   try rw[Y]
   exact ck (aa a ac (ae a [] qF (qW (fun e=>zI aM e.2.2.1))))
  try rw[zb] at a
  try rw[zb]
  exact ck (aa a ac (ae a [] qF (qW (fun e=>zH aM e.2.1))))
 have J:=aJ x;exact eB 6 11 x (bM a (fun _ _ a=>tN (ck (aa a ac (ae a [] qF (qW (fun e=>absurd e.1 oM)))))))
theorem rO (isb:ByteArray->Bool)(sm:ByteArray->Prop)(oW:∀ s,sm s->∀ (w:World) (h:Hp),G w h->Calls Tryz.prog 46 #[.string s] w (Ret w h (fun v _=>∃ b,v=.bool b/\b=isb s))):∀ (d:Nat) (p:PTm) (t:Tm) (w:World) (h:Hp),G w h->TmH d h p t->ph sm d t ->  Calls Tryz.prog 85 #[bW p] w (Ret w h (fun v _=>∃ f,v=.bool f/\(f=true↔WfT (fun s=>isb s=true) d t)))
  | 0,_,_,_,_,_,x,_=>x.elim
  | d+1,p,t,w,h,g,x,wf=>by
    obtain ⟨op,n,q,s,A,c,ps,ks,rfl,rfl,o,j,a⟩:=x.open;obtain ⟨e,u,l,B,i,z⟩:=wf;have y:ks.length<=3:=e;exact BW isb sm oW d (fun p t w h=>rO isb sm oW d p t w h) op n q s A c ps ks o (by have:=a.len;omega) e u l B i z w h g j a
theorem xz  (ok:ByteArray->Prop)(d)(ih:∀ (p:PTm) (t:Tm) (w:World) (h:Hp),G w h->TmH d h p t->WfT ok d t ->  Calls Tryz.prog 86 #[bW p,iV 1001] w (Ret w h (fun v _=>v=iV ((min (bL d t) 1001:Nat):Int))))(op n q s A c)(ps:List PTm)(ks:List Tm)(hc:ps.length<=c)(hlp:ps.length<=2)(O:gQ op=(ks.length:Nat))(U:op≠1->q=0)(hq:LQ 3000 q)(S:op=2->ok s)(hs0:op≠2->s=⟨#[]⟩)(hn0:op≠8->n=0)(hn1 : -12<=n)(V:n<=12)(hW:∀ i,i<ks.length->WfT ok d (ks.getD i di))(w h)(g:G w h)(W:SlO 9 dd cM h A ps)(M:Tms d h ps ks):CV 86 #[bW ⟨op,n,q,s,A,ps.length,c⟩,iV 1001] w h (iV ((min (bL (d+1) (.mk op n q s ks)) 1001:Nat):Int)):=by
 have a:=(((sS g).aS W).add (K:=fun B=>Tms d B ps ks) M);have hln:=(a.f.1).len;refine go Tryz.func86 [(0,bW ⟨op,n,q,s,A,ps.length,c⟩),(1,iV 1001)] rfl (aA (lA 2 51 (dd ⟨op,n,q,s,A,ps.length,c⟩) a (fun C w2 h3 a=>lL a ac (ag (aa a [.v (qP C 8),.o (qS A ps.length c) 0 8 1,.v (nV ps.length)] ?_)))));cases x:((ps.length:Int) == (0:Int))
 .
  have D:=aj x;refine lB 11 x (ah (cK (aa a ac (ag (aa a [.v (qP C 8),.o (qS A ps.length c) 0 8 1,.v (nV ps.length),.c] (aZ ?_))))));refine bH _ (CG.loop (fun L Γ w_=>∃ (k:Nat)(sm:Nat)(B:Hp),L=ps.length-k/\Γ=[(1,iV 1001),(2,pB C),(15,qS A ps.length c),(16,nV ps.length),(17,nV k),(5,nV sm)]/\SS w h w_ B [⟨C,51,dd ⟨op,n,q,s,A,ps.length,c⟩⟩] [] [fun B=>Tms d B ps ks,fun B=>SlO 9 dd cM B A ps]/\k<=ps.length/\sm=min (d9 (fun i=>bL d (ks.getD i di)) k) 1001) _ ⟨0,0,h3,rfl,rfl,a.to _ _,NY _,rfl⟩ ?_);rintro _ _ w5 ⟨k,sm,h6,hm7,rfl,a,hk,z⟩;have hs1:(d9 (fun i=>bL d (ks.getD i di)) (k+1))=(d9 (fun i=>bL d (ks.getD i di)) k)+bL d (ks.getD k di):=rfl;refine aA ?_;cases u:(decide ((k:Int)<(ps.length:Int)))
  .
   have H:=oF u;refine lB 18 u (ag (dE (CG.exit ?_)))
   show CG _ _ _ _ _ _ _ _
   refine cQ (aa a [.v (pB C),.o (iV op) 0 0 1] (aZ (aA ?_)));cases y:((op:Int) == (11:Int))
   .
    have F:=aj y;refine lB 36 y (lL a ac (ah (aA ?_)));cases I:((op:Int) == (8:Int))
    .
     have Q:=aj I;refine lB 40 I (lL a ac (ah (cK (aa a ax (lV 48 (iV (min (sm:Int) (1001:Int))) ?_ (hr:=aK (n:=(if (1001:Int)<(sm:Int) then (1001:Int) else (sm:Int))) kR (by simp only[fW])))))));refine lL a ac (lN (kX ?_));have l:k=ks.length:=by omega
     have j:=kj (d:=d) (op:=op) (n:=n) (q:=q) (s:=s) (ks:=ks) oM;have e:=mH (s:=(d9 (fun i=>bL d (ks.getD i di)) k)) (gB op n);rw[<-l] at j
     rw[<-j,<-z] at e;exact a.ret [] (iV (min (sm:Int) (1001:Int))) (congrArg (Value.int .i64) (by rw[<-e];unfold ia;first|(rw[if_pos oM];(repeat' split)<;>omega)|(rw[if_neg oM,if_pos oM,MQ];(repeat' split)<;>omega)|(rw[if_neg oM,if_neg oM];(repeat' split)<;>omega)))
    have Q:=eq_of_beq I;refine lB 40 I (lL a ac (ak (kQ (lL a [.c,.v (qP C 1),.o (iV n) 0 1 1] (ar 44 a (Ic n oM oM _ _ a.g) (fun _ _ a=>?_))))));have htm:bP n<=12/\1<=bP n:=by unfold bP;split<;>omega
    have hmb:sm*bP n<=1001*12:=NF oM oM;refine lI 45 ((sm:Nat)*(bP n:Nat)) (lL a ac (aG (lL a ax (lV 48 (iV (min ((sm:Nat)*(bP n:Nat):Int) (1001:Int))) ?_ (hr:=aK (n:=(if (1001:Int)<((sm:Nat)*(bP n:Nat):Int) then (1001:Int) else ((sm:Nat)*(bP n:Nat):Int))) kR (by simp only[fW]))))));refine lL a ac (lN (kX ?_));have l:k=ks.length:=by omega
    have j:=kj (d:=d) (op:=op) (n:=n) (q:=q) (s:=s) (ks:=ks) oM;have e:=mH (s:=(d9 (fun i=>bL d (ks.getD i di)) k)) (gB op n);rw[<-l] at j
    rw[<-j,<-z] at e;exact a.ret [] (iV (min ((sm:Nat)*(bP n:Nat):Int) (1001:Int))) (congrArg (Value.int .i64) (by rw[<-e];unfold ia;first|(rw[if_pos oM];(repeat' split)<;>omega)|(rw[if_neg oM,if_pos oM,MQ];(repeat' split)<;>omega)|(rw[if_neg oM,if_neg oM];(repeat' split)<;>omega)))
   have F:=eq_of_beq y;refine lB 36 y (lL a ac (ak (kQ (lL a ac (lI 38 ((sm:Nat)*2) ?_)))));refine lL a ac (aG (lL a ax (lV 48 (iV (min ((sm:Nat)*2:Int) (1001:Int))) ?_ (hr:=aK (n:=(if (1001:Int)<((sm:Nat)*2:Int) then (1001:Int) else ((sm:Nat)*2:Int))) kR (by simp only[fW])))));refine lL a ac (lN (kX ?_));have l:k=ks.length:=by omega
   have j:=kj (d:=d) (op:=op) (n:=n) (q:=q) (s:=s) (ks:=ks) oM;have e:=mH (s:=(d9 (fun i=>bL d (ks.getD i di)) k)) (gB op n);rw[<-l] at j
   rw[<-j,<-z] at e;exact a.ret [] (iV (min ((sm:Nat)*2:Int) (1001:Int))) (congrArg (Value.int .i64) (by rw[<-e];unfold ia;first|(rw[if_pos oM];(repeat' split)<;>omega)|(rw[if_neg oM,if_pos oM,MQ];(repeat' split)<;>omega)|(rw[if_neg oM,if_neg oM];(repeat' split)<;>omega)))
  have H:=oT u;refine lB 18 u (ag (ck (cK (cQ (kZ (aA (lX 19 A ps.length c 9 (k:Nat) k ((a.f.2.1).ok oM) ?_)))))));refine lH 20 (bW (ps.getD k cM)) a ((a.f.2.1).el k oM) (lA 7 51 ca a (fun b13 _ _ a=>lP 0 0 (dd (ps.getD k cM)) a (fun _ a=>aG (lL a [.c,.o (bW (ps.getD k cM)) 0 0 9,.c] (ar 24 a (ih (ps.getD k cM) (ks.getD k di) _ _ a.g ((a.f.1).at_ k oM) (hW k oM)) (fun _ X a=>lI 25 ((sm:Nat)+((min (bL d (ks.getD k di)) 1001:Nat):Int)) (lL a ac (lV 27 (iV ((min (d9 (fun i=>bL d (ks.getD i di)) (k+1)) 1001:Nat):Int)) ?_ (hr:=aK (n:=if (1001:Int)<((sm:Nat)+((min (bL d (ks.getD k di)) 1001:Nat):Int)) then (1001:Int) else ((sm:Nat)+((min (bL d (ks.getD k di)) 1001:Nat):Int))) kR (by split<;>omega))))))))));refine lL a ac (aG (lL a ax ?_));cases J:((((min (d9 (fun i=>bL d (ks.getD i di)) (k+1)) 1001:Nat):Int):Int) == (1001:Int))
  .
   have Y:=aj J;refine lB 30 J (ah (cK (kQ (bw 32 ((k:Nat)+1) (k+1) ?_))));refine lL a ac (lD ?_);intro a_ ka;replace a:=a.drop 1 0;refine ⟨_,_,?_,⟨k+1,(min (d9 (fun i=>bL d (ks.getD i di)) (k+1)) 1001),X,rfl,rfl,a.to _ _,oM,rfl⟩,ka.to _ kR⟩
   omega
  have Y:=eq_of_beq J;exact lB 30 J (ak (aa a ax (ae a [] (iV 1001) (congrArg (Value.int .i64) (by have Z:=o6 (fun i=>bL d (ks.getD i di)) (show k+1<=ks.length by omega);have h2_:=uu (d:=d) (op:=op) (n:=n) (q:=q) (s:=s) (ks:=ks) oM;omega)))))
 have D:=eq_of_beq x;exact lB 11 x (ak (aa a [.c,.v (iV 1),.c] (ae a [] (iV 1) (congrArg (Value.int .i64) (by rw[Ca oM];first|rfl|omega)))))
theorem rD (ok:ByteArray->Prop):∀ (d:Nat) (p:PTm) (t:Tm) (w:World) (h:Hp),G w h->TmH d h p t->WfT ok d t ->  Calls Tryz.prog 86 #[bW p,iV 1001] w (Ret w h (fun v _=>v=iV ((min (bL d t) 1001:Nat):Int)))
  | 0,_,_,_,_,_,x,_=>x.elim
  | d + 1,p,t,w,h,g,x,wf=>by
    obtain ⟨op,n,q,s,A,c,ps,ks,rfl,rfl,l,j,a⟩:=x.open;obtain ⟨w1,w2,w3,f,y,u,o,z,i⟩:=wf
    have e:ps.length<=2:=by
      have B:gQ op=ks.length:=w1;have:=aF op;have:=a.len
      omega
    exact xz ok d (fun p t w h=>rD ok d p t w h) op n q s A c ps ks l e w1 w2 w3 f y u o z i w h g j a
structure PLt where
  s:ByteArray
  q:Rat
def JZ:PLt:=⟨⟨#[]⟩,0⟩
structure RLt where
  s:ByteArray
  neg:Bool
  zA:Z9
  zn:Nat
  zc:Nat
  dA:Z9
  dn:Nat
  dc:Nat
def RLt.t (r:RLt):RT:=(r.neg,.slice r.zA r.zn r.zc,.slice r.dA r.dn r.dc)
def J6:RLt:=⟨⟨#[]⟩,false,none,0,0,none,0,0⟩
structure RLs (h:Hp) (rs:List RLt) (ps:List PLt):Prop where
  len:rs.length=ps.length
  at_:∀ i,i<ps.length->(rs.getD i J6).s=(ps.getD i JZ).s/\RZ h (rs.getD i J6).t (ps.getD i JZ).q
theorem iz {ks:List Tm}{op:Int}(h:gQ op=ks.length):ks=[]\/(∃ t,ks=[t])\/∃ t u,ks=[t,u]:=by
 have:=aF op
 rcases ks with _|⟨t,_|⟨u,_|⟨v,l⟩⟩⟩
 ·exact .inl rfl
 ·exact .inr (.inl ⟨t,rfl⟩)
 ·exact .inr (.inr ⟨t,u,rfl⟩)
 ·simp only[uA] at h;omega
theorem rM {d m:Nat}{op n:Int}{q:Rat}{s:ByteArray}{a:Tm}(h:bL (d+1) (.mk op n q s [a])<=m):bL d a<=m:=by
 have c:=uu (d:=d) (op:=op) (n:=n) (q:=q) (s:=s) (ks:=[a]) (Pa _);have e:d9 (fun i=>bL d (([a]:List Tm).getD i di)) ([a]:List Tm).length=0+bL d a:=rfl
 omega
theorem rX {d m:Nat}{op n:Int}{q:Rat}{s:ByteArray}{c a:Tm}(h:bL (d+1) (.mk op n q s [c,a])<=m):bL d c<=m/\bL d a<=m:=by
 have f:=uu (d:=d) (op:=op) (n:=n) (q:=q) (s:=s) (ks:=[c,a]) (Pa _);have e:d9 (fun i=>bL d (([c,a]:List Tm).getD i di)) ([c,a]:List Tm).length=0+bL d c+bL d a:=rfl
 omega
theorem pq {α:Type}:∀ {l:List α},l.length=2->∃ a b,l=[a,b]
 | [a,b],_=>⟨a,b,rfl⟩
 | [],h=>by simp only[Pb] at h;omega
 | [_],h=>by simp only[uA,Pb] at h;omega
 | _::_::_::_,h=>by simp only[uA] at h;omega
def MH (m:Nat)(op n:Int)(x y:Int × Rat × List Rat):Int × Rat × List Rat :=
  if x.1≠0 then (x.1,0,[]) else if y.1≠0 then (y.1,0,[]) else if oc op n x.2.1 y.2.1≠0 then (oc op n x.2.1 y.2.1,0,[])
  else (0,Mu op n 0 x.2.1 y.2.1,(o2 m).map fun i=>Mv op n x.2.1 y.2.1*x.2.2.getD i 0+MG op x.2.1 y.2.1*y.2.2.getD i 0)
def I6 (ix:ByteArray->Nat)(at_:List Rat):Nat->Tm->Int × Rat × List Rat
  | 0,_=>(0,0,[])
  | d+1,t =>
    if t.op=1 then (0,t.q,Af at_.length 0)
    else if t.op=2 then (0,at_.getD (ix t.s) 0,mL at_.length (ix t.s))
    else MH at_.length t.op t.n (if 0<t.ks.length then I6 ix at_ d (t.ks.getD 0 di) else (0,0,[])) (if 1<t.ks.length then I6 ix at_ d (t.ks.getD 1 di) else (0,0,[]))
structure Whole (lo:Nat) (h:Hp) (b:Nat) (ty:TypeId) (vs:List Value):Prop where
  lo:lo<=b
  ty0:(ty == 0)=false
  at_:h[b]?=some (.cells vs.toArray ty (0,0))
structure Poked (h h':Hp) (b:Nat):Prop where
  oth:∀ c,c≠b->c<h.size->h'[c]?=h[c]?
section laws
variable {M:Ms}{P:Program}{n:Nat}{N R:Po}{X:Nat->Po}{ops:Array Oper}{k k0:Nat}{hr:Hp}{AL:List Al}{L:Array Bool}{Γ:cC}{w:World}{h:Hp}{w0:World}{h0:Hp}{B:List Bx}{Rs:List Rw}{F:List (Hp->Prop)}
theorem Lg (t ty vs)(s:SS w0 h0 w h B Rs F)(H:∀ b w' a,Up w h w' a->h.size<=b->SS w0 h0 w' a (⟨b,ty,vs⟩::B) Rs F->LG P n N R X ops (k+1) ((t,.pointer (some ⟨b,0,none⟩))::Γ) w')(c:cL ops Γ k t n=true:=by kernel_rfl)
  (hr:(execOp (ev Γ) (am ops k)).run P w=.ok (.value (.pointer (some ⟨w.heap.size,0,none⟩))) (w.alloc (.cells vs.toArray ty (0,0))):=by kernel_rfl):LG P n N R X ops k Γ w :=
 LG.var t ty vs s.st (bS c).1 (bS c).2 hr (fun b w' a d u e=>H b w' a u d (s.new u d e))
theorem UpM.put2 {M2:List Nat}{wa w':World}{ha:Hp}{b:Nat}(u:UpM M2 wa ha w h)(p:Put b w w')(f:ha.size<=b)(ga:G wa ha)(g:G w' h):UpM M2 wa ha w' h :=
 ⟨⟨p.os.trans u.mo.os,p.tape.trans u.mo.tape,p.output.trans u.mo.output,by rw[p.size];exact u.mo.size,fun c a d=>(p.blk c (fun e=>by subst e;have:=ga.size;omega)).trans (u.mo.blk c a d)⟩,u.gr,g⟩
end laws
theorem SS.takeL {w0:World}{h0:Hp}{w:World}{h:Hp}{B:List Bx}{F:List (Hp->Prop)}(s:SS w0 h0 w h B [] F){b:Nat}{ty:TypeId}{vs:List Value}(p:h0.size<=b)(d:h[b]?=some (.cells vs.toArray ty (0,0)))(i:(ty == 0)=false:=by kernel_rfl):
  ∃ j,SS w0 h0 w j (⟨b,ty,vs⟩::B) [] []:=by
 have f:=aW d;have o:h[b]?≠some bp:=fun e=>by
  rw[e] at d;injection d with d;unfold bp at d;injection d with h1 h2 h3;rw[<-h2] at i;cases i
 have y:G w (h.setIfInBounds b bp):=⟨by simp;exact s.g.size,fun c=>by
  by_cases e:b=c
  ·subst e;right;rw[Bs f]
  ·rw[la e];exact s.g.blk c⟩
 have C:Gr h0 (h.setIfInBounds b bp):=⟨by simp;exact s.st.up.gr.size,fun c l=>by rw[la oM];exact s.st.up.gr.blk c l⟩
 have u:Own w b ty vs:=by
  rcases s.g.blk b with e|e
  ·exact e.symm.trans d
  ·exact absurd e o
 refine ⟨h.setIfInBounds b bp,s.g0,⟨⟨s.st.up.ext,C,y⟩,?_,?_,?_,?_⟩,fun _ a=>(by cases a),.nil,fun _ a=>(by cases a),trivial⟩
 ·intro x a
  rcases hC.1 a with rfl|a
  ·exact u
  ·exact s.st.own x a
 ·intro x a
  rcases hC.1 a with rfl|a
  ·exact Bs f
  ·by_cases e:b=x.b
   ·rw[<-e];exact Bs f
   ·rw[la e];exact s.st.jk x a
 ·intro x a
  rcases hC.1 a with rfl|a
  ·exact p
  ·exact s.st.lo x a
 ·show (b::B.map (·.b)).Nodup
  refine List.nodup_cons.2 ⟨fun z=>?_,s.st.nd⟩;obtain ⟨x,a,e⟩:=g3.1 z;exact o (e▸s.st.jk x a)
abbrev xG (q:Rat)(A:Z9)(m c:Nat):Value:=.agg #[.bool (af q.num),.int .u64 (lo (ab q.num)),.string (hi (ab q.num)),.int .u64 (lo (qd q)),.string (hi (qd q)),.slice A m c]
def fd (f:Nat->Rat)(m k:Nat):List Rat:=(o2 m).map fun i=>if i<k then f i else 0
theorem mr (f:Nat->Rat)(m):Af m (0:Rat)=fd f m 0:=by
 unfold fd;refine mS (by simp) fun i=>?_
 by_cases hi:i<m
 ·simp[hi]
 ·rw[dX (by simp;omega),dX (by simp;omega)]
theorem jp {f:Nat->Rat}{m k:Nat}(hk:k<m):(fd f m k).set k (f k)=fd f m (k+1):=by
 unfold fd;refine mS (by simp) fun i=>?_
 by_cases hi:i<m
 ·rw[cH (by simpa using hk)]
  by_cases e:i=k
  ·subst e;simp[hi]
  ·rw[if_neg e];simp[hi]
   by_cases h2:i<k
   ·rw[if_pos h2,if_pos oM]
   ·rw[if_neg h2,if_neg oM]
 ·rw[dX (by simp;omega),dX (by simp;omega)]
theorem IS (f:Nat->Rat)(m):((o2 m).map fun i=>f i).length=m:=by simp
theorem Bz (m i):(mL m i).length=m:=by unfold mL;simp
theorem jD (f:Nat->Rat)(m):fd f m m=(o2 m).map fun i=>f i:=by
 unfold fd;refine List.map_congr_left fun i hi=>?_
 rw[if_pos (List.mem_range.1 hi)]
theorem vn (c:Z9)(m e:Nat)(J:m<=1000)(q:Rat)(hk:Hp)(w:World)(h:Hp)(g:G w h)(hz:hk.size<=h.size):CR 309 #[.agg #[.slice c m e],qv q] w h (fun v h1=>∃ y,v=xG q (sB y) m m/\Nw hk.size h1 y 48 ((Af m (0:Rat)).flatMap qc)):=by
 have a:=sS g;refine go Tryz.func309 [(0,.agg #[qS c m e]),(1,qv q)] rfl (aA (lA 2 143 ([qS c m e]) a (fun z w2 H a=>lA 3 48 (qc q) a (fun B I F a=>lA 4 90 ([qF,uV 0,eS,uV 0,eS,sZ]) a (fun C K D a=>ag (cR 6 [] mixed a ao ?_))))));refine eO 0 5 [(1,0,5)] (qv q) a (eV 1 6 (pB z) (eO 2 7 [(2,0,1)] (qS c m e) a (eV 3 8 (nV m) (eK 4 9 48 m 5 56 cA qc 0 a (fun p _ _ a=>?_)))));have x:(Af m 0).length=m:=by simp
 refine eV 5 10 (qY q (sB p) m m) (bM a (fun _ _ a=>tP 6 1 0 (qZ q (sB p) m m) a (fun _ a=>tN (kX ?_))));obtain ⟨_,a,j,i,u⟩:=a.pub 0;replace a:=(a.to [⟨C,90,qZ q (sB p) m m⟩,⟨B,48,qc q⟩,⟨z,143,[qS c m e]⟩] []).aS (SlO.of_flat (sz:=5) (f:=qc) (d:=0) (b:=p) (o:=0) (l:=Af m 0) (fun _=>rfl) j);exact a.ret [(0,0,6)] (qY q (sB p) m m) (⟨_,rfl,ep hz i,by decide,u⟩)
theorem LH (x m z)(hm:m<=1000)(K D)(hK1:1<=K)(hKD:K<=1000000)(hD:D<=20000000)(a ga u y)(hla:ga.length=m)(ha:LQ K a)(O:∀ i,LQ D (ga.getD i 0))(b gb p cb)(hlb:gb.length=m)(W:LQ K b)(J:∀ i,LQ D (gb.getD i 0))(w h)(g:G w h)(M:Sq u ga h)(Q:Sq p gb h)(tb:Tab h):CR 308 #[.agg #[.slice x m z],qY a u ga.length y,qY b p gb.length cb] w h (fun v h1=>∃ bk,v=xG (a*b) (sB bk) ((o2 m).map fun i=>ga.getD i 0*b+a*gb.getD i 0).length m/\Sq (sB bk) ((o2 m).map fun i=>ga.getD i 0*b+a*gb.getD i 0) h1):=by
 have e:=((((sS g).aS M).aS Q).add (K:=fun F=>Tab F) tb);refine go Tryz.func308 [(0,.agg #[qS x m z]),(1,qY a u ga.length y),(2,qY b p gb.length cb)] rfl (aA (lA 3 143 ([qS x m z]) e (fun U w2 h3 e=>lA 4 90 (qZ a u ga.length y) e (fun B w5 h6 e=>lA 5 90 (qZ b p gb.length cb) e (fun C w8 h9 e=>lA 6 90 ([qF,uV 0,eS,uV 0,eS,sZ]) e (fun I _ _ e=>ag ?_))))));have hsr:=e;refine cR 8 [⟨7,7,.cells (Oj [qF,uV 0,eS,uV 0,eS,sZ]) 90 (0,0)⟩] mixed e (bR (fS kR (fun _ _=>by kernel_rfl)) ao) (eO 0 9 [(3,0,1)] (.agg #[qS x m z]) e (eV 1 10 (pB B) (eO 2 11 [(2,0,5)] (qv a) e (eV 3 12 (pB C) (eO 4 13 [(1,0,5)] (qv b) e ?_)))));have bl:=LQ.mul ha W;refine au 5 14 e (fun _ _ e=>qH a b (LQ.mono ha oM) (LQ.mono W oM) _ _ e.g e.f.1) (fun _ _ e=>eC 6 15 e (fun _ _ e=>vn x m z hm (a*b) h _ _ e.g e.st.sz) ?_);rintro _ _ _ _ _ e ⟨j,rfl,Z⟩;replace e:=(e.add (K:=fun F=>Nw h.size F j 48 ((Af m (0:Rat)).flatMap qc)) Z);refine jh [] hsr e 90 [qF,uV 0,eS,uV 0,eS,sZ] (fun _ _ H e=>tP 8 0 0 (qZ (a*b) (sB j) m m) e (fun _ e=>tN (cQ (aA ?_))));obtain ⟨zi,e⟩:=e.takeL (e.f.1).1 (e.f.1).2.2;replace e:=e.aS (M.gw e.st.up.gr.gw);replace e:=e.aS (Q.gw e.st.up.gr.gw);replace e:=e.add (K:=fun F=>Tab F) (tb.gw e.st.up.gr.gw);replace e:=e.to [⟨j,48,((Af m 0)).flatMap qc⟩,⟨H,90,qZ (a*b) (sB j) m m⟩,⟨I,90,[qF,uV 0,eS,uV 0,eS,sZ]⟩,⟨C,90,qZ b p gb.length cb⟩,⟨B,90,qZ a u ga.length y⟩,⟨U,143,[qS x m z]⟩] [];refine lL e [.v (qP H 5),.o (qS (sB j) m m) 1 5 1,.v (nV m),.c] (aZ ?_);refine bH _ (CG.loop (fun μ_ Γ w_=>∃ (k:Nat)(L:List Rat)(F:Hp),μ_=m-k/\Γ=[(4,pB B),(5,pB C),(6,pB I),(7,pB H),(18,nV m),(19,nV k)]/\SS w h w_ F [⟨j,48,(L).flatMap qc⟩,⟨H,90,qZ (a*b) (sB j) m m⟩,⟨I,90,[qF,uV 0,eS,uV 0,eS,sZ]⟩,⟨C,90,qZ b p gb.length cb⟩,⟨B,90,qZ a u ga.length y⟩,⟨U,143,[qS x m z]⟩] [] [fun F=>Tab F,Sq p gb,Sq u ga]/\k<=m/\L.length=m/\L=fd (fun i=>ga.getD i 0*b+a*gb.getD i 0) m k) _ ⟨0,Af m 0,zi,rfl,rfl,e.to _ _,NY _,O4,(mr _ _)⟩ ?_);rintro _ _ _ ⟨k,L,_,bd,rfl,e,hk,X,Y⟩;refine aA ?_;cases V:(decide ((k:Int)<(m:Int)))
 .
  have zf:=oF V;refine lB 20 V (ag (dE (CG.exit ?_)))
  show CG _ _ _ _ _ _ _ _
  refine aa e [.o (qY (a*b) (sB j) m m) 1 0 6] (lP 2 0 (qZ (a*b) (sB j) m m) e (fun _ e=>lN (kX ?_)));have hkm:k=m:=by omega
  rw[hkm,jD] at Y;subst Y;replace e:=e.to [⟨j,48,(((o2 m).map fun i=>ga.getD i 0*b+a*gb.getD i 0)).flatMap qc⟩,⟨H,90,qZ (a*b) (sB j) m m⟩,⟨I,90,qZ (a*b) (sB j) m m⟩,⟨C,90,qZ b p gb.length cb⟩,⟨B,90,qZ a u ga.length y⟩,⟨U,143,[qS x m z]⟩] [];obtain ⟨_,e,S,bm,bb⟩:=e.pub 0;replace e:=(e.to [⟨H,90,qZ (a*b) (sB j) m m⟩,⟨I,90,qZ (a*b) (sB j) m m⟩,⟨C,90,qZ b p gb.length cb⟩,⟨B,90,qZ a u ga.length y⟩,⟨U,143,[qS x m z]⟩] []).aS (SlO.of_flat (sz:=5) (f:=qc) (d:=0) (b:=j) (o:=0) (l:=((o2 m).map fun i=>ga.getD i 0*b+a*gb.getD i 0)) (fun _=>rfl) S);exact e.ret [(1,0,6)] (qY (a*b) (sB j) m m) (⟨_,by rw[IS],e.f.1⟩)
 have zf:=oT V;refine lB 20 V (ag (ck (cK (cQ (kZ (aa e ax (lN (cR 20 [] mixed e ao ?_))))))));refine eV 0 22 (qP H 5) (eO 1 23 [(1,5,1)] (qS (sB j) m m) e (eV 2 24 (nV k) (eV 3 25 (qP B 5) (eO 4 26 [(4,5,1)] (qS u ga.length y) e (eV 5 27 (nV k) (eX 6 28 u ga.length y 5 (k:Nat) k ((e.f.r.1).ok oM) (eH 7 29 (qv (ga.getD k 0)) e ((e.f.r.1).el k oM) (eV 8 30 (pB C) (eO 9 31 [(3,0,5)] (qv b) e (eV 11 33 (pB B) (eO 12 34 [(4,0,5)] (qv a) e (eV 13 35 (qP C 5) (eO 14 36 [(3,5,1)] (qS p gb.length cb) e (eV 15 37 (nV k) (eX 16 38 p gb.length cb 5 (k:Nat) k ((e.f.2.1).ok oM) (eH 17 39 (qv (gb.getD k 0)) e ((e.f.2.1).el k oM) ?_))))))))))))))));have zd:=LQ.mul (O k) W;refine au 10 32 e (fun _ _ e=>qH (ga.getD k 0) b (LQ.mono (O k) oM) (LQ.mono W oM) _ _ e.g e.f.1) (fun _ _ e=>?_);have ze:=LQ.mul ha (J k);refine au 18 40 e (fun _ _ e=>qH a (gb.getD k 0) (LQ.mono ha oM) (LQ.mono (J k) oM) _ _ e.g e.f.1) (fun _ _ e=>?_);have bj:=LQ.add zd ze;refine au 19 41 e (fun _ _ e=>CZ ((ga.getD k 0)*b) (a*(gb.getD k 0)) (LQ.mono zd oM) (LQ.mono ze oM) _ _ e.g e.f.1) (fun _ _ e=>bM e (fun _ zj e=>tX 20 42 (sB j) m m 5 (k:Nat) k rfl (tW 21 0 L qc 5 k (((ga.getD k 0)*b)+(a*(gb.getD k 0))) e oM (fun _ e=>?_))));have zg:((L).set k (((ga.getD k 0)*b)+(a*(gb.getD k 0)))).length=m:=by rw[NI];exact X
 replace e:=e.to [⟨j,48,((L).set k (((ga.getD k 0)*b)+(a*(gb.getD k 0)))).flatMap qc⟩,⟨H,90,qZ (a*b) (sB j) m m⟩,⟨I,90,[qF,uV 0,eS,uV 0,eS,sZ]⟩,⟨C,90,qZ b p gb.length cb⟩,⟨B,90,qZ a u ga.length y⟩,⟨U,143,[qS x m z]⟩] [];refine tN (kQ (bw 43 ((k:Nat)+1) (k+1) ?_));refine lL e ac (lD ?_);intro a_ ka;refine ⟨_,_,?_,⟨k+1,(L).set k (((ga.getD k 0)*b)+(a*(gb.getD k 0))),zj,rfl,rfl,e.to _ _,oM,zg,(by rw[Y];exact jp oM)⟩,ka.to _ kR⟩
 omega
theorem IA (e m j)(O:m<=1000)(fs)(L:fs.length=m)(i)(M:i<m)(w h)(g:G w h)(F:Sq e fs h):CR 306 #[.agg #[.slice e m j],nV i] w h (fun v h1=>∃ J,v=xG (fs.getD i 0) (sB J) (mL m i).length m/\Sq (sB J) (mL m i) h1):=by
 have a:=((sS g).aS F);have H:(Af m (0:Rat)).length=m:=O4;refine go Tryz.func306 [(0,.agg #[qS e m j]),(1,nV i)] rfl (aA (lA 2 143 ([qS e m j]) a (fun x w2 X a=>lA 4 90 ([qF,uV 0,eS,uV 0,eS,sZ]) a (fun y Y W a=>ag ?_))));have B:=a;refine cR 8 [⟨7,5,.cells (Oj [qF,uV 0,eS,uV 0,eS,sZ]) 90 (0,0)⟩] mixed a (bR (fS kR (fun _ _=>by kernel_rfl)) ao) (eO 0 6 [(1,0,1)] (.agg #[qS e m j]) a (eV 1 7 (pB x) (eO 2 8 [(1,0,1)] (qS e m j) a (eV 3 9 (nV i) (eX 4 10 e m j 5 (i:Nat) i ((a.f.1).ok oM) (eH 5 11 (qv (fs.getD i 0)) a ((a.f.1).el i oM) (eC 6 12 a (fun _ _ a=>vn e m j O (fs.getD i 0) h _ _ a.g a.st.sz) ?_)))))));rintro _ _ _ V U a ⟨c,rfl,z⟩;replace a:=(a.add (K:=fun Q=>Nw h.size Q c 48 ((Af m (0:Rat)).flatMap qc)) z);refine jh [] B a 90 [qF,uV 0,eS,uV 0,eS,sZ] (fun S _ u a=>tP 8 0 0 (qZ (fs.getD i 0) (sB c) m m) a (fun _ a=>tN (cQ ?_)));obtain ⟨_,a⟩:=a.takeL (a.f.1).1 (a.f.1).2.2;replace a:=a.aS (F.gw a.st.up.gr.gw);replace a:=a.to [⟨c,48,((Af m 0)).flatMap qc⟩,⟨u,90,qZ (fs.getD i 0) (sB c) m m⟩,⟨y,90,[qF,uV 0,eS,uV 0,eS,sZ]⟩,⟨x,143,[qS e m j]⟩] [];refine cR 4 [] mixed a ao (eV 0 13 (qP u 5) (eO 1 14 [(1,5,1)] (qS (sB c) m m) a (eV 2 15 (nV i) (au 3 16 a (fun _ _ a=>vh (1) kD kD _ _ a.g) (fun _ _ a=>bM a (fun _ _ a=>tX 4 17 (sB c) m m 5 (i:Nat) i rfl (tW 5 0 (Af m 0) qc 5 i ((1:Int):Rat) a oM (fun _ a=>?_))))))));have C:(((Af m 0)).set i ((1:Int):Rat)).length=m:=by rw[NI];exact O4
 replace a:=a.to [⟨c,48,(((Af m 0)).set i ((1:Int):Rat)).flatMap qc⟩,⟨u,90,qZ (fs.getD i 0) (sB c) m m⟩,⟨y,90,[qF,uV 0,eS,uV 0,eS,sZ]⟩,⟨x,143,[qS e m j]⟩] [];refine rm (lL a [.o (qY (fs.getD i 0) (sB c) m m) 1 0 6] (lP 2 0 (qZ (fs.getD i 0) (sB c) m m) a (fun _ a=>lN (kX ?_))));replace a:=a.to [⟨c,48,(((Af m 0)).set i ((1:Int):Rat)).flatMap qc⟩,⟨u,90,qZ (fs.getD i 0) (sB c) m m⟩,⟨y,90,qZ (fs.getD i 0) (sB c) m m⟩,⟨x,143,[qS e m j]⟩] [];obtain ⟨_,a,p,D,I⟩:=a.pub 0;replace a:=(a.to [⟨u,90,qZ (fs.getD i 0) (sB c) m m⟩,⟨y,90,qZ (fs.getD i 0) (sB c) m m⟩,⟨x,143,[qS e m j]⟩] []).aS (SlO.of_flat (sz:=5) (f:=qc) (d:=0) (b:=c) (o:=0) (l:=((Af m 0)).set i ((1:Int):Rat)) (fun _=>rfl) p);exact a.ret [(1,0,6)] (qY (fs.getD i 0) (sB c) m m) (⟨_,by rw[Bz],a.f.1⟩)
theorem vu {f:Nat->Rat}{m i:Nat}(h:i<m):((o2 m).map fun i=>f i).getD i 0=f i:=by simp[h]
theorem tU {f:Nat->Rat}{m i:Nat}(h:m<=i):((o2 m).map fun i=>f i).getD i 0=0:=dX (by simp;exact h)
theorem CO (i):([]:List Rat).getD i 0=0:=by simp
theorem iU (m i):(Af m (0:Rat)).getD i 0=0:=BS i
section
variable {m:Nat}{op n:Int}{a b:Rat}{ga gb:List Rat}{f:Nat->Rat}
theorem eP (h1:op=6->b≠0)(f:op=8->n<0->a≠0)(h:(op=9\/op=10)->a≠0)(e:(op=12\/op=13)->a≠b):oc op n a b=0:=by
 unfold oc;rw[if_pos ⟨h1,f⟩,if_neg];rintro (⟨c,d⟩|⟨c,d⟩)
 ·exact h c d
 ·exact e c d
theorem GO (h:(op=6/\b=0)\/(op=8/\n<0/\a=0)):oc op n a b=6:=if_neg (fun k=>by
 rcases h with ⟨h1,h2⟩|⟨h1,h2,h3⟩
 ·exact k.1 h1 h2
 ·exact k.2 h1 h2 h3)
theorem GD (h:(op=9\/op=10)/\a=0\/(op=12\/op=13)/\a=b):oc op n a b=7:=by
 unfold oc;rw[if_pos ⟨fun e=>by omega,fun e=>by omega⟩,if_pos (show Dl op a b from h)]
end
section
variable {m:Nat}{n:Int}{a:Rat}{ga:List Rat}
theorem DQ {a:Rat}(h:a.num.sign=0):a=0:=OW.1 (O7.1 h)
theorem iM {a:Rat}(h:a.num.sign≠0):a≠0:=fun e=>h (by rw[e];rfl)
theorem Jh {a:Rat}(h:a≠0):a.num≠0:=fun e=>h (OW.1 e)
theorem LD {a:Rat}(h:0<a.num.sign):a.num.sign=1:=by have:=Pc a.num;omega
theorem Fz {a:Rat}(h:a.num.sign<0):a.num.sign = -1:=by have:=Pc a.num;omega
end
def eE (a b:List Rat)(i:Nat):Nat->Rat
  | 0=>0
  | j+1=>eE a b i j+a.getD j 0*b.getD (i-j) 0
def bB (m:Nat)(q:Rat):List Rat:=(Af m (0:Rat)).set 0 q
def ii (m:Nat)(x y:Rat):List Rat:=if 1<m then (bB m x).set 1 y else bB m x
def dB (m:Nat)(a b:List Rat):List Rat:=(o2 m).map fun i=>eE a b i (i+1)
def gZ (a:List Rat)(m:Nat):Nat->List Rat
  | 0=>Af m 0
  | i+1=>(gZ a m i).set i (if i=0 then ((1:Int):Rat)/a.getD 0 0 else -(eE (gZ a m i) a i i*(gZ a m i).getD 0 0))
def bI (m:Nat)(a:List Rat):List Rat:=gZ a m m
theorem ct (m q):(bB m q).length=m:=by simp[bB]
theorem m9 (m x y):(ii m x y).length=m:=by unfold ii;split<;>simp[bB]
theorem fL (m a b):(dB m a b).length=m:=by simp[dB]
theorem fK (a m):∀ k,(gZ a m k).length=m
 | 0=>by simp[gZ]
 | k+1=>by unfold gZ;rw[NI];exact fK a m k
theorem gm (m a):(bI m a).length=m:=fK a m m
theorem nM {m:Nat}(h:0<m)(q):(bB m q).getD 0 0=q:=by
 unfold bB;rw[cH (by simpa using h),if_pos rfl]
theorem sQ {m i:Nat}(q)(h:i≠0):(bB m q).getD i 0=0:=by
 unfold bB;by_cases hm:0<m
 ·rw[cH (by simpa using hm),if_neg h,iU]
 ·rw[Pd (by simp;omega),iU]
theorem G5 {m:Nat}(x y)(h:1<m):(bB m x).set 1 y=ii m x y:=by unfold ii;rw[if_pos h]
theorem G9 {m:Nat}(x y)(h:¬1<m):bB m x=ii m x y:=by unfold ii;rw[if_neg h]
theorem pF {m i:Nat}(a b)(h:i<m):(dB m a b).getD i 0=eE a b i (i+1):=vu h
theorem Bc {m i:Nat}(a b)(h:m<=i):(dB m a b).getD i 0=0:=tU h
section
variable {a b:List Rat}{m i j k:Nat}
theorem Dm {f:Nat->Rat}(h:i<m):(fd f m k).getD i 0=if i<k then f i else 0:=vu h
theorem ll (f:Nat->Rat)(m k):(fd f m k).length=m:=by simp[fd]
theorem xh {l:List Rat}(h:i<l.length)(e:l.getD i 0=0):l=l.set i 0:=by
 refine mS (by simp) fun t=>?_
 rw[cH h];split
 ·rename_i a;subst a;exact e
 ·rfl
theorem If (h:i<m):fd (fun i=>eE a b i (i+1)) m i=(fd (fun i=>eE a b i (i+1)) m i).set i (eE a b i 0) :=
 xh (by rw[ll];exact h) (by rw[Dm h,if_neg (Nat.lt_irrefl i)])
theorem GX {S:List Rat}(c:S.length=m)(h:i<m):(S.set i (eE a b i j)).set i ((S.set i (eE a b i j)).getD i 0+a.getD j 0*b.getD (i-j) 0)=S.set i (eE a b i (j+1)):=by
 rw[List.set_set,cH oM,if_pos rfl];rfl
theorem Ia {S:List Rat}(a:S.length=m)(h:i<m)(c):(S.set i c).getD i 0=c:=by rw[cH oM,if_pos rfl]
theorem Eb (h:i<m)(e:j=i+1):(fd (fun i=>eE a b i (i+1)) m i).set i (eE a b i j)=fd (fun i=>eE a b i (i+1)) m (i+1):=by
 subst e;exact jp (f:=fun i=>eE a b i (i+1)) h
theorem ET:fd (fun i=>eE a b i (i+1)) m m=dB m a b:=jD _ _
theorem AR (h:1<=i):(gZ a m i).set i (-(eE (gZ a m i) a i i*(gZ a m i).getD 0 0))=gZ a m (i+1):=by
 show _=(gZ a m i).set i (if i=0 then _ else _)
 rw[if_neg oM]
theorem kK (hk:k<=m):∀ {n},k<=n->i<k->(gZ a m n).getD i 0=(gZ a m k).getD i 0
  | n,hn,hi=>by
    obtain ⟨e,rfl⟩:∃ e,n=k+e:=⟨n-k,by omega⟩
    induction e with
    | zero=>rfl
    | succ e ih =>
      rw[<-ih oM];show ((gZ a m (k+e)).set (k+e) _).getD i 0=_
      by_cases hm:k+e<m
      . rw[cH (by rw[fK];exact hm),if_neg oM]
      . rw[Pd (by rw[fK];omega)]
theorem uf:∀ {k},k<=i->(gZ a m k).getD i 0=0
  | 0,_=>iU m i
  | k+1,h=>by
    show ((gZ a m k).set k _).getD i 0=0
    by_cases hm:k<m
    . rw[cH (by rw[fK];exact hm),if_neg oM];exact uf oM
    . rw[Pd (by rw[fK];omega)];exact uf oM
theorem E6 {K:Nat}(c:1<=K)(h:∀ i,LQ K ((bI m a).getD i 0))(hk:k<=m)(i):LQ K ((gZ a m k).getD i 0):=by
 by_cases hi:i<k
 ·rw[<-kK hk hk hi];exact h i
 ·rw[uf oM];exact o7 c
end
def dh (m:Nat)(a b:List Rat):List Rat:=(o2 m).map fun i=>a.getD i 0+b.getD i 0
def dD (m:Nat)(a:List Rat)(k:Rat):List Rat:=(o2 m).map fun i=>a.getD i 0*k
theorem gn (m a b):(dh m a b).length=m:=by simp[dh]
theorem fO (m a k):(dD m a k).length=m:=by simp[dD]
theorem vY {m i:Nat}(a b)(h:i<m):(dh m a b).getD i 0=a.getD i 0+b.getD i 0:=vu h
theorem py {m i:Nat}(a k)(h:i<m):(dD m a k).getD i 0=a.getD i 0*k:=vu h
theorem jo {a b c:List Rat}{i:Nat}:∀ j,(∀ t,t<j->a.getD t 0=c.getD t 0)->eE a b i j=eE c b i j
  | 0,_=>rfl
  | j+1,h=>by
    show eE a b i j+a.getD j 0*_=eE c b i j+c.getD j 0*_
    rw[jo j (fun t d=>h t oM),h j (Pe j)]
theorem wg {a:List Rat}{m i j:Nat}(d:j<=i)(hi:i<=m):eE (gZ a m i) a i j=eE (bI m a) a i j :=
 jo j fun t c=>(kK hi hi oM).symm
theorem rR (i:Z9)(e x:Nat)(z:Z9)(j u:Nat)(n:Nat)(hn:n<=12)(q:Rat)(hk:Hp)(w:World)(h:Hp)(g:G w h)(hz:hk.size<=h.size):CR 301 #[.agg #[.slice i e x,.slice z j u,nV n],qv q] w h (fun v h1=>∃ J,v=.slice (sB J) (n+1) (n+1)/\Nw hk.size h1 J 48 ((bB (n+1) q).flatMap qc)):=by
 have a:=sS g;have H:(Af (n+1) (0:Rat)).length=n+1:=O4;refine go Tryz.func301 [(0,.agg #[qS i e x,qS z j u,nV n]),(1,qv q)] rfl (aA (lA 2 109 ([qS i e x,qS z j u,nV n]) a (fun D w2 O a=>lA 3 48 (qc q) a (fun F Q M a=>lL a ac (aG (lL a [.v (qP D 2),.o (nV n) 1 2 1] (bw 8 ((n:Nat)+1) (n+1) ?_)))))));refine lK 9 48 (n+1) 5 56 cA qc 0 a (fun C S L a=>?_);have K:(Af (n+1) (0:Rat)).length=(n+1):=by simp
 refine lL a ac (aG (lL a [.c,.o (qv q) 1 0 5] (lX 12 (sB C) (n+1) (n+1) 5 0 0 rfl ?_)));refine lW 0 (Af (n+1) (0:Rat)) qc 5 0 q a oM (fun _ a=>?_);have I:((Af (n+1) (0:Rat)).set 0 q).length=(n+1):=by rw[NI];exact K
 replace a:=a.to [⟨C,48,((Af (n+1) (0:Rat)).set 0 q).flatMap qc⟩,⟨F,48,qc q⟩,⟨D,109,[qS i e x,qS z j u,nV n]⟩] [];refine aG (lL a ax (lN (kX ?_)));obtain ⟨_,a,p,B,y⟩:=a.pub 0;replace a:=(a.to [⟨F,48,qc q⟩,⟨D,109,[qS i e x,qS z j u,nV n]⟩] []).aS (SlO.of_flat (sz:=5) (f:=qc) (d:=0) (b:=C) (o:=0) (l:=(Af (n+1) (0:Rat)).set 0 q) (fun _=>rfl) p);exact a.ret [] (qS (sB C) (n+1) (n+1)) (⟨_,rfl,ep hz B,by decide,y⟩)
theorem gh (c a p x i j n)(hn:n<=12)(q w h)(g:G w h):Calls Tryz.prog 301 #[.agg #[.slice c a p,.slice x i j,nV n],qv q] w (Ret w h (fun v h1=>∃ y,v=.slice (sB y) (bB (n+1) q).length (n+1)/\Sq (sB y) (bB (n+1) q) h1)) :=
 (rR c a p x i j n hn q h w h g (nR _)).mono fun e w' ⟨v,B,D,u,b,z,C⟩=>⟨v,B,D,u,b,by rw[ct];exact z,SlO.of_flat (sz:=5) (f:=qc) (d:=0) (b:=b) (o:=0) (l:=bB (n+1) q) (fun _=>rfl) C.seg0⟩
theorem KH (x u C D y z n)(hn:n<=12)(e F I)(hla:e.length=n+1)(M:∀ i,LQ 39500000 (e.getD i 0))(j B cb)(hlb:j.length=n+1)(J:∀ i,LQ 39500000 (j.getD i 0))(w h)(g:G w h)(W:Sq F e h)(Z:Sq B j h)(tb:Tab h):CR 296 #[.agg #[.slice x u C,.slice D y z,nV n],.slice F e.length I,.slice B j.length cb] w h (fun v h1=>∃ bk,v=.slice (sB bk) (dh (n+1) e j).length (n+1)/\Sq (sB bk) (dh (n+1) e j) h1):=by
 have a:=((((sS g).aS W).aS Z).add (K:=fun Q=>Tab Q) tb);refine go Tryz.func296 [(0,.agg #[qS x u C,qS D y z,nV n]),(1,qS F e.length I),(2,qS B j.length cb)] rfl (aA (lA 3 109 ([qS x u C,qS D y z,nV n]) a (fun O w2 h3 a=>lL a ac (aG (lL a [.v (qP O 2),.o (nV n) 0 2 1] (bw 11 ((n:Nat)+1) (n+1) ?_))))));refine lK 12 48 (n+1) 5 56 cA qc 0 a (fun p w5 h6 a=>?_);have hl7:(Af (n+1) 0).length=(n+1):=by simp
 refine lL a ac (ag (aa a [.c,.v (nV (n+1)),.c] (aZ ?_)));refine bH _ (CG.loop (fun X Γ w_=>∃ (k:Nat)(L:List Rat)(Q:Hp),X=n+1-k/\Γ=[(1,qS F e.length I),(2,qS B j.length cb),(6,sZ),(7,qS (sB p) (n+1) (n+1)),(14,nV (n+1)),(15,nV k)]/\SS w h w_ Q [⟨p,48,(L).flatMap qc⟩,⟨O,109,[qS x u C,qS D y z,nV n]⟩] [] [fun Q=>Tab Q,Sq B j,Sq F e]/\k<=n+1/\L.length=n+1/\L=fd (fun i=>e.getD i 0+j.getD i 0) (n+1) k) _ ⟨0,(Af (n+1) (0:Rat)),h6,rfl,rfl,a.to _ _,NY _,O4,(mr _ _)⟩ ?_);rintro _ _ w8 ⟨k,L,h9,bl,rfl,a,hk,U,V⟩;refine aA ?_;cases S:(decide ((k:Int)<(((n+1):Nat):Int)))
 .
  have zb:=oF S;refine lB 16 S (ag (dE (CG.exit ?_)))
  show CG _ _ _ _ _ _ _ _
  refine aa a ax (lN (kX ?_));have Y:k=n+1:=by omega
  rw[Y,jD] at V;subst V;replace a:=a.to [⟨p,48,(((o2 (n+1)).map fun i=>e.getD i 0+j.getD i 0)).flatMap qc⟩,⟨O,109,[qS x u C,qS D y z,nV n]⟩] [];obtain ⟨_,a,H,bb,bj⟩:=a.pub 0;replace a:=(a.to [⟨O,109,[qS x u C,qS D y z,nV n]⟩] []).aS (SlO.of_flat (sz:=5) (f:=qc) (d:=0) (b:=p) (o:=0) (l:=((o2 (n+1)).map fun i=>e.getD i 0+j.getD i 0)) (fun _=>rfl) H);exact a.ret [] (qS (sB p) (n+1) (n+1)) (⟨_,by rw[gn],a.f.1⟩)
 have zb:=oT S;refine lB 16 S (ag (ck (cK (cQ (kZ (aa a ax (lN (cR 11 [] mixed a ao ?_))))))));refine eV 0 18 (qS (sB p) (n+1) (n+1)) (eV 1 19 (nV k) (eV 2 20 (qS F e.length I) (eV 3 21 (nV k) (eX 4 22 F e.length I 5 (k:Nat) k ((a.f.r.1).ok oM) (eH 5 23 (qv (e.getD k 0)) a ((a.f.r.1).el k oM) (eV 6 24 (qS B j.length cb) (eV 7 25 (nV k) (eX 8 26 B j.length cb 5 (k:Nat) k ((a.f.2.1).ok oM) (eH 9 27 (qv (j.getD k 0)) a ((a.f.2.1).el k oM) ?_)))))))));have bd:=LQ.add (M k) (J k);refine au 10 28 a (fun _ _ a=>CZ (e.getD k 0) (j.getD k 0) (LQ.mono (M k) oM) (LQ.mono (J k) oM) _ _ a.g a.f.1) (fun _ _ a=>bM a (fun _ zd a=>tX 11 29 (sB p) (n+1) (n+1) 5 (k:Nat) k rfl (tW 12 0 L qc 5 k ((e.getD k 0)+(j.getD k 0)) a oM (fun _ a=>?_))));have zc:((L).set k ((e.getD k 0)+(j.getD k 0))).length=(n+1):=by rw[NI];exact U
 replace a:=a.to [⟨p,48,((L).set k ((e.getD k 0)+(j.getD k 0))).flatMap qc⟩,⟨O,109,[qS x u C,qS D y z,nV n]⟩] [];refine tN (kQ (bw 30 ((k:Nat)+1) (k+1) ?_));refine lL a ac (lD ?_);intro a_ ka;refine ⟨_,_,?_,⟨k+1,(L).set k ((e.getD k 0)+(j.getD k 0)),zd,rfl,rfl,a.to _ _,oM,zc,(by rw[V];exact jp oM)⟩,ka.to _ kR⟩
 omega
theorem FL (x u B C y z n)(hn:n<=12)(e D H)(hla:e.length=n+1)(J:∀ i,LQ 39500000 (e.getD i 0))(j)(M:LQ 1 j)(w h)(g:G w h)(W:Sq D e h)(tb:Tab h):CR 302 #[.agg #[.slice x u B,.slice C y z,nV n],.slice D e.length H,qv j] w h (fun v h1=>∃ bk,v=.slice (sB bk) (dD (n+1) e j).length (n+1)/\Sq (sB bk) (dD (n+1) e j) h1):=by
 have a:=(((sS g).aS W).add (K:=fun Q=>Tab Q) tb);refine go Tryz.func302 [(0,.agg #[qS x u B,qS C y z,nV n]),(1,qS D e.length H),(2,qv j)] rfl (aA (lA 3 109 ([qS x u B,qS C y z,nV n]) a (fun O w2 h3 a=>lA 5 48 (qc j) a (fun F w5 h6 a=>lL a ac (aG (lL a [.v (qP O 2),.o (nV n) 1 2 1] (bw 11 ((n:Nat)+1) (n+1) ?_)))))));refine lK 12 48 (n+1) 5 56 cA qc 0 a (fun p w8 h9 a=>?_);have bl:(Af (n+1) 0).length=(n+1):=by simp
 refine lL a ac (ag (aa a [.c,.v (nV (n+1)),.c] (aZ ?_)));refine bH _ (CG.loop (fun X Γ w_=>∃ (k:Nat)(L:List Rat)(Q:Hp),X=n+1-k/\Γ=[(1,qS D e.length H),(5,pB F),(6,sZ),(7,qS (sB p) (n+1) (n+1)),(14,nV (n+1)),(15,nV k)]/\SS w h w_ Q [⟨p,48,(L).flatMap qc⟩,⟨F,48,qc j⟩,⟨O,109,[qS x u B,qS C y z,nV n]⟩] [] [fun Q=>Tab Q,Sq D e]/\k<=n+1/\L.length=n+1/\L=fd (fun i=>e.getD i 0*j) (n+1) k) _ ⟨0,(Af (n+1) (0:Rat)),h9,rfl,rfl,a.to _ _,NY _,O4,(mr _ _)⟩ ?_);rintro _ _ _ ⟨k,L,_,bb,rfl,a,hk,U,V⟩;refine aA ?_;cases S:(decide ((k:Int)<(((n+1):Nat):Int)))
 .
  have zb:=oF S;refine lB 16 S (ag (dE (CG.exit ?_)))
  show CG _ _ _ _ _ _ _ _
  refine aa a ax (lN (kX ?_));have Y:k=n+1:=by omega
  rw[Y,jD] at V;subst V;replace a:=a.to [⟨p,48,(((o2 (n+1)).map fun i=>e.getD i 0*j)).flatMap qc⟩,⟨F,48,qc j⟩,⟨O,109,[qS x u B,qS C y z,nV n]⟩] [];obtain ⟨_,a,I,bj,bd⟩:=a.pub 0;replace a:=(a.to [⟨F,48,qc j⟩,⟨O,109,[qS x u B,qS C y z,nV n]⟩] []).aS (SlO.of_flat (sz:=5) (f:=qc) (d:=0) (b:=p) (o:=0) (l:=((o2 (n+1)).map fun i=>e.getD i 0*j)) (fun _=>rfl) I);exact a.ret [] (qS (sB p) (n+1) (n+1)) (⟨_,by rw[fO],a.f.1⟩)
 have zb:=oT S;refine lB 16 S (ag (ck (cK (cQ (kZ (aa a ax (lN (cR 8 [] mixed a ao ?_))))))));refine eV 0 18 (qS (sB p) (n+1) (n+1)) (eV 1 19 (nV k) (eV 2 20 (qS D e.length H) (eV 3 21 (nV k) (eX 4 22 D e.length H 5 (k:Nat) k ((a.f.2.1).ok oM) (eH 5 23 (qv (e.getD k 0)) a ((a.f.2.1).el k oM) (eO 6 24 [(1,0,5)] (qv j) a ?_))))));have Z:=LQ.mul (J k) M;refine au 7 25 a (fun _ _ a=>qH (e.getD k 0) j (LQ.mono (J k) oM) (LQ.mono M oM) _ _ a.g a.f.1) (fun _ _ a=>bM a (fun _ zd a=>tX 8 26 (sB p) (n+1) (n+1) 5 (k:Nat) k rfl (tW 9 0 L qc 5 k ((e.getD k 0)*j) a oM (fun _ a=>?_))));have zc:((L).set k ((e.getD k 0)*j)).length=(n+1):=by rw[NI];exact U
 replace a:=a.to [⟨p,48,((L).set k ((e.getD k 0)*j)).flatMap qc⟩,⟨F,48,qc j⟩,⟨O,109,[qS x u B,qS C y z,nV n]⟩] [];refine tN (kQ (bw 27 ((k:Nat)+1) (k+1) ?_));refine lL a ac (lD ?_);intro a_ ka;refine ⟨_,_,?_,⟨k+1,(L).set k ((e.getD k 0)*j),zd,rfl,rfl,a.to _ _,oM,zc,(by rw[V];exact jp oM)⟩,ka.to _ kR⟩
 omega
theorem JJ (D C J M H I n)(hn:n<=12)(e z S)(hla:e.length=n+1)(X:∀ i,LQ 39500000 (e.getD i 0))(p y cb)(hlb:p.length=n+1)(W:∀ i,LQ 39500000 (p.getD i 0))(hcv:∀ i j,i<=n->j<=i+1->LQ 39500000 (eE e p i j))(w h)(g:G w h)(hSa:Sq z e h)(hSb:Sq y p h)(tb:Tab h):CR 300 #[.agg #[.slice D C J,.slice M H I,nV n],.slice z e.length S,.slice y p.length cb] w h (fun v h1=>∃ bk,v=.slice (sB bk) (dB (n+1) e p).length (n+1)/\Sq (sB bk) (dB (n+1) e p) h1):=by
 have a:=((((sS g).aS hSa).aS hSb).add (K:=fun B=>Tab B) tb);refine go Tryz.func300 [(0,.agg #[qS D C J,qS M H I,nV n]),(1,qS z e.length S),(2,qS y p.length cb)] rfl (aA (lA 3 109 ([qS D C J,qS M H I,nV n]) a (fun U w2 h3 a=>lL a ac (aG (lL a [.v (qP U 2),.o (nV n) 0 2 1] (bw 12 ((n:Nat)+1) (n+1) ?_))))));refine lK 13 48 (n+1) 5 56 cA qc 0 a (fun x w5 h6 a=>?_);have hl7:(Af (n+1) 0).length=(n+1):=by simp
 refine lL a ac (ag (aa a [.c,.v (nV (n+1)),.c] (aZ ?_)));refine bH _ (CG.loop (fun Q Γ w_=>∃ (i:Nat)(L:List Rat)(B:Hp),Q=n+1-i/\Γ=[(1,qS z e.length S),(2,qS y p.length cb),(6,sZ),(7,qS (sB x) (n+1) (n+1)),(15,nV (n+1)),(16,nV i)]/\SS w h w_ B [⟨x,48,(L).flatMap qc⟩,⟨U,109,[qS D C J,qS M H I,nV n]⟩] [] [fun B=>Tab B,Sq y p,Sq z e]/\i<=n+1/\L.length=n+1/\L=fd (fun Z=>eE e p Z (Z+1)) (n+1) i) _ ⟨0,(Af (n+1) (0:Rat)),h6,rfl,rfl,a.to _ _,NY _,O4,(mr _ _)⟩ ?_);rintro _ _ w8 ⟨i,L,h9,bm,rfl,a,hi,hL1,hL⟩;refine aA ?_;cases za:(decide ((i:Int)<(((n+1):Nat):Int)))
 .
  have zd:=oF za;refine lB 17 za (ag (dE (CG.exit ?_)))
  show CG _ _ _ _ _ _ _ _
  refine aa a ax (lN (kX ?_));have hkm:i=n+1:=by omega
  rw[hkm,ET] at hL;subst hL;replace a:=a.to [⟨x,48,((dB (n+1) e p)).flatMap qc⟩,⟨U,109,[qS D C J,qS M H I,nV n]⟩] [];obtain ⟨_,a,V,bd,bl⟩:=a.pub 0;replace a:=(a.to [⟨U,109,[qS D C J,qS M H I,nV n]⟩] []).aS (SlO.of_flat (sz:=5) (f:=qc) (d:=0) (b:=x) (o:=0) (l:=(dB (n+1) e p)) (fun _=>rfl) V);exact a.ret [] (qS (sB x) (n+1) (n+1)) (⟨_,by rw[fL],a.f.1⟩)
 have zd:=oT za;refine lB 17 za (ag (ck (cK (cQ (kZ (aa a ax (aG (lL a ac (bw 20 ((i:Nat)+1) (i+1) ?_)))))))));refine lL a ac (aZ ?_);refine bH _ (CG.loop (fun Q Γ w_=>∃ (j:Nat)(u:List Rat)(B:Hp),Q=i+1-j/\Γ=[(1,qS z e.length S),(2,qS y p.length cb),(6,sZ),(7,qS (sB x) (n+1) (n+1)),(15,nV (n+1)),(16,nV i),(8,nV i),(20,nV (i+1)),(21,nV j)]/\SS w h w_ B [⟨x,48,(u).flatMap qc⟩,⟨U,109,[qS D C J,qS M H I,nV n]⟩] [] [fun B=>Tab B,Sq y p,Sq z e]/\j<=i+1/\u.length=n+1/\u=(fd (fun Z=>eE e p Z (Z+1)) (n+1) i).set i (eE e p i j)) _ ⟨0,L,h9,rfl,rfl,a.to _ _,NY _,hL1,(by rw[hL];exact If oM)⟩ ?_);rintro _ _ _ ⟨j,u,zg,bj,rfl,a,hj,Y,O⟩;have F:LQ 39500000 (u.getD i 0):=by rw[O,Ia (ll _ _ _) oM];exact hcv i j oM hj
 refine aA ?_;cases zb:(decide ((j:Int)<((i+1:Nat):Int)))
 .
  have ze:=oF zb;refine lB 22 zb (ag (dE (CG.exit ?_)))
  show CG _ _ _ _ _ _ _ _
  refine kQ (bw 44 ((i:Nat)+1) (i+1) ?_);refine lL a ac (lD ?_);intro a_ ka;refine ⟨_,_,?_,⟨i+1,u,zg,rfl,rfl,a.to _ _,oM,Y,(by rw[O];exact Eb oM oM)⟩,ka.to _ kR⟩
  omega
 have ze:=oT zb;refine lB 22 zb (ag (ck (cK (cQ (kZ (aa a ax (lN (cR 18 [] mixed a ao ?_))))))));refine eV 0 24 (qS (sB x) (n+1) (n+1)) (eV 1 25 (nV i) (eV 2 26 (qS (sB x) (n+1) (n+1)) (eV 3 27 (nV i) (eX 4 28 (sB x) (n+1) (n+1) 5 (i:Nat) i rfl (eQ 5 29 0 u qc 5 0 i (qv ((u).getD i 0)) a oM (eV 6 30 (qS z e.length S) (eV 7 31 (nV j) (eX 8 32 z e.length S 5 (j:Nat) j ((a.f.r.1).ok oM) (eH 9 33 (qv (e.getD j 0)) a ((a.f.r.1).el j oM) (eV 10 34 (qS y p.length cb) (eV 11 35 (nV i) (eV 12 36 (nV j) (eI 13 37 ((i:Nat)-(j:Nat)) (eX 14 38 y p.length cb 5 ((i:Nat)-(j:Nat)) (i-j) ((a.f.2.1).ok oM) (eH 15 39 (qv (p.getD (i-j) 0)) a ((a.f.2.1).el (i-j) oM) ?_)))))))))))))));have zc:=LQ.mul (X j) (W (i-j));refine au 16 40 a (fun _ _ a=>qH (e.getD j 0) (p.getD (i-j) 0) (LQ.mono (X j) oM) (LQ.mono (W (i-j)) oM) _ _ a.g a.f.1) (fun _ _ a=>?_);have bb:=LQ.add F zc;refine au 17 41 a (fun _ _ a=>CZ ((u).getD i 0) ((e.getD j 0)*(p.getD (i-j) 0)) (LQ.mono F oM) (LQ.mono zc oM) _ _ a.g a.f.1) (fun _ _ a=>bM a (fun _ zi a=>tX 18 42 (sB x) (n+1) (n+1) 5 (i:Nat) i rfl (tW 19 0 u qc 5 i (((u).getD i 0)+((e.getD j 0)*(p.getD (i-j) 0))) a oM (fun _ a=>?_))));have zf:((u).set i (((u).getD i 0)+((e.getD j 0)*(p.getD (i-j) 0)))).length=(n+1):=by rw[NI];exact Y
 replace a:=a.to [⟨x,48,((u).set i (((u).getD i 0)+((e.getD j 0)*(p.getD (i-j) 0)))).flatMap qc⟩,⟨U,109,[qS D C J,qS M H I,nV n]⟩] [];refine tN (kQ (bw 43 ((j:Nat)+1) (j+1) ?_));refine lL a ac (lD ?_);intro a_ ka;refine ⟨_,_,?_,⟨j+1,(u).set i (((u).getD i 0)+((e.getD j 0)*(p.getD (i-j) 0))),zi,rfl,rfl,a.to _ _,oM,zf,(by rw[O];exact GX (ll _ _ _) oM)⟩,ka.to _ kR⟩
 omega
theorem Ch (D C I J F H n)(hn:n<=12)(e y Q)(hla:e.length=n+1)(M:∀ i,LQ 39500000 (e.getD i 0))(hz:e.getD 0 0≠0)(hvi:∀ i,LQ 39500000 ((bI (n+1) e).getD i 0))(hcv:∀ i j,i<=n->j<=i->LQ 39500000 (eE (bI (n+1) e) e i j))(w h)(g:G w h)(hSa:Sq y e h)(tb:Tab h):CR 299 #[.agg #[.slice D C I,.slice J F H,nV n],.slice y e.length Q] w h (fun v h1=>∃ bk,v=.slice (sB bk) (bI (n+1) e).length (n+1)/\Sq (sB bk) (bI (n+1) e) h1):=by
 have a:=(((sS g).aS hSa).add (K:=fun O=>Tab O) tb);have bn:(Af (n+1) (0:Rat)).length=n+1:=O4;refine go Tryz.func299 [(0,.agg #[qS D C I,qS J F H,nV n]),(1,qS y e.length Q)] rfl (aA (lA 2 109 ([qS D C I,qS J F H,nV n]) a (fun B w2 h3 a=>lL a ac (aG (lL a [.v (qP B 2),.o (nV n) 0 2 1] (bw 11 ((n:Nat)+1) (n+1) ?_))))));refine lK 12 48 (n+1) 5 56 cA qc 0 a (fun p w5 h6 a=>?_);have hl7:(Af (n+1) (0:Rat)).length=(n+1):=by simp
 refine lL a ac (ag (cR 9 [] mixed a ao ?_));refine eV 0 14 (qS (sB p) (n+1) (n+1)) (eV 2 16 (qS y e.length Q) (eX 3 17 y e.length Q 5 0 0 ((a.f.2.1).ok oM) (eH 4 18 (qv (e.getD 0 0)) a ((a.f.2.1).el 0 oM) (au 1 15 a (fun _ _ a=>vh (1) kD kD _ _ a.g) (fun w8 h9 a=>?_)))));have bq:=LQ.div (LQ.lit (z:=1) kD) (M 0);refine au 5 19 a (fun _ _ a=>JE ((1:Int):Rat) (e.getD 0 0) (LQ.mono (LQ.lit (z:=1) kD) oM) (LQ.mono (M 0) oM) (Jh hz) _ _ a.g a.f.1) (fun _ _ a=>eV 6 13 (.tuple #[qv (((1:Int):Rat)/(e.getD 0 0)),qT]) (eV 7 20 (qv (((1:Int):Rat)/(e.getD 0 0))) (eV 8 21 qT (bM a (fun _ zj a=>tX 9 22 (sB p) (n+1) (n+1) 5 0 0 rfl (tW 10 0 (Af (n+1) (0:Rat)) qc 5 0 (((1:Int):Rat)/(e.getD 0 0)) a oM (fun _ a=>?_)))))));have bb:((Af (n+1) (0:Rat)).set 0 (((1:Int):Rat)/(e.getD 0 0))).length=(n+1):=by rw[NI];exact hl7
 replace a:=a.to [⟨p,48,((Af (n+1) (0:Rat)).set 0 (((1:Int):Rat)/(e.getD 0 0))).flatMap qc⟩,⟨B,109,[qS D C I,qS J F H,nV n]⟩] [];refine tN (cQ (aa a ac (aZ ?_)));refine bH _ (CG.loop (fun U Γ w_=>∃ (i:Nat)(L:List Rat)(O:Hp),U=n+1-i/\Γ=[(1,qS y e.length Q),(2,pB B),(4,sZ),(5,qS (sB p) (n+1) (n+1)),(6,nV i)]/\SS w h w_ O [⟨p,48,(L).flatMap qc⟩,⟨B,109,[qS D C I,qS J F H,nV n]⟩] [] [fun O=>Tab O,Sq y e]/\(1<=i/\i<=n+1)/\L.length=n+1/\L=(gZ e (n+1) i)) _ ⟨1,(gZ e (n+1) 1),zj,rfl,rfl,a.to _ _,⟨nR _,by omega⟩,(fK _ _ _),rfl⟩ ?_);rintro _ _ _ ⟨i,L,_,bl,rfl,a,hi,hL1,S⟩;have x:∀ k,LQ 39500000 (L.getD k 0):=fun k=>by rw[S];exact E6 kD hvi hi.2 k
 refine cQ (aa a [.c,.v (qP B 2),.o (nV n) 1 2 1] ?_);cases X:(decide ((i:Int)<=(n:Int)))
 .
  have zf:=oF X;refine lB 26 X (ah (CG.exit ?_))
  show CG _ _ _ _ _ _ _ _
  refine aa a ax (lN (kX ?_));have hkm:i=n+1:=by omega
  rw[hkm] at S;replace S:L=bI (n+1) e:=S;subst S;replace a:=a.to [⟨p,48,((bI (n+1) e)).flatMap qc⟩,⟨B,109,[qS D C I,qS J F H,nV n]⟩] [];obtain ⟨_,a,V,bd,br⟩:=a.pub 0;replace a:=(a.to [⟨B,109,[qS D C I,qS J F H,nV n]⟩] []).aS (SlO.of_flat (sz:=5) (f:=qc) (d:=0) (b:=p) (o:=0) (l:=(bI (n+1) e)) (fun _=>rfl) V);exact a.ret [] (qS (sB p) (n+1) (n+1)) (⟨_,by rw[gm],a.f.1⟩)
 have zf:=oT X;refine lB 26 X (ak (cK (cQ (kZ (aa a [.v cA] (lA 7 48 a6 a (fun Z _ zk a=>lP 0 0 a6 a (fun _ a=>ag (aa a ax (aZ ?_))))))))));refine bH _ (CG.loop (fun U Γ w_=>∃ (j:Nat)(O:Hp),U=i-j/\Γ=[(1,qS y e.length Q),(2,pB B),(4,sZ),(5,qS (sB p) (n+1) (n+1)),(6,nV i),(7,pB Z),(30,nV i),(31,nV j)]/\SS w h w_ O [⟨Z,48,qc (eE L e i j)⟩,⟨p,48,(L).flatMap qc⟩,⟨B,109,[qS D C I,qS J F H,nV n]⟩] [] [fun O=>Tab O,Sq y e]/\j<=i) _ ⟨0,zk,rfl,rfl,a.to _ _,NY _⟩ ?_);rintro _ _ _ ⟨j,_,bj,rfl,a,hj⟩;have u:LQ 39500000 (eE L e i j):=by rw[S,wg hj hi.2];exact hcv i j oM hj
 refine aA ?_;cases Y:(decide ((j:Int)<(i:Int)))
 .
  have zg:=oF Y;refine lB 32 Y (ag (dE (CG.exit ?_)))
  show CG _ _ _ _ _ _ _ _
  refine cR 8 [] mixed a ao (eV 0 48 (qS (sB p) (n+1) (n+1)) (eV 1 49 (nV i) ?_));have W:j=i:=by omega
  refine eO 2 50 [(0,0,5)] (qv (eE L e i j)) a (eV 3 51 (qS (sB p) (n+1) (n+1)) (eX 4 52 (sB p) (n+1) (n+1) 5 0 0 rfl (eQ 5 53 1 L qc 5 0 0 (qv ((L).getD 0 0)) a oM ?_)));have zd:=LQ.mul u (x 0);refine au 6 54 a (fun _ _ a=>qH (eE L e i j) ((L).getD 0 0) (LQ.mono u oM) (LQ.mono (x 0) oM) _ _ a.g a.f.1) (fun _ _ a=>?_);have bz:LQ (39500000+39500000) (-((eE L e i j)*((L).getD 0 0))):=LQ.neg zd;refine au 7 55 a (fun _ _ a=>KL ((eE L e i j)*((L).getD 0 0)) (LQ.mono zd oM) _ _ a.g) (fun _ _ a=>bM a (fun _ zl a=>tX 8 56 (sB p) (n+1) (n+1) 5 (i:Nat) i rfl (tW 9 1 L qc 5 i (-((eE L e i j)*((L).getD 0 0))) a oM (fun _ a=>?_))));have zi:((L).set i (-((eE L e i j)*((L).getD 0 0)))).length=(n+1):=by rw[NI];exact hL1
  replace a:=a.to [⟨Z,48,qc (eE L e i j)⟩,⟨p,48,((L).set i (-((eE L e i j)*((L).getD 0 0)))).flatMap qc⟩,⟨B,109,[qS D C I,qS J F H,nV n]⟩] [];refine tN (kQ (lL a ac (bw 28 ((i:Nat)+1) (i+1) ?_)));refine lL a ac (lD ?_);intro a_ ka;replace a:=a.drop 1 0;refine ⟨_,_,?_,⟨i+1,(L).set i (-((eE L e i j)*((L).getD 0 0))),zl,rfl,rfl,a.to _ _,oM,zi,(by rw[W,S];exact AR hi.1)⟩,ka.to _ kR⟩
  omega
 have zg:=oT Y;refine lB 32 Y (ag (ck (cK (cQ (kZ (aa a ax (lN (cR 13 [] mixed a ao ?_))))))));refine eO 0 34 [(0,0,5)] (qv (eE L e i j)) a (eV 1 35 (qS (sB p) (n+1) (n+1)) (eV 2 36 (nV j) (eX 3 37 (sB p) (n+1) (n+1) 5 (j:Nat) j rfl (eQ 4 38 1 L qc 5 0 j (qv ((L).getD j 0)) a oM (eV 5 39 (qS y e.length Q) (eV 6 40 (nV i) (eV 7 41 (nV j) (eI 8 42 ((i:Nat)-(j:Nat)) (eX 9 43 y e.length Q 5 ((i:Nat)-(j:Nat)) (i-j) ((a.f.2.1).ok oM) (eH 10 44 (qv (e.getD (i-j) 0)) a ((a.f.2.1).el (i-j) oM) ?_))))))))));have ze:=LQ.mul (x j) (M (i-j));refine au 11 45 a (fun _ _ a=>qH ((L).getD j 0) (e.getD (i-j) 0) (LQ.mono (x j) oM) (LQ.mono (M (i-j)) oM) _ _ a.g a.f.1) (fun _ _ a=>?_);have bm:=LQ.add u ze;refine au 12 46 a (fun _ _ a=>CZ (eE L e i j) (((L).getD j 0)*(e.getD (i-j) 0)) (LQ.mono u oM) (LQ.mono ze oM) _ _ a.g a.f.1) (fun _ _ a=>bM a (fun _ zm a=>tP 13 0 0 (qc ((eE L e i j)+(((L).getD j 0)*(e.getD (i-j) 0)))) a (fun _ a=>tN (kQ (bw 47 ((j:Nat)+1) (j+1) ?_)))));refine lL a ac (lD ?_);intro a_ ka;refine ⟨_,_,?_,⟨j+1,zm,rfl,rfl,a.to _ _,oM⟩,ka.to _ kR⟩
 omega
theorem EA (i e p u j o n)(hn:n<=12)(c d l)(y:c.length=n+1)(w h)(g:G w h)(x:Sq d c h):CV 297 #[.agg #[.slice i e p,.slice u j o,nV n],.slice d c.length l] w h (qv (c.getD 0 0)):=by
 have a:=((sS g).aS x);refine go Tryz.func297 [(0,.agg #[qS i e p,qS u j o,nV n]),(1,qS d c.length l)] rfl (aA (lA 2 109 ([qS i e p,qS u j o,nV n]) a (fun H w2 D a=>lA 4 48 a6 a (fun z F C a=>aG (lL a ac (lX 6 d c.length l 5 0 0 ((a.f.1).ok oM) ?_))))));exact lH 7 (qv (c.getD 0 0)) a ((a.f.1).el 0 oM) (lP 0 0 (qc (c.getD 0 0)) a (fun B a=>ae a [(0,0,5)] (qv (c.getD 0 0)) rfl))
theorem DU (p e y u j x n)(hn:n<=12)(fs ws)(X:fs.length=e)(hlw:ws.length=j)(i)(Y:i<e)(Z:i<j)(w h)(g:G w h)(S:Sq p fs h)(M:Sq u ws h):CR 298 #[.agg #[.slice p e y,.slice u j x,nV n],nV i] w h (fun v h1=>∃ V,v=.slice (sB V) (ii (n+1) (fs.getD i 0) (ws.getD i 0)).length (n+1)/\Sq (sB V) (ii (n+1) (fs.getD i 0) (ws.getD i 0)) h1):=by
 have a:=(((sS g).aS S).aS M);have D:=ct (n+1) (fs.getD i 0);refine go Tryz.func298 [(0,.agg #[qS p e y,qS u j x,nV n]),(1,nV i)] rfl (aA (lA 2 109 ([qS p e y,qS u j x,nV n]) a (fun C w2 h3 a=>lL a ac (ag (cR 7 [] mixed a ao ?_)))));refine eO 0 6 [(0,0,3)] (.agg #[qS p e y,qS u j x,nV n]) a (eV 1 7 (pB C) (eO 2 8 [(0,0,1)] (qS p e y) a (eV 3 9 (nV i) (eX 4 10 p e y 5 (i:Nat) i ((a.f.2.1).ok oM) (eH 5 11 (qv (fs.getD i 0)) a ((a.f.2.1).el i oM) (eC 6 12 a (fun _ _ a=>rR p e y u j x n hn (fs.getD i 0) h _ _ a.g a.st.sz) ?_))))));rintro _ _ _ w4 h5 a ⟨z,rfl,J⟩;replace a:=(a.add (K:=fun h_=>Nw h.size h_ z 48 ((bB (n+1) (fs.getD i 0)).flatMap qc)) J);refine bM a (fun w6 h7 a=>tV 7 5 (qS (sB z) (n+1) (n+1)) (tN (cQ ?_)));obtain ⟨h8,a⟩:=a.takeL (a.f.1).1 (a.f.1).2.2;replace a:=a.aS (S.gw a.st.up.gr.gw);replace a:=a.aS (M.gw a.st.up.gr.gw);replace a:=a.to [⟨z,48,((bB (n+1) (fs.getD i 0))).flatMap qc⟩,⟨C,109,[qS p e y,qS u j x,nV n]⟩] [];refine aa a [.v (qP C 2),.o (nV n) 1 2 1] ?_;cases B:(decide ((0:Int)<(n:Int)))
 .
  have H:=oF B;refine lB 15 B (ah (cK (aa a ax (lN (kX ?_)))));obtain ⟨_,a,I,O,Q⟩:=a.pub 0;replace a:=(a.to [⟨C,109,[qS p e y,qS u j x,nV n]⟩] []).aS (SlO.of_flat (sz:=5) (f:=qc) (d:=0) (b:=z) (o:=0) (l:=(bB (n+1) (fs.getD i 0))) (fun _=>rfl) I);exact a.ret [] (qS (sB z) (n+1) (n+1)) (⟨_,by rw[m9],(by rw[<-G9 _ _ oM];exact a.f.1)⟩)
 have H:=oT B;refine lB 15 B (ak (kQ (lL a [.c,.v (qP C 1),.o (qS u j x) 1 1 1,.c] (lX 20 u j x 5 (i:Nat) i ((a.f.1).ok oM) ?_))));refine lH 21 (qv (ws.getD i 0)) a ((a.f.1).el i oM) (lX 22 (sB z) (n+1) (n+1) 5 1 1 rfl (lW 0 (bB (n+1) (fs.getD i 0)) qc 5 1 (ws.getD i 0) a oM (fun _ a=>?_)));have L:(((bB (n+1) (fs.getD i 0))).set 1 (ws.getD i 0)).length=n+1:=by rw[NI];exact D
 replace a:=a.to [⟨z,48,(((bB (n+1) (fs.getD i 0))).set 1 (ws.getD i 0)).flatMap qc⟩,⟨C,109,[qS p e y,qS u j x,nV n]⟩] [];refine aG (lL a ax (lN (kX ?_)));obtain ⟨_,a,F,U,W⟩:=a.pub 0;replace a:=(a.to [⟨C,109,[qS p e y,qS u j x,nV n]⟩] []).aS (SlO.of_flat (sz:=5) (f:=qc) (d:=0) (b:=z) (o:=0) (l:=((bB (n+1) (fs.getD i 0))).set 1 (ws.getD i 0)) (fun _=>rfl) F);exact a.ret [] (qS (sB z) (n+1) (n+1)) (⟨_,by rw[m9],(by rw[<-G5 _ _ oM];exact a.f.1)⟩)
section
variable {op n:Int}{a b:Rat}{wa wb:Nat}
theorem Ev (h:oc op n a b=0):xn op n a b:=Decidable.byContradiction fun k=>by
 have:oc op n a b=6:=if_neg k
 omega
end
def SzR (W:Nat)(a:List Rat):Prop:=∃ (D:Int)(A:Nat->Int),D≠0/\D.natAbs<=18446744073709551616^W/\∀ i,a.getD i 0*((D^(i+1):Int):Rat)=((A i:Int):Rat)/\(A i).natAbs<=(18446744073709551616^W)^(i+1)
theorem J8 {D:Int}(h:D≠0)(n):D^n≠0:=by
 induction n with
 | zero=>simp
 | succ n ih=>rw[Pf];exact OU ih h
theorem K0 {D:Int}(h:D≠0)(n):((D^n:Int):Rat)≠0:=fun e=>J8 h n (by exact_mod_cast e)
theorem Bn {z:Int}{K:Nat}(h:z.natAbs<(2^64)^K):LQ (K+1) (z:Rat):=by
 refine ⟨?_,?_⟩
 ·rw[Rat.num_intCast];exact Nat.le_succ_of_le (fw kD h)
 ·rw[Rat.den_intCast];exact ep (dj.2 kD) (Nat.le_add_left 1 K)
theorem qx {q:Rat}{D A:Int}{W i:Nat}(c:D≠0)(h1:D.natAbs<=(2^64)^W)(e:q*((D^(i+1):Int):Rat)=(A:Rat))(a:A.natAbs<=(2^64)^(W*(i+1))):LQ (2*(W*(i+1))+4) q:=by
 have f:=K0 c (i+1);have eq:q=(A:Rat)/((D^(i+1):Int):Rat):=by rw[<-e];grind
 rw[eq];have up:∀ k:Nat,(2^64)^k<(2^64)^(k+1):=fun k=>Nat.pow_lt_pow_right kD (Pe k)
 have d:LQ (W*(i+1)+1+1) (A:Rat):=Bn (H1 a (up _));have l2:LQ (W*(i+1)+1+1) ((D^(i+1):Int):Rat):=Bn (H1 (by rw[Pg,M7];exact Ph h1 _) (up _));exact (d.div l2).mono oM
theorem SzR.lq {W:Nat}{a:List Rat}(h:SzR W a)(d:a.length<=13)(i):LQ (26*W+4) (a.getD i 0):=by
 by_cases hi:i<13
 ·obtain ⟨D,A,h0,h1,c⟩:=h
  have:=M5 W (show i+1<=13 by omega);exact (qx h0 h1 (c i).1 (by rw[M7];exact (c i).2)).mono oM
 ·rw[dX oM];exact o7 oM
theorem SzR.mono {W V:Nat}{a:List Rat}(h:SzR W a)(hv:W<=V):SzR V a:=by
 obtain ⟨D,A,h0,h1,c⟩:=h;have k:=M1 (show 0<(2^64) by decide) hv;exact ⟨D,A,h0,ep h1 k,fun i=>⟨(c i).1,ep (c i).2 (Ph k _)⟩⟩
theorem SzR.nil (W):SzR W []:=⟨1,fun _=>0,by decide,Nat.one_le_pow _ _ kD,fun i=>⟨by rw[CO];simp,NY _⟩⟩
theorem Fq (M i):2*M^(i+1)<=((2^64)*M)^(i+1):=by
 rw[Pi];refine z7 _ ?_;exact ep (by decide:2<=(2^64)^1) (M1 kD (Nat.succ_le_succ (NY i)))
theorem Eu (M i):(i+1)*M^(i+1)<=((2^64)*M)^(i+1):=by
 rw[Pi];refine z7 _ ?_;exact ep (Ok (Nat.lt_two_pow_self (n:=i+1))) (Ph kD _)
theorem kl (W V):(2^64)^(W+V+1)=(2^64)*((2^64)^W*(2^64)^V):=by
 rw[MP,M4,MQ]
theorem BJ {W V:Nat}{a b:List Rat}{D E:Int}{A B:Nat->Int}(h1:D.natAbs<=(2^64)^W)(f:∀ i,a.getD i 0*((D^(i+1):Int):Rat)=((A i:Int):Rat)/\(A i).natAbs<=((2^64)^W)^(i+1))
    (h:E.natAbs<=(2^64)^V)(k2:∀ i,b.getD i 0*((E^(i+1):Int):Rat)=((B i:Int):Rat)/\(B i).natAbs<=((2^64)^V)^(i+1))(i:Nat):∀ j,j<=i+1->∃ z:Int,eE a b i j*(((D*E)^(i+1):Int):Rat)=(z:Rat)/\z.natAbs<=j*((2^64)^W*(2^64)^V)^(i+1)
  | 0,_=>⟨0,by show (0:Rat)*_=_;simp,by simp⟩
  | j + 1,hj=>by
    obtain ⟨z,e,hz⟩:=BJ h1 f h k2 i j oM;obtain ⟨c,rfl⟩:∃ c,i=j+c:=⟨i-j,by omega⟩;obtain ⟨F,p⟩:=f j;obtain ⟨o,l⟩:=k2 c;refine ⟨z+A j*B c*(D^c*E^j),?_,?_⟩
    . show (eE a b (j+c) j+a.getD j 0*b.getD (j+c-j) 0)*_=_
      have d:(D*E)^(j+c+1)=D^(j+1)*E^(c+1)*(D^c*E^j):=by
        rw[Pj,show j+c+1=(j+1)+c by omega,Pk,show j+1+c=(c+1)+j by omega,Pk];grind
      rw[Nat.add_sub_cancel_left,Pl,e,d,Pm,Pn,Pn,Pn,Pn,Pn,<-F,<-o];grind
    . have u:(A j*B c*(D^c*E^j)).natAbs<=((2^64)^W*(2^64)^V)^(j+c+1):=by
        rw[Om,Om,Om,Pg,Pg];have d:((2^64)^W*(2^64)^V)^(j+c+1)=((2^64)^W)^(j+1)*((2^64)^V)^(c+1)*(((2^64)^W)^c*((2^64)^V)^j):=by
          generalize (2^64)^W=x
          generalize (2^64)^V=y
          have C:x^(j+c+1)=x^(j+1)*x^c:=by rw[<-M4];congr 1;omega
          have H:y^(j+c+1)=y^(c+1)*y^j:=by rw[<-M4];congr 1;omega
          rw[Pi,C,H];ac_rfl
        rw[d];exact NF (NF p l) (NF (Ph h1 _) (Ph h _))
      rw[zh];exact ep (OM _ _) (Pp hz u)
theorem SzR.cnvD {W V:Nat}{a b:List Rat}(ha:SzR W a)(h:SzR V b):∃ D:Int,D≠0/\D.natAbs<=(2^64)^(W+V+1)/\∀ i j,j<=i+1->∃ z:Int,eE a b i j*((D^(i+1):Int):Rat)=(z:Rat)/\z.natAbs<=((2^64)^(W+V+1))^(i+1):=by
 obtain ⟨D,A,h0,h1,f⟩:=ha;obtain ⟨E,B,k0,d,k2⟩:=h;refine ⟨D*E,OU h0 k0,?_,fun i j c=>?_⟩
 ·rw[Om,kl]
  exact ep (NF h1 d) (Oh _ kD)
 ·obtain ⟨z,e,hz⟩:=BJ h1 f d k2 i j c
  refine ⟨z,e,ep hz ?_⟩;rw[kl];exact ep (z7 _ c) (Eu _ i)
theorem SzR.lq_cnv {W V:Nat}{a b:List Rat}(ha:SzR W a)(d:SzR V b){i j:Nat}(hi:i<=12)(f:j<=i+1):LQ (26*(W+V+1)+4) (eE a b i j):=by
 obtain ⟨D,h0,h1,c⟩:=ha.cnvD d;obtain ⟨z,e,hz⟩:=c i j f;have:=M5 (W+V+1) (show i+1<=13 by omega);exact (qx h0 h1 e (by rw[M7];exact hz)).mono oM
theorem SzR.mul {W V:Nat}{a b:List Rat}(ha:SzR W a)(d:SzR V b)(m):SzR (W+V+1) (dB m a b):=by
 obtain ⟨D,h0,h1,c⟩:=ha.cnvD d;refine ⟨D,fun i=>if i<m then (c i (i+1) (ek _)).choose else 0,h0,h1,fun i=>?_⟩
 dsimp only;by_cases hi:i<m
 ·rw[if_pos hi,pF a b hi];exact (c i (i+1) (ek _)).choose_spec
 ·rw[if_neg hi,Bc a b oM];exact ⟨by simp,NY _⟩
theorem SzR.add {W V:Nat}{a b:List Rat}(ha:SzR W a)(j:SzR V b)(m):SzR (W+V+1) (dh m a b):=by
  obtain ⟨D,A,h0,h1,d⟩:=ha;obtain ⟨E,B,k0,c,k2⟩:=j;refine ⟨D*E,fun i=>if i<m then A i*E^(i+1)+B i*D^(i+1) else 0,OU h0 k0,?_,fun i=>?_⟩
  . rw[Om,kl]
    exact ep (NF h1 c) (Oh _ kD)
  . dsimp only
    by_cases hi:i<m
    . rw[if_pos hi,vY a b hi]
      obtain ⟨l,h⟩:=d i;obtain ⟨f,e⟩:=k2 i;refine ⟨?_,?_⟩
      . rw[Pj,Pm,Pn,Pn,Pn,<-l,<-f];grind
      . rw[kl]
        refine ep (OM _ _) (ep ?_ (Fq _ i));rw[Om,Om,Pg,Pg,Nat.two_mul,Pi];refine Pp (NF h (Ph c _)) ?_;rw[MQ];exact NF (Ph h1 _) e
    . rw[if_neg hi];exact ⟨by rw[show (dh m a b).getD i 0=0 from tU oM];simp,NY _⟩
theorem SzR.neg {W:Nat}{a:List Rat}(ha:SzR W a)(m):SzR W (dD m a ((-1:Int):Rat)):=by
 obtain ⟨D,A,h0,h1,c⟩:=ha;refine ⟨D,fun i=>if i<m then -A i else 0,h0,h1,fun i=>?_⟩
 dsimp only;by_cases hi:i<m
 ·rw[if_pos hi,py a _ hi]
  refine ⟨?_,by rw[ON];exact (c i).2⟩;have d:((-A i:Int):Rat) = -((A i:Int):Rat):=by rw[Pq]
  rw[d,<-(c i).1,Mg];grind
 ·rw[if_neg hi];exact ⟨by rw[show (dD m a _).getD i 0=0 from tU oM];simp,NY _⟩
theorem B8 {a:List Rat}{m:Nat}(h:0<m):(bI m a).getD 0 0=((1:Int):Rat)/a.getD 0 0:=by
 unfold bI;rw[kK (k:=1) h h Nat.zero_lt_one]
 show ((Af m (0:Rat)).set 0 _).getD 0 0=_
 rw[cH (by simpa using h),if_pos rfl,if_pos rfl]
theorem CA {a:List Rat}{m i:Nat}(h:i<m)(h0:0<i):(bI m a).getD i 0 = -(eE (bI m a) a i i*(bI m a).getD 0 0):=by
 conv=>lhs;unfold bI
 rw[kK (k:=i+1) h h (Pe i),<-AR h0,cH (by rw[fK];exact h),if_pos rfl,wg (ek i) (Ok h)]
 congr 2
 exact (kK (Ok h) (Ok h) h0).symm
theorem Bh {a:List Rat}{m i:Nat}(h:m<=i):(bI m a).getD i 0=0:=dX (by rw[gm];exact h)
theorem Gy {W:Nat}{a:List Rat}{D:Int}{A:Nat->Int}(h0:D≠0)(d:∀ i,a.getD i 0*((D^(i+1):Int):Rat)=((A i:Int):Rat)/\(A i).natAbs<=((2^64)^W)^(i+1))(ha:a.getD 0 0≠0)(m):
    ∀ i,i<m->∃ C:Int,(bI m a).getD i 0*(((A 0*D)^(i+1):Int):Rat)=((D*D*C:Int):Rat)/\C.natAbs<=2^i*((2^64)^W)^(2*i):=by
  intro i;induction i using Nat.strongRecOn with
  | _ i ih =>
    intro hi;have F:((A 0:Int):Rat)=a.getD 0 0*(D:Rat):=by rw[<-(d 0).1,z6,Pf,Pr,Ps]
    have f:(bI m a).getD 0 0=((1:Int):Rat)/a.getD 0 0:=B8 oM;have c:(bI m a).getD 0 0*((A 0:Int):Rat)=(D:Rat):=by rw[f,F,i1];grind
    by_cases e0:i=0
    . subst e0
      refine ⟨1,?_,by simp⟩;rw[z6,Pf,Pr,Ps,Int.mul_one,Pn,Pn,<-Pt,c]
    . have key:∀ j,j<=i->∃ Z:Int,eE (bI m a) a i j*(bI m a).getD 0 0*(((A 0*D)^(i+1):Int):Rat)=((D*D*Z:Int):Rat)/\Z.natAbs<=(2^j-1)*((2^64)^W)^(2*i):=by
        intro j;induction j with
        | zero=>intro _;exact ⟨0,by show (0:Rat)*_*_=_;simp,by simp⟩
        | succ j ij =>
          intro M;obtain ⟨Z,K,p⟩:=ij oM;obtain ⟨C,c1,c2⟩:=ih j oM oM;obtain ⟨e,rfl⟩:∃ e,i=j+1+e:=⟨i-j-1,by omega⟩;obtain ⟨l,u⟩:=d (e+1);refine ⟨Z+C*A (e+1)*A 0^e,?_,?_⟩
          . show (eE (bI m a) a (j+1+e) j+(bI m a).getD j 0*a.getD (j+1+e-j) 0)*_*_=_
            rw[show j+1+e-j=e+1 by omega,Pl,Pl,K];have z:(A 0*D)^(j+1+e+1)=(A 0*D)^(j+1)*(A 0*A 0^e*D^(e+1)):=by
              have I:(A 0*D)^(e+1)=A 0^(e+1)*D^(e+1):=Pj;rw[show j+1+e+1=(j+1)+(e+1) by omega,Pk,I,Pf (A 0) e,Int.mul_comm (A 0^e) (A 0)]
            have H:D^(e+1+1)=D^(e+1)*D:=Pf D (e+1);rw[H,Pn] at l
            rw[z,Int.mul_add,Pm];congr 1
            rw[Pn ((A 0*D)^(j+1)),Pn (A 0*A 0^e),Pn (A 0) (A 0^e)];rw[show D*D*(C*A (e+1)*A 0^e)=(D*D*C)*(A (e+1)*A 0^e) by grind,Pn (D*D*C),<-c1,Pn (A (e+1)),<-l,<-c]
            grind
          . have o:(C*A (e+1)*A 0^e).natAbs<=2^j*((2^64)^W)^(2*(j+1+e)):=by
              rw[Om,Om,Pg];have B:2^j*((2^64)^W)^(2*(j+1+e))=2^j*((2^64)^W)^(2*j)*((2^64)^W)^(e+1+1)*((2^64)^W)^e:=by
                generalize (2^64)^W=x
                rw[show 2*(j+1+e)=2*j+(e+1+1)+e by omega,M4,M4];ac_rfl
              rw[B];have h:(A 0).natAbs<=(2^64)^W:=by have:=(d 0).2;rwa [z6,Pu] at this
              exact NF (NF c2 u) (Ph h e)
            have L:2^(j+1)-1=(2^j-1)+2^j:=by have:=Pv (n:=j);rw[MP];omega
            rw[L,Nat.add_mul];exact ep (OM _ _) (Pp p o)
      obtain ⟨Z,y,J⟩:=key i (ek i);refine ⟨-Z,?_,?_⟩
      . rw[CA hi oM,Rat.neg_mul,y,Int.mul_neg,Pq]
      . rw[ON]
        exact ep J (z7 _ (Nat.sub_le _ _))
theorem SzR.inv {W:Nat}{a:List Rat}(h:SzR W a)(ha:a.getD 0 0≠0)(m):SzR (2*W+1) (bI m a):=by
  obtain ⟨D,A,h0,h1,d⟩:=h;have key:=Gy h0 d ha m;have j:(A 0).natAbs<=(2^64)^W:=by have:=(d 0).2;rwa [z6,Pu] at this
  have o:A 0≠0:=fun e=>by
    have:=(d 0).1;rw[e,z6,Pf,Pr,Ps] at this
    have p:(D:Rat)≠0:=fun f=>h0 (by exact_mod_cast f)
    have l:((0:Int):Rat)=0:=rfl;rw[l] at this
    exact (Rat.mul_eq_zero.1 this).elim ha p
  have c:(2^64)^(2*W+1)=(2^64)*((2^64)^W*(2^64)^W):=by rw[show 2*W+1=W+W+1 by omega];exact kl W W
  refine ⟨A 0*D,fun i=>if hi:i<m then D*D*(key i hi).choose else 0,OU o h0,?_,fun i=>?_⟩
  . rw[Om,c]
    exact ep (NF j h1) (Oh _ kD)
  . dsimp only
    by_cases hi:i<m
    . rw[dif_pos hi]
      obtain ⟨c1,c2⟩:=(key i hi).choose_spec;refine ⟨c1,?_⟩;rw[Om,Om,c]
      generalize (2^64)^W=x at *
      have u:D.natAbs*D.natAbs*(key i hi).choose.natAbs<=x*x*(2^i*x^(2*i)):=NF (NF h1 h1) c2;refine ep u ?_
      have f:x*x*(2^i*x^(2*i))=2^i*(x*x)^(i+1):=by
        rw[MP,<-Pw x,<-M7];ac_rfl
      rw[f,Pi (2^64)];refine z7 _ (ep (M1 kD (Nat.le_succ i)) (Ph kD _))
    . rw[dif_neg hi,Bh oM];exact ⟨by simp,NY _⟩
theorem pE {q:Rat}(h:LQ 1 q):q.num.natAbs<(2^64)/\q.den<(2^64):=⟨dj.1 h.1,dj.1 h.2⟩
theorem Dd (q):q*((q.den:Int):Rat)=(q.num:Rat):=by
 have h:=q.den_nz;have a:((q.den:Int):Rat)≠0:=fun e=>h (by exact_mod_cast e)
 conv=>lhs;lhs;rw[<-Rat.num_divInt_den q,Rat.divInt_eq_div]
 grind
theorem SzR.num {q:Rat}(h:LQ 1 q)(m)(a:0<m):SzR 1 (bB m q):=by
 obtain ⟨h1,c⟩:=pE h;refine ⟨(q.den:Int),fun i=>if i=0 then q.num else 0,by have:=q.den_nz;omega,by rw[Pu];show q.den<=_;omega,fun i=>?_⟩
 dsimp only;by_cases e:i=0
 ·subst e
  rw[if_pos rfl,nM a,z6,Pf,Pr,Ps];exact ⟨Dd q,by rw[Pu,Pu];omega⟩
 ·rw[if_neg e,sQ q e];exact ⟨by simp,NY _⟩
theorem SzR.inp {x y:Rat}(d:LQ 1 x)(z:LQ 1 y)(m:Nat)(e:0<m):SzR 2 (ii m x y):=by
  obtain ⟨h1,c⟩:=pE d;obtain ⟨u,k2⟩:=pE z
  unfold ii;split
  . rename_i a
    have o:((bB m x).set 1 y).getD 0 0=x:=by rw[cH (by rw[ct];exact a),if_neg kD,nM e]
    have j:((bB m x).set 1 y).getD 1 0=y:=by rw[cH (by rw[ct];exact a),if_pos rfl]
    have h:∀ i,2<=i->((bB m x).set 1 y).getD i 0=0:=fun i hi=>by rw[cH (by rw[ct];exact a),if_neg oM,sQ x oM]
    have p:x.num.natAbs*y.den<=18446744073709551616^2:=by rw[Pw];exact NF (Ok h1) (Ok k2)
    have f:y.num.natAbs*y.den<=18446744073709551616^2:=by rw[Pw];exact NF (Ok u) (Ok k2)
    have l:x.den*x.den<=18446744073709551616^2:=by rw[Pw];exact NF (Ok c) (Ok c)
    refine ⟨(x.den:Int)*(y.den:Int),fun i=>if i=0 then x.num*y.den else if i=1 then y.num*y.den*(x.den*x.den) else 0,by have:=x.den_nz;have:=y.den_nz;exact OU oM oM,?_,fun i=>?_⟩
    . rw[Om,Pw];exact NF (Ok c) (Ok k2)
    . dsimp only
      match i with
      | 0 =>
        rw[o,if_pos rfl,z6,Pf,Pr,Ps,Pn,Pn,<-Pt,Dd];exact ⟨rfl,by rw[Om,Pu];exact p⟩
      | 1 =>
        rw[j,if_neg kD,if_pos rfl,show (1+1:Nat)=2 from rfl,Pf,Pf,Pr,Ps];refine ⟨?_,?_⟩
        . rw[Pn,Pn,Pn,Pn,Pn,<-Dd y];grind
        . rw[Om,Om,Om,Pw (18446744073709551616^2)];exact NF f l
      | i+2 =>
        rw[h (i+2) oM,if_neg oM,if_neg oM];exact ⟨by simp,NY _⟩
  . exact (SzR.num d m e).mono kD
theorem vX (z y H I B F n)(hn:n<=12)(a:List Rat)(l C)(j:a.length=n+1)(D)(f:SzR D a)(M:D<=1500000)(c:List Rat)(e cb)(p:c.length=n+1)(x)(d:SzR x c)(L:x<=1500000)(w h)(g:G w h)(o:Sq l a h)(u:Sq e c h)(K:Tab h):Calls Tryz.prog 296 #[.agg #[.slice z y H,.slice I B F,nV n],.slice l a.length C,.slice e c.length cb] w (Ret w h (fun v h1=>∃ J,v=.slice (sB J) (dh (n+1) a c).length (n+1)/\Sq (sB J) (dh (n+1) a c) h1)) :=
 KH z y H I B F n hn a l C j (fun i=>(f.lq oM i).mono oM) c e cb p (fun i=>(d.lq oM i).mono oM) w h g o u K
theorem Fb (p o B C u z n)(hn:n<=12)(a:List Rat)(f x)(e:a.length=n+1)(y)(d:SzR y a)(H:y<=1500000)(c:Rat)(l:LQ 1 c)(w h)(g:G w h)(j:Sq f a h)(F:Tab h):Calls Tryz.prog 302 #[.agg #[.slice p o B,.slice C u z,nV n],.slice f a.length x,qv c] w (Ret w h (fun v h1=>∃ D,v=.slice (sB D) (dD (n+1) a c).length (n+1)/\Sq (sB D) (dD (n+1) a c) h1)) :=
 FL p o B C u z n hn a f x e (fun i=>(d.lq oM i).mono oM) c l w h g j F
theorem oy (C B I J D H n)(hn:n<=12)(a:List Rat)(u F)(p:a.length=n+1)(l)(e:SzR l a)(S:l<=1500000)(c:List Rat)(o cb)(y:c.length=n+1)(f)(d:SzR f c)(O:f<=1500000)(L:l+f+1<=1500000)(w h)(g:G w h)(x:Sq u a h)(z:Sq o c h)(M:Tab h):Calls Tryz.prog 300 #[.agg #[.slice C B I,.slice J D H,nV n],.slice u a.length F,.slice o c.length cb] w (Ret w h (fun v h1=>∃ K,v=.slice (sB K) (dB (n+1) a c).length (n+1)/\Sq (sB K) (dB (n+1) a c) h1)) :=
 JJ C B I J D H n hn a u F p (fun i=>(e.lq oM i).mono oM) c o cb y (fun i=>(d.lq oM i).mono oM) (fun i j hi Q=>(e.lq_cnv d (show i<=12 by omega) Q).mono oM) w h g x z M
theorem kH (p o B C u y n)(hn:n<=12)(a:List Rat)(f x)(e:a.length=n+1)(d)(c:SzR d a)(I:d<=1500000)(hz:a.getD 0 0≠0)(F:3*d+2<=1500000)(w h)(g:G w h)(l:Sq f a h)(H:Tab h):Calls Tryz.prog 299 #[.agg #[.slice p o B,.slice C u y,nV n],.slice f a.length x] w (Ret w h (fun v h1=>∃ D,v=.slice (sB D) (bI (n+1) a).length (n+1)/\Sq (sB D) (bI (n+1) a) h1)) :=
 have z:=c.inv hz (n+1)
 Ch p o B C u y n hn a f x e (fun i=>(c.lq oM i).mono oM) hz (fun i=>(z.lq (by rw[gm];omega) i).mono oM) (fun i j hi J=>(z.lq_cnv c (show i<=12 by omega) oM).mono oM) w h g l H
section
variable {a:Rat}
theorem HO (h:¬a.num.sign<0):a=kP a:=by
 unfold kP;rw[if_neg (fun k=>h (by have:=Px.2 k;omega))]
theorem H4 (h:a.num.sign<0):a*((-1:Int):Rat)=kP a:=by
 unfold kP;rw[if_pos (Px.1 (Fz h)),Mg];grind
theorem HL {s:Rat}(h:s=kP a):s+((1:Int):Rat)≠0:=by
 have c:0<=kP a:=by
  unfold kP;split
  ·rename_i h
   have:a<0:=by rw[<-Rat.not_le,<-Py];omega
   grind
  ·rename_i h;exact Py.1 oM
 rw[h,i1];grind
theorem An {op:Int}{a b:Rat}(h:op=12/\0<dC a b\/op=13/\dC a b<0):op=12/\b<a\/op=13/\a<b:=by
 rcases h with ⟨h1,h2⟩|⟨h1,h2⟩
 ·exact .inl ⟨h1,jr.1 h2⟩
 ·exact .inr ⟨h1,jn.1 h2⟩
theorem AH {op:Int}{a b:Rat}(h:op=12/\dC a b<0\/op=13/\0<dC a b):op=12/\a<b\/op=13/\b<a:=by
 rcases h with ⟨h1,h2⟩|⟨h1,h2⟩
 ·exact .inl ⟨h1,jn.1 h2⟩
 ·exact .inr ⟨h1,jr.1 h2⟩
end
def dJ (m:Nat)(x:List Rat):Nat->List Rat
  | 0=>bB m ((1:Int):Rat)
  | k+1=>dB m (dJ m x k) x
def fC (m:Nat)(a:List Rat):List Rat:=if (a.getD 0 0).num.sign<0 then dD m a ((-1:Int):Rat) else a
def px (n:Int)(m:Nat)(a:List Rat):List Rat:=if n<0 then bI m a else a
def dV (op n:Int)(a b:Rat):Int:=if op=11/\a=0 then 7 else oc op n a b
def gy (op n:Int)(m:Nat)(a b:List Rat):List Rat :=
  if op=3 then dh m a b else if op=4 then dh m a (dD m b ((-1:Int):Rat)) else if op=5 then dB m a b else if op=6 then dB m a (bI m b) else if op=7 then dD m a ((-1:Int):Rat)
  else if op=8 then dJ m (px n m a) n.natAbs else if op=9 then fC m a else if op=10 then (if 0<(a.getD 0 0).num.sign then a else bB m 0)
  else if op=11 then dB m a (bI m (dh m (fC m a) (bB m ((1:Int):Rat)))) else if op=12 then (if b.getD 0 0<a.getD 0 0 then a else b) else (if b.getD 0 0<a.getD 0 0 then b else a)
def oo (m:Nat)(op n:Int)(x y:Int × List Rat):Int × List Rat :=
  if x.1≠0 then (x.1,[]) else if y.1≠0 then (y.1,[]) else if dV op n (x.2.getD 0 0) (y.2.getD 0 0)≠0 then (dV op n (x.2.getD 0 0) (y.2.getD 0 0),[]) else (0,gy op n m x.2 y.2)
def aR (ix:ByteArray->Nat)(at_ way:List Rat)(m:Nat):Nat->Tm->Int × List Rat
  | 0,_=>(0,[])
  | d+1,t =>
    if t.op=1 then (0,bB m t.q)
    else if t.op=2 then (0,ii m (at_.getD (ix t.s) 0) (way.getD (ix t.s) 0))
    else oo m t.op t.n (if 0<t.ks.length then aR ix at_ way m d (t.ks.getD 0 di) else (0,[])) (if 1<t.ks.length then aR ix at_ way m d (t.ks.getD 1 di) else (0,[]))
section
variable {m:Nat}{op n:Int}{x y:Int × List Rat}
theorem jO (h:x.1≠0):oo m op n x y=(x.1,[]):=if_pos h
theorem o8 (h:x.1=0)(a:y.1≠0):oo m op n x y=(y.1,[]):=by unfold oo;rw[if_neg (fun k=>k h),if_pos a]
theorem km (h:x.1=0)(a:y.1=0)(c:dV op n (x.2.getD 0 0) (y.2.getD 0 0)≠0):oo m op n x y=(dV op n (x.2.getD 0 0) (y.2.getD 0 0),[]):=by unfold oo;rw[if_neg (fun k=>k h),if_neg (fun k=>k a),if_pos c]
theorem ke (h:x.1=0)(a:y.1=0)(c:dV op n (x.2.getD 0 0) (y.2.getD 0 0)=0):oo m op n x y=(0,gy op n m x.2 y.2):=by unfold oo;rw[if_neg (fun k=>k h),if_neg (fun k=>k a),if_neg (fun k=>k c)]
end
theorem cV (m x):∀ k,(dJ m x k).length=m
 | 0=>ct _ _
 | _+1=>fL _ _ _
theorem na {m:Nat}{a:List Rat}(h:a.length=m):(fC m a).length=m:=by unfold fC;split;exact fO _ _ _;exact h
section
variable {n:Int}{m:Nat}{a b:List Rat}
theorem Cq:gy 3 n m a b=dh m a b:=rfl
theorem Cw:gy 4 n m a b=dh m a (dD m b ((-1:Int):Rat)):=rfl
theorem By:gy 5 n m a b=dB m a b:=rfl
theorem BP:gy 6 n m a b=dB m a (bI m b):=rfl
theorem CH:gy 7 n m a b=dD m a ((-1:Int):Rat):=rfl
theorem kJ:gy 8 n m a b=dJ m (px n m a) n.natAbs:=rfl
theorem sd:gy 9 n m a b=fC m a:=rfl
theorem jY:gy 10 n m a b=if 0<(a.getD 0 0).num.sign then a else bB m 0:=rfl
theorem nY:gy 11 n m a b=dB m a (bI m (dh m (fC m a) (bB m ((1:Int):Rat)))):=rfl
theorem jR:gy 12 n m a b=if b.getD 0 0<a.getD 0 0 then a else b:=rfl
theorem jT:gy 13 n m a b=if b.getD 0 0<a.getD 0 0 then b else a:=rfl
end
theorem ft {op n:Int}{a b:Rat}(h:op≠11):dV op n a b=oc op n a b:=if_neg (fun k=>h k.1)
theorem Jq {n:Int}{a b:Rat}(h:a=0):dV 11 n a b=7:=if_pos ⟨rfl,h⟩
theorem Ao {n:Int}{a b:Rat}(h:a≠0):dV 11 n a b=0:=by
 unfold dV;rw[if_neg (fun k=>h k.2)]
 exact eP (fun c=>absurd c kD) (fun c=>absurd c kD) (fun c=>absurd c kD) (fun c=>absurd c kD)
theorem uk {op:Int}(h:3<=op/\op<=13):op=3\/op=4\/op=5\/op=6\/op=7\/op=8\/op=9\/op=10\/op=11\/op=12\/op=13:=by omega
theorem vH {op n:Int}{m:Nat}{a b:List Rat}(ha:a.length=m)(c:op=12\/op=13->b.length=m)(d:op<=13)(e:3<=op):(gy op n m a b).length=m:=by
 rcases uk ⟨e,d⟩ with rfl|rfl|rfl|rfl|rfl|rfl|rfl|rfl|rfl|rfl|rfl
 ·rw[Cq];exact gn _ _ _
 ·rw[Cw];exact gn _ _ _
 ·rw[By];exact fL _ _ _
 ·rw[BP];exact fL _ _ _
 ·rw[CH];exact fO _ _ _
 ·rw[kJ];exact cV _ _ _
 ·rw[sd];exact na ha
 ·rw[jY];split;exact ha;exact ct _ _
 ·rw[nY];exact fL _ _ _
 ·rw[jR];split;exact ha;exact c (.inl rfl)
 ·rw[jT];split;exact c (.inr rfl);exact ha
section
variable {ix:ByteArray->Nat}{at_ way:List Rat}{m:Nat}{ok:ByteArray->Prop}
theorem lJ {d:Nat}{op n:Int}{q:Rat}{s:ByteArray}{a:Tm}(h1:op≠1)(c:op≠2):aR ix at_ way m (d+1) (.mk op n q s [a])=oo m op n (aR ix at_ way m d a) (0,[]):=by
 show (if op=1 then _ else if op=2 then _ else _)=_
 rw[if_neg h1,if_neg c];rfl
theorem jL {d:Nat}{op n:Int}{q:Rat}{s:ByteArray}{c a:Tm}(h1:op≠1)(e:op≠2):aR ix at_ way m (d+1) (.mk op n q s [c,a])=oo m op n (aR ix at_ way m d c) (aR ix at_ way m d a):=by
 show (if op=1 then _ else if op=2 then _ else _)=_
 rw[if_neg h1,if_neg e];rfl
theorem d7:∀ {d:Nat} {t:Tm},WfT1 ok d t->(aR ix at_ way m d t).1=0->(aR ix at_ way m d t).2.length=m
  | d + 1,.mk op n q s ks,⟨h1,h2,h3,h4,h5,h6,h7,h8,h9⟩,h=>by
    have hc:=aF op;replace h1:gQ op=(ks.length:Nat):=h1
    rcases iz h1 with rfl|⟨t,rfl⟩|⟨t,u,rfl⟩
    . simp only[Pb] at h1
      by_cases o1:op=1
      . have e:aR ix at_ way m (d+1) (.mk op n q s [])=(0,bB m q):=if_pos o1
        rw[e];exact ct _ _
      . have e:aR ix at_ way m (d+1) (.mk op n q s [])=(0,ii m (at_.getD (ix s) 0) (way.getD (ix s) 0)):=(if_neg o1).trans (if_pos (show op=2 by omega))
        rw[e];exact m9 _ _ _
    . simp only[uA,Pb] at h1
      rw[lJ oM oM] at h ⊢
      have a:=d7 (h9 0 (N0 _));replace a:(aR ix at_ way m d t).1=0->(aR ix at_ way m d t).2.length=m:=a
      generalize aR ix at_ way m d t=x at *
      by_cases c1:x.1=0
      . by_cases c3:dV op n (x.2.getD 0 0) 0=0
        . rw[ke c1 rfl c3];exact vH (a c1) oM oM oM
        . rw[km c1 rfl c3] at h;exact absurd h c3
      . rw[jO c1] at h;exact absurd h c1
    . simp only[uA,Pb] at h1
      rw[jL oM oM] at h ⊢
      have a:=d7 (h9 0 (N0 _));replace a:(aR ix at_ way m d t).1=0->(aR ix at_ way m d t).2.length=m:=a;have c:=d7 (h9 1 (by show 1<2;decide));replace c:(aR ix at_ way m d u).1=0->(aR ix at_ way m d u).2.length=m:=c
      generalize aR ix at_ way m d t=x at *
      generalize aR ix at_ way m d u=y at *
      by_cases c1:x.1=0
      . by_cases c2:y.1=0
        . by_cases c3:dV op n (x.2.getD 0 0) (y.2.getD 0 0)=0
          . rw[ke c1 c2 c3];exact vH (a c1) (fun _=>c c2) oM oM
          . rw[km c1 c2 c3] at h;exact absurd h c3
        . rw[o8 c1 c2] at h;exact absurd h c2
      . rw[jO c1] at h;exact absurd h c1
end
theorem SzR.pow {W:Nat}{x:List Rat}(h:SzR W x){m:Nat}(a:0<m):∀ k,SzR (1+k*(W+1)) (dJ m x k)
 | 0=>(SzR.num (LQ.int kD kD) m a).mono oM
 | k+1=>(((SzR.pow h a k).mul h m)).mono (by rw[zh];omega)
theorem SzR.abs {W:Nat}{a:List Rat}(h:SzR W a)(m):SzR W (fC m a):=by
 unfold fC;split;exact h.neg m;exact h
theorem nr {m:Nat}(c:0<m)(a):(dh m (fC m a) (bB m ((1:Int):Rat))).getD 0 0≠0:=by
 rw[vY _ _ c,nM c];have e:(fC m a).getD 0 0=kP (a.getD 0 0):=by
  unfold fC;split
  ·rename_i h;rw[py _ _ c];exact H4 h
  ·rename_i h;exact HO h
 exact HL e
theorem FW {op n:Int}{a b:Rat}(h:dV op n a b=0):xn op n a b:=by
 unfold dV at h;split at h
 ·exact absurd h kD
 ·exact Ev h
theorem SzR.bend {W:Nat}{a:List Rat}(h:SzR W a){m:Nat}(c:0<m):SzR (3*W+6) (dB m a (bI m (dh m (fC m a) (bB m ((1:Int):Rat))))) :=
 (h.mul (((h.abs m).add (SzR.num (LQ.int kD kD) m c) m).inv (nr c a) m) m).mono oM
theorem AI {op n:Int}{x y m:Nat}{a b:List Rat}(i:0<m)(o:1<=x)(ha:SzR (4*x-3) a)(d:1<=y->SzR (4*y-3) b)(c:gQ op=2->1<=y)(h1:gQ op=1->y=0)(p:3<=op/\op<=13)(hn : -12<=n/\n<=12)(u:dV op n (a.getD 0 0) (b.getD 0 0)=0):SzR (8*(ia op n*(x+y))-3) (gy op n m a b):=by
  have w1:=gB op n;have B:x+y<=ia op n*(x+y):=Oh _ w1;obtain ⟨z,k2⟩:=FW u
  rcases uk p with rfl|rfl|rfl|rfl|rfl|rfl|rfl|rfl|rfl|rfl|rfl
  . have:=c rfl;rw[Cq];exact (ha.add (d this) m).mono oM
  . have:=c rfl;rw[Cw];exact (ha.add ((d this).neg m) m).mono oM
  . have:=c rfl;rw[By];exact (ha.mul (d this) m).mono oM
  . have:=c rfl;rw[BP];exact (ha.mul ((d this).inv (z rfl) m) m).mono oM
  . rw[CH];exact (ha.neg m).mono oM
  . have e:ia 8 n=bP n:=rfl
    have y0:y=0:=h1 rfl;rw[kJ,e,y0,y5]
    unfold px;split
    . rename_i h
      refine ((ha.inv (k2 rfl h) m).pow i n.natAbs).mono ?_;have f:bP n=n.natAbs:=by unfold bP;split<;>omega
      have hk:1<=n.natAbs:=by omega
      rw[f];generalize n.natAbs=k at *
      have l:2*(4*x-3)+1+1=8*x-4:=by omega
      have j:k*(8*x)=8*(k*x):=Pz k 8 x;rw[l,Nat.mul_sub,j];have:k*1<=k*x:=M5 k o
      omega
    . refine (ha.pow i n.natAbs).mono ?_
      have l:4*x-3+1=4*x-2:=by omega
      by_cases hk:n.natAbs=0
      . have f:bP n=1:=by unfold bP;split<;>omega
        rw[hk,f];omega
      . have f:bP n=n.natAbs:=by unfold bP;split<;>omega
        rw[f];generalize n.natAbs=k at *
        have j:k*(4*x)=4*(k*x):=Pz k 4 x;rw[l,Nat.mul_sub,j];have:k*1<=k*x:=M5 k o
        omega
  . rw[sd];exact (ha.abs m).mono oM
  . rw[jY];split
    . exact ha.mono oM
    . exact (SzR.num (o7 kD) m i).mono oM
  . have e:ia 11 n=2:=rfl
    have y0:y=0:=h1 rfl;rw[nY,e,y0];exact (ha.bend i).mono oM
  . have:=c rfl;rw[jR];split
    . exact ha.mono oM
    . exact (d this).mono oM
  . have:=c rfl;rw[jT];split
    . exact (d this).mono oM
    . exact ha.mono oM
theorem GB (d w u):4*(2^(d+1)*(w*u))=8*(w*(2^d*u)):=by
 rw[MP,Pz w];generalize 2^d=p;generalize w*u=z;rw[MQ p 2,Nat.mul_assoc];omega
section
variable {ix:ByteArray->Nat}{at_ way:List Rat}{m:Nat}{ok:ByteArray->Prop}
theorem oV (a:0<m)(j:∀ i,LQ 1 (at_.getD i 0))(l:∀ i,LQ 1 (way.getD i 0)):∀ {d:Nat} {t:Tm},WfT1 ok d t->1<=bL d t/\SzR (4*(2^d*bL d t)-3) (aR ix at_ way m d t).2
  | d + 1,.mk op n q s ks,⟨h1,h2,C,h4,h5,h6,o,f,h9⟩=>by
    have F:=aF op;have p:1<=2^d:=Pv;replace h1:gQ op=(ks.length:Nat):=h1;replace C:LQ 1 q:=C;replace o : -12<=n:=o;replace f:n<=12:=f
    rcases iz h1 with rfl|⟨t,rfl⟩|⟨t,u,rfl⟩
    . have e:bL (d+1) (.mk op n q s [])=1:=Ca rfl
      rw[e];refine ⟨ek _,?_⟩;have D:2<=2^(d+1):=by rw[MP];omega
      simp only[Pb] at h1;by_cases o1:op=1
      . have B:aR ix at_ way m (d+1) (.mk op n q s [])=(0,bB m q):=if_pos o1
        rw[B];exact (SzR.num C m a).mono oM
      . have B:aR ix at_ way m (d+1) (.mk op n q s [])=(0,ii m (at_.getD (ix s) 0) (way.getD (ix s) 0)):=(if_neg o1).trans (if_pos (show op=2 by omega))
        rw[B];exact (SzR.inp (j _) (l _) m a).mono oM
    . obtain ⟨i1,c⟩:=oV a j l (h9 0 (N0 _))
      replace i1:1<=bL d t:=i1;replace c:SzR (4*(2^d*bL d t)-3) (aR ix at_ way m d t).2:=c
      simp only[uA,Pb] at h1;have e:bL (d+1) (.mk op n q s [t])=ia op n*(bL d t+0):=by rw[kj (show [t].length≠0 from Pa _)];show _*(0+bL d t)=_;rw[z6,y5]
      have w1:=gB op n;rw[e,lJ oM oM];refine ⟨ep i1 (Oh _ w1),?_⟩
      generalize aR ix at_ way m d t=x at *
      by_cases c1:x.1=0
      . by_cases c3:dV op n (x.2.getD 0 0) 0=0
        . rw[ke c1 rfl c3,GB,y5]
          have:=AI (op:=op) (n:=n) (y:=0) (b:=[]) a (NC p i1) c (fun h=>absurd h kD) oM (fun _=>rfl) oM ⟨o,f⟩ c3
          rwa [y5] at this
        . rw[km c1 rfl c3];exact SzR.nil _
      . rw[jO c1];exact SzR.nil _
    . obtain ⟨i1,c⟩:=oV a j l (h9 0 (N0 _))
      obtain ⟨z,j2⟩:=oV a j l (h9 1 (by show 1<2;decide));replace i1:1<=bL d t:=i1;replace c:SzR (4*(2^d*bL d t)-3) (aR ix at_ way m d t).2:=c;replace z:1<=bL d u:=z;replace j2:SzR (4*(2^d*bL d u)-3) (aR ix at_ way m d u).2:=j2
      simp only[uA,Pb] at h1;have e:bL (d+1) (.mk op n q s [t,u])=ia op n*(bL d t+bL d u):=by rw[kj (show [t,u].length≠0 from Pa _)];show _*(0+bL d t+bL d u)=_;rw[z6]
      have w1:=gB op n;rw[e,jL oM oM];refine ⟨ep oM (Oh _ w1),?_⟩
      generalize aR ix at_ way m d t=x at *
      generalize aR ix at_ way m d u=y at *
      by_cases c1:x.1=0
      . by_cases c2:y.1=0
        . by_cases c3:dV op n (x.2.getD 0 0) (y.2.getD 0 0)=0
          . rw[ke c1 c2 c3,GB,Nat.mul_add]
            exact AI (op:=op) (n:=n) a (NC p i1) c (fun _=>j2) (fun _=>NC p z) oM oM ⟨o,f⟩ c3
          . rw[km c1 c2 c3];exact SzR.nil _
        . rw[o8 c1 c2];exact SzR.nil _
      . rw[jO c1];exact SzR.nil _
end
theorem Ai {n:Nat}{a:List Rat}(h:¬(a.getD 0 0).num.sign<0):(dh (n+1) a (bB (n+1) ((1:Int):Rat))).getD 0 0≠0:=by
 have:=nr (N0 n) a
 unfold fC at this;rwa [if_neg h] at this
theorem AA {n:Nat}{a:List Rat}(h:(a.getD 0 0).num.sign<0):(dh (n+1) (dD (n+1) a ((-1:Int):Rat)) (bB (n+1) ((1:Int):Rat))).getD 0 0≠0:=by
 have:=nr (N0 n) a
 unfold fC at this;rwa [if_pos h] at this
theorem Is {op z:Int}{m:Nat}{a b:List Rat}(c:op=9\/op=10)(h:0<(a.getD 0 0).num.sign):a=gy op z m a b:=by
 rcases c with rfl|rfl
 ·rw[sd];unfold fC;rw[if_neg oM]
 ·rw[jY,if_pos h]
theorem vd {op z:Int}{m:Nat}{a b:List Rat}(h:op=12/\b.getD 0 0<a.getD 0 0\/op=13/\a.getD 0 0<b.getD 0 0):a=gy op z m a b:=by
 rcases h with ⟨rfl,h⟩|⟨rfl,h⟩
 ·rw[jR,if_pos h]
 ·rw[jT,if_neg (by grind)]
theorem vW {op z:Int}{m:Nat}{a b:List Rat}(h:op=12/\a.getD 0 0<b.getD 0 0\/op=13/\b.getD 0 0<a.getD 0 0):b=gy op z m a b:=by
 rcases h with ⟨rfl,h⟩|⟨rfl,h⟩
 ·rw[jR,if_neg (by grind)]
 ·rw[jT,if_pos h]
theorem l9 (e d l o i j n)(hn:n<=12)(C)(c:List Rat)(u y)(D:c.length=n+1)(z)(B:SzR z c)(I:z<=1500000)(w h)(g:G w h)(F:Sq u c h)(J:Tab h):CR 145 #[.agg #[.iface 109 (.agg #[.slice e d l,.slice o i j,nV n]),.map (some C),.bool true],.slice u c.length y] w h (fun v h1=>∃ H,v=.slice (sB H) (dD (n+1) c ((-1:Int):Rat)).length (n+1)/\Sq (sB H) (dD (n+1) c ((-1:Int):Rat)) h1):=by
 have a:=(((sS g).aS F).add (K:=fun M=>Tab M) J);refine go Tryz.func145 [(0,.agg #[.iface 109 (.agg #[qS e d l,qS o i j,nV n]),.map (some C),qT]),(1,qS u c.length y)] rfl (aA (lA 2 113 ([.iface 109 (.agg #[qS e d l,qS o i j,nV n]),.map (some C),qT]) a (fun L w2 V a=>lL a ac (ag (cR 7 [] mixed a ao ?_)))));refine eV 0 5 (pB L) (eO 1 6 [(0,0,1)] (.iface 109 (.agg #[qS e d l,qS o i j,nV n])) a (eV 2 7 (qS u c.length y) (eV 4 9 (.iface 109 (.agg #[qS e d l,qS o i j,nV n])) (eV 5 10 (.iface 109 (.agg #[qS e d l,qS o i j,nV n])) (au 3 8 a (fun _ _ a=>vh (-1) kD kD _ _ a.g) (fun O W a=>eC 6 11 a (fun _ _ a=>Fb e d l o i j n hn c u y D z B oM ((-1:Int):Rat) (LQ.int kD kD) _ _ a.g a.f.2.1 a.f.1) ?_))))));rintro _ _ _ U S a ⟨x,rfl,p⟩;replace a:=a.aS p;exact bM a (fun Q _ a=>tV 7 4 (qS (sB x) ((dD (n+1) c ((-1:Int):Rat)).length) (n+1)) (tN (kX (a.ret [] (qS (sB x) ((dD (n+1) c ((-1:Int):Rat)).length) (n+1)) (⟨_,rfl,a.f.1⟩)))))
theorem BL (u l i x j y n)(hn:n<=12)(U op z q s A kn c e F J)(L:e.length=n+1)(D)(C:SzR D e)(hwa:D<=1500000)(hop:7<=op/\op<=11)(dn:op=8 -> -12<=z/\z<=12)(hw4:D<=400000)(hwz:op=8->z.natAbs*(2*D+2)+1<=1400000)(w h)(g:G w h)(hSa:Sq F e h)(tb:Tab h):CR 93 #[.agg #[.iface 109 (.agg #[.slice u l i,.slice x j y,nV n]),.map (some U),.bool true],bW ⟨op,z,q,s,A,kn,c⟩,.slice F e.length J] w h (fun v h1=>∃ (L_:List Rat)(A_:Z9)(c_:Nat),v=.tuple #[.slice A_ L_.length c_,iV (dV op z (e.getD 0 0) 0)]/\Sq A_ L_ h1/\(dV op z (e.getD 0 0) 0=0->L_=gy op z (n+1) e [])):=by
 have d:=(((sS g).aS hSa).add (K:=fun B=>Tab B) tb);refine go Tryz.func93 [(0,.agg #[.iface 109 (.agg #[qS u l i,qS x j y,nV n]),.map (some U),qT]),(1,bW ⟨op,z,q,s,A,kn,c⟩),(2,qS F e.length J)] rfl (aA (lA 3 113 ([.iface 109 (.agg #[qS u l i,qS x j y,nV n]),.map (some U),qT]) d (fun I w2 h3 d=>lA 4 51 (dd ⟨op,z,q,s,A,kn,c⟩) d (fun M w5 h6 d=>lL d ax (aG (lL d [.v (pB I),.o (.iface 109 (.agg #[qS u l i,qS x j y,nV n])) 1 0 1,.c] (ar 14 d (EA u l i x j y n hn e F J L _ _ d.g d.f.2.1) (fun w7 h8 d=>ar 15 d (j8 (e.getD 0 0) (LQ.mono (C.lq oM 0) oM) _ _ d.g) (fun w9 _ d=>?_)))))))));have df:=l6 (e.getD 0 0).num;refine lL d ac (ag (aa d [.v (pB M),.o (iV op) 0 0 1] (aZ (aA ?_))));cases za:((op:Int) == (7:Int))
 .
  have zn:=aj za;refine lB 19 za (lL d ac (ah (aA ?_)));cases zb:((op:Int) == (8:Int))
  .
   have zo:=aj zb;refine lB 24 zb (lL d ac (ah (aA ?_)));cases zc:((op:Int) == (11:Int))
   .
    have zp:=aj zc;refine lB 62 zc (lL d ac (ah (cK (cQ (aa d ac ?_)))));cases zd:(((e.getD 0 0).num.sign:Int) == (0:Int))
    .
     have zq:=aj zd;refine lB 100 zd (ah (cK (cQ (aa d ac ?_))));cases ze:(decide ((0:Int)<((e.getD 0 0).num.sign:Int)))
     .
      have zr:=oF ze;refine lB 103 ze (ah (cK (cQ (aa d [.v (pB M),.o (iV op) 0 0 1] ?_))));cases zf:((op:Int) == (9:Int))
      .
       have zs:=aj zf;refine lB 107 zf (ah (cK (aa d [.v (pB I),.o (.iface 109 (.agg #[qS u l i,qS x j y,nV n])) 1 0 1,.v (qv (0:Rat))] (lC 114 d (gh u l i x j y n hn (0:Rat) _ _ d.g ) ?_))));rintro _ _ _ d ⟨cy,rfl,bj⟩;replace d:=d.aS bj;refine lL d ax (lN (kX ?_));obtain rfl:op=10:=by omega
       have H:dV 10 z (e.getD 0 0) 0=0:=((ft kD).trans (eP (fun B=>absurd B kD) (fun B=>absurd B kD) (fun _=>iM oM) (fun B=>absurd B kD)));exact d.ret [] (.tuple #[qS (sB cy) ((bB (n+1) (0:Rat)).length) (n+1),iV 0]) (⟨(bB (n+1) (0:Rat)),_,_,by rw[H],d.f.1,fun _=>(by rw[jY,if_neg oM])⟩)
      have zs:=eq_of_beq zf;refine lB 107 zf (ak (aa d [.o (.agg #[.iface 109 (.agg #[qS u l i,qS x j y,nV n]),.map (some U),qT]) 1 0 3,.c] (lC 110 d (l9 u l i x j y n hn U e F J L D C oM _ _ d.g d.f.2.1 d.f.1) ?_)));rintro _ _ _ d ⟨cq,rfl,bq⟩;replace d:=d.aS bq;refine lL d ax (lN (kX ?_));obtain rfl:op=9:=by omega
      have H:dV 9 z (e.getD 0 0) 0=0:=((ft kD).trans (eP (fun B=>absurd B kD) (fun B=>absurd B kD) (fun _=>iM oM) (fun B=>absurd B kD)));exact d.ret [] (.tuple #[qS (sB cq) ((dD (n+1) e ((-1:Int):Rat)).length) (n+1),iV 0]) (⟨(dD (n+1) e ((-1:Int):Rat)),_,_,by rw[H],d.f.1,fun _=>(by rw[sd];unfold fC;rw[if_pos oM])⟩)
     have zr:=oT ze;refine lB 103 ze (ak (aa d cG (lN (kX ?_))));have H:dV op z (e.getD 0 0) 0=0:=((ft oM).trans (eP (fun B=>absurd B oM) (fun B=>absurd B oM) (fun _=>iM oM) (fun B=>absurd B oM)));exact d.ret [] (.tuple #[qS F e.length J,iV 0]) (⟨e,_,_,by rw[H],d.f.2.1,fun _=>(Is oM oM)⟩)
    have zq:=eq_of_beq zd;refine lB 100 zd (ak (aa d cG (lN (kX ?_))));have H:dV op z (e.getD 0 0) 0=7:=((ft oM).trans (GD (.inl ⟨by omega,DQ oM⟩)));exact d.ret [] (.tuple #[qS F e.length J,iV 7]) (⟨e,_,_,by rw[H],d.f.2.1,fun B=>absurd B (by rw[H];decide)⟩)
   have zp:=eq_of_beq zc;refine lB 62 zc (lL d ac (ak (cQ (aa d [.v (qP I 2),.o qT 1 2 1,.c,.c] ?_))));cases zg:(((e.getD 0 0).num.sign:Int) == (0:Int))
   .
    have zt:=aj zg;refine lB 67 zg (lL d [.v qF] (ah (cK (aa d ax (ag (aa d ac ?_))))));cases zi:(decide (((e.getD 0 0).num.sign:Int)<(0:Int)))
    .
     have zu:=oF zi;refine lB 72 zi (ah (cK (cQ (cR 23 [] mixed d ao ?_))));refine eV 0 76 (pB I) (eO 1 77 [(1,0,1)] (.iface 109 (.agg #[qS u l i,qS x j y,nV n])) d (eV 2 78 (qS F e.length J) (eV 3 79 (pB I) (eO 4 80 [(1,0,1)] (.iface 109 (.agg #[qS u l i,qS x j y,nV n])) d (eV 5 81 (pB I) (eO 6 82 [(1,0,1)] (.iface 109 (.agg #[qS u l i,qS x j y,nV n])) d (eV 7 83 (qS F e.length J) (eV 8 84 (pB I) (eO 9 85 [(1,0,1)] (.iface 109 (.agg #[qS u l i,qS x j y,nV n])) d (eV 11 87 (.iface 109 (.agg #[qS u l i,qS x j y,nV n])) (eV 12 88 (.iface 109 (.agg #[qS u l i,qS x j y,nV n])) (eV 14 90 (.iface 109 (.agg #[qS u l i,qS x j y,nV n])) (eV 15 91 (.iface 109 (.agg #[qS u l i,qS x j y,nV n])) (eV 17 93 (.iface 109 (.agg #[qS u l i,qS x j y,nV n])) (eV 18 94 (.iface 109 (.agg #[qS u l i,qS x j y,nV n])) (eV 20 96 (.iface 109 (.agg #[qS u l i,qS x j y,nV n])) (eV 21 97 (.iface 109 (.agg #[qS u l i,qS x j y,nV n])) (au 10 86 d (fun _ _ d=>vh (1) kD kD _ _ d.g) (fun _ _ d=>eC 13 89 d (fun _ _ d=>gh u l i x j y n hn ((1:Int):Rat) _ _ d.g ) ?_)))))))))))))))))));rintro _ _ _ _ _ d ⟨cr,rfl,b3⟩;replace d:=d.aS b3;refine eC 16 92 d (fun _ _ d=>vX u l i x j y n hn e F J L D C oM (bB (n+1) ((1:Int):Rat)) (sB cr) (n+1) (ct _ _) 1 (SzR.num (LQ.int kD kD) (n+1) (N0 n)) oM _ _ d.g d.f.r.1 d.f.1 d.f.2.1) ?_;rintro _ _ _ _ _ d ⟨c5,rfl,ch⟩;replace d:=d.aS ch;refine eC 19 95 d (fun _ _ d=>kH u l i x j y n hn (dh (n+1) e (bB (n+1) ((1:Int):Rat))) (sB c5) (n+1) (gn _ _ _) (D+1+1) (C.add (SzR.num (LQ.int kD kD) (n+1) (N0 n)) (n+1)) oM (Ai (n:=n) (a:=e) oM) oM _ _ d.g d.f.1 d.f.r.1) ?_;rintro _ _ _ _ _ d ⟨c6,rfl,bd⟩;replace d:=d.aS bd;refine eC 22 98 d (fun _ _ d=>oy u l i x j y n hn e F J L D C oM (bI (n+1) (dh (n+1) e (bB (n+1) ((1:Int):Rat)))) (sB c6) (n+1) (gm _ _) (2*(D+1+1)+1) ((C.add (SzR.num (LQ.int kD kD) (n+1) (N0 n)) (n+1)).inv (Ai (n:=n) (a:=e) oM) (n+1)) oM oM _ _ d.g d.f.q.1 d.f.1 d.f.r.2.1) ?_;rintro _ _ _ _ _ d ⟨Y,rfl,b5⟩;replace d:=d.aS b5;refine bM d (fun _ _ d=>tV 23 6 (qS (sB Y) ((dB (n+1) e (bI (n+1) (dh (n+1) e (bB (n+1) ((1:Int):Rat))))).length) (n+1)) (tV 24 7 (iV 0) (tN (bH [(2,qS F e.length J),(3,pB I),(4,pB M),(6,qS (sB Y) ((dB (n+1) e (bI (n+1) (dh (n+1) e (bB (n+1) ((1:Int):Rat))))).length) (n+1)),(7,iV 0),(8,iV ((e.getD 0 0).num.sign))] ?_))));refine kX ?_;obtain rfl:op=11:=by omega
     have H:dV 11 z (e.getD 0 0) 0=0:=(Ao (iM oM));exact d.ret [] (.tuple #[qS (sB Y) ((dB (n+1) e (bI (n+1) (dh (n+1) e (bB (n+1) ((1:Int):Rat))))).length) (n+1),iV 0]) (⟨(dB (n+1) e (bI (n+1) (dh (n+1) e (bB (n+1) ((1:Int):Rat))))),_,_,by rw[H],d.f.1,fun _=>(by rw[nY];unfold fC;rw[if_neg oM])⟩)
    have zu:=oT zi;refine lB 72 zi (ak (kQ (lL d [.o (.agg #[.iface 109 (.agg #[qS u l i,qS x j y,nV n]),.map (some U),qT]) 1 0 3,.c] (lC 75 d (l9 u l i x j y n hn U e F J L D C oM _ _ d.g d.f.2.1 d.f.1) ?_))));rintro _ _ _ d ⟨bb,rfl,bn⟩;replace d:=d.aS bn;refine lL d ac (ag (cR 23 [] mixed d ao ?_));refine eV 0 76 (pB I) (eO 1 77 [(1,0,1)] (.iface 109 (.agg #[qS u l i,qS x j y,nV n])) d (eV 2 78 (qS F e.length J) (eV 3 79 (pB I) (eO 4 80 [(1,0,1)] (.iface 109 (.agg #[qS u l i,qS x j y,nV n])) d (eV 5 81 (pB I) (eO 6 82 [(1,0,1)] (.iface 109 (.agg #[qS u l i,qS x j y,nV n])) d (eV 7 83 (qS (sB bb) ((dD (n+1) e ((-1:Int):Rat)).length) (n+1)) (eV 8 84 (pB I) (eO 9 85 [(1,0,1)] (.iface 109 (.agg #[qS u l i,qS x j y,nV n])) d (eV 11 87 (.iface 109 (.agg #[qS u l i,qS x j y,nV n])) (eV 12 88 (.iface 109 (.agg #[qS u l i,qS x j y,nV n])) (eV 14 90 (.iface 109 (.agg #[qS u l i,qS x j y,nV n])) (eV 15 91 (.iface 109 (.agg #[qS u l i,qS x j y,nV n])) (eV 17 93 (.iface 109 (.agg #[qS u l i,qS x j y,nV n])) (eV 18 94 (.iface 109 (.agg #[qS u l i,qS x j y,nV n])) (eV 20 96 (.iface 109 (.agg #[qS u l i,qS x j y,nV n])) (eV 21 97 (.iface 109 (.agg #[qS u l i,qS x j y,nV n])) (au 10 86 d (fun _ _ d=>vh (1) kD kD _ _ d.g) (fun _ _ d=>eC 13 89 d (fun _ _ d=>gh u l i x j y n hn ((1:Int):Rat) _ _ d.g ) ?_)))))))))))))))))));rintro _ _ _ _ _ d ⟨c4,rfl,bz⟩;replace d:=d.aS bz;refine eC 16 92 d (fun _ _ d=>vX u l i x j y n hn (dD (n+1) e ((-1:Int):Rat)) (sB bb) (n+1) (fO _ _ _) D (C.neg (n+1)) oM (bB (n+1) ((1:Int):Rat)) (sB c4) (n+1) (ct _ _) 1 (SzR.num (LQ.int kD kD) (n+1) (N0 n)) oM _ _ d.g d.f.2.1 d.f.1 d.f.r.1) ?_;rintro _ _ _ _ _ d ⟨c3,rfl,bl⟩;replace d:=d.aS bl;refine eC 19 95 d (fun _ _ d=>kH u l i x j y n hn (dh (n+1) (dD (n+1) e ((-1:Int):Rat)) (bB (n+1) ((1:Int):Rat))) (sB c3) (n+1) (gn _ _ _) (D+1+1) ((C.neg (n+1)).add (SzR.num (LQ.int kD kD) (n+1) (N0 n)) (n+1)) oM (AA (n:=n) (a:=e) oM) oM _ _ d.g d.f.1 d.f.r.2.1) ?_;rintro _ _ _ _ _ d ⟨cx,rfl,cd⟩;replace d:=d.aS cd;refine eC 22 98 d (fun _ _ d=>oy u l i x j y n hn e F J L D C oM (bI (n+1) (dh (n+1) (dD (n+1) e ((-1:Int):Rat)) (bB (n+1) ((1:Int):Rat)))) (sB cx) (n+1) (gm _ _) (2*(D+1+1)+1) (((C.neg (n+1)).add (SzR.num (LQ.int kD kD) (n+1) (N0 n)) (n+1)).inv (AA (n:=n) (a:=e) oM) (n+1)) oM oM _ _ d.g d.f.q.2.1 d.f.1 d.f.q.1) ?_;rintro _ _ _ _ _ d ⟨X,rfl,br⟩;replace d:=d.aS br;refine bM d (fun _ _ d=>tV 23 6 (qS (sB X) ((dB (n+1) e (bI (n+1) (dh (n+1) (dD (n+1) e ((-1:Int):Rat)) (bB (n+1) ((1:Int):Rat))))).length) (n+1)) (tV 24 7 (iV 0) (tN (bH [(2,qS F e.length J),(3,pB I),(4,pB M),(6,qS (sB X) ((dB (n+1) e (bI (n+1) (dh (n+1) (dD (n+1) e ((-1:Int):Rat)) (bB (n+1) ((1:Int):Rat))))).length) (n+1)),(7,iV 0),(8,iV ((e.getD 0 0).num.sign))] ?_))));refine kX ?_;obtain rfl:op=11:=by omega
    have H:dV 11 z (e.getD 0 0) 0=0:=(Ao (iM oM));exact d.ret [] (.tuple #[qS (sB X) ((dB (n+1) e (bI (n+1) (dh (n+1) (dD (n+1) e ((-1:Int):Rat)) (bB (n+1) ((1:Int):Rat))))).length) (n+1),iV 0]) (⟨(dB (n+1) e (bI (n+1) (dh (n+1) (dD (n+1) e ((-1:Int):Rat)) (bB (n+1) ((1:Int):Rat))))),_,_,by rw[H],d.f.1,fun _=>(by rw[nY];unfold fC;rw[if_pos oM])⟩)
   have zt:=eq_of_beq zg;refine lB 67 zg (lL d [.v qT] (ak (aa d cG (lN (kX ?_)))));obtain rfl:op=11:=by omega
   have H:dV 11 z (e.getD 0 0) 0=7:=(Jq (DQ oM));exact d.ret [] (.tuple #[qS F e.length J,iV 7]) (⟨e,_,_,by rw[H],d.f.2.1,fun B=>absurd B (by rw[H];decide)⟩)
  have zo:=eq_of_beq zb;refine lB 24 zb (lL d ac (ak (cQ (aa d [.v (qP M 1),.o (iV z) 0 1 1] ?_))));cases zj:(decide ((z:Int)<(0:Int)))
  .
   have zv:=oF zj;refine lB 27 zj (lL d ac (lG 29 ?_));refine lG 30 (lL d [.v qF] (ah (cK (cQ (aa d [.v (qP M 1),.o (iV z) 0 1 1] ?_)))));have ⟨zB,dc⟩:=dF (p:=(z:Int)<(0:Int)) oM;refine lB 35 zB (ah (cK (cQ (cR 6 [] mixed d ao ?_))));refine eV 0 40 (pB I) (eO 1 41 [(1,0,1)] (.iface 109 (.agg #[qS u l i,qS x j y,nV n])) d (eV 3 43 (.iface 109 (.agg #[qS u l i,qS x j y,nV n])) (eV 4 44 (.iface 109 (.agg #[qS u l i,qS x j y,nV n])) (au 2 42 d (fun _ _ d=>vh (1) kD kD _ _ d.g) (fun _ _ d=>eC 5 45 d (fun _ _ d=>gh u l i x j y n hn ((1:Int):Rat) _ _ d.g ) ?_)))));rintro _ _ _ _ _ d ⟨Q,rfl,b9⟩;replace d:=d.aS b9;refine bM d (fun _ zE d=>tV 6 9 (qS (sB Q) ((bB (n+1) ((1:Int):Rat)).length) (n+1)) (tN (cQ (aa d [.v (qP M 1),.o (iV z) 0 1 1,.v (qP M 1),.o (iV z) 0 1 1] (lI 50 (0-z) ?_)))));refine lV 51 (iV (max (z:Int) (0-z:Int))) ?_ (hr:=aK (n:=(if (0-z:Int)>(z:Int) then (0-z:Int) else (z:Int))) kR (by simp only[pg]));refine lL d ac (lN (bH [(2,qS F e.length J),(3,pB I),(4,pB M),(6,sZ),(7,iV 0),(8,iV ((e.getD 0 0).num.sign)),(9,qS (sB Q) ((bB (n+1) ((1:Int):Rat)).length) (n+1)),(51,iV (max (z:Int) (0-z:Int))),(52,iV 0)] ?_));refine kZ ?_;replace d:=d.aS d.f.1;refine bH _ (CG.loop (fun μ_ Γ w_=>∃ (k:Nat)(W:Z9)(Z:Nat)(B:Hp),μ_=z.natAbs-k/\Γ=[(2,qS F e.length J),(3,pB I),(4,pB M),(6,sZ),(7,iV 0),(8,iV ((e.getD 0 0).num.sign)),(51,iV (max (z:Int) (0-z:Int))),(52,nV k),(9,qS W ((dJ (n+1) e k).length) Z)]/\SS w h w_ B [⟨M,51,dd ⟨op,z,q,s,A,kn,c⟩⟩,⟨I,113,[.iface 109 (.agg #[qS u l i,qS x j y,nV n]),.map (some U),qT]⟩] [] [Sq W (dJ (n+1) e k),Sq (sB Q) (bB (n+1) ((1:Int):Rat)),fun B=>Tab B,Sq F e]/\k<=z.natAbs) _ ⟨0,sB Q,(n+1),zE,rfl,rfl,d.to _ _,NY _⟩ ?_);rintro _ _ _ ⟨k,W,Z,_,dm,rfl,d,hk⟩;refine aA ?_;cases zk:(decide ((k:Int)<(max (z:Int) (0-z:Int):Int)))
   .
    have zw:=oF zk;refine lB 53 zk (ag (dE (CG.exit ?_)))
    show CG _ _ _ _ _ _ _ _
    refine aa d cG (lN (kX ?_));obtain rfl:op=8:=by omega
    have H:dV 8 z (e.getD 0 0) 0=0:=((ft kD).trans (eP (fun B=>absurd B kD) (fun _ B=>absurd B oM) (fun B=>absurd B kD) (fun B=>absurd B kD)));exact d.ret [] (.tuple #[qS W ((dJ (n+1) e k).length) Z,iV 0]) (⟨(dJ (n+1) e k),_,_,by rw[H],d.f.1,fun _=>(by rw[kJ,show z.natAbs=k by omega];unfold px;rw[if_neg oM])⟩)
   have zw:=oT zk;refine lB 53 zk (ag (ck (cK (cQ (kZ (kQ ?_))))));have cz:=hwz oM;have V:=z7 (D+1) (show k+1<=z.natAbs by omega);rw[zh] at V
   have cj:z.natAbs*(D+1)<=z.natAbs*(2*D+2):=M5 _ oM;refine lL d [.v (pB I),.o (.iface 109 (.agg #[qS u l i,qS x j y,nV n])) 1 0 1,.c,.c] (lC 58 d (oy u l i x j y n hn (dJ (n+1) e k) W Z (cV _ _ _) (1+k*(D+1)) (C.pow (N0 n) k) oM e F J L D C oM oM _ _ d.g d.f.1 d.f.r.2.1 d.f.r.1) ?_);rintro _ _ zG d ⟨c8,rfl,b0⟩;replace d:=d.aS b0;refine lL d ac (lN (kQ (bw 59 ((k:Nat)+1) (k+1) ?_)));refine lL d ac (lD ?_);intro a_ ka;replace d:=(d.tl.tl.aS d.f.1);refine ⟨_,_,?_,⟨k+1,sB c8,(n+1),zG,rfl,rfl,d.to _ _,oM⟩,ka.to _ kR⟩
   omega
  have zv:=oT zj;refine lB 27 zj (lL d ax ?_);cases zl:(((e.getD 0 0).num.sign:Int) == (0:Int))
  .
   have zx:=aj zl;refine lB 30 zl (lL d [.v qF] (ah (cK (cQ (aa d [.v (qP M 1),.o (iV z) 0 1 1] ?_)))));have ⟨zD,c9⟩:=dT (p:=(z:Int)<(0:Int)) oM;refine lB 35 zD (ak (kQ (lL d [.v (pB I),.o (.iface 109 (.agg #[qS u l i,qS x j y,nV n])) 1 0 1,.c] (lC 39 d (kH u l i x j y n hn e F J L D C oM (iM oM) oM _ _ d.g d.f.2.1 d.f.1) ?_))));rintro _ _ _ d ⟨S,rfl,b7⟩;replace d:=d.aS b7;refine lL d ac (ag (cR 6 [] mixed d ao ?_));refine eV 0 40 (pB I) (eO 1 41 [(1,0,1)] (.iface 109 (.agg #[qS u l i,qS x j y,nV n])) d (eV 3 43 (.iface 109 (.agg #[qS u l i,qS x j y,nV n])) (eV 4 44 (.iface 109 (.agg #[qS u l i,qS x j y,nV n])) (au 2 42 d (fun _ _ d=>vh (1) kD kD _ _ d.g) (fun _ _ d=>eC 5 45 d (fun _ _ d=>gh u l i x j y n hn ((1:Int):Rat) _ _ d.g ) ?_)))));rintro _ _ _ _ _ d ⟨O,rfl,b6⟩;replace d:=d.aS b6;refine bM d (fun _ zH d=>tV 6 9 (qS (sB O) ((bB (n+1) ((1:Int):Rat)).length) (n+1)) (tN (cQ (aa d [.v (qP M 1),.o (iV z) 0 1 1,.v (qP M 1),.o (iV z) 0 1 1] (lI 50 (0-z) ?_)))));refine lV 51 (iV (max (z:Int) (0-z:Int))) ?_ (hr:=aK (n:=(if (0-z:Int)>(z:Int) then (0-z:Int) else (z:Int))) kR (by simp only[pg]));refine lL d ac (lN (bH [(2,qS (sB S) ((bI (n+1) e).length) (n+1)),(3,pB I),(4,pB M),(6,sZ),(7,iV 0),(8,iV ((e.getD 0 0).num.sign)),(9,qS (sB O) ((bB (n+1) ((1:Int):Rat)).length) (n+1)),(51,iV (max (z:Int) (0-z:Int))),(52,iV 0)] ?_));refine kZ ?_;replace d:=d.aS d.f.1;refine bH _ (CG.loop (fun μ_ Γ w_=>∃ (k:Nat)(W:Z9)(Z:Nat)(B:Hp),μ_=z.natAbs-k/\Γ=[(2,qS (sB S) ((bI (n+1) e).length) (n+1)),(3,pB I),(4,pB M),(6,sZ),(7,iV 0),(8,iV ((e.getD 0 0).num.sign)),(51,iV (max (z:Int) (0-z:Int))),(52,nV k),(9,qS W ((dJ (n+1) (bI (n+1) e) k).length) Z)]/\SS w h w_ B [⟨M,51,dd ⟨op,z,q,s,A,kn,c⟩⟩,⟨I,113,[.iface 109 (.agg #[qS u l i,qS x j y,nV n]),.map (some U),qT]⟩] [] [Sq W (dJ (n+1) (bI (n+1) e) k),Sq (sB O) (bB (n+1) ((1:Int):Rat)),Sq (sB S) (bI (n+1) e),fun B=>Tab B,Sq F e]/\k<=z.natAbs) _ ⟨0,sB O,(n+1),zH,rfl,rfl,d.to _ _,NY _⟩ ?_);rintro _ _ _ ⟨k,W,Z,_,dp,rfl,d,hk⟩;refine aA ?_;cases zm:(decide ((k:Int)<(max (z:Int) (0-z:Int):Int)))
   .
    have zA:=oF zm;refine lB 53 zm (ag (dE (CG.exit ?_)))
    show CG _ _ _ _ _ _ _ _
    refine aa d cG (lN (kX ?_));obtain rfl:op=8:=by omega
    have H:dV 8 z (e.getD 0 0) 0=0:=((ft kD).trans (eP (fun B=>absurd B kD) (fun _ _=>iM oM) (fun B=>absurd B kD) (fun B=>absurd B kD)));exact d.ret [] (.tuple #[qS W ((dJ (n+1) (bI (n+1) e) k).length) Z,iV 0]) (⟨(dJ (n+1) (bI (n+1) e) k),_,_,by rw[H],d.f.1,fun _=>(by rw[kJ,show z.natAbs=k by omega];unfold px;rw[if_pos oM])⟩)
   have zA:=oT zm;refine lB 53 zm (ag (ck (cK (cQ (kZ (kQ ?_))))));have cz:=hwz oM;have V:=z7 (2*D+1+1) (show k+1<=z.natAbs by omega);rw[zh] at V
   have cj:z.natAbs*(2*D+1+1)<=z.natAbs*(2*D+2):=M5 _ oM;refine lL d [.v (pB I),.o (.iface 109 (.agg #[qS u l i,qS x j y,nV n])) 1 0 1,.c,.c] (lC 58 d (oy u l i x j y n hn (dJ (n+1) (bI (n+1) e) k) W Z (cV _ _ _) (1+k*(2*D+1+1)) ((C.inv (iM oM) (n+1)).pow (N0 n) k) oM (bI (n+1) e) (sB S) (n+1) (gm _ _) (2*D+1) (C.inv (iM oM) (n+1)) oM oM _ _ d.g d.f.1 d.f.r.1 d.f.r.2.1) ?_);rintro _ _ zI d ⟨c7,rfl,b2⟩;replace d:=d.aS b2;refine lL d ac (lN (kQ (bw 59 ((k:Nat)+1) (k+1) ?_)));refine lL d ac (lD ?_);intro a_ ka;replace d:=(d.tl.tl.aS d.f.1);refine ⟨_,_,?_,⟨k+1,sB c7,(n+1),zI,rfl,rfl,d.to _ _,oM⟩,ka.to _ kR⟩
   omega
  have zx:=eq_of_beq zl;refine lB 30 zl (lL d [.v qT] (ak (aa d cG (lN (kX ?_)))));obtain rfl:op=8:=by omega
  have H:dV 8 z (e.getD 0 0) 0=6:=((ft kD).trans (GO (.inr ⟨rfl,by omega,DQ oM⟩)));exact d.ret [] (.tuple #[qS F e.length J,iV 6]) (⟨e,_,_,by rw[H],d.f.2.1,fun B=>absurd B (by rw[H];decide)⟩)
 have zn:=eq_of_beq za;refine lB 19 za (lL d ac (ak (aa d [.o (.agg #[.iface 109 (.agg #[qS u l i,qS x j y,nV n]),.map (some U),qT]) 1 0 3,.c] (lC 22 d (l9 u l i x j y n hn U e F J L D C oM _ _ d.g d.f.2.1 d.f.1) ?_))));rintro _ _ _ d ⟨cm,rfl,bk⟩;replace d:=d.aS bk;refine lL d ax (lN (kX ?_));obtain rfl:op=7:=by omega
 have H:dV 7 z (e.getD 0 0) 0=0:=((ft kD).trans (eP (fun B=>absurd B kD) (fun B=>absurd B kD) (fun B=>absurd B kD) (fun B=>absurd B kD)));exact d.ret [] (.tuple #[qS (sB cm) ((dD (n+1) e ((-1:Int):Rat)).length) (n+1),iV 0]) (⟨(dD (n+1) e ((-1:Int):Rat)),_,_,by rw[H],d.f.1,fun _=>rfl⟩)
theorem Bv (u p j x l y n)(hn:n<=12)(bm op z q s A kn c i D F)(J:i.length=n+1)(Wa)(L:SzR Wa i)(hwa:Wa<=1500000)(e H cb)(I:e.length=n+1)(O)(C:SzR O e)(hwb:O<=1500000)(hop:3<=op/\op<=6\/12<=op/\op<=13)(hw4:Wa<=400000)(hw5:O<=400000)(w h)(g:G w h)(hSa:Sq D i h)(hSb:Sq H e h)(tb:Tab h):CR 94 #[.agg #[.iface 109 (.agg #[.slice u p j,.slice x l y,nV n]),.map (some bm),.bool true],bW ⟨op,z,q,s,A,kn,c⟩,.slice D i.length F,.slice H e.length cb] w h (fun v h1=>∃ (L_:List Rat)(A_:Z9)(c_:Nat),v=.tuple #[.slice A_ L_.length c_,iV (dV op z (i.getD 0 0) (e.getD 0 0))]/\Sq A_ L_ h1/\(dV op z (i.getD 0 0) (e.getD 0 0)=0->L_=gy op z (n+1) i e)):=by
 have a:=((((sS g).aS hSa).aS hSb).add (K:=fun d=>Tab d) tb);refine go Tryz.func94 [(0,.agg #[.iface 109 (.agg #[qS u p j,qS x l y,nV n]),.map (some bm),qT]),(1,bW ⟨op,z,q,s,A,kn,c⟩),(2,qS D i.length F),(3,qS H e.length cb)] rfl (aA (lA 4 113 ([.iface 109 (.agg #[qS u p j,qS x l y,nV n]),.map (some bm),qT]) a (fun U w2 h3 a=>lA 5 51 (dd ⟨op,z,q,s,A,kn,c⟩) a (fun b4 w5 h6 a=>lL a ax (ag (aa a [.v (pB b4),.o (iV op) 0 0 1] (aZ (aA ?_))))))));cases M:((op:Int) == (3:Int))
 .
  have bq:=aj M;refine lB 14 M (lL a ac (ah (aA ?_)));cases Q:((op:Int) == (4:Int))
  .
   have bl:=aj Q;refine lB 21 Q (lL a ac (ah (aA ?_)));cases S:((op:Int) == (5:Int))
   .
    have b2:=aj S;refine lB 32 S (lL a ac (ah (aA ?_)));cases za:((op:Int) == (6:Int))
    .
     have zg:=aj za;refine lB 39 za (lL a ac (ah (cK (cQ (cR 9 [] mixed a ao ?_)))));refine eV 0 57 (pB U) (eO 1 58 [(1,0,1)] (.iface 109 (.agg #[qS u p j,qS x l y,nV n])) a (eV 2 59 (qS D i.length F) (eV 4 61 (pB U) (eO 5 62 [(1,0,1)] (.iface 109 (.agg #[qS u p j,qS x l y,nV n])) a (eV 6 63 (qS H e.length cb) (au 3 60 a (fun _ _ a=>EA u p j x l y n hn i D F J _ _ a.g a.f.r.1) (fun _ _ a=>au 7 64 a (fun _ _ a=>EA u p j x l y n hn e H cb I _ _ a.g a.f.2.1) (fun _ _ a=>au 8 65 a (fun _ _ a=>Lp (i.getD 0 0) (e.getD 0 0) (LQ.mono (L.lq oM 0) oM) (LQ.mono (C.lq oM 0) oM) _ _ a.g) (fun _ _ a=>bM a (fun _ _ a=>tV 9 10 (iV (dC (i.getD 0 0) (e.getD 0 0))) (tN (cQ (aa a ac ?_)))))))))))));cases zb:((dC (i.getD 0 0) (e.getD 0 0):Int) == (0:Int))
     .
      have zi:=aj zb;refine lB 67 zb (ah (cK (cQ (aa a ac ?_))));cases zc:(decide ((0:Int)<(dC (i.getD 0 0) (e.getD 0 0):Int)))
      .
       have zj:=oF zc;refine lB 70 zc (lL a [.v (pB b4),.o (iV op) 0 0 1] ?_);cases zd:((op:Int) == (12:Int))
       .
        have zk:=aj zd;refine lB 73 zd (lL a [.v qT] (ak (aa a cG (lN (kX ?_)))));have B:dV op z (i.getD 0 0) (e.getD 0 0)=0:=((ft oM).trans (eP (fun d=>absurd d oM) (fun d=>absurd d oM) (fun d=>absurd d oM) (fun _=>fun Y=>absurd (iF.2 Y) oM)));exact a.ret [] (.tuple #[qS D i.length F,iV 0]) (⟨i,_,_,by rw[B],a.f.r.1,fun _=>(vd (An oM))⟩)
       have zk:=eq_of_beq zd;refine lB 73 zd (lL a [.v qF] (ah (cK (aa a cG (lN (kX ?_))))));have B:dV op z (i.getD 0 0) (e.getD 0 0)=0:=((ft oM).trans (eP (fun d=>absurd d oM) (fun d=>absurd d oM) (fun d=>absurd d oM) (fun _=>fun Y=>absurd (iF.2 Y) oM)));exact a.ret [] (.tuple #[qS H e.length cb,iV 0]) (⟨e,_,_,by rw[B],a.f.2.1,fun _=>(vW (AH oM))⟩)
      have zj:=oT zc;refine lB 70 zc (lL a [.v (pB b4),.o (iV op) 0 0 1] ?_);cases ze:((op:Int) == (12:Int))
      .
       have zl:=aj ze;refine lB 73 ze (lL a [.v qF] (ah (cK (aa a cG (lN (kX ?_))))));have B:dV op z (i.getD 0 0) (e.getD 0 0)=0:=((ft oM).trans (eP (fun d=>absurd d oM) (fun d=>absurd d oM) (fun d=>absurd d oM) (fun _=>fun Y=>absurd (iF.2 Y) oM)));exact a.ret [] (.tuple #[qS H e.length cb,iV 0]) (⟨e,_,_,by rw[B],a.f.2.1,fun _=>(vW (AH oM))⟩)
      have zl:=eq_of_beq ze;refine lB 73 ze (lL a [.v qT] (ak (aa a cG (lN (kX ?_)))));have B:dV op z (i.getD 0 0) (e.getD 0 0)=0:=((ft oM).trans (eP (fun d=>absurd d oM) (fun d=>absurd d oM) (fun d=>absurd d oM) (fun _=>fun Y=>absurd (iF.2 Y) oM)));exact a.ret [] (.tuple #[qS D i.length F,iV 0]) (⟨i,_,_,by rw[B],a.f.r.1,fun _=>(vd (An oM))⟩)
     have zi:=eq_of_beq zb;refine lB 67 zb (ak (aa a cG (lN (kX ?_))));have B:dV op z (i.getD 0 0) (e.getD 0 0)=7:=((ft oM).trans (GD (.inr ⟨by omega,iF.1 oM⟩)));exact a.ret [] (.tuple #[qS D i.length F,iV 7]) (⟨i,_,_,by rw[B],a.f.r.1,fun d=>absurd d (by rw[B];decide)⟩)
    have zg:=eq_of_beq za;refine lB 39 za (lL a ac (ak (cQ (aa a [.v (pB U),.o (.iface 109 (.agg #[qS u p j,qS x l y,nV n])) 1 0 1,.c] (ar 43 a (EA u p j x l y n hn e H cb I _ _ a.g a.f.2.1) (fun _ _ a=>ar 44 a (j8 (e.getD 0 0) (LQ.mono (C.lq oM 0) oM) _ _ a.g) (fun _ _ a=>?_)))))));have b3:=l6 (e.getD 0 0).num;cases zf:(((e.getD 0 0).num.sign:Int) == (0:Int))
    .
     have zm:=aj zf;refine lB 45 zf (ah (cK (cQ (cR 10 [] mixed a ao ?_))));refine eV 0 47 (pB U) (eO 1 48 [(1,0,1)] (.iface 109 (.agg #[qS u p j,qS x l y,nV n])) a (eV 2 49 (qS D i.length F) (eV 3 50 (pB U) (eO 4 51 [(1,0,1)] (.iface 109 (.agg #[qS u p j,qS x l y,nV n])) a (eV 5 52 (qS H e.length cb) (eV 7 54 (.iface 109 (.agg #[qS u p j,qS x l y,nV n])) (eV 8 55 (.iface 109 (.agg #[qS u p j,qS x l y,nV n])) (eC 6 53 a (fun _ _ a=>kH u p j x l y n hn e H cb I O C oM (iM oM) oM _ _ a.g a.f.2.1 a.f.1) ?_))))))));rintro _ _ _ _ _ a ⟨bn,rfl,bk⟩;replace a:=a.aS bk;refine eC 9 56 a (fun _ _ a=>oy u p j x l y n hn i D F J Wa L oM (bI (n+1) e) (sB bn) (n+1) (gm _ _) (2*O+1) (C.inv (iM oM) (n+1)) oM oM _ _ a.g a.f.r.2.1 a.f.1 a.f.2.1) ?_;rintro _ _ _ _ _ a ⟨V,rfl,X⟩;replace a:=a.aS X;refine bM a (fun _ _ a=>tV 10 8 (qS (sB V) ((dB (n+1) i (bI (n+1) e)).length) (n+1)) (tV 11 9 (iV 0) (tN (kX ?_))));obtain rfl:op=6:=by omega
     have B:dV 6 z (i.getD 0 0) (e.getD 0 0)=0:=((ft kD).trans (eP (fun _=>iM oM) (fun d=>absurd d kD) (fun d=>absurd d kD) (fun d=>absurd d kD)));exact a.ret [] (.tuple #[qS (sB V) ((dB (n+1) i (bI (n+1) e)).length) (n+1),iV 0]) (⟨(dB (n+1) i (bI (n+1) e)),_,_,by rw[B],a.f.1,fun _=>rfl⟩)
    have zm:=eq_of_beq zf;refine lB 45 zf (ak (aa a cG (lN (kX ?_))));obtain rfl:op=6:=by omega
    have B:dV 6 z (i.getD 0 0) (e.getD 0 0)=6:=((ft kD).trans (GO (.inl ⟨rfl,DQ oM⟩)));exact a.ret [] (.tuple #[qS D i.length F,iV 6]) (⟨i,_,_,by rw[B],a.f.r.1,fun d=>absurd d (by rw[B];decide)⟩)
   have b2:=eq_of_beq S;refine lB 32 S (lL a ac (ak (aa a [.v (pB U),.o (.iface 109 (.agg #[qS u p j,qS x l y,nV n])) 1 0 1,.c,.c] (lC 37 a (oy u p j x l y n hn i D F J Wa L oM e H cb I O C oM oM _ _ a.g a.f.r.1 a.f.2.1 a.f.1) ?_))));rintro _ _ _ a ⟨b0,rfl,bj⟩;replace a:=a.aS bj;refine lL a ax (lN (kX ?_));obtain rfl:op=5:=by omega
   have B:dV 5 z (i.getD 0 0) (e.getD 0 0)=0:=((ft kD).trans (eP (fun d=>absurd d kD) (fun d=>absurd d kD) (fun d=>absurd d kD) (fun d=>absurd d kD)));exact a.ret [] (.tuple #[qS (sB b0) ((dB (n+1) i e).length) (n+1),iV 0]) (⟨(dB (n+1) i e),_,_,by rw[B],a.f.1,fun _=>rfl⟩)
  have bl:=eq_of_beq Q;refine lB 21 Q (lL a ac (ak (cQ (cR 9 [] mixed a ao ?_))));refine eV 0 22 (pB U) (eO 1 23 [(1,0,1)] (.iface 109 (.agg #[qS u p j,qS x l y,nV n])) a (eV 2 24 (qS D i.length F) (eO 3 25 [(1,0,3)] (.agg #[.iface 109 (.agg #[qS u p j,qS x l y,nV n]),.map (some bm),qT]) a (eV 4 26 (qS H e.length cb) (eV 6 28 (.iface 109 (.agg #[qS u p j,qS x l y,nV n])) (eV 7 29 (.iface 109 (.agg #[qS u p j,qS x l y,nV n])) (eC 5 27 a (fun _ _ a=>l9 u p j x l y n hn bm e H cb I O C oM _ _ a.g a.f.2.1 a.f.1) ?_)))))));rintro _ _ _ _ _ a ⟨bz,rfl,Z⟩;replace a:=a.aS Z;refine eC 8 30 a (fun _ _ a=>vX u p j x l y n hn i D F J Wa L oM (dD (n+1) e ((-1:Int):Rat)) (sB bz) (n+1) (fO _ _ _) O (C.neg (n+1)) oM _ _ a.g a.f.r.2.1 a.f.1 a.f.2.1) ?_;rintro _ _ _ _ _ a ⟨W,rfl,bd⟩;replace a:=a.aS bd;refine bM a (fun _ _ a=>tV 9 8 (qS (sB W) ((dh (n+1) i (dD (n+1) e ((-1:Int):Rat))).length) (n+1)) (tV 10 9 (iV 0) (tN (kX ?_))));obtain rfl:op=4:=by omega
  have B:dV 4 z (i.getD 0 0) (e.getD 0 0)=0:=((ft kD).trans (eP (fun d=>absurd d kD) (fun d=>absurd d kD) (fun d=>absurd d kD) (fun d=>absurd d kD)));exact a.ret [] (.tuple #[qS (sB W) ((dh (n+1) i (dD (n+1) e ((-1:Int):Rat))).length) (n+1),iV 0]) (⟨(dh (n+1) i (dD (n+1) e ((-1:Int):Rat))),_,_,by rw[B],a.f.1,fun _=>rfl⟩)
 have bq:=eq_of_beq M;refine lB 14 M (lL a ac (ak (aa a [.v (pB U),.o (.iface 109 (.agg #[qS u p j,qS x l y,nV n])) 1 0 1,.c,.c] (lC 19 a (vX u p j x l y n hn i D F J Wa L oM e H cb I O C oM _ _ a.g a.f.r.1 a.f.2.1 a.f.1) ?_))));rintro _ _ _ a ⟨br,rfl,bb⟩;replace a:=a.aS bb;refine lL a ax (lN (kX ?_));obtain rfl:op=3:=by omega
 have B:dV 3 z (i.getD 0 0) (e.getD 0 0)=0:=((ft kD).trans (eP (fun d=>absurd d kD) (fun d=>absurd d kD) (fun d=>absurd d kD) (fun d=>absurd d kD)));exact a.ret [] (.tuple #[qS (sB br) ((dh (n+1) i e).length) (n+1),iV 0]) (⟨(dh (n+1) i e),_,_,by rw[B],a.f.1,fun _=>rfl⟩)
open Go.RowKit Go.WideMaps
structure MapI (P:Program) (kt:TypeId) (Q:Value->Prop) (w1:World) (h1:Hp) (b:Nat):Prop where
  jk:h1[b]?=some bp
  ex:∃ es clk,w1.heap[b]?=some (.map es clk)/\∀ e∈es.toList,(∃ l,keyOf P kt e.key=some l)/\Q e.val
section laws
variable {P:Program}{n:Nat}{N R:Po}{X:Nat->Po}{ops:Array Oper}{k:Nat}{Γ:cC}{w:World}{h:Hp}{w0 w1:World}{h0 h1:Hp}{B:List Bx}{Rs:List Rw}{F:List (Hp->Prop)}
theorem SS.base (s:SS w1 h1 w h B Rs F){b:Nat}{o:Obj}(u:h1[b]?=some bp)(D:b<w1.heap.size):
  SS { w1 with heap:=w1.heap.setIfInBounds b o } h1 { w with heap:=w.heap.setIfInBounds b o } h B Rs F/\G { w1 with heap:=w1.heap.setIfInBounds b o } h1:=by
 have y:b<h1.size:=aW u;have l:h[b]?=some bp:=(s.st.up.gr.blk b y).trans u;have p:b<w.heap.size:=by rw[s.g.size];exact aW l
 have set:∀ (w:World) c,c≠b->({ w with heap:=w.heap.setIfInBounds b o }:World).heap[c]?=w.heap[c]?:=fun w c d=>by show (w.heap.setIfInBounds b o)[c]?=_;rw[la (Ne.symm d)]
 have a:∀ (w:World),b<w.heap.size->({ w with heap:=w.heap.setIfInBounds b o }:World).heap[b]?=some o:=fun w H=>by show (w.heap.setIfInBounds b o)[b]?=_;rw[Bs H]
 have C:∀ (w:World) (h:Hp),G w h->h[b]?=some bp->G { w with heap:=w.heap.setIfInBounds b o } h:=fun w h g j=>⟨by show (w.heap.setIfInBounds b o).size=_;rw[PA];exact g.size,fun c=>by
  by_cases e:c=b
  ·subst e;exact .inr j
  ·rw[set w c e];exact g.blk c⟩
 have i:=C w1 h1 s.g0 u;refine ⟨⟨i,⟨⟨?_,s.st.up.gr,C w h s.g l⟩,fun x z=>?_,s.st.jk,s.st.lo,s.st.nd⟩,fun r hr=>?_,s.ap,s.mo,s.f⟩,i⟩
 ·have e:=s.st.up.ext
  refine ⟨e.os,e.tape,e.output,?_,fun c d=>?_⟩
  ·show (w1.heap.setIfInBounds b o).size<=(w.heap.setIfInBounds b o).size
   rw[PA,PA];exact e.size
  ·by_cases q:c=b
   ·subst q;rw[a w p,a w1 D]
   ·rw[set w c q,set w1 c q];exact e.block c (by have:c<(w1.heap.setIfInBounds b o).size:=d;rw[PA] at this;exact this)
 ·have:x.b≠b:=fun e=>by have:=s.st.lo x z;omega
  exact (set w x.b this).trans (s.st.own x z)
 ·have q:=s.ro r hr
  refine ⟨fa q.own (fun c d=>set w c (fun e=>?_)),q.jk,q.ap⟩;subst e
  rcases q.own with ⟨_,e2|⟨g,cap,cur,hv,hb',_⟩⟩
  ·rw[e2.1] at d;simp[Value.ownBlock] at d
  ·rw[hv] at d
   simp[Value.ownBlock] at d
   omega
end laws
theorem Ba (ok:ByteArray->Prop)(ix:ByteArray->Nat)(fs e l)(J:fs.length<=1000)(j)(p:List MapEntry)(d n q s A c)(ps:List PTm)(ks:List Tm)(x:ix s<fs.length)(y:∃ i,Instr.findNow .string (.string s) p 0=some (some (i,nV (ix s))))(w h)(g:G w h)(H:SlO 9 dd cM h A ps)(I:Sq e fs h)(hM:MapS h j p):CR 79 #[.agg #[.iface 143 (.agg #[.slice e fs.length l]),.map (some j),.bool false],bW ⟨2,n,q,s,A,ps.length,c⟩] w h (fun v h1=>∃ (B:Z9)(c_:Nat),v=.tuple #[xG (I6 ix fs (d+1) (.mk 2 n q s ks)).2.1 B (I6 ix fs (d+1) (.mk 2 n q s ks)).2.2.length c_,iV (I6 ix fs (d+1) (.mk 2 n q s ks)).1]/\Sq B (I6 ix fs (d+1) (.mk 2 n q s ks)).2.2 h1):=by
 have a:=((((sS g).aS H).aS I).add (K:=fun O=>MapS O j p) hM);refine go Tryz.func79 [(0,.agg #[.iface 143 (.agg #[qS e fs.length l]),.map (some j),qF]),(1,bW ⟨2,n,q,s,A,ps.length,c⟩)] rfl (aA (lA 2 147 ([.iface 143 (.agg #[qS e fs.length l]),.map (some j),qF]) a (fun D w2 U a=>lA 3 51 (dd ⟨2,n,q,s,A,ps.length,c⟩) a (fun z V S a=>lA 4 90 ([qF,uV 0,eS,uV 0,eS,sZ]) a (fun W X Q a=>lL a ac (aG (lA 6 90 ([qF,uV 0,eS,uV 0,eS,sZ]) a (fun M _ _ a=>ag (aa a [.v (pB z),.o (iV 2) 2 0 1] (aZ (aa a [.v qF,.c] (ah (aa a [.v qT,.c] (ak (aa a [.v (pB D),.o (.iface 143 (.agg #[qS e fs.length l])) 3 0 1,.v (qP D 1),.o (.map (some j)) 3 1 1,.v (qP z 7),.o (.string s) 2 7 1] (Kp 28 104 9 3 (s) false (nV (ix s)) (true) a a.f.1 ?_ (hf:=(by obtain ⟨L,F⟩:=y;exact .inl ⟨L,F,rfl⟩))))))))))))))))));refine lC 29 a (IA e fs.length l J fs rfl (ix s) x _ _ a.g a.f.2.1) ?_;rintro _ _ _ a ⟨C,rfl,u⟩;replace a:=a.aS u;exact lP 1 0 (qZ (fs.getD (ix s) 0) (sB C) ((mL fs.length (ix s)).length) fs.length) a (fun _ a=>lL a ac (ae a [(1,0,6)] (.tuple #[qY (fs.getD (ix s) 0) (sB C) ((mL fs.length (ix s)).length) fs.length,iV 0]) (⟨_,_,rfl,a.f.1⟩)))
def tr (nm:Int->ByteArray)(l:List Stp)(i:Nat):Tm:=I8 nm l (l.length+1) i
structure DpS (dp:Nat->Nat) (l:List Stp):Prop where
  one:∀ k,k<l.length->1<=dp k
  le:∀ k,k<l.length->dp k<=20
  a:∀ k,k<l.length->0<gQ (l.getD k fA).op->dp (l.getD k fA).a.toNat<dp k
  b:∀ k,k<l.length->1<gQ (l.getD k fA).op->dp (l.getD k fA).b.toNat<dp k
def ff:Nat->Tm->Nat
  | 0,_=>0
  | d+1,t=>1+d9 (fun i=>ff d (t.ks.getD i di)) t.ks.length
def fJ:Nat->Tm->ByteArray->Prop
  | 0,_,_=>False
  | d+1,t,s=>(t.op=2/\s=t.s)\/∃ i,i<t.ks.length/\fJ d (t.ks.getD i di) s
def HasK (d:Nat)(ks:List Tm)(k:Nat)(s:ByteArray):Prop:=∃ i,i<k/\fJ d (ks.getD i di) s
theorem HasK.zero {d:Nat}{ks:List Tm}{s:ByteArray}:¬HasK d ks 0 s:=fun ⟨i,h,_⟩=>absurd h (O9 i)
theorem HasK.succ {d:Nat}{ks:List Tm}{k:Nat}{s:ByteArray}:HasK d ks (k+1) s↔HasK d ks k s\/fJ d (ks.getD k di) s:=by
 constructor
 ·rintro ⟨i,hi,h⟩
  by_cases e:i=k
  ·subst e;exact .inr h
  ·exact .inl ⟨i,by omega,h⟩
 ·rintro (⟨i,hi,h⟩|h)
  ·exact ⟨i,by omega,h⟩
  ·exact ⟨k,by omega,h⟩
theorem WfT1.names {ok p:ByteArray->Prop}:∀ {d:Nat} {t:Tm},WfT1 ok d t->(∀ s,fJ d t s->p s)->WfT1 (fun s=>ok s/\p s) d t
 | d+1,t,⟨h1,h2,h3,h4,h5,h6,h7,h8,h9⟩,h=>⟨h1,h2,h3,fun e=>⟨h4 e,h _ (.inl ⟨e,rfl⟩)⟩,h5,h6,h7,h8,fun i hi=>WfT1.names (h9 i hi) (fun s a=>h s (.inr ⟨i,hi,a⟩))⟩
theorem un {ok:ByteArray->Prop}:∀ {d:Nat} {t:Tm} {s:ByteArray},WfT1 ok d t->fJ d t s->ok s
 | d+1,t,s,w,.inl ⟨h1,h2⟩=>by rw[h2];exact w.2.2.2.1 h1
 | d+1,t,s,w,.inr ⟨i,hi,h⟩=>un (w.2.2.2.2.2.2.2.2 i hi) h
theorem WfT1.imp {ok p:ByteArray->Prop}(f:∀ s,ok s->p s):∀ {d:Nat} {t:Tm},WfT1 ok d t->WfT1 p d t
 | d+1,t,⟨h1,h2,h3,h4,h5,h6,h7,h8,h9⟩=>⟨h1,h2,h3,fun e=>f _ (h4 e),h5,h6,h7,h8,fun i hi=>WfT1.imp f (h9 i hi)⟩
theorem WfT1.two {ok:ByteArray->Prop}{d:Nat}{t:Tm}(h:WfT1 ok (d+1) t):t.ks.length<=2:=by
 have:=h.1;have:=aF t.op
 omega
theorem vf {f:Nat->Nat}{b:Nat}:∀ n,(∀ i,i<n->f i<=b)->d9 f n<=n*b
  | 0,_=>by simp[d9]
  | n+1,h=>by
    have h1:=vf n (fun i hi=>h i oM);have a:=h n (Pe n)
    show d9 f n+f n<=_
    rw[zh];omega
theorem td {ok:ByteArray->Prop}:∀ {d:Nat} {t:Tm},WfT1 ok d t->ff d t+1<=2^d
  | d+1,t,w=>by
    have a:=w.two;have h:=vf (f:=fun i=>ff d (t.ks.getD i di)) (b:=2^d-1) t.ks.length (fun i hi=>by have:=td (w.2.2.2.2.2.2.2.2 i hi);show ff d _<=_;omega);have e:0<2^d:=M0 d;have c:t.ks.length*(2^d-1)<=2*(2^d-1):=z7 _ a
    show 1+d9 _ _+1<=2^(d+1)
    rw[MP];omega
structure RecOk (nm:Int->ByteArray) (inp:Int) (d:Nat) (l:List Stp) (l2:List Stp) (n:Nat) (t:Tm):Prop where
  lq:(∀ i,LQ 1 (l.getD i fA).q)->∀ i,LQ 1 (l2.getD i fA).q
  dps:∀ dp,DpS dp l->∃ dp',DpS dp' l2/\(∀ k,k<l.length->dp' k=dp k)/\dp' (l2.length-1)<=d
  pre:∃ m,l2=l++m
  len:l2.length=l.length+n
  pos:0<n
  fm:∀ k,k<l2.length->qn inp k (l2.getD k fA)
  tr:∀ f,l2.length<=f->I8 nm l2 f (l2.length-1)=t
structure AllOk (nm:Int->ByteArray) (inp:Int) (d:Nat) (ts:List Tm) (k:Nat) (l:List Stp) (os:List Int) (c:Nat):Prop where
  len:l.length=c
  fm:∀ k,k<l.length->qn inp k (l.getD k fA)
  lq:∀ i,LQ 1 (l.getD i fA).q
  dps:∃ dp,DpS dp l
  out:∀ j,j<k->0<=os.getD j 0/\os.getD j 0<(l.length:Nat)/\I8 nm l (l.length+1) (os.getD j 0).toNat=ts.getD j di
def Gp (s:ByteArray):Prop:=s=⟨#[120]⟩\/s=⟨#[121]⟩\/s=⟨#[122]⟩
theorem Hm:∀ {k:Nat},k<3->Gp (dS.getD k ⟨#[]⟩)
 | 0,_=>.inl rfl
 | 1,_=>.inr (.inl rfl)
 | 2,_=>.inr (.inr rfl)
def Ma:Nat->Tm->Prop
  | 0,_=>True
  | d+1,t=>-11<=t.n/\∀ i,i<t.ks.length->Ma d (t.ks.getD i di)
def GrT (d:Nat)(t:Tm):Prop:=WfT1 Gp d t/\3*bL d t<=3^d/\Ma d t
theorem GrT.num {d:Nat}{q:Rat}(h:LQ 1 q):GrT (d+1) (.mk 1 0 q ⟨#[]⟩ []) :=
 ⟨⟨rfl,fun h=>absurd rfl h,h,fun h=>absurd (show (1:Int)=2 from h) kD,fun _=>rfl,fun _=>rfl,by show (-12:Int)<=0;decide,by show (0:Int)<=12;decide,fun i hi=>absurd hi (O9 i)⟩,by
  have:=M0 d;have:0<3^d:=Nat.pow_pos kD
  show 3*1<=3^(d+1)
  rw[MP];omega,by show (-11:Int)<=0;decide,fun i hi=>absurd hi (O9 i)⟩
theorem GrT.name {d:Nat}{s:ByteArray}(h:Gp s):GrT (d+1) (.mk 2 0 0 s []) :=
 ⟨⟨rfl,fun _=>rfl,o7 kD,fun _=>h,fun h=>absurd rfl h,fun _=>rfl,by show (-12:Int)<=0;decide,by show (0:Int)<=12;decide,fun i hi=>absurd hi (O9 i)⟩,by
  have:0<3^d:=Nat.pow_pos kD
  show 3*1<=3^(d+1)
  rw[MP];omega,by show (-11:Int)<=0;decide,fun i hi=>absurd hi (O9 i)⟩
theorem GrT.one {d:Nat}{op n:Int}{t:Tm}(x:GrT d t)(ha:gQ op=1)(a:op≠8->n=0)(h1 : -3<=n)(c:n<=3):GrT (d+1) (.mk op n 0 ⟨#[]⟩ [t]):=by
 refine ⟨⟨ha,fun _=>rfl,o7 kD,fun h=>?_,fun _=>rfl,a,by show (-12:Int)<=n;omega,by show n<=12;omega,fun i hi=>?_⟩,?_,by show -11<=n;omega,fun i hi=>by
  have:i=0:=by have:i<1:=hi;omega
  subst this;exact x.2.2⟩
 ·have h:op=2:=h
  rw[h] at ha;exact absurd ha kD
 ·have:i=0:=by have:i<1:=hi;omega
  subst this;exact x.1
 ·show 3*((if op=11 then 2 else if op=8 then bP n else 1)*(0+bL d t))<=3^(d+1)
  have hf:(if op=11 then 2 else if op=8 then bP n else 1)<=3:=by
   unfold bP;repeat' split
   all_goals omega
  have:=NF hf x.2.1;rw[MP,z6,Pz,MQ (3^d)];exact this
theorem GrT.two {d:Nat}{op:Int}{t u:Tm}(x:GrT d t)(y:GrT d u)(ha:gQ op=2):GrT (d+1) (.mk op 0 0 ⟨#[]⟩ [t,u]):=by
 have c:op≠8:=fun h=>by rw[h] at ha;exact absurd ha kD
 have a:op≠11:=fun h=>by rw[h] at ha;exact absurd ha kD
 refine ⟨⟨ha,fun _=>rfl,o7 kD,fun h=>?_,fun _=>rfl,fun _=>rfl,by show (-12:Int)<=0;decide,by show (0:Int)<=12;decide,fun i hi=>?_⟩,?_,by show (-11:Int)<=0;decide,fun i hi=>by
  have:i=0\/i=1:=by have:i<2:=hi;omega
  rcases this with rfl|rfl
  ·exact x.2.2
  ·exact y.2.2⟩
 ·have h:op=2:=h
  rw[h] at ha;exact absurd ha kD
 ·have:i=0\/i=1:=by have:i<2:=hi;omega
  rcases this with rfl|rfl
  ·exact x.1
  ·exact y.1
 ·show 3*((if op=11 then 2 else if op=8 then bP 0 else 1)*(0+bL d t+bL d u))<=3^(d+1)
  rw[if_neg a,if_neg c,MP];have:=x.2.1;have:=y.2.1
  omega
section
variable {d:Nat}{h:Hp}
theorem tR:RZ h (false,.slice none 0 0,.slice none 0 0) 0:=⟨false,⟨none,0,none,0,rfl,ek _,ek _,SlO.nil,SlO.nil⟩,fun _=>rfl⟩
theorem Iw {b:Bool}{a c:Z9}{f e l j:Nat}{q:Rat}(hz:RZ h (b,.slice a f e,.slice c l j) q):RmH (d+1) h ⟨1,0,b,a,f,e,c,l,j,⟨#[]⟩,none,0,0⟩ (.mk 1 0 q ⟨#[]⟩ []) :=
 ⟨rfl,rfl,hz,rfl,rfl,ek _,[],rfl,SlO.nil,fun i hi=>absurd hi (O9 i)⟩
theorem Em {s:ByteArray}:RmH (d+1) h ⟨2,0,false,none,0,0,none,0,0,s,none,0,0⟩ (.mk 2 0 0 s []) :=
 ⟨rfl,rfl,tR,rfl,rfl,ek _,[],rfl,SlO.nil,fun i hi=>absurd hi (O9 i)⟩
theorem Ce {op n:Int}{p:RTm}{t:Tm}{b:Nat}(x:RmH d h p t)(a:SlO 7 bJ bX h (some ⟨b,0,none⟩) [p]):RmH (d+1) h ⟨op,n,false,none,0,0,none,0,0,⟨#[]⟩,some ⟨b,0,none⟩,1,1⟩ (.mk op n 0 ⟨#[]⟩ [t]) :=
 ⟨rfl,rfl,tR,rfl,rfl,ek _,[p],rfl,a,fun i hi=>by
  have:i=0:=by have:i<1:=hi;omega
  subst this;exact x⟩
theorem Hu {op:Int}{p q:RTm}{t u:Tm}{b:Nat}(x:RmH d h p t)(y:RmH d h q u)(a:SlO 7 bJ bX h (some ⟨b,0,none⟩) [p,q]):RmH (d+1) h ⟨op,0,false,none,0,0,none,0,0,⟨#[]⟩,some ⟨b,0,none⟩,2,2⟩ (.mk op 0 0 ⟨#[]⟩ [t,u]) :=
 ⟨rfl,rfl,tR,rfl,rfl,ek _,[p,q],rfl,a,fun i hi=>by
  have:i=0\/i=1:=by have:i<2:=hi;omega
  rcases this with rfl|rfl
  ·exact x
  ·exact y⟩
end
theorem Rms.mono {d e:Nat}{h:Hp}{c:List RTm}{a:List Tm}(x:Rms d h c a)(u:d<=e):Rms e h c a:=⟨x.len,fun i hi=>(x.at_ i hi).mono u⟩
theorem Rms.set {d:Nat}{h:Hp}{c:List RTm}{a:List Tm}{r:RTm}{t:Tm}(x:Rms d h c a)(k)(y:RmH d h r t):Rms d h (c.set k r) (a.set k t):=by
 refine ⟨by simp[x.len],fun i hi=>?_⟩;rw[NI] at hi
 rw[Nc,Nc,PB,PB,x.len];by_cases e:k=i
 ·subst e
  rw[if_pos rfl,if_pos rfl,if_pos hi,if_pos hi];exact y
 ·rw[if_neg e,if_neg e,<-Nc,<-Nc];exact x.at_ i hi
def gG (s:ByteArray):Prop:=s.size<=1000
theorem Fr {s:ByteArray}(h:Gp s):gG s:=by
 rcases h with rfl|rfl|rfl<;>(unfold gG;decide)
theorem Fm:gG ⟨#[]⟩:=by unfold gG;decide
def SpO (d:Nat)(h:Hp)(r:RTm)(t:Tm):Prop:=RmH (d+3) h r t/\SmT1 gG (d+3) t
theorem SpO.gw {d:Nat}{h a:Hp}{r:RTm}{t:Tm}(x:SpO d h r t)(u:Gw h a):SpO d a r t:=⟨x.1.gw u,x.2⟩
theorem fQ {d:Nat}{t:Tm}(w:WfT1 Gp d t):SmT1 gG d t:=w.sm (sm:=gG) (fun _ h=>Fr h) Fm
theorem xl {α:Type}{l:List α}{k i:Nat}{x d:α}(p:α->Prop)(h:∀ i,i<l.length->p (l.getD i d))(a:p x)(hi:i<(l.set k x).length):p ((l.set k x).getD i d):=by
 rw[NI] at hi;rw[Nc,PB];by_cases e:k=i
 ·subst e
  rw[if_pos rfl,if_pos hi];exact a
 ·rw[if_neg e,<-Nc];exact h i hi
theorem uB {α:Type}{l:List α}{i:Nat}{x d:α}(p:α->Prop)(h:∀ i,i<l.length->p (l.getD i d))(a:p x)(hi:i<(l++[x]).length):p ((l++[x]).getD i d):=by
 rw[zY,O6] at hi;rw[dW];by_cases e:i<l.length
 ·rw[if_pos e];exact h i e
 ·rw[if_neg e,if_pos oM];exact a
theorem iK {d:Nat}{op n:Int}{q:Rat}{s:ByteArray}{ks:List Tm}(hk:ks.length<=3)(a : -1000<=op/\op<=1000)(hn : -1000<=n/\n<=1000)(e:LQ 1 q)(f:gG s)(c:∀ i,i<ks.length->SmT1 gG d (ks.getD i di)):SmT1 gG (d+1) (.mk op n q s ks):=⟨hk,a,hn,e,f,c⟩
theorem tY {d:Nat}{n:Int}{t:Tm}(hn : -1000<=n/\n<=1000)(h:SmT1 gG d t):SmT1 gG (d+1) (.mk 8 n 0 ⟨#[]⟩ [t]) :=
 ⟨by show 1<=3;decide,by show (-1000:Int)<=8/\(8:Int)<=1000;decide,hn,o7 kD,Fm,fun i hi=>by
  have:i=0:=by have:i<1:=hi;omega
  subst this;exact h⟩
theorem Jy (e):az e 4=0\/az e 4=1\/az e 4=2\/az e 4=3:=by have:=cY e 4 oM;omega
instance (s:ByteArray) (ns:List ByteArray):Decidable (s∈ns):=@List.instDecidableMemOfLawfulBEq ByteArray instBEqOfDecidableEq inferInstance s ns
def aY:List ByteArray->ByteArray->Nat
  | [],_=>0
  | x::l,s=>if x=s then 0 else aY l s+1
theorem qh:∀ {l:List ByteArray} {s:ByteArray} {j:Nat},(∀ i,i<j->¬l.getD i ⟨#[]⟩=s)->j<l.length->l.getD j ⟨#[]⟩=s->aY l s=j
  | [],_,_,_,hj,_=>absurd hj (O9 _)
  | x::l,s,0,_,_,h=>if_pos h
  | x::l,s,j+1,h,hj,e=>by
    have h0:¬x=s:=h 0 (N0 _);have:=qh (l:=l) (s:=s) (j:=j) (fun i hi=>h (i+1) (PD hi)) (Nat.lt_of_succ_lt_succ hj) e
    show (if x=s then 0 else aY l s+1)=j+1
    rw[if_neg h0,this]
theorem kA:∀ {l:List ByteArray} {s:ByteArray},s∈l->aY l s<l.length/\l.getD (aY l s) ⟨#[]⟩=s
  | [],_,h=>absurd h List.not_mem_nil
  | x :: l,s,h=>by
    unfold aY;by_cases e:x=s
    . rw[if_pos e];exact ⟨N0 _,e⟩
    . rw[if_neg e]
      rcases hC.1 h with h1|h1
      . exact absurd h1.symm e
      . have:=kA h1
        exact ⟨PD this.1,this.2⟩
def K8 (ns:List ByteArray)(s:ByteArray):Int:=if s∈ns then (aY ns s:Nat) else 0
theorem vS {ns:List ByteArray}{s:ByteArray}(h:s∈ns):K8 ns s=(aY ns s:Nat):=if_pos h
def ux:List ByteArray->Nat->List MapEntry
  | [],_=>[]
  | x::l,i=>⟨.string x,.int .i64 (i:Nat),i⟩::ux l (i+1)
theorem pA:∀ {l:List ByteArray} {i j:Nat} {e:MapEntry},(ux l i)[j]?=some e->∃ x,l[j]?=some x/\e=⟨.string x,.int .i64 ((i+j:Nat):Int),i+j⟩
  | [],_,_,_,h=>by cases h
  | x::l,i,0,e,h=>by injection h with h;exact ⟨x,rfl,h.symm⟩
  | x::l,i,j+1,e,h=>by
    obtain ⟨y,h1,a⟩:=pA (l:=l) (i:=i+1) (j:=j) h;exact ⟨y,h1,by rw[a,show i+1+j=i+(j+1) by omega]⟩
theorem vA:∀ {l:List ByteArray} {i j:Nat} {x:ByteArray},l[j]?=some x->(ux l i)[j]?=some ⟨.string x,.int .i64 ((i+j:Nat):Int),i+j⟩
  | [],_,_,_,h=>by cases h
  | y::l,i,0,x,h=>by injection h with h;subst h;rfl
  | y::l,i,j+1,x,h=>by
    have:=vA (l:=l) (i:=i+1) (j:=j) (x:=x) h;rw[show i+1+j=i+(j+1) by omega] at this
    exact this
theorem EV {ns:List ByteArray}(hn:ns.Nodup){j:Nat}{s:ByteArray}(h:ns[j]?=some s):aY ns s=j:=by
 obtain ⟨c,e⟩:=NN.1 h;refine qh (fun i hi a=>?_) c (by rw[Nc,h];rfl);rw[Nc,O5 oM] at a
 have a:ns[i]'oM=s:=a;exact absurd ((List.getElem_inj hn).1 (a.trans e.symm)) oM
theorem Gm {ns:List ByteArray}(hn:ns.Nodup)(s):(∃ i,Instr.findNow .string (.string s) (ux ns 0) 0=some (some (i,.int .i64 (K8 ns s)))/\decide (s∈ns)=true)\/(Instr.findNow .string (.string s) (ux ns 0) 0=some none/\decide (s∈ns)=false/\K8 ns s=0):=by
 rcases MapKept.findNow_spec (d:=.string) (k:=.string s) (by simp[MapKept.IsKey]) (ux ns 0) 0 (fun x p=>by
  obtain ⟨j,l⟩:=PE.1 p;obtain ⟨y,_,rfl⟩:=pA l
  simp[MapKept.IsKey]) with ⟨a,b⟩|⟨j,e,a,b,c⟩
 ·have f:s ∉ ns:=fun h=>by
   obtain ⟨j,l⟩:=PE.1 h;exact b _ (PE.2 ⟨j,vA l⟩) rfl
  exact .inr ⟨a,decide_eq_false f,if_neg f⟩
 ·obtain ⟨y,o,rfl⟩:=pA b
  injection c with c;subst c;have f:y∈ns:=PE.2 ⟨j,o⟩;refine .inl ⟨0+j,?_,decide_eq_true f⟩;rw[a,vS f,EV hn o,z6]
structure LaidO (pl:ByteArray->Int) (d:Nat) (h:Hp) (rl:List RSt) (ss:List OSt) (l:List Stp):Prop where
  rs:RSs h rl ss
  mp:ss.map OSt.stp=l
  sm:LC ss
structure Dif (M:List Nat) (w w0:World):Prop where
  mo:Mo M w w0
  sz:w0.heap.size=w.heap.size
def Hg (Φ:Value->World->Hp->Prop):Ending->World->Prop:=fun e w'=>∃ v h',e=.returned v/\Φ v w' h'
section perm
variable {w0:World}{h0:Hp}{w:World}{h:Hp}{B B':List Bx}{R R':List Rw}{F:List (Hp->Prop)}
theorem SS.permBR (s:SS w0 h0 w h B R F)(pB:B.Perm B')(c:R.Perm R'):SS w0 h0 w h B' R' F :=
 ⟨s.g0,⟨s.st.up,fun x a=>s.st.own x (pB.mem_iff.2 a),fun x a=>s.st.jk x (pB.mem_iff.2 a),fun x a=>s.st.lo x (pB.mem_iff.2 a),((pB.map (·.b)).nodup_iff).1 s.st.nd⟩,
  fun r hr=>⟨(s.ro r (c.mem_iff.2 hr)).own,(s.ro r (c.mem_iff.2 hr)).jk,fun b e d=>(s.ro r (c.mem_iff.2 hr)).ap b e ((pB.map (·.b)).mem_iff.2 d)⟩,(c.pairwise_iff (fun h=>h.symm)).1 s.ap,s.mo,s.f⟩
end perm
section ret
variable {P:Program}{n:Nat}{Γ:cC}{w:World}{h:Hp}{w0:World}{h0:Hp}{B:List Bx}{Rs:List Rw}{F:List (Hp->Prop)}
theorem SS.retS {c:Func}{Φ:Value->World->Hp->Prop}(s:SS w0 h0 w h B Rs F)(ps:List (Nat × Nat × Nat))(v)(d:Φ v w h)(hk:(ot c Γ && dt B ps)=true:=by kernel_rfl)(f:cc P (pK c Γ) (dY B ps)=some (v,cJ B ps):=by kernel_rfl):∀ a,Kn n a Γ->oh P c (Hg Φ) a w:=by
 intro a e;rw[Bool.and_eq_true] at hk;refine ⟨e.df.trans (pj hk.1),v,?_,v,h,rfl,d⟩;rw[jf e hk.1];exact db _ _ _ _ f (fc s.st.own ps hk.2)
end ret
section call
variable {P:Program}{n:Nat}{N R:Po}{X:Nat->Po}{ops:Array Oper}{k:Nat}{Γ:cC}{w:World}
theorem MC (t){f:FuncId}{args:Array Value}{Φ:Value->World->Hp->Prop}(c:Calls P f args w (Hg Φ))(H:∀ v w' a,Φ v w' a->LG P n N R X ops (k+1) ((t,v)::Γ) w')(h:cL ops Γ k t n=true:=by kernel_rfl)(hr:(execOp (ev Γ) (am ops k)).run P w=.ok (.enter f args) w:=by kernel_rfl):LG P n N R X ops k Γ w :=
 LG.call t f args (bS h).1 (bS h).2 hr (c.mono fun e w' ⟨v,a,i,d⟩=>⟨v,i,H v w' a d⟩)
end call
def gK (ss:List ByteArray):List MapEntry:=ss.zipIdx.map fun p=>⟨.string p.1,.bool true,p.2⟩
theorem Cx (a s):gK (a++[s])=gK a++[⟨.string s,.bool true,a.length⟩]:=by
 unfold gK;rw[List.zipIdx_append,List.map_append];simp
theorem s8 {a:List ByteArray}{j:Nat}{e:MapEntry}(h:(gK a)[j]?=some e):∃ s,a[j]?=some s/\e=⟨.string s,.bool true,j⟩:=by
 unfold gK at h;rw[Nq,PF] at h;cases c:a[j]? with
 | none=>rw[c] at h;simp at h
 | some s=>rw[c] at h;simp at h;exact ⟨s,rfl,h.symm⟩
theorem pm {a:List ByteArray}{e:MapEntry}(h:e∈gK a):∃ j s,a[j]?=some s/\e=⟨.string s,.bool true,j⟩:=by
 obtain ⟨j,d⟩:=PE.1 h;obtain ⟨s,h1,c⟩:=s8 d;exact ⟨j,s,h1,c⟩
theorem Fg {a:List ByteArray}{s:ByteArray}(h:s∈a):∃ e∈gK a,e.key=.string s:=by
 obtain ⟨j,c⟩:=PE.1 h;refine ⟨⟨.string s,.bool true,j⟩,?_,rfl⟩
 unfold gK;refine g3.2 ⟨(s,j),?_,rfl⟩;rw[PE];exact ⟨j,by rw[PF,c];simp⟩
theorem BY (a s):(Instr.findNow .string (.string s) (gK a) 0=some none/\s ∉ a)\/∃ j,Instr.findNow .string (.string s) (gK a) 0=some (some (j,.bool true))/\a[j]?=some s:=by
 rcases MapKept.findNow_spec (d:=.string) (k:=.string s) (by simp[MapKept.IsKey]) (gK a) 0 (fun x h=>by obtain ⟨_,_,_,rfl⟩:=pm h;simp[MapKept.IsKey]) with ⟨h1,h2⟩|⟨j,e,h1,h2,h3⟩
 ·refine .inl ⟨h1,fun c=>?_⟩
  obtain ⟨e,f,hk⟩:=Fg c;exact h2 e f hk
 ·obtain ⟨l,i,rfl⟩:=s8 h2
  injection h3 with h3;subst h3;exact .inr ⟨j,by rw[h1,z6],i⟩
structure MapK (w:World) (h:Hp) (b:Nat) (ss:List ByteArray):Prop where
  jk:h[b]?=some bp
  ob:w.heap[b]?=some (.map (gK ss).toArray ss.length)
  nd:ss.Nodup
section laws
variable {P:Program}{n:Nat}{N R:Po}{X:Nat->Po}{ops:Array Oper}{k:Nat}{Γ:cC}{w:World}{h:Hp}{w1:World}{h1:Hp}{B:List Bx}{Rs:List Rw}{F:List (Hp->Prop)}
theorem SS.atK (s:SS w1 h1 w h B Rs F){b:Nat}{a:List ByteArray}(m:MapK w1 h1 b a):w.heap[b]?=some (.map (gK a).toArray a.length) :=
 (s.st.up.ext.block b (by rw[s.g0.size];exact aW m.jk)).trans m.ob
theorem p9 {b:Nat}{o:Obj}(a:G { w1 with heap:=w1.heap.setIfInBounds b o } h1):UpM [b] w1 h1 { w1 with heap:=w1.heap.setIfInBounds b o } h1 :=
 ⟨⟨rfl,rfl,rfl,by show _<=(w1.heap.setIfInBounds b o).size;rw[PA];exact ek _,fun c _ hn=>by
  show (w1.heap.setIfInBounds b o)[c]?=_
  rw[la (fun e=>hn (ti.2 e.symm))]⟩,Gr.refl _,a⟩
theorem L4 {mty kt et:TypeId}{b:Nat}{d:List ByteArray}(ky)(s:SS w1 h1 w h B Rs F)(m:MapK w1 h1 b d)
    (H:∀ w1' w' ss2,SS w1' h1 w' h B Rs F->MapK w1' h1 b ss2->(∀ x,x∈ss2↔x∈d\/x=ky)->ss2.length<=d.length+1->UpM [b] w1 h1 w1' h1->LG P n N R X ops (k+1) Γ w')
    (l:cS ops Γ k=true:=by kernel_rfl)(D:execOp (ev Γ) (am ops k)=(do Instr.mapUpdate mty (.map (some b)) (.string ky) (.bool true);pure .skip):=by kernel_rfl)(C:P.underlying mty=some (.map kt et):=by kernel_rfl)(hk:P.underlying kt=some .string:=by kernel_rfl):LG P n N R X ops k Γ w:=by
  have z:=s.atK m;have f:b<w1.heap.size:=(i2.1 m.ob).1
  rcases BY d ky with ⟨hf,hn⟩|⟨j,hf,hj⟩
  . have hr:=uJ w (val:=.bool true) C hk z hf
    obtain ⟨u,y⟩:=s.base (o:=.map ((gK d).toArray.push ⟨.string ky,.bool true,d.length⟩) (d.length+1)) m.jk f;refine LG.store _ (iR l).1 (iR l).2 ?_ (H _ _ (d++[ky]) u ⟨m.jk,?_,?_⟩ (fun x=>by simp) (by simp) (p9 y))
    . rw[D];simp[hr,Result.andThen]
    . show (w1.heap.setIfInBounds b _)[b]?=_
      rw[Bs f,Cx];simp
    . exact List.nodup_append.2 ⟨m.nd,by simp,fun a ha c l e=>hn (by rw[ti] at l;rw[<-l,<-e];exact ha)⟩
  . have I:j<d.length:=(NN.1 hj).1
    have p:(gK d)[j]?=some ⟨.string ky,.bool true,j⟩:=by
      unfold gK;rw[Nq,PF,hj];simp
    have hr:=rK w (val:=.bool true) C hk z hf (by simp[p])
    have J:((gK d).toArray.modify j fun e=>{ e with key:=.string ky,val:=.bool true })=(gK d).toArray:=by
      apply Array.ext_getElem?
      intro i;rw[Array.getElem?_modify];by_cases e:j=i
      . subst e
        rw[if_pos rfl];simp[p]
      . rw[if_neg e]
    rw[J] at hr;obtain ⟨u,y⟩:=s.base (o:=.map (gK d).toArray d.length) m.jk f;refine LG.store _ (iR l).1 (iR l).2 ?_ (H _ _ d u ⟨m.jk,?_,m.nd⟩ (fun x=>⟨.inl,fun h=>h.elim id fun e=>by rw[e];exact PE.2 ⟨j,hj⟩⟩) (Nat.le_succ _) (p9 y))
    . rw[D];simp[hr,Result.andThen]
    . show (w1.heap.setIfInBounds b _)[b]?=_
      rw[Bs f]
theorem SS.baseK (s:SS w1 h1 w h B Rs F){b:Nat}{I a:List ByteArray}(m:MapK w1 h1 b I){w':World}{D:Hp}(u:UpM [b] w h w' D)(J:w'.heap[b]?=some (.map (gK a).toArray a.length))(M:a.Nodup):∃ l,SS l h1 w' D B Rs F/\MapK l h1 b a/\UpM [b] w1 h1 l h1:=by
 have p:b<w1.heap.size:=(i2.1 m.ob).1;have L:=aW m.jk;obtain ⟨O,C⟩:=s.base (o:=.map (gK a).toArray a.length) m.jk p;have y:({ w1 with heap:=w1.heap.setIfInBounds b (.map (gK a).toArray a.length) }:World).heap.size=w1.heap.size:=by simp
 have j:∀ c,c<w.heap.size->c≠b->w'.heap[c]?=w.heap[c]?:=fun c d hn=>u.mo.blk c d (fun K=>hn (ti.1 K))
 have e:=s.st.up.ext;have z:∀ x∈B,x.b≠b:=fun x i e=>by have:=s.st.lo x i;omega
 refine ⟨_,⟨C,⟨⟨⟨u.mo.os.trans e.os,u.mo.tape.trans e.tape,u.mo.output.trans e.output,by rw[y];exact ep e.size u.mo.size,fun c d=>?_⟩,s.st.up.gr.trans u.gr,u.g⟩,fun x i=>?_,fun x i=>?_,s.st.lo,s.st.nd⟩,fun r hr=>⟨fa (s.ro r hr).own (fun c d=>?_),fun c d=>(u.gr.blk c ((s.ro r hr).lt d)).trans ((s.ro r hr).jk c d),(s.ro r hr).ap⟩,s.ap,s.mo,s.f.gw s.mo u.gr.gw⟩,⟨m.jk,by show (w1.heap.setIfInBounds b _)[b]?=_;rw[Bs p],M⟩,p9 C⟩
 ·rw[y] at d
  by_cases q:c=b
  ·subst q
   rw[J];show _=(w1.heap.setIfInBounds c _)[c]?
   rw[Bs p]
  ·rw[j c (Nat.lt_of_lt_of_le d e.size) q]
   show _=(w1.heap.setIfInBounds b _)[c]?
   rw[la (Ne.symm q)];exact e.block c d
 ·have H:=s.st.own x i
  exact (j x.b H.lt (z x i)).trans H
 ·rw[u.gr.blk _ (aW (s.st.jk x i))];exact s.st.jk x i
 ·refine j c (jV (s.ro r hr).own d) (fun e=>?_)
  subst e;have q:=(s.ro r hr).own
  rcases q with ⟨_,e2|⟨g,cap,cur,hv,hb',_⟩⟩
  ·rw[e2.1] at d;simp[Value.ownBlock] at d
  ·rw[hv] at d;simp[Value.ownBlock] at d;omega
end laws
theorem BU  (ok:ByteArray->Prop)(d)(ih:∀ (p:PTm) (t:Tm) (b:Nat) (z:List ByteArray) (w:World) (h:Hp),G w h->TmH d h p t->WfT1 ok d t->MapK w h b z->Calls Tryz.prog 90 #[bW p,.map (some b)] w (fl b w h (fun v w1 _=>v=.tuple #[]/\∃ u:List ByteArray,w1.heap[b]?=some (.map (gK u).toArray u.length)/\u.Nodup/\(∀ x,x∈u↔x∈z\/fJ d t x)/\u.length<=z.length+ff d t)))(op n q s A c)(ps:List PTm)(ks:List Tm)(hc:ps.length<=c)(hlp:ps.length<=2)(bk:gQ op=(ks.length:Nat))(hq0:op≠1->q=0)(hq:LQ 1 q)(hok:op=2->ok s)(hs0:op≠2->s=⟨#[]⟩)(hn0:op≠8->n=0)(hn1 : -12<=n)(hn2:n<=12)(hW:∀ i,i<ks.length->WfT1 ok d (ks.getD i di))(b z w h)(g:G w h)(hK:SlO 9 dd cM h A ps)(hKs:Tms d h ps ks)(e:MapK w h b z):Calls Tryz.prog 90 #[bW ⟨op,n,q,s,A,ps.length,c⟩,.map (some b)] w (fl b w h (fun v w1 _=>v=.tuple #[]/\∃ u:List ByteArray,w1.heap[b]?=some (.map (gK u).toArray u.length)/\u.Nodup/\(∀ x,x∈u↔x∈z\/fJ (d+1) (.mk op n q s ks) x)/\u.length<=z.length+ff (d+1) (.mk op n q s ks))):=by
 have l:UpM [b] w h w h:=UpM.refl g;have a:SS w h w h [] [] []:=sS g;replace a:=((a.aS hK).add (K:=fun j=>Tms d j ps ks) hKs);have hln:=(a.f.1).len;refine go Tryz.func90 [(0,bW ⟨op,n,q,s,A,ps.length,c⟩),(1,.map (some b))] rfl (aA (lA 2 51 (dd ⟨op,n,q,s,A,ps.length,c⟩) a (fun F w2 h3 a=>?_)));refine lN (CG.join (fun Γ w_=>∃ (y:World)(C:List ByteArray)(j:Hp),Γ=[(1,.map (some b)),(2,pB F)]/\SS y h w_ j [⟨F,51,dd ⟨op,n,q,s,A,ps.length,c⟩⟩] [] [fun j=>Tms d j ps ks,fun j=>SlO 9 dd cM j A ps]/\MapK y h b C/\UpM [b] w h y h/\(∀ x,x∈C↔x∈z\/(op=2/\x=s))/\C.length<=z.length+1) ?_ ?_)
 .
  refine aa a [.v (pB F),.o (iV op) 0 0 1] ?_;cases B:((op:Int) == (2:Int))
  .
   have M:=aj B;refine lB 8 B (ah (CG.skip ?_));intro a_ I;exact ⟨_,⟨w,z,h3,rfl,a.to _ _,e,l,(fun x=>⟨fun j=>.inl j,fun j=>j.elim id (fun H=>absurd H.1 oM)⟩),oM⟩,I.to _ kR⟩
  have M:=eq_of_beq B;refine lB 8 B (ak (kQ (lL a [.c,.v (qP F 7),.o (.string s) 0 7 1] (L4 (mty:=161) (kt:=9) (et:=4) (s) a e (fun w9 _ O a e D U V=>?_)))));replace l:=l.trans V
  clear V;refine lD ?_;intro a_ I;exact ⟨_,⟨w9,O,h3,rfl,a.to _ _,e,l,(fun x=>(D x).trans ⟨fun j=>j.imp id fun H=>⟨by omega,H⟩,fun j=>j.imp id fun H=>H.2⟩),oM⟩,I.to _ kR⟩
 rintro _ _ ⟨y,C,zc,rfl,a,e,l,Z,hl1⟩;refine aa a [.v (qP F 8),.o (qS A ps.length c) 0 8 1,.v (nV ps.length),.c] (aZ ?_);refine bH _ (CG.loop (fun μ_ Γ w_=>∃ (y:World)(k:Nat)(sk:List ByteArray)(j:Hp),μ_=ps.length-k/\Γ=[(1,.map (some b)),(13,qS A ps.length c),(14,nV ps.length),(15,nV k)]/\SS y h w_ j [⟨F,51,dd ⟨op,n,q,s,A,ps.length,c⟩⟩] [] [fun j=>Tms d j ps ks,fun j=>SlO 9 dd cM j A ps]/\MapK y h b sk/\UpM [b] w h y h/\k<=ps.length/\(∀ x,x∈sk↔x∈C\/HasK d ks k x)/\sk.length<=C.length+(d9 (fun i=>ff d (ks.getD i di)) k)) _ ⟨y,0,C,zc,rfl,rfl,a.to _ _,e,l,NY _,(fun x=>⟨.inl,fun j=>j.elim id (fun j=>absurd j HasK.zero)⟩),nR _⟩ ?_);rintro _ _ _ ⟨y,k,sk,_,bd,rfl,a,e,l,hk,W,bb⟩;have bj:(d9 (fun i=>ff d (ks.getD i di)) (k+1))=(d9 (fun i=>ff d (ks.getD i di)) k)+ff d (ks.getD k di):=rfl;refine aA ?_;cases X:(decide ((k:Int)<(ps.length:Int)))
 .
  have zb:=oF X;refine lB 16 X (ag (dE (CG.exit ?_)));have Q:k=ks.length:=by omega
  have hcn:ff (d+1) (.mk op n q s ks)=1+(d9 (fun i=>ff d (ks.getD i di)) ks.length):=rfl;exact a.retM (l.trans (a.st.up.m _)) [] (.tuple #[]) ⟨rfl,sk,a.atK e,e.nd,fun x=>by rw[W x,Z x,Q,or_assoc];exact Iff.rfl,by rw[hcn,<-Q];omega⟩
 have zb:=oT X;refine lB 16 X (ag (ck (cK (cQ (kZ (aA (lX 17 A ps.length c 9 (k:Nat) k ((a.f.2.1).ok oM) ?_)))))));refine lH 18 (bW (ps.getD k cM)) a ((a.f.2.1).el k oM) (lA 5 51 ca a (fun b22 _ _ a=>lP 0 0 (dd (ps.getD k cM)) a (fun _ a=>lN (kQ (lL a [.o (bW (ps.getD k cM)) 0 0 9,.c] (gH 21 (ih (ps.getD k cM) (ks.getD k di) b sk _ _ a.g ((a.f.1).at_ k oM) (hW k oM) ⟨(a.st.up.gr.blk _ (aW e.jk)).trans e.jk,a.atK e,e.nd⟩) ?_))))));rintro _ _ zd Y ⟨rfl,L,S,J,D,U⟩;obtain ⟨ze,a,e,V⟩:=a.baseK e Y S J;replace l:=l.trans V
 clear V S J;refine lN (kQ (bw 22 ((k:Nat)+1) (k+1) ?_));refine lL a ac (lD ?_);intro a_ I;replace a:=a.drop 1 0;refine ⟨_,_,?_,⟨ze,k+1,L,zd,rfl,rfl,a.to _ _,e,l,oM,(fun x=>(D x).trans (by rw[W x,or_assoc,<-HasK.succ])),oM⟩,I.to _ kR⟩
 omega
theorem vJ (ok:ByteArray->Prop):∀ (d:Nat) (p:PTm) (t:Tm) (b:Nat) (e:List ByteArray) (w:World) (h:Hp),G w h->TmH d h p t->WfT1 ok d t->MapK w h b e->Calls Tryz.prog 90 #[bW p,.map (some b)] w (fl b w h (fun v w1 _=>v=.tuple #[]/\∃ a:List ByteArray,w1.heap[b]?=some (.map (gK a).toArray a.length)/\a.Nodup/\(∀ x,x∈a↔x∈e\/fJ d t x)/\a.length<=e.length+ff d t))
  | 0,_,_,_,_,_,_,_,x,_,_=>x.elim
  | d+1,p,t,b,e,w,h,g,x,wf,hmk=>by
    obtain ⟨op,n,q,s,A,c,ps,ks,rfl,rfl,u,o,f⟩:=x.open;have i:=wf.two;obtain ⟨w1,w2,w3,j,B,z,y,C,l⟩:=wf;exact BU ok d (fun p t b e w h=>vJ ok d p t b e w h) op n q s A c ps ks u (by have:=f.len;exact this▸i) w1 w2 w3 j B z y C l b e w h g o f hmk
section srt
open Go.RowKit Go.Maps Go.Sort Go.Shelf Go.WideShapes
def Tryz.keysZ_ren:Go.Shelf.Ren:=⟨fun|7=>92|10=>144|n=>n,fun|23=>161|26=>9|3=>4|28=>165|0=>0|27=>164|33=>103|4=>4|n=>n,fun|n=>n⟩
theorem Tryz.keysZ:Go.Proofs.SlLaysZ.n7 Tryz.prog Tryz.keysZ_ren:={
 mixed:=by kernel_rfl
 f7:=⟨Tryz.f92.name,by decide,Tryz.func92.trans (congrArg some kR)⟩
 f10:=⟨Tryz.f144.name,by decide,Tryz.func144.trans (congrArg some kR)⟩
 t0:=Tryz.underlying0
 a0:=Tryz.isAgg0
 z0:=Tryz.sizeOf0
 v0:=Tryz.zeroValue0
 t4:=Tryz.underlying4
 a4:=Tryz.isAgg4
 z4:=Tryz.sizeOf4
 v4:=Tryz.zeroValue4
 t23:=Tryz.underlying161
 a23:=Tryz.isAgg161
 z23:=Tryz.sizeOf161
 v23:=Tryz.zeroValue161
 t26:=Tryz.underlying9
 a26:=Tryz.isAgg9
 z26:=Tryz.sizeOf9
 v26:=Tryz.zeroValue9
 t27:=Tryz.underlying164
 a27:=Tryz.isAgg164
 z27:=Tryz.sizeOf164
 v27:=Tryz.zeroValue164
 t28:=Tryz.underlying165
 a28:=Tryz.isAgg165
 z28:=Tryz.sizeOf165
 v28:=Tryz.zeroValue165
 t33:=Tryz.underlying103
 a33:=Tryz.isAgg103
 z33:=Tryz.sizeOf103
 v33:=Tryz.zeroValue103 }
def Tryz.sortedZ_ren:Go.Shelf.Ren:=⟨fun|6=>91|8=>142|9=>143|11=>182|13=>184|12=>183|23=>213|24=>149|14=>204|15=>205|16=>206|17=>207|18=>208|19=>209|20=>210|21=>211|22=>212|25=>219|26=>220|27=>221|28=>222|29=>223|30=>224|31=>231|n=>n,fun|26=>9|28=>165|24=>34|0=>0|3=>3|37=>154|48=>153|50=>42|4=>4|40=>266|39=>265|45=>107|5=>5|9=>9|51=>279|55=>283|57=>288|58=>191|33=>103|n=>n,fun|n=>n⟩
theorem Tryz.sortedZ:Go.Proofs.SlLaysZ.n6 Tryz.prog Tryz.sortedZ_ren:={
 mixed:=by kernel_rfl
 f6:=⟨Tryz.f91.name,by decide,Tryz.func91.trans (congrArg some kR)⟩
 f8:=⟨Tryz.f142.name,by decide,Tryz.func142.trans (congrArg some kR)⟩
 f11:=⟨Tryz.f182.name,by decide,Tryz.func182.trans (congrArg some kR)⟩
 t0:=Tryz.underlying0
 a0:=Tryz.isAgg0
 z0:=Tryz.sizeOf0
 v0:=Tryz.zeroValue0
 t24:=Tryz.underlying34
 a24:=Tryz.isAgg34
 z24:=Tryz.sizeOf34
 v24:=Tryz.zeroValue34
 t26:=Tryz.underlying9
 a26:=Tryz.isAgg9
 z26:=Tryz.sizeOf9
 v26:=Tryz.zeroValue9
 t28:=Tryz.underlying165
 a28:=Tryz.isAgg165
 z28:=Tryz.sizeOf165
 v28:=Tryz.zeroValue165
 i26:=by kernel_rfl }
def Tryz.sortZ_ren:Go.Shelf.Ren:=⟨fun|6=>143|8=>184|9=>183|19=>213|20=>149|21=>204|22=>205|23=>206|24=>207|25=>208|26=>209|27=>210|28=>211|29=>212|36=>219|31=>220|32=>221|37=>222|38=>223|39=>224|41=>231|n=>n,fun|27=>34|29=>9|3=>3|32=>154|26=>34|0=>0|44=>153|46=>42|4=>4|36=>266|35=>265|41=>107|5=>5|9=>9|53=>279|57=>283|63=>288|64=>191|n=>n,fun|n=>n⟩
theorem Tryz.sortZ:Go.Proofs.SlLaysM.n6 Tryz.prog Tryz.sortZ_ren:={
 mixed:=by kernel_rfl
 f6:=⟨Tryz.f143.name,by decide,Tryz.func143.trans (congrArg some kR)⟩
 f8:=Tryz.func184.trans (congrArg some kR)
 f9:=⟨Tryz.f183.name,by decide,Tryz.func183.trans (congrArg some kR)⟩
 f19:=Tryz.func213.trans (congrArg some kR)
 f20:=Tryz.func149.trans (congrArg some kR)
 f21:=⟨Tryz.f204.name,by decide,Tryz.func204.trans (congrArg some kR)⟩
 f22:=⟨Tryz.f205.name,by decide,Tryz.func205.trans (congrArg some kR)⟩
 f23:=⟨Tryz.f206.name,by decide,Tryz.func206.trans (congrArg some kR)⟩
 f24:=⟨Tryz.f207.name,by decide,Tryz.func207.trans (congrArg some kR)⟩
 f25:=⟨Tryz.f208.name,by decide,Tryz.func208.trans (congrArg some kR)⟩
 f26:=⟨Tryz.f209.name,by decide,Tryz.func209.trans (congrArg some kR)⟩
 f27:=⟨Tryz.f210.name,by decide,Tryz.func210.trans (congrArg some kR)⟩
 f28:=⟨Tryz.f211.name,by decide,Tryz.func211.trans (congrArg some kR)⟩
 f29:=⟨Tryz.f212.name,by decide,Tryz.func212.trans (congrArg some kR)⟩
 f31:=Tryz.func220.trans (congrArg some kR)
 f32:=Tryz.func221.trans (congrArg some kR)
 f36:=⟨Tryz.f219.name,by decide,Tryz.func219.trans (congrArg some kR)⟩
 f37:=⟨Tryz.f222.name,by decide,Tryz.func222.trans (congrArg some kR)⟩
 f38:=⟨Tryz.f223.name,by decide,Tryz.func223.trans (congrArg some kR)⟩
 f39:=⟨Tryz.f224.name,by decide,Tryz.func224.trans (congrArg some kR)⟩
 f41:=⟨Tryz.f231.name,by decide,Tryz.func231.trans (congrArg some kR)⟩
 t0:=Tryz.underlying0
 a0:=Tryz.isAgg0
 z0:=Tryz.sizeOf0
 v0:=Tryz.zeroValue0
 t3:=Tryz.underlying3
 a3:=Tryz.isAgg3
 z3:=Tryz.sizeOf3
 v3:=Tryz.zeroValue3
 t4:=Tryz.underlying4
 a4:=Tryz.isAgg4
 z4:=Tryz.sizeOf4
 v4:=Tryz.zeroValue4
 t5:=Tryz.underlying5
 a5:=Tryz.isAgg5
 z5:=Tryz.sizeOf5
 v5:=Tryz.zeroValue5
 t9:=Tryz.underlying9
 a9:=Tryz.isAgg9
 z9:=Tryz.sizeOf9
 v9:=Tryz.zeroValue9
 t26:=Tryz.underlying34
 a26:=Tryz.isAgg34
 z26:=Tryz.sizeOf34
 v26:=Tryz.zeroValue34
 t27:=Tryz.underlying34
 a27:=Tryz.isAgg34
 z27:=Tryz.sizeOf34
 v27:=Tryz.zeroValue34
 t29:=Tryz.underlying9
 a29:=Tryz.isAgg9
 z29:=Tryz.sizeOf9
 v29:=Tryz.zeroValue9
 t32:=Tryz.underlying154
 a32:=Tryz.isAgg154
 z32:=Tryz.sizeOf154
 v32:=Tryz.zeroValue154
 t35:=Tryz.underlying265
 a35:=Tryz.isAgg265
 z35:=Tryz.sizeOf265
 v35:=Tryz.zeroValue265
 t36:=Tryz.underlying266
 a36:=Tryz.isAgg266
 z36:=Tryz.sizeOf266
 v36:=Tryz.zeroValue266
 t41:=Tryz.underlying107
 a41:=Tryz.isAgg107
 z41:=Tryz.sizeOf107
 v41:=Tryz.zeroValue107
 t44:=Tryz.underlying153
 a44:=Tryz.isAgg153
 z44:=Tryz.sizeOf153
 v44:=Tryz.zeroValue153
 t46:=Tryz.underlying42
 a46:=Tryz.isAgg42
 z46:=Tryz.sizeOf42
 v46:=Tryz.zeroValue42
 t53:=Tryz.underlying279
 a53:=Tryz.isAgg279
 z53:=Tryz.sizeOf279
 v53:=Tryz.zeroValue279
 t57:=Tryz.underlying283
 a57:=Tryz.isAgg283
 z57:=Tryz.sizeOf283
 v57:=Tryz.zeroValue283
 t63:=Tryz.underlying288
 a63:=Tryz.isAgg288
 z63:=Tryz.sizeOf288
 v63:=Tryz.zeroValue288
 t64:=Tryz.underlying191
 a64:=Tryz.isAgg191
 z64:=Tryz.sizeOf191
 v64:=Tryz.zeroValue191 }
theorem xC (m):AnyZ.SortsIn Tryz.prog Tryz.sortedZ_ren Fence.wide m :=
 ⟨fun e off a h W f c d=>callsIn_wide.2 (AnyM.slices_Sort_string Tryz.sortZ e off a h W f c d),fun p a W=>callsIn_wide.2 (AnyM.slices_Sort_string_none Tryz.sortZ p a W)⟩
theorem Bg (a:Option Nat)(W):CallsIn Fence.wide 5 Tryz.prog 92 #[.map a] W fun e w'=>e=.returned (.func (.func 144) #[] #[.pointer (some ⟨W.heap.size,0,none⟩)])/\w'=W.alloc (.cells #[.map a] 161) :=
 AnyZ.keys_in Tryz.keysZ Fence.wide 5 trivial rfl a W
theorem ug {H:Type}(b o:Nat)(f:DataW H)(R:Value->Option (DataW H × List MemPlace))(w:World)(c:w.ownsMap Tryz.prog 9 R b o f)(j:Maps.size f<=maxLen)(a:Maps.size f*16<=(2^47)) :
  CallsIn Fence.wide 5 Tryz.prog 91 #[.func (.func 144) #[] #[.pointer (some ⟨w.heap.size,0,none⟩)]] (w.alloc (.cells #[.map (some b)] 161)) fun e w'=>∃ (v:Value)(h:List (List UInt8)),e=.returned v/\h.Perm (strKeys f) /\
   w'.ownsRow (w.alloc (.cells #[.map (some b)] 161)).heap.size 9 1 v h.length ((h.mergeSort (fun x y=>decide (x<=y))).map encStr)/\(v=.slice none 0 0↔h=[])/\Below (w.alloc (.cells #[.map (some b)] 161)).heap.size (w.alloc (.cells #[.map (some b)] 161)) w':=by
 have l:=c.lt;have i:SeqGives Fence.wide 2 Tryz.prog 144 #[.pointer (some ⟨w.heap.size,0,none⟩)] encStr (fun h=>h.Perm (strKeys f)) (Maps.size f) (w.alloc (.cells #[.map (some b)] 161)) :=
  AnyZ.keys_gives (ρ:=Tryz.keysZ_ren) { Tryz.keysZ with } Fence.wide _ trivial rfl oM w.heap.size b o f _ (by simp) (by simp) (by
   obtain ⟨p,d,u,z,C,B⟩:=c;exact ⟨p,d,(Below.heap_alloc _ _ b l).trans u,z,C,B⟩)
 exact AnyZ.sorted_in Tryz.sortedZ Fence.wide 5 trivial trivial trivial trivial rfl oM (xC _) (enters_of Tryz.func143 kR rfl) 144 #[.pointer (some ⟨w.heap.size,0,none⟩)] trivial (enters_of Tryz.func144 kR rfl) _ _ j a _ i
section
variable {P:Program}{k:TypeId}(hk:P.underlying k=some .string)
def RU (_:Value):Option (DataW Unit × List MemPlace):=some (.nil,[])
theorem C1 (hk:P.underlying k=some .string){a:List ByteArray}(h:∀ s∈a,s.size<=maxLen){e:MapEntry}(f:e∈gK a):∃ s∈a,WideElems.rd P k RU e=some (.string s.data.toList,.nil)/\e.key=.string s:=by
 obtain ⟨j,s,d,rfl⟩:=pm f;have c:s∈a:=PE.2 ⟨j,d⟩;refine ⟨s,c,?_,rfl⟩
 have h1:keyOf P k (.string s)=some (.string s.data.toList):=by
  have:=h s c
  simp[keyOf,hk,mapKey,this]
 unfold WideElems.rd;rw[h1];rfl
theorem r8 {c:List ByteArray}(hn:c.Nodup):MapKept.Stamped (gK c).toArray c.length:=by
 refine ⟨fun x l=>?_,?_,?_⟩
 ·obtain ⟨j,s,f,rfl⟩:=pm (by simpa using l)
  exact (NN.1 f).1
 ·have e:(gK c).map (·.born)=o2 c.length:=by
   apply O1
   ·simp[gK]
   ·intro i h1 d;simp[gK]
  show ((gK c).map (·.born)).Nodup
  rw[e];exact List.nodup_range
 ·have e:(gK c).map (·.key)=c.map Value.string:=by
   apply O1
   ·simp[gK]
   ·intro i h1 d;simp[gK]
  show ((gK c).map (·.key)).Nodup
  rw[e];exact List.Pairwise.map _ (fun a b h e=>h (Value.string.inj e)) hn
theorem DH (hk:P.underlying k=some .string){w:World}{b:Nat}{a:List ByteArray}(l:w.heap[b]?=some (.map (gK a).toArray a.length))(hn:a.Nodup)(f:∀ s∈a,s.size<=maxLen)(z:a.length<=1048576):
  ∃ D:DataW Unit,w.ownsMap P k RU b a.length D/\(strKeys D).Perm (a.map fun s=>s.data.toList)/\Maps.size D<=1048576:=by
 have d:(gK a).length=a.length:=by simp[gK]
 refine ⟨.map (((gK a).map (WideElems.rg P k RU)).foldr DataW.insert []),⟨(gK a).toArray,a.length,l,⟨?_,r8 hn,fun x o=>?_⟩,?_,rfl⟩,?_,?_⟩
 ·show (gK a).toArray.size<=maxLen
  rw[PG,d];unfold maxLen;omega
 ·obtain ⟨s,_,h,_⟩:=C1 (P:=P) hk f (by simpa using o)
  exact ⟨_,h⟩
 ·rw[PG,d];exact ek _
 ·show ((((gK a).map (WideElems.rg P k RU)).foldr DataW.insert []).map fun p=>strOf p.1).Perm _
  refine ((sorted_perm _).map _).trans (List.Perm.of_eq ?_);rw[List.map_map]
  apply O1
  ·simp[d]
  ·intro i h1 B
   have hi:i<(gK a).length:=by simpa using h1
   obtain ⟨s,u,hr,c⟩:=C1 (P:=P) hk f (gg hi);obtain ⟨y,e,j⟩:=s8 (O5 hi);rw[vl,vl];rw[j] at c
   injection c with c;subst c;show strOf (((WideElems.rd P k RU (gK a)[i]).getD (.bool false,.nil)).1)=_
   rw[hr];show y.data.toList=_
   rw[O5 oM] at e;rw[Option.some.inj e]
 ·show Maps.size (.map _)<=_
  rw[Maps.size_eq,(sorted_perm _).length_eq,PH,d];exact z
end
theorem wy {w w':World}{h:Hp}(g:G w h)(x:Ext w w'):∃ c,Up w h w' c/\∀ b,h.size<=b->c[b]?=w'.heap[b]?:=by
 have d:=x.size;have f:=g.size;have key:∀ b,h.size<=b->(h++w'.heap.extract h.size w'.heap.size)[b]?=w'.heap[b]?:=fun b a=>by
  rw[Array.getElem?_append_right a,Array.getElem?_extract];by_cases hl:b<w'.heap.size
  ·rw[if_pos oM];congr 1;omega
  ·rw[if_neg oM,Array.getElem?_eq_none oM]
 refine ⟨h++w'.heap.extract h.size w'.heap.size,⟨x,⟨by simp,fun b a=>ub a⟩,⟨by simp;omega,fun b=>?_⟩⟩,key⟩
 rcases Nat.lt_or_ge b h.size with a|a
 ·rw[ub a]
  have e:=Below.block x b oM;rcases g.blk b with h1|h1
  ·exact .inl (h1.trans e.symm)
  ·exact .inr h1
 ·exact .inl (key b a)
theorem HD (ok:ByteArray->Prop)(U:∀ s,ok s->s.size<=1000)(d:Nat)(hd:d<=20)(p:PTm)(t:Tm)(w:World)(h:Hp)(g:G w h)(hT:TmH d h p t)(Y:WfT1 ok d t):CR 48 #[bW p] w h (fun v h1=>∃ (A:Z9)(c:Nat)(B:List ByteArray),v=.slice A B.length c/\B.length<=c/\B.length<=1048576/\SlO 1 bA ⟨#[]⟩ h1 A B/\∀ x,x∈B↔fJ d t x):=by
 refine (callsIn_wide (n:=6)).1 (callsIn_of_wp Tryz.func48 rfl trivial ?_ rfl)
 simp only[Tryz.ntmps48,PG,uA,Pb,Nat.reduceAdd,Nat.reduceSub,Array.replicate_succ,Array.replicate_zero,List.push_toArray,List.append_toArray,List.nil_append,MR];unfold bW;have hfK:Fence.wide.fn 90:=trivial;have hf2:Fence.wide.fn 92:=trivial;have hf3:Fence.wide.fn 91:=trivial
 have L:∀ o:Obj,G ((w.alloc o).alloc (.map #[] 0)) ((h.push bp).push bp)/\MapK ((w.alloc o).alloc (.map #[] 0)) ((h.push bp).push bp) (w.heap.size+1) []/\TmH d ((h.push bp).push bp) p t:=fun o=>by
  have u1:Up w h (w.alloc o) (h.push bp):=Up.allocAny g o bp (.inr rfl);have u2:Up (w.alloc o) (h.push bp) ((w.alloc o).alloc (.map #[] 0)) ((h.push bp).push bp):=Up.allocAny u1.g _ _ (.inr rfl);refine ⟨u2.g,⟨?_,?_,List.nodup_nil⟩,(hT.gw u1.gr.gw).gw u2.gr.gw⟩
  ·rw[show w.heap.size+1=(h.push bp).size by rw[Array.size_push,g.size]];exact e6
  ·rw[heap_alloc,show w.heap.size+1=(w.alloc o).heap.size by simp];exact e6
 have hsz:∀ s,fJ d t s->s.size<=maxLen:=fun s hs=>by have:=U s (un Y hs);unfold maxLen;omega
 have hcn:=td Y;have hp2:2^d<=1048576:=ep (M1 oM hd) kD;have hmm:=@run_makeMap Tryz.prog
 gi_wp2
 gi_at_call 90
 generalize hW2:(w.alloc _).alloc (.map #[] 0)=W2
 have q:=L (.cells #[iV p.op,iV p.n,.bool (af p.q.num),uV (lo (ab p.q.num)),.string (hi (ab p.q.num)),uV (lo (qd p.q)),.string (hi (qd p.q)),.string p.s,qS p.A p.m p.c] 51);rw[hW2] at q
 clear L;have cg:=(callsIn_wide (n:=5)).2 (vJ ok d p t (w.heap.size+1) [] W2 _ q.1 q.2.2 Y q.2.1)
 unfold bW at cg;refine cg.mono ?_
 clear cg;rintro e w' ⟨v,h3,rfl,O,rfl,B,ho,hn,K,hl⟩;have F:∀ x,x∈B↔fJ d t x:=fun x=>by rw[K x];simp
 have M:B.length<=1048576:=by have:=(show B.length<=0+ff d t from hl);omega
 have bb:w.heap.size+2=W2.heap.size:=by rw[<-hW2];simp
 have j:Go.RowKit.Below w.heap.size w W2:=by rw[<-hW2];exact ((Below.refl _ w).alloc (nR _) _).alloc (by simp) _
 have S:Go.RowKit.Below w.heap.size w w':=⟨O.mo.os.trans j.os,O.mo.tape.trans j.tape,O.mo.output.trans j.output,ep j.size O.mo.size,fun c hc=>(O.mo.blk c oM (fun hm=>by rw[ti] at hm;omega)).trans (j.block c hc)⟩
 clear K hW2;obtain ⟨D,hD1,H,hD3⟩:=DH (P:=Tryz.prog) (k:=9) Tryz.underlying9 ho hn (fun s h_=>hsz s ((F s).1 h_)) M
 gi_wp2
 gi_at_call 92
 refine (Bg _ _).mono ?_;rintro e w'' ⟨rfl,rfl⟩
 gi_wp2
 gi_at_call 91
 refine (ug (w.heap.size+1) B.length D RU w' hD1 (by unfold maxLen;omega) oM).mono ?_;rintro e w3 ⟨v,C,rfl,J,V,-,hz3⟩;have Z:=S.size;have X:Ext w w3:=(S.alloc Z _).trans (hz3.mono (by simp;omega));obtain ⟨h',u,key⟩:=wy g X
 have I:∀ x:ByteArray,x∈((C.mergeSort fun x y=>decide (x<=y)).map fun z=>(⟨z.toArray⟩:ByteArray))↔fJ d t x:=fun x=>by
  rw[<-F x,g3];constructor
  ·rintro ⟨z,hz,rfl⟩
   have h1:=(J.trans H).mem_iff.1 ((PI C _).mem_iff.1 hz);obtain ⟨s,hs,e⟩:=g3.1 h1;have:s=⟨z.toArray⟩:=by cases s;rename_i a;simp at e;subst e;rfl
   rw[<-this];exact hs
  ·intro hx
   refine ⟨x.data.toList,(PI C _).mem_iff.2 ((J.trans H).mem_iff.2 (g3.2 ⟨x,hx,rfl⟩)),?_⟩;cases x;simp
 have Q:((C.mergeSort fun x y=>decide (x<=y)).map fun z=>(⟨z.toArray⟩:ByteArray)).length=C.length:=by rw[PH,(PI C _).length_eq]
 have hzs:C.length<=1048576:=by rw[(J.trans H).length_eq,PH];exact M
 gi_wp2
 go_ret
 generalize hzz:((C.mergeSort fun x y=>decide (x<=y)).map fun z=>(⟨z.toArray⟩:ByteArray))=zz at I Q
 refine ⟨v,h',rfl,u,?_⟩
 rcases V with ⟨-,⟨rfl,hz⟩|⟨gb,cap,cur,rfl,hbase,hgb,r1,-,-,r4⟩⟩
 ·have:zz=[]:=List.eq_nil_of_length_eq_zero oM
  subst this;refine ⟨none,0,[],rfl,nR _,by simp,SlO.nil,fun x=>I x⟩
 ·refine ⟨sB gb,cap,zz,by rw[Q],by omega,by omega,SlO.of_flat (sz:=1) (f:=bA) (d:=⟨#[]⟩) (b:=gb) (o:=0) (fun _=>rfl) fun i v hv=>?_,I⟩
  have hf:zz.flatMap bA=(C.mergeSort fun x y=>decide (x<=y)).map encStr:=by
   rw[<-hzz];generalize (C.mergeSort fun x y=>decide (x<=y))=q
   induction q with
   | nil=>rfl
   | cons a l ih=>rw[A7,A7,List.flatMap_cons,ih];rfl
  rw[hf,<-r4,Nat.mul_one] at hv;have hv2:cur.toList[i]?=some v:=by
   rw[List.getElem?_take] at hv;split at hv
   ·exact hv
   ·cases hv
  have W:h.size<=gb:=by have:=g.size;simp at hbase;omega
  unfold eF;rw[key gb W,hgb,z6];show cur[i]?=some v
  rw[<-Array.getElem?_toList];exact hv2
end srt
def jl (c:Nat):Prop:=(97<=c/\c<=122)\/(65<=c/\c<=90)
def qN (c:Nat):Prop:=((97<=c/\c<=122)\/(65<=c/\c<=90))\/(48<=c/\c<=57)\/c=95
instance (c:Nat):Decidable (jl c):=by unfold jl;infer_instance
instance (c:Nat):Decidable (qN c):=by unfold qN;infer_instance
def gM (s:ByteArray):Int:=if s=⟨#[97,98,115]⟩ then 9 else if s=⟨#[114,97,109,112]⟩ then 10 else if s=⟨#[98,101,110,100]⟩ then 11 else if s=⟨#[109,97,120]⟩ then 12 else if s=⟨#[109,105,110]⟩ then 13 else 0
def AN (s:ByteArray):Int:=if gM s=0 then 0 else if gM s<=11 then 1 else 2
def eW (s:ByteArray):Bool:=decide (gM s≠0)
def dq (s:ByteArray):Bool:=decide (1<=s.size/\s.size<=20/\jl (ay s 0)/\(∀ i,i<s.size->qN (ay s i))/\eW s=false)
theorem oH {s:ByteArray}(h:¬(1<=s.size/\s.size<=20/\jl (ay s 0))):Value.bool false=.bool (dq s):=congrArg Value.bool (decide_eq_false fun x=>h ⟨x.1,x.2.1,x.2.2.1⟩).symm
theorem F9 {s:ByteArray}{i:Nat}(h:i<s.size)(a:¬qN (ay s i)):Value.bool false=.bool (dq s):=congrArg Value.bool (decide_eq_false fun x=>a (x.2.2.2.1 i h)).symm
theorem Fv {s:ByteArray}(h1:1<=s.size/\s.size<=20)(a:jl (ay s 0))(c:∀ i,i<s.size->qN (ay s i)):dq s = !eW s:=by
 unfold dq;cases h:eW s
 ·exact decide_eq_true ⟨h1.1,h1.2,a,c,rfl⟩
 ·exact decide_eq_false fun x=>by cases x.2.2.2.2
def jW:List MapEntry:=[⟨.string ⟨#[97,98,115]⟩,.int .i64 9,0⟩,⟨.string ⟨#[114,97,109,112]⟩,.int .i64 10,1⟩,⟨.string ⟨#[98,101,110,100]⟩,.int .i64 11,2⟩,⟨.string ⟨#[109,97,120]⟩,.int .i64 12,3⟩,⟨.string ⟨#[109,105,110]⟩,.int .i64 13,4⟩]
theorem wm (s):(∃ i,Instr.findNow .string (.string s) jW 0=some (some (i,.int .i64 (gM s)))/\eW s=true)\/(Instr.findNow .string (.string s) jW 0=some none/\eW s=false/\gM s=0):=by
 by_cases h1:s=⟨#[97,98,115]⟩
 ·subst h1;exact .inl ⟨0,by kernel_rfl,by decide⟩
 by_cases h2:s=⟨#[114,97,109,112]⟩
 ·subst h2;exact .inl ⟨1,by kernel_rfl,by decide⟩
 by_cases h3:s=⟨#[98,101,110,100]⟩
 ·subst h3;exact .inl ⟨2,by kernel_rfl,by decide⟩
 by_cases h4:s=⟨#[109,97,120]⟩
 ·subst h4;exact .inl ⟨3,by kernel_rfl,by decide⟩
 by_cases h5:s=⟨#[109,105,110]⟩
 ·subst h5;exact .inl ⟨4,by kernel_rfl,by decide⟩
 have f:gM s=0:=by unfold gM;rw[if_neg h1,if_neg h2,if_neg h3,if_neg h4,if_neg h5]
 refine .inr ⟨?_,by unfold eW;rw[f];rfl,f⟩
 rcases MapKept.findNow_spec (d:=.string) (k:=.string s) (by simp[MapKept.IsKey]) jW 0 (fun x h=>by
  simp only[jW,hC,List.not_mem_nil,or_false] at h;rcases h with rfl|rfl|rfl|rfl|rfl<;>simp[MapKept.IsKey]) with ⟨a,_⟩|⟨j,e,a,b,c⟩
 ·exact a
 ·exfalso
  match j,b with
  | 0,b=>injection b with b;subst b;injection c with c;exact h1 c.symm
  | 1,b=>injection b with b;subst b;injection c with c;exact h2 c.symm
  | 2,b=>injection b with b;subst b;injection c with c;exact h3 c.symm
  | 3,b=>injection b with b;subst b;injection c with c;exact h4 c.symm
  | 4,b=>injection b with b;subst b;injection c with c;exact h5 c.symm
  | n+5,b=>cases b
theorem nW (c)(C:c<256)(w h)(g:G w h):CV 87 #[.int .u8 (c:Nat)] w h (.bool (decide (jl (c)))):=by
 have a:=sS g;refine go Tryz.func87 [(0,.int .u8 (c:Nat))] rfl (aa a ac (aG (lL a ac ?_)));cases e:(decide ((97:Int)<=(c:Int)))
 .
  have l:=oF e;refine lB 4 e (lL a ac (lG 6 ?_));refine lG 7 (lL a [.v qF,.c,.c] ?_);cases d:(decide ((65:Int)<=(c:Int)))
  .
   have o:=oF d;refine lB 11 d (lL a ac (lG 13 ?_));exact lG 14 (lL a [.v qF,.v qF,.c] (ae a [] qF (congrArg Value.bool (decide_eq_false (by unfold jl;omega)).symm)))
  have o:=oT d;refine lB 11 d (lL a ax ?_);cases f:(decide ((c:Int)<=(90:Int)))
  .
   have j:=oF f;exact lB 14 f (lL a [.v qF,.v qF,.c] (ae a [] qF (congrArg Value.bool (decide_eq_false (by unfold jl;omega)).symm)))
  have j:=oT f;exact lB 14 f (lL a [.v qT,.v qT,.c] (ae a [] qT (congrArg Value.bool (decide_eq_true (by unfold jl;omega)).symm)))
 have l:=oT e;refine lB 4 e (lL a ax ?_);cases i:(decide ((c:Int)<=(122:Int)))
 .
  have u:=oF i;refine lB 7 i (lL a [.v qF,.c,.c] ?_);have ⟨x,B⟩:=dT (p:=(65:Int)<=(c:Int)) oM;refine lB 11 x (lL a ax ?_);have ⟨y,z⟩:=dF (p:=(c:Int)<=(90:Int)) oM;exact lB 14 y (lL a [.v qF,.v qF,.c] (ae a [] qF (congrArg Value.bool (decide_eq_false (by unfold jl;omega)).symm)))
 have u:=oT i;refine lB 7 i (lL a [.v qT,.c] (lG 10 ?_));exact lG 11 (lG 12 (lG 13 (lG 14 (lG 15 (lL a [.v qT,.c] (ae a [] qT (congrArg Value.bool (decide_eq_true (by unfold jl;omega)).symm)))))))
theorem qk (c)(j:c<256)(w h)(g:G w h):CV 141 #[.int .u8 (c:Nat)] w h (.bool (decide (48<=(c)/\(c)<=57))):=by
 have a:=sS g;refine go Tryz.func141 [(0,.int .u8 (c:Nat))] rfl (aa a ac (aG (lL a ac ?_)));cases d:(decide ((48:Int)<=(c:Int)))
 .
  have f:=oF d;refine lB 4 d (lL a ac (lG 6 ?_));exact lG 7 (lL a [.v qF,.c] (ae a [] qF (congrArg Value.bool (decide_eq_false oM).symm)))
 have f:=oT d;refine lB 4 d (lL a ax ?_);cases e:(decide ((c:Int)<=(57:Int)))
 .
  have i:=oF e;exact lB 7 e (lL a [.v qF,.c] (ae a [] qF (congrArg Value.bool (decide_eq_false oM).symm)))
 have i:=oT e;exact lB 7 e (lL a [.v qT,.c] (ae a [] qT (congrArg Value.bool (decide_eq_true oM).symm)))
end Go.Proofs.YtjljjeiejbhegaaGreatDoor
