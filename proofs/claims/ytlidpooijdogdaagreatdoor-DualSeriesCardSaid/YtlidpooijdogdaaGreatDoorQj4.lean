/- Laws of this claim, part 5. -/
import Derived.Test.YtlidpooijdogdaaGreatDoorQj0
import Derived.Test.YtlidpooijdogdaaGreatDoorQj1
import Derived.Test.YtlidpooijdogdaaGreatDoorQj2
import Derived.Test.YtlidpooijdogdaaGreatDoorQj3
set_option maxRecDepth 100000
set_option maxHeartbeats 4000000
namespace Go.Proofs.YtlidpooijdogdaaGreatDoor
open _root_.Array renaming getElem?_push_size -> er, getElem?_setIfInBounds_ne -> hP, getElem?_setIfInBounds_self_of_lt -> As, setIfInBounds_comm -> e6
open Bool renaming and_eq_true -> i2, noConfusion -> NJ
open Int renaming mul_ne_zero -> Ns, mul_pow -> NW, natAbs_add_le -> Nj, natAbs_mul -> MU, natAbs_neg -> Nk, natAbs_pow -> NT, one_mul -> N4, pow_add -> NX, pow_succ -> NS, pow_zero -> N3, sign_eq_neg_one_iff_neg -> N9, sign_eq_zero_iff_zero -> NI, sign_trichotomy -> NP
open List renaming all_eq_true -> oi, append_nil -> Oh, getD_eq_getElem?_getD -> LI, getElem?_eq_getElem -> NG, getElem_mem -> e5, length_append -> y5, length_cons -> tv, length_map -> Od, length_nil -> NN, length_range -> Oe, length_replicate -> NF, length_set -> Md, length_singleton -> NH, lookup_cons -> hO, map_append -> Og, map_congr_left -> NO, mem_cons -> gs, mem_flatMap -> Mj, mem_map -> gg, mem_singleton -> sA, range -> ov, range_succ -> Of, replicate -> zZ, set_eq_of_length_le -> NQ, set_getElem_self -> Oi, toArray -> MR
open Nat renaming add_le_add -> N1, add_zero -> yh, le_mul_of_pos_left -> MP, le_of_lt -> MS, le_refl -> ea, le_total -> ML, le_trans -> eb, lt_of_le_of_lt -> Ft, lt_succ_iff_lt_or_eq -> NL, lt_succ_self -> NR, min_eq_left -> Lq, min_eq_right -> LS, mul_comm -> H1, mul_le_mul -> Ma, mul_le_mul_left -> Lz, mul_le_mul_right -> zh, mul_left_comm -> Ob, mul_pos -> L7, mul_pow -> NV, not_lt_zero -> NK, one_le_two_pow -> N7, pow_add -> Ly, pow_le_pow_left -> NU, pow_le_pow_right -> Lw, pow_mul -> LB, pow_one -> N6, pow_succ -> HA, pow_two -> N8, sub_self -> ti, succ_mul -> y3, succ_ne_zero -> NM, succ_pos -> Mx, zero_add -> y9, zero_le -> Mv
open Option renaming mem_toList -> NE
open Rat renaming add_mul -> NY, intCast_add -> NZ, intCast_mul -> N0, intCast_neg -> N2, mul_assoc -> N5, mul_comm -> Oc, num_eq_zero -> Nv, num_nonneg -> Oa
open Go.RowKit
open Go.RowKit Go.Shelf
theorem vW {t:RT}{a b c:Value}(e:EW t=.agg #[a,b,c]):fJ t=[a,b,c]:=by
 unfold EW at e
 injection e with e
 simp only[Array.mk.injEq,List.cons.injEq,and_true] at e
 obtain ⟨d,h,f⟩:=e
 unfold fJ;rw[<-d,<-h,<-f]
theorem AO {o:OSt}(hz:o.has=false->o.q=0)(h:oG o=0\/o.q.num=0):o.q=((0:Int):Rat):=by
 rcases h with h|h
 ·refine hz ?_
  have a:=Ew (o:=o);rw[h,gh] at a
  cases c:o.has with
  | false=>rfl
  | true=>rw[c] at a;simp at a
 ·exact Nv.1 h
theorem xH {o:OSt}(hz:o.has=false->o.q=0)(h:¬(oG o=0\/o.q.num=0)):oG o=o.q.den:=by
 refine CF ?_;cases a:o.has with
 | true=>rfl
 | false=>exact absurd (.inr (by rw[hz a];rfl)) h
theorem CH (o:OSt)(A:Z9)(c:Nat)(D:Z9)(d:Nat)(l:(lim (ab o.q.num)).length<=c)(y:(lim (oG o)).length<=d)(hz:o.has=false->o.q=0)(w:World)(h:Hp)(g:G w h)(F:S3 A (lim (ab o.q.num)) h)(B:S3 D (lim (oG o)) h):CR 55 #[.agg #[.bool (af o.q.num),.slice A ((lim (ab o.q.num)).length) c,.slice D ((lim (oG o)).length) d]] w h (fun v h1=>RQ h1 v o.q):=by
 have a:=(((sS g).aS F).aS B);refine go Tryz.func55 [(0,.agg #[.bool (af o.q.num),qS A ((lim (ab o.q.num)).length) c,qS D ((lim (oG o)).length) d])] rfl (aD (lA 1 28 ([.bool (af o.q.num),qS A ((lim (ab o.q.num)).length) c,qS D ((lim (oG o)).length) d]) a (fun M w2 O a=>lA 2 28 ca a (fun Q U L a=>ah (aa a [.o (.agg #[.bool (af o.q.num),qS A ((lim (ab o.q.num)).length) c,qS D ((lim (oG o)).length) d]) 1 0 3] (aq 4 a (Fg o.q.num A c (oG o) D d l y _ _ a.g a.f.2.1 a.f.1) (fun S K a=>?_)))))));cases e:(decide (oG o=0\/o.q.num=0))
 .
  have i:=oF e;exact ag (cK (aa a [.o (.agg #[.bool (af o.q.num),qS A ((lim (ab o.q.num)).length) c,qS D ((lim (oG o)).length) d]) 1 0 3] (lP 0 0 ([.bool (af o.q.num),qS A ((lim (ab o.q.num)).length) c,qS D ((lim (oG o)).length) d]) a (fun _ a=>ae a [(0,0,3)] (.agg #[.bool (af o.q.num),qS A ((lim (ab o.q.num)).length) c,qS D ((lim (oG o)).length) d]) (by have j:=xH hz (o:=o) oM;show RP _ _ o.q.num o.q.den;rw[<-j];exact ⟨A,c,D,d,rfl,l,y,a.f.2.1,a.f.1⟩)))))
 have i:=oT e;refine ak (aD (lC 5 a (vR 0 oM oM _ _ a.g) ?_));rintro _ _ _ a ⟨u,x,p,z,rfl,I,H,J,C⟩;replace a:=a.aP J C;exact lP 0 0 (iS ((0:Int):Rat) u x p z) a (fun _ a=>ae a [(0,0,3)] (rG ((0:Int):Rat) u x p z) (RQ.eq ⟨_,_,_,_,rfl,I,H,a.f.2.1,a.f.1⟩ (AO hz oM).symm))
section ro
variable {w0:World}{h0:Hp}{w:World}{h:Hp}{B:List Bx}{R:List Rw}{F:List (Hp->Prop)}
theorem SS.ro_jk (s:SS w0 h0 w h B R F)(j:Nat){ty:TypeId}{sz c m:Nat}{A:Z9}{cs:List Value}(hr:R.getD j default=⟨ty,sz,A,c,m,cs⟩:=by kernel_rfl)(e:decide (j<R.length)=true:=by kernel_rfl):∀ b∈(Value.slice A m c).ownBlock.toList,h[b]?=some bg:=fun b d=>by
 have a:=oT e;have r:=s.ro _ (e5 a);rw[fc hr a] at r
 exact r.jk b (NE.1 d)
theorem SS.ro_lt (s:SS w0 h0 w h B R F)(j:Nat){ty:TypeId}{sz c m:Nat}{A:Z9}{cs:List Value}(hr:R.getD j default=⟨ty,sz,A,c,m,cs⟩:=by kernel_rfl)(e:decide (j<R.length)=true:=by kernel_rfl):∀ b∈(Value.slice A m c).ownBlock.toList,b<h.size:=fun b d=>by
 have a:=oT e;have r:=s.ro _ (e5 a);rw[fc hr a] at r
 exact aR (r.jk b (NE.1 d))
theorem SS.ro_ne (s:SS w0 h0 w h B R F)(q j:Nat){ty:TypeId}{sz c m:Nat}{A:Z9}{cs:List Value}(e:decide (q<B.length)=true:=by kernel_rfl)(hr:R.getD j default=⟨ty,sz,A,c,m,cs⟩:=by kernel_rfl)(f:decide (j<R.length)=true:=by kernel_rfl):(aw B q).b ∉ (Value.slice A m c).ownBlock.toList:=fun d=>by
 have a:=oT f;have r:=s.ro _ (e5 a);rw[fc hr a] at r
 exact r.ap _ (NE.1 d) (gg.2 ⟨_,bx (oT e),rfl⟩)
end ro
def fe (xs ys:List Rat)(i:Nat):Nat->Rat
  | 0=>((0:Int):Rat)
  | j+1=>fe xs ys i j+xs.getD j 0*ys.getD (i-j) 0
def e7 (xs ys os:List Rat)(i:Nat):Nat->Rat
  | 0=>xs.getD i 0
  | j+1=>e7 xs ys os i j-os.getD j 0*ys.getD (i-j) 0
def dr (xs ys:List Rat):Nat->List Rat
  | 0=>[]
  | k+1=>dr xs ys k++[e7 xs ys (dr xs ys k) k k/ys.getD 0 0]
theorem iK (xs ys:List Rat):∀ k,(dr xs ys k).length=k
 | 0=>rfl
 | k+1=>by show (dr xs ys k++[_]).length=_;rw[y5,iK xs ys k];rfl
theorem vX (q:Rat)(e:Z9)(c1:Nat)(d:Z9)(i:Nat)(L:(lim (ab q.num)).length<=c1)(J:(lim q.den).length<=i)(n:Nat)(hn:n<=1000)(w:World)(h:Hp)(g:G w h)(H:S3 e (lim (ab q.num)) h)(I:S3 d (lim q.den) h):CR 54 #[rG q e c1 d i,nV n] w h (fun v h1=>∃ A c u,v=.slice A (u:List RT).length c/\u.length<=c/\Sr A u h1/\RTs h1 u (q::zZ n ((0:Int):Rat))):=by
 have a:=(((sS g).aS H).aS I);refine go Tryz.func54 [(0,rG q e c1 d i),(1,nV n)] rfl (aD (lA 2 28 (iS q e c1 d i) a (fun Q w2 h3 a=>lL a ac (aG (lL a [.o (rG q e c1 d i) 0 0 3] (HW 7 28 3 fJ ([((af q.num,qS e ((lim (ab q.num)).length) c1,qS d ((lim q.den).length) i):RT)]:List RT) a (fun b4 w5 O a=>lL a ac (ah (kZ ?_)))))))));replace a:=a.aT ((RTs.snoc RTs.nil (oR L J a.f.2.1 a.f.1)));refine bH _ (CG.loop (fun D Γ U=>∃ (m:Nat)(p:Z9)(j:Nat)(tl:List RT)(h_:Hp),D=n-m/\Γ=[(1,nV n),(4,sZ),(5,qS p ((tl).length) j)]/\SS w h U h_ [⟨Q,28,iS q e c1 d i⟩] [⟨28,3,p,j,(tl).length,(tl).flatMap fJ⟩] [Rt tl (q::zZ m ((0:Int):Rat)),S3 d (lim q.den),S3 e (lim (ab q.num))]/\m<=n) _ ⟨0,sB b4,(([((af q.num,qS e ((lim (ab q.num)).length) c1,qS d ((lim q.den).length) i):RT)]:List RT)).length,([((af q.num,qS e ((lim (ab q.num)).length) c1,qS d ((lim q.den).length) i):RT)]:List RT),O,rfl,rfl,a.to _ _,Mv _⟩ ?_);rintro _ _ w9 ⟨m,p,j,tl,_,M,rfl,a,hm⟩;have F:=(a.f.1).len;rw[tv,NF] at F
 refine cQ (aa a [.c,.v (nV ((tl).length)),.c] ?_);cases y:(decide ((((tl).length:Nat):Int)<=(n:Int)))
 .
  have zf:=oF y;refine lB 11 y (ag (CG.exit ?_))
  show CG _ _ _ _ _ _ _ _
  refine aa a ax (lN (kX ?_));obtain ⟨_,a,zg⟩:=a.pubr 0 (A:=p) (c:=j) (l:=tl) (f:=fJ) (ty:=28) (sz:=3) iU (fun _=>rfl);exact a.ret [] (qS p ((tl).length) j) (by rw[show n=m by omega];exact ⟨_,_,tl,rfl,zg,a.f.1,a.f.2.1⟩)
 have zf:=oT y;refine lB 11 y (ak (cK (kZ (kQ (lL a ac (lC 13 a (vR 0 oM oM _ _ a.g) ?_))))));rintro _ _ _ a ⟨z,x,C,B,rfl,V,zj,Y,zl⟩;replace a:=a.aP Y zl;refine lR 14 28 1 (iS ((0:Int):Rat) z x C B) a (fun Z _ _ a=>lY 15 0 28 3 j p tl fJ ((af ((0:Int):Rat).num,qS z ((lim (ab ((0:Int):Rat).num)).length) x,qS C ((lim ((0:Int):Rat).den).length) B):RT) 56 Z (.agg #[qF,sZ,sZ]) a a.f.1 (fun X W _ S a=>lL a ac (lD ?_)));intro a_ ka;replace a:=(a.tl.tl.tl.tl.add (K:=Rt (tl++[((af ((0:Int):Rat).num,qS z ((lim (ab ((0:Int):Rat).num)).length) x,qS C ((lim ((0:Int):Rat).den).length) B):RT)]) (q::zZ (m+1) ((0:Int):Rat))) (by rw[List.replicate_succ',<-List.cons_append];exact (a.f.r.2.1).snoc (oR V zj a.f.r.1 a.f.2.1)));refine ⟨_,_,?_,⟨m+1,X,W,tl++[((af ((0:Int):Rat).num,qS z ((lim (ab ((0:Int):Rat).num)).length) x,qS C ((lim ((0:Int):Rat).den).length) B):RT)],S,rfl,rfl,a.to _ _,oM⟩,ka.to _ kR⟩
 omega
def ni (op n:Int)(a b:Rat):Int:=if vm op n a b then (if Bj op a b then 7 else 0) else 6
theorem i1:((1:Int):Rat)=1:=rfl
theorem i0:((0:Int):Rat)=0:=rfl
theorem KQ:((-1:Int):Rat) = -1:=rfl
def K4 (z:Nat)(l:List Stp):Prop:=∀ k,k<l.length->(l.getD k fj).op=8->(k=z -> -12<=(l.getD k fj).n/\(l.getD k fj).n<=12)/\(k≠z -> -1<=(l.getD k fj).n/\(l.getD k fj).n<=2)
def ma (n j:Nat):List Rat:=(zZ n (0:Rat)).set j ((1:Int):Rat)
theorem AJ {α:Type}{l:List α}{i:Nat}{d:α}(h:i<l.length):l.getD i d∈l:=by
 rw[LI,NG h];exact e5 h
theorem vU {α:Type}{l:List α}{i:Nat}{d:α}(h:l.length<=i):l.getD i d=d:=by
 rw[LI,List.getElem?_eq_none h];rfl
def bB (s:ByteArray):List Value:=[.string s]
inductive Tm where
  | mk (op n:Int) (q:Rat) (s:ByteArray) (ks:List Tm)
def Tm.op:Tm->Int|.mk op _ _ _ _=>op
def Tm.n:Tm->Int|.mk _ n _ _ _=>n
def Tm.q:Tm->Rat|.mk _ _ q _ _=>q
def Tm.s:Tm->ByteArray|.mk _ _ _ s _=>s
def Tm.ks:Tm->List Tm|.mk _ _ _ _ ks=>ks
def cZ:Tm:=.mk 0 0 0 ⟨#[]⟩ []
structure PTm where
  op:Int
  n:Int
  q:Rat
  s:ByteArray
  A:Z9
  m:Nat
  c:Nat
abbrev pX (p:PTm):Value:=.agg #[iV p.op,iV p.n,.bool (af p.q.num),uV (lo (ab p.q.num)),.string (hi (ab p.q.num)),uV (lo (qd p.q)),.string (hi (qd p.q)),.string p.s,.slice p.A p.m p.c]
abbrev pC (p:PTm):List Value:=[iV p.op,iV p.n,.bool (af p.q.num),uV (lo (ab p.q.num)),.string (hi (ab p.q.num)),uV (lo (qd p.q)),.string (hi (qd p.q)),.string p.s,.slice p.A p.m p.c]
abbrev pW (o n:Int)(q:Rat)(s:ByteArray)(A:Z9)(m c:Nat):Value:=.agg #[iV o,iV n,.bool (af q.num),uV (lo (ab q.num)),.string (hi (ab q.num)),uV (lo (qd q)),.string (hi (qd q)),.string s,.slice A m c]
abbrev pG (o n:Int)(q:Rat)(s:ByteArray)(A:Z9)(m c:Nat):List Value:=[iV o,iV n,.bool (af q.num),uV (lo (ab q.num)),.string (hi (ab q.num)),uV (lo (qd q)),.string (hi (qd q)),.string s,.slice A m c]
def cC:PTm:=⟨0,0,0,⟨#[]⟩,none,0,0⟩
def dh (p:PTm):List Value:=[.int .i64 p.op,.int .i64 p.n,.bool (af p.q.num),.int .u64 (lo (ab p.q.num)),.string (hi (ab p.q.num)),.int .u64 (lo (qd p.q)),.string (hi (qd p.q)),.string p.s,.slice p.A p.m p.c]
def bU (p:PTm):Value:=.agg #[.int .i64 p.op,.int .i64 p.n,.bool (af p.q.num),.int .u64 (lo (ab p.q.num)),.string (hi (ab p.q.num)),.int .u64 (lo (qd p.q)),.string (hi (qd p.q)),.string p.s,.slice p.A p.m p.c]
def TmH:Nat->Hp->PTm->Tm->Prop
  | 0,_,_,_=>False
  | d+1,h,p,t=>p.op=t.op/\p.n=t.n/\p.q=t.q/\p.s=t.s/\p.m=t.ks.length/\p.m<=p.c/\∃ ps:List PTm,ps.length=t.ks.length/\SlO 9 dh cC h p.A ps/\∀ i,i<t.ks.length->TmH d h (ps.getD i cC) (t.ks.getD i cZ)
theorem TmH.gw:∀ {d:Nat} {h a:Hp} {p:PTm} {t:Tm},TmH d h p t->Gw h a->TmH d a p t
 | 0,_,_,_,_,x,_=>x
 | d+1,_,_,_,_,⟨h1,h2,h3,h4,h5,h6,ps,h7,h8,h9⟩,u=>⟨h1,h2,h3,h4,h5,h6,ps,h7,h8.gw u,fun i hi=>TmH.gw (h9 i hi) u⟩
theorem TmH.mono {h:Hp}:∀ {d e:Nat} {p:PTm} {t:Tm},TmH d h p t->d<=e->TmH e h p t
 | d+1,e+1,_,_,⟨h1,h2,h3,h4,h5,h6,ps,h7,h8,h9⟩,u=>⟨h1,h2,h3,h4,h5,h6,ps,h7,h8,fun i hi=>TmH.mono (h9 i hi) oM⟩
structure RTm where
  op:Int
  n:Int
  neg:Bool
  zA:Z9
  zn:Nat
  zc:Nat
  dA:Z9
  dn:Nat
  dc:Nat
  s:ByteArray
  A:Z9
  m:Nat
  c:Nat
def RTm.t (r:RTm):RT:=(r.neg,.slice r.zA r.zn r.zc,.slice r.dA r.dn r.dc)
def bT:RTm:=⟨0,0,false,none,0,0,none,0,0,⟨#[]⟩,none,0,0⟩
def bE (r:RTm):List Value:=[.int .i64 r.op,.int .i64 r.n,.bool r.neg,.slice r.zA r.zn r.zc,.slice r.dA r.dn r.dc,.string r.s,.slice r.A r.m r.c]
def bJ (r:RTm):Value:=.agg #[.int .i64 r.op,.int .i64 r.n,.bool r.neg,.slice r.zA r.zn r.zc,.slice r.dA r.dn r.dc,.string r.s,.slice r.A r.m r.c]
def RZ (h:Hp)(t:RT)(q:Rat):Prop:=∃ has:Bool,RP h (EW t) q.num (if has then q.den else 0)/\(has=false->q=0)
theorem RZ.gw {h a:Hp}{t:RT}{q:Rat}(x:RZ h t q)(u:Gw h a):RZ a t q:=by
 obtain ⟨d,h1,c⟩:=x;exact ⟨d,h1.gw u,c⟩
def RmH:Nat->Hp->RTm->Tm->Prop
  | 0,_,_,_=>False
  | d+1,h,r,t=>r.op=t.op/\r.n=t.n/\RZ h r.t t.q/\r.s=t.s/\r.m=t.ks.length/\r.m<=r.c/\∃ rs:List RTm,rs.length=t.ks.length/\SlO 7 bE bT h r.A rs/\∀ i,i<t.ks.length->RmH d h (rs.getD i bT) (t.ks.getD i cZ)
theorem HM {h:Hp}{b:Bool}{y l:Z9}{j o f i:Nat}{q:Rat}(x:RZ h (b,.slice y j o,.slice l f i) q)(p:0<f):RP h (.agg #[.bool b,.slice y j o,.slice l f i]) q.num q.den:=by
 obtain ⟨z,h1,C⟩:=x;cases z
 ·obtain ⟨A,c,D,d,e,H,I,F,B⟩:=h1
  injection e with e
  have u:=congrArg (fun a:Array Value=>a.toList) e
  simp at u
  have:f=(lim 0).length:=u.2.2.2.1;have h0:(lim 0).length=0:=by have:=@bR 0;omega
  omega
 ·exact h1
theorem IE {h:Hp}{b:Bool}{y p:Z9}{l u i:Nat}{q:Rat}(x:RZ h (b,.slice y l u,.slice p 0 i) q):q=0:=by
 obtain ⟨o,h1,j⟩:=x;cases o
 ·exact j rfl
 ·obtain ⟨A,c,D,d,e,F,I,C,B⟩:=h1
  injection e with e
  have f:=congrArg (fun a:Array Value=>a.toList) e
  simp at f
  have z:0=(lim q.den).length:=f.2.2.2.1;have H:=(@bR q.den).2 q.den_pos
  omega
theorem RmH.gw:∀ {d:Nat} {h a:Hp} {r:RTm} {t:Tm},RmH d h r t->Gw h a->RmH d a r t
 | 0,_,_,_,_,x,_=>x
 | d+1,_,_,_,_,⟨h1,h2,h3,h4,h5,h6,ps,h7,h8,h9⟩,u=>⟨h1,h2,h3.gw u,h4,h5,h6,ps,h7,h8.gw u,fun i hi=>RmH.gw (h9 i hi) u⟩
structure Tms (d:Nat) (h:Hp) (ps:List PTm) (ts:List Tm):Prop where
  len:ps.length=ts.length
  at_:∀ i,i<ts.length->TmH d h (ps.getD i cC) (ts.getD i cZ)
theorem Tms.gw {d:Nat}{h a:Hp}{ps:List PTm}{c:List Tm}(x:Tms d h ps c)(u:Gw h a):Tms d a ps c:=⟨x.len,fun i hi=>(x.at_ i hi).gw u⟩
structure Rms (d:Nat) (h:Hp) (rs:List RTm) (ts:List Tm):Prop where
  len:rs.length=ts.length
  at_:∀ i,i<ts.length->RmH d h (rs.getD i bT) (ts.getD i cZ)
theorem Rms.gw {d:Nat}{h c:Hp}{a:List RTm}{e:List Tm}(x:Rms d h a e)(u:Gw h c):Rms d c a e:=⟨x.len,fun i hi=>(x.at_ i hi).gw u⟩
theorem Rms.nil {d:Nat}{h:Hp}:Rms d h [] []:=⟨rfl,fun i hi=>by simp at hi⟩
theorem Rms.snoc {d:Nat}{h:Hp}{c:List RTm}{a:List Tm}{r:RTm}{t:Tm}(x:Rms d h c a)(y:RmH d h r t):Rms d h (c++[r]) (a++[t]):=by
 refine ⟨by simp[x.len],fun i hi=>?_⟩;rw[y5,NH] at hi
 rw[eJ,eJ,x.len]
 by_cases e:i<a.length
 ·rw[if_pos e,if_pos e];exact x.at_ i e
 ·rw[if_neg e,if_neg e,if_pos oM,if_pos oM];exact y
theorem Tms.nil {d:Nat}{h:Hp}:Tms d h [] []:=⟨rfl,fun i hi=>by simp at hi⟩
theorem Tms.snoc {d:Nat}{h:Hp}{c:List PTm}{a:List Tm}{r:PTm}{t:Tm}(x:Tms d h c a)(y:TmH d h r t):Tms d h (c++[r]) (a++[t]):=by
 refine ⟨by simp[x.len],fun i hi=>?_⟩;rw[y5,NH] at hi
 rw[eJ,eJ,x.len]
 by_cases e:i<a.length
 ·rw[if_pos e,if_pos e];exact x.at_ i e
 ·rw[if_neg e,if_neg e,if_pos oM,if_pos oM];exact y
theorem TmH.mk {d:Nat}{h:Hp}{op n:Int}{q:Rat}{s:ByteArray}{A:Z9}{c:Nat}{ps:List PTm}{ks:List Tm}(x:Tms d h ps ks)(e:ps.length<=c)(a:SlO 9 dh cC h A ps):TmH (d+1) h ⟨op,n,q,s,A,ps.length,c⟩ (.mk op n q s ks) :=
 ⟨rfl,rfl,rfl,rfl,x.len,e,ps,x.len,a,x.at_⟩
theorem RmH.mk {d:Nat}{h:Hp}{op n:Int}{b:Bool}{l f:Z9}{e i j a:Nat}{q:Rat}{s:ByteArray}{A:Z9}{c:Nat}{ps:List RTm}{ks:List Tm}(z:RZ h (b,.slice l e i,.slice f j a) q)(x:Rms d h ps ks)(p:ps.length<=c)(o:SlO 7 bE bT h A ps):RmH (d+1) h ⟨op,n,b,l,e,i,f,j,a,s,A,ps.length,c⟩ (.mk op n q s ks) :=
 ⟨rfl,rfl,z,rfl,x.len,p,ps,x.len,o,x.at_⟩
theorem TmH.open {d:Nat}{h:Hp}{p:PTm}{t:Tm}(x:TmH (d+1) h p t):∃ op n q s A c,∃ ps:List PTm,∃ ks:List Tm,p=⟨op,n,q,s,A,ps.length,c⟩/\t=.mk op n q s ks/\ps.length<=c/\SlO 9 dh cC h A ps/\Tms d h ps ks:=by
  obtain ⟨op,n,q,s,A,m,c⟩:=p;cases t with
  | mk tS n2 q2 s2 ks =>
    obtain ⟨h1,j,i,u,o,f,ps,a,e,l⟩:=x;obtain rfl:op=tS:=h1;obtain rfl:n=n2:=j;obtain rfl:q=q2:=i;obtain rfl:s=s2:=u;obtain rfl:m=ps.length:=(show m=ks.length from o).trans a.symm;exact ⟨op,n,q,s,A,c,ps,ks,rfl,rfl,f,e,a,l⟩
theorem RmH.mono {h:Hp}{d e:Nat}{p:RTm}{t:Tm}(x:RmH d h p t)(u:d<=e):RmH e h p t:=by
  induction d generalizing e p t with
  | zero=>exact x.elim
  | succ d ih =>
    cases e with
    | zero=>omega
    | succ e =>
      obtain ⟨h1,j,f,z,y,c,ps,l,a,o⟩:=x;exact ⟨h1,j,f,z,y,c,ps,l,a,fun i hi=>ih (o i hi) oM⟩
theorem RmH.open {d:Nat}{h:Hp}{p:RTm}{t:Tm}(x:RmH (d+1) h p t):∃ op n b l e i f j a q s A c,∃ ps:List RTm,∃ ks:List Tm,p=⟨op,n,b,l,e,i,f,j,a,s,A,ps.length,c⟩/\t=.mk op n q s ks/\RZ h (b,.slice l e i,.slice f j a) q/\ps.length<=c/\SlO 7 bE bT h A ps/\Rms d h ps ks:=by
  obtain ⟨op,n,b,l,e,i,f,j,a,s,A,m,c⟩:=p;cases t with
  | mk tS n2 q2 s2 ks =>
    obtain ⟨h1,B,z,F,D,y,ps,o,u,C⟩:=x;obtain rfl:op=tS:=h1;obtain rfl:n=n2:=B;obtain rfl:s=s2:=F;obtain rfl:m=ps.length:=(show m=ks.length from D).trans o.symm;exact ⟨op,n,b,l,e,i,f,j,a,q2,s,A,c,ps,ks,rfl,rfl,z,y,u,o,C⟩
def dQ (f:Nat->Nat):Nat->Nat
  | 0=>0
  | k+1=>dQ f k+f k
def bK (n:Int):Nat:=if n.natAbs<=1 then 1 else n.natAbs
def bI:Nat->Tm->Nat
  | 0,_=>0
  | d+1,t=>if t.ks.length=0 then 1 else (if t.op=11 then 2 else if t.op=8 then bK t.n else 1)*dQ (fun i=>bI d (t.ks.getD i cZ)) t.ks.length
def WfT (ok:ByteArray->Prop):Nat->Tm->Prop
  | 0,_=>False
  | d+1,t=>gG t.op=t.ks.length/\(t.op≠1->t.q=0)/\LQ 3000 t.q/\(t.op=2->ok t.s)/\(t.op≠2->t.s=⟨#[]⟩)/\(t.op≠8->t.n=0) /\ -12<=t.n/\t.n<=12/\∀ i,i<t.ks.length->WfT ok d (t.ks.getD i cZ)
theorem WfT.mono {ok:ByteArray->Prop}:∀ {d e:Nat} {t:Tm},WfT ok d t->d<=e->WfT ok e t
 | d+1,e+1,_,⟨h1,h2,h3,h4,h5,h6,h7,h8,h9⟩,u=>⟨h1,h2,h3,h4,h5,h6,h7,h8,fun i hi=>WfT.mono (h9 i hi) oM⟩
def n3 (sm:ByteArray->Prop):Nat->Tm->Prop
  | 0,_=>False
  | d+1,t=>t.ks.length<=3/\(-1000<=t.op/\t.op<=1000)/\(-1000<=t.n/\t.n<=1000)/\LQ 3000 t.q/\sm t.s/\∀ i,i<t.ks.length->n3 sm d (t.ks.getD i cZ)
theorem WfT.sm {ok sm:ByteArray->Prop}(h:∀ s,ok s->sm s)(h0:sm ⟨#[]⟩):∀ {d:Nat} {t:Tm},WfT ok d t->n3 sm d t
  | d+1,t,⟨h1,h2,h3,h4,h5,h6,h7,h8,h9⟩=>by
    have a:=aE t.op;refine ⟨by omega,⟨by omega,by omega⟩,⟨by omega,by omega⟩,h3,?_,fun i hi=>WfT.sm h h0 (h9 i hi)⟩
    by_cases e:t.op=2
    . exact h _ (h4 e)
    . rw[h5 e];exact h0
def WfT1 (ok:ByteArray->Prop):Nat->Tm->Prop
  | 0,_=>False
  | d+1,t=>gG t.op=t.ks.length/\(t.op≠1->t.q=0)/\LQ 1 t.q/\(t.op=2->ok t.s)/\(t.op≠2->t.s=⟨#[]⟩)/\(t.op≠8->t.n=0) /\ -12<=t.n/\t.n<=12/\∀ i,i<t.ks.length->WfT1 ok d (t.ks.getD i cZ)
theorem WfT1.wf {ok:ByteArray->Prop}:∀ {d:Nat} {t:Tm},WfT1 ok d t->WfT ok d t
 | _+1,_,⟨h1,h2,h3,h4,h5,h6,h7,h8,h9⟩=>⟨h1,h2,h3.mono kD,h4,h5,h6,h7,h8,fun i hi=>WfT1.wf (h9 i hi)⟩
def SmT1 (sm:ByteArray->Prop):Nat->Tm->Prop
  | 0,_=>False
  | d+1,t=>t.ks.length<=3/\(-1000<=t.op/\t.op<=1000)/\(-1000<=t.n/\t.n<=1000)/\LQ 1 t.q/\sm t.s/\∀ i,i<t.ks.length->SmT1 sm d (t.ks.getD i cZ)
theorem SmT1.mono {sm:ByteArray->Prop}:∀ {d e:Nat} {t:Tm},SmT1 sm d t->d<=e->SmT1 sm e t
 | d+1,e+1,_,⟨h1,h2,h3,h4,h5,h6⟩,u=>⟨h1,h2,h3,h4,h5,fun i hi=>SmT1.mono (h6 i hi) oM⟩
theorem SmT1.sm {sm:ByteArray->Prop}:∀ {d:Nat} {t:Tm},SmT1 sm d t->n3 sm d t
 | _+1,_,⟨h1,h2,h3,h4,h5,h6⟩=>⟨h1,h2,h3,h4.mono kD,h5,fun i hi=>SmT1.sm (h6 i hi)⟩
theorem WfT1.sm {ok sm:ByteArray->Prop}(h:∀ s,ok s->sm s)(h0:sm ⟨#[]⟩):∀ {d:Nat} {t:Tm},WfT1 ok d t->SmT1 sm d t
  | d+1,t,⟨h1,h2,h3,h4,h5,h6,h7,h8,h9⟩=>by
    have a:=aE t.op;refine ⟨by omega,⟨by omega,by omega⟩,⟨by omega,by omega⟩,h3,?_,fun i hi=>WfT1.sm h h0 (h9 i hi)⟩
    by_cases e:t.op=2
    . exact h _ (h4 e)
    . rw[h5 e];exact h0
def Kw (isb:ByteArray->Bool)(op n:Int)(q:Rat)(s:ByteArray)(m:Nat):Prop:=gG op=m/\(op=1\/q.num=0)/\((op=2->isb s=true)/\(op≠2->s=⟨#[]⟩))/\((op=8\/n=0) /\ -12<=n/\n<=12)
section
variable {isb:ByteArray->Bool}{d:Nat}{op n:Int}{q:Rat}{s:ByteArray}{ks:List Tm}
theorem Es (w:WfT (fun s=>isb s=true) (d+1) (.mk op n q s ks)):Kw isb op n q s ks.length:=by
 obtain ⟨h1,h,l,j,c,f,i,a,o⟩:=w;refine ⟨h1,?_,⟨j,c⟩,?_,i,a⟩
 ·by_cases e:op=1
  ·exact .inl e
  ·exact .inr (Nv.2 (h e))
 ·by_cases e:op=8
  ·exact .inl e
  ·exact .inr (f e)
theorem pR (h:¬Kw isb op n q s ks.length):∃ a,Value.bool false=.bool a/\(a=true↔WfT (fun s=>isb s=true) (d+1) (.mk op n q s ks)):=⟨false,rfl,fun c=>(by cases c),fun w=>absurd (Es w) h⟩
theorem FC {k:Nat}(hk:k<ks.length){e:Bool}(a:e=false)(h:e=true↔WfT (fun s=>isb s=true) d (ks.getD k cZ)):∃ c,Value.bool false=.bool c/\(c=true↔WfT (fun s=>isb s=true) (d+1) (.mk op n q s ks)):=⟨false,rfl,fun i=>(by cases i),fun ⟨_,_,_,_,_,_,_,_,f⟩=>by rw[h.2 (f k hk)] at a;cases a⟩
theorem Fx (h:Kw isb op n q s ks.length)(u:LQ 3000 q)(x:∀ i,i<ks.length->WfT (fun s=>isb s=true) d (ks.getD i cZ)):∃ a,Value.bool true=.bool a/\(a=true↔WfT (fun s=>isb s=true) (d+1) (.mk op n q s ks)):=by
 obtain ⟨h1,j,⟨p,f⟩,l,o,c⟩:=h;refine ⟨true,rfl,fun _=>⟨h1,fun e=>Nv.1 (j.resolve_left e),u,p,f,fun e=>l.resolve_left e,o,c,x⟩,fun _=>rfl⟩
end
def H7 (nm:Int->ByteArray)(l:List Stp):Nat->Nat->Tm
  | 0,_=>cZ
  | f+1,i =>
    if (l.getD i fj).op=2 then .mk 2 0 0 (nm (l.getD i fj).n) []
    else if gG (l.getD i fj).op=1 then .mk (l.getD i fj).op (l.getD i fj).n 0 ⟨#[]⟩ [H7 nm l f (l.getD i fj).a.toNat]
    else if gG (l.getD i fj).op=2 then .mk (l.getD i fj).op 0 0 ⟨#[]⟩ [H7 nm l f (l.getD i fj).a.toNat,H7 nm l f (l.getD i fj).b.toNat]
    else .mk (l.getD i fj).op 0 (l.getD i fj).q ⟨#[]⟩ []
structure MapJ (h0:Hp) (B:List Bx) (w:World) (h:Hp) (b:Nat) (es:List MapEntry) (clk:Nat):Prop where
  obj:w.heap[b]?=some (.map es.toArray clk)
  jk:h[b]?=some bg
  lo:h0.size<=b
  nb:∀ x∈B,x.b≠b
def MapS (h:Hp)(b:Nat)(es:List MapEntry):Prop:=∃ clk,h[b]?=some (.map es.toArray clk)
theorem MapS.gw {h d:Hp}{b:Nat}{a:List MapEntry}(x:MapS h b a)(u:Gw h d):MapS d b a:=by
 obtain ⟨c,e⟩:=x;refine ⟨c,?_⟩
 rcases u.blk b (aR e) with k|k
 ·exact k.trans e
 ·rw[e] at k;cases k
theorem MapS.w {w:World}{h:Hp}{b:Nat}{d:List MapEntry}(x:MapS h b d)(g:G w h):∃ a,w.heap[b]?=some (.map d.toArray a):=by
 obtain ⟨c,e⟩:=x;refine ⟨c,?_⟩
 rcases g.blk b with k|k
 ·rw[<-k];exact e
 ·rw[e] at k;cases k
theorem tG {P:Program}(w:World){mty kt et:TypeId}{b a:Nat}{c:Array MapEntry}{s:ByteArray}{val:Value}(e:P.underlying mty=some (.map kt et))(hk:P.underlying kt=some .string)(d:w.heap[b]?=some (.map c a))(hf:Instr.findNow .string (.string s) c.toList 0=some none) :
  (Instr.mapUpdate mty (.map (some b)) (.string s) val).run P w=.ok () { w with heap:=w.heap.setIfInBounds b (.map (c.push { key:=.string s,val:=val,born:=a }) (a+1)) }:=by
 have f:(Instr.checkKey false 10000 kt (.string s)).run P w=.ok () w:=MapKept.run_checkKey (k:=.string s) hk (by simp[MapKept.IsKey]) false 9999
 simp[Instr.mapUpdate,run_underlying e,MapKept.run_getObj_map d,f,MapKept.run_findKey hk hf,MapKept.run_setObj_map _ d,Result.andThen]
theorem qt {P:Program}(w:World){mty kt et:TypeId}{b a i:Nat}{c:Array MapEntry}{s:ByteArray}{val f:Value}(o:P.underlying mty=some (.map kt et))(hk:P.underlying kt=some .string)(d:w.heap[b]?=some (.map c a))(hf:Instr.findNow .string (.string s) c.toList 0=some (some (i,f)))(p:((c[i]?).map (·.key)).getD (.string s)=.string s) :
  (Instr.mapUpdate mty (.map (some b)) (.string s) val).run P w=.ok () { w with heap:=w.heap.setIfInBounds b (.map (c.modify i fun e=>{ e with key:=.string s,val:=val }) a) }:=by
 have j:(Instr.checkKey false 10000 kt (.string s)).run P w=.ok () w:=MapKept.run_checkKey (k:=.string s) hk (by simp[MapKept.IsKey]) false 9999;have l:(s == s)=true:=by first|exact beq_self_eq_true s|(show (s.data == s.data)=true;exact beq_self_eq_true _)|(cases s;rfl)
 have h:Instr.sameBits 10000 (.string s) (.string s)=true:=by simp[Instr.sameBits,l]
 simp[Instr.mapUpdate,run_underlying o,MapKept.run_getObj_map d,j,MapKept.run_findKey hk hf,MapKept.run_setObj_map _ d,Result.andThen,p,Instr.keyThatStays,h]
theorem BN {P:Program}(w:World){mty kt et:TypeId}{b c:Nat}{a:Array MapEntry}{s:ByteArray}(ok:Bool){v:Value}{found:Bool}(e:P.underlying mty=some (.map kt et))(hk:P.underlying kt=some .string)(d:w.heap[b]?=some (.map a c))
  (hf:(∃ i,Instr.findNow .string (.string s) a.toList 0=some (some (i,v))/\found=true)\/(Instr.findNow .string (.string s) a.toList 0=some none/\found=false/\(zeroValue et).run P w=.ok v w)) :
  (Instr.lookup mty (.map (some b)) (.string s) ok).run P w=.ok (if ok then .tuple #[v,.bool found] else v) w:=by
 have f:(Instr.checkKey a.isEmpty 10000 kt (.string s)).run P w=.ok () w:=MapKept.run_checkKey (k:=.string s) hk (by simp[MapKept.IsKey]) _ 9999
 rcases hf with ⟨i,hf,rfl⟩|⟨hf,rfl,hz⟩
 ·simp[Instr.lookup,run_underlying e,MapKept.run_getObj_map d,f,MapKept.run_findKey hk hf,Result.andThen]
 ·simp[Instr.lookup,run_underlying e,MapKept.run_getObj_map d,f,MapKept.run_findKey hk hf,hz,Result.andThen]
theorem uY {w:World}{b:Nat}{o o':Obj}(d:w.heap[b]?=some o):Put b w { w with heap:=w.heap.setIfInBounds b o' }/\({ w with heap:=w.heap.setIfInBounds b o' }:World).heap[b]?=some o':=by
 have a:b<w.heap.size:=(Array.getElem?_eq_some_iff.1 d).1;refine ⟨⟨rfl,rfl,rfl,by simp,fun c e=>by show (w.heap.setIfInBounds b o')[c]?=_;rw[hP (Ne.symm e)]⟩,?_⟩
 show (w.heap.setIfInBounds b o')[b]?=_
 rw[As a]
section laws
variable {P:Program}{n:Nat}{N R:Po}{X:Nat->Po}{ops:Array Oper}{k:Nat}{Γ:cl}{w:World}{h:Hp}{w0:World}{h0:Hp}{B:List Bx}{Rs:List Rw}{F:List (Hp->Prop)}
theorem SS.pokeJ (s:SS w0 h0 w h B [] F){b:Nat}{w':World}(c:h[b]?=some bg)(d:h0.size<=b)(hn:∀ x∈B,x.b≠b)(p:Put b w w'):SS w0 h0 w' h B [] F :=
 ⟨s.g0,⟨s.st.up.put p c d s.g0.size,fun x a=>(p.blk _ (hn x a)).trans (s.st.own x a),s.st.jk,s.st.lo,s.st.nd⟩,fun _ a=>(by cases a),.nil,s.mo,s.f⟩
theorem HX (t:Nat)(s:SS w0 h0 w h B Rs F)(H:∀ b w' h',SS w0 h0 w' h' B Rs F->MapJ h0 B w' h' b [] 0->LG P n N R X ops (k+1) ((t,.map (some b))::Γ) w')(a:cL ops Γ k t n=true:=by kernel_rfl)
  (hr:(execOp (ev Γ) (am ops k)).run P w=.ok (.value (.map (some w.heap.size))) (w.alloc (.map #[] 0)):=by kernel_rfl):LG P n N R X ops k Γ w:=by
 have u:Up w h (w.alloc (.map #[] 0)) (h.push bg):=Up.allocAny s.g _ _ (.inr rfl);refine LG.val t _ _ (bM a).1 (bM a).2 hr (H _ _ _ (s.step u) ⟨?_,?_,?_,fun x c e=>?_⟩)
 ·rw[heap_alloc];exact er
 ·rw[s.g.size];exact er
 ·rw[s.g.size];exact s.st.sz
 ·have:=aR (s.st.jk x c)
  have:=s.g.size
  omega
theorem pD {b a:Nat}{c:List MapEntry}(mty kt et:TypeId)(ky:ByteArray)(val:Value)(s:SS w0 h0 w h B [] F)(m:MapJ h0 B w h b c a)(H:∀ w',SS w0 h0 w' h B [] F->MapJ h0 B w' h b (c++[⟨.string ky,val,a⟩]) (a+1)->LG P n N R X ops (k+1) Γ w')
  (d:cS ops Γ k=true:=by kernel_rfl)(i:execOp (ev Γ) (am ops k)=(do Instr.mapUpdate mty (.map (some b)) (.string ky) val;pure .skip):=by kernel_rfl)(f:P.underlying mty=some (.map kt et):=by kernel_rfl)(hk:P.underlying kt=some .string:=by kernel_rfl)(hf:Instr.findNow .string (.string ky) c 0=some none:=by kernel_rfl):LG P n N R X ops k Γ w:=by
 have hr:=tG w (val:=val) f hk m.obj hf;obtain ⟨p,e⟩:=uY (o':=.map (c.toArray.push { key:=.string ky,val:=val,born:=a }) (a+1)) m.obj;refine LG.store _ (iu d).1 (iu d).2 ?_ (H _ (s.pokeJ m.jk m.lo m.nb p) ⟨?_,m.jk,m.lo,m.nb⟩)
 ·rw[i];simp[hr,Result.andThen]
 ·rw[e];simp
theorem Lk {b a i:Nat}{d:List MapEntry}(mty kt et:TypeId)(ky:ByteArray)(val j:Value)(c:List MapEntry)(s:SS w0 h0 w h B [] F)(m:MapJ h0 B w h b d a)(H:∀ w',SS w0 h0 w' h B [] F->MapJ h0 B w' h b c a->LG P n N R X ops (k+1) Γ w')
  (f:cS ops Γ k=true:=by kernel_rfl)(x:execOp (ev Γ) (am ops k)=(do Instr.mapUpdate mty (.map (some b)) (.string ky) val;pure .skip):=by kernel_rfl)(u:P.underlying mty=some (.map kt et):=by kernel_rfl)(hk:P.underlying kt=some .string:=by kernel_rfl)(hf:Instr.findNow .string (.string ky) d 0=some (some (i,j)):=by kernel_rfl)
  (y:((d.toArray[i]?).map (·.key)).getD (.string ky)=.string ky:=by kernel_rfl)(o:d.toArray.modify i (fun e=>{ e with key:=.string ky,val:=val })=c.toArray:=by kernel_rfl):LG P n N R X ops k Γ w:=by
 have hr:=qt w (val:=val) u hk m.obj hf y;obtain ⟨p,l⟩:=uY (o':=.map (d.toArray.modify i fun e=>{ e with key:=.string ky,val:=val }) a) m.obj;refine LG.store _ (iu f).1 (iu f).2 ?_ (H _ (s.pokeJ m.jk m.lo m.nb p) ⟨?_,m.jk,m.lo,m.nb⟩)
 ·rw[x];simp[hr,Result.andThen]
 ·rw[l,o]
theorem I6 (t:Nat){b:Nat}{a:List MapEntry}(mty kt et:TypeId)(ky:ByteArray)(ok:Bool)(v:Value)(found:Bool)(s:SS w0 h0 w h B Rs F)(m:MapS h b a)(H:LG P n N R X ops (k+1) ((t,if ok then .tuple #[v,.bool found] else v)::Γ) w)(c:cL ops Γ k t n=true:=by kernel_rfl)
  (j:execOp (ev Γ) (am ops k)=(do pure (.value (<-Instr.lookup mty (.map (some b)) (.string ky) ok))):=by kernel_rfl)(f:P.underlying mty=some (.map kt et):=by kernel_rfl)(hk:P.underlying kt=some .string:=by kernel_rfl)
  (hf:(∃ i,Instr.findNow .string (.string ky) a 0=some (some (i,v))/\found=true)\/(Instr.findNow .string (.string ky) a 0=some none/\found=false/\∀ w,(zeroValue et).run P w=.ok v w)):LG P n N R X ops k Γ w:=by
 obtain ⟨d,e⟩:=m.w s.g;refine LG.val t _ w (bM c).1 (bM c).2 ?_ H;rw[j];have hr:=BN w ok (v:=v) (found:=found) f hk e (hf.imp id fun h=>⟨h.1,h.2.1,h.2.2 w⟩)
 simp[hr,Result.andThen]
theorem K7 (t:Nat){b:Nat}{a:List MapEntry}(mty ty kt et:TypeId)(s:SS w0 h0 w h B Rs F)(m:MapS h b a)(H:LG P n N R X ops (k+1) ((t,.int .i64 (a.length:Nat))::Γ) w)(c:cL ops Γ k t n=true:=by kernel_rfl)
  (d:execOp (ev Γ) (am ops k)=(do pure (.value (<-Builtin.len_ #[mty] ty #[.map (some b)]))):=by kernel_rfl)(i:P.underlying mty=some (.map kt et):=by kernel_rfl):LG P n N R X ops k Γ w:=by
 obtain ⟨f,e⟩:=m.w s.g;refine LG.val t _ w (bM c).1 (bM c).2 ?_ H;rw[d]
 have hr:(Builtin.len_ #[mty] ty #[.map (some b)]).run P w=.ok (goInt a.toArray.size) w:=by
  simp[Builtin.len_,run_underlying i,MapKept.run_getObj_map e,Result.andThen]
 simp[hr,Result.andThen,goInt]
theorem SS.pubMap {b a:Nat}{j:List MapEntry}(s:SS w0 h0 w h B [] F)(m:MapJ h0 B w h b j a):∃ l,SS w0 h0 w l B [] F/\MapS l b j:=by
 have d:=aR m.jk;refine ⟨h.setIfInBounds b (.map j.toArray a),⟨s.g0,⟨⟨s.st.up.ext,⟨by simp;exact s.st.up.gr.size,fun c o=>?_⟩,⟨by simp;exact s.st.up.g.size,fun c=>?_⟩⟩,s.st.own,fun x i=>?_,s.st.lo,s.st.nd⟩,fun _ i=>(by cases i),.nil,s.mo,s.f.gw s.mo ⟨by simp,fun c _=>?_⟩⟩,a,?_⟩
 ·have:=m.lo
  rw[hP oM];exact s.st.up.gr.blk c o
 ·by_cases e:b=c
  ·subst e;left;rw[As d];exact m.obj.symm
  ·rw[hP e];exact s.st.up.g.blk c
 ·rw[hP (Ne.symm (m.nb x i))];exact s.st.jk x i
 ·by_cases e:b=c
  ·subst e;exact .inr m.jk
  ·left;rw[hP e]
 ·rw[As d]
end laws
theorem nO (f:Nat->Nat){a b:Nat}(h:a<=b):dQ f a<=dQ f b:=by
 induction h with
 | refl=>exact ea _
 | step _ ih=>exact eb ih (Nat.le_add_right _ _)
def gL (op n:Int):Nat:=if op=11 then 2 else if op=8 then bK n else 1
theorem gc (op n:Int):1<=gL op n:=by
 unfold gL bK
 split
 ·omega
 ·split
  ·split<;>omega
  ·omega
theorem Ce {d:Nat}{op n:Int}{q:Rat}{s:ByteArray}{ks:List Tm}(h:ks.length=0):bI (d+1) (.mk op n q s ks)=1:=if_pos h
theorem jY {d:Nat}{op n:Int}{q:Rat}{s:ByteArray}{ks:List Tm}(h:ks.length≠0):bI (d+1) (.mk op n q s ks)=gL op n*dQ (fun i=>bI d (ks.getD i cZ)) ks.length:=if_neg h
theorem sF {d:Nat}{op n:Int}{q:Rat}{s:ByteArray}{ks:List Tm}(h:ks.length≠0):dQ (fun i=>bI d (ks.getD i cZ)) ks.length<=bI (d+1) (.mk op n q s ks):=by
 rw[jY h];exact MP _ (gc op n)
theorem mK {m s:Nat}(h:1<=m):min (m*min s 1001) 1001=min (m*s) 1001:=by
 rcases ML s 1001 with e|e
 ·rw[Lq e]
 ·rw[LS e,LS (eb e (MP _ h)),LS (MP _ h)]
theorem Dh (op:Int)(w:World)(h:Hp)(g:G w h):CV 108 #[iV op] w h (iV (gG op)):=by
 have a:=sS g;refine go Tryz.func108 [(0,iV op)] rfl (aa a ac (ah (aa a ac (aZ (cQ (aD ?_))))));cases o:((op:Int) == (1:Int))
 .
  have y:=aj o;refine lB 5 o (lL a ac (ag (kQ ?_)));cases e:((op:Int) == (2:Int))
  .
   have u:=aj e;refine lB 6 e (lL a ac (ag (cQ (aD ?_))));cases f:((op:Int) == (7:Int))
   .
    have C:=aj f;refine lB 8 f (lL a ac (ag (aD ?_)));cases c:((op:Int) == (8:Int))
    .
     have x:=aj c;refine lB 9 c (lL a ac (ag (aD ?_)));cases d:((op:Int) == (9:Int))
     .
      have D:=aj d;refine lB 10 d (lL a ac (ag (aD ?_)));cases p:((op:Int) == (10:Int))
      .
       have z:=aj p;refine lB 11 p (lL a ac (ag (kQ ?_)));cases j:((op:Int) == (11:Int))
       .
        have H:=aj j;refine lB 12 j (lL a ac (ag (cQ (aD ?_))));cases l:((op:Int) == (3:Int))
        .
         have B:=aj l;refine lB 14 l (lL a ac (ag (aD ?_)));cases i:((op:Int) == (4:Int))
         .
          have F:=aj i;refine lB 15 i (lL a ac (ag (aD ?_)));cases I:((op:Int) == (5:Int))
          .
           have Q:=aj I;refine lB 16 I (lL a ac (ag (aD ?_)));cases K:((op:Int) == (6:Int))
           .
            have O:=aj K;refine lB 17 K (lL a ac (ag (aD ?_)));cases J:((op:Int) == (12:Int))
            .
             have S:=aj J;refine lB 18 J (lL a ac (ag (kQ ?_)));cases L:((op:Int) == (13:Int))
             .
              have M:=aj L;exact lB 19 L (lL a ac (ag (cK (aa a ac (ae a [] (iV (-1)) (congrArg (Value.int .i64) (by have:=aE op;omega)))))))
             have M:=eq_of_beq L;exact lB 19 L (lL a ac (ak (aa a ac (ae a [] (iV 2) (congrArg (Value.int .i64) (by have:=aE op;omega))))))
            have S:=eq_of_beq J;exact lB 18 J (lL a ac (ak (cK (cn (aa a ac (ae a [] (iV 2) (congrArg (Value.int .i64) (by have:=aE op;omega))))))))
           have O:=eq_of_beq K;exact lB 17 K (lL a ac (ak (cK (cn (aa a ac (ae a [] (iV 2) (congrArg (Value.int .i64) (by have:=aE op;omega))))))))
          have Q:=eq_of_beq I;exact lB 16 I (lL a ac (ak (cK (cn (aa a ac (ae a [] (iV 2) (congrArg (Value.int .i64) (by have:=aE op;omega))))))))
         have F:=eq_of_beq i;exact lB 15 i (lL a ac (ak (cK (cn (aa a ac (ae a [] (iV 2) (congrArg (Value.int .i64) (by have:=aE op;omega))))))))
        have B:=eq_of_beq l;exact lB 14 l (lL a ac (ak (cK (cn (aa a ac (ae a [] (iV 2) (congrArg (Value.int .i64) (by have:=aE op;omega))))))))
       have H:=eq_of_beq j;exact lB 12 j (lL a ac (ak (aa a ac (ae a [] (iV 1) (congrArg (Value.int .i64) (by have:=aE op;omega))))))
      have z:=eq_of_beq p;exact lB 11 p (lL a ac (ak (cK (cn (aa a ac (ae a [] (iV 1) (congrArg (Value.int .i64) (by have:=aE op;omega))))))))
     have D:=eq_of_beq d;exact lB 10 d (lL a ac (ak (cK (cn (aa a ac (ae a [] (iV 1) (congrArg (Value.int .i64) (by have:=aE op;omega))))))))
    have x:=eq_of_beq c;exact lB 9 c (lL a ac (ak (cK (cn (aa a ac (ae a [] (iV 1) (congrArg (Value.int .i64) (by have:=aE op;omega))))))))
   have C:=eq_of_beq f;exact lB 8 f (lL a ac (ak (cK (cn (aa a ac (ae a [] (iV 1) (congrArg (Value.int .i64) (by have:=aE op;omega))))))))
  have u:=eq_of_beq e;exact lB 6 e (lL a ac (ak (aa a ac (ae a [] (iV 0) (congrArg (Value.int .i64) (by have:=aE op;omega))))))
 have y:=eq_of_beq o;exact lB 5 o (lL a ac (ak (cK (cn (aa a ac (ae a [] (iV 0) (congrArg (Value.int .i64) (by have:=aE op;omega))))))))
theorem FJ (n:Int)(h0 : -12<=n)(h1:n<=12)(w:World)(h:Hp)(g:G w h):CV 110 #[iV n] w h (nV (bK n)):=by
 have a:=sS g;refine go Tryz.func110 [(0,iV n)] rfl (aa a ac (ah (aa a ac ?_)));cases d:(decide ((n:Int)<=(-1073741824:Int)))
 .
  have e:=oF d;refine lB 4 d (lL a ax ?_);cases c:(decide ((1073741824:Int)<=(n:Int)))
  .
   have f:=oF c;refine lB 7 c (lL a [.v qF] (ag (cK (aa a ax (lI 11 (0-n) ?_)))));refine lV 12 (iV (max (max (n:Int) (0-n:Int)) (1:Int))) ?_ (hr:=aI (n:=(if (1:Int)>(if (0-n:Int)>(n:Int) then (0-n:Int) else (n:Int)) then (1:Int) else (if (0-n:Int)>(n:Int) then (0-n:Int) else (n:Int)))) kR (by simp only[nP]));exact lL a ac (ae a [] (iV (max (max (n:Int) (0-n:Int)) (1:Int))) (congrArg (Value.int .i64) (by unfold bK;(repeat' split)<;>omega)))
  have f:=oT c;exact lB 7 c (lL a [.v qT] (ak (aa a ac (ae a [] (iV 1073741824) (congrArg (Value.int .i64) (by unfold bK;(repeat' split)<;>omega))))))
 have e:=oT d;refine lB 4 d (lL a ac (lG 6 ?_));exact lG 7 (lL a [.v qT] (ak (aa a ac (ae a [] (iV 1073741824) (congrArg (Value.int .i64) (by unfold bK;(repeat' split)<;>omega))))))
theorem x6  (sm:ByteArray->Prop)(d:Nat)(L:∀ (p:PTm) (t:Tm) (a:Int) (w:World) (h:Hp),G w h->TmH d h p t->n3 sm d t->(d:Int)<=a->a<=1000->Calls Tryz.prog 67 #[bU p,iV a] w (Ret w h (fun v _=>v=.bool false)))(op n:Int)(q:Rat)(s:ByteArray)(A:Z9)(c:Nat)(ps:List PTm)(ks:List Tm)(hc:ps.length<=c)(W:ps.length<=3)(X:ks.length<=3)(F : -1000<=op/\op<=1000)(hn : -1000<=n/\n<=1000)(hq:LQ 3000 q)(M:sm s)(V:∀ i,i<ks.length->n3 sm d (ks.getD i cZ))(a:Int)(hm:((d+1:Nat):Int)<=a)(U:a<=1000)(w:World)(h:Hp)(g:G w h)(J:SlO 9 dh cC h A ps)(B:Tms d h ps ks):CV 67 #[bU ⟨op,n,q,s,A,ps.length,c⟩,iV a] w h (.bool false):=by
 have e:=(((sS g).aS J).add (K:=fun u=>Tms d u ps ks) B);have O:=(e.f.1).len;refine go Tryz.func67 [(0,bU ⟨op,n,q,s,A,ps.length,c⟩),(1,iV a)] rfl (aD (lA 2 52 (dh ⟨op,n,q,s,A,ps.length,c⟩) e (fun C w2 D e=>lL e ac (ah (aa e ac ?_)))));cases j:(decide ((a:Int)<(1:Int)))
 .
  have x:=oF j;refine lB 8 j (ag (cK (cQ (aa e [.v (qP C 8),.o (qS A ps.length c) 0 8 1,.v (nV ps.length),.c] (aZ ?_)))));refine bH _ (CG.loop (fun z Γ I=>∃ (k:Nat)(u:Hp),z=ps.length-k/\Γ=[(1,iV a),(10,qS A ps.length c),(11,nV ps.length),(12,nV k)]/\SS w h I u [⟨C,52,dh ⟨op,n,q,s,A,ps.length,c⟩⟩] [] [fun u=>Tms d u ps ks,fun u=>SlO 9 dh cC u A ps]/\k<=ps.length) _ ⟨0,D,rfl,rfl,e.to _ _,Mv _⟩ ?_);rintro _ _ w5 ⟨k,Y,H,rfl,e,hk⟩;refine aD ?_;cases l:(decide ((k:Int)<(ps.length:Int)))
  .
   have y:=oF l;refine lB 13 l (ah (dC (CG.exit ?_)))
   show CG _ _ _ _ _ _ _ _
   exact aa e ac (ae e [] qF rfl)
  have y:=oT l;refine lB 13 l (ah (cn (cK (cQ (kZ (aD (lX 14 A ps.length c 9 (k:Nat) k ((e.f.2.1).ok oM) ?_)))))));refine lH 15 (bU (ps.getD k cC)) e ((e.f.2.1).el k oM) (lA 6 52 a7 e (fun Z _ _ e=>lP 0 0 (dh (ps.getD k cC)) e (fun _ e=>aG (lL e [.o (bU (ps.getD k cC)) 0 0 9,.c] (lI 18 (a-1) ?_)))));refine aq 19 e (L (ps.getD k cC) (ks.getD k cZ) (a-1) _ _ e.g ((e.f.1).at_ k oM) (V k oM) oM oM) (fun _ S e=>ag (cK (kQ (bv 20 ((k:Nat)+1) (k+1) ?_))));refine lL e ac (lD ?_);intro a_ Q;replace e:=e.drop 1 0;refine ⟨_,_,?_,⟨k+1,S,rfl,rfl,e.to _ _,oM⟩,Q.to _ kR⟩
  omega
 have x:=oT j;refine lB 8 j (ak (aa e ac (lN (kX ?_))))
 exfalso;omega
theorem uF (sm:ByteArray->Prop):∀ (d:Nat) (p:PTm) (t:Tm) (a:Int) (w:World) (h:Hp),G w h->TmH d h p t->n3 sm d t->(d:Int)<=a->a<=1000->Calls Tryz.prog 67 #[bU p,iV a] w (Ret w h (fun v _=>v=.bool false))
  | 0,_,_,_,_,_,_,x,_,_,_=>x.elim
  | d+1,p,t,a,w,h,g,x,wf,hm,hm2=>by
    obtain ⟨op,n,q,s,A,c,ps,ks,rfl,rfl,u,o,e⟩:=x.open;obtain ⟨f,l,y,i,z,B⟩:=wf;have j:ks.length<=3:=f;exact x6 sm d (fun p t a w h=>uF sm d p t a w h) op n q s A c ps ks u (by have:=e.len;omega) f l y i z B a hm hm2 w h g o e
theorem AQ  (isb:ByteArray->Bool)(sm:ByteArray->Prop)(nF:∀ s,sm s->∀ (w:World) (h:Hp),G w h->Calls Tryz.prog 40 #[.string s] w (Ret w h (fun v _=>∃ b,v=.bool b/\b=isb s)))(d:Nat)(ih:∀ (p:PTm) (t:Tm) (w:World) (h:Hp),G w h->TmH d h p t->n3 sm d t ->  Calls Tryz.prog 68 #[bU p] w (Ret w h (fun v _=>∃ F,v=.bool F/\(F=true↔WfT (fun s=>isb s=true) d t))))(op n:Int)(q:Rat)(s:ByteArray)(A:Z9)(c:Nat)(ps:List PTm)(ks:List Tm)(hc:ps.length<=c)(hlp:ps.length<=3)(hk3:ks.length<=3)(hop : -1000<=op/\op<=1000)(hn : -1000<=n/\n<=1000)(hq:LQ 3000 q)(hsm:sm s)(hW:∀ i,i<ks.length->n3 sm d (ks.getD i cZ))(w:World)(h:Hp)(g:G w h)(hK:SlO 9 dh cC h A ps)(hKs:Tms d h ps ks):CR 68 #[bU ⟨op,n,q,s,A,ps.length,c⟩] w h (fun v _=>∃ F,v=.bool F/\(F=true↔WfT (fun s=>isb s=true) (d+1) (.mk op n q s ks))):=by
 have a:=(((sS g).aS hK).add (K:=fun e=>Tms d e ps ks) hKs);have hln:=(a.f.1).len;have hsg:q.num.sign=0↔q.num=0:=NI;refine go Tryz.func68 [(0,bU ⟨op,n,q,s,A,ps.length,c⟩)] rfl (aD (lA 1 52 (dh ⟨op,n,q,s,A,ps.length,c⟩) a (fun l w2 h3 a=>lL a ac (ah (cQ (cR 7 [] mixed a ar ?_))))));refine eV 0 5 (pB l) (eO 1 6 [(0,0,1)] (iV op) a (eV 3 8 (qP l 8) (eO 4 9 [(0,8,1)] (qS A ps.length c) a (eV 5 10 (nV ps.length) (au 2 7 a (fun _ _ a=>Dh op _ _ a.g) (fun w4 h5 a=>?_))))));cases y:((gG op:Int) != (ps.length:Int))
 .
  have M:=aW y;refine eB 6 11 y (bS a (fun w7 h8 a=>?_));refine tN (dC (cK (cQ (CG.join (fun Γ B=>∃ (D:Bool)(e:Hp),Γ=[(1,pB l),(2,qF),(20,.bool D)]/\SS w h B e [⟨l,52,dh ⟨op,n,q,s,A,ps.length,c⟩⟩] [] [fun e=>Tms d e ps ks,fun e=>SlO 9 dh cC e A ps]/\(D=true->¬(op=1\/q.num=0))/\(D=false->(op=1\/q.num=0))) ?_ ?_))))
  .
   refine kQ (lL a [.v (pB l),.o (iV op) 0 0 1] ?_);cases z:((op:Int) != (1:Int))
   .
    have S:=aW z;refine lB 14 z (lL a ac (lG 16 ?_));refine lG 17 (lG 18 (lG 19 (lL a [.v qF] (lD ?_))));intro u j;exact ⟨_,⟨false,h8,rfl,a.to _ _,(fun e=>absurd e kD),(fun _=>by omega)⟩,j.to _ kR⟩
   have S:=aK z;refine lB 14 z (lL a [.c,.v (qP l 2),.o (qv q) 0 2 5] (aq 18 a (jy q (hq.mono oM) _ _ a.g) (fun _ zD a=>?_)));cases za:((q.num.sign:Int) != (0:Int))
   .
    have zs:=aW za;refine lB 19 za (lL a [.v qF] (lD ?_));intro u j;exact ⟨_,⟨false,zD,rfl,a.to _ _,(fun e=>absurd e kD),(fun _=>by omega)⟩,j.to _ kR⟩
   have zs:=aK za;refine lB 19 za (lL a [.v qT] (lD ?_));intro u j;exact ⟨_,⟨true,zD,rfl,a.to _ _,(fun _=>by omega),(fun e=>absurd e kD)⟩,j.to _ kR⟩
  rintro _ _ ⟨D,zE,rfl,a,zH,H⟩;cases Y:(D)
  .
   try rw[Y] at a
   try rw[Y]
   refine dC (cK (cQ (CG.join (fun Γ B=>∃ (L:Bool)(e:Hp),Γ=[(1,pB l),(2,qF),(39,.bool L)]/\SS w h B e [⟨l,52,dh ⟨op,n,q,s,A,ps.length,c⟩⟩] [] [fun e=>Tms d e ps ks,fun e=>SlO 9 dh cC e A ps]/\(L=true->¬((op=2->isb s=true)/\(op≠2->s=⟨#[]⟩)))/\(L=false->((op=2->isb s=true)/\(op≠2->s=⟨#[]⟩)))) ?_ ?_)))
   .
    refine kQ (lL a [.v (pB l),.o (iV op) 0 0 1] ?_);cases zc:((op:Int) == (2:Int))
    .
     have zt:=aj zc;refine lB 23 zc (lL a ac (lG 25 ?_));refine lG 26 (lG 27 (lG 28 (lL a [.v qF,.c,.v (pB l),.o (iV op) 0 0 1] ?_)));have zq:((op:Int) != (2:Int))=true:=Ca oM;have bf:=aK zq;refine lB 33 zq (lL a [.c,.v (qP l 7),.o (.string s) 0 7 1] ?_);cases zd:(lZ s (⟨#[]⟩))
     .
      have zu:=oO zd;refine lB 37 zd (lL a [.v qF,.v qF] (lD ?_));intro u j;exact ⟨_,⟨false,zE,rfl,a.to _ _,(fun e=>absurd e kD),(fun _=>⟨fun e=>by first|exact x.symm.trans aM|exact absurd e oM,fun e=>by first|assumption|exact absurd e oM⟩)⟩,j.to _ kR⟩
     have zu:=oB zd;refine lB 37 zd (lL a [.v qT,.v qT] (lD ?_));intro u j;exact ⟨_,⟨true,zE,rfl,a.to _ _,(fun _ e=>by first|exact NJ ((e.1 oM).symm.trans (x.symm.trans aM))|exact absurd (e.2 oM) aM),(fun e=>absurd e kD)⟩,j.to _ kR⟩
    have zt:=eq_of_beq zc;refine lB 23 zc (lL a [.c,.v (qP l 7),.o (.string s) 0 7 1] (lC 27 a (nF s hsm _ _ a.g) ?_));rintro _ _ zG a ⟨bi,rfl,x⟩;cases bq:(bi)
    .
     refine lL a [.v qT,.v qT,.c] (lG 31 ?_);refine lG 32 (lG 33 (lG 34 (lG 35 (lG 36 (lG 37 (lG 38 (lL a [.v qT] (lD ?_))))))));intro u j;exact ⟨_,⟨true,zG,rfl,a.to _ _,(fun _ e=>by first|exact NJ ((e.1 oM).symm.trans (x.symm.trans aM))|exact absurd (e.2 oM) aM),(fun e=>absurd e kD)⟩,j.to _ kR⟩
    refine lL a [.v qF,.v qF,.c,.v (pB l),.o (iV op) 0 0 1] ?_;have zr:((op:Int) != (2:Int))=false:=Jm oM;have bd:=aW zr;refine lB 33 zr (lL a ac (lG 35 ?_));refine lG 36 (lG 37 (lL a [.v qF,.v qF] (lD ?_)));intro u j;exact ⟨_,⟨false,zG,rfl,a.to _ _,(fun e=>absurd e kD),(fun _=>⟨fun e=>by first|exact x.symm.trans aM|exact absurd e oM,fun e=>by first|assumption|exact absurd e oM⟩)⟩,j.to _ kR⟩
   rintro _ _ ⟨L,U,rfl,a,zI,O⟩;cases ze:(L)
   .
    try rw[ze] at a
    try rw[ze]
    refine dC (cK (cQ (CG.join (fun Γ B=>∃ (J:Bool)(e:Hp),Γ=[(1,pB l),(2,qF),(57,.bool J)]/\SS w h B e [⟨l,52,dh ⟨op,n,q,s,A,ps.length,c⟩⟩] [] [fun e=>Tms d e ps ks,fun e=>SlO 9 dh cC e A ps]/\(J=true->¬((op=8\/n=0) /\ -12<=n/\n<=12))/\(J=false->((op=8\/n=0) /\ -12<=n/\n<=12))) ?_ ?_)))
    .
     refine kQ (lL a [.v (pB l),.o (iV op) 0 0 1] ?_);cases X:((op:Int) != (8:Int))
     .
      have zv:=aW X;refine lB 42 X (lL a ac (lG 44 ?_));refine lG 45 (lG 46 (lL a [.v qF,.c,.v (qP l 1),.o (iV n) 0 1 1] ?_));cases V:(decide ((n:Int)<(-12:Int)))
      .
       have zw:=oF V;refine lB 51 V (lL a [.v qF,.c,.v (qP l 1),.o (iV n) 0 1 1] ?_);cases W:(decide ((12:Int)<(n:Int)))
       .
        have zx:=oF W;refine lB 56 W (lL a [.v qF] (lD ?_));intro u j;exact ⟨_,⟨false,U,rfl,a.to _ _,(fun e=>absurd e kD),(fun _=>by omega)⟩,j.to _ kR⟩
       have zx:=oT W;refine lB 56 W (lL a [.v qT] (lD ?_));intro u j;exact ⟨_,⟨true,U,rfl,a.to _ _,(fun _=>by omega),(fun e=>absurd e kD)⟩,j.to _ kR⟩
      have zw:=oT V;refine lB 51 V (lL a [.v qT,.c] (lG 54 ?_));refine lG 55 (lG 56 (lL a [.v qT] (lD ?_)));intro u j;exact ⟨_,⟨true,U,rfl,a.to _ _,(fun _=>by omega),(fun e=>absurd e kD)⟩,j.to _ kR⟩
     have zv:=aK X;refine lB 42 X (lL a [.c,.v (qP l 1),.o (iV n) 0 1 1] ?_);cases Z:((n:Int) != (0:Int))
     .
      have zA:=aW Z;refine lB 46 Z (lL a [.v qF,.c,.v (qP l 1),.o (iV n) 0 1 1] ?_);have ⟨zJ,bm⟩:=dF (p:=(n:Int)<(-12:Int)) oM;refine lB 51 zJ (lL a [.v qF,.c,.v (qP l 1),.o (iV n) 0 1 1] ?_);have ⟨zK,bl⟩:=dF (p:=(12:Int)<(n:Int)) oM;refine lB 56 zK (lL a [.v qF] (lD ?_));intro u j;exact ⟨_,⟨false,U,rfl,a.to _ _,(fun e=>absurd e kD),(fun _=>by omega)⟩,j.to _ kR⟩
     have zA:=aK Z;refine lB 46 Z (lL a [.v qT,.c] (lG 49 ?_));refine lG 50 (lG 51 (lL a [.v qT,.c] (lG 54 ?_)));refine lG 55 (lG 56 (lL a [.v qT] (lD ?_)));intro u j;exact ⟨_,⟨true,U,rfl,a.to _ _,(fun _=>by omega),(fun e=>absurd e kD)⟩,j.to _ kR⟩
    rintro _ _ ⟨J,zM,rfl,a,zL,I⟩;cases zk:(J)
    .
     try rw[zk] at a
     try rw[zk]
     refine dC (cK (cQ (aa a [.v (qP l 8),.o (qS A ps.length c) 0 8 1,.v (nV ps.length),.c] (aZ ?_))));refine bH _ (CG.loop (fun μ_ Γ B=>∃ (k:Nat)(e:Hp),μ_=ps.length-k/\Γ=[(59,qS A ps.length c),(60,nV ps.length),(61,nV k)]/\SS w h B e [⟨l,52,dh ⟨op,n,q,s,A,ps.length,c⟩⟩] [] [fun e=>Tms d e ps ks,fun e=>SlO 9 dh cC e A ps]/\k<=ps.length/\(∀ i,i<k->WfT (fun s=>isb s=true) d (ks.getD i cZ))) _ ⟨0,zM,rfl,rfl,a.to _ _,Mv _,(fun i hi=>absurd hi (NK i))⟩ ?_);rintro _ _ _ ⟨k,_,bn,rfl,a,hk,Q⟩;refine aD ?_;cases zl:(decide ((k:Int)<(ps.length:Int)))
     .
      have zB:=oF zl;refine lB 62 zl (ah (dC (CG.exit ?_)))
      show CG _ _ _ _ _ _ _ _
      exact aa a ac (ae a [] qT (Fx ⟨by omega,H aM,O aM,I aM⟩ hq (fun i hi=>Q i oM)))
     have zB:=oT zl;refine lB 62 zl (ah (cn (cK (cQ (kZ (aD (lX 63 A ps.length c 9 (k:Nat) k ((a.f.2.1).ok oM) ?_)))))));refine lH 64 (bU (ps.getD k cC)) a ((a.f.2.1).el k oM) (lA 4 52 a7 a (fun b63 _ _ a=>lP 0 0 (dh (ps.getD k cC)) a (fun _ a=>aG (lL a [.o (bU (ps.getD k cC)) 0 0 9] (lC 66 a (ih (ps.getD k cC) (ks.getD k cZ) _ _ a.g ((a.f.1).at_ k oM) (hW k oM)) ?_)))));rintro _ _ zN a ⟨bk,rfl,C⟩;cases br:(bk)
     .
      exact lL a [.v qT] (ak (aa a ac (ae a [] qF (FC (k:=k) oM aM C))))
     refine lL a [.v qF] (ag (cK (kQ (bv 68 ((k:Nat)+1) (k+1) ?_))));refine lL a ac (lD ?_);intro u j;replace a:=a.drop 1 0;refine ⟨_,_,?_,⟨k+1,zN,rfl,rfl,a.to _ _,oM,(fun i hi=>by rcases NL.1 hi with e|rfl;exact Q i e;exact C.1 aM)⟩,j.to _ kR⟩
     omega
    try rw[zk] at a
    try rw[zk]
    exact cn (aa a ac (ae a [] qF (pR (fun e=>zL aM e.2.2.2))))
   try rw[ze] at a
   try rw[ze]
   exact cn (aa a ac (ae a [] qF (pR (fun e=>zI aM e.2.2.1))))
  try rw[Y] at a
  try rw[Y]
  exact cn (aa a ac (ae a [] qF (pR (fun e=>zH aM e.2.1))))
 have M:=aK y;exact eB 6 11 y (bS a (fun _ _ a=>tN (cn (aa a ac (ae a [] qF (pR (fun e=>absurd e.1 oM)))))))
theorem pS (isb:ByteArray->Bool)(sm:ByteArray->Prop)(nF:∀ s,sm s->∀ (w:World) (h:Hp),G w h->Calls Tryz.prog 40 #[.string s] w (Ret w h (fun v _=>∃ b,v=.bool b/\b=isb s))):∀ (d:Nat) (p:PTm) (t:Tm) (w:World) (h:Hp),G w h->TmH d h p t->n3 sm d t ->  Calls Tryz.prog 68 #[bU p] w (Ret w h (fun v _=>∃ f,v=.bool f/\(f=true↔WfT (fun s=>isb s=true) d t)))
  | 0,_,_,_,_,_,x,_=>x.elim
  | d+1,p,t,w,h,g,x,wf=>by
    obtain ⟨op,n,q,s,A,c,ps,ks,rfl,rfl,u,o,a⟩:=x.open;obtain ⟨e,l,y,i,z,B⟩:=wf;have j:ks.length<=3:=e;exact AQ isb sm nF d (fun p t w h=>pS isb sm nF d p t w h) op n q s A c ps ks u (by have:=a.len;omega) e l y i z B w h g o a
theorem Bb  (ok:ByteArray->Prop)(d:Nat)(Z:∀ (p:PTm) (t:Tm) (w:World) (h:Hp),G w h->TmH d h p t->WfT ok d t ->  Calls Tryz.prog 69 #[bU p,iV 1001] w (Ret w h (fun v _=>v=iV ((min (bI d t) 1001:Nat):Int))))(op n:Int)(q:Rat)(s:ByteArray)(A:Z9)(c:Nat)(ps:List PTm)(ks:List Tm)(hc:ps.length<=c)(hlp:ps.length<=2)(O:gG op=(ks.length:Nat))(hq0:op≠1->q=0)(hq:LQ 3000 q)(Q:op=2->ok s)(X:op≠2->s=⟨#[]⟩)(hn0:op≠8->n=0)(hn1 : -12<=n)(hn2:n<=12)(hW:∀ i,i<ks.length->WfT ok d (ks.getD i cZ))(w:World)(h:Hp)(g:G w h)(Y:SlO 9 dh cC h A ps)(M:Tms d h ps ks):CV 69 #[bU ⟨op,n,q,s,A,ps.length,c⟩,iV 1001] w h (iV ((min (bI (d+1) (.mk op n q s ks)) 1001:Nat):Int)):=by
 have a:=(((sS g).aS Y).add (K:=fun B=>Tms d B ps ks) M);have hln:=(a.f.1).len;refine go Tryz.func69 [(0,bU ⟨op,n,q,s,A,ps.length,c⟩),(1,iV 1001)] rfl (aD (lA 2 52 (dh ⟨op,n,q,s,A,ps.length,c⟩) a (fun C w2 S a=>lL a ac (ah (aa a [.v (qP C 8),.o (qS A ps.length c) 0 8 1,.v (nV ps.length)] ?_)))));cases u:((ps.length:Int) == (0:Int))
 .
  have D:=aj u;refine lB 11 u (ag (cK (aa a ac (ah (aa a [.v (qP C 8),.o (qS A ps.length c) 0 8 1,.v (nV ps.length),.c] (aZ ?_))))));refine bH _ (CG.loop (fun L Γ W=>∃ (k:Nat)(sm:Nat)(B:Hp),L=ps.length-k/\Γ=[(1,iV 1001),(2,pB C),(15,qS A ps.length c),(16,nV ps.length),(17,nV k),(5,nV sm)]/\SS w h W B [⟨C,52,dh ⟨op,n,q,s,A,ps.length,c⟩⟩] [] [fun B=>Tms d B ps ks,fun B=>SlO 9 dh cC B A ps]/\k<=ps.length/\sm=min (dQ (fun i=>bI d (ks.getD i cZ)) k) 1001) _ ⟨0,0,S,rfl,rfl,a.to _ _,Mv _,rfl⟩ ?_);rintro _ _ w5 ⟨k,sm,h6,V,rfl,a,hk,z⟩;have hs1:(dQ (fun i=>bI d (ks.getD i cZ)) (k+1))=(dQ (fun i=>bI d (ks.getD i cZ)) k)+bI d (ks.getD k cZ):=rfl;refine aD ?_;cases y:(decide ((k:Int)<(ps.length:Int)))
  .
   have F:=oF y;refine lB 18 y (ah (dC (CG.exit ?_)))
   show CG _ _ _ _ _ _ _ _
   refine cQ (aa a [.v (pB C),.o (iV op) 0 0 1] (aZ (aD ?_)));cases x:((op:Int) == (11:Int))
   .
    have H:=aj x;refine lB 36 x (lL a ac (ag (aD ?_)));cases I:((op:Int) == (8:Int))
    .
     have zc:=aj I;refine lB 40 I (lL a ac (ag (cK (aa a ax (lV 48 (iV (min (sm:Int) (1001:Int))) ?_ (hr:=aI (n:=(if (1001:Int)<(sm:Int) then (1001:Int) else (sm:Int))) kR (by simp only[fH])))))));refine lL a ac (lN (kX ?_));have l:k=ks.length:=by omega
     have e:=jY (d:=d) (op:=op) (n:=n) (q:=q) (s:=s) (ks:=ks) oM;have j:=mK (s:=(dQ (fun i=>bI d (ks.getD i cZ)) k)) (gc op n);rw[<-l] at e
     rw[<-e,<-z] at j
     exact a.ret [] (iV (min (sm:Int) (1001:Int))) (congrArg (Value.int .i64) (by rw[<-j];unfold gL;first|(rw[if_pos oM];(repeat' split)<;>omega)|(rw[if_neg oM,if_pos oM,H1];(repeat' split)<;>omega)|(rw[if_neg oM,if_neg oM];(repeat' split)<;>omega)))
    have zc:=eq_of_beq I;refine lB 40 I (lL a ac (ak (kQ (lL a [.c,.v (qP C 1),.o (iV n) 0 1 1] (aq 44 a (FJ n oM oM _ _ a.g) (fun _ _ a=>?_))))));have htm:bK n<=12/\1<=bK n:=by unfold bK;split<;>omega
    have hmb:sm*bK n<=1001*12:=Ma oM oM;refine lI 45 ((sm:Nat)*(bK n:Nat)) (lL a ac (aG (lL a ax (lV 48 (iV (min ((sm:Nat)*(bK n:Nat):Int) (1001:Int))) ?_ (hr:=aI (n:=(if (1001:Int)<((sm:Nat)*(bK n:Nat):Int) then (1001:Int) else ((sm:Nat)*(bK n:Nat):Int))) kR (by simp only[fH]))))));refine lL a ac (lN (kX ?_));have l:k=ks.length:=by omega
    have e:=jY (d:=d) (op:=op) (n:=n) (q:=q) (s:=s) (ks:=ks) oM;have j:=mK (s:=(dQ (fun i=>bI d (ks.getD i cZ)) k)) (gc op n);rw[<-l] at e
    rw[<-e,<-z] at j
    exact a.ret [] (iV (min ((sm:Nat)*(bK n:Nat):Int) (1001:Int))) (congrArg (Value.int .i64) (by rw[<-j];unfold gL;first|(rw[if_pos oM];(repeat' split)<;>omega)|(rw[if_neg oM,if_pos oM,H1];(repeat' split)<;>omega)|(rw[if_neg oM,if_neg oM];(repeat' split)<;>omega)))
   have H:=eq_of_beq x;refine lB 36 x (lL a ac (ak (kQ (lL a ac (lI 38 ((sm:Nat)*2) ?_)))));refine lL a ac (aG (lL a ax (lV 48 (iV (min ((sm:Nat)*2:Int) (1001:Int))) ?_ (hr:=aI (n:=(if (1001:Int)<((sm:Nat)*2:Int) then (1001:Int) else ((sm:Nat)*2:Int))) kR (by simp only[fH])))));refine lL a ac (lN (kX ?_));have l:k=ks.length:=by omega
   have e:=jY (d:=d) (op:=op) (n:=n) (q:=q) (s:=s) (ks:=ks) oM;have j:=mK (s:=(dQ (fun i=>bI d (ks.getD i cZ)) k)) (gc op n);rw[<-l] at e
   rw[<-e,<-z] at j
   exact a.ret [] (iV (min ((sm:Nat)*2:Int) (1001:Int))) (congrArg (Value.int .i64) (by rw[<-j];unfold gL;first|(rw[if_pos oM];(repeat' split)<;>omega)|(rw[if_neg oM,if_pos oM,H1];(repeat' split)<;>omega)|(rw[if_neg oM,if_neg oM];(repeat' split)<;>omega)))
  have F:=oT y;refine lB 18 y (ah (cn (cK (cQ (kZ (aD (lX 19 A ps.length c 9 (k:Nat) k ((a.f.2.1).ok oM) ?_)))))));refine lH 20 (bU (ps.getD k cC)) a ((a.f.2.1).el k oM) (lA 7 52 a7 a (fun U _ _ a=>lP 0 0 (dh (ps.getD k cC)) a (fun _ a=>aG (lL a [.c,.o (bU (ps.getD k cC)) 0 0 9,.c] (aq 24 a (Z (ps.getD k cC) (ks.getD k cZ) _ _ a.g ((a.f.1).at_ k oM) (hW k oM)) (fun _ ze a=>lI 25 ((sm:Nat)+((min (bI d (ks.getD k cZ)) 1001:Nat):Int)) (lL a ac (lV 27 (iV ((min (dQ (fun i=>bI d (ks.getD i cZ)) (k+1)) 1001:Nat):Int)) ?_ (hr:=aI (n:=if (1001:Int)<((sm:Nat)+((min (bI d (ks.getD k cZ)) 1001:Nat):Int)) then (1001:Int) else ((sm:Nat)+((min (bI d (ks.getD k cZ)) 1001:Nat):Int))) kR (by split<;>omega))))))))));refine lL a ac (aG (lL a ax ?_));cases J:((((min (dQ (fun i=>bI d (ks.getD i cZ)) (k+1)) 1001:Nat):Int):Int) == (1001:Int))
  .
   have zd:=aj J;refine lB 30 J (ag (cK (kQ (bv 32 ((k:Nat)+1) (k+1) ?_))));refine lL a ac (lD ?_);intro a_ ka;replace a:=a.drop 1 0;refine ⟨_,_,?_,⟨k+1,(min (dQ (fun i=>bI d (ks.getD i cZ)) (k+1)) 1001),ze,rfl,rfl,a.to _ _,oM,rfl⟩,ka.to _ kR⟩
   omega
  have zd:=eq_of_beq J;exact lB 30 J (ak (aa a ax (ae a [] (iV 1001) (congrArg (Value.int .i64) (by have h1_:=nO (fun i=>bI d (ks.getD i cZ)) (show k+1<=ks.length by omega);have h2_:=sF (d:=d) (op:=op) (n:=n) (q:=q) (s:=s) (ks:=ks) oM;omega)))))
 have D:=eq_of_beq u;exact lB 11 u (ak (aa a [.c,.v (iV 1),.c] (ae a [] (iV 1) (congrArg (Value.int .i64) (by rw[Ce oM];first|rfl|omega)))))
theorem qA (ok:ByteArray->Prop):∀ (d:Nat) (p:PTm) (t:Tm) (w:World) (h:Hp),G w h->TmH d h p t->WfT ok d t ->  Calls Tryz.prog 69 #[bU p,iV 1001] w (Ret w h (fun v _=>v=iV ((min (bI d t) 1001:Nat):Int)))
  | 0,_,_,_,_,_,x,_=>x.elim
  | d + 1,p,t,w,h,g,x,wf=>by
    obtain ⟨op,n,q,s,A,c,ps,ks,rfl,rfl,j,i,a⟩:=x.open;obtain ⟨w1,w2,w3,l,u,z,o,y,f⟩:=wf
    have e:ps.length<=2:=by
      have B:gG op=ks.length:=w1;have:=aE op;have:=a.len
      omega
    exact Bb ok d (fun p t w h=>qA ok d p t w h) op n q s A c ps ks j e w1 w2 w3 l u z o y f w h g i a
structure PLt where
  s:ByteArray
  q:Rat
def I1:PLt:=⟨⟨#[]⟩,0⟩
structure RLt where
  s:ByteArray
  neg:Bool
  zA:Z9
  zn:Nat
  zc:Nat
  dA:Z9
  dn:Nat
  dc:Nat
def RLt.t (r:RLt):RT:=(r.neg,.slice r.zA r.zn r.zc,.slice r.dA r.dn r.dc)
def JO:RLt:=⟨⟨#[]⟩,false,none,0,0,none,0,0⟩
structure RLs (h:Hp) (rs:List RLt) (ps:List PLt):Prop where
  len:rs.length=ps.length
  at_:∀ i,i<ps.length->(rs.getD i JO).s=(ps.getD i I1).s/\RZ h (rs.getD i JO).t (ps.getD i I1).q
theorem jM {ks:List Tm}{op:Int}(h:gG op=ks.length):ks=[]\/(∃ t,ks=[t])\/∃ t u,ks=[t,u]:=by
 have:=aE op
 rcases ks with _|⟨t,_|⟨u,_|⟨v,l⟩⟩⟩
 ·exact .inl rfl
 ·exact .inr (.inl ⟨t,rfl⟩)
 ·exact .inr (.inr ⟨t,u,rfl⟩)
 ·simp only[tv] at h;omega
theorem qQ {d m:Nat}{op n:Int}{q:Rat}{s:ByteArray}{a:Tm}(h:bI (d+1) (.mk op n q s [a])<=m):bI d a<=m:=by
 have c:=sF (d:=d) (op:=op) (n:=n) (q:=q) (s:=s) (ks:=[a]) (NM _);have e:dQ (fun i=>bI d (([a]:List Tm).getD i cZ)) ([a]:List Tm).length=0+bI d a:=rfl
 omega
theorem pO {d m:Nat}{op n:Int}{q:Rat}{s:ByteArray}{c a:Tm}(h:bI (d+1) (.mk op n q s [c,a])<=m):bI d c<=m/\bI d a<=m:=by
 have f:=sF (d:=d) (op:=op) (n:=n) (q:=q) (s:=s) (ks:=[c,a]) (NM _);have e:dQ (fun i=>bI d (([c,a]:List Tm).getD i cZ)) ([c,a]:List Tm).length=0+bI d c+bI d a:=rfl
 omega
theorem o8 {α:Type}:∀ {l:List α},l.length=2->∃ a b,l=[a,b]
 | [a,b],_=>⟨a,b,rfl⟩
 | [],h=>by simp only[NN] at h;omega
 | [_],h=>by simp only[tv,NN] at h;omega
 | _::_::_::_,h=>by simp only[tv] at h;omega
def K2 (m:Nat)(op n:Int)(x y:Int × Rat × List Rat):Int × Rat × List Rat :=
  if x.1≠0 then (x.1,0,[]) else if y.1≠0 then (y.1,0,[]) else if ni op n x.2.1 y.2.1≠0 then (ni op n x.2.1 y.2.1,0,[])
  else (0,La op n 0 x.2.1 y.2.1,(ov m).map fun i=>Ky op n x.2.1 y.2.1*x.2.2.getD i 0+K0 op x.2.1 y.2.1*y.2.2.getD i 0)
def Hz (ix:ByteArray->Nat)(at_:List Rat):Nat->Tm->Int × Rat × List Rat
  | 0,_=>(0,0,[])
  | d+1,t =>
    if t.op=1 then (0,t.q,zZ at_.length 0)
    else if t.op=2 then (0,at_.getD (ix t.s) 0,ma at_.length (ix t.s))
    else K2 at_.length t.op t.n (if 0<t.ks.length then Hz ix at_ d (t.ks.getD 0 cZ) else (0,0,[])) (if 1<t.ks.length then Hz ix at_ d (t.ks.getD 1 cZ) else (0,0,[]))
structure Whole (lo:Nat) (h:Hp) (b:Nat) (ty:TypeId) (vs:List Value):Prop where
  lo:lo<=b
  ty0:(ty == 0)=false
  at_:h[b]?=some (.cells vs.toArray ty (0,0))
structure Poked (h h':Hp) (b:Nat):Prop where
  oth:∀ c,c≠b->c<h.size->h'[c]?=h[c]?
section laws
variable {M:Ms}{P:Program}{n:Nat}{N R:Po}{X:Nat->Po}{ops:Array Oper}{k k0:Nat}{hr:Hp}{AL:List Al}{L:Array Bool}{Γ:cl}{w:World}{h:Hp}{w0:World}{h0:Hp}{B:List Bx}{Rs:List Rw}{F:List (Hp->Prop)}
theorem JT (t:Nat)(ty:TypeId)(vs:List Value)(s:SS w0 h0 w h B Rs F)(H:∀ b w' a,Up w h w' a->h.size<=b->SS w0 h0 w' a (⟨b,ty,vs⟩::B) Rs F->LG P n N R X ops (k+1) ((t,.pointer (some ⟨b,0,none⟩))::Γ) w')(d:cL ops Γ k t n=true:=by kernel_rfl)
  (hr:(execOp (ev Γ) (am ops k)).run P w=.ok (.value (.pointer (some ⟨w.heap.size,0,none⟩))) (w.alloc (.cells vs.toArray ty (0,0))):=by kernel_rfl):LG P n N R X ops k Γ w :=
 LG.var t ty vs s.st (bM d).1 (bM d).2 hr (fun b w' a c u e=>H b w' a u c (s.new u c e))
theorem UpM.put2 {M2:List Nat}{wa w':World}{ha:Hp}{b:Nat}(u:UpM M2 wa ha w h)(p:Put b w w')(f:ha.size<=b)(ga:G wa ha)(g:G w' h):UpM M2 wa ha w' h :=
 ⟨⟨p.os.trans u.mo.os,p.tape.trans u.mo.tape,p.output.trans u.mo.output,by rw[p.size];exact u.mo.size,fun c d a=>(p.blk c (fun e=>by subst e;have:=ga.size;omega)).trans (u.mo.blk c d a)⟩,u.gr,g⟩
end laws
theorem SS.takeL {w0:World}{h0:Hp}{w:World}{h:Hp}{B:List Bx}{F:List (Hp->Prop)}(s:SS w0 h0 w h B [] F){b:Nat}{ty:TypeId}{vs:List Value}(p:h0.size<=b)(f:h[b]?=some (.cells vs.toArray ty (0,0)))(i:(ty == 0)=false:=by kernel_rfl) :
  ∃ l,SS w0 h0 w l (⟨b,ty,vs⟩::B) [] []:=by
 have d:=aR f
 have o:h[b]?≠some bg:=fun e=>by
  rw[e] at f
  injection f with f
  unfold bg at f
  injection f with h1 h2 h3
  rw[<-h2] at i
  cases i
 have C:G w (h.setIfInBounds b bg):=⟨by simp;exact s.g.size,fun c=>by
  by_cases e:b=c
  ·subst e;right;rw[As d]
  ·rw[hP e];exact s.g.blk c⟩
 have y:Gr h0 (h.setIfInBounds b bg):=⟨by simp;exact s.st.up.gr.size,fun c j=>by rw[hP oM];exact s.st.up.gr.blk c j⟩
 have u:Own w b ty vs:=by
  rcases s.g.blk b with e|e
  ·exact e.symm.trans f
  ·exact absurd e o
 refine ⟨h.setIfInBounds b bg,s.g0,⟨⟨s.st.up.ext,y,C⟩,?_,?_,?_,?_⟩,fun _ a=>(by cases a),.nil,fun _ a=>(by cases a),trivial⟩
 ·intro x a
  rcases gs.1 a with rfl|a
  ·exact u
  ·exact s.st.own x a
 ·intro x a
  rcases gs.1 a with rfl|a
  ·exact As d
  ·by_cases e:b=x.b
   ·rw[<-e];exact As d
   ·rw[hP e];exact s.st.jk x a
 ·intro x a
  rcases gs.1 a with rfl|a
  ·exact p
  ·exact s.st.lo x a
 ·show (b::B.map (·.b)).Nodup
  refine List.nodup_cons.2 ⟨fun z=>?_,s.st.nd⟩;obtain ⟨x,a,e⟩:=gg.1 z;exact o (e▸s.st.jk x a)
abbrev wo (q:Rat)(A:Z9)(m c:Nat):Value:=.agg #[.bool (af q.num),.int .u64 (lo (ab q.num)),.string (hi (ab q.num)),.int .u64 (lo (qd q)),.string (hi (qd q)),.slice A m c]
def eE (f:Nat->Rat)(m k:Nat):List Rat:=(ov m).map fun i=>if i<k then f i else 0
theorem kU (f:Nat->Rat)(m:Nat):zZ m (0:Rat)=eE f m 0:=by
 unfold eE
 refine nk (by simp) fun i=>?_
 by_cases hi:i<m
 ·simp[hi]
 ·rw[eL (by simp;omega),eL (by simp;omega)]
theorem i6 {f:Nat->Rat}{m k:Nat}(hk:k<m):(eE f m k).set k (f k)=eE f m (k+1):=by
 unfold eE
 refine nk (by simp) fun i=>?_
 by_cases hi:i<m
 ·rw[cV (by simpa using hk)]
  by_cases e:i=k
  ·subst e;simp[hi]
  ·rw[if_neg e];simp[hi]
   by_cases h2:i<k
   ·rw[if_pos h2,if_pos oM]
   ·rw[if_neg h2,if_neg oM]
 ·rw[eL (by simp;omega),eL (by simp;omega)]
theorem Gv (f:Nat->Rat)(m:Nat):((ov m).map fun i=>f i).length=m:=by simp
theorem B4 (m i:Nat):(ma m i).length=m:=by unfold ma;simp
theorem jd (f:Nat->Rat)(m:Nat):eE f m m=(ov m).map fun i=>f i:=by
 unfold eE
 refine NO fun i hi=>?_
 rw[if_pos (List.mem_range.1 hi)]
theorem tM (i:Z9)(m j:Nat)(I:m<=1000)(q:Rat)(hk:Hp)(w:World)(h:Hp)(g:G w h)(hz:hk.size<=h.size):CR 304 #[.agg #[.slice i m j],qv q] w h (fun v h1=>∃ y,v=wo q (sB y) m m/\Nw hk.size h1 y 49 ((zZ m (0:Rat)).flatMap qc)):=by
 have a:=sS g;refine go Tryz.func304 [(0,.agg #[qS i m j]),(1,qv q)] rfl (aD (lA 2 127 ([qS i m j]) a (fun x w2 F a=>lA 3 49 (qc q) a (fun B J D a=>lA 4 80 ([qF,uV 0,eS,uV 0,eS,sZ]) a (fun C K H a=>ah (cR 6 [] mixed a ar ?_))))));refine eO 0 5 [(1,0,5)] (qv q) a (eV 1 6 (pB x) (eO 2 7 [(2,0,1)] (qS i m j) a (eV 3 8 (nV m) (eK 4 9 49 m 5 56 a8 qc 0 a (fun e _ _ a=>?_)))));have z:(zZ m 0).length=m:=by simp
 refine eV 5 10 (qY q (sB e) m m) (bS a (fun _ _ a=>tP 6 1 0 (qZ q (sB e) m m) a (fun _ a=>tN (kX ?_))));obtain ⟨_,a,u,p,c⟩:=a.pub 0;replace a:=(a.to [⟨C,80,qZ q (sB e) m m⟩,⟨B,49,qc q⟩,⟨x,127,[qS i m j]⟩] []).aS (SlO.of_flat (sz:=5) (f:=qc) (d:=0) (b:=e) (o:=0) (l:=zZ m 0) (fun _=>rfl) u);exact a.ret [(0,0,6)] (qY q (sB e) m m) (⟨_,rfl,eb hz p,by decide,c⟩)
theorem J6 (x:Z9)(m y:Nat)(hm:m<=1000)(K D:Nat)(hK1:1<=K)(hKD:K<=1000000)(hD:D<=20000000)(a:Rat)(ga:List Rat)(p:Z9)(z:Nat)(hla:ga.length=m)(ha:LQ K a)(U:∀ i,LQ D (ga.getD i 0))(b:Rat)(gb:List Rat)(u:Z9)(cb:Nat)(hlb:gb.length=m)(V:LQ K b)(Q:∀ i,LQ D (gb.getD i 0))(w:World)(h:Hp)(g:G w h)(S:Sq p ga h)(M:Sq u gb h)(tb:Tab h):CR 303 #[.agg #[.slice x m y],qY a p ga.length z,qY b u gb.length cb] w h (fun v h1=>∃ bk,v=wo (a*b) (sB bk) ((ov m).map fun i=>ga.getD i 0*b+a*gb.getD i 0).length m/\Sq (sB bk) ((ov m).map fun i=>ga.getD i 0*b+a*gb.getD i 0) h1):=by
 have e:=((((sS g).aS S).aS M).add (K:=fun F=>Tab F) tb);refine go Tryz.func303 [(0,.agg #[qS x m y]),(1,qY a p ga.length z),(2,qY b u gb.length cb)] rfl (aD (lA 3 127 ([qS x m y]) e (fun J w2 h3 e=>lA 4 80 (qZ a p ga.length z) e (fun B w5 h6 e=>lA 5 80 (qZ b u gb.length cb) e (fun C w8 h9 e=>lA 6 80 ([qF,uV 0,eS,uV 0,eS,sZ]) e (fun I _ _ e=>ah ?_))))));have hsr:=e;refine cR 8 [⟨7,7,.cells (MR [qF,uV 0,eS,uV 0,eS,sZ]) 80 (0,0)⟩] mixed e (bO (fD kR (fun _ _=>by kernel_rfl)) ar) (eO 0 9 [(3,0,1)] (.agg #[qS x m y]) e (eV 1 10 (pB B) (eO 2 11 [(2,0,5)] (qv a) e (eV 3 12 (pB C) (eO 4 13 [(1,0,5)] (qv b) e ?_)))));have bf:=LQ.mul ha V;refine au 5 14 e (fun _ _ e=>qx a b (LQ.mono ha oM) (LQ.mono V oM) _ _ e.g e.f.1) (fun _ _ e=>eC 6 15 e (fun _ _ e=>tM x m y hm (a*b) h _ _ e.g e.st.sz) ?_);rintro _ _ _ _ _ e ⟨j,rfl,X⟩;replace e:=(e.add (K:=fun F=>Nw h.size F j 49 ((zZ m (0:Rat)).flatMap qc)) X);refine iO [] hsr e 80 [qF,uV 0,eS,uV 0,eS,sZ] (fun _ _ H e=>tP 8 0 0 (qZ (a*b) (sB j) m m) e (fun _ e=>tN (cQ (aD ?_))));obtain ⟨zi,e⟩:=e.takeL (e.f.1).1 (e.f.1).2.2;replace e:=e.aS (S.gw e.st.up.gr.gw);replace e:=e.aS (M.gw e.st.up.gr.gw);replace e:=e.add (K:=fun F=>Tab F) (tb.gw e.st.up.gr.gw);replace e:=e.to [⟨j,49,((zZ m 0)).flatMap qc⟩,⟨H,80,qZ (a*b) (sB j) m m⟩,⟨I,80,[qF,uV 0,eS,uV 0,eS,sZ]⟩,⟨C,80,qZ b u gb.length cb⟩,⟨B,80,qZ a p ga.length z⟩,⟨J,127,[qS x m y]⟩] [];refine lL e [.v (qP H 5),.o (qS (sB j) m m) 1 5 1,.v (nV m),.c] (aZ ?_);refine bH _ (CG.loop (fun μ_ Γ w_=>∃ (k:Nat)(L:List Rat)(F:Hp),μ_=m-k/\Γ=[(4,pB B),(5,pB C),(6,pB I),(7,pB H),(18,nV m),(19,nV k)]/\SS w h w_ F [⟨j,49,(L).flatMap qc⟩,⟨H,80,qZ (a*b) (sB j) m m⟩,⟨I,80,[qF,uV 0,eS,uV 0,eS,sZ]⟩,⟨C,80,qZ b u gb.length cb⟩,⟨B,80,qZ a p ga.length z⟩,⟨J,127,[qS x m y]⟩] [] [fun F=>Tab F,Sq u gb,Sq p ga]/\k<=m/\L.length=m/\L=eE (fun i=>ga.getD i 0*b+a*gb.getD i 0) m k) _ ⟨0,zZ m 0,zi,rfl,rfl,e.to _ _,Mv _,NF,(kU _ _)⟩ ?_);rintro _ _ _ ⟨k,L,_,bm,rfl,e,hk,Z,hL⟩;refine aD ?_;cases W:(decide ((k:Int)<(m:Int)))
 .
  have zf:=oF W;refine lB 20 W (ah (dC (CG.exit ?_)))
  show CG _ _ _ _ _ _ _ _
  refine aa e [.o (qY (a*b) (sB j) m m) 1 0 6] (lP 2 0 (qZ (a*b) (sB j) m m) e (fun _ e=>lN (kX ?_)));have Y:k=m:=by omega
  rw[Y,jd] at hL
  subst hL;replace e:=e.to [⟨j,49,(((ov m).map fun i=>ga.getD i 0*b+a*gb.getD i 0)).flatMap qc⟩,⟨H,80,qZ (a*b) (sB j) m m⟩,⟨I,80,qZ (a*b) (sB j) m m⟩,⟨C,80,qZ b u gb.length cb⟩,⟨B,80,qZ a p ga.length z⟩,⟨J,127,[qS x m y]⟩] [];obtain ⟨_,e,O,bl,bd⟩:=e.pub 0;replace e:=(e.to [⟨H,80,qZ (a*b) (sB j) m m⟩,⟨I,80,qZ (a*b) (sB j) m m⟩,⟨C,80,qZ b u gb.length cb⟩,⟨B,80,qZ a p ga.length z⟩,⟨J,127,[qS x m y]⟩] []).aS (SlO.of_flat (sz:=5) (f:=qc) (d:=0) (b:=j) (o:=0) (l:=((ov m).map fun i=>ga.getD i 0*b+a*gb.getD i 0)) (fun _=>rfl) O);exact e.ret [(1,0,6)] (qY (a*b) (sB j) m m) (⟨_,by rw[Gv],e.f.1⟩)
 have zf:=oT W;refine lB 20 W (ah (cn (cK (cQ (kZ (aa e ax (lN (cR 20 [] mixed e ar ?_))))))));refine eV 0 22 (qP H 5) (eO 1 23 [(1,5,1)] (qS (sB j) m m) e (eV 2 24 (nV k) (eV 3 25 (qP B 5) (eO 4 26 [(4,5,1)] (qS p ga.length z) e (eV 5 27 (nV k) (eX 6 28 p ga.length z 5 (k:Nat) k ((e.f.r.1).ok oM) (eH 7 29 (qv (ga.getD k 0)) e ((e.f.r.1).el k oM) (eV 8 30 (pB C) (eO 9 31 [(3,0,5)] (qv b) e (eV 11 33 (pB B) (eO 12 34 [(4,0,5)] (qv a) e (eV 13 35 (qP C 5) (eO 14 36 [(3,5,1)] (qS u gb.length cb) e (eV 15 37 (nV k) (eX 16 38 u gb.length cb 5 (k:Nat) k ((e.f.2.1).ok oM) (eH 17 39 (qv (gb.getD k 0)) e ((e.f.2.1).el k oM) ?_))))))))))))))));have zd:=LQ.mul (U k) V;refine au 10 32 e (fun _ _ e=>qx (ga.getD k 0) b (LQ.mono (U k) oM) (LQ.mono V oM) _ _ e.g e.f.1) (fun _ _ e=>?_);have ze:=LQ.mul ha (Q k);refine au 18 40 e (fun _ _ e=>qx a (gb.getD k 0) (LQ.mono ha oM) (LQ.mono (Q k) oM) _ _ e.g e.f.1) (fun _ _ e=>?_);have bb:=LQ.add zd ze;refine au 19 41 e (fun _ _ e=>CP ((ga.getD k 0)*b) (a*(gb.getD k 0)) (LQ.mono zd oM) (LQ.mono ze oM) _ _ e.g e.f.1) (fun _ _ e=>bS e (fun _ zj e=>tX 20 42 (sB j) m m 5 (k:Nat) k rfl (tW 21 0 L qc 5 k (((ga.getD k 0)*b)+(a*(gb.getD k 0))) e oM (fun _ e=>?_))));have zg:((L).set k (((ga.getD k 0)*b)+(a*(gb.getD k 0)))).length=m:=by rw[Md];exact Z
 replace e:=e.to [⟨j,49,((L).set k (((ga.getD k 0)*b)+(a*(gb.getD k 0)))).flatMap qc⟩,⟨H,80,qZ (a*b) (sB j) m m⟩,⟨I,80,[qF,uV 0,eS,uV 0,eS,sZ]⟩,⟨C,80,qZ b u gb.length cb⟩,⟨B,80,qZ a p ga.length z⟩,⟨J,127,[qS x m y]⟩] [];refine tN (kQ (bv 43 ((k:Nat)+1) (k+1) ?_));refine lL e ac (lD ?_);intro a_ ka;refine ⟨_,_,?_,⟨k+1,(L).set k (((ga.getD k 0)*b)+(a*(gb.getD k 0))),zj,rfl,rfl,e.to _ _,oM,zg,(by rw[hL];exact i6 oM)⟩,ka.to _ kR⟩
 omega
theorem HG (e:Z9)(m j:Nat)(M:m<=1000)(fs:List Rat)(L:fs.length=m)(i:Nat)(Q:i<m)(w:World)(h:Hp)(g:G w h)(H:Sq e fs h):CR 301 #[.agg #[.slice e m j],nV i] w h (fun v h1=>∃ D,v=wo (fs.getD i 0) (sB D) (ma m i).length m/\Sq (sB D) (ma m i) h1):=by
 have a:=((sS g).aS H);have I:(zZ m (0:Rat)).length=m:=NF;refine go Tryz.func301 [(0,.agg #[qS e m j]),(1,nV i)] rfl (aD (lA 2 127 ([qS e m j]) a (fun p w2 V a=>lA 4 80 ([qF,uV 0,eS,uV 0,eS,sZ]) a (fun y X U a=>ah ?_))));have B:=a;refine cR 8 [⟨7,5,.cells (MR [qF,uV 0,eS,uV 0,eS,sZ]) 80 (0,0)⟩] mixed a (bO (fD kR (fun _ _=>by kernel_rfl)) ar) (eO 0 6 [(1,0,1)] (.agg #[qS e m j]) a (eV 1 7 (pB p) (eO 2 8 [(1,0,1)] (qS e m j) a (eV 3 9 (nV i) (eX 4 10 e m j 5 (i:Nat) i ((a.f.1).ok oM) (eH 5 11 (qv (fs.getD i 0)) a ((a.f.1).el i oM) (eC 6 12 a (fun _ _ a=>tM e m j M (fs.getD i 0) h _ _ a.g a.st.sz) ?_)))))));rintro _ _ _ W S a ⟨c,rfl,z⟩;replace a:=(a.add (K:=fun O=>Nw h.size O c 49 ((zZ m (0:Rat)).flatMap qc)) z);refine iO [] B a 80 [qF,uV 0,eS,uV 0,eS,sZ] (fun Y _ u a=>tP 8 0 0 (qZ (fs.getD i 0) (sB c) m m) a (fun _ a=>tN (cQ ?_)));obtain ⟨_,a⟩:=a.takeL (a.f.1).1 (a.f.1).2.2;replace a:=a.aS (H.gw a.st.up.gr.gw);replace a:=a.to [⟨c,49,((zZ m 0)).flatMap qc⟩,⟨u,80,qZ (fs.getD i 0) (sB c) m m⟩,⟨y,80,[qF,uV 0,eS,uV 0,eS,sZ]⟩,⟨p,127,[qS e m j]⟩] [];refine cR 4 [] mixed a ar (eV 0 13 (qP u 5) (eO 1 14 [(1,5,1)] (qS (sB c) m m) a (eV 2 15 (nV i) (au 3 16 a (fun _ _ a=>BG (1) kD kD _ _ a.g) (fun _ _ a=>bS a (fun _ _ a=>tX 4 17 (sB c) m m 5 (i:Nat) i rfl (tW 5 0 (zZ m 0) qc 5 i ((1:Int):Rat) a oM (fun _ a=>?_))))))));have J:(((zZ m 0)).set i ((1:Int):Rat)).length=m:=by rw[Md];exact NF
 replace a:=a.to [⟨c,49,(((zZ m 0)).set i ((1:Int):Rat)).flatMap qc⟩,⟨u,80,qZ (fs.getD i 0) (sB c) m m⟩,⟨y,80,[qF,uV 0,eS,uV 0,eS,sZ]⟩,⟨p,127,[qS e m j]⟩] [];refine rW (lL a [.o (qY (fs.getD i 0) (sB c) m m) 1 0 6] (lP 2 0 (qZ (fs.getD i 0) (sB c) m m) a (fun _ a=>lN (kX ?_))));replace a:=a.to [⟨c,49,(((zZ m 0)).set i ((1:Int):Rat)).flatMap qc⟩,⟨u,80,qZ (fs.getD i 0) (sB c) m m⟩,⟨y,80,qZ (fs.getD i 0) (sB c) m m⟩,⟨p,127,[qS e m j]⟩] [];obtain ⟨_,a,x,C,F⟩:=a.pub 0;replace a:=(a.to [⟨u,80,qZ (fs.getD i 0) (sB c) m m⟩,⟨y,80,qZ (fs.getD i 0) (sB c) m m⟩,⟨p,127,[qS e m j]⟩] []).aS (SlO.of_flat (sz:=5) (f:=qc) (d:=0) (b:=c) (o:=0) (l:=((zZ m 0)).set i ((1:Int):Rat)) (fun _=>rfl) x);exact a.ret [(1,0,6)] (qY (fs.getD i 0) (sB c) m m) (⟨_,by rw[B4],a.f.1⟩)
theorem uH {f:Nat->Rat}{m i:Nat}(h:i<m):((ov m).map fun i=>f i).getD i 0=f i:=by simp[h]
theorem sR {f:Nat->Rat}{m i:Nat}(h:m<=i):((ov m).map fun i=>f i).getD i 0=0:=eL (by simp;exact h)
theorem AT (i:Nat):([]:List Rat).getD i 0=0:=by simp
theorem rt (m i:Nat):(zZ m (0:Rat)).getD i 0=0:=Ci i
section
variable {m:Nat}{op n:Int}{a b:Rat}{ga gb:List Rat}{f:Nat->Rat}
theorem eu (h1:op=6->b≠0)(e:op=8->n<0->a≠0)(f:(op=9\/op=10)->a≠0)(h:(op=12\/op=13)->a≠b):ni op n a b=0:=by
 unfold ni
 rw[if_pos ⟨h1,e⟩,if_neg];rintro (⟨c,d⟩|⟨c,d⟩)
 ·exact f c d
 ·exact h c d
theorem Fo (h:(op=6/\b=0)\/(op=8/\n<0/\a=0)):ni op n a b=6:=if_neg (fun k=>by
 rcases h with ⟨h1,h2⟩|⟨h1,h2,h3⟩
 ·exact k.1 h1 h2
 ·exact k.2 h1 h2 h3)
theorem Fs (h:(op=9\/op=10)/\a=0\/(op=12\/op=13)/\a=b):ni op n a b=7:=by
 unfold ni
 rw[if_pos ⟨fun e=>by omega,fun e=>by omega⟩,if_pos (show Bj op a b from h)]
end
section
variable {m:Nat}{n:Int}{a:Rat}{ga:List Rat}
theorem Dk {a:Rat}(h:a.num.sign=0):a=0:=Nv.1 (NI.1 h)
theorem ip {a:Rat}(h:a.num.sign≠0):a≠0:=fun e=>h (by rw[e];rfl)
theorem Iq {a:Rat}(h:a≠0):a.num≠0:=fun e=>h (Nv.1 e)
theorem KG {a:Rat}(h:0<a.num.sign):a.num.sign=1:=by have:=NP a.num;omega
theorem EU {a:Rat}(h:a.num.sign<0):a.num.sign = -1:=by have:=NP a.num;omega
end
def ee (a b:List Rat)(i:Nat):Nat->Rat
  | 0=>0
  | j+1=>ee a b i j+a.getD j 0*b.getD (i-j) 0
def bw (m:Nat)(q:Rat):List Rat:=(zZ m (0:Rat)).set 0 q
def iD (m:Nat)(x y:Rat):List Rat:=if 1<m then (bw m x).set 1 y else bw m x
def dj (m:Nat)(a b:List Rat):List Rat:=(ov m).map fun i=>ee a b i (i+1)
def gE (a:List Rat)(m:Nat):Nat->List Rat
  | 0=>zZ m 0
  | i+1=>(gE a m i).set i (if i=0 then ((1:Int):Rat)/a.getD 0 0 else -(ee (gE a m i) a i i*(gE a m i).getD 0 0))
def bF (m:Nat)(a:List Rat):List Rat:=gE a m m
theorem bZ (m:Nat)(q:Rat):(bw m q).length=m:=by simp[bw]
theorem mP (m:Nat)(x y:Rat):(iD m x y).length=m:=by unfold iD;split<;>simp[bw]
theorem fw (m:Nat)(a b:List Rat):(dj m a b).length=m:=by simp[dj]
theorem fA (a:List Rat)(m:Nat):∀ k,(gE a m k).length=m
 | 0=>by simp[gE]
 | k+1=>by unfold gE;rw[Md];exact fA a m k
theorem gd (m:Nat)(a:List Rat):(bF m a).length=m:=fA a m m
theorem lJ {m:Nat}(h:0<m)(q:Rat):(bw m q).getD 0 0=q:=by
 unfold bw;rw[cV (by simpa using h),if_pos rfl]
theorem sh {m i:Nat}(q:Rat)(h:i≠0):(bw m q).getD i 0=0:=by
 unfold bw
 by_cases hm:0<m
 ·rw[cV (by simpa using hm),if_neg h,rt]
 ·rw[NQ (by simp;omega),rt]
theorem Hh {m:Nat}(x y:Rat)(h:1<m):(bw m x).set 1 y=iD m x y:=by unfold iD;rw[if_pos h]
theorem Ge {m:Nat}(x y:Rat)(h:¬1<m):bw m x=iD m x y:=by unfold iD;rw[if_neg h]
theorem pg {m i:Nat}(a b:List Rat)(h:i<m):(dj m a b).getD i 0=ee a b i (i+1):=uH h
theorem Ah {m i:Nat}(a b:List Rat)(h:m<=i):(dj m a b).getD i 0=0:=sR h
section
variable {a b:List Rat}{m i j k:Nat}
theorem xt {f:Nat->Rat}(h:i<m):(eE f m k).getD i 0=if i<k then f i else 0:=uH h
theorem kh (f:Nat->Rat)(m k:Nat):(eE f m k).length=m:=by simp[eE]
theorem vQ {l:List Rat}(h:i<l.length)(e:l.getD i 0=0):l=l.set i 0:=by
 refine nk (by simp) fun t=>?_
 rw[cV h]
 split
 ·rename_i a;subst a;exact e
 ·rfl
theorem Hx (h:i<m):eE (fun i=>ee a b i (i+1)) m i=(eE (fun i=>ee a b i (i+1)) m i).set i (ee a b i 0) :=
 vQ (by rw[kh];exact h) (by rw[xt h,if_neg (Nat.lt_irrefl i)])
theorem GL {S:List Rat}(c:S.length=m)(h:i<m):(S.set i (ee a b i j)).set i ((S.set i (ee a b i j)).getD i 0+a.getD j 0*b.getD (i-j) 0)=S.set i (ee a b i (j+1)):=by
 rw[List.set_set,cV oM,if_pos rfl];rfl
theorem FW {S:List Rat}(a:S.length=m)(h:i<m)(c:Rat):(S.set i c).getD i 0=c:=by rw[cV oM,if_pos rfl]
theorem EP (h:i<m)(e:j=i+1):(eE (fun i=>ee a b i (i+1)) m i).set i (ee a b i j)=eE (fun i=>ee a b i (i+1)) m (i+1):=by
 subst e;exact i6 (f:=fun i=>ee a b i (i+1)) h
theorem CZ:eE (fun i=>ee a b i (i+1)) m m=dj m a b:=jd _ _
theorem BI (h:1<=i):(gE a m i).set i (-(ee (gE a m i) a i i*(gE a m i).getD 0 0))=gE a m (i+1):=by
 show _=(gE a m i).set i (if i=0 then _ else _)
 rw[if_neg oM]
theorem jX (hk:k<=m):∀ {n},k<=n->i<k->(gE a m n).getD i 0=(gE a m k).getD i 0
  | n,hn,hi=>by
    obtain ⟨e,rfl⟩:∃ e,n=k+e:=⟨n-k,by omega⟩
    induction e with
    | zero=>rfl
    | succ e ih =>
      rw[<-ih oM]
      show ((gE a m (k+e)).set (k+e) _).getD i 0=_
      by_cases hm:k+e<m
      . rw[cV (by rw[fA];exact hm),if_neg oM]
      . rw[NQ (by rw[fA];omega)]
theorem rP:∀ {k},k<=i->(gE a m k).getD i 0=0
  | 0,_=>rt m i
  | k+1,h=>by
    show ((gE a m k).set k _).getD i 0=0
    by_cases hm:k<m
    . rw[cV (by rw[fA];exact hm),if_neg oM];exact rP oM
    . rw[NQ (by rw[fA];omega)];exact rP oM
theorem ED {K:Nat}(c:1<=K)(h:∀ i,LQ K ((bF m a).getD i 0))(hk:k<=m)(i:Nat):LQ K ((gE a m k).getD i 0):=by
 by_cases hi:i<k
 ·rw[<-jX hk hk hi];exact h i
 ·rw[rP oM];exact rL c
end
def cY (m:Nat)(a b:List Rat):List Rat:=(ov m).map fun i=>a.getD i 0+b.getD i 0
def dt (m:Nat)(a:List Rat)(k:Rat):List Rat:=(ov m).map fun i=>a.getD i 0*k
theorem f4 (m:Nat)(a b:List Rat):(cY m a b).length=m:=by simp[cY]
theorem fx (m:Nat)(a:List Rat)(k:Rat):(dt m a k).length=m:=by simp[dt]
theorem vd {m i:Nat}(a b:List Rat)(h:i<m):(cY m a b).getD i 0=a.getD i 0+b.getD i 0:=uH h
theorem o7 {m i:Nat}(a:List Rat)(k:Rat)(h:i<m):(dt m a k).getD i 0=a.getD i 0*k:=uH h
theorem i4 {a b c:List Rat}{i:Nat}:∀ j,(∀ t,t<j->a.getD t 0=c.getD t 0)->ee a b i j=ee c b i j
  | 0,_=>rfl
  | j+1,h=>by
    show ee a b i j+a.getD j 0*_=ee c b i j+c.getD j 0*_
    rw[i4 j (fun t d=>h t oM),h j (NR j)]
theorem tm {a:List Rat}{m i j:Nat}(d:j<=i)(hi:i<=m):ee (gE a m i) a i j=ee (bF m a) a i j :=
 i4 j fun t c=>(jX hi hi oM).symm
section
variable {op n:Int}{a b:Rat}{wa wb:Nat}
theorem EH (h:ni op n a b=0):vm op n a b:=Decidable.byContradiction fun k=>by
 have:ni op n a b=6:=if_neg k
 omega
end
def SzR (W:Nat)(a:List Rat):Prop:=∃ (D:Int)(A:Nat->Int),D≠0/\D.natAbs<=18446744073709551616^W/\∀ i,a.getD i 0*((D^(i+1):Int):Rat)=((A i:Int):Rat)/\(A i).natAbs<=(18446744073709551616^W)^(i+1)
theorem Iw {D:Int}(h:D≠0)(n:Nat):D^n≠0:=by
 induction n with
 | zero=>simp
 | succ n ih=>rw[NS];exact Ns ih h
theorem IX {D:Int}(h:D≠0)(n:Nat):((D^n:Int):Rat)≠0:=fun e=>Iw h n (by exact_mod_cast e)
theorem Bq {z:Int}{K:Nat}(h:z.natAbs<18446744073709551616^K):LQ (K+1) (z:Rat):=by
 refine ⟨?_,?_⟩
 ·rw[Rat.num_intCast];exact Nat.le_succ_of_le (fg kD h)
 ·rw[Rat.den_intCast];exact eb (da.2 kD) (Nat.le_add_left 1 K)
theorem oK {q:Rat}{D A:Int}{W i:Nat}(d:D≠0)(h1:D.natAbs<=18446744073709551616^W)(e:q*((D^(i+1):Int):Rat)=(A:Rat))(a:A.natAbs<=18446744073709551616^(W*(i+1))):LQ (2*(W*(i+1))+4) q:=by
 have f:=IX d (i+1);have eq:q=(A:Rat)/((D^(i+1):Int):Rat):=by rw[<-e];grind
 rw[eq];have up:∀ k:Nat,18446744073709551616^k<18446744073709551616^(k+1):=fun k=>Nat.pow_lt_pow_right kD (NR k)
 have c:LQ (W*(i+1)+1+1) (A:Rat):=Bq (Ft a (up _));have l2:LQ (W*(i+1)+1+1) ((D^(i+1):Int):Rat):=Bq (Ft (by rw[NT,LB];exact NU h1 _) (up _));exact (c.div l2).mono oM
theorem SzR.lq {W:Nat}{a:List Rat}(h:SzR W a)(d:a.length<=13)(i:Nat):LQ (26*W+4) (a.getD i 0):=by
 by_cases hi:i<13
 ·obtain ⟨D,A,h0,h1,c⟩:=h
  have:=Lz W (show i+1<=13 by omega);exact (oK h0 h1 (c i).1 (by rw[LB];exact (c i).2)).mono oM
 ·rw[eL oM];exact rL oM
theorem SzR.mono {W V:Nat}{a:List Rat}(h:SzR W a)(hv:W<=V):SzR V a:=by
 obtain ⟨D,A,h0,h1,c⟩:=h;have k:=Lw (show 0<18446744073709551616 by decide) hv;exact ⟨D,A,h0,eb h1 k,fun i=>⟨(c i).1,eb (c i).2 (NU k _)⟩⟩
theorem SzR.nil (W:Nat):SzR W []:=⟨1,fun _=>0,by decide,Nat.one_le_pow _ _ kD,fun i=>⟨by rw[AT];simp,Mv _⟩⟩
theorem C3 (M i:Nat):2*M^(i+1)<=(18446744073709551616*M)^(i+1):=by
 rw[NV];refine zh _ ?_;exact eb (by decide:2<=18446744073709551616^1) (Lw kD (Nat.succ_le_succ (Mv i)))
theorem Cr (M i:Nat):(i+1)*M^(i+1)<=(18446744073709551616*M)^(i+1):=by
 rw[NV];refine zh _ ?_;exact eb (MS (Nat.lt_two_pow_self (n:=i+1))) (NU kD _)
theorem jZ (W V:Nat):18446744073709551616^(W+V+1)=18446744073709551616*(18446744073709551616^W*18446744073709551616^V):=by
 rw[HA,Ly,H1]
theorem An {W V:Nat}{a b:List Rat}{D E:Int}{A B:Nat->Int}(h1:D.natAbs<=18446744073709551616^W)(h:∀ i,a.getD i 0*((D^(i+1):Int):Rat)=((A i:Int):Rat)/\(A i).natAbs<=(18446744073709551616^W)^(i+1))
    (f:E.natAbs<=18446744073709551616^V)(k2:∀ i,b.getD i 0*((E^(i+1):Int):Rat)=((B i:Int):Rat)/\(B i).natAbs<=(18446744073709551616^V)^(i+1))(i:Nat):∀ j,j<=i+1->∃ z:Int,ee a b i j*(((D*E)^(i+1):Int):Rat)=(z:Rat)/\z.natAbs<=j*(18446744073709551616^W*18446744073709551616^V)^(i+1)
  | 0,_=>⟨0,by show (0:Rat)*_=_;simp,by simp⟩
  | j + 1,hj=>by
    obtain ⟨z,e,hz⟩:=An h1 h f k2 i j oM;obtain ⟨c,rfl⟩:∃ c,i=j+c:=⟨i-j,by omega⟩;obtain ⟨F,o⟩:=h j;obtain ⟨u,C⟩:=k2 c;refine ⟨z+A j*B c*(D^c*E^j),?_,?_⟩
    . show (ee a b (j+c) j+a.getD j 0*b.getD (j+c-j) 0)*_=_
      have d:(D*E)^(j+c+1)=D^(j+1)*E^(c+1)*(D^c*E^j):=by
        rw[NW,show j+c+1=(j+1)+c by omega,NX,show j+1+c=(c+1)+j by omega,NX];grind
      rw[Nat.add_sub_cancel_left,NY,e,d,NZ,N0,N0,N0,N0,N0,<-F,<-u]
      grind
    . have l:(A j*B c*(D^c*E^j)).natAbs<=(18446744073709551616^W*18446744073709551616^V)^(j+c+1):=by
        rw[MU,MU,MU,NT,NT]
        have d:(18446744073709551616^W*18446744073709551616^V)^(j+c+1)=(18446744073709551616^W)^(j+1)*(18446744073709551616^V)^(c+1)*((18446744073709551616^W)^c*(18446744073709551616^V)^j):=by
          generalize 18446744073709551616^W=x
          generalize 18446744073709551616^V=y
          have H:x^(j+c+1)=x^(j+1)*x^c:=by rw[<-Ly];congr 1;omega
          have p:y^(j+c+1)=y^(c+1)*y^j:=by rw[<-Ly];congr 1;omega
          rw[NV,H,p]
          ac_rfl
        rw[d];exact Ma (Ma o C) (Ma (NU h1 _) (NU f _))
      rw[y3];exact eb (Nj _ _) (N1 hz l)
theorem SzR.cnvD {W V:Nat}{a b:List Rat}(ha:SzR W a)(f:SzR V b):∃ D:Int,D≠0/\D.natAbs<=18446744073709551616^(W+V+1)/\∀ i j,j<=i+1->∃ z:Int,ee a b i j*((D^(i+1):Int):Rat)=(z:Rat)/\z.natAbs<=(18446744073709551616^(W+V+1))^(i+1):=by
 obtain ⟨D,A,h0,h1,h⟩:=ha;obtain ⟨E,B,k0,c,k2⟩:=f;refine ⟨D*E,Ns h0 k0,?_,fun i j d=>?_⟩
 ·rw[MU,jZ]
  exact eb (Ma h1 c) (MP _ kD)
 ·obtain ⟨z,e,hz⟩:=An h1 h c k2 i j d
  refine ⟨z,e,eb hz ?_⟩;rw[jZ];exact eb (zh _ d) (Cr _ i)
theorem SzR.lq_cnv {W V:Nat}{a b:List Rat}(ha:SzR W a)(d:SzR V b){i j:Nat}(hi:i<=12)(f:j<=i+1):LQ (26*(W+V+1)+4) (ee a b i j):=by
 obtain ⟨D,h0,h1,c⟩:=ha.cnvD d;obtain ⟨z,e,hz⟩:=c i j f;have:=Lz (W+V+1) (show i+1<=13 by omega);exact (oK h0 h1 e (by rw[LB];exact hz)).mono oM
theorem SzR.mul {W V:Nat}{a b:List Rat}(ha:SzR W a)(d:SzR V b)(m:Nat):SzR (W+V+1) (dj m a b):=by
 obtain ⟨D,h0,h1,c⟩:=ha.cnvD d;refine ⟨D,fun i=>if i<m then (c i (i+1) (ea _)).choose else 0,h0,h1,fun i=>?_⟩
 dsimp only
 by_cases hi:i<m
 ·rw[if_pos hi,pg a b hi];exact (c i (i+1) (ea _)).choose_spec
 ·rw[if_neg hi,Ah a b oM];exact ⟨by simp,Mv _⟩
theorem SzR.add {W V:Nat}{a b:List Rat}(ha:SzR W a)(d:SzR V b)(m:Nat):SzR (W+V+1) (cY m a b):=by
  obtain ⟨D,A,h0,h1,e⟩:=ha;obtain ⟨E,B,k0,c,k2⟩:=d;refine ⟨D*E,fun i=>if i<m then A i*E^(i+1)+B i*D^(i+1) else 0,Ns h0 k0,?_,fun i=>?_⟩
  . rw[MU,jZ]
    exact eb (Ma h1 c) (MP _ kD)
  . dsimp only
    by_cases hi:i<m
    . rw[if_pos hi,vd a b hi]
      obtain ⟨l,f⟩:=e i;obtain ⟨h,j⟩:=k2 i;refine ⟨?_,?_⟩
      . rw[NW,NZ,N0,N0,N0,<-l,<-h];grind
      . rw[jZ]
        refine eb (Nj _ _) (eb ?_ (C3 _ i));rw[MU,MU,NT,NT,Nat.two_mul,NV];refine N1 (Ma f (NU c _)) ?_;rw[H1];exact Ma (NU h1 _) j
    . rw[if_neg hi];exact ⟨by rw[show (cY m a b).getD i 0=0 from sR oM];simp,Mv _⟩
theorem SzR.neg {W:Nat}{a:List Rat}(ha:SzR W a)(m:Nat):SzR W (dt m a ((-1:Int):Rat)):=by
 obtain ⟨D,A,h0,h1,c⟩:=ha;refine ⟨D,fun i=>if i<m then -A i else 0,h0,h1,fun i=>?_⟩
 dsimp only
 by_cases hi:i<m
 ·rw[if_pos hi,o7 a _ hi]
  refine ⟨?_,by rw[Nk];exact (c i).2⟩;have d:((-A i:Int):Rat) = -((A i:Int):Rat):=by rw[N2]
  rw[d,<-(c i).1,KQ];grind
 ·rw[if_neg hi];exact ⟨by rw[show (dt m a _).getD i 0=0 from sR oM];simp,Mv _⟩
theorem AK {a:List Rat}{m:Nat}(h:0<m):(bF m a).getD 0 0=((1:Int):Rat)/a.getD 0 0:=by
 unfold bF
 rw[jX (k:=1) h h Nat.zero_lt_one]
 show ((zZ m (0:Rat)).set 0 _).getD 0 0=_
 rw[cV (by simpa using h),if_pos rfl,if_pos rfl]
theorem xU {a:List Rat}{m i:Nat}(h:i<m)(h0:0<i):(bF m a).getD i 0 = -(ee (bF m a) a i i*(bF m a).getD 0 0):=by
 conv=>lhs;unfold bF
 rw[jX (k:=i+1) h h (NR i),<-BI h0,cV (by rw[fA];exact h),if_pos rfl,tm (ea i) (MS h)]
 congr 2
 exact (jX (MS h) (MS h) h0).symm
theorem xB {a:List Rat}{m i:Nat}(h:m<=i):(bF m a).getD i 0=0:=eL (by rw[gd];exact h)
theorem FS {W:Nat}{a:List Rat}{D:Int}{A:Nat->Int}(h0:D≠0)(f:∀ i,a.getD i 0*((D^(i+1):Int):Rat)=((A i:Int):Rat)/\(A i).natAbs<=(18446744073709551616^W)^(i+1))(ha:a.getD 0 0≠0)(m:Nat) :
    ∀ i,i<m->∃ C:Int,(bF m a).getD i 0*(((A 0*D)^(i+1):Int):Rat)=((D*D*C:Int):Rat)/\C.natAbs<=2^i*(18446744073709551616^W)^(2*i):=by
  intro i
  induction i using Nat.strongRecOn with
  | _ i ih =>
    intro hi;have L:((A 0:Int):Rat)=a.getD 0 0*(D:Rat):=by rw[<-(f 0).1,y9,NS,N3,N4]
    have d:(bF m a).getD 0 0=((1:Int):Rat)/a.getD 0 0:=AK oM;have c:(bF m a).getD 0 0*((A 0:Int):Rat)=(D:Rat):=by rw[d,L,i1];grind
    by_cases e0:i=0
    . subst e0
      refine ⟨1,?_,by simp⟩;rw[y9,NS,N3,N4,Int.mul_one,N0,N0,<-N5,c]
    . have key:∀ j,j<=i->∃ Z:Int,ee (bF m a) a i j*(bF m a).getD 0 0*(((A 0*D)^(i+1):Int):Rat)=((D*D*Z:Int):Rat)/\Z.natAbs<=(2^j-1)*(18446744073709551616^W)^(2*i):=by
        intro j
        induction j with
        | zero=>intro _;exact ⟨0,by show (0:Rat)*_*_=_;simp,by simp⟩
        | succ j ij =>
          intro M;obtain ⟨Z,I,H⟩:=ij oM;obtain ⟨C,c1,c2⟩:=ih j oM oM;obtain ⟨e,rfl⟩:∃ e,i=j+1+e:=⟨i-j-1,by omega⟩;obtain ⟨l,F⟩:=f (e+1);refine ⟨Z+C*A (e+1)*A 0^e,?_,?_⟩
          . show (ee (bF m a) a (j+1+e) j+(bF m a).getD j 0*a.getD (j+1+e-j) 0)*_*_=_
            rw[show j+1+e-j=e+1 by omega,NY,NY,I]
            have y:(A 0*D)^(j+1+e+1)=(A 0*D)^(j+1)*(A 0*A 0^e*D^(e+1)):=by
              have z:(A 0*D)^(e+1)=A 0^(e+1)*D^(e+1):=NW;rw[show j+1+e+1=(j+1)+(e+1) by omega,NX,z,NS (A 0) e,Int.mul_comm (A 0^e) (A 0)]
            have K:D^(e+1+1)=D^(e+1)*D:=NS D (e+1);rw[K,N0] at l
            rw[y,Int.mul_add,NZ]
            congr 1
            rw[N0 ((A 0*D)^(j+1)),N0 (A 0*A 0^e),N0 (A 0) (A 0^e)];rw[show D*D*(C*A (e+1)*A 0^e)=(D*D*C)*(A (e+1)*A 0^e) by grind,N0 (D*D*C),<-c1,N0 (A (e+1)),<-l,<-c]
            grind
          . have p:(C*A (e+1)*A 0^e).natAbs<=2^j*(18446744073709551616^W)^(2*(j+1+e)):=by
              rw[MU,MU,NT]
              have J:2^j*(18446744073709551616^W)^(2*(j+1+e))=2^j*(18446744073709551616^W)^(2*j)*(18446744073709551616^W)^(e+1+1)*(18446744073709551616^W)^e:=by
                generalize 18446744073709551616^W=x
                rw[show 2*(j+1+e)=2*j+(e+1+1)+e by omega,Ly,Ly];ac_rfl
              rw[J];have h:(A 0).natAbs<=18446744073709551616^W:=by have:=(f 0).2;rwa [y9,N6] at this
              exact Ma (Ma c2 F) (NU h e)
            have u:2^(j+1)-1=(2^j-1)+2^j:=by have:=N7 (n:=j);rw[HA];omega
            rw[u,Nat.add_mul];exact eb (Nj _ _) (N1 H p)
      obtain ⟨Z,B,o⟩:=key i (ea i);refine ⟨-Z,?_,?_⟩
      . rw[xU hi oM,Rat.neg_mul,B,Int.mul_neg,N2]
      . rw[Nk]
        exact eb o (zh _ (Nat.sub_le _ _))
theorem SzR.inv {W:Nat}{a:List Rat}(h:SzR W a)(ha:a.getD 0 0≠0)(m:Nat):SzR (2*W+1) (bF m a):=by
  obtain ⟨D,A,h0,h1,d⟩:=h;have key:=FS h0 d ha m;have f:(A 0).natAbs<=18446744073709551616^W:=by have:=(d 0).2;rwa [y9,N6] at this
  have u:A 0≠0:=fun e=>by
    have:=(d 0).1;rw[e,y9,NS,N3,N4] at this
    have l:(D:Rat)≠0:=fun j=>h0 (by exact_mod_cast j)
    have p:((0:Int):Rat)=0:=rfl;rw[p] at this
    exact (Rat.mul_eq_zero.1 this).elim ha l
  have c:18446744073709551616^(2*W+1)=18446744073709551616*(18446744073709551616^W*18446744073709551616^W):=by rw[show 2*W+1=W+W+1 by omega];exact jZ W W
  refine ⟨A 0*D,fun i=>if hi:i<m then D*D*(key i hi).choose else 0,Ns u h0,?_,fun i=>?_⟩
  . rw[MU,c]
    exact eb (Ma f h1) (MP _ kD)
  . dsimp only
    by_cases hi:i<m
    . rw[dif_pos hi]
      obtain ⟨c1,c2⟩:=(key i hi).choose_spec;refine ⟨c1,?_⟩;rw[MU,MU,c]
      generalize 18446744073709551616^W=x at *
      have o:D.natAbs*D.natAbs*(key i hi).choose.natAbs<=x*x*(2^i*x^(2*i)):=Ma (Ma h1 h1) c2;refine eb o ?_
      have j:x*x*(2^i*x^(2*i))=2^i*(x*x)^(i+1):=by
        rw[HA,<-N8 x,<-LB];ac_rfl
      rw[j,NV 18446744073709551616];refine zh _ (eb (Lw kD (Nat.le_succ i)) (NU kD _))
    . rw[dif_neg hi,xB oM];exact ⟨by simp,Mv _⟩
theorem oH {q:Rat}(h:LQ 1 q):q.num.natAbs<18446744073709551616/\q.den<18446744073709551616:=⟨da.1 h.1,da.1 h.2⟩
theorem Cd (q:Rat):q*((q.den:Int):Rat)=(q.num:Rat):=by
 have h:=q.den_nz;have a:((q.den:Int):Rat)≠0:=fun e=>h (by exact_mod_cast e)
 conv=>lhs;lhs;rw[<-Rat.num_divInt_den q,Rat.divInt_eq_div]
 grind
theorem SzR.num {q:Rat}(h:LQ 1 q)(m:Nat)(a:0<m):SzR 1 (bw m q):=by
 obtain ⟨h1,c⟩:=oH h;refine ⟨(q.den:Int),fun i=>if i=0 then q.num else 0,by have:=q.den_nz;omega,by rw[N6];show q.den<=_;omega,fun i=>?_⟩
 dsimp only
 by_cases e:i=0
 ·subst e
  rw[if_pos rfl,lJ a,y9,NS,N3,N4];exact ⟨Cd q,by rw[N6,N6];omega⟩
 ·rw[if_neg e,sh q e];exact ⟨by simp,Mv _⟩
theorem SzR.inp {x y:Rat}(e:LQ 1 x)(f:LQ 1 y)(m:Nat)(d:0<m):SzR 2 (iD m x y):=by
  obtain ⟨h1,c⟩:=oH e;obtain ⟨j,k2⟩:=oH f
  unfold iD
  split
  . rename_i a
    have o:((bw m x).set 1 y).getD 0 0=x:=by rw[cV (by rw[bZ];exact a),if_neg kD,lJ d]
    have z:((bw m x).set 1 y).getD 1 0=y:=by rw[cV (by rw[bZ];exact a),if_pos rfl]
    have p:∀ i,2<=i->((bw m x).set 1 y).getD i 0=0:=fun i hi=>by rw[cV (by rw[bZ];exact a),if_neg oM,sh x oM]
    have h:x.num.natAbs*y.den<=18446744073709551616^2:=by rw[N8];exact Ma (MS h1) (MS k2)
    have u:y.num.natAbs*y.den<=18446744073709551616^2:=by rw[N8];exact Ma (MS j) (MS k2)
    have l:x.den*x.den<=18446744073709551616^2:=by rw[N8];exact Ma (MS c) (MS c)
    refine ⟨(x.den:Int)*(y.den:Int),fun i=>if i=0 then x.num*y.den else if i=1 then y.num*y.den*(x.den*x.den) else 0,by have:=x.den_nz;have:=y.den_nz;exact Ns oM oM,?_,fun i=>?_⟩
    . rw[MU,N8];exact Ma (MS c) (MS k2)
    . dsimp only
      match i with
      | 0 =>
        rw[o,if_pos rfl,y9,NS,N3,N4,N0,N0,<-N5,Cd];exact ⟨rfl,by rw[MU,N6];exact h⟩
      | 1 =>
        rw[z,if_neg kD,if_pos rfl,show (1+1:Nat)=2 from rfl,NS,NS,N3,N4];refine ⟨?_,?_⟩
        . rw[N0,N0,N0,N0,N0,<-Cd y];grind
        . rw[MU,MU,MU,N8 (18446744073709551616^2)];exact Ma u l
      | i+2 =>
        rw[p (i+2) oM,if_neg oM,if_neg oM];exact ⟨by simp,Mv _⟩
  . exact (SzR.num e m d).mono kD
section
variable {a:Rat}
theorem Hg (h:¬a.num.sign<0):a=ku a:=by
 unfold ku;rw[if_neg (fun k=>h (by have:=N9.2 k;omega))]
theorem Gu (h:a.num.sign<0):a*((-1:Int):Rat)=ku a:=by
 unfold ku;rw[if_pos (N9.1 (EU h)),KQ];grind
theorem FV {s:Rat}(h:s=ku a):s+((1:Int):Rat)≠0:=by
 have c:0<=ku a:=by
  unfold ku;split
  ·rename_i h
   have:a<0:=by rw[<-Rat.not_le,<-Oa];omega
   grind
  ·rename_i h;exact Oa.1 oM
 rw[h,i1];grind
theorem xY {op:Int}{a b:Rat}(h:op=12/\0<di a b\/op=13/\di a b<0):op=12/\b<a\/op=13/\a<b:=by
 rcases h with ⟨h1,h2⟩|⟨h1,h2⟩
 ·exact .inl ⟨h1,i9.1 h2⟩
 ·exact .inr ⟨h1,iY.1 h2⟩
theorem BH {op:Int}{a b:Rat}(h:op=12/\di a b<0\/op=13/\0<di a b):op=12/\a<b\/op=13/\b<a:=by
 rcases h with ⟨h1,h2⟩|⟨h1,h2⟩
 ·exact .inl ⟨h1,iY.1 h2⟩
 ·exact .inr ⟨h1,i9.1 h2⟩
end
def du (m:Nat)(x:List Rat):Nat->List Rat
  | 0=>bw m ((1:Int):Rat)
  | k+1=>dj m (du m x k) x
def fB (m:Nat)(a:List Rat):List Rat:=if (a.getD 0 0).num.sign<0 then dt m a ((-1:Int):Rat) else a
def px (n:Int)(m:Nat)(a:List Rat):List Rat:=if n<0 then bF m a else a
def dN (op n:Int)(a b:Rat):Int:=if op=11/\a=0 then 7 else ni op n a b
def gR (op n:Int)(m:Nat)(a b:List Rat):List Rat :=
  if op=3 then cY m a b else if op=4 then cY m a (dt m b ((-1:Int):Rat)) else if op=5 then dj m a b else if op=6 then dj m a (bF m b) else if op=7 then dt m a ((-1:Int):Rat)
  else if op=8 then du m (px n m a) n.natAbs else if op=9 then fB m a else if op=10 then (if 0<(a.getD 0 0).num.sign then a else bw m 0)
  else if op=11 then dj m a (bF m (cY m (fB m a) (bw m ((1:Int):Rat)))) else if op=12 then (if b.getD 0 0<a.getD 0 0 then a else b) else (if b.getD 0 0<a.getD 0 0 then b else a)
def vz (m:Nat)(op n:Int)(x y:Int × List Rat):Int × List Rat :=
  if x.1≠0 then (x.1,[]) else if y.1≠0 then (y.1,[]) else if dN op n (x.2.getD 0 0) (y.2.getD 0 0)≠0 then (dN op n (x.2.getD 0 0) (y.2.getD 0 0),[]) else (0,gR op n m x.2 y.2)
def bu (ix:ByteArray->Nat)(at_ way:List Rat)(m:Nat):Nat->Tm->Int × List Rat
  | 0,_=>(0,[])
  | d+1,t =>
    if t.op=1 then (0,bw m t.q)
    else if t.op=2 then (0,iD m (at_.getD (ix t.s) 0) (way.getD (ix t.s) 0))
    else vz m t.op t.n (if 0<t.ks.length then bu ix at_ way m d (t.ks.getD 0 cZ) else (0,[])) (if 1<t.ks.length then bu ix at_ way m d (t.ks.getD 1 cZ) else (0,[]))
section
variable {m:Nat}{op n:Int}{x y:Int × List Rat}
theorem jL (h:x.1≠0):vz m op n x y=(x.1,[]):=if_pos h
theorem qM (h:x.1=0)(a:y.1≠0):vz m op n x y=(y.1,[]):=by unfold vz;rw[if_neg (fun k=>k h),if_pos a]
theorem kP (h:x.1=0)(c:y.1=0)(a:dN op n (x.2.getD 0 0) (y.2.getD 0 0)≠0):vz m op n x y=(dN op n (x.2.getD 0 0) (y.2.getD 0 0),[]):=by unfold vz;rw[if_neg (fun k=>k h),if_neg (fun k=>k c),if_pos a]
theorem kK (h:x.1=0)(c:y.1=0)(a:dN op n (x.2.getD 0 0) (y.2.getD 0 0)=0):vz m op n x y=(0,gR op n m x.2 y.2):=by unfold vz;rw[if_neg (fun k=>k h),if_neg (fun k=>k c),if_neg (fun k=>k a)]
end
theorem cI (m:Nat)(x:List Rat):∀ k,(du m x k).length=m
 | 0=>bZ _ _
 | _+1=>fw _ _ _
theorem mr {m:Nat}{a:List Rat}(h:a.length=m):(fB m a).length=m:=by unfold fB;split;exact fx _ _ _;exact h
section
variable {n:Int}{m:Nat}{a b:List Rat}
theorem E8:gR 3 n m a b=cY m a b:=rfl
theorem E3:gR 4 n m a b=cY m a (dt m b ((-1:Int):Rat)):=rfl
theorem Fb:gR 5 n m a b=dj m a b:=rfl
theorem EZ:gR 6 n m a b=dj m a (bF m b):=rfl
theorem FD:gR 7 n m a b=dt m a ((-1:Int):Rat):=rfl
theorem kG:gR 8 n m a b=du m (px n m a) n.natAbs:=rfl
theorem vb:gR 9 n m a b=fB m a:=rfl
theorem kc:gR 10 n m a b=if 0<(a.getD 0 0).num.sign then a else bw m 0:=rfl
theorem oZ:gR 11 n m a b=dj m a (bF m (cY m (fB m a) (bw m ((1:Int):Rat)))):=rfl
theorem kw:gR 12 n m a b=if b.getD 0 0<a.getD 0 0 then a else b:=rfl
theorem ke:gR 13 n m a b=if b.getD 0 0<a.getD 0 0 then b else a:=rfl
end
theorem eZ {op n:Int}{a b:Rat}(h:op≠11):dN op n a b=ni op n a b:=if_neg (fun k=>h k.1)
theorem JK {n:Int}{a b:Rat}(h:a=0):dN 11 n a b=7:=if_pos ⟨rfl,h⟩
theorem Bo {n:Int}{a b:Rat}(h:a≠0):dN 11 n a b=0:=by
 unfold dN;rw[if_neg (fun k=>h k.2)]
 exact eu (fun c=>absurd c kD) (fun c=>absurd c kD) (fun c=>absurd c kD) (fun c=>absurd c kD)
theorem wS {op:Int}(h:3<=op/\op<=13):op=3\/op=4\/op=5\/op=6\/op=7\/op=8\/op=9\/op=10\/op=11\/op=12\/op=13:=by omega
theorem uM {op n:Int}{m:Nat}{a b:List Rat}(ha:a.length=m)(c:op=12\/op=13->b.length=m)(e:op<=13)(d:3<=op):(gR op n m a b).length=m:=by
 rcases wS ⟨d,e⟩ with rfl|rfl|rfl|rfl|rfl|rfl|rfl|rfl|rfl|rfl|rfl
 ·rw[E8];exact f4 _ _ _
 ·rw[E3];exact f4 _ _ _
 ·rw[Fb];exact fw _ _ _
 ·rw[EZ];exact fw _ _ _
 ·rw[FD];exact fx _ _ _
 ·rw[kG];exact cI _ _ _
 ·rw[vb];exact mr ha
 ·rw[kc];split;exact ha;exact bZ _ _
 ·rw[oZ];exact fw _ _ _
 ·rw[kw];split;exact ha;exact c (.inl rfl)
 ·rw[ke];split;exact c (.inr rfl);exact ha
section
variable {ix:ByteArray->Nat}{at_ way:List Rat}{m:Nat}{ok:ByteArray->Prop}
theorem mt {d:Nat}{op n:Int}{q:Rat}{s:ByteArray}{a:Tm}(h1:op≠1)(c:op≠2):bu ix at_ way m (d+1) (.mk op n q s [a])=vz m op n (bu ix at_ way m d a) (0,[]):=by
 show (if op=1 then _ else if op=2 then _ else _)=_
 rw[if_neg h1,if_neg c];rfl
theorem j3 {d:Nat}{op n:Int}{q:Rat}{s:ByteArray}{c a:Tm}(h1:op≠1)(e:op≠2):bu ix at_ way m (d+1) (.mk op n q s [c,a])=vz m op n (bu ix at_ way m d c) (bu ix at_ way m d a):=by
 show (if op=1 then _ else if op=2 then _ else _)=_
 rw[if_neg h1,if_neg e];rfl
theorem fl:∀ {d:Nat} {t:Tm},WfT1 ok d t->(bu ix at_ way m d t).1=0->(bu ix at_ way m d t).2.length=m
  | d + 1,.mk op n q s ks,⟨h1,h2,h3,h4,h5,h6,h7,h8,h9⟩,h=>by
    have hc:=aE op;replace h1:gG op=(ks.length:Nat):=h1
    rcases jM h1 with rfl|⟨t,rfl⟩|⟨t,u,rfl⟩
    . simp only[NN] at h1
      by_cases o1:op=1
      . have e:bu ix at_ way m (d+1) (.mk op n q s [])=(0,bw m q):=if_pos o1
        rw[e];exact bZ _ _
      . have e:bu ix at_ way m (d+1) (.mk op n q s [])=(0,iD m (at_.getD (ix s) 0) (way.getD (ix s) 0)):=(if_neg o1).trans (if_pos (show op=2 by omega))
        rw[e];exact mP _ _ _
    . simp only[tv,NN] at h1
      rw[mt oM oM] at h ⊢
      have c:=fl (h9 0 (Mx _));replace c:(bu ix at_ way m d t).1=0->(bu ix at_ way m d t).2.length=m:=c
      generalize bu ix at_ way m d t=x at *
      by_cases c1:x.1=0
      . by_cases c3:dN op n (x.2.getD 0 0) 0=0
        . rw[kK c1 rfl c3];exact uM (c c1) oM oM oM
        . rw[kP c1 rfl c3] at h;exact absurd h c3
      . rw[jL c1] at h;exact absurd h c1
    . simp only[tv,NN] at h1
      rw[j3 oM oM] at h ⊢
      have c:=fl (h9 0 (Mx _));replace c:(bu ix at_ way m d t).1=0->(bu ix at_ way m d t).2.length=m:=c;have a:=fl (h9 1 (by show 1<2;decide));replace a:(bu ix at_ way m d u).1=0->(bu ix at_ way m d u).2.length=m:=a
      generalize bu ix at_ way m d t=x at *
      generalize bu ix at_ way m d u=y at *
      by_cases c1:x.1=0
      . by_cases c2:y.1=0
        . by_cases c3:dN op n (x.2.getD 0 0) (y.2.getD 0 0)=0
          . rw[kK c1 c2 c3];exact uM (c c1) (fun _=>a c2) oM oM
          . rw[kP c1 c2 c3] at h;exact absurd h c3
        . rw[qM c1 c2] at h;exact absurd h c2
      . rw[jL c1] at h;exact absurd h c1
end
theorem SzR.pow {W:Nat}{x:List Rat}(h:SzR W x){m:Nat}(a:0<m):∀ k,SzR (1+k*(W+1)) (du m x k)
 | 0=>(SzR.num (LQ.int kD kD) m a).mono oM
 | k+1=>(((SzR.pow h a k).mul h m)).mono (by rw[y3];omega)
theorem SzR.abs {W:Nat}{a:List Rat}(h:SzR W a)(m:Nat):SzR W (fB m a):=by
 unfold fB;split;exact h.neg m;exact h
theorem mR {m:Nat}(c:0<m)(a:List Rat):(cY m (fB m a) (bw m ((1:Int):Rat))).getD 0 0≠0:=by
 rw[vd _ _ c,lJ c]
 have e:(fB m a).getD 0 0=ku (a.getD 0 0):=by
  unfold fB;split
  ·rename_i h;rw[o7 _ _ c];exact Gu h
  ·rename_i h;exact Hg h
 exact FV e
theorem D7 {op n:Int}{a b:Rat}(h:dN op n a b=0):vm op n a b:=by
 unfold dN at h
 split at h
 ·exact absurd h kD
 ·exact EH h
theorem SzR.bend {W:Nat}{a:List Rat}(h:SzR W a){m:Nat}(c:0<m):SzR (3*W+6) (dj m a (bF m (cY m (fB m a) (bw m ((1:Int):Rat))))) :=
 (h.mul (((h.abs m).add (SzR.num (LQ.int kD kD) m c) m).inv (mR c a) m) m).mono oM
theorem wO {op n:Int}{x y m:Nat}{a b:List Rat}(i:0<m)(o:1<=x)(ha:SzR (4*x-3) a)(c:1<=y->SzR (4*y-3) b)(d:gG op=2->1<=y)(h1:gG op=1->y=0)(p:3<=op/\op<=13)(hn : -12<=n/\n<=12)(z:dN op n (a.getD 0 0) (b.getD 0 0)=0):SzR (8*(gL op n*(x+y))-3) (gR op n m a b):=by
  have w1:=gc op n;have B:x+y<=gL op n*(x+y):=MP _ w1;obtain ⟨u,k2⟩:=D7 z
  rcases wS p with rfl|rfl|rfl|rfl|rfl|rfl|rfl|rfl|rfl|rfl|rfl
  . have:=d rfl;rw[E8];exact (ha.add (c this) m).mono oM
  . have:=d rfl;rw[E3];exact (ha.add ((c this).neg m) m).mono oM
  . have:=d rfl;rw[Fb];exact (ha.mul (c this) m).mono oM
  . have:=d rfl;rw[EZ];exact (ha.mul ((c this).inv (u rfl) m) m).mono oM
  . rw[FD];exact (ha.neg m).mono oM
  . have e:gL 8 n=bK n:=rfl
    have y0:y=0:=h1 rfl;rw[kG,e,y0,yh]
    unfold px
    split
    . rename_i h
      refine ((ha.inv (k2 rfl h) m).pow i n.natAbs).mono ?_;have f:bK n=n.natAbs:=by unfold bK;split<;>omega
      have hk:1<=n.natAbs:=by omega
      rw[f]
      generalize n.natAbs=k at *
      have l:2*(4*x-3)+1+1=8*x-4:=by omega
      have j:k*(8*x)=8*(k*x):=Ob k 8 x;rw[l,Nat.mul_sub,j];have:k*1<=k*x:=Lz k o
      omega
    . refine (ha.pow i n.natAbs).mono ?_
      have l:4*x-3+1=4*x-2:=by omega
      by_cases hk:n.natAbs=0
      . have f:bK n=1:=by unfold bK;split<;>omega
        rw[hk,f];omega
      . have f:bK n=n.natAbs:=by unfold bK;split<;>omega
        rw[f]
        generalize n.natAbs=k at *
        have j:k*(4*x)=4*(k*x):=Ob k 4 x;rw[l,Nat.mul_sub,j];have:k*1<=k*x:=Lz k o
        omega
  . rw[vb];exact (ha.abs m).mono oM
  . rw[kc];split
    . exact ha.mono oM
    . exact (SzR.num (rL kD) m i).mono oM
  . have e:gL 11 n=2:=rfl
    have y0:y=0:=h1 rfl;rw[oZ,e,y0];exact (ha.bend i).mono oM
  . have:=d rfl;rw[kw];split
    . exact ha.mono oM
    . exact (c this).mono oM
  . have:=d rfl;rw[ke];split
    . exact (c this).mono oM
    . exact ha.mono oM
theorem Fu (d w:Nat)(u:Nat):4*(2^(d+1)*(w*u))=8*(w*(2^d*u)):=by
 rw[HA,Ob w];generalize 2^d=p;generalize w*u=z;rw[H1 p 2,Nat.mul_assoc];omega
section
variable {ix:ByteArray->Nat}{at_ way:List Rat}{m:Nat}{ok:ByteArray->Prop}
theorem n4 (a:0<m)(j:∀ i,LQ 1 (at_.getD i 0))(o:∀ i,LQ 1 (way.getD i 0)):∀ {d:Nat} {t:Tm},WfT1 ok d t->1<=bI d t/\SzR (4*(2^d*bI d t)-3) (bu ix at_ way m d t).2
  | d + 1,.mk op n q s ks,⟨h1,h2,p,h4,h5,h6,l,f,h9⟩=>by
    have F:=aE op;have C:1<=2^d:=N7;replace h1:gG op=(ks.length:Nat):=h1;replace p:LQ 1 q:=p;replace l : -12<=n:=l;replace f:n<=12:=f
    rcases jM h1 with rfl|⟨t,rfl⟩|⟨t,u,rfl⟩
    . have e:bI (d+1) (.mk op n q s [])=1:=Ce rfl
      rw[e];refine ⟨ea _,?_⟩;have D:2<=2^(d+1):=by rw[HA];omega
      simp only[NN] at h1
      by_cases o1:op=1
      . have B:bu ix at_ way m (d+1) (.mk op n q s [])=(0,bw m q):=if_pos o1
        rw[B];exact (SzR.num p m a).mono oM
      . have B:bu ix at_ way m (d+1) (.mk op n q s [])=(0,iD m (at_.getD (ix s) 0) (way.getD (ix s) 0)):=(if_neg o1).trans (if_pos (show op=2 by omega))
        rw[B];exact (SzR.inp (j _) (o _) m a).mono oM
    . obtain ⟨i1,c⟩:=n4 a j o (h9 0 (Mx _))
      replace i1:1<=bI d t:=i1;replace c:SzR (4*(2^d*bI d t)-3) (bu ix at_ way m d t).2:=c
      simp only[tv,NN] at h1
      have e:bI (d+1) (.mk op n q s [t])=gL op n*(bI d t+0):=by rw[jY (show [t].length≠0 from NM _)];show _*(0+bI d t)=_;rw[y9,yh]
      have w1:=gc op n;rw[e,mt oM oM];refine ⟨eb i1 (MP _ w1),?_⟩
      generalize bu ix at_ way m d t=x at *
      by_cases c1:x.1=0
      . by_cases c3:dN op n (x.2.getD 0 0) 0=0
        . rw[kK c1 rfl c3,Fu,yh]
          have:=wO (op:=op) (n:=n) (y:=0) (b:=[]) a (L7 C i1) c (fun h=>absurd h kD) oM (fun _=>rfl) oM ⟨l,f⟩ c3
          rwa [yh] at this
        . rw[kP c1 rfl c3];exact SzR.nil _
      . rw[jL c1];exact SzR.nil _
    . obtain ⟨i1,c⟩:=n4 a j o (h9 0 (Mx _))
      obtain ⟨z,j2⟩:=n4 a j o (h9 1 (by show 1<2;decide));replace i1:1<=bI d t:=i1;replace c:SzR (4*(2^d*bI d t)-3) (bu ix at_ way m d t).2:=c;replace z:1<=bI d u:=z;replace j2:SzR (4*(2^d*bI d u)-3) (bu ix at_ way m d u).2:=j2
      simp only[tv,NN] at h1
      have e:bI (d+1) (.mk op n q s [t,u])=gL op n*(bI d t+bI d u):=by rw[jY (show [t,u].length≠0 from NM _)];show _*(0+bI d t+bI d u)=_;rw[y9]
      have w1:=gc op n;rw[e,j3 oM oM];refine ⟨eb oM (MP _ w1),?_⟩
      generalize bu ix at_ way m d t=x at *
      generalize bu ix at_ way m d u=y at *
      by_cases c1:x.1=0
      . by_cases c2:y.1=0
        . by_cases c3:dN op n (x.2.getD 0 0) (y.2.getD 0 0)=0
          . rw[kK c1 c2 c3,Fu,Nat.mul_add]
            exact wO (op:=op) (n:=n) a (L7 C i1) c (fun _=>j2) (fun _=>L7 C z) oM oM ⟨l,f⟩ c3
          . rw[kP c1 c2 c3];exact SzR.nil _
        . rw[qM c1 c2];exact SzR.nil _
      . rw[jL c1];exact SzR.nil _
end
def cv (f g:Nat->Rat):Nat->Rat
  | 0=>f 0*g 0
  | n+1=>f 0*g (n+1)+cv (fun i=>f (i+1)) g n
theorem fb {f g f' g':Nat->Rat}:∀ {n},(∀ i,i<=n->f i=f' i)->(∀ i,i<=n->g i=g' i)->cv f g n=cv f' g' n
  | 0,h,k=>by show f 0*g 0=f' 0*g' 0;rw[h 0 (ea 0),k 0 (ea 0)]
  | n+1,h,k=>by
    show f 0*g (n+1)+cv _ g n=f' 0*g' (n+1)+cv _ g' n
    rw[h 0 (Mv _),k (n+1) (ea _),fb (fun i hi=>h (i+1) oM) fun i hi=>k i oM]
theorem DI (f g:Nat->Rat):∀ n,cv f g (n+1)=f (n+1)*g 0+cv f (fun i=>g (i+1)) n:=by
  intro n
  induction n generalizing f with
  | zero=>show f 0*g 1+f 1*g 0=f 1*g 0+f 0*g 1;grind
  | succ n ih =>
    show f 0*g (n+2)+cv (fun i=>f (i+1)) g (n+1)=f (n+2)*g 0+(f 0*g (n+2)+cv (fun i=>f (i+1)) (fun i=>g (i+1)) n)
    rw[ih];grind
theorem j5 (f g:Nat->Rat):∀ n,cv f g n=cv g f n:=by
  intro n
  induction n generalizing f g with
  | zero=>exact Oc _ _
  | succ n ih =>
    rw[DI g f n,<-ih (fun i=>f (i+1)) g]
    show f 0*g (n+1)+_=g (n+1)*f 0+_
    rw[Oc]
theorem He (a:Rat)(f g h:Nat->Rat):∀ n,cv (fun i=>a*f i+g i) h n=a*cv f h n+cv g h n:=by
  intro n
  induction n generalizing f g with
  | zero=>show (a*f 0+g 0)*h 0=a*(f 0*h 0)+g 0*h 0;grind
  | succ n ih =>
    show (a*f 0+g 0)*h (n+1)+cv (fun i=>a*f (i+1)+g (i+1)) h n=a*(f 0*h (n+1)+cv (fun i=>f (i+1)) h n)+(g 0*h (n+1)+cv (fun i=>g (i+1)) h n)
    rw[ih (fun i=>f (i+1)) fun i=>g (i+1)];grind
theorem jz (f g h:Nat->Rat):∀ n,cv (cv f g) h n=cv f (cv g h) n:=by
  intro n
  induction n generalizing f with
  | zero=>show f 0*g 0*h 0=f 0*(g 0*h 0);grind
  | succ n ih =>
    show f 0*g 0*h (n+1)+cv (fun i=>f 0*g (i+1)+cv (fun i=>f (i+1)) g i) h n=f 0*(g 0*h (n+1)+cv (fun i=>g (i+1)) h n)+cv (fun i=>f (i+1)) (cv g h) n
    rw[He (f 0) (fun i=>g (i+1)) (cv (fun i=>f (i+1)) g) h n,ih];grind
def iy (i:Nat):Rat:=if i=0 then 1 else 0
theorem uD (g:Nat->Rat):∀ n,cv (fun _=>0) g n=0
 | 0=>by show (0:Rat)*g 0=0;grind
 | n+1=>by show (0:Rat)*g (n+1)+cv (fun _=>0) g n=0;rw[uD g n];grind
theorem oE (g:Nat->Rat):∀ n,cv iy g n=g n
  | 0=>by show iy 0*g 0=g 0;unfold iy;rw[if_pos rfl];grind
  | n+1=>by
    show iy 0*g (n+1)+cv (fun i=>iy (i+1)) g n=g (n+1)
    have e:(fun i=>iy (i+1))=fun _=>(0:Rat):=by funext i;exact if_neg (NM i)
    rw[e,uD];unfold iy;rw[if_pos rfl];grind
theorem ur {f g b v:Nat->Rat}{m:Nat}(hv:∀ i,i<m->cv b v i=iy i)(h:∀ i,i<m->cv f b i=cv g b i){i:Nat}(hi:i<m):f i=g i:=by
 have e:∀ f:Nat->Rat,cv (cv f b) v i=f i:=fun f=>by
  rw[jz,fb (f':=f) (g':=iy) (fun _ _=>rfl) fun j a=>hv j oM,j5,oE]
 rw[<-e f,<-e g];exact fb (fun j a=>h j oM) fun _ _=>rfl
abbrev it (a:List Rat)(i:Nat):Rat:=a.getD i 0
theorem qW (a b:List Rat)(i:Nat):∀ j,ee a b (i+1) (j+1)=a.getD 0 0*b.getD (i+1) 0+ee a.tail b i j
  | 0=>by show 0+a.getD 0 0*b.getD (i+1) 0=a.getD 0 0*b.getD (i+1) 0+0;grind
  | j+1=>by
    show ee a b (i+1) (j+1)+a.getD (j+1) 0*b.getD (i+1-(j+1)) 0=_+(ee a.tail b i j+a.tail.getD j 0*b.getD (i-j) 0)
    have e:a.tail.getD j 0=a.getD (j+1) 0:=by cases a<;>simp
    rw[qW a b i j,e,show i+1-(j+1)=i-j by omega];grind
theorem o3 (b:List Rat):∀ (i:Nat) (a:List Rat),ee a b i (i+1)=cv (it a) (it b) i
  | 0,a=>by show 0+a.getD 0 0*b.getD 0 0=a.getD 0 0*b.getD 0 0;grind
  | i+1,a=>by
    rw[qW,o3 b i a.tail]
    show _=it a 0*it b (i+1)+cv (fun i=>it a (i+1)) (it b) i
    have e:it a.tail=fun i=>it a (i+1):=by funext j;show a.tail.getD j 0=a.getD (j+1) 0;cases a<;>simp
    rw[e]
section
variable {m:Nat}{a b:List Rat}
theorem rq {i:Nat}(h:i<m):it (dj m a b) i=cv (it a) (it b) i:=(pg a b h).trans (o3 b i a)
theorem sN {i:Nat}(h:i<m):it (bw m ((1:Int):Rat)) i=iy i:=by
 unfold iy
 by_cases e:i=0
 ·subst e;rw[if_pos rfl];exact (lJ h _).trans i1
 ·rw[if_neg e];exact sh _ e
theorem sl (h0:b.getD 0 0≠0){i:Nat}(h:i<m):cv (it (bF m b)) (it b) i=iy i:=by
 rw[<-o3]
 show ee (bF m b) b i i+(bF m b).getD i 0*b.getD (i-i) 0=iy i
 have c:=AK (a:=b) (m:=m) oM;rw[ti]
 unfold iy
 by_cases e:i=0
 ·subst e;rw[if_pos rfl,c,i1];show 0+_=_;grind
 ·rw[if_neg e,xU h oM,c,i1];grind
def eN (a b:List Rat):Nat->List Rat
  | 0=>[]
  | k+1=>eN a b k++[(a.getD k 0-ee (eN a b k) b k k)/b.getD 0 0]
theorem iA (a b:List Rat):∀ k,(eN a b k).length=k
 | 0=>rfl
 | k+1=>by show (eN a b k++[_]).length=_;rw[y5,iA a b k];rfl
theorem k8 {k:Nat}:∀ {n i},k<=n->i<k->(eN a b n).getD i 0=(eN a b k).getD i 0
  | n,i,hn,hi=>by
    obtain ⟨e,rfl⟩:∃ e,n=k+e:=⟨n-k,by omega⟩
    induction e with
    | zero=>rfl
    | succ e ih =>
      rw[<-ih oM]
      show (eN a b (k+e)++[_]).getD i 0=_
      have:i<(eN a b (k+e)).length:=by rw[iA];omega
      simp[List.getElem?_append_left this]
theorem BQ (h0:b.getD 0 0≠0){i:Nat}(h:i<m):cv (it (eN a b m)) (it b) i=it a i:=by
 rw[<-o3]
 show ee (eN a b m) b i i+(eN a b m).getD i 0*b.getD (i-i) 0=a.getD i 0
 rw[ti,i4 i (c:=eN a b i) (fun t d=>k8 oM d),k8 (k:=i+1) oM (NR i)]
 have e:(eN a b (i+1)).getD i 0=(a.getD i 0-ee (eN a b i) b i i)/b.getD 0 0:=by
  show (eN a b i++[_]).getD i 0=_
  have:(eN a b i).length=i:=iA _ _ _
  simp[this]
 rw[e];grind
theorem sv {a b:List Rat}(ha:a.length=m)(d:b.length=m)(h:∀ i,i<m->it a i=it b i):a=b:=by
 refine List.ext_getElem oM fun i h1 c=>?_
 have:=h i oM
 unfold it at this
 simpa [h1,c] using this
theorem Dt (h0:b.getD 0 0≠0){i:Nat}(h:i<m):cv (it b) (it (bF m b)) i=iy i:=by rw[j5];exact sl h0 h
theorem tE (h0:b.getD 0 0≠0):eN a b m=dj m a (bF m b):=by
 refine sv (iA _ _ _) (fw _ _ _) fun i hi=>ur (b:=it b) (fun j c=>Dt h0 c) (fun j c=>?_) hi
 rw[BQ h0 c,fb (fun t d=>rq (show t<m by omega)) (fun _ _=>rfl),jz,fb (fun _ _=>rfl) (fun t d=>sl h0 (show t<m by omega)),j5,oE]
theorem oq (h0:b.getD 0 0≠0):∀ k i,i<m->cv (it (du m (bF m b) k)) (it (du m b k)) i=iy i
  | 0,i,hi=>by
    show cv (it (bw m ((1:Int):Rat))) (it (bw m ((1:Int):Rat))) i=iy i
    rw[fb (fun t a=>sN (show t<m by omega)) (fun _ _=>rfl),oE];exact sN hi
  | k+1,i,hi=>by
    have c:∀ t,t<=i->it (du m (bF m b) (k+1)) t=cv (it (bF m b)) (it (du m (bF m b) k)) t:=fun t a=>(rq oM).trans (j5 _ _ _)
    have d:∀ t,t<=i->it (du m b (k+1)) t=cv (it (du m b k)) (it b) t:=fun t a=>rq oM
    rw[fb c d,jz,fb (f':=it (bF m b)) (g':=it b) (fun _ _=>rfl) (fun t a=>?_)]
    . exact sl h0 hi
    . rw[<-jz,fb (fun s e=>oq h0 k s oM) (fun _ _=>rfl),oE]
theorem tZ (h0:b.getD 0 0≠0)(a:0<m):∀ k,(du m b k).getD 0 0≠0
  | 0=>by show (bw m _).getD 0 0≠0;rw[lJ a];decide
  | k+1=>by
    show (dj m (du m b k) b).getD 0 0≠0
    rw[pg _ _ a]
    show 0+(du m b k).getD 0 0*b.getD 0 0≠0
    have:=tZ h0 a k
    grind
theorem uJ (h0:b.getD 0 0≠0)(k:Nat):eN (bw m ((1:Int):Rat)) (du m b k) m=du m (bF m b) k:=by
 refine sv (iA _ _ _) (cI _ _ _) fun i hi=>ur (b:=it (du m b k)) (v:=it (du m (bF m b) k)) (fun j a=>by rw[j5];exact oq h0 k j a) (fun j a=>?_) hi
 rw[BQ (tZ h0 oM k) a,oq h0 k j a];exact sN a
end
section
variable {xs ys os:List Rat}
theorem mD (i:Nat):∀ j,fe xs ys i j=ee xs ys i j
 | 0=>i0
 | j+1=>by show fe xs ys i j+_=ee xs ys i j+_;rw[mD i j]
theorem Ck (m:Nat):dj m xs ys=(ov m).map fun i=>fe xs ys i (i+1):=by
 unfold dj
 exact NO fun i _=>(mD i (i+1)).symm
theorem mq (i:Nat):∀ j,e7 xs ys os i j=xs.getD i 0-ee os ys i j
 | 0=>by show xs.getD i 0=xs.getD i 0-0;grind
 | j+1=>by show e7 xs ys os i j-_=xs.getD i 0-(ee os ys i j+_);rw[mq i j];grind
theorem jQ:∀ k,eN xs ys k=dr xs ys k
  | 0=>rfl
  | k+1=>by
    show eN xs ys k++[_]=dr xs ys k++[_]
    rw[jQ k,mq]
theorem xZ {m k K:Nat}(a:1<=K)(hk:k<=m)(h:∀ j,LQ K ((eN xs ys m).getD j 0))(j:Nat):LQ K ((dr xs ys k).getD j 0):=by
 by_cases hj:j<k
 ·rw[<-jQ,<-k8 hk hj];exact h j
 ·rw[eL (by rw[iK];omega)];exact rL a
theorem xr {m k j K:Nat}(hk:k<m)(a:j<=k)(h:∀ i j,i<m->j<=i->LQ K (xs.getD i 0-ee (eN xs ys m) ys i j)):LQ K (e7 xs ys (dr xs ys k) k j):=by
 rw[mq,<-jQ,i4 j (c:=eN xs ys m) (fun t d=>(k8 oM oM).symm)];exact h k j hk a
end
theorem kW (A:Z9)(H:Nat)(xs:List Rat)(d:List RT)(q:Rat)(x:Z9)(c1:Nat)(y:Z9)(z:Nat)(S:(lim (ab q.num)).length<=c1)(Q:(lim q.den).length<=z)(m:Nat)(hxm:xs.length=m)(bd:m<=1000)(ha:∀ j,LQ 39500000 (xs.getD j 0))(O:LQ 1 q)(w:World)(h:Hp)(g:G w h)(hA:Sr A d h)(W:RTs h d xs)(M:S3 x (lim (ab q.num)) h)(hD1:S3 y (lim q.den) h):CR 93 #[.slice A d.length H,rG q x c1 y z] w h (fun v h1=>∃ A c J,v=.slice A (J:List RT).length c/\J.length<=c/\Sr A J h1/\RTs h1 J (dt m xs q)):=by
 have a:=(((((sS g).aS hA).aT W).aS M).aS hD1);have hla:=(a.f.r.1).len;refine go Tryz.func93 [(0,qS A d.length H),(1,rG q x c1 y z)] rfl (aD (lA 3 28 (iS q x c1 y z) a (fun b1 w2 h3 a=>lL a ac (aG (lL a ac (ah (aa a ac (aZ ?_))))))));replace a:=a.nil 28 3;replace a:=a.aT (RTs.nil);refine bH _ (CG.loop (fun Y Γ w_=>∃ (k:Nat)(o:Z9)(e:Nat)(tl:List RT)(h_:Hp),Y=xs.length-k/\Γ=[(0,qS A d.length H),(3,pB b1),(4,sZ),(6,nV k),(5,qS o ((tl).length) e)]/\SS w h w_ h_ [⟨b1,28,iS q x c1 y z⟩] [⟨28,3,o,e,(tl).length,(tl).flatMap fJ⟩] [Rt tl ((ov k).map fun i=>xs.getD i 0*q),S3 y (lim q.den),S3 x (lim (ab q.num)),Rt d xs,Sr A d]/\k<=xs.length) _ ⟨0,none,0,[],h3,rfl,rfl,a.to _ _,Mv _⟩ ?_);rintro _ _ w4 ⟨k,o,e,tl,h5,hm6,rfl,a,hk⟩;have Z:=(a.f.1).len;rw[Od,Oe] at Z
 refine cQ (aa a [.c,.c,.v (nV d.length)] ?_);cases u:(decide ((k:Int)<(d.length:Int)))
 .
  have I:=oF u;refine lB 10 u (ag (CG.exit ?_))
  show CG _ _ _ _ _ _ _ _
  refine aa a ax (lN (kX ?_));obtain ⟨h8,a,hc9⟩:=a.pubr 0 (A:=o) (c:=e) (l:=tl) (f:=fJ) (ty:=28) (sz:=3) iU (fun _=>rfl);exact a.ret [] (qS o ((tl).length) e) (by rw[show m=k by omega];exact ⟨_,_,tl,rfl,hc9,a.f.1,a.f.2.1⟩)
 have I:=oT u;refine lB 10 u (ak (cK (cQ (kZ (CG.region ⟨((Value.slice o ((tl).length) e).ownBlock.toList),none⟩ 9 [] mixed kR a.g ar (a.ro_lt 0 (ty:=28) (sz:=3) (A:=o) (c:=e) (m:=(tl).length) (cs:=(tl).flatMap fJ)) ?_)))));refine eV 0 13 (qS o ((tl).length) e) (eV 1 14 (qS A d.length H) (eV 2 15 (nV k) (eX 3 16 A d.length H 3 (k:Nat) k ((a.f.q.1).ok oM) ?_)));obtain ⟨Ax,cx,Dx,dx,ex,L,V,X,U⟩:=(a.f.r.2.1).at_ k oM;replace a:=a.aP X U;refine vw 4 17 (rA (d.getD k iU)) a ((a.f.q.r.1).el k oM) ex ?_ (hM:=a.ro_jk 0 (ty:=28) (sz:=3) (A:=o) (c:=e) (m:=(tl).length) (cs:=(tl).flatMap fJ));refine eO 5 18 [(0,0,3)] (rG q x c1 y z) a ?_ (hM:=fun p hp=>by obtain rfl:=sA.1 hp;exact a.ro_ne 0 0 (ty:=28) (sz:=3) (A:=o) (c:=e) (m:=(tl).length) (cs:=(tl).flatMap fJ));have bb:=LQ.mul (ha k) O;refine eC 6 19 a (fun _ _ a=>FN (xs.getD k 0) Ax cx Dx dx L V (nl (ha k)) (nD (ha k)) q x c1 y z S Q (nl O) (nD O) _ _ a.g a.f.2.1 a.f.1 a.f.q.1 a.f.r.2.1) ?_;rintro _ _ _ _ _ a ⟨D,B,C,F,rfl,zg,zi,zj,zk⟩;replace a:=a.aP zj zk;refine eR 7 20 28 1 (iS ((xs.getD k 0)*q) D B C F) a (fun zl _ _ a=>eY 8 21 0 28 3 e o tl fJ ((af ((xs.getD k 0)*q).num,qS D ((lim (ab ((xs.getD k 0)*q).num)).length) B,qS C ((lim ((xs.getD k 0)*q).den).length) F):RT) 56 zl (.agg #[qF,sZ,sZ]) a (fun _ f_=>f_.1) (fun b hb=>NE.2 hb) (fun ze zf _ _ a=>bS a (fun _ zm a=>tV 9 5 (qS ze ((tl++[((af ((xs.getD k 0)*q).num,qS D ((lim (ab ((xs.getD k 0)*q).num)).length) B,qS C ((lim ((xs.getD k 0)*q).den).length) F):RT)]).length) zf) (tN (kQ (lL a ac (bv 12 ((k:Nat)+1) (k+1) ?_)))))));refine lL a ac (lD ?_);intro a_ ka;replace a:=(a.tl.tl.tl.tl.tl.tl.add (K:=Rt (tl++[((af ((xs.getD k 0)*q).num,qS D ((lim (ab ((xs.getD k 0)*q).num)).length) B,qS C ((lim ((xs.getD k 0)*q).den).length) F):RT)]) ((ov (k+1)).map fun i=>xs.getD i 0*q)) (by rw[Of,Og];exact (a.f.q.2.1).snoc (oR zg zi a.f.r.1 a.f.2.1)));refine ⟨_,_,?_,⟨k+1,ze,zf,tl++[((af ((xs.getD k 0)*q).num,qS D ((lim (ab ((xs.getD k 0)*q).num)).length) B,qS C ((lim ((xs.getD k 0)*q).den).length) F):RT)],zm,rfl,rfl,a.to _ _,oM⟩,ka.to _ kR⟩
 omega
theorem rM (A:Z9)(H:Nat)(xs:List Rat)(e:List RT)(D:Z9)(I:Nat)(ys:List Rat)(d:List RT)(m:Nat)(hxm:xs.length=m)(bb:m<=1000)(hym:ys.length=m)(ha:∀ j,LQ 39500000 (xs.getD j 0))(x:∀ j,LQ 39500000 (ys.getD j 0))(w:World)(h:Hp)(g:G w h)(hA:Sr A e h)(X:RTs h e xs)(hD:Sr D d h)(hTb:RTs h d ys):CR 92 #[.slice A e.length H,.slice D d.length I] w h (fun v h1=>∃ A c J,v=.slice A (J:List RT).length c/\J.length<=c/\Sr A J h1/\RTs h1 J (cY m xs ys)):=by
 have a:=(((((sS g).aS hA).aT X).aS hD).aT hTb);have hla:=(a.f.r.1).len;have hlb:=(a.f.1).len;refine go Tryz.func92 [(0,qS A e.length H),(1,qS D d.length I)] rfl (aa a ac (aG (lL a ac (ah (aa a ac (aZ ?_))))));replace a:=a.nil 28 3;replace a:=a.aT (RTs.nil);refine bH _ (CG.loop (fun Z Γ w_=>∃ (k:Nat)(p:Z9)(o:Nat)(tl:List RT)(h_:Hp),Z=xs.length-k/\Γ=[(0,qS A e.length H),(1,qS D d.length I),(4,sZ),(6,nV k),(5,qS p ((tl).length) o)]/\SS w h w_ h_ [] [⟨28,3,p,o,(tl).length,(tl).flatMap fJ⟩] [Rt tl ((ov k).map fun i=>xs.getD i 0+ys.getD i 0),Rt d ys,Sr D d,Rt e xs,Sr A e]/\k<=xs.length) _ ⟨0,none,0,[],h,rfl,rfl,a.to _ _,Mv _⟩ ?_);rintro _ _ w1 ⟨k,p,o,tl,h2,hm3,rfl,a,hk⟩;have hlT:=(a.f.1).len;rw[Od,Oe] at hlT
 refine cQ (aa a [.c,.c,.v (nV e.length)] ?_);cases u:(decide ((k:Int)<(e.length:Int)))
 .
  have y:=oF u;refine lB 10 u (ag (CG.exit ?_))
  show CG _ _ _ _ _ _ _ _
  refine aa a ax (lN (kX ?_));obtain ⟨h5,a,O⟩:=a.pubr 0 (A:=p) (c:=o) (l:=tl) (f:=fJ) (ty:=28) (sz:=3) iU (fun _=>rfl);exact a.ret [] (qS p ((tl).length) o) (by rw[show m=k by omega];exact ⟨_,_,tl,rfl,O,a.f.1,a.f.2.1⟩)
 have y:=oT u;refine lB 10 u (ak (cK (cQ (kZ (CG.region ⟨((Value.slice p ((tl).length) o).ownBlock.toList),none⟩ 12 [] mixed kR a.g ar (a.ro_lt 0 (ty:=28) (sz:=3) (A:=p) (c:=o) (m:=(tl).length) (cs:=(tl).flatMap fJ)) ?_)))));refine eV 0 13 (qS p ((tl).length) o) (eV 1 14 (qS A e.length H) (eV 2 15 (nV k) (eX 3 16 A e.length H 3 (k:Nat) k ((a.f.q.1).ok oM) ?_)));obtain ⟨Ax,cx,Dx,dx,ex,L,W,Y,Q⟩:=(a.f.r.2.1).at_ k oM;replace a:=a.aP Y Q;refine vw 4 17 (rA (e.getD k iU)) a ((a.f.q.r.1).el k oM) ex ?_ (hM:=a.ro_jk 0 (ty:=28) (sz:=3) (A:=p) (c:=o) (m:=(tl).length) (cs:=(tl).flatMap fJ));refine eV 5 18 (qS D d.length I) (eV 6 19 (nV k) (eX 7 20 D d.length I 3 (k:Nat) k ((a.f.q.1).ok oM) ?_));obtain ⟨Ay,cy,Dy,dy,ey,V,U,S,M⟩:=(a.f.r.2.1).at_ k oM;replace a:=a.aP S M;refine vw 8 21 (rA (d.getD k iU)) a ((a.f.q.r.1).el k oM) ey ?_ (hM:=a.ro_jk 0 (ty:=28) (sz:=3) (A:=p) (c:=o) (m:=(tl).length) (cs:=(tl).flatMap fJ));have hq8:=LQ.add (ha k) (x k);refine eC 9 22 a (fun _ _ a=>GD (xs.getD k 0) Ax cx Dx dx L W (nl (ha k)) (nD (ha k)) (ys.getD k 0) Ay cy Dy dy V U (nl (x k)) (nD (x k)) _ _ a.g a.f.r.2.1 a.f.r.1 a.f.2.1 a.f.1) ?_;rintro _ _ _ _ _ a ⟨B,F,z,C,rfl,zf,zg,zi,zj⟩;replace a:=a.aP zi zj;refine eR 10 23 28 1 (iS ((xs.getD k 0)+(ys.getD k 0)) B F z C) a (fun zk _ _ a=>eY 11 24 0 28 3 o p tl fJ ((af ((xs.getD k 0)+(ys.getD k 0)).num,qS B ((lim (ab ((xs.getD k 0)+(ys.getD k 0)).num)).length) F,qS z ((lim ((xs.getD k 0)+(ys.getD k 0)).den).length) C):RT) 56 zk (.agg #[qF,sZ,sZ]) a (fun _ f_=>f_.1) (fun b x=>NE.2 x) (fun zd ze _ _ a=>bS a (fun _ zl a=>tV 12 5 (qS zd ((tl++[((af ((xs.getD k 0)+(ys.getD k 0)).num,qS B ((lim (ab ((xs.getD k 0)+(ys.getD k 0)).num)).length) F,qS z ((lim ((xs.getD k 0)+(ys.getD k 0)).den).length) C):RT)]).length) ze) (tN (kQ (lL a ac (bv 12 ((k:Nat)+1) (k+1) ?_)))))));refine lL a ac (lD ?_);intro a_ ka;replace a:=(a.tl.tl.tl.tl.tl.tl.tl.tl.add (K:=Rt (tl++[((af ((xs.getD k 0)+(ys.getD k 0)).num,qS B ((lim (ab ((xs.getD k 0)+(ys.getD k 0)).num)).length) F,qS z ((lim ((xs.getD k 0)+(ys.getD k 0)).den).length) C):RT)]) ((ov (k+1)).map fun i=>xs.getD i 0+ys.getD i 0)) (by rw[Of,Og];exact (a.f.q.r.2.1).snoc (oR zf zg a.f.r.1 a.f.2.1)));refine ⟨_,_,?_,⟨k+1,zd,ze,tl++[((af ((xs.getD k 0)+(ys.getD k 0)).num,qS B ((lim (ab ((xs.getD k 0)+(ys.getD k 0)).num)).length) F,qS z ((lim ((xs.getD k 0)+(ys.getD k 0)).den).length) C):RT)],zl,rfl,rfl,a.to _ _,oM⟩,ka.to _ kR⟩
 omega
theorem kf (A:Z9)(F:Nat)(xs:List Rat)(e:List RT)(D:Z9)(H:Nat)(ys:List Rat)(d:List RT)(m:Nat)(hxm:xs.length=m)(bf:m<=1000)(hym:ys.length=m)(ha:∀ j,LQ 39500000 (xs.getD j 0))(Q:∀ j,LQ 39500000 (ys.getD j 0))(hcv:∀ i j,i<m->j<=i+1->LQ 39500000 (ee xs ys i j))(w:World)(h:Hp)(g:G w h)(hA:Sr A e h)(hTa:RTs h e xs)(hD:Sr D d h)(hTb:RTs h d ys):CR 94 #[.slice A e.length F,.slice D d.length H] w h (fun v h1=>∃ A c M,v=.slice A (M:List RT).length c/\M.length<=c/\Sr A M h1/\RTs h1 M (dj m xs ys)):=by
 have a:=(((((sS g).aS hA).aT hTa).aS hD).aT hTb);have hla:=(a.f.r.1).len;have hlb:=(a.f.1).len;refine go Tryz.func94 [(0,qS A e.length F),(1,qS D d.length H)] rfl (aa a ac (aG (lL a ac (ah (aa a ac (aZ ?_))))));replace a:=a.nil 28 3;replace a:=a.aT (RTs.nil);refine bH _ (CG.loop (fun B Γ U=>∃ (k:Nat)(z:Z9)(y:Nat)(tl:List RT)(h_:Hp),B=xs.length-k/\Γ=[(0,qS A e.length F),(1,qS D d.length H),(4,sZ),(6,nV k),(5,qS z ((tl).length) y)]/\SS w h U h_ [] [⟨28,3,z,y,(tl).length,(tl).flatMap fJ⟩] [Rt tl ((ov k).map fun i=>fe xs ys i (i+1)),Rt d ys,Sr D d,Rt e xs,Sr A e]/\k<=xs.length) _ ⟨0,none,0,[],h,rfl,rfl,a.to _ _,Mv _⟩ ?_);rintro _ _ w1 ⟨k,z,y,tl,h2,hm3,rfl,a,hk⟩;have hlT:=(a.f.1).len;rw[Od,Oe] at hlT
 refine cQ (aa a [.c,.c,.v (nV e.length)] ?_);cases x:(decide ((k:Int)<(e.length:Int)))
 .
  have I:=oF x;refine lB 12 x (ag (CG.exit ?_))
  show CG _ _ _ _ _ _ _ _
  refine aa a ax (lN (kX ?_));obtain ⟨h5,a,W⟩:=a.pubr 0 (A:=z) (c:=y) (l:=tl) (f:=fJ) (ty:=28) (sz:=3) iU (fun _=>rfl);exact a.ret [] (qS z ((tl).length) y) (by rw[show m=k by omega,Ck];exact ⟨_,_,tl,rfl,W,a.f.1,a.f.2.1⟩)
 have I:=oT x;refine lB 12 x (ak (cK (cQ (kZ (aD (lC 15 a (vR 0 oM oM _ _ a.g) ?_))))));rintro _ _ _ a ⟨Z,c9,zc,ze,rfl,zl,zm,zn,zo⟩;replace a:=a.aP zn zo;refine lA 7 28 ca a (fun zf _ zx a=>lP 0 0 (iS ((0:Int):Rat) Z c9 zc ze) a (fun _ a=>ah (aa a ac (aZ ?_))));replace a:=a.aS a.f.1;replace a:=a.aS a.f.r.1;refine bH _ (CG.loop (fun B Γ U=>∃ (j:Nat)(p:Z9)(cS:Nat)(DS:Z9)(u:Nat)(h_:Hp),B=k+1-j/\Γ=[(0,qS A e.length F),(1,qS D d.length H),(4,sZ),(6,nV k),(5,qS z ((tl).length) y),(7,pB zf),(8,nV j)]/\SS w h U h_ [⟨zf,28,iS (fe xs ys k j) p cS DS u⟩] [⟨28,3,z,y,(tl).length,(tl).flatMap fJ⟩] [S3 p (lim (ab (fe xs ys k j).num)),S3 DS (lim (fe xs ys k j).den),S3 zc (lim ((0:Int):Rat).den),S3 Z (lim (ab ((0:Int):Rat).num)),Rt tl ((ov k).map fun i=>fe xs ys i (i+1)),Rt d ys,Sr D d,Rt e xs,Sr A e]/\j<=k+1/\(lim (ab (fe xs ys k j).num)).length<=cS/\(lim (fe xs ys k j).den).length<=u) _ ⟨0,Z,c9,zc,ze,zx,rfl,rfl,a.to _ _,Mv _,zl,zm⟩ ?_);rintro _ _ _ ⟨j,p,cS,DS,u,_,bb,rfl,a,hj,L,J⟩;have C:LQ 39500000 (fe xs ys k j):=by rw[mD];exact hcv k j oM hj
 refine cQ (aa a ax ?_);cases O:(decide ((j:Int)<=(k:Int)))
 .
  have zd:=oF O;refine lB 18 O (ag (CG.exit ?_))
  show CG _ _ _ _ _ _ _ _
  refine kQ (lL a [.c,.o (rG (fe xs ys k j) p cS DS u) 0 0 3] (lR 36 28 1 (iS (fe xs ys k j) p cS DS u) a (fun zA _ _ a=>lY 37 0 28 3 y z tl fJ ((af (fe xs ys k j).num,qS p ((lim (ab (fe xs ys k j).num)).length) cS,qS DS ((lim (fe xs ys k j).den).length) u):RT) 56 zA (.agg #[qF,sZ,sZ]) a a.f.1 (fun zB zD _ zE a=>lL a ac (lN (kQ (lL a ac (bv 14 ((k:Nat)+1) (k+1) ?_))))))));refine lL a ac (lD ?_);intro a_ X;replace a:=(a.tl.tl.tl.tl.tl.tl.add (K:=Rt (tl++[((af (fe xs ys k j).num,qS p ((lim (ab (fe xs ys k j).num)).length) cS,qS DS ((lim (fe xs ys k j).den).length) u):RT)]) ((ov (k+1)).map fun i=>fe xs ys i (i+1))) (by rw[Of,Og];exact (a.f.q.2.1).snoc (by show RQ _ _ (fe xs ys k (k+1));rw[show k+1=j by omega];exact ⟨_,_,_,_,rfl,L,J,a.f.2.1,a.f.r.1⟩)));replace a:=a.drop 1 0;refine ⟨_,_,?_,⟨k+1,zB,zD,tl++[((af (fe xs ys k j).num,qS p ((lim (ab (fe xs ys k j).num)).length) cS,qS DS ((lim (fe xs ys k j).den).length) u):RT)],zE,rfl,rfl,a.to _ _,oM⟩,X.to _ kR⟩
  omega
 have zd:=oT O;refine lB 18 O (ak (cK (cQ (kZ (cR 13 [] mixed a ar ?_)))));refine eO 0 21 [(0,0,3)] (rG (fe xs ys k j) p cS DS u) a (eV 1 22 (qS A e.length F) (eV 2 23 (nV j) (eX 3 24 A e.length F 3 (j:Nat) j ((a.f.q.q.1).ok oM) ?_)));obtain ⟨Ax,cx,Dx,dx,ex,S,hdx,hAx,hDx⟩:=(a.f.q.r.2.1).at_ j oM;replace a:=a.aP hAx hDx;refine vw 4 25 (rA (e.getD j iU)) a ((a.f.q.q.r.1).el j oM) ex (eV 5 26 (qS D d.length H) (eV 6 27 (nV k) (eV 7 28 (nV j) (j4 8 29 ((k:Nat)-(j:Nat)) (k-j) (eX 9 30 D d.length H 3 (k-j:Nat) (k-j) ((a.f.q.q.1).ok oM) ?_)))));obtain ⟨Ay,cy,Dy,dy,ey,hcy,hdy,hAy,V⟩:=(a.f.q.r.2.1).at_ (k-j) oM;replace a:=a.aP hAy V;refine vw 10 31 (rA (d.getD (k-j) iU)) a ((a.f.q.q.r.1).el (k-j) oM) ey ?_;have Y:=LQ.mul (ha j) (Q (k-j));refine eC 11 32 a (fun _ _ a=>FN (xs.getD j 0) Ax cx Dx dx S hdx (nl (ha j)) (nD (ha j)) (ys.getD (k-j) 0) Ay cy Dy dy hcy hdy (nl (Q (k-j))) (nD (Q (k-j))) _ _ a.g a.f.r.2.1 a.f.r.1 a.f.2.1 a.f.1) ?_;rintro _ _ _ _ _ a ⟨zG,zH,zI,zJ,rfl,zp,zq,zr,zs⟩;replace a:=a.aP zr zs;have bd:=LQ.add C Y;refine eC 12 33 a (fun _ _ a=>GD (fe xs ys k j) p cS DS u L J (nl C) (nD C) ((xs.getD j 0)*(ys.getD (k-j) 0)) zG zH zI zJ zp zq (nl Y) (nD Y) _ _ a.g a.f.q.r.1 a.f.q.r.2.1 a.f.2.1 a.f.1) ?_;rintro _ _ _ _ _ a ⟨zg,zi,zj,zk,rfl,zt,zu,zv,zw⟩;replace a:=a.aP zv zw;refine bS a (fun _ zK a=>tP 13 0 0 (iS ((fe xs ys k j)+((xs.getD j 0)*(ys.getD (k-j) 0))) zg zi zj zk) a (fun _ a=>tN (kQ (lL a ac (bv 20 ((j:Nat)+1) (j+1) ?_)))));refine lL a ac (lD ?_);intro a_ X;replace a:=((a.tl.tl.tl.tl.tl.tl.tl.tl.tl.tl.aS a.f.1).aS a.f.2.1);refine ⟨_,_,?_,⟨j+1,zg,zi,zj,zk,zK,rfl,rfl,a.to _ _,oM,zt,zu⟩,X.to _ kR⟩
 omega
theorem ik (A:Z9)(Y:Nat)(xs:List Rat)(y:List RT)(D:Z9)(C:Nat)(ys:List Rat)(d:List RT)(m:Nat)(hxm:xs.length=m)(bk:m<=1000)(hym:ys.length=m)(ha:∀ j,LQ 39500000 (xs.getD j 0))(B:∀ j,LQ 39500000 (ys.getD j 0))(hqd:∀ j,LQ 39500000 ((eN xs ys m).getD j 0))(hqr:∀ i j,i<m->j<=i->LQ 100000000 (xs.getD i 0-ee (eN xs ys m) ys i j))(hb0:ys.getD 0 0≠0)(w:World)(h:Hp)(g:G w h)(hA:Sr A y h)(hTa:RTs h y xs)(hD:Sr D d h)(hTb:RTs h d ys):CR 96 #[.slice A y.length Y,.slice D d.length C] w h (fun v h1=>∃ A c ts,v=.slice A (ts:List RT).length c/\ts.length<=c/\Sr A ts h1/\RTs h1 ts (eN xs ys m)):=by
 have a:=(((((sS g).aS hA).aT hTa).aS hD).aT hTb);have hla:=(a.f.r.1).len;have hlb:=(a.f.1).len;have hbn:=Hw hb0;refine go Tryz.func96 [(0,qS A y.length Y),(1,qS D d.length C)] rfl (aa a ac (aG (lL a ac (ah (aa a ac (aZ ?_))))));replace a:=a.nil 28 3;replace a:=a.aT (RTs.nil);refine bH _ (CG.loop (fun I Γ w_=>∃ (k:Nat)(M:Z9)(L:Nat)(tl:List RT)(h_:Hp),I=xs.length-k/\Γ=[(0,qS A y.length Y),(1,qS D d.length C),(4,sZ),(6,nV k),(5,qS M ((tl).length) L)]/\SS w h w_ h_ [] [⟨28,3,M,L,(tl).length,(tl).flatMap fJ⟩] [Rt tl (dr xs ys k),Rt d ys,Sr D d,Rt y xs,Sr A y]/\k<=xs.length) _ ⟨0,none,0,[],h,rfl,rfl,a.to _ _,Mv _⟩ ?_);rintro _ _ w1 ⟨k,M,L,tl,h2,hm3,rfl,a,hk⟩;have hlT:=(a.f.1).len;rw[iK] at hlT
 have F:=xZ (xs:=xs) (ys:=ys) (k:=k) (m:=m) kD oM hqd;refine cQ (aa a [.c,.c,.v (nV y.length)] ?_);cases z:(decide ((k:Int)<(y.length:Int)))
 .
  have O:=oF z;refine lB 12 z (ag (CG.exit ?_))
  show CG _ _ _ _ _ _ _ _
  refine aa a ax (lN (kX ?_));obtain ⟨h5,a,hc6⟩:=a.pubr 0 (A:=M) (c:=L) (l:=tl) (f:=fJ) (ty:=28) (sz:=3) iU (fun _=>rfl);exact a.ret [] (qS M ((tl).length) L) (by rw[show m=k by omega,jQ];exact ⟨_,_,tl,rfl,hc6,a.f.1,a.f.2.1⟩)
 have O:=oT z;refine lB 12 z (ak (cK (cQ (kZ (aa a ax (lX 17 A y.length Y 3 (k:Nat) k ((a.f.q.1).ok oM) ?_))))));obtain ⟨Ax,cx,Dx,dx,ex,hcx,hdx,hAx,hDx⟩:=(a.f.r.2.1).at_ k oM;replace a:=a.aP hAx hDx;refine HY 18 (rA (y.getD k iU)) a ((a.f.q.r.1).el k oM) ex (lA 7 28 ca a (fun b8 w9 zG a=>lP 0 0 (iS (xs.getD k 0) Ax cx Dx dx) a (fun _ a=>ah (aa a ac (aZ ?_)))));replace a:=a.aS a.f.1;replace a:=a.aS a.f.r.1;replace a:=a.aT (a.f.q.1);refine bH _ (CG.loop (fun I Γ w_=>∃ (j:Nat)(u:Z9)(e:Nat)(o:List RT)(H:Z9)(cS:Nat)(DS:Z9)(J:Nat)(h_:Hp),I=k-j/\Γ=[(0,qS A y.length Y),(1,qS D d.length C),(4,sZ),(6,nV k),(5,qS u ((o).length) e),(7,pB b8),(8,nV j)]/\SS w h w_ h_ [⟨b8,28,iS (e7 xs ys (dr xs ys k) k j) H cS DS J⟩] [⟨28,3,u,e,(o).length,(o).flatMap fJ⟩] [Rt o (dr xs ys k),S3 H (lim (ab (e7 xs ys (dr xs ys k) k j).num)),S3 DS (lim (e7 xs ys (dr xs ys k) k j).den),S3 Dx (lim (xs.getD k 0).den),S3 Ax (lim (ab (xs.getD k 0).num)),Rt tl (dr xs ys k),Rt d ys,Sr D d,Rt y xs,Sr A y]/\j<=k/\(lim (ab (e7 xs ys (dr xs ys k) k j).num)).length<=cS/\(lim (e7 xs ys (dr xs ys k) k j).den).length<=J) _ ⟨0,M,L,tl,Ax,cx,Dx,dx,zG,rfl,rfl,a.to _ _,Mv _,hcx,hdx⟩ ?_);rintro _ _ _ ⟨j,u,e,o,H,cS,DS,J,_,bb,rfl,a,hj,S,Q⟩;have X:=(a.f.1).len;rw[iK] at X
 have x:LQ 100000000 (e7 xs ys (dr xs ys k) k j):=xr (m:=m) oM hj hqr;refine cQ (aa a ax ?_);cases za:(decide ((j:Int)<(k:Int)))
 .
  have zi:=oF za;refine lB 21 za (ag (CG.exit ?_))
  show CG _ _ _ _ _ _ _ _
  refine CG.region ⟨((Value.slice u ((o).length) e).ownBlock.toList),none⟩ 8 [] mixed kR a.g ar (a.ro_lt 0 (ty:=28) (sz:=3) (A:=u) (c:=e) (m:=(o).length) (cs:=(o).flatMap fJ)) (eV 0 37 (qS u ((o).length) e) (eO 1 38 [(0,0,3)] (rG (e7 xs ys (dr xs ys k) k j) H cS DS J) a ?_ (hM:=fun p hp=>by obtain rfl:=sA.1 hp;exact a.ro_ne 0 0 (ty:=28) (sz:=3) (A:=u) (c:=e) (m:=(o).length) (cs:=(o).flatMap fJ))));refine eV 2 39 (qS D d.length C) (eX 3 40 D d.length C 3 0 0 ((a.f.q.r.2.1).ok oM) ?_);obtain ⟨Az,cz,Dz,dz,ez,hcz,hdz,hAz,hDz⟩:=(a.f.q.r.1).at_ 0 oM;replace a:=a.aP hAz hDz;refine vw 4 41 (rA (d.getD 0 iU)) a ((a.f.q.q.2.1).el 0 oM) ez ?_ (hM:=a.ro_jk 0 (ty:=28) (sz:=3) (A:=u) (c:=e) (m:=(o).length) (cs:=(o).flatMap fJ));have bd:=LQ.div x (B 0);refine eC 5 42 a (fun _ _ a=>KH (e7 xs ys (dr xs ys k) k j) H cS DS J S Q (nl x) (nD x) (ys.getD 0 0) Az cz Dz dz hcz hdz (nl (B 0)) (nD (B 0)) hbn _ _ a.g a.f.r.2.1 a.f.q.1 a.f.2.1 a.f.1) ?_;rintro _ _ _ _ _ a ⟨U,V,W,Z,rfl,zq,zr,zs,zt⟩;replace a:=a.aP zs zt;refine eR 6 43 28 1 (iS ((e7 xs ys (dr xs ys k) k j)/(ys.getD 0 0)) U V W Z) a (fun zH _ _ a=>eY 7 44 0 28 3 e u o fJ ((af ((e7 xs ys (dr xs ys k) k j)/(ys.getD 0 0)).num,qS U ((lim (ab ((e7 xs ys (dr xs ys k) k j)/(ys.getD 0 0)).num)).length) V,qS W ((lim ((e7 xs ys (dr xs ys k) k j)/(ys.getD 0 0)).den).length) Z):RT) 56 zH (.agg #[qF,sZ,sZ]) a (fun _ f_=>f_.1) (fun b B=>NE.2 B) (fun zk zl _ _ a=>bS a (fun _ zI a=>tV 8 5 (qS zk ((o++[((af ((e7 xs ys (dr xs ys k) k j)/(ys.getD 0 0)).num,qS U ((lim (ab ((e7 xs ys (dr xs ys k) k j)/(ys.getD 0 0)).num)).length) V,qS W ((lim ((e7 xs ys (dr xs ys k) k j)/(ys.getD 0 0)).den).length) Z):RT)]).length) zl) (tN (kQ (lL a ac (bv 14 ((k:Nat)+1) (k+1) ?_)))))));refine lL a ac (lD ?_);intro a_ ka;replace a:=(a.tl.tl.tl.tl.tl.tl.tl.tl.tl.tl.tl.add (K:=Rt (o++[((af ((e7 xs ys (dr xs ys k) k j)/(ys.getD 0 0)).num,qS U ((lim (ab ((e7 xs ys (dr xs ys k) k j)/(ys.getD 0 0)).num)).length) V,qS W ((lim ((e7 xs ys (dr xs ys k) k j)/(ys.getD 0 0)).den).length) Z):RT)]) (dr xs ys (k+1))) ((a.f.q.2.1).snoc (RQ.eq (oR zq zr a.f.r.1 a.f.2.1) (by rw[show j=k by omega]))));replace a:=a.drop 1 0;refine ⟨_,_,?_,⟨k+1,zk,zl,o++[((af ((e7 xs ys (dr xs ys k) k j)/(ys.getD 0 0)).num,qS U ((lim (ab ((e7 xs ys (dr xs ys k) k j)/(ys.getD 0 0)).num)).length) V,qS W ((lim ((e7 xs ys (dr xs ys k) k j)/(ys.getD 0 0)).den).length) Z):RT)],zI,rfl,rfl,a.to _ _,oM⟩,ka.to _ kR⟩
  omega
 have zi:=oT za;refine lB 21 za (ak (cK (cQ (kZ (cR 13 [] mixed a ar ?_)))));refine eO 0 24 [(0,0,3)] (rG (e7 xs ys (dr xs ys k) k j) H cS DS J) a (eV 1 25 (qS u ((o).length) e) (eV 2 26 (nV j) ?_));obtain ⟨zf,zj⟩:=a.rowA 0 (A:=u) (c:=e) (m:=(o).length) (ty:=28) (sz:=3) (cs:=(o).flatMap fJ) oM;subst zj;refine eX 3 27 (sB zf) ((o).length) e 3 (j:Nat) j rfl ?_;obtain ⟨Av,cv,Dv,dv,ev,hcv,hdv,hAv,hDv⟩:=(a.f.1).at_ j (by rw[iK];omega);replace a:=a.aP hAv hDv;refine FB (ty:=28) (sz:=3) (c:=e) (m:=(o).length) (b:=zf) (cs:=(o).flatMap fJ) 4 28 0 (rG ((dr xs ys k).getD j 0) Av cv Dv dv) (iS ((dr xs ys k).getD j 0) Av cv Dv dv) a ((fF (f:=fJ) (sz:=3) (fun _=>rfl) iU o j oM).trans (vW ev)) (eV 5 29 (qS D d.length C) (eV 6 30 (nV k) (eV 7 31 (nV j) (j4 8 32 ((k:Nat)-(j:Nat)) (k-j) (eX 9 33 D d.length C 3 (k-j:Nat) (k-j) ((a.f.q.q.2.1).ok oM) ?_)))));obtain ⟨Ay,cy,Dy,dy,ey,hcy,hdy,hAy,hDy⟩:=(a.f.q.q.1).at_ (k-j) oM;replace a:=a.aP hAy hDy;refine vw 10 34 (rA (d.getD (k-j) iU)) a ((a.f.q.q.r.2.1).el (k-j) oM) ey ?_;have zg:=LQ.mul (F j) (B (k-j));refine eC 11 35 a (fun _ _ a=>FN ((dr xs ys k).getD j 0) Av cv Dv dv hcv hdv (nl (F j)) (nD (F j)) (ys.getD (k-j) 0) Ay cy Dy dy hcy hdy (nl (B (k-j))) (nD (B (k-j))) _ _ a.g a.f.r.2.1 a.f.r.1 a.f.2.1 a.f.1) ?_;rintro _ _ _ _ _ a ⟨zJ,zK,zL,zM,rfl,zu,zv,zw,zx⟩;replace a:=a.aP zw zx;have bf:=LQ.sub x zg;refine eC 12 36 a (fun _ _ a=>J4 (e7 xs ys (dr xs ys k) k j) H cS DS J S Q (nl x) (nD x) (((dr xs ys k).getD j 0)*(ys.getD (k-j) 0)) zJ zK zL zM zu zv (nl zg) (nD zg) _ _ a.g a.f.q.r.2.1 a.f.q.q.1 a.f.2.1 a.f.1) ?_;rintro _ _ _ _ _ a ⟨zm,zn,zo,zp,rfl,zA,zB,zD,zE⟩;replace a:=a.aP zD zE;refine bS a (fun _ zN a=>tP 13 0 0 (iS ((e7 xs ys (dr xs ys k) k j)-(((dr xs ys k).getD j 0)*(ys.getD (k-j) 0))) zm zn zo zp) a (fun _ a=>tN (kQ (lL a ac (bv 23 ((j:Nat)+1) (j+1) ?_)))));refine lL a ac (lD ?_);intro a_ ka;replace a:=(((a.tl.tl.tl.tl.tl.tl.tl.tl.tl.tl.tl.aS a.f.1).aS a.f.2.1).aT a.f.q.q.1);refine ⟨_,_,?_,⟨j+1,sB zf,e,o,zm,zn,zo,zp,zN,rfl,rfl,a.to _ _,oM,zA,zB⟩,ka.to _ kR⟩
 omega
theorem dl {q:Rat}(h:q.num.sign≠0):q≠0:=fun e=>h (by rw[e];rfl)
theorem oC {q:Rat}(h:q.num.sign=0):q=0:=Nv.1 (NI.1 h)
section
variable {op n:Int}{a b:Rat}{xs ys:List Rat}
theorem gj (h:op≠6)(c:op≠8):vm op n a b:=⟨fun e=>absurd e h,fun e=>absurd e c⟩
theorem Jf (h:b≠0):vm 6 n a b:=⟨fun _=>h,fun e=>absurd e kD⟩
theorem uO (h:n<0->a≠0):vm 8 n a b:=⟨fun e=>absurd e kD,fun _=>h⟩
theorem wN (h:op=6)(c:b.num.sign=0):¬vm op n a b:=fun x=>x.1 h (oC c)
theorem BE (h:op=8)(hn:n<0)(c:a.num.sign=0):¬vm op n a b:=fun x=>x.2 h hn (oC c)
theorem EV (h:op=12\/op=13)(c:di a b=0):Bj op a b:=.inr ⟨h,g9.1 c⟩
theorem JH (h:op=9\/op=10)(c:a.num.sign=0):Bj op a b:=.inl ⟨h,oC c⟩
theorem nB (h:op≠9)(c:op≠10)(d:op≠12/\op≠13):¬Bj op a b:=fun x=>by
 rcases x with ⟨x,_⟩|⟨x,_⟩<;>omega
theorem pq (h:op=12\/op=13)(c:di a b≠0):¬Bj op a b:=fun x=>by
 rcases x with ⟨x,_⟩|⟨_,y⟩
 ·omega
 ·exact c (g9.2 y)
theorem sI (h:op=9\/op=10)(c:a.num.sign≠0):¬Bj op a b:=fun x=>by
 rcases x with ⟨_,y⟩|⟨x,_⟩
 ·exact c (by rw[y];rfl)
 ·omega
end
section
variable {op n:Int}{m W V U:Nat}{xs ys:List Rat}
theorem SzR.b {a:List Rat}(h:SzR W a)(d:a.length=m)(c:m<=13)(e:W<=1519230)(i:Nat):LQ 39500000 (a.getD i 0):=(h.lq oM i).mono oM
theorem SzR.cb {a b:List Rat}(ha:SzR W a)(c:SzR V b)(e:m<=13)(f:W+V+1<=1519230)(i j:Nat)(hi:i<m)(d:j<=i+1):LQ 39500000 (ee a b i j):=(ha.lq_cnv c oM d).mono oM
theorem SzR.qb {a b q:List Rat}(ha:SzR W a)(d:SzR V b)(f:SzR U q)(l:m<=13)(h:W+U+V<=3800000)(i j:Nat)(hi:i<m)(o:j<=i):LQ 100000000 (a.getD i 0-ee q b i j):=by
 have e:LQ (26*W+4) (a.getD i 0):=by
  obtain ⟨D,A,h0,h1,c⟩:=ha;have:=Lz W (show i+1<=13 by omega);exact (oK h0 h1 (c i).1 (by rw[LB];exact (c i).2)).mono oM
 exact (e.sub (f.lq_cnv d oM oM)).mono oM
theorem t8 (a:xs.length=m)(h:(xs.getD 0 0).num.sign≠0):dt m xs (((xs.getD 0 0).num.sign:Int):Rat)=fB m xs:=by
 unfold fB
 by_cases k:(xs.getD 0 0).num.sign<0
 ·rw[if_pos k,EU k]
 ·rw[if_neg k,KG oM]
  refine sv (m:=m) (fx _ _ _) a fun i hi=>?_
  show (dt m xs _).getD i 0=xs.getD i 0
  rw[o7 _ _ hi,i1];grind
theorem vO:cY m xs ys=cY m ys xs:=by
 unfold cY
 exact NO fun i _=>Rat.add_comm _ _
def Fm (op n:Int)(m:Nat)(a b:List Rat):List Rat:=if dN op n (a.getD 0 0) (b.getD 0 0)=0 then gR op n m a b else []
theorem Iy (h:¬vm op n (xs.getD 0 0) (ys.getD 0 0)):dN op n (xs.getD 0 0) (ys.getD 0 0)=6/\Fm op n m xs ys=[]:=by
 have c:op≠11:=fun e=>h ⟨fun a=>by omega,fun a=>by omega⟩
 have e:dN op n (xs.getD 0 0) (ys.getD 0 0)=6:=(eZ c).trans (if_neg h);exact ⟨e,if_neg (by rw[e];decide)⟩
theorem Ip (h:vm op n (xs.getD 0 0) (ys.getD 0 0))(k:Bj op (xs.getD 0 0) (ys.getD 0 0)):dN op n (xs.getD 0 0) (ys.getD 0 0)=7/\Fm op n m xs ys=[]:=by
 have e:dN op n (xs.getD 0 0) (ys.getD 0 0)=7:=by
  unfold dN;split
  ·rfl
  ·exact (if_pos h).trans (if_pos k)
 exact ⟨e,if_neg (by rw[e];decide)⟩
theorem ET (h:op=9\/op=10\/op=11)(a:(xs.getD 0 0).num.sign=0):dN op n (xs.getD 0 0) (ys.getD 0 0)=7/\Fm op n m xs ys=[]:=by
  have e:dN op n (xs.getD 0 0) (ys.getD 0 0)=7:=by
    unfold dN;split
    . rfl
    . rename_i k
      have c:op=9\/op=10:=by
        rcases h with h|h|h
        . exact .inl h
        . exact .inr h
        . exact absurd ⟨h,oC a⟩ k
      exact (if_pos (gj oM oM)).trans (if_pos (JH c a))
  exact ⟨e,if_neg (by rw[e];decide)⟩
theorem fv (h:vm op n (xs.getD 0 0) (ys.getD 0 0))(k:¬Bj op (xs.getD 0 0) (ys.getD 0 0))(a:op=11->xs.getD 0 0≠0):dN op n (xs.getD 0 0) (ys.getD 0 0)=0/\Fm op n m xs ys=gR op n m xs ys:=by
 have e:dN op n (xs.getD 0 0) (ys.getD 0 0)=0:=by
  unfold dN;rw[if_neg (fun x=>a x.1 x.2)]
  exact (if_pos h).trans (if_neg k)
 exact ⟨e,if_pos e⟩
theorem Fj (h:op=12/\0<di (xs.getD 0 0) (ys.getD 0 0)\/op=13/\¬0<di (xs.getD 0 0) (ys.getD 0 0))(a:di (xs.getD 0 0) (ys.getD 0 0)≠0):gR op n m xs ys=xs:=by
 rcases h with ⟨rfl,h⟩|⟨rfl,h⟩
 ·rw[kw,if_pos (i9.1 h)]
 ·have h1:=iY.1 (show di (xs.getD 0 0) (ys.getD 0 0)<0 by omega)
  rw[ke,if_neg (by grind)]
theorem FH (h:op=13/\0<di (xs.getD 0 0) (ys.getD 0 0)\/op=12/\¬0<di (xs.getD 0 0) (ys.getD 0 0))(a:di (xs.getD 0 0) (ys.getD 0 0)≠0):gR op n m xs ys=ys:=by
 rcases h with ⟨rfl,h⟩|⟨rfl,h⟩
 ·rw[ke,if_pos (i9.1 h)]
 ·have h1:=iY.1 (show di (xs.getD 0 0) (ys.getD 0 0)<0 by omega)
  rw[kw,if_neg (by grind)]
end
theorem xa (q:Rat)(j:Z9)(c1:Nat)(f:Z9)(e:Nat)(o:(lim (ab q.num)).length<=c1)(l:(lim q.den).length<=e)(n k:Nat)(hn:n=k)(hk:k<=12)(w:World)(h:Hp)(g:G w h)(d:S3 j (lim (ab q.num)) h)(i:S3 f (lim q.den) h):CR 54 #[rG q j c1 f e,nV n] w h (fun v h1=>∃ A c a,v=.slice A (a:List RT).length c/\a.length<=c/\Sr A a h1/\RTs h1 a (bw (k+1) q)):=by
 subst hn;exact vX q j c1 f e o l n oM w h g d i
theorem lw (op n:Int)(A:Z9)(z:Nat)(xs:List Rat)(i:List RT)(D:Z9)(H:Nat)(ys:List Rat)(e:List RT)(hcA:i.length<=z)(hcD:e.length<=H)(k:Nat)(d:k+1<=13)(Wx Wy:Nat)(u:xs.length=k+1)(S:3<=op/\op<=6\/12<=op->ys.length=k+1)(p:SzR Wx xs)(Q:SzR Wy ys)(hWx:Wx<=256000)(hWy:Wy<=256000)(hzw:op=8->n.natAbs*(Wx+1)<=700000)(hop:3<=op/\op<=13)(hn:op=8 -> -12<=n/\n<=12)(w:World)(h:Hp)(g:G w h)(hA:Sr A i h)(hTa:RTs h i xs)(hD:Sr D e h)(hTb:RTs h e ys):CR 56 #[iV op,iV n,.slice A i.length z,.slice D e.length H,.bool false] w h (fun v h1=>∃ A c ts,v=.tuple #[.slice A (ts:List RT).length c,iV (dN op n (xs.getD 0 0) (ys.getD 0 0))]/\ts.length<=c/\Sr A ts h1/\RTs h1 ts (Fm op n (k+1) xs ys)):=by
 have a:=(((((sS g).aS hA).aT hTa).aS hD).aT hTb);have hla:=(a.f.r.1).len;have hlb:=(a.f.1).len;have hsx:=li (xs.getD 0 0).num;have hsy:=li (ys.getD 0 0).num;refine go Tryz.func56 [(0,iV op),(1,iV n),(2,qS A i.length z),(3,qS D e.length H),(4,qF)] rfl (aa a ax (aG (lL a [.c,.v (nV i.length)] (bv 20 ((i.length:Nat)-1) (i.length-1) ?_))));refine lL a ac (aG (lC 21 a (vR 1 oM oM _ _ a.g) ?_));rintro _ w9 _ a ⟨A1,c2,A5,c6,rfl,hc3,hc7,hA4,hA8⟩;replace a:=a.aP hA4 hA8;refine lL a ac (lC 23 a (xa ((1:Int):Rat) A1 c2 A5 c6 hc3 hc7 ((i.length-1)) k oM oM _ _ a.g a.f.2.1 a.f.1) ?_);rintro _ _ YP a ⟨J,U,F,rfl,zW,ZD,ZE⟩;replace a:=((a.aS ZD).aT ZE);refine lL a ac (ah (aa a ac (aZ (aD ?_))));cases zp:((op:Int) == (3:Int))
 .
  have yr:=aj zp;refine lB 26 zp (lL a ac (ag (aD ?_)));cases zq:((op:Int) == (4:Int))
  .
   have yt:=aj zq;refine lB 31 zq (lL a ac (ag (aD ?_)));cases zr:((op:Int) == (7:Int))
   .
    have yu:=aj zr;refine lB 38 zr (lL a ac (ag (aD ?_)));cases zs:((op:Int) == (5:Int))
    .
     have yv:=aj zs;refine lB 43 zs (lL a ac (ag (aD ?_)));cases zt:((op:Int) == (6:Int))
     .
      have yw:=aj zt;refine lB 48 zt (lL a ac (ag (aD ?_)));cases zu:((op:Int) == (8:Int))
      .
       have yx:=aj zu;refine lB 58 zu (lL a ac (ag (cQ (aD ?_))));cases zv:((op:Int) == (12:Int))
       .
        have yA:=aj zv;refine lB 87 zv (lL a ac (ag (kQ ?_)));cases zw:((op:Int) == (13:Int))
        .
         have yB:=aj zw;refine lB 88 zw (lL a ac (ag (cK (aa a ac (lX 108 A i.length z 3 0 0 ((a.f.q.r.2.1).ok oM) ?_)))));obtain ⟨Ax,cx,Dx,dx,ex,K,M,O,L⟩:=(a.f.q.r.1).at_ 0 oM;replace a:=a.aP O L;refine HY 109 (rA (i.getD 0 iU)) a ((a.f.q.q.2.1).el 0 oM) ex (aq 110 a (xW (xs.getD 0 0) Ax cx Dx dx K M (nl (SzR.b p u d oM 0)) (nD (SzR.b p u d oM 0)) _ _ a.g a.f.2.1 a.f.1) (fun _ _ a=>lL a ac (ah (kZ (aa a ac ?_)))));cases zx:((op:Int) == (11:Int))
         .
          have yC:=aj zx;refine lB 113 zx (lL a ac (lG 115 ?_));refine lG 116 (lL a [.v qF,.c] (lG 119 ?_));refine lL a [.v qF,.c] (lN (bH [(0,iV op),(2,qS A i.length z),(10,sZ),(11,iV 0),(12,nV (i.length-1)),(13,qS J F.length U),(17,iV ((xs.getD 0 0).num.sign)),(111,qF)] ?_));refine dC (aa a ac ?_);cases zA:(((xs.getD 0 0).num.sign:Int) == (0:Int))
          .
           have yD:=aj zA;refine lB 124 zA (lL a ac (ag (aa a ac ?_)));cases zB:((op:Int) == (9:Int))
           .
            have yE:=aj zB;refine lB 127 zB (lL a ac (ag (aa a ac ?_)));have zX:((op:Int) == (11:Int))=false:=fh oM;have bz:=aj zX;refine lB 134 zX (lL a ac (ag (aa a ac ?_)));cases zD:(decide ((0:Int)<((xs.getD 0 0).num.sign:Int)))
            .
             have yF:=oF zD;refine lB 145 zD (lL a ac (ag (cK (aD (lC 147 a (vR 0 oM oM _ _ a.g) ?_)))));rintro _ _ _ a ⟨YQ,YR,YS,YT,rfl,ZF,ZG,ZH,ZI⟩;replace a:=a.aP ZH ZI;refine lL a ac (lC 149 a (xa ((0:Int):Rat) YQ YR YS YT ZF ZG ((i.length-1)) k oM oM _ _ a.g a.f.2.1 a.f.1) ?_);rintro _ _ _ a ⟨YU,YV,ya,rfl,ZJ,ZK,ZL⟩;replace a:=((a.aS ZK).aT ZL);refine lL a ax (lN (kX ?_));obtain rfl:op=10:=by omega
             exact a.ret [] (.tuple #[qS YU ya.length YV,iV 0]) (by obtain ⟨o,l⟩:=fv (op:=10) (n:=n) (m:=k+1) (xs:=xs) (ys:=ys) (gj oM oM) (sI oM oM) (fun y=>absurd y oM);rw[o,l,show gR 10 n (k+1) xs ys=(bw (k+1) ((0:Int):Rat)) from (by rw[kc,if_neg oM];rfl)];exact ⟨_,_,ya,rfl,ZJ,a.f.2.1,a.f.1⟩)
            have yF:=oT zD;refine lB 145 zD (lL a ac (ak (aa a cJ (lN (kX ?_)))));obtain rfl:op=10:=by omega
            exact a.ret [] (.tuple #[qS A i.length z,iV 0]) (by obtain ⟨o,l⟩:=fv (op:=10) (n:=n) (m:=k+1) (xs:=xs) (ys:=ys) (gj oM oM) (sI oM oM) (fun y=>absurd y oM);rw[o,l,show gR 10 n (k+1) xs ys=xs from (by rw[kc,if_pos oM])];exact ⟨_,_,i,rfl,hcA,a.f.q.q.2.1,a.f.q.q.1⟩)
           have yE:=eq_of_beq zB;refine lB 127 zB (lL a ac (ak (aa a ax ?_)));have b5:LQ (1) ((((xs.getD 0 0).num.sign:Int):Rat)):=LQ.int oM oM;refine lC 130 a (vR ((xs.getD 0 0).num.sign) oM oM _ _ a.g) ?_;rintro _ _ _ a ⟨YW,YX,A56,c57,rfl,ZM,ZN,ZO,ZP⟩;replace a:=a.aP ZO ZP;refine lC 131 a ((by have B:=kW A z xs i (((xs.getD 0 0).num.sign:Int):Rat) YW YX A56 c57 ZM ZN (k+1) u oM (SzR.b p u d oM) (LQ.int oM oM) _ _ a.g a.f.q.q.r.2.1 a.f.q.q.r.1 a.f.2.1 (a.f.1);rw[t8 u oM] at B;exact B)) ?_;rintro _ _ _ a ⟨A63,c64,yb,rfl,ZQ,ZR,ZS⟩;replace a:=((a.aS ZR).aT ZS);refine lL a ax (lN (kX ?_));obtain rfl:op=9:=by omega
           exact a.ret [] (.tuple #[qS A63 yb.length c64,iV 0]) (by obtain ⟨o,l⟩:=fv (op:=9) (n:=n) (m:=k+1) (xs:=xs) (ys:=ys) (gj oM oM) (sI oM oM) (fun y=>absurd y oM);rw[o,l,show gR 9 n (k+1) xs ys=(fB (k+1) xs) from rfl];exact ⟨_,_,yb,rfl,ZQ,a.f.2.1,a.f.1⟩)
          have yD:=eq_of_beq zA;exact lB 124 zA (lL a ac (ak (aa a ax (ae a [] (.tuple #[sZ,iV 7]) (by obtain ⟨o,l⟩:=ET (op:=op) (n:=n) (m:=k+1) (xs:=xs) (ys:=ys) oM oM;rw[o,l];exact ⟨none,0,[],rfl,nR _,SlO.nil,RTs.nil⟩)))))
         have yC:=eq_of_beq zx;refine lB 113 zx (lL a ax ?_);cases zE:(((xs.getD 0 0).num.sign:Int) == (0:Int))
         .
          have yG:=aj zE;refine lB 116 zE (lL a [.v qF,.c] (lG 119 ?_));refine lL a [.v qF,.c] (lN (bH [(0,iV op),(2,qS A i.length z),(10,sZ),(11,iV 0),(12,nV (i.length-1)),(13,qS J F.length U),(17,iV ((xs.getD 0 0).num.sign)),(111,qF)] ?_));refine dC (aa a ac ?_);have yc:(((xs.getD 0 0).num.sign:Int) == (0:Int))=false:=fh oM;have b0:=aj yc;refine lB 124 yc (lL a ac (ag (aa a ac ?_)));have yd:((op:Int) == (9:Int))=false:=fh oM;have b3:=aj yd;refine lB 127 yd (lL a ac (ag (aa a ac ?_)));have ye:((op:Int) == (11:Int))=true:=pE oM;have b1:=eq_of_beq ye;refine lB 134 ye (lL a ac (ak (aa a m4 ?_)));have b4:LQ (1) ((((xs.getD 0 0).num.sign:Int):Rat)):=LQ.int oM oM;refine lC 139 a (vR ((xs.getD 0 0).num.sign) oM oM _ _ a.g) ?_;rintro _ _ _ a ⟨A75,c76,A79,c80,rfl,ZT,ZU,ZV,ZW⟩;replace a:=a.aP ZV ZW;refine lC 140 a ((by have B:=kW A z xs i (((xs.getD 0 0).num.sign:Int):Rat) A75 c76 A79 c80 ZT ZU (k+1) u oM (SzR.b p u d oM) (LQ.int oM oM) _ _ a.g a.f.q.q.r.2.1 a.f.q.q.r.1 a.f.2.1 (a.f.1);rw[t8 u oM] at B;exact B)) ?_;rintro _ _ _ a ⟨A86,c87,ZX,rfl,b7,Ya,Yb⟩;replace a:=((a.aS Ya).aT Yb);refine lC 141 a ((by have B:=rM J U (bw (k+1) ((1:Int):Rat)) F A86 c87 (fB (k+1) xs) ZX (k+1) (bZ _ _) oM (mr u) (SzR.b (SzR.num (LQ.int kD kD) (k+1) (Mx k)) (bZ _ _) d oM) (SzR.b (p.abs (k+1)) (mr u) d oM) _ _ a.g a.f.q.r.2.1 a.f.q.r.1 a.f.2.1 (a.f.1);rw[vO] at B;exact B)) ?_;rintro _ _ _ a ⟨A94,c95,Yc,rfl,b6,Yd,Ye⟩;replace a:=((a.aS Yd).aT Ye);refine lC 142 a ((by have x:=(tE (mR (Mx k) xs):eN xs (cY (k+1) (fB (k+1) xs) (bw (k+1) ((1:Int):Rat))) (k+1)=_);have B:=ik A z xs i A94 c95 (cY (k+1) (fB (k+1) xs) (bw (k+1) ((1:Int):Rat))) Yc (k+1) u oM (f4 _ _ _) (SzR.b p u d oM) (SzR.b ((p.abs (k+1)).add (SzR.num (LQ.int kD kD) (k+1) (Mx k)) (k+1)) (f4 _ _ _) d oM) (by rw[x];exact (SzR.b (p.mul (((p.abs (k+1)).add (SzR.num (LQ.int kD kD) (k+1) (Mx k)) (k+1)).inv (mR (Mx k) xs) (k+1)) (k+1)) (fw _ _ _) d oM)) (by rw[x];exact SzR.qb p ((p.abs (k+1)).add (SzR.num (LQ.int kD kD) (k+1) (Mx k)) (k+1)) (p.mul (((p.abs (k+1)).add (SzR.num (LQ.int kD kD) (k+1) (Mx k)) (k+1)).inv (mR (Mx k) xs) (k+1)) (k+1)) d oM) (mR (Mx k) xs) _ _ a.g a.f.q.q.q.r.2.1 a.f.q.q.q.r.1 a.f.2.1 (a.f.1);rw[x] at B;exact B)) ?_;rintro _ _ _ a ⟨Yf,Yg,zG,rfl,yH,yI,yJ⟩;replace a:=((a.aS yI).aT yJ);refine lL a ax (lN (kX ?_));obtain rfl:op=11:=by omega
          exact a.ret [] (.tuple #[qS Yf zG.length Yg,iV 0]) (by obtain ⟨o,l⟩:=fv (op:=11) (n:=n) (m:=k+1) (xs:=xs) (ys:=ys) (gj oM oM) (nB oM oM oM) (fun _=>dl oM);rw[o,l,show gR 11 n (k+1) xs ys=(dj (k+1) xs (bF (k+1) (cY (k+1) (fB (k+1) xs) (bw (k+1) ((1:Int):Rat))))) from rfl];exact ⟨_,_,zG,rfl,yH,a.f.2.1,a.f.1⟩)
         have yG:=eq_of_beq zE;refine lB 116 zE (lL a [.v qT,.c,.c,.v qF,.c] (lN (bH [(0,iV op),(2,qS A i.length z),(10,sZ),(11,iV 0),(12,nV (i.length-1)),(13,qS J F.length U),(17,iV ((xs.getD 0 0).num.sign)),(111,qF)] ?_)));refine dC (aa a ac ?_);have zH:(((xs.getD 0 0).num.sign:Int) == (0:Int))=true:=pE oM;have bm:=eq_of_beq zH;exact lB 124 zH (lL a ac (ak (aa a ax (ae a [] (.tuple #[sZ,iV 7]) (by obtain ⟨o,l⟩:=ET (op:=op) (n:=n) (m:=k+1) (xs:=xs) (ys:=ys) oM oM;rw[o,l];exact ⟨none,0,[],rfl,nR _,SlO.nil,RTs.nil⟩)))))
        have yB:=eq_of_beq zw;refine lB 88 zw (lL a ac (ak (cQ (cR 7 [] mixed a ar ?_))));refine eV 0 89 (qS A i.length z) (eX 1 90 A i.length z 3 0 0 ((a.f.q.r.2.1).ok oM) ?_);obtain ⟨Ax,cx,Dx,dx,ex,K,M,O,L⟩:=(a.f.q.r.1).at_ 0 oM;replace a:=a.aP O L;refine vw 2 91 (rA (i.getD 0 iU)) a ((a.f.q.q.2.1).el 0 oM) ex (eV 3 92 (qS D e.length H) (eX 4 93 D e.length H 3 0 0 ((a.f.q.r.2.1).ok oM) ?_));obtain ⟨Ay,cy,Dy,dy,ey,hcy,Z,Y,X⟩:=(a.f.q.r.1).at_ 0 oM;replace a:=a.aP Y X;refine vw 5 94 (rA (e.getD 0 iU)) a ((a.f.q.q.2.1).el 0 oM) ey (au 6 95 a (fun _ _ a=>Je (xs.getD 0 0) Ax cx Dx dx K M (nl (SzR.b p u d oM 0)) (nD (SzR.b p u d oM 0)) (ys.getD 0 0) Ay cy Dy dy hcy Z (nl (SzR.b Q (S oM) d oM 0)) (nD (SzR.b Q (S oM) d oM 0)) _ _ a.g a.f.r.2.1 a.f.r.1 a.f.2.1 a.f.1) (fun _ _ a=>bS a (fun _ _ a=>tV 7 16 (iV (di (xs.getD 0 0) (ys.getD 0 0))) (tN (cQ (kZ (aa a ac ?_)))))));cases zd:((di (xs.getD 0 0) (ys.getD 0 0):Int) == (0:Int))
        .
         have yf:=aj zd;refine lB 98 zd (lL a ac (lN (bH [(0,iV op),(2,qS A i.length z),(3,qS D e.length H),(4,qF),(10,sZ),(11,iV 0),(12,nV (i.length-1)),(13,qS J F.length U),(16,iV (di (xs.getD 0 0) (ys.getD 0 0))),(96,qF)] ?_)));refine dC (aa a ac ?_);cases ze:(decide ((0:Int)<(di (xs.getD 0 0) (ys.getD 0 0):Int)))
         .
          have yg:=oF ze;refine lB 101 ze (lL a ac ?_);have zI:((op:Int) == (12:Int))=false:=fh oM;have bq:=aj zI;exact lB 103 zI (lL a [.v qT,.c] (ak (aa a cJ (ae a [] (.tuple #[qS A i.length z,iV 0]) (by obtain ⟨o,l⟩:=fv (op:=op) (n:=n) (m:=k+1) (xs:=xs) (ys:=ys) (gj oM oM) (pq oM oM) (fun y=>absurd y oM);rw[o,l,show gR op n (k+1) xs ys=xs from (Fj oM oM)];exact ⟨_,_,i,rfl,hcA,a.f.q.q.r.2.1,a.f.q.q.r.1⟩)))))
         have yg:=oT ze;refine lB 101 ze (lL a ac ?_);have zJ:((op:Int) == (12:Int))=false:=fh oM;have bl:=aj zJ;exact lB 103 zJ (lL a [.v qF,.c] (ag (cK (aa a cJ (ae a [] (.tuple #[qS D e.length H,iV 0]) (by obtain ⟨o,l⟩:=fv (op:=op) (n:=n) (m:=k+1) (xs:=xs) (ys:=ys) (gj oM oM) (pq oM oM) (fun y=>absurd y oM);rw[o,l,show gR op n (k+1) xs ys=ys from (FH oM oM)];exact ⟨_,_,e,rfl,hcD,a.f.q.q.2.1,a.f.q.q.1⟩))))))
        have yf:=eq_of_beq zd;refine lB 98 zd (lL a ac (lN (bH [(0,iV op),(2,qS A i.length z),(3,qS D e.length H),(4,qF),(10,sZ),(11,iV 0),(12,nV (i.length-1)),(13,qS J F.length U),(16,iV (di (xs.getD 0 0) (ys.getD 0 0))),(96,qT)] ?_)));exact cn (aa a ax (ae a [] (.tuple #[sZ,iV 7]) (by obtain ⟨o,l⟩:=Ip (op:=op) (n:=n) (m:=k+1) (xs:=xs) (ys:=ys) (gj oM oM) (EV oM oM);rw[o,l];exact ⟨none,0,[],rfl,nR _,SlO.nil,RTs.nil⟩)))
       have yA:=eq_of_beq zv;refine lB 87 zv (lL a ac (ak (cK (cn (cQ (cR 7 [] mixed a ar ?_))))));refine eV 0 89 (qS A i.length z) (eX 1 90 A i.length z 3 0 0 ((a.f.q.r.2.1).ok oM) ?_);obtain ⟨Ax,cx,Dx,dx,ex,K,M,O,L⟩:=(a.f.q.r.1).at_ 0 oM;replace a:=a.aP O L;refine vw 2 91 (rA (i.getD 0 iU)) a ((a.f.q.q.2.1).el 0 oM) ex (eV 3 92 (qS D e.length H) (eX 4 93 D e.length H 3 0 0 ((a.f.q.r.2.1).ok oM) ?_));obtain ⟨Ay,cy,Dy,dy,ey,hcy,Z,Y,X⟩:=(a.f.q.r.1).at_ 0 oM;replace a:=a.aP Y X;refine vw 5 94 (rA (e.getD 0 iU)) a ((a.f.q.q.2.1).el 0 oM) ey (au 6 95 a (fun _ _ a=>Je (xs.getD 0 0) Ax cx Dx dx K M (nl (SzR.b p u d oM 0)) (nD (SzR.b p u d oM 0)) (ys.getD 0 0) Ay cy Dy dy hcy Z (nl (SzR.b Q (S oM) d oM 0)) (nD (SzR.b Q (S oM) d oM 0)) _ _ a.g a.f.r.2.1 a.f.r.1 a.f.2.1 a.f.1) (fun _ _ a=>bS a (fun _ _ a=>tV 7 16 (iV (di (xs.getD 0 0) (ys.getD 0 0))) (tN (cQ (kZ (aa a ac ?_)))))));cases zf:((di (xs.getD 0 0) (ys.getD 0 0):Int) == (0:Int))
       .
        have yi:=aj zf;refine lB 98 zf (lL a ac (lN (bH [(0,iV op),(2,qS A i.length z),(3,qS D e.length H),(4,qF),(10,sZ),(11,iV 0),(12,nV (i.length-1)),(13,qS J F.length U),(16,iV (di (xs.getD 0 0) (ys.getD 0 0))),(96,qF)] ?_)));refine dC (aa a ac ?_);cases zg:(decide ((0:Int)<(di (xs.getD 0 0) (ys.getD 0 0):Int)))
        .
         have yj:=oF zg;refine lB 101 zg (lL a ac ?_);have zK:((op:Int) == (12:Int))=true:=pE oM;have bn:=eq_of_beq zK;exact lB 103 zK (lL a [.v qF,.c] (ag (cK (aa a cJ (ae a [] (.tuple #[qS D e.length H,iV 0]) (by obtain ⟨o,l⟩:=fv (op:=op) (n:=n) (m:=k+1) (xs:=xs) (ys:=ys) (gj oM oM) (pq oM oM) (fun y=>absurd y oM);rw[o,l,show gR op n (k+1) xs ys=ys from (FH oM oM)];exact ⟨_,_,e,rfl,hcD,a.f.q.q.2.1,a.f.q.q.1⟩))))))
        have yj:=oT zg;refine lB 101 zg (lL a ac ?_);have zL:((op:Int) == (12:Int))=true:=pE oM;have bk:=eq_of_beq zL;exact lB 103 zL (lL a [.v qT,.c] (ak (aa a cJ (ae a [] (.tuple #[qS A i.length z,iV 0]) (by obtain ⟨o,l⟩:=fv (op:=op) (n:=n) (m:=k+1) (xs:=xs) (ys:=ys) (gj oM oM) (pq oM oM) (fun y=>absurd y oM);rw[o,l,show gR op n (k+1) xs ys=xs from (Fj oM oM)];exact ⟨_,_,i,rfl,hcA,a.f.q.q.r.2.1,a.f.q.q.r.1⟩)))))
       have yi:=eq_of_beq zf;refine lB 98 zf (lL a ac (lN (bH [(0,iV op),(2,qS A i.length z),(3,qS D e.length H),(4,qF),(10,sZ),(11,iV 0),(12,nV (i.length-1)),(13,qS J F.length U),(16,iV (di (xs.getD 0 0) (ys.getD 0 0))),(96,qT)] ?_)));exact cn (aa a ax (ae a [] (.tuple #[sZ,iV 7]) (by obtain ⟨o,l⟩:=Ip (op:=op) (n:=n) (m:=k+1) (xs:=xs) (ys:=ys) (gj oM oM) (EV oM oM);rw[o,l];exact ⟨none,0,[],rfl,nR _,SlO.nil,RTs.nil⟩)))
      have yx:=eq_of_beq zu;refine lB 58 zu (lL a ac (ak (cQ (aa a ac ?_))));cases zi:(decide ((n:Int)<(0:Int)))
      .
       have yk:=oF zi;refine lB 60 zi (lL a ac (lG 62 ?_));refine lG 63 (lG 64 (lG 65 (lG 66 (lL a [.v qF] (ag (cK (aa a ax (ah (aa a ac (aZ ?_))))))))));replace a:=a.aT (a.f.1);replace a:=a.aS a.f.r.1;refine bH _ (CG.loop (fun μ_ Γ w_=>∃ (j:Nat)(V:Z9)(W:Nat)(C:List RT)(h_:Hp),μ_=n.natAbs-j/\Γ=[(0,iV op),(1,iV n),(2,qS A i.length z),(4,qF),(10,sZ),(11,iV 0),(12,nV (i.length-1)),(13,qS J F.length U),(15,nV j),(14,qS V C.length W)]/\SS w h w_ h_ [] [] [Sr V C,Rt C (du (k+1) xs j),Rt F (bw (k+1) ((1:Int):Rat)),Sr J F,S3 A5 (lim ((1:Int):Rat).den),S3 A1 (lim (ab ((1:Int):Rat).num)),Rt e ys,Sr D e,Rt i xs,Sr A i]/\j<=n.natAbs/\C.length<=W) _ ⟨0,J,U,F,YP,rfl,rfl,a.to _ _,Mv _,zW⟩ ?_);rintro _ _ _ ⟨j,V,W,C,_,b2,rfl,a,hj,hcp⟩;have I:op=8:=by omega
       have hn8:=hn I;have bb:=hzw I;have bf:j*(Wx+1)<=700000:=eb (zh _ hj) bb;have bd:j*(2*Wx+1+1)<=1400000:=by rw[show 2*Wx+1+1=2*(Wx+1) by omega,Ob];omega
       have hlp:=(a.f.2.1).len;rw[cI] at hlp
       refine cQ (aa a cJ (lI 72 (0-n) ?_));refine lV 73 (iV (max (n:Int) (0-n:Int))) ?_ (hr:=aI (n:=(if (0-n:Int)>(n:Int) then (0-n:Int) else (n:Int))) kR (by simp only[nP]));cases zj:(decide ((j:Int)<(max (n:Int) (0-n:Int):Int)))
       .
        have yl:=oF zj;refine lB 74 zj (ag (CG.exit ?_))
        show CG _ _ _ _ _ _ _ _
        refine cQ (aa a ac ?_);cases zk:(decide ((n:Int)<(0:Int)))
        .
         have ym:=oF zk;refine lB 81 zk (ag (cK (aa a cJ (lN (kX ?_)))));obtain rfl:op=8:=by omega
         exact a.ret [] (.tuple #[qS V C.length W,iV 0]) (by obtain ⟨o,l⟩:=fv (op:=8) (n:=n) (m:=k+1) (xs:=xs) (ys:=ys) (uO (fun h0=>absurd h0 oM)) (nB oM oM oM) (fun y=>absurd y oM);rw[o,l,show gR 8 n (k+1) xs ys=(du (k+1) xs j) from (by rw[kG,show n.natAbs=j by omega];unfold px;rw[if_neg oM])];exact ⟨_,_,C,rfl,hcp,a.f.1,a.f.2.1⟩)
        have ym:=oT zk;refine lB 81 zk (ak (kQ (lL a ax (lC 84 a ((by have x:=(uJ (dl oM) j:eN (bw (k+1) ((1:Int):Rat)) (du (k+1) xs j) (k+1)=_);have B:=ik J U (bw (k+1) ((1:Int):Rat)) F V W (du (k+1) xs j) C (k+1) (bZ _ _) oM (cI _ _ _) (SzR.b (SzR.num (LQ.int kD kD) (k+1) (Mx k)) (bZ _ _) d oM) (SzR.b (p.pow (Mx k) j) (cI _ _ _) d oM) (by rw[x];exact (SzR.b ((p.inv (dl oM) (k+1)).pow (Mx k) j) (cI _ _ _) d oM)) (by rw[x];exact SzR.qb (SzR.num (LQ.int kD kD) (k+1) (Mx k)) (p.pow (Mx k) j) ((p.inv (dl oM) (k+1)).pow (Mx k) j) d oM) (tZ (dl oM) (Mx k) j) _ _ a.g a.f.r.2.1 a.f.r.1 a.f.1 (a.f.2.1);rw[x] at B;exact B)) ?_))));rintro _ _ _ a ⟨Yi,Yj,zM,rfl,yK,yL,yM⟩;replace a:=((a.aS yL).aT yM);refine lL a ac (aG (lL a cJ (lN (kX ?_))));obtain rfl:op=8:=by omega
        exact a.ret [] (.tuple #[qS Yi zM.length Yj,iV 0]) (by obtain ⟨o,l⟩:=fv (op:=8) (n:=n) (m:=k+1) (xs:=xs) (ys:=ys) (uO (fun h0=>dl oM)) (nB oM oM oM) (fun y=>absurd y oM);rw[o,l,show gR 8 n (k+1) xs ys=(du (k+1) (bF (k+1) xs) j) from (by rw[kG,show n.natAbs=j by omega];unfold px;rw[if_pos oM])];exact ⟨_,_,zM,rfl,yK,a.f.2.1,a.f.1⟩)
       have yl:=oT zj;refine lB 74 zj (ak (cK (cQ (kZ (kQ (lL a ax (lC 79 a (kf V W (du (k+1) xs j) C A z xs i (k+1) (cI _ _ _) oM u (SzR.b (p.pow (Mx k) j) (cI _ _ _) d oM) (SzR.b p u d oM) (SzR.cb (p.pow (Mx k) j) p d oM) _ _ a.g a.f.1 a.f.2.1 a.f.q.q.2.1 a.f.q.q.1) ?_)))))));rintro _ _ Yk a ⟨Yl,Ym,yN,rfl,yO,yP,yQ⟩;replace a:=((a.aS yP).aT yQ);refine lL a ac (lN (kQ (lL a ac (bv 76 ((j:Nat)+1) (j+1) ?_))));refine lL a ac (lD ?_);intro a_ ka;replace a:=((a.tl.tl.tl.tl.aT a.f.1).aS a.f.2.1);refine ⟨_,_,?_,⟨j+1,Yl,Ym,yN,Yk,rfl,rfl,a.to _ _,oM,yO⟩,ka.to _ kR⟩
       omega
      have yk:=oT zi;refine lB 60 zi (lL a ax (lX 63 A i.length z 3 0 0 ((a.f.q.r.2.1).ok oM) ?_));obtain ⟨Ax,cx,Dx,dx,ex,K,M,O,L⟩:=(a.f.q.r.1).at_ 0 oM;replace a:=a.aP O L;refine HY 64 (rA (i.getD 0 iU)) a ((a.f.q.q.2.1).el 0 oM) ex (aq 65 a (xW (xs.getD 0 0) Ax cx Dx dx K M (nl (SzR.b p u d oM 0)) (nD (SzR.b p u d oM 0)) _ _ a.g a.f.2.1 a.f.1) (fun _ Yn a=>?_));cases zl:(((xs.getD 0 0).num.sign:Int) == (0:Int))
      .
       have yn:=aj zl;refine lB 66 zl (lL a [.v qF] (ag (cK (aa a ax (ah (aa a ac (aZ ?_)))))));replace a:=a.aT (a.f.r.1);replace a:=a.aS a.f.q.1;refine bH _ (CG.loop (fun μ_ Γ w_=>∃ (j:Nat)(V:Z9)(W:Nat)(C:List RT)(h_:Hp),μ_=n.natAbs-j/\Γ=[(0,iV op),(1,iV n),(2,qS A i.length z),(4,qF),(10,sZ),(11,iV 0),(12,nV (i.length-1)),(13,qS J F.length U),(15,nV j),(14,qS V C.length W)]/\SS w h w_ h_ [] [] [Sr V C,Rt C (du (k+1) xs j),S3 Dx (lim (xs.getD 0 0).den),S3 Ax (lim (ab (xs.getD 0 0).num)),Rt F (bw (k+1) ((1:Int):Rat)),Sr J F,S3 A5 (lim ((1:Int):Rat).den),S3 A1 (lim (ab ((1:Int):Rat).num)),Rt e ys,Sr D e,Rt i xs,Sr A i]/\j<=n.natAbs/\C.length<=W) _ ⟨0,J,U,F,Yn,rfl,rfl,a.to _ _,Mv _,zW⟩ ?_);rintro _ _ _ ⟨j,V,W,C,_,bt,rfl,a,hj,hcp⟩;have I:op=8:=by omega
       have hn8:=hn I;have bb:=hzw I;have bf:j*(Wx+1)<=700000:=eb (zh _ hj) bb;have bd:j*(2*Wx+1+1)<=1400000:=by rw[show 2*Wx+1+1=2*(Wx+1) by omega,Ob];omega
       have hlp:=(a.f.2.1).len;rw[cI] at hlp
       refine cQ (aa a cJ (lI 72 (0-n) ?_));refine lV 73 (iV (max (n:Int) (0-n:Int))) ?_ (hr:=aI (n:=(if (0-n:Int)>(n:Int) then (0-n:Int) else (n:Int))) kR (by simp only[nP]));cases zm:(decide ((j:Int)<(max (n:Int) (0-n:Int):Int)))
       .
        have yo:=oF zm;refine lB 74 zm (ag (CG.exit ?_))
        show CG _ _ _ _ _ _ _ _
        refine cQ (aa a ac ?_);cases zn:(decide ((n:Int)<(0:Int)))
        .
         have yp:=oF zn;refine lB 81 zn (ag (cK (aa a cJ (lN (kX ?_)))));obtain rfl:op=8:=by omega
         exact a.ret [] (.tuple #[qS V C.length W,iV 0]) (by obtain ⟨o,l⟩:=fv (op:=8) (n:=n) (m:=k+1) (xs:=xs) (ys:=ys) (uO (fun h0=>absurd h0 oM)) (nB oM oM oM) (fun y=>absurd y oM);rw[o,l,show gR 8 n (k+1) xs ys=(du (k+1) xs j) from (by rw[kG,show n.natAbs=j by omega];unfold px;rw[if_neg oM])];exact ⟨_,_,C,rfl,hcp,a.f.1,a.f.2.1⟩)
        have yp:=oT zn;refine lB 81 zn (ak (kQ (lL a ax (lC 84 a ((by have x:=(uJ (dl oM) j:eN (bw (k+1) ((1:Int):Rat)) (du (k+1) xs j) (k+1)=_);have B:=ik J U (bw (k+1) ((1:Int):Rat)) F V W (du (k+1) xs j) C (k+1) (bZ _ _) oM (cI _ _ _) (SzR.b (SzR.num (LQ.int kD kD) (k+1) (Mx k)) (bZ _ _) d oM) (SzR.b (p.pow (Mx k) j) (cI _ _ _) d oM) (by rw[x];exact (SzR.b ((p.inv (dl oM) (k+1)).pow (Mx k) j) (cI _ _ _) d oM)) (by rw[x];exact SzR.qb (SzR.num (LQ.int kD kD) (k+1) (Mx k)) (p.pow (Mx k) j) ((p.inv (dl oM) (k+1)).pow (Mx k) j) d oM) (tZ (dl oM) (Mx k) j) _ _ a.g a.f.q.2.1 a.f.q.1 a.f.1 (a.f.2.1);rw[x] at B;exact B)) ?_))));rintro _ _ _ a ⟨Yo,Yp,zN,rfl,yR,yS,yT⟩;replace a:=((a.aS yS).aT yT);refine lL a ac (aG (lL a cJ (lN (kX ?_))));obtain rfl:op=8:=by omega
        exact a.ret [] (.tuple #[qS Yo zN.length Yp,iV 0]) (by obtain ⟨o,l⟩:=fv (op:=8) (n:=n) (m:=k+1) (xs:=xs) (ys:=ys) (uO (fun h0=>dl oM)) (nB oM oM oM) (fun y=>absurd y oM);rw[o,l,show gR 8 n (k+1) xs ys=(du (k+1) (bF (k+1) xs) j) from (by rw[kG,show n.natAbs=j by omega];unfold px;rw[if_pos oM])];exact ⟨_,_,zN,rfl,yR,a.f.2.1,a.f.1⟩)
       have yo:=oT zm;refine lB 74 zm (ak (cK (cQ (kZ (kQ (lL a ax (lC 79 a (kf V W (du (k+1) xs j) C A z xs i (k+1) (cI _ _ _) oM u (SzR.b (p.pow (Mx k) j) (cI _ _ _) d oM) (SzR.b p u d oM) (SzR.cb (p.pow (Mx k) j) p d oM) _ _ a.g a.f.1 a.f.2.1 a.f.q.q.r.2.1 a.f.q.q.r.1) ?_)))))));rintro _ _ Yq a ⟨Yr,Ys,yU,rfl,yV,yW,yX⟩;replace a:=((a.aS yW).aT yX);refine lL a ac (lN (kQ (lL a ac (bv 76 ((j:Nat)+1) (j+1) ?_))));refine lL a ac (lD ?_);intro a_ ka;replace a:=((a.tl.tl.tl.tl.aT a.f.1).aS a.f.2.1);refine ⟨_,_,?_,⟨j+1,Yr,Ys,yU,Yq,rfl,rfl,a.to _ _,oM,yV⟩,ka.to _ kR⟩
       omega
      have yn:=eq_of_beq zl;exact lB 66 zl (lL a [.v qT] (ak (aa a ax (ae a [] (.tuple #[sZ,iV 6]) (by obtain ⟨o,l⟩:=Iy (op:=op) (n:=n) (m:=k+1) (xs:=xs) (ys:=ys) (BE oM oM oM);rw[o,l];exact ⟨none,0,[],rfl,nR _,SlO.nil,RTs.nil⟩)))))
     have yw:=eq_of_beq zt;refine lB 48 zt (lL a ac (ak (cQ (aa a ac (lX 50 D e.length H 3 0 0 ((a.f.q.2.1).ok oM) ?_)))));obtain ⟨Ay,cy,Dy,dy,ey,hcy,Z,Y,X⟩:=(a.f.q.1).at_ 0 oM;replace a:=a.aP Y X;refine HY 51 (rA (e.getD 0 iU)) a ((a.f.q.r.2.1).el 0 oM) ey (aq 52 a (xW (ys.getD 0 0) Ay cy Dy dy hcy Z (nl (SzR.b Q (S oM) d oM 0)) (nD (SzR.b Q (S oM) d oM 0)) _ _ a.g a.f.2.1 a.f.1) (fun _ _ a=>?_));cases zo:(((ys.getD 0 0).num.sign:Int) == (0:Int))
     .
      have yq:=aj zo;refine lB 53 zo (ag (cK (aa a ax (lC 56 a ((by have x:=(tE (dl oM):eN xs ys (k+1)=_);have B:=ik A z xs i D H ys e (k+1) u oM (S oM) (SzR.b p u d oM) (SzR.b Q (S oM) d oM) (by rw[x];exact (SzR.b (p.mul (Q.inv (dl oM) (k+1)) (k+1)) (fw _ _ _) d oM)) (by rw[x];exact SzR.qb p Q (p.mul (Q.inv (dl oM) (k+1)) (k+1)) d oM) (dl oM) _ _ a.g a.f.q.q.2.1 a.f.q.q.1 a.f.q.r.2.1 (a.f.q.r.1);rw[x] at B;exact B)) ?_))));rintro _ _ _ a ⟨Yt,Yu,zP,rfl,Za,Zb,Zc⟩;replace a:=((a.aS Zb).aT Zc);refine lL a ax (lN (kX ?_));obtain rfl:op=6:=by omega
      exact a.ret [] (.tuple #[qS Yt zP.length Yu,iV 0]) (by obtain ⟨o,l⟩:=fv (op:=6) (n:=n) (m:=k+1) (xs:=xs) (ys:=ys) (Jf (dl oM)) (nB oM oM oM) (fun y=>absurd y oM);rw[o,l,show gR 6 n (k+1) xs ys=(dj (k+1) xs (bF (k+1) ys)) from rfl];exact ⟨_,_,zP,rfl,Za,a.f.2.1,a.f.1⟩)
     have yq:=eq_of_beq zo;exact lB 53 zo (ak (aa a ax (ae a [] (.tuple #[sZ,iV 6]) (by obtain ⟨o,l⟩:=Iy (op:=op) (n:=n) (m:=k+1) (xs:=xs) (ys:=ys) (wN oM oM);rw[o,l];exact ⟨none,0,[],rfl,nR _,SlO.nil,RTs.nil⟩))))
    have yv:=eq_of_beq zs;refine lB 43 zs (lL a ac (ak (aa a ax (lC 46 a (kf A z xs i D H ys e (k+1) u oM (S oM) (SzR.b p u d oM) (SzR.b Q (S oM) d oM) (SzR.cb p Q d oM) _ _ a.g a.f.q.r.2.1 a.f.q.r.1 a.f.q.2.1 a.f.q.1) ?_))));rintro _ _ _ a ⟨Yv,Yw,zQ,rfl,Zd,Ze,Zf⟩;replace a:=((a.aS Ze).aT Zf);refine lL a ax (lN (kX ?_));obtain rfl:op=5:=by omega
    exact a.ret [] (.tuple #[qS Yv zQ.length Yw,iV 0]) (by obtain ⟨o,l⟩:=fv (op:=5) (n:=n) (m:=k+1) (xs:=xs) (ys:=ys) (gj oM oM) (nB oM oM oM) (fun y=>absurd y oM);rw[o,l,show gR 5 n (k+1) xs ys=(dj (k+1) xs ys) from rfl];exact ⟨_,_,zQ,rfl,Zd,a.f.2.1,a.f.1⟩)
   have yu:=eq_of_beq zr;refine lB 38 zr (lL a ac (ak (aa a ac (lC 40 a (vR (-1) oM oM _ _ a.g) ?_))));rintro _ _ _ a ⟨Yx,YA,YB,YC,rfl,Zg,Zi,Zj,Zk⟩;replace a:=a.aP Zj Zk;refine lC 41 a (kW A z xs i ((-1:Int):Rat) Yx YA YB YC Zg Zi (k+1) u oM (SzR.b p u d oM) (LQ.lit kD) _ _ a.g a.f.q.q.2.1 a.f.q.q.1 a.f.2.1 a.f.1) ?_;rintro _ _ _ a ⟨YD,YE,zR,rfl,Zl,Zm,Zn⟩;replace a:=((a.aS Zm).aT Zn);refine lL a ax (lN (kX ?_));obtain rfl:op=7:=by omega
   exact a.ret [] (.tuple #[qS YD zR.length YE,iV 0]) (by obtain ⟨o,l⟩:=fv (op:=7) (n:=n) (m:=k+1) (xs:=xs) (ys:=ys) (gj oM oM) (nB oM oM oM) (fun y=>absurd y oM);rw[o,l,show gR 7 n (k+1) xs ys=(dt (k+1) xs ((-1:Int):Rat)) from rfl];exact ⟨_,_,zR,rfl,Zl,a.f.2.1,a.f.1⟩)
  have yt:=eq_of_beq zq;refine lB 31 zq (lL a ac (ak (aa a ax (lC 34 a (vR (-1) oM oM _ _ a.g) ?_))));rintro _ _ _ a ⟨YF,YG,YH,YI,rfl,Zo,Zp,Zq,Zr⟩;replace a:=a.aP Zq Zr;refine lC 35 a (kW D H ys e ((-1:Int):Rat) YF YG YH YI Zo Zp (k+1) (S oM) oM (SzR.b Q (S oM) d oM) (LQ.lit kD) _ _ a.g a.f.q.r.2.1 a.f.q.r.1 a.f.2.1 a.f.1) ?_;rintro _ _ _ a ⟨YJ,YK,Zs,rfl,br,Zt,Zu⟩;replace a:=((a.aS Zt).aT Zu);refine lC 36 a (rM A z xs i YJ YK (dt (k+1) ys ((-1:Int):Rat)) Zs (k+1) u oM (fx _ _ _) (SzR.b p u d oM) (SzR.b (Q.neg (k+1)) (fx _ _ _) d oM) _ _ a.g a.f.q.q.r.2.1 a.f.q.q.r.1 a.f.2.1 a.f.1) ?_;rintro _ _ _ a ⟨YL,YM,zS,rfl,Zv,Zw,Zx⟩;replace a:=((a.aS Zw).aT Zx);refine lL a ax (lN (kX ?_));obtain rfl:op=4:=by omega
  exact a.ret [] (.tuple #[qS YL zS.length YM,iV 0]) (by obtain ⟨o,l⟩:=fv (op:=4) (n:=n) (m:=k+1) (xs:=xs) (ys:=ys) (gj oM oM) (nB oM oM oM) (fun y=>absurd y oM);rw[o,l,show gR 4 n (k+1) xs ys=(cY (k+1) xs (dt (k+1) ys ((-1:Int):Rat))) from rfl];exact ⟨_,_,zS,rfl,Zv,a.f.2.1,a.f.1⟩)
 have yr:=eq_of_beq zp;refine lB 26 zp (lL a ac (ak (aa a ax (lC 29 a (rM A z xs i D H ys e (k+1) u oM (S oM) (SzR.b p u d oM) (SzR.b Q (S oM) d oM) _ _ a.g a.f.q.r.2.1 a.f.q.r.1 a.f.q.2.1 a.f.q.1) ?_))));rintro _ _ _ a ⟨YN,YO,zU,rfl,ZA,ZB,ZC⟩;replace a:=((a.aS ZB).aT ZC);refine lL a ax (lN (kX ?_));obtain rfl:op=3:=by omega
 exact a.ret [] (.tuple #[qS YN zU.length YO,iV 0]) (by obtain ⟨o,l⟩:=fv (op:=3) (n:=n) (m:=k+1) (xs:=xs) (ys:=ys) (gj oM oM) (nB oM oM oM) (fun y=>absurd y oM);rw[o,l,show gR 3 n (k+1) xs ys=(cY (k+1) xs ys) from rfl];exact ⟨_,_,zU,rfl,ZA,a.f.2.1,a.f.1⟩)
def tr (nm:Int->ByteArray)(l:List Stp)(i:Nat):Tm:=H7 nm l (l.length+1) i
structure DpS (dp:Nat->Nat) (l:List Stp):Prop where
  one:∀ k,k<l.length->1<=dp k
  le:∀ k,k<l.length->dp k<=20
  a:∀ k,k<l.length->0<gG (l.getD k fj).op->dp (l.getD k fj).a.toNat<dp k
  b:∀ k,k<l.length->1<gG (l.getD k fj).op->dp (l.getD k fj).b.toNat<dp k
def eP:Nat->Tm->Nat
  | 0,_=>0
  | d+1,t=>1+dQ (fun i=>eP d (t.ks.getD i cZ)) t.ks.length
def fQ:Nat->Tm->ByteArray->Prop
  | 0,_,_=>False
  | d+1,t,s=>(t.op=2/\s=t.s)\/∃ i,i<t.ks.length/\fQ d (t.ks.getD i cZ) s
def HasK (d:Nat)(ks:List Tm)(k:Nat)(s:ByteArray):Prop:=∃ i,i<k/\fQ d (ks.getD i cZ) s
theorem HasK.zero {d:Nat}{ks:List Tm}{s:ByteArray}:¬HasK d ks 0 s:=fun ⟨i,h,_⟩=>absurd h (NK i)
theorem HasK.succ {d:Nat}{ks:List Tm}{k:Nat}{s:ByteArray}:HasK d ks (k+1) s↔HasK d ks k s\/fQ d (ks.getD k cZ) s:=by
 constructor
 ·rintro ⟨i,hi,h⟩
  by_cases e:i=k
  ·subst e;exact .inr h
  ·exact .inl ⟨i,by omega,h⟩
 ·rintro (⟨i,hi,h⟩|h)
  ·exact ⟨i,by omega,h⟩
  ·exact ⟨k,by omega,h⟩
theorem WfT1.names {ok p:ByteArray->Prop}:∀ {d:Nat} {t:Tm},WfT1 ok d t->(∀ s,fQ d t s->p s)->WfT1 (fun s=>ok s/\p s) d t
 | d+1,t,⟨h1,h2,h3,h4,h5,h6,h7,h8,h9⟩,h=>⟨h1,h2,h3,fun e=>⟨h4 e,h _ (.inl ⟨e,rfl⟩)⟩,h5,h6,h7,h8,fun i hi=>WfT1.names (h9 i hi) (fun s a=>h s (.inr ⟨i,hi,a⟩))⟩
theorem sE {ok:ByteArray->Prop}:∀ {d:Nat} {t:Tm} {s:ByteArray},WfT1 ok d t->fQ d t s->ok s
 | d+1,t,s,w,.inl ⟨h1,h2⟩=>by rw[h2];exact w.2.2.2.1 h1
 | d+1,t,s,w,.inr ⟨i,hi,h⟩=>sE (w.2.2.2.2.2.2.2.2 i hi) h
theorem WfT1.imp {ok p:ByteArray->Prop}(f:∀ s,ok s->p s):∀ {d:Nat} {t:Tm},WfT1 ok d t->WfT1 p d t
 | d+1,t,⟨h1,h2,h3,h4,h5,h6,h7,h8,h9⟩=>⟨h1,h2,h3,fun e=>f _ (h4 e),h5,h6,h7,h8,fun i hi=>WfT1.imp f (h9 i hi)⟩
theorem WfT1.two {ok:ByteArray->Prop}{d:Nat}{t:Tm}(h:WfT1 ok (d+1) t):t.ks.length<=2:=by
 have:=h.1;have:=aE t.op
 omega
theorem tg {f:Nat->Nat}{b:Nat}:∀ n,(∀ i,i<n->f i<=b)->dQ f n<=n*b
  | 0,_=>by simp[dQ]
  | n+1,h=>by
    have h1:=tg n (fun i hi=>h i oM);have a:=h n (NR n)
    show dQ f n+f n<=_
    rw[y3];omega
theorem rF {ok:ByteArray->Prop}:∀ {d:Nat} {t:Tm},WfT1 ok d t->eP d t+1<=2^d
  | d+1,t,w=>by
    have a:=w.two;have e:=tg (f:=fun i=>eP d (t.ks.getD i cZ)) (b:=2^d-1) t.ks.length (fun i hi=>by have:=rF (w.2.2.2.2.2.2.2.2 i hi);show eP d _<=_;omega);have h:0<2^d:=Nat.two_pow_pos d;have c:t.ks.length*(2^d-1)<=2*(2^d-1):=zh _ a
    show 1+dQ _ _+1<=2^(d+1)
    rw[HA];omega
structure RecOk (nm:Int->ByteArray) (inp:Int) (d:Nat) (l:List Stp) (l2:List Stp) (n:Nat) (t:Tm):Prop where
  lq:(∀ i,LQ 1 (l.getD i fj).q)->∀ i,LQ 1 (l2.getD i fj).q
  dps:∀ dp,DpS dp l->∃ dp',DpS dp' l2/\(∀ k,k<l.length->dp' k=dp k)/\dp' (l2.length-1)<=d
  pre:∃ m,l2=l++m
  len:l2.length=l.length+n
  pos:0<n
  fm:∀ k,k<l2.length->ph inp k (l2.getD k fj)
  tr:∀ f,l2.length<=f->H7 nm l2 f (l2.length-1)=t
structure AllOk (nm:Int->ByteArray) (inp:Int) (d:Nat) (ts:List Tm) (k:Nat) (l:List Stp) (os:List Int) (c:Nat):Prop where
  len:l.length=c
  fm:∀ k,k<l.length->ph inp k (l.getD k fj)
  lq:∀ i,LQ 1 (l.getD i fj).q
  dps:∃ dp,DpS dp l
  out:∀ j,j<k->0<=os.getD j 0/\os.getD j 0<(l.length:Nat)/\H7 nm l (l.length+1) (os.getD j 0).toNat=ts.getD j cZ
theorem IL {l:List ByteArray}{k:Nat}{s:ByteArray}(h:k<l.length)(e:l.getD k ⟨#[]⟩=s):s∈l:=by
 rw[<-e,LI,NG h];exact e5 h
theorem Kf {l:List ByteArray}{s:ByteArray}(h:s∈l):∃ i,i<l.length/\l.getD i ⟨#[]⟩=s:=by
 obtain ⟨i,hi,e⟩:=List.mem_iff_getElem.1 h;exact ⟨i,hi,by rw[LI,NG hi];exact e⟩
theorem WfT.two {ok:ByteArray->Prop}{d:Nat}{t:Tm}(h:WfT ok (d+1) t):t.ks.length<=2:=by
 have:=h.1;have:=aE t.op
 omega
theorem xN (l:Bool)(p:Z9)(f j:Nat)(i:Z9)(o a:Nat)(q:Rat)(w:World)(h:Hp)(g:G w h)(B:RZ h (l,.slice p f j,.slice i o a) q):Calls Tryz.prog 86 #[.agg #[.bool l,.slice p f j,.slice i o a]] w (Ret w h (fun v _=>v=.bool (decide (q.num=0)))):=by
 obtain ⟨has,⟨A,c,D,d,e,z,H,y,x⟩,hz⟩:=B;have C:(Value.agg #[.bool l,qS p f j,qS i o a])=.agg #[.bool (af q.num),qS A (lim (ab q.num)).length c,qS D (lim (if has then q.den else 0)).length d]:=e;rw[C];have u:=Fg q.num A c (if has then q.den else 0) D d z H w h g y x
 have F:decide ((if has=true then q.den else 0)=0\/q.num=0)=decide (q.num=0):=by
  cases has
  ·rw[decide_eq_true (.inl rfl),decide_eq_true];rw[hz rfl];rfl
  ·have:=q.den_nz
   by_cases e:q.num=0
   ·rw[decide_eq_true (.inr e),decide_eq_true e]
   ·rw[decide_eq_false (fun h=>h.elim this e),decide_eq_false e]
 rw[F] at u
 exact u
theorem sf {op n:Int}{s:Nat}(h0:op≠8->n=0)(h1 : -12<=n)(d:n<=12):min (fE op n ((min s 1073741824:Nat):Int)) 1073741824=((min (gL op n*s) 1073741824:Nat):Int):=by
  unfold fE gL bK
  by_cases e11:op=11
  . rw[if_pos e11,if_pos e11];omega
  . rw[if_neg e11,if_neg e11]
    by_cases e8:op=8/\n≠0
    . rw[if_pos e8,if_pos e8.1]
      have e:(if n<0 then 0-n else n)=((if n.natAbs<=1 then 1 else n.natAbs:Nat):Int):=by have:=e8.2;split<;>split<;>omega
      rw[e]
      generalize hm:(if n.natAbs<=1 then 1 else n.natAbs)=m
      have a:1<=m:=by rw[<-hm];split<;>omega
      rw[<-Int.natCast_mul,H1]
      rcases ML s 1073741824 with h|h
      . rw[Lq h];omega
      . rw[LS h]
        have c:=MP 1073741824 a;have f:=eb h (MP s a)
        omega
    . rw[if_neg e8]
      by_cases e9:op=8
      . rw[if_pos e9]
        have:n=0:=by by_cases z:n=0;exact z;exact absurd ⟨e9,z⟩ e8
        rw[this,if_pos kD];omega
      . rw[if_neg e9];omega
theorem wP  (sm:ByteArray->Prop)(d:Nat)(W:∀ (r:RTm) (t:Tm) (w:World) (h:Hp),G w h->RmH d h r t->n3 sm d t->d<=1000->Calls Tryz.prog 48 #[bJ r] w (Ret w h (fun v _=>∃ m:Int,v=iV m/\1<=m/\m<=(d:Nat))))(op n:Int)(C:Bool)(z:Z9)(x B:Nat)(y:Z9)(D u:Nat)(q:Rat)(s:ByteArray)(A:Z9)(c:Nat)(e:List RTm)(ks:List Tm)(hc:e.length<=c)(L:ks.length<=3)(O : -1000<=op/\op<=1000)(hn : -1000<=n/\n<=1000)(hq:LQ 3000 q)(X:sm s)(hW:∀ i,i<ks.length->n3 sm d (ks.getD i cZ))(hd:d+1<=1000)(w:World)(h:Hp)(g:G w h)(Y:RZ h (C,.slice z x B,.slice y D u) q)(V:SlO 7 bE bT h A e)(J:Rms d h e ks):CR 48 #[bJ ⟨op,n,C,z,x,B,y,D,u,s,A,e.length,c⟩] w h (fun v _=>∃ m:Int,v=iV m/\1<=m/\m<=(d+1:Nat)):=by
 have a:=((((sS g).add (K:=fun j=>RZ j (C,qS z x B,qS y D u) q) Y).aS V).add (K:=fun j=>Rms d j e ks) J);have Z:=(a.f.1).len;refine go Tryz.func48 [(0,bJ ⟨op,n,C,z,x,B,y,D,u,s,A,e.length,c⟩)] rfl (aD (lA 1 31 (bE ⟨op,n,C,z,x,B,y,D,u,s,A,e.length,c⟩) a (fun H w2 M a=>lL a ac (aG (lL a ac (ah (aa a ac (aZ ?_))))))));refine bH _ (CG.loop (fun I Γ S=>∃ (k:Nat)(l:Int)(j:Hp),I=e.length-k/\Γ=[(1,pB H),(2,iV 0),(4,nV k),(3,iV l)]/\SS w h S j [⟨H,31,bE ⟨op,n,C,z,x,B,y,D,u,s,A,e.length,c⟩⟩] [] [fun j=>Rms d j e ks,fun j=>SlO 7 bE bT j A e,fun j=>RZ j (C,qS z x B,qS y D u) q]/\k<=e.length/\0<=l/\l<=(d:Int)) _ ⟨0,0,M,rfl,rfl,a.to _ _,Mv _,⟨by omega,by omega⟩⟩ ?_);rintro _ _ w4 ⟨k,l,h5,Q,rfl,a,hk,hd0⟩;refine cQ (aa a [.c,.v (qP H 6),.o (qS A e.length c) 0 6 1,.v (nV e.length)] ?_);cases p:(decide ((k:Int)<(e.length:Int)))
 .
  have F:=oF p;refine lB 9 p (ag (CG.exit ?_))
  show CG _ _ _ _ _ _ _ _
  refine aa a ac (lI 21 (l+1) ?_);exact lL a ac (ae a [] (iV (l+1)) (⟨_,rfl,by omega,by omega⟩))
 have F:=oT p;refine lB 9 p (ak (cK (cQ (kZ (kQ (lL a [.c,.v (qP H 6),.o (qS A e.length c) 0 6 1,.c] (lX 16 A e.length c 7 (k:Nat) k ((a.f.2.1).ok oM) ?_)))))));refine lH 17 (bJ (e.getD k bT)) a ((a.f.2.1).el k oM) (lC 18 a (W (e.getD k bT) (ks.getD k cZ) _ _ a.g ((a.f.1).at_ k oM) (hW k oM) oM) ?_);rintro _ w8 U a ⟨mk,rfl,hm1,hm2⟩;refine lV 19 (iV (max (l:Int) (mk:Int))) ?_ (hr:=aI (n:=(if (mk:Int)>(l:Int) then (mk:Int) else (l:Int))) kR (by simp only[nP]));refine lL a ac (lN (kQ (lL a ac (bv 11 ((k:Nat)+1) (k+1) ?_))));refine lL a ac (lD ?_);intro a_ ka;refine ⟨_,_,?_,⟨k+1,max (l:Int) (mk:Int),U,rfl,rfl,a.to _ _,oM,⟨by omega,by omega⟩⟩,ka.to _ kR⟩
 omega
theorem s8 (sm:ByteArray->Prop):∀ (d:Nat) (r:RTm) (t:Tm) (w:World) (h:Hp),G w h->RmH d h r t->n3 sm d t->d<=1000->Calls Tryz.prog 48 #[bJ r] w (Ret w h (fun v _=>∃ m:Int,v=iV m/\1<=m/\m<=(d:Nat)))
  | 0,_,_,_,_,_,x,_,_=>x.elim
  | d+1,r,t,w,h,g,x,wf,hd=>by
    obtain ⟨op,n,b,H,l,B,y,D,e,q,s,A,c,i,ks,rfl,rfl,z,u,p,a⟩:=x.open;obtain ⟨o,j,C,f,F,I⟩:=wf;exact wP sm d (fun r t w h=>s8 sm d r t w h) op n b H l B y D e q s A c i ks u o j C f F I hd w h g z p a
theorem Bt  (isb:ByteArray->Bool)(sm:ByteArray->Prop)(nF:∀ s,sm s->∀ (w:World) (h:Hp),G w h->Calls Tryz.prog 52 #[.string s] w (Ret w h (fun v _=>∃ b,v=.bool b/\b=isb s)))(d:Nat)(ih:∀ (r:RTm) (t:Tm) (w:World) (h:Hp),G w h->RmH d h r t->n3 sm d t ->  Calls Tryz.prog 49 #[bJ r] w (Ret w h (fun v _=>∃ X,v=.bool X/\(X=true↔WfT (fun s=>isb s=true) d t))))(op n:Int)(L:Bool)(D:Z9)(H J:Nat)(I:Z9)(M F:Nat)(q:Rat)(s:ByteArray)(A:Z9)(c:Nat)(y:List RTm)(ks:List Tm)(hc:y.length<=c)(hk3:ks.length<=3)(hop : -1000<=op/\op<=1000)(hn : -1000<=n/\n<=1000)(hq:LQ 3000 q)(hsm:sm s)(hW:∀ i,i<ks.length->n3 sm d (ks.getD i cZ))(w:World)(h:Hp)(g:G w h)(hZ:RZ h (L,.slice D H J,.slice I M F) q)(hK:SlO 7 bE bT h A y)(hKs:Rms d h y ks):CR 49 #[bJ ⟨op,n,L,D,H,J,I,M,F,s,A,y.length,c⟩] w h (fun v _=>∃ X,v=.bool X/\(X=true↔WfT (fun s=>isb s=true) (d+1) (.mk op n q s ks))):=by
 have a:=((((sS g).add (K:=fun e=>RZ e (L,qS D H J,qS I M F) q) hZ).aS hK).add (K:=fun e=>Rms d e y ks) hKs);have hln:=(a.f.1).len;refine go Tryz.func49 [(0,bJ ⟨op,n,L,D,H,J,I,M,F,s,A,y.length,c⟩)] rfl (aD (lA 1 31 (bE ⟨op,n,L,D,H,J,I,M,F,s,A,y.length,c⟩) a (fun l w2 h3 a=>lL a ac (aG (lL a [.v (pB l),.o (iV op) 0 0 1] (aq 7 a (I4 op _ _ a.g) (fun w4 W a=>?_)))))));refine lL a ac (ah (CG.join (fun Γ w_=>∃ (zo:Bool)(e:Hp),Γ=[(1,pB l),(2,qF),(68,.bool zo)]/\SS w h w_ e [⟨l,31,bE ⟨op,n,L,D,H,J,I,M,F,s,A,y.length,c⟩⟩] [] [fun e=>Rms d e y ks,fun e=>SlO 7 bE bT e A y,fun e=>RZ e (L,qS D H J,qS I M F) q]/\(zo=true->¬((0<=gG op/\(ks.length:Int)=gG op)/\((op=2->isb s=true)/\(op≠2->s=⟨#[]⟩))/\(op=1\/q.num=0)/\(op=8\/n=0) /\ -12<=n/\n<=12))/\(zo=false->((0<=gG op/\(ks.length:Int)=gG op)/\((op=2->isb s=true)/\(op≠2->s=⟨#[]⟩))/\(op=1\/q.num=0)/\(op=8\/n=0) /\ -12<=n/\n<=12))) ?_ ?_))
 .
  refine kQ (lL a ac ?_);cases S:(decide ((gG op:Int)<(0:Int)))
  .
   have Y:=oF S;refine lB 9 S (lL a [.c,.v (qP l 6),.o (qS A y.length c) 0 6 1,.v (nV y.length),.c] ?_);cases O:((y.length:Int) != (gG op:Int))
   .
    have bd:=aW O;refine lB 15 O (lL a [.v qF,.c,.v (pB l),.o (iV op) 0 0 1] ?_);cases Q:((op:Int) == (2:Int))
    .
     have Z:=aj Q;refine lB 20 Q (lL a ac (lG 22 ?_));refine lG 23 (lG 24 (lG 25 (lL a [.v qF,.v qF,.c,.v (pB l),.o (iV op) 0 0 1] ?_)));have hb9:((op:Int) != (2:Int))=true:=Ca oM;have b7:=aK hb9;refine lB 31 hb9 (lL a [.c,.v (qP l 5),.o (.string s) 0 5 1] ?_);cases zb:(lZ s (⟨#[]⟩))
     .
      have zw:=oO zb;refine lB 35 zb (lL a [.v qF,.v qF,.c,.v (pB l),.o (iV op) 0 0 1] ?_);cases zd:((op:Int) != (1:Int))
      .
       have zx:=aW zd;refine lB 41 zd (lL a ac (lG 43 ?_));refine lG 44 (lG 45 (lG 46 (lL a [.v qF,.v qF,.c,.v (pB l),.o (iV op) 0 0 1] ?_)));have zp:((op:Int) != (8:Int))=true:=Ca oM;have bm:=aK zp;refine lB 52 zp (lL a [.c,.v (qP l 1),.o (iV n) 0 1 1] ?_);cases ze:((n:Int) != (0:Int))
       .
        have zB:=aW ze;refine lB 56 ze (lL a [.v qF,.v qF,.c,.v (qP l 1),.o (iV n) 0 1 1] ?_);have ⟨zM,bn⟩:=dF (p:=(n:Int)<(-12:Int)) oM;refine lB 62 zM (lL a [.v qF,.c,.v (qP l 1),.o (iV n) 0 1 1] ?_);have ⟨zN,bt⟩:=dF (p:=(12:Int)<(n:Int)) oM;refine lB 67 zN (lL a [.v qF] (lD ?_));intro B u;exact ⟨_,⟨false,W,rfl,a.to _ _,(fun e=>absurd e kD),(fun _=>⟨by omega,⟨fun e=>by first|exact j.symm.trans aM|exact absurd e oM,fun e=>by first|assumption|exact absurd e oM⟩,by omega,by omega⟩)⟩,u.to _ kR⟩
       have zB:=aK ze;refine lB 56 ze (lL a [.v qT,.v qT,.c] (lG 60 ?_));refine lG 61 (lG 62 (lL a [.v qT,.c] (lG 65 ?_)));refine lG 66 (lG 67 (lL a [.v qT] (lD ?_)));intro B u;exact ⟨_,⟨true,W,rfl,a.to _ _,(fun _ e=>by first|exact NJ ((e.2.1.1 oM).symm.trans (j.symm.trans aM))|exact absurd (e.2.1.2 oM) aM|(have x:=e.1;have z:=e.2.2;omega)),(fun e=>absurd e kD)⟩,u.to _ kR⟩
      have zx:=aK zd;refine lB 41 zd (lL a [.c,.v (qP l 2),.o (.agg #[.bool L,qS D H J,qS I M F]) 0 2 3] (aq 45 a (xN L D H J I M F q _ _ a.g a.f.r.1) (fun _ U a=>?_)));cases zq:(decide (q.num=0))
      .
       have zD:=oF zq;refine lL a [.v qT,.v qT,.v qT,.c] (lG 50 ?_);refine lG 51 (lG 52 (lG 53 (lG 54 (lG 55 (lG 56 (lG 57 (lL a [.v qT,.c] (lG 60 ?_))))))));refine lG 61 (lG 62 (lL a [.v qT,.c] (lG 65 ?_)));refine lG 66 (lG 67 (lL a [.v qT] (lD ?_)));intro B u;exact ⟨_,⟨true,U,rfl,a.to _ _,(fun _ e=>by first|exact NJ ((e.2.1.1 oM).symm.trans (j.symm.trans aM))|exact absurd (e.2.1.2 oM) aM|(have x:=e.1;have z:=e.2.2;omega)),(fun e=>absurd e kD)⟩,u.to _ kR⟩
      have zD:=oT zq;refine lL a [.v qF,.v qF,.v qF,.c,.v (pB l),.o (iV op) 0 0 1] ?_;cases zf:((op:Int) != (8:Int))
      .
       have zE:=aW zf;refine lB 52 zf (lL a ac (lG 54 ?_));refine lG 55 (lG 56 (lL a [.v qF,.v qF,.c,.v (qP l 1),.o (iV n) 0 1 1] ?_));cases zg:(decide ((n:Int)<(-12:Int)))
       .
        have zG:=oF zg;refine lB 62 zg (lL a [.v qF,.c,.v (qP l 1),.o (iV n) 0 1 1] ?_);cases zi:(decide ((12:Int)<(n:Int)))
        .
         have zH:=oF zi;refine lB 67 zi (lL a [.v qF] (lD ?_));intro B u;exact ⟨_,⟨false,U,rfl,a.to _ _,(fun e=>absurd e kD),(fun _=>⟨by omega,⟨fun e=>by first|exact j.symm.trans aM|exact absurd e oM,fun e=>by first|assumption|exact absurd e oM⟩,by omega,by omega⟩)⟩,u.to _ kR⟩
        have zH:=oT zi;refine lB 67 zi (lL a [.v qT] (lD ?_));intro B u;exact ⟨_,⟨true,U,rfl,a.to _ _,(fun _ e=>by first|exact NJ ((e.2.1.1 oM).symm.trans (j.symm.trans aM))|exact absurd (e.2.1.2 oM) aM|(have x:=e.1;have z:=e.2.2;omega)),(fun e=>absurd e kD)⟩,u.to _ kR⟩
       have zG:=oT zg;refine lB 62 zg (lL a [.v qT,.c] (lG 65 ?_));refine lG 66 (lG 67 (lL a [.v qT] (lD ?_)));intro B u;exact ⟨_,⟨true,U,rfl,a.to _ _,(fun _ e=>by first|exact NJ ((e.2.1.1 oM).symm.trans (j.symm.trans aM))|exact absurd (e.2.1.2 oM) aM|(have x:=e.1;have z:=e.2.2;omega)),(fun e=>absurd e kD)⟩,u.to _ kR⟩
      have zE:=aK zf;refine lB 52 zf (lL a [.c,.v (qP l 1),.o (iV n) 0 1 1] ?_);cases zj:((n:Int) != (0:Int))
      .
       have zI:=aW zj;refine lB 56 zj (lL a [.v qF,.v qF,.c,.v (qP l 1),.o (iV n) 0 1 1] ?_);have ⟨zP,b3⟩:=dF (p:=(n:Int)<(-12:Int)) oM;refine lB 62 zP (lL a [.v qF,.c,.v (qP l 1),.o (iV n) 0 1 1] ?_);have ⟨zQ,b0⟩:=dF (p:=(12:Int)<(n:Int)) oM;refine lB 67 zQ (lL a [.v qF] (lD ?_));intro B u;exact ⟨_,⟨false,U,rfl,a.to _ _,(fun e=>absurd e kD),(fun _=>⟨by omega,⟨fun e=>by first|exact j.symm.trans aM|exact absurd e oM,fun e=>by first|assumption|exact absurd e oM⟩,by omega,by omega⟩)⟩,u.to _ kR⟩
      have zI:=aK zj;refine lB 56 zj (lL a [.v qT,.v qT,.c] (lG 60 ?_));refine lG 61 (lG 62 (lL a [.v qT,.c] (lG 65 ?_)));refine lG 66 (lG 67 (lL a [.v qT] (lD ?_)));intro B u;exact ⟨_,⟨true,U,rfl,a.to _ _,(fun _ e=>by first|exact NJ ((e.2.1.1 oM).symm.trans (j.symm.trans aM))|exact absurd (e.2.1.2 oM) aM|(have x:=e.1;have z:=e.2.2;omega)),(fun e=>absurd e kD)⟩,u.to _ kR⟩
     have zw:=oB zb;refine lB 35 zb (lL a [.v qT,.v qT,.c] (lG 39 ?_));refine lG 40 (lG 41 (lG 42 (lG 43 (lG 44 (lG 45 (lG 46 (lG 47 (lL a [.v qT,.c] (lG 50 ?_)))))))));refine lG 51 (lG 52 (lG 53 (lG 54 (lG 55 (lG 56 (lG 57 (lL a [.v qT,.c] (lG 60 ?_))))))));refine lG 61 (lG 62 (lL a [.v qT,.c] (lG 65 ?_)));refine lG 66 (lG 67 (lL a [.v qT] (lD ?_)));intro B u;exact ⟨_,⟨true,W,rfl,a.to _ _,(fun _ e=>by first|exact NJ ((e.2.1.1 oM).symm.trans (j.symm.trans aM))|exact absurd (e.2.1.2 oM) aM|(have x:=e.1;have z:=e.2.2;omega)),(fun e=>absurd e kD)⟩,u.to _ kR⟩
    have Z:=eq_of_beq Q;refine lB 20 Q (lL a [.c,.v (qP l 5),.o (.string s) 0 5 1] (lC 24 a (nF s hsm _ _ a.g) ?_));rintro _ _ zW a ⟨bi,rfl,j⟩;cases b5:(bi)
    .
     refine lL a [.v qT,.v qT,.v qT,.c] (lG 29 ?_);refine lG 30 (lG 31 (lG 32 (lG 33 (lG 34 (lG 35 (lG 36 (lL a [.v qT,.c] (lG 39 ?_))))))));refine lG 40 (lG 41 (lG 42 (lG 43 (lG 44 (lG 45 (lG 46 (lG 47 (lL a [.v qT,.c] (lG 50 ?_)))))))));refine lG 51 (lG 52 (lG 53 (lG 54 (lG 55 (lG 56 (lG 57 (lL a [.v qT,.c] (lG 60 ?_))))))));refine lG 61 (lG 62 (lL a [.v qT,.c] (lG 65 ?_)));refine lG 66 (lG 67 (lL a [.v qT] (lD ?_)));intro B u;exact ⟨_,⟨true,zW,rfl,a.to _ _,(fun _ e=>by first|exact NJ ((e.2.1.1 oM).symm.trans (j.symm.trans aM))|exact absurd (e.2.1.2 oM) aM|(have x:=e.1;have z:=e.2.2;omega)),(fun e=>absurd e kD)⟩,u.to _ kR⟩
    refine lL a [.v qF,.v qF,.v qF,.c,.v (pB l),.o (iV op) 0 0 1] ?_;have zr:((op:Int) != (2:Int))=false:=Jm oM;have bz:=aW zr;refine lB 31 zr (lL a ac (lG 33 ?_));refine lG 34 (lG 35 (lL a [.v qF,.v qF,.c,.v (pB l),.o (iV op) 0 0 1] ?_));have zs:((op:Int) != (1:Int))=true:=Ca oM;have b2:=aK zs;refine lB 41 zs (lL a [.c,.v (qP l 2),.o (.agg #[.bool L,qS D H J,qS I M F]) 0 2 3] (aq 45 a (xN L D H J I M F q _ _ a.g a.f.r.1) (fun _ zt a=>?_)));cases zu:(decide (q.num=0))
    .
     have zJ:=oF zu;refine lL a [.v qT,.v qT,.v qT,.c] (lG 50 ?_);refine lG 51 (lG 52 (lG 53 (lG 54 (lG 55 (lG 56 (lG 57 (lL a [.v qT,.c] (lG 60 ?_))))))));refine lG 61 (lG 62 (lL a [.v qT,.c] (lG 65 ?_)));refine lG 66 (lG 67 (lL a [.v qT] (lD ?_)));intro B u;exact ⟨_,⟨true,zt,rfl,a.to _ _,(fun _ e=>by first|exact NJ ((e.2.1.1 oM).symm.trans (j.symm.trans aM))|exact absurd (e.2.1.2 oM) aM|(have x:=e.1;have z:=e.2.2;omega)),(fun e=>absurd e kD)⟩,u.to _ kR⟩
    have zJ:=oT zu;refine lL a [.v qF,.v qF,.v qF,.c,.v (pB l),.o (iV op) 0 0 1] ?_;have zv:((op:Int) != (8:Int))=true:=Ca oM;have bf:=aK zv;refine lB 52 zv (lL a [.c,.v (qP l 1),.o (iV n) 0 1 1] ?_);cases zk:((n:Int) != (0:Int))
    .
     have zK:=aW zk;refine lB 56 zk (lL a [.v qF,.v qF,.c,.v (qP l 1),.o (iV n) 0 1 1] ?_);have ⟨zR,br⟩:=dF (p:=(n:Int)<(-12:Int)) oM;refine lB 62 zR (lL a [.v qF,.c,.v (qP l 1),.o (iV n) 0 1 1] ?_);have ⟨zS,bl⟩:=dF (p:=(12:Int)<(n:Int)) oM;refine lB 67 zS (lL a [.v qF] (lD ?_));intro B u;exact ⟨_,⟨false,zt,rfl,a.to _ _,(fun e=>absurd e kD),(fun _=>⟨by omega,⟨fun e=>by first|exact j.symm.trans aM|exact absurd e oM,fun e=>by first|assumption|exact absurd e oM⟩,by omega,by omega⟩)⟩,u.to _ kR⟩
    have zK:=aK zk;refine lB 56 zk (lL a [.v qT,.v qT,.c] (lG 60 ?_));refine lG 61 (lG 62 (lL a [.v qT,.c] (lG 65 ?_)));refine lG 66 (lG 67 (lL a [.v qT] (lD ?_)));intro B u;exact ⟨_,⟨true,zt,rfl,a.to _ _,(fun _ e=>by first|exact NJ ((e.2.1.1 oM).symm.trans (j.symm.trans aM))|exact absurd (e.2.1.2 oM) aM|(have x:=e.1;have z:=e.2.2;omega)),(fun e=>absurd e kD)⟩,u.to _ kR⟩
   have bd:=aK O;refine lB 15 O (lL a [.v qT,.c] (lG 18 ?_));refine lG 19 (lG 20 (lG 21 (lG 22 (lG 23 (lG 24 (lG 25 (lG 26 (lL a [.v qT,.c] (lG 29 ?_)))))))));refine lG 30 (lG 31 (lG 32 (lG 33 (lG 34 (lG 35 (lG 36 (lL a [.v qT,.c] (lG 39 ?_))))))));refine lG 40 (lG 41 (lG 42 (lG 43 (lG 44 (lG 45 (lG 46 (lG 47 (lL a [.v qT,.c] (lG 50 ?_)))))))));refine lG 51 (lG 52 (lG 53 (lG 54 (lG 55 (lG 56 (lG 57 (lL a [.v qT,.c] (lG 60 ?_))))))));refine lG 61 (lG 62 (lL a [.v qT,.c] (lG 65 ?_)));refine lG 66 (lG 67 (lL a [.v qT] (lD ?_)));intro B u;exact ⟨_,⟨true,W,rfl,a.to _ _,(fun _ e=>by first|exact NJ ((e.2.1.1 oM).symm.trans (j.symm.trans aM))|exact absurd (e.2.1.2 oM) aM|(have x:=e.1;have z:=e.2.2;omega)),(fun e=>absurd e kD)⟩,u.to _ kR⟩
  have Y:=oT S;refine lB 9 S (lL a ac (lG 11 ?_));refine lG 12 (lG 13 (lG 14 (lG 15 (lL a [.v qT,.c] (lG 18 ?_)))));refine lG 19 (lG 20 (lG 21 (lG 22 (lG 23 (lG 24 (lG 25 (lG 26 (lL a [.v qT,.c] (lG 29 ?_)))))))));refine lG 30 (lG 31 (lG 32 (lG 33 (lG 34 (lG 35 (lG 36 (lL a [.v qT,.c] (lG 39 ?_))))))));refine lG 40 (lG 41 (lG 42 (lG 43 (lG 44 (lG 45 (lG 46 (lG 47 (lL a [.v qT,.c] (lG 50 ?_)))))))));refine lG 51 (lG 52 (lG 53 (lG 54 (lG 55 (lG 56 (lG 57 (lL a [.v qT,.c] (lG 60 ?_))))))));refine lG 61 (lG 62 (lL a [.v qT,.c] (lG 65 ?_)));refine lG 66 (lG 67 (lL a [.v qT] (lD ?_)));intro B u;exact ⟨_,⟨true,W,rfl,a.to _ _,(fun _ e=>by first|exact NJ ((e.2.1.1 oM).symm.trans (j.symm.trans aM))|exact absurd (e.2.1.2 oM) aM|(have x:=e.1;have z:=e.2.2;omega)),(fun e=>absurd e kD)⟩,u.to _ kR⟩
 rintro _ _ ⟨zo,zX,rfl,a,zU,C⟩;cases zl:(zo)
 .
  try rw[zl] at a
  try rw[zl]
  refine dC (cK (cQ (aa a ac (aZ ?_))));refine bH _ (CG.loop (fun μ_ Γ w_=>∃ (k:Nat)(e:Hp),μ_=y.length-k/\Γ=[(1,pB l),(4,nV k)]/\SS w h w_ e [⟨l,31,bE ⟨op,n,L,D,H,J,I,M,F,s,A,y.length,c⟩⟩] [] [fun e=>Rms d e y ks,fun e=>SlO 7 bE bT e A y,fun e=>RZ e (L,qS D H J,qS I M F) q]/\k<=y.length/\(∀ i,i<k->WfT (fun s=>isb s=true) d (ks.getD i cZ))) _ ⟨0,zX,rfl,rfl,a.to _ _,Mv _,(fun i hi=>absurd hi (NK i))⟩ ?_);rintro _ _ _ ⟨k,_,b4,rfl,a,hk,hWk⟩;refine cQ (aa a [.c,.v (qP l 6),.o (qS A y.length c) 0 6 1,.v (nV y.length)] ?_);cases zm:(decide ((k:Int)<(y.length:Int)))
  .
   have zL:=oF zm;refine lB 73 zm (ag (CG.exit ?_))
   show CG _ _ _ _ _ _ _ _
   exact aa a ac (ae a [] qT (Fx ⟨by have x:=(C aM).1;omega,(C aM).2.2.1,(C aM).2.1,(C aM).2.2.2⟩ hq (fun i hi=>hWk i oM)))
  have zL:=oT zm;refine lB 73 zm (ak (cK (cQ (kZ (aa a [.v (qP l 6),.o (qS A y.length c) 0 6 1,.c] (lX 79 A y.length c 7 (k:Nat) k ((a.f.2.1).ok oM) ?_))))));refine lH 80 (bJ (y.getD k bT)) a ((a.f.2.1).el k oM) (lC 81 a (ih (y.getD k bT) (ks.getD k cZ) _ _ a.g ((a.f.1).at_ k oM) (hW k oM)) ?_);rintro _ _ ya a ⟨bk,rfl,V⟩;cases b6:(bk)
  .
   exact lL a [.v qT] (ak (aa a ac (ae a [] qF (FC (k:=k) oM aM V))))
  refine lL a [.v qF] (ag (cK (kQ (lL a ac (bv 75 ((k:Nat)+1) (k+1) ?_)))));refine lL a ac (lD ?_);intro B u;refine ⟨_,_,?_,⟨k+1,ya,rfl,rfl,a.to _ _,oM,(fun i hi=>by rcases NL.1 hi with e|rfl;exact hWk i e;exact V.1 aM)⟩,u.to _ kR⟩
  omega
 try rw[zl] at a
 try rw[zl]
 exact cn (aa a ac (ae a [] qF (pR (fun e=>zU aM ⟨by have x:=e.1;omega,e.2.2.1,e.2.1,e.2.2.2⟩))))
theorem qy (isb:ByteArray->Bool)(sm:ByteArray->Prop)(nF:∀ s,sm s->∀ (w:World) (h:Hp),G w h->Calls Tryz.prog 52 #[.string s] w (Ret w h (fun v _=>∃ b,v=.bool b/\b=isb s))):∀ (d:Nat) (r:RTm) (t:Tm) (w:World) (h:Hp),G w h->RmH d h r t->n3 sm d t ->  Calls Tryz.prog 49 #[bJ r] w (Ret w h (fun v _=>∃ e,v=.bool e/\(e=true↔WfT (fun s=>isb s=true) d t)))
  | 0,_,_,_,_,_,x,_=>x.elim
  | d+1,r,t,w,h,g,x,wf=>by
    obtain ⟨op,n,b,I,o,C,z,F,f,q,s,A,c,j,ks,rfl,rfl,B,y,u,a⟩:=x.open;obtain ⟨p,l,D,i,H,J⟩:=wf;exact Bt isb sm nF d (fun r t w h=>qy isb sm nF d r t w h) op n b I o C z F f q s A c j ks y p l D i H J w h g B u a
theorem CA  (ok:ByteArray->Prop)(d:Nat)(ih:∀ (r:RTm) (t:Tm) (w:World) (h:Hp),G w h->RmH d h r t->WfT ok d t->Calls Tryz.prog 50 #[bJ r] w (Ret w h (fun v _=>v=iV ((min (bI d t) 1073741824:Nat):Int))))(op n:Int)(C:Bool)(F:Z9)(y B:Nat)(z:Z9)(D x:Nat)(q:Rat)(s:ByteArray)(A:Z9)(c:Nat)(e:List RTm)(ks:List Tm)(hc:e.length<=c)(Y:ks.length<=2)(W:gG op=(ks.length:Nat))(hq0:op≠1->q=0)(hq:LQ 3000 q)(X:op=2->ok s)(hs0:op≠2->s=⟨#[]⟩)(U:op≠8->n=0)(L : -12<=n)(J:n<=12)(hW:∀ i,i<ks.length->WfT ok d (ks.getD i cZ))(w:World)(h:Hp)(g:G w h)(hZ:RZ h (C,.slice F y B,.slice z D x) q)(hK:SlO 7 bE bT h A e)(Q:Rms d h e ks):CV 50 #[bJ ⟨op,n,C,F,y,B,z,D,x,s,A,e.length,c⟩] w h (iV ((min (bI (d+1) (.mk op n q s ks)) 1073741824:Nat):Int)):=by
 have a:=((((sS g).add (K:=fun j=>RZ j (C,qS F y B,qS z D x) q) hZ).aS hK).add (K:=fun j=>Rms d j e ks) Q);have hln:=(a.f.1).len;refine go Tryz.func50 [(0,bJ ⟨op,n,C,F,y,B,z,D,x,s,A,e.length,c⟩)] rfl (aD (lA 1 31 (bE ⟨op,n,C,F,y,B,z,D,x,s,A,e.length,c⟩) a (fun u w2 Z a=>lL a ac (ah (aa a [.v (qP u 6),.o (qS A e.length c) 0 6 1,.v (nV e.length)] ?_)))));cases l:((e.length:Int) == (0:Int))
 .
  have H:=aj l;refine lB 8 l (ag (cK (aa a ac (ah (aa a ac (aZ ?_))))));refine bH _ (CG.loop (fun O Γ w_=>∃ (k:Nat)(sm:Nat)(j:Hp),O=e.length-k/\Γ=[(1,pB u),(2,iV 0),(4,nV k),(3,nV sm)]/\SS w h w_ j [⟨u,31,bE ⟨op,n,C,F,y,B,z,D,x,s,A,e.length,c⟩⟩] [] [fun j=>Rms d j e ks,fun j=>SlO 7 bE bT j A e,fun j=>RZ j (C,qS F y B,qS z D x) q]/\k<=e.length/\sm=min (dQ (fun i=>bI d (ks.getD i cZ)) k) 1073741824) _ ⟨0,0,Z,rfl,rfl,a.to _ _,Mv _,rfl⟩ ?_);rintro _ _ w5 ⟨k,sm,h6,hm7,rfl,a,hk,I⟩;have hs1:(dQ (fun i=>bI d (ks.getD i cZ)) (k+1))=(dQ (fun i=>bI d (ks.getD i cZ)) k)+bI d (ks.getD k cZ):=rfl;refine cQ (aa a [.c,.v (qP u 6),.o (qS A e.length c) 0 6 1,.v (nV e.length)] ?_);cases p:(decide ((k:Int)<(e.length:Int)))
  .
   have M:=oF p;refine lB 13 p (ag (CG.exit ?_))
   show CG _ _ _ _ _ _ _ _
   refine aa a [.v (pB u),.o (iV op) 0 0 1,.v (qP u 1),.o (iV n) 0 1 1,.c] (aq 30 a (D9 op n (sm:Nat) oM (fun _=>⟨L,J⟩) _ _ a.g) (fun w9 _ a=>lL a ac (lN (kX ?_))));have V:k=ks.length:=by omega
   have S:=jY (d:=d) (op:=op) (n:=n) (q:=q) (s:=s) (ks:=ks) oM;rw[V] at I
   exact a.ret [] (iV (min (fE op n (sm:Nat)) 1073741824)) (congrArg (Value.int .i64) (by rw[S,I];exact sf U L J))
  have M:=oT p;refine lB 13 p (ak (cK (cQ (kZ (kQ (lL a [.c,.v (qP u 6),.o (qS A e.length c) 0 6 1,.c] (lX 20 A e.length c 7 (k:Nat) k ((a.f.2.1).ok oM) ?_)))))));refine lH 21 (bJ (e.getD k bT)) a ((a.f.2.1).el k oM) (aq 22 a (ih (e.getD k bT) (ks.getD k cZ) _ _ a.g ((a.f.1).at_ k oM) (hW k oM)) (fun _ za a=>lI 23 ((sm:Nat)+((min (bI d (ks.getD k cZ)) 1073741824:Nat):Int)) (lV 24 (iV ((min (dQ (fun i=>bI d (ks.getD i cZ)) (k+1)) 1073741824:Nat):Int)) ?_ (hr:=aI (n:=if (1073741824:Int)<((sm:Nat)+((min (bI d (ks.getD k cZ)) 1073741824:Nat):Int)) then (1073741824:Int) else ((sm:Nat)+((min (bI d (ks.getD k cZ)) 1073741824:Nat):Int))) kR (by split<;>omega)))));refine lL a ac (lN (kQ (lL a ac (bv 15 ((k:Nat)+1) (k+1) ?_))));refine lL a ac (lD ?_);intro a_ ka;refine ⟨_,_,?_,⟨k+1,(min (dQ (fun i=>bI d (ks.getD i cZ)) (k+1)) 1073741824),za,rfl,rfl,a.to _ _,oM,rfl⟩,ka.to _ kR⟩
  omega
 have H:=eq_of_beq l;exact lB 8 l (ak (aa a ac (ae a [] (iV 1) (congrArg (Value.int .i64) (by rw[Ce oM];rfl)))))
theorem Ak (ok:ByteArray->Prop):∀ (d:Nat) (r:RTm) (t:Tm) (w:World) (h:Hp),G w h->RmH d h r t->WfT ok d t->Calls Tryz.prog 50 #[bJ r] w (Ret w h (fun v _=>v=iV ((min (bI d t) 1073741824:Nat):Int)))
  | 0,_,_,_,_,_,x,_=>x.elim
  | d+1,r,t,w,h,g,x,wf=>by
    obtain ⟨op,n,b,I,l,B,u,F,f,q,s,A,c,i,ks,rfl,rfl,y,p,o,e⟩:=x.open;have a:ks.length<=2:=wf.two;obtain ⟨w1,w2,w3,z,D,J,C,H,j⟩:=wf;exact CA ok d (fun r t w h=>Ak ok d r t w h) op n b I l B u F f q s A c i ks p a w1 w2 w3 z D J C H j w h g y o e
theorem uh  (isb:ByteArray->Bool)(sm:ByteArray->Prop)(nF:∀ s,sm s->∀ (w:World) (h:Hp),G w h->Calls Tryz.prog 52 #[.string s] w (Ret w h (fun v _=>∃ b,v=.bool b/\b=isb s)))(d:Nat)(r:RTm)(t:Tm)(Q:d<=24)(w:World)(h:Hp)(g:G w h)(hR:RmH d h r t)(x:n3 sm d t):CR 24 #[bJ r] w h (fun v _=>∃ e:Int,v=iV e/\(e=0↔WfT (fun s=>isb s=true) d t/\bI d t<=1000)):=by
 have a:=((sS g).add (K:=fun i=>RmH d i r t) hR);refine go Tryz.func24 [(0,bJ r)] rfl (aD (lA 1 31 (bE r) a (fun I w2 J a=>lL a ac (ah (kZ (aa a [.o (bJ r) 0 0 7] (lC 5 a (s8 sm d r t _ _ a.g a.f.1 x oM) ?_)))))));rintro _ L M a ⟨z,rfl,F,C⟩;cases j:(decide ((24:Int)<(z:Int)))
 .
  have p:=oF j;refine lB 6 j (lL a ac (ag (aa a [.o (bJ r) 0 0 7] (lC 9 a (qy isb sm nF d r t _ _ a.g a.f.1 x) ?_))));rintro _ O H a ⟨D,rfl,l⟩;cases y:(D)
  .
   exact lL a [.v qT,.c] (ak (aa a ac (ae a [] (iV 2) (⟨_,rfl,fun i=>absurd i kD,fun i=>NJ ((l.2 i.1).symm.trans aM)⟩))))
  refine lL a [.v qF,.c] (ag (aa a [.o (bJ r) 0 0 7] (aq 13 a (Ak (fun s=>isb s=true) d r t _ _ a.g a.f.1 (l.1 aM)) (fun _ _ a=>?_))));cases u:(decide ((1000:Int)<(((min (bI d t) 1073741824:Nat):Int):Int)))
  .
   have B:=oF u;exact lB 14 u (lL a ac (ag (cK (aa a ac (ae a [] (iV 0) (⟨_,rfl,fun _=>⟨l.1 aM,by omega⟩,fun _=>rfl⟩))))))
  have B:=oT u;exact lB 14 u (lL a ac (ak (aa a ac (ae a [] (iV 18) (⟨_,rfl,fun i=>absurd i kD,fun i=>by have:=i.2;omega⟩)))))
 have p:=oT j;refine lB 6 j (lL a ac (ak (aa a ac (lN (kX ?_)))))
 exfalso;omega
theorem tL (A:Z9)(c:Nat)(ns:List ByteArray)(s:ByteArray)(I:ns.length<=1000)(w:World)(h:Hp)(g:G w h)(C:SlO 1 bB ⟨#[]⟩ h A ns):CR 53 #[.slice A ns.length c,.string s] w h (fun v _=>∃ b,v=.bool b/\(b=true↔s∈ns)):=by
 have a:=((sS g).aS C);refine go Tryz.func53 [(0,qS A ns.length c),(1,.string s)] rfl (aa a ac (ah (aa a ac (aZ ?_))));refine bH _ (CG.loop (fun u Γ z=>∃ (k:Nat)(j:Hp),u=ns.length-k/\Γ=[(0,qS A ns.length c),(1,.string s),(5,nV k)]/\SS w h z j [] [] [fun j=>SlO 1 bB ⟨#[]⟩ j A ns]/\k<=ns.length/\(∀ i,i<k->¬ns.getD i ⟨#[]⟩=s)) _ ⟨0,h,rfl,rfl,a.to _ _,Mv _,(fun i hi=>absurd hi (NK i))⟩ ?_);rintro _ _ w1 ⟨k,B,x,rfl,a,hk,l⟩;refine cQ (aa a [.c,.c,.v (nV ns.length)] ?_);cases e:(decide ((k:Int)<(ns.length:Int)))
 .
  have o:=oF e;refine lB 9 e (ag (CG.exit ?_))
  show CG _ _ _ _ _ _ _ _
  exact aa a ac (ae a [] qF (⟨false,rfl,fun j=>(by cases j),fun j=>(by obtain ⟨D,F,y⟩:=Kf j;exact absurd y (l D oM))⟩))
 have o:=oT e;refine lB 9 e (ak (cK (cQ (kZ (aa a ax (lX 14 A ns.length c 1 (k:Nat) k ((a.f.1).ok oM) ?_))))));refine lH 15 (.string (ns.getD k ⟨#[]⟩)) a ((a.f.1).el k oM) (lL a ac ?_);cases d:(kC (ns.getD k ⟨#[]⟩) s)
 .
  have p:=ii d;refine lB 17 d (ag (cK (kQ (lL a ac (bv 11 ((k:Nat)+1) (k+1) ?_)))));refine lL a ac (lD ?_);intro J H;refine ⟨_,_,?_,⟨k+1,B,rfl,rfl,a.to _ _,oM,(fun i hi=>by rcases NL.1 hi with j|rfl;exact l i j;assumption)⟩,H.to _ kR⟩
  omega
 have p:=g7 d;exact lB 17 d (ak (aa a ac (ae a [] qT (⟨true,rfl,fun _=>IL (by omega:k<ns.length) aM,fun _=>rfl⟩))))
def KI (s t:ByteArray):Bool:=Go.Op.bytesLess s.toList t.toList
section
variable {M:Ms}{P:Program}{n:Nat}{N R:Po}{X:Nat->Po}{ops:Array Oper}{k k0:Nat}{hr:Hp}{AL:List Al}{L:Array Bool}{Γ:cl}{w:World}{h:Hp}{w0:World}{h0:Hp}{B:List Bx}{Rs:List Rw}{F:List (Hp->Prop)}
theorem CO {base:Nat}{e:TypeId}{sz:Nat}{A:Z9}{l c n:Nat}{xs:List Value}(o:w.ownsRow base e sz (.slice A l c) n xs):l<=c:=by
 rcases o with ⟨_,⟨e1,_⟩|⟨g,cap,cur,e1,_,_,h1,_⟩⟩
 ·cases e1;exact ea _
 ·cases e1;exact h1
theorem mS {α:Type}{o:Oper}{ty:TypeId}{sz O c c2 j:Nat}{z:Value}{A D:Z9}{l:List α}{f:α->List Value}(s:SS w0 h0 w h B Rs F)(M:p9 P (ev Γ) o=some (.slice A l.length c,.slice D 0 c2,ty,z,sz,O))(H:Rs.getD j default=⟨ty,sz,A,c,l.length,l.flatMap f⟩)(C:j<Rs.length) :
    (execOp (ev Γ) o).run P w=.ok (.value (.slice A l.length c)) w:=by
  obtain ⟨x,y,e,J,L,I,p,hi⟩:=ju M;have r:=s.ro _ (e5 C);rw[fc H C] at r
  cases d:P.info? ty with
  | none=>rw[d] at hi;cases hi
  | some inf =>
    rw[d] at hi
    have K:Src P inf.size e (.slice D 0 c2) 0 [] w:=by
      cases D with
      | none=>exact Src.ofNil w p c2
      | some a=>exact Src.ofSlice w p a 0 c2 [] (by simp) (fun j u C=>by cases C) (fun u p=>by cases p)
    have i:=run_append_nothing (P:=P) w e e o.type ty inf p d A l.length c (CO r.own) (.slice D 0 c2) K
    unfold execOp
    simp only[J,resolve,invoke,builtin,Sem.run_bind,Sem.run_pure,Result.andThen_ok,List.map_toArray,List.map_cons,List.map_nil,L,I,i]
theorem KX {α:Type}(t j:Nat)(ty:TypeId)(sz c:Nat)(A:Z9)(l:List α)(f:α->List Value)(d:α)(p:Z9)(m:List α)(C c2 u:Nat)(z:Value)(s:SS w0 h0 w h B Rs F)(so:SlO sz f d h p m)
    (H:∀ A' c' w' h',SS w0 h0 w' h' B (Rs.set j ⟨ty,sz,A',c',(l++m).length,(l++m).flatMap f⟩) F->LG P n N R X ops (k+1) ((t,.slice A' (l++m).length c')::Γ) w')
    (o:cL ops Γ k t n=true:=by kernel_rfl)(D:p9 P (ev Γ) (am ops k)=some (.slice A l.length c,.slice p C c2,ty,z,sz,u):=by kernel_rfl)(hn:C=m.length:=by omega)(hf:∀ x,(f x).length=sz:=by intro _;rfl)(h1:∀ x,(f x).all (·.oneCell')=true:=by intro _;kernel_rfl)(i:z.cells.size=sz:=by kernel_rfl)(a:0<sz:=by decide)
    (hr:Rs.getD j default=⟨ty,sz,A,c,l.length,l.flatMap f⟩:=by kernel_rfl)(I:decide (j<Rs.length)=true:=by kernel_rfl)(M:l.length+m.length<=1099511627776:=by omega)(J:(l.length+m.length)*u<=140737488355328:=by omega):LG P n N R X ops k Γ w:=by
  subst hn;cases m with
  | nil =>
    have e:=oT I;have K:l++[]=l:=Oh l;rw[K] at H
    have L:Rs.set j ⟨ty,sz,A,c,l.length,l.flatMap f⟩=Rs:=by
      have:=fc hr e;rw[<-this,Oi]
    have y:=s;rw[<-L] at y
    exact LG.val t _ w (bM o).1 (bM o).2 (mS s D hr e) (H A c w h y)
  | cons x xs=>exact KU t j ty sz c A l f d p (x::xs) c2 u z s so (Mx _) H o D hf h1 i a hr I M J
theorem D8 {n:Nat}{a:Act}{Γ:cl}{c d:Nat}{f i:Value}(h:c≠d)(k:Kn n a ((c,f)::(d,i)::Γ)):Kn n a ((d,i)::(c,f)::Γ):=by
 have e:∀ s:Nat,((d,i)::(c,f)::Γ).lookup s=((c,f)::(d,i)::Γ).lookup s:=fun s=>by
  simp only[hO]
  by_cases e1:s=c
  ·subst e1
   have:(s == d)=false:=by simpa using h
   rw[this]
  ·have:(s == c)=false:=by simpa using e1
   rw[this]
 refine k.mono (fun s u j=>(e s)▸j) ?_
 unfold gl
 rw[e]
theorem rV {K b:Nat}{w w':World}{v:Value}(hz:M.z=some (K,[]))(f:K<=w.heap.size)(hv:∀ b,v.ownBlock=some b->K<=b)(a:w.grownBy w' v.ownBlock):Tl M w w':=fun c bs e=>by
 rw[hz] at e
 injection e with e
 injection e with e1 e2
 subst e1 e2;exact ⟨a.size,fun b d _=>a.block b oM (fun e=>by have:=hv b e.symm;omega)⟩
theorem Jv (i j x B:Nat)(C D:Value)(u l:World)
  (H:(Region.ready .any ops L == [i,j] && decide (i<ops.size) && decide (j<ops.size) && Region.noSelect ops && aY Γ (am ops i) && aY Γ (am ops j) && ((am ops i).dst == some x) && ((am ops j).dst == some B) && decide (x<n) && decide (B<n))=true)
  (e:bh ops Γ (am ops i)=some true)(f:bh ops Γ (am ops j)=some true)
  (o:(execOp (ev Γ) (am ops i)).run P w=.ok (.value C) u)(y:Tl M w u)(J:AG M P n N R X ops 0 (L.setIfInBounds i true) ((x,C)::Γ) u)
  (h:(execOp (ev Γ) (am ops j)).run P w=.ok (.value D) l)(p:Tl M w l)(O:AG M P n N R X ops 0 (L.setIfInBounds j true) ((B,D)::Γ) l):AG M P n N R X ops 0 L Γ w:=by
 simp only[i2,decide_eq_true_eq,beq_iff_eq] at H
 obtain ⟨⟨⟨⟨⟨⟨⟨⟨⟨c1,c2⟩,I⟩,F⟩,V⟩,U⟩,Q⟩,S⟩,K⟩,z⟩:=H;intro a c;refine A.intro (fun h0=>by rw[c1] at h0;cases h0) (fun k hk=>?_);rw[c1] at hk
 rcases gs.1 hk with rfl|hk
 ·refine OpR.wpOp (bG c2) (R:=fun v w'=>Tl M w w'/\A M P ops (iP N R X) 0 (L.setIfInBounds k true) (a.put (am ops k).dst v) w') ⟨c.want e,?_⟩ (fun v w' d=>⟨Rl.tl (Mv _) d.1,d.2⟩)
  rw[c.exec (Region.noSelect_spec F k _ · · (bG c2)) V,Q];exact .inl ⟨_,_,o,y,J _ (c.put K _)⟩
 ·rw[sA] at hk
  subst hk;refine OpR.wpOp (bG I) (R:=fun v w'=>Tl M w w'/\A M P ops (iP N R X) 0 (L.setIfInBounds k true) (a.put (am ops k).dst v) w') ⟨c.want f,?_⟩ (fun v w' d=>⟨Rl.tl (Mv _) d.1,d.2⟩);rw[c.exec (Region.noSelect_spec F k _ · · (bG I)) U,S];exact .inl ⟨_,_,h,p,O _ (c.put z _)⟩
theorem iH {K:Nat}(hz:M.z=some (K,[]))(o:Obj){W:World}(f:K<=W.heap.size):Tl M W (W.alloc o)/\K<=(W.alloc o).heap.size:=by
 have d:(W.alloc o).heap.size=W.heap.size+1:=Array.size_push _;refine ⟨fun c bs e=>?_,by omega⟩;rw[hz] at e
 injection e with e
 injection e with e1 e2
 subst e1 e2
 exact ⟨by omega,fun b a _=>by
  show (W.heap.push o)[b]?=W.heap[b]?
  rw[Array.getElem?_push,if_neg oM]⟩
theorem SS.new0 {α:Type}(f:α->List Value){sz:Nat}(s:SS w0 h0 w h B Rs F)(ty:TypeId)(hf:∀ x,(f x).length=sz):SS w0 h0 (w.alloc (.cells #[] ty (0,0))) (h.push bg) B (⟨ty,sz,some ⟨w.heap.size,0,none⟩,0,0,[]⟩::Rs) F:=s.newr (l:=([]:List α)) (f:=f) ty hf (Mv _)
theorem SS.newS (s:SS w0 h0 w h B Rs F)(ty:TypeId)(cs:List Value):SS w0 h0 (w.alloc (.cells cs.toArray ty (0,0))) (h.push (.cells cs.toArray ty (0,0))) B Rs ((fun h=>Seg h w.heap.size 0 cs)::F):=by
 refine (s.step (Up.allocAny s.g _ _ (.inl rfl))).a_Seg ?_;have e:h.size=w.heap.size:=by have:=s.g.size;omega
 rw[<-e];exact Seg.new cs ty
theorem rK {K:Nat}{α:Type}{o:Oper}{ty:TypeId}{sz:Nat}{f:α->List Value}{d:α}{I:Nat}{X:Z9}{m:List α}{c2 Y:Nat}{z:Value}(hz:M.z=some (K,[]))(J:K<=w.heap.size)(S:K<=I)(s:SS w0 h0 w h B (⟨ty,sz,some ⟨I,0,none⟩,0,0,[]⟩::Rs) F)(so:SlO sz f d h X m)
    (W:p9 P (ev Γ) o=some (.slice (some ⟨I,0,none⟩) 0 0,.slice X m.length c2,ty,z,sz,Y))(hf:∀ x,(f x).length=sz)(h1:∀ x,(f x).all (·.oneCell')=true)(Q:z.cells.size=sz)(D:0<sz)(hm:m.length<=1099511627776)(Z:m.length*Y<=140737488355328) :
    ∃ c c' w' L,(execOp (ev Γ) o).run P w=.ok (.value (.slice c m.length c')) w'/\Tl M w w'/\(∀ b,(Value.slice c m.length c').ownBlock=some b->K<=b)/\K<=w'.heap.size/\SS w0 h0 w' L B (⟨ty,sz,c,c',m.length,m.flatMap f⟩::Rs) F:=by
  cases m with
  | nil=>exact ⟨_,_,w,h,mS (α:=α) (j:=0) (l:=[]) (f:=f) s W rfl (Mx _),Tl.refl _ _,(fun b e=>by cases e;exact S),J,s⟩
  | cons x xs =>
    have C:0<(x::xs).length:=Mx _;rw[so.ok C] at W
    obtain ⟨x',y,ty',ho,hx,O,V,hi⟩:=ju W
    obtain ⟨v',w',H,ow,U,a⟩:=qG (P:=P) ho hx O V hi Q D s.st (bY hf (x::xs)) (gJ s.g (so.flat hf)) (fun u V=>by
      obtain ⟨y,_,O⟩:=Mj.1 V;exact (oi.1 (h1 y)) u O) C hm Z
    have hv:∀ b,v'.ownBlock=some b->K<=b:=fun b e=>by
      rcases a with h1|h1
      . rw[h1] at e;cases e
      . rw[h1] at e;cases e;exact J
    obtain ⟨L,c,c',rfl,e2,s2⟩:=(s.nil ty sz).grown (j:=0) (by simp) (w':=w') (v':=v') (m2:=(x::xs).length) (news:=(x::xs).flatMap f) ow U a;have hT:Tl M w w':=rV (b:=0) hz J (v:=Value.slice none 0 0) (fun b e=>by cases e) U;have p:SS w0 h0 w' L B (⟨ty,sz,c,c',(x::xs).length,(x::xs).flatMap f⟩::⟨ty,sz,some ⟨I,0,none⟩,0,0,[]⟩::Rs) F:=by simpa using s2
    have i:(execOp (ev Γ) o).run P w=.ok (.value (.slice c (x::xs).length c')) w':=by rw[H];simp
    refine ⟨c,c',w',L,i,hT,(fun b e=>hv b (by simpa using e)),eb J U.size,⟨p.g0,p.st,fun r hr=>p.ro r ?_,?_,p.mo,p.f⟩⟩
    . rcases gs.1 hr with e|e
      . exact gs.2 (.inl e)
      . exact gs.2 (.inr (gs.2 (.inr e)))
    . exact List.Pairwise.sublist (List.Sublist.cons_cons _ (List.sublist_cons_self _ _)) p.ap
theorem AX {n:Nat}{a:Act}{Γ:cl}{j c d:Nat}{i f l:Value}(h:c≠d)(k:Kn n a ((j,i)::(c,f)::(d,l)::Γ)):Kn n a ((j,i)::(d,l)::(c,f)::Γ):=by
 have e:∀ s:Nat,((j,i)::(d,l)::(c,f)::Γ).lookup s=((j,i)::(c,f)::(d,l)::Γ).lookup s:=fun s=>by
  simp only[hO]
  by_cases e1:s=c
  ·subst e1
   have:(s == d)=false:=by simpa using h
   rw[this]
  ·have:(s == c)=false:=by simpa using e1
   rw[this]
 refine k.mono (fun s u o=>(e s)▸o) ?_
 unfold gl
 rw[e]
theorem KW {K:Nat}{α:Type}(i j k c l p:Nat)(e o:TypeId)(sz:Nat)(f:α->List Value)(d:α)(y:Nat)(cs:List Value)(A2:Z9)(m:List α)(n2 c2 bt:Nat)(z:Value)(hz:M.z=some (K,[]))(hK:K<=w.heap.size)(s:SS w0 h0 w h B Rs F)(so:∀ h,AllF F h->SlO sz f d h A2 m)
  (H:∀ b0 D c' b' w' h',(∀ b,(Value.slice D m.length c').ownBlock=some b->K<=b)->K<=w'.heap.size->SS w0 h0 w' h' B (⟨e,sz,D,c',m.length,m.flatMap f⟩::Rs) ((fun h=>Seg h b' 0 cs)::F) ->
   AG M P n N R X ops 0 (((L.setIfInBounds i true).setIfInBounds j true).setIfInBounds k true) ((p,.slice D m.length c')::(l,.slice (some ⟨b',0,none⟩) y y)::(c,.slice (some ⟨b0,0,none⟩) 0 0)::Γ) w')
  (hn:n2=m.length:=by omega)(hd:(decide (c≠l) && decide (l≠p) && decide (i≠j) && decide (j≠k))=true:=by kernel_rfl)
  (c1:(Region.ready .any ops L == [i,j] && decide (i<ops.size) && decide (j<ops.size) && Region.noSelect ops && aY Γ (am ops i) && aY Γ (am ops j) && ((am ops i).dst == some c) && ((am ops j).dst == some l) && decide (c<n) && decide (l<n))=true:=by kernel_rfl)
  (c2_:∀ u,(Region.ready .any ops (L.setIfInBounds i true) == [k,j] && decide (k<ops.size) && decide (j<ops.size) && Region.noSelect ops && aY ((c,u)::Γ) (am ops k) && aY ((c,u)::Γ) (am ops j) && ((am ops k).dst == some p) && ((am ops j).dst == some l) && decide (p<n) && decide (l<n))=true:=by intro _;kernel_rfl)
  (hwi:bh ops Γ (am ops i)=some true:=by kernel_rfl)(hwj:bh ops Γ (am ops j)=some true:=by kernel_rfl)(Y:∀ u,bh ops ((c,u)::Γ) (am ops j)=some true:=by intro _;kernel_rfl)(bf:∀ u,bh ops ((c,u)::Γ) (am ops k)=some true:=by intro _;kernel_rfl)
  (ci:∀ u,(il ops 0 (L.setIfInBounds j true) i && aY ((l,u)::Γ) (am ops i) && ((am ops i).dst == some c) && decide (c<n))=true:=by intro _;kernel_rfl)(Z:∀ u,bh ops ((l,u)::Γ) (am ops i)=some true:=by intro _;kernel_rfl)
  (cj:∀ u v,(il ops 0 ((L.setIfInBounds i true).setIfInBounds k true) j && aY ((p,v)::(c,u)::Γ) (am ops j) && ((am ops j).dst == some l) && decide (l<n))=true:=by intro _ _;kernel_rfl)(bd:∀ u v,bh ops ((p,v)::(c,u)::Γ) (am ops j)=some true:=by intro _ _;kernel_rfl)
  (ck1:∀ u v,cT n ops 0 ((L.setIfInBounds i true).setIfInBounds j true) ((l,v)::(c,u)::Γ) k p=true:=by intro _ _;kernel_rfl)(Q:∀ u v,cT n ops 0 ((L.setIfInBounds j true).setIfInBounds i true) ((c,u)::(l,v)::Γ) k p=true:=by intro _ _;kernel_rfl)
  (hri:∀ w,(execOp (ev Γ) (am ops i)).run P w=.ok (.value (.slice (some ⟨w.heap.size,0,none⟩) 0 0)) (w.alloc (.cells #[] e (0,0))):=by intro _;kernel_rfl)(bb:∀ u w,(execOp (ev ((l,u)::Γ)) (am ops i)).run P w=.ok (.value (.slice (some ⟨w.heap.size,0,none⟩) 0 0)) (w.alloc (.cells #[] e (0,0))):=by intro _ _;kernel_rfl)
  (hrj:∀ w,(execOp (ev Γ) (am ops j)).run P w=.ok (.value (.slice (some ⟨w.heap.size,0,none⟩) y y)) (w.alloc (.cells cs.toArray o (0,0))):=by intro _;kernel_rfl)(U:∀ u w,(execOp (ev ((c,u)::Γ)) (am ops j)).run P w=.ok (.value (.slice (some ⟨w.heap.size,0,none⟩) y y)) (w.alloc (.cells cs.toArray o (0,0))):=by intro _ _;kernel_rfl)
  (bk:∀ u v w,(execOp (ev ((p,v)::(c,u)::Γ)) (am ops j)).run P w=.ok (.value (.slice (some ⟨w.heap.size,0,none⟩) y y)) (w.alloc (.cells cs.toArray o (0,0))):=by intro _ _ _;kernel_rfl)
  (e1:∀ b,p9 P (ev ((c,.slice (some ⟨b,0,none⟩) 0 0)::Γ)) (am ops k)=some (.slice (some ⟨b,0,none⟩) 0 0,.slice A2 n2 c2,e,z,sz,bt):=by intro _;kernel_rfl)
  (e2:∀ b v,p9 P (ev ((l,v)::(c,.slice (some ⟨b,0,none⟩) 0 0)::Γ)) (am ops k)=some (.slice (some ⟨b,0,none⟩) 0 0,.slice A2 n2 c2,e,z,sz,bt):=by intro _ _;kernel_rfl)
  (e3:∀ b v,p9 P (ev ((c,.slice (some ⟨b,0,none⟩) 0 0)::(l,v)::Γ)) (am ops k)=some (.slice (some ⟨b,0,none⟩) 0 0,.slice A2 n2 c2,e,z,sz,bt):=by intro _ _;kernel_rfl)
  (hf:∀ x,(f x).length=sz:=by intro _;rfl)(h1:∀ x,(f x).all (·.oneCell')=true:=by intro _;kernel_rfl)(I:z.cells.size=sz:=by kernel_rfl)(C:0<sz:=by decide)(hm:m.length<=1099511627776:=by omega)(hb:m.length*bt<=140737488355328:=by omega):AG M P n N R X ops 0 L Γ w:=by
 subst hn
 simp only[i2,decide_eq_true_eq] at hd
 obtain ⟨⟨⟨d1,d2⟩,d3⟩,d4⟩:=hd;have si:=s.new0 f e hf;have sj:=s.newS o cs;obtain ⟨x1,x2⟩:=iH (M:=M) hz (.cells #[] e (0,0)) hK;obtain ⟨y1,y2⟩:=iH (M:=M) hz (.cells cs.toArray o (0,0)) hK;refine Jv i j c l _ _ _ _ c1 hwi hwj (hri w) x1 ?_ (hrj w) y1 ?_
 ·obtain ⟨D,c',w',h',r1,r2,r3,W,O⟩:=rK (M:=M) (Γ:=(c,.slice (some ⟨w.heap.size,0,none⟩) 0 0)::Γ) hz x2 hK si (so _ si.f) (e1 _) hf h1 I C hm hb
  obtain ⟨q1,q2⟩:=iH (M:=M) hz (.cells cs.toArray o (0,0)) x2;refine Jv k j p l _ _ _ _ (c2_ _) (bf _) (Y _) r1 r2 ?_ (U _ _) q1 ?_
  ·obtain ⟨p1,p2⟩:=iH (M:=M) hz (.cells cs.toArray o (0,0)) W
   refine T.val j l _ _ (cj _ _) (bd _ _) (bk _ _ _) ?_ p1;intro a ka;have S:=H _ D c' _ _ _ r3 p2 (O.newS o cs) a (D8 d2 ka);rw[e6 _ _ d4] at S
   exact S
  ·have J:=si.newS o cs
   obtain ⟨D,c',w',h',r1,r2,r3,W,O⟩:=rK (M:=M) (Γ:=(l,.slice (some ⟨_,0,none⟩) y y)::(c,.slice (some ⟨w.heap.size,0,none⟩) 0 0)::Γ) hz q2 hK J (so _ J.f.2) (e2 _ _) hf h1 I C hm hb;exact T.val k p _ _ (jh (ck1 _ _)).1 (jh (ck1 _ _)).2 r1 (H _ D c' _ _ _ r3 W O) r2
 ·obtain ⟨q1,q2⟩:=iH (M:=M) hz (.cells #[] e (0,0)) y2
  have V:=sj.new0 f e hf;refine T.val i c _ _ (ci _) (Z _) (bb _ _) ?_ q1;obtain ⟨D,c',w',h',r1,r2,r3,W,O⟩:=rK (M:=M) (Γ:=(c,.slice (some ⟨_,0,none⟩) 0 0)::(l,.slice (some ⟨w.heap.size,0,none⟩) y y)::Γ) hz q2 y2 V (so _ V.f.2) (e3 _ _) hf h1 I C hm hb;refine T.val k p _ _ (jh (Q _ _)).1 (jh (Q _ _)).2 r1 ?_ r2;intro a ka;have S:=H _ D c' _ _ _ r3 W O a (AX d1 ka);rw[e6 _ _ d3] at S
  exact S
theorem KT {K:Nat}{α:Type}(i t j:Nat)(ty:TypeId)(sz c:Nat)(A:Z9)(l:List α)(f:α->List Value)(x:α)(bt b:Nat)(z:Value)(hz:M.z=some (K,[]))(Q:K<=w.heap.size)(hv:∀ b,(Value.slice A l.length c).ownBlock=some b->K<=b)(s:SS w0 h0 w h B Rs F)(sg:Seg h b 0 (f x))
  (H:∀ I c' w' U,(∀ b,(Value.slice I (l++[x]).length c').ownBlock=some b->K<=b)->K<=w'.heap.size->SS w0 h0 w' U B (Rs.set j ⟨ty,sz,I,c',(l++[x]).length,(l++[x]).flatMap f⟩) F->AG M P n N R X ops 0 (L.setIfInBounds i true) ((t,.slice I (l++[x]).length c')::Γ) w')
  (Y:cT n ops 0 L Γ i t=true:=by kernel_rfl)(he:p9 P (ev Γ) (am ops i)=some (.slice A l.length c,.slice (some ⟨b,0,none⟩) 1 1,ty,z,sz,bt):=by kernel_rfl)(J:z.cells.size=sz:=by kernel_rfl)(D:0<sz:=by decide)
  (W:Rs.getD j default=⟨ty,sz,A,c,l.length,l.flatMap f⟩:=by kernel_rfl)(hj:decide (j<Rs.length)=true:=by kernel_rfl)(h1:(f x).all (·.oneCell')=true:=by kernel_rfl)(hl:(f x).length=1*sz:=by kernel_rfl)(hm:l.length+1<=1099511627776:=by omega)(hb:(l.length+1)*bt<=140737488355328:=by omega):AG M P n N R X ops 0 L Γ w:=by
 have o:=oT hj;obtain ⟨x',y,ty',ho,hx,hy,V,hi⟩:=ju he;have r:=s.ro _ (e5 o);have C:=fc W o;rw[C] at r
 obtain ⟨v',w',d,ow,O,a⟩:=lj (P:=P) ho hx hy V hi J D s.st r hl (jH s.g sg) (fun u V=>(oi.1 h1) u V) hm hb
 have p:∀ b,v'.ownBlock=some b->K<=b:=fun b e=>by
  rcases a with h1|h1
  ·exact hv b (h1▸e)
  ·rw[h1] at e;cases e;exact Q
 have hT:Tl M w w':=rV (b:=0) hz Q hv O;have hg:=s.grown (j:=j) o (w':=w') (v':=v') (m2:=1) (news:=f x) (by rw[C];exact ow) (by rw[C];exact O) (by rw[C];exact a);rw[C] at hg
 obtain ⟨U,I,c',rfl,e2,S⟩:=hg;have Z:l.length+1=(l++[x]).length:=by simp
 simp only[] at S
 rw[m8,Z] at S
 rw[Z] at d p
 exact T.val i t _ w' (jh Y).1 (jh Y).2 d (H I c' w' U p (eb Q O.size) S) hT
theorem KV {K:Nat}{α:Type}(i t j:Nat)(ty:TypeId)(sz c:Nat)(A:Z9)(l:List α)(f:α->List Value)(d:α)(A2:Z9)(m:List α)(n2 c2 bt:Nat)(z:Value)(hz:M.z=some (K,[]))(U:K<=w.heap.size)(hv:∀ b,(Value.slice A l.length c).ownBlock=some b->K<=b)(s:SS w0 h0 w h B Rs F)(so:SlO sz f d h A2 m)
    (H:∀ J c' w' V,K<=w'.heap.size->SS w0 h0 w' V B (Rs.set j ⟨ty,sz,J,c',(l++m).length,(l++m).flatMap f⟩) F->AG M P n N R X ops 0 (L.setIfInBounds i true) ((t,.slice J (l++m).length c')::Γ) w')
    (I:cT n ops 0 L Γ i t=true:=by kernel_rfl)(he:p9 P (ev Γ) (am ops i)=some (.slice A l.length c,.slice A2 n2 c2,ty,z,sz,bt):=by kernel_rfl)(hn:n2=m.length:=by omega)(hf:∀ x,(f x).length=sz:=by intro _;rfl)(h1:∀ x,(f x).all (·.oneCell')=true:=by intro _;kernel_rfl)(Q:z.cells.size=sz:=by kernel_rfl)(D:0<sz:=by decide)
    (o:Rs.getD j default=⟨ty,sz,A,c,l.length,l.flatMap f⟩:=by kernel_rfl)(hj:decide (j<Rs.length)=true:=by kernel_rfl)(hm:l.length+m.length<=1099511627776:=by omega)(hb:(l.length+m.length)*bt<=140737488355328:=by omega):AG M P n N R X ops 0 L Γ w:=by
  subst hn;have a:=oT hj;cases m with
  | nil =>
    have e0:l++[]=l:=Oh l;rw[e0] at H
    have es:Rs.set j ⟨ty,sz,A,c,l.length,l.flatMap f⟩=Rs:=by
      have:=fc o a;rw[<-this,Oi]
    have s1:=s;rw[<-es] at s1
    exact T.val i t _ w (jh I).1 (jh I).2 (mS s he o a) (H A c w h U s1)
  | cons x xs =>
    have Y:0<(x::xs).length:=Mx _;rw[so.ok Y] at he
    obtain ⟨x',y,ty',ho,hx,O,Z,hi⟩:=ju he;have r:=s.ro _ (e5 a);have C:=fc o a;rw[C] at r
    obtain ⟨v',w',e,ow,S,p⟩:=lj (P:=P) ho hx O Z hi Q D s.st r (bY hf (x::xs)) (gJ s.g (so.flat hf)) (fun u Z=>by
      obtain ⟨y,_,O⟩:=Mj.1 Z;exact (oi.1 (h1 y)) u O) hm hb
    have hT:Tl M w w':=rV (b:=0) hz U hv S;have hg:=s.grown (j:=j) a (w':=w') (v':=v') (m2:=(x::xs).length) (news:=(x::xs).flatMap f) (by rw[C];exact ow) (by rw[C];exact S) (by rw[C];exact p);rw[C] at hg
    obtain ⟨V,J,c',rfl,e2,W⟩:=hg;have e1:l.length+(x::xs).length=(l++(x::xs)).length:=by simp
    simp only[] at W
    rw[qL,e1] at W
    rw[e1] at e
    exact T.val i t _ w' (jh I).1 (jh I).2 e (H J c' w' V (eb U S.size) W) hT
theorem zT (i t:Nat)(A:Z9)(len a sz:Nat)(x:Int)(j:Nat)(H:AG M P n N R X ops 0 (L.setIfInBounds i true) ((t,.slice A j a)::Γ) w)(e:wh n ops L Γ i t=true:=by kernel_rfl)(d:Cm P (ev Γ) (am ops i)=some (.slice A len a,none,some (.int .i64 x),sz):=by kernel_rfl)(hk:x=j:=by omega)(c:j<=a:=by omega):AG M P n N R X ops 0 L Γ w :=
 zV i t _ H e (sd j d hk c)
theorem zF (i t:Nat)(A:Z9)(len a sz:Nat)(x:Int)(j:Nat)(H:AG M P n N R X ops 0 (L.setIfInBounds i true) ((t,.slice (if a=j then A else A.map (·.add (j*sz))) (len-j) (a-j))::Γ) w)(e:wh n ops L Γ i t=true:=by kernel_rfl)(d:Cm P (ev Γ) (am ops i)=some (.slice A len a,some (.int .i64 x),none,sz):=by kernel_rfl)(hk:x=j:=by omega)(c:j<=len:=by omega):AG M P n N R X ops 0 L Γ w :=
 zV i t _ H e (lm j d hk c)
end
end Go.Proofs.YtlidpooijdogdaaGreatDoor
