/- Laws of this claim, part 5. -/
import Derived.Test.YteipbelehcpooaaGreatDoorQl0
import Derived.Test.YteipbelehcpooaaGreatDoorQl1
import Derived.Test.YteipbelehcpooaaGreatDoorQl2
import Derived.Test.YteipbelehcpooaaGreatDoorQl3
set_option maxRecDepth 100000
set_option maxHeartbeats 4000000
namespace Go.Proofs.YteipbelehcpooaaGreatDoor
open _root_.Array renaming getElem?_append_left -> yh, getElem?_eq_some_iff -> na, getElem?_push_size -> gp, getElem?_setIfInBounds_ne -> oi, getElem?_setIfInBounds_self_of_lt -> zF, size_setIfInBounds -> Lr
open Int renaming sign_eq_neg_one_iff_neg -> Ll, sign_trichotomy -> Lm
open List renaming append_assoc -> Ls, eq_nil_of_length_eq_zero -> yU, ext_getElem -> Lx, getD_eq_getElem?_getD -> A4, getElem?_eq_getElem -> Lu, getElem?_eq_some_iff -> At, getElem?_map -> JP, getElem?_zipIdx -> Lw, getElem_map -> yz, getElem_mem -> gx, length_append -> yR, length_cons -> yt, length_map -> K7, length_nil -> Li, length_replicate -> Lk, length_set -> JJ, length_singleton -> K8, map_append -> Lp, map_congr_left -> Lj, map_cons -> zh, mem_append -> g5, mem_cons -> hP, mem_iff_getElem? -> Lv, mem_map -> g8, mem_range -> pR, mem_singleton -> vl, mergeSort_perm -> Lz, nodup_append -> Lq, perm_middle -> hH, range -> po, replicate -> y2, size_toArray -> Ly, toArray -> Ky
open Nat renaming le_add_right -> Lc, le_mul_of_pos_left -> Kv, le_mul_of_pos_right -> Lg, le_of_ble_eq_true -> Am, le_refl -> ey, le_trans -> e6, mul_assoc -> Ft, mul_comm -> Az, mul_le_mul -> J1, mul_le_mul_left -> Jx, mul_le_mul_right -> yX, mul_left_comm -> JH, not_lt_zero -> K6, pow_le_pow_right -> Ju, pow_succ -> B2, succ_lt_succ -> Lt, succ_ne_zero -> Lh, succ_pos -> Kd, two_pow_pos -> H1, zero_add -> yW, zero_le -> JU
open Rat renaming not_le -> Ln, num_eq_zero -> KY, num_nonneg -> Lo
open Go.RowKit
open Go.RowKit Go.Shelf
theorem re (isb:ByteArray->Bool)(sm:ByteArray->Prop)(v6:∀ s,sm s->∀ (w:World) (h:Hp),G w h->Calls Tryz.prog 61 #[.string s] w (Ret w h (fun v _=>∃ b,v=.bool b/\b=isb s))):∀ (d:Nat) (p:PTm) (t:Tm) (w:World) (h:Hp),G w h->TmH d h p t->vn sm d t ->  Calls Tryz.prog 63 #[dl p] w (Ret w h (fun v _=>∃ e,v=.bool e/\(e=true↔WfT (fun s=>isb s=true) d t)))
  | 0,_,_,_,_,_,x,_=>x.elim
  | d+1,p,t,w,h,g,x,wf=>by
    obtain ⟨op,n,q,s,A,c,l,ks,rfl,rfl,u,o,a⟩:=x.open;obtain ⟨f,k,j,i,y,z⟩:=wf;have B:ks.length<=3:=f;exact vD isb sm v6 d (fun p t w h=>re isb sm v6 d p t w h) op n q s A c l ks u (by have:=a.len;omega) f k j i y z w h g o a
theorem Ah  (ok:ByteArray->Prop)(d:Nat)(ih:∀ (p:PTm) (t:Tm) (w:World) (h:Hp),G w h->TmH d h p t->WfT ok d t ->  Calls Tryz.prog 64 #[dl p,iV 1001] w (Ret w h (fun v _=>v=iV ((min (dd d t) 1001:Nat):Int))))(op n:Int)(q:Rat)(s:ByteArray)(A:Z9)(c:Nat)(b:List PTm)(ks:List Tm)(hc:b.length<=c)(W:b.length<=2)(L:aK op=(ks.length:Nat))(Z:op≠1->q=0)(hq:LQ 3000 q)(hok:op=2->ok s)(hs0:op≠2->s=⟨#[]⟩)(hn0:op≠8->n=0)(hn1 : -12<=n)(M:n<=12)(O:∀ i,i<ks.length->WfT ok d (ks.getD i aG))(w:World)(h:Hp)(g:G w h)(hK:SlO 9 dr bA h A b)(I:Tms d h b ks):CV 64 #[dl ⟨op,n,q,s,A,b.length,c⟩,iV 1001] w h (iV ((min (dd (d+1) (.mk op n q s ks)) 1001:Nat):Int)):=by
 have a:=(((sS g).aS hK).add (K:=fun z=>Tms d z b ks) I);have hln:=(a.f.1).len;refine go Tryz.func64 [(0,dl ⟨op,n,q,s,A,b.length,c⟩),(1,iV 1001)] rfl (aD (lA 2 32 (dr ⟨op,n,q,s,A,b.length,c⟩) a (fun C w2 h3 a=>lL a ae (ag (ab a [.v (qP C 8),.o (qS A b.length c) 0 8 1,.v (nV b.length)] ?_)))));cases u:((b.length:Int) == (0:Int))
 .
  have D:=ah u;refine lB 11 u (ai (cK (ab a ae (ag (ab a [.v (qP C 8),.o (qS A b.length c) 0 8 1,.v (nV b.length),.c] (be ?_))))));refine bU _ (CG.loop (fun J Γ Q=>∃ (k:Nat)(sm:Nat)(z:Hp),J=b.length-k/\Γ=[(1,iV 1001),(2,pB C),(15,qS A b.length c),(16,nV b.length),(17,nV k),(5,nV sm)]/\SS w h Q z [⟨C,32,dr ⟨op,n,q,s,A,b.length,c⟩⟩] [] [fun z=>Tms d z b ks,fun z=>SlO 9 dr bA z A b]/\k<=b.length/\sm=min (cw (fun i=>dd d (ks.getD i aG)) k) 1001) _ ⟨0,0,h3,rfl,rfl,a.to _ _,JU _,rfl⟩ ?_);rintro _ _ w5 ⟨k,sm,h6,V,rfl,a,hk,B⟩;have hs1:(cw (fun i=>dd d (ks.getD i aG)) (k+1))=(cw (fun i=>dd d (ks.getD i aG)) k)+dd d (ks.getD k aG):=rfl;refine aD ?_;cases y:(decide ((k:Int)<(b.length:Int)))
  .
   have H:=oF y;refine lB 18 y (ag (dv (CG.exit ?_)))
   show CG _ _ _ _ _ _ _ _
   refine cQ (ab a [.v (pB C),.o (iV op) 0 0 1] (be (aD ?_)));cases x:((op:Int) == (11:Int))
   .
    have F:=ah x;refine lB 36 x (lL a ae (ai (aD ?_)));cases za:((op:Int) == (8:Int))
    .
     have zc:=ah za;refine lB 40 za (lL a ae (ai (cK (ab a aN (lV 48 (iV (min (sm:Int) (1001:Int))) ?_ (hr:=ba (n:=(if (1001:Int)<(sm:Int) then (1001:Int) else (sm:Int))) kR (by simp only[vy])))))));refine lL a ae (lN (kX ?_));have l:k=ks.length:=by omega
     have j:=oE (d:=d) (op:=op) (n:=n) (q:=q) (s:=s) (ks:=ks) oM;have e:=mf (s:=(cw (fun i=>dd d (ks.getD i aG)) k)) (dC op n);rw[<-l] at j
     rw[<-j,<-B] at e
     exact a.ret [] (iV (min (sm:Int) (1001:Int))) (congrArg (Value.int .i64) (by rw[<-e];unfold dk;first|(rw[if_pos oM];(repeat' split)<;>omega)|(rw[if_neg oM,if_pos oM,Az];(repeat' split)<;>omega)|(rw[if_neg oM,if_neg oM];(repeat' split)<;>omega)))
    have zc:=eq_of_beq za;refine lB 40 za (lL a ae (au (kQ (lL a [.c,.v (qP C 1),.o (iV n) 0 1 1] (ak 44 a (EF n oM oM _ _ a.g) (fun _ _ a=>?_))))));have U:bD n<=12/\1<=bD n:=by unfold bD;split<;>omega
    have Y:sm*bD n<=1001*12:=J1 oM oM;refine lI 45 ((sm:Nat)*(bD n:Nat)) (lL a ae (a7 (lL a aN (lV 48 (iV (min ((sm:Nat)*(bD n:Nat):Int) (1001:Int))) ?_ (hr:=ba (n:=(if (1001:Int)<((sm:Nat)*(bD n:Nat):Int) then (1001:Int) else ((sm:Nat)*(bD n:Nat):Int))) kR (by simp only[vy]))))));refine lL a ae (lN (kX ?_));have l:k=ks.length:=by omega
    have j:=oE (d:=d) (op:=op) (n:=n) (q:=q) (s:=s) (ks:=ks) oM;have e:=mf (s:=(cw (fun i=>dd d (ks.getD i aG)) k)) (dC op n);rw[<-l] at j
    rw[<-j,<-B] at e
    exact a.ret [] (iV (min ((sm:Nat)*(bD n:Nat):Int) (1001:Int))) (congrArg (Value.int .i64) (by rw[<-e];unfold dk;first|(rw[if_pos oM];(repeat' split)<;>omega)|(rw[if_neg oM,if_pos oM,Az];(repeat' split)<;>omega)|(rw[if_neg oM,if_neg oM];(repeat' split)<;>omega)))
   have F:=eq_of_beq x;refine lB 36 x (lL a ae (au (kQ (lL a ae (lI 38 ((sm:Nat)*2) ?_)))));refine lL a ae (a7 (lL a aN (lV 48 (iV (min ((sm:Nat)*2:Int) (1001:Int))) ?_ (hr:=ba (n:=(if (1001:Int)<((sm:Nat)*2:Int) then (1001:Int) else ((sm:Nat)*2:Int))) kR (by simp only[vy])))));refine lL a ae (lN (kX ?_));have l:k=ks.length:=by omega
   have j:=oE (d:=d) (op:=op) (n:=n) (q:=q) (s:=s) (ks:=ks) oM;have e:=mf (s:=(cw (fun i=>dd d (ks.getD i aG)) k)) (dC op n);rw[<-l] at j
   rw[<-j,<-B] at e
   exact a.ret [] (iV (min ((sm:Nat)*2:Int) (1001:Int))) (congrArg (Value.int .i64) (by rw[<-e];unfold dk;first|(rw[if_pos oM];(repeat' split)<;>omega)|(rw[if_neg oM,if_pos oM,Az];(repeat' split)<;>omega)|(rw[if_neg oM,if_neg oM];(repeat' split)<;>omega)))
  have H:=oT y;refine lB 18 y (ag (bT (cK (cQ (kZ (aD (lX 19 A b.length c 9 (k:Nat) k ((a.f.2.1).ok oM) ?_)))))));refine lH 20 (dl (b.getD k bA)) a ((a.f.2.1).el k oM) (lA 7 32 cV a (fun S _ _ a=>lP 0 0 (dr (b.getD k bA)) a (fun _ a=>a7 (lL a [.c,.o (dl (b.getD k bA)) 0 0 9,.c] (ak 24 a (ih (b.getD k bA) (ks.getD k aG) _ _ a.g ((a.f.1).at_ k oM) (O k oM)) (fun _ ze a=>lI 25 ((sm:Nat)+((min (dd d (ks.getD k aG)) 1001:Nat):Int)) (lL a ae (lV 27 (iV ((min (cw (fun i=>dd d (ks.getD i aG)) (k+1)) 1001:Nat):Int)) ?_ (hr:=ba (n:=if (1001:Int)<((sm:Nat)+((min (dd d (ks.getD k aG)) 1001:Nat):Int)) then (1001:Int) else ((sm:Nat)+((min (dd d (ks.getD k aG)) 1001:Nat):Int))) kR (by split<;>omega))))))))));refine lL a ae (a7 (lL a aN ?_));cases zb:((((min (cw (fun i=>dd d (ks.getD i aG)) (k+1)) 1001:Nat):Int):Int) == (1001:Int))
  .
   have zd:=ah zb;refine lB 30 zb (ai (cK (kQ (bM 32 ((k:Nat)+1) (k+1) ?_))));refine lL a ae (lD ?_);intro a_ X;replace a:=a.drop 1 0;refine ⟨_,_,?_,⟨k+1,(min (cw (fun i=>dd d (ks.getD i aG)) (k+1)) 1001),ze,rfl,rfl,a.to _ _,oM,rfl⟩,X.to _ kR⟩
   omega
  have zd:=eq_of_beq zb;exact lB 30 zb (au (ab a aN (af a [] (iV 1001) (congrArg (Value.int .i64) (by have h1_:=gT (fun i=>dd d (ks.getD i aG)) (show k+1<=ks.length by omega);have h2_:=si (d:=d) (op:=op) (n:=n) (q:=q) (s:=s) (ks:=ks) oM;omega)))))
 have D:=eq_of_beq u;exact lB 11 u (au (ab a [.c,.v (iV 1),.c] (af a [] (iV 1) (congrArg (Value.int .i64) (by rw[D2 oM];first|rfl|omega)))))
theorem rr (ok:ByteArray->Prop):∀ (d:Nat) (p:PTm) (t:Tm) (w:World) (h:Hp),G w h->TmH d h p t->WfT ok d t ->  Calls Tryz.prog 64 #[dl p,iV 1001] w (Ret w h (fun v _=>v=iV ((min (dd d t) 1001:Nat):Int)))
  | 0,_,_,_,_,_,x,_=>x.elim
  | d + 1,p,t,w,h,g,x,wf=>by
    obtain ⟨op,n,q,s,A,c,e,ks,rfl,rfl,k,j,a⟩:=x.open;obtain ⟨w1,w2,w3,l,f,o,u,y,i⟩:=wf
    have b:e.length<=2:=by
      have e1:aK op=ks.length:=w1;have:=aA op;have:=a.len
      omega
    exact Ah ok d (fun p t w h=>rr ok d p t w h) op n q s A c e ks k b w1 w2 w3 l f o u y i w h g j a
structure PLt where
  s:ByteArray
  q:Rat
def HH:PLt:=⟨⟨#[]⟩,0⟩
structure RLt where
  s:ByteArray
  neg:Bool
  zA:Z9
  zn:Nat
  zc:Nat
  dA:Z9
  dn:Nat
  dc:Nat
def RLt.t (r:RLt):RT:=(r.neg,.slice r.zA r.zn r.zc,.slice r.dA r.dn r.dc)
def GS:RLt:=⟨⟨#[]⟩,false,none,0,0,none,0,0⟩
structure RLs (h:Hp) (rs:List RLt) (ps:List PLt):Prop where
  len:rs.length=ps.length
  at_:∀ i,i<ps.length->(rs.getD i GS).s=(ps.getD i HH).s/\RZ h (rs.getD i GS).t (ps.getD i HH).q
def H0 (op n:Int)(q:Rat)(e1 e2:Int)(a b:Rat):Int × Rat :=
  if e1≠0 then (e1,0) else if e2≠0 then (e2,0) else if i8 op n a b then (0,jX op n q a b) else (6,0)
section
variable {op n:Int}{q a b:Rat}{e1 e2:Int}
theorem x9 (h1:e1=0)(c:e2=0)(h:i8 op n a b):H0 op n q e1 e2 a b=(0,me op n q a b):=by unfold H0 me;rw[if_neg oM,if_neg oM,if_pos h,if_pos h]
end
theorem Aa {a:Rat}:dX a 1=a:=by
 have h1:((1:Int):Rat)=1:=rfl
 show ((1:Int):Rat)*a=a
 rw[h1];grind
theorem tF {a:Rat}{K:Nat}{n:Int}(d:1<=K)(h:LQ K a):LQ (bD n*(K+2)-2) (dX a n):=by
  unfold bD
  by_cases h1:n.natAbs<=1
  . rw[if_pos h1]
    have c:n=0\/n=1\/n = -1:=by omega
    rcases c with rfl|rfl|rfl
    . exact (LQ.lit (z:=1) kD).mono oM
    . rw[Aa];exact h.mono oM
    . have e:dX a (-1)=a⁻¹:=by
        have h1:((1:Int):Rat)=1:=rfl
        show ((1:Int):Rat)/(((1:Int):Rat)*a)=a⁻¹
        rw[h1];rw[Rat.one_mul,Rat.div_def,Rat.one_mul]
      rw[e];exact h.inv.mono oM
  . rw[if_neg h1]
    have b:=e9 h n.natAbs;have f:n.natAbs*(K+2)=n.natAbs*K+n.natAbs*2:=Nat.mul_add _ _ _
    unfold dX
    split
    . exact b.mono oM
    . exact ((LQ.lit (z:=1) kD).div b).mono oM
theorem xt {op n:Int}{q a b:Rat}{e1 e2:Int}{wa wb c:Nat}(C:3<=c)(o:1<=wa)(d:LQ (c*wa-2) a)(i:1<=wb->LQ (c*wb-2) b)(f:aK op=2->1<=wb)(u:LQ 1 q)(B:3<=op/\op<=13) :
    LQ (c*(dk op n*(wa+wb))-2) (H0 op n q e1 e2 a b).2:=by
  obtain ⟨M,hM⟩:∃ M,M=dk op n*(wa+wb):=⟨_,rfl⟩;have w1:=dC op n;have l:wa+wb<=dk op n*(wa+wb):=Kv _ w1;rw[<-hM] at l ⊢
  have h0:LQ 1 (0:Rat):=LQ.lit (z:=0) kD;have F:=o;have D:c*(wa+wb)<=c*M:=Jx _ l;have m2:c*(wa+wb)=c*wa+c*wb:=Nat.mul_add _ _ _;have y:c<=c*wa:=Lg _ o;have hz:LQ (c*M-2) (0:Rat):=h0.mono oM
  suffices h:LQ (c*M-2) (jX op n q a b) by
    unfold H0
    split
    . exact hz
    . split
      . exact hz
      . split
        . exact h
        . exact hz
  unfold jX
  split
  . exact u.mono oM
  split
  . rename_i h;have w2:=f (by rw[h];rfl);have j:c<=c*wb:=Lg _ w2;exact (d.add (i w2)).mono oM
  split
  . rename_i h;have w2:=f (by rw[h];rfl);have j:c<=c*wb:=Lg _ w2;exact (d.sub (i w2)).mono oM
  split
  . rename_i h;have w2:=f (by rw[h];rfl);have j:c<=c*wb:=Lg _ w2;exact (d.mul (i w2)).mono oM
  split
  . rename_i h;have w2:=f (by rw[h];rfl);have j:c<=c*wb:=Lg _ w2;exact (d.div (i w2)).mono oM
  split
  . exact d.neg.mono oM
  split
  . rename_i p
    have e:dk op n=bD n:=by unfold dk;rw[if_neg oM,if_pos p]
    have f:=tF (n:=n) oM d
    have e2:bD n*(c*wa-2+2)<=c*(bD n*(wa+wb)):=by
      rw[show c*wa-2+2=c*wa by omega,JH];exact Jx _ (Jx _ (Lc _ _))
    rw[e] at hM
    rw[<-hM] at e2
    exact f.mono (Nat.sub_le_sub_right e2 2)
  split
  . exact d.abs.mono oM
  split
  . exact (LQ.maxR d (h0.mono (by omega:1<=c*wa-2))).mono oM
  split
  . rename_i k
    have e:dk op n=2:=by unfold dk;rw[if_pos k]
    rw[e] at hM
    have x:c*M=2*(c*(wa+wb)):=by rw[hM,JH]
    exact (d.div (d.abs.add (LQ.lit (z:=1) kD))).mono oM
  split
  . rename_i h;have w2:=f (by rw[h];rfl);have j:c<=c*wb:=Lg _ w2
    unfold maxR;split
    . exact (i w2).mono oM
    . exact d.mono oM
  . have w2 := f (by have:op=13:=by omega
                     rw[this];rfl)
    have j:c<=c*wb:=Lg _ w2
    unfold mZ;split
    . exact (i w2).mono oM
    . exact d.mono oM
theorem pY {ks:List Tm}{op:Int}(h:aK op=ks.length):ks=[]\/(∃ t,ks=[t])\/∃ t u,ks=[t,u]:=by
 have:=aA op
 rcases ks with _|⟨t,_|⟨u,_|⟨v,l⟩⟩⟩
 ·exact .inl rfl
 ·exact .inr (.inl ⟨t,rfl⟩)
 ·exact .inr (.inr ⟨t,u,rfl⟩)
 ·simp only[yt] at h;omega
theorem wg {d m:Nat}{op n:Int}{q:Rat}{s:ByteArray}{a:Tm}(h:dd (d+1) (.mk op n q s [a])<=m):dd d a<=m:=by
 have b:=si (d:=d) (op:=op) (n:=n) (q:=q) (s:=s) (ks:=[a]) (Lh _);have e:cw (fun i=>dd d (([a]:List Tm).getD i aG)) ([a]:List Tm).length=0+dd d a:=rfl
 omega
theorem wy {d m:Nat}{op n:Int}{q:Rat}{s:ByteArray}{a b:Tm}(h:dd (d+1) (.mk op n q s [a,b])<=m):dd d a<=m/\dd d b<=m:=by
 have c:=si (d:=d) (op:=op) (n:=n) (q:=q) (s:=s) (ks:=[a,b]) (Lh _);have e:cw (fun i=>dd d (([a,b]:List Tm).getD i aG)) ([a,b]:List Tm).length=0+dd d a+dd d b:=rfl
 omega
theorem BH {α:Type}:∀ {l:List α},l.length=2->∃ a b,l=[a,b]
 | [a,b],_=>⟨a,b,rfl⟩
 | [],h=>by simp only[Li] at h;omega
 | [_],h=>by simp only[yt,Li] at h;omega
 | _::_::_::_,h=>by simp only[yt] at h;omega
def rF (m:Nat)(op n:Int)(x y:Int × Rat × List Rat):Int × Rat × List Rat :=
  if x.1≠0 then (x.1,0,[]) else if y.1≠0 then (y.1,0,[]) else if cG op n x.2.1 y.2.1≠0 then (cG op n x.2.1 y.2.1,0,[])
  else (0,jX op n 0 x.2.1 y.2.1,(po m).map fun i=>j9 op n x.2.1 y.2.1*x.2.2.getD i 0+kL op x.2.1 y.2.1*y.2.2.getD i 0)
def ay (ix:ByteArray->Nat)(at_:List Rat):Nat->Tm->Int × Rat × List Rat
  | 0,_=>(0,0,[])
  | d+1,t =>
    if t.op=1 then (0,t.q,y2 at_.length 0)
    else if t.op=2 then (0,at_.getD (ix t.s) 0,bh at_.length (ix t.s))
    else rF at_.length t.op t.n (if 0<t.ks.length then ay ix at_ d (t.ks.getD 0 aG) else (0,0,[])) (if 1<t.ks.length then ay ix at_ d (t.ks.getD 1 aG) else (0,0,[]))
section
variable {ix:ByteArray->Nat}{at_ way:List Rat}
theorem kP {m:Nat}{op n:Int}{x y:Int × Rat × List Rat}(h:x.1≠0):rF m op n x y=(x.1,0,[]):=if_pos h
theorem qL {m:Nat}{op n:Int}{x y:Int × Rat × List Rat}(h:x.1=0)(a:y.1≠0):rF m op n x y=(y.1,0,[]):=by unfold rF;rw[if_neg (fun k=>k h),if_pos a]
theorem kN {m:Nat}{op n:Int}{x y:Int × Rat × List Rat}(h:x.1=0)(a:y.1=0)(b:cG op n x.2.1 y.2.1≠0):rF m op n x y=(cG op n x.2.1 y.2.1,0,[]):=by unfold rF;rw[if_neg (fun k=>k h),if_neg (fun k=>k a),if_pos b]
def kb (m:Nat)(op n:Int)(a b:Rat)(ga gb:List Rat):List Rat:=(po m).map fun i=>j9 op n a b*ga.getD i 0+kL op a b*gb.getD i 0
theorem duG_len {m:Nat}{op n:Int}{a b:Rat}{ga gb:List Rat}:(kb m op n a b ga gb).length=m:=by unfold kb;simp
theorem kM {m:Nat}{op n:Int}{x y:Int × Rat × List Rat}(h:x.1=0)(a:y.1=0)(b:cG op n x.2.1 y.2.1=0):rF m op n x y=(0,jX op n 0 x.2.1 y.2.1,kb m op n x.2.1 y.2.1 x.2.2 y.2.2):=by unfold rF;rw[if_neg (fun k=>k h),if_neg (fun k=>k a),if_neg (fun k=>k b)];rfl
end
theorem SS.takeL {w0:World}{h0:Hp}{w:World}{h:Hp}{B:List Bx}{F:List (Hp->Prop)}(s:SS w0 h0 w h B [] F){b:Nat}{ty:TypeId}{vs:List Value}(o:h0.size<=b)(f:h[b]?=some (.cells vs.toArray ty (0,0)))(i:(ty == 0)=false:=by kernel_rfl) :
  ∃ k,SS w0 h0 w k (⟨b,ty,vs⟩::B) [] []:=by
 have d:=aF f
 have nj:h[b]?≠some bc:=fun e=>by
  rw[e] at f
  injection f with f
  unfold bc at f
  injection f with h1 h2 h3
  rw[<-h2] at i
  cases i
 have hG:G w (h.setIfInBounds b bc):=⟨by simp;exact s.g.size,fun c=>by
  by_cases e:b=c
  ·subst e;right;rw[zF d]
  ·rw[oi e];exact s.g.blk c⟩
 have u:Gr h0 (h.setIfInBounds b bc):=⟨by simp;exact s.st.up.gr.size,fun c j=>by rw[oi oM];exact s.st.up.gr.blk c j⟩
 have l:Own w b ty vs:=by
  rcases s.g.blk b with e|e
  ·exact e.symm.trans f
  ·exact absurd e nj
 refine ⟨h.setIfInBounds b bc,s.g0,⟨⟨s.st.up.ext,u,hG⟩,?_,?_,?_,?_⟩,fun _ a=>(by cases a),.nil,fun _ a=>(by cases a),trivial⟩
 ·intro x a
  rcases hP.1 a with rfl|a
  ·exact l
  ·exact s.st.own x a
 ·intro x a
  rcases hP.1 a with rfl|a
  ·exact zF d
  ·by_cases e:b=x.b
   ·rw[<-e];exact zF d
   ·rw[oi e];exact s.st.jk x a
 ·intro x a
  rcases hP.1 a with rfl|a
  ·exact o
  ·exact s.st.lo x a
 ·show (b::B.map (·.b)).Nodup
  refine List.nodup_cons.2 ⟨fun p=>?_,s.st.nd⟩;obtain ⟨x,a,e⟩:=g8.1 p;exact nj (e▸s.st.jk x a)
abbrev pF (q:Rat)(A:Z9)(m c:Nat):Value:=.agg #[.bool (av q.num),.int .u64 (lo (ac q.num)),.string (hi (ac q.num)),.int .u64 (lo (qd q)),.string (hi (qd q)),.slice A m c]
def je (f:Nat->Rat)(m k:Nat):List Rat:=(po m).map fun i=>if i<k then f i else 0
theorem oW (f:Nat->Rat)(m:Nat):y2 m (0:Rat)=je f m 0:=by
 unfold je
 refine fp (by simp) fun i=>?_
 by_cases hi:i<m
 ·simp[hi]
 ·rw[bG (by simp;omega),bG (by simp;omega)]
theorem ko {f:Nat->Rat}{m k:Nat}(hk:k<m):(je f m k).set k (f k)=je f m (k+1):=by
 unfold je
 refine fp (by simp) fun i=>?_
 by_cases hi:i<m
 ·rw[dL (by simpa using hk)]
  by_cases e:i=k
  ·subst e;simp[hi]
  ·rw[if_neg e];simp[hi]
   by_cases h2:i<k
   ·rw[if_pos h2,if_pos oM]
   ·rw[if_neg h2,if_neg oM]
 ·rw[bG (by simp;omega),bG (by simp;omega)]
theorem gJ (f:Nat->Rat)(m:Nat):((po m).map fun i=>f i).length=m:=by simp
theorem vK (m i:Nat):(bh m i).length=m:=by unfold bh;simp
theorem kl (f:Nat->Rat)(m:Nat):je f m m=(po m).map fun i=>f i:=by
 unfold je
 refine Lj fun i hi=>?_
 rw[if_pos (pR.1 hi)]
theorem jQ (i:Z9)(m e:Nat)(D:m<=1000)(q:Rat)(hk:Hp)(w:World)(h:Hp)(g:G w h)(hz:hk.size<=h.size):CR 226 #[.agg #[.slice i m e],qv q] w h (fun v h1=>∃ bk,v=pF q (sB bk) m m/\Nw hk.size h1 bk 29 ((y2 m (0:Rat)).flatMap qc)):=by
 have a:=sS g;refine go Tryz.func226 [(0,.agg #[qS i m e]),(1,qv q)] rfl (aD (lA 2 102 ([qS i m e]) a (fun p w2 F a=>lA 3 29 (qc q) a (fun x B C a=>lA 4 61 ([qF,uV 0,eS,uV 0,eS,sZ]) a (fun y H z a=>ag (cR 6 [] mixed a ao ?_))))));refine eO 0 5 [(1,0,5)] (qv q) a (eV 1 6 (pB p) (eO 2 7 [(2,0,1)] (qS i m e) a (eV 3 8 (nV m) (eK 4 9 29 m 5 56 da qc 0 a (fun za _ _ a=>?_)))));have u:(y2 m 0).length=m:=by simp
 refine eV 5 10 (qY q (sB za) m m) (ce a (fun _ _ a=>tP 6 1 0 (qZ q (sB za) m m) a (fun _ a=>tN (kX ?_))));obtain ⟨_,a,j,c,k⟩:=a.pub 0;replace a:=(a.to [⟨y,61,qZ q (sB za) m m⟩,⟨x,29,qc q⟩,⟨p,102,[qS i m e]⟩] []).aS (SlO.of_flat (sz:=5) (f:=qc) (d:=0) (b:=za) (o:=0) (l:=y2 m 0) (fun _=>rfl) j);exact a.ret [(0,0,6)] (qY q (sB za) m m) (⟨_,rfl,e6 hz c,by decide,k⟩)
theorem jR (c:Z9)(m a:Nat)(i:m<=1000)(q:Rat)(w:World)(h:Hp)(g:G w h):Calls Tryz.prog 226 #[.agg #[.slice c m a],qv q] w (Ret w h (fun v h1=>∃ bk,v=pF (q) (sB bk) (y2 m (0:Rat)).length m/\Sq (sB bk) (y2 m (0:Rat)) h1)) :=
 (jQ c m a i q h w h g (nR _)).mono fun e w' ⟨v,h',e1,u,b,e2,n⟩=>⟨v,h',e1,u,b,by rw[e2,Lk],SlO.of_flat (sz:=5) (f:=qc) (d:=0) (b:=b) (o:=0) (l:=y2 m (0:Rat)) (fun _=>rfl) n.seg0⟩
theorem F4 (y:Z9)(m x:Nat)(hm:m<=1000)(K D:Nat)(hK1:1<=K)(hKD:K<=1000000)(hD:D<=20000000)(a:Rat)(ga:List Rat)(p:Z9)(z:Nat)(hla:ga.length=m)(ha:LQ K a)(Q:∀ i,LQ D (ga.getD i 0))(b:Rat)(gb:List Rat)(u:Z9)(B:Nat)(hlb:gb.length=m)(hb:LQ K b)(J:∀ i,LQ D (gb.getD i 0))(w:World)(h:Hp)(g:G w h)(I:Sq p ga h)(S:Sq u gb h)(tb:Tab h):CR 221 #[.agg #[.slice y m x],qY a p ga.length z,qY b u gb.length B] w h (fun v h1=>∃ bk,v=pF (a+b) (sB bk) ((po m).map fun i=>ga.getD i 0+gb.getD i 0).length m/\Sq (sB bk) ((po m).map fun i=>ga.getD i 0+gb.getD i 0) h1):=by
 have e:=((((sS g).aS I).aS S).add (K:=fun C=>Tab C) tb);refine go Tryz.func221 [(0,.agg #[qS y m x]),(1,qY a p ga.length z),(2,qY b u gb.length B)] rfl (aD (lA 3 102 ([qS y m x]) e (fun M w2 h3 e=>lA 4 61 (qZ a p ga.length z) e (fun F w5 h6 e=>lA 5 61 (qZ b u gb.length B) e (fun H w8 h9 e=>lA 6 61 ([qF,uV 0,eS,uV 0,eS,sZ]) e (fun zb _ _ e=>ag ?_))))));have W:=e;refine cR 8 [⟨7,7,.cells (Ky [qF,uV 0,eS,uV 0,eS,sZ]) 61 (0,0)⟩] mixed e (aZ (dB kR (fun _ _=>by kernel_rfl)) ao) (eO 0 9 [(3,0,1)] (.agg #[qS y m x]) e (eV 1 10 (pB F) (eO 2 11 [(2,0,5)] (qv a) e (eV 3 12 (pB H) (eO 4 13 [(1,0,5)] (qv b) e ?_)))));have bl:=LQ.add ha hb;refine aj 5 14 e (fun _ _ e=>mB a b (LQ.mono ha oM) (LQ.mono hb oM) _ _ e.g e.f.1) (fun _ _ e=>eC 6 15 e (fun _ _ e=>jQ y m x hm (a+b) h _ _ e.g e.st.sz) ?_);rintro _ _ _ _ _ e ⟨j,rfl,hNn⟩;replace e:=(e.add (K:=fun C=>Nw h.size C j 29 ((y2 m (0:Rat)).flatMap qc)) hNn);refine eU [] W e 61 [qF,uV 0,eS,uV 0,eS,sZ] (fun _ _ za e=>tP 8 0 0 (qZ (a+b) (sB j) m m) e (fun _ e=>tN (cQ (aD ?_))));obtain ⟨zf,e⟩:=e.takeL (e.f.1).1 (e.f.1).2.2;replace e:=e.aS (I.gw e.st.up.gr.gw);replace e:=e.aS (S.gw e.st.up.gr.gw);replace e:=e.add (K:=fun C=>Tab C) (tb.gw e.st.up.gr.gw);replace e:=e.to [⟨j,29,((y2 m 0)).flatMap qc⟩,⟨za,61,qZ (a+b) (sB j) m m⟩,⟨zb,61,[qF,uV 0,eS,uV 0,eS,sZ]⟩,⟨H,61,qZ b u gb.length B⟩,⟨F,61,qZ a p ga.length z⟩,⟨M,102,[qS y m x]⟩] [];refine lL e [.v (qP za 5),.o (qS (sB j) m m) 1 5 1,.v (nV m),.c] (be ?_);refine bU _ (CG.loop (fun X Γ w_=>∃ (k:Nat)(L:List Rat)(C:Hp),X=m-k/\Γ=[(4,pB F),(5,pB H),(6,pB zb),(7,pB za),(18,nV m),(19,nV k)]/\SS w h w_ C [⟨j,29,(L).flatMap qc⟩,⟨za,61,qZ (a+b) (sB j) m m⟩,⟨zb,61,[qF,uV 0,eS,uV 0,eS,sZ]⟩,⟨H,61,qZ b u gb.length B⟩,⟨F,61,qZ a p ga.length z⟩,⟨M,102,[qS y m x]⟩] [] [fun C=>Tab C,Sq u gb,Sq p ga]/\k<=m/\L.length=m/\L=je (fun i=>ga.getD i 0+gb.getD i 0) m k) _ ⟨0,y2 m 0,zf,rfl,rfl,e.to _ _,JU _,Lk,(oW _ _)⟩ ?_);rintro _ _ _ ⟨k,L,_,bf,rfl,e,hk,Y,Z⟩;refine aD ?_;cases U:(decide ((k:Int)<(m:Int)))
 .
  have zd:=oF U;refine lB 20 U (ag (dv (CG.exit ?_)))
  show CG _ _ _ _ _ _ _ _
  refine ab e [.o (qY (a+b) (sB j) m m) 1 0 6] (lP 2 0 (qZ (a+b) (sB j) m m) e (fun _ e=>lN (kX ?_)));have V:k=m:=by omega
  rw[V,kl] at Z
  subst Z;replace e:=e.to [⟨j,29,(((po m).map fun i=>ga.getD i 0+gb.getD i 0)).flatMap qc⟩,⟨za,61,qZ (a+b) (sB j) m m⟩,⟨zb,61,qZ (a+b) (sB j) m m⟩,⟨H,61,qZ b u gb.length B⟩,⟨F,61,qZ a p ga.length z⟩,⟨M,102,[qS y m x]⟩] [];obtain ⟨_,e,O,bb,bm⟩:=e.pub 0;replace e:=(e.to [⟨za,61,qZ (a+b) (sB j) m m⟩,⟨zb,61,qZ (a+b) (sB j) m m⟩,⟨H,61,qZ b u gb.length B⟩,⟨F,61,qZ a p ga.length z⟩,⟨M,102,[qS y m x]⟩] []).aS (SlO.of_flat (sz:=5) (f:=qc) (d:=0) (b:=j) (o:=0) (l:=((po m).map fun i=>ga.getD i 0+gb.getD i 0)) (fun _=>rfl) O);exact e.ret [(1,0,6)] (qY (a+b) (sB j) m m) (⟨_,by rw[gJ],e.f.1⟩)
 have zd:=oT U;refine lB 20 U (ag (bT (cK (cQ (kZ (ab e aN (lN (cR 14 [] mixed e ao ?_))))))));refine eV 0 22 (qP za 5) (eO 1 23 [(1,5,1)] (qS (sB j) m m) e (eV 2 24 (nV k) (eV 3 25 (qP F 5) (eO 4 26 [(4,5,1)] (qS p ga.length z) e (eV 5 27 (nV k) (eX 6 28 p ga.length z 5 (k:Nat) k ((e.f.r.1).ok oM) (eH 7 29 (qv (ga.getD k 0)) e ((e.f.r.1).el k oM) (eV 8 30 (qP H 5) (eO 9 31 [(3,5,1)] (qS u gb.length B) e (eV 10 32 (nV k) (eX 11 33 u gb.length B 5 (k:Nat) k ((e.f.2.1).ok oM) (eH 12 34 (qv (gb.getD k 0)) e ((e.f.2.1).el k oM) ?_))))))))))));have bq:=LQ.add (Q k) (J k);refine aj 13 35 e (fun _ _ e=>mB (ga.getD k 0) (gb.getD k 0) (LQ.mono (Q k) oM) (LQ.mono (J k) oM) _ _ e.g e.f.1) (fun _ _ e=>ce e (fun _ zg e=>tX 14 36 (sB j) m m 5 (k:Nat) k rfl (tW 15 0 L qc 5 k ((ga.getD k 0)+(gb.getD k 0)) e oM (fun _ e=>?_))));have ze:((L).set k ((ga.getD k 0)+(gb.getD k 0))).length=m:=by rw[JJ];exact Y
 replace e:=e.to [⟨j,29,((L).set k ((ga.getD k 0)+(gb.getD k 0))).flatMap qc⟩,⟨za,61,qZ (a+b) (sB j) m m⟩,⟨zb,61,[qF,uV 0,eS,uV 0,eS,sZ]⟩,⟨H,61,qZ b u gb.length B⟩,⟨F,61,qZ a p ga.length z⟩,⟨M,102,[qS y m x]⟩] [];refine tN (kQ (bM 37 ((k:Nat)+1) (k+1) ?_));refine lL e ae (lD ?_);intro a_ ka;refine ⟨_,_,?_,⟨k+1,(L).set k ((ga.getD k 0)+(gb.getD k 0)),zg,rfl,rfl,e.to _ _,oM,ze,(by rw[Z];exact ko oM)⟩,ka.to _ kR⟩
 omega
theorem Dm (y:Z9)(m x:Nat)(hm:m<=1000)(K D:Nat)(hK1:1<=K)(hKD:K<=1000000)(hD:D<=20000000)(a:Rat)(ga:List Rat)(p:Z9)(z:Nat)(hla:ga.length=m)(V:LQ K a)(Q:∀ i,LQ D (ga.getD i 0))(b:Rat)(gb:List Rat)(u:Z9)(B:Nat)(hlb:gb.length=m)(U:LQ K b)(J:∀ i,LQ D (gb.getD i 0))(w:World)(h:Hp)(g:G w h)(I:Sq p ga h)(S:Sq u gb h)(tb:Tab h):CR 225 #[.agg #[.slice y m x],qY a p ga.length z,qY b u gb.length B] w h (fun v h1=>∃ bk,v=pF (a*b) (sB bk) ((po m).map fun i=>ga.getD i 0*b+a*gb.getD i 0).length m/\Sq (sB bk) ((po m).map fun i=>ga.getD i 0*b+a*gb.getD i 0) h1):=by
 have e:=((((sS g).aS I).aS S).add (K:=fun C=>Tab C) tb);refine go Tryz.func225 [(0,.agg #[qS y m x]),(1,qY a p ga.length z),(2,qY b u gb.length B)] rfl (aD (lA 3 102 ([qS y m x]) e (fun M w2 h3 e=>lA 4 61 (qZ a p ga.length z) e (fun F w5 h6 e=>lA 5 61 (qZ b u gb.length B) e (fun H w8 h9 e=>lA 6 61 ([qF,uV 0,eS,uV 0,eS,sZ]) e (fun zb _ _ e=>ag ?_))))));have Y:=e;refine cR 8 [⟨7,7,.cells (Ky [qF,uV 0,eS,uV 0,eS,sZ]) 61 (0,0)⟩] mixed e (aZ (dB kR (fun _ _=>by kernel_rfl)) ao) (eO 0 9 [(3,0,1)] (.agg #[qS y m x]) e (eV 1 10 (pB F) (eO 2 11 [(2,0,5)] (qv a) e (eV 3 12 (pB H) (eO 4 13 [(1,0,5)] (qv b) e ?_)))));have bm:=LQ.mul V U;refine aj 5 14 e (fun _ _ e=>iL a b (LQ.mono V oM) (LQ.mono U oM) _ _ e.g e.f.1) (fun _ _ e=>eC 6 15 e (fun _ _ e=>jQ y m x hm (a*b) h _ _ e.g e.st.sz) ?_);rintro _ _ _ _ _ e ⟨j,rfl,hNn⟩;replace e:=(e.add (K:=fun C=>Nw h.size C j 29 ((y2 m (0:Rat)).flatMap qc)) hNn);refine eU [] Y e 61 [qF,uV 0,eS,uV 0,eS,sZ] (fun _ _ za e=>tP 8 0 0 (qZ (a*b) (sB j) m m) e (fun _ e=>tN (cQ (aD ?_))));obtain ⟨zi,e⟩:=e.takeL (e.f.1).1 (e.f.1).2.2;replace e:=e.aS (I.gw e.st.up.gr.gw);replace e:=e.aS (S.gw e.st.up.gr.gw);replace e:=e.add (K:=fun C=>Tab C) (tb.gw e.st.up.gr.gw);replace e:=e.to [⟨j,29,((y2 m 0)).flatMap qc⟩,⟨za,61,qZ (a*b) (sB j) m m⟩,⟨zb,61,[qF,uV 0,eS,uV 0,eS,sZ]⟩,⟨H,61,qZ b u gb.length B⟩,⟨F,61,qZ a p ga.length z⟩,⟨M,102,[qS y m x]⟩] [];refine lL e [.v (qP za 5),.o (qS (sB j) m m) 1 5 1,.v (nV m),.c] (be ?_);refine bU _ (CG.loop (fun Z Γ w_=>∃ (k:Nat)(L:List Rat)(C:Hp),Z=m-k/\Γ=[(4,pB F),(5,pB H),(6,pB zb),(7,pB za),(18,nV m),(19,nV k)]/\SS w h w_ C [⟨j,29,(L).flatMap qc⟩,⟨za,61,qZ (a*b) (sB j) m m⟩,⟨zb,61,[qF,uV 0,eS,uV 0,eS,sZ]⟩,⟨H,61,qZ b u gb.length B⟩,⟨F,61,qZ a p ga.length z⟩,⟨M,102,[qS y m x]⟩] [] [fun C=>Tab C,Sq u gb,Sq p ga]/\k<=m/\L.length=m/\L=je (fun i=>ga.getD i 0*b+a*gb.getD i 0) m k) _ ⟨0,y2 m 0,zi,rfl,rfl,e.to _ _,JU _,Lk,(oW _ _)⟩ ?_);rintro _ _ _ ⟨k,L,_,bl,rfl,e,hk,hL1,hL⟩;refine aD ?_;cases W:(decide ((k:Int)<(m:Int)))
 .
  have zf:=oF W;refine lB 20 W (ag (dv (CG.exit ?_)))
  show CG _ _ _ _ _ _ _ _
  refine ab e [.o (qY (a*b) (sB j) m m) 1 0 6] (lP 2 0 (qZ (a*b) (sB j) m m) e (fun _ e=>lN (kX ?_)));have X:k=m:=by omega
  rw[X,kl] at hL
  subst hL;replace e:=e.to [⟨j,29,(((po m).map fun i=>ga.getD i 0*b+a*gb.getD i 0)).flatMap qc⟩,⟨za,61,qZ (a*b) (sB j) m m⟩,⟨zb,61,qZ (a*b) (sB j) m m⟩,⟨H,61,qZ b u gb.length B⟩,⟨F,61,qZ a p ga.length z⟩,⟨M,102,[qS y m x]⟩] [];obtain ⟨_,e,O,bf,bq⟩:=e.pub 0;replace e:=(e.to [⟨za,61,qZ (a*b) (sB j) m m⟩,⟨zb,61,qZ (a*b) (sB j) m m⟩,⟨H,61,qZ b u gb.length B⟩,⟨F,61,qZ a p ga.length z⟩,⟨M,102,[qS y m x]⟩] []).aS (SlO.of_flat (sz:=5) (f:=qc) (d:=0) (b:=j) (o:=0) (l:=((po m).map fun i=>ga.getD i 0*b+a*gb.getD i 0)) (fun _=>rfl) O);exact e.ret [(1,0,6)] (qY (a*b) (sB j) m m) (⟨_,by rw[gJ],e.f.1⟩)
 have zf:=oT W;refine lB 20 W (ag (bT (cK (cQ (kZ (ab e aN (lN (cR 20 [] mixed e ao ?_))))))));refine eV 0 22 (qP za 5) (eO 1 23 [(1,5,1)] (qS (sB j) m m) e (eV 2 24 (nV k) (eV 3 25 (qP F 5) (eO 4 26 [(4,5,1)] (qS p ga.length z) e (eV 5 27 (nV k) (eX 6 28 p ga.length z 5 (k:Nat) k ((e.f.r.1).ok oM) (eH 7 29 (qv (ga.getD k 0)) e ((e.f.r.1).el k oM) (eV 8 30 (pB H) (eO 9 31 [(3,0,5)] (qv b) e (eV 11 33 (pB F) (eO 12 34 [(4,0,5)] (qv a) e (eV 13 35 (qP H 5) (eO 14 36 [(3,5,1)] (qS u gb.length B) e (eV 15 37 (nV k) (eX 16 38 u gb.length B 5 (k:Nat) k ((e.f.2.1).ok oM) (eH 17 39 (qv (gb.getD k 0)) e ((e.f.2.1).el k oM) ?_))))))))))))))));have zd:=LQ.mul (Q k) U;refine aj 10 32 e (fun _ _ e=>iL (ga.getD k 0) b (LQ.mono (Q k) oM) (LQ.mono U oM) _ _ e.g e.f.1) (fun _ _ e=>?_);have ze:=LQ.mul V (J k);refine aj 18 40 e (fun _ _ e=>iL a (gb.getD k 0) (LQ.mono V oM) (LQ.mono (J k) oM) _ _ e.g e.f.1) (fun _ _ e=>?_);have bb:=LQ.add zd ze;refine aj 19 41 e (fun _ _ e=>mB ((ga.getD k 0)*b) (a*(gb.getD k 0)) (LQ.mono zd oM) (LQ.mono ze oM) _ _ e.g e.f.1) (fun _ _ e=>ce e (fun _ zj e=>tX 20 42 (sB j) m m 5 (k:Nat) k rfl (tW 21 0 L qc 5 k (((ga.getD k 0)*b)+(a*(gb.getD k 0))) e oM (fun _ e=>?_))));have zg:((L).set k (((ga.getD k 0)*b)+(a*(gb.getD k 0)))).length=m:=by rw[JJ];exact hL1
 replace e:=e.to [⟨j,29,((L).set k (((ga.getD k 0)*b)+(a*(gb.getD k 0)))).flatMap qc⟩,⟨za,61,qZ (a*b) (sB j) m m⟩,⟨zb,61,[qF,uV 0,eS,uV 0,eS,sZ]⟩,⟨H,61,qZ b u gb.length B⟩,⟨F,61,qZ a p ga.length z⟩,⟨M,102,[qS y m x]⟩] [];refine tN (kQ (bM 43 ((k:Nat)+1) (k+1) ?_));refine lL e ae (lD ?_);intro a_ ka;refine ⟨_,_,?_,⟨k+1,(L).set k (((ga.getD k 0)*b)+(a*(gb.getD k 0))),zj,rfl,rfl,e.to _ _,oM,zg,(by rw[hL];exact ko oM)⟩,ka.to _ kR⟩
 omega
theorem AM (y:Z9)(m x:Nat)(hm:m<=1000)(K D:Nat)(hK1:1<=K)(hKD:K<=1000000)(hD:D<=20000000)(a:Rat)(ga:List Rat)(u:Z9)(z:Nat)(hla:ga.length=m)(ha:LQ K a)(O:∀ i,LQ D (ga.getD i 0))(j:Rat)(E:Nat)(hE:E<=10000000)(B:LQ E j)(w:World)(h:Hp)(g:G w h)(I:Sq u ga h)(tb:Tab h):CR 227 #[.agg #[.slice y m x],qY a u ga.length z,qv j] w h (fun v h1=>∃ bk,v=pF (a*j) (sB bk) ((po m).map fun i=>ga.getD i 0*j).length m/\Sq (sB bk) ((po m).map fun i=>ga.getD i 0*j) h1):=by
 have e:=(((sS g).aS I).add (K:=fun C=>Tab C) tb);refine go Tryz.func227 [(0,.agg #[qS y m x]),(1,qY a u ga.length z),(2,qv j)] rfl (aD (lA 3 102 ([qS y m x]) e (fun J w2 h3 e=>lA 4 61 (qZ a u ga.length z) e (fun F w5 h6 e=>lA 5 29 (qc j) e (fun H w8 h9 e=>lA 6 61 ([qF,uV 0,eS,uV 0,eS,sZ]) e (fun zb _ _ e=>ag ?_))))));have U:=e;refine cR 7 [⟨6,7,.cells (Ky [qF,uV 0,eS,uV 0,eS,sZ]) 61 (0,0)⟩] mixed e (aZ (dB kR (fun _ _=>by kernel_rfl)) ao) (eO 0 9 [(3,0,1)] (.agg #[qS y m x]) e (eV 1 10 (pB F) (eO 2 11 [(2,0,5)] (qv a) e (eO 3 12 [(1,0,5)] (qv j) e ?_))));have bf:=LQ.mul ha B;refine aj 4 13 e (fun _ _ e=>iL a j (LQ.mono ha oM) (LQ.mono B oM) _ _ e.g e.f.1) (fun _ _ e=>eC 5 14 e (fun _ _ e=>jQ y m x hm (a*j) h _ _ e.g e.st.sz) ?_);rintro _ _ _ _ _ e ⟨p,rfl,Y⟩;replace e:=(e.add (K:=fun C=>Nw h.size C p 29 ((y2 m (0:Rat)).flatMap qc)) Y);refine eU [] U e 61 [qF,uV 0,eS,uV 0,eS,sZ] (fun _ _ za e=>tP 7 0 0 (qZ (a*j) (sB p) m m) e (fun _ e=>tN (cQ (aD ?_))));obtain ⟨zf,e⟩:=e.takeL (e.f.1).1 (e.f.1).2.2;replace e:=e.aS (I.gw e.st.up.gr.gw);replace e:=e.add (K:=fun C=>Tab C) (tb.gw e.st.up.gr.gw);replace e:=e.to [⟨p,29,((y2 m 0)).flatMap qc⟩,⟨za,61,qZ (a*j) (sB p) m m⟩,⟨zb,61,[qF,uV 0,eS,uV 0,eS,sZ]⟩,⟨H,29,qc j⟩,⟨F,61,qZ a u ga.length z⟩,⟨J,102,[qS y m x]⟩] [];refine lL e [.v (qP za 5),.o (qS (sB p) m m) 1 5 1,.v (nV m),.c] (be ?_);refine bU _ (CG.loop (fun V Γ w_=>∃ (k:Nat)(L:List Rat)(C:Hp),V=m-k/\Γ=[(4,pB F),(5,pB H),(6,pB zb),(7,pB za),(17,nV m),(18,nV k)]/\SS w h w_ C [⟨p,29,(L).flatMap qc⟩,⟨za,61,qZ (a*j) (sB p) m m⟩,⟨zb,61,[qF,uV 0,eS,uV 0,eS,sZ]⟩,⟨H,29,qc j⟩,⟨F,61,qZ a u ga.length z⟩,⟨J,102,[qS y m x]⟩] [] [fun C=>Tab C,Sq u ga]/\k<=m/\L.length=m/\L=je (fun i=>ga.getD i 0*j) m k) _ ⟨0,y2 m 0,zf,rfl,rfl,e.to _ _,JU _,Lk,(oW _ _)⟩ ?_);rintro _ _ _ ⟨k,L,_,bb,rfl,e,hk,W,X⟩;refine aD ?_;cases Q:(decide ((k:Int)<(m:Int)))
 .
  have zd:=oF Q;refine lB 19 Q (ag (dv (CG.exit ?_)))
  show CG _ _ _ _ _ _ _ _
  refine ab e [.o (qY (a*j) (sB p) m m) 1 0 6] (lP 2 0 (qZ (a*j) (sB p) m m) e (fun _ e=>lN (kX ?_)));have S:k=m:=by omega
  rw[S,kl] at X
  subst X;replace e:=e.to [⟨p,29,(((po m).map fun i=>ga.getD i 0*j)).flatMap qc⟩,⟨za,61,qZ (a*j) (sB p) m m⟩,⟨zb,61,qZ (a*j) (sB p) m m⟩,⟨H,29,qc j⟩,⟨F,61,qZ a u ga.length z⟩,⟨J,102,[qS y m x]⟩] [];obtain ⟨_,e,M,Z,bl⟩:=e.pub 0;replace e:=(e.to [⟨za,61,qZ (a*j) (sB p) m m⟩,⟨zb,61,qZ (a*j) (sB p) m m⟩,⟨H,29,qc j⟩,⟨F,61,qZ a u ga.length z⟩,⟨J,102,[qS y m x]⟩] []).aS (SlO.of_flat (sz:=5) (f:=qc) (d:=0) (b:=p) (o:=0) (l:=((po m).map fun i=>ga.getD i 0*j)) (fun _=>rfl) M);exact e.ret [(1,0,6)] (qY (a*j) (sB p) m m) (⟨_,by rw[gJ],e.f.1⟩)
 have zd:=oT Q;refine lB 19 Q (ag (bT (cK (cQ (kZ (ab e aN (lN (cR 10 [] mixed e ao ?_))))))));refine eV 0 21 (qP za 5) (eO 1 22 [(1,5,1)] (qS (sB p) m m) e (eV 2 23 (nV k) (eV 3 24 (qP F 5) (eO 4 25 [(4,5,1)] (qS u ga.length z) e (eV 5 26 (nV k) (eX 6 27 u ga.length z 5 (k:Nat) k ((e.f.2.1).ok oM) (eH 7 28 (qv (ga.getD k 0)) e ((e.f.2.1).el k oM) (eO 8 29 [(3,0,5)] (qv j) e ?_))))))));have bm:=LQ.mul (O k) B;refine aj 9 30 e (fun _ _ e=>iL (ga.getD k 0) j (LQ.mono (O k) oM) (LQ.mono B oM) _ _ e.g e.f.1) (fun _ _ e=>ce e (fun _ zg e=>tX 10 31 (sB p) m m 5 (k:Nat) k rfl (tW 11 0 L qc 5 k ((ga.getD k 0)*j) e oM (fun _ e=>?_))));have ze:((L).set k ((ga.getD k 0)*j)).length=m:=by rw[JJ];exact W
 replace e:=e.to [⟨p,29,((L).set k ((ga.getD k 0)*j)).flatMap qc⟩,⟨za,61,qZ (a*j) (sB p) m m⟩,⟨zb,61,[qF,uV 0,eS,uV 0,eS,sZ]⟩,⟨H,29,qc j⟩,⟨F,61,qZ a u ga.length z⟩,⟨J,102,[qS y m x]⟩] [];refine tN (kQ (bM 32 ((k:Nat)+1) (k+1) ?_));refine lL e ae (lD ?_);intro a_ ka;refine ⟨_,_,?_,⟨k+1,(L).set k ((ga.getD k 0)*j),zg,rfl,rfl,e.to _ _,oM,ze,(by rw[X];exact ko oM)⟩,ka.to _ kR⟩
 omega
theorem FL (e:Z9)(m j:Nat)(J:m<=1000)(fs:List Rat)(H:fs.length=m)(i:Nat)(I:i<m)(w:World)(h:Hp)(g:G w h)(C:Sq e fs h):CR 223 #[.agg #[.slice e m j],nV i] w h (fun v h1=>∃ bk,v=pF (fs.getD i 0) (sB bk) (bh m i).length m/\Sq (sB bk) (bh m i) h1):=by
 have a:=((sS g).aS C);have D:(y2 m (0:Rat)).length=m:=Lk;refine go Tryz.func223 [(0,.agg #[qS e m j]),(1,nV i)] rfl (aD (lA 2 102 ([qS e m j]) a (fun k w2 U a=>lA 4 61 ([qF,uV 0,eS,uV 0,eS,sZ]) a (fun u O S a=>ag ?_))));have x:=a;refine cR 8 [⟨7,5,.cells (Ky [qF,uV 0,eS,uV 0,eS,sZ]) 61 (0,0)⟩] mixed a (aZ (dB kR (fun _ _=>by kernel_rfl)) ao) (eO 0 6 [(1,0,1)] (.agg #[qS e m j]) a (eV 1 7 (pB k) (eO 2 8 [(1,0,1)] (qS e m j) a (eV 3 9 (nV i) (eX 4 10 e m j 5 (i:Nat) i ((a.f.1).ok oM) (eH 5 11 (qv (fs.getD i 0)) a ((a.f.1).el i oM) (eC 6 12 a (fun _ _ a=>jQ e m j J (fs.getD i 0) h _ _ a.g a.st.sz) ?_)))))));rintro _ _ _ V M a ⟨c,rfl,y⟩;replace a:=(a.add (K:=fun L=>Nw h.size L c 29 ((y2 m (0:Rat)).flatMap qc)) y);refine eU [] x a 61 [qF,uV 0,eS,uV 0,eS,sZ] (fun Q _ za a=>tP 8 0 0 (qZ (fs.getD i 0) (sB c) m m) a (fun _ a=>tN (cQ ?_)));obtain ⟨_,a⟩:=a.takeL (a.f.1).1 (a.f.1).2.2;replace a:=a.aS (C.gw a.st.up.gr.gw);replace a:=a.to [⟨c,29,((y2 m 0)).flatMap qc⟩,⟨za,61,qZ (fs.getD i 0) (sB c) m m⟩,⟨u,61,[qF,uV 0,eS,uV 0,eS,sZ]⟩,⟨k,102,[qS e m j]⟩] [];refine cR 4 [] mixed a ao (eV 0 13 (qP za 5) (eO 1 14 [(1,5,1)] (qS (sB c) m m) a (eV 2 15 (nV i) (aj 3 16 a (fun _ _ a=>oA (1) kD kD _ _ a.g) (fun _ _ a=>ce a (fun _ _ a=>tX 4 17 (sB c) m m 5 (i:Nat) i rfl (tW 5 0 (y2 m 0) qc 5 i ((1:Int):Rat) a oM (fun _ a=>?_))))))));have F:(((y2 m 0)).set i ((1:Int):Rat)).length=m:=by rw[JJ];exact Lk
 replace a:=a.to [⟨c,29,(((y2 m 0)).set i ((1:Int):Rat)).flatMap qc⟩,⟨za,61,qZ (fs.getD i 0) (sB c) m m⟩,⟨u,61,[qF,uV 0,eS,uV 0,eS,sZ]⟩,⟨k,102,[qS e m j]⟩] [];refine uy (lL a [.o (qY (fs.getD i 0) (sB c) m m) 1 0 6] (lP 2 0 (qZ (fs.getD i 0) (sB c) m m) a (fun _ a=>lN (kX ?_))));replace a:=a.to [⟨c,29,(((y2 m 0)).set i ((1:Int):Rat)).flatMap qc⟩,⟨za,61,qZ (fs.getD i 0) (sB c) m m⟩,⟨u,61,qZ (fs.getD i 0) (sB c) m m⟩,⟨k,102,[qS e m j]⟩] [];obtain ⟨_,a,p,B,z⟩:=a.pub 0;replace a:=(a.to [⟨za,61,qZ (fs.getD i 0) (sB c) m m⟩,⟨u,61,qZ (fs.getD i 0) (sB c) m m⟩,⟨k,102,[qS e m j]⟩] []).aS (SlO.of_flat (sz:=5) (f:=qc) (d:=0) (b:=c) (o:=0) (l:=((y2 m 0)).set i ((1:Int):Rat)) (fun _=>rfl) p);exact a.ret [(1,0,6)] (qY (fs.getD i 0) (sB c) m m) (⟨_,by rw[vK],a.f.1⟩)
theorem HZ (d:Z9)(m c:Nat)(y:m<=1000)(a:Rat)(e:Z9)(i f:Nat)(w:World)(h:Hp)(g:G w h):CV 222 #[.agg #[.slice d m c],qY a e i f] w h (qv a):=by
 have b:=sS g;exact go Tryz.func222 [(0,.agg #[qS d m c]),(1,qY a e i f)] rfl (aD (lA 2 102 ([qS d m c]) b (fun p w2 z b=>lA 3 61 (qZ a e i f) b (fun j l u b=>lA 4 29 ca b (fun x B k b=>a7 (lL b [.v (pB j),.o (qX a) 1 0 5] (lP 0 0 (qC a) b (fun _ b=>af b [(0,0,5)] (qX a) rfl))))))))
theorem oR (j:Z9)(m e:Nat)(L:m<=1000)(K D:Nat)(l:1<=K)(p:K<=1000000)(F:D<=20000000)(a:Rat)(ga:List Rat)(d:Z9)(k:Nat)(u:ga.length=m)(B:LQ K a)(C:∀ i,LQ D (ga.getD i 0))(hz:a.num≠0)(w:World)(h:Hp)(g:G w h)(x:Sq d ga h)(O:Tab h):CR 224 #[.agg #[.slice j m e],qY a d ga.length k] w h (fun v h1=>∃ bk,v=pF ((((1:Int):Rat)/a)) (sB bk) ((po m).map fun i=>ga.getD i 0*(-((((1:Int):Rat)/a)*(((1:Int):Rat)/a)))).length m/\Sq (sB bk) ((po m).map fun i=>ga.getD i 0*(-((((1:Int):Rat)/a)*(((1:Int):Rat)/a)))) h1):=by
 have b:=(((sS g).aS x).add (K:=fun Q=>Tab Q) O);refine go Tryz.func224 [(0,.agg #[qS j m e]),(1,qY a d ga.length k)] rfl (aD (lA 2 102 ([qS j m e]) b (fun V w2 Z b=>lA 3 61 (qZ a d ga.length k) b (fun H U X b=>lA 4 61 ([qF,uV 0,eS,uV 0,eS,sZ]) b (fun Y W S b=>ag ?_)))));have c:=b;refine cR 8 [⟨7,5,.cells (Ky [qF,uV 0,eS,uV 0,eS]) 29 (0,0)⟩] mixed b (aZ (dB kR (fun _ _=>by kernel_rfl)) ao) (eV 1 10 (pB H) (eO 2 11 [(1,0,5)] (qv a) b (aj 0 9 b (fun _ _ b=>oA (1) kD kD _ _ b.g) (fun _ _ b=>?_))));have za:=LQ.div (LQ.lit (z:=1) kD) B;refine aj 3 12 b (fun _ _ b=>nz ((1:Int):Rat) a (LQ.mono (LQ.lit (z:=1) kD) oM) (LQ.mono B oM) hz _ _ b.g b.f.1) (fun _ _ b=>eV 4 8 (.tuple #[qv (((1:Int):Rat)/a),qT]) (eV 5 13 (qv (((1:Int):Rat)/a)) (eV 6 14 qT (eU [] c b 29 [qF,uV 0,eS,uV 0,eS] (fun _ _ I b=>tP 8 0 0 (qc (((1:Int):Rat)/a)) b (fun _ b=>tV 9 6 qT (tN (cQ ?_))))))));have c:=b;refine cR 8 [⟨7,7,.cells (Ky [qF,uV 0,eS,uV 0,eS,sZ]) 61 (0,0)⟩] mixed b (aZ (dB kR (fun _ _=>by kernel_rfl)) ao) (eO 0 15 [(3,0,1)] (.agg #[qS j m e]) b (eO 1 16 [(2,0,6)] (qY a d ga.length k) b (eO 2 17 [(0,0,5)] (qv (((1:Int):Rat)/a)) b (eO 3 18 [(0,0,5)] (qv (((1:Int):Rat)/a)) b ?_))));have zb:=LQ.mul za za;refine aj 4 19 b (fun _ _ b=>iL (((1:Int):Rat)/a) (((1:Int):Rat)/a) (LQ.mono za oM) (LQ.mono za oM) _ _ b.g b.f.1) (fun _ _ b=>?_);have J:LQ ((1+K)+(1+K)) (-((((1:Int):Rat)/a)*(((1:Int):Rat)/a))):=LQ.neg zb;refine aj 5 20 b (fun _ _ b=>uZ ((((1:Int):Rat)/a)*(((1:Int):Rat)/a)) (LQ.mono zb oM) _ _ b.g) (fun _ _ b=>eC 6 21 b (fun _ _ b=>AM j m e L K D l p F a ga d k u B C (-((((1:Int):Rat)/a)*(((1:Int):Rat)/a))) (2*K+2) oM (LQ.mono J oM) _ _ b.g b.f.2.1 b.f.1) ?_);rintro _ _ _ _ _ b ⟨bz,rfl,y⟩;replace b:=b.aS y;exact eU [] c b 61 [qF,uV 0,eS,uV 0,eS,sZ] (fun _ _ M b=>tP 8 0 0 (qZ (a*(-((((1:Int):Rat)/a)*(((1:Int):Rat)/a)))) (sB bz) (((po m).map fun i=>ga.getD i 0*(-((((1:Int):Rat)/a)*(((1:Int):Rat)/a)))).length) m) b (fun _ b=>uy (lL b [.o (qv (((1:Int):Rat)/a)) 1 0 5,.v (pB M)] (lP 0 0 (qc (((1:Int):Rat)/a)) b (fun _ b=>a7 (lL b [.o (qY (((1:Int):Rat)/a) (sB bz) (((po m).map fun i=>ga.getD i 0*(-((((1:Int):Rat)/a)*(((1:Int):Rat)/a)))).length) m) 0 0 6] (lP 2 0 (qZ (((1:Int):Rat)/a) (sB bz) (((po m).map fun i=>ga.getD i 0*(-((((1:Int):Rat)/a)*(((1:Int):Rat)/a)))).length) m) b (fun _ b=>af b [(2,0,6)] (qY (((1:Int):Rat)/a) (sB bz) (((po m).map fun i=>ga.getD i 0*(-((((1:Int):Rat)/a)*(((1:Int):Rat)/a)))).length) m) (⟨_,rfl,b.f.1⟩)))))))))
theorem kW {f:Nat->Rat}{m i:Nat}(h:i<m):((po m).map fun i=>f i).getD i 0=f i:=by simp[h]
theorem Fm {f:Nat->Rat}{m i:Nat}(h:m<=i):((po m).map fun i=>f i).getD i 0=0:=bG (by simp;exact h)
theorem mn {f:Nat->Rat}{m K:Nat}(h:∀ i,LQ K (f i))(a:1<=K)(j:Nat):LQ K (((po m).map fun i=>f i).getD j 0):=Fr a h j
theorem gd (i:Nat):([]:List Rat).getD i 0=0:=by simp
theorem iC (m i:Nat):(y2 m (0:Rat)).getD i 0=0:=eD i
section
variable {m:Nat}{op n:Int}{a b:Rat}{ga gb:List Rat}{f:Nat->Rat}
theorem jn (h:∀ i,i<m->f i=j9 op n a b*ga.getD i 0+kL op a b*gb.getD i 0):((po m).map fun i=>f i)=kb m op n a b ga gb:=by
 unfold kb
 exact Lj fun i hi=>h i (pR.1 hi)
theorem ia {G:List Rat}(c:G.length=m)(h:∀ i,i<m->G.getD i 0=j9 op n a b*ga.getD i 0+kL op a b*gb.getD i 0):G=kb m op n a b ga gb:=by
 refine fp (c.trans duG_len.symm) fun i=>?_
 by_cases hi:i<m
 ·rw[h i hi];unfold kb;rw[kW hi]
 ·rw[bG oM,bG (by rw[duG_len];omega)]
theorem eu (h1:op=6->b≠0)(f:op=8->n<0->a≠0)(h:(op=9\/op=10)->a≠0)(e:(op=12\/op=13)->a≠b):cG op n a b=0:=by
 unfold cG
 rw[if_pos ⟨h1,f⟩,if_neg];rintro (⟨c,d⟩|⟨c,d⟩)
 ·exact h c d
 ·exact e c d
theorem DZ (h:(op=6/\b=0)\/(op=8/\n<0/\a=0)):cG op n a b=6:=if_neg (fun k=>by
 rcases h with ⟨h1,h2⟩|⟨h1,h2,h3⟩
 ·exact k.1 h1 h2
 ·exact k.2 h1 h2 h3)
theorem DB (h:(op=9\/op=10)/\a=0\/(op=12\/op=13)/\a=b):cG op n a b=7:=by
 unfold cG
 rw[if_pos ⟨fun e=>by omega,fun e=>by omega⟩,if_pos (show jh op a b from h)]
end
section
variable {m:Nat}{n:Int}{a:Rat}{ga:List Rat}
theorem I0:a*((-1:Int):Rat)=jX 7 n 0 a 0/\((po m).map fun i=>ga.getD i 0*((-1:Int):Rat))=kb m 7 n a 0 ga []:=by
 refine ⟨?_,jn fun i _=>?_⟩
 ·show a*((-1:Int):Rat) = -a
  rw[DT];grind
 ·rw[gd]
  show ga.getD i 0*((-1:Int):Rat) = -((1:Int):Rat)*ga.getD i 0+0*0
  rw[DT,i1];grind
theorem IH {a:Rat}(h:0<a.num.sign):0<a:=CS.1 h
theorem H7 {a:Rat}(h:a.num.sign<0):a<0:=by
 have:a.num<0:=Ll.1 (by have:=Lm a.num;omega);rw[<-Ln,<-Lo];omega
theorem EM {a:Rat}(h:a.num.sign=0):a=0:=KY.1 (Int.sign_eq_zero_iff_zero.1 h)
theorem kO {a:Rat}(h:a.num.sign≠0):a≠0:=fun e=>h (by rw[e];rfl)
theorem xg {a:Rat}(h:a≠0):a.num≠0:=fun e=>h (KY.1 e)
theorem FM {a:Rat}(h:0<a.num.sign):a.num.sign=1:=by have:=Lm a.num;omega
theorem p9 {a:Rat}(h:a.num.sign<0):a.num.sign = -1:=by have:=Lm a.num;omega
theorem Iw {op:Int}(c:op=9\/op=10)(b:ga.length=m)(h:0<a.num.sign):a=jX op n 0 a 0/\ga=kb m op n a 0 ga []:=by
 have p:=IH h
 rcases c with rfl|rfl
 ·refine ⟨?_,ia b fun i _=>?_⟩
  ·show a=bQ a
   unfold bQ;rw[if_neg (by have:=FM h;have:=Int.sign_eq_one_iff_pos.1 this;omega)]
  ·rw[gd]
   show ga.getD i 0=((a.num.sign:Int):Rat)*ga.getD i 0+0*0
   rw[FM h,i1];grind
 ·refine ⟨?_,ia b fun i _=>?_⟩
  ·show a=maxR a 0
   unfold maxR;split
   ·grind
   ·rfl
  ·rw[gd]
   show ga.getD i 0=((max a.num.sign 0:Int):Rat)*ga.getD i 0+0*0
   rw[FM h,show max (1:Int) 0=1 from rfl,i1];grind
theorem I2 (h:a.num.sign<0):a*((-1:Int):Rat)=jX 9 n 0 a 0/\((po m).map fun i=>ga.getD i 0*((-1:Int):Rat))=kb m 9 n a 0 ga []:=by
 refine ⟨?_,jn fun i _=>?_⟩
 ·show _=bQ a
  unfold bQ;rw[if_pos (by have:=Ll.1 (p9 h);omega),DT];grind
 ·rw[gd]
  show ga.getD i 0*((-1:Int):Rat)=((a.num.sign:Int):Rat)*ga.getD i 0+0*0
  rw[p9 h,DT];grind
theorem Iv (h:a.num.sign<0):(0:Rat)=jX 10 n 0 a 0/\y2 m (0:Rat)=kb m 10 n a 0 ga []:=by
 have p:=H7 h;refine ⟨?_,ia Lk fun i _=>?_⟩
 ·show (0:Rat)=maxR a 0
  unfold maxR;split
  ·rfl
  ·grind
 ·rw[gd,iC]
  show (0:Rat)=((max a.num.sign 0:Int):Rat)*ga.getD i 0+0*0
  rw[p9 h,show max (-1:Int) 0=0 from rfl,i0];grind
theorem Cg {x:Rat}{a b:List Rat}{k:Nat}(d:a.length=m)(c:∀ i,b.getD i 0=((k:Int):Rat)*bV x (k-1)*a.getD i 0)(i:Nat) :
  ((po m).map fun i=>b.getD i 0*x+bV x k*a.getD i 0).getD i 0=(((k+1:Nat):Int):Rat)*bV x (k+1-1)*a.getD i 0:=by
 by_cases hi:i<m
 ·rw[kW hi,c i]
  have e:(((k+1:Nat):Int):Rat)=((k:Int):Rat)+1:=by push_cast;rfl
  have e2:((k:Int):Rat)*bV x (k-1)*x=((k:Int):Rat)*bV x k:=by
   cases k with
   | zero=>show ((0:Int):Rat)*_*_=((0:Int):Rat)*_;rw[i0];grind
   | succ k=>show _*bV _ k*_=_*(bV _ k*_);grind
  rw[e]
  show _=(((k:Int):Rat)+1)*bV x k*a.getD i 0
  grind
 ·rw[Fm oM,bG (show a.length<=i by omega)];grind
theorem If (d:0<=n){b:List Rat}{k:Nat}(hk:k=n.natAbs)(f:b.length=m)(c:∀ i,b.getD i 0=((k:Int):Rat)*bV a (k-1)*ga.getD i 0):bV a k=jX 8 n 0 a 0/\b=kb m 8 n a 0 ga []:=by
 refine ⟨?_,ia f fun i _=>?_⟩
 ·show _=dX a n
  unfold dX;rw[if_pos d,hk]
 ·rw[gd,c i]
  show _=(if n=0 then (0:Rat) else dX a (n-1)*((n:Int):Rat))*ga.getD i 0+0*0
  by_cases h0:n=0
  ·subst h0;subst hk;rw[if_pos rfl];show ((0:Int):Rat)*_*_=_;rw[i0];grind
  ·rw[if_neg h0]
   have e:dX a (n-1)=bV a (k-1):=by unfold dX;rw[if_pos oM,show (n-1).natAbs=k-1 by omega]
   rw[e,show ((k:Nat):Int)=n by omega];grind
theorem xo {a:Rat}(h:a≠0):∀ k,bV (((1:Int):Rat)/a) k=((1:Int):Rat)/bV a k
  | 0=>by show ((1:Int):Rat)=((1:Int):Rat)/((1:Int):Rat);rw[i1];grind
  | k+1=>by
    show bV (((1:Int):Rat)/a) k*(((1:Int):Rat)/a)=((1:Int):Rat)/(bV a k*a)
    have:=k7 h k;rw[xo h k,i1];grind
theorem Ie (o:n<0)(b:a≠0){d c:List Rat}{k:Nat}(hk:k=n.natAbs)(h:c.length=m)(l:d=(po m).map fun i=>ga.getD i 0*(-((((1:Int):Rat)/a)*(((1:Int):Rat)/a))))(f:∀ i,c.getD i 0=((k:Int):Rat)*bV (((1:Int):Rat)/a) (k-1)*d.getD i 0):bV (((1:Int):Rat)/a) k=jX 8 n 0 a 0/\c=kb m 8 n a 0 ga []:=by
 obtain ⟨j,rfl⟩:∃ j,k=j+1:=⟨k-1,by omega⟩;have p:=k7 b j;refine ⟨?_,ia h fun i hi=>?_⟩
 ·show _=dX a n
  unfold dX;rw[if_neg oM,xo b,hk]
 ·rw[gd,f i,l,kW hi]
  show _=(if n=0 then (0:Rat) else dX a (n-1)*((n:Int):Rat))*ga.getD i 0+0*0
  rw[if_neg oM]
  have e:dX a (n-1)=((1:Int):Rat)/(bV a j*a*a):=by
   unfold dX;rw[if_neg oM,show (n-1).natAbs=j+2 by omega];rfl
  have e2:((n:Int):Rat) = -(((j+1:Nat):Int):Rat):=by rw[show n = -((j+1:Nat):Int) by omega,Rat.intCast_neg]
  rw[e,e2,show j+1-1=j from rfl,xo b,i1]
  grind
theorem IL {s:Rat}{f:List Rat}(j:s=bQ a)(k:∀ i,i<m->f.getD i 0=(if a.num.sign<0 then ga.getD i 0*((-1:Int):Rat) else ga.getD i 0)) :
  a*(((1:Int):Rat)/(s+((1:Int):Rat)))=jX 11 n 0 a 0/\((po m).map fun i=>ga.getD i 0*(((1:Int):Rat)/(s+((1:Int):Rat)))+a*((po m).map fun i=>((po m).map fun i=>f.getD i 0+(y2 m (0:Rat)).getD i 0).getD i 0*(-((((1:Int):Rat)/(s+((1:Int):Rat)))*(((1:Int):Rat)/(s+((1:Int):Rat)))))).getD i 0)=kb m 11 n a 0 ga []:=by
 have l:0<=bQ a:=by
  unfold bQ;split
  ·rename_i h
   have:a<0:=by rw[<-Ln,<-Lo];omega
   grind
  ·rename_i h;exact Lo.1 oM
 have b:bQ a+1≠0:=by grind
 subst j;refine ⟨?_,jn fun i hi=>?_⟩
 ·show _=a/(bQ a+((1:Int):Rat))
  rw[i1];grind
 ·rw[gd,kW hi,kW hi,iC,k i hi]
  show _=(((1:Int):Rat)/(((1:Int):Rat)+bQ a))*(((1:Int):Rat)/(((1:Int):Rat)+bQ a))*ga.getD i 0+0*0
  have e:((1:Int):Rat)+bQ a=bQ a+((1:Int):Rat):=Rat.add_comm _ _;rw[e]
  by_cases c:a.num.sign<0
  ·rw[if_pos c]
   have d:bQ a = -a:=by unfold bQ;rw[if_pos (by have:=Ll.1 (p9 c);omega)]
   rw[d] at b ⊢
   rw[i1,DT];grind
  ·rw[if_neg c]
   have d:bQ a=a:=by unfold bQ;rw[if_neg (fun h=>c (by have:=Ll.2 h;omega))]
   rw[d] at b ⊢
   rw[i1];grind
end
section
variable {m:Nat}{n:Int}{a b:Rat}{ga gb:List Rat}
theorem I5:((po m).map fun i=>ga.getD i 0+gb.getD i 0)=kb m 3 n a b ga gb:=jn fun i _=>by
 show _=((1:Int):Rat)*ga.getD i 0+((1:Int):Rat)*gb.getD i 0
 rw[i1];grind
theorem Jj:a+b*((-1:Int):Rat)=jX 4 n 0 a b/\((po m).map fun i=>ga.getD i 0+((po m).map fun i=>gb.getD i 0*((-1:Int):Rat)).getD i 0)=kb m 4 n a b ga gb:=by
 refine ⟨?_,jn fun i hi=>?_⟩
 ·show _=a-b
  rw[DT];grind
 ·rw[kW hi]
  show _=((1:Int):Rat)*ga.getD i 0 + -((1:Int):Rat)*gb.getD i 0
  rw[i1,DT];grind
theorem Jb:((po m).map fun i=>ga.getD i 0*b+a*gb.getD i 0)=kb m 5 n a b ga gb:=jn fun i _=>by
 show _=b*ga.getD i 0+a*gb.getD i 0
 grind
theorem Jt (h:b≠0):a*(((1:Int):Rat)/b)=jX 6 n 0 a b/\((po m).map fun i=>ga.getD i 0*(((1:Int):Rat)/b)+a*((po m).map fun i=>gb.getD i 0*(-((((1:Int):Rat)/b)*(((1:Int):Rat)/b)))).getD i 0)=kb m 6 n a b ga gb:=by
 refine ⟨?_,jn fun i hi=>?_⟩
 ·show _=a/b
  rw[i1];grind
 ·rw[kW hi]
  show _=((1:Int):Rat)/b*ga.getD i 0 + -(a*(((1:Int):Rat)/b)*(((1:Int):Rat)/b))*gb.getD i 0
  rw[i1];grind
theorem D6 {op:Int}(d:ga.length=m)(h:op=12/\b<a\/op=13/\a<b):a=jX op n 0 a b/\ga=kb m op n a b ga gb:=by
 rcases h with ⟨rfl,h⟩|⟨rfl,h⟩
 ·refine ⟨?_,ia d fun i _=>?_⟩
  ·show a=maxR a b
   unfold maxR;rw[if_neg (by grind)]
  ·show _=(if b<a then ((1:Int):Rat) else 0)*_+(if b<a then (0:Rat) else ((1:Int):Rat))*_
   rw[if_pos h,if_pos h,i1];grind
 ·have c:¬b<a:=by grind
  refine ⟨?_,ia d fun i _=>?_⟩
  ·show a=mZ a b
   unfold mZ;rw[if_neg c]
  ·show _=(if b<a then (0:Rat) else ((1:Int):Rat))*_+(if b<a then ((1:Int):Rat) else 0)*_
   rw[if_neg c,if_neg c,i1];grind
theorem DF {op:Int}(c:gb.length=m)(h:op=12/\a<b\/op=13/\b<a):b=jX op n 0 a b/\gb=kb m op n a b ga gb:=by
 rcases h with ⟨rfl,h⟩|⟨rfl,h⟩
 ·have d:¬b<a:=by grind
  refine ⟨?_,ia c fun i _=>?_⟩
  ·show b=maxR a b
   unfold maxR;rw[if_pos h]
  ·show _=(if b<a then ((1:Int):Rat) else 0)*_+(if b<a then (0:Rat) else ((1:Int):Rat))*_
   rw[if_neg d,if_neg d,i1];grind
 ·refine ⟨?_,ia c fun i _=>?_⟩
  ·show b=mZ a b
   unfold mZ;rw[if_pos h]
  ·show _=(if b<a then (0:Rat) else ((1:Int):Rat))*_+(if b<a then ((1:Int):Rat) else 0)*_
   rw[if_pos h,if_pos h,i1];grind
end
section
variable {a:Rat}
theorem E2 (h:¬a.num.sign<0):a=bQ a:=by
 unfold bQ;rw[if_neg (fun k=>h (by have:=Ll.2 k;omega))]
theorem Et (h:a.num.sign<0):a*((-1:Int):Rat)=bQ a:=by
 unfold bQ;rw[if_pos (Ll.1 (p9 h)),DT];grind
theorem ER {s:Rat}(h:s=bQ a):s+((1:Int):Rat)≠0:=by
 have b:0<=bQ a:=by
  unfold bQ;split
  ·rename_i h
   have:a<0:=by rw[<-Ln,<-Lo];omega
   grind
  ·rename_i h;exact Lo.1 oM
 rw[h,i1];grind
theorem wD {op:Int}{a b:Rat}(h:op=12/\0<dQ a b\/op=13/\dQ a b<0):op=12/\b<a\/op=13/\a<b:=by
 rcases h with ⟨h1,h2⟩|⟨h1,h2⟩
 ·exact .inl ⟨h1,fa.1 h2⟩
 ·exact .inr ⟨h1,iU.1 h2⟩
theorem xA {op:Int}{a b:Rat}(h:op=12/\dQ a b<0\/op=13/\0<dQ a b):op=12/\a<b\/op=13/\b<a:=by
 rcases h with ⟨h1,h2⟩|⟨h1,h2⟩
 ·exact .inl ⟨h1,iU.1 h2⟩
 ·exact .inr ⟨h1,fa.1 h2⟩
end
theorem pI (e:Z9)(m d:Nat)(I:m<=1000)(K D:Nat)(o:1<=K)(p:K<=1000000)(C:D<=20000000)(y:Nat)(B:Bool)(a:Rat)(ga:List Rat)(k:Z9)(l:Nat)(u:ga.length=m)(H:LQ K a)(z:∀ i,LQ D (ga.getD i 0))(w:World)(h:Hp)(g:G w h)(x:Sq k ga h)(J:Tab h):CR 128 #[.agg #[.iface 102 (.agg #[.slice e m d]),.map (some y),.bool B],qY a k ga.length l] w h (fun v h1=>∃ bk,v=pF (a*((-1:Int):Rat)) (sB bk) ((po m).map fun i=>ga.getD i 0*((-1:Int):Rat)).length m/\Sq (sB bk) ((po m).map fun i=>ga.getD i 0*((-1:Int):Rat)) h1):=by
 have b:=(((sS g).aS x).add (K:=fun L=>Tab L) J);refine go Tryz.func128 [(0,.agg #[.iface 102 (.agg #[qS e m d]),.map (some y),.bool B]),(1,qY a k ga.length l)] rfl (aD (lA 2 106 ([.iface 102 (.agg #[qS e m d]),.map (some y),.bool B]) b (fun F w2 V b=>lA 3 61 (qZ a k ga.length l) b (fun O Q S b=>lA 4 61 ([qF,uV 0,eS,uV 0,eS,sZ]) b (fun U W M b=>ag (cR 7 [] mixed b ao ?_))))));refine eV 0 5 (pB F) (eO 1 6 [(2,0,1)] (.iface 102 (.agg #[qS e m d])) b (eO 2 7 [(1,0,6)] (qY a k ga.length l) b (eV 4 9 (.iface 102 (.agg #[qS e m d])) (eV 5 10 (.iface 102 (.agg #[qS e m d])) (aj 3 8 b (fun _ _ b=>oA (-1) kD kD _ _ b.g) (fun _ _ b=>eC 6 11 b (fun _ _ b=>AM e m d I K D o p C a ga k l u H z ((-1:Int):Rat) 1 kD (LQ.int kD kD) _ _ b.g b.f.2.1 b.f.1) ?_))))));rintro _ _ _ _ _ b ⟨c,rfl,j⟩;replace b:=b.aS j;exact ce b (fun _ _ b=>tP 7 0 0 (qZ (a*((-1:Int):Rat)) (sB c) (((po m).map fun i=>ga.getD i 0*((-1:Int):Rat)).length) m) b (fun _ b=>tN (kX (b.ret [(0,0,6)] (qY (a*((-1:Int):Rat)) (sB c) (((po m).map fun i=>ga.getD i 0*((-1:Int):Rat)).length) m) (⟨_,rfl,b.f.1⟩)))))
theorem CE (j:Z9)(m e:Nat)(W:m<=1000)(K D:Nat)(hK1:1<=K)(hKD:K<=60000)(hD:D<=10000000)(M:Nat)(op n:Int)(q:Rat)(s:ByteArray)(A:Z9)(kn c:Nat)(a:Rat)(ga:List Rat)(l:Z9)(p:Nat)(F:ga.length=m)(V:LQ K a)(B:∀ i,LQ D (ga.getD i 0))(hop:7<=op/\op<=11)(hn:op=8 -> -12<=n/\n<=12)(w:World)(h:Hp)(g:G w h)(hSa:Sq l ga h)(tb:Tab h):CR 88 #[.agg #[.iface 102 (.agg #[.slice j m e]),.map (some M),.bool false],dl ⟨op,n,q,s,A,kn,c⟩,qY a l ga.length p] w h (fun v h1=>∃ (q_:Rat)(G_:List Rat)(A_:Z9)(c_:Nat),v=.tuple #[pF q_ A_ G_.length c_,iV (cG op n a 0)]/\Sq A_ G_ h1/\(cG op n a 0=0->q_=jX op n 0 a 0/\G_=kb m op n a 0 ga [])):=by
 have b:=(((sS g).aS hSa).add (K:=fun d=>Tab d) tb);refine go Tryz.func88 [(0,.agg #[.iface 102 (.agg #[qS j m e]),.map (some M),qF]),(1,dl ⟨op,n,q,s,A,kn,c⟩),(2,qY a l ga.length p)] rfl (aD (lA 3 106 ([.iface 102 (.agg #[qS j m e]),.map (some M),qF]) b (fun y w2 h3 b=>lA 4 32 (dr ⟨op,n,q,s,A,kn,c⟩) b (fun I w5 h6 b=>lA 5 61 (qZ a l ga.length p) b (fun b7 w8 h9 b=>lA 6 61 ([qF,uV 0,eS,uV 0,eS,sZ]) b (fun za _ _ b=>lL b ae (a7 (lL b [.v (pB y),.o (.iface 102 (.agg #[qS j m e])) 3 0 1,.o (qY a l ga.length p) 1 0 6] (ak 14 b (HZ j m e W a l ga.length p _ _ b.g) (fun _ _ b=>ak 15 b (en a (LQ.mono V oM) _ _ b.g) (fun _ zn b=>?_)))))))))));have ct:=i7 a.num;refine lL b ae (ag (ab b [.v (pB I),.o (iV op) 2 0 1] (be (aD ?_))));cases zc:((op:Int) == (7:Int))
 .
  have zq:=ah zc;refine lB 19 zc (lL b ae (ai (aD ?_)));cases zd:((op:Int) == (8:Int))
  .
   have zr:=ah zd;refine lB 24 zd (lL b ae (ai (aD ?_)));cases ze:((op:Int) == (11:Int))
   .
    have zs:=ah ze;refine lB 62 ze (lL b ae (ai (cK (cQ (ab b ae ?_)))));cases zf:((a.num.sign:Int) == (0:Int))
    .
     have zt:=ah zf;refine lB 100 zf (ai (cK (cQ (ab b ae ?_))));cases zg:(decide ((0:Int)<(a.num.sign:Int)))
     .
      have zu:=oF zg;refine lB 103 zg (ai (cK (cQ (ab b [.v (pB I),.o (iV op) 2 0 1] ?_))));cases zi:((op:Int) == (9:Int))
      .
       have zv:=ah zi;refine lB 107 zi (ai (cK (ab b [.v (pB y),.o (.iface 102 (.agg #[qS j m e])) 3 0 1,.v (qv (0:Rat))] (lC 114 b (jR j m e W (0:Rat) _ _ b.g) ?_))));rintro _ _ _ b ⟨bw,rfl,b6⟩;replace b:=b.aS b6;refine lP 0 0 (qZ (0:Rat) (sB bw) ((y2 m (0:Rat)).length) m) b (fun _ b=>lL b ae (lN (kX ?_)));obtain rfl:op=10:=by omega
       have H:cG 10 n a 0=0:=(eu (fun d=>absurd d kD) (fun d=>absurd d kD) (fun _=>kO oM) (fun d=>absurd d kD));exact b.ret [(0,0,6)] (.tuple #[qY (0:Rat) (sB bw) ((y2 m (0:Rat)).length) m,iV 0]) (⟨(0:Rat),(y2 m (0:Rat)),_,_,by rw[H],b.f.1,fun _=>(Iv oM)⟩)
      have zv:=eq_of_beq zi;refine lB 107 zi (au (ab b [.o (.agg #[.iface 102 (.agg #[qS j m e]),.map (some M),qF]) 3 0 3,.o (qY a l ga.length p) 1 0 6] (lC 110 b (pI j m e W (14*K+40) (D+40*K+100) oM oM oM M false a ga l p F (LQ.mono V oM) (fun i=>LQ.mono (B i) oM) _ _ b.g b.f.2.1 b.f.1) ?_)));rintro _ _ _ b ⟨b0,rfl,b9⟩;replace b:=b.aS b9;refine lP 0 0 (qZ (a*((-1:Int):Rat)) (sB b0) (((po m).map fun i=>ga.getD i 0*((-1:Int):Rat)).length) m) b (fun _ b=>lL b ae (lN (kX ?_)));obtain rfl:op=9:=by omega
      have H:cG 9 n a 0=0:=(eu (fun d=>absurd d kD) (fun d=>absurd d kD) (fun _=>kO oM) (fun d=>absurd d kD));exact b.ret [(0,0,6)] (.tuple #[qY (a*((-1:Int):Rat)) (sB b0) (((po m).map fun i=>ga.getD i 0*((-1:Int):Rat)).length) m,iV 0]) (⟨a*((-1:Int):Rat),((po m).map fun i=>ga.getD i 0*((-1:Int):Rat)),_,_,by rw[H],b.f.1,fun _=>(I2 oM)⟩)
     have zu:=oT zg;refine lB 103 zg (au (ab b [.o (qY a l ga.length p) 1 0 6] (lP 0 0 (qZ a l ga.length p) b (fun _ b=>lL b ae (lN (kX ?_))))));have H:cG op n a 0=0:=(eu (fun d=>absurd d oM) (fun d=>absurd d oM) (fun _=>kO oM) (fun d=>absurd d oM));exact b.ret [(0,0,6)] (.tuple #[qY a l ga.length p,iV 0]) (⟨a,ga,_,_,by rw[H],b.f.2.1,fun _=>(Iw oM F oM)⟩)
    have zt:=eq_of_beq zf;refine lB 100 zf (au (ab b [.o (qY a l ga.length p) 1 0 6] (lP 0 0 (qZ a l ga.length p) b (fun _ b=>lL b ae (lN (kX ?_))))));have H:cG op n a 0=7:=(DB (.inl ⟨by omega,EM oM⟩));exact b.ret [(0,0,6)] (.tuple #[qY a l ga.length p,iV 7]) (⟨a,ga,_,_,by rw[H],b.f.2.1,fun d=>absurd d (by rw[H];decide)⟩)
   have zs:=eq_of_beq ze;refine lB 62 ze ?_;refine lL b ae (au (CG.join (fun Γ w_=>∃  (d:Hp),Γ=[(3,pB y),(4,pB I),(5,pB b7),(6,pB za),(8,iV a.num.sign)]/\SS w h w_ d [⟨za,61,[qF,uV 0,eS,uV 0,eS,sZ]⟩,⟨b7,61,qZ a l ga.length p⟩,⟨I,32,dr ⟨op,n,q,s,A,kn,c⟩⟩,⟨y,106,[.iface 102 (.agg #[qS j m e]),.map (some M),qF]⟩] [] [fun d=>Tab d,Sq l ga]) ?_ ?_))
   .
    refine ab b [.v (qP y 2),.o qF 3 2 1,.c] (lG 66 ?_);refine lG 67 (lL b [.v qF] (ai (CG.skip ?_)));intro a_ L;exact ⟨_,⟨zn,rfl,b.to _ _⟩,L.to _ kR⟩
   rintro _ _ ⟨_,rfl,b⟩;refine ab b [.o (qY a l ga.length p) 1 0 6] (lA 10 61 ([qF,uV 0,eS,uV 0,eS,sZ]) b (fun zD _ zH b=>lP 0 0 (qZ a l ga.length p) b (fun _ b=>?_)));refine lN (CG.join (fun Γ w_=>∃ (x:Rat)(u:List Rat)(Q:Z9)(cx:Nat)(d:Hp),Γ=[(3,pB y),(4,pB I),(5,pB b7),(6,pB za),(8,iV a.num.sign),(10,pB zD)]/\SS w h w_ d [⟨zD,61,qZ x Q u.length cx⟩,⟨za,61,[qF,uV 0,eS,uV 0,eS,sZ]⟩,⟨b7,61,qZ a l ga.length p⟩,⟨I,32,dr ⟨op,n,q,s,A,kn,c⟩⟩,⟨y,106,[.iface 102 (.agg #[qS j m e]),.map (some M),qF]⟩] [] [Sq Q u,fun d=>Tab d,Sq l ga]/\x=bQ a/\(∀ i,i<m->u.getD i 0=(if a.num.sign<0 then ga.getD i 0*((-1:Int):Rat) else ga.getD i 0))/\u.length=m/\LQ (K+1) x/\(∀ i,LQ (D+1) (u.getD i 0))) ?_ ?_)
   .
    refine ab b ae ?_;cases zj:(decide ((a.num.sign:Int)<(0:Int)))
    .
     have zw:=oF zj;refine lB 72 zj (ai (CG.skip ?_));intro a_ L;replace b:=b.aS b.f.2.1;exact ⟨_,⟨a,ga,l,p,zH,rfl,b.to _ _,(E2 oM),(fun i_ _=>by rw[if_neg oM]),F,(V.mono oM),(fun i=>(B i).mono oM)⟩,L.to _ kR⟩
    have zw:=oT zj;refine lB 72 zj (au (kQ (lL b [.o (.agg #[.iface 102 (.agg #[qS j m e]),.map (some M),qF]) 4 0 3,.o (qY a l ga.length p) 2 0 6] (lC 75 b (pI j m e W (14*K+40) (D+40*K+100) oM oM oM M false a ga l p F (LQ.mono V oM) (fun i=>LQ.mono (B i) oM) _ _ b.g b.f.2.1 b.f.1) ?_))));rintro _ _ zI b ⟨bv,rfl,ch⟩;replace b:=b.aS ch;refine lP 0 0 (qZ (a*((-1:Int):Rat)) (sB bv) (((po m).map fun i=>ga.getD i 0*((-1:Int):Rat)).length) m) b (fun _ b=>lD ?_);intro a_ L;replace b:=(b.tl.aS b.f.1);exact ⟨_,⟨a*((-1:Int):Rat),((po m).map fun i=>ga.getD i 0*((-1:Int):Rat)),sB bv,m,zI,rfl,b.to _ _,(Et oM),(fun i_ d=>by rw[if_pos oM,kW d]),(gJ _ _),(LQ.mono (V.mul (LQ.int (z:=-1) kD kD)) oM),(mn (fun i=>LQ.mono ((B i).mul (LQ.int (z:=-1) kD kD)) oM) oM)⟩,L.to _ kR⟩
   rintro _ _ ⟨x,u,Q,cx,_,rfl,b,hxq,hxg,hlx,U,C⟩;refine cQ (cR 23 [] mixed b ao ?_);refine eV 0 76 (pB y) (eO 1 77 [(4,0,1)] (.iface 102 (.agg #[qS j m e])) b (eO 2 78 [(2,0,6)] (qY a l ga.length p) b (eV 3 79 (pB y) (eO 4 80 [(4,0,1)] (.iface 102 (.agg #[qS j m e])) b (eV 5 81 (pB y) (eO 6 82 [(4,0,1)] (.iface 102 (.agg #[qS j m e])) b (eO 7 83 [(0,0,6)] (qY x Q u.length cx) b (eV 8 84 (pB y) (eO 9 85 [(4,0,1)] (.iface 102 (.agg #[qS j m e])) b (eV 11 87 (.iface 102 (.agg #[qS j m e])) (eV 12 88 (.iface 102 (.agg #[qS j m e])) (eV 14 90 (.iface 102 (.agg #[qS j m e])) (eV 15 91 (.iface 102 (.agg #[qS j m e])) (eV 17 93 (.iface 102 (.agg #[qS j m e])) (eV 18 94 (.iface 102 (.agg #[qS j m e])) (eV 20 96 (.iface 102 (.agg #[qS j m e])) (eV 21 97 (.iface 102 (.agg #[qS j m e])) (aj 10 86 b (fun _ _ b=>oA (1) kD kD _ _ b.g) (fun _ _ b=>eC 13 89 b (fun _ _ b=>jR j m e W ((1:Int):Rat) _ _ b.g) ?_)))))))))))))))))));rintro _ _ _ _ _ b ⟨ck,rfl,b5⟩;replace b:=b.aS b5;have cl:=hxq;have O:LQ (K+3) (x+((1:Int):Rat)):=LQ.mono (LQ.add U (LQ.int (z:=1) kD kD)) oM;have Y:∀ i,LQ (D+4) (((po m).map fun i=>u.getD i 0+(y2 m (0:Rat)).getD i 0).getD i 0):=mn (fun i=>LQ.mono (LQ.add (C i) (by rw[iC];exact jd (nR 1))) oM) oM;refine eC 16 92 b (fun _ _ b=>F4 j m e W (14*K+40) (D+40*K+100) oM oM oM x u Q cx hlx (LQ.mono U oM) (fun i=>LQ.mono (C i) oM) ((1:Int):Rat) (y2 m (0:Rat)) (sB ck) m Lk (LQ.mono (LQ.int kD kD) oM) (fun i=>by rw[iC];exact jd oM) _ _ b.g b.f.2.1 b.f.1 b.f.r.1) ?_;rintro _ _ _ _ _ b ⟨cq,rfl,cd⟩;replace b:=b.aS cd;refine eC 19 95 b (fun _ _ b=>oR j m e W (14*K+40) (D+40*K+100) oM oM oM (x+((1:Int):Rat)) ((po m).map fun i=>u.getD i 0+(y2 m (0:Rat)).getD i 0) (sB cq) m (gJ _ _) (LQ.mono O oM) (fun i=>LQ.mono (Y i) oM) (xg (ER cl)) _ _ b.g b.f.1 b.f.r.2.1) ?_;rintro _ _ _ _ _ b ⟨cm,rfl,b2⟩;replace b:=b.aS b2;refine eC 22 98 b (fun _ _ b=>Dm j m e W (14*K+40) (D+40*K+100) oM oM oM a ga l p F (LQ.mono V oM) (fun i=>LQ.mono (B i) oM) (((1:Int):Rat)/(x+((1:Int):Rat))) ((po m).map fun i=>((po m).map fun i=>u.getD i 0+(y2 m (0:Rat)).getD i 0).getD i 0*(-((((1:Int):Rat)/(x+((1:Int):Rat)))*(((1:Int):Rat)/(x+((1:Int):Rat)))))) (sB cm) m (gJ _ _) (LQ.mono (LQ.div (LQ.int (z:=1) kD kD) O) oM) (mn (fun i=>LQ.mono ((Y i).mul ((LQ.div (LQ.int (z:=1) kD kD) O).mul (LQ.div (LQ.int (z:=1) kD kD) O)).neg) oM) oM) _ _ b.g b.f.q.2.1 b.f.1 b.f.q.1) ?_;rintro _ _ _ _ _ b ⟨bq,rfl,cb⟩;replace b:=b.aS cb;refine ce b (fun _ _ b=>tP 23 1 0 (qZ (a*(((1:Int):Rat)/(x+((1:Int):Rat)))) (sB bq) (((po m).map fun i=>ga.getD i 0*(((1:Int):Rat)/(x+((1:Int):Rat)))+a*((po m).map fun i=>((po m).map fun i=>u.getD i 0+(y2 m (0:Rat)).getD i 0).getD i 0*(-((((1:Int):Rat)/(x+((1:Int):Rat)))*(((1:Int):Rat)/(x+((1:Int):Rat)))))).getD i 0).length) m) b (fun _ b=>tV 24 7 (iV 0) (tN (kX ?_))));obtain rfl:op=11:=by omega
   have H:cG 11 n a 0=0:=(eu (fun d=>absurd d kD) (fun d=>absurd d kD) (fun d=>absurd d kD) (fun d=>absurd d kD));exact b.ret [(1,0,6)] (.tuple #[qY (a*(((1:Int):Rat)/(x+((1:Int):Rat)))) (sB bq) (((po m).map fun i=>ga.getD i 0*(((1:Int):Rat)/(x+((1:Int):Rat)))+a*((po m).map fun i=>((po m).map fun i=>u.getD i 0+(y2 m (0:Rat)).getD i 0).getD i 0*(-((((1:Int):Rat)/(x+((1:Int):Rat)))*(((1:Int):Rat)/(x+((1:Int):Rat)))))).getD i 0).length) m,iV 0]) (⟨a*(((1:Int):Rat)/(x+((1:Int):Rat))),((po m).map fun i=>ga.getD i 0*(((1:Int):Rat)/(x+((1:Int):Rat)))+a*((po m).map fun i=>((po m).map fun i=>u.getD i 0+(y2 m (0:Rat)).getD i 0).getD i 0*(-((((1:Int):Rat)/(x+((1:Int):Rat)))*(((1:Int):Rat)/(x+((1:Int):Rat)))))).getD i 0),_,_,by rw[H],b.f.1,fun _=>(IL hxq hxg)⟩)
  have zr:=eq_of_beq zd;refine lB 24 zd ?_;refine lL b ae (au (CG.join (fun Γ w_=>∃  (d:Hp),Γ=[(3,pB y),(4,pB I),(5,pB b7),(6,pB za),(8,iV a.num.sign)]/\SS w h w_ d [⟨za,61,[qF,uV 0,eS,uV 0,eS,sZ]⟩,⟨b7,61,qZ a l ga.length p⟩,⟨I,32,dr ⟨op,n,q,s,A,kn,c⟩⟩,⟨y,106,[.iface 102 (.agg #[qS j m e]),.map (some M),qF]⟩] [] [fun d=>Tab d,Sq l ga]/\(n<0->a.num.sign≠0)) ?_ ?_))
  .
   refine ab b [.v (qP I 1),.o (iV n) 2 1 1] ?_;cases zk:(decide ((n:Int)<(0:Int)))
   .
    have zx:=oF zk;refine lB 27 zk (lL b ae (lG 29 ?_));refine lG 30 (lL b [.v qF] (ai (CG.skip ?_)));intro a_ L;exact ⟨_,⟨zn,rfl,b.to _ _,(fun d=>by omega)⟩,L.to _ kR⟩
   have zx:=oT zk;refine lB 27 zk (lL b aN ?_);cases zl:((a.num.sign:Int) == (0:Int))
   .
    have zA:=ah zl;refine lB 30 zl (lL b [.v qF] (ai (CG.skip ?_)));intro a_ L;exact ⟨_,⟨zn,rfl,b.to _ _,(fun d=>by omega)⟩,L.to _ kR⟩
   have zA:=eq_of_beq zl;refine lB 30 zl (lL b [.v qT] (au (ab b [.o (qY a l ga.length p) 1 0 6] (lP 0 0 (qZ a l ga.length p) b (fun _ b=>lL b ae (lN (kX ?_)))))));obtain rfl:op=8:=by omega
   have H:cG 8 n a 0=6:=(DZ (.inr ⟨rfl,by omega,EM oM⟩));exact b.ret [(0,0,6)] (.tuple #[qY a l ga.length p,iV 6]) (⟨a,ga,_,_,by rw[H],b.f.2.1,fun d=>absurd d (by rw[H];decide)⟩)
  rintro _ _ ⟨zJ,rfl,b,bn⟩;refine CG.join (fun Γ w_=>∃ (x:Rat)(u:List Rat)(Q:Z9)(cx:Nat)(d:Hp),Γ=[(3,pB y),(4,pB I),(5,pB b7),(6,pB za),(8,iV a.num.sign)]/\SS w h w_ d [⟨za,61,[qF,uV 0,eS,uV 0,eS,sZ]⟩,⟨b7,61,qZ x Q u.length cx⟩,⟨I,32,dr ⟨op,n,q,s,A,kn,c⟩⟩,⟨y,106,[.iface 102 (.agg #[qS j m e]),.map (some M),qF]⟩] [] [Sq Q u,fun d=>Tab d,Sq l ga]/\((0<=n/\x=a/\u=ga)\/(n<0/\a≠0/\x=(((1:Int):Rat)/a)/\u=((po m).map fun i=>ga.getD i 0*(-((((1:Int):Rat)/a)*(((1:Int):Rat)/a))))))/\u.length=m/\LQ (1+K) x/\(∀ i,LQ (D+2*K+2) (u.getD i 0))) ?_ ?_
  .
   refine ab b [.v (qP I 1),.o (iV n) 2 1 1] ?_;cases zm:(decide ((n:Int)<(0:Int)))
   .
    have zB:=oF zm;refine lB 35 zm (ai (CG.skip ?_));intro a_ L;replace b:=b.aS b.f.2.1;exact ⟨_,⟨a,ga,l,p,zJ,rfl,b.to _ _,(.inl ⟨by omega,rfl,rfl⟩),F,(V.mono oM),(fun i=>(B i).mono oM)⟩,L.to _ kR⟩
   have zB:=oT zm;refine lB 35 zm (au (kQ (lL b [.v (pB y),.o (.iface 102 (.agg #[qS j m e])) 3 0 1,.o (qY a l ga.length p) 1 0 6] (lC 39 b (oR j m e W (14*K+40) (D+40*K+100) oM oM oM a ga l p F (LQ.mono V oM) (fun i=>LQ.mono (B i) oM) (xg (kO (bn oM))) _ _ b.g b.f.2.1 b.f.1) ?_))));rintro _ _ zK b ⟨bt,rfl,b3⟩;replace b:=b.aS b3;refine lP 1 0 (qZ (((1:Int):Rat)/a) (sB bt) (((po m).map fun i=>ga.getD i 0*(-((((1:Int):Rat)/a)*(((1:Int):Rat)/a)))).length) m) b (fun _ b=>lD ?_);intro a_ L;replace b:=(b.tl.aS b.f.1);exact ⟨_,⟨((1:Int):Rat)/a,((po m).map fun i=>ga.getD i 0*(-((((1:Int):Rat)/a)*(((1:Int):Rat)/a)))),sB bt,m,zK,rfl,b.to _ _,(.inr ⟨by omega,kO (bn oM),rfl,rfl⟩),(gJ _ _),(LQ.div (LQ.int (z:=1) kD kD) V),(mn (fun i=>LQ.mono ((B i).mul ((LQ.div (LQ.int (z:=1) kD kD) V).mul (LQ.div (LQ.int (z:=1) kD kD) V)).neg) (by omega:_<=D+2*K+2)) oM)⟩,L.to _ kR⟩
  rintro _ _ ⟨x,u,Q,cx,_,rfl,b,hxd,hlx,U,C⟩;refine cQ ?_;have hsr:=b;refine cR 7 [⟨6,9,.cells (Ky [qF,uV 0,eS,uV 0,eS,sZ]) 61 (0,0)⟩] mixed b (aZ (dB kR (fun _ _=>by kernel_rfl)) ao) (eV 0 40 (pB y) (eO 1 41 [(3,0,1)] (.iface 102 (.agg #[qS j m e])) b (eV 3 43 (.iface 102 (.agg #[qS j m e])) (eV 4 44 (.iface 102 (.agg #[qS j m e])) (aj 2 42 b (fun _ _ b=>oA (1) kD kD _ _ b.g) (fun _ _ b=>eC 5 45 b (fun _ _ b=>jR j m e W ((1:Int):Rat) _ _ b.g) ?_))))));rintro _ _ _ _ _ b ⟨J,rfl,bl⟩;replace b:=b.aS bl;refine eU [] hsr b 61 [qF,uV 0,eS,uV 0,eS,sZ] (fun _ zE zo b=>tP 7 0 0 (qZ ((1:Int):Rat) (sB J) ((y2 m (0:Rat)).length) m) b (fun _ b=>tN (cQ (ab b [.v (qP I 1),.o (iV n) 3 1 1,.v (qP I 1),.o (iV n) 3 1 1] (lI 50 (0-n) ?_)))));refine lV 51 (iV (max (n:Int) (0-n:Int))) ?_ (hr:=ba (n:=(if (0-n:Int)>(n:Int) then (0-n:Int) else (n:Int))) kR (by simp only[mc]));refine lL b ae (be ?_);replace b:=b.aS b.f.1;refine bU _ (CG.loop (fun μ_ Γ w_=>∃ (k:Nat)(Ap:Z9)(cp:Nat)(S:List Rat)(d:Hp),μ_=n.natAbs-k/\Γ=[(3,pB y),(4,pB I),(5,pB b7),(6,pB za),(8,iV a.num.sign),(9,pB zo),(51,iV (max (n:Int) (0-n:Int))),(52,nV k)]/\SS w h w_ d [⟨zo,61,qZ (bV x k) Ap S.length cp⟩,⟨za,61,[qF,uV 0,eS,uV 0,eS,sZ]⟩,⟨b7,61,qZ x Q u.length cx⟩,⟨I,32,dr ⟨op,n,q,s,A,kn,c⟩⟩,⟨y,106,[.iface 102 (.agg #[qS j m e]),.map (some M),qF]⟩] [] [Sq Ap S,Sq (sB J) (y2 m (0:Rat)),Sq Q u,fun d=>Tab d,Sq l ga]/\k<=n.natAbs/\S.length=m/\(∀ i,S.getD i 0=((k:Int):Rat)*bV x (k-1)*u.getD i 0)) _ ⟨0,sB J,m,(y2 m (0:Rat)),zE,rfl,rfl,b.to _ _,JU _,Lk,(fun i=>by rw[iC];show (0:Rat)=((0:Int):Rat)*_*_;rw[i0];grind)⟩ ?_);rintro _ _ _ ⟨k,Ap,cp,S,_,cr,rfl,b,hk,hlp,hgp⟩;refine aD ?_;cases zb:(decide ((k:Int)<(max (n:Int) (0-n:Int):Int)))
  .
   have zp:=oF zb;refine lB 53 zb (ag (dv (CG.exit ?_)))
   show CG _ _ _ _ _ _ _ _
   refine ab b [.o (qY (bV x k) Ap S.length cp) 0 0 6] (lP 1 0 (qZ (bV x k) Ap S.length cp) b (fun _ b=>lL b ae (lN (kX ?_))));obtain rfl:op=8:=by omega
   have H:cG 8 n a 0=0:=(eu (fun d=>absurd d kD) (fun _ d=>by rcases hxd with ⟨h1_,_⟩|⟨_,h2_,_⟩;omega;exact h2_) (fun d=>absurd d kD) (fun d=>absurd d kD));exact b.ret [(1,0,6)] (.tuple #[qY (bV x k) Ap S.length cp,iV 0]) (⟨bV x k,S,_,_,by rw[H],b.f.1,fun _=>(by rcases hxd with ⟨h1_,e1_,e2_⟩|⟨h1_,h2_,e1_,e2_⟩;subst e1_ e2_;exact If h1_ oM hlp hgp;subst e1_;exact Ie h1_ h2_ oM hlp e2_ hgp)⟩)
  have zp:=oT zb;refine lB 53 zb (ag (bT (cK (cQ (kZ (kQ (lL b [.v (pB y),.o (.iface 102 (.agg #[qS j m e])) 4 0 1,.o (qY (bV x k) Ap S.length cp) 0 0 6,.o (qY x Q u.length cx) 2 0 6] (lC 58 b (Dm j m e W (14*K+40) (D+40*K+100) oM oM oM (bV x k) S Ap cp hlp (LQ.mono (e9 U k) (by have:=yX (1+K) (show k<=12 by omega);omega)) (fun i=>by rw[hgp i];exact LQ.mono (((LQ.int (z:=(k:Int)) oM oM).mul (e9 U (k-1))).mul (C i)) (by have:=yX (1+K) (show k-1<=12 by omega);omega)) x u Q cx hlx (LQ.mono U oM) (fun i=>LQ.mono (C i) oM) _ _ b.g b.f.1 b.f.r.1 b.f.r.2.1) ?_))))))));rintro _ _ zG b ⟨Z,rfl,bb⟩;replace b:=b.aS bb;refine lP 0 0 (qZ ((bV x k)*x) (sB Z) (((po m).map fun i=>S.getD i 0*x+(bV x k)*u.getD i 0).length) m) b (fun _ b=>lN (kQ (bM 59 ((k:Nat)+1) (k+1) ?_)));refine lL b ae (lD ?_);intro a_ L;replace b:=(b.tl.tl.aS b.f.1);refine ⟨_,_,?_,⟨k+1,sB Z,m,((po m).map fun i=>S.getD i 0*x+(bV x k)*u.getD i 0),zG,rfl,rfl,b.to _ _,oM,(gJ _ _),(Cg hlx hgp)⟩,L.to _ kR⟩
  omega
 have zq:=eq_of_beq zc;refine lB 19 zc (lL b ae (au (ab b [.o (.agg #[.iface 102 (.agg #[qS j m e]),.map (some M),qF]) 3 0 3,.o (qY a l ga.length p) 1 0 6] (lC 22 b (pI j m e W (14*K+40) (D+40*K+100) oM oM oM M false a ga l p F (LQ.mono V oM) (fun i=>LQ.mono (B i) oM) _ _ b.g b.f.2.1 b.f.1) ?_))));rintro _ _ _ b ⟨X,rfl,bf⟩;replace b:=b.aS bf;refine lP 0 0 (qZ (a*((-1:Int):Rat)) (sB X) (((po m).map fun i=>ga.getD i 0*((-1:Int):Rat)).length) m) b (fun _ b=>lL b ae (lN (kX ?_)));obtain rfl:op=7:=by omega
 have H:cG 7 n a 0=0:=(eu (fun d=>absurd d kD) (fun d=>absurd d kD) (fun d=>absurd d kD) (fun d=>absurd d kD));exact b.ret [(0,0,6)] (.tuple #[qY (a*((-1:Int):Rat)) (sB X) (((po m).map fun i=>ga.getD i 0*((-1:Int):Rat)).length) m,iV 0]) (⟨a*((-1:Int):Rat),((po m).map fun i=>ga.getD i 0*((-1:Int):Rat)),_,_,by rw[H],b.f.1,fun _=>I0⟩)
theorem BM (l:Z9)(m k:Nat)(I:m<=1000)(K D:Nat)(hK1:1<=K)(hKD:K<=60000)(hD:D<=10000000)(bm:Nat)(op n:Int)(q:Rat)(s:ByteArray)(A:Z9)(kn c:Nat)(a:Rat)(ga:List Rat)(j:Z9)(p:Nat)(B:ga.length=m)(ha:LQ K a)(J:∀ i,LQ D (ga.getD i 0))(b:Rat)(gb:List Rat)(u:Z9)(y:Nat)(F:gb.length=m)(H:LQ K b)(C:∀ i,LQ D (gb.getD i 0))(hop:3<=op/\op<=6\/12<=op/\op<=13)(w:World)(h:Hp)(g:G w h)(hSa:Sq j ga h)(hSb:Sq u gb h)(tb:Tab h):CR 89 #[.agg #[.iface 102 (.agg #[.slice l m k]),.map (some bm),.bool false],dl ⟨op,n,q,s,A,kn,c⟩,qY a j ga.length p,qY b u gb.length y] w h (fun v h1=>∃ (q_:Rat)(G_:List Rat)(A_:Z9)(c_:Nat),v=.tuple #[pF q_ A_ G_.length c_,iV (cG op n a b)]/\Sq A_ G_ h1/\(cG op n a b=0->q_=jX op n 0 a b/\G_=kb m op n a b ga gb)):=by
 have d:=((((sS g).aS hSa).aS hSb).add (K:=fun e=>Tab e) tb);refine go Tryz.func89 [(0,.agg #[.iface 102 (.agg #[qS l m k]),.map (some bm),qF]),(1,dl ⟨op,n,q,s,A,kn,c⟩),(2,qY a j ga.length p),(3,qY b u gb.length y)] rfl (aD (lA 4 106 ([.iface 102 (.agg #[qS l m k]),.map (some bm),qF]) d (fun O w2 h3 d=>lA 5 32 (dr ⟨op,n,q,s,A,kn,c⟩) d (fun b4 w5 h6 d=>lA 6 61 (qZ a j ga.length p) d (fun b7 w8 h9 d=>lA 7 61 (qZ b u gb.length y) d (fun b10 _ _ d=>lA 8 61 ([qF,uV 0,eS,uV 0,eS,sZ]) d (fun b13 _ _ d=>lL d ae (ag (ab d [.v (pB b4),.o (iV op) 3 0 1] (be (aD ?_)))))))))));cases za:((op:Int) == (3:Int))
 .
  have zk:=ah za;refine lB 14 za (lL d ae (ai (aD ?_)));cases zb:((op:Int) == (4:Int))
  .
   have zl:=ah zb;refine lB 21 zb (lL d ae (ai (aD ?_)));cases zc:((op:Int) == (5:Int))
   .
    have zm:=ah zc;refine lB 32 zc (lL d ae (ai (aD ?_)));cases zd:((op:Int) == (6:Int))
    .
     have zn:=ah zd;refine lB 39 zd (lL d ae (ai (cK (cQ (cR 9 [] mixed d ao ?_)))));refine eV 0 57 (pB O) (eO 1 58 [(4,0,1)] (.iface 102 (.agg #[qS l m k])) d (eO 2 59 [(2,0,6)] (qY a j ga.length p) d (eV 4 61 (pB O) (eO 5 62 [(4,0,1)] (.iface 102 (.agg #[qS l m k])) d (eO 6 63 [(1,0,6)] (qY b u gb.length y) d (aj 3 60 d (fun _ _ d=>HZ l m k I a j ga.length p _ _ d.g) (fun _ _ d=>aj 7 64 d (fun _ _ d=>HZ l m k I b u gb.length y _ _ d.g) (fun _ _ d=>aj 8 65 d (fun _ _ d=>pe a b (LQ.mono ha oM) (LQ.mono H oM) _ _ d.g) (fun _ _ d=>ce d (fun _ _ d=>tV 9 10 (iV (dQ a b)) (tN (cQ (ab d ae ?_)))))))))))));cases ze:((dQ a b:Int) == (0:Int))
     .
      have zo:=ah ze;refine lB 67 ze (ai (cK (cQ (ab d ae ?_))));cases zf:(decide ((0:Int)<(dQ a b:Int)))
      .
       have zp:=oF zf;refine lB 70 zf (lL d [.v (pB b4),.o (iV op) 3 0 1] ?_);cases zg:((op:Int) == (12:Int))
       .
        have zq:=ah zg;refine lB 73 zg (lL d [.v qT] (au (ab d [.o (qY a j ga.length p) 2 0 6] (lP 0 0 (qZ a j ga.length p) d (fun _ d=>lL d ae (lN (kX ?_)))))));have x:cG op n a b=0:=(eu (fun e=>absurd e oM) (fun e=>absurd e oM) (fun e=>absurd e oM) (fun _=>fun Z=>absurd (fG.2 Z) oM));exact d.ret [(0,0,6)] (.tuple #[qY a j ga.length p,iV 0]) (⟨a,ga,_,_,by rw[x],d.f.r.1,fun _=>(D6 B (wD oM))⟩)
       have zq:=eq_of_beq zg;refine lB 73 zg (lL d [.v qF] (ai (cK (ab d [.o (qY b u gb.length y) 1 0 6] (lP 0 0 (qZ b u gb.length y) d (fun _ d=>lL d ae (lN (kX ?_))))))));have x:cG op n a b=0:=(eu (fun e=>absurd e oM) (fun e=>absurd e oM) (fun e=>absurd e oM) (fun _=>fun Z=>absurd (fG.2 Z) oM));exact d.ret [(0,0,6)] (.tuple #[qY b u gb.length y,iV 0]) (⟨b,gb,_,_,by rw[x],d.f.2.1,fun _=>(DF F (xA oM))⟩)
      have zp:=oT zf;refine lB 70 zf (lL d [.v (pB b4),.o (iV op) 3 0 1] ?_);cases zi:((op:Int) == (12:Int))
      .
       have zr:=ah zi;refine lB 73 zi (lL d [.v qF] (ai (cK (ab d [.o (qY b u gb.length y) 1 0 6] (lP 0 0 (qZ b u gb.length y) d (fun _ d=>lL d ae (lN (kX ?_))))))));have x:cG op n a b=0:=(eu (fun e=>absurd e oM) (fun e=>absurd e oM) (fun e=>absurd e oM) (fun _=>fun Z=>absurd (fG.2 Z) oM));exact d.ret [(0,0,6)] (.tuple #[qY b u gb.length y,iV 0]) (⟨b,gb,_,_,by rw[x],d.f.2.1,fun _=>(DF F (xA oM))⟩)
      have zr:=eq_of_beq zi;refine lB 73 zi (lL d [.v qT] (au (ab d [.o (qY a j ga.length p) 2 0 6] (lP 0 0 (qZ a j ga.length p) d (fun _ d=>lL d ae (lN (kX ?_)))))));have x:cG op n a b=0:=(eu (fun e=>absurd e oM) (fun e=>absurd e oM) (fun e=>absurd e oM) (fun _=>fun Z=>absurd (fG.2 Z) oM));exact d.ret [(0,0,6)] (.tuple #[qY a j ga.length p,iV 0]) (⟨a,ga,_,_,by rw[x],d.f.r.1,fun _=>(D6 B (wD oM))⟩)
     have zo:=eq_of_beq ze;refine lB 67 ze (au (ab d [.o (qY a j ga.length p) 2 0 6] (lP 0 0 (qZ a j ga.length p) d (fun _ d=>lL d ae (lN (kX ?_))))));have x:cG op n a b=7:=(DB (.inr ⟨by omega,fG.1 oM⟩));exact d.ret [(0,0,6)] (.tuple #[qY a j ga.length p,iV 7]) (⟨a,ga,_,_,by rw[x],d.f.r.1,fun e=>absurd e (by rw[x];decide)⟩)
    have zn:=eq_of_beq zd;refine lB 39 zd (lL d ae (au (cQ (ab d [.v (pB O),.o (.iface 102 (.agg #[qS l m k])) 4 0 1,.o (qY b u gb.length y) 1 0 6] (ak 43 d (HZ l m k I b u gb.length y _ _ d.g) (fun _ _ d=>ak 44 d (en b (LQ.mono H oM) _ _ d.g) (fun _ _ d=>?_)))))));have bn:=i7 b.num;cases zj:((b.num.sign:Int) == (0:Int))
    .
     have zs:=ah zj;refine lB 45 zj (ai (cK (cQ (cR 10 [] mixed d ao ?_))));refine eV 0 47 (pB O) (eO 1 48 [(4,0,1)] (.iface 102 (.agg #[qS l m k])) d (eO 2 49 [(2,0,6)] (qY a j ga.length p) d (eV 3 50 (pB O) (eO 4 51 [(4,0,1)] (.iface 102 (.agg #[qS l m k])) d (eO 5 52 [(1,0,6)] (qY b u gb.length y) d (eV 7 54 (.iface 102 (.agg #[qS l m k])) (eV 8 55 (.iface 102 (.agg #[qS l m k])) (eC 6 53 d (fun _ _ d=>oR l m k I (14*K+40) (D+40*K+100) oM oM oM b gb u y F (LQ.mono H oM) (fun i=>LQ.mono (C i) oM) (xg (kO oM)) _ _ d.g d.f.2.1 d.f.1) ?_))))))));rintro _ _ _ _ _ d ⟨bl,rfl,W⟩;replace d:=d.aS W;refine eC 9 56 d (fun _ _ d=>Dm l m k I (14*K+40) (D+40*K+100) oM oM oM a ga j p B (LQ.mono ha oM) (fun i=>LQ.mono (J i) oM) (((1:Int):Rat)/b) ((po m).map fun i=>gb.getD i 0*(-((((1:Int):Rat)/b)*(((1:Int):Rat)/b)))) (sB bl) m (gJ _ _) (LQ.mono (LQ.div (LQ.int (z:=1) kD kD) H) oM) (mn (fun i=>LQ.mono ((C i).mul ((LQ.div (LQ.int (z:=1) kD kD) H).mul (LQ.div (LQ.int (z:=1) kD kD) H)).neg) oM) oM) _ _ d.g d.f.r.2.1 d.f.1 d.f.2.1) ?_;rintro _ _ _ _ _ d ⟨Q,rfl,Y⟩;replace d:=d.aS Y;refine ce d (fun _ _ d=>tP 10 0 0 (qZ (a*(((1:Int):Rat)/b)) (sB Q) (((po m).map fun i=>ga.getD i 0*(((1:Int):Rat)/b)+a*((po m).map fun i=>gb.getD i 0*(-((((1:Int):Rat)/b)*(((1:Int):Rat)/b)))).getD i 0).length) m) d (fun _ d=>tV 11 9 (iV 0) (tN (kX ?_))));obtain rfl:op=6:=by omega
     have x:cG 6 n a b=0:=(eu (fun _=>kO oM) (fun e=>absurd e kD) (fun e=>absurd e kD) (fun e=>absurd e kD));exact d.ret [(0,0,6)] (.tuple #[qY (a*(((1:Int):Rat)/b)) (sB Q) (((po m).map fun i=>ga.getD i 0*(((1:Int):Rat)/b)+a*((po m).map fun i=>gb.getD i 0*(-((((1:Int):Rat)/b)*(((1:Int):Rat)/b)))).getD i 0).length) m,iV 0]) (⟨a*(((1:Int):Rat)/b),((po m).map fun i=>ga.getD i 0*(((1:Int):Rat)/b)+a*((po m).map fun i=>gb.getD i 0*(-((((1:Int):Rat)/b)*(((1:Int):Rat)/b)))).getD i 0),_,_,by rw[x],d.f.1,fun _=>(Jt (kO oM))⟩)
    have zs:=eq_of_beq zj;refine lB 45 zj (au (ab d [.o (qY a j ga.length p) 2 0 6] (lP 0 0 (qZ a j ga.length p) d (fun _ d=>lL d ae (lN (kX ?_))))));obtain rfl:op=6:=by omega
    have x:cG 6 n a b=6:=(DZ (.inl ⟨rfl,EM oM⟩));exact d.ret [(0,0,6)] (.tuple #[qY a j ga.length p,iV 6]) (⟨a,ga,_,_,by rw[x],d.f.r.1,fun e=>absurd e (by rw[x];decide)⟩)
   have zm:=eq_of_beq zc;refine lB 32 zc (lL d ae (au (ab d [.v (pB O),.o (.iface 102 (.agg #[qS l m k])) 4 0 1,.o (qY a j ga.length p) 2 0 6,.o (qY b u gb.length y) 1 0 6] (lC 37 d (Dm l m k I (14*K+40) (D+40*K+100) oM oM oM a ga j p B (LQ.mono ha oM) (fun i=>LQ.mono (J i) oM) b gb u y F (LQ.mono H oM) (fun i=>LQ.mono (C i) oM) _ _ d.g d.f.r.1 d.f.2.1 d.f.1) ?_))));rintro _ _ _ d ⟨M,rfl,U⟩;replace d:=d.aS U;refine lP 0 0 (qZ (a*b) (sB M) (((po m).map fun i=>ga.getD i 0*b+a*gb.getD i 0).length) m) d (fun _ d=>lL d ae (lN (kX ?_)));obtain rfl:op=5:=by omega
   have x:cG 5 n a b=0:=(eu (fun e=>absurd e kD) (fun e=>absurd e kD) (fun e=>absurd e kD) (fun e=>absurd e kD));exact d.ret [(0,0,6)] (.tuple #[qY (a*b) (sB M) (((po m).map fun i=>ga.getD i 0*b+a*gb.getD i 0).length) m,iV 0]) (⟨a*b,((po m).map fun i=>ga.getD i 0*b+a*gb.getD i 0),_,_,by rw[x],d.f.1,fun _=>⟨rfl,Jb⟩⟩)
  have zl:=eq_of_beq zb;refine lB 21 zb (lL d ae (au (cQ (cR 9 [] mixed d ao ?_))));refine eV 0 22 (pB O) (eO 1 23 [(4,0,1)] (.iface 102 (.agg #[qS l m k])) d (eO 2 24 [(2,0,6)] (qY a j ga.length p) d (eO 3 25 [(4,0,3)] (.agg #[.iface 102 (.agg #[qS l m k]),.map (some bm),qF]) d (eO 4 26 [(1,0,6)] (qY b u gb.length y) d (eV 6 28 (.iface 102 (.agg #[qS l m k])) (eV 7 29 (.iface 102 (.agg #[qS l m k])) (eC 5 27 d (fun _ _ d=>pI l m k I (14*K+40) (D+40*K+100) oM oM oM bm false b gb u y F (LQ.mono H oM) (fun i=>LQ.mono (C i) oM) _ _ d.g d.f.2.1 d.f.1) ?_)))))));rintro _ _ _ _ _ d ⟨bf,rfl,bb⟩;replace d:=d.aS bb;refine eC 8 30 d (fun _ _ d=>F4 l m k I (14*K+40) (D+40*K+100) oM oM oM a ga j p B (LQ.mono ha oM) (fun i=>LQ.mono (J i) oM) (b*((-1:Int):Rat)) ((po m).map fun i=>gb.getD i 0*((-1:Int):Rat)) (sB bf) m (gJ _ _) (LQ.mono (H.mul (LQ.int (z:=-1) kD kD)) oM) (mn (fun i=>((C i).mul (LQ.int (z:=-1) kD kD)).mono oM) oM) _ _ d.g d.f.r.2.1 d.f.1 d.f.2.1) ?_;rintro _ _ _ _ _ d ⟨S,rfl,V⟩;replace d:=d.aS V;refine ce d (fun _ _ d=>tP 9 0 0 (qZ (a+(b*((-1:Int):Rat))) (sB S) (((po m).map fun i=>ga.getD i 0+((po m).map fun i=>gb.getD i 0*((-1:Int):Rat)).getD i 0).length) m) d (fun _ d=>tV 10 9 (iV 0) (tN (kX ?_))));obtain rfl:op=4:=by omega
  have x:cG 4 n a b=0:=(eu (fun e=>absurd e kD) (fun e=>absurd e kD) (fun e=>absurd e kD) (fun e=>absurd e kD));exact d.ret [(0,0,6)] (.tuple #[qY (a+(b*((-1:Int):Rat))) (sB S) (((po m).map fun i=>ga.getD i 0+((po m).map fun i=>gb.getD i 0*((-1:Int):Rat)).getD i 0).length) m,iV 0]) (⟨a+(b*((-1:Int):Rat)),((po m).map fun i=>ga.getD i 0+((po m).map fun i=>gb.getD i 0*((-1:Int):Rat)).getD i 0),_,_,by rw[x],d.f.1,fun _=>Jj⟩)
 have zk:=eq_of_beq za;refine lB 14 za (lL d ae (au (ab d [.v (pB O),.o (.iface 102 (.agg #[qS l m k])) 4 0 1,.o (qY a j ga.length p) 2 0 6,.o (qY b u gb.length y) 1 0 6] (lC 19 d (F4 l m k I (14*K+40) (D+40*K+100) oM oM oM a ga j p B (LQ.mono ha oM) (fun i=>LQ.mono (J i) oM) b gb u y F (LQ.mono H oM) (fun i=>LQ.mono (C i) oM) _ _ d.g d.f.r.1 d.f.2.1 d.f.1) ?_))));rintro _ _ _ d ⟨L,rfl,X⟩;replace d:=d.aS X;refine lP 0 0 (qZ (a+b) (sB L) (((po m).map fun i=>ga.getD i 0+gb.getD i 0).length) m) d (fun _ d=>lL d ae (lN (kX ?_)));obtain rfl:op=3:=by omega
 have x:cG 3 n a b=0:=(eu (fun e=>absurd e kD) (fun e=>absurd e kD) (fun e=>absurd e kD) (fun e=>absurd e kD));exact d.ret [(0,0,6)] (.tuple #[qY (a+b) (sB L) (((po m).map fun i=>ga.getD i 0+gb.getD i 0).length) m,iV 0]) (⟨a+b,((po m).map fun i=>ga.getD i 0+gb.getD i 0),_,_,by rw[x],d.f.1,fun _=>⟨rfl,I5⟩⟩)
theorem AR (n:Int):bD (n-1)<=2*bD n:=by
 unfold bD
 split<;>split<;>omega
theorem Fu {a:Rat}{K:Nat}(b:1<=K):LQ K ((a.num.sign:Int):Rat):=by
 have:=i7 a.num;exact (LQ.int oM oM).mono b
section
variable {op n:Int}{a b:Rat}{wa wb:Nat}
theorem BY (p:1<=wa)(f:LQ (3*wa-2) a)(d:LQ (3*wb+1) b)(o : -12<=n/\n<=12):LQ (12*(dk op n*(wa+wb))) (j9 op n a b):=by
  obtain ⟨M,hM⟩:∃ M,M=dk op n*(wa+wb):=⟨_,rfl⟩;have w1:=dC op n;have k:wa+wb<=dk op n*(wa+wb):=Kv _ w1;rw[<-hM] at k ⊢
  have h1:LQ 1 (((1:Int):Rat)):=LQ.lit (z:=1) kD;have h0:LQ (12*M) (0:Rat):=jd oM
  unfold j9
  split
  . exact h1.mono oM
  split
  . exact h1.mono oM
  split
  . exact d.mono oM
  split
  . exact (h1.div d).mono oM
  split
  . exact h1.neg.mono oM
  split
  . rename_i h
    split
    . exact h0
    . have e:dk op n=bD n:=by unfold dk;rw[if_neg oM,if_pos h]
      have i:=tF (n:=n-1) oM f;have l:LQ 1 (((n:Int):Rat)):=LQ.int oM oM;have j:=AR n
      have u:bD (n-1)*(3*wa-2+2)<=6*M:=by
        rw[show 3*wa-2+2=3*wa by omega,hM,e]
        calc bD (n-1)*(3*wa)<=2*bD n*(3*wa):=yX _ j
          _=6*(bD n*wa):=by rw[Ft,JH (bD n) 3 wa,<-Ft]
          _<=6*(bD n*(wa+wb)):=Jx _ (Jx _ (Lc _ _))
      exact (i.mul l).mono oM
  split
  . exact Fu oM
  split
  . have:=i7 a.num
    exact (LQ.int oM oM).mono oM
  split
  . have c:=h1.add f.abs
    exact ((h1.div c).mul (h1.div c)).mono oM
  split
  . split
    . exact h1.mono oM
    . exact h0
  split
  . split
    . exact h0
    . exact h1.mono oM
  . exact h0
theorem BF (f:1<=wa)(d:LQ (3*wa-2) a)(c:LQ (3*wb+1) b):LQ (12*(dk op n*(wa+wb))) (kL op a b):=by
 obtain ⟨M,hM⟩:∃ M,M=dk op n*(wa+wb):=⟨_,rfl⟩;have w1:=dC op n;have e:wa+wb<=dk op n*(wa+wb):=Kv _ w1;rw[<-hM] at e ⊢
 have h1:LQ 1 (((1:Int):Rat)):=LQ.lit (z:=1) kD;have h0:LQ (12*M) (0:Rat):=jd oM
 unfold kL
 split
 ·exact h1.mono oM
 split
 ·exact h1.neg.mono oM
 split
 ·exact d.mono oM
 split
 ·exact ((d.mul (h1.div c)).mul (h1.div c)).neg.mono oM
 split
 ·split
  ·exact h0
  ·exact h1.mono oM
 split
 ·split
  ·exact h1.mono oM
  ·exact h0
 ·exact h0
theorem E6 (h:1<=wa)(i:LQ (3*wa-2) a)(f:1<=wb->LQ (3*wb-2) b)(e:aK op=2->1<=wb)(d:3<=op/\op<=13)(hk:i8 op n a b):LQ (3*(dk op n*(wa+wb))-2) (jX op n 0 a b):=by
 have:=xt (op:=op) (n:=n) (q:=0) (a:=a) (b:=b) (e1:=0) (e2:=0) (wa:=wa) (wb:=wb) (c:=3) (ey 3) h i f e (jd kD) d;rw[x9 rfl rfl hk] at this
 unfold me at this
 rw[if_pos hk] at this
 exact this
theorem Cx (h:cG op n a b=0):i8 op n a b:=Decidable.byContradiction fun k=>by
 have:cG op n a b=6:=if_neg k
 omega
end
def DY (W d:Nat)(x:Int × Rat × List Rat):Prop:=LQ (3*W-2) x.2.1/\∀ i,LQ (40*(W*d)) (x.2.2.getD i 0)
theorem DE {m:Nat}{op n:Int}{wa wb d:Nat}{x y:Int × Rat × List Rat}(e:1<=wa)(b:DY wa d x)(c:1<=wb->DY wb d y)(a:aK op=2->1<=wb)(h1:aK op=1->wb=0/\y.2.1=0/\y.2.2=[])(z:3<=op/\op<=13)(C : -12<=n/\n<=12)(l:aK op=1\/aK op=2):DY (dk op n*(wa+wb)) (d+1) (rF m op n x y):=by
  have w1:=dC op n;have B:wa+wb<=dk op n*(wa+wb):=Kv _ w1
  have hz:DY (dk op n*(wa+wb)) (d+1) ((0:Int),(0:Rat),([]:List Rat)):=⟨jd oM,fun i=>by
    rw[gd];exact jd (by have:1<=dk op n*(wa+wb)*(d+1):=Nat.mul_pos oM (Kd d);omega)⟩
  by_cases c1:x.1=0
  . by_cases c2:y.1=0
    . by_cases c3:cG op n x.2.1 y.2.1=0
      . rw[kM c1 c2 c3]
        have o:LQ (3*wb+1) y.2.1:=by
          rcases l with h|h
          . obtain ⟨e1,e2,_⟩:=h1 h
            rw[e2];exact jd oM
          . exact (c (a h)).1.mono oM
        refine ⟨E6 e b.1 (fun h=>(c h).1) a z (Cx c3),fun i=>?_⟩;have D:=BY (op:=op) (n:=n) e b.1 o C;have u:=BF (op:=op) (n:=n) e b.1 o
        generalize hM:dk op n*(wa+wb)=M at *
        have p:LQ (40*(wb*d)+1) (y.2.2.getD i 0):=by
          by_cases h:1<=wb
          . exact ((c h).2 i).mono oM
          . rcases l with k|k
            . rw[(h1 k).2.2,gd];exact jd oM
            . exact absurd (a k) h
        have H:(wa+wb)*d<=M*d:=yX _ B;have I:(wa+wb)*d=wa*d+wb*d:=Nat.add_mul _ _ _;have F:M*(d+1)=M*d+M:=Nat.mul_succ _ _
        show LQ (40*(M*(d+1))) ((kb m op n x.2.1 y.2.1 x.2.2 y.2.2).getD i 0)
        unfold kb
        exact mn (K:=40*(M*(d+1))) (fun j=>by
          have f:=b.2 j
          have p:LQ (40*(wb*d)+1) (y.2.2.getD j 0):=by
            by_cases h:1<=wb
            . exact ((c h).2 j).mono oM
            . rcases l with k|k
              . rw[(h1 k).2.2,gd];exact jd oM
              . exact absurd (a k) h
          exact ((D.mul f).add (u.mul p)).mono oM) oM i
      . rw[kN c1 c2 c3];exact hz
    . rw[qL c1 c2];exact hz
  . rw[kP c1];exact hz
section
variable {ok:ByteArray->Prop}{ix:ByteArray->Nat}{at_:List Rat}
theorem CA (m i j:Nat):LQ 1 ((bh m i).getD j 0):=by
 unfold bh
 by_cases h:i<m
 ·rw[dL (by simpa using h)]
  split
  ·exact LQ.lit (z:=1) kD
  ·rw[iC];exact jd kD
 ·rw[List.set_eq_of_length_le (by simp;omega),iC];exact jd kD
theorem tG {d:Nat}{op n:Int}{q:Rat}{s:ByteArray}{a:Tm}(h1:op≠1)(b:op≠2):ay ix at_ (d+1) (.mk op n q s [a])=rF at_.length op n (ay ix at_ d a) (0,0,[]):=by
 show (if op=1 then _ else if op=2 then _ else _)=_
 rw[if_neg h1,if_neg b];rfl
theorem qp {d:Nat}{op n:Int}{q:Rat}{s:ByteArray}{a b:Tm}(h1:op≠1)(c:op≠2):ay ix at_ (d+1) (.mk op n q s [a,b])=rF at_.length op n (ay ix at_ d a) (ay ix at_ d b):=by
 show (if op=1 then _ else if op=2 then _ else _)=_
 rw[if_neg h1,if_neg c];rfl
theorem qE (c:∀ i,LQ 1 (at_.getD i 0)):∀ {d:Nat} {t:Tm},WfT1 ok d t->1<=dd d t/\DY (dd d t) d (ay ix at_ d t)
  | d + 1,.mk op n q s ks,⟨h1,h2,k,h4,h5,h6,f,b,h9⟩=>by
    have p:=aA op;replace h1:aK op=(ks.length:Nat):=h1;replace k:LQ 1 q:=k;replace f : -12<=n:=f;replace b:n<=12:=b
    rcases pY h1 with rfl|⟨t,rfl⟩|⟨t,u,rfl⟩
    . have e:dd (d+1) (.mk op n q s [])=1:=D2 rfl
      rw[e];refine ⟨ey _,?_⟩
      simp only[Li] at h1
      by_cases o1:op=1
      . have e2:ay ix at_ (d+1) (.mk op n q s [])=(0,q,y2 at_.length 0):=if_pos o1
        rw[e2];exact ⟨k,fun i=>by show LQ _ ((y2 _ _).getD i 0);rw[iC];exact jd oM⟩
      . have o:op=2:=by omega
        have e2:ay ix at_ (d+1) (.mk op n q s [])=(0,at_.getD (ix s) 0,bh at_.length (ix s)):=(if_neg o1).trans (if_pos o);rw[e2];exact ⟨c _,fun i=>(CA _ _ i).mono oM⟩
    . obtain ⟨i1,a⟩:=qE c (h9 0 (Kd _))
      replace i1:1<=dd d t:=i1;replace a:DY (dd d t) d (ay ix at_ d t):=a
      simp only[yt,Li] at h1
      have e:dd (d+1) (.mk op n q s [t])=dk op n*(dd d t+0):=by rw[oE (show [t].length≠0 from Lh _)];show _*(0+dd d t)=_;rw[yW,Nat.add_zero]
      have w1:=dC op n;rw[e,tG oM oM];exact ⟨e6 i1 (Kv _ w1),DE i1 a (fun h=>absurd h kD) oM (fun _=>⟨rfl,rfl,rfl⟩) oM ⟨f,b⟩ oM⟩
    . obtain ⟨i1,a⟩:=qE c (h9 0 (Kd _))
      obtain ⟨j,l⟩:=qE c (h9 1 (by show 1<2;decide));replace i1:1<=dd d t:=i1;replace a:DY (dd d t) d (ay ix at_ d t):=a;replace j:1<=dd d u:=j;replace l:DY (dd d u) d (ay ix at_ d u):=l
      simp only[yt,Li] at h1
      have e:dd (d+1) (.mk op n q s [t,u])=dk op n*(dd d t+dd d u):=by rw[oE (show [t,u].length≠0 from Lh _)];show _*(0+dd d t+dd d u)=_;rw[yW]
      have w1:=dC op n;rw[e,qp oM oM];exact ⟨e6 oM (Kv _ w1),DE i1 a (fun _=>l) (fun _=>j) oM oM ⟨f,b⟩ oM⟩
theorem Dk {m:Nat}{op n:Int}{x y:Int × Rat × List Rat}(h:(rF m op n x y).1=0):(rF m op n x y).2.2.length=m:=by
 by_cases c1:x.1=0
 ·by_cases c2:y.1=0
  ·by_cases c3:cG op n x.2.1 y.2.1=0
   ·rw[kM c1 c2 c3];exact duG_len
   ·rw[kN c1 c2 c3] at h;exact absurd h c3
  ·rw[qL c1 c2] at h;exact absurd h c2
 ·rw[kP c1] at h;exact absurd h c1
theorem jN:∀ {d:Nat} {t:Tm},WfT1 ok d t->(ay ix at_ d t).1=0->(ay ix at_ d t).2.2.length=at_.length
  | d + 1,t,_,h=>by
    by_cases o1:t.op=1
    . have e:ay ix at_ (d+1) t=(0,t.q,y2 at_.length 0):=if_pos o1
      rw[e];exact Lk
    . by_cases o2:t.op=2
      . have e:ay ix at_ (d+1) t=(0,at_.getD (ix t.s) 0,bh at_.length (ix t.s)):=(if_neg o1).trans (if_pos o2)
        rw[e];unfold bh;simp
      . have e:ay ix at_ (d+1) t=rF at_.length t.op t.n _ _:=(if_neg o1).trans (if_neg o2)
        rw[e] at h ⊢;exact Dk h
end
open Go.RowKit Go.WideMaps
theorem BZ {d t:Nat}{P:Program}(a:P.underlying t=some (.int .i64)){z:Int}(hz:(Lit.int .i64 z).wf=true):P.keyLits (d+1) t [.int .i64 z]=some [.int .i64 z]:=by
 unfold Program.keyLits;simp only[a];rw[if_pos ⟨trivial,hz⟩]
theorem Iq {d t:Nat}{P:Program}(b:P.underlying t=some .string){s:ByteArray}(a:s.size<=maxLen):P.keyLits (d+1) t [.string s]=some [.string s.data.toList]:=by
 unfold Program.keyLits;simp only[b];rw[if_pos a]
theorem Es {P:Program} {k i st:Nat} {f1 f2 f3 f4 f5:Field} (hu:P.underlying k=some (.struct #[f1,f2,f3,f4,f5])) (hi:P.underlying i=some (.int .i64)) (hst:P.underlying st=some .string) (hk:P.keyType k=true) (hc:P.cellsOf k=5)
    (h1 : f1.type = i /\ f1.offset = 0 /\ (f1.name != "_") = true) (h2 : f2.type = i /\ f2.offset = 1 /\ (f2.name != "_") = true) (h3 : f3.type = i /\ f3.offset = 2 /\ (f3.name != "_") = true) (h4 : f4.type = i /\ f4.offset = 3 /\ (f4.name != "_") = true) (h5 : f5.type = st /\ f5.offset = 4 /\ (f5.name != "_") = true) (ci : P.cellsOf i = 1) (cs : P.cellsOf st = 1) (hts : ∃ n, P.types.size = n + 1)
    {a b c d:Int} {s:ByteArray} (ha:(Lit.int .i64 a).wf=true) (hb:(Lit.int .i64 b).wf=true) (hc':(Lit.int .i64 c).wf=true) (hd:(Lit.int .i64 d).wf=true) (hs:s.size<=maxLen) :
    ∃ l,keyOf P k (.agg #[.int .i64 a,.int .i64 b,.int .i64 c,.int .i64 d,.string s])=some l:=by
  obtain ⟨m,hm⟩:=hts
  have hf:(Value.agg #[.int .i64 a,.int .i64 b,.int .i64 c,.int .i64 d,.string s]).formed P k=true:=by
    simp[Value.formed,hu,hc]
  have hl:P.keyLits (P.types.size+1) k [.int .i64 a,.int .i64 b,.int .i64 c,.int .i64 d,.string s]=some [.int .i64 a,.int .i64 b,.int .i64 c,.int .i64 d,.string s.data.toList]:=by
    rw[hm];have e1:=BZ (P:=P) (d:=m) hi ha;have e2:=BZ (P:=P) (d:=m) hi hb;have e3:=BZ (P:=P) (d:=m) hi hc';have e4:=BZ (P:=P) (d:=m) hi hd;have e5:=Iq (P:=P) (d:=m) hst hs
    conv=>lhs;unfold Program.keyLits
    simp only[hu]
    rw[if_pos ⟨by rw[hc];rfl,by simp[h1.2.2,h2.2.2,h3.2.2,h4.2.2,h5.2.2]⟩]
    simp[h1.1,h2.1,h3.1,h4.1,h5.1,h1.2.1,h2.2.1,h3.2.1,h4.2.1,h5.2.1,ci,cs,e1,e2,e3,e4,e5]
  refine ⟨.string (keyBytes [.int .i64 a,.int .i64 b,.int .i64 c,.int .i64 d,.string s.data.toList]),?_⟩
  unfold keyOf
  simp only[hu]
  rw[if_pos (by rw[hk,hf];rfl)]
  show Option.map _ (P.keyLits (P.types.size+1) k [.int .i64 a,.int .i64 b,.int .i64 c,.int .i64 d,.string s])=_
  rw[hl];rfl
structure MapI (P:Program) (kt:TypeId) (Q:Value->Prop) (w1:World) (h1:Hp) (b:Nat):Prop where
  jk:h1[b]?=some bc
  ex:∃ es clk,w1.heap[b]?=some (.map es clk)/\∀ e∈es.toList,(∃ l,keyOf P kt e.key=some l)/\Q e.val
section laws
variable {P:Program}{n:Nat}{N R:Po}{X:Nat->Po}{ops:Array Oper}{k:Nat}{Γ:cH}{w:World}{h:Hp}{w0 w1:World}{h0 h1:Hp}{B:List Bx}{Rs:List Rw}{F:List (Hp->Prop)}
theorem SS.from (s:SS w0 h0 w h B [] F):SS w h w h [] [] F:=⟨s.g,St.start s.g,fun _ a=>(by cases a),.nil,s.mo,s.f⟩
theorem SS.bare (s:SS w0 h0 w h B [] F):SS w0 h0 w h B [] []:=⟨s.g0,s.st,fun _ a=>(by cases a),.nil,fun _ a=>(by cases a),trivial⟩
theorem SS.backW {l:List Bx}(hz:SS w0 h0 w1 h1 l [] [])(s:SS w1 h1 w h B Rs F):SS w0 h0 w h (B++l) Rs F:=by
  have u:h0.size<=h1.size:=hz.st.up.gr.size;have i:∀ x∈l,x.b<h1.size:=fun x d=>aF (hz.st.jk x d)
  refine ⟨hz.g0,⟨hz.st.up.trans s.st.up,fun x d=>?_,fun x d=>?_,fun x d=>?_,?_⟩,fun r hr=>?_,s.ap,s.mo,s.f⟩
  . rcases g5.1 d with d|d
    . exact s.st.own x d
    . exact (s.st.up.ext.block x.b (by rw[s.g0.size];exact i x d)).trans (hz.st.own x d)
  . rcases g5.1 d with d|d
    . exact s.st.jk x d
    . exact (s.st.up.gr.blk x.b (i x d)).trans (hz.st.jk x d)
  . rcases g5.1 d with d|d
    . exact e6 u (s.st.lo x d)
    . exact hz.st.lo x d
  . rw[Lp]
    refine Lq.2 ⟨s.st.nd,hz.st.nd,fun a C b o e=>?_⟩;obtain ⟨x,d,rfl⟩:=g8.1 C;obtain ⟨y,p,rfl⟩:=g8.1 o;have:=s.st.lo x d;have:=i y p
    omega
  . have q:=s.ro r hr
    have o:∀ b,r.v.ownBlock=some b->h1.size<=b:=fun c k=>by
      rcases q.own with ⟨_,e2|⟨g,cap,cur,hv,j,_⟩⟩
      . rw[e2.1] at k;simp[Value.ownBlock] at k
      . rw[hv] at k
        simp[Value.ownBlock] at k
        omega
    refine ⟨?_,q.jk,fun b j=>?_⟩
    . rcases q.own with ⟨a1,e2|⟨g,cap,cur,hv,j,hg,hn,hm,hs,ht⟩⟩
      . exact ⟨a1,.inl e2⟩
      . exact ⟨a1,.inr ⟨g,cap,cur,hv,by omega,hg,hn,hm,hs,ht⟩⟩
    . rw[Lp,g5]
      rintro (z|z)
      . exact q.ap b j z
      . obtain ⟨y,p,e⟩:=g8.1 z
        have:=i y p;have:=o b j
        omega
theorem SS.base (s:SS w1 h1 w h B Rs F){b:Nat}{o:Obj}(p:h1[b]?=some bc)(D:b<w1.heap.size) :
  SS { w1 with heap:=w1.heap.setIfInBounds b o } h1 { w with heap:=w.heap.setIfInBounds b o } h B Rs F/\G { w1 with heap:=w1.heap.setIfInBounds b o } h1:=by
 have u:b<h1.size:=aF p;have i:h[b]?=some bc:=(s.st.up.gr.blk b u).trans p;have l:b<w.heap.size:=by rw[s.g.size];exact aF i
 have set:∀ (w:World) c,c≠b->({ w with heap:=w.heap.setIfInBounds b o }:World).heap[c]?=w.heap[c]?:=fun w c d=>by show (w.heap.setIfInBounds b o)[c]?=_;rw[oi (Ne.symm d)]
 have a:∀ (w:World),b<w.heap.size->({ w with heap:=w.heap.setIfInBounds b o }:World).heap[b]?=some o:=fun w C=>by show (w.heap.setIfInBounds b o)[b]?=_;rw[zF C]
 have y:∀ (w:World) (h:Hp),G w h->h[b]?=some bc->G { w with heap:=w.heap.setIfInBounds b o } h:=fun w h g j=>⟨by show (w.heap.setIfInBounds b o).size=_;rw[Lr];exact g.size,fun c=>by
  by_cases e:c=b
  ·subst e;exact .inr j
  ·rw[set w c e];exact g.blk c⟩
 have k:=y w1 h1 s.g0 p;refine ⟨⟨k,⟨⟨?_,s.st.up.gr,y w h s.g i⟩,fun x z=>?_,s.st.jk,s.st.lo,s.st.nd⟩,fun r hr=>?_,s.ap,s.mo,s.f⟩,k⟩
 ·have e:=s.st.up.ext
  refine ⟨e.os,e.tape,e.output,?_,fun c d=>?_⟩
  ·show (w1.heap.setIfInBounds b o).size<=(w.heap.setIfInBounds b o).size
   rw[Lr,Lr];exact e.size
  ·by_cases q:c=b
   ·subst q;rw[a w l,a w1 D]
   ·rw[set w c q,set w1 c q];exact e.block c (by have:c<(w1.heap.setIfInBounds b o).size:=d;rw[Lr] at this;exact this)
 ·have:x.b≠b:=fun e=>by have:=s.st.lo x z;omega
  exact (set w x.b this).trans (s.st.own x z)
 ·have q:=s.ro r hr
  refine ⟨eT q.own (fun c d=>set w c (fun e=>?_)),q.jk,q.ap⟩;subst e
  rcases q.own with ⟨_,e2|⟨g,cap,cur,hv,hb',_⟩⟩
  ·rw[e2.1] at d;simp[Value.ownBlock] at d
  ·rw[hv] at d
   simp[Value.ownBlock] at d
   omega
theorem Up.base {w1:World}{h1:Hp}(u:Up w0 h0 w1 h1)(a:G w0 h0){b:Nat}{o:Obj}(d:h0.size<=b)(h:G { w1 with heap:=w1.heap.setIfInBounds b o } h1):Up w0 h0 { w1 with heap:=w1.heap.setIfInBounds b o } h1 :=
 ⟨⟨u.ext.os,u.ext.tape,u.ext.output,by show _<=(w1.heap.setIfInBounds b o).size;rw[Lr];exact u.ext.size,fun c f=>by
  show (w1.heap.setIfInBounds b o)[c]?=_
  rw[oi (fun e=>by have:=a.size;omega)];exact u.ext.block c f⟩,u.gr,h⟩
end laws
theorem Ei (ok:ByteArray->Prop)(ix:ByteArray->Nat)(fs:List Rat)(b:Z9)(e:Nat)(B:fs.length<=1000)(i:Nat)(l:List MapEntry)(d:Nat)(n:Int)(q:Rat)(s:ByteArray)(A:Z9)(c:Nat)(j:List PTm)(ks:List Tm)(w:World)(h:Hp)(g:G w h)(z:SlO 9 dr bA h A j)(x:Sq b fs h)(hM:MapS h i l):CR 40 #[.agg #[.iface 102 (.agg #[.slice b fs.length e]),.map (some i),.bool false],dl ⟨1,n,q,s,A,j.length,c⟩] w h (fun v h1=>∃ (u:Z9)(c_:Nat),v=.tuple #[pF (ay ix fs (d+1) (.mk 1 n q s ks)).2.1 u (ay ix fs (d+1) (.mk 1 n q s ks)).2.2.length c_,iV (ay ix fs (d+1) (.mk 1 n q s ks)).1]/\Sq u (ay ix fs (d+1) (.mk 1 n q s ks)).2.2 h1):=by
 have a:=((((sS g).aS z).aS x).add (K:=fun D=>MapS D i l) hM);refine go Tryz.func40 [(0,.agg #[.iface 102 (.agg #[qS b fs.length e]),.map (some i),qF]),(1,dl ⟨1,n,q,s,A,j.length,c⟩)] rfl (aD (lA 2 106 ([.iface 102 (.agg #[qS b fs.length e]),.map (some i),qF]) a (fun y w2 L a=>lA 3 32 (dr ⟨1,n,q,s,A,j.length,c⟩) a (fun p H I a=>lA 4 61 ([qF,uV 0,eS,uV 0,eS,sZ]) a (fun J M F a=>lL a ae (a7 (lA 6 61 ([qF,uV 0,eS,uV 0,eS,sZ]) a (fun C _ _ a=>ag (ab a [.v (pB p),.o (iV 1) 2 0 1] (be (ab a [.v qT,.c] (au (ab a [.v (pB y),.o (.iface 102 (.agg #[qS b fs.length e])) 3 0 1,.v (qP p 2),.o (qv q) 2 2 5] (lC 19 a (jR b fs.length e B q _ _ a.g) ?_))))))))))))));rintro _ _ _ a ⟨bz,rfl,k⟩;replace a:=a.aS k;exact lP 1 0 (qZ q (sB bz) ((y2 fs.length (0:Rat)).length) fs.length) a (fun _ a=>lL a ae (af a [(1,0,6)] (.tuple #[qY q (sB bz) ((y2 fs.length (0:Rat)).length) fs.length,iV 0]) (⟨_,_,rfl,a.f.1⟩)))
theorem Gc (ok:ByteArray->Prop)(ix:ByteArray->Nat)(fs:List Rat)(b:Z9)(j:Nat)(H:fs.length<=1000)(e:Nat)(l:List MapEntry)(d:Nat)(n:Int)(q:Rat)(s:ByteArray)(A:Z9)(c:Nat)(k:List PTm)(ks:List Tm)(u:ix s<fs.length)(x:∃ i,Instr.findNow .string (.string s) l 0=some (some (i,nV (ix s))))(w:World)(h:Hp)(g:G w h)(F:SlO 9 dr bA h A k)(C:Sq b fs h)(hM:MapS h e l):CR 40 #[.agg #[.iface 102 (.agg #[.slice b fs.length j]),.map (some e),.bool false],dl ⟨2,n,q,s,A,k.length,c⟩] w h (fun v h1=>∃ (z:Z9)(c_:Nat),v=.tuple #[pF (ay ix fs (d+1) (.mk 2 n q s ks)).2.1 z (ay ix fs (d+1) (.mk 2 n q s ks)).2.2.length c_,iV (ay ix fs (d+1) (.mk 2 n q s ks)).1]/\Sq z (ay ix fs (d+1) (.mk 2 n q s ks)).2.2 h1):=by
 have a:=((((sS g).aS F).aS C).add (K:=fun L=>MapS L e l) hM);refine go Tryz.func40 [(0,.agg #[.iface 102 (.agg #[qS b fs.length j]),.map (some e),qF]),(1,dl ⟨2,n,q,s,A,k.length,c⟩)] rfl (aD (lA 2 106 ([.iface 102 (.agg #[qS b fs.length j]),.map (some e),qF]) a (fun B w2 U a=>lA 3 32 (dr ⟨2,n,q,s,A,k.length,c⟩) a (fun y O Q a=>lA 4 61 ([qF,uV 0,eS,uV 0,eS,sZ]) a (fun S V M a=>lL a ae (a7 (lA 6 61 ([qF,uV 0,eS,uV 0,eS,sZ]) a (fun I _ _ a=>ag (ab a [.v (pB y),.o (iV 2) 2 0 1] (be (ab a [.v qF,.c] (ai (ab a [.v qT,.c] (au (ab a [.v (pB B),.o (.iface 102 (.agg #[qS b fs.length j])) 3 0 1,.v (qP B 1),.o (.map (some e)) 3 1 1,.v (qP y 7),.o (.string s) 2 7 1] (Hw 28 76 9 3 (s) false (nV (ix s)) (true) a a.f.1 ?_ (hf:=(by obtain ⟨D,J⟩:=x;exact .inl ⟨D,J,rfl⟩))))))))))))))))));refine lC 29 a (FL b fs.length j H fs rfl (ix s) u _ _ a.g a.f.2.1) ?_;rintro _ _ _ a ⟨bz,rfl,p⟩;replace a:=a.aS p;exact lP 1 0 (qZ (fs.getD (ix s) 0) (sB bz) ((bh fs.length (ix s)).length) fs.length) a (fun _ a=>lL a ae (af a [(1,0,6)] (.tuple #[qY (fs.getD (ix s) 0) (sB bz) ((bh fs.length (ix s)).length) fs.length,iV 0]) (⟨_,_,rfl,a.f.1⟩)))
theorem ES  (ok:ByteArray->Prop)(ix:ByteArray->Nat)(fs:List Rat)(j:Z9)(k:Nat)(hm:fs.length<=1000)(e:Nat)(I:List MapEntry)(d:Nat)(ih:∀ (p:PTm) (t:Tm) (w:World) (h:Hp),G w h->TmH d h p t->WfT1 ok d t->dd d t<=1000->Sq j fs h->MapS h e I->Tab h->Calls Tryz.prog 40 #[.agg #[.iface 102 (.agg #[.slice j fs.length k]),.map (some e),.bool false],dl p] w (Ret w h (fun v h1=>∃ (C:Z9)(c_:Nat),v=.tuple #[pF (ay ix fs d t).2.1 C (ay ix fs d t).2.2.length c_,iV (ay ix fs d t).1]/\Sq C (ay ix fs d t).2.2 h1)))(op n:Int)(q:Rat)(s:ByteArray)(A:Z9)(c:Nat)(l:PTm)(b:Tm)(B:WfT1 ok d b)(L:dd d b<=1000)(U:LQ 3000 (ay ix fs d b).2.1)(M:∀ i,LQ 1000000 ((ay ix fs d b).2.2.getD i 0))(hop:3<=op/\op<=13)(har:aK op=1)(hn : -12<=n/\n<=12)(w:World)(h:Hp)(g:G w h)(hK:SlO 9 dr bA h A ([l]:List PTm))(Z:TmH d h l b)(hF:Sq j fs h)(hM:MapS h e I)(tb:Tab h):CR 40 #[.agg #[.iface 102 (.agg #[.slice j fs.length k]),.map (some e),.bool false],dl ⟨op,n,q,s,A,1,c⟩] w h (fun v h1=>∃ (C:Z9)(c_:Nat),v=.tuple #[pF (ay ix fs (d+1) (.mk op n q s ([b]:List Tm))).2.1 C (ay ix fs (d+1) (.mk op n q s ([b]:List Tm))).2.2.length c_,iV (ay ix fs (d+1) (.mk op n q s ([b]:List Tm))).1]/\Sq C (ay ix fs (d+1) (.mk op n q s ([b]:List Tm))).2.2 h1):=by
 have a:=((((((sS g).aS hK).add (K:=fun x=>TmH d x l b) Z).aS hF).add (K:=fun x=>MapS x e I) hM).add (K:=fun x=>Tab x) tb);have hln:([l]:List PTm).length=1:=rfl;have hac:=aA op;refine go Tryz.func40 [(0,.agg #[.iface 102 (.agg #[qS j fs.length k]),.map (some e),qF]),(1,dl ⟨op,n,q,s,A,1,c⟩)] rfl (aD (lA 2 106 ([.iface 102 (.agg #[qS j fs.length k]),.map (some e),qF]) a (fun b1 w2 h3 a=>lA 3 32 (dr ⟨op,n,q,s,A,1,c⟩) a (fun S w5 h6 a=>lA 4 61 ([qF,uV 0,eS,uV 0,eS,sZ]) a (fun b7 w8 h9 a=>lL a ae (a7 (lA 6 61 ([qF,uV 0,eS,uV 0,eS,sZ]) a (fun b10 _ _ a=>ag (ab a [.v (pB S),.o (iV op) 2 0 1] (be (aD ?_)))))))))));have zc:((op:Int) == (1:Int))=false:=fl oM;have J:=ah zc;refine lB 14 zc (lL a ae (ai (aD ?_)));have zd:((op:Int) == (2:Int))=false:=fl oM;have O:=ah zd;refine lB 21 zd (lL a ae (ai (cK (cQ ?_))));have V:=a;refine cR 10 [⟨9,7,.cells (Ky [qF,uV 0,eS,uV 0,eS,sZ]) 61 (0,0)⟩] mixed a (aZ (dB kR (fun _ _=>by kernel_rfl)) ao) (eO 0 31 [(3,0,3)] (.agg #[.iface 102 (.agg #[qS j fs.length k]),.map (some e),qF]) a (eV 1 32 (qP S 8) (eO 2 33 [(2,8,1)] (qS A 1 c) a (eX 3 34 A 1 c 9 0 0 ((a.f.q.1).ok oM) (eH 4 35 (dl (([l]:List PTm).getD 0 bA)) a ((a.f.q.1).el 0 oM) (eC 5 36 a (fun _ _ a=>ih (([l]:List PTm).getD 0 bA) b _ _ a.g a.f.r.2.1 B L a.f.r.1 a.f.2.1 a.f.1) ?_))))));rintro _ _ _ _ _ a ⟨D,z,rfl,Q⟩;replace a:=a.aS Q;refine eV 6 30 (.tuple #[qY ((ay ix fs d b).2.1) D (((ay ix fs d b).2.2).length) z,iV ((ay ix fs d b).1)]) (eV 7 37 (qY ((ay ix fs d b).2.1) D (((ay ix fs d b).2.2).length) z) (eV 8 38 (iV ((ay ix fs d b).1)) (eU [] V a 61 [qF,uV 0,eS,uV 0,eS,sZ] (fun _ _ zg a=>tP 10 0 0 (qZ ((ay ix fs d b).2.1) D (((ay ix fs d b).2.2).length) z) a (fun _ a=>tV 11 8 (iV ((ay ix fs d b).1)) (tN (cQ (ab a ae ?_))))))));cases za:(((ay ix fs d b).1:Int) != (0:Int))
 .
  have ze:=aJ za;refine lB 40 za (ai (cK (cQ (ab a [.v (qP S 8),.o (qS A 1 c) 3 8 1,.v (iV 1),.v qT] (au (kQ (lL a [.o (.agg #[.iface 102 (.agg #[qS j fs.length k]),.map (some e),qF]) 4 0 3,.o (dl ⟨op,n,q,s,A,1,c⟩) 3 0 9,.o (qY ((ay ix fs d b).2.1) D (((ay ix fs d b).2.2).length) z) 0 0 6] (lC 51 a (CE j fs.length k hm 3000 1000000 kD kD kD e op n q s A 1 c (ay ix fs d b).2.1 (ay ix fs d b).2.2 D z (jN B oM) U M oM (fun _=>hn) _ _ a.g a.f.1 a.f.2.1) ?_))))))));rintro _ _ _ a ⟨F,Gr,H,u,rfl,Y,X⟩;replace a:=a.aS Y;refine lL a [.c,.v (qY F H Gr.length u),.v (iV (cG op n (ay ix fs d b).2.1 0))] (lP 0 0 (qZ F H Gr.length u) a (fun _ a=>lL a ae (ag (ab a ae ?_))));cases zb:(((cG op n (ay ix fs d b).2.1 0):Int) != (0:Int))
  .
   have zf:=aJ zb;exact lB 76 zb (ai (cK (ab a [.o (qY F H Gr.length u) 0 0 6] (lP 2 0 (qZ F H Gr.length u) a (fun _ a=>lL a ae (af a [(2,0,6)] (.tuple #[qY F H Gr.length u,iV 0]) (by obtain ⟨W,y⟩:=X oM;rw[tG oM oM,kM oM rfl oM,W,y];exact ⟨_,_,rfl,by rw[<-y];exact a.f.1⟩)))))))
  have zf:=aU zb;refine lB 76 zb (au (ab a [.o (.agg #[qF,uV 0,eS,uV 0,eS,sZ]) 1 0 6,.c] (lP 2 0 ([qF,uV 0,eS,uV 0,eS,sZ]) a (fun _ a=>lL a ae (lN (bU [(4,pB b7),(5,iV (cG op n (ay ix fs d b).2.1 0)),(7,pB zg)] ?_))))));exact kX (a.ret [(2,0,6)] (.tuple #[.agg #[qF,uV 0,eS,uV 0,eS,sZ],iV (cG op n (ay ix fs d b).2.1 0)]) (by rw[tG oM oM,kN oM rfl oM];exact ⟨none,0,rfl,SlO.nil⟩))
 have ze:=aU za;exact lB 40 za (au (ab a [.o (.agg #[qF,uV 0,eS,uV 0,eS,sZ]) 1 0 6,.c] (lP 2 0 ([qF,uV 0,eS,uV 0,eS,sZ]) a (fun _ a=>lL a ae (af a [(2,0,6)] (.tuple #[.agg #[qF,uV 0,eS,uV 0,eS,sZ],iV ((ay ix fs d b).1)]) (by rw[tG oM oM,kP oM];exact ⟨none,0,rfl,SlO.nil⟩))))))
theorem Eo  (ok:ByteArray->Prop)(ix:ByteArray->Nat)(fs:List Rat)(k:Z9)(x:Nat)(hm:fs.length<=1000)(j:Nat)(X:List MapEntry)(d:Nat)(ih:∀ (p:PTm) (t:Tm) (w:World) (h:Hp),G w h->TmH d h p t->WfT1 ok d t->dd d t<=1000->Sq k fs h->MapS h j X->Tab h->Calls Tryz.prog 40 #[.agg #[.iface 102 (.agg #[.slice k fs.length x]),.map (some j),.bool false],dl p] w (Ret w h (fun v h1=>∃ (I:Z9)(c_:Nat),v=.tuple #[pF (ay ix fs d t).2.1 I (ay ix fs d t).2.2.length c_,iV (ay ix fs d t).1]/\Sq I (ay ix fs d t).2.2 h1)))(op n:Int)(q:Rat)(s:ByteArray)(A:Z9)(c:Nat)(l:PTm)(e:Tm)(H:WfT1 ok d e)(Z:dd d e<=1000)(hv1:LQ 3000 (ay ix fs d e).2.1)(hG1:∀ i,LQ 1000000 ((ay ix fs d e).2.2.getD i 0))(u:PTm)(b:Tm)(C:WfT1 ok d b)(hg2:dd d b<=1000)(hv2:LQ 3000 (ay ix fs d b).2.1)(V:∀ i,LQ 1000000 ((ay ix fs d b).2.2.getD i 0))(hop:3<=op/\op<=13)(har:aK op=2)(hn : -12<=n/\n<=12)(w:World)(h:Hp)(g:G w h)(hK:SlO 9 dr bA h A ([l,u]:List PTm))(hp1:TmH d h l e)(hp2:TmH d h u b)(hF:Sq k fs h)(hM:MapS h j X)(tb:Tab h):CR 40 #[.agg #[.iface 102 (.agg #[.slice k fs.length x]),.map (some j),.bool false],dl ⟨op,n,q,s,A,2,c⟩] w h (fun v h1=>∃ (I:Z9)(c_:Nat),v=.tuple #[pF (ay ix fs (d+1) (.mk op n q s ([e,b]:List Tm))).2.1 I (ay ix fs (d+1) (.mk op n q s ([e,b]:List Tm))).2.2.length c_,iV (ay ix fs (d+1) (.mk op n q s ([e,b]:List Tm))).1]/\Sq I (ay ix fs (d+1) (.mk op n q s ([e,b]:List Tm))).2.2 h1):=by
 have a:=(((((((sS g).aS hK).add (K:=fun z=>TmH d z l e) hp1).add (K:=fun z=>TmH d z u b) hp2).aS hF).add (K:=fun z=>MapS z j X) hM).add (K:=fun z=>Tab z) tb);have hln:([l,u]:List PTm).length=2:=rfl;have hac:=aA op;refine go Tryz.func40 [(0,.agg #[.iface 102 (.agg #[qS k fs.length x]),.map (some j),qF]),(1,dl ⟨op,n,q,s,A,2,c⟩)] rfl (aD (lA 2 106 ([.iface 102 (.agg #[qS k fs.length x]),.map (some j),qF]) a (fun b1 w2 h3 a=>lA 3 32 (dr ⟨op,n,q,s,A,2,c⟩) a (fun M w5 h6 a=>lA 4 61 ([qF,uV 0,eS,uV 0,eS,sZ]) a (fun b7 w8 h9 a=>lL a ae (a7 (lA 6 61 ([qF,uV 0,eS,uV 0,eS,sZ]) a (fun zj _ _ a=>ag (ab a [.v (pB M),.o (iV op) 2 0 1] (be (aD ?_)))))))))));have zd:((op:Int) == (1:Int))=false:=fl oM;have Y:=ah zd;refine lB 14 zd (lL a ae (ai (aD ?_)));have ze:((op:Int) == (2:Int))=false:=fl oM;have bb:=ah ze;refine lB 21 ze (lL a ae (ai (cK (cQ ?_))));have y:=a;refine cR 10 [⟨9,7,.cells (Ky [qF,uV 0,eS,uV 0,eS,sZ]) 61 (0,0)⟩] mixed a (aZ (dB kR (fun _ _=>by kernel_rfl)) ao) (eO 0 31 [(3,0,3)] (.agg #[.iface 102 (.agg #[qS k fs.length x]),.map (some j),qF]) a (eV 1 32 (qP M 8) (eO 2 33 [(2,8,1)] (qS A 2 c) a (eX 3 34 A 2 c 9 0 0 ((a.f.q.2.1).ok oM) (eH 4 35 (dl (([l,u]:List PTm).getD 0 bA)) a ((a.f.q.2.1).el 0 oM) (eC 5 36 a (fun _ _ a=>ih (([l,u]:List PTm).getD 0 bA) e _ _ a.g a.f.q.1 H Z a.f.r.1 a.f.2.1 a.f.1) ?_))))));rintro _ _ _ _ _ a ⟨Q,B,rfl,hS1⟩;replace a:=a.aS hS1;refine eV 6 30 (.tuple #[qY ((ay ix fs d e).2.1) Q (((ay ix fs d e).2.2).length) B,iV ((ay ix fs d e).1)]) (eV 7 37 (qY ((ay ix fs d e).2.1) Q (((ay ix fs d e).2.2).length) B) (eV 8 38 (iV ((ay ix fs d e).1)) (eU [] y a 61 [qF,uV 0,eS,uV 0,eS,sZ] (fun _ _ zk a=>tP 10 0 0 (qZ ((ay ix fs d e).2.1) Q (((ay ix fs d e).2.2).length) B) a (fun _ a=>tV 11 8 (iV ((ay ix fs d e).1)) (tN (cQ (ab a ae ?_))))))));cases za:(((ay ix fs d e).1:Int) != (0:Int))
 .
  have zf:=aJ za;refine lB 40 za (ai (cK (cQ (ab a [.v (qP M 8),.o (qS A 2 c) 3 8 1,.v (iV 2),.v qF] (ai (cQ ?_))))));have y:=a;refine cR 10 [⟨9,9,.cells (Ky [qF,uV 0,eS,uV 0,eS,sZ]) 61 (0,0)⟩] mixed a (aZ (dB kR (fun _ _=>by kernel_rfl)) ao) (eO 0 55 [(4,0,3)] (.agg #[.iface 102 (.agg #[qS k fs.length x]),.map (some j),qF]) a (eV 1 56 (qP M 8) (eO 2 57 [(3,8,1)] (qS A 2 c) a (eX 3 58 A 2 c 9 1 1 ((a.f.q.r.1).ok oM) (eH 4 59 (dl (([l,u]:List PTm).getD 1 bA)) a ((a.f.q.r.1).el 1 oM) (eC 5 60 a (fun _ _ a=>ih (([l,u]:List PTm).getD 1 bA) b _ _ a.g a.f.q.1 C hg2 a.f.r.2.1 a.f.r.1 a.f.2.1) ?_))))));rintro _ _ _ _ _ a ⟨D,F,rfl,hS2⟩;replace a:=a.aS hS2;refine eV 6 54 (.tuple #[qY ((ay ix fs d b).2.1) D (((ay ix fs d b).2.2).length) F,iV ((ay ix fs d b).1)]) (eV 7 61 (qY ((ay ix fs d b).2.1) D (((ay ix fs d b).2.2).length) F) (eV 8 62 (iV ((ay ix fs d b).1)) (eU [] y a 61 [qF,uV 0,eS,uV 0,eS,sZ] (fun _ _ zl a=>tP 10 0 0 (qZ ((ay ix fs d b).2.1) D (((ay ix fs d b).2.2).length) F) a (fun _ a=>tV 11 10 (iV ((ay ix fs d b).1)) (tN (bU [(2,pB b1),(3,pB M),(4,pB b7),(5,iV 0),(6,pB zj),(7,pB zk),(8,iV ((ay ix fs d e).1)),(9,pB zl),(10,iV ((ay ix fs d b).1))] ?_)))))));refine cQ (ab a ae ?_);cases zb:(((ay ix fs d b).1:Int) != (0:Int))
  .
   have zg:=aJ zb;refine lB 64 zb (ai (cK (kQ (lL a [.o (.agg #[.iface 102 (.agg #[qS k fs.length x]),.map (some j),qF]) 5 0 3,.o (dl ⟨op,n,q,s,A,2,c⟩) 4 0 9,.o (qY ((ay ix fs d e).2.1) Q (((ay ix fs d e).2.2).length) B) 1 0 6,.o (qY ((ay ix fs d b).2.1) D (((ay ix fs d b).2.2).length) F) 0 0 6] (lC 72 a (BM k fs.length x hm 3000 1000000 kD kD kD j op n q s A 2 c (ay ix fs d e).2.1 (ay ix fs d e).2.2 Q B (jN H oM) hv1 hG1 (ay ix fs d b).2.1 (ay ix fs d b).2.2 D F (jN C oM) hv2 V oM _ _ a.g a.f.2.1 a.f.1 a.f.r.1) ?_)))));rintro _ _ _ a ⟨J,Gr,S,L,rfl,hSr,W⟩;replace a:=a.aS hSr;refine lL a [.c,.v (qY J S Gr.length L),.v (iV (cG op n (ay ix fs d e).2.1 (ay ix fs d b).2.1))] (lP 1 0 (qZ J S Gr.length L) a (fun _ a=>lL a ae (ag (ab a ae ?_))));cases U:(((cG op n (ay ix fs d e).2.1 (ay ix fs d b).2.1):Int) != (0:Int))
   .
    have zi:=aJ U;exact lB 76 U (ai (cK (ab a [.o (qY J S Gr.length L) 1 0 6] (lP 3 0 (qZ J S Gr.length L) a (fun _ a=>lL a ae (af a [(3,0,6)] (.tuple #[qY J S Gr.length L,iV 0]) (by obtain ⟨e1_,O⟩:=W oM;rw[qp oM oM,kM oM oM oM,e1_,O];exact ⟨_,_,rfl,by rw[<-O];exact a.f.1⟩)))))))
   have zi:=aU U;exact lB 76 U (au (ab a [.o (.agg #[qF,uV 0,eS,uV 0,eS,sZ]) 2 0 6,.c] (lP 3 0 ([qF,uV 0,eS,uV 0,eS,sZ]) a (fun _ a=>lL a ae (af a [(3,0,6)] (.tuple #[.agg #[qF,uV 0,eS,uV 0,eS,sZ],iV (cG op n (ay ix fs d e).2.1 (ay ix fs d b).2.1)]) (by rw[qp oM oM,kN oM oM oM];exact ⟨none,0,rfl,SlO.nil⟩))))))
  have zg:=aU zb;exact lB 64 zb (au (ab a [.o (.agg #[qF,uV 0,eS,uV 0,eS,sZ]) 2 0 6,.c] (lP 3 0 ([qF,uV 0,eS,uV 0,eS,sZ]) a (fun _ a=>lL a ae (af a [(3,0,6)] (.tuple #[.agg #[qF,uV 0,eS,uV 0,eS,sZ],iV ((ay ix fs d b).1)]) (by rw[qp oM oM,qL oM oM];exact ⟨none,0,rfl,SlO.nil⟩))))))
 have zf:=aU za;exact lB 40 za (au (ab a [.o (.agg #[qF,uV 0,eS,uV 0,eS,sZ]) 1 0 6,.c] (lP 2 0 ([qF,uV 0,eS,uV 0,eS,sZ]) a (fun _ a=>lL a ae (af a [(2,0,6)] (.tuple #[.agg #[qF,uV 0,eS,uV 0,eS,sZ],iV ((ay ix fs d e).1)]) (by rw[qp oM oM,kP oM];exact ⟨none,0,rfl,SlO.nil⟩))))))
theorem DA (ok:ByteArray->Prop)(ix:ByteArray->Nat)(fs:List Rat)(e:Z9)(l:Nat)(y:fs.length<=1000)(k:Nat)(b:List MapEntry)(J:∀ i,LQ 1 (fs.getD i 0))(j:∀ s,ok s->ix s<fs.length/\∃ i,Instr.findNow .string (.string s) b 0=some (some (i,nV (ix s)))):∀ (d:Nat) (p:PTm) (t:Tm) (w:World) (h:Hp),d<=24->G w h->TmH d h p t->WfT1 ok d t->dd d t<=1000->Sq e fs h->MapS h k b->Tab h->Calls Tryz.prog 40 #[.agg #[.iface 102 (.agg #[.slice e fs.length l]),.map (some k),.bool false],dl p] w (Ret w h (fun v h1=>∃ (I:Z9)(c_:Nat),v=.tuple #[pF (ay ix fs d t).2.1 I (ay ix fs d t).2.2.length c_,iV (ay ix fs d t).1]/\Sq I (ay ix fs d t).2.2 h1))
  | 0,_,_,_,_,_,_,x,_,_,_,_,_=>x.elim
  | d + 1,p,t,w,h,hd,g,x,wf,hw,hF,hM,tb=>by
    obtain ⟨op,n,q,s,A,c,z,ks,rfl,rfl,X,B,a⟩:=x.open;obtain ⟨w1,w2,w3,K,W,Y,C,D,u⟩:=wf;replace w1:aK op=(ks.length:Nat):=w1;replace C : -12<=n:=C;replace D:n<=12:=D;replace u:∀ i,i<ks.length->WfT1 ok d (ks.getD i aG):=u;have S:=aA op;have L:=fun p t w h=>DA ok ix fs e l y k b J j d p t w h oM
    have o:∀ t,WfT1 ok d t->dd d t<=1000->LQ 3000 (ay ix fs d t).2.1/\∀ i,LQ 1000000 ((ay ix fs d t).2.2.getD i 0):=fun t O U=>by
      obtain ⟨_,M,Q⟩:=qE (ix:=ix) J O;exact ⟨M.mono oM,fun i=>(Q i).mono (by have:=J1 U (show d<=24 by omega);omega)⟩
    rcases pY w1 with rfl|⟨t1,rfl⟩|⟨t1,t2,rfl⟩
    . simp only[Li] at w1
      by_cases o1:op=1
      . subst o1;exact Ei ok ix fs e l y k b d n q s A c z [] w h g B hF hM
      . obtain rfl:op=2:=by omega
        exact Gc ok ix fs e l y k b d n q s A c z [] (j s (K rfl)).1 (j s (K rfl)).2 w h g B hF hM
    . obtain ⟨F,rfl⟩:=List.length_eq_one_iff.1 (show z.length=1 from a.len)
      simp only[yt,Li] at w1
      have f1:WfT1 ok d t1:=u 0 (Kd _);have f:dd d t1<=1000:=wg hw;exact ES ok ix fs e l y k b d L op n q s A c F t1 f1 f (o t1 f1 f).1 (o t1 f1 f).2 oM oM ⟨C,D⟩ w h g B (a.at_ 0 (Kd _)) hF hM tb
    . obtain ⟨F,V,rfl⟩:=BH (show z.length=2 from a.len)
      simp only[yt,Li] at w1
      have f1:WfT1 ok d t1:=u 0 (Kd _);have f2:WfT1 ok d t2:=u 1 (by show 1<2;decide);obtain ⟨f,H⟩:=wy hw;exact Eo ok ix fs e l y k b d L op n q s A c F t1 f1 f (o t1 f1 f).1 (o t1 f1 f).2 V t2 f2 H (o t2 f2 H).1 (o t2 f2 H).2 oM oM ⟨C,D⟩ w h g B (a.at_ 0 (Kd _)) (a.at_ 1 (by show 1<2;decide)) hF hM tb
def tr (nm:Int->ByteArray)(l:List Stp)(i:Nat):Tm:=pi nm l (l.length+1) i
structure DpS (dp:Nat->Nat) (l:List Stp):Prop where
  one:∀ k,k<l.length->1<=dp k
  le:∀ k,k<l.length->dp k<=20
  a:∀ k,k<l.length->0<aK (l.getD k aa).op->dp (l.getD k aa).a.toNat<dp k
  b:∀ k,k<l.length->1<aK (l.getD k aa).op->dp (l.getD k aa).b.toNat<dp k
def bu:Nat->Tm->Nat
  | 0,_=>0
  | d+1,t=>1+cw (fun i=>bu d (t.ks.getD i aG)) t.ks.length
def gj (f:List Stp->Tm->List Stp)(ks:List Tm)(l:List Stp):Nat->List Stp × Int × Int
  | 0=>(l,0,0)
  | k+1=>(f (gj f ks l k).1 (ks.getD k aG),if k=0 then (((f (gj f ks l k).1 (ks.getD k aG)).length:Nat):Int)-1 else (gj f ks l k).2.1,if k=0 then (gj f ks l k).2.2 else (((f (gj f ks l k).1 (ks.getD k aG)).length:Nat):Int)-1)
def az (pl:ByteArray->Int):Nat->List Stp->Tm->List Stp
  | 0,l,_=>l
  | d+1,l,t=>(gj (az pl d) t.ks l t.ks.length).1++[⟨t.op,(gj (az pl d) t.ks l t.ks.length).2.1,(gj (az pl d) t.ks l t.ks.length).2.2,if t.op=2 then pl t.s else t.n,t.q⟩]
def ir:Nat->Tm->ByteArray->Prop
  | 0,_,_=>False
  | d+1,t,s=>(t.op=2/\s=t.s)\/∃ i,i<t.ks.length/\ir d (t.ks.getD i aG) s
def HasK (d:Nat)(ks:List Tm)(k:Nat)(s:ByteArray):Prop:=∃ i,i<k/\ir d (ks.getD i aG) s
theorem HasK.zero {d:Nat}{ks:List Tm}{s:ByteArray}:¬HasK d ks 0 s:=fun ⟨i,h,_⟩=>absurd h (K6 i)
theorem HasK.succ {d:Nat}{ks:List Tm}{k:Nat}{s:ByteArray}:HasK d ks (k+1) s↔HasK d ks k s\/ir d (ks.getD k aG) s:=by
 constructor
 ·rintro ⟨i,hi,h⟩
  by_cases e:i=k
  ·subst e;exact .inr h
  ·exact .inl ⟨i,by omega,h⟩
 ·rintro (⟨i,hi,h⟩|h)
  ·exact ⟨i,by omega,h⟩
  ·exact ⟨k,by omega,h⟩
theorem WfT1.names {ok p:ByteArray->Prop}:∀ {d:Nat} {t:Tm},WfT1 ok d t->(∀ s,ir d t s->p s)->WfT1 (fun s=>ok s/\p s) d t
 | d+1,t,⟨h1,h2,h3,h4,h5,h6,h7,h8,h9⟩,h=>⟨h1,h2,h3,fun e=>⟨h4 e,h _ (.inl ⟨e,rfl⟩)⟩,h5,h6,h7,h8,fun i hi=>WfT1.names (h9 i hi) (fun s a=>h s (.inr ⟨i,hi,a⟩))⟩
theorem ng {ok:ByteArray->Prop}:∀ {d:Nat} {t:Tm} {s:ByteArray},WfT1 ok d t->ir d t s->ok s
 | d+1,t,s,w,.inl ⟨h1,h2⟩=>by rw[h2];exact w.2.2.2.1 h1
 | d+1,t,s,w,.inr ⟨i,hi,h⟩=>ng (w.2.2.2.2.2.2.2.2 i hi) h
theorem WfT1.imp {ok p:ByteArray->Prop}(f:∀ s,ok s->p s):∀ {d:Nat} {t:Tm},WfT1 ok d t->WfT1 p d t
 | d+1,t,⟨h1,h2,h3,h4,h5,h6,h7,h8,h9⟩=>⟨h1,h2,h3,fun e=>f _ (h4 e),h5,h6,h7,h8,fun i hi=>WfT1.imp f (h9 i hi)⟩
theorem WfT1.two {ok:ByteArray->Prop}{d:Nat}{t:Tm}(h:WfT1 ok (d+1) t):t.ks.length<=2:=by
 have:=h.1;have:=aA t.op
 omega
theorem lr {f:Nat->Nat}{b:Nat}:∀ n,(∀ i,i<n->f i<=b)->cw f n<=n*b
  | 0,_=>by simp[cw]
  | n+1,h=>by
    have h1:=lr n (fun i hi=>h i oM);have a:=h n (Nat.lt_succ_self n)
    show cw f n+f n<=_
    rw[Nat.succ_mul];omega
theorem jp {ok:ByteArray->Prop}:∀ {d:Nat} {t:Tm},WfT1 ok d t->bu d t+1<=2^d
  | d+1,t,w=>by
    have a:=w.two;have c:=lr (f:=fun i=>bu d (t.ks.getD i aG)) (b:=2^d-1) t.ks.length (fun i hi=>by have:=jp (w.2.2.2.2.2.2.2.2 i hi);show bu d _<=_;omega);have h:0<2^d:=H1 d;have e:t.ks.length*(2^d-1)<=2*(2^d-1):=yX _ a
    show 1+cw _ _+1<=2^(d+1)
    rw[B2];omega
theorem gk {nm:Int->ByteArray}{l m:List Stp}{inp:Int}(a:∀ k,k<l.length->Formed inp k (l.getD k aa)):∀ (f i:Nat),i<l.length->pi nm (l++m) f i=pi nm l f i
  | 0,i,_=>rfl
  | f + 1,i,hi=>by
    have e:(l++m).getD i aa=l.getD i aa:=by rw[A4,List.getElem?_append_left hi,<-A4]
    obtain ⟨c,d,_,_⟩:=(a i hi).opr
    unfold pi
    rw[e]
    split
    . rfl
    . split
      . rw[gk a f _ (by have:=c oM;omega)]
      . split
        . rw[gk a f _ (by have:=c oM;omega),gk a f (l.getD i aa).b.toNat (by have:=d oM;omega)]
        . rfl
theorem lz {d:Nat->Nat}{l:List Stp}{s:Stp}{e:Nat}(h:DpS d l)(e1:1<=e)(e2:e<=20)(j:0<aK s.op->s.a.toNat<l.length/\d s.a.toNat<e)(i:1<aK s.op->s.b.toNat<l.length/\d s.b.toNat<e)(f:∀ k,k<l.length->(0<aK (l.getD k aa).op->(l.getD k aa).a.toNat<k)/\(1<aK (l.getD k aa).op->(l.getD k aa).b.toNat<k)):DpS (fun k=>if k<l.length then d k else e) (l++[s]):=by
 have o:(l++[s]).length=l.length+1:=by simp
 refine ⟨fun k hk=>?_,fun k hk=>?_,fun k hk h1=>?_,fun k hk h1=>?_⟩
 ·show 1<=if k<l.length then d k else e
  split
  ·rename_i c;exact h.one k c
  ·exact e1
 ·show (if k<l.length then d k else e)<=20
  split
  ·rename_i c;exact h.le k c
  ·exact e2
 ·rw[bj] at h1 ⊢
  by_cases c:k<l.length
  ·rw[if_pos c] at h1 ⊢
   have:=(f k c).1 h1
   show (if _<l.length then d _ else e)<if k<l.length then d k else e
   rw[if_pos c,if_pos oM];exact h.a k c h1
  ·obtain rfl:k=l.length:=by omega
   rw[if_neg c,if_pos rfl] at h1 ⊢
   show (if _<l.length then d _ else e)<if l.length<l.length then d _ else e
   rw[if_neg c,if_pos (j h1).1];exact (j h1).2
 ·rw[bj] at h1 ⊢
  by_cases c:k<l.length
  ·rw[if_pos c] at h1 ⊢
   have:=(f k c).2 h1
   show (if _<l.length then d _ else e)<if k<l.length then d k else e
   rw[if_pos c,if_pos oM];exact h.b k c h1
  ·obtain rfl:k=l.length:=by omega
   rw[if_neg c,if_pos rfl] at h1 ⊢
   show (if _<l.length then d _ else e)<if l.length<l.length then d _ else e
   rw[if_neg c,if_pos (i h1).1];exact (i h1).2
theorem kA {inp:Int}{l:List Stp}(c:∀ k,k<l.length->Formed inp k (l.getD k aa)):∀ k,k<l.length->(0<aK (l.getD k aa).op->(l.getD k aa).a.toNat<k)/\(1<aK (l.getD k aa).op->(l.getD k aa).b.toNat<k):=fun k hk=>⟨(c k hk).opr.1,(c k hk).opr.2.1⟩
theorem mX {l:List Stp}{s:Stp}(h:∀ i,LQ 1 (l.getD i aa).q)(a:LQ 1 s.q):∀ i,LQ 1 ((l++[s]).getD i aa).q:=fun i=>by
 rw[bj]
 by_cases c:i<l.length
 ·rw[if_pos c];exact h i
 ·rw[if_neg c]
  by_cases e:i=l.length
  ·rw[if_pos e];exact a
  ·rw[if_neg e];exact jd kD
structure RecOk (nm:Int->ByteArray) (inp:Int) (d:Nat) (l:List Stp) (l2:List Stp) (n:Nat) (t:Tm):Prop where
  lq:(∀ i,LQ 1 (l.getD i aa).q)->∀ i,LQ 1 (l2.getD i aa).q
  dps:∀ dp,DpS dp l->∃ dp',DpS dp' l2/\(∀ k,k<l.length->dp' k=dp k)/\dp' (l2.length-1)<=d
  pre:∃ m,l2=l++m
  len:l2.length=l.length+n
  pos:0<n
  fm:∀ k,k<l2.length->Formed inp k (l2.getD k aa)
  tr:∀ f,l2.length<=f->pi nm l2 f (l2.length-1)=t
def AN (nm:Int->ByteArray)(pl:ByteArray->Int)(inp:Int)(s:ByteArray):Prop:=nm (pl s)=s/\0<=pl s/\pl s<inp
theorem pg {t:Tm}{op n:Int}{q:Rat}{s:ByteArray}{ks:List Tm}(h1:t.op=op)(c:t.n=n)(d:t.q=q)(b:t.s=s)(a:t.ks=ks):Tm.mk op n q s ks=t:=by
 cases t;subst h1 c d b a;rfl
theorem Ay {α:Type}{l:List α}{d:α}(h:l.length=1):l=[l.getD 0 d]:=by
 match l,h with
 | [a],_=>rfl
theorem xC {α:Type}{l:List α}{d:α}(h:l.length=2):l=[l.getD 0 d,l.getD 1 d]:=by
 match l,h with
 | [a,b],_=>rfl
theorem iD {inp:Int}{l:List Stp}{s:Stp}(b:∀ k,k<l.length->Formed inp k (l.getD k aa))(a:Formed inp l.length s):∀ k,k<(l++[s]).length->Formed inp k ((l++[s]).getD k aa):=fun k hk=>by
 rw[yR,K8] at hk
 rw[bj]
 by_cases e:k<l.length
 ·rw[if_pos e];exact b k e
 ·obtain rfl:k=l.length:=by omega
  rw[if_neg e,if_pos rfl];exact a
theorem gX {l:List Stp}{s:Stp}:(l++[s]).getD l.length aa=s:=by rw[bj,if_neg (Nat.lt_irrefl _),if_pos rfl]
theorem mY {ok:ByteArray->Prop}{nm:Int->ByteArray}{pl:ByteArray->Int}{inp:Int}(j:∀ s,ok s->AN nm pl inp s):∀ (d:Nat) (t:Tm) (l:List Stp),d<=20->WfT1 ok d t->(∀ k,k<l.length->Formed inp k (l.getD k aa))->RecOk nm inp d l (az pl d l t) (bu d t) t
  | d + 1,t,l,hd,w,hF=>by
    obtain ⟨w1,w2,w3,S,J,C,w7,Z,L⟩:=w;have hc:=aA t.op;have M:t.op≠1->t.q.num=0:=fun h=>by rw[w2 h];rfl
    rcases (show t.ks.length=0\/t.ks.length=1\/t.ks.length=2 by omega) with h0|h1|h2
    . have e:az pl (d+1) l t=l++[⟨t.op,0,0,if t.op=2 then pl t.s else t.n,t.q⟩]:=by unfold az;rw[h0];rfl
      have a0:aK t.op=0:=by rw[w1,h0];rfl
      have hf:Formed inp l.length ⟨t.op,0,0,if t.op=2 then pl t.s else t.n,t.q⟩:=by
        refine ⟨by show 0<=aK t.op;omega,⟨fun h=>absurd (show 0<aK t.op from h) oM,fun _=>rfl⟩,⟨fun h=>absurd (show 1<aK t.op from h) oM,fun _=>rfl⟩,M,fun h=>?_,fun h=>?_,fun h _=>?_⟩
        . show 0<=(if t.op=2 then pl t.s else t.n)/\(if t.op=2 then pl t.s else t.n)<inp
          rw[if_pos h];exact (j _ (S h)).2
        . exact absurd (show t.op=8 from h) oM
        . show (if t.op=2 then pl t.s else t.n)=0
          rw[if_neg h];exact C oM
      have F:bu (d+1) t=1:=by unfold bu;rw[h0];rfl
      rw[e,F];refine ⟨fun p=>mX p w3,fun D B=>⟨_,lz (e:=d+1) B oM oM (fun h=>absurd (show 0<aK t.op from h) oM) (fun h=>absurd (show 1<aK t.op from h) oM) (kA hF),fun k hk=>if_pos hk,by simp⟩,⟨_,rfl⟩,by simp,by omega,iD hF hf,fun f b=>?_⟩;obtain ⟨g,rfl⟩:∃ g,f=g+1:=⟨f-1,by simp at b;omega⟩;rw[show (l++[(⟨t.op,0,0,if t.op=2 then pl t.s else t.n,t.q⟩:Stp)]).length-1=l.length by simp]
      unfold pi
      rw[gX];have H:t.ks=[]:=yU h0
      by_cases e2:t.op=2
      . rw[if_pos e2]
        exact pg e2 (C oM) (w2 oM) (by rw[if_pos e2];exact (j _ (S e2)).1.symm) H
      . rw[if_neg e2,if_neg (show ¬aK t.op=1 by omega),if_neg (show ¬aK t.op=2 by omega)]
        exact pg rfl (C oM) rfl (J e2) H
    . have a:=mY j d (t.ks.getD 0 aG) l oM (L 0 oM) hF
      have e:az pl (d+1) l t=az pl d l (t.ks.getD 0 aG)++[⟨t.op,(((az pl d l (t.ks.getD 0 aG)).length:Nat):Int)-1,0,if t.op=2 then pl t.s else t.n,t.q⟩]:=by
        conv=>lhs;unfold az
        rw[h1];rfl
      have a1:aK t.op=1:=by rw[w1,h1];rfl
      have p:=a.len;have B:=a.pos
      generalize az pl d l (t.ks.getD 0 aG)=m at a e p
      have hf:Formed inp m.length ⟨t.op,((m.length:Nat):Int)-1,0,if t.op=2 then pl t.s else t.n,t.q⟩:=by
        refine ⟨by show 0<=aK t.op;omega,⟨fun _=>?_,fun h=>absurd (show 0<aK t.op by omega) h⟩,⟨fun h=>absurd (show 1<aK t.op from h) oM,fun _=>rfl⟩,M,fun h=>absurd (show t.op=2 from h) oM,fun h=>?_,fun h I=>?_⟩
        . show 0<=((m.length:Nat):Int)-1/\((m.length:Nat):Int)-1<(m.length:Nat)
          omega
        . show -12<=(if t.op=2 then pl t.s else t.n)/\(if t.op=2 then pl t.s else t.n)<=12
          rw[if_neg oM];exact ⟨w7,Z⟩
        . show (if t.op=2 then pl t.s else t.n)=0
          rw[if_neg h];exact C I
      have F:bu (d+1) t=1+(0+bu d (t.ks.getD 0 aG)):=by
        conv=>lhs;unfold bu
        rw[h1];rfl
      rw[e,F];obtain ⟨c,rfl⟩:=a.pre;refine ⟨fun p=>mX (a.lq p) w3,fun D B=>?_,⟨c++[_],by rw[Ls]⟩,by rw[yR,p];simp;omega,by omega,iD a.fm hf,fun f b=>?_⟩
      . obtain ⟨o,Q,K,Y⟩:=a.dps D B
        refine ⟨_,lz (e:=d+1) Q oM oM (fun _=>⟨by show ((((l++c).length:Nat):Int)-1).toNat<_;omega,by show o ((((l++c).length:Nat):Int)-1).toNat<_;rw[show ((((l++c).length:Nat):Int)-1).toNat=(l++c).length-1 by omega];omega⟩) (fun h=>absurd (show 1<aK t.op from h) oM) (kA a.fm),fun k hk=>?_,by simp⟩
        show (if k<(l++c).length then o k else d+1)=D k
        rw[if_pos oM];exact K k hk
      obtain ⟨g,rfl⟩:∃ g,f=g+1:=⟨f-1,by simp at b;omega⟩
      generalize l++c=m at a e p hf b ⊢
      rw[show (m++[(⟨t.op,((m.length:Nat):Int)-1,0,if t.op=2 then pl t.s else t.n,t.q⟩:Stp)]).length-1=m.length by simp];rw[yR,K8] at b
      conv=>lhs;unfold pi
      rw[gX]
      show (if t.op=2 then _ else if aK t.op=1 then Tm.mk t.op (if t.op=2 then pl t.s else t.n) 0 ⟨#[]⟩ [pi nm _ g (((m.length:Nat):Int)-1).toNat] else _)=t
      rw[if_neg oM,if_pos a1,if_neg oM,show (((m.length:Nat):Int)-1).toNat=m.length-1 by omega,gk a.fm _ _ oM,a.tr g oM];exact pg rfl rfl (w2 oM) (J oM) (Ay h1)
    . have a:=mY j d (t.ks.getD 0 aG) l oM (L 0 oM) hF
      have i:=mY j d (t.ks.getD 1 aG) (az pl d l (t.ks.getD 0 aG)) oM (L 1 oM) a.fm
      have e:az pl (d+1) l t=az pl d (az pl d l (t.ks.getD 0 aG)) (t.ks.getD 1 aG)++[⟨t.op,(((az pl d l (t.ks.getD 0 aG)).length:Nat):Int)-1,(((az pl d (az pl d l (t.ks.getD 0 aG)) (t.ks.getD 1 aG)).length:Nat):Int)-1,if t.op=2 then pl t.s else t.n,t.q⟩]:=by
        conv=>lhs;unfold az
        rw[h2];rfl
      have X:aK t.op=2:=by rw[w1,h2];rfl
      have x:=a.len;have hp1:=a.pos;have u:=i.len;have V:=i.pos
      have F:bu (d+1) t=1+(0+bu d (t.ks.getD 0 aG)+bu d (t.ks.getD 1 aG)):=by
        conv=>lhs;unfold bu
        rw[h2];rfl
      rw[e,F]
      generalize az pl d (az pl d l (t.ks.getD 0 aG)) (t.ks.getD 1 aG)=z at i e u ⊢
      generalize az pl d l (t.ks.getD 0 aG)=m at a i e x u ⊢
      have hf:Formed inp z.length ⟨t.op,((m.length:Nat):Int)-1,((z.length:Nat):Int)-1,if t.op=2 then pl t.s else t.n,t.q⟩:=by
        refine ⟨by show 0<=aK t.op;omega,⟨fun _=>?_,fun h=>absurd (show 0<aK t.op by omega) h⟩,⟨fun _=>?_,fun h=>absurd (show 1<aK t.op by omega) h⟩,M,fun h=>absurd (show t.op=2 from h) oM,fun h=>absurd (show t.op=8 from h) oM,fun h I=>?_⟩
        . show 0<=((m.length:Nat):Int)-1/\((m.length:Nat):Int)-1<(z.length:Nat)
          omega
        . show 0<=((z.length:Nat):Int)-1/\((z.length:Nat):Int)-1<(z.length:Nat)
          omega
        . show (if t.op=2 then pl t.s else t.n)=0
          rw[if_neg h];exact C I
      obtain ⟨c,rfl⟩:=a.pre;obtain ⟨pz,hz⟩:=i.pre;refine ⟨fun p=>mX (i.lq (a.lq p)) w3,fun D B=>?_,⟨c++(pz++[_]),by rw[hz,Ls,Ls]⟩,by rw[yR,u,x];simp;omega,by omega,iD i.fm hf,fun f b=>?_⟩
      . obtain ⟨o,Q,K,Y⟩:=a.dps D B
        obtain ⟨y,W,U,p3⟩:=i.dps o Q;have e1:((((l++c).length:Nat):Int)-1).toNat=(l++c).length-1:=by omega
        have e2:(((z.length:Nat):Int)-1).toNat=z.length-1:=by omega
        refine ⟨_,lz (e:=d+1) W oM oM (fun _=>⟨by show ((((l++c).length:Nat):Int)-1).toNat<_;omega,by show y ((((l++c).length:Nat):Int)-1).toNat<_;rw[e1,U _ oM];omega⟩) (fun _=>⟨by show (((z.length:Nat):Int)-1).toNat<_;omega,by show y (((z.length:Nat):Int)-1).toNat<_;rw[e2];omega⟩) (kA i.fm),fun k hk=>?_,by simp⟩
        show (if k<z.length then y k else d+1)=D k
        rw[if_pos oM,U k oM];exact K k hk
      obtain ⟨g,rfl⟩:∃ g,f=g+1:=⟨f-1,by simp at b;omega⟩
      generalize l++c=m at a i e x u hf b hz ⊢
      rw[show (z++[(⟨t.op,((m.length:Nat):Int)-1,((z.length:Nat):Int)-1,if t.op=2 then pl t.s else t.n,t.q⟩:Stp)]).length-1=z.length by simp];rw[yR,K8] at b
      conv=>lhs;unfold pi
      rw[gX]
      show (if t.op=2 then _ else if aK t.op=1 then _ else if aK t.op=2 then Tm.mk t.op 0 0 ⟨#[]⟩ [pi nm _ g (((m.length:Nat):Int)-1).toNat,pi nm _ g (((z.length:Nat):Int)-1).toNat] else _)=t
      have O:pi nm z g (m.length-1)=t.ks.getD 0 aG:=by rw[hz,gk a.fm _ _ oM,a.tr g oM]
      rw[if_neg oM,if_neg oM,if_pos X,show (((m.length:Nat):Int)-1).toNat=m.length-1 by omega,show (((z.length:Nat):Int)-1).toNat=z.length-1 by omega,gk i.fm _ _ oM,gk i.fm _ _ oM,i.tr g oM,O];exact pg rfl (C oM) (w2 oM) (J oM) (xC h2)
def it (pl:ByteArray->Int)(d:Nat)(ts:List Tm):Nat->List Stp
  | 0=>[]
  | k+1=>az pl d (it pl d ts k) (ts.getD k aG)
def jA (pl:ByteArray->Int)(d:Nat)(ts:List Tm):Nat->List Int
  | 0=>[]
  | k+1=>jA pl d ts k++[(((it pl d ts (k+1)).length:Nat):Int)-1]
theorem mJ {pl:ByteArray->Int}{d:Nat}{ts:List Tm}:∀ k,(jA pl d ts k).length=k
 | 0=>rfl
 | k+1=>by unfold jA;rw[yR,mJ k];rfl
structure AllOk (nm:Int->ByteArray) (inp:Int) (d:Nat) (ts:List Tm) (k:Nat) (l:List Stp) (os:List Int) (c:Nat):Prop where
  len:l.length=c
  fm:∀ k,k<l.length->Formed inp k (l.getD k aa)
  lq:∀ i,LQ 1 (l.getD i aa).q
  dps:∃ dp,DpS dp l
  out:∀ j,j<k->0<=os.getD j 0/\os.getD j 0<(l.length:Nat)/\pi nm l (l.length+1) (os.getD j 0).toNat=ts.getD j aG
theorem x6 {ok:ByteArray->Prop}{nm:Int->ByteArray}{pl:ByteArray->Int}{inp:Int}(b:∀ s,ok s->AN nm pl inp s){d:Nat}(hd:d<=20){ts:List Tm}:∀ k,k<=ts.length->(∀ i,i<k->WfT1 ok d (ts.getD i aG))->AllOk nm inp d ts k (it pl d ts k) (jA pl d ts k) (cw (fun i=>bu d (ts.getD i aG)) k)
  | 0,_,_=>⟨rfl,fun k hk=>absurd hk (K6 k),fun i=>by show LQ 1 (([]:List Stp).getD i aa).q;rw[List.getD_nil];exact jd kD,⟨fun _=>1,⟨fun k hk=>absurd hk (K6 k),fun k hk=>absurd hk (K6 k),fun k hk=>absurd hk (K6 k),fun k hk=>absurd hk (K6 k)⟩⟩,fun j l=>absurd l (K6 j)⟩
  | k + 1,hk,hw=>by
    have a:=x6 b hd k oM (fun i hi=>hw i oM);have r:=mY b d (ts.getD k aG) (it pl d ts k) hd (hw k oM) a.fm;obtain ⟨x,h⟩:=a.dps;obtain ⟨f,h1,_,_⟩:=r.dps x h;have e:it pl d ts (k+1)=az pl d (it pl d ts k) (ts.getD k aG):=rfl;have ol:=mJ (pl:=pl) (d:=d) (ts:=ts) k;rw[e] at *
    have o:=r.len;have z:=r.pos;refine ⟨by rw[o,a.len];rfl,r.fm,r.lq a.lq,⟨f,h1⟩,fun j l=>?_⟩
    show 0<=(jA pl d ts k++[(((az pl d (it pl d ts k) (ts.getD k aG)).length:Nat):Int)-1]).getD j 0/\_
    rw[show (jA pl d ts (k+1)).getD j 0=(jA pl d ts k++[(((az pl d (it pl d ts k) (ts.getD k aG)).length:Nat):Int)-1]).getD j 0 from rfl];rw[bj,ol]
    by_cases c:j<k
    . rw[if_pos c]
      obtain ⟨y,B,p⟩:=a.out j c;obtain ⟨m,u⟩:=r.pre;refine ⟨y,by omega,?_⟩;rw[u,gk a.fm _ _ oM,jH a.fm _ (it pl d ts k).length.succ _ (by rw[yR];omega) oM oM];exact p
    . obtain rfl:j=k:=by omega
      rw[if_neg c,if_pos rfl];refine ⟨by omega,by omega,?_⟩;rw[show ((((az pl d (it pl d ts j) (ts.getD j aG)).length:Nat):Int)-1).toNat=(az pl d (it pl d ts j) (ts.getD j aG)).length-1 by omega];exact r.tr _ oM
def Bc (s:ByteArray):Prop:=s=⟨#[120]⟩\/s=⟨#[121]⟩\/s=⟨#[122]⟩
theorem FZ:∀ {k:Nat},k<3->Bc (eb.getD k ⟨#[]⟩)
 | 0,_=>.inl rfl
 | 1,_=>.inr (.inl rfl)
 | 2,_=>.inr (.inr rfl)
def Iy:Nat->Tm->Prop
  | 0,_=>True
  | d+1,t=>-11<=t.n/\∀ i,i<t.ks.length->Iy d (t.ks.getD i aG)
def Io:Nat->Tm->Prop
  | 0,_=>True
  | d+1,t=>(ac t.q.num<100/\t.q.den<100)/\∀ i,i<t.ks.length->Io d (t.ks.getD i aG)
def GrT (d:Nat)(t:Tm):Prop:=WfT1 Bc d t/\3*dd d t<=3^d/\Iy d t/\Io d t
theorem xS:ac (0:Rat).num<100/\(0:Rat).den<100:=by decide
theorem GrT.num {d:Nat}{q:Rat}(h:LQ 1 q)(a:ac q.num<100/\q.den<100):GrT (d+1) (.mk 1 0 q ⟨#[]⟩ []) :=
 ⟨⟨rfl,fun h=>absurd rfl h,h,fun h=>absurd (show (1:Int)=2 from h) kD,fun _=>rfl,fun _=>rfl,by show (-12:Int)<=0;decide,by show (0:Int)<=12;decide,fun i hi=>absurd hi (K6 i)⟩,by
  have:=H1 d;have:0<3^d:=Nat.pow_pos kD
  show 3*1<=3^(d+1)
  rw[B2];omega,⟨by show (-11:Int)<=0;decide,fun i hi=>absurd hi (K6 i)⟩,a,fun i hi=>absurd hi (K6 i)⟩
theorem GrT.name {d:Nat}{s:ByteArray}(h:Bc s):GrT (d+1) (.mk 2 0 0 s []) :=
 ⟨⟨rfl,fun _=>rfl,jd kD,fun _=>h,fun h=>absurd rfl h,fun _=>rfl,by show (-12:Int)<=0;decide,by show (0:Int)<=12;decide,fun i hi=>absurd hi (K6 i)⟩,by
  have:0<3^d:=Nat.pow_pos kD
  show 3*1<=3^(d+1)
  rw[B2];omega,⟨by show (-11:Int)<=0;decide,fun i hi=>absurd hi (K6 i)⟩,xS,fun i hi=>absurd hi (K6 i)⟩
theorem GrT.one {d:Nat}{op n:Int}{t:Tm}(x:GrT d t)(a:aK op=1)(b:op≠8->n=0)(h1 : -3<=n)(c:n<=3):GrT (d+1) (.mk op n 0 ⟨#[]⟩ [t]):=by
 refine ⟨⟨a,fun _=>rfl,jd kD,fun h=>?_,fun _=>rfl,b,by show (-12:Int)<=n;omega,by show n<=12;omega,fun i hi=>?_⟩,?_,⟨by show -11<=n;omega,fun i hi=>by
  have:i=0:=by have:i<1:=hi;omega
  subst this;exact x.2.2.1⟩,xS,fun i hi=>by
  have:i=0:=by have:i<1:=hi;omega
  subst this;exact x.2.2.2⟩
 ·have h:op=2:=h
  rw[h] at a;exact absurd a kD
 ·have:i=0:=by have:i<1:=hi;omega
  subst this;exact x.1
 ·show 3*((if op=11 then 2 else if op=8 then bD n else 1)*(0+dd d t))<=3^(d+1)
  have hf:(if op=11 then 2 else if op=8 then bD n else 1)<=3:=by
   unfold bD
   repeat' split
   all_goals omega
  have:=J1 hf x.2.1;rw[B2,yW,JH,Az (3^d)];exact this
theorem GrT.two {d:Nat}{op:Int}{t u:Tm}(x:GrT d t)(y:GrT d u)(a:aK op=2):GrT (d+1) (.mk op 0 0 ⟨#[]⟩ [t,u]):=by
 have c:op≠8:=fun h=>by rw[h] at a;exact absurd a kD
 have b:op≠11:=fun h=>by rw[h] at a;exact absurd a kD
 refine ⟨⟨a,fun _=>rfl,jd kD,fun h=>?_,fun _=>rfl,fun _=>rfl,by show (-12:Int)<=0;decide,by show (0:Int)<=12;decide,fun i hi=>?_⟩,?_,⟨by show (-11:Int)<=0;decide,fun i hi=>by
  have:i=0\/i=1:=by have:i<2:=hi;omega
  rcases this with rfl|rfl
  ·exact x.2.2.1
  ·exact y.2.2.1⟩,xS,fun i hi=>by
  have:i=0\/i=1:=by have:i<2:=hi;omega
  rcases this with rfl|rfl
  ·exact x.2.2.2
  ·exact y.2.2.2⟩
 ·have h:op=2:=h
  rw[h] at a;exact absurd a kD
 ·have:i=0\/i=1:=by have:i<2:=hi;omega
  rcases this with rfl|rfl
  ·exact x.1
  ·exact y.1
 ·show 3*((if op=11 then 2 else if op=8 then bD 0 else 1)*(0+dd d t+dd d u))<=3^(d+1)
  rw[if_neg b,if_neg c,B2];have:=x.2.1;have:=y.2.1
  omega
section
variable {d:Nat}{h:Hp}
theorem s8:RZ h (false,.slice none 0 0,.slice none 0 0) 0:=⟨false,⟨none,0,none,0,rfl,ey _,ey _,SlO.nil,SlO.nil⟩,fun _=>rfl⟩
theorem EB {b:Bool}{e k:Z9}{c a f j:Nat}{q:Rat}(hz:RZ h (b,.slice e c a,.slice k f j) q):RmH (d+1) h ⟨1,0,b,e,c,a,k,f,j,⟨#[]⟩,none,0,0⟩ (.mk 1 0 q ⟨#[]⟩ []) :=
 ⟨rfl,rfl,hz,rfl,rfl,ey _,[],rfl,SlO.nil,fun i hi=>absurd hi (K6 i)⟩
theorem BQ {s:ByteArray}:RmH (d+1) h ⟨2,0,false,none,0,0,none,0,0,s,none,0,0⟩ (.mk 2 0 0 s []) :=
 ⟨rfl,rfl,s8,rfl,rfl,ey _,[],rfl,SlO.nil,fun i hi=>absurd hi (K6 i)⟩
theorem wu {op n:Int}{p:RTm}{t:Tm}{b:Nat}(x:RmH d h p t)(a:SlO 7 d4 iA h (some ⟨b,0,none⟩) [p]):RmH (d+1) h ⟨op,n,false,none,0,0,none,0,0,⟨#[]⟩,some ⟨b,0,none⟩,1,1⟩ (.mk op n 0 ⟨#[]⟩ [t]) :=
 ⟨rfl,rfl,s8,rfl,rfl,ey _,[p],rfl,a,fun i hi=>by
  have:i=0:=by have:i<1:=hi;omega
  subst this;exact x⟩
theorem Ez {op:Int}{p q:RTm}{t u:Tm}{b:Nat}(x:RmH d h p t)(y:RmH d h q u)(a:SlO 7 d4 iA h (some ⟨b,0,none⟩) [p,q]):RmH (d+1) h ⟨op,0,false,none,0,0,none,0,0,⟨#[]⟩,some ⟨b,0,none⟩,2,2⟩ (.mk op 0 0 ⟨#[]⟩ [t,u]) :=
 ⟨rfl,rfl,s8,rfl,rfl,ey _,[p,q],rfl,a,fun i hi=>by
  have:i=0\/i=1:=by have:i<2:=hi;omega
  rcases this with rfl|rfl
  ·exact x
  ·exact y⟩
end
def oh (s:ByteArray):Prop:=s.size<=1000
theorem CY {s:ByteArray}(h:Bc s):oh s:=by
 rcases h with rfl|rfl|rfl<;>(unfold oh;decide)
theorem Ic:oh ⟨#[]⟩:=by unfold oh;decide
theorem r6 {d:Nat}{t:Tm}(w:WfT1 Bc d t):SmT1 oh d t:=w.sm (sm:=oh) (fun _ h=>CY h) Ic
instance (s:ByteArray) (ns:List ByteArray):Decidable (s∈ns):=@List.instDecidableMemOfLawfulBEq ByteArray instBEqOfDecidableEq inferInstance s ns
def bE:List ByteArray->ByteArray->Nat
  | [],_=>0
  | x::l,s=>if x=s then 0 else bE l s+1
theorem ug:∀ {l:List ByteArray} {s:ByteArray} {j:Nat},(∀ i,i<j->¬l.getD i ⟨#[]⟩=s)->j<l.length->l.getD j ⟨#[]⟩=s->bE l s=j
  | [],_,_,_,hj,_=>absurd hj (K6 _)
  | x::l,s,0,_,_,h=>if_pos h
  | x::l,s,j+1,h,hj,e=>by
    have h0:¬x=s:=h 0 (Kd _);have:=ug (l:=l) (s:=s) (j:=j) (fun i hi=>h (i+1) (Lt hi)) (Nat.lt_of_succ_lt_succ hj) e
    show (if x=s then 0 else bE l s+1)=j+1
    rw[if_neg h0,this]
theorem lc:∀ {l:List ByteArray} {s:ByteArray},s∈l->bE l s<l.length/\l.getD (bE l s) ⟨#[]⟩=s
  | [],_,h=>absurd h List.not_mem_nil
  | x :: l,s,h=>by
    unfold bE
    by_cases e:x=s
    . rw[if_pos e];exact ⟨Kd _,e⟩
    . rw[if_neg e]
      rcases hP.1 h with h1|h1
      . exact absurd h1.symm e
      . have:=lc h1
        exact ⟨Lt this.1,this.2⟩
def rO (ns:List ByteArray)(s:ByteArray):Int:=if s∈ns then (bE ns s:Nat) else 0
theorem pb {a:List ByteArray}{s:ByteArray}(h:s∈a):rO a s=(bE a s:Nat):=if_pos h
def ru:List ByteArray->Nat->List MapEntry
  | [],_=>[]
  | x::l,i=>⟨.string x,.int .i64 (i:Nat),i⟩::ru l (i+1)
theorem pt:∀ {l:List ByteArray} {i j:Nat} {e:MapEntry},(ru l i)[j]?=some e->∃ x,l[j]?=some x/\e=⟨.string x,.int .i64 ((i+j:Nat):Int),i+j⟩
  | [],_,_,_,h=>by cases h
  | x::l,i,0,e,h=>by injection h with h;exact ⟨x,rfl,h.symm⟩
  | x::l,i,j+1,e,h=>by
    obtain ⟨y,h1,a⟩:=pt (l:=l) (i:=i+1) (j:=j) h;exact ⟨y,h1,by rw[a,show i+1+j=i+(j+1) by omega]⟩
theorem tk:∀ {l:List ByteArray} {i j:Nat} {x:ByteArray},l[j]?=some x->(ru l i)[j]?=some ⟨.string x,.int .i64 ((i+j:Nat):Int),i+j⟩
  | [],_,_,_,h=>by cases h
  | y::l,i,0,x,h=>by injection h with h;subst h;rfl
  | y::l,i,j+1,x,h=>by
    have:=tk (l:=l) (i:=i+1) (j:=j) (x:=x) h;rw[show i+1+j=i+(j+1) by omega] at this
    exact this
theorem De {a:List ByteArray}(c:a.Nodup){j:Nat}{s:ByteArray}(h:a[j]?=some s):bE a s=j:=by
 obtain ⟨d,e⟩:=At.1 h;refine ug (fun i hi b=>?_) d (by rw[A4,h];rfl);rw[A4,Lu oM] at b
 have b:a[i]'oM=s:=b;exact absurd ((List.getElem_inj c).1 (b.trans e.symm)) oM
theorem vQ {f:List ByteArray}(u:f.Nodup)(s:ByteArray):(∃ i,Instr.findNow .string (.string s) (ru f 0) 0=some (some (i,.int .i64 (rO f s)))/\decide (s∈f)=true)\/(Instr.findNow .string (.string s) (ru f 0) 0=some none/\decide (s∈f)=false/\rO f s=0):=by
 rcases MapKept.findNow_spec (d:=.string) (k:=.string s) (by simp[MapKept.IsKey]) (ru f 0) 0 (fun x z=>by
  obtain ⟨j,o⟩:=Lv.1 z;obtain ⟨y,_,rfl⟩:=pt o
  simp[MapKept.IsKey]) with ⟨a,b⟩|⟨j,e,a,b,c⟩
 ·have l:s ∉ f:=fun h=>by
   obtain ⟨j,o⟩:=Lv.1 h;exact b _ (Lv.2 ⟨j,tk o⟩) rfl
  exact .inr ⟨a,decide_eq_false l,if_neg l⟩
 ·obtain ⟨y,p,rfl⟩:=pt b
  injection c with c
  subst c;have l:y∈f:=Lv.2 ⟨j,p⟩;refine .inl ⟨0+j,?_,decide_eq_true l⟩;rw[a,pb l,De u p,yW]
theorem DI {a:List ByteArray}{s:ByteArray}(h:s∈a):AN (fun z=>a.getD z.toNat ⟨#[]⟩) (rO a) (a.length:Nat) s:=by
 have b:=lc h
 unfold AN rO
 rw[if_pos h];exact ⟨b.2,by omega,by omega⟩
structure LaidO (pl:ByteArray->Int) (d:Nat) (h:Hp) (rl:List RSt) (ss:List OSt) (l:List Stp):Prop where
  rs:RSs h rl ss
  mp:ss.map OSt.stp=l
  sm:Ih ss
structure Dif (M:List Nat) (w w0:World):Prop where
  mo:Mo M w w0
  sz:w0.heap.size=w.heap.size
def xc (Φ:Value->World->Hp->Prop):Ending->World->Prop:=fun e w'=>∃ v h',e=.returned v/\Φ v w' h'
section perm
variable {w0:World}{h0:Hp}{w:World}{h:Hp}{B B':List Bx}{R R':List Rw}{F:List (Hp->Prop)}
theorem SS.permBR (s:SS w0 h0 w h B R F)(pB:B.Perm B')(c:R.Perm R'):SS w0 h0 w h B' R' F :=
 ⟨s.g0,⟨s.st.up,fun x a=>s.st.own x (pB.mem_iff.2 a),fun x a=>s.st.jk x (pB.mem_iff.2 a),fun x a=>s.st.lo x (pB.mem_iff.2 a),((pB.map (·.b)).nodup_iff).1 s.st.nd⟩,
  fun r hr=>⟨(s.ro r (c.mem_iff.2 hr)).own,(s.ro r (c.mem_iff.2 hr)).jk,fun b e d=>(s.ro r (c.mem_iff.2 hr)).ap b e ((pB.map (·.b)).mem_iff.2 d)⟩,(c.pairwise_iff (fun h=>h.symm)).1 s.ap,s.mo,s.f⟩
end perm
section ret
variable {P:Program}{n:Nat}{Γ:cH}{w:World}{h:Hp}{w0:World}{h0:Hp}{B:List Bx}{Rs:List Rw}{F:List (Hp->Prop)}
theorem SS.retS {d:Func}{Φ:Value->World->Hp->Prop}(s:SS w0 h0 w h B Rs F)(b:List (Nat × Nat × Nat))(v:Value)(c:Φ v w h)(hk:(nB d Γ && cB B b)=true:=by kernel_rfl)(f:bW P (nF d Γ) (dq B b)=some (v,bS B b):=by kernel_rfl):∀ a,Kn n a Γ->nx P d (xc Φ) a w:=by
 intro a e;rw[Bool.and_eq_true] at hk
 refine ⟨e.df.trans (o5 hk.1),v,?_,v,h,rfl,c⟩;rw[iH e hk.1];exact bY _ _ _ _ f (dE s.st.own b hk.2)
end ret
section call
variable {P:Program}{n:Nat}{N R:Po}{X:Nat->Po}{ops:Array Oper}{k:Nat}{Γ:cH}{w:World}
theorem Iz (t:Nat){f:FuncId}{args:Array Value}{Φ:Value->World->Hp->Prop}(c:Calls P f args w (xc Φ))(H:∀ v w' h',Φ v w' h'->LG P n N R X ops (k+1) ((t,v)::Γ) w')(b:cL ops Γ k t n=true:=by kernel_rfl)(hr:(execOp (ev Γ) (am ops k)).run P w=.ok (.enter f args) w:=by kernel_rfl):LG P n N R X ops k Γ w :=
 LG.call t f args (bF b).1 (bF b).2 hr (c.mono fun e w' ⟨v,h',d,a⟩=>⟨v,d,H v w' h' a⟩)
end call
def gt (ss:List ByteArray):List MapEntry:=ss.zipIdx.map fun p=>⟨.string p.1,.bool true,p.2⟩
theorem AI (a:List ByteArray)(s:ByteArray):gt (a++[s])=gt a++[⟨.string s,.bool true,a.length⟩]:=by
 unfold gt;rw[List.zipIdx_append,Lp];simp
theorem sQ {a:List ByteArray}{j:Nat}{e:MapEntry}(h:(gt a)[j]?=some e):∃ s,a[j]?=some s/\e=⟨.string s,.bool true,j⟩:=by
 unfold gt at h
 rw[JP,Lw] at h
 cases b:a[j]? with
 | none=>rw[b] at h;simp at h
 | some s=>rw[b] at h;simp at h;exact ⟨s,rfl,h.symm⟩
theorem pd {a:List ByteArray}{e:MapEntry}(h:e∈gt a):∃ j s,a[j]?=some s/\e=⟨.string s,.bool true,j⟩:=by
 obtain ⟨j,c⟩:=Lv.1 h;obtain ⟨s,h1,b⟩:=sQ c;exact ⟨j,s,h1,b⟩
theorem Bm {a:List ByteArray}{s:ByteArray}(h:s∈a):∃ e∈gt a,e.key=.string s:=by
 obtain ⟨j,b⟩:=Lv.1 h;refine ⟨⟨.string s,.bool true,j⟩,?_,rfl⟩
 unfold gt
 refine g8.2 ⟨(s,j),?_,rfl⟩;rw[Lv];exact ⟨j,by rw[Lw,b];simp⟩
theorem Aw (a:List ByteArray)(s:ByteArray):(Instr.findNow .string (.string s) (gt a) 0=some none/\s ∉ a)\/∃ j,Instr.findNow .string (.string s) (gt a) 0=some (some (j,.bool true))/\a[j]?=some s:=by
 rcases MapKept.findNow_spec (d:=.string) (k:=.string s) (by simp[MapKept.IsKey]) (gt a) 0 (fun x f=>by obtain ⟨_,_,_,rfl⟩:=pd f;simp[MapKept.IsKey]) with ⟨h1,h2⟩|⟨j,e,h1,h2,h3⟩
 ·refine .inl ⟨h1,fun b=>?_⟩
  obtain ⟨e,h,hk⟩:=Bm b;exact h2 e h hk
 ·obtain ⟨i,c,rfl⟩:=sQ h2
  injection h3 with h3
  subst h3;exact .inr ⟨j,by rw[h1,yW],c⟩
structure MapK (w:World) (h:Hp) (b:Nat) (ss:List ByteArray):Prop where
  jk:h[b]?=some bc
  ob:w.heap[b]?=some (.map (gt ss).toArray ss.length)
  nd:ss.Nodup
section laws
variable {P:Program}{n:Nat}{N R:Po}{X:Nat->Po}{ops:Array Oper}{k:Nat}{Γ:cH}{w:World}{h:Hp}{w1:World}{h1:Hp}{B:List Bx}{Rs:List Rw}{F:List (Hp->Prop)}
theorem SS.atK (s:SS w1 h1 w h B Rs F){b:Nat}{a:List ByteArray}(m:MapK w1 h1 b a):w.heap[b]?=some (.map (gt a).toArray a.length) :=
 (s.st.up.ext.block b (by rw[s.g0.size];exact aF m.jk)).trans m.ob
theorem pr {b:Nat}{o:Obj}(d:G { w1 with heap:=w1.heap.setIfInBounds b o } h1):UpM [b] w1 h1 { w1 with heap:=w1.heap.setIfInBounds b o } h1 :=
 ⟨⟨rfl,rfl,rfl,by show _<=(w1.heap.setIfInBounds b o).size;rw[Lr];exact ey _,fun c _ a=>by
  show (w1.heap.setIfInBounds b o)[c]?=_
  rw[oi (fun e=>a (vl.2 e.symm))]⟩,Gr.refl _,d⟩
theorem H9 {mty kt et:TypeId}{b:Nat}{d:List ByteArray}(ky:ByteArray)(s:SS w1 h1 w h B Rs F)(m:MapK w1 h1 b d)
    (H:∀ w1' w' ss2,SS w1' h1 w' h B Rs F->MapK w1' h1 b ss2->(∀ x,x∈ss2↔x∈d\/x=ky)->ss2.length<=d.length+1->UpM [b] w1 h1 w1' h1->LG P n N R X ops (k+1) Γ w')
    (l:cS ops Γ k=true:=by kernel_rfl)(D:execOp (ev Γ) (am ops k)=(do Instr.mapUpdate mty (.map (some b)) (.string ky) (.bool true);pure .skip):=by kernel_rfl)(C:P.underlying mty=some (.map kt et):=by kernel_rfl)(hk:P.underlying kt=some .string:=by kernel_rfl):LG P n N R X ops k Γ w:=by
  have z:=s.atK m;have f:b<w1.heap.size:=(na.1 m.ob).1
  rcases Aw d ky with ⟨hf,hn⟩|⟨j,hf,hj⟩
  . have hr:=tq w (val:=.bool true) C hk z hf
    obtain ⟨y,u⟩:=s.base (o:=.map ((gt d).toArray.push ⟨.string ky,.bool true,d.length⟩) (d.length+1)) m.jk f;refine LG.store _ (gi l).1 (gi l).2 ?_ (H _ _ (d++[ky]) y ⟨m.jk,?_,?_⟩ (fun x=>by simp) (by simp) (pr u))
    . rw[D];simp[hr,Result.andThen]
    . show (w1.heap.setIfInBounds b _)[b]?=_
      rw[zF f,AI];simp
    . exact Lq.2 ⟨m.nd,by simp,fun a J c l e=>hn (by rw[vl] at l;rw[<-l,<-e];exact J)⟩
  . have I:j<d.length:=(At.1 hj).1
    have p:(gt d)[j]?=some ⟨.string ky,.bool true,j⟩:=by
      unfold gt;rw[JP,Lw,hj];simp
    have hr:=qA w (val:=.bool true) C hk z hf (by simp[p])
    have K:((gt d).toArray.modify j fun e=>{ e with key:=.string ky,val:=.bool true })=(gt d).toArray:=by
      apply Array.ext_getElem?
      intro i;rw[Array.getElem?_modify]
      by_cases e:j=i
      . subst e
        rw[if_pos rfl]
        simp[p]
      . rw[if_neg e]
    rw[K] at hr
    obtain ⟨y,u⟩:=s.base (o:=.map (gt d).toArray d.length) m.jk f;refine LG.store _ (gi l).1 (gi l).2 ?_ (H _ _ d y ⟨m.jk,?_,m.nd⟩ (fun x=>⟨.inl,fun h=>h.elim id fun e=>by rw[e];exact Lv.2 ⟨j,hj⟩⟩) (Nat.le_succ _) (pr u))
    . rw[D];simp[hr,Result.andThen]
    . show (w1.heap.setIfInBounds b _)[b]?=_
      rw[zF f]
theorem SS.baseK (s:SS w1 h1 w h B Rs F){b:Nat}{C a:List ByteArray}(m:MapK w1 h1 b C){w':World}{h':Hp}(u:UpM [b] w h w' h')(H:w'.heap[b]?=some (.map (gt a).toArray a.length))(D:a.Nodup):∃ j,SS j h1 w' h' B Rs F/\MapK j h1 b a/\UpM [b] w1 h1 j h1:=by
 have i:b<w1.heap.size:=(na.1 m.ob).1;have I:=aF m.jk;obtain ⟨L,y⟩:=s.base (o:=.map (gt a).toArray a.length) m.jk i;have l:({ w1 with heap:=w1.heap.setIfInBounds b (.map (gt a).toArray a.length) }:World).heap.size=w1.heap.size:=by simp
 have blk:∀ c,c<w.heap.size->c≠b->w'.heap[c]?=w.heap[c]?:=fun c d J=>u.mo.blk c d (fun K=>J (vl.1 K))
 have e:=s.st.up.ext;have p:∀ x∈B,x.b≠b:=fun x k e=>by have:=s.st.lo x k;omega
 refine ⟨_,⟨y,⟨⟨⟨u.mo.os.trans e.os,u.mo.tape.trans e.tape,u.mo.output.trans e.output,by rw[l];exact e6 e.size u.mo.size,fun c d=>?_⟩,s.st.up.gr.trans u.gr,u.g⟩,fun x k=>?_,fun x k=>?_,s.st.lo,s.st.nd⟩,fun r hr=>⟨eT (s.ro r hr).own (fun c d=>?_),fun c d=>(u.gr.blk c ((s.ro r hr).lt d)).trans ((s.ro r hr).jk c d),(s.ro r hr).ap⟩,s.ap,s.mo,s.f.gw s.mo u.gr.gw⟩,⟨m.jk,by show (w1.heap.setIfInBounds b _)[b]?=_;rw[zF i],D⟩,pr y⟩
 ·rw[l] at d
  by_cases q:c=b
  ·subst q
   rw[H]
   show _=(w1.heap.setIfInBounds c _)[c]?
   rw[zF i]
  ·rw[blk c (Nat.lt_of_lt_of_le d e.size) q]
   show _=(w1.heap.setIfInBounds b _)[c]?
   rw[oi (Ne.symm q)];exact e.block c d
 ·have z:=s.st.own x k
  exact (blk x.b z.lt (p x k)).trans z
 ·rw[u.gr.blk _ (aF (s.st.jk x k))];exact s.st.jk x k
 ·refine blk c (kw (s.ro r hr).own d) (fun e=>?_)
  subst e;have q:=(s.ro r hr).own
  rcases q with ⟨_,e2|⟨g,cap,cur,hv,hb',_⟩⟩
  ·rw[e2.1] at d;simp[Value.ownBlock] at d
  ·rw[hv] at d;simp[Value.ownBlock] at d;omega
theorem SS.frontR {w0:World}{h0:Hp}{R:List Rw}(s:SS w0 h0 w h B R F)(b a:List Rw)(y:Rw)(e2:R=b++y::a:=by kernel_rfl):SS w0 h0 w h B (y::(b++a)) F:=by
 subst e2;exact s.permBR (.refl _) hH
theorem SS.backR {w0:World}{h0:Hp}(b a:List Rw)(y:Rw)(s:SS w0 h0 w h B (y::(b++a)) F):SS w0 h0 w h B (b++y::a) F:=s.permBR (.refl _) hH.symm
end laws
theorem pc {ok:ByteArray->Prop}{pl:ByteArray->Int}:∀ {d:Nat} {t:Tm},WfT1 ok d t->∀ l:List Stp,(az pl d l t).length=l.length+bu d t
  | d + 1,t,w,l=>by
    have hk:∀ k,k<=t.ks.length->(gj (az pl d) t.ks l k).1.length=l.length+cw (fun i=>bu d (t.ks.getD i aG)) k:=by
      intro k
      induction k with
      | zero=>intro _;rfl
      | succ k ih =>
        intro hk
        show (az pl d (gj (az pl d) t.ks l k).1 (t.ks.getD k aG)).length=l.length+(cw _ k+bu d (t.ks.getD k aG))
        rw[pc (w.2.2.2.2.2.2.2.2 k oM),ih oM];omega
    show ((gj (az pl d) t.ks l t.ks.length).1++[_]).length=l.length+(1+cw _ t.ks.length)
    rw[yR,hk _ (ey _),K8];omega
section
variable {pl:ByteArray->Int}{d k:Nat}{l tl:List Stp}{ks:List Tm}{za zb:Int}
theorem BS (a:tl=(gj (az pl d) ks l k).1)(h:k=0):(((az pl d tl (ks.getD k aG)).length:Nat):Int)-1=(gj (az pl d) ks l (k+1)).2.1:=by
 subst a;show _=if k=0 then _ else _;rw[if_pos h]
theorem Dp (a:zb=(gj (az pl d) ks l k).2.2)(h:k=0):zb=(gj (az pl d) ks l (k+1)).2.2:=by
 subst a;show _=if k=0 then _ else _;rw[if_pos h]
theorem Di (a:za=(gj (az pl d) ks l k).2.1)(h:k≠0):za=(gj (az pl d) ks l (k+1)).2.1:=by
 subst a;show _=if k=0 then _ else _;rw[if_neg h]
theorem Cs (a:tl=(gj (az pl d) ks l k).1)(h:k≠0):(((az pl d tl (ks.getD k aG)).length:Nat):Int)-1=(gj (az pl d) ks l (k+1)).2.2:=by
 subst a;show _=if k=0 then _ else _;rw[if_neg h]
end
theorem Cm  (ok:ByteArray->Prop)(d:Nat)(ih:∀ (p:PTm) (t:Tm) (w:World) (h:Hp),G w h->TmH d h p t->WfT1 ok d t->d<=20->Calls Tryz.prog 25 #[dl p] w (Ret w h (fun v _=>v=nV (bu d t))))(op n:Int)(q:Rat)(s:ByteArray)(A:Z9)(c:Nat)(e:List PTm)(ks:List Tm)(hc:e.length<=c)(M:e.length<=2)(D:aK op=(ks.length:Nat))(S:op≠1->q=0)(hq:LQ 1 q)(Z:op=2->ok s)(U:op≠2->s=⟨#[]⟩)(Y:op≠8->n=0)(hn1 : -12<=n)(J:n<=12)(C:∀ i,i<ks.length->WfT1 ok d (ks.getD i aG))(hd:d+1<=20)(w:World)(h:Hp)(g:G w h)(X:SlO 9 dr bA h A e)(y:Tms d h e ks):CV 25 #[dl ⟨op,n,q,s,A,e.length,c⟩] w h (nV (bu (d+1) (.mk op n q s ks))):=by
 have a:=(((sS g).aS X).add (K:=fun l=>Tms d l e ks) y);have V:=(a.f.1).len;have Q:2^d<=1048576:=e6 (Ju oM (show d<=20 by omega)) kD;have x:∀ i,i<ks.length->bu d (ks.getD i aG)<=1048576:=fun i hi=>by have:=jp (C i hi);omega
 have B:∀ k,k<=ks.length->(cw (fun i=>bu d (ks.getD i aG)) k)<=2*1048576:=fun k hk=>e6 (lr (b:=1048576) k (fun i hi=>x i oM)) (yX _ oM)
 refine go Tryz.func25 [(0,dl ⟨op,n,q,s,A,e.length,c⟩)] rfl (aD (lA 1 32 (dr ⟨op,n,q,s,A,e.length,c⟩) a (fun F w2 h3 a=>lL a ae (a7 (lL a ae (ag (ab a [.v (qP F 8),.o (qS A e.length c) 0 8 1,.v (nV e.length),.c] (be ?_))))))));refine bU _ (CG.loop (fun z Γ L=>∃ (k:Nat)(l:Hp),z=e.length-k/\Γ=[(2,iV 0),(7,qS A e.length c),(8,nV e.length),(9,nV k),(3,iV ((1+(cw (fun i=>bu d (ks.getD i aG)) k):Nat):Int))]/\SS w h L l [⟨F,32,dr ⟨op,n,q,s,A,e.length,c⟩⟩] [] [fun l=>Tms d l e ks,fun l=>SlO 9 dr bA l A e]/\k<=e.length) _ ⟨0,h3,rfl,rfl,a.to _ _,JU _⟩ ?_);rintro _ _ w4 ⟨k,h5,W,rfl,a,hk⟩;have I:=B k oM;have hs1:(cw (fun i=>bu d (ks.getD i aG)) (k+1))=(cw (fun i=>bu d (ks.getD i aG)) k)+bu d (ks.getD k aG):=rfl;refine aD ?_;cases j:(decide ((k:Int)<(e.length:Int)))
 .
  have u:=oF j;refine lB 10 j (ag (dv (CG.exit ?_)))
  show CG _ _ _ _ _ _ _ _
  exact ab a aN (af a [] (iV ((1+(cw (fun i=>bu d (ks.getD i aG)) k):Nat):Int)) (congrArg (fun n:Nat=>Value.int .i64 (n:Int)) (by rw[show k=ks.length by omega];rfl)))
 have u:=oT j;refine lB 10 j (ag (bT (cK (cQ (kZ (aD (lX 11 A e.length c 9 (k:Nat) k ((a.f.2.1).ok oM) ?_)))))));refine lH 12 (dl (e.getD k bA)) a ((a.f.2.1).el k oM) (lA 5 32 cV a (fun b8 w9 _ a=>lP 0 0 (dr (e.getD k bA)) a (fun _ a=>lN (kQ (lL a [.c,.o (dl (e.getD k bA)) 0 0 9] (ak 15 a (ih (e.getD k bA) (ks.getD k aG) _ _ a.g ((a.f.1).at_ k oM) (C k oM) oM) (fun _ za a=>?_)))))));have H:=x k oM;refine lV 16 (iV ((1+(cw (fun i=>bu d (ks.getD i aG)) (k+1)):Nat):Int)) ?_ (hr:=rS ((((1+(cw (fun i=>bu d (ks.getD i aG)) k):Nat):Int)+(bu d (ks.getD k aG):Nat))) kR ((gz oM oM).trans oM));refine lL a ae (lN (kQ (bM 17 ((k:Nat)+1) (k+1) ?_)));refine lL a ae (lD ?_);intro a_ O;replace a:=a.drop 1 0;refine ⟨_,_,?_,⟨k+1,za,rfl,rfl,a.to _ _,oM⟩,O.to _ kR⟩
 omega
theorem AB (ok:ByteArray->Prop):∀ (d:Nat) (p:PTm) (t:Tm) (w:World) (h:Hp),G w h->TmH d h p t->WfT1 ok d t->d<=20->Calls Tryz.prog 25 #[dl p] w (Ret w h (fun v _=>v=nV (bu d t)))
  | 0,_,_,_,_,_,x,_,_=>x.elim
  | d + 1,p,t,w,h,g,x,wf,hd=>by
    obtain ⟨op,n,q,s,A,c,e,ks,rfl,rfl,k,j,a⟩:=x.open;obtain ⟨w1,w2,w3,l,f,o,u,y,i⟩:=wf
    have b:e.length<=2:=by
      have e1:aK op=ks.length:=w1;have:=aA op;have:=a.len
      omega
    exact Cm ok d (fun p t w h=>AB ok d p t w h) op n q s A c e ks k b w1 w2 w3 l f o u y i hd w h g j a
theorem AV  (ok:ByteArray->Prop)(d:Nat)(ih:∀ (p:PTm) (t:Tm) (b:Nat) (B:List ByteArray) (w:World) (h:Hp),G w h->TmH d h p t->WfT1 ok d t->MapK w h b B->Calls Tryz.prog 65 #[dl p,.map (some b)] w (iw b w h (fun v w1 _=>v=.tuple #[]/\∃ y:List ByteArray,w1.heap[b]?=some (.map (gt y).toArray y.length)/\y.Nodup/\(∀ x,x∈y↔x∈B\/ir d t x)/\y.length<=B.length+bu d t)))(op n:Int)(q:Rat)(s:ByteArray)(A:Z9)(c:Nat)(j:List PTm)(ks:List Tm)(hc:j.length<=c)(hlp:j.length<=2)(bl:aK op=(ks.length:Nat))(hq0:op≠1->q=0)(hq:LQ 1 q)(hok:op=2->ok s)(hs0:op≠2->s=⟨#[]⟩)(hn0:op≠8->n=0)(hn1 : -12<=n)(hn2:n<=12)(hW:∀ i,i<ks.length->WfT1 ok d (ks.getD i aG))(b:Nat)(B:List ByteArray)(w:World)(h:Hp)(g:G w h)(hK:SlO 9 dr bA h A j)(hKs:Tms d h j ks)(e:MapK w h b B):Calls Tryz.prog 65 #[dl ⟨op,n,q,s,A,j.length,c⟩,.map (some b)] w (iw b w h (fun v w1 _=>v=.tuple #[]/\∃ y:List ByteArray,w1.heap[b]?=some (.map (gt y).toArray y.length)/\y.Nodup/\(∀ x,x∈y↔x∈B\/ir (d+1) (.mk op n q s ks) x)/\y.length<=B.length+bu (d+1) (.mk op n q s ks))):=by
 have u:UpM [b] w h w h:=UpM.refl g;have a:SS w h w h [] [] []:=sS g;replace a:=((a.aS hK).add (K:=fun l=>Tms d l j ks) hKs);have hln:=(a.f.1).len;refine go Tryz.func65 [(0,dl ⟨op,n,q,s,A,j.length,c⟩),(1,.map (some b))] rfl (aD (lA 2 32 (dr ⟨op,n,q,s,A,j.length,c⟩) a (fun H w2 h3 a=>?_)));refine lN (CG.join (fun Γ w_=>∃ (z:World)(D:List ByteArray)(l:Hp),Γ=[(1,.map (some b)),(2,pB H)]/\SS z h w_ l [⟨H,32,dr ⟨op,n,q,s,A,j.length,c⟩⟩] [] [fun l=>Tms d l j ks,fun l=>SlO 9 dr bA l A j]/\MapK z h b D/\UpM [b] w h z h/\(∀ x,x∈D↔x∈B\/(op=2/\x=s))/\D.length<=B.length+1) ?_ ?_)
 .
  refine ab a [.v (pB H),.o (iV op) 0 0 1] ?_;cases C:((op:Int) == (2:Int))
  .
   have V:=ah C;refine lB 8 C (ai (CG.skip ?_));intro a_ M;exact ⟨_,⟨w,B,h3,rfl,a.to _ _,e,u,(fun x=>⟨fun l=>.inl l,fun l=>l.elim id (fun U=>absurd U.1 oM)⟩),oM⟩,M.to _ kR⟩
  have V:=eq_of_beq C;refine lB 8 C (au (kQ (lL a [.c,.v (qP H 7),.o (.string s) 0 7 1] (H9 (mty:=133) (kt:=9) (et:=4) (s) a e (fun w9 _ O a e F L W=>?_)))));replace u:=u.trans W
  clear W
  refine lD ?_;intro a_ M;exact ⟨_,⟨w9,O,h3,rfl,a.to _ _,e,u,(fun x=>(F x).trans ⟨fun l=>l.imp id fun U=>⟨by omega,U⟩,fun l=>l.imp id fun U=>U.2⟩),oM⟩,M.to _ kR⟩
 rintro _ _ ⟨z,D,zc,rfl,a,e,u,hs1,hl1⟩;refine ab a [.v (qP H 8),.o (qS A j.length c) 0 8 1,.v (nV j.length),.c] (be ?_);refine bU _ (CG.loop (fun Z Γ w_=>∃ (z:World)(k:Nat)(I:List ByteArray)(l:Hp),Z=j.length-k/\Γ=[(1,.map (some b)),(13,qS A j.length c),(14,nV j.length),(15,nV k)]/\SS z h w_ l [⟨H,32,dr ⟨op,n,q,s,A,j.length,c⟩⟩] [] [fun l=>Tms d l j ks,fun l=>SlO 9 dr bA l A j]/\MapK z h b I/\UpM [b] w h z h/\k<=j.length/\(∀ x,x∈I↔x∈D\/HasK d ks k x)/\I.length<=D.length+(cw (fun i=>bu d (ks.getD i aG)) k)) _ ⟨z,0,D,zc,rfl,rfl,a.to _ _,e,u,JU _,(fun x=>⟨.inl,fun l=>l.elim id (fun l=>absurd l HasK.zero)⟩),nR _⟩ ?_);rintro _ _ _ ⟨z,k,I,_,bf,rfl,a,e,u,hk,Y,bb⟩;have bm:(cw (fun i=>bu d (ks.getD i aG)) (k+1))=(cw (fun i=>bu d (ks.getD i aG)) k)+bu d (ks.getD k aG):=rfl;refine aD ?_;cases za:(decide ((k:Int)<(j.length:Int)))
 .
  have zb:=oF za;refine lB 16 za (ag (dv (CG.exit ?_)));have Q:k=ks.length:=by omega
  have hcn:bu (d+1) (.mk op n q s ks)=1+(cw (fun i=>bu d (ks.getD i aG)) ks.length):=rfl;exact a.retM (u.trans (a.st.up.m _)) [] (.tuple #[]) ⟨rfl,I,a.atK e,e.nd,fun x=>by rw[Y x,hs1 x,Q,or_assoc];exact Iff.rfl,by rw[hcn,<-Q];omega⟩
 have zb:=oT za;refine lB 16 za (ag (bT (cK (cQ (kZ (aD (lX 17 A j.length c 9 (k:Nat) k ((a.f.2.1).ok oM) ?_)))))));refine lH 18 (dl (j.getD k bA)) a ((a.f.2.1).el k oM) (lA 5 32 cV a (fun b22 _ _ a=>lP 0 0 (dr (j.getD k bA)) a (fun _ a=>lN (kQ (lL a [.o (dl (j.getD k bA)) 0 0 9,.c] (jg 21 (ih (j.getD k bA) (ks.getD k aG) b I _ _ a.g ((a.f.1).at_ k oM) (hW k oM) ⟨(a.st.up.gr.blk _ (aF e.jk)).trans e.jk,a.atK e,e.nd⟩) ?_))))));rintro _ _ zd u28 ⟨rfl,J,X,S,F,L⟩;obtain ⟨ze,a,e,W⟩:=a.baseK e u28 X S;replace u:=u.trans W
 clear W X S
 refine lN (kQ (bM 22 ((k:Nat)+1) (k+1) ?_));refine lL a ae (lD ?_);intro a_ M;replace a:=a.drop 1 0;refine ⟨_,_,?_,⟨ze,k+1,J,zd,rfl,rfl,a.to _ _,e,u,oM,(fun x=>(F x).trans (by rw[Y x,or_assoc,<-HasK.succ])),oM⟩,M.to _ kR⟩
 omega
theorem ui (ok:ByteArray->Prop):∀ (d:Nat) (p:PTm) (t:Tm) (b:Nat) (e:List ByteArray) (w:World) (h:Hp),G w h->TmH d h p t->WfT1 ok d t->MapK w h b e->Calls Tryz.prog 65 #[dl p,.map (some b)] w (iw b w h (fun v w1 _=>v=.tuple #[]/\∃ a:List ByteArray,w1.heap[b]?=some (.map (gt a).toArray a.length)/\a.Nodup/\(∀ x,x∈a↔x∈e\/ir d t x)/\a.length<=e.length+bu d t))
  | 0,_,_,_,_,_,_,_,x,_,_=>x.elim
  | d+1,p,t,b,e,w,h,g,x,wf,hmk=>by
    obtain ⟨op,n,q,s,A,c,j,ks,rfl,rfl,u,o,f⟩:=x.open;have i:=wf.two;obtain ⟨w1,w2,w3,y,k,z,B,C,l⟩:=wf;exact AV ok d (fun p t b e w h=>ui ok d p t b e w h) op n q s A c j ks u (by have:=f.len;exact this▸i) w1 w2 w3 y k z B C l b e w h g o f hmk
theorem AJ {w0:World}{h0:Hp}{D:List Bx}{R2:List Rw}{M:List (Hp->Prop)}(ok:ByteArray->Prop)(pl:ByteArray->Int)(b:Nat)(Q:List MapEntry)(hpl:∀ s,ok s->0<=pl s/\pl s<=1000)(hlk:∀ s,ok s->∃ i,Instr.findNow .string (.string s) Q 0=some (some (i,iV (pl s))))(d:Nat)(ih:∀ (p:PTm) (t:Tm) (A:Z9) (c:Nat) (l:List Stp) {w0:World} {h0:Hp} {D:List Bx} {R2:List Rw} {M:List (Hp->Prop)} (w:World) (h:Hp),G w h->TmH d h p t->MapS h b Q->SS w0 h0 w h D (⟨86,9,A,c,(l).length,(l).flatMap dw⟩::R2) M->WfT1 ok d t->l.length+bu d t<=1000000->Calls Tryz.prog 26 #[.slice A l.length c,dl p,.map (some b)] w (xc fun v w1 h1=>∃ V S,v=.slice V (az pl d l t).length S/\SS w0 h0 w1 h1 D (⟨86,9,V,S,(az pl d l t).length,(az pl d l t).flatMap dw⟩::R2) M))(op n:Int)(q:Rat)(s:ByteArray)(A:Z9)(c:Nat)(e:List PTm)(ks:List Tm)(hc:e.length<=c)(hlp:e.length<=2)(bl:aK op=(ks.length:Nat))(hq0:op≠1->q=0)(hq:LQ 1 q)(hok:op=2->ok s)(hs0:op≠2->s=⟨#[]⟩)(hn0:op≠8->n=0)(hn1 : -12<=n)(hn2:n<=12)(hW:∀ i,i<ks.length->WfT1 ok d (ks.getD i aG))(L:Z9)(J:Nat)(l:List Stp)(bf:l.length+bu (d+1) (.mk op n q s ks)<=1000000)(w:World)(h:Hp)(g:G w h)(hK:SlO 9 dr bA h A e)(hKs:Tms d h e ks)(hM:MapS h b Q)(a:SS w0 h0 w h D (⟨86,9,L,J,(l).length,(l).flatMap dw⟩::R2) M):Calls Tryz.prog 26 #[.slice L ((l).length) J,dl ⟨op,n,q,s,A,e.length,c⟩,.map (some b)] w (xc fun v w1 h1=>∃ V S,v=.slice V (az pl (d+1) l (.mk op n q s ks)).length S/\SS w0 h0 w1 h1 D (⟨86,9,V,S,(az pl (d+1) l (.mk op n q s ks)).length,(az pl (d+1) l (.mk op n q s ks)).flatMap dw⟩::R2) M):=by
 replace a:=a.to ([]++D) ([⟨86,9,L,J,(l).length,(l).flatMap dw⟩]++R2);replace a:=(((a.aS hK).add (K:=fun j=>Tms d j e ks) hKs).add (K:=fun j=>MapS j b Q) hM);have hln:=(a.f.2.1).len;have hcn:bu (d+1) (.mk op n q s ks)=1+(cw (fun i=>bu d (ks.getD i aG)) ks.length):=rfl;refine go Tryz.func26 [(0,qS L ((l).length) J),(1,dl ⟨op,n,q,s,A,e.length,c⟩),(2,.map (some b))] rfl (aD (lA 4 32 (dr ⟨op,n,q,s,A,e.length,c⟩) a (fun z w2 h3 a=>lL a ae (a7 (lL a [.v (pB z),.o (iV op) 0 0 1,.v (qP z 1),.o (iV n) 0 1 1,.v (qP z 2),.o (qv q) 0 2 5,.v (sW op 0 0 n q)] (lA 7 86 ([iV 0,iV 0,iV 0,iV 0,qF,uV 0,eS,uV 0,eS]) a (fun F w5 h6 a=>lP 0 0 (sG op 0 0 n q) a (fun w7 a=>?_))))))));refine lN (CG.join (fun Γ w_=>∃ (B:Int)(j:Hp),Γ=[(0,qS L ((l).length) J),(2,.map (some b)),(4,pB z),(6,sZ),(7,pB F)]/\SS w0 h0 w_ j ([⟨F,86,sG op 0 0 B q⟩,⟨z,32,dr ⟨op,n,q,s,A,e.length,c⟩⟩]++D) ([⟨86,9,L,J,(l).length,(l).flatMap dw⟩]++R2) ([fun j=>MapS j b Q,fun j=>Tms d j e ks,fun j=>SlO 9 dr bA j A e]++M)/\B=(if op=2 then pl s else n)) ?_ ?_)
 .
  refine ab a [.v (pB z),.o (iV op) 1 0 1] ?_;cases C:((op:Int) == (2:Int))
  .
   have U:=ah C;refine lB 19 C (ai (CG.skip ?_));intro a_ I;exact ⟨_,⟨n,h6,rfl,a.to _ _,((if_neg oM).symm)⟩,I.to _ kR⟩
  have U:=eq_of_beq C;refine lB 19 C (au (kQ (lL a [.c,.v (qP z 7),.o (.string s) 1 7 1] (Hw 23 76 9 3 (s) false (iV (pl s)) (true) a a.f.1 ?_ (hf:=(.inl (by obtain ⟨i_,e_⟩:=hlk s (hok oM);exact ⟨i_,e_,rfl⟩)))))));refine lL a [.v (qP F 3)] (lP 0 3 ([iV (pl s)]) a (fun _ a=>lD ?_));intro a_ I;exact ⟨_,⟨(pl s),h6,rfl,a.to _ _,((if_pos oM).symm)⟩,I.to _ kR⟩
 rintro _ _ ⟨B,zm,rfl,a,hnn⟩;refine cQ (ab a [.v (qP z 8),.o (qS A e.length c) 1 8 1,.v (nV e.length),.c] (be ?_));refine bU _ (CG.loop (fun μ_ Γ w_=>∃ (k:Nat)(x:Z9)(u:Nat)(tl:List Stp)(za:Int)(zb:Int)(j:Hp),μ_=e.length-k/\Γ=[(2,.map (some b)),(6,sZ),(7,pB F),(26,qS A e.length c),(27,nV e.length),(28,nV k),(0,qS x ((tl).length) u)]/\SS w0 h0 w_ j ([⟨F,86,sG op za zb B q⟩,⟨z,32,dr ⟨op,n,q,s,A,e.length,c⟩⟩]++D) ([⟨86,9,x,u,(tl).length,(tl).flatMap dw⟩]++R2) ([fun j=>MapS j b Q,fun j=>Tms d j e ks,fun j=>SlO 9 dr bA j A e]++M)/\k<=e.length/\tl=(gj (az pl d) ks l k).1/\za=(gj (az pl d) ks l k).2.1/\zb=(gj (az pl d) ks l k).2.2/\tl.length<=l.length+(cw (fun i=>bu d (ks.getD i aG)) k)) _ ⟨0,L,J,l,0,0,zm,rfl,rfl,a.to _ _,JU _,rfl,rfl,rfl,(nR _)⟩ ?_);rintro _ _ _ ⟨k,x,u,tl,za,zb,_,bq,rfl,a,hk,y,H,O,hll⟩;have bn:(cw (fun i=>bu d (ks.getD i aG)) (k+1))=(cw (fun i=>bu d (ks.getD i aG)) k)+bu d (ks.getD k aG):=rfl;refine aD ?_;cases W:(decide ((k:Int)<(e.length:Int)))
 .
  have zg:=oF W;refine lB 29 W (ag (dv (CG.exit ?_)))
  show CG _ _ _ _ _ _ _ _
  refine aD ?_;have bb:=gT (fun i=>bu d (ks.getD i aG)) (show k<=ks.length by omega);refine lL a [.c,.o (sW op za zb B q) 0 0 9] (lR 50 86 1 (sG op za zb B q) a (fun zn _ _ a=>lY 51 0 86 9 u x tl dw (⟨op,za,zb,B,q⟩:Stp) 88 zn (.agg #[iV 0,iV 0,iV 0,iV 0,qF,uV 0,eS,uV 0,eS]) a a.f.1 (fun zj zk _ _ a=>lL a ae (lN (kX ?_)))));have hkn:k=ks.length:=by omega
  rw[hkn] at y H O
  have hrT:az pl (d+1) l (.mk op n q s ks)=tl++[⟨op,za,zb,B,q⟩]:=by rw[y,H,O,hnn];rfl
  refine a.retS [] (qS zj ((tl++[(⟨op,za,zb,B,q⟩:Stp)]).length) zk) ?_;rw[hrT];exact ⟨zj,zk,rfl,(a.tl.tl.tl.tl.drop 2 0).to _ _⟩
 have zg:=oT W;refine lB 29 W (ag (bT (cK (cQ (kZ (ab a ae (lX 31 A e.length c 9 (k:Nat) k ((a.f.r.1).ok oM) ?_)))))));refine lH 32 (dl (e.getD k bA)) a ((a.f.r.1).el k oM) (lA 9 32 cV a (fun zo _ _ a=>lL a ae (lP 0 0 (dr (e.getD k bA)) a (fun _ a=>a7 (lL a [.c,.o (dl (e.getD k bA)) 0 0 9,.c] ?_)))));have bm:=gT (fun i=>bu d (ks.getD i aG)) (show k+1<=ks.length by omega);refine Iz 36 (ih (e.getD k bA) (ks.getD k aG) x u tl _ _ a.g ((a.f.2.1).at_ k oM) a.f.1 (a.frontR [] ([]++R2) ⟨86,9,x,u,(tl).length,(tl).flatMap dw⟩) (hW k oM) oM) ?_;rintro _ _ zl ⟨X,Y,rfl,a⟩;replace a:=(SS.backR [] ([]++R2) ⟨86,9,X,Y,(az pl d tl (ks.getD k aG)).length,(az pl d tl (ks.getD k aG)).flatMap dw⟩ a).to ([⟨zo,32,dr (e.getD k bA)⟩,⟨F,86,sG op za zb B q⟩,⟨z,32,dr ⟨op,n,q,s,A,e.length,c⟩⟩]++D) ([⟨86,9,X,Y,(az pl d tl (ks.getD k aG)).length,(az pl d tl (ks.getD k aG)).flatMap dw⟩]++R2);have hrl:=(pc (pl:=pl) (hW k oM) tl);refine lL a ae (a7 (lL a ae ?_));cases Z:((k:Int) == (0:Int))
 .
  have zi:=ah Z;refine lB 38 Z (ai (kQ (lL a [.c,.v (nV ((az pl d tl (ks.getD k aG)).length))] (lI 45 (((az pl d tl (ks.getD k aG)).length:Nat)-1) ?_))));refine lL a [.v (qP F 2)] (lP 1 2 ([iV (((az pl d tl (ks.getD k aG)).length:Nat)-1)]) a (fun _ a=>lN (kQ (bM 47 ((k:Nat)+1) (k+1) ?_))));refine lL a ae (lD ?_);intro a_ I;replace a:=a.drop 1 0;refine ⟨_,_,?_,⟨k+1,X,Y,az pl d tl (ks.getD k aG),za,((az pl d tl (ks.getD k aG)).length:Nat)-1,zl,rfl,rfl,a.to _ _,oM,(by rw[y];rfl),(Di H oM),(Cs y oM),oM⟩,I.to _ kR⟩
  omega
 have zi:=eq_of_beq Z;refine lB 38 Z (au (kQ (lL a [.c,.v (nV ((az pl d tl (ks.getD k aG)).length))] (lI 41 (((az pl d tl (ks.getD k aG)).length:Nat)-1) ?_))));refine lL a [.v (qP F 1)] (lP 1 1 ([iV (((az pl d tl (ks.getD k aG)).length:Nat)-1)]) a (fun _ a=>lN (kQ (bM 47 ((k:Nat)+1) (k+1) ?_))));refine lL a ae (lD ?_);intro a_ I;replace a:=a.drop 1 0;refine ⟨_,_,?_,⟨k+1,X,Y,az pl d tl (ks.getD k aG),((az pl d tl (ks.getD k aG)).length:Nat)-1,zb,zl,rfl,rfl,a.to _ _,oM,(by rw[y];rfl),(BS y oM),(Dp O oM),oM⟩,I.to _ kR⟩
 omega
theorem tB (ok:ByteArray->Prop)(pl:ByteArray->Int)(b:Nat)(j:List MapEntry)(e:∀ s,ok s->0<=pl s/\pl s<=1000)(f:∀ s,ok s->∃ i,Instr.findNow .string (.string s) j 0=some (some (i,iV (pl s)))):∀ (d:Nat) (p:PTm) (t:Tm) (A:Z9) (c:Nat) (l:List Stp) {w0:World} {h0:Hp} {o:List Bx} {R2:List Rw} {k:List (Hp->Prop)} (w:World) (h:Hp),G w h->TmH d h p t->MapS h b j->SS w0 h0 w h o (⟨86,9,A,c,(l).length,(l).flatMap dw⟩::R2) k->WfT1 ok d t->l.length+bu d t<=1000000->Calls Tryz.prog 26 #[.slice A l.length c,dl p,.map (some b)] w (xc fun v w1 h1=>∃ z y,v=.slice z (az pl d l t).length y/\SS w0 h0 w1 h1 o (⟨86,9,z,y,(az pl d l t).length,(az pl d l t).flatMap dw⟩::R2) k)
  | 0,_,_,_,_,_,_,_,_,_,_,_,_,_,x,_,_,_,_=>x.elim
  | d+1,p,t,A0,c0,l,w0,h0,o,R2,k,w,h,g,x,hM,hs,wf,hl=>by
    obtain ⟨op,n,q,s,A,c,B,ks,rfl,rfl,H,F,a⟩:=x.open;have u:=wf.two;obtain ⟨w1,w2,w3,I,C,J,K,L,D⟩:=wf;exact AJ ok pl b j e f d (fun p t A c l=>@fun w0 h0 o R2 k w h=>tB ok pl b j e f d p t A c l w h) op n q s A c B ks H (by have:=a.len;exact this▸u) w1 w2 w3 I C J K L D A0 c0 l hl w h g F a hM hs
section srt
open Go.RowKit Go.Maps Go.Sort Go.Shelf Go.WideShapes
def Tryz.keysZ_ren:Go.Shelf.Ren:=⟨fun|7=>67|10=>108|n=>n,fun|23=>133|26=>9|3=>4|28=>137|0=>0|27=>136|33=>129|4=>4|n=>n,fun|n=>n⟩
theorem Tryz.keysZ:Go.Proofs.SlLaysZ.n7 Tryz.prog Tryz.keysZ_ren:={
 mixed:=by kernel_rfl
 f7:=⟨Tryz.f67.name,by decide,Tryz.func67.trans (congrArg some kR)⟩
 f10:=⟨Tryz.f108.name,by decide,Tryz.func108.trans (congrArg some kR)⟩
 t0:=Tryz.underlying0
 a0:=Tryz.isAgg0
 z0:=Tryz.sizeOf0
 v0:=Tryz.zeroValue0
 t4:=Tryz.underlying4
 a4:=Tryz.isAgg4
 z4:=Tryz.sizeOf4
 v4:=Tryz.zeroValue4
 t23:=Tryz.underlying133
 a23:=Tryz.isAgg133
 z23:=Tryz.sizeOf133
 v23:=Tryz.zeroValue133
 t26:=Tryz.underlying9
 a26:=Tryz.isAgg9
 z26:=Tryz.sizeOf9
 v26:=Tryz.zeroValue9
 t27:=Tryz.underlying136
 a27:=Tryz.isAgg136
 z27:=Tryz.sizeOf136
 v27:=Tryz.zeroValue136
 t28:=Tryz.underlying137
 a28:=Tryz.isAgg137
 z28:=Tryz.sizeOf137
 v28:=Tryz.zeroValue137
 t33:=Tryz.underlying129
 a33:=Tryz.isAgg129
 z33:=Tryz.sizeOf129
 v33:=Tryz.zeroValue129 }
def Tryz.sortedZ_ren:Go.Shelf.Ren:=⟨fun|6=>66|8=>106|9=>107|11=>138|13=>140|12=>139|23=>174|24=>131|14=>165|15=>166|16=>167|17=>168|18=>169|19=>170|20=>171|21=>172|22=>173|25=>192|26=>193|27=>194|28=>195|29=>196|30=>197|31=>203|n=>n,fun|26=>9|28=>137|24=>54|0=>0|3=>3|37=>171|48=>170|50=>23|4=>4|40=>238|39=>237|45=>80|5=>5|9=>9|51=>258|55=>262|57=>270|58=>271|33=>129|n=>n,fun|n=>n⟩
theorem Tryz.sortedZ:Go.Proofs.SlLaysZ.n6 Tryz.prog Tryz.sortedZ_ren:={
 mixed:=by kernel_rfl
 f6:=⟨Tryz.f66.name,by decide,Tryz.func66.trans (congrArg some kR)⟩
 f8:=⟨Tryz.f106.name,by decide,Tryz.func106.trans (congrArg some kR)⟩
 f11:=⟨Tryz.f138.name,by decide,Tryz.func138.trans (congrArg some kR)⟩
 t0:=Tryz.underlying0
 a0:=Tryz.isAgg0
 z0:=Tryz.sizeOf0
 v0:=Tryz.zeroValue0
 t24:=Tryz.underlying54
 a24:=Tryz.isAgg54
 z24:=Tryz.sizeOf54
 v24:=Tryz.zeroValue54
 t26:=Tryz.underlying9
 a26:=Tryz.isAgg9
 z26:=Tryz.sizeOf9
 v26:=Tryz.zeroValue9
 t28:=Tryz.underlying137
 a28:=Tryz.isAgg137
 z28:=Tryz.sizeOf137
 v28:=Tryz.zeroValue137
 i26:=by kernel_rfl }
def Tryz.sortZ_ren:Go.Shelf.Ren:=⟨fun|6=>107|8=>140|9=>139|19=>174|20=>131|21=>165|22=>166|23=>167|24=>168|25=>169|26=>170|27=>171|28=>172|29=>173|36=>192|31=>193|32=>194|37=>195|38=>196|39=>197|41=>203|n=>n,fun|27=>54|29=>9|3=>3|32=>171|26=>54|0=>0|44=>170|46=>23|4=>4|36=>238|35=>237|41=>80|5=>5|9=>9|53=>258|57=>262|63=>270|64=>271|n=>n,fun|n=>n⟩
theorem Tryz.sortZ:Go.Proofs.SlLaysM.n6 Tryz.prog Tryz.sortZ_ren:={
 mixed:=by kernel_rfl
 f6:=⟨Tryz.f107.name,by decide,Tryz.func107.trans (congrArg some kR)⟩
 f8:=Tryz.func140.trans (congrArg some kR)
 f9:=⟨Tryz.f139.name,by decide,Tryz.func139.trans (congrArg some kR)⟩
 f19:=Tryz.func174.trans (congrArg some kR)
 f20:=Tryz.func131.trans (congrArg some kR)
 f21:=⟨Tryz.f165.name,by decide,Tryz.func165.trans (congrArg some kR)⟩
 f22:=⟨Tryz.f166.name,by decide,Tryz.func166.trans (congrArg some kR)⟩
 f23:=⟨Tryz.f167.name,by decide,Tryz.func167.trans (congrArg some kR)⟩
 f24:=⟨Tryz.f168.name,by decide,Tryz.func168.trans (congrArg some kR)⟩
 f25:=⟨Tryz.f169.name,by decide,Tryz.func169.trans (congrArg some kR)⟩
 f26:=⟨Tryz.f170.name,by decide,Tryz.func170.trans (congrArg some kR)⟩
 f27:=⟨Tryz.f171.name,by decide,Tryz.func171.trans (congrArg some kR)⟩
 f28:=⟨Tryz.f172.name,by decide,Tryz.func172.trans (congrArg some kR)⟩
 f29:=⟨Tryz.f173.name,by decide,Tryz.func173.trans (congrArg some kR)⟩
 f31:=Tryz.func193.trans (congrArg some kR)
 f32:=Tryz.func194.trans (congrArg some kR)
 f36:=⟨Tryz.f192.name,by decide,Tryz.func192.trans (congrArg some kR)⟩
 f37:=⟨Tryz.f195.name,by decide,Tryz.func195.trans (congrArg some kR)⟩
 f38:=⟨Tryz.f196.name,by decide,Tryz.func196.trans (congrArg some kR)⟩
 f39:=⟨Tryz.f197.name,by decide,Tryz.func197.trans (congrArg some kR)⟩
 f41:=⟨Tryz.f203.name,by decide,Tryz.func203.trans (congrArg some kR)⟩
 t0:=Tryz.underlying0
 a0:=Tryz.isAgg0
 z0:=Tryz.sizeOf0
 v0:=Tryz.zeroValue0
 t3:=Tryz.underlying3
 a3:=Tryz.isAgg3
 z3:=Tryz.sizeOf3
 v3:=Tryz.zeroValue3
 t4:=Tryz.underlying4
 a4:=Tryz.isAgg4
 z4:=Tryz.sizeOf4
 v4:=Tryz.zeroValue4
 t5:=Tryz.underlying5
 a5:=Tryz.isAgg5
 z5:=Tryz.sizeOf5
 v5:=Tryz.zeroValue5
 t9:=Tryz.underlying9
 a9:=Tryz.isAgg9
 z9:=Tryz.sizeOf9
 v9:=Tryz.zeroValue9
 t26:=Tryz.underlying54
 a26:=Tryz.isAgg54
 z26:=Tryz.sizeOf54
 v26:=Tryz.zeroValue54
 t27:=Tryz.underlying54
 a27:=Tryz.isAgg54
 z27:=Tryz.sizeOf54
 v27:=Tryz.zeroValue54
 t29:=Tryz.underlying9
 a29:=Tryz.isAgg9
 z29:=Tryz.sizeOf9
 v29:=Tryz.zeroValue9
 t32:=Tryz.underlying171
 a32:=Tryz.isAgg171
 z32:=Tryz.sizeOf171
 v32:=Tryz.zeroValue171
 t35:=Tryz.underlying237
 a35:=Tryz.isAgg237
 z35:=Tryz.sizeOf237
 v35:=Tryz.zeroValue237
 t36:=Tryz.underlying238
 a36:=Tryz.isAgg238
 z36:=Tryz.sizeOf238
 v36:=Tryz.zeroValue238
 t41:=Tryz.underlying80
 a41:=Tryz.isAgg80
 z41:=Tryz.sizeOf80
 v41:=Tryz.zeroValue80
 t44:=Tryz.underlying170
 a44:=Tryz.isAgg170
 z44:=Tryz.sizeOf170
 v44:=Tryz.zeroValue170
 t46:=Tryz.underlying23
 a46:=Tryz.isAgg23
 z46:=Tryz.sizeOf23
 v46:=Tryz.zeroValue23
 t53:=Tryz.underlying258
 a53:=Tryz.isAgg258
 z53:=Tryz.sizeOf258
 v53:=Tryz.zeroValue258
 t57:=Tryz.underlying262
 a57:=Tryz.isAgg262
 z57:=Tryz.sizeOf262
 v57:=Tryz.zeroValue262
 t63:=Tryz.underlying270
 a63:=Tryz.isAgg270
 z63:=Tryz.sizeOf270
 v63:=Tryz.zeroValue270
 t64:=Tryz.underlying271
 a64:=Tryz.isAgg271
 z64:=Tryz.sizeOf271
 v64:=Tryz.zeroValue271 }
theorem vk (m:Nat):AnyZ.SortsIn Tryz.prog Tryz.sortedZ_ren Fence.wide m :=
 ⟨fun blk off a d W e b c=>callsIn_wide.2 (AnyM.slices_Sort_string Tryz.sortZ blk off a d W e b c),fun p a W=>callsIn_wide.2 (AnyM.slices_Sort_string_none Tryz.sortZ p a W)⟩
theorem Ac (a:Option Nat)(W:World):CallsIn Fence.wide 5 Tryz.prog 67 #[.map a] W fun e w'=>e=.returned (.func (.func 108) #[] #[.pointer (some ⟨W.heap.size,0,none⟩)])/\w'=W.alloc (.cells #[.map a] 133) :=
 AnyZ.keys_in Tryz.keysZ Fence.wide 5 trivial rfl a W
theorem sV {H:Type}(b l:Nat)(d:DataW H)(R:Value->Option (DataW H × List MemPlace))(w:World)(c:w.ownsMap Tryz.prog 9 R b l d)(i:Maps.size d<=maxLen)(a:Maps.size d*16<=140737488355328) :
  CallsIn Fence.wide 5 Tryz.prog 66 #[.func (.func 108) #[] #[.pointer (some ⟨w.heap.size,0,none⟩)]] (w.alloc (.cells #[.map (some b)] 133)) fun e w'=>∃ (v:Value)(h:List (List UInt8)),e=.returned v/\h.Perm (strKeys d) /\
   w'.ownsRow (w.alloc (.cells #[.map (some b)] 133)).heap.size 9 1 v h.length ((h.mergeSort (fun x y=>decide (x<=y))).map encStr)/\(v=.slice none 0 0↔h=[])/\Below (w.alloc (.cells #[.map (some b)] 133)).heap.size (w.alloc (.cells #[.map (some b)] 133)) w':=by
 have k:=c.lt
 have j:SeqGives Fence.wide 2 Tryz.prog 108 #[.pointer (some ⟨w.heap.size,0,none⟩)] encStr (fun h=>h.Perm (strKeys d)) (Maps.size d) (w.alloc (.cells #[.map (some b)] 133)) :=
  AnyZ.keys_gives (ρ:=Tryz.keysZ_ren) { Tryz.keysZ with } Fence.wide _ trivial rfl oM w.heap.size b l d _ (by simp) (by simp) (by
   obtain ⟨o,f,z,u,B,p⟩:=c;exact ⟨o,f,(Below.heap_alloc _ _ b k).trans z,u,B,p⟩)
 exact AnyZ.sorted_in Tryz.sortedZ Fence.wide 5 trivial trivial trivial trivial rfl oM (vk _) (enters_of Tryz.func107 kR rfl) 108 #[.pointer (some ⟨w.heap.size,0,none⟩)] trivial (enters_of Tryz.func108 kR rfl) _ _ i a _ j
section
variable {P:Program}{k:TypeId}(hk:P.underlying k=some .string)
def RU (_:Value):Option (DataW Unit × List MemPlace):=some (.nil,[])
theorem xf (hk:P.underlying k=some .string){a:List ByteArray}(c:∀ s∈a,s.size<=maxLen){e:MapEntry}(f:e∈gt a):∃ s∈a,WideElems.rd P k RU e=some (.string s.data.toList,.nil)/\e.key=.string s:=by
 obtain ⟨j,s,d,rfl⟩:=pd f;have b:s∈a:=Lv.2 ⟨j,d⟩;refine ⟨s,b,?_,rfl⟩
 have h1:keyOf P k (.string s)=some (.string s.data.toList):=by
  have:=c s b
  simp[keyOf,hk,mapKey,this]
 unfold WideElems.rd
 rw[h1];rfl
theorem qj {c:List ByteArray}(d:c.Nodup):MapKept.Stamped (gt c).toArray c.length:=by
 refine ⟨fun x k=>?_,?_,?_⟩
 ·obtain ⟨j,s,l,rfl⟩:=pd (by simpa using k)
  exact (At.1 l).1
 ·have e:(gt c).map (·.born)=po c.length:=by
   apply Lx
   ·simp[gt]
   ·intro i h1 f;simp[gt]
  show ((gt c).map (·.born)).Nodup
  rw[e];exact List.nodup_range
 ·have e:(gt c).map (·.key)=c.map Value.string:=by
   apply Lx
   ·simp[gt]
   ·intro i h1 f;simp[gt]
  show ((gt c).map (·.key)).Nodup
  rw[e];exact List.Pairwise.map _ (fun a b h e=>h (Value.string.inj e)) d
theorem Do (hk:P.underlying k=some .string){w:World}{b:Nat}{a:List ByteArray}(u:w.heap[b]?=some (.map (gt a).toArray a.length))(y:a.Nodup)(e:∀ s∈a,s.size<=maxLen)(j:a.length<=1048576) :
  ∃ D:DataW Unit,w.ownsMap P k RU b a.length D/\(strKeys D).Perm (a.map fun s=>s.data.toList)/\Maps.size D<=1048576:=by
 have c:(gt a).length=a.length:=by simp[gt]
 refine ⟨.map (((gt a).map (WideElems.rg P k RU)).foldr DataW.insert []),⟨(gt a).toArray,a.length,u,⟨?_,qj y,fun x B=>?_⟩,?_,rfl⟩,?_,?_⟩
 ·show (gt a).toArray.size<=maxLen
  rw[Ly,c];unfold maxLen;omega
 ·obtain ⟨s,_,h,_⟩:=xf (P:=P) hk e (by simpa using B)
  exact ⟨_,h⟩
 ·rw[Ly,c];exact ey _
 ·show ((((gt a).map (WideElems.rg P k RU)).foldr DataW.insert []).map fun p=>strOf p.1).Perm _
  refine ((sorted_perm _).map _).trans (List.Perm.of_eq ?_);rw[List.map_map]
  apply Lx
  ·simp[c]
  ·intro i h1 C
   have hi:i<(gt a).length:=by simpa using h1
   obtain ⟨s,z,hr,d⟩:=xf (P:=P) hk e (gx hi);obtain ⟨o,f,l⟩:=sQ (Lu hi);rw[yz,yz];rw[l] at d
   injection d with d
   subst d
   show strOf (((WideElems.rd P k RU (gt a)[i]).getD (.bool false,.nil)).1)=_
   rw[hr]
   show o.data.toList=_
   rw[Lu oM] at f
   rw[Option.some.inj f]
 ·show Maps.size (.map _)<=_
  rw[Maps.size_eq,(sorted_perm _).length_eq,K7,c];exact j
end
theorem uD {w w':World}{h:Hp}(g:G w h)(x:Ext w w'):∃ h',Up w h w' h'/\∀ b,h.size<=b->h'[b]?=w'.heap[b]?:=by
 have c:=x.size;have e0:=g.size
 have key:∀ b,h.size<=b->(h++w'.heap.extract h.size w'.heap.size)[b]?=w'.heap[b]?:=fun b a=>by
  rw[Array.getElem?_append_right a,Array.getElem?_extract]
  by_cases hl:b<w'.heap.size
  ·rw[if_pos oM];congr 1;omega
  ·rw[if_neg oM,Array.getElem?_eq_none oM]
 refine ⟨h++w'.heap.extract h.size w'.heap.size,⟨x,⟨by simp,fun b a=>yh a⟩,⟨by simp;omega,fun b=>?_⟩⟩,key⟩
 rcases Nat.lt_or_ge b h.size with a|a
 ·rw[yh a]
  have e:=Below.block x b oM
  rcases g.blk b with h1|h1
  ·exact .inl (h1.trans e.symm)
  ·exact .inr h1
 ·exact .inl (key b a)
theorem xT (ok:ByteArray->Prop)(Z:∀ s,ok s->s.size<=1000)(d:Nat)(hd:d<=20)(p:PTm)(t:Tm)(w:World)(h:Hp)(g:G w h)(hT:TmH d h p t)(V:WfT1 ok d t):CR 24 #[dl p] w h (fun v h1=>∃ (A:Z9)(c:Nat)(B:List ByteArray),v=.slice A B.length c/\B.length<=c/\B.length<=1048576/\SlO 1 eo ⟨#[]⟩ h1 A B/\∀ x,x∈B↔ir d t x):=by
 refine (callsIn_wide (n:=6)).1 (callsIn_of_wp Tryz.func24 rfl trivial ?_ rfl)
 simp only[Tryz.ntmps24,Ly,yt,Li,Nat.reduceAdd,Nat.reduceSub,Array.replicate_succ,Array.replicate_zero,List.push_toArray,List.append_toArray,List.nil_append,List.cons_append]
 unfold dl
 have hfK:Fence.wide.fn 65:=trivial;have hf2:Fence.wide.fn 67:=trivial;have hf3:Fence.wide.fn 66:=trivial
 have O:∀ o:Obj,G ((w.alloc o).alloc (.map #[] 0)) ((h.push bc).push bc)/\MapK ((w.alloc o).alloc (.map #[] 0)) ((h.push bc).push bc) (w.heap.size+1) []/\TmH d ((h.push bc).push bc) p t:=fun o=>by
  have u1:Up w h (w.alloc o) (h.push bc):=Up.allocAny g o bc (.inr rfl);have u2:Up (w.alloc o) (h.push bc) ((w.alloc o).alloc (.map #[] 0)) ((h.push bc).push bc):=Up.allocAny u1.g _ _ (.inr rfl);refine ⟨u2.g,⟨?_,?_,List.nodup_nil⟩,(hT.gw u1.gr.gw).gw u2.gr.gw⟩
  ·rw[show w.heap.size+1=(h.push bc).size by rw[Array.size_push,g.size]];exact gp
  ·rw[heap_alloc,show w.heap.size+1=(w.alloc o).heap.size by simp];exact gp
 have W:∀ s,ir d t s->s.size<=maxLen:=fun s hs=>by have:=Z s (ng V hs);unfold maxLen;omega
 have hcn:=jp V;have hp2:2^d<=1048576:=e6 (Ju oM hd) kD;have hmm:=@run_makeMap Tryz.prog
 gi_wp2
 gi_at_call 65
 generalize hW2:(w.alloc _).alloc (.map #[] 0)=W2
 have q:=O (.cells #[iV p.op,iV p.n,.bool (av p.q.num),uV (lo (ac p.q.num)),.string (hi (ac p.q.num)),uV (lo (qd p.q)),.string (hi (qd p.q)),.string p.s,qS p.A p.m p.c] 32);rw[hW2] at q
 clear O
 have cg:=(callsIn_wide (n:=5)).2 (ui ok d p t (w.heap.size+1) [] W2 _ q.1 q.2.2 V q.2.1)
 unfold dl at cg
 refine cg.mono ?_
 clear cg
 rintro e w' ⟨v,h3,rfl,M,rfl,B,ho,hn,Q,hl⟩;have F:∀ x,x∈B↔ir d t x:=fun x=>by rw[Q x];simp
 have S:B.length<=1048576:=by have:=(show B.length<=0+bu d t from hl);omega
 have bb:w.heap.size+2=W2.heap.size:=by rw[<-hW2];simp
 have j:Go.RowKit.Below w.heap.size w W2:=by rw[<-hW2];exact ((Below.refl _ w).alloc (nR _) _).alloc (by simp) _
 have K:Go.RowKit.Below w.heap.size w w':=⟨M.mo.os.trans j.os,M.mo.tape.trans j.tape,M.mo.output.trans j.output,e6 j.size M.mo.size,fun c hc=>(M.mo.blk c oM (fun hm=>by rw[vl] at hm;omega)).trans (j.block c hc)⟩
 clear Q hW2
 obtain ⟨D,hD1,I,hD3⟩:=Do (P:=Tryz.prog) (k:=9) Tryz.underlying9 ho hn (fun s h_=>W s ((F s).1 h_)) S
 gi_wp2
 gi_at_call 67
 refine (Ac _ _).mono ?_;rintro e w'' ⟨rfl,rfl⟩
 gi_wp2
 gi_at_call 66
 refine (sV (w.heap.size+1) B.length D RU w' hD1 (by unfold maxLen;omega) oM).mono ?_;rintro e w3 ⟨v,C,rfl,H,Y,-,hz3⟩;have U:=K.size;have X:Ext w w3:=(K.alloc U _).trans (hz3.mono (by simp;omega));obtain ⟨h',u,key⟩:=uD g X
 have J:∀ x:ByteArray,x∈((C.mergeSort fun x y=>decide (x<=y)).map fun z=>(⟨z.toArray⟩:ByteArray))↔ir d t x:=fun x=>by
  rw[<-F x,g8]
  constructor
  ·rintro ⟨z,hz,rfl⟩
   have h1:=(H.trans I).mem_iff.1 ((Lz C _).mem_iff.1 hz);obtain ⟨s,hs,e⟩:=g8.1 h1;have:s=⟨z.toArray⟩:=by cases s;rename_i a;simp at e;subst e;rfl
   rw[<-this];exact hs
  ·intro hx
   refine ⟨x.data.toList,(Lz C _).mem_iff.2 ((H.trans I).mem_iff.2 (g8.2 ⟨x,hx,rfl⟩)),?_⟩;cases x;simp
 have L:((C.mergeSort fun x y=>decide (x<=y)).map fun z=>(⟨z.toArray⟩:ByteArray)).length=C.length:=by rw[K7,(Lz C _).length_eq]
 have hzs:C.length<=1048576:=by rw[(H.trans I).length_eq,K7];exact S
 gi_wp2
 go_ret
 generalize hzz:((C.mergeSort fun x y=>decide (x<=y)).map fun z=>(⟨z.toArray⟩:ByteArray))=zz at J L
 refine ⟨v,h',rfl,u,?_⟩
 rcases Y with ⟨-,⟨rfl,hz⟩|⟨gb,cap,cur,rfl,hbase,hgb,r1,-,-,r4⟩⟩
 ·have:zz=[]:=yU oM
  subst this;refine ⟨none,0,[],rfl,nR _,by simp,SlO.nil,fun x=>J x⟩
 ·refine ⟨sB gb,cap,zz,by rw[L],by omega,by omega,SlO.of_flat (sz:=1) (f:=eo) (d:=⟨#[]⟩) (b:=gb) (o:=0) (fun _=>rfl) fun i v hv=>?_,J⟩
  have hf:zz.flatMap eo=(C.mergeSort fun x y=>decide (x<=y)).map encStr:=by
   rw[<-hzz]
   generalize (C.mergeSort fun x y=>decide (x<=y))=q
   induction q with
   | nil=>rfl
   | cons a l ih=>rw[zh,zh,List.flatMap_cons,ih];rfl
  rw[hf,<-r4,Nat.mul_one] at hv
  have hv2:cur.toList[i]?=some v:=by
   rw[List.getElem?_take] at hv
   split at hv
   ·exact hv
   ·cases hv
  have hgs:h.size<=gb:=by have:=g.size;simp at hbase;omega
  unfold dG
  rw[key gb hgs,hgb,yW]
  show cur[i]?=some v
  rw[<-Array.getElem?_toList];exact hv2
end srt
def qm (c:Nat):Prop:=(97<=c/\c<=122)\/(65<=c/\c<=90)
def vv (c:Nat):Prop:=((97<=c/\c<=122)\/(65<=c/\c<=90))\/(48<=c/\c<=57)\/c=95
instance (c:Nat):Decidable (qm c):=by unfold qm;infer_instance
instance (c:Nat):Decidable (vv c):=by unfold vv;infer_instance
def mT (s:ByteArray):Int:=if s=⟨#[97,98,115]⟩ then 9 else if s=⟨#[114,97,109,112]⟩ then 10 else if s=⟨#[98,101,110,100]⟩ then 11 else if s=⟨#[109,97,120]⟩ then 12 else if s=⟨#[109,105,110]⟩ then 13 else 0
def fU (s:ByteArray):Bool:=decide (mT s≠0)
def ez (s:ByteArray):Bool:=decide (1<=s.size/\s.size<=20/\qm (bC s 0)/\(∀ i,i<s.size->vv (bC s i))/\fU s=false)
theorem wQ {s:ByteArray}(h:¬(1<=s.size/\s.size<=20/\qm (bC s 0))):Value.bool false=.bool (ez s):=congrArg Value.bool (decide_eq_false fun x=>h ⟨x.1,x.2.1,x.2.2.1⟩).symm
theorem GH {s:ByteArray}{i:Nat}(h:i<s.size)(a:¬vv (bC s i)):Value.bool false=.bool (ez s):=congrArg Value.bool (decide_eq_false fun x=>a (x.2.2.2.1 i h)).symm
theorem GP {s:ByteArray}(h1:1<=s.size/\s.size<=20)(a:qm (bC s 0))(b:∀ i,i<s.size->vv (bC s i)):ez s = !fU s:=by
 unfold ez
 cases h:fU s
 ·exact decide_eq_true ⟨h1.1,h1.2,a,b,rfl⟩
 ·exact decide_eq_false fun x=>by cases x.2.2.2.2
def kh:List MapEntry:=[⟨.string ⟨#[97,98,115]⟩,.int .i64 9,0⟩,⟨.string ⟨#[114,97,109,112]⟩,.int .i64 10,1⟩,⟨.string ⟨#[98,101,110,100]⟩,.int .i64 11,2⟩,⟨.string ⟨#[109,97,120]⟩,.int .i64 12,3⟩,⟨.string ⟨#[109,105,110]⟩,.int .i64 13,4⟩]
theorem Da (s:ByteArray):(∃ i,Instr.findNow .string (.string s) kh 0=some (some (i,.int .i64 (mT s)))/\fU s=true)\/(Instr.findNow .string (.string s) kh 0=some none/\fU s=false/\mT s=0):=by
 by_cases h1:s=⟨#[97,98,115]⟩
 ·subst h1;exact .inl ⟨0,by kernel_rfl,by decide⟩
 by_cases h2:s=⟨#[114,97,109,112]⟩
 ·subst h2;exact .inl ⟨1,by kernel_rfl,by decide⟩
 by_cases h3:s=⟨#[98,101,110,100]⟩
 ·subst h3;exact .inl ⟨2,by kernel_rfl,by decide⟩
 by_cases h4:s=⟨#[109,97,120]⟩
 ·subst h4;exact .inl ⟨3,by kernel_rfl,by decide⟩
 by_cases h5:s=⟨#[109,105,110]⟩
 ·subst h5;exact .inl ⟨4,by kernel_rfl,by decide⟩
 have h:mT s=0:=by unfold mT;rw[if_neg h1,if_neg h2,if_neg h3,if_neg h4,if_neg h5]
 refine .inr ⟨?_,by unfold fU;rw[h];rfl,h⟩
 rcases MapKept.findNow_spec (d:=.string) (k:=.string s) (by simp[MapKept.IsKey]) kh 0 (fun x f=>by
  simp only[kh,hP,List.not_mem_nil,or_false] at f
  rcases f with rfl|rfl|rfl|rfl|rfl<;>simp[MapKept.IsKey]) with ⟨a,_⟩|⟨j,e,a,b,c⟩
 ·exact a
 ·exfalso
  match j,b with
  | 0,b=>injection b with b;subst b;injection c with c;exact h1 c.symm
  | 1,b=>injection b with b;subst b;injection c with c;exact h2 c.symm
  | 2,b=>injection b with b;subst b;injection c with c;exact h3 c.symm
  | 3,b=>injection b with b;subst b;injection c with c;exact h4 c.symm
  | 4,b=>injection b with b;subst b;injection c with c;exact h5 c.symm
  | n+5,b=>cases b
theorem rB (c:Nat)(z:c<256)(w:World)(h:Hp)(g:G w h):CV 101 #[.int .u8 (c:Nat)] w h (.bool (decide (qm (c)))):=by
 have a:=sS g;refine go Tryz.func101 [(0,.int .u8 (c:Nat))] rfl (ab a ae (a7 (lL a ae ?_)));cases b:(decide ((97:Int)<=(c:Int)))
 .
  have i:=oF b;refine lB 4 b (lL a ae (lG 6 ?_));refine lG 7 (lL a [.v qF,.c,.c] ?_);cases f:(decide ((65:Int)<=(c:Int)))
  .
   have j:=oF f;refine lB 11 f (lL a ae (lG 13 ?_));exact lG 14 (lL a [.v qF,.v qF,.c] (af a [] qF (congrArg Value.bool (decide_eq_false (by unfold qm;omega)).symm)))
  have j:=oT f;refine lB 11 f (lL a aN ?_);cases d:(decide ((c:Int)<=(90:Int)))
  .
   have k:=oF d;exact lB 14 d (lL a [.v qF,.v qF,.c] (af a [] qF (congrArg Value.bool (decide_eq_false (by unfold qm;omega)).symm)))
  have k:=oT d;exact lB 14 d (lL a [.v qT,.v qT,.c] (af a [] qT (congrArg Value.bool (decide_eq_true (by unfold qm;omega)).symm)))
 have i:=oT b;refine lB 4 b (lL a aN ?_);cases e:(decide ((c:Int)<=(122:Int)))
 .
  have l:=oF e;refine lB 7 e (lL a [.v qF,.c,.c] ?_);have ⟨u,y⟩:=dT (p:=(65:Int)<=(c:Int)) oM;refine lB 11 u (lL a aN ?_);have ⟨o,x⟩:=dF (p:=(c:Int)<=(90:Int)) oM;exact lB 14 o (lL a [.v qF,.v qF,.c] (af a [] qF (congrArg Value.bool (decide_eq_false (by unfold qm;omega)).symm)))
 have l:=oT e;refine lB 7 e (lL a [.v qT,.c] (lG 10 ?_));exact lG 11 (lG 12 (lG 13 (lG 14 (lG 15 (lL a [.v qT,.c] (af a [] qT (congrArg Value.bool (decide_eq_true (by unfold qm;omega)).symm)))))))
theorem BP (c:Nat)(i:c<256)(w:World)(h:Hp)(g:G w h):CV 137 #[.int .u8 (c:Nat)] w h (.bool (decide (48<=(c)/\(c)<=57))):=by
 have a:=sS g;refine go Tryz.func137 [(0,.int .u8 (c:Nat))] rfl (ab a ae (a7 (lL a ae ?_)));cases b:(decide ((48:Int)<=(c:Int)))
 .
  have e:=oF b;refine lB 4 b (lL a ae (lG 6 ?_));exact lG 7 (lL a [.v qF,.c] (af a [] qF (congrArg Value.bool (decide_eq_false oM).symm)))
 have e:=oT b;refine lB 4 b (lL a aN ?_);cases d:(decide ((c:Int)<=(57:Int)))
 .
  have f:=oF d;exact lB 7 d (lL a [.v qF,.c] (af a [] qF (congrArg Value.bool (decide_eq_false oM).symm)))
 have f:=oT d;exact lB 7 d (lL a [.v qT,.c] (af a [] qT (congrArg Value.bool (decide_eq_true oM).symm)))
theorem xX (c:Nat)(k:c<256)(w:World)(h:Hp)(g:G w h):CV 102 #[.int .u8 (c:Nat)] w h (.bool (decide (vv (c)))):=by
 have a:=sS g;refine go Tryz.func102 [(0,.int .u8 (c:Nat))] rfl (ab a ae (a7 (lL a ae (ak 4 a (rB c k _ _ a.g) (fun w1 o a=>?_)))));cases i:(decide (qm (c)))
 .
  have f:=oF i;refine lL a aN (ak 7 a (BP c k _ _ a.g) (fun p l a=>?_));cases d:(decide (48<=(c)/\(c)<=57))
  .
   have j:=oF d;refine lL a [.v qF,.c,.c] ?_;cases b:((c:Int) == (95:Int))
   .
    have e:=ah b;exact lB 11 b (lL a [.v qF,.c] (af a [] qF (congrArg Value.bool (decide_eq_false (by unfold qm at *;unfold vv;omega)).symm)))
   have e:=eq_of_beq b;exact lB 11 b (lL a [.v qT,.c] (af a [] qT (congrArg Value.bool (decide_eq_true (by unfold qm at *;unfold vv;omega)).symm)))
  have j:=oT d;refine lL a [.v qT,.c] (lG 10 ?_);exact lG 11 (lL a [.v qT,.c] (af a [] qT (congrArg Value.bool (decide_eq_true (by unfold qm at *;unfold vv;omega)).symm)))
 have f:=oT i;refine lL a ae (lG 6 ?_);refine lG 7 (lL a [.v qT,.c] (lG 10 ?_));exact lG 11 (lL a [.v qT,.c] (af a [] qT (congrArg Value.bool (decide_eq_true (by unfold qm at *;unfold vv;omega)).symm)))
theorem C1  (w:World)(h:Hp)(g:G w h):CR 103 #[] w h (fun v h1=>∃ b,v=.map (some b)/\MapS h1 b kh):=by
 have a:=sS g;refine go Tryz.func103 [] rfl (ab a ae (a7 (Ge 1 a (fun o w2 y a l=>nE 76 9 3 (⟨#[97,98,115]⟩) (iV 9) a l (fun u a i=>nE 76 9 3 (⟨#[114,97,109,112]⟩) (iV 10) a i (fun z a k=>nE 76 9 3 (⟨#[98,101,110,100]⟩) (iV 11) a k (fun x a c=>nE 76 9 3 (⟨#[109,97,120]⟩) (iV 12) a c (fun _ a e=>nE 76 9 3 (⟨#[109,105,110]⟩) (iV 13) a e (fun _ a d=>lL a ae ?_)))))))));obtain ⟨_,a,j⟩:=a.pubMap d;replace a:=a.to [] [];replace a:=a.add (K:=fun p=>MapS p o [⟨.string (⟨#[97,98,115]⟩),iV 9,0⟩,⟨.string (⟨#[114,97,109,112]⟩),iV 10,1⟩,⟨.string (⟨#[98,101,110,100]⟩),iV 11,2⟩,⟨.string (⟨#[109,97,120]⟩),iV 12,3⟩,⟨.string (⟨#[109,105,110]⟩),iV 13,4⟩]) j;exact lL a ae (af a [] (.map (some o)) (⟨_,rfl,a.f.1⟩))
theorem Bi (s:ByteArray)(a:s.size<=1000000)(w:World)(h:Hp)(g:G w h):CV 61 #[.string s] w h (.bool (ez s)):=by
 have a:=sS g;refine go Tryz.func61 [(0,.string s)] rfl (ab a ae (ag (ab a [.c,.v (nV s.size)] ?_)));cases d:(decide ((s.size:Int)<(1:Int)))
 .
  have u:=oF d;refine lB 8 d (lL a [.c,.c,.v (nV s.size)] ?_);cases l:(decide ((20:Int)<(s.size:Int)))
  .
   have C:=oF l;refine lB 12 l (lL a [.v qF,.c,.c] (lV 16 (.int .u8 (bC s 0:Nat)) ?_ (hr:=gG (tx:=9) (x:=.tmp 15) (i:=.const (iV 0)) (k:=.i64) (s:=s) (n:=0) (j:=(0:Int)) kR kR kR kR oM oM _)));refine ak 17 a (rB ((bC s 0)) (dM _ _) _ _ a.g) (fun w3 L a=>?_);cases y:(decide (qm ((bC s 0))))
   .
    have B:=oF y;exact lL a [.v qT,.v qT] (au (ab a ae (af a [] qF (wQ (fun b=>by have D:=b.1;have F:=b.2.1;first|omega|exact absurd b.2.2 aM)))))
   have B:=oT y;refine lL a [.v qF,.v qF] (ai (cK (cQ (ab a [.c,.v (nV s.size),.c] (be ?_)))));refine bU _ (CG.loop (fun H Γ J=>∃ (k:Nat)(b:Hp),H=s.size-k/\Γ=[(0,.string s),(21,nV s.size),(22,nV k)]/\SS w h J b [] [] []/\k<=s.size/\(∀ i,i<k->vv (bC s i))) _ ⟨0,L,rfl,rfl,a.to _ _,JU _,(fun i hi=>absurd hi (K6 i))⟩ ?_);rintro _ _ W ⟨k,V,Q,rfl,a,hk,p⟩;refine aD ?_;cases e:(decide ((k:Int)<(s.size:Int)))
   .
    have z:=oF e;refine lB 23 e (ag (dv (CG.exit ?_)))
    show CG _ _ _ _ _ _ _ _
    refine aD (lC 32 a (C1 _ _ a.g) ?_);rintro _ _ _ a ⟨O,rfl,I⟩;replace a:=(a.add (K:=fun b=>MapS b O kh) I);refine lL a ae (Hw 34 76 9 3 (s) true (iV (mT s)) ((fU s)) a a.f.1 ?_ (hf:=(by rcases Da s with ⟨i_,e1_,e2_⟩|⟨e1_,e2_,e3_⟩;exact .inl ⟨i_,e1_,e2_⟩;exact .inr ⟨e1_,e2_,fun _=>by rw[e3_];kernel_rfl⟩)));refine lL a [.c,.v (iV (mT s)),.v (.bool (fU s)),.c,.c] (a7 (lL a ae ?_));cases za:(!(fU s))
    .
     refine lB 38 za (lL a ae (lN (kX ?_)));have o:=GP (s:=s) ⟨by omega,by omega⟩ aM (fun i hi=>p i oM);exact a.ret [] qF (congrArg Value.bool (by rw[o];exact (by assumption:(!fU s)=false).symm))
    refine lB 38 za (lL a ae (lN (kX ?_)));have o:=GP (s:=s) ⟨by omega,by omega⟩ aM (fun i hi=>p i oM);exact a.ret [] qT (congrArg Value.bool (by rw[o];exact (by assumption:(!fU s)=true).symm))
   have z:=oT e;refine lB 23 e (ag (bT (cK (cQ (kZ (ab a aN (a7 (lL a aN (lV 27 (.int .u8 (bC s k:Nat)) ?_ (hr:=gG (tx:=9) (x:=.tmp 25) (i:=.tmp 26) (k:=.i64) (s:=s) (n:=k) (j:=(k:Int)) kR kR kR kR oM oM _))))))))));refine ak 28 a (xX ((bC s k)) (dM _ _) _ _ a.g) (fun _ U a=>?_);cases zb:(decide (vv ((bC s k))))
   .
    have S:=oF zb;exact lL a [.v qT] (au (ab a ae (af a [] qF (GH (i:=k) oM aM))))
   have S:=oT zb;refine lL a [.v qF] (ai (cK (kQ (bM 30 ((k:Nat)+1) (k+1) ?_))));refine lL a ae (lD ?_);intro X M;refine ⟨_,_,?_,⟨k+1,U,rfl,rfl,a.to _ _,oM,(fun i hi=>by rcases Nat.lt_succ_iff_lt_or_eq.1 hi with b|rfl;exact p i b;assumption)⟩,M.to _ kR⟩
   omega
  have C:=oT l;refine lB 12 l (lL a [.v qT,.c] (lG 15 ?_));exact lG 16 (lG 17 (lG 18 (lL a [.v qT] (au (ab a ae (af a [] qF (wQ (fun b=>by have D:=b.1;have F:=b.2.1;first|omega|exact absurd b.2.2 aM))))))))
 have u:=oT d;refine lB 8 d (lL a ae (lG 10 ?_));refine lG 11 (lG 12 (lL a [.v qT,.c] (lG 15 ?_)));exact lG 16 (lG 17 (lG 18 (lL a [.v qT] (au (ab a ae (af a [] qF (wQ (fun b=>by have D:=b.1;have F:=b.2.1;first|omega|exact absurd b.2.2 aM))))))))
theorem DW  (isb:ByteArray->Bool)(sm:ByteArray->Prop)(v6:∀ s,sm s->∀ (w:World) (h:Hp),G w h->Calls Tryz.prog 61 #[.string s] w (Ret w h (fun v _=>∃ b,v=.bool b/\b=isb s)))(d:Nat)(p:PTm)(t:Tm)(hd:d<=24)(w:World)(h:Hp)(g:G w h)(l:TmH d h p t)(j:vn sm d t):CR 23 #[dl p] w h (fun v _=>∃ e:Int,v=iV e/\((WfT (fun s=>isb s=true) d t/\e=(if 1000<dd d t then 18 else 0))\/(¬WfT (fun s=>isb s=true) d t/\e=2))):=by
 have a:=((sS g).add (K:=fun i=>TmH d i p t) l);refine go Tryz.func23 [(0,dl p)] rfl (aD (lA 1 32 (dr p) a (fun y w2 F a=>lL a ae (ag (ab a [.o (dl p) 0 0 9] (ak 4 a (t6 sm d p t 24 _ _ a.g a.f.1 j oM oM) (fun B x a=>ai (cK (cQ (ab a [.o (dl p) 0 0 9] (lC 6 a (re isb sm v6 d p t _ _ a.g a.f.1 j) ?_)))))))))));rintro _ D C a ⟨k,rfl,c⟩;cases u:(k)
 .
  exact lL a [.v qT] (au (ab a ae (af a [] (iV 2) (⟨_,rfl,.inr ⟨fun i=>Bool.noConfusion ((c.2 i).symm.trans aM),rfl⟩⟩))))
 refine lL a [.v qF] (ai (cK (cQ (ab a [.o (dl p) 0 0 9] (ak 9 a (rr (fun s=>isb s=true) d p t _ _ a.g a.f.1 (c.1 aM)) (fun z _ a=>?_))))));cases za:(decide ((1000:Int)<(((min (dd d t) 1001:Nat):Int):Int)))
 .
  have zb:=oF za;exact lB 10 za (ai (cK (ab a ae (af a [] (iV 0) (⟨_,rfl,.inl ⟨c.1 aM,by split<;>omega⟩⟩)))))
 have zb:=oT za;exact lB 10 za (au (ab a ae (af a [] (iV 18) (⟨_,rfl,.inl ⟨c.1 aM,by split<;>omega⟩⟩))))
theorem vR (A:Z9)(c:Nat)(w:World)(h:Hp)(g:G w h)(l:SlO 1 eo ⟨#[]⟩ h A ([⟨#[120]⟩,⟨#[121]⟩]:List ByteArray)):CR 39 #[.slice A 2 c] w h (fun v h1=>∃ b,v=.map (some b)/\MapS h1 b [⟨.string (⟨#[120]⟩),iV 0,0⟩,⟨.string (⟨#[121]⟩),iV 1,1⟩]):=by
 have a:=((sS g).aS l);have o:([⟨#[120]⟩,⟨#[121]⟩]:List ByteArray).length=2:=rfl;refine go Tryz.func39 [(0,qS A 2 c)] rfl (ab a ae (a7 (Ge 6 a (fun d w2 y a k=>lL a ae (ag (ab a [.c,.v (iV 2),.c] (be (cU ?_))))))));refine cN (ab a [.v qT] (ag (bT (cK (cQ (kZ (ab a ae (lX 12 A 2 c 1 0 0 ((a.f.1).ok (Am rfl)) ?_))))))));refine lH 13 (.string (⟨#[120]⟩)) a ((a.f.1).el 0 (Am rfl)) (lL a aN (lN (kQ (lL a ff (nE 76 9 3 (⟨#[120]⟩) (iV 0) a k (fun x a i=>lN (kQ (lL a [.v (iV 1),.c] (lD (CL.to [(2,.map none),(3,.map (some d)),(7,qS A 2 c),(8,iV 2),(9,iV 1),(10,qT),(11,iV 0),(12,.pointer (some ⟨(aB A),aO A+0*1,none⟩)),(13,.string (⟨#[120]⟩)),(4,iV 0),(5,.string (⟨#[120]⟩)),(14,.map (some d)),(15,.string (⟨#[120]⟩)),(16,iV 0),(17,iV 1)] ?_))))))))));replace a:=a.to [] [];refine cN (ab a [.v qT] (ag (bT (cK (cQ (kZ (ab a ae (lX 12 A 2 c 1 1 1 ((a.f.1).ok (Am rfl)) ?_))))))));refine lH 13 (.string (⟨#[121]⟩)) a ((a.f.1).el 1 (Am rfl)) (lL a aN (lN (kQ (lL a ff (nE 76 9 3 (⟨#[121]⟩) (iV 1) a i (fun z a j=>lN (kQ (lL a [.v (iV 2),.c] (lD (CL.to [(2,.map none),(3,.map (some d)),(7,qS A 2 c),(8,iV 2),(9,iV 2),(10,qT),(11,iV 1),(12,.pointer (some ⟨(aB A),aO A+1*1,none⟩)),(13,.string (⟨#[121]⟩)),(4,iV 1),(5,.string (⟨#[121]⟩)),(14,.map (some d)),(15,.string (⟨#[121]⟩)),(16,iV 1),(17,iV 2)] ?_))))))))));replace a:=a.to [] [];refine cN (ab a [.v qF] (ag (dv (CG.exit ?_))))
 show CG _ _ _ _ _ _ _ _
 refine ab a ae ?_;obtain ⟨u,a,e⟩:=a.pubMap j;replace a:=a.to [] [];replace a:=a.add (K:=fun p=>MapS p d [⟨.string (⟨#[120]⟩),iV 0,0⟩,⟨.string (⟨#[121]⟩),iV 1,1⟩]) e;exact lL a ae (af a [] (.map (some d)) (⟨_,rfl,a.f.1⟩))
theorem xJ (A:Z9)(c:Nat)(w:World)(h:Hp)(g:G w h)(u:SlO 1 eo ⟨#[]⟩ h A ([⟨#[120]⟩,⟨#[121]⟩,⟨#[122]⟩,⟨#[120]⟩]:List ByteArray)):CR 39 #[.slice A 4 c] w h (fun v h1=>∃ b,v=.map (some b)/\MapS h1 b [⟨.string (⟨#[120]⟩),iV 3,0⟩,⟨.string (⟨#[121]⟩),iV 1,1⟩,⟨.string (⟨#[122]⟩),iV 2,2⟩]):=by
 have a:=((sS g).aS u);have x:([⟨#[120]⟩,⟨#[121]⟩,⟨#[122]⟩,⟨#[120]⟩]:List ByteArray).length=4:=rfl;refine go Tryz.func39 [(0,qS A 4 c)] rfl (ab a ae (a7 (Ge 6 a (fun d w2 C a p=>lL a ae (ag (ab a [.c,.v (iV 4),.c] (be (cU ?_))))))));refine cN (ab a [.v qT] (ag (bT (cK (cQ (kZ (ab a ae (lX 12 A 4 c 1 0 0 ((a.f.1).ok (Am rfl)) ?_))))))));refine lH 13 (.string (⟨#[120]⟩)) a ((a.f.1).el 0 (Am rfl)) (lL a aN (lN (kQ (lL a ff (nE 76 9 3 (⟨#[120]⟩) (iV 0) a p (fun z a k=>lN (kQ (lL a [.v (iV 1),.c] (lD (CL.to [(2,.map none),(3,.map (some d)),(7,qS A 4 c),(8,iV 4),(9,iV 1),(10,qT),(11,iV 0),(12,.pointer (some ⟨(aB A),aO A+0*1,none⟩)),(13,.string (⟨#[120]⟩)),(4,iV 0),(5,.string (⟨#[120]⟩)),(14,.map (some d)),(15,.string (⟨#[120]⟩)),(16,iV 0),(17,iV 1)] ?_))))))))));replace a:=a.to [] [];refine cN (ab a [.v qT] (ag (bT (cK (cQ (kZ (ab a ae (lX 12 A 4 c 1 1 1 ((a.f.1).ok (Am rfl)) ?_))))))));refine lH 13 (.string (⟨#[121]⟩)) a ((a.f.1).el 1 (Am rfl)) (lL a aN (lN (kQ (lL a ff (nE 76 9 3 (⟨#[121]⟩) (iV 1) a k (fun D a o=>lN (kQ (lL a [.v (iV 2),.c] (lD (CL.to [(2,.map none),(3,.map (some d)),(7,qS A 4 c),(8,iV 4),(9,iV 2),(10,qT),(11,iV 1),(12,.pointer (some ⟨(aB A),aO A+1*1,none⟩)),(13,.string (⟨#[121]⟩)),(4,iV 1),(5,.string (⟨#[121]⟩)),(14,.map (some d)),(15,.string (⟨#[121]⟩)),(16,iV 1),(17,iV 2)] ?_))))))))));replace a:=a.to [] [];refine cN (ab a [.v qT] (ag (bT (cK (cQ (kZ (ab a ae (lX 12 A 4 c 1 2 2 ((a.f.1).ok (Am rfl)) ?_))))))));refine lH 13 (.string (⟨#[122]⟩)) a ((a.f.1).el 2 (Am rfl)) (lL a aN (lN (kQ (lL a ff (nE 76 9 3 (⟨#[122]⟩) (iV 2) a o (fun B a e=>lN (kQ (lL a [.v (iV 3),.c] (lD (CL.to [(2,.map none),(3,.map (some d)),(7,qS A 4 c),(8,iV 4),(9,iV 3),(10,qT),(11,iV 2),(12,.pointer (some ⟨(aB A),aO A+2*1,none⟩)),(13,.string (⟨#[122]⟩)),(4,iV 2),(5,.string (⟨#[122]⟩)),(14,.map (some d)),(15,.string (⟨#[122]⟩)),(16,iV 2),(17,iV 3)] ?_))))))))));replace a:=a.to [] [];refine cN (ab a [.v qT] (ag (bT (cK (cQ (kZ (ab a ae (lX 12 A 4 c 1 3 3 ((a.f.1).ok (Am rfl)) ?_))))))));refine lH 13 (.string (⟨#[120]⟩)) a ((a.f.1).el 3 (Am rfl)) (lL a aN (lN (kQ (lL a ff (Jl (i:=0) 76 9 3 (⟨#[120]⟩) (iV 3) (iV 0) [⟨.string (⟨#[120]⟩),iV 3,0⟩,⟨.string (⟨#[121]⟩),iV 1,1⟩,⟨.string (⟨#[122]⟩),iV 2,2⟩] a e (fun _ a j=>lN (kQ (lL a [.v (iV 4),.c] (lD (CL.to [(2,.map none),(3,.map (some d)),(7,qS A 4 c),(8,iV 4),(9,iV 4),(10,qT),(11,iV 3),(12,.pointer (some ⟨(aB A),aO A+3*1,none⟩)),(13,.string (⟨#[120]⟩)),(4,iV 3),(5,.string (⟨#[120]⟩)),(14,.map (some d)),(15,.string (⟨#[120]⟩)),(16,iV 3),(17,iV 4)] ?_))))))))));replace a:=a.to [] [];refine cN (ab a [.v qF] (ag (dv (CG.exit ?_))))
 show CG _ _ _ _ _ _ _ _
 refine ab a ae ?_;obtain ⟨_,a,l⟩:=a.pubMap j;replace a:=a.to [] [];replace a:=a.add (K:=fun y=>MapS y d [⟨.string (⟨#[120]⟩),iV 3,0⟩,⟨.string (⟨#[121]⟩),iV 1,1⟩,⟨.string (⟨#[122]⟩),iV 2,2⟩]) l;exact lL a ae (af a [] (.map (some d)) (⟨_,rfl,a.f.1⟩))
theorem wm (A:Z9)(c:Nat)(w:World)(h:Hp)(g:G w h)(p:SlO 1 eo ⟨#[]⟩ h A ([⟨#[122]⟩,⟨#[121]⟩,⟨#[120]⟩,⟨#[119]⟩]:List ByteArray)):CR 39 #[.slice A 4 c] w h (fun v h1=>∃ b,v=.map (some b)/\MapS h1 b [⟨.string (⟨#[122]⟩),iV 0,0⟩,⟨.string (⟨#[121]⟩),iV 1,1⟩,⟨.string (⟨#[120]⟩),iV 2,2⟩,⟨.string (⟨#[119]⟩),iV 3,3⟩]):=by
 have a:=((sS g).aS p);have u:([⟨#[122]⟩,⟨#[121]⟩,⟨#[120]⟩,⟨#[119]⟩]:List ByteArray).length=4:=rfl;refine go Tryz.func39 [(0,qS A 4 c)] rfl (ab a ae (a7 (Ge 6 a (fun d w2 B a o=>lL a ae (ag (ab a [.c,.v (iV 4),.c] (be (cU ?_))))))));refine cN (ab a [.v qT] (ag (bT (cK (cQ (kZ (ab a ae (lX 12 A 4 c 1 0 0 ((a.f.1).ok (Am rfl)) ?_))))))));refine lH 13 (.string (⟨#[122]⟩)) a ((a.f.1).el 0 (Am rfl)) (lL a aN (lN (kQ (lL a ff (nE 76 9 3 (⟨#[122]⟩) (iV 0) a o (fun y a j=>lN (kQ (lL a [.v (iV 1),.c] (lD (CL.to [(2,.map none),(3,.map (some d)),(7,qS A 4 c),(8,iV 4),(9,iV 1),(10,qT),(11,iV 0),(12,.pointer (some ⟨(aB A),aO A+0*1,none⟩)),(13,.string (⟨#[122]⟩)),(4,iV 0),(5,.string (⟨#[122]⟩)),(14,.map (some d)),(15,.string (⟨#[122]⟩)),(16,iV 0),(17,iV 1)] ?_))))))))));replace a:=a.to [] [];refine cN (ab a [.v qT] (ag (bT (cK (cQ (kZ (ab a ae (lX 12 A 4 c 1 1 1 ((a.f.1).ok (Am rfl)) ?_))))))));refine lH 13 (.string (⟨#[121]⟩)) a ((a.f.1).el 1 (Am rfl)) (lL a aN (lN (kQ (lL a ff (nE 76 9 3 (⟨#[121]⟩) (iV 1) a j (fun C a l=>lN (kQ (lL a [.v (iV 2),.c] (lD (CL.to [(2,.map none),(3,.map (some d)),(7,qS A 4 c),(8,iV 4),(9,iV 2),(10,qT),(11,iV 1),(12,.pointer (some ⟨(aB A),aO A+1*1,none⟩)),(13,.string (⟨#[121]⟩)),(4,iV 1),(5,.string (⟨#[121]⟩)),(14,.map (some d)),(15,.string (⟨#[121]⟩)),(16,iV 1),(17,iV 2)] ?_))))))))));replace a:=a.to [] [];refine cN (ab a [.v qT] (ag (bT (cK (cQ (kZ (ab a ae (lX 12 A 4 c 1 2 2 ((a.f.1).ok (Am rfl)) ?_))))))));refine lH 13 (.string (⟨#[120]⟩)) a ((a.f.1).el 2 (Am rfl)) (lL a aN (lN (kQ (lL a ff (nE 76 9 3 (⟨#[120]⟩) (iV 2) a l (fun z a e=>lN (kQ (lL a [.v (iV 3),.c] (lD (CL.to [(2,.map none),(3,.map (some d)),(7,qS A 4 c),(8,iV 4),(9,iV 3),(10,qT),(11,iV 2),(12,.pointer (some ⟨(aB A),aO A+2*1,none⟩)),(13,.string (⟨#[120]⟩)),(4,iV 2),(5,.string (⟨#[120]⟩)),(14,.map (some d)),(15,.string (⟨#[120]⟩)),(16,iV 2),(17,iV 3)] ?_))))))))));replace a:=a.to [] [];refine cN (ab a [.v qT] (ag (bT (cK (cQ (kZ (ab a ae (lX 12 A 4 c 1 3 3 ((a.f.1).ok (Am rfl)) ?_))))))));refine lH 13 (.string (⟨#[119]⟩)) a ((a.f.1).el 3 (Am rfl)) (lL a aN (lN (kQ (lL a ff (nE 76 9 3 (⟨#[119]⟩) (iV 3) a e (fun _ a i=>lN (kQ (lL a [.v (iV 4),.c] (lD (CL.to [(2,.map none),(3,.map (some d)),(7,qS A 4 c),(8,iV 4),(9,iV 4),(10,qT),(11,iV 3),(12,.pointer (some ⟨(aB A),aO A+3*1,none⟩)),(13,.string (⟨#[119]⟩)),(4,iV 3),(5,.string (⟨#[119]⟩)),(14,.map (some d)),(15,.string (⟨#[119]⟩)),(16,iV 3),(17,iV 4)] ?_))))))))));replace a:=a.to [] [];refine cN (ab a [.v qF] (ag (dv (CG.exit ?_))))
 show CG _ _ _ _ _ _ _ _
 refine ab a ae ?_;obtain ⟨_,a,k⟩:=a.pubMap i;replace a:=a.to [] [];replace a:=a.add (K:=fun x=>MapS x d [⟨.string (⟨#[122]⟩),iV 0,0⟩,⟨.string (⟨#[121]⟩),iV 1,1⟩,⟨.string (⟨#[120]⟩),iV 2,2⟩,⟨.string (⟨#[119]⟩),iV 3,3⟩]) k;exact lL a ae (af a [] (.map (some d)) (⟨_,rfl,a.f.1⟩))
theorem xO (A:Z9)(c:Nat)(w:World)(h:Hp)(g:G w h)(o:SlO 1 eo ⟨#[]⟩ h A eb):CR 39 #[.slice A 3 c] w h (fun v h1=>∃ b,v=.map (some b)/\MapS h1 b [⟨.string (⟨#[120]⟩),iV 0,0⟩,⟨.string (⟨#[121]⟩),iV 1,1⟩,⟨.string (⟨#[122]⟩),iV 2,2⟩]):=by
 have a:=((sS g).aS o);have p:eb.length=3:=rfl;refine go Tryz.func39 [(0,qS A 3 c)] rfl (ab a ae (a7 (Ge 6 a (fun d w2 z a l=>lL a ae (ag (ab a [.c,.v (iV 3),.c] (be (cU ?_))))))));refine cN (ab a [.v qT] (ag (bT (cK (cQ (kZ (ab a ae (lX 12 A 3 c 1 0 0 ((a.f.1).ok (Am rfl)) ?_))))))));refine lH 13 (.string (⟨#[120]⟩)) a ((a.f.1).el 0 (Am rfl)) (lL a aN (lN (kQ (lL a ff (nE 76 9 3 (⟨#[120]⟩) (iV 0) a l (fun x a j=>lN (kQ (lL a [.v (iV 1),.c] (lD (CL.to [(2,.map none),(3,.map (some d)),(7,qS A 3 c),(8,iV 3),(9,iV 1),(10,qT),(11,iV 0),(12,.pointer (some ⟨(aB A),aO A+0*1,none⟩)),(13,.string (⟨#[120]⟩)),(4,iV 0),(5,.string (⟨#[120]⟩)),(14,.map (some d)),(15,.string (⟨#[120]⟩)),(16,iV 0),(17,iV 1)] ?_))))))))));replace a:=a.to [] [];refine cN (ab a [.v qT] (ag (bT (cK (cQ (kZ (ab a ae (lX 12 A 3 c 1 1 1 ((a.f.1).ok (Am rfl)) ?_))))))));refine lH 13 (.string (⟨#[121]⟩)) a ((a.f.1).el 1 (Am rfl)) (lL a aN (lN (kQ (lL a ff (nE 76 9 3 (⟨#[121]⟩) (iV 1) a j (fun B a k=>lN (kQ (lL a [.v (iV 2),.c] (lD (CL.to [(2,.map none),(3,.map (some d)),(7,qS A 3 c),(8,iV 3),(9,iV 2),(10,qT),(11,iV 1),(12,.pointer (some ⟨(aB A),aO A+1*1,none⟩)),(13,.string (⟨#[121]⟩)),(4,iV 1),(5,.string (⟨#[121]⟩)),(14,.map (some d)),(15,.string (⟨#[121]⟩)),(16,iV 1),(17,iV 2)] ?_))))))))));replace a:=a.to [] [];refine cN (ab a [.v qT] (ag (bT (cK (cQ (kZ (ab a ae (lX 12 A 3 c 1 2 2 ((a.f.1).ok (Am rfl)) ?_))))))));refine lH 13 (.string (⟨#[122]⟩)) a ((a.f.1).el 2 (Am rfl)) (lL a aN (lN (kQ (lL a ff (nE 76 9 3 (⟨#[122]⟩) (iV 2) a k (fun y a e=>lN (kQ (lL a [.v (iV 3),.c] (lD (CL.to [(2,.map none),(3,.map (some d)),(7,qS A 3 c),(8,iV 3),(9,iV 3),(10,qT),(11,iV 2),(12,.pointer (some ⟨(aB A),aO A+2*1,none⟩)),(13,.string (⟨#[122]⟩)),(4,iV 2),(5,.string (⟨#[122]⟩)),(14,.map (some d)),(15,.string (⟨#[122]⟩)),(16,iV 2),(17,iV 3)] ?_))))))))));replace a:=a.to [] [];refine cN (ab a [.v qF] (ag (dv (CG.exit ?_))))
 show CG _ _ _ _ _ _ _ _
 refine ab a ae ?_;obtain ⟨_,a,i⟩:=a.pubMap e;replace a:=a.to [] [];replace a:=a.add (K:=fun u=>MapS u d [⟨.string (⟨#[120]⟩),iV 0,0⟩,⟨.string (⟨#[121]⟩),iV 1,1⟩,⟨.string (⟨#[122]⟩),iV 2,2⟩]) i;exact lL a ae (af a [] (.map (some d)) (⟨_,rfl,a.f.1⟩))
theorem vw (A:Z9)(c:Nat)(w:World)(h:Hp)(g:G w h)(k:SlO 1 eo ⟨#[]⟩ h A ([⟨#[120]⟩]:List ByteArray)):CR 39 #[.slice A 1 c] w h (fun v h1=>∃ b,v=.map (some b)/\MapS h1 b [⟨.string (⟨#[120]⟩),iV 0,0⟩]):=by
 have a:=((sS g).aS k);have l:([⟨#[120]⟩]:List ByteArray).length=1:=rfl;refine go Tryz.func39 [(0,qS A 1 c)] rfl (ab a ae (a7 (Ge 6 a (fun i w2 x a e=>lL a ae (ag (ab a [.c,.v (iV 1),.c] (be (cU ?_))))))));refine cN (ab a [.v qT] (ag (bT (cK (cQ (kZ (ab a ae (lX 12 A 1 c 1 0 0 ((a.f.1).ok (Am rfl)) ?_))))))));refine lH 13 (.string (⟨#[120]⟩)) a ((a.f.1).el 0 (Am rfl)) (lL a aN (lN (kQ (lL a ff (nE 76 9 3 (⟨#[120]⟩) (iV 0) a e (fun p a d=>lN (kQ (lL a [.v (iV 1),.c] (lD (CL.to [(2,.map none),(3,.map (some i)),(7,qS A 1 c),(8,iV 1),(9,iV 1),(10,qT),(11,iV 0),(12,.pointer (some ⟨(aB A),aO A+0*1,none⟩)),(13,.string (⟨#[120]⟩)),(4,iV 0),(5,.string (⟨#[120]⟩)),(14,.map (some i)),(15,.string (⟨#[120]⟩)),(16,iV 0),(17,iV 1)] ?_))))))))));replace a:=a.to [] [];refine cN (ab a [.v qF] (ag (dv (CG.exit ?_))))
 show CG _ _ _ _ _ _ _ _
 refine ab a ae ?_;obtain ⟨u,a,j⟩:=a.pubMap d;replace a:=a.to [] [];replace a:=a.add (K:=fun o=>MapS o i [⟨.string (⟨#[120]⟩),iV 0,0⟩]) j;exact lL a ae (af a [] (.map (some i)) (⟨_,rfl,a.f.1⟩))
def jb (isb:ByteArray->Bool)(d:Nat)(t:Tm):Prop:=WfT1 (fun s=>isb s=true) d t/\dd d t<=1000
theorem Gd:∀ s,oh s->∀ (w:World) (h:Hp),G w h->Calls Tryz.prog 61 #[.string s] w (Ret w h (fun v _=>∃ b,v=.bool b/\b=ez s)):=fun s a w h g =>
 (Bi s (by unfold oh at a;omega) w h g).mono fun e w' ⟨v,h',e1,u,e2⟩=>⟨v,h',e1,u,_,e2,rfl⟩
theorem AX {s:ByteArray}(h:ez s=true):oh s:=by
 have:=oT h
 unfold oh;omega
theorem E7 {b:Bool}(h:(!b)=false):b=true:=by cases b<;>first|rfl|cases h
theorem GQ {b:Bool}(h:(!b)=true):b=false:=by cases b<;>first|rfl|cases h
theorem sf {l:List ByteArray}{k:Nat}(h:k<l.length):l.getD k ⟨#[]⟩∈l:=by
 rw[A4,Lu h];exact gx h
theorem un {l:List ByteArray}{s:ByteArray}(h:s∈l):∃ i,i<l.length/\l.getD i ⟨#[]⟩=s:=by
 obtain ⟨i,hi,e⟩:=List.mem_iff_getElem.1 h;exact ⟨i,hi,by rw[A4,Lu hi];exact e⟩
theorem ur {ok sm:ByteArray->Prop}:∀ {d:Nat} {t:Tm},SmT1 sm d t->WfT ok d t->WfT1 ok d t
 | _+1,_,⟨_,_,_,s4,_,s6⟩,⟨h1,h2,_,h4,h5,h6,h7,h8,h9⟩=>⟨h1,h2,s4,h4,h5,h6,h7,h8,fun i hi=>ur (s6 i hi) (h9 i hi)⟩
theorem th {isb:ByteArray->Bool}{sm:ByteArray->Prop}{d:Nat}{t:Tm}{e:Int}(a:SmT1 sm d t)(h:(WfT (fun s=>isb s=true) d t/\e=(if 1000<dd d t then 18 else 0))\/(¬WfT (fun s=>isb s=true) d t/\e=2))(z:e=0):WfT1 (fun s=>isb s=true) d t/\dd d t<=1000:=by
 rcases h with ⟨h1,h2⟩|⟨h1,h2⟩
 ·refine ⟨ur a h1,?_⟩
  split at h2<;>omega
 ·omega
theorem DL {isb:ByteArray->Bool}{d:Nat}{t:Tm}{e:Int}(h:(WfT (fun s=>isb s=true) d t/\e=(if 1000<dd d t then 18 else 0))\/(¬WfT (fun s=>isb s=true) d t/\e=2))(z:jb isb d t):e=0:=by
 rcases h with ⟨h1,h2⟩|⟨h1,h2⟩
 ·rw[h2,if_neg (by have:=z.2;omega)]
 ·exact absurd z.1.wf h1
end Go.Proofs.YteipbelehcpooaaGreatDoor
