/- Laws and contracts that the card of this claim stands on, part 3. No condition of ours. -/
import Derived.Test.YtmniajdkjpcfjaaGreatDoorPq0
import Derived.Test.YtmniajdkjpcfjaaGreatDoorPq1
set_option maxRecDepth 100000
set_option maxHeartbeats 4000000
namespace Go.Proofs.YtmniajdkjpcfjaaGreatDoor
open Go.RowKit
open Go.RowKit Go.Shelf
theorem nShDn (A:Option Addr)(c:Nat)(x:List Nat)(hx:Wd x)(hlx:x.length≤1000000000)(n:Nat)(hn:n≤1000000000)(w:World)(h:Hp)(g:G w h)(hA:SlO 1 u64c 0 h A x) :
    Calls Tryz.prog 155 #[.slice A x.length c,.int .i64 (n:Nat)] w (Ret w h fun v h1=>RowW h1 v (x.length-n/64) (fun z=>wval z=wval x/2^n)):=by
 have hs:=SS.start g
 replace hs:=(hs.a_SlO hA)
 refine go Tryz.func155 [(0,.slice A x.length c),(1,.int .i64 (n:Nat))] rfl ?_
 refine cSL (lL hs [.v 4 (.slice none 0 0)] (lNS (lL hs [.m 9 1] (lV 10 (.int .i64 (n/64:Nat)) ?_ (hr:=rint (opQuo (t:=3) (u:=3) (x:=.tmp 9) (y:=.const (.int .i64 64)) (k:=.i64) (a:=((n:Nat):Int)) (b:=(64:Int)) kR kR kR oM _) (quoI64 n 64 oM))))))
 refine lL hs [.m 11 1] (lV 12 (.int .i64 (n%64:Nat)) ?_ (hr:=rint (opRem (t:=3) (u:=3) (x:=.tmp 11) (y:=.const (.int .i64 64)) (k:=.i64) (a:=((n:Nat):Int)) (b:=(64:Int)) kR kR kR oM _) (tmodNat n 64)))
 refine lV 13 (.int .u64 (n%64:Nat)) ?_ (hr:=rint (n:=IntKind.wrap .u64 ((n%64:Nat):Int)) kR (fitU64 oM oM))
 refine lL hs [.m 5 10,.m 6 13] (lN (CG.seq (cSL (lL hs [.m 14 5,.m 15 0,.v 16 (.int .i64 (x.length:Nat))] ?_))))
 cases hb1:(decide (((x.length:Nat):Int)≤((n/64:Nat):Int)))
 ·
  have phb1:=oF hb1
  refine lB 17 hb1 ?_
  refine lN (cIF (CG.skipN (cSL (lL hs [.m 18 0,.v 19 (.int .i64 (x.length:Nat)),.m 20 5] (lIn 21 ((x.length:Nat)-(n/64:Nat)) (x.length-(n/64)) ?_)))))
  refine lK 22 22 (x.length-(n/64)) 1 8 (.int .u64 0) u64c 0 hs (fun b2 w3 h4 hs=>?_)
  have hl5:(List.replicate (x.length-(n/64)) 0).length=(x.length-(n/64)):=by simp
  refine lL hs [.m 7 22] (lN (CG.seq (cSL (lL hs [.m 23 7,.v 24 (.int .i64 ((x.length-(n/64)):Nat)),.v 25 (.int .i64 0)] (lN (CG.block (cTo [(0,.slice A x.length c),(4,.slice none 0 0),(5,.int .i64 (n/64:Nat)),(6,.int .u64 (n%64:Nat)),(7,.slice (some ⟨b2,0,none⟩) (x.length-(n/64)) (x.length-(n/64))),(24,.int .i64 ((x.length-(n/64)):Nat)),(25,.int .i64 0)] ?_)))))))
  refine CG.loop (fun μ_ Γ w_=>∃ (i:Nat) (l:List Nat) (h_:Hp),μ_=x.length-n/64-i∧Γ=[(0,.slice A x.length c),(4,.slice none 0 0),(5,.int .i64 (n/64:Nat)),(6,.int .u64 (n%64:Nat)),(7,.slice (some ⟨b2,0,none⟩) (x.length-(n/64)) (x.length-(n/64))),(24,.int .i64 ((x.length-(n/64)):Nat)),(25,.int .i64 (i:Nat))]∧SS w h w_ h_ [⟨b2,22,(l).flatMap u64c⟩] [] [fun h_=>SlO 1 u64c 0 h_ A x]∧(i≤x.length-n/64)∧(l.length=x.length-n/64)∧(Wd l)∧(2^(n%64)*bval 18446744073709551616 l+(x.drop (n/64)).getD 0 0%2^(n%64)=bval 18446744073709551616 ((x.drop (n/64)).take i)+18446744073709551616^i*((x.drop (n/64)).getD i 0%2^(n%64)))∧(∀ k,i≤k→l.getD k 0=0)) _ ⟨0,List.replicate (x.length-(n/64)) 0,h4,rfl,rfl,hs.to _ _,Nat.zero_le _,hl5,Wd.rep _,(by rw[bval_rep];simp[bval]),fun k _=>getD_rep⟩ ?_
  rintro _ _ w6 ⟨i,l,h7,hm8,rfl,hs,hi,hll,hW,inv,hz⟩
  refine cSL ?_
  cases hb9:(decide (((i:Nat):Int)<(((x.length-(n/64)):Nat):Int)))
  ·
   have phb9:=oF hb9
   refine lB 26 hb9 ?_
   refine lN (CG.seq (cIF (CG.exit ?_)))
   show CG _ _ _ _ _ _ _ _
   refine cSL (lL hs [.m 63 7,.m 4 63] (lN (CG.ret ?_)))
   have hix:i=x.length-n/64:=by omega
   have hE:=shd_end (W:=x.drop (n/64)) (m:=i) (by rw[List.length_drop];omega) inv
   rw[wval_drop hx oM,Nat.div_div_eq_div_mul,←pow_n n] at hE
   obtain ⟨h10,hs,sg11,lo12,bc13⟩:=hs.pub 0
   replace hs:=(hs.to [] []).a_SlO (SlO.of_flat (sz:=1) (f:=u64c) (d:=0) (b:=b2) (o:=0) (l:=l) (fun _=>rfl) sg11)
   exact hs.ret [] (.slice (some ⟨b2,0,none⟩) (x.length-(n/64)) (x.length-(n/64))) (⟨some ⟨b2,0,none⟩,_,l,by rw[hll],by omega,by omega,hW,hE,(hs.f.1)⟩)
  have phb9:=oT hb9
  refine lB 26 hb9 ?_
  refine lN (CG.seq (cIT (CG.skipN (CG.seq (CG.block (cSL (lL hs [.m 27 25,.m 8 27] (lNS (lL hs [.m 28 7,.m 29 8,.m 30 0,.m 31 8,.m 32 5] (lIn 33 ((i:Nat)+(n/64:Nat)) (i+(n/64)) ?_))))))))))
  refine lX 34 A x.length c 1 (i+(n/64):Nat) (i+(n/64)) ((hs.f.1).ok oM) ?_
  refine lH 35 (.int .u64 (x.getD (i+(n/64)) 0:Nat)) hs ((hs.f.1).el (i+(n/64)) oM) ?_
  refine lL hs [.m 36 6] ?_
  have hxi:=hx.get (i+n/64)
  refine lV 37 (.int .u64 ((x.getD (i+(n/64)) 0:Nat)/2^(n%64):Nat)) ?_ (hr:=opShrN (t:=22) (u:=118) (x:=.tmp 35) (y:=.tmp 36) (ky:=.u64) (a:=(x.getD (i+(n/64)) 0:Nat)) (n:=(n%64)) kR kR kR oM _)
  refine lX 38 (some ⟨b2,0,none⟩) (x.length-(n/64)) (x.length-(n/64)) 1 (i:Nat) i rfl ?_
  refine lW 0 l u64c 1 i ((x.getD (i+(n/64)) 0:Nat)/2^(n%64):Nat) hs oM (fun w15 hs=>?_)
  have hl16:((l).set i ((x.getD (i+(n/64)) 0:Nat)/2^(n%64):Nat)).length=(x.length-(n/64)):=by rw[List.length_set];exact hll
  replace hs:=hs.to [⟨b2,22,((l).set i ((x.getD (i+(n/64)) 0:Nat)/2^(n%64):Nat)).flatMap u64c⟩] []
  refine lNS (lL hs [.m 39 8,.m 40 5] (lIn 41 ((i:Nat)+(n/64:Nat)) (i+(n/64)) ?_))
  refine lIn 42 ((i+(n/64):Nat)+1) ((i+(n/64))+1) ?_
  refine lL hs [.m 43 0,.v 44 (.int .i64 (x.length:Nat))] ?_
  cases hb17:(decide ((((i+(n/64))+1:Nat):Int)<((x.length:Nat):Int)))
  ·
   have phb17:=oF hb17
   refine lB 45 hb17 ?_
   refine lN (cIF (CG.skipN (CG.listed (lIn 62 ((i:Nat)+1) (i+1) ?_))))
   refine lL hs [.m 25 62] (lD ?_)
   intro a_ ka
   have q18:(i+1)≤x.length-n/64:=by omega
   have q19:((l).set i ((x.getD (i+(n/64)) 0:Nat)/2^(n%64):Nat)).length=x.length-n/64:=hl16
   have q20:Wd ((l).set i ((x.getD (i+(n/64)) 0:Nat)/2^(n%64):Nat)):=(hW.set _ (by have:=Nat.div_le_self (x.getD (i+n/64) 0) (2^(n%64));omega))
   have q21:2^(n%64)*bval 18446744073709551616 ((l).set i ((x.getD (i+(n/64)) 0:Nat)/2^(n%64):Nat))+(x.drop (n/64)).getD 0 0%2^(n%64)=bval 18446744073709551616 ((x.drop (n/64)).take (i+1))+18446744073709551616^(i+1)*((x.drop (n/64)).getD (i+1) 0%2^(n%64)):=(shd_step oM inv (hz _ (Nat.le_refl _)) (by rw[getD_drop',getD_drop',show n/64+i=i+n/64 by omega,getD_out (show x.length≤n/64+(i+1) by omega),Nat.zero_mod,Nat.mul_zero,Nat.add_zero];exact Nat.div_add_mod _ _))
   have q22:∀ k,(i+1)≤k→((l).set i ((x.getD (i+(n/64)) 0:Nat)/2^(n%64):Nat)).getD k 0=0:=zero_set2 oM hz
   refine ⟨_,_,?_,⟨i+1,(l).set i ((x.getD (i+(n/64)) 0:Nat)/2^(n%64):Nat),h7,rfl,rfl,hs.to _ _,q18,q19,q20,q21,q22⟩,ka.to [(0,.slice A x.length c),(4,.slice none 0 0),(5,.int .i64 (n/64:Nat)),(6,.int .u64 (n%64:Nat)),(7,.slice (some ⟨b2,0,none⟩) (x.length-(n/64)) (x.length-(n/64))),(24,.int .i64 ((x.length-(n/64)):Nat)),(25,.int .i64 ((i+1):Nat))] kR⟩
   omega
  have phb17:=oT hb17
  refine lB 45 hb17 ?_
  refine lN (cIT (cR 15 [] mixed hs al_nil ?_))
  refine eV 0 46 (.slice (some ⟨b2,0,none⟩) (x.length-(n/64)) (x.length-(n/64))) ?_
  refine eV 1 47 (.int .i64 (i:Nat)) ?_
  refine eX 2 48 (some ⟨b2,0,none⟩) (x.length-(n/64)) (x.length-(n/64)) 1 (i:Nat) i rfl ?_
  refine eQ 3 49 0 ((l).set i ((x.getD (i+(n/64)) 0:Nat)/2^(n%64):Nat)) u64c 1 0 i (.int .u64 (((l).set i ((x.getD (i+(n/64)) 0:Nat)/2^(n%64):Nat)).getD i 0:Nat)) hs oM ?_
  refine eV 4 50 (.slice A x.length c) ?_
  refine eV 5 51 (.int .i64 (i:Nat)) ?_
  refine eV 6 52 (.int .i64 (n/64:Nat)) ?_
  refine eIn 7 53 ((i:Nat)+(n/64:Nat)) (i+(n/64)) ?_
  refine eIn 8 54 ((i+(n/64):Nat)+1) ((i+(n/64))+1) ?_
  refine eX 9 55 A x.length c 1 ((i+(n/64))+1:Nat) ((i+(n/64))+1:Nat) ((hs.f.1).ok oM) ?_
  refine eH 10 56 (.int .u64 (x.getD ((i+(n/64))+1:Nat) 0:Nat)) hs ((hs.f.1).el ((i+(n/64))+1:Nat) oM) ?_
  refine eV 11 57 (.int .u64 (n%64:Nat)) ?_
  refine eV 12 58 (.int .u64 (64-(n%64):Nat)) ?_ (hv:=fun _=>rint (n:=IntKind.wrap .u64 ((64:Int)-((n%64:Nat):Int))) kR (fSU64 64 (n%64) oM oM))
  refine eV 13 59 (.int .u64 ((x.getD ((i+(n/64))+1:Nat) 0:Nat)*2^(64-(n%64))%18446744073709551616:Nat)) ?_ (hv:=fun _=>opShlN (t:=22) (u:=118) (x:=.tmp 56) (y:=.tmp 58) (ky:=.u64) (a:=(x.getD ((i+(n/64))+1:Nat) 0:Nat)) (n:=(64-(n%64))) kR kR kR _)
  obtain ⟨hS1,hS2,hS3⟩:=shr_word (x:=x.getD (i+n/64) 0) (y:=x.getD (i+n/64+1) 0) (p:=n%64) oM hxi
  have hdv:=Nat.div_le_self (x.getD (i+n/64) 0) (2^(n%64))
  have hgs:=getD_set' (l:=l) (k:=i) (j:=i) (x:=x.getD (i+n/64) 0/2^(n%64)) oM
  rw[if_pos rfl] at hgs
  refine eV 14 60 (.int .u64 (x.getD (i+n/64) 0/2^(n%64)+x.getD (i+n/64+1) 0*2^(64-n%64)%18446744073709551616:Nat)) ?_ (hv:=fun _=>rint (opOr (t:=22) (u:=22) (x:=.tmp 49) (y:=.tmp 59) (a:=(((l).set i ((x.getD (i+(n/64)) 0:Nat)/2^(n%64):Nat)).getD i 0:Nat)) (b:=((x.getD ((i+(n/64))+1:Nat) 0:Nat)*2^(64-(n%64))%18446744073709551616:Nat)) kR kR kR oM oM _) (by rw[hgs,hS1]))
  refine eD0 hs (fun w23 h24 hs=>?_)
  refine tX 15 61 (some ⟨b2,0,none⟩) (x.length-(n/64)) (x.length-(n/64)) 1 (i:Nat) i rfl ?_
  refine tW 16 0 ((l).set i ((x.getD (i+(n/64)) 0:Nat)/2^(n%64):Nat)) u64c 1 i (x.getD (i+n/64) 0/2^(n%64)+x.getD (i+n/64+1) 0*2^(64-n%64)%18446744073709551616) hs oM (fun w25 hs=>?_)
  have hl26:(((l).set i ((x.getD (i+(n/64)) 0:Nat)/2^(n%64):Nat)).set i (x.getD (i+n/64) 0/2^(n%64)+x.getD (i+n/64+1) 0*2^(64-n%64)%18446744073709551616)).length=(x.length-(n/64)):=by rw[List.length_set];exact hl16
  replace hs:=hs.to [⟨b2,22,(((l).set i ((x.getD (i+(n/64)) 0:Nat)/2^(n%64):Nat)).set i (x.getD (i+n/64) 0/2^(n%64)+x.getD (i+n/64+1) 0*2^(64-n%64)%18446744073709551616)).flatMap u64c⟩] []
  refine tN (cTo [(0,.slice A x.length c),(4,.slice none 0 0),(5,.int .i64 (n/64:Nat)),(6,.int .u64 (n%64:Nat)),(7,.slice (some ⟨b2,0,none⟩) (x.length-(n/64)) (x.length-(n/64))),(24,.int .i64 ((x.length-(n/64)):Nat)),(25,.int .i64 (i:Nat))] ?_)
  refine CG.listed (lIn 62 ((i:Nat)+1) (i+1) ?_)
  refine lL hs [.m 25 62] (lD ?_)
  intro a_ ka
  have q27:(i+1)≤x.length-n/64:=by omega
  have q28:(((l).set i ((x.getD (i+(n/64)) 0:Nat)/2^(n%64):Nat)).set i (x.getD (i+n/64) 0/2^(n%64)+x.getD (i+n/64+1) 0*2^(64-n%64)%18446744073709551616)).length=x.length-n/64:=hl26
  have q29:Wd (((l).set i ((x.getD (i+(n/64)) 0:Nat)/2^(n%64):Nat)).set i (x.getD (i+n/64) 0/2^(n%64)+x.getD (i+n/64+1) 0*2^(64-n%64)%18446744073709551616)):=((hW.set _ oM).set _ hS2)
  have q30:2^(n%64)*bval 18446744073709551616 (((l).set i ((x.getD (i+(n/64)) 0:Nat)/2^(n%64):Nat)).set i (x.getD (i+n/64) 0/2^(n%64)+x.getD (i+n/64+1) 0*2^(64-n%64)%18446744073709551616))+(x.drop (n/64)).getD 0 0%2^(n%64)=bval 18446744073709551616 ((x.drop (n/64)).take (i+1))+18446744073709551616^(i+1)*((x.drop (n/64)).getD (i+1) 0%2^(n%64)):=(by rw[List.set_set];exact shd_step oM inv (hz _ (Nat.le_refl _)) (by rw[getD_drop',getD_drop',show n/64+i=i+n/64 by omega,show n/64+(i+1)=i+n/64+1 by omega];exact hS3))
  have q31:∀ k,(i+1)≤k→(((l).set i ((x.getD (i+(n/64)) 0:Nat)/2^(n%64):Nat)).set i (x.getD (i+n/64) 0/2^(n%64)+x.getD (i+n/64+1) 0*2^(64-n%64)%18446744073709551616)).getD k 0=0:=(by rw[List.set_set];exact zero_set2 oM hz)
  refine ⟨_,_,?_,⟨i+1,((l).set i ((x.getD (i+(n/64)) 0:Nat)/2^(n%64):Nat)).set i (x.getD (i+n/64) 0/2^(n%64)+x.getD (i+n/64+1) 0*2^(64-n%64)%18446744073709551616),h24,rfl,rfl,hs.to _ _,q27,q28,q29,q30,q31⟩,ka.to [(0,.slice A x.length c),(4,.slice none 0 0),(5,.int .i64 (n/64:Nat)),(6,.int .u64 (n%64:Nat)),(7,.slice (some ⟨b2,0,none⟩) (x.length-(n/64)) (x.length-(n/64))),(24,.int .i64 ((x.length-(n/64)):Nat)),(25,.int .i64 ((i+1):Nat))] kR⟩
  omega
 have phb1:=oT hb1
 refine lB 17 hb1 ?_
 exact lN (cIT (cSL (lL hs [.v 4 (.slice none 0 0)] (lN (CG.ret (hs.ret [] (.slice none 0 0) (⟨none,0,[],rfl,by simp,by simp;omega,Dg.nil,(by show 0=_;exact (Nat.div_eq_of_lt (shd_big hx oM)).symm),SlO.nil⟩)))))))
theorem mulB {a b:Nat}(ha:a<18446744073709551616)(hb:b<18446744073709551616):a*b≤340282366920938463426481119284349108225:=by
  have h1:a≤18446744073709551615:=by omega
  have h2:b≤18446744073709551615:=by omega
  exact Nat.mul_le_mul h1 h2
def w3 (u2 u1 u0:Nat):Nat:=18446744073709551616*(18446744073709551616*u2+u1)+u0
def w2 (v1 v0:Nat):Nat:=18446744073709551616*v1+v0
structure Gss (u2 u1 u0 v1 v0 g r o:Nat):Prop where
  e:g*v1+(r+18446744073709551616*o)=18446744073709551616*u2+u1
  lt:g+1=18446744073709551616∨w3 u2 u1 u0<(g+1)*w2 v1 v0
  gb:g<18446744073709551616
def GssR (u2 u1 u0 v1 v0 g:Nat):Prop:=g*w2 v1 v0≤w3 u2 u1 u0∧(g+1=18446744073709551616∨w3 u2 u1 u0<(g+1)*w2 v1 v0)∧g<18446744073709551616
theorem gv {g v1 v0:Nat}:g*w2 v1 v0=18446744073709551616*(g*v1)+g*v0:=by unfold w2;rw[Nat.mul_add,Nat.mul_left_comm]
theorem Gss.fin {u2 u1 u0 v1 v0 g r o:Nat}(h:Gss u2 u1 u0 v1 v0 g r o)(ht:g*v0≤18446744073709551616*(r+18446744073709551616*o)+u0):GssR u2 u1 u0 v1 v0 g:=by
  refine ⟨?_,h.lt,h.gb⟩
  rw[gv]
  unfold w3
  rw[←h.e,Nat.mul_add]
  omega
theorem Gss.over {u2 u1 u0 v1 v0 g r o:Nat}(h:Gss u2 u1 u0 v1 v0 g r o)(ho:0<o)(h0:v0<18446744073709551616):GssR u2 u1 u0 v1 v0 g:=by
  refine h.fin ?_
  have h1:=mulB h.gb h0
  omega
theorem Gss.dec {u2 u1 u0 v1 v0 g r r' o':Nat}(h:Gss u2 u1 u0 v1 v0 g r 0)(ht:18446744073709551616*r+u0<g*v0)(e:r'+18446744073709551616*o'=r+v1):0<g∧Gss u2 u1 u0 v1 v0 (g-1) r' o':=by
  have hg:0<g:=pos_of_mul ht
  obtain ⟨p,rfl⟩:∃ p,g=p+1:=⟨g-1,by omega⟩
  have e1:=h.e
  rw[Nat.mul_zero,Nat.add_zero] at e1
  have h1:w3 u2 u1 u0<(p+1)*w2 v1 v0:=by
    rw[gv]
    unfold w3
    rw[←e1,Nat.mul_add]
    omega
  have e2:(p+1)*v1=p*v1+v1:=by rw[Nat.add_mul,Nat.one_mul]
  rw[Nat.add_sub_cancel]
  exact ⟨hg,⟨by omega,Or.inr h1,by have:=h.gb;omega⟩⟩
theorem gss_max {u2 u1 u0 v1 v0 r o:Nat}(h:u2=v1)(e:r+18446744073709551616*o=u1+v1):Gss u2 u1 u0 v1 v0 18446744073709551615 r o:=by
  subst h
  exact ⟨by omega,.inl rfl,by decide⟩
theorem gss_div {u2 u1 u0 v1 v0 q r:Nat}(e:u2*18446744073709551616+u1=v1*q+r)(hr:r<v1)(h0:u0<18446744073709551616)(hq:q<18446744073709551616):Gss u2 u1 u0 v1 v0 q r 0:=by
  rw[Nat.mul_comm u2] at e
  refine ⟨by rw[Nat.mul_comm q];omega,.inr ?_,hq⟩
  rw[gv,Nat.add_mul q 1 v1,Nat.one_mul,Nat.mul_comm q v1]
  unfold w3
  rw[e]
  have h1:18446744073709551616*(v1*q+r)+18446744073709551616≤18446744073709551616*(v1*q+v1):=by
    rw[←Nat.mul_succ]
    exact Nat.mul_le_mul_left _ oM
  have h2:0≤(q+1)*v0:=Nat.zero_le _
  omega
theorem nGuess (u2 u1 u0 v1 v0:Nat)(h0:u2<18446744073709551616)(h1:u1<18446744073709551616)(h2:u0<18446744073709551616)(h3:v1<18446744073709551616)(h4:v0<18446744073709551616)(hle:u2≤v1)(hv:0<v1)(w:World)(h:Hp)(g:G w h) :
    Calls Tryz.prog 154 #[.int .u64 (u2:Nat),.int .u64 (u1:Nat),.int .u64 (u0:Nat),.int .u64 (v1:Nat),.int .u64 (v0:Nat)] w (Ret w h fun v _=>∃ g:Nat,v=.int .u64 (g:Nat)∧GssR u2 u1 u0 v1 v0 g):=by
 have hs:=SS.start g
 refine go Tryz.func154 [(0,.int .u64 (u2:Nat)),(1,.int .u64 (u1:Nat)),(2,.int .u64 (u0:Nat)),(3,.int .u64 (v1:Nat)),(4,.int .u64 (v0:Nat))] rfl ?_
 refine cSL (lL hs [.v 10 (.int .u64 0)] (lNS (lL hs [.v 11 (.int .u64 0),.v 12 (.int .u64 0),.v 13 (.int .u64 0)] (lN (CG.seq (cSL (lL hs [.m 16 0,.m 17 3] ?_)))))))
 cases hb1:(((u2:Nat):Int) == ((v1:Nat):Int))
 ·
  have phb1:=neOfBeq hb1
  refine lB 18 hb1 ?_
  refine lN (cIF (CG.listed (lL hs [.m 26 0,.m 27 1,.m 28 3] (lC 29 hs (bDiv64 u2 u1 v1 oM wM wM _ _ hs.g) ?_))))
  rintro _ w7 h8 hs ⟨q2,r3,rfl,he4,hl5,hm6⟩
  refine lL hs [.m 25 29,.v 30 (.int .u64 (q2:Nat)),.v 31 (.int .u64 (r3:Nat)),.m 11 30,.m 12 31] (lN (CG.seq (CG.block (cTo [(2,.int .u64 (u0:Nat)),(3,.int .u64 (v1:Nat)),(4,.int .u64 (v0:Nat)),(10,.int .u64 0),(11,.int .u64 (q2:Nat)),(12,.int .u64 (r3:Nat)),(13,.int .u64 0)] ?_))))
  refine CG.loop (fun μ_ Γ w_=>∃ (g:Nat) (r:Nat) (ov:Nat) (h_:Hp),μ_=g∧Γ=[(2,.int .u64 (u0:Nat)),(3,.int .u64 (v1:Nat)),(4,.int .u64 (v0:Nat)),(10,.int .u64 0),(11,.int .u64 (g:Nat)),(12,.int .u64 (r:Nat)),(13,.int .u64 (ov:Nat))]∧SS w h w_ h_ [] [] []∧(Gss u2 u1 u0 v1 v0 g r ov)∧(r<18446744073709551616)∧(ov≤1)) _ ⟨q2,r3,0,h8,rfl,rfl,hs.to _ _,gss_div oM oM h2 oM,oM,oM⟩ ?_
  rintro _ _ w9 ⟨g,r,ov,h10,hm11,rfl,hs,hG,hr,hov⟩
  have hgl:=hG.gb
  refine CG.seq (cSL (lL hs [.m 32 13] ?_))
  cases hb12:(((ov:Nat):Int) == (0:Int))
  ·
   have phb12:=neOfBeq hb12
   refine lB 33 hb12 ?_
   refine lN (cIF (CG.exit ?_))
   show CG _ _ _ _ _ _ _ _
   exact cSL (lL hs [.m 61 11,.m 10 61] (lN (CG.ret (hs.ret [] (.int .u64 (g:Nat)) (⟨g,rfl,(by first|exact hG.over oM h4|(rw[show ov=0 by omega] at hG;exact hG.fin oM))⟩)))))
  have phb12:=eq_of_beq hb12
  refine lB 33 hb12 ?_
  refine lN (cIT (CG.skipN (CG.block (cSL (lL hs [.m 35 11,.m 36 4] (lC 37 hs (bMul64 g v0 wM wM _ _ hs.g) ?_))))))
  rintro _ w19 h20 hs ⟨s13,c14,rfl,he15,hl16,hm17,hn18⟩
  have hxhe15:=mul64_le (a:=g) (b:=v0) wM wM
  refine lL hs [.m 34 37,.v 38 (.int .u64 (s13:Nat)),.v 39 (.int .u64 (c14:Nat)),.m 14 38,.m 15 39] (lN (CG.seq (cSL (lL hs [.m 40 14,.m 41 12] ?_))))
  cases hb21:(decide (((s13:Nat):Int)<((r:Nat):Int)))
  ·
   have phb21:=oF hb21
   refine lB 42 hb21 ?_
   refine lL hs [.m 43 42,.m 44 14,.m 45 12] ?_
   cases hb22:(((s13:Nat):Int) == ((r:Nat):Int))
   ·
    have phb22:=neOfBeq hb22
    refine lB 46 hb22 ?_
    refine lL hs [.m 47 46] (lG 48 ?_)
    refine lG 49 ?_
    refine lG 50 ?_
    refine lL hs [.v 51 (.bool false),.v 52 (.bool false)] (lN (cIF (CG.skipN (cSL ?_))))
    have hgt:18446744073709551616*r+u0<g*v0:=by omega
    rw[show ov=0 by omega] at hG
    have hg0:=pos_of_mul hgt
    have hgb:=hG.gb
    refine lL hs [.m 53 11] (lV 54 (.int .u64 (g-1:Nat)) ?_ (hr:=rint (n:=IntKind.wrap .u64 (((g:Nat):Int)-(1:Int))) kR (fSU64 g 1 oM oM)))
    refine lL hs [.m 11 54] (lN (CG.listed (lL hs [.m 56 12,.m 57 3] ?_)))
    obtain ⟨s23,c24,he25,hl26,hm27,hr28⟩:=bAdd64 r v1 0 wM wM oM
    refine lV 58 (.tuple #[.int .u64 (s23:Nat),.int .u64 (c24:Nat)]) ?_ (hr:=opExt kR (hr28 _))
    refine lL hs [.m 55 58,.v 59 (.int .u64 (s23:Nat)),.v 60 (.int .u64 (c24:Nat)),.m 12 59,.m 13 60] (lD ?_)
    intro a_ ka
    have q29:Gss u2 u1 u0 v1 v0 (g-1) s23 c24:=(hG.dec hgt oM).2
    have q30:s23<18446744073709551616:=oM
    have q31:c24≤1:=oM
    refine ⟨_,_,?_,⟨g-1,s23,c24,h20,rfl,rfl,hs.to _ _,q29,q30,q31⟩,ka.to [(2,.int .u64 (u0:Nat)),(3,.int .u64 (v1:Nat)),(4,.int .u64 (v0:Nat)),(10,.int .u64 0),(11,.int .u64 ((g-1):Nat)),(12,.int .u64 (s23:Nat)),(13,.int .u64 (c24:Nat))] kR⟩
    omega
   have phb22:=eq_of_beq hb22
   refine lB 46 hb22 ?_
   refine lL hs [.m 47 46,.m 48 15,.m 49 2] ?_
   cases hb32:(decide (((c14:Nat):Int)≤((u0:Nat):Int)))
   ·
    have phb32:=oF hb32
    refine lB 50 hb32 ?_
    refine lL hs [.v 51 (.bool false),.v 52 (.bool false)] (lN (cIF (CG.skipN (cSL ?_))))
    have hgt:18446744073709551616*r+u0<g*v0:=by omega
    rw[show ov=0 by omega] at hG
    have hg0:=pos_of_mul hgt
    have hgb:=hG.gb
    refine lL hs [.m 53 11] (lV 54 (.int .u64 (g-1:Nat)) ?_ (hr:=rint (n:=IntKind.wrap .u64 (((g:Nat):Int)-(1:Int))) kR (fSU64 g 1 oM oM)))
    refine lL hs [.m 11 54] (lN (CG.listed (lL hs [.m 56 12,.m 57 3] ?_)))
    obtain ⟨s33,c34,he35,hl36,hm37,hr38⟩:=bAdd64 r v1 0 wM wM oM
    refine lV 58 (.tuple #[.int .u64 (s33:Nat),.int .u64 (c34:Nat)]) ?_ (hr:=opExt kR (hr38 _))
    refine lL hs [.m 55 58,.v 59 (.int .u64 (s33:Nat)),.v 60 (.int .u64 (c34:Nat)),.m 12 59,.m 13 60] (lD ?_)
    intro a_ ka
    have q39:Gss u2 u1 u0 v1 v0 (g-1) s33 c34:=(hG.dec hgt oM).2
    have q40:s33<18446744073709551616:=oM
    have q41:c34≤1:=oM
    refine ⟨_,_,?_,⟨g-1,s33,c34,h20,rfl,rfl,hs.to _ _,q39,q40,q41⟩,ka.to [(2,.int .u64 (u0:Nat)),(3,.int .u64 (v1:Nat)),(4,.int .u64 (v0:Nat)),(10,.int .u64 0),(11,.int .u64 ((g-1):Nat)),(12,.int .u64 (s33:Nat)),(13,.int .u64 (c34:Nat))] kR⟩
    omega
   have phb32:=oT hb32
   refine lB 50 hb32 ?_
   refine lL hs [.v 51 (.bool true),.v 52 (.bool true)] (lN (cIT (CG.exit ?_)))
   show CG _ _ _ _ _ _ _ _
   exact cSL (lL hs [.m 61 11,.m 10 61] (lN (CG.ret (hs.ret [] (.int .u64 (g:Nat)) (⟨g,rfl,(by first|exact hG.over oM h4|(rw[show ov=0 by omega] at hG;exact hG.fin oM))⟩)))))
  have phb21:=oT hb21
  refine lB 42 hb21 ?_
  refine lL hs [.m 43 42] (lG 44 ?_)
  refine lG 45 ?_
  refine lG 46 ?_
  refine lG 47 ?_
  refine lG 48 ?_
  refine lG 49 ?_
  refine lG 50 ?_
  refine lG 51 ?_
  refine lL hs [.v 52 (.bool true)] (lN (cIT (CG.exit ?_)))
  show CG _ _ _ _ _ _ _ _
  exact cSL (lL hs [.m 61 11,.m 10 61] (lN (CG.ret (hs.ret [] (.int .u64 (g:Nat)) (⟨g,rfl,(by first|exact hG.over oM h4|(rw[show ov=0 by omega] at hG;exact hG.fin oM))⟩)))))
 have phb1:=eq_of_beq hb1
 refine lB 18 hb1 ?_
 refine lN (cIT (cSL (lL hs [.v 11 (.int .u64 18446744073709551615)] (lN (CG.listed (lL hs [.m 20 1,.m 21 3] ?_))))))
 obtain ⟨s42,c43,he44,hl45,hm46,hr47⟩:=bAdd64 u1 v1 0 wM wM oM
 refine lV 22 (.tuple #[.int .u64 (s42:Nat),.int .u64 (c43:Nat)]) ?_ (hr:=opExt kR (hr47 _))
 refine lL hs [.m 19 22,.v 23 (.int .u64 (s42:Nat)),.v 24 (.int .u64 (c43:Nat)),.m 12 23,.m 13 24] (lN (CG.seq (CG.block (cTo [(2,.int .u64 (u0:Nat)),(3,.int .u64 (v1:Nat)),(4,.int .u64 (v0:Nat)),(10,.int .u64 0),(11,.int .u64 18446744073709551615),(12,.int .u64 (s42:Nat)),(13,.int .u64 (c43:Nat))] ?_))))
 refine CG.loop (fun μ_ Γ w_=>∃ (g:Nat) (r:Nat) (ov:Nat) (h_:Hp),μ_=g∧Γ=[(2,.int .u64 (u0:Nat)),(3,.int .u64 (v1:Nat)),(4,.int .u64 (v0:Nat)),(10,.int .u64 0),(11,.int .u64 (g:Nat)),(12,.int .u64 (r:Nat)),(13,.int .u64 (ov:Nat))]∧SS w h w_ h_ [] [] []∧(Gss u2 u1 u0 v1 v0 g r ov)∧(r<18446744073709551616)∧(ov≤1)) _ ⟨18446744073709551615,s42,c43,h,rfl,rfl,hs.to _ _,gss_max oM oM,oM,oM⟩ ?_
 rintro _ _ w48 ⟨g,r,ov,h49,hm50,rfl,hs,hG,hr,hov⟩
 have hgl:=hG.gb
 refine CG.seq (cSL (lL hs [.m 32 13] ?_))
 cases hb51:(((ov:Nat):Int) == (0:Int))
 ·
  have phb51:=neOfBeq hb51
  refine lB 33 hb51 ?_
  refine lN (cIF (CG.exit ?_))
  show CG _ _ _ _ _ _ _ _
  exact cSL (lL hs [.m 61 11,.m 10 61] (lN (CG.ret (hs.ret [] (.int .u64 (g:Nat)) (⟨g,rfl,(by first|exact hG.over oM h4|(rw[show ov=0 by omega] at hG;exact hG.fin oM))⟩)))))
 have phb51:=eq_of_beq hb51
 refine lB 33 hb51 ?_
 refine lN (cIT (CG.skipN (CG.block (cSL (lL hs [.m 35 11,.m 36 4] (lC 37 hs (bMul64 g v0 wM wM _ _ hs.g) ?_))))))
 rintro _ w58 h59 hs ⟨s52,c53,rfl,he54,hl55,hm56,hn57⟩
 have hxhe54:=mul64_le (a:=g) (b:=v0) wM wM
 refine lL hs [.m 34 37,.v 38 (.int .u64 (s52:Nat)),.v 39 (.int .u64 (c53:Nat)),.m 14 38,.m 15 39] (lN (CG.seq (cSL (lL hs [.m 40 14,.m 41 12] ?_))))
 cases hb60:(decide (((s52:Nat):Int)<((r:Nat):Int)))
 ·
  have phb60:=oF hb60
  refine lB 42 hb60 ?_
  refine lL hs [.m 43 42,.m 44 14,.m 45 12] ?_
  cases hb61:(((s52:Nat):Int) == ((r:Nat):Int))
  ·
   have phb61:=neOfBeq hb61
   refine lB 46 hb61 ?_
   refine lL hs [.m 47 46] (lG 48 ?_)
   refine lG 49 ?_
   refine lG 50 ?_
   refine lL hs [.v 51 (.bool false),.v 52 (.bool false)] (lN (cIF (CG.skipN (cSL ?_))))
   have hgt:18446744073709551616*r+u0<g*v0:=by omega
   rw[show ov=0 by omega] at hG
   have hg0:=pos_of_mul hgt
   have hgb:=hG.gb
   refine lL hs [.m 53 11] (lV 54 (.int .u64 (g-1:Nat)) ?_ (hr:=rint (n:=IntKind.wrap .u64 (((g:Nat):Int)-(1:Int))) kR (fSU64 g 1 oM oM)))
   refine lL hs [.m 11 54] (lN (CG.listed (lL hs [.m 56 12,.m 57 3] ?_)))
   obtain ⟨s62,c63,he64,hl65,hm66,hr67⟩:=bAdd64 r v1 0 wM wM oM
   refine lV 58 (.tuple #[.int .u64 (s62:Nat),.int .u64 (c63:Nat)]) ?_ (hr:=opExt kR (hr67 _))
   refine lL hs [.m 55 58,.v 59 (.int .u64 (s62:Nat)),.v 60 (.int .u64 (c63:Nat)),.m 12 59,.m 13 60] (lD ?_)
   intro a_ ka
   have q68:Gss u2 u1 u0 v1 v0 (g-1) s62 c63:=(hG.dec hgt oM).2
   have q69:s62<18446744073709551616:=oM
   have q70:c63≤1:=oM
   refine ⟨_,_,?_,⟨g-1,s62,c63,h59,rfl,rfl,hs.to _ _,q68,q69,q70⟩,ka.to [(2,.int .u64 (u0:Nat)),(3,.int .u64 (v1:Nat)),(4,.int .u64 (v0:Nat)),(10,.int .u64 0),(11,.int .u64 ((g-1):Nat)),(12,.int .u64 (s62:Nat)),(13,.int .u64 (c63:Nat))] kR⟩
   omega
  have phb61:=eq_of_beq hb61
  refine lB 46 hb61 ?_
  refine lL hs [.m 47 46,.m 48 15,.m 49 2] ?_
  cases hb71:(decide (((c53:Nat):Int)≤((u0:Nat):Int)))
  ·
   have phb71:=oF hb71
   refine lB 50 hb71 ?_
   refine lL hs [.v 51 (.bool false),.v 52 (.bool false)] (lN (cIF (CG.skipN (cSL ?_))))
   have hgt:18446744073709551616*r+u0<g*v0:=by omega
   rw[show ov=0 by omega] at hG
   have hg0:=pos_of_mul hgt
   have hgb:=hG.gb
   refine lL hs [.m 53 11] (lV 54 (.int .u64 (g-1:Nat)) ?_ (hr:=rint (n:=IntKind.wrap .u64 (((g:Nat):Int)-(1:Int))) kR (fSU64 g 1 oM oM)))
   refine lL hs [.m 11 54] (lN (CG.listed (lL hs [.m 56 12,.m 57 3] ?_)))
   obtain ⟨s72,c73,he74,hl75,hm76,hr77⟩:=bAdd64 r v1 0 wM wM oM
   refine lV 58 (.tuple #[.int .u64 (s72:Nat),.int .u64 (c73:Nat)]) ?_ (hr:=opExt kR (hr77 _))
   refine lL hs [.m 55 58,.v 59 (.int .u64 (s72:Nat)),.v 60 (.int .u64 (c73:Nat)),.m 12 59,.m 13 60] (lD ?_)
   intro a_ ka
   have q78:Gss u2 u1 u0 v1 v0 (g-1) s72 c73:=(hG.dec hgt oM).2
   have q79:s72<18446744073709551616:=oM
   have q80:c73≤1:=oM
   refine ⟨_,_,?_,⟨g-1,s72,c73,h59,rfl,rfl,hs.to _ _,q78,q79,q80⟩,ka.to [(2,.int .u64 (u0:Nat)),(3,.int .u64 (v1:Nat)),(4,.int .u64 (v0:Nat)),(10,.int .u64 0),(11,.int .u64 ((g-1):Nat)),(12,.int .u64 (s72:Nat)),(13,.int .u64 (c73:Nat))] kR⟩
   omega
  have phb71:=oT hb71
  refine lB 50 hb71 ?_
  refine lL hs [.v 51 (.bool true),.v 52 (.bool true)] (lN (cIT (CG.exit ?_)))
  show CG _ _ _ _ _ _ _ _
  exact cSL (lL hs [.m 61 11,.m 10 61] (lN (CG.ret (hs.ret [] (.int .u64 (g:Nat)) (⟨g,rfl,(by first|exact hG.over oM h4|(rw[show ov=0 by omega] at hG;exact hG.fin oM))⟩)))))
 have phb60:=oT hb60
 refine lB 42 hb60 ?_
 refine lL hs [.m 43 42] (lG 44 ?_)
 refine lG 45 ?_
 refine lG 46 ?_
 refine lG 47 ?_
 refine lG 48 ?_
 refine lG 49 ?_
 refine lG 50 ?_
 refine lG 51 ?_
 refine lL hs [.v 52 (.bool true)] (lN (cIT (CG.exit ?_)))
 show CG _ _ _ _ _ _ _ _
 exact cSL (lL hs [.m 61 11,.m 10 61] (lN (CG.ret (hs.ret [] (.int .u64 (g:Nat)) (⟨g,rfl,(by first|exact hG.over oM h4|(rw[show ov=0 by omega] at hG;exact hG.fin oM))⟩)))))
theorem nTrimL (A:Option Addr)(c:Nat)(l:List Nat)(n:Nat)(hn:l.length=n)(hl:l.length≤1099511627776)(hc:l.length≤c)(w:World)(h:Hp)(g:G w h)(hA:SlO 1 u64c 0 h A l):Calls Tryz.prog 125 #[.slice A n c] w (Ret w h fun v _=>v=.slice A (tl l n) c):=by
  subst hn;exact nTrim A c l hl hc w h g hA
theorem nDivW (rb:Nat)(l:List Nat)(c d:Nat)(hd:0<d)(hdB:d<18446744073709551616)(hW:Wd l)(hl:l.length≤1000000000)(hc:l.length≤c)(w:World)(h:Hp)(g:G w h)(ho:Own w rb 22 (l.flatMap u64c))(hj:h[rb]?=some junk) :
    Calls Tryz.prog 139 #[.slice (some ⟨rb,0,none⟩) l.length c,.int .u64 (d:Nat)] w (RetM rb w h fun v w' _=>∃ z:List Nat,∃ r:Nat,v=.tuple #[.slice (some ⟨rb,0,none⟩) (tl z z.length) c,.int .u64 r]∧z.length=l.length∧Wd z∧wval l=d*wval z+r∧r<d∧Own w' rb 22 (z.flatMap u64c)):=by
 have hmo:UpM [rb] w h w h:=UpM.refl g
 obtain ⟨wz,hz,hs⟩:=SS.at_ g ho hj
 have hll:l.length=l.length:=rfl
 refine go Tryz.func139 [(0,.slice (some ⟨rb,0,none⟩) l.length c),(1,.int .u64 (d:Nat))] rfl ?_
 refine cSL (lL hs [.v 4 (.slice none 0 0),.v 5 (.int .u64 0)] (lNS (lL hs [.v 6 (.int .u64 0)] (lN (CG.seq (cSL (lL hs [.m 8 0,.v 9 (.int .i64 (l.length:Nat))] (lV 10 (.int .i64 (((l.length:Nat):Int)-1)) ?_ (hr:=rint (n:=IntKind.wrap .i64 ((l.length:Nat)-1)) kR ((wr64 oM oM).trans oM))))))))))
 refine lL hs [.m 7 10] (lN (CG.block (cTo [(0,.slice (some ⟨rb,0,none⟩) l.length c),(1,.int .u64 (d:Nat)),(4,.slice none 0 0),(5,.int .u64 0),(7,.int .i64 (((l.length:Nat):Int)-1)),(6,.int .u64 0)] ?_)))
 refine CG.loop (fun μ_ Γ w_=>∃ (m:Nat) (z:List Nat) (r:Nat) (h_:Hp),μ_=m∧Γ=[(0,.slice (some ⟨rb,0,none⟩) l.length c),(1,.int .u64 (d:Nat)),(4,.slice none 0 0),(5,.int .u64 0),(7,.int .i64 (((m:Nat):Int)-1)),(6,.int .u64 (r:Nat))]∧SS wz hz w_ h_ [⟨rb,22,(z).flatMap u64c⟩] [] []∧(m≤l.length)∧(z.length=l.length)∧(Wd z)∧(wval l=d*(18446744073709551616^m*bval 18446744073709551616 (z.drop m))+(18446744073709551616^m*r+bval 18446744073709551616 (z.take m)))∧(r<d)∧(UpM [rb] w h w_ h_)) _ ⟨l.length,l,0,h,rfl,rfl,hs.to _ _,Nat.le_refl _,rfl,hW,(by show bval _ l=_;simp[bval,List.drop_eq_nil_of_le]),hd,hmo⟩ ?_
 rintro _ _ w1 ⟨m,z,r,h2,hm3,rfl,hs,hm,hzl,hZ,inv,hrd,hmo⟩
 refine CG.seq (cSL (lL hs [.m 11 7] ?_))
 cases hb4:(decide ((0:Int)≤(((m:Nat):Int)-1:Int)))
 ·
  have phb4:=oF hb4
  refine lB 12 hb4 ?_
  refine lN (cIF (CG.exit ?_))
  show CG _ _ _ _ _ _ _ _
  refine cSL (lL hs [.m 28 0] (lClu 29 0 hs (fun _ g_ f_ sg_=>nTrimL (some ⟨rb,0,none⟩) c (z) (l.length) hzl oM oM _ _ g_ (SlO.of_flat (sz:=1) (f:=u64c) (d:=0) (b:=rb) (o:=0) (l:=z) (fun _=>rfl) sg_)) ?_))
  rintro _ w5 h6 u7 hs rfl
  replace hmo:=hmo.trans (u7.m _)
  refine lL hs [.m 30 6,.m 4 29,.m 5 30] (lN (CG.ret ?_))
  have hm0:m=0:=by omega
  rw[hm0] at inv
  exact hs.retM hmo [] (.tuple #[.slice (some ⟨rb,0,none⟩) (tl (z) l.length) c,.int .u64 (r:Nat)]) ⟨z,r,by rw[hzl],hzl,hZ,(by simp only[Nat.pow_zero,Nat.one_mul,List.drop_zero,List.take_zero,bval] at inv;exact inv),hrd,hs.own 0⟩
 have phb4:=oT hb4
 refine lB 12 hb4 ?_
 refine lN (cIT (CG.skipN (CG.seq (CG.block (CG.listed (lL hs [.m 16 0,.m 17 7,.m 18 6,.m 19 0,.m 20 7] (lX 21 (some ⟨rb,0,none⟩) l.length c 1 (((m:Nat):Int)-1) (m-1) rfl ?_)))))))
 have hzg:=hZ.get (m-1)
 refine lQ 22 0 z u64c 1 0 (m-1) (.int .u64 ((z).getD (m-1) 0:Nat)) hs oM ?_
 refine lL hs [.m 23 1] (lCu 24 (bDiv64 r ((z).getD (m-1) 0) d oM wM wM _ _ hs.g) ?_)
 rintro _ w13 h14 u15 ⟨q8,r9,rfl,he10,hl11,hm12⟩
 replace hmo:=hmo.trans (u15.m _)
 replace hs:=hs.step u15
 refine lL hs [.m 15 24,.v 25 (.int .u64 (q8:Nat)),.v 26 (.int .u64 (r9:Nat))] (lX 27 (some ⟨rb,0,none⟩) l.length c 1 (((m:Nat):Int)-1) (m-1) rfl ?_)
 refine lWu 0 z u64c 1 (m-1) q8 hs oM (fun w16 pu hs=>?_)
 replace hmo:=hmo.put pu (List.mem_singleton.2 rfl) hs.g
 have hl17:((z).set (m-1) q8).length=l.length:=by rw[List.length_set];exact hzl
 replace hs:=hs.to [⟨rb,22,((z).set (m-1) q8).flatMap u64c⟩] []
 refine lL hs [.m 6 26] (lN (CG.listed (lL hs [.m 13 7] (lV 14 (.int .i64 (((m-1:Nat):Int)-1)) ?_ (hr:=rint (n:=IntKind.wrap .i64 ((((m:Nat):Int)-1)-1)) kR ((wr64 oM oM).trans oM))))))
 refine lL hs [.m 7 14] (lD ?_)
 intro a_ ka
 have q18:(m-1)≤l.length:=by omega
 have q19:((z).set (m-1) q8).length=l.length:=hl17
 have q20:Wd ((z).set (m-1) q8):=(hZ.set _ oM)
 have q21:wval l=d*(18446744073709551616^(m-1)*bval 18446744073709551616 (((z).set (m-1) q8).drop (m-1)))+(18446744073709551616^(m-1)*r9+bval 18446744073709551616 (((z).set (m-1) q8).take (m-1))):=(dw_step oM (by rw[show m-1+1=m by omega];exact inv) oM)
 have q22:r9<d:=oM
 have q23:UpM [rb] w h w16 h14:=hmo
 refine ⟨_,_,?_,⟨m-1,(z).set (m-1) q8,r9,h14,rfl,rfl,hs.to _ _,q18,q19,q20,q21,q22,q23⟩,ka.to [(0,.slice (some ⟨rb,0,none⟩) l.length c),(1,.int .u64 (d:Nat)),(4,.slice none 0 0),(5,.int .u64 0),(7,.int .i64 ((((m-1):Nat):Int)-1)),(6,.int .u64 (r9:Nat))] kR⟩
 omega
theorem w3_get {u:List Nat}{k:Nat}(hk:2≤k):w3 (u.getD k 0) (u.getD (k-1) 0) (u.getD (k-2) 0)=u.getD k 0*18446744073709551616*18446744073709551616+u.getD (k-1) 0*18446744073709551616+u.getD (k-2) 0:=by
  unfold w3
  rw[Nat.mul_comm (u.getD k 0) 18446744073709551616,Nat.mul_comm (18446744073709551616*u.getD k 0) 18446744073709551616,Nat.mul_comm (u.getD (k-1) 0),Nat.mul_add]
theorem w2_get {v1 v0:Nat}:w2 v1 v0=v1*18446744073709551616+v0:=by unfold w2;rw[Nat.mul_comm]
section
variable {n j G:Nat} {u v:List Nat}
theorem dv_top (hn:2≤n)(hl:v.length=n)(hdv:Wd v)(hdu:Wd u)(hu:j+n<u.length)(hR:wval u<18446744073709551616^(j+1)*wval v):u.getD (j+n) 0≤v.getD (n-1) 0:=by
  rcases Nat.lt_or_ge (v.getD (n-1) 0) (u.getD (j+n) 0) with h|h
  · exfalso
    have e1:=bval_take_succ 18446744073709551616 (l:=v) (k:=n-1) oM
    rw[show n-1+1=v.length by omega,List.take_length] at e1
    have h1:=bval_lt (Dg.take hdv (n-1))
    rw[List.length_take,Nat.min_eq_left oM] at h1
    have e2:=bval_take_succ 18446744073709551616 (l:=u) (k:=j+n) oM
    have e3:=bval_split 18446744073709551616 (l:=u) (k:=j+n+1) oM
    have h2:18446744073709551616^(j+n)*(v.getD (n-1) 0+1)≤18446744073709551616^(j+n)*u.getD (j+n) 0:=Nat.mul_le_mul_left _ h
    have h3:18446744073709551616^(j+1)*wval v<18446744073709551616^(j+1)*(18446744073709551616^(n-1)*(v.getD (n-1) 0+1)):=by
      refine Nat.mul_lt_mul_of_pos_left ?_ (Nat.pow_pos kD)
      show bval _ v<_
      rw[e1,Nat.mul_add,Nat.mul_one];omega
    rw[←Nat.mul_assoc,←Nat.pow_add,show j+1+(n-1)=j+n by omega] at h3
    have h4:wval u=bval 18446744073709551616 (u.take (j+n))+18446744073709551616^(j+n)*u.getD (j+n) 0+18446744073709551616^(j+n+1)*bval 18446744073709551616 (u.drop (j+n+1)):=by
      show bval _ u=_
      rw[e3,e2]
    have h5:=Nat.zero_le (18446744073709551616^(j+n+1)*bval 18446744073709551616 (u.drop (j+n+1)))
    omega
  · exact h
theorem dv_guess (hn:2≤n)(hl:v.length=n)(hdv:Wd v)(hdu:Wd u)(hu:j+n<u.length)(htop:v.getD (n-1) 0≠0)(hR:wval u<18446744073709551616^(j+1)*wval v)(hG:GssR (u.getD (j+n) 0) (u.getD (j+n-1) 0) (u.getD (j+n-2) 0) (v.getD (n-1) 0) (v.getD (n-2) 0) G) :
    wval u/(18446744073709551616^j*wval v)≤G∧G≤wval u/(18446744073709551616^j*wval v)+1:=by
  obtain ⟨h1,h2,h3⟩:=hG
  rw[w3_get oM,w2_get] at h1 h2
  exact div_guess kD hn hl hdv hdu hu htop hR h1 h2 h3
theorem dv_vb (hn:2≤n)(hl:v.length=n)(hdv:Wd v)(htop:v.getD (n-1) 0≠0):18446744073709551616^(n-1)≤wval v∧wval v<18446744073709551616^n:=by
  have h2:=bval_lt hdv
  rw[hl] at h2
  refine ⟨?_,h2⟩
  have e1:=bval_take_succ 18446744073709551616 (l:=v) (k:=n-1) oM
  rw[show n-1+1=v.length by omega,List.take_length] at e1
  have h3:18446744073709551616^(n-1)*1≤18446744073709551616^(n-1)*v.getD (n-1) 0:=Nat.mul_le_mul_left _ oM
  show _≤bval _ v
  omega
theorem dv_Rb (hn:2≤n)(hl:v.length=n)(hdv:Wd v)(hR:wval u<18446744073709551616^(j+1)*wval v):wval u<18446744073709551616^(j+n+1):=by
  have h2:=bval_lt hdv
  rw[hl] at h2
  have h1:18446744073709551616^(j+1)*wval v<18446744073709551616^(j+1)*18446744073709551616^n:=Nat.mul_lt_mul_of_pos_left h2 (Nat.pow_pos kD)
  rw[←Nat.pow_add,show j+1+n=j+n+1 by omega] at h1
  omega
theorem dv_zero {u1:List Nat}(hn:2≤n)(hl:v.length=n)(hdv:Wd v)(hdu:Wd u)(hd1:Wd u1)(hu:j+n<u.length)(htop:v.getD (n-1) 0≠0)(hR:wval u<18446744073709551616^(j+1)*wval v)
    (hG:wval u/(18446744073709551616^j*wval v)≤G∧G≤wval u/(18446744073709551616^j*wval v)+1)(hab:Above u1 u (j+n+1))(e:wval u1+18446744073709551616^j*(G*wval v)=wval u+18446744073709551616^(j+n+1)*0) :
    wval u1<18446744073709551616^j*wval v∧wval u1+18446744073709551616^j*(G*wval v)=wval u:=by
  obtain ⟨v1,v2⟩:=dv_vb hn hl hdv htop
  have hb:=above_lt (b:=18446744073709551616) kD hab hd1 hdu (by rw[hab.1];omega) (dv_Rb hn hl hdv hR)
  have:=(div_digit (b:=18446744073709551616) kD hn v1 v2 hR hb e (Nat.zero_le 1) hG).1 rfl
  rw[Nat.mul_zero,Nat.add_zero] at e
  exact ⟨this.2.2.1,e⟩
theorem dv_ar {U1 U2 W K T c:Nat}(e2:U2+T*c=U1+W)(g2:U1+W=K+T)(hU:U2<T)(hK:K<W)(hW:W≤T):U2=K:=by
  have hc:c=1:=by
    rcases Nat.lt_trichotomy c 1 with h|h|h
    · have:c=0:=by omega
      subst this;omega
    · exact h
    · have h2:T*2≤T*c:=Nat.mul_le_mul_left _ h
      omega
  subst hc
  omega
theorem dv_one {u1 u2:List Nat}{c:Nat}(hn:2≤n)(hl:v.length=n)(hdv:Wd v)(hdu:Wd u)(hd1:Wd u1)(hd2:Wd u2)(hu:j+n<u.length)(htop:v.getD (n-1) 0≠0)(hR:wval u<18446744073709551616^(j+1)*wval v)
    (hG:wval u/(18446744073709551616^j*wval v)≤G∧G≤wval u/(18446744073709551616^j*wval v)+1)(hab:Above u1 u (j+n+1))(hab2:Above u2 u (j+n+1))(e:wval u1+18446744073709551616^j*(G*wval v)=wval u+18446744073709551616^(j+n+1)*1)
    (e2:wval u2+18446744073709551616^(j+n+1)*c=wval u1+18446744073709551616^j*wval v) :
    wval u2<18446744073709551616^j*wval v∧wval u2+18446744073709551616^j*((G-1)*wval v)=wval u∧0<G:=by
  obtain ⟨v1,v2⟩:=dv_vb hn hl hdv htop
  have hRb:=dv_Rb hn hl hdv hR
  have hb:=above_lt (b:=18446744073709551616) kD hab hd1 hdu (by rw[hab.1];omega) hRb
  have hb2:=above_lt (b:=18446744073709551616) kD hab2 hd2 hdu (by rw[hab2.1];omega) hRb
  obtain ⟨g1,g2,g3,g4⟩:=(div_digit (b:=18446744073709551616) kD hn v1 v2 hR hb e oM hG).2 rfl
  have hbig:18446744073709551616^j*wval v≤18446744073709551616^(j+n+1):=by
    have h1:18446744073709551616^j*wval v≤18446744073709551616^j*18446744073709551616^n:=Nat.mul_le_mul_left _ (Nat.le_of_lt v2)
    rw[←Nat.pow_add] at h1
    have h2:(18446744073709551616:Nat)^(j+n)≤18446744073709551616^(j+n+1):=Nat.pow_le_pow_right kD oM
    exact Nat.le_trans h1 h2
  have hk:wval u2=wval u-18446744073709551616^j*((G-1)*wval v):=dv_ar e2 g2 hb2 g3 hbig
  exact ⟨by rw[hk];exact g3,by rw[hk];exact Nat.sub_add_cancel g4,by rw[g1];exact Nat.succ_pos _⟩
theorem dv_pos {u1:List Nat}(hn:2≤n)(hl:v.length=n)(hdv:Wd v)(hdu:Wd u)(hd1:Wd u1)(hu:j+n<u.length)(htop:v.getD (n-1) 0≠0)(hR:wval u<18446744073709551616^(j+1)*wval v)
    (hG:wval u/(18446744073709551616^j*wval v)≤G∧G≤wval u/(18446744073709551616^j*wval v)+1)(hab:Above u1 u (j+n+1))(e:wval u1+18446744073709551616^j*(G*wval v)=wval u+18446744073709551616^(j+n+1)*1):0<G:=by
  obtain ⟨v1,v2⟩:=dv_vb hn hl hdv htop
  have hb:=above_lt (b:=18446744073709551616) kD hab hd1 hdu (by rw[hab.1];omega) (dv_Rb hn hl hdv hR)
  obtain ⟨g1,_⟩:=(div_digit (b:=18446744073709551616) kD hn v1 v2 hR hb e (Nat.le_refl 1) hG).2 rfl
  rw[g1];exact Nat.succ_pos _
theorem dv_rest (hn:n≤u.length)(hl:v.length=n)(hdv:Wd v)(hdu:Wd u)(hR:wval u<wval v):wval (u.take n)=wval u:=by
  have h2:=bval_lt hdv
  rw[hl] at h2
  have h3:bval 18446744073709551616 u<18446744073709551616^(n+0):=Nat.lt_trans hR h2
  have hz:=(bval_top 18446744073709551616 (l:=u) (k:=n) (m:=0) oM kD hdu h3).2
  have e:=bval_split 18446744073709551616 (l:=u) (k:=n) hn
  have h4:bval 18446744073709551616 (u.drop n)=0:=bval_of_zero _ (fun i=>by rw[getD_drop'];exact hz _ oM)
  rw[h4,Nat.mul_zero,Nat.add_zero] at e
  exact e.symm
end
theorem dv_quo {q:List Nat}{j Q X V R R':Nat}(hj:j<q.length)(h0:q.getD j 0=0)(inv:X=wval q*V+R)(e:R'+18446744073709551616^j*(Q*V)=R):X=wval (q.set j Q)*V+R':=by
  have s1:=bval_set 18446744073709551616 (l:=q) (k:=j) Q hj
  rw[h0,Nat.mul_zero,Nat.add_zero] at s1
  have s2:wval (q.set j Q)=wval q+18446744073709551616^j*Q:=s1
  rw[s2,Nat.add_mul,inv,←e,Nat.mul_assoc];omega
theorem dv_end {X V R q a b s:Nat}(hV:V=b*2^s)(hX:X=a*2^s)(inv:X=q*V+R)(hR:R<V):q=a/b∧R/2^s=a%b:=by
  have hp:=Nat.two_pow_pos s
  have hV0:0<V:=by omega
  have hb:0<b:=by
    rcases Nat.eq_zero_or_pos b with h|h
    · rw[h,Nat.zero_mul] at hV;omega
    · exact h
  have e1:a*2^s=V*q+R:=by rw[←hX,inv,Nat.mul_comm]
  obtain ⟨h1,h2⟩:=half_core (A:=a) (y:=b) (Q:=q) hV e1 hR
  have h3:a=R/2^s+b*q:=by omega
  constructor
  · rw[h3,Nat.add_mul_div_left _ _ hb,Nat.div_eq_of_lt h2,Nat.zero_add]
  · rw[h3,Nat.add_mul_mod_self_left,Nat.mod_eq_of_lt h2]
theorem shl_room {a s:Nat}(hs:s≤64)(h:a*2^s<18446744073709551616):a*2^s+2^s≤18446744073709551616:=by
  have e:=pow64 hs
  rw[e] at h ⊢
  have h1:a<2^(64-s):=Nat.lt_of_mul_lt_mul_right h
  have h2:(a+1)*2^s≤2^(64-s)*2^s:=Nat.mul_le_mul_right _ h1
  rw[Nat.add_mul,Nat.one_mul] at h2
  exact h2
theorem dv_start {x y:List Nat}{s:Nat}(hx:Wd x)(hy:Wd y)(hn:1≤y.length)(htop:y.getD (y.length-1) 0≠0)(hxy:y.length≤x.length):wval x*2^s<18446744073709551616^(x.length-y.length+1)*(wval y*2^s):=by
  have e1:=bval_take_succ 18446744073709551616 (l:=y) (k:=y.length-1) oM
  rw[show y.length-1+1=y.length by omega,List.take_length] at e1
  have h3:18446744073709551616^(y.length-1)*1≤18446744073709551616^(y.length-1)*y.getD (y.length-1) 0:=Nat.mul_le_mul_left _ oM
  have h4:18446744073709551616^(y.length-1)≤wval y:=by show _≤bval _ y;omega
  have h5:18446744073709551616^(x.length-y.length+1)*18446744073709551616^(y.length-1)≤18446744073709551616^(x.length-y.length+1)*wval y:=Nat.mul_le_mul_left _ h4
  rw[←Nat.pow_add,show x.length-y.length+1+(y.length-1)=x.length by omega] at h5
  have h6:wval x<18446744073709551616^x.length:=bval_lt hx
  rw[←Nat.mul_assoc]
  exact Nat.mul_lt_mul_of_pos_right (Nat.lt_of_lt_of_le h6 h5) (Nat.two_pow_pos s)
theorem nShDnL (A:Option Addr)(c:Nat)(x:List Nat)(m:Nat)(hm:x.length=m)(hx:Wd x)(hlx:x.length≤1000000000)(n:Nat)(hn:n≤1000000000)(w:World)(h:Hp)(g:G w h)(hA:SlO 1 u64c 0 h A x):Calls Tryz.prog 155 #[.slice A m c,.int .i64 (n:Nat)] w (Ret w h fun v h1=>RowW h1 v (x.length-n/64) (fun z=>wval z=wval x/2^n)):=by
  subst hm;exact nShDn A c x hx hlx n hn w h g hA
theorem dv_shl {y z:List Nat}{s:Nat}(hs64:s≤64)(hy:Wd y)(hz:Wd z)(hV:wval z=wval y*2^s)(hn:1≤y.length)(hs:y.getD (y.length-1) 0*2^s<18446744073709551616)(hlen:y.length≤z.length):wval (z.take y.length)=wval y*2^s:=by
  have hlt:wval z<18446744073709551616^(y.length+0):=by
    rw[hV,Nat.add_zero]
    have e1:=bval_take_succ 18446744073709551616 (l:=y) (k:=y.length-1) oM
    rw[show y.length-1+1=y.length by omega,List.take_length] at e1
    have h1:=bval_lt (Dg.take hy (y.length-1))
    rw[List.length_take,Nat.min_eq_left oM] at h1
    have h2:wval y<18446744073709551616^(y.length-1)*(y.getD (y.length-1) 0+1):=by
      show bval _ y<_
      rw[e1,Nat.mul_add,Nat.mul_one];omega
    have h3:wval y*2^s<18446744073709551616^(y.length-1)*(y.getD (y.length-1) 0+1)*2^s:=Nat.mul_lt_mul_of_pos_right h2 (Nat.two_pow_pos s)
    have h4:18446744073709551616^(y.length-1)*(y.getD (y.length-1) 0+1)*2^s≤18446744073709551616^y.length:=by
      have e5:(18446744073709551616:Nat)^y.length=18446744073709551616^(y.length-1)*18446744073709551616:=by rw[←Nat.pow_succ];congr 1;omega
      rw[e5,Nat.mul_assoc]
      refine Nat.mul_le_mul_left _ ?_
      rw[Nat.add_mul,Nat.one_mul]
      exact shl_room hs64 hs
    exact Nat.lt_of_lt_of_le h3 h4
  have hzz:=(bval_top 18446744073709551616 (l:=z) (k:=y.length) (m:=0) oM kD hz hlt).2
  have e:=bval_split 18446744073709551616 (l:=z) (k:=y.length) oM
  have h4:bval 18446744073709551616 (z.drop y.length)=0:=bval_of_zero _ (fun i=>by rw[getD_drop'];exact hzz _ oM)
  rw[h4,Nat.mul_zero,Nat.add_zero] at e
  rw[←hV];exact e.symm
theorem dv_topn {y v:List Nat}{s:Nat}(hy:Wd y)(hv:Wd v)(hl:v.length=y.length)(hV:wval v=wval y*2^s)(hn:1≤y.length)(hs:9223372036854775808≤y.getD (y.length-1) 0*2^s):v.getD (v.length-1) 0≠0:=by
  intro h0
  have e1:=bval_take_succ 18446744073709551616 (l:=v) (k:=v.length-1) oM
  rw[show v.length-1+1=v.length by omega,List.take_length,h0,Nat.mul_zero,Nat.add_zero] at e1
  have h1:=bval_lt (Dg.take hv (v.length-1))
  rw[List.length_take,Nat.min_eq_left oM] at h1
  have e2:=bval_take_succ 18446744073709551616 (l:=y) (k:=y.length-1) oM
  rw[show y.length-1+1=y.length by omega,List.take_length] at e2
  have h2:18446744073709551616^(y.length-1)*y.getD (y.length-1) 0≤wval y:=by show _≤bval _ y;omega
  have h3:18446744073709551616^(y.length-1)*y.getD (y.length-1) 0*2^s≤wval y*2^s:=Nat.mul_le_mul_right _ h2
  rw[Nat.mul_assoc] at h3
  have h4:18446744073709551616^(y.length-1)*1≤18446744073709551616^(y.length-1)*(y.getD (y.length-1) 0*2^s):=Nat.mul_le_mul_left _ oM
  have h5:wval v<18446744073709551616^(y.length-1):=by
    show bval _ v<_
    rw[e1,←hl];exact h1
  omega
theorem nDivWs (A:Option Addr)(c:Nat)(x:List Nat)(D:Option Addr)(d:Nat)(y:List Nat)(hx:Wd x)(hy:Wd y)(hlx:x.length≤1000000000)(hny:2≤y.length)(hxy:y.length≤x.length)(htop:y.getD (y.length-1) 0≠0)(w:World)(h:Hp)(g:G w h)(hA:SlO 1 u64c 0 h A x)(hD:SlO 1 u64c 0 h D y) :
    Calls Tryz.prog 140 #[.slice A x.length c,.slice D y.length d] w (Ret w h fun v h1=>∃ Aq cq,∃ q:List Nat,∃ Ar cr,∃ r:List Nat,v=.tuple #[.slice Aq q.length cq,.slice Ar r.length cr]∧q.length≤cq∧r.length≤cr∧Wd q∧Wd r∧wval q=wval x/wval y∧wval r=wval x%wval y∧q.length≤x.length∧r.length≤y.length∧SlO 1 u64c 0 h1 Aq q∧SlO 1 u64c 0 h1 Ar r):=by
 have hs:=SS.start g
 replace hs:=((hs.a_SlO hA).a_SlO hD)
 refine go Tryz.func140 [(0,.slice A x.length c),(1,.slice D y.length d)] rfl ?_
 refine cSL (lL hs [.v 4 (.slice none 0 0),.v 5 (.slice none 0 0)] (lNS (lL hs [.m 21 1,.v 22 (.int .i64 (y.length:Nat)),.m 6 22] (lNS (lL hs [.m 23 1,.m 24 6] (lIn 25 ((y.length:Nat)-1) (y.length-1) ?_))))))
 refine lX 26 D y.length d 1 (y.length-1:Nat) (y.length-1) ((hs.f.1).ok oM) ?_
 refine lH 27 (.int .u64 (y.getD (y.length-1) 0:Nat)) hs ((hs.f.1).el (y.length-1) oM) ?_
 have hyt:=hy.get (y.length-1)
 refine lC 28 hs (bLz64 (y.getD (y.length-1) 0) wM _ _ hs.g) ?_
 rintro _ w1 h2 hs rfl
 refine lL hs [.m 7 28] (lNS (lL hs [.m 29 1,.m 30 7] (lC 31 hs (nShUp D d y hy oM (64-nb (y.getD (y.length-1) 0)) oM _ _ hs.g (hs.f.1)) ?_)))
 rintro _ w3 h4 hs ⟨V,vc,zv,rfl,hvc,hvlz,hWv,hVv,hFv⟩
 replace hs:=(hs.a_SlO hFv)
 refine lL hs [.m 32 6] (lT 33 V zv.length vc 1 (y.length:Nat) y.length ?_)
 obtain ⟨vl,hvl_⟩:∃ vl,vl=zv.take y.length:=⟨_,rfl⟩
 have hvlen:vl.length=y.length:=by rw[hvl_,List.length_take];omega
 have hWvl:Wd vl:=by rw[hvl_];exact Dg.take hWv _
 have hnbp:=(nb_spec (n:=y.getD (y.length-1) 0) oM).2.2
 have hnrm:=lz_norm (y:=y.getD (y.length-1) 0) oM (hy.get _)
 have hVvl:wval vl=wval y*2^(64-nb (y.getD (y.length-1) 0)):=by rw[hvl_];exact dv_shl oM hy hWv hVv oM hnrm.2 oM
 have htopv:vl.getD (vl.length-1) 0≠0:=dv_topn hy hWvl hvlen hVvl oM hnrm.1
 replace hs:=hs.a_SlO ((hs.f.1).take y.length)
 rw[←hvl_] at hs
 refine lL hs [.m 8 33] (lNS (lL hs [.m 34 0,.v 35 (.int .i64 (x.length:Nat))] (lIn 36 ((x.length:Nat)+1) (x.length+1) ?_)))
 refine lK 37 22 (x.length+1) 1 8 (.int .u64 0) u64c 0 hs (fun b5 w6 h7 hs=>?_)
 have hl8:(List.replicate (x.length+1) 0).length=(x.length+1):=by simp
 refine lL hs [.m 9 37] (lNS (lL hs [.m 38 9,.m 39 0,.m 40 7] (lC 41 hs (nShUp A c x hx hlx (64-nb (y.getD (y.length-1) 0)) oM _ _ hs.g (hs.f.2.2.2.1)) ?_)))
 rintro _ w9 h10 hs ⟨Uo,uc,zu,rfl,huc,hulz,hWzu,hVu,hFu⟩
 replace hs:=(hs.a_SlO hFu)
 have hlu_:zu.length=x.length+1:=by omega
 refine lCp 42 0 (.tmp 38) (.tmp 41) 146 22 u64c 0 Uo zu (x.length+1) zu.length uc (x.length+1) hs (hs.f.1) rfl oM oM (by show ((List.replicate (x.length+1) 0).flatMap u64c).length=_;rw[len_flat (sz:=1) (fun _=>rfl)];simp) (fun w11 hs=>?_)
 replace hs:=hs.to [⟨b5,22,(zu).flatMap u64c⟩] []
 refine lNS (lL hs [.m 43 0,.v 44 (.int .i64 (x.length:Nat)),.m 45 6] (lIn 46 ((x.length:Nat)-(y.length:Nat)) (x.length-y.length) ?_))
 refine lIn 47 ((x.length-y.length:Nat)+1) ((x.length-y.length)+1) ?_
 refine lK 48 22 ((x.length-y.length)+1) 1 8 (.int .u64 0) u64c 0 hs (fun b12 w13 h14 hs=>?_)
 have hl15:(List.replicate ((x.length-y.length)+1) 0).length=((x.length-y.length)+1):=by simp
 refine lL hs [.m 4 48] (lN (CG.seq (cSL (lL hs [.m 49 0,.v 50 (.int .i64 (x.length:Nat)),.m 51 6] (lV 52 (.int .i64 (((x.length-y.length+1:Nat):Int)-1)) ?_ (hr:=rint (n:=IntKind.wrap .i64 ((x.length:Nat)-(y.length:Nat))) kR ((wr64 oM oM).trans oM)))))))
 refine lL hs [.m 10 52] (lN (cTo [(4,.slice (some ⟨b12,0,none⟩) ((x.length-y.length)+1) ((x.length-y.length)+1)),(5,.slice none 0 0),(6,.int .i64 (y.length:Nat)),(7,.int .i64 (64-nb (y.getD (y.length-1) 0):Nat)),(8,.slice V y.length vc),(9,.slice (some ⟨b5,0,none⟩) (x.length+1) (x.length+1)),(10,.int .i64 (((x.length-y.length+1:Nat):Int)-1))] ?_))
 refine CG.block (cTo [(4,.slice (some ⟨b12,0,none⟩) ((x.length-y.length)+1) ((x.length-y.length)+1)),(5,.slice none 0 0),(6,.int .i64 (y.length:Nat)),(7,.int .i64 (64-nb (y.getD (y.length-1) 0):Nat)),(8,.slice V y.length vc),(9,.slice (some ⟨b5,0,none⟩) (x.length+1) (x.length+1)),(10,.int .i64 (((x.length-y.length+1:Nat):Int)-1))] ?_)
 refine CG.loop (fun μ_ Γ w_=>∃ (m:Nat) (ul:List Nat) (ql:List Nat) (h_:Hp),μ_=m∧Γ=[(4,.slice (some ⟨b12,0,none⟩) ((x.length-y.length)+1) ((x.length-y.length)+1)),(5,.slice none 0 0),(6,.int .i64 (y.length:Nat)),(7,.int .i64 (64-nb (y.getD (y.length-1) 0):Nat)),(8,.slice V y.length vc),(9,.slice (some ⟨b5,0,none⟩) (x.length+1) (x.length+1)),(10,.int .i64 (((m:Nat):Int)-1))]∧SS w h w_ h_ [⟨b12,22,(ql).flatMap u64c⟩,⟨b5,22,(ul).flatMap u64c⟩] [] [fun h_=>SlO 1 u64c 0 h_ Uo zu,fun h_=>SlO 1 u64c 0 h_ V vl,fun h_=>SlO 1 u64c 0 h_ V zv,fun h_=>SlO 1 u64c 0 h_ D y,fun h_=>SlO 1 u64c 0 h_ A x]∧(m≤x.length-y.length+1)∧(ul.length=x.length+1)∧(Wd ul)∧(ql.length=x.length-y.length+1)∧(Wd ql)∧(wval ul<18446744073709551616^m*wval vl)∧(wval zu=wval ql*wval vl+wval ul)∧(∀ k,k<m→ql.getD k 0=0)) _ ⟨x.length-y.length+1,zu,List.replicate ((x.length-y.length)+1) 0,h14,rfl,rfl,hs.to _ _,Nat.le_refl _,hlu_,hWzu,hl15,Wd.rep _,(by rw[hVu,hVvl];exact dv_start hx hy oM htop oM),(by show _=bval _ _*_+_;rw[bval_rep,Nat.zero_mul,Nat.zero_add]),fun k _=>getD_rep⟩ ?_
 rintro _ _ w16 ⟨m,ul,ql,h17,hm18,rfl,hs,hm,hul,hWu,hql,hWq,hR,inv,hq0⟩
 refine CG.seq (cSL (lL hs [.m 53 10] ?_))
 cases hb19:(decide ((0:Int)≤(((m:Nat):Int)-1:Int)))
 ·
  have phb19:=oF hb19
  refine lB 54 hb19 ?_
  refine lN (cIF (CG.exit ?_))
  show CG _ _ _ _ _ _ _ _
  refine cSL ?_
  have hm0:m=0:=by omega
  obtain ⟨h20,hs,sg21,lo22,bc23⟩:=hs.pub 0
  replace hs:=(hs.to [⟨b5,22,(ul).flatMap u64c⟩] []).a_SlO (SlO.of_flat (sz:=1) (f:=u64c) (d:=0) (b:=b12) (o:=0) (l:=ql) (fun _=>rfl) sg21)
  obtain ⟨h25,hs,sg26,lo27,bc28⟩:=hs.pub 0
  replace hs:=(hs.to [] []).a_SlO (SlO.of_flat (sz:=1) (f:=u64c) (d:=0) (b:=b5) (o:=0) (l:=ul) (fun _=>rfl) sg26)
  refine lL hs [.m 187 4,.m 188 9,.m 189 6] (lT 190 (some ⟨b5,0,none⟩) (x.length+1) (x.length+1) 1 (y.length:Nat) y.length ?_)
  refine lL hs [.m 191 7] (lC 192 hs (nShDnL (some ⟨b5,0,none⟩) (x.length+1) (ul.take y.length) y.length (by rw[List.length_take];omega) (Dg.take hWu _) (by rw[List.length_take];omega) (64-nb (y.getD (y.length-1) 0)) oM _ _ hs.g ((hs.f.1).take y.length)) ?_)
  rintro _ w30 h31 hs ⟨Ar,cr,zr,rfl,hcr,hlr,hWr,hVr,hFr⟩
  replace hs:=(hs.a_SlO hFr)
  refine lL hs [.m 4 187,.m 5 192] (lN (CG.ret ?_))
  rw[hm0,Nat.pow_zero,Nat.one_mul] at hR
  obtain ⟨hQ,hRm⟩:=dv_end hVvl hVu inv hR
  rw[dv_rest (v:=vl) oM oM hWvl hWu hR] at hVr
  exact hs.ret [] (.tuple #[.slice (some ⟨b12,0,none⟩) ((x.length-y.length)+1) ((x.length-y.length)+1),.slice Ar zr.length cr]) (⟨_,_,ql,Ar,cr,zr,by rw[hql],by omega,hcr,hWq,hWr,hQ,hVr.trans hRm,by omega,(by have:=List.length_take_le y.length ul;omega),(hs.f.2.2.1),(hs.f.1)⟩)
 have phb19:=oT hb19
 refine lB 54 hb19 ?_
 refine lN (cIT (CG.skipN (CG.seq (CG.block (CG.seq (cR 31 [] mixed hs al_nil ?_))))))
 have hm1:0<m:=by omega
 have hn2:2≤vl.length:=by omega
 have hjn:m-1+vl.length<ul.length:=by omega
 have hR1:wval ul<18446744073709551616^(m-1+1)*wval vl:=by rw[show m-1+1=m by omega];exact hR
 have hle:=dv_top (n:=vl.length) (j:=m-1) hn2 rfl hWvl hWu hjn hR1
 refine eV 0 57 (.slice (some ⟨b5,0,none⟩) (x.length+1) (x.length+1)) ?_
 refine eV 1 58 (.int .i64 (((m:Nat):Int)-1)) ?_
 refine eV 2 59 (.int .i64 (y.length:Nat)) ?_
 refine eIn 3 60 ((((m:Nat):Int)-1)+(y.length:Nat)) (m-1+vl.length) ?_
 refine eX 4 61 (some ⟨b5,0,none⟩) (x.length+1) (x.length+1) 1 (m-1+vl.length:Nat) (m-1+vl.length) rfl ?_
 refine eQ 5 62 1 ul u64c 1 0 (m-1+vl.length) (.int .u64 ((ul).getD (m-1+vl.length) 0:Nat)) hs oM ?_
 refine eV 6 63 (.slice (some ⟨b5,0,none⟩) (x.length+1) (x.length+1)) ?_
 refine eV 7 64 (.int .i64 (((m:Nat):Int)-1)) ?_
 refine eV 8 65 (.int .i64 (y.length:Nat)) ?_
 refine eIn 9 66 ((((m:Nat):Int)-1)+(y.length:Nat)) (m-1+vl.length) ?_
 refine eIn 10 67 ((m-1+vl.length:Nat)-1) (m-1+vl.length-1) ?_
 refine eX 11 68 (some ⟨b5,0,none⟩) (x.length+1) (x.length+1) 1 (m-1+vl.length-1:Nat) (m-1+vl.length-1) rfl ?_
 refine eQ 12 69 1 ul u64c 1 0 (m-1+vl.length-1) (.int .u64 ((ul).getD (m-1+vl.length-1) 0:Nat)) hs oM ?_
 refine eV 13 70 (.slice (some ⟨b5,0,none⟩) (x.length+1) (x.length+1)) ?_
 refine eV 14 71 (.int .i64 (((m:Nat):Int)-1)) ?_
 refine eV 15 72 (.int .i64 (y.length:Nat)) ?_
 refine eIn 16 73 ((((m:Nat):Int)-1)+(y.length:Nat)) (m-1+vl.length) ?_
 refine eIn 17 74 ((m-1+vl.length:Nat)-2) (m-1+vl.length-2) ?_
 refine eX 18 75 (some ⟨b5,0,none⟩) (x.length+1) (x.length+1) 1 (m-1+vl.length-2:Nat) (m-1+vl.length-2) rfl ?_
 refine eQ 19 76 1 ul u64c 1 0 (m-1+vl.length-2) (.int .u64 ((ul).getD (m-1+vl.length-2) 0:Nat)) hs oM ?_
 refine eV 20 77 (.slice V y.length vc) ?_
 refine eV 21 78 (.int .i64 (y.length:Nat)) ?_
 refine eIn 22 79 ((y.length:Nat)-1) (vl.length-1) ?_
 refine eX 23 80 V y.length vc 1 (vl.length-1:Nat) (vl.length-1) ((hs.f.2.1).ok oM) ?_
 refine eH 24 81 (.int .u64 (vl.getD (vl.length-1) 0:Nat)) hs ((hs.f.2.1).el (vl.length-1) oM) ?_
 refine eV 25 82 (.slice V y.length vc) ?_
 refine eV 26 83 (.int .i64 (y.length:Nat)) ?_
 refine eIn 27 84 ((y.length:Nat)-2) (vl.length-2) ?_
 refine eX 28 85 V y.length vc 1 (vl.length-2:Nat) (vl.length-2) ((hs.f.2.1).ok oM) ?_
 refine eH 29 86 (.int .u64 (vl.getD (vl.length-2) 0:Nat)) hs ((hs.f.2.1).el (vl.length-2) oM) ?_
 refine eC 30 87 hs (fun _ _ hs=>nGuess (((ul).getD (m-1+vl.length) 0)) (((ul).getD (m-1+vl.length-1) 0)) (((ul).getD (m-1+vl.length-2) 0)) ((vl.getD (vl.length-1) 0)) ((vl.getD (vl.length-2) 0)) (hWu.get _) (hWu.get _) (hWu.get _) (hWvl.get _) (hWvl.get _) hle oM _ _ hs.g) ?_
 rintro _ _ _ w32 h33 hs ⟨g,rfl,hG0⟩
 have hG:=dv_guess (n:=vl.length) (j:=m-1) hn2 rfl hWvl hWu hjn htopv hR1 hG0
 have hgb:=hG0.2.2
 refine eD0 hs (fun w34 h35 hs=>?_)
 refine tV 31 11 (.int .u64 (g:Nat)) ?_
 refine tN (cTo [(4,.slice (some ⟨b12,0,none⟩) ((x.length-y.length)+1) ((x.length-y.length)+1)),(5,.slice none 0 0),(6,.int .i64 (y.length:Nat)),(7,.int .i64 (64-nb (y.getD (y.length-1) 0):Nat)),(8,.slice V y.length vc),(9,.slice (some ⟨b5,0,none⟩) (x.length+1) (x.length+1)),(10,.int .i64 (((m:Nat):Int)-1)),(11,.int .u64 (g:Nat))] ?_)
 refine cSL (lL hs [.v 12 (.int .u64 0),.v 13 (.int .u64 0)] (lN (CG.seq (cSL (lL hs [.m 88 6,.v 89 (.int .i64 0)] (lN (CG.block (cTo [(4,.slice (some ⟨b12,0,none⟩) ((x.length-y.length)+1) ((x.length-y.length)+1)),(5,.slice none 0 0),(6,.int .i64 (y.length:Nat)),(7,.int .i64 (64-nb (y.getD (y.length-1) 0):Nat)),(8,.slice V y.length vc),(9,.slice (some ⟨b5,0,none⟩) (x.length+1) (x.length+1)),(10,.int .i64 (((m:Nat):Int)-1)),(11,.int .u64 (g:Nat)),(88,.int .i64 (y.length:Nat)),(89,.int .i64 0),(12,.int .u64 0),(13,.int .u64 0)] ?_))))))))
 refine CG.loop (fun μ_ Γ w_=>∃ (i:Nat) (u1:List Nat) (cy:Nat) (bo:Nat) (h_:Hp),μ_=y.length-i∧Γ=[(4,.slice (some ⟨b12,0,none⟩) ((x.length-y.length)+1) ((x.length-y.length)+1)),(5,.slice none 0 0),(6,.int .i64 (y.length:Nat)),(7,.int .i64 (64-nb (y.getD (y.length-1) 0):Nat)),(8,.slice V y.length vc),(9,.slice (some ⟨b5,0,none⟩) (x.length+1) (x.length+1)),(10,.int .i64 (((m:Nat):Int)-1)),(11,.int .u64 (g:Nat)),(88,.int .i64 (y.length:Nat)),(89,.int .i64 (i:Nat)),(12,.int .u64 (cy:Nat)),(13,.int .u64 (bo:Nat))]∧SS w h w_ h_ [⟨b12,22,(ql).flatMap u64c⟩,⟨b5,22,(u1).flatMap u64c⟩] [] [fun h_=>SlO 1 u64c 0 h_ Uo zu,fun h_=>SlO 1 u64c 0 h_ V vl,fun h_=>SlO 1 u64c 0 h_ V zv,fun h_=>SlO 1 u64c 0 h_ D y,fun h_=>SlO 1 u64c 0 h_ A x]∧(i≤y.length)∧(u1.length=x.length+1)∧(Wd u1)∧(cy<18446744073709551616)∧(bo≤1)∧(bval 18446744073709551616 u1+18446744073709551616^(m-1)*(g*bval 18446744073709551616 (vl.take i))=wval ul+18446744073709551616^(m-1+i)*(cy+bo))∧(Above u1 ul (m-1+vl.length+1))) _ ⟨0,ul,0,0,h35,rfl,rfl,hs.to _ _,Nat.zero_le _,hul,hWu,oM,oM,(by show bval _ ul+_=bval _ ul+_;simp[bval]),Above.refl _ _⟩ ?_
 rintro _ _ w36 ⟨i,u1,cy,bo,h37,hm38,rfl,hs,hi,hu1,hW1,hcy,hbo,inv1,hab1⟩
 have hu1k:=hW1.get (m-1+i)
 have hvk:=hWvl.get i
 refine cSL ?_
 cases hb39:(decide (((i:Nat):Int)<((y.length:Nat):Int)))
 ·
  have phb39:=oF hb39
  refine lB 90 hb39 ?_
  refine lN (CG.seq (cIF (CG.exit ?_)))
  show CG _ _ _ _ _ _ _ _
  refine cSL ?_
  rw[show i=vl.length by omega] at inv1
  have hu1n:=hW1.get (m-1+vl.length)
  refine lL hs [.m 129 9,.m 130 10,.m 131 6] (lIn 132 ((((m:Nat):Int)-1)+(y.length:Nat)) (m-1+vl.length) ?_)
  refine lL hs [.m 133 9,.m 134 10,.m 135 6] (lIn 136 ((((m:Nat):Int)-1)+(y.length:Nat)) (m-1+vl.length) ?_)
  refine lX 137 (some ⟨b5,0,none⟩) (x.length+1) (x.length+1) 1 (m-1+vl.length:Nat) (m-1+vl.length) rfl ?_
  refine lQ 138 1 u1 u64c 1 0 (m-1+vl.length) (.int .u64 ((u1).getD (m-1+vl.length) 0:Nat)) hs oM ?_
  refine lL hs [.m 139 12,.m 140 13] ?_
  obtain ⟨s40,c41,he42,hl43,hm44,hr45⟩:=bSub64 ((u1).getD (m-1+vl.length) 0) cy bo wM wM oM
  refine lV 141 (.tuple #[.int .u64 (s40:Nat),.int .u64 (c41:Nat)]) ?_ (hr:=opExt kR (hr45 _))
  refine lL hs [.m 128 141,.v 142 (.int .u64 (s40:Nat)),.v 143 (.int .u64 (c41:Nat))] (lX 144 (some ⟨b5,0,none⟩) (x.length+1) (x.length+1) 1 (m-1+vl.length:Nat) (m-1+vl.length) rfl ?_)
  refine lW 1 u1 u64c 1 (m-1+vl.length) s40 hs oM (fun w46 hs=>?_)
  have hl47:((u1).set (m-1+vl.length) s40).length=(x.length+1):=by rw[List.length_set];exact hu1
  replace hs:=hs.to [⟨b12,22,(ql).flatMap u64c⟩,⟨b5,22,((u1).set (m-1+vl.length) s40).flatMap u64c⟩] []
  refine lL hs [.m 13 143] (lN (CG.seq (cSL ?_)))
  have hE:=ms_end oM inv1 (s:=s40) (bo':=c41) oM
  have hW4:Wd ((u1).set (m-1+vl.length) s40):=hW1.set _ oM
  have hab4:=hab1.set (x:=s40) (show m-1+vl.length<m-1+vl.length+1 by omega) oM
  refine lL hs [.m 145 13] ?_
  cases hb48:(((c41:Nat):Int) != (0:Int))
  ·
   have phb48:=eqOfBne hb48
   refine lB 146 hb48 ?_
   refine lN (cIF (CG.skipN (CG.listed ?_)))
   have hD_:=dv_zero hn2 rfl hWvl hWu hW4 hjn htopv hR1 hG hab4 (by rw[show c41=0 by omega] at hE;exact hE)
   have hDw:=hW4
   have hDg:=hgb
   have hDu:=hD_.1
   have hDe:=hD_.2
   refine lL hs [.m 183 4,.m 184 10,.m 185 11] (lX 186 (some ⟨b12,0,none⟩) ((x.length-y.length)+1) ((x.length-y.length)+1) 1 (((m:Nat):Int)-1) (m-1) rfl ?_)
   refine lW 0 ql u64c 1 (m-1) g hs oM (fun w49 hs=>?_)
   have hl50:((ql).set (m-1) g).length=((x.length-y.length)+1):=by rw[List.length_set];exact hql
   replace hs:=hs.to [⟨b12,22,((ql).set (m-1) g).flatMap u64c⟩,⟨b5,22,((u1).set (m-1+vl.length) s40).flatMap u64c⟩] []
   refine lN (CG.listed (lL hs [.m 55 10] (lV 56 (.int .i64 (((m-1:Nat):Int)-1)) ?_ (hr:=rint (n:=IntKind.wrap .i64 ((((m:Nat):Int)-1)-1)) kR ((wr64 oM oM).trans oM)))))
   refine lL hs [.m 10 56] (lD ?_)
   intro a_ ka
   have q51:(m-1)≤x.length-y.length+1:=by omega
   have q52:((u1).set (m-1+vl.length) s40).length=x.length+1:=hl47
   have q53:Wd ((u1).set (m-1+vl.length) s40):=hDw
   have q54:((ql).set (m-1) g).length=x.length-y.length+1:=hl50
   have q55:Wd ((ql).set (m-1) g):=(hWq.set _ hDg)
   have q56:wval ((u1).set (m-1+vl.length) s40)<18446744073709551616^(m-1)*wval vl:=hDu
   have q57:wval zu=wval ((ql).set (m-1) g)*wval vl+wval ((u1).set (m-1+vl.length) s40):=(dv_quo oM (hq0 _ oM) inv hDe)
   have q58:∀ k,k<(m-1)→((ql).set (m-1) g).getD k 0=0:=(fun k hk=>by rw[getD_set' oM,if_neg oM];exact hq0 k oM)
   refine ⟨_,_,?_,⟨m-1,(u1).set (m-1+vl.length) s40,(ql).set (m-1) g,h37,rfl,rfl,hs.to _ _,q51,q52,q53,q54,q55,q56,q57,q58⟩,ka.to [(4,.slice (some ⟨b12,0,none⟩) ((x.length-y.length)+1) ((x.length-y.length)+1)),(5,.slice none 0 0),(6,.int .i64 (y.length:Nat)),(7,.int .i64 (64-nb (y.getD (y.length-1) 0):Nat)),(8,.slice V y.length vc),(9,.slice (some ⟨b5,0,none⟩) (x.length+1) (x.length+1)),(10,.int .i64 ((((m-1):Nat):Int)-1))] kR⟩
   omega
  have phb48:=neOfBne hb48
  refine lB 146 hb48 ?_
  refine lN (cIT (cSL (lL hs [.m 147 11] ?_)))
  have hE1:=hE
  rw[show c41=1 by omega] at hE1
  have hgp:=dv_pos hn2 rfl hWvl hWu hW4 hjn htopv hR1 hG hab4 hE1
  refine lV 148 (.int .u64 (g-1:Nat)) ?_ (hr:=rint (n:=IntKind.wrap .u64 (((g:Nat):Int)-(1:Int))) kR (fSU64 g 1 oM oM))
  refine lL hs [.m 11 148] (lNS (lL hs [.v 19 (.int .u64 0)] (lN (CG.seq (cSL (lL hs [.m 149 6,.v 150 (.int .i64 0)] (lN (CG.block (cTo [(4,.slice (some ⟨b12,0,none⟩) ((x.length-y.length)+1) ((x.length-y.length)+1)),(5,.slice none 0 0),(6,.int .i64 (y.length:Nat)),(7,.int .i64 (64-nb (y.getD (y.length-1) 0):Nat)),(8,.slice V y.length vc),(9,.slice (some ⟨b5,0,none⟩) (x.length+1) (x.length+1)),(10,.int .i64 (((m:Nat):Int)-1)),(11,.int .u64 (g-1:Nat)),(149,.int .i64 (y.length:Nat)),(150,.int .i64 0),(19,.int .u64 0)] ?_)))))))))
  refine CG.loop (fun μ_ Γ w_=>∃ (i2:Nat) (u2:List Nat) (c2:Nat) (h_:Hp),μ_=y.length-i2∧Γ=[(4,.slice (some ⟨b12,0,none⟩) ((x.length-y.length)+1) ((x.length-y.length)+1)),(5,.slice none 0 0),(6,.int .i64 (y.length:Nat)),(7,.int .i64 (64-nb (y.getD (y.length-1) 0):Nat)),(8,.slice V y.length vc),(9,.slice (some ⟨b5,0,none⟩) (x.length+1) (x.length+1)),(10,.int .i64 (((m:Nat):Int)-1)),(11,.int .u64 (g-1:Nat)),(149,.int .i64 (y.length:Nat)),(150,.int .i64 (i2:Nat)),(19,.int .u64 (c2:Nat))]∧SS w h w_ h_ [⟨b12,22,(ql).flatMap u64c⟩,⟨b5,22,(u2).flatMap u64c⟩] [] [fun h_=>SlO 1 u64c 0 h_ Uo zu,fun h_=>SlO 1 u64c 0 h_ V vl,fun h_=>SlO 1 u64c 0 h_ V zv,fun h_=>SlO 1 u64c 0 h_ D y,fun h_=>SlO 1 u64c 0 h_ A x]∧(i2≤y.length)∧(u2.length=x.length+1)∧(Wd u2)∧(c2≤1)∧(bval 18446744073709551616 u2+18446744073709551616^(m-1+i2)*c2=bval 18446744073709551616 ((u1).set (m-1+vl.length) s40)+18446744073709551616^(m-1)*bval 18446744073709551616 (vl.take i2))∧(Above u2 ul (m-1+vl.length+1))) _ ⟨0,(u1).set (m-1+vl.length) s40,0,h37,rfl,rfl,hs.to _ _,Nat.zero_le _,hl47,hW4,oM,(by simp[bval]),hab4⟩ ?_
  rintro _ _ w59 ⟨i2,u2,c2,h60,hm61,rfl,hs,hi2,hu2,hW2,hc2,inv3,hab2⟩
  have hu2k:=hW2.get (m-1+i2)
  have hvk2:=hWvl.get i2
  refine cSL ?_
  cases hb62:(decide (((i2:Nat):Int)<((y.length:Nat):Int)))
  ·
   have phb62:=oF hb62
   refine lB 151 hb62 ?_
   refine lN (CG.seq (cIF (CG.exit ?_)))
   show CG _ _ _ _ _ _ _ _
   refine CG.listed (lL hs [.m 174 9,.m 175 10,.m 176 6] (lIn 177 ((((m:Nat):Int)-1)+(y.length:Nat)) (m-1+vl.length) ?_))
   refine lX 178 (some ⟨b5,0,none⟩) (x.length+1) (x.length+1) 1 (m-1+vl.length:Nat) (m-1+vl.length) rfl ?_
   refine lQ 179 1 u2 u64c 1 0 (m-1+vl.length) (.int .u64 ((u2).getD (m-1+vl.length) 0:Nat)) hs oM ?_
   refine lL hs [.m 180 19] (lV 181 (.int .u64 ((((u2).getD (m-1+vl.length) 0)+c2)%18446744073709551616:Nat)) ?_ (hr:=rint (n:=IntKind.wrap .u64 ((((u2).getD (m-1+vl.length) 0:Nat):Int)+((c2:Nat):Int))) kR (wAU64 ((u2).getD (m-1+vl.length) 0) c2)))
   refine lX 182 (some ⟨b5,0,none⟩) (x.length+1) (x.length+1) 1 (m-1+vl.length:Nat) (m-1+vl.length) rfl ?_
   refine lW 1 u2 u64c 1 (m-1+vl.length) ((((u2).getD (m-1+vl.length) 0)+c2)%18446744073709551616:Nat) hs oM (fun w63 hs=>?_)
   have hl64:((u2).set (m-1+vl.length) ((((u2).getD (m-1+vl.length) 0)+c2)%18446744073709551616:Nat)).length=(x.length+1):=by rw[List.length_set];exact hu2
   replace hs:=hs.to [⟨b12,22,(ql).flatMap u64c⟩,⟨b5,22,((u2).set (m-1+vl.length) ((((u2).getD (m-1+vl.length) 0)+c2)%18446744073709551616:Nat)).flatMap u64c⟩] []
   refine lN (CG.listed ?_)
   have hi2n:i2=vl.length:=by omega
   rw[hi2n] at inv3
   have hu2k:=hW2.get (m-1+vl.length)
   have hE3:=ab_end (s:=(u2.getD (m-1+vl.length) 0+c2)%18446744073709551616) (c':=(u2.getD (m-1+vl.length) 0+c2)/18446744073709551616) oM inv3 (Nat.mod_add_div _ _)
   have hDw:Wd ((u2).set (m-1+vl.length) ((((u2).getD (m-1+vl.length) 0)+c2)%18446744073709551616:Nat)):=hW2.set _ (Nat.mod_lt _ kD)
   obtain ⟨hDu,hDe,hDp⟩:=dv_one hn2 rfl hWvl hWu hW4 hDw hjn htopv hR1 hG hab4 (hab2.set oM oM) hE1 hE3
   have hDg:g-1<18446744073709551616:=by omega
   refine lL hs [.m 183 4,.m 184 10,.m 185 11] (lX 186 (some ⟨b12,0,none⟩) ((x.length-y.length)+1) ((x.length-y.length)+1) 1 (((m:Nat):Int)-1) (m-1) rfl ?_)
   refine lW 0 ql u64c 1 (m-1) (g-1) hs oM (fun w65 hs=>?_)
   have hl66:((ql).set (m-1) (g-1)).length=((x.length-y.length)+1):=by rw[List.length_set];exact hql
   replace hs:=hs.to [⟨b12,22,((ql).set (m-1) (g-1)).flatMap u64c⟩,⟨b5,22,((u2).set (m-1+vl.length) ((((u2).getD (m-1+vl.length) 0)+c2)%18446744073709551616:Nat)).flatMap u64c⟩] []
   refine lN (CG.listed (lL hs [.m 55 10] (lV 56 (.int .i64 (((m-1:Nat):Int)-1)) ?_ (hr:=rint (n:=IntKind.wrap .i64 ((((m:Nat):Int)-1)-1)) kR ((wr64 oM oM).trans oM)))))
   refine lL hs [.m 10 56] (lD ?_)
   intro a_ ka
   have q67:(m-1)≤x.length-y.length+1:=by omega
   have q68:((u2).set (m-1+vl.length) ((((u2).getD (m-1+vl.length) 0)+c2)%18446744073709551616:Nat)).length=x.length+1:=hl64
   have q69:Wd ((u2).set (m-1+vl.length) ((((u2).getD (m-1+vl.length) 0)+c2)%18446744073709551616:Nat)):=hDw
   have q70:((ql).set (m-1) (g-1)).length=x.length-y.length+1:=hl66
   have q71:Wd ((ql).set (m-1) (g-1)):=(hWq.set _ hDg)
   have q72:wval ((u2).set (m-1+vl.length) ((((u2).getD (m-1+vl.length) 0)+c2)%18446744073709551616:Nat))<18446744073709551616^(m-1)*wval vl:=hDu
   have q73:wval zu=wval ((ql).set (m-1) (g-1))*wval vl+wval ((u2).set (m-1+vl.length) ((((u2).getD (m-1+vl.length) 0)+c2)%18446744073709551616:Nat)):=(dv_quo oM (hq0 _ oM) inv hDe)
   have q74:∀ k,k<(m-1)→((ql).set (m-1) (g-1)).getD k 0=0:=(fun k hk=>by rw[getD_set' oM,if_neg oM];exact hq0 k oM)
   refine ⟨_,_,?_,⟨m-1,(u2).set (m-1+vl.length) ((((u2).getD (m-1+vl.length) 0)+c2)%18446744073709551616:Nat),(ql).set (m-1) (g-1),h60,rfl,rfl,hs.to _ _,q67,q68,q69,q70,q71,q72,q73,q74⟩,ka.to [(4,.slice (some ⟨b12,0,none⟩) ((x.length-y.length)+1) ((x.length-y.length)+1)),(5,.slice none 0 0),(6,.int .i64 (y.length:Nat)),(7,.int .i64 (64-nb (y.getD (y.length-1) 0):Nat)),(8,.slice V y.length vc),(9,.slice (some ⟨b5,0,none⟩) (x.length+1) (x.length+1)),(10,.int .i64 ((((m-1):Nat):Int)-1))] kR⟩
   omega
  have phb62:=oT hb62
  refine lB 151 hb62 ?_
  refine lN (CG.seq (cIT (CG.skipN (CG.seq (CG.block (cSL (lL hs [.m 152 150,.m 20 152] (lN (cR 19 [] mixed hs al_nil ?_)))))))))
  refine eV 0 154 (.slice (some ⟨b5,0,none⟩) (x.length+1) (x.length+1)) ?_
  refine eV 1 155 (.int .i64 (((m:Nat):Int)-1)) ?_
  refine eV 2 156 (.int .i64 (i2:Nat)) ?_
  refine eIn 3 157 ((((m:Nat):Int)-1)+(i2:Nat)) (m-1+i2) ?_
  refine eV 4 158 (.slice (some ⟨b5,0,none⟩) (x.length+1) (x.length+1)) ?_
  refine eV 5 159 (.int .i64 (((m:Nat):Int)-1)) ?_
  refine eV 6 160 (.int .i64 (i2:Nat)) ?_
  refine eIn 7 161 ((((m:Nat):Int)-1)+(i2:Nat)) (m-1+i2) ?_
  refine eX 8 162 (some ⟨b5,0,none⟩) (x.length+1) (x.length+1) 1 (m-1+i2:Nat) (m-1+i2) rfl ?_
  refine eQ 9 163 1 u2 u64c 1 0 (m-1+i2) (.int .u64 ((u2).getD (m-1+i2) 0:Nat)) hs oM ?_
  refine eV 10 164 (.slice V y.length vc) ?_
  refine eV 11 165 (.int .i64 (i2:Nat)) ?_
  refine eX 12 166 V y.length vc 1 (i2:Nat) i2 ((hs.f.2.1).ok oM) ?_
  refine eH 13 167 (.int .u64 (vl.getD i2 0:Nat)) hs ((hs.f.2.1).el i2 oM) ?_
  refine eV 14 168 (.int .u64 (c2:Nat)) ?_
  obtain ⟨s75,c76,he77,hl78,hm79,hr80⟩:=bAdd64 ((u2).getD (m-1+i2) 0) (vl.getD i2 0) c2 wM wM oM
  refine eV 15 169 (.tuple #[.int .u64 (s75:Nat),.int .u64 (c76:Nat)]) ?_ (hv:=fun _=>opExt kR (hr80 _))
  refine eV 16 153 (.tuple #[.int .u64 (s75:Nat),.int .u64 (c76:Nat)]) ?_
  refine eV 17 170 (.int .u64 (s75:Nat)) ?_
  refine eV 18 171 (.int .u64 (c76:Nat)) ?_
  refine eD0 hs (fun w81 h82 hs=>?_)
  refine tX 19 172 (some ⟨b5,0,none⟩) (x.length+1) (x.length+1) 1 (m-1+i2:Nat) (m-1+i2) rfl ?_
  refine tW 20 1 u2 u64c 1 (m-1+i2) s75 hs oM (fun w83 hs=>?_)
  have hl84:((u2).set (m-1+i2) s75).length=(x.length+1):=by rw[List.length_set];exact hu2
  replace hs:=hs.to [⟨b12,22,(ql).flatMap u64c⟩,⟨b5,22,((u2).set (m-1+i2) s75).flatMap u64c⟩] []
  refine tV 21 19 (.int .u64 (c76:Nat)) ?_
  refine tN (CG.listed (lIn 173 ((i2:Nat)+1) (i2+1) ?_))
  refine lL hs [.m 150 173] (lD ?_)
  intro a_ ka
  have q85:(i2+1)≤y.length:=by omega
  have q86:((u2).set (m-1+i2) s75).length=x.length+1:=hl84
  have q87:Wd ((u2).set (m-1+i2) s75):=(hW2.set _ oM)
  have q88:c76≤1:=oM
  have q89:bval 18446744073709551616 ((u2).set (m-1+i2) s75)+18446744073709551616^(m-1+(i2+1))*c76=bval 18446744073709551616 ((u1).set (m-1+vl.length) s40)+18446744073709551616^(m-1)*bval 18446744073709551616 (vl.take (i2+1)):=(ab_step oM inv3 oM)
  have q90:Above ((u2).set (m-1+i2) s75) ul (m-1+vl.length+1):=(hab2.set oM oM)
  refine ⟨_,_,?_,⟨i2+1,(u2).set (m-1+i2) s75,c76,h82,rfl,rfl,hs.to _ _,q85,q86,q87,q88,q89,q90⟩,ka.to [(4,.slice (some ⟨b12,0,none⟩) ((x.length-y.length)+1) ((x.length-y.length)+1)),(5,.slice none 0 0),(6,.int .i64 (y.length:Nat)),(7,.int .i64 (64-nb (y.getD (y.length-1) 0):Nat)),(8,.slice V y.length vc),(9,.slice (some ⟨b5,0,none⟩) (x.length+1) (x.length+1)),(10,.int .i64 (((m:Nat):Int)-1)),(11,.int .u64 (g-1:Nat)),(149,.int .i64 (y.length:Nat)),(150,.int .i64 ((i2+1):Nat)),(19,.int .u64 (c76:Nat))] kR⟩
  omega
 have phb39:=oT hb39
 refine lB 90 hb39 ?_
 refine lN (CG.seq (cIT (CG.skipN (CG.seq (CG.block (cSL (lL hs [.m 91 89,.m 14 91] (lNS (lL hs [.m 93 11,.m 94 8,.m 95 14] (lX 96 V y.length vc 1 (i:Nat) i ((hs.f.2.1).ok oM) ?_))))))))))
 refine lH 97 (.int .u64 (vl.getD i 0:Nat)) hs ((hs.f.2.1).el i oM) ?_
 refine lC 98 hs (bMul64 g (vl.getD i 0) wM wM _ _ hs.g) ?_
 rintro _ w97 h98 hs ⟨s91,c92,rfl,he93,hl94,hm95,hn96⟩
 have hxhe93:=mul64_le (a:=g) (b:=(vl.getD i 0)) wM wM
 refine lL hs [.m 92 98,.v 99 (.int .u64 (s91:Nat)),.v 100 (.int .u64 (c92:Nat)),.m 15 99,.m 16 100] (lNS (lL hs [.m 102 16,.m 103 12] ?_))
 obtain ⟨s99,c100,he101,hl102,hm103,hr104⟩:=bAdd64 c92 cy 0 wM wM oM
 refine lV 104 (.tuple #[.int .u64 (s99:Nat),.int .u64 (c100:Nat)]) ?_ (hr:=opExt kR (hr104 _))
 refine lL hs [.m 101 104,.v 105 (.int .u64 (s99:Nat)),.v 106 (.int .u64 (c100:Nat)),.m 17 105,.m 18 106] (lNS (lL hs [.m 107 15,.m 108 18] (lV 109 (.int .u64 (s91+c100:Nat)) ?_ (hr:=rint (n:=IntKind.wrap .u64 (((s91:Nat):Int)+((c100:Nat):Int))) kR (fAU64 s91 c100 oM)))))
 refine lL hs [.m 12 109] (lN (CG.listed (lL hs [.m 111 9,.m 112 10,.m 113 14] (lIn 114 ((((m:Nat):Int)-1)+(i:Nat)) (m-1+i) ?_))))
 refine lL hs [.m 115 9,.m 116 10,.m 117 14] (lIn 118 ((((m:Nat):Int)-1)+(i:Nat)) (m-1+i) ?_)
 refine lX 119 (some ⟨b5,0,none⟩) (x.length+1) (x.length+1) 1 (m-1+i:Nat) (m-1+i) rfl ?_
 refine lQ 120 1 u1 u64c 1 0 (m-1+i) (.int .u64 ((u1).getD (m-1+i) 0:Nat)) hs oM ?_
 refine lL hs [.m 121 17,.m 122 13] ?_
 obtain ⟨s105,c106,he107,hl108,hm109,hr110⟩:=bSub64 ((u1).getD (m-1+i) 0) s99 bo wM wM oM
 refine lV 123 (.tuple #[.int .u64 (s105:Nat),.int .u64 (c106:Nat)]) ?_ (hr:=opExt kR (hr110 _))
 refine lL hs [.m 110 123,.v 124 (.int .u64 (s105:Nat)),.v 125 (.int .u64 (c106:Nat))] (lX 126 (some ⟨b5,0,none⟩) (x.length+1) (x.length+1) 1 (m-1+i:Nat) (m-1+i) rfl ?_)
 refine lW 1 u1 u64c 1 (m-1+i) s105 hs oM (fun w111 hs=>?_)
 have hl112:((u1).set (m-1+i) s105).length=(x.length+1):=by rw[List.length_set];exact hu1
 replace hs:=hs.to [⟨b12,22,(ql).flatMap u64c⟩,⟨b5,22,((u1).set (m-1+i) s105).flatMap u64c⟩] []
 refine lL hs [.m 13 125] (lN (cTo [(4,.slice (some ⟨b12,0,none⟩) ((x.length-y.length)+1) ((x.length-y.length)+1)),(5,.slice none 0 0),(6,.int .i64 (y.length:Nat)),(7,.int .i64 (64-nb (y.getD (y.length-1) 0):Nat)),(8,.slice V y.length vc),(9,.slice (some ⟨b5,0,none⟩) (x.length+1) (x.length+1)),(10,.int .i64 (((m:Nat):Int)-1)),(11,.int .u64 (g:Nat)),(88,.int .i64 (y.length:Nat)),(89,.int .i64 (i:Nat)),(12,.int .u64 (s91+c100:Nat)),(13,.int .u64 (c106:Nat))] ?_))
 refine CG.listed (lIn 127 ((i:Nat)+1) (i+1) ?_)
 refine lL hs [.m 89 127] (lD ?_)
 intro a_ ka
 have q113:(i+1)≤y.length:=by omega
 have q114:((u1).set (m-1+i) s105).length=x.length+1:=hl112
 have q115:Wd ((u1).set (m-1+i) s105):=(hW1.set _ oM)
 have q116:(s91+c100)<18446744073709551616:=oM
 have q117:c106≤1:=oM
 have q118:bval 18446744073709551616 ((u1).set (m-1+i) s105)+18446744073709551616^(m-1)*(g*bval 18446744073709551616 (vl.take (i+1)))=wval ul+18446744073709551616^(m-1+(i+1))*((s91+c100)+c106):=(ms_step (t:=s99) oM inv1 oM oM)
 have q119:Above ((u1).set (m-1+i) s105) ul (m-1+vl.length+1):=(hab1.set oM oM)
 refine ⟨_,_,?_,⟨i+1,(u1).set (m-1+i) s105,(s91+c100),c106,h98,rfl,rfl,hs.to _ _,q113,q114,q115,q116,q117,q118,q119⟩,ka.to [(4,.slice (some ⟨b12,0,none⟩) ((x.length-y.length)+1) ((x.length-y.length)+1)),(5,.slice none 0 0),(6,.int .i64 (y.length:Nat)),(7,.int .i64 (64-nb (y.getD (y.length-1) 0):Nat)),(8,.slice V y.length vc),(9,.slice (some ⟨b5,0,none⟩) (x.length+1) (x.length+1)),(10,.int .i64 (((m:Nat):Int)-1)),(11,.int .u64 (g:Nat)),(88,.int .i64 (y.length:Nat)),(89,.int .i64 ((i+1):Nat)),(12,.int .u64 ((s91+c100):Nat)),(13,.int .u64 (c106:Nat))] kR⟩
 omega
theorem nFromE (A:Option Addr)(c:Nat)(l:List Nat)(m x:Nat)(hm:l.length=m)(hd:Wd l)(hv:wval l=x)(hl:l.length≤1099511627776)(hc:l.length≤c)(w:World)(h:Hp)(g:G w h)(hA:SlO 1 u64c 0 h A l):Calls Tryz.prog 101 #[.slice A m c] w (Ret w h fun v _=>v=nv x):=by
  subst hm hv;exact nFrom A c l hd hl hc w h g hA
theorem nAddS (a b:Nat)(hla:(wds a).length≤1000000000)(hlb:(wds b).length≤1000000000)(has:a<18446744073709551616)(hbs:b<18446744073709551616)(w:World)(h:Hp)(g:G w h) :
    Calls Tryz.prog 115 #[nv a,nv b] w (Ret w h fun v _=>v=nv (a+b)):=by
 have hs:=SS.start g
 have ham:=Nat.mod_eq_of_lt has
 have hbm:=Nat.mod_eq_of_lt hbs
 refine go Tryz.func115 [(0,nv a),(1,nv b)] rfl ?_
 refine cSL (lA 2 36 (nc a) hs (fun b1 w2 h3 hs=>?_))
 refine lA 3 36 (nc b) hs (fun b4 w5 h6 hs=>?_)
 refine lA 4 36 ([.int .u64 0,.string ⟨#[]⟩]) hs (fun b7 w8 h9 hs=>?_)
 refine lN (CG.seq (cSL (lL hs [.v 12 (.pointer (some ⟨b1,1,none⟩)),.o 13 (.string (hi a)) 2 1 1] (lV 14 (.bool true) ?_ (hr:=rb kR (strE (hi_nil has)))))))
 refine lL hs [.m 15 14,.v 16 (.pointer (some ⟨b4,1,none⟩)),.o 17 (.string (hi b)) 1 1 1] (lV 18 (.bool true) ?_ (hr:=rb kR (strE (hi_nil hbs))))
 refine lL hs [.v 19 (.bool true)] (lN (cIT (cSL (lL hs [.v 21 (.pointer (some ⟨b1,0,none⟩)),.o 22 (.int .u64 (a%18446744073709551616:Nat)) 2 0 1,.v 23 (.pointer (some ⟨b4,0,none⟩)),.o 24 (.int .u64 (b%18446744073709551616:Nat)) 1 0 1] ?_))))
 obtain ⟨s10,c11,he12,hl13,hm14,hr15⟩:=bAdd64 (a%18446744073709551616) (b%18446744073709551616) 0 wM wM oM
 refine lV 25 (.tuple #[.int .u64 (s10:Nat),.int .u64 (c11:Nat)]) ?_ (hr:=opExt kR (hr15 _))
 refine lL hs [.m 20 25,.v 26 (.int .u64 (s10:Nat)),.v 27 (.int .u64 (c11:Nat)),.m 5 26,.m 6 27] (lN (CG.seq (cSL (lL hs [.m 28 6] ?_))))
 cases hb16:(((c11:Nat):Int) == (0:Int))
 ·
  have phb16:=neOfBeq hb16
  refine lB 29 hb16 ?_
  refine lN (cIF (CG.skipN (cSL (lL hs [.m 32 5,.m 33 6] (lR 34 22 2 ([.int .u64 (s10:Nat),.int .u64 (c11:Nat)]) hs (fun b17 w18 h19 hs=>?_))))))
  replace hs:=hs.a_SlO (SlO.of_flat (sz:=1) (f:=u64c) (d:=0) (l:=[s10,c11]) (fun _=>rfl) (hs.f.1))
  refine lC 35 hs (nFromE (some ⟨b17,0,none⟩) 2 ([s10,c11]) 2 ((a+b)) (by first|rfl|assumption|(simp;done)|(simp;omega)|omega) (Dg.cons oM (Dg.one oM)) (by show s10+18446744073709551616*(c11+18446744073709551616*0)=a+b;omega) sM sM _ _ hs.g (hs.f.1)) ?_
  rintro _ w22 h23 hs rfl
  refine lP 0 0 (nc (a+b)) hs (fun w24 hs=>?_)
  exact lN (CG.ret (hs.ret [(0,0,2)] (nv (a+b)) rfl))
 have phb16:=eq_of_beq hb16
 refine lB 29 hb16 ?_
 refine lN (cIT (cSL (lL hs [.m 30 5,.v 31 (.agg #[.int .u64 (s10:Nat),.string ⟨#[]⟩])] (lP 0 0 ([.int .u64 (s10:Nat),.string ⟨#[]⟩]) hs (fun w25 hs=>?_)))))
 exact lN (CG.ret (hs.ret [(0,0,2)] (.agg #[.int .u64 (s10:Nat),.string ⟨#[]⟩]) (by rw[show s10=a+b by omega];exact nv_lit oM)))
theorem nAddL (a b:Nat)(hla:(wds a).length≤1000000000)(hlb:(wds b).length≤1000000000)(has:18446744073709551616≤a)(hb0:0<b)(w:World)(h:Hp)(g:G w h) :
    Calls Tryz.prog 115 #[nv a,nv b] w (Ret w h fun v _=>v=nv (a+b)):=by
 have hs:=SS.start g
 refine go Tryz.func115 [(0,nv a),(1,nv b)] rfl ?_
 refine cSL (lA 2 36 (nc a) hs (fun b1 w2 h3 hs=>?_))
 refine lA 3 36 (nc b) hs (fun b4 w5 h6 hs=>?_)
 refine lA 4 36 ([.int .u64 0,.string ⟨#[]⟩]) hs (fun b7 w8 h9 hs=>?_)
 refine lN (CG.seq (cSL (lL hs [.v 12 (.pointer (some ⟨b1,1,none⟩)),.o 13 (.string (hi a)) 2 1 1] (lV 14 (.bool false) ?_ (hr:=rb kR (strN (hi_ne has)))))))
 refine lL hs [.m 15 14] (lG 16 ?_)
 refine lG 17 ?_
 refine lG 18 ?_
 refine lL hs [.v 19 (.bool false)] (lN (cIF (CG.skipN (CG.seq ?_))))
 obtain ⟨K_,hK_⟩:∃ K_,K_=w8.heap.size:=⟨_,rfl⟩
 have hk_b7:b7<K_:=by rw[hK_];exact zblk hs 0
 have hk_b4:b4<K_:=by rw[hK_];exact zblk hs 1
 have hk_b1:b1<K_:=by rw[hK_];exact zblk hs 2
 refine cRa ⟨[],some (K_,[])⟩ 0 mixed ?_
 have hszK:=hs.g.size
 replace hs:=hs.drew
 have hKl:=Nat.le_of_eq hK_
 refine zO 0 36 [(2,0,2)] (nv a) rfl hKl hs (fun p hp=>by obtain rfl:=List.mem_singleton.1 hp;exact hk_b1) ?_
 refine zO 2 38 [(1,0,2)] (nv b) rfl hKl hs (fun p hp=>by obtain rfl:=List.mem_singleton.1 hp;exact hk_b4) ?_
 refine zCu 1 37 (nWords a oM oM _ _ hs.g) rfl hKl ?_
 rintro _ w10 h11 u12 hKl ⟨bw1,rfl,hlo1,hbc1,hsl1⟩
 obtain ⟨h13,hs,-,-⟩:=hs.take u12 hlo1 hbc1
 replace hs:=hs.to [⟨bw1,22,(wds a).flatMap u64c⟩,⟨b7,36,[.int .u64 0,.string ⟨#[]⟩]⟩,⟨b4,36,nc b⟩,⟨b1,36,nc a⟩] []
 refine zCu 3 39 (nWords b oM oM _ _ hs.g) rfl hKl ?_
 rintro _ w14 h15 u16 hKl ⟨bw2,rfl,hlo2,hbc2,hsl2⟩
 obtain ⟨h17,hs,-,-⟩:=hs.take u16 hlo2 hbc2
 replace hs:=hs.to [⟨bw2,22,(wds b).flatMap u64c⟩,⟨bw1,22,(wds a).flatMap u64c⟩,⟨b7,36,[.int .u64 0,.string ⟨#[]⟩]⟩,⟨b4,36,nc b⟩,⟨b1,36,nc a⟩] []
 refine zV 4 7 (.slice (some ⟨bw1,0,none⟩) ((wds a).length) ((wds a).length)) ?_
 refine zV 5 8 (.slice (some ⟨bw2,0,none⟩) ((wds b).length) ((wds b).length)) ?_
 refine tN (CG.seq (cSL (lL hs [.m 40 7,.v 41 (.int .i64 ((wds a).length:Nat)),.m 42 8,.v 43 (.int .i64 ((wds b).length:Nat))] ?_)))
 cases hb18:(decide ((((wds a).length:Nat):Int)<(((wds b).length:Nat):Int)))
 ·
  have phb18:=oF hb18
  refine lB 44 hb18 ?_
  refine lN (cIF (CG.skipN (cSL (lL hs [.v 9 (.int .u64 0)] (lN (CG.seq (cSL (lL hs [.m 47 7,.v 48 (.int .i64 ((wds a).length:Nat)),.v 49 (.int .i64 0)] (lN (CG.block (cTo [(4,.pointer (some ⟨b7,0,none⟩)),(7,.slice (some ⟨bw1,0,none⟩) ((wds a).length) ((wds a).length)),(8,.slice (some ⟨bw2,0,none⟩) ((wds b).length) ((wds b).length)),(48,.int .i64 ((wds a).length:Nat)),(49,.int .i64 0),(9,.int .u64 0)] ?_)))))))))))
  refine CG.loop (fun μ_ Γ w_=>∃ (i:Nat) (l:List Nat) (cy:Nat) (h_:Hp),μ_=(wds a).length-i∧Γ=[(4,.pointer (some ⟨b7,0,none⟩)),(7,.slice (some ⟨bw1,0,none⟩) ((wds a).length) ((wds a).length)),(8,.slice (some ⟨bw2,0,none⟩) ((wds b).length) ((wds b).length)),(48,.int .i64 ((wds a).length:Nat)),(49,.int .i64 (i:Nat)),(9,.int .u64 (cy:Nat))]∧SS w h w_ h_ [⟨bw2,22,(wds b).flatMap u64c⟩,⟨bw1,22,(l).flatMap u64c⟩,⟨b7,36,[.int .u64 0,.string ⟨#[]⟩]⟩,⟨b4,36,nc b⟩,⟨b1,36,nc a⟩] [] []∧(i≤(wds a).length)∧(l.length=(wds a).length)∧(Wd l)∧(cy≤1)∧(bval 18446744073709551616 l+18446744073709551616^i*cy=a+bval 18446744073709551616 ((wds b:List Nat).take i))) _ ⟨0,wds a,0,h17,rfl,rfl,hs.to _ _,Nat.zero_le _,rfl,Wd.wds _,oM,(by have hx_:bval 18446744073709551616 (wds a)=a:=wval_wds _;rw[hx_];simp[bval])⟩ ?_
  rintro _ _ w19 ⟨i,l,cy,h20,hm21,rfl,hs,hi,hll,hW,hcy,inv⟩
  have hlk:=hW.get i
  have hyk:=(Wd.wds b).get i
  refine cSL ?_
  cases hb22:(decide (((i:Nat):Int)<(((wds a).length:Nat):Int)))
  ·
   have phb22:=oF hb22
   refine lB 50 hb22 ?_
   refine lN (CG.seq (cIF (CG.exit ?_)))
   show CG _ _ _ _ _ _ _ _
   refine CG.seq (cSL ?_)
   have hE:=inv
   rw[List.take_of_length_le (show (wds b).length≤i by first|omega|(simp;done)|(simp;omega))] at hE
   rw[show i=l.length by omega] at hE
   have hE_:bval 18446744073709551616 (wds b)=b:=wval_wds _
   replace hE:bval 18446744073709551616 l+18446744073709551616^l.length*cy=(a+b):=by rw[hE,hE_];first|done|omega
   refine lL hs [.m 74 9] ?_
   cases hb23:(((cy:Nat):Int) != (0:Int))
   ·
    have phb23:=eqOfBne hb23
    refine lB 75 hb23 ?_
    refine lN (cIF (CG.skipN (cSL ?_)))
    obtain ⟨h24,hs,sg25,lo26,bc27⟩:=hs.pub 1
    replace hs:=(hs.to [⟨bw2,22,(wds b).flatMap u64c⟩,⟨b7,36,[.int .u64 0,.string ⟨#[]⟩]⟩,⟨b4,36,nc b⟩,⟨b1,36,nc a⟩] []).a_SlO (SlO.of_flat (sz:=1) (f:=u64c) (d:=0) (b:=bw1) (o:=0) (l:=l) (fun _=>rfl) sg25)
    refine lL hs [.m 80 7] (lC 81 hs (nFromE (some ⟨bw1,0,none⟩) ((wds a).length) (l) ((wds a).length) ((a+b)) (by first|rfl|assumption|(simp;done)|(simp;omega)|omega) (hW) (by rw[show cy=0 by omega,Nat.mul_zero,Nat.add_zero] at hE;exact hE) sM sM _ _ hs.g (hs.f.1)) ?_)
    rintro _ w29 h30 hs rfl
    refine lP 1 0 (nc (a+b)) hs (fun w31 hs=>?_)
    exact lN (CG.ret (hs.ret [(1,0,2)] (nv (a+b)) rfl))
   have phb23:=neOfBne hb23
   refine lB 75 hb23 ?_
   refine lN (cIT (CG.listed (lL hs [.m 76 7,.m 77 9] (lR 78 22 1 ([.int .u64 (cy:Nat)]) hs (fun b32 w33 h34 hs=>?_)))))
   refine lYe 79 1 ((wds a).length) b32 l u64c 0 cy 8 (.int .u64 0) hs (hs.f.1) oM oM (fun A36 c37 w38 h39 hs hcc41=>?_)
   replace hs:=hs.to [⟨bw2,22,(wds b).flatMap u64c⟩,⟨b7,36,[.int .u64 0,.string ⟨#[]⟩]⟩,⟨b4,36,nc b⟩,⟨b1,36,nc a⟩] []
   refine lL hs [.m 7 79] (lNS (lL hs [.m 80 7] (lC 81 hs (nFromE A36 c37 (l++[cy]) ((wds a).length+1) ((a+b)) (by first|rfl|assumption|(simp;done)|(simp;omega)|omega) (Dg.append hW (Dg.one oM)) (by show bval _ (l++[cy])=_;rw[bval_append];show _+_*(cy+_*0)=_;rw[Nat.mul_zero,Nat.add_zero];exact hE) sM sM _ _ hs.g (hs.f.1)) ?_)))
   rintro _ w42 h43 hs rfl
   refine lP 1 0 (nc (a+b)) hs (fun w44 hs=>?_)
   exact lN (CG.ret (hs.ret [(1,0,2)] (nv (a+b)) rfl))
  have phb22:=oT hb22
  refine lB 50 hb22 ?_
  refine lN (CG.seq (cIT (CG.skipN (CG.seq (CG.block (cSL (lL hs [.m 51 49,.m 10 51] (lNS (lL hs [.v 11 (.int .u64 0)] (lN (CG.seq (cSL (lL hs [.m 52 10,.m 53 8,.v 54 (.int .i64 ((wds b).length:Nat))] ?_)))))))))))))
  cases hb45:(decide (((i:Nat):Int)<(((wds b).length:Nat):Int)))
  ·
   have phb45:=oF hb45
   refine lB 55 hb45 ?_
   refine lN (cIF (CG.skipN (CG.listed (lL hs [.m 61 7,.m 62 10,.m 63 7,.m 64 10] (lX 65 (some ⟨bw1,0,none⟩) ((wds a).length) ((wds a).length) 1 (i:Nat) i rfl ?_)))))
   refine lQ 66 1 l u64c 1 0 i (.int .u64 ((l).getD i 0:Nat)) hs oM ?_
   refine lL hs [.m 67 11,.m 68 9] ?_
   obtain ⟨s46,c47,he48,hl49,hm50,hr51⟩:=bAdd64 ((l).getD i 0) 0 cy wM wM oM
   refine lV 69 (.tuple #[.int .u64 (s46:Nat),.int .u64 (c47:Nat)]) ?_ (hr:=opExt kR (hr51 _))
   refine lL hs [.m 60 69,.v 70 (.int .u64 (s46:Nat)),.v 71 (.int .u64 (c47:Nat))] (lX 72 (some ⟨bw1,0,none⟩) ((wds a).length) ((wds a).length) 1 (i:Nat) i rfl ?_)
   refine lW 1 l u64c 1 i s46 hs oM (fun w52 hs=>?_)
   have hl53:((l).set i s46).length=(wds a).length:=by rw[List.length_set];exact hll
   replace hs:=hs.to [⟨bw2,22,(wds b).flatMap u64c⟩,⟨bw1,22,((l).set i s46).flatMap u64c⟩,⟨b7,36,[.int .u64 0,.string ⟨#[]⟩]⟩,⟨b4,36,nc b⟩,⟨b1,36,nc a⟩] []
   refine lL hs [.m 9 71] (lN (CG.listed (lIn 73 ((i:Nat)+1) (i+1) ?_)))
   refine lL hs [.m 49 73] (lD ?_)
   intro a_ ka
   have q54:(i+1)≤(wds a).length:=by omega
   have q55:((l).set i s46).length=(wds a).length:=hl53
   have q56:Wd ((l).set i s46):=(hW.set _ oM)
   have q57:c47≤1:=oM
   have q58:bval 18446744073709551616 ((l).set i s46)+18446744073709551616^(i+1)*c47=a+bval 18446744073709551616 ((wds b:List Nat).take (i+1)):=(add_step oM inv (by first|omega|(have hy0:=getD_out (l:=(wds b:List Nat)) (k:=i) (by first|omega|(simp;done));omega)))
   refine ⟨_,_,?_,⟨i+1,(l).set i s46,c47,h20,rfl,rfl,hs.to _ _,q54,q55,q56,q57,q58⟩,ka.to [(4,.pointer (some ⟨b7,0,none⟩)),(7,.slice (some ⟨bw1,0,none⟩) ((wds a).length) ((wds a).length)),(8,.slice (some ⟨bw2,0,none⟩) ((wds b).length) ((wds b).length)),(48,.int .i64 ((wds a).length:Nat)),(49,.int .i64 ((i+1):Nat)),(9,.int .u64 (c47:Nat))] kR⟩
   omega
  have phb45:=oT hb45
  refine lB 55 hb45 ?_
  refine lN (cIT (CG.listed (lL hs [.m 56 8,.m 57 10] (lX 58 (some ⟨bw2,0,none⟩) ((wds b).length) ((wds b).length) 1 (i:Nat) i rfl ?_))))
  refine lQ 59 0 (wds b) u64c 1 0 i (.int .u64 ((wds b).getD i 0:Nat)) hs oM ?_
  refine lL hs [.m 11 59] (lN (CG.listed (lL hs [.m 61 7,.m 62 10,.m 63 7,.m 64 10] (lX 65 (some ⟨bw1,0,none⟩) ((wds a).length) ((wds a).length) 1 (i:Nat) i rfl ?_))))
  refine lQ 66 1 l u64c 1 0 i (.int .u64 ((l).getD i 0:Nat)) hs oM ?_
  refine lL hs [.m 67 11,.m 68 9] ?_
  obtain ⟨s59,c60,he61,hl62,hm63,hr64⟩:=bAdd64 ((l).getD i 0) ((wds b).getD i 0) cy wM wM oM
  refine lV 69 (.tuple #[.int .u64 (s59:Nat),.int .u64 (c60:Nat)]) ?_ (hr:=opExt kR (hr64 _))
  refine lL hs [.m 60 69,.v 70 (.int .u64 (s59:Nat)),.v 71 (.int .u64 (c60:Nat))] (lX 72 (some ⟨bw1,0,none⟩) ((wds a).length) ((wds a).length) 1 (i:Nat) i rfl ?_)
  refine lW 1 l u64c 1 i s59 hs oM (fun w65 hs=>?_)
  have hl66:((l).set i s59).length=(wds a).length:=by rw[List.length_set];exact hll
  replace hs:=hs.to [⟨bw2,22,(wds b).flatMap u64c⟩,⟨bw1,22,((l).set i s59).flatMap u64c⟩,⟨b7,36,[.int .u64 0,.string ⟨#[]⟩]⟩,⟨b4,36,nc b⟩,⟨b1,36,nc a⟩] []
  refine lL hs [.m 9 71] (lN (CG.listed (lIn 73 ((i:Nat)+1) (i+1) ?_)))
  refine lL hs [.m 49 73] (lD ?_)
  intro a_ ka
  have q67:(i+1)≤(wds a).length:=by omega
  have q68:((l).set i s59).length=(wds a).length:=hl66
  have q69:Wd ((l).set i s59):=(hW.set _ oM)
  have q70:c60≤1:=oM
  have q71:bval 18446744073709551616 ((l).set i s59)+18446744073709551616^(i+1)*c60=a+bval 18446744073709551616 ((wds b:List Nat).take (i+1)):=(add_step oM inv (by first|omega|(have hy0:=getD_out (l:=(wds b:List Nat)) (k:=i) (by first|omega|(simp;done));omega)))
  refine ⟨_,_,?_,⟨i+1,(l).set i s59,c60,h20,rfl,rfl,hs.to _ _,q67,q68,q69,q70,q71⟩,ka.to [(4,.pointer (some ⟨b7,0,none⟩)),(7,.slice (some ⟨bw1,0,none⟩) ((wds a).length) ((wds a).length)),(8,.slice (some ⟨bw2,0,none⟩) ((wds b).length) ((wds b).length)),(48,.int .i64 ((wds a).length:Nat)),(49,.int .i64 ((i+1):Nat)),(9,.int .u64 (c60:Nat))] kR⟩
  omega
 have phb18:=oT hb18
 refine lB 44 hb18 ?_
 refine lN (cIT (CG.listed (lL hs [.m 45 8,.m 46 7,.m 7 45,.m 8 46] (lNS (lL hs [.v 9 (.int .u64 0)] (lN (CG.seq (cSL (lL hs [.m 47 7,.v 48 (.int .i64 ((wds b).length:Nat)),.v 49 (.int .i64 0)] (lN (CG.block (cTo [(4,.pointer (some ⟨b7,0,none⟩)),(7,.slice (some ⟨bw2,0,none⟩) ((wds b).length) ((wds b).length)),(8,.slice (some ⟨bw1,0,none⟩) ((wds a).length) ((wds a).length)),(48,.int .i64 ((wds b).length:Nat)),(49,.int .i64 0),(9,.int .u64 0)] ?_))))))))))))
 refine CG.loop (fun μ_ Γ w_=>∃ (i:Nat) (l:List Nat) (cy:Nat) (h_:Hp),μ_=(wds b).length-i∧Γ=[(4,.pointer (some ⟨b7,0,none⟩)),(7,.slice (some ⟨bw2,0,none⟩) ((wds b).length) ((wds b).length)),(8,.slice (some ⟨bw1,0,none⟩) ((wds a).length) ((wds a).length)),(48,.int .i64 ((wds b).length:Nat)),(49,.int .i64 (i:Nat)),(9,.int .u64 (cy:Nat))]∧SS w h w_ h_ [⟨bw2,22,(l).flatMap u64c⟩,⟨bw1,22,(wds a).flatMap u64c⟩,⟨b7,36,[.int .u64 0,.string ⟨#[]⟩]⟩,⟨b4,36,nc b⟩,⟨b1,36,nc a⟩] [] []∧(i≤(wds b).length)∧(l.length=(wds b).length)∧(Wd l)∧(cy≤1)∧(bval 18446744073709551616 l+18446744073709551616^i*cy=b+bval 18446744073709551616 ((wds a:List Nat).take i))) _ ⟨0,wds b,0,h17,rfl,rfl,hs.to _ _,Nat.zero_le _,rfl,Wd.wds _,oM,(by have hx_:bval 18446744073709551616 (wds b)=b:=wval_wds _;rw[hx_];simp[bval])⟩ ?_
 rintro _ _ w72 ⟨i,l,cy,h73,hm74,rfl,hs,hi,hll,hW,hcy,inv⟩
 have hlk:=hW.get i
 have hyk:=(Wd.wds a).get i
 refine cSL ?_
 cases hb75:(decide (((i:Nat):Int)<(((wds b).length:Nat):Int)))
 ·
  have phb75:=oF hb75
  refine lB 50 hb75 ?_
  refine lN (CG.seq (cIF (CG.exit ?_)))
  show CG _ _ _ _ _ _ _ _
  refine CG.seq (cSL ?_)
  have hE:=inv
  rw[List.take_of_length_le (show (wds a).length≤i by first|omega|(simp;done)|(simp;omega))] at hE
  rw[show i=l.length by omega] at hE
  have hE_:bval 18446744073709551616 (wds a)=a:=wval_wds _
  replace hE:bval 18446744073709551616 l+18446744073709551616^l.length*cy=(a+b):=by rw[hE,hE_];first|done|omega
  refine lL hs [.m 74 9] ?_
  cases hb76:(((cy:Nat):Int) != (0:Int))
  ·
   have phb76:=eqOfBne hb76
   refine lB 75 hb76 ?_
   refine lN (cIF (CG.skipN (cSL ?_)))
   obtain ⟨h77,hs,sg78,lo79,bc80⟩:=hs.pub 0
   replace hs:=(hs.to [⟨bw1,22,(wds a).flatMap u64c⟩,⟨b7,36,[.int .u64 0,.string ⟨#[]⟩]⟩,⟨b4,36,nc b⟩,⟨b1,36,nc a⟩] []).a_SlO (SlO.of_flat (sz:=1) (f:=u64c) (d:=0) (b:=bw2) (o:=0) (l:=l) (fun _=>rfl) sg78)
   refine lL hs [.m 80 7] (lC 81 hs (nFromE (some ⟨bw2,0,none⟩) ((wds b).length) (l) ((wds b).length) ((a+b)) (by first|rfl|assumption|(simp;done)|(simp;omega)|omega) (hW) (by rw[show cy=0 by omega,Nat.mul_zero,Nat.add_zero] at hE;exact hE) sM sM _ _ hs.g (hs.f.1)) ?_)
   rintro _ w82 h83 hs rfl
   refine lP 1 0 (nc (a+b)) hs (fun w84 hs=>?_)
   exact lN (CG.ret (hs.ret [(1,0,2)] (nv (a+b)) rfl))
  have phb76:=neOfBne hb76
  refine lB 75 hb76 ?_
  refine lN (cIT (CG.listed (lL hs [.m 76 7,.m 77 9] (lR 78 22 1 ([.int .u64 (cy:Nat)]) hs (fun b85 w86 h87 hs=>?_)))))
  refine lYe 79 0 ((wds b).length) b85 l u64c 0 cy 8 (.int .u64 0) hs (hs.f.1) oM oM (fun A89 c90 w91 h92 hs hcc94=>?_)
  replace hs:=hs.to [⟨bw1,22,(wds a).flatMap u64c⟩,⟨b7,36,[.int .u64 0,.string ⟨#[]⟩]⟩,⟨b4,36,nc b⟩,⟨b1,36,nc a⟩] []
  refine lL hs [.m 7 79] (lNS (lL hs [.m 80 7] (lC 81 hs (nFromE A89 c90 (l++[cy]) ((wds b).length+1) ((a+b)) (by first|rfl|assumption|(simp;done)|(simp;omega)|omega) (Dg.append hW (Dg.one oM)) (by show bval _ (l++[cy])=_;rw[bval_append];show _+_*(cy+_*0)=_;rw[Nat.mul_zero,Nat.add_zero];exact hE) sM sM _ _ hs.g (hs.f.1)) ?_)))
  rintro _ w95 h96 hs rfl
  refine lP 1 0 (nc (a+b)) hs (fun w97 hs=>?_)
  exact lN (CG.ret (hs.ret [(1,0,2)] (nv (a+b)) rfl))
 have phb75:=oT hb75
 refine lB 50 hb75 ?_
 refine lN (CG.seq (cIT (CG.skipN (CG.seq (CG.block (cSL (lL hs [.m 51 49,.m 10 51] (lNS (lL hs [.v 11 (.int .u64 0)] (lN (CG.seq (cSL (lL hs [.m 52 10,.m 53 8,.v 54 (.int .i64 ((wds a).length:Nat))] ?_)))))))))))))
 cases hb98:(decide (((i:Nat):Int)<(((wds a).length:Nat):Int)))
 ·
  have phb98:=oF hb98
  refine lB 55 hb98 ?_
  refine lN (cIF (CG.skipN (CG.listed (lL hs [.m 61 7,.m 62 10,.m 63 7,.m 64 10] (lX 65 (some ⟨bw2,0,none⟩) ((wds b).length) ((wds b).length) 1 (i:Nat) i rfl ?_)))))
  refine lQ 66 0 l u64c 1 0 i (.int .u64 ((l).getD i 0:Nat)) hs oM ?_
  refine lL hs [.m 67 11,.m 68 9] ?_
  obtain ⟨s99,c100,he101,hl102,hm103,hr104⟩:=bAdd64 ((l).getD i 0) 0 cy wM wM oM
  refine lV 69 (.tuple #[.int .u64 (s99:Nat),.int .u64 (c100:Nat)]) ?_ (hr:=opExt kR (hr104 _))
  refine lL hs [.m 60 69,.v 70 (.int .u64 (s99:Nat)),.v 71 (.int .u64 (c100:Nat))] (lX 72 (some ⟨bw2,0,none⟩) ((wds b).length) ((wds b).length) 1 (i:Nat) i rfl ?_)
  refine lW 0 l u64c 1 i s99 hs oM (fun w105 hs=>?_)
  have hl106:((l).set i s99).length=(wds b).length:=by rw[List.length_set];exact hll
  replace hs:=hs.to [⟨bw2,22,((l).set i s99).flatMap u64c⟩,⟨bw1,22,(wds a).flatMap u64c⟩,⟨b7,36,[.int .u64 0,.string ⟨#[]⟩]⟩,⟨b4,36,nc b⟩,⟨b1,36,nc a⟩] []
  refine lL hs [.m 9 71] (lN (CG.listed (lIn 73 ((i:Nat)+1) (i+1) ?_)))
  refine lL hs [.m 49 73] (lD ?_)
  intro a_ ka
  have q107:(i+1)≤(wds b).length:=by omega
  have q108:((l).set i s99).length=(wds b).length:=hl106
  have q109:Wd ((l).set i s99):=(hW.set _ oM)
  have q110:c100≤1:=oM
  have q111:bval 18446744073709551616 ((l).set i s99)+18446744073709551616^(i+1)*c100=b+bval 18446744073709551616 ((wds a:List Nat).take (i+1)):=(add_step oM inv (by first|omega|(have hy0:=getD_out (l:=(wds a:List Nat)) (k:=i) (by first|omega|(simp;done));omega)))
  refine ⟨_,_,?_,⟨i+1,(l).set i s99,c100,h73,rfl,rfl,hs.to _ _,q107,q108,q109,q110,q111⟩,ka.to [(4,.pointer (some ⟨b7,0,none⟩)),(7,.slice (some ⟨bw2,0,none⟩) ((wds b).length) ((wds b).length)),(8,.slice (some ⟨bw1,0,none⟩) ((wds a).length) ((wds a).length)),(48,.int .i64 ((wds b).length:Nat)),(49,.int .i64 ((i+1):Nat)),(9,.int .u64 (c100:Nat))] kR⟩
  omega
 have phb98:=oT hb98
 refine lB 55 hb98 ?_
 refine lN (cIT (CG.listed (lL hs [.m 56 8,.m 57 10] (lX 58 (some ⟨bw1,0,none⟩) ((wds a).length) ((wds a).length) 1 (i:Nat) i rfl ?_))))
 refine lQ 59 1 (wds a) u64c 1 0 i (.int .u64 ((wds a).getD i 0:Nat)) hs oM ?_
 refine lL hs [.m 11 59] (lN (CG.listed (lL hs [.m 61 7,.m 62 10,.m 63 7,.m 64 10] (lX 65 (some ⟨bw2,0,none⟩) ((wds b).length) ((wds b).length) 1 (i:Nat) i rfl ?_))))
 refine lQ 66 0 l u64c 1 0 i (.int .u64 ((l).getD i 0:Nat)) hs oM ?_
 refine lL hs [.m 67 11,.m 68 9] ?_
 obtain ⟨s112,c113,he114,hl115,hm116,hr117⟩:=bAdd64 ((l).getD i 0) ((wds a).getD i 0) cy wM wM oM
 refine lV 69 (.tuple #[.int .u64 (s112:Nat),.int .u64 (c113:Nat)]) ?_ (hr:=opExt kR (hr117 _))
 refine lL hs [.m 60 69,.v 70 (.int .u64 (s112:Nat)),.v 71 (.int .u64 (c113:Nat))] (lX 72 (some ⟨bw2,0,none⟩) ((wds b).length) ((wds b).length) 1 (i:Nat) i rfl ?_)
 refine lW 0 l u64c 1 i s112 hs oM (fun w118 hs=>?_)
 have hl119:((l).set i s112).length=(wds b).length:=by rw[List.length_set];exact hll
 replace hs:=hs.to [⟨bw2,22,((l).set i s112).flatMap u64c⟩,⟨bw1,22,(wds a).flatMap u64c⟩,⟨b7,36,[.int .u64 0,.string ⟨#[]⟩]⟩,⟨b4,36,nc b⟩,⟨b1,36,nc a⟩] []
 refine lL hs [.m 9 71] (lN (CG.listed (lIn 73 ((i:Nat)+1) (i+1) ?_)))
 refine lL hs [.m 49 73] (lD ?_)
 intro a_ ka
 have q120:(i+1)≤(wds b).length:=by omega
 have q121:((l).set i s112).length=(wds b).length:=hl119
 have q122:Wd ((l).set i s112):=(hW.set _ oM)
 have q123:c113≤1:=oM
 have q124:bval 18446744073709551616 ((l).set i s112)+18446744073709551616^(i+1)*c113=b+bval 18446744073709551616 ((wds a:List Nat).take (i+1)):=(add_step oM inv (by first|omega|(have hy0:=getD_out (l:=(wds a:List Nat)) (k:=i) (by first|omega|(simp;done));omega)))
 refine ⟨_,_,?_,⟨i+1,(l).set i s112,c113,h73,rfl,rfl,hs.to _ _,q120,q121,q122,q123,q124⟩,ka.to [(4,.pointer (some ⟨b7,0,none⟩)),(7,.slice (some ⟨bw2,0,none⟩) ((wds b).length) ((wds b).length)),(8,.slice (some ⟨bw1,0,none⟩) ((wds a).length) ((wds a).length)),(48,.int .i64 ((wds b).length:Nat)),(49,.int .i64 ((i+1):Nat)),(9,.int .u64 (c113:Nat))] kR⟩
 omega
theorem nAddR (a b:Nat)(hla:(wds a).length≤1000000000)(hlb:(wds b).length≤1000000000)(has:a<18446744073709551616)(ha0:0<a)(hbs:18446744073709551616≤b)(w:World)(h:Hp)(g:G w h) :
    Calls Tryz.prog 115 #[nv a,nv b] w (Ret w h fun v _=>v=nv (a+b)):=by
 have hs:=SS.start g
 refine go Tryz.func115 [(0,nv a),(1,nv b)] rfl ?_
 refine cSL (lA 2 36 (nc a) hs (fun b1 w2 h3 hs=>?_))
 refine lA 3 36 (nc b) hs (fun b4 w5 h6 hs=>?_)
 refine lA 4 36 ([.int .u64 0,.string ⟨#[]⟩]) hs (fun b7 w8 h9 hs=>?_)
 refine lN (CG.seq (cSL (lL hs [.v 12 (.pointer (some ⟨b1,1,none⟩)),.o 13 (.string (hi a)) 2 1 1] (lV 14 (.bool true) ?_ (hr:=rb kR (strE (hi_nil has)))))))
 refine lL hs [.m 15 14,.v 16 (.pointer (some ⟨b4,1,none⟩)),.o 17 (.string (hi b)) 1 1 1] (lV 18 (.bool false) ?_ (hr:=rb kR (strN (hi_ne hbs))))
 refine lL hs [.v 19 (.bool false)] (lN (cIF (CG.skipN (CG.seq ?_))))
 obtain ⟨K_,hK_⟩:∃ K_,K_=w8.heap.size:=⟨_,rfl⟩
 have hk_b7:b7<K_:=by rw[hK_];exact zblk hs 0
 have hk_b4:b4<K_:=by rw[hK_];exact zblk hs 1
 have hk_b1:b1<K_:=by rw[hK_];exact zblk hs 2
 refine cRa ⟨[],some (K_,[])⟩ 0 mixed ?_
 have hszK:=hs.g.size
 replace hs:=hs.drew
 have hKl:=Nat.le_of_eq hK_
 refine zO 0 36 [(2,0,2)] (nv a) rfl hKl hs (fun p hp=>by obtain rfl:=List.mem_singleton.1 hp;exact hk_b1) ?_
 refine zO 2 38 [(1,0,2)] (nv b) rfl hKl hs (fun p hp=>by obtain rfl:=List.mem_singleton.1 hp;exact hk_b4) ?_
 refine zCu 1 37 (nWords a oM oM _ _ hs.g) rfl hKl ?_
 rintro _ w10 h11 u12 hKl ⟨bw1,rfl,hlo1,hbc1,hsl1⟩
 obtain ⟨h13,hs,-,-⟩:=hs.take u12 hlo1 hbc1
 replace hs:=hs.to [⟨bw1,22,(wds a).flatMap u64c⟩,⟨b7,36,[.int .u64 0,.string ⟨#[]⟩]⟩,⟨b4,36,nc b⟩,⟨b1,36,nc a⟩] []
 refine zCu 3 39 (nWords b oM oM _ _ hs.g) rfl hKl ?_
 rintro _ w14 h15 u16 hKl ⟨bw2,rfl,hlo2,hbc2,hsl2⟩
 obtain ⟨h17,hs,-,-⟩:=hs.take u16 hlo2 hbc2
 replace hs:=hs.to [⟨bw2,22,(wds b).flatMap u64c⟩,⟨bw1,22,(wds a).flatMap u64c⟩,⟨b7,36,[.int .u64 0,.string ⟨#[]⟩]⟩,⟨b4,36,nc b⟩,⟨b1,36,nc a⟩] []
 refine zV 4 7 (.slice (some ⟨bw1,0,none⟩) ((wds a).length) ((wds a).length)) ?_
 refine zV 5 8 (.slice (some ⟨bw2,0,none⟩) ((wds b).length) ((wds b).length)) ?_
 refine tN (CG.seq (cSL (lL hs [.m 40 7,.v 41 (.int .i64 ((wds a).length:Nat)),.m 42 8,.v 43 (.int .i64 ((wds b).length:Nat))] ?_)))
 cases hb18:(decide ((((wds a).length:Nat):Int)<(((wds b).length:Nat):Int)))
 ·
  have phb18:=oF hb18
  refine lB 44 hb18 ?_
  refine lN (cIF (CG.skipN (cSL (lL hs [.v 9 (.int .u64 0)] (lN (CG.seq (cSL (lL hs [.m 47 7,.v 48 (.int .i64 ((wds a).length:Nat)),.v 49 (.int .i64 0)] (lN (CG.block (cTo [(4,.pointer (some ⟨b7,0,none⟩)),(7,.slice (some ⟨bw1,0,none⟩) ((wds a).length) ((wds a).length)),(8,.slice (some ⟨bw2,0,none⟩) ((wds b).length) ((wds b).length)),(48,.int .i64 ((wds a).length:Nat)),(49,.int .i64 0),(9,.int .u64 0)] ?_)))))))))))
  refine CG.loop (fun μ_ Γ w_=>∃ (i:Nat) (l:List Nat) (cy:Nat) (h_:Hp),μ_=(wds a).length-i∧Γ=[(4,.pointer (some ⟨b7,0,none⟩)),(7,.slice (some ⟨bw1,0,none⟩) ((wds a).length) ((wds a).length)),(8,.slice (some ⟨bw2,0,none⟩) ((wds b).length) ((wds b).length)),(48,.int .i64 ((wds a).length:Nat)),(49,.int .i64 (i:Nat)),(9,.int .u64 (cy:Nat))]∧SS w h w_ h_ [⟨bw2,22,(wds b).flatMap u64c⟩,⟨bw1,22,(l).flatMap u64c⟩,⟨b7,36,[.int .u64 0,.string ⟨#[]⟩]⟩,⟨b4,36,nc b⟩,⟨b1,36,nc a⟩] [] []∧(i≤(wds a).length)∧(l.length=(wds a).length)∧(Wd l)∧(cy≤1)∧(bval 18446744073709551616 l+18446744073709551616^i*cy=a+bval 18446744073709551616 ((wds b:List Nat).take i))) _ ⟨0,wds a,0,h17,rfl,rfl,hs.to _ _,Nat.zero_le _,rfl,Wd.wds _,oM,(by have hx_:bval 18446744073709551616 (wds a)=a:=wval_wds _;rw[hx_];simp[bval])⟩ ?_
  rintro _ _ w19 ⟨i,l,cy,h20,hm21,rfl,hs,hi,hll,hW,hcy,inv⟩
  have hlk:=hW.get i
  have hyk:=(Wd.wds b).get i
  refine cSL ?_
  cases hb22:(decide (((i:Nat):Int)<(((wds a).length:Nat):Int)))
  ·
   have phb22:=oF hb22
   refine lB 50 hb22 ?_
   refine lN (CG.seq (cIF (CG.exit ?_)))
   show CG _ _ _ _ _ _ _ _
   refine CG.seq (cSL ?_)
   have hE:=inv
   rw[List.take_of_length_le (show (wds b).length≤i by first|omega|(simp;done)|(simp;omega))] at hE
   rw[show i=l.length by omega] at hE
   have hE_:bval 18446744073709551616 (wds b)=b:=wval_wds _
   replace hE:bval 18446744073709551616 l+18446744073709551616^l.length*cy=(a+b):=by rw[hE,hE_];first|done|omega
   refine lL hs [.m 74 9] ?_
   cases hb23:(((cy:Nat):Int) != (0:Int))
   ·
    have phb23:=eqOfBne hb23
    refine lB 75 hb23 ?_
    refine lN (cIF (CG.skipN (cSL ?_)))
    obtain ⟨h24,hs,sg25,lo26,bc27⟩:=hs.pub 1
    replace hs:=(hs.to [⟨bw2,22,(wds b).flatMap u64c⟩,⟨b7,36,[.int .u64 0,.string ⟨#[]⟩]⟩,⟨b4,36,nc b⟩,⟨b1,36,nc a⟩] []).a_SlO (SlO.of_flat (sz:=1) (f:=u64c) (d:=0) (b:=bw1) (o:=0) (l:=l) (fun _=>rfl) sg25)
    refine lL hs [.m 80 7] (lC 81 hs (nFromE (some ⟨bw1,0,none⟩) ((wds a).length) (l) ((wds a).length) ((a+b)) (by first|rfl|assumption|(simp;done)|(simp;omega)|omega) (hW) (by rw[show cy=0 by omega,Nat.mul_zero,Nat.add_zero] at hE;exact hE) sM sM _ _ hs.g (hs.f.1)) ?_)
    rintro _ w29 h30 hs rfl
    refine lP 1 0 (nc (a+b)) hs (fun w31 hs=>?_)
    exact lN (CG.ret (hs.ret [(1,0,2)] (nv (a+b)) rfl))
   have phb23:=neOfBne hb23
   refine lB 75 hb23 ?_
   refine lN (cIT (CG.listed (lL hs [.m 76 7,.m 77 9] (lR 78 22 1 ([.int .u64 (cy:Nat)]) hs (fun b32 w33 h34 hs=>?_)))))
   refine lYe 79 1 ((wds a).length) b32 l u64c 0 cy 8 (.int .u64 0) hs (hs.f.1) oM oM (fun A36 c37 w38 h39 hs hcc41=>?_)
   replace hs:=hs.to [⟨bw2,22,(wds b).flatMap u64c⟩,⟨b7,36,[.int .u64 0,.string ⟨#[]⟩]⟩,⟨b4,36,nc b⟩,⟨b1,36,nc a⟩] []
   refine lL hs [.m 7 79] (lNS (lL hs [.m 80 7] (lC 81 hs (nFromE A36 c37 (l++[cy]) ((wds a).length+1) ((a+b)) (by first|rfl|assumption|(simp;done)|(simp;omega)|omega) (Dg.append hW (Dg.one oM)) (by show bval _ (l++[cy])=_;rw[bval_append];show _+_*(cy+_*0)=_;rw[Nat.mul_zero,Nat.add_zero];exact hE) sM sM _ _ hs.g (hs.f.1)) ?_)))
   rintro _ w42 h43 hs rfl
   refine lP 1 0 (nc (a+b)) hs (fun w44 hs=>?_)
   exact lN (CG.ret (hs.ret [(1,0,2)] (nv (a+b)) rfl))
  have phb22:=oT hb22
  refine lB 50 hb22 ?_
  refine lN (CG.seq (cIT (CG.skipN (CG.seq (CG.block (cSL (lL hs [.m 51 49,.m 10 51] (lNS (lL hs [.v 11 (.int .u64 0)] (lN (CG.seq (cSL (lL hs [.m 52 10,.m 53 8,.v 54 (.int .i64 ((wds b).length:Nat))] ?_)))))))))))))
  cases hb45:(decide (((i:Nat):Int)<(((wds b).length:Nat):Int)))
  ·
   have phb45:=oF hb45
   refine lB 55 hb45 ?_
   refine lN (cIF (CG.skipN (CG.listed (lL hs [.m 61 7,.m 62 10,.m 63 7,.m 64 10] (lX 65 (some ⟨bw1,0,none⟩) ((wds a).length) ((wds a).length) 1 (i:Nat) i rfl ?_)))))
   refine lQ 66 1 l u64c 1 0 i (.int .u64 ((l).getD i 0:Nat)) hs oM ?_
   refine lL hs [.m 67 11,.m 68 9] ?_
   obtain ⟨s46,c47,he48,hl49,hm50,hr51⟩:=bAdd64 ((l).getD i 0) 0 cy wM wM oM
   refine lV 69 (.tuple #[.int .u64 (s46:Nat),.int .u64 (c47:Nat)]) ?_ (hr:=opExt kR (hr51 _))
   refine lL hs [.m 60 69,.v 70 (.int .u64 (s46:Nat)),.v 71 (.int .u64 (c47:Nat))] (lX 72 (some ⟨bw1,0,none⟩) ((wds a).length) ((wds a).length) 1 (i:Nat) i rfl ?_)
   refine lW 1 l u64c 1 i s46 hs oM (fun w52 hs=>?_)
   have hl53:((l).set i s46).length=(wds a).length:=by rw[List.length_set];exact hll
   replace hs:=hs.to [⟨bw2,22,(wds b).flatMap u64c⟩,⟨bw1,22,((l).set i s46).flatMap u64c⟩,⟨b7,36,[.int .u64 0,.string ⟨#[]⟩]⟩,⟨b4,36,nc b⟩,⟨b1,36,nc a⟩] []
   refine lL hs [.m 9 71] (lN (CG.listed (lIn 73 ((i:Nat)+1) (i+1) ?_)))
   refine lL hs [.m 49 73] (lD ?_)
   intro a_ ka
   have q54:(i+1)≤(wds a).length:=by omega
   have q55:((l).set i s46).length=(wds a).length:=hl53
   have q56:Wd ((l).set i s46):=(hW.set _ oM)
   have q57:c47≤1:=oM
   have q58:bval 18446744073709551616 ((l).set i s46)+18446744073709551616^(i+1)*c47=a+bval 18446744073709551616 ((wds b:List Nat).take (i+1)):=(add_step oM inv (by first|omega|(have hy0:=getD_out (l:=(wds b:List Nat)) (k:=i) (by first|omega|(simp;done));omega)))
   refine ⟨_,_,?_,⟨i+1,(l).set i s46,c47,h20,rfl,rfl,hs.to _ _,q54,q55,q56,q57,q58⟩,ka.to [(4,.pointer (some ⟨b7,0,none⟩)),(7,.slice (some ⟨bw1,0,none⟩) ((wds a).length) ((wds a).length)),(8,.slice (some ⟨bw2,0,none⟩) ((wds b).length) ((wds b).length)),(48,.int .i64 ((wds a).length:Nat)),(49,.int .i64 ((i+1):Nat)),(9,.int .u64 (c47:Nat))] kR⟩
   omega
  have phb45:=oT hb45
  refine lB 55 hb45 ?_
  refine lN (cIT (CG.listed (lL hs [.m 56 8,.m 57 10] (lX 58 (some ⟨bw2,0,none⟩) ((wds b).length) ((wds b).length) 1 (i:Nat) i rfl ?_))))
  refine lQ 59 0 (wds b) u64c 1 0 i (.int .u64 ((wds b).getD i 0:Nat)) hs oM ?_
  refine lL hs [.m 11 59] (lN (CG.listed (lL hs [.m 61 7,.m 62 10,.m 63 7,.m 64 10] (lX 65 (some ⟨bw1,0,none⟩) ((wds a).length) ((wds a).length) 1 (i:Nat) i rfl ?_))))
  refine lQ 66 1 l u64c 1 0 i (.int .u64 ((l).getD i 0:Nat)) hs oM ?_
  refine lL hs [.m 67 11,.m 68 9] ?_
  obtain ⟨s59,c60,he61,hl62,hm63,hr64⟩:=bAdd64 ((l).getD i 0) ((wds b).getD i 0) cy wM wM oM
  refine lV 69 (.tuple #[.int .u64 (s59:Nat),.int .u64 (c60:Nat)]) ?_ (hr:=opExt kR (hr64 _))
  refine lL hs [.m 60 69,.v 70 (.int .u64 (s59:Nat)),.v 71 (.int .u64 (c60:Nat))] (lX 72 (some ⟨bw1,0,none⟩) ((wds a).length) ((wds a).length) 1 (i:Nat) i rfl ?_)
  refine lW 1 l u64c 1 i s59 hs oM (fun w65 hs=>?_)
  have hl66:((l).set i s59).length=(wds a).length:=by rw[List.length_set];exact hll
  replace hs:=hs.to [⟨bw2,22,(wds b).flatMap u64c⟩,⟨bw1,22,((l).set i s59).flatMap u64c⟩,⟨b7,36,[.int .u64 0,.string ⟨#[]⟩]⟩,⟨b4,36,nc b⟩,⟨b1,36,nc a⟩] []
  refine lL hs [.m 9 71] (lN (CG.listed (lIn 73 ((i:Nat)+1) (i+1) ?_)))
  refine lL hs [.m 49 73] (lD ?_)
  intro a_ ka
  have q67:(i+1)≤(wds a).length:=by omega
  have q68:((l).set i s59).length=(wds a).length:=hl66
  have q69:Wd ((l).set i s59):=(hW.set _ oM)
  have q70:c60≤1:=oM
  have q71:bval 18446744073709551616 ((l).set i s59)+18446744073709551616^(i+1)*c60=a+bval 18446744073709551616 ((wds b:List Nat).take (i+1)):=(add_step oM inv (by first|omega|(have hy0:=getD_out (l:=(wds b:List Nat)) (k:=i) (by first|omega|(simp;done));omega)))
  refine ⟨_,_,?_,⟨i+1,(l).set i s59,c60,h20,rfl,rfl,hs.to _ _,q67,q68,q69,q70,q71⟩,ka.to [(4,.pointer (some ⟨b7,0,none⟩)),(7,.slice (some ⟨bw1,0,none⟩) ((wds a).length) ((wds a).length)),(8,.slice (some ⟨bw2,0,none⟩) ((wds b).length) ((wds b).length)),(48,.int .i64 ((wds a).length:Nat)),(49,.int .i64 ((i+1):Nat)),(9,.int .u64 (c60:Nat))] kR⟩
  omega
 have phb18:=oT hb18
 refine lB 44 hb18 ?_
 refine lN (cIT (CG.listed (lL hs [.m 45 8,.m 46 7,.m 7 45,.m 8 46] (lNS (lL hs [.v 9 (.int .u64 0)] (lN (CG.seq (cSL (lL hs [.m 47 7,.v 48 (.int .i64 ((wds b).length:Nat)),.v 49 (.int .i64 0)] (lN (CG.block (cTo [(4,.pointer (some ⟨b7,0,none⟩)),(7,.slice (some ⟨bw2,0,none⟩) ((wds b).length) ((wds b).length)),(8,.slice (some ⟨bw1,0,none⟩) ((wds a).length) ((wds a).length)),(48,.int .i64 ((wds b).length:Nat)),(49,.int .i64 0),(9,.int .u64 0)] ?_))))))))))))
 refine CG.loop (fun μ_ Γ w_=>∃ (i:Nat) (l:List Nat) (cy:Nat) (h_:Hp),μ_=(wds b).length-i∧Γ=[(4,.pointer (some ⟨b7,0,none⟩)),(7,.slice (some ⟨bw2,0,none⟩) ((wds b).length) ((wds b).length)),(8,.slice (some ⟨bw1,0,none⟩) ((wds a).length) ((wds a).length)),(48,.int .i64 ((wds b).length:Nat)),(49,.int .i64 (i:Nat)),(9,.int .u64 (cy:Nat))]∧SS w h w_ h_ [⟨bw2,22,(l).flatMap u64c⟩,⟨bw1,22,(wds a).flatMap u64c⟩,⟨b7,36,[.int .u64 0,.string ⟨#[]⟩]⟩,⟨b4,36,nc b⟩,⟨b1,36,nc a⟩] [] []∧(i≤(wds b).length)∧(l.length=(wds b).length)∧(Wd l)∧(cy≤1)∧(bval 18446744073709551616 l+18446744073709551616^i*cy=b+bval 18446744073709551616 ((wds a:List Nat).take i))) _ ⟨0,wds b,0,h17,rfl,rfl,hs.to _ _,Nat.zero_le _,rfl,Wd.wds _,oM,(by have hx_:bval 18446744073709551616 (wds b)=b:=wval_wds _;rw[hx_];simp[bval])⟩ ?_
 rintro _ _ w72 ⟨i,l,cy,h73,hm74,rfl,hs,hi,hll,hW,hcy,inv⟩
 have hlk:=hW.get i
 have hyk:=(Wd.wds a).get i
 refine cSL ?_
 cases hb75:(decide (((i:Nat):Int)<(((wds b).length:Nat):Int)))
 ·
  have phb75:=oF hb75
  refine lB 50 hb75 ?_
  refine lN (CG.seq (cIF (CG.exit ?_)))
  show CG _ _ _ _ _ _ _ _
  refine CG.seq (cSL ?_)
  have hE:=inv
  rw[List.take_of_length_le (show (wds a).length≤i by first|omega|(simp;done)|(simp;omega))] at hE
  rw[show i=l.length by omega] at hE
  have hE_:bval 18446744073709551616 (wds a)=a:=wval_wds _
  replace hE:bval 18446744073709551616 l+18446744073709551616^l.length*cy=(a+b):=by rw[hE,hE_];first|done|omega
  refine lL hs [.m 74 9] ?_
  cases hb76:(((cy:Nat):Int) != (0:Int))
  ·
   have phb76:=eqOfBne hb76
   refine lB 75 hb76 ?_
   refine lN (cIF (CG.skipN (cSL ?_)))
   obtain ⟨h77,hs,sg78,lo79,bc80⟩:=hs.pub 0
   replace hs:=(hs.to [⟨bw1,22,(wds a).flatMap u64c⟩,⟨b7,36,[.int .u64 0,.string ⟨#[]⟩]⟩,⟨b4,36,nc b⟩,⟨b1,36,nc a⟩] []).a_SlO (SlO.of_flat (sz:=1) (f:=u64c) (d:=0) (b:=bw2) (o:=0) (l:=l) (fun _=>rfl) sg78)
   refine lL hs [.m 80 7] (lC 81 hs (nFromE (some ⟨bw2,0,none⟩) ((wds b).length) (l) ((wds b).length) ((a+b)) (by first|rfl|assumption|(simp;done)|(simp;omega)|omega) (hW) (by rw[show cy=0 by omega,Nat.mul_zero,Nat.add_zero] at hE;exact hE) sM sM _ _ hs.g (hs.f.1)) ?_)
   rintro _ w82 h83 hs rfl
   refine lP 1 0 (nc (a+b)) hs (fun w84 hs=>?_)
   exact lN (CG.ret (hs.ret [(1,0,2)] (nv (a+b)) rfl))
  have phb76:=neOfBne hb76
  refine lB 75 hb76 ?_
  refine lN (cIT (CG.listed (lL hs [.m 76 7,.m 77 9] (lR 78 22 1 ([.int .u64 (cy:Nat)]) hs (fun b85 w86 h87 hs=>?_)))))
  refine lYe 79 0 ((wds b).length) b85 l u64c 0 cy 8 (.int .u64 0) hs (hs.f.1) oM oM (fun A89 c90 w91 h92 hs hcc94=>?_)
  replace hs:=hs.to [⟨bw1,22,(wds a).flatMap u64c⟩,⟨b7,36,[.int .u64 0,.string ⟨#[]⟩]⟩,⟨b4,36,nc b⟩,⟨b1,36,nc a⟩] []
  refine lL hs [.m 7 79] (lNS (lL hs [.m 80 7] (lC 81 hs (nFromE A89 c90 (l++[cy]) ((wds b).length+1) ((a+b)) (by first|rfl|assumption|(simp;done)|(simp;omega)|omega) (Dg.append hW (Dg.one oM)) (by show bval _ (l++[cy])=_;rw[bval_append];show _+_*(cy+_*0)=_;rw[Nat.mul_zero,Nat.add_zero];exact hE) sM sM _ _ hs.g (hs.f.1)) ?_)))
  rintro _ w95 h96 hs rfl
  refine lP 1 0 (nc (a+b)) hs (fun w97 hs=>?_)
  exact lN (CG.ret (hs.ret [(1,0,2)] (nv (a+b)) rfl))
 have phb75:=oT hb75
 refine lB 50 hb75 ?_
 refine lN (CG.seq (cIT (CG.skipN (CG.seq (CG.block (cSL (lL hs [.m 51 49,.m 10 51] (lNS (lL hs [.v 11 (.int .u64 0)] (lN (CG.seq (cSL (lL hs [.m 52 10,.m 53 8,.v 54 (.int .i64 ((wds a).length:Nat))] ?_)))))))))))))
 cases hb98:(decide (((i:Nat):Int)<(((wds a).length:Nat):Int)))
 ·
  have phb98:=oF hb98
  refine lB 55 hb98 ?_
  refine lN (cIF (CG.skipN (CG.listed (lL hs [.m 61 7,.m 62 10,.m 63 7,.m 64 10] (lX 65 (some ⟨bw2,0,none⟩) ((wds b).length) ((wds b).length) 1 (i:Nat) i rfl ?_)))))
  refine lQ 66 0 l u64c 1 0 i (.int .u64 ((l).getD i 0:Nat)) hs oM ?_
  refine lL hs [.m 67 11,.m 68 9] ?_
  obtain ⟨s99,c100,he101,hl102,hm103,hr104⟩:=bAdd64 ((l).getD i 0) 0 cy wM wM oM
  refine lV 69 (.tuple #[.int .u64 (s99:Nat),.int .u64 (c100:Nat)]) ?_ (hr:=opExt kR (hr104 _))
  refine lL hs [.m 60 69,.v 70 (.int .u64 (s99:Nat)),.v 71 (.int .u64 (c100:Nat))] (lX 72 (some ⟨bw2,0,none⟩) ((wds b).length) ((wds b).length) 1 (i:Nat) i rfl ?_)
  refine lW 0 l u64c 1 i s99 hs oM (fun w105 hs=>?_)
  have hl106:((l).set i s99).length=(wds b).length:=by rw[List.length_set];exact hll
  replace hs:=hs.to [⟨bw2,22,((l).set i s99).flatMap u64c⟩,⟨bw1,22,(wds a).flatMap u64c⟩,⟨b7,36,[.int .u64 0,.string ⟨#[]⟩]⟩,⟨b4,36,nc b⟩,⟨b1,36,nc a⟩] []
  refine lL hs [.m 9 71] (lN (CG.listed (lIn 73 ((i:Nat)+1) (i+1) ?_)))
  refine lL hs [.m 49 73] (lD ?_)
  intro a_ ka
  have q107:(i+1)≤(wds b).length:=by omega
  have q108:((l).set i s99).length=(wds b).length:=hl106
  have q109:Wd ((l).set i s99):=(hW.set _ oM)
  have q110:c100≤1:=oM
  have q111:bval 18446744073709551616 ((l).set i s99)+18446744073709551616^(i+1)*c100=b+bval 18446744073709551616 ((wds a:List Nat).take (i+1)):=(add_step oM inv (by first|omega|(have hy0:=getD_out (l:=(wds a:List Nat)) (k:=i) (by first|omega|(simp;done));omega)))
  refine ⟨_,_,?_,⟨i+1,(l).set i s99,c100,h73,rfl,rfl,hs.to _ _,q107,q108,q109,q110,q111⟩,ka.to [(4,.pointer (some ⟨b7,0,none⟩)),(7,.slice (some ⟨bw2,0,none⟩) ((wds b).length) ((wds b).length)),(8,.slice (some ⟨bw1,0,none⟩) ((wds a).length) ((wds a).length)),(48,.int .i64 ((wds b).length:Nat)),(49,.int .i64 ((i+1):Nat)),(9,.int .u64 (c100:Nat))] kR⟩
  omega
 have phb98:=oT hb98
 refine lB 55 hb98 ?_
 refine lN (cIT (CG.listed (lL hs [.m 56 8,.m 57 10] (lX 58 (some ⟨bw1,0,none⟩) ((wds a).length) ((wds a).length) 1 (i:Nat) i rfl ?_))))
 refine lQ 59 1 (wds a) u64c 1 0 i (.int .u64 ((wds a).getD i 0:Nat)) hs oM ?_
 refine lL hs [.m 11 59] (lN (CG.listed (lL hs [.m 61 7,.m 62 10,.m 63 7,.m 64 10] (lX 65 (some ⟨bw2,0,none⟩) ((wds b).length) ((wds b).length) 1 (i:Nat) i rfl ?_))))
 refine lQ 66 0 l u64c 1 0 i (.int .u64 ((l).getD i 0:Nat)) hs oM ?_
 refine lL hs [.m 67 11,.m 68 9] ?_
 obtain ⟨s112,c113,he114,hl115,hm116,hr117⟩:=bAdd64 ((l).getD i 0) ((wds a).getD i 0) cy wM wM oM
 refine lV 69 (.tuple #[.int .u64 (s112:Nat),.int .u64 (c113:Nat)]) ?_ (hr:=opExt kR (hr117 _))
 refine lL hs [.m 60 69,.v 70 (.int .u64 (s112:Nat)),.v 71 (.int .u64 (c113:Nat))] (lX 72 (some ⟨bw2,0,none⟩) ((wds b).length) ((wds b).length) 1 (i:Nat) i rfl ?_)
 refine lW 0 l u64c 1 i s112 hs oM (fun w118 hs=>?_)
 have hl119:((l).set i s112).length=(wds b).length:=by rw[List.length_set];exact hll
 replace hs:=hs.to [⟨bw2,22,((l).set i s112).flatMap u64c⟩,⟨bw1,22,(wds a).flatMap u64c⟩,⟨b7,36,[.int .u64 0,.string ⟨#[]⟩]⟩,⟨b4,36,nc b⟩,⟨b1,36,nc a⟩] []
 refine lL hs [.m 9 71] (lN (CG.listed (lIn 73 ((i:Nat)+1) (i+1) ?_)))
 refine lL hs [.m 49 73] (lD ?_)
 intro a_ ka
 have q120:(i+1)≤(wds b).length:=by omega
 have q121:((l).set i s112).length=(wds b).length:=hl119
 have q122:Wd ((l).set i s112):=(hW.set _ oM)
 have q123:c113≤1:=oM
 have q124:bval 18446744073709551616 ((l).set i s112)+18446744073709551616^(i+1)*c113=b+bval 18446744073709551616 ((wds a:List Nat).take (i+1)):=(add_step oM inv (by first|omega|(have hy0:=getD_out (l:=(wds a:List Nat)) (k:=i) (by first|omega|(simp;done));omega)))
 refine ⟨_,_,?_,⟨i+1,(l).set i s112,c113,h73,rfl,rfl,hs.to _ _,q120,q121,q122,q123,q124⟩,ka.to [(4,.pointer (some ⟨b7,0,none⟩)),(7,.slice (some ⟨bw2,0,none⟩) ((wds b).length) ((wds b).length)),(8,.slice (some ⟨bw1,0,none⟩) ((wds a).length) ((wds a).length)),(48,.int .i64 ((wds b).length:Nat)),(49,.int .i64 ((i+1):Nat)),(9,.int .u64 (c113:Nat))] kR⟩
 omega
theorem nAdd0R (b:Nat)(hl:(wds b).length≤1000000000)(hbs:18446744073709551616≤b)(w:World)(h:Hp)(g:G w h) :
    Calls Tryz.prog 115 #[nv 0,nv b] w (Ret w h fun v _=>v=nv (0+b)):=by
 have hs:=SS.start g
 have h2l:=wds_len_big hbs
 refine go Tryz.func115 [(0,nv 0),(1,nv b)] rfl ?_
 refine cSL (lA 2 36 (nc 0) hs (fun b1 w2 h3 hs=>?_))
 refine lA 3 36 (nc b) hs (fun b4 w5 h6 hs=>?_)
 refine lA 4 36 ([.int .u64 0,.string ⟨#[]⟩]) hs (fun b7 w8 h9 hs=>?_)
 refine lN (CG.seq (cSL (lL hs [.v 12 (.pointer (some ⟨b1,1,none⟩)),.o 13 (.string (hi 0)) 2 1 1] (lV 14 (.bool true) ?_ (hr:=rb kR (strE rfl))))))
 refine lL hs [.m 15 14,.v 16 (.pointer (some ⟨b4,1,none⟩)),.o 17 (.string (hi b)) 1 1 1] (lV 18 (.bool false) ?_ (hr:=rb kR (strN (hi_ne hbs))))
 refine lL hs [.v 19 (.bool false)] (lN (cIF (CG.skipN (CG.seq ?_))))
 obtain ⟨K_,hK_⟩:∃ K_,K_=w8.heap.size:=⟨_,rfl⟩
 have hk_b7:b7<K_:=by rw[hK_];exact zblk hs 0
 have hk_b4:b4<K_:=by rw[hK_];exact zblk hs 1
 have hk_b1:b1<K_:=by rw[hK_];exact zblk hs 2
 refine cRa ⟨[],some (K_,[])⟩ 0 mixed ?_
 have hszK:=hs.g.size
 replace hs:=hs.drew
 have hKl:=Nat.le_of_eq hK_
 refine zO 0 36 [(2,0,2)] (nv 0) rfl hKl hs (fun p hp=>by obtain rfl:=List.mem_singleton.1 hp;exact hk_b1) ?_
 refine zO 2 38 [(1,0,2)] (nv b) rfl hKl hs (fun p hp=>by obtain rfl:=List.mem_singleton.1 hp;exact hk_b4) ?_
 refine zCu 1 37 (nWords0 _ _ hs.g) rfl hKl ?_
 rintro _ w10 h11 u12 hKl rfl
 replace hs:=hs.step u12
 refine zCu 3 39 (nWords b oM oM _ _ hs.g) rfl hKl ?_
 rintro _ w13 h14 u15 hKl ⟨bw1,rfl,hlo1,hbc1,hsl1⟩
 obtain ⟨h16,hs,-,-⟩:=hs.take u15 hlo1 hbc1
 replace hs:=hs.to [⟨bw1,22,(wds b).flatMap u64c⟩,⟨b7,36,[.int .u64 0,.string ⟨#[]⟩]⟩,⟨b4,36,nc b⟩,⟨b1,36,nc 0⟩] []
 refine zV 4 7 (.slice none 0 0) ?_
 refine zV 5 8 (.slice (some ⟨bw1,0,none⟩) ((wds b).length) ((wds b).length)) ?_
 refine tN (CG.seq (cSL (lL hs [.m 40 7,.v 41 (.int .i64 0),.m 42 8,.v 43 (.int .i64 ((wds b).length:Nat))] ?_)))
 have ⟨hb17,phb17⟩:=dT (p:=(0:Int)<(((wds b).length:Nat):Int)) oM
 refine lB 44 hb17 ?_
 refine lN (cIT (CG.listed (lL hs [.m 45 8,.m 46 7,.m 7 45,.m 8 46] (lNS (lL hs [.v 9 (.int .u64 0)] (lN (CG.seq (cSL (lL hs [.m 47 7,.v 48 (.int .i64 ((wds b).length:Nat)),.v 49 (.int .i64 0)] (lN (CG.block (cTo [(4,.pointer (some ⟨b7,0,none⟩)),(7,.slice (some ⟨bw1,0,none⟩) ((wds b).length) ((wds b).length)),(8,.slice none 0 0),(48,.int .i64 ((wds b).length:Nat)),(49,.int .i64 0),(9,.int .u64 0)] ?_))))))))))))
 refine CG.loop (fun μ_ Γ w_=>∃ (i:Nat) (l:List Nat) (cy:Nat) (h_:Hp),μ_=(wds b).length-i∧Γ=[(4,.pointer (some ⟨b7,0,none⟩)),(7,.slice (some ⟨bw1,0,none⟩) ((wds b).length) ((wds b).length)),(8,.slice none 0 0),(48,.int .i64 ((wds b).length:Nat)),(49,.int .i64 (i:Nat)),(9,.int .u64 (cy:Nat))]∧SS w h w_ h_ [⟨bw1,22,(l).flatMap u64c⟩,⟨b7,36,[.int .u64 0,.string ⟨#[]⟩]⟩,⟨b4,36,nc b⟩,⟨b1,36,nc 0⟩] [] []∧(i≤(wds b).length)∧(l.length=(wds b).length)∧(Wd l)∧(cy≤1)∧(bval 18446744073709551616 l+18446744073709551616^i*cy=b+bval 18446744073709551616 (([]:List Nat).take i))) _ ⟨0,wds b,0,h16,rfl,rfl,hs.to _ _,Nat.zero_le _,rfl,Wd.wds _,oM,(by have hx_:bval 18446744073709551616 (wds b)=b:=wval_wds _;rw[hx_];simp[bval])⟩ ?_
 rintro _ _ w18 ⟨i,l,cy,h19,hm20,rfl,hs,hi,hll,hW,hcy,inv⟩
 have hlk:=hW.get i
 have hyk:=Wd.get (l:=[]) Dg.nil i
 refine cSL ?_
 cases hb21:(decide (((i:Nat):Int)<(((wds b).length:Nat):Int)))
 ·
  have phb21:=oF hb21
  refine lB 50 hb21 ?_
  refine lN (CG.seq (cIF (CG.exit ?_)))
  show CG _ _ _ _ _ _ _ _
  refine CG.seq (cSL ?_)
  have hE:=inv
  rw[List.take_of_length_le (show ([]).length≤i by first|omega|(simp;done)|(simp;omega))] at hE
  rw[show i=l.length by omega] at hE
  have hE_:([]:List Nat)=[]:=rfl
  replace hE:bval 18446744073709551616 l+18446744073709551616^l.length*cy=(0+b):=by rw[hE];simp[bval]
  refine lL hs [.m 74 9] ?_
  cases hb22:(((cy:Nat):Int) != (0:Int))
  ·
   have phb22:=eqOfBne hb22
   refine lB 75 hb22 ?_
   refine lN (cIF (CG.skipN (cSL ?_)))
   obtain ⟨h23,hs,sg24,lo25,bc26⟩:=hs.pub 0
   replace hs:=(hs.to [⟨b7,36,[.int .u64 0,.string ⟨#[]⟩]⟩,⟨b4,36,nc b⟩,⟨b1,36,nc 0⟩] []).a_SlO (SlO.of_flat (sz:=1) (f:=u64c) (d:=0) (b:=bw1) (o:=0) (l:=l) (fun _=>rfl) sg24)
   refine lL hs [.m 80 7] (lC 81 hs (nFromE (some ⟨bw1,0,none⟩) ((wds b).length) (l) ((wds b).length) ((0+b)) (by first|rfl|assumption|(simp;done)|(simp;omega)|omega) (hW) (by rw[show cy=0 by omega,Nat.mul_zero,Nat.add_zero] at hE;exact hE) sM sM _ _ hs.g (hs.f.1)) ?_)
   rintro _ w28 h29 hs rfl
   refine lP 0 0 (nc (0+b)) hs (fun w30 hs=>?_)
   exact lN (CG.ret (hs.ret [(0,0,2)] (nv (0+b)) rfl))
  have phb22:=neOfBne hb22
  refine lB 75 hb22 ?_
  refine lN (cIT (CG.listed (lL hs [.m 76 7,.m 77 9] (lR 78 22 1 ([.int .u64 (cy:Nat)]) hs (fun b31 w32 h33 hs=>?_)))))
  refine lYe 79 0 ((wds b).length) b31 l u64c 0 cy 8 (.int .u64 0) hs (hs.f.1) oM oM (fun A35 c36 w37 h38 hs hcc40=>?_)
  replace hs:=hs.to [⟨b7,36,[.int .u64 0,.string ⟨#[]⟩]⟩,⟨b4,36,nc b⟩,⟨b1,36,nc 0⟩] []
  refine lL hs [.m 7 79] (lNS (lL hs [.m 80 7] (lC 81 hs (nFromE A35 c36 (l++[cy]) ((wds b).length+1) ((0+b)) (by first|rfl|assumption|(simp;done)|(simp;omega)|omega) (Dg.append hW (Dg.one oM)) (by show bval _ (l++[cy])=_;rw[bval_append];show _+_*(cy+_*0)=_;rw[Nat.mul_zero,Nat.add_zero];exact hE) sM sM _ _ hs.g (hs.f.1)) ?_)))
  rintro _ w41 h42 hs rfl
  refine lP 0 0 (nc (0+b)) hs (fun w43 hs=>?_)
  exact lN (CG.ret (hs.ret [(0,0,2)] (nv (0+b)) rfl))
 have phb21:=oT hb21
 refine lB 50 hb21 ?_
 refine lN (CG.seq (cIT (CG.skipN (CG.seq (CG.block (cSL (lL hs [.m 51 49,.m 10 51] (lNS (lL hs [.v 11 (.int .u64 0)] (lN (CG.seq (cSL (lL hs [.m 52 10,.m 53 8,.v 54 (.int .i64 0)] ?_)))))))))))))
 have ⟨hb44,phb44⟩:=dF (p:=((i:Nat):Int)<(0:Int)) oM
 refine lB 55 hb44 ?_
 refine lN (cIF (CG.skipN (CG.listed (lL hs [.m 61 7,.m 62 10,.m 63 7,.m 64 10] (lX 65 (some ⟨bw1,0,none⟩) ((wds b).length) ((wds b).length) 1 (i:Nat) i rfl ?_)))))
 refine lQ 66 0 l u64c 1 0 i (.int .u64 ((l).getD i 0:Nat)) hs oM ?_
 refine lL hs [.m 67 11,.m 68 9] ?_
 obtain ⟨s45,c46,he47,hl48,hm49,hr50⟩:=bAdd64 ((l).getD i 0) 0 cy wM wM oM
 refine lV 69 (.tuple #[.int .u64 (s45:Nat),.int .u64 (c46:Nat)]) ?_ (hr:=opExt kR (hr50 _))
 refine lL hs [.m 60 69,.v 70 (.int .u64 (s45:Nat)),.v 71 (.int .u64 (c46:Nat))] (lX 72 (some ⟨bw1,0,none⟩) ((wds b).length) ((wds b).length) 1 (i:Nat) i rfl ?_)
 refine lW 0 l u64c 1 i s45 hs oM (fun w51 hs=>?_)
 have hl52:((l).set i s45).length=(wds b).length:=by rw[List.length_set];exact hll
 replace hs:=hs.to [⟨bw1,22,((l).set i s45).flatMap u64c⟩,⟨b7,36,[.int .u64 0,.string ⟨#[]⟩]⟩,⟨b4,36,nc b⟩,⟨b1,36,nc 0⟩] []
 refine lL hs [.m 9 71] (lN (CG.listed (lIn 73 ((i:Nat)+1) (i+1) ?_)))
 refine lL hs [.m 49 73] (lD ?_)
 intro a_ ka
 have q53:(i+1)≤(wds b).length:=by omega
 have q54:((l).set i s45).length=(wds b).length:=hl52
 have q55:Wd ((l).set i s45):=(hW.set _ oM)
 have q56:c46≤1:=oM
 have q57:bval 18446744073709551616 ((l).set i s45)+18446744073709551616^(i+1)*c46=b+bval 18446744073709551616 (([]:List Nat).take (i+1)):=(add_step oM inv (by first|omega|(have hy0:=getD_out (l:=([]:List Nat)) (k:=i) (by first|omega|(simp;done));omega)))
 refine ⟨_,_,?_,⟨i+1,(l).set i s45,c46,h19,rfl,rfl,hs.to _ _,q53,q54,q55,q56,q57⟩,ka.to [(4,.pointer (some ⟨b7,0,none⟩)),(7,.slice (some ⟨bw1,0,none⟩) ((wds b).length) ((wds b).length)),(8,.slice none 0 0),(48,.int .i64 ((wds b).length:Nat)),(49,.int .i64 ((i+1):Nat)),(9,.int .u64 (c46:Nat))] kR⟩
 omega
theorem nAdd0L (a:Nat)(hl:(wds a).length≤1000000000)(has:18446744073709551616≤a)(w:World)(h:Hp)(g:G w h) :
    Calls Tryz.prog 115 #[nv a,nv 0] w (Ret w h fun v _=>v=nv (a+0)):=by
 have hs:=SS.start g
 have h2l:=wds_len_big has
 refine go Tryz.func115 [(0,nv a),(1,nv 0)] rfl ?_
 refine cSL (lA 2 36 (nc a) hs (fun b1 w2 h3 hs=>?_))
 refine lA 3 36 (nc 0) hs (fun b4 w5 h6 hs=>?_)
 refine lA 4 36 ([.int .u64 0,.string ⟨#[]⟩]) hs (fun b7 w8 h9 hs=>?_)
 refine lN (CG.seq (cSL (lL hs [.v 12 (.pointer (some ⟨b1,1,none⟩)),.o 13 (.string (hi a)) 2 1 1] (lV 14 (.bool false) ?_ (hr:=rb kR (strN (hi_ne has)))))))
 refine lL hs [.m 15 14] (lG 16 ?_)
 refine lG 17 ?_
 refine lG 18 ?_
 refine lL hs [.v 19 (.bool false)] (lN (cIF (CG.skipN (CG.seq ?_))))
 obtain ⟨K_,hK_⟩:∃ K_,K_=w8.heap.size:=⟨_,rfl⟩
 have hk_b7:b7<K_:=by rw[hK_];exact zblk hs 0
 have hk_b4:b4<K_:=by rw[hK_];exact zblk hs 1
 have hk_b1:b1<K_:=by rw[hK_];exact zblk hs 2
 refine cRa ⟨[],some (K_,[])⟩ 0 mixed ?_
 have hszK:=hs.g.size
 replace hs:=hs.drew
 have hKl:=Nat.le_of_eq hK_
 refine zO 0 36 [(2,0,2)] (nv a) rfl hKl hs (fun p hp=>by obtain rfl:=List.mem_singleton.1 hp;exact hk_b1) ?_
 refine zO 2 38 [(1,0,2)] (nv 0) rfl hKl hs (fun p hp=>by obtain rfl:=List.mem_singleton.1 hp;exact hk_b4) ?_
 refine zCu 1 37 (nWords a oM oM _ _ hs.g) rfl hKl ?_
 rintro _ w10 h11 u12 hKl ⟨bw1,rfl,hlo1,hbc1,hsl1⟩
 obtain ⟨h13,hs,-,-⟩:=hs.take u12 hlo1 hbc1
 replace hs:=hs.to [⟨bw1,22,(wds a).flatMap u64c⟩,⟨b7,36,[.int .u64 0,.string ⟨#[]⟩]⟩,⟨b4,36,nc 0⟩,⟨b1,36,nc a⟩] []
 refine zCu 3 39 (nWords0 _ _ hs.g) rfl hKl ?_
 rintro _ w14 h15 u16 hKl rfl
 replace hs:=hs.step u16
 refine zV 4 7 (.slice (some ⟨bw1,0,none⟩) ((wds a).length) ((wds a).length)) ?_
 refine zV 5 8 (.slice none 0 0) ?_
 refine tN (CG.seq (cSL (lL hs [.m 40 7,.v 41 (.int .i64 ((wds a).length:Nat)),.m 42 8,.v 43 (.int .i64 0)] ?_)))
 have ⟨hb17,phb17⟩:=dF (p:=(((wds a).length:Nat):Int)<(0:Int)) oM
 refine lB 44 hb17 ?_
 refine lN (cIF (CG.skipN (cSL (lL hs [.v 9 (.int .u64 0)] (lN (CG.seq (cSL (lL hs [.m 47 7,.v 48 (.int .i64 ((wds a).length:Nat)),.v 49 (.int .i64 0)] (lN (CG.block (cTo [(4,.pointer (some ⟨b7,0,none⟩)),(7,.slice (some ⟨bw1,0,none⟩) ((wds a).length) ((wds a).length)),(8,.slice none 0 0),(48,.int .i64 ((wds a).length:Nat)),(49,.int .i64 0),(9,.int .u64 0)] ?_)))))))))))
 refine CG.loop (fun μ_ Γ w_=>∃ (i:Nat) (l:List Nat) (cy:Nat) (h_:Hp),μ_=(wds a).length-i∧Γ=[(4,.pointer (some ⟨b7,0,none⟩)),(7,.slice (some ⟨bw1,0,none⟩) ((wds a).length) ((wds a).length)),(8,.slice none 0 0),(48,.int .i64 ((wds a).length:Nat)),(49,.int .i64 (i:Nat)),(9,.int .u64 (cy:Nat))]∧SS w h w_ h_ [⟨bw1,22,(l).flatMap u64c⟩,⟨b7,36,[.int .u64 0,.string ⟨#[]⟩]⟩,⟨b4,36,nc 0⟩,⟨b1,36,nc a⟩] [] []∧(i≤(wds a).length)∧(l.length=(wds a).length)∧(Wd l)∧(cy≤1)∧(bval 18446744073709551616 l+18446744073709551616^i*cy=a+bval 18446744073709551616 (([]:List Nat).take i))) _ ⟨0,wds a,0,h15,rfl,rfl,hs.to _ _,Nat.zero_le _,rfl,Wd.wds _,oM,(by have hx_:bval 18446744073709551616 (wds a)=a:=wval_wds _;rw[hx_];simp[bval])⟩ ?_
 rintro _ _ w18 ⟨i,l,cy,h19,hm20,rfl,hs,hi,hll,hW,hcy,inv⟩
 have hlk:=hW.get i
 have hyk:=Wd.get (l:=[]) Dg.nil i
 refine cSL ?_
 cases hb21:(decide (((i:Nat):Int)<(((wds a).length:Nat):Int)))
 ·
  have phb21:=oF hb21
  refine lB 50 hb21 ?_
  refine lN (CG.seq (cIF (CG.exit ?_)))
  show CG _ _ _ _ _ _ _ _
  refine CG.seq (cSL ?_)
  have hE:=inv
  rw[List.take_of_length_le (show ([]).length≤i by first|omega|(simp;done)|(simp;omega))] at hE
  rw[show i=l.length by omega] at hE
  have hE_:([]:List Nat)=[]:=rfl
  replace hE:bval 18446744073709551616 l+18446744073709551616^l.length*cy=(a+0):=by rw[hE];simp[bval]
  refine lL hs [.m 74 9] ?_
  cases hb22:(((cy:Nat):Int) != (0:Int))
  ·
   have phb22:=eqOfBne hb22
   refine lB 75 hb22 ?_
   refine lN (cIF (CG.skipN (cSL ?_)))
   obtain ⟨h23,hs,sg24,lo25,bc26⟩:=hs.pub 0
   replace hs:=(hs.to [⟨b7,36,[.int .u64 0,.string ⟨#[]⟩]⟩,⟨b4,36,nc 0⟩,⟨b1,36,nc a⟩] []).a_SlO (SlO.of_flat (sz:=1) (f:=u64c) (d:=0) (b:=bw1) (o:=0) (l:=l) (fun _=>rfl) sg24)
   refine lL hs [.m 80 7] (lC 81 hs (nFromE (some ⟨bw1,0,none⟩) ((wds a).length) (l) ((wds a).length) ((a+0)) (by first|rfl|assumption|(simp;done)|(simp;omega)|omega) (hW) (by rw[show cy=0 by omega,Nat.mul_zero,Nat.add_zero] at hE;exact hE) sM sM _ _ hs.g (hs.f.1)) ?_)
   rintro _ w28 h29 hs rfl
   refine lP 0 0 (nc (a+0)) hs (fun w30 hs=>?_)
   exact lN (CG.ret (hs.ret [(0,0,2)] (nv (a+0)) rfl))
  have phb22:=neOfBne hb22
  refine lB 75 hb22 ?_
  refine lN (cIT (CG.listed (lL hs [.m 76 7,.m 77 9] (lR 78 22 1 ([.int .u64 (cy:Nat)]) hs (fun b31 w32 h33 hs=>?_)))))
  refine lYe 79 0 ((wds a).length) b31 l u64c 0 cy 8 (.int .u64 0) hs (hs.f.1) oM oM (fun A35 c36 w37 h38 hs hcc40=>?_)
  replace hs:=hs.to [⟨b7,36,[.int .u64 0,.string ⟨#[]⟩]⟩,⟨b4,36,nc 0⟩,⟨b1,36,nc a⟩] []
  refine lL hs [.m 7 79] (lNS (lL hs [.m 80 7] (lC 81 hs (nFromE A35 c36 (l++[cy]) ((wds a).length+1) ((a+0)) (by first|rfl|assumption|(simp;done)|(simp;omega)|omega) (Dg.append hW (Dg.one oM)) (by show bval _ (l++[cy])=_;rw[bval_append];show _+_*(cy+_*0)=_;rw[Nat.mul_zero,Nat.add_zero];exact hE) sM sM _ _ hs.g (hs.f.1)) ?_)))
  rintro _ w41 h42 hs rfl
  refine lP 0 0 (nc (a+0)) hs (fun w43 hs=>?_)
  exact lN (CG.ret (hs.ret [(0,0,2)] (nv (a+0)) rfl))
 have phb21:=oT hb21
 refine lB 50 hb21 ?_
 refine lN (CG.seq (cIT (CG.skipN (CG.seq (CG.block (cSL (lL hs [.m 51 49,.m 10 51] (lNS (lL hs [.v 11 (.int .u64 0)] (lN (CG.seq (cSL (lL hs [.m 52 10,.m 53 8,.v 54 (.int .i64 0)] ?_)))))))))))))
 have ⟨hb44,phb44⟩:=dF (p:=((i:Nat):Int)<(0:Int)) oM
 refine lB 55 hb44 ?_
 refine lN (cIF (CG.skipN (CG.listed (lL hs [.m 61 7,.m 62 10,.m 63 7,.m 64 10] (lX 65 (some ⟨bw1,0,none⟩) ((wds a).length) ((wds a).length) 1 (i:Nat) i rfl ?_)))))
 refine lQ 66 0 l u64c 1 0 i (.int .u64 ((l).getD i 0:Nat)) hs oM ?_
 refine lL hs [.m 67 11,.m 68 9] ?_
 obtain ⟨s45,c46,he47,hl48,hm49,hr50⟩:=bAdd64 ((l).getD i 0) 0 cy wM wM oM
 refine lV 69 (.tuple #[.int .u64 (s45:Nat),.int .u64 (c46:Nat)]) ?_ (hr:=opExt kR (hr50 _))
 refine lL hs [.m 60 69,.v 70 (.int .u64 (s45:Nat)),.v 71 (.int .u64 (c46:Nat))] (lX 72 (some ⟨bw1,0,none⟩) ((wds a).length) ((wds a).length) 1 (i:Nat) i rfl ?_)
 refine lW 0 l u64c 1 i s45 hs oM (fun w51 hs=>?_)
 have hl52:((l).set i s45).length=(wds a).length:=by rw[List.length_set];exact hll
 replace hs:=hs.to [⟨bw1,22,((l).set i s45).flatMap u64c⟩,⟨b7,36,[.int .u64 0,.string ⟨#[]⟩]⟩,⟨b4,36,nc 0⟩,⟨b1,36,nc a⟩] []
 refine lL hs [.m 9 71] (lN (CG.listed (lIn 73 ((i:Nat)+1) (i+1) ?_)))
 refine lL hs [.m 49 73] (lD ?_)
 intro a_ ka
 have q53:(i+1)≤(wds a).length:=by omega
 have q54:((l).set i s45).length=(wds a).length:=hl52
 have q55:Wd ((l).set i s45):=(hW.set _ oM)
 have q56:c46≤1:=oM
 have q57:bval 18446744073709551616 ((l).set i s45)+18446744073709551616^(i+1)*c46=a+bval 18446744073709551616 (([]:List Nat).take (i+1)):=(add_step oM inv (by first|omega|(have hy0:=getD_out (l:=([]:List Nat)) (k:=i) (by first|omega|(simp;done));omega)))
 refine ⟨_,_,?_,⟨i+1,(l).set i s45,c46,h19,rfl,rfl,hs.to _ _,q53,q54,q55,q56,q57⟩,ka.to [(4,.pointer (some ⟨b7,0,none⟩)),(7,.slice (some ⟨bw1,0,none⟩) ((wds a).length) ((wds a).length)),(8,.slice none 0 0),(48,.int .i64 ((wds a).length:Nat)),(49,.int .i64 ((i+1):Nat)),(9,.int .u64 (c46:Nat))] kR⟩
 omega
theorem nAdd (a b:Nat)(hla:(wds a).length≤1000000000)(hlb:(wds b).length≤1000000000)(w:World)(h:Hp)(g:G w h):Calls Tryz.prog 115 #[nv a,nv b] w (Ret w h fun v _=>v=nv (a+b)):=by
  rcases Nat.lt_or_ge a 18446744073709551616 with h1|h1
  · rcases Nat.lt_or_ge b 18446744073709551616 with h2|h2
    · exact nAddS a b hla hlb h1 h2 w h g
    · rcases Nat.eq_zero_or_pos a with h3|h3
      · subst h3;exact nAdd0R b hlb h2 w h g
      · exact nAddR a b hla hlb h1 h3 h2 w h g
  · rcases Nat.eq_zero_or_pos b with h3|h3
    · subst h3;exact nAdd0L a hla h1 w h g
    · exact nAddL a b hla hlb h1 h3 w h g
theorem sub_end {l:List Nat}{a b bo:Nat}(hW:Wd l)(inv:bval 18446744073709551616 l+b=a+18446744073709551616^l.length*bo)(hab:b≤a)(hbo:bo≤1):wval l=a-b:=by
  have h1:=bval_lt hW
  have:bo=0:=by
    rcases Nat.eq_zero_or_pos bo with h|h
    · exact h
    · have:bo=1:=by omega
      subst this
      rw[Nat.mul_one] at inv
      omega
  subst this
  rw[Nat.mul_zero,Nat.add_zero] at inv
  show bval _ l=_
  omega
theorem quo_rem {a b q r:Nat}(h:a=b*q+r)(hr:r<b):q=a/b∧r=a%b:=by
  subst h
  rw[Nat.mul_add_div oM,Nat.div_eq_of_lt hr,Nat.mul_add_mod,Nat.mod_eq_of_lt hr];simp
theorem nWordsG (n:Nat)(hl:(wds n).length≤1000000000)(w:World)(h:Hp)(g:G w h):Calls Tryz.prog 122 #[nv n] w (Ret w h fun v h1=>∃ A c,v=.slice A (wds n).length c∧(wds n).length≤c∧SlO 1 u64c 0 h1 A (wds n)):=by
  rcases Nat.eq_zero_or_pos n with h0|h0
  · subst h0
    refine (nWords0 w h g).mono ?_
    rintro _ w' ⟨_,h',rfl,u,rfl⟩
    exact ⟨_,h',rfl,u,none,0,rfl,Nat.le_refl _,SlO.nil⟩
  · refine (nWords n h0 hl w h g).mono ?_
    rintro _ w' ⟨_,h',rfl,u,b,rfl,_,_,hs⟩
    exact ⟨_,h',rfl,u,_,_,rfl,Nat.le_refl _,hs⟩
theorem nSubN (a b:Nat)(hab:a<b)(hla:(wds a).length≤1000000000)(hlb:(wds b).length≤1000000000)(w:World)(h:Hp)(g:G w h) :
    Calls Tryz.prog 116 #[nv a,nv b] w (Ret w h fun v _=>v=.tuple #[nv 0,.bool false]):=by
 have hs:=SS.start g
 have hcl:=cmpN_lt hab
 refine go Tryz.func116 [(0,nv a),(1,nv b)] rfl ?_
 refine cSL (lA 2 36 (nc a) hs (fun b1 w2 h3 hs=>?_))
 refine lA 3 36 (nc b) hs (fun b4 w5 h6 hs=>?_)
 refine lA 4 36 ([.int .u64 0,.string ⟨#[]⟩]) hs (fun b7 w8 h9 hs=>?_)
 refine lL hs [.v 5 (.bool false)] (lN (CG.seq (cSL (lL hs [.o 11 (nv a) 2 0 2,.o 12 (nv b) 1 0 2] (lC 13 hs (nCmp a b hla hlb _ _ hs.g) ?_)))))
 rintro _ w10 h11 hs rfl
 have ⟨hb12,phb12⟩:=dT (p:=(cmpN a b:Int)<(0:Int)) oM
 refine lB 14 hb12 ?_
 refine lN (cIT (cSL (lL hs [.v 15 (.agg #[.int .u64 0,.string ⟨#[]⟩])] (lP 0 0 ([.int .u64 0,.string ⟨#[]⟩]) hs (fun w13 hs=>?_)))))
 exact lL hs [.v 5 (.bool false)] (lN (CG.ret (hs.ret [(0,0,2)] (.tuple #[.agg #[.int .u64 0,.string ⟨#[]⟩],.bool false]) rfl)))
theorem nSubS (a b:Nat)(hla:(wds a).length≤1000000000)(hlb:(wds b).length≤1000000000)(hab:b≤a)(has:a<18446744073709551616)(w:World)(h:Hp)(g:G w h) :
    Calls Tryz.prog 116 #[nv a,nv b] w (Ret w h fun v _=>v=.tuple #[nv (a-b),.bool true]):=by
 have hs:=SS.start g
 have hcl:=cmpN_ge hab
 refine go Tryz.func116 [(0,nv a),(1,nv b)] rfl ?_
 refine cSL (lA 2 36 (nc a) hs (fun b1 w2 h3 hs=>?_))
 refine lA 3 36 (nc b) hs (fun b4 w5 h6 hs=>?_)
 refine lA 4 36 ([.int .u64 0,.string ⟨#[]⟩]) hs (fun b7 w8 h9 hs=>?_)
 refine lL hs [.v 5 (.bool false)] (lN (CG.seq (cSL (lL hs [.o 11 (nv a) 2 0 2,.o 12 (nv b) 1 0 2] (lC 13 hs (nCmp a b hla hlb _ _ hs.g) ?_)))))
 rintro _ w10 h11 hs rfl
 have ⟨hb12,phb12⟩:=dF (p:=(cmpN a b:Int)<(0:Int)) oM
 refine lB 14 hb12 ?_
 refine lN (cIF (CG.skipN (CG.seq (cSL (lL hs [.v 16 (.pointer (some ⟨b1,1,none⟩)),.o 17 (.string (hi a)) 2 1 1] (lV 18 (.bool true) ?_ (hr:=rb kR (strE (hi_nil has)))))))))
 refine lN (cIT (cSL (lL hs [.v 19 (.pointer (some ⟨b1,0,none⟩)),.o 20 (.int .u64 (a%18446744073709551616:Nat)) 2 0 1,.v 21 (.pointer (some ⟨b4,0,none⟩)),.o 22 (.int .u64 (b%18446744073709551616:Nat)) 1 0 1] (lV 23 (.int .u64 ((a%18446744073709551616)-(b%18446744073709551616):Nat)) ?_ (hr:=rint (n:=IntKind.wrap .u64 (((a%18446744073709551616:Nat):Int)-((b%18446744073709551616:Nat):Int))) kR (fSU64 (a%18446744073709551616) (b%18446744073709551616) oM oM))))))
 refine lL hs [.v 24 (.agg #[.int .u64 ((a%18446744073709551616)-(b%18446744073709551616):Nat),.string ⟨#[]⟩])] (lP 0 0 ([.int .u64 ((a%18446744073709551616)-(b%18446744073709551616):Nat),.string ⟨#[]⟩]) hs (fun w13 hs=>?_))
 exact lL hs [.v 5 (.bool true)] (lN (CG.ret (hs.ret [(0,0,2)] (.tuple #[.agg #[.int .u64 ((a%18446744073709551616)-(b%18446744073709551616):Nat),.string ⟨#[]⟩],.bool true]) (by rw[Nat.mod_eq_of_lt has,Nat.mod_eq_of_lt (show b<18446744073709551616 by omega),nv_lit oM]))))
theorem nSubB (a b:Nat)(hla:(wds a).length≤1000000000)(hlb:(wds b).length≤1000000000)(hab:b≤a)(has:18446744073709551616≤a)(hb0:0<b)(w:World)(h:Hp)(g:G w h) :
    Calls Tryz.prog 116 #[nv a,nv b] w (Ret w h fun v _=>v=.tuple #[nv (a-b),.bool true]):=by
 have hs:=SS.start g
 have hcl:=cmpN_ge hab
 have hlm:=wds_len_mono hab
 refine go Tryz.func116 [(0,nv a),(1,nv b)] rfl ?_
 refine cSL (lA 2 36 (nc a) hs (fun b1 w2 h3 hs=>?_))
 refine lA 3 36 (nc b) hs (fun b4 w5 h6 hs=>?_)
 refine lA 4 36 ([.int .u64 0,.string ⟨#[]⟩]) hs (fun b7 w8 h9 hs=>?_)
 refine lL hs [.v 5 (.bool false)] (lN (CG.seq (cSL (lL hs [.o 11 (nv a) 2 0 2,.o 12 (nv b) 1 0 2] (lC 13 hs (nCmp a b hla hlb _ _ hs.g) ?_)))))
 rintro _ w10 h11 hs rfl
 have ⟨hb12,phb12⟩:=dF (p:=(cmpN a b:Int)<(0:Int)) oM
 refine lB 14 hb12 ?_
 refine lN (cIF (CG.skipN (CG.seq (cSL (lL hs [.v 16 (.pointer (some ⟨b1,1,none⟩)),.o 17 (.string (hi a)) 2 1 1] (lV 18 (.bool false) ?_ (hr:=rb kR (strN (hi_ne has)))))))))
 refine lN (cIF (CG.skipN (CG.seq ?_)))
 obtain ⟨K_,hK_⟩:∃ K_,K_=w10.heap.size:=⟨_,rfl⟩
 have hk_b7:b7<K_:=by rw[hK_];exact zblk hs 0
 have hk_b4:b4<K_:=by rw[hK_];exact zblk hs 1
 have hk_b1:b1<K_:=by rw[hK_];exact zblk hs 2
 refine cRa ⟨[],some (K_,[])⟩ 0 mixed ?_
 have hszK:=hs.g.size
 replace hs:=hs.drew
 have hKl:=Nat.le_of_eq hK_
 refine zO 0 25 [(2,0,2)] (nv a) rfl hKl hs (fun p hp=>by obtain rfl:=List.mem_singleton.1 hp;exact hk_b1) ?_
 refine zO 2 27 [(1,0,2)] (nv b) rfl hKl hs (fun p hp=>by obtain rfl:=List.mem_singleton.1 hp;exact hk_b4) ?_
 refine zCu 1 26 (nWords a oM oM _ _ hs.g) rfl hKl ?_
 rintro _ w13 h14 u15 hKl ⟨bw1,rfl,hlo1,hbc1,hsl1⟩
 obtain ⟨h16,hs,-,-⟩:=hs.take u15 hlo1 hbc1
 replace hs:=hs.to [⟨bw1,22,(wds a).flatMap u64c⟩,⟨b7,36,[.int .u64 0,.string ⟨#[]⟩]⟩,⟨b4,36,nc b⟩,⟨b1,36,nc a⟩] []
 refine zCu 3 28 (nWords b oM oM _ _ hs.g) rfl hKl ?_
 rintro _ w17 h18 u19 hKl ⟨bw2,rfl,hlo2,hbc2,hsl2⟩
 obtain ⟨h20,hs,-,-⟩:=hs.take u19 hlo2 hbc2
 replace hs:=hs.to [⟨bw2,22,(wds b).flatMap u64c⟩,⟨bw1,22,(wds a).flatMap u64c⟩,⟨b7,36,[.int .u64 0,.string ⟨#[]⟩]⟩,⟨b4,36,nc b⟩,⟨b1,36,nc a⟩] []
 refine zV 4 6 (.slice (some ⟨bw1,0,none⟩) ((wds a).length) ((wds a).length)) ?_
 refine zV 5 7 (.slice (some ⟨bw2,0,none⟩) ((wds b).length) ((wds b).length)) ?_
 refine tNS ?_
 refine lL hs [.v 8 (.int .u64 0)] (lN (CG.seq (cSL (lL hs [.m 29 6,.v 30 (.int .i64 ((wds a).length:Nat)),.v 31 (.int .i64 0)] (lN (CG.block (cTo [(4,.pointer (some ⟨b7,0,none⟩)),(5,.bool false),(6,.slice (some ⟨bw1,0,none⟩) ((wds a).length) ((wds a).length)),(7,.slice (some ⟨bw2,0,none⟩) ((wds b).length) ((wds b).length)),(30,.int .i64 ((wds a).length:Nat)),(31,.int .i64 0),(8,.int .u64 0)] ?_)))))))
 refine CG.loop (fun μ_ Γ w_=>∃ (i:Nat) (l:List Nat) (bo:Nat) (h_:Hp),μ_=(wds a).length-i∧Γ=[(4,.pointer (some ⟨b7,0,none⟩)),(5,.bool false),(6,.slice (some ⟨bw1,0,none⟩) ((wds a).length) ((wds a).length)),(7,.slice (some ⟨bw2,0,none⟩) ((wds b).length) ((wds b).length)),(30,.int .i64 ((wds a).length:Nat)),(31,.int .i64 (i:Nat)),(8,.int .u64 (bo:Nat))]∧SS w h w_ h_ [⟨bw2,22,(wds b).flatMap u64c⟩,⟨bw1,22,(l).flatMap u64c⟩,⟨b7,36,[.int .u64 0,.string ⟨#[]⟩]⟩,⟨b4,36,nc b⟩,⟨b1,36,nc a⟩] [] []∧(i≤(wds a).length)∧(l.length=(wds a).length)∧(Wd l)∧(bo≤1)∧(bval 18446744073709551616 l+bval 18446744073709551616 ((wds b:List Nat).take i)=a+18446744073709551616^i*bo)) _ ⟨0,wds a,0,h20,rfl,rfl,hs.to _ _,Nat.zero_le _,rfl,Wd.wds _,oM,(by have hx_:bval 18446744073709551616 (wds a)=a:=wval_wds _;rw[hx_];simp[bval])⟩ ?_
 rintro _ _ w21 ⟨i,l,bo,h22,hm23,rfl,hs,hi,hll,hW,hbo,inv⟩
 have hlk:=hW.get i
 have hyk:=(Wd.wds b).get i
 refine cSL ?_
 cases hb24:(decide (((i:Nat):Int)<(((wds a).length:Nat):Int)))
 ·
  have phb24:=oF hb24
  refine lB 32 hb24 ?_
  refine lN (CG.seq (cIF (CG.exit ?_)))
  show CG _ _ _ _ _ _ _ _
  refine cSL ?_
  rw[List.take_of_length_le (show (wds b).length≤i by first|omega|(simp;done)|(simp;omega)),show i=l.length by omega] at inv
  have hE:wval l=a-b:=sub_end hW (by have hb_:bval 18446744073709551616 (wds b)=b:=wval_wds b;rw[←hb_];exact inv) oM hbo
  obtain ⟨h25,hs,sg26,lo27,bc28⟩:=hs.pub 1
  replace hs:=(hs.to [⟨bw2,22,(wds b).flatMap u64c⟩,⟨b7,36,[.int .u64 0,.string ⟨#[]⟩]⟩,⟨b4,36,nc b⟩,⟨b1,36,nc a⟩] []).a_SlO (SlO.of_flat (sz:=1) (f:=u64c) (d:=0) (b:=bw1) (o:=0) (l:=l) (fun _=>rfl) sg26)
  refine lL hs [.m 56 6] (lC 57 hs (nFromE (some ⟨bw1,0,none⟩) ((wds a).length) (l) ((wds a).length) ((a-b)) (by first|rfl|assumption|(simp;done)|(simp;omega)|omega) (hW) (hE) sM sM _ _ hs.g (hs.f.1)) ?_)
  rintro _ w30 h31 hs rfl
  refine lP 1 0 (nc (a-b)) hs (fun w32 hs=>?_)
  exact lL hs [.v 5 (.bool true)] (lN (CG.ret (hs.ret [(1,0,2)] (.tuple #[nv (a-b),.bool true]) rfl)))
 have phb24:=oT hb24
 refine lB 32 hb24 ?_
 refine lN (CG.seq (cIT (CG.skipN (CG.seq (CG.block (cSL (lL hs [.m 33 31,.m 9 33] (lNS (lL hs [.v 10 (.int .u64 0)] (lN (CG.seq (cSL (lL hs [.m 34 9,.m 35 7,.v 36 (.int .i64 ((wds b).length:Nat))] ?_)))))))))))))
 cases hb33:(decide (((i:Nat):Int)<(((wds b).length:Nat):Int)))
 ·
  have phb33:=oF hb33
  refine lB 37 hb33 ?_
  refine lN (cIF (CG.skipN (CG.listed (lL hs [.m 43 6,.m 44 9,.m 45 6,.m 46 9] (lX 47 (some ⟨bw1,0,none⟩) ((wds a).length) ((wds a).length) 1 (i:Nat) i rfl ?_)))))
  refine lQ 48 1 l u64c 1 0 i (.int .u64 ((l).getD i 0:Nat)) hs oM ?_
  refine lL hs [.m 49 10,.m 50 8] ?_
  obtain ⟨s34,c35,he36,hl37,hm38,hr39⟩:=bSub64 ((l).getD i 0) 0 bo wM wM oM
  refine lV 51 (.tuple #[.int .u64 (s34:Nat),.int .u64 (c35:Nat)]) ?_ (hr:=opExt kR (hr39 _))
  refine lL hs [.m 42 51,.v 52 (.int .u64 (s34:Nat)),.v 53 (.int .u64 (c35:Nat))] (lX 54 (some ⟨bw1,0,none⟩) ((wds a).length) ((wds a).length) 1 (i:Nat) i rfl ?_)
  refine lW 1 l u64c 1 i s34 hs oM (fun w40 hs=>?_)
  have hl41:((l).set i s34).length=(wds a).length:=by rw[List.length_set];exact hll
  replace hs:=hs.to [⟨bw2,22,(wds b).flatMap u64c⟩,⟨bw1,22,((l).set i s34).flatMap u64c⟩,⟨b7,36,[.int .u64 0,.string ⟨#[]⟩]⟩,⟨b4,36,nc b⟩,⟨b1,36,nc a⟩] []
  refine lL hs [.m 8 53] (lN (CG.listed (lIn 55 ((i:Nat)+1) (i+1) ?_)))
  refine lL hs [.m 31 55] (lD ?_)
  intro a_ ka
  have q42:(i+1)≤(wds a).length:=by omega
  have q43:((l).set i s34).length=(wds a).length:=hl41
  have q44:Wd ((l).set i s34):=(hW.set _ oM)
  have q45:c35≤1:=oM
  have q46:bval 18446744073709551616 ((l).set i s34)+bval 18446744073709551616 ((wds b:List Nat).take (i+1))=a+18446744073709551616^(i+1)*c35:=(sub_step oM inv (by first|omega|(have hy0:=getD_out (l:=(wds b:List Nat)) (k:=i) (by first|omega|(simp;done));omega)))
  refine ⟨_,_,?_,⟨i+1,(l).set i s34,c35,h22,rfl,rfl,hs.to _ _,q42,q43,q44,q45,q46⟩,ka.to [(4,.pointer (some ⟨b7,0,none⟩)),(5,.bool false),(6,.slice (some ⟨bw1,0,none⟩) ((wds a).length) ((wds a).length)),(7,.slice (some ⟨bw2,0,none⟩) ((wds b).length) ((wds b).length)),(30,.int .i64 ((wds a).length:Nat)),(31,.int .i64 ((i+1):Nat)),(8,.int .u64 (c35:Nat))] kR⟩
  omega
 have phb33:=oT hb33
 refine lB 37 hb33 ?_
 refine lN (cIT (CG.listed (lL hs [.m 38 7,.m 39 9] (lX 40 (some ⟨bw2,0,none⟩) ((wds b).length) ((wds b).length) 1 (i:Nat) i rfl ?_))))
 refine lQ 41 0 (wds b) u64c 1 0 i (.int .u64 ((wds b).getD i 0:Nat)) hs oM ?_
 refine lL hs [.m 10 41] (lN (CG.listed (lL hs [.m 43 6,.m 44 9,.m 45 6,.m 46 9] (lX 47 (some ⟨bw1,0,none⟩) ((wds a).length) ((wds a).length) 1 (i:Nat) i rfl ?_))))
 refine lQ 48 1 l u64c 1 0 i (.int .u64 ((l).getD i 0:Nat)) hs oM ?_
 refine lL hs [.m 49 10,.m 50 8] ?_
 obtain ⟨s47,c48,he49,hl50,hm51,hr52⟩:=bSub64 ((l).getD i 0) ((wds b).getD i 0) bo wM wM oM
 refine lV 51 (.tuple #[.int .u64 (s47:Nat),.int .u64 (c48:Nat)]) ?_ (hr:=opExt kR (hr52 _))
 refine lL hs [.m 42 51,.v 52 (.int .u64 (s47:Nat)),.v 53 (.int .u64 (c48:Nat))] (lX 54 (some ⟨bw1,0,none⟩) ((wds a).length) ((wds a).length) 1 (i:Nat) i rfl ?_)
 refine lW 1 l u64c 1 i s47 hs oM (fun w53 hs=>?_)
 have hl54:((l).set i s47).length=(wds a).length:=by rw[List.length_set];exact hll
 replace hs:=hs.to [⟨bw2,22,(wds b).flatMap u64c⟩,⟨bw1,22,((l).set i s47).flatMap u64c⟩,⟨b7,36,[.int .u64 0,.string ⟨#[]⟩]⟩,⟨b4,36,nc b⟩,⟨b1,36,nc a⟩] []
 refine lL hs [.m 8 53] (lN (CG.listed (lIn 55 ((i:Nat)+1) (i+1) ?_)))
 refine lL hs [.m 31 55] (lD ?_)
 intro a_ ka
 have q55:(i+1)≤(wds a).length:=by omega
 have q56:((l).set i s47).length=(wds a).length:=hl54
 have q57:Wd ((l).set i s47):=(hW.set _ oM)
 have q58:c48≤1:=oM
 have q59:bval 18446744073709551616 ((l).set i s47)+bval 18446744073709551616 ((wds b:List Nat).take (i+1))=a+18446744073709551616^(i+1)*c48:=(sub_step oM inv (by first|omega|(have hy0:=getD_out (l:=(wds b:List Nat)) (k:=i) (by first|omega|(simp;done));omega)))
 refine ⟨_,_,?_,⟨i+1,(l).set i s47,c48,h22,rfl,rfl,hs.to _ _,q55,q56,q57,q58,q59⟩,ka.to [(4,.pointer (some ⟨b7,0,none⟩)),(5,.bool false),(6,.slice (some ⟨bw1,0,none⟩) ((wds a).length) ((wds a).length)),(7,.slice (some ⟨bw2,0,none⟩) ((wds b).length) ((wds b).length)),(30,.int .i64 ((wds a).length:Nat)),(31,.int .i64 ((i+1):Nat)),(8,.int .u64 (c48:Nat))] kR⟩
 omega
theorem nSubZ (a:Nat)(hla:(wds a).length≤1000000000)(has:18446744073709551616≤a)(w:World)(h:Hp)(g:G w h) :
    Calls Tryz.prog 116 #[nv a,nv 0] w (Ret w h fun v _=>v=.tuple #[nv a,.bool true]):=by
 have hs:=SS.start g
 have hcl:=cmpN_ge (show 0≤a by omega)
 refine go Tryz.func116 [(0,nv a),(1,nv 0)] rfl ?_
 refine cSL (lA 2 36 (nc a) hs (fun b1 w2 h3 hs=>?_))
 refine lA 3 36 (nc 0) hs (fun b4 w5 h6 hs=>?_)
 refine lA 4 36 ([.int .u64 0,.string ⟨#[]⟩]) hs (fun b7 w8 h9 hs=>?_)
 refine lL hs [.v 5 (.bool false)] (lN (CG.seq (cSL (lL hs [.o 11 (nv a) 2 0 2,.o 12 (nv 0) 1 0 2] (lC 13 hs (nCmp a 0 hla (by simp[wds_zero]) _ _ hs.g) ?_)))))
 rintro _ w10 h11 hs rfl
 have ⟨hb12,phb12⟩:=dF (p:=(cmpN a 0:Int)<(0:Int)) oM
 refine lB 14 hb12 ?_
 refine lN (cIF (CG.skipN (CG.seq (cSL (lL hs [.v 16 (.pointer (some ⟨b1,1,none⟩)),.o 17 (.string (hi a)) 2 1 1] (lV 18 (.bool false) ?_ (hr:=rb kR (strN (hi_ne has)))))))))
 refine lN (cIF (CG.skipN (CG.seq ?_)))
 obtain ⟨K_,hK_⟩:∃ K_,K_=w10.heap.size:=⟨_,rfl⟩
 have hk_b7:b7<K_:=by rw[hK_];exact zblk hs 0
 have hk_b4:b4<K_:=by rw[hK_];exact zblk hs 1
 have hk_b1:b1<K_:=by rw[hK_];exact zblk hs 2
 refine cRa ⟨[],some (K_,[])⟩ 0 mixed ?_
 have hszK:=hs.g.size
 replace hs:=hs.drew
 have hKl:=Nat.le_of_eq hK_
 refine zO 0 25 [(2,0,2)] (nv a) rfl hKl hs (fun p hp=>by obtain rfl:=List.mem_singleton.1 hp;exact hk_b1) ?_
 refine zO 2 27 [(1,0,2)] (nv 0) rfl hKl hs (fun p hp=>by obtain rfl:=List.mem_singleton.1 hp;exact hk_b4) ?_
 refine zCu 1 26 (nWords a oM oM _ _ hs.g) rfl hKl ?_
 rintro _ w13 h14 u15 hKl ⟨bw1,rfl,hlo1,hbc1,hsl1⟩
 obtain ⟨h16,hs,-,-⟩:=hs.take u15 hlo1 hbc1
 replace hs:=hs.to [⟨bw1,22,(wds a).flatMap u64c⟩,⟨b7,36,[.int .u64 0,.string ⟨#[]⟩]⟩,⟨b4,36,nc 0⟩,⟨b1,36,nc a⟩] []
 refine zCu 3 28 (nWords0 _ _ hs.g) rfl hKl ?_
 rintro _ w17 h18 u19 hKl rfl
 replace hs:=hs.step u19
 refine zV 4 6 (.slice (some ⟨bw1,0,none⟩) ((wds a).length) ((wds a).length)) ?_
 refine zV 5 7 (.slice none 0 0) ?_
 refine tNS ?_
 refine lL hs [.v 8 (.int .u64 0)] (lN (CG.seq (cSL (lL hs [.m 29 6,.v 30 (.int .i64 ((wds a).length:Nat)),.v 31 (.int .i64 0)] (lN (CG.block (cTo [(4,.pointer (some ⟨b7,0,none⟩)),(5,.bool false),(6,.slice (some ⟨bw1,0,none⟩) ((wds a).length) ((wds a).length)),(7,.slice none 0 0),(30,.int .i64 ((wds a).length:Nat)),(31,.int .i64 0),(8,.int .u64 0)] ?_)))))))
 refine CG.loop (fun μ_ Γ w_=>∃ (i:Nat) (l:List Nat) (bo:Nat) (h_:Hp),μ_=(wds a).length-i∧Γ=[(4,.pointer (some ⟨b7,0,none⟩)),(5,.bool false),(6,.slice (some ⟨bw1,0,none⟩) ((wds a).length) ((wds a).length)),(7,.slice none 0 0),(30,.int .i64 ((wds a).length:Nat)),(31,.int .i64 (i:Nat)),(8,.int .u64 (bo:Nat))]∧SS w h w_ h_ [⟨bw1,22,(l).flatMap u64c⟩,⟨b7,36,[.int .u64 0,.string ⟨#[]⟩]⟩,⟨b4,36,nc 0⟩,⟨b1,36,nc a⟩] [] []∧(i≤(wds a).length)∧(l.length=(wds a).length)∧(Wd l)∧(bo≤1)∧(bval 18446744073709551616 l+bval 18446744073709551616 (([]:List Nat).take i)=a+18446744073709551616^i*bo)) _ ⟨0,wds a,0,h18,rfl,rfl,hs.to _ _,Nat.zero_le _,rfl,Wd.wds _,oM,(by have hx_:bval 18446744073709551616 (wds a)=a:=wval_wds _;rw[hx_];simp[bval])⟩ ?_
 rintro _ _ w20 ⟨i,l,bo,h21,hm22,rfl,hs,hi,hll,hW,hbo,inv⟩
 have hlk:=hW.get i
 have hyk:=Wd.get (l:=[]) Dg.nil i
 refine cSL ?_
 cases hb23:(decide (((i:Nat):Int)<(((wds a).length:Nat):Int)))
 ·
  have phb23:=oF hb23
  refine lB 32 hb23 ?_
  refine lN (CG.seq (cIF (CG.exit ?_)))
  show CG _ _ _ _ _ _ _ _
  refine cSL ?_
  rw[List.take_nil,show i=l.length by omega] at inv
  have hE:wval l=a:=sub_end (b:=0) hW inv oM hbo
  obtain ⟨h24,hs,sg25,lo26,bc27⟩:=hs.pub 0
  replace hs:=(hs.to [⟨b7,36,[.int .u64 0,.string ⟨#[]⟩]⟩,⟨b4,36,nc 0⟩,⟨b1,36,nc a⟩] []).a_SlO (SlO.of_flat (sz:=1) (f:=u64c) (d:=0) (b:=bw1) (o:=0) (l:=l) (fun _=>rfl) sg25)
  refine lL hs [.m 56 6] (lC 57 hs (nFromE (some ⟨bw1,0,none⟩) ((wds a).length) (l) ((wds a).length) (a) (by first|rfl|assumption|(simp;done)|(simp;omega)|omega) (hW) (hE) sM sM _ _ hs.g (hs.f.1)) ?_)
  rintro _ w29 h30 hs rfl
  refine lP 0 0 (nc a) hs (fun w31 hs=>?_)
  exact lL hs [.v 5 (.bool true)] (lN (CG.ret (hs.ret [(0,0,2)] (.tuple #[nv a,.bool true]) rfl)))
 have phb23:=oT hb23
 refine lB 32 hb23 ?_
 refine lN (CG.seq (cIT (CG.skipN (CG.seq (CG.block (cSL (lL hs [.m 33 31,.m 9 33] (lNS (lL hs [.v 10 (.int .u64 0)] (lN (CG.seq (cSL (lL hs [.m 34 9,.m 35 7,.v 36 (.int .i64 0)] ?_)))))))))))))
 have ⟨hb32,phb32⟩:=dF (p:=((i:Nat):Int)<(0:Int)) oM
 refine lB 37 hb32 ?_
 refine lN (cIF (CG.skipN (CG.listed (lL hs [.m 43 6,.m 44 9,.m 45 6,.m 46 9] (lX 47 (some ⟨bw1,0,none⟩) ((wds a).length) ((wds a).length) 1 (i:Nat) i rfl ?_)))))
 refine lQ 48 0 l u64c 1 0 i (.int .u64 ((l).getD i 0:Nat)) hs oM ?_
 refine lL hs [.m 49 10,.m 50 8] ?_
 obtain ⟨s33,c34,he35,hl36,hm37,hr38⟩:=bSub64 ((l).getD i 0) 0 bo wM wM oM
 refine lV 51 (.tuple #[.int .u64 (s33:Nat),.int .u64 (c34:Nat)]) ?_ (hr:=opExt kR (hr38 _))
 refine lL hs [.m 42 51,.v 52 (.int .u64 (s33:Nat)),.v 53 (.int .u64 (c34:Nat))] (lX 54 (some ⟨bw1,0,none⟩) ((wds a).length) ((wds a).length) 1 (i:Nat) i rfl ?_)
 refine lW 0 l u64c 1 i s33 hs oM (fun w39 hs=>?_)
 have hl40:((l).set i s33).length=(wds a).length:=by rw[List.length_set];exact hll
 replace hs:=hs.to [⟨bw1,22,((l).set i s33).flatMap u64c⟩,⟨b7,36,[.int .u64 0,.string ⟨#[]⟩]⟩,⟨b4,36,nc 0⟩,⟨b1,36,nc a⟩] []
 refine lL hs [.m 8 53] (lN (CG.listed (lIn 55 ((i:Nat)+1) (i+1) ?_)))
 refine lL hs [.m 31 55] (lD ?_)
 intro a_ ka
 have q41:(i+1)≤(wds a).length:=by omega
 have q42:((l).set i s33).length=(wds a).length:=hl40
 have q43:Wd ((l).set i s33):=(hW.set _ oM)
 have q44:c34≤1:=oM
 have q45:bval 18446744073709551616 ((l).set i s33)+bval 18446744073709551616 (([]:List Nat).take (i+1))=a+18446744073709551616^(i+1)*c34:=(sub_step oM inv (by first|omega|(have hy0:=getD_out (l:=([]:List Nat)) (k:=i) (by first|omega|(simp;done));omega)))
 refine ⟨_,_,?_,⟨i+1,(l).set i s33,c34,h21,rfl,rfl,hs.to _ _,q41,q42,q43,q44,q45⟩,ka.to [(4,.pointer (some ⟨b7,0,none⟩)),(5,.bool false),(6,.slice (some ⟨bw1,0,none⟩) ((wds a).length) ((wds a).length)),(7,.slice none 0 0),(30,.int .i64 ((wds a).length:Nat)),(31,.int .i64 ((i+1):Nat)),(8,.int .u64 (c34:Nat))] kR⟩
 omega
theorem nSub (a b:Nat)(hab:b≤a)(hla:(wds a).length≤1000000000)(hlb:(wds b).length≤1000000000)(w:World)(h:Hp)(g:G w h):Calls Tryz.prog 116 #[nv a,nv b] w (Ret w h fun v _=>v=.tuple #[nv (a-b),.bool true]):=by
  rcases Nat.lt_or_ge a 18446744073709551616 with h1|h1
  · exact nSubS a b hla hlb hab h1 w h g
  · rcases Nat.eq_zero_or_pos b with h3|h3
    · subst h3;exact nSubZ a hla h1 w h g
    · exact nSubB a b hla hlb hab h1 h3 w h g
theorem nMulS (a b:Nat)(hla:(wds a).length≤1000000000)(hlb:(wds b).length≤1000000000)(has:a<18446744073709551616)(hbs:b<18446744073709551616)(w:World)(h:Hp)(g:G w h) :
    Calls Tryz.prog 94 #[nv a,nv b] w (Ret w h fun v _=>v=nv (a*b)):=by
 have hs:=SS.start g
 have ham:=Nat.mod_eq_of_lt has
 have hbm:=Nat.mod_eq_of_lt hbs
 refine go Tryz.func94 [(0,nv a),(1,nv b)] rfl ?_
 refine cSL (lA 2 36 (nc a) hs (fun b1 w2 h3 hs=>?_))
 refine lA 3 36 (nc b) hs (fun b4 w5 h6 hs=>?_)
 refine lA 4 36 ([.int .u64 0,.string ⟨#[]⟩]) hs (fun b7 w8 h9 hs=>?_)
 refine lN (CG.seq (cSL (lL hs [.v 7 (.pointer (some ⟨b1,1,none⟩)),.o 8 (.string (hi a)) 2 1 1] (lV 9 (.bool true) ?_ (hr:=rb kR (strE (hi_nil has)))))))
 refine lL hs [.m 10 9,.v 11 (.pointer (some ⟨b4,1,none⟩)),.o 12 (.string (hi b)) 1 1 1] (lV 13 (.bool true) ?_ (hr:=rb kR (strE (hi_nil hbs))))
 refine lL hs [.v 14 (.bool true)] (lN (cIT (cSL (lL hs [.v 16 (.pointer (some ⟨b1,0,none⟩)),.o 17 (.int .u64 (a%18446744073709551616:Nat)) 2 0 1,.v 18 (.pointer (some ⟨b4,0,none⟩)),.o 19 (.int .u64 (b%18446744073709551616:Nat)) 1 0 1] (lC 20 hs (bMul64 (a%18446744073709551616) (b%18446744073709551616) wM wM _ _ hs.g) ?_)))))
 rintro _ w16 h17 hs ⟨s10,c11,rfl,he12,hl13,hm14,hn15⟩
 have hxhe12:=mul64_le (a:=(a%18446744073709551616)) (b:=(b%18446744073709551616)) wM wM
 refine lL hs [.m 15 20,.v 21 (.int .u64 (s10:Nat)),.v 22 (.int .u64 (c11:Nat)),.m 5 21,.m 6 22] (lN (CG.seq (cSL ?_)))
 rw[ham,hbm] at he12
 refine lL hs [.m 23 5] ?_
 cases hb18:(((s10:Nat):Int) == (0:Int))
 ·
  have phb18:=neOfBeq hb18
  refine lB 24 hb18 ?_
  refine lN (cIF (CG.skipN (cSL (lL hs [.m 27 6,.m 28 5] (lR 29 22 2 ([.int .u64 (c11:Nat),.int .u64 (s10:Nat)]) hs (fun b19 w20 h21 hs=>?_))))))
  replace hs:=hs.a_SlO (SlO.of_flat (sz:=1) (f:=u64c) (d:=0) (l:=[c11,s10]) (fun _=>rfl) (hs.f.1))
  refine lC 30 hs (nFromE (some ⟨b19,0,none⟩) 2 ([c11,s10]) 2 ((a*b)) (by first|rfl|assumption|(simp;done)|(simp;omega)|omega) (Dg.cons oM (Dg.one oM)) (by show c11+18446744073709551616*(s10+18446744073709551616*0)=a*b;omega) sM sM _ _ hs.g (hs.f.1)) ?_
  rintro _ w24 h25 hs rfl
  refine lP 0 0 (nc (a*b)) hs (fun w26 hs=>?_)
  exact lN (CG.ret (hs.ret [(0,0,2)] (nv (a*b)) rfl))
 have phb18:=eq_of_beq hb18
 refine lB 24 hb18 ?_
 refine lN (cIT (cSL (lL hs [.m 25 6,.v 26 (.agg #[.int .u64 (c11:Nat),.string ⟨#[]⟩])] (lP 0 0 ([.int .u64 (c11:Nat),.string ⟨#[]⟩]) hs (fun w27 hs=>?_)))))
 exact lN (CG.ret (hs.ret [(0,0,2)] (.agg #[.int .u64 (c11:Nat),.string ⟨#[]⟩]) (by rw[show c11=a*b by omega];exact nv_lit oM)))
theorem nMulL (a b:Nat)(hla:(wds a).length≤1000000000)(hlb:(wds b).length≤1000000000)(has:18446744073709551616≤a)(w:World)(h:Hp)(g:G w h) :
    Calls Tryz.prog 94 #[nv a,nv b] w (Ret w h fun v _=>v=nv (a*b)):=by
 have hs:=SS.start g
 refine go Tryz.func94 [(0,nv a),(1,nv b)] rfl ?_
 refine cSL (lA 2 36 (nc a) hs (fun b1 w2 h3 hs=>?_))
 refine lA 3 36 (nc b) hs (fun b4 w5 h6 hs=>?_)
 refine lA 4 36 ([.int .u64 0,.string ⟨#[]⟩]) hs (fun b7 w8 h9 hs=>?_)
 refine lN (CG.seq (cSL (lL hs [.v 7 (.pointer (some ⟨b1,1,none⟩)),.o 8 (.string (hi a)) 2 1 1] (lV 9 (.bool false) ?_ (hr:=rb kR (strN (hi_ne has)))))))
 refine lL hs [.m 10 9] (lG 11 ?_)
 refine lG 12 ?_
 refine lG 13 ?_
 refine lL hs [.v 14 (.bool false)] (lN (cIF (CG.skipN (CG.seq (cR 6 [] mixed hs al_nil ?_)))))
 refine eO 0 31 [(2,0,2)] (nv a) hs ?_
 refine eO 2 33 [(1,0,2)] (nv b) hs ?_
 refine eC 1 32 hs (fun _ _ hs=>nWordsG a oM _ _ hs.g) ?_
 rintro _ _ _ w10 h11 hs ⟨Aw1,cw1,rfl,hcw1,hw1⟩
 replace hs:=(hs.a_SlO hw1)
 refine eC 3 34 hs (fun _ _ hs=>nWordsG b oM _ _ hs.g) ?_
 rintro _ _ _ w12 h13 hs ⟨Aw2,cw2,rfl,hcw2,hw2⟩
 replace hs:=(hs.a_SlO hw2)
 refine eC 4 35 hs (fun _ _ hs=>nMulW Aw1 cw1 (wds a) Aw2 cw2 (wds b) (Wd.wds a) (Wd.wds b) oM oM _ _ hs.g (hs.f.2.1) (hs.f.1)) ?_
 rintro _ _ _ w14 h15 hs ⟨Am,cm,zm,rfl,hcm,hlm,hWm,hVm,hm⟩
 replace hs:=(hs.a_SlO hm)
 refine eC 5 36 hs (fun _ _ hs=>nFromE Am cm (zm) zm.length ((a*b)) (by first|rfl|assumption|(simp;done)|(simp;omega)|omega) (hWm) (hVm.trans (by rw[wval_wds,wval_wds])) sM sM _ _ hs.g (hs.f.1)) ?_
 rintro _ _ _ w16 h17 hs rfl
 refine eD0 hs (fun w18 h19 hs=>?_)
 refine tP 6 0 0 (nc (a*b)) hs (fun w20 hs=>?_)
 exact tN (CG.ret (hs.ret [(0,0,2)] (nv (a*b)) rfl))
theorem nMulR (a b:Nat)(hla:(wds a).length≤1000000000)(hlb:(wds b).length≤1000000000)(has:a<18446744073709551616)(hbs:18446744073709551616≤b)(w:World)(h:Hp)(g:G w h) :
    Calls Tryz.prog 94 #[nv a,nv b] w (Ret w h fun v _=>v=nv (a*b)):=by
 have hs:=SS.start g
 refine go Tryz.func94 [(0,nv a),(1,nv b)] rfl ?_
 refine cSL (lA 2 36 (nc a) hs (fun b1 w2 h3 hs=>?_))
 refine lA 3 36 (nc b) hs (fun b4 w5 h6 hs=>?_)
 refine lA 4 36 ([.int .u64 0,.string ⟨#[]⟩]) hs (fun b7 w8 h9 hs=>?_)
 refine lN (CG.seq (cSL (lL hs [.v 7 (.pointer (some ⟨b1,1,none⟩)),.o 8 (.string (hi a)) 2 1 1] (lV 9 (.bool true) ?_ (hr:=rb kR (strE (hi_nil has)))))))
 refine lL hs [.m 10 9,.v 11 (.pointer (some ⟨b4,1,none⟩)),.o 12 (.string (hi b)) 1 1 1] (lV 13 (.bool false) ?_ (hr:=rb kR (strN (hi_ne hbs))))
 refine lL hs [.v 14 (.bool false)] (lN (cIF (CG.skipN (CG.seq (cR 6 [] mixed hs al_nil ?_)))))
 refine eO 0 31 [(2,0,2)] (nv a) hs ?_
 refine eO 2 33 [(1,0,2)] (nv b) hs ?_
 refine eC 1 32 hs (fun _ _ hs=>nWordsG a oM _ _ hs.g) ?_
 rintro _ _ _ w10 h11 hs ⟨Aw1,cw1,rfl,hcw1,hw1⟩
 replace hs:=(hs.a_SlO hw1)
 refine eC 3 34 hs (fun _ _ hs=>nWordsG b oM _ _ hs.g) ?_
 rintro _ _ _ w12 h13 hs ⟨Aw2,cw2,rfl,hcw2,hw2⟩
 replace hs:=(hs.a_SlO hw2)
 refine eC 4 35 hs (fun _ _ hs=>nMulW Aw1 cw1 (wds a) Aw2 cw2 (wds b) (Wd.wds a) (Wd.wds b) oM oM _ _ hs.g (hs.f.2.1) (hs.f.1)) ?_
 rintro _ _ _ w14 h15 hs ⟨Am,cm,zm,rfl,hcm,hlm,hWm,hVm,hm⟩
 replace hs:=(hs.a_SlO hm)
 refine eC 5 36 hs (fun _ _ hs=>nFromE Am cm (zm) zm.length ((a*b)) (by first|rfl|assumption|(simp;done)|(simp;omega)|omega) (hWm) (hVm.trans (by rw[wval_wds,wval_wds])) sM sM _ _ hs.g (hs.f.1)) ?_
 rintro _ _ _ w16 h17 hs rfl
 refine eD0 hs (fun w18 h19 hs=>?_)
 refine tP 6 0 0 (nc (a*b)) hs (fun w20 hs=>?_)
 exact tN (CG.ret (hs.ret [(0,0,2)] (nv (a*b)) rfl))
theorem nMul (a b:Nat)(hla:(wds a).length≤1000000000)(hlb:(wds b).length≤1000000000)(w:World)(h:Hp)(g:G w h):Calls Tryz.prog 94 #[nv a,nv b] w (Ret w h fun v _=>v=nv (a*b)):=by
  rcases Nat.lt_or_ge a 18446744073709551616 with h1|h1
  · rcases Nat.lt_or_ge b 18446744073709551616 with h2|h2
    · exact nMulS a b hla hlb h1 h2 w h g
    · exact nMulR a b hla hlb h1 h2 w h g
  · exact nMulL a b hla hlb h1 w h g
theorem nDivS (a b:Nat)(hb:0<b)(hla:(wds a).length≤1000000000)(hlb:(wds b).length≤1000000000)(has:a<18446744073709551616)(hbs:b<18446744073709551616)(w:World)(h:Hp)(g:G w h) :
    Calls Tryz.prog 117 #[nv a,nv b] w (Ret w h fun v _=>v=.tuple #[nv (a/b),nv (a%b),.bool true]):=by
 have hs:=SS.start g
 have hnb0:=(nb_spec hb).2.2
 have hbm0:=Nat.mod_eq_of_lt hbs
 refine go Tryz.func117 [(0,nv a),(1,nv b)] rfl ?_
 refine cSL (lA 2 36 (nc a) hs (fun b1 w2 h3 hs=>?_))
 refine lA 3 36 (nc b) hs (fun b4 w5 h6 hs=>?_)
 refine lA 4 36 ([.int .u64 0,.string ⟨#[]⟩]) hs (fun b7 w8 h9 hs=>?_)
 refine lA 5 36 ([.int .u64 0,.string ⟨#[]⟩]) hs (fun b10 w11 h12 hs=>?_)
 refine lL hs [.v 6 (.bool false)] (lN (CG.seq (cSL (lL hs [.o 11 (nv b) 2 0 2] (lC 12 hs (nBits b hlb _ _ hs.g) ?_)))))
 rintro _ w13 h14 hs rfl
 have hb15:(((nb b:Nat):Int) == (0:Int))=false:=beqF oM
 have phb15:=neOfBeq hb15
 refine lB 13 hb15 ?_
 refine lN (cIF (CG.skipN (CG.seq (cSL (lL hs [.v 16 (.pointer (some ⟨b1,1,none⟩)),.o 17 (.string (hi a)) 3 1 1] (lV 18 (.bool true) ?_ (hr:=rb kR (strE (hi_nil has)))))))))
 refine lL hs [.m 19 18,.v 20 (.pointer (some ⟨b4,1,none⟩)),.o 21 (.string (hi b)) 2 1 1] (lV 22 (.bool true) ?_ (hr:=rb kR (strE (hi_nil hbs))))
 refine lL hs [.v 23 (.bool true)] (lN (cIT (CG.seq ?_)))
 have hsr:=hs
 refine cRz 12 [] [b7,b10] mixed hs al_nil ?_
 refine eV 0 24 (.pointer (some ⟨b1,0,none⟩)) ?_
 refine eO 1 25 [(3,0,1)] (.int .u64 (a%18446744073709551616:Nat)) hs ?_
 refine eV 2 26 (.pointer (some ⟨b4,0,none⟩)) ?_
 refine eO 3 27 [(2,0,1)] (.int .u64 (b%18446744073709551616:Nat)) hs ?_
 refine eV 4 28 (.int .u64 ((a%18446744073709551616)/(b%18446744073709551616):Nat)) ?_ (hv:=fun _=>rint (opQuo (t:=22) (u:=22) (x:=.tmp 25) (y:=.tmp 27) (k:=.u64) (a:=((a%18446744073709551616:Nat):Int)) (b:=((b%18446744073709551616:Nat):Int)) kR kR kR oM _) (quoU64 (a%18446744073709551616) (b%18446744073709551616) oM))
 refine eV 5 29 (.agg #[.int .u64 ((a%18446744073709551616)/(b%18446744073709551616):Nat),.string ⟨#[]⟩]) ?_
 refine eV 6 30 (.pointer (some ⟨b1,0,none⟩)) ?_
 refine eOz 7 31 [(3,0,1)] (.int .u64 (a%18446744073709551616:Nat)) hsr hs ?_ (hM:=fun p hp=>by obtain rfl:=List.mem_singleton.1 hp;exact fun hm=>by rcases List.mem_cons.1 hm with e|hm;exact bx_ne hs.st (i:=3) (j:=1) kR kR kR e;rcases List.mem_cons.1 hm with e|hm;exact bx_ne hs.st (i:=3) (j:=0) kR kR kR e;cases hm)
 refine eV 8 32 (.pointer (some ⟨b4,0,none⟩)) ?_
 refine eOz 9 33 [(2,0,1)] (.int .u64 (b%18446744073709551616:Nat)) hsr hs ?_ (hM:=fun p hp=>by obtain rfl:=List.mem_singleton.1 hp;exact fun hm=>by rcases List.mem_cons.1 hm with e|hm;exact bx_ne hs.st (i:=2) (j:=1) kR kR kR e;rcases List.mem_cons.1 hm with e|hm;exact bx_ne hs.st (i:=2) (j:=0) kR kR kR e;cases hm)
 refine eV 10 34 (.int .u64 ((a%18446744073709551616)%(b%18446744073709551616):Nat)) ?_ (hv:=fun _=>rint (opRem (t:=22) (u:=22) (x:=.tmp 31) (y:=.tmp 33) (k:=.u64) (a:=((a%18446744073709551616:Nat):Int)) (b:=((b%18446744073709551616:Nat):Int)) kR kR kR oM _) (tmodNat (a%18446744073709551616) (b%18446744073709551616)))
 refine eV 11 35 (.agg #[.int .u64 ((a%18446744073709551616)%(b%18446744073709551616):Nat),.string ⟨#[]⟩]) ?_
 refine eD0 hs (fun w16 h17 hs=>?_)
 refine tP 12 1 0 ([.int .u64 ((a%18446744073709551616)/(b%18446744073709551616):Nat),.string ⟨#[]⟩]) hs (fun w18 hs=>?_) (hz:=tlz_mem (List.mem_cons_self))
 refine tP 13 0 0 ([.int .u64 ((a%18446744073709551616)%(b%18446744073709551616):Nat),.string ⟨#[]⟩]) hs (fun w19 hs=>?_) (hz:=tlz_mem (List.mem_cons_of_mem _<|List.mem_cons_self))
 refine tV 14 6 (.bool true) ?_
 exact tN (CG.ret (hs.ret [(1,0,2),(0,0,2)] (.tuple #[.agg #[.int .u64 ((a%18446744073709551616)/(b%18446744073709551616):Nat),.string ⟨#[]⟩],.agg #[.int .u64 ((a%18446744073709551616)%(b%18446744073709551616):Nat),.string ⟨#[]⟩],.bool true]) (by rw[Nat.mod_eq_of_lt has,Nat.mod_eq_of_lt hbs,nv_lit (show a/b<18446744073709551616 by have:=Nat.div_le_self a b;omega),nv_lit (show a%b<18446744073709551616 by have:=Nat.mod_lt a hb;omega)])))
theorem nDivM (a b:Nat)(hb:0<b)(hla:(wds a).length≤1000000000)(hlb:(wds b).length≤1000000000)(has:18446744073709551616≤a)(hbs:b<18446744073709551616)(w:World)(h:Hp)(g:G w h) :
    Calls Tryz.prog 117 #[nv a,nv b] w (Ret w h fun v _=>v=.tuple #[nv (a/b),nv (a%b),.bool true]):=by
 have hs:=SS.start g
 have hnb0:=(nb_spec hb).2.2
 have hbm0:=Nat.mod_eq_of_lt hbs
 have hcl:=cmpN_ge (show b≤a by omega)
 refine go Tryz.func117 [(0,nv a),(1,nv b)] rfl ?_
 refine cSL (lA 2 36 (nc a) hs (fun b1 w2 h3 hs=>?_))
 refine lA 3 36 (nc b) hs (fun b4 w5 h6 hs=>?_)
 refine lA 4 36 ([.int .u64 0,.string ⟨#[]⟩]) hs (fun b7 w8 h9 hs=>?_)
 refine lA 5 36 ([.int .u64 0,.string ⟨#[]⟩]) hs (fun b10 w11 h12 hs=>?_)
 refine lL hs [.v 6 (.bool false)] (lN (CG.seq (cSL (lL hs [.o 11 (nv b) 2 0 2] (lC 12 hs (nBits b hlb _ _ hs.g) ?_)))))
 rintro _ w13 h14 hs rfl
 have hb15:(((nb b:Nat):Int) == (0:Int))=false:=beqF oM
 have phb15:=neOfBeq hb15
 refine lB 13 hb15 ?_
 refine lN (cIF (CG.skipN (CG.seq (cSL (lL hs [.v 16 (.pointer (some ⟨b1,1,none⟩)),.o 17 (.string (hi a)) 3 1 1] (lV 18 (.bool false) ?_ (hr:=rb kR (strN (hi_ne has)))))))))
 refine lL hs [.m 19 18] (lG 20 ?_)
 refine lG 21 ?_
 refine lG 22 ?_
 refine lL hs [.v 23 (.bool false)] (lN (cIF (CG.skipN (CG.seq (cSL (lL hs [.o 36 (nv a) 3 0 2,.o 37 (nv b) 2 0 2] (lC 38 hs (nCmp a b hla hlb _ _ hs.g) ?_)))))))
 rintro _ w16 h17 hs rfl
 have ⟨hb18,phb18⟩:=dF (p:=(cmpN a b:Int)<(0:Int)) oM
 refine lB 39 hb18 ?_
 refine lN (cIF (CG.skipN (CG.seq (cSL (lL hs [.v 42 (.pointer (some ⟨b4,1,none⟩)),.o 43 (.string (hi b)) 2 1 1] (lV 44 (.bool true) ?_ (hr:=rb kR (strE (hi_nil hbs)))))))))
 refine lN (cIT (CG.seq ?_))
 obtain ⟨K_,hK_⟩:∃ K_,K_=w16.heap.size:=⟨_,rfl⟩
 have hk_b10:b10<K_:=by rw[hK_];exact zblk hs 0
 have hk_b7:b7<K_:=by rw[hK_];exact zblk hs 1
 have hk_b4:b4<K_:=by rw[hK_];exact zblk hs 2
 have hk_b1:b1<K_:=by rw[hK_];exact zblk hs 3
 refine cRa ⟨[],some (K_,[])⟩ 0 mixed ?_
 have hszK:=hs.g.size
 replace hs:=hs.drew
 have hKl:=Nat.le_of_eq hK_
 refine zO 0 46 [(3,0,2)] (nv a) rfl hKl hs (fun p hp=>by obtain rfl:=List.mem_singleton.1 hp;exact hk_b1) ?_
 refine zV 2 48 (.pointer (some ⟨b4,0,none⟩)) ?_
 refine zO 3 49 [(2,0,1)] (.int .u64 (b%18446744073709551616:Nat)) rfl hKl hs (fun p hp=>by obtain rfl:=List.mem_singleton.1 hp;exact hk_b4) ?_
 refine zCu 1 47 (nWords a oM oM _ _ hs.g) rfl hKl ?_
 rintro _ w19 h20 u21 hKl ⟨bw1,rfl,hlo1,hbc1,hsl1⟩
 obtain ⟨h22,hs,-,-⟩:=hs.take u21 hlo1 hbc1
 replace hs:=hs.to [⟨bw1,22,(wds a).flatMap u64c⟩,⟨b10,36,[.int .u64 0,.string ⟨#[]⟩]⟩,⟨b7,36,[.int .u64 0,.string ⟨#[]⟩]⟩,⟨b4,36,nc b⟩,⟨b1,36,nc a⟩] []
 refine zCm 4 50 (nDivW bw1 (wds a) (wds a).length (b%18446744073709551616) oM oM (Wd.wds a) hla (Nat.le_refl _) _ _ hs.g (hs.own 0) (hs.jk 0)) rfl hKl oM ?_
 rintro _ w23 h24 u25 hKl ⟨z,r,rfl,hzl,hWz,hVz,hrb,hOz⟩
 replace hs:=(hs.stepM 0 u25 hOz).to [⟨bw1,22,(z).flatMap u64c⟩,⟨b10,36,[.int .u64 0,.string ⟨#[]⟩]⟩,⟨b7,36,[.int .u64 0,.string ⟨#[]⟩]⟩,⟨b4,36,nc b⟩,⟨b1,36,nc a⟩] []
 refine zV 5 45 (.tuple #[.slice (some ⟨bw1,0,none⟩) (tl z z.length) ((wds a).length),.int .u64 (r:Nat)]) ?_
 refine zV 6 51 (.slice (some ⟨bw1,0,none⟩) (tl z z.length) ((wds a).length)) ?_
 refine zV 7 52 (.int .u64 (r:Nat)) ?_
 refine zV 8 7 (.slice (some ⟨bw1,0,none⟩) (tl z z.length) ((wds a).length)) ?_
 refine zV 9 8 (.int .u64 (r:Nat)) ?_
 refine tNS ?_
 have hbm:=Nat.mod_eq_of_lt hbs
 rw[wval_wds,hbm] at hVz
 rw[hbm] at hrb
 obtain ⟨hq1,hq2⟩:=quo_rem hVz hrb
 have htz:=tl_le z z.length
 have hQ:wval (z.take (tl z z.length))=a/b:=by have e:=bval_tl 18446744073709551616 z z.length (Nat.le_refl _);rw[List.take_length] at e;exact e.trans hq1
 obtain ⟨h26,hs,sg27,lo28,bc29⟩:=hs.pub 0
 replace hs:=(hs.to [⟨b10,36,[.int .u64 0,.string ⟨#[]⟩]⟩,⟨b7,36,[.int .u64 0,.string ⟨#[]⟩]⟩,⟨b4,36,nc b⟩,⟨b1,36,nc a⟩] []).a_SlO (SlO.of_flat (sz:=1) (f:=u64c) (d:=0) (b:=bw1) (o:=0) (l:=z) (fun _=>rfl) sg27)
 refine lL hs [.m 53 7] (lC 54 hs (nFromE (some ⟨bw1,0,none⟩) ((wds a).length) (z.take (tl z z.length)) (tl z z.length) ((a/b)) (by first|rfl|assumption|(simp;done)|(simp;omega)|omega) (Dg.take hWz _) (hQ) sM sM _ _ hs.g ((hs.f.1).take _)) ?_)
 rintro _ w31 h32 hs rfl
 refine lL hs [.m 55 8,.v 56 (.agg #[.int .u64 (r:Nat),.string ⟨#[]⟩])] (lP 1 0 (nc (a/b)) hs (fun w33 hs=>?_))
 refine lP 0 0 ([.int .u64 (r:Nat),.string ⟨#[]⟩]) hs (fun w34 hs=>?_)
 exact lL hs [.v 6 (.bool true)] (lN (CG.ret (hs.ret [(1,0,2),(0,0,2)] (.tuple #[nv (a/b),.agg #[.int .u64 (r:Nat),.string ⟨#[]⟩],.bool true]) (by rw[hq2,nv_lit (by have:=Nat.mod_lt a hb;omega)]))))
theorem nDivL (a b:Nat)(hb:0<b)(hla:(wds a).length≤1000000000)(hlb:(wds b).length≤1000000000)(hab:b≤a)(has:18446744073709551616≤a)(hbs:18446744073709551616≤b)(w:World)(h:Hp)(g:G w h) :
    Calls Tryz.prog 117 #[nv a,nv b] w (Ret w h fun v _=>v=.tuple #[nv (a/b),nv (a%b),.bool true]):=by
 have hs:=SS.start g
 have hnb0:=(nb_spec hb).2.2
 have hcl:=cmpN_ge hab
 have hlm:=wds_len_mono hab
 have hl2:=wds_len_big hbs
 refine go Tryz.func117 [(0,nv a),(1,nv b)] rfl ?_
 refine cSL (lA 2 36 (nc a) hs (fun b1 w2 h3 hs=>?_))
 refine lA 3 36 (nc b) hs (fun b4 w5 h6 hs=>?_)
 refine lA 4 36 ([.int .u64 0,.string ⟨#[]⟩]) hs (fun b7 w8 h9 hs=>?_)
 refine lA 5 36 ([.int .u64 0,.string ⟨#[]⟩]) hs (fun b10 w11 h12 hs=>?_)
 refine lL hs [.v 6 (.bool false)] (lN (CG.seq (cSL (lL hs [.o 11 (nv b) 2 0 2] (lC 12 hs (nBits b hlb _ _ hs.g) ?_)))))
 rintro _ w13 h14 hs rfl
 have hb15:(((nb b:Nat):Int) == (0:Int))=false:=beqF oM
 have phb15:=neOfBeq hb15
 refine lB 13 hb15 ?_
 refine lN (cIF (CG.skipN (CG.seq (cSL (lL hs [.v 16 (.pointer (some ⟨b1,1,none⟩)),.o 17 (.string (hi a)) 3 1 1] (lV 18 (.bool false) ?_ (hr:=rb kR (strN (hi_ne has)))))))))
 refine lL hs [.m 19 18] (lG 20 ?_)
 refine lG 21 ?_
 refine lG 22 ?_
 refine lL hs [.v 23 (.bool false)] (lN (cIF (CG.skipN (CG.seq (cSL (lL hs [.o 36 (nv a) 3 0 2,.o 37 (nv b) 2 0 2] (lC 38 hs (nCmp a b hla hlb _ _ hs.g) ?_)))))))
 rintro _ w16 h17 hs rfl
 have ⟨hb18,phb18⟩:=dF (p:=(cmpN a b:Int)<(0:Int)) oM
 refine lB 39 hb18 ?_
 refine lN (cIF (CG.skipN (CG.seq (cSL (lL hs [.v 42 (.pointer (some ⟨b4,1,none⟩)),.o 43 (.string (hi b)) 2 1 1] (lV 44 (.bool false) ?_ (hr:=rb kR (strN (hi_ne hbs)))))))))
 refine lN (cIF (CG.skipN (CG.seq (cR 8 [] mixed hs al_nil ?_))))
 refine eO 0 58 [(3,0,2)] (nv a) hs ?_
 refine eO 2 60 [(2,0,2)] (nv b) hs ?_
 refine eC 1 59 hs (fun _ _ hs=>nWordsG a oM _ _ hs.g) ?_
 rintro _ _ _ w19 h20 hs ⟨Aw1,cw1,rfl,hcw1,hw1⟩
 replace hs:=(hs.a_SlO hw1)
 refine eC 3 61 hs (fun _ _ hs=>nWordsG b oM _ _ hs.g) ?_
 rintro _ _ _ w21 h22 hs ⟨Aw2,cw2,rfl,hcw2,hw2⟩
 replace hs:=(hs.a_SlO hw2)
 refine eC 4 62 hs (fun _ _ hs=>nDivWs Aw1 cw1 (wds a) Aw2 cw2 (wds b) (Wd.wds a) (Wd.wds b) hla oM oM (wds_last hb) _ _ hs.g (hs.f.2.1) (hs.f.1)) ?_
 rintro _ _ _ w23 h24 hs ⟨Aq,cq,q,Ar,cr,r,rfl,hcq,hcr,hWq,hWr,hVq,hVr,hlq,hlr,hFq,hFr⟩
 replace hs:=((hs.a_SlO hFq).a_SlO hFr)
 refine eV 5 57 (.tuple #[.slice Aq q.length cq,.slice Ar r.length cr]) ?_
 refine eV 6 63 (.slice Aq q.length cq) ?_
 refine eV 7 64 (.slice Ar r.length cr) ?_
 refine eD0 hs (fun w25 h26 hs=>?_)
 refine tV 8 9 (.slice Aq q.length cq) ?_
 refine tV 9 10 (.slice Ar r.length cr) ?_
 refine tNS ?_
 refine lL hs [.m 65 9] (lC 66 hs (nFromE Aq cq (q) q.length ((a/b)) (by first|rfl|assumption|(simp;done)|(simp;omega)|omega) (hWq) (hVq.trans (by rw[wval_wds,wval_wds])) sM sM _ _ hs.g (hs.f.2.1)) ?_)
 rintro _ w27 h28 hs rfl
 refine lL hs [.m 67 10] (lC 68 hs (nFromE Ar cr (r) r.length ((a%b)) (by first|rfl|assumption|(simp;done)|(simp;omega)|omega) (hWr) (hVr.trans (by rw[wval_wds,wval_wds])) sM sM _ _ hs.g (hs.f.1)) ?_)
 rintro _ w29 h30 hs rfl
 refine lP 1 0 (nc (a/b)) hs (fun w31 hs=>?_)
 refine lP 0 0 (nc (a%b)) hs (fun w32 hs=>?_)
 exact lL hs [.v 6 (.bool true)] (lN (CG.ret (hs.ret [(1,0,2),(0,0,2)] (.tuple #[nv (a/b),nv (a%b),.bool true]) rfl)))
theorem nDivN (a b:Nat)(hb:0<b)(hla:(wds a).length≤1000000000)(hlb:(wds b).length≤1000000000)(hab:a<b)(has:a<18446744073709551616)(hbs:18446744073709551616≤b)(w:World)(h:Hp)(g:G w h) :
    Calls Tryz.prog 117 #[nv a,nv b] w (Ret w h fun v _=>v=.tuple #[nv (a/b),nv (a%b),.bool true]):=by
 have hs:=SS.start g
 have hnb0:=(nb_spec hb).2.2
 have hcl:=cmpN_lt hab
 refine go Tryz.func117 [(0,nv a),(1,nv b)] rfl ?_
 refine cSL (lA 2 36 (nc a) hs (fun b1 w2 h3 hs=>?_))
 refine lA 3 36 (nc b) hs (fun b4 w5 h6 hs=>?_)
 refine lA 4 36 ([.int .u64 0,.string ⟨#[]⟩]) hs (fun b7 w8 h9 hs=>?_)
 refine lA 5 36 ([.int .u64 0,.string ⟨#[]⟩]) hs (fun b10 w11 h12 hs=>?_)
 refine lL hs [.v 6 (.bool false)] (lN (CG.seq (cSL (lL hs [.o 11 (nv b) 2 0 2] (lC 12 hs (nBits b hlb _ _ hs.g) ?_)))))
 rintro _ w13 h14 hs rfl
 have hb15:(((nb b:Nat):Int) == (0:Int))=false:=beqF oM
 have phb15:=neOfBeq hb15
 refine lB 13 hb15 ?_
 refine lN (cIF (CG.skipN (CG.seq (cSL (lL hs [.v 16 (.pointer (some ⟨b1,1,none⟩)),.o 17 (.string (hi a)) 3 1 1] (lV 18 (.bool true) ?_ (hr:=rb kR (strE (hi_nil has)))))))))
 refine lL hs [.m 19 18,.v 20 (.pointer (some ⟨b4,1,none⟩)),.o 21 (.string (hi b)) 2 1 1] (lV 22 (.bool false) ?_ (hr:=rb kR (strN (hi_ne hbs))))
 refine lL hs [.v 23 (.bool false)] (lN (cIF (CG.skipN (CG.seq (cSL (lL hs [.o 36 (nv a) 3 0 2,.o 37 (nv b) 2 0 2] (lC 38 hs (nCmp a b hla hlb _ _ hs.g) ?_)))))))
 rintro _ w16 h17 hs rfl
 have ⟨hb18,phb18⟩:=dT (p:=(cmpN a b:Int)<(0:Int)) oM
 refine lB 39 hb18 ?_
 refine lN (cIT (CG.seq ?_))
 have hsr:=hs
 refine cRz 2 [] [b7,b10] mixed hs al_nil ?_
 refine eV 0 40 (.agg #[.int .u64 0,.string ⟨#[]⟩]) ?_
 refine eOz 1 41 [(3,0,2)] (nv a) hsr hs ?_ (hM:=fun p hp=>by obtain rfl:=List.mem_singleton.1 hp;exact fun hm=>by rcases List.mem_cons.1 hm with e|hm;exact bx_ne hs.st (i:=3) (j:=1) kR kR kR e;rcases List.mem_cons.1 hm with e|hm;exact bx_ne hs.st (i:=3) (j:=0) kR kR kR e;cases hm)
 refine eD0 hs (fun w19 h20 hs=>?_)
 refine tP 2 1 0 ([.int .u64 0,.string ⟨#[]⟩]) hs (fun w21 hs=>?_) (hz:=tlz_mem (List.mem_cons_self))
 refine tP 3 0 0 (nc a) hs (fun w22 hs=>?_) (hz:=tlz_mem (List.mem_cons_of_mem _<|List.mem_cons_self))
 refine tV 4 6 (.bool true) ?_
 exact tN (CG.ret (hs.ret [(1,0,2),(0,0,2)] (.tuple #[.agg #[.int .u64 0,.string ⟨#[]⟩],nv a,.bool true]) (by have hab:a<b:=(by rcases Nat.lt_or_ge a b with h_|h_;exact h_;rcases cmpN_ge h_ with e|e<;>omega);rw[Nat.div_eq_of_lt hab,Nat.mod_eq_of_lt hab];rfl)))
theorem nDivO (a b:Nat)(hb:0<b)(hla:(wds a).length≤1000000000)(hlb:(wds b).length≤1000000000)(hab:a<b)(has:18446744073709551616≤a)(w:World)(h:Hp)(g:G w h) :
    Calls Tryz.prog 117 #[nv a,nv b] w (Ret w h fun v _=>v=.tuple #[nv (a/b),nv (a%b),.bool true]):=by
 have hs:=SS.start g
 have hnb0:=(nb_spec hb).2.2
 have hcl:=cmpN_lt hab
 refine go Tryz.func117 [(0,nv a),(1,nv b)] rfl ?_
 refine cSL (lA 2 36 (nc a) hs (fun b1 w2 h3 hs=>?_))
 refine lA 3 36 (nc b) hs (fun b4 w5 h6 hs=>?_)
 refine lA 4 36 ([.int .u64 0,.string ⟨#[]⟩]) hs (fun b7 w8 h9 hs=>?_)
 refine lA 5 36 ([.int .u64 0,.string ⟨#[]⟩]) hs (fun b10 w11 h12 hs=>?_)
 refine lL hs [.v 6 (.bool false)] (lN (CG.seq (cSL (lL hs [.o 11 (nv b) 2 0 2] (lC 12 hs (nBits b hlb _ _ hs.g) ?_)))))
 rintro _ w13 h14 hs rfl
 have hb15:(((nb b:Nat):Int) == (0:Int))=false:=beqF oM
 have phb15:=neOfBeq hb15
 refine lB 13 hb15 ?_
 refine lN (cIF (CG.skipN (CG.seq (cSL (lL hs [.v 16 (.pointer (some ⟨b1,1,none⟩)),.o 17 (.string (hi a)) 3 1 1] (lV 18 (.bool false) ?_ (hr:=rb kR (strN (hi_ne has)))))))))
 refine lL hs [.m 19 18] (lG 20 ?_)
 refine lG 21 ?_
 refine lG 22 ?_
 refine lL hs [.v 23 (.bool false)] (lN (cIF (CG.skipN (CG.seq (cSL (lL hs [.o 36 (nv a) 3 0 2,.o 37 (nv b) 2 0 2] (lC 38 hs (nCmp a b hla hlb _ _ hs.g) ?_)))))))
 rintro _ w16 h17 hs rfl
 have ⟨hb18,phb18⟩:=dT (p:=(cmpN a b:Int)<(0:Int)) oM
 refine lB 39 hb18 ?_
 refine lN (cIT (CG.seq ?_))
 have hsr:=hs
 refine cRz 2 [] [b7,b10] mixed hs al_nil ?_
 refine eV 0 40 (.agg #[.int .u64 0,.string ⟨#[]⟩]) ?_
 refine eOz 1 41 [(3,0,2)] (nv a) hsr hs ?_ (hM:=fun p hp=>by obtain rfl:=List.mem_singleton.1 hp;exact fun hm=>by rcases List.mem_cons.1 hm with e|hm;exact bx_ne hs.st (i:=3) (j:=1) kR kR kR e;rcases List.mem_cons.1 hm with e|hm;exact bx_ne hs.st (i:=3) (j:=0) kR kR kR e;cases hm)
 refine eD0 hs (fun w19 h20 hs=>?_)
 refine tP 2 1 0 ([.int .u64 0,.string ⟨#[]⟩]) hs (fun w21 hs=>?_) (hz:=tlz_mem (List.mem_cons_self))
 refine tP 3 0 0 (nc a) hs (fun w22 hs=>?_) (hz:=tlz_mem (List.mem_cons_of_mem _<|List.mem_cons_self))
 refine tV 4 6 (.bool true) ?_
 exact tN (CG.ret (hs.ret [(1,0,2),(0,0,2)] (.tuple #[.agg #[.int .u64 0,.string ⟨#[]⟩],nv a,.bool true]) (by have hab:a<b:=(by rcases Nat.lt_or_ge a b with h_|h_;exact h_;rcases cmpN_ge h_ with e|e<;>omega);rw[Nat.div_eq_of_lt hab,Nat.mod_eq_of_lt hab];rfl)))
theorem nDiv (a b:Nat)(hb:0<b)(hla:(wds a).length≤1000000000)(hlb:(wds b).length≤1000000000)(w:World)(h:Hp)(g:G w h):Calls Tryz.prog 117 #[nv a,nv b] w (Ret w h fun v _=>v=.tuple #[nv (a/b),nv (a%b),.bool true]):=by
  rcases Nat.lt_or_ge a b with hab|hab
  · rcases Nat.lt_or_ge a 18446744073709551616 with h1|h1
    · rcases Nat.lt_or_ge b 18446744073709551616 with h2|h2
      · exact nDivS a b hb hla hlb h1 h2 w h g
      · exact nDivN a b hb hla hlb hab h1 h2 w h g
    · exact nDivO a b hb hla hlb hab h1 w h g
  · rcases Nat.lt_or_ge b 18446744073709551616 with h2|h2
    · rcases Nat.lt_or_ge a 18446744073709551616 with h1|h1
      · exact nDivS a b hb hla hlb h1 h2 w h g
      · exact nDivM a b hb hla hlb h1 h2 w h g
    · exact nDivL a b hb hla hlb hab oM h2 w h g
theorem iv_lit {z:Int}{b:Bool}{n:Nat}(hb:ineg z=b)(hn:iabs z=n):Value.agg #[.bool b,.int .u64 (lo n),.string (hi n)]=iv z:=by subst hb hn;rfl
theorem iv_sg {z:Int}{b:Bool}(hb:ineg z=b):iv z=Value.agg #[.bool b,.int .u64 (lo (iabs z)),.string (hi (iabs z))]:=(iv_lit hb rfl).symm
theorem mul_sg (x y:Int):sgn (ineg x != ineg y) (iabs x*iabs y)=x*y:=by
  rcases hx:ineg x with _|_<;>rcases hy:ineg y with _|_
  · have h1:=ineg_false hx
    have h2:=ineg_false hy
    obtain ⟨a,rfl⟩:=Int.eq_ofNat_of_zero_le h1
    obtain ⟨b,rfl⟩:=Int.eq_ofNat_of_zero_le h2
    simp[sgn,iabs,Int.mul_neg,Int.neg_mul,Int.neg_neg]
  · have h1:=ineg_false hx
    have h2:=ineg_true hy
    obtain ⟨a,rfl⟩:=Int.eq_ofNat_of_zero_le h1
    obtain ⟨b,hb⟩:=Int.eq_ofNat_of_zero_le (a:=-y) oM
    obtain rfl:y = -b:=by omega
    simp[sgn,iabs,Int.mul_neg,Int.neg_mul,Int.neg_neg]
  · have h1:=ineg_true hx
    have h2:=ineg_false hy
    obtain ⟨b,rfl⟩:=Int.eq_ofNat_of_zero_le h2
    obtain ⟨a,ha⟩:=Int.eq_ofNat_of_zero_le (a:=-x) oM
    obtain rfl:x = -a:=by omega
    simp[sgn,iabs,Int.mul_neg,Int.neg_mul,Int.neg_neg]
  · have h1:=ineg_true hx
    have h2:=ineg_true hy
    obtain ⟨a,ha⟩:=Int.eq_ofNat_of_zero_le (a:=-x) oM
    obtain ⟨b,hb⟩:=Int.eq_ofNat_of_zero_le (a:=-y) oM
    obtain rfl:x = -a:=by omega
    obtain rfl:y = -b:=by omega
    simp[sgn,iabs,Int.mul_neg,Int.neg_mul,Int.neg_neg]
theorem wds_len_add {a b:Nat}:(wds (a+b)).length≤(wds a).length+(wds b).length+1:=by
  refine dig_len_le kD ?_
  have h1:=wds_lt_pow a
  have h2:=wds_lt_pow b
  have h3:18446744073709551616^(wds a).length≤18446744073709551616^((wds a).length+(wds b).length):=Nat.pow_le_pow_right kD oM
  have h4:18446744073709551616^(wds b).length≤18446744073709551616^((wds a).length+(wds b).length):=Nat.pow_le_pow_right kD oM
  rw[Nat.pow_succ]
  omega
theorem wds_len_max {a b k:Nat}(ha:(wds a).length≤k)(hb:(wds b).length≤k):(wds (a+b)).length≤k+1:=by
  refine dig_len_le kD ?_
  have h1:=wds_lt_pow a
  have h2:=wds_lt_pow b
  have h3:18446744073709551616^(wds a).length≤18446744073709551616^k:=Nat.pow_le_pow_right kD ha
  have h4:18446744073709551616^(wds b).length≤18446744073709551616^k:=Nat.pow_le_pow_right kD hb
  rw[Nat.pow_succ]
  omega
theorem wds_len_mul {a b:Nat}:(wds (a*b)).length≤(wds a).length+(wds b).length:=by
  refine dig_len_le kD ?_
  rw[Nat.pow_add]
  have h1:=wds_lt_pow a
  have h2:=wds_lt_pow b
  exact Nat.lt_of_lt_of_le (Nat.mul_lt_mul'' h1 h2) (Nat.le_refl _)
theorem wds_len_le {a b k:Nat}(h:a≤b)(hb:(wds b).length≤k):(wds a).length≤k:=Nat.le_trans (wds_len_mono h) hb
theorem wFromF (a:Nat)(w:World)(h:Hp)(g:G w h) :
    Calls Tryz.prog 50 #[.bool false,nv a] w (Ret w h fun v _=>v=iv (sgn false a)):=by
 have hs:=SS.start g
 refine go Tryz.func50 [(0,.bool false),(1,nv a)] rfl ?_
 refine cSL (lA 3 36 (nc a) hs (fun b1 w2 h3 hs=>?_))
 refine lA 4 38 ([.bool false,.int .u64 0,.string ⟨#[]⟩]) hs (fun b4 w5 h6 hs=>?_)
 refine lN (CG.seq (cR 8 [] mixed hs al_nil ?_))
 refine eV 0 5 (.bool false) ?_
 refine eV 1 6 (.bool false) ?_
 refine eG 2 7 ?_
 refine eG 3 8 ?_
 refine eG 4 9 ?_
 refine eV 5 10 (.bool false) ?_
 refine eO 6 11 [(1,0,2)] (nv a) hs ?_
 refine eV 7 12 (.agg #[.bool false,.int .u64 (lo a),.string (hi a)]) ?_
 refine eD0 hs (fun w7 h8 hs=>?_)
 refine tP 8 0 0 ([.bool false,.int .u64 (lo a),.string (hi a)]) hs (fun w9 hs=>?_)
 exact tN (CG.ret (hs.ret [(0,0,3)] (.agg #[.bool false,.int .u64 (lo a),.string (hi a)]) (iv_lit (by rw[ineg_sgn];rfl) (iabs_sgn _ _))))
theorem wFromZ (hl:(wds 0).length≤1000000000)(w:World)(h:Hp)(g:G w h) :
    Calls Tryz.prog 50 #[.bool true,nv 0] w (Ret w h fun v _=>v=iv (sgn true 0)):=by
 have hs:=SS.start g
 have hn0:nb 0=0:=rfl
 refine go Tryz.func50 [(0,.bool true),(1,nv 0)] rfl ?_
 refine cSL (lA 3 36 (nc 0) hs (fun b1 w2 h3 hs=>?_))
 refine lA 4 38 ([.bool false,.int .u64 0,.string ⟨#[]⟩]) hs (fun b4 w5 h6 hs=>?_)
 refine lN (CG.seq (cR 8 [] mixed hs al_nil ?_))
 refine eV 0 5 (.bool true) ?_
 refine eV 1 6 (.bool true) ?_
 refine eO 2 7 [(1,0,2)] (nv 0) hs ?_
 refine eO 6 11 [(1,0,2)] (nv 0) hs ?_
 refine eC 3 8 hs (fun _ _ hs=>nBits 0 aM _ _ hs.g) ?_
 rintro _ _ _ w7 h8 hs rfl
 refine eV 4 9 (.bool false) ?_ (hv:=fun _=>rb (e:=decide ((0:Int)<((nb 0:Nat):Int))) kR (decide_eq_false oM))
 refine eV 5 10 (.bool false) ?_
 refine eV 7 12 (.agg #[.bool false,.int .u64 (lo 0),.string (hi 0)]) ?_
 refine eD0 hs (fun w9 h10 hs=>?_)
 refine tP 8 0 0 ([.bool false,.int .u64 (lo 0),.string (hi 0)]) hs (fun w11 hs=>?_)
 exact tN (CG.ret (hs.ret [(0,0,3)] (.agg #[.bool false,.int .u64 (lo 0),.string (hi 0)]) (iv_lit (by rw[ineg_sgn];rfl) (iabs_sgn _ _))))
theorem wFromT (a:Nat)(ha:0<a)(hl:(wds a).length≤1000000000)(w:World)(h:Hp)(g:G w h) :
    Calls Tryz.prog 50 #[.bool true,nv a] w (Ret w h fun v _=>v=iv (sgn true a)):=by
 have hs:=SS.start g
 have hn0:=(nb_spec ha).2.2
 refine go Tryz.func50 [(0,.bool true),(1,nv a)] rfl ?_
 refine cSL (lA 3 36 (nc a) hs (fun b1 w2 h3 hs=>?_))
 refine lA 4 38 ([.bool false,.int .u64 0,.string ⟨#[]⟩]) hs (fun b4 w5 h6 hs=>?_)
 refine lN (CG.seq (cR 8 [] mixed hs al_nil ?_))
 refine eV 0 5 (.bool true) ?_
 refine eV 1 6 (.bool true) ?_
 refine eO 2 7 [(1,0,2)] (nv a) hs ?_
 refine eO 6 11 [(1,0,2)] (nv a) hs ?_
 refine eC 3 8 hs (fun _ _ hs=>nBits a aM _ _ hs.g) ?_
 rintro _ _ _ w7 h8 hs rfl
 refine eV 4 9 (.bool true) ?_ (hv:=fun _=>rb (e:=decide ((0:Int)<((nb a:Nat):Int))) kR (decide_eq_true oM))
 refine eV 5 10 (.bool true) ?_
 refine eV 7 12 (.agg #[.bool true,.int .u64 (lo a),.string (hi a)]) ?_
 refine eD0 hs (fun w9 h10 hs=>?_)
 refine tP 8 0 0 ([.bool true,.int .u64 (lo a),.string (hi a)]) hs (fun w11 hs=>?_)
 exact tN (CG.ret (hs.ret [(0,0,3)] (.agg #[.bool true,.int .u64 (lo a),.string (hi a)]) (iv_lit (by rw[ineg_sgn];simpa using ha) (iabs_sgn _ _))))
theorem wFrom (b:Bool)(a:Nat)(hl:(wds a).length≤1000000000)(w:World)(h:Hp)(g:G w h):Calls Tryz.prog 50 #[.bool b,nv a] w (Ret w h fun v _=>v=iv (sgn b a)):=by
  cases b
  · exact wFromF a w h g
  · rcases Nat.eq_zero_or_pos a with h0|h0
    · subst h0;exact wFromZ hl w h g
    · exact wFromT a h0 hl w h g
theorem wOfN (z:Int)(h0 : -9223372036854775808≤z)(hz:z<0)(w:World)(h:Hp)(g:G w h) :
    Calls Tryz.prog 47 #[.int .i64 z] w (Ret w h fun v _=>v=iv z):=by
 have hs:=SS.start g
 have hia:iabs z≤9223372036854775808:=by unfold iabs;omega
 refine go Tryz.func47 [(0,.int .i64 z)] rfl ?_
 refine cSL (lA 2 38 ([.bool false,.int .u64 0,.string ⟨#[]⟩]) hs (fun b1 w2 h3 hs=>?_))
 refine lN (CG.seq (cSL (lL hs [.m 3 0] ?_)))
 have ⟨hb4,phb4⟩:=dT (p:=(z:Int)<(0:Int)) oM
 refine lB 4 hb4 ?_
 refine lN (cIT (cSL (lL hs [.m 5 0] (lV 6 (.int .u64 (18446744073709551616-iabs z:Nat)) ?_ (hr:=rint (n:=IntKind.wrap .u64 z) kR (by rw[IntKind.wrap_u64];unfold iabs;omega))))))
 refine lV 7 (.int .u64 (iabs z:Nat)) ?_ (hr:=rint (n:=IntKind.wrap .u64 (0-((18446744073709551616-iabs z:Nat):Int))) kR (by rw[IntKind.wrap_u64];omega))
 refine lC 8 hs (nOf (iabs z) oM _ _ hs.g) ?_
 rintro _ w5 h6 hs rfl
 refine lL hs [.v 9 (.agg #[.bool true,.int .u64 (lo (iabs z)),.string (hi (iabs z))])] (lP 0 0 ([.bool true,.int .u64 (lo (iabs z)),.string (hi (iabs z))]) hs (fun w7 hs=>?_))
 exact lN (CG.ret (hs.ret [(0,0,3)] (.agg #[.bool true,.int .u64 (lo (iabs z)),.string (hi (iabs z))]) (iv_lit (by simp[ineg,hz]) rfl)))
theorem wOfP (n:Nat)(h1:n<9223372036854775808)(w:World)(h:Hp)(g:G w h) :
    Calls Tryz.prog 47 #[.int .i64 (n:Nat)] w (Ret w h fun v _=>v=iv (n:Int)):=by
 have hs:=SS.start g
 refine go Tryz.func47 [(0,.int .i64 (n:Nat))] rfl ?_
 refine cSL (lA 2 38 ([.bool false,.int .u64 0,.string ⟨#[]⟩]) hs (fun b1 w2 h3 hs=>?_))
 refine lN (CG.seq (cSL (lL hs [.m 3 0] ?_)))
 have ⟨hb4,phb4⟩:=dF (p:=((n:Nat):Int)<(0:Int)) oM
 refine lB 4 hb4 ?_
 refine lN (cIF (CG.skipN (cSL (lL hs [.m 10 0] (lV 11 (.int .u64 (n:Nat)) ?_ (hr:=rint (n:=IntKind.wrap .u64 ((n:Nat):Int)) kR (fitU64 oM oM)))))))
 refine lC 12 hs (nOf n oM _ _ hs.g) ?_
 rintro _ w5 h6 hs rfl
 refine lL hs [.v 13 (.agg #[.bool false,.int .u64 (lo n),.string (hi n)])] (lP 0 0 ([.bool false,.int .u64 (lo n),.string (hi n)]) hs (fun w7 hs=>?_))
 exact lN (CG.ret (hs.ret [(0,0,3)] (.agg #[.bool false,.int .u64 (lo n),.string (hi n)]) (iv_lit (by simp[ineg]) (by simp[iabs]))))
theorem wOf (z:Int)(h0 : -9223372036854775808≤z)(h1:z≤9223372036854775807)(w:World)(h:Hp)(g:G w h):Calls Tryz.prog 47 #[.int .i64 z] w (Ret w h fun v _=>v=iv z):=by
  rcases Int.lt_or_le z 0 with hz|hz
  · exact wOfN z h0 hz w h g
  · obtain ⟨n,rfl⟩:=Int.eq_ofNat_of_zero_le hz
    exact wOfP n oM w h g
def cmpI(x y:Int):Int:=if x<y then -1 else if y<x then 1 else 0
theorem cmpI_lt {x y:Int}(h:x<y):cmpI x y = -1:=by simp[cmpI,h]
theorem cmpI_gt {x y:Int}(h:y<x):cmpI x y=1:=by unfold cmpI;rw[if_neg oM,if_pos h]
theorem cmpI_pp {x y:Int}(hx:0≤x)(hy:0≤y):cmpI x y=cmpN (iabs x) (iabs y):=by
  unfold cmpI cmpN iabs
  have e1:(x<y)=(x.natAbs<y.natAbs):=by apply propext;omega
  have e2:(y<x)=(y.natAbs<x.natAbs):=by apply propext;omega
  simp only[e1,e2]
theorem cmpI_nn {x y:Int}(hx:x<0)(hy:y<0):cmpI x y=cmpN (iabs y) (iabs x):=by
  unfold cmpI cmpN iabs
  have e1:(x<y)=(y.natAbs<x.natAbs):=by apply propext;omega
  have e2:(y<x)=(x.natAbs<y.natAbs):=by apply propext;omega
  simp only[e1,e2]
theorem wAbs (z:Int)(w:World)(h:Hp)(g:G w h) :
    Calls Tryz.prog 69 #[iv z] w (Ret w h fun v _=>v=nv (iabs z)):=by
 have hs:=SS.start g
 refine go Tryz.func69 [(0,iv z)] rfl ?_
 refine cSL (lA 1 38 (ic z) hs (fun b1 w2 h3 hs=>?_))
 refine lA 2 36 ([.int .u64 0,.string ⟨#[]⟩]) hs (fun b4 w5 h6 hs=>?_)
 refine lNS (lL hs [.v 3 (.pointer (some ⟨b1,1,none⟩)),.o 4 (nv (iabs z)) 1 1 2] (lP 0 0 (nc (iabs z)) hs (fun w7 hs=>?_)))
 exact lN (CG.ret (hs.ret [(0,0,2)] (nv (iabs z)) rfl))
theorem wSignN (z:Int)(hz:ineg z=true)(w:World)(h:Hp)(g:G w h) :
    Calls Tryz.prog 42 #[.agg #[.bool true,.int .u64 (lo (iabs z)),.string (hi (iabs z))]] w (Ret w h fun v _=>v=.int .i64 z.sign):=by
 have hs:=SS.start g
 refine go Tryz.func42 [(0,.agg #[.bool true,.int .u64 (lo (iabs z)),.string (hi (iabs z))])] rfl ?_
 refine cSL (lA 1 38 ([.bool true,.int .u64 (lo (iabs z)),.string (hi (iabs z))]) hs (fun b1 w2 h3 hs=>?_))
 exact lL hs [.v 2 (.int .i64 0)] (lN (CG.seq (CG.block (cSL (lL hs [.v 4 (.pointer (some ⟨b1,0,none⟩)),.o 5 (.bool true) 0 0 1,.m 3 5] (lN (cIT (cSL (lL hs [.v 2 (.int .i64 (-1))] (lN (CG.ret (hs.ret [] (.int .i64 (-1)) (by rw[Int.sign_eq_neg_one_of_neg (ineg_true hz)])))))))))))))
theorem wSignP (z:Int)(hl:(wds (iabs z)).length≤1000000000)(hz:ineg z=false)(h0:0<iabs z)(w:World)(h:Hp)(g:G w h) :
    Calls Tryz.prog 42 #[.agg #[.bool false,.int .u64 (lo (iabs z)),.string (hi (iabs z))]] w (Ret w h fun v _=>v=.int .i64 z.sign):=by
 have hs:=SS.start g
 have hn0:=(nb_spec h0).2.2
 refine go Tryz.func42 [(0,.agg #[.bool false,.int .u64 (lo (iabs z)),.string (hi (iabs z))])] rfl ?_
 refine cSL (lA 1 38 ([.bool false,.int .u64 (lo (iabs z)),.string (hi (iabs z))]) hs (fun b1 w2 h3 hs=>?_))
 refine lL hs [.v 2 (.int .i64 0)] (lN (CG.seq (CG.block (cSL (lL hs [.v 4 (.pointer (some ⟨b1,0,none⟩)),.o 5 (.bool false) 0 0 1,.m 3 5] (lN (cIF (cSL (lL hs [.v 7 (.pointer (some ⟨b1,1,none⟩)),.o 8 (nv (iabs z)) 0 1 2] (lC 9 hs (nBits (iabs z) aM _ _ hs.g) ?_))))))))))
 rintro _ w4 h5 hs rfl
 have ⟨hb6,phb6⟩:=dT (p:=(0:Int)<((nb (iabs z):Nat):Int)) oM
 refine lB 10 hb6 ?_
 exact lL hs [.m 6 10] (lN (cIT (cSL (lL hs [.v 2 (.int .i64 1)] (lN (CG.ret (hs.ret [] (.int .i64 1) (by rw[Int.sign_eq_one_of_pos (by have:=ineg_false hz;unfold iabs at h0;omega)]))))))))
theorem wSignZ (hl:(wds (iabs 0)).length≤1000000000)(w:World)(h:Hp)(g:G w h) :
    Calls Tryz.prog 42 #[.agg #[.bool false,.int .u64 (lo (iabs 0)),.string (hi (iabs 0))]] w (Ret w h fun v _=>v=.int .i64 0):=by
 have hs:=SS.start g
 have hn0:nb (iabs 0)=0:=rfl
 refine go Tryz.func42 [(0,.agg #[.bool false,.int .u64 (lo (iabs 0)),.string (hi (iabs 0))])] rfl ?_
 refine cSL (lA 1 38 ([.bool false,.int .u64 (lo (iabs 0)),.string (hi (iabs 0))]) hs (fun b1 w2 h3 hs=>?_))
 refine lL hs [.v 2 (.int .i64 0)] (lN (CG.seq (CG.block (cSL (lL hs [.v 4 (.pointer (some ⟨b1,0,none⟩)),.o 5 (.bool false) 0 0 1,.m 3 5] (lN (cIF (cSL (lL hs [.v 7 (.pointer (some ⟨b1,1,none⟩)),.o 8 (nv (iabs 0)) 0 1 2] (lC 9 hs (nBits (iabs 0) aM _ _ hs.g) ?_))))))))))
 rintro _ w4 h5 hs rfl
 have ⟨hb6,phb6⟩:=dF (p:=(0:Int)<((nb (iabs 0):Nat):Int)) oM
 refine lB 10 hb6 ?_
 exact lL hs [.m 6 10] (lN (cIF (CG.skipN (cSL (lL hs [.v 2 (.int .i64 0)] (lN (CG.ret (hs.ret [] (.int .i64 0) rfl))))))))
theorem wSign (z:Int)(hl:(wds (iabs z)).length≤1000000000)(w:World)(h:Hp)(g:G w h):Calls Tryz.prog 42 #[iv z] w (Ret w h fun v _=>v=.int .i64 z.sign):=by
  rcases hz:ineg z with _|_
  · rw[iv_sg hz]
    rcases Nat.eq_zero_or_pos (iabs z) with h0|h0
    · have:z=0:=by unfold iabs at h0;omega
      subst this
      exact wSignZ hl w h g
    · exact wSignP z hl hz h0 w h g
  · rw[iv_sg hz];exact wSignN z hz w h g
theorem wNegF (z:Int)(hl:(wds (iabs z)).length≤1000000000)(hz:ineg z=false)(w:World)(h:Hp)(g:G w h) :
    Calls Tryz.prog 76 #[.agg #[.bool false,.int .u64 (lo (iabs z)),.string (hi (iabs z))]] w (Ret w h fun v _=>v=iv (-z)):=by
 have hs:=SS.start g
 refine go Tryz.func76 [(0,.agg #[.bool false,.int .u64 (lo (iabs z)),.string (hi (iabs z))])] rfl ?_
 refine cSL (lA 1 38 ([.bool false,.int .u64 (lo (iabs z)),.string (hi (iabs z))]) hs (fun b1 w2 h3 hs=>?_))
 refine lA 2 38 ([.bool false,.int .u64 0,.string ⟨#[]⟩]) hs (fun b4 w5 h6 hs=>?_)
 refine lNS (lL hs [.v 3 (.pointer (some ⟨b1,0,none⟩)),.o 4 (.bool false) 1 0 1,.v 5 (.bool true),.v 6 (.pointer (some ⟨b1,1,none⟩)),.o 7 (nv (iabs z)) 1 1 2] (lC 8 hs (wFrom true (iabs z) aM _ _ hs.g) ?_))
 rintro _ w7 h8 hs rfl
 refine lP 0 0 (ic (sgn true (iabs z))) hs (fun w9 hs=>?_)
 exact lN (CG.ret (hs.ret [(0,0,3)] (iv (sgn true (iabs z))) (by have e:=sgn_not z;rw[hz] at e;exact congrArg iv e)))
theorem wNegT (z:Int)(hl:(wds (iabs z)).length≤1000000000)(hz:ineg z=true)(w:World)(h:Hp)(g:G w h) :
    Calls Tryz.prog 76 #[.agg #[.bool true,.int .u64 (lo (iabs z)),.string (hi (iabs z))]] w (Ret w h fun v _=>v=iv (-z)):=by
 have hs:=SS.start g
 refine go Tryz.func76 [(0,.agg #[.bool true,.int .u64 (lo (iabs z)),.string (hi (iabs z))])] rfl ?_
 refine cSL (lA 1 38 ([.bool true,.int .u64 (lo (iabs z)),.string (hi (iabs z))]) hs (fun b1 w2 h3 hs=>?_))
 refine lA 2 38 ([.bool false,.int .u64 0,.string ⟨#[]⟩]) hs (fun b4 w5 h6 hs=>?_)
 refine lNS (lL hs [.v 3 (.pointer (some ⟨b1,0,none⟩)),.o 4 (.bool true) 1 0 1,.v 5 (.bool false),.v 6 (.pointer (some ⟨b1,1,none⟩)),.o 7 (nv (iabs z)) 1 1 2] (lC 8 hs (wFrom false (iabs z) aM _ _ hs.g) ?_))
 rintro _ w7 h8 hs rfl
 refine lP 0 0 (ic (sgn false (iabs z))) hs (fun w9 hs=>?_)
 exact lN (CG.ret (hs.ret [(0,0,3)] (iv (sgn false (iabs z))) (by have e:=sgn_not z;rw[hz] at e;exact congrArg iv e)))
theorem wNeg (z:Int)(hl:(wds (iabs z)).length≤1000000000)(w:World)(h:Hp)(g:G w h):Calls Tryz.prog 76 #[iv z] w (Ret w h fun v _=>v=iv (-z)):=by
  rcases hz:ineg z with _|_<;>rw[iv_sg hz]
  · exact wNegF z hl hz w h g
  · exact wNegT z hl hz w h g
theorem wCmpff (x y:Int)(hlx:(wds (iabs x)).length≤1000000000)(hly:(wds (iabs y)).length≤1000000000)(hx:ineg x=false)(hy:ineg y=false)(w:World)(h:Hp)(g:G w h) :
    Calls Tryz.prog 44 #[.agg #[.bool false,.int .u64 (lo (iabs x)),.string (hi (iabs x))],.agg #[.bool false,.int .u64 (lo (iabs y)),.string (hi (iabs y))]] w (Ret w h fun v _=>v=.int .i64 (cmpI x y)):=by
 have hs:=SS.start g
 refine go Tryz.func44 [(0,.agg #[.bool false,.int .u64 (lo (iabs x)),.string (hi (iabs x))]),(1,.agg #[.bool false,.int .u64 (lo (iabs y)),.string (hi (iabs y))])] rfl ?_
 refine cSL (lA 2 38 ([.bool false,.int .u64 (lo (iabs x)),.string (hi (iabs x))]) hs (fun b1 w2 h3 hs=>?_))
 refine lA 3 38 ([.bool false,.int .u64 (lo (iabs y)),.string (hi (iabs y))]) hs (fun b4 w5 h6 hs=>?_)
 refine lL hs [.v 4 (.int .i64 0)] (lN (CG.seq (CG.block (cSL (lL hs [.v 6 (.pointer (some ⟨b1,0,none⟩)),.o 7 (.bool false) 1 0 1,.m 8 7] (lG 9 ?_))))))
 refine lG 10 ?_
 refine lL hs [.v 11 (.bool false),.m 5 11] (lN (cIF (cSL (lL hs [.v 18 (.pointer (some ⟨b1,0,none⟩)),.o 19 (.bool false) 1 0 1,.m 17 19] (lN (cIF (cSL (lL hs [.v 21 (.pointer (some ⟨b4,0,none⟩)),.o 22 (.bool false) 0 0 1,.m 20 22] (lN (cIF (CG.skipN (cSL (lL hs [.v 23 (.pointer (some ⟨b1,1,none⟩)),.o 24 (nv (iabs x)) 1 1 2,.v 25 (.pointer (some ⟨b4,1,none⟩)),.o 26 (nv (iabs y)) 0 1 2] (lC 27 hs (nCmp (iabs x) (iabs y) aM aM _ _ hs.g) ?_))))))))))))))
 rintro _ w7 h8 hs rfl
 exact lL hs [.m 4 27] (lN (CG.ret (hs.ret [] (.int .i64 (cmpN (iabs x) (iabs y))) (by rw[cmpI_pp (ineg_false hx) (ineg_false hy)]))))
theorem wCmpft (x y:Int)(hlx:(wds (iabs x)).length≤1000000000)(hly:(wds (iabs y)).length≤1000000000)(hx:ineg x=false)(hy:ineg y=true)(w:World)(h:Hp)(g:G w h) :
    Calls Tryz.prog 44 #[.agg #[.bool false,.int .u64 (lo (iabs x)),.string (hi (iabs x))],.agg #[.bool true,.int .u64 (lo (iabs y)),.string (hi (iabs y))]] w (Ret w h fun v _=>v=.int .i64 (cmpI x y)):=by
 have hs:=SS.start g
 refine go Tryz.func44 [(0,.agg #[.bool false,.int .u64 (lo (iabs x)),.string (hi (iabs x))]),(1,.agg #[.bool true,.int .u64 (lo (iabs y)),.string (hi (iabs y))])] rfl ?_
 refine cSL (lA 2 38 ([.bool false,.int .u64 (lo (iabs x)),.string (hi (iabs x))]) hs (fun b1 w2 h3 hs=>?_))
 refine lA 3 38 ([.bool true,.int .u64 (lo (iabs y)),.string (hi (iabs y))]) hs (fun b4 w5 h6 hs=>?_)
 refine lL hs [.v 4 (.int .i64 0)] (lN (CG.seq (CG.block (cSL (lL hs [.v 6 (.pointer (some ⟨b1,0,none⟩)),.o 7 (.bool false) 1 0 1,.m 8 7] (lG 9 ?_))))))
 refine lG 10 ?_
 exact lL hs [.v 11 (.bool false),.m 5 11] (lN (cIF (cSL (lL hs [.v 18 (.pointer (some ⟨b1,0,none⟩)),.o 19 (.bool false) 1 0 1,.m 17 19] (lN (cIF (cSL (lL hs [.v 21 (.pointer (some ⟨b4,0,none⟩)),.o 22 (.bool true) 0 0 1,.m 20 22] (lN (cIT (cSL (lL hs [.v 4 (.int .i64 1)] (lN (CG.ret (hs.ret [] (.int .i64 1) (by rw[cmpI_gt (by have:=ineg_false hx;have:=ineg_true hy;omega)]))))))))))))))))
theorem wCmptf (x y:Int)(hlx:(wds (iabs x)).length≤1000000000)(hly:(wds (iabs y)).length≤1000000000)(hx:ineg x=true)(hy:ineg y=false)(w:World)(h:Hp)(g:G w h) :
    Calls Tryz.prog 44 #[.agg #[.bool true,.int .u64 (lo (iabs x)),.string (hi (iabs x))],.agg #[.bool false,.int .u64 (lo (iabs y)),.string (hi (iabs y))]] w (Ret w h fun v _=>v=.int .i64 (cmpI x y)):=by
 have hs:=SS.start g
 refine go Tryz.func44 [(0,.agg #[.bool true,.int .u64 (lo (iabs x)),.string (hi (iabs x))]),(1,.agg #[.bool false,.int .u64 (lo (iabs y)),.string (hi (iabs y))])] rfl ?_
 refine cSL (lA 2 38 ([.bool true,.int .u64 (lo (iabs x)),.string (hi (iabs x))]) hs (fun b1 w2 h3 hs=>?_))
 refine lA 3 38 ([.bool false,.int .u64 (lo (iabs y)),.string (hi (iabs y))]) hs (fun b4 w5 h6 hs=>?_)
 exact lL hs [.v 4 (.int .i64 0)] (lN (CG.seq (CG.block (cSL (lL hs [.v 6 (.pointer (some ⟨b1,0,none⟩)),.o 7 (.bool true) 1 0 1,.m 8 7,.v 9 (.pointer (some ⟨b4,0,none⟩)),.o 10 (.bool false) 0 0 1,.v 11 (.bool false),.m 5 11] (lN (cIF (cSL (lL hs [.v 18 (.pointer (some ⟨b1,0,none⟩)),.o 19 (.bool true) 1 0 1,.m 17 19] (lN (cIT (cSL (lL hs [.v 4 (.int .i64 (-1))] (lN (CG.ret (hs.ret [] (.int .i64 (-1)) (by rw[cmpI_lt (by have:=ineg_true hx;have:=ineg_false hy;omega)])))))))))))))))))
theorem wCmptt (x y:Int)(hlx:(wds (iabs x)).length≤1000000000)(hly:(wds (iabs y)).length≤1000000000)(hx:ineg x=true)(hy:ineg y=true)(w:World)(h:Hp)(g:G w h) :
    Calls Tryz.prog 44 #[.agg #[.bool true,.int .u64 (lo (iabs x)),.string (hi (iabs x))],.agg #[.bool true,.int .u64 (lo (iabs y)),.string (hi (iabs y))]] w (Ret w h fun v _=>v=.int .i64 (cmpI x y)):=by
 have hs:=SS.start g
 refine go Tryz.func44 [(0,.agg #[.bool true,.int .u64 (lo (iabs x)),.string (hi (iabs x))]),(1,.agg #[.bool true,.int .u64 (lo (iabs y)),.string (hi (iabs y))])] rfl ?_
 refine cSL (lA 2 38 ([.bool true,.int .u64 (lo (iabs x)),.string (hi (iabs x))]) hs (fun b1 w2 h3 hs=>?_))
 refine lA 3 38 ([.bool true,.int .u64 (lo (iabs y)),.string (hi (iabs y))]) hs (fun b4 w5 h6 hs=>?_)
 refine lL hs [.v 4 (.int .i64 0)] (lN (CG.seq (CG.block (cSL (lL hs [.v 6 (.pointer (some ⟨b1,0,none⟩)),.o 7 (.bool true) 1 0 1,.m 8 7,.v 9 (.pointer (some ⟨b4,0,none⟩)),.o 10 (.bool true) 0 0 1,.v 11 (.bool true),.m 5 11] (lN (cIT (cSL (lL hs [.v 12 (.pointer (some ⟨b4,1,none⟩)),.o 13 (nv (iabs y)) 0 1 2,.v 14 (.pointer (some ⟨b1,1,none⟩)),.o 15 (nv (iabs x)) 1 1 2] (lC 16 hs (nCmp (iabs y) (iabs x) aM aM _ _ hs.g) ?_))))))))))
 rintro _ w7 h8 hs rfl
 exact lL hs [.m 4 16] (lN (CG.ret (hs.ret [] (.int .i64 (cmpN (iabs y) (iabs x))) (by rw[cmpI_nn (ineg_true hx) (ineg_true hy)]))))
theorem wCmp (x y:Int)(hlx:(wds (iabs x)).length≤1000000000)(hly:(wds (iabs y)).length≤1000000000)(w:World)(h:Hp)(g:G w h):Calls Tryz.prog 44 #[iv x,iv y] w (Ret w h fun v _=>v=.int .i64 (cmpI x y)):=by
  rcases hx:ineg x with _|_<;>rcases hy:ineg y with _|_<;>rw[iv_sg hx,iv_sg hy]
  · exact wCmpff x y hlx hly hx hy w h g
  · exact wCmpft x y hlx hly hx hy w h g
  · exact wCmptf x y hlx hly hx hy w h g
  · exact wCmptt x y hlx hly hx hy w h g
theorem wAddff (x y:Int)(hlx:(wds (iabs x)).length≤1000000000)(hly:(wds (iabs y)).length≤1000000000)(hls:(wds (iabs x+iabs y)).length≤1000000000)(hx:ineg x=false)(hy:ineg y=false)(w:World)(h:Hp)(g:G w h) :
    Calls Tryz.prog 90 #[.agg #[.bool false,.int .u64 (lo (iabs x)),.string (hi (iabs x))],.agg #[.bool false,.int .u64 (lo (iabs y)),.string (hi (iabs y))]] w (Ret w h fun v _=>v=iv (x+y)):=by
 have hs:=SS.start g
 have hx_:=ineg_false hx
 have hy_:=ineg_false hy
 refine go Tryz.func90 [(0,.agg #[.bool false,.int .u64 (lo (iabs x)),.string (hi (iabs x))]),(1,.agg #[.bool false,.int .u64 (lo (iabs y)),.string (hi (iabs y))])] rfl ?_
 refine cSL (lA 2 38 ([.bool false,.int .u64 (lo (iabs x)),.string (hi (iabs x))]) hs (fun b1 w2 h3 hs=>?_))
 refine lA 3 38 ([.bool false,.int .u64 (lo (iabs y)),.string (hi (iabs y))]) hs (fun b4 w5 h6 hs=>?_)
 refine lA 4 38 ([.bool false,.int .u64 0,.string ⟨#[]⟩]) hs (fun b7 w8 h9 hs=>?_)
 refine lN (CG.seq (cSL (lL hs [.v 9 (.pointer (some ⟨b1,0,none⟩)),.o 10 (.bool false) 2 0 1,.v 11 (.pointer (some ⟨b4,0,none⟩)),.o 12 (.bool false) 1 0 1,.v 13 (.bool true)] (lN (cIT (CG.seq (cR 8 [] mixed hs al_nil ?_)))))))
 refine eV 0 14 (.pointer (some ⟨b1,0,none⟩)) ?_
 refine eO 1 15 [(2,0,1)] (.bool false) hs ?_
 refine eV 2 16 (.pointer (some ⟨b1,1,none⟩)) ?_
 refine eO 3 17 [(2,1,2)] (nv (iabs x)) hs ?_
 refine eV 4 18 (.pointer (some ⟨b4,1,none⟩)) ?_
 refine eO 5 19 [(1,1,2)] (nv (iabs y)) hs ?_
 refine eC 6 20 hs (fun _ _ hs=>nAdd (iabs x) (iabs y) aM aM _ _ hs.g) ?_
 rintro _ _ _ w10 h11 hs rfl
 refine eC 7 21 hs (fun _ _ hs=>wFrom false ((iabs x)+(iabs y)) (by first|assumption|exact wds_len_le (Nat.sub_le _ _) aM) _ _ hs.g) ?_
 rintro _ _ _ w12 h13 hs rfl
 refine eD0 hs (fun w14 h15 hs=>?_)
 refine tP 8 0 0 (ic (sgn false ((iabs x)+(iabs y)))) hs (fun w16 hs=>?_)
 exact tN (CG.ret (hs.ret [(0,0,3)] (iv (sgn false ((iabs x)+(iabs y)))) (congrArg iv (by unfold sgn iabs at *;simp;omega))))
theorem wAddftG (x y:Int)(hlx:(wds (iabs x)).length≤1000000000)(hly:(wds (iabs y)).length≤1000000000)(hls:(wds (iabs x+iabs y)).length≤1000000000)(hx:ineg x=false)(hy:ineg y=true)(hge:iabs y≤iabs x)(w:World)(h:Hp)(g:G w h) :
    Calls Tryz.prog 90 #[.agg #[.bool false,.int .u64 (lo (iabs x)),.string (hi (iabs x))],.agg #[.bool true,.int .u64 (lo (iabs y)),.string (hi (iabs y))]] w (Ret w h fun v _=>v=iv (x+y)):=by
 have hs:=SS.start g
 have hx_:=ineg_false hx
 have hy_:=ineg_true hy
 refine go Tryz.func90 [(0,.agg #[.bool false,.int .u64 (lo (iabs x)),.string (hi (iabs x))]),(1,.agg #[.bool true,.int .u64 (lo (iabs y)),.string (hi (iabs y))])] rfl ?_
 refine cSL (lA 2 38 ([.bool false,.int .u64 (lo (iabs x)),.string (hi (iabs x))]) hs (fun b1 w2 h3 hs=>?_))
 refine lA 3 38 ([.bool true,.int .u64 (lo (iabs y)),.string (hi (iabs y))]) hs (fun b4 w5 h6 hs=>?_)
 refine lA 4 38 ([.bool false,.int .u64 0,.string ⟨#[]⟩]) hs (fun b7 w8 h9 hs=>?_)
 refine lN (CG.seq (cSL (lL hs [.v 9 (.pointer (some ⟨b1,0,none⟩)),.o 10 (.bool false) 2 0 1,.v 11 (.pointer (some ⟨b4,0,none⟩)),.o 12 (.bool true) 1 0 1,.v 13 (.bool false)] (lN (cIF (CG.skipN (CG.seq (cSL (lL hs [.v 23 (.pointer (some ⟨b1,1,none⟩)),.o 24 (nv (iabs x)) 2 1 2,.v 25 (.pointer (some ⟨b4,1,none⟩)),.o 26 (nv (iabs y)) 1 1 2] (lC 27 hs (nSub (iabs x) (iabs y) oM aM aM _ _ hs.g) ?_))))))))))
 rintro _ w10 h11 hs rfl
 refine lL hs [.m 22 27,.v 28 (nv ((iabs x)-(iabs y))),.v 29 (.bool true)] (lA 5 36 ([.int .u64 0,.string ⟨#[]⟩]) hs (fun b12 w13 h14 hs=>?_))
 refine lP 0 0 (nc ((iabs x)-(iabs y))) hs (fun w15 hs=>?_)
 refine lL hs [.m 6 29] (lNS (lL hs [.m 30 6] (lN (cIT (cSL (lL hs [.v 31 (.pointer (some ⟨b1,0,none⟩)),.o 32 (.bool false) 3 0 1,.o 33 (nv ((iabs x)-(iabs y))) 0 0 2] (lC 34 hs (wFrom false ((iabs x)-(iabs y)) (by first|assumption|exact wds_len_le (Nat.sub_le _ _) aM) _ _ hs.g) ?_)))))))
 rintro _ w16 h17 hs rfl
 refine lP 1 0 (ic (sgn false ((iabs x)-(iabs y)))) hs (fun w18 hs=>?_)
 exact lN (CG.ret (hs.ret [(1,0,3)] (iv (sgn false ((iabs x)-(iabs y)))) (congrArg iv (by unfold sgn iabs at *;simp;omega))))
theorem wAddftL (x y:Int)(hlx:(wds (iabs x)).length≤1000000000)(hly:(wds (iabs y)).length≤1000000000)(hls:(wds (iabs x+iabs y)).length≤1000000000)(hx:ineg x=false)(hy:ineg y=true)(hlt:iabs x<iabs y)(w:World)(h:Hp)(g:G w h) :
    Calls Tryz.prog 90 #[.agg #[.bool false,.int .u64 (lo (iabs x)),.string (hi (iabs x))],.agg #[.bool true,.int .u64 (lo (iabs y)),.string (hi (iabs y))]] w (Ret w h fun v _=>v=iv (x+y)):=by
 have hs:=SS.start g
 have hx_:=ineg_false hx
 have hy_:=ineg_true hy
 refine go Tryz.func90 [(0,.agg #[.bool false,.int .u64 (lo (iabs x)),.string (hi (iabs x))]),(1,.agg #[.bool true,.int .u64 (lo (iabs y)),.string (hi (iabs y))])] rfl ?_
 refine cSL (lA 2 38 ([.bool false,.int .u64 (lo (iabs x)),.string (hi (iabs x))]) hs (fun b1 w2 h3 hs=>?_))
 refine lA 3 38 ([.bool true,.int .u64 (lo (iabs y)),.string (hi (iabs y))]) hs (fun b4 w5 h6 hs=>?_)
 refine lA 4 38 ([.bool false,.int .u64 0,.string ⟨#[]⟩]) hs (fun b7 w8 h9 hs=>?_)
 refine lN (CG.seq (cSL (lL hs [.v 9 (.pointer (some ⟨b1,0,none⟩)),.o 10 (.bool false) 2 0 1,.v 11 (.pointer (some ⟨b4,0,none⟩)),.o 12 (.bool true) 1 0 1,.v 13 (.bool false)] (lN (cIF (CG.skipN (CG.seq (cSL (lL hs [.v 23 (.pointer (some ⟨b1,1,none⟩)),.o 24 (nv (iabs x)) 2 1 2,.v 25 (.pointer (some ⟨b4,1,none⟩)),.o 26 (nv (iabs y)) 1 1 2] (lC 27 hs (nSubN (iabs x) (iabs y) oM aM aM _ _ hs.g) ?_))))))))))
 rintro _ w10 h11 hs rfl
 refine lL hs [.m 22 27,.v 28 (nv 0),.v 29 (.bool false)] (lA 5 36 ([.int .u64 0,.string ⟨#[]⟩]) hs (fun b12 w13 h14 hs=>?_))
 refine lP 0 0 (nc 0) hs (fun w15 hs=>?_)
 refine lL hs [.m 6 29] (lNS (lL hs [.m 30 6] (lN (cIF (CG.skipN (cSL (lL hs [.v 36 (.pointer (some ⟨b4,1,none⟩)),.o 37 (nv (iabs y)) 2 1 2,.v 38 (.pointer (some ⟨b1,1,none⟩)),.o 39 (nv (iabs x)) 3 1 2] (lC 40 hs (nSub (iabs y) (iabs x) oM aM aM _ _ hs.g) ?_))))))))
 rintro _ w16 h17 hs rfl
 refine lL hs [.m 35 40,.v 41 (nv ((iabs y)-(iabs x))),.v 42 (.bool true)] (lA 7 36 ([.int .u64 0,.string ⟨#[]⟩]) hs (fun b18 w19 h20 hs=>?_))
 refine lP 0 0 (nc ((iabs y)-(iabs x))) hs (fun w21 hs=>?_)
 refine lL hs [.m 8 42] (lNS (lL hs [.v 43 (.pointer (some ⟨b4,0,none⟩)),.o 44 (.bool true) 3 0 1,.o 45 (nv ((iabs y)-(iabs x))) 0 0 2] (lC 46 hs (wFrom true ((iabs y)-(iabs x)) (by first|assumption|exact wds_len_le (Nat.sub_le _ _) aM) _ _ hs.g) ?_)))
 rintro _ w22 h23 hs rfl
 refine lP 2 0 (ic (sgn true ((iabs y)-(iabs x)))) hs (fun w24 hs=>?_)
 exact lN (CG.ret (hs.ret [(2,0,3)] (iv (sgn true ((iabs y)-(iabs x)))) (congrArg iv (by unfold sgn iabs at *;simp;omega))))
theorem wAddtfG (x y:Int)(hlx:(wds (iabs x)).length≤1000000000)(hly:(wds (iabs y)).length≤1000000000)(hls:(wds (iabs x+iabs y)).length≤1000000000)(hx:ineg x=true)(hy:ineg y=false)(hge:iabs y≤iabs x)(w:World)(h:Hp)(g:G w h) :
    Calls Tryz.prog 90 #[.agg #[.bool true,.int .u64 (lo (iabs x)),.string (hi (iabs x))],.agg #[.bool false,.int .u64 (lo (iabs y)),.string (hi (iabs y))]] w (Ret w h fun v _=>v=iv (x+y)):=by
 have hs:=SS.start g
 have hx_:=ineg_true hx
 have hy_:=ineg_false hy
 refine go Tryz.func90 [(0,.agg #[.bool true,.int .u64 (lo (iabs x)),.string (hi (iabs x))]),(1,.agg #[.bool false,.int .u64 (lo (iabs y)),.string (hi (iabs y))])] rfl ?_
 refine cSL (lA 2 38 ([.bool true,.int .u64 (lo (iabs x)),.string (hi (iabs x))]) hs (fun b1 w2 h3 hs=>?_))
 refine lA 3 38 ([.bool false,.int .u64 (lo (iabs y)),.string (hi (iabs y))]) hs (fun b4 w5 h6 hs=>?_)
 refine lA 4 38 ([.bool false,.int .u64 0,.string ⟨#[]⟩]) hs (fun b7 w8 h9 hs=>?_)
 refine lN (CG.seq (cSL (lL hs [.v 9 (.pointer (some ⟨b1,0,none⟩)),.o 10 (.bool true) 2 0 1,.v 11 (.pointer (some ⟨b4,0,none⟩)),.o 12 (.bool false) 1 0 1,.v 13 (.bool false)] (lN (cIF (CG.skipN (CG.seq (cSL (lL hs [.v 23 (.pointer (some ⟨b1,1,none⟩)),.o 24 (nv (iabs x)) 2 1 2,.v 25 (.pointer (some ⟨b4,1,none⟩)),.o 26 (nv (iabs y)) 1 1 2] (lC 27 hs (nSub (iabs x) (iabs y) oM aM aM _ _ hs.g) ?_))))))))))
 rintro _ w10 h11 hs rfl
 refine lL hs [.m 22 27,.v 28 (nv ((iabs x)-(iabs y))),.v 29 (.bool true)] (lA 5 36 ([.int .u64 0,.string ⟨#[]⟩]) hs (fun b12 w13 h14 hs=>?_))
 refine lP 0 0 (nc ((iabs x)-(iabs y))) hs (fun w15 hs=>?_)
 refine lL hs [.m 6 29] (lNS (lL hs [.m 30 6] (lN (cIT (cSL (lL hs [.v 31 (.pointer (some ⟨b1,0,none⟩)),.o 32 (.bool true) 3 0 1,.o 33 (nv ((iabs x)-(iabs y))) 0 0 2] (lC 34 hs (wFrom true ((iabs x)-(iabs y)) (by first|assumption|exact wds_len_le (Nat.sub_le _ _) aM) _ _ hs.g) ?_)))))))
 rintro _ w16 h17 hs rfl
 refine lP 1 0 (ic (sgn true ((iabs x)-(iabs y)))) hs (fun w18 hs=>?_)
 exact lN (CG.ret (hs.ret [(1,0,3)] (iv (sgn true ((iabs x)-(iabs y)))) (congrArg iv (by unfold sgn iabs at *;simp;omega))))
theorem wAddtfL (x y:Int)(hlx:(wds (iabs x)).length≤1000000000)(hly:(wds (iabs y)).length≤1000000000)(hls:(wds (iabs x+iabs y)).length≤1000000000)(hx:ineg x=true)(hy:ineg y=false)(hlt:iabs x<iabs y)(w:World)(h:Hp)(g:G w h) :
    Calls Tryz.prog 90 #[.agg #[.bool true,.int .u64 (lo (iabs x)),.string (hi (iabs x))],.agg #[.bool false,.int .u64 (lo (iabs y)),.string (hi (iabs y))]] w (Ret w h fun v _=>v=iv (x+y)):=by
 have hs:=SS.start g
 have hx_:=ineg_true hx
 have hy_:=ineg_false hy
 refine go Tryz.func90 [(0,.agg #[.bool true,.int .u64 (lo (iabs x)),.string (hi (iabs x))]),(1,.agg #[.bool false,.int .u64 (lo (iabs y)),.string (hi (iabs y))])] rfl ?_
 refine cSL (lA 2 38 ([.bool true,.int .u64 (lo (iabs x)),.string (hi (iabs x))]) hs (fun b1 w2 h3 hs=>?_))
 refine lA 3 38 ([.bool false,.int .u64 (lo (iabs y)),.string (hi (iabs y))]) hs (fun b4 w5 h6 hs=>?_)
 refine lA 4 38 ([.bool false,.int .u64 0,.string ⟨#[]⟩]) hs (fun b7 w8 h9 hs=>?_)
 refine lN (CG.seq (cSL (lL hs [.v 9 (.pointer (some ⟨b1,0,none⟩)),.o 10 (.bool true) 2 0 1,.v 11 (.pointer (some ⟨b4,0,none⟩)),.o 12 (.bool false) 1 0 1,.v 13 (.bool false)] (lN (cIF (CG.skipN (CG.seq (cSL (lL hs [.v 23 (.pointer (some ⟨b1,1,none⟩)),.o 24 (nv (iabs x)) 2 1 2,.v 25 (.pointer (some ⟨b4,1,none⟩)),.o 26 (nv (iabs y)) 1 1 2] (lC 27 hs (nSubN (iabs x) (iabs y) oM aM aM _ _ hs.g) ?_))))))))))
 rintro _ w10 h11 hs rfl
 refine lL hs [.m 22 27,.v 28 (nv 0),.v 29 (.bool false)] (lA 5 36 ([.int .u64 0,.string ⟨#[]⟩]) hs (fun b12 w13 h14 hs=>?_))
 refine lP 0 0 (nc 0) hs (fun w15 hs=>?_)
 refine lL hs [.m 6 29] (lNS (lL hs [.m 30 6] (lN (cIF (CG.skipN (cSL (lL hs [.v 36 (.pointer (some ⟨b4,1,none⟩)),.o 37 (nv (iabs y)) 2 1 2,.v 38 (.pointer (some ⟨b1,1,none⟩)),.o 39 (nv (iabs x)) 3 1 2] (lC 40 hs (nSub (iabs y) (iabs x) oM aM aM _ _ hs.g) ?_))))))))
 rintro _ w16 h17 hs rfl
 refine lL hs [.m 35 40,.v 41 (nv ((iabs y)-(iabs x))),.v 42 (.bool true)] (lA 7 36 ([.int .u64 0,.string ⟨#[]⟩]) hs (fun b18 w19 h20 hs=>?_))
 refine lP 0 0 (nc ((iabs y)-(iabs x))) hs (fun w21 hs=>?_)
 refine lL hs [.m 8 42] (lNS (lL hs [.v 43 (.pointer (some ⟨b4,0,none⟩)),.o 44 (.bool false) 3 0 1,.o 45 (nv ((iabs y)-(iabs x))) 0 0 2] (lC 46 hs (wFrom false ((iabs y)-(iabs x)) (by first|assumption|exact wds_len_le (Nat.sub_le _ _) aM) _ _ hs.g) ?_)))
 rintro _ w22 h23 hs rfl
 refine lP 2 0 (ic (sgn false ((iabs y)-(iabs x)))) hs (fun w24 hs=>?_)
 exact lN (CG.ret (hs.ret [(2,0,3)] (iv (sgn false ((iabs y)-(iabs x)))) (congrArg iv (by unfold sgn iabs at *;simp;omega))))
theorem wAddtt (x y:Int)(hlx:(wds (iabs x)).length≤1000000000)(hly:(wds (iabs y)).length≤1000000000)(hls:(wds (iabs x+iabs y)).length≤1000000000)(hx:ineg x=true)(hy:ineg y=true)(w:World)(h:Hp)(g:G w h) :
    Calls Tryz.prog 90 #[.agg #[.bool true,.int .u64 (lo (iabs x)),.string (hi (iabs x))],.agg #[.bool true,.int .u64 (lo (iabs y)),.string (hi (iabs y))]] w (Ret w h fun v _=>v=iv (x+y)):=by
 have hs:=SS.start g
 have hx_:=ineg_true hx
 have hy_:=ineg_true hy
 refine go Tryz.func90 [(0,.agg #[.bool true,.int .u64 (lo (iabs x)),.string (hi (iabs x))]),(1,.agg #[.bool true,.int .u64 (lo (iabs y)),.string (hi (iabs y))])] rfl ?_
 refine cSL (lA 2 38 ([.bool true,.int .u64 (lo (iabs x)),.string (hi (iabs x))]) hs (fun b1 w2 h3 hs=>?_))
 refine lA 3 38 ([.bool true,.int .u64 (lo (iabs y)),.string (hi (iabs y))]) hs (fun b4 w5 h6 hs=>?_)
 refine lA 4 38 ([.bool false,.int .u64 0,.string ⟨#[]⟩]) hs (fun b7 w8 h9 hs=>?_)
 refine lN (CG.seq (cSL (lL hs [.v 9 (.pointer (some ⟨b1,0,none⟩)),.o 10 (.bool true) 2 0 1,.v 11 (.pointer (some ⟨b4,0,none⟩)),.o 12 (.bool true) 1 0 1,.v 13 (.bool true)] (lN (cIT (CG.seq (cR 8 [] mixed hs al_nil ?_)))))))
 refine eV 0 14 (.pointer (some ⟨b1,0,none⟩)) ?_
 refine eO 1 15 [(2,0,1)] (.bool true) hs ?_
 refine eV 2 16 (.pointer (some ⟨b1,1,none⟩)) ?_
 refine eO 3 17 [(2,1,2)] (nv (iabs x)) hs ?_
 refine eV 4 18 (.pointer (some ⟨b4,1,none⟩)) ?_
 refine eO 5 19 [(1,1,2)] (nv (iabs y)) hs ?_
 refine eC 6 20 hs (fun _ _ hs=>nAdd (iabs x) (iabs y) aM aM _ _ hs.g) ?_
 rintro _ _ _ w10 h11 hs rfl
 refine eC 7 21 hs (fun _ _ hs=>wFrom true ((iabs x)+(iabs y)) (by first|assumption|exact wds_len_le (Nat.sub_le _ _) aM) _ _ hs.g) ?_
 rintro _ _ _ w12 h13 hs rfl
 refine eD0 hs (fun w14 h15 hs=>?_)
 refine tP 8 0 0 (ic (sgn true ((iabs x)+(iabs y)))) hs (fun w16 hs=>?_)
 exact tN (CG.ret (hs.ret [(0,0,3)] (iv (sgn true ((iabs x)+(iabs y)))) (congrArg iv (by unfold sgn iabs at *;simp;omega))))
theorem wMulff (x y:Int)(hlx:(wds (iabs x)).length≤1000000000)(hly:(wds (iabs y)).length≤1000000000)(hls:(wds (iabs x*iabs y)).length≤1000000000)(hx:ineg x=false)(hy:ineg y=false)(w:World)(h:Hp)(g:G w h) :
    Calls Tryz.prog 74 #[.agg #[.bool false,.int .u64 (lo (iabs x)),.string (hi (iabs x))],.agg #[.bool false,.int .u64 (lo (iabs y)),.string (hi (iabs y))]] w (Ret w h fun v _=>v=iv (x*y)):=by
 have hs:=SS.start g
 have hx_:=ineg_false hx
 have hy_:=ineg_false hy
 refine go Tryz.func74 [(0,.agg #[.bool false,.int .u64 (lo (iabs x)),.string (hi (iabs x))]),(1,.agg #[.bool false,.int .u64 (lo (iabs y)),.string (hi (iabs y))])] rfl ?_
 refine cSL (lA 2 38 ([.bool false,.int .u64 (lo (iabs x)),.string (hi (iabs x))]) hs (fun b1 w2 h3 hs=>?_))
 refine lA 3 38 ([.bool false,.int .u64 (lo (iabs y)),.string (hi (iabs y))]) hs (fun b4 w5 h6 hs=>?_)
 refine lA 4 38 ([.bool false,.int .u64 0,.string ⟨#[]⟩]) hs (fun b7 w8 h9 hs=>?_)
 refine lN (CG.seq (cR 11 [] mixed hs al_nil ?_))
 refine eV 0 5 (.pointer (some ⟨b1,0,none⟩)) ?_
 refine eO 1 6 [(2,0,1)] (.bool false) hs ?_
 refine eV 2 7 (.pointer (some ⟨b4,0,none⟩)) ?_
 refine eO 3 8 [(1,0,1)] (.bool false) hs ?_
 refine eV 4 9 (.bool false) ?_
 refine eV 5 10 (.pointer (some ⟨b1,1,none⟩)) ?_
 refine eO 6 11 [(2,1,2)] (nv (iabs x)) hs ?_
 refine eV 7 12 (.pointer (some ⟨b4,1,none⟩)) ?_
 refine eO 8 13 [(1,1,2)] (nv (iabs y)) hs ?_
 refine eC 9 14 hs (fun _ _ hs=>nMul (iabs x) (iabs y) aM aM _ _ hs.g) ?_
 rintro _ _ _ w10 h11 hs rfl
 refine eC 10 15 hs (fun _ _ hs=>wFrom false ((iabs x)*(iabs y)) aM _ _ hs.g) ?_
 rintro _ _ _ w12 h13 hs rfl
 refine eD0 hs (fun w14 h15 hs=>?_)
 refine tP 11 0 0 (ic (sgn false ((iabs x)*(iabs y)))) hs (fun w16 hs=>?_)
 exact tN (CG.ret (hs.ret [(0,0,3)] (iv (sgn false ((iabs x)*(iabs y)))) (by rw[←mul_sg x y,hx,hy];rfl)))
theorem wMulft (x y:Int)(hlx:(wds (iabs x)).length≤1000000000)(hly:(wds (iabs y)).length≤1000000000)(hls:(wds (iabs x*iabs y)).length≤1000000000)(hx:ineg x=false)(hy:ineg y=true)(w:World)(h:Hp)(g:G w h) :
    Calls Tryz.prog 74 #[.agg #[.bool false,.int .u64 (lo (iabs x)),.string (hi (iabs x))],.agg #[.bool true,.int .u64 (lo (iabs y)),.string (hi (iabs y))]] w (Ret w h fun v _=>v=iv (x*y)):=by
 have hs:=SS.start g
 have hx_:=ineg_false hx
 have hy_:=ineg_true hy
 refine go Tryz.func74 [(0,.agg #[.bool false,.int .u64 (lo (iabs x)),.string (hi (iabs x))]),(1,.agg #[.bool true,.int .u64 (lo (iabs y)),.string (hi (iabs y))])] rfl ?_
 refine cSL (lA 2 38 ([.bool false,.int .u64 (lo (iabs x)),.string (hi (iabs x))]) hs (fun b1 w2 h3 hs=>?_))
 refine lA 3 38 ([.bool true,.int .u64 (lo (iabs y)),.string (hi (iabs y))]) hs (fun b4 w5 h6 hs=>?_)
 refine lA 4 38 ([.bool false,.int .u64 0,.string ⟨#[]⟩]) hs (fun b7 w8 h9 hs=>?_)
 refine lN (CG.seq (cR 11 [] mixed hs al_nil ?_))
 refine eV 0 5 (.pointer (some ⟨b1,0,none⟩)) ?_
 refine eO 1 6 [(2,0,1)] (.bool false) hs ?_
 refine eV 2 7 (.pointer (some ⟨b4,0,none⟩)) ?_
 refine eO 3 8 [(1,0,1)] (.bool true) hs ?_
 refine eV 4 9 (.bool true) ?_
 refine eV 5 10 (.pointer (some ⟨b1,1,none⟩)) ?_
 refine eO 6 11 [(2,1,2)] (nv (iabs x)) hs ?_
 refine eV 7 12 (.pointer (some ⟨b4,1,none⟩)) ?_
 refine eO 8 13 [(1,1,2)] (nv (iabs y)) hs ?_
 refine eC 9 14 hs (fun _ _ hs=>nMul (iabs x) (iabs y) aM aM _ _ hs.g) ?_
 rintro _ _ _ w10 h11 hs rfl
 refine eC 10 15 hs (fun _ _ hs=>wFrom true ((iabs x)*(iabs y)) aM _ _ hs.g) ?_
 rintro _ _ _ w12 h13 hs rfl
 refine eD0 hs (fun w14 h15 hs=>?_)
 refine tP 11 0 0 (ic (sgn true ((iabs x)*(iabs y)))) hs (fun w16 hs=>?_)
 exact tN (CG.ret (hs.ret [(0,0,3)] (iv (sgn true ((iabs x)*(iabs y)))) (by rw[←mul_sg x y,hx,hy];rfl)))
theorem wMultf (x y:Int)(hlx:(wds (iabs x)).length≤1000000000)(hly:(wds (iabs y)).length≤1000000000)(hls:(wds (iabs x*iabs y)).length≤1000000000)(hx:ineg x=true)(hy:ineg y=false)(w:World)(h:Hp)(g:G w h) :
    Calls Tryz.prog 74 #[.agg #[.bool true,.int .u64 (lo (iabs x)),.string (hi (iabs x))],.agg #[.bool false,.int .u64 (lo (iabs y)),.string (hi (iabs y))]] w (Ret w h fun v _=>v=iv (x*y)):=by
 have hs:=SS.start g
 have hx_:=ineg_true hx
 have hy_:=ineg_false hy
 refine go Tryz.func74 [(0,.agg #[.bool true,.int .u64 (lo (iabs x)),.string (hi (iabs x))]),(1,.agg #[.bool false,.int .u64 (lo (iabs y)),.string (hi (iabs y))])] rfl ?_
 refine cSL (lA 2 38 ([.bool true,.int .u64 (lo (iabs x)),.string (hi (iabs x))]) hs (fun b1 w2 h3 hs=>?_))
 refine lA 3 38 ([.bool false,.int .u64 (lo (iabs y)),.string (hi (iabs y))]) hs (fun b4 w5 h6 hs=>?_)
 refine lA 4 38 ([.bool false,.int .u64 0,.string ⟨#[]⟩]) hs (fun b7 w8 h9 hs=>?_)
 refine lN (CG.seq (cR 11 [] mixed hs al_nil ?_))
 refine eV 0 5 (.pointer (some ⟨b1,0,none⟩)) ?_
 refine eO 1 6 [(2,0,1)] (.bool true) hs ?_
 refine eV 2 7 (.pointer (some ⟨b4,0,none⟩)) ?_
 refine eO 3 8 [(1,0,1)] (.bool false) hs ?_
 refine eV 4 9 (.bool true) ?_
 refine eV 5 10 (.pointer (some ⟨b1,1,none⟩)) ?_
 refine eO 6 11 [(2,1,2)] (nv (iabs x)) hs ?_
 refine eV 7 12 (.pointer (some ⟨b4,1,none⟩)) ?_
 refine eO 8 13 [(1,1,2)] (nv (iabs y)) hs ?_
 refine eC 9 14 hs (fun _ _ hs=>nMul (iabs x) (iabs y) aM aM _ _ hs.g) ?_
 rintro _ _ _ w10 h11 hs rfl
 refine eC 10 15 hs (fun _ _ hs=>wFrom true ((iabs x)*(iabs y)) aM _ _ hs.g) ?_
 rintro _ _ _ w12 h13 hs rfl
 refine eD0 hs (fun w14 h15 hs=>?_)
 refine tP 11 0 0 (ic (sgn true ((iabs x)*(iabs y)))) hs (fun w16 hs=>?_)
 exact tN (CG.ret (hs.ret [(0,0,3)] (iv (sgn true ((iabs x)*(iabs y)))) (by rw[←mul_sg x y,hx,hy];rfl)))
theorem wMultt (x y:Int)(hlx:(wds (iabs x)).length≤1000000000)(hly:(wds (iabs y)).length≤1000000000)(hls:(wds (iabs x*iabs y)).length≤1000000000)(hx:ineg x=true)(hy:ineg y=true)(w:World)(h:Hp)(g:G w h) :
    Calls Tryz.prog 74 #[.agg #[.bool true,.int .u64 (lo (iabs x)),.string (hi (iabs x))],.agg #[.bool true,.int .u64 (lo (iabs y)),.string (hi (iabs y))]] w (Ret w h fun v _=>v=iv (x*y)):=by
 have hs:=SS.start g
 have hx_:=ineg_true hx
 have hy_:=ineg_true hy
 refine go Tryz.func74 [(0,.agg #[.bool true,.int .u64 (lo (iabs x)),.string (hi (iabs x))]),(1,.agg #[.bool true,.int .u64 (lo (iabs y)),.string (hi (iabs y))])] rfl ?_
 refine cSL (lA 2 38 ([.bool true,.int .u64 (lo (iabs x)),.string (hi (iabs x))]) hs (fun b1 w2 h3 hs=>?_))
 refine lA 3 38 ([.bool true,.int .u64 (lo (iabs y)),.string (hi (iabs y))]) hs (fun b4 w5 h6 hs=>?_)
 refine lA 4 38 ([.bool false,.int .u64 0,.string ⟨#[]⟩]) hs (fun b7 w8 h9 hs=>?_)
 refine lN (CG.seq (cR 11 [] mixed hs al_nil ?_))
 refine eV 0 5 (.pointer (some ⟨b1,0,none⟩)) ?_
 refine eO 1 6 [(2,0,1)] (.bool true) hs ?_
 refine eV 2 7 (.pointer (some ⟨b4,0,none⟩)) ?_
 refine eO 3 8 [(1,0,1)] (.bool true) hs ?_
 refine eV 4 9 (.bool false) ?_
 refine eV 5 10 (.pointer (some ⟨b1,1,none⟩)) ?_
 refine eO 6 11 [(2,1,2)] (nv (iabs x)) hs ?_
 refine eV 7 12 (.pointer (some ⟨b4,1,none⟩)) ?_
 refine eO 8 13 [(1,1,2)] (nv (iabs y)) hs ?_
 refine eC 9 14 hs (fun _ _ hs=>nMul (iabs x) (iabs y) aM aM _ _ hs.g) ?_
 rintro _ _ _ w10 h11 hs rfl
 refine eC 10 15 hs (fun _ _ hs=>wFrom false ((iabs x)*(iabs y)) aM _ _ hs.g) ?_
 rintro _ _ _ w12 h13 hs rfl
 refine eD0 hs (fun w14 h15 hs=>?_)
 refine tP 11 0 0 (ic (sgn false ((iabs x)*(iabs y)))) hs (fun w16 hs=>?_)
 exact tN (CG.ret (hs.ret [(0,0,3)] (iv (sgn false ((iabs x)*(iabs y)))) (by rw[←mul_sg x y,hx,hy];rfl)))
theorem wAdd (x y:Int)(hl:(wds (iabs x)).length+(wds (iabs y)).length≤999999999)(w:World)(h:Hp)(g:G w h):Calls Tryz.prog 90 #[iv x,iv y] w (Ret w h fun v _=>v=iv (x+y)):=by
  have hls:(wds (iabs x+iabs y)).length≤1000000000:=Nat.le_trans wds_len_add oM
  rcases hx:ineg x with _|_<;>rcases hy:ineg y with _|_<;>rw[iv_sg hx,iv_sg hy]
  · exact wAddff x y oM oM hls hx hy w h g
  · rcases Nat.lt_or_ge (iabs x) (iabs y) with hc|hc
    · exact wAddftL x y oM oM hls hx hy hc w h g
    · exact wAddftG x y oM oM hls hx hy hc w h g
  · rcases Nat.lt_or_ge (iabs x) (iabs y) with hc|hc
    · exact wAddtfL x y oM oM hls hx hy hc w h g
    · exact wAddtfG x y oM oM hls hx hy hc w h g
  · exact wAddtt x y oM oM hls hx hy w h g
theorem wMul (x y:Int)(hl:(wds (iabs x)).length+(wds (iabs y)).length≤1000000000)(w:World)(h:Hp)(g:G w h):Calls Tryz.prog 74 #[iv x,iv y] w (Ret w h fun v _=>v=iv (x*y)):=by
  have hls:(wds (iabs x*iabs y)).length≤1000000000:=Nat.le_trans wds_len_mul oM
  rcases hx:ineg x with _|_<;>rcases hy:ineg y with _|_<;>rw[iv_sg hx,iv_sg hy]
  · exact wMulff x y oM oM hls hx hy w h g
  · exact wMulft x y oM oM hls hx hy w h g
  · exact wMultf x y oM oM hls hx hy w h g
  · exact wMultt x y oM oM hls hx hy w h g
theorem nBytes (n:Nat)(hl:(wds n).length≤1000000000)(w:World)(h:Hp)(g:G w h) :
    Calls Tryz.prog 124 #[nv n] w (Ret w h fun v h1=>∃ A,v=.slice A ((nb n+7)/8) ((nb n+7)/8)∧SlO 1 u8c 0 h1 A (byt n ((nb n+7)/8))):=by
 have hs:=SS.start g
 have hnb:=nb_len64 n
 have hwl:=wds_len_nb n
 refine go Tryz.func124 [(0,nv n)] rfl ?_
 refine cSL (lA 1 36 (nc n) hs (fun b1 w2 h3 hs=>?_))
 refine lL hs [.v 2 (.slice none 0 0)] (lNS (lL hs [.o 7 (nv n) 0 0 2] (lC 8 hs (nBits n hl _ _ hs.g) ?_)))
 rintro _ w4 h5 hs rfl
 refine lIn 9 ((nb n:Nat)+7) ((nb n)+7) ?_
 refine lV 10 (.int .i64 (((nb n)+7)/8:Nat)) ?_ (hr:=rint (opQuo (t:=3) (u:=3) (x:=.tmp 9) (y:=.const (.int .i64 8)) (k:=.i64) (a:=(((nb n)+7:Nat):Int)) (b:=(8:Int)) kR kR kR oM _) (quoI64 ((nb n)+7) 8 oM))
 refine lL hs [.m 3 10] (lNS (lL hs [.m 11 3] (lK 12 5 (((nb n)+7)/8:Nat) 1 1 (.int .u8 0) u8c 0 hs (fun b6 w7 h8 hs=>?_))))
 have hl9:(List.replicate (((nb n)+7)/8:Nat) 0).length=(((nb n)+7)/8:Nat):=by simp
 refine lL hs [.m 4 12] (lNS (lL hs [.o 13 (nv n) 1 0 2] (lC 14 hs (nWordsG n oM _ _ hs.g) ?_)))
 rintro _ w10 h11 hs ⟨Aw1,cw1,rfl,hcw1,hw1⟩
 replace hs:=(hs.a_SlO hw1)
 refine lL hs [.m 5 14] (lN (CG.seq (cSL (lL hs [.m 15 3,.v 16 (.int .i64 0)] (lN (CG.block (cTo [(2,.slice none 0 0),(3,.int .i64 (((nb n)+7)/8:Nat)),(4,.slice (some ⟨b6,0,none⟩) (((nb n)+7)/8:Nat) (((nb n)+7)/8:Nat)),(5,.slice Aw1 ((wds n).length) cw1),(15,.int .i64 (((nb n)+7)/8:Nat)),(16,.int .i64 0)] ?_)))))))
 refine CG.loop (fun μ_ Γ w_=>∃ (i:Nat) (l:List Nat) (h_:Hp),μ_=((nb n+7)/8)-i∧Γ=[(2,.slice none 0 0),(3,.int .i64 (((nb n)+7)/8:Nat)),(4,.slice (some ⟨b6,0,none⟩) (((nb n)+7)/8:Nat) (((nb n)+7)/8:Nat)),(5,.slice Aw1 ((wds n).length) cw1),(15,.int .i64 (((nb n)+7)/8:Nat)),(16,.int .i64 (i:Nat))]∧SS w h w_ h_ [⟨b6,5,(l).flatMap u8c⟩,⟨b1,36,nc n⟩] [] [fun h_=>SlO 1 u64c 0 h_ Aw1 (wds n)]∧(i≤((nb n+7)/8))∧(l.length=((nb n+7)/8))∧(∀ j,j<i→l.getD (((nb n+7)/8)-1-j) 0=n/256^j%256)) _ ⟨0,List.replicate (((nb n)+7)/8:Nat) 0,h11,rfl,rfl,hs.to _ _,Nat.zero_le _,hl9,(fun j hj=>absurd hj oM)⟩ ?_
 rintro _ _ w12 ⟨i,l,h13,hm14,rfl,hs,hi,hll,hg⟩
 have hwi:=wds_get n (i/8)
 refine cSL ?_
 cases hb15:(decide (((i:Nat):Int)<((((nb n)+7)/8:Nat):Int)))
 ·
  have phb15:=oF hb15
  refine lB 17 hb15 ?_
  refine lN (CG.seq (cIF (CG.exit ?_)))
  show CG _ _ _ _ _ _ _ _
  refine cSL (lL hs [.m 36 4,.m 2 36] (lN (CG.ret ?_)))
  have him:i=((nb n+7)/8):=by omega
  have hlb:l=byt n ((nb n+7)/8):=eq_byt hll (fun j hj=>hg j oM)
  rw[hlb] at hs
  obtain ⟨h16,hs,sg17,lo18,bc19⟩:=hs.pub 0
  replace hs:=(hs.to [⟨b1,36,nc n⟩] []).a_SlO (SlO.of_flat (sz:=1) (f:=u8c) (d:=0) (b:=b6) (o:=0) (l:=byt n ((nb n+7)/8)) (fun _=>rfl) sg17)
  exact hs.ret [] (.slice (some ⟨b6,0,none⟩) (((nb n)+7)/8:Nat) (((nb n)+7)/8:Nat)) (⟨some ⟨b6,0,none⟩,rfl,(hs.f.1)⟩)
 have phb15:=oT hb15
 refine lB 17 hb15 ?_
 refine lN (CG.seq (cIT (CG.skipN (CG.seq (CG.block (cSL (lL hs [.m 18 16,.m 6 18] (lN (CG.listed (lL hs [.m 19 4,.m 20 3] (lIn 21 ((((nb n)+7)/8:Nat)-1) ((((nb n)+7)/8:Nat)-1) ?_)))))))))))
 refine lL hs [.m 22 6] (lIn 23 (((((nb n)+7)/8:Nat)-1:Nat)-(i:Nat)) (((((nb n)+7)/8:Nat)-1:Nat)-i) ?_)
 refine lL hs [.m 24 5,.m 25 6] (lV 26 (.int .i64 (i/8:Nat)) ?_ (hr:=rint (opQuo (t:=3) (u:=3) (x:=.tmp 25) (y:=.const (.int .i64 8)) (k:=.i64) (a:=((i:Nat):Int)) (b:=(8:Int)) kR kR kR oM _) (quoI64 i 8 oM)))
 refine lX 27 Aw1 ((wds n).length) cw1 1 (i/8:Nat) (i/8) ((hs.f.1).ok oM) ?_
 refine lH 28 (.int .u64 ((wds n).getD (i/8) 0:Nat)) hs ((hs.f.1).el (i/8) oM) ?_
 refine lL hs [.m 29 6] (lV 30 (.int .i64 (i%8:Nat)) ?_ (hr:=rint (opRem (t:=3) (u:=3) (x:=.tmp 29) (y:=.const (.int .i64 8)) (k:=.i64) (a:=((i:Nat):Int)) (b:=(8:Int)) kR kR kR oM _) (tmodNat i 8)))
 refine lIn 31 (8*(i%8:Nat)) (8*(i%8)) ?_
 refine lV 32 (.int .u64 (((wds n).getD (i/8) 0)/2^(8*(i%8)):Nat)) ?_ (hr:=opShrN (t:=22) (u:=3) (x:=.tmp 28) (y:=.tmp 31) (ky:=.i64) (a:=((wds n).getD (i/8) 0)) (n:=(8*(i%8))) kR kR kR oM _)
 refine lV 33 (.int .u8 ((wds n).getD (i/8) 0/2^(8*(i%8))%256:Nat)) ?_ (hr:=rint (n:=IntKind.wrap .u8 (((wds n).getD (i/8) 0/2^(8*(i%8)):Nat):Int)) kR (wrU8 _))
 refine lX 34 (some ⟨b6,0,none⟩) (((nb n)+7)/8:Nat) (((nb n)+7)/8:Nat) 1 (((((nb n)+7)/8:Nat)-1:Nat)-i:Nat) (((((nb n)+7)/8:Nat)-1:Nat)-i:Nat) rfl ?_
 refine lW 0 l u8c 1 (((((nb n)+7)/8:Nat)-1:Nat)-i:Nat) ((wds n).getD (i/8) 0/2^(8*(i%8))%256:Nat) hs oM (fun w21 hs=>?_)
 have hl22:((l).set (((((nb n)+7)/8:Nat)-1:Nat)-i:Nat) ((wds n).getD (i/8) 0/2^(8*(i%8))%256:Nat)).length=(((nb n)+7)/8:Nat):=by rw[List.length_set];exact hll
 replace hs:=hs.to [⟨b6,5,((l).set (((((nb n)+7)/8:Nat)-1:Nat)-i:Nat) ((wds n).getD (i/8) 0/2^(8*(i%8))%256:Nat)).flatMap u8c⟩,⟨b1,36,nc n⟩] []
 refine lN (CG.listed (lIn 35 ((i:Nat)+1) (i+1) ?_))
 refine lL hs [.m 16 35] (lD ?_)
 intro a_ ka
 have q23:(i+1)≤((nb n+7)/8):=by omega
 have q24:((l).set (((((nb n)+7)/8:Nat)-1:Nat)-i:Nat) ((wds n).getD (i/8) 0/2^(8*(i%8))%256:Nat)).length=((nb n+7)/8):=hl22
 have q25:∀ j,j<(i+1)→((l).set (((((nb n)+7)/8:Nat)-1:Nat)-i:Nat) ((wds n).getD (i/8) 0/2^(8*(i%8))%256:Nat)).getD (((nb n+7)/8)-1-j) 0=n/256^j%256:=(set_from_top hll oM hg (byte_wds n i))
 refine ⟨_,_,?_,⟨i+1,(l).set (((((nb n)+7)/8:Nat)-1:Nat)-i:Nat) ((wds n).getD (i/8) 0/2^(8*(i%8))%256:Nat),h13,rfl,rfl,hs.to _ _,q23,q24,q25⟩,ka.to [(2,.slice none 0 0),(3,.int .i64 (((nb n)+7)/8:Nat)),(4,.slice (some ⟨b6,0,none⟩) (((nb n)+7)/8:Nat) (((nb n)+7)/8:Nat)),(5,.slice Aw1 ((wds n).length) cw1),(15,.int .i64 (((nb n)+7)/8:Nat)),(16,.int .i64 ((i+1):Nat))] kR⟩
 omega
theorem nFromB (n m:Nat)(A:Option Addr)(c:Nat)(hc:m≤c)(hm:m≤10000000000)(hn:n<256^m)(w:World)(h:Hp)(g:G w h)(hA:SlO 1 u8c 0 h A (byt n m)) :
    Calls Tryz.prog 78 #[.slice A m c] w (Ret w h fun v _=>v=nv n):=by
 have hs:=SS.start g
 replace hs:=(hs.a_SlO hA)
 have hbl:=byt_len n m
 refine go Tryz.func78 [(0,.slice A m c)] rfl ?_
 refine cSL (lA 2 36 ([.int .u64 0,.string ⟨#[]⟩]) hs (fun b1 w2 h3 hs=>?_))
 refine lNS (lL hs [.m 5 0,.v 6 (.int .i64 (m:Nat))] (lIn 7 ((m:Nat)+7) (m+7) ?_))
 refine lV 8 (.int .i64 ((m+7)/8:Nat)) ?_ (hr:=rint (opQuo (t:=3) (u:=3) (x:=.tmp 7) (y:=.const (.int .i64 8)) (k:=.i64) (a:=((m+7:Nat):Int)) (b:=(8:Int)) kR kR kR oM _) (quoI64 (m+7) 8 oM))
 refine lK 9 22 ((m+7)/8) 1 8 (.int .u64 0) u64c 0 hs (fun b4 w5 h6 hs=>?_)
 have hl7:(List.replicate ((m+7)/8) 0).length=((m+7)/8):=by simp
 refine lL hs [.m 3 9] (lN (CG.seq (cSL (lL hs [.m 10 0,.v 11 (.int .i64 (m:Nat)),.v 12 (.int .i64 0)] (lN (CG.block (cTo [(0,.slice A m c),(2,.pointer (some ⟨b1,0,none⟩)),(3,.slice (some ⟨b4,0,none⟩) ((m+7)/8) ((m+7)/8)),(11,.int .i64 (m:Nat)),(12,.int .i64 0)] ?_)))))))
 refine CG.loop (fun μ_ Γ w_=>∃ (i:Nat) (l:List Nat) (h_:Hp),μ_=m-i∧Γ=[(0,.slice A m c),(2,.pointer (some ⟨b1,0,none⟩)),(3,.slice (some ⟨b4,0,none⟩) ((m+7)/8) ((m+7)/8)),(11,.int .i64 (m:Nat)),(12,.int .i64 (i:Nat))]∧SS w h w_ h_ [⟨b4,22,(l).flatMap u64c⟩,⟨b1,36,[.int .u64 0,.string ⟨#[]⟩]⟩] [] [fun h_=>SlO 1 u8c 0 h_ A (byt n m)]∧(i≤m)∧(l.length=(m+7)/8)∧(Wd l)∧(wval l=n%256^i)) _ ⟨0,List.replicate ((m+7)/8) 0,h6,rfl,rfl,hs.to _ _,Nat.zero_le _,hl7,Wd.rep _,(by show bval _ _=_;rw[bval_rep,Nat.pow_zero,Nat.mod_one])⟩ ?_
 rintro _ _ w8 ⟨i,l,h9,hm10,rfl,hs,hi,hll,hW,inv⟩
 have hbi:=byt_getD_lt n m (m-1-i)
 refine cSL ?_
 cases hb11:(decide (((i:Nat):Int)<((m:Nat):Int)))
 ·
  have phb11:=oF hb11
  refine lB 13 hb11 ?_
  refine lN (CG.seq (cIF (CG.exit ?_)))
  show CG _ _ _ _ _ _ _ _
  refine cSL ?_
  have him:i=m:=by omega
  have hE:wval l=n:=by rw[inv,him];exact Nat.mod_eq_of_lt hn
  obtain ⟨h12,hs,sg13,lo14,bc15⟩:=hs.pub 0
  replace hs:=(hs.to [⟨b1,36,[.int .u64 0,.string ⟨#[]⟩]⟩] []).a_SlO (SlO.of_flat (sz:=1) (f:=u64c) (d:=0) (b:=b4) (o:=0) (l:=l) (fun _=>rfl) sg13)
  refine lL hs [.m 36 3] (lC 37 hs (nFromE (some ⟨b4,0,none⟩) ((m+7)/8) (l) ((m+7)/8) (n) (by first|rfl|assumption|(simp;done)|(simp;omega)|omega) (hW) (hE) sM sM _ _ hs.g (hs.f.1)) ?_)
  rintro _ w17 h18 hs rfl
  refine lP 0 0 (nc n) hs (fun w19 hs=>?_)
  exact lN (CG.ret (hs.ret [(0,0,2)] (nv n) rfl))
 have phb11:=oT hb11
 refine lB 13 hb11 ?_
 refine lN (CG.seq (cIT (CG.skipN (CG.seq (CG.block (cSL (lL hs [.m 14 12,.m 4 14] (lN (cR 19 [] mixed hs al_nil ?_)))))))))
 refine eV 0 15 (.slice (some ⟨b4,0,none⟩) ((m+7)/8) ((m+7)/8)) ?_
 refine eV 1 16 (.int .i64 (i:Nat)) ?_
 refine eV 2 17 (.int .i64 (i/8:Nat)) ?_ (hv:=fun _=>rint (opQuo (t:=3) (u:=3) (x:=.tmp 16) (y:=.const (.int .i64 8)) (k:=.i64) (a:=((i:Nat):Int)) (b:=(8:Int)) kR kR kR oM _) (quoI64 i 8 oM))
 refine eX 3 18 (some ⟨b4,0,none⟩) ((m+7)/8) ((m+7)/8) 1 (i/8:Nat) (i/8) rfl ?_
 refine eQ 4 19 0 l u64c 1 0 (i/8) (.int .u64 ((l).getD (i/8) 0:Nat)) hs oM ?_
 refine eV 5 20 (.slice A m c) ?_
 refine eV 6 21 (.slice A m c) ?_
 refine eV 7 22 (.int .i64 (m:Nat)) ?_
 refine eIn 8 23 ((m:Nat)-1) (m-1) ?_
 refine eV 9 24 (.int .i64 (i:Nat)) ?_
 refine eIn 10 25 ((m-1:Nat)-(i:Nat)) ((m-1)-i) ?_
 refine eX 11 26 A m c 1 ((m-1)-i:Nat) ((m-1)-i) ((hs.f.1).ok oM) ?_
 refine eH 12 27 (.int .u8 ((byt n m).getD ((m-1)-i) 0:Nat)) hs ((hs.f.1).el ((m-1)-i) oM) ?_
 refine eV 13 28 (.int .u64 ((byt n m).getD ((m-1)-i) 0:Nat)) ?_ (hv:=fun _=>rint (n:=IntKind.wrap .u64 (((byt n m).getD ((m-1)-i) 0:Nat):Int)) kR (fitU64 oM oM))
 refine eV 14 29 (.int .i64 (i:Nat)) ?_
 refine eV 15 30 (.int .i64 (i%8:Nat)) ?_ (hv:=fun _=>rint (opRem (t:=3) (u:=3) (x:=.tmp 29) (y:=.const (.int .i64 8)) (k:=.i64) (a:=((i:Nat):Int)) (b:=(8:Int)) kR kR kR oM _) (tmodNat i 8))
 refine eIn 16 31 (8*(i%8:Nat)) (8*(i%8)) ?_
 refine eV 17 32 (.int .u64 (((byt n m).getD ((m-1)-i) 0:Nat)*2^(8*(i%8))%18446744073709551616:Nat)) ?_ (hv:=fun _=>opShlN (t:=22) (u:=3) (x:=.tmp 28) (y:=.tmp 31) (ky:=.i64) (a:=((byt n m).getD ((m-1)-i) 0:Nat)) (n:=(8*(i%8))) kR kR kR _)
 obtain ⟨hS1,hS2,hS3⟩:=fb_step oM inv (show (byt n m).getD (m-1-i) 0=n/256^i%256 by rw[byt_get n m _ oM,show m-1-(m-1-i)=i by omega])
 have hlg:=hW.get (i/8)
 refine eV 18 33 (.int .u64 (l.getD (i/8) 0+(byt n m).getD (m-1-i) 0*2^(8*(i%8)):Nat)) ?_ (hv:=fun _=>rint (opOr (t:=22) (u:=22) (x:=.tmp 19) (y:=.tmp 32) (a:=((l).getD (i/8) 0)) (b:=(((byt n m).getD ((m-1)-i) 0:Nat)*2^(8*(i%8))%18446744073709551616:Nat)) kR kR kR oM oM _) (by rw[hS1]))
 refine eD0 hs (fun w20 h21 hs=>?_)
 refine tX 19 34 (some ⟨b4,0,none⟩) ((m+7)/8) ((m+7)/8) 1 (i/8:Nat) (i/8) rfl ?_
 refine tW 20 0 l u64c 1 (i/8) (l.getD (i/8) 0+(byt n m).getD (m-1-i) 0*2^(8*(i%8)):Nat) hs oM (fun w22 hs=>?_)
 have hl23:((l).set (i/8) (l.getD (i/8) 0+(byt n m).getD (m-1-i) 0*2^(8*(i%8)):Nat)).length=((m+7)/8):=by rw[List.length_set];exact hll
 replace hs:=hs.to [⟨b4,22,((l).set (i/8) (l.getD (i/8) 0+(byt n m).getD (m-1-i) 0*2^(8*(i%8)):Nat)).flatMap u64c⟩,⟨b1,36,[.int .u64 0,.string ⟨#[]⟩]⟩] []
 refine tN (CG.listed (lIn 35 ((i:Nat)+1) (i+1) ?_))
 refine lL hs [.m 12 35] (lD ?_)
 intro a_ ka
 have q24:(i+1)≤m:=by omega
 have q25:((l).set (i/8) (l.getD (i/8) 0+(byt n m).getD (m-1-i) 0*2^(8*(i%8)):Nat)).length=(m+7)/8:=hl23
 have q26:Wd ((l).set (i/8) (l.getD (i/8) 0+(byt n m).getD (m-1-i) 0*2^(8*(i%8)):Nat)):=hW.set _ hS2
 have q27:wval ((l).set (i/8) (l.getD (i/8) 0+(byt n m).getD (m-1-i) 0*2^(8*(i%8)):Nat))=n%256^(i+1):=hS3
 refine ⟨_,_,?_,⟨i+1,(l).set (i/8) (l.getD (i/8) 0+(byt n m).getD (m-1-i) 0*2^(8*(i%8)):Nat),h21,rfl,rfl,hs.to _ _,q24,q25,q26,q27⟩,ka.to [(0,.slice A m c),(2,.pointer (some ⟨b1,0,none⟩)),(3,.slice (some ⟨b4,0,none⟩) ((m+7)/8) ((m+7)/8)),(11,.int .i64 (m:Nat)),(12,.int .i64 ((i+1):Nat))] kR⟩
 omega
theorem nShift (n k:Nat)(hl:(wds n).length≤1000000000)(hk:k≤65536)(w:World)(h:Hp)(g:G w h) :
    Calls Tryz.prog 147 #[nv n,.int .i64 (k:Nat)] w (Ret w h fun v _=>v=nv (n*2^k)):=by
 have hs:=SS.start g
 refine go Tryz.func147 [(0,nv n),(1,.int .i64 (k:Nat))] rfl ?_
 refine cSL (lA 2 36 (nc n) hs (fun b1 w2 h3 hs=>?_))
 refine lA 4 36 ([.int .u64 0,.string ⟨#[]⟩]) hs (fun b4 w5 h6 hs=>?_)
 refine lNS (lL hs [.m 5 1] (lV 6 (.int .i64 (k:Nat)) ?_ (hr:=rint (n:=if (65536:Int)<((k:Nat):Int) then (65536:Int) else ((k:Nat):Int)) kR (if_neg oM))))
 refine lV 7 (.int .i64 (k:Nat)) ?_ (hr:=rint (n:=if ((k:Nat):Int)>(-65536:Int) then ((k:Nat):Int) else (-65536:Int)) kR (if_pos oM))
 refine lL hs [.m 1 7] (lN (CG.seq (cSL (lL hs [.m 8 1] ?_))))
 have ⟨hb7,phb7⟩:=dF (p:=((k:Nat):Int)<(0:Int)) oM
 refine lB 9 hb7 ?_
 refine lN (cIF (CG.skipN (cSL (lL hs [.o 16 (nv n) 1 0 2] (lC 17 hs (nWordsG n oM _ _ hs.g) ?_)))))
 rintro _ w8 h9 hs ⟨Aw1,cw1,rfl,hcw1,hw1⟩
 replace hs:=(hs.a_SlO hw1)
 refine lL hs [.m 18 1] (lC 19 hs (nShUp Aw1 cw1 (wds n) (Wd.wds n) hl k oM _ _ hs.g (hs.f.1)) ?_)
 rintro _ w10 h11 hs ⟨Az,cz,z,rfl,hcz,hlz,hWz,hVz,hz⟩
 replace hs:=(hs.a_SlO hz)
 refine lC 20 hs (nFromE Az cz (z) z.length ((n*2^k)) (by first|rfl|assumption|(simp;done)|(simp;omega)|omega) (hWz) (by rw[hVz,wval_wds]) sM sM _ _ hs.g (hs.f.1)) ?_
 rintro _ w12 h13 hs rfl
 refine lP 0 0 (nc (n*2^k)) hs (fun w14 hs=>?_)
 exact lN (CG.ret (hs.ret [(0,0,2)] (nv (n*2^k)) rfl))
section
variable {P:Program} {Γ:Env} {o:Oper}
theorem ixArr {t e:TypeId}{x ix:Operand}{b off sz len:Nat}{i:Int}{kk:IntKind}(k:Nat)(ho:o.op=.indexAddr t x ix)(hx:ev Γ x=.pointer (some ⟨b,off,none⟩))(hi:ev Γ ix=.int kk i)
    (hu:P.underlying t=some (.array len e))(hs:(P.info? e).map (·.size)=some sz)(hk:i=k)(hlt:k<len)(w:World) :
    (execOp (ev Γ) o).run P w=.ok (.value (.pointer (some ⟨b,off+k*sz,none⟩))) w:=by
  subst hk
  unfold execOp
  simp only[ho]
  rw[hx,hi]
  have hel:P.elem t=e:=by unfold Program.elem;rw[hu]
  have hln:P.arrayLen t=len:=by unfold Program.arrayLen;rw[hu]
  have h1:=run_indexAt_array (P:=P) w t ⟨b,off,none⟩ kk (k:Int) (by rw[hel,hln];exact hu)
  rw[hln,if_pos ⟨by omega,by omega⟩,hel] at h1
  have h2:(sizeOf e).run P w=.ok sz w:=by
    cases hi2:P.info? e with
    | none=>rw[hi2] at hs;cases hs
    | some i =>
      rw[hi2] at hs
      simp at hs
      simp[sizeOf,typeInfo,hi2,hs]
  rw[h2] at h1
  simp[h1,Result.andThen,Addr.add]
end
def Tz (n k m:Nat):Prop:=n=2^k*m∧m%2=1
theorem ctz_Tz {x:Nat}(h0:x≠0)(h:x<18446744073709551616):∃ m,Tz x (Lib.ctz 64 x) m∧Lib.ctz 64 x<64:=by
  unfold Lib.ctz
  rw[if_neg h0]
  obtain ⟨m,e,hl⟩:=Lib.ctzFrom_spec 64 x oM h
  exact ⟨2*m+1,⟨e,by omega⟩,hl⟩
theorem Tz.odd_pos {n k m:Nat}(h:Tz n k m):0<m:=by have:=h.2;omega
theorem Tz.word {n i x k m r:Nat}(e:n=18446744073709551616^i*(x+18446744073709551616*r))(t:Tz x k m)(hk:k<64):Tz n (64*i+k) (m+2^(64-k)*r):=by
  obtain ⟨t1,t2⟩:=t
  refine ⟨?_,?_⟩
  · have e64:(18446744073709551616:Nat)=2^k*2^(64-k):=by rw[←Nat.pow_add,show k+(64-k)=64 by omega]
    have e1:(18446744073709551616:Nat)^i=2^(64*i):=by rw[Nat.pow_mul]
    rw[e,e1,t1]
    conv=>lhs;rw[e64]
    rw[Nat.pow_add,Nat.mul_assoc (2^k),←Nat.mul_add,←Nat.mul_assoc]
  · obtain ⟨j,hj⟩:∃ j,64-k=j+1:=⟨63-k,by omega⟩
    rw[hj,Nat.pow_succ,Nat.mul_comm (2^j) 2,Nat.mul_assoc]
    omega
end Go.Proofs.YtmniajdkjpcfjaaGreatDoor
