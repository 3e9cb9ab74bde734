/- Laws of this claim, part 5. -/
import Derived.Test.YtpnchlalmgmkeaaGreatDoorQh0
import Derived.Test.YtpnchlalmgmkeaaGreatDoorQh1
import Derived.Test.YtpnchlalmgmkeaaGreatDoorQh2
import Derived.Test.YtpnchlalmgmkeaaGreatDoorQh3
set_option maxRecDepth 100000
set_option maxHeartbeats 4000000
namespace Go.Proofs.YtpnchlalmgmkeaaGreatDoor
open _root_.Array renaming getElem?_append_left -> po, getElem?_push_size -> e6
open List renaming all_eq_true -> hH, ext_getElem -> K3, getD_eq_getElem?_getD -> zY, getElem?_eq_getElem -> K2, getElem?_eq_some_iff -> Jy, getElem_map -> vl, getElem_mem -> fu, length_cons -> ul, length_map -> K5, length_nil -> KR, map_cons -> yx, mem_cons -> g1, mem_iff_getElem? -> K0, mem_map -> gs, mem_range -> hP, mem_singleton -> ov, mergeSort_perm -> K6, range -> hO, replicate -> yp, set_eq_of_length_le -> K8, size_toArray -> K4, toArray -> J8
open Nat renaming add_zero -> ya, le_add_right -> KL, le_mul_of_pos_left -> J5, le_of_ble_eq_true -> yJ, le_refl -> ep, le_succ -> La, le_trans -> eu, lt_one_iff -> K9, lt_or_ge -> eb, lt_succ_iff_lt_or_eq -> K7, mul_assoc -> yW, mul_le_mul -> D2, mul_le_mul_left -> y9, mul_le_mul_right -> ym, mul_pos -> Lg, not_lt_zero -> KO, one_mul -> Ab, pow_succ -> yS, succ_lt_succ -> K1, succ_mul -> yf, succ_ne_zero -> KS, succ_pos -> JO, zero_add -> yl, zero_le -> JL
open Rat renaming add_zero -> Lb, div_def -> Lh, mul_eq_zero -> Lj, mul_inv_cancel -> Li, one_mul -> Le, zero_mul -> Lc
open Go.RowKit
open Go.RowKit Go.Shelf
open Go.RowKit Go.WideMaps
theorem E2  (ok:ByteArray->Prop)(ix:ByteArray->Nat)(fs:List Rat)(l:Z9)(u:Nat)(hm:fs.length<=1000)(j:Nat)(X:List MapEntry)(d:Nat)(ih:∀ (p:PTm) (t:Tm) (w:World) (h:Hp),G w h->TmH d h p t->WfT1 ok d t->ba d t<=1000->Sq l fs h->MapS h j X->Tab h->Calls Tryz.prog 21 #[.agg #[.iface 75 (.agg #[.slice l fs.length u]),.map (some j),.bool false],ar p] w (Ret w h (fun v h1=>∃ (Q:Z9)(c_:Nat),v=.tuple #[oA (bB ix fs d t).2.1 Q (bB ix fs d t).2.2.length c_,iV (bB ix fs d t).1]/\Sq Q (bB ix fs d t).2.2 h1)))(op n:Int)(q:Rat)(s:ByteArray)(A:Z9)(c:Nat)(x:PTm)(e:Tm)(J:WfT1 ok d e)(hg1:ba d e<=1000)(hv1:LQ 3000 (bB ix fs d e).2.1)(hG1:∀ i,LQ 1000000 ((bB ix fs d e).2.2.getD i 0))(y:PTm)(b:Tm)(H:WfT1 ok d b)(hg2:ba d b<=1000)(hv2:LQ 3000 (bB ix fs d b).2.1)(hG2:∀ i,LQ 1000000 ((bB ix fs d b).2.2.getD i 0))(hop:3<=op/\op<=13)(har:dU op=2)(hn : -12<=n/\n<=12)(w:World)(h:Hp)(g:G w h)(hK:SlO 9 aI aE h A ([x,y]:List PTm))(hp1:TmH d h x e)(W:TmH d h y b)(hF:Sq l fs h)(hM:MapS h j X)(tb:Tab h):CR 21 #[.agg #[.iface 75 (.agg #[.slice l fs.length u]),.map (some j),.bool false],ar ⟨op,n,q,s,A,2,c⟩] w h (fun v h1=>∃ (Q:Z9)(c_:Nat),v=.tuple #[oA (bB ix fs (d+1) (.mk op n q s ([e,b]:List Tm))).2.1 Q (bB ix fs (d+1) (.mk op n q s ([e,b]:List Tm))).2.2.length c_,iV (bB ix fs (d+1) (.mk op n q s ([e,b]:List Tm))).1]/\Sq Q (bB ix fs (d+1) (.mk op n q s ([e,b]:List Tm))).2.2 h1):=by
 have a:=(((((((sS g).aS hK).add (K:=fun z=>TmH d z x e) hp1).add (K:=fun z=>TmH d z y b) W).aS hF).add (K:=fun z=>MapS z j X) hM).add (K:=fun z=>Tab z) tb);have hln:([x,y]:List PTm).length=2:=rfl;have hac:=az op;refine go Tryz.func21 [(0,.agg #[.iface 75 (.agg #[qS l fs.length u]),.map (some j),qF]),(1,ar ⟨op,n,q,s,A,2,c⟩)] rfl (aD (lA 2 81 ([.iface 75 (.agg #[qS l fs.length u]),.map (some j),qF]) a (fun b1 w2 h3 a=>lA 3 32 (aI ⟨op,n,q,s,A,2,c⟩) a (fun F w5 h6 a=>lA 4 51 ([qF,uV 0,eS,uV 0,eS,sZ]) a (fun b7 w8 h9 a=>lL a ac (aR (lA 6 51 ([qF,uV 0,eS,uV 0,eS,sZ]) a (fun zj _ _ a=>af (aa a [.v (pB F),.o (iV op) 2 0 1] (bh (aD ?_)))))))))));have zd:((op:Int) == (1:Int))=false:=cD oM;have bd:=ag zd;refine lB 14 zd (lL a ac (ah (aD ?_)));have ze:((op:Int) == (2:Int))=false:=cD oM;have bb:=ag ze;refine lB 21 ze (lL a ac (ah (cK (cQ ?_))));have B:=a;refine cR 10 [⟨9,7,.cells (J8 [qF,uV 0,eS,uV 0,eS,sZ]) 51 (0,0)⟩] mixed a (bv (dM kR (fun _ _=>by kernel_rfl)) aq) (eO 0 31 [(3,0,3)] (.agg #[.iface 75 (.agg #[qS l fs.length u]),.map (some j),qF]) a (eV 1 32 (qP F 8) (eO 2 33 [(2,8,1)] (qS A 2 c) a (eX 3 34 A 2 c 9 0 0 ((a.f.q.2.1).ok oM) (eH 4 35 (ar (([x,y]:List PTm).getD 0 aE)) a ((a.f.q.2.1).el 0 oM) (eC 5 36 a (fun _ _ a=>ih (([x,y]:List PTm).getD 0 aE) e _ _ a.g a.f.q.1 J hg1 a.f.r.1 a.f.2.1 a.f.1) ?_))))));rintro _ _ _ _ _ a ⟨O,c1,rfl,hS1⟩;replace a:=a.aS hS1;refine eV 6 30 (.tuple #[qY ((bB ix fs d e).2.1) O (((bB ix fs d e).2.2).length) c1,iV ((bB ix fs d e).1)]) (eV 7 37 (qY ((bB ix fs d e).2.1) O (((bB ix fs d e).2.2).length) c1) (eV 8 38 (iV ((bB ix fs d e).1)) (eP [] B a 51 [qF,uV 0,eS,uV 0,eS,sZ] (fun _ _ zk a=>tP 10 0 0 (qZ ((bB ix fs d e).2.1) O (((bB ix fs d e).2.2).length) c1) a (fun _ a=>tV 11 8 (iV ((bB ix fs d e).1)) (tN (cQ (aa a ac ?_))))))));cases U:(((bB ix fs d e).1:Int) != (0:Int))
 .
  have zf:=aY U;refine lB 40 U (ah (cK (cQ (aa a [.v (qP F 8),.o (qS A 2 c) 3 8 1,.v (iV 2),.v qF] (ah (cQ ?_))))));have B:=a;refine cR 10 [⟨9,9,.cells (J8 [qF,uV 0,eS,uV 0,eS,sZ]) 51 (0,0)⟩] mixed a (bv (dM kR (fun _ _=>by kernel_rfl)) aq) (eO 0 55 [(4,0,3)] (.agg #[.iface 75 (.agg #[qS l fs.length u]),.map (some j),qF]) a (eV 1 56 (qP F 8) (eO 2 57 [(3,8,1)] (qS A 2 c) a (eX 3 58 A 2 c 9 1 1 ((a.f.q.r.1).ok oM) (eH 4 59 (ar (([x,y]:List PTm).getD 1 aE)) a ((a.f.q.r.1).el 1 oM) (eC 5 60 a (fun _ _ a=>ih (([x,y]:List PTm).getD 1 aE) b _ _ a.g a.f.q.1 H hg2 a.f.r.2.1 a.f.r.1 a.f.2.1) ?_))))));rintro _ _ _ _ _ a ⟨I,c2,rfl,Y⟩;replace a:=a.aS Y;refine eV 6 54 (.tuple #[qY ((bB ix fs d b).2.1) I (((bB ix fs d b).2.2).length) c2,iV ((bB ix fs d b).1)]) (eV 7 61 (qY ((bB ix fs d b).2.1) I (((bB ix fs d b).2.2).length) c2) (eV 8 62 (iV ((bB ix fs d b).1)) (eP [] B a 51 [qF,uV 0,eS,uV 0,eS,sZ] (fun _ _ zl a=>tP 10 0 0 (qZ ((bB ix fs d b).2.1) I (((bB ix fs d b).2.2).length) c2) a (fun _ a=>tV 11 10 (iV ((bB ix fs d b).1)) (tN (cj [(2,pB b1),(3,pB F),(4,pB b7),(5,iV 0),(6,pB zj),(7,pB zk),(8,iV ((bB ix fs d e).1)),(9,pB zl),(10,iV ((bB ix fs d b).1))] ?_)))))));refine cQ (aa a ac ?_);cases V:(((bB ix fs d b).1:Int) != (0:Int))
  .
   have zg:=aY V;refine lB 64 V (ah (cK (kQ (lL a [.o (.agg #[.iface 75 (.agg #[qS l fs.length u]),.map (some j),qF]) 5 0 3,.o (ar ⟨op,n,q,s,A,2,c⟩) 4 0 9,.o (qY ((bB ix fs d e).2.1) O (((bB ix fs d e).2.2).length) c1) 1 0 6,.o (qY ((bB ix fs d b).2.1) I (((bB ix fs d b).2.2).length) c2) 0 0 6] (lC 72 a (AN l fs.length u hm 3000 1000000 kD kD kD j op n q s A 2 c (bB ix fs d e).2.1 (bB ix fs d e).2.2 O c1 (jD J oM) hv1 hG1 (bB ix fs d b).2.1 (bB ix fs d b).2.2 I c2 (jD H oM) hv2 hG2 oM _ _ a.g a.f.2.1 a.f.1 a.f.r.1) ?_)))));rintro _ _ _ a ⟨D,Gr,C,M,rfl,hSr,Z⟩;replace a:=a.aS hSr;refine lL a [.c,.v (qY D C Gr.length M),.v (iV (co op n (bB ix fs d e).2.1 (bB ix fs d b).2.1))] (lP 1 0 (qZ D C Gr.length M) a (fun _ a=>lL a ac (af (aa a ac ?_))));cases S:(((co op n (bB ix fs d e).2.1 (bB ix fs d b).2.1):Int) != (0:Int))
   .
    have zi:=aY S;exact lB 76 S (ah (cK (aa a [.o (qY D C Gr.length M) 1 0 6] (lP 3 0 (qZ D C Gr.length M) a (fun _ a=>lL a ac (ae a [(3,0,6)] (.tuple #[qY D C Gr.length M,iV 0]) (by obtain ⟨e1_,L⟩:=Z oM;rw[mi oM oM,mH oM oM oM,e1_,L];exact ⟨_,_,rfl,by rw[<-L];exact a.f.1⟩)))))))
   have zi:=a6 S;exact lB 76 S (au (aa a [.o (.agg #[qF,uV 0,eS,uV 0,eS,sZ]) 2 0 6,.c] (lP 3 0 ([qF,uV 0,eS,uV 0,eS,sZ]) a (fun _ a=>lL a ac (ae a [(3,0,6)] (.tuple #[.agg #[qF,uV 0,eS,uV 0,eS,sZ],iV (co op n (bB ix fs d e).2.1 (bB ix fs d b).2.1)]) (by rw[mi oM oM,mS oM oM oM];exact ⟨none,0,rfl,SlO.nil⟩))))))
  have zg:=a6 V;exact lB 64 V (au (aa a [.o (.agg #[qF,uV 0,eS,uV 0,eS,sZ]) 2 0 6,.c] (lP 3 0 ([qF,uV 0,eS,uV 0,eS,sZ]) a (fun _ a=>lL a ac (ae a [(3,0,6)] (.tuple #[.agg #[qF,uV 0,eS,uV 0,eS,sZ],iV ((bB ix fs d b).1)]) (by rw[mi oM oM,oB oM oM];exact ⟨none,0,rfl,SlO.nil⟩))))))
 have zf:=a6 U;exact lB 40 U (au (aa a [.o (.agg #[qF,uV 0,eS,uV 0,eS,sZ]) 1 0 6,.c] (lP 2 0 ([qF,uV 0,eS,uV 0,eS,sZ]) a (fun _ a=>lL a ac (ae a [(2,0,6)] (.tuple #[.agg #[qF,uV 0,eS,uV 0,eS,sZ],iV ((bB ix fs d e).1)]) (by rw[mi oM oM,mJ oM];exact ⟨none,0,rfl,SlO.nil⟩))))))
theorem C1 (ok:ByteArray->Prop)(ix:ByteArray->Nat)(fs:List Rat)(o:Z9)(u:Nat)(hm:fs.length<=1000)(f:Nat)(e:List MapEntry)(I:∀ i,LQ 1 (fs.getD i 0))(b:∀ s,ok s->ix s<fs.length/\∃ i,Instr.findNow .string (.string s) e 0=some (some (i,nV (ix s)))):∀ (d:Nat) (p:PTm) (t:Tm) (w:World) (h:Hp),d<=24->G w h->TmH d h p t->WfT1 ok d t->ba d t<=1000->Sq o fs h->MapS h f e->Tab h->Calls Tryz.prog 21 #[.agg #[.iface 75 (.agg #[.slice o fs.length u]),.map (some f),.bool false],ar p] w (Ret w h (fun v h1=>∃ (K:Z9)(c_:Nat),v=.tuple #[oA (bB ix fs d t).2.1 K (bB ix fs d t).2.2.length c_,iV (bB ix fs d t).1]/\Sq K (bB ix fs d t).2.2 h1))
  | 0,_,_,_,_,_,_,x,_,_,_,_,_=>x.elim
  | d + 1,p,t,w,h,hd,g,x,wf,hw,hF,hM,tb=>by
    obtain ⟨op,n,q,s,A,c,ps,ks,rfl,rfl,W,C,a⟩:=x.open;obtain ⟨w1,w2,w3,w4,V,U,B,z,y⟩:=wf;replace w1:dU op=(ks.length:Nat):=w1;replace B : -12<=n:=B;replace z:n<=12:=z;replace y:∀ i,i<ks.length->WfT1 ok d (ks.getD i ct):=y;have L:=az op;have J:=fun p t w h=>C1 ok ix fs o u hm f e I b d p t w h oM
    have hb:∀ t,WfT1 ok d t->ba d t<=1000->LQ 3000 (bB ix fs d t).2.1/\∀ i,LQ 1000000 ((bB ix fs d t).2.2.getD i 0):=fun t Q k2=>by
      obtain ⟨_,S,O⟩:=pE (ix:=ix) I Q;exact ⟨S.mono oM,fun i=>(O i).mono (by have:=D2 k2 (show d<=24 by omega);omega)⟩
    rcases dY w1 with rfl|⟨t1,rfl⟩|⟨t1,t2,rfl⟩
    . simp only[KR] at w1
      by_cases o1:op=1
      . subst o1;exact Ep ok ix fs o u hm f e d n q s A c ps [] w h g C hF hM
      . obtain rfl:op=2:=by omega
        exact Fq ok ix fs o u hm f e d n q s A c ps [] (b s (w4 rfl)).1 (b s (w4 rfl)).2 w h g C hF hM
    . obtain ⟨F,rfl⟩:=List.length_eq_one_iff.1 (show ps.length=1 from a.len)
      simp only[ul,KR] at w1
      have l:WfT1 ok d t1:=y 0 (JO _);have j:ba d t1<=1000:=p7 hw;exact Dv ok ix fs o u hm f e d J op n q s A c F t1 l j (hb t1 l j).1 (hb t1 l j).2 oM oM ⟨B,z⟩ w h g C (a.at_ 0 (JO _)) hF hM tb
    . obtain ⟨F,M,rfl⟩:=kj (show ps.length=2 from a.len)
      simp only[ul,KR] at w1
      have l:WfT1 ok d t1:=y 0 (JO _);have D:WfT1 ok d t2:=y 1 (by show 1<2;decide);obtain ⟨j,H⟩:=qm hw;exact E2 ok ix fs o u hm f e d J op n q s A c F t1 l j (hb t1 l j).1 (hb t1 l j).2 M t2 D H (hb t2 D H).1 (hb t2 D H).2 oM oM ⟨B,z⟩ w h g C (a.at_ 0 (JO _)) (a.at_ 1 (by show 1<2;decide)) hF hM tb
def sY (s:ByteArray):Prop:=s=⟨#[120]⟩\/s=⟨#[121]⟩\/s=⟨#[122]⟩
theorem DI:∀ {k:Nat},k<3->sY (ea.getD k ⟨#[]⟩)
 | 0,_=>.inl rfl
 | 1,_=>.inr (.inl rfl)
 | 2,_=>.inr (.inr rfl)
def mQ:Nat->Tm->Prop
  | 0,_=>True
  | d+1,t=>-11<=t.n/\∀ i,i<t.ks.length->mQ d (t.ks.getD i ct)
def GrT (d:Nat)(t:Tm):Prop:=WfT1 sY d t/\3*ba d t<=3^d/\mQ d t
theorem GrT.num {d:Nat}{q:Rat}(h:LQ 1 q):GrT (d+1) (.mk 1 0 q ⟨#[]⟩ []) :=
 ⟨⟨rfl,fun h=>absurd rfl h,h,fun h=>absurd (show (1:Int)=2 from h) kD,fun _=>rfl,fun _=>rfl,by show (-12:Int)<=0;decide,by show (0:Int)<=12;decide,fun i hi=>absurd hi (KO i)⟩,by
  have:=Nat.two_pow_pos d;have:0<3^d:=Nat.pow_pos kD
  show 3*1<=3^(d+1)
  rw[yS];omega,by show (-11:Int)<=0;decide,fun i hi=>absurd hi (KO i)⟩
theorem GrT.name {d:Nat}{s:ByteArray}(h:sY s):GrT (d+1) (.mk 2 0 0 s []) :=
 ⟨⟨rfl,fun _=>rfl,im kD,fun _=>h,fun h=>absurd rfl h,fun _=>rfl,by show (-12:Int)<=0;decide,by show (0:Int)<=12;decide,fun i hi=>absurd hi (KO i)⟩,by
  have:0<3^d:=Nat.pow_pos kD
  show 3*1<=3^(d+1)
  rw[yS];omega,by show (-11:Int)<=0;decide,fun i hi=>absurd hi (KO i)⟩
theorem GrT.one {d:Nat}{op n:Int}{t:Tm}(x:GrT d t)(ha:dU op=1)(a:op≠8->n=0)(h1 : -3<=n)(b:n<=3):GrT (d+1) (.mk op n 0 ⟨#[]⟩ [t]):=by
 refine ⟨⟨ha,fun _=>rfl,im kD,fun h=>?_,fun _=>rfl,a,by show (-12:Int)<=n;omega,by show n<=12;omega,fun i hi=>?_⟩,?_,by show -11<=n;omega,fun i hi=>by
  have:i=0:=by have:i<1:=hi;omega
  subst this;exact x.2.2⟩
 ·have h:op=2:=h
  rw[h] at ha;exact absurd ha kD
 ·have:i=0:=by have:i<1:=hi;omega
  subst this;exact x.1
 ·show 3*((if op=11 then 2 else if op=8 then aG n else 1)*(0+ba d t))<=3^(d+1)
  have hf:(if op=11 then 2 else if op=8 then aG n else 1)<=3:=by
   unfold aG
   repeat' split
   all_goals omega
  have:=D2 hf x.2.1;rw[yS,yl,Nat.mul_left_comm,Nat.mul_comm (3^d)];exact this
theorem GrT.two {d:Nat}{op:Int}{t u:Tm}(x:GrT d t)(y:GrT d u)(ha:dU op=2):GrT (d+1) (.mk op 0 0 ⟨#[]⟩ [t,u]):=by
 have b:op≠8:=fun h=>by rw[h] at ha;exact absurd ha kD
 have a:op≠11:=fun h=>by rw[h] at ha;exact absurd ha kD
 refine ⟨⟨ha,fun _=>rfl,im kD,fun h=>?_,fun _=>rfl,fun _=>rfl,by show (-12:Int)<=0;decide,by show (0:Int)<=12;decide,fun i hi=>?_⟩,?_,by show (-11:Int)<=0;decide,fun i hi=>by
  have:i=0\/i=1:=by have:i<2:=hi;omega
  rcases this with rfl|rfl
  ·exact x.2.2
  ·exact y.2.2⟩
 ·have h:op=2:=h
  rw[h] at ha;exact absurd ha kD
 ·have:i=0\/i=1:=by have:i<2:=hi;omega
  rcases this with rfl|rfl
  ·exact x.1
  ·exact y.1
 ·show 3*((if op=11 then 2 else if op=8 then aG 0 else 1)*(0+ba d t+ba d u))<=3^(d+1)
  rw[if_neg a,if_neg b,yS];have:=x.2.1;have:=y.2.1
  omega
section
variable {d:Nat}{h:Hp}
theorem qA:RZ h (false,.slice none 0 0,.slice none 0 0) 0:=⟨false,⟨none,0,none,0,rfl,ep _,ep _,SlO.nil,SlO.nil⟩,fun _=>rfl⟩
theorem Fm {b:Bool}{e j:Z9}{c l a f:Nat}{q:Rat}(hz:RZ h (b,.slice e c l,.slice j a f) q):RmH (d+1) h ⟨1,0,b,e,c,l,j,a,f,⟨#[]⟩,none,0,0⟩ (.mk 1 0 q ⟨#[]⟩ []) :=
 ⟨rfl,rfl,hz,rfl,rfl,ep _,[],rfl,SlO.nil,fun i hi=>absurd hi (KO i)⟩
theorem AY {s:ByteArray}:RmH (d+1) h ⟨2,0,false,none,0,0,none,0,0,s,none,0,0⟩ (.mk 2 0 0 s []) :=
 ⟨rfl,rfl,qA,rfl,rfl,ep _,[],rfl,SlO.nil,fun i hi=>absurd hi (KO i)⟩
theorem xQ {op n:Int}{p:RTm}{t:Tm}{b:Nat}(x:RmH d h p t)(a:SlO 7 dE gZ h (some ⟨b,0,none⟩) [p]):RmH (d+1) h ⟨op,n,false,none,0,0,none,0,0,⟨#[]⟩,some ⟨b,0,none⟩,1,1⟩ (.mk op n 0 ⟨#[]⟩ [t]) :=
 ⟨rfl,rfl,qA,rfl,rfl,ep _,[p],rfl,a,fun i hi=>by
  have:i=0:=by have:i<1:=hi;omega
  subst this;exact x⟩
theorem Fr {op:Int}{p q:RTm}{t u:Tm}{b:Nat}(x:RmH d h p t)(y:RmH d h q u)(a:SlO 7 dE gZ h (some ⟨b,0,none⟩) [p,q]):RmH (d+1) h ⟨op,0,false,none,0,0,none,0,0,⟨#[]⟩,some ⟨b,0,none⟩,2,2⟩ (.mk op 0 0 ⟨#[]⟩ [t,u]) :=
 ⟨rfl,rfl,qA,rfl,rfl,ep _,[p,q],rfl,a,fun i hi=>by
  have:i=0\/i=1:=by have:i<2:=hi;omega
  rcases this with rfl|rfl
  ·exact x
  ·exact y⟩
end
def it (s:ByteArray):Prop:=s.size<=1000
theorem B5 {s:ByteArray}(h:sY s):it s:=by
 rcases h with rfl|rfl|rfl<;>(unfold it;decide)
theorem Dz:it ⟨#[]⟩:=by unfold it;decide
theorem xg {d:Nat}{t:Tm}(w:WfT1 sY d t):SmT1 it d t:=w.sm (sm:=it) (fun _ h=>B5 h) Dz
instance (s:ByteArray) (ns:List ByteArray):Decidable (s∈ns):=@List.instDecidableMemOfLawfulBEq ByteArray instBEqOfDecidableEq inferInstance s ns
def dh:List ByteArray->ByteArray->Nat
  | [],_=>0
  | x::l,s=>if x=s then 0 else dh l s+1
theorem sd:∀ {l:List ByteArray} {s:ByteArray} {j:Nat},(∀ i,i<j->¬l.getD i ⟨#[]⟩=s)->j<l.length->l.getD j ⟨#[]⟩=s->dh l s=j
  | [],_,_,_,hj,_=>absurd hj (KO _)
  | x::l,s,0,_,_,h=>if_pos h
  | x::l,s,j+1,h,hj,e=>by
    have h0:¬x=s:=h 0 (JO _);have:=sd (l:=l) (s:=s) (j:=j) (fun i hi=>h (i+1) (K1 hi)) (Nat.lt_of_succ_lt_succ hj) e
    show (if x=s then 0 else dh l s+1)=j+1
    rw[if_neg h0,this]
theorem rY:∀ {l:List ByteArray} {s:ByteArray},s∈l->dh l s<l.length/\l.getD (dh l s) ⟨#[]⟩=s
  | [],_,h=>absurd h List.not_mem_nil
  | x :: l,s,h=>by
    unfold dh
    by_cases e:x=s
    . rw[if_pos e];exact ⟨JO _,e⟩
    . rw[if_neg e]
      rcases g1.1 h with h1|h1
      . exact absurd h1.symm e
      . have:=rY h1
        exact ⟨K1 this.1,this.2⟩
def HC (ns:List ByteArray)(s:ByteArray):Int:=if s∈ns then (dh ns s:Nat) else 0
theorem rZ {ns:List ByteArray}{s:ByteArray}(h:s∈ns):HC ns s=(dh ns s:Nat):=if_pos h
def qH:List ByteArray->Nat->List MapEntry
  | [],_=>[]
  | x::l,i=>⟨.string x,.int .i64 (i:Nat),i⟩::qH l (i+1)
theorem nQ:∀ {l:List ByteArray} {i j:Nat} {e:MapEntry},(qH l i)[j]?=some e->∃ x,l[j]?=some x/\e=⟨.string x,.int .i64 ((i+j:Nat):Int),i+j⟩
  | [],_,_,_,h=>by cases h
  | x::l,i,0,e,h=>by injection h with h;exact ⟨x,rfl,h.symm⟩
  | x::l,i,j+1,e,h=>by
    obtain ⟨y,h1,a⟩:=nQ (l:=l) (i:=i+1) (j:=j) h;exact ⟨y,h1,by rw[a,show i+1+j=i+(j+1) by omega]⟩
theorem sK:∀ {l:List ByteArray} {i j:Nat} {x:ByteArray},l[j]?=some x->(qH l i)[j]?=some ⟨.string x,.int .i64 ((i+j:Nat):Int),i+j⟩
  | [],_,_,_,h=>by cases h
  | y::l,i,0,x,h=>by injection h with h;subst h;rfl
  | y::l,i,j+1,x,h=>by
    have:=sK (l:=l) (i:=i+1) (j:=j) (x:=x) h;rw[show i+1+j=i+(j+1) by omega] at this
    exact this
theorem BM {ns:List ByteArray}(c:ns.Nodup){j:Nat}{s:ByteArray}(h:ns[j]?=some s):dh ns s=j:=by
 obtain ⟨b,e⟩:=Jy.1 h;refine sd (fun i hi a=>?_) b (by rw[zY,h];rfl);rw[zY,K2 oM] at a
 have a:ns[i]'oM=s:=a;exact absurd ((List.getElem_inj c).1 (a.trans e.symm)) oM
theorem CO {ns:List ByteArray}(p:ns.Nodup)(s:ByteArray):(∃ i,Instr.findNow .string (.string s) (qH ns 0) 0=some (some (i,.int .i64 (HC ns s)))/\decide (s∈ns)=true)\/(Instr.findNow .string (.string s) (qH ns 0) 0=some none/\decide (s∈ns)=false/\HC ns s=0):=by
 rcases MapKept.findNow_spec (d:=.string) (k:=.string s) (by simp[MapKept.IsKey]) (qH ns 0) 0 (fun x o=>by
  obtain ⟨j,f⟩:=K0.1 o;obtain ⟨y,_,rfl⟩:=nQ f
  simp[MapKept.IsKey]) with ⟨a,b⟩|⟨j,e,a,b,c⟩
 ·have hm:s ∉ ns:=fun h=>by
   obtain ⟨j,f⟩:=K0.1 h;exact b _ (K0.2 ⟨j,sK f⟩) rfl
  exact .inr ⟨a,decide_eq_false hm,if_neg hm⟩
 ·obtain ⟨y,l,rfl⟩:=nQ b
  injection c with c
  subst c;have hm:y∈ns:=K0.2 ⟨j,l⟩;refine .inl ⟨0+j,?_,decide_eq_true hm⟩;rw[a,rZ hm,BM p l,yl]
structure LaidO (pl:ByteArray->Int) (d:Nat) (h:Hp) (rl:List RSt) (ss:List OSt) (l:List Stp):Prop where
  rs:RSs h rl ss
  mp:ss.map OSt.stp=l
  sm:H5 ss
section srt
open Go.RowKit Go.Maps Go.Sort Go.Shelf Go.WideShapes
def Tryz.keysZ_ren:Go.Shelf.Ren:=⟨fun|7=>85|10=>123|n=>n,fun|23=>154|26=>9|3=>4|28=>158|0=>0|27=>157|33=>113|4=>4|n=>n,fun|n=>n⟩
theorem Tryz.keysZ:Go.Proofs.SlLaysZ.n7 Tryz.prog Tryz.keysZ_ren:={
 mixed:=by kernel_rfl
 f7:=⟨Tryz.f85.name,by decide,Tryz.func85.trans (congrArg some kR)⟩
 f10:=⟨Tryz.f123.name,by decide,Tryz.func123.trans (congrArg some kR)⟩
 t0:=Tryz.underlying0
 a0:=Tryz.isAgg0
 z0:=Tryz.sizeOf0
 v0:=Tryz.zeroValue0
 t4:=Tryz.underlying4
 a4:=Tryz.isAgg4
 z4:=Tryz.sizeOf4
 v4:=Tryz.zeroValue4
 t23:=Tryz.underlying154
 a23:=Tryz.isAgg154
 z23:=Tryz.sizeOf154
 v23:=Tryz.zeroValue154
 t26:=Tryz.underlying9
 a26:=Tryz.isAgg9
 z26:=Tryz.sizeOf9
 v26:=Tryz.zeroValue9
 t27:=Tryz.underlying157
 a27:=Tryz.isAgg157
 z27:=Tryz.sizeOf157
 v27:=Tryz.zeroValue157
 t28:=Tryz.underlying158
 a28:=Tryz.isAgg158
 z28:=Tryz.sizeOf158
 v28:=Tryz.zeroValue158
 t33:=Tryz.underlying113
 a33:=Tryz.isAgg113
 z33:=Tryz.sizeOf113
 v33:=Tryz.zeroValue113 }
def Tryz.sortedZ_ren:Go.Shelf.Ren:=⟨fun|6=>84|8=>121|9=>122|11=>144|13=>146|12=>145|23=>175|24=>92|14=>166|15=>167|16=>168|17=>169|18=>170|19=>171|20=>172|21=>173|22=>174|25=>189|26=>190|27=>191|28=>192|29=>193|30=>194|31=>200|n=>n,fun|26=>9|28=>158|24=>44|0=>0|3=>3|37=>151|48=>150|50=>23|4=>4|40=>245|39=>244|45=>115|5=>5|9=>9|51=>260|55=>264|57=>269|58=>270|33=>113|n=>n,fun|n=>n⟩
theorem Tryz.sortedZ:Go.Proofs.SlLaysZ.n6 Tryz.prog Tryz.sortedZ_ren:={
 mixed:=by kernel_rfl
 f6:=⟨Tryz.f84.name,by decide,Tryz.func84.trans (congrArg some kR)⟩
 f8:=⟨Tryz.f121.name,by decide,Tryz.func121.trans (congrArg some kR)⟩
 f11:=⟨Tryz.f144.name,by decide,Tryz.func144.trans (congrArg some kR)⟩
 t0:=Tryz.underlying0
 a0:=Tryz.isAgg0
 z0:=Tryz.sizeOf0
 v0:=Tryz.zeroValue0
 t24:=Tryz.underlying44
 a24:=Tryz.isAgg44
 z24:=Tryz.sizeOf44
 v24:=Tryz.zeroValue44
 t26:=Tryz.underlying9
 a26:=Tryz.isAgg9
 z26:=Tryz.sizeOf9
 v26:=Tryz.zeroValue9
 t28:=Tryz.underlying158
 a28:=Tryz.isAgg158
 z28:=Tryz.sizeOf158
 v28:=Tryz.zeroValue158
 i26:=by kernel_rfl }
def Tryz.sortZ_ren:Go.Shelf.Ren:=⟨fun|6=>122|8=>146|9=>145|19=>175|20=>92|21=>166|22=>167|23=>168|24=>169|25=>170|26=>171|27=>172|28=>173|29=>174|36=>189|31=>190|32=>191|37=>192|38=>193|39=>194|41=>200|n=>n,fun|27=>44|29=>9|3=>3|32=>151|26=>44|0=>0|44=>150|46=>23|4=>4|36=>245|35=>244|41=>115|5=>5|9=>9|53=>260|57=>264|63=>269|64=>270|n=>n,fun|n=>n⟩
theorem Tryz.sortZ:Go.Proofs.SlLaysM.n6 Tryz.prog Tryz.sortZ_ren:={
 mixed:=by kernel_rfl
 f6:=⟨Tryz.f122.name,by decide,Tryz.func122.trans (congrArg some kR)⟩
 f8:=Tryz.func146.trans (congrArg some kR)
 f9:=⟨Tryz.f145.name,by decide,Tryz.func145.trans (congrArg some kR)⟩
 f19:=Tryz.func175.trans (congrArg some kR)
 f20:=Tryz.func92.trans (congrArg some kR)
 f21:=⟨Tryz.f166.name,by decide,Tryz.func166.trans (congrArg some kR)⟩
 f22:=⟨Tryz.f167.name,by decide,Tryz.func167.trans (congrArg some kR)⟩
 f23:=⟨Tryz.f168.name,by decide,Tryz.func168.trans (congrArg some kR)⟩
 f24:=⟨Tryz.f169.name,by decide,Tryz.func169.trans (congrArg some kR)⟩
 f25:=⟨Tryz.f170.name,by decide,Tryz.func170.trans (congrArg some kR)⟩
 f26:=⟨Tryz.f171.name,by decide,Tryz.func171.trans (congrArg some kR)⟩
 f27:=⟨Tryz.f172.name,by decide,Tryz.func172.trans (congrArg some kR)⟩
 f28:=⟨Tryz.f173.name,by decide,Tryz.func173.trans (congrArg some kR)⟩
 f29:=⟨Tryz.f174.name,by decide,Tryz.func174.trans (congrArg some kR)⟩
 f31:=Tryz.func190.trans (congrArg some kR)
 f32:=Tryz.func191.trans (congrArg some kR)
 f36:=⟨Tryz.f189.name,by decide,Tryz.func189.trans (congrArg some kR)⟩
 f37:=⟨Tryz.f192.name,by decide,Tryz.func192.trans (congrArg some kR)⟩
 f38:=⟨Tryz.f193.name,by decide,Tryz.func193.trans (congrArg some kR)⟩
 f39:=⟨Tryz.f194.name,by decide,Tryz.func194.trans (congrArg some kR)⟩
 f41:=⟨Tryz.f200.name,by decide,Tryz.func200.trans (congrArg some kR)⟩
 t0:=Tryz.underlying0
 a0:=Tryz.isAgg0
 z0:=Tryz.sizeOf0
 v0:=Tryz.zeroValue0
 t3:=Tryz.underlying3
 a3:=Tryz.isAgg3
 z3:=Tryz.sizeOf3
 v3:=Tryz.zeroValue3
 t4:=Tryz.underlying4
 a4:=Tryz.isAgg4
 z4:=Tryz.sizeOf4
 v4:=Tryz.zeroValue4
 t5:=Tryz.underlying5
 a5:=Tryz.isAgg5
 z5:=Tryz.sizeOf5
 v5:=Tryz.zeroValue5
 t9:=Tryz.underlying9
 a9:=Tryz.isAgg9
 z9:=Tryz.sizeOf9
 v9:=Tryz.zeroValue9
 t26:=Tryz.underlying44
 a26:=Tryz.isAgg44
 z26:=Tryz.sizeOf44
 v26:=Tryz.zeroValue44
 t27:=Tryz.underlying44
 a27:=Tryz.isAgg44
 z27:=Tryz.sizeOf44
 v27:=Tryz.zeroValue44
 t29:=Tryz.underlying9
 a29:=Tryz.isAgg9
 z29:=Tryz.sizeOf9
 v29:=Tryz.zeroValue9
 t32:=Tryz.underlying151
 a32:=Tryz.isAgg151
 z32:=Tryz.sizeOf151
 v32:=Tryz.zeroValue151
 t35:=Tryz.underlying244
 a35:=Tryz.isAgg244
 z35:=Tryz.sizeOf244
 v35:=Tryz.zeroValue244
 t36:=Tryz.underlying245
 a36:=Tryz.isAgg245
 z36:=Tryz.sizeOf245
 v36:=Tryz.zeroValue245
 t41:=Tryz.underlying115
 a41:=Tryz.isAgg115
 z41:=Tryz.sizeOf115
 v41:=Tryz.zeroValue115
 t44:=Tryz.underlying150
 a44:=Tryz.isAgg150
 z44:=Tryz.sizeOf150
 v44:=Tryz.zeroValue150
 t46:=Tryz.underlying23
 a46:=Tryz.isAgg23
 z46:=Tryz.sizeOf23
 v46:=Tryz.zeroValue23
 t53:=Tryz.underlying260
 a53:=Tryz.isAgg260
 z53:=Tryz.sizeOf260
 v53:=Tryz.zeroValue260
 t57:=Tryz.underlying264
 a57:=Tryz.isAgg264
 z57:=Tryz.sizeOf264
 v57:=Tryz.zeroValue264
 t63:=Tryz.underlying269
 a63:=Tryz.isAgg269
 z63:=Tryz.sizeOf269
 v63:=Tryz.zeroValue269
 t64:=Tryz.underlying270
 a64:=Tryz.isAgg270
 z64:=Tryz.sizeOf270
 v64:=Tryz.zeroValue270 }
theorem ue (m:Nat):AnyZ.SortsIn Tryz.prog Tryz.sortedZ_ren Fence.wide m :=
 ⟨fun d off a f W e b c=>callsIn_wide.2 (AnyM.slices_Sort_string Tryz.sortZ d off a f W e b c),fun p a W=>callsIn_wide.2 (AnyM.slices_Sort_string_none Tryz.sortZ p a W)⟩
theorem wT (a:Option Nat)(W:World):CallsIn Fence.wide 5 Tryz.prog 85 #[.map a] W fun e w'=>e=.returned (.func (.func 123) #[] #[.pointer (some ⟨W.heap.size,0,none⟩)])/\w'=W.alloc (.cells #[.map a] 154) :=
 AnyZ.keys_in Tryz.keysZ Fence.wide 5 trivial rfl a W
theorem qK {H:Type}(b o:Nat)(d:DataW H)(R:Value->Option (DataW H × List MemPlace))(w:World)(c:w.ownsMap Tryz.prog 9 R b o d)(i:Maps.size d<=maxLen)(a:Maps.size d*16<=140737488355328) :
  CallsIn Fence.wide 5 Tryz.prog 84 #[.func (.func 123) #[] #[.pointer (some ⟨w.heap.size,0,none⟩)]] (w.alloc (.cells #[.map (some b)] 154)) fun e w'=>∃ (v:Value)(h:List (List UInt8)),e=.returned v/\h.Perm (strKeys d) /\
   w'.ownsRow (w.alloc (.cells #[.map (some b)] 154)).heap.size 9 1 v h.length ((h.mergeSort (fun x y=>decide (x<=y))).map encStr)/\(v=.slice none 0 0↔h=[])/\Below (w.alloc (.cells #[.map (some b)] 154)).heap.size (w.alloc (.cells #[.map (some b)] 154)) w':=by
 have l:=c.lt
 have j:SeqGives Fence.wide 2 Tryz.prog 123 #[.pointer (some ⟨w.heap.size,0,none⟩)] encStr (fun h=>h.Perm (strKeys d)) (Maps.size d) (w.alloc (.cells #[.map (some b)] 154)) :=
  AnyZ.keys_gives (ρ:=Tryz.keysZ_ren) { Tryz.keysZ with } Fence.wide _ trivial rfl oM w.heap.size b o d _ (by simp) (by simp) (by
   obtain ⟨p,f,hb,Ft,z,u⟩:=c;exact ⟨p,f,(Below.heap_alloc _ _ b l).trans hb,Ft,z,u⟩)
 exact AnyZ.sorted_in Tryz.sortedZ Fence.wide 5 trivial trivial trivial trivial rfl oM (ue _) (enters_of Tryz.func122 kR rfl) 123 #[.pointer (some ⟨w.heap.size,0,none⟩)] trivial (enters_of Tryz.func123 kR rfl) _ _ i a _ j
section
variable {P:Program}{k:TypeId}(hk:P.underlying k=some .string)
def RU (_:Value):Option (DataW Unit × List MemPlace):=some (.nil,[])
theorem xV (hk:P.underlying k=some .string){a:List ByteArray}(b:∀ s∈a,s.size<=maxLen){e:MapEntry}(d:e∈fP a):∃ s∈a,WideElems.rd P k RU e=some (.string s.data.toList,.nil)/\e.key=.string s:=by
 obtain ⟨j,s,c,rfl⟩:=nM d;have hm:s∈a:=K0.2 ⟨j,c⟩;refine ⟨s,hm,?_,rfl⟩
 have h1:keyOf P k (.string s)=some (.string s.data.toList):=by
  have:=b s hm
  simp[keyOf,hk,mapKey,this]
 unfold WideElems.rd
 rw[h1];rfl
theorem pj {c:List ByteArray}(o:c.Nodup):MapKept.Stamped (fP c).toArray c.length:=by
 refine ⟨fun x d=>?_,?_,?_⟩
 ·obtain ⟨j,s,f,rfl⟩:=nM (by simpa using d)
  exact (Jy.1 f).1
 ·have e:(fP c).map (·.born)=hO c.length:=by
   apply K3
   ·simp[fP]
   ·intro i h1 l;simp[fP]
  show ((fP c).map (·.born)).Nodup
  rw[e];exact List.nodup_range
 ·have e:(fP c).map (·.key)=c.map Value.string:=by
   apply K3
   ·simp[fP]
   ·intro i h1 l;simp[fP]
  show ((fP c).map (·.key)).Nodup
  rw[e];exact List.Pairwise.map _ (fun a b h e=>h (Value.string.inj e)) o
theorem BN (hk:P.underlying k=some .string){w:World}{b:Nat}{a:List ByteArray}(hb:w.heap[b]?=some (.map (fP a).toArray a.length))(j:a.Nodup)(f:∀ s∈a,s.size<=maxLen)(u:a.length<=1048576) :
  ∃ D:DataW Unit,w.ownsMap P k RU b a.length D/\(strKeys D).Perm (a.map fun s=>s.data.toList)/\Maps.size D<=1048576:=by
 have d:(fP a).length=a.length:=by simp[fP]
 refine ⟨.map (((fP a).map (WideElems.rg P k RU)).foldr DataW.insert []),⟨(fP a).toArray,a.length,hb,⟨?_,pj j,fun x o=>?_⟩,?_,rfl⟩,?_,?_⟩
 ·show (fP a).toArray.size<=maxLen
  rw[K4,d];unfold maxLen;omega
 ·obtain ⟨s,_,h,_⟩:=xV (P:=P) hk f (by simpa using o)
  exact ⟨_,h⟩
 ·rw[K4,d];exact ep _
 ·show ((((fP a).map (WideElems.rg P k RU)).foldr DataW.insert []).map fun p=>strOf p.1).Perm _
  refine ((sorted_perm _).map _).trans (List.Perm.of_eq ?_);rw[List.map_map]
  apply K3
  ·simp[d]
  ·intro i h1 B
   have hi:i<(fP a).length:=by simpa using h1
   obtain ⟨s,y,hr,c⟩:=xV (P:=P) hk f (fu hi);obtain ⟨l,e,z⟩:=re (K2 hi);rw[vl,vl];rw[z] at c
   injection c with c
   subst c
   show strOf (((WideElems.rd P k RU (fP a)[i]).getD (.bool false,.nil)).1)=_
   rw[hr]
   show l.data.toList=_
   rw[K2 oM] at e
   rw[Option.some.inj e]
 ·show Maps.size (.map _)<=_
  rw[Maps.size_eq,(sorted_perm _).length_eq,K5,d];exact u
end
theorem ud {w w':World}{h:Hp}(g:G w h)(x:Ext w w'):∃ a,Up w h w' a/\∀ b,h.size<=b->a[b]?=w'.heap[b]?:=by
 have c:=x.size;have d:=g.size
 have key:∀ b,h.size<=b->(h++w'.heap.extract h.size w'.heap.size)[b]?=w'.heap[b]?:=fun b hb=>by
  rw[Array.getElem?_append_right hb,Array.getElem?_extract]
  by_cases hl:b<w'.heap.size
  ·rw[if_pos oM];congr 1;omega
  ·rw[if_neg oM,Array.getElem?_eq_none oM]
 refine ⟨h++w'.heap.extract h.size w'.heap.size,⟨x,⟨by simp,fun b hb=>po hb⟩,⟨by simp;omega,fun b=>?_⟩⟩,key⟩
 rcases eb b h.size with hb|hb
 ·rw[po hb]
  have e:=Below.block x b oM
  rcases g.blk b with h1|h1
  ·exact .inl (h1.trans e.symm)
  ·exact .inr h1
 ·exact .inl (key b hb)
theorem Fj (ok:ByteArray->Prop)(hok:∀ s,ok s->s.size<=1000)(d:Nat)(hd:d<=20)(p:PTm)(t:Tm)(w:World)(h:Hp)(g:G w h)(hT:TmH d h p t)(hW:WfT1 ok d t):CR 49 #[ar p] w h (fun v h1=>∃ (A:Z9)(c:Nat)(C:List ByteArray),v=.slice A C.length c/\C.length<=c/\C.length<=1048576/\SlO 1 eF ⟨#[]⟩ h1 A C/\∀ x,x∈C↔ii d t x):=by
 refine (callsIn_wide (n:=6)).1 (callsIn_of_wp Tryz.func49 rfl trivial ?_ rfl)
 simp only[Tryz.ntmps49,K4,ul,KR,Nat.reduceAdd,Nat.reduceSub,Array.replicate_succ,Array.replicate_zero,List.push_toArray,List.append_toArray,List.nil_append,List.cons_append]
 unfold ar
 have hfK:Fence.wide.fn 83:=trivial;have hf2:Fence.wide.fn 85:=trivial;have hf3:Fence.wide.fn 84:=trivial
 have O:∀ o:Obj,G ((w.alloc o).alloc (.map #[] 0)) ((h.push bj).push bj)/\MapK ((w.alloc o).alloc (.map #[] 0)) ((h.push bj).push bj) (w.heap.size+1) []/\TmH d ((h.push bj).push bj) p t:=fun o=>by
  have u1:Up w h (w.alloc o) (h.push bj):=Up.allocAny g o bj (.inr rfl);have u2:Up (w.alloc o) (h.push bj) ((w.alloc o).alloc (.map #[] 0)) ((h.push bj).push bj):=Up.allocAny u1.g _ _ (.inr rfl);refine ⟨u2.g,⟨?_,?_,List.nodup_nil⟩,(hT.gw u1.gr.gw).gw u2.gr.gw⟩
  ·rw[show w.heap.size+1=(h.push bj).size by rw[Array.size_push,g.size]];exact e6
  ·rw[heap_alloc,show w.heap.size+1=(w.alloc o).heap.size by simp];exact e6
 have W:∀ s,ii d t s->s.size<=maxLen:=fun s hs=>by have:=hok s (rk hW hs);unfold maxLen;omega
 have hcn:=vm hW;have hp2:2^d<=1048576:=eu (Nat.pow_le_pow_right oM hd) kD;have hmm:=@run_makeMap Tryz.prog
 gi_wp2
 gi_at_call 83
 generalize hW2:(w.alloc _).alloc (.map #[] 0)=W2
 have q:=O (.cells #[iV p.op,iV p.n,.bool (aw p.q.num),uV (lo (ab p.q.num)),.string (hi (ab p.q.num)),uV (lo (qd p.q)),.string (hi (qd p.q)),.string p.s,qS p.A p.m p.c] 32);rw[hW2] at q
 clear O
 have cg:=(callsIn_wide (n:=5)).2 (rz ok d p t (w.heap.size+1) [] W2 _ q.1 q.2.2 hW q.2.1)
 unfold ar at cg
 refine cg.mono ?_
 clear cg
 rintro e w' ⟨v,h3,rfl,M,rfl,C,ho,hn,L,hl⟩;have F:∀ x,x∈C↔ii d t x:=fun x=>by rw[L x];simp
 have S:C.length<=1048576:=by have:=(show C.length<=0+jG d t from hl);omega
 have bb:w.heap.size+2=W2.heap.size:=by rw[<-hW2];simp
 have j:Go.RowKit.Below w.heap.size w W2:=by rw[<-hW2];exact ((Below.refl _ w).alloc (nR _) _).alloc (by simp) _
 have Q:Go.RowKit.Below w.heap.size w w':=⟨M.mo.os.trans j.os,M.mo.tape.trans j.tape,M.mo.output.trans j.output,eu j.size M.mo.size,fun c hc=>(M.mo.blk c oM (fun hm=>by rw[ov] at hm;omega)).trans (j.block c hc)⟩
 clear L hW2
 obtain ⟨D,hD1,I,hD3⟩:=BN (P:=Tryz.prog) (k:=9) Tryz.underlying9 ho hn (fun s h_=>W s ((F s).1 h_)) S
 gi_wp2
 gi_at_call 85
 refine (wT _ _).mono ?_;rintro e w'' ⟨rfl,rfl⟩
 gi_wp2
 gi_at_call 84
 refine (qK (w.heap.size+1) C.length D RU w' hD1 (by unfold maxLen;omega) oM).mono ?_;rintro e w3 ⟨v,B,rfl,J,Y,-,X⟩;have U:=Q.size;have V:Ext w w3:=(Q.alloc U _).trans (X.mono (by simp;omega));obtain ⟨h',u,key⟩:=ud g V
 have H:∀ x:ByteArray,x∈((B.mergeSort fun x y=>decide (x<=y)).map fun z=>(⟨z.toArray⟩:ByteArray))↔ii d t x:=fun x=>by
  rw[<-F x,gs]
  constructor
  ·rintro ⟨z,hz,rfl⟩
   have h1:=(J.trans I).mem_iff.1 ((K6 B _).mem_iff.1 hz);obtain ⟨s,hs,e⟩:=gs.1 h1;have:s=⟨z.toArray⟩:=by cases s;rename_i a;simp at e;subst e;rfl
   rw[<-this];exact hs
  ·intro hx
   refine ⟨x.data.toList,(K6 B _).mem_iff.2 ((J.trans I).mem_iff.2 (gs.2 ⟨x,hx,rfl⟩)),?_⟩;cases x;simp
 have K:((B.mergeSort fun x y=>decide (x<=y)).map fun z=>(⟨z.toArray⟩:ByteArray)).length=B.length:=by rw[K5,(K6 B _).length_eq]
 have hzs:B.length<=1048576:=by rw[(J.trans I).length_eq,K5];exact S
 gi_wp2
 go_ret
 generalize hzz:((B.mergeSort fun x y=>decide (x<=y)).map fun z=>(⟨z.toArray⟩:ByteArray))=zz at H K
 refine ⟨v,h',rfl,u,?_⟩
 rcases Y with ⟨-,⟨rfl,hz⟩|⟨gb,cap,cur,rfl,hbase,hgb,r1,-,-,r4⟩⟩
 ·have:zz=[]:=List.eq_nil_of_length_eq_zero oM
  subst this;refine ⟨none,0,[],rfl,nR _,by simp,SlO.nil,fun x=>H x⟩
 ·refine ⟨sB gb,cap,zz,by rw[K],by omega,by omega,SlO.of_flat (sz:=1) (f:=eF) (d:=⟨#[]⟩) (b:=gb) (o:=0) (fun _=>rfl) fun i v hv=>?_,H⟩
  have hf:zz.flatMap eF=(B.mergeSort fun x y=>decide (x<=y)).map encStr:=by
   rw[<-hzz]
   generalize (B.mergeSort fun x y=>decide (x<=y))=q
   induction q with
   | nil=>rfl
   | cons a l ih=>rw[yx,yx,List.flatMap_cons,ih];rfl
  rw[hf,<-r4,Nat.mul_one] at hv
  have Z:cur.toList[i]?=some v:=by
   rw[List.getElem?_take] at hv
   split at hv
   ·exact hv
   ·cases hv
  have hgs:h.size<=gb:=by have:=g.size;simp at hbase;omega
  unfold dL
  rw[key gb hgs,hgb,yl]
  show cur[i]?=some v
  rw[<-Array.getElem?_toList];exact Z
end srt
def lE (c:Nat):Prop:=(97<=c/\c<=122)\/(65<=c/\c<=90)
def ur (c:Nat):Prop:=((97<=c/\c<=122)\/(65<=c/\c<=90))\/(48<=c/\c<=57)\/c=95
instance (c:Nat):Decidable (lE c):=by unfold lE;infer_instance
instance (c:Nat):Decidable (ur c):=by unfold ur;infer_instance
def k7 (s:ByteArray):Int:=if s=⟨#[97,98,115]⟩ then 9 else if s=⟨#[114,97,109,112]⟩ then 10 else if s=⟨#[98,101,110,100]⟩ then 11 else if s=⟨#[109,97,120]⟩ then 12 else if s=⟨#[109,105,110]⟩ then 13 else 0
def ej (s:ByteArray):Bool:=decide (k7 s≠0)
def aN (s:ByteArray):Bool:=decide (1<=s.size/\s.size<=20/\lE (aU s 0)/\(∀ i,i<s.size->ur (aU s i))/\ej s=false)
theorem wY {s:ByteArray}(h:¬(1<=s.size/\s.size<=20/\lE (aU s 0))):Value.bool false=.bool (aN s):=congrArg Value.bool (decide_eq_false fun x=>h ⟨x.1,x.2.1,x.2.2.1⟩).symm
theorem FV {s:ByteArray}{i:Nat}(h:i<s.size)(a:¬ur (aU s i)):Value.bool false=.bool (aN s):=congrArg Value.bool (decide_eq_false fun x=>a (x.2.2.2.1 i h)).symm
theorem GK {s:ByteArray}(h1:1<=s.size/\s.size<=20)(b:lE (aU s 0))(a:∀ i,i<s.size->ur (aU s i)):aN s = !ej s:=by
 unfold aN
 cases h:ej s
 ·exact decide_eq_true ⟨h1.1,h1.2,b,a,rfl⟩
 ·exact decide_eq_false fun x=>by cases x.2.2.2.2
def jb:List MapEntry:=[⟨.string ⟨#[97,98,115]⟩,.int .i64 9,0⟩,⟨.string ⟨#[114,97,109,112]⟩,.int .i64 10,1⟩,⟨.string ⟨#[98,101,110,100]⟩,.int .i64 11,2⟩,⟨.string ⟨#[109,97,120]⟩,.int .i64 12,3⟩,⟨.string ⟨#[109,105,110]⟩,.int .i64 13,4⟩]
theorem sE (s:ByteArray):(∃ i,Instr.findNow .string (.string s) jb 0=some (some (i,.int .i64 (k7 s)))/\ej s=true)\/(Instr.findNow .string (.string s) jb 0=some none/\ej s=false/\k7 s=0):=by
 by_cases h1:s=⟨#[97,98,115]⟩
 ·subst h1;exact .inl ⟨0,by kernel_rfl,by decide⟩
 by_cases h2:s=⟨#[114,97,109,112]⟩
 ·subst h2;exact .inl ⟨1,by kernel_rfl,by decide⟩
 by_cases h3:s=⟨#[98,101,110,100]⟩
 ·subst h3;exact .inl ⟨2,by kernel_rfl,by decide⟩
 by_cases h4:s=⟨#[109,97,120]⟩
 ·subst h4;exact .inl ⟨3,by kernel_rfl,by decide⟩
 by_cases h5:s=⟨#[109,105,110]⟩
 ·subst h5;exact .inl ⟨4,by kernel_rfl,by decide⟩
 have h:k7 s=0:=by unfold k7;rw[if_neg h1,if_neg h2,if_neg h3,if_neg h4,if_neg h5]
 refine .inr ⟨?_,by unfold ej;rw[h];rfl,h⟩
 rcases MapKept.findNow_spec (d:=.string) (k:=.string s) (by simp[MapKept.IsKey]) jb 0 (fun x f=>by
  simp only[jb,g1,List.not_mem_nil,or_false] at f
  rcases f with rfl|rfl|rfl|rfl|rfl<;>simp[MapKept.IsKey]) with ⟨a,_⟩|⟨j,e,a,b,c⟩
 ·exact a
 ·exfalso
  match j,b with
  | 0,b=>injection b with b;subst b;injection c with c;exact h1 c.symm
  | 1,b=>injection b with b;subst b;injection c with c;exact h2 c.symm
  | 2,b=>injection b with b;subst b;injection c with c;exact h3 c.symm
  | 3,b=>injection b with b;subst b;injection c with c;exact h4 c.symm
  | 4,b=>injection b with b;subst b;injection c with c;exact h5 c.symm
  | n+5,b=>cases b
theorem lm (c:Nat)(B:c<256)(w:World)(h:Hp)(g:G w h):CV 80 #[.int .u8 (c:Nat)] w h (.bool (decide (lE (c)))):=by
 have a:=sS g;refine go Tryz.func80 [(0,.int .u8 (c:Nat))] rfl (aa a ac (aR (lL a ac ?_)));cases d:(decide ((97:Int)<=(c:Int)))
 .
  have i:=oF d;refine lB 4 d (lL a ac (lG 6 ?_));refine lG 7 (lL a [.v qF,.c,.c] ?_);cases e:(decide ((65:Int)<=(c:Int)))
  .
   have l:=oF e;refine lB 11 e (lL a ac (lG 13 ?_));exact lG 14 (lL a [.v qF,.v qF,.c] (ae a [] qF (congrArg Value.bool (decide_eq_false (by unfold lE;omega)).symm)))
  have l:=oT e;refine lB 11 e (lL a aK ?_);cases b:(decide ((c:Int)<=(90:Int)))
  .
   have o:=oF b;exact lB 14 b (lL a [.v qF,.v qF,.c] (ae a [] qF (congrArg Value.bool (decide_eq_false (by unfold lE;omega)).symm)))
  have o:=oT b;exact lB 14 b (lL a [.v qT,.v qT,.c] (ae a [] qT (congrArg Value.bool (decide_eq_true (by unfold lE;omega)).symm)))
 have i:=oT d;refine lB 4 d (lL a aK ?_);cases f:(decide ((c:Int)<=(122:Int)))
 .
  have j:=oF f;refine lB 7 f (lL a [.v qF,.c,.c] ?_);have ⟨x,z⟩:=dT (p:=(65:Int)<=(c:Int)) oM;refine lB 11 x (lL a aK ?_);have ⟨u,y⟩:=dF (p:=(c:Int)<=(90:Int)) oM;exact lB 14 u (lL a [.v qF,.v qF,.c] (ae a [] qF (congrArg Value.bool (decide_eq_false (by unfold lE;omega)).symm)))
 have j:=oT f;refine lB 7 f (lL a [.v qT,.c] (lG 10 ?_));exact lG 11 (lG 12 (lG 13 (lG 14 (lG 15 (lL a [.v qT,.c] (ae a [] qT (congrArg Value.bool (decide_eq_true (by unfold lE;omega)).symm)))))))
theorem nK (c:Nat)(i:c<256)(w:World)(h:Hp)(g:G w h):CV 120 #[.int .u8 (c:Nat)] w h (.bool (decide (48<=(c)/\(c)<=57))):=by
 have a:=sS g;refine go Tryz.func120 [(0,.int .u8 (c:Nat))] rfl (aa a ac (aR (lL a ac ?_)));cases b:(decide ((48:Int)<=(c:Int)))
 .
  have e:=oF b;refine lB 4 b (lL a ac (lG 6 ?_));exact lG 7 (lL a [.v qF,.c] (ae a [] qF (congrArg Value.bool (decide_eq_false oM).symm)))
 have e:=oT b;refine lB 4 b (lL a aK ?_);cases d:(decide ((c:Int)<=(57:Int)))
 .
  have f:=oF d;exact lB 7 d (lL a [.v qF,.c] (ae a [] qF (congrArg Value.bool (decide_eq_false oM).symm)))
 have f:=oT d;exact lB 7 d (lL a [.v qT,.c] (ae a [] qT (congrArg Value.bool (decide_eq_true oM).symm)))
theorem pM (c:Nat)(l:c<256)(w:World)(h:Hp)(g:G w h):CV 81 #[.int .u8 (c:Nat)] w h (.bool (decide (ur (c)))):=by
 have a:=sS g;refine go Tryz.func81 [(0,.int .u8 (c:Nat))] rfl (aa a ac (aR (lL a ac (am 4 a (lm c l _ _ a.g) (fun w1 p a=>?_)))));cases f:(decide (lE (c)))
 .
  have j:=oF f;refine lL a aK (am 7 a (nK c l _ _ a.g) (fun w4 o a=>?_));cases e:(decide (48<=(c)/\(c)<=57))
  .
   have i:=oF e;refine lL a [.v qF,.c,.c] ?_;cases b:((c:Int) == (95:Int))
   .
    have d:=ag b;exact lB 11 b (lL a [.v qF,.c] (ae a [] qF (congrArg Value.bool (decide_eq_false (by unfold lE at *;unfold ur;omega)).symm)))
   have d:=eq_of_beq b;exact lB 11 b (lL a [.v qT,.c] (ae a [] qT (congrArg Value.bool (decide_eq_true (by unfold lE at *;unfold ur;omega)).symm)))
  have i:=oT e;refine lL a [.v qT,.c] (lG 10 ?_);exact lG 11 (lL a [.v qT,.c] (ae a [] qT (congrArg Value.bool (decide_eq_true (by unfold lE at *;unfold ur;omega)).symm)))
 have j:=oT f;refine lL a ac (lG 6 ?_);refine lG 7 (lL a [.v qT,.c] (lG 10 ?_));exact lG 11 (lL a [.v qT,.c] (ae a [] qT (congrArg Value.bool (decide_eq_true (by unfold lE at *;unfold ur;omega)).symm)))
theorem sa  (w:World)(h:Hp)(g:G w h):CR 82 #[] w h (fun v h1=>∃ b,v=.map (some b)/\MapS h1 b jb):=by
 have a:=sS g;refine go Tryz.func82 [] rfl (aa a ac (aR (FH 1 a (fun p w2 z a j=>ox 76 9 3 (⟨#[97,98,115]⟩) (iV 9) a j (fun x a i=>ox 76 9 3 (⟨#[114,97,109,112]⟩) (iV 10) a i (fun B a l=>ox 76 9 3 (⟨#[98,101,110,100]⟩) (iV 11) a l (fun y a e=>ox 76 9 3 (⟨#[109,97,120]⟩) (iV 12) a e (fun _ a c=>ox 76 9 3 (⟨#[109,105,110]⟩) (iV 13) a c (fun _ a d=>lL a ac ?_)))))))));obtain ⟨_,a,o⟩:=a.pubMap d;replace a:=a.to [] [];replace a:=a.add (K:=fun u=>MapS u p [⟨.string (⟨#[97,98,115]⟩),iV 9,0⟩,⟨.string (⟨#[114,97,109,112]⟩),iV 10,1⟩,⟨.string (⟨#[98,101,110,100]⟩),iV 11,2⟩,⟨.string (⟨#[109,97,120]⟩),iV 12,3⟩,⟨.string (⟨#[109,105,110]⟩),iV 13,4⟩]) o;exact lL a ac (ae a [] (.map (some p)) (⟨_,rfl,a.f.1⟩))
theorem Fk (s:ByteArray)(a:s.size<=1000000)(w:World)(h:Hp)(g:G w h):CV 48 #[.string s] w h (.bool (aN s)):=by
 have a:=sS g;refine go Tryz.func48 [(0,.string s)] rfl (aa a ac (af (aa a [.c,.v (nV s.size)] ?_)));cases l:(decide ((s.size:Int)<(1:Int)))
 .
  have D:=oF l;refine lB 8 l (lL a [.c,.c,.v (nV s.size)] ?_);cases d:(decide ((20:Int)<(s.size:Int)))
  .
   have u:=oF d;refine lB 12 d (lL a [.v qF,.c,.c] (lV 16 (.int .u8 (aU s 0:Nat)) ?_ (hr:=eg (tx:=9) (x:=.tmp 15) (i:=.const (iV 0)) (k:=.i64) (s:=s) (n:=0) (j:=(0:Int)) kR kR kR kR oM oM _)));refine am 17 a (lm ((aU s 0)) (cM _ _) _ _ a.g) (fun w3 V a=>?_);cases B:(decide (lE ((aU s 0))))
   .
    have z:=oF B;exact lL a [.v qT,.v qT] (au (aa a ac (ae a [] qF (wY (fun b=>by have y:=b.1;have C:=b.2.1;first|omega|exact absurd b.2.2 aM)))))
   have z:=oT B;refine lL a [.v qF,.v qF] (ah (cK (cQ (aa a [.c,.v (nV s.size),.c] (bh ?_)))));refine cj _ (CG.loop (fun I Γ M=>∃ (k:Nat)(b:Hp),I=s.size-k/\Γ=[(0,.string s),(21,nV s.size),(22,nV k)]/\SS w h M b [] [] []/\k<=s.size/\(∀ i,i<k->ur (aU s i))) _ ⟨0,V,rfl,rfl,a.to _ _,JL _,(fun i hi=>absurd hi (KO i))⟩ ?_);rintro _ _ X ⟨k,Y,Q,rfl,a,hk,p⟩;refine aD ?_;cases e:(decide ((k:Int)<(s.size:Int)))
   .
    have F:=oF e;refine lB 23 e (af (cW (CG.exit ?_)))
    show CG _ _ _ _ _ _ _ _
    refine aD (lC 32 a (sa _ _ a.g) ?_);rintro _ _ _ a ⟨S,rfl,H⟩;replace a:=(a.add (K:=fun b=>MapS b S jb) H);refine lL a ac (Gj 34 76 9 3 (s) true (iV (k7 s)) ((ej s)) a a.f.1 ?_ (hf:=(by rcases sE s with ⟨i_,e1_,e2_⟩|⟨e1_,e2_,e3_⟩;exact .inl ⟨i_,e1_,e2_⟩;exact .inr ⟨e1_,e2_,fun _=>by rw[e3_];kernel_rfl⟩)));refine lL a [.c,.v (iV (k7 s)),.v (.bool (ej s)),.c,.c] (aR (lL a ac ?_));cases J:(!(ej s))
    .
     refine lB 38 J (lL a ac (lN (kX ?_)));have o:=GK (s:=s) ⟨by omega,by omega⟩ aM (fun i hi=>p i oM);exact a.ret [] qF (congrArg Value.bool (by rw[o];exact (by assumption:(!ej s)=false).symm))
    refine lB 38 J (lL a ac (lN (kX ?_)));have o:=GK (s:=s) ⟨by omega,by omega⟩ aM (fun i hi=>p i oM);exact a.ret [] qT (congrArg Value.bool (by rw[o];exact (by assumption:(!ej s)=true).symm))
   have F:=oT e;refine lB 23 e (af (cl (cK (cQ (kZ (aa a aK (aR (lL a aK (lV 27 (.int .u8 (aU s k:Nat)) ?_ (hr:=eg (tx:=9) (x:=.tmp 25) (i:=.tmp 26) (k:=.i64) (s:=s) (n:=k) (j:=(k:Int)) kR kR kR kR oM oM _))))))))));refine am 28 a (pM ((aU s k)) (cM _ _) _ _ a.g) (fun _ U a=>?_);cases L:(decide (ur ((aU s k))))
   .
    have W:=oF L;exact lL a [.v qT] (au (aa a ac (ae a [] qF (FV (i:=k) oM aM))))
   have W:=oT L;refine lL a [.v qF] (ah (cK (kQ (bI 30 ((k:Nat)+1) (k+1) ?_))));refine lL a ac (lD ?_);intro Z O;refine ⟨_,_,?_,⟨k+1,U,rfl,rfl,a.to _ _,oM,(fun i hi=>by rcases K7.1 hi with b|rfl;exact p i b;assumption)⟩,O.to _ kR⟩
   omega
  have u:=oT d;refine lB 12 d (lL a [.v qT,.c] (lG 15 ?_));exact lG 16 (lG 17 (lG 18 (lL a [.v qT] (au (aa a ac (ae a [] qF (wY (fun b=>by have y:=b.1;have C:=b.2.1;first|omega|exact absurd b.2.2 aM))))))))
 have D:=oT l;refine lB 8 l (lL a ac (lG 10 ?_));refine lG 11 (lG 12 (lL a [.v qT,.c] (lG 15 ?_)));exact lG 16 (lG 17 (lG 18 (lL a [.v qT] (au (aa a ac (ae a [] qF (wY (fun b=>by have y:=b.1;have C:=b.2.1;first|omega|exact absurd b.2.2 aM))))))))
theorem oC  (isb:ByteArray->Bool)(sm:ByteArray->Prop)(qN:∀ s,sm s->∀ (w:World) (h:Hp),G w h->Calls Tryz.prog 48 #[.string s] w (Ret w h (fun v _=>∃ b,v=.bool b/\b=isb s)))(d:Nat)(p:PTm)(t:Tm)(J:d<=24)(w:World)(h:Hp)(g:G w h)(y:TmH d h p t)(l:rB sm d t):CR 27 #[ar p] w h (fun v _=>∃ e:Int,v=iV e/\((WfT (fun s=>isb s=true) d t/\e=(if 1000<ba d t then 18 else 0))\/(¬WfT (fun s=>isb s=true) d t/\e=2))):=by
 have a:=((sS g).add (K:=fun j=>TmH d j p t) y);refine go Tryz.func27 [(0,ar p)] rfl (aD (lA 1 32 (aI p) a (fun C w2 F a=>lL a ac (af (aa a [.o (ar p) 0 0 9] (am 4 a (sF sm d p t 24 _ _ a.g a.f.1 l oM oM) (fun w4 I a=>ah (cK (cQ (aa a [.o (ar p) 0 0 9] (lC 6 a (pI isb sm qN d p t _ _ a.g a.f.1 l) ?_)))))))))));rintro _ B H a ⟨u,rfl,c⟩;cases x:(u)
 .
  exact lL a [.v qT] (au (aa a ac (ae a [] (iV 2) (⟨_,rfl,.inr ⟨fun j=>Bool.noConfusion ((c.2 j).symm.trans aM),rfl⟩⟩))))
 refine lL a [.v qF] (ah (cK (cQ (aa a [.o (ar p) 0 0 9] (am 9 a (p8 (fun s=>isb s=true) d p t _ _ a.g a.f.1 (c.1 aM)) (fun D _ a=>?_))))));cases i:(decide ((1000:Int)<(((min (ba d t) 1001:Nat):Int):Int)))
 .
  have z:=oF i;exact lB 10 i (ah (cK (aa a ac (ae a [] (iV 0) (⟨_,rfl,.inl ⟨c.1 aM,by split<;>omega⟩⟩)))))
 have z:=oT i;exact lB 10 i (au (aa a ac (ae a [] (iV 18) (⟨_,rfl,.inl ⟨c.1 aM,by split<;>omega⟩⟩))))
theorem Gp (isb:ByteArray->Bool)(sm:ByteArray->Prop)(qN:∀ s,sm s->∀ (w:World) (h:Hp),G w h->Calls Tryz.prog 48 #[.string s] w (Ret w h (fun v _=>∃ b,v=.bool b/\b=isb s)))(c:∀ s,isb s=true->sm s)(h0:sm ⟨#[]⟩)(d:Nat)(p:PTm)(t:Tm)(o:d<=24)(w:World)(h:Hp)(g:G w h)(j:TmH d h p t)(f:WfT (fun s=>isb s=true) d t):Calls Tryz.prog 27 #[ar p] w (Ret w h (fun v _=>v=iV (if 1000<ba d t then 18 else 0))) :=
 (oC isb sm qN d p t o w h g j (f.sm c h0)).mono fun e w' ⟨v,l,e1,u,e2,i,a⟩=>⟨v,l,e1,u,by
  rcases a with ⟨_,a⟩|⟨a,_⟩
  ·rw[i,a]
  ·exact absurd f a⟩
theorem wn (A:Z9)(c:Nat)(w:World)(h:Hp)(g:G w h)(p:SlO 1 eF ⟨#[]⟩ h A ([⟨#[120]⟩,⟨#[121]⟩]:List ByteArray)):CR 20 #[.slice A 2 c] w h (fun v h1=>∃ b,v=.map (some b)/\MapS h1 b [⟨.string (⟨#[120]⟩),iV 0,0⟩,⟨.string (⟨#[121]⟩),iV 1,1⟩]):=by
 have a:=((sS g).aS p);have u:([⟨#[120]⟩,⟨#[121]⟩]:List ByteArray).length=2:=rfl;refine go Tryz.func20 [(0,qS A 2 c)] rfl (aa a ac (aR (FH 6 a (fun d w2 y a j=>lL a ac (af (aa a [.c,.v (iV 2),.c] (bh (cU ?_))))))));refine cN (aa a [.v qT] (af (cl (cK (cQ (kZ (aa a ac (lX 12 A 2 c 1 0 0 ((a.f.1).ok oM) ?_))))))));refine lH 13 (.string (⟨#[120]⟩)) a ((a.f.1).el 0 oM) (lL a aK (lN (kQ (lL a fE (ox 76 9 3 (⟨#[120]⟩) (iV 0) a j (fun x a e=>lN (kQ (lL a [.v (iV 1),.c] (lD (CL.to [(2,.map none),(3,.map (some d)),(7,qS A 2 c),(8,iV 2),(9,iV 1),(10,qT),(11,iV 0),(12,.pointer (some ⟨(aB A),aO A+0*1,none⟩)),(13,.string (⟨#[120]⟩)),(4,iV 0),(5,.string (⟨#[120]⟩)),(14,.map (some d)),(15,.string (⟨#[120]⟩)),(16,iV 0),(17,iV 1)] ?_))))))))));replace a:=a.to [] [];refine cN (aa a [.v qT] (af (cl (cK (cQ (kZ (aa a ac (lX 12 A 2 c 1 1 1 ((a.f.1).ok oM) ?_))))))));refine lH 13 (.string (⟨#[121]⟩)) a ((a.f.1).el 1 oM) (lL a aK (lN (kQ (lL a fE (ox 76 9 3 (⟨#[121]⟩) (iV 1) a e (fun z a l=>lN (kQ (lL a [.v (iV 2),.c] (lD (CL.to [(2,.map none),(3,.map (some d)),(7,qS A 2 c),(8,iV 2),(9,iV 2),(10,qT),(11,iV 1),(12,.pointer (some ⟨(aB A),aO A+1*1,none⟩)),(13,.string (⟨#[121]⟩)),(4,iV 1),(5,.string (⟨#[121]⟩)),(14,.map (some d)),(15,.string (⟨#[121]⟩)),(16,iV 1),(17,iV 2)] ?_))))))))));replace a:=a.to [] [];refine cN (aa a [.v qF] (af (cW (CG.exit ?_))))
 show CG _ _ _ _ _ _ _ _
 refine aa a ac ?_;obtain ⟨B,a,i⟩:=a.pubMap l;replace a:=a.to [] [];replace a:=a.add (K:=fun o=>MapS o d [⟨.string (⟨#[120]⟩),iV 0,0⟩,⟨.string (⟨#[121]⟩),iV 1,1⟩]) i;exact lL a ac (ae a [] (.map (some d)) (⟨_,rfl,a.f.1⟩))
theorem xt (A:Z9)(c:Nat)(w:World)(h:Hp)(g:G w h)(y:SlO 1 eF ⟨#[]⟩ h A ([⟨#[120]⟩,⟨#[121]⟩,⟨#[122]⟩,⟨#[120]⟩]:List ByteArray)):CR 20 #[.slice A 4 c] w h (fun v h1=>∃ b,v=.map (some b)/\MapS h1 b [⟨.string (⟨#[120]⟩),iV 3,0⟩,⟨.string (⟨#[121]⟩),iV 1,1⟩,⟨.string (⟨#[122]⟩),iV 2,2⟩]):=by
 have a:=((sS g).aS y);have z:([⟨#[120]⟩,⟨#[121]⟩,⟨#[122]⟩,⟨#[120]⟩]:List ByteArray).length=4:=rfl;refine go Tryz.func20 [(0,qS A 4 c)] rfl (aa a ac (aR (FH 6 a (fun d w2 D a o=>lL a ac (af (aa a [.c,.v (iV 4),.c] (bh (cU ?_))))))));refine cN (aa a [.v qT] (af (cl (cK (cQ (kZ (aa a ac (lX 12 A 4 c 1 0 0 ((a.f.1).ok oM) ?_))))))));refine lH 13 (.string (⟨#[120]⟩)) a ((a.f.1).el 0 oM) (lL a aK (lN (kQ (lL a fE (ox 76 9 3 (⟨#[120]⟩) (iV 0) a o (fun B a l=>lN (kQ (lL a [.v (iV 1),.c] (lD (CL.to [(2,.map none),(3,.map (some d)),(7,qS A 4 c),(8,iV 4),(9,iV 1),(10,qT),(11,iV 0),(12,.pointer (some ⟨(aB A),aO A+0*1,none⟩)),(13,.string (⟨#[120]⟩)),(4,iV 0),(5,.string (⟨#[120]⟩)),(14,.map (some d)),(15,.string (⟨#[120]⟩)),(16,iV 0),(17,iV 1)] ?_))))))))));replace a:=a.to [] [];refine cN (aa a [.v qT] (af (cl (cK (cQ (kZ (aa a ac (lX 12 A 4 c 1 1 1 ((a.f.1).ok oM) ?_))))))));refine lH 13 (.string (⟨#[121]⟩)) a ((a.f.1).el 1 oM) (lL a aK (lN (kQ (lL a fE (ox 76 9 3 (⟨#[121]⟩) (iV 1) a l (fun F a u=>lN (kQ (lL a [.v (iV 2),.c] (lD (CL.to [(2,.map none),(3,.map (some d)),(7,qS A 4 c),(8,iV 4),(9,iV 2),(10,qT),(11,iV 1),(12,.pointer (some ⟨(aB A),aO A+1*1,none⟩)),(13,.string (⟨#[121]⟩)),(4,iV 1),(5,.string (⟨#[121]⟩)),(14,.map (some d)),(15,.string (⟨#[121]⟩)),(16,iV 1),(17,iV 2)] ?_))))))))));replace a:=a.to [] [];refine cN (aa a [.v qT] (af (cl (cK (cQ (kZ (aa a ac (lX 12 A 4 c 1 2 2 ((a.f.1).ok oM) ?_))))))));refine lH 13 (.string (⟨#[122]⟩)) a ((a.f.1).el 2 oM) (lL a aK (lN (kQ (lL a fE (ox 76 9 3 (⟨#[122]⟩) (iV 2) a u (fun C a j=>lN (kQ (lL a [.v (iV 3),.c] (lD (CL.to [(2,.map none),(3,.map (some d)),(7,qS A 4 c),(8,iV 4),(9,iV 3),(10,qT),(11,iV 2),(12,.pointer (some ⟨(aB A),aO A+2*1,none⟩)),(13,.string (⟨#[122]⟩)),(4,iV 2),(5,.string (⟨#[122]⟩)),(14,.map (some d)),(15,.string (⟨#[122]⟩)),(16,iV 2),(17,iV 3)] ?_))))))))));replace a:=a.to [] [];refine cN (aa a [.v qT] (af (cl (cK (cQ (kZ (aa a ac (lX 12 A 4 c 1 3 3 ((a.f.1).ok oM) ?_))))))));refine lH 13 (.string (⟨#[120]⟩)) a ((a.f.1).el 3 oM) (lL a aK (lN (kQ (lL a fE (Jm (i:=0) 76 9 3 (⟨#[120]⟩) (iV 3) (iV 0) [⟨.string (⟨#[120]⟩),iV 3,0⟩,⟨.string (⟨#[121]⟩),iV 1,1⟩,⟨.string (⟨#[122]⟩),iV 2,2⟩] a j (fun _ a e=>lN (kQ (lL a [.v (iV 4),.c] (lD (CL.to [(2,.map none),(3,.map (some d)),(7,qS A 4 c),(8,iV 4),(9,iV 4),(10,qT),(11,iV 3),(12,.pointer (some ⟨(aB A),aO A+3*1,none⟩)),(13,.string (⟨#[120]⟩)),(4,iV 3),(5,.string (⟨#[120]⟩)),(14,.map (some d)),(15,.string (⟨#[120]⟩)),(16,iV 3),(17,iV 4)] ?_))))))))));replace a:=a.to [] [];refine cN (aa a [.v qF] (af (cW (CG.exit ?_))))
 show CG _ _ _ _ _ _ _ _
 refine aa a ac ?_;obtain ⟨_,a,p⟩:=a.pubMap e;replace a:=a.to [] [];replace a:=a.add (K:=fun x=>MapS x d [⟨.string (⟨#[120]⟩),iV 3,0⟩,⟨.string (⟨#[121]⟩),iV 1,1⟩,⟨.string (⟨#[122]⟩),iV 2,2⟩]) p;exact lL a ac (ae a [] (.map (some d)) (⟨_,rfl,a.f.1⟩))
theorem vF (A:Z9)(c:Nat)(w:World)(h:Hp)(g:G w h)(x:SlO 1 eF ⟨#[]⟩ h A ([⟨#[122]⟩,⟨#[121]⟩,⟨#[120]⟩,⟨#[119]⟩]:List ByteArray)):CR 20 #[.slice A 4 c] w h (fun v h1=>∃ b,v=.map (some b)/\MapS h1 b [⟨.string (⟨#[122]⟩),iV 0,0⟩,⟨.string (⟨#[121]⟩),iV 1,1⟩,⟨.string (⟨#[120]⟩),iV 2,2⟩,⟨.string (⟨#[119]⟩),iV 3,3⟩]):=by
 have a:=((sS g).aS x);have y:([⟨#[122]⟩,⟨#[121]⟩,⟨#[120]⟩,⟨#[119]⟩]:List ByteArray).length=4:=rfl;refine go Tryz.func20 [(0,qS A 4 c)] rfl (aa a ac (aR (FH 6 a (fun d w2 C a l=>lL a ac (af (aa a [.c,.v (iV 4),.c] (bh (cU ?_))))))));refine cN (aa a [.v qT] (af (cl (cK (cQ (kZ (aa a ac (lX 12 A 4 c 1 0 0 ((a.f.1).ok oM) ?_))))))));refine lH 13 (.string (⟨#[122]⟩)) a ((a.f.1).el 0 oM) (lL a aK (lN (kQ (lL a fE (ox 76 9 3 (⟨#[122]⟩) (iV 0) a l (fun z a j=>lN (kQ (lL a [.v (iV 1),.c] (lD (CL.to [(2,.map none),(3,.map (some d)),(7,qS A 4 c),(8,iV 4),(9,iV 1),(10,qT),(11,iV 0),(12,.pointer (some ⟨(aB A),aO A+0*1,none⟩)),(13,.string (⟨#[122]⟩)),(4,iV 0),(5,.string (⟨#[122]⟩)),(14,.map (some d)),(15,.string (⟨#[122]⟩)),(16,iV 0),(17,iV 1)] ?_))))))))));replace a:=a.to [] [];refine cN (aa a [.v qT] (af (cl (cK (cQ (kZ (aa a ac (lX 12 A 4 c 1 1 1 ((a.f.1).ok oM) ?_))))))));refine lH 13 (.string (⟨#[121]⟩)) a ((a.f.1).el 1 oM) (lL a aK (lN (kQ (lL a fE (ox 76 9 3 (⟨#[121]⟩) (iV 1) a j (fun D a p=>lN (kQ (lL a [.v (iV 2),.c] (lD (CL.to [(2,.map none),(3,.map (some d)),(7,qS A 4 c),(8,iV 4),(9,iV 2),(10,qT),(11,iV 1),(12,.pointer (some ⟨(aB A),aO A+1*1,none⟩)),(13,.string (⟨#[121]⟩)),(4,iV 1),(5,.string (⟨#[121]⟩)),(14,.map (some d)),(15,.string (⟨#[121]⟩)),(16,iV 1),(17,iV 2)] ?_))))))))));replace a:=a.to [] [];refine cN (aa a [.v qT] (af (cl (cK (cQ (kZ (aa a ac (lX 12 A 4 c 1 2 2 ((a.f.1).ok oM) ?_))))))));refine lH 13 (.string (⟨#[120]⟩)) a ((a.f.1).el 2 oM) (lL a aK (lN (kQ (lL a fE (ox 76 9 3 (⟨#[120]⟩) (iV 2) a p (fun B a i=>lN (kQ (lL a [.v (iV 3),.c] (lD (CL.to [(2,.map none),(3,.map (some d)),(7,qS A 4 c),(8,iV 4),(9,iV 3),(10,qT),(11,iV 2),(12,.pointer (some ⟨(aB A),aO A+2*1,none⟩)),(13,.string (⟨#[120]⟩)),(4,iV 2),(5,.string (⟨#[120]⟩)),(14,.map (some d)),(15,.string (⟨#[120]⟩)),(16,iV 2),(17,iV 3)] ?_))))))))));replace a:=a.to [] [];refine cN (aa a [.v qT] (af (cl (cK (cQ (kZ (aa a ac (lX 12 A 4 c 1 3 3 ((a.f.1).ok oM) ?_))))))));refine lH 13 (.string (⟨#[119]⟩)) a ((a.f.1).el 3 oM) (lL a aK (lN (kQ (lL a fE (ox 76 9 3 (⟨#[119]⟩) (iV 3) a i (fun _ a e=>lN (kQ (lL a [.v (iV 4),.c] (lD (CL.to [(2,.map none),(3,.map (some d)),(7,qS A 4 c),(8,iV 4),(9,iV 4),(10,qT),(11,iV 3),(12,.pointer (some ⟨(aB A),aO A+3*1,none⟩)),(13,.string (⟨#[119]⟩)),(4,iV 3),(5,.string (⟨#[119]⟩)),(14,.map (some d)),(15,.string (⟨#[119]⟩)),(16,iV 3),(17,iV 4)] ?_))))))))));replace a:=a.to [] [];refine cN (aa a [.v qF] (af (cW (CG.exit ?_))))
 show CG _ _ _ _ _ _ _ _
 refine aa a ac ?_;obtain ⟨_,a,o⟩:=a.pubMap e;replace a:=a.to [] [];replace a:=a.add (K:=fun u=>MapS u d [⟨.string (⟨#[122]⟩),iV 0,0⟩,⟨.string (⟨#[121]⟩),iV 1,1⟩,⟨.string (⟨#[120]⟩),iV 2,2⟩,⟨.string (⟨#[119]⟩),iV 3,3⟩]) o;exact lL a ac (ae a [] (.map (some d)) (⟨_,rfl,a.f.1⟩))
theorem uG (A:Z9)(c:Nat)(w:World)(h:Hp)(g:G w h)(u:SlO 1 eF ⟨#[]⟩ h A ea):CR 20 #[.slice A 3 c] w h (fun v h1=>∃ b,v=.map (some b)/\MapS h1 b [⟨.string (⟨#[120]⟩),iV 0,0⟩,⟨.string (⟨#[121]⟩),iV 1,1⟩,⟨.string (⟨#[122]⟩),iV 2,2⟩]):=by
 have a:=((sS g).aS u);have x:ea.length=3:=rfl;refine go Tryz.func20 [(0,qS A 3 c)] rfl (aa a ac (aR (FH 6 a (fun d w2 B a j=>lL a ac (af (aa a [.c,.v (iV 3),.c] (bh (cU ?_))))))));refine cN (aa a [.v qT] (af (cl (cK (cQ (kZ (aa a ac (lX 12 A 3 c 1 0 0 ((a.f.1).ok oM) ?_))))))));refine lH 13 (.string (⟨#[120]⟩)) a ((a.f.1).el 0 oM) (lL a aK (lN (kQ (lL a fE (ox 76 9 3 (⟨#[120]⟩) (iV 0) a j (fun y a i=>lN (kQ (lL a [.v (iV 1),.c] (lD (CL.to [(2,.map none),(3,.map (some d)),(7,qS A 3 c),(8,iV 3),(9,iV 1),(10,qT),(11,iV 0),(12,.pointer (some ⟨(aB A),aO A+0*1,none⟩)),(13,.string (⟨#[120]⟩)),(4,iV 0),(5,.string (⟨#[120]⟩)),(14,.map (some d)),(15,.string (⟨#[120]⟩)),(16,iV 0),(17,iV 1)] ?_))))))))));replace a:=a.to [] [];refine cN (aa a [.v qT] (af (cl (cK (cQ (kZ (aa a ac (lX 12 A 3 c 1 1 1 ((a.f.1).ok oM) ?_))))))));refine lH 13 (.string (⟨#[121]⟩)) a ((a.f.1).el 1 oM) (lL a aK (lN (kQ (lL a fE (ox 76 9 3 (⟨#[121]⟩) (iV 1) a i (fun C a o=>lN (kQ (lL a [.v (iV 2),.c] (lD (CL.to [(2,.map none),(3,.map (some d)),(7,qS A 3 c),(8,iV 3),(9,iV 2),(10,qT),(11,iV 1),(12,.pointer (some ⟨(aB A),aO A+1*1,none⟩)),(13,.string (⟨#[121]⟩)),(4,iV 1),(5,.string (⟨#[121]⟩)),(14,.map (some d)),(15,.string (⟨#[121]⟩)),(16,iV 1),(17,iV 2)] ?_))))))))));replace a:=a.to [] [];refine cN (aa a [.v qT] (af (cl (cK (cQ (kZ (aa a ac (lX 12 A 3 c 1 2 2 ((a.f.1).ok oM) ?_))))))));refine lH 13 (.string (⟨#[122]⟩)) a ((a.f.1).el 2 oM) (lL a aK (lN (kQ (lL a fE (ox 76 9 3 (⟨#[122]⟩) (iV 2) a o (fun z a e=>lN (kQ (lL a [.v (iV 3),.c] (lD (CL.to [(2,.map none),(3,.map (some d)),(7,qS A 3 c),(8,iV 3),(9,iV 3),(10,qT),(11,iV 2),(12,.pointer (some ⟨(aB A),aO A+2*1,none⟩)),(13,.string (⟨#[122]⟩)),(4,iV 2),(5,.string (⟨#[122]⟩)),(14,.map (some d)),(15,.string (⟨#[122]⟩)),(16,iV 2),(17,iV 3)] ?_))))))))));replace a:=a.to [] [];refine cN (aa a [.v qF] (af (cW (CG.exit ?_))))
 show CG _ _ _ _ _ _ _ _
 refine aa a ac ?_;obtain ⟨_,a,l⟩:=a.pubMap e;replace a:=a.to [] [];replace a:=a.add (K:=fun p=>MapS p d [⟨.string (⟨#[120]⟩),iV 0,0⟩,⟨.string (⟨#[121]⟩),iV 1,1⟩,⟨.string (⟨#[122]⟩),iV 2,2⟩]) l;exact lL a ac (ae a [] (.map (some d)) (⟨_,rfl,a.f.1⟩))
theorem wF (A:Z9)(c:Nat)(w:World)(h:Hp)(g:G w h)(o:SlO 1 eF ⟨#[]⟩ h A ([⟨#[120]⟩]:List ByteArray)):CR 20 #[.slice A 1 c] w h (fun v h1=>∃ b,v=.map (some b)/\MapS h1 b [⟨.string (⟨#[120]⟩),iV 0,0⟩]):=by
 have a:=((sS g).aS o);have p:([⟨#[120]⟩]:List ByteArray).length=1:=rfl;refine go Tryz.func20 [(0,qS A 1 c)] rfl (aa a ac (aR (FH 6 a (fun i w2 x a e=>lL a ac (af (aa a [.c,.v (iV 1),.c] (bh (cU ?_))))))));refine cN (aa a [.v qT] (af (cl (cK (cQ (kZ (aa a ac (lX 12 A 1 c 1 0 0 ((a.f.1).ok oM) ?_))))))));refine lH 13 (.string (⟨#[120]⟩)) a ((a.f.1).el 0 oM) (lL a aK (lN (kQ (lL a fE (ox 76 9 3 (⟨#[120]⟩) (iV 0) a e (fun u a d=>lN (kQ (lL a [.v (iV 1),.c] (lD (CL.to [(2,.map none),(3,.map (some i)),(7,qS A 1 c),(8,iV 1),(9,iV 1),(10,qT),(11,iV 0),(12,.pointer (some ⟨(aB A),aO A+0*1,none⟩)),(13,.string (⟨#[120]⟩)),(4,iV 0),(5,.string (⟨#[120]⟩)),(14,.map (some i)),(15,.string (⟨#[120]⟩)),(16,iV 0),(17,iV 1)] ?_))))))))));replace a:=a.to [] [];refine cN (aa a [.v qF] (af (cW (CG.exit ?_))))
 show CG _ _ _ _ _ _ _ _
 refine aa a ac ?_;obtain ⟨y,a,j⟩:=a.pubMap d;replace a:=a.to [] [];replace a:=a.add (K:=fun l=>MapS l i [⟨.string (⟨#[120]⟩),iV 0,0⟩]) j;exact lL a ac (ae a [] (.map (some i)) (⟨_,rfl,a.f.1⟩))
def uD (isb:ByteArray->Bool)(d:Nat)(t:Tm):Prop:=WfT1 (fun s=>isb s=true) d t/\ba d t<=1000
theorem o5:∀ s,it s->∀ (w:World) (h:Hp),G w h->Calls Tryz.prog 48 #[.string s] w (Ret w h (fun v _=>∃ b,v=.bool b/\b=aN s)):=fun s a w h g =>
 (Fk s (by unfold it at a;omega) w h g).mono fun e w' ⟨v,c,e1,u,e2⟩=>⟨v,c,e1,u,_,e2,rfl⟩
theorem mm {s:ByteArray}(h:aN s=true):it s:=by
 have:=oT h
 unfold it;omega
theorem GW {b:Bool}(h:(!b)=false):b=true:=by cases b<;>first|rfl|cases h
theorem Iw {b:Bool}(h:(!b)=true):b=false:=by cases b<;>first|rfl|cases h
theorem Eu {l:List ByteArray}{k:Nat}(h:k<l.length):l.getD k ⟨#[]⟩∈l:=by
 rw[zY,K2 h];exact fu h
theorem B8 {l:List ByteArray}{s:ByteArray}(h:s∈l):∃ i,i<l.length/\l.getD i ⟨#[]⟩=s:=by
 obtain ⟨i,hi,e⟩:=List.mem_iff_getElem.1 h;exact ⟨i,hi,by rw[zY,K2 hi];exact e⟩
theorem td {ok sm:ByteArray->Prop}:∀ {d:Nat} {t:Tm},SmT1 sm d t->WfT ok d t->WfT1 ok d t
 | _+1,_,⟨_,_,_,s4,_,s6⟩,⟨h1,h2,_,h4,h5,h6,h7,h8,h9⟩=>⟨h1,h2,s4,h4,h5,h6,h7,h8,fun i hi=>td (s6 i hi) (h9 i hi)⟩
theorem uH {isb:ByteArray->Bool}{sm:ByteArray->Prop}{d:Nat}{t:Tm}{e:Int}(a:SmT1 sm d t)(h:(WfT (fun s=>isb s=true) d t/\e=(if 1000<ba d t then 18 else 0))\/(¬WfT (fun s=>isb s=true) d t/\e=2))(z:e=0):WfT1 (fun s=>isb s=true) d t/\ba d t<=1000:=by
 rcases h with ⟨h1,h2⟩|⟨h1,h2⟩
 ·refine ⟨td a h1,?_⟩
  split at h2<;>omega
 ·omega
theorem GH {isb:ByteArray->Bool}{d:Nat}{t:Tm}{e:Int}(h:(WfT (fun s=>isb s=true) d t/\e=(if 1000<ba d t then 18 else 0))\/(¬WfT (fun s=>isb s=true) d t/\e=2))(z:uD isb d t):e=0:=by
 rcases h with ⟨h1,h2⟩|⟨h1,h2⟩
 ·rw[h2,if_neg (by have:=z.2;omega)]
 ·exact absurd z.1.wf h1
def NsD (ns:List ByteArray):Prop:=ns=([⟨#[120]⟩,⟨#[121]⟩]:List ByteArray)\/ns=([⟨#[120]⟩,⟨#[121]⟩,⟨#[122]⟩,⟨#[120]⟩]:List ByteArray)\/ns=([⟨#[109,97,120]⟩,⟨#[120]⟩,⟨#[121]⟩,⟨#[122]⟩]:List ByteArray)\/ns=([⟨#[122]⟩,⟨#[121]⟩,⟨#[120]⟩,⟨#[119]⟩]:List ByteArray)\/ns=ea\/ns=([⟨#[120]⟩]:List ByteArray)
theorem NsD.len {ns:List ByteArray}(h:NsD ns):ns.length<=4/\1<=ns.length:=by
 rcases h with rfl|rfl|rfl|rfl|rfl|rfl<;>decide
theorem NsD.small {ns:List ByteArray}(h:NsD ns):∀ i,i<ns.length->it (ns.getD i ⟨#[]⟩):=by
 unfold it
 rcases h with rfl|rfl|rfl|rfl|rfl|rfl<;>decide
def xc:List MapEntry:=[⟨.string ⟨#[120]⟩,.int .i64 3,0⟩,⟨.string ⟨#[121]⟩,.int .i64 1,1⟩,⟨.string ⟨#[122]⟩,.int .i64 2,2⟩]
def oo:List ByteArray:=([⟨#[120]⟩,⟨#[121]⟩,⟨#[122]⟩,⟨#[120]⟩]:List ByteArray)
def jF (ns:List ByteArray):List MapEntry:=if ns=oo then xc else qH ns 0
def vN (ns:List ByteArray)(s:ByteArray):Int:=if ns=oo then (if s=⟨#[120]⟩ then 3 else if s=⟨#[121]⟩ then 1 else if s=⟨#[122]⟩ then 2 else 0) else HC ns s
theorem EA (s:ByteArray):(∃ i,Instr.findNow .string (.string s) xc 0=some (some (i,.int .i64 (vN oo s)))/\decide (s∈oo)=true)\/(Instr.findNow .string (.string s) xc 0=some none/\decide (s∈oo)=false/\vN oo s=0):=by
 by_cases h1:s=⟨#[120]⟩
 ·subst h1;exact .inl ⟨0,by kernel_rfl,by decide⟩
 by_cases h2:s=⟨#[121]⟩
 ·subst h2;exact .inl ⟨1,by kernel_rfl,by decide⟩
 by_cases h3:s=⟨#[122]⟩
 ·subst h3;exact .inl ⟨2,by kernel_rfl,by decide⟩
 refine .inr ⟨?_,decide_eq_false (fun h=>?_),by unfold vN;rw[if_pos rfl,if_neg h1,if_neg h2,if_neg h3]⟩
 ·rcases MapKept.findNow_spec (d:=.string) (k:=.string s) (by simp[MapKept.IsKey]) xc 0 (fun x f=>by
   simp only[xc,g1,List.not_mem_nil,or_false] at f
   rcases f with rfl|rfl|rfl<;>simp[MapKept.IsKey]) with ⟨a,_⟩|⟨j,e,a,b,c⟩
  ·exact a
  ·exfalso
   match j,b with
   | 0,b=>injection b with b;subst b;injection c with c;exact h1 c.symm
   | 1,b=>injection b with b;subst b;injection c with c;exact h2 c.symm
   | 2,b=>injection b with b;subst b;injection c with c;exact h3 c.symm
   | n+3,b=>cases b
 ·simp only[oo,g1,List.not_mem_nil,or_false] at h
  rcases h with h|h|h|h
  ·exact h1 h
  ·exact h2 h
  ·exact h3 h
  ·exact h1 h
theorem Jt {ns:List ByteArray}(a:NsD ns)(_:∀ i,i<ns.length->aN (ns.getD i ⟨#[]⟩)=true)(s:ByteArray):(∃ i,Instr.findNow .string (.string s) (jF ns) 0=some (some (i,.int .i64 (vN ns s)))/\decide (s∈ns)=true)\/(Instr.findNow .string (.string s) (jF ns) 0=some none/\decide (s∈ns)=false/\vN ns s=0):=by
 by_cases hd:ns=oo
 ·subst hd;unfold jF;rw[if_pos rfl];exact EA s
 ·unfold jF vN;rw[if_neg hd,if_neg hd]
  refine CO ?_ s
  rcases a with rfl|rfl|rfl|rfl|rfl|rfl
  ·decide
  ·exact absurd rfl hd
  ·decide
  ·decide
  ·decide
  ·decide
theorem xh {ns:List ByteArray}(a:NsD ns):ns.Nodup↔(jF ns).length=ns.length:=by
 rcases a with rfl|rfl|rfl|rfl|rfl|rfl<;>decide
theorem kJ {ns:List ByteArray}(e:NsD ns)(d:∀ i,i<ns.length->aN (ns.getD i ⟨#[]⟩)=true)(A:Z9)(c:Nat)(w:World)(h:Hp)(g:G w h)(a:SlO 1 eF ⟨#[]⟩ h A ns):Calls Tryz.prog 20 #[.slice A ns.length c] w (Ret w h (fun v h1=>∃ b,v=.map (some b)/\MapS h1 b (jF ns))):=by
 rcases e with rfl|rfl|rfl|rfl|rfl|rfl
 ·exact wn A c w h g a
 ·exact xt A c w h g a
 ·exact absurd (d 0 kD) kD
 ·exact vF A c w h g a
 ·exact uG A c w h g a
 ·exact wF A c w h g a
def DckR (d:Nat)(t:Tm)(ns:List ByteArray)(M:Prop)(e:Int):Prop :=
  (¬uD aN d t/\e=1)\/(uD aN d t/\((¬M/\e=5)\/(M/\((¬(∀ i,i<ns.length->aN (ns.getD i ⟨#[]⟩)=true)/\e=11)\/((∀ i,i<ns.length->aN (ns.getD i ⟨#[]⟩)=true)/\((¬(∀ s,ii d t s->s∈ns)/\e=11)\/((∀ s,ii d t s->s∈ns)/\((¬ns.Nodup/\e=8)\/(ns.Nodup/\e=0)))))))))
theorem DckR.uniq {d:Nat}{t:Tm}{ns:List ByteArray}{M:Prop}{e h:Int}(x:DckR d t ns M e)(y:DckR d t ns M h):e=h:=by
 rcases x with ⟨a,rfl⟩|⟨a,⟨b,rfl⟩|⟨b,⟨c,rfl⟩|⟨c,⟨f,rfl⟩|⟨f,⟨i,rfl⟩|⟨i,rfl⟩⟩⟩⟩⟩ <;>
 rcases y with ⟨a',rfl⟩|⟨a',⟨b',rfl⟩|⟨b',⟨c',rfl⟩|⟨c',⟨f',rfl⟩|⟨f',⟨i',rfl⟩|⟨i',rfl⟩⟩⟩⟩⟩ <;>
 first
 | rfl
 | exact absurd a' a
 | exact absurd a a'
 | exact absurd b' b
 | exact absurd b b'
 | exact absurd c' c
 | exact absurd c c'
 | exact absurd f' f
 | exact absurd f f'
 | exact absurd i' i
 | exact absurd i i'
theorem DckR.ok {d:Nat}{t:Tm}{ns:List ByteArray}{M:Prop}{e:Int}(x:DckR d t ns M e)(h:e=0):uD aN d t/\M/\(∀ i,i<ns.length->aN (ns.getD i ⟨#[]⟩)=true)/\(∀ s,ii d t s->s∈ns)/\ns.Nodup:=by
 rcases x with ⟨a,rfl⟩|⟨a,⟨b,rfl⟩|⟨b,⟨c,rfl⟩|⟨c,⟨f,rfl⟩|⟨f,⟨i,rfl⟩|⟨i,rfl⟩⟩⟩⟩⟩
 ·cases h
 ·cases h
 ·cases h
 ·cases h
 ·cases h
 ·exact ⟨a,b,c,f,i⟩
theorem tf (d:Nat)(p:PTm)(t:Tm)(hd:d<=20)(C:Z9)(y:Nat)(ns:List ByteArray)(z:NsD ns)(S:Z9)(cu:Nat)(us:List Value)(U:List Nat)(bf:us.length<=10)(hus:∀ j,j<us.length->∃ A c,us.getD j undef=.slice A (U.getD j 0) c/\U.getD j 0<=1000000)(w:World)(h:Hp)(g:G w h)(hT:TmH d h p t)(hS:SmT1 it d t)(hN:SlO 1 eF ⟨#[]⟩ h C ns)(hU:Sv S us h):CR 19 #[ar p,.slice C ns.length y,.slice S us.length cu] w h (fun v _=>∃ e:Int,v=iV e/\DckR d t ns (∀ j,j<us.length->U.getD j 0=ns.length) e):=by
 have a:=((((sS g).add (K:=fun b=>TmH d b p t) hT).aS hN).aS hU);have bq:=z.len;refine go Tryz.func19 [(0,ar p),(1,qS C ns.length y),(2,qS S us.length cu)] rfl (aD (lA 3 32 (aI p) a (fun V w2 h3 a=>lL a ac (af (aa a [.o (ar p) 0 0 9] (lC 17 a (oC aN it o5 d p t oM _ _ a.g a.f.r.1 hS.sm) ?_))))));rintro _ w4 h5 a ⟨ec,rfl,L⟩;cases J:((ec:Int) != (0:Int))
 .
  have bb:=aY J;refine lB 18 J (ah (cK (cQ (aa a [.c,.v (nV us.length),.c] (bh ?_)))));refine cj _ (CG.loop (fun H Γ X=>∃ (u:Nat)(b:Hp),H=us.length-u/\Γ=[(1,qS C ns.length y),(3,pB V),(19,qS S us.length cu),(20,nV us.length),(21,nV u)]/\SS w h X b [⟨V,32,aI p⟩] [] [Sv S us,fun b=>SlO 1 eF ⟨#[]⟩ b C ns,fun b=>TmH d b p t]/\u<=us.length/\(∀ i,i<u->U.getD i 0=ns.length)) _ ⟨0,h5,rfl,rfl,a.to _ _,JL _,(fun i hi=>absurd hi (KO i))⟩ ?_);rintro _ _ w7 ⟨u,h8,hm9,rfl,a,hu,F⟩;refine aD ?_;cases za:(decide ((u:Int)<(us.length:Int)))
  .
   have zi:=oF za;refine lB 22 za (af (cW (CG.exit ?_)))
   show CG _ _ _ _ _ _ _ _
   refine cQ (aa a [.c,.v (nV ns.length)] ?_);cases zb:(decide ((20:Int)<(ns.length:Int)))
   .
    have zj:=oF zb;refine lB 33 zb (ah (cK (cQ (aa a [.c,.v (nV ns.length),.c] (bh ?_)))));refine cj _ (CG.loop (fun H Γ X=>∃ (k:Nat)(b:Hp),H=ns.length-k/\Γ=[(1,qS C ns.length y),(3,pB V),(34,qS C ns.length y),(35,nV ns.length),(36,nV k)]/\SS w h X b [⟨V,32,aI p⟩] [] [Sv S us,fun b=>SlO 1 eF ⟨#[]⟩ b C ns,fun b=>TmH d b p t]/\k<=ns.length/\(∀ i,i<k->aN (ns.getD i ⟨#[]⟩)=true)) _ ⟨0,h8,rfl,rfl,a.to _ _,JL _,(fun i hi=>absurd hi (KO i))⟩ ?_);rintro _ _ _ ⟨k,_,bn,rfl,a,hk,hal⟩;refine aD ?_;cases zc:(decide ((k:Int)<(ns.length:Int)))
    .
     have zk:=oF zc;refine lB 37 zc (af (cW (CG.exit ?_)))
     show CG _ _ _ _ _ _ _ _
     have x:∀ i,i<ns.length->aN (ns.getD i ⟨#[]⟩)=true:=fun i hi=>hal i oM
     refine aa a ac (lC 45 a (kJ z x C y _ _ a.g a.f.2.1) ?_);rintro _ _ _ a ⟨bm,rfl,hM⟩;replace a:=(a.add (K:=fun b=>MapS b bm (jF ns)) hM);refine lL a ac (af ?_);have B:=uH hS L oM;have bd:=B.1;refine aa a [.o (ar p) 0 0 9] (lC 47 a (Fj (fun s=>aN s=true) (fun s_ b=>by have q_:=mm b;unfold it at q_;omega) d hd p t _ _ a.g a.f.r.2.1 bd) ?_);rintro _ _ zo a ⟨nA,nc,l,rfl,hnc,hnl,hnS,M⟩;replace a:=a.aS hnS;refine lL a [.v (nV l.length),.c] (bh ?_);refine cj _ (CG.loop (fun H Γ X=>∃ (j:Nat)(b:Hp),H=l.length-j/\Γ=[(1,qS C ns.length y),(11,.map (some bm)),(47,qS nA l.length nc),(48,nV l.length),(49,nV j)]/\SS w h X b [⟨V,32,aI p⟩] [] [fun b=>SlO 1 eF ⟨#[]⟩ b nA l,fun b=>MapS b bm (jF ns),Sv S us,fun b=>SlO 1 eF ⟨#[]⟩ b C ns,fun b=>TmH d b p t]/\j<=l.length/\(∀ i,i<j->l.getD i ⟨#[]⟩∈ns)) _ ⟨0,zo,rfl,rfl,a.to _ _,JL _,(fun i hi=>absurd hi (KO i))⟩ ?_);rintro _ _ _ ⟨j,zp,bk,rfl,a,hj,O⟩;refine aD ?_;cases zd:(decide ((j:Int)<(l.length:Int)))
     .
      have zl:=oF zd;refine lB 50 zd (af (cW (CG.exit ?_)))
      show CG _ _ _ _ _ _ _ _
      refine cQ ?_;have Q:∀ s,ii d t s->s∈ns:=fun s_ b=>by obtain ⟨D,I,e_⟩:=B8 ((M s_).2 b);rw[<-e_];exact O D oM
      refine aa a ac (JD 63 76 0 9 3 a a.f.2.1 ?_);refine lL a [.c,.v (nV ns.length)] ?_;cases ze:((((jF ns).length:Nat):Int) != (ns.length:Int))
      .
       have zm:=aY ze;exact lB 66 ze (ah (cK (aa a ac (ae a [] (iV 0) (⟨_,rfl,.inr ⟨B,.inr ⟨(fun D I=>F D oM),.inr ⟨x,.inr ⟨Q,.inr ⟨(xh z).2 oM,rfl⟩⟩⟩⟩⟩⟩)))))
      have zm:=a6 ze;exact lB 66 ze (au (aa a ac (ae a [] (iV 8) (⟨_,rfl,.inr ⟨B,.inr ⟨(fun D I=>F D oM),.inr ⟨x,.inr ⟨Q,.inl ⟨fun b=>by have:=(xh z).1 b;omega,rfl⟩⟩⟩⟩⟩⟩))))
     have zl:=oT zd;refine lB 50 zd (af (cl (cK (cQ (kZ (aD (lX 51 nA l.length nc 1 (j:Nat) j ((a.f.1).ok oM) ?_)))))));refine lH 52 (.string (l.getD j ⟨#[]⟩)) a ((a.f.1).el j oM) (lL a ac (aR (lL a aK (Gj 56 76 9 3 (l.getD j ⟨#[]⟩) true (iV (vN ns (l.getD j ⟨#[]⟩))) ((decide (l.getD j ⟨#[]⟩∈ns))) a a.f.2.1 ?_ (hf:=(by rcases Jt z x (l.getD j ⟨#[]⟩) with ⟨D,e1_,e2_⟩|⟨e1_,e2_,e3_⟩;exact .inl ⟨D,e1_,e2_⟩;exact .inr ⟨e1_,e2_,fun _=>by rw[e3_];kernel_rfl⟩))))));refine lL a [.c,.v (iV (vN ns (l.getD j ⟨#[]⟩))),.v (.bool (decide (l.getD j ⟨#[]⟩∈ns))),.c,.c] (aR (lL a ac ?_));cases zg:(!(decide (l.getD j ⟨#[]⟩∈ns)))
     .
      refine lB 60 zg (ah (cK (kQ (bI 61 ((j:Nat)+1) (j+1) ?_))));refine lL a ac (lD ?_);intro a_ Z;refine ⟨_,_,?_,⟨j+1,zp,rfl,rfl,a.to _ _,oM,(fun i hi=>by rcases K7.1 hi with b|rfl;exact O i b;exact oT (by first|assumption|exact GW aM))⟩,Z.to _ kR⟩
      omega
     exact lB 60 zg (au (aa a ac (ae a [] (iV 11) (⟨_,rfl,.inr ⟨B,.inr ⟨(fun D I=>F D oM),.inr ⟨x,.inl ⟨fun b=>oF (by first|assumption|exact Iw aM) (b _ ((M _).1 (Eu oM))),rfl⟩⟩⟩⟩⟩))))
    have zk:=oT zc;refine lB 37 zc (af (cl (cK (cQ (kZ (aD (lX 38 C ns.length y 1 (k:Nat) k ((a.f.2.1).ok oM) ?_)))))));refine lH 39 (.string (ns.getD k ⟨#[]⟩)) a ((a.f.2.1).el k oM) (lL a ac (aR (lL a ac (lC 41 a (o5 (ns.getD k ⟨#[]⟩) (z.small k oM) _ _ a.g) ?_))));rintro _ _ zq a ⟨bi,rfl,Y⟩;cases bl:(bi)
    .
     exact lL a [.v qT] (au (aa a ac (ae a [] (iV 11) (⟨_,rfl,.inr ⟨uH hS L oM,.inr ⟨(fun D I=>F D oM),.inl ⟨(fun b=>by have q_:=b k oM;rw[<-Y] at q_;have W:bi=false:=aM;rw[q_] at W;cases W),rfl⟩⟩⟩⟩))))
    refine lL a [.v qF] (ah (cK (kQ (bI 43 ((k:Nat)+1) (k+1) ?_))));refine lL a ac (lD ?_);intro a_ Z;refine ⟨_,_,?_,⟨k+1,zq,rfl,rfl,a.to _ _,oM,(fun i hi=>by rcases K7.1 hi with b|rfl;exact hal i b;rw[<-Y];first|assumption|exact GW aM)⟩,Z.to _ kR⟩
    omega
   have zj:=oT zb;refine lB 33 zb (au (aa a ac (lN (kX ?_))))
   exfalso;have:=z.len;omega
  have zi:=oT za;refine lB 22 za (af (cl (cK (cQ (kZ (aD (lX 23 S us.length cu 1 (u:Nat) u ((a.f.1).ok oM) ?_)))))));obtain ⟨Uj,uj,huj,hmj⟩:=hus u oM;refine I3 24 ((us.getD u undef)) a ((a.f.1).el u oM) huj (lL a ac (aR (lL a [.c,.v (nV (U.getD u 0)),.c,.v (nV ns.length)] ?_)));cases zf:((((U.getD u 0):Nat):Int) != (ns.length:Int))
  .
   have zn:=aY zf;refine lB 29 zf (ah (cK (kQ (bI 30 ((u:Nat)+1) (u+1) ?_))));refine lL a ac (lD ?_);intro a_ Z;refine ⟨_,_,?_,⟨u+1,h8,rfl,rfl,a.to _ _,oM,(fun i hi=>by rcases K7.1 hi with b|rfl;exact F i b;omega)⟩,Z.to _ kR⟩
   omega
  have zn:=a6 zf;exact lB 29 zf (au (aa a ac (ae a [] (iV 5) (⟨_,rfl,.inr ⟨uH hS L oM,.inl ⟨fun b=>by have:=b u oM;omega,rfl⟩⟩⟩))))
 have bb:=a6 J;exact lB 18 J (au (aa a ac (ae a [] (iV 1) (⟨_,rfl,.inl ⟨fun b=>by have:=GH L ⟨b.1,b.2⟩;omega,rfl⟩⟩))))
theorem DckR.cg {d:Nat}{t:Tm}{ns:List ByteArray}{M a:Prop}{e:Int}(x:DckR d t ns M e)(h:M↔a):DckR d t ns a e:=propext h▸x
theorem Bl (d:Nat)(p:PTm)(t:Tm)(J:d<=20)(c:Z9)(a:Nat)(ns:List ByteArray)(l:NsD ns)(o:Z9)(y:Nat)(z:Z9)(b B:Nat)(i:b<=1000000)(w:World)(h:Hp)(g:G w h)(D:TmH d h p t)(F:SmT1 it d t)(H:SlO 1 eF ⟨#[]⟩ h c ns)(C:Sv (o) ([.slice z b B]:List Value) h):Calls Tryz.prog 19 #[ar p,.slice c ns.length a,.slice o 1 y] w (Ret w h (fun v _=>∃ e:Int,v=iV e/\DckR d t ns (b=ns.length) e)) :=
 (tf d p t J c a ns l o y [.slice z b B] [b] (yJ rfl) (fun j f=>by match j,f with|0,_=>exact ⟨_,_,rfl,i⟩) w h g D F H C).mono fun e w' ⟨v,I,e1,u,x,e2,k⟩=>⟨v,I,e1,u,x,e2,k.cg ⟨fun h=>h 0 (JO _),fun h j f=>by match j,f with|0,_=>exact h⟩⟩
theorem BL (d:Nat)(p:PTm)(t:Tm)(M:d<=20)(i:Z9)(a:Nat)(ns:List ByteArray)(y:NsD ns)(z:Z9)(C:Nat)(D:Z9)(b F:Nat)(B:Z9)(c u1:Nat)(o:b<=1000000)(f:c<=1000000)(w:World)(h:Hp)(g:G w h)(I:TmH d h p t)(J:SmT1 it d t)(K:SlO 1 eF ⟨#[]⟩ h i ns)(H:Sv (z) ([.slice D b F,.slice B c u1]:List Value) h):Calls Tryz.prog 19 #[ar p,.slice i ns.length a,.slice z 2 C] w (Ret w h (fun v _=>∃ e:Int,v=iV e/\DckR d t ns (b=ns.length/\c=ns.length) e)) :=
 (tf d p t M i a ns y z C [.slice D b F,.slice B c u1] [b,c] (yJ rfl) (fun j l=>by match j,l with|0,_=>exact ⟨_,_,rfl,o⟩|1,_=>exact ⟨_,_,rfl,f⟩) w h g I J K H).mono fun e w' ⟨v,L,e1,u,x,e2,k⟩=>⟨v,L,e1,u,x,e2,k.cg ⟨fun h=>⟨h 0 (JO _),h 1 (nR 2)⟩,fun h j l=>by match j,l with|0,_=>exact h.1|1,_=>exact h.2⟩⟩
def DrunR (d:Nat)(t:Tm)(ns:List ByteArray)(fs:List Rat)(e:Int)(q:Rat)(G_:List Rat):Prop :=
  ∃ ec,DckR d t ns (fs.length=ns.length) ec/\((ec≠0/\e=ec/\q=0/\G_=[])\/(ec=0/\(e,q,G_)=bB (dh ns) fs d t))
theorem C6 {d:Nat}{t:Tm}{ns:List ByteArray}{M:Prop}(h:uD aN d t/\M/\(∀ i,i<ns.length->aN (ns.getD i ⟨#[]⟩)=true)/\(∀ s,ii d t s->s∈ns)/\ns.Nodup):WfT1 (fun s=>s∈ns) d t :=
 WfT1.imp (fun _ x=>x.2) (h.1.1.names h.2.2.2.1)
theorem Gn {ns:List ByteArray}{fs:List Rat}(d:NsD ns)(a:ns.Nodup)(c:fs.length=ns.length)(s:ByteArray)(b:s∈ns):dh ns s<fs.length/\∃ i,Instr.findNow .string (.string s) (jF ns) 0=some (some (i,.int .i64 (dh ns s:Nat))):=by
 have f:ns≠oo:=fun e=>by subst e;exact absurd a kD
 refine ⟨by rw[c];exact (rY b).1,?_⟩
 unfold jF;rw[if_neg f]
 rcases CO a s with ⟨i,e1,_⟩|⟨_,e2,_⟩
 ·exact ⟨i,by rw[e1,rZ b]⟩
 ·exact absurd b (oF e2)
theorem Hl (d:Nat)(p:PTm)(t:Tm)(Z:d<=20)(D:Z9)(y:Nat)(ns:List ByteArray)(B:NsD ns)(fs:List Rat)(u:Z9)(x:Nat)(hm:fs.length<=1000)(Q:∀ i,LQ 1 (fs.getD i 0))(w:World)(h:Hp)(g:G w h)(S:TmH d h p t)(W:SmT1 it d t)(X:SlO 1 eF ⟨#[]⟩ h D ns)(V:Sq u fs h)(U:Tab h):CR 9 #[ar p,.slice D ns.length y,.slice u fs.length x] w h (fun v h1=>∃ (e:Int)(q:Rat)(A_:Z9)(c_:Nat)(G_:List Rat),v=.tuple #[oA q A_ G_.length c_,iV e]/\Sq A_ G_ h1/\DrunR d t ns fs e q G_):=by
 have a:=(((((sS g).add (K:=fun C=>TmH d C p t) S).aS X).aS V).add (K:=fun C=>Tab C) U);refine go Tryz.func9 [(0,ar p),(1,qS D ns.length y),(2,qS u fs.length x)] rfl (aD (lA 3 32 (aI p) a (fun b1 w2 h3 a=>lA 6 51 ([qF,uV 0,eS,uV 0,eS,sZ]) a (fun b4 w5 h6 a=>lL a ac (af (aa a [.o (ar p) 1 0 9,.c,.c] (lR 13 46 1 ([qS u fs.length x]) a (fun M w8 h9 a=>?_))))))));replace a:=a.aS (SlO.of_flat (sz:=1) (f:=vc) (d:=undef) (b:=M) (o:=0) (l:=([qS u fs.length x]:List Value)) (fun _=>rfl) a.f.1);refine lC 14 a (Bl d p t Z D y ns B (sB M) 1 u fs.length x oM _ _ a.g a.f.q.2.1 W a.f.q.1 a.f.1) ?_;rintro _ _ _ a ⟨I,rfl,z⟩;refine lL a ac (aR (lL a ac ?_));cases H:((I:Int) != (0:Int))
 .
  have Y:=aY H;refine lB 16 H (ah (cK ?_));have j:=z.ok oM;refine aa a [.c,.v (.agg #[qS u fs.length x]),.v (.iface 75 (.agg #[qS u fs.length x])),.c] (lC 23 a (kJ B j.2.2.1 D y _ _ a.g a.f.q.1) ?_);rintro _ _ _ a ⟨F,rfl,hM⟩;replace a:=(a.add (K:=fun C=>MapS C F (jF ns)) hM);refine lL a [.v (.agg #[.iface 75 (.agg #[qS u fs.length x]),.map (some F),qF])] (lA 9 81 ([.nilIface,.map none,qF]) a (fun O _ _ a=>lP 0 0 ([.iface 75 (.agg #[qS u fs.length x]),.map (some F),qF]) a (fun _ a=>aR (lL a [.o (.agg #[.iface 75 (.agg #[qS u fs.length x]),.map (some F),qF]) 0 0 3,.o (ar p) 2 0 9] (lC 27 a (C1 (fun s=>s∈ns) (dh ns) fs u x hm F (jF ns) Q (Gn B j.2.2.2.2 j.2.1) d p t _ _ oM a.g a.f.q.r.1 (C6 j) j.1.2 a.f.q.1 a.f.1 a.f.r.2.1) ?_)))));rintro _ _ _ a ⟨L,cg,rfl,J⟩;replace a:=a.aS J;exact lL a [.v (qY ((bB (dh ns) fs d t).2.1) L (((bB (dh ns) fs d t).2.2).length) cg),.v (iV ((bB (dh ns) fs d t).1))] (lP 1 0 (qZ ((bB (dh ns) fs d t).2.1) L (((bB (dh ns) fs d t).2.2).length) cg) a (fun _ a=>lL a ac (ae a [(1,0,6)] (.tuple #[qY ((bB (dh ns) fs d t).2.1) L (((bB (dh ns) fs d t).2.2).length) cg,iV ((bB (dh ns) fs d t).1)]) (⟨_,_,_,_,_,rfl,a.f.1,I,z,.inr ⟨by omega,rfl⟩⟩))))
 have Y:=a6 H;exact lB 16 H (au (aa a [.v (.agg #[qF,uV 0,eS,uV 0,eS,sZ]),.c] (lP 0 0 ([qF,uV 0,eS,uV 0,eS,sZ]) a (fun _ a=>lL a ac (ae a [(0,0,6)] (.tuple #[.agg #[qF,uV 0,eS,uV 0,eS,sZ],iV I]) (⟨_,0,none,0,[],rfl,SlO.nil,I,z,.inl ⟨by omega,rfl,rfl,rfl⟩⟩))))))
theorem wP {ix:ByteArray->Nat}{fs:List Rat}:∀ {d:Nat} {t:Tm},(bB ix fs d t).1≠0->bB ix fs d t=((bB ix fs d t).1,0,[])
  | 0,_,h=>absurd rfl h
  | d + 1,t,h=>by
    by_cases o1:t.op=1
    . have e:bB ix fs (d+1) t=(0,t.q,yp fs.length 0):=if_pos o1
      rw[e] at h;exact absurd rfl h
    . by_cases o2:t.op=2
      . have e:bB ix fs (d+1) t=(0,fs.getD (ix t.s) 0,d6 fs.length (ix t.s)):=(if_neg o1).trans (if_pos o2)
        rw[e] at h;exact absurd rfl h
      . have e:bB ix fs (d+1) t=oK fs.length t.op t.n _ _:=(if_neg o1).trans (if_neg o2)
        rw[e] at h ⊢
        generalize (if 0<t.ks.length then bB ix fs d (t.ks.getD 0 ct) else (0,0,[]))=x at *
        generalize (if 1<t.ks.length then bB ix fs d (t.ks.getD 1 ct) else (0,0,[]))=y at *
        by_cases c1:x.1=0
        . by_cases c2:y.1=0
          . by_cases c3:co t.op t.n x.2.1 y.2.1=0
            . rw[mH c1 c2 c3] at h;exact absurd rfl h
            . rw[mS c1 c2 c3]
          . rw[oB c1 c2]
        . rw[mJ c1]
theorem IJ (b:Bool)(e:Z9)(d i:Nat)(j:Z9)(a f:Nat)(w:World)(h:Hp)(g:G w h):CV 41 #[.agg #[.bool b,.slice e d i,.slice j a f]] w h (d8 ⟨1,0,b,e,d,i,j,a,f,⟨#[]⟩,none,0,0⟩):=by
 have c:=sS g;exact go Tryz.func41 [(0,.agg #[.bool b,qS e d i,qS j a f])] rfl (aD (lA 1 39 ([.bool b,qS e d i,qS j a f]) c (fun l w2 p c=>lA 2 42 (dE ⟨0,0,false,none,0,0,none,0,0,⟨#[]⟩,none,0,0⟩) c (fun y u x c=>aR (lL c [.o (.agg #[.bool b,qS e d i,qS j a f]) 1 0 3,.v (d8 ⟨1,0,b,e,d,i,j,a,f,⟨#[]⟩,none,0,0⟩)] (lP 0 0 (dE ⟨1,0,b,e,d,i,j,a,f,⟨#[]⟩,none,0,0⟩) c (fun z c=>ae c [(0,0,7)] (d8 ⟨1,0,b,e,d,i,j,a,f,⟨#[]⟩,none,0,0⟩) rfl)))))))
theorem GR (op:Int)(a rb:RTm)(w:World)(h:Hp)(g:G w h):CR 42 #[iV op,d8 a,d8 rb] w h (fun v h1=>∃ b,v=d8 ⟨op,0,false,none,0,0,none,0,0,⟨#[]⟩,sB b,2,2⟩/\SlO 7 dE gZ h1 (sB b) [a,rb]):=by
 have e:=sS g;refine go Tryz.func42 [(0,iV op),(1,d8 a),(2,d8 rb)] rfl (aD (lA 4 42 (dE a) e (fun p w2 y e=>lA 5 42 (dE rb) e (fun x u C e=>lA 6 42 (dE ⟨0,0,false,none,0,0,none,0,0,⟨#[]⟩,none,0,0⟩) e (fun z j B e=>aR (lL e [.c,.o (d8 a) 2 0 7,.o (d8 rb) 1 0 7] (lR 10 42 2 ([iV a.op,iV a.n,.bool a.neg,qS a.zA a.zn a.zc,qS a.dA a.dn a.dc,.string a.s,qS a.A a.m a.c,iV rb.op,iV rb.n,.bool rb.neg,qS rb.zA rb.zn rb.zc,qS rb.dA rb.dn rb.dc,.string rb.s,qS rb.A rb.m rb.c]) e (fun i _ _ e=>?_))))))));replace e:=e.aS (SlO.of_flat (sz:=7) (f:=dE) (d:=gZ) (b:=i) (o:=0) (l:=([(⟨a.op,a.n,a.neg,a.zA,a.zn,a.zc,a.dA,a.dn,a.dc,a.s,a.A,a.m,a.c⟩:RTm),(⟨rb.op,rb.n,rb.neg,rb.zA,rb.zn,rb.zc,rb.dA,rb.dn,rb.dc,rb.s,rb.A,rb.m,rb.c⟩:RTm)]:List RTm)) (fun _=>rfl) e.f.1);exact lL e [.v (d8 ⟨op,0,false,none,0,0,none,0,0,⟨#[]⟩,sB i,2,2⟩)] (lP 0 0 (dE ⟨op,0,false,none,0,0,none,0,0,⟨#[]⟩,sB i,2,2⟩) e (fun _ e=>ae e [(0,0,7)] (d8 ⟨op,0,false,none,0,0,none,0,0,⟨#[]⟩,sB i,2,2⟩) (⟨_,rfl,e.f.1⟩)))
theorem xq  (w:World)(h:Hp)(g:G w h):CR 6 #[] w h (fun v h1=>∃ b,v=.slice (sB b) 3 3/\SlO 1 eF ⟨#[]⟩ h1 (sB b) ea):=by
 have a:=sS g;refine go Tryz.func6 [] rfl (aa a ac (aR (lR 1 9 3 ([.string (⟨#[120]⟩),.string (⟨#[121]⟩),.string (⟨#[122]⟩)]) a (fun c w2 e a=>?_))));replace a:=a.aS (SlO.of_flat (sz:=1) (f:=eF) (d:=⟨#[]⟩) (b:=c) (o:=0) (l:=ea) (fun _=>rfl) a.f.1);exact lL a ac (ae a [] (qS (sB c) 3 3) (⟨_,rfl,a.f.1⟩))
theorem Gi (op:Int)(a:RTm)(w:World)(h:Hp)(g:G w h):CR 43 #[iV op,d8 a] w h (fun v h1=>∃ b,v=d8 ⟨op,0,false,none,0,0,none,0,0,⟨#[]⟩,sB b,1,1⟩/\SlO 7 dE gZ h1 (sB b) [a]):=by
 have e:=sS g;refine go Tryz.func43 [(0,iV op),(1,d8 a)] rfl (aD (lA 3 42 (dE a) e (fun u w2 z e=>lA 4 42 (dE ⟨0,0,false,none,0,0,none,0,0,⟨#[]⟩,none,0,0⟩) e (fun B x y e=>aR (lL e [.c,.o (d8 a) 1 0 7] (lR 7 42 1 ([iV a.op,iV a.n,.bool a.neg,qS a.zA a.zn a.zc,qS a.dA a.dn a.dc,.string a.s,qS a.A a.m a.c]) e (fun i j p e=>?_)))))));replace e:=e.aS (SlO.of_flat (sz:=7) (f:=dE) (d:=gZ) (b:=i) (o:=0) (l:=([(⟨a.op,a.n,a.neg,a.zA,a.zn,a.zc,a.dA,a.dn,a.dc,a.s,a.A,a.m,a.c⟩:RTm)]:List RTm)) (fun _=>rfl) e.f.1);exact lL e [.v (d8 ⟨op,0,false,none,0,0,none,0,0,⟨#[]⟩,sB i,1,1⟩)] (lP 0 0 (dE ⟨op,0,false,none,0,0,none,0,0,⟨#[]⟩,sB i,1,1⟩) e (fun _ e=>ae e [(0,0,7)] (d8 ⟨op,0,false,none,0,0,none,0,0,⟨#[]⟩,sB i,1,1⟩) (⟨_,rfl,e.f.1⟩)))
theorem G7 (a:RTm)(i:Int)(w:World)(h:Hp)(g:G w h):CR 44 #[d8 a,iV i] w h (fun v h1=>∃ b,v=d8 ⟨8,i,false,none,0,0,none,0,0,⟨#[]⟩,sB b,1,1⟩/\SlO 7 dE gZ h1 (sB b) [a]):=by
 have e:=sS g;refine go Tryz.func44 [(0,d8 a),(1,iV i)] rfl (aD (lA 2 42 (dE a) e (fun x w2 z e=>lA 4 42 (dE ⟨0,0,false,none,0,0,none,0,0,⟨#[]⟩,none,0,0⟩) e (fun C y B e=>aR (lL e [.c,.o (d8 a) 1 0 7] (lR 7 42 1 ([iV a.op,iV a.n,.bool a.neg,qS a.zA a.zn a.zc,qS a.dA a.dn a.dc,.string a.s,qS a.A a.m a.c]) e (fun j p u e=>?_)))))));replace e:=e.aS (SlO.of_flat (sz:=7) (f:=dE) (d:=gZ) (b:=j) (o:=0) (l:=([(⟨a.op,a.n,a.neg,a.zA,a.zn,a.zc,a.dA,a.dn,a.dc,a.s,a.A,a.m,a.c⟩:RTm)]:List RTm)) (fun _=>rfl) e.f.1);exact lL e [.v (d8 ⟨8,i,false,none,0,0,none,0,0,⟨#[]⟩,sB j,1,1⟩)] (lP 0 0 (dE ⟨8,i,false,none,0,0,none,0,0,⟨#[]⟩,sB j,1,1⟩) e (fun _ e=>ae e [(0,0,7)] (d8 ⟨8,i,false,none,0,0,none,0,0,⟨#[]⟩,sB j,1,1⟩) (⟨_,rfl,e.f.1⟩)))
section
variable {d:Nat}
theorem Ia (b:Bool)(c:Z9)(i l:Nat)(f:Z9)(a j:Nat){q:Rat}(w:World)(h:Hp)(g:G w h)(hz:RZ h (b,.slice c i l,.slice f a j) q):CR 41 #[.agg #[.bool b,.slice c i l,.slice f a j]] w h (fun v h1=>∃ r,v=d8 r/\RmH (d+1) h1 r (.mk 1 0 q ⟨#[]⟩ [])) :=
 (IJ b c i l f a j w h g).mono fun e w' ⟨v,o,e1,u,e2⟩=>⟨v,o,e1,u,_,e2,Fm (hz.gw u.gr.gw)⟩
theorem m9 (op:Int)(a rb:RTm)(t u:Tm)(w:World)(h:Hp)(g:G w h)(x:RmH d h a t)(y:RmH d h rb u):CR 42 #[iV op,d8 a,d8 rb] w h (fun v h1=>∃ r,v=d8 r/\RmH (d+1) h1 r (.mk op 0 0 ⟨#[]⟩ [t,u])) :=
 (GR op a rb w h g).mono fun e w' ⟨v,f,e1,up,b,e2,c⟩=>⟨v,f,e1,up,_,e2,Fr (x.gw up.gr.gw) (y.gw up.gr.gw) c⟩
theorem rW (op:Int)(a:RTm)(t:Tm)(w:World)(h:Hp)(g:G w h)(x:RmH d h a t):CR 43 #[iV op,d8 a] w h (fun v h1=>∃ r,v=d8 r/\RmH (d+1) h1 r (.mk op 0 0 ⟨#[]⟩ [t])) :=
 (Gi op a w h g).mono fun e w' ⟨v,c,e1,up,b,e2,f⟩=>⟨v,c,e1,up,_,e2,xQ (x.gw up.gr.gw) f⟩
theorem Gd (a:RTm)(t:Tm)(c:Int)(w:World)(h:Hp)(g:G w h)(x:RmH d h a t):CR 44 #[d8 a,iV c] w h (fun v h1=>∃ r,v=d8 r/\RmH (d+1) h1 r (.mk 8 c 0 ⟨#[]⟩ [t])) :=
 (G7 a c w h g).mono fun e w' ⟨v,f,e1,up,b,e2,i⟩=>⟨v,f,e1,up,_,e2,xQ (x.gw up.gr.gw) i⟩
end
theorem xS (i:Nat)(A:Z9)(u:Nat)(x:List Int)(hl:x.length<=9223372036854775807)(hz:pp x)(j:Nat)(hdp:j<=1000)(L:∀ z:Int,z+1=(j:Nat)->0<=z->∀ at_:Nat,at_<=x.length->∀ (w:World) (h:Hp),G w h->Own w i 69 [.slice A x.length u,nV at_]->h[i]?=some bj->Si A x h->Calls Tryz.prog 16 #[pB i,iV z,.bool false] w (dX i w h (fun v w' h'=>∃ (r:RTm)(t:Tm)(at2:Nat),v=d8 r/\at2<=x.length/\Own w' i 69 [.slice A x.length u,nV at2]/\RmH j h' r t/\GrT j t)))(at_:Nat)(ha:at_<=x.length)(w:World)(h:Hp)(g:G w h)(ho:Own w i 69 [.slice A x.length u,nV at_])(hj:h[i]?=some bj)(hA:Si A x h):Calls Tryz.prog 16 #[pB i,nV j,.bool false] w (dX i w h (fun v w' h'=>∃ (r:RTm)(t:Tm)(at2:Nat),v=d8 r/\at2<=x.length/\Own w' i 69 [.slice A x.length u,nV at2]/\RmH (j+1) h' r t/\GrT (j+1) t)):=by
 have b:UpM [i] w h w h:=UpM.refl g;obtain ⟨wz,sc,a⟩:=SS.at_ g ho hj;replace a:=a.aS hA;refine go Tryz.func16 [(0,pB i),(1,nV j),(2,qF)] rfl (aD (Hx 6 42 (dE ⟨0,0,false,none,0,0,none,0,0,⟨#[]⟩,none,0,0⟩) a (fun B w2 h3 u4 e a=>?_)));replace e:=eu b.gr.size e;replace b:=b.trans (u4.m _);refine aR (lL a ac (fD 11 (vI A u x hl hz i at_ oM _ _ a.g (a.own 1) (a.jk 1) a.f.1) ?_));rintro _ w6 h7 u8 ⟨D,p,rfl,t0,mw,st⟩;replace a:=(a.stepM 1 u8 st).to [⟨B,42,dE ⟨0,0,false,none,0,0,none,0,0,⟨#[]⟩,none,0,0⟩⟩,⟨i,69,[qS A x.length u,nV p]⟩] [];replace b:=b.trans u8;have tb:=mw.1;have tn:=mw.2;refine j6 12 (ni (D) 19 oM oM _ _ a.g) ?_;rintro _ _ zr u12 rfl;replace b:=b.trans (u12.m _);replace a:=a.step u12;have lp9:=ez (D) 19 oM;refine lL a ac (af (aa a aK (lG 15 ?_)));refine lG 16 ?_;refine lL a [.v qF] (ah (cK (cQ (kZ (CG.join (fun Γ w_=>∃ (zq:Bool)(l:Hp),Γ=[(0,pB i),(1,nV j),(2,qF),(6,pB B),(7,nV (cn (D) 19)),(20,.bool zq)]/\SS wz sc w_ l [⟨B,42,dE ⟨0,0,false,none,0,0,none,0,0,⟨#[]⟩,none,0,0⟩⟩,⟨i,69,[qS A x.length u,nV p]⟩] [] [Si A x]/\(zq=true->¬(1<=j/\2<=(cn (D) 19)/\(cn (D) 19)<17))/\(zq=false->(1<=j/\2<=(cn (D) 19)/\(cn (D) 19)<17))/\UpM [i] w h w_ l) ?_ ?_)))))
 .
  refine kQ (lL a ac ?_);cases zb:(decide ((j:Int)<(1:Int)))
  .
   have zu:=oF zb;refine lB 22 zb (lL a aK ?_);cases zc:(decide (((cn (D) 19:Nat):Int)<(2:Int)))
   .
    have zv:=oF zc;refine lB 25 zc (lL a [.v qF,.c,.c] ?_);cases zd:(decide ((17:Int)<=((cn (D) 19:Nat):Int)))
    .
     have zw:=oF zd;refine lB 29 zd (lL a [.v qF,.c] (lD ?_));intro a_ ka;exact ⟨_,⟨false,zr,rfl,a.to _ _,(fun l=>absurd l kD),(fun _=>by omega),b⟩,ka.to _ kR⟩
    have zw:=oT zd;refine lB 29 zd (lL a [.v qT,.c] (lD ?_));intro a_ ka;exact ⟨_,⟨true,zr,rfl,a.to _ _,(fun _=>by omega),(fun l=>absurd l kD),b⟩,ka.to _ kR⟩
   have zv:=oT zc;refine lB 25 zc (lL a [.v qT,.c] (lG 28 ?_));refine lG 29 (lL a [.v qT,.c] (lD ?_));intro a_ ka;exact ⟨_,⟨true,zr,rfl,a.to _ _,(fun _=>by omega),(fun l=>absurd l kD),b⟩,ka.to _ kR⟩
  have zu:=oT zb;refine lB 22 zb (lL a ac (lG 24 ?_));refine lG 25 (lL a [.v qT,.c] (lG 28 ?_));refine lG 29 (lL a [.v qT,.c] (lD ?_));intro a_ ka;exact ⟨_,⟨true,zr,rfl,a.to _ _,(fun _=>by omega),(fun l=>absurd l kD),b⟩,ka.to _ kR⟩
 rintro _ _ ⟨zq,_,rfl,a,t1,ss,b⟩;cases ze:(zq)
 .
  try rw[ze] at a
  try rw[ze]
  refine cW (aD ?_);have ts:=ss aM;refine lL a ac ?_;cases zf:(decide (((cn (D) 19:Nat):Int)<(4:Int)))
  .
   have zx:=oF zf;refine lB 49 zf (lL a ac (ah (aa a ac ?_)));cases zg:(decide (((cn (D) 19:Nat):Int)<(5:Int)))
   .
    have zA:=oF zg;refine lB 63 zg (lL a ac (ah (aa a ac ?_)));cases zi:(decide (((cn (D) 19:Nat):Int)<(7:Int)))
    .
     have zB:=oF zi;refine lB 77 zi (lL a ac (ah (aa a ac ?_)));cases zj:(decide (((cn (D) 19:Nat):Int)<(8:Int)))
     .
      have zD:=oF zj;refine lB 91 zj (lL a ac (ah (aa a ac ?_)));cases zk:(decide (((cn (D) 19:Nat):Int)<(9:Int)))
      .
       have zE:=oF zk;refine lB 100 zk (lL a ac (ah (aa a ac ?_)));cases zl:(decide (((cn (D) 19:Nat):Int)<(11:Int)))
       .
        have zG:=oF zl;refine lB 117 zl (lL a ac (ah (aa a ac ?_)));cases zm:(decide (((cn (D) 19:Nat):Int)<(12:Int)))
        .
         have zH:=oF zm;refine lB 131 zm (lL a ac (ah (aa a ac ?_)));cases zn:(decide (((cn (D) 19:Nat):Int)<(13:Int)))
         .
          have zI:=oF zn;refine lB 140 zn (lL a ac (ah (aa a ac ?_)));cases zo:(decide (((cn (D) 19:Nat):Int)<(15:Int)))
          .
           have zJ:=oF zo;refine lB 149 zo (lL a ac (ah (aa a ac ?_)));cases zp:(decide (((cn (D) 19:Nat):Int)<(16:Int)))
           .
            have zK:=oF zp;refine lB 158 zp (lL a ac (ah (cK (aa a aK (lI 172 ((j:Nat)-1) ?_)))));refine lL a ac (fD 174 (L ((j:Nat)-1) oM oM p oM _ _ a.g (a.own 1) (a.jk 1) a.f.1) ?_);rintro _ _ _ u44 ⟨ls,cz,bz,rfl,s5,q3,qr,pc⟩;replace a:=(a.stepM 1 u44 q3).to [⟨B,42,dE ⟨0,0,false,none,0,0,none,0,0,⟨#[]⟩,none,0,0⟩⟩,⟨i,69,[qS A x.length u,nV bz]⟩] [];replace b:=b.trans u44;replace a:=(a.add (K:=fun l=>RmH j l ls cz) qr);refine lL a aK (lI 177 ((j:Nat)-1) ?_);refine lL a ac (fD 179 (L ((j:Nat)-1) oM oM bz oM _ _ a.g (a.own 1) (a.jk 1) a.f.2.1) ?_);rintro _ _ _ u48 ⟨k4,cc,b2,rfl,q4,q1,r1,p3⟩;replace a:=(a.stepM 1 u48 q1).to [⟨B,42,dE ⟨0,0,false,none,0,0,none,0,0,⟨#[]⟩,none,0,0⟩⟩,⟨i,69,[qS A x.length u,nV b2]⟩] [];replace b:=b.trans u48;replace a:=(a.add (K:=fun l=>RmH j l k4 cc) r1);refine j6 180 (m9 13 ls k4 cz cc _ _ a.g a.f.2.1 a.f.1) ?_;rintro _ _ _ u52 ⟨r49,rfl,sb⟩;replace b:=b.trans (u52.m _);replace a:=a.step u52;replace a:=(a.add (K:=fun l=>RmH (j+1) l r49 (.mk 13 0 0 ⟨#[]⟩ [cz,cc])) sb);refine np 0 0 (dE r49) a (fun _ y a=>?_);replace b:=b.put2 y e g a.g;refine lN (cj [(6,pB B)] ?_);exact kX (a.retM b [(0,0,7)] (d8 r49) ⟨_,_,b2,rfl,q4,a.own 1,a.f.1,pc.two p3 rfl⟩)
           have zK:=oT zp;refine lB 158 zp (lL a ac (au (aa a aK (lI 161 ((j:Nat)-1) ?_))));refine lL a ac (fD 163 (L ((j:Nat)-1) oM oM p oM _ _ a.g (a.own 1) (a.jk 1) a.f.1) ?_);rintro _ _ _ u57 ⟨lb,c6,bt,rfl,tq,r2,r0,p0⟩;replace a:=(a.stepM 1 u57 r2).to [⟨B,42,dE ⟨0,0,false,none,0,0,none,0,0,⟨#[]⟩,none,0,0⟩⟩,⟨i,69,[qS A x.length u,nV bt]⟩] [];replace b:=b.trans u57;replace a:=(a.add (K:=fun l=>RmH j l lb c6) r0);refine lL a aK (lI 166 ((j:Nat)-1) ?_);refine lL a ac (fD 168 (L ((j:Nat)-1) oM oM bt oM _ _ a.g (a.own 1) (a.jk 1) a.f.2.1) ?_);rintro _ _ _ u61 ⟨kx,cr,b0,rfl,q0,r9,rs,pv⟩;replace a:=(a.stepM 1 u61 r9).to [⟨B,42,dE ⟨0,0,false,none,0,0,none,0,0,⟨#[]⟩,none,0,0⟩⟩,⟨i,69,[qS A x.length u,nV b0]⟩] [];replace b:=b.trans u61;replace a:=(a.add (K:=fun l=>RmH j l kx cr) rs);refine j6 169 (m9 12 lb kx c6 cr _ _ a.g a.f.2.1 a.f.1) ?_;rintro _ _ _ u65 ⟨r62,rfl,r3⟩;replace b:=b.trans (u65.m _);replace a:=a.step u65;replace a:=(a.add (K:=fun l=>RmH (j+1) l r62 (.mk 12 0 0 ⟨#[]⟩ [c6,cr])) r3);refine np 0 0 (dE r62) a (fun _ y a=>?_);replace b:=b.put2 y e g a.g;refine lN (cj [(0,pB i),(1,nV j),(2,qF),(6,pB B)] ?_);exact kX (a.retM b [(0,0,7)] (d8 r62) ⟨_,_,b0,rfl,q0,a.own 1,a.f.1,p0.two pv rfl⟩)
          have zJ:=oT zo;refine lB 149 zo (lL a ac (au (aa a aK (lI 152 ((j:Nat)-1) ?_))));refine lL a ac (fD 154 (L ((j:Nat)-1) oM oM p oM _ _ a.g (a.own 1) (a.jk 1) a.f.1) ?_);rintro _ _ _ u70 ⟨mv,c9,bl,rfl,pk,q6,rl,n7⟩;replace a:=(a.stepM 1 u70 q6).to [⟨B,42,dE ⟨0,0,false,none,0,0,none,0,0,⟨#[]⟩,none,0,0⟩⟩,⟨i,69,[qS A x.length u,nV bl]⟩] [];replace b:=b.trans u70;replace a:=(a.add (K:=fun l=>RmH j l mv c9) rl);refine j6 155 (rW 11 mv c9 _ _ a.g a.f.1) ?_;rintro _ _ _ u74 ⟨r71,rfl,ql⟩;replace b:=b.trans (u74.m _);replace a:=a.step u74;replace a:=(a.add (K:=fun l=>RmH (j+1) l r71 (.mk 11 0 0 ⟨#[]⟩ [c9])) ql);refine np 0 0 (dE r71) a (fun _ y a=>?_);replace b:=b.put2 y e g a.g;exact lN (kX (a.retM b [(0,0,7)] (d8 r71) ⟨_,_,bl,rfl,pk,a.own 1,a.f.1,n7.one rfl (fun _=>rfl) kD kD⟩))
         have zI:=oT zn;refine lB 140 zn (lL a ac (au (aa a aK (lI 143 ((j:Nat)-1) ?_))));refine lL a ac (fD 145 (L ((j:Nat)-1) oM oM p oM _ _ a.g (a.own 1) (a.jk 1) a.f.1) ?_);rintro _ _ _ u79 ⟨kr,cy,bm,rfl,q8,pb,p1,p4⟩;replace a:=(a.stepM 1 u79 pb).to [⟨B,42,dE ⟨0,0,false,none,0,0,none,0,0,⟨#[]⟩,none,0,0⟩⟩,⟨i,69,[qS A x.length u,nV bm]⟩] [];replace b:=b.trans u79;replace a:=(a.add (K:=fun l=>RmH j l kr cy) p1);refine j6 146 (rW 10 kr cy _ _ a.g a.f.1) ?_;rintro _ _ _ u83 ⟨r80,rfl,rd⟩;replace b:=b.trans (u83.m _);replace a:=a.step u83;replace a:=(a.add (K:=fun l=>RmH (j+1) l r80 (.mk 10 0 0 ⟨#[]⟩ [cy])) rd);refine np 0 0 (dE r80) a (fun _ y a=>?_);replace b:=b.put2 y e g a.g;exact lN (kX (a.retM b [(0,0,7)] (d8 r80) ⟨_,_,bm,rfl,q8,a.own 1,a.f.1,p4.one rfl (fun _=>rfl) kD kD⟩))
        have zH:=oT zm;refine lB 131 zm (lL a ac (au (aa a aK (lI 134 ((j:Nat)-1) ?_))));refine lL a ac (fD 136 (L ((j:Nat)-1) oM oM p oM _ _ a.g (a.own 1) (a.jk 1) a.f.1) ?_);rintro _ _ _ u88 ⟨m5,c4,b3,rfl,q5,pw,p2,qs⟩;replace a:=(a.stepM 1 u88 pw).to [⟨B,42,dE ⟨0,0,false,none,0,0,none,0,0,⟨#[]⟩,none,0,0⟩⟩,⟨i,69,[qS A x.length u,nV b3]⟩] [];replace b:=b.trans u88;replace a:=(a.add (K:=fun l=>RmH j l m5 c4) p2);refine j6 137 (rW 9 m5 c4 _ _ a.g a.f.1) ?_;rintro _ _ _ u92 ⟨r89,rfl,rf⟩;replace b:=b.trans (u92.m _);replace a:=a.step u92;replace a:=(a.add (K:=fun l=>RmH (j+1) l r89 (.mk 9 0 0 ⟨#[]⟩ [c4])) rf);refine np 0 0 (dE r89) a (fun _ y a=>?_);replace b:=b.put2 y e g a.g;exact lN (kX (a.retM b [(0,0,7)] (d8 r89) ⟨_,_,b3,rfl,q5,a.own 1,a.f.1,qs.one rfl (fun _=>rfl) kD kD⟩))
       have zG:=oT zl;refine lB 117 zl (lL a ac (au (aa a aK (lI 120 ((j:Nat)-1) ?_))));refine lL a ac (fD 122 (L ((j:Nat)-1) oM oM p oM _ _ a.g (a.own 1) (a.jk 1) a.f.1) ?_);rintro _ _ _ u97 ⟨mf,c7,bx,rfl,tp,qb,pd,pl⟩;replace a:=(a.stepM 1 u97 qb).to [⟨B,42,dE ⟨0,0,false,none,0,0,none,0,0,⟨#[]⟩,none,0,0⟩⟩,⟨i,69,[qS A x.length u,nV bx]⟩] [];replace b:=b.trans u97;replace a:=(a.add (K:=fun l=>RmH j l mf c7) pd);refine lL a aK (lI 125 ((j:Nat)-1) ?_);refine lL a ac (fD 127 (L ((j:Nat)-1) oM oM bx oM _ _ a.g (a.own 1) (a.jk 1) a.f.2.1) ?_);rintro _ _ _ mb ⟨n0,cx,b4,rfl,r4,q2,pr,qq⟩;replace a:=(a.stepM 1 mb q2).to [⟨B,42,dE ⟨0,0,false,none,0,0,none,0,0,⟨#[]⟩,none,0,0⟩⟩,⟨i,69,[qS A x.length u,nV b4]⟩] [];replace b:=b.trans mb;replace a:=(a.add (K:=fun l=>RmH j l n0 cx) pr);refine j6 128 (m9 6 mf n0 c7 cx _ _ a.g a.f.2.1 a.f.1) ?_;rintro _ _ _ lx ⟨cm,rfl,f9⟩;replace b:=b.trans (lx.m _);replace a:=a.step lx;replace a:=(a.add (K:=fun l=>RmH (j+1) l cm (.mk 6 0 0 ⟨#[]⟩ [c7,cx])) f9);refine np 0 0 (dE cm) a (fun _ y a=>?_);replace b:=b.put2 y e g a.g;exact lN (kX (a.retM b [(0,0,7)] (d8 cm) ⟨_,_,b4,rfl,r4,a.own 1,a.f.1,pl.two qq rfl⟩))
      have zE:=oT zk;refine lB 100 zk (lL a ac (au (aa a ac (fD 102 (vI A u x hl hz i p oM _ _ a.g (a.own 1) (a.jk 1) a.f.1) ?_))));rintro _ _ _ ly ⟨U,I,rfl,s2,b5,f0⟩;replace a:=(a.stepM 1 ly f0).to [⟨B,42,dE ⟨0,0,false,none,0,0,none,0,0,⟨#[]⟩,none,0,0⟩⟩,⟨i,69,[qS A x.length u,nV I]⟩] [];replace b:=b.trans ly;have sy:=b5.1;have sr:=b5.2;refine j6 103 (ni (U) 6 oM oM _ _ a.g) ?_;rintro _ _ _ l4 rfl;replace b:=b.trans (l4.m _);replace a:=a.step l4;have s6:=ez (U) 6 oM;refine lI 104 ((cn (U) 6:Nat)-2) (lL a ac (af (aa a ac (ah (cK (aa a aK (lI 110 ((j:Nat)-1) ?_)))))));refine lL a ac (fD 112 (L ((j:Nat)-1) oM oM I oM _ _ a.g (a.own 1) (a.jk 1) a.f.1) ?_);rintro _ _ _ nd ⟨c5,bf,O,rfl,ft,h5,j4,h8⟩;replace a:=(a.stepM 1 nd h5).to [⟨B,42,dE ⟨0,0,false,none,0,0,none,0,0,⟨#[]⟩,none,0,0⟩⟩,⟨i,69,[qS A x.length u,nV O]⟩] [];replace b:=b.trans nd;replace a:=(a.add (K:=fun l=>RmH j l c5 bf) j4);refine lL a ac (j6 114 (Gd c5 bf ((cn (U) 6:Nat)-2) _ _ a.g a.f.1) ?_);rintro _ _ _ mx ⟨cw,rfl,f1⟩;replace b:=b.trans (mx.m _);replace a:=a.step mx;replace a:=(a.add (K:=fun l=>RmH (j+1) l cw (.mk 8 ((cn (U) 6:Nat)-2) 0 ⟨#[]⟩ [bf])) f1);refine np 0 0 (dE cw) a (fun _ y a=>?_);replace b:=b.put2 y e g a.g;exact lN (kX (a.retM b [(0,0,7)] (d8 cw) ⟨_,_,O,rfl,ft,a.own 1,a.f.1,h8.one rfl (fun l=>absurd rfl l) oM oM⟩))
     have zD:=oT zj;refine lB 91 zj (lL a ac (au (aa a aK (lI 94 ((j:Nat)-1) ?_))));refine lL a ac (fD 96 (L ((j:Nat)-1) oM oM p oM _ _ a.g (a.own 1) (a.jk 1) a.f.1) ?_);rintro _ _ _ k3 ⟨b7,bk,Q,rfl,hp,hq,hx,f2⟩;replace a:=(a.stepM 1 k3 hq).to [⟨B,42,dE ⟨0,0,false,none,0,0,none,0,0,⟨#[]⟩,none,0,0⟩⟩,⟨i,69,[qS A x.length u,nV Q]⟩] [];replace b:=b.trans k3;replace a:=(a.add (K:=fun l=>RmH j l b7 bk) hx);refine j6 97 (rW 7 b7 bk _ _ a.g a.f.1) ?_;rintro _ _ _ kq ⟨b9,rfl,hc⟩;replace b:=b.trans (kq.m _);replace a:=a.step kq;replace a:=(a.add (K:=fun l=>RmH (j+1) l b9 (.mk 7 0 0 ⟨#[]⟩ [bk])) hc);refine np 0 0 (dE b9) a (fun _ y a=>?_);replace b:=b.put2 y e g a.g;exact lN (kX (a.retM b [(0,0,7)] (d8 b9) ⟨_,_,Q,rfl,hp,a.own 1,a.f.1,f2.one rfl (fun _=>rfl) kD kD⟩))
    have zB:=oT zi;refine lB 77 zi (lL a ac (au (aa a aK (lI 80 ((j:Nat)-1) ?_))));refine lL a ac (fD 82 (L ((j:Nat)-1) oM oM p oM _ _ a.g (a.own 1) (a.jk 1) a.f.1) ?_);rintro _ _ _ my ⟨b6,Z,M,rfl,s1,dn,ds,d2⟩;replace a:=(a.stepM 1 my dn).to [⟨B,42,dE ⟨0,0,false,none,0,0,none,0,0,⟨#[]⟩,none,0,0⟩⟩,⟨i,69,[qS A x.length u,nV M]⟩] [];replace b:=b.trans my;replace a:=(a.add (K:=fun l=>RmH j l b6 Z) ds);refine lL a aK (lI 85 ((j:Nat)-1) ?_);refine lL a ac (fD 87 (L ((j:Nat)-1) oM oM M oM _ _ a.g (a.own 1) (a.jk 1) a.f.2.1) ?_);rintro _ _ _ n6 ⟨cd,X,V,rfl,fp,hy,hh,h9⟩;replace a:=(a.stepM 1 n6 hy).to [⟨B,42,dE ⟨0,0,false,none,0,0,none,0,0,⟨#[]⟩,none,0,0⟩⟩,⟨i,69,[qS A x.length u,nV V]⟩] [];replace b:=b.trans n6;replace a:=(a.add (K:=fun l=>RmH j l cd X) hh);refine j6 88 (m9 5 b6 cd Z X _ _ a.g a.f.2.1 a.f.1) ?_;rintro _ _ _ l1 ⟨cf,rfl,d0⟩;replace b:=b.trans (l1.m _);replace a:=a.step l1;replace a:=(a.add (K:=fun l=>RmH (j+1) l cf (.mk 5 0 0 ⟨#[]⟩ [Z,X])) d0);refine np 0 0 (dE cf) a (fun _ y a=>?_);replace b:=b.put2 y e g a.g;exact lN (kX (a.retM b [(0,0,7)] (d8 cf) ⟨_,_,V,rfl,fp,a.own 1,a.f.1,d2.two h9 rfl⟩))
   have zA:=oT zg;refine lB 63 zg (lL a ac (au (aa a aK (lI 66 ((j:Nat)-1) ?_))));refine lL a ac (fD 68 (L ((j:Nat)-1) oM oM p oM _ _ a.g (a.own 1) (a.jk 1) a.f.1) ?_);rintro _ _ _ ms ⟨df,bd,H,rfl,s3,fb,hd,f6⟩;replace a:=(a.stepM 1 ms fb).to [⟨B,42,dE ⟨0,0,false,none,0,0,none,0,0,⟨#[]⟩,none,0,0⟩⟩,⟨i,69,[qS A x.length u,nV H]⟩] [];replace b:=b.trans ms;replace a:=(a.add (K:=fun l=>RmH j l df bd) hd);refine lL a aK (lI 71 ((j:Nat)-1) ?_);refine lL a ac (fD 73 (L ((j:Nat)-1) oM oM H oM _ _ a.g (a.own 1) (a.jk 1) a.f.2.1) ?_);rintro _ _ _ mp ⟨c3,Y,S,rfl,hn,j1,hw,ht⟩;replace a:=(a.stepM 1 mp j1).to [⟨B,42,dE ⟨0,0,false,none,0,0,none,0,0,⟨#[]⟩,none,0,0⟩⟩,⟨i,69,[qS A x.length u,nV S]⟩] [];replace b:=b.trans mp;replace a:=(a.add (K:=fun l=>RmH j l c3 Y) hw);refine j6 74 (m9 4 df c3 bd Y _ _ a.g a.f.2.1 a.f.1) ?_;rintro _ _ _ nn ⟨dc,rfl,h4⟩;replace b:=b.trans (nn.m _);replace a:=a.step nn;replace a:=(a.add (K:=fun l=>RmH (j+1) l dc (.mk 4 0 0 ⟨#[]⟩ [bd,Y])) h4);refine np 0 0 (dE dc) a (fun _ y a=>?_);replace b:=b.put2 y e g a.g;exact lN (kX (a.retM b [(0,0,7)] (d8 dc) ⟨_,_,S,rfl,hn,a.own 1,a.f.1,f6.two ht rfl⟩))
  have zx:=oT zf;refine lB 49 zf (lL a ac (au (aa a aK (lI 52 ((j:Nat)-1) ?_))));refine lL a ac (fD 54 (L ((j:Nat)-1) oM oM p oM _ _ a.g (a.own 1) (a.jk 1) a.f.1) ?_);rintro _ _ _ m0 ⟨ch,W,F,rfl,s0,fn,fv,kn⟩;replace a:=(a.stepM 1 m0 fn).to [⟨B,42,dE ⟨0,0,false,none,0,0,none,0,0,⟨#[]⟩,none,0,0⟩⟩,⟨i,69,[qS A x.length u,nV F]⟩] [];replace b:=b.trans m0;replace a:=(a.add (K:=fun l=>RmH j l ch W) fv);refine lL a aK (lI 57 ((j:Nat)-1) ?_);refine lL a ac (fD 59 (L ((j:Nat)-1) oM oM F oM _ _ a.g (a.own 1) (a.jk 1) a.f.2.1) ?_);rintro _ _ _ m4 ⟨cb,bb,J,rfl,d1,f3,h6,h2⟩;replace a:=(a.stepM 1 m4 f3).to [⟨B,42,dE ⟨0,0,false,none,0,0,none,0,0,⟨#[]⟩,none,0,0⟩⟩,⟨i,69,[qS A x.length u,nV J]⟩] [];replace b:=b.trans m4;replace a:=(a.add (K:=fun l=>RmH j l cb bb) h6);refine j6 60 (m9 3 ch cb W bb _ _ a.g a.f.2.1 a.f.1) ?_;rintro _ _ _ nq ⟨cp,rfl,fm⟩;replace b:=b.trans (nq.m _);replace a:=a.step nq;replace a:=(a.add (K:=fun l=>RmH (j+1) l cp (.mk 3 0 0 ⟨#[]⟩ [W,bb])) fm);refine np 0 0 (dE cp) a (fun _ y a=>?_);replace b:=b.put2 y e g a.g;exact lN (kX (a.retM b [(0,0,7)] (d8 cp) ⟨_,_,J,rfl,d1,a.own 1,a.f.1,kn.two h2 rfl⟩))
 try rw[ze] at a
 try rw[ze]
 refine cl (aa a ac (fD 32 (vI A u x hl hz i p oM _ _ a.g (a.own 1) (a.jk 1) a.f.1) ?_));rintro _ _ _ m3 ⟨o,C,rfl,bq,bn,f7⟩;replace a:=(a.stepM 1 m3 f7).to [⟨B,42,dE ⟨0,0,false,none,0,0,none,0,0,⟨#[]⟩,none,0,0⟩⟩,⟨i,69,[qS A x.length u,nV C]⟩] [];replace b:=b.trans m3;have cq:=bn.1;have db:=bn.2;have tt:=te o 3 oM cq db;refine lL a ac (af (aa a ac (j6 34 (ni (o) 3 oM oM _ _ a.g) ?_)));rintro _ _ _ mz rfl;replace b:=b.trans (mz.m _);replace a:=a.step mz;have s9:=ez (o) 3 oM;cases za:(((cn (o) 3:Nat):Int) == (0:Int))
 .
  have zt:=ag za;refine lB 35 za (ah (cK (aD (j6 40 (xq _ _ a.g) ?_))));rintro _ _ _ m1 ⟨bN,rfl,hN0⟩;replace b:=b.trans (m1.m _);replace a:=a.step m1;replace a:=a.aS hN0;have tv:ea.length=3:=rfl;refine lL a ac (lV 42 (iV ((o).tdiv 3)) ?_ (hr:=rS (((o).tdiv 3)) kR (nJ oM oM)));refine j6 43 (ni ((o).tdiv 3) 3 oM oM _ _ a.g) ?_;rintro _ _ _ k1 rfl;replace b:=b.trans (k1.m _);replace a:=a.step k1;have s4:=ez ((o).tdiv 3) 3 oM;refine lX 44 (sB bN) 3 3 1 (cn ((o).tdiv 3) 3:Nat) (cn ((o).tdiv 3) 3:Nat) ((a.f.1).ok oM) (lH 45 (.string (ea.getD (cn ((o).tdiv 3) 3:Nat) ⟨#[]⟩)) a ((a.f.1).el (cn ((o).tdiv 3) 3:Nat) oM) (lL a [.v (d8 ⟨2,0,false,none,0,0,none,0,0,ea.getD (cn ((o).tdiv 3) 3:Nat) ⟨#[]⟩,none,0,0⟩)] (np 0 0 (dE ⟨2,0,false,none,0,0,none,0,0,ea.getD (cn ((o).tdiv 3) 3:Nat) ⟨#[]⟩,none,0,0⟩) a (fun _ y a=>?_))));replace b:=b.put2 y e g a.g;exact lN (kX (a.retM b [(0,0,7)] (d8 ⟨2,0,false,none,0,0,none,0,0,ea.getD (cn ((o).tdiv 3) 3:Nat) ⟨#[]⟩,none,0,0⟩) ⟨⟨2,0,false,none,0,0,none,0,0,ea.getD (cn ((o).tdiv 3) 3:Nat) ⟨#[]⟩,none,0,0⟩,_,C,rfl,bq,a.own 1,AY,GrT.name (DI oM)⟩))
 have zt:=eq_of_beq za;refine lB 35 za (au (aa a ac (lV 37 (iV ((o).tdiv 3)) ?_ (hr:=rS (((o).tdiv 3)) kR (nJ oM oM)))));refine j6 38 (hR ((o).tdiv 3) oM oM _ _ a.g) ?_;rintro _ _ _ l0 ⟨zQ,zR,zS,zU,rfl,zL,zM,zN,zP⟩;replace b:=b.trans (l0.m _);replace a:=a.step l0;replace a:=a.aP zN zP;refine j6 39 (Ia (d:=j) (aw (de ((o).tdiv 3)).num) zQ ((lim (ab (de ((o).tdiv 3)).num)).length) zR zS ((lim (de ((o).tdiv 3)).den).length) zU _ _ a.g ⟨true,⟨_,_,_,_,rfl,zL,zM,a.f.2.1,a.f.1⟩,fun l=>(by cases l)⟩) ?_;rintro _ _ _ nj ⟨c8,rfl,f8⟩;replace b:=b.trans (nj.m _);replace a:=a.step nj;replace a:=(a.add (K:=fun l=>RmH (j+1) l c8 (.mk 1 0 (de ((o).tdiv 3)) ⟨#[]⟩ [])) f8);refine np 0 0 (dE c8) a (fun _ y a=>?_);replace b:=b.put2 y e g a.g;exact lN (kX (a.retM b [(0,0,7)] (d8 c8) ⟨_,_,C,rfl,bq,a.own 1,a.f.1,GrT.num (LQ.hand _)⟩))
theorem Db (a:Nat):∀ (k:Nat) {z:Int},z=(k:Nat)->∀ (A:Z9) (cap:Nat) (zs:List Int) (hl:zs.length<=9223372036854775807) (hz:pp zs) (dp:Nat),dp=k->dp<=1000->∀ (at_:Nat),at_<=zs.length->∀ (w:World) (h:Hp),G w h->Own w a 69 [.slice A zs.length cap,nV at_]->h[a]?=some bj->Si A zs h->Calls Tryz.prog 16 #[pB a,iV z,.bool false] w (dX a w h (fun v w' b=>∃ (r:RTm)(t:Tm)(at2:Nat),v=d8 r/\at2<=zs.length/\Own w' a 69 [.slice A zs.length cap,nV at2]/\RmH (dp+1) b r t/\GrT (dp+1) t))
  | 0,z,e,A,cap,zs,hl,hz,dp,ed,hd,at_,ha,w,h,g,ho,hj,hA=>by
    subst ed e;exact xS a A cap zs hl hz 0 hd (fun z h1 c=>by omega) at_ ha w h g ho hj hA
  | k+1,z,e,A,cap,zs,hl,hz,dp,ed,hd,at_,ha,w,h,g,ho,hj,hA=>by
    subst ed e;exact xS a A cap zs hl hz (k+1) hd (fun z h1 c=>Db a k (z:=z) oM A cap zs hl hz k rfl oM) at_ ha w h g ho hj hA
theorem DW {h:Hp}{b:Bool}{d i:Z9}{c j a f:Nat}{q:Rat}(x:RZ h (b,.slice d c j,.slice i a f) q)(e:a=0):q=0:=by subst e;exact G2 x
theorem xF  (sm:ByteArray->Prop)(d:Nat)(ih:∀ (r:RTm) (t:Tm) (w:World) (h:Hp),G w h->RmH d h r t->rB sm d t->Tab h->Calls Tryz.prog 4 #[d8 r] w (Ret w h (fun v h1=>∃ p,v=ar p/\TmH d h1 p t)))(op n:Int)(F:Bool)(I:Z9)(J H:Nat)(D:Z9)(z C:Nat)(q:Rat)(s:ByteArray)(A:Z9)(c:Nat)(y:List RTm)(ks:List Tm)(hc:y.length<=c)(hk3:ks.length<=3)(hop : -1000<=op/\op<=1000)(hn : -1000<=n/\n<=1000)(hq:LQ 3000 q)(hsm:sm s)(hW:∀ i,i<ks.length->rB sm d (ks.getD i ct))(w:World)(h:Hp)(g:G w h)(hZ:RZ h (F,.slice I J H,.slice D z C) q)(hK:SlO 7 dE gZ h A y)(Z:Rms d h y ks)(tb:Tab h):CR 4 #[d8 ⟨op,n,F,I,J,H,D,z,C,s,A,y.length,c⟩] w h (fun v h1=>∃ p,v=ar p/\TmH (d+1) h1 p (.mk op n q s ks)):=by
 have a:=(((((sS g).add (K:=fun e=>RZ e (F,qS I J H,qS D z C) q) hZ).aS hK).add (K:=fun e=>Rms d e y ks) Z).add (K:=fun e=>Tab e) tb);have hln:=(a.f.2.1).len;refine go Tryz.func4 [(0,d8 ⟨op,n,F,I,J,H,D,z,C,s,A,y.length,c⟩)] rfl (aD (lA 1 42 (dE ⟨op,n,F,I,J,H,D,z,C,s,A,y.length,c⟩) a (fun B w2 h3 a=>lA 2 32 a2 a (fun S w5 h6 a=>aR (lL a [.v (pB B),.o (iV op) 1 0 1,.v (qP B 1),.o (iV n) 1 1 1,.v (qP B 5),.o (.string s) 1 5 1,.v (.agg #[iV op,iV n,qF,uV 0,eS,uV 0,eS,.string s,sZ])] (lA 3 32 a2 a (fun M w8 h9 a=>lP 0 0 ([iV op,iV n,qF,uV 0,eS,uV 0,eS,.string s,sZ]) a (fun _ a=>?_))))))));refine lN (CG.join (fun Γ w_=>∃ (L:Rat)(e:Hp),Γ=[(1,pB B),(2,pB S),(3,pB M)]/\SS w h w_ e [⟨M,32,aI ⟨op,n,L,s,none,0,0⟩⟩,⟨S,32,[iV 0,iV 0,qF,uV 0,eS,uV 0,eS,eS,sZ]⟩,⟨B,42,dE ⟨op,n,F,I,J,H,D,z,C,s,A,y.length,c⟩⟩] [] [fun e=>Tab e,fun e=>Rms d e y ks,fun e=>SlO 7 dE gZ e A y,fun e=>RZ e (F,qS I J H,qS D z C) q]/\L=q) ?_ ?_)
 .
  refine aa a [.v (qP B 2),.v (qP B 4),.o (qS D z C) 2 4 1,.v (nV z)] ?_;cases U:(decide ((0:Int)<(z:Int)))
  .
   have zd:=oF U;refine lB 16 U (ah (CG.skip ?_));intro a_ Q;exact ⟨_,⟨0,h9,rfl,a.to _ _,((DW a.f.r.2.1 oM).symm)⟩,Q.to _ kR⟩
  have zd:=oT U;refine lB 16 U (au (kQ (lL a [.v (qP B 2),.o (.agg #[.bool F,qS I J H,qS D z C]) 2 2 3] (am 19 a (Hs (.agg #[.bool F,qS I J H,qS D z C]) q (hq.mono oM) _ _ a.g (EJ a.f.r.2.1 oM) a.f.1) (fun _ zj a=>lL a [.v (qP M 2)] (lP 0 2 (qc q) a (fun _ a=>lD ?_)))))));intro a_ Q;exact ⟨_,⟨q,zj,rfl,a.to _ _,rfl⟩,Q.to _ kR⟩
 rintro _ _ ⟨L,zk,rfl,a,hqq⟩;refine cQ (aa a ac (bh ?_));replace a:=a.nil 32 9;replace a:=a.add (K:=fun e=>Tms d e ([]) (ks.take 0)) (Tms.nil);refine cj _ (CG.loop (fun μ_ Γ w_=>∃ (k:Nat)(j:Z9)(u:Nat)(x:List PTm)(e:Hp),μ_=y.length-k/\Γ=[(1,pB B),(2,pB S),(3,pB M),(4,nV k)]/\SS w h w_ e [⟨M,32,pG op n L s j ((x).length) u⟩,⟨S,32,[iV 0,iV 0,qF,uV 0,eS,uV 0,eS,eS,sZ]⟩,⟨B,42,dE ⟨op,n,F,I,J,H,D,z,C,s,A,y.length,c⟩⟩] [⟨32,9,j,u,(x).length,(x).flatMap aI⟩] [fun e=>Tms d e x (ks.take k),fun e=>Tab e,fun e=>Rms d e y ks,fun e=>SlO 7 dE gZ e A y,fun e=>RZ e (F,qS I J H,qS D z C) q]/\k<=y.length) _ ⟨0,none,0,[],zk,rfl,rfl,a.to _ _,JL _⟩ ?_);rintro _ _ _ ⟨k,j,u,x,_,bb,rfl,a,hk⟩;have hlT:=(a.f.1).len;rw[List.length_take] at hlT
 refine cQ (aa a [.c,.v (qP B 6),.o (qS A y.length c) 2 6 1,.v (nV y.length)] ?_);cases V:(decide ((k:Int)<(y.length:Int)))
 .
  have ze:=oF V;refine lB 25 V (ah (CG.exit ?_))
  show CG _ _ _ _ _ _ _ _
  refine aD ?_;have Y:k=ks.length:=by omega
  obtain ⟨_,a,zi⟩:=a.pubr 0 (A:=j) (c:=u) (l:=x) (f:=aI) (ty:=32) (sz:=9) aE (fun _=>rfl);exact lL a [.o (ar ⟨op,n,L,s,j,(x).length,u⟩) 0 0 9] (lP 1 0 (aI ⟨op,n,L,s,j,(x).length,u⟩) a (fun _ a=>ae a [(1,0,9)] (ar ⟨op,n,L,s,j,(x).length,u⟩) (⟨⟨op,n,L,s,j,x.length,u⟩,rfl,by subst hqq;exact TmH.mk (by have x_:=(a.f.2.1);rw[Y,List.take_length] at x_;exact x_) zi a.f.1⟩)))
 have ze:=oT V;refine lB 25 V (au (cK (cQ (kZ (CG.region ⟨((Value.slice j ((x).length) u).ownBlock.toList),none⟩ 10 [] mixed kR a.g aq (a.ro_lt 0 (ty:=32) (sz:=9) (A:=j) (c:=u) (m:=(x).length) (cs:=(x).flatMap aI)) ?_)))));refine eV 0 28 (qP M 8) (eO 1 29 [(0,8,1)] (qS j ((x).length) u) a ?_ (hM:=fun p X=>by obtain rfl:=ov.1 X;exact a.ro_ne 0 0 (ty:=32) (sz:=9) (A:=j) (c:=u) (m:=(x).length) (cs:=(x).flatMap aI)));refine eV 2 30 (qP B 6) (eO 3 31 [(2,6,1)] (qS A y.length c) a ?_ (hM:=fun p X=>by obtain rfl:=ov.1 X;exact a.ro_ne 2 0 (ty:=32) (sz:=9) (A:=j) (c:=u) (m:=(x).length) (cs:=(x).flatMap aI)));refine eV 4 32 (nV k) (eX 5 33 A y.length c 7 (k:Nat) k ((a.f.r.2.1).ok oM) (eH 6 34 (d8 (y.getD k gZ)) a ((a.f.r.2.1).el k oM) ?_ (hM:=a.ro_jk 0 (ty:=32) (sz:=9) (A:=j) (c:=u) (m:=(x).length) (cs:=(x).flatMap aI))));refine eC 7 35 a (fun _ _ a=>ih (y.getD k gZ) (ks.getD k ct) _ _ a.g ((a.f.r.1).at_ k oM) (hW k oM) a.f.2.1) ?_;rintro _ _ _ _ _ a ⟨O,rfl,W⟩;replace a:=(a.add (K:=fun e=>TmH d e O (ks.getD k ct)) W);refine eR 8 36 32 1 (pC O) a (fun zl _ _ a=>eY 9 37 0 32 9 u j x aI O 112 zl (.agg #[iV 0,iV 0,qF,uV 0,eS,uV 0,eS,eS,sZ]) a (fun _ f_=>f_.1) (fun b hb=>Option.mem_toList.2 hb) (fun zf zg _ _ a=>bY a (fun _ zm a=>tV 10 38 (qP M 8) (tP 11 0 8 ([qS zf ((x++[O]).length) zg]) a (fun _ a=>tN (kQ (lL a ac (bI 27 ((k:Nat)+1) (k+1) ?_))))))));refine lL a ac (lD ?_);intro a_ Q;replace a:=(a.tl.tl.tl.add (K:=fun e=>Tms d e (x++[O]) (ks.take (k+1))) (by rw[k8 ct oM];exact (a.f.r.1).snoc a.f.2.1));refine ⟨_,_,?_,⟨k+1,zf,zg,x++[O],zm,rfl,rfl,a.to _ _,oM⟩,Q.to _ kR⟩
 omega
theorem rQ (sm:ByteArray->Prop):∀ (d:Nat) (r:RTm) (t:Tm) (w:World) (h:Hp),G w h->RmH d h r t->rB sm d t->Tab h->Calls Tryz.prog 4 #[d8 r] w (Ret w h (fun v h1=>∃ p,v=ar p/\TmH d h1 p t))
  | 0,_,_,_,_,_,x,_,_=>x.elim
  | d+1,r,t,w,h,g,x,wf,tb=>by
    obtain ⟨op,n,b,i,o,J,j,e,C,q,s,A,c,l,ks,rfl,rfl,y,u,I,a⟩:=x.open;obtain ⟨H,B,z,F,D,f⟩:=wf;exact xF sm d (fun r t w h=>rQ sm d r t w h) op n b i o J j e C q s A c l ks u H B z F D f w h g y I a tb
theorem DrunR.lq {d:Nat}{t:Tm}{ns:List ByteArray}{fs:List Rat}{e:Int}{q:Rat}{f:List Rat}(x:DrunR d t ns fs e q f)(h:∀ i,LQ 1 (fs.getD i 0))(l:d<=20):LQ 3000 q/\(∀ i,LQ 1000000 (f.getD i 0))/\f.length<=fs.length:=by
 obtain ⟨c,c1,⟨_,_,rfl,rfl⟩|⟨h0,a⟩⟩:=x
 ·exact ⟨im kD,fun i=>by rw[eo];exact im kD,JL _⟩
 ·have b:=c1.ok h0
  have wf:=C6 b;obtain ⟨_,j,k2⟩:=pE (ix:=dh ns) h wf;have g:=b.1.2;have e1:q=(bB (dh ns) fs d t).2.1:=congrArg (·.2.1) a;have e2:f=(bB (dh ns) fs d t).2.2:=congrArg (·.2.2) a;rw[e1,e2];refine ⟨j.mono oM,fun i=>(k2 i).mono (by have:=D2 g l;omega),?_⟩
  by_cases z:(bB (dh ns) fs d t).1=0
  ·rw[jD wf z];exact ep _
  ·rw[wP z];exact JL _
theorem Ek (A:Z9)(b:Nat)(d:List Int)(B:d.length<=9223372036854775807)(hz:pp d)(e:Nat)(j:e<=1000)(w:World)(h:Hp)(g:G w h)(u:Si A d h):CR 5 #[.slice A d.length b,nV e] w h (fun v h1=>∃ (r:RTm)(t:Tm),v=d8 r/\RmH (e+1) h1 r t/\GrT (e+1) t):=by
 have a:=((sS g).aS u);refine go Tryz.func5 [(0,qS A d.length b),(1,nV e)] rfl (aD (lA 4 42 (dE ⟨0,0,false,none,0,0,none,0,0,⟨#[]⟩,none,0,0⟩) a (fun x w2 H a=>aR (lL a [.c,.v (.agg #[qS A d.length b,iV 0])] (lA 7 69 ([qS A d.length b,iV 0]) a (fun o F J a=>lL a ac (fD 9 (Db o e rfl A b d B hz e rfl j 0 (JL _) _ _ a.g (a.own 0) (a.jk 0) a.f.1) ?_)))))));rintro _ I D y ⟨r,t,i,rfl,l,z,hR,C⟩;replace a:=(a.stepM 0 y z).to [⟨o,69,[qS A d.length b,nV i]⟩,⟨x,42,dE ⟨0,0,false,none,0,0,none,0,0,⟨#[]⟩,none,0,0⟩⟩] [];replace a:=(a.add (K:=fun p=>RmH (e+1) p r t) hR);exact lP 1 0 (dE r) a (fun _ a=>ae a [(1,0,7)] (d8 r) (⟨r,t,rfl,a.f.1,C⟩))
def fF (a b:List Rat)(i:Nat):Nat->Rat
  | 0=>0
  | j+1=>fF a b i j+a.getD j 0*b.getD (i-j) 0
def fG (m:Nat)(q:Rat):List Rat:=(yp m (0:Rat)).set 0 q
def n3 (m:Nat)(x y:Rat):List Rat:=if 1<m then (fG m x).set 1 y else fG m x
def jX (m:Nat)(a b:List Rat):List Rat:=(hO m).map fun i=>fF a b i (i+1)
def fU (a:List Rat)(m:Nat):Nat->List Rat
  | 0=>yp m 0
  | i+1=>(fU a m i).set i (if i=0 then ((1:Int):Rat)/a.getD 0 0 else -(fF (fU a m i) a i i*(fU a m i).getD 0 0))
def fz (m:Nat)(a:List Rat):List Rat:=fU a m m
theorem oW (m:Nat)(q:Rat):(fG m q).length=m:=by simp[fG]
theorem lc (m:Nat)(x y:Rat):(n3 m x y).length=m:=by unfold n3;split<;>simp[fG]
theorem uS (m:Nat)(a b:List Rat):(jX m a b).length=m:=by simp[jX]
theorem fi (a:List Rat)(m:Nat):∀ k,(fU a m k).length=m
 | 0=>by simp[fU]
 | k+1=>by unfold fU;rw[List.length_set];exact fi a m k
theorem oG (m:Nat)(a:List Rat):(fz m a).length=m:=fi a m m
theorem D8 {m:Nat}(x y:Rat)(h:1<m):(fG m x).set 1 y=n3 m x y:=by unfold n3;rw[if_pos h]
theorem ES {m:Nat}(x y:Rat)(h:¬1<m):fG m x=n3 m x y:=by unfold n3;rw[if_neg h]
section
variable {a b:List Rat}{m i j k:Nat}
theorem vG {f:Nat->Rat}(h:i<m):(dC f m k).getD i 0=if i<k then f i else 0:=jx h
theorem jP (f:Nat->Rat)(m k:Nat):(dC f m k).length=m:=by simp[dC]
theorem tQ {l:List Rat}(h:i<l.length)(e:l.getD i 0=0):l=l.set i 0:=by
 refine jn (by simp) fun t=>?_
 rw[eh h]
 split
 ·rename_i e2;subst e2;exact e
 ·rfl
theorem E8 (h:i<m):dC (fun i=>fF a b i (i+1)) m i=(dC (fun i=>fF a b i (i+1)) m i).set i (fF a b i 0) :=
 tQ (by rw[jP];exact h) (by rw[vG h,if_neg (Nat.lt_irrefl i)])
theorem Fs {S:List Rat}(c:S.length=m)(h:i<m):(S.set i (fF a b i j)).set i ((S.set i (fF a b i j)).getD i 0+a.getD j 0*b.getD (i-j) 0)=S.set i (fF a b i (j+1)):=by
 rw[List.set_set,eh oM,if_pos rfl];rfl
theorem DV {S:List Rat}(a:S.length=m)(h:i<m)(c:Rat):(S.set i c).getD i 0=c:=by rw[eh oM,if_pos rfl]
theorem An (h:i<m)(e:j=i+1):(dC (fun i=>fF a b i (i+1)) m i).set i (fF a b i j)=dC (fun i=>fF a b i (i+1)) m (i+1):=by
 subst e;exact e7 (f:=fun i=>fF a b i (i+1)) h
theorem Cd:dC (fun i=>fF a b i (i+1)) m m=jX m a b:=fd _ _
theorem E9 (h:1<=i):(fU a m i).set i (-(fF (fU a m i) a i i*(fU a m i).getD 0 0))=fU a m (i+1):=by
 show _=(fU a m i).set i (if i=0 then _ else _)
 rw[if_neg oM]
theorem tm (hk:k<=m):∀ {n},k<=n->i<k->(fU a m n).getD i 0=(fU a m k).getD i 0
  | n,hn,hi=>by
    obtain ⟨e,rfl⟩:∃ e,n=k+e:=⟨n-k,by omega⟩
    induction e with
    | zero=>rfl
    | succ e ih =>
      rw[<-ih oM]
      show ((fU a m (k+e)).set (k+e) _).getD i 0=_
      by_cases hm:k+e<m
      . rw[eh (by rw[fi];exact hm),if_neg oM]
      . rw[K8 (by rw[fi];omega)]
theorem qJ:∀ {k},k<=i->(fU a m k).getD i 0=0
  | 0,_=>fj m i
  | k+1,h=>by
    show ((fU a m k).set k _).getD i 0=0
    by_cases hm:k<m
    . rw[eh (by rw[fi];exact hm),if_neg oM];exact qJ oM
    . rw[K8 (by rw[fi];omega)];exact qJ oM
theorem Ce {K:Nat}(b:1<=K)(h:∀ i,LQ K ((fz m a).getD i 0))(hk:k<=m)(i:Nat):LQ K ((fU a m k).getD i 0):=by
 by_cases hi:i<k
 ·rw[<-tm hk hk hi];exact h i
 ·rw[qJ oM];exact im b
end
def nC (m:Nat)(a b:List Rat):List Rat:=(hO m).map fun i=>a.getD i 0+b.getD i 0
def i6 (m:Nat)(a:List Rat)(k:Rat):List Rat:=(hO m).map fun i=>a.getD i 0*k
theorem vT (m:Nat)(a b:List Rat):(nC m a b).length=m:=by simp[nC]
theorem oD (m:Nat)(a:List Rat)(k:Rat):(i6 m a k).length=m:=by simp[i6]
theorem mI {a b c:List Rat}{i:Nat}:∀ j,(∀ t,t<j->a.getD t 0=c.getD t 0)->fF a b i j=fF c b i j
  | 0,_=>rfl
  | j+1,h=>by
    show fF a b i j+a.getD j 0*_=fF c b i j+c.getD j 0*_
    rw[mI j (fun t d=>h t oM),h j (Nat.lt_succ_self j)]
theorem Ay {a:List Rat}{m i j:Nat}(b:j<=i)(hi:i<=m):fF (fU a m i) a i j=fF (fz m a) a i j :=
 mI j fun t c=>(tm hi hi oM).symm
def xz (p:Nat->Bool)(s:ByteArray):Nat->Nat->Nat
  | 0,a=>a
  | f+1,a=>if a<s.size/\p (aU s a)=true then xz p s f (a+1) else a
def rn (p:Nat->Bool)(s:ByteArray)(a:Nat):Nat:=xz p s (s.size-a) a
theorem vd (p:Nat->Bool)(s:ByteArray):∀ f a,a<=s.size->xz p s f a<=s.size
  | 0,a,h=>h
  | f+1,a,h=>by
    unfold xz;split
    . rename_i c;exact vd p s f (a+1) c.1
    . exact h
theorem xl {p:Nat->Bool}{s:ByteArray}{a:Nat}(h:a<=s.size):rn p s a<=s.size:=vd p s _ a h
theorem xM {p:Nat->Bool}{s:ByteArray}{j:Nat}:∀ f a,s.size-a<=f->a<=j->j<=s.size->(∀ i,a<=i->i<j->p (aU s i)=true)->(j=s.size\/p (aU s j)=false)->xz p s f a=j
  | 0,a,h1,h2,h3,_,_=>by show a=j;omega
  | f + 1,a,h1,h2,h3,h4,h5=>by
    unfold xz
    by_cases e:a=j
    . subst e
      rw[if_neg];rintro ⟨d,b⟩
      rcases h5 with h5|h5
      . omega
      . rw[h5] at b;cases b
    . rw[if_pos ⟨by omega,h4 a (ep a) oM⟩]
      exact xM f (a+1) oM oM h3 (fun i hi c=>h4 i oM c) h5
theorem pP {p:Nat->Bool}{s:ByteArray}{a j:Nat}(e:a<=j)(d:j<=s.size)(c:∀ i,a<=i->i<j->p (aU s i)=true)(b:j=s.size\/p (aU s j)=false):rn p s a=j:=xM _ a (ep _) e d c b
theorem pL (p:Nat->Bool)(s:ByteArray):∀ f a,s.size-a<=f->xz p s f a<s.size->p (aU s (xz p s f a))=false
  | 0,a,h1,b=>by
    have b:a<s.size:=b
    omega
  | f + 1,a,h1,b=>by
    unfold xz at b ⊢
    split
    . rename_i c;rw[if_pos c] at b;exact pL p s f (a+1) oM b
    . rename_i c;rw[if_neg c] at b
      cases h:p (aU s a) with
      | true=>exact absurd ⟨b,h⟩ c
      | false=>rfl
def AZ (c:Nat):Bool:=decide (c=32)
def kY (c:Nat):Bool:=decide ((48<=c/\c<=57)\/c=46)
def gF (c:Nat):Bool:=decide (ur c)
def sk (s:ByteArray)(a:Nat):Nat:=rn AZ s a
theorem lh {s:ByteArray}{a:Nat}(h:a<=s.size):sk s a<=s.size:=xl h
theorem Hr (s:ByteArray)(a:Nat):sk s (sk s a)=sk s a:=by
 rcases eb (sk s a) s.size with h1|h1
 ·exact pP (ep _) (Nat.le_of_lt h1) (fun i b c=>absurd b oM) (.inr (pL AZ s (s.size-a) a (ep _) h1))
 ·show xz AZ s (s.size-sk s a) (sk s a)=sk s a
  rw[show s.size-sk s a=0 by omega];rfl
theorem sT {s:ByteArray}{a:Nat}(h:s.size<=a):aU s a=0:=by
 unfold aU
 rw[zY,List.getElem?_eq_none (by simpa using h)];rfl
theorem uM {s:ByteArray}{a:Nat}(h:aU s a≠0):a<s.size:=by
 rcases eb a s.size with h1|h1
 ·exact h1
 ·exact absurd (sT h1) h
inductive PR where
  | ok (t:Tm) (a:Nat)
  | err (b:Nat)
inductive PKd where
  | sum|prod|sign|pow|atom
  | more (lv:Bool) (t:Tm)
def gQ (op:Int)(t u:Tm):Tm:=.mk op 0 0 ⟨#[]⟩ [t,u]
def nF (q:Rat):Tm:=.mk 1 0 q ⟨#[]⟩ []
def oS (s:ByteArray):Tm:=.mk 2 0 0 s []
def rx (x:Option PR)(f:Tm->Nat->Option PR):Option PR:=match x with
  | none=>none
  | some (.ok t a)=>f t a
  | some (.err b)=>some (.err b)
def c1 (lv:Bool):Nat:=if lv then 42 else 43
def c2 (lv:Bool):Nat:=if lv then 47 else 45
def xY (lv:Bool):Int:=if lv then 5 else 3
def rN (lv:Bool):Int:=if lv then 6 else 4
def part (lv:Bool):PKd:=if lv then .sign else .prod
section
variable (nf:ByteArray->Option Rat)(s:ByteArray)
def fx:Nat->PKd->Nat->Option PR
  | 0,_,_=>none
  | n+1,.sum,a=>rx (fx n .prod a) fun t b=>fx n (.more false t) b
  | n+1,.prod,a=>rx (fx n .sign a) fun t b=>fx n (.more true t) b
  | n+1,.more lv t,a =>
    if aU s (sk s a)=c1 lv then rx (fx n (part lv) (sk s a+1)) fun u b=>fx n (.more lv (gQ (xY lv) t u)) b
    else if aU s (sk s a)=c2 lv then rx (fx n (part lv) (sk s a+1)) fun u b=>fx n (.more lv (gQ (rN lv) t u)) b
    else some (.ok t (sk s a))
  | n+1,.sign,a=>if aU s (sk s a)=45 then none else fx n .pow (sk s a)
  | n+1,.pow,a=>rx (fx n .atom a) fun t b=>if aU s (sk s b)=94 then none else some (.ok t (sk s b))
  | n + 1,.atom,a =>
    if kY (aU s (sk s a))=true then match nf (s.extract (sk s a) (rn kY s (sk s a))) with
      | some q=>some (.ok (nF q) (rn kY s (sk s a)))
      | none=>some (.err (sk s a))
    else if lE (aU s (sk s a))\/aU s (sk s a)=95 then
      if ej (s.extract (sk s a) (rn gF s (sk s a)))=true then none
      else if aN (s.extract (sk s a) (rn gF s (sk s a)))=true then some (.ok (oS (s.extract (sk s a) (rn gF s (sk s a)))) (rn gF s (sk s a)))
      else some (.err (sk s a))
    else if aU s (sk s a)=40 then rx (fx n .sum (sk s a+1)) fun t b=>if aU s (sk s b)=41 then some (.ok t (sk s b+1)) else some (.err (sk s b))
    else some (.err (sk s a))
variable {nf s}
theorem jm {x:Option PR}{f:Tm->Nat->Option PR}{t:Tm}{b:Nat}(h:rx x f=some (.ok t b)):∃ u a,x=some (.ok u a)/\f u a=some (.ok t b):=by
 match x,h with
 | some (.ok u a),h=>exact ⟨u,a,rfl,h⟩
def ux (lv:Bool):PKd:=if lv then .prod else .sum
section
variable {n a b:Nat}{t u:Tm}{lv:Bool}{op:Int}
theorem BZ {k:PKd}{r:PR}(h:fx nf s n k a=some r):∃ m,n=m+1:=by
 cases n with
 | zero=>cases h
 | succ m=>exact ⟨m,rfl⟩
theorem Ca (h:fx nf s (n+1) (ux lv) a=some (.ok t b)):∃ u c,fx nf s n (part lv) a=some (.ok u c)/\fx nf s n (.more lv u) c=some (.ok t b):=by
 cases lv<;>exact jm h
theorem tK (h:fx nf s (n+1) (.more lv u) a=some (.ok t b))(c:aU s (sk s a)=c1 lv):∃ v e,fx nf s n (part lv) (sk s a+1)=some (.ok v e)/\fx nf s n (.more lv (gQ (xY lv) u v)) e=some (.ok t b):=by
 unfold fx at h;rw[if_pos c] at h;exact jm h
theorem ug (h:fx nf s (n+1) (.more lv u) a=some (.ok t b))(d:aU s (sk s a)≠c1 lv)(c:aU s (sk s a)=c2 lv):∃ v e,fx nf s n (part lv) (sk s a+1)=some (.ok v e)/\fx nf s n (.more lv (gQ (rN lv) u v)) e=some (.ok t b):=by
 unfold fx at h;rw[if_neg d,if_pos c] at h;exact jm h
theorem tS (h:fx nf s (n+1) (.more lv u) a=some (.ok t b))(d:aU s (sk s a)≠c1 lv)(c:aU s (sk s a)≠c2 lv):t=u/\b=sk s a:=by
 unfold fx at h;rw[if_neg d,if_neg c] at h;injection h with h;injection h with h1 h2;exact ⟨h1.symm,h2.symm⟩
theorem mE (h:fx nf s (n+1) .sign a=some (.ok t b)):aU s (sk s a)≠45/\fx nf s n .pow (sk s a)=some (.ok t b):=by
 unfold fx at h
 split at h
 ·cases h
 ·rename_i c;exact ⟨c,h⟩
theorem Ct (h:fx nf s (n+1) .pow a=some (.ok t b)):∃ e,fx nf s n .atom a=some (.ok t e)/\aU s (sk s e)≠94/\b=sk s e:=by
 unfold fx at h
 obtain ⟨v,e,h1,d⟩:=jm h
 split at d
 ·cases d
 ·rename_i c;injection d with d;injection d with d h3;subst d;exact ⟨e,h1,c,h3.symm⟩
section
variable (h:fx nf s (n+1) .atom a=some (.ok t b))
include h
theorem Ao (c:kY (aU s (sk s a))=true):∃ q,nf (s.extract (sk s a) (rn kY s (sk s a)))=some q/\t=nF q/\b=rn kY s (sk s a):=by
 unfold fx at h;rw[if_pos c] at h
 split at h
 ·rename_i q d;injection h with h;injection h with h1 h2;exact ⟨q,d,h1.symm,h2.symm⟩
 ·cases h
variable (c0:kY (aU s (sk s a))=false)
include c0
theorem Ck (c:lE (aU s (sk s a))\/aU s (sk s a)=95):ej (s.extract (sk s a) (rn gF s (sk s a)))=false/\aN (s.extract (sk s a) (rn gF s (sk s a)))=true/\t=oS (s.extract (sk s a) (rn gF s (sk s a)))/\b=rn gF s (sk s a):=by
 unfold fx at h;rw[if_neg (by rw[c0];decide),if_pos c] at h
 split at h
 ·cases h
 ·rename_i d
  split at h
  ·rename_i e;injection h with h;injection h with h1 h2;exact ⟨by simpa using d,e,h1.symm,h2.symm⟩
  ·cases h
variable (cL:¬(lE (aU s (sk s a))\/aU s (sk s a)=95))
include cL
theorem AD:aU s (sk s a)=40/\∃ e,fx nf s n .sum (sk s a+1)=some (.ok t e)/\aU s (sk s e)=41/\b=sk s e+1:=by
 unfold fx at h;rw[if_neg (by rw[c0];decide),if_neg cL] at h
 split at h
 ·rename_i c
  obtain ⟨v,e,h1,f⟩:=jm h
  split at f
  ·rename_i d;injection f with f;injection f with f h3;subst f;exact ⟨c,e,h1,d,h3.symm⟩
  ·cases f
 ·cases h
end
end
end
def PtH (h:Hp)(p:PTm)(t:Tm):Prop:=∃ d,TmH d h p t
theorem PtH.gw {h a:Hp}{p:PTm}{t:Tm}(x:PtH h p t)(u:Gw h a):PtH a p t:=by obtain ⟨d,x⟩:=x;exact ⟨d,x.gw u⟩
theorem PtH.two {h:Hp}{op:Int}{p q:PTm}{t u:Tm}{b:Nat}(x:PtH h p t)(y:PtH h q u)(a:SlO 9 aI aE h (some ⟨b,0,none⟩) [p,q]):PtH h ⟨op,0,0,⟨#[]⟩,some ⟨b,0,none⟩,2,2⟩ (gQ op t u):=by
 obtain ⟨d,x⟩:=x;obtain ⟨e,y⟩:=y
 exact ⟨max d e+1,TmH.mk (ps:=[p,q]) (ks:=[t,u]) ⟨rfl,fun i hi=>by
  have:i=0\/i=1:=by have:i<2:=hi;omega
  rcases this with rfl|rfl
  ·exact x.mono (Nat.le_max_left _ _)
  ·exact y.mono (Nat.le_max_right _ _)⟩ (ep _) a⟩
theorem PtH.num {h:Hp}{q:Rat}:PtH h ⟨1,0,q,⟨#[]⟩,none,0,0⟩ (nF q):=⟨1,TmH.mk (ps:=[]) (ks:=[]) Tms.nil (ep _) SlO.nil⟩
theorem PtH.nam {h:Hp}{s:ByteArray}:PtH h ⟨2,0,0,s,none,0,0⟩ (oS s):=⟨1,TmH.mk (ps:=[]) (ks:=[]) Tms.nil (ep _) SlO.nil⟩
section ops
variable {P:Program}{Γ:ck}{o:Oper}
theorem ww {tx:TypeId}{x i e:Operand}{k k2:IntKind}{s:ByteArray}{n m:Nat}{j j2:Int}(l:o.op=.slice tx x (some i) (some e) none)(f:ev Γ x=.string s)(hi:ev Γ i=.int k j)(b:ev Γ e=.int k2 j2)(d:P.underlying tx=some .string)(h:j=(n:Int))(a:j2=(m:Int))(c:n<=m)(hm:m<=s.size)(w:World) :
  (execOp (ev Γ) o).run P w=.ok (.value (.string (s.extract n m))) w:=by
 unfold execOp;simp only[l]
 subst h;subst a;have h0:(m:Int)<=(s.size:Int):=by omega
 simp[Instr.sliceAt,f,hi,b,Instr.slice,run_underlying d,Instr.sliceBounds,Instr.sliceBound,asIntOf,Result.andThen,h0,c,hm]
end ops
theorem De {q:Rat}(h:decide (ab q.num<18446744073709551616/\q.den<18446744073709551616)=true):LQ 1 q:=by
 have h:=oT h
 have k:∀ n,n<18446744073709551616->(wds n).length<=1:=fun n a=>by
  rcases Nat.eq_zero_or_pos n with rfl|h0
  ·rw[kV];exact JL _
  ·rw[jT h0 a];exact ep _
 exact ⟨k _ h.1,k _ h.2⟩
section
variable {ok:ByteArray->Prop}{d:Nat}
theorem xJ {q:Rat}(h:LQ 1 q):WfT1 ok (d+1) (nF q):=⟨rfl,fun h=>absurd rfl h,h,fun h=>absurd (show (1:Int)=2 from h) kD,fun _=>rfl,fun _=>rfl,by show (-12:Int)<=0;decide,by show (0:Int)<=12;decide,fun i hi=>absurd hi (KO i)⟩
theorem qL {s:ByteArray}(h:ok s):WfT1 ok (d+1) (oS s):=⟨rfl,fun _=>rfl,im kD,fun _=>h,fun h=>absurd rfl h,fun _=>rfl,by show (-12:Int)<=0;decide,by show (0:Int)<=12;decide,fun i hi=>absurd hi (KO i)⟩
theorem rm {op:Int}{t u:Tm}(x:WfT1 ok d t)(y:WfT1 ok d u)(ha:dU op=2)(a:op≠2):WfT1 ok (d+1) (gQ op t u):=⟨ha,fun _=>rfl,im kD,fun h=>absurd (show op=2 from h) a,fun _=>rfl,fun _=>rfl,by show (-12:Int)<=0;decide,by show (0:Int)<=12;decide,fun i hi=>by
 have:i=0\/i=1:=by have:i<2:=hi;omega
 rcases this with rfl|rfl
 ·exact x
 ·exact y⟩
end
def CC:Tm:=gQ 5 (oS ⟨#[120]⟩) (oS ⟨#[121]⟩)
def sl:Tm:=gQ 6 (nF ((1:Nat):Rat)) (gQ 4 (nF ((1:Nat):Rat)) (oS ⟨#[120]⟩))
theorem sw {ok:ByteArray->Prop}(h:ok ⟨#[120]⟩)(a:ok ⟨#[121]⟩):WfT1 ok 2 CC:=rm (qL h) (qL a) kD kD
theorem sQ {ok:ByteArray->Prop}(h:ok ⟨#[120]⟩):WfT1 ok 3 sl:=rm (xJ (De kR)) (rm (xJ (De kR)) (qL h) kD kD) kD kD
theorem CZ:ba 2 CC<=1000:=oT kR
theorem CS:ba 3 sl<=1000:=oT kR
theorem EY {a b:Rat}(h:LQ 1 a)(c:LQ 1 b)(i:Nat):LQ 1 ([a,b].getD i 0):=by
 match i with
 | 0=>exact h
 | 1=>exact c
 | _+2=>exact im kD
theorem DrunR.of {d:Nat}{t:Tm}{ns:List ByteArray}{fs:List Rat}{e:Int}{q:Rat}{b:List Rat}(h:DrunR d t ns fs e q b)(h0:DckR d t ns (fs.length=ns.length) 0):(e,q,b)=bB (dh ns) fs d t:=by
 obtain ⟨c,h1,⟨a,_⟩|⟨_,a⟩⟩:=h
 ·exact absurd (h1.uniq h0) a
 ·exact a
theorem Ez {d:Nat}{t:Tm}{ns:List ByteArray}{M:Prop}(w:WfT1 (fun s=>aN s=true) d t)(g:ba d t<=1000)(hM:M)(c:∀ i,i<ns.length->aN (ns.getD i ⟨#[]⟩)=true)(w2:WfT1 (fun s=>s∈ns) d t)(b:ns.Nodup):DckR d t ns M 0 :=
 .inr ⟨⟨w,g⟩,.inr ⟨hM,.inr ⟨c,.inr ⟨fun s a=>rk w2 a,.inr ⟨b,rfl⟩⟩⟩⟩⟩
theorem Br {e:Int}{q:Rat}{a:List Rat}(h:DrunR 2 CC [⟨#[120]⟩,⟨#[121]⟩] [((2:Int):Rat),((3:Int):Rat)] e q a):e=0/\q=6/\a=[3,2]:=by
 have k:=h.of (Ez (sw kD kD) CZ rfl (by intro i hi;match i,hi with|0,_=>decide|1,_=>decide) (sw kD kD) kD);have v:bB (dh [⟨#[120]⟩,⟨#[121]⟩]) [((2:Int):Rat),((3:Int):Rat)] 2 CC=(0,6,[3,2]):=by kernel_rfl
 rw[v] at k
 injection k with k1 k2
 injection k2 with k2 k3
 exact ⟨k1,k2,k3⟩
theorem FL {l:List Rat}(h:(l.all fun q=>decide (ab q.num<18446744073709551616/\q.den<18446744073709551616))=true)(i:Nat):LQ 39500000 (l.getD i 0):=by
 by_cases hi:i<l.length
 ·rw[zY,K2 hi]
  exact (De (hH.1 h _ (fu hi))).mono kD
 ·rw[dq oM];exact im kD
theorem I9 {a b:List Rat}(h:((hO 4).all fun i=>(hO 5).all fun j=>decide (ab (fF a b i j).num<18446744073709551616/\(fF a b i j).den<18446744073709551616))=true)(i j:Nat)(hi:i<=3)(c:j<=i+1):LQ 39500000 (fF a b i j) :=
 (De (hH.1 (hH.1 h i (hP.2 oM)) j (hP.2 oM))).mono kD
def dk1:List Rat:=fG 4 ((1:Nat):Rat)
def dk2:List Rat:=n3 4 ((0:Int):Rat) ((1:Int):Rat)
def dk3:List Rat:=nC 4 dk1 (i6 4 dk2 ((-1:Int):Rat))
theorem Ix:jX 4 dk1 (fz 4 dk3)=[1,1,1,1]:=by kernel_rfl
section
variable {ok:ByteArray->Prop}{nm:ByteArray}{d e:Nat}{t u:Tm}
theorem EvR.get {L:List PLt}{x:Int}{y:Rat}(h:EvR ok L d t x y)(f:WfT ok d t/\ba d t<=1000):bc L d t=(x,y):=by
 rcases h with ⟨h1,h2,h3,h4⟩|⟨h1,h2,h3⟩
 ·rw[h3,h4]
 ·exact absurd f h1
end
section
variable {ix:ByteArray->Nat}{fs:List Rat}
theorem xo {m k:Nat}{op n:Int}{a b:Rat}{ga gb:List Rat}(hk:k<m):(jI m op n a b ga gb).getD k 0=Dh op n a b*ga.getD k 0+Df op a b*gb.getD k 0:=by
 unfold jI;simp[hk]
theorem Ae {l:List Rat}{i j:Nat}{x:Rat}(h:i<l.length):(l.set i x).getD j 0=if j=i then x else l.getD j 0:=by
 rw[zY,zY,List.getElem?_set]
 by_cases e:i=j
 ·subst e;rw[if_pos rfl,if_pos h,if_pos rfl];rfl
 ·rw[if_neg e,if_neg (fun k=>e k.symm)]
theorem xN {m i j:Nat}(h:i<m):(d6 m i).getD j 0=if j=i then 1 else 0:=by
 unfold d6
 rw[Ae (by simpa using h),fj];rfl
end
abbrev xyz:List ByteArray:=[⟨#[120]⟩,⟨#[121]⟩,⟨#[122]⟩]
theorem Ev:∀ i,i<xyz.length->aN (xyz.getD i ⟨#[]⟩)=true
 | 0,_=>by decide
 | 1,_=>by decide
 | 2,_=>by decide
 | _+3,h=>absurd h (by show ¬_<3;omega)
theorem BH {s:ByteArray}(h:sY s):s∈xyz:=by
 rcases h with rfl|rfl|rfl<;>decide
theorem vk {s:ByteArray}(h:sY s):aN s=true:=by
 rcases h with rfl|rfl|rfl<;>decide
theorem A3 {s:ByteArray}(h:sY s):dh xyz s<3:=by
 rcases h with rfl|rfl|rfl<;>decide
theorem EK {d:Nat}{t:Tm}{M:Prop}(w:WfT1 sY d t)(g:ba d t<=1000)(hM:M):DckR d t xyz M 0 :=
 Ez (w.imp fun _=>vk) g hM Ev (w.imp fun _=>BH) kD
def gk (q:Rat):Tm:=.mk 1 0 q ⟨#[]⟩ []
def isN (t:Tm)(z:Rat):Prop:=t.op=1/\t.q=z
instance (t:Tm) (z:Rat):Decidable (isN t z):=by unfold isN;infer_instance
def p5 (b:Tm):Tm:=if b.op=7 then b.ks.getD 0 ct else .mk 7 0 0 ⟨#[]⟩ [b]
def fB (t a b:Tm):Tm :=
  if t.op=3 then (if isN a 0 then b else if isN b 0 then a else t)
  else if t.op=4 then (if isN b 0 then a else if isN a 0 then p5 b else t)
  else if t.op=5 then (if isN a 0\/isN b 0 then gk ((0:Int):Rat) else if isN a 1 then b else if isN b 1 then a else t)
  else if t.op=6 then (if isN b 1 then a else t)
  else if t.op=7 then (if a.op=7 then a.ks.getD 0 ct else t)
  else if t.op=8 then (if t.n=0 then gk ((1:Int):Rat) else if t.n=1 then a else t)
  else t
def bD (t:Tm):Tm:=fB t (t.ks.getD 0 ct) (t.ks.getD 1 ct)
def xX (t:Tm):Prop:=t.ks.length≠0/\(t.ks.getD 0 ct).op=1/\(1<t.ks.length->(t.ks.getD 1 ct).op=1)
instance (t:Tm):Decidable (xX t):=by unfold xX;infer_instance
def fr (t:Tm):Prop:=xX t/\(bc [] 2 t).1=0
instance (t:Tm):Decidable (fr t):=by unfold fr;infer_instance
def cP (t:Tm):Tm:=if fr t then gk (bc [] 2 t).2 else bD t
def WfQ (c:Nat)(ok:ByteArray->Prop):Nat->Tm->Prop
  | 0,_=>False
  | d+1,t=>dU t.op=t.ks.length/\(t.op≠1->t.q=0)/\LQ c t.q/\(t.op=2->ok t.s)/\(t.op≠2->t.s=⟨#[]⟩)/\(t.op≠8->t.n=0) /\ -12<=t.n/\t.n<=12/\∀ i,i<t.ks.length->WfQ c ok d (t.ks.getD i ct)
theorem WfQ.mono {ok:ByteArray->Prop}{c c2:Nat}(a:c<=c2):∀ {d e:Nat} {t:Tm},WfQ c ok d t->d<=e->WfQ c2 ok e t
 | d+1,e+1,_,⟨h1,h2,h3,h4,h5,h6,h7,h8,h9⟩,u=>⟨h1,h2,h3.mono a,h4,h5,h6,h7,h8,fun i hi=>WfQ.mono a (h9 i hi) oM⟩
theorem WfQ.wf {ok:ByteArray->Prop}:∀ {d:Nat} {t:Tm},WfQ 3000 ok d t->WfT ok d t
 | _+1,_,⟨h1,h2,h3,h4,h5,h6,h7,h8,h9⟩=>⟨h1,h2,h3,h4,h5,h6,h7,h8,fun i hi=>WfQ.wf (h9 i hi)⟩
theorem WfT.wfq {ok:ByteArray->Prop}:∀ {d:Nat} {t:Tm},WfT ok d t->WfQ 3000 ok d t
 | _+1,_,⟨h1,h2,h3,h4,h5,h6,h7,h8,h9⟩=>⟨h1,h2,h3,h4,h5,h6,h7,h8,fun i hi=>WfT.wfq (h9 i hi)⟩
theorem ia {d:Nat}{op n:Int}{q:Rat}{s:ByteArray}{a:Tm}:ba (d+1) (.mk op n q s [a])=br op n*ba d a:=by
 rw[iP (show [a].length≠0 from KS _)];show _*(0+ba d a)=_;rw[yl]
theorem jr {d:Nat}{op n:Int}{q:Rat}{s:ByteArray}{a b:Tm}:ba (d+1) (.mk op n q s [a,b])=br op n*(ba d a+ba d b):=by
 rw[iP (show [a,b].length≠0 from KS _)];show _*(0+ba d a+ba d b)=_;rw[yl]
section
variable {ok:ByteArray->Prop}{c:Nat}
theorem WfQ.split {d:Nat}{op n:Int}{q:Rat}{s:ByteArray}{ks:List Tm}(w:WfQ c ok (d+1) (.mk op n q s ks)):(ks=[]/\(op=1\/op=2))\/(∃ a,ks=[a]/\(op=7\/op=8\/op=9\/op=10\/op=11)/\WfQ c ok d a)\/(∃ a b,ks=[a,b]/\(op=3\/op=4\/op=5\/op=6\/op=12\/op=13)/\WfQ c ok d a/\WfQ c ok d b):=by
 obtain ⟨h1,i,j,p,o,u,l,f,e⟩:=w;replace h1:dU op=(ks.length:Nat):=h1;have h:=az op
 rcases dY h1 with rfl|⟨a,rfl⟩|⟨a,b,rfl⟩
 ·simp only[KR] at h1;exact .inl ⟨rfl,by omega⟩
 ·simp only[ul,KR] at h1;exact .inr (.inl ⟨a,rfl,by omega,e 0 (JO _)⟩)
 ·simp only[ul,KR] at h1;exact .inr (.inr ⟨a,b,rfl,by omega,e 0 (JO _),e 1 (by show 1<2;decide)⟩)
theorem WfQ.pos {d:Nat}{t:Tm}(w:WfQ c ok d t):1<=d:=by
 cases d with
 | zero=>exact w.elim
 | succ d=>omega
theorem nw:∀ {d:Nat} {t:Tm},WfQ c ok d t->1<=ba d t
  | d+1,.mk op n q s ks,w=>by
    have w1:=bg op n
    rcases w.split with ⟨rfl,_⟩|⟨a,rfl,_,ha⟩|⟨a,b,rfl,_,ha,hb⟩
    . rw[gL rfl];exact ep _
    . rw[ia];exact eu (nw ha) (J5 _ w1)
    . rw[jr];have:=nw ha;exact eu (by omega:1<=ba d a+ba d b) (J5 _ w1)
theorem ie:∀ {d e:Nat} {t:Tm},WfQ c ok d t->d<=e->ba e t=ba d t
  | d+1,e+1,.mk op n q s ks,w,he=>by
    rcases w.split with ⟨rfl,_⟩|⟨a,rfl,_,ha⟩|⟨a,b,rfl,_,ha,hb⟩
    . rw[gL rfl,gL rfl]
    . rw[ia,ia,ie ha (show d<=e by omega)]
    . rw[jr,jr,ie ha (show d<=e by omega),ie hb (show d<=e by omega)]
def Fit (c:Nat)(ok:ByteArray->Prop)(d m:Nat)(t:Tm):Prop:=WfQ c ok d t/\ba d t<=m
theorem Fit.mono {c2 d e m m2:Nat}{t:Tm}(f:Fit c ok d m t)(b:c<=c2)(a:d<=e)(hm:m<=m2):Fit c2 ok e m2 t :=
 ⟨f.1.mono b a,by rw[ie f.1 a];exact eu f.2 hm⟩
theorem fQ {d m:Nat}{q:Rat}(h:LQ c q)(hm:1<=m):Fit c ok (d+1) m (gk q) :=
 ⟨⟨rfl,fun a=>absurd rfl a,h,fun a=>absurd (show (1:Int)=2 from a) kD,fun _=>rfl,fun _=>rfl,(by show (-12:Int)<=0;decide),(by show (0:Int)<=12;decide),fun i hi=>absurd hi (KO _)⟩,by show ba (d+1) (.mk 1 0 q ⟨#[]⟩ [])<=m;rw[gL rfl];exact hm⟩
theorem WfQ.leaf {d:Nat}{t:Tm}(w:WfQ c ok d t)(h:t.op=1):t=gk t.q/\LQ c t.q:=by
  cases d with
  | zero=>exact w.elim
  | succ d =>
    obtain ⟨op,n,q,s,ks⟩:=t;obtain rfl:op=1:=h
    rcases w.split with ⟨rfl,_⟩|⟨a,rfl,ho,_⟩|⟨a,b,rfl,ho,_⟩
    . obtain ⟨h1,o,f,l,e,i,u,p,j⟩:=w
      obtain rfl:s=⟨#[]⟩:=e (by show (1:Int)≠2;decide);obtain rfl:n=0:=i (by show (1:Int)≠8;decide);exact ⟨rfl,f⟩
    . exact absurd ho kD
    . exact absurd ho kD
theorem jK {L:List PLt}{d:Nat}{q:Rat}:bc L (d+1) (gk q)=(0,q):=by
 show bc L (d+1) (.mk 1 0 q ⟨#[]⟩ [])=_
 rw[mN kD,dy rfl rfl ⟨fun h=>absurd h kD,fun h=>absurd h kD⟩]
 unfold jB;rw[if_pos ⟨fun h=>absurd h kD,fun h=>absurd h kD⟩];rfl
theorem WfQ.ev {L:List PLt}{d:Nat}{t:Tm}(w:WfQ c ok d t)(h:t.op=1):bc L d t=(0,t.q):=by
 have b:=w.pos;obtain ⟨e,rfl⟩:∃ e,d=e+1:=⟨d-1,by omega⟩;have a:=(w.leaf h).1;rw[a,jK];rfl
theorem WfQ.kid7 {d:Nat}{t:Tm}(w:WfQ c ok (d+1) t)(h:t.op=7):WfQ c ok d (t.ks.getD 0 ct)/\ba d (t.ks.getD 0 ct)<=ba (d+1) t/\(∀ L,bc L (d+1) t=lZ 7 t.n t.q (bc L d (t.ks.getD 0 ct)).1 0 (bc L d (t.ks.getD 0 ct)).2 0):=by
 obtain ⟨op,n,q,s,ks⟩:=t;obtain rfl:op=7:=h
 rcases w.split with ⟨rfl,ho⟩|⟨a,rfl,ho,ha⟩|⟨a,b,rfl,ho,_⟩
 ·exact absurd ho kD
 ·refine ⟨ha,?_,fun L=>?_⟩
  ·rw[ia];exact J5 _ (bg _ _)
  ·exact fS kD
 ·exact absurd ho kD
theorem Cl {d m:Nat}{b:Tm}(a:1<=c)(f:Fit c ok d m b):Fit c ok (d+1) m (p5 b):=by
 have o:=f.1.pos;obtain ⟨e,rfl⟩:∃ e,d=e+1:=⟨d-1,by omega⟩
 unfold p5
 split
 ·rename_i h
  obtain ⟨h1,l,_⟩:=f.1.kid7 h;exact Fit.mono ⟨h1,eu l f.2⟩ (ep _) oM (ep _)
 ·refine ⟨⟨rfl,fun _=>rfl,(LQ.lit (z:=0) kD).mono a,fun j=>absurd (show (7:Int)=2 from j) kD,fun _=>rfl,fun _=>rfl,(by show (-12:Int)<=0;decide),(by show (0:Int)<=12;decide),fun i hi=>?_⟩,?_⟩
  ·obtain rfl:i=0:=K9.1 hi
   exact f.1
  ·rw[ia];show 1*_<=m;rw[Ab];exact f.2
theorem jg {d:Nat}{t:Tm}(i:1<=c)(w:WfQ c ok (d+1) t):Fit c ok (d+1) (ba (d+1) t) (bD t):=by
  have f:Fit c ok (d+1) (ba (d+1) t) t:=⟨w,ep _⟩;have j:=nw w;have u:Fit c ok (d+1) (ba (d+1) t) (gk ((0:Int):Rat)):=fQ ((LQ.lit (z:=0) kD).mono i) j;have y:Fit c ok (d+1) (ba (d+1) t) (gk ((1:Int):Rat)):=fQ ((LQ.lit (z:=1) kD).mono i) j;obtain ⟨op,n,q,s,ks⟩:=t;have w1:=bg op n
  rcases w.split with ⟨rfl,ho⟩|⟨a,rfl,ho,ha⟩|⟨a,b,rfl,ho,ha,hb⟩
  . have e:bD (.mk op n q s [])=.mk op n q s []:=by
      show fB (.mk op n q s []) ct ct=_
      unfold fB
      show (if op=3 then _ else if op=4 then _ else if op=5 then _ else if op=6 then _ else if op=7 then _ else if op=8 then _ else _)=_
      rw[if_neg oM,if_neg oM,if_neg oM,if_neg oM,if_neg oM,if_neg oM]
    rw[e];exact f
  . have h:Fit c ok (d+1) (ba (d+1) (.mk op n q s [a])) a:=Fit.mono ⟨ha,ep _⟩ (ep _) oM (by rw[ia];exact J5 _ w1)
    show Fit c ok (d+1) _ (fB (.mk op n q s [a]) a ct)
    unfold fB
    show Fit c ok (d+1) _ (if op=3 then _ else if op=4 then _ else if op=5 then _ else if op=6 then _ else if op=7 then _ else if op=8 then _ else _)
    rw[if_neg oM,if_neg oM,if_neg oM,if_neg oM]
    split
    . split
      . rename_i x
        have B:=h.1.pos;obtain ⟨h1,p,_⟩:=h.1.kid7 x;exact Fit.mono ⟨h1,eu p h.2⟩ (ep _) oM (ep _)
      . exact f
    . split
      . split
        . exact y
        . split
          . exact h
          . exact f
      . exact f
  . have C:ba d a+ba d b<=ba (d+1) (.mk op n q s [a,b]):=by rw[jr];exact J5 _ w1
    have h:Fit c ok (d+1) (ba (d+1) (.mk op n q s [a,b])) a:=Fit.mono ⟨ha,ep _⟩ (ep _) oM oM;have l:Fit c ok (d+1) (ba (d+1) (.mk op n q s [a,b])) b:=Fit.mono ⟨hb,ep _⟩ (ep _) oM oM;have o:Fit c ok (d+1) (ba (d+1) (.mk op n q s [a,b])) (p5 b):=(Cl i (d:=d) (m:=ba d b) ⟨hb,ep _⟩).mono (ep _) (ep _) oM
    show Fit c ok (d+1) _ (fB (.mk op n q s [a,b]) a b)
    unfold fB
    show Fit c ok (d+1) _ (if op=3 then _ else if op=4 then _ else if op=5 then _ else if op=6 then _ else if op=7 then _ else if op=8 then _ else _)
    split
    . split
      . exact l
      . split
        . exact h
        . exact f
    split
    . split
      . exact h
      . split
        . exact o
        . exact f
    split
    . split
      . exact u
      . split
        . exact l
        . split
          . exact h
          . exact f
    split
    . split
      . exact h
      . exact f
    rw[if_neg oM,if_neg oM];exact f
theorem gU {d:Nat}{L:List PLt}{op n:Int}{q:Rat}{s:ByteArray}{a:Tm}(h:op≠2)(ha:WfQ c ok d a)(h1:a.op=1):bc L (d+1) (.mk op n q s [a])=lZ op n q 0 0 a.q 0:=by
 rw[fS h,ha.ev h1]
theorem fW {c2 d:Nat}{L:List PLt}{op n:Int}{q:Rat}{s:ByteArray}{a b:Tm}(h:op≠2)(ha:WfQ c ok d a)(h1:a.op=1)(hb:WfQ c2 ok d b)(e:b.op=1):bc L (d+1) (.mk op n q s [a,b])=lZ op n q 0 0 a.q b.q:=by
 rw[gK h,ha.ev h1,hb.ev e]
theorem WfQ.leaf1 {d:Nat}{t:Tm}(w:WfQ c ok d t)(h:t.op=1):WfQ c ok 1 t:=by
 obtain ⟨e,l⟩:=w.leaf h;rw[e];exact (fQ (d:=0) (m:=1) l (ep _)).1
theorem gq {t:Tm}(h:fr t):cP t=gk (bc [] 2 t).2:=if_pos h
theorem bZ {t:Tm}(h:¬fr t):cP t=bD t:=if_neg h
theorem d3 {L:List PLt}:∀ {d e:Nat} {t:Tm},WfQ c ok d t->d<=e->bc L e t=bc L d t
  | d + 1,e+1,.mk op n q s ks,w,he=>by
    by_cases o2:op=2
    . cases e2:qu L s with
      | none=>rw[oq o2 e2,oq o2 e2]
      | some v=>rw[j0 o2 e2,j0 o2 e2]
    . rcases w.split with ⟨rfl,ho⟩|⟨a,rfl,ho,ha⟩|⟨a,b,rfl,ho,ha,hb⟩
      . rw[mN o2,mN o2]
      . rw[fS o2,fS o2,d3 ha (show d<=e by omega)]
      . rw[gK o2,gK o2,d3 ha (show d<=e by omega),d3 hb (show d<=e by omega)]
theorem km {op n:Int}{q a b v:Rat}{e1 e2:Int}(h:lZ op n q e1 e2 a b=(0,v)):e1=0/\e2=0/\ke op n a b/\v=gh op n q a b:=by
 unfold lZ at h
 split at h
 ·rename_i h1;injection h with c _;exact absurd c h1
 ·rename_i h1
  split at h
  ·rename_i c;injection h with d _;exact absurd d c
  ·rename_i c
   split at h
   ·rename_i d;injection h with _ h4;exact ⟨by omega,by omega,d,h4.symm⟩
   ·injection h with h4 _;exact absurd h4 kD
theorem Il {n:Int}{q a b:Rat}:gh 3 n q a b=a+b:=rfl
theorem Im {n:Int}{q a b:Rat}:gh 4 n q a b=a-b:=rfl
theorem HM {n:Int}{q a b:Rat}:gh 5 n q a b=a*b:=rfl
theorem Id {n:Int}{q a b:Rat}:gh 6 n q a b=a/b:=rfl
theorem GM {n:Int}{q a b:Rat}:gh 7 n q a b = -a:=rfl
theorem Ik {n:Int}{q a b:Rat}:gh 8 n q a b=dm a n:=rfl
theorem IQ {n:Int}{a b:Rat}:ke 7 n a b:=⟨fun h=>absurd h kD,fun h=>absurd h kD⟩
theorem Cv {L:List PLt}{d:Nat}{b:Tm}{y:Rat}(w:WfQ c ok d b)(h:bc L d b=(0,y)):bc L (d+1) (p5 b)=(0,-y):=by
 have l:=w.pos;obtain ⟨e,rfl⟩:∃ e,d=e+1:=⟨d-1,by omega⟩
 unfold p5
 split
 ·rename_i i
  obtain ⟨f,_,j⟩:=w.kid7 i;rw[j L] at h
  obtain ⟨i1,_,_,a⟩:=km h;rw[GM] at a
  rw[d3 f (show e<=e+1+1 by omega),a,Rat.neg_neg];exact Prod.ext i1 rfl
 ·rw[fS kD,h]
  exact dy rfl rfl IQ
theorem isN.ev {L:List PLt}{d:Nat}{t:Tm}{z:Rat}(i:isN t z)(w:WfQ c ok d t):bc L d t=(0,z):=by rw[w.ev i.1,i.2]
theorem vD {L:List PLt}{d:Nat}{t:Tm}{v:Rat}(w:WfQ c ok (d+1) t)(h:bc L (d+1) t=(0,v)):bc L (d+1) (bD t)=(0,v):=by
  obtain ⟨op,n,q,s,ks⟩:=t;have B:((0:Int):Rat)=0:=rfl;have U:((1:Int):Rat)=1:=rfl
  rcases w.split with ⟨rfl,ho⟩|⟨a,rfl,ho,ha⟩|⟨a,b,rfl,ho,ha,hb⟩
  . have e:bD (.mk op n q s [])=.mk op n q s []:=by
      show fB (.mk op n q s []) ct ct=_
      unfold fB
      show (if op=3 then _ else if op=4 then _ else if op=5 then _ else if op=6 then _ else if op=7 then _ else if op=8 then _ else _)=_
      rw[if_neg oM,if_neg oM,if_neg oM,if_neg oM,if_neg oM,if_neg oM]
    rw[e];exact h
  . have p := h
    rw[fS oM] at p
    obtain ⟨i1,_,_,f⟩:=km p;have u:bc L d a=(0,(bc L d a).2):=Prod.ext i1 rfl;have j:bc L (d+1) a=(0,(bc L d a).2):=(d3 ha (La d)).trans u
    show bc L (d+1) (fB (.mk op n q s [a]) a ct)=_
    unfold fB
    show bc L (d+1) (if op=3 then _ else if op=4 then _ else if op=5 then _ else if op=6 then _ else if op=7 then _ else if op=8 then _ else _)=_
    rw[if_neg oM,if_neg oM,if_neg oM,if_neg oM]
    split
    . rename_i Q
      subst Q
      split
      . rename_i M
        have S:=ha.pos;obtain ⟨e,rfl⟩:∃ e,d=e+1:=⟨d-1,by omega⟩;obtain ⟨F,_,H⟩:=ha.kid7 M;obtain ⟨O,_,_,y⟩:=km ((H L).symm.trans u);rw[GM] at f y
        rw[d3 F (show e<=e+1+1 by omega),f,y,Rat.neg_neg];exact Prod.ext O rfl
      . exact h
    . split
      . rename_i K
        subst K;rw[Ik] at f
        split
        . rename_i J
          rw[jK,f,show n=0 from J];rfl
        . split
          . rename_i n1
            rw[j,f,show n=1 from n1,oY]
          . exact h
      . exact h
  . have p:=h
    rw[gK oM] at p
    obtain ⟨i1,I,_,f⟩:=km p;have u:bc L d a=(0,(bc L d a).2):=Prod.ext i1 rfl;have j:bc L (d+1) a=(0,(bc L d a).2):=(d3 ha (La d)).trans u;have D:bc L d b=(0,(bc L d b).2):=Prod.ext I rfl;have C:bc L (d+1) b=(0,(bc L d b).2):=(d3 hb (La d)).trans D;have x:∀ {z:Rat},isN a z->(bc L d a).2=z:=fun i=>by rw[i.ev ha]
    have l:∀ {z:Rat},isN b z->(bc L d b).2=z:=fun i=>by rw[i.ev hb]
    show bc L (d+1) (fB (.mk op n q s [a,b]) a b)=_
    unfold fB
    show bc L (d+1) (if op=3 then _ else if op=4 then _ else if op=5 then _ else if op=6 then _ else if op=7 then _ else if op=8 then _ else _)=_
    split
    . rename_i o;subst o;rw[Il] at f
      split
      . rename_i i;rw[C,f,x i,Rat.zero_add]
      . split
        . rename_i i;rw[j,f,l i,Lb]
        . exact h
    split
    . rename_i o;subst o;rw[Im] at f
      split
      . rename_i i;rw[j,f,l i];congr 1;grind
      . split
        . rename_i i;rw[Cv hb D,f,x i];congr 1;grind
        . exact h
    split
    . rename_i o;subst o;rw[HM] at f
      split
      . rename_i i
        rw[jK,f]
        rcases i with i|i
        . rw[x i,B,Lc]
        . rw[l i,B,Rat.mul_zero]
      . split
        . rename_i i;rw[C,f,x i,Le]
        . split
          . rename_i i;rw[j,f,l i,Rat.mul_one]
          . exact h
    split
    . rename_i o;subst o;rw[Id] at f
      split
      . rename_i i;rw[j,f,l i];congr 1;grind
      . exact h
    rw[if_neg oM,if_neg oM];exact h
theorem hC {L:List PLt}{d:Nat}{t:Tm}{v:Rat}(w:WfQ c ok (d+1) t)(h:bc L (d+1) t=(0,v)):bc L (d+1) (cP t)=(0,v):=by
 by_cases hf:fr t
 ·rw[gq hf,jK]
  obtain ⟨op,n,q,s,ks⟩:=t
  rcases w.split with ⟨rfl,ho⟩|⟨a,rfl,ho,ha⟩|⟨a,b,rfl,ho,ha,hb⟩
  ·exact absurd rfl hf.1.1
  ·have o1:a.op=1:=hf.1.2.1
   rw[gU oM ha o1] at h
   rw[gU oM (ha.leaf1 o1) o1,h]
  ·have o1:a.op=1:=hf.1.2.1
   have o2:b.op=1:=hf.1.2.2 (by show 1<2;decide);rw[fW oM ha o1 hb o2] at h
   rw[fW oM (ha.leaf1 o1) o1 (hb.leaf1 o2) o2,h]
 ·rw[bZ hf];exact vD w h
end
def cH (op:Int)(a:Tm):Tm:=cP (.mk op 0 0 ⟨#[]⟩ [a])
def aW (op:Int)(a b:Tm):Tm:=cP (.mk op 0 0 ⟨#[]⟩ [a,b])
def gl (a:Tm)(n:Int):Tm:=cP (.mk 8 n 0 ⟨#[]⟩ [a])
def dk (z:Int):Tm:=gk ((z:Int):Rat)
def bK (a b u v:Tm):Tm:=aW 6 (aW 3 (aW 4 a b) (cH 9 (aW 4 u v))) (aW 5 (dk 2) (cH 9 (aW 4 u v)))
def bW (op n:Int)(u du v dv:Tm):Tm :=
  if op=3 then aW 3 du dv else if op=4 then aW 4 du dv
  else if op=5 then aW 3 (aW 5 du v) (aW 5 u dv)
  else if op=6 then aW 6 (aW 4 (aW 5 du v) (aW 5 u dv)) (gl v 2)
  else if op=7 then cH 7 du
  else if op=8 then (if n=0 then dk 0 else aW 5 (aW 5 (dk n) (gl u (n-1))) du)
  else if op=9 then aW 5 du (aW 6 u (cH 9 u))
  else if op=10 then aW 5 du (aW 6 (aW 3 (cH 9 u) u) (aW 5 (dk 2) (cH 9 u)))
  else if op=11 then aW 6 du (gl (aW 3 (dk 1) (cH 9 u)) 2)
  else if op=12 then aW 3 (aW 5 du (bK u v u v)) (aW 5 dv (bK v u u v))
  else aW 3 (aW 5 du (bK v u u v)) (aW 5 dv (bK u v u v))
def av (nm:ByteArray):Nat->Tm->Tm × Tm
  | 0,t=>(t,dk 0)
  | d+1,t=>if t.ks.length=0 then (t,if t.op=2/\t.s=nm then dk 1 else dk 0)
    else (cP (.mk t.op t.n 0 ⟨#[]⟩ (t.ks.map fun k=>(av nm d k).1)),bW t.op t.n (av nm d (t.ks.getD 0 ct)).1 (av nm d (t.ks.getD 0 ct)).2 (av nm d (t.ks.getD 1 ct)).1 (av nm d (t.ks.getD 1 ct)).2)
section
variable {ok:ByteArray->Prop}
theorem HD {d wa:Nat}{op n:Int}{a:Tm}(h:dU op=1)(l:3<=op/\op<=13)(j:op≠8->n=0)(e : -12<=n)(f:n<=12)(o:1<=wa)(ha:WfQ (3*wa-2) ok d a):WfQ (3*(br op n*wa)-2) ok (d+1) (.mk op n 0 ⟨#[]⟩ [a])/\WfQ (3*(br op n*wa)-2) ok (d+1) (cP (.mk op n 0 ⟨#[]⟩ [a])):=by
 have w1:=bg op n;have hm:wa<=br op n*wa:=J5 _ w1
 have wt:WfQ (3*(br op n*wa)-2) ok (d+1) (.mk op n 0 ⟨#[]⟩ [a]):=⟨h,fun _=>rfl,im oM,fun c=>by have:op=2:=c;omega,fun _=>rfl,j,e,f,fun i hi=>by
  obtain rfl:i=0:=K9.1 hi;exact ha.mono oM (ep _)⟩
 refine ⟨wt,?_⟩
 by_cases hf:fr (.mk op n 0 ⟨#[]⟩ [a])
 ·rw[gq hf]
  have o1:a.op=1:=hf.1.2.1;refine (fQ (m:=1) ?_ (ep 1)).1;rw[gU oM (ha.leaf1 o1) o1];have:=mj (op:=op) (n:=n) (q:=0) (e1:=0) (e2:=0) (b:=0) (ep 3) o (ha.leaf o1).2 (wb:=0) (fun c=>absurd c kD) (fun c=>by omega) (im kD) l;rw[ya] at this
  exact this
 ·rw[bZ hf];exact (jg oM wt).1
theorem HW {d wa wb:Nat}{op n:Int}{a b:Tm}(f:dU op=2)(l:3<=op/\op<=13)(j:op≠8->n=0)(c : -12<=n)(e:n<=12)(o:1<=wa)(p:1<=wb)(ha:WfQ (3*wa-2) ok d a)(hb:WfQ (3*wb-2) ok d b):WfQ (3*(br op n*(wa+wb))-2) ok (d+1) (.mk op n 0 ⟨#[]⟩ [a,b])/\WfQ (3*(br op n*(wa+wb))-2) ok (d+1) (cP (.mk op n 0 ⟨#[]⟩ [a,b])):=by
 have w1:=bg op n;have hm:wa+wb<=br op n*(wa+wb):=J5 _ w1
 have wt:WfQ (3*(br op n*(wa+wb))-2) ok (d+1) (.mk op n 0 ⟨#[]⟩ [a,b]):=⟨f,fun _=>rfl,im oM,fun h=>by have:op=2:=h;omega,fun _=>rfl,j,c,e,fun i hi=>by
  have u:i<2:=hi
  rcases (by omega:i=0\/i=1) with rfl|rfl
  ·exact ha.mono oM (ep _)
  ·exact hb.mono oM (ep _)⟩
 refine ⟨wt,?_⟩
 by_cases hf:fr (.mk op n 0 ⟨#[]⟩ [a,b])
 ·rw[gq hf]
  have o1:a.op=1:=hf.1.2.1;have o2:b.op=1:=hf.1.2.2 (by show 1<2;decide);refine (fQ (m:=1) ?_ (ep 1)).1;rw[fW oM (ha.leaf1 o1) o1 (hb.leaf1 o2) o2];exact mj (op:=op) (n:=n) (q:=0) (e1:=0) (e2:=0) (ep 3) o (ha.leaf o1).2 (wb:=wb) (fun _=>(hb.leaf o2).2) (fun _=>p) (im kD) l
 ·rw[bZ hf];exact (jg oM wt).1
def Vl (ok:ByteArray->Prop)(L:List PLt)(w D:Nat)(t:Tm)(v:Rat):Prop:=1<=w/\WfQ (3*w-2) ok D t/\bc L D t=(0,v)
variable {L:List PLt}
theorem Vl.up {w w2 D a:Nat}{t:Tm}{v:Rat}(x:Vl ok L w D t v)(c:w<=w2)(b:D<=a):Vl ok L w2 a t v :=
 ⟨by have:=x.1;omega,x.2.1.mono oM b,by rw[d3 x.2.1 b];exact x.2.2⟩
theorem en {op n:Int}(h1:op≠8)(a:op≠11):br op n=1:=by
 unfold br;rw[if_neg a,if_neg h1]
theorem Vl.o2 {wa wb D:Nat}{op:Int}{a b:Tm}{x y:Rat}(p:Vl ok L wa D a x)(q:Vl ok L wb D b y)(i:op=3\/op=4\/op=5\/op=6)(hk:op=6->y≠0):Vl ok L (wa+wb) (D+1) (aW op a b) (gh op 0 0 x y):=by
 have d:dU op=2:=by rcases i with rfl|rfl|rfl|rfl<;>rfl
 obtain ⟨f,e⟩:=HW (ok:=ok) (op:=op) (n:=0) d oM (fun _=>rfl) kD kD p.1 q.1 p.2.1 q.2.1;rw[en oM oM,Ab] at f e
 have c:ke op 0 x y:=⟨hk,fun h=>by omega⟩;refine ⟨by have:=p.1;omega,e,hC f ?_⟩;rw[gK oM,p.2.2,q.2.2,dy rfl rfl c]
 unfold jB;rw[if_pos c]
theorem Vl.o1 {wa D:Nat}{op:Int}{a:Tm}{x:Rat}(p:Vl ok L wa D a x)(f:op=7\/op=9):Vl ok L wa (D+1) (cH op a) (gh op 0 0 x 0):=by
 have c:dU op=1:=by rcases f with rfl|rfl<;>rfl
 obtain ⟨e,d⟩:=HD (ok:=ok) (op:=op) (n:=0) c oM (fun _=>rfl) kD kD p.1 p.2.1;rw[en oM oM,Ab] at e d
 have b:ke op 0 x 0:=⟨fun h=>by omega,fun h=>by omega⟩;refine ⟨p.1,d,hC e ?_⟩;rw[fS oM,p.2.2,dy rfl rfl b]
 unfold jB;rw[if_pos b]
theorem Vl.oP {wa D:Nat}{n:Int}{a:Tm}{x:Rat}(p:Vl ok L wa D a x)(h1 : -12<=n)(i:n<=12)(f:n<0->x≠0):Vl ok L (aG n*wa) (D+1) (gl a n) (dm x n):=by
 obtain ⟨d,c⟩:=HD (ok:=ok) (op:=8) (n:=n) rfl kD (fun h=>absurd rfl h) h1 i p.1 p.2.1;have e:br 8 n=aG n:=by unfold br;rw[if_neg kD,if_pos rfl]
 have w1:=bg 8 n;rw[e] at d c w1
 have b:ke 8 n x 0:=⟨fun h=>absurd h kD,fun _=>f⟩;refine ⟨Lg w1 p.1,c,hC d ?_⟩;rw[fS kD,p.2.2,dy rfl rfl b]
 unfold jB;rw[if_pos b];rfl
theorem Vl.num {D:Nat}{z:Int}(h:LQ 1 ((z:Int):Rat)):Vl ok L 1 (D+1) (dk z) ((z:Int):Rat) :=
 ⟨ep 1,(fQ (m:=1) h (ep 1)).1,jK⟩
theorem Vl.eq {w D:Nat}{t:Tm}{v a:Rat}(x:Vl ok L w D t v)(e:v=a):Vl ok L w D t a:=e▸x
end
theorem l7 {a:Rat}(h:0<a):a8 a=a:=by
 unfold a8;rw[if_neg (by have:=xA (n4.2 h);have:=Int.sign_eq_one_iff_pos.1 this;omega)]
theorem C9 {a:Rat}(h:a<0):a.num<0:=by
 by_cases k:a.num<0
 ·exact k
 ·have:=Rat.num_nonneg.1 (show 0<=a.num by omega)
  grind
theorem sq {a b:Rat}(h:a≠b):a<b\/b<a:=by
 by_cases k:a<b
 ·exact .inl k
 ·exact .inr (by grind)
theorem k6 {a:Rat}(h:a<0):a8 a = -a:=by
 unfold a8;rw[if_pos (C9 h)]
theorem nt {a:Rat}(h:a≠0):0<a8 a:=by
 rcases sq h with k|k
 ·rw[k6 k];grind
 ·rw[l7 k];exact k
theorem Bh {a:Rat}:0<=a8 a:=by
 by_cases h:a=0
 ·subst h;decide
 ·have:=nt h;grind
theorem Ho {a:Rat}(h:0<a):a.num.sign=1:=xA (n4.2 h)
theorem Gs {a:Rat}(h:a<0):a.num.sign = -1:=by
 exact Int.sign_eq_neg_one_of_neg (C9 h)
theorem uv:((1:Int):Rat)=1:=rfl
theorem IC:((2:Int):Rat)=2:=rfl
theorem Hv:((0:Int):Rat)=0:=rfl
theorem IF:((-1:Int):Rat) = -1:=rfl
theorem vA {a:Rat}(h:0<a):(a+a8 a)/(((2:Int):Rat)*a8 a)=1:=by
 rw[l7 h,IC,Lh,show a+a=2*a by grind];exact Li _ (by grind)
theorem vq {a:Rat}(h:a<0):(a+a8 a)/(((2:Int):Rat)*a8 a)=0:=by
 rw[k6 h,show a + -a=0 by grind,Lh,Lc]
theorem kA {a b:Rat}:a8 (a-b)=a8 (b-a):=by
 by_cases h:a=b
 ·subst h;rfl
 ·rcases sq h with k|k
  ·rw[k6 (show a-b<0 by grind),l7 (show 0<b-a by grind)];grind
  ·rw[l7 (show 0<a-b by grind),k6 (show b-a<0 by grind)];grind
theorem rM {a b c:Rat}(hb:b≠0)(h:a=c*b):a/b=c:=by
 rw[h,Lh,Rat.mul_assoc,Li _ hb,Rat.mul_one]
theorem Dc {a:Rat}(h:a≠0):((1:Int):Rat)/a*a=1:=by
 rw[uv,Lh,Le,Rat.inv_mul_cancel _ h]
theorem I8 (a:Rat):dm a 2=a*a:=by
 unfold dm;rw[if_pos kD]
 show (((1:Int):Rat)*a)*a=a*a
 rw[uv,Le]
section
variable {ok:ByteArray->Prop}{L:List PLt}
theorem FG:LQ 1 ((2:Int):Rat):=LQ.int kD kD
theorem Hu:LQ 1 ((1:Int):Rat):=LQ.int kD kD
theorem Vl.over {wa wb c wv D:Nat}{a b u v:Tm}{d e x y:Rat}(i:Vl ok L wa D a d)(j:Vl ok L wb D b e)(p:Vl ok L c D u x)(q:Vl ok L wv D v y)(f:x≠y):Vl ok L (wa+wb+(c+wv)+(1+(c+wv))) (D+4) (bK a b u v) (((d-e)+a8 (x-y))/(((2:Int):Rat)*a8 (x-y))):=by
 have s:Vl ok L (c+wv) (D+2) (cH 9 (aW 4 u v)) (a8 (x-y)):=(p.o2 q (.inr (.inl rfl)) (fun h=>absurd h kD)).o1 (.inr rfl);have n:Vl ok L (wa+wb) (D+2) (aW 4 a b) (d-e):=(i.o2 j (.inr (.inl rfl)) (fun h=>absurd h kD)).up (ep _) oM;have t:Vl ok L (wa+wb+(c+wv)) (D+3) (aW 3 (aW 4 a b) (cH 9 (aW 4 u v))) ((d-e)+a8 (x-y)):=n.o2 s (.inl rfl) (fun h=>absurd h kD);have m:Vl ok L (1+(c+wv)) (D+3) (aW 5 (dk 2) (cH 9 (aW 4 u v))) (((2:Int):Rat)*a8 (x-y)):=(Vl.num FG).o2 s (.inr (.inr (.inl rfl))) (fun h=>absurd h kD)
 have hz:((2:Int):Rat)*a8 (x-y)≠0:=by
  have:=nt (show x-y≠0 by grind);rw[IC];grind
 exact t.o2 m (.inr (.inr (.inr rfl))) (fun _=>hz)
theorem dH:aG 2=2:=rfl
theorem Vl.dOp {f o wv ev D E:Nat}{op n:Int}{u du v dv:Tm}{x p y q:Rat}(l:Vl ok L f D u x)(j:Vl ok L o E du p)(hv:dU op=2->Vl ok L wv D v y)(B:dU op=2->Vl ok L ev E dv q)(Q:D+4<=E)(ho:3<=op/\op<=13)(hn : -11<=n/\n<=12)(hk:co op n x y=0):Vl ok L (o+ev+8*(br op n*(f+wv))) (E+3) (bW op n u du v dv) (Dh op n x y*p+(if dU op=2 then Df op x y*q else 0)):=by
 have J:=fL hk
 have H:¬Gg op x y:=fun k=>by
  have:co op n x y=7:=by unfold co;rw[if_pos J,if_pos k]
  omega
 have w1:=bg op n;have hw:f+wv<=br op n*(f+wv):=J5 _ w1
 have V:op=8->aG (n-1)*f<=2*(br op n*(f+wv)):=fun h=>by
  have e:br op n=aG n:=by unfold br;rw[if_neg oM,if_pos h]
  rw[e]
  calc aG (n-1)*f<=2*aG n*f:=ym _ (jo n)
   _=2*(aG n*f):=yW _ _ _
   _<=2*(aG n*(f+wv)):=y9 _ (y9 _ (KL _ _))
 have Z:=l.1;have X:=j.1
 generalize hM:br op n*(f+wv)=M at *
 have Y:Vl ok L f E u x:=l.up (ep _) oM
 rcases (by omega:op=3\/op=4\/op=5\/op=6\/op=7\/op=8\/op=9\/op=10\/op=11\/op=12\/op=13) with rfl|rfl|rfl|rfl|rfl|rfl|rfl|rfl|rfl|rfl|rfl
 ·have r:Vl ok L (o+ev) (E+1) (aW 3 du dv) (p+q):=j.o2 (B rfl) (.inl rfl) (fun h=>absurd h kD)
  refine (r.up oM oM).eq ?_
  show p+q=((1:Int):Rat)*p+((1:Int):Rat)*q
  rw[uv];grind
 ·have r:Vl ok L (o+ev) (E+1) (aW 4 du dv) (p-q):=j.o2 (B rfl) (.inr (.inl rfl)) (fun h=>absurd h kD)
  refine (r.up oM oM).eq ?_
  show p-q=((1:Int):Rat)*p + -((1:Int):Rat)*q
  rw[uv];grind
 ·have S:Vl ok L wv E v y:=(hv rfl).up (ep _) oM
  have a:Vl ok L (o+wv) (E+1) (aW 5 du v) (p*y):=j.o2 S (.inr (.inr (.inl rfl))) (fun h=>absurd h kD);have b:Vl ok L (f+ev) (E+1) (aW 5 u dv) (x*q):=Y.o2 (B rfl) (.inr (.inr (.inl rfl))) (fun h=>absurd h kD);have r:Vl ok L (o+wv+(f+ev)) (E+2) (aW 3 (aW 5 du v) (aW 5 u dv)) (p*y+x*q):=a.o2 b (.inl rfl) (fun h=>absurd h kD);refine (r.up oM oM).eq ?_
  show p*y+x*q=y*p+x*q
  grind
 ·have S:Vl ok L wv E v y:=(hv rfl).up (ep _) oM
  have K:y≠0:=J.1 rfl;have a:Vl ok L (o+wv) (E+1) (aW 5 du v) (p*y):=j.o2 S (.inr (.inr (.inl rfl))) (fun h=>absurd h kD);have b:Vl ok L (f+ev) (E+1) (aW 5 u dv) (x*q):=Y.o2 (B rfl) (.inr (.inr (.inl rfl))) (fun h=>absurd h kD);have s:Vl ok L (o+wv+(f+ev)) (E+2) (aW 4 (aW 5 du v) (aW 5 u dv)) (p*y-x*q):=a.o2 b (.inr (.inl rfl)) (fun h=>absurd h kD);have z:Vl ok L (aG 2*wv) (E+2) (gl v 2) (dm y 2):=(S.oP kD kD (fun h=>absurd h kD)).up (ep _) oM;rw[I8,dH] at z
  have F:y*y≠0:=fun e=>by rcases Lj.1 e with h|h<;>exact K h
  have r:Vl ok L (o+wv+(f+ev)+2*wv) (E+3) (aW 6 (aW 4 (aW 5 du v) (aW 5 u dv)) (gl v 2)) ((p*y-x*q)/(y*y)):=s.o2 z (.inr (.inr (.inr rfl))) (fun _=>F);refine (r.up oM oM).eq ?_
  show _=((1:Int):Rat)/y*p + -(x*(((1:Int):Rat)/y)*(((1:Int):Rat)/y))*q
  have hi:=Dc K;refine rM F ?_
  generalize ((1:Int):Rat)/y=i at hi ⊢
  grind
 ·have r:Vl ok L o (E+1) (cH 7 du) (-p):=j.o1 (.inl rfl)
  refine (r.up oM oM).eq ?_
  show -p = -((1:Int):Rat)*p+0
  rw[uv];grind
 ·by_cases h0:n=0
  ·have r:Vl ok L 1 (E+1) (dk 0) ((0:Int):Rat):=Vl.num (LQ.int kD kD)
   have e:bW 8 n u du v dv=dk 0:=by unfold bW;simp[h0]
   rw[e];refine (r.up oM oM).eq ?_
   show ((0:Int):Rat)=(if n=0 then 0 else dm x (n-1)*((n:Int):Rat))*p+0
   rw[if_pos h0,Hv];grind
  ·have k:Vl ok L (aG (n-1)*f) (D+1) (gl u (n-1)) (dm x (n-1)):=l.oP oM oM (fun h=>J.2 rfl oM)
   have m:Vl ok L (1+aG (n-1)*f) (D+2) (aW 5 (dk n) (gl u (n-1))) (((n:Int):Rat)*dm x (n-1)):=(Vl.num (LQ.int oM oM)).o2 k (.inr (.inr (.inl rfl))) (fun h=>absurd h kD);have r:Vl ok L (1+aG (n-1)*f+o) (E+1) (aW 5 (aW 5 (dk n) (gl u (n-1))) du) (((n:Int):Rat)*dm x (n-1)*p):=(m.up (ep _) oM).o2 j (.inr (.inr (.inl rfl))) (fun h=>absurd h kD);have e:bW 8 n u du v dv=aW 5 (aW 5 (dk n) (gl u (n-1))) du:=by unfold bW;simp[h0]
   rw[e];have:=V rfl;refine (r.up oM oM).eq ?_
   show _=(if n=0 then 0 else dm x (n-1)*((n:Int):Rat))*p+0
   rw[if_neg h0];grind
 ·have O:x≠0:=fun e=>H (.inl ⟨.inl rfl,e⟩)
  have s:Vl ok L f (D+1) (cH 9 u) (a8 x):=l.o1 (.inr rfl);have hz:=nt O;have d:Vl ok L (f+f) (D+2) (aW 6 u (cH 9 u)) (x/a8 x):=(l.up (ep _) oM).o2 s (.inr (.inr (.inr rfl))) (fun _=>by grind);have r:Vl ok L (o+(f+f)) (E+1) (aW 5 du (aW 6 u (cH 9 u))) (p*(x/a8 x)):=j.o2 (d.up (ep _) oM) (.inr (.inr (.inl rfl))) (fun h=>absurd h kD);refine (r.up oM oM).eq ?_
  show _=((x.num.sign:Int):Rat)*p+0
  rcases sq O with h|h
  ·rw[Gs h,IF,rM (c:=-1) (show a8 x≠0 by grind) (by rw[k6 h];grind)];grind
  ·rw[Ho h,uv,rM (c:=1) (show a8 x≠0 by grind) (by rw[l7 h];grind)];grind
 ·have O:x≠0:=fun e=>H (.inl ⟨.inr rfl,e⟩)
  have s:Vl ok L f (D+1) (cH 9 u) (a8 x):=l.o1 (.inr rfl);have hz:=nt O;have a:Vl ok L (f+f) (D+2) (aW 3 (cH 9 u) u) (a8 x+x):=s.o2 (l.up (ep _) oM) (.inl rfl) (fun h=>absurd h kD);have b:Vl ok L (1+f) (D+2) (aW 5 (dk 2) (cH 9 u)) (((2:Int):Rat)*a8 x):=(Vl.num FG).o2 s (.inr (.inr (.inl rfl))) (fun h=>absurd h kD);have c:Vl ok L (f+f+(1+f)) (D+3) (aW 6 (aW 3 (cH 9 u) u) (aW 5 (dk 2) (cH 9 u))) ((a8 x+x)/(((2:Int):Rat)*a8 x)):=a.o2 b (.inr (.inr (.inr rfl))) (fun _=>by rw[IC];grind);have r:Vl ok L (o+(f+f+(1+f))) (E+1) (aW 5 du (aW 6 (aW 3 (cH 9 u) u) (aW 5 (dk 2) (cH 9 u)))) (p*((a8 x+x)/(((2:Int):Rat)*a8 x))):=j.o2 (c.up (ep _) oM) (.inr (.inr (.inl rfl))) (fun h=>absurd h kD);refine (r.up oM oM).eq ?_
  show _=((max x.num.sign 0:Int):Rat)*p+0
  rw[Rat.add_comm (a8 x) x]
  rcases sq O with h|h
  ·rw[Gs h,vq h,show max (-1:Int) 0=0 from rfl,Hv];grind
  ·rw[Ho h,vA h,show max (1:Int) 0=1 from rfl,uv];grind
 ·have s:Vl ok L f (D+1) (cH 9 u) (a8 x):=l.o1 (.inr rfl)
  have hz:=Bh (a:=x);have a:Vl ok L (1+f) (D+2) (aW 3 (dk 1) (cH 9 u)) (((1:Int):Rat)+a8 x):=(Vl.num Hu).o2 s (.inl rfl) (fun h=>absurd h kD);have b:Vl ok L (aG 2*(1+f)) (D+3) (gl (aW 3 (dk 1) (cH 9 u)) 2) (dm (((1:Int):Rat)+a8 x) 2):=a.oP kD kD (fun h=>absurd h kD);rw[I8,dH] at b
  have K:((1:Int):Rat)+a8 x≠0:=by rw[uv];grind
  have F:(((1:Int):Rat)+a8 x)*(((1:Int):Rat)+a8 x)≠0:=fun e=>by rcases Lj.1 e with h|h<;>exact K h
  have r:Vl ok L (o+2*(1+f)) (E+1) (aW 6 du (gl (aW 3 (dk 1) (cH 9 u)) 2)) (p/((((1:Int):Rat)+a8 x)*(((1:Int):Rat)+a8 x))):=j.o2 (b.up (ep _) oM) (.inr (.inr (.inr rfl))) (fun _=>F);refine (r.up oM oM).eq ?_
  show _=(((1:Int):Rat)/(((1:Int):Rat)+a8 x))*(((1:Int):Rat)/(((1:Int):Rat)+a8 x))*p+0
  have hi:=Dc K;refine rM F ?_
  generalize ((1:Int):Rat)/(((1:Int):Rat)+a8 x)=i at hi ⊢
  generalize ((1:Int):Rat)+a8 x=y at hi ⊢
  grind
 ·have C:x≠y:=fun e=>H (.inr ⟨.inl rfl,e⟩)
  have I:=hv rfl;have a:=Vl.over l I l I C;have b:=Vl.over I l l I C;have U:=j.o2 (a.up (ep _) Q) (.inr (.inr (.inl rfl))) (fun h=>absurd h kD);have W:=(B rfl).o2 (b.up (ep _) Q) (.inr (.inr (.inl rfl))) (fun h=>absurd h kD);have r:=U.o2 W (.inl rfl) (fun h=>absurd h kD);refine (r.up oM oM).eq ?_
  show p*(((x-y)+a8 (x-y))/(((2:Int):Rat)*a8 (x-y)))+q*(((y-x)+a8 (x-y))/(((2:Int):Rat)*a8 (x-y)))=(if y<x then ((1:Int):Rat) else 0)*p+(if y<x then 0 else ((1:Int):Rat))*q
  by_cases h:y<x
  ·rw[vA (show 0<x-y by grind),kA (a:=x) (b:=y),vq (show y-x<0 by grind),if_pos h,if_pos h,uv];grind
  ·rw[vq (show x-y<0 by grind),kA (a:=x) (b:=y),vA (show 0<y-x by grind),if_neg h,if_neg h,uv];grind
 ·have C:x≠y:=fun e=>H (.inr ⟨.inr rfl,e⟩)
  have I:=hv rfl;have a:=Vl.over I l l I C;have b:=Vl.over l I l I C;have U:=j.o2 (a.up (ep _) Q) (.inr (.inr (.inl rfl))) (fun h=>absurd h kD);have W:=(B rfl).o2 (b.up (ep _) Q) (.inr (.inr (.inl rfl))) (fun h=>absurd h kD);have r:=U.o2 W (.inl rfl) (fun h=>absurd h kD);refine (r.up oM oM).eq ?_
  show p*(((y-x)+a8 (x-y))/(((2:Int):Rat)*a8 (x-y)))+q*(((x-y)+a8 (x-y))/(((2:Int):Rat)*a8 (x-y)))=(if y<x then 0 else ((1:Int):Rat))*p+(if y<x then ((1:Int):Rat) else 0)*q
  by_cases h:y<x
  ·rw[vA (show 0<x-y by grind),kA (a:=x) (b:=y),vq (show y-x<0 by grind),if_pos h,if_pos h,uv];grind
  ·rw[vq (show x-y<0 by grind),kA (a:=x) (b:=y),vA (show 0<y-x by grind),if_neg h,if_neg h,uv];grind
end
section
variable {ok:ByteArray->Prop}
theorem Jq {c d wa:Nat}{op n:Int}{a:Tm}(w:WfQ c ok (d+1) (.mk op n 0 ⟨#[]⟩ [a]))(b:1<=c)(f:1<=wa)(ha:ba d a<=wa):ba (d+1) (.mk op n 0 ⟨#[]⟩ [a])<=br op n*wa/\ba (d+1) (cP (.mk op n 0 ⟨#[]⟩ [a]))<=br op n*wa:=by
 have w1:=bg op n;have k:ba (d+1) (.mk op n 0 ⟨#[]⟩ [a])<=br op n*wa:=by rw[ia];exact y9 _ ha
 refine ⟨k,?_⟩
 by_cases hf:fr (.mk op n 0 ⟨#[]⟩ [a])
 ·rw[gq hf]
  have e:ba (d+1) (gk (bc [] 2 (.mk op n 0 ⟨#[]⟩ [a])).2)=1:=gL rfl;rw[e];exact Lg w1 f
 ·rw[bZ hf];exact eu (jg b w).2 k
theorem Jw {c d wa wb:Nat}{op n:Int}{a b:Tm}(w:WfQ c ok (d+1) (.mk op n 0 ⟨#[]⟩ [a,b]))(f:1<=c)(h:1<=wa)(ha:ba d a<=wa)(hb:ba d b<=wb):ba (d+1) (.mk op n 0 ⟨#[]⟩ [a,b])<=br op n*(wa+wb)/\ba (d+1) (cP (.mk op n 0 ⟨#[]⟩ [a,b]))<=br op n*(wa+wb):=by
 have w1:=bg op n;have k:ba (d+1) (.mk op n 0 ⟨#[]⟩ [a,b])<=br op n*(wa+wb):=by rw[jr];exact y9 _ (Nat.add_le_add ha hb)
 refine ⟨k,?_⟩
 by_cases hf:fr (.mk op n 0 ⟨#[]⟩ [a,b])
 ·rw[gq hf]
  have e:ba (d+1) (gk (bc [] 2 (.mk op n 0 ⟨#[]⟩ [a,b])).2)=1:=gL rfl;rw[e];exact Lg w1 oM
 ·rw[bZ hf];exact eu (jg f w).2 k
def Ft (ok:ByteArray->Prop)(w D:Nat)(t:Tm):Prop:=1<=w/\WfQ (3*w-2) ok D t/\ba D t<=w
theorem Ft.up {w w2 D a:Nat}{t:Tm}(x:Ft ok w D t)(c:w<=w2)(b:D<=a):Ft ok w2 a t:=⟨by have:=x.1;omega,x.2.1.mono oM b,by rw[ie x.2.1 b];exact eu x.2.2 c⟩
theorem Ft.n2 {wa wb D:Nat}{op n:Int}{a b:Tm}(p:Ft ok wa D a)(q:Ft ok wb D b)(e:dU op=2)(j:3<=op/\op<=13)(i:op≠8->n=0)(c : -12<=n)(d:n<=12):Ft ok (br op n*(wa+wb)) (D+1) (.mk op n 0 ⟨#[]⟩ [a,b])/\Ft ok (br op n*(wa+wb)) (D+1) (cP (.mk op n 0 ⟨#[]⟩ [a,b])):=by
 obtain ⟨f,h⟩:=HW (ok:=ok) e j i c d p.1 q.1 p.2.1 q.2.1;have w1:1<=br op n*(wa+wb):=Lg (bg op n) (by have:=p.1;omega);obtain ⟨l,o⟩:=Jw f oM p.1 p.2.2 q.2.2;exact ⟨⟨w1,f,l⟩,w1,h,o⟩
theorem Ft.n1 {wa D:Nat}{op n:Int}{a:Tm}(p:Ft ok wa D a)(d:dU op=1)(h:3<=op/\op<=13)(l:op≠8->n=0)(c : -12<=n)(b:n<=12):Ft ok (br op n*wa) (D+1) (.mk op n 0 ⟨#[]⟩ [a])/\Ft ok (br op n*wa) (D+1) (cP (.mk op n 0 ⟨#[]⟩ [a])):=by
 obtain ⟨e,f⟩:=HD (ok:=ok) d h l c b p.1 p.2.1;have w1:1<=br op n*wa:=Lg (bg op n) p.1;obtain ⟨i,j⟩:=Jq e oM p.1 p.2.2;exact ⟨⟨w1,e,i⟩,w1,f,j⟩
theorem Ft.o2 {wa wb D:Nat}{op:Int}{a b:Tm}(p:Ft ok wa D a)(q:Ft ok wb D b)(d:op=3\/op=4\/op=5\/op=6):Ft ok (wa+wb) (D+1) (aW op a b):=by
 have c:dU op=2:=by rcases d with rfl|rfl|rfl|rfl<;>rfl
 have f:=(p.n2 q (op:=op) (n:=0) c oM (fun _=>rfl) kD kD).2;rw[en oM oM,Ab] at f
 exact f
theorem Ft.o1 {wa D:Nat}{op:Int}{a:Tm}(p:Ft ok wa D a)(c:op=7\/op=9):Ft ok wa (D+1) (cH op a):=by
 have b:dU op=1:=by rcases c with rfl|rfl<;>rfl
 have f:=(p.n1 (op:=op) (n:=0) b oM (fun _=>rfl) kD kD).2;rw[en oM oM,Ab] at f
 exact f
theorem Ft.oP {wa D:Nat}{n:Int}{a:Tm}(p:Ft ok wa D a)(h1 : -12<=n)(b:n<=12):Ft ok (aG n*wa) (D+1) (gl a n):=by
 have f:=(p.n1 (op:=8) (n:=n) rfl kD (fun h=>absurd rfl h) h1 b).2;have e:br 8 n=aG n:=by unfold br;rw[if_neg kD,if_pos rfl]
 rw[e] at f
 exact f
theorem Ft.num {D:Nat}{z:Int}(h:LQ 1 ((z:Int):Rat)):Ft ok 1 (D+1) (dk z):=⟨ep 1,(fQ (m:=1) h (ep 1)).1,(fQ (ok:=ok) (m:=1) h (ep 1)).2⟩
theorem Ft.over {wa wb c wv D:Nat}{a b u v:Tm}(e:Ft ok wa D a)(d:Ft ok wb D b)(p:Ft ok c D u)(q:Ft ok wv D v):Ft ok (wa+wb+(c+wv)+(1+(c+wv))) (D+4) (bK a b u v):=by
 have s:Ft ok (c+wv) (D+2) (cH 9 (aW 4 u v)):=(p.o2 q (.inr (.inl rfl))).o1 (.inr rfl);have n:Ft ok (wa+wb) (D+2) (aW 4 a b):=(e.o2 d (.inr (.inl rfl))).up (ep _) oM;exact (n.o2 s (.inl rfl)).o2 ((Ft.num FG).o2 s (.inr (.inr (.inl rfl)))) (.inr (.inr (.inr rfl)))
theorem Ft.dOp {f C wv ev D E:Nat}{op n:Int}{u du v dv:Tm}(j:Ft ok f D u)(i:Ft ok C E du)(hv:dU op=2->Ft ok wv D v)(o:dU op=2->Ft ok ev E dv)(F:D+4<=E)(U:3<=op/\op<=13)(Q : -11<=n/\n<=12):Ft ok (C+ev+8*(br op n*(f+wv))) (E+3) (bW op n u du v dv):=by
 have w1:=bg op n;have S:f+wv<=br op n*(f+wv):=J5 _ w1
 have I:op=8->aG (n-1)*f<=2*(br op n*(f+wv)):=fun h=>by
  have e:br op n=aG n:=by unfold br;rw[if_neg oM,if_pos h]
  rw[e]
  calc aG (n-1)*f<=2*aG n*f:=ym _ (jo n)
   _=2*(aG n*f):=yW _ _ _
   _<=2*(aG n*(f+wv)):=y9 _ (y9 _ (KL _ _))
 have O:=j.1;have K:=i.1
 generalize hM:br op n*(f+wv)=M at *
 have L:Ft ok f E u:=j.up (ep _) oM;have l:∀ {a b:Tm} {x y k:Nat},Ft ok x k a->Ft ok y k b->Ft ok (x+y) (k+1) (aW 5 a b):=fun p q=>p.o2 q (.inr (.inr (.inl rfl)))
 rcases (by omega:op=3\/op=4\/op=5\/op=6\/op=7\/op=8\/op=9\/op=10\/op=11\/op=12\/op=13) with rfl|rfl|rfl|rfl|rfl|rfl|rfl|rfl|rfl|rfl|rfl
 ·exact (i.o2 (o rfl) (.inl rfl):Ft ok (C+ev) (E+1) (aW 3 du dv)).up oM oM
 ·exact (i.o2 (o rfl) (.inr (.inl rfl)):Ft ok (C+ev) (E+1) (aW 4 du dv)).up oM oM
 ·have H:Ft ok wv E v:=(hv rfl).up (ep _) oM
  exact ((l i H).o2 (l L (o rfl)) (.inl rfl):Ft ok (C+wv+(f+ev)) (E+2) (aW 3 (aW 5 du v) (aW 5 u dv))).up oM oM
 ·have H:Ft ok wv E v:=(hv rfl).up (ep _) oM
  have z:Ft ok (aG 2*wv) (E+2) (gl v 2):=(H.oP kD kD).up (ep _) oM;rw[dH] at z
  exact (((l i H).o2 (l L (o rfl)) (.inr (.inl rfl))).o2 z (.inr (.inr (.inr rfl))):Ft ok (C+wv+(f+ev)+2*wv) (E+3) (aW 6 (aW 4 (aW 5 du v) (aW 5 u dv)) (gl v 2))).up oM oM
 ·exact (i.o1 (.inl rfl):Ft ok C (E+1) (cH 7 du)).up oM oM
 ·by_cases h0:n=0
  ·have e:bW 8 n u du v dv=dk 0:=by unfold bW;simp[h0]
   rw[e];exact (Ft.num (D:=E) (LQ.int kD kD)).up oM oM
  ·have k:Ft ok (aG (n-1)*f) (D+1) (gl u (n-1)):=j.oP oM oM
   have m:Ft ok (1+aG (n-1)*f) (D+2) (aW 5 (dk n) (gl u (n-1))):=l (Ft.num (LQ.int oM oM)) k;have e:bW 8 n u du v dv=aW 5 (aW 5 (dk n) (gl u (n-1))) du:=by unfold bW;simp[h0]
   rw[e];have:=I rfl;exact (l (m.up (ep _) (show D+2<=E by omega)) i).up oM oM
 ·have s:Ft ok f (D+1) (cH 9 u):=j.o1 (.inr rfl)
  have d:Ft ok (f+f) (D+2) (aW 6 u (cH 9 u)):=(j.up (ep _) oM).o2 s (.inr (.inr (.inr rfl)));exact (l i (d.up (ep _) (show D+2<=E by omega))).up oM oM
 ·have s:Ft ok f (D+1) (cH 9 u):=j.o1 (.inr rfl)
  have a:Ft ok (f+f) (D+2) (aW 3 (cH 9 u) u):=s.o2 (j.up (ep _) oM) (.inl rfl);have c:Ft ok (f+f+(1+f)) (D+3) (aW 6 (aW 3 (cH 9 u) u) (aW 5 (dk 2) (cH 9 u))):=a.o2 (l (Ft.num FG) s) (.inr (.inr (.inr rfl)));exact (l i (c.up (ep _) (show D+3<=E by omega))).up oM oM
 ·have s:Ft ok f (D+1) (cH 9 u):=j.o1 (.inr rfl)
  have a:Ft ok (1+f) (D+2) (aW 3 (dk 1) (cH 9 u)):=(Ft.num Hu).o2 s (.inl rfl);have b:Ft ok (aG 2*(1+f)) (D+3) (gl (aW 3 (dk 1) (cH 9 u)) 2):=a.oP kD kD;rw[dH] at b
  exact (i.o2 (b.up (ep _) (show D+3<=E by omega)) (.inr (.inr (.inr rfl)))).up oM oM
 ·have B:=hv rfl
  have J:=B.1;exact ((l i ((Ft.over j B j B).up (ep _) F)).o2 (l (o rfl) ((Ft.over B j j B).up (ep _) F)) (.inl rfl)).up oM oM
 ·have B:=hv rfl
  have J:=B.1;exact ((l i ((Ft.over B j j B).up (ep _) F)).o2 (l (o rfl) ((Ft.over j B j B).up (ep _) F)) (.inl rfl)).up oM oM
theorem j3 {nm s:ByteArray}{d:Nat}{op n:Int}{q:Rat}:av nm (d+1) (.mk op n q s [])=(.mk op n q s [],if op=2/\s=nm then dk 1 else dk 0):=if_pos rfl
theorem bP {nm s:ByteArray}{d:Nat}{op n:Int}{q:Rat}{a:Tm}:av nm (d+1) (.mk op n q s [a])=(cP (.mk op n 0 ⟨#[]⟩ [(av nm d a).1]),bW op n (av nm d a).1 (av nm d a).2 (av nm d ct).1 (av nm d ct).2):=if_neg (show ¬[a].length=0 from KS _)
theorem bO {nm s:ByteArray}{d:Nat}{op n:Int}{q:Rat}{a b:Tm}:av nm (d+1) (.mk op n q s [a,b])=(cP (.mk op n 0 ⟨#[]⟩ [(av nm d a).1,(av nm d b).1]),bW op n (av nm d a).1 (av nm d a).2 (av nm d b).1 (av nm d b).2):=if_neg (show ¬[a,b].length=0 from KS _)
theorem si:∀ {d:Nat} {t:Tm},WfT1 ok d t->WfQ 1 ok d t
 | _+1,_,⟨h1,h2,h3,h4,h5,h6,h7,h8,h9⟩=>⟨h1,h2,h3,h4,h5,h6,h7,h8,fun i hi=>si (h9 i hi)⟩
theorem iZ {nm:ByteArray}:∀ {d:Nat} {t:Tm},WfT1 ok d t->mQ d t->Ft ok (ba d t) d (av nm d t).1/\Ft ok (8*(d*ba d t)) (3*d+4) (av nm d t).2
  | d + 1,.mk op n q s ks,h,pw=>by
    obtain ⟨h1,z,B,F,C,o,f,c,l⟩:=id h;obtain ⟨e,i⟩:=pw;replace h1:dU op=(ks.length:Nat):=h1;replace f : -12<=n:=f;replace c:n<=12:=c;replace e : -11<=n:=e;have x:=az op;have w1:=bg op n
    rcases dY h1 with rfl|⟨a,rfl⟩|⟨a,b,rfl⟩
    . rw[j3,gL rfl]
      refine ⟨⟨ep 1,si h,by rw[gL rfl];exact ep 1⟩,?_⟩
      show Ft ok _ _ (if op=2/\s=nm then dk 1 else dk 0)
      split
      . exact (Ft.num (D:=0) Hu).up oM oM
      . exact (Ft.num (D:=0) (LQ.int kD kD)).up oM oM
    . obtain ⟨i1,j⟩:=iZ (nm:=nm) (show WfT1 ok d a from l 0 (JO _)) (show mQ d a from i 0 (JO _))
      simp only[ul,KR] at h1
      rw[bP,ia];refine ⟨(i1.n1 (op:=op) (n:=n) oM oM o f c).2,?_⟩;have r:=Ft.dOp (op:=op) (n:=n) (v:=(av nm d ct).1) (dv:=(av nm d ct).2) (wv:=0) (ev:=0) i1 j (fun h=>by omega) (fun h=>by omega) oM oM ⟨e,c⟩;refine r.up ?_ oM;have k:ba d a<=br op n*ba d a:=J5 _ w1;rw[ya]
      generalize br op n*ba d a=M at k ⊢
      have k2:=y9 d k;have u:(d+1)*M=d*M+M:=yf _ _
      omega
    . obtain ⟨i1,j⟩:=iZ (nm:=nm) (show WfT1 ok d a from l 0 (JO _)) (show mQ d a from i 0 (JO _))
      obtain ⟨p,j2⟩:=iZ (nm:=nm) (show WfT1 ok d b from l 1 (by show 1<2;decide)) (show mQ d b from i 1 (by show 1<2;decide))
      simp only[ul,KR] at h1
      rw[bO,jr];refine ⟨(i1.n2 p (op:=op) (n:=n) oM oM o f c).2,?_⟩;have r:=Ft.dOp (op:=op) (n:=n) i1 j (fun _=>p) (fun _=>j2) oM oM ⟨e,c⟩;refine r.up ?_ oM;have k:ba d a+ba d b<=br op n*(ba d a+ba d b):=J5 _ w1
      generalize br op n*(ba d a+ba d b)=M at k ⊢
      have k2:=y9 d k;have y:=Nat.mul_add d (ba d a) (ba d b);have u:(d+1)*M=d*M+M:=yf _ _
      omega
end
section
variable {ok:ByteArray->Prop}{L:List PLt}
theorem Vl.n1 {wa D:Nat}{op n:Int}{a:Tm}{x:Rat}(p:Vl ok L wa D a x)(e:dU op=1)(h:3<=op/\op<=13)(j:op≠8->n=0)(d : -12<=n)(c:n<=12)(b:ke op n x 0):Vl ok L (br op n*wa) (D+1) (cP (.mk op n 0 ⟨#[]⟩ [a])) (gh op n 0 x 0):=by
 obtain ⟨i,f⟩:=HD (ok:=ok) e h j d c p.1 p.2.1;refine ⟨Lg (bg op n) p.1,f,hC i ?_⟩;rw[fS oM,p.2.2,dy rfl rfl b]
 unfold jB;rw[if_pos b]
theorem Vl.n2 {wa wb D:Nat}{op n:Int}{a b:Tm}{x y:Rat}(p:Vl ok L wa D a x)(q:Vl ok L wb D b y)(f:dU op=2)(j:3<=op/\op<=13)(i:op≠8->n=0)(d : -12<=n)(e:n<=12)(c:ke op n x y):Vl ok L (br op n*(wa+wb)) (D+1) (cP (.mk op n 0 ⟨#[]⟩ [a,b])) (gh op n 0 x y):=by
 obtain ⟨l,h⟩:=HW (ok:=ok) f j i d e p.1 q.1 p.2.1 q.2.1;refine ⟨Lg (bg op n) (by have:=p.1;omega),h,hC l ?_⟩;rw[gK oM,p.2.2,q.2.2,dy rfl rfl c]
 unfold jB;rw[if_pos c]
variable {ix:ByteArray->Nat}{at_:List Rat}{nm:ByteArray}
theorem ko {m:Nat}{op n:Int}{x y:Int × Rat × List Rat}(h:(oK m op n x y).1=0):x.1=0/\y.1=0/\co op n x.2.1 y.2.1=0/\oK m op n x y=(0,gh op n 0 x.2.1 y.2.1,jI m op n x.2.1 y.2.1 x.2.2 y.2.2):=by
 by_cases c1:x.1=0
 ·by_cases c2:y.1=0
  ·by_cases c3:co op n x.2.1 y.2.1=0
   ·exact ⟨c1,c2,c3,mH c1 c2 c3⟩
   ·rw[mS c1 c2 c3] at h;exact absurd h c3
  ·rw[oB c1 c2] at h;exact absurd h c2
 ·rw[mJ c1] at h;exact absurd h c1
theorem nx (f:∀ s,ok s->ix s<at_.length)(u:∀ s,ok s->qu L s=some (at_.getD (ix s) 0))(c:∀ s,ok s->s≠nm->ix s≠ix nm)(e:ix nm<at_.length):∀ {d:Nat} {t:Tm},WfT1 ok d t->mQ d t->(bB ix at_ d t).1=0->Vl ok L (ba d t) d (av nm d t).1 (bB ix at_ d t).2.1/\Vl ok L (8*(d*ba d t)) (3*d+4) (av nm d t).2 ((bB ix at_ d t).2.2.getD (ix nm) 0)
  | d + 1,.mk op n q s ks,h,pw,hz=>by
    obtain ⟨h1,S,U,l,V,H,p,i,C⟩:=id h;obtain ⟨o,x⟩:=pw;replace h1:dU op=(ks.length:Nat):=h1;replace l:op=2->ok s:=l;replace p : -12<=n:=p;replace i:n<=12:=i;replace o : -11<=n:=o;have O:=az op;have w1:=bg op n
    rcases dY h1 with rfl|⟨a,rfl⟩|⟨a,b,rfl⟩
    . have B:=si h
      rw[j3,gL rfl]
      simp only[KR] at h1
      by_cases o1:op=1
      . have e2:bB ix at_ (d+1) (.mk op n q s [])=(0,q,yp at_.length 0):=if_pos o1
        rw[e2];refine ⟨⟨ep 1,B,B.ev o1⟩,?_⟩
        show Vl ok L _ _ (if op=2/\s=nm then dk 1 else dk 0) ((yp at_.length (0:Rat)).getD (ix nm) 0)
        rw[if_neg (fun k=>by have:=k.1;omega),fj];exact ((Vl.num (D:=0) (LQ.int kD kD)).up oM oM).eq Hv
      . have o2:op=2:=by omega
        have e2:bB ix at_ (d+1) (.mk op n q s [])=(0,at_.getD (ix s) 0,d6 at_.length (ix s)):=(if_neg o1).trans (if_pos o2);rw[e2];refine ⟨⟨ep 1,B,j0 o2 (u s (l o2))⟩,?_⟩
        show Vl ok L _ _ (if op=2/\s=nm then dk 1 else dk 0) ((d6 at_.length (ix s)).getD (ix nm) 0)
        rw[xN (f s (l o2))]
        by_cases hs:s=nm
        . rw[if_pos ⟨o2,hs⟩,if_pos (by rw[hs])]
          exact ((Vl.num (D:=0) Hu).up oM oM).eq uv
        . rw[if_neg (fun k=>hs k.2),if_neg (fun k=>c s (l o2) hs k.symm)]
          exact ((Vl.num (D:=0) (LQ.int kD kD)).up oM oM).eq Hv
    . simp only[ul,KR] at h1
      rw[mZ oM oM] at hz ⊢
      obtain ⟨F,_,j,y⟩:=ko hz;obtain ⟨i1,z⟩:=nx f u c e (show WfT1 ok d a from C 0 (JO _)) (show mQ d a from x 0 (JO _)) F;rw[bP,ia,y];refine ⟨i1.n1 oM oM H p i (fL j),?_⟩;have r:=Vl.dOp (op:=op) (n:=n) (v:=(av nm d ct).1) (dv:=(av nm d ct).2) (wv:=0) (ev:=0) (q:=0) i1 z (fun h=>by omega) (fun h=>by omega) oM oM ⟨o,i⟩ j;rw[if_neg (show ¬dU op=2 by omega),Lb] at r
      refine Vl.eq (r.up ?_ oM) ?_
      . have k:ba d a<=br op n*ba d a:=J5 _ w1
        rw[ya]
        generalize br op n*ba d a=M at k ⊢
        have k2:=y9 d k;have K:(d+1)*M=d*M+M:=yf _ _
        omega
      . show _=(jI _ _ _ _ _ _ _).getD (ix nm) 0
        rw[xo e,eo];grind
    . simp only[ul,KR] at h1
      rw[mi oM oM] at hz ⊢
      obtain ⟨F,J,j,y⟩:=ko hz;obtain ⟨i1,z⟩:=nx f u c e (show WfT1 ok d a from C 0 (JO _)) (show mQ d a from x 0 (JO _)) F;obtain ⟨I,j2⟩:=nx f u c e (show WfT1 ok d b from C 1 (by show 1<2;decide)) (show mQ d b from x 1 (by show 1<2;decide)) J;rw[bO,jr,y];refine ⟨i1.n2 I oM oM H p i (fL j),?_⟩;have r:=Vl.dOp (op:=op) (n:=n) i1 z (fun _=>I) (fun _=>j2) oM oM ⟨o,i⟩ j;rw[if_pos (show dU op=2 by omega)] at r
      refine Vl.eq (r.up ?_ oM) ?_
      . have k:ba d a+ba d b<=br op n*(ba d a+ba d b):=J5 _ w1
        generalize br op n*(ba d a+ba d b)=M at k ⊢
        have k2:=y9 d k;have Q:=Nat.mul_add d (ba d a) (ba d b);have K:(d+1)*M=d*M+M:=yf _ _
        omega
      . show _=(jI _ _ _ _ _ _ _).getD (ix nm) 0
        rw[xo e]
end
def iQ (fs:List Rat):List PLt:=[⟨⟨#[120]⟩,fs.getD 0 0⟩,⟨⟨#[121]⟩,fs.getD 1 0⟩,⟨⟨#[122]⟩,fs.getD 2 0⟩]
theorem qf {fs:List Rat}{s:ByteArray}(h:sY s):qu (iQ fs) s=some (fs.getD (dh xyz s) 0):=by
 rcases h with rfl|rfl|rfl
 ·exact if_pos rfl
 ·refine (if_neg (show ¬(⟨#[120]⟩:ByteArray)=⟨#[121]⟩ by decide)).trans ?_
  exact if_pos rfl
 ·refine (if_neg (show ¬(⟨#[120]⟩:ByteArray)=⟨#[122]⟩ by decide)).trans ?_
  refine (if_neg (show ¬(⟨#[121]⟩:ByteArray)=⟨#[122]⟩ by decide)).trans ?_;exact if_pos rfl
theorem sh {ok:ByteArray->Prop}{L:List PLt}{ix:ByteArray->Nat}{at_:List Rat}(e:∀ s,ok s->qu L s=some (at_.getD (ix s) 0)):∀ {d:Nat} {t:Tm},WfT1 ok d t->(bB ix at_ d t).1=0->bc L d t=(0,(bB ix at_ d t).2.1)
  | d + 1,.mk op n q s ks,h,hz=>by
    obtain ⟨h1,x,y,j,B,C,z,p,i⟩:=id h;replace h1:dU op=(ks.length:Nat):=h1;replace j:op=2->ok s:=j;have u:=az op
    rcases dY h1 with rfl|⟨a,rfl⟩|⟨a,b,rfl⟩
    . simp only[KR] at h1
      by_cases o1:op=1
      . have e2:bB ix at_ (d+1) (.mk op n q s [])=(0,q,yp at_.length 0):=if_pos o1
        rw[e2];exact (si h).ev o1
      . have o2:op=2:=by omega
        have e2:bB ix at_ (d+1) (.mk op n q s [])=(0,at_.getD (ix s) 0,d6 at_.length (ix s)):=(if_neg o1).trans (if_pos o2);rw[e2];exact j0 o2 (e s (j o2))
    . simp only[ul,KR] at h1
      rw[mZ oM oM] at hz ⊢
      obtain ⟨l,_,c,f⟩:=ko hz;rw[f,fS oM,sh e (show WfT1 ok d a from i 0 (JO _)) l,dy rfl rfl (fL c)]
      unfold jB;rw[if_pos (fL c)]
      show ((0:Int),gh op n q _ 0)=(0,gh op n 0 _ 0)
      unfold gh;rw[if_neg (show ¬op=1 by omega),if_neg (show ¬op=1 by omega)]
    . simp only[ul,KR] at h1
      rw[mi oM oM] at hz ⊢
      obtain ⟨l,o,c,f⟩:=ko hz;rw[f,gK oM,sh e (show WfT1 ok d a from i 0 (JO _)) l,sh e (show WfT1 ok d b from i 1 (by show 1<2;decide)) o,dy rfl rfl (fL c)]
      unfold jB;rw[if_pos (fL c)]
      show ((0:Int),gh op n q _ _)=(0,gh op n 0 _ _)
      unfold gh;rw[if_neg (show ¬op=1 by omega),if_neg (show ¬op=1 by omega)]
theorem GrT.w4 {t:Tm}(h:GrT 4 t):ba 4 t<=27:=by have:=h.2.1;omega
theorem vn {t:Tm}{fs:List Rat}{e:Int}{q:Rat}{d:List Rat}(b:GrT 4 t)(hf:fs.length=3)(h1:DrunR 4 t xyz fs e q d)(h0:e=0):bc (iQ fs) 4 t=(0,q)/\d.length=3/\∀ i,i<3->bc (iQ fs) (3*4+4) (av (xyz.getD i ⟨#[]⟩) 4 t).2=(0,d.getD i 0):=by
 have l:=h1.of (EK b.1 (by have:=b.w4;omega) hf);have hz:(bB (dh xyz) fs 4 t).1=0:=by rw[<-l];exact h0
 have y:q=(bB (dh xyz) fs 4 t).2.1:=congrArg (·.2.1) l;have o:d=(bB (dh xyz) fs 4 t).2.2:=congrArg (·.2.2) l;have c:∀ s,sY s->dh xyz s<fs.length:=fun s a=>by rw[hf];exact A3 a
 have j:∀ i,i<3->sY (xyz.getD i ⟨#[]⟩)/\dh xyz (xyz.getD i ⟨#[]⟩)=i:=fun i hi=>by
  match i,hi with
  | 0,_=>exact ⟨.inl rfl,by decide⟩
  | 1,_=>exact ⟨.inr (.inl rfl),by decide⟩
  | 2,_=>exact ⟨.inr (.inr rfl),by decide⟩
  | _+3,h=>omega
 have f:∀ s u,sY s->sY u->s≠u->dh xyz s≠dh xyz u:=fun s u a x h=>by
  rcases a with rfl|rfl|rfl<;>rcases x with rfl|rfl|rfl<;>first|exact absurd rfl h|decide
 have v:∀ i,i<3->_:=fun i hi=>nx (L:=iQ fs) (nm:=xyz.getD i ⟨#[]⟩) c (fun s a=>qf a) (fun s a p=>f s _ a (j i hi).1 p) (c _ (j i hi).1) b.1 b.2.2 hz
 refine ⟨?_,by rw[o,jD b.1 hz];exact hf,fun i hi=>?_⟩
 ·rw[y];exact sh (fun s a=>qf a) b.1 hz
 ·obtain ⟨_,z⟩:=v i hi
  have:=z.2.2;rw[(j i hi).2,<-o] at this
  exact this
theorem x4 (a:Rat)(n:Int)(K:Nat)(Y:14*K+20<=100000000)(ha:LQ K a)(O : -13<=n/\n<=13)(b:0<=n)(w:World)(h:Hp)(g:G w h)(H:Tab h):CV 101 #[qv a,iV n] w h (.tuple #[qv (dm a n),.bool true]):=by
 have b:=((sS g).add (K:=fun c=>Tab c) H);obtain ⟨m,hm⟩:∃ m:Nat,m=n.natAbs:=⟨_,rfl⟩;have l:m<=13:=by omega
 refine go Tryz.func101 [(0,qv a),(1,iV n)] rfl (aD (lA 2 29 (qc a) b (fun u w2 U b=>lA 4 29 a1 b (fun x S X b=>lL b ac (aR (am 7 b (og 1 oM oM _ _ b.g) (fun V Q b=>lA 6 29 a1 b (fun B _ I b=>lP 0 0 (qc ((1:Int):Rat)) b (fun _ b=>af (aa b aK (lI 10 (0-n) ?_)))))))))));refine lV 11 (iV (max (n:Int) (0-n:Int))) ?_ (hr:=be (n:=(if (0-n:Int)>(n:Int) then (0-n:Int) else (n:Int))) kR (by simp only[pm]));refine lL b ac (bh ?_);refine cj _ (CG.loop (fun i Γ C=>∃ (k:Nat)(c:Hp),i=m-k/\Γ=[(1,iV n),(2,pB u),(4,pB x),(5,qF),(6,pB B),(11,iV (max (n:Int) (0-n:Int))),(12,nV k)]/\SS w h C c [⟨B,29,qc (bL a k)⟩,⟨x,29,[qF,uV 0,eS,uV 0,eS]⟩,⟨u,29,qc a⟩] [] [fun c=>Tab c]/\k<=m) _ ⟨0,I,rfl,rfl,b.to _ _,JL _⟩ ?_);rintro _ _ _ ⟨k,_,z,rfl,b,hk⟩;have J:k*K<=13*K:=ym _ oM;have d:=gC ha k;refine aD ?_;cases e:(decide ((k:Int)<(max (n:Int) (0-n:Int):Int)))
 .
  have L:=oF e;refine lB 13 e (af (cW (CG.exit ?_)))
  show CG _ _ _ _ _ _ _ _
  refine cQ (aa b ac ?_);have ⟨M,j⟩:=dT (p:=(0:Int)<=(n:Int)) oM;exact lB 19 M (au (aa b [.o (qv (bL a k)) 0 0 5] (lP 1 0 (qc (bL a k)) b (fun _ b=>lL b ac (ae b [(1,0,5)] (.tuple #[qv (bL a k),qT]) (by unfold dm;rw[if_pos oM,show n.natAbs=k by omega]))))))
 have L:=oT e;refine lB 13 e (af (cl (cK (cQ (kZ (kQ (lL b [.o (qv (bL a k)) 0 0 5,.o (qv a) 2 0 5] ?_)))))));have y:=LQ.mul d ha;refine am 16 b (iS (bL a k) a (LQ.mono d oM) (LQ.mono ha oM) _ _ b.g b.f.1) (fun _ D b=>lP 0 0 (qc ((bL a k)*a)) b (fun _ b=>lN (kQ (bI 17 ((k:Nat)+1) (k+1) ?_))));refine lL b ac (lD ?_);intro W F;refine ⟨_,_,?_,⟨k+1,D,rfl,rfl,b.to _ _,oM⟩,F.to _ kR⟩
 omega
theorem Bk (a:Rat)(n:Int)(K:Nat)(hK:14*K+20<=100000000)(ha:LQ K a)(U : -13<=n/\n<=13)(b:n<0)(l:a≠0)(w:World)(h:Hp)(g:G w h)(L:Tab h):CV 101 #[qv a,iV n] w h (.tuple #[qv (dm a n),.bool true]):=by
 have b:=((sS g).add (K:=fun d=>Tab d) L);obtain ⟨m,hm⟩:∃ m:Nat,m=n.natAbs:=⟨_,rfl⟩;have u:m<=13:=by omega
 refine go Tryz.func101 [(0,qv a),(1,iV n)] rfl (aD (lA 2 29 (qc a) b (fun x w2 X b=>lA 4 29 a1 b (fun y W h6 b=>lL b ac (aR (am 7 b (og 1 oM oM _ _ b.g) (fun Y V b=>lA 6 29 a1 b (fun F _ M b=>lP 0 0 (qc ((1:Int):Rat)) b (fun _ b=>af (aa b aK (lI 10 (0-n) ?_)))))))))));refine lV 11 (iV (max (n:Int) (0-n:Int))) ?_ (hr:=be (n:=(if (0-n:Int)>(n:Int) then (0-n:Int) else (n:Int))) kR (by simp only[pm]));refine lL b ac (bh ?_);refine cj _ (CG.loop (fun i Γ H=>∃ (k:Nat)(d:Hp),i=m-k/\Γ=[(1,iV n),(2,pB x),(4,pB y),(5,qF),(6,pB F),(11,iV (max (n:Int) (0-n:Int))),(12,nV k)]/\SS w h H d [⟨F,29,qc (bL a k)⟩,⟨y,29,[qF,uV 0,eS,uV 0,eS]⟩,⟨x,29,qc a⟩] [] [fun d=>Tab d]/\k<=m) _ ⟨0,M,rfl,rfl,b.to _ _,JL _⟩ ?_);rintro _ _ _ ⟨k,_,D,rfl,b,hk⟩;have O:k*K<=13*K:=ym _ oM;have c:=gC ha k;refine aD ?_;cases e:(decide ((k:Int)<(max (n:Int) (0-n:Int):Int)))
 .
  have Q:=oF e;refine lB 13 e (af (cW (CG.exit ?_)))
  show CG _ _ _ _ _ _ _ _
  refine cQ (aa b ac ?_);have ⟨S,j⟩:=dF (p:=(0:Int)<=(n:Int)) oM;refine lB 19 S (ah (cK (cQ (cR 5 [] mixed b aq ?_))));refine eO 1 22 [(0,0,5)] (qv (bL a k)) b (ai 0 21 b (fun _ _ b=>og 1 oM oM _ _ b.g) (fun _ _ b=>?_));have C:=LQ.div (LQ.lit (z:=1) kD) c;exact ai 2 23 b (fun _ _ b=>pg ((1:Int):Rat) (bL a k) (LQ.mono (LQ.lit (z:=1) kD) oM) (LQ.mono c oM) (uz (ku l k)) _ _ b.g b.f.1) (fun _ _ b=>eV 3 24 (qv (((1:Int):Rat)/(bL a k))) (eV 4 25 qT (bY b (fun _ _ b=>tP 5 1 0 (qc (((1:Int):Rat)/(bL a k))) b (fun _ b=>tV 6 5 qT (tN (kX (b.ret [(1,0,5)] (.tuple #[qv (((1:Int):Rat)/(bL a k)),qT]) (by unfold dm;rw[if_neg oM,show n.natAbs=k by omega])))))))))
 have Q:=oT e;refine lB 13 e (af (cl (cK (cQ (kZ (kQ (lL b [.o (qv (bL a k)) 0 0 5,.o (qv a) 2 0 5] ?_)))))));have B:=LQ.mul c ha;refine am 16 b (iS (bL a k) a (LQ.mono c oM) (LQ.mono ha oM) _ _ b.g b.f.1) (fun _ I b=>lP 0 0 (qc ((bL a k)*a)) b (fun _ b=>lN (kQ (bI 17 ((k:Nat)+1) (k+1) ?_))));refine lL b ac (lD ?_);intro Z J;refine ⟨_,_,?_,⟨k+1,I,rfl,rfl,b.to _ _,oM⟩,J.to _ kR⟩
 omega
theorem BX (a:Rat)(n:Int)(K:Nat)(Z:14*K+20<=100000000)(ha:LQ K a)(Q : -13<=n/\n<=13)(b:n<0)(l:a=0)(w:World)(h:Hp)(g:G w h)(I:Tab h):CV 101 #[qv a,iV n] w h (.tuple #[qv 0,.bool false]):=by
 have b:=((sS g).add (K:=fun c=>Tab c) I);obtain ⟨m,hm⟩:∃ m:Nat,m=n.natAbs:=⟨_,rfl⟩;have u:m<=13:=by omega
 refine go Tryz.func101 [(0,qv a),(1,iV n)] rfl (aD (lA 2 29 (qc a) b (fun x w2 V b=>lA 4 29 a1 b (fun y U Y b=>lL b ac (aR (am 7 b (og 1 oM oM _ _ b.g) (fun W S b=>lA 6 29 a1 b (fun B _ J b=>lP 0 0 (qc ((1:Int):Rat)) b (fun _ b=>af (aa b aK (lI 10 (0-n) ?_)))))))))));refine lV 11 (iV (max (n:Int) (0-n:Int))) ?_ (hr:=be (n:=(if (0-n:Int)>(n:Int) then (0-n:Int) else (n:Int))) kR (by simp only[pm]));refine lL b ac (bh ?_);refine cj _ (CG.loop (fun i Γ D=>∃ (k:Nat)(c:Hp),i=m-k/\Γ=[(1,iV n),(2,pB x),(4,pB y),(5,qF),(6,pB B),(11,iV (max (n:Int) (0-n:Int))),(12,nV k)]/\SS w h D c [⟨B,29,qc (bL a k)⟩,⟨y,29,[qF,uV 0,eS,uV 0,eS]⟩,⟨x,29,qc a⟩] [] [fun c=>Tab c]/\k<=m) _ ⟨0,J,rfl,rfl,b.to _ _,JL _⟩ ?_);rintro _ _ _ ⟨k,_,z,rfl,b,hk⟩;have L:k*K<=13*K:=ym _ oM;have d:=gC ha k;refine aD ?_;cases e:(decide ((k:Int)<(max (n:Int) (0-n:Int):Int)))
 .
  have M:=oF e;refine lB 13 e (af (cW (CG.exit ?_)))
  show CG _ _ _ _ _ _ _ _
  refine cQ (aa b ac ?_);have ⟨O,j⟩:=dF (p:=(0:Int)<=(n:Int)) oM;refine lB 19 O (ah (cK (cQ (cR 5 [] mixed b aq ?_))));exact eO 1 22 [(0,0,5)] (qv (bL a k)) b (ai 0 21 b (fun _ _ b=>og 1 oM oM _ _ b.g) (fun _ _ b=>ai 2 23 b (fun _ _ b=>Dr ((1:Int):Rat) (bL a k) (by rw[l];exact tE oM) _ _ b.g) (fun _ _ b=>eV 3 24 (qv 0) (eV 4 25 qF (bY b (fun _ _ b=>tP 5 1 0 (qc 0) b (fun _ b=>tV 6 5 qF (tN (kX (b.ret [(1,0,5)] (.tuple #[qv 0,qF]) rfl))))))))))
 have M:=oT e;refine lB 13 e (af (cl (cK (cQ (kZ (kQ (lL b [.o (qv (bL a k)) 0 0 5,.o (qv a) 2 0 5] ?_)))))));have C:=LQ.mul d ha;refine am 16 b (iS (bL a k) a (LQ.mono d oM) (LQ.mono ha oM) _ _ b.g b.f.1) (fun _ F b=>lP 0 0 (qc ((bL a k)*a)) b (fun _ b=>lN (kQ (bI 17 ((k:Nat)+1) (k+1) ?_))));refine lL b ac (lD ?_);intro X H;refine ⟨_,_,?_,⟨k+1,F,rfl,rfl,b.to _ _,oM⟩,H.to _ kR⟩
 omega
theorem EF (a:Rat)(n:Int)(K:Nat)(b:14*K+20<=100000000)(ha:LQ K a)(c : -13<=n/\n<=13)(e:n<0->a≠0)(w:World)(h:Hp)(g:G w h)(d:Tab h):CV 101 #[qv a,iV n] w h (.tuple #[qv (dm a n),.bool true]):=by
 by_cases hs:0<=n
 ·exact x4 a n K b ha c hs w h g d
 ·exact Bk a n K b ha c oM (e oM) w h g d
theorem Cc (s:PTm)(a b:Rat)(K:Nat)(hK:14*K+20<=100000000)(ha:LQ K a)(hb:LQ K b)(hq:LQ 3000 s.q)(Y:1<=K)(hop:1<=s.op/\s.op<=13/\s.op≠2)(hn:s.op=8 -> -12<=s.n/\s.n<=12)(d:ke s.op s.n a b)(w:World)(h:Hp)(g:G w h)(tb:Tab h):CV 62 #[ar s,qv a,qv b] w h (.tuple #[qv (gh s.op s.n s.q a b),.bool true]):=by
 have c:=((sS g).add (K:=fun X=>Tab X) tb);refine go Tryz.func62 [(0,ar s),(1,qv a),(2,qv b)] rfl (aD (lA 3 32 (aI s) c (fun H w2 h3 c=>lA 4 29 (qc a) c (fun b4 w5 h6 c=>lA 5 29 (qc b) c (fun b7 w8 h9 c=>lA 6 29 a1 c (fun b10 _ _ c=>lL c ac (af (aa c [.v (pB H),.o (iV s.op) 3 0 1] (bh (aD ?_))))))))));cases e:((s.op:Int) == (1:Int))
 .
  have zp:=ag e;refine lB 11 e (lL c ac (ah (aD ?_)));cases D:((s.op:Int) == (3:Int))
  .
   have zq:=ag D;refine lB 15 D (lL c ac (ah (aD ?_)));cases F:((s.op:Int) == (4:Int))
   .
    have Z:=ag F;refine lB 20 F (lL c ac (ah (aD ?_)));cases C:((s.op:Int) == (5:Int))
    .
     have zs:=ag C;refine lB 25 C (lL c ac (ah (aD ?_)));cases j:((s.op:Int) == (6:Int))
     .
      have zt:=ag j;refine lB 30 j (lL c ac (ah (aD ?_)));cases p:((s.op:Int) == (7:Int))
      .
       have W:=ag p;refine lB 37 p (lL c ac (ah (aD ?_)));cases x:((s.op:Int) == (8:Int))
       .
        have zv:=ag x;refine lB 41 x (lL c ac (ah (aD ?_)));cases y:((s.op:Int) == (9:Int))
        .
         have zw:=ag y;refine lB 49 y (lL c ac (ah (aD ?_)));cases i:((s.op:Int) == (10:Int))
         .
          have zx:=ag i;refine lB 53 i (lL c ac (ah (aD ?_)));cases l:((s.op:Int) == (11:Int))
          .
           have zA:=ag l;refine lB 58 l (lL c ac (ah (aD ?_)));cases B:((s.op:Int) == (12:Int))
           .
            have zB:=ag B;refine lB 68 B (lL c ac (ah (aD ?_)));cases u:((s.op:Int) == (13:Int))
            .
             have zD:=ag u;refine lB 73 u (lL c ac (ah (cK (aa c [.v ca] (lP 0 0 a1 c (fun _ c=>lL c ac (lN (kX ?_))))))))
             exfalso;omega
            have zD:=eq_of_beq u;exact lB 73 u (lL c ac (au (aa c [.o (qv a) 2 0 5,.o (qv b) 1 0 5] (am 76 c (Ig a b (LQ.mono ha oM) (LQ.mono hb oM) _ _ c.g) (fun _ _ c=>lP 0 0 (qc (mh a b)) c (fun _ c=>lL c ac (ae c [(0,0,5)] (.tuple #[qv (mh a b),qT]) (by rw[show s.op=13 by omega];rfl))))))))
           have zB:=eq_of_beq B;exact lB 68 B (lL c ac (au (aa c [.o (qv a) 2 0 5,.o (qv b) 1 0 5] (am 71 c (GE a b (LQ.mono ha oM) (LQ.mono hb oM) _ _ c.g) (fun _ _ c=>lP 0 0 (qc (maxR a b)) c (fun _ c=>lL c ac (ae c [(0,0,5)] (.tuple #[qv (maxR a b),qT]) (by rw[show s.op=12 by omega];rfl))))))))
          have zA:=eq_of_beq l;refine lB 58 l (lL c ac (au (cQ (cR 8 [] mixed c aq ?_))));refine eO 0 59 [(2,0,5)] (qv a) c (eO 1 60 [(2,0,5)] (qv a) c ?_);have L:LQ (K) (a8 a):=LQ.abs ha;refine ai 2 61 c (fun _ _ c=>Gh a (LQ.mono ha oM) _ _ c.g) (fun _ _ c=>ai 3 62 c (fun _ _ c=>og 1 oM oM _ _ c.g) (fun _ _ c=>?_));have V:=LQ.add L (LQ.lit (z:=1) kD);refine ai 4 63 c (fun _ _ c=>nu (a8 a) ((1:Int):Rat) (LQ.mono L oM) (LQ.mono (LQ.lit (z:=1) kD) oM) _ _ c.g c.f.1) (fun _ _ c=>?_);have U:=LQ.div ha V;exact ai 5 64 c (fun _ _ c=>pg a ((a8 a)+((1:Int):Rat)) (LQ.mono ha oM) (LQ.mono V oM) (qo a) _ _ c.g c.f.1) (fun _ _ c=>eV 6 65 (qv (a/((a8 a)+((1:Int):Rat)))) (eV 7 66 qT (bY c (fun _ _ c=>tP 8 0 0 (qc (a/((a8 a)+((1:Int):Rat)))) c (fun _ c=>tV 9 7 qT (tN (kX (c.ret [(0,0,5)] (.tuple #[qv (a/((a8 a)+((1:Int):Rat))),qT]) (by rw[show s.op=11 by omega];rfl)))))))))
         have zx:=eq_of_beq i;exact lB 53 i (lL c ac (au (aa c [.o (qv a) 2 0 5,.v (qv 0)] (am 56 c (GE a 0 (LQ.mono ha oM) (LQ.mono (LQ.lit (z:=0) kD) oM) _ _ c.g) (fun _ _ c=>lP 0 0 (qc (maxR a 0)) c (fun _ c=>lL c ac (ae c [(0,0,5)] (.tuple #[qv (maxR a 0),qT]) (by rw[show s.op=10 by omega];rfl))))))))
        have zw:=eq_of_beq y;refine lB 49 y (lL c ac (au (aa c [.o (qv a) 2 0 5] ?_)));have O:LQ (K) (a8 a):=LQ.abs ha;exact am 51 c (Gh a (LQ.mono ha oM) _ _ c.g) (fun _ _ c=>lP 0 0 (qc (a8 a)) c (fun _ c=>lL c ac (ae c [(0,0,5)] (.tuple #[qv (a8 a),qT]) (by rw[show s.op=9 by omega];rfl))))
       have zv:=eq_of_beq x;exact lB 41 x (lL c ac (au (aa c [.o (qv a) 2 0 5,.v (qP H 1),.o (iV s.n) 3 1 1] (am 45 c (EF a s.n K hK ha (by have:=hn oM;omega) (d.2 oM) _ _ c.g c.f.1) (fun _ _ c=>lL c [.v (qv (dm a s.n)),.v qT] (lP 0 0 (qc (dm a s.n)) c (fun _ c=>lL c ac (ae c [(0,0,5)] (.tuple #[qv (dm a s.n),qT]) (by rw[show s.op=8 by omega];rfl)))))))))
      have W:=eq_of_beq p;refine lB 37 p (lL c ac (au (aa c [.o (qv a) 2 0 5] ?_)));have S:LQ (K) (-a):=LQ.neg ha;exact am 39 c (Bd a (LQ.mono ha oM) _ _ c.g) (fun _ _ c=>lP 0 0 (qc (-a)) c (fun _ c=>lL c ac (ae c [(0,0,5)] (.tuple #[qv (-a),qT]) (by rw[show s.op=7 by omega];rfl))))
     have zt:=eq_of_beq j;refine lB 30 j (lL c ac (au (aa c [.o (qv a) 2 0 5,.o (qv b) 1 0 5] ?_)));have M:=LQ.div ha hb;exact am 33 c (pg a b (LQ.mono ha oM) (LQ.mono hb oM) (uz (d.1 oM)) _ _ c.g c.f.1) (fun _ _ c=>lL c [.v (qv (a/b)),.v qT] (lP 0 0 (qc (a/b)) c (fun _ c=>lL c ac (ae c [(0,0,5)] (.tuple #[qv (a/b),qT]) (by rw[show s.op=6 by omega];rfl)))))
    have zs:=eq_of_beq C;refine lB 25 C (lL c ac (au (aa c [.o (qv a) 2 0 5,.o (qv b) 1 0 5] ?_)));have J:=LQ.mul ha hb;exact am 28 c (iS a b (LQ.mono ha oM) (LQ.mono hb oM) _ _ c.g c.f.1) (fun _ _ c=>lP 0 0 (qc (a*b)) c (fun _ c=>lL c ac (ae c [(0,0,5)] (.tuple #[qv (a*b),qT]) (by rw[show s.op=5 by omega];rfl))))
   have Z:=eq_of_beq F;refine lB 20 F (lL c ac (au (aa c [.o (qv a) 2 0 5,.o (qv b) 1 0 5] ?_)));have I:=LQ.sub ha hb;exact am 23 c (Ib a b (LQ.mono ha oM) (LQ.mono hb oM) _ _ c.g c.f.1) (fun _ _ c=>lP 0 0 (qc (a-b)) c (fun _ c=>lL c ac (ae c [(0,0,5)] (.tuple #[qv (a-b),qT]) (by rw[show s.op=4 by omega];rfl))))
  have zq:=eq_of_beq D;refine lB 15 D (lL c ac (au (aa c [.o (qv a) 2 0 5,.o (qv b) 1 0 5] ?_)));have Q:=LQ.add ha hb;exact am 18 c (nu a b (LQ.mono ha oM) (LQ.mono hb oM) _ _ c.g c.f.1) (fun _ _ c=>lP 0 0 (qc (a+b)) c (fun _ c=>lL c ac (ae c [(0,0,5)] (.tuple #[qv (a+b),qT]) (by rw[show s.op=3 by omega];rfl))))
 have zp:=eq_of_beq e;exact lB 11 e (lL c ac (au (aa c [.v (qP H 2),.o (qv s.q) 3 2 5] (lP 0 0 (qc s.q) c (fun _ c=>lL c ac (ae c [(0,0,5)] (.tuple #[qv s.q,qT]) (by rw[show s.op=1 by omega];rfl)))))))
theorem AQ (s:PTm)(a b:Rat)(K:Nat)(W:14*K+20<=100000000)(ha:LQ K a)(hb:LQ K b)(J:LQ 3000 s.q)(C:1<=K)(I:s.op=6)(d:b=0)(w:World)(h:Hp)(g:G w h)(F:Tab h):CV 62 #[ar s,qv a,qv b] w h (.tuple #[qv 0,.bool false]):=by
 have c:=((sS g).add (K:=fun B=>Tab B) F);refine go Tryz.func62 [(0,ar s),(1,qv a),(2,qv b)] rfl (aD (lA 3 32 (aI s) c (fun D w2 Q c=>lA 4 29 (qc a) c (fun O M V c=>lA 5 29 (qc b) c (fun S L U c=>lA 6 29 a1 c (fun H _ _ c=>lL c ac (af (aa c [.v (pB D),.o (iV s.op) 3 0 1] (bh (aD ?_))))))))));have p:((s.op:Int) == (1:Int))=false:=cD oM;have i:=ag p;refine lB 11 p (lL c ac (ah (aD ?_)));have y:((s.op:Int) == (3:Int))=false:=cD oM;have e:=ag y;refine lB 15 y (lL c ac (ah (aD ?_)));have z:((s.op:Int) == (4:Int))=false:=cD oM;have j:=ag z;refine lB 20 z (lL c ac (ah (aD ?_)));have x:((s.op:Int) == (5:Int))=false:=cD oM;have f:=ag x;refine lB 25 x (lL c ac (ah (aD ?_)));have u:((s.op:Int) == (6:Int))=true:=kg oM;have l:=eq_of_beq u;exact lB 30 u (lL c ac (au (aa c [.o (qv a) 2 0 5,.o (qv b) 1 0 5] (am 33 c (Dr a b d _ _ c.g) (fun _ _ c=>lL c [.v (qv 0),.v qF] (lP 0 0 (qc 0) c (fun _ c=>lL c ac (ae c [(0,0,5)] (.tuple #[qv 0,qF]) rfl))))))))
theorem Ad (s:PTm)(a b:Rat)(K:Nat)(S:14*K+20<=100000000)(ha:LQ K a)(hb:LQ K b)(V:LQ 3000 s.q)(L:1<=K)(Q:s.op=8)(U : -12<=s.n/\s.n<0)(l:a=0)(w:World)(h:Hp)(g:G w h)(M:Tab h):CV 62 #[ar s,qv a,qv b] w h (.tuple #[qv 0,.bool false]):=by
 have c:=((sS g).add (K:=fun J=>Tab J) M);refine go Tryz.func62 [(0,ar s),(1,qv a),(2,qv b)] rfl (aD (lA 3 32 (aI s) c (fun C w2 Z c=>lA 4 29 (qc a) c (fun Y X h6 c=>lA 5 29 (qc b) c (fun b7 W h9 c=>lA 6 29 a1 c (fun O _ _ c=>lL c ac (af (aa c [.v (pB C),.o (iV s.op) 3 0 1] (bh (aD ?_))))))))));have y:((s.op:Int) == (1:Int))=false:=cD oM;have p:=ag y;refine lB 11 y (lL c ac (ah (aD ?_)));have H:((s.op:Int) == (3:Int))=false:=cD oM;have e:=ag H;refine lB 15 H (lL c ac (ah (aD ?_)));have I:((s.op:Int) == (4:Int))=false:=cD oM;have u:=ag I;refine lB 20 I (lL c ac (ah (aD ?_)));have F:((s.op:Int) == (5:Int))=false:=cD oM;have j:=ag F;refine lB 25 F (lL c ac (ah (aD ?_)));have z:((s.op:Int) == (6:Int))=false:=cD oM;have x:=ag z;refine lB 30 z (lL c ac (ah (aD ?_)));have B:((s.op:Int) == (7:Int))=false:=cD oM;have d:=ag B;refine lB 37 B (lL c ac (ah (aD ?_)));have D:((s.op:Int) == (8:Int))=true:=kg oM;have i:=eq_of_beq D;exact lB 41 D (lL c ac (au (aa c [.o (qv a) 2 0 5,.v (qP C 1),.o (iV s.n) 3 1 1] (am 45 c (BX a s.n K S ha oM oM l _ _ c.g c.f.1) (fun _ _ c=>lL c [.v (qv 0),.v qF] (lP 0 0 (qc 0) c (fun _ c=>lL c ac (ae c [(0,0,5)] (.tuple #[qv 0,qF]) rfl))))))))
theorem qE (s:PTm)(a b:Rat)(K:Nat)(f:14*K+20<=100000000)(ha:LQ K a)(hb:LQ K b)(d:LQ 3000 s.q)(c:1<=K)(e:1<=s.op/\s.op<=13/\s.op≠2)(j:s.op=8 -> -12<=s.n/\s.n<=12)(w:World)(h:Hp)(g:G w h)(i:Tab h):CV 62 #[ar s,qv a,qv b] w h (.tuple #[qv (jB s.op s.n s.q a b),.bool (decide (ke s.op s.n a b))]):=by
 by_cases hok:ke s.op s.n a b
 ·unfold jB;rw[if_pos hok,decide_eq_true hok];exact Cc s a b K f ha hb d c e j hok w h g i
 ·unfold jB;rw[if_neg hok,decide_eq_false hok]
  by_cases h6:s.op=6/\b=0
  ·exact AQ s a b K f ha hb d c h6.1 h6.2 w h g i
  ·by_cases h8:s.op=8/\s.n<0/\a=0
   ·exact Ad s a b K f ha hb d c h8.1 ⟨(j h8.1).1,h8.2.1⟩ h8.2.2 w h g i
   ·exact absurd ⟨fun x y=>h6 ⟨x,y⟩,fun x y z=>h8 ⟨x,y,z⟩⟩ hok
theorem Cs (j:Z9)(cL:Nat)(L:List PLt)(d:Nat)(K:L.length<=1000)(y:Nat)(M:3002<=y)(I:y<=7000)(F:∀ i,LQ (y-2) (L.getD i cv).q)(n:Int)(q:Rat)(s:ByteArray)(A:Z9)(c:Nat)(ps:List PTm)(ks:List Tm)(w:World)(h:Hp)(g:G w h)(U:SlO 9 aI aE h A ps)(Q:SlO 6 qh cv h j L):CV 28 #[ar ⟨2,n,q,s,A,ps.length,c⟩,.slice j L.length cL] w h (.tuple #[qv (bc L (d+1) (.mk 2 n q s ks)).2,iV (bc L (d+1) (.mk 2 n q s ks)).1]):=by
 have a:=(((sS g).aS U).aS Q);refine go Tryz.func28 [(0,ar ⟨2,n,q,s,A,ps.length,c⟩),(1,qS j L.length cL)] rfl (aD (lA 2 32 (aI ⟨2,n,q,s,A,ps.length,c⟩) a (fun p w2 Z a=>lA 4 29 a1 a (fun C Y S a=>lL a ac (af (aa a [.v (pB p),.o (iV 2) 1 0 1,.v qT] (au (cQ (aa a [.c,.v (nV L.length),.c] (bh ?_))))))))));refine cj _ (CG.loop (fun x Γ D=>∃ (k:Nat)(e:Hp),x=L.length-k/\Γ=[(1,qS j L.length cL),(2,pB p),(4,pB C),(18,qS j L.length cL),(19,nV L.length),(20,nV k)]/\SS w h D e [⟨C,29,[qF,uV 0,eS,uV 0,eS]⟩,⟨p,32,aI ⟨2,n,q,s,A,ps.length,c⟩⟩] [] [fun e=>SlO 6 qh cv e j L,fun e=>SlO 9 aI aE e A ps]/\k<=L.length/\(∀ i,i<k->(L.getD i cv).s≠s)) _ ⟨0,S,rfl,rfl,a.to _ _,JL _,(fun i hi=>absurd hi (KO i))⟩ ?_);rintro _ _ w7 ⟨k,X,V,rfl,a,hk,b⟩;refine aD ?_;cases l:(decide ((k:Int)<(L.length:Int)))
 .
  have W:=oF l;refine lB 21 l (af (cW (CG.exit ?_)))
  show CG _ _ _ _ _ _ _ _
  refine aa a [.v ca] (lP 0 0 a1 a (fun _ a=>lL a ac (lN (kX ?_))));have z:k=L.length:=by omega
  rw[z] at b
  exact a.ret [(0,0,5)] (.tuple #[.agg #[qF,uV 0,eS,uV 0,eS],iV 11]) (by rw[oq rfl (xD b)];rfl)
 have W:=oT l;refine lB 21 l (af (cl (cK (cQ (kZ (aD (lX 22 j L.length cL 6 (k:Nat) k ((a.f.1).ok oM) ?_)))))));refine lH 23 (.agg #[.string ((L.getD k cv).s),.bool (aw ((L.getD k cv).q).num),uV (lo (ab ((L.getD k cv).q).num)),.string (hi (ab ((L.getD k cv).q).num)),uV (lo (qd ((L.getD k cv).q))),.string (hi (qd ((L.getD k cv).q)))]) a ((a.f.1).el k oM) (lA 7 59 ([eS,qF,uV 0,eS,uV 0,eS]) a (fun B _ J a=>lP 0 0 ([.string ((L.getD k cv).s),.bool (aw ((L.getD k cv).q).num),uV (lo (ab ((L.getD k cv).q).num)),.string (hi (ab ((L.getD k cv).q).num)),uV (lo (qd ((L.getD k cv).q))),.string (hi (qd ((L.getD k cv).q)))]) a (fun _ a=>aR (lL a [.v (pB B),.o (.string ((L.getD k cv).s)) 0 0 1,.v (qP p 7),.o (.string s) 2 7 1] ?_))));cases u:(pS ((L.getD k cv).s) s)
 .
  have O:=nz u;refine lB 28 u (ah (cK (kQ (bI 31 ((k:Nat)+1) (k+1) ?_))));refine lL a ac (lD ?_);intro a_ H;replace a:=a.drop 1 0;refine ⟨_,_,?_,⟨k+1,J,rfl,rfl,a.to _ _,oM,(fun i hi=>by rcases K7.1 hi with e|rfl;exact b i e;assumption)⟩,H.to _ kR⟩
  omega
 have O:=od u;exact lB 28 u (au (aa a [.v (qP B 1),.o (qv ((L.getD k cv).q)) 0 1 5] (lP 1 0 (qc ((L.getD k cv).q)) a (fun _ a=>lL a ac (ae a [(1,0,5)] (.tuple #[qv ((L.getD k cv).q),iV 0]) (by rw[j0 rfl (wy b oM aM)]))))))
theorem Bn  (ok:ByteArray->Prop)(d:Nat)(e:Z9)(cL:Nat)(L:List PLt)(D:L.length<=1000)(j:Nat)(H:3002<=j)(B:j<=7000)(z:∀ i,LQ (j-2) (L.getD i cv).q)(Z:∀ (p:PTm) (t:Tm) (w:World) (h:Hp),G w h->TmH d h p t->WfT ok d t->ba d t<=1000->SlO 6 qh cv h e L->Tab h->Calls Tryz.prog 28 #[ar p,.slice e L.length cL] w (Ret w h (fun v _=>v=.tuple #[qv (bc L d t).2,iV (bc L d t).1])))(op n:Int)(q:Rat)(s:ByteArray)(A:Z9)(c:Nat)(O:1<=op/\op<=13/\op≠2)(S : -12<=n/\n<=12)(C:LQ 3000 q)(w:World)(h:Hp)(g:G w h)(Q:SlO 9 aI aE h A ([]:List PTm))(M:SlO 6 qh cv h e L)(F:Tab h):CV 28 #[ar ⟨op,n,q,s,A,0,c⟩,.slice e L.length cL] w h (.tuple #[qv (bc L (d+1) (.mk op n q s ([]:List Tm))).2,iV (bc L (d+1) (.mk op n q s ([]:List Tm))).1]):=by
 have a:=((((sS g).aS Q).aS M).add (K:=fun y=>Tab y) F);have J:([]:List PTm).length=0:=rfl;refine go Tryz.func28 [(0,ar ⟨op,n,q,s,A,0,c⟩),(1,qS e L.length cL)] rfl (aD (lA 2 32 (aI ⟨op,n,q,s,A,0,c⟩) a (fun u w2 X a=>lA 4 29 a1 a (fun V U Y a=>lL a ac (af (aa a [.v (pB u),.o (iV op) 1 0 1] ?_))))));have b:((op:Int) == (2:Int))=false:=cD oM;have x:=ag b;refine lB 17 b (ah (cK (aD (lA 8 132 ([qF,uV 0,eS,uV 0,eS,qF,uV 0,eS,uV 0,eS]) a (fun b8 W _ a=>af (aa a [.v (qP u 8),.o (qS A 0 c) 2 8 1,.v (iV 0),.c] (bh (cU ?_))))))));refine cN (aa a [.v qF] (af (cW (CG.exit ?_))))
 show CG _ _ _ _ _ _ _ _
 refine aa a [.o (ar ⟨op,n,q,s,A,0,c⟩) 2 0 9,.v (pB b8),.o (qv 0) 0 0 5,.v (qP b8 5),.o (qv 0) 0 5 5] (am 61 a (qE (⟨op,n,q,s,A,0,c⟩:PTm) 0 0 (j*1000) oM (im oM) (im oM) C oM (by show 1<=op/\op<=13/\op≠2;omega) (by show op=8 -> -12<=n/\n<=12;omega) _ _ a.g a.f.1) (fun _ _ a=>lL a [.c,.v (qv (jB op n q 0 0)),.v (.bool (decide (ke op n 0 0)))] (lA 13 29 a1 a (fun I _ _ a=>lP 0 0 (qc (jB op n q 0 0)) a (fun _ a=>lL a ac (af (aa a ac ?_)))))));cases l:(!(decide (ke op n 0 0)))
 .
  exact lB 65 l (ah (cK (aa a [.o (qv (jB op n q 0 0)) 0 0 5] (lP 2 0 (qc (jB op n q 0 0)) a (fun _ a=>lL a ac (ae a [(2,0,5)] (.tuple #[qv (jB op n q 0 0),iV 0]) (by rw[mN oM,dy oM oM (Ic aM)])))))))
 exact lB 65 l (au (aa a [.v ca] (lP 2 0 a1 a (fun _ a=>lL a ac (ae a [(2,0,5)] (.tuple #[.agg #[qF,uV 0,eS,uV 0,eS],iV 6]) (by rw[mN oM,uU oM oM (IY aM)];rfl))))))
theorem AM  (ok:ByteArray->Prop)(d:Nat)(j:Z9)(cL:Nat)(L:List PLt)(W:L.length<=1000)(u:Nat)(Y:3002<=u)(U:u<=7000)(S:∀ i,LQ (u-2) (L.getD i cv).q)(ih:∀ (p:PTm) (t:Tm) (w:World) (h:Hp),G w h->TmH d h p t->WfT ok d t->ba d t<=1000->SlO 6 qh cv h j L->Tab h->Calls Tryz.prog 28 #[ar p,.slice j L.length cL] w (Ret w h (fun v _=>v=.tuple #[qv (bc L d t).2,iV (bc L d t).1])))(op n:Int)(q:Rat)(s:ByteArray)(A:Z9)(c:Nat)(e:PTm)(b:Tm)(D:WfT ok d b)(F:ba d b<=1000)(C:LQ (u*1000) (bc L d b).2)(hop:1<=op/\op<=13/\op≠2)(hn : -12<=n/\n<=12)(V:LQ 3000 q)(w:World)(h:Hp)(g:G w h)(hK:SlO 9 aI aE h A ([e]:List PTm))(H:TmH d h e b)(hL:SlO 6 qh cv h j L)(X:Tab h):CV 28 #[ar ⟨op,n,q,s,A,1,c⟩,.slice j L.length cL] w h (.tuple #[qv (bc L (d+1) (.mk op n q s ([b]:List Tm))).2,iV (bc L (d+1) (.mk op n q s ([b]:List Tm))).1]):=by
 have a:=(((((sS g).aS hK).add (K:=fun B=>TmH d B e b) H).aS hL).add (K:=fun B=>Tab B) X);have Z:([e]:List PTm).length=1:=rfl;refine go Tryz.func28 [(0,ar ⟨op,n,q,s,A,1,c⟩),(1,qS j L.length cL)] rfl (aD (lA 2 32 (aI ⟨op,n,q,s,A,1,c⟩) a (fun y w2 h3 a=>lA 4 29 a1 a (fun z w5 h6 a=>lL a ac (af (aa a [.v (pB y),.o (iV op) 1 0 1] ?_))))));have l:((op:Int) == (2:Int))=false:=cD oM;have M:=ag l;refine lB 17 l (ah (cK (aD (lA 8 132 ([qF,uV 0,eS,uV 0,eS,qF,uV 0,eS,uV 0,eS]) a (fun b8 w9 _ a=>af (aa a [.v (qP y 8),.o (qS A 1 c) 2 8 1,.v (iV 1),.c] (bh (cU ?_))))))));refine cN (aa a [.v qT] (af (cl (cK (cQ (kZ (aa a ac (lX 39 A 1 c 9 0 0 ((a.f.r.2.1).ok oM) ?_))))))));refine lH 40 (ar (([e]:List PTm).getD 0 aE)) a ((a.f.r.2.1).el 0 oM) (lA 10 32 a2 a (fun O _ _ a=>lL a ac (lP 0 0 (aI (([e]:List PTm).getD 0 aE)) a (fun _ a=>aR (lL a [.o (ar (([e]:List PTm).getD 0 aE)) 0 0 9,.c] (am 44 a (ih (([e]:List PTm).getD 0 aE) b _ _ a.g a.f.r.1 D F a.f.2.1 a.f.1) (fun _ _ a=>lL a [.c,.v (qv ((bc L d b).2)),.v (iV ((bc L d b).1))] (lA 11 29 a1 a (fun I _ _ a=>lP 0 0 (qc ((bc L d b).2)) a (fun _ a=>lL a ac (af (aa a ac ?_))))))))))));cases x:(((bc L d b).1:Int) != (0:Int))
 .
  have zc:=aY x;refine lB 48 x (ah (cK (kQ (lL a [.c,.o (qv ((bc L d b).2)) 0 0 5,.v (pB b8)] (lP 2 0 (qc ((bc L d b).2)) a (fun _ a=>lN (kQ (lL a [.v (iV 1),.c] (lD (CL.to [(1,qS j L.length cL),(2,pB y),(4,pB z),(5,iV 0),(8,pB b8),(34,qS A 1 c),(35,iV 1),(36,iV 1),(37,qT),(38,iV 0),(39,.pointer (some ⟨(aB A),aO A+0*9,none⟩)),(40,ar (([e]:List PTm).getD 0 aE)),(10,pB O),(9,iV 0),(42,ar (([e]:List PTm).getD 0 aE)),(43,qS j L.length cL),(44,.tuple #[qv ((bc L d b).2),iV ((bc L d b).1)]),(41,.tuple #[qv ((bc L d b).2),iV ((bc L d b).1)]),(45,qv ((bc L d b).2)),(46,iV ((bc L d b).1)),(11,pB I),(12,iV ((bc L d b).1)),(47,iV ((bc L d b).1)),(48,qF),(51,iV 0),(52,qv ((bc L d b).2)),(53,pB b8),(54,iV 1)] ?_))))))))));replace a:=a.to [⟨I,29,qc ((bc L d b).2)⟩,⟨O,32,aI (([e]:List PTm).getD 0 aE)⟩,⟨b8,132,[.bool (aw ((bc L d b).2).num),uV (lo (ab ((bc L d b).2).num)),.string (hi (ab ((bc L d b).2).num)),uV (lo (qd ((bc L d b).2))),.string (hi (qd ((bc L d b).2))),qF,uV 0,eS,uV 0,eS]⟩,⟨z,29,[qF,uV 0,eS,uV 0,eS]⟩,⟨y,32,aI ⟨op,n,q,s,A,1,c⟩⟩] [];refine cN (aa a [.v qF] (af (cW (CG.exit ?_))))
  show CG _ _ _ _ _ _ _ _
  refine aa a [.o (ar ⟨op,n,q,s,A,1,c⟩) 4 0 9,.v (pB b8),.o (qv ((bc L d b).2)) 2 0 5,.v (qP b8 5),.o (qv 0) 2 5 5] (am 61 a (qE (⟨op,n,q,s,A,1,c⟩:PTm) ((bc L d b).2) 0 (u*1000) oM C (im oM) V oM (by show 1<=op/\op<=13/\op≠2;omega) (by show op=8 -> -12<=n/\n<=12;omega) _ _ a.g a.f.1) (fun _ _ a=>lL a [.c,.v (qv (jB op n q ((bc L d b).2) 0)),.v (.bool (decide (ke op n ((bc L d b).2) 0)))] (lA 13 29 a1 a (fun J _ _ a=>lP 0 0 (qc (jB op n q ((bc L d b).2) 0)) a (fun _ a=>lL a ac (af (aa a ac ?_)))))));cases Q:(!(decide (ke op n ((bc L d b).2) 0)))
  .
   refine lB 65 Q (lN (cj [(4,pB z),(5,iV 0),(13,pB J),(65,qF)] ?_));exact cW (cK (aa a [.o (qv (jB op n q ((bc L d b).2) 0)) 0 0 5] (lP 4 0 (qc (jB op n q ((bc L d b).2) 0)) a (fun _ a=>lL a ac (ae a [(4,0,5)] (.tuple #[qv (jB op n q ((bc L d b).2) 0),iV 0]) (by rw[fS oM,dy oM oM (Ic aM)]))))))
  refine lB 65 Q (lN (cj [(4,pB z),(5,iV 0),(13,pB J),(65,qT)] ?_));exact cl (aa a [.v ca] (lP 4 0 a1 a (fun _ a=>lL a ac (ae a [(4,0,5)] (.tuple #[.agg #[qF,uV 0,eS,uV 0,eS],iV 6]) (by rw[fS oM,uU oM oM (IY aM)];rfl)))))
 have zc:=a6 x;exact lB 48 x (au (aa a [.v ca,.c] (lP 3 0 a1 a (fun _ a=>lL a ac (ae a [(3,0,5)] (.tuple #[.agg #[qF,uV 0,eS,uV 0,eS],iV ((bc L d b).1)]) (by rw[fS oM,CT oM];rfl))))))
theorem Cp  (ok:ByteArray->Prop)(d:Nat)(u:Z9)(cL:Nat)(L:List PLt)(hLl:L.length<=1000)(z:Nat)(hc3:3002<=z)(hcm:z<=7000)(hLq:∀ i,LQ (z-2) (L.getD i cv).q)(ih:∀ (p:PTm) (t:Tm) (w:World) (h:Hp),G w h->TmH d h p t->WfT ok d t->ba d t<=1000->SlO 6 qh cv h u L->Tab h->Calls Tryz.prog 28 #[ar p,.slice u L.length cL] w (Ret w h (fun v _=>v=.tuple #[qv (bc L d t).2,iV (bc L d t).1])))(op n:Int)(q:Rat)(s:ByteArray)(A:Z9)(c:Nat)(l:PTm)(b:Tm)(J:WfT ok d b)(M:ba d b<=1000)(H:LQ (z*1000) (bc L d b).2)(j:PTm)(e:Tm)(O:WfT ok d e)(S:ba d e<=1000)(W:LQ (z*1000) (bc L d e).2)(hop:1<=op/\op<=13/\op≠2)(hn : -12<=n/\n<=12)(hq:LQ 3000 q)(w:World)(h:Hp)(g:G w h)(hK:SlO 9 aI aE h A ([l,j]:List PTm))(U:TmH d h l b)(I:TmH d h j e)(hL:SlO 6 qh cv h u L)(tb:Tab h):CV 28 #[ar ⟨op,n,q,s,A,2,c⟩,.slice u L.length cL] w h (.tuple #[qv (bc L (d+1) (.mk op n q s ([b,e]:List Tm))).2,iV (bc L (d+1) (.mk op n q s ([b,e]:List Tm))).1]):=by
 have a:=((((((sS g).aS hK).add (K:=fun B=>TmH d B l b) U).add (K:=fun B=>TmH d B j e) I).aS hL).add (K:=fun B=>Tab B) tb);have hln:([l,j]:List PTm).length=2:=rfl;refine go Tryz.func28 [(0,ar ⟨op,n,q,s,A,2,c⟩),(1,qS u L.length cL)] rfl (aD (lA 2 32 (aI ⟨op,n,q,s,A,2,c⟩) a (fun x w2 h3 a=>lA 4 29 a1 a (fun y w5 h6 a=>lL a ac (af (aa a [.v (pB x),.o (iV op) 1 0 1] ?_))))));have C:((op:Int) == (2:Int))=false:=cD oM;have bb:=ag C;refine lB 17 C (ah (cK (aD (lA 8 132 ([qF,uV 0,eS,uV 0,eS,qF,uV 0,eS,uV 0,eS]) a (fun b8 w9 _ a=>af (aa a [.v (qP x 8),.o (qS A 2 c) 2 8 1,.v (iV 2),.c] (bh (cU ?_))))))));refine cN (aa a [.v qT] (af (cl (cK (cQ (kZ (aa a ac (lX 39 A 2 c 9 0 0 ((a.f.q.1).ok oM) ?_))))))));refine lH 40 (ar (([l,j]:List PTm).getD 0 aE)) a ((a.f.q.1).el 0 oM) (lA 10 32 a2 a (fun V _ _ a=>lL a ac (lP 0 0 (aI (([l,j]:List PTm).getD 0 aE)) a (fun _ a=>aR (lL a [.o (ar (([l,j]:List PTm).getD 0 aE)) 0 0 9,.c] (am 44 a (ih (([l,j]:List PTm).getD 0 aE) b _ _ a.g a.f.r.2.1 J M a.f.2.1 a.f.1) (fun _ _ a=>lL a [.c,.v (qv ((bc L d b).2)),.v (iV ((bc L d b).1))] (lA 11 29 a1 a (fun Q _ _ a=>lP 0 0 (qc ((bc L d b).2)) a (fun _ a=>lL a ac (af (aa a ac ?_))))))))))));cases D:(((bc L d b).1:Int) != (0:Int))
 .
  have zf:=aY D;refine lB 48 D (ah (cK (kQ (lL a [.c,.o (qv ((bc L d b).2)) 0 0 5,.v (pB b8)] (lP 2 0 (qc ((bc L d b).2)) a (fun _ a=>lN (kQ (lL a [.v (iV 1),.c] (lD (CL.to [(1,qS u L.length cL),(2,pB x),(4,pB y),(5,iV 0),(8,pB b8),(34,qS A 2 c),(35,iV 2),(36,iV 1),(37,qT),(38,iV 0),(39,.pointer (some ⟨(aB A),aO A+0*9,none⟩)),(40,ar (([l,j]:List PTm).getD 0 aE)),(10,pB V),(9,iV 0),(42,ar (([l,j]:List PTm).getD 0 aE)),(43,qS u L.length cL),(44,.tuple #[qv ((bc L d b).2),iV ((bc L d b).1)]),(41,.tuple #[qv ((bc L d b).2),iV ((bc L d b).1)]),(45,qv ((bc L d b).2)),(46,iV ((bc L d b).1)),(11,pB Q),(12,iV ((bc L d b).1)),(47,iV ((bc L d b).1)),(48,qF),(51,iV 0),(52,qv ((bc L d b).2)),(53,pB b8),(54,iV 1)] ?_))))))))));replace a:=a.to [⟨Q,29,qc ((bc L d b).2)⟩,⟨V,32,aI (([l,j]:List PTm).getD 0 aE)⟩,⟨b8,132,[.bool (aw ((bc L d b).2).num),uV (lo (ab ((bc L d b).2).num)),.string (hi (ab ((bc L d b).2).num)),uV (lo (qd ((bc L d b).2))),.string (hi (qd ((bc L d b).2))),qF,uV 0,eS,uV 0,eS]⟩,⟨y,29,[qF,uV 0,eS,uV 0,eS]⟩,⟨x,32,aI ⟨op,n,q,s,A,2,c⟩⟩] [];refine cN (aa a [.v qT] (af (cl (cK (cQ (kZ (aa a ac (lX 39 A 2 c 9 1 1 ((a.f.q.1).ok oM) ?_))))))));refine lH 40 (ar (([l,j]:List PTm).getD 1 aE)) a ((a.f.q.1).el 1 oM) (lA 10 32 a2 a (fun zi _ _ a=>lL a ac (lP 0 0 (aI (([l,j]:List PTm).getD 1 aE)) a (fun _ a=>aR (lL a [.o (ar (([l,j]:List PTm).getD 1 aE)) 0 0 9,.c] (am 44 a (ih (([l,j]:List PTm).getD 1 aE) e _ _ a.g a.f.r.1 O S a.f.2.1 a.f.1) (fun _ _ a=>lL a [.c,.v (qv ((bc L d e).2)),.v (iV ((bc L d e).1))] (lA 11 29 a1 a (fun X _ _ a=>lP 0 0 (qc ((bc L d e).2)) a (fun _ a=>lL a ac (af (aa a ac ?_))))))))))));cases F:(((bc L d e).1:Int) != (0:Int))
  .
   have zg:=aY F;refine lB 48 F (ah (cK (kQ (lL a [.c,.o (qv ((bc L d e).2)) 0 0 5,.v (qP b8 5)] (lP 4 5 (qc ((bc L d e).2)) a (fun _ a=>lN (kQ (lL a [.v (iV 2),.c] (lD (CL.to [(1,qS u L.length cL),(2,pB x),(4,pB y),(5,iV 0),(8,pB b8),(34,qS A 2 c),(35,iV 2),(36,iV 2),(37,qT),(38,iV 1),(39,.pointer (some ⟨(aB A),aO A+1*9,none⟩)),(40,ar (([l,j]:List PTm).getD 1 aE)),(10,pB zi),(9,iV 1),(42,ar (([l,j]:List PTm).getD 1 aE)),(43,qS u L.length cL),(44,.tuple #[qv ((bc L d e).2),iV ((bc L d e).1)]),(41,.tuple #[qv ((bc L d e).2),iV ((bc L d e).1)]),(45,qv ((bc L d e).2)),(46,iV ((bc L d e).1)),(11,pB X),(12,iV ((bc L d e).1)),(47,iV ((bc L d e).1)),(48,qF),(51,iV 1),(52,qv ((bc L d e).2)),(53,qP b8 5),(54,iV 2)] ?_))))))))));replace a:=a.to [⟨X,29,qc ((bc L d e).2)⟩,⟨zi,32,aI (([l,j]:List PTm).getD 1 aE)⟩,⟨Q,29,qc ((bc L d b).2)⟩,⟨V,32,aI (([l,j]:List PTm).getD 0 aE)⟩,⟨b8,132,[.bool (aw ((bc L d b).2).num),uV (lo (ab ((bc L d b).2).num)),.string (hi (ab ((bc L d b).2).num)),uV (lo (qd ((bc L d b).2))),.string (hi (qd ((bc L d b).2))),.bool (aw ((bc L d e).2).num),uV (lo (ab ((bc L d e).2).num)),.string (hi (ab ((bc L d e).2).num)),uV (lo (qd ((bc L d e).2))),.string (hi (qd ((bc L d e).2)))]⟩,⟨y,29,[qF,uV 0,eS,uV 0,eS]⟩,⟨x,32,aI ⟨op,n,q,s,A,2,c⟩⟩] [];refine cN (aa a [.v qF] (af (cW (CG.exit ?_))))
   show CG _ _ _ _ _ _ _ _
   refine aa a [.o (ar ⟨op,n,q,s,A,2,c⟩) 6 0 9,.v (pB b8),.o (qv ((bc L d b).2)) 4 0 5,.v (qP b8 5),.o (qv ((bc L d e).2)) 4 5 5] (am 61 a (qE (⟨op,n,q,s,A,2,c⟩:PTm) ((bc L d b).2) ((bc L d e).2) (z*1000) oM H W hq oM (by show 1<=op/\op<=13/\op≠2;omega) (by show op=8 -> -12<=n/\n<=12;omega) _ _ a.g a.f.1) (fun _ _ a=>lL a [.c,.v (qv (jB op n q ((bc L d b).2) ((bc L d e).2))),.v (.bool (decide (ke op n ((bc L d b).2) ((bc L d e).2))))] (lA 13 29 a1 a (fun Z _ _ a=>lP 0 0 (qc (jB op n q ((bc L d b).2) ((bc L d e).2))) a (fun _ a=>lL a ac (af (aa a ac ?_)))))));cases Y:(!(decide (ke op n ((bc L d b).2) ((bc L d e).2))))
   .
    refine lB 65 Y (lN (cj [(4,pB y),(5,iV 0),(13,pB Z),(65,qF)] ?_));exact cW (cK (aa a [.o (qv (jB op n q ((bc L d b).2) ((bc L d e).2))) 0 0 5] (lP 6 0 (qc (jB op n q ((bc L d b).2) ((bc L d e).2))) a (fun _ a=>lL a ac (ae a [(6,0,5)] (.tuple #[qv (jB op n q ((bc L d b).2) ((bc L d e).2)),iV 0]) (by rw[gK oM,dy oM oM (Ic aM)]))))))
   refine lB 65 Y (lN (cj [(4,pB y),(5,iV 0),(13,pB Z),(65,qT)] ?_));exact cl (aa a [.v ca] (lP 6 0 a1 a (fun _ a=>lL a ac (ae a [(6,0,5)] (.tuple #[.agg #[qF,uV 0,eS,uV 0,eS],iV 6]) (by rw[gK oM,uU oM oM (IY aM)];rfl)))))
  have zg:=a6 F;exact lB 48 F (au (aa a [.v ca,.c] (lP 5 0 a1 a (fun _ a=>lL a ac (ae a [(5,0,5)] (.tuple #[.agg #[qF,uV 0,eS,uV 0,eS],iV ((bc L d e).1)]) (by rw[gK oM,Ha oM oM];rfl))))))
 have zf:=a6 D;exact lB 48 D (au (aa a [.v ca,.c] (lP 3 0 a1 a (fun _ a=>lL a ac (ae a [(3,0,5)] (.tuple #[.agg #[qF,uV 0,eS,uV 0,eS],iV ((bc L d b).1)]) (by rw[gK oM,CT oM];rfl))))))
end Go.Proofs.YtpnchlalmgmkeaaGreatDoor
