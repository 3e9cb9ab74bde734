/- Laws of this claim, part 7. -/
import Derived.Test.YtlidpooijdogdaaGreatDoorQj0
import Derived.Test.YtlidpooijdogdaaGreatDoorQj1
import Derived.Test.YtlidpooijdogdaaGreatDoorQj2
import Derived.Test.YtlidpooijdogdaaGreatDoorQj3
import Derived.Test.YtlidpooijdogdaaGreatDoorQj4
import Derived.Test.YtlidpooijdogdaaGreatDoorQj5
set_option maxRecDepth 100000
set_option maxHeartbeats 4000000
namespace Go.Proofs.YtlidpooijdogdaaGreatDoor
open Bool renaming and_eq_true -> i2, noConfusion -> NJ
open List renaming all_eq_true -> oi, any_eq_true -> sx, cons_append -> Ll, getD_eq_getElem?_getD -> LI, getElem?_eq_getElem -> NG, length_cons -> tv, length_nil -> NN, length_set -> Md, length_take -> Lp, lookup_cons -> hO, mem_cons -> gs, mem_cons_of_mem -> ME, mem_cons_self -> MD, mem_filter -> Ov, mem_iff_getElem -> ul, mem_map -> gg, mem_singleton -> sA, range -> ov, take_length -> yY, toArray -> MR
open Nat renaming add_zero -> yh, le_refl -> ea, le_trans -> eb, lt_or_ge -> cD, lt_succ_iff_lt_or_eq -> NL, not_lt_zero -> NK, pow_le_pow_right -> Lw, strongRecOn -> g4, succ_pos -> Mx, zero_le -> Mv
open Option renaming isNone_iff_eq_none -> Ou
open Go.RowKit
open Go.RowKit Go.Shelf
open Go.RowKit Go.WideMaps
theorem Fw (ok:ByteArray->Prop)(ix:ByteArray->Nat)(fs ws:List Rat)(C:Z9)(f:Nat)(ns:List ByteArray)(H:Z9)(K:Nat)(z:List RT)(D:Z9)(J:Nat)(B:List RT)(l:fs.length=ns.length)(u:ws.length=ns.length)(y:ns.length<=1000)(o:Nat)(a:o+1<=13)(hq:∀ i,LQ 1 (fs.getD i 0))(O:∀ i,LQ 1 (ws.getD i 0))(F:∀ s,ok s->(∃ i,i<ns.length/\ns.getD i ⟨#[]⟩=s)/\∀ k,k<ns.length->ns.getD k ⟨#[]⟩=s->(∀ i,i<k->ns.getD i ⟨#[]⟩≠s)->ix s=k):∀ (d:Nat) (r:RTm) (t:Tm) (w:World) (h:Hp),d<=7->G w h->RmH d h r t->WfT1 ok d t->bI d t<=1000->SlO 1 bB ⟨#[]⟩ h C ns->Sr H z h->RTs h z fs->Sr D B h->RTs h B ws->Calls Tryz.prog 26 #[bJ r,.slice C ns.length f,.slice H z.length K,.slice D B.length J,nV o,.bool false] w (Ret w h (fun v h1=>∃ (A_:Z9)(c_:Nat)(ts_:List RT),v=.tuple #[.slice A_ ts_.length c_,iV (bu ix fs ws (o+1) d t).1]/\ts_.length<=c_/\Sr A_ ts_ h1/\RTs h1 ts_ (bu ix fs ws (o+1) d t).2))
  | 0,_,_,_,_,_,_,x,_,_,_,_,_,_,_=>x.elim
  | d + 1,p,t,w,h,hd,g,x,wf,hw,I,k2,k3,k4,k5=>by
    obtain ⟨op,n,b,Z,S,V,U,X,Q,q,s,A,c,ps,ks,rfl,rfl,hZ,hc,hK,j⟩:=x.open;obtain ⟨w1,w2,w3,w4,w5,w6,W,Y,M⟩:=wf;replace w1:gG op=(ks.length:Nat):=w1;replace W : -12<=n:=W;replace Y:n<=12:=Y;replace M:∀ i,i<ks.length->WfT1 ok d (ks.getD i cZ):=M;have hac:=aE op;have ih:=fun p t w h=>Fw ok ix fs ws C f ns H K z D J B l u y o a hq O F d p t w h oM
    have hb:∀ t,WfT1 ok d t->1<=bI d t/\SzR (4*(2^d*bI d t)-3) (bu ix fs ws (o+1) d t).2:=fun t I=>n4 (Mx o) hq O I
    rcases jM w1 with rfl|⟨t1,rfl⟩|⟨t1,t2,rfl⟩
    . simp only[NN] at w1
      by_cases o1:op=1
      . subst o1
        have e0:ps=[]:=List.eq_nil_of_length_eq_zero j.len;subst e0;exact HE ok ix fs ws C f ns H K z D J B l u y o a d n b Z S V U X Q q s A c w h g hZ I k2 k3 k4 k5
      . obtain rfl:op=2:=by omega
        exact HO ok ix fs ws C f ns H K z D J B l u y o a d n b Z S V U X Q q s A c ps [] (F s (w4 rfl)).2 (F s (w4 rfl)).1 w h g hZ I k2 k3 k4 k5
    . obtain ⟨p1,rfl⟩:=List.length_eq_one_iff.1 (show ps.length=1 from j.len)
      simp only[tv,NN] at w1
      have L:WfT1 ok d t1:=M 0 (Mx _);have g1:bI d t1<=1000:=qQ hw
      have hzg:op=8->n.natAbs*bI d t1<=1000:=fun e8=>by
        have e:bI (d+1) (.mk op n q s [t1])=gL op n*(bI d t1+0):=by rw[jY (show [t1].length≠0 from Nat.succ_ne_zero _)];show _*(0+bI d t1)=_;rw[Nat.zero_add,yh]
        have e2:gL op n=bK n:=by unfold gL;rw[if_neg oM,if_pos e8]
        rw[e,e2,yh] at hw
        refine eb (Nat.mul_le_mul_right _ ?_) hw
        unfold bK;split<;>omega
      exact Hd ok ix fs ws C f ns H K z D J B l u y o a d ih op n b Z S V U X Q q s A c p1 t1 L g1 (hb t1 L) oM oM oM ⟨W,Y⟩ hzg w h g hK (j.at_ 0 (Mx _)) I k2 k3 k4 k5
    . obtain ⟨p1,p2,rfl⟩:=o8 (show ps.length=2 from j.len)
      simp only[tv,NN] at w1
      have L:WfT1 ok d t1:=M 0 (Mx _);have f2:WfT1 ok d t2:=M 1 (by show 1<2;decide);obtain ⟨g1,g2⟩:=pO hw;exact GI ok ix fs ws C f ns H K z D J B l u y o a d ih op n b Z S V U X Q q s A c p1 t1 L g1 (hb t1 L) p2 t2 f2 g2 (hb t2 f2) oM oM oM ⟨W,Y⟩ w h g hK (j.at_ 0 (Mx _)) (j.at_ 1 (by show 1<2;decide)) I k2 k3 k4 k5
def JR (n:Nat):List Value:=[.int .i64 (n:Nat)]
theorem Fz:∀ s,fT s->∀ (w:World) (h:Hp),G w h->Calls Tryz.prog 52 #[.string s] w (Ret w h (fun v _=>∃ b,v=.bool b/\b=dq s)):=fun s c w h g =>
 (Ku s (by unfold fT at c;omega) w h g).mono fun e w' ⟨v,d,a,u,f⟩=>⟨v,d,a,u,_,f,rfl⟩
theorem GX {ok:ByteArray->Prop}{d:Nat}{t:Tm}(h:WfT1 ok d t)(a:d<=12):eP d t<=1000000:=by
 have:=rF h;have:=Lw (show 0<2 by decide) a;have e:(2:Nat)^12=4096:=by decide
 omega
theorem DT {l:List ByteArray}{i:Nat}(h:l.Nodup)(hi:i<l.length):¬l.getD i ⟨#[]⟩∈l.take i:=fun a=>by
 obtain ⟨j,c,e⟩:=ul.1 a;rw[Lp] at c
 rw[List.getElem_take,LI,NG hi] at e
 exact (List.pairwise_iff_getElem.1 h j i oM hi oM) e
theorem DY {l:List ByteArray}(h:∀ i,i<l.length->l.getD i ⟨#[]⟩ ∉ l.take i):l.Nodup:=by
  have key:∀ k,k<=l.length->(l.take k).Nodup:=fun k=>by
    induction k with
    | zero=>intro _;simp
    | succ k ih =>
      intro hk;have e:=h k oM;rw[LI,NG oM] at e
      rw[List.take_add_one,NG oM];refine List.nodup_append.2 ⟨ih oM,by simp,fun a ha b c d=>?_⟩;rw[Option.toList_some,sA] at c
      subst c;subst d;exact e ha
  have:=key l.length (ea _)
  rwa [yY] at this
theorem xV (d:Nat)(p:RTm)(t:Tm)(hd:d<=12)(z:Z9)(u:Nat)(ns:List ByteArray)(W:NsD ns)(hcN:ns.length<=u)(B:Z9)(F:Nat)(I:Nat)(hm0:I<=1000)(H:Nat)(hm1:H<=1000)(y:qn dq d t)(w:World)(h:Hp)(g:G w h)(hT:RmH d h p t)(hN:SlO 1 bB ⟨#[]⟩ h z ns)(hU:SlO 1 JR 0 h B ([I,H]:List Nat)):CR 25 #[bJ p,.slice z ns.length u,.slice B 2 F] w h (fun v _=>∃ e:Int,v=iV e/\DckR d t ns (I=ns.length/\H=ns.length) e):=by
 have a:=((((sS g).add (K:=fun l=>RmH d l p t) hT).aS hN).aS hU);have bl:=W.len;have U:(([I,H]:List Nat):List Nat).length=2:=rfl;have Z:eP d t<=1000000:=GX y.1 hd;refine go Tryz.func25 [(0,bJ p),(1,qS z ns.length u),(2,qS B 2 F)] rfl (aD (lA 3 31 (bE p) a (fun V w2 h3 a=>lL a ac (ah (aa a ac (aZ (cU ?_)))))));refine cN (cQ (aa a [.c,.c,.v (iV 2),.v qT] (ak (cK (cQ (kZ (aa a ax (lX 20 B 2 F 1 0 0 ((a.f.1).ok oM) ?_))))))));refine lH 21 (nV I) a ((a.f.1).el 0 (by rw[U];decide)) (lL a [.c,.v (nV ns.length)] ?_);cases L:((I:Int) != (ns.length:Int))
 .
  have Y:=aW L;refine lB 24 L (ag (cK (kQ (lL a [.c,.v (iV 1),.c] (lD (CL.to [(1,qS z ns.length u),(2,qS B 2 F),(3,pB V),(6,iV 0),(7,iV 1),(12,iV 0),(13,qS B 2 F),(14,iV 2),(15,qT),(18,qS B 2 F),(19,iV 0),(20,.pointer (some ⟨(aB B),aO B+0*1,none⟩)),(21,nV I),(22,qS z ns.length u),(23,nV ns.length),(24,qF),(16,iV 0),(17,iV 1)] ?_))))));replace a:=a.to [⟨V,31,bE p⟩] [];refine cN (cQ (aa a [.c,.c,.v (iV 2),.v qT] (ak (cK (cQ (kZ (aa a ax (lX 20 B 2 F 1 1 1 ((a.f.1).ok oM) ?_))))))));refine lH 21 (nV H) a ((a.f.1).el 1 (by rw[U];decide)) (lL a [.c,.v (nV ns.length)] ?_);cases M:((H:Int) != (ns.length:Int))
  .
   have bb:=aW M;refine lB 24 M (ag (cK (kQ (lL a [.c,.v (iV 2),.c] (lD (CL.to [(1,qS z ns.length u),(2,qS B 2 F),(3,pB V),(6,iV 0),(7,iV 2),(12,iV 1),(13,qS B 2 F),(14,iV 2),(15,qT),(18,qS B 2 F),(19,iV 1),(20,.pointer (some ⟨(aB B),aO B+1*1,none⟩)),(21,nV H),(22,qS z ns.length u),(23,nV ns.length),(24,qF),(16,iV 1),(17,iV 2)] ?_))))));replace a:=a.to [⟨V,31,bE p⟩] [];refine cN (cQ (aa a [.c,.c,.v (iV 2),.v qF] (ag (CG.exit ?_))))
   show CG _ _ _ _ _ _ _ _
   refine cQ (aa a [.c,.v (nV ns.length)] ?_);cases J:(decide ((20:Int)<(ns.length:Int)))
   .
    have bf:=oF J;refine lB 27 J (ag (cK (aa a [.o (bJ p) 0 0 7] (lC 29 a (vv (fun s=>dq s=true) d p t y.1.wf Z _ _ a.g a.f.r.1) ?_))));rintro _ w7 h8 a ⟨X,nc,x,rfl,hnc,hnl,hnS,Q⟩;replace a:=a.aS hnS;refine lL a ac (ah (aa a ac (aZ ?_)));refine bH _ (CG.loop (fun D Γ w_=>∃ (k:Nat)(l:Hp),D=ns.length-k/\Γ=[(1,qS z ns.length u),(8,qS X x.length nc),(9,nV k)]/\SS w h w_ l [⟨V,31,bE p⟩] [] [fun l=>SlO 1 bB ⟨#[]⟩ l X x,fun l=>SlO 1 JR 0 l B ([I,H]:List Nat),fun l=>SlO 1 bB ⟨#[]⟩ l z ns,fun l=>RmH d l p t]/\k<=ns.length/\(∀ i,i<k->dq (ns.getD i ⟨#[]⟩)=true)) _ ⟨0,h8,rfl,rfl,a.to _ _,Mv _,(fun i hi=>absurd hi (NK i))⟩ ?_);rintro _ _ w9 ⟨k,zg,bm,rfl,a,hk,hal⟩;refine cQ (aa a [.c,.c,.v (nV ns.length)] ?_);cases za:(decide ((k:Int)<(ns.length:Int)))
    .
     have zd:=oF za;refine lB 33 za (ag (CG.exit ?_))
     show CG _ _ _ _ _ _ _ _
     refine cQ ?_;have C:∀ i,i<ns.length->dq (ns.getD i ⟨#[]⟩)=true:=fun i hi=>hal i oM
     refine aa a ac (aZ ?_);refine bH _ (CG.loop (fun D Γ w_=>∃ (j:Nat)(l:Hp),D=x.length-j/\Γ=[(1,qS z ns.length u),(8,qS X x.length nc),(10,nV j)]/\SS w h w_ l [⟨V,31,bE p⟩] [] [fun l=>SlO 1 bB ⟨#[]⟩ l X x,fun l=>SlO 1 JR 0 l B ([I,H]:List Nat),fun l=>SlO 1 bB ⟨#[]⟩ l z ns,fun l=>RmH d l p t]/\j<=x.length/\(∀ i,i<j->x.getD i ⟨#[]⟩∈ns)) _ ⟨0,zg,rfl,rfl,a.to _ _,Mv _,(fun i hi=>absurd hi (NK i))⟩ ?_);rintro _ _ _ ⟨j,zi,bz,rfl,a,hj,O⟩;refine cQ (aa a [.c,.c,.v (nV x.length)] ?_);cases zb:(decide ((j:Int)<(x.length:Int)))
     .
      have ze:=oF zb;refine lB 45 zb (ag (CG.exit ?_))
      show CG _ _ _ _ _ _ _ _
      refine cQ ?_;have S:∀ s,fQ d t s->s∈ns:=fun s_ l=>by obtain ⟨i_,hi_,e_⟩:=uE ((Q s_).2 l);rw[<-e_];exact O i_ oM
      refine aa a ac (aZ ?_);refine bH _ (CG.loop (fun D Γ w_=>∃ (i:Nat)(l:Hp),D=ns.length-i/\Γ=[(1,qS z ns.length u),(11,nV i)]/\SS w h w_ l [⟨V,31,bE p⟩] [] [fun l=>SlO 1 bB ⟨#[]⟩ l X x,fun l=>SlO 1 JR 0 l B ([I,H]:List Nat),fun l=>SlO 1 bB ⟨#[]⟩ l z ns,fun l=>RmH d l p t]/\i<=ns.length/\(∀ m,m<i->ns.getD m ⟨#[]⟩ ∉ ns.take m)) _ ⟨0,zi,rfl,rfl,a.to _ _,Mv _,(fun i hi=>absurd hi (NK i))⟩ ?_);rintro _ _ _ ⟨i,_,bn,rfl,a,hi,hdu⟩;refine cQ (aa a [.c,.c,.v (nV ns.length)] ?_);cases zc:(decide ((i:Int)<(ns.length:Int)))
      .
       have zf:=oF zc;refine lB 58 zc (ag (CG.exit ?_))
       show CG _ _ _ _ _ _ _ _
       exact aa a ac (ae a [] (iV 0) (⟨_,rfl,.inr ⟨y,.inr ⟨by omega,.inr ⟨C,.inr ⟨S,.inr ⟨DY (fun m hm=>hdu m oM),rfl⟩⟩⟩⟩⟩⟩))
      have zf:=oT zc;refine lB 58 zc (ak (cK (cQ (kZ (cQ (cR 8 [] mixed a ar ?_))))));refine eV 0 61 (qS z ns.length u) (eV 1 62 (nV i) ?_);have bk:(ns.take i).length=i:=by rw[Lp];omega
      refine eT 2 63 z ns.length u 1 (i:Nat) i ?_;replace a:=a.aS ((a.f.r.1).take i);refine eV 3 64 (qS z ns.length u) (eV 4 65 (nV i) (eX 5 66 z ns.length u 1 (i:Nat) i ((a.f.r.2.1).ok oM) (eH 6 67 (.string (ns.getD i ⟨#[]⟩)) a ((a.f.r.2.1).el i oM) (eC 7 68 a (fun _ _ a=>(by have q_:=tL z u (ns.take i) (ns.getD i ⟨#[]⟩) oM _ _ a.g (a.f.1);rw[bk] at q_;exact q_)) ?_))));rintro _ _ _ _ _ a ⟨bd,rfl,hbd⟩;cases bq:(bd)
      .
       refine bS a (fun _ zj a=>tN (dC (cK (kQ (lL a ac (bv 60 ((i:Nat)+1) (i+1) ?_))))));refine lL a ac (lD ?_);intro a_ ka;replace a:=a.tl;refine ⟨_,_,?_,⟨i+1,zj,rfl,rfl,a.to _ _,oM,(fun m hm=>by rcases NL.1 hm with l|rfl;exact hdu m l;exact fun l=>NJ ((hbd.2 l).symm.trans aM))⟩,ka.to _ kR⟩
       omega
      exact bS a (fun _ _ a=>tN (cn (aa a ac (ae a [] (iV 8) (⟨_,rfl,.inr ⟨y,.inr ⟨by omega,.inr ⟨C,.inr ⟨S,.inl ⟨fun l=>DT l oM (hbd.1 aM),rfl⟩⟩⟩⟩⟩⟩)))))
     have ze:=oT zb;refine lB 45 zb (ak (cK (cQ (kZ (aa a cJ (lX 51 X x.length nc 1 (j:Nat) j ((a.f.1).ok oM) ?_))))));refine lH 52 (.string (x.getD j ⟨#[]⟩)) a ((a.f.1).el j oM) (lC 53 a (tL z u ns (x.getD j ⟨#[]⟩) oM _ _ a.g a.f.r.1) ?_);rintro _ _ zk a ⟨ba,rfl,hba⟩;cases br:(ba)
     .
      exact lL a [.v qT] (ak (aa a ac (ae a [] (iV 11) (⟨_,rfl,.inr ⟨y,.inr ⟨by omega,.inr ⟨C,.inl ⟨fun l=>NJ ((hba.2 (l _ ((Q _).1 (ww oM)))).symm.trans (by first|assumption|exact HV aM)),rfl⟩⟩⟩⟩⟩))))
     refine lL a [.v qF] (ag (cK (kQ (lL a ac (bv 47 ((j:Nat)+1) (j+1) ?_)))));refine lL a ac (lD ?_);intro a_ ka;refine ⟨_,_,?_,⟨j+1,zk,rfl,rfl,a.to _ _,oM,(fun i hi=>by rcases NL.1 hi with l|rfl;exact O i l;exact hba.1 (by first|assumption|exact Db aM))⟩,ka.to _ kR⟩
     omega
    have zd:=oT za;refine lB 33 za (ak (cK (cQ (kZ (aa a ax (lX 38 z ns.length u 1 (k:Nat) k ((a.f.r.1).ok oM) ?_))))));refine lH 39 (.string (ns.getD k ⟨#[]⟩)) a ((a.f.r.1).el k oM) (lC 40 a (Fz (ns.getD k ⟨#[]⟩) (W.small k oM) _ _ a.g) ?_);rintro _ _ zl a ⟨bi,rfl,hbi⟩;cases bt:(bi)
    .
     exact lL a [.v qT] (ak (aa a ac (ae a [] (iV 11) (⟨_,rfl,.inr ⟨y,.inr ⟨by omega,.inl ⟨(fun l=>by have q_:=l k oM;rw[<-hbi] at q_;have q2_:bi=false:=(by first|assumption|exact HV aM);rw[q_] at q2_;cases q2_),rfl⟩⟩⟩⟩))))
    refine lL a [.v qF] (ag (cK (kQ (lL a ac (bv 35 ((k:Nat)+1) (k+1) ?_)))));refine lL a ac (lD ?_);intro a_ ka;refine ⟨_,_,?_,⟨k+1,zl,rfl,rfl,a.to _ _,oM,(fun i hi=>by rcases NL.1 hi with l|rfl;exact hal i l;rw[<-hbi];first|assumption|exact Db aM)⟩,ka.to _ kR⟩
    omega
   have bf:=oT J;refine lB 27 J (ak (aa a ac (lN (kX ?_))))
   exfalso;have:=W.len;omega
  have bb:=aK M;exact lB 24 M (ak (aa a ac (ae a [] (iV 5) (⟨_,rfl,.inr ⟨y,.inl ⟨fun l=>by omega,rfl⟩⟩⟩))))
 have Y:=aK L;exact lB 24 L (ak (aa a ac (ae a [] (iV 5) (⟨_,rfl,.inr ⟨y,.inl ⟨fun l=>by omega,rfl⟩⟩⟩))))
theorem GS (ns:List ByteArray)(s:ByteArray)(c:s∈ns):(∃ i,i<ns.length/\ns.getD i ⟨#[]⟩=s)/\∀ k,k<ns.length->ns.getD k ⟨#[]⟩=s->(∀ i,i<k->ns.getD i ⟨#[]⟩≠s)->dZ ns s=k :=
 ⟨⟨_,oV c⟩,fun k hk e a=>o5 a hk e⟩
theorem Bh (d:Nat)(p:RTm)(t:Tm)(hd:d<=7)(I:Z9)(j:Nat)(ns:List ByteArray)(X:NsD ns)(hcN:ns.length<=j)(fs:List Rat)(FA:Z9)(cF:Nat)(y:List RT)(ws:List Rat)(WA:Z9)(cW:Nat)(z:List RT)(hm:fs.length<=1000)(hmw:ws.length<=1000)(hq:∀ i,LQ 1 (fs.getD i 0))(hqw:∀ i,LQ 1 (ws.getD i 0))(n:Nat)(hn:n<=12)(w:World)(h:Hp)(g:G w h)(hT:RmH d h p t)(hS:SmT1 fT d t)(hN:SlO 1 bB ⟨#[]⟩ h I ns)(hF:Sr FA y h)(hTf:RTs h y fs)(hV:Sr WA z h)(hTw:RTs h z ws):CR 12 #[bJ p,.slice I ns.length j,.slice FA y.length cF,.slice WA z.length cW,nV n] w h (fun v h1=>∃ (e:Int)(A_:Z9)(c_:Nat)(tx:List RT)(L_:List Rat),v=.tuple #[.slice A_ tx.length c_,iV e]/\tx.length<=c_/\Sr A_ tx h1/\RTs h1 tx L_/\DserR d t ns fs ws n e L_):=by
 have a:=(((((((sS g).add (K:=fun h_=>RmH d h_ p t) hT).aS hN).aS hF).aT hTf).aS hV).aT hTw);have bb:=X.len;have O:1<=ns.length/\ns.length<=1000:=⟨by omega,by omega⟩;have bk:=(a.f.r.1).len;have bd:=(a.f.1).len;refine go Tryz.func12 [(0,bJ p),(1,qS I ns.length j),(2,qS FA y.length cF),(3,qS WA z.length cW),(4,nV n)] rfl (aD (lA 5 31 (bE p) a (fun b1 w2 h3 a=>lL a ax (ah (aa a [.o (bJ p) 0 0 7] (lC 14 a (uh dq fT Fz d p t oM _ _ a.g a.f.q.2.1 hS.sm) ?_))))));rintro _ w4 h5 a ⟨ec,rfl,D⟩;cases B:((ec:Int) != (0:Int))
 .
  have Q:=aW B;refine lB 15 B (lL a ax ?_);have ⟨hb7,bl⟩:=dF (p:=(n:Int)<(0:Int)) oM;refine lB 18 hb7 (lL a [.v qF,.c,.c] ?_);have ⟨hb8,bf⟩:=dF (p:=(12:Int)<(n:Int)) oM;refine lB 22 hb8 (lL a [.v qF] (ag (cK (cQ ?_))));have C:qn dq d t:=⟨oz hS (D.1 oM).1,(D.1 oM).2⟩;refine aa a [.o (bJ p) 0 0 7,.c,.c,.v (nV y.length),.c,.v (nV z.length)] (lR 30 3 2 ([nV y.length,nV z.length]) a (fun b9 _ _ a=>?_));replace a:=a.aS (SlO.of_flat (sz:=1) (f:=JR) (d:=0) (b:=b9) (o:=0) (l:=([y.length,z.length]:List Nat)) (fun _=>rfl) a.f.1);refine lC 31 a (xV d p t oM I j ns X hcN (sB b9) 2 y.length oM z.length oM C _ _ a.g a.f.q.r.2.1 a.f.q.r.1 a.f.1) ?_;rintro _ _ _ a ⟨Y,rfl,F⟩;refine lL a ac (aG (lL a ac ?_));cases Z:((Y:Int) != (0:Int))
  .
   have zb:=aW Z;refine lB 33 Z (ag (cK (aa a [.o (bJ p) 0 0 7] ?_)));have u:Y=0:=by omega
   have x:=F.ok u;have V:fs.length=ns.length:=by rw[<-(a.f.q.1).len];exact x.2.1.1
   have L:ws.length=ns.length:=by rw[<-(a.f.r.1).len];exact x.2.1.2
   have W:=BJ x;refine lL a m4 (lC 40 a (Fw (fun s=>s∈ns) (dZ ns) fs ws I j ns FA cF y WA cW z V L O.2 n oM hq hqw (GS ns) d p t _ _ hd a.g a.f.q.r.2.1 W C.2 a.f.q.r.1 a.f.q.2.1 a.f.q.1 a.f.r.2.1 a.f.r.1) ?_);rintro _ _ _ a ⟨U,H,tx,rfl,M,J,S⟩;replace a:=((a.aS J).aT S);exact lL a [.v (qS U tx.length H),.v (iV ((bu (dZ ns) fs ws (n+1) d t).1)),.c,.c] (ae a [] (.tuple #[qS U tx.length H,iV ((bu (dZ ns) fs ws (n+1) d t).1)]) (⟨_,_,_,tx,_,rfl,M,a.f.2.1,a.f.1,⟨0,by have:=F.cg (M':=fs.length=ns.length/\ws.length=ns.length) (by rw[(a.f.q.r.1).len,(a.f.q.1).len]);rw[u] at this;exact this,.inr ⟨rfl,rfl⟩⟩⟩))
  have zb:=aK Z;exact lB 33 Z (ak (aa a cJ (ae a [] (.tuple #[sZ,iV Y]) (⟨_,none,0,[],[],rfl,nR _,SlO.nil,RTs.nil,⟨Y,F.cg (by rw[(a.f.q.1).len,(a.f.r.1).len]),.inl ⟨by omega,rfl,rfl⟩⟩⟩))))
 have Q:=aK B;refine lB 15 B (lL a ac (lG 17 ?_));refine lG 18 (lL a [.v qT,.c] (lG 21 ?_));exact lG 22 (lL a [.v qT] (ak (aa a ax (ae a [] (.tuple #[sZ,iV 1]) (⟨_,none,0,[],[],rfl,nR _,SlO.nil,RTs.nil,⟨1,.inl ⟨fun h_=>by have:=D.2 ⟨h_.1.wf,h_.2⟩;omega,rfl⟩,.inl ⟨by omega,rfl,rfl⟩⟩⟩)))))
theorem Cc (d:Nat)(p:RTm)(t:Tm)(hd:d<=7)(I:Z9)(u:Nat)(ns:List ByteArray)(O:NsD ns)(hcN:ns.length<=u)(fs:List Rat)(Q:Z9)(U:Nat)(C:List RT)(ws:List Rat)(M:Z9)(W:Nat)(D:List RT)(hm:fs.length<=1000)(Y:ws.length<=1000)(hq:∀ i,LQ 1 (fs.getD i 0))(hqw:∀ i,LQ 1 (ws.getD i 0))(z:Int)(hz:z<0\/12<z)(w:World)(h:Hp)(g:G w h)(Z:RmH d h p t)(hS:SmT1 fT d t)(hN:SlO 1 bB ⟨#[]⟩ h I ns)(hF:Sr Q C h)(J:RTs h C fs)(hV:Sr M D h)(F:RTs h D ws):CR 12 #[bJ p,.slice I ns.length u,.slice Q C.length U,.slice M D.length W,iV z] w h (fun v h1=>∃ (A_:Z9)(m_ c_:Nat),v=.tuple #[sZ,iV 1]):=by
 have a:=(((((((sS g).add (K:=fun h_=>RmH d h_ p t) Z).aS hN).aS hF).aT J).aS hV).aT F);have H:=O.len;have S:1<=ns.length/\ns.length<=1000:=⟨by omega,by omega⟩;have V:=(a.f.r.1).len;have L:=(a.f.1).len;refine go Tryz.func12 [(0,bJ p),(1,qS I ns.length u),(2,qS Q C.length U),(3,qS M D.length W),(4,iV z)] rfl (aD (lA 5 31 (bE p) a (fun b1 w2 h3 a=>lL a ax (ah (aa a [.o (bJ p) 0 0 7] (lC 14 a (uh dq fT Fz d p t oM _ _ a.g a.f.q.2.1 hS.sm) ?_))))));rintro _ w4 h5 a ⟨ec,rfl,X⟩;cases l:((ec:Int) != (0:Int))
 .
  have x:=aW l;refine lB 15 l (lL a ax ?_);cases e:(decide ((z:Int)<(0:Int)))
  .
   have B:=oF e;refine lB 18 e (lL a [.v qF,.c,.c] ?_);cases j:(decide ((12:Int)<(z:Int)))
   .
    have y:=oF j;refine lB 22 j (lL a [.v qF] (ag (cK (cQ (aD ?_)))))
    exfalso;omega
   have y:=oT j;exact lB 22 j (lL a [.v qT] (ak (aa a ax (ae a [] (.tuple #[sZ,iV 1]) (⟨none,0,0,rfl⟩)))))
  have B:=oT e;refine lB 18 e (lL a [.v qT,.c] (lG 21 ?_));exact lG 22 (lL a [.v qT] (ak (aa a ax (ae a [] (.tuple #[sZ,iV 1]) (⟨none,0,0,rfl⟩)))))
 have x:=aK l;refine lB 15 l (lL a ac (lG 17 ?_));refine lG 18 (lL a [.v qT,.c] (lG 21 ?_));exact lG 22 (lL a [.v qT] (ak (aa a ax (ae a [] (.tuple #[sZ,iV 1]) (⟨none,0,0,rfl⟩)))))
theorem vF (p:PTm)(j:Z9)(e:Nat)(ns:List ByteArray)(fs ws:List Rat)(o:Z9)(u:Nat)(x:Z9)(l:Nat)(z:Int)(hz:z<0\/12<z)(w:World)(h:Hp)(g:G w h):CV 9 #[bU p,.slice j ns.length e,.slice o fs.length u,.slice x ws.length l,iV z] w h (.tuple #[sZ,iV 1]):=by
 have a:=sS g;refine go Tryz.func9 [(0,bU p),(1,qS j ns.length e),(2,qS o fs.length u),(3,qS x ws.length l),(4,iV z)] rfl (aD (lA 5 52 (dh p) a (fun y w2 B a=>lL a ax (ah (aa a ac ?_)))));cases c:(decide ((z:Int)<(0:Int)))
 .
  have f:=oF c;refine lB 14 c (lL a ax ?_);cases d:(decide ((12:Int)<(z:Int)))
  .
   have i:=oF d;refine lB 17 d (lL a [.v qF] (ag (cK (cQ (aD ?_)))))
   exfalso;omega
  have i:=oT d;exact lB 17 d (lL a [.v qT] (ak (aa a ax (ae a [] (.tuple #[sZ,iV 1]) rfl))))
 have f:=oT c;refine lB 14 c (lL a ac (lG 16 ?_));exact lG 17 (lL a [.v qT] (ak (aa a ax (ae a [] (.tuple #[sZ,iV 1]) rfl))))
section
variable {ix:ByteArray->Nat}{fs ws:List Rat}{m:Nat}
theorem Ei {op n:Int}{x y:Int × List Rat}(h:(vz m op n x y).1≠0):(vz m op n x y).2=[]:=by
 by_cases c1:x.1=0
 ·by_cases c2:y.1=0
  ·by_cases c3:dN op n (x.2.getD 0 0) (y.2.getD 0 0)=0
   ·rw[kK c1 c2 c3] at h;exact absurd rfl h
   ·rw[kP c1 c2 c3]
  ·rw[qM c1 c2]
 ·rw[jL c1]
theorem CE:∀ {d:Nat} {t:Tm},(bu ix fs ws m d t).1≠0->(bu ix fs ws m d t).2=[]
  | 0,_,_=>rfl
  | d + 1,t,h=>by
    unfold bu at h ⊢
    split
    . rename_i k;rw[if_pos k] at h;exact absurd rfl h
    . rename_i k;rw[if_neg k] at h
      split
      . rename_i k2;rw[if_pos k2] at h;exact absurd rfl h
      . rename_i k2;rw[if_neg k2] at h;exact Ei h
end
theorem KC (b:Bool)(j:Z9)(d c:Nat)(e:Z9)(a i:Nat)(w:World)(h:Hp)(g:G w h):CV 34 #[.agg #[.bool b,.slice j d c,.slice e a i]] w h (bJ ⟨1,0,b,j,d,c,e,a,i,⟨#[]⟩,none,0,0⟩):=by
 have f:=sS g;exact go Tryz.func34 [(0,.agg #[.bool b,qS j d c,qS e a i])] rfl (aD (lA 1 28 ([.bool b,qS j d c,qS e a i]) f (fun u w2 x f=>lA 2 31 (bE ⟨0,0,false,none,0,0,none,0,0,⟨#[]⟩,none,0,0⟩) f (fun z p l f=>aG (lL f [.o (.agg #[.bool b,qS j d c,qS e a i]) 1 0 3,.v (bJ ⟨1,0,b,j,d,c,e,a,i,⟨#[]⟩,none,0,0⟩)] (lP 0 0 (bE ⟨1,0,b,j,d,c,e,a,i,⟨#[]⟩,none,0,0⟩) f (fun y f=>ae f [(0,0,7)] (bJ ⟨1,0,b,j,d,c,e,a,i,⟨#[]⟩,none,0,0⟩) rfl)))))))
theorem JE (op:Int)(a rb:RTm)(w:World)(h:Hp)(g:G w h):CR 37 #[iV op,bJ a,bJ rb] w h (fun v h1=>∃ b,v=bJ ⟨op,0,false,none,0,0,none,0,0,⟨#[]⟩,sB b,2,2⟩/\SlO 7 bE bT h1 (sB b) [a,rb]):=by
 have e:=sS g;refine go Tryz.func37 [(0,iV op),(1,bJ a),(2,bJ rb)] rfl (aD (lA 4 31 (bE a) e (fun p w2 u e=>lA 5 31 (bE rb) e (fun y B j e=>lA 6 31 (bE ⟨0,0,false,none,0,0,none,0,0,⟨#[]⟩,none,0,0⟩) e (fun z C x e=>aG (lL e [.c,.o (bJ a) 2 0 7,.o (bJ rb) 1 0 7] (lR 10 31 2 ([iV a.op,iV a.n,.bool a.neg,qS a.zA a.zn a.zc,qS a.dA a.dn a.dc,.string a.s,qS a.A a.m a.c,iV rb.op,iV rb.n,.bool rb.neg,qS rb.zA rb.zn rb.zc,qS rb.dA rb.dn rb.dc,.string rb.s,qS rb.A rb.m rb.c]) e (fun i _ _ e=>?_))))))));replace e:=e.aS (SlO.of_flat (sz:=7) (f:=bE) (d:=bT) (b:=i) (o:=0) (l:=([(⟨a.op,a.n,a.neg,a.zA,a.zn,a.zc,a.dA,a.dn,a.dc,a.s,a.A,a.m,a.c⟩:RTm),(⟨rb.op,rb.n,rb.neg,rb.zA,rb.zn,rb.zc,rb.dA,rb.dn,rb.dc,rb.s,rb.A,rb.m,rb.c⟩:RTm)]:List RTm)) (fun _=>rfl) e.f.1);exact lL e [.v (bJ ⟨op,0,false,none,0,0,none,0,0,⟨#[]⟩,sB i,2,2⟩)] (lP 0 0 (bE ⟨op,0,false,none,0,0,none,0,0,⟨#[]⟩,sB i,2,2⟩) e (fun _ e=>ae e [(0,0,7)] (bJ ⟨op,0,false,none,0,0,none,0,0,⟨#[]⟩,sB i,2,2⟩) (⟨_,rfl,e.f.1⟩)))
theorem AI  (w:World)(h:Hp)(g:G w h):CR 19 #[] w h (fun v h1=>∃ b,v=.slice (sB b) 3 3/\SlO 1 bB ⟨#[]⟩ h1 (sB b) cA):=by
 have a:=sS g;refine go Tryz.func19 [] rfl (aa a ac (aG (lR 1 9 3 ([.string (⟨#[120]⟩),.string (⟨#[121]⟩),.string (⟨#[122]⟩)]) a (fun c w2 e a=>?_))));replace a:=a.aS (SlO.of_flat (sz:=1) (f:=bB) (d:=⟨#[]⟩) (b:=c) (o:=0) (l:=cA) (fun _=>rfl) a.f.1);exact lL a ac (ae a [] (qS (sB c) 3 3) (⟨_,rfl,a.f.1⟩))
theorem II (op:Int)(a:RTm)(w:World)(h:Hp)(g:G w h):CR 38 #[iV op,bJ a] w h (fun v h1=>∃ b,v=bJ ⟨op,0,false,none,0,0,none,0,0,⟨#[]⟩,sB b,1,1⟩/\SlO 7 bE bT h1 (sB b) [a]):=by
 have e:=sS g;refine go Tryz.func38 [(0,iV op),(1,bJ a)] rfl (aD (lA 3 31 (bE a) e (fun p w2 u e=>lA 4 31 (bE ⟨0,0,false,none,0,0,none,0,0,⟨#[]⟩,none,0,0⟩) e (fun B z j e=>aG (lL e [.c,.o (bJ a) 1 0 7] (lR 7 31 1 ([iV a.op,iV a.n,.bool a.neg,qS a.zA a.zn a.zc,qS a.dA a.dn a.dc,.string a.s,qS a.A a.m a.c]) e (fun i y x e=>?_)))))));replace e:=e.aS (SlO.of_flat (sz:=7) (f:=bE) (d:=bT) (b:=i) (o:=0) (l:=([(⟨a.op,a.n,a.neg,a.zA,a.zn,a.zc,a.dA,a.dn,a.dc,a.s,a.A,a.m,a.c⟩:RTm)]:List RTm)) (fun _=>rfl) e.f.1);exact lL e [.v (bJ ⟨op,0,false,none,0,0,none,0,0,⟨#[]⟩,sB i,1,1⟩)] (lP 0 0 (bE ⟨op,0,false,none,0,0,none,0,0,⟨#[]⟩,sB i,1,1⟩) e (fun _ e=>ae e [(0,0,7)] (bJ ⟨op,0,false,none,0,0,none,0,0,⟨#[]⟩,sB i,1,1⟩) (⟨_,rfl,e.f.1⟩)))
theorem Jh (a:RTm)(i:Int)(w:World)(h:Hp)(g:G w h):CR 17 #[bJ a,iV i] w h (fun v h1=>∃ b,v=bJ ⟨8,i,false,none,0,0,none,0,0,⟨#[]⟩,sB b,1,1⟩/\SlO 7 bE bT h1 (sB b) [a]):=by
 have e:=sS g;refine go Tryz.func17 [(0,bJ a),(1,iV i)] rfl (aD (lA 2 31 (bE a) e (fun u w2 x e=>lA 4 31 (bE ⟨0,0,false,none,0,0,none,0,0,⟨#[]⟩,none,0,0⟩) e (fun C B p e=>aG (lL e [.c,.o (bJ a) 1 0 7] (lR 7 31 1 ([iV a.op,iV a.n,.bool a.neg,qS a.zA a.zn a.zc,qS a.dA a.dn a.dc,.string a.s,qS a.A a.m a.c]) e (fun j z y e=>?_)))))));replace e:=e.aS (SlO.of_flat (sz:=7) (f:=bE) (d:=bT) (b:=j) (o:=0) (l:=([(⟨a.op,a.n,a.neg,a.zA,a.zn,a.zc,a.dA,a.dn,a.dc,a.s,a.A,a.m,a.c⟩:RTm)]:List RTm)) (fun _=>rfl) e.f.1);exact lL e [.v (bJ ⟨8,i,false,none,0,0,none,0,0,⟨#[]⟩,sB j,1,1⟩)] (lP 0 0 (bE ⟨8,i,false,none,0,0,none,0,0,⟨#[]⟩,sB j,1,1⟩) e (fun _ e=>ae e [(0,0,7)] (bJ ⟨8,i,false,none,0,0,none,0,0,⟨#[]⟩,sB j,1,1⟩) (⟨_,rfl,e.f.1⟩)))
section
variable {d:Nat}
theorem Iv (b:Bool)(l:Z9)(c i:Nat)(f:Z9)(j a:Nat){q:Rat}(w:World)(h:Hp)(g:G w h)(hz:RZ h (b,.slice l c i,.slice f j a) q):CR 34 #[.agg #[.bool b,.slice l c i,.slice f j a]] w h (fun v h1=>∃ r,v=bJ r/\RmH (d+1) h1 r (.mk 1 0 q ⟨#[]⟩ [])) :=
 (KC b l c i f j a w h g).mono fun e w' ⟨v,o,x,u,p⟩=>⟨v,o,x,u,_,p,G2 (hz.gw u.gr.gw)⟩
theorem ol (op:Int)(a rb:RTm)(t u:Tm)(w:World)(h:Hp)(g:G w h)(x:RmH d h a t)(y:RmH d h rb u):CR 37 #[iV op,bJ a,bJ rb] w h (fun v h1=>∃ r,v=bJ r/\RmH (d+1) h1 r (.mk op 0 0 ⟨#[]⟩ [t,u])) :=
 (JE op a rb w h g).mono fun e w' ⟨v,c,i,up,b,f,j⟩=>⟨v,c,i,up,_,f,F4 (x.gw up.gr.gw) (y.gw up.gr.gw) j⟩
theorem tU (op:Int)(a:RTm)(t:Tm)(w:World)(h:Hp)(g:G w h)(x:RmH d h a t):CR 38 #[iV op,bJ a] w h (fun v h1=>∃ r,v=bJ r/\RmH (d+1) h1 r (.mk op 0 0 ⟨#[]⟩ [t])) :=
 (II op a w h g).mono fun e w' ⟨v,i,c,up,b,j,f⟩=>⟨v,i,c,up,_,j,BP (x.gw up.gr.gw) f⟩
theorem ud (a:RTm)(t:Tm)(c:Int)(w:World)(h:Hp)(g:G w h)(x:RmH d h a t):CR 17 #[bJ a,iV c] w h (fun v h1=>∃ r,v=bJ r/\RmH (d+1) h1 r (.mk 8 c 0 ⟨#[]⟩ [t])) :=
 (Jh a c w h g).mono fun e w' ⟨v,j,f,up,b,l,i⟩=>⟨v,j,f,up,_,l,BP (x.gw up.gr.gw) i⟩
end
theorem xu (i:Nat)(A:Z9)(x:Nat)(y:List Int)(hl:y.length<=9223372036854775807)(hz:nu y)(l:Nat)(hdp:l<=1000)(W:∀ z:Int,z+1=(l:Nat)->0<=z->∀ at_:Nat,at_<=y.length->∀ (w:World) (h:Hp),G w h->Own w i 66 [.slice A y.length x,nV at_]->h[i]?=some bg->Si A y h->Calls Tryz.prog 18 #[pB i,iV z,.bool false] w (fd i w h (fun v w' h'=>∃ (r:RTm)(t:Tm)(at2:Nat),v=bJ r/\at2<=y.length/\Own w' i 66 [.slice A y.length x,nV at2]/\RmH l h' r t/\GrT l t)))(at_:Nat)(ha:at_<=y.length)(w:World)(h:Hp)(g:G w h)(ho:Own w i 66 [.slice A y.length x,nV at_])(hj:h[i]?=some bg)(hA:Si A y h):Calls Tryz.prog 18 #[pB i,nV l,.bool false] w (fd i w h (fun v w' h'=>∃ (r:RTm)(t:Tm)(at2:Nat),v=bJ r/\at2<=y.length/\Own w' i 66 [.slice A y.length x,nV at2]/\RmH (l+1) h' r t/\GrT (l+1) t)):=by
 have e:UpM [i] w h w h:=UpM.refl g;obtain ⟨wz,rd,a⟩:=SS.at_ g ho hj;replace a:=a.aS hA;refine go Tryz.func18 [(0,pB i),(1,nV l),(2,qF)] rfl (aD (JT 6 31 (bE ⟨0,0,false,none,0,0,none,0,0,⟨#[]⟩,none,0,0⟩) a (fun C w2 h3 u4 j a=>?_)));replace j:=eb e.gr.size j;replace e:=e.trans (u4.m _);refine aG (lL a ac (gk 11 (xx A x y hl hz i at_ oM _ _ a.g (a.own 1) (a.jk 1) a.f.1) ?_));rintro _ w6 h7 u8 ⟨F,u,rfl,sr,m0,rk⟩;replace a:=(a.stepM 1 u8 rk).to [⟨C,31,bE ⟨0,0,false,none,0,0,none,0,0,⟨#[]⟩,none,0,0⟩⟩,⟨i,66,[qS A y.length x,nV u]⟩] [];replace e:=e.trans u8;have r9:=m0.1;have r6:=m0.2;refine kL 12 (eA (F) 19 oM oM _ _ a.g) ?_;rintro _ _ zr u12 rfl;replace e:=e.trans (u12.m _);replace a:=a.step u12;have lp9:=ct (F) 19 oM;refine lL a ac (ah (aa a ax (lG 15 ?_)));refine lG 16 ?_;refine lL a [.v qF] (ag (cK (cQ (kZ (CG.join (fun Γ w_=>∃ (zq:Bool)(o:Hp),Γ=[(0,pB i),(1,nV l),(2,qF),(6,pB C),(7,nV (aN (F) 19)),(20,.bool zq)]/\SS wz rd w_ o [⟨C,31,bE ⟨0,0,false,none,0,0,none,0,0,⟨#[]⟩,none,0,0⟩⟩,⟨i,66,[qS A y.length x,nV u]⟩] [] [Si A y]/\(zq=true->¬(1<=l/\2<=(aN (F) 19)/\(aN (F) 19)<17))/\(zq=false->(1<=l/\2<=(aN (F) 19)/\(aN (F) 19)<17))/\UpM [i] w h w_ o) ?_ ?_)))))
 .
  refine kQ (lL a ac ?_);cases zb:(decide ((l:Int)<(1:Int)))
  .
   have zu:=oF zb;refine lB 22 zb (lL a ax ?_);cases zc:(decide (((aN (F) 19:Nat):Int)<(2:Int)))
   .
    have zv:=oF zc;refine lB 25 zc (lL a [.v qF,.c,.c] ?_);cases zd:(decide ((17:Int)<=((aN (F) 19:Nat):Int)))
    .
     have zw:=oF zd;refine lB 29 zd (lL a [.v qF,.c] (lD ?_));intro a_ ka;exact ⟨_,⟨false,zr,rfl,a.to _ _,(fun o=>absurd o kD),(fun _=>by omega),e⟩,ka.to _ kR⟩
    have zw:=oT zd;refine lB 29 zd (lL a [.v qT,.c] (lD ?_));intro a_ ka;exact ⟨_,⟨true,zr,rfl,a.to _ _,(fun _=>by omega),(fun o=>absurd o kD),e⟩,ka.to _ kR⟩
   have zv:=oT zc;refine lB 25 zc (lL a [.v qT,.c] (lG 28 ?_));refine lG 29 (lL a [.v qT,.c] (lD ?_));intro a_ ka;exact ⟨_,⟨true,zr,rfl,a.to _ _,(fun _=>by omega),(fun o=>absurd o kD),e⟩,ka.to _ kR⟩
  have zu:=oT zb;refine lB 22 zb (lL a ac (lG 24 ?_));refine lG 25 (lL a [.v qT,.c] (lG 28 ?_));refine lG 29 (lL a [.v qT,.c] (lD ?_));intro a_ ka;exact ⟨_,⟨true,zr,rfl,a.to _ _,(fun _=>by omega),(fun o=>absurd o kD),e⟩,ka.to _ kR⟩
 rintro _ _ ⟨zq,_,rfl,a,sj,rc,e⟩;cases ze:(zq)
 .
  try rw[ze] at a
  try rw[ze]
  refine dC (aD ?_);have r3:=rc aM;refine lL a ac ?_;cases zf:(decide (((aN (F) 19:Nat):Int)<(4:Int)))
  .
   have zx:=oF zf;refine lB 49 zf (lL a ac (ag (aa a ac ?_)));cases zg:(decide (((aN (F) 19:Nat):Int)<(5:Int)))
   .
    have zA:=oF zg;refine lB 63 zg (lL a ac (ag (aa a ac ?_)));cases zi:(decide (((aN (F) 19:Nat):Int)<(7:Int)))
    .
     have zB:=oF zi;refine lB 77 zi (lL a ac (ag (aa a ac ?_)));cases zj:(decide (((aN (F) 19:Nat):Int)<(8:Int)))
     .
      have zD:=oF zj;refine lB 91 zj (lL a ac (ag (aa a ac ?_)));cases zk:(decide (((aN (F) 19:Nat):Int)<(9:Int)))
      .
       have zE:=oF zk;refine lB 100 zk (lL a ac (ag (aa a ac ?_)));cases zl:(decide (((aN (F) 19:Nat):Int)<(11:Int)))
       .
        have zG:=oF zl;refine lB 117 zl (lL a ac (ag (aa a ac ?_)));cases zm:(decide (((aN (F) 19:Nat):Int)<(12:Int)))
        .
         have zH:=oF zm;refine lB 131 zm (lL a ac (ag (aa a ac ?_)));cases zn:(decide (((aN (F) 19:Nat):Int)<(13:Int)))
         .
          have zI:=oF zn;refine lB 140 zn (lL a ac (ag (aa a ac ?_)));cases zo:(decide (((aN (F) 19:Nat):Int)<(15:Int)))
          .
           have zJ:=oF zo;refine lB 149 zo (lL a ac (ag (aa a ac ?_)));cases zp:(decide (((aN (F) 19:Nat):Int)<(16:Int)))
           .
            have zK:=oF zp;refine lB 158 zp (lL a ac (ag (cK (aa a ax (lI 172 ((l:Nat)-1) ?_)))));refine lL a ac (gk 174 (W ((l:Nat)-1) oM oM u oM _ _ a.g (a.own 1) (a.jk 1) a.f.1) ?_);rintro _ _ _ u44 ⟨lx,c8,b5,rfl,sc,q6,ny,p4⟩;replace a:=(a.stepM 1 u44 q6).to [⟨C,31,bE ⟨0,0,false,none,0,0,none,0,0,⟨#[]⟩,none,0,0⟩⟩,⟨i,66,[qS A y.length x,nV b5]⟩] [];replace e:=e.trans u44;replace a:=(a.add (K:=fun o=>RmH l o lx c8) ny);refine lL a ax (lI 177 ((l:Nat)-1) ?_);refine lL a ac (gk 179 (W ((l:Nat)-1) oM oM b5 oM _ _ a.g (a.own 1) (a.jk 1) a.f.2.1) ?_);rintro _ _ _ u48 ⟨mv,c4,b3,rfl,q1,pw,q8,nn⟩;replace a:=(a.stepM 1 u48 pw).to [⟨C,31,bE ⟨0,0,false,none,0,0,none,0,0,⟨#[]⟩,none,0,0⟩⟩,⟨i,66,[qS A y.length x,nV b3]⟩] [];replace e:=e.trans u48;replace a:=(a.add (K:=fun o=>RmH l o mv c4) q8);refine kL 180 (ol 13 lx mv c8 c4 _ _ a.g a.f.2.1 a.f.1) ?_;rintro _ _ _ u52 ⟨r49,rfl,pc⟩;replace e:=e.trans (u52.m _);replace a:=a.step u52;replace a:=(a.add (K:=fun o=>RmH (l+1) o r49 (.mk 13 0 0 ⟨#[]⟩ [c8,c4])) pc);refine nI 0 0 (bE r49) a (fun _ B a=>?_);replace e:=e.put2 B j g a.g;refine lN (bH [(6,pB C)] ?_);exact kX (a.retM e [(0,0,7)] (bJ r49) ⟨_,_,b3,rfl,q1,a.own 1,a.f.1,p4.two nn rfl⟩)
           have zK:=oT zp;refine lB 158 zp (lL a ac (ak (aa a ax (lI 161 ((l:Nat)-1) ?_))));refine lL a ac (gk 163 (W ((l:Nat)-1) oM oM u oM _ _ a.g (a.own 1) (a.jk 1) a.f.1) ?_);rintro _ _ _ u57 ⟨ly,c9,b4,rfl,r4,qq,n1,nm⟩;replace a:=(a.stepM 1 u57 qq).to [⟨C,31,bE ⟨0,0,false,none,0,0,none,0,0,⟨#[]⟩,none,0,0⟩⟩,⟨i,66,[qS A y.length x,nV b4]⟩] [];replace e:=e.trans u57;replace a:=(a.add (K:=fun o=>RmH l o ly c9) n1);refine lL a ax (lI 166 ((l:Nat)-1) ?_);refine lL a ac (gk 168 (W ((l:Nat)-1) oM oM b4 oM _ _ a.g (a.own 1) (a.jk 1) a.f.2.1) ?_);rintro _ _ _ u61 ⟨l0,cy,bq,rfl,nd,q2,q7,q0⟩;replace a:=(a.stepM 1 u61 q2).to [⟨C,31,bE ⟨0,0,false,none,0,0,none,0,0,⟨#[]⟩,none,0,0⟩⟩,⟨i,66,[qS A y.length x,nV bq]⟩] [];replace e:=e.trans u61;replace a:=(a.add (K:=fun o=>RmH l o l0 cy) q7);refine kL 169 (ol 12 ly l0 c9 cy _ _ a.g a.f.2.1 a.f.1) ?_;rintro _ _ _ u65 ⟨r62,rfl,p0⟩;replace e:=e.trans (u65.m _);replace a:=a.step u65;replace a:=(a.add (K:=fun o=>RmH (l+1) o r62 (.mk 12 0 0 ⟨#[]⟩ [c9,cy])) p0);refine nI 0 0 (bE r62) a (fun _ B a=>?_);replace e:=e.put2 B j g a.g;refine lN (bH [(0,pB i),(1,nV l),(2,qF),(6,pB C)] ?_);exact kX (a.retM e [(0,0,7)] (bJ r62) ⟨_,_,bq,rfl,nd,a.own 1,a.f.1,nm.two q0 rfl⟩)
          have zJ:=oT zo;refine lB 149 zo (lL a ac (ak (aa a ax (lI 152 ((l:Nat)-1) ?_))));refine lL a ac (gk 154 (W ((l:Nat)-1) oM oM u oM _ _ a.g (a.own 1) (a.jk 1) a.f.1) ?_);rintro _ _ _ u70 ⟨mj,dc,b0,rfl,ql,n2,pk,q4⟩;replace a:=(a.stepM 1 u70 n2).to [⟨C,31,bE ⟨0,0,false,none,0,0,none,0,0,⟨#[]⟩,none,0,0⟩⟩,⟨i,66,[qS A y.length x,nV b0]⟩] [];replace e:=e.trans u70;replace a:=(a.add (K:=fun o=>RmH l o mj dc) pk);refine kL 155 (tU 11 mj dc _ _ a.g a.f.1) ?_;rintro _ _ _ u74 ⟨r71,rfl,nx⟩;replace e:=e.trans (u74.m _);replace a:=a.step u74;replace a:=(a.add (K:=fun o=>RmH (l+1) o r71 (.mk 11 0 0 ⟨#[]⟩ [dc])) nx);refine nI 0 0 (bE r71) a (fun _ B a=>?_);replace e:=e.put2 B j g a.g;exact lN (kX (a.retM e [(0,0,7)] (bJ r71) ⟨_,_,b0,rfl,ql,a.own 1,a.f.1,q4.one rfl (fun _=>rfl) kD kD⟩))
         have zI:=oT zn;refine lB 140 zn (lL a ac (ak (aa a ax (lI 143 ((l:Nat)-1) ?_))));refine lL a ac (gk 145 (W ((l:Nat)-1) oM oM u oM _ _ a.g (a.own 1) (a.jk 1) a.f.1) ?_);rintro _ _ _ u79 ⟨l4,cp,bm,rfl,p2,p6,nj,q5⟩;replace a:=(a.stepM 1 u79 p6).to [⟨C,31,bE ⟨0,0,false,none,0,0,none,0,0,⟨#[]⟩,none,0,0⟩⟩,⟨i,66,[qS A y.length x,nV bm]⟩] [];replace e:=e.trans u79;replace a:=(a.add (K:=fun o=>RmH l o l4 cp) nj);refine kL 146 (tU 10 l4 cp _ _ a.g a.f.1) ?_;rintro _ _ _ u83 ⟨r80,rfl,pl⟩;replace e:=e.trans (u83.m _);replace a:=a.step u83;replace a:=(a.add (K:=fun o=>RmH (l+1) o r80 (.mk 10 0 0 ⟨#[]⟩ [cp])) pl);refine nI 0 0 (bE r80) a (fun _ B a=>?_);replace e:=e.put2 B j g a.g;exact lN (kX (a.retM e [(0,0,7)] (bJ r80) ⟨_,_,bm,rfl,p2,a.own 1,a.f.1,q5.one rfl (fun _=>rfl) kD kD⟩))
        have zH:=oT zm;refine lB 131 zm (lL a ac (ak (aa a ax (lI 134 ((l:Nat)-1) ?_))));refine lL a ac (gk 136 (W ((l:Nat)-1) oM oM u oM _ _ a.g (a.own 1) (a.jk 1) a.f.1) ?_);rintro _ _ _ u88 ⟨my,b7,b6,rfl,p3,p5,pv,q3⟩;replace a:=(a.stepM 1 u88 p5).to [⟨C,31,bE ⟨0,0,false,none,0,0,none,0,0,⟨#[]⟩,none,0,0⟩⟩,⟨i,66,[qS A y.length x,nV b6]⟩] [];replace e:=e.trans u88;replace a:=(a.add (K:=fun o=>RmH l o my b7) pv);refine kL 137 (tU 9 my b7 _ _ a.g a.f.1) ?_;rintro _ _ _ u92 ⟨r89,rfl,n6⟩;replace e:=e.trans (u92.m _);replace a:=a.step u92;replace a:=(a.add (K:=fun o=>RmH (l+1) o r89 (.mk 9 0 0 ⟨#[]⟩ [b7])) n6);refine nI 0 0 (bE r89) a (fun _ B a=>?_);replace e:=e.put2 B j g a.g;exact lN (kX (a.retM e [(0,0,7)] (bJ r89) ⟨_,_,b6,rfl,p3,a.own 1,a.f.1,q3.one rfl (fun _=>rfl) kD kD⟩))
       have zG:=oT zl;refine lB 117 zl (lL a ac (ak (aa a ax (lI 120 ((l:Nat)-1) ?_))));refine lL a ac (gk 122 (W ((l:Nat)-1) oM oM u oM _ _ a.g (a.own 1) (a.jk 1) a.f.1) ?_);rintro _ _ _ u97 ⟨k1,b9,bn,rfl,r7,qs,n7,p7⟩;replace a:=(a.stepM 1 u97 qs).to [⟨C,31,bE ⟨0,0,false,none,0,0,none,0,0,⟨#[]⟩,none,0,0⟩⟩,⟨i,66,[qS A y.length x,nV bn]⟩] [];replace e:=e.trans u97;replace a:=(a.add (K:=fun o=>RmH l o k1 b9) n7);refine lL a ax (lI 125 ((l:Nat)-1) ?_);refine lL a ac (gk 127 (W ((l:Nat)-1) oM oM bn oM _ _ a.g (a.own 1) (a.jk 1) a.f.2.1) ?_);rintro _ _ _ h8 ⟨h9,cr,bt,rfl,m3,p1,pb,p8⟩;replace a:=(a.stepM 1 h8 p1).to [⟨C,31,bE ⟨0,0,false,none,0,0,none,0,0,⟨#[]⟩,none,0,0⟩⟩,⟨i,66,[qS A y.length x,nV bt]⟩] [];replace e:=e.trans h8;replace a:=(a.add (K:=fun o=>RmH l o h9 cr) pb);refine kL 128 (ol 6 k1 h9 b9 cr _ _ a.g a.f.2.1 a.f.1) ?_;rintro _ _ _ j1 ⟨cj,rfl,hp⟩;replace e:=e.trans (j1.m _);replace a:=a.step j1;replace a:=(a.add (K:=fun o=>RmH (l+1) o cj (.mk 6 0 0 ⟨#[]⟩ [b9,cr])) hp);refine nI 0 0 (bE cj) a (fun _ B a=>?_);replace e:=e.put2 B j g a.g;exact lN (kX (a.retM e [(0,0,7)] (bJ cj) ⟨_,_,bt,rfl,m3,a.own 1,a.f.1,p7.two p8 rfl⟩))
      have zE:=oT zk;refine lB 100 zk (lL a ac (ak (aa a ac (gk 102 (xx A x y hl hz i u oM _ _ a.g (a.own 1) (a.jk 1) a.f.1) ?_))));rintro _ _ _ h6 ⟨U,S,rfl,rl,bz,hy⟩;replace a:=(a.stepM 1 h6 hy).to [⟨C,31,bE ⟨0,0,false,none,0,0,none,0,0,⟨#[]⟩,none,0,0⟩⟩,⟨i,66,[qS A y.length x,nV S]⟩] [];replace e:=e.trans h6;have rf:=bz.1;have rh:=bz.2;refine kL 103 (eA (U) 6 oM oM _ _ a.g) ?_;rintro _ _ _ mw rfl;replace e:=e.trans (mw.m _);replace a:=a.step mw;have r8:=ct (U) 6 oM;refine lI 104 ((aN (U) 6:Nat)-2) (lL a ac (ah (aa a ac (ag (cK (aa a ax (lI 110 ((l:Nat)-1) ?_)))))));refine lL a ac (gk 112 (W ((l:Nat)-1) oM oM S oM _ _ a.g (a.own 1) (a.jk 1) a.f.1) ?_);rintro _ _ _ kn ⟨ch,bl,M,rfl,hd,hc,d7,d8⟩;replace a:=(a.stepM 1 kn hc).to [⟨C,31,bE ⟨0,0,false,none,0,0,none,0,0,⟨#[]⟩,none,0,0⟩⟩,⟨i,66,[qS A y.length x,nV M]⟩] [];replace e:=e.trans kn;replace a:=(a.add (K:=fun o=>RmH l o ch bl) d7);refine lL a ac (kL 114 (ud ch bl ((aN (U) 6:Nat)-2) _ _ a.g a.f.1) ?_);rintro _ _ _ kq ⟨cd,rfl,h2⟩;replace e:=e.trans (kq.m _);replace a:=a.step kq;replace a:=(a.add (K:=fun o=>RmH (l+1) o cd (.mk 8 ((aN (U) 6:Nat)-2) 0 ⟨#[]⟩ [bl])) h2);refine nI 0 0 (bE cd) a (fun _ B a=>?_);replace e:=e.put2 B j g a.g;exact lN (kX (a.retM e [(0,0,7)] (bJ cd) ⟨_,_,M,rfl,hd,a.own 1,a.f.1,d8.one rfl (fun o=>absurd rfl o) oM oM⟩))
     have zD:=oT zj;refine lB 91 zj (lL a ac (ak (aa a ax (lI 94 ((l:Nat)-1) ?_))));refine lL a ac (gk 96 (W ((l:Nat)-1) oM oM u oM _ _ a.g (a.own 1) (a.jk 1) a.f.1) ?_);rintro _ _ _ k4 ⟨cm,bb,J,rfl,hb,hw,d2,f1⟩;replace a:=(a.stepM 1 k4 hw).to [⟨C,31,bE ⟨0,0,false,none,0,0,none,0,0,⟨#[]⟩,none,0,0⟩⟩,⟨i,66,[qS A y.length x,nV J]⟩] [];replace e:=e.trans k4;replace a:=(a.add (K:=fun o=>RmH l o cm bb) d2);refine kL 97 (tU 7 cm bb _ _ a.g a.f.1) ?_;rintro _ _ _ mx ⟨cf,rfl,f7⟩;replace e:=e.trans (mx.m _);replace a:=a.step mx;replace a:=(a.add (K:=fun o=>RmH (l+1) o cf (.mk 7 0 0 ⟨#[]⟩ [bb])) f7);refine nI 0 0 (bE cf) a (fun _ B a=>?_);replace e:=e.put2 B j g a.g;exact lN (kX (a.retM e [(0,0,7)] (bJ cf) ⟨_,_,J,rfl,hb,a.own 1,a.f.1,f1.one rfl (fun _=>rfl) kD kD⟩))
    have zB:=oT zi;refine lB 77 zi (lL a ac (ak (aa a ax (lI 80 ((l:Nat)-1) ?_))));refine lL a ac (gk 82 (W ((l:Nat)-1) oM oM u oM _ _ a.g (a.own 1) (a.jk 1) a.f.1) ?_);rintro _ _ _ kx ⟨df,bd,L,rfl,rs,f2,ht,dx⟩;replace a:=(a.stepM 1 kx f2).to [⟨C,31,bE ⟨0,0,false,none,0,0,none,0,0,⟨#[]⟩,none,0,0⟩⟩,⟨i,66,[qS A y.length x,nV L]⟩] [];replace e:=e.trans kx;replace a:=(a.add (K:=fun o=>RmH l o df bd) ht);refine lL a ax (lI 85 ((l:Nat)-1) ?_);refine lL a ac (gk 87 (W ((l:Nat)-1) oM oM L oM _ _ a.g (a.own 1) (a.jk 1) a.f.2.1) ?_);rintro _ _ _ k5 ⟨dn,bf,O,rfl,dy,d5,f9,d1⟩;replace a:=(a.stepM 1 k5 d5).to [⟨C,31,bE ⟨0,0,false,none,0,0,none,0,0,⟨#[]⟩,none,0,0⟩⟩,⟨i,66,[qS A y.length x,nV O]⟩] [];replace e:=e.trans k5;replace a:=(a.add (K:=fun o=>RmH l o dn bf) f9);refine kL 88 (ol 5 df dn bd bf _ _ a.g a.f.2.1 a.f.1) ?_;rintro _ _ _ md ⟨dm,rfl,dv⟩;replace e:=e.trans (md.m _);replace a:=a.step md;replace a:=(a.add (K:=fun o=>RmH (l+1) o dm (.mk 5 0 0 ⟨#[]⟩ [bd,bf])) dv);refine nI 0 0 (bE dm) a (fun _ B a=>?_);replace e:=e.put2 B j g a.g;exact lN (kX (a.retM e [(0,0,7)] (bJ dm) ⟨_,_,O,rfl,dy,a.own 1,a.f.1,dx.two d1 rfl⟩))
   have zA:=oT zg;refine lB 63 zg (lL a ac (ak (aa a ax (lI 66 ((l:Nat)-1) ?_))));refine lL a ac (gk 68 (W ((l:Nat)-1) oM oM u oM _ _ a.g (a.own 1) (a.jk 1) a.f.1) ?_);rintro _ _ _ k3 ⟨c5,Y,I,rfl,r1,d6,h5,hm⟩;replace a:=(a.stepM 1 k3 d6).to [⟨C,31,bE ⟨0,0,false,none,0,0,none,0,0,⟨#[]⟩,none,0,0⟩⟩,⟨i,66,[qS A y.length x,nV I]⟩] [];replace e:=e.trans k3;replace a:=(a.add (K:=fun o=>RmH l o c5 Y) h5);refine lL a ax (lI 71 ((l:Nat)-1) ?_);refine lL a ac (gk 73 (W ((l:Nat)-1) oM oM I oM _ _ a.g (a.own 1) (a.jk 1) a.f.2.1) ?_);rintro _ _ _ mb ⟨c7,Z,H,rfl,dw,f8,f3,hq⟩;replace a:=(a.stepM 1 mb f8).to [⟨C,31,bE ⟨0,0,false,none,0,0,none,0,0,⟨#[]⟩,none,0,0⟩⟩,⟨i,66,[qS A y.length x,nV H]⟩] [];replace e:=e.trans mb;replace a:=(a.add (K:=fun o=>RmH l o c7 Z) f3);refine kL 74 (ol 4 c5 c7 Y Z _ _ a.g a.f.2.1 a.f.1) ?_;rintro _ _ _ mf ⟨ds,rfl,fp⟩;replace e:=e.trans (mf.m _);replace a:=a.step mf;replace a:=(a.add (K:=fun o=>RmH (l+1) o ds (.mk 4 0 0 ⟨#[]⟩ [Y,Z])) fp);refine nI 0 0 (bE ds) a (fun _ B a=>?_);replace e:=e.put2 B j g a.g;exact lN (kX (a.retM e [(0,0,7)] (bJ ds) ⟨_,_,H,rfl,dw,a.own 1,a.f.1,hm.two hq rfl⟩))
  have zx:=oT zf;refine lB 49 zf (lL a ac (ak (aa a ax (lI 52 ((l:Nat)-1) ?_))));refine lL a ac (gk 54 (W ((l:Nat)-1) oM oM u oM _ _ a.g (a.own 1) (a.jk 1) a.f.1) ?_);rintro _ _ _ mp ⟨cz,X,V,rfl,r0,d0,f6,h4⟩;replace a:=(a.stepM 1 mp d0).to [⟨C,31,bE ⟨0,0,false,none,0,0,none,0,0,⟨#[]⟩,none,0,0⟩⟩,⟨i,66,[qS A y.length x,nV V]⟩] [];replace e:=e.trans mp;replace a:=(a.add (K:=fun o=>RmH l o cz X) f6);refine lL a ax (lI 57 ((l:Nat)-1) ?_);refine lL a ac (gk 59 (W ((l:Nat)-1) oM oM V oM _ _ a.g (a.own 1) (a.jk 1) a.f.2.1) ?_);rintro _ _ _ mc ⟨cw,bk,Q,rfl,hh,d4,fm,hx⟩;replace a:=(a.stepM 1 mc d4).to [⟨C,31,bE ⟨0,0,false,none,0,0,none,0,0,⟨#[]⟩,none,0,0⟩⟩,⟨i,66,[qS A y.length x,nV Q]⟩] [];replace e:=e.trans mc;replace a:=(a.add (K:=fun o=>RmH l o cw bk) fm);refine kL 60 (ol 3 cz cw X bk _ _ a.g a.f.2.1 a.f.1) ?_;rintro _ _ _ l1 ⟨c3,rfl,d3⟩;replace e:=e.trans (l1.m _);replace a:=a.step l1;replace a:=(a.add (K:=fun o=>RmH (l+1) o c3 (.mk 3 0 0 ⟨#[]⟩ [X,bk])) d3);refine nI 0 0 (bE c3) a (fun _ B a=>?_);replace e:=e.put2 B j g a.g;exact lN (kX (a.retM e [(0,0,7)] (bJ c3) ⟨_,_,Q,rfl,hh,a.own 1,a.f.1,h4.two hx rfl⟩))
 try rw[ze] at a
 try rw[ze]
 refine cn (aa a ac (gk 32 (xx A x y hl hz i u oM _ _ a.g (a.own 1) (a.jk 1) a.f.1) ?_));rintro _ _ _ ms ⟨p,D,rfl,b2,br,fn⟩;replace a:=(a.stepM 1 ms fn).to [⟨C,31,bE ⟨0,0,false,none,0,0,none,0,0,⟨#[]⟩,none,0,0⟩⟩,⟨i,66,[qS A y.length x,nV D]⟩] [];replace e:=e.trans ms;have c6:=br.1;have cx:=br.2;have ss:=uN p 3 oM c6 cx;refine lL a ac (ah (aa a ac (kL 34 (eA (p) 3 oM oM _ _ a.g) ?_)));rintro _ _ _ lb rfl;replace e:=e.trans (lb.m _);replace a:=a.step lb;have r2:=ct (p) 3 oM;cases za:(((aN (p) 3:Nat):Int) == (0:Int))
 .
  have zt:=aj za;refine lB 35 za (ag (cK (aD (kL 40 (AI _ _ a.g) ?_))));rintro _ _ _ kr ⟨bN,rfl,hN0⟩;replace e:=e.trans (kr.m _);replace a:=a.step kr;replace a:=a.aS hN0;have st:cA.length=3:=rfl;refine lL a ac (lV 42 (iV ((p).tdiv 3)) ?_ (hr:=rS (((p).tdiv 3)) kR (pm oM oM)));refine kL 43 (eA ((p).tdiv 3) 3 oM oM _ _ a.g) ?_;rintro _ _ _ m1 rfl;replace e:=e.trans (m1.m _);replace a:=a.step m1;have r5:=ct ((p).tdiv 3) 3 oM;refine lX 44 (sB bN) 3 3 1 (aN ((p).tdiv 3) 3:Nat) (aN ((p).tdiv 3) 3:Nat) ((a.f.1).ok oM) (lH 45 (.string (cA.getD (aN ((p).tdiv 3) 3:Nat) ⟨#[]⟩)) a ((a.f.1).el (aN ((p).tdiv 3) 3:Nat) oM) (lL a [.v (bJ ⟨2,0,false,none,0,0,none,0,0,cA.getD (aN ((p).tdiv 3) 3:Nat) ⟨#[]⟩,none,0,0⟩)] (nI 0 0 (bE ⟨2,0,false,none,0,0,none,0,0,cA.getD (aN ((p).tdiv 3) 3:Nat) ⟨#[]⟩,none,0,0⟩) a (fun _ B a=>?_))));replace e:=e.put2 B j g a.g;exact lN (kX (a.retM e [(0,0,7)] (bJ ⟨2,0,false,none,0,0,none,0,0,cA.getD (aN ((p).tdiv 3) 3:Nat) ⟨#[]⟩,none,0,0⟩) ⟨⟨2,0,false,none,0,0,none,0,0,cA.getD (aN ((p).tdiv 3) 3:Nat) ⟨#[]⟩,none,0,0⟩,_,D,rfl,b2,a.own 1,Dp,GrT.name (GP oM)⟩))
 have zt:=eq_of_beq za;refine lB 35 za (ak (aa a ac (lV 37 (iV ((p).tdiv 3)) ?_ (hr:=rS (((p).tdiv 3)) kR (pm oM oM)))));refine kL 38 (hR ((p).tdiv 3) oM oM _ _ a.g) ?_;rintro _ _ _ mz ⟨zQ,zR,zS,zU,rfl,zL,zM,zN,zP⟩;replace e:=e.trans (mz.m _);replace a:=a.step mz;replace a:=a.aP zN zP;refine kL 39 (Iv (d:=l) (af (dL ((p).tdiv 3)).num) zQ ((lim (ab (dL ((p).tdiv 3)).num)).length) zR zS ((lim (dL ((p).tdiv 3)).den).length) zU _ _ a.g ⟨true,⟨_,_,_,_,rfl,zL,zM,a.f.2.1,a.f.1⟩,fun o=>(by cases o)⟩) ?_;rintro _ _ _ ls ⟨cq,rfl,dz⟩;replace e:=e.trans (ls.m _);replace a:=a.step ls;replace a:=(a.add (K:=fun o=>RmH (l+1) o cq (.mk 1 0 (dL ((p).tdiv 3)) ⟨#[]⟩ [])) dz);refine nI 0 0 (bE cq) a (fun _ B a=>?_);replace e:=e.put2 B j g a.g;exact lN (kX (a.retM e [(0,0,7)] (bJ cq) ⟨_,_,D,rfl,b2,a.own 1,a.f.1,GrT.num (LQ.hand _)⟩))
theorem Ey (a:Nat):∀ (k:Nat) {z:Int},z=(k:Nat)->∀ (A:Z9) (cap:Nat) (zs:List Int) (hl:zs.length<=9223372036854775807) (hz:nu zs) (dp:Nat),dp=k->dp<=1000->∀ (at_:Nat),at_<=zs.length->∀ (w:World) (h:Hp),G w h->Own w a 66 [.slice A zs.length cap,nV at_]->h[a]?=some bg->Si A zs h->Calls Tryz.prog 18 #[pB a,iV z,.bool false] w (fd a w h (fun v w' d=>∃ (r:RTm)(t:Tm)(at2:Nat),v=bJ r/\at2<=zs.length/\Own w' a 66 [.slice A zs.length cap,nV at2]/\RmH (dp+1) d r t/\GrT (dp+1) t))
  | 0,z,e,A,cap,zs,hl,hz,dp,ed,hd,at_,ha,w,h,g,ho,hj,hA=>by
    subst ed e;exact xu a A cap zs hl hz 0 hd (fun z h1 c=>by omega) at_ ha w h g ho hj hA
  | k+1,z,e,A,cap,zs,hl,hz,dp,ed,hd,at_,ha,w,h,g,ho,hj,hA=>by
    subst ed e;exact xu a A cap zs hl hz (k+1) hd (fun z h1 c=>Ey a k (z:=z) oM A cap zs hl hz k rfl oM) at_ ha w h g ho hj hA
theorem Dj (z:Int)(h0 : -9223372036854775808<=z)(h1:z<=9223372036854775807)(w:World)(h:Hp)(g:G w h):CR 16 #[iV z] w h (fun v h1=>∃ r,v=bJ r/\RmH 1 h1 r (.mk 1 0 ((z:Int):Rat) ⟨#[]⟩ [])):=by
 have a:=sS g;refine go Tryz.func16 [(0,iV z)] rfl (aD (lA 2 31 (bE ⟨0,0,false,none,0,0,none,0,0,⟨#[]⟩,none,0,0⟩) a (fun C w2 D a=>aG (lL a ac (lC 4 a (vR z h0 oM _ _ a.g) ?_)))));rintro _ _ _ a ⟨B,o,x,y,rfl,i,p,l,u⟩;replace a:=a.aP l u;refine lC 5 a (Iv (d:=0) (af ((z:Int):Rat).num) B ((lim (ab ((z:Int):Rat).num)).length) o x ((lim ((z:Int):Rat).den).length) y _ _ a.g ⟨true,⟨_,_,_,_,rfl,i,p,a.f.2.1,a.f.1⟩,fun j=>(by cases j)⟩) ?_;rintro _ _ _ a ⟨c,rfl,e⟩;replace a:=(a.add (K:=fun j=>RmH 1 j c (.mk 1 0 ((z:Int):Rat) ⟨#[]⟩ [])) e);exact lP 0 0 (bE c) a (fun _ a=>ae a [(0,0,7)] (bJ c) (⟨c,rfl,a.f.1⟩))
theorem Cs (z:Int)(h0 : -9223372036854775808<=z)(h1:z<=9223372036854775807)(w:World)(h:Hp)(g:G w h):CR 16 #[iV z] w h (fun v h1=>∃ r,v=bJ r/\RmH 1 h1 r (.mk 1 0 ((z:Int):Rat) ⟨#[]⟩ [])):=Dj z h0 h1 w h g
theorem KA {d:Nat}:SmT1 fT (d+1) (.mk 1 0 ((1:Int):Rat) ⟨#[]⟩ []):=⟨by show 0<=3;decide,by show (-1000:Int)<=1/\(1:Int)<=1000;decide,by show (-1000:Int)<=0/\(0:Int)<=1000;decide,LQ.int kD kD,CD,fun i hi=>absurd hi (NK i)⟩
theorem AP  (d:Nat)(ih:∀ (r:RTm) (t:Tm) (way at_ e:Int) (w:World) (h:Hp),G w h->RmH d h r t->WfT1 Fi d t->Calls Tryz.prog 4 #[bJ r,iV way,iV at_,iV e] w (Ret w h (fun v h1=>∃ O t1,v=bJ O/\SpO d h1 O t1)))(op n:Int)(D:Bool)(x:Z9)(z C:Nat)(B:Z9)(F y:Nat)(q:Rat)(s:ByteArray)(A:Z9)(c:Nat)(j:List RTm)(ks:List Tm)(W:j.length<=c)(way at_ e:Int)(hl2:ks.length<=2)(bz:gG op=(ks.length:Nat))(hn1 : -12<=n)(hn2:n<=12)(S:LQ 1 q)(J:fT s)(Q:∀ i,i<ks.length->WfT1 Fi d (ks.getD i cZ))(w:World)(h:Hp)(g:G w h)(hZ:RZ h (D,.slice x z C,.slice B F y) q)(hK:SlO 7 bE bT h A j)(hKs:Rms d h j ks):CR 4 #[bJ ⟨op,n,D,x,z,C,B,F,y,s,A,j.length,c⟩,iV way,iV at_,iV e] w h (fun v h1=>∃ O t1,v=bJ O/\SpO (d+1) h1 O t1):=by
 have a:=((((sS g).add (K:=fun p=>RZ p (D,qS x z C,qS B F y) q) hZ).aS hK).add (K:=fun p=>Rms d p j ks) hKs);have hln:=(a.f.1).len;have hac:=aE op;have bn:([]:List RTm).length=0:=rfl;have bf:(([]:List RTm)++j).length=j.length:=rfl;refine go Tryz.func4 [(0,bJ ⟨op,n,D,x,z,C,B,F,y,s,A,j.length,c⟩),(1,iV way),(2,iV at_),(3,iV e)] rfl (aD (lA 4 31 (bE ⟨op,n,D,x,z,C,B,F,y,s,A,j.length,c⟩) a (fun I w2 h3 a=>lA 8 31 (bE ⟨0,0,false,none,0,0,none,0,0,⟨#[]⟩,none,0,0⟩) a (fun b4 w5 h6 a=>aG (lL a ac (aq 12 a (eA (at_) 4 oM oM _ _ a.g) (fun w8 h9 a=>?_)))))));have lp7:=ct (at_) 4 oM;refine lL a ac (ah (CG.join (fun Γ w_=>∃ (zp:Bool)(p:Hp),Γ=[(1,iV way),(2,nV (aN (at_) 4)),(3,iV e),(4,pB I),(8,pB b4),(20,.bool zp)]/\SS w h w_ p [⟨b4,31,bE ⟨0,0,false,none,0,0,none,0,0,⟨#[]⟩,none,0,0⟩⟩,⟨I,31,bE ⟨op,n,D,x,z,C,B,F,y,s,A,j.length,c⟩⟩] [] [fun p=>Rms d p j ks,fun p=>SlO 7 bE bT p A j,fun p=>RZ p (D,qS x z C,qS B F y) q]/\(zp=true->¬(aN at_ 4=0\/j.length=0))/\(zp=false->(aN at_ 4=0\/j.length=0))) ?_ ?_))
 .
  refine kQ (lL a ac ?_);cases zd:(decide ((0:Int)<((aN (at_) 4:Nat):Int)))
  .
   have zD:=oF zd;refine lB 14 zd (lL a ac (lG 16 ?_));refine lG 17 (lG 18 (lG 19 (lL a [.v qF] (lD ?_))));intro L H;exact ⟨_,⟨false,h9,rfl,a.to _ _,(fun p=>absurd p kD),(fun _=>by omega)⟩,H.to _ kR⟩
  have zD:=oT zd;refine lB 14 zd (lL a [.c,.v (qP I 6),.o (qS A j.length c) 1 6 1,.v (nV j.length)] ?_);cases ze:(decide ((0:Int)<(j.length:Int)))
  .
   have zE:=oF ze;refine lB 19 ze (lL a [.v qF] (lD ?_));intro L H;exact ⟨_,⟨false,h9,rfl,a.to _ _,(fun p=>absurd p kD),(fun _=>by omega)⟩,H.to _ kR⟩
  have zE:=oT ze;refine lB 19 ze (lL a [.v qT] (lD ?_));intro L H;exact ⟨_,⟨true,h9,rfl,a.to _ _,(fun _=>by omega),(fun p=>absurd p kD)⟩,H.to _ kR⟩
 rintro _ _ ⟨zp,_,rfl,a,zR,b0⟩;cases zf:(zp)
 .
  try rw[zf] at a
  try rw[zf]
  refine dC (cK (CG.join (fun Γ w_=>∃ (O:RTm)(t1:Tm)(p:Hp),Γ=[(4,pB I),(8,pB b4)]/\SS w h w_ p [⟨b4,31,bE ⟨0,0,false,none,0,0,none,0,0,⟨#[]⟩,none,0,0⟩⟩,⟨I,31,bE O⟩] [] [fun p=>SpO (d+1) p O t1,fun p=>Rms d p j ks,fun p=>SlO 7 bE bT p A j,fun p=>RZ p (D,qS x z C,qS B F y) q]) ?_ ?_))
  .
   refine aa a ac (aq 48 a (eA (way) 9 oM oM _ _ a.g) (fun _ zP a=>?_));have bt:=ct (way) 9 oM;refine aZ (aD ?_);cases zg:(((aN (way) 9:Nat):Int) == (0:Int))
   .
    have zG:=aj zg;refine lB 50 zg (lL a ac (ag (aD ?_)));cases zi:(((aN (way) 9:Nat):Int) == (1:Int))
    .
     have zH:=aj zi;refine lB 56 zi (lL a ac (ag (aD ?_)));cases zj:(((aN (way) 9:Nat):Int) == (2:Int))
     .
      have zI:=aj zj;refine lB 62 zj (lL a ac (ag (aD ?_)));cases zk:(((aN (way) 9:Nat):Int) == (3:Int))
      .
       have zJ:=aj zk;refine lB 69 zk (lL a ac (ag (aD ?_)));cases zl:(((aN (way) 9:Nat):Int) == (4:Int))
       .
        have zK:=aj zl;refine lB 75 zl (lL a ac (ag (aD ?_)));cases zm:(((aN (way) 9:Nat):Int) == (5:Int))
        .
         have zL:=aj zm;refine lB 85 zm (lL a ac (ag (aD ?_)));cases zo:(((aN (way) 9:Nat):Int) == (6:Int))
         .
          have zM:=aj zo;refine lB 88 zo (lL a ac (ag (CG.skip ?_)));intro L H;replace a:=(a.add (K:=fun p=>SpO (d+1) p (⟨op,n,D,x,z,C,B,F,y,s,A,j.length,c⟩:RTm) (.mk (op) (n) q (s) ks)) ⟨(RmH.mk a.f.r.1 a.f.1 W a.f.2.1).mono oM,im oM (by omega:(-1000:Int)<=op/\(op:Int)<=1000) (by omega:(-1000:Int)<=n/\(n:Int)<=1000) S J (fun i hi=>(fC (Q i hi)).mono oM)⟩);exact ⟨_,⟨(⟨op,n,D,x,z,C,B,F,y,s,A,j.length,c⟩:RTm),(.mk (op) (n) q (s) ks),zP,rfl,a.to _ _⟩,H.to _ kR⟩
         have zM:=eq_of_beq zo;refine lB 88 zo (lL a ac (ak (kQ (lL a [.o (bJ ⟨op,n,D,x,z,C,B,F,y,s,A,j.length,c⟩) 1 0 7] (lC 90 a (ud (d:=d+1) ⟨op,n,D,x,z,C,B,F,y,s,A,j.length,c⟩ (.mk op n q s ks) (12) _ _ a.g (RmH.mk a.f.r.1 a.f.1 W a.f.2.1)) ?_)))));rintro _ _ _ a ⟨r32,rfl,Y⟩;replace a:=(a.add (K:=fun p=>RmH (d+2) p r32 (.mk 8 (12) 0 ⟨#[]⟩ [(.mk op n q s ks)])) Y);refine lL a ac (aq 92 a (eA (e) 20 oM oM _ _ a.g) (fun _ _ a=>?_));have b3:=ct (e) 20 oM;refine lI 93 ((aN (e) 20:Nat)-10) (lC 94 a (ud (d:=d+2) r32 (.mk 8 (12) 0 ⟨#[]⟩ [(.mk op n q s ks)]) ((aN (e) 20:Nat)-10) _ _ a.g a.f.1) ?_);rintro _ _ _ a ⟨r38,rfl,bd⟩;replace a:=(a.add (K:=fun p=>RmH (d+3) p r38 (.mk 8 ((aN (e) 20:Nat)-10) 0 ⟨#[]⟩ [(.mk 8 (12) 0 ⟨#[]⟩ [(.mk op n q s ks)])])) bd);refine lC 95 a (ud (d:=d+3) r38 (.mk 8 ((aN (e) 20:Nat)-10) 0 ⟨#[]⟩ [(.mk 8 (12) 0 ⟨#[]⟩ [(.mk op n q s ks)])]) (9) _ _ a.g a.f.1) ?_;rintro _ _ yf a ⟨X,rfl,bb⟩;replace a:=(a.add (K:=fun p=>RmH (d+4) p X (.mk 8 (9) 0 ⟨#[]⟩ [(.mk 8 ((aN (e) 20:Nat)-10) 0 ⟨#[]⟩ [(.mk 8 (12) 0 ⟨#[]⟩ [(.mk op n q s ks)])])])) bb);refine lP 1 0 (bE X) a (fun _ a=>lD ?_);intro L H;replace a:=(a.tl.tl.tl.add (K:=fun p=>SpO (d+1) p X (.mk 8 (9) 0 ⟨#[]⟩ [(.mk 8 ((aN (e) 20:Nat)-10) 0 ⟨#[]⟩ [(.mk 8 (12) 0 ⟨#[]⟩ [(.mk op n q s ks)])])])) ⟨a.f.1,su oM (su oM (su oM ((im oM (by omega:(-1000:Int)<=op/\(op:Int)<=1000) (by omega:(-1000:Int)<=n/\(n:Int)<=1000) S J (fun i hi=>(fC (Q i hi)).mono oM)))))⟩);exact ⟨_,⟨X,(.mk 8 (9) 0 ⟨#[]⟩ [(.mk 8 ((aN (e) 20:Nat)-10) 0 ⟨#[]⟩ [(.mk 8 (12) 0 ⟨#[]⟩ [(.mk op n q s ks)])])]),yf,rfl,a.to _ _⟩,H.to _ kR⟩
        have zL:=eq_of_beq zm;refine lB 85 zm (lL a ac (ak (kQ (lL a [.v (qP I 6)] (lP 1 6 ([sZ]) a (fun _ a=>lD ?_))))));intro L H;replace a:=(a.add (K:=fun p=>SpO (d+1) p (⟨op,n,D,x,z,C,B,F,y,s,none,0,0⟩:RTm) (.mk op n q s [])) ⟨RmH.mk (ps:=[]) a.f.r.1 Rms.nil (nR _) SlO.nil,im (by show 0<=3;decide) (by omega:(-1000:Int)<=op/\(op:Int)<=1000) (by omega:(-1000:Int)<=n/\(n:Int)<=1000) S J (fun i hi=>absurd hi (NK i))⟩);exact ⟨_,⟨(⟨op,n,D,x,z,C,B,F,y,s,none,0,0⟩:RTm),(.mk op n q s []),zP,rfl,a.to _ _⟩,H.to _ kR⟩
       have zK:=eq_of_beq zl;refine lB 75 zl (lL a ac (ak (kQ (HW 76 31 7 bE ([]:List RTm) a (fun yg _ _ a=>lL a [.v (qP I 6),.o (qS A j.length c) 1 6 1] (KX 79 0 31 7 ((([]:List RTm)).length) (sB yg) ([]:List RTm) bE bT A j j.length c 112 (bJ ⟨0,0,false,none,0,0,none,0,0,⟨#[]⟩,none,0,0⟩) a a.f.2.1 (fun yi yj _ _ a=>lC 80 a (Cs 1 kD kD _ _ a.g) ?_)))))));rintro _ _ _ a ⟨u,rfl,hrw⟩;replace a:=(a.add (K:=fun p=>RmH 1 p u (.mk 1 0 (((1:Int)):Rat) ⟨#[]⟩ [])) hrw);refine lR 81 31 1 ([iV u.op,iV u.n,.bool u.neg,qS u.zA u.zn u.zc,qS u.dA u.dn u.dc,.string u.s,qS u.A u.m u.c]) a (fun zQ _ _ a=>?_);replace a:=a.aS (SlO.of_flat (sz:=7) (f:=bE) (d:=bT) (b:=zQ) (o:=0) (l:=([u]:List RTm)) (fun _=>rfl) a.f.1);refine lY 82 0 31 7 yj yi (([]:List RTm)++j) bE u 112 zQ (bJ ⟨0,0,false,none,0,0,none,0,0,⟨#[]⟩,none,0,0⟩) a a.f.2.1 (fun zs zt _ _ a=>lL a [.v (qP I 6)] (lP 1 6 ([qS zs ((([]:List RTm)++j++[u]).length) zt]) a (fun _ a=>lD ?_)));obtain ⟨yk,a,zS⟩:=a.pubr 0 (A:=zs) (c:=zt) (l:=([]:List RTm)++j++[u]) (f:=bE) (ty:=31) (sz:=7) bT (fun _=>rfl);intro L H;replace a:=(a.tl.tl.tl.tl.add (K:=fun p=>SpO (d+1) p (⟨op,n,D,x,z,C,B,F,y,s,zs,(([]:List RTm)++j++[u]).length,zt⟩:RTm) (.mk op n q s (ks++[.mk 1 0 (((1:Int)):Rat) ⟨#[]⟩ []]))) ⟨(RmH.mk a.f.q.r.1 (((a.f.q.1).mono (show d<=d+3 by omega)).snoc ((a.f.r.2.1).mono oM)) zS a.f.1),im (by rw[List.length_append,List.length_singleton];omega) (by omega:(-1000:Int)<=op/\(op:Int)<=1000) (by omega:(-1000:Int)<=n/\(n:Int)<=1000) S J (fun i hi=>rC (SmT1 fT (d+3)) (fun i hi=>(fC (Q i hi)).mono oM) KA hi)⟩);exact ⟨_,⟨(⟨op,n,D,x,z,C,B,F,y,s,zs,(([]:List RTm)++j++[u]).length,zt⟩:RTm),(.mk op n q s (ks++[.mk 1 0 (((1:Int)):Rat) ⟨#[]⟩ []])),yk,rfl,a.to _ _⟩,H.to _ kR⟩
      have zJ:=eq_of_beq zk;refine lB 69 zk (lL a ac (ak (kQ (lL a ac (aq 71 a (eA (e) 3 oM oM _ _ a.g) (fun _ _ a=>?_))))));have b2:=ct (e) 3 oM;refine lC 72 a (vR (aN (e) 3:Nat) oM oM _ _ a.g) ?_;rintro _ _ yl a ⟨zu,zv,zw,zx,rfl,zU,zW,zX,ya⟩;replace a:=a.aP zX ya;refine lL a [.v (qP I 2)] (lP 1 2 (iS (((aN (e) 3:Nat):Int):Rat) zu zv zw zx) a (fun _ a=>lD ?_));intro L H;replace a:=(a.tl.tl.add (K:=fun p=>SpO (d+1) p (⟨op,n,af (((aN (e) 3:Nat):Int):Rat).num,zu,(lim (ab (((aN (e) 3:Nat):Int):Rat).num)).length,zv,zw,(lim (((aN (e) 3:Nat):Int):Rat).den).length,zx,s,A,j.length,c⟩:RTm) (.mk (op) (n) ((((aN (e) 3:Nat):Int):Rat)) (s) ks)) ⟨(RmH.mk ⟨true,⟨_,_,_,_,rfl,zU,zW,a.f.2.1,a.f.1⟩,fun p=>(by cases p)⟩ a.f.r.1 W a.f.r.2.1).mono oM,im oM (by omega:(-1000:Int)<=op/\(op:Int)<=1000) (by omega:(-1000:Int)<=n/\(n:Int)<=1000) (LQ.int oM oM) J (fun i hi=>(fC (Q i hi)).mono oM)⟩);exact ⟨_,⟨(⟨op,n,af (((aN (e) 3:Nat):Int):Rat).num,zu,(lim (ab (((aN (e) 3:Nat):Int):Rat).num)).length,zv,zw,(lim (((aN (e) 3:Nat):Int):Rat).den).length,zx,s,A,j.length,c⟩:RTm),(.mk (op) (n) ((((aN (e) 3:Nat):Int):Rat)) (s) ks),yl,rfl,a.to _ _⟩,H.to _ kR⟩
     have zI:=eq_of_beq zj;refine lB 62 zj (lL a ac (ak (kQ (lL a [.v (.agg #[eS,.string (⟨#[109,97,120]⟩),.string (⟨#[120,95,49]⟩),.string (⟨#[49,120]⟩)]),.c] ?_))))
     rcases IQ e with hq0|hq1|hq2|hq3
     .
      refine aq 65 a ((by have U:=eA e 4 oM oM _ _ a.g;rw[hq0] at U;exact U)) (fun _ ym a=>lL a [.v (eS),.v (qP I 5)] (lP 1 5 ([eS]) a (fun _ a=>lD ?_)));intro L H;replace a:=(a.add (K:=fun p=>SpO (d+1) p (⟨op,n,D,x,z,C,B,F,y,⟨#[]⟩,A,j.length,c⟩:RTm) (.mk (op) (n) q (⟨#[]⟩) ks)) ⟨(RmH.mk a.f.r.1 a.f.1 W a.f.2.1).mono oM,im oM (by omega:(-1000:Int)<=op/\(op:Int)<=1000) (by omega:(-1000:Int)<=n/\(n:Int)<=1000) S (by unfold fT;decide) (fun i hi=>(fC (Q i hi)).mono oM)⟩);exact ⟨_,⟨(⟨op,n,D,x,z,C,B,F,y,⟨#[]⟩,A,j.length,c⟩:RTm),(.mk (op) (n) q (⟨#[]⟩) ks),ym,rfl,a.to _ _⟩,H.to _ kR⟩
     .
      refine aq 65 a ((by have U:=eA e 4 oM oM _ _ a.g;rw[hq1] at U;exact U)) (fun _ yn a=>lL a [.v (.string (⟨#[109,97,120]⟩)),.v (qP I 5)] (lP 1 5 ([.string (⟨#[109,97,120]⟩)]) a (fun _ a=>lD ?_)));intro L H;replace a:=(a.add (K:=fun p=>SpO (d+1) p (⟨op,n,D,x,z,C,B,F,y,⟨#[109,97,120]⟩,A,j.length,c⟩:RTm) (.mk (op) (n) q (⟨#[109,97,120]⟩) ks)) ⟨(RmH.mk a.f.r.1 a.f.1 W a.f.2.1).mono oM,im oM (by omega:(-1000:Int)<=op/\(op:Int)<=1000) (by omega:(-1000:Int)<=n/\(n:Int)<=1000) S (by unfold fT;decide) (fun i hi=>(fC (Q i hi)).mono oM)⟩);exact ⟨_,⟨(⟨op,n,D,x,z,C,B,F,y,⟨#[109,97,120]⟩,A,j.length,c⟩:RTm),(.mk (op) (n) q (⟨#[109,97,120]⟩) ks),yn,rfl,a.to _ _⟩,H.to _ kR⟩
     .
      refine aq 65 a ((by have U:=eA e 4 oM oM _ _ a.g;rw[hq2] at U;exact U)) (fun _ yo a=>lL a [.v (.string (⟨#[120,95,49]⟩)),.v (qP I 5)] (lP 1 5 ([.string (⟨#[120,95,49]⟩)]) a (fun _ a=>lD ?_)));intro L H;replace a:=(a.add (K:=fun p=>SpO (d+1) p (⟨op,n,D,x,z,C,B,F,y,⟨#[120,95,49]⟩,A,j.length,c⟩:RTm) (.mk (op) (n) q (⟨#[120,95,49]⟩) ks)) ⟨(RmH.mk a.f.r.1 a.f.1 W a.f.2.1).mono oM,im oM (by omega:(-1000:Int)<=op/\(op:Int)<=1000) (by omega:(-1000:Int)<=n/\(n:Int)<=1000) S (by unfold fT;decide) (fun i hi=>(fC (Q i hi)).mono oM)⟩);exact ⟨_,⟨(⟨op,n,D,x,z,C,B,F,y,⟨#[120,95,49]⟩,A,j.length,c⟩:RTm),(.mk (op) (n) q (⟨#[120,95,49]⟩) ks),yo,rfl,a.to _ _⟩,H.to _ kR⟩
     refine aq 65 a ((by have U:=eA e 4 oM oM _ _ a.g;rw[hq3] at U;exact U)) (fun _ yb a=>lL a [.v (.string (⟨#[49,120]⟩)),.v (qP I 5)] (lP 1 5 ([.string (⟨#[49,120]⟩)]) a (fun _ a=>lD ?_)));intro L H;replace a:=(a.add (K:=fun p=>SpO (d+1) p (⟨op,n,D,x,z,C,B,F,y,⟨#[49,120]⟩,A,j.length,c⟩:RTm) (.mk (op) (n) q (⟨#[49,120]⟩) ks)) ⟨(RmH.mk a.f.r.1 a.f.1 W a.f.2.1).mono oM,im oM (by omega:(-1000:Int)<=op/\(op:Int)<=1000) (by omega:(-1000:Int)<=n/\(n:Int)<=1000) S (by unfold fT;decide) (fun i hi=>(fC (Q i hi)).mono oM)⟩);exact ⟨_,⟨(⟨op,n,D,x,z,C,B,F,y,⟨#[49,120]⟩,A,j.length,c⟩:RTm),(.mk (op) (n) q (⟨#[49,120]⟩) ks),yb,rfl,a.to _ _⟩,H.to _ kR⟩
    have zH:=eq_of_beq zi;refine lB 56 zi (lL a ac (ak (kQ (lL a ac (aq 58 a (eA (e) 30 oM oM _ _ a.g) (fun _ yc a=>?_))))));have bl:=ct (e) 30 oM;refine lI 59 ((aN (e) 30:Nat)-15) (lL a [.v (qP I 1)] (lP 1 1 ([iV ((aN (e) 30:Nat)-15)]) a (fun _ a=>lD ?_)));intro L H;replace a:=(a.add (K:=fun p=>SpO (d+1) p (⟨op,(aN (e) 30:Nat)-15,D,x,z,C,B,F,y,s,A,j.length,c⟩:RTm) (.mk (op) ((aN (e) 30:Nat)-15) q (s) ks)) ⟨(RmH.mk a.f.r.1 a.f.1 W a.f.2.1).mono oM,im oM (by omega:(-1000:Int)<=op/\(op:Int)<=1000) (by omega:(-1000:Int)<=(aN (e) 30:Nat)-15/\((aN (e) 30:Nat)-15:Int)<=1000) S J (fun i hi=>(fC (Q i hi)).mono oM)⟩);exact ⟨_,⟨(⟨op,(aN (e) 30:Nat)-15,D,x,z,C,B,F,y,s,A,j.length,c⟩:RTm),(.mk (op) ((aN (e) 30:Nat)-15) q (s) ks),yc,rfl,a.to _ _⟩,H.to _ kR⟩
   have zG:=eq_of_beq zg;refine lB 50 zg (lL a ac (ak (kQ (lL a ac (aq 52 a (eA (e) 16 oM oM _ _ a.g) (fun _ yd a=>?_))))));have bm:=ct (e) 16 oM;refine lI 53 ((aN (e) 16:Nat)-1) (lL a [.v (pB I)] (lP 1 0 ([iV ((aN (e) 16:Nat)-1)]) a (fun _ a=>lD ?_)));intro L H;replace a:=(a.add (K:=fun p=>SpO (d+1) p (⟨(aN (e) 16:Nat)-1,n,D,x,z,C,B,F,y,s,A,j.length,c⟩:RTm) (.mk ((aN (e) 16:Nat)-1) (n) q (s) ks)) ⟨(RmH.mk a.f.r.1 a.f.1 W a.f.2.1).mono oM,im oM (by omega:(-1000:Int)<=(aN (e) 16:Nat)-1/\((aN (e) 16:Nat)-1:Int)<=1000) (by omega:(-1000:Int)<=n/\(n:Int)<=1000) S J (fun i hi=>(fC (Q i hi)).mono oM)⟩);exact ⟨_,⟨(⟨(aN (e) 16:Nat)-1,n,D,x,z,C,B,F,y,s,A,j.length,c⟩:RTm),(.mk ((aN (e) 16:Nat)-1) (n) q (s) ks),yd,rfl,a.to _ _⟩,H.to _ kR⟩
  rintro _ _ ⟨O,t1,_,rfl,a⟩;exact aa a [.o (bJ O) 1 0 7] (lP 0 0 (bE O) a (fun _ a=>ae a [(0,0,7)] (bJ O) (⟨O,t1,rfl,a.f.1⟩)))
 try rw[zf] at a
 try rw[zf]
 refine cn (aD ?_);have bk:=zR aM;refine lL a [.c,.v (qP I 6),.o (qS A j.length c) 1 6 1,.v (nV j.length)] (aq 25 a (eA (e) j.length oM oM _ _ a.g) (fun _ _ a=>?_));have br:=ct (e) j.length oM;refine lL a ac (aG (lL a [.o (bJ ⟨op,n,D,x,z,C,B,F,y,s,A,j.length,c⟩) 1 0 7] (lA 10 31 (bE ⟨0,0,false,none,0,0,none,0,0,⟨#[]⟩,none,0,0⟩) a (fun zq _ _ a=>lP 0 0 (bE ⟨op,n,D,x,z,C,B,F,y,s,A,j.length,c⟩) a (fun _ a=>aG (HW 27 31 7 bE ([]:List RTm) a (fun ye _ _ a=>lL a [.v (qP I 6),.o (qS A j.length c) 2 6 1] (KX 30 0 31 7 ((([]:List RTm)).length) (sB ye) ([]:List RTm) bE bT A j j.length c 112 (bJ ⟨0,0,false,none,0,0,none,0,0,⟨#[]⟩,none,0,0⟩) a a.f.2.1 (fun zr M _ _ a=>lL a [.v (qP zq 6)] (lP 0 6 ([qS zr ((([]:List RTm)++j).length) M]) a (fun _ a=>ah (cR 13 [] mixed a ar ?_))))))))))));refine eV 0 32 (qP zq 6) (eO 1 33 [(0,6,1)] (qS zr ((([]:List RTm)++j).length) M) a (eV 2 34 (nV (aN (e) j.length)) (eV 3 35 (qP I 6) (eO 4 36 [(2,6,1)] (qS A j.length c) a (eV 5 37 (nV (aN (e) j.length)) (eX 6 38 A j.length c 7 (aN (e) j.length:Nat) (aN (e) j.length) ((a.f.2.1).ok oM) (eH 7 39 (bJ (j.getD (aN (e) j.length) bT)) a ((a.f.2.1).el (aN (e) j.length) oM) (eV 8 40 (iV way) (eV 9 41 (nV (aN (at_) 4)) (eI 10 42 ((aN (at_) 4:Nat)-1) (eV 11 43 (iV e) (eC 12 44 a (fun _ _ a=>ih (j.getD (aN e j.length) bT) (ks.getD (aN e j.length) cZ) way ((aN (at_) 4:Nat)-1) e _ _ a.g ((a.f.1).at_ (aN e j.length) oM) (Q (aN e j.length) oM)) ?_))))))))))));rintro _ _ _ _ _ a ⟨Z,tk,rfl,hrk⟩;replace a:=(a.add (K:=fun p=>SpO d p Z tk) hrk);refine bS a (fun _ _ a=>?_);obtain ⟨V,zB⟩:=a.rowA 0 (A:=zr) (c:=M) (m:=(([]:List RTm)++j).length) (ty:=31) (sz:=7) (cs:=(([]:List RTm)++j).flatMap bE) oM;subst zB;refine tX 13 45 (sB V) ((([]:List RTm)++j).length) M 7 (aN (e) j.length:Nat) (aN (e) j.length) rfl (Lg 14 (ty:=31) (c:=M) (b:=V) 0 (aN (e) j.length) 0 (bE Z) (([]:List RTm)++j) bE 7 bT Z a oM (fun _ a=>?_));replace a:=a.to [⟨zq,31,[iV op,iV n,.bool D,qS x z C,qS B F y,.string s,qS (sB V) ((([]:List RTm)++j).length) M]⟩,⟨b4,31,bE ⟨0,0,false,none,0,0,none,0,0,⟨#[]⟩,none,0,0⟩⟩,⟨I,31,bE ⟨op,n,D,x,z,C,B,F,y,s,A,j.length,c⟩⟩] [⟨31,7,sB V,M,(([]:List RTm)++j).length,((([]:List RTm)++j).set (aN (e) j.length) Z).flatMap bE⟩];refine rW ?_;replace a:=a.rown [⟨31,7,sB V,M,((([]:List RTm)++j).set (aN (e) j.length) Z).length,((([]:List RTm)++j).set (aN (e) j.length) Z).flatMap bE⟩] (by simp only[Md]);obtain ⟨_,a,zN⟩:=a.pubr 0 (A:=sB V) (c:=M) (l:=(([]:List RTm)++j).set (aN (e) j.length) Z) (f:=bE) (ty:=31) (sz:=7) bT (fun _=>rfl);exact lL a [.o (bJ ⟨op,n,D,x,z,C,B,F,y,s,sB V,(([]:List RTm)++j).length,M⟩) 0 0 7] (lP 1 0 (bE ⟨op,n,D,x,z,C,B,F,y,s,sB V,(([]:List RTm)++j).length,M⟩) a (fun _ a=>ae a [(1,0,7)] (bJ ⟨op,n,D,x,z,C,B,F,y,s,sB V,(([]:List RTm)++j).length,M⟩) (⟨(⟨op,n,D,x,z,C,B,F,y,s,sB V,(([]:List RTm)++j).length,M⟩:RTm),(.mk op n q s (ks.set (aN e j.length) tk)),rfl,(by have p:=RmH.mk (op:=op) (n:=n) (s:=s) a.f.q.1 (((a.f.r.1).mono (show d<=d+3 by omega)).set (aN e j.length) (a.f.2.1).1) zN (a.f.1);rw[Md] at p;exact p),im (by rw[Md];omega) oM oM S J (fun i hi=>vB (SmT1 fT (d+3)) (fun i hi=>(fC (Q i hi)).mono oM) (a.f.2.1).2 hi)⟩)))
theorem pQ:∀ (d:Nat) (r:RTm) (t:Tm) (way at_ a:Int) (w:World) (h:Hp),G w h->RmH d h r t->WfT1 Fi d t->Calls Tryz.prog 4 #[bJ r,iV way,iV at_,iV a] w (Ret w h (fun v h1=>∃ r1 t1,v=bJ r1/\SpO d h1 r1 t1))
  | 0,_,_,_,_,_,_,_,_,x,_=>x.elim
  | d+1,r,t,way,at_,a,w,h,g,x,wf=>by
    obtain ⟨op,n,b,zA,zn,zc,dA,dn,dc,q,s,A,c,rs,ks,rfl,rfl,hZ,hc,hK,hKs⟩:=x.open;have e:ks.length<=2:=wf.two;have f:fT s:=(fC wf).2.2.2.2.1;obtain ⟨w1,w2,w3,o,p,u,j,l,i⟩:=wf;exact AP d (fun r t way at_ a w h=>pQ d r t way at_ a w h) op n b zA zn zc dA dn dc q s A c rs ks hc way at_ a e w1 j l w3 f i w h g hZ hK hKs
theorem HQ {h:Hp}{b:Bool}{c j:Z9}{d f a i:Nat}{q:Rat}(x:RZ h (b,.slice c d f,.slice j a i) q)(e:a=0):q=0:=by subst e;exact IE x
theorem xT  (sm:ByteArray->Prop)(d:Nat)(ih:∀ (r:RTm) (t:Tm) (w:World) (h:Hp),G w h->RmH d h r t->n3 sm d t->Tab h->Calls Tryz.prog 10 #[bJ r] w (Ret w h (fun v h1=>∃ p,v=bU p/\TmH d h1 p t)))(op n:Int)(J:Bool)(F:Z9)(H I:Nat)(D:Z9)(z C:Nat)(q:Rat)(s:ByteArray)(A:Z9)(c:Nat)(y:List RTm)(ks:List Tm)(hc:y.length<=c)(hk3:ks.length<=3)(hop : -1000<=op/\op<=1000)(hn : -1000<=n/\n<=1000)(hq:LQ 3000 q)(hsm:sm s)(hW:∀ i,i<ks.length->n3 sm d (ks.getD i cZ))(w:World)(h:Hp)(g:G w h)(hZ:RZ h (J,.slice F H I,.slice D z C) q)(hK:SlO 7 bE bT h A y)(Z:Rms d h y ks)(tb:Tab h):CR 10 #[bJ ⟨op,n,J,F,H,I,D,z,C,s,A,y.length,c⟩] w h (fun v h1=>∃ p,v=bU p/\TmH (d+1) h1 p (.mk op n q s ks)):=by
 have a:=(((((sS g).add (K:=fun e=>RZ e (J,qS F H I,qS D z C) q) hZ).aS hK).add (K:=fun e=>Rms d e y ks) Z).add (K:=fun e=>Tab e) tb);have hln:=(a.f.2.1).len;refine go Tryz.func10 [(0,bJ ⟨op,n,J,F,H,I,D,z,C,s,A,y.length,c⟩)] rfl (aD (lA 1 31 (bE ⟨op,n,J,F,H,I,D,z,C,s,A,y.length,c⟩) a (fun B w2 h3 a=>lA 2 52 a7 a (fun S w5 h6 a=>aG (lL a [.v (pB B),.o (iV op) 1 0 1,.v (qP B 1),.o (iV n) 1 1 1,.v (qP B 5),.o (.string s) 1 5 1,.v (.agg #[iV op,iV n,qF,uV 0,eS,uV 0,eS,.string s,sZ])] (lA 3 52 a7 a (fun M w8 h9 a=>lP 0 0 ([iV op,iV n,qF,uV 0,eS,uV 0,eS,.string s,sZ]) a (fun _ a=>?_))))))));refine lN (CG.join (fun Γ W=>∃ (L:Rat)(e:Hp),Γ=[(1,pB B),(2,pB S),(3,pB M)]/\SS w h W e [⟨M,52,dh ⟨op,n,L,s,none,0,0⟩⟩,⟨S,52,[iV 0,iV 0,qF,uV 0,eS,uV 0,eS,eS,sZ]⟩,⟨B,31,bE ⟨op,n,J,F,H,I,D,z,C,s,A,y.length,c⟩⟩] [] [fun e=>Tab e,fun e=>Rms d e y ks,fun e=>SlO 7 bE bT e A y,fun e=>RZ e (J,qS F H I,qS D z C) q]/\L=q) ?_ ?_)
 .
  refine aa a [.v (qP B 2),.v (qP B 4),.o (qS D z C) 2 4 1,.v (nV z)] ?_;cases V:(decide ((0:Int)<(z:Int)))
  .
   have zd:=oF V;refine lB 16 V (ag (CG.skip ?_));intro a_ Q;exact ⟨_,⟨0,h9,rfl,a.to _ _,((HQ a.f.r.2.1 oM).symm)⟩,Q.to _ kR⟩
  have zd:=oT V;refine lB 16 V (ak (kQ (lL a [.v (qP B 2),.o (.agg #[.bool J,qS F H I,qS D z C]) 2 2 3] (aq 19 a (Jc (.agg #[.bool J,qS F H I,qS D z C]) q (hq.mono oM) _ _ a.g (HM a.f.r.2.1 oM) a.f.1) (fun _ zj a=>lL a [.v (qP M 2)] (lP 0 2 (qc q) a (fun _ a=>lD ?_)))))));intro a_ Q;exact ⟨_,⟨q,zj,rfl,a.to _ _,rfl⟩,Q.to _ kR⟩
 rintro _ _ ⟨L,zk,rfl,a,hqq⟩;refine cQ (aa a ac (aZ ?_));replace a:=a.nil 52 9;replace a:=a.add (K:=fun e=>Tms d e ([]) (ks.take 0)) (Tms.nil);refine bH _ (CG.loop (fun μ_ Γ W=>∃ (k:Nat)(u:Z9)(j:Nat)(x:List PTm)(e:Hp),μ_=y.length-k/\Γ=[(1,pB B),(2,pB S),(3,pB M),(4,nV k)]/\SS w h W e [⟨M,52,pG op n L s u ((x).length) j⟩,⟨S,52,[iV 0,iV 0,qF,uV 0,eS,uV 0,eS,eS,sZ]⟩,⟨B,31,bE ⟨op,n,J,F,H,I,D,z,C,s,A,y.length,c⟩⟩] [⟨52,9,u,j,(x).length,(x).flatMap dh⟩] [fun e=>Tms d e x (ks.take k),fun e=>Tab e,fun e=>Rms d e y ks,fun e=>SlO 7 bE bT e A y,fun e=>RZ e (J,qS F H I,qS D z C) q]/\k<=y.length) _ ⟨0,none,0,[],zk,rfl,rfl,a.to _ _,Mv _⟩ ?_);rintro _ _ _ ⟨k,u,j,x,_,bb,rfl,a,hk⟩;have hlT:=(a.f.1).len;rw[Lp] at hlT
 refine cQ (aa a [.c,.v (qP B 6),.o (qS A y.length c) 2 6 1,.v (nV y.length)] ?_);cases U:(decide ((k:Int)<(y.length:Int)))
 .
  have ze:=oF U;refine lB 25 U (ag (CG.exit ?_))
  show CG _ _ _ _ _ _ _ _
  refine aD ?_;have X:k=ks.length:=by omega
  obtain ⟨_,a,zi⟩:=a.pubr 0 (A:=u) (c:=j) (l:=x) (f:=dh) (ty:=52) (sz:=9) cC (fun _=>rfl);exact lL a [.o (bU ⟨op,n,L,s,u,(x).length,j⟩) 0 0 9] (lP 1 0 (dh ⟨op,n,L,s,u,(x).length,j⟩) a (fun _ a=>ae a [(1,0,9)] (bU ⟨op,n,L,s,u,(x).length,j⟩) (⟨⟨op,n,L,s,u,x.length,j⟩,rfl,by subst hqq;exact TmH.mk (by have x_:=(a.f.2.1);rw[X,yY] at x_;exact x_) zi a.f.1⟩)))
 have ze:=oT U;refine lB 25 U (ak (cK (cQ (kZ (CG.region ⟨((Value.slice u ((x).length) j).ownBlock.toList),none⟩ 10 [] mixed kR a.g ar (a.ro_lt 0 (ty:=52) (sz:=9) (A:=u) (c:=j) (m:=(x).length) (cs:=(x).flatMap dh)) ?_)))));refine eV 0 28 (qP M 8) (eO 1 29 [(0,8,1)] (qS u ((x).length) j) a ?_ (hM:=fun p hp=>by obtain rfl:=sA.1 hp;exact a.ro_ne 0 0 (ty:=52) (sz:=9) (A:=u) (c:=j) (m:=(x).length) (cs:=(x).flatMap dh)));refine eV 2 30 (qP B 6) (eO 3 31 [(2,6,1)] (qS A y.length c) a ?_ (hM:=fun p hp=>by obtain rfl:=sA.1 hp;exact a.ro_ne 2 0 (ty:=52) (sz:=9) (A:=u) (c:=j) (m:=(x).length) (cs:=(x).flatMap dh)));refine eV 4 32 (nV k) (eX 5 33 A y.length c 7 (k:Nat) k ((a.f.r.2.1).ok oM) (eH 6 34 (bJ (y.getD k bT)) a ((a.f.r.2.1).el k oM) ?_ (hM:=a.ro_jk 0 (ty:=52) (sz:=9) (A:=u) (c:=j) (m:=(x).length) (cs:=(x).flatMap dh))));refine eC 7 35 a (fun _ _ a=>ih (y.getD k bT) (ks.getD k cZ) _ _ a.g ((a.f.r.1).at_ k oM) (hW k oM) a.f.2.1) ?_;rintro _ _ _ _ _ a ⟨O,rfl,Y⟩;replace a:=(a.add (K:=fun e=>TmH d e O (ks.getD k cZ)) Y);refine eR 8 36 52 1 (pC O) a (fun zl _ _ a=>eY 9 37 0 52 9 j u x dh O 112 zl (.agg #[iV 0,iV 0,qF,uV 0,eS,uV 0,eS,eS,sZ]) a (fun _ f_=>f_.1) (fun b hb=>Option.mem_toList.2 hb) (fun zf zg _ _ a=>bS a (fun _ zm a=>tV 10 38 (qP M 8) (tP 11 0 8 ([qS zf ((x++[O]).length) zg]) a (fun _ a=>tN (kQ (lL a ac (bv 27 ((k:Nat)+1) (k+1) ?_))))))));refine lL a ac (lD ?_);intro a_ Q;replace a:=(a.tl.tl.tl.add (K:=fun e=>Tms d e (x++[O]) (ks.take (k+1))) (by rw[mX cZ oM];exact (a.f.r.1).snoc a.f.2.1));refine ⟨_,_,?_,⟨k+1,zf,zg,x++[O],zm,rfl,rfl,a.to _ _,oM⟩,Q.to _ kR⟩
 omega
theorem un (sm:ByteArray->Prop):∀ (d:Nat) (r:RTm) (t:Tm) (w:World) (h:Hp),G w h->RmH d h r t->n3 sm d t->Tab h->Calls Tryz.prog 10 #[bJ r] w (Ret w h (fun v h1=>∃ p,v=bU p/\TmH d h1 p t))
  | 0,_,_,_,_,_,x,_,_=>x.elim
  | d+1,r,t,w,h,g,x,wf,tb=>by
    obtain ⟨op,n,b,I,l,C,z,F,e,q,s,A,c,i,ks,rfl,rfl,B,y,u,a⟩:=x.open;obtain ⟨o,j,D,f,H,J⟩:=wf;exact xT sm d (fun r t w h=>un sm d r t w h) op n b I l C z F e q s A c i ks y o j D f H J w h g B u a tb
theorem Bi (way:Int)(w:World)(h:Hp)(g:G w h):CR 6 #[iV way] w h (fun v h1=>∃ (B:Z9)(c_:Nat)(ns:List ByteArray),v=.slice B ns.length c_/\ns.length<=c_/\NsD ns/\SlO 1 bB ⟨#[]⟩ h1 B ns):=by
 have a:=sS g;refine go Tryz.func6 [(0,iV way)] rfl (aa a ac (ah (aa a ac (aq 4 a (eA (way) 9 oM oM _ _ a.g) (fun w2 K a=>?_)))));have I:=ct (way) 9 oM;refine aZ (aD ?_);cases c:(((aN (way) 9:Nat):Int) == (0:Int))
 .
  have p:=aj c;refine lB 6 c (lL a ac (ag (aD ?_)));cases e:(((aN (way) 9:Nat):Int) == (1:Int))
  .
   have x:=aj e;refine lB 9 e (lL a ac (ag (aD ?_)));cases j:(((aN (way) 9:Nat):Int) == (2:Int))
   .
    have u:=aj j;refine lB 12 j (lL a ac (ag (aD ?_)));cases i:(((aN (way) 9:Nat):Int) == (3:Int))
    .
     have y:=aj i;refine lB 15 i (lL a ac (ag (cK (aD (lC 17 a (AI _ _ a.g) ?_)))));rintro _ M L a ⟨J,rfl,z⟩;replace a:=a.aS z;exact lL a ac (ae a [] (qS (sB J) 3 3) (⟨_,_,cA,rfl,by decide,.inr (.inr (.inr (.inr (.inl rfl)))),a.f.1⟩))
    have y:=eq_of_beq i;refine lB 15 i (lL a ac (ak (aD (lR 16 9 4 ([.string (⟨#[122]⟩),.string (⟨#[121]⟩),.string (⟨#[120]⟩),.string (⟨#[119]⟩)]) a (fun C _ _ a=>?_)))));replace a:=a.aS (SlO.of_flat (sz:=1) (f:=bB) (d:=⟨#[]⟩) (b:=C) (o:=0) (l:=([⟨#[122]⟩,⟨#[121]⟩,⟨#[120]⟩,⟨#[119]⟩]:List ByteArray)) (fun _=>rfl) a.f.1);exact lL a ac (ae a [] (qS (sB C) 4 4) (⟨_,_,([⟨#[122]⟩,⟨#[121]⟩,⟨#[120]⟩,⟨#[119]⟩]:List ByteArray),rfl,by decide,.inr (.inr (.inr (.inl rfl))),a.f.1⟩))
   have u:=eq_of_beq j;refine lB 12 j (lL a ac (ak (aD (lR 13 9 4 ([.string (⟨#[109,97,120]⟩),.string (⟨#[120]⟩),.string (⟨#[121]⟩),.string (⟨#[122]⟩)]) a (fun F _ _ a=>?_)))));replace a:=a.aS (SlO.of_flat (sz:=1) (f:=bB) (d:=⟨#[]⟩) (b:=F) (o:=0) (l:=([⟨#[109,97,120]⟩,⟨#[120]⟩,⟨#[121]⟩,⟨#[122]⟩]:List ByteArray)) (fun _=>rfl) a.f.1);exact lL a ac (ae a [] (qS (sB F) 4 4) (⟨_,_,([⟨#[109,97,120]⟩,⟨#[120]⟩,⟨#[121]⟩,⟨#[122]⟩]:List ByteArray),rfl,by decide,.inr (.inr (.inl rfl)),a.f.1⟩))
  have x:=eq_of_beq e;refine lB 9 e (lL a ac (ak (aD (lR 10 9 4 ([.string (⟨#[120]⟩),.string (⟨#[121]⟩),.string (⟨#[122]⟩),.string (⟨#[120]⟩)]) a (fun D _ _ a=>?_)))));replace a:=a.aS (SlO.of_flat (sz:=1) (f:=bB) (d:=⟨#[]⟩) (b:=D) (o:=0) (l:=([⟨#[120]⟩,⟨#[121]⟩,⟨#[122]⟩,⟨#[120]⟩]:List ByteArray)) (fun _=>rfl) a.f.1);exact lL a ac (ae a [] (qS (sB D) 4 4) (⟨_,_,([⟨#[120]⟩,⟨#[121]⟩,⟨#[122]⟩,⟨#[120]⟩]:List ByteArray),rfl,by decide,.inr (.inl rfl),a.f.1⟩))
 have p:=eq_of_beq c;refine lB 6 c (lL a ac (ak (aD (lR 7 9 2 ([.string (⟨#[120]⟩),.string (⟨#[121]⟩)]) a (fun H _ _ a=>?_)))));replace a:=a.aS (SlO.of_flat (sz:=1) (f:=bB) (d:=⟨#[]⟩) (b:=H) (o:=0) (l:=([⟨#[120]⟩,⟨#[121]⟩]:List ByteArray)) (fun _=>rfl) a.f.1);exact lL a ac (ae a [] (qS (sB H) 2 2) (⟨_,_,([⟨#[120]⟩,⟨#[121]⟩]:List ByteArray),rfl,by decide,.inl rfl,a.f.1⟩))
theorem q9 (A:Z9)(c:Nat)(l:List Int)(n:Nat)(way:Int)(hn:n<=100)(y:l.length<=9223372036854775807)(hz:nu l)(w:World)(h:Hp)(g:G w h)(B:Si A l h):CR 7 #[.slice A l.length c,nV n,iV way] w h (fun v h1=>∃ (z:Z9)(c_:Nat)(ts:List RT)(fs:List Rat),v=.slice z ts.length c_/\ts.length<=c_/\Sr z ts h1/\RTs h1 ts fs/\(∀ i,LQ 1 (fs.getD i 0))/\fs.length<=n+1):=by
 have a:=((sS g).aS B);refine go Tryz.func7 [(0,qS A l.length c),(1,nV n),(2,iV way)] rfl (aa a ac (ah (aa a ac (aq 8 a (eA (way) 11 oM oM _ _ a.g) (fun w2 H a=>?_)))));have C:=ct (way) 11 oM;cases d:(((aN (way) 11:Nat):Int) == (10:Int))
 .
  have p:=aj d;refine lB 9 d (ag (cK (aa a ax (lC 14 a (IS A c l n oM y hz _ _ a.g a.f.1) ?_))));rintro _ J F a ⟨x,u,tr,rfl,o,e,j⟩;replace a:=((a.aS e).aT j);exact lL a ac (ae a [] (qS x tr.length u) (⟨_,_,tr,_,rfl,o,a.f.2.1,a.f.1,pp _ _,by rw[mF];omega⟩))
 have p:=eq_of_beq d;refine lB 9 d (ak (kQ (lL a ac (bv 11 ((n:Nat)+1) (n+1) ?_))));refine lL a ac (aG (lL a ax (lC 14 a (IS A c l (n+1) oM y hz _ _ a.g a.f.1) ?_)));rintro _ I D a ⟨x,u,tr,rfl,o,e,j⟩;replace a:=((a.aS e).aT j);exact lL a ac (ae a [] (qS x tr.length u) (⟨_,_,tr,_,rfl,o,a.f.2.1,a.f.1,pp _ _,by rw[mF];omega⟩))
theorem Hf (A:Z9)(d:Nat)(e:List Int)(x:e.length<=9223372036854775807)(hz:nu e)(i:Nat)(l:i<=1000)(w:World)(h:Hp)(g:G w h)(B:Si A e h):CR 5 #[.slice A e.length d,nV i] w h (fun v h1=>∃ (r:RTm)(t:Tm),v=bJ r/\RmH (i+1) h1 r t/\GrT (i+1) t):=by
 have a:=((sS g).aS B);refine go Tryz.func5 [(0,qS A e.length d),(1,nV i)] rfl (aD (lA 4 31 (bE ⟨0,0,false,none,0,0,none,0,0,⟨#[]⟩,none,0,0⟩) a (fun u w2 I a=>aG (lL a [.c,.v (.agg #[qS A e.length d,iV 0])] (lA 7 66 ([qS A e.length d,iV 0]) a (fun p L H a=>lL a ac (gk 9 (Ey p i rfl A d e x hz i rfl l 0 (Mv _) _ _ a.g (a.own 0) (a.jk 0) a.f.1) ?_)))))));rintro _ J F y ⟨r,t,j,rfl,o,z,hR,D⟩;replace a:=(a.stepM 0 y z).to [⟨p,66,[qS A e.length d,nV j]⟩,⟨u,31,bE ⟨0,0,false,none,0,0,none,0,0,⟨#[]⟩,none,0,0⟩⟩] [];replace a:=(a.add (K:=fun C=>RmH (i+1) C r t) hR);exact lP 1 0 (bE r) a (fun _ a=>ae a [(1,0,7)] (bJ r) (⟨r,t,rfl,a.f.1,D⟩))
section laws
variable {M:Ms}{P:Program}{ops:Array Oper}{Q:Exit->Act->World->Prop}{k0:Nat}
theorem E.eventN {h0:Hp}{AL:List Al}{L:Array Bool}{a:Act}{w:World}{h:Hp}(I:List Nat)(i0:Nat)(O:i0∈I)
    (B:∀ i∈I,i<ops.size/\i<k0)(J:Region.noSelect ops=true)(hun:L.getD i0 true=false)
    (V:∀ j X,ops[j]?=some X->L.getD j true=false->j ∉ I->(∀ x∈AL,x.i≠j)->∃ e∈X.after,Region.binds .any e=true/\L.getD e.on false=false/\∀ x∈AL,x.i≠e.on)
    (F:∀ e∈(am ops i0).after,Region.binds .any e=true->L.getD e.on false=true)
    (hal:∀ i∈I,∀ x∈AL,x.i≠i/\x.t ∉ (am ops i).looksAt ops/\(am ops i).dst≠some x.t)(oks:∀ x∈AL,AlOk P ops k0 x)(hM:∀ b∈M.l,b<h0.size)(g:G w h)(hsz:h0.size<=h.size)
    (H:∀ i∈I,L.getD i true=false->∀ w' o,Up w h w' o->OpR P ops (am ops i) a w' (fun v p=>∃ y,UpM M.l w' o p y/\E M P ops Q k0 h0 AL (L.setIfInBounds i true) (a.put (am ops i).dst v) p y)):E M P ops Q k0 h0 AL L a w h:=by
  have key:∀ (m:Nat) (T:List Al),T.length=m->∀ w' o,Up w h w' o->∀ (S:List SA),(S.map (·.1)++T).Perm AL->(∀ s∈S,Blk h0 w' o s)->(S.map (·.2)).Nodup ->
      A M P ops Q k0 (ej L S) (addA a S) w':=by
    intro m
    induction m using g4 with
    | _ m ih =>
      intro T hT w' o u S D W hn;have f:∀ i∈I,∀ s∈S,s.1.i≠i/\s.1.t ∉ (am ops i).looksAt ops/\(am ops i).dst≠some s.1.t:=fun i hi s d=>hal i hi _ (iI D d)
      refine A.intro (fun h0'=>?_) (fun j hj=>?_)
      . exfalso
        have:i0∈Region.ready .any ops (ej L S):=mem_ready.2 ⟨by rw[ja true (fun s d=>(f i0 O s d).1)];exact hun,_,bG (B i0 O).1,fun e U C=>kl (F e U C)⟩;rw[h0'] at this
        cases this
      . by_cases hji:j∈I
        . have z:=bG (ops:=ops) (B j hji).1
          have c:L.getD j true=false:=by
            obtain ⟨c,_⟩:=mem_ready.1 hj;exact gT c
          refine OpR.wpOp z ((H j hji c w' o u).addA (Region.noSelect_spec J j _ · · z) S (fun s d=>(f j hji s d).2.1)) ?_;rintro v p ⟨y,Y,H3⟩;refine ⟨Rl.mo (B j hji).2 Y.mo,?_⟩;rw[<-l6 L S j (fun s d=>(f j hji s d).1),<-lM a S _ v (fun s d=>(f j hji s d).2.2)];exact H3 p y (Up.refl Y.g) S T D (fun s d=>(W s d).up Y hM) hn
        . obtain ⟨c,X,hoj,K⟩:=mem_ready.1 hj
          have hx:∃ x∈AL,x.i=j:=by
            refine Classical.byContradiction fun hno=>?_
            obtain ⟨e,U,C,hf,hne⟩:=V j X hoj (gT c) hji (fun x hx U=>hno ⟨x,hx,U⟩);have:=K e U C;rw[ja false (fun s d=>hne _ (iI D d)),hf] at this
            cases this
          obtain ⟨x,Z,rfl⟩:=hx;have hxT:=iL D Z hj;exact oU oks hM u.g (eb hsz u.gr.size) D W hn hxT (fun w1 h1 S1 T1 u1 hp1 hb1 hn1 hlt=>ih T1.length oM T1 rfl w1 h1 (u.trans u1) S1 hp1 hb1 hn1)
  exact fun w' o u S T D W hn=>key _ T rfl w' o u S D W hn
end laws
section dag
variable {M:Ms}{P:Program}{n:Nat}{N R:Po}{X:Nat->Po}{ops:Array Oper}{k0:Nat}{hr:Hp}{AL:List Al}{L:Array Bool}{Γ:cl}{w:World}{h:Hp}
def SrD (P:Program)(ops:Array Oper)(Γ:cl)(i:Nat)(w:World)(h:Hp)(Φ:Value->World->Hp->Prop):Prop :=
  (∃ v w'' h'',(execOp (ev Γ) (am ops i)).run P w=.ok (.value v) w''/\Up w h w'' h''/\Φ v w'' h'') \/
  (∃ f args,(execOp (ev Γ) (am ops i)).run P w=.ok (.enter f args) w/\Calls P f args w (fun e w''=>∃ v h'',e=.returned v/\Up w h w'' h''/\Φ v w'' h''))
theorem SrD.mono {i:Nat}{Φ Φ':Value->World->Hp->Prop}(x:SrD P ops Γ i w h Φ)(k:∀ v w' a,Up w h w' a->Φ v w' a->Φ' v w' a):SrD P ops Γ i w h Φ':=by
 rcases x with ⟨v,w',a,e,u,p⟩|⟨f,args,e,c⟩
 ·exact .inl ⟨v,w',a,e,u,k _ _ _ u p⟩
 ·exact .inr ⟨f,args,e,c.mono fun e w' ⟨v,a,d,u,p⟩=>⟨v,a,d,u,k _ _ _ u p⟩⟩
theorem IP {Γ:cl}{o:Oper}(h:o.guard.isNone=true):bh ops Γ o=some true:=by
 unfold bh
 rw[Ou.1 h]
theorem SrD.opR {i:Nat}{a:Act}{K:Value->World->Hp->Prop}(z:Region.noSelect ops=true)(hi:i<ops.size)(hk:aY Γ (am ops i)=true)(B:(am ops i).guard.isNone=true)(j:Kn n a Γ)(x:SrD P ops Γ i w h K) :
  OpR P ops (am ops i) a w (fun v w'=>∃ d,UpM M.l w h w' d/\K v w' d):=by
 have o:=j.exec (Region.noSelect_spec z i _ · · (bG hi)) hk;refine ⟨j.want (IP B),?_⟩;rw[o]
 rcases x with ⟨v,w',d,e,u,p⟩|⟨f,args,e,c⟩
 ·exact .inl ⟨v,w',e,d,u.m M.l,p⟩
 ·exact .inr (.inr ⟨f,args,e,c.mono fun e w' ⟨v,d,y,u,p⟩=>⟨v,y,d,u.m M.l,p⟩⟩)
structure DS where
  i:Nat
  t:Nat
  K:Value->Hp->Prop
  D:List (Nat × Value)
structure DOk (P:Program) (ops:Array Oper) (Γ:cl) (s:DS):Prop where
  known:aY (s.D++Γ) (am ops s.i)=true
  run:∀ w h,G w h->SrD P ops (s.D++Γ) s.i w h (fun v _ h''=>s.K v h'')
  stay:∀ v h h',Gw h h'->s.K v h->s.K v h'
theorem DOk.row (i t:Nat)(ty:TypeId)(m:Nat)(cs:List Value)(D:List (Nat × Value))(hk:aY (D++Γ) (am ops i)=true:=by kernel_rfl)
  (hv:∀ w,(execOp (ev (D++Γ)) (am ops i)).run P w=.ok (.value (.slice (some ⟨w.heap.size,0,none⟩) m m)) (w.alloc (.cells cs.toArray ty (0,0))):=by intro _;kernel_rfl):DOk P ops Γ ⟨i,t,fun v h=>∃ b,v=.slice (some ⟨b,0,none⟩) m m/\Seg h b 0 cs,D⟩ :=
 ⟨hk,fun w h g=>by
  have u:Up w h (w.alloc (.cells cs.toArray ty (0,0))) _:=Up.allocAny g (.cells cs.toArray ty (0,0)) (.cells cs.toArray ty (0,0)) (.inl rfl);exact .inl ⟨_,_,_,hv w,u,_,rfl,by rw[g.size];exact Seg.new cs ty⟩,fun v h a u ⟨b,e,s⟩=>⟨b,e,s.gw u⟩⟩
theorem DOk.call (i t:Nat){f:FuncId}{args:Array Value}(d:Value)(D:List (Nat × Value))(c:∀ w h,G w h->Calls P f args w (Ret w h fun v _=>v=d))(hk:aY (D++Γ) (am ops i)=true:=by kernel_rfl)
  (hv:∀ w,(execOp (ev (D++Γ)) (am ops i)).run P w=.ok (.enter f args) w:=by intro _;kernel_rfl):DOk P ops Γ ⟨i,t,fun v _=>v=d,D⟩ :=
 ⟨hk,fun w h g=>.inr ⟨f,args,hv w,(c w h g).mono fun e w' ⟨v,j,l,u,a⟩=>⟨v,j,l,u,a⟩⟩,fun _ _ _ _ x=>x⟩
def sD (ops:Array Oper)(L:Array Bool)(i:Nat):Bool:=(am ops i).after.all fun e=>!Region.binds .any e || L.getD e.on false
def KR (n:Nat)(ops:Array Oper)(k0:Nat)(AL:List Al)(L:Array Bool)(I:List (Nat × Nat)):Bool :=
  Region.noSelect ops && (I.all fun x=>decide (x.1<ops.size) && decide (x.1<k0) && tO ops AL x.1 (am ops x.1) && ((am ops x.1).dst == some x.2) && decide (x.2<n) && (am ops x.1).guard.isNone) &&
  (ov ops.size).all fun j=>L.getD j true || I.any (·.1 == j) || AL.any (·.i == j) || (am ops j).after.any fun e=>Region.binds .any e && (L.getD e.on false == false) && AL.all (·.i != e.on)
abbrev SK:=Nat × Nat × List Nat
def mg (n:Nat)(ops:Array Oper)(k0:Nat)(AL:List Al)(Lf:Array Bool):Nat->Array Bool->List SK->Bool
  | 0,L,D=>D.isEmpty && (L.toList == Lf.toList)
  | m + 1,L,D=>((D.filter fun s=>sD ops L s.1).any fun s=>L.getD s.1 true == false) && KR n ops k0 AL L ((D.filter fun s=>sD ops L s.1).map fun s=>(s.1,s.2.1)) &&
      (D.filter fun s=>sD ops L s.1).all fun s=>(s.2.2.all fun t=>D.all fun s'=>s'.2.1 != t) && (D.all fun s'=>s'.1 == s.1 || s'.2.1 != s.2.1) && mg n ops k0 AL Lf m (L.setIfInBounds s.1 true) (D.filter fun s'=>s'.1 != s.1)
def DS.k (s:DS):SK:=(s.i,s.t,s.D.map (·.1))
theorem sa {β:Type}{f:DS->β}:∀ {D:List DS},(D.map f).Nodup->∀ {s s':DS},s∈D->s'∈D->f s=f s'->s=s'
  | x :: D,h,s,s',hs,hs',e=>by
    rw[List.map_cons,List.nodup_cons] at h
    rcases gs.1 hs with e1|hs
    . rcases gs.1 hs' with e2|hs'
      . rw[e1,e2]
      . exact absurd (gg.2 ⟨s',hs',by rw[<-e,e1]⟩) h.1
    . rcases gs.1 hs' with e2|hs'
      . exact absurd (gg.2 ⟨s,hs,by rw[e,e2]⟩) h.1
      . exact sa h.2 hs hs' e
def Ent (n:Nat)(a:Act)(x:Nat × Value):Prop:=x.1<n/\a.tmps[x.1]?=some x.2
theorem GO {t:Nat}{v:Value}{D:List (Nat × Value)}(h:(D++Γ).lookup t=some v):(∃ x∈D,x.1=t/\x.2=v)\/(Γ.lookup t=some v/\∀ x∈D,x.1≠t):=by
  induction D with
  | nil=>exact .inr ⟨h,fun x c=>by cases c⟩
  | cons x D ih =>
    rw[Ll,hO] at h
    cases h0:t == x.1 with
    | true=>rw[h0] at h;injection h with h;exact .inl ⟨x,MD,(by simpa using h0:t=x.1).symm,h⟩
    | false =>
      rw[h0] at h
      rcases ih h with ⟨y,a,e⟩|⟨h1,h2⟩
      . exact .inl ⟨y,ME _ a,e⟩
      . refine .inr ⟨h1,fun y a=>?_⟩
        rcases gs.1 a with rfl|a
        . exact fun e=>by subst e;simp at h0
        . exact h2 y a
theorem HJ {a:Act}{D:List (Nat × Value)}(nb:n<=1000000)(c:∀ x∈D,Ent n a x):gl (D++Γ)=gl Γ:=by
  induction D with
  | nil=>rfl
  | cons x D ih =>
    rw[<-ih (fun y d=>c y (ME _ d))];have f:=(c x MD).1;have e:((1000000:Nat) == x.1)=false:=by simp;omega
    unfold gl
    rw[Ll,hO,e]
theorem xg {a:Act}{D:List (Nat × Value)}(k:Kn n a Γ)(c:∀ x∈D,Ent n a x):Kn n a (D++Γ):=by
 refine ⟨k.df.trans (HJ k.nb c).symm,k.sz,k.nb,fun t v d hv=>?_⟩
 rcases GO hv with ⟨x,hx,rfl,rfl⟩|⟨h1,_⟩
 ·exact (c x hx).2
 ·exact k.has t v d h1
theorem Ent.put {a:Act}{x:Nat × Value}(e:Ent n a x){t:Nat}(v:Value)(h:x.1≠t):Ent n (a.put (some t) v) x:=⟨e.1,by
 have:(a.put (some t) v).tmps=a.tmps.setIfInBounds t v:=by simp[Act.put]
 rw[this,Array.getElem?_setIfInBounds_ne (fun c=>h c.symm)];exact e.2⟩
theorem Ent.new {a:Act}(k:Kn n a Γ){t:Nat}(c:t<n)(v:Value):Ent n (a.put (some t) v) (t,v):=⟨c,(k.put c v).has t v (by have:=k.nb;omega) (by rw[hO];simp)⟩
theorem BU {a:Act}(k:Kn n a Γ){t:Nat}(d:t<n)(v:Value)(hn:Γ.lookup t=none):Kn n (a.put (some t) v) Γ:=by
  have k2:=k.put d v;have e:((1000000:Nat) == t)=false:=by have:=k.nb;simp;omega
  refine ⟨k2.df.trans (by unfold gl;rw[hO,e]),k2.sz,k2.nb,fun s u f c=>k2.has s u f ?_⟩;rw[hO];cases h0:s == t with
  | true => have:s=t:=by simpa using h0
            subst this;rw[hn] at c;cases c
  | false=>exact c
theorem Jo (z:List DS)(Γ:cl)(ok:∀ s∈z,DOk P ops Γ s)(hdt:∀ s∈z,∀ x∈s.D,∃ c∈z,c.t=x.1/\∀ v h,c.K v h->v=x.2)(hfr:∀ s∈z,Γ.lookup s.t=none)(hni:(z.map (·.i)).Nodup)(hnt:(z.map (·.t)).Nodup){Lf:Array Bool}(oks:∀ x∈AL,AlOk P ops k0 x)(hM:∀ b∈M.l,b<hr.size) :
    ∀ (m:Nat) (D:List DS) (L:Array Bool) (a:Act) (w:World) (h:Hp),mg n ops k0 AL Lf m L (D.map DS.k)=true->(∀ s∈D,s∈z)->(∀ s∈z,s∈D\/∃ v,Ent n a (s.t,v)/\s.K v h)->G w h->hr.size<=h.size->Kn n a Γ ->
      (∀ w' h' a',Up w h w' h'->(∀ s∈z,∃ v,Ent n a' (s.t,v)/\s.K v h')->Kn n a' Γ->E M P ops (iP N R X) k0 hr AL Lf a' w' h')->E M P ops (iP N R X) k0 hr AL L a w h:=by
  intro m
  induction m with
  | zero =>
    intro D L a w h B hD hI g J W K
    unfold mg at B
    rw[i2] at B
    have e0:D=[]:=by
      cases D with
      | nil=>rfl
      | cons x D=>simp at B
    have e:L=Lf:=Array.ext' (by simpa using B.2);subst e0;subst e;exact K w h a (Up.refl g) (fun s O=>(hI s O).resolve_left (by simp)) W
  | succ m ih =>
    intro D L a w h B hD hI g J W K
    unfold mg at B
    simp only[i2,sx,oi] at B
    obtain ⟨⟨⟨k0_,Z,hk1⟩,Q⟩,S⟩:=B
    unfold KR at Q
    simp only[i2,oi,decide_eq_true_eq,beq_iff_eq] at Q
    obtain ⟨⟨C,H⟩,I⟩:=Q
    have p:∀ i,i∈((D.map DS.k).filter fun s=>sD ops L s.1).map (·.1)->∃ s∈D,s.i=i/\DS.k s∈(D.map DS.k).filter fun s=>sD ops L s.1:=fun i hi=>by
      obtain ⟨x,f,rfl⟩:=gg.1 hi;obtain ⟨hx1,F⟩:=Ov.1 f;obtain ⟨s,O,rfl⟩:=gg.1 hx1;exact ⟨s,O,rfl,f⟩
    refine E.eventN (((D.map DS.k).filter fun s=>sD ops L s.1).map (·.1)) k0_.1 (gg.2 ⟨k0_,Z,rfl⟩) (fun i hi=>?_) C (by simpa using hk1) ?_ ?_ (fun i hi=>?_) oks hM g J (fun i hi V w' h' u=>?_)
    . obtain ⟨s,O,rfl,f⟩:=p i hi
      have:=H (s.i,s.t) (gg.2 ⟨_,f,rfl⟩);exact ⟨this.1.1.1.1.1,this.1.1.1.1.2⟩
    . intro j oj hj V hji hal
      have hlt:=(Array.getElem?_eq_some_iff.1 hj).1;have e:oj=am ops j:=by have:=bG (ops:=ops) hlt;rw[hj] at this;injection this
      have:=I j (List.mem_range.2 hlt)
      simp only[Bool.or_eq_true,V,Bool.false_eq_true,false_or,sx,Array.any_eq_true,beq_iff_eq,i2] at this
      rcases this with (⟨x,f,hxe⟩|⟨x,f,hxe⟩)|⟨x,f,⟨hb,hL⟩,hno⟩
      . exfalso
        obtain ⟨y,hy,rfl⟩:=gg.1 f;exact hji (gg.2 ⟨y,hy,hxe⟩)
      . exact absurd hxe (hal x f)
      . rw[e]
        refine ⟨_,Array.getElem_mem f,hb,hL,fun y hy=>?_⟩;have:=(oi.1 hno) y hy
        simpa using this
    . intro e he hb
      have:=(Ov.1 Z).2
      unfold sD at this
      have:=(Array.all_eq_true_iff_forall_mem.1 this) e he
      simpa [hb] using this
    . obtain ⟨s,O,rfl,f⟩:=p i hi
      have:=H (s.i,s.t) (gg.2 ⟨_,f,rfl⟩);exact jr this.1.1.1.2
    . obtain ⟨s,O,rfl,f⟩:=p i hi
      have hi2:=H (s.i,s.t) (gg.2 ⟨_,f,rfl⟩);obtain ⟨⟨⟨⟨⟨q1,q2⟩,q3⟩,q4⟩,q5⟩,q6⟩:=hi2;obtain ⟨⟨r1,r2⟩,r3⟩:=S _ f;have o:=hD s O;have okk:=ok s o
      have Y:∀ x∈s.D,Ent n a x:=fun x F=>by
        obtain ⟨c,d,e1,e2⟩:=hdt s o x F
        rcases hI c d with hm|⟨v,hv,hK⟩
        . exfalso
          have:=r1 x.1 (gg.2 ⟨x,F,rfl⟩);have:=this (DS.k c) (gg.2 ⟨c,hm,rfl⟩);have:c.t≠x.1:=by simpa [DS.k] using this
          exact this e1
        . have:=e2 v _ hK
          rw[e1,this] at hv
          exact hv
      have U:=xg W Y;rw[show (am ops s.i).dst=some s.t from q4];refine SrD.opR C q1 okk.known q6 U (SrD.mono (okk.run w' h' u.g) fun v w'' h'' u2 hK=>?_);refine ih (D.filter fun c=>c.i != s.i) _ _ w'' h'' ?_ (fun c d=>hD c (Ov.1 d).1) (fun c d=>?_) u2.g (eb J (u.trans u2).gr.size) (BU W q5 v (hfr s o)) (fun w3 h3 a3 u3=>K w3 h3 a3 ((u.trans u2).trans u3))
      . have e:(D.map DS.k).filter (fun c=>c.1 != s.i)=(D.filter fun c=>c.i != s.i).map DS.k:=by rw[List.filter_map];rfl
        rw[<-e];exact r3
      . by_cases es:c=s
        . subst es;exact .inr ⟨v,Ent.new W q5 v,hK⟩
        . rcases hI c d with hm|⟨v',hv',hK'⟩
          . refine .inl (Ov.2 ⟨hm,?_⟩)
            simp only[bne_iff_ne,ne_eq]
            exact fun e=>es (sa hni d o e)
          . exact .inr ⟨v',hv'.put v (fun e=>es (sa hnt d o e)),(ok c d).stay _ _ _ (u.trans u2).gr.gw hK'⟩
def sU:List DS->List Value->Hp->Prop
  | [],vs,_=>vs=[]
  | s::D,vs,h=>∃ v vs',vs=v::vs'/\s.K v h/\sU D vs' h
def FY:List DS->List Value->List (Nat × Value)
  | s::D,v::vs=>(s.t,v)::FY D vs
  | _,_=>[]
theorem qu {a:Act}{h:Hp}:∀ (D:List DS),(∀ s∈D,∃ v,Ent n a (s.t,v)/\s.K v h)->∃ vs,sU D vs h/\∀ x∈FY D vs,Ent n a x
  | [],_=>⟨[],rfl,fun x c=>by cases c⟩
  | s::D,H=>by
    obtain ⟨vs,h1,d⟩:=qu D (fun s i=>H s (ME _ i));obtain ⟨v,e,f⟩:=H s MD;refine ⟨v::vs,⟨v,vs,rfl,f,h1⟩,fun x c=>?_⟩
    rcases gs.1 c with rfl|c
    . exact e
    . exact d x c
def I7 (L:Array Bool)(D:List SK):Array Bool:=D.foldl (fun L x=>L.setIfInBounds x.1 true) L
def DagOk (P:Program)(ops:Array Oper)(Γ:cl):List DS->Prop
  | []=>True
  | s::D=>DOk P ops Γ s/\DagOk P ops Γ D
theorem DagOk.nil {P:Program}{ops:Array Oper}{Γ:cl}:DagOk P ops Γ []:=trivial
theorem DagOk.cons {P:Program}{ops:Array Oper}{Γ:cl}{s:DS}{D:List DS}(h:DOk P ops Γ s)(r:DagOk P ops Γ D):DagOk P ops Γ (s::D):=⟨h,r⟩
theorem x9 {P:Program}{ops:Array Oper}{Γ:cl}:∀ {D:List DS},DagOk P ops Γ D->∀ s∈D,DOk P ops Γ s
  | _::_,h,s,hs=>by
    rcases gs.1 hs with rfl|hs
    . exact h.1
    . exact x9 h.2 s hs
theorem Rg.dag (D:List DS)(ks:List SK)(z:D.map DS.k=ks)(ok:DagOk P ops Γ D)(o:∀ s∈D,∀ x∈s.D,∃ s'∈D,s'.t=x.1/\∀ v h,s'.K v h->v=x.2)
  (H:∀ w' d vs,Up w h w' d->sU D vs d->EG M P n N R X ops k0 hr AL (I7 L ks) (FY D vs++Γ) w' d)
  (B:mg n ops k0 AL (I7 L ks) ks.length L ks=true:=by kernel_rfl)(y:(ks.all fun x=>(Γ.lookup x.2.1).isNone)=true:=by kernel_rfl)(j:(ks.map (·.1)).Nodup:=by decide)(c:(ks.map (·.2.1)).Nodup:=by decide):EG M P n N R X ops k0 hr AL L Γ w h:=by
 intro f hM g i a F;subst z
 have e:∀ s∈D,Γ.lookup s.t=none:=fun s l=>by
  have:=oi.1 y (DS.k s) (gg.2 ⟨s,l,rfl⟩);exact Ou.1 this
 rw[List.map_map] at j c
 refine Jo D Γ (x9 ok) o e j c f hM _ D L a w h (by rw[List.length_map] at B;exact B) (fun _ h=>h) (fun s l=>.inl l) g i F (fun w' d J u I p=>?_);obtain ⟨vs,h1,C⟩:=qu D I;exact H w' d vs u h1 f hM u.g (eb i u.gr.size) J (xg p C)
end dag
def Cp (p:Nat->Bool)(s:ByteArray):Nat->Nat->Nat
  | 0,a=>a
  | f+1,a=>if a<s.size/\p (aU s a)=true then Cp p s f (a+1) else a
def rn (p:Nat->Bool)(s:ByteArray)(a:Nat):Nat:=Cp p s (s.size-a) a
theorem BS (p:Nat->Bool)(s:ByteArray):∀ f a,a<=s.size->Cp p s f a<=s.size
  | 0,a,h=>h
  | f+1,a,h=>by
    unfold Cp;split
    . rename_i c;exact BS p s f (a+1) c.1
    . exact h
theorem BR {p:Nat->Bool}{s:ByteArray}{a:Nat}(h:a<=s.size):rn p s a<=s.size:=BS p s _ a h
theorem AH {p:Nat->Bool}{s:ByteArray}{j:Nat}:∀ f a,s.size-a<=f->a<=j->j<=s.size->(∀ i,a<=i->i<j->p (aU s i)=true)->(j=s.size\/p (aU s j)=false)->Cp p s f a=j
  | 0,a,h1,h2,h3,_,_=>by show a=j;omega
  | f + 1,a,h1,h2,h3,h4,h5=>by
    unfold Cp
    by_cases e:a=j
    . subst e
      rw[if_neg];rintro ⟨h,c⟩
      rcases h5 with h5|h5
      . omega
      . rw[h5] at c;cases c
    . rw[if_pos ⟨by omega,h4 a (ea a) oM⟩]
      exact AH f (a+1) oM oM h3 (fun i hi d=>h4 i oM d) h5
theorem qm {p:Nat->Bool}{s:ByteArray}{a j:Nat}(d:a<=j)(e:j<=s.size)(f:∀ i,a<=i->i<j->p (aU s i)=true)(c:j=s.size\/p (aU s j)=false):rn p s a=j:=AH _ a (ea _) d e f c
theorem pH (p:Nat->Bool)(s:ByteArray):∀ f a,s.size-a<=f->Cp p s f a<s.size->p (aU s (Cp p s f a))=false
  | 0,a,h1,d=>by
    have d:a<s.size:=d
    omega
  | f + 1,a,h1,d=>by
    unfold Cp at d ⊢
    split
    . rename_i c;rw[if_pos c] at d;exact pH p s f (a+1) oM d
    . rename_i c;rw[if_neg c] at d
      cases h:p (aU s a) with
      | true=>exact absurd ⟨d,h⟩ c
      | false=>rfl
def DM (c:Nat):Bool:=decide (c=32)
def me (c:Nat):Bool:=decide ((48<=c/\c<=57)\/c=46)
def hJ (c:Nat):Bool:=decide (pA c)
def sk (s:ByteArray)(a:Nat):Nat:=rn DM s a
theorem mJ {s:ByteArray}{a:Nat}(h:a<=s.size):sk s a<=s.size:=BR h
theorem JP (s:ByteArray)(a:Nat):sk s (sk s a)=sk s a:=by
 rcases cD (sk s a) s.size with h1|h1
 ·exact qm (ea _) (Nat.le_of_lt h1) (fun i c d=>absurd c oM) (.inr (pH DM s (s.size-a) a (ea _) h1))
 ·show Cp DM s (s.size-sk s a) (sk s a)=sk s a
  rw[show s.size-sk s a=0 by omega];rfl
theorem tJ {s:ByteArray}{a:Nat}(h:s.size<=a):aU s a=0:=by
 unfold aU
 rw[LI,List.getElem?_eq_none (by simpa using h)];rfl
theorem xJ {s:ByteArray}{a:Nat}(h:aU s a≠0):a<s.size:=by
 rcases cD a s.size with h1|h1
 ·exact h1
 ·exact absurd (tJ h1) h
inductive PR where
  | ok (t:Tm) (a:Nat)
  | err (b:Nat)
inductive PKd where
  | sum|prod|sign|pow|atom
  | more (lv:Bool) (t:Tm)
def jg (op:Int)(t u:Tm):Tm:=.mk op 0 0 ⟨#[]⟩ [t,u]
def qN (q:Rat):Tm:=.mk 1 0 q ⟨#[]⟩ []
def l8 (s:ByteArray):Tm:=.mk 2 0 0 s []
def rO (x:Option PR)(f:Tm->Nat->Option PR):Option PR:=match x with
  | none=>none
  | some (.ok t a)=>f t a
  | some (.err b)=>some (.err b)
def c1 (lv:Bool):Nat:=if lv then 42 else 43
def c2 (lv:Bool):Nat:=if lv then 47 else 45
def Co (lv:Bool):Int:=if lv then 5 else 3
def tS (lv:Bool):Int:=if lv then 6 else 4
def part (lv:Bool):PKd:=if lv then .sign else .prod
section
variable (nf:ByteArray->Option Rat)(s:ByteArray)
def f5:Nat->PKd->Nat->Option PR
  | 0,_,_=>none
  | n+1,.sum,a=>rO (f5 n .prod a) fun t b=>f5 n (.more false t) b
  | n+1,.prod,a=>rO (f5 n .sign a) fun t b=>f5 n (.more true t) b
  | n+1,.more lv t,a =>
    if aU s (sk s a)=c1 lv then rO (f5 n (part lv) (sk s a+1)) fun u b=>f5 n (.more lv (jg (Co lv) t u)) b
    else if aU s (sk s a)=c2 lv then rO (f5 n (part lv) (sk s a+1)) fun u b=>f5 n (.more lv (jg (tS lv) t u)) b
    else some (.ok t (sk s a))
  | n+1,.sign,a=>if aU s (sk s a)=45 then none else f5 n .pow (sk s a)
  | n+1,.pow,a=>rO (f5 n .atom a) fun t b=>if aU s (sk s b)=94 then none else some (.ok t (sk s b))
  | n + 1,.atom,a =>
    if me (aU s (sk s a))=true then match nf (s.extract (sk s a) (rn me s (sk s a))) with
      | some q=>some (.ok (qN q) (rn me s (sk s a)))
      | none=>some (.err (sk s a))
    else if iX (aU s (sk s a))\/aU s (sk s a)=95 then
      if em (s.extract (sk s a) (rn hJ s (sk s a)))=true then none
      else if dq (s.extract (sk s a) (rn hJ s (sk s a)))=true then some (.ok (l8 (s.extract (sk s a) (rn hJ s (sk s a)))) (rn hJ s (sk s a)))
      else some (.err (sk s a))
    else if aU s (sk s a)=40 then rO (f5 n .sum (sk s a+1)) fun t b=>if aU s (sk s b)=41 then some (.ok t (sk s b+1)) else some (.err (sk s b))
    else some (.err (sk s a))
variable {nf s}
theorem jO {x:Option PR}{f:Tm->Nat->Option PR}{t:Tm}{b:Nat}(h:rO x f=some (.ok t b)):∃ u a,x=some (.ok u a)/\f u a=some (.ok t b):=by
 match x,h with
 | some (.ok u a),h=>exact ⟨u,a,rfl,h⟩
def wl (lv:Bool):PKd:=if lv then .prod else .sum
section
variable {n a b:Nat}{t u:Tm}{lv:Bool}{op:Int}
theorem DU {k:PKd}{r:PR}(h:f5 nf s n k a=some r):∃ m,n=m+1:=by
 cases n with
 | zero=>cases h
 | succ m=>exact ⟨m,rfl⟩
theorem D5 (h:f5 nf s (n+1) (wl lv) a=some (.ok t b)):∃ u c,f5 nf s n (part lv) a=some (.ok u c)/\f5 nf s n (.more lv u) c=some (.ok t b):=by
 cases lv<;>exact jO h
theorem vJ (h:f5 nf s (n+1) (.more lv u) a=some (.ok t b))(c:aU s (sk s a)=c1 lv):∃ v e,f5 nf s n (part lv) (sk s a+1)=some (.ok v e)/\f5 nf s n (.more lv (jg (Co lv) u v)) e=some (.ok t b):=by
 unfold f5 at h;rw[if_pos c] at h;exact jO h
theorem vx (h:f5 nf s (n+1) (.more lv u) a=some (.ok t b))(d:aU s (sk s a)≠c1 lv)(c:aU s (sk s a)=c2 lv):∃ v e,f5 nf s n (part lv) (sk s a+1)=some (.ok v e)/\f5 nf s n (.more lv (jg (tS lv) u v)) e=some (.ok t b):=by
 unfold f5 at h;rw[if_neg d,if_pos c] at h;exact jO h
theorem vy (h:f5 nf s (n+1) (.more lv u) a=some (.ok t b))(d:aU s (sk s a)≠c1 lv)(c:aU s (sk s a)≠c2 lv):t=u/\b=sk s a:=by
 unfold f5 at h;rw[if_neg d,if_neg c] at h;injection h with h;injection h with h1 h2;exact ⟨h1.symm,h2.symm⟩
theorem od (h:f5 nf s (n+1) .sign a=some (.ok t b)):aU s (sk s a)≠45/\f5 nf s n .pow (sk s a)=some (.ok t b):=by
 unfold f5 at h
 split at h
 ·cases h
 ·rename_i c;exact ⟨c,h⟩
theorem De (h:f5 nf s (n+1) .pow a=some (.ok t b)):∃ e,f5 nf s n .atom a=some (.ok t e)/\aU s (sk s e)≠94/\b=sk s e:=by
 unfold f5 at h
 obtain ⟨v,e,h1,d⟩:=jO h
 split at d
 ·cases d
 ·rename_i c;injection d with d;injection d with d h3;subst d;exact ⟨e,h1,c,h3.symm⟩
section
variable (h:f5 nf s (n+1) .atom a=some (.ok t b))
include h
theorem C6 (c:me (aU s (sk s a))=true):∃ q,nf (s.extract (sk s a) (rn me s (sk s a)))=some q/\t=qN q/\b=rn me s (sk s a):=by
 unfold f5 at h;rw[if_pos c] at h
 split at h
 ·rename_i q d;injection h with h;injection h with h1 h2;exact ⟨q,d,h1.symm,h2.symm⟩
 ·cases h
variable (c0:me (aU s (sk s a))=false)
include c0
theorem CN (c:iX (aU s (sk s a))\/aU s (sk s a)=95):em (s.extract (sk s a) (rn hJ s (sk s a)))=false/\dq (s.extract (sk s a) (rn hJ s (sk s a)))=true/\t=l8 (s.extract (sk s a) (rn hJ s (sk s a)))/\b=rn hJ s (sk s a):=by
 unfold f5 at h;rw[if_neg (by rw[c0];decide),if_pos c] at h
 split at h
 ·cases h
 ·rename_i d
  split at h
  ·rename_i e;injection h with h;injection h with h1 h2;exact ⟨by simpa using d,e,h1.symm,h2.symm⟩
  ·cases h
variable (cL:¬(iX (aU s (sk s a))\/aU s (sk s a)=95))
include cL
theorem DV:aU s (sk s a)=40/\∃ e,f5 nf s n .sum (sk s a+1)=some (.ok t e)/\aU s (sk s e)=41/\b=sk s e+1:=by
 unfold f5 at h;rw[if_neg (by rw[c0];decide),if_neg cL] at h
 split at h
 ·rename_i c
  obtain ⟨v,e,h1,f⟩:=jO h
  split at f
  ·rename_i d;injection f with f;injection f with f h3;subst f;exact ⟨c,e,h1,d,h3.symm⟩
  ·cases f
 ·cases h
end
end
end
def PtH (h:Hp)(p:PTm)(t:Tm):Prop:=∃ d,TmH d h p t
theorem PtH.gw {h a:Hp}{p:PTm}{t:Tm}(x:PtH h p t)(u:Gw h a):PtH a p t:=by obtain ⟨d,x⟩:=x;exact ⟨d,x.gw u⟩
theorem PtH.two {h:Hp}{op:Int}{p q:PTm}{t u:Tm}{b:Nat}(x:PtH h p t)(y:PtH h q u)(a:SlO 9 dh cC h (some ⟨b,0,none⟩) [p,q]):PtH h ⟨op,0,0,⟨#[]⟩,some ⟨b,0,none⟩,2,2⟩ (jg op t u):=by
 obtain ⟨d,x⟩:=x;obtain ⟨e,y⟩:=y
 exact ⟨max d e+1,TmH.mk (ps:=[p,q]) (ks:=[t,u]) ⟨rfl,fun i hi=>by
  have:i=0\/i=1:=by have:i<2:=hi;omega
  rcases this with rfl|rfl
  ·exact x.mono (Nat.le_max_left _ _)
  ·exact y.mono (Nat.le_max_right _ _)⟩ (ea _) a⟩
theorem PtH.num {h:Hp}{q:Rat}:PtH h ⟨1,0,q,⟨#[]⟩,none,0,0⟩ (qN q):=⟨1,TmH.mk (ps:=[]) (ks:=[]) Tms.nil (ea _) SlO.nil⟩
theorem PtH.nam {h:Hp}{s:ByteArray}:PtH h ⟨2,0,0,s,none,0,0⟩ (l8 s):=⟨1,TmH.mk (ps:=[]) (ks:=[]) Tms.nil (ea _) SlO.nil⟩
section ops
variable {P:Program}{Γ:cl}{o:Oper}
theorem BY {tx:TypeId}{x i e:Operand}{k k2:IntKind}{s:ByteArray}{n m:Nat}{j j2:Int}(c:o.op=.slice tx x (some i) (some e) none)(h:ev Γ x=.string s)(hi:ev Γ i=.int k j)(l:ev Γ e=.int k2 j2)(f:P.underlying tx=some .string)(p:j=(n:Int))(a:j2=(m:Int))(hn:n<=m)(d:m<=s.size)(w:World) :
  (execOp (ev Γ) o).run P w=.ok (.value (.string (s.extract n m))) w:=by
 unfold execOp;simp only[c]
 subst p;subst a;have h0:(m:Int)<=(s.size:Int):=by omega
 simp[Instr.sliceAt,h,hi,l,Instr.slice,run_underlying f,Instr.sliceBounds,Instr.sliceBound,asIntOf,Result.andThen,h0,hn,d]
end ops
theorem H6 {q:Rat}(h:decide (ab q.num<18446744073709551616/\q.den<18446744073709551616)=true):LQ 1 q:=by
 have h:=oT h
 have k:∀ n,n<18446744073709551616->(wds n).length<=1:=fun n hn=>by
  rcases Nat.eq_zero_or_pos n with rfl|h0
  ·rw[ng];exact Mv _
  ·rw[kj h0 hn];exact ea _
 exact ⟨k _ h.1,k _ h.2⟩
section
variable {ok:ByteArray->Prop}{d:Nat}
theorem BT {q:Rat}(h:LQ 1 q):WfT1 ok (d+1) (qN q):=⟨rfl,fun h=>absurd rfl h,h,fun h=>absurd (show (1:Int)=2 from h) kD,fun _=>rfl,fun _=>rfl,by show (-12:Int)<=0;decide,by show (0:Int)<=12;decide,fun i hi=>absurd hi (NK i)⟩
theorem rN {s:ByteArray}(h:ok s):WfT1 ok (d+1) (l8 s):=⟨rfl,fun _=>rfl,rL kD,fun _=>h,fun h=>absurd rfl h,fun _=>rfl,by show (-12:Int)<=0;decide,by show (0:Int)<=12;decide,fun i hi=>absurd hi (NK i)⟩
theorem sq {op:Int}{t u:Tm}(x:WfT1 ok d t)(y:WfT1 ok d u)(ha:gG op=2)(a:op≠2):WfT1 ok (d+1) (jg op t u):=⟨ha,fun _=>rfl,rL kD,fun h=>absurd (show op=2 from h) a,fun _=>rfl,fun _=>rfl,by show (-12:Int)<=0;decide,by show (0:Int)<=12;decide,fun i hi=>by
 have:i=0\/i=1:=by have:i<2:=hi;omega
 rcases this with rfl|rfl
 ·exact x
 ·exact y⟩
end
def wq:Tm:=jg 5 (l8 ⟨#[120]⟩) (l8 ⟨#[121]⟩)
def Cq:Tm:=jg 6 (qN ((1:Nat):Rat)) (jg 4 (qN ((1:Nat):Rat)) (l8 ⟨#[120]⟩))
theorem va {ok:ByteArray->Prop}(h:ok ⟨#[120]⟩)(a:ok ⟨#[121]⟩):WfT1 ok 2 wq:=sq (rN h) (rN a) kD kD
theorem u5 {ok:ByteArray->Prop}(h:ok ⟨#[120]⟩):WfT1 ok 3 Cq:=sq (BT (H6 kR)) (sq (BT (H6 kR)) (rN h) kD kD) kD kD
theorem E0:bI 2 wq<=1000:=oT kR
theorem Fv:bI 3 Cq<=1000:=oT kR
theorem B7 {a:Rat}(h:LQ 1 a)(i:Nat):LQ 1 ([a].getD i 0):=by
 match i with
 | 0=>exact h
 | _+1=>exact rL kD
theorem Ai {a b:Rat}(h:LQ 1 a)(c:LQ 1 b)(i:Nat):LQ 1 ([a,b].getD i 0):=by
 match i with
 | 0=>exact h
 | 1=>exact c
 | _+2=>exact rL kD
theorem IA {d:Nat}{t:Tm}{ns:List ByteArray}{M:Prop}(w:WfT1 (fun s=>dq s=true) d t)(g:bI d t<=1000)(hM:M)(hn:∀ i,i<ns.length->dq (ns.getD i ⟨#[]⟩)=true)(w2:WfT1 (fun s=>s∈ns) d t)(c:ns.Nodup):DckR d t ns M 0 :=
 .inr ⟨⟨w,g⟩,.inr ⟨hM,.inr ⟨hn,.inr ⟨fun s a=>sE w2 a,.inr ⟨c,rfl⟩⟩⟩⟩⟩
section
variable {M:Ms}{P:Program}{n:Nat}{N R:Po}{X:Nat->Po}{ops:Array Oper}{k0:Nat}{hr:Hp}{AL:List Al}{L:Array Bool}{Γ:cl}{w:World}{h:Hp}{w0:World}{h0:Hp}{B:List Bx}{Rs:List Rw}{F:List (Hp->Prop)}{M2:List Nat}{wa:World}{ha:Hp}
theorem SS.pubM (s:SS w0 h0 w h B Rs F)(u:UpM M2 wa ha w h)(j:Nat)(o:ha.size<=(aw B j).b)(C:decide (j<B.length)=true:=by kernel_rfl):∃ a,SS w0 h0 w a (B.eraseIdx j) Rs F/\UpM M2 wa ha w a/\Seg a (aw B j).b 0 (aw B j).vs:=by
 have d:=oT C;obtain ⟨a,l,gw,p,D,c⟩:=s.st.pubX j d;have y:=bx d;refine ⟨a,⟨s.g0,l,fun r hr=>((s.ro r hr).out (gg.2 ⟨_,y,rfl⟩) c).sub _ (fun b i=>?_),s.ap,s.mo,s.f.gw s.mo gw⟩,⟨u.mo,⟨eb u.gr.size gw.size,fun b i=>?_⟩,l.up.g⟩,p⟩
 ·obtain ⟨x,z,e⟩:=gg.1 i
  exact gg.2 ⟨x,List.mem_of_mem_eraseIdx z,e⟩
 ·exact (c b (fun e=>by subst e;omega)).trans (u.gr.blk b i)
theorem J3 (i t:Nat){f:FuncId}{args:Array Value}{Φ:World->Hp->Value->Hp->Prop}(s:SS w0 h0 w h B Rs F)(m:UpM M2 wa ha w h)(c:∀ w1 h1,SS w0 h0 w1 h1 B Rs F->Calls P f args w1 (Ret w1 h1 (Φ w1 h1)))(H:∀ w1 h1 v w' a,UpM M2 wa ha w' a->SS w0 h0 w' a B Rs F->Φ w1 h1 v a->EG M P n N R X ops k0 hr AL (L.setIfInBounds i true) ((t,v)::Γ) w' a)(o:Fp n ops k0 AL L Γ i t=true:=by kernel_rfl)(hv:∀ w,(execOp (ev Γ) (am ops i)).run P w=.ok (.enter f args) w:=by intro _;kernel_rfl):EG M P n N R X ops k0 hr AL L Γ w h :=
 Rg.call i t f args (jl o).1 (jl o).2 hv (fun w1 h1 u=>(c w1 h1 (s.step u)).mono fun e w' ⟨v,a,p,d,j⟩=>⟨v,a,p,d.m M.l,H w1 h1 v w' a (m.trans ((u.m _).trans (d.m _))) ((s.step u).step d) j⟩)
theorem Im {F1:List (Hp->Prop)}{wr:World}{x:Al}(a:List Bx)(j:SS w0 h0 wr hr B Rs F1)(s:SS w0 h0 w h (a++B) Rs F)(m:UpM M2 wa ha w h)(e:ha.size<=hr.size)(t:TypeId)(vs:List Value)(H:∀ w' c b,UpM M2 wa ha w' c->ha.size<=b->SS w0 h0 w' c (⟨b,t,vs⟩::(a++B)) Rs F->AG M P n N R X ops k0 (L.setIfInBounds x.i true) ((x.t,.pointer (some ⟨b,0,none⟩))::Γ) w')(f:(gI ops [x] L && decide (x.t<n))=true:=by kernel_rfl)(d:x.o=.cells vs.toArray t (0,0):=by kernel_rfl)(l:a.all (fun y=>y.t != t)=true:=by kernel_rfl):EG M P n N R X ops k0 hr [x] L Γ w h :=
 Rg.fin1 f (fun w' c b u k=>H w' c b (m.trans (u.m _)) (eb e k.2.2) (SS.blkp a j (s.step u) k t vs d l))
theorem KO (i j o:Nat)(cs:List Value)(s:SS w0 h0 w h B Rs F)(H:∀ w',Put (aw B j).b w w'->SS w0 h0 w' h (ib B j o cs) Rs F->AG M P n N R X ops k0 (L.setIfInBounds i true) Γ w')(c:H0 ops k0 L Γ i=true:=by kernel_rfl)
  (a:(decide (j<B.length) && decide (o+cs.length<=(aw B j).vs.length))=true:=by kernel_rfl)(d:dO P (execOp (ev Γ) (am ops i))=some (.skip,np (aw B j).b o cs):=by kernel_rfl)(hz:∀ K bs,M.z=some (K,bs)->K<=(aw B j).b\/(aw B j).b∈bs:=by intro _ _ e;cases e):AG M P n N R X ops k0 L Γ w :=
 T.put i j o cs s.st s.g0 (kH c).1 (kH c).2 a d (fun w' p f=>H w' p (s.put0 (oT (i2 _ _▸a).1) p f (o9 (oT (i2 _ _▸a).1)))) hz
end
def HR (pb:Nat)(s:ByteArray)(t:Tm)(b:Nat)(bd:Int):Value->World->Hp->Prop:=fun v w' h'=>∃ (tb:Nat)(p:PTm),v=.pointer (some ⟨tb,0,none⟩)/\b<=s.size/\Own w' pb 121 [.string s,.int .i64 (b:Nat),.int .i64 bd]/\Seg h' tb 0 (dh p)/\PtH h' p t
def PC (nf:ByteArray->Option Rat)(f:FuncId)(n:Nat)(k:PKd):Prop:=∀ (pb:Nat) (s:ByteArray),s.size<=1000000->∀ (a:Nat),a<=s.size->∀ (bd:Int) (t:Tm) (b:Nat),f5 nf s n k a=some (.ok t b)->∀ (w:World) (h:Hp),G w h->Own w pb 121 [.string s,nV a,iV bd]->h[pb]?=some bg->Tab h->Calls Tryz.prog f #[pB pb] w (fd pb w h (HR pb s t b bd))
theorem AY  (d:Nat)(s:ByteArray)(hsz:s.size<=1000000)(a:Nat)(ha:a<=s.size)(V:Int)(w:World)(h:Hp)(g:G w h)(ho:Own w d 121 [.string s,nV a,iV V])(hj:h[d]?=some bg)(tb:Tab h):Calls Tryz.prog 58 #[pB d] w (fd d w h fun v w' _=>v=.int .u8 (aU s (sk s a):Nat)/\Own w' d 121 [.string s,nV (sk s a),iV V]):=by
 have f:UpM [d] w h w h:=UpM.refl g;obtain ⟨wz,D,e⟩:=SS.at_ g ho hj;replace e:=(e.add (K:=fun u=>Tab u) tb);refine go Tryz.func58 [(0,pB d)] rfl (aa e ac (ah (kZ ?_)));refine bH _ (CG.loop (fun L Γ X=>∃ (k:Nat)(u:Hp),L=s.size-k/\Γ=[(0,pB d),(2,.int .u8 0)]/\SS wz D X u [⟨d,121,[.string s,nV k,iV V]⟩] [] [fun u=>Tab u]/\a<=k/\k<=s.size/\UpM [d] w h X u/\(∀ i,a<=i->i<k->DM (aU s i)=true)) _ ⟨a,h,rfl,rfl,e.to _ _,nR _,ha,f,(fun i h1 M=>absurd h1 oM)⟩ ?_);rintro _ _ w1 ⟨k,M,hm3,rfl,e,F,B,f,z⟩;refine cQ (cQ (cR 22 [] mixed e ar ?_));refine eV 0 3 (pB d) (eV 1 4 (pB d) (eV 2 5 (qP d 1) (eO 3 6 [(0,1,1)] (nV k) e (eV 4 7 (pB d) (eV 5 8 (pB d) (eV 6 9 (pB d) (eO 7 10 [(0,0,1)] (.string s) e (eV 8 11 (nV s.size) ?_))))))));cases l:(decide ((k:Int)<(s.size:Int)))
 .
  have C:=oF l;refine eB 9 12 l (eV 10 13 qF (eG 11 14 (eG 12 15 (eG 13 16 (eG 14 17 (eG 15 18 (eG 16 19 (eG 17 20 (eG 18 21 (eG 19 22 (eG 20 23 (eV 21 24 qF (jV e (fun w5 h6 u7 e=>?_))))))))))))));replace f:=f.trans (u7.m _);refine tN (dC (CG.exit ?_))
  show CG _ _ _ _ _ _ _ _
  refine cQ (cQ (cR 10 [] mixed e ar ?_));refine eV 0 32 (pB d) (eV 1 33 (pB d) (eV 2 34 (qP d 1) (eO 3 35 [(0,1,1)] (nV k) e (eV 4 36 (pB d) (eV 5 37 (pB d) (eV 6 38 (pB d) (eO 7 39 [(0,0,1)] (.string s) e (eV 8 40 (nV s.size) ?_))))))));have ⟨Q,Y⟩:=dF (p:=(k:Int)<(s.size:Int)) oM;refine eB 9 41 Q (jV e (fun w9 _ I e=>?_));replace f:=f.trans (I.m _);refine tN (dC (cK (aa e ac (lN (kX ?_)))));have y:sk s a=k:=qm F B z (by first|exact .inl oM|exact .inr (decide_eq_false oM));exact e.retM f [] (.int .u8 0) (by rw[y,tJ oM];exact ⟨rfl,e.own 0⟩)
 have C:=oT l;refine eB 9 12 l (eV 10 13 qT (eV 11 14 (pB d) (eV 12 15 (pB d) (eV 13 16 (pB d) (eO 14 17 [(0,0,1)] (.string s) e (eV 15 18 (pB d) (eV 16 19 (pB d) (eV 17 20 (qP d 1) (eO 18 21 [(0,1,1)] (nV k) e (eV 19 22 (.int .u8 (aU s k:Nat)) ?_ (hv:=fun _=>dU (tx:=9) (x:=.tmp 17) (i:=.tmp 21) (k:=.i64) (s:=s) (n:=k) (j:=(k:Int)) kR kR kR kR oM oM _)))))))))));cases H:(((aU s k:Nat):Int) == (32:Int))
 .
  have zb:=aj H;refine eB 20 23 H (eV 21 24 qF (jV e (fun _ _ U e=>?_)));replace f:=f.trans (U.m _);refine tN (dC (CG.exit ?_))
  show CG _ _ _ _ _ _ _ _
  refine cQ (cQ (cR 10 [] mixed e ar ?_));refine eV 0 32 (pB d) (eV 1 33 (pB d) (eV 2 34 (qP d 1) (eO 3 35 [(0,1,1)] (nV k) e (eV 4 36 (pB d) (eV 5 37 (pB d) (eV 6 38 (pB d) (eO 7 39 [(0,0,1)] (.string s) e (eV 8 40 (nV s.size) ?_))))))));have ⟨zc,J⟩:=dT (p:=(k:Int)<(s.size:Int)) oM;refine eB 9 41 zc (jV e (fun _ _ W e=>?_));replace f:=f.trans (W.m _);refine tN (cn (cQ (cR 9 [] mixed e ar ?_)));refine eV 0 42 (pB d) (eV 1 43 (pB d) (eV 2 44 (pB d) (eO 3 45 [(0,0,1)] (.string s) e (eV 4 46 (pB d) (eV 5 47 (pB d) (eV 6 48 (qP d 1) (eO 7 49 [(0,1,1)] (nV k) e (eV 8 50 (.int .u8 (aU s k:Nat)) ?_ (hv:=fun _=>dU (tx:=9) (x:=.tmp 45) (i:=.tmp 49) (k:=.i64) (s:=s) (n:=k) (j:=(k:Int)) kR kR kR kR oM oM _)))))))));refine jV e (fun _ _ O e=>?_);replace f:=f.trans (O.m _);refine tV 9 2 (.int .u8 (aU s k:Nat)) (tN (bH [(2,.int .u8 (aU s k:Nat))] ?_));refine kX ?_;have y:sk s a=k:=qm F B z (by first|exact .inl oM|exact .inr (decide_eq_false oM));exact e.retM f [] (.int .u8 (aU s k:Nat)) (by rw[y];exact ⟨rfl,e.own 0⟩)
 have zb:=eq_of_beq H;refine eB 20 23 H (eV 21 24 qT (jV e (fun _ Z S e=>?_)));replace f:=f.trans (S.m _);refine tN (cn (cK (kZ (kQ (lL e [.c,.v (pB d),.v (qP d 1),.o (nV k) 0 1 1] (bv 29 ((k:Nat)+1) (k+1) ?_))))));refine lL e [.v (pB d),.v (qP d 1)] (nI 0 1 ([nV (k+1)]) e (fun _ pu e=>?_));replace f:=f.put pu (sA.2 rfl) e.g;refine lD ?_;intro a_ ka;refine ⟨_,_,?_,⟨k+1,Z,rfl,rfl,e.to _ _,oM,oM,f,(fun i h1 M=>by rcases NL.1 M with u|rfl;exact z i h1 u;exact decide_eq_true oM)⟩,ka.to _ kR⟩
 omega
theorem ui  (e:Nat)(s:ByteArray)(y:s.size<=1000000)(a:Nat)(ha:a<=s.size)(l:Int)(c:Nat)(O:c≠0)(w:World)(h:Hp)(g:G w h)(D:Own w e 121 [.string s,nV a,iV l])(J:h[e]?=some bg)(F:Tab h):Calls Tryz.prog 133 #[pB e,.int .u8 (c:Nat)] w (fd e w h fun v w' _=>(v=.bool true/\aU s (sk s a)=c/\sk s a<s.size/\Own w' e 121 [.string s,nV (sk s a+1),iV l])\/(v=.bool false/\aU s (sk s a)≠c/\Own w' e 121 [.string s,nV (sk s a),iV l])):=by
 have i:UpM [e] w h w h:=UpM.refl g;obtain ⟨wz,z,d⟩:=SS.at_ g D J;replace d:=(d.add (K:=fun H=>Tab H) F);refine go Tryz.func133 [(0,pB e),(1,.int .u8 (c:Nat))] rfl (aa d ac (ah (aa d ac ?_)));have x:=mJ (s:=s) (a:=a) oM;refine gk 6 (AY e s y a ha l _ _ d.g (d.own 0) (d.jk 0) d.f.1) ?_;rintro _ w2 L B ⟨rfl,u⟩;replace d:=(d.stepM 0 B u).to [⟨e,121,[.string s,nV (sk s a),iV l]⟩] [];replace i:=i.trans B;refine lL d ac ?_;cases j:(((aU s (sk s a):Nat):Int) != (c:Int))
 .
  have p:=aW j;refine lB 8 j (ag (cK (aa d [.c,.v (pB e),.v (qP e 1),.o (nV (sk s a)) 0 1 1] (bv 13 ((sk s a:Nat)+1) ((sk s a)+1) ?_))));refine lL d [.v (pB e),.v (qP e 1)] (nI 0 1 ([nV ((sk s a)+1)]) d (fun M I d=>?_));replace i:=i.put I (sA.2 rfl) d.g;refine aG (lL d ac (lN (kX ?_)));have C:=xJ (s:=s) (a:=sk s a) oM;exact d.retM i [] qT (.inl ⟨rfl,by omega,by omega,d.own 0⟩)
 have p:=aK j;exact lB 8 j (ak (aa d ac (lN (kX (d.retM i [] qF (.inr ⟨rfl,by omega,d.own 0⟩))))))
theorem Hv (d:Nat)(s:ByteArray)(f:s.size<=1000000)(a:Nat)(ha:a<=s.size)(e:Int)(c:Nat)(o:c≠0)(i:sk s a=a)(w:World)(h:Hp)(g:G w h)(j:Own w d 121 [.string s,nV a,iV e])(l:h[d]?=some bg)(p:Tab h):Calls Tryz.prog 133 #[pB d,.int .u8 (c:Nat)] w (fd d w h fun v w' _=>(v=.bool true/\aU s a=c/\a<s.size/\Own w' d 121 [.string s,nV (a+1),iV e])\/(v=.bool false/\aU s a≠c/\Own w' d 121 [.string s,nV a,iV e])):=by
 have q:=ui d s f a ha e c o w h g j l p;rw[i] at q;exact q
theorem GF (d:Nat)(s:ByteArray)(j:s.size<=1000000)(a:Nat)(ha:a<=s.size)(f:Int)(c:Nat)(y:c≠0)(i:aU s (sk s a)=c)(w:World)(h:Hp)(g:G w h)(o:Own w d 121 [.string s,nV a,iV f])(B:h[d]?=some bg)(p:Tab h):Calls Tryz.prog 133 #[pB d,.int .u8 (c:Nat)] w (fd d w h fun v w' _=>v=.bool true/\sk s a<s.size/\Own w' d 121 [.string s,nV (sk s a+1),iV f]) :=
 (ui d s j a ha f c y w h g o B p).mono fun e w' ⟨v,x,z,u,l⟩=>⟨v,x,z,u,by
  rcases l with ⟨h1,h2,h3,h4⟩|⟨h1,h2,h3⟩
  ·exact ⟨h1,h3,h4⟩
  ·exact absurd i h2⟩
theorem wZ (d:Nat)(s:ByteArray)(j:s.size<=1000000)(a:Nat)(ha:a<=s.size)(f:Int)(c:Nat)(y:c≠0)(i:aU s (sk s a)≠c)(w:World)(h:Hp)(g:G w h)(o:Own w d 121 [.string s,nV a,iV f])(B:h[d]?=some bg)(p:Tab h):Calls Tryz.prog 133 #[pB d,.int .u8 (c:Nat)] w (fd d w h fun v w' _=>v=.bool false/\Own w' d 121 [.string s,nV (sk s a),iV f]) :=
 (ui d s j a ha f c y w h g o B p).mono fun e w' ⟨v,x,z,u,l⟩=>⟨v,x,z,u,by
  rcases l with ⟨h1,h2,h3,h4⟩|⟨h1,h2,h3⟩
  ·exact absurd h2 i
  ·exact ⟨h1,h3⟩⟩
theorem JN  (z:FuncId)(p:Nat->Bool)(J:∀ (args:Array Value) (w:World),(callFunc z args).run Tryz.prog w=.ok (.enter z args) w)(Q:∀ c,c<256->∀ (w:World) (h:Hp),G w h->Calls Tryz.prog z #[.int .u8 (c:Nat)] w (Ret w h fun v _=>v=.bool (p c)))(f:Nat)(s:ByteArray)(hsz:s.size<=1000000)(a:Nat)(ha:a<=s.size)(S:Int)(w:World)(h:Hp)(g:G w h)(ho:Own w f 121 [.string s,nV a,iV S])(hj:h[f]?=some bg)(tb:Tab h):Calls Tryz.prog 191 #[pB f,.func (.func z) #[] #[]] w (fd f w h fun v w' _=>v=.string (s.extract a (rn p s a))/\Own w' f 121 [.string s,nV (rn p s a),iV S]):=by
 have l:UpM [f] w h w h:=UpM.refl g;obtain ⟨wz,F,d⟩:=SS.at_ g ho hj;replace d:=(d.add (K:=fun y=>Tab y) tb);refine go Tryz.func191 [(0,pB f),(1,.func (.func z) #[] #[])] rfl (aa d ac (aG (lL d [.c,.v (pB f),.v (qP f 1),.o (nV a) 0 1 1,.c] (ah (kZ ?_)))));refine bH _ (CG.loop (fun L Γ X=>∃ (k:Nat)(y:Hp),L=s.size-k/\Γ=[(0,pB f),(1,.func (.func z) #[] #[]),(4,eS),(5,nV a)]/\SS wz F X y [⟨f,121,[.string s,nV k,iV S]⟩] [] [fun y=>Tab y]/\a<=k/\k<=s.size/\UpM [f] w h X y/\(∀ i,a<=i->i<k->p (aU s i)=true)) _ ⟨a,h,rfl,rfl,d.to _ _,nR _,ha,l,(fun i h1 M=>absurd h1 oM)⟩ ?_);rintro _ _ w1 ⟨k,M,Z,rfl,d,I,D,l,C⟩;refine cQ (cQ (cR 23 [] mixed d ar ?_));refine eV 0 10 (pB f) (eV 1 11 (pB f) (eV 2 12 (qP f 1) (eO 3 13 [(0,1,1)] (nV k) d (eV 4 14 (pB f) (eV 5 15 (pB f) (eV 6 16 (pB f) (eO 7 17 [(0,0,1)] (.string s) d (eV 8 18 (nV s.size) ?_))))))));cases u:(decide ((k:Int)<(s.size:Int)))
 .
  have H:=oF u;refine eB 9 19 u (eV 10 20 qF (eG 11 21 (eG 12 22 (eG 13 23 (eG 14 24 (eG 15 25 (eG 16 26 (eG 17 27 (eG 18 28 (eG 19 29 (eG 20 30 (eG 21 31 (eV 22 32 qF (jV d (fun w5 h6 u7 d=>?_)))))))))))))));replace l:=l.trans (u7.m _);refine tN (dC (CG.exit ?_))
  show CG _ _ _ _ _ _ _ _
  refine cQ (cR 10 [] mixed d ar ?_);refine eV 0 40 (pB f) (eV 1 41 (pB f) (eV 2 42 (pB f) (eO 3 43 [(0,0,1)] (.string s) d (eV 4 44 (nV a) (eV 5 45 (pB f) (eV 6 46 (pB f) (eV 7 47 (qP f 1) (eO 8 48 [(0,1,1)] (nV k) d (eV 9 49 (.string (s.extract a k)) ?_ (hv:=fun _=>BY (tx:=9) (x:=.tmp 43) (i:=.tmp 44) (e:=.tmp 48) (k:=.i64) (k2:=.i64) (s:=s) (n:=a) (m:=k) (j:=(a:Int)) (j2:=(k:Int)) kR kR kR kR kR oM oM oM oM _))))))))));refine jV d (fun w8 h9 V d=>?_);replace l:=l.trans (V.m _);refine tV 10 4 (.string (s.extract a k)) (tN (kX ?_));have B:rn p s a=k:=qm I D C (by first|exact .inl oM|exact .inr aM);exact d.retM l [] (.string (s.extract a k)) (by rw[B];exact ⟨rfl,d.own 0⟩)
 have H:=oT u;refine eB 9 19 u (eV 10 20 qT (eV 11 21 (.func (.func z) #[] #[]) (eV 12 22 (pB f) (eV 13 23 (pB f) (eV 14 24 (pB f) (eO 15 25 [(0,0,1)] (.string s) d (eV 16 26 (pB f) (eV 17 27 (pB f) (eV 18 28 (qP f 1) (eO 19 29 [(0,1,1)] (nV k) d (eV 20 30 (.int .u8 (aU s k:Nat)) ?_ (hv:=fun _=>dU (tx:=9) (x:=.tmp 25) (i:=.tmp 29) (k:=.i64) (s:=s) (n:=k) (j:=(k:Int)) kR kR kR kR oM oM _))))))))))));refine J3 21 31 d l (fun _ _ d=>Q ((aU s k)) (cM _ _) _ _ d.g) ?_ (hv:=fun _=>Eq.trans kR (J _ _));rintro _ _ _ _ _ l d rfl;cases Y:(p ((aU s k)))
 .
  refine eV 22 32 qF (jV d (fun _ _ U d=>?_));replace l:=l.trans (U.m _);refine tN (dC (CG.exit ?_))
  show CG _ _ _ _ _ _ _ _
  refine cQ (cR 10 [] mixed d ar ?_);refine eV 0 40 (pB f) (eV 1 41 (pB f) (eV 2 42 (pB f) (eO 3 43 [(0,0,1)] (.string s) d (eV 4 44 (nV a) (eV 5 45 (pB f) (eV 6 46 (pB f) (eV 7 47 (qP f 1) (eO 8 48 [(0,1,1)] (nV k) d (eV 9 49 (.string (s.extract a k)) ?_ (hv:=fun _=>BY (tx:=9) (x:=.tmp 43) (i:=.tmp 44) (e:=.tmp 48) (k:=.i64) (k2:=.i64) (s:=s) (n:=a) (m:=k) (j:=(a:Int)) (j2:=(k:Int)) kR kR kR kR kR oM oM oM oM _))))))))));refine jV d (fun _ _ W d=>?_);replace l:=l.trans (W.m _);refine tV 10 4 (.string (s.extract a k)) (tN (kX ?_));have B:rn p s a=k:=qm I D C (by first|exact .inl oM|exact .inr aM);exact d.retM l [] (.string (s.extract a k)) (by rw[B];exact ⟨rfl,d.own 0⟩)
 refine eV 22 32 qT (jV d (fun _ za O d=>?_));replace l:=l.trans (O.m _);refine tN (cn (cK (kZ (kQ (lL d [.c,.v (pB f),.v (qP f 1),.o (nV k) 0 1 1] (bv 37 ((k:Nat)+1) (k+1) ?_))))));refine lL d [.v (pB f),.v (qP f 1)] (nI 0 1 ([nV (k+1)]) d (fun _ pu d=>?_));replace l:=l.put pu (sA.2 rfl) d.g;refine lD ?_;intro a_ ka;refine ⟨_,_,?_,⟨k+1,za,rfl,rfl,d.to _ _,oM,oM,l,(fun i h1 M=>by rcases NL.1 M with y|rfl;exact C i h1 y;exact aM)⟩,ka.to _ kR⟩
 omega
theorem Ie (op:Int)(i a:PTm)(w:World)(h:Hp)(g:G w h):CR 134 #[iV op,bU i,bU a] w h (fun v h1=>∃ b,v=bU ⟨op,0,0,⟨#[]⟩,sB b,2,2⟩/\SlO 9 dh cC h1 (sB b) [i,a]):=by
 have e:=sS g;refine go Tryz.func134 [(0,iV op),(1,bU i),(2,bU a)] rfl (aD (lA 4 52 (dh i) e (fun u w2 x e=>lA 5 52 (dh a) e (fun z C p e=>lA 6 52 a7 e (fun B D y e=>aG (lL e [.c,.o (bU i) 2 0 9,.o (bU a) 1 0 9] (lR 10 52 2 ([iV i.op,iV i.n,.bool (af i.q.num),uV (lo (ab i.q.num)),.string (hi (ab i.q.num)),uV (lo (qd i.q)),.string (hi (qd i.q)),.string i.s,qS i.A i.m i.c,iV a.op,iV a.n,.bool (af a.q.num),uV (lo (ab a.q.num)),.string (hi (ab a.q.num)),uV (lo (qd a.q)),.string (hi (qd a.q)),.string a.s,qS a.A a.m a.c]) e (fun j _ _ e=>?_))))))));replace e:=e.aS (SlO.of_flat (sz:=9) (f:=dh) (d:=cC) (b:=j) (o:=0) (l:=([i,a]:List PTm)) (fun _=>rfl) e.f.1);exact lL e [.v (.agg #[iV op,iV 0,qF,uV 0,eS,uV 0,eS,eS,qS (sB j) 2 2])] (lP 0 0 ([iV op,iV 0,qF,uV 0,eS,uV 0,eS,eS,qS (sB j) 2 2]) e (fun _ e=>ae e [(0,0,9)] (.agg #[iV op,iV 0,qF,uV 0,eS,uV 0,eS,eS,qS (sB j) 2 2]) (⟨_,rfl,e.f.1⟩)))
theorem EN (q:Rat)(w:World)(h:Hp)(g:G w h):CR 215 #[qv q] w h (fun v h1=>∃ p,v=bU p/\PtH h1 p (qN q)):=by
 have a:=sS g;exact go Tryz.func215 [(0,qv q)] rfl (aD (lA 1 49 (qc q) a (fun d w2 e a=>lA 2 52 a7 a (fun j i c a=>aG (lL a [.o (qv q) 1 0 5,.v (bU ⟨1,0,q,⟨#[]⟩,none,0,0⟩)] (lP 0 0 (dh ⟨1,0,q,⟨#[]⟩,none,0,0⟩) a (fun f a=>ae a [(0,0,9)] (bU ⟨1,0,q,⟨#[]⟩,none,0,0⟩) (⟨⟨1,0,q,⟨#[]⟩,none,0,0⟩,rfl,PtH.num⟩))))))))
theorem If (op:Int)(c a:PTm)(t u:Tm)(w:World)(h:Hp)(g:G w h)(x:PtH h c t)(y:PtH h a u):CR 134 #[iV op,bU c,bU a] w h (fun v h1=>∃ p,v=bU p/\PtH h1 p (jg op t u)) :=
 (Ie op c a w h g).mono fun e w' ⟨v,d,i,up,b,f,j⟩=>⟨v,d,i,up,_,f,(x.gw up.gr.gw).two (y.gw up.gr.gw) j⟩
section
variable {nf:ByteArray->Option Rat}(n:Nat)
theorem xO  (lv:Bool)(fp:FuncId)(hen:∀ (args:Array Value) (w:World),(callFunc fp args).run Tryz.prog w=.ok (.enter fp args) w)(hp:∀ m,m<=n->PC nf fp m (part lv))(j:Nat)(s:ByteArray)(S:s.size<=1000000)(a:Nat)(ha:a<=s.size)(z:Int)(t:Tm)(b:Nat)(hq:f5 nf s (n+1) (wl lv) a=some (.ok t b))(w:World)(h:Hp)(g:G w h)(ho:Own w j 121 [.string s,nV a,iV z])(hj:h[j]?=some bg)(tb:Tab h):Calls Tryz.prog 98 #[pB j,.func (.func fp) #[pB j] #[],.int .u8 (c1 lv:Nat),iV (Co lv),.int .u8 (c2 lv:Nat),iV (tS lv)] w (fd j w h (HR j s t b z)):=by
 have e:UpM [j] w h w h:=UpM.refl g;obtain ⟨wz,b5,d⟩:=SS.at_ g ho hj;obtain ⟨t1,b1,hq1,hq2⟩:=D5 hq;have cq:c1 lv≠0:=by cases lv<;>decide
 have cd:c2 lv≠0:=by cases lv<;>decide
 replace d:=(d.add (K:=fun i=>Tab i) tb);refine go Tryz.func98 [(0,pB j),(1,.func (.func fp) #[pB j] #[]),(2,.int .u8 (c1 lv:Nat)),(3,iV (Co lv)),(4,.int .u8 (c2 lv:Nat)),(5,iV (tS lv))] rfl (aa d ac (aG (lL d ac (gk 18 (hp n (nR _) j s S a ha z t1 b1 hq1 _ _ d.g (d.own 0) (d.jk 0) d.f.1) ?_ (hr:=Eq.trans kR (hen _ _))))));rintro _ w2 h3 u4 ⟨U,H,rfl,ch,b9,cj,cp⟩;replace d:=(d.stepM 0 u4 b9).to [⟨j,121,[.string s,nV b1,iV z]⟩] [];replace e:=e.trans u4;replace d:=((d.a_Seg cj).add (K:=fun i=>PtH i H t1) cp);refine lL d ac (ah (kZ ?_));replace d:=d.add (K:=fun i=>PtH i H t1) (d.f.1);replace d:=d.add (K:=fun i=>Seg i U 0 (dh H)) (d.f.r.1);refine bH _ (CG.loop (fun μ_ Γ w_=>∃ (m:Nat)(Y:Nat)(p:PTm)(u:Tm)(k:Nat)(i:Hp),μ_=m/\Γ=[(0,pB j),(1,.func (.func fp) #[pB j] #[]),(2,.int .u8 (c1 lv:Nat)),(3,iV (Co lv)),(4,.int .u8 (c2 lv:Nat)),(5,iV (tS lv)),(13,pB Y)]/\SS wz b5 w_ i [⟨j,121,[.string s,nV k,iV z]⟩] [] [fun i=>Seg i Y 0 (dh p),fun i=>PtH i p u,fun i=>PtH i H t1,fun i=>Seg i U 0 (dh H),fun i=>Tab i]/\m<=n/\k<=s.size/\UpM [j] w h w_ i/\f5 nf s m (.more lv u) k=some (.ok t b)) _ ⟨n,U,H,t1,b1,h3,rfl,rfl,d.to _ _,nR _,ch,e,hq2⟩ ?_);rintro _ _ w5 ⟨m,Y,p,u,k,h6,hm7,rfl,d,hm,hk,e,hq⟩;obtain ⟨m1,rfl⟩:=DU hq;have c3:=mJ (s:=s) (a:=k) hk;refine cQ (aa d [.c,.v qT] (ak (cK (kZ (aa d ac (ah (aa d ax ?_)))))));have cy:=mJ (s:=s) (a:=k) oM;refine gk 23 (ui j s S k oM z (c1 lv) cq _ _ d.g (d.own 0) (d.jk 0) d.f.q.1) ?_;rintro _ w9 _ u11 (⟨rfl,J,cz,L⟩|⟨rfl,J,L⟩)
 .
  replace d:=(d.stepM 0 u11 L).to [⟨j,121,[.string s,nV (sk s k+1),iV z]⟩] [];replace e:=e.trans u11;obtain ⟨I,X,cm,cf⟩:=vJ hq J;refine ak (kQ (lL d ax (aG (lL d ac (gk 31 (hp m1 oM j s S (sk s k+1) oM z I X cm _ _ d.g (d.own 0) (d.jk 0) d.f.q.1) ?_ (hr:=Eq.trans kR (hen _ _)))))));rintro _ _ _ u15 ⟨M,V,rfl,bm,br,bz,bn⟩;replace d:=(d.stepM 0 u15 br).to [⟨j,121,[.string s,nV X,iV z]⟩] [];replace e:=e.trans u15;replace d:=((d.a_Seg bz).add (K:=fun i=>PtH i V I) bn);refine lL d ac (ah (aa d [.c,.v qF] (ag (cK (cQ ?_)))));have hsr:=d;have W:=e.gr.size;refine cR 9 [⟨8,16,.cells (MR [iV 0,iV 0,qF,uV 0,eS,uV 0,eS,eS,sZ]) 52 (0,0)⟩] mixed d (bO (fD kR (fun _ _=>by kernel_rfl)) ar) (eV 0 34 (iV (Co lv)) (eV 1 35 (pB Y) (eV 2 36 (pB Y) (eH 3 37 (bU p) d d.f.r.1 (eV 4 38 (pB M) (eV 5 39 (pB M) (eH 6 40 (bU V) d d.f.2.1 (J3 7 41 d e (fun _ _ d=>If (Co lv) p V u I _ _ d.g d.f.r.2.1 d.f.1) ?_))))))));rintro _ _ _ _ _ e d ⟨o,rfl,b0⟩;replace d:=(d.add (K:=fun i=>PtH i o (jg (Co lv) u I)) b0);refine Im [] hsr d e W 52 [iV 0,iV 0,qF,uV 0,eS,uV 0,eS,eS,sZ] (fun _ _ za e y d=>KO 9 0 0 (dh o) d (fun _ pu d=>?_));replace e:=e.put2 pu y g d.g;refine tN ?_;obtain ⟨zc,d,e,b4⟩:=d.pubM e 0 y;replace d:=d.to [⟨j,121,[.string s,nV X,iV z]⟩] [];have b6:Seg zc za 0 (dh o):=b4;replace d:=d.a_Seg b6;refine kQ (lL d ac (lD ?_));intro a_ ka;replace d:=((d.tl.tl.tl.tl.tl.tl.add (K:=fun i=>PtH i o (jg (Co lv) u I)) d.f.2.1).add (K:=fun i=>Seg i za 0 (dh o)) d.f.1);refine ⟨_,_,?_,⟨m1,za,o,jg (Co lv) u I,X,zc,rfl,rfl,d.to _ _,oM,bm,e,cf⟩,ka.to _ kR⟩
  omega
 replace d:=(d.stepM 0 u11 L).to [⟨j,121,[.string s,nV (sk s k),iV z]⟩] [];replace e:=e.trans u11;have hcF:=J;refine ag (aa d ax ?_);have cw:=mJ (s:=s) (a:=(sk s k)) oM;refine gk 27 (Hv j s S (sk s k) oM z (c2 lv) cd (JP _ _) _ _ d.g (d.own 0) (d.jk 0) d.f.q.1) ?_;rintro _ _ _ Z (⟨rfl,D,cx,C⟩|⟨rfl,D,C⟩)
 .
  replace d:=(d.stepM 0 Z C).to [⟨j,121,[.string s,nV ((sk s k)+1),iV z]⟩] [];replace e:=e.trans Z;obtain ⟨x,F,bk,bq⟩:=vx hq hcF D;refine ak (kQ (lL d ax (aG (lL d ac (gk 31 (hp m1 oM j s S ((sk s k)+1) oM z x F bk _ _ d.g (d.own 0) (d.jk 0) d.f.q.1) ?_ (hr:=Eq.trans kR (hen _ _)))))));rintro _ _ _ u40 ⟨Q,O,rfl,bb,bt,bf,b2⟩;replace d:=(d.stepM 0 u40 bt).to [⟨j,121,[.string s,nV F,iV z]⟩] [];replace e:=e.trans u40;replace d:=((d.a_Seg bf).add (K:=fun i=>PtH i O x) b2);refine lL d ac (ah (aa d [.c,.v qF] (ag (cK (cQ ?_)))));have hsr:=d;have W:=e.gr.size;refine cR 9 [⟨8,16,.cells (MR [iV 0,iV 0,qF,uV 0,eS,uV 0,eS,eS,sZ]) 52 (0,0)⟩] mixed d (bO (fD kR (fun _ _=>by kernel_rfl)) ar) (eV 0 34 (iV (tS lv)) (eV 1 35 (pB Y) (eV 2 36 (pB Y) (eH 3 37 (bU p) d d.f.r.1 (eV 4 38 (pB Q) (eV 5 39 (pB Q) (eH 6 40 (bU O) d d.f.2.1 (J3 7 41 d e (fun _ _ d=>If (tS lv) p O u x _ _ d.g d.f.r.2.1 d.f.1) ?_))))))));rintro _ _ _ _ _ e d ⟨l,rfl,bl⟩;replace d:=(d.add (K:=fun i=>PtH i l (jg (tS lv) u x)) bl);refine Im [] hsr d e W 52 [iV 0,iV 0,qF,uV 0,eS,uV 0,eS,eS,sZ] (fun _ _ zb e B d=>KO 9 0 0 (dh l) d (fun _ pu d=>?_));replace e:=e.put2 pu B g d.g;refine tN ?_;obtain ⟨zd,d,e,b3⟩:=d.pubM e 0 B;replace d:=d.to [⟨j,121,[.string s,nV F,iV z]⟩] [];have cr:Seg zd zb 0 (dh l):=b3;replace d:=d.a_Seg cr;refine kQ (lL d ac (lD ?_));intro a_ ka;replace d:=((d.tl.tl.tl.tl.tl.tl.add (K:=fun i=>PtH i l (jg (tS lv) u x)) d.f.2.1).add (K:=fun i=>Seg i zb 0 (dh l)) d.f.1);refine ⟨_,_,?_,⟨m1,zb,l,jg (tS lv) u x,F,zd,rfl,rfl,d.to _ _,oM,bb,e,bq⟩,ka.to _ kR⟩
  omega
 replace d:=(d.stepM 0 Z C).to [⟨j,121,[.string s,nV (sk s k),iV z]⟩] [];replace e:=e.trans Z;have b7:=D;refine ag (aa d ax (lN (kX ?_)));obtain ⟨ht_,hb_⟩:=vy hq hcF b7;exact d.retM e [] (pB Y) (by rw[ht_];rw[hb_];exact ⟨Y,p,rfl,by first|assumption|omega,d.own 0,d.f.1,d.f.2.1⟩)
theorem J9  (L:∀ m,m<=n->PC nf 99 m .prod)(e:Nat)(s:ByteArray)(z:s.size<=1000000)(a:Nat)(ha:a<=s.size)(x:Int)(t:Tm)(b:Nat)(I:f5 nf s (n+1) .sum a=some (.ok t b))(w:World)(h:Hp)(g:G w h)(F:Own w e 121 [.string s,nV a,iV x])(J:h[e]?=some bg)(H:Tab h):Calls Tryz.prog 57 #[pB e] w (fd e w h (HR e s t b x)):=by
 have j:UpM [e] w h w h:=UpM.refl g;obtain ⟨wz,B,d⟩:=SS.at_ g F J;replace d:=(d.add (K:=fun y=>Tab y) H);refine go Tryz.func57 [(0,pB e)] rfl (aa d ac (aG (lL d [.c,.c,.v (.func (.func 99) #[pB e] #[])] (gk 6 (xO n false 99 (fun _ _=>by kernel_rfl) L e s z a ha x t b I _ _ d.g (d.own 0) (d.jk 0) d.f.1) ?_))));rintro _ w2 M D ⟨i,l,rfl,C,u,p,o⟩;replace d:=(d.stepM 0 D u).to [⟨e,121,[.string s,nV b,iV x]⟩] [];replace j:=j.trans D;replace d:=((d.a_Seg p).add (K:=fun y=>PtH y l t) o);exact lL d ac (lN (kX (d.retM j [] (pB i) (by exact ⟨i,l,rfl,by first|assumption|omega,d.own 0,d.f.2.1,d.f.1⟩))))
theorem Bz  (L:∀ m,m<=n->PC nf 135 m .sign)(e:Nat)(s:ByteArray)(z:s.size<=1000000)(a:Nat)(ha:a<=s.size)(x:Int)(t:Tm)(b:Nat)(I:f5 nf s (n+1) .prod a=some (.ok t b))(w:World)(h:Hp)(g:G w h)(F:Own w e 121 [.string s,nV a,iV x])(J:h[e]?=some bg)(H:Tab h):Calls Tryz.prog 99 #[pB e] w (fd e w h (HR e s t b x)):=by
 have j:UpM [e] w h w h:=UpM.refl g;obtain ⟨wz,B,d⟩:=SS.at_ g F J;replace d:=(d.add (K:=fun y=>Tab y) H);refine go Tryz.func99 [(0,pB e)] rfl (aa d ac (aG (lL d [.c,.c,.v (.func (.func 135) #[pB e] #[])] (gk 6 (xO n true 135 (fun _ _=>by kernel_rfl) L e s z a ha x t b I _ _ d.g (d.own 0) (d.jk 0) d.f.1) ?_))));rintro _ w2 M D ⟨i,l,rfl,C,u,p,o⟩;replace d:=(d.stepM 0 D u).to [⟨e,121,[.string s,nV b,iV x]⟩] [];replace j:=j.trans D;replace d:=((d.a_Seg p).add (K:=fun y=>PtH y l t) o);exact lL d ac (lN (kX (d.retM j [] (pB i) (by exact ⟨i,l,rfl,by first|assumption|omega,d.own 0,d.f.2.1,d.f.1⟩))))
theorem Ec  (B:PC nf 159 n .pow)(d:Nat)(s:ByteArray)(p:s.size<=1000000)(a:Nat)(ha:a<=s.size)(j:Int)(t:Tm)(b:Nat)(H:f5 nf s (n+1) .sign a=some (.ok t b))(w:World)(h:Hp)(g:G w h)(L:Own w d 121 [.string s,nV a,iV j])(O:h[d]?=some bg)(M:Tab h):Calls Tryz.prog 135 #[pB d] w (fd d w h (HR d s t b j)):=by
 have e:UpM [d] w h w h:=UpM.refl g;obtain ⟨wz,D,c⟩:=SS.at_ g L O;replace c:=(c.add (K:=fun C=>Tab C) M);refine go Tryz.func135 [(0,pB d)] rfl (aa c ac (ah (aa c ac ?_)));have z:=mJ (s:=s) (a:=a) oM;refine gk 6 (wZ d s p a ha j 45 kD (od H).1 _ _ c.g (c.own 0) (c.jk 0) c.f.1) ?_;rintro _ w2 Q J ⟨rfl,x⟩;replace c:=(c.stepM 0 J x).to [⟨d,121,[.string s,nV (sk s a),iV j]⟩] [];replace e:=e.trans J;refine lL c [.v qT] (ak (aa c ac (gk 9 (B d s p (sk s a) oM j t b (od H).2 _ _ c.g (c.own 0) (c.jk 0) c.f.1) ?_)));rintro _ U S I ⟨i,y,rfl,F,o,u,l⟩;replace c:=(c.stepM 0 I o).to [⟨d,121,[.string s,nV b,iV j]⟩] [];replace e:=e.trans I;replace c:=((c.a_Seg u).add (K:=fun C=>PtH C y t) l);exact lL c ac (lN (kX (c.retM e [] (pB i) (by exact ⟨i,y,rfl,by first|assumption|omega,c.own 0,c.f.2.1,c.f.1⟩))))
end
theorem J8 (c:Nat)(j:c<256)(w:World)(h:Hp)(g:G w h):CV 214 #[.int .u8 (c:Nat)] w h (.bool (me c)):=by
 have a:=sS g;refine go Tryz.func214 [(0,.int .u8 (c:Nat))] rfl (aa a ac (aG (lL a ac (aq 4 a (oI c j _ _ a.g) (fun w1 l a=>?_)))));cases i:(decide (48<=c/\c<=57))
 .
  have f:=oF i;refine lL a ax ?_;cases d:((c:Int) == (46:Int))
  .
   have e:=aj d;exact lB 7 d (lL a [.v qF,.c] (ae a [] qF (congrArg Value.bool (decide_eq_false oM).symm)))
  have e:=eq_of_beq d;exact lB 7 d (lL a [.v qT,.c] (ae a [] qT (congrArg Value.bool (decide_eq_true oM).symm)))
 have f:=oT i;refine lL a ac (lG 6 ?_);exact lG 7 (lL a [.v qT,.c] (ae a [] qT (congrArg Value.bool (decide_eq_true oM).symm)))
def HC (nf:ByteArray->Option Rat):Prop:=∀ x q,nf x=some q->∀ (w:World) (h:Hp),G w h->Tab h->CV 213 #[.string x] w h (.tuple #[qv q,.bool true])
section
variable {nf:ByteArray->Option Rat}(n:Nat)
theorem Hm  (J:PC nf 190 n .atom)(e:Nat)(s:ByteArray)(x:s.size<=1000000)(a:Nat)(ha:a<=s.size)(l:Int)(t:Tm)(b:Nat)(V:f5 nf s (n+1) .pow a=some (.ok t b))(w:World)(h:Hp)(g:G w h)(S:Own w e 121 [.string s,nV a,iV l])(W:h[e]?=some bg)(U:Tab h):Calls Tryz.prog 159 #[pB e] w (fd e w h (HR e s t b l)):=by
 have i:UpM [e] w h w h:=UpM.refl g;obtain ⟨wz,L,d⟩:=SS.at_ g S W;obtain ⟨y,F,D,I⟩:=De V;replace d:=(d.add (K:=fun H=>Tab H) U);refine go Tryz.func159 [(0,pB e)] rfl (aa d ac (aG (lL d ac (gk 13 (J e s x a ha l t y F _ _ d.g (d.own 0) (d.jk 0) d.f.1) ?_))));rintro _ w2 X Q ⟨j,o,rfl,O,B,z,p⟩;replace d:=(d.stepM 0 Q B).to [⟨e,121,[.string s,nV y,iV l]⟩] [];replace i:=i.trans Q;replace d:=((d.a_Seg z).add (K:=fun H=>PtH H o t) p);refine lL d ac (ah (aa d [.c,.v qF,.c,.c] ?_));have C:=mJ (s:=s) (a:=y) oM;refine gk 18 (wZ e s x y oM l 94 kD D _ _ d.g (d.own 0) (d.jk 0) d.f.r.1) ?_;rintro _ Z Y M ⟨rfl,u⟩;replace d:=(d.stepM 0 M u).to [⟨e,121,[.string s,nV (sk s y),iV l]⟩] [];replace i:=i.trans M;exact lL d [.v qT,.v qT] (ak (aa d ax (lN (kX (d.retM i [] (pB j) (by rw[I];exact ⟨j,o,rfl,by first|assumption|omega,d.own 0,d.f.2.1,d.f.1⟩))))))
theorem IW  (hnf:HC nf)(ihs:PC nf 57 n .sum)(j:Nat)(s:ByteArray)(F:s.size<=1000000)(a:Nat)(ha:a<=s.size)(z:Int)(t:Tm)(b:Nat)(hq:f5 nf s (n+1) .atom a=some (.ok t b))(w:World)(h:Hp)(g:G w h)(ho:Own w j 121 [.string s,nV a,iV z])(hj:h[j]?=some bg)(tb:Tab h):Calls Tryz.prog 190 #[pB j] w (fd j w h (HR j s t b z)):=by
 have e:UpM [j] w h w h:=UpM.refl g;obtain ⟨wz,L,d⟩:=SS.at_ g ho hj;replace d:=(d.add (K:=fun i=>Tab i) tb);refine go Tryz.func190 [(0,pB j)] rfl (aa d ac (aG (lL d ac ?_)));have b3:=mJ (s:=s) (a:=a) oM;refine gk 13 (AY j s F a ha z _ _ d.g (d.own 0) (d.jk 0) d.f.1) ?_;rintro _ w2 h3 u4 ⟨rfl,br⟩;replace d:=(d.stepM 0 u4 br).to [⟨j,121,[.string s,nV (sk s a),iV z]⟩] [];replace e:=e.trans u4;refine lL d ac (aG (lL d [.c,.v (pB j),.v (qP j 1),.o (nV (sk s a)) 0 1 1,.c] (ah (kZ (CG.join (fun Γ w_=>∃ (zd:Bool)(i:Hp),Γ=[(0,pB j),(2,.pointer none),(3,.int .u8 (aU s (sk s a):Nat)),(4,nV (sk s a)),(18,.bool zd)]/\SS wz L w_ i [⟨j,121,[.string s,nV (sk s a),iV z]⟩] [] [fun i=>Tab i]/\(zd=true->¬¬((48<=aU s (sk s a)/\aU s (sk s a)<=57)\/aU s (sk s a)=46))/\(zd=false->me (aU s (sk s a))=false)/\UpM [j] w h w_ i) ?_ ?_)))))
 .
  refine kQ (lL d ac (kL 20 (oI (aU s (sk s a)) (cM _ _) _ _ d.g) ?_));rintro _ w5 h6 u7 rfl;replace e:=e.trans (u7.m _);replace d:=d.step u7;cases hb8:(decide (48<=aU s (sk s a)/\aU s (sk s a)<=57))
  .
   have bt:=oF hb8;refine lL d ax ?_;cases I:(((aU s (sk s a):Nat):Int) == (46:Int))
   .
    have b0:=aj I;refine lB 23 I (lL d [.v qF,.c] (lD ?_));intro a_ D;exact ⟨_,⟨false,h6,rfl,d.to _ _,(fun i=>absurd i kD),(fun _=>decide_eq_false oM),e⟩,D.to _ kR⟩
   have b0:=eq_of_beq I;refine lB 23 I (lL d [.v qT,.c] (lD ?_));intro a_ D;exact ⟨_,⟨true,h6,rfl,d.to _ _,(fun _=>by omega),(fun i=>absurd i kD),e⟩,D.to _ kR⟩
  have bt:=oT hb8;refine lL d ac (lG 22 ?_);refine lG 23 (lL d [.v qT,.c] (lD ?_));intro a_ D;exact ⟨_,⟨true,h6,rfl,d.to _ _,(fun _=>by omega),(fun i=>absurd i kD),e⟩,D.to _ kR⟩
 rintro _ _ ⟨zd,_,rfl,d,zm,O,e⟩;cases za:(zd)
 .
  try rw[za] at d
  try rw[za]
  refine dC (CG.join (fun Γ w_=>∃ (ze:Bool)(i:Hp),Γ=[(0,pB j),(2,.pointer none),(3,.int .u8 (aU s (sk s a):Nat)),(4,nV (sk s a)),(38,.bool ze)]/\SS wz L w_ i [⟨j,121,[.string s,nV (sk s a),iV z]⟩] [] [fun i=>Tab i]/\(ze=true->iX (aU s (sk s a))\/aU s (sk s a)=95)/\(ze=false->¬(iX (aU s (sk s a))\/aU s (sk s a)=95))/\UpM [j] w h w_ i) ?_ ?_)
  .
   refine kQ (lL d ac (kL 40 (mI (aU s (sk s a)) (cM _ _) _ _ d.g) ?_));rintro _ _ zf Z rfl;replace e:=e.trans (Z.m _);replace d:=d.step Z;cases zg:(decide (iX (aU s (sk s a))))
   .
    have zk:=oF zg;refine lL d ax ?_;cases zb:(((aU s (sk s a):Nat):Int) == (95:Int))
    .
     have zl:=aj zb;refine lB 43 zb (lL d [.v qF,.c] (lD ?_));intro a_ D;exact ⟨_,⟨false,zf,rfl,d.to _ _,(fun i=>absurd i kD),(fun _ i=>by rcases i with i|i;exact absurd i aM;omega),e⟩,D.to _ kR⟩
    have zl:=eq_of_beq zb;refine lB 43 zb (lL d [.v qT,.c] (lD ?_));intro a_ D;exact ⟨_,⟨true,zf,rfl,d.to _ _,(fun _=>by first|exact .inl aM|exact .inr oM),(fun i=>absurd i kD),e⟩,D.to _ kR⟩
   have zk:=oT zg;refine lL d ac (lG 42 ?_);refine lG 43 (lL d [.v qT,.c] (lD ?_));intro a_ D;exact ⟨_,⟨true,zf,rfl,d.to _ _,(fun _=>by first|exact .inl aM|exact .inr oM),(fun i=>absurd i kD),e⟩,D.to _ kR⟩
  rintro _ _ ⟨ze,_,rfl,d,bq,bz,e⟩;cases zc:(ze)
  .
   try rw[zc] at d
   try rw[zc]
   refine dC (aa d ac ?_);obtain ⟨_,e1,hq1,hd1,y⟩:=DV hq (O aM) (bz aM);have b4:=xJ (s:=s) (a:=sk s a) oM;have zn:(((aU s (sk s a):Nat):Int) == (91:Int))=false:=fh oM;refine lB 68 zn (lL d ac (ag (aa d ac ?_)));have zo:(((aU s (sk s a):Nat):Int) == (40:Int))=true:=pE oM;refine lB 73 zo (lL d ac (ak (aa d [.c,.v (pB j),.v (qP j 1),.o (nV (sk s a)) 0 1 1] (bv 78 ((sk s a:Nat)+1) ((sk s a)+1) ?_))));refine lL d [.v (pB j),.v (qP j 1)] (nI 0 1 ([nV ((sk s a)+1)]) d (fun _ pu d=>?_));replace e:=e.put pu (sA.2 rfl) d.g;refine aG (lL d ac (gk 82 (ihs j s F ((sk s a)+1) oM z t e1 hq1 _ _ d.g (d.own 0) (d.jk 0) d.f.1) ?_));rintro _ _ _ Y ⟨C,M,rfl,b2,X,Q,S⟩;replace d:=(d.stepM 0 Y X).to [⟨j,121,[.string s,nV e1,iV z]⟩] [];replace e:=e.trans Y;replace d:=((d.a_Seg Q).add (K:=fun i=>PtH i M t) S);refine lL d ac (ah (aa d [.c,.v qT,.c,.c] (gk 87 (GF j s F e1 oM z 41 kD hd1 _ _ d.g (d.own 0) (d.jk 0) d.f.r.1) ?_)));rintro _ _ _ u49 ⟨rfl,b1,W⟩;replace d:=(d.stepM 0 u49 W).to [⟨j,121,[.string s,nV (sk s e1+1),iV z]⟩] [];replace e:=e.trans u49;exact lL d [.v qF,.v qF] (ag (cK (aa d ax (lN (kX (d.retM e [] (pB C) (by rw[y];exact ⟨C,M,rfl,by first|assumption|omega,d.own 0,d.f.2.1,d.f.1⟩)))))))
  try rw[zc] at d
  try rw[zc]
  refine cn (aa d ac ?_);have hcW:=bq aM;obtain ⟨bk,hnm,V,y⟩:=CN hq (O aM) hcW;have J:=BR (p:=hJ) (s:=s) (a:=sk s a) oM;refine gk 46 (JN 71 hJ (fun _ _=>by kernel_rfl) (fun c hc w h g=>pJ c hc w h g) j s F (sk s a) oM z _ _ d.g (d.own 0) (d.jk 0) d.f.1) ?_;rintro _ _ _ u52 ⟨rfl,H⟩;replace d:=(d.stepM 0 u52 H).to [⟨j,121,[.string s,nV (rn hJ s (sk s a)),iV z]⟩] [];replace e:=e.trans u52;refine lL d ac (ah (aD (kL 48 (ux _ _ d.g) ?_)));rintro _ _ _ u55 ⟨bm,rfl,hcm⟩;replace e:=e.trans (u55.m _);replace d:=d.step u55;replace d:=(d.add (K:=fun i=>MapS i bm jx) hcm);refine lL d ac (I6 50 96 9 3 (s.extract (sk s a) (rn hJ s (sk s a))) true (iV 0) (false) d d.f.1 ?_ (hf:=(by rcases s7 (s.extract (sk s a) (rn hJ s (sk s a))) with ⟨i_,e1_,e2_⟩|⟨e1_,e2_,e3_⟩;exact absurd (e2_.symm.trans bk) kD;exact .inr ⟨e1_,rfl,fun _=>by kernel_rfl⟩)));refine lL d [.c,.v (iV 0),.v qF,.c,.c] (aG (lL d ac (ag (cK (cQ (aa d ac (kL 58 ((by have q_:=Gx (s.extract (sk s a) (rn hJ s (sk s a))) (by rw[ByteArray.size_extract];omega) _ _ d.g;rw[hnm] at q_;exact q_)) ?_)))))));rintro _ _ _ u58 rfl;replace e:=e.trans (u58.m _);replace d:=d.step u58;refine lL d [.v qF] (ag (cK (aa d [.c,.v (.agg #[iV 2,iV 0,qF,uV 0,eS,uV 0,eS,.string (s.extract (sk s a) (rn hJ s (sk s a))),sZ])] (JT 65 52 ([iV 2,iV 0,qF,uV 0,eS,uV 0,eS,.string (s.extract (sk s a) (rn hJ s (sk s a))),sZ]) d (fun zi _ _ u62 u d=>?_)))));replace u:=eb e.gr.size u;replace e:=e.trans (u62.m _);refine lL d ac (lN (kX ?_));obtain ⟨zp,d,e,bb⟩:=d.pubM e 0 u;replace d:=d.to [⟨j,121,[.string s,nV (rn hJ s (sk s a)),iV z]⟩] [];have bf:Seg zp zi 0 (dh ⟨2,0,0,(s.extract (sk s a) (rn hJ s (sk s a))),none,0,0⟩):=bb;replace d:=d.a_Seg bf;exact d.retM e [] (pB zi) (by rw[V];rw[y];exact ⟨zi,⟨2,0,0,(s.extract (sk s a) (rn hJ s (sk s a))),none,0,0⟩,rfl,by first|assumption|omega,d.own 0,d.f.1,PtH.nam⟩)
 try rw[za] at d
 try rw[za]
 refine cn (aa d ac ?_);obtain ⟨q,hnq,V,y⟩:=C6 hq (decide_eq_true (Decidable.byContradiction fun i=>zm aM i));have J:=BR (p:=me) (s:=s) (a:=sk s a) oM;refine gk 27 (JN 214 me (fun _ _=>by kernel_rfl) (fun c hc w h g=>J8 c hc w h g) j s F (sk s a) oM z _ _ d.g (d.own 0) (d.jk 0) d.f.1) ?_;rintro _ _ _ u69 ⟨rfl,H⟩;rw[<-y] at H J
 replace d:=(d.stepM 0 u69 H).to [⟨j,121,[.string s,nV b,iV z]⟩] [];replace e:=e.trans u69;refine kL 28 (hnf _ _ hnq _ _ d.g d.f.1) ?_;rintro _ _ _ u72 rfl;replace e:=e.trans (u72.m _);replace d:=d.step u72;refine lL d [.c,.v (qv q),.v qT] (JT 5 49 a6 d (fun zq _ _ u76 x d=>?_));replace x:=eb e.gr.size x;replace e:=e.trans (u76.m _);refine nI 0 0 (qc q) d (fun _ pu d=>?_);replace e:=e.put2 pu x g d.g;refine lL d ac (ah (aa d [.c,.v qF] (ag (cK (aa d [.o (qv q) 0 0 5] (kL 37 (EN q _ _ d.g) ?_))))));rintro _ _ _ u81 ⟨B,rfl,U⟩;replace e:=e.trans (u81.m _);replace d:=d.step u81;replace d:=(d.add (K:=fun i=>PtH i B (qN q)) U);refine JT 7 52 a7 d (fun zj _ _ u85 l d=>?_);replace l:=eb e.gr.size l;replace e:=e.trans (u85.m _);refine nI 0 0 (dh B) d (fun _ pu d=>?_);replace e:=e.put2 pu l g d.g;refine aG (lL d ac (lN (kX ?_)));obtain ⟨zr,d,e,bl⟩:=d.pubM e 0 l;replace d:=d.to [⟨zq,49,qc q⟩,⟨j,121,[.string s,nV b,iV z]⟩] [];have bn:Seg zr zj 0 (dh B):=bl;replace d:=d.a_Seg bn;exact d.retM e [] (pB zj) (by rw[V];exact ⟨zj,B,rfl,by first|assumption|omega,d.own 1,d.f.1,d.f.2.1⟩)
end
section
variable {nf:ByteArray->Option Rat}(hnf:HC nf)
include hnf
def KD (nf:ByteArray->Option Rat)(n:Nat):Prop:=PC nf 57 n .sum/\PC nf 99 n .prod/\PC nf 135 n .sign/\PC nf 159 n .pow/\PC nf 190 n .atom
theorem Ka (n:Nat):KD nf n:=by
  induction n using g4 with
  | ind n ih =>
    cases n with
    | zero=>exact ⟨fun _ _ _ _ _ _ _ _ h=>(by cases h),fun _ _ _ _ _ _ _ _ h=>(by cases h),fun _ _ _ _ _ _ _ _ h=>(by cases h),fun _ _ _ _ _ _ _ _ h=>(by cases h),fun _ _ _ _ _ _ _ _ h=>(by cases h)⟩
    | succ n =>
      have i:=ih n (Nat.lt_succ_self n);refine ⟨?_,?_,?_,?_,?_⟩
      . exact fun c s h1 a f l t b j w h g d o e=>J9 n (fun m p=>(ih m oM).2.1) c s h1 a f l t b j w h g d o e
      . exact fun c s h1 a f l t b j w h g d o e=>Bz n (fun m p=>(ih m oM).2.2.1) c s h1 a f l t b j w h g d o e
      . exact fun c s h1 a f l t b j w h g d o e=>Ec n i.2.2.2.1 c s h1 a f l t b j w h g d o e
      . exact fun c s h1 a f l t b j w h g d o e=>Hm n i.2.2.2.2 c s h1 a f l t b j w h g d o e
      . exact fun c s h1 a f l t b j w h g d o e=>IW n hnf i.1 c s h1 a f l t b j w h g d o e
end
theorem wL {c:UInt8}:∀ (l:List UInt8),(∀ b∈l,b≠c)->Lib.indexByte l c = -1
  | [],_=>rfl
  | b::l,h=>by
    have h1:(b == c)=false:=by simpa using h b MD
    unfold Lib.indexByte
    rw[h1,wL l (fun b a=>h b (ME _ a))];rfl
theorem DE {s:ByteArray}{b:UInt8}(h:b∈s.data.toList):∃ i,i<s.size/\aU s i=b.toNat:=by
 obtain ⟨i,hi,e⟩:=ul.1 h;refine ⟨i,by simpa using hi,?_⟩
 unfold aU
 rw[LI,NG hi,e];rfl
theorem Ex (x:ByteArray)(c:UInt8)(hn:∀ i,i<x.size->aU x i≠c.toNat)(w:World)(h:Hp)(g:G w h):CV 235 #[.string x,.string ⟨#[c]⟩] w h (iV (-1)):=by
 have q:=Ret.of_same g (Tryz.stringslite_Index_one x c w)
 rw[wL _ (fun b a e=>by
  obtain ⟨i,hi,h1⟩:=DE a;exact hn i hi (by rw[h1,e]))] at q
 exact q
theorem Ht {x:ByteArray}{c:UInt8}(h:aU x 0≠c.toNat):Lib.hasPrefix x.data.toList [c]=false:=by
  unfold Lib.hasPrefix
  unfold aU at h
  cases e:x.data.toList with
  | nil=>rfl
  | cons b l =>
    rw[e] at h
    have:b≠c:=fun a=>h (by rw[a];rfl)
    simp[List.isPrefixOf,Ne.symm this]
theorem qk (x:ByteArray)(c:UInt8)(hn:aU x 0≠c.toNat)(w:World)(h:Hp)(g:G w h):CV 228 #[.string x,.string ⟨#[c]⟩] w h (.tuple #[.string x,.bool false]):=by
 have q:=Ret.of_same g (Tryz.strings_CutPrefix x ⟨#[c]⟩ w);have e:Lib.hasPrefix x.data.toList [c]=false:=Ht hn;have d:(⟨(Lib.trimPrefix x.data.toList [c]).toArray⟩:ByteArray)=x:=by unfold Lib.trimPrefix;rw[e];simp
 have a:CV 228 #[.string x,.string ⟨#[c]⟩] w h (.tuple #[.string ⟨(Lib.trimPrefix x.data.toList [c]).toArray⟩,.bool (Lib.hasPrefix x.data.toList [c])]):=q;rw[e,d] at a;exact a
theorem I2 (m a:Nat)(ha:a<18446744073709551616)(w:World)(h:Hp)(g:G w h):CR 218 #[.slice none ((([]:List Nat)).length) 0,mV m,mV a] w h (fun v h1=>∃ (A:Z9)(c:Nat)(l:List Nat),v=.slice A l.length c/\l.length<=c/\SlO 1 ao 0 h1 A l/\l=if a=0 then [] else [a]):=by
 have d:=(sS g).nil 43 1;have o:([]:List Nat).length=0:=rfl;refine go Tryz.func218 [(0,qS none ((([]:List Nat)).length) 0),(1,mV m),(2,mV a)] rfl (aa d ac (aG (lL d ax (ah (aa d [.c,.v (iV 0),.c] (aZ (cU ?_)))))));refine cN (aa d [.v qF] (ah (dC (CG.exit ?_))))
 show CG _ _ _ _ _ _ _ _
 refine cQ (aa d ac ?_);cases e:((a:Int) != (0:Int))
 .
  have i:=aW e;exact lB 43 e (ag (cK (aa d ax (ae d [] (qS none ((([]:List Nat)).length) 0) (⟨none,0,[],rfl,nR _,SlO.nil,by rw[if_pos oM]⟩)))))
 have i:=aK e;refine lB 43 e (ak (kQ (lL d ax (lR 46 43 1 ([mV a]) d (fun y w3 B d=>lY 47 0 43 1 0 none ([]:List Nat) ao a 8 y (uV 0) d d.f.1 (fun u p C z d=>lL d ac (aG (lL d ax (lN (kX ?_))))))))));obtain ⟨_,d,x⟩:=d.pubr 0 (A:=u) (c:=p) (l:=([]:List Nat)++[a]) (f:=ao) (ty:=43) (sz:=1) 0 (fun _=>rfl);have j:=(d.f.1);exact d.ret [] (qS u ((([]:List Nat)++[a]).length) p) (⟨_,_,_,rfl,x,j,by rw[if_neg oM];rfl⟩)
theorem Ej  (w:World)(h:Hp)(g:G w h):CV 192 #[.string (⟨#[49]⟩)] w h (.tuple #[nv 1,.bool true]):=by
 have a:=sS g;refine go Tryz.func192 [(0,.string (⟨#[49]⟩))] rfl (aD (lA 2 45 ([uV 0,eS]) a (fun e w2 x a=>lL a ac (ah (aa a [.c,.v (iV 1),.v qF,.c,.c,.v (iV 1),.v qF,.v qF,.c,.c,.v (iV 1),.v qF,.c] (lG 21 ?_))))));refine lG 22 (lG 23 (lL a [.v qF,.v qF] (ag (cK (aa a ac (aG (lL a ax (ah (aa a [.c,.v (iV 1),.c] (aZ (cU ?_)))))))))));refine cN (aa a [.v qT] (ah (cn (cK (cQ (kZ (aa a ax (ah (aa a [.c,.c,.v (.int .u8 49),.v qF,.c,.c,.c,.v (.int .u8 49),.v qF,.v qF] (ag (cK (aa a [.c,.v (uV 0),.c,.c,.v (.int .u8 49),.v (.int .u8 1),.v (uV 1),.v (uV 1),.c,.v (uV 10),.c,.c] (aG (lL a [.c,.v qF,.c,.c,.c,.v (iV 1),.v (iV 0),.v qT,.v qT] (ak (aa a cJ (lC 65 a (I2 10 1 kD _ _ a.g) ?_)))))))))))))))));rintro _ p u a ⟨d,c2,l2,rfl,j,l,i⟩;obtain rfl:l2=[1]:=i;replace a:=a.aS l;refine lL a ac (lN (kQ (lL a ax (lN (kQ (lL a [.v (iV 1),.c] (lD (CL.to [(0,.string (⟨#[49]⟩)),(2,pB e),(3,qF),(4,qS d 1 c2),(5,uV 0),(6,uV 1),(28,iV 1),(29,iV 1),(30,qT),(31,iV 0),(7,iV 0),(32,.string (⟨#[49]⟩)),(33,iV 0),(34,.int .u8 49),(35,qF),(36,qF),(37,.string (⟨#[49]⟩)),(38,iV 0),(39,.int .u8 49),(40,qF),(41,qF),(43,uV 0),(44,uV 0),(45,.string (⟨#[49]⟩)),(46,iV 0),(47,.int .u8 49),(48,.int .u8 1),(49,uV 1),(50,uV 1),(51,uV 1),(52,uV 10),(53,uV 10),(54,qF),(55,qF),(56,iV 0),(57,.string (⟨#[49]⟩)),(58,iV 1),(59,iV 0),(60,qT),(61,qT),(62,sZ),(63,uV 10),(64,uV 1),(65,qS d 1 c2),(66,iV 1)] ?_))))))));replace a:=a.to [⟨e,45,[uV 0,eS]⟩] [];refine cN (aa a [.v qF] (ah (dC (CG.exit ?_))))
 show CG _ _ _ _ _ _ _ _
 exact bH [(2,pB e),(3,qF),(4,qS d 1 c2)] (aa a ac (aq 68 a (Fl d c2 [1] (Dg.one kD) kD j _ _ a.g a.f.1) (fun o y a=>lP 0 0 (nc (aA [1])) a (fun z a=>lL a ac (ae a [(0,0,2)] (.tuple #[nv (aA [1]),qT]) rfl)))))
theorem Ic (x:ByteArray)(c:UInt8)(hn:∀ i,i<x.size->aU x i≠c.toNat)(w:World)(h:Hp)(g:G w h):CV 227 #[.string x,.string (⟨#[c]⟩)] w h (.tuple #[.string x,eS,.bool false]):=by
 have a:=sS g;exact go Tryz.func227 [(0,.string x),(1,.string (⟨#[c]⟩))] rfl (aa a cJ (ah (aa a ax (aq 10 a (Ex x c hn _ _ a.g) (fun w1 d a=>lL a ac (aG (lL a [.c,.v qF] (ag (cK (aa a m4 (ae a [] (.tuple #[.string x,eS,qF]) rfl)))))))))))
theorem EX (x:ByteArray)(c:UInt8)(hn:∀ i,i<x.size->aU x i≠c.toNat)(w:World)(h:Hp)(g:G w h):CV 221 #[.string x,.string (⟨#[c]⟩)] w h (.tuple #[.string x,eS,.bool false]):=by
 have a:=sS g;exact go Tryz.func221 [(0,.string x),(1,.string (⟨#[c]⟩))] rfl (aa a cJ (aG (lL a ax (aq 9 a (Ic x c hn _ _ a.g) (fun w1 d a=>lL a [.v (.string x),.v (eS),.v qF,.c,.c,.c] (ae a [] (.tuple #[.string x,eS,qF]) rfl))))))
theorem C7  (w:World)(h:Hp)(g:G w h):CV 224 #[.string (⟨#[49]⟩)] w h (.tuple #[iv ((1:Nat):Int),.bool true]):=by
 have a:=sS g;refine go Tryz.func224 [(0,.string (⟨#[49]⟩))] rfl (aD (lA 2 47 ([qF,uV 0,eS]) a (fun f w2 j a=>lL a ac (aG (lL a ac (aq 10 a (qk ⟨#[49]⟩ 45 (by show aU ⟨#[49]⟩ 0≠45;decide) _ _ a.g) (fun d e a=>lL a [.c,.v (.string (⟨#[49]⟩)),.v qF,.c,.c] (aG (lL a ac (aq 15 a (Ej _ _ a.g) (fun p l a=>lL a [.c,.v (nv 1),.v qT] (lA 6 45 ([uV 0,eS]) a (fun b8 i _ a=>lP 0 0 (nc 1) a (fun _ a=>lL a ac (ah (aa a [.c,.v qF,.c,.c,.c] (lG 23 ?_)))))))))))))))));exact lG 24 (lG 25 (lL a [.v qF,.v qF] (ag (cK (aa a [.c,.o (nv 1) 0 0 2] (aq 31 a (eW 1 _ _ a.g) (fun _ _ a=>lP 1 0 (ic ((1:Nat):Int)) a (fun _ a=>lL a ac (ae a [(1,0,3)] (.tuple #[iv ((1:Nat):Int),qT]) rfl)))))))))
theorem D4  (w:World)(h:Hp)(g:G w h):CV 213 #[.string (⟨#[49]⟩)] w h (.tuple #[qv ((1:Nat):Rat),.bool true]):=by
 have a:=sS g;exact go Tryz.func213 [(0,.string (⟨#[49]⟩))] rfl (aD (lA 2 49 a6 a (fun u w2 x a=>lL a ac (ah (aa a ac (aq 14 a (EX ⟨#[49]⟩ 47 (by intro i hi;obtain rfl:i=0:=(by have:i<1:=hi;omega);show aU ⟨#[49]⟩ 0≠47;decide) _ _ a.g) (fun l p a=>lL a [.c,.v (.string (⟨#[49]⟩)),.v (eS),.v qF,.c,.c,.c] (aG (lL a ac (ag (cK (cQ (aa a ac (aq 26 a (EX ⟨#[49]⟩ 46 (by intro i hi;obtain rfl:i=0:=(by have:i<1:=hi;omega);show aU ⟨#[49]⟩ 0≠46;decide) _ _ a.g) (fun j y a=>lL a [.c,.v (.string (⟨#[49]⟩)),.v (eS),.v qF,.c,.c,.c] (aG (lL a ac (ag (cK (aa a ac (aq 38 a (C7 _ _ a.g) (fun B z a=>lL a [.c,.v (iv ((1:Nat):Int)),.v qT] (lA 10 47 ([qF,uV 0,eS]) a (fun e _ _ a=>lP 0 0 (ic ((1:Nat):Int)) a (fun _ a=>lL a ac (aG (lL a [.o (iv ((1:Nat):Int)) 0 0 3,.v (.agg #[.bool (af ((1:Nat):Int)),uV (lo (ab ((1:Nat):Int))),.string (hi (ab ((1:Nat):Int))),uV 0,eS]),.c] (lP 1 0 ([.bool (af ((1:Nat):Int)),uV (lo (ab ((1:Nat):Int))),.string (hi (ab ((1:Nat):Int))),uV 0,eS]) a (fun _ a=>lL a ac (ae a [(1,0,5)] (.tuple #[.agg #[.bool (af ((1:Nat):Int)),uV (lo (ab ((1:Nat):Int))),.string (hi (ab ((1:Nat):Int))),uV 0,eS],qT]) (congrArg (fun f=>Value.tuple #[f,qT]) (jv (d:=0) (Rat.num_natCast 1) (mT (Rat.den_natCast 1))))))))))))))))))))))))))))))))))
def IM (x:ByteArray):Option Rat:=if x=⟨#[49]⟩ then some ((1:Nat):Rat) else none
theorem GR:HC IM:=fun x q h w a g _=>by
 unfold IM at h
 split at h
 ·rename_i e;subst e;injection h with h;subst h;exact D4 w a g
 ·cases h
theorem Kg:∀ s,fT s->∀ (w:World) (h:Hp),G w h->Calls Tryz.prog 40 #[.string s] w (Ret w h (fun v _=>∃ b,v=.bool b/\b=dq s)):=fun s c w h g=>(Gx s (by unfold fT at c;omega) w h g).mono fun e w' ⟨v,d,a,u,f⟩=>⟨v,d,a,u,_,f,rfl⟩
theorem TmH.cut {ok:ByteArray->Prop}{h:Hp}:∀ {e d:Nat} {p:PTm} {t:Tm},TmH e h p t->WfT ok d t->TmH d h p t
 | _,0,_,_,_,x=>x.elim
 | 0,_,_,_,x,_=>x.elim
 | e+1,d+1,p,t,⟨h1,h2,h3,h4,h5,h6,ps,h7,h8,h9⟩,⟨_,_,_,_,_,_,_,_,k⟩=>⟨h1,h2,h3,h4,h5,h6,ps,h7,h8,fun i hi=>(h9 i hi).cut (k i hi)⟩
theorem PtH.cut {ok:ByteArray->Prop}{h:Hp}{d:Nat}{p:PTm}{t:Tm}(x:PtH h p t)(y:WfT ok d t):TmH d h p t:=by obtain ⟨e,x⟩:=x;exact x.cut y
theorem AF (s:ByteArray)(Q:s.size<=65536)(n:Nat)(t:Tm)(b:Nat)(L:f5 IM s n .sum 0=some (.ok t b))(B:sk s b=s.size)(d:Nat)(S:d<=24)(x:WfT (fun s=>dq s=true) d t)(W:bI d t<=1000)(w:World)(h:Hp)(g:G w h)(I:Tab h):CR 27 #[.string s] w h (fun v h1=>∃ p,v=.tuple #[bU p,.agg #[iV 0,iV 0,iV 0]]/\TmH d h1 p t):=by
 have a:=((sS g).add (K:=fun e=>Tab e) I);refine go Tryz.func27 [(0,.string s)] rfl (aD (lA 2 52 a7 a (fun z w2 V a=>lA 3 76 ([iV 0,iV 0,iV 0]) a (fun F X U a=>ah (aa a [.c,.v (nV s.size)] ?_)))));have l:(decide ((65536:Int)<(s.size:Int)))=false:=decide_eq_false oM;refine lB 9 l (ag (cK (aa a [.c,.v (.agg #[.string s,iV 0,iV 0])] (lA 14 121 ([.string s,iV 0,iV 0]) a (fun b8 Y _ a=>lL a ac (aG (lL a ac (gk 16 ((Ka GR n).1 b8 s oM 0 (Mv _) 0 t b L _ _ a.g (a.own 0) (a.jk 0) a.f.1) ?_))))))));rintro _ _ _ y ⟨C,p,rfl,j,J,O,H⟩;replace a:=(a.stepM 0 y J).to [⟨b8,121,[.string s,nV b,iV 0]⟩,⟨F,76,[iV 0,iV 0,iV 0]⟩,⟨z,52,[iV 0,iV 0,qF,uV 0,eS,uV 0,eS,eS,sZ]⟩] [];replace a:=((a.a_Seg O).add (K:=fun e=>PtH e p t) H);refine lL a ac (ah (aa a [.c,.v qT] (ak (aa a ac (gk 20 (AY b8 s oM b j 0 _ _ a.g (a.own 0) (a.jk 0) a.f.r.1) ?_)))));rintro _ _ _ u ⟨rfl,i⟩;rw[B] at i
 rw[B];replace a:=(a.stepM 0 u i).to [⟨b8,121,[.string s,nV s.size,iV 0]⟩,⟨F,76,[iV 0,iV 0,iV 0]⟩,⟨z,52,[iV 0,iV 0,qF,uV 0,eS,uV 0,eS,eS,sZ]⟩] [];refine aG (lL a [.c,.v (pB b8),.v (qP b8 1),.o (nV s.size) 0 1 1,.c,.v (nV s.size)] ?_);have M:(decide ((s.size:Int)<(s.size:Int)))=false:=decide_eq_false oM;refine lB 27 M (ag (cK (cQ (aa a [.c,.v qF] (ag (cK (cQ (aa a [.c,.v (pB C)] (lH 44 (bU p) a a.f.2.1 ?_)))))))));refine aq 45 a ((by have D:=Jk dq fT Kg (fun s e=>oY e) CD d p t S _ _ a.g ((a.f.1).cut x) x;rw[if_neg oM] at D;exact D)) (fun _ _ a=>lL a ac (aG (lL a [.c,.v qF] (ag (cK (aa a [.c,.v (pB C)] (lH 53 (bU p) a a.f.2.1 ?_)))))));exact lL a [.v (.agg #[iV 0,iV 0,iV 0])] (lP 2 0 (dh p) a (fun _ a=>lP 1 0 ([iV 0,iV 0,iV 0]) a (fun _ a=>ae a [(2,0,9),(1,0,3)] (.tuple #[bU p,.agg #[iV 0,iV 0,iV 0]]) (⟨p,rfl,(a.f.1).cut x⟩))))
theorem JG {e:Int}{d:List Rat}(x:DserR 3 Cq [⟨#[120]⟩] ([((0:Int):Rat)]:List Rat) ([((1:Int):Rat)]:List Rat) 3 e d):e=0/\d=[1,1,1,1]:=by
 obtain ⟨c,c1,c2⟩:=x;obtain rfl:=c1.uniq (IA (u5 kD) Fv ⟨rfl,rfl⟩ (by intro i hi;match i,hi with|0,_=>decide) (u5 kD) kD)
 rcases c2 with ⟨k,_⟩|⟨_,a⟩
 ·exact absurd rfl k
 ·have v:bu (dZ [⟨#[120]⟩]) ([((0:Int):Rat)]:List Rat) ([((1:Int):Rat)]:List Rat) (3+1) 3 Cq=(0,[1,1,1,1]):=by kernel_rfl
  rw[v] at a
  injection a with a1 a2
  exact ⟨a1,a2⟩
theorem sw (p:PTm)(d:Z9)(a:Nat)(f:Z9)(l:Nat)(i:Z9)(j:Nat)(w:World)(h:Hp)(g:G w h)(x:TmH 3 h p Cq)(I:SlO 1 bB ⟨#[]⟩ h d [⟨#[120]⟩])(B:Sq f ([((0:Int):Rat)]:List Rat) h)(H:Sq i ([((1:Int):Rat)]:List Rat) h)(y:Tab h):CR 9 #[bU p,.slice d 1 a,.slice f 1 l,.slice i 1 j,iV 3] w h (fun v h1=>∃ (c:Z9)(e:Nat),v=.tuple #[.slice c 4 e,iV 0]/\Sq c [1,1,1,1] h1) :=
 (nN 3 p Cq kD d a [⟨#[120]⟩] (.inr (.inr (.inr (.inr (.inr rfl))))) ([((0:Int):Rat)]:List Rat) ([((1:Int):Rat)]:List Rat) f l i j 3 kD kD kD (B7 (LQ.int kD kD)) (B7 (LQ.int kD kD)) w h g x ((u5 kD:WfT1 (fun s=>dq s=true) 3 Cq).sm (fun _ h=>oY h) (by unfold fT;decide)) I B H y).mono fun _ _ ⟨v,z,D,u,K,c,e,J,F,C,o⟩=>by
  obtain ⟨rfl,rfl⟩:=JG o;exact ⟨v,z,D,u,c,e,F,C⟩
theorem IT (l:Z9)(m p:Nat)(hm:m<=1000)(K D:Nat)(F:1<=K)(L:K<=1000000)(X:D<=20000000)(H:Nat)(z:Int)(q:Rat)(s:ByteArray)(A:Z9)(C c:Nat)(a:Rat)(ga:List Rat)(e:Z9)(u:Nat)(x:ga.length=m)(ha:LQ K a)(M:∀ i,LQ D (ga.getD i 0))(b:Rat)(gb:List Rat)(j:Z9)(cb:Nat)(O:gb.length=m)(V:LQ K b)(I:∀ i,LQ D (gb.getD i 0))(w:World)(h:Hp)(g:G w h)(J:Sq e ga h)(y:Sq j gb h)(Y:Tab h):CR 101 #[.agg #[.iface 127 (.agg #[.slice l m p]),.map (some H),.bool false],bU ⟨5,z,q,s,A,C,c⟩,qY a e ga.length u,qY b j gb.length cb] w h (fun v h1=>∃ (Q:Z9)(c_:Nat),v=.tuple #[wo (a*b) Q ((ov m).map fun i=>ga.getD i 0*b+a*gb.getD i 0).length c_,iV 0]/\Sq Q ((ov m).map fun i=>ga.getD i 0*b+a*gb.getD i 0) h1):=by
 have d:=((((sS g).aS J).aS y).add (K:=fun h_=>Tab h_) Y);refine go Tryz.func101 [(0,.agg #[.iface 127 (.agg #[qS l m p]),.map (some H),qF]),(1,bU ⟨5,z,q,s,A,C,c⟩),(2,qY a e ga.length u),(3,qY b j gb.length cb)] rfl (aD (lA 4 131 ([.iface 127 (.agg #[qS l m p]),.map (some H),qF]) d (fun U w2 h3 d=>lA 5 52 (dh ⟨5,z,q,s,A,C,c⟩) d (fun Z w5 h6 d=>lA 6 80 (qZ a e ga.length u) d (fun b7 w8 h9 d=>lA 7 80 (qZ b j gb.length cb) d (fun b10 _ _ d=>lA 8 80 ([qF,uV 0,eS,uV 0,eS,sZ]) d (fun W _ _ d=>lL d ac (ah (aa d [.v (pB Z),.o (iV 5) 3 0 1] (aZ (aa d [.v qF,.c] (ag (aa d [.v qF,.c] (ag (aa d [.v qT,.c] (ak (aa d [.v (pB U),.o (.iface 127 (.agg #[qS l m p])) 4 0 1,.o (qY a e ga.length u) 2 0 6,.o (qY b j gb.length cb) 1 0 6] (lC 37 d (J6 l m p hm K D F L X a ga e u x ha M b gb j cb O V I _ _ d.g d.f.r.1 d.f.2.1 d.f.1) ?_))))))))))))))))));rintro _ _ _ d ⟨S,rfl,B⟩;replace d:=d.aS B;exact lP 0 0 (qZ (a*b) (sB S) (((ov m).map fun i=>ga.getD i 0*b+a*gb.getD i 0).length) m) d (fun _ d=>lL d ac (ae d [(0,0,6)] (.tuple #[qY (a*b) (sB S) (((ov m).map fun i=>ga.getD i 0*b+a*gb.getD i 0).length) m,iV 0]) (⟨_,_,rfl,d.f.1⟩)))
theorem HS (x:Z9)(y:Nat)(u:Nat)(z:Int)(q:Rat)(s:ByteArray)(A:Z9)(c:Nat)(D C:PTm)(t1 U:Tm)(d:Nat)(e:Rat)(l:List Rat)(hl1:l.length=2)(hq1:LQ 1 e)(hg1:∀ i,LQ 1 (l.getD i 0))(j:Rat)(p:List Rat)(V:p.length=2)(W:LQ 1 j)(hg2:∀ i,LQ 1 (p.getD i 0))(Z:∀ w h,G w h->TmH d h D t1->Sq x ([((2:Int):Rat),((3:Int):Rat)]:List Rat) h->MapS h u (l9 ([⟨#[120]⟩,⟨#[121]⟩]:List ByteArray))->Tab h->Calls Tryz.prog 60 #[.agg #[.iface 127 (.agg #[.slice x 2 y]),.map (some u),.bool false],bU D] w (Ret w h (fun v h1=>∃ (B:Z9)(c_:Nat),v=.tuple #[wo (e) B l.length c_,iV 0]/\Sq B l h1)))(c2_:∀ w h,G w h->TmH d h C U->Sq x ([((2:Int):Rat),((3:Int):Rat)]:List Rat) h->MapS h u (l9 ([⟨#[120]⟩,⟨#[121]⟩]:List ByteArray))->Tab h->Calls Tryz.prog 60 #[.agg #[.iface 127 (.agg #[.slice x 2 y]),.map (some u),.bool false],bU C] w (Ret w h (fun v h1=>∃ (B:Z9)(c_:Nat),v=.tuple #[wo (j) B p.length c_,iV 0]/\Sq B p h1)))(w:World)(h:Hp)(g:G w h)(hK:SlO 9 dh cC h A [D,C])(X:TmH d h D t1)(S:TmH d h C U)(hF:Sq x ([((2:Int):Rat),((3:Int):Rat)]:List Rat) h)(hM:MapS h u (l9 ([⟨#[120]⟩,⟨#[121]⟩]:List ByteArray)))(tb:Tab h):CR 60 #[.agg #[.iface 127 (.agg #[.slice x 2 y]),.map (some u),.bool false],bU ⟨5,z,q,s,A,2,c⟩] w h (fun v h1=>∃ (B:Z9)(c_:Nat),v=.tuple #[wo (e*j) B ((ov 2).map fun i=>l.getD i 0*j+e*p.getD i 0).length c_,iV 0]/\Sq B ((ov 2).map fun i=>l.getD i 0*j+e*p.getD i 0) h1):=by
 have a:=(((((((sS g).aS hK).add (K:=fun H=>TmH d H D t1) X).add (K:=fun H=>TmH d H C U) S).aS hF).add (K:=fun H=>MapS H u (l9 ([⟨#[120]⟩,⟨#[121]⟩]:List ByteArray))) hM).add (K:=fun H=>Tab H) tb);have hln:([D,C]:List PTm).length=2:=rfl;refine go Tryz.func60 [(0,.agg #[.iface 127 (.agg #[qS x 2 y]),.map (some u),qF]),(1,bU ⟨5,z,q,s,A,2,c⟩)] rfl (aD (lA 2 131 ([.iface 127 (.agg #[qS x 2 y]),.map (some u),qF]) a (fun b1 w2 h3 a=>lA 3 52 (dh ⟨5,z,q,s,A,2,c⟩) a (fun L w5 h6 a=>lA 4 80 ([qF,uV 0,eS,uV 0,eS,sZ]) a (fun b7 w8 h9 a=>lL a ac (aG (lA 6 80 ([qF,uV 0,eS,uV 0,eS,sZ]) a (fun za _ _ a=>ah (aa a [.v (pB L),.o (iV 5) 2 0 1] (aZ (aa a [.v qF,.c] (ag (aa a [.v qF,.c] (ag (cK (cQ ?_))))))))))))))));have F:=a;refine cR 10 [⟨9,7,.cells (MR [qF,uV 0,eS,uV 0,eS,sZ]) 80 (0,0)⟩] mixed a (bO (fD kR (fun _ _=>by kernel_rfl)) ar) (eO 0 31 [(3,0,3)] (.agg #[.iface 127 (.agg #[qS x 2 y]),.map (some u),qF]) a (eV 1 32 (qP L 8) (eO 2 33 [(2,8,1)] (qS A 2 c) a (eX 3 34 A 2 c 9 0 0 ((a.f.q.2.1).ok oM) (eH 4 35 (bU (([D,C]:List PTm).getD 0 cC)) a ((a.f.q.2.1).el 0 oM) (eC 5 36 a (fun _ _ a=>Z _ _ a.g a.f.q.1 a.f.r.1 a.f.2.1 a.f.1) ?_))))));rintro _ _ _ _ _ a ⟨M,I,rfl,hS1⟩;replace a:=a.aS hS1;refine eV 6 30 (.tuple #[qY e M l.length I,iV 0]) (eV 7 37 (qY e M l.length I) (eV 8 38 (iV 0) (iO [] F a 80 [qF,uV 0,eS,uV 0,eS,sZ] (fun _ _ zb a=>tP 10 0 0 (qZ e M l.length I) a (fun _ a=>tV 11 8 (iV 0) (tN (cQ (aa a [.c,.v qF] (ag (cK (cQ (aa a [.v (qP L 8),.o (qS A 2 c) 3 8 1,.v (iV 2),.v qF] (ag (cQ ?_))))))))))))));have F:=a;refine cR 10 [⟨9,9,.cells (MR [qF,uV 0,eS,uV 0,eS,sZ]) 80 (0,0)⟩] mixed a (bO (fD kR (fun _ _=>by kernel_rfl)) ar) (eO 0 55 [(4,0,3)] (.agg #[.iface 127 (.agg #[qS x 2 y]),.map (some u),qF]) a (eV 1 56 (qP L 8) (eO 2 57 [(3,8,1)] (qS A 2 c) a (eX 3 58 A 2 c 9 1 1 ((a.f.q.r.1).ok oM) (eH 4 59 (bU (([D,C]:List PTm).getD 1 cC)) a ((a.f.q.r.1).el 1 oM) (eC 5 60 a (fun _ _ a=>c2_ _ _ a.g a.f.q.1 a.f.r.2.1 a.f.r.1 a.f.2.1) ?_))))));rintro _ _ _ _ _ a ⟨Q,k2,rfl,Y⟩;replace a:=a.aS Y;refine eV 6 54 (.tuple #[qY j Q p.length k2,iV 0]) (eV 7 61 (qY j Q p.length k2) (eV 8 62 (iV 0) (iO [] F a 80 [qF,uV 0,eS,uV 0,eS,sZ] (fun _ _ zc a=>tP 10 0 0 (qZ j Q p.length k2) a (fun _ a=>tV 11 10 (iV 0) (tN (bH [(2,pB b1),(3,pB L),(4,pB b7),(5,iV 0),(6,pB za),(7,pB zb),(8,iV 0),(9,pB zc),(10,iV 0)] ?_)))))));refine cQ (aa a [.c,.v qF] (ag (cK (kQ (lL a [.o (.agg #[.iface 127 (.agg #[qS x 2 y]),.map (some u),qF]) 5 0 3,.o (bU ⟨5,z,q,s,A,2,c⟩) 4 0 9,.o (qY e M l.length I) 1 0 6,.o (qY j Q p.length k2) 0 0 6] (lC 72 a (IT x 2 y kD 1 1 kD kD kD u z q s A 2 c e l M I hl1 hq1 hg1 j p Q k2 V W hg2 _ _ a.g a.f.2.1 a.f.1 a.f.r.1) ?_))))));rintro _ _ _ a ⟨J,O,rfl,hSr⟩;replace a:=a.aS hSr;exact lL a [.c,.v (qY (e*j) J (((ov 2).map fun i=>l.getD i 0*j+e*p.getD i 0).length) O),.v (iV 0)] (lP 1 0 (qZ (e*j) J (((ov 2).map fun i=>l.getD i 0*j+e*p.getD i 0).length) O) a (fun _ a=>lL a ac (ah (aa a [.c,.v qF] (ag (cK (aa a [.o (qY (e*j) J (((ov 2).map fun i=>l.getD i 0*j+e*p.getD i 0).length) O) 1 0 6] (lP 3 0 (qZ (e*j) J (((ov 2).map fun i=>l.getD i 0*j+e*p.getD i 0).length) O) a (fun _ a=>lL a ac (ae a [(3,0,6)] (.tuple #[qY (e*j) J (((ov 2).map fun i=>l.getD i 0*j+e*p.getD i 0).length) O,iV 0]) (⟨_,_,rfl,a.f.1⟩)))))))))))
theorem G9 (y:Z9)(B:Nat)(o:Nat)(p:PTm)(w:World)(h:Hp)(g:G w h)(O:TmH 2 h p wq)(D:Sq y ([((2:Int):Rat),((3:Int):Rat)]:List Rat) h)(hM:MapS h o (l9 ([⟨#[120]⟩,⟨#[121]⟩]:List ByteArray)))(I:Tab h):Calls Tryz.prog 60 #[.agg #[.iface 127 (.agg #[.slice y 2 B]),.map (some o),.bool false],bU p] w (Ret w h (fun v h1=>∃ (f:Z9)(l:Nat),v=.tuple #[wo 6 f 2 l,iV 0]/\Sq f [3,2] h1)):=by
 have Q:∀ (p:PTm) (w:World) (h:Hp),G w h->TmH 1 h p (l8 ⟨#[120]⟩)->Sq y ([((2:Int):Rat),((3:Int):Rat)]:List Rat) h->MapS h o (l9 ([⟨#[120]⟩,⟨#[121]⟩]:List ByteArray))->Tab h->Calls Tryz.prog 60 #[.agg #[.iface 127 (.agg #[qS y 2 B]),.map (some o),qF],bU p] w (Ret w h (fun v h1=>∃ (f:Z9)(l:Nat),v=.tuple #[wo (((2:Int):Rat)) f ([1,0]:List Rat).length l,iV 0]/\Sq f ([1,0]:List Rat) h1)):=(fun p w h g x D hM I=>by
  obtain ⟨op,n,q,s,A,c,ps,ks,rfl,e,K,C,j⟩:=x.open;obtain ⟨rfl,rfl,rfl,rfl,rfl⟩:op=2/\n=0/\q=0/\s=⟨#[120]⟩/\ks=[]:=by injection e with a b c d e;exact ⟨a.symm,b.symm,c.symm,d.symm,e.symm⟩
  exact (AE (fun _=>True) (dZ ([⟨#[120]⟩,⟨#[121]⟩]:List ByteArray)) ([((2:Int):Rat),((3:Int):Rat)]:List Rat) y B kD o (l9 ([⟨#[120]⟩,⟨#[121]⟩]:List ByteArray)) 0 0 0 ⟨#[120]⟩ A c ps [] kD ⟨0,by kernel_rfl⟩ w h g C D hM).mono fun _ _ ⟨v,J,H,u,f,l,F,x⟩=>⟨v,J,H,u,f,l,F,x⟩)
 have S:∀ (p:PTm) (w:World) (h:Hp),G w h->TmH 1 h p (l8 ⟨#[121]⟩)->Sq y ([((2:Int):Rat),((3:Int):Rat)]:List Rat) h->MapS h o (l9 ([⟨#[120]⟩,⟨#[121]⟩]:List ByteArray))->Tab h->Calls Tryz.prog 60 #[.agg #[.iface 127 (.agg #[qS y 2 B]),.map (some o),qF],bU p] w (Ret w h (fun v h1=>∃ (f:Z9)(l:Nat),v=.tuple #[wo (((3:Int):Rat)) f ([0,1]:List Rat).length l,iV 0]/\Sq f ([0,1]:List Rat) h1)):=(fun p w h g x D hM I=>by
  obtain ⟨op,n,q,s,A,c,ps,ks,rfl,e,K,C,j⟩:=x.open;obtain ⟨rfl,rfl,rfl,rfl,rfl⟩:op=2/\n=0/\q=0/\s=⟨#[121]⟩/\ks=[]:=by injection e with a b c d e;exact ⟨a.symm,b.symm,c.symm,d.symm,e.symm⟩
  exact (AE (fun _=>True) (dZ ([⟨#[120]⟩,⟨#[121]⟩]:List ByteArray)) ([((2:Int):Rat),((3:Int):Rat)]:List Rat) y B kD o (l9 ([⟨#[120]⟩,⟨#[121]⟩]:List ByteArray)) 0 0 0 ⟨#[121]⟩ A c ps [] kD ⟨1,by kernel_rfl⟩ w h g C D hM).mono fun _ _ ⟨v,J,H,u,f,l,F,x⟩=>⟨v,J,H,u,f,l,F,x⟩)
 obtain ⟨op,n,q,s,A,c,ps,ks,rfl,e,K,C,j⟩:=O.open;obtain ⟨rfl,rfl,rfl,rfl,rfl⟩:op=5/\n=0/\q=0/\s=⟨#[]⟩/\ks=[l8 ⟨#[120]⟩,l8 ⟨#[121]⟩]:=by injection e with a b c d e;exact ⟨a.symm,b.symm,c.symm,d.symm,e.symm⟩
 obtain ⟨M,L,rfl⟩:=o8 (show ps.length=2 from j.len);have:=HS y B o 0 0 ⟨#[]⟩ A c M L _ _ 1 ((2:Int):Rat) [1,0] rfl (LQ.int kD kD) (Ai (LQ.int (z:=1) kD kD) (rL kD)) ((3:Int):Rat) [0,1] rfl (LQ.int kD kD) (Ai (rL kD) (LQ.int (z:=1) kD kD)) (Q M) (S L) w h g C (j.at_ 0 (Mx _)) (j.at_ 1 (by show 1<2;decide)) D hM I;have H:((2:Int):Rat)*((3:Int):Rat)=6:=by kernel_rfl
 have F:((ov 2).map fun i=>([1,0]:List Rat).getD i 0*((3:Int):Rat)+((2:Int):Rat)*([0,1]:List Rat).getD i 0)=[3,2]:=by kernel_rfl
 rw[H,F] at this
 exact this
theorem IB:SmT1 fT 2 wq:=(va kD kD:WfT1 (fun s=>dq s=true) 2 wq).sm (fun _ h=>oY h) (by unfold fT;decide)
theorem JA:DckR 2 wq ([⟨#[120]⟩,⟨#[121]⟩]:List ByteArray) (2=([⟨#[120]⟩,⟨#[121]⟩]:List ByteArray).length) 0:=IA (va kD kD) E0 rfl (by intro i hi;match i,hi with|0,_=>decide|1,_=>decide) (va kD kD) kD
theorem Jj (p:PTm)(x:Z9)(u:Nat)(e:Z9)(j:Nat)(w:World)(h:Hp)(g:G w h)(J:TmH 2 h p wq)(Q:SlO 1 bB ⟨#[]⟩ h x ([⟨#[120]⟩,⟨#[121]⟩]:List ByteArray))(M:Sq e ([((2:Int):Rat),((3:Int):Rat)]:List Rat) h)(L:Tab h):CR 28 #[bU p,.slice x 2 u,.slice e 2 j] w h (fun v h1=>∃ (H:Z9)(c_:Nat),v=.tuple #[wo 6 H 2 c_,iV 0]/\Sq H [3,2] h1):=by
 have a:=(((((sS g).add (K:=fun z=>TmH 2 z p wq) J).aS Q).aS M).add (K:=fun z=>Tab z) L);refine go Tryz.func28 [(0,bU p),(1,qS x 2 u),(2,qS e 2 j)] rfl (aD (lA 3 52 (dh p) a (fun U w2 V a=>lA 6 80 ([qF,uV 0,eS,uV 0,eS,sZ]) a (fun X Y S a=>lL a ac (ah (aa a [.o (bU p) 1 0 9,.c,.c] (lR 13 39 1 ([qS e 2 j]) a (fun I w8 W a=>?_))))))));replace a:=a.aS (SlO.of_flat (sz:=1) (f:=vc) (d:=undef) (b:=I) (o:=0) (l:=([qS e 2 j]:List Value)) (fun _=>rfl) a.f.1);refine lC 14 a (CS 2 p wq kD x u ([⟨#[120]⟩,⟨#[121]⟩]:List ByteArray) (.inl rfl) (sB I) 1 e 2 j kD _ _ a.g a.f.q.2.1 IB a.f.q.1 a.f.1) ?_;rintro _ _ _ a ⟨Z,rfl,B⟩;obtain rfl:=B.uniq JA;refine lL a ac (aG (lL a [.c,.v qF] (ag (cK (aa a [.c,.v (.agg #[qS e 2 j]),.v (.iface 127 (.agg #[qS e 2 j])),.c] (lC 23 a (na (ns:=([⟨#[120]⟩,⟨#[121]⟩]:List ByteArray)) (.inl rfl) (by intro i hi;match i,hi with|0,_=>decide|1,_=>decide) x u _ _ a.g a.f.q.1) ?_))))));rintro _ _ _ a ⟨y,rfl,hM⟩;replace a:=(a.add (K:=fun z=>MapS z y (l9 ([⟨#[120]⟩,⟨#[121]⟩]:List ByteArray))) hM);refine lL a [.v (.agg #[.iface 127 (.agg #[qS e 2 j]),.map (some y),qF])] (lA 9 131 ([.nilIface,.map none,qF]) a (fun O _ _ a=>lP 0 0 ([.iface 127 (.agg #[qS e 2 j]),.map (some y),qF]) a (fun _ a=>aG (lL a [.o (.agg #[.iface 127 (.agg #[qS e 2 j]),.map (some y),qF]) 0 0 3,.o (bU p) 2 0 9] (lC 27 a (G9 e j y p _ _ a.g a.f.q.r.1 a.f.q.1 a.f.1 a.f.r.2.1) ?_)))));rintro _ _ _ a ⟨C,D,rfl,F⟩;replace a:=a.aS F;exact lL a [.v (qY (6:Rat) C 2 D),.v (iV 0)] (lP 1 0 (qZ (6:Rat) C 2 D) a (fun _ a=>lL a ac (ae a [(1,0,6)] (.tuple #[qY (6:Rat) C 2 D,iV 0]) (⟨_,_,rfl,a.f.1⟩))))
theorem DN:f5 IM ⟨#[120,32,42,32,121]⟩ 40 .sum 0=some (.ok wq 5):=by kernel_rfl
theorem DP:f5 IM ⟨#[49,32,47,32,40,49,32,45,32,120,41]⟩ 40 .sum 0=some (.ok Cq 11):=by kernel_rfl
theorem BB  (w:World)(h:Hp)(g:G w h)(tb:Tab h):CV 13 #[] w h (.bool true):=by
 have a:=((sS g).add (K:=fun i=>Tab i) tb);have Q:([3,2]:List Rat).length=2:=rfl;have U:([1,1,1,1]:List Rat).length=4:=rfl;refine go Tryz.func13 [] rfl (aa a ac (aG (lC 10 a (AF ⟨#[120,32,42,32,121]⟩ kD 40 wq 5 DN kD 2 kD (va kD kD).wf E0 _ _ a.g a.f.1) ?_)));rintro _ w1 h2 a ⟨z,rfl,L⟩;replace a:=(a.add (K:=fun i=>TmH 2 i z wq) L);refine lL a [.c,.v (bU z),.v (.agg #[iV 0,iV 0,iV 0])] (lA 1 52 a7 a (fun b3 w4 h5 a=>lA 2 76 ([iV 0,iV 0,iV 0]) a (fun b6 w7 h8 a=>lP 1 0 (dh z) a (fun w9 a=>lP 0 0 ([iV 0,iV 0,iV 0]) a (fun _ a=>ah ?_)))));have J:=a;refine cR 10 [⟨9,3,.cells (MR [qF,uV 0,eS,uV 0,eS,sZ]) 80 (0,0)⟩] mixed a (bO (fD kR (fun _ _=>by kernel_rfl)) ar) (eO 0 14 [(1,0,9)] (bU z) a (Rg.dag _ [(1,15,[]),(2,16,[]),(3,17,[]),(4,18,[16,17])] rfl (DagOk.cons (DOk.row 1 15 9 2 ([.string (⟨#[120]⟩),.string (⟨#[121]⟩)]) []) (DagOk.cons (DOk.call 2 16 (qv ((2:Int):Rat)) [] (fun _ _ y=>BG (2) kD kD _ _ y)) (DagOk.cons (DOk.call 3 17 (qv ((3:Int):Rat)) [] (fun _ _ y=>BG (3) kD kD _ _ y)) (DagOk.cons (DOk.row 4 18 49 2 ([.bool (af ((2:Int):Rat).num),uV (lo (ab ((2:Int):Rat).num)),.string (hi (ab ((2:Int):Rat).num)),uV (lo (qd ((2:Int):Rat))),.string (hi (qd ((2:Int):Rat))),.bool (af ((3:Int):Rat).num),uV (lo (ab ((3:Int):Rat).num)),.string (hi (ab ((3:Int):Rat).num)),uV (lo (qd ((3:Int):Rat))),.string (hi (qd ((3:Int):Rat)))]) [(16,qv ((2:Int):Rat)),(17,qv ((3:Int):Rat))]) DagOk.nil)))) (by intro s a;rcases gs.1 a with rfl|a;(intro x e;exact absurd e (by simp));rcases gs.1 a with rfl|a;(intro x e;exact absurd e (by simp));rcases gs.1 a with rfl|a;(intro x e;exact absurd e (by simp));rcases gs.1 a with rfl|a;(intro x e;rcases gs.1 e with rfl|e;exact ⟨_,.tail _ (.head _),rfl,fun _ _ i=>i⟩;rcases gs.1 e with rfl|e;exact ⟨_,.tail _ (.tail _ (.head _)),rfl,fun _ _ i=>i⟩;exact absurd e (by simp));exact absurd a (by simp)) (fun _ _ _ H u=>?_)));obtain ⟨_,_,rfl,⟨W,rfl,zg⟩,_,_,rfl,rfl,_,_,rfl,rfl,_,_,rfl,⟨V,rfl,zi⟩,rfl⟩:=u;replace a:=a.step H;replace a:=a.a_Seg zg;replace a:=a.a_Seg zi;replace a:=a.aS (SlO.of_flat (sz:=1) (f:=bB) (d:=⟨#[]⟩) (b:=W) (o:=0) (l:=([⟨#[120]⟩,⟨#[121]⟩]:List ByteArray)) (fun _=>rfl) a.f.2.1);replace a:=a.aS (SlO.of_flat (sz:=5) (f:=qc) (d:=0) (b:=V) (o:=0) (l:=([((2:Int):Rat),((3:Int):Rat)]:List Rat)) (fun _=>rfl) a.f.2.1);refine eC 5 19 a (fun _ _ a=>Jj z (sB W) 2 (sB V) 2 _ _ a.g a.f.q.1 a.f.2.1 a.f.1 a.f.q.2.1) ?_;rintro _ _ _ _ _ a ⟨p,cg,rfl,M⟩;replace a:=a.aS M;refine eV 6 13 (.tuple #[qY (6:Rat) p 2 cg,iV 0]) (eV 7 20 (qY (6:Rat) p 2 cg) (eV 8 21 (iV 0) (iO [] J a 80 [qF,uV 0,eS,uV 0,eS,sZ] (fun _ _ D a=>tP 10 0 0 (qZ (6:Rat) p 2 cg) a (fun _ a=>tV 11 4 (iV 0) (rW (lC 23 a (AF ⟨#[49,32,47,32,40,49,32,45,32,120,41]⟩ kD 40 Cq 11 DP kD 3 kD (u5 kD).wf Fv _ _ a.g a.f.q.r.1) ?_)))))));rintro _ _ _ a ⟨B,rfl,F⟩;replace a:=(a.add (K:=fun i=>TmH 3 i B Cq) F);refine lL a [.c,.v (bU B),.v (.agg #[iV 0,iV 0,iV 0])] (lA 5 52 a7 a (fun Z _ _ a=>lA 6 76 ([iV 0,iV 0,iV 0]) a (fun b31 _ _ a=>lP 1 0 (dh B) a (fun _ a=>lP 0 0 ([iV 0,iV 0,iV 0]) a (fun _ a=>ah (cR 10 [] mixed a ar ?_))))));refine eO 0 27 [(1,0,9)] (bU B) a (Rg.dag _ [(1,28,[]),(2,29,[]),(3,30,[29]),(4,31,[]),(5,32,[31])] rfl (DagOk.cons (DOk.row 1 28 9 1 ([.string (⟨#[120]⟩)]) []) (DagOk.cons (DOk.call 2 29 (qv ((0:Int):Rat)) [] (fun _ _ y=>BG (0) kD kD _ _ y)) (DagOk.cons (DOk.row 3 30 49 1 (qC ((0:Int):Rat)) [(29,qv ((0:Int):Rat))]) (DagOk.cons (DOk.call 4 31 (qv ((1:Int):Rat)) [] (fun _ _ y=>BG (1) kD kD _ _ y)) (DagOk.cons (DOk.row 5 32 49 1 (qC ((1:Int):Rat)) [(31,qv ((1:Int):Rat))]) DagOk.nil))))) (by intro s a;rcases gs.1 a with rfl|a;(intro x e;exact absurd e (by simp));rcases gs.1 a with rfl|a;(intro x e;exact absurd e (by simp));rcases gs.1 a with rfl|a;(intro x e;rcases gs.1 e with rfl|e;exact ⟨_,.tail _ (.head _),rfl,fun _ _ i=>i⟩;exact absurd e (by simp));rcases gs.1 a with rfl|a;(intro x e;exact absurd e (by simp));rcases gs.1 a with rfl|a;(intro x e;rcases gs.1 e with rfl|e;exact ⟨_,.tail _ (.tail _ (.tail _ (.head _))),rfl,fun _ _ i=>i⟩;exact absurd e (by simp));exact absurd a (by simp)) (fun _ _ _ I u=>?_));obtain ⟨_,_,rfl,⟨Y,rfl,zj⟩,_,_,rfl,rfl,_,_,rfl,⟨X,rfl,zk⟩,_,_,rfl,rfl,_,_,rfl,⟨S,rfl,zl⟩,rfl⟩:=u;replace a:=a.step I;replace a:=a.a_Seg zj;replace a:=a.a_Seg zk;replace a:=a.a_Seg zl;replace a:=a.aS (SlO.of_flat (sz:=1) (f:=bB) (d:=⟨#[]⟩) (b:=Y) (o:=0) (l:=([⟨#[120]⟩]:List ByteArray)) (fun _=>rfl) a.f.r.1);replace a:=a.aS (SlO.of_flat (sz:=5) (f:=qc) (d:=0) (b:=X) (o:=0) (l:=([((0:Int):Rat)]:List Rat)) (fun _=>rfl) a.f.r.1);replace a:=a.aS (SlO.of_flat (sz:=5) (f:=qc) (d:=0) (b:=S) (o:=0) (l:=([((1:Int):Rat)]:List Rat)) (fun _=>rfl) a.f.r.1);refine eC 6 33 a (fun _ _ a=>sw B (sB Y) 1 (sB X) 1 (sB S) 1 _ _ a.g a.f.q.r.1 a.f.r.1 a.f.2.1 a.f.1 a.f.q.q.q.2.1) ?_;rintro _ _ _ _ _ a ⟨C,cs,rfl,O⟩;replace a:=a.aS O;refine eV 7 26 (.tuple #[qS C 4 cs,iV 0]) (eV 8 34 (qS C 4 cs) (eV 9 35 (iV 0) (bS a (fun _ _ a=>tV 10 7 (qS C 4 cs) (tV 11 8 (iV 0) (rW (lL a [.c,.v qT,.c,.v (pB D),.o (qv (6:Rat)) 2 0 5] (aq 41 a ((by have j:=nF (6:Rat) (6) 1 (LQ.mono (H6 kR) kD) kD kD kD kD kD _ _ a.g;rw[show gK (6:Rat) (mkR (6) 1)=true by kernel_rfl] at j;exact j)) (fun _ _ a=>lL a [.v qT,.c,.v (qP D 5),.o (qS p 2 cg) 2 5 1,.v (iV 2),.v qT,.v qT,.c,.v (qP D 5),.o (qS p 2 cg) 2 5 1] (lX 52 p 2 cg 5 0 0 ((a.f.q.q.1).ok oM) ?_))))))))));refine lH 53 (qv (3:Rat)) a ((a.f.q.q.1).el 0 kD) (aq 54 a ((by have j:=nF (3:Rat) (3) 1 (LQ.mono (H6 kR) kD) kD kD kD kD kD _ _ a.g;rw[show gK (3:Rat) (mkR (3) 1)=true by kernel_rfl] at j;exact j)) (fun _ _ a=>lL a [.v qT,.c,.v (qP D 5),.o (qS p 2 cg) 2 5 1] (lX 59 p 2 cg 5 1 1 ((a.f.q.q.1).ok oM) ?_)));refine lH 60 (qv (2:Rat)) a ((a.f.q.q.1).el 1 kD) (aq 61 a ((by have j:=nF (2:Rat) (2) 1 (LQ.mono (H6 kR) kD) kD kD kD kD kD _ _ a.g;rw[show gK (2:Rat) (mkR (2) 1)=true by kernel_rfl] at j;exact j)) (fun _ _ a=>lL a [.v qT,.c,.c,.v qT,.v qT,.c,.c,.v (iV 4),.v qT,.v qT,.c,.c] (lX 74 C 4 cs 5 3 3 ((a.f.1).ok oM) ?_)));refine lH 75 (qv (1:Rat)) a ((a.f.1).el 3 kD) (aq 76 a ((by have j:=nF (1:Rat) (1) 1 (LQ.mono (H6 kR) kD) kD kD kD kD kD _ _ a.g;rw[show gK (1:Rat) (mkR (1) 1)=true by kernel_rfl] at j;exact j)) (fun _ _ a=>lL a [.v qT,.c] (lN (bH [(0,qT)] ?_))));exact kX (a.ret [] qT rfl)
def SerZ (d:Nat)(t:Tm)(ns:List ByteArray)(fs ws:List Rat)(z:Int)(e:Int)(L_:List Rat):Prop :=
  ((z<0\/12<z)/\e=1/\L_=[])\/∃ n:Nat,z=n/\n<=12/\DserR d t ns fs ws n e L_
section
variable {d:Nat}{t:Tm}{ns:List ByteArray}{fs ws:List Rat}
theorem DserR.uniq {n:Nat}{e h:Int}{i f:List Rat}(x:DserR d t ns fs ws n e i)(y:DserR d t ns fs ws n h f):e=h/\i=f:=by
 obtain ⟨c,c1,c2⟩:=x;obtain ⟨c',l,j⟩:=y;obtain rfl:=c1.uniq l
 rcases c2 with ⟨h0,a1,a2⟩|⟨h0,a⟩<;>rcases j with ⟨h1,b1,b2⟩|⟨h1,b⟩
 ·exact ⟨a1.trans b1.symm,a2.trans b2.symm⟩
 ·exact absurd h1 h0
 ·exact absurd h0 h1
 ·have:=a.trans b.symm
  injection this with k1 k2
  exact ⟨k1,k2⟩
theorem SerZ.uniq {z e a:Int}{c f:List Rat}(x:SerZ d t ns fs ws z e c)(y:SerZ d t ns fs ws z a f):e=a/\c=f:=by
 rcases x with ⟨h,a1,a2⟩|⟨n,rfl,hn,x⟩<;>rcases y with ⟨h',b1,b2⟩|⟨m,e2,hm,y⟩
 ·exact ⟨a1.trans b1.symm,a2.trans b2.symm⟩
 ·exfalso;omega
 ·exfalso;omega
 ·obtain rfl:n=m:=by omega
  exact x.uniq y
theorem SerZ.lq {z e:Int}{f:List Rat}(x:SerZ d t ns fs ws z e f)(o:∀ i,LQ 1 (fs.getD i 0))(j:∀ i,LQ 1 (ws.getD i 0))(p:d<=7):(∀ i,LQ 15000000 (f.getD i 0))/\f.length<=13:=by
 have hn:∀ {l:List Rat},l=[]->(∀ i,LQ 15000000 (l.getD i 0))/\l.length<=13:=fun e=>by
  subst e;exact ⟨fun i=>by rw[AT];exact rL kD,by decide⟩
 rcases x with ⟨_,_,a2⟩|⟨n,rfl,hn2,c,c1,⟨_,_,a2⟩|⟨h0,a⟩⟩
 ·exact hn a2
 ·exact hn a2
 ·have k:=c1.ok h0
  have w:=BJ k;have h:f=(bu (dZ ns) fs ws (n+1) d t).2:=congrArg (·.2) a
  by_cases e0:(bu (dZ ns) fs ws (n+1) d t).1=0
  ·have y:f.length=n+1:=by rw[h];exact fl w e0
   obtain ⟨_,s⟩:=n4 (ix:=dZ ns) (m:=n+1) (Mx n) o j w;rw[<-h] at s
   have u:2^d*bI d t<=128*1000:=Nat.mul_le_mul (Lw (n:=2) kD p) k.1.2;exact ⟨fun i=>(s.lq oM i).mono oM,by omega⟩
  ·exact hn (h.trans (CE e0))
end
theorem vG (d:Nat)(p:PTm)(t:Tm)(X:d<=7)(f:Z9)(a:Nat)(ns:List ByteArray)(K:NsD ns)(fs ws:List Rat)(l:Z9)(J:Nat)(o:Z9)(F:Nat)(Q:fs.length<=1000)(y:ws.length<=1000)(O:∀ i,LQ 1 (fs.getD i 0))(B:∀ i,LQ 1 (ws.getD i 0))(z:Int)(w:World)(h:Hp)(g:G w h)(L:TmH d h p t)(U:SmT1 fT d t)(Y:SlO 1 bB ⟨#[]⟩ h f ns)(S:Sq l fs h)(W:Sq o ws h)(M:Tab h):CR 9 #[bU p,.slice f ns.length a,.slice l fs.length J,.slice o ws.length F,iV z] w h (fun v h1=>∃ (e:Int)(j:Z9)(C:Nat)(c:List Rat),v=.tuple #[.slice j c.length C,iV e]/\Sq j c h1/\SerZ d t ns fs ws z e c):=by
 by_cases hz:z<0\/12<z
 ·exact (vF p f a ns fs ws l J o F z hz w h g).mono fun _ _ ⟨v,D,I,u,H⟩=>⟨v,D,I,u,1,none,0,[],H,SlO.nil,.inl ⟨hz,rfl,rfl⟩⟩
 ·obtain ⟨n,rfl⟩:∃ n:Nat,z=n:=⟨z.toNat,by omega⟩
  exact (nN d p t X f a ns K fs ws l J o F n oM Q y O B w h g L U Y S W M).mono fun _ _ ⟨v,D,I,u,H,j,C,c,V,s,x⟩=>⟨v,D,I,u,H,j,C,c,V,s,.inr ⟨n,rfl,by omega,x⟩⟩
theorem AV (d:Nat)(p:RTm)(t:Tm)(hd:d<=7)(C:Z9)(a:Nat)(ns:List ByteArray)(B:NsD ns)(x:ns.length<=a)(fs:List Rat)(J:Z9)(L:Nat)(o:List RT)(ws:List Rat)(I:Z9)(Q:Nat)(y:List RT)(W:fs.length<=1000)(f:ws.length<=1000)(U:∀ i,LQ 1 (fs.getD i 0))(l:∀ i,LQ 1 (ws.getD i 0))(z:Int)(w:World)(h:Hp)(g:G w h)(S:RmH d h p t)(Y:SmT1 fT d t)(V:SlO 1 bB ⟨#[]⟩ h C ns)(X:Sr J o h)(j:RTs h o fs)(Z:Sr I y h)(c:RTs h y ws):CR 12 #[bJ p,.slice C ns.length a,.slice J o.length L,.slice I y.length Q,iV z] w h (fun v h1=>∃ (e:Int)(F:Z9)(D:Nat)(tx:List RT)(H:List Rat),v=.tuple #[.slice F tx.length D,iV e]/\tx.length<=D/\Sr F tx h1/\RTs h1 tx H/\SerZ d t ns fs ws z e H):=by
 by_cases hz:z<0\/12<z
 ·exact (Cc d p t hd C a ns B x fs J L o ws I Q y W f U l z hz w h g S Y V X j Z c).mono fun _ _ ⟨v,K,O,u,_,_,_,M⟩=>⟨v,K,O,u,1,none,0,[],[],M,nR _,SlO.nil,RTs.nil,.inl ⟨hz,rfl,rfl⟩⟩
 ·obtain ⟨n,rfl⟩:∃ n:Nat,z=n:=⟨z.toNat,by omega⟩
  exact (Bh d p t hd C a ns B x fs J L o ws I Q y W f U l n oM w h g S Y V X j Z c).mono fun _ _ ⟨v,K,O,u,M,F,D,tx,H,e3,x1,x2,x3,x4⟩=>⟨v,K,O,u,M,F,D,tx,H,e3,x1,x2,x3,.inr ⟨n,rfl,by omega,x4⟩⟩
theorem qB (V:Z9)(c0:Nat)(L:List Int)(U:Z9)(c1:Nat)(I:List Int)(Q:Z9)(c2:Nat)(H:List Int)(way at_ D B e no:Int)(hl0:L.length<=9223372036854775807)(hz0:nu L)(hl1:I.length<=9223372036854775807)(hz1:nu I)(hl2:H.length<=9223372036854775807)(hz2:nu H)(w:World)(h:Hp)(g:G w h)(hA0:Si V L h)(hA1:Si U I h)(Z:Si Q H h)(tb:Tab h):CV 3 #[.slice V L.length c0,.slice U I.length c1,.slice Q H.length c2,iV way,iV at_,iV D,iV B,iV e,iV no] w h (.bool true):=by
 have d:=(((((sS g).aS hA0).aS hA1).aS Z).add (K:=fun z=>Tab z) tb);refine go Tryz.func3 [(0,qS V L.length c0),(1,qS U I.length c1),(2,qS Q H.length c2),(3,iV way),(4,iV at_),(5,iV D),(6,iV B),(7,iV e),(8,iV no)] rfl (aa d ac (aG (lL d ac (lC 28 d (Hf V c0 L hl0 hz0 3 kD _ _ d.g d.f.r.2.1) ?_))));rintro _ w1 h2 d ⟨r0,t0,rfl,hR,hG0⟩;replace d:=(d.add (K:=fun z=>RmH 4 z r0 t0) hR);refine lL d cJ (lC 32 d (pQ 4 r0 t0 way at_ D _ _ d.g d.f.1 hG0.1) ?_);rintro _ w3 h4 d ⟨J,M,rfl,hrk⟩;replace d:=(d.add (K:=fun z=>SpO 4 z J M) hrk);refine lA 19 31 (bE ⟨0,0,false,none,0,0,none,0,0,⟨#[]⟩,none,0,0⟩) d (fun b5 w6 h7 d=>lP 0 0 (bE J) d (fun w8 d=>aG (lL d ac (lC 34 d (Bi B _ _ d.g) ?_))));rintro _ w9 _ d ⟨NA,cN,ns,rfl,hcN,F,hN⟩;replace d:=d.aS hN;have bd:=F.len;refine lL d ac (aG (lL d [.c,.c,.v (nV ns.length),.c] (lC 39 d (q9 U c1 I ns.length e oM hl1 hz1 _ _ d.g d.f.q.2.1) ?_)));rintro _ _ _ d ⟨Ap,cp,tp,fs,rfl,hcp,hAp,hTp,j,hfl⟩;replace d:=((d.aS hAp).aT hTp);refine lL d [.c,.c,.v (nV ns.length),.c] (lV 44 (iV (IntKind.wrap .i64 (e.tdiv 11))) ?_ (hr:=dD (t:=3) (u:=3) (x:=.tmp 43) (y:=.const (iV 11)) (k:=.i64) (a:=e) (b:=(11:Int)) kR kR kR oM _));refine lC 45 d (q9 Q c2 H ns.length (IntKind.wrap .i64 (e.tdiv 11)) oM hl2 hz2 _ _ d.g d.f.q.r.1) ?_;rintro _ _ _ d ⟨Au,cu,tu,ws,rfl,hcu,hAu,hTu,l,hwl⟩;replace d:=((d.aS hAu).aT hTu);refine lL d ax (aG (lL d ac (aq 47 d (eA (no) 15 oM oM _ _ d.g) (fun _ _ d=>?_))));have bf:=ct (no) 15 oM;refine lI 48 ((aN (no) 15:Nat)-1) (lL d ac (aG (lL d [.o (bJ J) 0 0 7] (lC 51 d (un fT 7 J M _ _ d.g (d.f.q.2.1).1 (SmT1.sm (d.f.q.2.1).2) d.f.q.r.2.1) ?_))));rintro _ _ _ d ⟨pk,rfl,hpk⟩;replace d:=(d.add (K:=fun z=>TmH 7 z pk M) hpk);refine lL d ax (lC 54 d (Cl Ap cp tp fs oM (fun i _=>(j i).mono oM) _ _ d.g d.f.q.1 d.f.r.2.1 d.f.q.q.1) ?_);rintro _ _ _ d ⟨Ax,cx,rfl,hcx,hAx⟩;replace d:=d.aS hAx;refine lL d ac (lC 56 d (Cl Au cu tu ws oM (fun i _=>(l i).mono oM) _ _ d.g d.f.r.2.1 d.f.r.1 d.f.q.q.2.1) ?_);rintro _ _ _ d ⟨Ay,cy,rfl,hcy,hAy⟩;replace d:=d.aS hAy;refine lL d ac (lC 58 d (vG 7 pk M kD NA cN ns F fs ws Ax cx Ay cy oM oM j l ((aN (no) 15:Nat)-1) _ _ d.g d.f.r.1 (d.f.q.q.1).2 d.f.q.r.2.1 d.f.2.1 d.f.1 d.f.q.q.r.1) ?_);rintro _ _ _ d ⟨e1,Y,cs,S,rfl,hSs,O⟩;replace d:=d.aS hSs;obtain ⟨p,bk⟩:=O.lq j l kD;refine lL d [.c,.v (qS Y S.length cs),.v (iV e1),.c,.c] (lN (bH [(8,iV ((aN (no) 15:Nat)-1)),(18,qF),(19,pB b5),(20,qS NA ns.length cN),(21,qS Ap tp.length cp),(22,qS Au tu.length cu),(23,qS Y S.length cs),(24,iV e1)] ?_));refine aa d [.o (bJ J) 0 0 7,.c,.c,.c,.c] (lC 67 d (AV 7 J M kD NA cN ns F hcN fs Ap cp tp ws Au cu tu oM oM j l ((aN (no) 15:Nat)-1) _ _ d.g (d.f.q.q.2.1).1 (d.f.q.q.2.1).2 d.f.q.q.1 d.f.q.r.2.1 d.f.q.r.1 d.f.q.2.1 d.f.q.1) ?_);rintro _ _ _ d ⟨e2,Ae,ce,te,L2,rfl,hce,hAe,hTe,hD2⟩;replace d:=((d.aS hAe).aT hTe);obtain ⟨W,C⟩:=O.uniq hD2;refine lL d [.c,.v (qS Ae te.length ce),.v (iV e2),.c,.c] (aG (aq 70 d (BB _ _ d.g d.f.q.q.q.2.1) (fun _ _ d=>lL d cJ ?_)));have za:((e1:Int) == (e2:Int))=true:=pE W;have bb:=eq_of_beq za;refine lB 74 za (lL d [.v qT,.c,.c,.c] (aq 79 d (Bv Y cs S L2 Ae ce te oM (by rw[<-C];omega) (fun i _=>(p i).mono oM) (fun i _=>by rw[<-C];exact (p i).mono oM) _ _ d.g d.f.r.1 d.f.2.1 d.f.1) (fun _ _ d=>?_)));have zb:(decide (S=L2))=true:=decide_eq_true C;rw[zb];have X:=oT zb;exact lL d [.v qT,.c] (ae d [] qT rfl)
end Go.Proofs.YtlidpooijdogdaaGreatDoor
