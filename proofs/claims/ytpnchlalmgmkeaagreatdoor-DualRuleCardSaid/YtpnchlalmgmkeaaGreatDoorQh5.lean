/- Laws of this claim, part 6. -/
import Derived.Test.YtpnchlalmgmkeaaGreatDoorQh0
import Derived.Test.YtpnchlalmgmkeaaGreatDoorQh1
import Derived.Test.YtpnchlalmgmkeaaGreatDoorQh2
import Derived.Test.YtpnchlalmgmkeaaGreatDoorQh3
import Derived.Test.YtpnchlalmgmkeaaGreatDoorQh4
set_option maxRecDepth 100000
set_option maxHeartbeats 4000000
namespace Go.Proofs.YtpnchlalmgmkeaaGreatDoor
open Bool renaming and_eq_true -> g7, noConfusion -> KN
open List renaming all_eq_true -> hH, any_eq_true -> na, cons_append -> yU, eq_nil_of_length_eq_zero -> yj, length_cons -> ul, length_eq_one_iff -> Lk, length_nil -> KR, length_replicate -> KX, length_set -> Gx, lookup_cons -> g5, mem_cons -> g1, mem_cons_of_mem -> JR, mem_cons_self -> JQ, mem_filter -> Lm, mem_map -> gs, mem_singleton -> ov, range -> hO, replicate -> yp, toArray -> J8
open Nat renaming le_mul_of_pos_left -> J5, le_succ -> La, le_trans -> eu, lt_succ_iff_lt_or_eq -> K7, mul_le_mul_left -> y9, not_lt_zero -> KO, one_mul -> Ab, strongRecOn -> g3, succ_ne_zero -> KS, succ_pos -> JO, zero_le -> JL
open Option renaming isNone_iff_eq_none -> Ll
open Go.RowKit
open Go.RowKit Go.Shelf
open Go.RowKit Go.WideMaps
theorem vy (ok:ByteArray->Prop)(o:Z9)(cL:Nat)(L:List PLt)(j:L.length<=1000)(l:Nat)(b:3002<=l)(f:l<=7000)(a:∀ i,LQ (l-2) (L.getD i cv).q):∀ (d:Nat) (p:PTm) (t:Tm) (w:World) (h:Hp),G w h->TmH d h p t->WfT ok d t->ba d t<=1000->SlO 6 qh cv h o L->Tab h->Calls Tryz.prog 28 #[ar p,.slice o L.length cL] w (Ret w h (fun v _=>v=.tuple #[qv (bc L d t).2,iV (bc L d t).1]))
  | 0,_,_,_,_,_,x,_,_,_,_=>x.elim
  | d + 1,p,t,w,h,g,x,wf,hw,hL,tb=>by
    obtain ⟨op,n,q,s,A,c,ps,ks,rfl,rfl,U,B,e⟩:=x.open;obtain ⟨w1,w2,w3,w4,S,Q,F,C,u⟩:=wf;replace w1:dU op=(ks.length:Nat):=w1;replace u:∀ i,i<ks.length->WfT ok d (ks.getD i ct):=u;have K:=az op;have H:=fun p t w h=>vy ok o cL L j l b f a d p t w h
    by_cases o2:op=2
    . subst o2;exact Cs o cL L d j l b f a n q s A c ps ks w h g B hL
    . rcases dY w1 with rfl|⟨t1,rfl⟩|⟨t1,t2,rfl⟩
      . have O:ps=[]:=yj e.len
        subst O
        simp only[KR] at w1
        exact Bn ok d o cL L j l b f a H op n q s A c oM ⟨F,C⟩ w3 w h g B hL tb
      . obtain ⟨D,rfl⟩:=Lk.1 (show ps.length=1 from e.len)
        simp only[ul,KR] at w1
        have z:WfT ok d t1:=u 0 (JO _);have y:ba d t1<=1000:=p7 hw;exact AM ok d o cL L j l b f a H op n q s A c D t1 z y (qI b a z y) oM ⟨F,C⟩ w3 w h g B (e.at_ 0 (JO _)) hL tb
      . obtain ⟨D,M,rfl⟩:=kj (show ps.length=2 from e.len)
        simp only[ul,KR] at w1
        have z:WfT ok d t1:=u 0 (JO _);have I:WfT ok d t2:=u 1 (by show 1<2;decide);obtain ⟨y,J⟩:=qm hw;exact Cp ok d o cL L j l b f a H op n q s A c D t1 z y (qI b a z y) M t2 I J (qI b a I J) oM ⟨F,C⟩ w3 w h g B (e.at_ 0 (JO _)) (e.at_ 1 (by show 1<2;decide)) hL tb
theorem tw (isb:ByteArray->Bool)(sm:ByteArray->Prop)(qN:∀ s,sm s->∀ (w:World) (h:Hp),G w h->Calls Tryz.prog 48 #[.string s] w (Ret w h (fun v _=>∃ b,v=.bool b/\b=isb s)))(y:Z9)(cL:Nat)(L:List PLt)(F:L.length<=1000)(z:Nat)(H:3002<=z)(D:z<=7000)(C:∀ i,LQ (z-2) (L.getD i cv).q)(d:Nat)(p:PTm)(t:Tm)(S:d<=24)(w:World)(h:Hp)(g:G w h)(J:TmH d h p t)(O:rB sm d t)(Q:SlO 6 qh cv h y L)(M:Tab h):CR 12 #[ar p,.slice y L.length cL] w h (fun v _=>∃ (e:Int)(x:Rat),v=.tuple #[qv x,iV e]/\EvR (fun s=>isb s=true) L d t e x):=by
 have a:=((((sS g).add (K:=fun B=>TmH d B p t) J).aS Q).add (K:=fun B=>Tab B) M);refine go Tryz.func12 [(0,ar p),(1,qS y L.length cL)] rfl (aD (lA 2 32 (aI p) a (fun V w2 Y a=>lA 4 29 a1 a (fun X W h6 a=>lL a ac (af (aa a [.o (ar p) 1 0 9] (lC 7 a (oC isb sm qN d p t S _ _ a.g a.f.r.1 O) ?_)))))));rintro _ Z U a ⟨I,rfl,j⟩;cases l:((I:Int) != (0:Int))
 .
  have u:=aY l;exact lB 8 l (ah (cK (aa a [.o (ar p) 1 0 9,.c] (am 12 a (vy (fun s=>isb s=true) y cL L F z H D C d p t _ _ a.g a.f.r.1 (jN j oM).1 (jN j oM).2 a.f.2.1 a.f.1) (fun _ _ a=>lL a [.v (qv ((bc L d t).2)),.v (iV ((bc L d t).1))] (lP 0 0 (qc ((bc L d t).2)) a (fun _ a=>lL a ac (ae a [(0,0,5)] (.tuple #[qv ((bc L d t).2),iV ((bc L d t).1)]) (⟨_,_,rfl,.inl ⟨(jN j oM).1,(jN j oM).2,rfl,rfl⟩⟩)))))))))
 have u:=a6 l;exact lB 8 l (au (aa a [.v ca] (lP 0 0 a1 a (fun _ a=>lL a ac (ae a [(0,0,5)] (.tuple #[.agg #[qF,uV 0,eS,uV 0,eS],iV 1]) (⟨_,_,rfl,.inr ⟨D6 j oM,rfl,rfl⟩⟩))))))
theorem B1  (ok:ByteArray->Prop)(d:Nat)(ih:∀ (p:PTm) (t:Tm) (w:World) (h:Hp),G w h->TmH d h p t->WfT ok d t ->  Calls Tryz.prog 34 #[ar p] w (Ret w h (fun v h1=>∃ y,v=ar y/\TmH d h1 y t)))(op n:Int)(q:Rat)(s:ByteArray)(A:Z9)(c:Nat)(ps:List PTm)(ks:List Tm)(hc:ps.length<=c)(X:ps.length<=2)(M:dU op=(ks.length:Nat))(hq0:op≠1->q=0)(hq:LQ 3000 q)(hok:op=2->ok s)(hs0:op≠2->s=⟨#[]⟩)(V:op≠8->n=0)(Y : -12<=n)(hn2:n<=12)(hW:∀ i,i<ks.length->WfT ok d (ks.getD i ct))(w:World)(h:Hp)(g:G w h)(hK:SlO 9 aI aE h A ps)(J:Tms d h ps ks):CR 34 #[ar ⟨op,n,q,s,A,ps.length,c⟩] w h (fun v h1=>∃ y,v=ar y/\TmH (d+1) h1 y (.mk op n q s ks)):=by
 have a:=(((sS g).aS hK).add (K:=fun e=>Tms d e ps ks) J);have hln:=(a.f.1).len;refine go Tryz.func34 [(0,ar ⟨op,n,q,s,A,ps.length,c⟩)] rfl (aD (lA 1 32 (aI ⟨op,n,q,s,A,ps.length,c⟩) a (fun u w2 h3 a=>lA 2 32 a2 a (fun F w5 h6 a=>af (aa a [.v (qP u 8),.o (qS A ps.length c) 1 8 1,.v (nV ps.length)] ?_)))));cases j:((ps.length:Int) == (0:Int))
 .
  have B:=ag j;refine lB 9 j (ah (cK (aa a [.v (qP u 8),.o (qS A ps.length c) 1 8 1,.v (nV ps.length)] (lK 15 32 ps.length 9 112 (.agg #[iV 0,iV 0,qF,uV 0,eS,uV 0,eS,eS,sZ]) aI aE a (fun b8 w9 zd a=>?_)))));have O:(yp ps.length aE).length=ps.length:=by simp
  refine lL a ac (af (aa a [.v (qP u 8),.o (qS A ps.length c) 2 8 1,.v (nV ps.length),.c] (bh ?_)));replace a:=a.add (K:=fun e=>TmsU d e 0 (yp ps.length aE) ks) ((fun i hi=>absurd hi (KO i)));refine cj _ (CG.loop (fun I Γ W=>∃ (k:Nat)(L:List PTm)(e:Hp),I=ps.length-k/\Γ=[(1,pB u),(2,pB F),(3,qS (sB b8) ps.length ps.length),(17,qS A ps.length c),(18,nV ps.length),(19,nV k)]/\SS w h W e [⟨b8,32,(L).flatMap aI⟩,⟨F,32,[iV 0,iV 0,qF,uV 0,eS,uV 0,eS,eS,sZ]⟩,⟨u,32,aI ⟨op,n,q,s,A,ps.length,c⟩⟩] [] [fun e=>TmsU d e k L ks,fun e=>Tms d e ps ks,fun e=>SlO 9 aI aE e A ps]/\k<=ps.length/\L.length=ps.length) _ ⟨0,yp ps.length aE,zd,rfl,rfl,a.to _ _,JL _,(by simp)⟩ ?_);rintro _ _ _ ⟨k,L,_,Q,rfl,a,hk,z⟩;refine aD ?_;cases D:(decide ((k:Int)<(ps.length:Int)))
  .
   have zb:=oF D;refine lB 20 D (af (cW (CG.exit ?_)))
   show CG _ _ _ _ _ _ _ _
   refine aD ?_;have hkn:k=ps.length:=by omega
   obtain ⟨_,a,C,S,U⟩:=a.pub 0;replace a:=(a.to [⟨F,32,[iV 0,iV 0,qF,uV 0,eS,uV 0,eS,eS,sZ]⟩,⟨u,32,aI ⟨op,n,q,s,A,ps.length,c⟩⟩] []).aS (SlO.of_flat (sz:=9) (f:=aI) (d:=aE) (b:=b8) (o:=0) (l:=L) (fun _=>rfl) C);exact lL a [.c,.v (qP u 8)] (lP 1 8 ([qS (sB b8) ps.length ps.length]) a (fun _ a=>aR (lL a [.o (ar ⟨op,n,q,s,sB b8,ps.length,ps.length⟩) 1 0 9] (lP 0 0 (aI ⟨op,n,q,s,sB b8,ps.length,ps.length⟩) a (fun _ a=>ae a [(0,0,9)] (ar ⟨op,n,q,s,sB b8,ps.length,ps.length⟩) (⟨⟨op,n,q,s,sB b8,ps.length,ps.length⟩,rfl,by have e:=TmH.mk (op:=op) (n:=n) (q:=q) (s:=s) (c:=L.length) (Tms.of_u oM oM a.f.2.1) (nR _) (a.f.1);rw[z] at e;exact e⟩))))))
  have zb:=oT D;refine lB 20 D (af (cl (cK (cQ (kZ (aa a ac (lX 22 A ps.length c 9 (k:Nat) k ((a.f.r.1).ok oM) ?_)))))));refine lH 23 (ar (ps.getD k aE)) a ((a.f.r.1).el k oM) (lA 5 32 a2 a (fun Z _ _ a=>lL a ac (lP 0 0 (aI (ps.getD k aE)) a (fun _ a=>lN (kQ (lL a [.c,.c,.o (ar (ps.getD k aE)) 0 0 9] (lC 27 a (ih (ps.getD k aE) (ks.getD k ct) _ _ a.g ((a.f.2.1).at_ k oM) (hW k oM)) ?_)))))));rintro _ _ zf a ⟨x,rfl,H⟩;replace a:=(a.add (K:=fun e=>TmH d e x (ks.getD k ct)) H);refine lX 28 (sB b8) ps.length ps.length 9 (k:Nat) k rfl (lW 1 L aI 9 k x a oM (fun _ a=>?_));have zc:((L).set k x).length=ps.length:=by rw[Gx];exact z
  replace a:=a.to [⟨Z,32,aI (ps.getD k aE)⟩,⟨b8,32,((L).set k x).flatMap aI⟩,⟨F,32,[iV 0,iV 0,qF,uV 0,eS,uV 0,eS,eS,sZ]⟩,⟨u,32,aI ⟨op,n,q,s,A,ps.length,c⟩⟩] [];refine lN (kQ (bI 29 ((k:Nat)+1) (k+1) ?_));refine lL a ac (lD ?_);intro a_ ka;replace a:=(a.tl.tl.add (K:=fun e=>TmsU d e (k+1) ((L).set k x) ks) ((a.f.2.1).set oM a.f.1));replace a:=a.drop 1 0;refine ⟨_,_,?_,⟨k+1,(L).set k x,zf,rfl,rfl,a.to _ _,oM,zc⟩,ka.to _ kR⟩
  omega
 have B:=eq_of_beq j;exact lB 9 j (au (aa a [.v (qP u 8)] (lP 1 8 ([sZ]) a (fun _ a=>aR (lL a [.o (ar ⟨op,n,q,s,none,0,0⟩) 1 0 9] (lP 0 0 (aI ⟨op,n,q,s,none,0,0⟩) a (fun _ a=>ae a [(0,0,9)] (ar ⟨op,n,q,s,none,0,0⟩) (⟨⟨op,n,q,s,none,0,0⟩,rfl,by obtain rfl:ks=[]:=yj oM;exact TmH.mk (op:=op) (n:=n) (q:=q) (s:=s) (c:=0) Tms.nil (nR _) SlO.nil⟩))))))))
theorem vg (ok:ByteArray->Prop):∀ (d:Nat) (p:PTm) (t:Tm) (w:World) (h:Hp),G w h->TmH d h p t->WfT ok d t ->  Calls Tryz.prog 34 #[ar p] w (Ret w h (fun v h1=>∃ e,v=ar e/\TmH d h1 e t))
  | 0,_,_,_,_,_,x,_=>x.elim
  | d + 1,p,t,w,h,g,x,wf=>by
    obtain ⟨op,n,q,s,A,c,ps,ks,rfl,rfl,l,y,a⟩:=x.open;obtain ⟨w1,w2,w3,w4,j,f,u,i,o⟩:=wf
    have b:ps.length<=2:=by
      have e1:dU op=ks.length:=w1;have:=az op;have:=a.len
      omega
    exact B1 ok d (fun p t w h=>vg ok d p t w h) op n q s A c ps ks l b w1 w2 w3 w4 j f u i o w h g y a
section
variable {M:Ms}{P:Program}{n:Nat}{N R:Po}{X:Nat->Po}{ops:Array Oper}{k0:Nat}{hr:Hp}{AL:List Al}{L:Array Bool}{Γ:ck}{w:World}{h:Hp}{w0:World}{h0:Hp}{B:List Bx}{Rs:List Rw}{F:List (Hp->Prop)}{M2:List Nat}{wa:World}{ha:Hp}
theorem SS.pubM (s:SS w0 h0 w h B Rs F)(u:UpM M2 wa ha w h)(j:Nat)(y:ha.size<=(ax B j).b)(p:decide (j<B.length)=true:=by kernel_rfl):∃ c,SS w0 h0 w c (B.eraseIdx j) Rs F/\UpM M2 wa ha w c/\Seg c (ax B j).b 0 (ax B j).vs:=by
 have a:=oT p;obtain ⟨c,i,gw,l,z,d⟩:=s.st.pubX j a;have hm:=bu a;refine ⟨c,⟨s.g0,i,fun r hr=>((s.ro r hr).out (gs.2 ⟨_,hm,rfl⟩) d).sub _ (fun b hb=>?_),s.ap,s.mo,s.f.gw s.mo gw⟩,⟨u.mo,⟨eu u.gr.size gw.size,fun b hb=>?_⟩,i.up.g⟩,l⟩
 ·obtain ⟨x,o,e⟩:=gs.1 hb
  exact gs.2 ⟨x,List.mem_of_mem_eraseIdx o,e⟩
 ·exact (d b (fun e=>by subst e;omega)).trans (u.gr.blk b hb)
theorem HS (i t:Nat){f:FuncId}{args:Array Value}{Φ:World->Hp->Value->Hp->Prop}(s:SS w0 h0 w h B Rs F)(m:UpM M2 wa ha w h)(c:∀ w1 h1,SS w0 h0 w1 h1 B Rs F->Calls P f args w1 (Ret w1 h1 (Φ w1 h1)))(H:∀ w1 h1 v w' a,UpM M2 wa ha w' a->SS w0 h0 w' a B Rs F->Φ w1 h1 v a->EG M P n N R X ops k0 hr AL (L.setIfInBounds i true) ((t,v)::Γ) w' a)(j:C4 n ops k0 AL L Γ i t=true:=by kernel_rfl)(hv:∀ w,(execOp (ev Γ) (ao ops i)).run P w=.ok (.enter f args) w:=by intro _;kernel_rfl):EG M P n N R X ops k0 hr AL L Γ w h :=
 Rg.call i t f args (iK j).1 (iK j).2 hv (fun w1 h1 u=>(c w1 h1 (s.step u)).mono fun e w' ⟨v,a,o,d,b⟩=>⟨v,a,o,d.m M.l,H w1 h1 v w' a (m.trans ((u.m _).trans (d.m _))) ((s.step u).step d) b⟩)
theorem FS {F1:List (Hp->Prop)}{wr:World}{x:Al}(a:List Bx)(j:SS w0 h0 wr hr B Rs F1)(s:SS w0 h0 w h (a++B) Rs F)(m:UpM M2 wa ha w h)(l:ha.size<=hr.size)(t:TypeId)(vs:List Value)(H:∀ w' c b,UpM M2 wa ha w' c->ha.size<=b->SS w0 h0 w' c (⟨b,t,vs⟩::(a++B)) Rs F->AG M P n N R X ops k0 (L.setIfInBounds x.i true) ((x.t,.pointer (some ⟨b,0,none⟩))::Γ) w')(e:(fT ops [x] L && decide (x.t<n))=true:=by kernel_rfl)(f:x.o=.cells vs.toArray t (0,0):=by kernel_rfl)(d:a.all (fun y=>y.t != t)=true:=by kernel_rfl):EG M P n N R X ops k0 hr [x] L Γ w h :=
 Rg.fin1 e (fun w' c b u k=>H w' c b (m.trans (u.m _)) (eu l k.2.2) (SS.blkp a j (s.step u) k t vs f d))
theorem I2 (i j o:Nat)(cs:List Value)(s:SS w0 h0 w h B Rs F)(H:∀ w',Put (ax B j).b w w'->SS w0 h0 w' h (fy B j o cs) Rs F->AG M P n N R X ops k0 (L.setIfInBounds i true) Γ w')(c:FJ ops k0 L Γ i=true:=by kernel_rfl)
  (a:(decide (j<B.length) && decide (o+cs.length<=(ax B j).vs.length))=true:=by kernel_rfl)(d:dJ P (execOp (ev Γ) (ao ops i))=some (.skip,n8 (ax B j).b o cs):=by kernel_rfl)(hz:∀ K bs,M.z=some (K,bs)->K<=(ax B j).b\/(ax B j).b∈bs:=by intro _ _ e;cases e):AG M P n N R X ops k0 L Γ w :=
 T.put i j o cs s.st s.g0 (j9 c).1 (j9 c).2 a d (fun w' p f=>H w' p (s.put0 (oT (g7 _ _▸a).1) p f (kz (oT (g7 _ _▸a).1)))) hz
end
theorem vU (q:Rat)(w:World)(h:Hp)(g:G w h):CV 107 #[qv q] w h (ar ⟨1,0,q,⟨#[]⟩,none,0,0⟩):=by
 have a:=sS g;exact go Tryz.func107 [(0,qv q)] rfl (aD (lA 1 29 (qc q) a (fun b w2 e a=>lA 2 32 a2 a (fun f c d a=>aR (lL a [.o (qv q) 1 0 5,.v (ar ⟨1,0,q,⟨#[]⟩,none,0,0⟩)] (lP 0 0 (aI ⟨1,0,q,⟨#[]⟩,none,0,0⟩) a (fun i a=>ae a [(0,0,9)] (ar ⟨1,0,q,⟨#[]⟩,none,0,0⟩) rfl)))))))
theorem fA (n:Int)(h0 : -1000<=n)(h1:n<=1000)(w:World)(h:Hp)(g:G w h):CV 66 #[iV n] w h (ar ⟨1,0,((n:Int):Rat),⟨#[]⟩,none,0,0⟩):=by
 have a:=sS g;exact go Tryz.func66 [(0,iV n)] rfl (aD (lA 2 32 a2 a (fun d w2 f a=>aR (lL a ac (am 4 a (og (n) oM oM _ _ a.g) (fun w4 e a=>am 5 a (vU (((n:Int):Rat)) _ _ a.g) (fun b i a=>lP 0 0 (aI (⟨1,0,((n:Int):Rat),⟨#[]⟩,none,0,0⟩:PTm)) a (fun c a=>ae a [(0,0,9)] (ar (⟨1,0,((n:Int):Rat),⟨#[]⟩,none,0,0⟩:PTm)) rfl))))))))
theorem Gy (op:Int)(e a:PTm)(w:World)(h:Hp)(g:G w h):CR 111 #[iV op,ar e,ar a] w h (fun v h1=>∃ b,v=ar ⟨op,0,0,⟨#[]⟩,sB b,2,2⟩/\SlO 9 aI aE h1 (sB b) [e,a]):=by
 have i:=sS g;refine go Tryz.func111 [(0,iV op),(1,ar e),(2,ar a)] rfl (aD (lA 4 32 (aI e) i (fun u w2 z i=>lA 5 32 (aI a) i (fun y x D i=>lA 6 32 a2 i (fun B p C i=>aR (lL i [.c,.o (ar e) 2 0 9,.o (ar a) 1 0 9] (lR 10 32 2 ([iV e.op,iV e.n,.bool (aw e.q.num),uV (lo (ab e.q.num)),.string (hi (ab e.q.num)),uV (lo (qd e.q)),.string (hi (qd e.q)),.string e.s,qS e.A e.m e.c,iV a.op,iV a.n,.bool (aw a.q.num),uV (lo (ab a.q.num)),.string (hi (ab a.q.num)),uV (lo (qd a.q)),.string (hi (qd a.q)),.string a.s,qS a.A a.m a.c]) i (fun j _ _ i=>?_))))))));replace i:=i.aS (SlO.of_flat (sz:=9) (f:=aI) (d:=aE) (b:=j) (o:=0) (l:=([e,a]:List PTm)) (fun _=>rfl) i.f.1);exact lL i [.v (.agg #[iV op,iV 0,qF,uV 0,eS,uV 0,eS,eS,qS (sB j) 2 2])] (lP 0 0 ([iV op,iV 0,qF,uV 0,eS,uV 0,eS,eS,qS (sB j) 2 2]) i (fun _ i=>ae i [(0,0,9)] (.agg #[iV op,iV 0,qF,uV 0,eS,uV 0,eS,eS,qS (sB j) 2 2]) (⟨_,rfl,i.f.1⟩)))
theorem wh (op:Int)(e:PTm)(w:World)(h:Hp)(g:G w h):CR 110 #[iV op,ar e] w h (fun v h1=>∃ b,v=ar ⟨op,0,0,⟨#[]⟩,sB b,1,1⟩/\SlO 9 aI aE h1 (sB b) [e]):=by
 have a:=sS g;refine go Tryz.func110 [(0,iV op),(1,ar e)] rfl (aD (lA 3 32 (aI e) a (fun u w2 z a=>lA 4 32 a2 a (fun B x y a=>aR (lL a [.c,.o (ar e) 1 0 9] (lR 7 32 1 (pC e) a (fun i j p a=>?_)))))));replace a:=a.aS (SlO.of_flat (sz:=9) (f:=aI) (d:=aE) (b:=i) (o:=0) (l:=([e]:List PTm)) (fun _=>rfl) a.f.1);exact lL a [.v (.agg #[iV op,iV 0,qF,uV 0,eS,uV 0,eS,eS,qS (sB i) 1 1])] (lP 0 0 ([iV op,iV 0,qF,uV 0,eS,uV 0,eS,eS,qS (sB i) 1 1]) a (fun _ a=>ae a [(0,0,9)] (.agg #[iV op,iV 0,qF,uV 0,eS,uV 0,eS,eS,qS (sB i) 1 1]) (⟨_,rfl,a.f.1⟩)))
theorem Jo (p:PTm)(n:Int)(e:Bool)(h0 : -1000<=n)(h1:n<=1000)(j:LQ 100000000 p.q)(i:p.op=1->(dV p.q ((n:Int):Rat) == 0)=e)(c:p.op≠1->e=false)(w:World)(h:Hp)(g:G w h):CV 109 #[ar p,iV n] w h (.bool e):=by
 have a:=sS g;refine go Tryz.func109 [(0,ar p),(1,iV n)] rfl (aD (lA 2 32 (aI p) a (fun l w2 z a=>lL a ac (af (cR 11 [] mixed a aq ?_)))));refine eV 0 5 (pB l) (eO 1 6 [(0,0,1)] (iV p.op) a ?_);cases b:((p.op:Int) == (1:Int))
 .
  have d:=ag b;exact eB 2 7 b (eV 3 8 qF (eG 4 9 (eG 5 10 (eG 6 11 (eG 7 12 (eG 8 13 (eG 9 14 (eV 10 15 qF (bY a (fun x C a=>tV 11 4 qF (tN (kX (a.ret [] qF (congrArg Value.bool (by first|exact (c oM).symm|(rw[<-i oM];exact (by assumption:(_ == _)=_).symm))))))))))))))))
 have d:=eq_of_beq b;refine eB 2 7 b (eV 3 8 qT (eV 4 9 (qP l 2) (eO 5 10 [(0,2,5)] (qv p.q) a (eV 6 11 (iV n) (ai 7 12 a (fun _ _ a=>og (n) oM oM _ _ a.g) (fun B u a=>ai 8 13 a (fun _ _ a=>tJ p.q ((n:Int):Rat) j ((LQ.int oM oM).mono oM) _ _ a.g) (fun y _ a=>?_)))))));cases f:((dV p.q ((n:Int):Rat):Int) == (0:Int))
 .
  have o:=ag f;exact eB 9 14 f (eV 10 15 qF (bY a (fun _ _ a=>tV 11 4 qF (tN (kX (a.ret [] qF (congrArg Value.bool (by first|exact (c oM).symm|(rw[<-i oM];exact (by assumption:(_ == _)=_).symm)))))))))
 have o:=eq_of_beq f;exact eB 9 14 f (eV 10 15 qT (bY a (fun _ _ a=>tV 11 4 qT (tN (kX (a.ret [] qT (congrArg Value.bool (by first|exact (c oM).symm|(rw[<-i oM];exact (by assumption:(_ == _)=_).symm)))))))))
structure K7T (d:Nat) (h:Hp) (p:PTm) (t:Tm):Prop where
  get:p.op=7->p.m=1/\∃ pk,SlO 9 aI aE h p.A [pk]/\TmH d h pk (t.ks.getD 0 ct)
theorem K7T.gw {d:Nat}{h a:Hp}{p:PTm}{t:Tm}(x:K7T d h p t)(u:Gw h a):K7T d a p t:=⟨fun e=>by
 obtain ⟨h1,b,f,c⟩:=x.get e;exact ⟨h1,b,f.gw u,c.gw u⟩⟩
theorem GT {ok:ByteArray->Prop}{d:Nat}{h:Hp}{p:PTm}{t:Tm}(z:p.op=t.op)(i:WfT ok d t)(x:TmH d h p t):K7T d h p t:=⟨fun e=>by
  cases d with
  | zero=>exact x.elim
  | succ d =>
    obtain ⟨C,F,D,B,l,y,o,c,f,j⟩:=x
    have a:t.ks.length=1:=by
      have H:dU t.op=(t.ks.length:Nat):=i.1;have u:=az t.op
      omega
    obtain ⟨b,rfl⟩:=Lk.1 (c.trans a);exact ⟨l.trans a,b,f,TmH.mono (j 0 oM) (La d)⟩⟩
theorem sv {c d:Nat}{ok:ByteArray->Prop}{op n:Int}{q:Rat}{s:ByteArray}{e:Tm}{o1 e1:Int}{f:Rat}{b:Bool}(l:op≠2)(w1:WfQ c ok d e)(i:o1=e.op)(h1:o1=1)(j:bc [] (d+1) (.mk op n q s [e])=(e1,f))(hb:(e1 == 0)=b):(b=true↔fr (.mk op n q s [e]))/\(b=true->f=(bc [] 2 (.mk op n q s [e])).2):=by
 have a:e.op=1:=i▸h1;rw[gU l w1 a] at j
 have e2:bc [] 2 (.mk op n q s [e])=(e1,f):=by rw[gU l (w1.leaf1 a) a];exact j
 refine ⟨⟨fun h=>⟨⟨KS _,a,fun o=>absurd o (by show ¬1<1;decide)⟩,?_⟩,fun h=>?_⟩,fun _=>by rw[e2]⟩
 ·rw[e2];rw[h] at hb;exact eq_of_beq hb
 ·have:=h.2;rw[e2] at this;rw[<-hb];exact kg this
theorem s8 {c d:Nat}{ok:ByteArray->Prop}{op n:Int}{q:Rat}{s:ByteArray}{i f:Tm}{o1 o2 e1:Int}{l:Rat}{b:Bool}(u:op≠2)(w1:WfQ c ok d i)(w2:WfQ c ok d f)(o:o1=i.op)(h1:o1=1)(j:o2=f.op)(x:o2=1)(p:bc [] (d+1) (.mk op n q s [i,f])=(e1,l))(hb:(e1 == 0)=b):(b=true↔fr (.mk op n q s [i,f]))/\(b=true->l=(bc [] 2 (.mk op n q s [i,f])).2):=by
 have a:i.op=1:=o▸h1;have e:f.op=1:=j▸x;rw[fW u w1 a w2 e] at p
 have e2:bc [] 2 (.mk op n q s [i,f])=(e1,l):=by rw[fW u (w1.leaf1 a) a (w2.leaf1 e) e];exact p
 refine ⟨⟨fun h=>⟨⟨KS _,a,fun _=>e⟩,?_⟩,fun h=>?_⟩,fun _=>by rw[e2]⟩
 ·rw[e2];rw[h] at hb;exact eq_of_beq hb
 ·have:=h.2;rw[e2] at this;rw[<-hb];exact kg this
theorem jZ {d:Nat}{t:Tm}(w:WfT (fun s=>aN s=true) d t):rB it d t:=w.sm (sm:=it) (fun _ h=>mm h) Dz
theorem Ee {ok:ByteArray->Prop}{d:Nat}{t:Tm}(w:WfT ok d t):LQ 3000 t.q:=by
 cases d with
 | zero=>exact w.elim
 | succ d=>exact w.2.2.1
theorem i9 {d:Nat}{h:Hp}{p:PTm}{t:Tm}(x:TmH d h p t):p.op=t.op:=by
 cases d with
 | zero=>exact x.elim
 | succ d=>exact x.1
theorem ll {d:Nat}{h:Hp}{p:PTm}{t:Tm}(x:TmH d h p t):p.q=t.q:=by
 cases d with
 | zero=>exact x.elim
 | succ d=>exact x.2.2.1
theorem Cz {p:PTm}{t:Tm}{z:Rat}(b:p.op=t.op)(a:p.q=t.q):(p.op=1->(dV p.q z == 0)=decide (isN t z))/\(p.op≠1->decide (isN t z)=false):=by
 refine ⟨fun h=>?_,fun h=>decide_eq_false (fun x=>h (b.trans x.1))⟩
 by_cases e:t.q=z
 ·rw[decide_eq_true (show isN t z from ⟨b.symm.trans h,e⟩),a,e];exact kg (gi.2 rfl)
 ·rw[decide_eq_false (fun x=>e x.2),a];exact cD (fun x=>e (gi.1 x))
theorem oe (p:PTm)(t:Tm)(z:Int)(hz : -1000<=z/\z<=1000){d:Nat}(a:p.op=t.op)(hv:p.q=t.q)(b:WfT (fun s=>aN s=true) d t)(w:World)(h:Hp)(g:G w h):CV 109 #[ar p,iV z] w h (.bool (decide (isN t ((z:Int):Rat)))) :=
 Jo p z _ hz.1 hz.2 (by rw[hv];exact (Ee b).mono kD) (Cz a hv).1 (Cz a hv).2 w h g
theorem Bv {ok:ByteArray->Prop}{d:Nat}{t:Tm}(w:WfT ok d t):WfT ok (d+1) (.mk 7 0 0 ⟨#[]⟩ [t]):=⟨rfl,fun _=>rfl,im kD,fun h=>absurd (show (7:Int)=2 from h) kD,fun _=>rfl,fun _=>rfl,by show (-12:Int)<=0;decide,by show (0:Int)<=12;decide,fun i hi=>by
 have:i=0:=by have:i<1:=hi;omega
 subst this;exact w⟩
theorem Cm {d m:Nat}{t:Tm}(h:ba d t<=m):ba (d+1) (.mk 7 0 0 ⟨#[]⟩ [t])<=m:=by rw[ia];show 1*_<=m;rw[Ab];exact h
theorem Cu {d:Nat}{op n:Int}{q:Rat}{s:ByteArray}{a b:Tm}:ba d b<=ba (d+1) (.mk op n q s [a,b]):=by
 rw[jr];exact eu (Nat.le_add_left _ _) (J5 _ (bg op n))
section
variable {op n:Int}{q:Rat}{s:ByteArray}{a b:Tm}
theorem vx:bD (.mk op n q s [a,b])=fB (.mk op n q s [a,b]) a b:=rfl
theorem EV:bD (.mk op n q s [a])=fB (.mk op n q s [a]) a ct:=rfl
abbrev dZ (a:Tm)(b:Bool):Prop:=decide (isN a ((0:Int):Rat))=b
abbrev dI (a:Tm)(b:Bool):Prop:=decide (isN a ((1:Int):Rat))=b
theorem AK {a:Tm}(h:dZ a true):isN a 0:=oT h
theorem CY {a:Tm}(h:dZ a false):¬isN a 0:=oF h
theorem IG {a:Tm}(h:dI a true):isN a 1:=oT h
theorem HJ {a:Tm}(h:dI a false):¬isN a 1:=oF h
theorem Hy (h:op=3):bD (.mk op n q s [a,b])=if isN a 0 then b else if isN b 0 then a else .mk op n q s [a,b]:=by rw[vx];exact if_pos h
theorem IK (h:op=3)(x:dZ a true):bD (.mk op n q s [a,b])=b:=by rw[Hy h,if_pos (AK x)]
theorem H8 (h:op=3)(x:dZ a false)(y:dZ b true):bD (.mk op n q s [a,b])=a:=by rw[Hy h,if_neg (CY x),if_pos (AK y)]
theorem HO (h:op=3)(x:dZ a false)(y:dZ b false):bD (.mk op n q s [a,b])=.mk op n q s [a,b]:=by rw[Hy h,if_neg (CY x),if_neg (CY y)]
theorem ID (h:op=4):bD (.mk op n q s [a,b])=if isN b 0 then a else if isN a 0 then p5 b else .mk op n q s [a,b]:=by rw[vx];subst h;rfl
theorem IL (h:op=4)(y:dZ b true):bD (.mk op n q s [a,b])=a:=by rw[ID h,if_pos (AK y)]
theorem IB (h:op=4)(y:dZ b false)(x:dZ a false):bD (.mk op n q s [a,b])=.mk op n q s [a,b]:=by rw[ID h,if_neg (CY y),if_neg (CY x)]
theorem xC {b:Tm}(h:b.op≠1):cP (.mk 7 0 0 ⟨#[]⟩ [b])=p5 b:=by
 rw[bZ (t:=.mk 7 0 0 ⟨#[]⟩ [b]) (fun f=>h f.1.2.1)];rfl
theorem H4 {c d:Nat}{ok:ByteArray->Prop}(h:op=4)(y:dZ b false)(x:dZ a true)(hf:¬fr (.mk op n q s [a,b]))(wb:WfQ c ok d b)(wa:WfQ c ok d a):bD (.mk op n q s [a,b])=cP (.mk 7 0 0 ⟨#[]⟩ [b]):=by
 have hb:b.op≠1:=fun h1=>hf ⟨⟨KS _,(AK x).1,fun _=>h1⟩,by
  rw[fW oM (wa.leaf1 (AK x).1) (AK x).1 (wb.leaf1 h1) h1,dy rfl rfl ⟨fun h=>absurd h oM,fun h=>absurd h oM⟩]⟩
 rw[ID h,if_neg (CY y),if_pos (AK x),xC hb]
theorem HI (h:op=5):bD (.mk op n q s [a,b])=if isN a 0\/isN b 0 then gk ((0:Int):Rat) else if isN a 1 then b else if isN b 1 then a else .mk op n q s [a,b]:=by rw[vx];subst h;rfl
theorem Aa (h:op=5)(x:dZ a true\/dZ b true):bD (.mk op n q s [a,b])=gk ((0:Int):Rat):=by rw[HI h,if_pos (x.imp AK AK)]
theorem IA (x:dZ a false)(y:dZ b false):¬(isN a 0\/isN b 0):=fun h=>h.elim (CY x) (CY y)
theorem HN (h:op=5)(x:dZ a false)(y:dZ b false)(z:dI a true):bD (.mk op n q s [a,b])=b:=by rw[HI h,if_neg (IA x y),if_pos (IG z)]
theorem IM (h:op=5)(x:dZ a false)(y:dZ b false)(z:dI a false)(u:dI b true):bD (.mk op n q s [a,b])=a:=by rw[HI h,if_neg (IA x y),if_neg (HJ z),if_pos (IG u)]
theorem IR (h:op=5)(x:dZ a false)(y:dZ b false)(z:dI a false)(u:dI b false):bD (.mk op n q s [a,b])=.mk op n q s [a,b]:=by rw[HI h,if_neg (IA x y),if_neg (HJ z),if_neg (HJ u)]
theorem FN (h:op=6):bD (.mk op n q s [a,b])=if isN b 1 then a else .mk op n q s [a,b]:=by rw[vx];subst h;rfl
theorem Jr (h:op=6)(u:dI b true):bD (.mk op n q s [a,b])=a:=by rw[FN h,if_pos (IG u)]
theorem HY (h:op=6)(u:dI b false):bD (.mk op n q s [a,b])=.mk op n q s [a,b]:=by rw[FN h,if_neg (HJ u)]
theorem HL (h:op=12\/op=13):bD (.mk op n q s [a,b])=.mk op n q s [a,b]:=by rw[vx];rcases h with rfl|rfl<;>rfl
theorem Gm (h:op=7):bD (.mk op n q s [a])=if a.op=7 then a.ks.getD 0 ct else .mk op n q s [a]:=by rw[EV];subst h;rfl
theorem Jx (h:op=7)(x:a.op=7):bD (.mk op n q s [a])=a.ks.getD 0 ct:=by rw[Gm h,if_pos x]
theorem HX (h:op=7)(x:a.op≠7):bD (.mk op n q s [a])=.mk op n q s [a]:=by rw[Gm h,if_neg x]
theorem EP (h:op=8):bD (.mk op n q s [a])=if n=0 then gk ((1:Int):Rat) else if n=1 then a else .mk op n q s [a]:=by rw[EV];subst h;rfl
theorem IN (h:op=8)(x:n=0):bD (.mk op n q s [a])=gk ((1:Int):Rat):=by rw[EP h,if_pos x]
theorem IZ (h:op=8)(x:n=1):bD (.mk op n q s [a])=a:=by rw[EP h,if_neg oM,if_pos x]
theorem IH (h:op=8)(x:n≠0)(y:n≠1):bD (.mk op n q s [a])=.mk op n q s [a]:=by rw[EP h,if_neg x,if_neg y]
theorem Jf (h:op=9\/op=10\/op=11):bD (.mk op n q s [a])=.mk op n q s [a]:=by rw[EV];rcases h with rfl|rfl|rfl<;>rfl
end
theorem FB (d:Nat)(op n:Int)(q:Rat)(s:ByteArray)(A:Z9)(c:Nat)(e:PTm)(j:Tm)(u:e.op=j.op)(S:e.q=j.q)(B:WfT (fun s=>aN s=true) d j)(Z:d+1<=24)(y:WfT (fun s=>aN s=true) (d+1) (.mk op n q s ([j]:List Tm):Tm))(J:ba (d+1) (.mk op n q s ([j]:List Tm):Tm)<=1000)(Y:op=7\/op=8\/op=9\/op=10\/op=11)(w:World)(h:Hp)(g:G w h)(hK:SlO 9 aI aE h A ([e]:List PTm))(U:TmH (d+1) h (⟨op,n,q,s,A,1,c⟩:PTm) (.mk op n q s ([j]:List Tm):Tm))(M:TmH d h e j)(V:Tab h):CR 108 #[ar ⟨op,n,q,s,A,1,c⟩] w h (fun v _=>∃ x b,v=.tuple #[qv x,.bool b]/\(b=true↔fr (.mk op n q s ([j]:List Tm):Tm))/\(b=true->x=(bc [] 2 (.mk op n q s ([j]:List Tm):Tm)).2)):=by
 have a:=(((((sS g).aS hK).add (K:=fun i=>TmH (d+1) i (⟨op,n,q,s,A,1,c⟩:PTm) (.mk op n q s ([j]:List Tm):Tm)) U).add (K:=fun i=>TmH d i e j) M).add (K:=fun i=>Tab i) V);have W:([e]:List PTm).length=1:=rfl;refine go Tryz.func108 [(0,ar ⟨op,n,q,s,A,1,c⟩)] rfl (aD (lA 1 32 (aI ⟨op,n,q,s,A,1,c⟩) a (fun D w2 h3 a=>lA 2 29 a1 a (fun O w5 h6 a=>lL a ac (af (aa a [.v (qP D 8),.o (qS A 1 c) 1 8 1,.v (iV 1),.v qF] (ah (cK (cQ (aa a [.v (qP D 8),.o (qS A 1 c) 1 8 1,.v (iV 1),.c] (bh (cU ?_))))))))))));refine cN (aa a [.v qT] (af (cl (cK (cQ (kZ (aD (lX 18 A 1 c 9 0 0 ((a.f.r.2.1).ok oM) ?_))))))));refine lH 19 (ar (([e]:List PTm).getD 0 aE)) a ((a.f.r.2.1).el 0 oM) (lA 5 32 a2 a (fun F w8 h9 a=>lP 0 0 (aI (([e]:List PTm).getD 0 aE)) a (fun _ a=>aR (lL a [.v (pB F),.o (iV ((([e]:List PTm).getD 0 aE).op)) 0 0 1] ?_))));cases C:(((([e]:List PTm).getD 0 aE).op:Int) != (1:Int))
 .
  have zc:=aY C;refine lB 22 C (ah (cK (kQ (lL a [.v (iV 1),.c] (lD (CL.to [(1,pB D),(2,pB O),(3,qF),(14,qS A 1 c),(15,iV 1),(16,iV 1),(17,qT),(18,.pointer (some ⟨(aB A),aO A+0*9,none⟩)),(19,ar (([e]:List PTm).getD 0 aE)),(5,pB F),(20,pB F),(21,iV ((([e]:List PTm).getD 0 aE).op)),(22,qF),(24,iV 1)] ?_))))));replace a:=a.to [⟨F,32,aI (([e]:List PTm).getD 0 aE)⟩,⟨O,29,[qF,uV 0,eS,uV 0,eS]⟩,⟨D,32,aI ⟨op,n,q,s,A,1,c⟩⟩] [];refine cN (aa a [.v qF] (af (cW (CG.exit ?_))))
  show CG _ _ _ _ _ _ _ _
  refine aa a [.o (ar ⟨op,n,q,s,A,1,c⟩) 2 0 9] (lC 27 a (tw aN it o5 none 0 [] kD 3002 kD kD (fun _=>(LQ.lit (z:=0) kD).mono kD) (d+1) (⟨op,n,q,s,A,1,c⟩:PTm) (.mk op n q s ([j]:List Tm):Tm) Z _ _ a.g a.f.r.1 (jZ y) SlO.nil a.f.1) ?_);rintro _ _ _ a ⟨e1,p,rfl,L⟩;have l:=L.get ⟨y,J⟩;refine lL a [.c,.v (qv p),.v (iV e1)] (lA 6 29 a1 a (fun Q _ _ a=>lP 0 0 (qc p) a (fun _ a=>lL a ac (aR (lL a [.o (qv p) 0 0 5,.c] ?_)))));cases H:((e1:Int) == (0:Int))
  .
   have X:=ag H;exact lB 32 H (lP 2 0 (qc p) a (fun _ a=>lL a ac (ae a [(2,0,5)] (.tuple #[qv p,qF]) (⟨_,_,rfl,sv oM B.wfq u aM l aM⟩))))
  have X:=eq_of_beq H;exact lB 32 H (lP 2 0 (qc p) a (fun _ a=>lL a ac (ae a [(2,0,5)] (.tuple #[qv p,qT]) (⟨_,_,rfl,sv oM B.wfq u aM l aM⟩))))
 have zc:=a6 C;exact lB 22 C (au (aa a [.v ca] (lP 1 0 a1 a (fun _ a=>lL a ac (ae a [(1,0,5)] (.tuple #[.agg #[qF,uV 0,eS,uV 0,eS],qF]) (⟨0,false,rfl,⟨fun i=>absurd i kD,fun i=>(by have I:=i.1.2.1;first|exact absurd (u.trans I) aM|exact absurd (ho2.trans (i.1.2.2 (by show 1<2;decide))) aM)⟩,fun i=>absurd i kD⟩))))))
theorem Fw (d:Nat)(op n:Int)(q:Rat)(s:ByteArray)(A:Z9)(c:Nat)(j:PTm)(p:Tm)(y:j.op=p.op)(Z:j.q=p.q)(I:WfT (fun s=>aN s=true) d p)(i:PTm)(l:Tm)(u:i.op=l.op)(hv2:i.q=l.q)(J:WfT (fun s=>aN s=true) d l)(hd:d+1<=24)(H:WfT (fun s=>aN s=true) (d+1) (.mk op n q s ([p,l]:List Tm):Tm))(W:ba (d+1) (.mk op n q s ([p,l]:List Tm):Tm)<=1000)(hop:op=3\/op=4\/op=5\/op=6\/op=12\/op=13)(w:World)(h:Hp)(g:G w h)(hK:SlO 9 aI aE h A ([j,i]:List PTm))(hT:TmH (d+1) h (⟨op,n,q,s,A,2,c⟩:PTm) (.mk op n q s ([p,l]:List Tm):Tm))(Y:TmH d h j p)(V:TmH d h i l)(tb:Tab h):CR 108 #[ar ⟨op,n,q,s,A,2,c⟩] w h (fun v _=>∃ x b,v=.tuple #[qv x,.bool b]/\(b=true↔fr (.mk op n q s ([p,l]:List Tm):Tm))/\(b=true->x=(bc [] 2 (.mk op n q s ([p,l]:List Tm):Tm)).2)):=by
 have a:=((((((sS g).aS hK).add (K:=fun e=>TmH (d+1) e (⟨op,n,q,s,A,2,c⟩:PTm) (.mk op n q s ([p,l]:List Tm):Tm)) hT).add (K:=fun e=>TmH d e j p) Y).add (K:=fun e=>TmH d e i l) V).add (K:=fun e=>Tab e) tb);have hln:([j,i]:List PTm).length=2:=rfl;refine go Tryz.func108 [(0,ar ⟨op,n,q,s,A,2,c⟩)] rfl (aD (lA 1 32 (aI ⟨op,n,q,s,A,2,c⟩) a (fun F w2 h3 a=>lA 2 29 a1 a (fun O w5 h6 a=>lL a ac (af (aa a [.v (qP F 8),.o (qS A 2 c) 1 8 1,.v (iV 2),.v qF] (ah (cK (cQ (aa a [.v (qP F 8),.o (qS A 2 c) 1 8 1,.v (iV 2),.c] (bh (cU ?_))))))))))));refine cN (aa a [.v qT] (af (cl (cK (cQ (kZ (aD (lX 18 A 2 c 9 0 0 ((a.f.q.1).ok oM) ?_))))))));refine lH 19 (ar (([j,i]:List PTm).getD 0 aE)) a ((a.f.q.1).el 0 oM) (lA 5 32 a2 a (fun L w8 h9 a=>lP 0 0 (aI (([j,i]:List PTm).getD 0 aE)) a (fun _ a=>aR (lL a [.v (pB L),.o (iV ((([j,i]:List PTm).getD 0 aE).op)) 0 0 1] ?_))));cases M:(((([j,i]:List PTm).getD 0 aE).op:Int) != (1:Int))
 .
  have ze:=aY M;refine lB 22 M (ah (cK (kQ (lL a [.v (iV 1),.c] (lD (CL.to [(1,pB F),(2,pB O),(3,qF),(14,qS A 2 c),(15,iV 2),(16,iV 1),(17,qT),(18,.pointer (some ⟨(aB A),aO A+0*9,none⟩)),(19,ar (([j,i]:List PTm).getD 0 aE)),(5,pB L),(20,pB L),(21,iV ((([j,i]:List PTm).getD 0 aE).op)),(22,qF),(24,iV 1)] ?_))))));replace a:=a.to [⟨L,32,aI (([j,i]:List PTm).getD 0 aE)⟩,⟨O,29,[qF,uV 0,eS,uV 0,eS]⟩,⟨F,32,aI ⟨op,n,q,s,A,2,c⟩⟩] [];refine cN (aa a [.v qT] (af (cl (cK (cQ (kZ (aD (lX 18 A 2 c 9 1 1 ((a.f.q.1).ok oM) ?_))))))));refine lH 19 (ar (([j,i]:List PTm).getD 1 aE)) a ((a.f.q.1).el 1 oM) (lA 5 32 a2 a (fun Q _ _ a=>lP 0 0 (aI (([j,i]:List PTm).getD 1 aE)) a (fun _ a=>aR (lL a [.v (pB Q),.o (iV ((([j,i]:List PTm).getD 1 aE).op)) 0 0 1] ?_))));cases S:(((([j,i]:List PTm).getD 1 aE).op:Int) != (1:Int))
  .
   have zf:=aY S;refine lB 22 S (ah (cK (kQ (lL a [.v (iV 2),.c] (lD (CL.to [(1,pB F),(2,pB O),(3,qF),(14,qS A 2 c),(15,iV 2),(16,iV 2),(17,qT),(18,.pointer (some ⟨(aB A),aO A+1*9,none⟩)),(19,ar (([j,i]:List PTm).getD 1 aE)),(5,pB Q),(20,pB Q),(21,iV ((([j,i]:List PTm).getD 1 aE).op)),(22,qF),(24,iV 2)] ?_))))));replace a:=a.to [⟨Q,32,aI (([j,i]:List PTm).getD 1 aE)⟩,⟨L,32,aI (([j,i]:List PTm).getD 0 aE)⟩,⟨O,29,[qF,uV 0,eS,uV 0,eS]⟩,⟨F,32,aI ⟨op,n,q,s,A,2,c⟩⟩] [];refine cN (aa a [.v qF] (af (cW (CG.exit ?_))))
   show CG _ _ _ _ _ _ _ _
   refine aa a [.o (ar ⟨op,n,q,s,A,2,c⟩) 3 0 9] (lC 27 a (tw aN it o5 none 0 [] kD 3002 kD kD (fun _=>(LQ.lit (z:=0) kD).mono kD) (d+1) (⟨op,n,q,s,A,2,c⟩:PTm) (.mk op n q s ([p,l]:List Tm):Tm) hd _ _ a.g a.f.r.2.1 (jZ H) SlO.nil a.f.1) ?_);rintro _ _ _ a ⟨e1,C,rfl,X⟩;have B:=X.get ⟨H,W⟩;refine lL a [.c,.v (qv C),.v (iV e1)] (lA 6 29 a1 a (fun b19 _ _ a=>lP 0 0 (qc C) a (fun _ a=>lL a ac (aR (lL a [.o (qv C) 0 0 5,.c] ?_)))));cases U:((e1:Int) == (0:Int))
   .
    have zg:=ag U;exact lB 32 U (lP 3 0 (qc C) a (fun _ a=>lL a ac (ae a [(3,0,5)] (.tuple #[qv C,qF]) (⟨_,_,rfl,s8 oM I.wfq J.wfq y aM u aM B aM⟩))))
   have zg:=eq_of_beq U;exact lB 32 U (lP 3 0 (qc C) a (fun _ a=>lL a ac (ae a [(3,0,5)] (.tuple #[qv C,qT]) (⟨_,_,rfl,s8 oM I.wfq J.wfq y aM u aM B aM⟩))))
  have zf:=a6 S;exact lB 22 S (au (aa a [.v ca] (lP 2 0 a1 a (fun _ a=>lL a ac (ae a [(2,0,5)] (.tuple #[.agg #[qF,uV 0,eS,uV 0,eS],qF]) (⟨0,false,rfl,⟨fun e=>absurd e kD,fun e=>(by have D:=e.1.2.1;first|exact absurd (y.trans D) aM|exact absurd (u.trans (e.1.2.2 (by show 1<2;decide))) aM)⟩,fun e=>absurd e kD⟩))))))
 have ze:=a6 M;exact lB 22 M (au (aa a [.v ca] (lP 1 0 a1 a (fun _ a=>lL a ac (ae a [(1,0,5)] (.tuple #[.agg #[qF,uV 0,eS,uV 0,eS],qF]) (⟨0,false,rfl,⟨fun e=>absurd e kD,fun e=>(by have D:=e.1.2.1;first|exact absurd (y.trans D) aM|exact absurd (u.trans (e.1.2.2 (by show 1<2;decide))) aM)⟩,fun e=>absurd e kD⟩))))))
theorem ub (d:Nat)(op n:Int)(q:Rat)(s:ByteArray)(A:Z9)(c:Nat)(e:PTm)(i:Tm)(p:e.op=i.op)(O:e.q=i.q)(S:WfT (fun s=>aN s=true) d i)(hd:d+1<=24)(J:WfT (fun s=>aN s=true) (d+1) (.mk op n q s ([i]:List Tm):Tm))(Z:ba (d+1) (.mk op n q s ([i]:List Tm):Tm)<=1000)(hop:op=7\/op=8\/op=9\/op=10\/op=11)(w:World)(h:Hp)(g:G w h)(hK:SlO 9 aI aE h A ([e]:List PTm))(hT:TmH (d+1) h (⟨op,n,q,s,A,1,c⟩:PTm) (.mk op n q s ([i]:List Tm):Tm))(hp1:TmH d h e i)(X:K7T d h e i)(tb:Tab h):CR 67 #[ar ⟨op,n,q,s,A,1,c⟩] w h (fun v h1=>∃ pr,v=ar pr/\TmH (d+1) h1 pr (cP (.mk op n q s ([i]:List Tm):Tm))):=by
 have a:=((((((sS g).aS hK).add (K:=fun b=>TmH (d+1) b (⟨op,n,q,s,A,1,c⟩:PTm) (.mk op n q s ([i]:List Tm):Tm)) hT).add (K:=fun b=>TmH d b e i) hp1).add (K:=fun b=>K7T d b e i) X).add (K:=fun b=>Tab b) tb);have hln:([e]:List PTm).length=1:=rfl;have bk:(([e]:List PTm).getD 0 aE).op=e.op:=rfl;refine go Tryz.func67 [(0,ar ⟨op,n,q,s,A,1,c⟩)] rfl (aD (lA 1 32 (aI ⟨op,n,q,s,A,1,c⟩) a (fun l w2 h3 a=>lA 2 32 a2 a (fun b4 w5 h6 a=>af (aa a [.o (ar ⟨op,n,q,s,A,1,c⟩) 1 0 9] (lC 7 a (FB d op n q s A c e i p O S hd J Z hop _ _ a.g a.f.q.1 a.f.r.2.1 a.f.r.1 a.f.1) ?_))))));rintro _ w7 h8 a ⟨u,bf,rfl,j,U⟩;refine lL a [.c,.v (qv u),.v (.bool bf)] (lA 3 29 a1 a (fun b9 _ W a=>lP 0 0 (qc u) a (fun _ a=>lL a ac (aR (lL a ac (lN ?_))))));cases z:(bf)
 .
  try rw[z] at a
  try rw[z]
  refine cW (cK (CG.join (fun Γ w_=>∃  (b:Hp),Γ=[(1,pB l),(2,pB b4)]/\SS w h w_ b [⟨b9,29,qc u⟩,⟨b4,32,[iV 0,iV 0,qF,uV 0,eS,uV 0,eS,eS,sZ]⟩,⟨l,32,aI ⟨op,n,q,s,A,1,c⟩⟩] [] [fun b=>Tab b,fun b=>K7T d b e i,fun b=>TmH d b e i,fun b=>TmH (d+1) b (⟨op,n,q,s,A,1,c⟩:PTm) (.mk op n q s ([i]:List Tm):Tm),fun b=>SlO 9 aI aE b A ([e]:List PTm)]/\bD (.mk op n q s ([i]:List Tm):Tm)=(.mk op n q s ([i]:List Tm):Tm)) ?_ ?_))
  .
   refine aa a [.v (pB l),.o (iV op) 2 0 1] (bh (aD ?_));have zi:((op:Int) == (3:Int))=false:=cD oM;have Q:=ag zi;refine lB 16 zi (lL a ac (ah (aD ?_)));have zj:((op:Int) == (4:Int))=false:=cD oM;have bb:=ag zj;refine lB 36 zj (lL a ac (ah (aD ?_)));have zk:((op:Int) == (5:Int))=false:=cD oM;have V:=ag zk;refine lB 58 zk (lL a ac (ah (aD ?_)));have zl:((op:Int) == (6:Int))=false:=cD oM;have bd:=ag zl;refine lB 91 zl (lL a ac (ah (aD ?_)));cases H:((op:Int) == (7:Int))
   .
    have zm:=ag H;refine lB 102 H (lL a ac (ah (aD ?_)));cases I:((op:Int) == (8:Int))
    .
     have zn:=ag I;refine lB 117 I (lL a ac (ah (CG.skip ?_)));intro a_ y;exact ⟨_,⟨W,rfl,a.to _ _,(Jf oM)⟩,y.to _ kR⟩
    have zn:=eq_of_beq I;refine lB 117 I (lL a ac (au (cQ (aa a [.v (qP l 1),.o (iV n) 2 1 1] ?_))));cases F:((n:Int) == (0:Int))
    .
     have zo:=ag F;refine lB 120 F (ah (cK (aa a [.v (qP l 1),.o (iV n) 2 1 1] ?_)));cases C:((n:Int) == (1:Int))
     .
      have zp:=ag C;refine lB 124 C (ah (CG.skip ?_));intro a_ y;exact ⟨_,⟨W,rfl,a.to _ _,(IH oM oM oM)⟩,y.to _ kR⟩
     have zp:=eq_of_beq C;refine lB 124 C (au (aa a [.v (qP l 8),.o (qS A 1 c) 2 8 1] (lX 127 A 1 c 9 0 0 ((a.f.q.1).ok oM) ?_)));exact lH 128 (ar (([e]:List PTm).getD 0 aE)) a ((a.f.q.1).el 0 oM) (lP 1 0 (aI (([e]:List PTm).getD 0 aE)) a (fun _ a=>ae a [(1,0,9)] (ar (([e]:List PTm).getD 0 aE)) (⟨_,rfl,by rw[bZ (fun b=>KN ((j.2 b).symm.trans aM)),show bD (.mk op n q s ([i]:List Tm):Tm)=_ from IZ oM oM];exact (a.f.r.1).mono (La d)⟩)))
    have zo:=eq_of_beq F;exact lB 120 F (au (aD (am 121 a (fA (1) kD kD _ _ a.g) (fun _ _ a=>lP 1 0 (aI (⟨1,0,(((1):Int):Rat),⟨#[]⟩,none,0,0⟩:PTm)) a (fun _ a=>ae a [(1,0,9)] (ar (⟨1,0,(((1):Int):Rat),⟨#[]⟩,none,0,0⟩:PTm)) (⟨_,rfl,by rw[bZ (fun b=>KN ((j.2 b).symm.trans aM)),show bD (.mk op n q s ([i]:List Tm):Tm)=gk ((1:Int):Rat) from IN oM oM];exact (TmH.mk (op:=1) (n:=0) (s:=⟨#[]⟩) (c:=0) Tms.nil (nR _) SlO.nil)⟩))))))
   have zm:=eq_of_beq H;refine lB 102 H (lL a ac (au (aa a [.v (qP l 8),.o (qS A 1 c) 2 8 1] (lX 105 A 1 c 9 0 0 ((a.f.q.1).ok oM) ?_))));refine lL a [.v (.pointer (some ⟨(aB A),aO A+0*9,none⟩))] (lH 107 (iV ((([e]:List PTm).getD 0 aE).op)) a (((a.f.q.1).el 0 oM).part 0 1) ?_);cases D:(((([e]:List PTm).getD 0 aE).op:Int) == (7:Int))
   .
    have zq:=ag D;refine lB 108 D (ah (CG.skip ?_));intro a_ y;exact ⟨_,⟨W,rfl,a.to _ _,(HX oM (fun b=>absurd (p.trans b) oM))⟩,y.to _ kR⟩
   have zq:=eq_of_beq D;refine lB 108 D (au ?_);obtain ⟨L,B,x,M⟩:=(a.f.2.1).get oM;have hlk:([B]:List PTm).length=1:=rfl;refine aa a [.v (qP l 8),.o (qS A 1 c) 2 8 1] (lX 111 A 1 c 9 0 0 ((a.f.q.1).ok oM) ?_);refine lL a [.v (.pointer (some ⟨(aB A),aO A+0*9+8,none⟩))] (I3 113 (qS e.A e.m e.c) a (((a.f.q.1).el 0 (JO _)).part 8 1) (by rw[L]) ?_);exact lX 114 e.A 1 e.c 9 0 0 (x.ok oM) (lH 115 (ar (([B]).getD 0 aE)) a (x.el 0 oM) (lP 1 0 (aI (([B]).getD 0 aE)) a (fun _ a=>ae a [(1,0,9)] (ar (([B]).getD 0 aE)) (⟨_,rfl,by rw[bZ (fun b=>KN ((j.2 b).symm.trans aM)),show bD (.mk op n q s ([i]:List Tm):Tm)=_ from Jx oM (p.symm.trans oM)];exact M.mono (La d)⟩))))
  rintro _ _ ⟨_,rfl,a,Y⟩;exact aa a [.o (ar ⟨op,n,q,s,A,1,c⟩) 2 0 9] (lP 1 0 (aI ⟨op,n,q,s,A,1,c⟩) a (fun _ a=>ae a [(1,0,9)] (ar ⟨op,n,q,s,A,1,c⟩) (⟨_,rfl,by rw[bZ (fun b=>KN ((j.2 b).symm.trans aM)),Y];exact a.f.r.2.1⟩)))
 try rw[z] at a
 try rw[z]
 exact cl (aa a [.o (qv u) 0 0 5] (am 12 a (vU u _ _ a.g) (fun _ _ a=>lP 1 0 (aI (⟨1,0,u,⟨#[]⟩,none,0,0⟩:PTm)) a (fun _ a=>ae a [(1,0,9)] (ar (⟨1,0,u,⟨#[]⟩,none,0,0⟩:PTm)) (⟨_,rfl,by rw[gq (j.1 aM),<-U aM];exact TmH.mk (op:=1) (n:=0) (s:=⟨#[]⟩) (c:=0) Tms.nil (nR _) SlO.nil⟩)))))
theorem jw (d:Nat)(op n:Int)(q:Rat)(s:ByteArray)(A:Z9)(c:Nat)(e:PTm)(a:Tm)(j:e.op=a.op)(o:e.q=a.q)(f:WfT (fun s=>aN s=true) d a)(D:d+1<=24)(l:WfT (fun s=>aN s=true) (d+1) (.mk op n q s ([a]:List Tm):Tm))(p:ba (d+1) (.mk op n q s ([a]:List Tm):Tm)<=1000)(u:op=7\/op=8\/op=9\/op=10\/op=11)(z:1<=c)(w:World)(h:Hp)(g:G w h)(y:SlO 9 aI aE h A [e])(b:TmH d h e a)(C:Tab h):Calls Tryz.prog 67 #[ar (⟨op,n,q,s,A,1,c⟩:PTm)] w (Ret w h (fun v h1=>∃ x,v=ar x/\TmH (d+1) h1 x (cP (.mk op n q s ([a]:List Tm):Tm)))):=by
 have B:TmH (d+1) h (⟨op,n,q,s,A,1,c⟩:PTm) (.mk op n q s ([a]:List Tm):Tm):=TmH.mk (ps:=[e]) ⟨rfl,fun i hi=>by
  have:i=0:=by have:i<1:=hi;omega
  subst this;exact b⟩ z y
 exact ub d op n q s A c e a j o f D l p u w h g y B b (GT j f b) C
theorem pi (d:Nat)(op n:Int)(q:Rat)(s:ByteArray)(A:Z9)(c:Nat)(l:PTm)(u:Tm)(H:l.op=u.op)(F:l.q=u.q)(D:WfT (fun s=>aN s=true) d u)(i:PTm)(p:Tm)(B:i.op=p.op)(C:i.q=p.q)(z:WfT (fun s=>aN s=true) d p)(hd:d+1<=24)(Y:WfT (fun s=>aN s=true) (d+1) (.mk op n q s ([u,p]:List Tm):Tm))(M:ba (d+1) (.mk op n q s ([u,p]:List Tm):Tm)<=1000)(hop:op=3\/op=4\/op=5\/op=6\/op=12\/op=13)(w:World)(h:Hp)(g:G w h)(hK:SlO 9 aI aE h A ([l,i]:List PTm))(hT:TmH (d+1) h (⟨op,n,q,s,A,2,c⟩:PTm) (.mk op n q s ([u,p]:List Tm):Tm))(hp1:TmH d h l u)(Z:TmH d h i p)(tb:Tab h):CR 67 #[ar ⟨op,n,q,s,A,2,c⟩] w h (fun v h1=>∃ L,v=ar L/\TmH (d+1) h1 L (cP (.mk op n q s ([u,p]:List Tm):Tm))):=by
 have e:=((((((sS g).aS hK).add (K:=fun j=>TmH (d+1) j (⟨op,n,q,s,A,2,c⟩:PTm) (.mk op n q s ([u,p]:List Tm):Tm)) hT).add (K:=fun j=>TmH d j l u) hp1).add (K:=fun j=>TmH d j i p) Z).add (K:=fun j=>Tab j) tb);have hln:([l,i]:List PTm).length=2:=rfl;refine go Tryz.func67 [(0,ar ⟨op,n,q,s,A,2,c⟩)] rfl (aD (lA 1 32 (aI ⟨op,n,q,s,A,2,c⟩) e (fun y w2 h3 e=>lA 2 32 a2 e (fun Q w5 h6 e=>af (aa e [.o (ar ⟨op,n,q,s,A,2,c⟩) 1 0 9] (lC 7 e (Fw d op n q s A c l u H F D i p B C z hd Y M hop _ _ e.g e.f.q.1 e.f.r.2.1 e.f.r.1 e.f.2.1 e.f.1) ?_))))));rintro _ w7 h8 e ⟨J,bf,rfl,x,hfx⟩;refine lL e [.c,.v (qv J),.v (.bool bf)] (lA 3 29 a1 e (fun b9 _ zm e=>lP 0 0 (qc J) e (fun _ e=>lL e ac (aR (lL e ac (lN ?_))))));cases S:(bf)
 .
  try rw[S] at e
  try rw[S]
  refine cW (cK (CG.join (fun Γ w_=>∃  (j:Hp),Γ=[(1,pB y),(2,pB Q)]/\SS w h w_ j [⟨b9,29,qc J⟩,⟨Q,32,[iV 0,iV 0,qF,uV 0,eS,uV 0,eS,eS,sZ]⟩,⟨y,32,aI ⟨op,n,q,s,A,2,c⟩⟩] [] [fun j=>Tab j,fun j=>TmH d j i p,fun j=>TmH d j l u,fun j=>TmH (d+1) j (⟨op,n,q,s,A,2,c⟩:PTm) (.mk op n q s ([u,p]:List Tm):Tm),fun j=>SlO 9 aI aE j A ([l,i]:List PTm)]/\bD (.mk op n q s ([u,p]:List Tm):Tm)=(.mk op n q s ([u,p]:List Tm):Tm)) ?_ ?_))
  .
   refine aa e [.v (pB y),.o (iV op) 2 0 1] (bh (aD ?_));cases X:((op:Int) == (3:Int))
   .
    have zi:=ag X;refine lB 16 X (lL e ac (ah (aD ?_)));cases O:((op:Int) == (4:Int))
    .
     have zj:=ag O;refine lB 36 O (lL e ac (ah (aD ?_)));cases W:((op:Int) == (5:Int))
     .
      have zk:=ag W;refine lB 58 W (lL e ac (ah (aD ?_)));cases V:((op:Int) == (6:Int))
      .
       have zl:=ag V;refine lB 91 V (lL e ac (ah (aD ?_)));have zf:((op:Int) == (7:Int))=false:=cD oM;have bb:=ag zf;refine lB 102 zf (lL e ac (ah (aD ?_)));have zg:((op:Int) == (8:Int))=false:=cD oM;have bd:=ag zg;refine lB 117 zg (lL e ac (ah (CG.skip ?_)));intro U I;exact ⟨_,⟨zm,rfl,e.to _ _,(HL oM)⟩,I.to _ kR⟩
      have zl:=eq_of_beq V;refine lB 91 V (lL e ac (au (aa e [.v (qP y 8),.o (qS A 2 c) 2 8 1] (lX 94 A 2 c 9 1 1 ((e.f.q.1).ok oM) ?_))));refine lH 95 (ar (([l,i]:List PTm).getD 1 aE)) e ((e.f.q.1).el 1 oM) (am 96 e (oe i p 1 kD B C z _ _ e.g) (fun _ zn e=>?_));cases bt:((decide (isN p ((1:Int):Rat))))
      .
       refine ah (CG.skip ?_);intro U I;exact ⟨_,⟨zn,rfl,e.to _ _,(HY oM aM)⟩,I.to _ kR⟩
      refine au (aa e [.v (qP y 8),.o (qS A 2 c) 2 8 1] (lX 99 A 2 c 9 0 0 ((e.f.q.1).ok oM) ?_));exact lH 100 (ar (([l,i]:List PTm).getD 0 aE)) e ((e.f.q.1).el 0 oM) (lP 1 0 (aI (([l,i]:List PTm).getD 0 aE)) e (fun _ e=>ae e [(1,0,9)] (ar (([l,i]:List PTm).getD 0 aE)) (⟨_,rfl,by rw[bZ (fun j=>KN ((x.2 j).symm.trans aM)),show bD (.mk op n q s ([u,p]:List Tm):Tm)=_ from Jr oM aM];exact (e.f.r.1).mono (La d)⟩)))
     have zk:=eq_of_beq W;refine lB 58 W (lL e ac (au (cQ (aa e [.v (qP y 8),.o (qS A 2 c) 2 8 1] (lX 61 A 2 c 9 0 0 ((e.f.q.1).ok oM) ?_)))));refine lH 62 (ar (([l,i]:List PTm).getD 0 aE)) e ((e.f.q.1).el 0 oM) (am 63 e (oe l u 0 kD H F D _ _ e.g) (fun _ _ e=>?_));cases b0:((decide (isN u ((0:Int):Rat))))
     .
      refine lL e [.c,.v (qP y 8),.o (qS A 2 c) 2 8 1] (lX 67 A 2 c 9 1 1 ((e.f.q.1).ok oM) ?_);refine lH 68 (ar (([l,i]:List PTm).getD 1 aE)) e ((e.f.q.1).el 1 oM) (am 69 e (oe i p 0 kD B C z _ _ e.g) (fun _ _ e=>?_));cases bl:((decide (isN p ((0:Int):Rat))))
      .
       refine lL e [.v qF] (ah (cK (cQ (aa e [.v (qP y 8),.o (qS A 2 c) 2 8 1] (lX 74 A 2 c 9 0 0 ((e.f.q.1).ok oM) ?_)))));refine lH 75 (ar (([l,i]:List PTm).getD 0 aE)) e ((e.f.q.1).el 0 oM) (am 76 e (oe l u 1 kD H F D _ _ e.g) (fun _ _ e=>?_));cases bk:((decide (isN u ((1:Int):Rat))))
       .
        refine ah (cK (aa e [.v (qP y 8),.o (qS A 2 c) 2 8 1] (lX 83 A 2 c 9 1 1 ((e.f.q.1).ok oM) ?_)));refine lH 84 (ar (([l,i]:List PTm).getD 1 aE)) e ((e.f.q.1).el 1 oM) (am 85 e (oe i p 1 kD B C z _ _ e.g) (fun _ zo e=>?_));cases bx:((decide (isN p ((1:Int):Rat))))
        .
         refine lN (cj [(1,pB y),(2,pB Q),(85,qF)] ?_);refine cW (CG.skip ?_);intro U I;exact ⟨_,⟨zo,rfl,e.to _ _,(IR oM aM aM aM aM)⟩,I.to _ kR⟩
        refine lN (cj [(1,pB y),(2,pB Q),(85,qT)] ?_);refine cl (aa e [.v (qP y 8),.o (qS A 2 c) 2 8 1] (lX 88 A 2 c 9 0 0 ((e.f.q.1).ok oM) ?_));exact lH 89 (ar (([l,i]:List PTm).getD 0 aE)) e ((e.f.q.1).el 0 oM) (lP 1 0 (aI (([l,i]:List PTm).getD 0 aE)) e (fun _ e=>ae e [(1,0,9)] (ar (([l,i]:List PTm).getD 0 aE)) (⟨_,rfl,by rw[bZ (fun j=>KN ((x.2 j).symm.trans aM)),show bD (.mk op n q s ([u,p]:List Tm):Tm)=_ from IM oM aM aM aM aM];exact (e.f.r.1).mono (La d)⟩)))
       refine au (aa e [.v (qP y 8),.o (qS A 2 c) 2 8 1] (lX 79 A 2 c 9 1 1 ((e.f.q.1).ok oM) ?_));exact lH 80 (ar (([l,i]:List PTm).getD 1 aE)) e ((e.f.q.1).el 1 oM) (lP 1 0 (aI (([l,i]:List PTm).getD 1 aE)) e (fun _ e=>ae e [(1,0,9)] (ar (([l,i]:List PTm).getD 1 aE)) (⟨_,rfl,by rw[bZ (fun j=>KN ((x.2 j).symm.trans aM)),show bD (.mk op n q s ([u,p]:List Tm):Tm)=_ from HN oM aM aM aM];exact (e.f.2.1).mono (La d)⟩)))
      exact lL e [.v qT] (au (aD (am 71 e (fA (0) kD kD _ _ e.g) (fun _ _ e=>lP 1 0 (aI (⟨1,0,(((0):Int):Rat),⟨#[]⟩,none,0,0⟩:PTm)) e (fun _ e=>ae e [(1,0,9)] (ar (⟨1,0,(((0):Int):Rat),⟨#[]⟩,none,0,0⟩:PTm)) (⟨_,rfl,by rw[bZ (fun j=>KN ((x.2 j).symm.trans aM)),show bD (.mk op n q s ([u,p]:List Tm):Tm)=gk ((0:Int):Rat) from by first|exact Aa oM (.inl aM)|exact Aa oM (.inr aM)];exact (TmH.mk (op:=1) (n:=0) (s:=⟨#[]⟩) (c:=0) Tms.nil (nR _) SlO.nil)⟩))))))
     refine lL e ac (lG 65 ?_);exact lG 66 (lG 67 (lG 68 (lG 69 (lL e [.v qT] (au (aD (am 71 e (fA (0) kD kD _ _ e.g) (fun _ _ e=>lP 1 0 (aI (⟨1,0,(((0):Int):Rat),⟨#[]⟩,none,0,0⟩:PTm)) e (fun _ e=>ae e [(1,0,9)] (ar (⟨1,0,(((0):Int):Rat),⟨#[]⟩,none,0,0⟩:PTm)) (⟨_,rfl,by rw[bZ (fun j=>KN ((x.2 j).symm.trans aM)),show bD (.mk op n q s ([u,p]:List Tm):Tm)=gk ((0:Int):Rat) from by first|exact Aa oM (.inl aM)|exact Aa oM (.inr aM)];exact (TmH.mk (op:=1) (n:=0) (s:=⟨#[]⟩) (c:=0) Tms.nil (nR _) SlO.nil)⟩))))))))))
    have zj:=eq_of_beq O;refine lB 36 O (lL e ac (au (cQ (aa e [.v (qP y 8),.o (qS A 2 c) 2 8 1] (lX 39 A 2 c 9 1 1 ((e.f.q.1).ok oM) ?_)))));refine lH 40 (ar (([l,i]:List PTm).getD 1 aE)) e ((e.f.q.1).el 1 oM) (am 41 e (oe i p 0 kD B C z _ _ e.g) (fun _ _ e=>?_));cases bz:((decide (isN p ((0:Int):Rat))))
    .
     refine ah (cK (aa e [.v (qP y 8),.o (qS A 2 c) 2 8 1] (lX 48 A 2 c 9 0 0 ((e.f.q.1).ok oM) ?_)));refine lH 49 (ar (([l,i]:List PTm).getD 0 aE)) e ((e.f.q.1).el 0 oM) (am 50 e (oe l u 0 kD H F D _ _ e.g) (fun _ zp e=>?_));cases bn:((decide (isN u ((0:Int):Rat))))
     .
      refine ah (CG.skip ?_);intro U I;exact ⟨_,⟨zp,rfl,e.to _ _,(IB oM aM aM)⟩,I.to _ kR⟩
     refine au (aa e [.v (qP y 8),.o (qS A 2 c) 2 8 1] (lX 53 A 2 c 9 1 1 ((e.f.q.1).ok oM) ?_));refine lH 54 (ar (([l,i]:List PTm).getD 1 aE)) e ((e.f.q.1).el 1 oM) (lC 55 e (wh 7 i _ _ e.g) ?_);rintro _ _ _ e ⟨bo,rfl,hbo⟩;replace e:=e.aS hbo;refine lC 56 e (jw d 7 0 0 ⟨#[]⟩ (sB bo) 1 i p B C z hd (Bv z) (Cm (eu (Cu (d:=d) (op:=op) (n:=n) (q:=q) (s:=s) (a:=u) (b:=p)) M)) (.inl rfl) (nR _) _ _ e.g e.f.1 e.f.r.1 e.f.2.1) ?_;rintro _ _ _ e ⟨L,rfl,hpr⟩;replace e:=(e.add (K:=fun j=>TmH (d+1) j L (cP (.mk 7 0 0 ⟨#[]⟩ [p]))) hpr);exact lP 1 0 (aI L) e (fun _ e=>ae e [(1,0,9)] (ar L) (⟨_,rfl,by rw[bZ (fun j=>KN ((x.2 j).symm.trans aM)),show bD (.mk op n q s ([u,p]:List Tm):Tm)=_ from H4 oM aM aM (fun j=>KN ((x.2 j).symm.trans aM)) z.wfq D.wfq];exact e.f.1⟩))
    refine au (aa e [.v (qP y 8),.o (qS A 2 c) 2 8 1] (lX 44 A 2 c 9 0 0 ((e.f.q.1).ok oM) ?_));exact lH 45 (ar (([l,i]:List PTm).getD 0 aE)) e ((e.f.q.1).el 0 oM) (lP 1 0 (aI (([l,i]:List PTm).getD 0 aE)) e (fun _ e=>ae e [(1,0,9)] (ar (([l,i]:List PTm).getD 0 aE)) (⟨_,rfl,by rw[bZ (fun j=>KN ((x.2 j).symm.trans aM)),show bD (.mk op n q s ([u,p]:List Tm):Tm)=_ from IL oM aM];exact (e.f.r.1).mono (La d)⟩)))
   have zi:=eq_of_beq X;refine lB 16 X (lL e ac (au (cQ (aa e [.v (qP y 8),.o (qS A 2 c) 2 8 1] (lX 19 A 2 c 9 0 0 ((e.f.q.1).ok oM) ?_)))));refine lH 20 (ar (([l,i]:List PTm).getD 0 aE)) e ((e.f.q.1).el 0 oM) (am 21 e (oe l u 0 kD H F D _ _ e.g) (fun _ _ e=>?_));cases bm:((decide (isN u ((0:Int):Rat))))
   .
    refine ah (cK (aa e [.v (qP y 8),.o (qS A 2 c) 2 8 1] (lX 28 A 2 c 9 1 1 ((e.f.q.1).ok oM) ?_)));refine lH 29 (ar (([l,i]:List PTm).getD 1 aE)) e ((e.f.q.1).el 1 oM) (am 30 e (oe i p 0 kD B C z _ _ e.g) (fun _ zq e=>?_));cases bq:((decide (isN p ((0:Int):Rat))))
    .
     refine ah (CG.skip ?_);intro U I;exact ⟨_,⟨zq,rfl,e.to _ _,(HO oM aM aM)⟩,I.to _ kR⟩
    refine au (aa e [.v (qP y 8),.o (qS A 2 c) 2 8 1] (lX 33 A 2 c 9 0 0 ((e.f.q.1).ok oM) ?_));exact lH 34 (ar (([l,i]:List PTm).getD 0 aE)) e ((e.f.q.1).el 0 oM) (lP 1 0 (aI (([l,i]:List PTm).getD 0 aE)) e (fun _ e=>ae e [(1,0,9)] (ar (([l,i]:List PTm).getD 0 aE)) (⟨_,rfl,by rw[bZ (fun j=>KN ((x.2 j).symm.trans aM)),show bD (.mk op n q s ([u,p]:List Tm):Tm)=_ from H8 oM aM aM];exact (e.f.r.1).mono (La d)⟩)))
   refine au (aa e [.v (qP y 8),.o (qS A 2 c) 2 8 1] (lX 24 A 2 c 9 1 1 ((e.f.q.1).ok oM) ?_));exact lH 25 (ar (([l,i]:List PTm).getD 1 aE)) e ((e.f.q.1).el 1 oM) (lP 1 0 (aI (([l,i]:List PTm).getD 1 aE)) e (fun _ e=>ae e [(1,0,9)] (ar (([l,i]:List PTm).getD 1 aE)) (⟨_,rfl,by rw[bZ (fun j=>KN ((x.2 j).symm.trans aM)),show bD (.mk op n q s ([u,p]:List Tm):Tm)=_ from IK oM aM];exact (e.f.2.1).mono (La d)⟩)))
  rintro _ _ ⟨_,rfl,e,hru⟩;exact aa e [.o (ar ⟨op,n,q,s,A,2,c⟩) 2 0 9] (lP 1 0 (aI ⟨op,n,q,s,A,2,c⟩) e (fun _ e=>ae e [(1,0,9)] (ar ⟨op,n,q,s,A,2,c⟩) (⟨_,rfl,by rw[bZ (fun j=>KN ((x.2 j).symm.trans aM)),hru];exact e.f.r.2.1⟩)))
 try rw[S] at e
 try rw[S]
 exact cl (aa e [.o (qv J) 0 0 5] (am 12 e (vU J _ _ e.g) (fun _ _ e=>lP 1 0 (aI (⟨1,0,J,⟨#[]⟩,none,0,0⟩:PTm)) e (fun _ e=>ae e [(1,0,9)] (ar (⟨1,0,J,⟨#[]⟩,none,0,0⟩:PTm)) (⟨_,rfl,by rw[gq (x.1 aM),<-hfx aM];exact TmH.mk (op:=1) (n:=0) (s:=⟨#[]⟩) (c:=0) Tms.nil (nR _) SlO.nil⟩)))))
theorem F7 {d:Nat}{h:Hp}{a c:PTm}{e b:Tm}(x:TmH d h a e)(y:TmH d h c b):Tms d h [a,c] [e,b]:=⟨rfl,fun i hi=>by
 have f:i<2:=hi
 rcases (by omega:i=0\/i=1) with rfl|rfl
 ·exact x
 ·exact y⟩
theorem Ft.wt {ok:ByteArray->Prop}{w D:Nat}{t:Tm}(f:Ft ok w D t)(h:w<=1000):WfT ok D t:=(f.2.1.mono oM (Nat.le_refl _)).wf
theorem bJ {d:Nat}{h:Hp}{z:Int}:TmH (d+1) h ⟨1,0,((z:Int):Rat),⟨#[]⟩,none,0,0⟩ (dk z) :=
 TmH.mk (ps:=[]) (ks:=[]) ⟨rfl,fun i hi=>absurd hi (KO i)⟩ (Nat.le_refl 0) SlO.nil
theorem dW (op:Int)(i e:PTm)(a b:Tm)(D:Nat)(wa:Nat)(F:Ft (fun s=>aN s=true) wa D a)(wb:Nat)(C:Ft (fun s=>aN s=true) wb D b)(B:op=3\/op=4\/op=5\/op=6)(J:D+1<=24)(S:wa+wb<=1000)(w:World)(h:Hp)(g:G w h)(y:TmH D h i a)(x:TmH D h e b)(I:Tab h):CR 68 #[iV op,ar i,ar e] w h (fun v h1=>∃ p,v=ar p/\TmH (D+1) h1 p (aW op a b)):=by
 have d:=((((sS g).add (K:=fun j=>TmH D j i a) y).add (K:=fun j=>TmH D j e b) x).add (K:=fun j=>Tab j) I);have l:=(F.n2 C (op:=op) (n:=0) (by rcases B with rfl|rfl|rfl|rfl<;>rfl) oM (fun _=>rfl) kD kD).1;rw[en oM oM,Ab] at l
 refine go Tryz.func68 [(0,iV op),(1,ar i),(2,ar e)] rfl (aD (lA 4 32 (aI i) d (fun M w2 U d=>lA 5 32 (aI e) d (fun Q O X d=>lA 6 32 a2 d (fun V L W d=>aR (lL d [.c,.o (ar i) 2 0 9,.o (ar e) 1 0 9] (lC 10 d (Gy op i e _ _ d.g) ?_)))))));rintro _ _ _ d ⟨H,rfl,z⟩;replace d:=d.aS z;refine lC 11 d (pi D op 0 0 ⟨#[]⟩ (sB H) 2 i a (i9 d.f.r.2.1) (ll d.f.r.2.1) (F.wt oM) e b (i9 d.f.r.1) (ll d.f.r.1) (C.wt oM) J (l.wt oM) (eu l.2.2 oM) oM _ _ d.g d.f.1 (TmH.mk (ps:=[i,e]) (F7 d.f.r.2.1 d.f.r.1) (nR 2) d.f.1) d.f.r.2.1 d.f.r.1 d.f.2.1) ?_;rintro _ _ _ d ⟨p,rfl,u⟩;replace d:=(d.add (K:=fun j=>TmH (D+1) j p (cP (.mk op 0 0 ⟨#[]⟩ [a,b]))) u);exact lP 0 0 (aI p) d (fun _ d=>ae d [(0,0,9)] (ar p) (⟨p,rfl,d.f.1⟩))
theorem vS (op:Int)(d:PTm)(a:Tm)(D:Nat)(wa:Nat)(y:Ft (fun s=>aN s=true) wa D a)(x:op=7\/op=9)(C:D+1<=24)(L:wa<=1000)(w:World)(h:Hp)(g:G w h)(p:TmH D h d a)(B:Tab h):CR 70 #[iV op,ar d] w h (fun v h1=>∃ i,v=ar i/\TmH (D+1) h1 i (cH op a)):=by
 have b:=(((sS g).add (K:=fun j=>TmH D j d a) p).add (K:=fun j=>Tab j) B);have e:=(y.n1 (op:=op) (n:=0) (by rcases x with rfl|rfl<;>rfl) oM (fun _=>rfl) kD kD).1;rw[en oM oM,Ab] at e
 refine go Tryz.func70 [(0,iV op),(1,ar d)] rfl (aD (lA 3 32 (aI d) b (fun H w2 O b=>lA 4 32 a2 b (fun J I S b=>aR (lL b [.c,.o (ar d) 1 0 9] (lC 7 b (wh op d _ _ b.g) ?_))))));rintro _ Q F b ⟨z,rfl,u⟩;replace b:=b.aS u;refine lC 8 b (jw D op 0 0 ⟨#[]⟩ (sB z) 1 d a (i9 b.f.r.1) (ll b.f.r.1) (y.wt oM) C (e.wt oM) (eu e.2.2 oM) oM (nR 1) _ _ b.g b.f.1 b.f.r.1 b.f.2.1) ?_;rintro _ M _ b ⟨i,rfl,l⟩;replace b:=(b.add (K:=fun j=>TmH (D+1) j i (cP (.mk op 0 0 ⟨#[]⟩ [a]))) l);exact lP 0 0 (aI i) b (fun _ b=>ae b [(0,0,9)] (ar i) (⟨i,rfl,b.f.1⟩))
theorem EN (e:PTm)(n:Int)(a:Tm)(D:Nat)(wa:Nat)(H:Ft (fun s=>aN s=true) wa D a)(y : -12<=n)(B:n<=12)(J:D+1<=24)(U:aG n*wa<=1000)(w:World)(h:Hp)(g:G w h)(z:TmH D h e a)(I:Tab h):CR 69 #[ar e,iV n] w h (fun v h1=>∃ j,v=ar j/\TmH (D+1) h1 j (gl a n)):=by
 have b:=(((sS g).add (K:=fun l=>TmH D l e a) z).add (K:=fun l=>Tab l) I);have i:=(H.n1 (op:=8) (n:=n) rfl kD (fun h=>absurd rfl h) y B).1;have u:br 8 n=aG n:=by unfold br;rw[if_neg kD,if_pos rfl]
 rw[u] at i
 have p:1<=aG n:=u▸bg 8 n;have F:wa<=aG n*wa:=J5 _ p;refine go Tryz.func69 [(0,ar e),(1,iV n)] rfl (aD (lA 2 32 (aI e) b (fun O w2 V b=>lA 4 32 a2 b (fun S Q X b=>aR (lL b [.o (ar e) 1 0 9] (lC 7 b (wh 8 e _ _ b.g) ?_))))));rintro _ W M b ⟨d,rfl,C⟩;replace b:=b.aS C;refine lA 5 32 a2 b (fun L _ _ b=>lP 0 0 (aI (⟨8,0,0,⟨#[]⟩,sB d,1,1⟩:PTm)) b (fun _ b=>aR (lL b [.c,.v (qP L 1)] (lP 0 1 ([iV n]) b (fun _ b=>aR (lL b [.o (ar ⟨(⟨8,0,0,⟨#[]⟩,sB d,1,1⟩:PTm).op,n,(⟨8,0,0,⟨#[]⟩,sB d,1,1⟩:PTm).q,(⟨8,0,0,⟨#[]⟩,sB d,1,1⟩:PTm).s,(⟨8,0,0,⟨#[]⟩,sB d,1,1⟩:PTm).A,(⟨8,0,0,⟨#[]⟩,sB d,1,1⟩:PTm).m,(⟨8,0,0,⟨#[]⟩,sB d,1,1⟩:PTm).c⟩) 0 0 9] (lC 11 b (jw D 8 n 0 ⟨#[]⟩ (sB d) 1 e a (i9 b.f.r.1) (ll b.f.r.1) (H.wt oM) J (i.wt oM) (eu i.2.2 oM) oM (nR 1) _ _ b.g b.f.1 b.f.r.1 b.f.2.1) ?_)))))));rintro _ _ _ b ⟨j,rfl,x⟩;replace b:=(b.add (K:=fun l=>TmH (D+1) l j (cP (.mk 8 n 0 ⟨#[]⟩ [a]))) x);exact lP 1 0 (aI j) b (fun _ b=>ae b [(1,0,9)] (ar j) (⟨j,rfl,b.f.1⟩))
theorem th (p x j l:PTm)(a b u v:Tm)(D:Nat)(wa:Nat)(fa:Ft (fun s=>aN s=true) wa D a)(wb:Nat)(fb:Ft (fun s=>aN s=true) wb D b)(e:Nat)(Z:Ft (fun s=>aN s=true) e D u)(wv:Nat)(X:Ft (fun s=>aN s=true) wv D v)(hD:D+4<=24)(hw:wa+wb+(e+wv)+(1+(e+wv))<=1000)(w:World)(h:Hp)(g:G w h)(I:TmH D h p a)(O:TmH D h x b)(M:TmH D h j u)(W:TmH D h l v)(tb:Tab h):CR 71 #[ar p,ar x,ar j,ar l] w h (fun v_ h1=>∃ Y,v_=ar Y/\TmH (D+4) h1 Y (bK a b u v)):=by
 have c:=((((((sS g).add (K:=fun d=>TmH D d p a) I).add (K:=fun d=>TmH D d x b) O).add (K:=fun d=>TmH D d j u) M).add (K:=fun d=>TmH D d l v) W).add (K:=fun d=>Tab d) tb);have z:=Z.o2 X (op:=4) (.inr (.inl rfl));have i:=z.o1 (op:=9) (.inr rfl);have B:=fa.o2 fb (op:=4) (.inr (.inl rfl));have F:=(B.up (nR _) (show D+1<=D+2 by omega)).o2 i (op:=3) (.inl rfl);have S:=(Ft.num (ok:=(fun s=>aN s=true)) (D:=D+1) FG).o2 i (op:=5) (.inr (.inr (.inl rfl)));refine go Tryz.func71 [(0,ar p),(1,ar x),(2,ar j),(3,ar l)] rfl (aD (lA 4 32 (aI p) c (fun b1 w2 h3 c=>lA 5 32 (aI x) c (fun b4 w5 h6 c=>lA 6 32 (aI j) c (fun b7 w8 h9 c=>lA 7 32 (aI l) c (fun b10 _ _ c=>lA 8 32 a2 c (fun b13 _ _ c=>aR (lL c [.o (ar j) 2 0 9,.o (ar l) 1 0 9] (lC 12 c (dW 4 j l u v D e Z wv X oM oM oM _ _ c.g c.f.r.1 c.f.2.1 c.f.1) ?_)))))))));rintro _ _ _ c ⟨q1,rfl,L⟩;replace c:=(c.add (K:=fun d=>TmH (D+1) d q1 (aW 4 u v)) L);refine lC 13 c (vS 9 q1 (aW 4 u v) (D+1) (e+wv) z oM oM oM _ _ c.g c.f.1 c.f.2.1) ?_;rintro _ _ _ c ⟨y,rfl,U⟩;replace c:=(c.add (K:=fun d=>TmH (D+2) d y (cH 9 (aW 4 u v))) U);refine lA 9 32 a2 c (fun b20 _ _ c=>lP 0 0 (aI y) c (fun _ c=>af (cR 9 [] mixed c aq ?_)));refine eO 0 14 [(5,0,9)] (ar p) c (eO 1 15 [(4,0,9)] (ar x) c (eO 3 17 [(0,0,9)] (ar y) c (eO 6 20 [(0,0,9)] (ar y) c (eC 2 16 c (fun _ _ c=>dW 4 p x a b D wa fa wb fb oM oM oM _ _ c.g c.f.q.r.1 c.f.q.2.1 c.f.r.1) ?_))));rintro _ _ _ _ _ c ⟨q3,rfl,Q⟩;replace c:=(c.add (K:=fun d=>TmH (D+1) d q3 (aW 4 a b)) Q);refine eC 4 18 c (fun _ _ c=>dW 3 q3 y (aW 4 a b) (cH 9 (aW 4 u v)) (D+2) (wa+wb) (B.up (nR _) oM) (e+wv) i oM oM oM _ _ c.g ((c.f.1).mono oM) c.f.2.1 c.f.r.2.1) ?_;rintro _ _ _ _ _ c ⟨q4,rfl,J⟩;replace c:=(c.add (K:=fun d=>TmH ((D+2)+1) d q4 (aW 3 (aW 4 a b) (cH 9 (aW 4 u v)))) J);refine ai 5 19 c (fun _ _ c=>fA 2 kD kD _ _ c.g) (fun _ _ c=>eC 7 21 c (fun _ _ c=>dW 5 ⟨1,0,((2:Int):Rat),⟨#[]⟩,none,0,0⟩ y (dk 2) (cH 9 (aW 4 u v)) (D+2) 1 (Ft.num FG) (e+wv) i oM oM oM _ _ c.g bJ c.f.r.1 c.f.q.1) ?_);rintro _ _ _ _ _ c ⟨q5,rfl,H⟩;replace c:=(c.add (K:=fun d=>TmH ((D+2)+1) d q5 (aW 5 (dk 2) (cH 9 (aW 4 u v)))) H);refine eC 8 22 c (fun _ _ c=>dW 6 q4 q5 (aW 3 (aW 4 a b) (cH 9 (aW 4 u v))) (aW 5 (dk 2) (cH 9 (aW 4 u v))) (D+3) (wa+wb+(e+wv)) F (1+(e+wv)) S oM oM oM _ _ c.g c.f.2.1 c.f.1 c.f.q.2.1) ?_;rintro _ _ _ _ _ c ⟨C,rfl,V⟩;replace c:=(c.add (K:=fun d=>TmH ((D+3)+1) d C (aW 6 (aW 3 (aW 4 a b) (cH 9 (aW 4 u v))) (aW 5 (dk 2) (cH 9 (aW 4 u v))))) V);exact bY c (fun _ _ c=>tP 9 1 0 (aI C) c (fun _ c=>tN (kX (c.ret [(1,0,9)] (ar C) (⟨C,rfl,c.f.1⟩)))))
section
variable {M:Ms}{P:Program}{n:Nat}{N R:Po}{X:Nat->Po}{ops:Array Oper}{k0:Nat}{L:Array Bool}{Γ:ck}{w:World}{h:Hp}{w0:World}{h0:Hp}{B:List Bx}{Rs:List Rw}{F:List (Hp->Prop)}
def r8 (ops:Array Oper)(k0:Nat)(L:Array Bool)(i j:Nat):Bool :=
  decide (i<ops.size) && decide (j<ops.size) && decide (k0<=i) && decide (k0<=j) && Region.noSelect ops && (Region.ready .any ops L == [i,j])
theorem A.two {a:Act}{i j:Nat}(e:r8 ops k0 L i j=true){Q:Exit->Act->World->Prop}{f R2:Value->World->Prop}(h1:OpR P ops (ao ops i) a w f)(u:OpR P ops (ao ops j) a w R2)(l:∀ v w',f v w'->Tl M w w')(h:∀ v w',R2 v w'->Tl M w w')
  (c:∀ v w',f v w'->A M P ops Q k0 (L.setIfInBounds i true) (a.put (ao ops i).dst v) w')(d:∀ v w',R2 v w'->A M P ops Q k0 (L.setIfInBounds j true) (a.put (ao ops j).dst v) w'):A M P ops Q k0 L a w:=by
 unfold r8 at e
 simp only[g7,decide_eq_true_eq,beq_iff_eq] at e
 obtain ⟨⟨⟨⟨⟨c1,c2⟩,x⟩,p⟩,_⟩,o⟩:=e;refine A.intro (fun h0=>by rw[o] at h0;cases h0) (fun q b=>?_);rw[o] at b
 rcases g1.1 b with rfl|b
 ·exact OpR.wpOp (bC c1) h1 (fun v w' hr=>⟨Rl.tl x (l v w' hr),c v w' hr⟩)
 ·rw[ov] at b
  subst b;exact OpR.wpOp (bC c2) u (fun v w' hr=>⟨Rl.tl p (h v w' hr),d v w' hr⟩)
def GX (n:Nat)(ops:Array Oper)(Γ:ck)(i t:Nat):Bool:=Region.noSelect ops && decide (i<ops.size) && bp Γ (ao ops i) && ((ao ops i).dst == some t) && decide (t<n) && (bA ops Γ (ao ops i) == some true)
theorem qQ {i t:Nat}{v:Value}(b:GX n ops Γ i t=true)(hr:(execOp (ev Γ) (ao ops i)).run P w=.ok (.value v) w){a:Act}(c:Kn n a Γ):OpR P ops (ao ops i) a w (fun u w1=>u=v/\w1=w)/\(ao ops i).dst=some t/\t<n:=by
 unfold GX at b
 simp only[g7,decide_eq_true_eq,beq_iff_eq] at b
 obtain ⟨⟨⟨⟨⟨d,h0⟩,j⟩,h⟩,f⟩,e⟩:=b;exact ⟨⟨c.want e,.inl ⟨v,w,by rw[c.exec (Region.noSelect_spec d i _ · · (bC h0)) j];exact hr,rfl,rfl⟩⟩,h,f⟩
def IV (ops:Array Oper)(Γ:ck)(i:Nat):Bool:=Region.noSelect ops && decide (i<ops.size) && bp Γ (ao ops i) && ((ao ops i).dst == none) && (bA ops Γ (ao ops i) == some true)
theorem E1 {i:Nat}{w':World}(b:IV ops Γ i=true)(hr:(execOp (ev Γ) (ao ops i)).run P w=.ok .skip w'){a:Act}(c:Kn n a Γ):OpR P ops (ao ops i) a w (fun u w1=>u=undef/\w1=w')/\(ao ops i).dst=none:=by
 unfold IV at b
 simp only[g7,decide_eq_true_eq,beq_iff_eq] at b
 obtain ⟨⟨⟨⟨d,h0⟩,h⟩,f⟩,e⟩:=b;exact ⟨⟨c.want e,.inr (.inl ⟨w',by rw[c.exec (Region.noSelect_spec d i _ · · (bC h0)) h];exact hr,rfl,rfl⟩)⟩,f⟩
theorem uA (i t:Nat)(ps:List (Nat × Nat × Nat))(v:Value)(j o:Nat)(b:List (Nat × Nat × Nat))(p:Value)(s:SS w0 h0 w h B Rs F)(y:AG M P n N R X ops k0 (L.setIfInBounds i true) ((t,v)::Γ) w)(C:AG M P n N R X ops k0 (L.setIfInBounds j true) ((o,p)::Γ) w)
  (d:(r8 ops k0 L i j && GX n ops Γ i t && GX n ops Γ j o)=true:=by kernel_rfl)(f:(ce B ps && ce B b)=true:=by kernel_rfl)(u:bU P (execOp (ev Γ) (ao ops i)) (cO B ps)=some (.value v,bQ B ps):=by kernel_rfl)(l:bU P (execOp (ev Γ) (ao ops j)) (cO B b)=some (.value p,bQ B b):=by kernel_rfl):AG M P n N R X ops k0 L Γ w:=by
 simp only[g7] at d f
 intro a c;obtain ⟨o1,x,z⟩:=qQ d.1.2 (bS _ _ _ _ u (cI s.st.own ps f.1)) c;obtain ⟨o2,D,l2⟩:=qQ d.2 (bS _ _ _ _ l (cI s.st.own b f.2)) c;refine A.two d.1.1 o1 o2 (fun _ _ e=>e.2▸Tl.refl _ _) (fun _ _ e=>e.2▸Tl.refl _ _) ?_ ?_
 ·rintro _ _ ⟨rfl,rfl⟩;rw[x];exact y _ (c.put z _)
 ·rintro _ _ ⟨rfl,rfl⟩;rw[D];exact C _ (c.put l2 _)
theorem uB (i t:Nat)(ps:List (Nat × Nat × Nat))(v:Value)(q j o:Nat)(cs:List Value)(s:SS w0 h0 w h B Rs F)(H:AG M P n N R X ops k0 (L.setIfInBounds i true) ((t,v)::Γ) w)(J:∀ w',SS w0 h0 w' h (fy B j o cs) Rs F->AG M P n N R X ops k0 (L.setIfInBounds q true) Γ w')
  (u:(r8 ops k0 L i q && GX n ops Γ i t && IV ops Γ q)=true:=by kernel_rfl)(D:ce B ps=true:=by kernel_rfl)(y:bU P (execOp (ev Γ) (ao ops i)) (cO B ps)=some (.value v,bQ B ps):=by kernel_rfl)
  (K:(decide (j<B.length) && decide (o+cs.length<=(ax B j).vs.length))=true:=by kernel_rfl)(x:dJ P (execOp (ev Γ) (ao ops q))=some (.skip,n8 (ax B j).b o cs):=by kernel_rfl)(hz:M.z=none:=by rfl):AG M P n N R X ops k0 L Γ w:=by
 simp only[g7] at u
 have c:=K
 simp only[g7,decide_eq_true_eq] at c
 intro a p;obtain ⟨o1,C,I⟩:=qQ u.1.2 (bS _ _ _ _ y (cI s.st.own ps D)) p;obtain ⟨w',f,d,l⟩:=ge _ _ _ _ _ w x (s.st.own _ (bu c.1)) c.2;obtain ⟨o2,O⟩:=E1 u.2 f p;refine A.two u.1.1 o1 o2 (fun _ _ e=>e.2▸Tl.refl _ _) (fun _ _ _=>Tl.none hz _ _) ?_ ?_
 ·rintro _ _ ⟨rfl,rfl⟩;rw[C];exact H _ (p.put I _)
 ·rintro _ _ ⟨rfl,rfl⟩
  rw[O];exact J _ (s.put0 c.1 d (s.st.put s.g0 c.1 d l) (kz c.1)) _ p
end
section
variable {op n:Int}{u du v dv:Tm}
theorem di (h:op=3\/op=4):bW op n u du v dv=aW op du dv:=by rcases h with rfl|rfl<;>rfl
theorem dg (h:op=8)(h0:n=0):bW op n u du v dv=dk 0:=by subst h;unfold bW;simp[h0]
theorem d7 (h:op=8)(h0:n≠0):bW op n u du v dv=aW 5 (aW 5 (dk n) (gl u (n-1))) du:=by subst h;unfold bW;simp[h0]
end
theorem Bi (nm:ByteArray)(d:Nat)(op n:Int)(q:Rat)(s:ByteArray)(A:Z9)(c:Nat)(z:op=1\/op=2)(w:World)(h:Hp)(g:G w h)(u:TmH (d+1) h (⟨op,n,q,s,A,0,c⟩:PTm) (.mk op n q s []))(x:Tab h):CR 33 #[ar ⟨op,n,q,s,A,0,c⟩,.string nm] w h (fun v h1=>∃ b e,v=.tuple #[ar b,ar e]/\TmH (d+1) h1 b (av nm (d+1) (.mk op n q s [])).1/\TmH (3*(d+1)+4) h1 e (av nm (d+1) (.mk op n q s [])).2):=by
 have a:=(((sS g).add (K:=fun l=>TmH (d+1) l (⟨op,n,q,s,A,0,c⟩:PTm) (.mk op n q s [])) u).add (K:=fun l=>Tab l) x);refine go Tryz.func33 [(0,ar ⟨op,n,q,s,A,0,c⟩),(1,.string nm)] rfl (aD (lA 2 32 (aI ⟨op,n,q,s,A,0,c⟩) a (fun p w2 H a=>lA 4 32 a2 a (fun F D L a=>lA 5 32 a2 a (fun I C J a=>af (aa a [.v (qP p 8),.o (qS A 0 c) 2 8 1,.v (iV 0),.v qT] (au (cQ (aa a [.v (pB p),.o (iV op) 2 0 1] ?_)))))))));cases i:((op:Int) == (2:Int))
 .
  have B:=ag i;refine lB 18 i (lL a ac (lG 20 ?_));refine lG 21 (lG 22 (lG 23 (lL a [.v qF] (ah (cK (cQ (cR 2 [] mixed a aq ?_)))))));exact eO 0 27 [(2,0,9)] (ar ⟨op,n,q,s,A,0,c⟩) a (ai 1 28 a (fun _ _ a=>fA 0 oM oM _ _ a.g) (fun _ _ a=>bY a (fun _ _ a=>tP 2 1 0 (aI ⟨op,n,q,s,A,0,c⟩) a (fun _ a=>tP 3 0 0 (aI (⟨1,0,((0:Int):Rat),⟨#[]⟩,none,0,0⟩:PTm)) a (fun _ a=>tN (kX (a.ret [(1,0,9),(0,0,9)] (.tuple #[ar ⟨op,n,q,s,A,0,c⟩,ar (⟨1,0,((0:Int):Rat),⟨#[]⟩,none,0,0⟩:PTm)]) (⟨_,_,rfl,(by rw[j3];exact a.f.2.1),(by rw[j3];show TmH _ _ _ (if op=2/\s=nm then dk 1 else dk 0);rw[if_neg (fun k=>by first|(have:=k.1;omega)|exact absurd k.2 aM)];exact (bJ (d:=d)).mono oM)⟩))))))))
 have B:=eq_of_beq i;refine lB 18 i (lL a [.c,.v (qP p 7),.o (.string s) 2 7 1,.c] ?_);cases j:(pS s nm)
 .
  have y:=nz j;refine lB 23 j (lL a [.v qF] (ah (cK (cQ (cR 2 [] mixed a aq ?_)))));exact eO 0 27 [(2,0,9)] (ar ⟨op,n,q,s,A,0,c⟩) a (ai 1 28 a (fun _ _ a=>fA 0 oM oM _ _ a.g) (fun _ _ a=>bY a (fun _ _ a=>tP 2 1 0 (aI ⟨op,n,q,s,A,0,c⟩) a (fun _ a=>tP 3 0 0 (aI (⟨1,0,((0:Int):Rat),⟨#[]⟩,none,0,0⟩:PTm)) a (fun _ a=>tN (kX (a.ret [(1,0,9),(0,0,9)] (.tuple #[ar ⟨op,n,q,s,A,0,c⟩,ar (⟨1,0,((0:Int):Rat),⟨#[]⟩,none,0,0⟩:PTm)]) (⟨_,_,rfl,(by rw[j3];exact a.f.2.1),(by rw[j3];show TmH _ _ _ (if op=2/\s=nm then dk 1 else dk 0);rw[if_neg (fun k=>by first|(have:=k.1;omega)|exact absurd k.2 aM)];exact (bJ (d:=d)).mono oM)⟩))))))))
 have y:=od j;refine lB 23 j (lL a [.v qT] (au (cQ (cR 2 [] mixed a aq ?_))));exact eO 0 25 [(2,0,9)] (ar ⟨op,n,q,s,A,0,c⟩) a (ai 1 26 a (fun _ _ a=>fA 1 oM oM _ _ a.g) (fun _ _ a=>bY a (fun _ _ a=>tP 2 1 0 (aI ⟨op,n,q,s,A,0,c⟩) a (fun _ a=>tP 3 0 0 (aI (⟨1,0,((1:Int):Rat),⟨#[]⟩,none,0,0⟩:PTm)) a (fun _ a=>tN (kX (a.ret [(1,0,9),(0,0,9)] (.tuple #[ar ⟨op,n,q,s,A,0,c⟩,ar (⟨1,0,((1:Int):Rat),⟨#[]⟩,none,0,0⟩:PTm)]) (⟨_,_,rfl,(by rw[j3];exact a.f.2.1),(by rw[j3];show TmH _ _ _ (if op=2/\s=nm then dk 1 else dk 0);rw[if_pos ⟨by omega,by assumption⟩];exact (bJ (d:=d)).mono oM)⟩))))))))
theorem BD (nm:ByteArray)(d:Nat)(ih:∀ (p:PTm) (t:Tm) (w:World) (h:Hp),G w h->TmH d h p t->WfT1 (fun s=>aN s=true) d t->mQ d t->8*(d*ba d t)<=1000->Tab h->Calls Tryz.prog 33 #[ar p,.string nm] w (Ret w h (fun v h1=>∃ p1_ p2_,v=.tuple #[ar p1_,ar p2_]/\TmH d h1 p1_ (av nm d t).1/\TmH (3*d+4) h1 p2_ (av nm d t).2)))(op n:Int)(q:Rat)(s:ByteArray)(A:Z9)(c:Nat)(p1:PTm)(e:Tm)(hw1:WfT1 (fun s=>aN s=true) d e)(hy1:mQ d e)(hb1:8*(d*ba d e)<=1000)(u V:Nat)(J:Ft (fun s=>aN s=true) u d (av nm d e).1)(C:Ft (fun s=>aN s=true) V (3*d+4) (av nm d e).2)(M:Nat)(hM:u<=M)(hW:V+8*M<=1000)(hn_:Ft (fun s=>aN s=true) M (d+1) (.mk op n 0 ⟨#[]⟩ [(av nm d e).1]))(h8w:op=8->aG (n-1)*u<=2*M)(hd:d+1<=4)(hop:op=7\/op=8\/op=9\/op=10\/op=11)(hn1 : -11<=n)(hn2:n<=12)(w:World)(h:Hp)(g:G w h)(hK:SlO 9 aI aE h A ([p1]:List PTm))(hp1:TmH d h p1 e)(tb:Tab h):CR 33 #[ar ⟨op,n,q,s,A,1,c⟩,.string nm] w h (fun v h1=>∃ p1_ p2_,v=.tuple #[ar p1_,ar p2_]/\TmH (d+1) h1 p1_ (av nm (d+1) (.mk op n q s ([e]:List Tm))).1/\TmH (3*(d+1)+4) h1 p2_ (av nm (d+1) (.mk op n q s ([e]:List Tm))).2):=by
 have a:=((((sS g).aS hK).add (K:=fun y=>TmH d y p1 e) hp1).add (K:=fun y=>Tab y) tb);have hln:([p1]:List PTm).length=1:=rfl;have df:=J.1;have dc:=C.1;refine go Tryz.func33 [(0,ar ⟨op,n,q,s,A,1,c⟩),(1,.string nm)] rfl (aD (lA 2 32 (aI ⟨op,n,q,s,A,1,c⟩) a (fun b1 w2 h3 a=>lA 4 32 a2 a (fun b4 w5 h6 a=>lA 5 32 a2 a (fun b7 w8 h9 a=>af (aa a [.v (qP b1 8),.o (qS A 1 c) 2 8 1,.v (iV 1),.v qF] (ah (cK (aa a [.v (qP b1 8),.o (qS A 1 c) 2 8 1] (lX 32 A 1 c 9 0 0 ((a.f.r.1).ok oM) ?_))))))))));refine lH 33 (ar (([p1]:List PTm).getD 0 aE)) a ((a.f.r.1).el 0 oM) (lL a ac (lC 35 a (ih (([p1]:List PTm).getD 0 aE) e _ _ a.g a.f.2.1 hw1 hy1 hb1 a.f.1) ?_));rintro _ _ _ a ⟨H,U,rfl,hpu,hpd⟩;replace a:=((a.add (K:=fun y=>TmH d y H (av nm d e).1) hpu).add (K:=fun y=>TmH (3*d+4) y U (av nm d e).2) hpd);refine lL a [.c,.v (ar H),.v (ar U)] (lA 6 32 a2 a (fun zr _ _ a=>lA 7 32 a2 a (fun zs _ _ a=>lP 1 0 (aI H) a (fun _ a=>lP 0 0 (aI U) a (fun _ a=>aR (lL a [.o (ar H) 1 0 9] (lR 39 32 1 (pC H) a (fun zf _ _ a=>?_))))))));replace a:=a.aS (SlO.of_flat (sz:=9) (f:=aI) (d:=aE) (b:=zf) (o:=0) (l:=([H]:List PTm)) (fun _=>rfl) a.f.1);refine lL a ac (aR (lL a [.v (.agg #[iV 0,iV 0,qF,uV 0,eS,uV 0,eS,eS,sZ]),.v (.agg #[iV 0,iV 0,qF,uV 0,eS,uV 0,eS,eS,sZ])] (lA 9 32 a2 a (fun zt _ _ a=>lA 10 32 a2 a (fun zu _ _ a=>lP 1 0 a2 a (fun _ a=>lP 0 0 a2 a (fun _ a=>af (aa a [.v (qP b1 8),.o (qS A 1 c) 6 8 1,.v (iV 1),.v qF] (ah (cK (aa a [.v (pB b1),.o (iV op) 6 0 1,.v (qP b1 1),.o (iV n) 6 1 1,.c,.v (.agg #[iV op,iV n,qF,uV 0,eS,uV 0,eS,eS,qS (sB zf) 1 1])] (lC 65 a (jw d op n 0 ⟨#[]⟩ (sB zf) 1 H (av nm d e).1 (i9 a.f.r.2.1) (ll a.f.r.2.1) (J.wt oM) oM (hn_.wt oM) (eu hn_.2.2 oM) hop oM _ _ a.g a.f.1 a.f.r.2.1 a.f.q.1) ?_))))))))))));rintro _ _ _ a ⟨ps,rfl,hps⟩;replace a:=(a.add (K:=fun y=>TmH (d+1) y ps (cP (.mk op n 0 ⟨#[]⟩ [(av nm d e).1]))) hps);refine lP 5 0 (aI ps) a (fun _ a=>af (aa a [.v (pB b1),.o (iV op) 6 0 1] (bh (cQ (aD ?_)))));have zg:((op:Int) == (3:Int))=false:=cD oM;have c6:=ag zg;refine lB 69 zg (lL a ac (lN (cj [(2,pB b1),(4,pB b4),(5,pB b7),(6,pB zr),(7,pB zs),(9,pB zt),(10,pB zu),(67,iV op),(68,qF)] ?_)));refine cW (kQ ?_);have zi:((op:Int) == (4:Int))=false:=cD oM;have c9:=ag zi;refine lB 70 zi (lL a ac (ah (aD ?_)));have zj:((op:Int) == (5:Int))=false:=cD oM;have c5:=ag zj;refine lB 77 zj (lL a ac (ah (aD ?_)));have zk:((op:Int) == (6:Int))=false:=cD oM;have c8:=ag zk;refine lB 86 zk (lL a ac (ah (aD ?_)));cases zb:((op:Int) == (7:Int))
 .
  have zn:=ag zb;refine lB 98 zb (lL a ac (ah (aD ?_)));cases zc:((op:Int) == (8:Int))
  .
   have zo:=ag zc;refine lB 102 zc (lL a ac (ah (aD ?_)));cases zd:((op:Int) == (9:Int))
   .
    have zp:=ag zd;refine lB 119 zd (lL a ac (ah (aD ?_)));cases ze:((op:Int) == (10:Int))
    .
     have zq:=ag ze;refine lB 127 ze (lL a ac (ah (aD ?_)));have zl:((op:Int) == (11:Int))=true:=kg oM;have db:=eq_of_beq zl;refine lB 140 zl (lL a ac (au (cR 7 [] mixed a aq ?_)));refine eO 0 141 [(2,0,9)] (ar U) a (eO 2 143 [(3,0,9)] (ar H) a (ai 1 142 a (fun _ _ a=>fA 1 oM oM _ _ a.g) (fun _ _ a=>eC 3 144 a (fun _ _ a=>vS 9 H (av nm d e).1 d u J (.inr rfl) oM oM _ _ a.g a.f.q.1 a.f.q.2.1) ?_)));rintro _ _ _ _ _ a ⟨b5,rfl,ch⟩;replace a:=(a.add (K:=fun y=>TmH (d+1) y b5 (cH 9 (av nm d e).1)) ch);have bd:Ft (fun s=>aN s=true) u (d+1) (cH 9 (av nm d e).1):=J.o1 (.inr rfl);refine eC 4 145 a (fun _ _ a=>dW 3 (⟨1,0,((1:Int):Rat),⟨#[]⟩,none,0,0⟩:PTm) b5 (dk 1) (cH 9 (av nm d e).1) (d+1) 1 ((Ft.num (D:=d) (LQ.int oM oM)).up (nR _) (show (d+1)<=(d+1) by omega)) u (bd.up (nR _) (show (d+1)<=(d+1) by omega)) (.inl rfl) oM oM _ _ a.g ((bJ (d:=d)).mono oM) ((a.f.1).mono oM) a.f.q.r.1) ?_;rintro _ _ _ _ _ a ⟨b3,rfl,cq⟩;replace a:=(a.add (K:=fun y=>TmH (d+2) y b3 (aW 3 (dk 1) (cH 9 (av nm d e).1))) cq);have L:Ft (fun s=>aN s=true) (1+u) (d+2) (aW 3 (dk 1) (cH 9 (av nm d e).1)):=((Ft.num (D:=d) (LQ.int oM oM)).up (nR _) (show (d+1)<=(d+1) by omega)).o2 (bd.up (nR _) (show (d+1)<=(d+1) by omega)) (.inl rfl);refine eC 5 146 a (fun _ _ a=>EN b3 2 (aW 3 (dk 1) (cH 9 (av nm d e).1)) (d+2) (1+u) L oM oM oM (by first|omega|(rw[dH];omega)) _ _ a.g a.f.1 a.f.q.r.2.1) ?_;rintro _ _ _ _ _ a ⟨b6,rfl,cf⟩;replace a:=(a.add (K:=fun y=>TmH (d+3) y b6 (gl (aW 3 (dk 1) (cH 9 (av nm d e).1)) 2)) cf);have bb:Ft (fun s=>aN s=true) (2*(1+u)) (d+3) (gl (aW 3 (dk 1) (cH 9 (av nm d e).1)) 2):=(by first|exact L.oP oM oM|(have q_:=L.oP (n:=2) kD kD;rw[dH] at q_;exact q_));refine eC 6 147 a (fun _ _ a=>dW 6 U b6 (av nm d e).2 (gl (aW 3 (dk 1) (cH 9 (av nm d e).1)) 2) (3*d+4) V (C.up (nR _) (show (3*d+4)<=(3*d+4) by omega)) (2*(1+u)) (bb.up (nR _) (show (d+3)<=(3*d+4) by omega)) (.inr (.inr (.inr rfl))) oM oM _ _ a.g ((a.f.q.r.1).mono oM) ((a.f.1).mono oM) a.f.q.q.1) ?_;rintro _ _ _ _ _ a ⟨B,rfl,cc⟩;replace a:=(a.add (K:=fun y=>TmH (3*d+4+1) y B (aW 6 (av nm d e).2 (gl (aW 3 (dk 1) (cH 9 (av nm d e).1)) 2))) cc);have c7:Ft (fun s=>aN s=true) (V+(2*(1+u))) (3*d+4+1) (aW 6 (av nm d e).2 (gl (aW 3 (dk 1) (cH 9 (av nm d e).1)) 2)):=(C.up (nR _) (show (3*d+4)<=(3*d+4) by omega)).o2 (bb.up (nR _) (show (d+3)<=(3*d+4) by omega)) (.inr (.inr (.inr rfl)));refine bY a (fun _ _ a=>tP 7 4 0 (aI B) a (fun _ a=>tN (cQ (mq ⟨[],none⟩ 0 mixed ?_))));replace a:=a.drew;refine uA 0 182 [(5,0,9)] (ar ps) 1 183 [(4,0,9)] (ar B) a ?_ ?_
     .
      refine uB 1 183 [(4,0,9)] (ar B) 2 5 0 (aI ps) a ?_ (fun _ a=>?_)
      .
       exact tP 2 5 0 (aI ps) a (fun _ a=>tP 3 4 0 (aI B) a (fun _ a=>tN (kX (a.ret [(5,0,9),(4,0,9)] (.tuple #[ar ps,ar B]) (⟨_,_,rfl,(by rw[bP];exact a.f.q.1),(by rw[bP];show TmH _ _ _ (bW op n _ _ _ _);first|(rw[dg oM oM];exact (a.f.1).mono oM)|(rw[d7 oM oM];exact (a.f.1).mono oM)|(rw[show op=7 by omega];exact (a.f.1).mono oM)|(rw[show op=9 by omega];exact (a.f.1).mono oM)|(rw[show op=10 by omega];exact (a.f.1).mono oM)|(rw[show op=11 by omega];exact (a.f.1).mono oM))⟩)))))
      exact tO 1 183 [(4,0,9)] (ar B) a (tP 3 4 0 (aI B) a (fun _ a=>tN (kX (a.ret [(5,0,9),(4,0,9)] (.tuple #[ar ps,ar B]) (⟨_,_,rfl,(by rw[bP];exact a.f.q.1),(by rw[bP];show TmH _ _ _ (bW op n _ _ _ _);first|(rw[dg oM oM];exact (a.f.1).mono oM)|(rw[d7 oM oM];exact (a.f.1).mono oM)|(rw[show op=7 by omega];exact (a.f.1).mono oM)|(rw[show op=9 by omega];exact (a.f.1).mono oM)|(rw[show op=10 by omega];exact (a.f.1).mono oM)|(rw[show op=11 by omega];exact (a.f.1).mono oM))⟩)))))
     exact tO 0 182 [(5,0,9)] (ar ps) a (tP 2 5 0 (aI ps) a (fun _ a=>tP 3 4 0 (aI B) a (fun _ a=>tN (kX (a.ret [(5,0,9),(4,0,9)] (.tuple #[ar ps,ar B]) (⟨_,_,rfl,(by rw[bP];exact a.f.q.1),(by rw[bP];show TmH _ _ _ (bW op n _ _ _ _);first|(rw[dg oM oM];exact (a.f.1).mono oM)|(rw[d7 oM oM];exact (a.f.1).mono oM)|(rw[show op=7 by omega];exact (a.f.1).mono oM)|(rw[show op=9 by omega];exact (a.f.1).mono oM)|(rw[show op=10 by omega];exact (a.f.1).mono oM)|(rw[show op=11 by omega];exact (a.f.1).mono oM))⟩))))))
    have zq:=eq_of_beq ze;refine lB 127 ze (lL a ac (au (aa a [.o (ar H) 3 0 9] (lC 129 a (vS 9 H (av nm d e).1 d u J (.inr rfl) oM oM _ _ a.g a.f.q.1 a.f.q.2.1) ?_))));rintro _ _ _ a ⟨F,rfl,cp⟩;replace a:=(a.add (K:=fun y=>TmH (d+1) y F (cH 9 (av nm d e).1)) cp);have I:Ft (fun s=>aN s=true) u (d+1) (cH 9 (av nm d e).1):=J.o1 (.inr rfl);refine lA 11 32 a2 a (fun b71 _ _ a=>lP 0 0 (aI F) a (fun _ a=>lN (cR 9 [] mixed a aq ?_)));refine eO 0 130 [(3,0,9)] (ar U) a (eO 1 131 [(0,0,9)] (ar F) a (eO 2 132 [(4,0,9)] (ar H) a (eO 5 135 [(0,0,9)] (ar F) a (eC 3 133 a (fun _ _ a=>dW 3 F H (cH 9 (av nm d e).1) (av nm d e).1 (d+1) u (I.up (nR _) (show (d+1)<=(d+1) by omega)) u (J.up (nR _) (show d<=(d+1) by omega)) (.inl rfl) oM oM _ _ a.g ((a.f.1).mono oM) ((a.f.q.2.1).mono oM) a.f.q.r.1) ?_))));rintro _ _ _ _ _ a ⟨b2,rfl,cm⟩;replace a:=(a.add (K:=fun y=>TmH (d+2) y b2 (aW 3 (cH 9 (av nm d e).1) (av nm d e).1)) cm);have Z:Ft (fun s=>aN s=true) (u+u) (d+2) (aW 3 (cH 9 (av nm d e).1) (av nm d e).1):=(I.up (nR _) (show (d+1)<=(d+1) by omega)).o2 (J.up (nR _) (show d<=(d+1) by omega)) (.inl rfl);refine ai 4 134 a (fun _ _ a=>fA 2 oM oM _ _ a.g) (fun _ _ a=>eC 6 136 a (fun _ _ a=>dW 5 (⟨1,0,((2:Int):Rat),⟨#[]⟩,none,0,0⟩:PTm) F (dk 2) (cH 9 (av nm d e).1) (d+1) 1 ((Ft.num (D:=d) (LQ.int oM oM)).up (nR _) (show (d+1)<=(d+1) by omega)) u (I.up (nR _) (show (d+1)<=(d+1) by omega)) (.inr (.inr (.inl rfl))) oM oM _ _ a.g ((bJ (d:=d)).mono oM) ((a.f.2.1).mono oM) a.f.q.r.2.1) ?_);rintro _ _ _ _ _ a ⟨b0,rfl,cw⟩;replace a:=(a.add (K:=fun y=>TmH (d+2) y b0 (aW 5 (dk 2) (cH 9 (av nm d e).1))) cw);have bl:Ft (fun s=>aN s=true) (1+u) (d+2) (aW 5 (dk 2) (cH 9 (av nm d e).1)):=((Ft.num (D:=d) (LQ.int oM oM)).up (nR _) (show (d+1)<=(d+1) by omega)).o2 (I.up (nR _) (show (d+1)<=(d+1) by omega)) (.inr (.inr (.inl rfl)));refine eC 7 137 a (fun _ _ a=>dW 6 b2 b0 (aW 3 (cH 9 (av nm d e).1) (av nm d e).1) (aW 5 (dk 2) (cH 9 (av nm d e).1)) (d+2) (u+u) (Z.up (nR _) (show (d+2)<=(d+2) by omega)) (1+u) (bl.up (nR _) (show (d+2)<=(d+2) by omega)) (.inr (.inr (.inr rfl))) oM oM _ _ a.g ((a.f.2.1).mono oM) ((a.f.1).mono oM) a.f.q.q.1) ?_;rintro _ _ _ _ _ a ⟨b9,rfl,cx⟩;replace a:=(a.add (K:=fun y=>TmH (d+3) y b9 (aW 6 (aW 3 (cH 9 (av nm d e).1) (av nm d e).1) (aW 5 (dk 2) (cH 9 (av nm d e).1)))) cx);have X:Ft (fun s=>aN s=true) ((u+u)+(1+u)) (d+3) (aW 6 (aW 3 (cH 9 (av nm d e).1) (av nm d e).1) (aW 5 (dk 2) (cH 9 (av nm d e).1))):=(Z.up (nR _) (show (d+2)<=(d+2) by omega)).o2 (bl.up (nR _) (show (d+2)<=(d+2) by omega)) (.inr (.inr (.inr rfl)));refine eC 8 138 a (fun _ _ a=>dW 5 U b9 (av nm d e).2 (aW 6 (aW 3 (cH 9 (av nm d e).1) (av nm d e).1) (aW 5 (dk 2) (cH 9 (av nm d e).1))) (3*d+4) V (C.up (nR _) (show (3*d+4)<=(3*d+4) by omega)) ((u+u)+(1+u)) (X.up (nR _) (show (d+3)<=(3*d+4) by omega)) (.inr (.inr (.inl rfl))) oM oM _ _ a.g ((a.f.q.r.2.1).mono oM) ((a.f.1).mono oM) a.f.q.q.2.1) ?_;rintro _ _ _ _ _ a ⟨z,rfl,cr⟩;replace a:=(a.add (K:=fun y=>TmH (3*d+4+1) y z (aW 5 (av nm d e).2 (aW 6 (aW 3 (cH 9 (av nm d e).1) (av nm d e).1) (aW 5 (dk 2) (cH 9 (av nm d e).1))))) cr);have c4:Ft (fun s=>aN s=true) (V+((u+u)+(1+u))) (3*d+4+1) (aW 5 (av nm d e).2 (aW 6 (aW 3 (cH 9 (av nm d e).1) (av nm d e).1) (aW 5 (dk 2) (cH 9 (av nm d e).1)))):=(C.up (nR _) (show (3*d+4)<=(3*d+4) by omega)).o2 (X.up (nR _) (show (d+3)<=(3*d+4) by omega)) (.inr (.inr (.inl rfl)));refine bY a (fun _ _ a=>tP 9 5 0 (aI z) a (fun _ a=>tN (cQ (mq ⟨[],none⟩ 0 mixed ?_))));replace a:=a.drew;refine uA 0 182 [(6,0,9)] (ar ps) 1 183 [(5,0,9)] (ar z) a ?_ ?_
    .
     refine uB 1 183 [(5,0,9)] (ar z) 2 6 0 (aI ps) a ?_ (fun _ a=>?_)
     .
      exact tP 2 6 0 (aI ps) a (fun _ a=>tP 3 5 0 (aI z) a (fun _ a=>tN (kX (a.ret [(6,0,9),(5,0,9)] (.tuple #[ar ps,ar z]) (⟨_,_,rfl,(by rw[bP];exact a.f.q.2.1),(by rw[bP];show TmH _ _ _ (bW op n _ _ _ _);first|(rw[dg oM oM];exact (a.f.1).mono oM)|(rw[d7 oM oM];exact (a.f.1).mono oM)|(rw[show op=7 by omega];exact (a.f.1).mono oM)|(rw[show op=9 by omega];exact (a.f.1).mono oM)|(rw[show op=10 by omega];exact (a.f.1).mono oM)|(rw[show op=11 by omega];exact (a.f.1).mono oM))⟩)))))
     exact tO 1 183 [(5,0,9)] (ar z) a (tP 3 5 0 (aI z) a (fun _ a=>tN (kX (a.ret [(6,0,9),(5,0,9)] (.tuple #[ar ps,ar z]) (⟨_,_,rfl,(by rw[bP];exact a.f.q.2.1),(by rw[bP];show TmH _ _ _ (bW op n _ _ _ _);first|(rw[dg oM oM];exact (a.f.1).mono oM)|(rw[d7 oM oM];exact (a.f.1).mono oM)|(rw[show op=7 by omega];exact (a.f.1).mono oM)|(rw[show op=9 by omega];exact (a.f.1).mono oM)|(rw[show op=10 by omega];exact (a.f.1).mono oM)|(rw[show op=11 by omega];exact (a.f.1).mono oM))⟩)))))
    exact tO 0 182 [(6,0,9)] (ar ps) a (tP 2 6 0 (aI ps) a (fun _ a=>tP 3 5 0 (aI z) a (fun _ a=>tN (kX (a.ret [(6,0,9),(5,0,9)] (.tuple #[ar ps,ar z]) (⟨_,_,rfl,(by rw[bP];exact a.f.q.2.1),(by rw[bP];show TmH _ _ _ (bW op n _ _ _ _);first|(rw[dg oM oM];exact (a.f.1).mono oM)|(rw[d7 oM oM];exact (a.f.1).mono oM)|(rw[show op=7 by omega];exact (a.f.1).mono oM)|(rw[show op=9 by omega];exact (a.f.1).mono oM)|(rw[show op=10 by omega];exact (a.f.1).mono oM)|(rw[show op=11 by omega];exact (a.f.1).mono oM))⟩))))))
   have zp:=eq_of_beq zd;refine lB 119 zd (lL a ac (au (cR 6 [] mixed a aq ?_)));refine eO 0 120 [(2,0,9)] (ar U) a (eO 1 121 [(3,0,9)] (ar H) a (eO 2 122 [(3,0,9)] (ar H) a (eC 3 123 a (fun _ _ a=>vS 9 H (av nm d e).1 d u J (.inr rfl) oM oM _ _ a.g a.f.q.1 a.f.q.2.1) ?_)));rintro _ _ _ _ _ a ⟨cb,rfl,cd⟩;replace a:=(a.add (K:=fun y=>TmH (d+1) y cb (cH 9 (av nm d e).1)) cd);have Y:Ft (fun s=>aN s=true) u (d+1) (cH 9 (av nm d e).1):=J.o1 (.inr rfl);refine eC 4 124 a (fun _ _ a=>dW 6 H cb (av nm d e).1 (cH 9 (av nm d e).1) (d+1) u (J.up (nR _) (show d<=(d+1) by omega)) u (Y.up (nR _) (show (d+1)<=(d+1) by omega)) (.inr (.inr (.inr rfl))) oM oM _ _ a.g ((a.f.q.2.1).mono oM) ((a.f.1).mono oM) a.f.q.r.1) ?_;rintro _ _ _ _ _ a ⟨W,rfl,bx⟩;replace a:=(a.add (K:=fun y=>TmH (d+2) y W (aW 6 (av nm d e).1 (cH 9 (av nm d e).1))) bx);have O:Ft (fun s=>aN s=true) (u+u) (d+2) (aW 6 (av nm d e).1 (cH 9 (av nm d e).1)):=(J.up (nR _) (show d<=(d+1) by omega)).o2 (Y.up (nR _) (show (d+1)<=(d+1) by omega)) (.inr (.inr (.inr rfl)));refine eC 5 125 a (fun _ _ a=>dW 5 U W (av nm d e).2 (aW 6 (av nm d e).1 (cH 9 (av nm d e).1)) (3*d+4) V (C.up (nR _) (show (3*d+4)<=(3*d+4) by omega)) (u+u) (O.up (nR _) (show (d+2)<=(3*d+4) by omega)) (.inr (.inr (.inl rfl))) oM oM _ _ a.g ((a.f.q.2.1).mono oM) ((a.f.1).mono oM) a.f.q.r.2.1) ?_;rintro _ _ _ _ _ a ⟨i,rfl,bq⟩;replace a:=(a.add (K:=fun y=>TmH (3*d+4+1) y i (aW 5 (av nm d e).2 (aW 6 (av nm d e).1 (cH 9 (av nm d e).1)))) bq);have c3:Ft (fun s=>aN s=true) (V+(u+u)) (3*d+4+1) (aW 5 (av nm d e).2 (aW 6 (av nm d e).1 (cH 9 (av nm d e).1))):=(C.up (nR _) (show (3*d+4)<=(3*d+4) by omega)).o2 (O.up (nR _) (show (d+2)<=(3*d+4) by omega)) (.inr (.inr (.inl rfl)));refine bY a (fun _ _ a=>tP 6 4 0 (aI i) a (fun _ a=>tN (cQ (mq ⟨[],none⟩ 0 mixed ?_))));replace a:=a.drew;refine uA 0 182 [(5,0,9)] (ar ps) 1 183 [(4,0,9)] (ar i) a ?_ ?_
   .
    refine uB 1 183 [(4,0,9)] (ar i) 2 5 0 (aI ps) a ?_ (fun _ a=>?_)
    .
     exact tP 2 5 0 (aI ps) a (fun _ a=>tP 3 4 0 (aI i) a (fun _ a=>tN (kX (a.ret [(5,0,9),(4,0,9)] (.tuple #[ar ps,ar i]) (⟨_,_,rfl,(by rw[bP];exact a.f.r.2.1),(by rw[bP];show TmH _ _ _ (bW op n _ _ _ _);first|(rw[dg oM oM];exact (a.f.1).mono oM)|(rw[d7 oM oM];exact (a.f.1).mono oM)|(rw[show op=7 by omega];exact (a.f.1).mono oM)|(rw[show op=9 by omega];exact (a.f.1).mono oM)|(rw[show op=10 by omega];exact (a.f.1).mono oM)|(rw[show op=11 by omega];exact (a.f.1).mono oM))⟩)))))
    exact tO 1 183 [(4,0,9)] (ar i) a (tP 3 4 0 (aI i) a (fun _ a=>tN (kX (a.ret [(5,0,9),(4,0,9)] (.tuple #[ar ps,ar i]) (⟨_,_,rfl,(by rw[bP];exact a.f.r.2.1),(by rw[bP];show TmH _ _ _ (bW op n _ _ _ _);first|(rw[dg oM oM];exact (a.f.1).mono oM)|(rw[d7 oM oM];exact (a.f.1).mono oM)|(rw[show op=7 by omega];exact (a.f.1).mono oM)|(rw[show op=9 by omega];exact (a.f.1).mono oM)|(rw[show op=10 by omega];exact (a.f.1).mono oM)|(rw[show op=11 by omega];exact (a.f.1).mono oM))⟩)))))
   exact tO 0 182 [(5,0,9)] (ar ps) a (tP 2 5 0 (aI ps) a (fun _ a=>tP 3 4 0 (aI i) a (fun _ a=>tN (kX (a.ret [(5,0,9),(4,0,9)] (.tuple #[ar ps,ar i]) (⟨_,_,rfl,(by rw[bP];exact a.f.r.2.1),(by rw[bP];show TmH _ _ _ (bW op n _ _ _ _);first|(rw[dg oM oM];exact (a.f.1).mono oM)|(rw[d7 oM oM];exact (a.f.1).mono oM)|(rw[show op=7 by omega];exact (a.f.1).mono oM)|(rw[show op=9 by omega];exact (a.f.1).mono oM)|(rw[show op=10 by omega];exact (a.f.1).mono oM)|(rw[show op=11 by omega];exact (a.f.1).mono oM))⟩))))))
  have zo:=eq_of_beq zc;refine lB 102 zc (lL a ac (au (aD (am 103 a (fA 0 oM oM _ _ a.g) (fun _ _ a=>lP 4 0 (aI (⟨1,0,((0:Int):Rat),⟨#[]⟩,none,0,0⟩:PTm)) a (fun _ a=>aR (lL a [.v (qP b1 1),.o (iV n) 6 1 1] ?_)))))));cases za:((n:Int) != (0:Int))
  .
   have zm:=aY za;refine lB 106 za (ah (cK (cQ (mq ⟨[],none⟩ 0 mixed ?_))));replace a:=a.drew;refine uA 0 182 [(5,0,9)] (ar ps) 1 183 [(4,0,9)] (ar (⟨1,0,((0:Int):Rat),⟨#[]⟩,none,0,0⟩:PTm)) a ?_ ?_
   .
    refine uB 1 183 [(4,0,9)] (ar (⟨1,0,((0:Int):Rat),⟨#[]⟩,none,0,0⟩:PTm)) 2 5 0 (aI ps) a ?_ (fun _ a=>?_)
    .
     exact tP 2 5 0 (aI ps) a (fun _ a=>tP 3 4 0 (aI (⟨1,0,((0:Int):Rat),⟨#[]⟩,none,0,0⟩:PTm)) a (fun _ a=>tN (kX (a.ret [(5,0,9),(4,0,9)] (.tuple #[ar ps,ar (⟨1,0,((0:Int):Rat),⟨#[]⟩,none,0,0⟩:PTm)]) (⟨_,_,rfl,(by rw[bP];exact a.f.1),(by rw[bP];show TmH _ _ _ (bW op n _ _ _ _);first|(rw[dg oM oM];exact ((bJ (d:=d))).mono oM)|(rw[d7 oM oM];exact ((bJ (d:=d))).mono oM)|(rw[show op=7 by omega];exact ((bJ (d:=d))).mono oM)|(rw[show op=9 by omega];exact ((bJ (d:=d))).mono oM)|(rw[show op=10 by omega];exact ((bJ (d:=d))).mono oM)|(rw[show op=11 by omega];exact ((bJ (d:=d))).mono oM))⟩)))))
    exact tO 1 183 [(4,0,9)] (ar (⟨1,0,((0:Int):Rat),⟨#[]⟩,none,0,0⟩:PTm)) a (tP 3 4 0 (aI (⟨1,0,((0:Int):Rat),⟨#[]⟩,none,0,0⟩:PTm)) a (fun _ a=>tN (kX (a.ret [(5,0,9),(4,0,9)] (.tuple #[ar ps,ar (⟨1,0,((0:Int):Rat),⟨#[]⟩,none,0,0⟩:PTm)]) (⟨_,_,rfl,(by rw[bP];exact a.f.1),(by rw[bP];show TmH _ _ _ (bW op n _ _ _ _);first|(rw[dg oM oM];exact ((bJ (d:=d))).mono oM)|(rw[d7 oM oM];exact ((bJ (d:=d))).mono oM)|(rw[show op=7 by omega];exact ((bJ (d:=d))).mono oM)|(rw[show op=9 by omega];exact ((bJ (d:=d))).mono oM)|(rw[show op=10 by omega];exact ((bJ (d:=d))).mono oM)|(rw[show op=11 by omega];exact ((bJ (d:=d))).mono oM))⟩)))))
   exact tO 0 182 [(5,0,9)] (ar ps) a (tP 2 5 0 (aI ps) a (fun _ a=>tP 3 4 0 (aI (⟨1,0,((0:Int):Rat),⟨#[]⟩,none,0,0⟩:PTm)) a (fun _ a=>tN (kX (a.ret [(5,0,9),(4,0,9)] (.tuple #[ar ps,ar (⟨1,0,((0:Int):Rat),⟨#[]⟩,none,0,0⟩:PTm)]) (⟨_,_,rfl,(by rw[bP];exact a.f.1),(by rw[bP];show TmH _ _ _ (bW op n _ _ _ _);first|(rw[dg oM oM];exact ((bJ (d:=d))).mono oM)|(rw[d7 oM oM];exact ((bJ (d:=d))).mono oM)|(rw[show op=7 by omega];exact ((bJ (d:=d))).mono oM)|(rw[show op=9 by omega];exact ((bJ (d:=d))).mono oM)|(rw[show op=10 by omega];exact ((bJ (d:=d))).mono oM)|(rw[show op=11 by omega];exact ((bJ (d:=d))).mono oM))⟩))))))
  have zm:=a6 za;refine lB 106 za (au (cR 11 [] mixed a aq ?_));refine eV 0 107 (qP b1 1) (eO 1 108 [(6,1,1)] (iV n) a (eO 3 110 [(3,0,9)] (ar H) a (eV 4 111 (qP b1 1) (eO 5 112 [(6,1,1)] (iV n) a (eI 6 113 (n-1) (eO 9 116 [(2,0,9)] (ar U) a (ai 2 109 a (fun _ _ a=>fA n oM oM _ _ a.g) (fun _ _ a=>eC 7 114 a (fun _ _ a=>EN H (n-1) (av nm d e).1 d u J oM oM oM (by first|omega|(rw[dH];omega)) _ _ a.g a.f.q.1 a.f.q.2.1) ?_))))))));rintro _ _ _ _ _ a ⟨bf,rfl,bt⟩;replace a:=(a.add (K:=fun y=>TmH (d+1) y bf (gl (av nm d e).1 (n-1))) bt);have Q:Ft (fun s=>aN s=true) ((aG (n-1))*u) (d+1) (gl (av nm d e).1 (n-1)):=(by first|exact J.oP oM oM|(have q_:=J.oP (n:=2) kD kD;rw[dH] at q_;exact q_));refine eC 8 115 a (fun _ _ a=>dW 5 (⟨1,0,((n:Int):Rat),⟨#[]⟩,none,0,0⟩:PTm) bf (dk n) (gl (av nm d e).1 (n-1)) (d+1) 1 ((Ft.num (D:=d) (LQ.int oM oM)).up (nR _) (show (d+1)<=(d+1) by omega)) ((aG (n-1))*u) (Q.up (nR _) (show (d+1)<=(d+1) by omega)) (.inr (.inr (.inl rfl))) oM oM _ _ a.g ((bJ (d:=d)).mono oM) ((a.f.1).mono oM) a.f.q.r.1) ?_;rintro _ _ _ _ _ a ⟨bk,rfl,bm⟩;replace a:=(a.add (K:=fun y=>TmH (d+2) y bk (aW 5 (dk n) (gl (av nm d e).1 (n-1)))) bm);have S:Ft (fun s=>aN s=true) (1+((aG (n-1))*u)) (d+2) (aW 5 (dk n) (gl (av nm d e).1 (n-1))):=((Ft.num (D:=d) (LQ.int oM oM)).up (nR _) (show (d+1)<=(d+1) by omega)).o2 (Q.up (nR _) (show (d+1)<=(d+1) by omega)) (.inr (.inr (.inl rfl)));refine eC 10 117 a (fun _ _ a=>dW 5 bk U (aW 5 (dk n) (gl (av nm d e).1 (n-1))) (av nm d e).2 (3*d+4) (1+((aG (n-1))*u)) (S.up (nR _) (show (d+2)<=(3*d+4) by omega)) V (C.up (nR _) (show (3*d+4)<=(3*d+4) by omega)) (.inr (.inr (.inl rfl))) oM oM _ _ a.g ((a.f.1).mono oM) ((a.f.q.2.1).mono oM) a.f.q.r.2.1) ?_;rintro _ _ _ _ _ a ⟨j,rfl,bz⟩;replace a:=(a.add (K:=fun y=>TmH (3*d+4+1) y j (aW 5 (aW 5 (dk n) (gl (av nm d e).1 (n-1))) (av nm d e).2)) bz);have cy:Ft (fun s=>aN s=true) ((1+((aG (n-1))*u))+V) (3*d+4+1) (aW 5 (aW 5 (dk n) (gl (av nm d e).1 (n-1))) (av nm d e).2):=(S.up (nR _) (show (d+2)<=(3*d+4) by omega)).o2 (C.up (nR _) (show (3*d+4)<=(3*d+4) by omega)) (.inr (.inr (.inl rfl)));refine bY a (fun _ _ a=>tP 11 4 0 (aI j) a (fun _ a=>tN (cQ (mq ⟨[],none⟩ 0 mixed ?_))));replace a:=a.drew;refine uA 0 182 [(5,0,9)] (ar ps) 1 183 [(4,0,9)] (ar j) a ?_ ?_
  .
   refine uB 1 183 [(4,0,9)] (ar j) 2 5 0 (aI ps) a ?_ (fun _ a=>?_)
   .
    exact tP 2 5 0 (aI ps) a (fun _ a=>tP 3 4 0 (aI j) a (fun _ a=>tN (kX (a.ret [(5,0,9),(4,0,9)] (.tuple #[ar ps,ar j]) (⟨_,_,rfl,(by rw[bP];exact a.f.r.2.1),(by rw[bP];show TmH _ _ _ (bW op n _ _ _ _);first|(rw[dg oM oM];exact (a.f.1).mono oM)|(rw[d7 oM oM];exact (a.f.1).mono oM)|(rw[show op=7 by omega];exact (a.f.1).mono oM)|(rw[show op=9 by omega];exact (a.f.1).mono oM)|(rw[show op=10 by omega];exact (a.f.1).mono oM)|(rw[show op=11 by omega];exact (a.f.1).mono oM))⟩)))))
   exact tO 1 183 [(4,0,9)] (ar j) a (tP 3 4 0 (aI j) a (fun _ a=>tN (kX (a.ret [(5,0,9),(4,0,9)] (.tuple #[ar ps,ar j]) (⟨_,_,rfl,(by rw[bP];exact a.f.r.2.1),(by rw[bP];show TmH _ _ _ (bW op n _ _ _ _);first|(rw[dg oM oM];exact (a.f.1).mono oM)|(rw[d7 oM oM];exact (a.f.1).mono oM)|(rw[show op=7 by omega];exact (a.f.1).mono oM)|(rw[show op=9 by omega];exact (a.f.1).mono oM)|(rw[show op=10 by omega];exact (a.f.1).mono oM)|(rw[show op=11 by omega];exact (a.f.1).mono oM))⟩)))))
  exact tO 0 182 [(5,0,9)] (ar ps) a (tP 2 5 0 (aI ps) a (fun _ a=>tP 3 4 0 (aI j) a (fun _ a=>tN (kX (a.ret [(5,0,9),(4,0,9)] (.tuple #[ar ps,ar j]) (⟨_,_,rfl,(by rw[bP];exact a.f.r.2.1),(by rw[bP];show TmH _ _ _ (bW op n _ _ _ _);first|(rw[dg oM oM];exact (a.f.1).mono oM)|(rw[d7 oM oM];exact (a.f.1).mono oM)|(rw[show op=7 by omega];exact (a.f.1).mono oM)|(rw[show op=9 by omega];exact (a.f.1).mono oM)|(rw[show op=10 by omega];exact (a.f.1).mono oM)|(rw[show op=11 by omega];exact (a.f.1).mono oM))⟩))))))
 have zn:=eq_of_beq zb;refine lB 98 zb (lL a ac (au (kQ (lL a [.o (ar U) 2 0 9] (lC 100 a (vS 7 U (av nm d e).2 (3*d+4) V C (.inl rfl) oM oM _ _ a.g a.f.r.2.1 a.f.q.2.1) ?_)))));rintro _ _ _ a ⟨x,rfl,bn⟩;replace a:=(a.add (K:=fun y=>TmH (3*d+4+1) y x (cH 7 (av nm d e).2)) bn);have cz:Ft (fun s=>aN s=true) V (3*d+4+1) (cH 7 (av nm d e).2):=C.o1 (.inl rfl);refine lP 4 0 (aI x) a (fun _ a=>af (mq ⟨[],none⟩ 0 mixed ?_));replace a:=a.drew;refine uA 0 182 [(5,0,9)] (ar ps) 1 183 [(4,0,9)] (ar x) a ?_ ?_
 .
  refine uB 1 183 [(4,0,9)] (ar x) 2 5 0 (aI ps) a ?_ (fun _ a=>?_)
  .
   exact tP 2 5 0 (aI ps) a (fun _ a=>tP 3 4 0 (aI x) a (fun _ a=>tN (kX (a.ret [(5,0,9),(4,0,9)] (.tuple #[ar ps,ar x]) (⟨_,_,rfl,(by rw[bP];exact a.f.2.1),(by rw[bP];show TmH _ _ _ (bW op n _ _ _ _);first|(rw[dg oM oM];exact (a.f.1).mono oM)|(rw[d7 oM oM];exact (a.f.1).mono oM)|(rw[show op=7 by omega];exact (a.f.1).mono oM)|(rw[show op=9 by omega];exact (a.f.1).mono oM)|(rw[show op=10 by omega];exact (a.f.1).mono oM)|(rw[show op=11 by omega];exact (a.f.1).mono oM))⟩)))))
  exact tO 1 183 [(4,0,9)] (ar x) a (tP 3 4 0 (aI x) a (fun _ a=>tN (kX (a.ret [(5,0,9),(4,0,9)] (.tuple #[ar ps,ar x]) (⟨_,_,rfl,(by rw[bP];exact a.f.2.1),(by rw[bP];show TmH _ _ _ (bW op n _ _ _ _);first|(rw[dg oM oM];exact (a.f.1).mono oM)|(rw[d7 oM oM];exact (a.f.1).mono oM)|(rw[show op=7 by omega];exact (a.f.1).mono oM)|(rw[show op=9 by omega];exact (a.f.1).mono oM)|(rw[show op=10 by omega];exact (a.f.1).mono oM)|(rw[show op=11 by omega];exact (a.f.1).mono oM))⟩)))))
 exact tO 0 182 [(5,0,9)] (ar ps) a (tP 2 5 0 (aI ps) a (fun _ a=>tP 3 4 0 (aI x) a (fun _ a=>tN (kX (a.ret [(5,0,9),(4,0,9)] (.tuple #[ar ps,ar x]) (⟨_,_,rfl,(by rw[bP];exact a.f.2.1),(by rw[bP];show TmH _ _ _ (bW op n _ _ _ _);first|(rw[dg oM oM];exact (a.f.1).mono oM)|(rw[d7 oM oM];exact (a.f.1).mono oM)|(rw[show op=7 by omega];exact (a.f.1).mono oM)|(rw[show op=9 by omega];exact (a.f.1).mono oM)|(rw[show op=10 by omega];exact (a.f.1).mono oM)|(rw[show op=11 by omega];exact (a.f.1).mono oM))⟩))))))
theorem AF (nm:ByteArray)(d:Nat)(ih:∀ (p:PTm) (t:Tm) (w:World) (h:Hp),G w h->TmH d h p t->WfT1 (fun s=>aN s=true) d t->mQ d t->8*(d*ba d t)<=1000->Tab h->Calls Tryz.prog 33 #[ar p,.string nm] w (Ret w h (fun v h1=>∃ p1_ p2_,v=.tuple #[ar p1_,ar p2_]/\TmH d h1 p1_ (av nm d t).1/\TmH (3*d+4) h1 p2_ (av nm d t).2)))(op n:Int)(q:Rat)(s:ByteArray)(A:Z9)(c:Nat)(p1:PTm)(i:Tm)(hw1:WfT1 (fun s=>aN s=true) d i)(hy1:mQ d i)(hb1:8*(d*ba d i)<=1000)(p2:PTm)(e:Tm)(hw2:WfT1 (fun s=>aN s=true) d e)(hy2:mQ d e)(hb2:8*(d*ba d e)<=1000)(j O:Nat)(Q:Ft (fun s=>aN s=true) j d (av nm d i).1)(I:Ft (fun s=>aN s=true) O (3*d+4) (av nm d i).2)(wv ev:Nat)(L:Ft (fun s=>aN s=true) wv d (av nm d e).1)(J:Ft (fun s=>aN s=true) ev (3*d+4) (av nm d e).2)(M:Nat)(hM:j+wv<=M)(hW:O+ev+8*M<=1000)(hn_:Ft (fun s=>aN s=true) M (d+1) (.mk op n 0 ⟨#[]⟩ [(av nm d i).1,(av nm d e).1]))(h8w:op=8->aG (n-1)*j<=2*M)(hd:d+1<=4)(hop:op=3\/op=4\/op=5\/op=6\/op=12\/op=13)(hn1 : -11<=n)(hn2:n<=12)(w:World)(h:Hp)(g:G w h)(hK:SlO 9 aI aE h A ([p1,p2]:List PTm))(hp1:TmH d h p1 i)(hp2:TmH d h p2 e)(tb:Tab h):CR 33 #[ar ⟨op,n,q,s,A,2,c⟩,.string nm] w h (fun v h1=>∃ p1_ p2_,v=.tuple #[ar p1_,ar p2_]/\TmH (d+1) h1 p1_ (av nm (d+1) (.mk op n q s ([i,e]:List Tm))).1/\TmH (3*(d+1)+4) h1 p2_ (av nm (d+1) (.mk op n q s ([i,e]:List Tm))).2):=by
 have a:=(((((sS g).aS hK).add (K:=fun u=>TmH d u p1 i) hp1).add (K:=fun u=>TmH d u p2 e) hp2).add (K:=fun u=>Tab u) tb);have hln:([p1,p2]:List PTm).length=2:=rfl;have f7:=Q.1;have f6:=I.1;refine go Tryz.func33 [(0,ar ⟨op,n,q,s,A,2,c⟩),(1,.string nm)] rfl (aD (lA 2 32 (aI ⟨op,n,q,s,A,2,c⟩) a (fun b1 w2 h3 a=>lA 4 32 a2 a (fun b4 w5 h6 a=>lA 5 32 a2 a (fun b7 w8 h9 a=>af (aa a [.v (qP b1 8),.o (qS A 2 c) 2 8 1,.v (iV 2),.v qF] (ah (cK (aa a [.v (qP b1 8),.o (qS A 2 c) 2 8 1] (lX 32 A 2 c 9 0 0 ((a.f.r.2.1).ok oM) ?_))))))))));refine lH 33 (ar (([p1,p2]:List PTm).getD 0 aE)) a ((a.f.r.2.1).el 0 oM) (lL a ac (lC 35 a (ih (([p1,p2]:List PTm).getD 0 aE) i _ _ a.g a.f.r.1 hw1 hy1 hb1 a.f.1) ?_));rintro _ _ _ a ⟨H,S,rfl,hpu,hpd⟩;replace a:=((a.add (K:=fun u=>TmH d u H (av nm d i).1) hpu).add (K:=fun u=>TmH (3*d+4) u S (av nm d i).2) hpd);refine lL a [.c,.v (ar H),.v (ar S)] (lA 6 32 a2 a (fun zw _ _ a=>lA 7 32 a2 a (fun zx _ _ a=>lP 1 0 (aI H) a (fun _ a=>lP 0 0 (aI S) a (fun _ a=>aR (lL a [.o (ar H) 1 0 9] (lR 39 32 1 (pC H) a (fun zt _ _ a=>?_))))))));replace a:=a.aS (SlO.of_flat (sz:=9) (f:=aI) (d:=aE) (b:=zt) (o:=0) (l:=([H]:List PTm)) (fun _=>rfl) a.f.1);refine lL a ac (aR (lL a [.v (.agg #[iV 0,iV 0,qF,uV 0,eS,uV 0,eS,eS,sZ]),.v (.agg #[iV 0,iV 0,qF,uV 0,eS,uV 0,eS,eS,sZ])] (lA 9 32 a2 a (fun zA _ _ a=>lA 10 32 a2 a (fun zB _ _ a=>lP 1 0 a2 a (fun _ a=>lP 0 0 a2 a (fun _ a=>af (aa a [.v (qP b1 8),.o (qS A 2 c) 6 8 1,.v (iV 2),.v qT] (au (aa a [.v (qP b1 8),.o (qS A 2 c) 6 8 1] (lX 49 A 2 c 9 1 1 ((a.f.q.r.2.1).ok oM) ?_)))))))))));refine lH 50 (ar (([p1,p2]:List PTm).getD 1 aE)) a ((a.f.q.r.2.1).el 1 oM) (lL a ac (lC 52 a (ih (([p1,p2]:List PTm).getD 1 aE) e _ _ a.g a.f.q.2.1 hw2 hy2 hb2 a.f.q.1) ?_));rintro _ _ _ a ⟨F,U,rfl,hpv,hpe⟩;replace a:=((a.add (K:=fun u=>TmH d u F (av nm d e).1) hpv).add (K:=fun u=>TmH (3*d+4) u U (av nm d e).2) hpe);refine lL a [.c,.v (ar F),.v (ar U)] (lP 1 0 (aI F) a (fun _ a=>lP 0 0 (aI U) a (fun _ a=>lN (kQ (lL a [.c,.o (ar F) 1 0 9] (lR 57 32 1 (pC F) a (fun zu _ _ a=>?_)))))));replace a:=a.aS (SlO.of_flat (sz:=9) (f:=aI) (d:=aE) (b:=zu) (o:=0) (l:=([F]:List PTm)) (fun _=>rfl) a.f.1);refine JC 58 32 9 aI aE (sB zt) (sB zu) [H] [F] 1 112 (.agg #[iV 0,iV 0,qF,uV 0,eS,uV 0,eS,eS,sZ]) a a.f.q.1 a.f.1 (JO 0) (JO 0) (fun _ _=>by kernel_rfl) (fun zf zg _ _ a=>?_) (hm:=by show 1+1<=1099511627776;decide) (hb:=by show (1+1)*_<=140737488355328;decide);obtain ⟨_,a,zv⟩:=a.pubr 0 (A:=zf) (c:=zg) (l:=([H]++[F])) (f:=aI) (ty:=32) (sz:=9) aE (fun _=>rfl);refine lL a ac (lN (cj [(2,pB b1),(4,pB b4),(5,pB b7),(6,pB zw),(7,pB zx),(8,qS zf ((([H]++[F])).length) zg),(9,pB zA),(10,pB zB)] ?_));refine aa a [.v (pB b1),.o (iV op) 6 0 1,.v (qP b1 1),.o (iV n) 6 1 1,.c,.v (.agg #[iV op,iV n,qF,uV 0,eS,uV 0,eS,eS,qS zf ((([H]++[F])).length) zg])] (lC 65 a (pi d op n 0 ⟨#[]⟩ zf zg H (av nm d i).1 (i9 a.f.q.q.1) (ll a.f.q.q.1) (Q.wt oM) F (av nm d e).1 (i9 a.f.q.1) (ll a.f.q.1) (L.wt oM) oM (hn_.wt oM) (eu hn_.2.2 oM) hop _ _ a.g a.f.1 (TmH.mk (ps:=[H,F]) (F7 a.f.q.q.1 a.f.q.1) zv a.f.1) a.f.q.q.1 a.f.q.1 a.f.q.q.2.1) ?_);rintro _ _ _ a ⟨ps,rfl,hps⟩;replace a:=(a.add (K:=fun u=>TmH (d+1) u ps (cP (.mk op n 0 ⟨#[]⟩ [(av nm d i).1,(av nm d e).1]))) hps);refine lP 5 0 (aI ps) a (fun _ a=>af (aa a [.v (pB b1),.o (iV op) 6 0 1] (bh (cQ (aD ?_)))));cases za:((op:Int) == (3:Int))
 .
  have zo:=ag za;refine lB 69 za (lL a ac (ah (kQ ?_)));cases zb:((op:Int) == (4:Int))
  .
   have zp:=ag zb;refine lB 70 zb (lL a ac (ah (aD ?_)));cases zc:((op:Int) == (5:Int))
   .
    have zq:=ag zc;refine lB 77 zc (lL a ac (ah (aD ?_)));cases zd:((op:Int) == (6:Int))
    .
     have zr:=ag zd;refine lB 86 zd (lL a ac (ah (aD ?_)));have zi:((op:Int) == (7:Int))=false:=cD oM;have f0:=ag zi;refine lB 98 zi (lL a ac (ah (aD ?_)));have zj:((op:Int) == (8:Int))=false:=cD oM;have fn:=ag zj;refine lB 102 zj (lL a ac (ah (aD ?_)));have zk:((op:Int) == (9:Int))=false:=cD oM;have fp:=ag zk;refine lB 119 zk (lL a ac (ah (aD ?_)));have zl:((op:Int) == (10:Int))=false:=cD oM;have f3:=ag zl;refine lB 127 zl (lL a ac (ah (aD ?_)));have zm:((op:Int) == (11:Int))=false:=cD oM;have f2:=ag zm;refine lB 140 zm (lL a ac (ah (aD ?_)));cases ze:((op:Int) == (12:Int))
     .
      have zs:=ag ze;refine lB 149 ze (lL a ac (ah (aD ?_)));have zn:((op:Int) == (13:Int))=true:=kg oM;have ft:=eq_of_beq zn;refine lB 166 zn (lL a ac (au (cR 15 [] mixed a aq ?_)));refine eO 0 167 [(2,0,9)] (ar S) a (eO 1 168 [(1,0,9)] (ar F) a (eO 2 169 [(3,0,9)] (ar H) a (eO 3 170 [(3,0,9)] (ar H) a (eO 4 171 [(1,0,9)] (ar F) a (eO 7 174 [(0,0,9)] (ar U) a (eO 8 175 [(3,0,9)] (ar H) a (eO 9 176 [(1,0,9)] (ar F) a (eO 10 177 [(3,0,9)] (ar H) a (eO 11 178 [(1,0,9)] (ar F) a (eC 5 172 a (fun _ _ a=>th F H H F (av nm d e).1 (av nm d i).1 (av nm d i).1 (av nm d e).1 d wv L j Q j Q wv L oM oM _ _ a.g a.f.q.2.1 a.f.q.q.2.1 a.f.q.q.2.1 a.f.q.2.1 a.f.q.q.r.1) ?_))))))))));rintro _ _ _ _ _ a ⟨c6,rfl,dn⟩;replace a:=(a.add (K:=fun u=>TmH (d+4) u c6 (bK (av nm d e).1 (av nm d i).1 (av nm d i).1 (av nm d e).1)) dn);have bm:Ft (fun s=>aN s=true) (wv+j+(j+wv)+(1+(j+wv))) (d+4) (bK (av nm d e).1 (av nm d i).1 (av nm d i).1 (av nm d e).1):=Ft.over L Q Q L;refine eC 6 173 a (fun _ _ a=>dW 5 S c6 (av nm d i).2 (bK (av nm d e).1 (av nm d i).1 (av nm d i).1 (av nm d e).1) (3*d+4) O (I.up (nR _) (show (3*d+4)<=(3*d+4) by omega)) (wv+j+(j+wv)+(1+(j+wv))) (bm.up (nR _) (show (d+4)<=(3*d+4) by omega)) (.inr (.inr (.inl rfl))) oM oM _ _ a.g ((a.f.q.q.2.1).mono oM) ((a.f.1).mono oM) a.f.q.q.r.2.1) ?_;rintro _ _ _ _ _ a ⟨cx,rfl,c8⟩;replace a:=(a.add (K:=fun u=>TmH (3*d+4+1) u cx (aW 5 (av nm d i).2 (bK (av nm d e).1 (av nm d i).1 (av nm d i).1 (av nm d e).1))) c8);have bx:Ft (fun s=>aN s=true) (O+(wv+j+(j+wv)+(1+(j+wv)))) (3*d+4+1) (aW 5 (av nm d i).2 (bK (av nm d e).1 (av nm d i).1 (av nm d i).1 (av nm d e).1)):=(I.up (nR _) (show (3*d+4)<=(3*d+4) by omega)).o2 (bm.up (nR _) (show (d+4)<=(3*d+4) by omega)) (.inr (.inr (.inl rfl)));refine eC 12 179 a (fun _ _ a=>th H F H F (av nm d i).1 (av nm d e).1 (av nm d i).1 (av nm d e).1 d j Q wv L j Q wv L oM oM _ _ a.g a.f.q.q.r.2.1 a.f.q.r.2.1 a.f.q.q.r.2.1 a.f.q.r.2.1 a.f.q.q.q.1) ?_;rintro _ _ _ _ _ a ⟨cz,rfl,c7⟩;replace a:=(a.add (K:=fun u=>TmH (d+4) u cz (bK (av nm d i).1 (av nm d e).1 (av nm d i).1 (av nm d e).1)) c7);have bt:Ft (fun s=>aN s=true) (j+wv+(j+wv)+(1+(j+wv))) (d+4) (bK (av nm d i).1 (av nm d e).1 (av nm d i).1 (av nm d e).1):=Ft.over Q L Q L;refine eC 13 180 a (fun _ _ a=>dW 5 U cz (av nm d e).2 (bK (av nm d i).1 (av nm d e).1 (av nm d i).1 (av nm d e).1) (3*d+4) ev (J.up (nR _) (show (3*d+4)<=(3*d+4) by omega)) (j+wv+(j+wv)+(1+(j+wv))) (bt.up (nR _) (show (d+4)<=(3*d+4) by omega)) (.inr (.inr (.inl rfl))) oM oM _ _ a.g ((a.f.q.r.2.1).mono oM) ((a.f.1).mono oM) a.f.q.q.q.2.1) ?_;rintro _ _ _ _ _ a ⟨c3,rfl,dc⟩;replace a:=(a.add (K:=fun u=>TmH (3*d+4+1) u c3 (aW 5 (av nm d e).2 (bK (av nm d i).1 (av nm d e).1 (av nm d i).1 (av nm d e).1))) dc);have bq:Ft (fun s=>aN s=true) (ev+(j+wv+(j+wv)+(1+(j+wv)))) (3*d+4+1) (aW 5 (av nm d e).2 (bK (av nm d i).1 (av nm d e).1 (av nm d i).1 (av nm d e).1)):=(J.up (nR _) (show (3*d+4)<=(3*d+4) by omega)).o2 (bt.up (nR _) (show (d+4)<=(3*d+4) by omega)) (.inr (.inr (.inl rfl)));refine eC 14 181 a (fun _ _ a=>dW 3 cx c3 (aW 5 (av nm d i).2 (bK (av nm d e).1 (av nm d i).1 (av nm d i).1 (av nm d e).1)) (aW 5 (av nm d e).2 (bK (av nm d i).1 (av nm d e).1 (av nm d i).1 (av nm d e).1)) (3*d+4+1) (O+(wv+j+(j+wv)+(1+(j+wv)))) (bx.up (nR _) (show (3*d+4+1)<=(3*d+4+1) by omega)) (ev+(j+wv+(j+wv)+(1+(j+wv)))) (bq.up (nR _) (show (3*d+4+1)<=(3*d+4+1) by omega)) (.inl rfl) oM oM _ _ a.g ((a.f.r.1).mono oM) ((a.f.1).mono oM) a.f.q.q.q.r.1) ?_;rintro _ _ _ _ _ a ⟨D,rfl,ds⟩;replace a:=(a.add (K:=fun u=>TmH (3*d+4+2) u D (aW 3 (aW 5 (av nm d i).2 (bK (av nm d e).1 (av nm d i).1 (av nm d i).1 (av nm d e).1)) (aW 5 (av nm d e).2 (bK (av nm d i).1 (av nm d e).1 (av nm d i).1 (av nm d e).1)))) ds);have f1:Ft (fun s=>aN s=true) ((O+(wv+j+(j+wv)+(1+(j+wv))))+(ev+(j+wv+(j+wv)+(1+(j+wv))))) (3*d+4+2) (aW 3 (aW 5 (av nm d i).2 (bK (av nm d e).1 (av nm d i).1 (av nm d i).1 (av nm d e).1)) (aW 5 (av nm d e).2 (bK (av nm d i).1 (av nm d e).1 (av nm d i).1 (av nm d e).1))):=(bx.up (nR _) (show (3*d+4+1)<=(3*d+4+1) by omega)).o2 (bq.up (nR _) (show (3*d+4+1)<=(3*d+4+1) by omega)) (.inl rfl);refine bY a (fun _ _ a=>tP 15 4 0 (aI D) a (fun _ a=>tN (cj [(4,pB b4),(5,pB b7)] ?_)));refine cQ (mq ⟨[],none⟩ 0 mixed ?_);replace a:=a.drew;refine uA 0 182 [(5,0,9)] (ar ps) 1 183 [(4,0,9)] (ar D) a ?_ ?_
      .
       refine uB 1 183 [(4,0,9)] (ar D) 2 5 0 (aI ps) a ?_ (fun _ a=>?_)
       .
        exact tP 2 5 0 (aI ps) a (fun _ a=>tP 3 4 0 (aI D) a (fun _ a=>tN (kX (a.ret [(5,0,9),(4,0,9)] (.tuple #[ar ps,ar D]) (⟨_,_,rfl,(by rw[bO];exact a.f.q.2.1),(by rw[bO];show TmH _ _ _ (bW op n _ _ _ _);first|(rw[di oM];exact (a.f.1).mono oM)|(rw[show op=5 by omega];exact (a.f.1).mono oM)|(rw[show op=6 by omega];exact (a.f.1).mono oM)|(rw[show op=12 by omega];exact (a.f.1).mono oM)|(rw[show op=13 by omega];exact (a.f.1).mono oM))⟩)))))
       exact tO 1 183 [(4,0,9)] (ar D) a (tP 3 4 0 (aI D) a (fun _ a=>tN (kX (a.ret [(5,0,9),(4,0,9)] (.tuple #[ar ps,ar D]) (⟨_,_,rfl,(by rw[bO];exact a.f.q.2.1),(by rw[bO];show TmH _ _ _ (bW op n _ _ _ _);first|(rw[di oM];exact (a.f.1).mono oM)|(rw[show op=5 by omega];exact (a.f.1).mono oM)|(rw[show op=6 by omega];exact (a.f.1).mono oM)|(rw[show op=12 by omega];exact (a.f.1).mono oM)|(rw[show op=13 by omega];exact (a.f.1).mono oM))⟩)))))
      exact tO 0 182 [(5,0,9)] (ar ps) a (tP 2 5 0 (aI ps) a (fun _ a=>tP 3 4 0 (aI D) a (fun _ a=>tN (kX (a.ret [(5,0,9),(4,0,9)] (.tuple #[ar ps,ar D]) (⟨_,_,rfl,(by rw[bO];exact a.f.q.2.1),(by rw[bO];show TmH _ _ _ (bW op n _ _ _ _);first|(rw[di oM];exact (a.f.1).mono oM)|(rw[show op=5 by omega];exact (a.f.1).mono oM)|(rw[show op=6 by omega];exact (a.f.1).mono oM)|(rw[show op=12 by omega];exact (a.f.1).mono oM)|(rw[show op=13 by omega];exact (a.f.1).mono oM))⟩))))))
     have zs:=eq_of_beq ze;refine lB 149 ze (lL a ac (au (cR 15 [] mixed a aq ?_)));refine eO 0 150 [(2,0,9)] (ar S) a (eO 1 151 [(3,0,9)] (ar H) a (eO 2 152 [(1,0,9)] (ar F) a (eO 3 153 [(3,0,9)] (ar H) a (eO 4 154 [(1,0,9)] (ar F) a (eO 7 157 [(0,0,9)] (ar U) a (eO 8 158 [(1,0,9)] (ar F) a (eO 9 159 [(3,0,9)] (ar H) a (eO 10 160 [(3,0,9)] (ar H) a (eO 11 161 [(1,0,9)] (ar F) a (eC 5 155 a (fun _ _ a=>th H F H F (av nm d i).1 (av nm d e).1 (av nm d i).1 (av nm d e).1 d j Q wv L j Q wv L oM oM _ _ a.g a.f.q.q.2.1 a.f.q.2.1 a.f.q.q.2.1 a.f.q.2.1 a.f.q.q.r.1) ?_))))))))));rintro _ _ _ _ _ a ⟨c4,rfl,db⟩;replace a:=(a.add (K:=fun u=>TmH (d+4) u c4 (bK (av nm d i).1 (av nm d e).1 (av nm d i).1 (av nm d e).1)) db);have b2:Ft (fun s=>aN s=true) (j+wv+(j+wv)+(1+(j+wv))) (d+4) (bK (av nm d i).1 (av nm d e).1 (av nm d i).1 (av nm d e).1):=Ft.over Q L Q L;refine eC 6 156 a (fun _ _ a=>dW 5 S c4 (av nm d i).2 (bK (av nm d i).1 (av nm d e).1 (av nm d i).1 (av nm d e).1) (3*d+4) O (I.up (nR _) (show (3*d+4)<=(3*d+4) by omega)) (j+wv+(j+wv)+(1+(j+wv))) (b2.up (nR _) (show (d+4)<=(3*d+4) by omega)) (.inr (.inr (.inl rfl))) oM oM _ _ a.g ((a.f.q.q.2.1).mono oM) ((a.f.1).mono oM) a.f.q.q.r.2.1) ?_;rintro _ _ _ _ _ a ⟨cw,rfl,df⟩;replace a:=(a.add (K:=fun u=>TmH (3*d+4+1) u cw (aW 5 (av nm d i).2 (bK (av nm d i).1 (av nm d e).1 (av nm d i).1 (av nm d e).1))) df);have bf:Ft (fun s=>aN s=true) (O+(j+wv+(j+wv)+(1+(j+wv)))) (3*d+4+1) (aW 5 (av nm d i).2 (bK (av nm d i).1 (av nm d e).1 (av nm d i).1 (av nm d e).1)):=(I.up (nR _) (show (3*d+4)<=(3*d+4) by omega)).o2 (b2.up (nR _) (show (d+4)<=(3*d+4) by omega)) (.inr (.inr (.inl rfl)));refine eC 12 162 a (fun _ _ a=>th F H H F (av nm d e).1 (av nm d i).1 (av nm d i).1 (av nm d e).1 d wv L j Q j Q wv L oM oM _ _ a.g a.f.q.r.2.1 a.f.q.q.r.2.1 a.f.q.q.r.2.1 a.f.q.r.2.1 a.f.q.q.q.1) ?_;rintro _ _ _ _ _ a ⟨cy,rfl,dp⟩;replace a:=(a.add (K:=fun u=>TmH (d+4) u cy (bK (av nm d e).1 (av nm d i).1 (av nm d i).1 (av nm d e).1)) dp);have bn:Ft (fun s=>aN s=true) (wv+j+(j+wv)+(1+(j+wv))) (d+4) (bK (av nm d e).1 (av nm d i).1 (av nm d i).1 (av nm d e).1):=Ft.over L Q Q L;refine eC 13 163 a (fun _ _ a=>dW 5 U cy (av nm d e).2 (bK (av nm d e).1 (av nm d i).1 (av nm d i).1 (av nm d e).1) (3*d+4) ev (J.up (nR _) (show (3*d+4)<=(3*d+4) by omega)) (wv+j+(j+wv)+(1+(j+wv))) (bn.up (nR _) (show (d+4)<=(3*d+4) by omega)) (.inr (.inr (.inl rfl))) oM oM _ _ a.g ((a.f.q.r.2.1).mono oM) ((a.f.1).mono oM) a.f.q.q.q.2.1) ?_;rintro _ _ _ _ _ a ⟨c5,rfl,c9⟩;replace a:=(a.add (K:=fun u=>TmH (3*d+4+1) u c5 (aW 5 (av nm d e).2 (bK (av nm d e).1 (av nm d i).1 (av nm d i).1 (av nm d e).1))) c9);have bk:Ft (fun s=>aN s=true) (ev+(wv+j+(j+wv)+(1+(j+wv)))) (3*d+4+1) (aW 5 (av nm d e).2 (bK (av nm d e).1 (av nm d i).1 (av nm d i).1 (av nm d e).1)):=(J.up (nR _) (show (3*d+4)<=(3*d+4) by omega)).o2 (bn.up (nR _) (show (d+4)<=(3*d+4) by omega)) (.inr (.inr (.inl rfl)));refine eC 14 164 a (fun _ _ a=>dW 3 cw c5 (aW 5 (av nm d i).2 (bK (av nm d i).1 (av nm d e).1 (av nm d i).1 (av nm d e).1)) (aW 5 (av nm d e).2 (bK (av nm d e).1 (av nm d i).1 (av nm d i).1 (av nm d e).1)) (3*d+4+1) (O+(j+wv+(j+wv)+(1+(j+wv)))) (bf.up (nR _) (show (3*d+4+1)<=(3*d+4+1) by omega)) (ev+(wv+j+(j+wv)+(1+(j+wv)))) (bk.up (nR _) (show (3*d+4+1)<=(3*d+4+1) by omega)) (.inl rfl) oM oM _ _ a.g ((a.f.r.1).mono oM) ((a.f.1).mono oM) a.f.q.q.q.r.1) ?_;rintro _ _ _ _ _ a ⟨z,rfl,cf⟩;replace a:=(a.add (K:=fun u=>TmH (3*d+4+2) u z (aW 3 (aW 5 (av nm d i).2 (bK (av nm d i).1 (av nm d e).1 (av nm d i).1 (av nm d e).1)) (aW 5 (av nm d e).2 (bK (av nm d e).1 (av nm d i).1 (av nm d i).1 (av nm d e).1)))) cf);have fb:Ft (fun s=>aN s=true) ((O+(j+wv+(j+wv)+(1+(j+wv))))+(ev+(wv+j+(j+wv)+(1+(j+wv))))) (3*d+4+2) (aW 3 (aW 5 (av nm d i).2 (bK (av nm d i).1 (av nm d e).1 (av nm d i).1 (av nm d e).1)) (aW 5 (av nm d e).2 (bK (av nm d e).1 (av nm d i).1 (av nm d i).1 (av nm d e).1))):=(bf.up (nR _) (show (3*d+4+1)<=(3*d+4+1) by omega)).o2 (bk.up (nR _) (show (3*d+4+1)<=(3*d+4+1) by omega)) (.inl rfl);refine bY a (fun _ _ a=>tP 15 4 0 (aI z) a (fun _ a=>tN (cj [(4,pB b4),(5,pB b7)] ?_)));refine cQ (mq ⟨[],none⟩ 0 mixed ?_);replace a:=a.drew;refine uA 0 182 [(5,0,9)] (ar ps) 1 183 [(4,0,9)] (ar z) a ?_ ?_
     .
      refine uB 1 183 [(4,0,9)] (ar z) 2 5 0 (aI ps) a ?_ (fun _ a=>?_)
      .
       exact tP 2 5 0 (aI ps) a (fun _ a=>tP 3 4 0 (aI z) a (fun _ a=>tN (kX (a.ret [(5,0,9),(4,0,9)] (.tuple #[ar ps,ar z]) (⟨_,_,rfl,(by rw[bO];exact a.f.q.2.1),(by rw[bO];show TmH _ _ _ (bW op n _ _ _ _);first|(rw[di oM];exact (a.f.1).mono oM)|(rw[show op=5 by omega];exact (a.f.1).mono oM)|(rw[show op=6 by omega];exact (a.f.1).mono oM)|(rw[show op=12 by omega];exact (a.f.1).mono oM)|(rw[show op=13 by omega];exact (a.f.1).mono oM))⟩)))))
      exact tO 1 183 [(4,0,9)] (ar z) a (tP 3 4 0 (aI z) a (fun _ a=>tN (kX (a.ret [(5,0,9),(4,0,9)] (.tuple #[ar ps,ar z]) (⟨_,_,rfl,(by rw[bO];exact a.f.q.2.1),(by rw[bO];show TmH _ _ _ (bW op n _ _ _ _);first|(rw[di oM];exact (a.f.1).mono oM)|(rw[show op=5 by omega];exact (a.f.1).mono oM)|(rw[show op=6 by omega];exact (a.f.1).mono oM)|(rw[show op=12 by omega];exact (a.f.1).mono oM)|(rw[show op=13 by omega];exact (a.f.1).mono oM))⟩)))))
     exact tO 0 182 [(5,0,9)] (ar ps) a (tP 2 5 0 (aI ps) a (fun _ a=>tP 3 4 0 (aI z) a (fun _ a=>tN (kX (a.ret [(5,0,9),(4,0,9)] (.tuple #[ar ps,ar z]) (⟨_,_,rfl,(by rw[bO];exact a.f.q.2.1),(by rw[bO];show TmH _ _ _ (bW op n _ _ _ _);first|(rw[di oM];exact (a.f.1).mono oM)|(rw[show op=5 by omega];exact (a.f.1).mono oM)|(rw[show op=6 by omega];exact (a.f.1).mono oM)|(rw[show op=12 by omega];exact (a.f.1).mono oM)|(rw[show op=13 by omega];exact (a.f.1).mono oM))⟩))))))
    have zr:=eq_of_beq zd;refine lB 86 zd (lL a ac (au (cR 10 [] mixed a aq ?_)));refine eO 0 87 [(2,0,9)] (ar S) a (eO 1 88 [(1,0,9)] (ar F) a (eO 3 90 [(3,0,9)] (ar H) a (eO 4 91 [(0,0,9)] (ar U) a (eO 7 94 [(1,0,9)] (ar F) a (eC 2 89 a (fun _ _ a=>dW 5 S F (av nm d i).2 (av nm d e).1 (3*d+4) O (I.up (nR _) (show (3*d+4)<=(3*d+4) by omega)) wv (L.up (nR _) (show d<=(3*d+4) by omega)) (.inr (.inr (.inl rfl))) oM oM _ _ a.g ((a.f.q.q.1).mono oM) ((a.f.q.2.1).mono oM) a.f.q.q.r.1) ?_)))));rintro _ _ _ _ _ a ⟨bz,rfl,b6⟩;replace a:=(a.add (K:=fun u=>TmH (3*d+4+1) u bz (aW 5 (av nm d i).2 (av nm d e).1)) b6);have Z:Ft (fun s=>aN s=true) (O+wv) (3*d+4+1) (aW 5 (av nm d i).2 (av nm d e).1):=(I.up (nR _) (show (3*d+4)<=(3*d+4) by omega)).o2 (L.up (nR _) (show d<=(3*d+4) by omega)) (.inr (.inr (.inl rfl)));refine eC 5 92 a (fun _ _ a=>dW 5 H U (av nm d i).1 (av nm d e).2 (3*d+4) j (Q.up (nR _) (show d<=(3*d+4) by omega)) ev (J.up (nR _) (show (3*d+4)<=(3*d+4) by omega)) (.inr (.inr (.inl rfl))) oM oM _ _ a.g ((a.f.q.q.r.1).mono oM) ((a.f.q.2.1).mono oM) a.f.q.q.r.2.1) ?_;rintro _ _ _ _ _ a ⟨b0,rfl,cp⟩;replace a:=(a.add (K:=fun u=>TmH (3*d+4+1) u b0 (aW 5 (av nm d i).1 (av nm d e).2)) cp);have X:Ft (fun s=>aN s=true) (j+ev) (3*d+4+1) (aW 5 (av nm d i).1 (av nm d e).2):=(Q.up (nR _) (show d<=(3*d+4) by omega)).o2 (J.up (nR _) (show (3*d+4)<=(3*d+4) by omega)) (.inr (.inr (.inl rfl)));refine eC 6 93 a (fun _ _ a=>dW 4 bz b0 (aW 5 (av nm d i).2 (av nm d e).1) (aW 5 (av nm d i).1 (av nm d e).2) (3*d+4+1) (O+wv) (Z.up (nR _) (show (3*d+4+1)<=(3*d+4+1) by omega)) (j+ev) (X.up (nR _) (show (3*d+4+1)<=(3*d+4+1) by omega)) (.inr (.inl rfl)) oM oM _ _ a.g ((a.f.2.1).mono oM) ((a.f.1).mono oM) a.f.q.q.q.1) ?_;rintro _ _ _ _ _ a ⟨b3,rfl,cc⟩;replace a:=(a.add (K:=fun u=>TmH (3*d+4+2) u b3 (aW 4 (aW 5 (av nm d i).2 (av nm d e).1) (aW 5 (av nm d i).1 (av nm d e).2))) cc);have W:Ft (fun s=>aN s=true) ((O+wv)+(j+ev)) (3*d+4+2) (aW 4 (aW 5 (av nm d i).2 (av nm d e).1) (aW 5 (av nm d i).1 (av nm d e).2)):=(Z.up (nR _) (show (3*d+4+1)<=(3*d+4+1) by omega)).o2 (X.up (nR _) (show (3*d+4+1)<=(3*d+4+1) by omega)) (.inr (.inl rfl));refine eC 8 95 a (fun _ _ a=>EN F 2 (av nm d e).1 d wv L oM oM oM (by first|omega|(rw[dH];omega)) _ _ a.g a.f.q.q.1 a.f.q.q.q.2.1) ?_;rintro _ _ _ _ _ a ⟨b5,rfl,cd⟩;replace a:=(a.add (K:=fun u=>TmH (d+1) u b5 (gl (av nm d e).1 2)) cd);have Y:Ft (fun s=>aN s=true) (2*wv) (d+1) (gl (av nm d e).1 2):=(by first|exact L.oP oM oM|(have q_:=L.oP (n:=2) kD kD;rw[dH] at q_;exact q_));refine eC 9 96 a (fun _ _ a=>dW 6 b3 b5 (aW 4 (aW 5 (av nm d i).2 (av nm d e).1) (aW 5 (av nm d i).1 (av nm d e).2)) (gl (av nm d e).1 2) (3*d+4+2) ((O+wv)+(j+ev)) (W.up (nR _) (show (3*d+4+2)<=(3*d+4+2) by omega)) (2*wv) (Y.up (nR _) (show (d+1)<=(3*d+4+2) by omega)) (.inr (.inr (.inr rfl))) oM oM _ _ a.g ((a.f.2.1).mono oM) ((a.f.1).mono oM) a.f.q.q.q.r.1) ?_;rintro _ _ _ _ _ a ⟨C,rfl,cm⟩;replace a:=(a.add (K:=fun u=>TmH (3*d+4+3) u C (aW 6 (aW 4 (aW 5 (av nm d i).2 (av nm d e).1) (aW 5 (av nm d i).1 (av nm d e).2)) (gl (av nm d e).1 2))) cm);have d2:Ft (fun s=>aN s=true) (((O+wv)+(j+ev))+(2*wv)) (3*d+4+3) (aW 6 (aW 4 (aW 5 (av nm d i).2 (av nm d e).1) (aW 5 (av nm d i).1 (av nm d e).2)) (gl (av nm d e).1 2)):=(W.up (nR _) (show (3*d+4+2)<=(3*d+4+2) by omega)).o2 (Y.up (nR _) (show (d+1)<=(3*d+4+2) by omega)) (.inr (.inr (.inr rfl)));refine bY a (fun _ _ a=>tP 10 4 0 (aI C) a (fun _ a=>tN (cQ (mq ⟨[],none⟩ 0 mixed ?_))));replace a:=a.drew;refine uA 0 182 [(5,0,9)] (ar ps) 1 183 [(4,0,9)] (ar C) a ?_ ?_
    .
     refine uB 1 183 [(4,0,9)] (ar C) 2 5 0 (aI ps) a ?_ (fun _ a=>?_)
     .
      exact tP 2 5 0 (aI ps) a (fun _ a=>tP 3 4 0 (aI C) a (fun _ a=>tN (kX (a.ret [(5,0,9),(4,0,9)] (.tuple #[ar ps,ar C]) (⟨_,_,rfl,(by rw[bO];exact a.f.q.2.1),(by rw[bO];show TmH _ _ _ (bW op n _ _ _ _);first|(rw[di oM];exact (a.f.1).mono oM)|(rw[show op=5 by omega];exact (a.f.1).mono oM)|(rw[show op=6 by omega];exact (a.f.1).mono oM)|(rw[show op=12 by omega];exact (a.f.1).mono oM)|(rw[show op=13 by omega];exact (a.f.1).mono oM))⟩)))))
     exact tO 1 183 [(4,0,9)] (ar C) a (tP 3 4 0 (aI C) a (fun _ a=>tN (kX (a.ret [(5,0,9),(4,0,9)] (.tuple #[ar ps,ar C]) (⟨_,_,rfl,(by rw[bO];exact a.f.q.2.1),(by rw[bO];show TmH _ _ _ (bW op n _ _ _ _);first|(rw[di oM];exact (a.f.1).mono oM)|(rw[show op=5 by omega];exact (a.f.1).mono oM)|(rw[show op=6 by omega];exact (a.f.1).mono oM)|(rw[show op=12 by omega];exact (a.f.1).mono oM)|(rw[show op=13 by omega];exact (a.f.1).mono oM))⟩)))))
    exact tO 0 182 [(5,0,9)] (ar ps) a (tP 2 5 0 (aI ps) a (fun _ a=>tP 3 4 0 (aI C) a (fun _ a=>tN (kX (a.ret [(5,0,9),(4,0,9)] (.tuple #[ar ps,ar C]) (⟨_,_,rfl,(by rw[bO];exact a.f.q.2.1),(by rw[bO];show TmH _ _ _ (bW op n _ _ _ _);first|(rw[di oM];exact (a.f.1).mono oM)|(rw[show op=5 by omega];exact (a.f.1).mono oM)|(rw[show op=6 by omega];exact (a.f.1).mono oM)|(rw[show op=12 by omega];exact (a.f.1).mono oM)|(rw[show op=13 by omega];exact (a.f.1).mono oM))⟩))))))
   have zq:=eq_of_beq zc;refine lB 77 zc (lL a ac (au (cR 7 [] mixed a aq ?_)));refine eO 0 78 [(2,0,9)] (ar S) a (eO 1 79 [(1,0,9)] (ar F) a (eO 3 81 [(3,0,9)] (ar H) a (eO 4 82 [(0,0,9)] (ar U) a (eC 2 80 a (fun _ _ a=>dW 5 S F (av nm d i).2 (av nm d e).1 (3*d+4) O (I.up (nR _) (show (3*d+4)<=(3*d+4) by omega)) wv (L.up (nR _) (show d<=(3*d+4) by omega)) (.inr (.inr (.inl rfl))) oM oM _ _ a.g ((a.f.q.q.1).mono oM) ((a.f.q.2.1).mono oM) a.f.q.q.r.1) ?_))));rintro _ _ _ _ _ a ⟨bl,rfl,ch⟩;replace a:=(a.add (K:=fun u=>TmH (3*d+4+1) u bl (aW 5 (av nm d i).2 (av nm d e).1)) ch);have bb:Ft (fun s=>aN s=true) (O+wv) (3*d+4+1) (aW 5 (av nm d i).2 (av nm d e).1):=(I.up (nR _) (show (3*d+4)<=(3*d+4) by omega)).o2 (L.up (nR _) (show d<=(3*d+4) by omega)) (.inr (.inr (.inl rfl)));refine eC 5 83 a (fun _ _ a=>dW 5 H U (av nm d i).1 (av nm d e).2 (3*d+4) j (Q.up (nR _) (show d<=(3*d+4) by omega)) ev (J.up (nR _) (show (3*d+4)<=(3*d+4) by omega)) (.inr (.inr (.inl rfl))) oM oM _ _ a.g ((a.f.q.q.r.1).mono oM) ((a.f.q.2.1).mono oM) a.f.q.q.r.2.1) ?_;rintro _ _ _ _ _ a ⟨bd,rfl,cr⟩;replace a:=(a.add (K:=fun u=>TmH (3*d+4+1) u bd (aW 5 (av nm d i).1 (av nm d e).2)) cr);have V:Ft (fun s=>aN s=true) (j+ev) (3*d+4+1) (aW 5 (av nm d i).1 (av nm d e).2):=(Q.up (nR _) (show d<=(3*d+4) by omega)).o2 (J.up (nR _) (show (3*d+4)<=(3*d+4) by omega)) (.inr (.inr (.inl rfl)));refine eC 6 84 a (fun _ _ a=>dW 3 bl bd (aW 5 (av nm d i).2 (av nm d e).1) (aW 5 (av nm d i).1 (av nm d e).2) (3*d+4+1) (O+wv) (bb.up (nR _) (show (3*d+4+1)<=(3*d+4+1) by omega)) (j+ev) (V.up (nR _) (show (3*d+4+1)<=(3*d+4+1) by omega)) (.inl rfl) oM oM _ _ a.g ((a.f.2.1).mono oM) ((a.f.1).mono oM) a.f.q.q.q.1) ?_;rintro _ _ _ _ _ a ⟨y,rfl,cq⟩;replace a:=(a.add (K:=fun u=>TmH (3*d+4+2) u y (aW 3 (aW 5 (av nm d i).2 (av nm d e).1) (aW 5 (av nm d i).1 (av nm d e).2))) cq);have fm:Ft (fun s=>aN s=true) ((O+wv)+(j+ev)) (3*d+4+2) (aW 3 (aW 5 (av nm d i).2 (av nm d e).1) (aW 5 (av nm d i).1 (av nm d e).2)):=(bb.up (nR _) (show (3*d+4+1)<=(3*d+4+1) by omega)).o2 (V.up (nR _) (show (3*d+4+1)<=(3*d+4+1) by omega)) (.inl rfl);refine bY a (fun _ _ a=>tP 7 4 0 (aI y) a (fun _ a=>tN (cQ (mq ⟨[],none⟩ 0 mixed ?_))));replace a:=a.drew;refine uA 0 182 [(5,0,9)] (ar ps) 1 183 [(4,0,9)] (ar y) a ?_ ?_
   .
    refine uB 1 183 [(4,0,9)] (ar y) 2 5 0 (aI ps) a ?_ (fun _ a=>?_)
    .
     exact tP 2 5 0 (aI ps) a (fun _ a=>tP 3 4 0 (aI y) a (fun _ a=>tN (kX (a.ret [(5,0,9),(4,0,9)] (.tuple #[ar ps,ar y]) (⟨_,_,rfl,(by rw[bO];exact a.f.r.2.1),(by rw[bO];show TmH _ _ _ (bW op n _ _ _ _);first|(rw[di oM];exact (a.f.1).mono oM)|(rw[show op=5 by omega];exact (a.f.1).mono oM)|(rw[show op=6 by omega];exact (a.f.1).mono oM)|(rw[show op=12 by omega];exact (a.f.1).mono oM)|(rw[show op=13 by omega];exact (a.f.1).mono oM))⟩)))))
    exact tO 1 183 [(4,0,9)] (ar y) a (tP 3 4 0 (aI y) a (fun _ a=>tN (kX (a.ret [(5,0,9),(4,0,9)] (.tuple #[ar ps,ar y]) (⟨_,_,rfl,(by rw[bO];exact a.f.r.2.1),(by rw[bO];show TmH _ _ _ (bW op n _ _ _ _);first|(rw[di oM];exact (a.f.1).mono oM)|(rw[show op=5 by omega];exact (a.f.1).mono oM)|(rw[show op=6 by omega];exact (a.f.1).mono oM)|(rw[show op=12 by omega];exact (a.f.1).mono oM)|(rw[show op=13 by omega];exact (a.f.1).mono oM))⟩)))))
   exact tO 0 182 [(5,0,9)] (ar ps) a (tP 2 5 0 (aI ps) a (fun _ a=>tP 3 4 0 (aI y) a (fun _ a=>tN (kX (a.ret [(5,0,9),(4,0,9)] (.tuple #[ar ps,ar y]) (⟨_,_,rfl,(by rw[bO];exact a.f.r.2.1),(by rw[bO];show TmH _ _ _ (bW op n _ _ _ _);first|(rw[di oM];exact (a.f.1).mono oM)|(rw[show op=5 by omega];exact (a.f.1).mono oM)|(rw[show op=6 by omega];exact (a.f.1).mono oM)|(rw[show op=12 by omega];exact (a.f.1).mono oM)|(rw[show op=13 by omega];exact (a.f.1).mono oM))⟩))))))
  have zp:=eq_of_beq zb;refine lB 70 zb (lL a ac (au (kQ (lL a [.v (pB b1),.o (iV op) 6 0 1,.o (ar S) 2 0 9,.o (ar U) 0 0 9] (lC 75 a (dW op S U (av nm d i).2 (av nm d e).2 (3*d+4) O (I.up (nR _) (show (3*d+4)<=(3*d+4) by omega)) ev (J.up (nR _) (show (3*d+4)<=(3*d+4) by omega)) oM oM oM _ _ a.g ((a.f.q.q.1).mono oM) ((a.f.q.1).mono oM) a.f.q.q.r.1) ?_)))));rintro _ _ _ a ⟨B,rfl,b9⟩;replace a:=(a.add (K:=fun u=>TmH (3*d+4+1) u B (aW op (av nm d i).2 (av nm d e).2)) b9);have d1:Ft (fun s=>aN s=true) (O+ev) (3*d+4+1) (aW op (av nm d i).2 (av nm d e).2):=(I.up (nR _) (show (3*d+4)<=(3*d+4) by omega)).o2 (J.up (nR _) (show (3*d+4)<=(3*d+4) by omega)) oM;refine lP 4 0 (aI B) a (fun _ a=>af (mq ⟨[],none⟩ 0 mixed ?_));replace a:=a.drew;refine uA 0 182 [(5,0,9)] (ar ps) 1 183 [(4,0,9)] (ar B) a ?_ ?_
  .
   refine uB 1 183 [(4,0,9)] (ar B) 2 5 0 (aI ps) a ?_ (fun _ a=>?_)
   .
    exact tP 2 5 0 (aI ps) a (fun _ a=>tP 3 4 0 (aI B) a (fun _ a=>tN (kX (a.ret [(5,0,9),(4,0,9)] (.tuple #[ar ps,ar B]) (⟨_,_,rfl,(by rw[bO];exact a.f.2.1),(by rw[bO];show TmH _ _ _ (bW op n _ _ _ _);first|(rw[di oM];exact (a.f.1).mono oM)|(rw[show op=5 by omega];exact (a.f.1).mono oM)|(rw[show op=6 by omega];exact (a.f.1).mono oM)|(rw[show op=12 by omega];exact (a.f.1).mono oM)|(rw[show op=13 by omega];exact (a.f.1).mono oM))⟩)))))
   exact tO 1 183 [(4,0,9)] (ar B) a (tP 3 4 0 (aI B) a (fun _ a=>tN (kX (a.ret [(5,0,9),(4,0,9)] (.tuple #[ar ps,ar B]) (⟨_,_,rfl,(by rw[bO];exact a.f.2.1),(by rw[bO];show TmH _ _ _ (bW op n _ _ _ _);first|(rw[di oM];exact (a.f.1).mono oM)|(rw[show op=5 by omega];exact (a.f.1).mono oM)|(rw[show op=6 by omega];exact (a.f.1).mono oM)|(rw[show op=12 by omega];exact (a.f.1).mono oM)|(rw[show op=13 by omega];exact (a.f.1).mono oM))⟩)))))
  exact tO 0 182 [(5,0,9)] (ar ps) a (tP 2 5 0 (aI ps) a (fun _ a=>tP 3 4 0 (aI B) a (fun _ a=>tN (kX (a.ret [(5,0,9),(4,0,9)] (.tuple #[ar ps,ar B]) (⟨_,_,rfl,(by rw[bO];exact a.f.2.1),(by rw[bO];show TmH _ _ _ (bW op n _ _ _ _);first|(rw[di oM];exact (a.f.1).mono oM)|(rw[show op=5 by omega];exact (a.f.1).mono oM)|(rw[show op=6 by omega];exact (a.f.1).mono oM)|(rw[show op=12 by omega];exact (a.f.1).mono oM)|(rw[show op=13 by omega];exact (a.f.1).mono oM))⟩))))))
 have zo:=eq_of_beq za;refine lB 69 za (lL a ac (au (cK (cl (kQ (lL a [.v (pB b1),.o (iV op) 6 0 1,.o (ar S) 2 0 9,.o (ar U) 0 0 9] (lC 75 a (dW op S U (av nm d i).2 (av nm d e).2 (3*d+4) O (I.up (nR _) (show (3*d+4)<=(3*d+4) by omega)) ev (J.up (nR _) (show (3*d+4)<=(3*d+4) by omega)) oM oM oM _ _ a.g ((a.f.q.q.1).mono oM) ((a.f.q.1).mono oM) a.f.q.q.r.1) ?_)))))));rintro _ _ _ a ⟨x,rfl,cb⟩;replace a:=(a.add (K:=fun u=>TmH (3*d+4+1) u x (aW op (av nm d i).2 (av nm d e).2)) cb);have d0:Ft (fun s=>aN s=true) (O+ev) (3*d+4+1) (aW op (av nm d i).2 (av nm d e).2):=(I.up (nR _) (show (3*d+4)<=(3*d+4) by omega)).o2 (J.up (nR _) (show (3*d+4)<=(3*d+4) by omega)) oM;refine lP 4 0 (aI x) a (fun _ a=>af (mq ⟨[],none⟩ 0 mixed ?_));replace a:=a.drew;refine uA 0 182 [(5,0,9)] (ar ps) 1 183 [(4,0,9)] (ar x) a ?_ ?_
 .
  refine uB 1 183 [(4,0,9)] (ar x) 2 5 0 (aI ps) a ?_ (fun _ a=>?_)
  .
   exact tP 2 5 0 (aI ps) a (fun _ a=>tP 3 4 0 (aI x) a (fun _ a=>tN (kX (a.ret [(5,0,9),(4,0,9)] (.tuple #[ar ps,ar x]) (⟨_,_,rfl,(by rw[bO];exact a.f.2.1),(by rw[bO];show TmH _ _ _ (bW op n _ _ _ _);first|(rw[di oM];exact (a.f.1).mono oM)|(rw[show op=5 by omega];exact (a.f.1).mono oM)|(rw[show op=6 by omega];exact (a.f.1).mono oM)|(rw[show op=12 by omega];exact (a.f.1).mono oM)|(rw[show op=13 by omega];exact (a.f.1).mono oM))⟩)))))
  exact tO 1 183 [(4,0,9)] (ar x) a (tP 3 4 0 (aI x) a (fun _ a=>tN (kX (a.ret [(5,0,9),(4,0,9)] (.tuple #[ar ps,ar x]) (⟨_,_,rfl,(by rw[bO];exact a.f.2.1),(by rw[bO];show TmH _ _ _ (bW op n _ _ _ _);first|(rw[di oM];exact (a.f.1).mono oM)|(rw[show op=5 by omega];exact (a.f.1).mono oM)|(rw[show op=6 by omega];exact (a.f.1).mono oM)|(rw[show op=12 by omega];exact (a.f.1).mono oM)|(rw[show op=13 by omega];exact (a.f.1).mono oM))⟩)))))
 exact tO 0 182 [(5,0,9)] (ar ps) a (tP 2 5 0 (aI ps) a (fun _ a=>tP 3 4 0 (aI x) a (fun _ a=>tN (kX (a.ret [(5,0,9),(4,0,9)] (.tuple #[ar ps,ar x]) (⟨_,_,rfl,(by rw[bO];exact a.f.2.1),(by rw[bO];show TmH _ _ _ (bW op n _ _ _ _);first|(rw[di oM];exact (a.f.1).mono oM)|(rw[show op=5 by omega];exact (a.f.1).mono oM)|(rw[show op=6 by omega];exact (a.f.1).mono oM)|(rw[show op=12 by omega];exact (a.f.1).mono oM)|(rw[show op=13 by omega];exact (a.f.1).mono oM))⟩))))))
theorem Dj {d a M:Nat}(h:a<=M)(b:8*((d+1)*M)<=1000):8*(d*a)<=1000/\8*(d*a)+8*M<=1000:=by
 have k2:=y9 d h;have c:(d+1)*M=d*M+M:=Nat.succ_mul _ _
 omega
theorem Gl {op n:Int}{a M:Nat}(hM:br op n*a<=M):op=8->aG (n-1)*a<=2*M:=fun h=>by
 have e:br op n=aG n:=by unfold br;rw[if_neg oM,if_pos h]
 rw[e] at hM
 calc aG (n-1)*a<=2*aG n*a:=Nat.mul_le_mul_right _ (jo n)
  _=2*(aG n*a):=Nat.mul_assoc _ _ _
  _<=2*M:=y9 _ hM
theorem xT (nm:ByteArray):∀ (d:Nat) (p:PTm) (t:Tm) (w:World) (h:Hp),d<=4->G w h->TmH d h p t->WfT1 (fun s=>aN s=true) d t->mQ d t->8*(d*ba d t)<=1000->Tab h->Calls Tryz.prog 33 #[ar p,.string nm] w (Ret w h (fun v h1=>∃ j l,v=.tuple #[ar j,ar l]/\TmH d h1 j (av nm d t).1/\TmH (3*d+4) h1 l (av nm d t).2))
  | 0,_,_,_,_,_,_,x,_,_,_,_=>x.elim
  | d + 1,p,t,w,h,hd,g,x,wf,pw,hW,tb=>by
    obtain ⟨op,n,q,s,A,c,ps,ks,rfl,rfl,V,O,a⟩:=x.open;obtain ⟨w1,w2,w3,w4,U,y,z,e,D⟩:=id wf;obtain ⟨y1,F⟩:=pw;replace w1:dU op=(ks.length:Nat):=w1;replace y:op≠8->n=0:=y;replace z : -12<=n:=z;replace e:n<=12:=e;replace y1 : -11<=n:=y1;have Q:=az op;have f:=bg op n;have L:=fun p t w h=>xT nm d p t w h oM
    rcases dY w1 with rfl|⟨t1,rfl⟩|⟨t1,t2,rfl⟩
    . obtain rfl:ps=[]:=List.length_eq_zero_iff.1 a.len
      simp only[KR] at w1
      exact Bi nm d op n q s A c oM w h g x tb
    . obtain ⟨C,rfl⟩:=Lk.1 (show ps.length=1 from a.len)
      simp only[ul,KR] at w1
      have u:WfT1 (fun s=>aN s=true) d t1:=D 0 (JO _);have o:mQ d t1:=F 0 (JO _);obtain ⟨i,b⟩:=iZ (nm:=nm) u o;rw[ia] at hW
      have hM:ba d t1<=br op n*ba d t1:=J5 _ f;obtain ⟨J,K⟩:=Dj hM hW;exact BD nm d L op n q s A c C t1 u o J _ _ i b _ hM K (i.n1 oM oM y z e).1 (Gl (nR _)) hd oM y1 e w h g O (a.at_ 0 (JO _)) tb
    . obtain ⟨C,S,rfl⟩:=kj (show ps.length=2 from a.len)
      simp only[ul,KR] at w1
      have u:WfT1 (fun s=>aN s=true) d t1:=D 0 (JO _);have H:WfT1 (fun s=>aN s=true) d t2:=D 1 (by show 1<2;decide);have o:mQ d t1:=F 0 (JO _);have M:mQ d t2:=F 1 (by show 1<2;decide);obtain ⟨i,b⟩:=iZ (nm:=nm) u o;obtain ⟨I,B⟩:=iZ (nm:=nm) H M;rw[jr] at hW
      have hM:ba d t1+ba d t2<=br op n*(ba d t1+ba d t2):=J5 _ f;obtain ⟨J,K⟩:=Dj hM hW;have W:=Nat.mul_add d (ba d t1) (ba d t2);exact AF nm d L op n q s A c C t1 u o oM S t2 H M oM _ _ i b _ _ I B _ hM oM (i.n2 I oM oM y z e).1 (fun h=>by omega) hd oM y1 e w h g O (a.at_ 0 (JO _)) (a.at_ 1 (by show 1<2;decide)) tb
theorem Hb (nm:ByteArray)(d:Nat)(p:PTm)(t:Tm)(W:d<=4)(i:WfT1 (fun s=>aN s=true) d t)(l:mQ d t)(J:8*(d*ba d t)<=1000)(w:World)(h:Hp)(g:G w h)(O:TmH d h p t)(S:Tab h):CR 14 #[ar p,.string nm] w h (fun v h1=>∃ (I:PTm)(er:Int),v=.tuple #[ar I,iV er]/\(er=0->TmH (3*d+4) h1 I (av nm d t).2/\WfT (fun s=>aN s=true) (3*d+4) (av nm d t).2/\ba (3*d+4) (av nm d t).2<=1000)):=by
 have a:=(((sS g).add (K:=fun b=>TmH d b p t) O).add (K:=fun b=>Tab b) S);obtain ⟨_,C⟩:=iZ (nm:=nm) i l;refine go Tryz.func14 [(0,ar p),(1,.string nm)] rfl (aD (lA 2 32 (aI p) a (fun Z w2 h3 a=>lA 4 32 a2 a (fun b4 w5 h6 a=>lL a ac (af (aa a [.o (ar p) 1 0 9] (lC 10 a (oC aN it o5 d p t oM _ _ a.g a.f.2.1 (jZ i.wf)) ?_)))))));rintro _ w7 Y a ⟨M,rfl,V⟩;cases e:((M:Int) != (0:Int))
 .
  have x:=aY e;refine lB 11 e (ah (cK (aa a [.o (ar p) 1 0 9,.c] (lC 16 a (xT nm d p t _ _ W a.g a.f.2.1 i l J a.f.1) ?_))));rintro _ _ _ a ⟨H,j,rfl,D,F⟩;replace a:=((a.add (K:=fun b=>TmH d b H (av nm d t).1) D).add (K:=fun b=>TmH (3*d+4) b j (av nm d t).2) F);refine lL a [.c,.v (ar H),.v (ar j)] (lA 6 32 a2 a (fun Q _ _ a=>lA 7 32 a2 a (fun X _ _ a=>lP 1 0 (aI H) a (fun _ a=>lP 0 0 (aI j) a (fun _ a=>af (aa a [.o (ar j) 0 0 9] (lC 20 a (oC aN it o5 (3*d+4) j (av nm d t).2 oM _ _ a.g a.f.1 (jZ (C.wt J))) ?_)))))));rintro _ _ _ a ⟨L,rfl,u⟩;refine lL a ac (aR (lL a ac ?_));cases y:((L:Int) != (0:Int))
  .
   have U:=aY y;refine lB 22 y (ah (cK (aa a [.o (ar j) 0 0 9] (lC 26 a (vg (fun s=>aN s=true) (3*d+4) j (av nm d t).2 _ _ a.g a.f.1 (jN u oM).1) ?_))));rintro _ _ _ a ⟨z,rfl,B⟩;replace a:=(a.add (K:=fun b=>TmH (3*d+4) b z (av nm d t).2) B);exact lP 2 0 (aI z) a (fun _ a=>lL a ac (ae a [(2,0,9)] (.tuple #[ar z,iV 0]) (⟨z,_,rfl,fun _=>⟨a.f.1,jN u oM⟩⟩)))
  have U:=a6 y;exact lB 22 y (au (aa a [.v (.agg #[iV 0,iV 0,qF,uV 0,eS,uV 0,eS,eS,sZ]),.c] (lP 2 0 a2 a (fun _ a=>lL a ac (ae a [(2,0,9)] (.tuple #[.agg #[iV 0,iV 0,qF,uV 0,eS,uV 0,eS,eS,sZ],iV L]) (⟨aE,_,rfl,fun b=>absurd b (by first|decide|omega)⟩))))))
 have x:=a6 e;exact lB 11 e (au (aa a [.v (.agg #[iV 0,iV 0,qF,uV 0,eS,uV 0,eS,eS,sZ])] (lP 0 0 a2 a (fun _ a=>lL a ac (ae a [(0,0,9)] (.tuple #[.agg #[iV 0,iV 0,qF,uV 0,eS,uV 0,eS,eS,sZ],iV 1]) (⟨aE,_,rfl,fun b=>absurd b (by first|decide|omega)⟩))))))
section laws
variable {M:Ms}{P:Program}{ops:Array Oper}{Q:Exit->Act->World->Prop}{k0:Nat}
theorem E.eventN {h0:Hp}{AL:List Al}{L:Array Bool}{a:Act}{w:World}{h:Hp}(I:List Nat)(i0:Nat)(O:i0∈I)
    (D:∀ i∈I,i<ops.size/\i<k0)(J:Region.noSelect ops=true)(hun:L.getD i0 true=false)
    (K:∀ j X,ops[j]?=some X->L.getD j true=false->j ∉ I->(∀ x∈AL,x.i≠j)->∃ e∈X.after,Region.binds .any e=true/\L.getD e.on false=false/\∀ x∈AL,x.i≠e.on)
    (V:∀ e∈(ao ops i0).after,Region.binds .any e=true->L.getD e.on false=true)
    (hal:∀ i∈I,∀ x∈AL,x.i≠i/\x.t ∉ (ao ops i).looksAt ops/\(ao ops i).dst≠some x.t)(oks:∀ x∈AL,AlOk P ops k0 x)(hM:∀ b∈M.l,b<h0.size)(g:G w h)(hsz:h0.size<=h.size)
    (H:∀ i∈I,L.getD i true=false->∀ w' y,Up w h w' y->OpR P ops (ao ops i) a w' (fun v f=>∃ o,UpM M.l w' y f o/\E M P ops Q k0 h0 AL (L.setIfInBounds i true) (a.put (ao ops i).dst v) f o)):E M P ops Q k0 h0 AL L a w h:=by
  have key:∀ (m:Nat) (T:List Al),T.length=m->∀ w' y,Up w h w' y->∀ (S:List SA),(S.map (·.1)++T).Perm AL->(∀ s∈S,Blk h0 w' y s)->(S.map (·.2)).Nodup ->
      A M P ops Q k0 (dP L S) (addA a S) w':=by
    intro m
    induction m using g3 with
    | _ m ih =>
      intro T hT w' y u S C hb W;have p:∀ i∈I,∀ s∈S,s.1.i≠i/\s.1.t ∉ (ao ops i).looksAt ops/\(ao ops i).dst≠some s.1.t:=fun i hi s d=>hal i hi _ (gW C d)
      refine A.intro (fun h0'=>?_) (fun j hj=>?_)
      . exfalso
        have:i0∈Region.ready .any ops (dP L S):=mem_ready.2 ⟨by rw[iD true (fun s d=>(p i0 O s d).1)];exact hun,_,bC (D i0 O).1,fun e F B=>jO (V e F B)⟩;rw[h0'] at this
        cases this
      . by_cases hji:j∈I
        . have z:=bC (ops:=ops) (D j hji).1
          have c:L.getD j true=false:=by
            obtain ⟨c,_⟩:=mem_ready.1 hj;exact fZ c
          refine OpR.wpOp z ((H j hji c w' y u).addA (Region.noSelect_spec J j _ · · z) S (fun s d=>(p j hji s d).2.1)) ?_;rintro v f ⟨o,u2,H3⟩;refine ⟨Rl.mo (D j hji).2 u2.mo,?_⟩;rw[<-l5 L S j (fun s d=>(p j hji s d).1),<-ma a S _ v (fun s d=>(p j hji s d).2.2)];exact H3 f o (Up.refl u2.g) S T C (fun s d=>(hb s d).up u2 hM) W
        . obtain ⟨c,X,hoj,U⟩:=mem_ready.1 hj
          have hx:∃ x∈AL,x.i=j:=by
            refine Classical.byContradiction fun Y=>?_
            obtain ⟨e,F,B,hf,hne⟩:=K j X hoj (fZ c) hji (fun x hx F=>Y ⟨x,hx,F⟩);have:=U e F B;rw[iD false (fun s d=>hne _ (gW C d)),hf] at this
            cases this
          obtain ⟨x,hxA,rfl⟩:=hx;have hxT:=gR C hxA hj;exact nH oks hM u.g (eu hsz u.gr.size) C hb W hxT (fun w1 h1 S1 T1 u1 hp1 hb1 Z hlt=>ih T1.length oM T1 rfl w1 h1 (u.trans u1) S1 hp1 hb1 Z)
  exact fun w' y u S T C hb W=>key _ T rfl w' y u S C hb W
end laws
section dag
variable {M:Ms}{P:Program}{n:Nat}{N R:Po}{X:Nat->Po}{ops:Array Oper}{k0:Nat}{hr:Hp}{AL:List Al}{L:Array Bool}{Γ:ck}{w:World}{h:Hp}
def SrD (P:Program)(ops:Array Oper)(Γ:ck)(i:Nat)(w:World)(h:Hp)(Φ:Value->World->Hp->Prop):Prop :=
  (∃ v w'' h'',(execOp (ev Γ) (ao ops i)).run P w=.ok (.value v) w''/\Up w h w'' h''/\Φ v w'' h'') \/
  (∃ f args,(execOp (ev Γ) (ao ops i)).run P w=.ok (.enter f args) w/\Calls P f args w (fun e w''=>∃ v h'',e=.returned v/\Up w h w'' h''/\Φ v w'' h''))
theorem SrD.mono {i:Nat}{Φ Φ':Value->World->Hp->Prop}(x:SrD P ops Γ i w h Φ)(k:∀ v w' a,Up w h w' a->Φ v w' a->Φ' v w' a):SrD P ops Γ i w h Φ':=by
 rcases x with ⟨v,w',a,e,u,p⟩|⟨f,args,e,c⟩
 ·exact .inl ⟨v,w',a,e,u,k _ _ _ u p⟩
 ·exact .inr ⟨f,args,e,c.mono fun e w' ⟨v,a,b,u,p⟩=>⟨v,a,b,u,k _ _ _ u p⟩⟩
theorem FY {Γ:ck}{o:Oper}(h:o.guard.isNone=true):bA ops Γ o=some true:=by
 unfold bA
 rw[Ll.1 h]
theorem SrD.opR {i:Nat}{a:Act}{K:Value->World->Hp->Prop}(j:Region.noSelect ops=true)(hi:i<ops.size)(hk:bp Γ (ao ops i)=true)(o:(ao ops i).guard.isNone=true)(d:Kn n a Γ)(x:SrD P ops Γ i w h K) :
  OpR P ops (ao ops i) a w (fun v w'=>∃ b,UpM M.l w h w' b/\K v w' b):=by
 have e1:=d.exec (Region.noSelect_spec j i _ · · (bC hi)) hk;refine ⟨d.want (FY o),?_⟩;rw[e1]
 rcases x with ⟨v,w',b,e,u,p⟩|⟨f,args,e,c⟩
 ·exact .inl ⟨v,w',e,b,u.m M.l,p⟩
 ·exact .inr (.inr ⟨f,args,e,c.mono fun e w' ⟨v,b,y,u,p⟩=>⟨v,y,b,u.m M.l,p⟩⟩)
structure DS where
  i:Nat
  t:Nat
  K:Value->Hp->Prop
  D:List (Nat × Value)
structure DOk (P:Program) (ops:Array Oper) (Γ:ck) (s:DS):Prop where
  known:bp (s.D++Γ) (ao ops s.i)=true
  run:∀ w h,G w h->SrD P ops (s.D++Γ) s.i w h (fun v _ h''=>s.K v h'')
  stay:∀ v h h',Gw h h'->s.K v h->s.K v h'
theorem DOk.row (i t:Nat)(ty:TypeId)(m:Nat)(cs:List Value)(D:List (Nat × Value))(hk:bp (D++Γ) (ao ops i)=true:=by kernel_rfl)
  (hv:∀ w,(execOp (ev (D++Γ)) (ao ops i)).run P w=.ok (.value (.slice (some ⟨w.heap.size,0,none⟩) m m)) (w.alloc (.cells cs.toArray ty (0,0))):=by intro _;kernel_rfl):DOk P ops Γ ⟨i,t,fun v h=>∃ b,v=.slice (some ⟨b,0,none⟩) m m/\Seg h b 0 cs,D⟩ :=
 ⟨hk,fun w h g=>by
  have u:Up w h (w.alloc (.cells cs.toArray ty (0,0))) _:=Up.allocAny g (.cells cs.toArray ty (0,0)) (.cells cs.toArray ty (0,0)) (.inl rfl);exact .inl ⟨_,_,_,hv w,u,_,rfl,by rw[g.size];exact Seg.new cs ty⟩,fun v h a u ⟨b,e,s⟩=>⟨b,e,s.gw u⟩⟩
theorem DOk.call (i t:Nat){f:FuncId}{args:Array Value}(b:Value)(D:List (Nat × Value))(c:∀ w h,G w h->Calls P f args w (Ret w h fun v _=>v=b))(hk:bp (D++Γ) (ao ops i)=true:=by kernel_rfl)
  (hv:∀ w,(execOp (ev (D++Γ)) (ao ops i)).run P w=.ok (.enter f args) w:=by intro _;kernel_rfl):DOk P ops Γ ⟨i,t,fun v _=>v=b,D⟩ :=
 ⟨hk,fun w h g=>.inr ⟨f,args,hv w,(c w h g).mono fun e w' ⟨v,j,d,u,a⟩=>⟨v,j,d,u,a⟩⟩,fun _ _ _ _ x=>x⟩
def qV (ops:Array Oper)(L:Array Bool)(i:Nat):Bool:=(ao ops i).after.all fun e=>!Region.binds .any e || L.getD e.on false
def I5 (n:Nat)(ops:Array Oper)(k0:Nat)(AL:List Al)(L:Array Bool)(I:List (Nat × Nat)):Bool :=
  Region.noSelect ops && (I.all fun x=>decide (x.1<ops.size) && decide (x.1<k0) && tg ops AL x.1 (ao ops x.1) && ((ao ops x.1).dst == some x.2) && decide (x.2<n) && (ao ops x.1).guard.isNone) &&
  (hO ops.size).all fun j=>L.getD j true || I.any (·.1 == j) || AL.any (·.i == j) || (ao ops j).after.any fun e=>Region.binds .any e && (L.getD e.on false == false) && AL.all (·.i != e.on)
abbrev SK:=Nat × Nat × List Nat
def md (n:Nat)(ops:Array Oper)(k0:Nat)(AL:List Al)(Lf:Array Bool):Nat->Array Bool->List SK->Bool
  | 0,L,D=>D.isEmpty && (L.toList == Lf.toList)
  | m + 1,L,D=>((D.filter fun s=>qV ops L s.1).any fun s=>L.getD s.1 true == false) && I5 n ops k0 AL L ((D.filter fun s=>qV ops L s.1).map fun s=>(s.1,s.2.1)) &&
      (D.filter fun s=>qV ops L s.1).all fun s=>(s.2.2.all fun t=>D.all fun s'=>s'.2.1 != t) && (D.all fun s'=>s'.1 == s.1 || s'.2.1 != s.2.1) && md n ops k0 AL Lf m (L.setIfInBounds s.1 true) (D.filter fun s'=>s'.1 != s.1)
def DS.k (s:DS):SK:=(s.i,s.t,s.D.map (·.1))
theorem rt {β:Type}{f:DS->β}:∀ {D:List DS},(D.map f).Nodup->∀ {s s':DS},s∈D->s'∈D->f s=f s'->s=s'
  | x :: D,h,s,s',hs,hs',e=>by
    rw[List.map_cons,List.nodup_cons] at h
    rcases g1.1 hs with e1|hs
    . rcases g1.1 hs' with e2|hs'
      . rw[e1,e2]
      . exact absurd (gs.2 ⟨s',hs',by rw[<-e,e1]⟩) h.1
    . rcases g1.1 hs' with e2|hs'
      . exact absurd (gs.2 ⟨s,hs,by rw[e,e2]⟩) h.1
      . exact rt h.2 hs hs' e
def Ent (n:Nat)(a:Act)(x:Nat × Value):Prop:=x.1<n/\a.tmps[x.1]?=some x.2
theorem EH {t:Nat}{v:Value}{D:List (Nat × Value)}(h:(D++Γ).lookup t=some v):(∃ x∈D,x.1=t/\x.2=v)\/(Γ.lookup t=some v/\∀ x∈D,x.1≠t):=by
  induction D with
  | nil=>exact .inr ⟨h,fun x b=>by cases b⟩
  | cons x D ih =>
    rw[yU,g5] at h
    cases h0:t == x.1 with
    | true=>rw[h0] at h;injection h with h;exact .inl ⟨x,JQ,(by simpa using h0:t=x.1).symm,h⟩
    | false =>
      rw[h0] at h
      rcases ih h with ⟨y,a,e⟩|⟨h1,h2⟩
      . exact .inl ⟨y,JR _ a,e⟩
      . refine .inr ⟨h1,fun y a=>?_⟩
        rcases g1.1 a with rfl|a
        . exact fun e=>by subst e;simp at h0
        . exact h2 y a
theorem Eg {a:Act}{D:List (Nat × Value)}(nb:n<=1000000)(b:∀ x∈D,Ent n a x):fY (D++Γ)=fY Γ:=by
  induction D with
  | nil=>rfl
  | cons x D ih =>
    rw[<-ih (fun y c=>b y (JR _ c))];have d:=(b x JQ).1;have e:((1000000:Nat) == x.1)=false:=by simp;omega
    unfold fY
    rw[yU,g5,e]
theorem xy {a:Act}{D:List (Nat × Value)}(k:Kn n a Γ)(b:∀ x∈D,Ent n a x):Kn n a (D++Γ):=by
 refine ⟨k.df.trans (Eg k.nb b).symm,k.sz,k.nb,fun t v c hv=>?_⟩
 rcases EH hv with ⟨x,hx,rfl,rfl⟩|⟨h1,_⟩
 ·exact (b x hx).2
 ·exact k.has t v c h1
theorem Ent.put {a:Act}{x:Nat × Value}(e:Ent n a x){t:Nat}(v:Value)(h:x.1≠t):Ent n (a.put (some t) v) x:=⟨e.1,by
 have:(a.put (some t) v).tmps=a.tmps.setIfInBounds t v:=by simp[Act.put]
 rw[this,Array.getElem?_setIfInBounds_ne (fun b=>h b.symm)];exact e.2⟩
theorem Ent.new {a:Act}(k:Kn n a Γ){t:Nat}(b:t<n)(v:Value):Ent n (a.put (some t) v) (t,v):=⟨b,(k.put b v).has t v (by have:=k.nb;omega) (by rw[g5];simp)⟩
theorem vY {a:Act}(k:Kn n a Γ){t:Nat}(d:t<n)(v:Value)(f:Γ.lookup t=none):Kn n (a.put (some t) v) Γ:=by
  have k2:=k.put d v;have e:((1000000:Nat) == t)=false:=by have:=k.nb;simp;omega
  refine ⟨k2.df.trans (by unfold fY;rw[g5,e]),k2.sz,k2.nb,fun s u c b=>k2.has s u c ?_⟩;rw[g5];cases h0:s == t with
  | true => have:s=t:=by simpa using h0
            subst this;rw[f] at b;cases b
  | false=>exact b
theorem GY (z:List DS)(Γ:ck)(ok:∀ s∈z,DOk P ops Γ s)(hdt:∀ s∈z,∀ x∈s.D,∃ c∈z,c.t=x.1/\∀ v h,c.K v h->v=x.2)(hfr:∀ s∈z,Γ.lookup s.t=none)(hni:(z.map (·.i)).Nodup)(hnt:(z.map (·.t)).Nodup){Lf:Array Bool}(oks:∀ x∈AL,AlOk P ops k0 x)(hM:∀ b∈M.l,b<hr.size) :
    ∀ (m:Nat) (D:List DS) (L:Array Bool) (a:Act) (w:World) (h:Hp),md n ops k0 AL Lf m L (D.map DS.k)=true->(∀ s∈D,s∈z)->(∀ s∈z,s∈D\/∃ v,Ent n a (s.t,v)/\s.K v h)->G w h->hr.size<=h.size->Kn n a Γ ->
      (∀ w' U a',Up w h w' U->(∀ s∈z,∃ v,Ent n a' (s.t,v)/\s.K v U)->Kn n a' Γ->E M P ops (iE N R X) k0 hr AL Lf a' w' U)->E M P ops (iE N R X) k0 hr AL L a w h:=by
  intro m
  induction m with
  | zero =>
    intro D L a w h C hD hI g F V K
    unfold md at C
    rw[g7] at C
    have e0:D=[]:=by
      cases D with
      | nil=>rfl
      | cons x D=>simp at C
    have e:L=Lf:=Array.ext' (by simpa using C.2);subst e0;subst e;exact K w h a (Up.refl g) (fun s J=>(hI s J).resolve_left (by simp)) V
  | succ m ih =>
    intro D L a w h C hD hI g F V K
    unfold md at C
    simp only[g7,na,hH] at C
    obtain ⟨⟨⟨k0_,hk0,hk1⟩,H⟩,bb⟩:=C
    unfold I5 at H
    simp only[g7,hH,decide_eq_true_eq,beq_iff_eq] at H
    obtain ⟨⟨B,I⟩,O⟩:=H
    have p:∀ i,i∈((D.map DS.k).filter fun s=>qV ops L s.1).map (·.1)->∃ s∈D,s.i=i/\DS.k s∈(D.map DS.k).filter fun s=>qV ops L s.1:=fun i hi=>by
      obtain ⟨x,f,rfl⟩:=gs.1 hi;obtain ⟨hx1,Q⟩:=Lm.1 f;obtain ⟨s,J,rfl⟩:=gs.1 hx1;exact ⟨s,J,rfl,f⟩
    refine E.eventN (((D.map DS.k).filter fun s=>qV ops L s.1).map (·.1)) k0_.1 (gs.2 ⟨k0_,hk0,rfl⟩) (fun i hi=>?_) B (by simpa using hk1) ?_ ?_ (fun i hi=>?_) oks hM g F (fun i hi W w' U u=>?_)
    . obtain ⟨s,J,rfl,f⟩:=p i hi
      have:=I (s.i,s.t) (gs.2 ⟨_,f,rfl⟩);exact ⟨this.1.1.1.1.1,this.1.1.1.1.2⟩
    . intro j oj hj W hji hal
      have hlt:=(Array.getElem?_eq_some_iff.1 hj).1;have e:oj=ao ops j:=by have:=bC (ops:=ops) hlt;rw[hj] at this;injection this
      have:=O j (List.mem_range.2 hlt)
      simp only[Bool.or_eq_true,W,Bool.false_eq_true,false_or,na,Array.any_eq_true,beq_iff_eq,g7] at this
      rcases this with (⟨x,f,hxe⟩|⟨x,f,hxe⟩)|⟨x,f,⟨hb,hL⟩,hno⟩
      . exfalso
        obtain ⟨y,hy,rfl⟩:=gs.1 f;exact hji (gs.2 ⟨y,hy,hxe⟩)
      . exact absurd hxe (hal x f)
      . rw[e]
        refine ⟨_,Array.getElem_mem f,hb,hL,fun y hy=>?_⟩;have:=(hH.1 hno) y hy
        simpa using this
    . intro e he hb
      have:=(Lm.1 hk0).2
      unfold qV at this
      have:=(Array.all_eq_true_iff_forall_mem.1 this) e he
      simpa [hb] using this
    . obtain ⟨s,J,rfl,f⟩:=p i hi
      have:=I (s.i,s.t) (gs.2 ⟨_,f,rfl⟩);exact iy this.1.1.1.2
    . obtain ⟨s,J,rfl,f⟩:=p i hi
      have hi2:=I (s.i,s.t) (gs.2 ⟨_,f,rfl⟩);obtain ⟨⟨⟨⟨⟨q1,q2⟩,q3⟩,q4⟩,q5⟩,q6⟩:=hi2;obtain ⟨⟨r1,r2⟩,r3⟩:=bb _ f;have o:=hD s J;have S:=ok s o
      have Y:∀ x∈s.D,Ent n a x:=fun x Q=>by
        obtain ⟨c,d,e1,e2⟩:=hdt s o x Q
        rcases hI c d with hm|⟨v,hv,hK⟩
        . exfalso
          have:=r1 x.1 (gs.2 ⟨x,Q,rfl⟩);have:=this (DS.k c) (gs.2 ⟨c,hm,rfl⟩);have:c.t≠x.1:=by simpa [DS.k] using this
          exact this e1
        . have:=e2 v _ hK
          rw[e1,this] at hv
          exact hv
      have Z:=xy V Y;rw[show (ao ops s.i).dst=some s.t from q4];refine SrD.opR B q1 S.known q6 Z (SrD.mono (S.run w' U u.g) fun v w'' h'' u2 hK=>?_);refine ih (D.filter fun c=>c.i != s.i) _ _ w'' h'' ?_ (fun c d=>hD c (Lm.1 d).1) (fun c d=>?_) u2.g (eu F (u.trans u2).gr.size) (vY V q5 v (hfr s o)) (fun w3 h3 a3 u3=>K w3 h3 a3 ((u.trans u2).trans u3))
      . have e:(D.map DS.k).filter (fun c=>c.1 != s.i)=(D.filter fun c=>c.i != s.i).map DS.k:=by rw[List.filter_map];rfl
        rw[<-e];exact r3
      . by_cases es:c=s
        . subst es;exact .inr ⟨v,Ent.new V q5 v,hK⟩
        . rcases hI c d with hm|⟨v',hv',hK'⟩
          . refine .inl (Lm.2 ⟨hm,?_⟩)
            simp only[bne_iff_ne,ne_eq]
            exact fun e=>es (rt hni d o e)
          . exact .inr ⟨v',hv'.put v (fun e=>es (rt hnt d o e)),(ok c d).stay _ _ _ (u.trans u2).gr.gw hK'⟩
def rc:List DS->List Value->Hp->Prop
  | [],vs,_=>vs=[]
  | s::D,vs,h=>∃ v vs',vs=v::vs'/\s.K v h/\rc D vs' h
def Eh:List DS->List Value->List (Nat × Value)
  | s::D,v::vs=>(s.t,v)::Eh D vs
  | _,_=>[]
theorem oO {a:Act}{h:Hp}:∀ (D:List DS),(∀ s∈D,∃ v,Ent n a (s.t,v)/\s.K v h)->∃ vs,rc D vs h/\∀ x∈Eh D vs,Ent n a x
  | [],_=>⟨[],rfl,fun x b=>by cases b⟩
  | s::D,H=>by
    obtain ⟨vs,h1,f⟩:=oO D (fun s c=>H s (JR _ c));obtain ⟨v,e,d⟩:=H s JQ;refine ⟨v::vs,⟨v,vs,rfl,d,h1⟩,fun x b=>?_⟩
    rcases g1.1 b with rfl|b
    . exact e
    . exact f x b
def F6 (L:Array Bool)(D:List SK):Array Bool:=D.foldl (fun L x=>L.setIfInBounds x.1 true) L
def DagOk (P:Program)(ops:Array Oper)(Γ:ck):List DS->Prop
  | []=>True
  | s::D=>DOk P ops Γ s/\DagOk P ops Γ D
theorem DagOk.nil {P:Program}{ops:Array Oper}{Γ:ck}:DagOk P ops Γ []:=trivial
theorem DagOk.cons {P:Program}{ops:Array Oper}{Γ:ck}{s:DS}{D:List DS}(h:DOk P ops Γ s)(r:DagOk P ops Γ D):DagOk P ops Γ (s::D):=⟨h,r⟩
theorem vL {P:Program}{ops:Array Oper}{Γ:ck}:∀ {D:List DS},DagOk P ops Γ D->∀ s∈D,DOk P ops Γ s
  | _::_,h,s,hs=>by
    rcases g1.1 hs with rfl|hs
    . exact h.1
    . exact vL h.2 s hs
theorem Rg.dag (D:List DS)(ks:List SK)(j:D.map DS.k=ks)(ok:DagOk P ops Γ D)(l:∀ s∈D,∀ x∈s.D,∃ s'∈D,s'.t=x.1/\∀ v h,s'.K v h->v=x.2)
  (H:∀ w' d vs,Up w h w' d->rc D vs d->EG M P n N R X ops k0 hr AL (F6 L ks) (Eh D vs++Γ) w' d)
  (z:md n ops k0 AL (F6 L ks) ks.length L ks=true:=by kernel_rfl)(o:(ks.all fun x=>(Γ.lookup x.2.1).isNone)=true:=by kernel_rfl)(e:(ks.map (·.1)).Nodup:=by decide)(f:(ks.map (·.2.1)).Nodup:=by decide):EG M P n N R X ops k0 hr AL L Γ w h:=by
 intro i hM g c a B;subst j
 have b:∀ s∈D,Γ.lookup s.t=none:=fun s p=>by
  have:=hH.1 o (DS.k s) (gs.2 ⟨s,p,rfl⟩);exact Ll.1 this
 rw[List.map_map] at e f
 refine GY D Γ (vL ok) l b e f i hM _ D L a w h (by rw[List.length_map] at z;exact z) (fun _ h=>h) (fun s p=>.inl p) g c B (fun w' d I u F y=>?_);obtain ⟨vs,h1,C⟩:=oO D F;exact H w' d vs u h1 i hM u.g (eu c u.gr.size) I (xy y C)
end dag
def DC (pb:Nat)(s:ByteArray)(t:Tm)(b:Nat)(bd:Int):Value->World->Hp->Prop:=fun v w' h'=>∃ (tb:Nat)(p:PTm),v=.pointer (some ⟨tb,0,none⟩)/\b<=s.size/\Own w' pb 122 [.string s,.int .i64 (b:Nat),.int .i64 bd]/\Seg h' tb 0 (aI p)/\PtH h' p t
def PC (nf:ByteArray->Option Rat)(f:FuncId)(n:Nat)(k:PKd):Prop:=∀ (pb:Nat) (s:ByteArray),s.size<=1000000->∀ (a:Nat),a<=s.size->∀ (bd:Int) (t:Tm) (b:Nat),fx nf s n k a=some (.ok t b)->∀ (w:World) (h:Hp),G w h->Own w pb 122 [.string s,nV a,iV bd]->h[pb]?=some bj->Tab h->Calls Tryz.prog f #[pB pb] w (dX pb w h (DC pb s t b bd))
theorem vJ  (b:Nat)(s:ByteArray)(Z:s.size<=1000000)(a:Nat)(ha:a<=s.size)(S:Int)(w:World)(h:Hp)(g:G w h)(ho:Own w b 122 [.string s,nV a,iV S])(hj:h[b]?=some bj)(tb:Tab h):Calls Tryz.prog 53 #[pB b] w (dX b w h fun v w' _=>v=.int .u8 (aU s (sk s a):Nat)/\Own w' b 122 [.string s,nV (sk s a),iV S]):=by
 have e:UpM [b] w h w h:=UpM.refl g;obtain ⟨wz,B,d⟩:=SS.at_ g ho hj;replace d:=(d.add (K:=fun l=>Tab l) tb);refine go Tryz.func53 [(0,pB b)] rfl (aa d ac (af (kZ ?_)));refine cj _ (CG.loop (fun H Γ W=>∃ (k:Nat)(l:Hp),H=s.size-k/\Γ=[(0,pB b),(2,.int .u8 0)]/\SS wz B W l [⟨b,122,[.string s,nV k,iV S]⟩] [] [fun l=>Tab l]/\a<=k/\k<=s.size/\UpM [b] w h W l/\(∀ i,a<=i->i<k->AZ (aU s i)=true)) _ ⟨a,h,rfl,rfl,d.to _ _,nR _,ha,e,(fun i h1 J=>absurd h1 oM)⟩ ?_);rintro _ _ w1 ⟨k,J,hm3,rfl,d,C,D,e,y⟩;refine cQ (cQ (cR 22 [] mixed d aq ?_));refine eV 0 3 (pB b) (eV 1 4 (pB b) (eV 2 5 (qP b 1) (eO 3 6 [(0,1,1)] (nV k) d (eV 4 7 (pB b) (eV 5 8 (pB b) (eV 6 9 (pB b) (eO 7 10 [(0,0,1)] (.string s) d (eV 8 11 (nV s.size) ?_))))))));cases f:(decide ((k:Int)<(s.size:Int)))
 .
  have z:=oF f;refine eB 9 12 f (eV 10 13 qF (eG 11 14 (eG 12 15 (eG 13 16 (eG 14 17 (eG 15 18 (eG 16 19 (eG 17 20 (eG 18 21 (eG 19 22 (eG 20 23 (eV 21 24 qF (js d (fun w5 h6 u7 d=>?_))))))))))))));replace e:=e.trans (u7.m _);refine tN (cW (CG.exit ?_))
  show CG _ _ _ _ _ _ _ _
  refine cQ (cQ (cR 10 [] mixed d aq ?_));refine eV 0 32 (pB b) (eV 1 33 (pB b) (eV 2 34 (qP b 1) (eO 3 35 [(0,1,1)] (nV k) d (eV 4 36 (pB b) (eV 5 37 (pB b) (eV 6 38 (pB b) (eO 7 39 [(0,0,1)] (.string s) d (eV 8 40 (nV s.size) ?_))))))));have ⟨I,X⟩:=dF (p:=(k:Int)<(s.size:Int)) oM;refine eB 9 41 I (js d (fun w9 _ U d=>?_));replace e:=e.trans (U.m _);refine tN (cW (cK (aa d ac (lN (kX ?_)))));have u:sk s a=k:=pP C D y (by first|exact .inl oM|exact .inr (decide_eq_false oM));exact d.retM e [] (.int .u8 0) (by rw[u,sT oM];exact ⟨rfl,d.own 0⟩)
 have z:=oT f;refine eB 9 12 f (eV 10 13 qT (eV 11 14 (pB b) (eV 12 15 (pB b) (eV 13 16 (pB b) (eO 14 17 [(0,0,1)] (.string s) d (eV 15 18 (pB b) (eV 16 19 (pB b) (eV 17 20 (qP b 1) (eO 18 21 [(0,1,1)] (nV k) d (eV 19 22 (.int .u8 (aU s k:Nat)) ?_ (hv:=fun _=>eg (tx:=9) (x:=.tmp 17) (i:=.tmp 21) (k:=.i64) (s:=s) (n:=k) (j:=(k:Int)) kR kR kR kR oM oM _)))))))))));cases F:(((aU s k:Nat):Int) == (32:Int))
 .
  have zb:=ag F;refine eB 20 23 F (eV 21 24 qF (js d (fun _ _ M d=>?_)));replace e:=e.trans (M.m _);refine tN (cW (CG.exit ?_))
  show CG _ _ _ _ _ _ _ _
  refine cQ (cQ (cR 10 [] mixed d aq ?_));refine eV 0 32 (pB b) (eV 1 33 (pB b) (eV 2 34 (qP b 1) (eO 3 35 [(0,1,1)] (nV k) d (eV 4 36 (pB b) (eV 5 37 (pB b) (eV 6 38 (pB b) (eO 7 39 [(0,0,1)] (.string s) d (eV 8 40 (nV s.size) ?_))))))));have ⟨zc,L⟩:=dT (p:=(k:Int)<(s.size:Int)) oM;refine eB 9 41 zc (js d (fun _ _ O d=>?_));replace e:=e.trans (O.m _);refine tN (cl (cQ (cR 9 [] mixed d aq ?_)));refine eV 0 42 (pB b) (eV 1 43 (pB b) (eV 2 44 (pB b) (eO 3 45 [(0,0,1)] (.string s) d (eV 4 46 (pB b) (eV 5 47 (pB b) (eV 6 48 (qP b 1) (eO 7 49 [(0,1,1)] (nV k) d (eV 8 50 (.int .u8 (aU s k:Nat)) ?_ (hv:=fun _=>eg (tx:=9) (x:=.tmp 45) (i:=.tmp 49) (k:=.i64) (s:=s) (n:=k) (j:=(k:Int)) kR kR kR kR oM oM _)))))))));refine js d (fun _ _ V d=>?_);replace e:=e.trans (V.m _);refine tV 9 2 (.int .u8 (aU s k:Nat)) (tN (cj [(2,.int .u8 (aU s k:Nat))] ?_));refine kX ?_;have u:sk s a=k:=pP C D y (by first|exact .inl oM|exact .inr (decide_eq_false oM));exact d.retM e [] (.int .u8 (aU s k:Nat)) (by rw[u];exact ⟨rfl,d.own 0⟩)
 have zb:=eq_of_beq F;refine eB 20 23 F (eV 21 24 qT (js d (fun _ zd Q d=>?_)));replace e:=e.trans (Q.m _);refine tN (cl (cK (kZ (kQ (lL d [.c,.v (pB b),.v (qP b 1),.o (nV k) 0 1 1] (bI 29 ((k:Nat)+1) (k+1) ?_))))));refine lL d [.v (pB b),.v (qP b 1)] (np 0 1 ([nV (k+1)]) d (fun _ pu d=>?_));replace e:=e.put pu (ov.2 rfl) d.g;refine lD ?_;intro a_ Y;refine ⟨_,_,?_,⟨k+1,zd,rfl,rfl,d.to _ _,oM,oM,e,(fun i h1 J=>by rcases K7.1 J with l|rfl;exact y i h1 l;exact decide_eq_true oM)⟩,Y.to _ kR⟩
 omega
theorem sP  (d:Nat)(s:ByteArray)(u:s.size<=1000000)(a:Nat)(ha:a<=s.size)(p:Int)(c:Nat)(L:c≠0)(w:World)(h:Hp)(g:G w h)(I:Own w d 122 [.string s,nV a,iV p])(H:h[d]?=some bj)(D:Tab h):Calls Tryz.prog 124 #[pB d,.int .u8 (c:Nat)] w (dX d w h fun v w' _=>(v=.bool true/\aU s (sk s a)=c/\sk s a<s.size/\Own w' d 122 [.string s,nV (sk s a+1),iV p])\/(v=.bool false/\aU s (sk s a)≠c/\Own w' d 122 [.string s,nV (sk s a),iV p])):=by
 have e:UpM [d] w h w h:=UpM.refl g;obtain ⟨wz,y,b⟩:=SS.at_ g I H;replace b:=(b.add (K:=fun C=>Tab C) D);refine go Tryz.func124 [(0,pB d),(1,.int .u8 (c:Nat))] rfl (aa b ac (af (aa b ac ?_)));have x:=lh (s:=s) (a:=a) oM;refine fD 6 (vJ d s u a ha p _ _ b.g (b.own 0) (b.jk 0) b.f.1) ?_;rintro _ w2 M z ⟨rfl,j⟩;replace b:=(b.stepM 0 z j).to [⟨d,122,[.string s,nV (sk s a),iV p]⟩] [];replace e:=e.trans z;refine lL b ac ?_;cases i:(((aU s (sk s a):Nat):Int) != (c:Int))
 .
  have l:=aY i;refine lB 8 i (ah (cK (aa b [.c,.v (pB d),.v (qP d 1),.o (nV (sk s a)) 0 1 1] (bI 13 ((sk s a:Nat)+1) ((sk s a)+1) ?_))));refine lL b [.v (pB d),.v (qP d 1)] (np 0 1 ([nV ((sk s a)+1)]) b (fun J F b=>?_));replace e:=e.put F (ov.2 rfl) b.g;refine aR (lL b ac (lN (kX ?_)));have B:=uM (s:=s) (a:=sk s a) oM;exact b.retM e [] qT (.inl ⟨rfl,by omega,by omega,b.own 0⟩)
 have l:=a6 i;exact lB 8 i (au (aa b ac (lN (kX (b.retM e [] qF (.inr ⟨rfl,by omega,b.own 0⟩))))))
theorem DK (b:Nat)(s:ByteArray)(e:s.size<=1000000)(a:Nat)(ha:a<=s.size)(d:Int)(c:Nat)(j:c≠0)(f:sk s a=a)(w:World)(h:Hp)(g:G w h)(l:Own w b 122 [.string s,nV a,iV d])(i:h[b]?=some bj)(o:Tab h):Calls Tryz.prog 124 #[pB b,.int .u8 (c:Nat)] w (dX b w h fun v w' _=>(v=.bool true/\aU s a=c/\a<s.size/\Own w' b 122 [.string s,nV (a+1),iV d])\/(v=.bool false/\aU s a≠c/\Own w' b 122 [.string s,nV a,iV d])):=by
 have q:=sP b s e a ha d c j w h g l i o;rw[f] at q;exact q
theorem Fu (b:Nat)(s:ByteArray)(f:s.size<=1000000)(a:Nat)(ha:a<=s.size)(j:Int)(c:Nat)(o:c≠0)(d:aU s (sk s a)=c)(w:World)(h:Hp)(g:G w h)(y:Own w b 122 [.string s,nV a,iV j])(x:h[b]?=some bj)(p:Tab h):Calls Tryz.prog 124 #[pB b,.int .u8 (c:Nat)] w (dX b w h fun v w' _=>v=.bool true/\sk s a<s.size/\Own w' b 122 [.string s,nV (sk s a+1),iV j]) :=
 (sP b s f a ha j c o w h g y x p).mono fun e w' ⟨v,z,l,u,i⟩=>⟨v,z,l,u,by
  rcases i with ⟨h1,h2,h3,h4⟩|⟨h1,h2,h3⟩
  ·exact ⟨h1,h3,h4⟩
  ·exact absurd d h2⟩
theorem xn (b:Nat)(s:ByteArray)(f:s.size<=1000000)(a:Nat)(ha:a<=s.size)(j:Int)(c:Nat)(o:c≠0)(d:aU s (sk s a)≠c)(w:World)(h:Hp)(g:G w h)(y:Own w b 122 [.string s,nV a,iV j])(x:h[b]?=some bj)(p:Tab h):Calls Tryz.prog 124 #[pB b,.int .u8 (c:Nat)] w (dX b w h fun v w' _=>v=.bool false/\Own w' b 122 [.string s,nV (sk s a),iV j]) :=
 (sP b s f a ha j c o w h g y x p).mono fun e w' ⟨v,z,l,u,i⟩=>⟨v,z,l,u,by
  rcases i with ⟨h1,h2,h3,h4⟩|⟨h1,h2,h3⟩
  ·exact absurd h2 d
  ·exact ⟨h1,h3⟩⟩
theorem G5  (y:FuncId)(p:Nat->Bool)(L:∀ (args:Array Value) (w:World),(callFunc y args).run Tryz.prog w=.ok (.enter y args) w)(Q:∀ c,c<256->∀ (w:World) (h:Hp),G w h->Calls Tryz.prog y #[.int .u8 (c:Nat)] w (Ret w h fun v _=>v=.bool (p c)))(d:Nat)(s:ByteArray)(hsz:s.size<=1000000)(a:Nat)(ha:a<=s.size)(S:Int)(w:World)(h:Hp)(g:G w h)(ho:Own w d 122 [.string s,nV a,iV S])(hj:h[d]?=some bj)(tb:Tab h):Calls Tryz.prog 177 #[pB d,.func (.func y) #[] #[]] w (dX d w h fun v w' _=>v=.string (s.extract a (rn p s a))/\Own w' d 122 [.string s,nV (rn p s a),iV S]):=by
 have f:UpM [d] w h w h:=UpM.refl g;obtain ⟨wz,D,b⟩:=SS.at_ g ho hj;replace b:=(b.add (K:=fun u=>Tab u) tb);refine go Tryz.func177 [(0,pB d),(1,.func (.func y) #[] #[])] rfl (aa b ac (aR (lL b [.c,.v (pB d),.v (qP d 1),.o (nV a) 0 1 1,.c] (af (kZ ?_)))));refine cj _ (CG.loop (fun J Γ W=>∃ (k:Nat)(u:Hp),J=s.size-k/\Γ=[(0,pB d),(1,.func (.func y) #[] #[]),(4,eS),(5,nV a)]/\SS wz D W u [⟨d,122,[.string s,nV k,iV S]⟩] [] [fun u=>Tab u]/\a<=k/\k<=s.size/\UpM [d] w h W u/\(∀ i,a<=i->i<k->p (aU s i)=true)) _ ⟨a,h,rfl,rfl,b.to _ _,nR _,ha,f,(fun i h1 M=>absurd h1 oM)⟩ ?_);rintro _ _ w1 ⟨k,M,hm3,rfl,b,F,H,f,B⟩;refine cQ (cQ (cR 23 [] mixed b aq ?_));refine eV 0 10 (pB d) (eV 1 11 (pB d) (eV 2 12 (qP d 1) (eO 3 13 [(0,1,1)] (nV k) b (eV 4 14 (pB d) (eV 5 15 (pB d) (eV 6 16 (pB d) (eO 7 17 [(0,0,1)] (.string s) b (eV 8 18 (nV s.size) ?_))))))));cases l:(decide ((k:Int)<(s.size:Int)))
 .
  have C:=oF l;refine eB 9 19 l (eV 10 20 qF (eG 11 21 (eG 12 22 (eG 13 23 (eG 14 24 (eG 15 25 (eG 16 26 (eG 17 27 (eG 18 28 (eG 19 29 (eG 20 30 (eG 21 31 (eV 22 32 qF (js b (fun w5 h6 u7 b=>?_)))))))))))))));replace f:=f.trans (u7.m _);refine tN (cW (CG.exit ?_))
  show CG _ _ _ _ _ _ _ _
  refine cQ (cR 10 [] mixed b aq ?_);refine eV 0 40 (pB d) (eV 1 41 (pB d) (eV 2 42 (pB d) (eO 3 43 [(0,0,1)] (.string s) b (eV 4 44 (nV a) (eV 5 45 (pB d) (eV 6 46 (pB d) (eV 7 47 (qP d 1) (eO 8 48 [(0,1,1)] (nV k) b (eV 9 49 (.string (s.extract a k)) ?_ (hv:=fun _=>ww (tx:=9) (x:=.tmp 43) (i:=.tmp 44) (e:=.tmp 48) (k:=.i64) (k2:=.i64) (s:=s) (n:=a) (m:=k) (j:=(a:Int)) (j2:=(k:Int)) kR kR kR kR kR oM oM oM oM _))))))))));refine js b (fun w8 h9 U b=>?_);replace f:=f.trans (U.m _);refine tV 10 4 (.string (s.extract a k)) (tN (kX ?_));have z:rn p s a=k:=pP F H B (by first|exact .inl oM|exact .inr aM);exact b.retM f [] (.string (s.extract a k)) (by rw[z];exact ⟨rfl,b.own 0⟩)
 have C:=oT l;refine eB 9 19 l (eV 10 20 qT (eV 11 21 (.func (.func y) #[] #[]) (eV 12 22 (pB d) (eV 13 23 (pB d) (eV 14 24 (pB d) (eO 15 25 [(0,0,1)] (.string s) b (eV 16 26 (pB d) (eV 17 27 (pB d) (eV 18 28 (qP d 1) (eO 19 29 [(0,1,1)] (nV k) b (eV 20 30 (.int .u8 (aU s k:Nat)) ?_ (hv:=fun _=>eg (tx:=9) (x:=.tmp 25) (i:=.tmp 29) (k:=.i64) (s:=s) (n:=k) (j:=(k:Int)) kR kR kR kR oM oM _))))))))))));refine HS 21 31 b f (fun _ _ b=>Q ((aU s k)) (cM _ _) _ _ b.g) ?_ (hv:=fun _=>Eq.trans kR (L _ _));rintro _ _ _ _ _ f b rfl;cases X:(p ((aU s k)))
 .
  refine eV 22 32 qF (js b (fun _ _ I b=>?_));replace f:=f.trans (I.m _);refine tN (cW (CG.exit ?_))
  show CG _ _ _ _ _ _ _ _
  refine cQ (cR 10 [] mixed b aq ?_);refine eV 0 40 (pB d) (eV 1 41 (pB d) (eV 2 42 (pB d) (eO 3 43 [(0,0,1)] (.string s) b (eV 4 44 (nV a) (eV 5 45 (pB d) (eV 6 46 (pB d) (eV 7 47 (qP d 1) (eO 8 48 [(0,1,1)] (nV k) b (eV 9 49 (.string (s.extract a k)) ?_ (hv:=fun _=>ww (tx:=9) (x:=.tmp 43) (i:=.tmp 44) (e:=.tmp 48) (k:=.i64) (k2:=.i64) (s:=s) (n:=a) (m:=k) (j:=(a:Int)) (j2:=(k:Int)) kR kR kR kR kR oM oM oM oM _))))))))));refine js b (fun _ _ O b=>?_);replace f:=f.trans (O.m _);refine tV 10 4 (.string (s.extract a k)) (tN (kX ?_));have z:rn p s a=k:=pP F H B (by first|exact .inl oM|exact .inr aM);exact b.retM f [] (.string (s.extract a k)) (by rw[z];exact ⟨rfl,b.own 0⟩)
 refine eV 22 32 qT (js b (fun _ Y V b=>?_));replace f:=f.trans (V.m _);refine tN (cl (cK (kZ (kQ (lL b [.c,.v (pB d),.v (qP d 1),.o (nV k) 0 1 1] (bI 37 ((k:Nat)+1) (k+1) ?_))))));refine lL b [.v (pB d),.v (qP d 1)] (np 0 1 ([nV (k+1)]) b (fun _ pu b=>?_));replace f:=f.put pu (ov.2 rfl) b.g;refine lD ?_;intro a_ Z;refine ⟨_,_,?_,⟨k+1,Y,rfl,rfl,b.to _ _,oM,oM,f,(fun i h1 M=>by rcases K7.1 M with u|rfl;exact B i h1 u;exact aM)⟩,Z.to _ kR⟩
 omega
theorem GB (op:Int)(e a:PTm)(w:World)(h:Hp)(g:G w h):CR 111 #[iV op,ar e,ar a] w h (fun v h1=>∃ b,v=ar ⟨op,0,0,⟨#[]⟩,sB b,2,2⟩/\SlO 9 aI aE h1 (sB b) [e,a]):=by
 have i:=sS g;refine go Tryz.func111 [(0,iV op),(1,ar e),(2,ar a)] rfl (aD (lA 4 32 (aI e) i (fun u w2 z i=>lA 5 32 (aI a) i (fun y x D i=>lA 6 32 a2 i (fun B p C i=>aR (lL i [.c,.o (ar e) 2 0 9,.o (ar a) 1 0 9] (lR 10 32 2 ([iV e.op,iV e.n,.bool (aw e.q.num),uV (lo (ab e.q.num)),.string (hi (ab e.q.num)),uV (lo (qd e.q)),.string (hi (qd e.q)),.string e.s,qS e.A e.m e.c,iV a.op,iV a.n,.bool (aw a.q.num),uV (lo (ab a.q.num)),.string (hi (ab a.q.num)),uV (lo (qd a.q)),.string (hi (qd a.q)),.string a.s,qS a.A a.m a.c]) i (fun j _ _ i=>?_))))))));replace i:=i.aS (SlO.of_flat (sz:=9) (f:=aI) (d:=aE) (b:=j) (o:=0) (l:=([e,a]:List PTm)) (fun _=>rfl) i.f.1);exact lL i [.v (.agg #[iV op,iV 0,qF,uV 0,eS,uV 0,eS,eS,qS (sB j) 2 2])] (lP 0 0 ([iV op,iV 0,qF,uV 0,eS,uV 0,eS,eS,qS (sB j) 2 2]) i (fun _ i=>ae i [(0,0,9)] (.agg #[iV op,iV 0,qF,uV 0,eS,uV 0,eS,eS,qS (sB j) 2 2]) (⟨_,rfl,i.f.1⟩)))
theorem AS (q:Rat)(w:World)(h:Hp)(g:G w h):CR 107 #[qv q] w h (fun v h1=>∃ p,v=ar p/\PtH h1 p (nF q)):=by
 have a:=sS g;exact go Tryz.func107 [(0,qv q)] rfl (aD (lA 1 29 (qc q) a (fun b w2 e a=>lA 2 32 a2 a (fun f c d a=>aR (lL a [.o (qv q) 1 0 5,.v (ar ⟨1,0,q,⟨#[]⟩,none,0,0⟩)] (lP 0 0 (aI ⟨1,0,q,⟨#[]⟩,none,0,0⟩) a (fun i a=>ae a [(0,0,9)] (ar ⟨1,0,q,⟨#[]⟩,none,0,0⟩) (⟨⟨1,0,q,⟨#[]⟩,none,0,0⟩,rfl,PtH.num⟩))))))))
theorem Hq (op:Int)(c a:PTm)(t u:Tm)(w:World)(h:Hp)(g:G w h)(x:PtH h c t)(y:PtH h a u):CR 111 #[iV op,ar c,ar a] w h (fun v h1=>∃ p,v=ar p/\PtH h1 p (gQ op t u)) :=
 (GB op c a w h g).mono fun e w' ⟨v,f,e1,up,b,e2,d⟩=>⟨v,f,e1,up,_,e2,(x.gw up.gr.gw).two (y.gw up.gr.gw) d⟩
section
variable {nf:ByteArray->Option Rat}(n:Nat)
theorem vw  (lv:Bool)(fp:FuncId)(hen:∀ (args:Array Value) (w:World),(callFunc fp args).run Tryz.prog w=.ok (.enter fp args) w)(hp:∀ m,m<=n->PC nf fp m (part lv))(j:Nat)(s:ByteArray)(J:s.size<=1000000)(a:Nat)(ha:a<=s.size)(y:Int)(t:Tm)(b:Nat)(hq:fx nf s (n+1) (ux lv) a=some (.ok t b))(w:World)(h:Hp)(g:G w h)(ho:Own w j 122 [.string s,nV a,iV y])(hj:h[j]?=some bj)(tb:Tab h):Calls Tryz.prog 87 #[pB j,.func (.func fp) #[pB j] #[],.int .u8 (c1 lv:Nat),iV (xY lv),.int .u8 (c2 lv:Nat),iV (rN lv)] w (dX j w h (DC j s t b y)):=by
 have e:UpM [j] w h w h:=UpM.refl g;obtain ⟨wz,b7,d⟩:=SS.at_ g ho hj;obtain ⟨t1,b1,hq1,hq2⟩:=Ca hq;have cp:c1 lv≠0:=by cases lv<;>decide
 have cf:c2 lv≠0:=by cases lv<;>decide
 replace d:=(d.add (K:=fun i=>Tab i) tb);refine go Tryz.func87 [(0,pB j),(1,.func (.func fp) #[pB j] #[]),(2,.int .u8 (c1 lv:Nat)),(3,iV (xY lv)),(4,.int .u8 (c2 lv:Nat)),(5,iV (rN lv))] rfl (aa d ac (aR (lL d ac (fD 18 (hp n (nR _) j s J a ha y t1 b1 hq1 _ _ d.g (d.own 0) (d.jk 0) d.f.1) ?_ (hr:=Eq.trans kR (hen _ _))))));rintro _ w2 h3 u4 ⟨W,H,rfl,b4,b3,cd,b9⟩;replace d:=(d.stepM 0 u4 b3).to [⟨j,122,[.string s,nV b1,iV y]⟩] [];replace e:=e.trans u4;replace d:=((d.a_Seg cd).add (K:=fun i=>PtH i H t1) b9);refine lL d ac (af (kZ ?_));replace d:=d.add (K:=fun i=>PtH i H t1) (d.f.1);replace d:=d.add (K:=fun i=>Seg i W 0 (aI H)) (d.f.r.1);refine cj _ (CG.loop (fun μ_ Γ w_=>∃ (m:Nat)(Y:Nat)(p:PTm)(u:Tm)(k:Nat)(i:Hp),μ_=m/\Γ=[(0,pB j),(1,.func (.func fp) #[pB j] #[]),(2,.int .u8 (c1 lv:Nat)),(3,iV (xY lv)),(4,.int .u8 (c2 lv:Nat)),(5,iV (rN lv)),(13,pB Y)]/\SS wz b7 w_ i [⟨j,122,[.string s,nV k,iV y]⟩] [] [fun i=>Seg i Y 0 (aI p),fun i=>PtH i p u,fun i=>PtH i H t1,fun i=>Seg i W 0 (aI H),fun i=>Tab i]/\m<=n/\k<=s.size/\UpM [j] w h w_ i/\fx nf s m (.more lv u) k=some (.ok t b)) _ ⟨n,W,H,t1,b1,h3,rfl,rfl,d.to _ _,nR _,b4,e,hq2⟩ ?_);rintro _ _ w5 ⟨m,Y,p,u,k,h6,hm7,rfl,d,hm,hk,e,hq⟩;obtain ⟨m1,rfl⟩:=BZ hq;have cz:=lh (s:=s) (a:=k) hk;refine cQ (aa d [.c,.v qT] (au (cK (kZ (aa d ac (af (aa d aK ?_)))))));have cw:=lh (s:=s) (a:=k) oM;refine fD 23 (sP j s J k oM y (c1 lv) cp _ _ d.g (d.own 0) (d.jk 0) d.f.q.1) ?_;rintro _ w9 _ Z (⟨rfl,Q,cy,L⟩|⟨rfl,Q,L⟩)
 .
  replace d:=(d.stepM 0 Z L).to [⟨j,122,[.string s,nV (sk s k+1),iV y]⟩] [];replace e:=e.trans Z;obtain ⟨I,X,cc,cm⟩:=tK hq Q;refine au (kQ (lL d aK (aR (lL d ac (fD 31 (hp m1 oM j s J (sk s k+1) oM y I X cc _ _ d.g (d.own 0) (d.jk 0) d.f.q.1) ?_ (hr:=Eq.trans kR (hen _ _)))))));rintro _ _ _ u15 ⟨O,M,rfl,bb,bz,bl,bt⟩;replace d:=(d.stepM 0 u15 bz).to [⟨j,122,[.string s,nV X,iV y]⟩] [];replace e:=e.trans u15;replace d:=((d.a_Seg bl).add (K:=fun i=>PtH i M I) bt);refine lL d ac (af (aa d [.c,.v qF] (ah (cK (cQ ?_)))));have hsr:=d;have S:=e.gr.size;refine cR 9 [⟨8,16,.cells (J8 [iV 0,iV 0,qF,uV 0,eS,uV 0,eS,eS,sZ]) 32 (0,0)⟩] mixed d (bv (dM kR (fun _ _=>by kernel_rfl)) aq) (eV 0 34 (iV (xY lv)) (eV 1 35 (pB Y) (eV 2 36 (pB Y) (eH 3 37 (ar p) d d.f.r.1 (eV 4 38 (pB O) (eV 5 39 (pB O) (eH 6 40 (ar M) d d.f.2.1 (HS 7 41 d e (fun _ _ d=>Hq (xY lv) p M u I _ _ d.g d.f.r.2.1 d.f.1) ?_))))))));rintro _ _ _ _ _ e d ⟨l,rfl,bm⟩;replace d:=(d.add (K:=fun i=>PtH i l (gQ (xY lv) u I)) bm);refine FS [] hsr d e S 32 [iV 0,iV 0,qF,uV 0,eS,uV 0,eS,eS,sZ] (fun _ _ za e z d=>I2 9 0 0 (aI l) d (fun _ pu d=>?_));replace e:=e.put2 pu z g d.g;refine tN ?_;obtain ⟨zc,d,e,b6⟩:=d.pubM e 0 z;replace d:=d.to [⟨j,122,[.string s,nV X,iV y]⟩] [];have cq:Seg zc za 0 (aI l):=b6;replace d:=d.a_Seg cq;refine kQ (lL d ac (lD ?_));intro a_ ka;replace d:=((d.tl.tl.tl.tl.tl.tl.add (K:=fun i=>PtH i l (gQ (xY lv) u I)) d.f.2.1).add (K:=fun i=>Seg i za 0 (aI l)) d.f.1);refine ⟨_,_,?_,⟨m1,za,l,gQ (xY lv) u I,X,zc,rfl,rfl,d.to _ _,oM,bb,e,cm⟩,ka.to _ kR⟩
  omega
 replace d:=(d.stepM 0 Z L).to [⟨j,122,[.string s,nV (sk s k),iV y]⟩] [];replace e:=e.trans Z;have hcF:=Q;refine ah (aa d aK ?_);have cr:=lh (s:=s) (a:=(sk s k)) oM;refine fD 27 (DK j s J (sk s k) oM y (c2 lv) cf (Hr _ _) _ _ d.g (d.own 0) (d.jk 0) d.f.q.1) ?_;rintro _ _ _ u36 (⟨rfl,C,cx,D⟩|⟨rfl,C,D⟩)
 .
  replace d:=(d.stepM 0 u36 D).to [⟨j,122,[.string s,nV ((sk s k)+1),iV y]⟩] [];replace e:=e.trans u36;obtain ⟨o,F,bx,bn⟩:=ug hq hcF C;refine au (kQ (lL d aK (aR (lL d ac (fD 31 (hp m1 oM j s J ((sk s k)+1) oM y o F bx _ _ d.g (d.own 0) (d.jk 0) d.f.q.1) ?_ (hr:=Eq.trans kR (hen _ _)))))));rintro _ _ _ u40 ⟨V,U,rfl,b0,bk,bf,b2⟩;replace d:=(d.stepM 0 u40 bk).to [⟨j,122,[.string s,nV F,iV y]⟩] [];replace e:=e.trans u40;replace d:=((d.a_Seg bf).add (K:=fun i=>PtH i U o) b2);refine lL d ac (af (aa d [.c,.v qF] (ah (cK (cQ ?_)))));have hsr:=d;have S:=e.gr.size;refine cR 9 [⟨8,16,.cells (J8 [iV 0,iV 0,qF,uV 0,eS,uV 0,eS,eS,sZ]) 32 (0,0)⟩] mixed d (bv (dM kR (fun _ _=>by kernel_rfl)) aq) (eV 0 34 (iV (rN lv)) (eV 1 35 (pB Y) (eV 2 36 (pB Y) (eH 3 37 (ar p) d d.f.r.1 (eV 4 38 (pB V) (eV 5 39 (pB V) (eH 6 40 (ar U) d d.f.2.1 (HS 7 41 d e (fun _ _ d=>Hq (rN lv) p U u o _ _ d.g d.f.r.2.1 d.f.1) ?_))))))));rintro _ _ _ _ _ e d ⟨x,rfl,bq⟩;replace d:=(d.add (K:=fun i=>PtH i x (gQ (rN lv) u o)) bq);refine FS [] hsr d e S 32 [iV 0,iV 0,qF,uV 0,eS,uV 0,eS,eS,sZ] (fun _ _ zb e B d=>I2 9 0 0 (aI x) d (fun _ pu d=>?_));replace e:=e.put2 pu B g d.g;refine tN ?_;obtain ⟨zd,d,e,b5⟩:=d.pubM e 0 B;replace d:=d.to [⟨j,122,[.string s,nV F,iV y]⟩] [];have ch:Seg zd zb 0 (aI x):=b5;replace d:=d.a_Seg ch;refine kQ (lL d ac (lD ?_));intro a_ ka;replace d:=((d.tl.tl.tl.tl.tl.tl.add (K:=fun i=>PtH i x (gQ (rN lv) u o)) d.f.2.1).add (K:=fun i=>Seg i zb 0 (aI x)) d.f.1);refine ⟨_,_,?_,⟨m1,zb,x,gQ (rN lv) u o,F,zd,rfl,rfl,d.to _ _,oM,b0,e,bn⟩,ka.to _ kR⟩
  omega
 replace d:=(d.stepM 0 u36 D).to [⟨j,122,[.string s,nV (sk s k),iV y]⟩] [];replace e:=e.trans u36;have cb:=C;refine ah (aa d aK (lN (kX ?_)));obtain ⟨ht_,hb_⟩:=tS hq hcF cb;exact d.retM e [] (pB Y) (by rw[ht_];rw[hb_];exact ⟨Y,p,rfl,by first|assumption|omega,d.own 0,d.f.1,d.f.2.1⟩)
theorem Iy  (H:∀ m,m<=n->PC nf 88 m .prod)(e:Nat)(s:ByteArray)(z:s.size<=1000000)(a:Nat)(ha:a<=s.size)(x:Int)(t:Tm)(b:Nat)(F:fx nf s (n+1) .sum a=some (.ok t b))(w:World)(h:Hp)(g:G w h)(L:Own w e 122 [.string s,nV a,iV x])(J:h[e]?=some bj)(I:Tab h):Calls Tryz.prog 52 #[pB e] w (dX e w h (DC e s t b x)):=by
 have j:UpM [e] w h w h:=UpM.refl g;obtain ⟨wz,B,d⟩:=SS.at_ g L J;replace d:=(d.add (K:=fun y=>Tab y) I);refine go Tryz.func52 [(0,pB e)] rfl (aa d ac (aR (lL d [.c,.c,.v (.func (.func 88) #[pB e] #[])] (fD 6 (vw n false 88 (fun _ _=>by kernel_rfl) H e s z a ha x t b F _ _ d.g (d.own 0) (d.jk 0) d.f.1) ?_))));rintro _ w2 M D ⟨i,l,rfl,C,o,p,u⟩;replace d:=(d.stepM 0 D o).to [⟨e,122,[.string s,nV b,iV x]⟩] [];replace j:=j.trans D;replace d:=((d.a_Seg p).add (K:=fun y=>PtH y l t) u);exact lL d ac (lN (kX (d.retM j [] (pB i) (by exact ⟨i,l,rfl,by first|assumption|omega,d.own 0,d.f.2.1,d.f.1⟩))))
theorem vP  (H:∀ m,m<=n->PC nf 125 m .sign)(e:Nat)(s:ByteArray)(z:s.size<=1000000)(a:Nat)(ha:a<=s.size)(x:Int)(t:Tm)(b:Nat)(F:fx nf s (n+1) .prod a=some (.ok t b))(w:World)(h:Hp)(g:G w h)(L:Own w e 122 [.string s,nV a,iV x])(J:h[e]?=some bj)(I:Tab h):Calls Tryz.prog 88 #[pB e] w (dX e w h (DC e s t b x)):=by
 have j:UpM [e] w h w h:=UpM.refl g;obtain ⟨wz,B,d⟩:=SS.at_ g L J;replace d:=(d.add (K:=fun y=>Tab y) I);refine go Tryz.func88 [(0,pB e)] rfl (aa d ac (aR (lL d [.c,.c,.v (.func (.func 125) #[pB e] #[])] (fD 6 (vw n true 125 (fun _ _=>by kernel_rfl) H e s z a ha x t b F _ _ d.g (d.own 0) (d.jk 0) d.f.1) ?_))));rintro _ w2 M D ⟨i,l,rfl,C,o,p,u⟩;replace d:=(d.stepM 0 D o).to [⟨e,122,[.string s,nV b,iV x]⟩] [];replace j:=j.trans D;replace d:=((d.a_Seg p).add (K:=fun y=>PtH y l t) u);exact lL d ac (lN (kX (d.retM j [] (pB i) (by exact ⟨i,l,rfl,by first|assumption|omega,d.own 0,d.f.2.1,d.f.1⟩))))
theorem Av  (B:PC nf 147 n .pow)(e:Nat)(s:ByteArray)(p:s.size<=1000000)(a:Nat)(ha:a<=s.size)(j:Int)(t:Tm)(b:Nat)(F:fx nf s (n+1) .sign a=some (.ok t b))(w:World)(h:Hp)(g:G w h)(O:Own w e 122 [.string s,nV a,iV j])(M:h[e]?=some bj)(L:Tab h):Calls Tryz.prog 125 #[pB e] w (dX e w h (DC e s t b j)):=by
 have d:UpM [e] w h w h:=UpM.refl g;obtain ⟨wz,D,c⟩:=SS.at_ g O M;replace c:=(c.add (K:=fun z=>Tab z) L);refine go Tryz.func125 [(0,pB e)] rfl (aa c ac (af (aa c ac ?_)));have C:=lh (s:=s) (a:=a) oM;refine fD 6 (xn e s p a ha j 45 kD (mE F).1 _ _ c.g (c.own 0) (c.jk 0) c.f.1) ?_;rintro _ w2 S I ⟨rfl,o⟩;replace c:=(c.stepM 0 I o).to [⟨e,122,[.string s,nV (sk s a),iV j]⟩] [];replace d:=d.trans I;refine lL c [.v qT] (au (aa c ac (fD 9 (B e s p (sk s a) oM j t b (mE F).2 _ _ c.g (c.own 0) (c.jk 0) c.f.1) ?_)));rintro _ Q U J ⟨i,l,rfl,H,x,y,u⟩;replace c:=(c.stepM 0 J x).to [⟨e,122,[.string s,nV b,iV j]⟩] [];replace d:=d.trans J;replace c:=((c.a_Seg y).add (K:=fun z=>PtH z l t) u);exact lL c ac (lN (kX (c.retM d [] (pB i) (by exact ⟨i,l,rfl,by first|assumption|omega,c.own 0,c.f.2.1,c.f.1⟩))))
end
theorem HK (c:Nat)(i:c<256)(w:World)(h:Hp)(g:G w h):CV 196 #[.int .u8 (c:Nat)] w h (.bool (kY c)):=by
 have a:=sS g;refine go Tryz.func196 [(0,.int .u8 (c:Nat))] rfl (aa a ac (aR (lL a ac (am 4 a (nK c i _ _ a.g) (fun w1 j a=>?_)))));cases e:(decide (48<=c/\c<=57))
 .
  have f:=oF e;refine lL a aK ?_;cases b:((c:Int) == (46:Int))
  .
   have d:=ag b;exact lB 7 b (lL a [.v qF,.c] (ae a [] qF (congrArg Value.bool (decide_eq_false oM).symm)))
  have d:=eq_of_beq b;exact lB 7 b (lL a [.v qT,.c] (ae a [] qT (congrArg Value.bool (decide_eq_true oM).symm)))
 have f:=oT e;refine lL a ac (lG 6 ?_);exact lG 7 (lL a [.v qT,.c] (ae a [] qT (congrArg Value.bool (decide_eq_true oM).symm)))
def DQ (nf:ByteArray->Option Rat):Prop:=∀ x q,nf x=some q->∀ (w:World) (h:Hp),G w h->Tab h->CV 195 #[.string x] w h (.tuple #[qv q,.bool true])
section
variable {nf:ByteArray->Option Rat}(n:Nat)
theorem EL  (D:PC nf 176 n .atom)(i:Nat)(s:ByteArray)(x:s.size<=1000000)(a:Nat)(ha:a<=s.size)(l:Int)(t:Tm)(b:Nat)(Q:fx nf s (n+1) .pow a=some (.ok t b))(w:World)(h:Hp)(g:G w h)(V:Own w i 122 [.string s,nV a,iV l])(U:h[i]?=some bj)(S:Tab h):Calls Tryz.prog 147 #[pB i] w (dX i w h (DC i s t b l)):=by
 have e:UpM [i] w h w h:=UpM.refl g;obtain ⟨wz,J,d⟩:=SS.at_ g V U;obtain ⟨e1,C,F,I⟩:=Ct Q;replace d:=(d.add (K:=fun B=>Tab B) S);refine go Tryz.func147 [(0,pB i)] rfl (aa d ac (aR (lL d ac (fD 13 (D i s x a ha l t e1 C _ _ d.g (d.own 0) (d.jk 0) d.f.1) ?_))));rintro _ w2 X M ⟨j,o,rfl,L,p,u,y⟩;replace d:=(d.stepM 0 M p).to [⟨i,122,[.string s,nV e1,iV l]⟩] [];replace e:=e.trans M;replace d:=((d.a_Seg u).add (K:=fun B=>PtH B o t) y);refine lL d ac (af (aa d [.c,.v qF,.c,.c] ?_));have H:=lh (s:=s) (a:=e1) oM;refine fD 18 (xn i s x e1 oM l 94 kD F _ _ d.g (d.own 0) (d.jk 0) d.f.r.1) ?_;rintro _ W Y O ⟨rfl,z⟩;replace d:=(d.stepM 0 O z).to [⟨i,122,[.string s,nV (sk s e1),iV l]⟩] [];replace e:=e.trans O;exact lL d [.v qT,.v qT] (au (aa d aK (lN (kX (d.retM e [] (pB j) (by rw[I];exact ⟨j,o,rfl,by first|assumption|omega,d.own 0,d.f.2.1,d.f.1⟩))))))
theorem GL  (hnf:DQ nf)(ihs:PC nf 52 n .sum)(j:Nat)(s:ByteArray)(D:s.size<=1000000)(a:Nat)(ha:a<=s.size)(z:Int)(t:Tm)(b:Nat)(hq:fx nf s (n+1) .atom a=some (.ok t b))(w:World)(h:Hp)(g:G w h)(ho:Own w j 122 [.string s,nV a,iV z])(hj:h[j]?=some bj)(tb:Tab h):Calls Tryz.prog 176 #[pB j] w (dX j w h (DC j s t b z)):=by
 have e:UpM [j] w h w h:=UpM.refl g;obtain ⟨wz,J,d⟩:=SS.at_ g ho hj;replace d:=(d.add (K:=fun i=>Tab i) tb);refine go Tryz.func176 [(0,pB j)] rfl (aa d ac (aR (lL d ac ?_)));have b2:=lh (s:=s) (a:=a) oM;refine fD 13 (vJ j s D a ha z _ _ d.g (d.own 0) (d.jk 0) d.f.1) ?_;rintro _ w2 h3 u4 ⟨rfl,Z⟩;replace d:=(d.stepM 0 u4 Z).to [⟨j,122,[.string s,nV (sk s a),iV z]⟩] [];replace e:=e.trans u4;refine lL d ac (aR (lL d [.c,.v (pB j),.v (qP j 1),.o (nV (sk s a)) 0 1 1,.c] (af (kZ (CG.join (fun Γ w_=>∃ (zd:Bool)(i:Hp),Γ=[(0,pB j),(2,.pointer none),(3,.int .u8 (aU s (sk s a):Nat)),(4,nV (sk s a)),(18,.bool zd)]/\SS wz J w_ i [⟨j,122,[.string s,nV (sk s a),iV z]⟩] [] [fun i=>Tab i]/\(zd=true->¬¬((48<=aU s (sk s a)/\aU s (sk s a)<=57)\/aU s (sk s a)=46))/\(zd=false->kY (aU s (sk s a))=false)/\UpM [j] w h w_ i) ?_ ?_)))))
 .
  refine kQ (lL d ac (j6 20 (nK (aU s (sk s a)) (cM _ _) _ _ d.g) ?_));rintro _ w5 h6 u7 rfl;replace e:=e.trans (u7.m _);replace d:=d.step u7;cases hb8:(decide (48<=aU s (sk s a)/\aU s (sk s a)<=57))
  .
   have bt:=oF hb8;refine lL d aK ?_;cases I:(((aU s (sk s a):Nat):Int) == (46:Int))
   .
    have bl:=ag I;refine lB 23 I (lL d [.v qF,.c] (lD ?_));intro a_ F;exact ⟨_,⟨false,h6,rfl,d.to _ _,(fun i=>absurd i kD),(fun _=>decide_eq_false oM),e⟩,F.to _ kR⟩
   have bl:=eq_of_beq I;refine lB 23 I (lL d [.v qT,.c] (lD ?_));intro a_ F;exact ⟨_,⟨true,h6,rfl,d.to _ _,(fun _=>by omega),(fun i=>absurd i kD),e⟩,F.to _ kR⟩
  have bt:=oT hb8;refine lL d ac (lG 22 ?_);refine lG 23 (lL d [.v qT,.c] (lD ?_));intro a_ F;exact ⟨_,⟨true,h6,rfl,d.to _ _,(fun _=>by omega),(fun i=>absurd i kD),e⟩,F.to _ kR⟩
 rintro _ _ ⟨zd,_,rfl,d,zm,M,e⟩;cases za:(zd)
 .
  try rw[za] at d
  try rw[za]
  refine cW (CG.join (fun Γ w_=>∃ (ze:Bool)(i:Hp),Γ=[(0,pB j),(2,.pointer none),(3,.int .u8 (aU s (sk s a):Nat)),(4,nV (sk s a)),(38,.bool ze)]/\SS wz J w_ i [⟨j,122,[.string s,nV (sk s a),iV z]⟩] [] [fun i=>Tab i]/\(ze=true->lE (aU s (sk s a))\/aU s (sk s a)=95)/\(ze=false->¬(lE (aU s (sk s a))\/aU s (sk s a)=95))/\UpM [j] w h w_ i) ?_ ?_)
  .
   refine kQ (lL d ac (j6 40 (lm (aU s (sk s a)) (cM _ _) _ _ d.g) ?_));rintro _ _ zf u24 rfl;replace e:=e.trans (u24.m _);replace d:=d.step u24;cases zg:(decide (lE (aU s (sk s a))))
   .
    have zk:=oF zg;refine lL d aK ?_;cases zb:(((aU s (sk s a):Nat):Int) == (95:Int))
    .
     have zl:=ag zb;refine lB 43 zb (lL d [.v qF,.c] (lD ?_));intro a_ F;exact ⟨_,⟨false,zf,rfl,d.to _ _,(fun i=>absurd i kD),(fun _ i=>by rcases i with i|i;exact absurd i aM;omega),e⟩,F.to _ kR⟩
    have zl:=eq_of_beq zb;refine lB 43 zb (lL d [.v qT,.c] (lD ?_));intro a_ F;exact ⟨_,⟨true,zf,rfl,d.to _ _,(fun _=>by first|exact .inl aM|exact .inr oM),(fun i=>absurd i kD),e⟩,F.to _ kR⟩
   have zk:=oT zg;refine lL d ac (lG 42 ?_);refine lG 43 (lL d [.v qT,.c] (lD ?_));intro a_ F;exact ⟨_,⟨true,zf,rfl,d.to _ _,(fun _=>by first|exact .inl aM|exact .inr oM),(fun i=>absurd i kD),e⟩,F.to _ kR⟩
  rintro _ _ ⟨ze,_,rfl,d,bf,bz,e⟩;cases zc:(ze)
  .
   try rw[zc] at d
   try rw[zc]
   refine cW (aa d ac ?_);obtain ⟨_,e1,hq1,hd1,y⟩:=AD hq (M aM) (bz aM);have b3:=uM (s:=s) (a:=sk s a) oM;have zn:(((aU s (sk s a):Nat):Int) == (91:Int))=false:=cD oM;refine lB 68 zn (lL d ac (ah (aa d ac ?_)));have zo:(((aU s (sk s a):Nat):Int) == (40:Int))=true:=kg oM;refine lB 73 zo (lL d ac (au (aa d [.c,.v (pB j),.v (qP j 1),.o (nV (sk s a)) 0 1 1] (bI 78 ((sk s a:Nat)+1) ((sk s a)+1) ?_))));refine lL d [.v (pB j),.v (qP j 1)] (np 0 1 ([nV ((sk s a)+1)]) d (fun _ pu d=>?_));replace e:=e.put pu (ov.2 rfl) d.g;refine aR (lL d ac (fD 82 (ihs j s D ((sk s a)+1) oM z t e1 hq1 _ _ d.g (d.own 0) (d.jk 0) d.f.1) ?_));rintro _ _ _ u45 ⟨C,O,rfl,b0,S,W,X⟩;replace d:=(d.stepM 0 u45 S).to [⟨j,122,[.string s,nV e1,iV z]⟩] [];replace e:=e.trans u45;replace d:=((d.a_Seg W).add (K:=fun i=>PtH i O t) X);refine lL d ac (af (aa d [.c,.v qT,.c,.c] (fD 87 (Fu j s D e1 oM z 41 kD hd1 _ _ d.g (d.own 0) (d.jk 0) d.f.r.1) ?_)));rintro _ _ _ u49 ⟨rfl,b1,Q⟩;replace d:=(d.stepM 0 u49 Q).to [⟨j,122,[.string s,nV (sk s e1+1),iV z]⟩] [];replace e:=e.trans u49;exact lL d [.v qF,.v qF] (ah (cK (aa d aK (lN (kX (d.retM e [] (pB C) (by rw[y];exact ⟨C,O,rfl,by first|assumption|omega,d.own 0,d.f.2.1,d.f.1⟩)))))))
  try rw[zc] at d
  try rw[zc]
  refine cl (aa d ac ?_);have hcW:=bf aM;obtain ⟨bx,hnm,U,y⟩:=Ck hq (M aM) hcW;have L:=xl (p:=gF) (s:=s) (a:=sk s a) oM;refine fD 46 (G5 81 gF (fun _ _=>by kernel_rfl) (fun c hc w h g=>pM c hc w h g) j s D (sk s a) oM z _ _ d.g (d.own 0) (d.jk 0) d.f.1) ?_;rintro _ _ _ u52 ⟨rfl,H⟩;replace d:=(d.stepM 0 u52 H).to [⟨j,122,[.string s,nV (rn gF s (sk s a)),iV z]⟩] [];replace e:=e.trans u52;refine lL d ac (af (aD (j6 48 (sa _ _ d.g) ?_)));rintro _ _ _ Y ⟨bm,rfl,hcm⟩;replace e:=e.trans (Y.m _);replace d:=d.step Y;replace d:=(d.add (K:=fun i=>MapS i bm jb) hcm);refine lL d ac (Gj 50 76 9 3 (s.extract (sk s a) (rn gF s (sk s a))) true (iV 0) (false) d d.f.1 ?_ (hf:=(by rcases sE (s.extract (sk s a) (rn gF s (sk s a))) with ⟨i_,e1_,e2_⟩|⟨e1_,e2_,e3_⟩;exact absurd (e2_.symm.trans bx) kD;exact .inr ⟨e1_,rfl,fun _=>by kernel_rfl⟩)));refine lL d [.c,.v (iV 0),.v qF,.c,.c] (aR (lL d ac (ah (cK (cQ (aa d ac (j6 58 ((by have q_:=Fk (s.extract (sk s a) (rn gF s (sk s a))) (by rw[ByteArray.size_extract];omega) _ _ d.g;rw[hnm] at q_;exact q_)) ?_)))))));rintro _ _ _ u58 rfl;replace e:=e.trans (u58.m _);replace d:=d.step u58;refine lL d [.v qF] (ah (cK (aa d [.c,.v (.agg #[iV 2,iV 0,qF,uV 0,eS,uV 0,eS,.string (s.extract (sk s a) (rn gF s (sk s a))),sZ])] (Hx 65 32 ([iV 2,iV 0,qF,uV 0,eS,uV 0,eS,.string (s.extract (sk s a) (rn gF s (sk s a))),sZ]) d (fun zi _ _ u62 u d=>?_)))));replace u:=eu e.gr.size u;replace e:=e.trans (u62.m _);refine lL d ac (lN (kX ?_));obtain ⟨zp,d,e,bb⟩:=d.pubM e 0 u;replace d:=d.to [⟨j,122,[.string s,nV (rn gF s (sk s a)),iV z]⟩] [];have bn:Seg zp zi 0 (aI ⟨2,0,0,(s.extract (sk s a) (rn gF s (sk s a))),none,0,0⟩):=bb;replace d:=d.a_Seg bn;exact d.retM e [] (pB zi) (by rw[U];rw[y];exact ⟨zi,⟨2,0,0,(s.extract (sk s a) (rn gF s (sk s a))),none,0,0⟩,rfl,by first|assumption|omega,d.own 0,d.f.1,PtH.nam⟩)
 try rw[za] at d
 try rw[za]
 refine cl (aa d ac ?_);obtain ⟨q,hnq,U,y⟩:=Ao hq (decide_eq_true (Decidable.byContradiction fun i=>zm aM i));have L:=xl (p:=kY) (s:=s) (a:=sk s a) oM;refine fD 27 (G5 196 kY (fun _ _=>by kernel_rfl) (fun c hc w h g=>HK c hc w h g) j s D (sk s a) oM z _ _ d.g (d.own 0) (d.jk 0) d.f.1) ?_;rintro _ _ _ u69 ⟨rfl,H⟩;rw[<-y] at H L
 replace d:=(d.stepM 0 u69 H).to [⟨j,122,[.string s,nV b,iV z]⟩] [];replace e:=e.trans u69;refine j6 28 (hnf _ _ hnq _ _ d.g d.f.1) ?_;rintro _ _ _ u72 rfl;replace e:=e.trans (u72.m _);replace d:=d.step u72;refine lL d [.c,.v (qv q),.v qT] (Hx 5 29 a1 d (fun zq _ _ u76 x d=>?_));replace x:=eu e.gr.size x;replace e:=e.trans (u76.m _);refine np 0 0 (qc q) d (fun _ pu d=>?_);replace e:=e.put2 pu x g d.g;refine lL d ac (af (aa d [.c,.v qF] (ah (cK (aa d [.o (qv q) 0 0 5] (j6 37 (AS q _ _ d.g) ?_))))));rintro _ _ _ u81 ⟨B,rfl,V⟩;replace e:=e.trans (u81.m _);replace d:=d.step u81;replace d:=(d.add (K:=fun i=>PtH i B (nF q)) V);refine Hx 7 32 a2 d (fun zj _ _ u85 l d=>?_);replace l:=eu e.gr.size l;replace e:=e.trans (u85.m _);refine np 0 0 (aI B) d (fun _ pu d=>?_);replace e:=e.put2 pu l g d.g;refine aR (lL d ac (lN (kX ?_)));obtain ⟨zr,d,e,bq⟩:=d.pubM e 0 l;replace d:=d.to [⟨zq,29,qc q⟩,⟨j,122,[.string s,nV b,iV z]⟩] [];have bk:Seg zr zj 0 (aI B):=bq;replace d:=d.a_Seg bk;exact d.retM e [] (pB zj) (by rw[U];exact ⟨zj,B,rfl,by first|assumption|omega,d.own 1,d.f.1,d.f.2.1⟩)
end
section
variable {nf:ByteArray->Option Rat}(hnf:DQ nf)
include hnf
def II (nf:ByteArray->Option Rat)(n:Nat):Prop:=PC nf 52 n .sum/\PC nf 88 n .prod/\PC nf 125 n .sign/\PC nf 147 n .pow/\PC nf 176 n .atom
theorem Ie (n:Nat):II nf n:=by
  induction n using g3 with
  | ind n ih =>
    cases n with
    | zero=>exact ⟨fun _ _ _ _ _ _ _ _ h=>(by cases h),fun _ _ _ _ _ _ _ _ h=>(by cases h),fun _ _ _ _ _ _ _ _ h=>(by cases h),fun _ _ _ _ _ _ _ _ h=>(by cases h),fun _ _ _ _ _ _ _ _ h=>(by cases h)⟩
    | succ n =>
      have i:=ih n (Nat.lt_succ_self n);refine ⟨?_,?_,?_,?_,?_⟩
      . exact fun o s h1 a d l t b c w h g j f e=>Iy n (fun m hm=>(ih m oM).2.1) o s h1 a d l t b c w h g j f e
      . exact fun o s h1 a d l t b c w h g j f e=>vP n (fun m hm=>(ih m oM).2.2.1) o s h1 a d l t b c w h g j f e
      . exact fun o s h1 a d l t b c w h g j f e=>Av n i.2.2.2.1 o s h1 a d l t b c w h g j f e
      . exact fun o s h1 a d l t b c w h g j f e=>EL n i.2.2.2.2 o s h1 a d l t b c w h g j f e
      . exact fun o s h1 a d l t b c w h g j f e=>GL n hnf i.1 o s h1 a d l t b c w h g j f e
end
theorem xE {c:UInt8}:∀ (l:List UInt8),(∀ b∈l,b≠c)->Lib.indexByte l c = -1
  | [],_=>rfl
  | b::l,h=>by
    have h1:(b == c)=false:=by simpa using h b JQ
    unfold Lib.indexByte
    rw[h1,xE l (fun b hb=>h b (JR _ hb))];rfl
theorem Bp {s:ByteArray}{b:UInt8}(h:b∈s.data.toList):∃ i,i<s.size/\aU s i=b.toNat:=by
 obtain ⟨i,hi,e⟩:=List.mem_iff_getElem.1 h;refine ⟨i,by simpa using hi,?_⟩
 unfold aU
 rw[List.getD_eq_getElem?_getD,List.getElem?_eq_getElem hi,e];rfl
theorem Bm (x:ByteArray)(c:UInt8)(a:∀ i,i<x.size->aU x i≠c.toNat)(w:World)(h:Hp)(g:G w h):CV 214 #[.string x,.string ⟨#[c]⟩] w h (iV (-1)):=by
 have q:=Ret.of_same g (Tryz.stringslite_Index_one x c w)
 rw[xE _ (fun b hb e=>by
  obtain ⟨i,hi,h1⟩:=Bp hb;exact a i hi (by rw[h1,e]))] at q
 exact q
theorem Eo {x:ByteArray}{c:UInt8}(h:aU x 0≠c.toNat):Lib.hasPrefix x.data.toList [c]=false:=by
  unfold Lib.hasPrefix
  unfold aU at h
  cases e:x.data.toList with
  | nil=>rfl
  | cons b l =>
    rw[e] at h
    have:b≠c:=fun e2=>h (by rw[e2];rfl)
    simp[List.isPrefixOf,Ne.symm this]
theorem pf (x:ByteArray)(c:UInt8)(b:aU x 0≠c.toNat)(w:World)(h:Hp)(g:G w h):CV 208 #[.string x,.string ⟨#[c]⟩] w h (.tuple #[.string x,.bool false]):=by
 have q:=Ret.of_same g (Tryz.strings_CutPrefix x ⟨#[c]⟩ w);have e:Lib.hasPrefix x.data.toList [c]=false:=Eo b;have e2:(⟨(Lib.trimPrefix x.data.toList [c]).toArray⟩:ByteArray)=x:=by unfold Lib.trimPrefix;rw[e];simp
 have a:CV 208 #[.string x,.string ⟨#[c]⟩] w h (.tuple #[.string ⟨(Lib.trimPrefix x.data.toList [c]).toArray⟩,.bool (Lib.hasPrefix x.data.toList [c])]):=q;rw[e,e2] at a;exact a
theorem GA (m a:Nat)(ha:a<18446744073709551616)(w:World)(h:Hp)(g:G w h):CR 199 #[.slice none ((([]:List Nat)).length) 0,mV m,mV a] w h (fun v h1=>∃ (A:Z9)(c:Nat)(l:List Nat),v=.slice A l.length c/\l.length<=c/\SlO 1 aj 0 h1 A l/\l=if a=0 then [] else [a]):=by
 have b:=(sS g).nil 23 1;have j:([]:List Nat).length=0:=rfl;refine go Tryz.func199 [(0,qS none ((([]:List Nat)).length) 0),(1,mV m),(2,mV a)] rfl (aa b ac (aR (lL b aK (af (aa b [.c,.v (iV 0),.c] (bh (cU ?_)))))));refine cN (aa b [.v qF] (af (cW (CG.exit ?_))))
 show CG _ _ _ _ _ _ _ _
 refine cQ (aa b ac ?_);cases d:((a:Int) != (0:Int))
 .
  have i:=aY d;exact lB 43 d (ah (cK (aa b aK (ae b [] (qS none ((([]:List Nat)).length) 0) (⟨none,0,[],rfl,nR _,SlO.nil,by rw[if_pos oM]⟩)))))
 have i:=a6 d;refine lB 43 d (au (kQ (lL b aK (lR 46 23 1 ([mV a]) b (fun x w3 B b=>lY 47 0 23 1 0 none ([]:List Nat) aj a 8 x (uV 0) b b.f.1 (fun o p y z b=>lL b ac (aR (lL b aK (lN (kX ?_))))))))));obtain ⟨_,b,u⟩:=b.pubr 0 (A:=o) (c:=p) (l:=([]:List Nat)++[a]) (f:=aj) (ty:=23) (sz:=1) 0 (fun _=>rfl);have e:=(b.f.1);exact b.ret [] (qS o ((([]:List Nat)++[a]).length) p) (⟨_,_,_,rfl,u,e,by rw[if_neg oM];rfl⟩)
theorem Cq  (w:World)(h:Hp)(g:G w h):CV 178 #[.string (⟨#[49]⟩)] w h (.tuple #[nv 1,.bool true]):=by
 have a:=sS g;refine go Tryz.func178 [(0,.string (⟨#[49]⟩))] rfl (aD (lA 2 25 ([uV 0,eS]) a (fun e w2 u a=>lL a ac (af (aa a [.c,.v (iV 1),.v qF,.c,.c,.v (iV 1),.v qF,.v qF,.c,.c,.v (iV 1),.v qF,.c] (lG 21 ?_))))));refine lG 22 (lG 23 (lL a [.v qF,.v qF] (ah (cK (aa a ac (aR (lL a aK (af (aa a [.c,.v (iV 1),.c] (bh (cU ?_)))))))))));refine cN (aa a [.v qT] (af (cl (cK (cQ (kZ (aa a aK (af (aa a [.c,.c,.v (.int .u8 49),.v qF,.c,.c,.c,.v (.int .u8 49),.v qF,.v qF] (ah (cK (aa a [.c,.v (uV 0),.c,.c,.v (.int .u8 49),.v (.int .u8 1),.v (uV 1),.v (uV 1),.c,.v (uV 10),.c,.c] (aR (lL a [.c,.v qF,.c,.c,.c,.v (iV 1),.v (iV 0),.v qT,.v qT] (au (aa a fE (lC 65 a (GA 10 1 kD _ _ a.g) ?_)))))))))))))))));rintro _ w4 p a ⟨b,c2,l2,rfl,j,i,d⟩;obtain rfl:l2=[1]:=d;replace a:=a.aS i;refine lL a ac (lN (kQ (lL a aK (lN (kQ (lL a [.v (iV 1),.c] (lD (CL.to [(0,.string (⟨#[49]⟩)),(2,pB e),(3,qF),(4,qS b 1 c2),(5,uV 0),(6,uV 1),(28,iV 1),(29,iV 1),(30,qT),(31,iV 0),(7,iV 0),(32,.string (⟨#[49]⟩)),(33,iV 0),(34,.int .u8 49),(35,qF),(36,qF),(37,.string (⟨#[49]⟩)),(38,iV 0),(39,.int .u8 49),(40,qF),(41,qF),(43,uV 0),(44,uV 0),(45,.string (⟨#[49]⟩)),(46,iV 0),(47,.int .u8 49),(48,.int .u8 1),(49,uV 1),(50,uV 1),(51,uV 1),(52,uV 10),(53,uV 10),(54,qF),(55,qF),(56,iV 0),(57,.string (⟨#[49]⟩)),(58,iV 1),(59,iV 0),(60,qT),(61,qT),(62,sZ),(63,uV 10),(64,uV 1),(65,qS b 1 c2),(66,iV 1)] ?_))))))));replace a:=a.to [⟨e,25,[uV 0,eS]⟩] [];refine cN (aa a [.v qF] (af (cW (CG.exit ?_))))
 show CG _ _ _ _ _ _ _ _
 exact cj [(2,pB e),(3,qF),(4,qS b 1 c2)] (aa a ac (am 68 a (CQ b c2 [1] (Dg.one kD) kD j _ _ a.g a.f.1) (fun l x a=>lP 0 0 (nc (aF [1])) a (fun o a=>lL a ac (ae a [(0,0,2)] (.tuple #[nv (aF [1]),qT]) rfl)))))
theorem F3 (x:ByteArray)(c:UInt8)(b:∀ i,i<x.size->aU x i≠c.toNat)(w:World)(h:Hp)(g:G w h):CV 207 #[.string x,.string (⟨#[c]⟩)] w h (.tuple #[.string x,eS,.bool false]):=by
 have a:=sS g;exact go Tryz.func207 [(0,.string x),(1,.string (⟨#[c]⟩))] rfl (aa a fE (af (aa a aK (am 10 a (Bm x c b _ _ a.g) (fun w1 d a=>lL a ac (aR (lL a [.c,.v qF] (ah (cK (aa a pR (ae a [] (.tuple #[.string x,eS,qF]) rfl)))))))))))
theorem CX (x:ByteArray)(c:UInt8)(b:∀ i,i<x.size->aU x i≠c.toNat)(w:World)(h:Hp)(g:G w h):CV 201 #[.string x,.string (⟨#[c]⟩)] w h (.tuple #[.string x,eS,.bool false]):=by
 have a:=sS g;exact go Tryz.func201 [(0,.string x),(1,.string (⟨#[c]⟩))] rfl (aa a fE (aR (lL a aK (am 9 a (F3 x c b _ _ a.g) (fun w1 d a=>lL a [.v (.string x),.v (eS),.v qF,.c,.c,.c] (ae a [] (.tuple #[.string x,eS,qF]) rfl))))))
theorem BU  (w:World)(h:Hp)(g:G w h):CV 204 #[.string (⟨#[49]⟩)] w h (.tuple #[iv ((1:Nat):Int),.bool true]):=by
 have a:=sS g;refine go Tryz.func204 [(0,.string (⟨#[49]⟩))] rfl (aD (lA 2 27 ([qF,uV 0,eS]) a (fun e w2 i a=>lL a ac (aR (lL a ac (am 10 a (pf ⟨#[49]⟩ 45 (by show aU ⟨#[49]⟩ 0≠45;decide) _ _ a.g) (fun w4 f a=>lL a [.c,.v (.string (⟨#[49]⟩)),.v qF,.c,.c] (aR (lL a ac (am 15 a (Cq _ _ a.g) (fun b j a=>lL a [.c,.v (nv 1),.v qT] (lA 6 25 ([uV 0,eS]) a (fun b8 d _ a=>lP 0 0 (nc 1) a (fun _ a=>lL a ac (af (aa a [.c,.v qF,.c,.c,.c] (lG 23 ?_)))))))))))))))));exact lG 24 (lG 25 (lL a [.v qF,.v qF] (ah (cK (aa a [.c,.o (nv 1) 0 0 2] (am 31 a (dQ 1 _ _ a.g) (fun _ _ a=>lP 1 0 (ic ((1:Nat):Int)) a (fun _ a=>lL a ac (ae a [(1,0,3)] (.tuple #[iv ((1:Nat):Int),qT]) rfl)))))))))
theorem x8  (w:World)(h:Hp)(g:G w h):CV 195 #[.string (⟨#[49]⟩)] w h (.tuple #[qv ((1:Nat):Rat),.bool true]):=by
 have a:=sS g;exact go Tryz.func195 [(0,.string (⟨#[49]⟩))] rfl (aD (lA 2 29 a1 a (fun p w2 x a=>lL a ac (af (aa a ac (am 14 a (CX ⟨#[49]⟩ 47 (by intro i hi;obtain rfl:i=0:=(by have:i<1:=hi;omega);show aU ⟨#[49]⟩ 0≠47;decide) _ _ a.g) (fun w4 u a=>lL a [.c,.v (.string (⟨#[49]⟩)),.v (eS),.v qF,.c,.c,.c] (aR (lL a ac (ah (cK (cQ (aa a ac (am 26 a (CX ⟨#[49]⟩ 46 (by intro i hi;obtain rfl:i=0:=(by have:i<1:=hi;omega);show aU ⟨#[49]⟩ 0≠46;decide) _ _ a.g) (fun f y a=>lL a [.c,.v (.string (⟨#[49]⟩)),.v (eS),.v qF,.c,.c,.c] (aR (lL a ac (ah (cK (aa a ac (am 38 a (BU _ _ a.g) (fun j l a=>lL a [.c,.v (iv ((1:Nat):Int)),.v qT] (lA 10 27 ([qF,uV 0,eS]) a (fun e _ _ a=>lP 0 0 (ic ((1:Nat):Int)) a (fun _ a=>lL a ac (aR (lL a [.o (iv ((1:Nat):Int)) 0 0 3,.v (.agg #[.bool (aw ((1:Nat):Int)),uV (lo (ab ((1:Nat):Int))),.string (hi (ab ((1:Nat):Int))),uV 0,eS]),.c] (lP 1 0 ([.bool (aw ((1:Nat):Int)),uV (lo (ab ((1:Nat):Int))),.string (hi (ab ((1:Nat):Int))),uV 0,eS]) a (fun _ a=>lL a ac (ae a [(1,0,5)] (.tuple #[.agg #[.bool (aw ((1:Nat):Int)),uV (lo (ab ((1:Nat):Int))),.string (hi (ab ((1:Nat):Int))),uV 0,eS],qT]) (congrArg (fun b=>Value.tuple #[b,qT]) (ik (d:=0) (Rat.num_natCast 1) (kP (Rat.den_natCast 1))))))))))))))))))))))))))))))))))
def Hn (x:ByteArray):Option Rat:=if x=⟨#[49]⟩ then some ((1:Nat):Rat) else none
theorem Fd:DQ Hn:=fun x q h w a g _=>by
 unfold Hn at h
 split at h
 ·rename_i e;subst e;injection h with h;subst h;exact x8 w a g
 ·cases h
theorem Iu:∀ s,it s->∀ (w:World) (h:Hp),G w h->Calls Tryz.prog 48 #[.string s] w (Ret w h (fun v _=>∃ b,v=.bool b/\b=aN s)):=fun s a w h g=>(Fk s (by unfold it at a;omega) w h g).mono fun e w' ⟨v,c,e1,u,e2⟩=>⟨v,c,e1,u,_,e2,rfl⟩
theorem TmH.cut {ok:ByteArray->Prop}{h:Hp}:∀ {e d:Nat} {p:PTm} {t:Tm},TmH e h p t->WfT ok d t->TmH d h p t
 | _,0,_,_,_,x=>x.elim
 | 0,_,_,_,x,_=>x.elim
 | e+1,d+1,p,t,⟨h1,h2,h3,h4,h5,h6,ps,h7,h8,h9⟩,⟨_,_,_,_,_,_,_,_,k⟩=>⟨h1,h2,h3,h4,h5,h6,ps,h7,h8,fun i hi=>(h9 i hi).cut (k i hi)⟩
theorem PtH.cut {ok:ByteArray->Prop}{h:Hp}{d:Nat}{p:PTm}{t:Tm}(x:PtH h p t)(y:WfT ok d t):TmH d h p t:=by obtain ⟨e,x⟩:=x;exact x.cut y
theorem vB (s:ByteArray)(I:s.size<=65536)(n:Nat)(t:Tm)(b:Nat)(H:fx Hn s n .sum 0=some (.ok t b))(hb:sk s b=s.size)(d:Nat)(Q:d<=24)(y:WfT (fun s=>aN s=true) d t)(U:ba d t<=1000)(w:World)(h:Hp)(g:G w h)(L:Tab h):CR 22 #[.string s] w h (fun v h1=>∃ p,v=.tuple #[ar p,.agg #[iV 0,iV 0,iV 0]]/\TmH d h1 p t):=by
 have a:=((sS g).add (K:=fun e=>Tab e) L);refine go Tryz.func22 [(0,.string s)] rfl (aD (lA 2 32 a2 a (fun z w2 W a=>lA 3 84 ([iV 0,iV 0,iV 0]) a (fun B S X a=>af (aa a [.c,.v (nV s.size)] ?_)))));have u:(decide ((65536:Int)<(s.size:Int)))=false:=decide_eq_false oM;refine lB 9 u (ah (cK (aa a [.c,.v (.agg #[.string s,iV 0,iV 0])] (lA 14 122 ([.string s,iV 0,iV 0]) a (fun b8 V _ a=>lL a ac (aR (lL a ac (fD 16 ((Ie Fd n).1 b8 s oM 0 (JL _) 0 t b H _ _ a.g (a.own 0) (a.jk 0) a.f.1) ?_))))))));rintro _ _ _ j ⟨D,p,rfl,x,O,M,J⟩;replace a:=(a.stepM 0 j O).to [⟨b8,122,[.string s,nV b,iV 0]⟩,⟨B,84,[iV 0,iV 0,iV 0]⟩,⟨z,32,[iV 0,iV 0,qF,uV 0,eS,uV 0,eS,eS,sZ]⟩] [];replace a:=((a.a_Seg M).add (K:=fun e=>PtH e p t) J);refine lL a ac (af (aa a [.c,.v qT] (au (aa a ac (fD 20 (vJ b8 s oM b x 0 _ _ a.g (a.own 0) (a.jk 0) a.f.r.1) ?_)))));rintro _ _ _ l ⟨rfl,i⟩;rw[hb] at i
 rw[hb];replace a:=(a.stepM 0 l i).to [⟨b8,122,[.string s,nV s.size,iV 0]⟩,⟨B,84,[iV 0,iV 0,iV 0]⟩,⟨z,32,[iV 0,iV 0,qF,uV 0,eS,uV 0,eS,eS,sZ]⟩] [];refine aR (lL a [.c,.v (pB b8),.v (qP b8 1),.o (nV s.size) 0 1 1,.c,.v (nV s.size)] ?_);have F:(decide ((s.size:Int)<(s.size:Int)))=false:=decide_eq_false oM;refine lB 27 F (ah (cK (cQ (aa a [.c,.v qF] (ah (cK (cQ (aa a [.c,.v (pB D)] (lH 44 (ar p) a a.f.2.1 ?_)))))))));refine am 45 a ((by have C:=Gp aN it Iu (fun s e=>mm e) Dz d p t Q _ _ a.g ((a.f.1).cut y) y;rw[if_neg oM] at C;exact C)) (fun _ _ a=>lL a ac (aR (lL a [.c,.v qF] (ah (cK (aa a [.c,.v (pB D)] (lH 53 (ar p) a a.f.2.1 ?_)))))));exact lL a [.v (.agg #[iV 0,iV 0,iV 0])] (lP 2 0 (aI p) a (fun _ a=>lP 1 0 ([iV 0,iV 0,iV 0]) a (fun _ a=>ae a [(2,0,9),(1,0,3)] (.tuple #[ar p,.agg #[iV 0,iV 0,iV 0]]) (⟨p,rfl,(a.f.1).cut y⟩))))
theorem oR (z:Z9)(u B:Nat)(p:Z9)(y j:Nat)(n:Nat)(L:n<=12)(q:Rat)(hk:Hp)(w:World)(h:Hp)(g:G w h)(hz:hk.size<=h.size):CR 277 #[.agg #[.slice z u B,.slice p y j,nV n],qv q] w h (fun v h1=>∃ J,v=.slice (sB J) (n+1) (n+1)/\Nw hk.size h1 J 29 ((fG (n+1) q).flatMap qc)):=by
 have a:=sS g;have F:(yp (n+1) (0:Rat)).length=n+1:=KX;refine go Tryz.func277 [(0,.agg #[qS z u B,qS p y j,nV n]),(1,qv q)] rfl (aD (lA 2 165 ([qS z u B,qS p y j,nV n]) a (fun D w2 Q a=>lA 3 29 (qc q) a (fun H O U a=>lL a ac (aR (lL a [.v (qP D 2),.o (nV n) 1 2 1] (bI 8 ((n:Nat)+1) (n+1) ?_)))))));refine lK 9 29 (n+1) 5 56 ca qc 0 a (fun C M S a=>?_);have K:(yp (n+1) (0:Rat)).length=(n+1):=by simp
 refine lL a ac (aR (lL a [.c,.o (qv q) 1 0 5] (lX 12 (sB C) (n+1) (n+1) 5 0 0 rfl ?_)));refine lW 0 (yp (n+1) (0:Rat)) qc 5 0 q a oM (fun _ a=>?_);have I:((yp (n+1) (0:Rat)).set 0 q).length=(n+1):=by rw[Gx];exact K
 replace a:=a.to [⟨C,29,((yp (n+1) (0:Rat)).set 0 q).flatMap qc⟩,⟨H,29,qc q⟩,⟨D,165,[qS z u B,qS p y j,nV n]⟩] [];refine aR (lL a aK (lN (kX ?_)));obtain ⟨_,a,i,e,x⟩:=a.pub 0;replace a:=(a.to [⟨H,29,qc q⟩,⟨D,165,[qS z u B,qS p y j,nV n]⟩] []).aS (SlO.of_flat (sz:=5) (f:=qc) (d:=0) (b:=C) (o:=0) (l:=(yp (n+1) (0:Rat)).set 0 q) (fun _=>rfl) i);exact a.ret [] (qS (sB C) (n+1) (n+1)) (⟨_,rfl,eu hz e,by decide,x⟩)
theorem tG (p:Z9)(i x:Nat)(c:Z9)(j a:Nat)(n:Nat)(z:n<=12)(q:Rat)(w:World)(h:Hp)(g:G w h):Calls Tryz.prog 277 #[.agg #[.slice p i x,.slice c j a,nV n],qv q] w (Ret w h (fun v h1=>∃ y,v=.slice (sB y) (fG (n+1) q).length (n+1)/\Sq (sB y) (fG (n+1) q) h1)) :=
 (oR p i x c j a n z q h w h g (nR _)).mono fun e w' ⟨v,C,e1,u,b,e2,B⟩=>⟨v,C,e1,u,b,by rw[oW];exact e2,SlO.of_flat (sz:=5) (f:=qc) (d:=0) (b:=b) (o:=0) (l:=fG (n+1) q) (fun _=>rfl) B.seg0⟩
theorem F4 (D:Z9)(z F:Nat)(x:Z9)(C u:Nat)(n:Nat)(hn:n<=12)(j:List Rat)(y:Z9)(Q:Nat)(hla:j.length=n+1)(J:∀ i,LQ 39500000 (j.getD i 0))(e:List Rat)(B:Z9)(O:Nat)(hlb:e.length=n+1)(S:∀ i,LQ 39500000 (e.getD i 0))(w:World)(h:Hp)(g:G w h)(X:Sq y j h)(Y:Sq B e h)(tb:Tab h):CR 272 #[.agg #[.slice D z F,.slice x C u,nV n],.slice y j.length Q,.slice B e.length O] w h (fun v h1=>∃ bk,v=.slice (sB bk) (nC (n+1) j e).length (n+1)/\Sq (sB bk) (nC (n+1) j e) h1):=by
 have a:=((((sS g).aS X).aS Y).add (K:=fun H=>Tab H) tb);refine go Tryz.func272 [(0,.agg #[qS D z F,qS x C u,nV n]),(1,qS y j.length Q),(2,qS B e.length O)] rfl (aD (lA 3 165 ([qS D z F,qS x C u,nV n]) a (fun M w2 h3 a=>lL a ac (aR (lL a [.v (qP M 2),.o (nV n) 0 2 1] (bI 11 ((n:Nat)+1) (n+1) ?_))))));refine lK 12 29 (n+1) 5 56 ca qc 0 a (fun p w5 h6 a=>?_);have hl7:(yp (n+1) 0).length=(n+1):=by simp
 refine lL a ac (af (aa a [.c,.v (nV (n+1)),.c] (bh ?_)));refine cj _ (CG.loop (fun V Γ w_=>∃ (k:Nat)(L:List Rat)(H:Hp),V=n+1-k/\Γ=[(1,qS y j.length Q),(2,qS B e.length O),(6,sZ),(7,qS (sB p) (n+1) (n+1)),(14,nV (n+1)),(15,nV k)]/\SS w h w_ H [⟨p,29,(L).flatMap qc⟩,⟨M,165,[qS D z F,qS x C u,nV n]⟩] [] [fun H=>Tab H,Sq B e,Sq y j]/\k<=n+1/\L.length=n+1/\L=dC (fun i=>j.getD i 0+e.getD i 0) (n+1) k) _ ⟨0,(yp (n+1) (0:Rat)),h6,rfl,rfl,a.to _ _,JL _,KX,(iu _ _)⟩ ?_);rintro _ _ w8 ⟨k,L,h9,bb,rfl,a,hk,W,Z⟩;refine aD ?_;cases U:(decide ((k:Int)<(((n+1):Nat):Int)))
 .
  have zb:=oF U;refine lB 16 U (af (cW (CG.exit ?_)))
  show CG _ _ _ _ _ _ _ _
  refine aa a aK (lN (kX ?_));have hkm:k=n+1:=by omega
  rw[hkm,fd] at Z
  subst Z;replace a:=a.to [⟨p,29,(((hO (n+1)).map fun i=>j.getD i 0+e.getD i 0)).flatMap qc⟩,⟨M,165,[qS D z F,qS x C u,nV n]⟩] [];obtain ⟨_,a,I,bf,bl⟩:=a.pub 0;replace a:=(a.to [⟨M,165,[qS D z F,qS x C u,nV n]⟩] []).aS (SlO.of_flat (sz:=5) (f:=qc) (d:=0) (b:=p) (o:=0) (l:=((hO (n+1)).map fun i=>j.getD i 0+e.getD i 0)) (fun _=>rfl) I);exact a.ret [] (qS (sB p) (n+1) (n+1)) (⟨_,by rw[vT],a.f.1⟩)
 have zb:=oT U;refine lB 16 U (af (cl (cK (cQ (kZ (aa a aK (lN (cR 11 [] mixed a aq ?_))))))));refine eV 0 18 (qS (sB p) (n+1) (n+1)) (eV 1 19 (nV k) (eV 2 20 (qS y j.length Q) (eV 3 21 (nV k) (eX 4 22 y j.length Q 5 (k:Nat) k ((a.f.r.1).ok oM) (eH 5 23 (qv (j.getD k 0)) a ((a.f.r.1).el k oM) (eV 6 24 (qS B e.length O) (eV 7 25 (nV k) (eX 8 26 B e.length O 5 (k:Nat) k ((a.f.2.1).ok oM) (eH 9 27 (qv (e.getD k 0)) a ((a.f.2.1).el k oM) ?_)))))))));have bd:=LQ.add (J k) (S k);refine ai 10 28 a (fun _ _ a=>nu (j.getD k 0) (e.getD k 0) (LQ.mono (J k) oM) (LQ.mono (S k) oM) _ _ a.g a.f.1) (fun _ _ a=>bY a (fun _ zd a=>tX 11 29 (sB p) (n+1) (n+1) 5 (k:Nat) k rfl (tW 12 0 L qc 5 k ((j.getD k 0)+(e.getD k 0)) a oM (fun _ a=>?_))));have zc:((L).set k ((j.getD k 0)+(e.getD k 0))).length=(n+1):=by rw[Gx];exact W
 replace a:=a.to [⟨p,29,((L).set k ((j.getD k 0)+(e.getD k 0))).flatMap qc⟩,⟨M,165,[qS D z F,qS x C u,nV n]⟩] [];refine tN (kQ (bI 30 ((k:Nat)+1) (k+1) ?_));refine lL a ac (lD ?_);intro a_ ka;refine ⟨_,_,?_,⟨k+1,(L).set k ((j.getD k 0)+(e.getD k 0)),zd,rfl,rfl,a.to _ _,oM,zc,(by rw[Z];exact e7 oM)⟩,ka.to _ kR⟩
 omega
theorem BE (C:Z9)(z D:Nat)(x:Z9)(B u:Nat)(n:Nat)(hn:n<=12)(e:List Rat)(y:Z9)(M:Nat)(hla:e.length=n+1)(H:∀ i,LQ 39500000 (e.getD i 0))(j:Rat)(O:LQ 1 j)(w:World)(h:Hp)(g:G w h)(W:Sq y e h)(tb:Tab h):CR 278 #[.agg #[.slice C z D,.slice x B u,nV n],.slice y e.length M,qv j] w h (fun v h1=>∃ bk,v=.slice (sB bk) (i6 (n+1) e j).length (n+1)/\Sq (sB bk) (i6 (n+1) e j) h1):=by
 have a:=(((sS g).aS W).add (K:=fun F=>Tab F) tb);refine go Tryz.func278 [(0,.agg #[qS C z D,qS x B u,nV n]),(1,qS y e.length M),(2,qv j)] rfl (aD (lA 3 165 ([qS C z D,qS x B u,nV n]) a (fun I w2 h3 a=>lA 5 29 (qc j) a (fun J w5 h6 a=>lL a ac (aR (lL a [.v (qP I 2),.o (nV n) 1 2 1] (bI 11 ((n:Nat)+1) (n+1) ?_)))))));refine lK 12 29 (n+1) 5 56 ca qc 0 a (fun p w8 h9 a=>?_);have bd:(yp (n+1) 0).length=(n+1):=by simp
 refine lL a ac (af (aa a [.c,.v (nV (n+1)),.c] (bh ?_)));refine cj _ (CG.loop (fun U Γ w_=>∃ (k:Nat)(L:List Rat)(F:Hp),U=n+1-k/\Γ=[(1,qS y e.length M),(5,pB J),(6,sZ),(7,qS (sB p) (n+1) (n+1)),(14,nV (n+1)),(15,nV k)]/\SS w h w_ F [⟨p,29,(L).flatMap qc⟩,⟨J,29,qc j⟩,⟨I,165,[qS C z D,qS x B u,nV n]⟩] [] [fun F=>Tab F,Sq y e]/\k<=n+1/\L.length=n+1/\L=dC (fun i=>e.getD i 0*j) (n+1) k) _ ⟨0,(yp (n+1) (0:Rat)),h9,rfl,rfl,a.to _ _,JL _,KX,(iu _ _)⟩ ?_);rintro _ _ _ ⟨k,L,_,Z,rfl,a,hk,V,X⟩;refine aD ?_;cases S:(decide ((k:Int)<(((n+1):Nat):Int)))
 .
  have zb:=oF S;refine lB 16 S (af (cW (CG.exit ?_)))
  show CG _ _ _ _ _ _ _ _
  refine aa a aK (lN (kX ?_));have Y:k=n+1:=by omega
  rw[Y,fd] at X
  subst X;replace a:=a.to [⟨p,29,(((hO (n+1)).map fun i=>e.getD i 0*j)).flatMap qc⟩,⟨J,29,qc j⟩,⟨I,165,[qS C z D,qS x B u,nV n]⟩] [];obtain ⟨_,a,Q,bl,bb⟩:=a.pub 0;replace a:=(a.to [⟨J,29,qc j⟩,⟨I,165,[qS C z D,qS x B u,nV n]⟩] []).aS (SlO.of_flat (sz:=5) (f:=qc) (d:=0) (b:=p) (o:=0) (l:=((hO (n+1)).map fun i=>e.getD i 0*j)) (fun _=>rfl) Q);exact a.ret [] (qS (sB p) (n+1) (n+1)) (⟨_,by rw[oD],a.f.1⟩)
 have zb:=oT S;refine lB 16 S (af (cl (cK (cQ (kZ (aa a aK (lN (cR 8 [] mixed a aq ?_))))))));refine eV 0 18 (qS (sB p) (n+1) (n+1)) (eV 1 19 (nV k) (eV 2 20 (qS y e.length M) (eV 3 21 (nV k) (eX 4 22 y e.length M 5 (k:Nat) k ((a.f.2.1).ok oM) (eH 5 23 (qv (e.getD k 0)) a ((a.f.2.1).el k oM) (eO 6 24 [(1,0,5)] (qv j) a ?_))))));have bf:=LQ.mul (H k) O;refine ai 7 25 a (fun _ _ a=>iS (e.getD k 0) j (LQ.mono (H k) oM) (LQ.mono O oM) _ _ a.g a.f.1) (fun _ _ a=>bY a (fun _ zd a=>tX 8 26 (sB p) (n+1) (n+1) 5 (k:Nat) k rfl (tW 9 0 L qc 5 k ((e.getD k 0)*j) a oM (fun _ a=>?_))));have zc:((L).set k ((e.getD k 0)*j)).length=(n+1):=by rw[Gx];exact V
 replace a:=a.to [⟨p,29,((L).set k ((e.getD k 0)*j)).flatMap qc⟩,⟨J,29,qc j⟩,⟨I,165,[qS C z D,qS x B u,nV n]⟩] [];refine tN (kQ (bI 27 ((k:Nat)+1) (k+1) ?_));refine lL a ac (lD ?_);intro a_ ka;refine ⟨_,_,?_,⟨k+1,(L).set k ((e.getD k 0)*j),zd,rfl,rfl,a.to _ _,oM,zc,(by rw[X];exact e7 oM)⟩,ka.to _ kR⟩
 omega
theorem Hm (J:Z9)(H M:Nat)(F:Z9)(I D:Nat)(n:Nat)(hn:n<=12)(p:List Rat)(z:Z9)(V:Nat)(hla:p.length=n+1)(X:∀ i,LQ 39500000 (p.getD i 0))(e:List Rat)(B:Z9)(U:Nat)(hlb:e.length=n+1)(Y:∀ i,LQ 39500000 (e.getD i 0))(hcv:∀ i j,i<=n->j<=i+1->LQ 39500000 (fF p e i j))(w:World)(h:Hp)(g:G w h)(hSa:Sq z p h)(hSb:Sq B e h)(tb:Tab h):CR 276 #[.agg #[.slice J H M,.slice F I D,nV n],.slice z p.length V,.slice B e.length U] w h (fun v h1=>∃ bk,v=.slice (sB bk) (jX (n+1) p e).length (n+1)/\Sq (sB bk) (jX (n+1) p e) h1):=by
 have a:=((((sS g).aS hSa).aS hSb).add (K:=fun y=>Tab y) tb);refine go Tryz.func276 [(0,.agg #[qS J H M,qS F I D,nV n]),(1,qS z p.length V),(2,qS B e.length U)] rfl (aD (lA 3 165 ([qS J H M,qS F I D,nV n]) a (fun S w2 h3 a=>lL a ac (aR (lL a [.v (qP S 2),.o (nV n) 0 2 1] (bI 12 ((n:Nat)+1) (n+1) ?_))))));refine lK 13 29 (n+1) 5 56 ca qc 0 a (fun x w5 h6 a=>?_);have hl7:(yp (n+1) 0).length=(n+1):=by simp
 refine lL a ac (af (aa a [.c,.v (nV (n+1)),.c] (bh ?_)));refine cj _ (CG.loop (fun O Γ w_=>∃ (i:Nat)(L:List Rat)(y:Hp),O=n+1-i/\Γ=[(1,qS z p.length V),(2,qS B e.length U),(6,sZ),(7,qS (sB x) (n+1) (n+1)),(15,nV (n+1)),(16,nV i)]/\SS w h w_ y [⟨x,29,(L).flatMap qc⟩,⟨S,165,[qS J H M,qS F I D,nV n]⟩] [] [fun y=>Tab y,Sq B e,Sq z p]/\i<=n+1/\L.length=n+1/\L=dC (fun i_=>fF p e i_ (i_+1)) (n+1) i) _ ⟨0,(yp (n+1) (0:Rat)),h6,rfl,rfl,a.to _ _,JL _,KX,(iu _ _)⟩ ?_);rintro _ _ w8 ⟨i,L,h9,bd,rfl,a,hi,hL1,hL⟩;refine aD ?_;cases za:(decide ((i:Int)<(((n+1):Nat):Int)))
 .
  have zd:=oF za;refine lB 17 za (af (cW (CG.exit ?_)))
  show CG _ _ _ _ _ _ _ _
  refine aa a aK (lN (kX ?_));have hkm:i=n+1:=by omega
  rw[hkm,Cd] at hL
  subst hL;replace a:=a.to [⟨x,29,((jX (n+1) p e)).flatMap qc⟩,⟨S,165,[qS J H M,qS F I D,nV n]⟩] [];obtain ⟨_,a,W,bf,bm⟩:=a.pub 0;replace a:=(a.to [⟨S,165,[qS J H M,qS F I D,nV n]⟩] []).aS (SlO.of_flat (sz:=5) (f:=qc) (d:=0) (b:=x) (o:=0) (l:=(jX (n+1) p e)) (fun _=>rfl) W);exact a.ret [] (qS (sB x) (n+1) (n+1)) (⟨_,by rw[uS],a.f.1⟩)
 have zd:=oT za;refine lB 17 za (af (cl (cK (cQ (kZ (aa a aK (aR (lL a ac (bI 20 ((i:Nat)+1) (i+1) ?_)))))))));refine lL a ac (bh ?_);refine cj _ (CG.loop (fun O Γ w_=>∃ (j:Nat)(u:List Rat)(y:Hp),O=i+1-j/\Γ=[(1,qS z p.length V),(2,qS B e.length U),(6,sZ),(7,qS (sB x) (n+1) (n+1)),(15,nV (n+1)),(16,nV i),(8,nV i),(20,nV (i+1)),(21,nV j)]/\SS w h w_ y [⟨x,29,(u).flatMap qc⟩,⟨S,165,[qS J H M,qS F I D,nV n]⟩] [] [fun y=>Tab y,Sq B e,Sq z p]/\j<=i+1/\u.length=n+1/\u=(dC (fun i_=>fF p e i_ (i_+1)) (n+1) i).set i (fF p e i j)) _ ⟨0,L,h9,rfl,rfl,a.to _ _,JL _,hL1,(by rw[hL];exact E8 oM)⟩ ?_);rintro _ _ _ ⟨j,u,zg,bl,rfl,a,hj,Z,Q⟩;have C:LQ 39500000 (u.getD i 0):=by rw[Q,DV (jP _ _ _) oM];exact hcv i j oM hj
 refine aD ?_;cases zb:(decide ((j:Int)<((i+1:Nat):Int)))
 .
  have ze:=oF zb;refine lB 22 zb (af (cW (CG.exit ?_)))
  show CG _ _ _ _ _ _ _ _
  refine kQ (bI 44 ((i:Nat)+1) (i+1) ?_);refine lL a ac (lD ?_);intro a_ ka;refine ⟨_,_,?_,⟨i+1,u,zg,rfl,rfl,a.to _ _,oM,Z,(by rw[Q];exact An oM oM)⟩,ka.to _ kR⟩
  omega
 have ze:=oT zb;refine lB 22 zb (af (cl (cK (cQ (kZ (aa a aK (lN (cR 18 [] mixed a aq ?_))))))));refine eV 0 24 (qS (sB x) (n+1) (n+1)) (eV 1 25 (nV i) (eV 2 26 (qS (sB x) (n+1) (n+1)) (eV 3 27 (nV i) (eX 4 28 (sB x) (n+1) (n+1) 5 (i:Nat) i rfl (eQ 5 29 0 u qc 5 0 i (qv ((u).getD i 0)) a oM (eV 6 30 (qS z p.length V) (eV 7 31 (nV j) (eX 8 32 z p.length V 5 (j:Nat) j ((a.f.r.1).ok oM) (eH 9 33 (qv (p.getD j 0)) a ((a.f.r.1).el j oM) (eV 10 34 (qS B e.length U) (eV 11 35 (nV i) (eV 12 36 (nV j) (eI 13 37 ((i:Nat)-(j:Nat)) (eX 14 38 B e.length U 5 ((i:Nat)-(j:Nat)) (i-j) ((a.f.2.1).ok oM) (eH 15 39 (qv (e.getD (i-j) 0)) a ((a.f.2.1).el (i-j) oM) ?_)))))))))))))));have zc:=LQ.mul (X j) (Y (i-j));refine ai 16 40 a (fun _ _ a=>iS (p.getD j 0) (e.getD (i-j) 0) (LQ.mono (X j) oM) (LQ.mono (Y (i-j)) oM) _ _ a.g a.f.1) (fun _ _ a=>?_);have bb:=LQ.add C zc;refine ai 17 41 a (fun _ _ a=>nu ((u).getD i 0) ((p.getD j 0)*(e.getD (i-j) 0)) (LQ.mono C oM) (LQ.mono zc oM) _ _ a.g a.f.1) (fun _ _ a=>bY a (fun _ zi a=>tX 18 42 (sB x) (n+1) (n+1) 5 (i:Nat) i rfl (tW 19 0 u qc 5 i (((u).getD i 0)+((p.getD j 0)*(e.getD (i-j) 0))) a oM (fun _ a=>?_))));have zf:((u).set i (((u).getD i 0)+((p.getD j 0)*(e.getD (i-j) 0)))).length=(n+1):=by rw[Gx];exact Z
 replace a:=a.to [⟨x,29,((u).set i (((u).getD i 0)+((p.getD j 0)*(e.getD (i-j) 0)))).flatMap qc⟩,⟨S,165,[qS J H M,qS F I D,nV n]⟩] [];refine tN (kQ (bI 43 ((j:Nat)+1) (j+1) ?_));refine lL a ac (lD ?_);intro a_ ka;refine ⟨_,_,?_,⟨j+1,(u).set i (((u).getD i 0)+((p.getD j 0)*(e.getD (i-j) 0))),zi,rfl,rfl,a.to _ _,oM,zf,(by rw[Q];exact Fs (jP _ _ _) oM)⟩,ka.to _ kR⟩
 omega
theorem uO (M:Z9)(I O:Nat)(H:Z9)(J F:Nat)(n:Nat)(hn:n<=12)(e:List Rat)(y:Z9)(Q:Nat)(hla:e.length=n+1)(D:∀ i,LQ 39500000 (e.getD i 0))(hz:e.getD 0 0≠0)(hvi:∀ i,LQ 39500000 ((fz (n+1) e).getD i 0))(hcv:∀ i j,i<=n->j<=i->LQ 39500000 (fF (fz (n+1) e) e i j))(w:World)(h:Hp)(g:G w h)(hSa:Sq y e h)(tb:Tab h):CR 275 #[.agg #[.slice M I O,.slice H J F,nV n],.slice y e.length Q] w h (fun v h1=>∃ bk,v=.slice (sB bk) (fz (n+1) e).length (n+1)/\Sq (sB bk) (fz (n+1) e) h1):=by
 have a:=(((sS g).aS hSa).add (K:=fun C=>Tab C) tb);have bf:(yp (n+1) (0:Rat)).length=n+1:=KX;refine go Tryz.func275 [(0,.agg #[qS M I O,qS H J F,nV n]),(1,qS y e.length Q)] rfl (aD (lA 2 165 ([qS M I O,qS H J F,nV n]) a (fun B w2 h3 a=>lL a ac (aR (lL a [.v (qP B 2),.o (nV n) 0 2 1] (bI 11 ((n:Nat)+1) (n+1) ?_))))));refine lK 12 29 (n+1) 5 56 ca qc 0 a (fun p w5 h6 a=>?_);have hl7:(yp (n+1) (0:Rat)).length=(n+1):=by simp
 refine lL a ac (af (cR 9 [] mixed a aq ?_));refine eV 0 14 (qS (sB p) (n+1) (n+1)) (eV 2 16 (qS y e.length Q) (eX 3 17 y e.length Q 5 0 0 ((a.f.2.1).ok oM) (eH 4 18 (qv (e.getD 0 0)) a ((a.f.2.1).el 0 oM) (ai 1 15 a (fun _ _ a=>og (1) kD kD _ _ a.g) (fun w8 h9 a=>?_)))));have bl:=LQ.div (LQ.lit (z:=1) kD) (D 0);refine ai 5 19 a (fun _ _ a=>pg ((1:Int):Rat) (e.getD 0 0) (LQ.mono (LQ.lit (z:=1) kD) oM) (LQ.mono (D 0) oM) (sL hz) _ _ a.g a.f.1) (fun _ _ a=>eV 6 13 (.tuple #[qv (((1:Int):Rat)/(e.getD 0 0)),qT]) (eV 7 20 (qv (((1:Int):Rat)/(e.getD 0 0))) (eV 8 21 qT (bY a (fun _ zj a=>tX 9 22 (sB p) (n+1) (n+1) 5 0 0 rfl (tW 10 0 (yp (n+1) (0:Rat)) qc 5 0 (((1:Int):Rat)/(e.getD 0 0)) a oM (fun _ a=>?_)))))));have bn:((yp (n+1) (0:Rat)).set 0 (((1:Int):Rat)/(e.getD 0 0))).length=(n+1):=by rw[Gx];exact hl7
 replace a:=a.to [⟨p,29,((yp (n+1) (0:Rat)).set 0 (((1:Int):Rat)/(e.getD 0 0))).flatMap qc⟩,⟨B,165,[qS M I O,qS H J F,nV n]⟩] [];refine tN (cQ (aa a ac (bh ?_)));refine cj _ (CG.loop (fun S Γ Z=>∃ (i:Nat)(L:List Rat)(C:Hp),S=n+1-i/\Γ=[(1,qS y e.length Q),(2,pB B),(4,sZ),(5,qS (sB p) (n+1) (n+1)),(6,nV i)]/\SS w h Z C [⟨p,29,(L).flatMap qc⟩,⟨B,165,[qS M I O,qS H J F,nV n]⟩] [] [fun C=>Tab C,Sq y e]/\(1<=i/\i<=n+1)/\L.length=n+1/\L=(fU e (n+1) i)) _ ⟨1,(fU e (n+1) 1),zj,rfl,rfl,a.to _ _,⟨nR _,by omega⟩,(fi _ _ _),rfl⟩ ?_);rintro _ _ _ ⟨i,L,_,bx,rfl,a,hi,hL1,U⟩;have u:∀ k,LQ 39500000 (L.getD k 0):=fun k=>by rw[U];exact Ce kD hvi hi.2 k
 refine cQ (aa a [.c,.v (qP B 2),.o (nV n) 1 2 1] ?_);cases X:(decide ((i:Int)<=(n:Int)))
 .
  have zf:=oF X;refine lB 26 X (ah (CG.exit ?_))
  show CG _ _ _ _ _ _ _ _
  refine aa a aK (lN (kX ?_));have hkm:i=n+1:=by omega
  rw[hkm] at U
  replace U:L=fz (n+1) e:=U;subst U;replace a:=a.to [⟨p,29,((fz (n+1) e)).flatMap qc⟩,⟨B,165,[qS M I O,qS H J F,nV n]⟩] [];obtain ⟨_,a,V,bt,bb⟩:=a.pub 0;replace a:=(a.to [⟨B,165,[qS M I O,qS H J F,nV n]⟩] []).aS (SlO.of_flat (sz:=5) (f:=qc) (d:=0) (b:=p) (o:=0) (l:=(fz (n+1) e)) (fun _=>rfl) V);exact a.ret [] (qS (sB p) (n+1) (n+1)) (⟨_,by rw[oG],a.f.1⟩)
 have zf:=oT X;refine lB 26 X (au (cK (cQ (kZ (aa a [.v ca] (lA 7 29 a1 a (fun zc _ zk a=>lP 0 0 a1 a (fun _ a=>af (aa a aK (bh ?_))))))))));refine cj _ (CG.loop (fun S Γ Z=>∃ (j:Nat)(C:Hp),S=i-j/\Γ=[(1,qS y e.length Q),(2,pB B),(4,sZ),(5,qS (sB p) (n+1) (n+1)),(6,nV i),(7,pB zc),(30,nV i),(31,nV j)]/\SS w h Z C [⟨zc,29,qc (fF L e i j)⟩,⟨p,29,(L).flatMap qc⟩,⟨B,165,[qS M I O,qS H J F,nV n]⟩] [] [fun C=>Tab C,Sq y e]/\j<=i) _ ⟨0,zk,rfl,rfl,a.to _ _,JL _⟩ ?_);rintro _ _ _ ⟨j,_,bm,rfl,a,hj⟩;have x:LQ 39500000 (fF L e i j):=by rw[U,Ay hj hi.2];exact hcv i j oM hj
 refine aD ?_;cases Y:(decide ((j:Int)<(i:Int)))
 .
  have zg:=oF Y;refine lB 32 Y (af (cW (CG.exit ?_)))
  show CG _ _ _ _ _ _ _ _
  refine cR 8 [] mixed a aq (eV 0 48 (qS (sB p) (n+1) (n+1)) (eV 1 49 (nV i) ?_));have W:j=i:=by omega
  refine eO 2 50 [(0,0,5)] (qv (fF L e i j)) a (eV 3 51 (qS (sB p) (n+1) (n+1)) (eX 4 52 (sB p) (n+1) (n+1) 5 0 0 rfl (eQ 5 53 1 L qc 5 0 0 (qv ((L).getD 0 0)) a oM ?_)));have zd:=LQ.mul x (u 0);refine ai 6 54 a (fun _ _ a=>iS (fF L e i j) ((L).getD 0 0) (LQ.mono x oM) (LQ.mono (u 0) oM) _ _ a.g a.f.1) (fun _ _ a=>?_);have bd:LQ (39500000+39500000) (-((fF L e i j)*((L).getD 0 0))):=LQ.neg zd;refine ai 7 55 a (fun _ _ a=>Bd ((fF L e i j)*((L).getD 0 0)) (LQ.mono zd oM) _ _ a.g) (fun _ _ a=>bY a (fun _ zl a=>tX 8 56 (sB p) (n+1) (n+1) 5 (i:Nat) i rfl (tW 9 1 L qc 5 i (-((fF L e i j)*((L).getD 0 0))) a oM (fun _ a=>?_))));have zi:((L).set i (-((fF L e i j)*((L).getD 0 0)))).length=(n+1):=by rw[Gx];exact hL1
  replace a:=a.to [⟨zc,29,qc (fF L e i j)⟩,⟨p,29,((L).set i (-((fF L e i j)*((L).getD 0 0)))).flatMap qc⟩,⟨B,165,[qS M I O,qS H J F,nV n]⟩] [];refine tN (kQ (lL a ac (bI 28 ((i:Nat)+1) (i+1) ?_)));refine lL a ac (lD ?_);intro a_ ka;replace a:=a.drop 1 0;refine ⟨_,_,?_,⟨i+1,(L).set i (-((fF L e i j)*((L).getD 0 0))),zl,rfl,rfl,a.to _ _,oM,zi,(by rw[W,U];exact E9 hi.1)⟩,ka.to _ kR⟩
  omega
 have zg:=oT Y;refine lB 32 Y (af (cl (cK (cQ (kZ (aa a aK (lN (cR 13 [] mixed a aq ?_))))))));refine eO 0 34 [(0,0,5)] (qv (fF L e i j)) a (eV 1 35 (qS (sB p) (n+1) (n+1)) (eV 2 36 (nV j) (eX 3 37 (sB p) (n+1) (n+1) 5 (j:Nat) j rfl (eQ 4 38 1 L qc 5 0 j (qv ((L).getD j 0)) a oM (eV 5 39 (qS y e.length Q) (eV 6 40 (nV i) (eV 7 41 (nV j) (eI 8 42 ((i:Nat)-(j:Nat)) (eX 9 43 y e.length Q 5 ((i:Nat)-(j:Nat)) (i-j) ((a.f.2.1).ok oM) (eH 10 44 (qv (e.getD (i-j) 0)) a ((a.f.2.1).el (i-j) oM) ?_))))))))));have ze:=LQ.mul (u j) (D (i-j));refine ai 11 45 a (fun _ _ a=>iS ((L).getD j 0) (e.getD (i-j) 0) (LQ.mono (u j) oM) (LQ.mono (D (i-j)) oM) _ _ a.g a.f.1) (fun _ _ a=>?_);have bq:=LQ.add x ze;refine ai 12 46 a (fun _ _ a=>nu (fF L e i j) (((L).getD j 0)*(e.getD (i-j) 0)) (LQ.mono x oM) (LQ.mono ze oM) _ _ a.g a.f.1) (fun _ _ a=>bY a (fun _ zm a=>tP 13 0 0 (qc ((fF L e i j)+(((L).getD j 0)*(e.getD (i-j) 0)))) a (fun _ a=>tN (kQ (bI 47 ((j:Nat)+1) (j+1) ?_)))));refine lL a ac (lD ?_);intro a_ ka;refine ⟨_,_,?_,⟨j+1,zm,rfl,rfl,a.to _ _,oM⟩,ka.to _ kR⟩
 omega
end Go.Proofs.YtpnchlalmgmkeaaGreatDoor
