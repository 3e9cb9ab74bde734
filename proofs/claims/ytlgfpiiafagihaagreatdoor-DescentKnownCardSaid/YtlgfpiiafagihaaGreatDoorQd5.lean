/- Laws and contracts that the card of this claim stands on, part 6. No condition of ours. -/
import Derived.Test.YtlgfpiiafagihaaGreatDoorQd0
import Derived.Test.YtlgfpiiafagihaaGreatDoorQd1
import Derived.Test.YtlgfpiiafagihaaGreatDoorQd2
import Derived.Test.YtlgfpiiafagihaaGreatDoorQd3
import Derived.Test.YtlgfpiiafagihaaGreatDoorQd4
set_option maxRecDepth 100000
set_option maxHeartbeats 4000000
namespace Go.Proofs.YtlgfpiiafagihaaGreatDoor
open Go.RowKit
open Go.RowKit Go.Shelf
theorem FW (a:Rat)(ha:LQ 100000000 a)(ra ke:Rat)(sp ba:Int)(b sd rb:Nat)(hb:b≤256)(w:World)(h:Hp)(g:G w h)(hrb:Seg h rb 0 (DR ra ke sp ba (b:Nat) sd))(tb:Tab h):CV 83 #[qv a,pB rb] w h (qv (dd a b)):=by
 have hs:=(((sS g).a_Seg hrb).aB tb);refine go Tryz.func83 [(0,qv a),(1,pB rb)] rfl (aE (lA 2 28 (qc a) hs (fun b1 w2 h3 hs=>lA 3 28 ([qF,uV 0,eS,uV 0,eS]) hs (fun b4 w5 h6 hs=>aT (lL hs [.o 4 (qv a) 1 0 5,.v 5 (qP rb 12)] (lH 6 (nV b) hs ((hs.f.2.1).part 12 1) ?_))))));exact ag 7 hs (FO a ha b hb _ _ hs.g hs.f.1) (fun w7 h8 hs=>lP 0 0 (qc (dd a b)) hs (fun w9 hs=>ae hs [(0,0,5)] (qv (dd a b)) rfl))
theorem tc (a:Rat)(ha:LQ 100000000 a)(ra ke:Rat)(sp ba:Int)(b sd rb:Nat)(hb:b≤256)(w:World)(h:Hp)(g:G w h)(hrb:Seg h rb 0 (DR ra ke sp ba (b:Nat) sd))(tb:Tab h):CR 83 #[qv a,pB rb] w h (fun v _=>∃ x,v=qv x∧x=dd a b):=by
 refine (FW a ha ra ke sp ba b sd rb hb w h g hrb tb).mono ?_;rintro _ w' ⟨_,h',rfl,u,rfl⟩;exact ⟨_,h',rfl,u,_,rfl,rfl⟩
theorem Fz (inp:Int)(A:Option Addr)(c:Nat)(l:List Stp)(O:Option Addr)(d:Nat)(os:List Int)(p0:List Rat)(X:Option Addr)(cX:Nat)(ra ke:Rat)(st b sd:Nat)(ba:Int)(bf:Nat→List Int)(hinp:(p0.length:Int)=inp)(hp0:0<p0.length)(hpl:p0.length≤10)(hst:st≤5)(hb:b≤256)(hsd:sd<18446744073709551616)(hl:l.length≤100)(ho:os.length≤2)(hq:∀ i,LQ 1 (l.getD i ac).q)(hra:LQ 1 ra)(hke:LQ 1 ke)(wt sg:Nat→Nat)(W_:Nat)(hwt:be inp l os=0→Wt l wt)(hW:∀ j,j<l.length→wt j≤W_)(hC:be inp l os=0→1+iP wt (fun _=>1) l.length+os.length*(2*W_)+kT wt sg l.length≤100000000)(ds:Nat→DSt)(hds:ds=dst inp l os ra ke b bf p0)(hPt:∀ k,k≤st→PtOk l wt sg (ds k).at_)(hD:∀ k,k≤st→(∀ j,LQ 1000 ((ds k).at_.getD j 0))∧∀ j,LQ 1000 ((ds k).way.getD j 0))(hG:∀ k,k<st→∀ j,LQ 1000 ((cf inp l os (ds k).at_ (bJ os.length (bf k) (bf k).length)).getD j 0))(hN:∀ k,k<st→∀ j,LQ 1000 (dd (ke*(ds k).way.getD j 0-ra*(cf inp l os (ds k).at_ (bJ os.length (bf k) (bf k).length)).getD j 0) b))(hSo:∀ k:Nat,k≤200→∀ (w:World) (h:Hp),G w h→Calls Tryz.prog 11 #[uX ra ke st ba b sd,nV os.length,nV k] w (Ret w h (fun v h1=>∃ A c,v=.slice A (bf k).length c∧(bf k).length≤c∧Si A (bf k) h1)))(hbr:∀ k j,j<(bf k).length→0≤(bf k).getD j 0∧(bf k).getD j 0<os.length)(hbn:∀ k,(bf k).length≤1000000)(kt kr:Nat)(w:World)(h:Hp)(g:G w h)(hA:SlO 9 fu ac h A l)(hO:Si O os h)(hX:Sq X p0 h)(hb1:Seg h kt 0 [iV inp,.slice A l.length c,.slice O os.length d])(hb2:Seg h kr 0 (DR ra ke (st:Nat) ba (b:Nat) sd))(tb:Tab h):CR 38 #[.agg #[.func (.func 32) #[] #[pB kt],.func (.func 35) #[] #[pB kt,pB kr]],.slice X p0.length cX,uX ra ke st ba b sd] w h (fun v h1=>∃ A1 c1 A2 c2,v=.tuple #[.agg #[.slice A1 (ds st).rat.length c1,.slice A2 (ds st).rls.length c2],iV (ds st).e]∧(ds st).rat.length≤c1∧(ds st).rls.length≤c2∧Sq A1 (ds st).rat h1∧Sq A2 (ds st).rls h1):=by
 have hs:=(((((((sS g).aS hA).aS hO).aS hX).a_Seg hb1).a_Seg hb2).aB tb);refine go Tryz.func38 [(0,.agg #[.func (.func 32) #[] #[pB kt],.func (.func 35) #[] #[pB kt,pB kr]]),(1,qS X p0.length cX),(2,uX ra ke st ba b sd)] rfl (aE (lA 3 101 ([.func (.func 32) #[] #[pB kt],.func (.func 35) #[] #[pB kt,pB kr]]) hs (fun b1 w2 h3 hs=>lA 5 59 (uC ra ke st ba b sd) hs (fun b4 w5 h6 hs=>lA 6 54 ([sZ,sZ]) hs (fun b7 w8 h9 hs=>lL hs [.v 7 (iV 0)] (aT (lL hs [.m 19 1] (nB 20 (vT X p0.length cX p0 rfl hp0 oM _ _ hs.g hs.f.r.2.1) ?_))))))));rintro _ _ _ u12 ⟨bq,cq,spq,rfl,hcq,hNq⟩;obtain ⟨_,hs,-,-⟩:=hs.take u12 hNq.1 hNq.2.2;replace hs:=hs.to [⟨bq,28,(p0).flatMap qc++spq⟩,⟨b7,54,[sZ,sZ]⟩,⟨b4,59,uC ra ke st ba b sd⟩,⟨b1,101,[.func (.func 32) #[] #[pB kt],.func (.func 35) #[] #[pB kt,pB kr]]⟩] [];refine lL hs [.m 8 20] (aT (lL hs [.m 21 8,.v 22 (nV p0.length)] (lK 23 28 p0.length 5 56 (.agg #[qF,uV 0,eS,uV 0,eS]) qc 0 hs (fun za _ _ hs=>?_))));have hl17:(List.replicate p0.length 0).length=p0.length:=by simp
 refine lL hs [.m 9 23] (aT (lL hs [.v 25 (pB b1),.o 26 (.func (.func 32) #[] #[pB kt]) 4 0 1,.m 27 8] (EL 28 1 hs (fun _ g_ f_ sg_=>(by have q_:=B0 inp A c l O d os p0 (sB bq) cq kt oM oM oM hq (by have h_:=(hPt 0 (Nat.zero_le _)).hV;rw[rL hds] at h_;exact h_) _ _ g_ (f_.2.2.2.2.2.1) (f_.2.2.2.2.1) (SlO.of_flatS (sp:=spq) (sz:=5) (f:=qc) (d:=0) (b:=bq) (o:=0) (l:=p0) (fun _=>rfl) sg_) (f_.2.2.1) (f_.1);rw[show p0.length=p0.length from rfl] at q_;exact q_)) ?_)));rintro _ _ _ hs rfl;refine lL hs [.m 24 28,.v 29 (qv (cO inp l os p0)),.v 30 (iV (dU false inp l os p0))] (lA 10 28 ([qF,uV 0,eS,uV 0,eS]) hs (fun zb _ _ hs=>lP 0 0 (qc (cO inp l os p0)) hs (fun _ hs=>lL hs [.m 11 30] (af (aa hs [.m 31 11] ?_)))));cases zc:((dU false inp l os p0:Int) != (0:Int))
 ·
  have zk:=aI zc;refine lB 32 zc (aj (cK (aa hs [.o 35 (qv (cO inp l os p0)) 0 0 5] (Hj 36 28 5 qc ([(cO inp l os p0)]:List Rat) hs (fun zq _ _ hs=>lL hs [.m 12 36] (aT ?_))))));obtain ⟨zs,hs,sg31,-,-⟩:=hs.pub 4;replace hs:=hs.to [⟨zb,28,qc (cO inp l os p0)⟩,⟨za,28,(List.replicate p0.length 0).flatMap qc⟩,⟨bq,28,(p0).flatMap qc++spq⟩,⟨b7,54,[sZ,sZ]⟩,⟨b1,101,[.func (.func 32) #[] #[pB kt],.func (.func 35) #[] #[pB kt,pB kr]]⟩] [⟨28,5,sB zq,(([(cO inp l os p0)]:List Rat)).length,(([(cO inp l os p0)]:List Rat)).length,(([(cO inp l os p0)]:List Rat)).flatMap qc⟩];have sg32:Seg zs b4 0 (uC ra ke st ba b sd):=sg31;replace hs:=hs.a_Seg sg32;refine lL hs [.v 37 (.func (.func 83) #[] #[pB b4]),.m 13 37] (af (aa hs [.v 38 (qP b4 10)] (lH 39 (nV st) hs ((hs.f.1).part 10 1) ?_)));refine lL hs [.v 40 (iV 0)] (bj ?_);refine bx _ (CG.loop (fun μ_ Γ w_=>∃ (k:Nat) (La:List Rat) (Lw:List Rat) (saA:Option Addr) (sac:Nat) (al:List Rat) (h_:Hp),μ_=st-k∧Γ=[(3,pB b1),(5,pB b4),(6,pB b7),(8,qS (sB bq) p0.length cq),(9,qS (sB za) p0.length p0.length),(13,.func (.func 83) #[] #[pB b4]),(39,nV st),(40,nV k),(12,qS saA ((al).length) sac)]∧SS w h w_ h_ [⟨zb,28,qc (cO inp l os p0)⟩,⟨za,28,(Lw).flatMap qc⟩,⟨bq,28,(La).flatMap qc++spq⟩,⟨b7,54,[sZ,sZ]⟩,⟨b1,101,[.func (.func 32) #[] #[pB kt],.func (.func 35) #[] #[pB kt,pB kr]]⟩] [⟨28,5,saA,sac,(al).length,(al).flatMap qc⟩] [fun h_=>Seg h_ b4 0 (uC ra ke st ba b sd),fun h_=>Tab h_,fun h_=>Seg h_ kr 0 (DR ra ke (st:Nat) ba (b:Nat) sd),fun h_=>Seg h_ kt 0 [iV inp,qS A l.length c,qS O os.length d],Sq X p0,Si O os,fun h_=>SlO 9 fu ac h_ A l]∧k≤st∧La.length=p0.length∧Lw.length=p0.length∧(ds k).e=0∧La=(ds k).at_∧Lw=(ds k).way∧al=(ds k).ls) _ ⟨0,p0,List.replicate p0.length (0:Rat),sB zq,(([(cO inp l os p0)]:List Rat)).length,([(cO inp l os p0)]:List Rat),zs,rfl,rfl,hs.to _ _,Nat.zero_le _,rfl,List.length_replicate,(by rw[rL hds];show dU false inp l os p0=0;omega),(by rw[rL hds]),(by rw[rL hds]),(by rw[rL hds])⟩ ?_);rintro _ _ _ ⟨k,La,Lw,saA,sac,al,_,hm35,rfl,hs,hk,hla,hlw,hE,hLa,hLw,hal⟩;have haln:al.length=k+1:=by rw[hal,hds];exact uG k (by rw[←hds];exact hE)
  have hLq:∀ j,LQ 1000 (La.getD j 0):=by rw[hLa];exact (hD k hk).1
  have hWq:∀ j,LQ 1000 (Lw.getD j 0):=by rw[hLw];exact (hD k hk).2
  have hPk:PtOk l wt sg La:=by rw[hLa];exact hPt k hk
  refine aE ?_;cases zd:(decide ((k:Int)<(st:Int)))
  ·
   have zl:=oF zd;refine lB 41 zd (af (cM (CG.exit ?_)))
   show CG _ _ _ _ _ _ _ _
   refine aE ?_;obtain ⟨_,hs,sg38,lo39,bc40⟩:=hs.pub 2;replace hs:=(hs.to [⟨zb,28,qc (cO inp l os p0)⟩,⟨za,28,(Lw).flatMap qc⟩,⟨b7,54,[sZ,sZ]⟩,⟨b1,101,[.func (.func 32) #[] #[pB kt],.func (.func 35) #[] #[pB kt,pB kr]]⟩] [⟨28,5,saA,sac,(al).length,(al).flatMap qc⟩]).aS (SlO.of_flatS (sp:=spq) (sz:=5) (f:=qc) (d:=0) (b:=bq) (o:=0) (l:=La) (fun _=>rfl) sg38);obtain ⟨_,hs,zt⟩:=hs.pubr 0 (A:=saA) (c:=sac) (l:=al) (f:=qc) (ty:=28) (sz:=5) 0 (fun _=>rfl);refine lL hs [.m 111 8,.m 112 12,.v 113 (.agg #[qS (sB bq) p0.length cq,qS saA ((al).length) sac])] (lP 2 0 ([qS (sB bq) p0.length cq,qS saA ((al).length) sac]) hs (fun _ hs=>lL hs [.v 7 (iV 0)] (lN (kX ?_))));have hkn:k=st:=by omega
   rw[hkn] at hE hLa hal
   obtain ⟨ho1,ho2⟩:=DSt.ok hE;exact hs.ret [(2,0,2)] (.tuple #[.agg #[qS (sB bq) p0.length cq,qS saA ((al).length) sac],iV 0]) (by rw[ho1,ho2,hE,←hLa,←hal,hla];exact ⟨_,_,_,_,rfl,hcq,zt,hs.f.2.1,hs.f.1⟩)
  have zl:=oT zd;refine lB 41 zd (af (bS (cK (cQ (kZ (aa hs [.m 42 40,.m 14 42] (aT (lL hs [.v 44 (qP b1 1),.o 45 (.func (.func 35) #[] #[pB kt,pB kr]) 4 1 1,.m 46 8,.m 47 14] ?_))))))));obtain ⟨GL,hGL⟩:∃ q_,q_=(cf inp l os La (bJ os.length (bf k) (bf k).length)):=⟨_,rfl⟩;refine Hu 48 2 (Ψ:=fun v h2=>∃ Ag cg,v=.tuple #[qS Ag GL.length cg,iV (bE inp l os La (bJ os.length (bf k) (bf k).length))]∧GL.length≤cg∧Sq Ag GL h2) hs (fun _ g_ f_ sg_=>(by have q_:=F9 inp A c l O d os La (sB bq) cq ra ke (st:Nat) ba (b:Nat) sd k (bf k) (hSo k oM) (fun j_ hj_=>hbr k j_ hj_) (hbn k) kt kr wt sg W_ oM oM oM hq (fun _ _ k_ hk_ _ j_=>hPk.hV k_ hk_ j_) hwt hW (fun _ _ _=>hPk.hSg) hC _ _ g_ (f_.2.2.2.2.2.2.1) (f_.2.2.2.2.2.1) (SlO.of_flatS (sp:=spq) (sz:=5) (f:=qc) (d:=0) (b:=bq) (o:=0) (l:=La) (fun _=>rfl) sg_) (f_.2.2.2.1) (f_.2.2.1) (f_.2.1);rw[hla,←hGL] at q_;exact q_)) (Bb (fun h_=>by rw[hGL];exact if_neg h_)) ?_;rintro _ _ zx hs ⟨Ag,cg,rfl,hcg,hAg⟩;replace hs:=hs.aS hAg;refine lL hs [.m 43 48,.v 49 (qS Ag GL.length cg),.v 50 (iV (bE inp l os La (bJ os.length (bf k) (bf k).length))),.m 15 49,.m 16 50] (af (aa hs [.m 51 16] ?_));cases ze:((bE inp l os La (bJ os.length (bf k) (bf k).length):Int) != (0:Int))
  ·
   have zm:=aI ze;refine lB 52 ze (aj (cK (cQ (aa hs [.m 55 8,.v 56 (nV p0.length),.v 57 (iV 0)] (bj ?_)))));have hB0:bE inp l os La (bJ os.length (bf k) (bf k).length)=0:=by omega
   have hGl:GL.length=p0.length:=by rw[hGL,si hB0];omega
   have hGq:∀ j_,LQ 1000 (GL.getD j_ 0):=by rw[hGL,hLa];exact hG k oM
   refine bx _ (CG.loop (fun μ_ Γ w_=>∃ (j:Nat) (Mw:List Rat) (Ma:List Rat) (h_:Hp),μ_=p0.length-j∧Γ=[(3,pB b1),(5,pB b4),(6,pB b7),(8,qS (sB bq) p0.length cq),(9,qS (sB za) p0.length p0.length),(13,.func (.func 83) #[] #[pB b4]),(39,nV st),(40,nV k),(12,qS saA ((al).length) sac),(15,qS Ag GL.length cg),(16,iV (bE inp l os La (bJ os.length (bf k) (bf k).length))),(56,nV p0.length),(57,nV j)]∧SS w h w_ h_ [⟨zb,28,qc (cO inp l os p0)⟩,⟨za,28,(Mw).flatMap qc⟩,⟨bq,28,(Ma).flatMap qc++spq⟩,⟨b7,54,[sZ,sZ]⟩,⟨b1,101,[.func (.func 32) #[] #[pB kt],.func (.func 35) #[] #[pB kt,pB kr]]⟩] [⟨28,5,saA,sac,(al).length,(al).flatMap qc⟩] [Sq Ag GL,fun h_=>Seg h_ b4 0 (uC ra ke st ba b sd),fun h_=>Tab h_,fun h_=>Seg h_ kr 0 (DR ra ke (st:Nat) ba (b:Nat) sd),fun h_=>Seg h_ kt 0 [iV inp,qS A l.length c,qS O os.length d],Sq X p0,Si O os,fun h_=>SlO 9 fu ac h_ A l]∧j≤p0.length∧Ma.length=p0.length∧Mw.length=p0.length∧(∀ i_,i_<j→Mw.getD i_ 0=dd (ke*Lw.getD i_ 0-ra*GL.getD i_ 0) b)∧(∀ i_,j≤i_→Mw.getD i_ 0=Lw.getD i_ 0)∧(∀ i_,i_<j→Ma.getD i_ 0=dd (La.getD i_ 0+Mw.getD i_ 0) b)∧(∀ i_,j≤i_→Ma.getD i_ 0=La.getD i_ 0)) _ ⟨0,Lw,La,zx,rfl,rfl,hs.to _ _,Nat.zero_le _,hla,hlw,(fun i_ h_=>absurd h_ (Nat.not_lt_zero i_)),(fun _ _=>rfl),(fun i_ h_=>absurd h_ (Nat.not_lt_zero i_)),(fun _ _=>rfl)⟩ ?_);rintro _ _ _ ⟨j,Mw,Ma,_,hm51,rfl,hs,hj,hma,hmw,hw2,hw3,ha2,ha3⟩;have hq1:LQ 1000 (Mw.getD j 0):=by rw[hw3 j (nR _)];exact hWq j
   have hq2:LQ 1000 (Ma.getD j 0):=by rw[ha3 j (nR _)];exact hLq j
   have hq3:=hGq j;have hq5:LQ 1000 (dd (ke*Mw.getD j 0-ra*GL.getD j 0) b):=by rw[hw3 j (nR _),hGL,hLa,hLw];exact hN k oM j
   refine aE ?_;cases zf:(decide ((j:Int)<(p0.length:Int)))
   ·
    have zn:=oF zf;refine lB 58 zf (af (cM (CG.exit ?_)))
    show CG _ _ _ _ _ _ _ _
    refine aE ?_;have hjn:j=p0.length:=by omega
    have hS:=Fo hds hE hLa hLw hal hla hB0 hmw hma (fun i_ h_=>by rw[←hGL];exact hw2 i_ oM) (fun i_ h_=>ha2 i_ oM);have hPt1:PtOk l wt sg Ma:=by have h_:=hPt (k+1) oM;rw[hS] at h_;exact h_
    refine lL hs [.v 96 (pB b1),.o 97 (.func (.func 32) #[] #[pB kt]) 4 0 1,.m 98 8] (EL 99 2 hs (fun _ g_ f_ sg_=>(by have q_:=B0 inp A c l O d os Ma (sB bq) cq kt oM oM oM hq hPt1.hV _ _ g_ (f_.2.2.2.2.2.2.2.1) (f_.2.2.2.2.2.2.1) (SlO.of_flatS (sp:=spq) (sz:=5) (f:=qc) (d:=0) (b:=bq) (o:=0) (l:=Ma) (fun _=>rfl) sg_) (f_.2.2.2.2.1) (f_.2.2.1);rw[hma] at q_;exact q_)) ?_);rintro _ _ _ hs rfl;refine lL hs [.m 95 99,.v 100 (qv (cO inp l os Ma)),.v 101 (iV (dU false inp l os Ma))] (lA 18 28 ([qF,uV 0,eS,uV 0,eS]) hs (fun b55 _ _ hs=>lP 0 0 (qc (cO inp l os Ma)) hs (fun _ hs=>lL hs [.m 16 101] (af (aa hs [.m 102 16] ?_)))));cases zg:((dU false inp l os Ma:Int) != (0:Int))
    ·
     have zo:=aI zg;refine lB 103 zg (aj (cK (kQ (lL hs [.m 106 12,.o 107 (qv (cO inp l os Ma)) 0 0 5] (lR 108 28 1 (qc (cO inp l os Ma)) hs (fun zA _ _ hs=>lY 109 0 28 5 sac saA al qc (cO inp l os Ma) 56 zA (.agg #[qF,uV 0,eS,uV 0,eS]) hs hs.f.1 (fun zB zD _ zE hs=>lL hs [.m 12 109] (lN (kQ (bB 110 ((k:Nat)+1) (k+1) ?_))))))))));refine lL hs [.m 40 110] (lD ?_);intro a_ ka;replace hs:=hs.tl.tl;replace hs:=hs.drop 1 0;refine ⟨_,_,?_,⟨k+1,Ma,Mw,zB,zD,al++[(cO inp l os Ma)],zE,rfl,rfl,hs.to _ _,oM,hma,hmw,(by rw[hS];show dU false inp l os Ma=0;omega),(by rw[hS]),(by rw[hS]),(by rw[hS])⟩,ka.to _ kR⟩
     omega
    have zo:=aJ zg;refine lB 103 zg (ao (aa hs [.v 104 (.agg #[sZ,sZ]),.m 105 16] (lP 4 0 ([sZ,sZ]) hs (fun _ hs=>lL hs [.m 7 105] (lN (kX ?_))))));have hen:=(qL (n:=st) hds hS oM oM);obtain ⟨ho1,ho2⟩:=DSt.bad (s:=ds st) oM;exact hs.ret [(4,0,2)] (.tuple #[.agg #[sZ,sZ],iV (dU false inp l os Ma)]) (by rw[ho1,ho2,hen];exact ⟨none,0,none,0,rfl,nR _,nR _,SlO.nil,SlO.nil⟩)
   have zn:=oT zf;refine lB 58 zf (af (bS (cK (cQ (kZ (aa hs [.m 59 57,.m 17 59] (af (cR 19 [] mixed hs aq ?_))))))));refine eV 0 60 (qS (sB za) p0.length p0.length) (eV 1 61 (nV j) (eV 2 62 (.func (.func 83) #[] #[pB b4]) (eV 3 63 (qP b4 5) (eH 4 64 (qv ke) hs ((hs.f.2.1).part 5 5) (eV 5 65 (qS (sB za) p0.length p0.length) (eV 6 66 (nV j) (eX 7 67 (sB za) p0.length p0.length 5 (j:Nat) j rfl (eQ 8 68 1 Mw qc 5 0 j (qv ((Mw).getD j 0)) hs oM (eV 10 70 (pB b4) (eH 11 71 (qv ra) hs ((hs.f.2.1).part 0 5) (eV 12 72 (qS Ag GL.length cg) (eV 13 73 (nV j) (eX 14 74 Ag GL.length cg 5 (j:Nat) j ((hs.f.1).ok oM) (eH 15 75 (qv (GL.getD j 0)) hs ((hs.f.1).el j oM) ?_))))))))))))));have zi:=LQ.mul hke hq1;refine ak 9 69 hs (fun _ _ hs=>iO ke ((Mw).getD j 0) (LQ.mono hke oM) (LQ.mono hq1 oM) _ _ hs.g hs.f.r.1) (fun _ _ hs=>?_);have zj:=LQ.mul hra hq3;refine ak 16 76 hs (fun _ _ hs=>iO ra (GL.getD j 0) (LQ.mono hra oM) (LQ.mono hq3 oM) _ _ hs.g hs.f.r.1) (fun _ _ hs=>?_);have zu:=LQ.sub zi zj;refine ak 17 77 hs (fun _ _ hs=>ES (ke*((Mw).getD j 0)) (ra*(GL.getD j 0)) (LQ.mono zi oM) (LQ.mono zj oM) _ _ hs.g hs.f.r.1) (fun _ _ hs=>eC 18 78 hs (fun _ _ hs=>tc ((ke*((Mw).getD j 0))-(ra*(GL.getD j 0))) (LQ.mono zu oM) ra ke (st:Nat) ba b sd b4 hb _ _ hs.g hs.f.2.1 hs.f.r.1) ?_);rintro _ _ _ _ _ hs ⟨xw,rfl,hxw⟩;refine bM hs (fun _ _ hs=>tX 19 79 (sB za) p0.length p0.length 5 (j:Nat) j rfl (tW 20 1 Mw qc 5 j xw hs oM (fun _ hs=>?_)));have zv:((Mw).set j xw).length=p0.length:=by rw[List.length_set];exact hmw
   replace hs:=hs.to [⟨zb,28,qc (cO inp l os p0)⟩,⟨za,28,((Mw).set j xw).flatMap qc⟩,⟨bq,28,(Ma).flatMap qc++spq⟩,⟨b7,54,[sZ,sZ]⟩,⟨b1,101,[.func (.func 32) #[] #[pB kt],.func (.func 35) #[] #[pB kt,pB kr]]⟩] [⟨28,5,saA,sac,(al).length,(al).flatMap qc⟩];refine tN (cR 13 [] mixed hs aq ?_);have hq4:LQ 1000 (((Mw).set j xw).getD j 0):=by rw[bY oM,if_pos rfl,hxw];exact hq5
   refine eV 0 80 (qS (sB bq) p0.length cq) (eV 1 81 (nV j) (eV 2 82 (.func (.func 83) #[] #[pB b4]) (eV 3 83 (qS (sB bq) p0.length cq) (eV 4 84 (nV j) (eX 5 85 (sB bq) p0.length cq 5 (j:Nat) j rfl (Il 6 86 2 Ma qc 5 0 j (qv ((Ma).getD j 0)) spq hs oM (eV 7 87 (qS (sB za) p0.length p0.length) (eV 8 88 (nV j) (eX 9 89 (sB za) p0.length p0.length 5 (j:Nat) j rfl (eQ 10 90 1 ((Mw).set j xw) qc 5 0 j (qv (((Mw).set j xw).getD j 0)) hs oM ?_))))))))));have zw:=LQ.add hq2 hq4;refine ak 11 91 hs (fun _ _ hs=>jI ((Ma).getD j 0) (((Mw).set j xw).getD j 0) (LQ.mono hq2 oM) (LQ.mono hq4 oM) _ _ hs.g hs.f.r.1) (fun _ _ hs=>eC 12 92 hs (fun _ _ hs=>tc (((Ma).getD j 0)+(((Mw).set j xw).getD j 0)) (LQ.mono zw oM) ra ke (st:Nat) ba b sd b4 hb _ _ hs.g hs.f.2.1 hs.f.r.1) ?_);rintro _ _ _ _ _ hs ⟨ya,rfl,hya⟩;refine bM hs (fun _ zF hs=>tX 13 93 (sB bq) p0.length cq 5 (j:Nat) j rfl (H4 14 2 Ma qc 5 j ya spq hs oM (fun _  hs=>?_)));have zp:((Ma).set j ya).length=p0.length:=by rw[List.length_set];exact hma
   replace hs:=hs.to [⟨zb,28,qc (cO inp l os p0)⟩,⟨za,28,((Mw).set j xw).flatMap qc⟩,⟨bq,28,((Ma).set j ya).flatMap qc++spq⟩,⟨b7,54,[sZ,sZ]⟩,⟨b1,101,[.func (.func 32) #[] #[pB kt],.func (.func 35) #[] #[pB kt,pB kr]]⟩] [⟨28,5,saA,sac,(al).length,(al).flatMap qc⟩];refine tN (bx [(3,pB b1),(5,pB b4),(6,pB b7),(8,qS (sB bq) p0.length cq),(9,qS (sB za) p0.length p0.length),(13,.func (.func 83) #[] #[pB b4]),(39,nV st),(40,nV k),(12,qS saA ((al).length) sac),(15,qS Ag GL.length cg),(16,iV (bE inp l os La (bJ os.length (bf k) (bf k).length))),(56,nV p0.length),(57,nV j)] ?_);refine kQ (bB 94 ((j:Nat)+1) (j+1) ?_);refine lL hs [.m 57 94] (lD ?_);intro a_ ka;refine ⟨_,_,?_,⟨j+1,(Mw).set j xw,(Ma).set j ya,zF,rfl,rfl,hs.to _ _,oM,zp,zv,((rc oM hw2 hw3 hxw).1),((rc oM hw2 hw3 hxw).2),((qr oM oM ha2 ha3 hya).1),((qr oM oM ha2 ha3 hya).2)⟩,ka.to _ kR⟩
   omega
  have zm:=aJ ze;refine lB 52 ze (ao (aa hs [.v 53 (.agg #[sZ,sZ]),.m 54 16] (lP 3 0 ([sZ,sZ]) hs (fun _ hs=>lL hs [.m 7 54] (lN (kX ?_))))));have hen:=(Br (n:=st) hds hE hLa oM oM);obtain ⟨ho1,ho2⟩:=DSt.bad (s:=ds st) oM;exact hs.ret [(3,0,2)] (.tuple #[.agg #[sZ,sZ],iV (bE inp l os La (bJ os.length (bf k) (bf k).length))]) (by rw[ho1,ho2,hen];exact ⟨none,0,none,0,rfl,nR _,nR _,SlO.nil,SlO.nil⟩)
 have zk:=aJ zc;refine lB 32 zc (ao (aa hs [.v 33 (.agg #[sZ,sZ]),.m 34 11] (lP 3 0 ([sZ,sZ]) hs (fun _ hs=>lL hs [.m 7 34] (lN (kX ?_))))));have hen:=(by have h_:=qL (n:=st) hds (rL hds) oM (Nat.zero_le _);exact h_);obtain ⟨ho1,ho2⟩:=DSt.bad (s:=ds st) oM;exact hs.ret [(3,0,2)] (.tuple #[.agg #[sZ,sZ],iV (dU false inp l os p0)]) (by rw[ho1,ho2,hen];exact ⟨none,0,none,0,rfl,nR _,nR _,SlO.nil,SlO.nil⟩)
theorem FT (inp:Int)(A:Option Addr)(c:Nat)(l:List Stp)(O:Option Addr)(d:Nat)(os:List Int)(p0:List Rat)(X:Option Addr)(cX:Nat)(ra ke:Rat)(st b sd:Nat)(ba:Int)(bf:Nat→List Int)(hinp:(p0.length:Int)=inp)(hp0:0<p0.length)(hpl:p0.length≤10)(hst:st≤5)(hb:b≤256)(hsd:sd<18446744073709551616)(hl:l.length≤100)(ho:os.length≤2)(hq:∀ i,LQ 1 (l.getD i ac).q)(hra:LQ 1 ra)(hke:LQ 1 ke)(wt sg:Nat→Nat)(W_:Nat)(hwt:be inp l os=0→Wt l wt)(hW:∀ j,j<l.length→wt j≤W_)(hC:be inp l os=0→1+iP wt (fun _=>1) l.length+os.length*(2*W_)+kT wt sg l.length≤100000000)(ds:Nat→DSt)(hds:ds=dst inp l os ra ke b bf p0)(hPt:∀ k,k≤st→PtOk l wt sg (ds k).at_)(hD:∀ k,k≤st→(∀ j,LQ 1000 ((ds k).at_.getD j 0))∧∀ j,LQ 1000 ((ds k).way.getD j 0))(hG:∀ k,k<st→∀ j,LQ 1000 ((cf inp l os (ds k).at_ (bJ os.length (bf k) (bf k).length)).getD j 0))(hN:∀ k,k<st→∀ j,LQ 1000 (dd (ke*(ds k).way.getD j 0-ra*(cf inp l os (ds k).at_ (bJ os.length (bf k) (bf k).length)).getD j 0) b))(hSo:∀ k:Nat,k≤200→∀ (w:World) (h:Hp),G w h→Calls Tryz.prog 11 #[uX ra ke st ba b sd,nV os.length,nV k] w (Ret w h (fun v h1=>∃ A c,v=.slice A (bf k).length c∧(bf k).length≤c∧Si A (bf k) h1)))(hbr:∀ k j,j<(bf k).length→0≤(bf k).getD j 0∧(bf k).getD j 0<os.length)(hbn:∀ k,(bf k).length≤1000000)(hF:dP ra ke (st:Nat) ba (b:Nat))(hck:be inp l os=0)(ho0:0<os.length)(w:World)(h:Hp)(g:G w h)(hA:SlO 9 fu ac h A l)(hO:Si O os h)(hX:Sq X p0 h)(tb:Tab h):CR 8 #[.agg #[iV inp,.slice A ((l).length) c,.slice O ((os).length) d],.slice X p0.length cX,uX ra ke st ba b sd] w h (fun v h1=>∃ A1 c1 A2 c2,v=.tuple #[.agg #[.slice A1 (ds st).rat.length c1,.slice A2 (ds st).rls.length c2],iV (ds st).e]∧(ds st).rat.length≤c1∧(ds st).rls.length≤c2∧Sq A1 (ds st).rat h1∧Sq A2 (ds st).rls h1):=by
 have hs:=(((((sS g).aS hA).aS hO).aS hX).aB tb);refine go Tryz.func8 [(0,.agg #[iV inp,qS A ((l).length) c,qS O ((os).length) d]),(1,qS X p0.length cX),(2,uX ra ke st ba b sd)] rfl (aE (lA 3 40 ([iV inp,qS A ((l).length) c,qS O ((os).length) d]) hs (fun b1 w2 h3 hs=>lA 5 59 (uC ra ke st ba b sd) hs (fun b4 w5 h6 hs=>lA 6 54 ([sZ,sZ]) hs (fun b7 w8 h9 hs=>lL hs [.v 7 (iV 0)] (af (aa hs [.o 9 (.agg #[iV inp,qS A ((l).length) c,qS O ((os).length) d]) 2 0 3] (ag 10 hs (iB inp A c l O d os oM oM (fun i _=>hq i) _ _ hs.g hs.f.r.2.1 hs.f.r.1) (fun _ _ hs=>?_)))))))));cases za:((be inp l os:Int) != (0:Int))
 ·
  have zd:=aI za;refine lB 11 za (lL hs [.m 12 11,.o 13 (uX ra ke st ba b sd) 1 0 14] (ag 14 hs ((by have q_:=oD ra ke (st:Nat) ba (b:Nat) sd (hra.mono kD) (hke.mono kD) _ _ hs.g;rw[decide_eq_true hF] at q_;exact q_)) (fun _ _ hs=>lL hs [.v 15 qF,.v 16 qF] (aj (cK (cQ (aa hs [.m 18 1,.v 19 (nV p0.length),.v 20 (pB b1),.o 21 (iV inp) 2 0 1] ?_)))))));cases zb:((p0.length:Int) != (inp:Int))
  ·
   have ze:=aI zb;refine lB 22 zb (lL hs [.m 23 22,.v 24 (qP b1 2),.o 25 (qS O ((os).length) d) 2 2 1,.v 26 (nV ((os).length))] ?_);cases zc:((((os).length:Nat):Int) == (0:Int))
   ·
    have zf:=ah zc;refine lB 27 zc (lL hs [.v 28 qF] (aj (cK (aE ?_))));obtain ⟨zg,hs,sg18,-,-⟩:=hs.pub 2;replace hs:=hs.to [⟨b7,54,[sZ,sZ]⟩,⟨b4,59,uC ra ke st ba b sd⟩] [];have sg19:Seg zg b1 0 ([iV inp,qS A ((l).length) c,qS O ((os).length) d]):=sg18;replace hs:=hs.a_Seg sg19;obtain ⟨zi,hs,sg21,-,-⟩:=hs.pub 1;replace hs:=hs.to [⟨b7,54,[sZ,sZ]⟩] [];have sg22:Seg zi b4 0 (uC ra ke st ba b sd):=sg21;replace hs:=hs.a_Seg sg22;refine lL hs [.v 30 (.func (.func 32) #[] #[pB b1]),.v 31 (.func (.func 35) #[] #[pB b1,pB b4]),.v 32 (.agg #[.func (.func 32) #[] #[pB b1],.func (.func 35) #[] #[pB b1,pB b4]])] (lA 8 101 ([.nilFunc,.nilFunc]) hs (fun b23 _ _ hs=>lP 0 0 ([.func (.func 32) #[] #[pB b1],.func (.func 35) #[] #[pB b1,pB b4]]) hs (fun _ hs=>aT (lL hs [.o 33 (.agg #[.func (.func 32) #[] #[pB b1],.func (.func 35) #[] #[pB b1,pB b4]]) 0 0 2,.m 34 1] (lH 35 (uX ra ke st ba b sd) hs ((hs.f.1).part 0 14) ?_)))));refine lC 36 hs (Fz inp A c l O d os p0 X cX ra ke st b sd ba bf hinp hp0 hpl hst hb hsd hl ho hq hra hke wt sg W_ hwt hW hC ds hds hPt hD hG hN hSo hbr hbn b1 b4 _ _ hs.g hs.f.q.2.1 hs.f.q.1 hs.f.r.2.1 hs.f.2.1 hs.f.1 hs.f.r.1) ?_;rintro _ _ _ hs ⟨A1,c1,A2,c2,rfl,hc1,hc2,hA1,hA2⟩;replace hs:=hs.aP hA1 hA2;exact lL hs [.v 37 (.agg #[qS A1 ((ds st).rat.length) c1,qS A2 ((ds st).rls.length) c2]),.v 38 (iV ((ds st).e))] (lP 1 0 ([qS A1 ((ds st).rat.length) c1,qS A2 ((ds st).rls.length) c2]) hs (fun _ hs=>lL hs [.m 7 38] (ae hs [(1,0,2)] (.tuple #[.agg #[qS A1 ((ds st).rat.length) c1,qS A2 ((ds st).rls.length) c2],iV ((ds st).e)]) (⟨_,_,_,_,rfl,hc1,hc2,hs.f.2.1,hs.f.1⟩))))
   have zf:=eq_of_beq zc;refine lB 27 zc (lL hs [.v 28 qT] (ao (aa hs [.v 29 (.agg #[sZ,sZ])] (lP 0 0 ([sZ,sZ]) hs (fun _ hs=>lL hs [.v 7 (iV 5)] (lN (kX ?_)))))))
   exfalso;omega
  have ze:=aJ zb;refine lB 22 zb (lL hs [.m 23 22] (lG 24 ?_));refine lG 25 (lG 26 (lG 27 (lL hs [.v 28 qT] (ao (aa hs [.v 29 (.agg #[sZ,sZ])] (lP 0 0 ([sZ,sZ]) hs (fun _ hs=>lL hs [.v 7 (iV 5)] (lN (kX ?_)))))))))
  exfalso;omega
 have zd:=aJ za;refine lB 11 za (lL hs [.m 12 11] (lG 13 ?_));refine lG 14 (lG 15 (lL hs [.v 16 qT] (ao (aa hs [.v 17 (.agg #[sZ,sZ])] (lP 0 0 ([sZ,sZ]) hs (fun _ hs=>lL hs [.v 7 (iV 1)] (lN (kX ?_))))))))
 exfalso;omega
open Go.RowKit Go.WideMaps
structure MapI (P:Program) (kt:TypeId) (Q:Value→Prop) (w1:World) (h1:Hp) (b:Nat):Prop where
  jk:h1[b]?=some bc
  ex:∃ es clk,w1.heap[b]?=some (.map es clk)∧∀ e∈es.toList,(∃ l,keyOf P kt e.key=some l)∧Q e.val
section laws
variable {P:Program} {n:Nat} {N R:Po} {X:Nat→Po} {ops:Array Oper} {k:Nat} {Γ:bW} {w:World} {h:Hp} {w0 w1:World} {h0 h1:Hp} {B:List Bx} {Rs:List Rw} {F:List (Hp→Prop)}
theorem SS.base (s:SS w1 h1 w h B Rs F){b:Nat}{o:Obj}(hj:h1[b]?=some bc)(hb:b<w1.heap.size) :
  SS { w1 with heap:=w1.heap.setIfInBounds b o } h1 { w with heap:=w.heap.setIfInBounds b o } h B Rs F∧G { w1 with heap:=w1.heap.setIfInBounds b o } h1:=by
 have hlt:b<h1.size:=aN hj;have hj2:h[b]?=some bc:=(s.st.up.gr.blk b hlt).trans hj;have hbw:b<w.heap.size:=by rw[s.g.size];exact aN hj2
 have set:∀ (w:World) c,c≠b→({ w with heap:=w.heap.setIfInBounds b o }:World).heap[c]?=w.heap[c]?:=fun w c hc=>by show (w.heap.setIfInBounds b o)[c]?=_;rw[Array.getElem?_setIfInBounds_ne (Ne.symm hc)]
 have selfs:∀ (w:World),b<w.heap.size→({ w with heap:=w.heap.setIfInBounds b o }:World).heap[b]?=some o:=fun w hw=>by show (w.heap.setIfInBounds b o)[b]?=_;rw[Array.getElem?_setIfInBounds_self_of_lt hw]
 have gg:∀ (w:World) (h:Hp),G w h→h[b]?=some bc→G { w with heap:=w.heap.setIfInBounds b o } h:=fun w h g j=>⟨by show (w.heap.setIfInBounds b o).size=_;rw[Array.size_setIfInBounds];exact g.size,fun c=>by
  by_cases e:c=b
  ·subst e;exact .inr j
  ·rw[set w c e];exact g.blk c⟩
 have g0':=gg w1 h1 s.g0 hj;refine ⟨⟨g0',⟨⟨?_,s.st.up.gr,gg w h s.g hj2⟩,fun x hx=>?_,s.st.jk,s.st.lo,s.st.nd⟩,fun r hr=>?_,s.ap,s.mo,s.f⟩,g0'⟩
 ·have e:=s.st.up.ext
  refine ⟨e.os,e.tape,e.output,?_,fun c hc=>?_⟩
  ·show (w1.heap.setIfInBounds b o).size≤(w.heap.setIfInBounds b o).size
   rw[Array.size_setIfInBounds,Array.size_setIfInBounds];exact e.size
  ·by_cases q:c=b
   ·subst q;rw[selfs w hbw,selfs w1 hb]
   ·rw[set w c q,set w1 c q];exact e.block c (by have:c<(w1.heap.setIfInBounds b o).size:=hc;rw[Array.size_setIfInBounds] at this;exact this)
 ·have:x.b≠b:=fun e=>by have:=s.st.lo x hx;omega
  exact (set w x.b this).trans (s.st.own x hx)
 ·have q:=s.ro r hr
  refine ⟨eo q.own (fun c hc=>set w c (fun e=>?_)),q.jk,q.ap⟩;subst e
  rcases q.own with ⟨_,e2|⟨g,cap,cur,hv,hb',_⟩⟩
  ·rw[e2.1] at hc;simp[Value.ownBlock] at hc
  ·rw[hv] at hc
   simp[Value.ownBlock] at hc
   omega
end laws
structure Dif (M:List Nat) (w w0:World):Prop where
  mo:Mo M w w0
  sz:w0.heap.size=w.heap.size
section frn
variable {w0 w w' wi:World} {h0 h h':Hp} {B:List Bx} {R:List Rw} {F:List (Hp→Prop)} {M:List Nat}
end frn
section get
variable {P:Program} {n:Nat} {N R:Po} {X:Nat→Po} {ops:Array Oper} {k:Nat} {Γ:bW} {w:World} {h:Hp} {w0:World} {h0:Hp} {B:List Bx} {Rs:List Rw} {F:List (Hp→Prop)}
end get
section gete
variable {M:Ms} {P:Program} {n:Nat} {N R:Po} {X:Nat→Po} {ops:Array Oper} {k0:Nat} {hr:Hp} {AL:List Al} {L:Array Bool} {Γ:bW} {w:World} {h:Hp} {w0:World} {h0:Hp} {B:List Bx} {Rs:List Rw} {F:List (Hp→Prop)}
end gete
section ops
variable {P:Program} {Γ:bW} {o:Oper}
end ops
section laws
variable {M:Ms} {P:Program} {n:Nat} {N R:Po} {X:Nat→Po} {ops:Array Oper} {k k0:Nat} {hr:Hp} {AL:List Al} {L:Array Bool} {Γ:bW} {w:World} {h:Hp} {w0 wi:World} {h0:Hp} {B:List Bx} {Rs:List Rw} {F:List (Hp→Prop)} {Ml:List Nat}
end laws
section zone
variable {w0 w w':World} {h0 h h':Hp} {B:List Bx} {R:List Rw} {F:List (Hp→Prop)}
end zone
section ret
variable {P:Program} {n:Nat} {Γ:bW} {w:World} {h:Hp} {w0 wz:World} {h0 hz:Hp} {B:List Bx} {Rs:List Rw} {F:List (Hp→Prop)}
end ret
section call
variable {M:Ms} {P:Program} {n:Nat} {N R:Po} {X:Nat→Po} {ops:Array Oper} {k0:Nat} {hr:Hp} {AL:List Al} {L:Array Bool} {Γ:bW} {w:World} {h:Hp} {w0:World} {h0:Hp} {B:List Bx} {Rs:List Rw} {F:List (Hp→Prop)}
end call
def wl (Φ:Value→World→Hp→Prop):Ending→World→Prop:=fun e w'=>∃ v h',e=.returned v∧Φ v w' h'
section perm
variable {w0:World} {h0:Hp} {w:World} {h:Hp} {B B':List Bx} {R R':List Rw} {F:List (Hp→Prop)}
theorem SS.permBR (s:SS w0 h0 w h B R F)(pB:B.Perm B')(pR:R.Perm R'):SS w0 h0 w h B' R' F :=
 ⟨s.g0,⟨s.st.up,fun x hx=>s.st.own x (pB.mem_iff.2 hx),fun x hx=>s.st.jk x (pB.mem_iff.2 hx),fun x hx=>s.st.lo x (pB.mem_iff.2 hx),((pB.map (·.b)).nodup_iff).1 s.st.nd⟩,
  fun r hr=>⟨(s.ro r (pR.mem_iff.2 hr)).own,(s.ro r (pR.mem_iff.2 hr)).jk,fun b hb hm=>(s.ro r (pR.mem_iff.2 hr)).ap b hb ((pB.map (·.b)).mem_iff.2 hm)⟩,(pR.pairwise_iff (fun h=>h.symm)).1 s.ap,s.mo,s.f⟩
end perm
section ret
variable {P:Program} {n:Nat} {Γ:bW} {w:World} {h:Hp} {w0:World} {h0:Hp} {B:List Bx} {Rs:List Rw} {F:List (Hp→Prop)}
theorem SS.retS {fn:Func}{Φ:Value→World→Hp→Prop}(s:SS w0 h0 w h B Rs F)(ps:List (Nat × Nat × Nat))(v:Value)(hΦ:Φ v w h)(hk:(ll fn Γ && cP B ps)=true:=by kernel_rfl)(he:bO P (mS fn Γ) (dB B ps)=some (v,bZ B ps):=by kernel_rfl):∀ a,Kn n a Γ→lk P fn (wl Φ) a w:=by
 intro a ka;rw[Bool.and_eq_true] at hk
 refine ⟨ka.df.trans (mw hk.1),v,?_,v,h,rfl,hΦ⟩;rw[gI ka hk.1];exact bQ _ _ _ _ he (d5 s.st.own ps hk.2)
end ret
section call
variable {P:Program} {n:Nat} {N R:Po} {X:Nat→Po} {ops:Array Oper} {k:Nat} {Γ:bW} {w:World}
theorem HR (t:Nat){f:FuncId}{args:Array Value}{Φ:Value→World→Hp→Prop}(c:Calls P f args w (wl Φ))(H:∀ v w' h',Φ v w' h'→LG P n N R X ops (k+1) ((t,v)::Γ) w')(hc:cL ops Γ k t n=true:=by kernel_rfl)(hr:(execOp (ev Γ) (au ops k)).run P w=.ok (.enter f args) w:=by kernel_rfl):LG P n N R X ops k Γ w :=
 LG.call t f args (bH hc).1 (bH hc).2 hr (c.mono fun e w' ⟨v,h',he,hΦ⟩=>⟨v,he,H v w' h' hΦ⟩)
end call
def fA (ss:List ByteArray):List MapEntry:=ss.zipIdx.map fun p=>⟨.string p.1,.bool true,p.2⟩
theorem s8 (ss:List ByteArray)(s:ByteArray):fA (ss++[s])=fA ss++[⟨.string s,.bool true,ss.length⟩]:=by
 unfold fA;rw[List.zipIdx_append,List.map_append];simp
theorem o6 {ss:List ByteArray}{j:Nat}{e:MapEntry}(h:(fA ss)[j]?=some e):∃ s,ss[j]?=some s∧e=⟨.string s,.bool true,j⟩:=by
 unfold fA at h
 rw[List.getElem?_map,List.getElem?_zipIdx] at h
 cases hs:ss[j]? with
 | none=>rw[hs] at h;simp at h
 | some s=>rw[hs] at h;simp at h;exact ⟨s,rfl,h.symm⟩
theorem mK {ss:List ByteArray}{e:MapEntry}(h:e∈fA ss):∃ j s,ss[j]?=some s∧e=⟨.string s,.bool true,j⟩:=by
 obtain ⟨j,hj⟩:=List.mem_iff_getElem?.1 h;obtain ⟨s,h1,h2⟩:=o6 hj;exact ⟨j,s,h1,h2⟩
theorem xW {ss:List ByteArray}{s:ByteArray}(h:s∈ss):∃ e∈fA ss,e.key=.string s:=by
 obtain ⟨j,hj⟩:=List.mem_iff_getElem?.1 h;refine ⟨⟨.string s,.bool true,j⟩,?_,rfl⟩
 unfold fA
 refine List.mem_map.2 ⟨(s,j),?_,rfl⟩;rw[List.mem_iff_getElem?];exact ⟨j,by rw[List.getElem?_zipIdx,hj];simp⟩
theorem vW (ss:List ByteArray)(s:ByteArray):(Instr.findNow .string (.string s) (fA ss) 0=some none∧s ∉ ss)∨∃ j,Instr.findNow .string (.string s) (fA ss) 0=some (some (j,.bool true))∧ss[j]?=some s:=by
 rcases MapKept.findNow_spec (d:=.string) (k:=.string s) (by simp[MapKept.IsKey]) (fA ss) 0 (fun x hx=>by obtain ⟨_,_,_,rfl⟩:=mK hx;simp[MapKept.IsKey]) with ⟨h1,h2⟩|⟨j,e,h1,h2,h3⟩
 ·refine .inl ⟨h1,fun hm=>?_⟩
  obtain ⟨e,he,hk⟩:=xW hm;exact h2 e he hk
 ·obtain ⟨s',hs,rfl⟩:=o6 h2
  injection h3 with h3
  subst h3;exact .inr ⟨j,by rw[h1,Nat.zero_add],hs⟩
structure MapK (w:World) (h:Hp) (b:Nat) (ss:List ByteArray):Prop where
  jk:h[b]?=some bc
  ob:w.heap[b]?=some (.map (fA ss).toArray ss.length)
  nd:ss.Nodup
section laws
variable {P:Program} {n:Nat} {N R:Po} {X:Nat→Po} {ops:Array Oper} {k:Nat} {Γ:bW} {w:World} {h:Hp} {w1:World} {h1:Hp} {B:List Bx} {Rs:List Rw} {F:List (Hp→Prop)}
theorem SS.atK (s:SS w1 h1 w h B Rs F){b:Nat}{ss:List ByteArray}(m:MapK w1 h1 b ss):w.heap[b]?=some (.map (fA ss).toArray ss.length) :=
 (s.st.up.ext.block b (by rw[s.g0.size];exact aN m.jk)).trans m.ob
theorem mC {b:Nat}{o:Obj}(g1:G { w1 with heap:=w1.heap.setIfInBounds b o } h1):UpM [b] w1 h1 { w1 with heap:=w1.heap.setIfInBounds b o } h1 :=
 ⟨⟨rfl,rfl,rfl,by show _≤(w1.heap.setIfInBounds b o).size;rw[Array.size_setIfInBounds];exact Nat.le_refl _,fun c _ hn=>by
  show (w1.heap.setIfInBounds b o)[c]?=_
  rw[Array.getElem?_setIfInBounds_ne (fun e=>hn (List.mem_singleton.2 e.symm))]⟩,Gr.refl _,g1⟩
theorem Hv {mty kt et:TypeId}{b:Nat}{ss:List ByteArray}(ky:ByteArray)(s:SS w1 h1 w h B Rs F)(m:MapK w1 h1 b ss)
    (H:∀ w1' w' ss2,SS w1' h1 w' h B Rs F→MapK w1' h1 b ss2→(∀ x,x∈ss2↔x∈ss∨x=ky)→ss2.length≤ss.length+1→UpM [b] w1 h1 w1' h1→LG P n N R X ops (k+1) Γ w')
    (hc:cS ops Γ k=true:=by kernel_rfl)(hx:execOp (ev Γ) (au ops k)=(do Instr.mapUpdate mty (.map (some b)) (.string ky) (.bool true);pure .skip):=by kernel_rfl)(hu:P.underlying mty=some (.map kt et):=by kernel_rfl)(hk:P.underlying kt=some .string:=by kernel_rfl):LG P n N R X ops k Γ w:=by
  have hw:=s.atK m;have hlt:b<w1.heap.size:=(Array.getElem?_eq_some_iff.1 m.ob).1
  rcases vW ss ky with ⟨hf,hn⟩|⟨j,hf,hj⟩
  · have hr:=qQ w (val:=.bool true) hu hk hw hf
    obtain ⟨s2,g2⟩:=s.base (o:=.map ((fA ss).toArray.push ⟨.string ky,.bool true,ss.length⟩) (ss.length+1)) m.jk hlt;refine LG.store _ (i4 hc).1 (i4 hc).2 ?_ (H _ _ (ss++[ky]) s2 ⟨m.jk,?_,?_⟩ (fun x=>by simp) (by simp) (mC g2))
    · rw[hx];simp[hr,Result.andThen]
    · show (w1.heap.setIfInBounds b _)[b]?=_
      rw[Array.getElem?_setIfInBounds_self_of_lt hlt,s8];simp
    · exact List.nodup_append.2 ⟨m.nd,by simp,fun a ha c hc e=>hn (by rw[List.mem_singleton] at hc;rw[←hc,←e];exact ha)⟩
  · have hjl:j<ss.length:=(List.getElem?_eq_some_iff.1 hj).1
    have hkj:(fA ss)[j]?=some ⟨.string ky,.bool true,j⟩:=by
      unfold fA;rw[List.getElem?_map,List.getElem?_zipIdx,hj];simp
    have hr:=va w (val:=.bool true) hu hk hw hf (by simp[hkj])
    have he:((fA ss).toArray.modify j fun e=>{ e with key:=.string ky,val:=.bool true })=(fA ss).toArray:=by
      apply Array.ext_getElem?
      intro i;rw[Array.getElem?_modify]
      by_cases e:j=i
      · subst e
        rw[if_pos rfl]
        simp[hkj]
      · rw[if_neg e]
    rw[he] at hr
    obtain ⟨s2,g2⟩:=s.base (o:=.map (fA ss).toArray ss.length) m.jk hlt;refine LG.store _ (i4 hc).1 (i4 hc).2 ?_ (H _ _ ss s2 ⟨m.jk,?_,m.nd⟩ (fun x=>⟨.inl,fun h=>h.elim id fun e=>by rw[e];exact List.mem_iff_getElem?.2 ⟨j,hj⟩⟩) (Nat.le_succ _) (mC g2))
    · rw[hx];simp[hr,Result.andThen]
    · show (w1.heap.setIfInBounds b _)[b]?=_
      rw[Array.getElem?_setIfInBounds_self_of_lt hlt]
theorem SS.baseK (s:SS w1 h1 w h B Rs F){b:Nat}{ss ss2:List ByteArray}(m:MapK w1 h1 b ss){w':World}{h':Hp}(u:UpM [b] w h w' h')(ho:w'.heap[b]?=some (.map (fA ss2).toArray ss2.length))(nd:ss2.Nodup):∃ w1',SS w1' h1 w' h' B Rs F∧MapK w1' h1 b ss2∧UpM [b] w1 h1 w1' h1:=by
 have hlt:b<w1.heap.size:=(Array.getElem?_eq_some_iff.1 m.ob).1;have hb1:=aN m.jk;obtain ⟨s2,g2⟩:=s.base (o:=.map (fA ss2).toArray ss2.length) m.jk hlt;have hsz:({ w1 with heap:=w1.heap.setIfInBounds b (.map (fA ss2).toArray ss2.length) }:World).heap.size=w1.heap.size:=by simp
 have blk:∀ c,c<w.heap.size→c≠b→w'.heap[c]?=w.heap[c]?:=fun c hc hn=>u.mo.blk c hc (fun hm=>hn (List.mem_singleton.1 hm))
 have e:=s.st.up.ext;have hnb:∀ x∈B,x.b≠b:=fun x hx e=>by have:=s.st.lo x hx;omega
 refine ⟨_,⟨g2,⟨⟨⟨u.mo.os.trans e.os,u.mo.tape.trans e.tape,u.mo.output.trans e.output,by rw[hsz];exact Nat.le_trans e.size u.mo.size,fun c hc=>?_⟩,s.st.up.gr.trans u.gr,u.g⟩,fun x hx=>?_,fun x hx=>?_,s.st.lo,s.st.nd⟩,fun r hr=>⟨eo (s.ro r hr).own (fun c hc=>?_),fun c hc=>(u.gr.blk c ((s.ro r hr).lt hc)).trans ((s.ro r hr).jk c hc),(s.ro r hr).ap⟩,s.ap,s.mo,s.f.gw s.mo u.gr.gw⟩,⟨m.jk,by show (w1.heap.setIfInBounds b _)[b]?=_;rw[Array.getElem?_setIfInBounds_self_of_lt hlt],nd⟩,mC g2⟩
 ·rw[hsz] at hc
  by_cases q:c=b
  ·subst q
   rw[ho]
   show _=(w1.heap.setIfInBounds c _)[c]?
   rw[Array.getElem?_setIfInBounds_self_of_lt hlt]
  ·rw[blk c (Nat.lt_of_lt_of_le hc e.size) q]
   show _=(w1.heap.setIfInBounds b _)[c]?
   rw[Array.getElem?_setIfInBounds_ne (Ne.symm q)];exact e.block c hc
 ·have hO:=s.st.own x hx
  exact (blk x.b hO.lt (hnb x hx)).trans hO
 ·rw[u.gr.blk _ (aN (s.st.jk x hx))];exact s.st.jk x hx
 ·refine blk c (iE (s.ro r hr).own hc) (fun e=>?_)
  subst e;have q:=(s.ro r hr).own
  rcases q with ⟨_,e2|⟨g,cap,cur,hv,hb',_⟩⟩
  ·rw[e2.1] at hc;simp[Value.ownBlock] at hc
  ·rw[hv] at hc;simp[Value.ownBlock] at hc;omega
theorem SS.frontR {w0:World}{h0:Hp}{R:List Rw}(s:SS w0 h0 w h B R F)(p' q':List Rw)(y:Rw)(e2:R=p'++y::q':=by kernel_rfl):SS w0 h0 w h B (y::(p'++q')) F:=by
 subst e2;exact s.permBR (.refl _) List.perm_middle
theorem SS.backR {w0:World}{h0:Hp}(p' q':List Rw)(y:Rw)(s:SS w0 h0 w h B (y::(p'++q')) F):SS w0 h0 w h B (p'++y::q') F:=s.permBR (.refl _) List.perm_middle.symm
end laws
theorem nq {ok:ByteArray→Prop}{pl:ByteArray→Int}:∀ {d:Nat} {t:Tm},WfT1 ok d t→∀ l:List Stp,(bg pl d l t).length=l.length+bw d t
  | d + 1,t,w,l=>by
    have hk:∀ k,k≤t.ks.length→(fv (bg pl d) t.ks l k).1.length=l.length+cc (fun i=>bw d (t.ks.getD i aZ)) k:=by
      intro k
      induction k with
      | zero=>intro _;rfl
      | succ k ih =>
        intro hk
        show (bg pl d (fv (bg pl d) t.ks l k).1 (t.ks.getD k aZ)).length=l.length+(cc _ k+bw d (t.ks.getD k aZ))
        rw[nq (w.2.2.2.2.2.2.2.2 k oM),ih oM];omega
    show ((fv (bg pl d) t.ks l t.ks.length).1++[_]).length=l.length+(1+cc _ t.ks.length)
    rw[List.length_append,hk _ (Nat.le_refl _),List.length_singleton];omega
section
variable {pl:ByteArray→Int} {d k:Nat} {l tl:List Stp} {ks:List Tm} {za zb:Int}
theorem wU (htl:tl=(fv (bg pl d) ks l k).1)(h:k=0):(((bg pl d tl (ks.getD k aZ)).length:Nat):Int)-1=(fv (bg pl d) ks l (k+1)).2.1:=by
 subst htl;show _=if k=0 then _ else _;rw[if_pos h]
theorem AI (hb:zb=(fv (bg pl d) ks l k).2.2)(h:k=0):zb=(fv (bg pl d) ks l (k+1)).2.2:=by
 subst hb;show _=if k=0 then _ else _;rw[if_pos h]
theorem AQ (ha:za=(fv (bg pl d) ks l k).2.1)(h:k≠0):za=(fv (bg pl d) ks l (k+1)).2.1:=by
 subst ha;show _=if k=0 then _ else _;rw[if_neg h]
theorem AA (htl:tl=(fv (bg pl d) ks l k).1)(h:k≠0):(((bg pl d tl (ks.getD k aZ)).length:Nat):Int)-1=(fv (bg pl d) ks l (k+1)).2.2:=by
 subst htl;show _=if k=0 then _ else _;rw[if_neg h]
end
theorem AE  (ok:ByteArray→Prop)(d:Nat)(ih:∀ (p:PTm) (t:Tm) (w:World) (h:Hp),G w h→TmH d h p t→WfT1 ok d t→d≤20→Calls Tryz.prog 22 #[cZ p] w (Ret w h (fun v _=>v=nV (bw d t))))(op n:Int)(q:Rat)(s:ByteArray)(A:Option Addr)(c:Nat)(ps:List PTm)(ks:List Tm)(hc:ps.length≤c)(hlp:ps.length≤2)(hari:cC op=(ks.length:Nat))(hq0:op≠1→q=0)(hq:LQ 1 q)(hok:op=2→ok s)(hs0:op≠2→s=⟨#[]⟩)(hn0:op≠8→n=0)(hn1 : -12≤n)(hn2:n≤12)(hW:∀ i,i<ks.length→WfT1 ok d (ks.getD i aZ))(hd:d+1≤20)(w:World)(h:Hp)(g:G w h)(hK:SlO 9 cu bu h A ps)(hKs:Tms d h ps ks):CV 22 #[cZ ⟨op,n,q,s,A,ps.length,c⟩] w h (nV (bw (d+1) (.mk op n q s ks))):=by
 have hs:=(((sS g).aS hK).add (K:=fun h_=>Tms d h_ ps ks) hKs);have hln:=(hs.f.1).len;have hd2:2^d≤1048576:=Nat.le_trans (Nat.pow_le_pow_right oM (show d≤20 by omega)) kD;have hcb:∀ i,i<ks.length→bw d (ks.getD i aZ)≤1048576:=fun i hi=>by have:=kO (hW i hi);omega
 have hsb:∀ k,k≤ks.length→(cc (fun i=>bw d (ks.getD i aZ)) k)≤2*1048576:=fun k hk=>Nat.le_trans (jQ (b:=1048576) k (fun i hi=>hcb i oM)) (Nat.mul_le_mul_right _ oM)
 refine go Tryz.func22 [(0,cZ ⟨op,n,q,s,A,ps.length,c⟩)] rfl (aE (lA 1 31 (cu ⟨op,n,q,s,A,ps.length,c⟩) hs (fun b1 w2 h3 hs=>lL hs [.v 2 (iV 0)] (aT (lL hs [.v 3 (iV 1)] (af (aa hs [.v 6 (qP b1 8),.o 7 (qS A ps.length c) 0 8 1,.v 8 (nV ps.length),.v 9 (iV 0)] (bj ?_))))))));refine bx _ (CG.loop (fun μ_ Γ w_=>∃ (k:Nat) (h_:Hp),μ_=ps.length-k∧Γ=[(2,iV 0),(7,qS A ps.length c),(8,nV ps.length),(9,nV k),(3,iV ((1+(cc (fun i=>bw d (ks.getD i aZ)) k):Nat):Int))]∧SS w h w_ h_ [⟨b1,31,cu ⟨op,n,q,s,A,ps.length,c⟩⟩] [] [fun h_=>Tms d h_ ps ks,fun h_=>SlO 9 cu bu h_ A ps]∧k≤ps.length) _ ⟨0,h3,rfl,rfl,hs.to _ _,Nat.zero_le _⟩ ?_);rintro _ _ w4 ⟨k,h5,hm6,rfl,hs,hk⟩;have hsbk:=hsb k oM;have hs1:(cc (fun i=>bw d (ks.getD i aZ)) (k+1))=(cc (fun i=>bw d (ks.getD i aZ)) k)+bw d (ks.getD k aZ):=rfl;refine aE ?_;cases hb7:(decide ((k:Int)<(ps.length:Int)))
 ·
  have phb7:=oF hb7;refine lB 10 hb7 (af (cM (CG.exit ?_)))
  show CG _ _ _ _ _ _ _ _
  exact aa hs [.m 18 3,.m 2 18] (ae hs [] (iV ((1+(cc (fun i=>bw d (ks.getD i aZ)) k):Nat):Int)) (congrArg (fun n:Nat=>Value.int .i64 (n:Int)) (by rw[show k=ks.length by omega];rfl)))
 have phb7:=oT hb7;refine lB 10 hb7 (af (bS (cK (cQ (kZ (aE (lX 11 A ps.length c 9 (k:Nat) k ((hs.f.2.1).ok oM) ?_)))))));refine lH 12 (cZ (ps.getD k bu)) hs ((hs.f.2.1).el k oM) (lA 5 31 ([iV 0,iV 0,qF,uV 0,eS,uV 0,eS,eS,sZ]) hs (fun b8 w9 _ hs=>lP 0 0 (cu (ps.getD k bu)) hs (fun _ hs=>lN (kQ (lL hs [.m 13 3,.o 14 (cZ (ps.getD k bu)) 0 0 9] (ag 15 hs (ih (ps.getD k bu) (ks.getD k aZ) _ _ hs.g ((hs.f.1).at_ k oM) (hW k oM) oM) (fun _ za hs=>?_)))))));have hcbk:=hcb k oM;refine lV 16 (iV ((1+(cc (fun i=>bw d (ks.getD i aZ)) (k+1)):Nat):Int)) ?_ (hr:=rS ((((1+(cc (fun i=>bw d (ks.getD i aZ)) k):Nat):Int)+(bw d (ks.getD k aZ):Nat))) kR ((fS oM oM).trans oM));refine lL hs [.m 3 16] (lN (kQ (bB 17 ((k:Nat)+1) (k+1) ?_)));refine lL hs [.m 9 17] (lD ?_);intro a_ ka;replace hs:=hs.drop 1 0;refine ⟨_,_,?_,⟨k+1,za,rfl,rfl,hs.to _ _,oM⟩,ka.to _ kR⟩
 omega
theorem sO (ok:ByteArray→Prop):∀ (d:Nat) (p:PTm) (t:Tm) (w:World) (h:Hp),G w h→TmH d h p t→WfT1 ok d t→d≤20→Calls Tryz.prog 22 #[cZ p] w (Ret w h (fun v _=>v=nV (bw d t)))
  | 0,_,_,_,_,_,x,_,_=>x.elim
  | d + 1,p,t,w,h,g,x,wf,hd=>by
    obtain ⟨op,n,q,s,A,c,ps,ks,rfl,rfl,hc,hK,hKs⟩:=x.open;obtain ⟨w1,w2,w3,w4,w5,w6,w7,w8,w9⟩:=wf
    have hl2:ps.length≤2:=by
      have e1:cC op=ks.length:=w1;have:=aG op;have:=hKs.len
      omega
    exact AE ok d (fun p t w h=>sO ok d p t w h) op n q s A c ps ks hc hl2 w1 w2 w3 w4 w5 w6 w7 w8 w9 hd w h g hK hKs
theorem vm  (ok:ByteArray→Prop)(d:Nat)(ih:∀ (p:PTm) (t:Tm) (b:Nat) (ss:List ByteArray) (w:World) (h:Hp),G w h→TmH d h p t→WfT1 ok d t→MapK w h b ss→Calls Tryz.prog 59 #[cZ p,.map (some b)] w (ef b w h (fun v w1 _=>v=.tuple #[]∧∃ ss2:List ByteArray,w1.heap[b]?=some (.map (fA ss2).toArray ss2.length)∧ss2.Nodup∧(∀ x,x∈ss2↔x∈ss∨jq d t x)∧ss2.length≤ss.length+bw d t)))(op n:Int)(q:Rat)(s:ByteArray)(A:Option Addr)(c:Nat)(ps:List PTm)(ks:List Tm)(hc:ps.length≤c)(hlp:ps.length≤2)(hari:cC op=(ks.length:Nat))(hq0:op≠1→q=0)(hq:LQ 1 q)(hok:op=2→ok s)(hs0:op≠2→s=⟨#[]⟩)(hn0:op≠8→n=0)(hn1 : -12≤n)(hn2:n≤12)(hW:∀ i,i<ks.length→WfT1 ok d (ks.getD i aZ))(b:Nat)(ss:List ByteArray)(w:World)(h:Hp)(g:G w h)(hK:SlO 9 cu bu h A ps)(hKs:Tms d h ps ks)(hmk:MapK w h b ss):Calls Tryz.prog 59 #[cZ ⟨op,n,q,s,A,ps.length,c⟩,.map (some b)] w (ef b w h (fun v w1 _=>v=.tuple #[]∧∃ ss2:List ByteArray,w1.heap[b]?=some (.map (fA ss2).toArray ss2.length)∧ss2.Nodup∧(∀ x,x∈ss2↔x∈ss∨jq (d+1) (.mk op n q s ks) x)∧ss2.length≤ss.length+bw (d+1) (.mk op n q s ks))):=by
 have hmu:UpM [b] w h w h:=UpM.refl g;have hs:SS w h w h [] [] []:=sS g;replace hs:=((hs.aS hK).add (K:=fun h_=>Tms d h_ ps ks) hKs);have hln:=(hs.f.1).len;refine go Tryz.func59 [(0,cZ ⟨op,n,q,s,A,ps.length,c⟩),(1,.map (some b))] rfl (aE (lA 2 31 (cu ⟨op,n,q,s,A,ps.length,c⟩) hs (fun b1 w2 h3 hs=>?_)));refine lN (CG.join (fun Γ w_=>∃ (w1_:World) (s1:List ByteArray) (h_:Hp),Γ=[(1,.map (some b)),(2,pB b1)]∧SS w1_ h w_ h_ [⟨b1,31,cu ⟨op,n,q,s,A,ps.length,c⟩⟩] [] [fun h_=>Tms d h_ ps ks,fun h_=>SlO 9 cu bu h_ A ps]∧MapK w1_ h b s1∧UpM [b] w h w1_ h∧(∀ x,x∈s1↔x∈ss∨(op=2∧x=s))∧s1.length≤ss.length+1) ?_ ?_)
 ·
  refine aa hs [.v 6 (pB b1),.o 7 (iV op) 0 0 1] ?_;cases hb4:((op:Int) == (2:Int))
  ·
   have phb4:=ah hb4;refine lB 8 hb4 (aj (CG.skip ?_));intro a_ ka;exact ⟨_,⟨w,ss,h3,rfl,hs.to _ _,hmk,hmu,(fun x=>⟨fun h_=>.inl h_,fun h_=>h_.elim id (fun e_=>absurd e_.1 oM)⟩),oM⟩,ka.to _ kR⟩
  have phb4:=eq_of_beq hb4;refine lB 8 hb4 (ao (kQ (lL hs [.m 9 1,.v 10 (qP b1 7),.o 11 (.string s) 0 7 1] (Hv (mty:=128) (kt:=9) (et:=4) (s) hs hmk (fun w9 _ ss11 hs hmk hsq hsl2 u_=>?_)))));replace hmu:=hmu.trans u_
  clear u_
  refine lD ?_;intro a_ ka;exact ⟨_,⟨w9,ss11,h3,rfl,hs.to _ _,hmk,hmu,(fun x=>(hsq x).trans ⟨fun h_=>h_.imp id fun e_=>⟨by omega,e_⟩,fun h_=>h_.imp id fun e_=>e_.2⟩),oM⟩,ka.to _ kR⟩
 rintro _ _ ⟨w1_,s1,zc,rfl,hs,hmk,hmu,hs1,hl1⟩;refine aa hs [.v 12 (qP b1 8),.o 13 (qS A ps.length c) 0 8 1,.v 14 (nV ps.length),.v 15 (iV 0)] (bj ?_);refine bx _ (CG.loop (fun μ_ Γ w_=>∃ (w1_:World) (k:Nat) (sk:List ByteArray) (h_:Hp),μ_=ps.length-k∧Γ=[(1,.map (some b)),(13,qS A ps.length c),(14,nV ps.length),(15,nV k)]∧SS w1_ h w_ h_ [⟨b1,31,cu ⟨op,n,q,s,A,ps.length,c⟩⟩] [] [fun h_=>Tms d h_ ps ks,fun h_=>SlO 9 cu bu h_ A ps]∧MapK w1_ h b sk∧UpM [b] w h w1_ h∧k≤ps.length∧(∀ x,x∈sk↔x∈s1∨HasK d ks k x)∧sk.length≤s1.length+(cc (fun i=>bw d (ks.getD i aZ)) k)) _ ⟨w1_,0,s1,zc,rfl,rfl,hs.to _ _,hmk,hmu,Nat.zero_le _,(fun x=>⟨.inl,fun h_=>h_.elim id (fun h_=>absurd h_ HasK.zero)⟩),nR _⟩ ?_);rintro _ _ _ ⟨w1_,k,sk,_,hm20,rfl,hs,hmk,hmu,hk,hsk,hskl⟩;have hs1_:(cc (fun i=>bw d (ks.getD i aZ)) (k+1))=(cc (fun i=>bw d (ks.getD i aZ)) k)+bw d (ks.getD k aZ):=rfl;refine aE ?_;cases za:(decide ((k:Int)<(ps.length:Int)))
 ·
  have zb:=oF za;refine lB 16 za (af (cM (CG.exit ?_)));have hkn:k=ks.length:=by omega
  have hcn:bw (d+1) (.mk op n q s ks)=1+(cc (fun i=>bw d (ks.getD i aZ)) ks.length):=rfl;exact hs.retM (hmu.trans (hs.st.up.m _)) [] (.tuple #[]) ⟨rfl,sk,hs.atK hmk,hmk.nd,fun x=>by rw[hsk x,hs1 x,hkn,or_assoc];exact Iff.rfl,by rw[hcn,←hkn];omega⟩
 have zb:=oT za;refine lB 16 za (af (bS (cK (cQ (kZ (aE (lX 17 A ps.length c 9 (k:Nat) k ((hs.f.2.1).ok oM) ?_)))))));refine lH 18 (cZ (ps.getD k bu)) hs ((hs.f.2.1).el k oM) (lA 5 31 ([iV 0,iV 0,qF,uV 0,eS,uV 0,eS,eS,sZ]) hs (fun b22 _ _ hs=>lP 0 0 (cu (ps.getD k bu)) hs (fun _ hs=>lN (kQ (lL hs [.o 19 (cZ (ps.getD k bu)) 0 0 9,.m 20 1] (fL 21 (ih (ps.getD k bu) (ks.getD k aZ) b sk _ _ hs.g ((hs.f.1).at_ k oM) (hW k oM) ⟨(hs.st.up.gr.blk _ (aN hmk.jk)).trans hmk.jk,hs.atK hmk,hmk.nd⟩) ?_))))));rintro _ _ zd u28 ⟨rfl,ss29,ho_,hd_,hsq,hsl2⟩;obtain ⟨ze,hs,hmk,u_⟩:=hs.baseK hmk u28 ho_ hd_;replace hmu:=hmu.trans u_
 clear u_ ho_ hd_
 refine lN (kQ (bB 22 ((k:Nat)+1) (k+1) ?_));refine lL hs [.m 15 22] (lD ?_);intro a_ ka;replace hs:=hs.drop 1 0;refine ⟨_,_,?_,⟨ze,k+1,ss29,zd,rfl,rfl,hs.to _ _,hmk,hmu,oM,(fun x=>(hsq x).trans (by rw[hsk x,or_assoc,←HasK.succ])),oM⟩,ka.to _ kR⟩
 omega
theorem qO (ok:ByteArray→Prop):∀ (d:Nat) (p:PTm) (t:Tm) (b:Nat) (ss:List ByteArray) (w:World) (h:Hp),G w h→TmH d h p t→WfT1 ok d t→MapK w h b ss→Calls Tryz.prog 59 #[cZ p,.map (some b)] w (ef b w h (fun v w1 _=>v=.tuple #[]∧∃ ss2:List ByteArray,w1.heap[b]?=some (.map (fA ss2).toArray ss2.length)∧ss2.Nodup∧(∀ x,x∈ss2↔x∈ss∨jq d t x)∧ss2.length≤ss.length+bw d t))
  | 0,_,_,_,_,_,_,_,x,_,_=>x.elim
  | d+1,p,t,b,ss,w,h,g,x,wf,hmk=>by
    obtain ⟨op,n,q,s,A,c,ps,ks,rfl,rfl,hc,hK,hKs⟩:=x.open;have hl2:=wf.two;obtain ⟨w1,w2,w3,w4,w5,w6,w7,w8,w9⟩:=wf;exact vm ok d (fun p t b ss w h=>qO ok d p t b ss w h) op n q s A c ps ks hc (by have:=hKs.len;exact this▸hl2) w1 w2 w3 w4 w5 w6 w7 w8 w9 b ss w h g hK hKs hmk
theorem uJ {w0:World}{h0:Hp}{B2:List Bx}{R2:List Rw}{F2:List (Hp→Prop)}(ok:ByteArray→Prop)(pl:ByteArray→Int)(b:Nat)(es:List MapEntry)(hpl:∀ s,ok s→0≤pl s∧pl s≤1000)(hlk:∀ s,ok s→∃ i,Instr.findNow .string (.string s) es 0=some (some (i,iV (pl s))))(d:Nat)(ih:∀ (p:PTm) (t:Tm) (A:Option Addr) (c:Nat) (l:List Stp) {w0:World} {h0:Hp} {B2:List Bx} {R2:List Rw} {F2:List (Hp→Prop)} (w:World) (h:Hp),G w h→TmH d h p t→MapS h b es→SS w0 h0 w h B2 (⟨135,9,A,c,(l).length,(l).flatMap fu⟩::R2) F2→WfT1 ok d t→l.length+bw d t≤1000000→Calls Tryz.prog 23 #[.slice A l.length c,cZ p,.map (some b)] w (wl fun v w1 h1=>∃ A1 c1,v=.slice A1 (bg pl d l t).length c1∧SS w0 h0 w1 h1 B2 (⟨135,9,A1,c1,(bg pl d l t).length,(bg pl d l t).flatMap fu⟩::R2) F2))(op n:Int)(q:Rat)(s:ByteArray)(A:Option Addr)(c:Nat)(ps:List PTm)(ks:List Tm)(hc:ps.length≤c)(hlp:ps.length≤2)(hari:cC op=(ks.length:Nat))(hq0:op≠1→q=0)(hq:LQ 1 q)(hok:op=2→ok s)(hs0:op≠2→s=⟨#[]⟩)(hn0:op≠8→n=0)(hn1 : -12≤n)(hn2:n≤12)(hW:∀ i,i<ks.length→WfT1 ok d (ks.getD i aZ))(A0:Option Addr)(c0:Nat)(l:List Stp)(hll0:l.length+bw (d+1) (.mk op n q s ks)≤1000000)(w:World)(h:Hp)(g:G w h)(hK:SlO 9 cu bu h A ps)(hKs:Tms d h ps ks)(hM:MapS h b es)(hs:SS w0 h0 w h B2 (⟨135,9,A0,c0,(l).length,(l).flatMap fu⟩::R2) F2):Calls Tryz.prog 23 #[.slice A0 ((l).length) c0,cZ ⟨op,n,q,s,A,ps.length,c⟩,.map (some b)] w (wl fun v w1 h1=>∃ A1 c1,v=.slice A1 (bg pl (d+1) l (.mk op n q s ks)).length c1∧SS w0 h0 w1 h1 B2 (⟨135,9,A1,c1,(bg pl (d+1) l (.mk op n q s ks)).length,(bg pl (d+1) l (.mk op n q s ks)).flatMap fu⟩::R2) F2):=by
 replace hs:=hs.to ([]++B2) ([⟨135,9,A0,c0,(l).length,(l).flatMap fu⟩]++R2);replace hs:=(((hs.aS hK).add (K:=fun h_=>Tms d h_ ps ks) hKs).add (K:=fun h_=>MapS h_ b es) hM);have hln:=(hs.f.2.1).len;have hcn:bw (d+1) (.mk op n q s ks)=1+(cc (fun i=>bw d (ks.getD i aZ)) ks.length):=rfl;refine go Tryz.func23 [(0,qS A0 ((l).length) c0),(1,cZ ⟨op,n,q,s,A,ps.length,c⟩),(2,.map (some b))] rfl (aE (lA 4 31 (cu ⟨op,n,q,s,A,ps.length,c⟩) hs (fun b1 w2 h3 hs=>lL hs [.v 6 (sZ)] (aT (lL hs [.v 10 (pB b1),.o 11 (iV op) 0 0 1,.v 12 (qP b1 1),.o 13 (iV n) 0 1 1,.v 14 (qP b1 2),.o 15 (qv q) 0 2 5,.v 16 (sW op 0 0 n q)] (lA 7 135 ([iV 0,iV 0,iV 0,iV 0,qF,uV 0,eS,uV 0,eS]) hs (fun b4 w5 h6 hs=>lP 0 0 (sG op 0 0 n q) hs (fun w7 hs=>?_))))))));refine lN (CG.join (fun Γ w_=>∃ (nn:Int) (h_:Hp),Γ=[(0,qS A0 ((l).length) c0),(2,.map (some b)),(4,pB b1),(6,sZ),(7,pB b4)]∧SS w0 h0 w_ h_ ([⟨b4,135,sG op 0 0 nn q⟩,⟨b1,31,cu ⟨op,n,q,s,A,ps.length,c⟩⟩]++B2) ([⟨135,9,A0,c0,(l).length,(l).flatMap fu⟩]++R2) ([fun h_=>MapS h_ b es,fun h_=>Tms d h_ ps ks,fun h_=>SlO 9 cu bu h_ A ps]++F2)∧nn=(if op=2 then pl s else n)) ?_ ?_)
 ·
  refine aa hs [.v 17 (pB b1),.o 18 (iV op) 1 0 1] ?_;cases hb8:((op:Int) == (2:Int))
  ·
   have phb8:=ah hb8;refine lB 19 hb8 (aj (CG.skip ?_));intro a_ ka;exact ⟨_,⟨n,h6,rfl,hs.to _ _,((if_neg oM).symm)⟩,ka.to _ kR⟩
  have phb8:=eq_of_beq hb8;refine lB 19 hb8 (ao (kQ (lL hs [.m 20 2,.v 21 (qP b1 7),.o 22 (.string s) 1 7 1] (GN 23 77 9 3 (s) false (iV (pl s)) (true) hs hs.f.1 ?_ (hf:=(.inl (by obtain ⟨i_,e_⟩:=hlk s (hok oM);exact ⟨i_,e_,rfl⟩)))))));refine lL hs [.v 24 (qP b4 3)] (lP 0 3 ([iV (pl s)]) hs (fun _ hs=>lD ?_));intro a_ ka;exact ⟨_,⟨(pl s),h6,rfl,hs.to _ _,((if_pos oM).symm)⟩,ka.to _ kR⟩
 rintro _ _ ⟨nn,zm,rfl,hs,hnn⟩;refine cQ (aa hs [.v 25 (qP b1 8),.o 26 (qS A ps.length c) 1 8 1,.v 27 (nV ps.length),.v 28 (iV 0)] (bj ?_));refine bx _ (CG.loop (fun μ_ Γ w_=>∃ (k:Nat) (srA:Option Addr) (src:Nat) (tl:List Stp) (za:Int) (zb:Int) (h_:Hp),μ_=ps.length-k∧Γ=[(2,.map (some b)),(6,sZ),(7,pB b4),(26,qS A ps.length c),(27,nV ps.length),(28,nV k),(0,qS srA ((tl).length) src)]∧SS w0 h0 w_ h_ ([⟨b4,135,sG op za zb nn q⟩,⟨b1,31,cu ⟨op,n,q,s,A,ps.length,c⟩⟩]++B2) ([⟨135,9,srA,src,(tl).length,(tl).flatMap fu⟩]++R2) ([fun h_=>MapS h_ b es,fun h_=>Tms d h_ ps ks,fun h_=>SlO 9 cu bu h_ A ps]++F2)∧k≤ps.length∧tl=(fv (bg pl d) ks l k).1∧za=(fv (bg pl d) ks l k).2.1∧zb=(fv (bg pl d) ks l k).2.2∧tl.length≤l.length+(cc (fun i=>bw d (ks.getD i aZ)) k)) _ ⟨0,A0,c0,l,0,0,zm,rfl,rfl,hs.to _ _,Nat.zero_le _,rfl,rfl,rfl,(nR _)⟩ ?_);rintro _ _ _ ⟨k,srA,src,tl,za,zb,_,hm16,rfl,hs,hk,htl,ha1,hb1,hll⟩;have hs1_:(cc (fun i=>bw d (ks.getD i aZ)) (k+1))=(cc (fun i=>bw d (ks.getD i aZ)) k)+bw d (ks.getD k aZ):=rfl;refine aE ?_;cases zc:(decide ((k:Int)<(ps.length:Int)))
 ·
  have zg:=oF zc;refine lB 29 zc (af (cM (CG.exit ?_)))
  show CG _ _ _ _ _ _ _ _
  refine aE ?_;have hsm2_:=fR (fun i=>bw d (ks.getD i aZ)) (show k≤ks.length by omega);refine lL hs [.m 48 0,.o 49 (sW op za zb nn q) 0 0 9] (lR 50 135 1 (sG op za zb nn q) hs (fun zn _ _ hs=>lY 51 0 135 9 src srA tl fu (⟨op,za,zb,nn,q⟩:Stp) 88 zn (.agg #[iV 0,iV 0,iV 0,iV 0,qF,uV 0,eS,uV 0,eS]) hs hs.f.1 (fun zj zk _ _ hs=>lL hs [.m 6 51] (lN (kX ?_)))));have hkn:k=ks.length:=by omega
  rw[hkn] at htl ha1 hb1
  have hrT:bg pl (d+1) l (.mk op n q s ks)=tl++[⟨op,za,zb,nn,q⟩]:=by rw[htl,ha1,hb1,hnn];rfl
  refine hs.retS [] (qS zj ((tl++[(⟨op,za,zb,nn,q⟩:Stp)]).length) zk) ?_;rw[hrT];exact ⟨zj,zk,rfl,(hs.tl.tl.tl.tl.drop 2 0).to _ _⟩
 have zg:=oT zc;refine lB 29 zc (af (bS (cK (cQ (kZ (aa hs [.m 30 28] (lX 31 A ps.length c 9 (k:Nat) k ((hs.f.r.1).ok oM) ?_)))))));refine lH 32 (cZ (ps.getD k bu)) hs ((hs.f.r.1).el k oM) (lA 9 31 ([iV 0,iV 0,qF,uV 0,eS,uV 0,eS,eS,sZ]) hs (fun zo _ _ hs=>lL hs [.m 8 30] (lP 0 0 (cu (ps.getD k bu)) hs (fun _ hs=>aT (lL hs [.m 33 0,.o 34 (cZ (ps.getD k bu)) 0 0 9,.m 35 2] ?_)))));have hsm_:=fR (fun i=>bw d (ks.getD i aZ)) (show k+1≤ks.length by omega);refine HR 36 (ih (ps.getD k bu) (ks.getD k aZ) srA src tl _ _ hs.g ((hs.f.2.1).at_ k oM) hs.f.1 (hs.frontR [] ([]++R2) ⟨135,9,srA,src,(tl).length,(tl).flatMap fu⟩) (hW k oM) oM) ?_;rintro _ _ zl ⟨ze,zf,rfl,hs⟩;replace hs:=(SS.backR [] ([]++R2) ⟨135,9,ze,zf,(bg pl d tl (ks.getD k aZ)).length,(bg pl d tl (ks.getD k aZ)).flatMap fu⟩ hs).to ([⟨zo,31,cu (ps.getD k bu)⟩,⟨b4,135,sG op za zb nn q⟩,⟨b1,31,cu ⟨op,n,q,s,A,ps.length,c⟩⟩]++B2) ([⟨135,9,ze,zf,(bg pl d tl (ks.getD k aZ)).length,(bg pl d tl (ks.getD k aZ)).flatMap fu⟩]++R2);have hrl:=(nq (pl:=pl) (hW k oM) tl);refine lL hs [.m 0 36] (aT (lL hs [.m 37 8] ?_));cases zd:((k:Int) == (0:Int))
 ·
  have zi:=ah zd;refine lB 38 zd (aj (kQ (lL hs [.m 43 0,.v 44 (nV ((bg pl d tl (ks.getD k aZ)).length))] (lI 45 (((bg pl d tl (ks.getD k aZ)).length:Nat)-1) ?_))));refine lL hs [.v 46 (qP b4 2)] (lP 1 2 ([iV (((bg pl d tl (ks.getD k aZ)).length:Nat)-1)]) hs (fun _ hs=>lN (kQ (bB 47 ((k:Nat)+1) (k+1) ?_))));refine lL hs [.m 28 47] (lD ?_);intro a_ ka;replace hs:=hs.drop 1 0;refine ⟨_,_,?_,⟨k+1,ze,zf,bg pl d tl (ks.getD k aZ),za,((bg pl d tl (ks.getD k aZ)).length:Nat)-1,zl,rfl,rfl,hs.to _ _,oM,(by rw[htl];rfl),(AQ ha1 oM),(AA htl oM),oM⟩,ka.to _ kR⟩
  omega
 have zi:=eq_of_beq zd;refine lB 38 zd (ao (kQ (lL hs [.m 39 0,.v 40 (nV ((bg pl d tl (ks.getD k aZ)).length))] (lI 41 (((bg pl d tl (ks.getD k aZ)).length:Nat)-1) ?_))));refine lL hs [.v 42 (qP b4 1)] (lP 1 1 ([iV (((bg pl d tl (ks.getD k aZ)).length:Nat)-1)]) hs (fun _ hs=>lN (kQ (bB 47 ((k:Nat)+1) (k+1) ?_))));refine lL hs [.m 28 47] (lD ?_);intro a_ ka;replace hs:=hs.drop 1 0;refine ⟨_,_,?_,⟨k+1,ze,zf,bg pl d tl (ks.getD k aZ),((bg pl d tl (ks.getD k aZ)).length:Nat)-1,zb,zl,rfl,rfl,hs.to _ _,oM,(by rw[htl];rfl),(wU htl oM),(AI hb1 oM),oM⟩,ka.to _ kR⟩
 omega
theorem rk (ok:ByteArray→Prop)(pl:ByteArray→Int)(b:Nat)(es:List MapEntry)(hpl:∀ s,ok s→0≤pl s∧pl s≤1000)(hlk:∀ s,ok s→∃ i,Instr.findNow .string (.string s) es 0=some (some (i,iV (pl s)))):∀ (d:Nat) (p:PTm) (t:Tm) (A:Option Addr) (c:Nat) (l:List Stp) {w0:World} {h0:Hp} {B2:List Bx} {R2:List Rw} {F2:List (Hp→Prop)} (w:World) (h:Hp),G w h→TmH d h p t→MapS h b es→SS w0 h0 w h B2 (⟨135,9,A,c,(l).length,(l).flatMap fu⟩::R2) F2→WfT1 ok d t→l.length+bw d t≤1000000→Calls Tryz.prog 23 #[.slice A l.length c,cZ p,.map (some b)] w (wl fun v w1 h1=>∃ A1 c1,v=.slice A1 (bg pl d l t).length c1∧SS w0 h0 w1 h1 B2 (⟨135,9,A1,c1,(bg pl d l t).length,(bg pl d l t).flatMap fu⟩::R2) F2)
  | 0,_,_,_,_,_,_,_,_,_,_,_,_,_,x,_,_,_,_=>x.elim
  | d+1,p,t,A0,c0,l,w0,h0,B2,R2,F2,w,h,g,x,hM,hs,wf,hl=>by
    obtain ⟨op,n,q,s,A,c,ps,ks,rfl,rfl,hc,hK,hKs⟩:=x.open;have hl2:=wf.two;obtain ⟨w1,w2,w3,w4,w5,w6,w7,w8,w9⟩:=wf;exact uJ ok pl b es hpl hlk d (fun p t A c l=>@fun w0 h0 B2 R2 F2 w h=>rk ok pl b es hpl hlk d p t A c l w h) op n q s A c ps ks hc (by have:=hKs.len;exact this▸hl2) w1 w2 w3 w4 w5 w6 w7 w8 w9 A0 c0 l hl w h g hK hKs hM hs
section srt
open Go.RowKit Go.Maps Go.Sort Go.Shelf Go.WideShapes
def Tryz.keysZ_ren:Go.Shelf.Ren:=⟨fun|7=>61|10=>106|n=>n,fun|23=>128|26=>9|3=>4|28=>132|0=>0|27=>131|33=>127|4=>4|n=>n,fun|n=>n⟩
theorem Tryz.keysZ:Go.Proofs.SlLaysZ.n7 Tryz.prog Tryz.keysZ_ren:={
 mixed:=by kernel_rfl
 f7:=⟨Tryz.f61.name,by decide,Tryz.func61.trans (congrArg some kR)⟩
 f10:=⟨Tryz.f106.name,by decide,Tryz.func106.trans (congrArg some kR)⟩
 t0:=Tryz.underlying0
 a0:=Tryz.isAgg0
 z0:=Tryz.sizeOf0
 v0:=Tryz.zeroValue0
 t4:=Tryz.underlying4
 a4:=Tryz.isAgg4
 z4:=Tryz.sizeOf4
 v4:=Tryz.zeroValue4
 t23:=Tryz.underlying128
 a23:=Tryz.isAgg128
 z23:=Tryz.sizeOf128
 v23:=Tryz.zeroValue128
 t26:=Tryz.underlying9
 a26:=Tryz.isAgg9
 z26:=Tryz.sizeOf9
 v26:=Tryz.zeroValue9
 t27:=Tryz.underlying131
 a27:=Tryz.isAgg131
 z27:=Tryz.sizeOf131
 v27:=Tryz.zeroValue131
 t28:=Tryz.underlying132
 a28:=Tryz.isAgg132
 z28:=Tryz.sizeOf132
 v28:=Tryz.zeroValue132
 t33:=Tryz.underlying127
 a33:=Tryz.isAgg127
 z33:=Tryz.sizeOf127
 v33:=Tryz.zeroValue127 }
def Tryz.sortedZ_ren:Go.Shelf.Ren:=⟨fun|6=>60|8=>104|9=>105|11=>142|13=>135|12=>143|23=>171|24=>111|14=>177|15=>178|16=>179|17=>180|18=>181|19=>182|20=>183|21=>184|22=>185|25=>211|26=>200|27=>201|28=>212|29=>213|30=>214|31=>229|n=>n,fun|26=>9|28=>132|24=>43|0=>0|3=>3|37=>179|48=>178|50=>22|4=>4|40=>229|39=>228|45=>80|5=>5|9=>9|51=>256|55=>259|57=>270|58=>271|33=>127|n=>n,fun|n=>n⟩
theorem Tryz.sortedZ:Go.Proofs.SlLaysZ.n6 Tryz.prog Tryz.sortedZ_ren:={
 mixed:=by kernel_rfl
 f6:=⟨Tryz.f60.name,by decide,Tryz.func60.trans (congrArg some kR)⟩
 f8:=⟨Tryz.f104.name,by decide,Tryz.func104.trans (congrArg some kR)⟩
 f11:=⟨Tryz.f142.name,by decide,Tryz.func142.trans (congrArg some kR)⟩
 t0:=Tryz.underlying0
 a0:=Tryz.isAgg0
 z0:=Tryz.sizeOf0
 v0:=Tryz.zeroValue0
 t24:=Tryz.underlying43
 a24:=Tryz.isAgg43
 z24:=Tryz.sizeOf43
 v24:=Tryz.zeroValue43
 t26:=Tryz.underlying9
 a26:=Tryz.isAgg9
 z26:=Tryz.sizeOf9
 v26:=Tryz.zeroValue9
 t28:=Tryz.underlying132
 a28:=Tryz.isAgg132
 z28:=Tryz.sizeOf132
 v28:=Tryz.zeroValue132
 i26:=by kernel_rfl }
def Tryz.sortZ_ren:Go.Shelf.Ren:=⟨fun|6=>105|8=>135|9=>143|19=>171|20=>111|21=>177|22=>178|23=>179|24=>180|25=>181|26=>182|27=>183|28=>184|29=>185|36=>211|31=>200|32=>201|37=>212|38=>213|39=>214|41=>229|n=>n,fun|27=>43|29=>9|3=>3|32=>179|26=>43|0=>0|44=>178|46=>22|4=>4|36=>229|35=>228|41=>80|5=>5|9=>9|53=>256|57=>259|63=>270|64=>271|n=>n,fun|n=>n⟩
theorem Tryz.sortZ:Go.Proofs.SlLaysM.n6 Tryz.prog Tryz.sortZ_ren:={
 mixed:=by kernel_rfl
 f6:=⟨Tryz.f105.name,by decide,Tryz.func105.trans (congrArg some kR)⟩
 f8:=Tryz.func135.trans (congrArg some kR)
 f9:=⟨Tryz.f143.name,by decide,Tryz.func143.trans (congrArg some kR)⟩
 f19:=Tryz.func171.trans (congrArg some kR)
 f20:=Tryz.func111.trans (congrArg some kR)
 f21:=⟨Tryz.f177.name,by decide,Tryz.func177.trans (congrArg some kR)⟩
 f22:=⟨Tryz.f178.name,by decide,Tryz.func178.trans (congrArg some kR)⟩
 f23:=⟨Tryz.f179.name,by decide,Tryz.func179.trans (congrArg some kR)⟩
 f24:=⟨Tryz.f180.name,by decide,Tryz.func180.trans (congrArg some kR)⟩
 f25:=⟨Tryz.f181.name,by decide,Tryz.func181.trans (congrArg some kR)⟩
 f26:=⟨Tryz.f182.name,by decide,Tryz.func182.trans (congrArg some kR)⟩
 f27:=⟨Tryz.f183.name,by decide,Tryz.func183.trans (congrArg some kR)⟩
 f28:=⟨Tryz.f184.name,by decide,Tryz.func184.trans (congrArg some kR)⟩
 f29:=⟨Tryz.f185.name,by decide,Tryz.func185.trans (congrArg some kR)⟩
 f31:=Tryz.func200.trans (congrArg some kR)
 f32:=Tryz.func201.trans (congrArg some kR)
 f36:=⟨Tryz.f211.name,by decide,Tryz.func211.trans (congrArg some kR)⟩
 f37:=⟨Tryz.f212.name,by decide,Tryz.func212.trans (congrArg some kR)⟩
 f38:=⟨Tryz.f213.name,by decide,Tryz.func213.trans (congrArg some kR)⟩
 f39:=⟨Tryz.f214.name,by decide,Tryz.func214.trans (congrArg some kR)⟩
 f41:=⟨Tryz.f229.name,by decide,Tryz.func229.trans (congrArg some kR)⟩
 t0:=Tryz.underlying0
 a0:=Tryz.isAgg0
 z0:=Tryz.sizeOf0
 v0:=Tryz.zeroValue0
 t3:=Tryz.underlying3
 a3:=Tryz.isAgg3
 z3:=Tryz.sizeOf3
 v3:=Tryz.zeroValue3
 t4:=Tryz.underlying4
 a4:=Tryz.isAgg4
 z4:=Tryz.sizeOf4
 v4:=Tryz.zeroValue4
 t5:=Tryz.underlying5
 a5:=Tryz.isAgg5
 z5:=Tryz.sizeOf5
 v5:=Tryz.zeroValue5
 t9:=Tryz.underlying9
 a9:=Tryz.isAgg9
 z9:=Tryz.sizeOf9
 v9:=Tryz.zeroValue9
 t26:=Tryz.underlying43
 a26:=Tryz.isAgg43
 z26:=Tryz.sizeOf43
 v26:=Tryz.zeroValue43
 t27:=Tryz.underlying43
 a27:=Tryz.isAgg43
 z27:=Tryz.sizeOf43
 v27:=Tryz.zeroValue43
 t29:=Tryz.underlying9
 a29:=Tryz.isAgg9
 z29:=Tryz.sizeOf9
 v29:=Tryz.zeroValue9
 t32:=Tryz.underlying179
 a32:=Tryz.isAgg179
 z32:=Tryz.sizeOf179
 v32:=Tryz.zeroValue179
 t35:=Tryz.underlying228
 a35:=Tryz.isAgg228
 z35:=Tryz.sizeOf228
 v35:=Tryz.zeroValue228
 t36:=Tryz.underlying229
 a36:=Tryz.isAgg229
 z36:=Tryz.sizeOf229
 v36:=Tryz.zeroValue229
 t41:=Tryz.underlying80
 a41:=Tryz.isAgg80
 z41:=Tryz.sizeOf80
 v41:=Tryz.zeroValue80
 t44:=Tryz.underlying178
 a44:=Tryz.isAgg178
 z44:=Tryz.sizeOf178
 v44:=Tryz.zeroValue178
 t46:=Tryz.underlying22
 a46:=Tryz.isAgg22
 z46:=Tryz.sizeOf22
 v46:=Tryz.zeroValue22
 t53:=Tryz.underlying256
 a53:=Tryz.isAgg256
 z53:=Tryz.sizeOf256
 v53:=Tryz.zeroValue256
 t57:=Tryz.underlying259
 a57:=Tryz.isAgg259
 z57:=Tryz.sizeOf259
 v57:=Tryz.zeroValue259
 t63:=Tryz.underlying270
 a63:=Tryz.isAgg270
 z63:=Tryz.sizeOf270
 v63:=Tryz.zeroValue270
 t64:=Tryz.underlying271
 a64:=Tryz.isAgg271
 z64:=Tryz.sizeOf271
 v64:=Tryz.zeroValue271 }
theorem rW (m:Nat):AnyZ.SortsIn Tryz.prog Tryz.sortedZ_ren Fence.wide m :=
 ⟨fun blk off cap ss W hH hblk hsz=>callsIn_wide.2 (AnyM.slices_Sort_string Tryz.sortZ blk off cap ss W hH hblk hsz),fun p cap W=>callsIn_wide.2 (AnyM.slices_Sort_string_none Tryz.sortZ p cap W)⟩
theorem uI (mb:Option Nat)(W:World):CallsIn Fence.wide 5 Tryz.prog 61 #[.map mb] W fun e w'=>e=.returned (.func (.func 106) #[] #[.pointer (some ⟨W.heap.size,0,none⟩)])∧w'=W.alloc (.cells #[.map mb] 128) :=
 AnyZ.keys_in Tryz.keysZ Fence.wide 5 trivial rfl mb W
theorem pD {H:Type}(b nn:Nat)(D0:DataW H)(R:Value→Option (DataW H × List MemPlace))(w:World)(hown:w.ownsMap Tryz.prog 9 R b nn D0)(hmax:Maps.size D0≤maxLen)(hbytes:Maps.size D0*16≤140737488355328) :
  CallsIn Fence.wide 5 Tryz.prog 60 #[.func (.func 106) #[] #[.pointer (some ⟨w.heap.size,0,none⟩)]] (w.alloc (.cells #[.map (some b)] 128)) fun e w'=>∃ (v:Value) (ss:List (List UInt8)),e=.returned v∧ss.Perm (strKeys D0) ∧
   w'.ownsRow (w.alloc (.cells #[.map (some b)] 128)).heap.size 9 1 v ss.length ((ss.mergeSort (fun x y=>decide (x≤y))).map encStr)∧(v=.slice none 0 0↔ss=[])∧Below (w.alloc (.cells #[.map (some b)] 128)).heap.size (w.alloc (.cells #[.map (some b)] 128)) w':=by
 have hbl:=hown.lt
 have hseq:SeqGives Fence.wide 2 Tryz.prog 106 #[.pointer (some ⟨w.heap.size,0,none⟩)] encStr (fun ss=>ss.Perm (strKeys D0)) (Maps.size D0) (w.alloc (.cells #[.map (some b)] 128)) :=
  AnyZ.keys_gives (ρ:=Tryz.keysZ_ren) { Tryz.keysZ with } Fence.wide _ trivial rfl oM w.heap.size b nn D0 _ (by simp) (by simp) (by
   obtain ⟨es,clock,hb,Ft,hs,hD⟩:=hown;exact ⟨es,clock,(Below.heap_alloc _ _ b hbl).trans hb,Ft,hs,hD⟩)
 exact AnyZ.sorted_in Tryz.sortedZ Fence.wide 5 trivial trivial trivial trivial rfl oM (rW _) (enters_of Tryz.func105 kR rfl) 106 #[.pointer (some ⟨w.heap.size,0,none⟩)] trivial (enters_of Tryz.func106 kR rfl) _ _ hmax hbytes _ hseq
section
variable {P:Program} {k:TypeId} (hk:P.underlying k=some .string)
def RU (_:Value):Option (DataW Unit × List MemPlace):=some (.nil,[])
theorem t8 (hk:P.underlying k=some .string){ss:List ByteArray}(hs:∀ s∈ss,s.size≤maxLen){e:MapEntry}(he:e∈fA ss):∃ s∈ss,WideElems.rd P k RU e=some (.string s.data.toList,.nil)∧e.key=.string s:=by
 obtain ⟨j,s,hj,rfl⟩:=mK he;have hm:s∈ss:=List.mem_iff_getElem?.2 ⟨j,hj⟩;refine ⟨s,hm,?_,rfl⟩
 have h1:keyOf P k (.string s)=some (.string s.data.toList):=by
  have:=hs s hm
  simp[keyOf,hk,mapKey,this]
 unfold WideElems.rd
 rw[h1];rfl
theorem oU {ss:List ByteArray}(hn:ss.Nodup):MapKept.Stamped (fA ss).toArray ss.length:=by
 refine ⟨fun x hx=>?_,?_,?_⟩
 ·obtain ⟨j,s,hj,rfl⟩:=mK (by simpa using hx)
  exact (List.getElem?_eq_some_iff.1 hj).1
 ·have e:(fA ss).map (·.born)=List.range ss.length:=by
   apply List.ext_getElem
   ·simp[fA]
   ·intro i h1 h2;simp[fA]
  show ((fA ss).map (·.born)).Nodup
  rw[e];exact List.nodup_range
 ·have e:(fA ss).map (·.key)=ss.map Value.string:=by
   apply List.ext_getElem
   ·simp[fA]
   ·intro i h1 h2;simp[fA]
  show ((fA ss).map (·.key)).Nodup
  rw[e];exact List.Pairwise.map _ (fun a b h e=>h (Value.string.inj e)) hn
theorem wR (hk:P.underlying k=some .string){w:World}{b:Nat}{ss:List ByteArray}(hb:w.heap[b]?=some (.map (fA ss).toArray ss.length))(hn:ss.Nodup)(hs:∀ s∈ss,s.size≤maxLen)(hl:ss.length≤1048576) :
  ∃ D:DataW Unit,w.ownsMap P k RU b ss.length D∧(strKeys D).Perm (ss.map fun s=>s.data.toList)∧Maps.size D≤1048576:=by
 have hlen:(fA ss).length=ss.length:=by simp[fA]
 refine ⟨.map (((fA ss).map (WideElems.rg P k RU)).foldr DataW.insert []),⟨(fA ss).toArray,ss.length,hb,⟨?_,oU hn,fun x hx=>?_⟩,?_,rfl⟩,?_,?_⟩
 ·show (fA ss).toArray.size≤maxLen
  rw[List.size_toArray,hlen];unfold maxLen;omega
 ·obtain ⟨s,_,h,_⟩:=t8 (P:=P) hk hs (by simpa using hx)
  exact ⟨_,h⟩
 ·rw[List.size_toArray,hlen];exact Nat.le_refl _
 ·show ((((fA ss).map (WideElems.rg P k RU)).foldr DataW.insert []).map fun p=>strOf p.1).Perm _
  refine ((sorted_perm _).map _).trans (List.Perm.of_eq ?_);rw[List.map_map]
  apply List.ext_getElem
  ·simp[hlen]
  ·intro i h1 h2
   have hi:i<(fA ss).length:=by simpa using h1
   obtain ⟨s,hs2,hr,hkey⟩:=t8 (P:=P) hk hs (List.getElem_mem hi);obtain ⟨s',h3,h4⟩:=o6 (List.getElem?_eq_getElem hi);rw[List.getElem_map,List.getElem_map];rw[h4] at hkey
   injection hkey with hkey
   subst hkey
   show strOf (((WideElems.rd P k RU (fA ss)[i]).getD (.bool false,.nil)).1)=_
   rw[hr]
   show s'.data.toList=_
   rw[List.getElem?_eq_getElem oM] at h3
   rw[Option.some.inj h3]
 ·show Maps.size (.map _)≤_
  rw[Maps.size_eq,(sorted_perm _).length_eq,List.length_map,hlen];exact hl
end
theorem rJ {w w':World}{h:Hp}(g:G w h)(x:Ext w w'):∃ h',Up w h w' h'∧∀ b,h.size≤b→h'[b]?=w'.heap[b]?:=by
 have hs:=x.size;have e0:=g.size
 have key:∀ b,h.size≤b→(h++w'.heap.extract h.size w'.heap.size)[b]?=w'.heap[b]?:=fun b hb=>by
  rw[Array.getElem?_append_right hb,Array.getElem?_extract]
  by_cases hl:b<w'.heap.size
  ·rw[if_pos oM];congr 1;omega
  ·rw[if_neg oM,Array.getElem?_eq_none oM]
 refine ⟨h++w'.heap.extract h.size w'.heap.size,⟨x,⟨by simp,fun b hb=>Array.getElem?_append_left hb⟩,⟨by simp;omega,fun b=>?_⟩⟩,key⟩
 rcases Nat.lt_or_ge b h.size with hb|hb
 ·rw[Array.getElem?_append_left hb]
  have e:=Below.block x b oM
  rcases g.blk b with h1|h1
  ·exact .inl (h1.trans e.symm)
  ·exact .inr h1
 ·exact .inl (key b hb)
theorem DX (ok:ByteArray→Prop)(hok:∀ s,ok s→s.size≤1000)(d:Nat)(hd:d≤20)(p:PTm)(t:Tm)(w:World)(h:Hp)(g:G w h)(hT:TmH d h p t)(hW:WfT1 ok d t):CR 21 #[cZ p] w h (fun v h1=>∃ (A:Option Addr) (c:Nat) (ss:List ByteArray),v=.slice A ss.length c∧ss.length≤c∧ss.length≤1048576∧SlO 1 iz ⟨#[]⟩ h1 A ss∧∀ x,x∈ss↔jq d t x):=by
 refine (callsIn_wide (n:=6)).1 (callsIn_of_wp Tryz.func21 rfl trivial ?_ rfl)
 simp only[Tryz.ntmps21,List.size_toArray,List.length_cons,List.length_nil,Nat.reduceAdd,Nat.reduceSub,Array.replicate_succ,Array.replicate_zero,List.push_toArray,List.append_toArray,List.nil_append,List.cons_append]
 unfold cZ
 have hfK:Fence.wide.fn 59:=trivial;have hf2:Fence.wide.fn 61:=trivial;have hf3:Fence.wide.fn 60:=trivial
 have hg2:∀ o:Obj,G ((w.alloc o).alloc (.map #[] 0)) ((h.push bc).push bc)∧MapK ((w.alloc o).alloc (.map #[] 0)) ((h.push bc).push bc) (w.heap.size+1) []∧TmH d ((h.push bc).push bc) p t:=fun o=>by
  have u1:Up w h (w.alloc o) (h.push bc):=Up.allocAny g o bc (.inr rfl);have u2:Up (w.alloc o) (h.push bc) ((w.alloc o).alloc (.map #[] 0)) ((h.push bc).push bc):=Up.allocAny u1.g _ _ (.inr rfl);refine ⟨u2.g,⟨?_,?_,List.nodup_nil⟩,(hT.gw u1.gr.gw).gw u2.gr.gw⟩
  ·rw[show w.heap.size+1=(h.push bc).size by rw[Array.size_push,g.size]];exact Array.getElem?_push_size
  ·rw[heap_alloc,show w.heap.size+1=(w.alloc o).heap.size by simp];exact Array.getElem?_push_size
 have hsz:∀ s,jq d t s→s.size≤maxLen:=fun s hs=>by have:=hok s (mR hW hs);unfold maxLen;omega
 have hcn:=kO hW;have hp2:2^d≤1048576:=Nat.le_trans (Nat.pow_le_pow_right oM hd) kD;have hmm:=@run_makeMap Tryz.prog
 gi_wp2
 gi_at_call 59
 generalize hW2:(w.alloc _).alloc (.map #[] 0)=W2
 have q:=hg2 (.cells #[iV p.op,iV p.n,.bool (aD p.q.num),uV (lo (ab p.q.num)),.string (hi (ab p.q.num)),uV (lo (qd p.q)),.string (hi (qd p.q)),.string p.s,qS p.A p.m p.c] 31);rw[hW2] at q
 clear hg2
 have cg:=(callsIn_wide (n:=5)).2 (qO ok d p t (w.heap.size+1) [] W2 _ q.1 q.2.2 hW q.2.1)
 unfold cZ at cg
 refine cg.mono ?_
 clear cg
 rintro e w' ⟨v,h3,rfl,um,rfl,ss,ho,hn,hss,hl⟩;have hss2:∀ x,x∈ss↔jq d t x:=fun x=>by rw[hss x];simp
 have hl2:ss.length≤1048576:=by have:=(show ss.length≤0+bw d t from hl);omega
 have hszw:w.heap.size+2=W2.heap.size:=by rw[←hW2];simp
 have hb2:Go.RowKit.Below w.heap.size w W2:=by rw[←hW2];exact ((Below.refl _ w).alloc (nR _) _).alloc (by simp) _
 have hb1:Go.RowKit.Below w.heap.size w w':=⟨um.mo.os.trans hb2.os,um.mo.tape.trans hb2.tape,um.mo.output.trans hb2.output,Nat.le_trans hb2.size um.mo.size,fun c hc=>(um.mo.blk c oM (fun hm=>by rw[List.mem_singleton] at hm;omega)).trans (hb2.block c hc)⟩
 clear hss hW2
 obtain ⟨D,hD1,hD2,hD3⟩:=wR (P:=Tryz.prog) (k:=9) Tryz.underlying9 ho hn (fun s h_=>hsz s ((hss2 s).1 h_)) hl2
 gi_wp2
 gi_at_call 61
 refine (uI _ _).mono ?_;rintro e w'' ⟨rfl,rfl⟩
 gi_wp2
 gi_at_call 60
 refine (pD (w.heap.size+1) ss.length D RU w' hD1 (by unfold maxLen;omega) oM).mono ?_;rintro e w3 ⟨v,zs,rfl,hz1,hz2,-,hz3⟩;have hbw:=hb1.size;have hb3:Ext w w3:=(hb1.alloc hbw _).trans (hz3.mono (by simp;omega));obtain ⟨h',u,key⟩:=rJ g hb3
 have hzl:∀ x:ByteArray,x∈((zs.mergeSort fun x y=>decide (x≤y)).map fun z=>(⟨z.toArray⟩:ByteArray))↔jq d t x:=fun x=>by
  rw[←hss2 x,List.mem_map]
  constructor
  ·rintro ⟨z,hz,rfl⟩
   have h1:=(hz1.trans hD2).mem_iff.1 ((List.mergeSort_perm zs _).mem_iff.1 hz);obtain ⟨s,hs,e⟩:=List.mem_map.1 h1;have:s=⟨z.toArray⟩:=by cases s;rename_i a;simp at e;subst e;rfl
   rw[←this];exact hs
  ·intro hx
   refine ⟨x.data.toList,(List.mergeSort_perm zs _).mem_iff.2 ((hz1.trans hD2).mem_iff.2 (List.mem_map.2 ⟨x,hx,rfl⟩)),?_⟩;cases x;simp
 have hzn:((zs.mergeSort fun x y=>decide (x≤y)).map fun z=>(⟨z.toArray⟩:ByteArray)).length=zs.length:=by rw[List.length_map,(List.mergeSort_perm zs _).length_eq]
 have hzs:zs.length≤1048576:=by rw[(hz1.trans hD2).length_eq,List.length_map];exact hl2
 gi_wp2
 go_ret
 generalize hzz:((zs.mergeSort fun x y=>decide (x≤y)).map fun z=>(⟨z.toArray⟩:ByteArray))=zz at hzl hzn
 refine ⟨v,h',rfl,u,?_⟩
 rcases hz2 with ⟨-,⟨rfl,hz⟩|⟨gb,cap,cur,rfl,hbase,hgb,r1,-,-,r4⟩⟩
 ·have:zz=[]:=List.eq_nil_of_length_eq_zero oM
  subst this;refine ⟨none,0,[],rfl,nR _,by simp,SlO.nil,fun x=>hzl x⟩
 ·refine ⟨sB gb,cap,zz,by rw[hzn],by omega,by omega,SlO.of_flat (sz:=1) (f:=iz) (d:=⟨#[]⟩) (b:=gb) (o:=0) (fun _=>rfl) fun i v hv=>?_,hzl⟩
  have hf:zz.flatMap iz=(zs.mergeSort fun x y=>decide (x≤y)).map encStr:=by
   rw[←hzz]
   generalize (zs.mergeSort fun x y=>decide (x≤y))=q
   induction q with
   | nil=>rfl
   | cons a l ih=>rw[List.map_cons,List.map_cons,List.flatMap_cons,ih];rfl
  rw[hf,←r4,Nat.mul_one] at hv
  have hv2:cur.toList[i]?=some v:=by
   rw[List.getElem?_take] at hv
   split at hv
   ·exact hv
   ·cases hv
  have hgs:h.size≤gb:=by have:=g.size;simp at hbase;omega
  unfold ew
  rw[key gb hgs,hgb,Nat.zero_add]
  show cur[i]?=some v
  rw[←Array.getElem?_toList];exact hv2
end srt
section
variable {nm:Int→ByteArray} {l:List Stp} {inp:Int} {h:Hp} {k:Nat} {dp:Nat→Nat}
variable (hdp:DpS dp l) (hF:∀ k,k<l.length→Formed inp k (l.getD k ac)) (hq0:∀ k,k<l.length→(l.getD k ac).op≠1→(l.getD k ac).q=0)
include hdp hF hq0
end
section
variable {dp:Nat→Nat} {inp:Int} {l:List Stp} {os:List Int} {out:Int} {nn:Nat} {e0:Int} {nm:Int→ByteArray}
end
theorem BQ  (isb:ByteArray→Bool)(sm:ByteArray→Prop)(oB:∀ s,sm s→∀ (w:World) (h:Hp),G w h→Calls Tryz.prog 58 #[.string s] w (Ret w h (fun v _=>∃ b,v=.bool b∧b=isb s)))(d:Nat)(p:PTm)(t:Tm)(hd:d≤24)(w:World)(h:Hp)(g:G w h)(hT:TmH d h p t)(hS:wq sm d t):CR 18 #[cZ p] w h (fun v _=>∃ e:Int,v=iV e∧((WfT (fun s=>isb s=true) d t∧e=(if 1000<gW d t then 18 else 0))∨(¬WfT (fun s=>isb s=true) d t∧e=2))):=by
 have hs:=((sS g).add (K:=fun h_=>TmH d h_ p t) hT);refine go Tryz.func18 [(0,cZ p)] rfl (aE (lA 1 31 (cu p) hs (fun b1 w2 h3 hs=>lL hs [.v 2 (iV 0)] (af (aa hs [.o 3 (cZ p) 0 0 9] (ag 4 hs (q5 sm d p t 24 _ _ hs.g hs.f.1 hS oM oM) (fun w4 h5 hs=>aj (cK (cQ (aa hs [.o 5 (cZ p) 0 0 9] (lC 6 hs (oG isb sm oB d p t _ _ hs.g hs.f.1 hS) ?_)))))))))));rintro _ w6 h7 hs ⟨bf,rfl,hbf⟩;cases hb8:(bf)
 ·
  exact lL hs [.v 7 qT] (ao (aa hs [.v 2 (iV 2)] (ae hs [] (iV 2) (⟨_,rfl,.inr ⟨fun h_=>Bool.noConfusion ((hbf.2 h_).symm.trans aM),rfl⟩⟩))))
 refine lL hs [.v 7 qF] (aj (cK (cQ (aa hs [.o 8 (cZ p) 0 0 9] (ag 9 hs (ox (fun s=>isb s=true) d p t _ _ hs.g hs.f.1 (hbf.1 aM)) (fun w9 _ hs=>?_))))));cases za:(decide ((1000:Int)<(((min (gW d t) 1001:Nat):Int):Int)))
 ·
  have zb:=oF za;exact lB 10 za (aj (cK (aa hs [.v 2 (iV 0)] (ae hs [] (iV 0) (⟨_,rfl,.inl ⟨hbf.1 aM,by split<;>omega⟩⟩)))))
 have zb:=oT za;exact lB 10 za (ao (aa hs [.v 2 (iV 18)] (ae hs [] (iV 18) (⟨_,rfl,.inl ⟨hbf.1 aM,by split<;>omega⟩⟩))))
theorem GC (isb:ByteArray→Bool)(sm:ByteArray→Prop)(oB:∀ s,sm s→∀ (w:World) (h:Hp),G w h→Calls Tryz.prog 58 #[.string s] w (Ret w h (fun v _=>∃ b,v=.bool b∧b=isb s)))(hsm:∀ s,isb s=true→sm s)(h0:sm ⟨#[]⟩)(d:Nat)(p:PTm)(t:Tm)(hd:d≤24)(w:World)(h:Hp)(g:G w h)(hT:TmH d h p t)(hW:WfT (fun s=>isb s=true) d t):Calls Tryz.prog 18 #[cZ p] w (Ret w h (fun v _=>v=iV (if 1000<gW d t then 18 else 0))) :=
 (BQ isb sm oB d p t hd w h g hT (hW.sm hsm h0)).mono fun e w' ⟨v,h',e1,u,e2,e3,e4⟩=>⟨v,h',e1,u,by
  rcases e4 with ⟨_,e4⟩|⟨e4,_⟩
  ·rw[e3,e4]
  ·exact absurd hW e4⟩
def jJ (isb:ByteArray→Bool)(d:Nat)(t:Tm):Prop:=WfT1 (fun s=>isb s=true) d t∧gW d t≤1000
def mQ (dec:ByteArray→Bool)(d:Nat)(t:Tm):Prop:=∀ s,jq d t s→dec s=true
structure OfR (isb dec:ByteArray→Bool) (pl:ByteArray→Int) (d n:Nat) (e0:Int) (ts:List Tm) (e inp:Int) (l:List Stp) (os:List Int):Prop where
  how:(e0≠0∧e=e0)∨(e0=0∧∃ k,k<ts.length∧(∀ i,i<k→jJ isb d (ts.getD i aZ)∧mQ dec d (ts.getD i aZ))∧((¬jJ isb d (ts.getD k aZ)∧e=1)∨(jJ isb d (ts.getD k aZ)∧¬mQ dec d (ts.getD k aZ)∧e=11)))∨(e0=0∧(∀ i,i<ts.length→jJ isb d (ts.getD i aZ)∧mQ dec d (ts.getD i aZ))∧e=be (n:Nat) (fT pl d ts ts.length) (iU pl d ts ts.length))
  bad:e≠0→inp=0∧l=[]∧os=[]
  ok:e=0→inp=(n:Nat)∧l=fT pl d ts ts.length∧os=iU pl d ts ts.length
section
variable {isb dec:ByteArray→Bool} {pl:ByteArray→Int} {d n:Nat} {e0:Int} {ts:List Tm} {e inp:Int} {l:List Stp} {os:List Int}
theorem OfR.call (h:e0≠0)(h1:inp=0)(h2:l=[])(h3:os=[]):OfR isb dec pl d n e0 ts e0 inp l os:=⟨.inl ⟨h,rfl⟩,fun _=>⟨h1,h2,h3⟩,fun x=>absurd x h⟩
theorem OfR.no {k:Nat}(h:e0=0)(hk:k<ts.length)(ho:∀ i,i<k→jJ isb d (ts.getD i aZ)∧mQ dec d (ts.getD i aZ))(hb:(¬jJ isb d (ts.getD k aZ)∧e=1)∨(jJ isb d (ts.getD k aZ)∧¬mQ dec d (ts.getD k aZ)∧e=11))(h1:inp=0)(h2:l=[])(h3:os=[]):OfR isb dec pl d n e0 ts e inp l os :=
 ⟨.inr (.inl ⟨h,k,hk,ho,hb⟩),fun _=>⟨h1,h2,h3⟩,fun x=>by rcases hb with ⟨_,y⟩|⟨_,_,y⟩<;>omega⟩
theorem OfR.chk {N:Nat}(h:e0=0)(hN:N=ts.length)(ho:∀ i,i<N→jJ isb d (ts.getD i aZ)∧mQ dec d (ts.getD i aZ))(he:e=be (n:Nat) (fT pl d ts ts.length) (iU pl d ts ts.length))(hz:e≠0)(h1:inp=0)(h2:l=[])(h3:os=[]):OfR isb dec pl d n e0 ts e inp l os :=
 ⟨.inr (.inr ⟨h,fun i hi=>ho i oM,he⟩),fun _=>⟨h1,h2,h3⟩,fun x=>absurd x hz⟩
theorem OfR.fine {N:Nat}(h:e0=0)(hN:N=ts.length)(ho:∀ i,i<N→jJ isb d (ts.getD i aZ)∧mQ dec d (ts.getD i aZ))(he:be (n:Nat) (fT pl d ts ts.length) (iU pl d ts ts.length)=0)(h1:inp=(n:Nat))(h2:l=fT pl d ts ts.length)(h3:os=iU pl d ts ts.length):OfR isb dec pl d n e0 ts 0 inp l os :=
 ⟨.inr (.inr ⟨h,fun i hi=>ho i oM,he.symm⟩),fun x=>absurd rfl x,fun _=>⟨h1,h2,h3⟩⟩
end
theorem Hf {b:Bool}(h:(!b)=false):b=true:=by cases b<;>first|rfl|cases h
theorem HH {b:Bool}(h:(!b)=true):b=false:=by cases b<;>first|rfl|cases h
theorem v6 {l:List ByteArray}{k:Nat}(h:k<l.length):l.getD k ⟨#[]⟩∈l:=by
 rw[List.getD_eq_getElem?_getD,List.getElem?_eq_getElem h];exact List.getElem_mem h
theorem wG {l:List ByteArray}{s:ByteArray}(h:s∈l):∃ i,i<l.length∧l.getD i ⟨#[]⟩=s:=by
 obtain ⟨i,hi,e⟩:=List.mem_iff_getElem.1 h;exact ⟨i,hi,by rw[List.getD_eq_getElem?_getD,List.getElem?_eq_getElem hi];exact e⟩
theorem qq {ok sm:ByteArray→Prop}:∀ {d:Nat} {t:Tm},SmT1 sm d t→WfT ok d t→WfT1 ok d t
 | _+1,_,⟨_,_,_,s4,_,s6⟩,⟨h1,h2,_,h4,h5,h6,h7,h8,h9⟩=>⟨h1,h2,s4,h4,h5,h6,h7,h8,fun i hi=>qq (s6 i hi) (h9 i hi)⟩
theorem Gq {isb:ByteArray→Bool}{sm:ByteArray→Prop}{d:Nat}{t:Tm}{e:Int}(hS:SmT1 sm d t)(h:(WfT (fun s=>isb s=true) d t∧e=(if 1000<gW d t then 18 else 0))∨(¬WfT (fun s=>isb s=true) d t∧e=2))(z:e=0):WfT1 (fun s=>isb s=true) d t∧gW d t≤1000:=by
 rcases h with ⟨h1,h2⟩|⟨h1,h2⟩
 ·refine ⟨qq hS h1,?_⟩
  split at h2<;>omega
 ·omega
theorem Fr {isb:ByteArray→Bool}{d:Nat}{t:Tm}{e:Int}(h:(WfT (fun s=>isb s=true) d t∧e=(if 1000<gW d t then 18 else 0))∨(¬WfT (fun s=>isb s=true) d t∧e=2))(z:jJ isb d t):e=0:=by
 rcases h with ⟨h1,h2⟩|⟨h1,h2⟩
 ·rw[h2,if_neg (by have:=z.2;omega)]
 ·exact absurd z.1.wf h1
theorem C1 {s:ByteArray}{es:List MapEntry}{v:Value}{b:Bool}{z:Prop}(h:(∃ i,Instr.findNow .string (.string s) es 0=some (some (i,v))∧b=true)∨(Instr.findNow .string (.string s) es 0=some none∧b=false∧z))(hb:b=true):∃ i,Instr.findNow .string (.string s) es 0=some (some (i,v)):=by
 rcases h with ⟨i,h,_⟩|⟨_,h,_⟩
 ·exact ⟨i,h⟩
 ·rw[hb] at h;cases h
theorem mt {ok:ByteArray→Prop}{d:Nat}(hd:d≤12){ts:List Tm}{k:Nat}(hk:k≤10)(hw:∀ i,i<k→WfT1 ok d (ts.getD i aZ)):cc (fun i=>bw d (ts.getD i aZ)) k≤40960:=by
 have h2:2^d≤4096:=Nat.le_trans (Nat.pow_le_pow_right oM hd) kD;have:=jQ (f:=fun i=>bw d (ts.getD i aZ)) (b:=4096) k (fun i hi=>by have:=kO (hw i hi);show bw d _≤_;omega)
 omega
theorem Id  (A:Option Addr)(c:Nat)(ps:List PTm)(ts:List Tm)(Nm:Option Addr)(cN:Nat)(ns:List ByteArray)(d:Nat)(hd:d≤12)(hlt:ps.length≤10)(hln:ns.length≤10)(isb:ByteArray→Bool)(sm:ByteArray→Prop)(oB:∀ s,sm s→∀ (w:World) (h:Hp),G w h→Calls Tryz.prog 58 #[.string s] w (Ret w h (fun v _=>∃ b,v=.bool b∧b=isb s)))(hsm:∀ s,isb s=true→s.size≤1000)(hS:∀ i,i<ts.length→SmT1 sm d (ts.getD i aZ))(pl:ByteArray→Int)(dec:ByteArray→Bool)(es:List MapEntry)(hpl:∀ s,isb s=true→0≤pl s∧pl s≤1000)(hlk:∀ s,isb s=true→(∃ i,Instr.findNow .string (.string s) es 0=some (some (i,iV (pl s)))∧dec s=true)∨(Instr.findNow .string (.string s) es 0=some none∧dec s=false∧pl s=0))(nm:Int→ByteArray)(hnm:∀ s,isb s=true→dec s=true→AZ nm pl (ns.length:Nat) s)(e0:Int)(hCall:∀ (w:World) (h:Hp),G w h→SlO 1 iz ⟨#[]⟩ h Nm ns→Calls Tryz.prog 19 #[.slice Nm ns.length cN] w (Ret w h (fun v _=>v=iV e0)))(hPl:e0=0→∀ (w:World) (h:Hp),G w h→SlO 1 iz ⟨#[]⟩ h Nm ns→Calls Tryz.prog 20 #[.slice Nm ns.length cN] w (Ret w h (fun v h1=>∃ b,v=.map (some b)∧MapS h1 b es)))(w:World)(h:Hp)(g:G w h)(hA:SlO 9 cu bu h A ps)(hT:Tms d h ps ts)(hN:SlO 1 iz ⟨#[]⟩ h Nm ns):CR 5 #[.slice A ps.length c,.slice Nm ns.length cN] w h (fun v h1=>∃ (e inp:Int) (A:Option Addr) (c:Nat) (l:List Stp) (O:Option Addr) (c2:Nat) (os:List Int),v=.tuple #[.agg #[iV inp,.slice A l.length c,.slice O os.length c2],iV e]∧SlO 9 fu ac h1 A l∧Si O os h1∧OfR isb dec pl d ns.length e0 ts e inp l os):=by
 have hs:=((((sS g).aS hA).add (K:=fun h_=>Tms d h_ ps ts) hT).aS hN);have hlpt:=(hs.f.2.1).len;have hd2:2^d≤4096:=Nat.le_trans (Nat.pow_le_pow_right oM hd) kD;refine go Tryz.func5 [(0,qS A ps.length c),(1,qS Nm ns.length cN)] rfl (aE (lA 4 40 ([iV 0,sZ,sZ]) hs (fun b1 w2 h3 hs=>lL hs [.v 5 (iV 0)] (af (aa hs [.m 19 0,.v 20 (nV ps.length)] ?_)))));cases hb4:(decide ((300:Int)<(ps.length:Int)))
 ·
  have phb4:=oF hb4;refine lB 21 hb4 (lL hs [.m 22 21,.m 23 1,.v 24 (nV ns.length)] ?_);cases hb5:(decide ((300:Int)<(ns.length:Int)))
  ·
   have phb5:=oF hb5;refine lB 25 hb5 (lL hs [.v 26 qF] (aj (cK (cQ (aa hs [.m 28 1] (ag 29 hs (hCall _ _ hs.g hs.f.1) (fun w6 h7 hs=>lL hs [.m 6 29] (aT (lL hs [.m 30 6] ?_)))))))));cases hb8:((e0:Int) != (0:Int))
   ·
    have phb8:=aI hb8;refine lB 31 hb8 (aj (cK (aa hs [.m 34 1] (lC 35 hs (hPl oM _ _ hs.g hs.f.1) ?_))));rintro _ w9 zv hs ⟨bm,rfl,hM⟩;replace hs:=(hs.add (K:=fun h_=>MapS h_ bm es) hM);refine lL hs [.m 7 35] (aT (lL hs [.v 8 (iV 0)] (af (aa hs [.m 36 0,.v 37 (nV ps.length),.v 38 (iV 0)] (bj ?_)))));refine bx _ (CG.loop (fun μ_ Γ w_=>∃ (k:Nat) (h_:Hp),μ_=ps.length-k∧Γ=[(0,qS A ps.length c),(1,qS Nm ns.length cN),(4,pB b1),(7,.map (some bm)),(36,qS A ps.length c),(37,nV ps.length),(38,nV k),(8,nV (cc (fun i=>bw d (ts.getD i aZ)) k))]∧SS w h w_ h_ [⟨b1,40,[iV 0,sZ,sZ]⟩] [] [fun h_=>MapS h_ bm es,fun h_=>SlO 1 iz ⟨#[]⟩ h_ Nm ns,fun h_=>Tms d h_ ps ts,fun h_=>SlO 9 cu bu h_ A ps]∧k≤ps.length∧(∀ i,i<k→jJ isb d (ts.getD i aZ)∧mQ dec d (ts.getD i aZ))) _ ⟨0,zv,rfl,rfl,hs.to _ _,Nat.zero_le _,(fun i hi=>absurd hi (Nat.not_lt_zero i))⟩ ?_);rintro _ _ _ ⟨k,_,hm13,rfl,hs,hk,hok1⟩;have hsb:=mt (d:=d) (hd:=hd) (ts:=ts) (k:=k) oM (fun i hi=>(hok1 i hi).1.1);have hs1_:(cc (fun i=>bw d (ts.getD i aZ)) (k+1))=(cc (fun i=>bw d (ts.getD i aZ)) k)+bw d (ts.getD k aZ):=rfl;refine aE ?_;cases zb:(decide ((k:Int)<(ps.length:Int)))
    ·
     have zl:=oF zb;refine lB 39 zb (af (cM (CG.exit ?_)))
     show CG _ _ _ _ _ _ _ _
     refine cQ (aa hs [.m 68 8] ?_);cases zc:(decide ((65536:Int)<(((cc (fun i=>bw d (ts.getD i aZ)) k):Nat):Int)))
     ·
      have zm:=oF zc;refine lB 69 zc (aj (cK (aa hs [.m 71 1,.v 72 (nV ns.length),.v 73 (.agg #[nV ns.length,sZ,sZ])] (lA 15 40 ([iV 0,sZ,sZ]) hs (fun za _ zw hs=>lP 0 0 ([nV ns.length,sZ,sZ]) hs (fun _ hs=>af (aa hs [.m 74 0,.v 75 (nV ps.length),.v 76 (iV 0)] (bj ?_))))))));replace hs:=hs.nil 3 1;replace hs:=hs.nil 135 9;refine bx [(4,pB b1),(7,.map (some bm)),(15,pB za),(74,qS A ps.length c),(75,nV ps.length),(76,iV 0)] ?_;refine CG.loop (fun μ_ Γ w_=>∃ (k:Nat) (srA:Option Addr) (src:Nat) (tl:List Stp) (soA:Option Addr) (soc:Nat) (ol:List Int) (h_:Hp),μ_=ps.length-k∧Γ=[(4,pB b1),(7,.map (some bm)),(15,pB za),(74,qS A ps.length c),(75,nV ps.length),(76,nV k)]∧SS w h w_ h_ [⟨za,40,[nV ns.length,qS srA ((tl).length) src,qS soA ((ol).length) soc]⟩,⟨b1,40,[iV 0,sZ,sZ]⟩] [⟨135,9,srA,src,(tl).length,(tl).flatMap fu⟩,⟨3,1,soA,soc,(ol).length,(ol).flatMap dj⟩] [fun h_=>MapS h_ bm es,fun h_=>SlO 1 iz ⟨#[]⟩ h_ Nm ns,fun h_=>Tms d h_ ps ts,fun h_=>SlO 9 cu bu h_ A ps]∧k≤ps.length∧tl=(fT pl d ts k)∧ol=(iU pl d ts k)∧tl.length=(cc (fun i=>bw d (ts.getD i aZ)) k)) _ ⟨0,none,0,[],none,0,[],zw,rfl,rfl,hs.to _ _,Nat.zero_le _,rfl,rfl,rfl⟩ ?_;rintro _ _ _ ⟨k,srA,src,tl,soA,soc,ol,_,hm22,rfl,hs,hk,htl,hol,hll⟩;have hs1_:(cc (fun i=>bw d (ts.getD i aZ)) (k+1))=(cc (fun i=>bw d (ts.getD i aZ)) k)+bw d (ts.getD k aZ):=rfl;have hsm_:=fR (fun i=>bw d (ts.getD i aZ)) (show k≤ps.length by omega);have hsb3:=mt (d:=d) (hd:=hd) (ts:=ts) (k:=ps.length) oM (fun i hi=>(hok1 i oM).1.1);have holl:ol.length=k:=by rw[hol];exact kc k
      refine aE ?_;cases zd:(decide ((k:Int)<(ps.length:Int)))
      ·
       have zn:=oF zd;refine lB 77 zd (af (cM (CG.exit ?_)))
       show CG _ _ _ _ _ _ _ _
       refine cQ (aE ?_);have hkn:k=ts.length:=by omega
       have hsbE:=mt (d:=d) (hd:=hd) (ts:=ts) (k:=ts.length) oM (fun i hi=>(hok1 i oM).1.1);rw[hkn] at htl hol hll
       have hall:=sR (ok:=fun s=>isb s=true∧dec s=true) (nm:=nm) (pl:=pl) (inp:=(ns.length:Nat)) (fun s h_=>hnm s h_.1 h_.2) (show d≤20 by omega) ts.length (nR _) (fun i hi=>(hok1 i oM).1.1.names (fun s h_=>(hok1 i oM).2 s h_));rw[←htl] at hall
       obtain ⟨_,hs,hc25⟩:=hs.pubr 0 (A:=srA) (c:=src) (l:=tl) (f:=fu) (ty:=135) (sz:=9) ac (fun _=>rfl);obtain ⟨_,hs,hc28⟩:=hs.pubr 0 (A:=soA) (c:=soc) (l:=ol) (f:=dj) (ty:=3) (sz:=1) 0 (fun _=>rfl);refine lL hs [.o 96 (.agg #[nV ns.length,qS srA ((tl).length) src,qS soA ((ol).length) soc]) 0 0 3] (ag 97 hs (iB (ns.length:Nat) srA src tl soA soc ol oM oM (fun i _=>hall.lq i) _ _ hs.g hs.f.2.1 hs.f.1) (fun _ _ hs=>lL hs [.m 18 97] (aT (lL hs [.m 98 18] ?_))));cases ze:((be (ns.length:Nat) tl ol:Int) != (0:Int))
       ·
        have zo:=aI ze;exact lB 99 ze (aj (cK (aa hs [.o 102 (.agg #[nV ns.length,qS srA ((tl).length) src,qS soA ((ol).length) soc]) 0 0 3] (lP 1 0 ([nV ns.length,qS srA ((tl).length) src,qS soA ((ol).length) soc]) hs (fun _ hs=>lL hs [.v 5 (iV 0)] (ae hs [(1,0,3)] (.tuple #[.agg #[nV ns.length,qS srA ((tl).length) src,qS soA ((ol).length) soc],iV 0]) (⟨0,(ns.length:Nat),srA,src,tl,soA,soc,ol,rfl,hs.f.2.1,hs.f.1,OfR.fine oM oM hok1 (by rw[←htl,←hol];omega) rfl (by rw[htl]) (by rw[hol])⟩)))))))
       have zo:=aJ ze;exact lB 99 ze (ao (aa hs [.v 100 (.agg #[iV 0,sZ,sZ]),.m 101 18] (lP 1 0 ([iV 0,sZ,sZ]) hs (fun _ hs=>lL hs [.m 5 101] (ae hs [(1,0,3)] (.tuple #[.agg #[iV 0,sZ,sZ],iV (be (ns.length:Nat) tl ol)]) (⟨_,0,none,0,[],none,0,[],rfl,SlO.nil,SlO.nil,OfR.chk oM oM hok1 (by rw[←htl,←hol]) oM rfl rfl rfl⟩))))))
      have zn:=oT zd;refine lB 77 zd (af (bS (cK (cQ (kZ (aE (lX 78 A ps.length c 9 (k:Nat) k ((hs.f.r.2.1).ok oM) ?_)))))));refine lH 79 (cZ (ps.getD k bu)) hs ((hs.f.r.2.1).el k oM) (lA 17 31 ([iV 0,iV 0,qF,uV 0,eS,uV 0,eS,eS,sZ]) hs (fun zx _ _ hs=>lP 0 0 (cu (ps.getD k bu)) hs (fun _ hs=>aT (lL hs [.v 80 (qP za 1),.o 81 (qS srA ((tl).length) src) 1 1 1,.o 82 (cZ (ps.getD k bu)) 0 0 9,.m 83 7] ?_))));have hsm2_:=fR (fun i=>bw d (ts.getD i aZ)) (show k+1≤ps.length by omega);refine HR 84 (rk (fun s=>isb s=true∧dec s=true) pl bm es (fun s h_=>hpl s h_.1) (fun s h_=>C1 (hlk s h_.1) h_.2) d (ps.getD k bu) (ts.getD k aZ) srA src tl _ _ hs.g ((hs.f.r.1).at_ k oM) hs.f.1 (hs.frontR [] [⟨3,1,soA,soc,(ol).length,(ol).flatMap dj⟩] ⟨135,9,srA,src,(tl).length,(tl).flatMap fu⟩) ((hok1 k oM).1.1.names (fun s h_=>(hok1 k oM).2 s h_)) oM) ?_;rintro _ _ _ ⟨zi,zj,rfl,hs⟩;replace hs:=(SS.backR [] [⟨3,1,soA,soc,(ol).length,(ol).flatMap dj⟩] ⟨135,9,zi,zj,(bg pl d tl (ts.getD k aZ)).length,(bg pl d tl (ts.getD k aZ)).flatMap fu⟩ hs).to [⟨zx,31,cu (ps.getD k bu)⟩,⟨za,40,[nV ns.length,qS srA ((tl).length) src,qS soA ((ol).length) soc]⟩,⟨b1,40,[iV 0,sZ,sZ]⟩] [⟨135,9,zi,zj,(bg pl d tl (ts.getD k aZ)).length,(bg pl d tl (ts.getD k aZ)).flatMap fu⟩,⟨3,1,soA,soc,(ol).length,(ol).flatMap dj⟩];have hrl:=nq (pl:=pl) (hok1 k oM).1.1 tl;refine lL hs [.v 85 (qP za 1)] (lP 1 1 ([qS zi ((bg pl d tl (ts.getD k aZ)).length) zj]) hs (fun _ hs=>lN (kQ (lL hs [.v 86 (qP za 2),.o 87 (qS soA ((ol).length) soc) 1 2 1,.v 88 (qP za 1),.o 89 (qS zi ((bg pl d tl (ts.getD k aZ)).length) zj) 1 1 1,.v 90 (nV ((bg pl d tl (ts.getD k aZ)).length))] (lI 91 (((bg pl d tl (ts.getD k aZ)).length:Nat)-1) ?_)))));refine lR 92 3 1 ([iV (((bg pl d tl (ts.getD k aZ)).length:Nat)-1)]) hs (fun zA _ _ hs=>lY 93 1 3 1 soc soA ol dj (((bg pl d tl (ts.getD k aZ)).length:Nat)-1:Int) 8 zA (iV 0) hs hs.f.1 (fun zs zt _ zB hs=>lL hs [.v 94 (qP za 2)] (lP 1 2 ([qS zs ((ol++[(((bg pl d tl (ts.getD k aZ)).length:Nat)-1:Int)]).length) zt]) hs (fun _ hs=>lN (kQ (bB 95 ((k:Nat)+1) (k+1) ?_))))));refine lL hs [.m 76 95] (lD ?_);intro a_ ka;replace hs:=hs.tl;replace hs:=hs.drop 1 0;refine ⟨_,_,?_,⟨k+1,zi,zj,bg pl d tl (ts.getD k aZ),zs,zt,ol++[(((bg pl d tl (ts.getD k aZ)).length:Nat)-1:Int)],zB,rfl,rfl,hs.to _ _,oM,(by rw[htl];rfl),(by rw[hol,htl];rfl),oM⟩,ka.to _ kR⟩
      omega
     have zm:=oT zc;refine lB 69 zc (ao (aa hs [.v 70 (.agg #[iV 0,sZ,sZ])] (lP 0 0 ([iV 0,sZ,sZ]) hs (fun _ hs=>lL hs [.v 5 (iV 5)] (lN (kX ?_))))))
     exfalso;omega
    have zl:=oT zb;refine lB 39 zb (af (bS (cK (cQ (kZ (aE (lX 40 A ps.length c 9 (k:Nat) k ((hs.f.r.2.1).ok oM) ?_)))))));refine lH 41 (cZ (ps.getD k bu)) hs ((hs.f.r.2.1).el k oM) (lA 10 31 ([iV 0,iV 0,qF,uV 0,eS,uV 0,eS,eS,sZ]) hs (fun zu _ _ hs=>lP 0 0 (cu (ps.getD k bu)) hs (fun _ hs=>af (aa hs [.o 42 (cZ (ps.getD k bu)) 0 0 9] (lC 43 hs (BQ isb sm oB d (ps.getD k bu) (ts.getD k aZ) oM _ _ hs.g ((hs.f.r.1).at_ k oM) (hS k oM).sm) ?_)))));rintro _ _ _ hs ⟨ek,rfl,hek⟩;cases zf:((ek:Int) != (0:Int))
    ·
     have zp:=aI zf;refine lB 44 zf (aj (cK (cQ (aE ?_))));have hwk:WfT1 (fun s=>isb s=true) d (ts.getD k aZ)∧gW d (ts.getD k aZ)≤1000:=Gq (hS k oM) hek oM;have hwg:=hwk.2;replace hwk:=hwk.1;refine lL hs [.o 46 (cZ (ps.getD k bu)) 0 0 9] (lC 47 hs (DX (fun s=>isb s=true) hsm d oM (ps.getD k bu) (ts.getD k aZ) _ _ hs.g ((hs.f.r.1).at_ k oM) hwk) ?_);rintro _ _ zD hs ⟨nA,nc,nss,rfl,hnc,hnl,hnS,hnm_⟩;replace hs:=hs.aS hnS;have hnok:∀ s,s∈nss→isb s=true:=fun s hs_=>mR hwk ((hnm_ s).1 hs_)
     refine lL hs [.v 48 (nV nss.length),.v 49 (iV 0)] (bj ?_);refine bx _ (CG.loop (fun μ_ Γ w_=>∃ (j:Nat) (h_:Hp),μ_=nss.length-j∧Γ=[(0,qS A ps.length c),(1,qS Nm ns.length cN),(4,pB b1),(7,.map (some bm)),(36,qS A ps.length c),(37,nV ps.length),(38,nV k),(8,nV (cc (fun i=>bw d (ts.getD i aZ)) k)),(10,pB zu),(47,qS nA nss.length nc),(48,nV nss.length),(49,nV j)]∧SS w h w_ h_ [⟨zu,31,cu (ps.getD k bu)⟩,⟨b1,40,[iV 0,sZ,sZ]⟩] [] [fun h_=>SlO 1 iz ⟨#[]⟩ h_ nA nss,fun h_=>MapS h_ bm es,fun h_=>SlO 1 iz ⟨#[]⟩ h_ Nm ns,fun h_=>Tms d h_ ps ts,fun h_=>SlO 9 cu bu h_ A ps]∧j≤nss.length∧(∀ i,i<j→dec (nss.getD i ⟨#[]⟩)=true)) _ ⟨0,zD,rfl,rfl,hs.to _ _,Nat.zero_le _,(fun i hi=>absurd hi (Nat.not_lt_zero i))⟩ ?_);rintro _ _ _ ⟨j,zE,hm71,rfl,hs,hj,hdec⟩;refine aE ?_;cases zg:(decide ((j:Int)<(nss.length:Int)))
     ·
      have zq:=oF zg;refine lB 50 zg (af (cM (CG.exit ?_)))
      show CG _ _ _ _ _ _ _ _
      refine kQ (lL hs [.m 63 8,.o 64 (cZ (ps.getD k bu)) 0 0 9] (ag 65 hs (sO (fun s=>isb s=true) d (ps.getD k bu) (ts.getD k aZ) _ _ hs.g ((hs.f.r.2.1).at_ k oM) hwk oM) (fun _ zF hs=>?_)));have hcb:=kO hwk;refine bB 66 (((cc (fun i=>bw d (ts.getD i aZ)) k):Nat)+(bw d (ts.getD k aZ):Nat)) (((cc (fun i=>bw d (ts.getD i aZ)) k):Nat)+(bw d (ts.getD k aZ))) (lL hs [.m 8 66] (lN (kQ (bB 67 ((k:Nat)+1) (k+1) ?_))));refine lL hs [.m 38 67] (lD ?_);intro a_ ka;replace hs:=hs.tl;replace hs:=hs.drop 1 0;refine ⟨_,_,?_,⟨k+1,zF,rfl,rfl,hs.to _ _,oM,(fun i hi=>by rcases Nat.lt_succ_iff_lt_or_eq.1 hi with h_|rfl;exact hok1 i h_;exact ⟨⟨hwk,hwg⟩,fun s hs_=>by obtain ⟨j_,hj_,e_⟩:=wG ((hnm_ s).2 hs_);rw[←e_];exact hdec j_ oM⟩)⟩,ka.to _ kR⟩
      omega
     have zq:=oT zg;refine lB 50 zg (af (bS (cK (cQ (kZ (aE (lX 51 nA nss.length nc 1 (j:Nat) j ((hs.f.1).ok oM) ?_)))))));refine lH 52 (.string (nss.getD j ⟨#[]⟩)) hs ((hs.f.1).el j oM) (lL hs [.m 12 52] (aT (lL hs [.m 54 7,.m 55 12] (GN 56 77 9 3 (nss.getD j ⟨#[]⟩) true (iV (pl (nss.getD j ⟨#[]⟩))) ((dec (nss.getD j ⟨#[]⟩))) hs hs.f.2.1 ?_ (hf:=(by rcases hlk (nss.getD j ⟨#[]⟩) (hnok (nss.getD j ⟨#[]⟩) (v6 oM)) with ⟨i_,e1_,e2_⟩|⟨e1_,e2_,e3_⟩;exact .inl ⟨i_,e1_,e2_⟩;exact .inr ⟨e1_,e2_,fun _=>by rw[e3_];kernel_rfl⟩))))));refine lL hs [.m 53 56,.v 57 (iV (pl (nss.getD j ⟨#[]⟩))),.v 58 (.bool (dec (nss.getD j ⟨#[]⟩))),.m 13 57,.m 14 58] (aT (lL hs [.m 59 14] ?_));cases zk:(!(dec (nss.getD j ⟨#[]⟩)))
     ·
      refine lB 60 zk (aj (cK (kQ (bB 62 ((j:Nat)+1) (j+1) ?_))));refine lL hs [.m 49 62] (lD ?_);intro a_ ka;refine ⟨_,_,?_,⟨j+1,zE,rfl,rfl,hs.to _ _,oM,(fun i hi=>by rcases Nat.lt_succ_iff_lt_or_eq.1 hi with h_|rfl;exact hdec i h_;exact Hf aM)⟩,ka.to _ kR⟩
      omega
     exact lB 60 zk (ao (aa hs [.v 61 (.agg #[iV 0,sZ,sZ])] (lP 1 0 ([iV 0,sZ,sZ]) hs (fun _ hs=>lL hs [.v 5 (iV 11)] (ae hs [(1,0,3)] (.tuple #[.agg #[iV 0,sZ,sZ],iV 11]) (⟨_,0,none,0,[],none,0,[],rfl,SlO.nil,SlO.nil,OfR.no oM (k:=k) oM hok1 (.inr ⟨⟨hwk,hwg⟩,fun h_=>Bool.noConfusion ((h_ _ ((hnm_ _).1 (v6 (by omega:j<nss.length)))).symm.trans (HH aM)),rfl⟩) rfl rfl rfl⟩))))))
    have zp:=aJ zf;exact lB 44 zf (ao (aa hs [.v 45 (.agg #[iV 0,sZ,sZ])] (lP 1 0 ([iV 0,sZ,sZ]) hs (fun _ hs=>lL hs [.v 5 (iV 1)] (ae hs [(1,0,3)] (.tuple #[.agg #[iV 0,sZ,sZ],iV 1]) (⟨_,0,none,0,[],none,0,[],rfl,SlO.nil,SlO.nil,OfR.no oM (k:=k) oM hok1 (.inl ⟨fun h_=>by have:=Fr hek h_;omega,rfl⟩) rfl rfl rfl⟩))))))
   have phb8:=aJ hb8;exact lB 31 hb8 (ao (aa hs [.v 32 (.agg #[iV 0,sZ,sZ]),.m 33 6] (lP 0 0 ([iV 0,sZ,sZ]) hs (fun _ hs=>lL hs [.m 5 33] (ae hs [(0,0,3)] (.tuple #[.agg #[iV 0,sZ,sZ],iV e0]) (⟨_,0,none,0,[],none,0,[],rfl,SlO.nil,SlO.nil,OfR.call oM rfl rfl rfl⟩))))))
  have phb5:=oT hb5;refine lB 25 hb5 (lL hs [.v 26 qT] (ao (aa hs [.v 27 (.agg #[iV 0,sZ,sZ])] (lP 0 0 ([iV 0,sZ,sZ]) hs (fun _ hs=>lL hs [.v 5 (iV 5)] (lN (kX ?_)))))))
  exfalso;omega
 have phb4:=oT hb4;refine lB 21 hb4 (lL hs [.m 22 21] (lG 23 ?_));refine lG 24 (lG 25 (lL hs [.v 26 qT] (ao (aa hs [.v 27 (.agg #[iV 0,sZ,sZ])] (lP 0 0 ([iV 0,sZ,sZ]) hs (fun _ hs=>lL hs [.v 5 (iV 5)] (lN (kX ?_))))))))
 exfalso;omega
section
variable {M:Ms} {P:Program} {n:Nat} {N R:Po} {X:Nat→Po} {ops:Array Oper} {k0:Nat} {hr:Hp} {AL:List Al} {L:Array Bool} {Γ:bW} {w:World} {h:Hp} {w0:World} {h0:Hp} {B:List Bx} {Rs:List Rw} {F:List (Hp→Prop)} {M2:List Nat} {wa:World} {ha:Hp}
theorem SS.pubM (s:SS w0 h0 w h B Rs F)(u:UpM M2 wa ha w h)(j:Nat)(hlo:ha.size≤(av B j).b)(hj:decide (j<B.length)=true:=by kernel_rfl):∃ h',SS w0 h0 w h' (B.eraseIdx j) Rs F∧UpM M2 wa ha w h'∧Seg h' (av B j).b 0 (av B j).vs:=by
 have hj':=oT hj;obtain ⟨h',s',gw,sg,hc,oth⟩:=s.st.pubX j hj';have hm:=a8 hj';refine ⟨h',⟨s.g0,s',fun r hr=>((s.ro r hr).out (List.mem_map.2 ⟨_,hm,rfl⟩) oth).sub _ (fun b hb=>?_),s.ap,s.mo,s.f.gw s.mo gw⟩,⟨u.mo,⟨Nat.le_trans u.gr.size gw.size,fun b hb=>?_⟩,s'.up.g⟩,sg⟩
 ·obtain ⟨x,hx,e⟩:=List.mem_map.1 hb
  exact List.mem_map.2 ⟨x,List.mem_of_mem_eraseIdx hx,e⟩
 ·exact (oth b (fun e=>by subst e;omega)).trans (u.gr.blk b hb)
theorem GK (i t:Nat){f:FuncId}{args:Array Value}{Φ:World→Hp→Value→Hp→Prop}(s:SS w0 h0 w h B Rs F)(m:UpM M2 wa ha w h)(c:∀ w1 h1,SS w0 h0 w1 h1 B Rs F→Calls P f args w1 (Ret w1 h1 (Φ w1 h1)))(H:∀ w1 h1 v w' h',UpM M2 wa ha w' h'→SS w0 h0 w' h' B Rs F→Φ w1 h1 v h'→EG M P n N R X ops k0 hr AL (L.setIfInBounds i true) ((t,v)::Γ) w' h')(hc:EO n ops k0 AL L Γ i t=true:=by kernel_rfl)(hv:∀ w,(execOp (ev Γ) (au ops i)).run P w=.ok (.enter f args) w:=by intro _;kernel_rfl):EG M P n N R X ops k0 hr AL L Γ w h :=
 Rg.call i t f args (lJ hc).1 (lJ hc).2 hv (fun w1 h1 u=>(c w1 h1 (s.step u)).mono fun e w' ⟨v,h',he,u2,hΦ⟩=>⟨v,h',he,u2.m M.l,H w1 h1 v w' h' (m.trans ((u.m _).trans (u2.m _))) ((s.step u).step u2) hΦ⟩)
theorem Fk {F1:List (Hp→Prop)}{wr:World}{x:Al}(pre:List Bx)(sr:SS w0 h0 wr hr B Rs F1)(s:SS w0 h0 w h (pre++B) Rs F)(m:UpM M2 wa ha w h)(hs:ha.size≤hr.size)(t:TypeId)(vs:List Value)(H:∀ w' h' b,UpM M2 wa ha w' h'→ha.size≤b→SS w0 h0 w' h' (⟨b,t,vs⟩::(pre++B)) Rs F→AG M P n N R X ops k0 (L.setIfInBounds x.i true) ((x.t,.pointer (some ⟨b,0,none⟩))::Γ) w')(hc:(fi ops [x] L && decide (x.t<n))=true:=by kernel_rfl)(ho:x.o=.cells vs.toArray t (0,0):=by kernel_rfl)(hp:pre.all (fun y=>y.t != t)=true:=by kernel_rfl):EG M P n N R X ops k0 hr [x] L Γ w h :=
 Rg.fin1 hc (fun w' h' b u k=>H w' h' b (m.trans (u.m _)) (Nat.le_trans hs k.2.2) (SS.blkp pre sr (s.step u) k t vs ho hp))
theorem Hh (i j o:Nat)(cs:List Value)(s:SS w0 h0 w h B Rs F)(H:∀ w',Put (av B j).b w w'→SS w0 h0 w' h (fP B j o cs) Rs F→AG M P n N R X ops k0 (L.setIfInBounds i true) Γ w')(hc:CB ops k0 L Γ i=true:=by kernel_rfl)
  (hj:(decide (j<B.length) && decide (o+cs.length≤(av B j).vs.length))=true:=by kernel_rfl)(he:dW P (execOp (ev Γ) (au ops i))=some (.skip,mB (av B j).b o cs):=by kernel_rfl)(hz:∀ K bs,M.z=some (K,bs)→K≤(av B j).b∨(av B j).b∈bs:=by intro _ _ e;cases e):AG M P n N R X ops k0 L Γ w :=
 T.put i j o cs s.st s.g0 (jA hc).1 (jA hc).2 hj he (fun w' p s'=>H w' p (s.put0 (oT (Bool.and_eq_true _ _▸hj).1) p s' (mL (oT (Bool.and_eq_true _ _▸hj).1)))) hz
end
theorem kf (c:Nat)(hc:c<256)(w:World)(h:Hp)(g:G w h):CV 101 #[.int .u8 (c:Nat)] w h (.bool (decide (jP (c)))):=by
 have hs:=sS g;refine go Tryz.func101 [(0,.int .u8 (c:Nat))] rfl (aa hs [.v 2 qF] (aT (lL hs [.m 3 0] ?_)));cases hb1:(decide ((97:Int)≤(c:Int)))
 ·
  have phb1:=oF hb1;refine lB 4 hb1 (lL hs [.m 5 4] (lG 6 ?_));refine lG 7 (lL hs [.v 8 qF,.m 9 8,.m 10 0] ?_);cases hb2:(decide ((65:Int)≤(c:Int)))
  ·
   have phb2:=oF hb2;refine lB 11 hb2 (lL hs [.m 12 11] (lG 13 ?_));exact lG 14 (lL hs [.v 15 qF,.v 16 qF,.m 2 16] (ae hs [] qF (congrArg Value.bool (decide_eq_false (by unfold jP;omega)).symm)))
  have phb2:=oT hb2;refine lB 11 hb2 (lL hs [.m 12 11,.m 13 0] ?_);cases hb3:(decide ((c:Int)≤(90:Int)))
  ·
   have phb3:=oF hb3;exact lB 14 hb3 (lL hs [.v 15 qF,.v 16 qF,.m 2 16] (ae hs [] qF (congrArg Value.bool (decide_eq_false (by unfold jP;omega)).symm)))
  have phb3:=oT hb3;exact lB 14 hb3 (lL hs [.v 15 qT,.v 16 qT,.m 2 16] (ae hs [] qT (congrArg Value.bool (decide_eq_true (by unfold jP;omega)).symm)))
 have phb1:=oT hb1;refine lB 4 hb1 (lL hs [.m 5 4,.m 6 0] ?_);cases hb4:(decide ((c:Int)≤(122:Int)))
 ·
  have phb4:=oF hb4;refine lB 7 hb4 (lL hs [.v 8 qF,.m 9 8,.m 10 0] ?_);have ⟨hb5,phb5⟩:=dT (p:=(65:Int)≤(c:Int)) oM;refine lB 11 hb5 (lL hs [.m 12 11,.m 13 0] ?_);have ⟨hb6,phb6⟩:=dF (p:=(c:Int)≤(90:Int)) oM;exact lB 14 hb6 (lL hs [.v 15 qF,.v 16 qF,.m 2 16] (ae hs [] qF (congrArg Value.bool (decide_eq_false (by unfold jP;omega)).symm)))
 have phb4:=oT hb4;refine lB 7 hb4 (lL hs [.v 8 qT,.m 9 8] (lG 10 ?_));exact lG 11 (lG 12 (lG 13 (lG 14 (lG 15 (lL hs [.v 16 qT,.m 2 16] (ae hs [] qT (congrArg Value.bool (decide_eq_true (by unfold jP;omega)).symm)))))))
theorem i6 (c:Nat)(hc:c<256)(w:World)(h:Hp)(g:G w h):CV 141 #[.int .u8 (c:Nat)] w h (.bool (decide (48≤(c)∧(c)≤57))):=by
 have hs:=sS g;refine go Tryz.func141 [(0,.int .u8 (c:Nat))] rfl (aa hs [.v 2 qF] (aT (lL hs [.m 3 0] ?_)));cases hb1:(decide ((48:Int)≤(c:Int)))
 ·
  have phb1:=oF hb1;refine lB 4 hb1 (lL hs [.m 5 4] (lG 6 ?_));exact lG 7 (lL hs [.v 8 qF,.m 2 8] (ae hs [] qF (congrArg Value.bool (decide_eq_false oM).symm)))
 have phb1:=oT hb1;refine lB 4 hb1 (lL hs [.m 5 4,.m 6 0] ?_);cases hb2:(decide ((c:Int)≤(57:Int)))
 ·
  have phb2:=oF hb2;exact lB 7 hb2 (lL hs [.v 8 qF,.m 2 8] (ae hs [] qF (congrArg Value.bool (decide_eq_false oM).symm)))
 have phb2:=oT hb2;exact lB 7 hb2 (lL hs [.v 8 qT,.m 2 8] (ae hs [] qT (congrArg Value.bool (decide_eq_true oM).symm)))
theorem nM (c:Nat)(hc:c<256)(w:World)(h:Hp)(g:G w h):CV 102 #[.int .u8 (c:Nat)] w h (.bool (decide (sw (c)))):=by
 have hs:=sS g;refine go Tryz.func102 [(0,.int .u8 (c:Nat))] rfl (aa hs [.v 2 qF] (aT (lL hs [.m 3 0] (ag 4 hs (kf c hc _ _ hs.g) (fun w1 h2 hs=>?_)))));cases hb3:(decide (jP (c)))
 ·
  have phb3:=oF hb3;refine lL hs [.m 5 4,.m 6 0] (ag 7 hs (i6 c hc _ _ hs.g) (fun w4 h5 hs=>?_));cases hb6:(decide (48≤(c)∧(c)≤57))
  ·
   have phb6:=oF hb6;refine lL hs [.v 8 qF,.m 9 8,.m 10 0] ?_;cases hb7:((c:Int) == (95:Int))
   ·
    have phb7:=ah hb7;exact lB 11 hb7 (lL hs [.v 12 qF,.m 2 12] (ae hs [] qF (congrArg Value.bool (decide_eq_false (by unfold jP at *;unfold sw;omega)).symm)))
   have phb7:=eq_of_beq hb7;exact lB 11 hb7 (lL hs [.v 12 qT,.m 2 12] (ae hs [] qT (congrArg Value.bool (decide_eq_true (by unfold jP at *;unfold sw;omega)).symm)))
  have phb6:=oT hb6;refine lL hs [.v 8 qT,.m 9 8] (lG 10 ?_);exact lG 11 (lL hs [.v 12 qT,.m 2 12] (ae hs [] qT (congrArg Value.bool (decide_eq_true (by unfold jP at *;unfold sw;omega)).symm)))
 have phb3:=oT hb3;refine lL hs [.m 5 4] (lG 6 ?_);refine lG 7 (lL hs [.v 8 qT,.m 9 8] (lG 10 ?_));exact lG 11 (lL hs [.v 12 qT,.m 2 12] (ae hs [] qT (congrArg Value.bool (decide_eq_true (by unfold jP at *;unfold sw;omega)).symm)))
theorem qi  (w:World)(h:Hp)(g:G w h):CR 103 #[] w h (fun v h1=>∃ b,v=.map (some b)∧MapS h1 b iG):=by
 have hs:=sS g;refine go Tryz.func103 [] rfl (aa hs [.v 0 (.map none)] (aT (Hy 1 hs (fun b1 w2 h3 hs hmp4=>ED 77 9 3 (⟨#[97,98,115]⟩) (iV 9) hs hmp4 (fun w5 hs hmp6=>ED 77 9 3 (⟨#[114,97,109,112]⟩) (iV 10) hs hmp6 (fun w7 hs hmp8=>ED 77 9 3 (⟨#[98,101,110,100]⟩) (iV 11) hs hmp8 (fun w9 hs hmp10=>ED 77 9 3 (⟨#[109,97,120]⟩) (iV 12) hs hmp10 (fun _ hs hmp12=>ED 77 9 3 (⟨#[109,105,110]⟩) (iV 13) hs hmp12 (fun _ hs hmp14=>lL hs [.m 2 1] ?_)))))))));obtain ⟨_,hs,sg16⟩:=hs.pubMap hmp14;replace hs:=hs.to [] [];replace hs:=hs.add (K:=fun h_=>MapS h_ b1 [⟨.string (⟨#[97,98,115]⟩),iV 9,0⟩,⟨.string (⟨#[114,97,109,112]⟩),iV 10,1⟩,⟨.string (⟨#[98,101,110,100]⟩),iV 11,2⟩,⟨.string (⟨#[109,97,120]⟩),iV 12,3⟩,⟨.string (⟨#[109,105,110]⟩),iV 13,4⟩]) sg16;exact lL hs [.m 0 2] (ae hs [] (.map (some b1)) (⟨_,rfl,hs.f.1⟩))
theorem vV (s:ByteArray)(hs:s.size≤1000000)(w:World)(h:Hp)(g:G w h):CV 58 #[.string s] w h (.bool (jr s)):=by
 have hs:=sS g;refine go Tryz.func58 [(0,.string s)] rfl (aa hs [.v 2 qF] (af (aa hs [.m 6 0,.v 7 (nV s.size)] ?_)));cases hb1:(decide ((s.size:Int)<(1:Int)))
 ·
  have phb1:=oF hb1;refine lB 8 hb1 (lL hs [.m 9 8,.m 10 0,.v 11 (nV s.size)] ?_);cases hb2:(decide ((20:Int)<(s.size:Int)))
  ·
   have phb2:=oF hb2;refine lB 12 hb2 (lL hs [.v 13 qF,.m 14 13,.m 15 0] (lV 16 (.int .u8 (aF s 0:Nat)) ?_ (hr:=dl (tx:=9) (x:=.tmp 15) (i:=.const (iV 0)) (k:=.i64) (s:=s) (n:=0) (j:=(0:Int)) kR kR kR kR oM oM _)));refine ag 17 hs (kf ((aF s 0)) (cW _ _) _ _ hs.g) (fun w3 h4 hs=>?_);cases hb5:(decide (jP ((aF s 0))))
   ·
    have phb5:=oF hb5;exact lL hs [.v 18 qT,.v 19 qT] (ao (aa hs [.v 2 qF] (ae hs [] qF (vk (fun h_=>by have h1_:=h_.1;have h2_:=h_.2.1;first|omega|exact absurd h_.2.2 aM)))))
   have phb5:=oT hb5;refine lL hs [.v 18 qF,.v 19 qF] (aj (cK (cQ (aa hs [.m 20 0,.v 21 (nV s.size),.v 22 (iV 0)] (bj ?_)))));refine bx _ (CG.loop (fun μ_ Γ w_=>∃ (k:Nat) (h_:Hp),μ_=s.size-k∧Γ=[(0,.string s),(21,nV s.size),(22,nV k)]∧SS w h w_ h_ [] [] []∧k≤s.size∧(∀ i,i<k→sw (aF s i))) _ ⟨0,h4,rfl,rfl,hs.to _ _,Nat.zero_le _,(fun i hi=>absurd hi (Nat.not_lt_zero i))⟩ ?_);rintro _ _ w6 ⟨k,h7,hm8,rfl,hs,hk,hin⟩;refine aE ?_;cases hb9:(decide ((k:Int)<(s.size:Int)))
   ·
    have phb9:=oF hb9;refine lB 23 hb9 (af (cM (CG.exit ?_)))
    show CG _ _ _ _ _ _ _ _
    refine aE (lC 32 hs (qi _ _ hs.g) ?_);rintro _ _ _ hs ⟨bm,rfl,hcm⟩;replace hs:=(hs.add (K:=fun h_=>MapS h_ bm iG) hcm);refine lL hs [.m 33 0] (GN 34 77 9 3 (s) true (iV (ff s)) ((dC s)) hs hs.f.1 ?_ (hf:=(by rcases qZ s with ⟨i_,e1_,e2_⟩|⟨e1_,e2_,e3_⟩;exact .inl ⟨i_,e1_,e2_⟩;exact .inr ⟨e1_,e2_,fun _=>by rw[e3_];kernel_rfl⟩)));refine lL hs [.m 31 34,.v 35 (iV (ff s)),.v 36 (.bool (dC s)),.m 4 35,.m 5 36] (aT (lL hs [.m 37 5] ?_));cases za:(!(dC s))
    ·
     refine lB 38 za (lL hs [.m 2 38] (lN (kX ?_)));have hq_:=EY (s:=s) ⟨by omega,by omega⟩ aM (fun i hi=>hin i oM);exact hs.ret [] qF (congrArg Value.bool (by rw[hq_];exact (by assumption:(!dC s)=false).symm))
    refine lB 38 za (lL hs [.m 2 38] (lN (kX ?_)));have hq_:=EY (s:=s) ⟨by omega,by omega⟩ aM (fun i hi=>hin i oM);exact hs.ret [] qT (congrArg Value.bool (by rw[hq_];exact (by assumption:(!dC s)=true).symm))
   have phb9:=oT hb9;refine lB 23 hb9 (af (bS (cK (cQ (kZ (aa hs [.m 24 22,.m 3 24] (aT (lL hs [.m 25 0,.m 26 3] (lV 27 (.int .u8 (aF s k:Nat)) ?_ (hr:=dl (tx:=9) (x:=.tmp 25) (i:=.tmp 26) (k:=.i64) (s:=s) (n:=k) (j:=(k:Int)) kR kR kR kR oM oM _))))))))));refine ag 28 hs (nM ((aF s k)) (cW _ _) _ _ hs.g) (fun _ zd hs=>?_);cases zb:(decide (sw ((aF s k))))
   ·
    have zc:=oF zb;exact lL hs [.v 29 qT] (ao (aa hs [.v 2 qF] (ae hs [] qF (Gu (i:=k) oM aM))))
   have zc:=oT zb;refine lL hs [.v 29 qF] (aj (cK (kQ (bB 30 ((k:Nat)+1) (k+1) ?_))));refine lL hs [.m 22 30] (lD ?_);intro a_ ka;refine ⟨_,_,?_,⟨k+1,zd,rfl,rfl,hs.to _ _,oM,(fun i hi=>by rcases Nat.lt_succ_iff_lt_or_eq.1 hi with h_|rfl;exact hin i h_;assumption)⟩,ka.to _ kR⟩
   omega
  have phb2:=oT hb2;refine lB 12 hb2 (lL hs [.v 13 qT,.m 14 13] (lG 15 ?_));exact lG 16 (lG 17 (lG 18 (lL hs [.v 19 qT] (ao (aa hs [.v 2 qF] (ae hs [] qF (vk (fun h_=>by have h1_:=h_.1;have h2_:=h_.2.1;first|omega|exact absurd h_.2.2 aM))))))))
 have phb1:=oT hb1;refine lB 8 hb1 (lL hs [.m 9 8] (lG 10 ?_));refine lG 11 (lG 12 (lL hs [.v 13 qT,.m 14 13] (lG 15 ?_)));exact lG 16 (lG 17 (lG 18 (lL hs [.v 19 qT] (ao (aa hs [.v 2 qF] (ae hs [] qF (vk (fun h_=>by have h1_:=h_.1;have h2_:=h_.2.1;first|omega|exact absurd h_.2.2 aM))))))))
def wu (pb:Nat)(s:ByteArray)(t:Tm)(b:Nat)(bd:Int):Value→World→Hp→Prop:=fun v w' h'=>∃ (tb:Nat) (p:PTm),v=.pointer (some ⟨tb,0,none⟩)∧b≤s.size∧Own w' pb 70 [.string s,.int .i64 (b:Nat),.int .i64 bd]∧Seg h' tb 0 (cu p)∧PtH h' p t
def PC (nf bf:ByteArray→Option Rat)(f:FuncId)(n:Nat)(k:PKd):Prop:=∀ (pb:Nat) (s:ByteArray),s.size≤1000000→∀ (a:Nat),a≤s.size→∀ (bd:Int) (t:Tm) (b:Nat),dy nf bf s n k a=some (.ok t b)→∀ (w:World) (h:Hp),G w h→Own w pb 70 [.string s,nV a,iV bd]→h[pb]?=some bc→Tab h→Calls Tryz.prog f #[pB pb] w (ef pb w h (wu pb s t b bd))
theorem om  (pb:Nat)(s:ByteArray)(hsz:s.size≤1000000)(a:Nat)(ha:a≤s.size)(bd:Int)(w:World)(h:Hp)(g:G w h)(ho:Own w pb 70 [.string s,nV a,iV bd])(hj:h[pb]?=some bc)(tb:Tab h):Calls Tryz.prog 16 #[pB pb] w (ef pb w h fun v w' _=>v=.int .u8 (aF s (sk s a):Nat)∧Own w' pb 70 [.string s,nV (sk s a),iV bd]):=by
 have hmo:UpM [pb] w h w h:=UpM.refl g;obtain ⟨wz,hz0_,hs⟩:=SS.at_ g ho hj;replace hs:=(hs.aB tb);refine go Tryz.func16 [(0,pB pb)] rfl (aa hs [.v 2 (.int .u8 0)] (af (kZ ?_)));refine bx _ (CG.loop (fun μ_ Γ w_=>∃ (k:Nat) (h_:Hp),μ_=s.size-k∧Γ=[(0,pB pb),(2,.int .u8 0)]∧SS wz hz0_ w_ h_ [⟨pb,70,[.string s,nV k,iV bd]⟩] [] [fun h_=>Tab h_]∧a≤k∧k≤s.size∧UpM [pb] w h w_ h_∧(∀ i,a≤i→i<k→wD (aF s i)=true)) _ ⟨a,h,rfl,rfl,hs.to _ _,nR _,ha,hmo,(fun i h1 h2=>absurd h1 oM)⟩ ?_);rintro _ _ w1 ⟨k,h2,hm3,rfl,hs,hk1,hk2,hmo,hkb⟩;refine cQ (cQ (cR 22 [] mixed hs aq ?_));refine eV 0 3 (pB pb) (eV 1 4 (pB pb) (eV 2 5 (qP pb 1) (eO 3 6 [(0,1,1)] (nV k) hs (eV 4 7 (pB pb) (eV 5 8 (pB pb) (eV 6 9 (pB pb) (eO 7 10 [(0,0,1)] (.string s) hs (eV 8 11 (nV s.size) ?_))))))));cases hb4:(decide ((k:Int)<(s.size:Int)))
 ·
  have phb4:=oF hb4;refine eB 9 12 hb4 (eV 10 13 qF (eG 11 14 (eG 12 15 (eG 13 16 (eG 14 17 (eG 15 18 (eG 16 19 (eG 17 20 (eG 18 21 (eG 19 22 (eG 20 23 (eV 21 24 qF (jG hs (fun w5 h6 u7 hs=>?_))))))))))))));replace hmo:=hmo.trans (u7.m _);refine tN (cM (CG.exit ?_))
  show CG _ _ _ _ _ _ _ _
  refine cQ (cQ (cR 10 [] mixed hs aq ?_));refine eV 0 32 (pB pb) (eV 1 33 (pB pb) (eV 2 34 (qP pb 1) (eO 3 35 [(0,1,1)] (nV k) hs (eV 4 36 (pB pb) (eV 5 37 (pB pb) (eV 6 38 (pB pb) (eO 7 39 [(0,0,1)] (.string s) hs (eV 8 40 (nV s.size) ?_))))))));have ⟨hb8,phb8⟩:=dF (p:=(k:Int)<(s.size:Int)) oM;refine eB 9 41 hb8 (jG hs (fun w9 _ u11 hs=>?_));replace hmo:=hmo.trans (u11.m _);refine tN (cM (cK (aa hs [.v 2 (.int .u8 0)] (lN (kX ?_)))));have hk_:sk s a=k:=oq hk1 hk2 hkb (by first|exact .inl oM|exact .inr (decide_eq_false oM));exact hs.retM hmo [] (.int .u8 0) (by rw[hk_,rm oM];exact ⟨rfl,hs.own 0⟩)
 have phb4:=oT hb4;refine eB 9 12 hb4 (eV 10 13 qT (eV 11 14 (pB pb) (eV 12 15 (pB pb) (eV 13 16 (pB pb) (eO 14 17 [(0,0,1)] (.string s) hs (eV 15 18 (pB pb) (eV 16 19 (pB pb) (eV 17 20 (qP pb 1) (eO 18 21 [(0,1,1)] (nV k) hs (eV 19 22 (.int .u8 (aF s k:Nat)) ?_ (hv:=fun _=>dl (tx:=9) (x:=.tmp 17) (i:=.tmp 21) (k:=.i64) (s:=s) (n:=k) (j:=(k:Int)) kR kR kR kR oM oM _)))))))))));cases za:(((aF s k:Nat):Int) == (32:Int))
 ·
  have zb:=ah za;refine eB 20 23 za (eV 21 24 qF (jG hs (fun _ _ u15 hs=>?_)));replace hmo:=hmo.trans (u15.m _);refine tN (cM (CG.exit ?_))
  show CG _ _ _ _ _ _ _ _
  refine cQ (cQ (cR 10 [] mixed hs aq ?_));refine eV 0 32 (pB pb) (eV 1 33 (pB pb) (eV 2 34 (qP pb 1) (eO 3 35 [(0,1,1)] (nV k) hs (eV 4 36 (pB pb) (eV 5 37 (pB pb) (eV 6 38 (pB pb) (eO 7 39 [(0,0,1)] (.string s) hs (eV 8 40 (nV s.size) ?_))))))));have ⟨zc,phb16⟩:=dT (p:=(k:Int)<(s.size:Int)) oM;refine eB 9 41 zc (jG hs (fun _ _ u19 hs=>?_));replace hmo:=hmo.trans (u19.m _);refine tN (bS (cQ (cR 9 [] mixed hs aq ?_)));refine eV 0 42 (pB pb) (eV 1 43 (pB pb) (eV 2 44 (pB pb) (eO 3 45 [(0,0,1)] (.string s) hs (eV 4 46 (pB pb) (eV 5 47 (pB pb) (eV 6 48 (qP pb 1) (eO 7 49 [(0,1,1)] (nV k) hs (eV 8 50 (.int .u8 (aF s k:Nat)) ?_ (hv:=fun _=>dl (tx:=9) (x:=.tmp 45) (i:=.tmp 49) (k:=.i64) (s:=s) (n:=k) (j:=(k:Int)) kR kR kR kR oM oM _)))))))));refine jG hs (fun _ _ u22 hs=>?_);replace hmo:=hmo.trans (u22.m _);refine tV 9 2 (.int .u8 (aF s k:Nat)) (tN (bx [(2,.int .u8 (aF s k:Nat))] ?_));refine kX ?_;have hk_:sk s a=k:=oq hk1 hk2 hkb (by first|exact .inl oM|exact .inr (decide_eq_false oM));exact hs.retM hmo [] (.int .u8 (aF s k:Nat)) (by rw[hk_];exact ⟨rfl,hs.own 0⟩)
 have zb:=eq_of_beq za;refine eB 20 23 za (eV 21 24 qT (jG hs (fun _ zd u25 hs=>?_)));replace hmo:=hmo.trans (u25.m _);refine tN (bS (cK (kZ (kQ (lL hs [.m 25 0,.v 26 (pB pb),.v 27 (qP pb 1),.o 28 (nV k) 0 1 1] (bB 29 ((k:Nat)+1) (k+1) ?_))))));refine lL hs [.v 30 (pB pb),.v 31 (qP pb 1)] (oY 0 1 ([nV (k+1)]) hs (fun _ pu hs=>?_));replace hmo:=hmo.put pu (List.mem_singleton.2 rfl) hs.g;refine lD ?_;intro a_ ka;refine ⟨_,_,?_,⟨k+1,zd,rfl,rfl,hs.to _ _,oM,oM,hmo,(fun i h1 h2=>by rcases Nat.lt_succ_iff_lt_or_eq.1 h2 with h_|rfl;exact hkb i h1 h_;exact decide_eq_true oM)⟩,ka.to _ kR⟩
 omega
theorem me  (pb:Nat)(s:ByteArray)(hsz:s.size≤1000000)(a:Nat)(ha:a≤s.size)(bd:Int)(c:Nat)(hc:c≠0)(w:World)(h:Hp)(g:G w h)(ho:Own w pb 70 [.string s,nV a,iV bd])(hj:h[pb]?=some bc)(tb:Tab h):Calls Tryz.prog 96 #[pB pb,.int .u8 (c:Nat)] w (ef pb w h fun v w' _=>(v=.bool true∧aF s (sk s a)=c∧sk s a<s.size∧Own w' pb 70 [.string s,nV (sk s a+1),iV bd])∨(v=.bool false∧aF s (sk s a)≠c∧Own w' pb 70 [.string s,nV (sk s a),iV bd])):=by
 have hmo:UpM [pb] w h w h:=UpM.refl g;obtain ⟨wz,hz0_,hs⟩:=SS.at_ g ho hj;replace hs:=(hs.aB tb);refine go Tryz.func96 [(0,pB pb),(1,.int .u8 (c:Nat))] rfl (aa hs [.v 4 qF] (af (aa hs [.m 5 0] ?_)));have hskq1:=iq (s:=s) (a:=a) oM;refine fL 6 (om pb s hsz a ha bd _ _ hs.g (hs.own 0) (hs.jk 0) hs.f.1) ?_;rintro _ w2 h3 u4 ⟨rfl,hOq1⟩;replace hs:=(hs.stepM 0 u4 hOq1).to [⟨pb,70,[.string s,nV (sk s a),iV bd]⟩] [];replace hmo:=hmo.trans u4;refine lL hs [.m 7 1] ?_;cases hb5:(((aF s (sk s a):Nat):Int) != (c:Int))
 ·
  have phb5:=aI hb5;refine lB 8 hb5 (aj (cK (aa hs [.m 9 0,.v 10 (pB pb),.v 11 (qP pb 1),.o 12 (nV (sk s a)) 0 1 1] (bB 13 ((sk s a:Nat)+1) ((sk s a)+1) ?_))));refine lL hs [.v 14 (pB pb),.v 15 (qP pb 1)] (oY 0 1 ([nV ((sk s a)+1)]) hs (fun w6 pu hs=>?_));replace hmo:=hmo.put pu (List.mem_singleton.2 rfl) hs.g;refine aT (lL hs [.v 4 qT] (lN (kX ?_)));have hin_:=vN (s:=s) (a:=sk s a) oM;exact hs.retM hmo [] qT (.inl ⟨rfl,by omega,by omega,hs.own 0⟩)
 have phb5:=aJ hb5;exact lB 8 hb5 (ao (aa hs [.v 4 qF] (lN (kX (hs.retM hmo [] qF (.inr ⟨rfl,by omega,hs.own 0⟩))))))
theorem Cy (pb:Nat)(s:ByteArray)(hsz:s.size≤1000000)(a:Nat)(ha:a≤s.size)(bd:Int)(c:Nat)(hc:c≠0)(hka:sk s a=a)(w:World)(h:Hp)(g:G w h)(ho:Own w pb 70 [.string s,nV a,iV bd])(hj:h[pb]?=some bc)(tb:Tab h):Calls Tryz.prog 96 #[pB pb,.int .u8 (c:Nat)] w (ef pb w h fun v w' _=>(v=.bool true∧aF s a=c∧a<s.size∧Own w' pb 70 [.string s,nV (a+1),iV bd])∨(v=.bool false∧aF s a≠c∧Own w' pb 70 [.string s,nV a,iV bd])):=by
 have q:=me pb s hsz a ha bd c hc w h g ho hj tb;rw[hka] at q;exact q
theorem kM (pb:Nat)(s:ByteArray)(hsz:s.size≤1000000)(a:Nat)(ha:a≤s.size)(bd:Int)(c:Nat)(hc:c≠0)(hka:aF s (sk s a)=c)(w:World)(h:Hp)(g:G w h)(ho:Own w pb 70 [.string s,nV a,iV bd])(hj:h[pb]?=some bc)(tb:Tab h):Calls Tryz.prog 96 #[pB pb,.int .u8 (c:Nat)] w (ef pb w h fun v w' _=>v=.bool true∧sk s a<s.size∧Own w' pb 70 [.string s,nV (sk s a+1),iV bd]) :=
 (me pb s hsz a ha bd c hc w h g ho hj tb).mono fun e w' ⟨v,h',he,u,hΦ⟩=>⟨v,h',he,u,by
  rcases hΦ with ⟨h1,h2,h3,h4⟩|⟨h1,h2,h3⟩
  ·exact ⟨h1,h3,h4⟩
  ·exact absurd hka h2⟩
theorem xF  (fo:FuncId)(p:Nat→Bool)(hen:∀ (args:Array Value) (w:World),(callFunc fo args).run Tryz.prog w=.ok (.enter fo args) w)(hfo:∀ c,c<256→∀ (w:World) (h:Hp),G w h→Calls Tryz.prog fo #[.int .u8 (c:Nat)] w (Ret w h fun v _=>v=.bool (p c)))(pb:Nat)(s:ByteArray)(hsz:s.size≤1000000)(a:Nat)(ha:a≤s.size)(bd:Int)(w:World)(h:Hp)(g:G w h)(ho:Own w pb 70 [.string s,nV a,iV bd])(hj:h[pb]?=some bc)(tb:Tab h):Calls Tryz.prog 175 #[pB pb,.func (.func fo) #[] #[]] w (ef pb w h fun v w' _=>v=.string (s.extract a (rn p s a))∧Own w' pb 70 [.string s,nV (rn p s a),iV bd]):=by
 have hmo:UpM [pb] w h w h:=UpM.refl g;obtain ⟨wz,hz0_,hs⟩:=SS.at_ g ho hj;replace hs:=(hs.aB tb);refine go Tryz.func175 [(0,pB pb),(1,.func (.func fo) #[] #[])] rfl (aa hs [.v 4 (eS)] (aT (lL hs [.m 6 0,.v 7 (pB pb),.v 8 (qP pb 1),.o 9 (nV a) 0 1 1,.m 5 9] (af (kZ ?_)))));refine bx _ (CG.loop (fun μ_ Γ w_=>∃ (k:Nat) (h_:Hp),μ_=s.size-k∧Γ=[(0,pB pb),(1,.func (.func fo) #[] #[]),(4,eS),(5,nV a)]∧SS wz hz0_ w_ h_ [⟨pb,70,[.string s,nV k,iV bd]⟩] [] [fun h_=>Tab h_]∧a≤k∧k≤s.size∧UpM [pb] w h w_ h_∧(∀ i,a≤i→i<k→p (aF s i)=true)) _ ⟨a,h,rfl,rfl,hs.to _ _,nR _,ha,hmo,(fun i h1 h2=>absurd h1 oM)⟩ ?_);rintro _ _ w1 ⟨k,h2,hm3,rfl,hs,hk1,hk2,hmo,hkb⟩;refine cQ (cQ (cR 23 [] mixed hs aq ?_));refine eV 0 10 (pB pb) (eV 1 11 (pB pb) (eV 2 12 (qP pb 1) (eO 3 13 [(0,1,1)] (nV k) hs (eV 4 14 (pB pb) (eV 5 15 (pB pb) (eV 6 16 (pB pb) (eO 7 17 [(0,0,1)] (.string s) hs (eV 8 18 (nV s.size) ?_))))))));cases hb4:(decide ((k:Int)<(s.size:Int)))
 ·
  have phb4:=oF hb4;refine eB 9 19 hb4 (eV 10 20 qF (eG 11 21 (eG 12 22 (eG 13 23 (eG 14 24 (eG 15 25 (eG 16 26 (eG 17 27 (eG 18 28 (eG 19 29 (eG 20 30 (eG 21 31 (eV 22 32 qF (jG hs (fun w5 h6 u7 hs=>?_)))))))))))))));replace hmo:=hmo.trans (u7.m _);refine tN (cM (CG.exit ?_))
  show CG _ _ _ _ _ _ _ _
  refine cQ (cR 10 [] mixed hs aq ?_);refine eV 0 40 (pB pb) (eV 1 41 (pB pb) (eV 2 42 (pB pb) (eO 3 43 [(0,0,1)] (.string s) hs (eV 4 44 (nV a) (eV 5 45 (pB pb) (eV 6 46 (pB pb) (eV 7 47 (qP pb 1) (eO 8 48 [(0,1,1)] (nV k) hs (eV 9 49 (.string (s.extract a k)) ?_ (hv:=fun _=>ub (tx:=9) (x:=.tmp 43) (i:=.tmp 44) (e:=.tmp 48) (k:=.i64) (k2:=.i64) (s:=s) (n:=a) (m:=k) (j:=(a:Int)) (j2:=(k:Int)) kR kR kR kR kR oM oM oM oM _))))))))));refine jG hs (fun w8 h9 u10 hs=>?_);replace hmo:=hmo.trans (u10.m _);refine tV 10 4 (.string (s.extract a k)) (tN (kX ?_));have hk_:rn p s a=k:=oq hk1 hk2 hkb (by first|exact .inl oM|exact .inr aM);exact hs.retM hmo [] (.string (s.extract a k)) (by rw[hk_];exact ⟨rfl,hs.own 0⟩)
 have phb4:=oT hb4;refine eB 9 19 hb4 (eV 10 20 qT (eV 11 21 (.func (.func fo) #[] #[]) (eV 12 22 (pB pb) (eV 13 23 (pB pb) (eV 14 24 (pB pb) (eO 15 25 [(0,0,1)] (.string s) hs (eV 16 26 (pB pb) (eV 17 27 (pB pb) (eV 18 28 (qP pb 1) (eO 19 29 [(0,1,1)] (nV k) hs (eV 20 30 (.int .u8 (aF s k:Nat)) ?_ (hv:=fun _=>dl (tx:=9) (x:=.tmp 25) (i:=.tmp 29) (k:=.i64) (s:=s) (n:=k) (j:=(k:Int)) kR kR kR kR oM oM _))))))))))));refine GK 21 31 hs hmo (fun _ _ hs=>hfo ((aF s k)) (cW _ _) _ _ hs.g) ?_ (hv:=fun _=>Eq.trans kR (hen _ _));rintro _ _ _ _ _ hmo hs rfl;cases hb13:(p ((aF s k)))
 ·
  refine eV 22 32 qF (jG hs (fun _ _ u16 hs=>?_));replace hmo:=hmo.trans (u16.m _);refine tN (cM (CG.exit ?_))
  show CG _ _ _ _ _ _ _ _
  refine cQ (cR 10 [] mixed hs aq ?_);refine eV 0 40 (pB pb) (eV 1 41 (pB pb) (eV 2 42 (pB pb) (eO 3 43 [(0,0,1)] (.string s) hs (eV 4 44 (nV a) (eV 5 45 (pB pb) (eV 6 46 (pB pb) (eV 7 47 (qP pb 1) (eO 8 48 [(0,1,1)] (nV k) hs (eV 9 49 (.string (s.extract a k)) ?_ (hv:=fun _=>ub (tx:=9) (x:=.tmp 43) (i:=.tmp 44) (e:=.tmp 48) (k:=.i64) (k2:=.i64) (s:=s) (n:=a) (m:=k) (j:=(a:Int)) (j2:=(k:Int)) kR kR kR kR kR oM oM oM oM _))))))))));refine jG hs (fun _ _ u19 hs=>?_);replace hmo:=hmo.trans (u19.m _);refine tV 10 4 (.string (s.extract a k)) (tN (kX ?_));have hk_:rn p s a=k:=oq hk1 hk2 hkb (by first|exact .inl oM|exact .inr aM);exact hs.retM hmo [] (.string (s.extract a k)) (by rw[hk_];exact ⟨rfl,hs.own 0⟩)
 refine eV 22 32 qT (jG hs (fun _ za u22 hs=>?_));replace hmo:=hmo.trans (u22.m _);refine tN (bS (cK (kZ (kQ (lL hs [.m 33 0,.v 34 (pB pb),.v 35 (qP pb 1),.o 36 (nV k) 0 1 1] (bB 37 ((k:Nat)+1) (k+1) ?_))))));refine lL hs [.v 38 (pB pb),.v 39 (qP pb 1)] (oY 0 1 ([nV (k+1)]) hs (fun _ pu hs=>?_));replace hmo:=hmo.put pu (List.mem_singleton.2 rfl) hs.g;refine lD ?_;intro a_ ka;refine ⟨_,_,?_,⟨k+1,za,rfl,rfl,hs.to _ _,oM,oM,hmo,(fun i h1 h2=>by rcases Nat.lt_succ_iff_lt_or_eq.1 h2 with h_|rfl;exact hkb i h1 h_;exact aM)⟩,ka.to _ kR⟩
 omega
theorem Gs (op:Int)(pa pc:PTm)(w:World)(h:Hp)(g:G w h):CR 97 #[iV op,cZ pa,cZ pc] w h (fun v h1=>∃ b,v=cZ ⟨op,0,0,⟨#[]⟩,sB b,2,2⟩∧SlO 9 cu bu h1 (sB b) [pa,pc]):=by
 have hs:=sS g;refine go Tryz.func97 [(0,iV op),(1,cZ pa),(2,cZ pc)] rfl (aE (lA 4 31 (cu pa) hs (fun b1 w2 h3 hs=>lA 5 31 (cu pc) hs (fun b4 w5 h6 hs=>lA 6 31 ([iV 0,iV 0,qF,uV 0,eS,uV 0,eS,eS,sZ]) hs (fun b7 w8 h9 hs=>aT (lL hs [.m 7 0,.o 8 (cZ pa) 2 0 9,.o 9 (cZ pc) 1 0 9] (lR 10 31 2 ([iV pa.op,iV pa.n,.bool (aD pa.q.num),uV (lo (ab pa.q.num)),.string (hi (ab pa.q.num)),uV (lo (qd pa.q)),.string (hi (qd pa.q)),.string pa.s,qS pa.A pa.m pa.c,iV pc.op,iV pc.n,.bool (aD pc.q.num),uV (lo (ab pc.q.num)),.string (hi (ab pc.q.num)),uV (lo (qd pc.q)),.string (hi (qd pc.q)),.string pc.s,qS pc.A pc.m pc.c]) hs (fun za _ _ hs=>?_))))))));replace hs:=hs.aS (SlO.of_flat (sz:=9) (f:=cu) (d:=bu) (b:=za) (o:=0) (l:=([pa,pc]:List PTm)) (fun _=>rfl) hs.f.1);exact lL hs [.v 11 (.agg #[iV op,iV 0,qF,uV 0,eS,uV 0,eS,eS,qS (sB za) 2 2])] (lP 0 0 ([iV op,iV 0,qF,uV 0,eS,uV 0,eS,eS,qS (sB za) 2 2]) hs (fun _ hs=>ae hs [(0,0,9)] (.agg #[iV op,iV 0,qF,uV 0,eS,uV 0,eS,eS,qS (sB za) 2 2]) (⟨_,rfl,hs.f.1⟩)))
theorem Fm (op:Int)(pa:PTm)(w:World)(h:Hp)(g:G w h):CR 140 #[iV op,cZ pa] w h (fun v h1=>∃ b,v=cZ ⟨op,0,0,⟨#[]⟩,sB b,1,1⟩∧SlO 9 cu bu h1 (sB b) [pa]):=by
 have hs:=sS g;refine go Tryz.func140 [(0,iV op),(1,cZ pa)] rfl (aE (lA 3 31 (cu pa) hs (fun b1 w2 h3 hs=>lA 4 31 ([iV 0,iV 0,qF,uV 0,eS,uV 0,eS,eS,sZ]) hs (fun b4 w5 h6 hs=>aT (lL hs [.m 5 0,.o 6 (cZ pa) 1 0 9] (lR 7 31 1 (pC pa) hs (fun b7 w8 h9 hs=>?_)))))));replace hs:=hs.aS (SlO.of_flat (sz:=9) (f:=cu) (d:=bu) (b:=b7) (o:=0) (l:=([pa]:List PTm)) (fun _=>rfl) hs.f.1);exact lL hs [.v 8 (.agg #[iV op,iV 0,qF,uV 0,eS,uV 0,eS,eS,qS (sB b7) 1 1])] (lP 0 0 ([iV op,iV 0,qF,uV 0,eS,uV 0,eS,eS,qS (sB b7) 1 1]) hs (fun _ hs=>ae hs [(0,0,9)] (.agg #[iV op,iV 0,qF,uV 0,eS,uV 0,eS,eS,qS (sB b7) 1 1]) (⟨_,rfl,hs.f.1⟩)))
theorem x7 (q:Rat)(w:World)(h:Hp)(g:G w h):CR 207 #[qv q] w h (fun v h1=>∃ p,v=cZ p∧PtH h1 p (j6 q)):=by
 have hs:=sS g;exact go Tryz.func207 [(0,qv q)] rfl (aE (lA 1 28 (qc q) hs (fun b1 w2 h3 hs=>lA 2 31 ([iV 0,iV 0,qF,uV 0,eS,uV 0,eS,eS,sZ]) hs (fun b4 w5 h6 hs=>aT (lL hs [.o 3 (qv q) 1 0 5,.v 4 (cZ ⟨1,0,q,⟨#[]⟩,none,0,0⟩)] (lP 0 0 (cu ⟨1,0,q,⟨#[]⟩,none,0,0⟩) hs (fun w7 hs=>ae hs [(0,0,9)] (cZ ⟨1,0,q,⟨#[]⟩,none,0,0⟩) (⟨⟨1,0,q,⟨#[]⟩,none,0,0⟩,rfl,PtH.num⟩))))))))
theorem CU (op:Int)(pa pc:PTm)(t u:Tm)(w:World)(h:Hp)(g:G w h)(x:PtH h pa t)(y:PtH h pc u):CR 97 #[iV op,cZ pa,cZ pc] w h (fun v h1=>∃ p,v=cZ p∧PtH h1 p (gE op t u)) :=
 (Gs op pa pc w h g).mono fun e w' ⟨v,h',e1,up,b,e2,e3⟩=>⟨v,h',e1,up,_,e2,(x.gw up.gr.gw).two (y.gw up.gr.gw) e3⟩
theorem Ah (op:Int)(pa:PTm)(t:Tm)(w:World)(h:Hp)(g:G w h)(x:PtH h pa t):CR 140 #[iV op,cZ pa] w h (fun v h1=>∃ p,v=cZ p∧PtH h1 p (nr op t)) :=
 (Fm op pa w h g).mono fun e w' ⟨v,h',e1,up,b,e2,e3⟩=>⟨v,h',e1,up,_,e2,(x.gw up.gr.gw).one e3⟩
section
variable {nf bf:ByteArray→Option Rat} (n:Nat)
theorem uZ  (lv:Bool)(fp:FuncId)(hen:∀ (args:Array Value) (w:World),(callFunc fp args).run Tryz.prog w=.ok (.enter fp args) w)(hp:∀ m,m≤n→PC nf bf fp m (part lv))(pb:Nat)(s:ByteArray)(hsz:s.size≤1000000)(a:Nat)(ha:a≤s.size)(bd:Int)(t:Tm)(b:Nat)(hq:dy nf bf s (n+1) (sF lv) a=some (.ok t b))(w:World)(h:Hp)(g:G w h)(ho:Own w pb 70 [.string s,nV a,iV bd])(hj:h[pb]?=some bc)(tb:Tab h):Calls Tryz.prog 53 #[pB pb,.func (.func fp) #[pB pb] #[],.int .u8 (c1 lv:Nat),iV (wo lv),.int .u8 (c2 lv:Nat),iV (sH lv)] w (ef pb w h (wu pb s t b bd)):=by
 have hmo:UpM [pb] w h w h:=UpM.refl g;obtain ⟨wz,hz0_,hs⟩:=SS.at_ g ho hj;obtain ⟨t1,b1,hq1,hq2⟩:=AM hq;have hc1_:c1 lv≠0:=by cases lv<;>decide
 have hc2_:c2 lv≠0:=by cases lv<;>decide
 replace hs:=(hs.aB tb);refine go Tryz.func53 [(0,pB pb),(1,.func (.func fp) #[pB pb] #[]),(2,.int .u8 (c1 lv:Nat)),(3,iV (wo lv)),(4,.int .u8 (c2 lv:Nat)),(5,iV (sH lv))] rfl (aa hs [.v 12 (.pointer none)] (aT (lL hs [.m 17 1] (fL 18 (hp n (nR _) pb s hsz a ha bd t1 b1 hq1 _ _ hs.g (hs.own 0) (hs.jk 0) hs.f.1) ?_ (hr:=Eq.trans kR (hen _ _))))));rintro _ w2 h3 u4 ⟨tbq1,pq1,rfl,hbq1,hOq1,hSq1,hTq1⟩;replace hs:=(hs.stepM 0 u4 hOq1).to [⟨pb,70,[.string s,nV b1,iV bd]⟩] [];replace hmo:=hmo.trans u4;replace hs:=((hs.a_Seg hSq1).add (K:=fun h_=>PtH h_ pq1 t1) hTq1);refine lL hs [.m 13 18] (af (kZ ?_));replace hs:=hs.add (K:=fun h_=>PtH h_ pq1 t1) (hs.f.1);replace hs:=hs.add (K:=fun h_=>Seg h_ tbq1 0 (cu pq1)) (hs.f.r.1);refine bx _ (CG.loop (fun μ_ Γ w_=>∃ (m:Nat) (tq:Nat) (p:PTm) (u:Tm) (k:Nat) (h_:Hp),μ_=m∧Γ=[(0,pB pb),(1,.func (.func fp) #[pB pb] #[]),(2,.int .u8 (c1 lv:Nat)),(3,iV (wo lv)),(4,.int .u8 (c2 lv:Nat)),(5,iV (sH lv)),(13,pB tq)]∧SS wz hz0_ w_ h_ [⟨pb,70,[.string s,nV k,iV bd]⟩] [] [fun h_=>Seg h_ tq 0 (cu p),fun h_=>PtH h_ p u,fun h_=>PtH h_ pq1 t1,fun h_=>Seg h_ tbq1 0 (cu pq1),fun h_=>Tab h_]∧m≤n∧k≤s.size∧UpM [pb] w h w_ h_∧dy nf bf s m (.more lv u) k=some (.ok t b)) _ ⟨n,tbq1,pq1,t1,b1,h3,rfl,rfl,hs.to _ _,nR _,hbq1,hmo,hq2⟩ ?_);rintro _ _ w5 ⟨m,tq,p,u,k,h6,hm7,rfl,hs,hm,hk,hmo,hq⟩;obtain ⟨m1,rfl⟩:=Aj hq;have hskk:=iq (s:=s) (a:=k) hk;refine cQ (aa hs [.m 19 13,.v 20 qT] (ao (cK (kZ (aa hs [.v 14 (iV 0)] (af (aa hs [.m 21 0,.m 22 2] ?_)))))));have hskq8:=iq (s:=s) (a:=k) oM;refine fL 23 (me pb s hsz k oM bd (c1 lv) hc1_ _ _ hs.g (hs.own 0) (hs.jk 0) hs.f.q.1) ?_;rintro _ w9 _ u11 (⟨rfl,hcq8,hlq8,hOq8⟩|⟨rfl,hcq8,hOq8⟩)
 ·
  replace hs:=(hs.stepM 0 u11 hOq8).to [⟨pb,70,[.string s,nV (sk s k+1),iV bd]⟩] [];replace hmo:=hmo.trans u11;obtain ⟨vq8,eq8,hvq8,hwq8⟩:=sx hq hcq8;refine ao (kQ (lL hs [.m 24 3,.m 14 24] (aT (lL hs [.m 30 1] (fL 31 (hp m1 oM pb s hsz (sk s k+1) oM bd vq8 eq8 hvq8 _ _ hs.g (hs.own 0) (hs.jk 0) hs.f.q.1) ?_ (hr:=Eq.trans kR (hen _ _)))))));rintro _ _ _ u15 ⟨tbq12,pq12,rfl,hbq12,hOq12,hSq12,hTq12⟩;replace hs:=(hs.stepM 0 u15 hOq12).to [⟨pb,70,[.string s,nV eq8,iV bd]⟩] [];replace hmo:=hmo.trans u15;replace hs:=((hs.a_Seg hSq12).add (K:=fun h_=>PtH h_ pq12 vq8) hTq12);refine lL hs [.m 15 31] (af (aa hs [.m 32 15,.v 33 qF] (aj (cK (cQ ?_)))));have hsr:=hs;have hge_:=hmo.gr.size;refine cR 9 [⟨8,16,.cells (List.toArray [iV 0,iV 0,qF,uV 0,eS,uV 0,eS,eS,sZ]) 31 (0,0)⟩] mixed hs (bn (ee kR (fun _ _=>by kernel_rfl)) aq) (eV 0 34 (iV (wo lv)) (eV 1 35 (pB tq) (eV 2 36 (pB tq) (eH 3 37 (cZ p) hs hs.f.r.1 (eV 4 38 (pB tbq12) (eV 5 39 (pB tbq12) (eH 6 40 (cZ pq12) hs hs.f.2.1 (GK 7 41 hs hmo (fun _ _ hs=>CU (wo lv) p pq12 u vq8 _ _ hs.g hs.f.r.2.1 hs.f.1) ?_))))))));rintro _ _ _ _ _ hmo hs ⟨pq16,rfl,hTq16⟩;replace hs:=(hs.add (K:=fun h_=>PtH h_ pq16 (gE (wo lv) u vq8)) hTq16);refine Fk [] hsr hs hmo hge_ 31 [iV 0,iV 0,qF,uV 0,eS,uV 0,eS,eS,sZ] (fun _ _ za hmo hlo_b21 hs=>Hh 9 0 0 (cu pq16) hs (fun _ pu hs=>?_));replace hmo:=hmo.put2 pu hlo_b21 g hs.g;refine tN ?_;obtain ⟨zc,hs,hmo,sg24⟩:=hs.pubM hmo 0 hlo_b21;replace hs:=hs.to [⟨pb,70,[.string s,nV eq8,iV bd]⟩] [];have sg26:Seg zc za 0 (cu pq16):=sg24;replace hs:=hs.a_Seg sg26;refine kQ (lL hs [.m 13 16] (lD ?_));intro a_ ka;replace hs:=((hs.tl.tl.tl.tl.tl.tl.add (K:=fun h_=>PtH h_ pq16 (gE (wo lv) u vq8)) hs.f.2.1).add (K:=fun h_=>Seg h_ za 0 (cu pq16)) hs.f.1);refine ⟨_,_,?_,⟨m1,za,pq16,gE (wo lv) u vq8,eq8,zc,rfl,rfl,hs.to _ _,oM,hbq12,hmo,hwq8⟩,ka.to _ kR⟩
  omega
 replace hs:=(hs.stepM 0 u11 hOq8).to [⟨pb,70,[.string s,nV (sk s k),iV bd]⟩] [];replace hmo:=hmo.trans u11;have hcF:=hcq8;refine aj (aa hs [.m 25 0,.m 26 4] ?_);have hskq33:=iq (s:=s) (a:=(sk s k)) oM;refine fL 27 (Cy pb s hsz (sk s k) oM bd (c2 lv) hc2_ (EP _ _) _ _ hs.g (hs.own 0) (hs.jk 0) hs.f.q.1) ?_;rintro _ _ _ u36 (⟨rfl,hcq33,hlq33,hOq33⟩|⟨rfl,hcq33,hOq33⟩)
 ·
  replace hs:=(hs.stepM 0 u36 hOq33).to [⟨pb,70,[.string s,nV ((sk s k)+1),iV bd]⟩] [];replace hmo:=hmo.trans u36;obtain ⟨vq33,eq33,hvq33,hwq33⟩:=sq hq hcF hcq33;refine ao (kQ (lL hs [.m 28 5,.m 14 28] (aT (lL hs [.m 30 1] (fL 31 (hp m1 oM pb s hsz ((sk s k)+1) oM bd vq33 eq33 hvq33 _ _ hs.g (hs.own 0) (hs.jk 0) hs.f.q.1) ?_ (hr:=Eq.trans kR (hen _ _)))))));rintro _ _ _ u40 ⟨tbq37,pq37,rfl,hbq37,hOq37,hSq37,hTq37⟩;replace hs:=(hs.stepM 0 u40 hOq37).to [⟨pb,70,[.string s,nV eq33,iV bd]⟩] [];replace hmo:=hmo.trans u40;replace hs:=((hs.a_Seg hSq37).add (K:=fun h_=>PtH h_ pq37 vq33) hTq37);refine lL hs [.m 15 31] (af (aa hs [.m 32 15,.v 33 qF] (aj (cK (cQ ?_)))));have hsr:=hs;have hge_:=hmo.gr.size;refine cR 9 [⟨8,16,.cells (List.toArray [iV 0,iV 0,qF,uV 0,eS,uV 0,eS,eS,sZ]) 31 (0,0)⟩] mixed hs (bn (ee kR (fun _ _=>by kernel_rfl)) aq) (eV 0 34 (iV (sH lv)) (eV 1 35 (pB tq) (eV 2 36 (pB tq) (eH 3 37 (cZ p) hs hs.f.r.1 (eV 4 38 (pB tbq37) (eV 5 39 (pB tbq37) (eH 6 40 (cZ pq37) hs hs.f.2.1 (GK 7 41 hs hmo (fun _ _ hs=>CU (sH lv) p pq37 u vq33 _ _ hs.g hs.f.r.2.1 hs.f.1) ?_))))))));rintro _ _ _ _ _ hmo hs ⟨pq41,rfl,hTq41⟩;replace hs:=(hs.add (K:=fun h_=>PtH h_ pq41 (gE (sH lv) u vq33)) hTq41);refine Fk [] hsr hs hmo hge_ 31 [iV 0,iV 0,qF,uV 0,eS,uV 0,eS,eS,sZ] (fun _ _ zb hmo hlo_b46 hs=>Hh 9 0 0 (cu pq41) hs (fun _ pu hs=>?_));replace hmo:=hmo.put2 pu hlo_b46 g hs.g;refine tN ?_;obtain ⟨zd,hs,hmo,sg49⟩:=hs.pubM hmo 0 hlo_b46;replace hs:=hs.to [⟨pb,70,[.string s,nV eq33,iV bd]⟩] [];have sg51:Seg zd zb 0 (cu pq41):=sg49;replace hs:=hs.a_Seg sg51;refine kQ (lL hs [.m 13 16] (lD ?_));intro a_ ka;replace hs:=((hs.tl.tl.tl.tl.tl.tl.add (K:=fun h_=>PtH h_ pq41 (gE (sH lv) u vq33)) hs.f.2.1).add (K:=fun h_=>Seg h_ zb 0 (cu pq41)) hs.f.1);refine ⟨_,_,?_,⟨m1,zb,pq41,gE (sH lv) u vq33,eq33,zd,rfl,rfl,hs.to _ _,oM,hbq37,hmo,hwq33⟩,ka.to _ kR⟩
  omega
 replace hs:=(hs.stepM 0 u36 hOq33).to [⟨pb,70,[.string s,nV (sk s k),iV bd]⟩] [];replace hmo:=hmo.trans u36;have hcF2:=hcq33;refine aj (aa hs [.m 29 13,.m 12 29] (lN (kX ?_)));obtain ⟨ht_,hb_⟩:=r6 hq hcF hcF2;exact hs.retM hmo [] (pB tq) (by rw[ht_];rw[hb_];exact ⟨tq,p,rfl,by first|assumption|omega,hs.own 0,hs.f.1,hs.f.2.1⟩)
theorem GT  (hp:∀ m,m≤n→PC nf bf 54 m .prod)(pb:Nat)(s:ByteArray)(hsz:s.size≤1000000)(a:Nat)(ha:a≤s.size)(bd:Int)(t:Tm)(b:Nat)(hq:dy nf bf s (n+1) .sum a=some (.ok t b))(w:World)(h:Hp)(g:G w h)(ho:Own w pb 70 [.string s,nV a,iV bd])(hj:h[pb]?=some bc)(tb:Tab h):Calls Tryz.prog 15 #[pB pb] w (ef pb w h (wu pb s t b bd)):=by
 have hmo:UpM [pb] w h w h:=UpM.refl g;obtain ⟨wz,hz0_,hs⟩:=SS.at_ g ho hj;replace hs:=(hs.aB tb);refine go Tryz.func15 [(0,pB pb)] rfl (aa hs [.v 2 (.pointer none)] (aT (lL hs [.m 3 0,.m 4 0,.v 5 (.func (.func 54) #[pB pb] #[])] (fL 6 (uZ n false 54 (fun _ _=>by kernel_rfl) hp pb s hsz a ha bd t b hq _ _ hs.g (hs.own 0) (hs.jk 0) hs.f.1) ?_))));rintro _ w2 h3 u4 ⟨tbq1,pq1,rfl,hbq1,hOq1,hSq1,hTq1⟩;replace hs:=(hs.stepM 0 u4 hOq1).to [⟨pb,70,[.string s,nV b,iV bd]⟩] [];replace hmo:=hmo.trans u4;replace hs:=((hs.a_Seg hSq1).add (K:=fun h_=>PtH h_ pq1 t) hTq1);exact lL hs [.m 2 6] (lN (kX (hs.retM hmo [] (pB tbq1) (by exact ⟨tbq1,pq1,rfl,by first|assumption|omega,hs.own 0,hs.f.2.1,hs.f.1⟩))))
theorem tY  (hp:∀ m,m≤n→PC nf bf 98 m .sign)(pb:Nat)(s:ByteArray)(hsz:s.size≤1000000)(a:Nat)(ha:a≤s.size)(bd:Int)(t:Tm)(b:Nat)(hq:dy nf bf s (n+1) .prod a=some (.ok t b))(w:World)(h:Hp)(g:G w h)(ho:Own w pb 70 [.string s,nV a,iV bd])(hj:h[pb]?=some bc)(tb:Tab h):Calls Tryz.prog 54 #[pB pb] w (ef pb w h (wu pb s t b bd)):=by
 have hmo:UpM [pb] w h w h:=UpM.refl g;obtain ⟨wz,hz0_,hs⟩:=SS.at_ g ho hj;replace hs:=(hs.aB tb);refine go Tryz.func54 [(0,pB pb)] rfl (aa hs [.v 2 (.pointer none)] (aT (lL hs [.m 3 0,.m 4 0,.v 5 (.func (.func 98) #[pB pb] #[])] (fL 6 (uZ n true 98 (fun _ _=>by kernel_rfl) hp pb s hsz a ha bd t b hq _ _ hs.g (hs.own 0) (hs.jk 0) hs.f.1) ?_))));rintro _ w2 h3 u4 ⟨tbq1,pq1,rfl,hbq1,hOq1,hSq1,hTq1⟩;replace hs:=(hs.stepM 0 u4 hOq1).to [⟨pb,70,[.string s,nV b,iV bd]⟩] [];replace hmo:=hmo.trans u4;replace hs:=((hs.a_Seg hSq1).add (K:=fun h_=>PtH h_ pq1 t) hTq1);exact lL hs [.m 2 6] (lN (kX (hs.retM hmo [] (pB tbq1) (by exact ⟨tbq1,pq1,rfl,by first|assumption|omega,hs.own 0,hs.f.2.1,hs.f.1⟩))))
theorem A3  (ihs:PC nf bf 98 n .sign)(ihp:PC nf bf 139 n .pow)(pb:Nat)(s:ByteArray)(hsz:s.size≤1000000)(a:Nat)(ha:a≤s.size)(bd:Int)(t:Tm)(b:Nat)(hq:dy nf bf s (n+1) .sign a=some (.ok t b))(w:World)(h:Hp)(g:G w h)(ho:Own w pb 70 [.string s,nV a,iV bd])(hj:h[pb]?=some bc)(tb:Tab h):Calls Tryz.prog 98 #[pB pb] w (ef pb w h (wu pb s t b bd)):=by
 have hmo:UpM [pb] w h w h:=UpM.refl g;obtain ⟨wz,hz0_,hs⟩:=SS.at_ g ho hj;replace hs:=(hs.aB tb);refine go Tryz.func98 [(0,pB pb)] rfl (aa hs [.v 2 (.pointer none)] (af (aa hs [.m 5 0] ?_)));have hskq1:=iq (s:=s) (a:=a) oM;refine fL 6 (me pb s hsz a ha bd 45 kD _ _ hs.g (hs.own 0) (hs.jk 0) hs.f.1) ?_;rintro _ w2 h3 u4 (⟨rfl,hcq1,hlq1,hOq1⟩|⟨rfl,hcq1,hOq1⟩)
 ·
  replace hs:=(hs.stepM 0 u4 hOq1).to [⟨pb,70,[.string s,nV (sk s a+1),iV bd]⟩] [];replace hmo:=hmo.trans u4;obtain ⟨v1,hv1,ht_⟩:=xX hq hcq1;refine lL hs [.v 7 qF] (aj (cK (aa hs [.m 10 0] (fL 11 (ihs pb s hsz (sk s a+1) oM bd v1 b hv1 _ _ hs.g (hs.own 0) (hs.jk 0) hs.f.1) ?_))));rintro _ w6 h7 u8 ⟨tbq5,pq5,rfl,hbq5,hOq5,hSq5,hTq5⟩;replace hs:=(hs.stepM 0 u8 hOq5).to [⟨pb,70,[.string s,nV b,iV bd]⟩] [];replace hmo:=hmo.trans u8;replace hs:=((hs.a_Seg hSq5).add (K:=fun h_=>PtH h_ pq5 v1) hTq5);refine lL hs [.m 3 11] (af (aa hs [.m 12 3,.v 13 qF] (aj (cK (aa hs [.m 14 3,.v 15 (pB tbq5)] (lH 16 (cZ pq5) hs hs.f.2.1 ?_))))));refine nB 17 (Ah 7 pq5 v1 _ _ hs.g hs.f.1) ?_;rintro _ _ _ u12 ⟨pq9,rfl,hTq9⟩;replace hmo:=hmo.trans (u12.m _);replace hs:=hs.step u12;replace hs:=(hs.add (K:=fun h_=>PtH h_ pq9 (nr 7 v1)) hTq9);refine Bl 4 31 ([iV 0,iV 0,qF,uV 0,eS,uV 0,eS,eS,sZ]) hs (fun za _ _ u16 hlo_b13 hs=>?_);replace hlo_b13:=Nat.le_trans hmo.gr.size hlo_b13;replace hmo:=hmo.trans (u16.m _);refine oY 0 0 (cu pq9) hs (fun _ pu hs=>?_);replace hmo:=hmo.put2 pu hlo_b13 g hs.g;refine aT (lL hs [.m 2 4] (lN (kX ?_)));obtain ⟨zb,hs,hmo,sg19⟩:=hs.pubM hmo 0 hlo_b13;replace hs:=hs.to [⟨pb,70,[.string s,nV b,iV bd]⟩] [];have sg21:Seg zb za 0 (cu pq9):=sg19;replace hs:=hs.a_Seg sg21;exact hs.retM hmo [] (pB za) (by rw[ht_];exact ⟨za,pq9,rfl,by first|assumption|omega,hs.own 0,hs.f.1,hs.f.2.1⟩)
 replace hs:=(hs.stepM 0 u4 hOq1).to [⟨pb,70,[.string s,nV (sk s a),iV bd]⟩] [];replace hmo:=hmo.trans u4;have hcF:=hcq1;refine lL hs [.v 7 qT] (ao (aa hs [.m 8 0] (fL 9 (ihp pb s hsz (sk s a) oM bd t b (r5 hq hcF) _ _ hs.g (hs.own 0) (hs.jk 0) hs.f.1) ?_)));rintro _ _ _ u25 ⟨tbq22,pq22,rfl,hbq22,hOq22,hSq22,hTq22⟩;replace hs:=(hs.stepM 0 u25 hOq22).to [⟨pb,70,[.string s,nV b,iV bd]⟩] [];replace hmo:=hmo.trans u25;replace hs:=((hs.a_Seg hSq22).add (K:=fun h_=>PtH h_ pq22 t) hTq22);exact lL hs [.m 2 9] (lN (kX (hs.retM hmo [] (pB tbq22) (by exact ⟨tbq22,pq22,rfl,by first|assumption|omega,hs.own 0,hs.f.2.1,hs.f.1⟩))))
end
theorem Hn (c:Nat)(hc:c<256)(w:World)(h:Hp)(g:G w h):CV 206 #[.int .u8 (c:Nat)] w h (.bool (kC c)):=by
 have hs:=sS g;refine go Tryz.func206 [(0,.int .u8 (c:Nat))] rfl (aa hs [.v 2 qF] (aT (lL hs [.m 3 0] (ag 4 hs (i6 c hc _ _ hs.g) (fun w1 h2 hs=>?_)))));cases hb3:(decide (48≤c∧c≤57))
 ·
  have phb3:=oF hb3;refine lL hs [.m 5 4,.m 6 0] ?_;cases hb4:((c:Int) == (46:Int))
  ·
   have phb4:=ah hb4;exact lB 7 hb4 (lL hs [.v 8 qF,.m 2 8] (ae hs [] qF (congrArg Value.bool (decide_eq_false oM).symm)))
  have phb4:=eq_of_beq hb4;exact lB 7 hb4 (lL hs [.v 8 qT,.m 2 8] (ae hs [] qT (congrArg Value.bool (decide_eq_true oM).symm)))
 have phb3:=oT hb3;refine lL hs [.m 5 4] (lG 6 ?_);exact lG 7 (lL hs [.v 8 qT,.m 2 8] (ae hs [] qT (congrArg Value.bool (decide_eq_true oM).symm)))
theorem PtH.setN {h:Hp}{p:PTm}{op n:Int}{q:Rat}{s:ByteArray}{ks:List Tm}(x:PtH h p (.mk op n q s ks))(m:Int):PtH h ⟨p.op,m,p.q,p.s,p.A,p.m,p.c⟩ (.mk op m q s ks):=by
 obtain ⟨d,x⟩:=x
 match d,x with
 | d+1,⟨h1,_,h3,h4,h5,h6,h7⟩=>exact ⟨d+1,h1,rfl,h3,h4,h5,h6,h7⟩
theorem u6 {x:ByteArray}(h:dC x=true):9≤ff x∧ff x≤13:=by
 have h:=oT h
 revert h
 unfold ff
 repeat' split
 all_goals intro h;first|(constructor<;>decide)|exact absurd rfl h
theorem wL {op:Int}(h:9≤op∧op≤13):((op=12∨op=13)∧cC op=2)∨(¬(op=12∨op=13)∧cC op=1):=by
 have:=aG op
 omega
def HP (nf bf:ByteArray→Option Rat)(n:Nat):Prop:=∀ (op:Int),9≤op∧op≤13→∀ (pb:Nat) (s:ByteArray),s.size≤1000000→∀ (a:Nat),a≤s.size→∀ (bd:Int) (t:Tm) (b:Nat),dy nf bf s n (.call op) a=some (.ok t b)→∀ (w:World) (h:Hp),G w h→Own w pb 70 [.string s,nV a,iV bd]→h[pb]?=some bc→Tab h→Calls Tryz.prog 208 #[pB pb,iV op] w (ef pb w h (wu pb s t b bd))
def AV (nf:ByteArray→Option Rat):Prop:=∀ x q,nf x=some q→∀ (w:World) (h:Hp),G w h→Tab h→CV 205 #[.string x] w h (.tuple #[qv q,.bool true])
def DS:Prop:=∀ (x:ByteArray) (k:Nat),x.size≤3→jH x=some k→∀ (w:World) (h:Hp),G w h→CV 176 #[.string x] w h (.tuple #[nv k,.bool true])
def GJ (bf:ByteArray→Option Rat):Prop:=∀ (pb:Nat) (s:ByteArray),s.size≤1000000→∀ (a:Nat),a≤s.size→∀ (bd:Int) (q:Rat),aF s a=91→rn lu s (a+1)≠s.size→bf (s.extract (a+1) (rn lu s (a+1)))=some q→∀ (w:World) (h:Hp),G w h→Own w pb 70 [.string s,nV a,iV bd]→h[pb]?=some bc→Tab h→Calls Tryz.prog 209 #[pB pb] w (ef pb w h (wu pb s (j6 q) (rn lu s (a+1)+1) bd))
theorem s0:GJ (fun _=>none):=fun _ _ _ _ _ _ _ _ _ h=>(by cases h)
section
variable {nf bf:ByteArray→Option Rat} (n:Nat)
theorem Cf  (hnp:DS)(iha:PC nf bf 174 n .atom)(pb:Nat)(s:ByteArray)(hsz:s.size≤1000000)(a:Nat)(ha:a≤s.size)(bd:Int)(t:Tm)(b:Nat)(hq:dy nf bf s (n+1) .pow a=some (.ok t b))(w:World)(h:Hp)(g:G w h)(ho:Own w pb 70 [.string s,nV a,iV bd])(hj:h[pb]?=some bc)(tb:Tab h):Calls Tryz.prog 139 #[pB pb] w (ef pb w h (wu pb s t b bd)):=by
 have hmo:UpM [pb] w h w h:=UpM.refl g;obtain ⟨wz,hz0_,hs⟩:=SS.at_ g ho hj;obtain ⟨v1,e1,hv1,hP0,hP1⟩:=xy hq;replace hs:=(hs.aB tb);refine go Tryz.func139 [(0,pB pb)] rfl (aa hs [.v 2 (.pointer none)] (aT (lL hs [.m 12 0] (fL 13 (iha pb s hsz a ha bd v1 e1 hv1 _ _ hs.g (hs.own 0) (hs.jk 0) hs.f.1) ?_))));rintro _ w2 h3 u4 ⟨tbq1,pq1,rfl,hbq1,hOq1,hSq1,hTq1⟩;replace hs:=(hs.stepM 0 u4 hOq1).to [⟨pb,70,[.string s,nV e1,iV bd]⟩] [];replace hmo:=hmo.trans u4;replace hs:=((hs.a_Seg hSq1).add (K:=fun h_=>PtH h_ pq1 v1) hTq1);refine lL hs [.m 3 13] (af (aa hs [.m 14 3,.v 15 qF,.m 16 15,.m 17 0] ?_));have hskq5:=iq (s:=s) (a:=e1) oM;refine fL 18 (me pb s hsz e1 oM bd 94 kD _ _ hs.g (hs.own 0) (hs.jk 0) hs.f.r.1) ?_;rintro _ w6 h7 u8 (⟨rfl,hcq5,hlq5,hOq5⟩|⟨rfl,hcq5,hOq5⟩)
 ·
  replace hs:=(hs.stepM 0 u8 hOq5).to [⟨pb,70,[.string s,nV (sk s e1+1),iV bd]⟩] [];replace hmo:=hmo.trans u8;have zb:=hcq5;obtain ⟨k,hnat,hbe_,hb3_,ht_⟩:=xQ (hP1 zb);refine lL hs [.v 19 qF,.v 20 qF] (aj (cK (aa hs [.m 22 0] ?_)));have hskq9:=iq (s:=s) (a:=(sk s e1+1)) oM;refine fL 23 (me pb s hsz (sk s e1+1) oM bd 45 kD _ _ hs.g (hs.own 0) (hs.jk 0) hs.f.r.1) ?_;rintro _ _ _ u12 (⟨rfl,hcq9,hlq9,hOq9⟩|⟨rfl,hcq9,hOq9⟩)
  ·
   replace hs:=(hs.stepM 0 u12 hOq9).to [⟨pb,70,[.string s,nV (sk s (sk s e1+1)+1),iV bd]⟩] [];replace hmo:=hmo.trans u12;rw[if_pos hcq9] at hnat hbe_ hb3_ ht_
   generalize hB1:sk s (sk s (sk s e1+1)+1)=B at hnat hbe_ hb3_ ht_
   rw[←Int.zero_sub] at ht_
   refine lL hs [.m 4 23] (aT (lL hs [.m 24 0] ?_));have hskB:=iq (s:=s) (a:=(sk s (sk s e1+1)+1)) oM;refine fL 25 (om pb s hsz (sk s (sk s e1+1)+1) oM bd _ _ hs.g (hs.own 0) (hs.jk 0) hs.f.r.1) ?_;rintro _ _ _ u15 ⟨rfl,hOp⟩;rw[hB1] at hOp hskB
   rw[hB1];replace hs:=(hs.stepM 0 u15 hOp).to [⟨pb,70,[.string s,nV B,iV bd]⟩] [];replace hmo:=hmo.trans u15;have hdge:=B9 jK s B;have hdgl:=nS (p:=jK) (s:=s) (a:=B) hskB;rw[←hbe_] at hdge hdgl
   have hxs:(s.extract B b).size=b-B:=by rw[ByteArray.size_extract];omega
   have hk9:=qe hnat oM;refine aT (lL hs [.m 26 0,.v 27 (pB pb),.v 28 (qP pb 1),.o 29 (nV B) 0 1 1,.m 5 29] (aT (lL hs [.m 30 0] (fL 31 (xF 141 jK (fun _ _=>by kernel_rfl) (fun c hc w h g=>i6 c hc w h g) pb s hsz B oM bd _ _ hs.g (hs.own 0) (hs.jk 0) hs.f.r.1) ?_))));rintro _ _ _ u18 ⟨rfl,hOr⟩;rw[←hbe_] at hOr
   rw[←hbe_];replace hs:=(hs.stepM 0 u18 hOr).to [⟨pb,70,[.string s,nV b,iV bd]⟩] [];replace hmo:=hmo.trans u18;refine lL hs [.m 6 31] (af (aa hs [.m 32 6,.v 33 (nV ((s.extract B b).size))] ?_));have zd:(decide ((3:Int)<(((s.extract B b).size:Nat):Int)))=false:=decide_eq_false oM;refine lB 34 zd (aj (cK (aa hs [.m 39 6] (nB 40 (hnp (s.extract B b) k oM hnat _ _ hs.g) ?_))));rintro _ _ _ u22 rfl;replace hmo:=hmo.trans (u22.m _);replace hs:=hs.step u22;refine lL hs [.m 38 40,.v 41 (nv k),.v 42 qT] (Bl 7 24 ([uV 0,eS]) hs (fun zf _ _ u26 hlo_b23 hs=>?_));replace hlo_b23:=Nat.le_trans hmo.gr.size hlo_b23;replace hmo:=hmo.trans (u26.m _);refine oY 0 0 (nc k) hs (fun _ pu hs=>?_);replace hmo:=hmo.put2 pu hlo_b23 g hs.g;refine lL hs [.m 8 42] (af (aa hs [.m 43 8,.v 44 qF] (aj (cK (aa hs [.o 49 (nv k) 0 0 2] (nB 50 (iQ k oM _ _ hs.g) ?_))))));rintro _ _ _ u30 rfl;replace hmo:=hmo.trans (u30.m _);replace hs:=hs.step u30;refine lL hs [.m 48 50,.v 51 (mV k),.v 52 qT,.m 9 51,.m 10 52] (lN (bx [(2,.pointer none),(3,pB tbq1),(4,qT),(9,mV k)] ?_));refine aa hs [.m 53 3,.v 54 (pB tbq1)] (lH 55 (cZ pq1) hs hs.f.2.1 ?_);refine nB 56 (Ah 8 pq1 v1 _ _ hs.g hs.f.1) ?_;rintro _ _ _ u34 ⟨pq31,rfl,hTq31⟩;replace hmo:=hmo.trans (u34.m _);replace hs:=hs.step u34;replace hs:=(hs.add (K:=fun h_=>PtH h_ pq31 (nr 8 v1)) hTq31);refine Bl 11 31 ([iV 0,iV 0,qF,uV 0,eS,uV 0,eS,eS,sZ]) hs (fun za _ _ u38 hlo_b35 hs=>?_);replace hlo_b35:=Nat.le_trans hmo.gr.size hlo_b35;replace hmo:=hmo.trans (u38.m _);refine oY 0 0 (cu pq31) hs (fun _ pu hs=>?_);replace hmo:=hmo.put2 pu hlo_b35 g hs.g;refine aT (lL hs [.m 57 9] (lV 58 (nV k) ?_ (hr:=rS ((k:Int)) kR (pH oM oM))));refine lL hs [.v 59 (qP za 1)] (oY 0 1 ([nV k]) hs (fun _ pu hs=>?_));replace hmo:=hmo.put2 pu hlo_b35 g hs.g;refine af (aa hs [.m 60 4] (ao (kQ (lL hs [.v 61 (qP za 1),.o 62 (nV k) 0 1 1] (lI 63 (0-(k:Nat)) ?_)))));refine lL hs [.v 64 (qP za 1)] (oY 0 1 ([iV (0-(k:Nat))]) hs (fun _ pu hs=>?_));replace hmo:=hmo.put2 pu hlo_b35 g hs.g;refine aT (lL hs [.m 2 11] (lN (kX ?_)));obtain ⟨zg,hs,hmo,sg43⟩:=hs.pubM hmo 0 hlo_b35;replace hs:=hs.to [⟨zf,24,nc k⟩,⟨pb,70,[.string s,nV b,iV bd]⟩] [];have sg45:Seg zg za 0 (cu ⟨pq31.op,0-(k:Nat),pq31.q,pq31.s,pq31.A,pq31.m,pq31.c⟩):=sg43;replace hs:=hs.a_Seg sg45;exact hs.retM hmo [] (pB za) (by rw[ht_];exact ⟨za,⟨pq31.op,0-(k:Nat),pq31.q,pq31.s,pq31.A,pq31.m,pq31.c⟩,rfl,by first|assumption|omega,hs.own 1,hs.f.1,(PtH.setN hs.f.2.1 _)⟩)
  replace hs:=(hs.stepM 0 u12 hOq9).to [⟨pb,70,[.string s,nV (sk s (sk s e1+1)),iV bd]⟩] [];replace hmo:=hmo.trans u12;rw[if_neg hcq9] at hnat hbe_ hb3_ ht_
  generalize hB1:sk s (sk s (sk s e1+1))=B at hnat hbe_ hb3_ ht_
  refine lL hs [.m 4 23] (aT (lL hs [.m 24 0] ?_));have hskB:=iq (s:=s) (a:=(sk s (sk s e1+1))) oM;refine fL 25 (om pb s hsz (sk s (sk s e1+1)) oM bd _ _ hs.g (hs.own 0) (hs.jk 0) hs.f.r.1) ?_;rintro _ _ _ u48 ⟨rfl,hOp⟩;rw[hB1] at hOp hskB
  rw[hB1];replace hs:=(hs.stepM 0 u48 hOp).to [⟨pb,70,[.string s,nV B,iV bd]⟩] [];replace hmo:=hmo.trans u48;have hdge:=B9 jK s B;have hdgl:=nS (p:=jK) (s:=s) (a:=B) hskB;rw[←hbe_] at hdge hdgl
  have hxs:(s.extract B b).size=b-B:=by rw[ByteArray.size_extract];omega
  have hk9:=qe hnat oM;refine aT (lL hs [.m 26 0,.v 27 (pB pb),.v 28 (qP pb 1),.o 29 (nV B) 0 1 1,.m 5 29] (aT (lL hs [.m 30 0] (fL 31 (xF 141 jK (fun _ _=>by kernel_rfl) (fun c hc w h g=>i6 c hc w h g) pb s hsz B oM bd _ _ hs.g (hs.own 0) (hs.jk 0) hs.f.r.1) ?_))));rintro _ _ _ u51 ⟨rfl,hOr⟩;rw[←hbe_] at hOr
  rw[←hbe_];replace hs:=(hs.stepM 0 u51 hOr).to [⟨pb,70,[.string s,nV b,iV bd]⟩] [];replace hmo:=hmo.trans u51;refine lL hs [.m 6 31] (af (aa hs [.m 32 6,.v 33 (nV ((s.extract B b).size))] ?_));have ze:(decide ((3:Int)<(((s.extract B b).size:Nat):Int)))=false:=decide_eq_false oM;refine lB 34 ze (aj (cK (aa hs [.m 39 6] (nB 40 (hnp (s.extract B b) k oM hnat _ _ hs.g) ?_))));rintro _ _ _ u55 rfl;replace hmo:=hmo.trans (u55.m _);replace hs:=hs.step u55;refine lL hs [.m 38 40,.v 41 (nv k),.v 42 qT] (Bl 7 24 ([uV 0,eS]) hs (fun zi _ _ u59 hlo_b56 hs=>?_));replace hlo_b56:=Nat.le_trans hmo.gr.size hlo_b56;replace hmo:=hmo.trans (u59.m _);refine oY 0 0 (nc k) hs (fun _ pu hs=>?_);replace hmo:=hmo.put2 pu hlo_b56 g hs.g;refine lL hs [.m 8 42] (af (aa hs [.m 43 8,.v 44 qF] (aj (cK (aa hs [.o 49 (nv k) 0 0 2] (nB 50 (iQ k oM _ _ hs.g) ?_))))));rintro _ _ _ u63 rfl;replace hmo:=hmo.trans (u63.m _);replace hs:=hs.step u63;refine lL hs [.m 48 50,.v 51 (mV k),.v 52 qT,.m 9 51,.m 10 52] (lN (bx [(2,.pointer none),(3,pB tbq1),(4,qF),(9,mV k)] ?_));refine aa hs [.m 53 3,.v 54 (pB tbq1)] (lH 55 (cZ pq1) hs hs.f.2.1 ?_);refine nB 56 (Ah 8 pq1 v1 _ _ hs.g hs.f.1) ?_;rintro _ _ _ u67 ⟨pq64,rfl,hTq64⟩;replace hmo:=hmo.trans (u67.m _);replace hs:=hs.step u67;replace hs:=(hs.add (K:=fun h_=>PtH h_ pq64 (nr 8 v1)) hTq64);refine Bl 11 31 ([iV 0,iV 0,qF,uV 0,eS,uV 0,eS,eS,sZ]) hs (fun zc _ _ u71 hlo_b68 hs=>?_);replace hlo_b68:=Nat.le_trans hmo.gr.size hlo_b68;replace hmo:=hmo.trans (u71.m _);refine oY 0 0 (cu pq64) hs (fun _ pu hs=>?_);replace hmo:=hmo.put2 pu hlo_b68 g hs.g;refine aT (lL hs [.m 57 9] (lV 58 (nV k) ?_ (hr:=rS ((k:Int)) kR (pH oM oM))));refine lL hs [.v 59 (qP zc 1)] (oY 0 1 ([nV k]) hs (fun _ pu hs=>?_));replace hmo:=hmo.put2 pu hlo_b68 g hs.g;refine af (aa hs [.m 60 4] (aj (cK (aa hs [.m 2 11] (lN (kX ?_))))));obtain ⟨zj,hs,hmo,sg75⟩:=hs.pubM hmo 0 hlo_b68;replace hs:=hs.to [⟨zi,24,nc k⟩,⟨pb,70,[.string s,nV b,iV bd]⟩] [];have sg77:Seg zj zc 0 (cu ⟨pq64.op,(k:Nat),pq64.q,pq64.s,pq64.A,pq64.m,pq64.c⟩):=sg75;replace hs:=hs.a_Seg sg77;exact hs.retM hmo [] (pB zc) (by rw[ht_];exact ⟨zc,⟨pq64.op,(k:Nat),pq64.q,pq64.s,pq64.A,pq64.m,pq64.c⟩,rfl,by first|assumption|omega,hs.own 1,hs.f.1,(PtH.setN hs.f.2.1 _)⟩)
 replace hs:=(hs.stepM 0 u8 hOq5).to [⟨pb,70,[.string s,nV (sk s e1),iV bd]⟩] [];replace hmo:=hmo.trans u8;have zb:=hcq5;refine lL hs [.v 19 qT,.v 20 qT] (ao (aa hs [.m 21 3,.m 2 21] (lN (kX ?_))));obtain ⟨ht_,hb_⟩:=hP0 zb;exact hs.retM hmo [] (pB tbq1) (by rw[ht_];rw[hb_];exact ⟨tbq1,pq1,rfl,by first|assumption|omega,hs.own 0,hs.f.2.1,hs.f.1⟩)
theorem Fp  (hnf:AV nf)(hbf:GJ bf)(ihc:HP nf bf n)(ihs:PC nf bf 15 n .sum)(pb:Nat)(s:ByteArray)(hsz:s.size≤1000000)(a:Nat)(ha:a≤s.size)(bd:Int)(t:Tm)(b:Nat)(hq:dy nf bf s (n+1) .atom a=some (.ok t b))(w:World)(h:Hp)(g:G w h)(ho:Own w pb 70 [.string s,nV a,iV bd])(hj:h[pb]?=some bc)(tb:Tab h):Calls Tryz.prog 174 #[pB pb] w (ef pb w h (wu pb s t b bd)):=by
 have hmo:UpM [pb] w h w h:=UpM.refl g;obtain ⟨wz,hz0_,hs⟩:=SS.at_ g ho hj;replace hs:=(hs.aB tb);refine go Tryz.func174 [(0,pB pb)] rfl (aa hs [.v 2 (.pointer none)] (aT (lL hs [.m 12 0] ?_)));have hskq1:=iq (s:=s) (a:=a) oM;refine fL 13 (om pb s hsz a ha bd _ _ hs.g (hs.own 0) (hs.jk 0) hs.f.1) ?_;rintro _ w2 h3 u4 ⟨rfl,hOq1⟩;replace hs:=(hs.stepM 0 u4 hOq1).to [⟨pb,70,[.string s,nV (sk s a),iV bd]⟩] [];replace hmo:=hmo.trans u4;refine lL hs [.m 3 13] (aT (lL hs [.m 14 0,.v 15 (pB pb),.v 16 (qP pb 1),.o 17 (nV (sk s a)) 0 1 1,.m 4 17] (af (kZ (CG.join (fun Γ w_=>∃ (ze:Bool) (h_:Hp),Γ=[(0,pB pb),(2,.pointer none),(3,.int .u8 (aF s (sk s a):Nat)),(4,nV (sk s a)),(18,.bool ze)]∧SS wz hz0_ w_ h_ [⟨pb,70,[.string s,nV (sk s a),iV bd]⟩] [] [fun h_=>Tab h_]∧(ze=true→¬¬((48≤aF s (sk s a)∧aF s (sk s a)≤57)∨aF s (sk s a)=46))∧(ze=false→kC (aF s (sk s a))=false)∧UpM [pb] w h w_ h_) ?_ ?_)))))
 ·
  refine kQ (lL hs [.m 19 3] (nB 20 (i6 (aF s (sk s a)) (cW _ _) _ _ hs.g) ?_));rintro _ w5 h6 u7 rfl;replace hmo:=hmo.trans (u7.m _);replace hs:=hs.step u7;cases hb8:(decide (48≤aF s (sk s a)∧aF s (sk s a)≤57))
  ·
   have phb8:=oF hb8;refine lL hs [.m 21 20,.m 22 3] ?_;cases hb9:(((aF s (sk s a):Nat):Int) == (46:Int))
   ·
    have phb9:=ah hb9;refine lB 23 hb9 (lL hs [.v 24 qF,.m 18 24] (lD ?_));intro a_ ka;exact ⟨_,⟨false,h6,rfl,hs.to _ _,(fun h_=>absurd h_ kD),(fun _=>decide_eq_false oM),hmo⟩,ka.to _ kR⟩
   have phb9:=eq_of_beq hb9;refine lB 23 hb9 (lL hs [.v 24 qT,.m 18 24] (lD ?_));intro a_ ka;exact ⟨_,⟨true,h6,rfl,hs.to _ _,(fun _=>by omega),(fun h_=>absurd h_ kD),hmo⟩,ka.to _ kR⟩
  have phb8:=oT hb8;refine lL hs [.m 21 20] (lG 22 ?_);refine lG 23 (lL hs [.v 24 qT,.m 18 24] (lD ?_));intro a_ ka;exact ⟨_,⟨true,h6,rfl,hs.to _ _,(fun _=>by omega),(fun h_=>absurd h_ kD),hmo⟩,ka.to _ kR⟩
 rintro _ _ ⟨ze,_,rfl,hs,zo,hD18,hmo⟩;cases za:(ze)
 ·
  try rw[za] at hs
  try rw[za]
  refine cM (CG.join (fun Γ w_=>∃ (zf:Bool) (h_:Hp),Γ=[(0,pB pb),(2,.pointer none),(3,.int .u8 (aF s (sk s a):Nat)),(4,nV (sk s a)),(38,.bool zf)]∧SS wz hz0_ w_ h_ [⟨pb,70,[.string s,nV (sk s a),iV bd]⟩] [] [fun h_=>Tab h_]∧(zf=true→jP (aF s (sk s a))∨aF s (sk s a)=95)∧(zf=false→¬(jP (aF s (sk s a))∨aF s (sk s a)=95))∧UpM [pb] w h w_ h_) ?_ ?_)
  ·
   refine kQ (lL hs [.m 39 3] (nB 40 (kf (aF s (sk s a)) (cW _ _) _ _ hs.g) ?_));rintro _ _ zi u24 rfl;replace hmo:=hmo.trans (u24.m _);replace hs:=hs.step u24;cases zj:(decide (jP (aF s (sk s a))))
   ·
    have zm:=oF zj;refine lL hs [.m 41 40,.m 42 3] ?_;cases zb:(((aF s (sk s a):Nat):Int) == (95:Int))
    ·
     have zn:=ah zb;refine lB 43 zb (lL hs [.v 44 qF,.m 38 44] (lD ?_));intro a_ ka;exact ⟨_,⟨false,zi,rfl,hs.to _ _,(fun h_=>absurd h_ kD),(fun _ h_=>by rcases h_ with h_|h_;exact absurd h_ aM;omega),hmo⟩,ka.to _ kR⟩
    have zn:=eq_of_beq zb;refine lB 43 zb (lL hs [.v 44 qT,.m 38 44] (lD ?_));intro a_ ka;exact ⟨_,⟨true,zi,rfl,hs.to _ _,(fun _=>by first|exact .inl aM|exact .inr oM),(fun h_=>absurd h_ kD),hmo⟩,ka.to _ kR⟩
   have zm:=oT zj;refine lL hs [.m 41 40] (lG 42 ?_);refine lG 43 (lL hs [.v 44 qT,.m 38 44] (lD ?_));intro a_ ka;exact ⟨_,⟨true,zi,rfl,hs.to _ _,(fun _=>by first|exact .inl aM|exact .inr oM),(fun h_=>absurd h_ kD),hmo⟩,ka.to _ kR⟩
  rintro _ _ ⟨zf,_,rfl,hs,hW38,hN38,hmo⟩;cases zc:(zf)
  ·
   try rw[zc] at hs
   try rw[zc]
   refine cM (aa hs [.m 67 3] ?_)
   rcases Decidable.em (aF s (sk s a)=91) with zg|zg
   ·
    obtain ⟨hne9,q9,hbq9,ht_,hbe_⟩:=Dy hq (hD18 aM) (hN38 aM) zg;have zp:(((aF s (sk s a):Nat):Int) == (91:Int))=true:=pj oM;refine lB 68 zp (lL hs [.m 66 68] (ao (aa hs [.m 69 0] (fL 70 (hbf pb s hsz (sk s a) oM bd q9 zg hne9 hbq9 _ _ hs.g (hs.own 0) (hs.jk 0) hs.f.1) ?_))));rintro _ _ _ u43 ⟨tbq40,pq40,rfl,hbq40,hOq40,hSq40,hTq40⟩;replace hs:=(hs.stepM 0 u43 hOq40).to [⟨pb,70,[.string s,nV (rn lu s (sk s a+1)+1),iV bd]⟩] [];replace hmo:=hmo.trans u43;replace hs:=((hs.a_Seg hSq40).add (K:=fun h_=>PtH h_ pq40 (j6 q9)) hTq40);exact lL hs [.m 2 70] (lN (kX (hs.retM hmo [] (pB tbq40) (by rw[ht_];rw[hbe_];exact ⟨tbq40,pq40,rfl,by first|assumption|omega,hs.own 0,hs.f.2.1,hs.f.1⟩))))
   have zq:(((aF s (sk s a):Nat):Int) == (91:Int))=false:=ft oM;refine lB 68 zq (lL hs [.m 66 68] (aj (aa hs [.m 72 3] ?_)));have zt:aF s (sk s a)=40:=Decidable.byContradiction fun e_=>Dr hq (hD18 aM) (hN38 aM) zg e_
   obtain ⟨e1,hq1,hd1,hbe_⟩:=wW hq (hD18 aM) (hN38 aM) zg zt;have hin_:=vN (s:=s) (a:=sk s a) oM;have zs:(((aF s (sk s a):Nat):Int) == (40:Int))=true:=pj oM;refine lB 73 zs (lL hs [.m 71 73] (ao (aa hs [.m 74 0,.v 75 (pB pb),.v 76 (qP pb 1),.o 77 (nV (sk s a)) 0 1 1] (bB 78 ((sk s a:Nat)+1) ((sk s a)+1) ?_))));refine lL hs [.v 79 (pB pb),.v 80 (qP pb 1)] (oY 0 1 ([nV ((sk s a)+1)]) hs (fun _ pu hs=>?_));replace hmo:=hmo.put pu (List.mem_singleton.2 rfl) hs.g;refine aT (lL hs [.m 81 0] (fL 82 (ihs pb s hsz ((sk s a)+1) oM bd t e1 hq1 _ _ hs.g (hs.own 0) (hs.jk 0) hs.f.1) ?_));rintro _ _ _ u50 ⟨tbq47,pq47,rfl,hbq47,hOq47,hSq47,hTq47⟩;replace hs:=(hs.stepM 0 u50 hOq47).to [⟨pb,70,[.string s,nV e1,iV bd]⟩] [];replace hmo:=hmo.trans u50;replace hs:=((hs.a_Seg hSq47).add (K:=fun h_=>PtH h_ pq47 t) hTq47);refine lL hs [.m 11 82] (af (aa hs [.m 83 11,.v 84 qT,.m 85 84,.m 86 0] (fL 87 (kM pb s hsz e1 oM bd 41 kD hd1 _ _ hs.g (hs.own 0) (hs.jk 0) hs.f.r.1) ?_)));rintro _ _ _ u54 ⟨rfl,hlq51,hOq51⟩;replace hs:=(hs.stepM 0 u54 hOq51).to [⟨pb,70,[.string s,nV (sk s e1+1),iV bd]⟩] [];replace hmo:=hmo.trans u54;exact lL hs [.v 88 qF,.v 89 qF] (aj (cK (aa hs [.m 96 11,.m 2 96] (lN (kX (hs.retM hmo [] (pB tbq47) (by rw[hbe_];exact ⟨tbq47,pq47,rfl,by first|assumption|omega,hs.own 0,hs.f.2.1,hs.f.1⟩)))))))
  try rw[zc] at hs
  try rw[zc]
  refine bS (aa hs [.m 45 0] ?_);have hcW:=hW38 aM;have hbl_:=nS (p:=dZ) (s:=s) (a:=sk s a) oM;refine fL 46 (xF 102 dZ (fun _ _=>by kernel_rfl) (fun c hc w h g=>nM c hc w h g) pb s hsz (sk s a) oM bd _ _ hs.g (hs.own 0) (hs.jk 0) hs.f.1) ?_;rintro _ _ _ u57 ⟨rfl,hOr⟩;replace hs:=(hs.stepM 0 u57 hOr).to [⟨pb,70,[.string s,nV (rn dZ s (sk s a)),iV bd]⟩] [];replace hmo:=hmo.trans u57;refine lL hs [.m 8 46] (af (aE (nB 48 (qi _ _ hs.g) ?_)));rintro _ _ _ u60 ⟨bm,rfl,hcm⟩;replace hmo:=hmo.trans (u60.m _);replace hs:=hs.step u60;replace hs:=(hs.add (K:=fun h_=>MapS h_ bm iG) hcm);refine lL hs [.m 49 8] (GN 50 77 9 3 (s.extract (sk s a) (rn dZ s (sk s a))) true (iV (ff (s.extract (sk s a) (rn dZ s (sk s a))))) ((dC (s.extract (sk s a) (rn dZ s (sk s a))))) hs hs.f.1 ?_ (hf:=(by rcases qZ (s.extract (sk s a) (rn dZ s (sk s a))) with ⟨i_,e1_,e2_⟩|⟨e1_,e2_,e3_⟩;exact .inl ⟨i_,e1_,e2_⟩;exact .inr ⟨e1_,e2_,fun _=>by rw[e3_];kernel_rfl⟩)));refine lL hs [.m 47 50,.v 51 (iV (ff (s.extract (sk s a) (rn dZ s (sk s a))))),.v 52 (.bool (dC (s.extract (sk s a) (rn dZ s (sk s a))))),.m 9 51,.m 10 52] (aT (lL hs [.m 53 10] (lN ?_)));cases zd:((dC (s.extract (sk s a) (rn dZ s (sk s a)))))
  ·
   try rw[zd] at hs
   try rw[zd]
   refine cM (cK (cQ (aa hs [.m 57 8] ?_)));obtain ⟨hnm,ht_,hbe_⟩:=xo hq (hD18 aM) hcW aM;refine nB 58 ((by have q_:=vV (s.extract (sk s a) (rn dZ s (sk s a))) (by rw[ByteArray.size_extract];omega) _ _ hs.g;rw[hnm] at q_;exact q_)) ?_;rintro _ _ _ u64 rfl;replace hmo:=hmo.trans (u64.m _);replace hs:=hs.step u64;refine lL hs [.v 59 qF] (aj (cK (aa hs [.m 63 8,.v 64 (.agg #[iV 2,iV 0,qF,uV 0,eS,uV 0,eS,.string (s.extract (sk s a) (rn dZ s (sk s a))),sZ])] (Bl 65 31 ([iV 2,iV 0,qF,uV 0,eS,uV 0,eS,.string (s.extract (sk s a) (rn dZ s (sk s a))),sZ]) hs (fun zk _ _ u68 hlo_b65 hs=>?_)))));replace hlo_b65:=Nat.le_trans hmo.gr.size hlo_b65;replace hmo:=hmo.trans (u68.m _);refine lL hs [.m 2 65] (lN (kX ?_));obtain ⟨zu,hs,hmo,sg70⟩:=hs.pubM hmo 0 hlo_b65;replace hs:=hs.to [⟨pb,70,[.string s,nV (rn dZ s (sk s a)),iV bd]⟩] [];have sg72:Seg zu zk 0 (cu ⟨2,0,0,(s.extract (sk s a) (rn dZ s (sk s a))),none,0,0⟩):=sg70;replace hs:=hs.a_Seg sg72;exact hs.retM hmo [] (pB zk) (by rw[ht_];rw[hbe_];exact ⟨zk,⟨2,0,0,(s.extract (sk s a) (rn dZ s (sk s a))),none,0,0⟩,rfl,by first|assumption|omega,hs.own 0,hs.f.1,PtH.nam⟩)
  try rw[zd] at hs
  try rw[zd]
  refine bS (aa hs [.m 54 0,.m 55 9] (fL 56 (ihc (ff (s.extract (sk s a) (rn dZ s (sk s a)))) (u6 aM) pb s hsz (rn dZ s (sk s a)) oM bd t b (Ce hq (hD18 aM) hcW aM) _ _ hs.g (hs.own 0) (hs.jk 0) hs.f.2.1) ?_));rintro _ _ _ u76 ⟨tbq73,pq73,rfl,hbq73,hOq73,hSq73,hTq73⟩;replace hs:=(hs.stepM 0 u76 hOq73).to [⟨pb,70,[.string s,nV b,iV bd]⟩] [];replace hmo:=hmo.trans u76;replace hs:=((hs.a_Seg hSq73).add (K:=fun h_=>PtH h_ pq73 t) hTq73);exact lL hs [.m 2 56] (lN (kX (hs.retM hmo [] (pB tbq73) (by exact ⟨tbq73,pq73,rfl,by first|assumption|omega,hs.own 0,hs.f.2.1,hs.f.1⟩))))
 try rw[za] at hs
 try rw[za]
 refine bS (aa hs [.m 26 0] ?_);obtain ⟨q,hnq,ht_,hbe_⟩:=xP hq (decide_eq_true (Decidable.byContradiction fun h_=>zo aM h_));have hbl_:=nS (p:=kC) (s:=s) (a:=sk s a) oM;refine fL 27 (xF 206 kC (fun _ _=>by kernel_rfl) (fun c hc w h g=>Hn c hc w h g) pb s hsz (sk s a) oM bd _ _ hs.g (hs.own 0) (hs.jk 0) hs.f.1) ?_;rintro _ _ _ u79 ⟨rfl,hOr⟩;rw[←hbe_] at hOr hbl_
 replace hs:=(hs.stepM 0 u79 hOr).to [⟨pb,70,[.string s,nV b,iV bd]⟩] [];replace hmo:=hmo.trans u79;refine nB 28 (hnf _ _ hnq _ _ hs.g hs.f.1) ?_;rintro _ _ _ u82 rfl;replace hmo:=hmo.trans (u82.m _);replace hs:=hs.step u82;refine lL hs [.m 25 28,.v 29 (qv q),.v 30 qT] (Bl 5 28 ([qF,uV 0,eS,uV 0,eS]) hs (fun zv _ _ u86 hlo_b83 hs=>?_));replace hlo_b83:=Nat.le_trans hmo.gr.size hlo_b83;replace hmo:=hmo.trans (u86.m _);refine oY 0 0 (qc q) hs (fun _ pu hs=>?_);replace hmo:=hmo.put2 pu hlo_b83 g hs.g;refine lL hs [.m 6 30] (af (aa hs [.m 31 6,.v 32 qF] (aj (cK (aa hs [.o 36 (qv q) 0 0 5] (nB 37 (x7 q _ _ hs.g) ?_))))));rintro _ _ _ u91 ⟨pq88,rfl,hTq88⟩;replace hmo:=hmo.trans (u91.m _);replace hs:=hs.step u91;replace hs:=(hs.add (K:=fun h_=>PtH h_ pq88 (j6 q)) hTq88);refine Bl 7 31 ([iV 0,iV 0,qF,uV 0,eS,uV 0,eS,eS,sZ]) hs (fun zl _ _ u95 hlo_b92 hs=>?_);replace hlo_b92:=Nat.le_trans hmo.gr.size hlo_b92;replace hmo:=hmo.trans (u95.m _);refine oY 0 0 (cu pq88) hs (fun _ pu hs=>?_);replace hmo:=hmo.put2 pu hlo_b92 g hs.g;refine aT (lL hs [.m 2 7] (lN (kX ?_)));obtain ⟨zw,hs,hmo,sg98⟩:=hs.pubM hmo 0 hlo_b92;replace hs:=hs.to [⟨zv,28,qc q⟩,⟨pb,70,[.string s,nV b,iV bd]⟩] [];have sg100:Seg zw zl 0 (cu pq88):=sg98;replace hs:=hs.a_Seg sg100;exact hs.retM hmo [] (pB zl) (by rw[ht_];exact ⟨zl,pq88,rfl,by first|assumption|omega,hs.own 1,hs.f.1,hs.f.2.1⟩)
theorem Fn  (op:Int)(hop:9≤op∧op≤13)(ihs:PC nf bf 15 n .sum)(pb:Nat)(s:ByteArray)(hsz:s.size≤1000000)(a:Nat)(ha:a≤s.size)(bd:Int)(t:Tm)(b:Nat)(hq:dy nf bf s (n+1) (.call op) a=some (.ok t b))(w:World)(h:Hp)(g:G w h)(ho:Own w pb 70 [.string s,nV a,iV bd])(hj:h[pb]?=some bc)(tb:Tab h):Calls Tryz.prog 208 #[pB pb,iV op] w (ef pb w h (wu pb s t b bd)):=by
 have hmo:UpM [pb] w h w h:=UpM.refl g;obtain ⟨wz,hz0_,hs⟩:=SS.at_ g ho hj;obtain ⟨zb,u1,e1,hq1,hA,hB⟩:=t7 hq;replace hs:=(hs.aB tb);refine go Tryz.func208 [(0,pB pb),(1,iV op)] rfl (aa hs [.v 4 (.pointer none)] (af (aa hs [.m 8 0] (fL 9 (kM pb s hsz a ha bd 40 kD zb _ _ hs.g (hs.own 0) (hs.jk 0) hs.f.1) ?_))));rintro _ w2 h3 u4 ⟨rfl,hlq1,hOq1⟩;replace hs:=(hs.stepM 0 u4 hOq1).to [⟨pb,70,[.string s,nV (sk s a+1),iV bd]⟩] [];replace hmo:=hmo.trans u4;refine lL hs [.v 10 qF] (aj (cK (aa hs [.m 17 0] (fL 18 (ihs pb s hsz (sk s a+1) oM bd u1 e1 hq1 _ _ hs.g (hs.own 0) (hs.jk 0) hs.f.1) ?_))));rintro _ w6 h7 u8 ⟨tbq5,pq5,rfl,hbq5,hOq5,hSq5,hTq5⟩;replace hs:=(hs.stepM 0 u8 hOq5).to [⟨pb,70,[.string s,nV e1,iV bd]⟩] [];replace hmo:=hmo.trans u8;replace hs:=((hs.a_Seg hSq5).add (K:=fun h_=>PtH h_ pq5 u1) hTq5);refine lL hs [.m 5 18] (af (aa hs [.m 19 5,.v 20 qF] (aj (cK (aa hs [.m 21 1,.m 22 5,.v 23 (pB tbq5)] (lH 24 (cZ pq5) hs hs.f.2.1 ?_))))));refine nB 25 (Ah op pq5 u1 _ _ hs.g hs.f.1) ?_;rintro _ _ _ u12 ⟨pq9,rfl,hTq9⟩;replace hmo:=hmo.trans (u12.m _);replace hs:=hs.step u12;replace hs:=(hs.add (K:=fun h_=>PtH h_ pq9 (nr op u1)) hTq9);refine Bl 6 31 ([iV 0,iV 0,qF,uV 0,eS,uV 0,eS,eS,sZ]) hs (fun za _ _ u16 hlo_b13 hs=>?_);replace hlo_b13:=Nat.le_trans hmo.gr.size hlo_b13;replace hmo:=hmo.trans (u16.m _);refine oY 0 0 (cu pq9) hs (fun _ pu hs=>?_);replace hmo:=hmo.put2 pu hlo_b13 g hs.g;refine af (aa hs [.m 26 1] (nB 27 (qn op _ _ hs.g) ?_));rintro _ _ _ u20 rfl;replace hmo:=hmo.trans (u20.m _);replace hs:=hs.step u20
 rcases wL hop with ⟨ho2,har⟩|⟨ho2,har⟩
 ·
  have zc:((cC op:Int) == (2:Int))=true:=by rw[har];rfl
  refine lB 28 zc ?_;obtain ⟨hA1,v1,f1,hA2,hA3,hA4,hA5⟩:=hA ho2;refine ao (cQ (aa hs [.m 29 0] (fL 30 (kM pb s hsz e1 oM bd 44 kD hA1 _ _ hs.g (hs.own 1) (hs.jk 1) hs.f.r.2.1) ?_)));rintro _ _ _ u25 ⟨rfl,hlq22,hOq22⟩;replace hs:=(hs.stepM 1 u25 hOq22).to [⟨za,31,cu pq9⟩,⟨pb,70,[.string s,nV (sk s e1+1),iV bd]⟩] [];replace hmo:=hmo.trans u25;refine lL hs [.v 31 qF] (aj (cK (aa hs [.m 38 0] (fL 39 (ihs pb s hsz (sk s e1+1) oM bd v1 f1 hA2 _ _ hs.g (hs.own 1) (hs.jk 1) hs.f.r.2.1) ?_))));rintro _ _ _ u29 ⟨tbq26,pq26,rfl,hbq26,hOq26,hSq26,hTq26⟩;replace hs:=(hs.stepM 1 u29 hOq26).to [⟨za,31,cu pq9⟩,⟨pb,70,[.string s,nV f1,iV bd]⟩] [];replace hmo:=hmo.trans u29;replace hs:=((hs.a_Seg hSq26).add (K:=fun h_=>PtH h_ pq26 v1) hTq26);refine lL hs [.m 7 39] (af (aa hs [.m 40 7,.v 41 qF] (aj (cK (cR 8 [] mixed hs aq ?_)))));refine eV 0 42 (iV op) (eV 1 43 (pB tbq5) (eV 2 44 (pB tbq5) (eH 3 45 (cZ pq5) hs hs.f.q.1 (eV 4 46 (pB tbq26) (eV 5 47 (pB tbq26) (eH 6 48 (cZ pq26) hs hs.f.2.1 (GK 7 49 hs hmo (fun _ _ hs=>CU op pq5 pq26 u1 v1 _ _ hs.g hs.f.r.2.1 hs.f.1) ?_)))))));rintro _ _ _ _ _ hmo hs ⟨pq30,rfl,hTq30⟩;replace hs:=(hs.add (K:=fun h_=>PtH h_ pq30 (gE op u1 v1)) hTq30);refine jG hs (fun _ _ u35 hs=>?_);replace hmo:=hmo.trans (u35.m _);refine Hh 8 0 0 (cu pq30) hs (fun _ pu hs=>?_);replace hmo:=hmo.put2 pu hlo_b13 g hs.g;refine tN (cQ (aa hs [.m 50 0] (fL 51 (kM pb s hsz f1 oM bd 41 kD hA3 _ _ hs.g (hs.own 1) (hs.jk 1) hs.f.q.r.1) ?_)));rintro _ _ _ u40 ⟨rfl,hlq37,hOq37⟩;replace hs:=(hs.stepM 1 u40 hOq37).to [⟨za,31,cu pq30⟩,⟨pb,70,[.string s,nV (sk s f1+1),iV bd]⟩] [];replace hmo:=hmo.trans u40;refine lL hs [.v 52 qF] (aj (cK (aa hs [.m 4 6] (lN (kX ?_)))));obtain ⟨ze,hs,hmo,sg42⟩:=hs.pubM hmo 0 hlo_b13;replace hs:=hs.to [⟨pb,70,[.string s,nV (sk s f1+1),iV bd]⟩] [];have sg44:Seg ze za 0 (cu pq30):=sg42;replace hs:=hs.a_Seg sg44;exact hs.retM hmo [] (pB za) (by rw[hA4];rw[hA5];exact ⟨za,pq30,rfl,by first|assumption|omega,hs.own 0,hs.f.1,hs.f.2.1⟩)
 have zd:((cC op:Int) == (2:Int))=false:=by rw[har];rfl
 refine lB 28 zd ?_;obtain ⟨hB1,hB2,hB3⟩:=hB ho2;refine aj (cK (cQ (aa hs [.m 50 0] (fL 51 (kM pb s hsz e1 oM bd 41 kD hB1 _ _ hs.g (hs.own 1) (hs.jk 1) hs.f.r.2.1) ?_))));rintro _ _ _ u49 ⟨rfl,hlq46,hOq46⟩;replace hs:=(hs.stepM 1 u49 hOq46).to [⟨za,31,cu pq9⟩,⟨pb,70,[.string s,nV (sk s e1+1),iV bd]⟩] [];replace hmo:=hmo.trans u49;refine lL hs [.v 52 qF] (aj (cK (aa hs [.m 4 6] (lN (kX ?_)))));obtain ⟨zf,hs,hmo,sg51⟩:=hs.pubM hmo 0 hlo_b13;replace hs:=hs.to [⟨pb,70,[.string s,nV (sk s e1+1),iV bd]⟩] [];have sg53:Seg zf za 0 (cu pq9):=sg51;replace hs:=hs.a_Seg sg53;exact hs.retM hmo [] (pB za) (by rw[hB2];rw[hB3];exact ⟨za,pq9,rfl,by first|assumption|omega,hs.own 0,hs.f.1,hs.f.2.1⟩)
end
section
variable {nf bf:ByteArray→Option Rat} (hnf:AV nf) (hnp:DS) (hbf:GJ bf)
include hnf hnp hbf
def Hs (nf bf:ByteArray→Option Rat)(n:Nat):Prop:=PC nf bf 15 n .sum∧PC nf bf 54 n .prod∧PC nf bf 98 n .sign∧PC nf bf 139 n .pow∧PC nf bf 174 n .atom∧HP nf bf n
theorem GX (n:Nat):Hs nf bf n:=by
  induction n using Nat.strongRecOn with
  | ind n ih =>
    cases n with
    | zero=>exact ⟨fun _ _ _ _ _ _ _ _ h=>(by cases h),fun _ _ _ _ _ _ _ _ h=>(by cases h),fun _ _ _ _ _ _ _ _ h=>(by cases h),fun _ _ _ _ _ _ _ _ h=>(by cases h),fun _ _ _ _ _ _ _ _ h=>(by cases h),fun _ _ _ _ _ _ _ _ _ _ h=>(by cases h)⟩
    | succ n =>
      have i:=ih n (Nat.lt_succ_self n);refine ⟨?_,?_,?_,?_,?_,?_⟩
      · exact fun pb s h1 a h2 bd t b hq w h g ho hj tb=>GT n (fun m hm=>(ih m oM).2.1) pb s h1 a h2 bd t b hq w h g ho hj tb
      · exact fun pb s h1 a h2 bd t b hq w h g ho hj tb=>tY n (fun m hm=>(ih m oM).2.2.1) pb s h1 a h2 bd t b hq w h g ho hj tb
      · exact fun pb s h1 a h2 bd t b hq w h g ho hj tb=>A3 n i.2.2.1 i.2.2.2.1 pb s h1 a h2 bd t b hq w h g ho hj tb
      · exact fun pb s h1 a h2 bd t b hq w h g ho hj tb=>Cf n hnp i.2.2.2.2.1 pb s h1 a h2 bd t b hq w h g ho hj tb
      · exact fun pb s h1 a h2 bd t b hq w h g ho hj tb=>Fp n hnf hbf i.2.2.2.2.2 i.1 pb s h1 a h2 bd t b hq w h g ho hj tb
      · exact fun op hop pb s h1 a h2 bd t b hq w h g ho hj tb=>Fn n op hop i.1 pb s h1 a h2 bd t b hq w h g ho hj tb
end
theorem Gv (a b:Nat)(h1:b≤a)(h2:a<256):IntKind.wrap .u8 ((a:Int)-(b:Int))=((a-b:Nat):Int):=by
 rw[show (a:Int)-(b:Int)=((a-b:Nat):Int) by omega];exact Fa oM oM
theorem m4 {a:Nat}(h:a<18446744073709551616):Wd (if a=0 then [] else [a]):=by
 split
 ·exact Dg.nil
 ·intro x hx
  rw[List.mem_singleton] at hx;rw[hx];exact h
theorem iY (a:Nat):aA (if a=0 then [] else [a])=a:=by
 split
 ·rename_i e;rw[e];rfl
 ·show a+18446744073709551616*0=a;omega
theorem ud {c:UInt8}:∀ (l:List UInt8),(∀ b∈l,b≠c)→Lib.indexByte l c = -1
  | [],_=>rfl
  | b::l,h=>by
    have h1:(b == c)=false:=by simpa using h b List.mem_cons_self
    unfold Lib.indexByte
    rw[h1,ud l (fun b hb=>h b (List.mem_cons_of_mem _ hb))];rfl
theorem AR {s:ByteArray}{b:UInt8}(h:b∈s.data.toList):∃ i,i<s.size∧aF s i=b.toNat:=by
 obtain ⟨i,hi,e⟩:=List.mem_iff_getElem.1 h;refine ⟨i,by simpa using hi,?_⟩
 unfold aF
 rw[List.getD_eq_getElem?_getD,List.getElem?_eq_getElem hi,e];rfl
theorem wy (x:ByteArray)(c:UInt8)(hn:∀ i,i<x.size→aF x i≠c.toNat)(w:World)(h:Hp)(g:G w h):CV 237 #[.string x,.string ⟨#[c]⟩] w h (iV (-1)):=by
 have q:=Ret.of_same g (Tryz.stringslite_Index_one x c w)
 rw[ud _ (fun b hb e=>by
  obtain ⟨i,hi,h1⟩:=AR hb;exact hn i hi (by rw[h1,e]))] at q
 exact q
theorem Eu {x:ByteArray}{c:UInt8}(h:aF x 0≠c.toNat):Lib.hasPrefix x.data.toList [c]=false:=by
  unfold Lib.hasPrefix
  unfold aF at h
  cases e:x.data.toList with
  | nil=>rfl
  | cons b l =>
    rw[e] at h
    have:b≠c:=fun e2=>h (by rw[e2];rfl)
    simp[List.isPrefixOf,Ne.symm this]
theorem oS (x:ByteArray)(c:UInt8)(hn:aF x 0≠c.toNat)(w:World)(h:Hp)(g:G w h):CV 231 #[.string x,.string ⟨#[c]⟩] w h (.tuple #[.string x,.bool false]):=by
 have q:=Ret.of_same g (Tryz.strings_CutPrefix x ⟨#[c]⟩ w);have e:Lib.hasPrefix x.data.toList [c]=false:=Eu hn;have e2:(⟨(Lib.trimPrefix x.data.toList [c]).toArray⟩:ByteArray)=x:=by unfold Lib.trimPrefix;rw[e];simp
 have q2:CV 231 #[.string x,.string ⟨#[c]⟩] w h (.tuple #[.string ⟨(Lib.trimPrefix x.data.toList [c]).toArray⟩,.bool (Lib.hasPrefix x.data.toList [c])]):=q;rw[e,e2] at q2;exact q2
theorem qf (m a:Nat)(ha:a<18446744073709551616)(w:World)(h:Hp)(g:G w h):CR 210 #[.slice none ((([]:List Nat)).length) 0,mV m,mV a] w h (fun v h1=>∃ (A:Option Addr) (c:Nat) (l:List Nat),v=.slice A l.length c∧l.length≤c∧SlO 1 ai 0 h1 A l∧l=if a=0 then [] else [a]):=by
 have hs:=(sS g).nil 22 1;have hnil:([]:List Nat).length=0:=rfl;refine go Tryz.func210 [(0,qS none ((([]:List Nat)).length) 0),(1,mV m),(2,mV a)] rfl (aa hs [.v 6 (sZ)] (aT (lL hs [.m 13 2,.m 7 13] (af (aa hs [.m 14 0,.v 15 (iV 0),.v 16 (iV 0)] (bj (cU ?_)))))));refine cN (aa hs [.v 17 qF] (af (cM (CG.exit ?_))))
 show CG _ _ _ _ _ _ _ _
 refine cQ (aa hs [.m 42 7] ?_);cases hb1:((a:Int) != (0:Int))
 ·
  have phb1:=aI hb1;exact lB 43 hb1 (aj (cK (aa hs [.m 48 0,.m 6 48] (ae hs [] (qS none ((([]:List Nat)).length) 0) (⟨none,0,[],rfl,nR _,SlO.nil,by rw[if_pos oM]⟩)))))
 have phb1:=aJ hb1;refine lB 43 hb1 (ao (kQ (lL hs [.m 44 0,.m 45 7] (lR 46 22 1 ([mV a]) hs (fun b2 w3 h4 hs=>lY 47 0 22 1 0 none ([]:List Nat) ai a 8 b2 (uV 0) hs hs.f.1 (fun A6 c7 w8 h9 hs=>lL hs [.m 0 47] (aT (lL hs [.m 48 0,.m 6 48] (lN (kX ?_))))))))));obtain ⟨_,hs,za⟩:=hs.pubr 0 (A:=A6) (c:=c7) (l:=([]:List Nat)++[a]) (f:=ai) (ty:=22) (sz:=1) 0 (fun _=>rfl);have hfin:=(hs.f.1);exact hs.ret [] (qS A6 ((([]:List Nat)++[a]).length) c7) (⟨_,_,_,rfl,za,hfin,by rw[if_neg oM];rfl⟩)
theorem qG (x:ByteArray)(k:Nat)(hx:x.size≤18)(hk_:jH x=some k)(w:World)(h:Hp)(g:G w h):CV 176 #[.string x] w h (.tuple #[nv k,.bool true]):=by
 have hs:=sS g;obtain ⟨h1,h0,hdg,hkd⟩:=g5 hk_;refine go Tryz.func176 [(0,.string x)] rfl (aE (lA 2 24 ([uV 0,eS]) hs (fun b1 w2 h3 hs=>lL hs [.v 3 qF] (af (aa hs [.m 8 0,.v 9 (nV x.size)] ?_)))));cases hb4:((x.size:Int) == (0:Int))
 ·
  have phb4:=ah hb4;refine lB 10 hb4 (lL hs [.m 11 10,.m 12 0,.v 13 (nV x.size)] ?_);cases hb5:(decide ((200:Int)<(x.size:Int)))
  ·
   have phb5:=oF hb5;refine lB 14 hb5 (lL hs [.v 15 qF,.m 16 15,.m 17 0,.v 18 (nV x.size)] ?_);cases hb6:(decide ((1:Int)<(x.size:Int)))
   ·
    have phb6:=oF hb6;refine lB 19 hb6 (lL hs [.m 20 19] (lG 21 ?_));refine lG 22 (lG 23 (lL hs [.v 24 qF,.v 25 qF] (aj (cK (aa hs [.v 4 (sZ)] (aT (lL hs [.v 5 (uV 0),.v 6 (uV 1)] (af (aa hs [.m 27 0,.v 28 (nV x.size),.v 29 (iV 0)] (bj ?_))))))))));replace hs:=hs.add (K:=fun h_=>SlO 1 ai 0 h_ none ([])) (SlO.nil);refine bx _ (CG.loop (fun μ_ Γ w_=>∃ (j:Nat) (A:Option Addr) (c:Nat) (l:List Nat) (pt:Nat) (un:Nat) (h_:Hp),μ_=x.size-j∧Γ=[(0,.string x),(2,pB b1),(28,nV x.size),(29,nV j),(4,qS A l.length c),(5,mV pt),(6,mV un)]∧SS w h w_ h_ [⟨b1,24,[uV 0,eS]⟩] [] [fun h_=>SlO 1 ai 0 h_ A l]∧j≤x.size∧l.length≤c∧(j<x.size→A=none∧c=0∧l=[]∧pt=dv x j∧un=10^j)∧(j=x.size→l.length≤1)∧(j=x.size→Wd l)∧(j=x.size→aA l=dv x j)) _ ⟨0,none,0,[],0,1,h3,rfl,rfl,hs.to _ _,Nat.zero_le _,nR _,(fun _=>⟨rfl,rfl,rfl,rfl,rfl⟩),(fun _=>Nat.zero_le _),(fun _=>Dg.nil),(fun h_=>absurd h_ oM)⟩ ?_);rintro _ _ w7 ⟨j,A,c,l,pt,un,h8,hm9,rfl,hs,hk,hcl,hI,hL,hW,hV⟩;have hd_:=hdg j;have hb_:=p5 (x:=x) j (fun i hi=>hdg i oM);have hp_:10^j≤10^18:=Nat.pow_le_pow_right kD oM;have hs_:dv x (j+1)=dv x j*10+(aF x j-48):=rfl;have ht_:10^(j+1)=10^j*10:=Nat.pow_succ ..;refine aE ?_;cases za:(decide ((j:Int)<(x.size:Int)))
    ·
     have zm:=oF za;refine lB 30 za (af (cM (CG.exit ?_)))
     show CG _ _ _ _ _ _ _ _
     exact aa hs [.m 67 4] (ag 68 hs (vb A c l (hW oM) (by have:=hL oM;omega) hcl _ _ hs.g hs.f.1) (fun _ _ hs=>lP 0 0 (nc (aA l)) hs (fun _ hs=>lL hs [.v 3 qT] (ae hs [(0,0,2)] (.tuple #[nv (aA l),qT]) (by rw[hV oM,show j=x.size by omega,←hkd])))))
    have zm:=oT za;refine lB 30 za (af (bS (cK (cQ (kZ ?_)))));obtain ⟨hA0,hc0,hl0,hpt,hun⟩:=hI oM;have hd2_:=hd_ oM;have hp2_:10^(j+1)≤10^18:=Nat.pow_le_pow_right kD oM;refine aa hs [.m 31 29,.m 7 31] (af (aa hs [.m 32 0,.m 33 7] (lV 34 (.int .u8 (aF x j:Nat)) ?_ (hr:=dl (tx:=9) (x:=.tmp 32) (i:=.tmp 33) (k:=.i64) (s:=x) (n:=j) (j:=(j:Int)) kR kR kR kR oM oM _))));cases zb:(decide (((aF x j:Nat):Int)<(48:Int)))
    ·
     have zn:=oF zb;refine lB 35 zb (lL hs [.m 36 35,.m 37 0,.m 38 7] (lV 39 (.int .u8 (aF x j:Nat)) ?_ (hr:=dl (tx:=9) (x:=.tmp 37) (i:=.tmp 38) (k:=.i64) (s:=x) (n:=j) (j:=(j:Int)) kR kR kR kR oM oM _)));cases zc:(decide ((57:Int)<((aF x j:Nat):Int)))
     ·
      have zo:=oF zc;refine lB 40 zc (lL hs [.v 41 qF] (aj (cK (aa hs [.m 43 5] (lV 44 (mV (pt*10)) ?_ (hr:=rU (((pt:Int)*(10:Int))) kR (gQ pt 10 oM)))))));refine lL hs [.m 45 0,.m 46 7] (lV 47 (.int .u8 (aF x j:Nat)) ?_ (hr:=dl (tx:=9) (x:=.tmp 45) (i:=.tmp 46) (k:=.i64) (s:=x) (n:=j) (j:=(j:Int)) kR kR kR kR oM oM _));refine lV 48 (.int .u8 ((aF x j)-48:Nat)) ?_ (hr:=ay (n:=IntKind.wrap .u8 (((aF x j:Nat):Int)-(48:Int))) kR (Gv (aF x j) 48 oM oM));refine lV 49 (mV ((aF x j)-48)) ?_ (hr:=rU ((((aF x j)-48:Nat):Int)) kR (bG oM oM));refine lV 50 (mV ((pt*10)+((aF x j)-48))) ?_ (hr:=rU ((((pt*10:Nat):Int)+(((aF x j)-48:Nat):Int))) kR (gq (pt*10) ((aF x j)-48) oM));refine lL hs [.m 51 6] (lV 52 (mV (un*10)) ?_ (hr:=rU (((un:Int)*(10:Int))) kR (gQ un 10 oM)));refine lL hs [.m 5 50,.m 6 52] (aT (lL hs [.m 53 6] ?_));cases zd:(((un*10:Nat):Int) == (10000000000000000000:Int))
      ·
       have zp:=ah zd;refine lB 54 zd (lL hs [.m 55 54,.m 56 7,.m 57 0,.v 58 (nV x.size)] (lI 59 ((x.size:Nat)-1) ?_));cases ze:((j:Int) == ((x.size:Nat)-1:Int))
       ·
        have zq:=ah ze;refine lB 60 ze (lL hs [.v 61 qF] (aj (cK (kQ (bB 66 ((j:Nat)+1) (j+1) ?_)))));refine lL hs [.m 29 66] (lD ?_);intro a_ ka;replace hs:=(hs.tl.add (K:=fun h_=>SlO 1 ai 0 h_ A l) hs.f.1);refine ⟨_,_,?_,⟨j+1,A,c,l,((pt*10)+((aF x j)-48):Nat),(un*10),h8,rfl,rfl,hs.to _ _,oM,hcl,(fun _=>⟨hA0,hc0,hl0,by omega,by omega⟩),(fun h_=>absurd h_ oM),(fun h_=>absurd h_ oM),(fun h_=>absurd h_ oM)⟩,ka.to _ kR⟩
        omega
       have zq:=eq_of_beq ze;refine lB 60 ze (lL hs [.v 61 qT] (ao ?_));subst hA0 hc0 hl0;refine aa hs [.m 62 4,.m 63 6,.m 64 5] (lC 65 hs (qf ((un*10)) (((pt*10)+((aF x j)-48):Nat)) oM _ _ hs.g) ?_);rintro _ _ zA hs ⟨A2,c2,l2,rfl,hc2,hA2,hl2⟩;replace hs:=hs.aS hA2;refine lL hs [.m 4 65] (lN (bx [(0,.string x),(2,pB b1),(28,nV x.size),(29,nV j),(4,qS A2 l2.length c2),(5,mV ((pt*10)+((aF x j)-48))),(6,mV (un*10))] ?_));refine kQ (lL hs [.v 5 (uV 0),.v 6 (uV 1)] (lN (kQ (bB 66 ((j:Nat)+1) (j+1) ?_))));refine lL hs [.m 29 66] (lD ?_);intro a_ ka;replace hs:=(hs.tl.tl.add (K:=fun h_=>SlO 1 ai 0 h_ A2 l2) hs.f.1);refine ⟨_,_,?_,⟨j+1,A2,c2,l2,0,1,zA,rfl,rfl,hs.to _ _,oM,hc2,(fun h_=>absurd h_ oM),(fun _=>by rw[hl2];split<;>simp),(fun _=>by rw[hl2];exact m4 oM),(fun _=>by rw[hl2,iY];omega)⟩,ka.to _ kR⟩
       omega
      have zp:=eq_of_beq zd;refine lB 54 zd (lL hs [.m 55 54] (lG 56 ?_));refine lG 57 (lG 58 (lG 59 (lG 60 (lL hs [.v 61 qT] (ao ?_)))));subst hA0 hc0 hl0;refine aa hs [.m 62 4,.m 63 6,.m 64 5] (lC 65 hs (qf ((un*10)) (((pt*10)+((aF x j)-48):Nat)) oM _ _ hs.g) ?_);rintro _ _ zB hs ⟨A2,c2,l2,rfl,hc2,hA2,hl2⟩;replace hs:=hs.aS hA2;refine lL hs [.m 4 65] (lN (bx [(0,.string x),(2,pB b1),(28,nV x.size),(29,nV j),(4,qS A2 l2.length c2),(5,mV ((pt*10)+((aF x j)-48))),(6,mV (un*10))] ?_));refine kQ (lL hs [.v 5 (uV 0),.v 6 (uV 1)] (lN (kQ (bB 66 ((j:Nat)+1) (j+1) ?_))));refine lL hs [.m 29 66] (lD ?_);intro a_ ka;replace hs:=(hs.tl.tl.add (K:=fun h_=>SlO 1 ai 0 h_ A2 l2) hs.f.1);refine ⟨_,_,?_,⟨j+1,A2,c2,l2,0,1,zB,rfl,rfl,hs.to _ _,oM,hc2,(fun h_=>absurd h_ oM),(fun _=>by rw[hl2];split<;>simp),(fun _=>by rw[hl2];exact m4 oM),(fun _=>by rw[hl2,iY];omega)⟩,ka.to _ kR⟩
      omega
     have zo:=oT zc;refine lB 40 zc (lL hs [.v 41 qT] (ao (aa hs [.v 42 (.agg #[uV 0,eS])] (lP 0 0 ([uV 0,eS]) hs (fun _ hs=>lL hs [.v 3 qF] (lN (kX ?_)))))))
     exfalso
     omega
    have zn:=oT zb;refine lB 35 zb (lL hs [.m 36 35] (lG 37 ?_));refine lG 38 (lG 39 (lG 40 (lL hs [.v 41 qT] (ao (aa hs [.v 42 (.agg #[uV 0,eS])] (lP 0 0 ([uV 0,eS]) hs (fun _ hs=>lL hs [.v 3 qF] (lN (kX ?_)))))))))
    exfalso
    omega
   have phb6:=oT hb6;refine lB 19 hb6 (lL hs [.m 20 19,.m 21 0] (lV 22 (.int .u8 (aF x 0:Nat)) ?_ (hr:=dl (tx:=9) (x:=.tmp 21) (i:=.const (iV 0)) (k:=.i64) (s:=x) (n:=0) (j:=(0:Int)) kR kR kR kR oM oM _)));cases zf:(((aF x 0:Nat):Int) == (48:Int))
   ·
    have zs:=ah zf;refine lB 23 zf (lL hs [.v 24 qF,.v 25 qF] (aj (cK (aa hs [.v 4 (sZ)] (aT (lL hs [.v 5 (uV 0),.v 6 (uV 1)] (af (aa hs [.m 27 0,.v 28 (nV x.size),.v 29 (iV 0)] (bj ?_)))))))));replace hs:=hs.add (K:=fun h_=>SlO 1 ai 0 h_ none ([])) (SlO.nil);refine bx _ (CG.loop (fun μ_ Γ w_=>∃ (j:Nat) (A:Option Addr) (c:Nat) (l:List Nat) (pt:Nat) (un:Nat) (h_:Hp),μ_=x.size-j∧Γ=[(0,.string x),(2,pB b1),(28,nV x.size),(29,nV j),(4,qS A l.length c),(5,mV pt),(6,mV un)]∧SS w h w_ h_ [⟨b1,24,[uV 0,eS]⟩] [] [fun h_=>SlO 1 ai 0 h_ A l]∧j≤x.size∧l.length≤c∧(j<x.size→A=none∧c=0∧l=[]∧pt=dv x j∧un=10^j)∧(j=x.size→l.length≤1)∧(j=x.size→Wd l)∧(j=x.size→aA l=dv x j)) _ ⟨0,none,0,[],0,1,h3,rfl,rfl,hs.to _ _,Nat.zero_le _,nR _,(fun _=>⟨rfl,rfl,rfl,rfl,rfl⟩),(fun _=>Nat.zero_le _),(fun _=>Dg.nil),(fun h_=>absurd h_ oM)⟩ ?_);rintro _ _ _ ⟨j,A,c,l,pt,un,zD,hm48,rfl,hs,hk,hcl,hI,hL,hW,hV⟩;have hd_:=hdg j;have hb_:=p5 (x:=x) j (fun i hi=>hdg i oM);have hp_:10^j≤10^18:=Nat.pow_le_pow_right kD oM;have hs_:dv x (j+1)=dv x j*10+(aF x j-48):=rfl;have ht_:10^(j+1)=10^j*10:=Nat.pow_succ ..;refine aE ?_;cases zg:(decide ((j:Int)<(x.size:Int)))
    ·
     have zt:=oF zg;refine lB 30 zg (af (cM (CG.exit ?_)))
     show CG _ _ _ _ _ _ _ _
     exact aa hs [.m 67 4] (ag 68 hs (vb A c l (hW oM) (by have:=hL oM;omega) hcl _ _ hs.g hs.f.1) (fun _ _ hs=>lP 0 0 (nc (aA l)) hs (fun _ hs=>lL hs [.v 3 qT] (ae hs [(0,0,2)] (.tuple #[nv (aA l),qT]) (by rw[hV oM,show j=x.size by omega,←hkd])))))
    have zt:=oT zg;refine lB 30 zg (af (bS (cK (cQ (kZ ?_)))));obtain ⟨hA0,hc0,hl0,hpt,hun⟩:=hI oM;have hd2_:=hd_ oM;have hp2_:10^(j+1)≤10^18:=Nat.pow_le_pow_right kD oM;refine aa hs [.m 31 29,.m 7 31] (af (aa hs [.m 32 0,.m 33 7] (lV 34 (.int .u8 (aF x j:Nat)) ?_ (hr:=dl (tx:=9) (x:=.tmp 32) (i:=.tmp 33) (k:=.i64) (s:=x) (n:=j) (j:=(j:Int)) kR kR kR kR oM oM _))));cases zi:(decide (((aF x j:Nat):Int)<(48:Int)))
    ·
     have zu:=oF zi;refine lB 35 zi (lL hs [.m 36 35,.m 37 0,.m 38 7] (lV 39 (.int .u8 (aF x j:Nat)) ?_ (hr:=dl (tx:=9) (x:=.tmp 37) (i:=.tmp 38) (k:=.i64) (s:=x) (n:=j) (j:=(j:Int)) kR kR kR kR oM oM _)));cases zj:(decide ((57:Int)<((aF x j:Nat):Int)))
     ·
      have zv:=oF zj;refine lB 40 zj (lL hs [.v 41 qF] (aj (cK (aa hs [.m 43 5] (lV 44 (mV (pt*10)) ?_ (hr:=rU (((pt:Int)*(10:Int))) kR (gQ pt 10 oM)))))));refine lL hs [.m 45 0,.m 46 7] (lV 47 (.int .u8 (aF x j:Nat)) ?_ (hr:=dl (tx:=9) (x:=.tmp 45) (i:=.tmp 46) (k:=.i64) (s:=x) (n:=j) (j:=(j:Int)) kR kR kR kR oM oM _));refine lV 48 (.int .u8 ((aF x j)-48:Nat)) ?_ (hr:=ay (n:=IntKind.wrap .u8 (((aF x j:Nat):Int)-(48:Int))) kR (Gv (aF x j) 48 oM oM));refine lV 49 (mV ((aF x j)-48)) ?_ (hr:=rU ((((aF x j)-48:Nat):Int)) kR (bG oM oM));refine lV 50 (mV ((pt*10)+((aF x j)-48))) ?_ (hr:=rU ((((pt*10:Nat):Int)+(((aF x j)-48:Nat):Int))) kR (gq (pt*10) ((aF x j)-48) oM));refine lL hs [.m 51 6] (lV 52 (mV (un*10)) ?_ (hr:=rU (((un:Int)*(10:Int))) kR (gQ un 10 oM)));refine lL hs [.m 5 50,.m 6 52] (aT (lL hs [.m 53 6] ?_));cases zk:(((un*10:Nat):Int) == (10000000000000000000:Int))
      ·
       have zw:=ah zk;refine lB 54 zk (lL hs [.m 55 54,.m 56 7,.m 57 0,.v 58 (nV x.size)] (lI 59 ((x.size:Nat)-1) ?_));cases zl:((j:Int) == ((x.size:Nat)-1:Int))
       ·
        have zx:=ah zl;refine lB 60 zl (lL hs [.v 61 qF] (aj (cK (kQ (bB 66 ((j:Nat)+1) (j+1) ?_)))));refine lL hs [.m 29 66] (lD ?_);intro a_ ka;replace hs:=(hs.tl.add (K:=fun h_=>SlO 1 ai 0 h_ A l) hs.f.1);refine ⟨_,_,?_,⟨j+1,A,c,l,((pt*10)+((aF x j)-48):Nat),(un*10),zD,rfl,rfl,hs.to _ _,oM,hcl,(fun _=>⟨hA0,hc0,hl0,by omega,by omega⟩),(fun h_=>absurd h_ oM),(fun h_=>absurd h_ oM),(fun h_=>absurd h_ oM)⟩,ka.to _ kR⟩
        omega
       have zx:=eq_of_beq zl;refine lB 60 zl (lL hs [.v 61 qT] (ao ?_));subst hA0 hc0 hl0;refine aa hs [.m 62 4,.m 63 6,.m 64 5] (lC 65 hs (qf ((un*10)) (((pt*10)+((aF x j)-48):Nat)) oM _ _ hs.g) ?_);rintro _ _ zE hs ⟨A2,c2,l2,rfl,hc2,hA2,hl2⟩;replace hs:=hs.aS hA2;refine lL hs [.m 4 65] (lN (bx [(0,.string x),(2,pB b1),(28,nV x.size),(29,nV j),(4,qS A2 l2.length c2),(5,mV ((pt*10)+((aF x j)-48))),(6,mV (un*10))] ?_));refine kQ (lL hs [.v 5 (uV 0),.v 6 (uV 1)] (lN (kQ (bB 66 ((j:Nat)+1) (j+1) ?_))));refine lL hs [.m 29 66] (lD ?_);intro a_ ka;replace hs:=(hs.tl.tl.add (K:=fun h_=>SlO 1 ai 0 h_ A2 l2) hs.f.1);refine ⟨_,_,?_,⟨j+1,A2,c2,l2,0,1,zE,rfl,rfl,hs.to _ _,oM,hc2,(fun h_=>absurd h_ oM),(fun _=>by rw[hl2];split<;>simp),(fun _=>by rw[hl2];exact m4 oM),(fun _=>by rw[hl2,iY];omega)⟩,ka.to _ kR⟩
       omega
      have zw:=eq_of_beq zk;refine lB 54 zk (lL hs [.m 55 54] (lG 56 ?_));refine lG 57 (lG 58 (lG 59 (lG 60 (lL hs [.v 61 qT] (ao ?_)))));subst hA0 hc0 hl0;refine aa hs [.m 62 4,.m 63 6,.m 64 5] (lC 65 hs (qf ((un*10)) (((pt*10)+((aF x j)-48):Nat)) oM _ _ hs.g) ?_);rintro _ _ zF hs ⟨A2,c2,l2,rfl,hc2,hA2,hl2⟩;replace hs:=hs.aS hA2;refine lL hs [.m 4 65] (lN (bx [(0,.string x),(2,pB b1),(28,nV x.size),(29,nV j),(4,qS A2 l2.length c2),(5,mV ((pt*10)+((aF x j)-48))),(6,mV (un*10))] ?_));refine kQ (lL hs [.v 5 (uV 0),.v 6 (uV 1)] (lN (kQ (bB 66 ((j:Nat)+1) (j+1) ?_))));refine lL hs [.m 29 66] (lD ?_);intro a_ ka;replace hs:=(hs.tl.tl.add (K:=fun h_=>SlO 1 ai 0 h_ A2 l2) hs.f.1);refine ⟨_,_,?_,⟨j+1,A2,c2,l2,0,1,zF,rfl,rfl,hs.to _ _,oM,hc2,(fun h_=>absurd h_ oM),(fun _=>by rw[hl2];split<;>simp),(fun _=>by rw[hl2];exact m4 oM),(fun _=>by rw[hl2,iY];omega)⟩,ka.to _ kR⟩
      omega
     have zv:=oT zj;refine lB 40 zj (lL hs [.v 41 qT] (ao (aa hs [.v 42 (.agg #[uV 0,eS])] (lP 0 0 ([uV 0,eS]) hs (fun _ hs=>lL hs [.v 3 qF] (lN (kX ?_)))))))
     exfalso
     omega
    have zu:=oT zi;refine lB 35 zi (lL hs [.m 36 35] (lG 37 ?_));refine lG 38 (lG 39 (lG 40 (lL hs [.v 41 qT] (ao (aa hs [.v 42 (.agg #[uV 0,eS])] (lP 0 0 ([uV 0,eS]) hs (fun _ hs=>lL hs [.v 3 qF] (lN (kX ?_)))))))))
    exfalso
    omega
   have zs:=eq_of_beq zf;refine lB 23 zf (lL hs [.v 24 qT,.v 25 qT] (ao (aa hs [.v 26 (.agg #[uV 0,eS])] (lP 0 0 ([uV 0,eS]) hs (fun _ hs=>lL hs [.v 3 qF] (lN (kX ?_)))))))
   exfalso
   first|omega|exact h0 oM oM
  have phb5:=oT hb5;refine lB 14 hb5 (lL hs [.v 15 qT,.m 16 15] (lG 17 ?_));refine lG 18 (lG 19 (lG 20 (lG 21 (lG 22 (lG 23 (lG 24 (lL hs [.v 25 qT] (ao (aa hs [.v 26 (.agg #[uV 0,eS])] (lP 0 0 ([uV 0,eS]) hs (fun _ hs=>lL hs [.v 3 qF] (lN (kX ?_)))))))))))))
  exfalso
  first|omega|exact h0 oM oM
 have phb4:=eq_of_beq hb4;refine lB 10 hb4 (lL hs [.m 11 10] (lG 12 ?_));refine lG 13 (lG 14 (lL hs [.v 15 qT,.m 16 15] (lG 17 ?_)));refine lG 18 (lG 19 (lG 20 (lG 21 (lG 22 (lG 23 (lG 24 (lL hs [.v 25 qT] (ao (aa hs [.v 26 (.agg #[uV 0,eS])] (lP 0 0 ([uV 0,eS]) hs (fun _ hs=>lL hs [.v 3 qF] (lN (kX ?_)))))))))))))
 exfalso
 first|omega|exact h0 oM oM
theorem Fh (x:ByteArray)(c:UInt8)(hn:∀ i,i<x.size→aF x i≠c.toNat)(w:World)(h:Hp)(g:G w h):CV 230 #[.string x,.string (⟨#[c]⟩)] w h (.tuple #[.string x,eS,.bool false]):=by
 have hs:=sS g;exact go Tryz.func230 [(0,.string x),(1,.string (⟨#[c]⟩))] rfl (aa hs [.v 4 (eS),.v 5 (eS),.v 6 qF] (af (aa hs [.m 8 0,.m 9 1] (ag 10 hs (wy x c hn _ _ hs.g) (fun w1 h2 hs=>lL hs [.m 7 10] (aT (lL hs [.m 11 7,.v 12 qF] (aj (cK (aa hs [.m 22 0,.m 4 22,.v 5 (eS),.v 6 qF] (ae hs [] (.tuple #[.string x,eS,qF]) rfl)))))))))))
theorem BE (x:ByteArray)(c:UInt8)(hn:∀ i,i<x.size→aF x i≠c.toNat)(w:World)(h:Hp)(g:G w h):CV 223 #[.string x,.string (⟨#[c]⟩)] w h (.tuple #[.string x,eS,.bool false]):=by
 have hs:=sS g;exact go Tryz.func223 [(0,.string x),(1,.string (⟨#[c]⟩))] rfl (aa hs [.v 4 (eS),.v 5 (eS),.v 6 qF] (aT (lL hs [.m 7 0,.m 8 1] (ag 9 hs (Fh x c hn _ _ hs.g) (fun w1 h2 hs=>lL hs [.v 10 (.string x),.v 11 (eS),.v 12 qF,.m 4 10,.m 5 11,.m 6 12] (ae hs [] (.tuple #[.string x,eS,qF]) rfl))))))
theorem AF (x:ByteArray)(k:Nat)(hx:x.size≤18)(hk_:jH x=some k)(w:World)(h:Hp)(g:G w h):CV 226 #[.string x] w h (.tuple #[iv (k:Int),.bool true]):=by
 have hs:=sS g;obtain ⟨h1,h0,hdg,hkd⟩:=g5 hk_;refine go Tryz.func226 [(0,.string x)] rfl (aE (lA 2 26 ([qF,uV 0,eS]) hs (fun b1 w2 h3 hs=>lL hs [.v 3 qF] (aT (lL hs [.m 9 0] (ag 10 hs (oS x 45 (by have:=hdg 0 oM;show aF x 0≠45;omega) _ _ hs.g) (fun w4 h5 hs=>lL hs [.m 8 10,.v 11 (.string x),.v 12 qF,.m 4 11,.m 5 12] (aT (lL hs [.m 14 4] (ag 15 hs (qG x k hx hk_ _ _ hs.g) (fun w6 h7 hs=>lL hs [.m 13 15,.v 16 (nv k),.v 17 qT] (lA 6 24 ([uV 0,eS]) hs (fun b8 w9 _ hs=>lP 0 0 (nc k) hs (fun _ hs=>lL hs [.m 7 17] (af (aa hs [.m 18 7,.v 19 qF,.m 20 19,.m 21 5,.m 22 21] (lG 23 ?_)))))))))))))))));exact lG 24 (lG 25 (lL hs [.v 26 qF,.v 27 qF] (aj (cK (aa hs [.m 29 5,.o 30 (nv k) 0 0 2] (ag 31 hs (dg k _ _ hs.g) (fun _ _ hs=>lP 1 0 (ic (k:Int)) hs (fun _ hs=>lL hs [.v 3 qT] (ae hs [(1,0,3)] (.tuple #[iv (k:Int),qT]) rfl)))))))))
theorem wF (x:ByteArray)(k:Nat)(hx:x.size≤18)(hk_:jH x=some k)(w:World)(h:Hp)(g:G w h):CV 205 #[.string x] w h (.tuple #[qv ((k:Nat):Rat),.bool true]):=by
 have hs:=sS g;obtain ⟨h1,h0,hdg,hkd⟩:=g5 hk_;exact go Tryz.func205 [(0,.string x)] rfl (aE (lA 2 28 ([qF,uV 0,eS,uV 0,eS]) hs (fun b1 w2 h3 hs=>lL hs [.v 3 qF] (af (aa hs [.m 13 0] (ag 14 hs (BE x 47 (fun i hi=>by have:=hdg i hi;show aF x i≠47;omega) _ _ hs.g) (fun w4 h5 hs=>lL hs [.m 12 14,.v 15 (.string x),.v 16 (eS),.v 17 qF,.m 4 15,.m 5 16,.m 6 17] (aT (lL hs [.m 18 6] (aj (cK (cQ (aa hs [.m 25 0] (ag 26 hs (BE x 46 (fun i hi=>by have:=hdg i hi;show aF x i≠46;omega) _ _ hs.g) (fun w6 h7 hs=>lL hs [.m 24 26,.v 27 (.string x),.v 28 (eS),.v 29 qF,.m 7 27,.m 8 28,.m 9 29] (aT (lL hs [.m 30 9] (aj (cK (aa hs [.m 37 0] (ag 38 hs (AF x k hx hk_ _ _ hs.g) (fun w8 h9 hs=>lL hs [.m 36 38,.v 39 (iv (k:Int)),.v 40 qT] (lA 10 26 ([qF,uV 0,eS]) hs (fun b10 _ _ hs=>lP 0 0 (ic (k:Int)) hs (fun _ hs=>lL hs [.m 11 40] (aT (lL hs [.o 41 (iv (k:Int)) 0 0 3,.v 42 (.agg #[.bool (aD (k:Int)),uV (lo (ab (k:Int))),.string (hi (ab (k:Int))),uV 0,eS]),.m 43 11] (lP 1 0 ([.bool (aD (k:Int)),uV (lo (ab (k:Int))),.string (hi (ab (k:Int))),uV 0,eS]) hs (fun _ hs=>lL hs [.m 3 43] (ae hs [(1,0,5)] (.tuple #[.agg #[.bool (aD (k:Int)),uV (lo (ab (k:Int))),.string (hi (ab (k:Int))),uV 0,eS],qT]) (congrArg (fun v_=>Value.tuple #[v_,qT]) (gV (d:=0) (Rat.num_natCast k) (kb (Rat.den_natCast k))))))))))))))))))))))))))))))))))
def Fg (x:ByteArray):Option Rat:=if x.size≤18 then (jH x).map (fun k=>((k:Nat):Rat)) else none
theorem CO:AV Fg:=fun x q h w hh g _=>by
  unfold Fg at h
  split at h
  · rename_i hx
    cases hk:jH x with
    | none=>rw[hk] at h;cases h
    | some k =>
      rw[hk] at h;injection h with h;subst h
      exact wF x k hx hk w hh g
  · cases h
theorem Ck:DS:=fun x k hx hk w h g=>qG x k oM hk w h g
section
variable {d:Nat} {h:Hp}
end
def CF (s:ByteArray):Prop:=s.size≤1000
theorem Ht:CF ⟨#[]⟩:=by unfold CF;decide
theorem CE {s:ByteArray}(h:jr s=true):CF s:=by
 have:=oT h
 unfold CF;omega
theorem HB:∀ s,CF s→∀ (w:World) (h:Hp),G w h→Calls Tryz.prog 58 #[.string s] w (Ret w h (fun v _=>∃ b,v=.bool b∧b=jr s)):=fun s hs w h g=>(vV s (by unfold CF at hs;omega) w h g).mono fun e w' ⟨v,h',e1,u,e2⟩=>⟨v,h',e1,u,_,e2,rfl⟩
theorem TmH.cut {ok:ByteArray→Prop}{h:Hp}:∀ {e d:Nat} {p:PTm} {t:Tm},TmH e h p t→WfT ok d t→TmH d h p t
 | _,0,_,_,_,x=>x.elim
 | 0,_,_,_,x,_=>x.elim
 | e+1,d+1,p,t,⟨h1,h2,h3,h4,h5,h6,ps,h7,h8,h9⟩,⟨_,_,_,_,_,_,_,_,k⟩=>⟨h1,h2,h3,h4,h5,h6,ps,h7,h8,fun i hi=>(h9 i hi).cut (k i hi)⟩
theorem PtH.cut {ok:ByteArray→Prop}{h:Hp}{d:Nat}{p:PTm}{t:Tm}(x:PtH h p t)(y:WfT ok d t):TmH d h p t:=by obtain ⟨e,x⟩:=x;exact x.cut y
theorem Aa (nf bf:ByteArray→Option Rat)(hnf:AV nf)(hbf:GJ bf)(s:ByteArray)(hsz:s.size≤65536)(n:Nat)(t:Tm)(b:Nat)(hq:dy nf bf s n .sum 0=some (.ok t b))(hb:sk s b=s.size)(d:Nat)(hd:d≤24)(hW:WfT (fun s=>jr s=true) d t)(hw:gW d t≤1000)(w:World)(h:Hp)(g:G w h)(tb:Tab h):CR 4 #[.string s] w h (fun v h1=>∃ p,v=.tuple #[cZ p,.agg #[iV 0,iV 0,iV 0]]∧TmH d h1 p t):=by
 have hs:=((sS g).aB tb);refine go Tryz.func4 [(0,.string s)] rfl (aE (lA 2 31 ([iV 0,iV 0,qF,uV 0,eS,uV 0,eS,eS,sZ]) hs (fun b1 w2 h3 hs=>lA 3 34 ([iV 0,iV 0,iV 0]) hs (fun b4 w5 h6 hs=>af (aa hs [.m 7 0,.v 8 (nV s.size)] ?_)))));have hb7:(decide ((65536:Int)<(s.size:Int)))=false:=decide_eq_false oM;refine lB 9 hb7 (aj (cK (aa hs [.m 12 0,.v 13 (.agg #[.string s,iV 0,iV 0])] (lA 14 70 ([.string s,iV 0,iV 0]) hs (fun b8 w9 _ hs=>lL hs [.m 4 14] (aT (lL hs [.m 15 4] (fL 16 ((GX hnf Ck hbf n).1 b8 s oM 0 (Nat.zero_le _) 0 t b hq _ _ hs.g (hs.own 0) (hs.jk 0) hs.f.1) ?_))))))));rintro _ _ _ u13 ⟨tq,p,rfl,hbl,hO,hS,hT⟩;replace hs:=(hs.stepM 0 u13 hO).to [⟨b8,70,[.string s,nV b,iV 0]⟩,⟨b4,34,[iV 0,iV 0,iV 0]⟩,⟨b1,31,[iV 0,iV 0,qF,uV 0,eS,uV 0,eS,eS,sZ]⟩] [];replace hs:=((hs.a_Seg hS).add (K:=fun h_=>PtH h_ p t) hT);refine lL hs [.m 5 16] (af (aa hs [.m 17 5,.v 18 qT] (ao (aa hs [.m 19 4] (fL 20 (om b8 s oM b hbl 0 _ _ hs.g (hs.own 0) (hs.jk 0) hs.f.r.1) ?_)))));rintro _ _ _ u16 ⟨rfl,hO2⟩;rw[hb] at hO2
 rw[hb];replace hs:=(hs.stepM 0 u16 hO2).to [⟨b8,70,[.string s,nV s.size,iV 0]⟩,⟨b4,34,[iV 0,iV 0,iV 0]⟩,⟨b1,31,[iV 0,iV 0,qF,uV 0,eS,uV 0,eS,eS,sZ]⟩] [];refine aT (lL hs [.m 21 4,.v 22 (pB b8),.v 23 (qP b8 1),.o 24 (nV s.size) 0 1 1,.m 25 0,.v 26 (nV s.size)] ?_);have za:(decide ((s.size:Int)<(s.size:Int)))=false:=decide_eq_false oM;refine lB 27 za (aj (cK (cQ (aa hs [.m 34 5,.v 35 qF] (aj (cK (cQ (aa hs [.m 42 5,.v 43 (pB tq)] (lH 44 (cZ p) hs hs.f.2.1 ?_)))))))));refine ag 45 hs ((by have q_:=GC jr CF HB (fun s h_=>CE h_) Ht d p t hd _ _ hs.g ((hs.f.1).cut hW) hW;rw[if_neg oM] at q_;exact q_)) (fun _ _ hs=>lL hs [.m 6 45] (aT (lL hs [.m 46 6,.v 47 qF] (aj (cK (aa hs [.m 51 5,.v 52 (pB tq)] (lH 53 (cZ p) hs hs.f.2.1 ?_)))))));exact lL hs [.v 54 (.agg #[iV 0,iV 0,iV 0])] (lP 2 0 (cu p) hs (fun _ hs=>lP 1 0 ([iV 0,iV 0,iV 0]) hs (fun _ hs=>ae hs [(2,0,9),(1,0,3)] (.tuple #[cZ p,.agg #[iV 0,iV 0,iV 0]]) (⟨p,rfl,(hs.f.1).cut hW⟩))))
theorem Em (s:ByteArray)(hsz:s.size≤65536)(n:Nat)(t:Tm)(b:Nat)(hq:dy Fg (fun _=>none) s n .sum 0=some (.ok t b))(hb:sk s b=s.size)(d:Nat)(hd:d≤24)(hW:WfT (fun s=>jr s=true) d t)(hw:gW d t≤1000)(w:World)(h:Hp)(g:G w h)(tb:Tab h):CR 4 #[.string s] w h (fun v h1=>∃ p,v=.tuple #[cZ p,.agg #[iV 0,iV 0,iV 0]]∧TmH d h1 p t) :=
 Aa Fg (fun _=>none) CO s0 s hsz n t b hq hb d hd hW hw w h g tb
def uN (s:ByteArray):Bool:=decide (s=⟨#[120]⟩)
def HQ (s:ByteArray):Prop:=s=⟨#[]⟩∨s=⟨#[120]⟩
section
variable {ok:ByteArray→Prop} {d:Nat}
theorem DB {q:Rat}(h:LQ 1 q):WfT1 ok (d+1) (j6 q):=⟨rfl,fun h=>absurd rfl h,h,fun h=>absurd (show (1:Int)=2 from h) kD,fun _=>rfl,fun _=>rfl,by show (-12:Int)≤0;decide,by show (0:Int)≤12;decide,fun i hi=>absurd hi (Nat.not_lt_zero i)⟩
theorem Di {s:ByteArray}(h:ok s):WfT1 ok (d+1) (sU s):=⟨rfl,fun _=>rfl,j1 kD,fun _=>h,fun h=>absurd rfl h,fun _=>rfl,by show (-12:Int)≤0;decide,by show (0:Int)≤12;decide,fun i hi=>absurd hi (Nat.not_lt_zero i)⟩
theorem Ef {n:Int}{t:Tm}(x:WfT1 ok d t)(h1 : -12≤n)(h2:n≤12):WfT1 ok (d+1) (.mk 8 n 0 ⟨#[]⟩ [t]):=⟨rfl,fun _=>rfl,j1 kD,fun h=>absurd (show (8:Int)=2 from h) kD,fun _=>rfl,fun h=>absurd rfl h,h1,h2,fun i hi=>by
 have:i=0:=by have:i<1:=hi;omega
 subst this;exact x⟩
theorem Et {op:Int}{t u:Tm}(x:WfT1 ok d t)(y:WfT1 ok d u)(ha:cC op=2)(h2:op≠2):WfT1 ok (d+1) (gE op t u):=⟨ha,fun _=>rfl,j1 kD,fun h=>absurd (show op=2 from h) h2,fun _=>rfl,fun _=>rfl,by show (-12:Int)≤0;decide,by show (0:Int)≤12;decide,fun i hi=>by
 have:i=0∨i=1:=by have:i<2:=hi;omega
 rcases this with rfl|rfl
 ·exact x
 ·exact y⟩
end
theorem B6 {ok:ByteArray→Prop}(h:ok ⟨#[120]⟩):WfT1 ok 3 nx:=Ef (Et (Di h) (DB (mf kR)) kD kD) kD kD
theorem BG:gW 3 nx≤1000:=oT kR
theorem CJ:dy Fg (fun _=>none) ⟨#[40,120,32,45,32,51,41,94,50]⟩ 40 .sum 0=some (.ok nx 9):=by kernel_rfl
theorem Hm:∀ s,HQ s→∀ (w:World) (h:Hp),G w h→Calls Tryz.prog 58 #[.string s] w (Ret w h (fun v _=>∃ b,v=.bool b∧b=uN s)):=by
 rintro s (rfl|rfl) w h g
 ·exact (vV ⟨#[]⟩ kD w h g).mono fun e w' ⟨v,h',e1,u,e2⟩=>⟨v,h',e1,u,_,e2,by decide⟩
 ·exact (vV ⟨#[120]⟩ kD w h g).mono fun e w' ⟨v,h',e1,u,e2⟩=>⟨v,h',e1,u,_,e2,by decide⟩
theorem Ik:∀ s,uN s=true→(∃ i,Instr.findNow .string (.string s) [⟨.string (⟨#[120]⟩),.int .i64 0,0⟩] 0=some (some (i,.int .i64 0))∧uN s=true)∨(Instr.findNow .string (.string s) [⟨.string (⟨#[120]⟩),.int .i64 0,0⟩] 0=some none∧uN s=false∧(0:Int)=0):=by
 intro s hs;obtain rfl:=oT hs;exact .inl ⟨0,by kernel_rfl,by decide⟩
theorem nX (A:Option Addr)(c:Nat)(w:World)(h:Hp)(g:G w h)(hA:SlO 1 iz ⟨#[]⟩ h A ([⟨#[120]⟩]:List ByteArray)):CR 20 #[.slice A 1 c] w h (fun v h1=>∃ b,v=.map (some b)∧MapS h1 b [⟨.string (⟨#[120]⟩),iV 0,0⟩]):=by
 have hs:=((sS g).aS hA);have hnl:([⟨#[120]⟩]:List ByteArray).length=1:=rfl;refine go Tryz.func20 [(0,qS A 1 c)] rfl (aa hs [.v 2 (.map none)] (aT (Hy 6 hs (fun b1 w2 h3 hs hmp4=>lL hs [.m 3 6] (af (aa hs [.m 7 0,.v 8 (iV 1),.v 9 (iV 0)] (bj (cU ?_))))))));refine cN (aa hs [.v 10 qT] (af (bS (cK (cQ (kZ (aa hs [.m 11 9] (lX 12 A 1 c 1 0 0 ((hs.f.1).ok oM) ?_))))))));refine lH 13 (.string (⟨#[120]⟩)) hs ((hs.f.1).el 0 oM) (lL hs [.m 4 11,.m 5 13] (lN (kQ (lL hs [.m 14 3,.m 15 5,.m 16 4] (ED 77 9 3 (⟨#[120]⟩) (iV 0) hs hmp4 (fun w5 hs hmp6=>lN (kQ (lL hs [.v 17 (iV 1),.m 9 17] (lD (CL.to [(2,.map none),(3,.map (some b1)),(7,qS A 1 c),(8,iV 1),(9,iV 1),(10,qT),(11,iV 0),(12,.pointer (some ⟨(aB A),aO A+0*1,none⟩)),(13,.string (⟨#[120]⟩)),(4,iV 0),(5,.string (⟨#[120]⟩)),(14,.map (some b1)),(15,.string (⟨#[120]⟩)),(16,iV 0),(17,iV 1)] ?_))))))))));replace hs:=hs.to [] [];refine cN (aa hs [.v 10 qF] (af (cM (CG.exit ?_))))
 show CG _ _ _ _ _ _ _ _
 refine aa hs [.m 18 3] ?_;obtain ⟨h7,hs,sg8⟩:=hs.pubMap hmp6;replace hs:=hs.to [] [];replace hs:=hs.add (K:=fun h_=>MapS h_ b1 [⟨.string (⟨#[120]⟩),iV 0,0⟩]) sg8;exact lL hs [.m 2 18] (ae hs [] (.map (some b1)) (⟨_,rfl,hs.f.1⟩))
theorem tO (A:Option Addr)(c:Nat)(w:World)(h:Hp)(g:G w h)(hA:SlO 1 iz ⟨#[]⟩ h A ([⟨#[120]⟩]:List ByteArray)):CV 19 #[.slice A 1 c] w h (iV 0):=by
 have hs:=((sS g).aS hA);have hnl:([⟨#[120]⟩]:List ByteArray).length=1:=rfl;refine go Tryz.func19 [(0,qS A 1 c)] rfl (aa hs [.v 2 (iV 0)] (af (aa hs [.m 5 0,.v 6 (iV 1),.v 7 (iV 0)] (bj (cU ?_)))));refine cN (aa hs [.v 8 qT] (af (bS (cK (cQ (kZ (aE (lX 9 A 1 c 1 0 0 ((hs.f.1).ok oM) ?_))))))));refine lH 10 (.string (⟨#[120]⟩)) hs ((hs.f.1).el 0 oM) (lL hs [.m 4 10] (aT (lL hs [.m 11 4] (ag 12 hs ((by have q_:=vV ⟨#[120]⟩ kD _ _ hs.g;rw[show jr ⟨#[120]⟩=true by decide] at q_;exact q_)) (fun w1 h2 hs=>lL hs [.v 13 qF] (aj (cK (kQ (lL hs [.v 14 (iV 1),.m 7 14] (lD (CL.to [(0,qS A 1 c),(2,iV 0),(5,qS A 1 c),(6,iV 1),(7,iV 1),(8,qT),(9,.pointer (some ⟨(aB A),aO A+0*1,none⟩)),(10,.string (⟨#[120]⟩)),(4,.string (⟨#[120]⟩)),(11,.string (⟨#[120]⟩)),(12,qT),(13,qF),(14,iV 1)] ?_)))))))))));replace hs:=hs.to [] [];refine cN (aa hs [.v 8 qF] (af (cM (CG.exit ?_))))
 show CG _ _ _ _ _ _ _ _
 refine cQ (aa hs [.m 15 0] (lC 16 hs (nX A c _ _ hs.g hs.f.1) ?_));rintro _ w3 h4 hs ⟨bm,rfl,hpm⟩;replace hs:=(hs.add (K:=fun h_=>MapS h_ bm [⟨.string (⟨#[120]⟩),iV 0,0⟩]) hpm);exact If 17 77 0 9 3 hs hs.f.1 (lL hs [.m 18 0,.v 19 (iV 1),.v 20 qF] (aj (cK (aa hs [.v 2 (iV 0)] (ae hs [] (iV 0) rfl)))))
theorem GU (A:Option Addr)(c:Nat)(p:PTm)(Nm:Option Addr)(cN:Nat)(w:World)(h:Hp)(g:G w h)(hA:SlO 9 cu bu h A [p])(hp:TmH 3 h p nx)(hN:SlO 1 iz ⟨#[]⟩ h Nm ([⟨#[120]⟩]:List ByteArray)):CR 5 #[.slice A 1 c,.slice Nm 1 cN] w h (fun v h1=>∃ A1 c1_ O1 d1,v=.tuple #[.agg #[iV 1,.slice A1 kdL.length c1_,.slice O1 ([3]:List Int).length d1],iV 0]∧SlO 9 fu ac h1 A1 kdL∧Si O1 ([3]:List Int) h1):=by
 have wf:WfT1 (fun s=>uN s=true) 3 nx:=B6 kD;have one:∀ i:Nat,i<1→i=0:=fun i hi=>by omega
 have hT1:Tms 3 h [p] [nx]:=⟨rfl,fun i hi=>by obtain rfl:=one i hi;exact hp⟩
 have hnm:∀ s,uN s=true→uN s=true→AZ (fun _=>⟨#[120]⟩) (fun _=>0) ((([⟨#[120]⟩]:List ByteArray).length:Nat):Int) s:=fun s hs _=>by
  obtain rfl:=oT hs;exact ⟨rfl,by decide,by decide⟩
 refine (Id A c [p] [nx] Nm cN ([⟨#[120]⟩]:List ByteArray) 3 kD (by show 1≤10;decide) kD uN HQ Hm (fun s hs=>by obtain rfl:=oT hs;decide) (fun i hi=>by obtain rfl:=one i hi;exact wf.sm (fun s hs=>.inr (oT hs)) (.inl rfl)) (fun _=>0) uN [⟨.string (⟨#[120]⟩),iV 0,0⟩] (fun _ _=>by decide) Ik _ hnm 0 (fun w h g hN=>tO Nm cN w h g hN) (fun _ w h g hN=>nX Nm cN w h g hN) w h g hA hT1 hN).mono ?_;rintro e w' ⟨v,h',e1,u,E,inp,A1,c2,l,O1,d1,os,rfl,hA1,hO1,R⟩
 have hall:∀ i:Nat,i<[nx].length→jJ uN 3 ([nx].getD i aZ)∧mQ uN 3 ([nx].getD i aZ):=fun i hi=>by
  obtain rfl:=one i hi;exact ⟨⟨wf,BG⟩,fun s hs=>mR wf hs⟩
 have hl:fT (fun _=>0) 3 [nx] [nx].length=kdL:=uE
 have ho:iU (fun _=>0) 3 [nx] [nx].length=[3]:=by
  show ([]:List Int)++[(((fT (fun _=>0) 3 [nx] 1).length:Nat):Int)-1]=[3]
  rw[uE];rfl
 have hE:E=0:=by
  rcases R.how with ⟨a,_⟩|⟨_,k,hk,_,b⟩|⟨_,_,b⟩
  ·exact absurd rfl a
  ·rcases b with ⟨b,_⟩|⟨_,b,_⟩
   ·exact absurd (hall k hk).1 b
   ·exact absurd (hall k hk).2 b
  ·rw[b,hl,ho];exact m9
 subst hE;obtain ⟨r1,r2,r3⟩:=R.ok rfl;rw[hl] at r2
 rw[ho] at r3
 subst r1 r2 r3;exact ⟨_,h',e1,u,A1,c2,O1,d1,rfl,hA1,hO1⟩
def Ih (j:Nat):List Int:=[[0,0,0],[0,0,0],[0,1,0],[0,1,2]].getD j []
theorem Ec (ra ke:Rat)(sp bi:Int)(sd:Nat)(hra:LQ 100000000 ra)(hke:LQ 100000000 ke)(hF:dP ra ke sp 0 bi)(k:Nat)(hk:k≤200)(w:World)(h:Hp)(g:G w h):CR 11 #[uX ra ke sp 0 bi sd,iV 3,nV k] w h (fun v h1=>∃ A c,v=.slice A ([0,1,2]:List Int).length c∧([0,1,2]:List Int).length≤c∧Si A [0,1,2] h1):=by
 have hs:=sS g;refine go Tryz.func11 [(0,uX ra ke sp 0 bi sd),(1,iV 3),(2,nV k)] rfl (aE (lA 3 59 (uC ra ke sp 0 bi sd) hs (fun b1 w2 h3 hs=>lL hs [.v 6 (sZ)] (af (aa hs [.m 11 1,.v 12 qF,.m 13 12,.m 14 1,.v 15 qF,.v 16 qF,.m 17 16,.m 18 2] ?_)))));cases hb4:(decide ((k:Int)<(0:Int)))
 ·
  have phb4:=oF hb4;refine lB 19 hb4 (lL hs [.v 20 qF,.m 21 20,.m 22 2] ?_);cases hb5:(decide ((200:Int)<(k:Int)))
  ·
   have phb5:=oF hb5;refine lB 23 hb5 (lL hs [.v 24 qF,.m 25 24,.o 26 (uX ra ke sp 0 bi sd) 0 0 14] (ag 27 hs ((by have q_:=oD ra ke sp 0 bi sd hra hke _ _ hs.g;rw[decide_eq_true hF] at q_;exact q_)) (fun w6 h7 hs=>lL hs [.v 28 qF,.v 29 qF] (aj (cK (cQ (aa hs [.v 30 (qP b1 11),.o 31 (iV 0) 0 11 1,.v 32 qT,.m 33 32] (lG 34 ?_))))))));refine lG 35 (lG 36 (lG 37 (lL hs [.v 38 qT] (ao (aa hs [.m 39 1] (lK 40 3 3 1 8 (iV 0) dj (0:Int) hs (fun b8 w9 zd hs=>?_)))))));have hl11:(List.replicate 3 (0:Int)).length=3:=by simp
   refine lL hs [.m 7 40] (af (aa hs [.m 41 7,.v 42 (iV 3),.v 43 (iV 0)] (bj ?_)));refine bx _ (CG.loop (fun μ_ Γ w_=>∃ (j:Nat) (L:List Int) (h_:Hp),μ_=3-j∧Γ=[(1,iV 3),(2,nV k),(3,pB b1),(6,sZ),(7,qS (sB b8) 3 3),(42,iV 3),(43,nV j)]∧SS w h w_ h_ [⟨b8,3,(L).flatMap dj⟩,⟨b1,59,uC ra ke sp 0 bi sd⟩] [] []∧j≤3∧L.length=3∧L=Ih j) _ ⟨0,List.replicate 3 (0:Int),zd,rfl,rfl,hs.to _ _,Nat.zero_le _,(by simp),rfl⟩ ?_);rintro _ _ _ ⟨j,L,ze,hm14,rfl,hs,hj,hLl,hL0⟩;refine aE ?_;cases za:(decide ((j:Int)<(3:Int)))
   ·
    have zb:=oF za;refine lB 44 za (af (cM (CG.exit ?_)))
    show CG _ _ _ _ _ _ _ _
    refine aa hs [.m 51 7,.m 6 51] (lN (kX ?_));obtain rfl:j=3:=by omega
    change L=([0,1,2]:List Int) at hL0
    subst hL0;replace hs:=hs.to [⟨b8,3,(([0,1,2]:List Int)).flatMap dj⟩,⟨b1,59,uC ra ke sp 0 bi sd⟩] [];obtain ⟨_,hs,sg17,lo18,bc19⟩:=hs.pub 0;replace hs:=(hs.to [⟨b1,59,uC ra ke sp 0 bi sd⟩] []).aS (SlO.of_flat (sz:=1) (f:=dj) (d:=0) (b:=b8) (o:=0) (l:=([0,1,2]:List Int)) (fun _=>rfl) sg17);exact hs.ret [] (qS (sB b8) 3 3) (⟨_,_,rfl,nR _,hs.f.1⟩)
   have zb:=oT za;refine lB 44 za (af (bS (cK (cQ (kZ (aa hs [.m 45 43,.m 8 45] (lN (kQ (lL hs [.m 46 7,.m 47 8,.m 48 8] (lX 49 (sB b8) 3 3 1 (j:Nat) j rfl ?_))))))))));refine lW 0 L dj 1 j (j:Nat) hs oM (fun _ hs=>?_);have zc:((L).set j (j:Nat)).length=3:=by rw[List.length_set];exact hLl
   replace hs:=hs.to [⟨b8,3,((L).set j (j:Nat)).flatMap dj⟩,⟨b1,59,uC ra ke sp 0 bi sd⟩] [];refine lN (kQ (bB 50 ((j:Nat)+1) (j+1) ?_));refine lL hs [.m 43 50] (lD ?_);intro a_ ka;refine ⟨_,_,?_,⟨j+1,(L).set j (j:Nat),ze,rfl,rfl,hs.to _ _,oM,zc,(by rw[hL0];rcases (by omega:j=0∨j=1∨j=2) with rfl|rfl|rfl<;>rfl)⟩,ka.to _ kR⟩
   omega
  have phb5:=oT hb5;refine lB 23 hb5 (lL hs [.v 24 qT,.m 25 24] (lG 26 ?_));refine lG 27 (lG 28 (lL hs [.v 29 qT] (ao (aa hs [.v 6 (sZ)] (lN (kX ?_))))))
  exfalso;omega
 have phb4:=oT hb4;refine lB 19 hb4 (lL hs [.v 20 qT,.m 21 20] (lG 22 ?_));refine lG 23 (lL hs [.v 24 qT,.m 25 24] (lG 26 ?_));refine lG 27 (lG 28 (lL hs [.v 29 qT] (ao (aa hs [.v 6 (sZ)] (lN (kX ?_))))))
 exfalso;omega
theorem DK (inp:Int)(A:Option Addr)(c:Nat)(l:List Stp)(O:Option Addr)(d:Nat)(os:List Int)(p0:List Rat)(X:Option Addr)(cX:Nat)(ra ke:Rat)(st b sd:Nat)(ba:Int)(hl:l.length≤100)(ho:os.length≤2)(hq:∀ i,LQ 1 (l.getD i ac).q)(hra:LQ 1 ra)(hke:LQ 1 ke)(hck:be inp l os=0)(hF:dP ra ke (st:Nat) ba (b:Nat))(hne:(p0.length:Int)≠inp)(w:World)(h:Hp)(g:G w h)(hA:SlO 9 fu ac h A l)(hO:Si O os h)(hX:Sq X p0 h)(tb:Tab h):CV 8 #[.agg #[iV inp,.slice A ((l).length) c,.slice O ((os).length) d],.slice X p0.length cX,uX ra ke st ba b sd] w h (.tuple #[.agg #[sZ,sZ],iV 5]):=by
 have hs:=(((((sS g).aS hA).aS hO).aS hX).aB tb);refine go Tryz.func8 [(0,.agg #[iV inp,qS A ((l).length) c,qS O ((os).length) d]),(1,qS X p0.length cX),(2,uX ra ke st ba b sd)] rfl (aE (lA 3 40 ([iV inp,qS A ((l).length) c,qS O ((os).length) d]) hs (fun b1 w2 h3 hs=>lA 5 59 (uC ra ke st ba b sd) hs (fun b4 w5 h6 hs=>lA 6 54 ([sZ,sZ]) hs (fun b7 w8 h9 hs=>lL hs [.v 7 (iV 0)] (af (aa hs [.o 9 (.agg #[iV inp,qS A ((l).length) c,qS O ((os).length) d]) 2 0 3] (ag 10 hs ((by have q_:=iB inp A c l O d os oM oM (fun i _=>hq i) _ _ hs.g hs.f.r.2.1 (hs.f.r.1);rw[hck] at q_;exact q_)) (fun _ _ hs=>lL hs [.v 11 qF,.m 12 11,.o 13 (uX ra ke st ba b sd) 1 0 14] (ag 14 hs ((by have q_:=oD ra ke (st:Nat) ba (b:Nat) sd (hra.mono kD) (hke.mono kD) _ _ hs.g;rw[decide_eq_true hF] at q_;exact q_)) (fun _ _ hs=>lL hs [.v 15 qF,.v 16 qF] (aj (cK (cQ (aa hs [.m 18 1,.v 19 (nV p0.length),.v 20 (pB b1),.o 21 (iV inp) 2 0 1] ?_)))))))))))))));have za:((p0.length:Int) != (inp:Int))=true:=Cr oM;refine lB 22 za (lL hs [.m 23 22] (lG 24 ?_));exact lG 25 (lG 26 (lG 27 (lL hs [.v 28 qT] (ao (aa hs [.v 29 (.agg #[sZ,sZ])] (lP 0 0 ([sZ,sZ]) hs (fun _ hs=>lL hs [.v 7 (iV 5)] (ae hs [(0,0,2)] (.tuple #[.agg #[sZ,sZ],iV 5]) rfl))))))))
theorem Eb (inp:Int)(A:Option Addr)(c:Nat)(l:List Stp)(O:Option Addr)(d:Nat)(os:List Int)(p0:List Rat)(X:Option Addr)(cX:Nat)(ra ke:Rat)(st b sd:Nat)(ba:Int)(hl:l.length≤100)(ho:os.length≤2)(hq:∀ i,LQ 1 (l.getD i ac).q)(hra:LQ 1 ra)(hke:LQ 1 ke)(hck:be inp l os=0)(hF:¬dP ra ke (st:Nat) ba (b:Nat))(w:World)(h:Hp)(g:G w h)(hA:SlO 9 fu ac h A l)(hO:Si O os h)(hX:Sq X p0 h)(tb:Tab h):CV 8 #[.agg #[iV inp,.slice A ((l).length) c,.slice O ((os).length) d],.slice X p0.length cX,uX ra ke st ba b sd] w h (.tuple #[.agg #[sZ,sZ],iV 1]):=by
 have hs:=(((((sS g).aS hA).aS hO).aS hX).aB tb);exact go Tryz.func8 [(0,.agg #[iV inp,qS A ((l).length) c,qS O ((os).length) d]),(1,qS X p0.length cX),(2,uX ra ke st ba b sd)] rfl (aE (lA 3 40 ([iV inp,qS A ((l).length) c,qS O ((os).length) d]) hs (fun b1 w2 h3 hs=>lA 5 59 (uC ra ke st ba b sd) hs (fun b4 w5 h6 hs=>lA 6 54 ([sZ,sZ]) hs (fun b7 w8 h9 hs=>lL hs [.v 7 (iV 0)] (af (aa hs [.o 9 (.agg #[iV inp,qS A ((l).length) c,qS O ((os).length) d]) 2 0 3] (ag 10 hs ((by have q_:=iB inp A c l O d os oM oM (fun i _=>hq i) _ _ hs.g hs.f.r.2.1 (hs.f.r.1);rw[hck] at q_;exact q_)) (fun _ _ hs=>lL hs [.v 11 qF,.m 12 11,.o 13 (uX ra ke st ba b sd) 1 0 14] (ag 14 hs ((by have q_:=oD ra ke (st:Nat) ba (b:Nat) sd (hra.mono kD) (hke.mono kD) _ _ hs.g;rw[decide_eq_false hF] at q_;exact q_)) (fun _ _ hs=>lL hs [.v 15 qT,.v 16 qT] (ao (aa hs [.v 17 (.agg #[sZ,sZ])] (lP 0 0 ([sZ,sZ]) hs (fun _ hs=>lL hs [.v 7 (iV 1)] (ae hs [(0,0,2)] (.tuple #[.agg #[sZ,sZ],iV 1]) rfl))))))))))))))))
theorem vC (st b:Nat)(h1:st≤200)(h2:b≤256):dP (mkR 1 4) 0 (st:Nat) 0 (b:Nat):=by
 unfold dP
 exact ⟨by decide +kernel,by decide +kernel,by decide,by decide +kernel,by omega,by omega,by decide,by decide,by omega,by omega⟩
theorem FQ (k:Nat)(h:k≤2):PtOk kdL B5 EF (sK k).at_:=by
 rw[(n8 k h).2.1];exact ⟨fun j hj i=>(Fu (pL k) j hj i).mono kD,fun j hj _=>Hd (pL k) j hj⟩
theorem kdR_lq:LQ 1 By:=mf kR
theorem CN (A:Option Addr)(c:Nat)(O:Option Addr)(d:Nat)(X:Option Addr)(cX:Nat)(w:World)(h:Hp)(g:G w h)(hA:SlO 9 fu ac h A kdL)(hO:Si O [3] h)(hX:Sq X kdP h)(tb:Tab h):CR 8 #[.agg #[iV 1,.slice A (kdL).length c,.slice O ([3]:List Int).length d],.slice X kdP.length cX,uX By (0:Rat) 2 0 8 0] w h (fun v h1=>∃ A1 c1 A2 c2,v=.tuple #[.agg #[.slice A1 1 c1,.slice A2 3 c2],iV 0]∧Sq A1 [5/2] h1∧Sq A2 [4,1,1/4] h1):=by
 have hF:∀ n b:Nat,n≤200→b≤256→dP By 0 (n:Nat) 0 (b:Nat):=vC;have q:=FT 1 A c kdL O d [3] kdP X cX By 0 2 8 0 0 (fun _=>[0]) rfl kD kD kD kD kD kD kD DO kdR_lq (j1 kD) B5 EF 4 (fun _=>E1) CQ (fun _=>xm) sK rfl (fun k hk=>FQ k hk) (fun k hk=>He k hk) (fun k hk=>Hk k hk) (fun k hk=>Gz k hk) (fun k hk w h g=>DE By 0 2 8 0 (kdR_lq.mono kD) (j1 kD) (hF 2 8 kD kD) k hk w h g) (fun k j hj=>by obtain rfl:j=0:=Nat.lt_one_iff.1 hj;decide) (fun k=>by decide) (hF 2 8 kD kD) m9 kD w h g hA hO hX tb;obtain ⟨k1,k2,k3⟩:=n8 2 kD;rw[(DSt.ok (s:=sK 2) k1).1,(DSt.ok (s:=sK 2) k1).2,k1,k2,Gi] at q
 refine q.mono ?_;rintro e w' ⟨v,h',e1,u,A1,c1,A2,c2,e2,_,_,s1,s2⟩;exact ⟨v,h',e1,u,A1,c1,A2,c2,e2,s1,s2⟩
theorem BY {h:Hp}{Q1 Q2:Option Addr}{c1 c2:Nat}{r1 r2:List Rat}(e1:r1.length=2)(e2:r2.length=2)(h1:SlO 5 qc 0 h Q1 r1)(h2:SlO 5 qc 0 h Q2 r2)(hc1:r1.length≤c1)(hc2:r2.length≤c2):QVs h [.slice Q1 2 c1,.slice Q2 2 c2] [r1,r2]:=⟨rfl,fun i hi=>by
 match i,hi with
 | 0,_=>exact ⟨Q1,c1,by rw[show (([r1,r2]:List (List Rat)).getD 0 [])=r1 from rfl,e1];rfl,hc1,h1⟩
 | 1,_=>exact ⟨Q2,c2,by rw[show (([r1,r2]:List (List Rat)).getD 1 [])=r2 from rfl,e2];rfl,hc2,h2⟩
 | i+2,hi=>exact absurd hi (by show ¬i+2<2;omega)⟩
def zr (a b:Int):List Rat:=([a,b]:List Int).map (fun z:Int=>(z:Rat))
theorem vz {a b:Int}(ha:a.natAbs≤2)(hb:b.natAbs≤2):Rwq (zr a b):=⟨by show 2≤5;decide,fun n=>u9 n ha hb⟩
theorem vf {a b c d:Int}(ha:a.natAbs≤4)(hb:b.natAbs≤4)(hc:c.natAbs≤4)(hd:d.natAbs≤4):Dfn 2 [zr a b,zr c d]:=⟨rfl,fun i=>by
 match i with
 | 0=>exact Nat.le_refl _
 | 1=>exact Nat.le_refl _
 | i+2=>exact Nat.zero_le _,fun i j=>by
 have h0:∀ z:Int,z.natAbs≤4→Tw 144 262144 ((z:Int):Rat):=fun z hz=>⟨z*144,by rw[Int.natAbs_mul];exact Nat.le_trans (Nat.mul_le_mul_right _ hz) kD,by rw[Rat.intCast_mul];rfl⟩
 match i,j with
 | 0,0=>exact h0 a ha
 | 0,1=>exact h0 b hb
 | 0,j+2=>exact Tw.zero
 | 1,0=>exact h0 c hc
 | 1,1=>exact h0 d hd
 | 1,j+2=>exact Tw.zero
 | i+2,j=>exact Tw.zero⟩
theorem BZ {a b c d:Int}:vU [zr a b,zr c d]:=⟨⟨by show 0<2;decide,by show 0<2;decide,fun i hi=>by
 match i,hi with
 | 0,_=>rfl
 | 1,_=>rfl
 | i+2,hi=>exact absurd hi (by show ¬i+2<2;omega)⟩,rfl⟩
theorem E6:CjR [zr 1 2,zr 3 4] (zr 1 1) (zr 0 0) 0 10:=.inr ⟨fun x=>by
 have h:=x.1.2 1 (by show 1<2;decide) 0 kD;have h:(((3:Int):Rat))=((2:Int):Rat):=h;exact absurd h kD,rfl,(vv ⟨BZ,rfl,rfl⟩).symm⟩
theorem Gd:CjR [zr 0 0,zr 0 0] (zr 1 1) (zr 0 0) 0 9:=.inl ⟨⟨⟨BZ,fun i hi k hk=>by
  match i,hi with
  | 0,_=>exact absurd hk (Nat.not_lt_zero _)
  | 1,_ =>
    obtain rfl:k=0:=by omega
    rfl
  | i+2,hi=>exact absurd hi (by show ¬i+2<2;omega)⟩,rfl,rfl⟩,fun i hi=>absurd hi (Nat.not_lt_zero _),.inr ⟨rfl,by decide +kernel,by decide +kernel⟩⟩
theorem sN (A:Option Addr)(cap:Nat)(us:List Value)(W:List (List Rat))(hW:Dfn 2 W)(D:Option Addr)(cD:Nat)(b1 b2:Int)(X:Option Addr)(cX:Nat)(x1 x2:Int)(hb1:b1.natAbs≤2)(hb2:b2.natAbs≤2)(hx1:x1.natAbs≤2)(hx2:x2.natAbs≤2)(e0:Int)(he:e0≠0)(hR:CjR W (zr b1 b2) (zr x1 x2) 0 e0)(w:World)(h:Hp)(g:G w h)(hA:Sv A us h)(hU:QVs h us W)(hDb:Sq D (zr b1 b2) h)(hX:Sq X (zr x1 x2) h)(tb:Tab h):CR 10 #[.slice A 2 cap,.slice D 2 cD,.slice X 2 cX] w h (fun v h1=>∃ (A:Option Addr) (c:Nat),v=.tuple #[.slice A 0 c,iV e0]):=by
 have x:=vP A cap us W 2 hW kD D cD (zr b1 b2) X cX (zr x1 x2) (vz hb1 hb2) (vz hx1 hx2) w h g hA hU hDb hX tb;rw[show us.length=2 from hU.len.trans hW.len] at x
 refine x.mono ?_;rintro _ w' ⟨v,h',rfl,u,t,e,A',c',al,k1,k2,k3,k4,k5⟩;obtain ⟨rfl,rfl⟩:=k1.uniq hR;rw[if_neg he] at k5
 exact ⟨v,h',rfl,u,A',c',by rw[k2,k5]⟩
theorem Dm (A:Option Addr)(ca:Nat)(D:Option Addr)(cd:Nat)(w:World)(h:Hp)(g:G w h)(hA:Si A [0,1,2] h)(hD:Si D [0,1,2] h):CV 14 #[.slice A 3 ca,.slice D 3 cd] w h (.bool true):=by
 have x:=rO A ca [0,1,2] [0,1,2] D cd kD kD w h g hA hD;exact x.mono fun e w' ⟨v,h',e1,u,e2⟩=>⟨v,h',e1,u,by rw[e2];rfl⟩
theorem lj  (w:World)(h:Hp)(g:G w h)(tb:Tab h):CV 3 #[] w h (.bool true):=by
 have hs:=((sS g).aB tb);have hl1_:([5/2]:List Rat).length=1:=rfl;have hl3_:([4,1,1/4]:List Rat).length=3:=rfl;refine go Tryz.func3 [] rfl (aa hs [.v 0 qF] (aT (lC 18 hs (Em ⟨#[40,120,32,45,32,51,41,94,50]⟩ kD 40 nx 9 CJ kD 3 kD (B6 kD).wf BG _ _ hs.g hs.f.1) ?_)));rintro _ w1 h2 hs ⟨pk,rfl,hpk⟩;replace hs:=(hs.add (K:=fun h_=>TmH 3 h_ pk nx) hpk);refine lL hs [.m 17 18,.v 19 (cZ pk),.v 20 (.agg #[iV 0,iV 0,iV 0])] (lA 1 31 ([iV 0,iV 0,qF,uV 0,eS,uV 0,eS,eS,sZ]) hs (fun b3 w4 h5 hs=>lA 2 34 ([iV 0,iV 0,iV 0]) hs (fun b6 w7 h8 hs=>lP 1 0 (cu pk) hs (fun w9 hs=>lP 0 0 ([iV 0,iV 0,iV 0]) hs (fun _ hs=>aT (lL hs [.o 22 (cZ pk) 1 0 9] (lR 23 31 1 (pC pk) hs (fun zj _ _ hs=>?_))))))));replace hs:=hs.aS (SlO.of_flat (sz:=9) (f:=cu) (d:=bu) (b:=zj) (o:=0) (l:=([pk]:List PTm)) (fun _=>rfl) hs.f.1);refine lR 24 9 1 ([.string (⟨#[120]⟩)]) hs (fun zk _ _ hs=>?_);replace hs:=hs.aS (SlO.of_flat (sz:=1) (f:=iz) (d:=⟨#[]⟩) (b:=zk) (o:=0) (l:=([⟨#[120]⟩]:List ByteArray)) (fun _=>rfl) hs.f.1);refine lC 25 hs (GU (sB zj) 1 pk (sB zk) 1 _ _ hs.g hs.f.r.1 hs.f.q.1 hs.f.1) ?_;rintro _ _ _ hs ⟨At,ct,Ot,dt,rfl,hAt,hOt⟩;replace hs:=hs.aP hAt hOt;refine lL hs [.m 21 25,.v 26 (.agg #[iV 1,qS At kdL.length ct,qS Ot (([3]:List Int).length) dt]),.v 27 (iV 0)] (lA 3 40 ([iV 0,sZ,sZ]) hs (fun b23 _ _ hs=>lP 0 0 ([iV 1,qS At kdL.length ct,qS Ot (([3]:List Int).length) dt]) hs (fun _ hs=>lL hs [.m 4 27] (aT (lC 28 hs (tH 1 4 oM oM oM oM oM _ _ hs.g) ?_)))));rintro _ _ _ hs ⟨zw,zx,zA,zB,rfl,zs,zt,zu,zv⟩;replace hs:=hs.aP zu zv;refine ag 29 hs (Ie (mkR 1 4) zw zx zA zB zs zt (LQ.mono kdR_lq oM) _ _ hs.g hs.f.2.1 hs.f.1 hs.f.q.q.2.1) (fun _ _ hs=>lA 5 28 ([qF,uV 0,eS,uV 0,eS]) hs (fun zD _ _ hs=>lP 0 0 (qc (mkR 1 4)) hs (fun _ hs=>af ?_)));have hsr:=hs;refine cR 10 [⟨9,6,.cells (List.toArray [sZ,sZ]) 54 (0,0)⟩] mixed hs (bn (ee kR (fun _ _=>by kernel_rfl)) aq) (eO 0 31 [(1,0,3)] (.agg #[iV 1,qS At kdL.length ct,qS Ot (([3]:List Int).length) dt]) hs (eO 3 34 [(0,0,5)] (qv (mkR 1 4)) hs (eV 4 35 (.agg #[.bool (aD (mkR 1 4).num),uV (lo (ab (mkR 1 4).num)),.string (hi (ab (mkR 1 4).num)),uV (lo (qd (mkR 1 4))),.string (hi (qd (mkR 1 4))),qF,uV 0,eS,uV 0,eS,iV 2,iV 0,iV 8,uV 0]) (eR 1 32 2 1 ([iV 1]) hs (fun zl _ _ hs=>?_)))));replace hs:=hs.aS (SlO.of_flat (sz:=1) (f:=dj) (d:=0) (b:=zl) (o:=0) (l:=([1]:List Int)) (fun _=>rfl) hs.f.1);refine eC 2 33 hs (fun _ _ hs=>qk (sB zl) 1 ([1]:List Int) kD (by intro k_;rcases k_ with _|_<;>simp[List.getD]) _ _ hs.g hs.f.1) ?_;rintro _ _ _ _ _ hs ⟨Q1,cQ1,rfl,hcQ1,hQ1⟩;replace hs:=hs.aS hQ1;refine eC 5 36 hs (fun _ _ hs=>CN At ct Ot dt Q1 cQ1 _ _ hs.g hs.f.q.r.1 hs.f.q.2.1 hs.f.1 hs.f.q.q.q.1) ?_;rintro _ _ _ _ _ hs ⟨U,Uc,V,Vc,rfl,hU,hV⟩;replace hs:=hs.aP hU hV;refine eV 6 30 (.tuple #[.agg #[qS U 1 Uc,qS V 3 Vc],iV 0]) (eV 7 37 (.agg #[qS U 1 Uc,qS V 3 Vc]) (eV 8 38 (iV 0) (iZ [] hsr hs 54 [sZ,sZ] (fun _ _ za hs=>tP 10 0 0 ([qS U 1 Uc,qS V 3 Vc]) hs (fun _ hs=>tV 11 7 (iV 0) (tS (lL hs [.o 40 (.agg #[iV 1,qS At kdL.length ct,qS Ot (([3]:List Int).length) dt]) 2 0 3,.o 41 (qv (mkR 1 4)) 1 0 5,.v 42 (.agg #[.bool (aD (mkR 1 4).num),uV (lo (ab (mkR 1 4).num)),.string (hi (ab (mkR 1 4).num)),uV (lo (qd (mkR 1 4))),.string (hi (qd (mkR 1 4))),qF,uV 0,eS,uV 0,eS,iV 0,iV 0,iV 0,uV 0])] (ag 43 hs (DK 1 At ct kdL Ot dt [3] [] none 0 (mkR 1 4) 0 0 0 0 0 kD kD DO kdR_lq (j1 kD) m9 (vC 0 0 kD kD) kD _ _ hs.g hs.f.q.q.1 hs.f.q.r.2.1 SlO.nil hs.f.q.q.q.r.1) (fun _ _ hs=>lL hs [.m 39 43,.v 44 (.agg #[sZ,sZ]),.v 45 (iV 5)] (lA 8 54 ([sZ,sZ]) hs (fun b58 _ _ hs=>lP 0 0 ([sZ,sZ]) hs (fun _ hs=>lL hs [.m 9 45] (af ?_)))))))))))));have hsr:=hs;refine cR 9 [⟨8,10,.cells (List.toArray [sZ,sZ]) 54 (0,0)⟩] mixed hs (bn (ee kR (fun _ _=>by kernel_rfl)) aq) (eO 0 47 [(3,0,3)] (.agg #[iV 1,qS At kdL.length ct,qS Ot (([3]:List Int).length) dt]) hs (eV 3 50 (.agg #[qF,uV 0,eS,uV 0,eS,qF,uV 0,eS,uV 0,eS,iV 0,iV 0,iV 0,uV 0]) (eR 1 48 2 1 ([iV 1]) hs (fun zm _ _ hs=>?_))));replace hs:=hs.aS (SlO.of_flat (sz:=1) (f:=dj) (d:=0) (b:=zm) (o:=0) (l:=([1]:List Int)) (fun _=>rfl) hs.f.1);refine eC 2 49 hs (fun _ _ hs=>qk (sB zm) 1 ([1]:List Int) kD (by intro k_;rcases k_ with _|_<;>simp[List.getD]) _ _ hs.g hs.f.1) ?_;rintro _ _ _ _ _ hs ⟨Q2,cQ2,rfl,hcQ2,hQ2⟩;replace hs:=hs.aS hQ2;refine ak 4 51 hs (fun _ _ hs=>Eb 1 At ct kdL Ot dt [3] kdP Q2 cQ2 0 0 0 0 0 0 kD kD DO (j1 kD) (j1 kD) m9 (fun x_=>absurd x_.1 kD) _ _ hs.g hs.f.q.q.r.2.1 hs.f.q.q.r.1 hs.f.1 hs.f.q.q.q.q.2.1) (fun _ _ hs=>eV 5 46 (.tuple #[.agg #[sZ,sZ],iV 1]) (eV 6 52 (.agg #[sZ,sZ]) (eV 7 53 (iV 1) (iZ [] hsr hs 54 [sZ,sZ] (fun _ _ b73 hs=>tP 9 0 0 ([sZ,sZ]) hs (fun _ hs=>tV 10 11 (iV 1) (tN (bx [(0,qF),(5,pB zD),(6,pB za),(7,iV 0),(9,iV 5),(11,iV 1)] ?_))))))));refine aE (lR 55 2 2 ([iV 1,iV 2]) hs (fun zn _ _ hs=>?_));replace hs:=hs.aS (SlO.of_flat (sz:=1) (f:=dj) (d:=0) (b:=zn) (o:=0) (l:=([1,2]:List Int)) (fun _=>rfl) hs.f.1);refine lC 56 hs (qk (sB zn) 2 ([1,2]:List Int) kD (by intro k_;rcases k_ with _|_|_<;>simp[List.getD]) _ _ hs.g hs.f.1) ?_;rintro _ _ _ hs ⟨Q3,cQ3,rfl,hcQ3,hQ3⟩;replace hs:=hs.aS hQ3;refine lR 57 2 2 ([iV 3,iV 4]) hs (fun zo _ _ hs=>?_);replace hs:=hs.aS (SlO.of_flat (sz:=1) (f:=dj) (d:=0) (b:=zo) (o:=0) (l:=([3,4]:List Int)) (fun _=>rfl) hs.f.1);refine lC 58 hs (qk (sB zo) 2 ([3,4]:List Int) kD (by intro k_;rcases k_ with _|_|_<;>simp[List.getD]) _ _ hs.g hs.f.1) ?_;rintro _ _ _ hs ⟨Q4,cQ4,rfl,hcQ4,hQ4⟩;replace hs:=hs.aS hQ4;refine lR 59 52 2 ([qS Q3 2 cQ3,qS Q4 2 cQ4]) hs (fun zp _ _ hs=>?_);replace hs:=hs.aS (SlO.of_flat (sz:=1) (f:=vc) (d:=undef) (b:=zp) (o:=0) (l:=([qS Q3 2 cQ3,qS Q4 2 cQ4]:List Value)) (fun _=>rfl) hs.f.1);refine lR 60 2 2 ([iV 1,iV 1]) hs (fun zq _ _ hs=>?_);replace hs:=hs.aS (SlO.of_flat (sz:=1) (f:=dj) (d:=0) (b:=zq) (o:=0) (l:=([1,1]:List Int)) (fun _=>rfl) hs.f.1);refine lC 61 hs (qk (sB zq) 2 ([1,1]:List Int) kD (by intro k_;rcases k_ with _|_|_<;>simp[List.getD]) _ _ hs.g hs.f.1) ?_;rintro _ _ _ hs ⟨Q5,cQ5,rfl,hcQ5,hQ5⟩;replace hs:=hs.aS hQ5;refine lR 62 2 2 ([iV 0,iV 0]) hs (fun zb _ _ hs=>?_);replace hs:=hs.aS (SlO.of_flat (sz:=1) (f:=dj) (d:=0) (b:=zb) (o:=0) (l:=([0,0]:List Int)) (fun _=>rfl) hs.f.1);refine lC 63 hs (qk (sB zb) 2 ([0,0]:List Int) kD (by intro k_;rcases k_ with _|_|_<;>simp[List.getD]) _ _ hs.g hs.f.1) ?_;rintro _ _ _ hs ⟨Q6,cQ6,rfl,hcQ6,hQ6⟩;replace hs:=hs.aS hQ6;refine lC 64 hs (sN (sB zp) 2 _ _ (vf kD kD kD kD) Q5 cQ5 _ _ Q6 cQ6 _ _ kD kD kD kD 10 kD E6 _ _ hs.g hs.f.q.r.1 (BY rfl rfl hs.f.q.q.r.2.1 hs.f.q.q.1 hcQ3 hcQ4) hs.f.r.2.1 hs.f.1 hs.f.q.q.q.q.q.q.q.r.2.1) ?_;rintro _ _ _ hs ⟨Z7,cz7,rfl⟩;refine lL hs [.m 54 64,.v 65 (qS Z7 0 cz7),.v 66 (iV 10),.m 12 65,.m 13 66] (aT (lR 68 2 2 ([iV 0,iV 0]) hs (fun zc _ _ hs=>?_)));replace hs:=hs.aS (SlO.of_flat (sz:=1) (f:=dj) (d:=0) (b:=zc) (o:=0) (l:=([0,0]:List Int)) (fun _=>rfl) hs.f.1);refine lC 69 hs (qk (sB zc) 2 ([0,0]:List Int) kD (by intro k_;rcases k_ with _|_|_<;>simp[List.getD]) _ _ hs.g hs.f.1) ?_;rintro _ _ _ hs ⟨Q7,cQ7,rfl,hcQ7,hQ7⟩;replace hs:=hs.aS hQ7;refine lR 70 2 2 ([iV 0,iV 0]) hs (fun zd _ _ hs=>?_);replace hs:=hs.aS (SlO.of_flat (sz:=1) (f:=dj) (d:=0) (b:=zd) (o:=0) (l:=([0,0]:List Int)) (fun _=>rfl) hs.f.1);refine lC 71 hs (qk (sB zd) 2 ([0,0]:List Int) kD (by intro k_;rcases k_ with _|_|_<;>simp[List.getD]) _ _ hs.g hs.f.1) ?_;rintro _ _ _ hs ⟨Q8,cQ8,rfl,hcQ8,hQ8⟩;replace hs:=hs.aS hQ8;refine lR 72 52 2 ([qS Q7 2 cQ7,qS Q8 2 cQ8]) hs (fun ze _ _ hs=>?_);replace hs:=hs.aS (SlO.of_flat (sz:=1) (f:=vc) (d:=undef) (b:=ze) (o:=0) (l:=([qS Q7 2 cQ7,qS Q8 2 cQ8]:List Value)) (fun _=>rfl) hs.f.1);refine lR 73 2 2 ([iV 1,iV 1]) hs (fun zf _ _ hs=>?_);replace hs:=hs.aS (SlO.of_flat (sz:=1) (f:=dj) (d:=0) (b:=zf) (o:=0) (l:=([1,1]:List Int)) (fun _=>rfl) hs.f.1);refine lC 74 hs (qk (sB zf) 2 ([1,1]:List Int) kD (by intro k_;rcases k_ with _|_|_<;>simp[List.getD]) _ _ hs.g hs.f.1) ?_;rintro _ _ _ hs ⟨Q9,cQ9,rfl,hcQ9,hQ9⟩;replace hs:=hs.aS hQ9;refine lR 75 2 2 ([iV 0,iV 0]) hs (fun zg _ _ hs=>?_);replace hs:=hs.aS (SlO.of_flat (sz:=1) (f:=dj) (d:=0) (b:=zg) (o:=0) (l:=([0,0]:List Int)) (fun _=>rfl) hs.f.1);refine lC 76 hs (qk (sB zg) 2 ([0,0]:List Int) kD (by intro k_;rcases k_ with _|_|_<;>simp[List.getD]) _ _ hs.g hs.f.1) ?_;rintro _ _ _ hs ⟨Q10,cQ10,rfl,hcQ10,hQ10⟩;replace hs:=hs.aS hQ10;refine lC 77 hs (sN (sB ze) 2 _ _ (vf kD kD kD kD) Q9 cQ9 _ _ Q10 cQ10 _ _ kD kD kD kD 9 kD Gd _ _ hs.g hs.f.q.r.1 (BY rfl rfl hs.f.q.q.r.2.1 hs.f.q.q.1 hcQ7 hcQ8) hs.f.r.2.1 hs.f.1 hs.f.q.q.q.q.q.q.q.q.q.q.q.2.1) ?_;rintro _ _ _ hs ⟨Z8,cz8,rfl⟩;refine lL hs [.m 67 77,.v 78 (qS Z8 0 cz8),.v 79 (iV 9),.m 14 78,.m 15 79] (aT (lL hs [.o 80 (qv (mkR 1 4)) 3 0 5,.v 81 (.agg #[.bool (aD (mkR 1 4).num),uV (lo (ab (mkR 1 4).num)),.string (hi (ab (mkR 1 4).num)),uV (lo (qd (mkR 1 4))),.string (hi (qd (mkR 1 4))),qF,uV 0,eS,uV 0,eS,iV 0,iV 0,iV 0,uV 0])] (lC 82 hs (Ec (mkR 1 4) 0 0 0 0 (kdR_lq.mono kD) (j1 kD) (vC 0 0 kD kD) 5 kD _ _ hs.g) ?_)));rintro _ _ _ hs ⟨As,cs,rfl,hcs,hAs⟩;replace hs:=hs.aS hAs;refine lL hs [.m 16 82] (aT (ag 83 hs (uQ _ _ hs.g hs.f.q.q.q.q.q.q.q.q.q.q.q.r.1) (fun _ _ hs=>lL hs [.m 84 83,.m 85 7,.v 86 qT,.v 87 qT,.m 88 87,.v 89 (pB za),.o 90 (qS U 1 Uc) 2 0 1,.v 91 (iV 1),.v 92 qT,.v 93 qT,.m 94 93,.v 95 (pB za),.o 96 (qS U 1 Uc) 2 0 1] (lX 97 U 1 Uc 5 0 0 ((hs.f.q.q.q.q.q.q.q.q.2.1).ok oM) ?_))));refine lH 98 (qv (5/2)) hs ((hs.f.q.q.q.q.q.q.q.q.2.1).el 0 kD) (ag 99 hs ((by have q_:=oB (5/2) (5) 2 (LQ.mono (mf kR) kD) kD kD kD kD kD _ _ hs.g;rw[show gn (5/2) (mkR (5) 2)=true by kernel_rfl] at q_;exact q_)) (fun _ _ hs=>lL hs [.v 100 qT,.m 101 100,.v 102 (qP za 1),.o 103 (qS V 3 Vc) 2 1 1,.v 104 (iV 3),.v 105 qT,.v 106 qT,.m 107 106,.v 108 (qP za 1),.o 109 (qS V 3 Vc) 2 1 1] (lX 110 V 3 Vc 5 0 0 ((hs.f.q.q.q.q.q.q.q.q.1).ok oM) ?_)));refine lH 111 (qv 4) hs ((hs.f.q.q.q.q.q.q.q.q.1).el 0 kD) (ag 112 hs ((by have q_:=oB 4 (4) 1 (LQ.mono (mf kR) kD) kD kD kD kD kD _ _ hs.g;rw[show gn 4 (mkR (4) 1)=true by kernel_rfl] at q_;exact q_)) (fun _ _ hs=>lL hs [.v 113 qT,.m 114 113,.v 115 (qP za 1),.o 116 (qS V 3 Vc) 2 1 1] (lX 117 V 3 Vc 5 1 1 ((hs.f.q.q.q.q.q.q.q.q.1).ok oM) ?_)));refine lH 118 (qv 1) hs ((hs.f.q.q.q.q.q.q.q.q.1).el 1 kD) (ag 119 hs ((by have q_:=oB 1 (1) 1 (LQ.mono (mf kR) kD) kD kD kD kD kD _ _ hs.g;rw[show gn 1 (mkR (1) 1)=true by kernel_rfl] at q_;exact q_)) (fun _ _ hs=>lL hs [.v 120 qT,.m 121 120,.v 122 (qP za 1),.o 123 (qS V 3 Vc) 2 1 1] (lX 124 V 3 Vc 5 2 2 ((hs.f.q.q.q.q.q.q.q.q.1).ok oM) ?_)));refine lH 125 (qv (1/4)) hs ((hs.f.q.q.q.q.q.q.q.q.1).el 2 kD) (ag 126 hs ((by have q_:=oB (1/4) (1) 4 (LQ.mono (mf kR) kD) kD kD kD kD kD _ _ hs.g;rw[show gn (1/4) (mkR (1) 4)=true by kernel_rfl] at q_;exact q_)) (fun _ _ hs=>lL hs [.v 127 qT,.m 128 127,.m 129 9,.v 130 qT,.v 131 qT,.m 132 131,.m 133 11,.v 134 qT,.v 135 qT,.m 136 135,.m 137 13,.v 138 qT,.v 139 qT,.m 140 139,.m 141 15,.v 142 qT,.v 143 qT,.m 144 143,.m 145 16] (lR 146 3 3 ([iV 0,iV 1,iV 2]) hs (fun zi _ _ hs=>?_))));replace hs:=hs.aS (SlO.of_flat (sz:=1) (f:=dj) (d:=0) (b:=zi) (o:=0) (l:=([0,1,2]:List Int)) (fun _=>rfl) hs.f.1);refine ag 147 hs ((Dm As cs (sB zi) 3 _ _ hs.g hs.f.r.1 hs.f.1)) (fun _ _ hs=>lL hs [.v 148 qT,.m 0 148] (lN (bx [(0,qT)] ?_)));exact kX (hs.ret [] qT rfl)
end Go.Proofs.YtlgfpiiafagihaaGreatDoor
