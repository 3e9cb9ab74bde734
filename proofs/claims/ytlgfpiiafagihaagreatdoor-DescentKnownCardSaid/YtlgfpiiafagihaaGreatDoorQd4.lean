/- Laws and contracts that the card of this claim stands on, part 5. No condition of ours. -/
import Derived.Test.YtlgfpiiafagihaaGreatDoorQd0
import Derived.Test.YtlgfpiiafagihaaGreatDoorQd1
import Derived.Test.YtlgfpiiafagihaaGreatDoorQd2
import Derived.Test.YtlgfpiiafagihaaGreatDoorQd3
set_option maxRecDepth 100000
set_option maxHeartbeats 4000000
namespace Go.Proofs.YtlgfpiiafagihaaGreatDoor
open Go.RowKit
open Go.RowKit Go.Shelf
theorem fR (f:Nat→Nat){a b:Nat}(h:a≤b):cc f a≤cc f b:=by
 induction h with
 | refl=>exact Nat.le_refl _
 | step _ ih=>exact Nat.le_trans ih (Nat.le_add_right _ _)
def sn (op n:Int):Nat:=if op=11 then 2 else if op=8 then dR n else 1
theorem i5 (op n:Int):1≤sn op n:=by
 unfold sn dR
 split
 ·omega
 ·split
  ·split<;>omega
  ·omega
theorem Gh {d:Nat}{op n:Int}{q:Rat}{s:ByteArray}{ks:List Tm}(h:ks.length=0):gW (d+1) (.mk op n q s ks)=1:=if_pos h
theorem rq {d:Nat}{op n:Int}{q:Rat}{s:ByteArray}{ks:List Tm}(h:ks.length≠0):gW (d+1) (.mk op n q s ks)=sn op n*cc (fun i=>gW d (ks.getD i aZ)) ks.length:=if_neg h
theorem C4 {d:Nat}{op n:Int}{q:Rat}{s:ByteArray}{ks:List Tm}(h:ks.length≠0):cc (fun i=>gW d (ks.getD i aZ)) ks.length≤gW (d+1) (.mk op n q s ks):=by
 rw[rq h];exact Nat.le_mul_of_pos_left _ (i5 op n)
theorem kh {m s:Nat}(h:1≤m):min (m*min s 1001) 1001=min (m*s) 1001:=by
 rcases Nat.le_total s 1001 with e|e
 ·rw[Nat.min_eq_left e]
 ·rw[Nat.min_eq_right e,Nat.min_eq_right (Nat.le_trans e (Nat.le_mul_of_pos_left _ h)),Nat.min_eq_right (Nat.le_mul_of_pos_left _ h)]
theorem qn (op:Int)(w:World)(h:Hp)(g:G w h):CV 99 #[iV op] w h (iV (cC op)):=by
 have hs:=sS g;refine go Tryz.func99 [(0,iV op)] rfl (aa hs [.v 2 (iV 0)] (af (aa hs [.m 3 0] (bj (cQ (aE ?_))))));cases hb1:((op:Int) == (1:Int))
 ·
  have phb1:=ah hb1;refine lB 5 hb1 (lL hs [.m 4 5] (aj (kQ ?_)));cases hb2:((op:Int) == (2:Int))
  ·
   have phb2:=ah hb2;refine lB 6 hb2 (lL hs [.m 4 6] (aj (cQ (aE ?_))));cases hb3:((op:Int) == (7:Int))
   ·
    have phb3:=ah hb3;refine lB 8 hb3 (lL hs [.m 7 8] (aj (aE ?_)));cases hb4:((op:Int) == (8:Int))
    ·
     have phb4:=ah hb4;refine lB 9 hb4 (lL hs [.m 7 9] (aj (aE ?_)));cases hb5:((op:Int) == (9:Int))
     ·
      have phb5:=ah hb5;refine lB 10 hb5 (lL hs [.m 7 10] (aj (aE ?_)));cases hb6:((op:Int) == (10:Int))
      ·
       have phb6:=ah hb6;refine lB 11 hb6 (lL hs [.m 7 11] (aj (kQ ?_)));cases hb7:((op:Int) == (11:Int))
       ·
        have phb7:=ah hb7;refine lB 12 hb7 (lL hs [.m 7 12] (aj (cQ (aE ?_))));cases hb8:((op:Int) == (3:Int))
        ·
         have phb8:=ah hb8;refine lB 14 hb8 (lL hs [.m 13 14] (aj (aE ?_)));cases hb9:((op:Int) == (4:Int))
         ·
          have phb9:=ah hb9;refine lB 15 hb9 (lL hs [.m 13 15] (aj (aE ?_)));cases za:((op:Int) == (5:Int))
          ·
           have ze:=ah za;refine lB 16 za (lL hs [.m 13 16] (aj (aE ?_)));cases zb:((op:Int) == (6:Int))
           ·
            have zf:=ah zb;refine lB 17 zb (lL hs [.m 13 17] (aj (aE ?_)));cases zc:((op:Int) == (12:Int))
            ·
             have zg:=ah zc;refine lB 18 zc (lL hs [.m 13 18] (aj (kQ ?_)));cases zd:((op:Int) == (13:Int))
             ·
              have zi:=ah zd;exact lB 19 zd (lL hs [.m 13 19] (aj (cK (aa hs [.v 2 (iV (-1))] (ae hs [] (iV (-1)) (congrArg (Value.int .i64) (by have:=aG op;omega)))))))
             have zi:=eq_of_beq zd;exact lB 19 zd (lL hs [.m 13 19] (ao (aa hs [.v 2 (iV 2)] (ae hs [] (iV 2) (congrArg (Value.int .i64) (by have:=aG op;omega))))))
            have zg:=eq_of_beq zc;exact lB 18 zc (lL hs [.m 13 18] (ao (cK (bS (aa hs [.v 2 (iV 2)] (ae hs [] (iV 2) (congrArg (Value.int .i64) (by have:=aG op;omega))))))))
           have zf:=eq_of_beq zb;exact lB 17 zb (lL hs [.m 13 17] (ao (cK (bS (aa hs [.v 2 (iV 2)] (ae hs [] (iV 2) (congrArg (Value.int .i64) (by have:=aG op;omega))))))))
          have ze:=eq_of_beq za;exact lB 16 za (lL hs [.m 13 16] (ao (cK (bS (aa hs [.v 2 (iV 2)] (ae hs [] (iV 2) (congrArg (Value.int .i64) (by have:=aG op;omega))))))))
         have phb9:=eq_of_beq hb9;exact lB 15 hb9 (lL hs [.m 13 15] (ao (cK (bS (aa hs [.v 2 (iV 2)] (ae hs [] (iV 2) (congrArg (Value.int .i64) (by have:=aG op;omega))))))))
        have phb8:=eq_of_beq hb8;exact lB 14 hb8 (lL hs [.m 13 14] (ao (cK (bS (aa hs [.v 2 (iV 2)] (ae hs [] (iV 2) (congrArg (Value.int .i64) (by have:=aG op;omega))))))))
       have phb7:=eq_of_beq hb7;exact lB 12 hb7 (lL hs [.m 7 12] (ao (aa hs [.v 2 (iV 1)] (ae hs [] (iV 1) (congrArg (Value.int .i64) (by have:=aG op;omega))))))
      have phb6:=eq_of_beq hb6;exact lB 11 hb6 (lL hs [.m 7 11] (ao (cK (bS (aa hs [.v 2 (iV 1)] (ae hs [] (iV 1) (congrArg (Value.int .i64) (by have:=aG op;omega))))))))
     have phb5:=eq_of_beq hb5;exact lB 10 hb5 (lL hs [.m 7 10] (ao (cK (bS (aa hs [.v 2 (iV 1)] (ae hs [] (iV 1) (congrArg (Value.int .i64) (by have:=aG op;omega))))))))
    have phb4:=eq_of_beq hb4;exact lB 9 hb4 (lL hs [.m 7 9] (ao (cK (bS (aa hs [.v 2 (iV 1)] (ae hs [] (iV 1) (congrArg (Value.int .i64) (by have:=aG op;omega))))))))
   have phb3:=eq_of_beq hb3;exact lB 8 hb3 (lL hs [.m 7 8] (ao (cK (bS (aa hs [.v 2 (iV 1)] (ae hs [] (iV 1) (congrArg (Value.int .i64) (by have:=aG op;omega))))))))
  have phb2:=eq_of_beq hb2;exact lB 6 hb2 (lL hs [.m 4 6] (ao (aa hs [.v 2 (iV 0)] (ae hs [] (iV 0) (congrArg (Value.int .i64) (by have:=aG op;omega))))))
 have phb1:=eq_of_beq hb1;exact lB 5 hb1 (lL hs [.m 4 5] (ao (cK (bS (aa hs [.v 2 (iV 0)] (ae hs [] (iV 0) (congrArg (Value.int .i64) (by have:=aG op;omega))))))))
theorem DH (n:Int)(h0 : -12≤n)(h1:n≤12)(w:World)(h:Hp)(g:G w h):CV 100 #[iV n] w h (nV (dR n)):=by
 have hs:=sS g;refine go Tryz.func100 [(0,iV n)] rfl (aa hs [.v 2 (iV 0)] (af (aa hs [.m 3 0] ?_)));cases hb1:(decide ((n:Int)≤(-1073741824:Int)))
 ·
  have phb1:=oF hb1;refine lB 4 hb1 (lL hs [.m 5 4,.m 6 0] ?_);cases hb2:(decide ((1073741824:Int)≤(n:Int)))
  ·
   have phb2:=oF hb2;refine lB 7 hb2 (lL hs [.v 8 qF] (aj (cK (aa hs [.m 9 0,.m 10 0] (lI 11 (0-n) ?_)))));refine lV 12 (iV (max (max (n:Int) (0-n:Int)) (1:Int))) ?_ (hr:=ay (n:=(if (1:Int)>(if (0-n:Int)>(n:Int) then (0-n:Int) else (n:Int)) then (1:Int) else (if (0-n:Int)>(n:Int) then (0-n:Int) else (n:Int)))) kR (by simp only[l8]));exact lL hs [.m 2 12] (ae hs [] (iV (max (max (n:Int) (0-n:Int)) (1:Int))) (congrArg (Value.int .i64) (by unfold dR;(repeat' split)<;>omega)))
  have phb2:=oT hb2;exact lB 7 hb2 (lL hs [.v 8 qT] (ao (aa hs [.v 2 (iV 1073741824)] (ae hs [] (iV 1073741824) (congrArg (Value.int .i64) (by unfold dR;(repeat' split)<;>omega))))))
 have phb1:=oT hb1;refine lB 4 hb1 (lL hs [.m 5 4] (lG 6 ?_));exact lG 7 (lL hs [.v 8 qT] (ao (aa hs [.v 2 (iV 1073741824)] (ae hs [] (iV 1073741824) (congrArg (Value.int .i64) (by unfold dR;(repeat' split)<;>omega))))))
theorem vH  (sm:ByteArray→Prop)(d:Nat)(ih:∀ (p:PTm) (t:Tm) (most:Int) (w:World) (h:Hp),G w h→TmH d h p t→wq sm d t→(d:Int)≤most→most≤1000→Calls Tryz.prog 55 #[cZ p,iV most] w (Ret w h (fun v _=>v=.bool false)))(op n:Int)(q:Rat)(s:ByteArray)(A:Option Addr)(c:Nat)(ps:List PTm)(ks:List Tm)(hc:ps.length≤c)(hlp:ps.length≤3)(hk3:ks.length≤3)(hop : -1000≤op∧op≤1000)(hn : -1000≤n∧n≤1000)(hq:LQ 3000 q)(hsm:sm s)(hW:∀ i,i<ks.length→wq sm d (ks.getD i aZ))(most:Int)(hm:((d+1:Nat):Int)≤most)(hm2:most≤1000)(w:World)(h:Hp)(g:G w h)(hK:SlO 9 cu bu h A ps)(hKs:Tms d h ps ks):CV 55 #[cZ ⟨op,n,q,s,A,ps.length,c⟩,iV most] w h (.bool false):=by
 have hs:=(((sS g).aS hK).add (K:=fun h_=>Tms d h_ ps ks) hKs);have hln:=(hs.f.1).len;refine go Tryz.func55 [(0,cZ ⟨op,n,q,s,A,ps.length,c⟩),(1,iV most)] rfl (aE (lA 2 31 (cu ⟨op,n,q,s,A,ps.length,c⟩) hs (fun b1 w2 h3 hs=>lL hs [.v 4 qF] (af (aa hs [.m 7 1] ?_)))));cases hb4:(decide ((most:Int)<(1:Int)))
 ·
  have phb4:=oF hb4;refine lB 8 hb4 (aj (cK (cQ (aa hs [.v 9 (qP b1 8),.o 10 (qS A ps.length c) 0 8 1,.v 11 (nV ps.length),.v 12 (iV 0)] (bj ?_)))));refine bx _ (CG.loop (fun μ_ Γ w_=>∃ (k:Nat) (h_:Hp),μ_=ps.length-k∧Γ=[(1,iV most),(10,qS A ps.length c),(11,nV ps.length),(12,nV k)]∧SS w h w_ h_ [⟨b1,31,cu ⟨op,n,q,s,A,ps.length,c⟩⟩] [] [fun h_=>Tms d h_ ps ks,fun h_=>SlO 9 cu bu h_ A ps]∧k≤ps.length) _ ⟨0,h3,rfl,rfl,hs.to _ _,Nat.zero_le _⟩ ?_);rintro _ _ w5 ⟨k,h6,hm7,rfl,hs,hk⟩;refine aE ?_;cases hb8:(decide ((k:Int)<(ps.length:Int)))
  ·
   have phb8:=oF hb8;refine lB 13 hb8 (af (cM (CG.exit ?_)))
   show CG _ _ _ _ _ _ _ _
   exact aa hs [.v 4 qF] (ae hs [] qF rfl)
  have phb8:=oT hb8;refine lB 13 hb8 (af (bS (cK (cQ (kZ (aE (lX 14 A ps.length c 9 (k:Nat) k ((hs.f.2.1).ok oM) ?_)))))));refine lH 15 (cZ (ps.getD k bu)) hs ((hs.f.2.1).el k oM) (lA 6 31 ([iV 0,iV 0,qF,uV 0,eS,uV 0,eS,eS,sZ]) hs (fun b9 _ _ hs=>lP 0 0 (cu (ps.getD k bu)) hs (fun _ hs=>aT (lL hs [.o 16 (cZ (ps.getD k bu)) 0 0 9,.m 17 1] (lI 18 (most-1) ?_)))));refine ag 19 hs (ih (ps.getD k bu) (ks.getD k aZ) (most-1) _ _ hs.g ((hs.f.1).at_ k oM) (hW k oM) oM oM) (fun _ za hs=>aj (cK (kQ (bB 20 ((k:Nat)+1) (k+1) ?_))));refine lL hs [.m 12 20] (lD ?_);intro a_ ka;replace hs:=hs.drop 1 0;refine ⟨_,_,?_,⟨k+1,za,rfl,rfl,hs.to _ _,oM⟩,ka.to _ kR⟩
  omega
 have phb4:=oT hb4;refine lB 8 hb4 (ao (aa hs [.v 4 qT] (lN (kX ?_))))
 exfalso;omega
theorem q5 (sm:ByteArray→Prop):∀ (d:Nat) (p:PTm) (t:Tm) (most:Int) (w:World) (h:Hp),G w h→TmH d h p t→wq sm d t→(d:Int)≤most→most≤1000→Calls Tryz.prog 55 #[cZ p,iV most] w (Ret w h (fun v _=>v=.bool false))
  | 0,_,_,_,_,_,_,x,_,_,_=>x.elim
  | d+1,p,t,most,w,h,g,x,wf,hm,hm2=>by
    obtain ⟨op,n,q,s,A,c,ps,ks,rfl,rfl,hc,hK,hKs⟩:=x.open;obtain ⟨s1,s2,s3,s4,s5,s6⟩:=wf;have s1_:ks.length≤3:=s1;exact vH sm d (fun p t most w h=>q5 sm d p t most w h) op n q s A c ps ks hc (by have:=hKs.len;omega) s1 s2 s3 s4 s5 s6 most hm hm2 w h g hK hKs
theorem vy  (isb:ByteArray→Bool)(sm:ByteArray→Prop)(oB:∀ s,sm s→∀ (w:World) (h:Hp),G w h→Calls Tryz.prog 58 #[.string s] w (Ret w h (fun v _=>∃ b,v=.bool b∧b=isb s)))(d:Nat)(ih:∀ (p:PTm) (t:Tm) (w:World) (h:Hp),G w h→TmH d h p t→wq sm d t →  Calls Tryz.prog 56 #[cZ p] w (Ret w h (fun v _=>∃ bb,v=.bool bb∧(bb=true↔WfT (fun s=>isb s=true) d t))))(op n:Int)(q:Rat)(s:ByteArray)(A:Option Addr)(c:Nat)(ps:List PTm)(ks:List Tm)(hc:ps.length≤c)(hlp:ps.length≤3)(hk3:ks.length≤3)(hop : -1000≤op∧op≤1000)(hn : -1000≤n∧n≤1000)(hq:LQ 3000 q)(hsm:sm s)(hW:∀ i,i<ks.length→wq sm d (ks.getD i aZ))(w:World)(h:Hp)(g:G w h)(hK:SlO 9 cu bu h A ps)(hKs:Tms d h ps ks):CR 56 #[cZ ⟨op,n,q,s,A,ps.length,c⟩] w h (fun v _=>∃ bb,v=.bool bb∧(bb=true↔WfT (fun s=>isb s=true) (d+1) (.mk op n q s ks))):=by
 have hs:=(((sS g).aS hK).add (K:=fun h_=>Tms d h_ ps ks) hKs);have hln:=(hs.f.1).len;have hsg:q.num.sign=0↔q.num=0:=Int.sign_eq_zero_iff_zero;refine go Tryz.func56 [(0,cZ ⟨op,n,q,s,A,ps.length,c⟩)] rfl (aE (lA 1 31 (cu ⟨op,n,q,s,A,ps.length,c⟩) hs (fun b1 w2 h3 hs=>lL hs [.v 2 qF] (af (cQ (cR 7 [] mixed hs aq ?_))))));refine eV 0 5 (pB b1) (eO 1 6 [(0,0,1)] (iV op) hs (eV 3 8 (qP b1 8) (eO 4 9 [(0,8,1)] (qS A ps.length c) hs (eV 5 10 (nV ps.length) (ak 2 7 hs (fun _ _ hs=>qn op _ _ hs.g) (fun w4 h5 hs=>?_))))));cases hb6:((cC op:Int) != (ps.length:Int))
 ·
  have phb6:=aI hb6;refine eB 6 11 hb6 (bM hs (fun w7 h8 hs=>?_));refine tN (cM (cK (cQ (CG.join (fun Γ w_=>∃ (zm:Bool) (h_:Hp),Γ=[(1,pB b1),(2,qF),(20,.bool zm)]∧SS w h w_ h_ [⟨b1,31,cu ⟨op,n,q,s,A,ps.length,c⟩⟩] [] [fun h_=>Tms d h_ ps ks,fun h_=>SlO 9 cu bu h_ A ps]∧(zm=true→¬(op=1∨q.num=0))∧(zm=false→(op=1∨q.num=0))) ?_ ?_))))
  ·
   refine kQ (lL hs [.v 12 (pB b1),.o 13 (iV op) 0 0 1] ?_);cases hb9:((op:Int) != (1:Int))
   ·
    have phb9:=aI hb9;refine lB 14 hb9 (lL hs [.m 15 14] (lG 16 ?_));refine lG 17 (lG 18 (lG 19 (lL hs [.v 20 qF] (lD ?_))));intro a_ ka;exact ⟨_,⟨false,h8,rfl,hs.to _ _,(fun h_=>absurd h_ kD),(fun _=>by omega)⟩,ka.to _ kR⟩
   have phb9:=aJ hb9;refine lB 14 hb9 (lL hs [.m 15 14,.v 16 (qP b1 2),.o 17 (qv q) 0 2 5] (ag 18 hs (d6 q (hq.mono oM) _ _ hs.g) (fun _ zE hs=>?_)));cases za:((q.num.sign:Int) != (0:Int))
   ·
    have zt:=aI za;refine lB 19 za (lL hs [.v 20 qF] (lD ?_));intro a_ ka;exact ⟨_,⟨false,zE,rfl,hs.to _ _,(fun h_=>absurd h_ kD),(fun _=>by omega)⟩,ka.to _ kR⟩
   have zt:=aJ za;refine lB 19 za (lL hs [.v 20 qT] (lD ?_));intro a_ ka;exact ⟨_,⟨true,zE,rfl,hs.to _ _,(fun _=>by omega),(fun h_=>absurd h_ kD)⟩,ka.to _ kR⟩
  rintro _ _ ⟨zm,zF,rfl,hs,zH,hF20⟩;cases zb:(zm)
  ·
   try rw[zb] at hs
   try rw[zb]
   refine cM (cK (cQ (CG.join (fun Γ w_=>∃ (zn:Bool) (h_:Hp),Γ=[(1,pB b1),(2,qF),(39,.bool zn)]∧SS w h w_ h_ [⟨b1,31,cu ⟨op,n,q,s,A,ps.length,c⟩⟩] [] [fun h_=>Tms d h_ ps ks,fun h_=>SlO 9 cu bu h_ A ps]∧(zn=true→¬((op=2→isb s=true)∧(op≠2→s=⟨#[]⟩)))∧(zn=false→((op=2→isb s=true)∧(op≠2→s=⟨#[]⟩)))) ?_ ?_)))
   ·
    refine kQ (lL hs [.v 21 (pB b1),.o 22 (iV op) 0 0 1] ?_);cases zc:((op:Int) == (2:Int))
    ·
     have zu:=ah zc;refine lB 23 zc (lL hs [.m 24 23] (lG 25 ?_));refine lG 26 (lG 27 (lG 28 (lL hs [.v 29 qF,.m 30 29,.v 31 (pB b1),.o 32 (iV op) 0 0 1] ?_)));have zq:((op:Int) != (2:Int))=true:=Cr oM;have phb23:=aJ zq;refine lB 33 zq (lL hs [.m 34 33,.v 35 (qP b1 7),.o 36 (.string s) 0 7 1] ?_);cases zd:(n3 s (⟨#[]⟩))
     ·
      have zv:=An zd;refine lB 37 zd (lL hs [.v 38 qF,.v 39 qF] (lD ?_));intro a_ ka;exact ⟨_,⟨false,zF,rfl,hs.to _ _,(fun h_=>absurd h_ kD),(fun _=>⟨fun h_=>by first|exact hbi.symm.trans aM|exact absurd h_ oM,fun h_=>by first|assumption|exact absurd h_ oM⟩)⟩,ka.to _ kR⟩
     have zv:=xB zd;refine lB 37 zd (lL hs [.v 38 qT,.v 39 qT] (lD ?_));intro a_ ka;exact ⟨_,⟨true,zF,rfl,hs.to _ _,(fun _ h_=>by first|exact Bool.noConfusion ((h_.1 oM).symm.trans (hbi.symm.trans aM))|exact absurd (h_.2 oM) aM),(fun h_=>absurd h_ kD)⟩,ka.to _ kR⟩
    have zu:=eq_of_beq zc;refine lB 23 zc (lL hs [.m 24 23,.v 25 (qP b1 7),.o 26 (.string s) 0 7 1] (lC 27 hs (oB s hsm _ _ hs.g) ?_));rintro _ _ zG hs ⟨bi,rfl,hbi⟩;cases hb31:(bi)
    ·
     refine lL hs [.v 28 qT,.v 29 qT,.m 30 29] (lG 31 ?_);refine lG 32 (lG 33 (lG 34 (lG 35 (lG 36 (lG 37 (lG 38 (lL hs [.v 39 qT] (lD ?_))))))));intro a_ ka;exact ⟨_,⟨true,zG,rfl,hs.to _ _,(fun _ h_=>by first|exact Bool.noConfusion ((h_.1 oM).symm.trans (hbi.symm.trans aM))|exact absurd (h_.2 oM) aM),(fun h_=>absurd h_ kD)⟩,ka.to _ kR⟩
    refine lL hs [.v 28 qF,.v 29 qF,.m 30 29,.v 31 (pB b1),.o 32 (iV op) 0 0 1] ?_;have zs:((op:Int) != (2:Int))=false:=rP oM;have phb34:=aI zs;refine lB 33 zs (lL hs [.m 34 33] (lG 35 ?_));refine lG 36 (lG 37 (lL hs [.v 38 qF,.v 39 qF] (lD ?_)));intro a_ ka;exact ⟨_,⟨false,zG,rfl,hs.to _ _,(fun h_=>absurd h_ kD),(fun _=>⟨fun h_=>by first|exact hbi.symm.trans aM|exact absurd h_ oM,fun h_=>by first|assumption|exact absurd h_ oM⟩)⟩,ka.to _ kR⟩
   rintro _ _ ⟨zn,zo,rfl,hs,zI,hF39⟩;cases ze:(zn)
   ·
    try rw[ze] at hs
    try rw[ze]
    refine cM (cK (cQ (CG.join (fun Γ w_=>∃ (zp:Bool) (h_:Hp),Γ=[(1,pB b1),(2,qF),(57,.bool zp)]∧SS w h w_ h_ [⟨b1,31,cu ⟨op,n,q,s,A,ps.length,c⟩⟩] [] [fun h_=>Tms d h_ ps ks,fun h_=>SlO 9 cu bu h_ A ps]∧(zp=true→¬((op=8∨n=0) ∧ -12≤n∧n≤12))∧(zp=false→((op=8∨n=0) ∧ -12≤n∧n≤12))) ?_ ?_)))
    ·
     refine kQ (lL hs [.v 40 (pB b1),.o 41 (iV op) 0 0 1] ?_);cases zf:((op:Int) != (8:Int))
     ·
      have zw:=aI zf;refine lB 42 zf (lL hs [.m 43 42] (lG 44 ?_));refine lG 45 (lG 46 (lL hs [.v 47 qF,.m 48 47,.v 49 (qP b1 1),.o 50 (iV n) 0 1 1] ?_));cases zg:(decide ((n:Int)<(-12:Int)))
      ·
       have zx:=oF zg;refine lB 51 zg (lL hs [.v 52 qF,.m 53 52,.v 54 (qP b1 1),.o 55 (iV n) 0 1 1] ?_);cases zi:(decide ((12:Int)<(n:Int)))
       ·
        have zA:=oF zi;refine lB 56 zi (lL hs [.v 57 qF] (lD ?_));intro a_ ka;exact ⟨_,⟨false,zo,rfl,hs.to _ _,(fun h_=>absurd h_ kD),(fun _=>by omega)⟩,ka.to _ kR⟩
       have zA:=oT zi;refine lB 56 zi (lL hs [.v 57 qT] (lD ?_));intro a_ ka;exact ⟨_,⟨true,zo,rfl,hs.to _ _,(fun _=>by omega),(fun h_=>absurd h_ kD)⟩,ka.to _ kR⟩
      have zx:=oT zg;refine lB 51 zg (lL hs [.v 52 qT,.m 53 52] (lG 54 ?_));refine lG 55 (lG 56 (lL hs [.v 57 qT] (lD ?_)));intro a_ ka;exact ⟨_,⟨true,zo,rfl,hs.to _ _,(fun _=>by omega),(fun h_=>absurd h_ kD)⟩,ka.to _ kR⟩
     have zw:=aJ zf;refine lB 42 zf (lL hs [.m 43 42,.v 44 (qP b1 1),.o 45 (iV n) 0 1 1] ?_);cases zj:((n:Int) != (0:Int))
     ·
      have zB:=aI zj;refine lB 46 zj (lL hs [.v 47 qF,.m 48 47,.v 49 (qP b1 1),.o 50 (iV n) 0 1 1] ?_);have ⟨zJ,phb50⟩:=dF (p:=(n:Int)<(-12:Int)) oM;refine lB 51 zJ (lL hs [.v 52 qF,.m 53 52,.v 54 (qP b1 1),.o 55 (iV n) 0 1 1] ?_);have ⟨zK,phb51⟩:=dF (p:=(12:Int)<(n:Int)) oM;refine lB 56 zK (lL hs [.v 57 qF] (lD ?_));intro a_ ka;exact ⟨_,⟨false,zo,rfl,hs.to _ _,(fun h_=>absurd h_ kD),(fun _=>by omega)⟩,ka.to _ kR⟩
     have zB:=aJ zj;refine lB 46 zj (lL hs [.v 47 qT,.m 48 47] (lG 49 ?_));refine lG 50 (lG 51 (lL hs [.v 52 qT,.m 53 52] (lG 54 ?_)));refine lG 55 (lG 56 (lL hs [.v 57 qT] (lD ?_)));intro a_ ka;exact ⟨_,⟨true,zo,rfl,hs.to _ _,(fun _=>by omega),(fun h_=>absurd h_ kD)⟩,ka.to _ kR⟩
    rintro _ _ ⟨zp,zM,rfl,hs,zL,hF57⟩;cases zk:(zp)
    ·
     try rw[zk] at hs
     try rw[zk]
     refine cM (cK (cQ (aa hs [.v 58 (qP b1 8),.o 59 (qS A ps.length c) 0 8 1,.v 60 (nV ps.length),.v 61 (iV 0)] (bj ?_))));refine bx _ (CG.loop (fun μ_ Γ w_=>∃ (k:Nat) (h_:Hp),μ_=ps.length-k∧Γ=[(59,qS A ps.length c),(60,nV ps.length),(61,nV k)]∧SS w h w_ h_ [⟨b1,31,cu ⟨op,n,q,s,A,ps.length,c⟩⟩] [] [fun h_=>Tms d h_ ps ks,fun h_=>SlO 9 cu bu h_ A ps]∧k≤ps.length∧(∀ i,i<k→WfT (fun s=>isb s=true) d (ks.getD i aZ))) _ ⟨0,zM,rfl,rfl,hs.to _ _,Nat.zero_le _,(fun i hi=>absurd hi (Nat.not_lt_zero i))⟩ ?_);rintro _ _ _ ⟨k,_,hm61,rfl,hs,hk,hWk⟩;refine aE ?_;cases zl:(decide ((k:Int)<(ps.length:Int)))
     ·
      have zD:=oF zl;refine lB 62 zl (af (cM (CG.exit ?_)))
      show CG _ _ _ _ _ _ _ _
      exact aa hs [.v 2 qT] (ae hs [] qT (E0 ⟨by omega,hF20 aM,hF39 aM,hF57 aM⟩ hq (fun i hi=>hWk i oM)))
     have zD:=oT zl;refine lB 62 zl (af (bS (cK (cQ (kZ (aE (lX 63 A ps.length c 9 (k:Nat) k ((hs.f.2.1).ok oM) ?_)))))));refine lH 64 (cZ (ps.getD k bu)) hs ((hs.f.2.1).el k oM) (lA 4 31 ([iV 0,iV 0,qF,uV 0,eS,uV 0,eS,eS,sZ]) hs (fun b63 _ _ hs=>lP 0 0 (cu (ps.getD k bu)) hs (fun _ hs=>aT (lL hs [.o 65 (cZ (ps.getD k bu)) 0 0 9] (lC 66 hs (ih (ps.getD k bu) (ks.getD k aZ) _ _ hs.g ((hs.f.1).at_ k oM) (hW k oM)) ?_)))));rintro _ _ zN hs ⟨bk,rfl,hbk⟩;cases hb69:(bk)
     ·
      exact lL hs [.v 67 qT] (ao (aa hs [.v 2 qF] (ae hs [] qF (EQ (k:=k) oM aM hbk))))
     refine lL hs [.v 67 qF] (aj (cK (kQ (bB 68 ((k:Nat)+1) (k+1) ?_))));refine lL hs [.m 61 68] (lD ?_);intro a_ ka;replace hs:=hs.drop 1 0;refine ⟨_,_,?_,⟨k+1,zN,rfl,rfl,hs.to _ _,oM,(fun i hi=>by rcases Nat.lt_succ_iff_lt_or_eq.1 hi with h_|rfl;exact hWk i h_;exact hbk.1 aM)⟩,ka.to _ kR⟩
     omega
    try rw[zk] at hs
    try rw[zk]
    exact bS (aa hs [.v 2 qF] (ae hs [] qF (qH (fun h_=>zL aM h_.2.2.2))))
   try rw[ze] at hs
   try rw[ze]
   exact bS (aa hs [.v 2 qF] (ae hs [] qF (qH (fun h_=>zI aM h_.2.2.1))))
  try rw[zb] at hs
  try rw[zb]
  exact bS (aa hs [.v 2 qF] (ae hs [] qF (qH (fun h_=>zH aM h_.2.1))))
 have phb6:=aJ hb6;exact eB 6 11 hb6 (bM hs (fun _ _ hs=>tN (bS (aa hs [.v 2 qF] (ae hs [] qF (qH (fun h_=>absurd h_.1 oM)))))))
theorem oG (isb:ByteArray→Bool)(sm:ByteArray→Prop)(oB:∀ s,sm s→∀ (w:World) (h:Hp),G w h→Calls Tryz.prog 58 #[.string s] w (Ret w h (fun v _=>∃ b,v=.bool b∧b=isb s))):∀ (d:Nat) (p:PTm) (t:Tm) (w:World) (h:Hp),G w h→TmH d h p t→wq sm d t →  Calls Tryz.prog 56 #[cZ p] w (Ret w h (fun v _=>∃ bb,v=.bool bb∧(bb=true↔WfT (fun s=>isb s=true) d t)))
  | 0,_,_,_,_,_,x,_=>x.elim
  | d+1,p,t,w,h,g,x,wf=>by
    obtain ⟨op,n,q,s,A,c,ps,ks,rfl,rfl,hc,hK,hKs⟩:=x.open;obtain ⟨s1,s2,s3,s4,s5,s6⟩:=wf;have s1_:ks.length≤3:=s1;exact vy isb sm oB d (fun p t w h=>oG isb sm oB d p t w h) op n q s A c ps ks hc (by have:=hKs.len;omega) s1 s2 s3 s4 s5 s6 w h g hK hKs
theorem vO  (ok:ByteArray→Prop)(d:Nat)(ih:∀ (p:PTm) (t:Tm) (w:World) (h:Hp),G w h→TmH d h p t→WfT ok d t →  Calls Tryz.prog 57 #[cZ p,iV 1001] w (Ret w h (fun v _=>v=iV ((min (gW d t) 1001:Nat):Int))))(op n:Int)(q:Rat)(s:ByteArray)(A:Option Addr)(c:Nat)(ps:List PTm)(ks:List Tm)(hc:ps.length≤c)(hlp:ps.length≤2)(hari:cC op=(ks.length:Nat))(hq0:op≠1→q=0)(hq:LQ 3000 q)(hok:op=2→ok s)(hs0:op≠2→s=⟨#[]⟩)(hn0:op≠8→n=0)(hn1 : -12≤n)(hn2:n≤12)(hW:∀ i,i<ks.length→WfT ok d (ks.getD i aZ))(w:World)(h:Hp)(g:G w h)(hK:SlO 9 cu bu h A ps)(hKs:Tms d h ps ks):CV 57 #[cZ ⟨op,n,q,s,A,ps.length,c⟩,iV 1001] w h (iV ((min (gW (d+1) (.mk op n q s ks)) 1001:Nat):Int)):=by
 have hs:=(((sS g).aS hK).add (K:=fun h_=>Tms d h_ ps ks) hKs);have hln:=(hs.f.1).len;refine go Tryz.func57 [(0,cZ ⟨op,n,q,s,A,ps.length,c⟩),(1,iV 1001)] rfl (aE (lA 2 31 (cu ⟨op,n,q,s,A,ps.length,c⟩) hs (fun b1 w2 h3 hs=>lL hs [.v 4 (iV 0)] (af (aa hs [.v 8 (qP b1 8),.o 9 (qS A ps.length c) 0 8 1,.v 10 (nV ps.length)] ?_)))));cases hb4:((ps.length:Int) == (0:Int))
 ·
  have phb4:=ah hb4;refine lB 11 hb4 (aj (cK (aa hs [.v 5 (iV 0)] (af (aa hs [.v 14 (qP b1 8),.o 15 (qS A ps.length c) 0 8 1,.v 16 (nV ps.length),.v 17 (iV 0)] (bj ?_))))));refine bx _ (CG.loop (fun μ_ Γ w_=>∃ (k:Nat) (sm:Nat) (h_:Hp),μ_=ps.length-k∧Γ=[(1,iV 1001),(2,pB b1),(15,qS A ps.length c),(16,nV ps.length),(17,nV k),(5,nV sm)]∧SS w h w_ h_ [⟨b1,31,cu ⟨op,n,q,s,A,ps.length,c⟩⟩] [] [fun h_=>Tms d h_ ps ks,fun h_=>SlO 9 cu bu h_ A ps]∧k≤ps.length∧sm=min (cc (fun i=>gW d (ks.getD i aZ)) k) 1001) _ ⟨0,0,h3,rfl,rfl,hs.to _ _,Nat.zero_le _,rfl⟩ ?_);rintro _ _ w5 ⟨k,sm,h6,hm7,rfl,hs,hk,hsm⟩;have hs1:(cc (fun i=>gW d (ks.getD i aZ)) (k+1))=(cc (fun i=>gW d (ks.getD i aZ)) k)+gW d (ks.getD k aZ):=rfl;refine aE ?_;cases hb8:(decide ((k:Int)<(ps.length:Int)))
  ·
   have phb8:=oF hb8;refine lB 18 hb8 (af (cM (CG.exit ?_)))
   show CG _ _ _ _ _ _ _ _
   refine cQ (aa hs [.v 33 (pB b1),.o 34 (iV op) 0 0 1] (bj (aE ?_)));cases hb9:((op:Int) == (11:Int))
   ·
    have phb9:=ah hb9;refine lB 36 hb9 (lL hs [.m 35 36] (aj (aE ?_)));cases za:((op:Int) == (8:Int))
    ·
     have zc:=ah za;refine lB 40 za (lL hs [.m 39 40] (aj (cK (aa hs [.m 46 5,.m 47 1] (lV 48 (iV (min (sm:Int) (1001:Int))) ?_ (hr:=ay (n:=(if (1001:Int)<(sm:Int) then (1001:Int) else (sm:Int))) kR (by simp only[uo])))))));refine lL hs [.m 4 48] (lN (kX ?_));have hkn:k=ks.length:=by omega
     have hw_:=rq (d:=d) (op:=op) (n:=n) (q:=q) (s:=s) (ks:=ks) oM;have hm_:=kh (s:=(cc (fun i=>gW d (ks.getD i aZ)) k)) (i5 op n);rw[←hkn] at hw_
     rw[←hw_,←hsm] at hm_
     exact hs.ret [] (iV (min (sm:Int) (1001:Int))) (congrArg (Value.int .i64) (by rw[←hm_];unfold sn;first|(rw[if_pos oM];(repeat' split)<;>omega)|(rw[if_neg oM,if_pos oM,Nat.mul_comm];(repeat' split)<;>omega)|(rw[if_neg oM,if_neg oM];(repeat' split)<;>omega)))
    have zc:=eq_of_beq za;refine lB 40 za (lL hs [.m 39 40] (ao (kQ (lL hs [.m 41 5,.v 42 (qP b1 1),.o 43 (iV n) 0 1 1] (ag 44 hs (DH n oM oM _ _ hs.g) (fun _ _ hs=>?_))))));have htm:dR n≤12∧1≤dR n:=by unfold dR;split<;>omega
    have hmb:sm*dR n≤1001*12:=Nat.mul_le_mul oM oM;refine lI 45 ((sm:Nat)*(dR n:Nat)) (lL hs [.m 5 45] (aT (lL hs [.m 46 5,.m 47 1] (lV 48 (iV (min ((sm:Nat)*(dR n:Nat):Int) (1001:Int))) ?_ (hr:=ay (n:=(if (1001:Int)<((sm:Nat)*(dR n:Nat):Int) then (1001:Int) else ((sm:Nat)*(dR n:Nat):Int))) kR (by simp only[uo]))))));refine lL hs [.m 4 48] (lN (kX ?_));have hkn:k=ks.length:=by omega
    have hw_:=rq (d:=d) (op:=op) (n:=n) (q:=q) (s:=s) (ks:=ks) oM;have hm_:=kh (s:=(cc (fun i=>gW d (ks.getD i aZ)) k)) (i5 op n);rw[←hkn] at hw_
    rw[←hw_,←hsm] at hm_
    exact hs.ret [] (iV (min ((sm:Nat)*(dR n:Nat):Int) (1001:Int))) (congrArg (Value.int .i64) (by rw[←hm_];unfold sn;first|(rw[if_pos oM];(repeat' split)<;>omega)|(rw[if_neg oM,if_pos oM,Nat.mul_comm];(repeat' split)<;>omega)|(rw[if_neg oM,if_neg oM];(repeat' split)<;>omega)))
   have phb9:=eq_of_beq hb9;refine lB 36 hb9 (lL hs [.m 35 36] (ao (kQ (lL hs [.m 37 5] (lI 38 ((sm:Nat)*2) ?_)))));refine lL hs [.m 5 38] (aT (lL hs [.m 46 5,.m 47 1] (lV 48 (iV (min ((sm:Nat)*2:Int) (1001:Int))) ?_ (hr:=ay (n:=(if (1001:Int)<((sm:Nat)*2:Int) then (1001:Int) else ((sm:Nat)*2:Int))) kR (by simp only[uo])))));refine lL hs [.m 4 48] (lN (kX ?_));have hkn:k=ks.length:=by omega
   have hw_:=rq (d:=d) (op:=op) (n:=n) (q:=q) (s:=s) (ks:=ks) oM;have hm_:=kh (s:=(cc (fun i=>gW d (ks.getD i aZ)) k)) (i5 op n);rw[←hkn] at hw_
   rw[←hw_,←hsm] at hm_
   exact hs.ret [] (iV (min ((sm:Nat)*2:Int) (1001:Int))) (congrArg (Value.int .i64) (by rw[←hm_];unfold sn;first|(rw[if_pos oM];(repeat' split)<;>omega)|(rw[if_neg oM,if_pos oM,Nat.mul_comm];(repeat' split)<;>omega)|(rw[if_neg oM,if_neg oM];(repeat' split)<;>omega)))
  have phb8:=oT hb8;refine lB 18 hb8 (af (bS (cK (cQ (kZ (aE (lX 19 A ps.length c 9 (k:Nat) k ((hs.f.2.1).ok oM) ?_)))))));refine lH 20 (cZ (ps.getD k bu)) hs ((hs.f.2.1).el k oM) (lA 7 31 ([iV 0,iV 0,qF,uV 0,eS,uV 0,eS,eS,sZ]) hs (fun b13 _ _ hs=>lP 0 0 (cu (ps.getD k bu)) hs (fun _ hs=>aT (lL hs [.m 21 5,.o 22 (cZ (ps.getD k bu)) 0 0 9,.m 23 1] (ag 24 hs (ih (ps.getD k bu) (ks.getD k aZ) _ _ hs.g ((hs.f.1).at_ k oM) (hW k oM)) (fun _ ze hs=>lI 25 ((sm:Nat)+((min (gW d (ks.getD k aZ)) 1001:Nat):Int)) (lL hs [.m 26 1] (lV 27 (iV ((min (cc (fun i=>gW d (ks.getD i aZ)) (k+1)) 1001:Nat):Int)) ?_ (hr:=ay (n:=if (1001:Int)<((sm:Nat)+((min (gW d (ks.getD k aZ)) 1001:Nat):Int)) then (1001:Int) else ((sm:Nat)+((min (gW d (ks.getD k aZ)) 1001:Nat):Int))) kR (by split<;>omega))))))))));refine lL hs [.m 5 27] (aT (lL hs [.m 28 5,.m 29 1] ?_));cases zb:((((min (cc (fun i=>gW d (ks.getD i aZ)) (k+1)) 1001:Nat):Int):Int) == (1001:Int))
  ·
   have zd:=ah zb;refine lB 30 zb (aj (cK (kQ (bB 32 ((k:Nat)+1) (k+1) ?_))));refine lL hs [.m 17 32] (lD ?_);intro a_ ka;replace hs:=hs.drop 1 0;refine ⟨_,_,?_,⟨k+1,(min (cc (fun i=>gW d (ks.getD i aZ)) (k+1)) 1001),ze,rfl,rfl,hs.to _ _,oM,rfl⟩,ka.to _ kR⟩
   omega
  have zd:=eq_of_beq zb;exact lB 30 zb (ao (aa hs [.m 31 1,.m 4 31] (ae hs [] (iV 1001) (congrArg (Value.int .i64) (by have h1_:=fR (fun i=>gW d (ks.getD i aZ)) (show k+1≤ks.length by omega);have h2_:=C4 (d:=d) (op:=op) (n:=n) (q:=q) (s:=s) (ks:=ks) oM;omega)))))
 have phb4:=eq_of_beq hb4;exact lB 11 hb4 (ao (aa hs [.m 12 1,.v 13 (iV 1),.m 4 13] (ae hs [] (iV 1) (congrArg (Value.int .i64) (by rw[Gh oM];first|rfl|omega)))))
theorem ox (ok:ByteArray→Prop):∀ (d:Nat) (p:PTm) (t:Tm) (w:World) (h:Hp),G w h→TmH d h p t→WfT ok d t →  Calls Tryz.prog 57 #[cZ p,iV 1001] w (Ret w h (fun v _=>v=iV ((min (gW d t) 1001:Nat):Int)))
  | 0,_,_,_,_,_,x,_=>x.elim
  | d + 1,p,t,w,h,g,x,wf=>by
    obtain ⟨op,n,q,s,A,c,ps,ks,rfl,rfl,hc,hK,hKs⟩:=x.open;obtain ⟨w1,w2,w3,w4,w5,w6,w7,w8,w9⟩:=wf
    have hl2:ps.length≤2:=by
      have e1:cC op=ks.length:=w1;have:=aG op;have:=hKs.len
      omega
    exact vO ok d (fun p t w h=>ox ok d p t w h) op n q s A c ps ks hc hl2 w1 w2 w3 w4 w5 w6 w7 w8 w9 w h g hK hKs
def tr (nm:Int→ByteArray)(l:List Stp)(i:Nat):Tm:=m0 nm l (l.length+1) i
structure DpS (dp:Nat→Nat) (l:List Stp):Prop where
  one:∀ k,k<l.length→1≤dp k
  le:∀ k,k<l.length→dp k≤20
  a:∀ k,k<l.length→0<cC (l.getD k ac).op→dp (l.getD k ac).a.toNat<dp k
  b:∀ k,k<l.length→1<cC (l.getD k ac).op→dp (l.getD k ac).b.toNat<dp k
section
variable {nm:Int→ByteArray} {l:List Stp} {inp:Int} {dp:Nat→Nat}
end
def bw:Nat→Tm→Nat
  | 0,_=>0
  | d+1,t=>1+cc (fun i=>bw d (t.ks.getD i aZ)) t.ks.length
def fv (f:List Stp→Tm→List Stp)(ks:List Tm)(l:List Stp):Nat→List Stp × Int × Int
  | 0=>(l,0,0)
  | k+1=>(f (fv f ks l k).1 (ks.getD k aZ),if k=0 then (((f (fv f ks l k).1 (ks.getD k aZ)).length:Nat):Int)-1 else (fv f ks l k).2.1,if k=0 then (fv f ks l k).2.2 else (((f (fv f ks l k).1 (ks.getD k aZ)).length:Nat):Int)-1)
def bg (pl:ByteArray→Int):Nat→List Stp→Tm→List Stp
  | 0,l,_=>l
  | d+1,l,t=>(fv (bg pl d) t.ks l t.ks.length).1++[⟨t.op,(fv (bg pl d) t.ks l t.ks.length).2.1,(fv (bg pl d) t.ks l t.ks.length).2.2,if t.op=2 then pl t.s else t.n,t.q⟩]
def jq:Nat→Tm→ByteArray→Prop
  | 0,_,_=>False
  | d+1,t,s=>(t.op=2∧s=t.s)∨∃ i,i<t.ks.length∧jq d (t.ks.getD i aZ) s
def HasK (d:Nat)(ks:List Tm)(k:Nat)(s:ByteArray):Prop:=∃ i,i<k∧jq d (ks.getD i aZ) s
theorem HasK.zero {d:Nat}{ks:List Tm}{s:ByteArray}:¬HasK d ks 0 s:=fun ⟨i,h,_⟩=>absurd h (Nat.not_lt_zero i)
theorem HasK.succ {d:Nat}{ks:List Tm}{k:Nat}{s:ByteArray}:HasK d ks (k+1) s↔HasK d ks k s∨jq d (ks.getD k aZ) s:=by
 constructor
 ·rintro ⟨i,hi,h⟩
  by_cases e:i=k
  ·subst e;exact .inr h
  ·exact .inl ⟨i,by omega,h⟩
 ·rintro (⟨i,hi,h⟩|h)
  ·exact ⟨i,by omega,h⟩
  ·exact ⟨k,by omega,h⟩
theorem WfT1.names {ok p:ByteArray→Prop}:∀ {d:Nat} {t:Tm},WfT1 ok d t→(∀ s,jq d t s→p s)→WfT1 (fun s=>ok s∧p s) d t
 | d+1,t,⟨h1,h2,h3,h4,h5,h6,h7,h8,h9⟩,h=>⟨h1,h2,h3,fun e=>⟨h4 e,h _ (.inl ⟨e,rfl⟩)⟩,h5,h6,h7,h8,fun i hi=>WfT1.names (h9 i hi) (fun s hs=>h s (.inr ⟨i,hi,hs⟩))⟩
theorem mR {ok:ByteArray→Prop}:∀ {d:Nat} {t:Tm} {s:ByteArray},WfT1 ok d t→jq d t s→ok s
 | d+1,t,s,w,.inl ⟨h1,h2⟩=>by rw[h2];exact w.2.2.2.1 h1
 | d+1,t,s,w,.inr ⟨i,hi,h⟩=>mR (w.2.2.2.2.2.2.2.2 i hi) h
theorem WfT1.two {ok:ByteArray→Prop}{d:Nat}{t:Tm}(h:WfT1 ok (d+1) t):t.ks.length≤2:=by
 have:=h.1;have:=aG t.op
 omega
theorem jQ {f:Nat→Nat}{b:Nat}:∀ n,(∀ i,i<n→f i≤b)→cc f n≤n*b
  | 0,_=>by simp[cc]
  | n+1,h=>by
    have h1:=jQ n (fun i hi=>h i oM);have h2:=h n (Nat.lt_succ_self n)
    show cc f n+f n≤_
    rw[Nat.succ_mul];omega
theorem kO {ok:ByteArray→Prop}:∀ {d:Nat} {t:Tm},WfT1 ok d t→bw d t+1≤2^d
  | d+1,t,w=>by
    have h2:=w.two;have hs:=jQ (f:=fun i=>bw d (t.ks.getD i aZ)) (b:=2^d-1) t.ks.length (fun i hi=>by have:=kO (w.2.2.2.2.2.2.2.2 i hi);show bw d _≤_;omega);have hp:0<2^d:=Nat.two_pow_pos d;have hm:t.ks.length*(2^d-1)≤2*(2^d-1):=Nat.mul_le_mul_right _ h2
    show 1+cc _ _+1≤2^(d+1)
    rw[Nat.pow_succ];omega
theorem fM {nm:Int→ByteArray}{l m:List Stp}{inp:Int}(hF:∀ k,k<l.length→Formed inp k (l.getD k ac)):∀ (f i:Nat),i<l.length→m0 nm (l++m) f i=m0 nm l f i
  | 0,i,_=>rfl
  | f + 1,i,hi=>by
    have e:(l++m).getD i ac=l.getD i ac:=by rw[List.getD_eq_getElem?_getD,List.getElem?_append_left hi,←List.getD_eq_getElem?_getD]
    obtain ⟨o1,o2,_,_⟩:=(hF i hi).opr
    unfold m0
    rw[e]
    split
    · rfl
    · split
      · rw[fM hF f _ (by have:=o1 oM;omega)]
      · split
        · rw[fM hF f _ (by have:=o1 oM;omega),fM hF f (l.getD i ac).b.toNat (by have:=o2 oM;omega)]
        · rfl
theorem j4 {dp:Nat→Nat}{l:List Stp}{s:Stp}{e:Nat}(h:DpS dp l)(e1:1≤e)(e2:e≤20)(ha:0<cC s.op→s.a.toNat<l.length∧dp s.a.toNat<e)(hb:1<cC s.op→s.b.toNat<l.length∧dp s.b.toNat<e)(hF:∀ k,k<l.length→(0<cC (l.getD k ac).op→(l.getD k ac).a.toNat<k)∧(1<cC (l.getD k ac).op→(l.getD k ac).b.toNat<k)):DpS (fun k=>if k<l.length then dp k else e) (l++[s]):=by
 have hl:(l++[s]).length=l.length+1:=by simp
 refine ⟨fun k hk=>?_,fun k hk=>?_,fun k hk h1=>?_,fun k hk h1=>?_⟩
 ·show 1≤if k<l.length then dp k else e
  split
  ·rename_i c;exact h.one k c
  ·exact e1
 ·show (if k<l.length then dp k else e)≤20
  split
  ·rename_i c;exact h.le k c
  ·exact e2
 ·rw[cG] at h1 ⊢
  by_cases c:k<l.length
  ·rw[if_pos c] at h1 ⊢
   have:=(hF k c).1 h1
   show (if _<l.length then dp _ else e)<if k<l.length then dp k else e
   rw[if_pos c,if_pos oM];exact h.a k c h1
  ·obtain rfl:k=l.length:=by omega
   rw[if_neg c,if_pos rfl] at h1 ⊢
   show (if _<l.length then dp _ else e)<if l.length<l.length then dp _ else e
   rw[if_neg c,if_pos (ha h1).1];exact (ha h1).2
 ·rw[cG] at h1 ⊢
  by_cases c:k<l.length
  ·rw[if_pos c] at h1 ⊢
   have:=(hF k c).2 h1
   show (if _<l.length then dp _ else e)<if k<l.length then dp k else e
   rw[if_pos c,if_pos oM];exact h.b k c h1
  ·obtain rfl:k=l.length:=by omega
   rw[if_neg c,if_pos rfl] at h1 ⊢
   show (if _<l.length then dp _ else e)<if l.length<l.length then dp _ else e
   rw[if_neg c,if_pos (hb h1).1];exact (hb h1).2
theorem jm {inp:Int}{l:List Stp}(hF:∀ k,k<l.length→Formed inp k (l.getD k ac)):∀ k,k<l.length→(0<cC (l.getD k ac).op→(l.getD k ac).a.toNat<k)∧(1<cC (l.getD k ac).op→(l.getD k ac).b.toNat<k):=fun k hk=>⟨(hF k hk).opr.1,(hF k hk).opr.2.1⟩
theorem kN {l:List Stp}{s:Stp}(h:∀ i,LQ 1 (l.getD i ac).q)(hs:LQ 1 s.q):∀ i,LQ 1 ((l++[s]).getD i ac).q:=fun i=>by
 rw[cG]
 by_cases c:i<l.length
 ·rw[if_pos c];exact h i
 ·rw[if_neg c]
  by_cases e:i=l.length
  ·rw[if_pos e];exact hs
  ·rw[if_neg e];exact j1 kD
structure RecOk (nm:Int→ByteArray) (inp:Int) (d:Nat) (l:List Stp) (l2:List Stp) (n:Nat) (t:Tm):Prop where
  lq:(∀ i,LQ 1 (l.getD i ac).q)→∀ i,LQ 1 (l2.getD i ac).q
  dps:∀ dp,DpS dp l→∃ dp',DpS dp' l2∧(∀ k,k<l.length→dp' k=dp k)∧dp' (l2.length-1)≤d
  pre:∃ m,l2=l++m
  len:l2.length=l.length+n
  pos:0<n
  fm:∀ k,k<l2.length→Formed inp k (l2.getD k ac)
  tr:∀ f,l2.length≤f→m0 nm l2 f (l2.length-1)=t
def AZ (nm:Int→ByteArray)(pl:ByteArray→Int)(inp:Int)(s:ByteArray):Prop:=nm (pl s)=s∧0≤pl s∧pl s<inp
theorem mE {t:Tm}{op n:Int}{q:Rat}{s:ByteArray}{ks:List Tm}(h1:t.op=op)(h2:t.n=n)(h3:t.q=q)(h4:t.s=s)(h5:t.ks=ks):Tm.mk op n q s ks=t:=by
 cases t;subst h1 h2 h3 h4 h5;rfl
theorem tK {α:Type}{l:List α}{d:α}(h:l.length=1):l=[l.getD 0 d]:=by
 match l,h with
 | [a],_=>rfl
theorem tI {α:Type}{l:List α}{d:α}(h:l.length=2):l=[l.getD 0 d,l.getD 1 d]:=by
 match l,h with
 | [a,b],_=>rfl
theorem gJ {inp:Int}{l:List Stp}{s:Stp}(hF:∀ k,k<l.length→Formed inp k (l.getD k ac))(hs:Formed inp l.length s):∀ k,k<(l++[s]).length→Formed inp k ((l++[s]).getD k ac):=fun k hk=>by
 rw[List.length_append,List.length_singleton] at hk
 rw[cG]
 by_cases e:k<l.length
 ·rw[if_pos e];exact hF k e
 ·obtain rfl:k=l.length:=by omega
  rw[if_neg e,if_pos rfl];exact hs
theorem jn {l:List Stp}{s:Stp}:(l++[s]).getD l.length ac=s:=by rw[cG,if_neg (Nat.lt_irrefl _),if_pos rfl]
theorem m7 {ok:ByteArray→Prop}{nm:Int→ByteArray}{pl:ByteArray→Int}{inp:Int}(hok:∀ s,ok s→AZ nm pl inp s):∀ (d:Nat) (t:Tm) (l:List Stp),d≤20→WfT1 ok d t→(∀ k,k<l.length→Formed inp k (l.getD k ac))→RecOk nm inp d l (bg pl d l t) (bw d t) t
  | d + 1,t,l,hd,w,hF=>by
    obtain ⟨w1,w2,w3,w4,w5,w6,w7,w8,w9⟩:=w;have hc:=aG t.op;have hq:t.op≠1→t.q.num=0:=fun h=>by rw[w2 h];rfl
    rcases (show t.ks.length=0∨t.ks.length=1∨t.ks.length=2 by omega) with h0|h1|h2
    · have e:bg pl (d+1) l t=l++[⟨t.op,0,0,if t.op=2 then pl t.s else t.n,t.q⟩]:=by unfold bg;rw[h0];rfl
      have a0:cC t.op=0:=by rw[w1,h0];rfl
      have hf:Formed inp l.length ⟨t.op,0,0,if t.op=2 then pl t.s else t.n,t.q⟩:=by
        refine ⟨by show 0≤cC t.op;omega,⟨fun h=>absurd (show 0<cC t.op from h) oM,fun _=>rfl⟩,⟨fun h=>absurd (show 1<cC t.op from h) oM,fun _=>rfl⟩,hq,fun h=>?_,fun h=>?_,fun h _=>?_⟩
        · show 0≤(if t.op=2 then pl t.s else t.n)∧(if t.op=2 then pl t.s else t.n)<inp
          rw[if_pos h];exact (hok _ (w4 h)).2
        · exact absurd (show t.op=8 from h) oM
        · show (if t.op=2 then pl t.s else t.n)=0
          rw[if_neg h];exact w6 oM
      have ec:bw (d+1) t=1:=by unfold bw;rw[h0];rfl
      rw[e,ec];refine ⟨fun hl=>kN hl w3,fun dp hp=>⟨_,j4 (e:=d+1) hp oM oM (fun h=>absurd (show 0<cC t.op from h) oM) (fun h=>absurd (show 1<cC t.op from h) oM) (jm hF),fun k hk=>if_pos hk,by simp⟩,⟨_,rfl⟩,by simp,by omega,gJ hF hf,fun f hf'=>?_⟩;obtain ⟨g,rfl⟩:∃ g,f=g+1:=⟨f-1,by simp at hf';omega⟩;rw[show (l++[(⟨t.op,0,0,if t.op=2 then pl t.s else t.n,t.q⟩:Stp)]).length-1=l.length by simp]
      unfold m0
      rw[jn];have hks:t.ks=[]:=List.eq_nil_of_length_eq_zero h0
      by_cases e2:t.op=2
      · rw[if_pos e2]
        exact mE e2 (w6 oM) (w2 oM) (by rw[if_pos e2];exact (hok _ (w4 e2)).1.symm) hks
      · rw[if_neg e2,if_neg (show ¬cC t.op=1 by omega),if_neg (show ¬cC t.op=2 by omega)]
        exact mE rfl (w6 oM) rfl (w5 e2) hks
    · have r1:=m7 hok d (t.ks.getD 0 aZ) l oM (w9 0 oM) hF
      have e:bg pl (d+1) l t=bg pl d l (t.ks.getD 0 aZ)++[⟨t.op,(((bg pl d l (t.ks.getD 0 aZ)).length:Nat):Int)-1,0,if t.op=2 then pl t.s else t.n,t.q⟩]:=by
        conv=>lhs;unfold bg
        rw[h1];rfl
      have a1:cC t.op=1:=by rw[w1,h1];rfl
      have hl:=r1.len;have hp:=r1.pos
      generalize bg pl d l (t.ks.getD 0 aZ)=m at r1 e hl
      have hf:Formed inp m.length ⟨t.op,((m.length:Nat):Int)-1,0,if t.op=2 then pl t.s else t.n,t.q⟩:=by
        refine ⟨by show 0≤cC t.op;omega,⟨fun _=>?_,fun h=>absurd (show 0<cC t.op by omega) h⟩,⟨fun h=>absurd (show 1<cC t.op from h) oM,fun _=>rfl⟩,hq,fun h=>absurd (show t.op=2 from h) oM,fun h=>?_,fun h h8=>?_⟩
        · show 0≤((m.length:Nat):Int)-1∧((m.length:Nat):Int)-1<(m.length:Nat)
          omega
        · show -12≤(if t.op=2 then pl t.s else t.n)∧(if t.op=2 then pl t.s else t.n)≤12
          rw[if_neg oM];exact ⟨w7,w8⟩
        · show (if t.op=2 then pl t.s else t.n)=0
          rw[if_neg h];exact w6 h8
      have ec:bw (d+1) t=1+(0+bw d (t.ks.getD 0 aZ)):=by
        conv=>lhs;unfold bw
        rw[h1];rfl
      rw[e,ec];obtain ⟨pm,rfl⟩:=r1.pre;refine ⟨fun hl=>kN (r1.lq hl) w3,fun dp hp=>?_,⟨pm++[_],by rw[List.append_assoc]⟩,by rw[List.length_append,hl];simp;omega,by omega,gJ r1.fm hf,fun f hf'=>?_⟩
      · obtain ⟨dp1,q1,q2,q3⟩:=r1.dps dp hp
        refine ⟨_,j4 (e:=d+1) q1 oM oM (fun _=>⟨by show ((((l++pm).length:Nat):Int)-1).toNat<_;omega,by show dp1 ((((l++pm).length:Nat):Int)-1).toNat<_;rw[show ((((l++pm).length:Nat):Int)-1).toNat=(l++pm).length-1 by omega];omega⟩) (fun h=>absurd (show 1<cC t.op from h) oM) (jm r1.fm),fun k hk=>?_,by simp⟩
        show (if k<(l++pm).length then dp1 k else d+1)=dp k
        rw[if_pos oM];exact q2 k hk
      obtain ⟨g,rfl⟩:∃ g,f=g+1:=⟨f-1,by simp at hf';omega⟩
      generalize l++pm=m at r1 e hl hf hf' ⊢
      rw[show (m++[(⟨t.op,((m.length:Nat):Int)-1,0,if t.op=2 then pl t.s else t.n,t.q⟩:Stp)]).length-1=m.length by simp];rw[List.length_append,List.length_singleton] at hf'
      conv=>lhs;unfold m0
      rw[jn]
      show (if t.op=2 then _ else if cC t.op=1 then Tm.mk t.op (if t.op=2 then pl t.s else t.n) 0 ⟨#[]⟩ [m0 nm _ g (((m.length:Nat):Int)-1).toNat] else _)=t
      rw[if_neg oM,if_pos a1,if_neg oM,show (((m.length:Nat):Int)-1).toNat=m.length-1 by omega,fM r1.fm _ _ oM,r1.tr g oM];exact mE rfl rfl (w2 oM) (w5 oM) (tK h1)
    · have r1:=m7 hok d (t.ks.getD 0 aZ) l oM (w9 0 oM) hF
      have r2:=m7 hok d (t.ks.getD 1 aZ) (bg pl d l (t.ks.getD 0 aZ)) oM (w9 1 oM) r1.fm
      have e:bg pl (d+1) l t=bg pl d (bg pl d l (t.ks.getD 0 aZ)) (t.ks.getD 1 aZ)++[⟨t.op,(((bg pl d l (t.ks.getD 0 aZ)).length:Nat):Int)-1,(((bg pl d (bg pl d l (t.ks.getD 0 aZ)) (t.ks.getD 1 aZ)).length:Nat):Int)-1,if t.op=2 then pl t.s else t.n,t.q⟩]:=by
        conv=>lhs;unfold bg
        rw[h2];rfl
      have a2:cC t.op=2:=by rw[w1,h2];rfl
      have hl1:=r1.len;have hp1:=r1.pos;have hl2:=r2.len;have hp2:=r2.pos
      have ec:bw (d+1) t=1+(0+bw d (t.ks.getD 0 aZ)+bw d (t.ks.getD 1 aZ)):=by
        conv=>lhs;unfold bw
        rw[h2];rfl
      rw[e,ec]
      generalize bg pl d (bg pl d l (t.ks.getD 0 aZ)) (t.ks.getD 1 aZ)=z at r2 e hl2 ⊢
      generalize bg pl d l (t.ks.getD 0 aZ)=m at r1 r2 e hl1 hl2 ⊢
      have hf:Formed inp z.length ⟨t.op,((m.length:Nat):Int)-1,((z.length:Nat):Int)-1,if t.op=2 then pl t.s else t.n,t.q⟩:=by
        refine ⟨by show 0≤cC t.op;omega,⟨fun _=>?_,fun h=>absurd (show 0<cC t.op by omega) h⟩,⟨fun _=>?_,fun h=>absurd (show 1<cC t.op by omega) h⟩,hq,fun h=>absurd (show t.op=2 from h) oM,fun h=>absurd (show t.op=8 from h) oM,fun h h8=>?_⟩
        · show 0≤((m.length:Nat):Int)-1∧((m.length:Nat):Int)-1<(z.length:Nat)
          omega
        · show 0≤((z.length:Nat):Int)-1∧((z.length:Nat):Int)-1<(z.length:Nat)
          omega
        · show (if t.op=2 then pl t.s else t.n)=0
          rw[if_neg h];exact w6 h8
      obtain ⟨pm,rfl⟩:=r1.pre;obtain ⟨pz,hz⟩:=r2.pre;refine ⟨fun hl=>kN (r2.lq (r1.lq hl)) w3,fun dp hp=>?_,⟨pm++(pz++[_]),by rw[hz,List.append_assoc,List.append_assoc]⟩,by rw[List.length_append,hl2,hl1];simp;omega,by omega,gJ r2.fm hf,fun f hf'=>?_⟩
      · obtain ⟨dp1,q1,q2,q3⟩:=r1.dps dp hp
        obtain ⟨dp2,p1,p2,p3⟩:=r2.dps dp1 q1;have e1:((((l++pm).length:Nat):Int)-1).toNat=(l++pm).length-1:=by omega
        have e2:(((z.length:Nat):Int)-1).toNat=z.length-1:=by omega
        refine ⟨_,j4 (e:=d+1) p1 oM oM (fun _=>⟨by show ((((l++pm).length:Nat):Int)-1).toNat<_;omega,by show dp2 ((((l++pm).length:Nat):Int)-1).toNat<_;rw[e1,p2 _ oM];omega⟩) (fun _=>⟨by show (((z.length:Nat):Int)-1).toNat<_;omega,by show dp2 (((z.length:Nat):Int)-1).toNat<_;rw[e2];omega⟩) (jm r2.fm),fun k hk=>?_,by simp⟩
        show (if k<z.length then dp2 k else d+1)=dp k
        rw[if_pos oM,p2 k oM];exact q2 k hk
      obtain ⟨g,rfl⟩:∃ g,f=g+1:=⟨f-1,by simp at hf';omega⟩
      generalize l++pm=m at r1 r2 e hl1 hl2 hf hf' hz ⊢
      rw[show (z++[(⟨t.op,((m.length:Nat):Int)-1,((z.length:Nat):Int)-1,if t.op=2 then pl t.s else t.n,t.q⟩:Stp)]).length-1=z.length by simp];rw[List.length_append,List.length_singleton] at hf'
      conv=>lhs;unfold m0
      rw[jn]
      show (if t.op=2 then _ else if cC t.op=1 then _ else if cC t.op=2 then Tm.mk t.op 0 0 ⟨#[]⟩ [m0 nm _ g (((m.length:Nat):Int)-1).toNat,m0 nm _ g (((z.length:Nat):Int)-1).toNat] else _)=t
      have h1':m0 nm z g (m.length-1)=t.ks.getD 0 aZ:=by rw[hz,fM r1.fm _ _ oM,r1.tr g oM]
      rw[if_neg oM,if_neg oM,if_pos a2,show (((m.length:Nat):Int)-1).toNat=m.length-1 by omega,show (((z.length:Nat):Int)-1).toNat=z.length-1 by omega,fM r2.fm _ _ oM,fM r2.fm _ _ oM,r2.tr g oM,h1'];exact mE rfl (w6 oM) (w2 oM) (w5 oM) (tI h2)
def fT (pl:ByteArray→Int)(d:Nat)(ts:List Tm):Nat→List Stp
  | 0=>[]
  | k+1=>bg pl d (fT pl d ts k) (ts.getD k aZ)
def iU (pl:ByteArray→Int)(d:Nat)(ts:List Tm):Nat→List Int
  | 0=>[]
  | k+1=>iU pl d ts k++[(((fT pl d ts (k+1)).length:Nat):Int)-1]
theorem kc {pl:ByteArray→Int}{d:Nat}{ts:List Tm}:∀ k,(iU pl d ts k).length=k
 | 0=>rfl
 | k+1=>by unfold iU;rw[List.length_append,kc k];rfl
structure AllOk (nm:Int→ByteArray) (inp:Int) (d:Nat) (ts:List Tm) (k:Nat) (l:List Stp) (os:List Int) (c:Nat):Prop where
  len:l.length=c
  fm:∀ k,k<l.length→Formed inp k (l.getD k ac)
  lq:∀ i,LQ 1 (l.getD i ac).q
  dps:∃ dp,DpS dp l
  out:∀ j,j<k→0≤os.getD j 0∧os.getD j 0<(l.length:Nat)∧m0 nm l (l.length+1) (os.getD j 0).toNat=ts.getD j aZ
theorem sR {ok:ByteArray→Prop}{nm:Int→ByteArray}{pl:ByteArray→Int}{inp:Int}(hok:∀ s,ok s→AZ nm pl inp s){d:Nat}(hd:d≤20){ts:List Tm}:∀ k,k≤ts.length→(∀ i,i<k→WfT1 ok d (ts.getD i aZ))→AllOk nm inp d ts k (fT pl d ts k) (iU pl d ts k) (cc (fun i=>bw d (ts.getD i aZ)) k)
  | 0,_,_=>⟨rfl,fun k hk=>absurd hk (Nat.not_lt_zero k),fun i=>by show LQ 1 (([]:List Stp).getD i ac).q;rw[List.getD_nil];exact j1 kD,⟨fun _=>1,⟨fun k hk=>absurd hk (Nat.not_lt_zero k),fun k hk=>absurd hk (Nat.not_lt_zero k),fun k hk=>absurd hk (Nat.not_lt_zero k),fun k hk=>absurd hk (Nat.not_lt_zero k)⟩⟩,fun j hj=>absurd hj (Nat.not_lt_zero j)⟩
  | k + 1,hk,hw=>by
    have ih:=sR hok hd k oM (fun i hi=>hw i oM);have r:=m7 hok d (ts.getD k aZ) (fT pl d ts k) hd (hw k oM) ih.fm;obtain ⟨dp,hdp⟩:=ih.dps;obtain ⟨dp',h1,_,_⟩:=r.dps dp hdp;have e:fT pl d ts (k+1)=bg pl d (fT pl d ts k) (ts.getD k aZ):=rfl;have ol:=kc (pl:=pl) (d:=d) (ts:=ts) k;rw[e] at *
    have hl:=r.len;have hp:=r.pos;refine ⟨by rw[hl,ih.len];rfl,r.fm,r.lq ih.lq,⟨dp',h1⟩,fun j hj=>?_⟩
    show 0≤(iU pl d ts k++[(((bg pl d (fT pl d ts k) (ts.getD k aZ)).length:Nat):Int)-1]).getD j 0∧_
    rw[show (iU pl d ts (k+1)).getD j 0=(iU pl d ts k++[(((bg pl d (fT pl d ts k) (ts.getD k aZ)).length:Nat):Int)-1]).getD j 0 from rfl];rw[cG,ol]
    by_cases c:j<k
    · rw[if_pos c]
      obtain ⟨o1,o2,o3⟩:=ih.out j c;obtain ⟨m,hm⟩:=r.pre;refine ⟨o1,by omega,?_⟩;rw[hm,fM ih.fm _ _ oM,ja ih.fm _ (fT pl d ts k).length.succ _ (by rw[List.length_append];omega) oM oM];exact o3
    · obtain rfl:j=k:=by omega
      rw[if_neg c,if_pos rfl];refine ⟨by omega,by omega,?_⟩;rw[show ((((bg pl d (fT pl d ts j) (ts.getD j aZ)).length:Nat):Int)-1).toNat=(bg pl d (fT pl d ts j) (ts.getD j aZ)).length-1 by omega];exact r.tr _ oM
def jP (c:Nat):Prop:=(97≤c∧c≤122)∨(65≤c∧c≤90)
def sw (c:Nat):Prop:=((97≤c∧c≤122)∨(65≤c∧c≤90))∨(48≤c∧c≤57)∨c=95
instance (c:Nat):Decidable (jP c):=by unfold jP;infer_instance
instance (c:Nat):Decidable (sw c):=by unfold sw;infer_instance
def ff (s:ByteArray):Int:=if s=⟨#[97,98,115]⟩ then 9 else if s=⟨#[114,97,109,112]⟩ then 10 else if s=⟨#[98,101,110,100]⟩ then 11 else if s=⟨#[109,97,120]⟩ then 12 else if s=⟨#[109,105,110]⟩ then 13 else 0
def dC (s:ByteArray):Bool:=decide (ff s≠0)
def jr (s:ByteArray):Bool:=decide (1≤s.size∧s.size≤20∧jP (aF s 0)∧(∀ i,i<s.size→sw (aF s i))∧dC s=false)
theorem vk {s:ByteArray}(h:¬(1≤s.size∧s.size≤20∧jP (aF s 0))):Value.bool false=.bool (jr s):=congrArg Value.bool (decide_eq_false fun x=>h ⟨x.1,x.2.1,x.2.2.1⟩).symm
theorem Gu {s:ByteArray}{i:Nat}(h:i<s.size)(h2:¬sw (aF s i)):Value.bool false=.bool (jr s):=congrArg Value.bool (decide_eq_false fun x=>h2 (x.2.2.2.1 i h)).symm
theorem EY {s:ByteArray}(h1:1≤s.size∧s.size≤20)(h2:jP (aF s 0))(h3:∀ i,i<s.size→sw (aF s i)):jr s = !dC s:=by
 unfold jr
 cases h:dC s
 ·exact decide_eq_true ⟨h1.1,h1.2,h2,h3,rfl⟩
 ·exact decide_eq_false fun x=>by cases x.2.2.2.2
def iG:List MapEntry:=[⟨.string ⟨#[97,98,115]⟩,.int .i64 9,0⟩,⟨.string ⟨#[114,97,109,112]⟩,.int .i64 10,1⟩,⟨.string ⟨#[98,101,110,100]⟩,.int .i64 11,2⟩,⟨.string ⟨#[109,97,120]⟩,.int .i64 12,3⟩,⟨.string ⟨#[109,105,110]⟩,.int .i64 13,4⟩]
theorem qZ (s:ByteArray):(∃ i,Instr.findNow .string (.string s) iG 0=some (some (i,.int .i64 (ff s)))∧dC s=true)∨(Instr.findNow .string (.string s) iG 0=some none∧dC s=false∧ff s=0):=by
 by_cases h1:s=⟨#[97,98,115]⟩
 ·subst h1;exact .inl ⟨0,by kernel_rfl,by decide⟩
 by_cases h2:s=⟨#[114,97,109,112]⟩
 ·subst h2;exact .inl ⟨1,by kernel_rfl,by decide⟩
 by_cases h3:s=⟨#[98,101,110,100]⟩
 ·subst h3;exact .inl ⟨2,by kernel_rfl,by decide⟩
 by_cases h4:s=⟨#[109,97,120]⟩
 ·subst h4;exact .inl ⟨3,by kernel_rfl,by decide⟩
 by_cases h5:s=⟨#[109,105,110]⟩
 ·subst h5;exact .inl ⟨4,by kernel_rfl,by decide⟩
 have hc:ff s=0:=by unfold ff;rw[if_neg h1,if_neg h2,if_neg h3,if_neg h4,if_neg h5]
 refine .inr ⟨?_,by unfold dC;rw[hc];rfl,hc⟩
 rcases MapKept.findNow_spec (d:=.string) (k:=.string s) (by simp[MapKept.IsKey]) iG 0 (fun x hx=>by
  simp only[iG,List.mem_cons,List.not_mem_nil,or_false] at hx
  rcases hx with rfl|rfl|rfl|rfl|rfl<;>simp[MapKept.IsKey]) with ⟨a,_⟩|⟨j,e,a,b,c⟩
 ·exact a
 ·exfalso
  match j,b with
  | 0,b=>injection b with b;subst b;injection c with c;exact h1 c.symm
  | 1,b=>injection b with b;subst b;injection c with c;exact h2 c.symm
  | 2,b=>injection b with b;subst b;injection c with c;exact h3 c.symm
  | 3,b=>injection b with b;subst b;injection c with c;exact h4 c.symm
  | 4,b=>injection b with b;subst b;injection c with c;exact h5 c.symm
  | n+5,b=>cases b
def sI (p:Nat→Bool)(s:ByteArray):Nat→Nat→Nat
  | 0,a=>a
  | f+1,a=>if a<s.size∧p (aF s a)=true then sI p s f (a+1) else a
def rn (p:Nat→Bool)(s:ByteArray)(a:Nat):Nat:=sI p s (s.size-a) a
theorem vI (p:Nat→Bool)(s:ByteArray):∀ f a,a≤sI p s f a
  | 0,a=>Nat.le_refl a
  | f+1,a=>by
    unfold sI;split
    · exact Nat.le_trans (Nat.le_succ a) (vI p s f (a+1))
    · exact Nat.le_refl a
theorem ui (p:Nat→Bool)(s:ByteArray):∀ f a,a≤s.size→sI p s f a≤s.size
  | 0,a,h=>h
  | f+1,a,h=>by
    unfold sI;split
    · rename_i c;exact ui p s f (a+1) c.1
    · exact h
theorem B9 (p:Nat→Bool)(s:ByteArray)(a:Nat):a≤rn p s a:=vI p s _ a
theorem nS {p:Nat→Bool}{s:ByteArray}{a:Nat}(h:a≤s.size):rn p s a≤s.size:=ui p s _ a h
theorem v8 {p:Nat→Bool}{s:ByteArray}{j:Nat}:∀ f a,s.size-a≤f→a≤j→j≤s.size→(∀ i,a≤i→i<j→p (aF s i)=true)→(j=s.size∨p (aF s j)=false)→sI p s f a=j
  | 0,a,h1,h2,h3,_,_=>by show a=j;omega
  | f + 1,a,h1,h2,h3,h4,h5=>by
    unfold sI
    by_cases e:a=j
    · subst e
      rw[if_neg];rintro ⟨h6,h7⟩
      rcases h5 with h5|h5
      · omega
      · rw[h5] at h7;cases h7
    · rw[if_pos ⟨by omega,h4 a (Nat.le_refl a) oM⟩]
      exact v8 f (a+1) oM oM h3 (fun i hi hj=>h4 i oM hj) h5
theorem oq {p:Nat→Bool}{s:ByteArray}{a j:Nat}(h2:a≤j)(h3:j≤s.size)(h4:∀ i,a≤i→i<j→p (aF s i)=true)(h5:j=s.size∨p (aF s j)=false):rn p s a=j:=v8 _ a (Nat.le_refl _) h2 h3 h4 h5
theorem og (p:Nat→Bool)(s:ByteArray):∀ f a,s.size-a≤f→sI p s f a<s.size→p (aF s (sI p s f a))=false
  | 0,a,h1,h2=>by
    have h2:a<s.size:=h2
    omega
  | f + 1,a,h1,h2=>by
    unfold sI at h2 ⊢
    split
    · rename_i c;rw[if_pos c] at h2;exact og p s f (a+1) oM h2
    · rename_i c;rw[if_neg c] at h2
      cases h:p (aF s a) with
      | true=>exact absurd ⟨h2,h⟩ c
      | false=>rfl
def wD (c:Nat):Bool:=decide (c=32)
def jK (c:Nat):Bool:=decide (48≤c∧c≤57)
def kC (c:Nat):Bool:=decide ((48≤c∧c≤57)∨c=46)
def dZ (c:Nat):Bool:=decide (sw c)
def lu (c:Nat):Bool:=decide (c≠93)
def sk (s:ByteArray)(a:Nat):Nat:=rn wD s a
theorem iq {s:ByteArray}{a:Nat}(h:a≤s.size):sk s a≤s.size:=nS h
theorem EP (s:ByteArray)(a:Nat):sk s (sk s a)=sk s a:=by
 rcases Nat.lt_or_ge (sk s a) s.size with h1|h1
 ·exact oq (Nat.le_refl _) (Nat.le_of_lt h1) (fun i h2 h3=>absurd h2 oM) (.inr (og wD s (s.size-a) a (Nat.le_refl _) h1))
 ·show sI wD s (s.size-sk s a) (sk s a)=sk s a
  rw[show s.size-sk s a=0 by omega];rfl
theorem rm {s:ByteArray}{a:Nat}(h:s.size≤a):aF s a=0:=by
 unfold aF
 rw[List.getD_eq_getElem?_getD,List.getElem?_eq_none (by simpa using h)];rfl
theorem vN {s:ByteArray}{a:Nat}(h:aF s a≠0):a<s.size:=by
 rcases Nat.lt_or_ge a s.size with h1|h1
 ·exact h1
 ·exact absurd (rm h1) h
inductive PR where
  | ok (t:Tm) (a:Nat)
  | err (b:Nat)
inductive PKd where
  | sum|prod|sign|pow|atom
  | call (op:Int)
  | more (lv:Bool) (t:Tm)
def nr (op:Int)(t:Tm):Tm:=.mk op 0 0 ⟨#[]⟩ [t]
def gE (op:Int)(t u:Tm):Tm:=.mk op 0 0 ⟨#[]⟩ [t,u]
def j6 (q:Rat):Tm:=.mk 1 0 q ⟨#[]⟩ []
def sU (s:ByteArray):Tm:=.mk 2 0 0 s []
def lf (x:Option PR)(f:Tm→Nat→Option PR):Option PR:=match x with
  | none=>none
  | some (.ok t a)=>f t a
  | some (.err b)=>some (.err b)
def dv (s:ByteArray):Nat→Nat
  | 0=>0
  | n+1=>dv s n*10+(aF s n-48)
def jH (s:ByteArray):Option Nat:=if s.size=0∨(1<s.size∧aF s 0=48)∨¬(∀ i,i<s.size→jK (aF s i)=true) then none else some (dv s s.size)
theorem g5 {x:ByteArray}{k:Nat}(h:jH x=some k):1≤x.size∧(1<x.size→aF x 0≠48)∧(∀ i,i<x.size→48≤aF x i∧aF x i≤57)∧k=dv x x.size:=by
 unfold jH at h
 by_cases c:x.size=0∨(1<x.size∧aF x 0=48)∨¬(∀ i,i<x.size→jK (aF x i)=true)
 ·rw[if_pos c] at h;cases h
 ·rw[if_neg c] at h;injection h with h
  refine ⟨by omega,fun h1 h2=>c (.inr (.inl ⟨h1,h2⟩)),fun i hi=>?_,h.symm⟩;exact oT (Decidable.byContradiction fun h2=>c (.inr (.inr (fun h3=>h2 (h3 i hi)))))
theorem p5 {x:ByteArray}:∀ n,(∀ i,i<n→48≤aF x i∧aF x i≤57)→dv x n<10^n
  | 0,_=>Nat.one_pos
  | n+1,h=>by
    have h1:=p5 n (fun i hi=>h i oM);have h2:=h n oM
    show dv x n*10+(aF x n-48)<10^(n+1)
    rw[Nat.pow_succ];omega
theorem qe {x:ByteArray}{k:Nat}(h:jH x=some k)(h3:x.size≤3):k≤999:=by
 obtain ⟨h1,_,h2,rfl⟩:=g5 h;have h4:=p5 x.size h2;have h5:10^x.size≤10^3:=Nat.pow_le_pow_right kD h3
 omega
def c1 (lv:Bool):Nat:=if lv then 42 else 43
def c2 (lv:Bool):Nat:=if lv then 47 else 45
def wo (lv:Bool):Int:=if lv then 5 else 3
def sH (lv:Bool):Int:=if lv then 6 else 4
def part (lv:Bool):PKd:=if lv then .sign else .prod
def xn (s:ByteArray)(t:Tm)(a:Nat):PR :=
  let m:Bool:=decide (aF s (sk s a)=45)
  let b:=sk s (if m then sk s a+1 else sk s a)
  let e:=rn jK s b
  if 3<e-b then .err b else match jH (s.extract b e) with
    | none=>.err b
    | some k=>.ok (.mk 8 (if m then -(k:Int) else k) 0 ⟨#[]⟩ [t]) e
section
variable (nf bf:ByteArray→Option Rat) (s:ByteArray)
def dy : Nat→PKd→Nat→Option PR
  | 0,_,_=>none
  | n+1,.sum,a=>lf (dy n .prod a) fun t b=>dy n (.more false t) b
  | n+1,.prod,a=>lf (dy n .sign a) fun t b=>dy n (.more true t) b
  | n+1,.more lv t,a =>
    if aF s (sk s a)=c1 lv then lf (dy n (part lv) (sk s a+1)) fun u b=>dy n (.more lv (gE (wo lv) t u)) b
    else if aF s (sk s a)=c2 lv then lf (dy n (part lv) (sk s a+1)) fun u b=>dy n (.more lv (gE (sH lv) t u)) b
    else some (.ok t (sk s a))
  | n+1,.sign,a=>if aF s (sk s a)=45 then lf (dy n .sign (sk s a+1)) fun t b=>some (.ok (nr 7 t) b) else dy n .pow (sk s a)
  | n+1,.pow,a=>lf (dy n .atom a) fun t b=>if aF s (sk s b)=94 then some (xn s t (sk s b+1)) else some (.ok t (sk s b))
  | n + 1,.atom,a =>
    if kC (aF s (sk s a))=true then match nf (s.extract (sk s a) (rn kC s (sk s a))) with
      | some q=>some (.ok (j6 q) (rn kC s (sk s a)))
      | none=>some (.err (sk s a))
    else if jP (aF s (sk s a))∨aF s (sk s a)=95 then
      if dC (s.extract (sk s a) (rn dZ s (sk s a)))=true then dy n (.call (ff (s.extract (sk s a) (rn dZ s (sk s a))))) (rn dZ s (sk s a))
      else if jr (s.extract (sk s a) (rn dZ s (sk s a)))=true then some (.ok (sU (s.extract (sk s a) (rn dZ s (sk s a)))) (rn dZ s (sk s a)))
      else some (.err (sk s a))
    else if aF s (sk s a)=91 then
      if rn lu s (sk s a+1)=s.size then some (.err (sk s a)) else match bf (s.extract (sk s a+1) (rn lu s (sk s a+1))) with
      | some q=>some (.ok (j6 q) (rn lu s (sk s a+1)+1))
      | none=>some (.err (sk s a))
    else if aF s (sk s a)=40 then lf (dy n .sum (sk s a+1)) fun t b=>if aF s (sk s b)=41 then some (.ok t (sk s b+1)) else some (.err (sk s b))
    else some (.err (sk s a))
  | n + 1,.call op,a =>
    if aF s (sk s a)=40 then lf (dy n .sum (sk s a+1)) fun t b =>
      if op=12∨op=13 then
        if aF s (sk s b)=44 then lf (dy n .sum (sk s b+1)) fun u c=>if aF s (sk s c)=41 then some (.ok (gE op t u) (sk s c+1)) else some (.err (sk s c))
        else some (.err (sk s b))
      else if aF s (sk s b)=41 then some (.ok (nr op t) (sk s b+1)) else some (.err (sk s b))
    else some (.err (sk s a))
variable {nf bf s}
theorem fB {x:Option PR}{f:Tm→Nat→Option PR}{t:Tm}{b:Nat}(h:lf x f=some (.ok t b)):∃ u a,x=some (.ok u a)∧f u a=some (.ok t b):=by
 match x,h with
 | some (.ok u a),h=>exact ⟨u,a,rfl,h⟩
def sF (lv:Bool):PKd:=if lv then .prod else .sum
section
variable {n a b:Nat} {t u:Tm} {lv:Bool} {op:Int}
theorem Aj {k:PKd}{r:PR}(h:dy nf bf s n k a=some r):∃ m,n=m+1:=by
 cases n with
 | zero=>cases h
 | succ m=>exact ⟨m,rfl⟩
theorem AM (h:dy nf bf s (n+1) (sF lv) a=some (.ok t b)):∃ u c,dy nf bf s n (part lv) a=some (.ok u c)∧dy nf bf s n (.more lv u) c=some (.ok t b):=by
 cases lv<;>exact fB h
theorem sx (h:dy nf bf s (n+1) (.more lv u) a=some (.ok t b))(c:aF s (sk s a)=c1 lv):∃ v e,dy nf bf s n (part lv) (sk s a+1)=some (.ok v e)∧dy nf bf s n (.more lv (gE (wo lv) u v)) e=some (.ok t b):=by
 unfold dy at h;rw[if_pos c] at h;exact fB h
theorem sq (h:dy nf bf s (n+1) (.more lv u) a=some (.ok t b))(d:aF s (sk s a)≠c1 lv)(c:aF s (sk s a)=c2 lv):∃ v e,dy nf bf s n (part lv) (sk s a+1)=some (.ok v e)∧dy nf bf s n (.more lv (gE (sH lv) u v)) e=some (.ok t b):=by
 unfold dy at h;rw[if_neg d,if_pos c] at h;exact fB h
theorem r6 (h:dy nf bf s (n+1) (.more lv u) a=some (.ok t b))(d:aF s (sk s a)≠c1 lv)(c:aF s (sk s a)≠c2 lv):t=u∧b=sk s a:=by
 unfold dy at h;rw[if_neg d,if_neg c] at h;injection h with h;injection h with h1 h2;exact ⟨h1.symm,h2.symm⟩
theorem xX (h:dy nf bf s (n+1) .sign a=some (.ok t b))(c:aF s (sk s a)=45):∃ v,dy nf bf s n .sign (sk s a+1)=some (.ok v b)∧t=nr 7 v:=by
 unfold dy at h;rw[if_pos c] at h
 obtain ⟨v,e,h1,h2⟩:=fB h
 injection h2 with h2;injection h2 with h2 h3;subst h3;exact ⟨v,h1,h2.symm⟩
theorem r5 (h:dy nf bf s (n+1) .sign a=some (.ok t b))(c:aF s (sk s a)≠45):dy nf bf s n .pow (sk s a)=some (.ok t b):=by
 unfold dy at h;rw[if_neg c] at h;exact h
theorem xy (h:dy nf bf s (n+1) .pow a=some (.ok t b)):∃ v e,dy nf bf s n .atom a=some (.ok v e)∧(aF s (sk s e)≠94→t=v∧b=sk s e)∧(aF s (sk s e)=94→xn s v (sk s e+1)=.ok t b):=by
 unfold dy at h
 obtain ⟨v,e,h1,h2⟩:=fB h;refine ⟨v,e,h1,fun c=>?_,fun c=>?_⟩
 ·rw[if_neg c] at h2;injection h2 with h2;injection h2 with h2 h3;exact ⟨h2.symm,h3.symm⟩
 ·rw[if_pos c] at h2;injection h2
theorem xQ {v:Tm}(h:xn s v a=.ok t b):∃ k,jH (s.extract (sk s (if aF s (sk s a)=45 then sk s a+1 else sk s a)) b)=some k∧b=rn jK s (sk s (if aF s (sk s a)=45 then sk s a+1 else sk s a))∧b-sk s (if aF s (sk s a)=45 then sk s a+1 else sk s a)≤3∧t=.mk 8 (if aF s (sk s a)=45 then -(k:Int) else k) 0 ⟨#[]⟩ [v]:=by
  have e1:∀ x y:Nat,(if decide (aF s (sk s a)=45)=true then x else y)=if aF s (sk s a)=45 then x else y:=fun x y=>by by_cases c:aF s (sk s a)=45<;>simp[c]
  have e2:∀ x y:Int,(if decide (aF s (sk s a)=45)=true then x else y)=if aF s (sk s a)=45 then x else y:=fun x y=>by by_cases c:aF s (sk s a)=45<;>simp[c]
  unfold xn at h
  dsimp only at h
  rw[e1] at h
  generalize sk s (if aF s (sk s a)=45 then sk s a+1 else sk s a)=B at h ⊢
  by_cases c:3<rn jK s B-B
  · rw[if_pos c] at h;cases h
  · rw[if_neg c] at h
    revert h
    cases hk:jH (s.extract B (rn jK s B)) with
    | none=>intro h;cases h
    | some k =>
      intro h
      injection h with h1 h2
      subst h2;rw[e2] at h1
      exact ⟨k,hk,rfl,by omega,h1.symm⟩
section
variable (h:dy nf bf s (n+1) .atom a=some (.ok t b))
include h
theorem xP (c:kC (aF s (sk s a))=true):∃ q,nf (s.extract (sk s a) (rn kC s (sk s a)))=some q∧t=j6 q∧b=rn kC s (sk s a):=by
 unfold dy at h;rw[if_pos c] at h
 split at h
 ·rename_i q hq;injection h with h;injection h with h1 h2;exact ⟨q,hq,h1.symm,h2.symm⟩
 ·cases h
variable (c0:kC (aF s (sk s a))=false)
include c0
theorem Ce (c:jP (aF s (sk s a))∨aF s (sk s a)=95)(d:dC (s.extract (sk s a) (rn dZ s (sk s a)))=true):dy nf bf s n (.call (ff (s.extract (sk s a) (rn dZ s (sk s a))))) (rn dZ s (sk s a))=some (.ok t b):=by
 unfold dy at h;rw[if_neg (by rw[c0];decide),if_pos c,if_pos d] at h;exact h
theorem xo (c:jP (aF s (sk s a))∨aF s (sk s a)=95)(d:dC (s.extract (sk s a) (rn dZ s (sk s a)))=false):jr (s.extract (sk s a) (rn dZ s (sk s a)))=true∧t=sU (s.extract (sk s a) (rn dZ s (sk s a)))∧b=rn dZ s (sk s a):=by
 unfold dy at h;rw[if_neg (by rw[c0];decide),if_pos c,if_neg (by rw[d];decide)] at h
 split at h
 ·rename_i e;injection h with h;injection h with h1 h2;exact ⟨e,h1.symm,h2.symm⟩
 ·cases h
variable (cL:¬(jP (aF s (sk s a))∨aF s (sk s a)=95))
include cL
theorem Dy (c:aF s (sk s a)=91):rn lu s (sk s a+1)≠s.size∧∃ q,bf (s.extract (sk s a+1) (rn lu s (sk s a+1)))=some q∧t=j6 q∧b=rn lu s (sk s a+1)+1:=by
 unfold dy at h;rw[if_neg (by rw[c0];decide),if_neg cL,if_pos c] at h
 split at h
 ·cases h
 ·rename_i d
  split at h
  ·rename_i q hq;injection h with h;injection h with h1 h2;exact ⟨d,q,hq,h1.symm,h2.symm⟩
  ·cases h
variable (c9:aF s (sk s a)≠91)
include c9
theorem wW (c:aF s (sk s a)=40):∃ e,dy nf bf s n .sum (sk s a+1)=some (.ok t e)∧aF s (sk s e)=41∧b=sk s e+1:=by
 unfold dy at h;rw[if_neg (by rw[c0];decide),if_neg cL,if_neg c9,if_pos c] at h
 obtain ⟨v,e,h1,h2⟩:=fB h
 split at h2
 ·rename_i d;injection h2 with h2;injection h2 with h2 h3;subst h2;exact ⟨e,h1,d,h3.symm⟩
 ·cases h2
theorem Dr (c:aF s (sk s a)≠40):False:=by
 unfold dy at h;rw[if_neg (by rw[c0];decide),if_neg cL,if_neg c9,if_neg c] at h;cases h
end
theorem t7 (h:dy nf bf s (n+1) (.call op) a=some (.ok t b)):aF s (sk s a)=40∧∃ u e,dy nf bf s n .sum (sk s a+1)=some (.ok u e)∧((op=12∨op=13)→aF s (sk s e)=44∧∃ v f,dy nf bf s n .sum (sk s e+1)=some (.ok v f)∧aF s (sk s f)=41∧t=gE op u v∧b=sk s f+1)∧(¬(op=12∨op=13)→aF s (sk s e)=41∧t=nr op u∧b=sk s e+1):=by
  unfold dy at h
  split at h
  · rename_i c
    obtain ⟨u,e,h1,h2⟩:=fB h;refine ⟨c,u,e,h1,fun ho=>?_,fun ho=>?_⟩
    · rw[if_pos ho] at h2
      split at h2
      · rename_i d
        obtain ⟨v,f,h3,h4⟩:=fB h2
        split at h4
        · rename_i g;injection h4 with h4;injection h4 with h4 h5;exact ⟨d,v,f,h3,g,h4.symm,h5.symm⟩
        · cases h4
      · cases h2
    · rw[if_neg ho] at h2
      split at h2
      · rename_i d;injection h2 with h2;injection h2 with h2 h3;exact ⟨d,h2.symm,h3.symm⟩
      · cases h2
  · cases h
end
end
def PtH (h:Hp)(p:PTm)(t:Tm):Prop:=∃ d,TmH d h p t
theorem PtH.gw {h h':Hp}{p:PTm}{t:Tm}(x:PtH h p t)(u:Gw h h'):PtH h' p t:=by obtain ⟨d,x⟩:=x;exact ⟨d,x.gw u⟩
theorem PtH.one {h:Hp}{op n:Int}{p:PTm}{t:Tm}{b:Nat}(x:PtH h p t)(hA:SlO 9 cu bu h (some ⟨b,0,none⟩) [p]):PtH h ⟨op,n,0,⟨#[]⟩,some ⟨b,0,none⟩,1,1⟩ (.mk op n 0 ⟨#[]⟩ [t]):=by
 obtain ⟨d,x⟩:=x
 exact ⟨d+1,TmH.mk (ps:=[p]) (ks:=[t]) ⟨rfl,fun i hi=>by
  have:i=0:=by have:i<1:=hi;omega
  subst this;exact x⟩ (Nat.le_refl _) hA⟩
theorem PtH.two {h:Hp}{op:Int}{p q:PTm}{t u:Tm}{b:Nat}(x:PtH h p t)(y:PtH h q u)(hA:SlO 9 cu bu h (some ⟨b,0,none⟩) [p,q]):PtH h ⟨op,0,0,⟨#[]⟩,some ⟨b,0,none⟩,2,2⟩ (gE op t u):=by
 obtain ⟨d,x⟩:=x;obtain ⟨e,y⟩:=y
 exact ⟨max d e+1,TmH.mk (ps:=[p,q]) (ks:=[t,u]) ⟨rfl,fun i hi=>by
  have:i=0∨i=1:=by have:i<2:=hi;omega
  rcases this with rfl|rfl
  ·exact x.mono (Nat.le_max_left _ _)
  ·exact y.mono (Nat.le_max_right _ _)⟩ (Nat.le_refl _) hA⟩
theorem PtH.num {h:Hp}{q:Rat}:PtH h ⟨1,0,q,⟨#[]⟩,none,0,0⟩ (j6 q):=⟨1,TmH.mk (ps:=[]) (ks:=[]) Tms.nil (Nat.le_refl _) SlO.nil⟩
theorem PtH.nam {h:Hp}{s:ByteArray}:PtH h ⟨2,0,0,s,none,0,0⟩ (sU s):=⟨1,TmH.mk (ps:=[]) (ks:=[]) Tms.nil (Nat.le_refl _) SlO.nil⟩
section ops
variable {P:Program} {Γ:bW} {o:Oper}
theorem ub {tx:TypeId}{x i e:Operand}{k k2:IntKind}{s:ByteArray}{n m:Nat}{j j2:Int}(ho:o.op=.slice tx x (some i) (some e) none)(hx:ev Γ x=.string s)(hi:ev Γ i=.int k j)(he:ev Γ e=.int k2 j2)(hu:P.underlying tx=some .string)(hj:j=(n:Int))(hj2:j2=(m:Int))(hn:n≤m)(hm:m≤s.size)(w:World) :
  (execOp (ev Γ) o).run P w=.ok (.value (.string (s.extract n m))) w:=by
 unfold execOp;simp only[ho]
 subst hj;subst hj2;have h0:(m:Int)≤(s.size:Int):=by omega
 simp[Instr.sliceAt,hx,hi,he,Instr.slice,run_underlying hu,Instr.sliceBounds,Instr.sliceBound,asIntOf,Result.andThen,h0,hn,hm]
end ops
theorem mf {q:Rat}(h:decide (ab q.num<18446744073709551616∧q.den<18446744073709551616)=true):LQ 1 q:=by
 have h:=oT h
 have k:∀ n,n<18446744073709551616→(wds n).length≤1:=fun n hn=>by
  rcases Nat.eq_zero_or_pos n with rfl|h0
  ·rw[kj];exact Nat.zero_le _
  ·rw[jv h0 hn];exact Nat.le_refl _
 exact ⟨k _ h.1,k _ h.2⟩
def nx:Tm:=.mk 8 2 0 ⟨#[]⟩ [gE 4 (sU ⟨#[120]⟩) (j6 ((3:Nat):Rat))]
def kdL:List Stp:=[⟨2,0,0,0,0⟩,⟨1,0,0,0,((3:Nat):Rat)⟩,⟨4,0,1,0,0⟩,⟨8,2,0,2,0⟩]
def HW (x:Rat):List Rat:=[x,((3:Nat):Rat),x-((3:Nat):Rat),fe (x-((3:Nat):Rat)) 2]
def B5 (k:Nat):Nat:=[1,1,2,4].getD k 1
def EF (_:Nat):Nat:=3005
theorem Ho {k:Nat}(h:k<4):k=0∨k=1∨k=2∨k=3:=by omega
theorem DO (i:Nat):LQ 1 (kdL.getD i ac).q:=by
 match i with
 | 0=>exact mf kR
 | 1=>exact mf kR
 | 2=>exact mf kR
 | 3=>exact mf kR
 | _+4=>exact j1 kD
theorem m9:be 1 kdL [3]=0:=by kernel_rfl
theorem E1:Wt kdL B5:=fun k hk=>by
 rcases Ho hk with rfl|rfl|rfl|rfl<;>exact oT kR
theorem CQ (j:Nat)(hj:j<kdL.length):B5 j≤4:=by
 rcases Ho hj with rfl|rfl|rfl|rfl<;>decide
theorem xm:1+iP B5 (fun _=>1) kdL.length+([3]:List Int).length*(2*4)+kT B5 EF kdL.length≤100000000:=by
 show 1+iP B5 (fun _=>1) 4+1*(2*4)+kT B5 EF 4≤100000000
 decide
theorem wN (x:Rat):aU kdL [x] 4=HW x:=by kernel_rfl
theorem Fy (a:Rat):fe a 2=a*a:=by
 show ((1:Int):Rat)*a*a=a*a
 rw[show ((1:Int):Rat)=1 from rfl,Rat.one_mul]
theorem D9 {x:Rat}(h:LQ 1 x)(i:Nat):LQ 1000 ((HW x).getD i 0):=by
 have t:LQ 1 (((3:Nat):Rat)):=mf kR;have s:LQ 3 (x-((3:Nat):Rat)):=(h.sub t).mono kD;have p:LQ 6 (fe (x-((3:Nat):Rat)) 2):=by rw[Fy];exact (s.mul s).mono kD
 match i with
 | 0=>exact h.mono kD
 | 1=>exact t.mono kD
 | 2=>exact s.mono kD
 | 3=>exact p.mono kD
 | _+4=>exact j1 kD
theorem Fu {x:Rat}(h:LQ 1 x)(k:Nat)(hk:k≤4)(j:Nat):LQ 1000 ((aU kdL [x] k).getD j 0):=by
 by_cases hj:j<k
 ·rw[←gY kdL [x] k 4 hk j hj,wN];exact D9 h j
 ·rw[cI (by rw[d8];omega)];exact j1 kD
theorem Gb (k:Nat)(hk:k<4)(_:(kdL.getD k ac).op=8):(kdL.getD k ac).n.natAbs≤2:=by
 rcases Ho hk with rfl|rfl|rfl|rfl<;>exact oT kR
theorem Hd {x:Rat}(h:LQ 1 x)(k:Nat)(hk:k<kdL.length):LQ (EF k) (nj (kdL.getD k ac).op (kdL.getD k ac).n ((aU kdL [x] kdL.length).getD (kdL.getD k ac).a.toNat 0) ((aU kdL [x] kdL.length).getD (kdL.getD k ac).b.toNat 0)) ∧
  LQ (EF k) (nu (kdL.getD k ac).op ((aU kdL [x] kdL.length).getD (kdL.getD k ac).a.toNat 0) ((aU kdL [x] kdL.length).getD (kdL.getD k ac).b.toNat 0)):=by
 have v:=Fu h 4 (Nat.le_refl _);exact ⟨x5 (M:=2) (K:=1000) kD kD kD (v _) (v _) (fun e=>Gb k hk e),xz (M:=2) (K:=1000) kD kD (v _) (v _)⟩
theorem mY {K:Nat}{a:Rat}(hK:1≤K)(ha:LQ K a)(j:Nat):LQ K ([a].getD j 0):=by
 match j with
 | 0=>exact ha
 | j+1=>exact j1 hK
def By:Rat:=mkR 1 4
def kdP:List Rat:=[((1:Int):Rat)]
def sK (k:Nat):DSt:=dst 1 kdL [3] By 0 8 (fun _=>[0]) kdP k
def Hg (k:Nat):Rat:=if k=0 then ((1:Int):Rat) else if k=1 then 2 else 5/2
def G4 (k:Nat):Rat:=if k=0 then 0 else if k=1 then 1 else 1/2
theorem Ii {k:Nat}(h:k≤2):k=0∨k=1∨k=2:=by omega
theorem n8 (k:Nat)(h:k≤2):(sK k).e=0∧(sK k).at_=[Hg k]∧(sK k).way=[G4 k]:=by
 rcases Ii h with rfl|rfl|rfl
 ·exact ⟨by kernel_rfl,by kernel_rfl,by kernel_rfl⟩
 ·exact ⟨by kernel_rfl,by kernel_rfl,by kernel_rfl⟩
 ·exact ⟨by kernel_rfl,by kernel_rfl,by kernel_rfl⟩
theorem Gi:(sK 2).ls=[4,1,1/4]:=by kernel_rfl
theorem pL (k:Nat):LQ 1 (Hg k):=by
 unfold Hg;split
 ·exact mf kR
 ·split<;>exact mf kR
theorem DC (k:Nat):LQ 1 (G4 k):=by
 unfold G4;split
 ·exact mf kR
 ·split<;>exact mf kR
theorem He (k:Nat)(h:k≤2):(∀ j,LQ 1000 ((sK k).at_.getD j 0))∧∀ j,LQ 1000 ((sK k).way.getD j 0):=by
 obtain ⟨_,h1,h2⟩:=n8 k h;rw[h1,h2];exact ⟨fun j=>(mY kD (pL k) j).mono kD,fun j=>(mY kD (DC k) j).mono kD⟩
def GP (k:Nat):List Rat:=cf 1 kdL [3] (sK k).at_ (bJ ([3]:List Int).length [0] ([0]:List Int).length)
theorem BI:GP 0=[-4]:=by kernel_rfl
theorem Cd:GP 1=[-2]:=by kernel_rfl
theorem Hk (k:Nat)(h:k<2)(j:Nat):LQ 1000 ((GP k).getD j 0):=by
 rcases (by omega:k=0∨k=1) with rfl|rfl
 ·rw[BI];exact (mY kD (mf kR) j).mono kD
 ·rw[Cd];exact (mY kD (mf kR) j).mono kD
theorem Gz (k:Nat)(h:k<2)(j:Nat):LQ 1000 (dd (0*(sK k).way.getD j 0-By*(GP k).getD j 0) 8):=by
 have z:LQ 1 (dd (0*0-By*0) 8):=mf kR
 rcases (by omega:k=0∨k=1) with rfl|rfl
 ·rw[BI,(n8 0 kD).2.2]
  match j with
  | 0=>exact (mf kR).mono kD
  | j+1=>exact z.mono kD
 ·rw[Cd,(n8 1 kD).2.2]
  match j with
  | 0=>exact (mf kR).mono kD
  | j+1=>exact z.mono kD
theorem uE:fT (fun _=>0) 3 [nx] 1=kdL:=by kernel_rfl
theorem Ff {x y:Int}(hx:0≤x)(hy:0<y):((ab x/ab y:Nat):Int)=x/y∧((ab x%ab y:Nat):Int)=x%y:=by
 obtain ⟨a,rfl⟩:=Int.eq_ofNat_of_zero_le hx;obtain ⟨b,rfl⟩:=Int.eq_ofNat_of_zero_le (a:=y) oM;exact ⟨rfl,rfl⟩
theorem FG {x y:Int}(hx:x<0)(hy:0<y)(hr:0<ab x%ab y):ci true (ab x/ab y+1)=x/y∧((ab y-ab x%ab y:Nat):Int)=x%y:=by
 obtain ⟨a,ha⟩:=Int.eq_ofNat_of_zero_le (a:=-x) oM;obtain ⟨b,rfl⟩:=Int.eq_ofNat_of_zero_le (a:=y) oM;obtain rfl:x = -(a:Int):=by omega
 have e1:ab (-(a:Int))=a:=by unfold ab;omega
 have e2:ab (b:Int)=b:=rfl;rw[e1,e2] at hr ⊢
 have hd:=Nat.div_add_mod a b;have hm:=Nat.mod_lt a (show 0<b by omega);have hd2:(b:Int)*((a/b:Nat):Int)+((a%b:Nat):Int)=a:=by exact_mod_cast hd
 have e3:ci true (a/b+1) = -(((a/b:Nat):Int)+1):=by unfold ci;rfl
 rw[e3]
 have h:=(Int.ediv_emod_unique (a:=-(a:Int)) (b:=(b:Int)) (r:=((b-a%b:Nat):Int)) (q:=-(((a/b:Nat):Int)+1)) oM).2 ⟨by
  have e4:((b-a%b:Nat):Int)=(b:Int)-((a%b:Nat):Int):=by omega
  rw[e4,Int.mul_neg,Int.mul_add];omega,by omega,by omega⟩
 exact ⟨h.1.symm,h.2.symm⟩
theorem Fs {x y:Int}(hx:x<0)(hy:0<y)(hr:ab x%ab y=0):ci true (ab x/ab y)=x/y∧((ab x%ab y:Nat):Int)=x%y:=by
 obtain ⟨a,ha⟩:=Int.eq_ofNat_of_zero_le (a:=-x) oM;obtain ⟨b,rfl⟩:=Int.eq_ofNat_of_zero_le (a:=y) oM;obtain rfl:x = -(a:Int):=by omega
 have e1:ab (-(a:Int))=a:=by unfold ab;omega
 have e2:ab (b:Int)=b:=rfl;rw[e1,e2] at hr ⊢
 have hd:=Nat.div_add_mod a b;have hd2:(b:Int)*((a/b:Nat):Int)+((a%b:Nat):Int)=a:=by exact_mod_cast hd
 rw[hr] at hd2 ⊢
 have h:=(Int.ediv_emod_unique (a:=-(a:Int)) (b:=(b:Int)) (r:=((0:Nat):Int)) (q:=-((a/b:Nat):Int)) oM).2 ⟨by rw[Int.mul_neg];omega,by omega,by omega⟩;exact ⟨h.1.symm,h.2.symm⟩
theorem s7 {x y:Int}{k:Nat}(h:(wds (ab x)).length≤k):(wds (ab (x/y))).length≤k:=ar (Int.natAbs_ediv_le_natAbs x y) h
theorem vS {x y:Int}{k:Nat}(hy:0<y)(h:(wds (ab y)).length≤k):(wds (ab (x%y))).length≤k:=ar (by
 have h1:=Int.emod_nonneg x (b:=y) oM;have h2:=Int.emod_lt_of_pos x hy
 unfold ab;omega) h
theorem oe {x y:Int}{k:Nat}(hx:(wds (ab x)).length≤k)(hy:(wds (ab y)).length≤k):(wds (ab (x+y))).length≤k+1:=Nat.le_trans (ce (show ab (x+y)≤ab x+ab y from by unfold ab;omega)) (jx hx hy)
theorem pM (x y:Int):(x<y∧dG x y = -1)∨(x=y∧dG x y=0)∨(y<x∧dG x y=1):=by
 rcases Int.lt_trichotomy x y with h|h|h
 ·exact .inl ⟨h,qK h⟩
 ·exact .inr (.inl ⟨h,by subst h;unfold dG;rw[if_neg oM,if_neg oM]⟩)
 ·exact .inr (.inr ⟨h,p7 h⟩)
theorem ur {a:Rat}{b:Nat}{q r:Int}(hq:q=a.num*((2^b:Nat):Int)/((a.den:Nat):Int))(hr:r=a.num*((2^b:Nat):Int)%((a.den:Nat):Int))(h:((a.den:Nat):Int)<r+r∨(r+r=((a.den:Nat):Int)∧q%2=1)):mkRat (q+1) (2^b)=dd a b:=by
 subst hq hr;unfold dd tz;rw[if_pos h]
theorem tG {a:Rat}{b:Nat}{q r:Int}(hq:q=a.num*((2^b:Nat):Int)/((a.den:Nat):Int))(hr:r=a.num*((2^b:Nat):Int)%((a.den:Nat):Int))(h:¬(((a.den:Nat):Int)<r+r∨(r+r=((a.den:Nat):Int)∧q%2=1))):mkRat q (2^b)=dd a b:=by
 subst hq hr;unfold dd tz;rw[if_neg h,Int.add_zero]
theorem wV (b:Nat)(hb:b≤65536)(w:World)(h:Hp)(g:G w h):CV 130 #[nv 1,nV b] w h (nv (2^b)):=by
 have x:=sV 1 b (Nat.le_trans (bU.2 kD:(wds 1).length≤1) kD) hb w h g;rw[Nat.one_mul] at x
 exact x
theorem FC (x y:Int)(hy:0<y)(hlx:(wds (ab x)).length≤999999990)(hly:(wds (ab y)).length≤999999990)(hx:aD x=false)(hyn:aD y=false)(w:World)(h:Hp)(g:G w h):CR 131 #[wX (.bool false) (ab x),wX (.bool false) (ab y)] w h (fun v _=>∃ q r:Int,v=.tuple #[iv q,iv r,.bool true]∧q=x/y∧r=x%y):=by
 have hs:=sS g;have hy0:0<ab y:=by unfold ab;omega
 have hrb:=Nat.mod_lt (ab x) hy0;have hql:(wds (ab x/ab y)).length≤999999990:=ar (Nat.div_le_self _ _) hlx;have hrl:(wds (ab x%ab y)).length≤999999990:=ar (Nat.le_of_lt hrb) hly;have h1l:(wds 1).length≤1:=bU.2 kD;have hq1:(wds (ab x/ab y+1)).length≤1000000000:=Nat.le_trans fF oM;have hrs:(wds (ab y-ab x%ab y)).length≤1000000000:=Nat.le_trans (ar (Nat.sub_le _ _) hly) kD;have hnz:=@gx (ab x%ab y);refine go Tryz.func131 [(0,wX qF (ab x)),(1,wX qF (ab y))] rfl (aE (lA 2 26 (wC qF (ab x)) hs (fun b1 w2 h3 hs=>lA 3 26 (wC qF (ab y)) hs (fun b4 w5 h6 hs=>lA 4 26 ([qF,uV 0,eS]) hs (fun b7 w8 h9 hs=>lA 5 26 ([qF,uV 0,eS]) hs (fun za _ _ hs=>lL hs [.v 6 qF] (aT (lL hs [.v 10 (qP b1 1),.o 11 (nv (ab x)) 3 1 2,.v 12 (qP b4 1),.o 13 (nv (ab y)) 2 1 2] (ag 14 hs (ut (ab x) (ab y) oM oM oM _ _ hs.g) (fun _ _ hs=>lL hs [.m 9 14,.v 15 (nv ((ab x)/(ab y))),.v 16 (nv ((ab x)%(ab y))),.v 17 qT] (lA 7 24 ([uV 0,eS]) hs (fun b15 _ _ hs=>lA 8 24 ([uV 0,eS]) hs (fun b18 _ _ hs=>lP 1 0 (nc ((ab x)/(ab y))) hs (fun _ hs=>lP 0 0 (nc ((ab x)%(ab y))) hs (fun _ hs=>lL hs [.m 6 17] (af (aa hs [.m 18 6,.v 19 qF] (aj (cK (cQ (aa hs [.v 22 (pB b1),.o 23 qF 5 0 1,.v 24 (pB b4),.o 25 qF 4 0 1,.v 26 qF,.m 27 26] (lG 28 ?_))))))))))))))))))))));refine lG 29 (lG 30 (lL hs [.v 31 qF] (aj (cK (cQ ?_)))));have hsr:=hs;refine jd 11 [] [b7,za] mixed hs aq (eV 0 42 (pB b1) (eO 1 43 [(5,0,1)] qF hs (eV 2 44 (pB b4) (eO 3 45 [(4,0,1)] qF hs (eV 4 46 qF (eO 5 47 [(1,0,2)] (nv ((ab x)/(ab y))) hs (eV 7 49 (pB b4) (gZ 8 50 [(4,0,1)] qF hsr hs ?_ (hM:=fun p hp=>by obtain rfl:=List.mem_singleton.1 hp;exact fun hm=>by rcases List.mem_cons.1 hm with e|hm;exact a6 hs.st (i:=4) (j:=3) kR kR kR e;rcases List.mem_cons.1 hm with e|hm;exact a6 hs.st (i:=4) (j:=2) kR kR kR e;cases hm)))))))));refine gZ 9 51 [(0,0,2)] (nv ((ab x)%(ab y))) hsr hs ?_ (hM:=fun p hp=>by obtain rfl:=List.mem_singleton.1 hp;exact fun hm=>by rcases List.mem_cons.1 hm with e|hm;exact a6 hs.st (i:=0) (j:=3) kR kR kR e;rcases List.mem_cons.1 hm with e|hm;exact a6 hs.st (i:=0) (j:=2) kR kR kR e;cases hm);refine ak 6 48 hs (fun _ _ hs=>dg ((ab x)/(ab y)) _ _ hs.g) (fun _ _ hs=>ak 10 52 hs (fun _ _ hs=>dg ((ab x)%(ab y)) _ _ hs.g) (fun _ _ hs=>bM hs (fun _ _ hs=>tP 11 3 0 (ic ((((ab x)/(ab y)):Nat):Int)) hs (fun _ hs=>?_) (hz:=aR (List.mem_cons_self)))));refine tP 12 2 0 (ic ((((ab x)%(ab y)):Nat):Int)) hs (fun _ hs=>?_) (hz:=aR (List.mem_cons_of_mem _<|List.mem_cons_self));refine tV 13 6 qT (tN (bx [(4,pB b7),(5,pB za),(6,qT)] ?_));exact kX (hs.ret [(3,0,3),(2,0,3)] (.tuple #[iv ((((ab x)/(ab y)):Nat):Int),iv ((((ab x)%(ab y)):Nat):Int),qT]) (⟨_,_,rfl,(Ff (a7 hx) hy).1,(Ff (a7 hx) hy).2⟩))
theorem Fb (x y:Int)(hy:0<y)(hlx:(wds (ab x)).length≤999999990)(hly:(wds (ab y)).length≤999999990)(hx:aD x=true)(hyn:aD y=false)(w:World)(h:Hp)(g:G w h):CR 131 #[wX (.bool true) (ab x),wX (.bool false) (ab y)] w h (fun v _=>∃ q r:Int,v=.tuple #[iv q,iv r,.bool true]∧q=x/y∧r=x%y):=by
 have hs:=sS g;have hy0:0<ab y:=by unfold ab;omega
 have hrb:=Nat.mod_lt (ab x) hy0;have hql:(wds (ab x/ab y)).length≤999999990:=ar (Nat.div_le_self _ _) hlx;have hrl:(wds (ab x%ab y)).length≤999999990:=ar (Nat.le_of_lt hrb) hly;have h1l:(wds 1).length≤1:=bU.2 kD;have hq1:(wds (ab x/ab y+1)).length≤1000000000:=Nat.le_trans fF oM;have hrs:(wds (ab y-ab x%ab y)).length≤1000000000:=Nat.le_trans (ar (Nat.sub_le _ _) hly) kD;have hnz:=@gx (ab x%ab y);refine go Tryz.func131 [(0,wX qT (ab x)),(1,wX qF (ab y))] rfl (aE (lA 2 26 (wC qT (ab x)) hs (fun b1 w2 h3 hs=>lA 3 26 (wC qF (ab y)) hs (fun b4 w5 h6 hs=>lA 4 26 ([qF,uV 0,eS]) hs (fun b7 w8 h9 hs=>lA 5 26 ([qF,uV 0,eS]) hs (fun zb _ _ hs=>lL hs [.v 6 qF] (aT (lL hs [.v 10 (qP b1 1),.o 11 (nv (ab x)) 3 1 2,.v 12 (qP b4 1),.o 13 (nv (ab y)) 2 1 2] (ag 14 hs (ut (ab x) (ab y) oM oM oM _ _ hs.g) (fun _ _ hs=>lL hs [.m 9 14,.v 15 (nv ((ab x)/(ab y))),.v 16 (nv ((ab x)%(ab y))),.v 17 qT] (lA 7 24 ([uV 0,eS]) hs (fun b15 _ _ hs=>lA 8 24 ([uV 0,eS]) hs (fun b18 _ _ hs=>lP 1 0 (nc ((ab x)/(ab y))) hs (fun _ hs=>lP 0 0 (nc ((ab x)%(ab y))) hs (fun _ hs=>lL hs [.m 6 17] (af (aa hs [.m 18 6,.v 19 qF] (aj (cK (cQ (aa hs [.v 22 (pB b1),.o 23 qT 5 0 1,.v 24 (pB b4),.o 25 qF 4 0 1,.v 26 qT,.m 27 26,.o 28 (nv ((ab x)%(ab y))) 0 0 2] (ag 29 hs (ej ((ab x)%(ab y)) bK _ _ hs.g) (fun _ _ hs=>?_)))))))))))))))))))))));cases za:(decide ((0:Int)<((nb ((ab x)%(ab y)):Nat):Int)))
 ·
  have zc:=oF za;refine lB 30 za (lL hs [.v 31 qF] (aj (cK (cQ ?_))));have hsr:=hs;refine jd 11 [] [b7,zb] mixed hs aq (eV 0 42 (pB b1) (eO 1 43 [(5,0,1)] qT hs (eV 2 44 (pB b4) (eO 3 45 [(4,0,1)] qF hs (eV 4 46 qT (eO 5 47 [(1,0,2)] (nv ((ab x)/(ab y))) hs (eV 7 49 (pB b4) (gZ 8 50 [(4,0,1)] qF hsr hs ?_ (hM:=fun p hp=>by obtain rfl:=List.mem_singleton.1 hp;exact fun hm=>by rcases List.mem_cons.1 hm with e|hm;exact a6 hs.st (i:=4) (j:=3) kR kR kR e;rcases List.mem_cons.1 hm with e|hm;exact a6 hs.st (i:=4) (j:=2) kR kR kR e;cases hm)))))))));refine gZ 9 51 [(0,0,2)] (nv ((ab x)%(ab y))) hsr hs ?_ (hM:=fun p hp=>by obtain rfl:=List.mem_singleton.1 hp;exact fun hm=>by rcases List.mem_cons.1 hm with e|hm;exact a6 hs.st (i:=0) (j:=3) kR kR kR e;rcases List.mem_cons.1 hm with e|hm;exact a6 hs.st (i:=0) (j:=2) kR kR kR e;cases hm);refine ak 6 48 hs (fun _ _ hs=>eE true ((ab x)/(ab y)) bK _ _ hs.g) (fun _ _ hs=>ak 10 52 hs (fun _ _ hs=>dg ((ab x)%(ab y)) _ _ hs.g) (fun _ _ hs=>bM hs (fun _ _ hs=>tP 11 3 0 (ic (ci true ((ab x)/(ab y)))) hs (fun _ hs=>?_) (hz:=aR (List.mem_cons_self)))));refine tP 12 2 0 (ic ((((ab x)%(ab y)):Nat):Int)) hs (fun _ hs=>?_) (hz:=aR (List.mem_cons_of_mem _<|List.mem_cons_self));refine tV 13 6 qT (tN (bx [(4,pB b7),(5,pB zb),(6,qT)] ?_));exact kX (hs.ret [(3,0,3),(2,0,3)] (.tuple #[iv (ci true ((ab x)/(ab y))),iv ((((ab x)%(ab y)):Nat):Int),qT]) (⟨_,_,rfl,(Fs (bh hx) hy oM).1,(Fs (bh hx) hy oM).2⟩))
 have zc:=oT za;refine lB 30 za (lL hs [.v 31 qT] (ao (cQ (cR 3 [] mixed hs aq ?_))));refine eO 0 32 [(1,0,2)] (nv ((ab x)/(ab y))) hs (ak 1 33 hs (fun _ _ hs=>Dk 1 oM _ _ hs.g) (fun _ _ hs=>ak 2 34 hs (fun _ _ hs=>Co ((ab x)/(ab y)) 1 bK bK _ _ hs.g) (fun _ _ hs=>bM hs (fun _ _ hs=>tP 3 1 0 (nc (((ab x)/(ab y))+1)) hs (fun _ hs=>tN (kQ (lL hs [.v 36 (qP b4 1),.o 37 (nv (ab y)) 4 1 2,.o 38 (nv ((ab x)%(ab y))) 0 0 2] (ag 39 hs (te (ab y) ((ab x)%(ab y)) oM bK bK _ _ hs.g) (fun _ _ hs=>lL hs [.m 35 39,.v 40 (nv ((ab y)-((ab x)%(ab y)))),.v 41 qT] (lP 0 0 (nc ((ab y)-((ab x)%(ab y)))) hs (fun _ hs=>af ?_)))))))))));have hsr:=hs;refine jd 11 [] [b7,zb] mixed hs aq (eV 0 42 (pB b1) (eO 1 43 [(5,0,1)] qT hs (eV 2 44 (pB b4) (eO 3 45 [(4,0,1)] qF hs (eV 4 46 qT (eO 5 47 [(1,0,2)] (nv (((ab x)/(ab y))+1)) hs (eV 7 49 (pB b4) (gZ 8 50 [(4,0,1)] qF hsr hs ?_ (hM:=fun p hp=>by obtain rfl:=List.mem_singleton.1 hp;exact fun hm=>by rcases List.mem_cons.1 hm with e|hm;exact a6 hs.st (i:=4) (j:=3) kR kR kR e;rcases List.mem_cons.1 hm with e|hm;exact a6 hs.st (i:=4) (j:=2) kR kR kR e;cases hm)))))))));refine gZ 9 51 [(0,0,2)] (nv ((ab y)-((ab x)%(ab y)))) hsr hs ?_ (hM:=fun p hp=>by obtain rfl:=List.mem_singleton.1 hp;exact fun hm=>by rcases List.mem_cons.1 hm with e|hm;exact a6 hs.st (i:=0) (j:=3) kR kR kR e;rcases List.mem_cons.1 hm with e|hm;exact a6 hs.st (i:=0) (j:=2) kR kR kR e;cases hm);refine ak 6 48 hs (fun _ _ hs=>eE true (((ab x)/(ab y))+1) bK _ _ hs.g) (fun _ _ hs=>ak 10 52 hs (fun _ _ hs=>dg ((ab y)-((ab x)%(ab y))) _ _ hs.g) (fun _ _ hs=>bM hs (fun _ _ hs=>tP 11 3 0 (ic (ci true (((ab x)/(ab y))+1))) hs (fun _ hs=>?_) (hz:=aR (List.mem_cons_self)))));refine tP 12 2 0 (ic ((((ab y)-((ab x)%(ab y))):Nat):Int)) hs (fun _ hs=>?_) (hz:=aR (List.mem_cons_of_mem _<|List.mem_cons_self));refine tV 13 6 qT (tN (bx [(4,pB b7),(5,pB zb),(6,qT)] ?_));exact kX (hs.ret [(3,0,3),(2,0,3)] (.tuple #[iv (ci true (((ab x)/(ab y))+1)),iv ((((ab y)-((ab x)%(ab y))):Nat):Int),qT]) (⟨_,_,rfl,(FG (bh hx) hy oM).1,(FG (bh hx) hy oM).2⟩))
theorem BV (x y:Int)(hy:0<y)(hlx:(wds (ab x)).length≤999999990)(hly:(wds (ab y)).length≤999999990)(w:World)(h:Hp)(g:G w h):CR 131 #[iv x,iv y] w h (fun v _=>∃ q r:Int,v=.tuple #[iv q,iv r,.bool true]∧q=x/y∧r=x%y):=by
 have hyn:aD y=false:=by unfold aD;exact decide_eq_false oM
 rcases hx:aD x with _|_<;>rw[gA hx,gA hyn]
 ·exact FC x y hy hlx hly hx hyn w h g
 ·exact Fb x y hy hlx hly hx hyn w h g
theorem FO (a:Rat)(ha:LQ 100000000 a)(b:Nat)(hb:b≤256)(w:World)(h:Hp)(g:G w h)(tb:Tab h):CV 84 #[qv a,nV b] w h (qv (dd a b)):=by
 have hs:=((sS g).aB tb);have ha1:=ha.1;have ha2:=ha.2;have hp0:0<2^b:=Nat.pow_pos kD;have hp1:(wds (2^b)).length≤5:=dI (b:=18446744073709551616) (k:=5) kD (Nat.lt_of_le_of_lt (Nat.pow_le_pow_right (n:=2) kD hb) (by decide +kernel));have hdp:(0:Int)<(a.den:Int):=by have:=a.den_pos;omega
 have hzl:(wds (ab (a.num*((2^b:Nat):Int)))).length≤100000006:=by rw[show ab (a.num*((2^b:Nat):Int))=ab a.num*2^b from by unfold ab;rw[Int.natAbs_mul,Int.natAbs_natCast]];exact Nat.le_trans cJ oM
 have hdl:(wds (ab (a.den:Int))).length≤100000000:=ha2;refine go Tryz.func84 [(0,qv a),(1,nV b)] rfl (aE (lA 2 28 (qc a) hs (fun b1 w2 h3 hs=>lA 4 28 ([qF,uV 0,eS,uV 0,eS]) hs (fun b4 w5 h6 hs=>aT (lL hs [.m 14 1] (lV 15 (nV b) ?_ (hr:=ay (n:=if (256:Int)<(b:Int) then (256:Int) else (b:Int)) kR (if_neg oM))))))));refine lV 16 (nV b) ?_ (hr:=ay (n:=if (b:Int)>(0:Int) then (b:Int) else (0:Int)) kR (by split<;>omega));refine lL hs [.m 1 16] (aT (ag 17 hs (Dk 1 oM _ _ hs.g) (fun w7 h8 hs=>lL hs [.m 18 1] (ag 19 hs (wV b oM _ _ hs.g) (fun w9 _ hs=>lA 5 24 ([uV 0,eS]) hs (fun zg _ _ hs=>lP 0 0 (nc (2^b)) hs (fun _ hs=>aT (lL hs [.o 20 (qv a) 2 0 5] (ag 21 hs (eM a aM _ _ hs.g) (fun _ _ hs=>ag 22 hs (dg a.den _ _ hs.g) (fun _ _ hs=>lA 6 26 ([qF,uV 0,eS]) hs (fun b19 _ _ hs=>lP 0 0 (ic (a.den:Int)) hs (fun _ hs=>af ?_)))))))))))));have hsr:=hs;refine cR 12 [⟨10,7,.cells (List.toArray [qF,uV 0,eS]) 26 (0,0)⟩,⟨11,8,.cells (List.toArray [qF,uV 0,eS]) 26 (0,0)⟩] mixed hs (bn (ee kR (fun _ _=>by kernel_rfl)) (bn (ee kR (fun _ _=>by kernel_rfl)) aq)) (eV 0 24 (pB b1) (eO 1 25 [(3,0,3)] (iv a.num) hs (eO 2 26 [(1,0,2)] (nv (2^b)) hs (eO 4 28 [(0,0,3)] (iv (a.den:Int)) hs (ak 3 27 hs (fun _ _ hs=>gc a.num (2^b) bK _ _ hs.g) (fun _ _ hs=>eC 5 29 hs (fun _ _ hs=>BV (a.num*(((2^b):Nat):Int)) (a.den:Int) hdp oM oM _ _ hs.g) ?_))))));rintro _ _ _ _ _ hs ⟨q,r,rfl,hq,hr⟩;have hql:(wds (ab q)).length≤100000006:=by rw[hq];exact s7 oM
 have hrl:(wds (ab r)).length≤100000000:=by rw[hr];exact vS hdp oM
 have hcc:=pM (r+r) (a.den:Int);have hq1:=oe (x:=q) (y:=1) (by omega:(wds (ab q)).length≤100000006) (by rw[show ab 1=1 from rfl];exact Nat.le_trans (bU.2 kD) (show 1≤100000006 by decide));have hi1:(wds (ab 1)).length≤1:=bU.2 kD;have hr2:=oe (x:=r) (y:=r) hrl hrl;refine eV 6 23 (.tuple #[iv q,iv r,qT]) (eV 7 30 (iv q) (eV 8 31 (iv r) (eV 9 32 qT (G8 hsr hs 26 [qF,uV 0,eS] 26 [qF,uV 0,eS] (fun _ _ zi b30 hs=>tP 12 0 0 (ic q) hs (fun _ hs=>tP 13 1 0 (ic r) hs (fun _ hs=>tV 14 9 qT (tN (cQ (cR 5 [] mixed hs aq ?_))))))))));refine eO 0 33 [(1,0,3)] (iv r) hs (eO 1 34 [(1,0,3)] (iv r) hs (eO 3 36 [(2,0,3)] (iv (a.den:Int)) hs (ak 2 35 hs (fun _ _ hs=>td r r bK _ _ hs.g) (fun _ _ hs=>ak 4 37 hs (fun _ _ hs=>sj (r+r) (a.den:Int) bK bK _ _ hs.g) (fun _ _ hs=>bM hs (fun _ _ hs=>tV 5 10 (iV (dG (r+r) (a.den:Int))) (tN (cQ (aa hs [.m 38 10] ?_)))))))));cases za:((dG (r+r) (a.den:Int):Int) == (0:Int))
 ·
  have zd:=ah za;refine lB 39 za (aj (cK (cQ (aa hs [.m 49 10] ?_))));cases zb:(decide ((0:Int)<(dG (r+r) (a.den:Int):Int)))
  ·
   have ze:=oF zb;refine lB 50 zb (aj (cK (aa hs [.o 54 (iv q) 0 0 3,.o 55 (nv (2^b)) 3 0 2] (ag 56 hs (hJ q (2^b) bK bK bK _ _ hs.g hs.f.1) (fun _ _ hs=>lP 4 0 (qc (mkRat q (2^b))) hs (fun _ hs=>lN (bx [(4,pB b4)] ?_)))))));exact kX (hs.ret [(4,0,5)] (qv (mkRat q (2^b))) (congrArg qv (tG hq hr oM)))
  have ze:=oT zb;refine lB 50 zb (ao (cR 3 [] mixed hs aq ?_));refine eO 0 51 [(0,0,3)] (iv q) hs (ak 1 52 hs (fun _ _ hs=>GQ 1 oM oM _ _ hs.g) (fun _ _ hs=>ak 2 53 hs (fun _ _ hs=>td q 1 bK _ _ hs.g) (fun _ _ hs=>bM hs (fun _ _ hs=>tP 3 0 0 (ic (q+1)) hs (fun _ hs=>tN (bx [(4,pB b4),(5,pB zg),(7,pB zi)] ?_))))));exact aa hs [.o 54 (iv (q+1)) 0 0 3,.o 55 (nv (2^b)) 3 0 2] (ag 56 hs (hJ (q+1) (2^b) bK bK bK _ _ hs.g hs.f.1) (fun _ _ hs=>lP 4 0 (qc (mkRat (q+1) (2^b))) hs (fun _ hs=>ae hs [(4,0,5)] (qv (mkRat (q+1) (2^b))) (congrArg qv (ur hq hr oM)))))
 have zd:=eq_of_beq za;refine lB 39 za (ao (cQ ?_));have hsr:=hs;refine cR 9 [⟨7,11,.cells (List.toArray [qF,uV 0,eS]) 26 (0,0)⟩,⟨8,12,.cells (List.toArray [qF,uV 0,eS]) 26 (0,0)⟩] mixed hs (bn (ee kR (fun _ _=>by kernel_rfl)) (bn (ee kR (fun _ _=>by kernel_rfl)) aq)) (eO 0 41 [(0,0,3)] (iv q) hs (ak 1 42 hs (fun _ _ hs=>GQ 2 oM oM _ _ hs.g) (fun _ _ hs=>?_)));have hi2:(wds (ab 2)).length≤1:=bU.2 kD;refine eC 2 43 hs (fun _ _ hs=>BV q 2 kD oM oM _ _ hs.g) ?_;rintro _ _ _ _ _ hs ⟨p,o,rfl,hp,ho⟩;have hop:o=0∨o=1:=by omega
 have hos:o.sign=o:=by rcases hop with h_|h_<;>rw[h_]<;>rfl
 have hol:(wds (ab o)).length≤1:=by rcases hop with h_|h_<;>rw[h_]<;>exact bU.2 kD
 refine eV 3 40 (.tuple #[iv p,iv o,qT]) (eV 4 44 (iv p) (eV 5 45 (iv o) (eV 6 46 qT (G8 hsr hs 26 [qF,uV 0,eS] 26 [qF,uV 0,eS] (fun _ _ b60 zj hs=>tP 9 0 0 (ic p) hs (fun _ hs=>tP 10 1 0 (ic o) hs (fun _ hs=>tV 11 13 qT (tN (bx [(4,pB b4),(5,pB zg),(7,pB zi),(10,iV (dG (r+r) (a.den:Int))),(12,pB zj)] ?_)))))))));refine kQ (lL hs [.o 47 (iv o) 1 0 3] (ag 48 hs (jD o bK _ _ hs.g) (fun _ _ hs=>lL hs [.m 10 48] (af (aa hs [.m 49 10] ?_)))));cases zc:(decide ((0:Int)<((o).sign:Int)))
 ·
  have zf:=oF zc;exact lB 50 zc (aj (cK (aa hs [.o 54 (iv q) 2 0 3,.o 55 (nv (2^b)) 5 0 2] (ag 56 hs (hJ q (2^b) bK bK bK _ _ hs.g hs.f.1) (fun _ _ hs=>lP 6 0 (qc (mkRat q (2^b))) hs (fun _ hs=>ae hs [(6,0,5)] (qv (mkRat q (2^b))) (congrArg qv (tG hq hr oM))))))))
 have zf:=oT zc;refine lB 50 zc (ao (cR 3 [] mixed hs aq ?_));exact eO 0 51 [(2,0,3)] (iv q) hs (ak 1 52 hs (fun _ _ hs=>GQ 1 oM oM _ _ hs.g) (fun _ _ hs=>ak 2 53 hs (fun _ _ hs=>td q 1 bK _ _ hs.g) (fun _ _ hs=>bM hs (fun _ _ hs=>tP 3 2 0 (ic (q+1)) hs (fun _ hs=>tS (lL hs [.o 54 (iv (q+1)) 2 0 3,.o 55 (nv (2^b)) 5 0 2] (ag 56 hs (hJ (q+1) (2^b) bK bK bK _ _ hs.g hs.f.1) (fun _ _ hs=>lP 6 0 (qc (mkRat (q+1) (2^b))) hs (fun _ hs=>ae hs [(6,0,5)] (qv (mkRat (q+1) (2^b))) (congrArg qv (ur hq hr oM)))))))))))
theorem G3 (A:Option Addr)(c:Nat)(qs:List Rat)(K:Nat)(hn:qs.length≤10)(hK:∀ i,LQ K (qs.getD i 0))(hb:K≤5000000)(w:World)(h:Hp)(g:G w h)(hA:Sq A qs h)(tb:Tab h):CV 34 #[.slice A qs.length c] w h (qv (AD qs qs.length)):=by
 have hs:=(((sS g).aS hA).aB tb);refine go Tryz.func34 [(0,qS A qs.length c)] rfl (aE (lA 2 28 ([qF,uV 0,eS,uV 0,eS]) hs (fun b1 w2 h3 hs=>aT (lA 3 28 ([qF,uV 0,eS,uV 0,eS]) hs (fun b4 w5 h6 hs=>af (aa hs [.m 6 0,.v 7 (nV qs.length),.v 8 (iV 0)] (bj ?_)))))));refine bx _ (CG.loop (fun μ_ Γ w_=>∃ (k:Nat) (s:Rat) (h_:Hp),μ_=qs.length-k∧Γ=[(2,pB b1),(3,pB b4),(6,qS A qs.length c),(7,nV qs.length),(8,nV k)]∧SS w h w_ h_ [⟨b4,28,qc s⟩,⟨b1,28,[qF,uV 0,eS,uV 0,eS]⟩] [] [fun h_=>Tab h_,Sq A qs]∧k≤qs.length∧s=AD qs k∧LQ (k*(K+1)+1) s) _ ⟨0,0,h6,rfl,rfl,hs.to _ _,Nat.zero_le _,rfl,(j1 oM)⟩ ?_);rintro _ _ w7 ⟨k,s,h8,hm9,rfl,hs,hk,hse,hsb⟩;have hkK:k*(K+1)≤10*(K+1):=Nat.mul_le_mul_right _ oM;refine aE ?_;cases za:(decide ((k:Int)<(qs.length:Int)))
 ·
  have zb:=oF za;refine lB 9 za (af (cM (CG.exit ?_)))
  show CG _ _ _ _ _ _ _ _
  exact aa hs [.o 16 (qv s) 0 0 5] (lP 1 0 (qc s) hs (fun _ hs=>ae hs [(1,0,5)] (qv s) (by rw[show qs.length=k by omega,←hse])))
 have zb:=oT za;refine lB 9 za (af (bS (cK (cQ (kZ (aE (lX 10 A qs.length c 5 (k:Nat) k ((hs.f.2.1).ok oM) ?_)))))));refine lH 11 (qv (qs.getD k 0)) hs ((hs.f.2.1).el k oM) (lA 5 28 ([qF,uV 0,eS,uV 0,eS]) hs (fun b12 _ _ hs=>lP 0 0 (qc (qs.getD k 0)) hs (fun _ hs=>lN (kQ (lL hs [.o 12 (qv s) 1 0 5,.o 13 (qv (qs.getD k 0)) 0 0 5] ?_)))));have hq16:=LQ.add hsb (hK k);refine ag 14 hs (jI s (qs.getD k 0) (LQ.mono hsb oM) (LQ.mono (hK k) oM) _ _ hs.g hs.f.1) (fun _ zc hs=>lP 1 0 (qc (s+(qs.getD k 0))) hs (fun _ hs=>lN (kQ (bB 15 ((k:Nat)+1) (k+1) ?_))));refine lL hs [.m 8 15] (lD ?_);intro a_ ka;replace hs:=hs.drop 1 0;refine ⟨_,_,?_,⟨k+1,(s+(qs.getD k 0)),zc,rfl,rfl,hs.to _ _,oM,(by rw[hse];rfl),((hsb.add (hK k)).mono (by rw[Nat.succ_mul];omega))⟩,ka.to _ kR⟩
 omega
theorem FX {a:Rat}(h:a.num.sign=0):a=0:=by
 rw[←Rat.num_eq_zero];exact Int.sign_eq_zero_iff_zero.1 h
theorem Bz.sgb {wt sg:Nat→Nat}{C k:Nat}{bar g:List Rat}(Z:Bz wt sg C (k+1) bar g)(hw:1≤wt k):sg k≤C:=by
 obtain ⟨f,E,hf,hE,hC⟩:=Z;rw[lZ] at hC
 have h2:=Nat.mul_le_mul_left (sg k+2) hw
 omega
theorem DU (n_:Nat)(A:Option Addr)(c:Nat)(l:List Stp)(O:Option Addr)(d:Nat)(os:List Int)(at_:List Rat)(X:Option Addr)(cX:Nat)(by_:List Rat)(Y:Option Addr)(cY:Nat)(wt sg:Nat→Nat)(W_:Nat)(hl:l.length≤65536)(ho:os.length≤300)(hat2:at_.length≤1000000)(hbt2:by_.length≤1000000)(hq:∀ i,LQ 1 (l.getD i ac).q)(hby:∀ i,LQ 1 (by_.getD i 0))(hB:be (n_:Int) l os=0→(at_.length:Int)=(n_:Int)→∀ k,k≤l.length→bN true l at_ k=0→∀ j,LQ 1000000 ((aU l at_ k).getD j 0))(hwt:be (n_:Int) l os=0→Wt l wt)(hW:∀ j,j<l.length→wt j≤W_)(hSg:be (n_:Int) l os=0→(at_.length:Int)=(n_:Int)→bN true l at_ l.length=0→∀ k,k<l.length→(l.getD k ac).op≠2→LQ (sg k) (nj (l.getD k ac).op (l.getD k ac).n ((aU l at_ l.length).getD (l.getD k ac).a.toNat 0) ((aU l at_ l.length).getD (l.getD k ac).b.toNat 0))∧LQ (sg k) (nu (l.getD k ac).op ((aU l at_ l.length).getD (l.getD k ac).a.toNat 0) ((aU l at_ l.length).getD (l.getD k ac).b.toNat 0)))(hC:be (n_:Int) l os=0→1+iP wt (fun _=>1) l.length+os.length*(2*W_)+kT wt sg l.length≤100000000)(w:World)(h:Hp)(g:G w h)(hA:SlO 9 fu ac h A l)(hO:Si O os h)(hX:Sq X at_ h)(hY:Sq Y by_ h)(tb:Tab h):CR 37 #[.agg #[nV n_,.slice A ((l).length) c,.slice O ((os).length) d],.slice X at_.length cX,.slice Y by_.length cY] w h (fun v h1=>∃ A c B d,v=.tuple #[.slice A (fl (n_:Int) l os at_ by_).length c,.slice B (cf (n_:Int) l os at_ by_).length d,iV (bE (n_:Int) l os at_ by_)]∧(fl (n_:Int) l os at_ by_).length≤c∧(cf (n_:Int) l os at_ by_).length≤d∧Sq A (fl (n_:Int) l os at_ by_) h1∧Sq B (cf (n_:Int) l os at_ by_) h1∧(bE (n_:Int) l os at_ by_=0→∀ way,c4 (cf (n_:Int) l os at_ by_) way ((n_:Int)).toNat=wA l os at_ by_ way)∧(bE (n_:Int) l os at_ by_=0→h.size≤aB B)):=by
 have hs:=((((((sS g).aS hA).aS hO).aS hX).aS hY).aB tb);refine go Tryz.func37 [(0,.agg #[nV n_,qS A ((l).length) c,qS O ((os).length) d]),(1,qS X at_.length cX),(2,qS Y by_.length cY)] rfl (aE (lA 3 40 ([nV n_,qS A ((l).length) c,qS O ((os).length) d]) hs (fun b1 w2 h3 hs=>lL hs [.v 6 (sZ),.v 7 (sZ),.v 8 (iV 0)] (af (aa hs [.o 17 (.agg #[nV n_,qS A ((l).length) c,qS O ((os).length) d]) 0 0 3] (ag 18 hs (iB (n_:Int) A c l O d os oM oM (fun i _=>hq i) _ _ hs.g hs.f.q.1 hs.f.r.2.1) (fun w4 h5 hs=>?_)))))));cases hb6:((be (n_:Int) l os:Int) != (0:Int))
 ·
  have phb6:=aI hb6;refine lB 19 hb6 (aj (cK (cQ (aa hs [.m 20 1,.v 21 (nV at_.length),.v 22 (pB b1),.o 23 (nV n_) 0 0 1] ?_))));cases hb7:((at_.length:Int) != (n_:Int))
  ·
   have phb7:=aI hb7;refine lB 24 hb7 (lL hs [.m 25 24,.m 26 2,.v 27 (nV by_.length),.v 28 (qP b1 2),.o 29 (qS O ((os).length) d) 0 2 1,.v 30 (nV ((os).length))] ?_);cases hb8:((by_.length:Int) != (((os).length:Nat):Int))
   ·
    have phb8:=aI hb8;refine lB 31 hb8 (lL hs [.v 32 qF] (aj (cK (aa hs [.o 34 (.agg #[nV n_,qS A ((l).length) c,qS O ((os).length) d]) 0 0 3,.m 35 1] ?_))));have hck:be (n_:Int) l os=0:=by omega
    refine lC 36 hs (qN true true rfl (n_:Int) A c l O d os at_ X cX (d4 hck).1 oM oM hq (hB hck oM) _ _ hs.g hs.f.q.1 hs.f.r.2.1 hs.f.r.1 hs.f.1) ?_;rintro _ w9 _ hs ⟨Av,cv,rfl,hcv,hAv⟩;replace hs:=hs.aS hAv;refine lL hs [.m 33 36,.v 37 (qS Av ((bR true l at_).length) cv),.v 38 (iV (bN true l at_ l.length)),.m 9 37,.m 8 38] (af (aa hs [.m 39 8] ?_));cases zd:((bN true l at_ l.length:Int) != (0:Int))
    ·
     have zo:=aI zd;refine lB 40 zd (aj (cK (aa hs [.v 42 (pB b1),.o 43 (nV n_) 0 0 1] (lK 44 28 n_ 5 56 (.agg #[qF,uV 0,eS,uV 0,eS]) qc 0 hs (fun zb _ _ hs=>?_)))));have hl15:(List.replicate n_ 0).length=n_:=by simp
     refine lL hs [.m 7 44] (aT (lL hs [.v 45 (qP b1 1),.o 46 (qS A ((l).length) c) 1 1 1,.v 47 (nV ((l).length))] (lK 48 28 ((l).length) 5 56 (.agg #[qF,uV 0,eS,uV 0,eS]) qc 0 hs (fun za _ zE hs=>?_))));have hl19:(List.replicate ((l).length) 0).length=((l).length):=by simp
     refine lL hs [.m 10 48] (af (aa hs [.v 49 (qP b1 2),.o 50 (qS O ((os).length) d) 2 2 1,.v 51 (nV ((os).length)),.v 52 (iV 0)] (lN (bx [(2,qS Y by_.length cY),(3,pB b1),(6,sZ),(7,qS (sB zb) n_ n_),(8,iV (bN true l at_ l.length)),(9,qS Av ((bR true l at_).length) cv),(10,qS (sB za) ((l).length) ((l).length)),(50,qS O ((os).length) d),(51,nV ((os).length)),(52,iV 0)] ?_))));refine kZ ?_;have hter:bN true l at_ l.length=0:=by omega
     have hvl:bR true l at_=aU l at_ l.length:=if_pos hter;have hLb:∀ j,LQ 1000000 ((bR true l at_).getD j 0):=fun j=>by rw[hvl];exact hB hck oM l.length (nR _) hter j
     have hvn:(bR true l at_).length=l.length:=by rw[hvl,d8]
     have hWt:=hwt hck;have hw1:=fun j (hj:j<l.length)=>(hWt j hj).1
     have hSgk:=hSg hck oM hter;have hCC:=hC hck;have hOok:=(d4 hck).2.1;refine bx _ (CG.loop (fun μ_ Γ w_=>∃ (i:Nat) (bar:List Rat) (h_:Hp),μ_=os.length-i∧Γ=[(2,qS Y by_.length cY),(3,pB b1),(6,sZ),(7,qS (sB zb) n_ n_),(8,iV (bN true l at_ l.length)),(9,qS Av ((bR true l at_).length) cv),(10,qS (sB za) ((l).length) ((l).length)),(50,qS O ((os).length) d),(51,nV ((os).length)),(52,nV i)]∧SS w h w_ h_ [⟨za,28,(bar).flatMap qc⟩,⟨zb,28,(List.replicate n_ 0).flatMap qc⟩,⟨b1,40,[nV n_,qS A ((l).length) c,qS O ((os).length) d]⟩] [] [Sq Av (bR true l at_),fun h_=>Tab h_,Sq Y by_,Sq X at_,Si O os,fun h_=>SlO 9 fu ac h_ A l]∧i≤os.length∧bar.length=l.length∧Bo l os at_ by_ i bar∧Bos wt l.length W_ i bar) _ ⟨0,List.replicate l.length (0:Rat),zE,rfl,rfl,hs.to _ _,Nat.zero_le _,(by simp),Bo.init,Bos.init _ _ _⟩ ?_);rintro _ _ _ ⟨i,bar,zF,hm22,rfl,hs,hik,hbl,hBo,hBs⟩;have hiW:=Nat.mul_le_mul_right (2*W_) hik;have hiC:iP wt (fun _=>1) l.length+i*(2*W_)≤100000000:=by omega
     have hok:=fun h0=>hOok i h0
     refine aE ?_;cases ze:(decide ((i:Int)<(((os).length:Nat):Int)))
     ·
      have zp:=oF ze;refine lB 53 ze (af (cM (CG.exit ?_)))
      show CG _ _ _ _ _ _ _ _
      refine cQ (aa hs [.v 70 (qP b1 1),.o 71 (qS A ((l).length) c) 2 1 1,.v 72 (nV ((l).length))] (lI 73 (((l).length:Nat)-1) ?_));refine lL hs [.m 13 73] (bj ?_);have hie:i=os.length:=by omega
      rw[hie] at hBo hBs
      refine bx _ (CG.loop (fun μ_ Γ w_=>∃ (k:Nat) (g:List Rat) (bar:List Rat) (h_:Hp),μ_=k∧Γ=[(3,pB b1),(6,sZ),(7,qS (sB zb) n_ n_),(8,iV (bN true l at_ l.length)),(9,qS Av ((bR true l at_).length) cv),(10,qS (sB za) ((l).length) ((l).length)),(13,iV ((k:Nat)-1))]∧SS w h w_ h_ [⟨za,28,(bar).flatMap qc⟩,⟨zb,28,(g).flatMap qc⟩,⟨b1,40,[nV n_,qS A ((l).length) c,qS O ((os).length) d]⟩] [] [Sq Av (bR true l at_),fun h_=>Tab h_,Sq Y by_,Sq X at_,Si O os,fun h_=>SlO 9 fu ac h_ A l]∧k≤l.length∧g.length=n_∧bar.length=l.length∧Bk l at_ n_ (wA l os at_ by_) k bar g∧Bz wt sg 100000000 k bar g) _ ⟨l.length,List.replicate n_ (0:Rat),bar,zF,rfl,rfl,hs.to _ _,nR _,(by simp),hbl,(hBo.bk n_),(hBs.bz oM)⟩ ?_);rintro _ _ _ ⟨k,g,bar,_,hm26,rfl,hs,hk,hgl,hbl,hBk,hZ⟩;have hw1k:=fun j (hj:j<k)=>hw1 j oM
      refine cQ (aa hs [.m 74 13] ?_);cases zf:(decide ((0:Int)≤((k:Nat)-1:Int)))
      ·
       have zq:=oF zf;refine lB 75 zf (aj (CG.exit ?_))
       show CG _ _ _ _ _ _ _ _
       refine aE ?_;have hkn:k=0:=by omega
       rw[hkn] at hBk
       have hfin:=hBk.fin hgl;have hgd:g=gt n_ l os at_ by_:=hfin.1;rw[hgd] at hfin
       obtain ⟨_,hs,sg29,lo30,bc31⟩:=hs.pub 1;replace hs:=(hs.to [⟨za,28,(bar).flatMap qc⟩,⟨b1,40,[nV n_,qS A ((l).length) c,qS O ((os).length) d]⟩] []).aS (SlO.of_flat (sz:=5) (f:=qc) (d:=0) (b:=zb) (o:=0) (l:=g) (fun _=>rfl) sg29);replace hs:=hs.aS (show Sq (sB zb) (gt n_ l os at_ by_) _ from by rw[←hgd];exact hs.f.1);have hgn:(gt n_ l os at_ by_).length=n_:=by rw[←hgd];exact hgl
       have hcd:(gt n_ l os at_ by_).length≤n_:=by omega
       refine lL hs [.o 161 (.agg #[nV n_,qS A ((l).length) c,qS O ((os).length) d]) 1 0 3,.m 162 9] (lC 163 hs (BM (n_:Int) A c l O d os (bR true l at_) Av cv oM (by rw[hvl,d8];exact (d4 hck).2.1) _ _ hs.g hs.f.q.r.2.1 hs.f.q.r.1 hs.f.r.1) ?_);rintro _ _ _ hs ⟨Ao,co,rfl,hco,hAo⟩;replace hs:=hs.aS hAo;exact lL hs [.m 164 7,.m 6 163,.m 7 164,.v 8 (iV 0)] (ae hs [] (.tuple #[qS Ao ((dV (bR true l at_) os).length) co,qS (sB zb) n_ n_,iV 0]) (by obtain ⟨e1,e2,e3⟩:=C6 (inp:=(n_:Int)) (l:=l) (os:=os) (at_:=at_) (by_:=by_) hck oM oM hter;rw[e1,e2,e3,←hvl];exact ⟨_,_,_,_,(by rw[show (gt (n_:Int).toNat l os at_ by_).length=n_ from hgn]),hco,hcd,hs.f.1,hs.f.2.1,fun _=>hfin.2,fun _=>lo30⟩))
      have zq:=oT zf;refine lB 75 zf (ao (cK (cQ (kZ (aE ?_)))));have hk1:k-1+1=k:=by omega
      have hB1:Bk l at_ n_ (wA l os at_ by_) (k-1+1) bar g:=by rw[hk1];exact hBk
      have hZ1:Bz wt sg 100000000 (k-1+1) bar g:=by rw[hk1];exact hZ
      have hwk:=hw1 (k-1) oM;have fk:=(d4 hck).1 (k-1) oM;have hopr:=fk.opr;have hok_:=E3 hter (by omega:k-1<l.length) (d4 hck).1;obtain ⟨hx1,hx2,hx3,hx4⟩:=fk.ix;refine lL hs [.v 78 (qP b1 1),.o 79 (qS A ((l).length) c) 2 1 1,.m 80 13] (lX 81 A ((l).length) c 9 ((k:Nat)-1) (k-1) ((hs.f.q.2.1).ok oM) ?_);refine lH 82 (sX (l.getD (k-1) ac)) hs ((hs.f.q.2.1).el (k-1) oM) (lA 14 135 ([iV 0,iV 0,iV 0,iV 0,qF,uV 0,eS,uV 0,eS]) hs (fun zc _ _ hs=>lP 0 0 (sC (l.getD (k-1) ac)) hs (fun _ hs=>af (aa hs [.m 83 10,.m 84 13] (lX 85 (sB za) ((l).length) ((l).length) 5 ((k:Nat)-1) (k-1) rfl ?_)))));refine lQ 86 1 bar qc 5 0 (k-1) (qv ((bar).getD (k-1) 0)) hs oM (ag 87 hs (d6 ((bar).getD (k-1) 0) (LQ.mono (hZ.lb hw1k (k-1) oM) oM) _ _ hs.g) (fun _ zG hs=>?_));cases zg:((((bar).getD (k-1) 0).num.sign:Int) == (0:Int))
      ·
       have zs:=ah zg;refine lB 88 zg (aj (cK (cQ (aa hs [.v 89 (pB zc),.o 90 (iV ((l.getD (k-1) ac).op)) 0 0 1] ?_))));cases zi:(((l.getD (k-1) ac).op:Int) == (2:Int))
       ·
        have zt:=ah zi;refine lB 91 zi (aj (cK (cQ ?_)));have hsr:=hs;refine cR 17 [⟨15,15,.cells (List.toArray [qF,uV 0,eS,uV 0,eS]) 28 (0,0)⟩,⟨16,16,.cells (List.toArray [qF,uV 0,eS,uV 0,eS]) 28 (0,0)⟩] mixed hs (bn (ee kR (fun _ _=>by kernel_rfl)) (bn (ee kR (fun _ _=>by kernel_rfl)) aq)) ?_;have ho2:(l.getD (k-1) ac).op≠2:=by omega
        obtain ⟨hok6,hok8⟩:=Dw hvl hok_ ho2 oM fk.o68.1 fk.o68.2;have hsg8:sg (k-1)≤100000000:=hZ1.sgb hwk;refine eO 0 107 [(0,0,9)] (sX (l.getD (k-1) ac)) hs (eV 1 108 (qS Av ((bR true l at_).length) cv) (eV 2 109 (qP zc 1) (eO 3 110 [(0,1,1)] (iV ((l.getD (k-1) ac).a)) hs (eX 4 111 Av ((bR true l at_).length) cv 5 ((l.getD (k-1) ac).a) ((l.getD (k-1) ac).a.toNat) ((hs.f.1).ok oM) (eH 5 112 (qv ((bR true l at_).getD ((l.getD (k-1) ac).a.toNat) 0)) hs ((hs.f.1).el ((l.getD (k-1) ac).a.toNat) oM) (eV 6 113 (qS Av ((bR true l at_).length) cv) (eV 7 114 (qP zc 2) (eO 8 115 [(0,2,1)] (iV ((l.getD (k-1) ac).b)) hs (eX 9 116 Av ((bR true l at_).length) cv 5 ((l.getD (k-1) ac).b) ((l.getD (k-1) ac).b.toNat) ((hs.f.1).ok oM) (eH 10 117 (qv ((bR true l at_).getD ((l.getD (k-1) ac).b.toNat) 0)) hs ((hs.f.1).el ((l.getD (k-1) ac).b.toNat) oM) (eC 11 118 hs (fun _ _ hs=>tm (l.getD (k-1) ac) ((bR true l at_).getD (l.getD (k-1) ac).a.toNat 0) ((bR true l at_).getD (l.getD (k-1) ac).b.toNat 0) 1000000 oM (hLb _) (hLb _) (hq (k-1)) kD (fk.op_ ho2) fk.2.2.2.2.2.1 hok6 hok8 _ _ hs.g hs.f.2.1) ?_)))))))))));rintro _ _ _ _ _ hs ⟨da,db,rfl,hda,hdb⟩;obtain ⟨hsa,hsb⟩:=hSgk (k-1) oM oM;rw[←hvl,←hda] at hsa
        rw[←hvl,←hdb] at hsb
        refine eV 12 106 (.tuple #[qv da,qv db]) (eV 13 119 (qv da) (eV 14 120 (qv db) (G8 hsr hs 28 [qF,uV 0,eS,uV 0,eS] 28 [qF,uV 0,eS,uV 0,eS] (fun _ _ zl zm hs=>tP 17 0 0 (qc da) hs (fun _ hs=>tP 18 1 0 (qc db) hs (fun _ hs=>tN (bx [(3,pB b1),(6,sZ),(7,qS (sB zb) n_ n_),(8,iV (bN true l at_ l.length)),(9,qS Av ((bR true l at_).length) cv),(10,qS (sB za) ((l).length) ((l).length)),(13,iV ((k:Nat)-1)),(14,pB zc),(16,pB zm),(15,pB zl)] ?_)))))));refine cQ (aa hs [.v 121 (pB zc),.o 122 (iV ((l.getD (k-1) ac).op)) 2 0 1] (ag 123 hs (ko (l.getD (k-1) ac).op _ _ hs.g) (fun _ _ hs=>?_)));cases zj:(decide ((0:Int)<(cC (l.getD (k-1) ac).op:Int)))
        ·
         have zu:=oF zj;refine lB 124 zj (aj (cK (aa hs [.v 141 (pB zc),.o 142 (iV ((l.getD (k-1) ac).op)) 2 0 1] (ag 143 hs (ko (l.getD (k-1) ac).op _ _ hs.g) (fun _ zH hs=>?_)))));have ⟨zA,phb56⟩:=dF (p:=(1:Int)<(cC (l.getD (k-1) ac).op:Int)) oM;refine lB 144 zA (aj (cK (kQ (lL hs [.m 76 13] (lI 77 (((k:Nat)-1)-1) ?_)))));refine lE (ik:=.i64) 13 (show (k:Int)-1-1=((k-1:Nat):Int)-1 by omega) (lD ?_);intro a_ ka;replace hs:=hs.drop 3 0;refine ⟨_,_,?_,⟨k-1,g,bar,zH,rfl,rfl,hs.to _ _,oM,hgl,hbl,(by first|exact hB1.skip (FX oM)|exact hB1.num oM hopr oM oM),hZ1.skip⟩,ka.to _ kR⟩
         omega
        have zu:=oT zj;refine lB 124 zj (ao (cR 15 [] mixed hs aq ?_));refine eV 0 125 (qS (sB za) ((l).length) ((l).length)) (eV 1 126 (qP zc 1) (eO 2 127 [(2,1,1)] (iV ((l.getD (k-1) ac).a)) hs (eV 3 128 (qS (sB za) ((l).length) ((l).length)) (eV 4 129 (qP zc 1) (eO 5 130 [(2,1,1)] (iV ((l.getD (k-1) ac).a)) hs (eX 6 131 (sB za) ((l).length) ((l).length) 5 ((l.getD (k-1) ac).a) ((l.getD (k-1) ac).a.toNat) rfl (eQ 7 132 3 bar qc 5 0 ((l.getD (k-1) ac).a.toNat) (qv ((bar).getD ((l.getD (k-1) ac).a.toNat) 0)) hs oM (eV 8 133 (qS (sB za) ((l).length) ((l).length)) (eV 9 134 (iV ((k:Nat)-1)) (eX 10 135 (sB za) ((l).length) ((l).length) 5 ((k:Nat)-1) (k-1) rfl (eQ 11 136 3 bar qc 5 0 (k-1) (qv ((bar).getD (k-1) 0)) hs oM (eO 12 137 [(0,0,5)] (qv da) hs ?_))))))))))));have hq62:=LQ.mul (hZ.lb hw1k (k-1) oM) hsa;refine ak 13 138 hs (fun _ _ hs=>iO ((bar).getD (k-1) 0) da (LQ.mono (hZ.lb hw1k (k-1) oM) oM) (LQ.mono hsa oM) _ _ hs.g hs.f.2.1) (fun _ _ hs=>?_);have hq65:=LQ.add (hZ.lb hw1k ((l.getD (k-1) ac).a.toNat) oM) (hZ1.mul hwk hsa);refine ak 14 139 hs (fun _ _ hs=>jI ((bar).getD ((l.getD (k-1) ac).a.toNat) 0) (((bar).getD (k-1) 0)*da) (LQ.mono (hZ.lb hw1k ((l.getD (k-1) ac).a.toNat) oM) oM) (LQ.mono (hZ1.mul hwk hsa) oM) _ _ hs.g hs.f.2.1) (fun _ _ hs=>bM hs (fun _ _ hs=>tX 15 140 (sB za) ((l).length) ((l).length) 5 ((l.getD (k-1) ac).a) ((l.getD (k-1) ac).a.toNat) rfl (tW 16 3 bar qc 5 ((l.getD (k-1) ac).a.toNat) (((bar).getD ((l.getD (k-1) ac).a.toNat) 0)+(((bar).getD (k-1) 0)*da)) hs oM (fun _ hs=>?_))));have zn:((bar).set ((l.getD (k-1) ac).a.toNat) (((bar).getD ((l.getD (k-1) ac).a.toNat) 0)+(((bar).getD (k-1) 0)*da))).length=((l).length):=by rw[List.length_set];exact hbl
        replace hs:=hs.to [⟨zl,28,qc da⟩,⟨zm,28,qc db⟩,⟨zc,135,sC (l.getD (k-1) ac)⟩,⟨za,28,((bar).set ((l.getD (k-1) ac).a.toNat) (((bar).getD ((l.getD (k-1) ac).a.toNat) 0)+(((bar).getD (k-1) 0)*da))).flatMap qc⟩,⟨zb,28,(g).flatMap qc⟩,⟨b1,40,[nV n_,qS A ((l).length) c,qS O ((os).length) d]⟩] [];refine tS (lL hs [.v 141 (pB zc),.o 142 (iV ((l.getD (k-1) ac).op)) 2 0 1] (ag 143 hs (ko (l.getD (k-1) ac).op _ _ hs.g) (fun _ zI hs=>?_)));cases zk:(decide ((1:Int)<(cC (l.getD (k-1) ac).op:Int)))
        ·
         have zv:=oF zk;refine lB 144 zk (aj (cK (kQ (lL hs [.m 76 13] (lI 77 (((k:Nat)-1)-1) ?_)))));refine lE (ik:=.i64) 13 (show (k:Int)-1-1=((k-1:Nat):Int)-1 by omega) (lD ?_);intro a_ ka;replace hs:=hs.drop 3 0;refine ⟨_,_,?_,⟨k-1,g,(bar).set ((l.getD (k-1) ac).a.toNat) (((bar).getD ((l.getD (k-1) ac).a.toNat) 0)+(((bar).getD (k-1) 0)*da)),zI,rfl,rfl,hs.to _ _,oM,hgl,zn,(hB1.one oM hopr oM oM oM oM (by rw[hda,hvl])),(hZ1.one ((hWt _ oM).2.1 oM) (hopr.1 oM) hsa)⟩,ka.to _ kR⟩
         omega
        have zv:=oT zk;refine lB 144 zk (ao (cR 15 [] mixed hs aq ?_));have hT2:=hZ1.two (a:=(l.getD (k-1) ac).a.toNat) (b:=(l.getD (k-1) ac).b.toNat) hwk (fun j hj=>hw1 j oM) ((hWt _ oM).2.2 oM) (hopr.1 oM) (hopr.2.1 oM) oM hsa hsb rfl;refine eV 0 145 (qS (sB za) ((l).length) ((l).length)) (eV 1 146 (qP zc 2) (eO 2 147 [(2,2,1)] (iV ((l.getD (k-1) ac).b)) hs (eV 3 148 (qS (sB za) ((l).length) ((l).length)) (eV 4 149 (qP zc 2) (eO 5 150 [(2,2,1)] (iV ((l.getD (k-1) ac).b)) hs (eX 6 151 (sB za) ((l).length) ((l).length) 5 ((l.getD (k-1) ac).b) ((l.getD (k-1) ac).b.toNat) rfl (eQ 7 152 3 ((bar).set ((l.getD (k-1) ac).a.toNat) (((bar).getD ((l.getD (k-1) ac).a.toNat) 0)+(((bar).getD (k-1) 0)*da))) qc 5 0 ((l.getD (k-1) ac).b.toNat) (qv (((bar).set ((l.getD (k-1) ac).a.toNat) (((bar).getD ((l.getD (k-1) ac).a.toNat) 0)+(((bar).getD (k-1) 0)*da))).getD ((l.getD (k-1) ac).b.toNat) 0)) hs oM (eV 8 153 (qS (sB za) ((l).length) ((l).length)) (eV 9 154 (iV ((k:Nat)-1)) (eX 10 155 (sB za) ((l).length) ((l).length) 5 ((k:Nat)-1) (k-1) rfl (eQ 11 156 3 ((bar).set ((l.getD (k-1) ac).a.toNat) (((bar).getD ((l.getD (k-1) ac).a.toNat) 0)+(((bar).getD (k-1) 0)*da))) qc 5 0 (k-1) (qv (((bar).set ((l.getD (k-1) ac).a.toNat) (((bar).getD ((l.getD (k-1) ac).a.toNat) 0)+(((bar).getD (k-1) 0)*da))).getD (k-1) 0)) hs oM (eO 12 157 [(1,0,5)] (qv db) hs ?_))))))))))));have hq80:=LQ.mul hT2.1 hsb;refine ak 13 158 hs (fun _ _ hs=>iO (((bar).set ((l.getD (k-1) ac).a.toNat) (((bar).getD ((l.getD (k-1) ac).a.toNat) 0)+(((bar).getD (k-1) 0)*da))).getD (k-1) 0) db (LQ.mono hT2.1 oM) (LQ.mono hsb oM) _ _ hs.g hs.f.2.1) (fun _ _ hs=>?_);have hq83:=LQ.add hT2.2.1 hT2.2.2.1;refine ak 14 159 hs (fun _ _ hs=>jI (((bar).set ((l.getD (k-1) ac).a.toNat) (((bar).getD ((l.getD (k-1) ac).a.toNat) 0)+(((bar).getD (k-1) 0)*da))).getD ((l.getD (k-1) ac).b.toNat) 0) ((((bar).set ((l.getD (k-1) ac).a.toNat) (((bar).getD ((l.getD (k-1) ac).a.toNat) 0)+(((bar).getD (k-1) 0)*da))).getD (k-1) 0)*db) (LQ.mono hT2.2.1 oM) (LQ.mono hT2.2.2.1 oM) _ _ hs.g hs.f.2.1) (fun _ _ hs=>bM hs (fun _ zJ hs=>tX 15 160 (sB za) ((l).length) ((l).length) 5 ((l.getD (k-1) ac).b) ((l.getD (k-1) ac).b.toNat) rfl (tW 16 3 ((bar).set ((l.getD (k-1) ac).a.toNat) (((bar).getD ((l.getD (k-1) ac).a.toNat) 0)+(((bar).getD (k-1) 0)*da))) qc 5 ((l.getD (k-1) ac).b.toNat) ((((bar).set ((l.getD (k-1) ac).a.toNat) (((bar).getD ((l.getD (k-1) ac).a.toNat) 0)+(((bar).getD (k-1) 0)*da))).getD ((l.getD (k-1) ac).b.toNat) 0)+((((bar).set ((l.getD (k-1) ac).a.toNat) (((bar).getD ((l.getD (k-1) ac).a.toNat) 0)+(((bar).getD (k-1) 0)*da))).getD (k-1) 0)*db)) hs oM (fun _ hs=>?_))));have zB:(((bar).set ((l.getD (k-1) ac).a.toNat) (((bar).getD ((l.getD (k-1) ac).a.toNat) 0)+(((bar).getD (k-1) 0)*da))).set ((l.getD (k-1) ac).b.toNat) ((((bar).set ((l.getD (k-1) ac).a.toNat) (((bar).getD ((l.getD (k-1) ac).a.toNat) 0)+(((bar).getD (k-1) 0)*da))).getD ((l.getD (k-1) ac).b.toNat) 0)+((((bar).set ((l.getD (k-1) ac).a.toNat) (((bar).getD ((l.getD (k-1) ac).a.toNat) 0)+(((bar).getD (k-1) 0)*da))).getD (k-1) 0)*db))).length=((l).length):=by rw[List.length_set];exact zn
        replace hs:=hs.to [⟨zl,28,qc da⟩,⟨zm,28,qc db⟩,⟨zc,135,sC (l.getD (k-1) ac)⟩,⟨za,28,(((bar).set ((l.getD (k-1) ac).a.toNat) (((bar).getD ((l.getD (k-1) ac).a.toNat) 0)+(((bar).getD (k-1) 0)*da))).set ((l.getD (k-1) ac).b.toNat) ((((bar).set ((l.getD (k-1) ac).a.toNat) (((bar).getD ((l.getD (k-1) ac).a.toNat) 0)+(((bar).getD (k-1) 0)*da))).getD ((l.getD (k-1) ac).b.toNat) 0)+((((bar).set ((l.getD (k-1) ac).a.toNat) (((bar).getD ((l.getD (k-1) ac).a.toNat) 0)+(((bar).getD (k-1) 0)*da))).getD (k-1) 0)*db))).flatMap qc⟩,⟨zb,28,(g).flatMap qc⟩,⟨b1,40,[nV n_,qS A ((l).length) c,qS O ((os).length) d]⟩] [];refine tN (bx [(3,pB b1),(6,sZ),(7,qS (sB zb) n_ n_),(8,iV (bN true l at_ l.length)),(9,qS Av ((bR true l at_).length) cv),(10,qS (sB za) ((l).length) ((l).length)),(13,iV ((k:Nat)-1))] ?_);refine kQ (lL hs [.m 76 13] (lI 77 (((k:Nat)-1)-1) ?_));refine lE (ik:=.i64) 13 (show (k:Int)-1-1=((k-1:Nat):Int)-1 by omega) (lD ?_);intro a_ ka;replace hs:=hs.drop 3 0;refine ⟨_,_,?_,⟨k-1,g,((bar).set ((l.getD (k-1) ac).a.toNat) (((bar).getD ((l.getD (k-1) ac).a.toNat) 0)+(((bar).getD (k-1) 0)*da))).set ((l.getD (k-1) ac).b.toNat) ((((bar).set ((l.getD (k-1) ac).a.toNat) (((bar).getD ((l.getD (k-1) ac).a.toNat) 0)+(((bar).getD (k-1) 0)*da))).getD ((l.getD (k-1) ac).b.toNat) 0)+((((bar).set ((l.getD (k-1) ac).a.toNat) (((bar).getD ((l.getD (k-1) ac).a.toNat) 0)+(((bar).getD (k-1) 0)*da))).getD (k-1) 0)*db)),zJ,rfl,rfl,hs.to _ _,oM,hgl,zB,(hB1.two oM hopr oM oM oM (by rw[hda,hvl]) (by rw[hdb,hvl]) rfl),hT2.2.2.2⟩,ka.to _ kR⟩
        omega
       have zt:=eq_of_beq zi;refine lB 91 zi (ao (cQ (cR 13 [] mixed hs aq ?_)));obtain ⟨hx5,hx6⟩:=fk.nm oM;refine eV 0 92 (qS (sB zb) n_ n_) (eV 1 93 (qP zc 3) (eO 2 94 [(0,3,1)] (iV ((l.getD (k-1) ac).n)) hs (eV 3 95 (qS (sB zb) n_ n_) (eV 4 96 (qP zc 3) (eO 5 97 [(0,3,1)] (iV ((l.getD (k-1) ac).n)) hs (eX 6 98 (sB zb) n_ n_ 5 ((l.getD (k-1) ac).n) ((l.getD (k-1) ac).n.toNat) rfl (eQ 7 99 2 g qc 5 0 ((l.getD (k-1) ac).n.toNat) (qv ((g).getD ((l.getD (k-1) ac).n.toNat) 0)) hs oM (eV 8 100 (qS (sB za) ((l).length) ((l).length)) (eV 9 101 (iV ((k:Nat)-1)) (eX 10 102 (sB za) ((l).length) ((l).length) 5 ((k:Nat)-1) (k-1) rfl (eQ 11 103 1 bar qc 5 0 (k-1) (qv ((bar).getD (k-1) 0)) hs oM ?_)))))))))));have hq95:=LQ.add (hZ.lg ((l.getD (k-1) ac).n.toNat)) (hZ.lb hw1k (k-1) oM);refine ak 12 104 hs (fun _ _ hs=>jI ((g).getD ((l.getD (k-1) ac).n.toNat) 0) ((bar).getD (k-1) 0) (LQ.mono (hZ.lg ((l.getD (k-1) ac).n.toNat)) oM) (LQ.mono (hZ.lb hw1k (k-1) oM) oM) _ _ hs.g hs.f.2.1) (fun _ _ hs=>bM hs (fun _ zK hs=>tX 13 105 (sB zb) n_ n_ 5 ((l.getD (k-1) ac).n) ((l.getD (k-1) ac).n.toNat) rfl (tW 14 2 g qc 5 ((l.getD (k-1) ac).n.toNat) (((g).getD ((l.getD (k-1) ac).n.toNat) 0)+((bar).getD (k-1) 0)) hs oM (fun _ hs=>?_))));have zw:((g).set ((l.getD (k-1) ac).n.toNat) (((g).getD ((l.getD (k-1) ac).n.toNat) 0)+((bar).getD (k-1) 0))).length=n_:=by rw[List.length_set];exact hgl
       replace hs:=hs.to [⟨zc,135,sC (l.getD (k-1) ac)⟩,⟨za,28,(bar).flatMap qc⟩,⟨zb,28,((g).set ((l.getD (k-1) ac).n.toNat) (((g).getD ((l.getD (k-1) ac).n.toNat) 0)+((bar).getD (k-1) 0))).flatMap qc⟩,⟨b1,40,[nV n_,qS A ((l).length) c,qS O ((os).length) d]⟩] [];refine tN (CG.exit ?_)
       show CG _ _ _ _ _ _ _ _
       refine kQ (lL hs [.m 76 13] (lI 77 (((k:Nat)-1)-1) ?_));refine lE (ik:=.i64) 13 (show (k:Int)-1-1=((k-1:Nat):Int)-1 by omega) (lD ?_);intro a_ ka;replace hs:=hs.drop 1 0;refine ⟨_,_,?_,⟨k-1,(g).set ((l.getD (k-1) ac).n.toNat) (((g).getD ((l.getD (k-1) ac).n.toNat) 0)+((bar).getD (k-1) 0)),bar,zK,rfl,rfl,hs.to _ _,oM,zw,hbl,(hB1.name oM hopr oM oM oM),(hZ1.name hwk _)⟩,ka.to _ kR⟩
       omega
      have zs:=eq_of_beq zg;refine lB 88 zg (ao (CG.exit ?_))
      show CG _ _ _ _ _ _ _ _
      refine kQ (lL hs [.m 76 13] (lI 77 (((k:Nat)-1)-1) ?_));refine lE (ik:=.i64) 13 (show (k:Int)-1-1=((k-1:Nat):Int)-1 by omega) (lD ?_);intro a_ ka;replace hs:=hs.drop 1 0;refine ⟨_,_,?_,⟨k-1,g,bar,zG,rfl,rfl,hs.to _ _,oM,hgl,hbl,(by first|exact hB1.skip (FX oM)|exact hB1.num oM hopr oM oM),hZ1.skip⟩,ka.to _ kR⟩
      omega
     have zp:=oT ze;refine lB 53 ze (af (bS (cK (cQ (kZ (aa hs [.m 54 52] (lX 55 O ((os).length) d 1 (i:Nat) i ((hs.f.q.1).ok oM) ?_)))))));refine lH 56 (iV (os.getD i 0)) hs ((hs.f.q.1).el i oM) (lL hs [.m 11 54,.m 12 56] (lN (cR 11 [] mixed hs aq ?_)));refine eV 0 57 (qS (sB za) ((l).length) ((l).length)) (eV 1 58 (iV (os.getD i 0)) (eV 2 59 (qS (sB za) ((l).length) ((l).length)) (eV 3 60 (iV (os.getD i 0)) (eX 4 61 (sB za) ((l).length) ((l).length) 5 (os.getD i 0) ((os.getD i 0).toNat) rfl (eQ 5 62 0 bar qc 5 0 ((os.getD i 0).toNat) (qv ((bar).getD ((os.getD i 0).toNat) 0)) hs oM (eV 6 63 (qS Y by_.length cY) (eV 7 64 (nV i) (eX 8 65 Y by_.length cY 5 (i:Nat) i ((hs.f.r.1).ok oM) (eH 9 66 (qv (by_.getD i 0)) hs ((hs.f.r.1).el i oM) ?_)))))))));have hq112:=LQ.add (hBs.lb hw1 hiC ((os.getD i 0).toNat) oM) (hby i);refine ak 10 67 hs (fun _ _ hs=>jI ((bar).getD ((os.getD i 0).toNat) 0) (by_.getD i 0) (LQ.mono (hBs.lb hw1 hiC ((os.getD i 0).toNat) oM) oM) (LQ.mono (hby i) oM) _ _ hs.g hs.f.2.1) (fun _ _ hs=>bM hs (fun _ zD hs=>tX 11 68 (sB za) ((l).length) ((l).length) 5 (os.getD i 0) ((os.getD i 0).toNat) rfl (tW 12 0 bar qc 5 ((os.getD i 0).toNat) (((bar).getD ((os.getD i 0).toNat) 0)+(by_.getD i 0)) hs oM (fun _ hs=>?_))));have zx:((bar).set ((os.getD i 0).toNat) (((bar).getD ((os.getD i 0).toNat) 0)+(by_.getD i 0))).length=((l).length):=by rw[List.length_set];exact hbl
     replace hs:=hs.to [⟨za,28,((bar).set ((os.getD i 0).toNat) (((bar).getD ((os.getD i 0).toNat) 0)+(by_.getD i 0))).flatMap qc⟩,⟨zb,28,(List.replicate n_ 0).flatMap qc⟩,⟨b1,40,[nV n_,qS A ((l).length) c,qS O ((os).length) d]⟩] [];refine tN (kQ (bB 69 ((i:Nat)+1) (i+1) ?_));refine lL hs [.m 52 69] (lD ?_);intro a_ ka;refine ⟨_,_,?_,⟨i+1,(bar).set ((os.getD i 0).toNat) (((bar).getD ((os.getD i 0).toNat) 0)+(by_.getD i 0)),zD,rfl,rfl,hs.to _ _,oM,zx,(hBo.step oM oM hbl),(hBs.step oM (hW _ oM) (hby _))⟩,ka.to _ kR⟩
     omega
    have zo:=aJ zd;exact lB 40 zd (ao (aa hs [.m 41 8,.v 6 (sZ),.v 7 (sZ),.m 8 41] (ae hs [] (.tuple #[sZ,sZ,iV (bN true l at_ l.length)]) (by obtain ⟨e1,e2,e3⟩:=D2 (inp:=(n_:Int)) (l:=l) (os:=os) (at_:=at_) (by_:=by_) hck oM oM oM;rw[e1,e2,e3];exact ⟨none,0,none,0,rfl,nR _,nR _,SlO.nil,SlO.nil,fun h_=>absurd h_ oM,fun h_=>absurd h_ oM⟩))))
   have phb8:=aJ hb8;exact lB 31 hb8 (lL hs [.v 32 qT] (ao (aa hs [.v 6 (sZ),.v 7 (sZ),.v 8 (iV 5)] (ae hs [] (.tuple #[sZ,sZ,iV 5]) (by obtain ⟨e1,e2,e3⟩:=sT (inp:=(n_:Int)) (l:=l) (os:=os) (at_:=at_) (by_:=by_) oM oM;rw[e1,e2,e3];exact ⟨none,0,none,0,rfl,nR _,nR _,SlO.nil,SlO.nil,fun h_=>absurd h_ oM,fun h_=>absurd h_ oM⟩)))))
  have phb7:=aJ hb7;refine lB 24 hb7 (lL hs [.m 25 24] (lG 26 ?_));exact lG 27 (lG 28 (lG 29 (lG 30 (lG 31 (lL hs [.v 32 qT] (ao (aa hs [.v 6 (sZ),.v 7 (sZ),.v 8 (iV 5)] (ae hs [] (.tuple #[sZ,sZ,iV 5]) (by obtain ⟨e1,e2,e3⟩:=sT (inp:=(n_:Int)) (l:=l) (os:=os) (at_:=at_) (by_:=by_) oM oM;rw[e1,e2,e3];exact ⟨none,0,none,0,rfl,nR _,nR _,SlO.nil,SlO.nil,fun h_=>absurd h_ oM,fun h_=>absurd h_ oM⟩)))))))))
 have phb6:=aJ hb6;exact lB 19 hb6 (ao (aa hs [.v 6 (sZ),.v 7 (sZ),.v 8 (iV 1)] (ae hs [] (.tuple #[sZ,sZ,iV 1]) (by obtain ⟨e1,e2,e3⟩:=ti (inp:=(n_:Int)) (l:=l) (os:=os) (at_:=at_) (by_:=by_) oM;rw[e1,e2,e3];exact ⟨none,0,none,0,rfl,nR _,nR _,SlO.nil,SlO.nil,fun h_=>absurd h_ oM,fun h_=>absurd h_ oM⟩))))
theorem EB (inp:Int)(A:Option Addr)(c:Nat)(l:List Stp)(O:Option Addr)(d:Nat)(os:List Int)(at_:List Rat)(X:Option Addr)(cX:Nat)(by_:List Rat)(Y:Option Addr)(cY:Nat)(hl:l.length≤65536)(ho:os.length≤300)(hq:∀ i,LQ 1 (l.getD i ac).q)(hneg:inp<0)(w:World)(h:Hp)(g:G w h)(hA:SlO 9 fu ac h A l)(hO:Si O os h)(hX:Sq X at_ h)(hY:Sq Y by_ h)(tb:Tab h):CR 37 #[.agg #[iV inp,.slice A ((l).length) c,.slice O ((os).length) d],.slice X at_.length cX,.slice Y by_.length cY] w h (fun v h1=>∃ A c B d,v=.tuple #[.slice A (fl inp l os at_ by_).length c,.slice B (cf inp l os at_ by_).length d,iV (bE inp l os at_ by_)]∧(fl inp l os at_ by_).length≤c∧(cf inp l os at_ by_).length≤d∧Sq A (fl inp l os at_ by_) h1∧Sq B (cf inp l os at_ by_) h1∧(bE inp l os at_ by_=0→∀ way,c4 (cf inp l os at_ by_) way (inp).toNat=wA l os at_ by_ way)∧(bE inp l os at_ by_=0→h.size≤aB B)):=by
 have hs:=((((((sS g).aS hA).aS hO).aS hX).aS hY).aB tb);have hck:be inp l os≠0:=by rw[eA oM];decide
 refine go Tryz.func37 [(0,.agg #[iV inp,qS A ((l).length) c,qS O ((os).length) d]),(1,qS X at_.length cX),(2,qS Y by_.length cY)] rfl (aE (lA 3 40 ([iV inp,qS A ((l).length) c,qS O ((os).length) d]) hs (fun b1 w2 h3 hs=>lL hs [.v 6 (sZ),.v 7 (sZ),.v 8 (iV 0)] (af (aa hs [.o 17 (.agg #[iV inp,qS A ((l).length) c,qS O ((os).length) d]) 0 0 3] (ag 18 hs (iB inp A c l O d os oM oM (fun i _=>hq i) _ _ hs.g hs.f.q.1 hs.f.r.2.1) (fun w4 h5 hs=>?_)))))));have hb6:((be inp l os:Int) != (0:Int))=true:=Cr oM;have phb6:=aJ hb6;exact lB 19 hb6 (ao (aa hs [.v 6 (sZ),.v 7 (sZ),.v 8 (iV 1)] (ae hs [] (.tuple #[sZ,sZ,iV 1]) (by obtain ⟨e1,e2,e3⟩:=ti (inp:=inp) (l:=l) (os:=os) (at_:=at_) (by_:=by_) hck;rw[e1,e2,e3];exact ⟨none,0,none,0,rfl,nR _,nR _,SlO.nil,SlO.nil,fun h_=>absurd h_ kD,fun h_=>absurd h_ kD⟩))))
theorem ET (inp:Int)(A:Option Addr)(c:Nat)(l:List Stp)(O:Option Addr)(d:Nat)(os:List Int)(at_:List Rat)(X:Option Addr)(cX:Nat)(by_:List Rat)(Y:Option Addr)(cY:Nat)(wt sg:Nat→Nat)(W_:Nat)(hl:l.length≤65536)(ho:os.length≤300)(hat2:at_.length≤1000000)(hbt2:by_.length≤1000000)(hq:∀ i,LQ 1 (l.getD i ac).q)(hby:∀ i,LQ 1 (by_.getD i 0))(hB:be inp l os=0→(at_.length:Int)=inp→∀ k,k≤l.length→bN true l at_ k=0→∀ j,LQ 1000000 ((aU l at_ k).getD j 0))(hwt:be inp l os=0→Wt l wt)(hW:∀ j,j<l.length→wt j≤W_)(hSg:be inp l os=0→(at_.length:Int)=inp→bN true l at_ l.length=0→∀ k,k<l.length→(l.getD k ac).op≠2→LQ (sg k) (nj (l.getD k ac).op (l.getD k ac).n ((aU l at_ l.length).getD (l.getD k ac).a.toNat 0) ((aU l at_ l.length).getD (l.getD k ac).b.toNat 0))∧LQ (sg k) (nu (l.getD k ac).op ((aU l at_ l.length).getD (l.getD k ac).a.toNat 0) ((aU l at_ l.length).getD (l.getD k ac).b.toNat 0)))(hC:be inp l os=0→1+iP wt (fun _=>1) l.length+os.length*(2*W_)+kT wt sg l.length≤100000000)(w:World)(h:Hp)(g:G w h)(hA:SlO 9 fu ac h A l)(hO:Si O os h)(hX:Sq X at_ h)(hY:Sq Y by_ h)(tb:Tab h):CR 37 #[.agg #[iV inp,.slice A l.length c,.slice O os.length d],.slice X at_.length cX,.slice Y by_.length cY] w h (fun v h1=>∃ A c B d,v=.tuple #[.slice A (fl inp l os at_ by_).length c,.slice B (cf inp l os at_ by_).length d,iV (bE inp l os at_ by_)]∧(fl inp l os at_ by_).length≤c∧(cf inp l os at_ by_).length≤d∧Sq A (fl inp l os at_ by_) h1∧Sq B (cf inp l os at_ by_) h1∧(bE inp l os at_ by_=0→∀ way,c4 (cf inp l os at_ by_) way (inp).toNat=wA l os at_ by_ way)∧(bE inp l os at_ by_=0→h.size≤aB B)):=by
 by_cases hs:0≤inp
 ·obtain ⟨n,rfl⟩:=Int.eq_ofNat_of_zero_le hs
  exact DU n A c l O d os at_ X cX by_ Y cY wt sg W_ hl ho hat2 hbt2 hq hby hB hwt hW hSg hC w h g hA hO hX hY tb
 ·exact EB inp A c l O d os at_ X cX by_ Y cY hl ho hq oM w h g hA hO hX hY tb
section
variable (c0 c1 x0 x1:Rat)
end
theorem Seg.front {h:Hp}{b o:Nat}{cs ds:List Value}(s:Seg h b o (cs++ds)):Seg h b o cs:=fun i v hv=>by
 have hi:i<cs.length:=by
  rcases Nat.lt_or_ge i cs.length with hl|hl
  ·exact hl
  ·rw[List.getElem?_eq_none hl] at hv;cases hv
 exact s i v (by rw[List.getElem?_append_left hi];exact hv)
theorem SlO.of_flatS {α:Type}{sz:Nat}{f:α→List Value}{d:α}{h:Hp}{b o:Nat}{l:List α}{sp:List Value}(hf:∀ x,(f x).length=sz)(s:Seg h b o (l.flatMap f++sp)):SlO sz f d h (some ⟨b,o,none⟩) l:=SlO.of_flat hf s.front
theorem SlO.newer {α:Type}{sz:Nat}{f:α→List Value}{d:α}{h1 h2:Hp}{A:Option Addr}{l:List α}{K:Nat}(s:SlO sz f d h1 A l)(hA:K≤aB A)(e:∀ c,K≤c→h2[c]?=h1[c]?):SlO sz f d h2 A l :=
 ⟨s.ok,fun k hk i v hv=>by
  have h:=s.el k hk i v hv
  unfold ew at h ⊢
  rw[e _ hA];exact h⟩
section lent
variable {P:Program} {n:Nat} {N R:Po} {X:Nat→Po} {ops:Array Oper} {k:Nat} {Γ:bW} {w:World} {h:Hp} {w0:World} {h0:Hp} {B:List Bx} {Rs:List Rw} {F:List (Hp→Prop)}
theorem SS.lendsI (s:SS w0 h0 w h B Rs F){j:Nat}(hj:j<B.length){f:FuncId}{args:Array Value}{Φ:Hp→Value→Hp→Prop}{Ψ:Value→Hp→Prop}(c:∀ hp,G w hp→AllF F hp→Seg hp (av B j).b 0 (av B j).vs→Calls P f args w (Ret w hp (Φ hp)))
  (tr:∀ hp v h1 h2,Φ hp v h1→h0.size≤hp.size→(∀ c,hp.size≤c→h2[c]?=h1[c]?)→Ψ v h2):Calls P f args w (Ret w h Ψ):=by
 have hm:=a8 hj;have hjk:=s.st.jk _ hm;obtain ⟨hp,g,gw,sg,ho⟩:=tF s.g hjk (s.st.own _ hm);have hsz:=s.g.sz g;refine (c hp g (s.f.gw s.mo gw) sg).mono ?_;rintro e w' ⟨v,h',he,u,hΦ⟩;have hlt:=aN hjk;have hlt':(av B j).b<h'.size:=Nat.lt_of_lt_of_le oM u.gr.size;refine ⟨v,h'.setIfInBounds (av B j).b bc,he,⟨u.ext,⟨by simp;rw[←hsz];exact u.gr.size,fun c hc=>?_⟩,⟨by simp;exact u.g.size,fun c=>?_⟩⟩,tr hp v h' _ hΦ (by rw[hsz];exact s.st.up.gr.size) (fun c hc=>Array.getElem?_setIfInBounds_ne oM)⟩
 ·by_cases e:(av B j).b=c
  ·subst e;rw[Array.getElem?_setIfInBounds_self_of_lt hlt',hjk]
  ·rw[Array.getElem?_setIfInBounds_ne e,u.gr.blk c oM,ho c (Ne.symm e)]
 ·by_cases e:(av B j).b=c
  ·subst e;right;rw[Array.getElem?_setIfInBounds_self_of_lt hlt']
  ·rw[Array.getElem?_setIfInBounds_ne e];exact u.g.blk c
theorem Hu (t j:Nat){f:FuncId}{args:Array Value}{Φ:Hp→Value→Hp→Prop}{Ψ:Value→Hp→Prop}(s:SS w0 h0 w h B Rs F)(c:∀ hp,G w hp→AllF F hp→Seg hp (av B j).b 0 (av B j).vs→Calls P f args w (Ret w hp (Φ hp)))
  (tr:∀ hp v h1 h2,Φ hp v h1→h0.size≤hp.size→(∀ c,hp.size≤c→h2[c]?=h1[c]?)→Ψ v h2)
  (H:∀ v w' h',SS w0 h0 w' h' B Rs F→Ψ v h'→LG P n N R X ops (k+1) ((t,v)::Γ) w')(hj:decide (j<B.length)=true:=by kernel_rfl)(hc:cL ops Γ k t n=true:=by kernel_rfl)(hr:(execOp (ev Γ) (au ops k)).run P w=.ok (.enter f args) w:=by kernel_rfl):LG P n N R X ops k Γ w :=
 lC t s (s.lendsI (oT hj) c tr) H hc hr
end lent
section ro
variable {w0:World} {h0:Hp} {w:World} {h:Hp} {B:List Bx} {R:List Rw} {F:List (Hp→Prop)}
end ro
structure Whole (lo:Nat) (h:Hp) (b:Nat) (ty:TypeId) (vs:List Value):Prop where
  lo:lo≤b
  ty0:(ty == 0)=false
  at_:h[b]?=some (.cells vs.toArray ty (0,0))
section ss
variable {w0:World} {h0:Hp} {w:World} {h:Hp} {B:List Bx} {R:List Rw} {F:List (Hp→Prop)}
end ss
structure Poked (h h':Hp) (b:Nat):Prop where
  oth:∀ c,c≠b→c<h.size→h'[c]?=h[c]?
section ss
variable {w0:World} {h0:Hp} {w:World} {h:Hp} {B:List Bx} {R:List Rw} {F:List (Hp→Prop)}
end ss
section laws
variable {M:Ms} {P:Program} {n:Nat} {N R:Po} {X:Nat→Po} {ops:Array Oper} {k k0:Nat} {hr:Hp} {AL:List Al} {L:Array Bool} {Γ:bW} {w:World} {h:Hp} {w0:World} {h0:Hp} {B:List Bx} {Rs:List Rw} {F:List (Hp→Prop)}
theorem sY {α:Type}{f:α→List Value}{sz:Nat}(hf:∀ x,(f x).length=sz)(l:List α)(sp:List Value)(e:Nat)(x:α)(he:e<l.length):eP (l.flatMap f++sp) (0+e*sz) (f x)=(l.set e x).flatMap f++sp:=by
 obtain ⟨a,y,b,rfl,hle⟩:∃ a y b,l=a++y::b∧a.length=e:=⟨l.take e,l[e],l.drop (e+1),by rw[List.getElem_cons_drop,List.take_append_drop],by rw[List.length_take];omega⟩;subst hle;have h1:(a++y::b).flatMap f++sp=a.flatMap f++(f y++(b.flatMap f++sp)):=by simp
 have h2:((a++y::b).set a.length x).flatMap f++sp=a.flatMap f++(f x++(b.flatMap f++sp)):=by simp
 rw[h1,h2,Nat.zero_add];have h3:=fy (f x) (a.flatMap f) (f y++(b.flatMap f++sp)) 0;rw[cj hf,Nat.add_zero] at h3
 rw[h3,gX _ _ _ (by rw[hf,hf])]
theorem H4 {α:Type}(i j:Nat)(l:List α)(f:α→List Value)(sz e:Nat)(x:α)(sp:List Value)(s:SS w0 h0 w h B Rs F)(hk:e<l.length)(H:∀ w',SS w0 h0 w' h (fO B j ((l.set e x).flatMap f++sp)) Rs F→AG M P n N R X ops k0 (L.setIfInBounds i true) Γ w')(hc:CB ops k0 L Γ i=true:=by kernel_rfl)
  (hj:decide (j<B.length)=true:=by kernel_rfl)(hB:(av B j).vs=l.flatMap f++sp:=by kernel_rfl)(hf:∀ x,(f x).length=sz:=by intro _;rfl)
  (he:dW P (execOp (ev Γ) (au ops i))=some (.skip,mB (av B j).b (0+e*sz) (f x)):=by kernel_rfl)(hz:∀ K bs,M.z=some (K,bs)→K≤(av B j).b∨(av B j).b∈bs:=by intro _ _ e;cases e):AG M P n N R X ops k0 L Γ w:=by
 refine tP i j (0+e*sz) (f x) s (fun w' s'=>H w' ?_) hc ?_ he hz
 ·have e1:fP B j (0+e*sz) (f x)=fO B j ((l.set e x).flatMap f++sp):=by
   unfold fP fO
   rw[hB,sY hf l sp e x hk]
  rw[←e1];exact s'
 ·rw[hj,hB,Bool.true_and]
  refine decide_eq_true ?_;rw[hf,List.length_append,cj hf];have:=Nat.mul_le_mul_right sz (show e+1≤l.length from hk);rw[Nat.add_mul] at this
  omega
theorem Il {α:Type}(i t j:Nat)(l:List α)(f:α→List Value)(sz:Nat)(d:α)(e:Nat)(v:Value)(sp:List Value)(s:SS w0 h0 w h B Rs F)(hk:e<l.length)(H:EG M P n N R X ops k0 hr AL (L.setIfInBounds i true) ((t,v)::Γ) w h)(hM:(av B j).b ∉ M.l:=by exact List.not_mem_nil)(hc:wx n ops k0 AL L Γ i t=true:=by kernel_rfl)
  (hj:decide (j<B.length)=true:=by kernel_rfl)(hB:(av B j).vs=l.flatMap f++sp:=by kernel_rfl)(hf:∀ x,(f x).length=sz:=by intro _;rfl)
  (he:bO P (execOp (ev Γ) (au ops i)) (f (l.getD e d))=some (.value v,jL (av B j).b (0+e*sz) (f (l.getD e d)).length):=by kernel_rfl):EG M P n N R X ops k0 hr AL L Γ w h :=
 Rg.load i t v (gF hc).1 (gF hc).2 (fun w' hx=>bQ _ _ _ _ he (fun q a u ha hu=>by
  rw[dz _ _ _ _ _ ha,((s.st.own _ (a8 (oT hj))).mo hx hM).cell,hB];rw[←d7 hf d l e hk] at hu
  have hq:q<sz:=by
   rcases Nat.lt_or_ge q sz with hl|hl
   ·exact hl
   ·rw[List.getElem?_eq_none (by simp;omega)] at hu;cases hu
  rw[List.getElem?_take_of_lt hq,List.getElem?_drop] at hu
  have h2:=Nat.mul_le_mul_right sz (show e+1≤l.length from hk);rw[Nat.add_mul] at h2
  rw[Nat.zero_add,List.getElem?_append_left (by rw[cj hf];omega)];exact hu)) H
theorem Bl (t:Nat)(ty:TypeId)(vs:List Value)(s:SS w0 h0 w h B Rs F)(H:∀ b w' h',Up w h w' h'→h.size≤b→SS w0 h0 w' h' (⟨b,ty,vs⟩::B) Rs F→LG P n N R X ops (k+1) ((t,.pointer (some ⟨b,0,none⟩))::Γ) w')(hc:cL ops Γ k t n=true:=by kernel_rfl)
  (hr:(execOp (ev Γ) (au ops k)).run P w=.ok (.value (.pointer (some ⟨w.heap.size,0,none⟩))) (w.alloc (.cells vs.toArray ty (0,0))):=by kernel_rfl):LG P n N R X ops k Γ w :=
 LG.var t ty vs s.st (bH hc).1 (bH hc).2 hr (fun b w' h' hb u s'=>H b w' h' u hb (s.new u hb s'))
theorem UpM.put2 {M2:List Nat}{wa w':World}{ha:Hp}{b:Nat}(u:UpM M2 wa ha w h)(p:Put b w w')(hb:ha.size≤b)(ga:G wa ha)(g:G w' h):UpM M2 wa ha w' h :=
 ⟨⟨p.os.trans u.mo.os,p.tape.trans u.mo.tape,p.output.trans u.mo.output,by rw[p.size];exact u.mo.size,fun c hc hm=>(p.blk c (fun e=>by subst e;have:=ga.size;omega)).trans (u.mo.blk c hc hm)⟩,u.gr,g⟩
end laws
def eJ (f:Nat→Rat):Nat→Rat
  | 0=>0
  | n+1=>eJ f n+f n
theorem cH {f g:Nat→Rat}:∀ {n:Nat},(∀ i,i<n→f i=g i)→eJ f n=eJ g n
  | 0,_=>rfl
  | n+1,h=>by
    show eJ f n+f n=eJ g n+g n
    rw[cH (fun i hi=>h i oM),h n oM]
theorem ni (f g:Nat→Rat)(c:Rat):∀ n,eJ (fun i=>f i+c*g i) n=eJ f n+c*eJ g n
  | 0=>by show (0:Rat)=0+c*0;grind
  | n+1=>by
    show eJ _ n+(f n+c*g n)=(eJ f n+f n)+c*(eJ g n+g n)
    rw[ni f g c n];grind
theorem j5 {f:Nat→Rat}:∀ {n:Nat},(∀ i,i<n→f i=0)→eJ f n=0
  | 0,_=>rfl
  | n+1,h=>by
    show eJ f n+f n=0
    rw[j5 (fun i hi=>h i oM),h n oM];grind
theorem jO (c:Rat)(f:Nat→Rat):∀ n,eJ (fun i=>c*f i) n=c*eJ f n
  | 0=>by show (0:Rat)=c*0;grind
  | n+1=>by
    show eJ _ n+c*f n=c*(eJ f n+f n)
    rw[jO c f n];grind
theorem rh (f g:Nat→Rat):∀ n,eJ (fun i=>f i+g i) n=eJ f n+eJ g n
  | 0=>by show (0:Rat)=0+0;grind
  | n+1=>by
    show eJ _ n+(f n+g n)=(eJ f n+f n)+(eJ g n+g n)
    rw[rh f g n];grind
theorem kd (f:Nat→Nat→Rat)(m:Nat):∀ n,eJ (fun i=>eJ (fun j=>f i j) m) n=eJ (fun j=>eJ (fun i=>f i j) n) m
  | 0=>by
    show (0:Rat)=eJ (fun _=>0) m
    rw[j5 (f:=fun _=>0) (fun i _=>rfl)]
  | n+1=>by
    show eJ _ n+eJ (fun j=>f n j) m=eJ (fun j=>eJ (fun i=>f i j) n+f n j) m
    rw[kd f m n,rh]
theorem tw {f g:Nat→Rat}:∀ {n:Nat},(∀ i,i<n→f i≤g i)→eJ f n≤eJ g n
  | 0,_=>Rat.le_refl
  | n+1,h=>by
    have h1:=tw (fun i hi=>h i oM:∀ i,i<n→f i≤g i);have h2:=h n oM
    show eJ f n+f n≤eJ g n+g n
    grind
theorem tJ {f:Nat→Rat}:∀ {n:Nat},(∀ i,i<n→0≤f i)→0≤eJ f n
  | 0,_=>Rat.le_refl
  | n+1,h=>by
    have h1:=tJ (fun i hi=>h i oM:∀ i,i<n→0≤f i);have h2:=h n oM
    show 0≤eJ f n+f n
    grind
theorem q7 (n:Nat):eJ (fun _=>1) n=((n:Nat):Rat):=by
 induction n with
 | zero=>rfl
 | succ n ih=>show eJ _ n+1=_;rw[ih];simp
theorem nQ {n j:Nat}(f:Nat→Rat)(hj:j<n):eJ (fun i=>(if i=j then 1 else 0)*f i) n=f j:=by
  induction n with
  | zero=>omega
  | succ n ih =>
    show eJ _ n+(if n=j then 1 else 0)*f n=f j
    by_cases e:n=j
    · subst e
      rw[if_pos rfl,j5 (fun i hi=>by rw[if_neg oM];grind)];grind
    · rw[if_neg e,ih oM];grind
def dt (n:Nat)(u v:Nat→Rat):Rat:=eJ (fun i=>u i*v i) n
theorem dK (n:Nat)(u v:Nat→Rat):dt n u v=dt n v u:=cH (fun i _=>Rat.mul_comm _ _)
theorem gk (n:Nat)(u w v:Nat→Rat)(c:Rat):dt n (fun i=>u i+c*w i) v=dt n u v+c*dt n w v:=by
 unfold dt
 rw[←ni];exact cH (fun i _=>by grind)
theorem GG (n:Nat)(v:Nat→Rat):0≤dt n v v:=tJ (fun i _=>Gf (v i))
theorem gR {n:Nat}{u u' v v':Nat→Rat}(h:∀ i,i<n→u i=u' i)(h2:∀ i,i<n→v i=v' i):dt n u v=dt n u' v':=cH (fun i hi=>by rw[h i hi,h2 i hi])
def fE (v:Nat→Nat→Rat)(n j:Nat):Nat→Nat→Rat
  | 0=>fun i=>if i=j then 1 else 0
  | m+1=>fun i=>fE v n j m i+(-(v m j/dt n (v m) (v m)))*v m i
section
variable {v:Nat→Nat→Rat} {n m:Nat} (ho:∀ i,i<m→∀ k,k<i→dt n (v i) (v k)=0) (hz:∀ i,i<m→dt n (v i) (v i)≠0)
include ho hz
omit hz in
theorem qM {j:Nat}(hj:j<n):∀ k,k≤m→∀ i,k≤i→i<m→dt n (fE v n j k) (v i)=v i j
  | 0,_,i,_,hi=>nQ (v i) hj
  | k+1,hk,i,hki,hi=>by
    show dt n (fun i=>fE v n j k i+(-(v k j/dt n (v k) (v k)))*v k i) (v i)=_
    rw[gk,qM hj k oM i oM hi,dK n (v k) (v i),ho i hi k oM];grind
theorem re {j:Nat}(hj:j<n):∀ k,k≤m→dt n (fE v n j k) (fE v n j k)=1-eJ (fun i=>v i j*v i j/dt n (v i) (v i)) k
  | 0,_=>by
    show eJ (fun i=>(if i=j then 1 else 0)*(if i=j then 1 else 0)) n=1-0
    rw[nQ (fun i=>if i=j then 1 else 0) hj,if_pos rfl];grind
  | k+1,hk=>by
    have h1:=re hj k oM;have h2:=qM ho hj k oM k (Nat.le_refl _) oM;have h3:=hz k oM
    show dt n (fun i=>fE v n j k i+(-(v k j/dt n (v k) (v k)))*v k i) (fun i=>fE v n j k i+(-(v k j/dt n (v k) (v k)))*v k i)=1-(eJ _ k+v k j*v k j/dt n (v k) (v k))
    have e1:dt n (fE v n j k) (fun i=>fE v n j k i+(-(v k j/dt n (v k) (v k)))*v k i)=dt n (fE v n j k) (fE v n j k)+(-(v k j/dt n (v k) (v k)))*v k j:=by rw[dK,gk,dK n (v k) (fE v n j k),h2]
    have e2:dt n (v k) (fun i=>fE v n j k i+(-(v k j/dt n (v k) (v k)))*v k i)=v k j+(-(v k j/dt n (v k) (v k)))*dt n (v k) (v k):=by rw[dK,gk,h2]
    rw[gk,e1,e2,h1]
    grind
theorem xr:m≤n:=by
 have h1:∀ j,j<n→eJ (fun i=>v i j*v i j/dt n (v i) (v i)) m≤1:=fun j hj=>by
  have h2:=re ho hz hj m (Nat.le_refl _);have h3:=GG n (fE v n j m);rw[h2] at h3
  grind
 have h2:=tw (n:=n) (g:=fun _=>1) h1;rw[q7,←kd (fun i j=>v i j*v i j/dt n (v i) (v i)) n m] at h2
 rw[cH (g:=fun _=>1) (fun i hi=>?_),q7] at h2
 ·rw[←Rat.intCast_natCast,←Rat.intCast_natCast] at h2
  have h3:((m:Int):Rat)≤((n:Int):Rat):=h2;have:=Rat.intCast_le_intCast.1 h3
  omega
 ·have h3:=hz i hi
  rw[cH (g:=fun j=>(1/dt n (v i) (v i))*(v i j*v i j)) (fun j _=>by grind),jO]
  show 1/dt n (v i) (v i)*dt n (v i) (v i)=1
  grind
end
def mv (n:Nat)(A:Nat→Nat→Rat)(x:Nat→Rat):Nat→Rat:=fun i=>eJ (fun j=>A i j*x j) n
theorem DL (n:Nat)(A:Nat→Nat→Rat)(u w:Nat→Rat)(c:Rat)(i:Nat):mv n A (fun j=>u j+c*w j) i=mv n A u i+c*mv n A w i:=by
 unfold mv
 rw[←ni];exact cH (fun j _=>by grind)
theorem Eg {n:Nat}{A:Nat→Nat→Rat}(hA:∀ i,i<n→∀ j,j<n→A i j=A j i)(u v:Nat→Rat):dt n u (mv n A v)=dt n v (mv n A u):=by
 unfold dt mv
 rw[cH (g:=fun i=>eJ (fun j=>u i*(A i j*v j)) n) (fun i _=>(jO _ _ _).symm),kd,
  cH (f:=fun i=>v i*eJ (fun j=>A i j*u j) n) (g:=fun i=>eJ (fun j=>v i*(A i j*u j)) n) (fun i _=>(jO _ _ _).symm)]
 exact cH (fun j hj=>cH (fun i hi=>by rw[hA i hi j hj];grind))
structure Cst where
  x:Nat→Rat
  r:Nat→Rat
  w:Nat→Rat
section
variable (n:Nat) (A:Nat→Nat→Rat) (b:Nat→Rat)
def nw (s:Cst):Rat:=dt n s.r s.r/dt n s.w (mv n A s.w)
def F8 (s:Cst):Nat→Rat:=fun i=>s.x i+s.w i*nw n A s
def Cc (x:Nat→Rat):Nat→Rat:=fun i=>b i+mv n A x i*((-1:Int):Rat)
def Ig (s:Cst):Cst:=⟨F8 n A s,Cc n A b (F8 n A s),fun i=>Cc n A b (F8 n A s) i+s.w i*(dt n (Cc n A b (F8 n A s)) (Cc n A b (F8 n A s))/dt n s.r s.r)⟩
def cg (x:Nat→Rat):Nat→Cst
  | 0=>⟨x,Cc n A b x,Cc n A b x⟩
  | t+1=>Ig n A b (cg x t)
end
section
variable {n:Nat} {A:Nat→Nat→Rat} {b x:Nat→Rat}
theorem GI (t:Nat):(cg n A b x t).r=Cc n A b (cg n A b x t).x:=by cases t<;>rfl
theorem o9 (t i:Nat):(cg n A b x (t+1)).r i=(cg n A b x t).r i+(-nw n A (cg n A b x t))*mv n A (cg n A b x t).w i:=by
 rw[GI (t+1),GI t]
 show b i+mv n A (fun j=>(cg n A b x t).x j+(cg n A b x t).w j*nw n A (cg n A b x t)) i*((-1:Int):Rat)=_
 have e:mv n A (fun j=>(cg n A b x t).x j+(cg n A b x t).w j*nw n A (cg n A b x t)) i=mv n A (cg n A b x t).x i+nw n A (cg n A b x t)*mv n A (cg n A b x t).w i:=by
  rw[←DL];unfold mv;exact cH (fun j _=>by grind)
 rw[e]
 unfold Cc
 rw[show ((-1:Int):Rat) = -1 from rfl]
 grind
def Df (n:Nat)(A:Nat→Nat→Rat)(b x:Nat→Rat)(t:Nat):Prop:=dt n (cg n A b x t).r (cg n A b x t).r≠0∧dt n (cg n A b x t).w (mv n A (cg n A b x t).w)≠0
structure Orth (n:Nat) (A:Nat→Nat→Rat) (b x:Nat→Rat) (t:Nat):Prop where
  rr:∀ j,j≤t→∀ i,i<j→dt n (cg n A b x j).r (cg n A b x i).r=0
  ww:∀ j,j≤t→∀ i,i<j→dt n (cg n A b x j).w (mv n A (cg n A b x i).w)=0
  rw_:∀ j,j≤t→∀ i,i<j→dt n (cg n A b x j).r (cg n A b x i).w=0
  own:∀ j,j≤t→dt n (cg n A b x j).r (cg n A b x j).w=dt n (cg n A b x j).r (cg n A b x j).r
theorem DJ (t i:Nat):(cg n A b x (t+1)).w i=(cg n A b x (t+1)).r i+(dt n (cg n A b x (t+1)).r (cg n A b x (t+1)).r/dt n (cg n A b x t).r (cg n A b x t).r)*(cg n A b x t).w i:=by
 show (cg n A b x (t+1)).r i+(cg n A b x t).w i*_=_
 rw[Rat.mul_comm];rfl
theorem nI (hA:∀ i,i<n→∀ j,j<n→A i j=A j i):∀ t,(∀ i,i<t→Df n A b x i)→Orth n A b x t
  | 0,_=>⟨fun j hj i hi=>by omega,fun j hj i hi=>by omega,fun j hj i hi=>by omega,fun j hj=>by
      obtain rfl:j=0:=by omega
      rfl⟩
  | t + 1,hg=>by
    have O:=nI hA t (fun i hi=>hg i oM);obtain ⟨g1,g2⟩:=hg t oM;obtain ⟨r,hr⟩:∃ r,r=(cg n A b x (t+1)).r:=⟨_,rfl⟩;obtain ⟨k,hk⟩:∃ k,k=nw n A (cg n A b x t):=⟨_,rfl⟩;have hkf:k*dt n (cg n A b x t).w (mv n A (cg n A b x t).w)=dt n (cg n A b x t).r (cg n A b x t).r:=by rw[hk];unfold nw;grind
    have e1:∀ v,dt n r v=dt n (cg n A b x t).r v+(-k)*dt n (mv n A (cg n A b x t).w) v:=fun v=>by
      rw[←gk,hr,hk];exact gR (fun i _=>o9 t i) (fun _ _=>rfl)
    have h3:∀ i,i≤t→dt n r (cg n A b x i).w=0:=fun i hi=>by
      rw[e1,dK n (mv n A _),Eg hA]
      by_cases e:i=t
      · subst e
        rw[O.own i (Nat.le_refl _)];grind
      · rw[O.rw_ t (Nat.le_refl _) i oM,O.ww t (Nat.le_refl _) i oM];grind
    have h1:∀ i,i≤t→dt n r (cg n A b x i).r=0:=fun i hi=>by
      cases i with
      | zero=>exact h3 0 hi
      | succ i =>
        have e2:dt n r (cg n A b x (i+1)).r=dt n r (cg n A b x (i+1)).w+(-(dt n (cg n A b x (i+1)).r (cg n A b x (i+1)).r/dt n (cg n A b x i).r (cg n A b x i).r))*dt n r (cg n A b x i).w:=by
          rw[dK n r,dK n r (cg n A b x (i+1)).w,dK n r (cg n A b x i).w,←gk];exact gR (fun j _=>by rw[DJ];grind) (fun _ _=>rfl)
        rw[e2,h3 (i+1) hi,h3 i oM];grind
    have hA_:∀ i,i≤t→nw n A (cg n A b x i)*dt n r (mv n A (cg n A b x i).w)=dt n r (cg n A b x i).r+(-1)*dt n r (cg n A b x (i+1)).r:=fun i _=>by
      have e3:dt n (cg n A b x (i+1)).r r=dt n (cg n A b x i).r r+(-nw n A (cg n A b x i))*dt n (mv n A (cg n A b x i).w) r:=by
        rw[←gk];exact gR (fun j _=>o9 i j) (fun _ _=>rfl)
      rw[dK n r (cg n A b x (i+1)).r,e3,dK n r (cg n A b x i).r,dK n r (mv n A _)];grind
    have h2:∀ i,i≤t→dt n (cg n A b x (t+1)).w (mv n A (cg n A b x i).w)=0:=fun i hi=>by
      obtain ⟨q1,q2⟩:=hg i oM;have hki:nw n A (cg n A b x i)≠0:=by unfold nw;grind
      have e4:dt n (cg n A b x (t+1)).w (mv n A (cg n A b x i).w)=dt n r (mv n A (cg n A b x i).w)+(dt n r r/dt n (cg n A b x t).r (cg n A b x t).r)*dt n (cg n A b x t).w (mv n A (cg n A b x i).w):=by
        rw[←gk,hr];exact gR (fun j _=>DJ t j) (fun _ _=>rfl)
      have e5:=hA_ i hi;rw[h1 i hi] at e5
      rw[e4]
      by_cases e:i=t
      · subst e
        rw[←hk] at e5
        rw[←hr] at e5
        have hk0:k≠0:=by rw[hk];exact hki
        have e6:dt n r (mv n A (cg n A b x i).w) = -(dt n r r)/k:=by grind
        have e7:dt n (cg n A b x i).w (mv n A (cg n A b x i).w)=dt n (cg n A b x i).r (cg n A b x i).r/k:=by grind
        rw[e6,e7];grind
      · rw[O.ww t (Nat.le_refl _) i oM]
        rw[h1 (i+1) oM] at e5
        have e6:dt n r (mv n A (cg n A b x i).w)=0:=by grind
        rw[e6];grind
    refine ⟨fun j hj i hi=>?_,fun j hj i hi=>?_,fun j hj i hi=>?_,fun j hj=>?_⟩
    · by_cases e:j≤t
      · exact O.rr j e i hi
      · obtain rfl:j=t+1:=by omega
        rw[←hr];exact h1 i oM
    · by_cases e:j≤t
      · exact O.ww j e i hi
      · obtain rfl:j=t+1:=by omega
        exact h2 i oM
    · by_cases e:j≤t
      · exact O.rw_ j e i hi
      · obtain rfl:j=t+1:=by omega
        rw[←hr];exact h3 i oM
    · by_cases e:j≤t
      · exact O.own j e
      · obtain rfl:j=t+1:=by omega
        have e8:dt n (cg n A b x (t+1)).r (cg n A b x (t+1)).w=dt n r r+(dt n r r/dt n (cg n A b x t).r (cg n A b x t).r)*dt n (cg n A b x t).w r:=by
          rw[←gk,dK,hr];exact gR (fun j _=>DJ t j) (fun _ _=>rfl)
        rw[e8,dK n (cg n A b x t).w r,h3 t (Nat.le_refl _),←hr];grind
theorem qV (hA:∀ i,i<n→∀ j,j<n→A i j=A j i){t:Nat}(hg:∀ i,i<t→Df n A b x i):t≤n:=by
 have O:=nI hA t hg;exact xr (v:=fun i=>(cg n A b x i).r) (m:=t) (fun i hi k hk=>O.rr i oM k hk) (fun i hi=>(hg i hi).1)
end
def SD (e:Nat)(q:Rat):Prop:=∃ (N:Int) (D:Nat),0<D∧D≤2^e∧N.natAbs≤2^e∧q*((D:Nat):Rat)=(N:Rat)
def CD (n e:Nat)(v:Nat→Rat):Prop:=∃ D:Nat,0<D∧D≤2^e∧∀ i,i<n→∃ N:Int,N.natAbs≤2^e∧v i*((D:Nat):Rat)=(N:Rat)
def MD (n e:Nat)(A:Nat→Nat→Rat):Prop:=∃ D:Nat,0<D∧D≤2^e∧∀ i,i<n→∀ j,j<n→∃ N:Int,N.natAbs≤2^e∧A i j*((D:Nat):Rat)=(N:Rat)
theorem iu {a e f:Nat}(h:a≤2^e)(hf:e≤f):a≤2^f:=Nat.le_trans h (Nat.pow_le_pow_right kD hf)
theorem SD.mono {e f:Nat}{q:Rat}(h:SD e q)(hf:e≤f):SD f q:=by
 obtain ⟨N,D,h0,h1,h2,h3⟩:=h;exact ⟨N,D,h0,iu h1 hf,iu h2 hf,h3⟩
theorem CD.mono {n e f:Nat}{v:Nat→Rat}(h:CD n e v)(hf:e≤f):CD n f v:=by
 obtain ⟨D,h0,h1,h2⟩:=h;exact ⟨D,h0,iu h1 hf,fun i hi=>by obtain ⟨N,a,b⟩:=h2 i hi;exact ⟨N,iu a hf,b⟩⟩
theorem CD.at_ {n e:Nat}{v:Nat→Rat}(h:CD n e v){i:Nat}(hi:i<n):SD e (v i):=by
 obtain ⟨D,h0,h1,h2⟩:=h;obtain ⟨N,a,b⟩:=h2 i hi;exact ⟨N,D,h0,h1,a,b⟩
theorem eL {a b e f:Nat}(h:a≤2^e)(h2:b≤2^f):a*b≤2^(e+f):=by rw[Nat.pow_add];exact Nat.mul_le_mul h h2
theorem D8 {a b e:Nat}(h:a≤2^e)(h2:b≤2^e):a+b≤2^(e+1):=by rw[Nat.pow_succ];omega
theorem mU {D:Nat}(h:0<D):((D:Nat):Rat)≠0:=by simp;omega
theorem SD.lq {e k:Nat}{q:Rat}(h:SD e q)(hk:e<64*k):LQ k q:=by
 obtain ⟨N,D,h0,h1,h2,h3⟩:=h
 have hq:q=mkRat N D:=by
  have h5:=mU h0;rw[Rat.mkRat_eq_div,←h3]
  generalize ((D:Nat):Rat)=y at *
  grind
 obtain ⟨p1,p2,_,_⟩:=fI N D h0
 have hp:(2:Nat)^e<18446744073709551616^k:=by
  rw[show (18446744073709551616:Nat)=2^64 from rfl,←Nat.pow_mul];exact Nat.pow_lt_pow_right kD hk
 constructor
 ·refine dI kD (Nat.lt_of_le_of_lt ?_ hp)
  rw[hq,p1];refine Nat.le_trans ?_ h2
  unfold ab
  exact Int.natAbs_ediv_le_natAbs _ _
 ·refine dI kD (Nat.lt_of_le_of_lt ?_ hp)
  rw[hq,p2];exact Nat.le_trans (Nat.div_le_self _ _) h1
theorem SD.div {e f:Nat}{p q:Rat}(hp:SD e p)(hq:SD f q):SD (e+f) (p/q):=by
  obtain ⟨N,D,a0,a1,a2,a3⟩:=hp;obtain ⟨M,E,b0,b1,b2,b3⟩:=hq;have hD:=mU a0;have hE:=mU b0
  by_cases h0:M=0
  · subst h0
    have hq0:q=0:=by
      rcases Rat.mul_eq_zero.1 (show q*((E:Nat):Rat)=0 by rw[b3];rfl) with e|e
      · exact e
      · exact absurd e hE
    refine ⟨0,1,by decide,Nat.one_le_two_pow,Nat.zero_le _,?_⟩;rw[hq0,show p/0=0 by grind];grind
  · have hM:((M:Int):Rat)≠0:=by simpa using h0
    have hMn:0<M.natAbs:=by omega
    refine ⟨N*(E:Nat)*M.sign,D*M.natAbs,Nat.mul_pos a0 hMn,eL a1 b2,?_,?_⟩
    · rw[Int.natAbs_mul,Int.natAbs_mul,Int.natAbs_natCast,Int.natAbs_sign,if_neg h0,Nat.mul_one];exact eL a2 b1
    · have hs:((M.natAbs:Nat):Rat)=((M.sign:Int):Rat)*(M:Rat):=by
        have h9:((M.natAbs:Nat):Int)=M.sign*M:=by
          rcases Int.lt_trichotomy M 0 with h|h|h
          · rw[Int.sign_eq_neg_one_of_neg h];omega
          · exact absurd h h0
          · rw[Int.sign_eq_one_of_pos h];omega
        rw[←Rat.intCast_natCast,←Rat.intCast_mul,h9]
      have hqn:q≠0:=fun e=>by rw[e] at b3;exact hM (by grind)
      have e1:p/q*q=p:=by grind
      rw[Rat.natCast_mul,hs,Rat.intCast_mul,Rat.intCast_mul,Rat.intCast_natCast,←a3,←b3]
      grind
theorem m6 {f:Nat→Rat}{D e:Nat}:∀ n,(∀ i,i<n→∃ N:Int,N.natAbs≤2^e∧f i*((D:Nat):Rat)=(N:Rat))→∃ N:Int,N.natAbs≤n*2^e∧eJ f n*((D:Nat):Rat)=(N:Rat)
  | 0,_=>⟨0,Nat.zero_le _,by show (0:Rat)*_=0;grind⟩
  | n + 1,h=>by
    obtain ⟨N,a,b⟩:=m6 n (fun i hi=>h i oM);obtain ⟨M,c,d⟩:=h n oM;refine ⟨N+M,?_,?_⟩
    · have:=Int.natAbs_add_le N M
      rw[Nat.succ_mul];omega
    · show (eJ f n+f n)*_=_
      rw[Rat.intCast_add,←b,←d];grind
section
variable {n:Nat} (hn:n≤4)
include hn
theorem qB {x e:Nat}(h:x≤n*2^e):x≤2^(e+2):=by
 have:=Nat.mul_le_mul_right (2^e) hn;rw[Nat.pow_add];omega
theorem CD.dot {e f:Nat}{u v:Nat→Rat}(hu:CD n e u)(hv:CD n f v):SD (e+f+2) (dt n u v):=by
 obtain ⟨D,a0,a1,a2⟩:=hu;obtain ⟨E,b0,b1,b2⟩:=hv
 obtain ⟨N,c1,c2⟩:=m6 (f:=fun i=>u i*v i) (D:=D*E) (e:=e+f) n (fun i hi=>by
  obtain ⟨N,p,q⟩:=a2 i hi;obtain ⟨M,r,s⟩:=b2 i hi;refine ⟨N*M,by rw[Int.natAbs_mul];exact eL p r,?_⟩;rw[Rat.intCast_mul,←q,←s,Rat.natCast_mul];grind)
 exact ⟨N,D*E,Nat.mul_pos a0 b0,iu (eL a1 b1) oM,qB hn c1,c2⟩
theorem MD.app {e f:Nat}{A:Nat→Nat→Rat}{v:Nat→Rat}(hA:MD n e A)(hv:CD n f v):CD n (e+f+2) (mv n A v):=by
 obtain ⟨D,a0,a1,a2⟩:=hA;obtain ⟨E,b0,b1,b2⟩:=hv;refine ⟨D*E,Nat.mul_pos a0 b0,iu (eL a1 b1) oM,fun i hi=>?_⟩
 obtain ⟨N,c1,c2⟩:=m6 (f:=fun j=>A i j*v j) (D:=D*E) (e:=e+f) n (fun j hj=>by
  obtain ⟨N,p,q⟩:=a2 i hi j hj;obtain ⟨M,r,s⟩:=b2 j hj;refine ⟨N*M,by rw[Int.natAbs_mul];exact eL p r,?_⟩;rw[Rat.intCast_mul,←q,←s,Rat.natCast_mul];grind)
 exact ⟨N,qB hn c1,c2⟩
omit hn
theorem CD.lin {e f g:Nat}{u v:Nat→Rat}{k:Rat}(hu:CD n e u)(hk:SD f k)(hv:CD n g v):CD n (e+f+g+1) (fun i=>u i+v i*k):=by
 obtain ⟨D,a0,a1,a2⟩:=hu;obtain ⟨M,E,b0,b1,b2,b3⟩:=hk;obtain ⟨F,c0,c1,c2⟩:=hv;refine ⟨D*E*F,Nat.mul_pos (Nat.mul_pos a0 b0) c0,iu (eL (eL a1 b1) c1) oM,fun i hi=>?_⟩;obtain ⟨N,p,q⟩:=a2 i hi;obtain ⟨L,r,s⟩:=c2 i hi;refine ⟨N*(E:Nat)*(F:Nat)+L*M*(D:Nat),?_,?_⟩
 ·refine Nat.le_trans (Int.natAbs_add_le _ _) ?_
  rw[Int.natAbs_mul,Int.natAbs_mul,Int.natAbs_mul,Int.natAbs_mul,Int.natAbs_natCast,Int.natAbs_natCast,Int.natAbs_natCast];refine D8 (eL (eL p b1) c1) ?_;have:=eL (eL r b2) a1;rw[show g+f+e=e+f+g by omega] at this
  exact this
 ·rw[Rat.intCast_add,Rat.intCast_mul,Rat.intCast_mul,Rat.intCast_mul,Rat.intCast_mul,Rat.intCast_natCast,Rat.intCast_natCast,Rat.intCast_natCast,←q,←s,←b3,Rat.natCast_mul,Rat.natCast_mul]
  grind
end
theorem SD.one:SD 0 ((-1:Int):Rat):=⟨-1,1,by decide,by decide,by decide,by rw[show ((-1:Int):Rat) = -1 from rfl];grind⟩
structure Bit where
  x:Nat
  r:Nat
  w:Nat
def AW (a c:Nat)(s:Bit):Bit:=⟨s.x+(2*s.r+2*s.w+a+6)+s.w+1,3*s.r+3*s.w+2*a+9,3*(3*s.r+3*s.w+2*a+9)+2*s.r+s.w+5⟩
def bits (a c x:Nat):Nat→Bit
  | 0=>⟨x,c+a+x+3,c+a+x+3⟩
  | t+1=>AW a c (bits a c x t)
theorem rp {n:Nat}(hn:n≤4){a c e:Nat}{A:Nat→Nat→Rat}{b x:Nat→Rat}(hA:MD n a A)(hb:CD n c b)(hx:CD n e x):∀ t,CD n (bits a c e t).x (cg n A b x t).x∧CD n (bits a c e t).r (cg n A b x t).r∧CD n (bits a c e t).w (cg n A b x t).w
  | 0=>by
    have h1:=(hb.lin SD.one (hA.app hn hx)).mono (f:=c+a+e+3) oM;exact ⟨hx,h1,h1⟩
  | t + 1=>by
    obtain ⟨h1,h2,h3⟩:=rp hn hA hb hx t;obtain ⟨s,hs⟩:∃ s,s=bits a c e t:=⟨_,rfl⟩;rw[←hs] at h1 h2 h3
    have hy:=hA.app hn h3;have hk:SD (2*s.r+2*s.w+a+6) (nw n A (cg n A b x t)):=((h2.dot hn h2).div (h3.dot hn hy)).mono oM
    have hnk:SD (2*s.r+2*s.w+a+6) (-nw n A (cg n A b x t)):=by
      obtain ⟨N,D,d0,d1,d2,d3⟩:=hk;exact ⟨-N,D,d0,d1,by rw[Int.natAbs_neg];exact d2,by rw[Rat.intCast_neg,←d3];grind⟩
    have hx':CD n (s.x+(2*s.r+2*s.w+a+6)+s.w+1) (cg n A b x (t+1)).x:=h1.lin hk h3
    have hr':CD n (3*s.r+3*s.w+2*a+9) (cg n A b x (t+1)).r:=by
      have:=(h2.lin hnk hy).mono (f:=3*s.r+3*s.w+2*a+9) oM;obtain ⟨D,d0,d1,d2⟩:=this;refine ⟨D,d0,d1,fun i hi=>?_⟩;obtain ⟨N,p,q⟩:=d2 i hi;refine ⟨N,p,?_⟩;rw[←q,o9];grind
    have hq:=(hr'.dot hn hr').div (h2.dot hn h2);have hw':CD n (3*(3*s.r+3*s.w+2*a+9)+2*s.r+s.w+5) (cg n A b x (t+1)).w:=(hr'.lin hq h3).mono oM
    show CD n (AW a c (bits a c e t)).x _∧CD n (AW a c (bits a c e t)).r _∧CD n (AW a c (bits a c e t)).w _
    rw[←hs];exact ⟨hx',hr',hw'⟩
structure CgB (n:Nat) (A:Nat→Nat→Rat) (b x:Nat→Rat) (t:Nat):Prop where
  xx:∀ i,i<n→LQ 100000 ((cg n A b x t).x i)
  r:∀ i,i<n→LQ 100000 ((cg n A b x t).r i)
  w:∀ i,i<n→LQ 100000 ((cg n A b x t).w i)
  ax:∀ i,i<n→LQ 100000 (mv n A (cg n A b x t).x i)
  aw:∀ i,i<n→LQ 100000 (mv n A (cg n A b x t).w i)
  rr:LQ 100000 (dt n (cg n A b x t).r (cg n A b x t).r)
  ww:LQ 100000 (dt n (cg n A b x t).w (mv n A (cg n A b x t).w))
  k:LQ 100000 (nw n A (cg n A b x t))
theorem Ba {t:Nat}(ht:t≤4):(bits 18 8 8 t).x≤2200000∧(bits 18 8 8 t).r≤700000∧(bits 18 8 8 t).w≤2200000:=by
 rcases (by omega:t=0∨t=1∨t=2∨t=3∨t=4) with rfl|rfl|rfl|rfl|rfl<;>decide
theorem HF {n:Nat}(hn:n≤4){A:Nat→Nat→Rat}{b x:Nat→Rat}(hA:MD n 18 A)(hb:CD n 8 b)(hx:CD n 8 x){t:Nat}(ht:t≤4):CgB n A b x t:=by
 obtain ⟨h1,h2,h3⟩:=rp hn hA hb hx t;obtain ⟨b1,b2,b3⟩:=Ba ht;have c1:=h1.mono b1;have c2:=h2.mono b2;have c3:=h3.mono b3;have a1:=hA.app hn c1;have a3:=hA.app hn c3;exact ⟨fun i hi=>(c1.at_ hi).lq kD,fun i hi=>(c2.at_ hi).lq kD,fun i hi=>(c3.at_ hi).lq kD,fun i hi=>(a1.at_ hi).lq kD,fun i hi=>(a3.at_ hi).lq kD,(c2.dot hn c2).lq kD,(c3.dot hn a3).lq kD,((c2.dot hn c2).div (c3.dot hn a3)).lq kD⟩
def CjEnd (n:Nat)(A:Nat→Nat→Rat)(b x:Nat→Rat)(t:Nat)(e:Int):Prop :=
  (∀ i,i<t→dt n (cg n A b x i).r (cg n A b x i).r≠0∧0<(dt n (cg n A b x i).w (mv n A (cg n A b x i).w)).num) ∧
    (e=0∧dt n (cg n A b x t).r (cg n A b x t).r=0∨e=9∧dt n (cg n A b x t).r (cg n A b x t).r≠0∧¬0<(dt n (cg n A b x t).w (mv n A (cg n A b x t).w)).num)
theorem CjEnd.uniq {n:Nat}{A:Nat→Nat→Rat}{b x:Nat→Rat}{t t':Nat}{e e':Int}(h:CjEnd n A b x t e)(h':CjEnd n A b x t' e'):t=t'∧e=e':=by
 have key:∀ {t t':Nat} {e e':Int},CjEnd n A b x t e→CjEnd n A b x t' e'→¬t<t':=fun {t t' e e'} h h' hlt=>by
  obtain ⟨g1,g2⟩:=h'.1 t hlt
  rcases h.2 with ⟨_,q⟩|⟨_,_,q⟩
  ·exact g1 q
  ·exact q g2
 have ht:t=t':=by
  have:=key h h';have:=key h' h;omega
 subst ht;refine ⟨rfl,?_⟩
 rcases h.2 with ⟨q1,q2⟩|⟨q1,q2,_⟩<;>rcases h'.2 with ⟨p1,p2⟩|⟨p1,p2,_⟩
 ·rw[q1,p1]
 ·exact absurd q2 p2
 ·exact absurd p2 q2
 ·rw[q1,p1]
theorem pZ {n:Nat}{A:Nat→Nat→Rat}{b x:Nat→Rat}{t:Nat}(h:dt n (cg n A b x t).r (cg n A b x t).r≠0∧0<(dt n (cg n A b x t).w (mv n A (cg n A b x t).w)).num):Df n A b x t:=⟨h.1,fun e=>by have:=h.2;rw[e] at this;exact absurd this kD⟩
theorem Ch {A:Option Addr}{c a b:Nat}(h:a=b):Value.slice A a c=.slice A b c:=by rw[h]
theorem Ae {A:Option Addr}{c a b:Nat}{x:Value}(h:a=b):Value.tuple #[.slice A a c,x]=.tuple #[.slice A b c,x]:=by rw[h]
def aY (n:Nat)(f:Nat→Rat):List Rat:=(List.range n).map f
theorem bI (n:Nat)(f:Nat→Rat):(aY n f).length=n:=by simp[aY]
theorem dY {n i:Nat}(f:Nat→Rat)(h:i<n):(aY n f).getD i 0=f i:=by simp[aY,h]
theorem oy {l:List Rat}{n:Nat}{f:Nat→Rat}(hl:l.length=n)(h:∀ i,i<n→l.getD i 0=f i):l=aY n f:=by
 subst hl;refine List.ext_getElem (by simp[aY]) (fun i h1 h2=>?_);have:=h i h1
 simp only[aY,List.getElem_map,List.getElem_range]
 rw[←this];simp[h1]
theorem vu {L:List Rat}{n:Nat}{f:Nat→Rat}(hl:L.length=n)(h:∀ j,L.getD j 0=if j<n then f j else 0):L=aY n f:=oy hl (fun i hi=>by rw[h i,if_pos hi])
theorem qY {L:List Rat}{n i:Nat}{f:Nat→Rat}{x:Rat}(hl:L.length=n)(h:∀ j,L.getD j 0=if j<i then f j else 0)(hi:i<n)(hx:x=f i):∀ j,(L.set i x).getD j 0=if j<i+1 then f j else 0:=fun j=>by
 rw[bY oM]
 by_cases e:j=i
 ·subst e;rw[if_pos rfl,if_pos oM];exact hx
 ·rw[if_neg e,h j]
  by_cases e2:j<i
  ·rw[if_pos e2,if_pos oM]
  ·rw[if_neg e2,if_neg oM]
def mA (W:List (List Rat)):Nat→Nat→Rat:=fun i j=>(W.getD i []).getD j 0
theorem o0 {a b:List Rat}{u v:Nat→Rat}:∀ n,(∀ i,i<n→a.getD i 0=u i)→(∀ i,i<n→b.getD i 0=v i)→c4 a b n=dt n u v
  | 0,_,_=>rfl
  | n+1,h1,h2=>by
    show c4 a b n+a.getD n 0*b.getD n 0=dt n u v+u n*v n
    rw[o0 n (fun i hi=>h1 i oM) (fun i hi=>h2 i oM),h1 n oM,h2 n oM]
def vU (W:List (List Rat)):Prop:=gH W∧W.length=(W.getD 0 []).length
noncomputable def BD (W:List (List Rat)):Bool:=@decide (vU W) (Classical.propDecidable _)
def SymP (W:List (List Rat)):Prop:=vU W∧∀ i,i<W.length→∀ k,k<i→(W.getD i []).getD k 0=(W.getD k []).getD i 0
noncomputable def Bt (W:List (List Rat)):Bool:=@decide (SymP W) (Classical.propDecidable _)
theorem Ey {W:List (List Rat)}(h:¬vU W):BD W=false:=@decide_eq_false _ (Classical.propDecidable _) h
theorem F0 {W:List (List Rat)}(h:vU W):BD W=true:=@decide_eq_true _ (Classical.propDecidable _) h
theorem B8 {W:List (List Rat)}(h:BD W=true):vU W:=@oT _ (Classical.propDecidable _) h
theorem mG {W:List (List Rat)}(h:BD W=false):¬vU W:=@oF _ (Classical.propDecidable _) h
theorem uz {W:List (List Rat)}(h:¬SymP W):Bt W=false:=@decide_eq_false _ (Classical.propDecidable _) h
theorem BT {W:List (List Rat)}(h:SymP W):Bt W=true:=@decide_eq_true _ (Classical.propDecidable _) h
theorem SymP.all {W:List (List Rat)}(h:SymP W):∀ i,i<W.length→∀ j,j<W.length→mA W i j=mA W j i:=fun i hi j hj=>by
 rcases Nat.lt_trichotomy i j with e|e|e
 ·exact (h.2 j hj i e).symm
 ·rw[e]
 ·exact h.2 i hi j e
theorem Da {a b:Rat}(h:a=b):dx a b=0:=by rw[h];exact rM b
theorem wO {a b:Rat}(h:dx a b=0):a=b:=by
 unfold dx dG at h
 have ha:=a.den_pos;have hb:=b.den_pos
 split at h
 ·omega
 ·split at h
  ·omega
  ·have e:a.num*(b.den:Int)=b.num*(a.den:Int):=by omega
   rw[←Rat.mkRat_self a,←Rat.mkRat_self b];exact (Rat.mkRat_eq_iff oM oM).2 e
theorem xK (A:Option Addr)(cap:Nat)(us:List Value)(W:List (List Rat))(hl:W.length≤1000000)(hls:∀ i,i<W.length→(W.getD i []).length≤1000000)(hR:gH W)(w:World)(h:Hp)(g:G w h)(hA:Sv A us h)(hU:QVs h us W):CV 86 #[.slice A us.length cap] w h (.bool true):=by
 have x:=qj A cap us W hl hls w h g hA hU;rw[←Gp hR] at x
 exact x
theorem pY {n a:Nat}(hn:n≤5)(ha:a≤1000001):n*a+a+2≤100000000:=by
 have:=Nat.mul_le_mul_right a hn
 omega
theorem FF (a:List Rat)(x:Nat→Rat)(n:Nat)(A:Option Addr)(ca:Nat)(X:Option Addr)(cX:Nat)(hal:a.length=n)(K1 K2:Nat)(hn4:n≤5)(hb:K1+K2≤1000000)(hK1:∀ j,LQ K1 (a.getD j 0))(hK2:∀ i,i<n→LQ K2 (x i))(w:World)(h:Hp)(g:G w h)(hA:Sq A a h)(hX:Sq X (aY n x) h)(tb:Tab h):CV 44 #[.slice A a.length ca,.slice X (aY n x).length cX] w h (.tuple #[qv (dt n (fun j=>a.getD j 0) x),.bool true]):=by
 have x_:=F5 A ca a X cX (aY n x) K1 K2 (by rw[bI];exact hal) oM (by have:=pY (n:=a.length) (a:=K1+K2+1) oM oM;omega) (fun i _=>hK1 i) (fun i hi=>by rw[dY x oM];exact hK2 i oM) w h g hA hX tb;rw[hal,o0 n (u:=fun j=>a.getD j 0) (v:=x) (fun i _=>rfl) (fun i hi=>dY x hi)] at x_
 rw[hal];exact x_
theorem oZ (u v:Nat→Rat)(n:Nat)(A:Option Addr)(ca:Nat)(X:Option Addr)(cX:Nat)(K1 K2:Nat)(hn4:n≤5)(hb:K1+K2≤1000000)(hK1:∀ i,i<n→LQ K1 (u i))(hK2:∀ i,i<n→LQ K2 (v i))(w:World)(h:Hp)(g:G w h)(hA:Sq A (aY n u) h)(hX:Sq X (aY n v) h)(tb:Tab h):CR 44 #[.slice A (aY n u).length ca,.slice X (aY n v).length cX] w h (fun r _=>r=.tuple #[qv (dt n u v),.bool true]):=by
 have x_:=F5 A ca (aY n u) X cX (aY n v) K1 K2 (by rw[bI,bI]) (by rw[bI];omega) (by rw[bI];have:=pY (n:=n) (a:=K1+K2+1) oM oM;omega) (fun i hi=>by rw[bI] at hi;rw[dY u hi];exact hK1 i hi) (fun i hi=>by rw[bI] at hi;rw[dY v hi];exact hK2 i hi) w h g hA hX tb;rw[bI n u,o0 n (u:=u) (v:=v) (fun i hi=>dY u hi) (fun i hi=>dY v hi)] at x_
 rw[bI n u];exact x_
theorem m8 (A:Option Addr)(cap:Nat)(us:List Value)(W:List (List Rat))(hl:W.length≤1000)(hls:∀ i,i<W.length→(W.getD i []).length≤1000)(w:World)(h:Hp)(g:G w h)(hA:Sv A us h)(hU:QVs h us W):CV 39 #[.slice A us.length cap] w h (.bool (BD W)):=by
 have hs:=(((sS g).aS hA).aQ hU);have hlu:=(hs.f.1).len;refine go Tryz.func39 [(0,qS A us.length cap)] rfl (aa hs [.v 2 qF] (aT (lL hs [.m 3 0] (ag 4 hs (qj A cap us W oM (fun i hi=>by have:=hls i hi;omega) _ _ hs.g hs.f.2.1 hs.f.1) (fun w1 h2 hs=>?_)))));cases hb3:(fq W)
 ·
  refine lL hs [.m 5 4] (lG 6 ?_);exact lG 7 (lG 8 (lG 9 (lG 10 (lG 11 (lG 12 (lL hs [.v 13 qF,.m 2 13] (ae hs [] qF (congrArg Value.bool (Ey (fun h_=>by first|exact uv aM h_.1|(have:=h_.2;omega))).symm))))))))
 refine lL hs [.m 5 4,.m 6 0,.v 7 (nV us.length),.m 8 0] ?_;obtain ⟨hr1,hr2,hr3⟩:=BR ‹fq W=true›;refine lX 9 A us.length cap 1 0 0 ((hs.f.2.1).ok oM) ?_;obtain ⟨Aqz,cqz,eqz,hcqz,hRqz⟩:=(hs.f.1).at_ 0 oM;replace hs:=hs.aS hRqz;refine ws 10 (us.getD 0 undef) hs ((hs.f.r.1).el 0 oM) eqz (lL hs [.v 11 (nV ((W.getD 0 []).length))] ?_);cases hb4:((us.length:Int) == (((W.getD 0 []).length:Nat):Int))
 ·
  have phb4:=ah hb4;exact lB 12 hb4 (lL hs [.v 13 qF,.m 2 13] (ae hs [] qF (congrArg Value.bool (Ey (fun h_=>by first|exact uv aM h_.1|(have:=h_.2;omega))).symm)))
 have phb4:=eq_of_beq hb4;exact lB 12 hb4 (lL hs [.v 13 qT,.m 2 13] (ae hs [] qT (congrArg Value.bool (F0 ⟨BR aM,by omega⟩).symm)))
theorem FJ (A:Option Addr)(cap:Nat)(us:List Value)(W:List (List Rat))(hl:W.length≤1000)(hls:∀ i,i<W.length→(W.getD i []).length≤1000)(hq:∀ i j,LQ 100000000 ((W.getD i []).getD j 0))(w:World)(h:Hp)(g:G w h)(hA:Sv A us h)(hU:QVs h us W):CV 40 #[.slice A us.length cap] w h (.bool (Bt W)):=by
 have hs:=(((sS g).aS hA).aQ hU);have hlu:=(hs.f.1).len;refine go Tryz.func40 [(0,qS A us.length cap)] rfl (aa hs [.v 2 qF] (af (aa hs [.m 6 0] (ag 7 hs (m8 A cap us W hl hls _ _ hs.g hs.f.2.1 hs.f.1) (fun w1 h2 hs=>?_)))));cases hb3:(BD W)
 ·
  exact lL hs [.v 8 qT] (ao (aa hs [.v 2 qF] (ae hs [] qF (congrArg Value.bool (uz (fun h_=>mG aM h_.1)).symm))))
 refine lL hs [.v 8 qF] (aj (cK (cQ (aa hs [.m 9 0,.v 10 (nV us.length),.v 11 (iV 0)] (bj ?_)))));have hS:=B8 ‹BD W=true›;obtain ⟨⟨hr1,hr2,hr3⟩,hr4⟩:=id hS;refine bx _ (CG.loop (fun μ_ Γ w_=>∃ (i:Nat) (h_:Hp),μ_=W.length-i∧Γ=[(0,qS A us.length cap),(9,qS A us.length cap),(10,nV us.length),(11,nV i)]∧SS w h w_ h_ [] [] [Qu us W,Sv A us]∧i≤W.length∧(∀ a,a<i→∀ b,b<a→(W.getD a []).getD b 0=(W.getD b []).getD a 0)) _ ⟨0,h2,rfl,rfl,hs.to _ _,Nat.zero_le _,(fun a ha=>absurd ha (Nat.not_lt_zero a))⟩ ?_);rintro _ _ w4 ⟨i,h5,hm6,rfl,hs,hi,hY⟩;refine aE ?_;cases hb7:(decide ((i:Int)<(us.length:Int)))
 ·
  have phb7:=oF hb7;refine lB 12 hb7 (af (cM (CG.exit ?_)))
  show CG _ _ _ _ _ _ _ _
  exact aa hs [.v 2 qT] (ae hs [] qT (congrArg Value.bool (BT ⟨hS,fun a ha b hb=>hY a oM b hb⟩).symm))
 have phb7:=oT hb7;refine lB 12 hb7 (af (bS (cK (cQ (kZ (aa hs [.m 13 11] (lX 14 A us.length cap 1 (i:Nat) i ((hs.f.2.1).ok oM) ?_)))))));obtain ⟨Aqx,cqx,eqx,hcqx,hRqx⟩:=(hs.f.1).at_ i oM;replace hs:=hs.aS hRqx;refine ws 15 (us.getD i undef) hs ((hs.f.r.1).el i oM) eqx (lL hs [.m 3 13,.m 4 15] (aT (lL hs [.m 16 3,.v 17 (iV 0)] (bj ?_))));refine bx _ (CG.loop (fun μ_ Γ w_=>∃ (j:Nat) (h_:Hp),μ_=i-j∧Γ=[(0,qS A us.length cap),(9,qS A us.length cap),(10,nV us.length),(11,nV i),(3,nV i),(4,qS Aqx ((W.getD i []).length) cqx),(16,nV i),(17,nV j)]∧SS w h w_ h_ [] [] [Sq Aqx (W.getD i []),Qu us W,Sv A us]∧j≤i∧(∀ b,b<j→(W.getD i []).getD b 0=(W.getD b []).getD i 0)) _ ⟨0,h5,rfl,rfl,hs.to _ _,Nat.zero_le _,(fun b hb=>absurd hb (Nat.not_lt_zero b))⟩ ?_);rintro _ _ w8 ⟨j,h9,hm10,rfl,hs,hj,hX⟩;have hwi:=hr3 i;have hwj:=hr3 j;refine aE ?_;cases za:(decide ((j:Int)<(i:Int)))
 ·
  have zc:=oF za;refine lB 18 za (af (cM (CG.exit ?_)))
  show CG _ _ _ _ _ _ _ _
  refine kQ (bB 34 ((i:Nat)+1) (i+1) ?_);refine lL hs [.m 11 34] (lD ?_);intro a_ ka;replace hs:=hs.tl;refine ⟨_,_,?_,⟨i+1,h9,rfl,rfl,hs.to _ _,oM,(fun a ha b hb=>by by_cases e_:a=i;(subst e_;exact hX b oM);exact hY a oM b hb)⟩,ka.to _ kR⟩
  omega
 have zc:=oT za;refine lB 18 za (af (bS (cK (cQ (kZ (aa hs [.m 19 17,.m 5 19] (af (cR 13 [] mixed hs aq ?_))))))));refine eV 0 20 (qS Aqx ((W.getD i []).length) cqx) (eV 1 21 (nV j) (eX 2 22 Aqx ((W.getD i []).length) cqx 5 (j:Nat) j ((hs.f.1).ok oM) (eH 3 23 (qv ((W.getD i []).getD j 0)) hs ((hs.f.1).el j oM) (eV 4 24 (qS A us.length cap) (eV 5 25 (nV j) (eX 6 26 A us.length cap 1 (j:Nat) j ((hs.f.r.1).ok oM) ?_))))));obtain ⟨Aqy,cqy,eqy,hcqy,hRqy⟩:=(hs.f.2.1).at_ j oM;replace hs:=hs.aS hRqy;refine HS 7 27 (us.getD j undef) hs ((hs.f.r.2.1).el j oM) eqy (eV 8 28 (nV i) (eX 9 29 Aqy ((W.getD j []).length) cqy 5 (i:Nat) i ((hs.f.1).ok oM) (eH 10 30 (qv ((W.getD j []).getD i 0)) hs ((hs.f.1).el i oM) (ak 11 31 hs (fun _ _ hs=>mX ((W.getD i []).getD j 0) ((W.getD j []).getD i 0) (hq i j) (hq j i) _ _ hs.g) (fun _ _ hs=>?_)))));cases zb:((dx ((W.getD i []).getD j 0) ((W.getD j []).getD i 0):Int) != (0:Int))
 ·
  have zd:=aI zb;refine eB 12 32 zb (bM hs (fun _ ze hs=>tN (cM (cK (kQ (bB 33 ((j:Nat)+1) (j+1) ?_))))));refine lL hs [.m 17 33] (lD ?_);intro a_ ka;replace hs:=hs.tl;refine ⟨_,_,?_,⟨j+1,ze,rfl,rfl,hs.to _ _,oM,(fun b hb=>by by_cases e_:b=j;(subst e_;exact wO oM);exact hX b oM)⟩,ka.to _ kR⟩
  omega
 have zd:=aJ zb;exact eB 12 32 zb (bM hs (fun _ _ hs=>tN (bS (aa hs [.v 2 qF] (ae hs [] qF (congrArg Value.bool (uz (fun h_=>absurd (h_.2 i oM j oM) (fun e_=>absurd (Da e_) oM))).symm))))))
theorem BU (A:Option Addr)(cap:Nat)(us:List Value)(W:List (List Rat))(hl:W.length≤1000)(hls:∀ i,i<W.length→(W.getD i []).length≤1000)(hq:∀ i j,LQ 100000000 ((W.getD i []).getD j 0))(hS:SymP W)(w:World)(h:Hp)(g:G w h)(hA:Sv A us h)(hU:QVs h us W):CV 40 #[.slice A us.length cap] w h (.bool true):=by
 have x:=FJ A cap us W hl hls hq w h g hA hU;rw[BT hS] at x
 exact x
theorem pq (A:Option Addr)(cap:Nat)(us:List Value)(W:List (List Rat))(hl:W.length≤1000)(hls:∀ i,i<W.length→(W.getD i []).length≤1000)(x:Nat→Rat)(n:Nat)(hn4:n≤5)(X:Option Addr)(cX:Nat)(hR:gH W)(hn:W.length=n)(hn2:(W.getD 0 []).length=n)(K1 K2:Nat)(hK1:∀ i j,LQ K1 ((W.getD i []).getD j 0))(hK2:∀ i,i<n→LQ K2 (x i))(hKb:1≤K1∧1≤K2∧K1+K2≤1000000)(w:World)(h:Hp)(g:G w h)(hA:Sv A us h)(hU:QVs h us W)(hX:Sq X (aY n x) h)(tb:Tab h):CR 41 #[.slice A us.length cap,.slice X ((aY n x).length) cX] w h (fun v h1=>∃ A c,v=.tuple #[.slice A (aY n (mv n (mA W) x)).length c,iV 0]∧(aY n (mv n (mA W) x)).length≤c∧Sq A (aY n (mv n (mA W) x)) h1):=by
 have hs:=(((((sS g).aS hA).aQ hU).aS hX).aB tb);have hlu:=(hs.f.r.1).len;have hvl:=bI n x;have hr1:=hR.1;refine go Tryz.func41 [(0,qS A us.length cap),(1,qS X ((aY n x).length) cX)] rfl (aa hs [.v 4 (sZ),.v 5 (iV 0)] (af (aa hs [.m 9 0] (ag 10 hs (xK A cap us W oM (fun i hi=>by have:=hls i hi;omega) hR _ _ hs.g hs.f.r.2.1 hs.f.r.1) (fun w1 h2 hs=>lL hs [.v 11 qF,.m 12 11,.m 13 0] (lX 14 A us.length cap 1 0 0 ((hs.f.r.2.1).ok oM) ?_))))));obtain ⟨Aqz,cqz,eqz,hcqz,hRqz⟩:=(hs.f.r.1).at_ 0 oM;replace hs:=hs.aS hRqz;refine ws 15 (us.getD 0 undef) hs ((hs.f.q.1).el 0 oM) eqz (lL hs [.v 16 (nV ((W.getD 0 []).length)),.m 17 1,.v 18 (nV ((aY n x).length))] ?_);have hb3:((((W.getD 0 []).length:Nat):Int) != (((aY n x).length:Nat):Int))=false:=rP oM;have phb3:=aI hb3;refine lB 19 hb3 (lL hs [.v 20 qF] (aj (cK (aa hs [.m 21 0,.v 22 (nV us.length)] (lK 23 28 us.length 5 56 (.agg #[qF,uV 0,eS,uV 0,eS]) qc 0 hs (fun b4 w5 h6 hs=>?_))))));have hl7:(List.replicate us.length 0).length=us.length:=by simp
 refine lL hs [.m 6 23] (af (aa hs [.m 24 0,.v 25 (nV us.length),.v 26 (iV 0)] (bj ?_)));refine bx _ (CG.loop (fun μ_ Γ w_=>∃ (i:Nat) (L:List Rat) (h_:Hp),μ_=n-i∧Γ=[(1,qS X ((aY n x).length) cX),(4,sZ),(5,iV 0),(6,qS (sB b4) us.length us.length),(24,qS A us.length cap),(25,nV us.length),(26,nV i)]∧SS w h w_ h_ [⟨b4,28,(L).flatMap qc⟩] [] [Sq Aqz (W.getD 0 []),fun h_=>Tab h_,Sq X (aY n x),Qu us W,Sv A us]∧i≤n∧L.length=us.length∧(∀ j,L.getD j 0=if j<i then mv n (mA W) x j else 0)) _ ⟨0,List.replicate us.length (0:Rat),h6,rfl,rfl,hs.to _ _,Nat.zero_le _,(by simp),(fun j=>by rw[eD,if_neg (Nat.not_lt_zero j)])⟩ ?_);rintro _ _ w8 ⟨i,L,h9,hm10,rfl,hs,hi,hLl,hLv⟩;refine aE ?_;cases za:(decide ((i:Int)<(us.length:Int)))
 ·
  have zb:=oF za;refine lB 27 za (af (cM (CG.exit ?_)))
  show CG _ _ _ _ _ _ _ _
  refine aE ?_;have hin:i=n:=by omega
  have hLe:L=aY n (mv n (mA W) x):=vu (hLl.trans oM) (fun j=>by rw[hLv j,hin]);obtain ⟨_,hs,sg13,lo14,bc15⟩:=hs.pub 0;replace hs:=(hs.to [] []).aS (SlO.of_flat (sz:=5) (f:=qc) (d:=0) (b:=b4) (o:=0) (l:=L) (fun _=>rfl) sg13);replace hs:=hs.aS (show Sq (sB b4) (aY n (mv n (mA W) x)) _ from by rw[←hLe];exact hs.f.1);exact lL hs [.m 41 6,.m 4 41,.v 5 (iV 0)] (ae hs [] (.tuple #[qS (sB b4) us.length us.length,iV 0]) (⟨(sB b4),us.length,Ae (by rw[bI];omega),(by rw[bI];omega),hs.f.1⟩))
 have zb:=oT za;refine lB 27 za (af (bS (cK (cQ (kZ (aa hs [.m 28 26] (lX 29 A us.length cap 1 (i:Nat) i ((hs.f.q.1).ok oM) ?_)))))));obtain ⟨Aqx,cqx,eqx,hcqx,hRqx⟩:=(hs.f.r.2.1).at_ i oM;replace hs:=hs.aS hRqx;refine ws 30 (us.getD i undef) hs ((hs.f.q.2.1).el i oM) eqx (lL hs [.m 7 28,.m 8 30] (lN (kQ (lL hs [.m 32 6,.m 33 7,.m 34 8,.m 35 1] (ag 36 hs (FF (W.getD i []) x n Aqx cqx X cX (by rw[hR.2.2 i oM];omega) K1 K2 oM oM (hK1 i) hK2 _ _ hs.g hs.f.1 hs.f.r.2.1 hs.f.r.1) (fun _ zd hs=>lL hs [.m 31 36,.v 37 (qv (mv n (mA W) x i)),.v 38 qT] (lX 39 (sB b4) us.length us.length 5 (i:Nat) i rfl ?_)))))));refine lW 0 L qc 5 i (mv n (mA W) x i) hs oM (fun _ hs=>?_);have zc:((L).set i (mv n (mA W) x i)).length=us.length:=by rw[List.length_set];exact hLl
 replace hs:=hs.to [⟨b4,28,((L).set i (mv n (mA W) x i)).flatMap qc⟩] [];refine lN (kQ (bB 40 ((i:Nat)+1) (i+1) ?_));refine lL hs [.m 26 40] (lD ?_);intro a_ ka;replace hs:=hs.tl;refine ⟨_,_,?_,⟨i+1,(L).set i (mv n (mA W) x i),zd,rfl,rfl,hs.to _ _,oM,zc,(qY hLl hLv oM rfl)⟩,ka.to _ kR⟩
 omega
theorem C7 (A:Option Addr)(cap:Nat)(us:List Value)(W:List (List Rat))(hl:W.length≤1000)(hls:∀ i,i<W.length→(W.getD i []).length≤1000)(x:Nat→Rat)(n:Nat)(hn4:n≤5)(X:Option Addr)(cX:Nat)(hS:SymP W)(hn:W.length=n)(K1 K2 K3:Nat)(hK1:∀ i j,LQ K1 ((W.getD i []).getD j 0))(hK2:∀ i,i<n→LQ K2 (x i))(hK3:∀ i,i<n→LQ K3 (mv n (mA W) x i))(hKb:1≤K1∧1≤K2∧K1+K2≤1000000)(hKc:K2+K3≤1000000)(w:World)(h:Hp)(g:G w h)(hA:Sv A us h)(hU:QVs h us W)(hX:Sq X (aY n x) h)(tb:Tab h):CV 46 #[.slice A us.length cap,.slice X ((aY n x).length) cX] w h (.tuple #[qv (dt n x (mv n (mA W) x)),iV 0]):=by
 have hs:=(((((sS g).aS hA).aQ hU).aS hX).aB tb);have hlu:=(hs.f.r.1).len;have hvl:=bI n x;refine go Tryz.func46 [(0,qS A us.length cap),(1,qS X ((aY n x).length) cX)] rfl (aE (lA 4 28 ([qF,uV 0,eS,uV 0,eS]) hs (fun b1 w2 h3 hs=>lL hs [.v 5 (iV 0)] (af (aa hs [.m 10 0] (ag 11 hs (BU A cap us W hl hls (fun i j=>(hK1 i j).mono oM) hS _ _ hs.g hs.f.r.2.1 hs.f.r.1) (fun w4 h5 hs=>lL hs [.v 12 qF,.m 13 12,.m 14 0,.v 15 (nV us.length),.m 16 1,.v 17 (nV ((aY n x).length))] ?_)))))));have hb6:((us.length:Int) != (((aY n x).length:Nat):Int))=false:=rP oM;have phb6:=aI hb6;refine lB 18 hb6 (lL hs [.v 19 qF] (aj (cK (aa hs [.m 22 0,.m 23 1] (lC 24 hs (pq A cap us W hl hls x n hn4 X cX hS.1.1 hn (by rw[←hn];exact hS.1.2.symm) K1 K2 hK1 hK2 hKb _ _ hs.g hs.f.r.2.1 hs.f.r.1 hs.f.2.1 hs.f.1) ?_)))));rintro _ w7 h8 hs ⟨Ay,cy,rfl,hcy,hAy⟩;replace hs:=hs.aS hAy;exact lL hs [.m 21 24,.v 25 (qS Ay ((aY n (mv n (mA W) x)).length) cy),.v 26 (iV 0),.m 6 25,.m 7 26] (aT (lL hs [.m 28 1,.m 29 6] (ag 30 hs (oZ x (mv n (mA W) x) n X cX Ay cy K2 K3 hn4 oM hK2 hK3 _ _ hs.g hs.f.r.1 hs.f.1 hs.f.2.1) (fun w9 _ hs=>lL hs [.m 27 30,.v 31 (qv (dt n x (mv n (mA W) x))),.v 32 qT] (lA 8 28 ([qF,uV 0,eS,uV 0,eS]) hs (fun b11 _ _ hs=>lP 0 0 (qc (dt n x (mv n (mA W) x))) hs (fun _ hs=>lL hs [.m 9 32] (aT (lL hs [.o 33 (qv (dt n x (mv n (mA W) x))) 0 0 5] (lP 1 0 (qc (dt n x (mv n (mA W) x))) hs (fun _ hs=>lL hs [.v 5 (iV 0)] (ae hs [(1,0,5)] (.tuple #[qv (dt n x (mv n (mA W) x)),iV 0]) rfl))))))))))))
theorem xJ (b o c:Nat)(l:List Rat)(hpos:0<l.length)(hl:l.length≤1000000)(w:World)(h:Hp)(g:G w h)(hA:Sq (some ⟨b,o,none⟩) l h):CR 43 #[.slice (some ⟨b,o,none⟩) l.length c] w h (fun v h1=>SlN h.size 28 qc h1 v l):=by
 have hs:=((sS g).aS hA);have hnil:([]:List Rat).length=0:=rfl;refine go Tryz.func43 [(0,qS (some ⟨b,o,none⟩) l.length c)] rfl (aa hs [.v 2 (sZ)] (af (aa hs [.m 3 0,.v 4 qF] (aj (cK (aE (Hj 5 28 5 qc ([]:List Rat) hs (fun b1 w2 h3 hs=>lL hs [.m 6 0] (H6 7 0 28 5 ((([]:List Rat)).length) (sB b1) ([]:List Rat) qc 0 (some ⟨b,o,none⟩) l c 56 (.agg #[qF,uV 0,eS,uV 0,eS]) hs hs.f.1 oM (fun A6 c7 w8 h9 hs=>lL hs [.m 2 7] (lN (kX ?_))))))))))));obtain ⟨hq,bq,spq,hs,hbq,hcq⟩:=hs.pubn 0 (A:=A6) (c:=c7) (ty:=28) (sz:=5) (l:=([]:List Rat)++l) (f:=qc) (by simpa using hpos);subst hbq;exact hs.ret [] (qS (sB bq) l.length c7) (⟨bq,_,spq,rfl,hcq,hs.f.1⟩)
theorem vT (A:Option Addr)(n c:Nat)(l:List Rat)(hn:l.length=n)(hpos:0<n)(hl:n≤1000000)(w:World)(h:Hp)(g:G w h)(hA:Sq A l h):CR 43 #[.slice A n c] w h (fun v h1=>SlN h.size 28 qc h1 v l):=by
 subst hn;have e:=hA.ok hpos;rw[e] at hA ⊢
 exact xJ _ _ c l hpos hl w h g hA
theorem nk  (a b:Nat→Rat)(n:Nat)(hn4:n≤5)(A:Option Addr)(cA:Nat)(D:Option Addr)(cD:Nat)(k:Rat)(K1 K2 K3:Nat)(hK1:∀ i,i<n→LQ K1 (a i))(hK2:∀ i,i<n→LQ K2 (b i))(hK3:LQ K3 k)(hKb:K1+K2+K3+1≤100000000)(w:World)(h:Hp)(g:G w h)(hA:Sq A (aY n a) h)(hD:Sq D (aY n b) h)(tb:Tab h):CR 42 #[.slice A ((aY n a).length) cA,.slice D ((aY n b).length) cD,qv k] w h (fun v h1=>∃ A c,v=.slice A (aY n fun i=>a i+b i*k).length c∧(aY n fun i=>a i+b i*k).length≤c∧Sq A (aY n fun i=>a i+b i*k) h1):=by
 have hs:=((((sS g).aS hA).aS hD).aB tb);have hva:=bI n a;have hvb:=bI n b;refine go Tryz.func42 [(0,qS A ((aY n a).length) cA),(1,qS D ((aY n b).length) cD),(2,qv k)] rfl (aE (lA 5 28 (qc k) hs (fun b1 w2 h3 hs=>lL hs [.v 6 (sZ)] (aT (lL hs [.m 9 0,.v 10 (nV ((aY n a).length))] (lK 11 28 ((aY n a).length) 5 56 (.agg #[qF,uV 0,eS,uV 0,eS]) qc 0 hs (fun b4 w5 h6 hs=>?_)))))));have hl7:(List.replicate ((aY n a).length) 0).length=((aY n a).length):=by simp
 refine lL hs [.m 7 11] (af (aa hs [.m 12 7,.v 13 (nV ((aY n a).length)),.v 14 (iV 0)] (bj ?_)));refine bx _ (CG.loop (fun μ_ Γ w_=>∃ (i:Nat) (L:List Rat) (h_:Hp),μ_=n-i∧Γ=[(0,qS A ((aY n a).length) cA),(1,qS D ((aY n b).length) cD),(5,pB b1),(6,sZ),(7,qS (sB b4) ((aY n a).length) ((aY n a).length)),(13,nV ((aY n a).length)),(14,nV i)]∧SS w h w_ h_ [⟨b4,28,(L).flatMap qc⟩,⟨b1,28,qc k⟩] [] [fun h_=>Tab h_,Sq D (aY n b),Sq A (aY n a)]∧i≤n∧L.length=((aY n a).length)∧(∀ j,L.getD j 0=if j<i then (fun i_=>a i_+b i_*k) j else 0)) _ ⟨0,List.replicate ((aY n a).length) (0:Rat),h6,rfl,rfl,hs.to _ _,Nat.zero_le _,(by simp),(fun j=>by rw[eD,if_neg (Nat.not_lt_zero j)])⟩ ?_);rintro _ _ w8 ⟨i,L,h9,hm10,rfl,hs,hi,hLl,hLv⟩;refine aE ?_;cases za:(decide ((i:Int)<((((aY n a).length):Nat):Int)))
 ·
  have zc:=oF za;refine lB 15 za (af (cM (CG.exit ?_)))
  show CG _ _ _ _ _ _ _ _
  refine aE ?_;have hin:i=n:=by omega
  have hLe:L=aY n (fun i=>a i+b i*k):=vu (hLl.trans oM) (fun j=>by rw[hLv j,hin]);obtain ⟨_,hs,sg13,lo14,bc15⟩:=hs.pub 0;replace hs:=(hs.to [⟨b1,28,qc k⟩] []).aS (SlO.of_flat (sz:=5) (f:=qc) (d:=0) (b:=b4) (o:=0) (l:=L) (fun _=>rfl) sg13);replace hs:=hs.aS (show Sq (sB b4) (aY n (fun i=>a i+b i*k)) _ from by rw[←hLe];exact hs.f.1);exact lL hs [.m 32 7,.m 6 32] (ae hs [] (qS (sB b4) ((aY n a).length) ((aY n a).length)) (⟨(sB b4),((aY n a).length),Ch (by rw[bI,bI]),(by rw[bI,bI];exact nR _),hs.f.1⟩))
 have zc:=oT za;refine lB 15 za (af (bS (cK (cQ (kZ (aa hs [.m 16 14,.m 8 16] (lN (cR 13 [] mixed hs aq ?_))))))));refine eV 0 17 (qS (sB b4) ((aY n a).length) ((aY n a).length)) (eV 1 18 (nV i) (eV 2 19 (qS A ((aY n a).length) cA) (eV 3 20 (nV i) (eX 4 21 A ((aY n a).length) cA 5 (i:Nat) i ((hs.f.r.1).ok oM) (eH 5 22 (qv ((aY n a).getD i 0)) hs ((hs.f.r.1).el i oM) (eV 6 23 (qS D ((aY n b).length) cD) (eV 7 24 (nV i) (eX 8 25 D ((aY n b).length) cD 5 (i:Nat) i ((hs.f.2.1).ok oM) (eH 9 26 (qv ((aY n b).getD i 0)) hs ((hs.f.2.1).el i oM) (eO 10 27 [(1,0,5)] (qv k) hs ?_))))))))));have zb:=LQ.mul (show LQ K2 ((aY n b).getD i 0) from by rw[dY b oM];exact hK2 i oM) hK3;refine ak 11 28 hs (fun _ _ hs=>iO ((aY n b).getD i 0) k (LQ.mono (show LQ K2 ((aY n b).getD i 0) from by rw[dY b oM];exact hK2 i oM) oM) (LQ.mono hK3 oM) _ _ hs.g hs.f.1) (fun _ _ hs=>?_);have hq20:=LQ.add (show LQ K1 ((aY n a).getD i 0) from by rw[dY a oM];exact hK1 i oM) zb;refine ak 12 29 hs (fun _ _ hs=>jI ((aY n a).getD i 0) (((aY n b).getD i 0)*k) (LQ.mono (show LQ K1 ((aY n a).getD i 0) from by rw[dY a oM];exact hK1 i oM) oM) (LQ.mono zb oM) _ _ hs.g hs.f.1) (fun _ _ hs=>bM hs (fun _ ze hs=>tX 13 30 (sB b4) ((aY n a).length) ((aY n a).length) 5 (i:Nat) i rfl (tW 14 0 L qc 5 i (((aY n a).getD i 0)+(((aY n b).getD i 0)*k)) hs oM (fun _ hs=>?_))));have zd:((L).set i (((aY n a).getD i 0)+(((aY n b).getD i 0)*k))).length=((aY n a).length):=by rw[List.length_set];exact hLl
 replace hs:=hs.to [⟨b4,28,((L).set i (((aY n a).getD i 0)+(((aY n b).getD i 0)*k))).flatMap qc⟩,⟨b1,28,qc k⟩] [];refine tN (kQ (bB 31 ((i:Nat)+1) (i+1) ?_));refine lL hs [.m 14 31] (lD ?_);intro a_ ka;refine ⟨_,_,?_,⟨i+1,(L).set i (((aY n a).getD i 0)+(((aY n b).getD i 0)*k)),ze,rfl,rfl,hs.to _ _,oM,zd,(qY hLl hLv oM (by rw[dY a oM,dY b oM]))⟩,ka.to _ kR⟩
 omega
abbrev TV:=Value × Value × Value
def uR:TV:=(.slice none 0 0,.slice none 0 0,.slice none 0 0)
def th (t:TV):List Value:=[t.1,t.2.1,t.2.2]
def TR1 (n:Nat)(s:Cst)(h:Hp)(t:TV):Prop:=(∃ A c,t.1=.slice A (aY n s.x).length c∧SlO 5 qc 0 h A (aY n s.x))∧(∃ A c,t.2.1=.slice A (aY n s.r).length c∧SlO 5 qc 0 h A (aY n s.r))∧∃ A c,t.2.2=.slice A (aY n s.w).length c∧SlO 5 qc 0 h A (aY n s.w)
theorem TR1.gw {n:Nat}{s:Cst}{h h':Hp}{t:TV}(x:TR1 n s h t)(u:Gw h h'):TR1 n s h' t:=by
 obtain ⟨⟨A,c,e,p⟩,⟨B,d,f,q⟩,C,g,i,r⟩:=x;exact ⟨⟨A,c,e,p.gw u⟩,⟨B,d,f,q.gw u⟩,C,g,i,r.gw u⟩
structure CTr (n:Nat) (A:Nat→Nat→Rat) (b x:Nat→Rat) (h:Hp) (al:List TV):Prop where
  at_:∀ i,i<al.length→TR1 n (cg n A b x i) h (al.getD i uR)
theorem CTr.gw {n:Nat}{A:Nat→Nat→Rat}{b x:Nat→Rat}{h h':Hp}{al:List TV}(y:CTr n A b x h al)(u:Gw h h'):CTr n A b x h' al:=⟨fun i hi=>(y.at_ i hi).gw u⟩
theorem CTr.nil {n:Nat}{A:Nat→Nat→Rat}{b x:Nat→Rat}{h:Hp}:CTr n A b x h []:=⟨fun i hi=>absurd hi (Nat.not_lt_zero i)⟩
theorem CTr.snoc {n:Nat}{A:Nat→Nat→Rat}{b x:Nat→Rat}{h:Hp}{al:List TV}{t:TV}(y:CTr n A b x h al)(z:TR1 n (cg n A b x al.length) h t):CTr n A b x h (al++[t]):=⟨fun i hi=>by
 rw[List.length_append,List.length_singleton] at hi
 rw[cG]
 by_cases e:i<al.length
 ·rw[if_pos e];exact y.at_ i e
 ·rw[if_neg e,if_pos oM,show i=al.length by omega];exact z⟩
open Classical in
noncomputable def EJ (W:List (List Rat)) (bl xl:List Rat):Int:=if vU W∧bl.length=W.length∧xl.length=W.length then 10 else 5
theorem vv {W:List (List Rat)}{bl xl:List Rat}(h:vU W∧bl.length=W.length∧xl.length=W.length):EJ W bl xl=10:=if_pos h
theorem vL {W:List (List Rat)}{bl xl:List Rat}(h:¬vU W∨(bl.length≠W.length∨xl.length≠W.length)):EJ W bl xl=5:=if_neg (fun x=>by
 rcases h with h|h|h
 ·exact h x.1
 ·exact h x.2.1
 ·exact h x.2.2)
theorem G1 (A:Option Addr)(cap:Nat)(us:List Value)(W:List (List Rat))(hl:W.length≤1000)(hls:∀ i,i<W.length→(W.getD i []).length≤1000)(hS:vU W)(w:World)(h:Hp)(g:G w h)(hA:Sv A us h)(hU:QVs h us W):CV 39 #[.slice A us.length cap] w h (.bool true):=by
 have x:=m8 A cap us W hl hls w h g hA hU;rw[F0 hS] at x
 exact x
theorem qD (A:Option Addr)(c:Nat)(l:List Rat)(n:Nat)(hn:l.length=n)(hpos:0<n)(hl:n≤1000000)(w:World)(h:Hp)(g:G w h)(hA:Sq A l h):CR 43 #[.slice A l.length c] w h (fun v h1=>∃ B d,v=.slice B l.length d∧Sq B l h1):=by
 refine (vT A l.length c l rfl oM oM w h g hA).mono ?_;rintro _ w' ⟨_,h',rfl,u,x⟩;obtain ⟨B,d,e,_,s⟩:=x.slv (d:=0) (sz:=5) (fun _=>rfl);exact ⟨_,h',rfl,u,B,d,e,s⟩
section
variable {n:Nat} {A:Nat→Nat→Rat} {b x:Nat→Rat} {t:Nat}
theorem GS (h:(dt n (cg n A b x t).r (cg n A b x t).r).num.sign=0):dt n (cg n A b x t).r (cg n A b x t).r=0:=Rat.num_eq_zero.1 (Int.sign_eq_zero_iff_zero.1 h)
theorem B4 (h:(dt n (cg n A b x t).r (cg n A b x t).r).num.sign≠0):dt n (cg n A b x t).r (cg n A b x t).r≠0:=fun e=>h (by rw[e];rfl)
theorem FD (h:(dt n (cg n A b x t).w (mv n A (cg n A b x t).w)).num.sign≤0):¬0<(dt n (cg n A b x t).w (mv n A (cg n A b x t).w)).num:=fun e=>by rw[Int.sign_eq_one_of_pos e] at h;omega
theorem EW (h:(dt n (cg n A b x t).r (cg n A b x t).r).num.sign≠0)(h2:¬(dt n (cg n A b x t).w (mv n A (cg n A b x t).w)).num.sign≤0):dt n (cg n A b x t).r (cg n A b x t).r≠0∧0<(dt n (cg n A b x t).w (mv n A (cg n A b x t).w)).num:=⟨B4 h,by
 rcases Int.lt_trichotomy (dt n (cg n A b x t).w (mv n A (cg n A b x t).w)).num 0 with e|e|e
 ·rw[Int.sign_eq_neg_one_of_neg e] at h2;omega
 ·rw[e] at h2;exact absurd kD h2
 ·exact e⟩
theorem Ew (h:∀ i,i<t→dt n (cg n A b x i).r (cg n A b x i).r≠0∧0<(dt n (cg n A b x i).w (mv n A (cg n A b x i).w)).num)(h2:dt n (cg n A b x t).r (cg n A b x t).r≠0∧0<(dt n (cg n A b x t).w (mv n A (cg n A b x t).w)).num):∀ i,i<t+1→dt n (cg n A b x i).r (cg n A b x i).r≠0∧0<(dt n (cg n A b x i).w (mv n A (cg n A b x i).w)).num:=fun i hi=>by
 by_cases e:i=t
 ·rw[e];exact h2
 ·exact h i oM
end
theorem C3 (A:Option Addr)(cap:Nat)(us:List Value)(W:List (List Rat))(hl:W.length≤1000)(hls:∀ i,i<W.length→(W.getD i []).length≤1000)(b x:Nat→Rat)(n:Nat)(hn4:n≤5)(D:Option Addr)(cD:Nat)(X:Option Addr)(cX:Nat)(hS:SymP W)(hn:W.length=n)(hK1:∀ i j,LQ 3 ((W.getD i []).getD j 0))(hb:∀ i,i<n→LQ 100000 (b i))(hx:∀ i,i<n→LQ 100000 (x i))(hB:∀ t,t≤n→CgB n (mA W) b x t)(w:World)(h:Hp)(g:G w h)(hA:Sv A us h)(hU:QVs h us W)(hD:Sq D (aY n b) h)(hX:Sq X (aY n x) h)(tb:Tab h):CR 10 #[.slice A us.length cap,.slice D ((aY n b).length) cD,.slice X ((aY n x).length) cX] w h (fun v h1=>∃ (t:Nat) (e:Int) (A:Option Addr) (c:Nat) (al:List TV),CjEnd n (mA W) b x t e∧v=.tuple #[.slice A al.length c,iV e]∧SlO 3 th uR h1 A al∧CTr n (mA W) b x h1 al∧al.length=(if e=0 then t+1 else 0)):=by
 have hs:=((((((sS g).aS hA).aQ hU).aS hD).aS hX).aB tb);have hlu:=(hs.f.r.2.1).len;have hvb:=bI n b;have hvx:=bI n x;have hSy:∀ i,i<n→∀ j,j<n→mA W i j=mA W j i:=by rw[←hn];exact hS.all
 have hB0:=hB 0 (Nat.zero_le _);have hn0:0<n:=by have:=hS.1.1.1;omega
 refine go Tryz.func10 [(0,qS A us.length cap),(1,qS D ((aY n b).length) cD),(2,qS X ((aY n x).length) cX)] rfl (aa hs [.v 6 (sZ),.v 7 (iV 0)] (af (aa hs [.m 25 0] (ag 26 hs (G1 A cap us W hl hls hS.1 _ _ hs.g hs.f.q.1 hs.f.r.2.1) (fun w1 h2 hs=>lL hs [.v 27 qF,.m 28 27,.m 29 1,.v 30 (nV ((aY n b).length)),.m 31 0,.v 32 (nV us.length)] ?_)))));have hb3:((((aY n b).length:Nat):Int) != (us.length:Int))=false:=rP oM;have phb3:=aI hb3;refine lB 33 hb3 (lL hs [.v 34 qF,.m 35 34,.m 36 2,.v 37 (nV ((aY n x).length)),.m 38 0,.v 39 (nV us.length)] ?_);have hb4:((((aY n x).length:Nat):Int) != (us.length:Int))=false:=rP oM;have phb4:=aI hb4;refine lB 40 hb4 (lL hs [.v 41 qF] (aj (cK (cQ (aa hs [.m 42 0] (ag 43 hs (BU A cap us W hl hls (fun i j=>(hK1 i j).mono oM) hS _ _ hs.g hs.f.q.1 hs.f.r.2.1) (fun w5 h6 hs=>lL hs [.v 44 qF] (aj (cK (aa hs [.m 46 0,.m 47 2] (lC 48 hs (pq A cap us W hl hls x n hn4 X cX hS.1.1 hn (by rw[←hn];exact hS.1.2.symm) 3 100000 hK1 hx kD _ _ hs.g hs.f.q.1 hs.f.r.2.1 hs.f.2.1 hs.f.1) ?_)))))))))));rintro _ w7 h8 hs ⟨Ay,cy,rfl,hcy,hAy⟩;replace hs:=hs.aS hAy;refine lL hs [.m 45 48,.v 49 (qS Ay ((aY n (mv n (mA W) x)).length) cy),.v 50 (iV 0),.m 8 49,.m 9 50] (aT (lL hs [.m 51 1,.m 52 8] (ag 53 hs (oW (-1) oM oM _ _ hs.g) (fun w9 _ hs=>lC 54 hs (nk b (mv n (mA W) x) n oM D cD Ay cy ((-1:Int):Rat) 100000 100000 1 hb (hB0.ax) (LQ.int oM oM) oM _ _ hs.g hs.f.r.2.1 hs.f.1 hs.f.2.1) ?_))));rintro _ _ _ hs ⟨Xr,cr,rfl,hcr,hXr⟩;replace hs:=hs.aS hXr;refine lL hs [.m 8 54] (aT (lL hs [.m 55 2] (lC 56 hs (qD X cX (aY n x) n (bI n _) oM oM _ _ hs.g hs.f.r.2.1) ?_)));rintro _ _ _ hs ⟨K1,ck1,rfl,hK_1⟩;replace hs:=hs.aS hK_1;refine lL hs [.m 57 8,.m 58 8] (lC 59 hs (qD Xr cr (aY n (cg n (mA W) b x 0).r) n (bI n _) oM oM _ _ hs.g hs.f.2.1) ?_);rintro _ _ _ hs ⟨K2,ck2,rfl,hK_2⟩;replace hs:=hs.aS hK_2;refine lL hs [.v 60 (.agg #[qS K1 ((aY n x).length) ck1,qS Xr ((aY n (cg n (mA W) b x 0).r).length) cr,qS K2 ((aY n (cg n (mA W) b x 0).r).length) ck2])] (Hj 61 109 3 th ([((qS K1 ((aY n x).length) ck1,qS Xr ((aY n (cg n (mA W) b x 0).r).length) cr,qS K2 ((aY n (cg n (mA W) b x 0).r).length) ck2):TV)]:List TV) hs (fun zj _ zk hs=>lL hs [.m 10 61] (lN (bx [(0,qS A us.length cap),(1,qS D ((aY n b).length) cD),(6,sZ),(7,iV 0),(10,qS (sB zj) ((([((qS K1 ((aY n x).length) ck1,qS Xr ((aY n (cg n (mA W) b x 0).r).length) cr,qS K2 ((aY n (cg n (mA W) b x 0).r).length) ck2):TV)]:List TV)).length) ((([((qS K1 ((aY n x).length) ck1,qS Xr ((aY n (cg n (mA W) b x 0).r).length) cr,qS K2 ((aY n (cg n (mA W) b x 0).r).length) ck2):TV)]:List TV)).length))] ?_))));refine kZ ?_;replace hs:=hs.add (K:=fun h_=>CTr n (mA W) b x h_ ([((qS K1 ((aY n x).length) ck1,qS Xr ((aY n (cg n (mA W) b x 0).r).length) cr,qS K2 ((aY n (cg n (mA W) b x 0).r).length) ck2):TV)]:List TV)) ((CTr.nil.snoc ⟨⟨_,_,rfl,hs.f.2.1⟩,⟨_,_,rfl,hs.f.r.1⟩,⟨_,_,rfl,hs.f.1⟩⟩));replace hs:=hs.aS hs.f.2.1;replace hs:=hs.aS hs.f.q.1;replace hs:=hs.aS hs.f.q.1;refine bx _ (CG.loop (fun μ_ Γ w_=>∃ (t:Nat) (saA:Option Addr) (sac:Nat) (al:List TV) (Ax:Option Addr) (cx:Nat) (Ar:Option Addr) (cr_:Nat) (Aw:Option Addr) (cw:Nat) (h_:Hp),μ_=n+1-t∧Γ=[(0,qS A us.length cap),(1,qS D ((aY n b).length) cD),(10,qS saA ((al).length) sac)]∧SS w h w_ h_ [] [⟨109,3,saA,sac,(al).length,(al).flatMap th⟩] [Sq Ax (aY n (cg n (mA W) b x t).x),Sq Ar (aY n (cg n (mA W) b x t).r),Sq Aw (aY n (cg n (mA W) b x t).w),fun h_=>CTr n (mA W) b x h_ al,Sq K2 (aY n (cg n (mA W) b x 0).r),Sq K1 (aY n x),Sq Xr (aY n (cg n (mA W) b x 0).r),Sq Ay (aY n (mv n (mA W) x)),fun h_=>Tab h_,Sq X (aY n x),Sq D (aY n b),Qu us W,Sv A us]∧al.length=t+1∧al.getD t uR=(qS Ax (aY n (cg n (mA W) b x t).x).length cx,qS Ar (aY n (cg n (mA W) b x t).r).length cr_,qS Aw (aY n (cg n (mA W) b x t).w).length cw)∧(∀ i,i<t→dt n (cg n (mA W) b x i).r (cg n (mA W) b x i).r≠0∧0<(dt n (cg n (mA W) b x i).w (mv n (mA W) (cg n (mA W) b x i).w)).num)) _ ⟨0,sB zj,(([((qS K1 ((aY n x).length) ck1,qS Xr ((aY n (cg n (mA W) b x 0).r).length) cr,qS K2 ((aY n (cg n (mA W) b x 0).r).length) ck2):TV)]:List TV)).length,([((qS K1 ((aY n x).length) ck1,qS Xr ((aY n (cg n (mA W) b x 0).r).length) cr,qS K2 ((aY n (cg n (mA W) b x 0).r).length) ck2):TV)]:List TV),K1,ck1,Xr,cr,K2,ck2,zk,rfl,rfl,hs.to _ _,rfl,rfl,(fun i hi=>absurd hi (Nat.not_lt_zero i))⟩ ?_);rintro _ _ _ ⟨t,saA,sac,al,Ax,cx,Ar,cr_,Aw,cw,_,hm24,rfl,hs,ht,hcur,hg⟩;have htn:=qV hSy (fun i hi=>pZ (hg i hi));have hBt:=hB t htn;refine kZ (aa hs [.m 62 10,.m 63 10,.v 64 (nV ((al).length))] (bB 65 (((al).length:Nat)-1) t ?_));obtain ⟨za,zf⟩:=hs.rowA 0 (A:=saA) (c:=sac) (m:=(al).length) (ty:=109) (sz:=3) (cs:=(al).flatMap th) oM;subst zf;refine lX 66 (sB za) ((al).length) sac 3 (t:Nat) t rfl (H0 (ty:=109) (sz:=3) (c:=sac) (m:=(al).length) (b:=za) (cs:=(al).flatMap th) 67 0 (.agg #[qS Ax ((aY n (cg n (mA W) b x t).x).length) cx,qS Ar ((aY n (cg n (mA W) b x t).r).length) cr_,qS Aw ((aY n (cg n (mA W) b x t).w).length) cw]) ([qS Ax ((aY n (cg n (mA W) b x t).x).length) cx,qS Ar ((aY n (cg n (mA W) b x t).r).length) cr_,qS Aw ((aY n (cg n (mA W) b x t).w).length) cw]) hs ((DI (f:=th) (sz:=3) (fun _=>rfl) uR al t oM).trans (congrArg th hcur)) (lA 11 109 ([sZ,sZ,sZ]) hs (fun zb _ _ hs=>lP 0 0 ([qS Ax ((aY n (cg n (mA W) b x t).x).length) cx,qS Ar ((aY n (cg n (mA W) b x t).r).length) cr_,qS Aw ((aY n (cg n (mA W) b x t).w).length) cw]) hs (fun _ hs=>aT (lL hs [.v 69 (qP zb 1),.o 70 (qS Ar ((aY n (cg n (mA W) b x t).r).length) cr_) 0 1 1,.v 71 (qP zb 1),.o 72 (qS Ar ((aY n (cg n (mA W) b x t).r).length) cr_) 0 1 1] (ag 73 hs (oZ (cg n (mA W) b x t).r (cg n (mA W) b x t).r n Ar cr_ Ar cr_ 100000 100000 oM kD hBt.r hBt.r _ _ hs.g hs.f.2.1 hs.f.2.1 hs.f.q.q.1) (fun _ _ hs=>lL hs [.m 68 73,.v 74 (qv (dt n (cg n (mA W) b x t).r (cg n (mA W) b x t).r)),.v 75 qT] (lA 12 28 ([qF,uV 0,eS,uV 0,eS]) hs (fun zl _ _ hs=>lP 0 0 (qc (dt n (cg n (mA W) b x t).r (cg n (mA W) b x t).r)) hs (fun _ hs=>lL hs [.m 13 75] (af (aa hs [.o 76 (qv (dt n (cg n (mA W) b x t).r (cg n (mA W) b x t).r)) 0 0 5] (ag 77 hs (d6 (dt n (cg n (mA W) b x t).r (cg n (mA W) b x t).r) (hBt.rr.mono oM) _ _ hs.g) (fun _ _ hs=>?_))))))))))))));cases zd:(((dt n (cg n (mA W) b x t).r (cg n (mA W) b x t).r).num.sign:Int) == (0:Int))
 ·
  have zg:=ah zd;refine lB 78 zd (aj (cK (aa hs [.m 81 0,.v 82 (qP zb 2),.o 83 (qS Aw ((aY n (cg n (mA W) b x t).w).length) cw) 1 2 1] (ag 84 hs (C7 A cap us W hl hls (cg n (mA W) b x t).w n oM Aw cw hS hn 3 100000 100000 hK1 hBt.w hBt.aw kD kD _ _ hs.g hs.f.q.q.q.1 hs.f.q.q.r.2.1 hs.f.r.1 hs.f.q.q.1) (fun _ _ hs=>lL hs [.m 80 84,.v 85 (qv (dt n (cg n (mA W) b x t).w (mv n (mA W) (cg n (mA W) b x t).w))),.v 86 (iV 0)] (lA 14 28 ([qF,uV 0,eS,uV 0,eS]) hs (fun b42 _ _ hs=>lP 0 0 (qc (dt n (cg n (mA W) b x t).w (mv n (mA W) (cg n (mA W) b x t).w))) hs (fun _ hs=>lL hs [.m 15 86] (af (aa hs [.o 87 (qv (dt n (cg n (mA W) b x t).w (mv n (mA W) (cg n (mA W) b x t).w))) 0 0 5] (ag 88 hs (d6 (dt n (cg n (mA W) b x t).w (mv n (mA W) (cg n (mA W) b x t).w)) (hBt.ww.mono oM) _ _ hs.g) (fun _ _ hs=>?_))))))))))));cases ze:(decide (((dt n (cg n (mA W) b x t).w (mv n (mA W) (cg n (mA W) b x t).w)).num.sign:Int)≤(0:Int)))
  ·
   have zi:=oF ze;refine lB 89 ze (aj (cK (aa hs [.o 91 (qv (dt n (cg n (mA W) b x t).r (cg n (mA W) b x t).r)) 1 0 5,.o 92 (qv (dt n (cg n (mA W) b x t).w (mv n (mA W) (cg n (mA W) b x t).w))) 0 0 5] ?_)));have hgo:=EW (n:=n) (A:=(mA W)) (b:=b) (x:=x) (t:=t) oM oM;have hg1:∀ i,i<t+1→_:=Ew hg hgo;have htn1:=qV hSy (fun i hi=>pZ (hg1 i hi));have hB1:=hB (t+1) htn1;refine ag 93 hs (kz (dt n (cg n (mA W) b x t).r (cg n (mA W) b x t).r) (dt n (cg n (mA W) b x t).w (mv n (mA W) (cg n (mA W) b x t).w)) (hBt.rr.mono oM) (hBt.ww.mono oM) (by have:=Int.sign_eq_zero_iff_zero (a:=(dt n (cg n (mA W) b x t).w (mv n (mA W) (cg n (mA W) b x t).w)).num);omega) _ _ hs.g hs.f.q.q.1) (fun _ _ hs=>lL hs [.m 90 93,.v 94 (qv (nw n (mA W) (cg n (mA W) b x t))),.v 95 qT] (lA 16 28 ([qF,uV 0,eS,uV 0,eS]) hs (fun zm _ _ hs=>lP 0 0 (qc (nw n (mA W) (cg n (mA W) b x t))) hs (fun _ hs=>lL hs [.m 17 95] (lN (bx [(0,qS A us.length cap),(1,qS D ((aY n b).length) cD),(10,qS (sB za) ((al).length) sac),(11,pB zb),(12,pB zl),(16,pB zm)] ?_))))));refine aa hs [.v 96 (pB zb),.o 97 (qS Ax ((aY n (cg n (mA W) b x t).x).length) cx) 3 0 1,.v 98 (qP zb 2),.o 99 (qS Aw ((aY n (cg n (mA W) b x t).w).length) cw) 3 2 1,.o 100 (qv (nw n (mA W) (cg n (mA W) b x t))) 0 0 5] (lC 101 hs (nk (cg n (mA W) b x t).x (cg n (mA W) b x t).w n oM Ax cx Aw cw (nw n (mA W) (cg n (mA W) b x t)) 100000 100000 100000 hBt.xx hBt.w hBt.k oM _ _ hs.g hs.f.1 hs.f.r.1 hs.f.q.q.1) ?_);rintro _ _ _ hs ⟨Xn,cn,rfl,hcn,hXn⟩;replace hs:=hs.aS hXn;refine lL hs [.v 102 (.agg #[qS Xn ((aY n (cg n (mA W) b x (t+1)).x).length) cn,sZ,sZ])] (lA 18 109 ([sZ,sZ,sZ]) hs (fun zc _ _ hs=>lP 0 0 ([qS Xn ((aY n (cg n (mA W) b x (t+1)).x).length) cn,sZ,sZ]) hs (fun _ hs=>aT (lL hs [.m 104 0,.v 105 (pB zc),.o 106 (qS Xn ((aY n (cg n (mA W) b x (t+1)).x).length) cn) 0 0 1] (lC 107 hs (pq A cap us W hl hls ((cg n (mA W) b x (t+1)).x) n hn4 Xn cn hS.1.1 hn (by rw[←hn];exact hS.1.2.symm) 3 100000 hK1 hB1.xx kD _ _ hs.g hs.f.q.q.q.2.1 hs.f.q.q.q.1 hs.f.1 hs.f.q.q.2.1) ?_)))));rintro _ _ _ hs ⟨Az,cz,rfl,hcz,hAz⟩;replace hs:=hs.aS hAz;refine lL hs [.m 103 107,.v 108 (qS Az ((aY n (mv n (mA W) (cg n (mA W) b x (t+1)).x)).length) cz),.v 109 (iV 0),.m 19 108,.m 20 109] (aT (lL hs [.m 110 1,.m 111 19] (ag 112 hs (oW (-1) oM oM _ _ hs.g) (fun _ _ hs=>lC 113 hs (nk b (mv n (mA W) (cg n (mA W) b x (t+1)).x) n oM D cD Az cz ((-1:Int):Rat) 100000 100000 1 hb hB1.ax (LQ.int oM oM) oM _ _ hs.g hs.f.q.q.q.1 hs.f.1 hs.f.q.q.r.1) ?_))));rintro _ _ _ hs ⟨Xm,cm,rfl,hcm,hXm⟩;replace hs:=hs.aS hXm;refine lL hs [.v 114 (qP zc 1)] (lP 0 1 ([qS Xm ((aY n (cg n (mA W) b x (t+1)).r).length) cm]) hs (fun _ hs=>aT (lL hs [.v 116 (qP zc 1),.o 117 (qS Xm ((aY n (cg n (mA W) b x (t+1)).r).length) cm) 0 1 1,.v 118 (qP zc 1),.o 119 (qS Xm ((aY n (cg n (mA W) b x (t+1)).r).length) cm) 0 1 1] (ag 120 hs (oZ (cg n (mA W) b x (t+1)).r (cg n (mA W) b x (t+1)).r n Xm cm Xm cm 100000 100000 oM kD hB1.r hB1.r _ _ hs.g hs.f.1 hs.f.1 hs.f.q.q.r.2.1) (fun _ _ hs=>lL hs [.m 115 120,.v 121 (qv (dt n (cg n (mA W) b x (t+1)).r (cg n (mA W) b x (t+1)).r)),.v 122 qT] (lA 21 28 ([qF,uV 0,eS,uV 0,eS]) hs (fun b70 _ _ hs=>lP 0 0 (qc (dt n (cg n (mA W) b x (t+1)).r (cg n (mA W) b x (t+1)).r)) hs (fun _ hs=>lL hs [.m 22 122] (aT (lL hs [.o 124 (qv (dt n (cg n (mA W) b x (t+1)).r (cg n (mA W) b x (t+1)).r)) 0 0 5,.o 125 (qv (dt n (cg n (mA W) b x t).r (cg n (mA W) b x t).r)) 4 0 5] (ag 126 hs (kz (dt n (cg n (mA W) b x (t+1)).r (cg n (mA W) b x (t+1)).r) (dt n (cg n (mA W) b x t).r (cg n (mA W) b x t).r) (hB1.rr.mono oM) (hBt.rr.mono oM) (fun e_=>hgo.1 (Rat.num_eq_zero.1 e_)) _ _ hs.g hs.f.q.q.r.2.1) (fun _ _ hs=>lL hs [.m 123 126,.v 127 (qv ((dt n (cg n (mA W) b x (t+1)).r (cg n (mA W) b x (t+1)).r)/(dt n (cg n (mA W) b x t).r (cg n (mA W) b x t).r))),.v 128 qT] (lA 23 28 ([qF,uV 0,eS,uV 0,eS]) hs (fun zn _ _ hs=>lP 0 0 (qc ((dt n (cg n (mA W) b x (t+1)).r (cg n (mA W) b x (t+1)).r)/(dt n (cg n (mA W) b x t).r (cg n (mA W) b x t).r))) hs (fun _ hs=>lL hs [.m 24 128] (lN (bx [(0,qS A us.length cap),(1,qS D ((aY n b).length) cD),(10,qS (sB za) ((al).length) sac),(11,pB zb),(18,pB zc),(23,pB zn)] ?_)))))))))))))))));refine aa hs [.v 129 (qP zc 1),.o 130 (qS Xm ((aY n (cg n (mA W) b x (t+1)).r).length) cm) 2 1 1,.v 131 (qP zb 2),.o 132 (qS Aw ((aY n (cg n (mA W) b x t).w).length) cw) 6 2 1,.o 133 (qv ((dt n (cg n (mA W) b x (t+1)).r (cg n (mA W) b x (t+1)).r)/(dt n (cg n (mA W) b x t).r (cg n (mA W) b x t).r))) 0 0 5] (lC 134 hs (nk (cg n (mA W) b x (t+1)).r (cg n (mA W) b x t).w n oM Xm cm Aw cw ((dt n (cg n (mA W) b x (t+1)).r (cg n (mA W) b x (t+1)).r)/(dt n (cg n (mA W) b x t).r (cg n (mA W) b x t).r)) 100000 100000 200000 hB1.r hBt.w (hB1.rr.div hBt.rr) oM _ _ hs.g hs.f.1 hs.f.q.2.1 hs.f.q.q.r.2.1) ?_);rintro _ _ _ hs ⟨Xv,cv,rfl,hcv,hXv⟩;replace hs:=hs.aS hXv;refine lL hs [.v 135 (qP zc 2)] (lP 2 2 ([qS Xv ((aY n (cg n (mA W) b x (t+1)).w).length) cv]) hs (fun _ hs=>lN (kQ (lL hs [.m 136 10,.o 137 (.agg #[qS Xn ((aY n (cg n (mA W) b x (t+1)).x).length) cn,qS Xm ((aY n (cg n (mA W) b x (t+1)).r).length) cm,qS Xv ((aY n (cg n (mA W) b x (t+1)).w).length) cv]) 2 0 3] (lR 138 109 1 ([qS Xn ((aY n (cg n (mA W) b x (t+1)).x).length) cn,qS Xm ((aY n (cg n (mA W) b x (t+1)).r).length) cm,qS Xv ((aY n (cg n (mA W) b x (t+1)).w).length) cv]) hs (fun zo _ _ hs=>lY 139 0 109 3 sac (sB za) al th ((qS Xn ((aY n (cg n (mA W) b x (t+1)).x).length) cn,qS Xm ((aY n (cg n (mA W) b x (t+1)).r).length) cm,qS Xv ((aY n (cg n (mA W) b x (t+1)).w).length) cv):TV) 72 zo (.agg #[sZ,sZ,sZ]) hs hs.f.1 (fun zp zq _ zs hs=>lL hs [.m 10 139] (lD ?_))))))));intro a_ ka;replace hs:=((((hs.tl.tl.tl.tl.tl.tl.tl.tl.tl.add (K:=fun h_=>CTr n (mA W) b x h_ (al++[((qS Xn ((aY n (cg n (mA W) b x (t+1)).x).length) cn,qS Xm ((aY n (cg n (mA W) b x (t+1)).r).length) cm,qS Xv ((aY n (cg n (mA W) b x (t+1)).w).length) cv):TV)])) ((hs.f.q.q.1).snoc (by rw[ht];exact ⟨⟨_,_,rfl,hs.f.q.1⟩,⟨_,_,rfl,hs.f.r.1⟩,⟨_,_,rfl,hs.f.2.1⟩⟩))).aS hs.f.2.1).aS hs.f.r.1).aS hs.f.q.1);replace hs:=hs.drop 7 0;refine ⟨_,_,?_,⟨t+1,zp,zq,al++[((qS Xn ((aY n (cg n (mA W) b x (t+1)).x).length) cn,qS Xm ((aY n (cg n (mA W) b x (t+1)).r).length) cm,qS Xv ((aY n (cg n (mA W) b x (t+1)).w).length) cv):TV)],Xn,cn,Xm,cm,Xv,cv,zs,rfl,rfl,hs.to _ _,(by rw[List.length_append,ht];rfl),(by rw[cG,if_neg oM,if_pos oM]),hg1⟩,ka.to _ kR⟩
   omega
  have zi:=oT ze;exact lB 89 ze (ao (aa hs [.v 6 (sZ),.v 7 (iV 9)] (ae hs [] (.tuple #[sZ,iV 9]) (⟨t,9,none,0,[],⟨hg,.inr ⟨rfl,B4 oM,FD oM⟩⟩,rfl,SlO.nil,CTr.nil,by rw[if_neg kD];rfl⟩))))
 have zg:=eq_of_beq zd;refine lB 78 zd (ao (aE ?_));obtain ⟨_,hs,hc100⟩:=hs.pubr 0 (A:=sB za) (c:=sac) (l:=al) (f:=th) (ty:=109) (sz:=3) uR (fun _=>rfl);exact lL hs [.m 79 10,.m 6 79,.v 7 (iV 0)] (ae hs [] (.tuple #[qS (sB za) ((al).length) sac,iV 0]) (⟨t,0,_,_,al,⟨hg,.inl ⟨rfl,GS oM⟩⟩,rfl,hs.f.1,hs.f.q.1,by rw[if_pos rfl];exact ht⟩))
theorem Cq (A:Option Addr)(cap:Nat)(us:List Value)(W:List (List Rat))(hl:W.length≤1000)(hls:∀ i,i<W.length→(W.getD i []).length≤1000)(D:Option Addr)(cD:Nat)(bl:List Rat)(X:Option Addr)(cX:Nat)(xl:List Rat)(hbl:bl.length≤1000)(hxl:xl.length≤1000)(hq:∀ i j,LQ 100000000 ((W.getD i []).getD j 0))(hE:¬SymP W∨bl.length≠W.length∨xl.length≠W.length)(w:World)(h:Hp)(g:G w h)(hA:Sv A us h)(hU:QVs h us W)(hD:Sq D bl h)(hX:Sq X xl h)(tb:Tab h):CV 10 #[.slice A us.length cap,.slice D bl.length cD,.slice X xl.length cX] w h (.tuple #[sZ,iV (EJ W bl xl)]):=by
 have hs:=((((((sS g).aS hA).aQ hU).aS hD).aS hX).aB tb);have hlu:=(hs.f.r.2.1).len;refine go Tryz.func10 [(0,qS A us.length cap),(1,qS D bl.length cD),(2,qS X xl.length cX)] rfl (aa hs [.v 6 (sZ),.v 7 (iV 0)] (af (aa hs [.m 25 0] (ag 26 hs (m8 A cap us W hl hls _ _ hs.g hs.f.q.1 hs.f.r.2.1) (fun w1 h2 hs=>?_)))));cases hb3:(BD W)
 ·
  refine lL hs [.v 27 qT,.m 28 27] (lG 29 ?_);refine lG 30 (lG 31 (lG 32 (lG 33 (lL hs [.v 34 qT,.m 35 34] (lG 36 ?_)))));exact lG 37 (lG 38 (lG 39 (lG 40 (lL hs [.v 41 qT] (ao (aa hs [.v 6 (sZ),.v 7 (iV 5)] (ae hs [] (.tuple #[sZ,iV 5]) (by rw[vL (by first|exact .inl (mG aM)|exact .inr oM)]))))))))
 refine lL hs [.v 27 qF,.m 28 27,.m 29 1,.v 30 (nV bl.length),.m 31 0,.v 32 (nV us.length)] ?_;cases hb4:((bl.length:Int) != (us.length:Int))
 ·
  have phb4:=aI hb4;refine lB 33 hb4 (lL hs [.v 34 qF,.m 35 34,.m 36 2,.v 37 (nV xl.length),.m 38 0,.v 39 (nV us.length)] ?_);cases hb5:((xl.length:Int) != (us.length:Int))
  ·
   have phb5:=aI hb5;refine lB 40 hb5 (lL hs [.v 41 qF] (aj (cK (cQ (aa hs [.m 42 0] (ag 43 hs (FJ A cap us W hl hls hq _ _ hs.g hs.f.q.1 hs.f.r.2.1) (fun w6 h7 hs=>?_)))))));have hb8:(Bt W)=false:=uz (fun h_=>by rcases hE with e_|e_|e_;exact e_ h_;all_goals omega);rw[hb8];exact lL hs [.v 44 qT] (ao (aa hs [.v 6 (sZ),.v 7 (iV 10)] (ae hs [] (.tuple #[sZ,iV 10]) (by rw[vv ⟨B8 aM,by omega,by omega⟩]))))
  have phb5:=aJ hb5;exact lB 40 hb5 (lL hs [.v 41 qT] (ao (aa hs [.v 6 (sZ),.v 7 (iV 5)] (ae hs [] (.tuple #[sZ,iV 5]) (by rw[vL (by first|exact .inl (mG aM)|exact .inr oM)])))))
 have phb4:=aJ hb4;refine lB 33 hb4 (lL hs [.v 34 qT,.m 35 34] (lG 36 ?_));exact lG 37 (lG 38 (lG 39 (lG 40 (lL hs [.v 41 qT] (ao (aa hs [.v 6 (sZ),.v 7 (iV 5)] (ae hs [] (.tuple #[sZ,iV 5]) (by rw[vL (by first|exact .inl (mG aM)|exact .inr oM)]))))))))
def Tw (D E:Nat)(q:Rat):Prop:=∃ N:Int,N.natAbs≤E∧q*((D:Nat):Rat)=(N:Rat)
theorem Tw.zero {D E:Nat}:Tw D E 0:=⟨0,Nat.zero_le _,by rw[Rat.zero_mul];rfl⟩
structure Dfn (n:Nat) (W:List (List Rat)):Prop where
  len:W.length=n
  wd:∀ i,(W.getD i []).length≤n
  e:∀ i j,Tw 144 262144 ((W.getD i []).getD j 0)
theorem Dfn.md {n m:Nat}{W:List (List Rat)}(h:Dfn n W):MD m 18 (mA W):=⟨144,by decide,by decide,fun i _ j _=>by
 obtain ⟨N,a,b⟩:=h.e i j;exact ⟨N,a,b⟩⟩
theorem Dfn.lq {n:Nat}{W:List (List Rat)}(h:Dfn n W)(i j:Nat):LQ 3 ((W.getD i []).getD j 0):=by
 obtain ⟨N,a,b⟩:=h.e i j;exact (SD.lq (e:=18) (k:=1) ⟨N,144,by decide,by decide,a,b⟩ kD).mono kD
theorem LQ.up8 {q:Rat}(h:LQ 1 q):LQ 100000000 q:=h.mono kD
theorem qk (A:Option Addr)(c:Nat)(zs:List Int)(hl:zs.length≤1000)(hz:HM zs)(w:World)(h:Hp)(g:G w h)(hA:Si A zs h):CR 9 #[.slice A zs.length c] w h (fun v h1=>∃ A c,v=.slice A (zs.map (fun z:Int=>(z:Rat))).length c∧(zs.map (fun z:Int=>(z:Rat))).length≤c∧Sq A (zs.map (fun z:Int=>(z:Rat))) h1):=by
 have hs:=((sS g).aS hA);refine go Tryz.func9 [(0,qS A zs.length c)] rfl (aa hs [.v 2 (sZ)] (aT (lL hs [.v 3 (sZ)] (af (aa hs [.v 4 (iV 0)] (bj ?_))))));replace hs:=hs.nil 28 5;refine bx [(0,qS A zs.length c),(2,sZ),(4,iV 0),(3,sZ)] ?_;refine CG.loop (fun μ_ Γ w_=>∃ (k:Nat) (sA:Option Addr) (sc:Nat) (ql:List Rat) (h_:Hp),μ_=zs.length-k∧Γ=[(0,qS A zs.length c),(2,sZ),(4,nV k),(3,qS sA ((ql).length) sc)]∧SS w h w_ h_ [] [⟨28,5,sA,sc,(ql).length,(ql).flatMap qc⟩] [Si A zs]∧k≤zs.length∧ql=(zs.take k).map (fun z:Int=>(z:Rat))) _ ⟨0,none,0,[],h,rfl,rfl,hs.to _ _,Nat.zero_le _,rfl⟩ ?_;rintro _ _ w1 ⟨k,sA,sc,ql,h2,hm3,rfl,hs,hk,hql⟩;have htk:ql.length=k:=by rw[hql];simp;omega
 refine cQ (aa hs [.m 5 4,.m 6 0,.v 7 (nV zs.length)] ?_);cases hb4:(decide ((k:Int)<(zs.length:Int)))
 ·
  have phb4:=oF hb4;refine lB 8 hb4 (aj (CG.exit ?_))
  show CG _ _ _ _ _ _ _ _
  refine aa hs [.m 19 3,.m 2 19] (lN (kX ?_));have hkq:ql=(zs.map (fun z:Int=>(z:Rat))):=by rw[hql,List.take_of_length_le oM]
  obtain ⟨h5,hs,hc6⟩:=hs.pubr 0 (A:=sA) (c:=sc) (l:=ql) (f:=qc) (ty:=28) (sz:=5) 0 (fun _=>rfl);exact hs.ret [] (qS sA ((ql).length) sc) (by rw[←hkq];exact ⟨_,_,rfl,hc6,hs.f.1⟩)
 have phb4:=oT hb4;refine lB 8 hb4 (ao (cK (cQ (kZ (kQ (lL hs [.m 11 3,.m 12 0,.m 13 4] (lX 14 A zs.length c 1 (k:Nat) k ((hs.f.1).ok oM) ?_)))))));refine lH 15 (iV (zs.getD k 0)) hs ((hs.f.1).el k oM) (ag 16 hs (oW (zs.getD k 0) (hz k).1 (hz k).2 _ _ hs.g) (fun w8 h9 hs=>lR 17 28 1 (qc ((zs.getD k 0:Int):Rat)) hs (fun za _ _ hs=>lY 18 0 28 5 sc sA ql qc ((zs.getD k 0:Int):Rat) 56 za (.agg #[qF,uV 0,eS,uV 0,eS]) hs hs.f.1 (fun zb zc _ zd hs=>lL hs [.m 3 18] (lN (kQ (lL hs [.m 9 4] (bB 10 ((k:Nat)+1) (k+1) ?_))))))));refine lL hs [.m 4 10] (lD ?_);intro a_ ka;replace hs:=hs.tl;refine ⟨_,_,?_,⟨k+1,zb,zc,ql++[((zs.getD k 0:Int):Rat)],zd,rfl,rfl,hs.to _ _,oM,(by rw[pU 0 oM,List.map_append,hql];rfl)⟩,ka.to _ kR⟩
 omega
def CjR (W:List (List Rat))(bl xl:List Rat)(t:Nat)(e:Int):Prop:=(SymP W∧bl.length=W.length∧xl.length=W.length)∧CjEnd W.length (mA W) (fun i=>bl.getD i 0) (fun i=>xl.getD i 0) t e∨¬(SymP W∧bl.length=W.length∧xl.length=W.length)∧t=0∧e=EJ W bl xl
theorem CjR.uniq {W:List (List Rat)}{bl xl:List Rat}{t t':Nat}{e e':Int}(h:CjR W bl xl t e)(h':CjR W bl xl t' e'):t=t'∧e=e':=by
 rcases h with ⟨a,b⟩|⟨a,b,c⟩<;>rcases h' with ⟨a',b'⟩|⟨a',b',c'⟩
 ·exact b.uniq b'
 ·exact absurd a a'
 ·exact absurd a' a
 ·exact ⟨by rw[b,b'],by rw[c,c']⟩
theorem DQ (W:List (List Rat))(bl xl:List Rat):EJ W bl xl≠0:=by unfold EJ;split<;>decide
structure Rwq (l:List Rat):Prop where
  len:l.length≤5
  cd:∀ n,CD n 8 (fun i=>l.getD i 0)
theorem Rwq.lq {l:List Rat}(h:Rwq l)(i:Nat):LQ 1 (l.getD i 0):=((h.cd (i+1)).at_ (Nat.lt_succ_self i)).lq kD
theorem G7 {n:Nat}{W:List (List Rat)}(hD:Dfn n W)(hn:n≤4){bl xl:List Rat}(hb:Rwq bl)(hx:Rwq xl){t:Nat}(ht:t≤W.length):CgB W.length (mA W) (fun i=>bl.getD i 0) (fun i=>xl.getD i 0) t:=HF (by have:=hD.len;omega) hD.md (hb.cd _) (hx.cd _) (by have:=hD.len;omega)
theorem vP (A:Option Addr)(cap:Nat)(us:List Value)(W:List (List Rat))(n:Nat)(hD:Dfn n W)(hn:n≤4)(D:Option Addr)(cD:Nat)(bl:List Rat)(X:Option Addr)(cX:Nat)(xl:List Rat)(hb:Rwq bl)(hx:Rwq xl)(w:World)(h:Hp)(g:G w h)(hA:Sv A us h)(hU:QVs h us W)(hDb:Sq D bl h)(hX:Sq X xl h)(tb:Tab h):CR 10 #[.slice A us.length cap,.slice D bl.length cD,.slice X xl.length cX] w h (fun v h1=>∃ (t:Nat) (e:Int) (A:Option Addr) (c:Nat) (al:List TV),CjR W bl xl t e∧v=.tuple #[.slice A al.length c,iV e]∧SlO 3 th uR h1 A al∧CTr W.length (mA W) (fun i=>bl.getD i 0) (fun i=>xl.getD i 0) h1 al∧al.length=(if e=0 then t+1 else 0)):=by
  have hlW:=hD.len;have hl:W.length≤1000:=by omega
  have hls:∀ i,i<W.length→(W.getD i []).length≤1000:=fun i _=>by have:=hD.wd i;omega
  have hbl:=hb.len;have hxl:=hx.len
  by_cases hc:SymP W∧bl.length=W.length∧xl.length=W.length
  · have e1:bl=aY W.length (fun i=>bl.getD i 0):=oy hc.2.1 (fun _ _=>rfl)
    have e2:xl=aY W.length (fun i=>xl.getD i 0):=oy hc.2.2 (fun _ _=>rfl);rw[e1] at hDb
    rw[e2] at hX
    have x:=C3 A cap us W hl hls (fun i=>bl.getD i 0) (fun i=>xl.getD i 0) W.length oM D cD X cX hc.1 rfl (fun i j=>hD.lq i j) (fun i _=>(hb.lq i).mono kD) (fun i _=>(hx.lq i).mono kD) (fun t ht=>G7 hD hn hb hx ht) w h g hA hU hDb hX tb;rw[←e1,←e2] at x
    refine x.mono ?_;rintro _ w' ⟨v,h',rfl,u,t,e,A',c',al,k1,k2,k3,k4,k5⟩;exact ⟨v,h',rfl,u,t,e,A',c',al,.inl ⟨hc,k1⟩,k2,k3,k4,k5⟩
  · have x:=Cq A cap us W hl hls D cD bl X cX xl oM oM (fun i j=>(hD.lq i j).mono kD) (by
      by_cases a:SymP W
      · by_cases b:bl.length=W.length
        · exact .inr (.inr (fun c=>hc ⟨a,b,c⟩))
        · exact .inr (.inl b)
      · exact .inl a) w h g hA hU hDb hX tb
    refine x.mono ?_;rintro _ w' ⟨v,h',rfl,u,k⟩;exact ⟨v,h',rfl,u,0,_,none,0,[],.inr ⟨hc,rfl,rfl⟩,k,SlO.nil,CTr.nil,by rw[if_neg (DQ _ _ _)];rfl⟩
def knW:List (List Rat):=[[((2:Int):Rat),((0:Int):Rat)],[((0:Int):Rat),((1:Int):Rat)]]
def knb:List Rat:=[((2:Int):Rat),((1:Int):Rat)]
def knx:List Rat:=[((0:Int):Rat),((0:Int):Rat)]
theorem F7 (i j:Nat):Tw 144 262144 ((knW.getD i []).getD j 0):=by
 have h0:∀ z:Int,z.natAbs≤2→Tw 144 262144 ((z:Int):Rat):=fun z hz=>⟨z*144,by rw[Int.natAbs_mul];exact Nat.le_trans (Nat.mul_le_mul_right _ hz) kD,by rw[Rat.intCast_mul];rfl⟩
 match i,j with
 | 0,0=>exact h0 2 kD
 | 0,1=>exact h0 0 kD
 | 0,j+2=>exact Tw.zero
 | 1,0=>exact h0 0 kD
 | 1,1=>exact h0 1 kD
 | 1,j+2=>exact Tw.zero
 | i+2,j=>exact Tw.zero
theorem DN:Dfn 2 knW:=⟨rfl,fun i=>by
 match i with
 | 0=>exact Nat.le_refl _
 | 1=>exact Nat.le_refl _
 | i+2=>exact Nat.zero_le _,F7⟩
theorem u9 (n:Nat){a b:Int}(ha:a.natAbs≤2)(hb:b.natAbs≤2):CD n 8 (fun i=>([(a:Rat),(b:Rat)]:List Rat).getD i 0):=⟨1,by decide,by decide,fun i _=>by
 match i with
 | 0=>exact ⟨a,Nat.le_trans ha kD,by show (a:Rat)*((1:Nat):Rat)=_;rw[show ((1:Nat):Rat)=1 from rfl,Rat.mul_one]⟩
 | 1=>exact ⟨b,Nat.le_trans hb kD,by show (b:Rat)*((1:Nat):Rat)=_;rw[show ((1:Nat):Rat)=1 from rfl,Rat.mul_one]⟩
 | i+2=>exact ⟨0,Nat.zero_le _,by show (0:Rat)*_=_;rw[Rat.zero_mul];rfl⟩⟩
theorem De:SymP knW:=⟨⟨⟨by decide,by decide,fun i hi=>by
  match i,hi with
  | 0,_=>rfl
  | 1,_=>rfl
  | i+2,hi=>exact absurd hi (by show ¬i+2<2;omega)⟩,rfl⟩,fun i hi k hk=>by
  match i,hi with
  | 0,_=>exact absurd hk (Nat.not_lt_zero _)
  | 1,_ =>
    obtain rfl:k=0:=by omega
    rfl
  | i+2,hi=>exact absurd hi (by show ¬i+2<2;omega)⟩
abbrev qt (t:Nat):Cst:=cg 2 (mA knW) (fun i=>knb.getD i 0) (fun i=>knx.getD i 0) t
theorem Hi:dt 2 (qt 0).r (qt 0).r≠0∧0<(dt 2 (qt 0).w (mv 2 (mA knW) (qt 0).w)).num:=by decide +kernel
theorem HJ:dt 2 (qt 1).r (qt 1).r≠0∧0<(dt 2 (qt 1).w (mv 2 (mA knW) (qt 1).w)).num:=by decide +kernel
theorem Eo:dt 2 (qt 2).r (qt 2).r=0∧(qt 2).x 0=1∧(qt 2).x 1=1:=by decide +kernel
theorem Cj:CjR knW knb knx 2 0:=.inl ⟨⟨De,rfl,rfl⟩,fun i hi=>by
 rcases (by omega:i=0∨i=1) with rfl|rfl
 ·exact Hi
 ·exact HJ,.inl ⟨rfl,Eo.1⟩⟩
theorem xA {h:Hp}{Q1 Q2:Option Addr}{c1 c2:Nat}(h1:SlO 5 qc 0 h Q1 (([2,0]:List Int).map (fun z:Int=>(z:Rat))))(h2:SlO 5 qc 0 h Q2 (([0,1]:List Int).map (fun z:Int=>(z:Rat))))(hc1:(([2,0]:List Int).map (fun z:Int=>(z:Rat))).length≤c1)(hc2:(([0,1]:List Int).map (fun z:Int=>(z:Rat))).length≤c2):∀ i,i<knW.length→∃ A cap,([.slice Q1 2 c1,.slice Q2 2 c2]:List Value).getD i undef=.slice A (knW.getD i []).length cap∧(knW.getD i []).length≤cap∧SlO 5 qc 0 h A (knW.getD i []):=fun i hi=>by
 match i,hi with
 | 0,_=>exact ⟨Q1,c1,rfl,hc1,h1⟩
 | 1,_=>exact ⟨Q2,c2,rfl,hc2,h2⟩
 | i+2,hi=>exact absurd hi (by show ¬i+2<2;omega)
theorem EA (A:Option Addr)(cap:Nat)(us:List Value)(D:Option Addr)(cD:Nat)(X:Option Addr)(cX:Nat)(w:World)(h:Hp)(g:G w h)(hA:Sv A us h)(hU:QVs h us knW)(hDb:Sq D knb h)(hX:Sq X knx h)(tb:Tab h):CR 10 #[.slice A 2 cap,.slice D 2 cD,.slice X 2 cX] w h (fun v h1=>∃ (A:Option Addr) (c:Nat) (al:List TV) (B:Option Addr) (d:Nat),v=.tuple #[.slice A 3 c,iV 0]∧al.length=3∧(al.getD 2 uR).1=.slice B 2 d∧SlO 3 th uR h1 A al∧Sq B [1,1] h1):=by
 have x:=vP A cap us knW 2 DN kD D cD knb X cX knx ⟨by decide,fun n=>u9 n kD kD⟩ ⟨by decide,fun n=>u9 n kD kD⟩ w h g hA hU hDb hX tb;rw[show us.length=2 from hU.len] at x
 refine x.mono ?_;rintro _ w' ⟨v,h',rfl,u,t,e,A',c',al,k1,k2,k3,k4,k5⟩;obtain ⟨rfl,rfl⟩:=k1.uniq Cj;rw[if_pos rfl] at k5
 obtain ⟨⟨B,d,e1,s1⟩,_,_⟩:=k4.at_ 2 oM;refine ⟨v,h',rfl,u,A',c',al,B,d,by rw[k2,k5],k5,?_,k3,?_⟩
 ·rw[e1,bI];rfl
 ·have e2:aY knW.length (cg knW.length (mA knW) (fun i=>knb.getD i 0) (fun i=>knx.getD i 0) 2).x=[1,1]:=by
   show [(qt 2).x 0,(qt 2).x 1]=[1,1]
   rw[Eo.2.1,Eo.2.2]
  rw[e2] at s1
  exact s1
theorem uQ  (w:World)(h:Hp)(g:G w h)(tb:Tab h):CV 12 #[] w h (.bool true):=by
 have hs:=((sS g).aB tb);refine go Tryz.func12 [] rfl (aa hs [.v 0 qF] (aT (lR 4 2 2 ([iV 2,iV 0]) hs (fun b1 w2 h3 hs=>?_))));replace hs:=hs.aS (SlO.of_flat (sz:=1) (f:=dj) (d:=0) (b:=b1) (o:=0) (l:=([2,0]:List Int)) (fun _=>rfl) hs.f.1);refine lC 5 hs (qk (sB b1) 2 ([2,0]:List Int) kD (by intro k_;rcases k_ with _|_|_<;>simp[List.getD]) _ _ hs.g hs.f.1) ?_;rintro _ w6 h7 hs ⟨Q1,cQ1,rfl,hcQ1,hQ1⟩;replace hs:=hs.aS hQ1;refine lR 6 2 2 ([iV 0,iV 1]) hs (fun b8 w9 _ hs=>?_);replace hs:=hs.aS (SlO.of_flat (sz:=1) (f:=dj) (d:=0) (b:=b8) (o:=0) (l:=([0,1]:List Int)) (fun _=>rfl) hs.f.1);refine lC 7 hs (qk (sB b8) 2 ([0,1]:List Int) kD (by intro k_;rcases k_ with _|_|_<;>simp[List.getD]) _ _ hs.g hs.f.1) ?_;rintro _ _ _ hs ⟨Q2,cQ2,rfl,hcQ2,hQ2⟩;replace hs:=hs.aS hQ2;refine lR 8 52 2 ([qS Q1 2 cQ1,qS Q2 2 cQ2]) hs (fun za _ _ hs=>?_);replace hs:=hs.aS (SlO.of_flat (sz:=1) (f:=vc) (d:=undef) (b:=za) (o:=0) (l:=([qS Q1 2 cQ1,qS Q2 2 cQ2]:List Value)) (fun _=>rfl) hs.f.1);refine lR 9 2 2 ([iV 2,iV 1]) hs (fun zb _ _ hs=>?_);replace hs:=hs.aS (SlO.of_flat (sz:=1) (f:=dj) (d:=0) (b:=zb) (o:=0) (l:=([2,1]:List Int)) (fun _=>rfl) hs.f.1);refine lC 10 hs (qk (sB zb) 2 ([2,1]:List Int) kD (by intro k_;rcases k_ with _|_|_<;>simp[List.getD]) _ _ hs.g hs.f.1) ?_;rintro _ _ _ hs ⟨Q3,cQ3,rfl,hcQ3,hQ3⟩;replace hs:=hs.aS hQ3;refine lR 11 2 2 ([iV 0,iV 0]) hs (fun zc _ _ hs=>?_);replace hs:=hs.aS (SlO.of_flat (sz:=1) (f:=dj) (d:=0) (b:=zc) (o:=0) (l:=([0,0]:List Int)) (fun _=>rfl) hs.f.1);refine lC 12 hs (qk (sB zc) 2 ([0,0]:List Int) kD (by intro k_;rcases k_ with _|_|_<;>simp[List.getD]) _ _ hs.g hs.f.1) ?_;rintro _ _ _ hs ⟨Q4,cQ4,rfl,hcQ4,hQ4⟩;replace hs:=hs.aS hQ4;refine lC 13 hs (EA (sB za) 2 _ Q3 cQ3 Q4 cQ4 _ _ hs.g hs.f.q.r.1 ⟨rfl,xA hs.f.q.q.r.2.1 hs.f.q.q.1 hcQ1 hcQ2⟩ hs.f.r.2.1 hs.f.1 hs.f.q.q.q.r.1) ?_;rintro _ _ _ hs ⟨Ak,ck,alk,Bk,dk,rfl,hl3,ek,hAk,hBk⟩;replace hs:=hs.aP hAk hBk;have hl2_:([1,1]:List Rat).length=2:=rfl;refine lL hs [.m 3 13,.v 14 (qS Ak 3 ck),.v 15 (iV 0),.m 1 14,.m 2 15] (aT (lL hs [.m 16 2,.v 17 qT,.m 18 17,.m 19 1,.v 20 (iV 3),.v 21 qT,.v 22 qT,.m 23 22,.m 24 1] (lX 25 Ak 3 ck 3 2 2 ((hs.f.2.1).ok oM) ?_)));refine lL hs [.v 26 (.pointer (some ⟨(aB Ak),aO Ak+2*3,none⟩))] (ws 27 ((alk.getD 2 uR).1) hs (((hs.f.2.1).el 2 oM).part 0 1) ek ?_);refine lL hs [.v 28 (iV 2),.v 29 qT,.v 30 qT,.m 31 30,.m 32 1] (lX 33 Ak 3 ck 3 2 2 ((hs.f.2.1).ok oM) ?_);refine lL hs [.v 34 (.pointer (some ⟨(aB Ak),aO Ak+2*3,none⟩))] (ws 35 ((alk.getD 2 uR).1) hs (((hs.f.2.1).el 2 oM).part 0 1) ek ?_);refine lX 36 Bk 2 dk 5 0 0 ((hs.f.1).ok oM) (lH 37 (qv 1) hs ((hs.f.1).el 0 kD) (ag 38 hs (oB 1 1 1 (LQ.lit (z:=1) kD).up8 kD kD kD kD kD _ _ hs.g) (fun _ _ hs=>?_)));have zd:(gn 1 (mkR 1 1))=true:=(decide_eq_true (by decide +kernel));rw[zd];refine lL hs [.v 39 qT,.m 40 39,.m 41 1] (lX 42 Ak 3 ck 3 2 2 ((hs.f.2.1).ok oM) ?_);refine lL hs [.v 43 (.pointer (some ⟨(aB Ak),aO Ak+2*3,none⟩))] (ws 44 ((alk.getD 2 uR).1) hs (((hs.f.2.1).el 2 oM).part 0 1) ek ?_);refine lX 45 Bk 2 dk 5 1 1 ((hs.f.1).ok oM) (lH 46 (qv 1) hs ((hs.f.1).el 1 kD) (ag 47 hs (oB 1 1 1 (LQ.lit (z:=1) kD).up8 kD kD kD kD kD _ _ hs.g) (fun _ _ hs=>?_)));have ze:(gn 1 (mkR 1 1))=true:=(decide_eq_true (by decide +kernel));rw[ze];refine lL hs [.v 48 qT,.m 0 48] (lN (bx [(0,qT)] ?_));exact kX (hs.ret [] qT rfl)
def dP (ra ke:Rat)(sp ba bi:Int):Prop:=0<ra.num.sign∧dx ra ((16:Int):Rat)≤0∧0≤ke.num.sign∧dx ke ((1:Int):Rat)<0∧0≤sp∧sp≤200∧0≤ba∧ba≤300∧0≤bi∧bi≤256
instance (ra ke:Rat) (sp ba bi:Int):Decidable (dP ra ke sp ba bi):=by unfold dP;infer_instance
def DR (ra ke:Rat)(sp ba bi:Int)(sd:Nat):List Value:=qc ra++(qc ke++[.int .i64 sp,.int .i64 ba,.int .i64 bi,.int .u64 (sd:Nat)])
structure PtOk (l:List Stp) (wt sg:Nat→Nat) (at_:List Rat):Prop where
  hV:∀ k,k≤l.length→∀ j,LQ 1000000 ((aU l at_ k).getD j 0)
  hSg:∀ k,k<l.length→(l.getD k ac).op≠2→LQ (sg k) (nj (l.getD k ac).op (l.getD k ac).n ((aU l at_ l.length).getD (l.getD k ac).a.toNat 0) ((aU l at_ l.length).getD (l.getD k ac).b.toNat 0))∧LQ (sg k) (nu (l.getD k ac).op ((aU l at_ l.length).getD (l.getD k ac).a.toNat 0) ((aU l at_ l.length).getD (l.getD k ac).b.toNat 0))
theorem Bb {K:Nat}{e:Int}{GL:List Rat}(hz:e≠0→GL=[])(hp:Hp)(v:Value)(h1 h2:Hp)(x:∃ Ag cg,v=.tuple #[.slice Ag GL.length cg,.int .i64 e]∧GL.length≤cg∧SlO 5 qc 0 h1 Ag GL∧(e=0→hp.size≤aB Ag))(_:K≤hp.size)(u:∀ c,hp.size≤c→h2[c]?=h1[c]?):∃ Ag cg,v=.tuple #[.slice Ag GL.length cg,.int .i64 e]∧GL.length≤cg∧SlO 5 qc 0 h2 Ag GL:=by
 obtain ⟨Ag,cg,rfl,hc,hA,hn⟩:=x;refine ⟨Ag,cg,rfl,hc,?_⟩
 by_cases h0:e=0
 ·exact hA.newer (hn h0) u
 ·obtain rfl:=hz h0
  exact ⟨fun h=>absurd h (Nat.lt_irrefl 0),fun k hk=>absurd hk (Nat.not_lt_zero k)⟩
theorem oD (ra ke:Rat)(sp ba bi:Int)(sd:Nat)(hra:LQ 100000000 ra)(hke:LQ 100000000 ke)(w:World)(h:Hp)(g:G w h):CV 31 #[uX ra ke sp ba bi sd] w h (.bool (decide (dP ra ke sp ba bi))):=by
 have hs:=sS g;refine go Tryz.func31 [(0,uX ra ke sp ba bi sd)] rfl (aE (lA 1 59 (uC ra ke sp ba bi sd) hs (fun b1 w2 h3 hs=>lL hs [.v 2 qF] (af (cR 54 [] mixed hs aq ?_)))));refine eV 0 3 (pB b1) (eO 1 4 [(0,0,5)] (qv ra) hs (ak 2 5 hs (fun _ _ hs=>d6 ra (LQ.mono hra oM) _ _ hs.g) (fun w4 h5 hs=>?_)));cases hb6:(decide ((0:Int)<(ra.num.sign:Int)))
 ·
  have phb6:=oF hb6;refine eB 3 6 hb6 (eV 4 7 qF (eG 5 8 (eG 6 9 (eG 7 10 (eG 8 11 (eG 9 12 (eV 10 13 qF (eV 11 14 qF (eG 12 15 (eG 13 16 (eG 14 17 (eG 15 18 (eV 16 19 qF (eV 17 20 qF (eG 18 21 (eG 19 22 (eG 20 23 (eG 21 24 (eG 22 25 (eV 23 26 qF (eV 24 27 qF (eG 25 28 (eG 26 29 (eG 27 30 (eV 28 31 qF (eV 29 32 qF (eG 30 33 (eG 31 34 (eG 32 35 (eV 33 36 qF (eV 34 37 qF (eG 35 38 (eG 36 39 (eG 37 40 (eV 38 41 qF (eV 39 42 qF (eG 40 43 (eG 41 44 (eG 42 45 (eV 43 46 qF (eV 44 47 qF (eG 45 48 (eG 46 49 (eG 47 50 (eV 48 51 qF (eV 49 52 qF (eG 50 53 (eG 51 54 (eG 52 55 (eV 53 56 qF (bM hs (fun w7 h8 hs=>tV 54 2 qF (tN (bx [(2,qF)] ?_))))))))))))))))))))))))))))))))))))))))))))))))))))));exact kX (hs.ret [] qF (congrArg Value.bool (decide_eq_false (by unfold dP;omega)).symm))
 have phb6:=oT hb6;refine eB 3 6 hb6 (eV 4 7 qT (eV 5 8 (pB b1) (eO 6 9 [(0,0,5)] (qv ra) hs (ak 7 10 hs (fun _ _ hs=>oW 16 oM oM _ _ hs.g) (fun w9 _ hs=>ak 8 11 hs (fun _ _ hs=>mX ra ((16:Int):Rat) (LQ.mono hra oM) (LQ.mono (LQ.lit (z:=16) kD) oM) _ _ hs.g) (fun _ _ hs=>?_))))));cases za:(decide ((dx ra ((16:Int):Rat):Int)≤(0:Int)))
 ·
  have zk:=oF za;refine eB 9 12 za (eV 10 13 qF (eV 11 14 qF (eG 12 15 (eG 13 16 (eG 14 17 (eG 15 18 (eV 16 19 qF (eV 17 20 qF (eG 18 21 (eG 19 22 (eG 20 23 (eG 21 24 (eG 22 25 (eV 23 26 qF (eV 24 27 qF (eG 25 28 (eG 26 29 (eG 27 30 (eV 28 31 qF (eV 29 32 qF (eG 30 33 (eG 31 34 (eG 32 35 (eV 33 36 qF (eV 34 37 qF (eG 35 38 (eG 36 39 (eG 37 40 (eV 38 41 qF (eV 39 42 qF (eG 40 43 (eG 41 44 (eG 42 45 (eV 43 46 qF (eV 44 47 qF (eG 45 48 (eG 46 49 (eG 47 50 (eV 48 51 qF (eV 49 52 qF (eG 50 53 (eG 51 54 (eG 52 55 (eV 53 56 qF (bM hs (fun _ _ hs=>tV 54 2 qF (tN (bx [(2,qF)] ?_))))))))))))))))))))))))))))))))))))))))))))))));exact kX (hs.ret [] qF (congrArg Value.bool (decide_eq_false (by unfold dP;omega)).symm))
 have zk:=oT za;refine eB 9 12 za (eV 10 13 qT (eV 11 14 qT (eV 12 15 (qP b1 5) (eO 13 16 [(0,5,5)] (qv ke) hs (ak 14 17 hs (fun _ _ hs=>d6 ke (LQ.mono hke oM) _ _ hs.g) (fun _ _ hs=>?_))))));cases zb:(decide ((0:Int)≤(ke.num.sign:Int)))
 ·
  have zl:=oF zb;refine eB 15 18 zb (eV 16 19 qF (eV 17 20 qF (eG 18 21 (eG 19 22 (eG 20 23 (eG 21 24 (eG 22 25 (eV 23 26 qF (eV 24 27 qF (eG 25 28 (eG 26 29 (eG 27 30 (eV 28 31 qF (eV 29 32 qF (eG 30 33 (eG 31 34 (eG 32 35 (eV 33 36 qF (eV 34 37 qF (eG 35 38 (eG 36 39 (eG 37 40 (eV 38 41 qF (eV 39 42 qF (eG 40 43 (eG 41 44 (eG 42 45 (eV 43 46 qF (eV 44 47 qF (eG 45 48 (eG 46 49 (eG 47 50 (eV 48 51 qF (eV 49 52 qF (eG 50 53 (eG 51 54 (eG 52 55 (eV 53 56 qF (bM hs (fun _ _ hs=>tV 54 2 qF (tN (bx [(2,qF)] ?_))))))))))))))))))))))))))))))))))))))))));exact kX (hs.ret [] qF (congrArg Value.bool (decide_eq_false (by unfold dP;omega)).symm))
 have zl:=oT zb;refine eB 15 18 zb (eV 16 19 qT (eV 17 20 qT (eV 18 21 (qP b1 5) (eO 19 22 [(0,5,5)] (qv ke) hs (ak 20 23 hs (fun _ _ hs=>oW 1 oM oM _ _ hs.g) (fun _ _ hs=>ak 21 24 hs (fun _ _ hs=>mX ke ((1:Int):Rat) (LQ.mono hke oM) (LQ.mono (LQ.lit (z:=1) kD) oM) _ _ hs.g) (fun _ _ hs=>?_)))))));cases zc:(decide ((dx ke ((1:Int):Rat):Int)<(0:Int)))
 ·
  have zm:=oF zc;refine eB 22 25 zc (eV 23 26 qF (eV 24 27 qF (eG 25 28 (eG 26 29 (eG 27 30 (eV 28 31 qF (eV 29 32 qF (eG 30 33 (eG 31 34 (eG 32 35 (eV 33 36 qF (eV 34 37 qF (eG 35 38 (eG 36 39 (eG 37 40 (eV 38 41 qF (eV 39 42 qF (eG 40 43 (eG 41 44 (eG 42 45 (eV 43 46 qF (eV 44 47 qF (eG 45 48 (eG 46 49 (eG 47 50 (eV 48 51 qF (eV 49 52 qF (eG 50 53 (eG 51 54 (eG 52 55 (eV 53 56 qF (bM hs (fun _ _ hs=>tV 54 2 qF (tN (bx [(2,qF)] ?_)))))))))))))))))))))))))))))))))));exact kX (hs.ret [] qF (congrArg Value.bool (decide_eq_false (by unfold dP;omega)).symm))
 have zm:=oT zc;refine eB 22 25 zc (eV 23 26 qT (eV 24 27 qT (eV 25 28 (qP b1 10) (eO 26 29 [(0,10,1)] (iV sp) hs ?_))));cases zd:(decide ((0:Int)≤(sp:Int)))
 ·
  have zn:=oF zd;refine eB 27 30 zd (eV 28 31 qF (eV 29 32 qF (eG 30 33 (eG 31 34 (eG 32 35 (eV 33 36 qF (eV 34 37 qF (eG 35 38 (eG 36 39 (eG 37 40 (eV 38 41 qF (eV 39 42 qF (eG 40 43 (eG 41 44 (eG 42 45 (eV 43 46 qF (eV 44 47 qF (eG 45 48 (eG 46 49 (eG 47 50 (eV 48 51 qF (eV 49 52 qF (eG 50 53 (eG 51 54 (eG 52 55 (eV 53 56 qF (bM hs (fun _ _ hs=>tV 54 2 qF (tN (bx [(2,qF)] ?_))))))))))))))))))))))))))))));exact kX (hs.ret [] qF (congrArg Value.bool (decide_eq_false (by unfold dP;omega)).symm))
 have zn:=oT zd;refine eB 27 30 zd (eV 28 31 qT (eV 29 32 qT (eV 30 33 (qP b1 10) (eO 31 34 [(0,10,1)] (iV sp) hs ?_))));cases ze:(decide ((sp:Int)≤(200:Int)))
 ·
  have zo:=oF ze;refine eB 32 35 ze (eV 33 36 qF (eV 34 37 qF (eG 35 38 (eG 36 39 (eG 37 40 (eV 38 41 qF (eV 39 42 qF (eG 40 43 (eG 41 44 (eG 42 45 (eV 43 46 qF (eV 44 47 qF (eG 45 48 (eG 46 49 (eG 47 50 (eV 48 51 qF (eV 49 52 qF (eG 50 53 (eG 51 54 (eG 52 55 (eV 53 56 qF (bM hs (fun _ _ hs=>tV 54 2 qF (tN (bx [(2,qF)] ?_)))))))))))))))))))))))));exact kX (hs.ret [] qF (congrArg Value.bool (decide_eq_false (by unfold dP;omega)).symm))
 have zo:=oT ze;refine eB 32 35 ze (eV 33 36 qT (eV 34 37 qT (eV 35 38 (qP b1 11) (eO 36 39 [(0,11,1)] (iV ba) hs ?_))));cases zf:(decide ((0:Int)≤(ba:Int)))
 ·
  have zp:=oF zf;refine eB 37 40 zf (eV 38 41 qF (eV 39 42 qF (eG 40 43 (eG 41 44 (eG 42 45 (eV 43 46 qF (eV 44 47 qF (eG 45 48 (eG 46 49 (eG 47 50 (eV 48 51 qF (eV 49 52 qF (eG 50 53 (eG 51 54 (eG 52 55 (eV 53 56 qF (bM hs (fun _ _ hs=>tV 54 2 qF (tN (bx [(2,qF)] ?_))))))))))))))))))));exact kX (hs.ret [] qF (congrArg Value.bool (decide_eq_false (by unfold dP;omega)).symm))
 have zp:=oT zf;refine eB 37 40 zf (eV 38 41 qT (eV 39 42 qT (eV 40 43 (qP b1 11) (eO 41 44 [(0,11,1)] (iV ba) hs ?_))));cases zg:(decide ((ba:Int)≤(300:Int)))
 ·
  have zq:=oF zg;refine eB 42 45 zg (eV 43 46 qF (eV 44 47 qF (eG 45 48 (eG 46 49 (eG 47 50 (eV 48 51 qF (eV 49 52 qF (eG 50 53 (eG 51 54 (eG 52 55 (eV 53 56 qF (bM hs (fun _ _ hs=>tV 54 2 qF (tN (bx [(2,qF)] ?_)))))))))))))));exact kX (hs.ret [] qF (congrArg Value.bool (decide_eq_false (by unfold dP;omega)).symm))
 have zq:=oT zg;refine eB 42 45 zg (eV 43 46 qT (eV 44 47 qT (eV 45 48 (qP b1 12) (eO 46 49 [(0,12,1)] (iV bi) hs ?_))));cases zi:(decide ((0:Int)≤(bi:Int)))
 ·
  have zs:=oF zi;refine eB 47 50 zi (eV 48 51 qF (eV 49 52 qF (eG 50 53 (eG 51 54 (eG 52 55 (eV 53 56 qF (bM hs (fun _ _ hs=>tV 54 2 qF (tN (bx [(2,qF)] ?_))))))))));exact kX (hs.ret [] qF (congrArg Value.bool (decide_eq_false (by unfold dP;omega)).symm))
 have zs:=oT zi;refine eB 47 50 zi (eV 48 51 qT (eV 49 52 qT (eV 50 53 (qP b1 12) (eO 51 54 [(0,12,1)] (iV bi) hs ?_))));cases zj:(decide ((bi:Int)≤(256:Int)))
 ·
  have zt:=oF zj;refine eB 52 55 zj (eV 53 56 qF (bM hs (fun _ _ hs=>tV 54 2 qF (tN (bx [(2,qF)] ?_)))));exact kX (hs.ret [] qF (congrArg Value.bool (decide_eq_false (by unfold dP;omega)).symm))
 have zt:=oT zj;refine eB 52 55 zj (eV 53 56 qT (bM hs (fun _ _ hs=>tV 54 2 qT (tN (bx [(2,qT)] ?_)))));exact kX (hs.ret [] qT (congrArg Value.bool (decide_eq_true (by unfold dP;omega)).symm))
theorem DE (ra ke:Rat)(sp bi:Int)(sd:Nat)(hra:LQ 100000000 ra)(hke:LQ 100000000 ke)(hF:dP ra ke sp 0 bi)(k:Nat)(hk:k≤200)(w:World)(h:Hp)(g:G w h):CR 11 #[uX ra ke sp 0 bi sd,iV 1,nV k] w h (fun v h1=>∃ A c,v=.slice A ([0]:List Int).length c∧([0]:List Int).length≤c∧Si A [0] h1):=by
 have hs:=sS g;refine go Tryz.func11 [(0,uX ra ke sp 0 bi sd),(1,iV 1),(2,nV k)] rfl (aE (lA 3 59 (uC ra ke sp 0 bi sd) hs (fun b1 w2 h3 hs=>lL hs [.v 6 (sZ)] (af (aa hs [.m 11 1,.v 12 qF,.m 13 12,.m 14 1,.v 15 qF,.v 16 qF,.m 17 16,.m 18 2] ?_)))));cases hb4:(decide ((k:Int)<(0:Int)))
 ·
  have phb4:=oF hb4;refine lB 19 hb4 (lL hs [.v 20 qF,.m 21 20,.m 22 2] ?_);cases hb5:(decide ((200:Int)<(k:Int)))
  ·
   have phb5:=oF hb5;refine lB 23 hb5 (lL hs [.v 24 qF,.m 25 24,.o 26 (uX ra ke sp 0 bi sd) 0 0 14] (ag 27 hs ((by have q_:=oD ra ke sp 0 bi sd hra hke _ _ hs.g;rw[decide_eq_true hF] at q_;exact q_)) (fun w6 h7 hs=>lL hs [.v 28 qF,.v 29 qF] (aj (cK (cQ (aa hs [.v 30 (qP b1 11),.o 31 (iV 0) 0 11 1,.v 32 qT,.m 33 32] (lG 34 ?_))))))));refine lG 35 (lG 36 (lG 37 (lL hs [.v 38 qT] (ao (aa hs [.m 39 1] (lK 40 3 1 1 8 (iV 0) dj (0:Int) hs (fun b8 w9 zd hs=>?_)))))));have hl11:(List.replicate 1 (0:Int)).length=1:=by simp
   refine lL hs [.m 7 40] (af (aa hs [.m 41 7,.v 42 (iV 1),.v 43 (iV 0)] (bj ?_)));refine bx _ (CG.loop (fun μ_ Γ w_=>∃ (j:Nat) (L:List Int) (h_:Hp),μ_=1-j∧Γ=[(1,iV 1),(2,nV k),(3,pB b1),(6,sZ),(7,qS (sB b8) 1 1),(42,iV 1),(43,nV j)]∧SS w h w_ h_ [⟨b8,3,(L).flatMap dj⟩,⟨b1,59,uC ra ke sp 0 bi sd⟩] [] []∧j≤1∧L.length=1∧L=[0]) _ ⟨0,List.replicate 1 (0:Int),zd,rfl,rfl,hs.to _ _,Nat.zero_le _,(by simp),rfl⟩ ?_);rintro _ _ _ ⟨j,L,ze,hm14,rfl,hs,hj,hLl,hL0⟩;refine aE ?_;cases za:(decide ((j:Int)<(1:Int)))
   ·
    have zb:=oF za;refine lB 44 za (af (cM (CG.exit ?_)))
    show CG _ _ _ _ _ _ _ _
    refine aa hs [.m 51 7,.m 6 51] (lN (kX ?_));subst hL0;replace hs:=hs.to [⟨b8,3,(([0]:List Int)).flatMap dj⟩,⟨b1,59,uC ra ke sp 0 bi sd⟩] [];obtain ⟨_,hs,sg17,lo18,bc19⟩:=hs.pub 0;replace hs:=(hs.to [⟨b1,59,uC ra ke sp 0 bi sd⟩] []).aS (SlO.of_flat (sz:=1) (f:=dj) (d:=0) (b:=b8) (o:=0) (l:=([0]:List Int)) (fun _=>rfl) sg17);exact hs.ret [] (qS (sB b8) 1 1) (⟨_,_,rfl,nR _,hs.f.1⟩)
   have zb:=oT za;refine lB 44 za (af (bS (cK (cQ (kZ (aa hs [.m 45 43,.m 8 45] (lN (kQ (lL hs [.m 46 7,.m 47 8,.m 48 8] (lX 49 (sB b8) 1 1 1 (j:Nat) j rfl ?_))))))))));refine lW 0 L dj 1 j (j:Nat) hs oM (fun _ hs=>?_);have zc:((L).set j (j:Nat)).length=1:=by rw[List.length_set];exact hLl
   replace hs:=hs.to [⟨b8,3,((L).set j (j:Nat)).flatMap dj⟩,⟨b1,59,uC ra ke sp 0 bi sd⟩] [];refine lN (kQ (bB 50 ((j:Nat)+1) (j+1) ?_));refine lL hs [.m 43 50] (lD ?_);intro a_ ka;refine ⟨_,_,?_,⟨j+1,(L).set j (j:Nat),ze,rfl,rfl,hs.to _ _,oM,zc,(by rw[hL0,show j=0 by omega];rfl)⟩,ka.to _ kR⟩
   omega
  have phb5:=oT hb5;refine lB 23 hb5 (lL hs [.v 24 qT,.m 25 24] (lG 26 ?_));refine lG 27 (lG 28 (lL hs [.v 29 qT] (ao (aa hs [.v 6 (sZ)] (lN (kX ?_))))))
  exfalso;omega
 have phb4:=oT hb4;refine lB 19 hb4 (lL hs [.v 20 qT,.m 21 20] (lG 22 ?_));refine lG 23 (lL hs [.v 24 qT,.m 25 24] (lG 26 ?_));refine lG 27 (lG 28 (lL hs [.v 29 qT] (ao (aa hs [.v 6 (sZ)] (lN (kX ?_))))))
 exfalso;omega
theorem B0 (inp:Int)(A:Option Addr)(c:Nat)(l:List Stp)(O:Option Addr)(d:Nat)(os:List Int)(at_:List Rat)(X:Option Addr)(cX:Nat)(bt:Nat)(hl:l.length≤65536)(ho:os.length≤10)(hat2:at_.length≤1000000)(hq:∀ i,LQ 1 (l.getD i ac).q)(hV:∀ k,k≤l.length→∀ j,LQ 1000000 ((aU l at_ k).getD j 0))(w:World)(h:Hp)(g:G w h)(hA:SlO 9 fu ac h A l)(hO:Si O os h)(hX:Sq X at_ h)(hbt:Seg h bt 0 [iV inp,.slice A l.length c,.slice O os.length d])(tb:Tab h):CV 32 #[.slice X at_.length cX,pB bt] w h (.tuple #[qv (cO inp l os at_),iV (dU false inp l os at_)]):=by
 have hs:=((((((sS g).aS hA).aS hO).aS hX).a_Seg hbt).aB tb);refine go Tryz.func32 [(0,qS X at_.length cX),(1,pB bt)] rfl (aE (lA 3 28 ([qF,uV 0,eS,uV 0,eS]) hs (fun b1 w2 h3 hs=>lL hs [.v 4 (iV 0)] (aT (lH 8 (.agg #[iV inp,qS A ((l).length) c,qS O ((os).length) d]) hs ((hs.f.2.1).part 0 3) ?_)))));refine lL hs [.m 9 0] (lC 10 hs (Hx inp A c l O d os at_ X cX oM oM hat2 hq (fun _ _ k hk _ j=>hV k hk j) _ _ hs.g hs.f.q.1 hs.f.r.2.1 hs.f.r.1 hs.f.1) ?_);rintro _ w4 h5 hs ⟨Ar,cr,rfl,hcr,hAr⟩;replace hs:=hs.aS hAr;exact lL hs [.m 7 10,.v 11 (qS Ar ((gj false inp l os at_).length) cr),.v 12 (iV (dU false inp l os at_)),.m 5 11,.m 6 12] (aT (lL hs [.m 13 5] (ag 14 hs (G3 Ar cr (gj false inp l os at_) 1000000 (Nat.le_trans Bf ho) (fun i=>Ai kD (fun _ j=>hV _ (nR _) j) i) kD _ _ hs.g hs.f.1 hs.f.2.1) (fun w6 h7 hs=>lL hs [.m 15 6] (lP 0 0 (qc (cO inp l os at_)) hs (fun w8 hs=>lL hs [.m 4 15] (ae hs [(0,0,5)] (.tuple #[qv (cO inp l os at_),iV (dU false inp l os at_)]) rfl)))))))
theorem F9 (inp:Int)(A:Option Addr)(c:Nat)(l:List Stp)(O:Option Addr)(d:Nat)(os:List Int)(at_:List Rat)(X:Option Addr)(cX:Nat)(ra ke:Rat)(sp ba bi:Int)(sd:Nat)(k:Nat)(bl:List Int)(hSo:∀ (w:World) (h:Hp),G w h→Calls Tryz.prog 11 #[uX ra ke sp ba bi sd,nV os.length,nV k] w (Ret w h (fun v h1=>∃ A c,v=.slice A bl.length c∧bl.length≤c∧Si A bl h1)))(hbr:∀ j,j<bl.length→0≤bl.getD j 0∧bl.getD j 0<os.length)(hbn:bl.length≤1000000)(bt br:Nat)(wt sg:Nat→Nat)(W_:Nat)(hl6:l.length≤100)(ho2:os.length≤2)(hat2:at_.length≤1000000)(hq:∀ i,LQ 1 (l.getD i ac).q)(hB:be inp l os=0→(at_.length:Int)=inp→∀ k,k≤l.length→bN true l at_ k=0→∀ j,LQ 1000000 ((aU l at_ k).getD j 0))(hwt:be inp l os=0→Wt l wt)(hW:∀ j,j<l.length→wt j≤W_)(hSg:be inp l os=0→(at_.length:Int)=inp→bN true l at_ l.length=0→∀ k,k<l.length→(l.getD k ac).op≠2→LQ (sg k) (nj (l.getD k ac).op (l.getD k ac).n ((aU l at_ l.length).getD (l.getD k ac).a.toNat 0) ((aU l at_ l.length).getD (l.getD k ac).b.toNat 0))∧LQ (sg k) (nu (l.getD k ac).op ((aU l at_ l.length).getD (l.getD k ac).a.toNat 0) ((aU l at_ l.length).getD (l.getD k ac).b.toNat 0)))(hC:be inp l os=0→1+iP wt (fun _=>1) l.length+os.length*(2*W_)+kT wt sg l.length≤100000000)(w:World)(h:Hp)(g:G w h)(hA:SlO 9 fu ac h A l)(hO:Si O os h)(hX:Sq X at_ h)(hbt:Seg h bt 0 [iV inp,.slice A l.length c,.slice O os.length d])(hbr_:Seg h br 0 (DR ra ke sp ba bi sd))(tb:Tab h):CR 35 #[.slice X at_.length cX,nV k,pB bt,pB br] w h (fun v h1=>∃ Ag cg,v=.tuple #[.slice Ag (cf inp l os at_ (bJ os.length bl bl.length)).length cg,iV (bE inp l os at_ (bJ os.length bl bl.length))]∧(cf inp l os at_ (bJ os.length bl bl.length)).length≤cg∧Sq Ag (cf inp l os at_ (bJ os.length bl bl.length)) h1∧(bE inp l os at_ (bJ os.length bl bl.length)=0→h.size≤aB Ag)):=by
 have hs:=(((((((sS g).aS hA).aS hO).aS hX).a_Seg hbt).a_Seg hbr_).aB tb);refine go Tryz.func35 [(0,qS X at_.length cX),(1,nV k),(2,pB bt),(3,pB br)] rfl (aa hs [.v 6 (sZ),.v 7 (iV 0)] (aT (lL hs [.v 14 (qP bt 2)] (lH 15 (qS O ((os).length) d) hs ((hs.f.r.1).part 2 1) ?_))));refine lL hs [.v 16 (nV ((os).length))] (lK 17 28 ((os).length) 5 56 (.agg #[qF,uV 0,eS,uV 0,eS]) qc 0 hs (fun b1 w2 h3 hs=>?_));have hl4:(List.replicate ((os).length) 0).length=((os).length):=by simp
 refine lL hs [.m 8 17] (af (aE (lH 18 (uX ra ke sp ba bi sd) hs ((hs.f.2.1).part 0 14) ?_)));refine lL hs [.m 19 8,.v 20 (nV ((os).length)),.m 21 1] (lC 22 hs (hSo _ _ hs.g) ?_);rintro _ w5 h6 hs ⟨As,cs,rfl,hcs,hAs⟩;replace hs:=hs.aS hAs;refine lL hs [.v 23 (nV bl.length),.v 24 (iV 0)] (bj ?_);refine bx _ (CG.loop (fun μ_ Γ w_=>∃ (j:Nat) (L:List Rat) (h_:Hp),μ_=bl.length-j∧Γ=[(0,qS X at_.length cX),(2,pB bt),(6,sZ),(7,iV 0),(8,qS (sB b1) ((os).length) ((os).length)),(22,qS As bl.length cs),(23,nV bl.length),(24,nV j)]∧SS w h w_ h_ [⟨b1,28,(L).flatMap qc⟩] [] [Si As bl,fun h_=>Tab h_,fun h_=>Seg h_ br 0 (DR ra ke sp ba bi sd),fun h_=>Seg h_ bt 0 [iV inp,qS A l.length c,qS O os.length d],Sq X at_,Si O os,fun h_=>SlO 9 fu ac h_ A l]∧j≤bl.length∧L.length=os.length∧L=bJ os.length bl j) _ ⟨0,List.replicate os.length (0:Rat),h6,rfl,rfl,hs.to _ _,Nat.zero_le _,(by simp),rfl⟩ ?_);rintro _ _ w7 ⟨j,L,h8,hm9,rfl,hs,hj,hLl,hLm⟩;have hbj:=fun h0=>hbr j h0
 refine aE ?_;cases za:(decide ((j:Int)<(bl.length:Int)))
 ·
  have zb:=oF za;refine lB 25 za (af (cM (CG.exit ?_)))
  show CG _ _ _ _ _ _ _ _
  refine aE ?_;have hjb:j=bl.length:=by omega
  subst hjb;subst hLm;replace hs:=hs.to [⟨b1,28,((bJ os.length bl bl.length)).flatMap qc⟩] [];obtain ⟨_,hs,sg12,lo13,bc14⟩:=hs.pub 0;replace hs:=(hs.to [] []).aS (SlO.of_flat (sz:=5) (f:=qc) (d:=0) (b:=b1) (o:=0) (l:=(bJ os.length bl bl.length)) (fun _=>rfl) sg12);refine lH 34 (.agg #[iV inp,qS A ((l).length) c,qS O ((os).length) d]) hs ((hs.f.q.1).part 0 3) (lL hs [.m 35 0,.m 36 8] ?_);have hsz:=hs.st.up.gr.size;refine lC 37 hs ((by have q_:=ET inp A c l O d os at_ X cX (bJ os.length bl bl.length) (sB b1) os.length wt sg W_ oM oM hat2 (by rw[jt];omega) hq (Bm _ _ _) hB hwt hW hSg hC _ _ hs.g hs.f.q.r.2.1 hs.f.q.r.1 hs.f.q.2.1 hs.f.1 (hs.f.r.1);rw[jt] at q_;exact q_)) ?_;rintro _ _ _ hs ⟨Ab,cb,Ag,cg,rfl,hcb,hcg,hAb,hAg,hgr,hnw⟩;replace hs:=hs.aP hAb hAg;exact lL hs [.m 33 37,.v 38 (qS Ab ((fl inp l os at_ (bJ os.length bl bl.length)).length) cb),.v 39 (qS Ag ((cf inp l os at_ (bJ os.length bl bl.length)).length) cg),.v 40 (iV (bE inp l os at_ (bJ os.length bl bl.length))),.m 11 38,.m 12 39,.m 13 40] (aT (lL hs [.m 41 12,.m 42 13,.m 6 41,.m 7 42] (ae hs [] (.tuple #[qS Ag ((cf inp l os at_ (bJ os.length bl bl.length)).length) cg,iV (bE inp l os at_ (bJ os.length bl bl.length))]) (⟨_,_,rfl,hcg,hs.f.1,fun h_=>Nat.le_trans hsz (hnw h_)⟩))))
 have zb:=oT za;refine lB 25 za (af (bS (cK (cQ (kZ (aE (lX 26 As bl.length cs 1 (j:Nat) j ((hs.f.1).ok oM) ?_)))))));refine lH 27 (iV (bl.getD j 0)) hs ((hs.f.1).el j oM) (lL hs [.m 10 27] (lN (kQ (lL hs [.m 28 8,.m 29 10] (ag 30 hs (oW 1 oM oM _ _ hs.g) (fun _ zd hs=>lX 31 (sB b1) ((os).length) ((os).length) 5 (bl.getD j 0) ((bl.getD j 0).toNat) rfl (lW 0 L qc 5 ((bl.getD j 0).toNat) ((1:Int):Rat) hs oM (fun _ hs=>?_))))))));have zc:((L).set ((bl.getD j 0).toNat) ((1:Int):Rat)).length=((os).length):=by rw[List.length_set];exact hLl
 replace hs:=hs.to [⟨b1,28,((L).set ((bl.getD j 0).toNat) ((1:Int):Rat)).flatMap qc⟩] [];refine lN (kQ (bB 32 ((j:Nat)+1) (j+1) ?_));refine lL hs [.m 24 32] (lD ?_);intro a_ ka;refine ⟨_,_,?_,⟨j+1,(L).set ((bl.getD j 0).toNat) ((1:Int):Rat),zd,rfl,rfl,hs.to _ _,oM,zc,(by rw[hLm];rfl)⟩,ka.to _ kR⟩
 omega
end Go.Proofs.YtlgfpiiafagihaaGreatDoor
