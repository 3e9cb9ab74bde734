/- Laws of this claim, part 5. -/
import Derived.Test.YtffiihfdjnmhpaaGreatDoorQn0
import Derived.Test.YtffiihfdjnmhpaaGreatDoorQn1
import Derived.Test.YtffiihfdjnmhpaaGreatDoorQn2
import Derived.Test.YtffiihfdjnmhpaaGreatDoorQn3
set_option maxRecDepth 100000
set_option maxHeartbeats 4000000
namespace Go.Proofs.YtffiihfdjnmhpaaGreatDoor
open _root_.Array renaming ext' -> Kw
open Bool renaming and_eq_true -> hI, or_eq_true -> i3
open Decidable renaming byContradiction -> Kq, em -> Ku
open Int renaming natCast_pos -> KB, ne_of_gt -> KA
open List renaming all_eq_true -> hS, append_assoc -> Kr, contains_eq_mem -> Ky, getD_eq_getElem?_getD -> A6, getElem?_eq_getElem -> Kt, getElem?_take_of_lt -> p1, getElem_mem -> e5, isPrefixOf -> Kv, length_set -> Jt, mem_singleton -> n1, perm_middle -> ge, replicate -> ta, take_length -> r9, toArray -> J0
open Nat renaming add_mul -> I6, add_zero -> ri, div_div_eq_div_mul -> Bs, div_eq_of_lt -> y9, div_le_self -> y7, le_add_left -> Kz, le_of_lt -> JO, le_refl -> eb, le_trans -> ed, lt_irrefl -> Ks, lt_of_le_of_lt -> y6, lt_of_lt_of_le -> ep, lt_or_ge -> co, lt_succ_iff_lt_or_eq -> Kl, mod_eq_of_lt -> tv, mul_assoc -> zY, mul_le_mul -> Jq, mul_one -> HA, mul_zero -> z6, pos_of_ne_zero -> Jh, pow_add -> Am, pow_le_pow_right -> Aa, pow_pos -> A8, pow_succ -> zy, pow_zero -> JI, zero_add -> s4, zero_le -> JH
open Option renaming mem_toList -> Kx
open Rat renaming den_intCast -> Kb, num_intCast -> Ka
open Go.RowKit
open Go.RowKit Go.Shelf
theorem dJ  (rb:Nat)(s:ByteArray)(o:s.size<=1000000)(d:Nat)(c:Nat)(w:World)(h:Hp)(g:G w h)(k:Own w rb 67 [.string s,nV s.size,nV d])(j:h[rb]?=some junk)(l:Tab h):Calls Tryz.prog 36 #[pB rb,.int .u8 (c:Nat)] w (bW rb w h fun v w' _=>v=.bool false/\Own w' rb 67 [.string s,nV s.size,nV d]):=by
 have b:UpM [rb] w h w h:=UpM.refl g;obtain ⟨wz,i,a⟩:=SS.at_ g k j;replace a:=(a.add (K:=fun y=>Tab y) l);refine go Tryz.func36 [(0,pB rb),(1,.int .u8 (c:Nat))] rfl (aa a ac (ai (cQ (CG.region ⟨[rb],none⟩ 23 [] mixed kR a.g aw (fun _ u=>by rw[n1.1 u];exact aI (a.jk 0)) ?_))));refine eV 0 5 (pB rb) (eV 1 6 (pB rb) (eV 2 7 (qP rb 2) (Bm 3 8 [(0,2,1)] (nV d) a b (fun w1 z a b=>?_))));have ⟨e,f⟩:=dT (p:=(0:Int)<=(d:Int)) oM;refine eB 4 9 e (eV 5 10 qT (eG 6 11 (eG 7 12 (eG 8 13 (eG 9 14 (eV 10 15 qT (eV 11 16 qT (eG 12 17 (eG 13 18 (eG 14 19 (eG 15 20 (eG 16 21 (eG 17 22 (eG 18 23 (eG 19 24 (eG 20 25 (eG 21 26 (eV 22 27 qT (bL a (fun C B x a=>?_))))))))))))))))))));replace b:=b.trans (x.m _);exact tN (ci (aa a ac (lN (kX (a.retM b [] qF (⟨rfl,a.own 0⟩))))))
theorem nB (rb:Nat)(s:ByteArray)(d:s.size<=1000000)(a:Nat)(ha:a<=s.size)(c:Nat)(i:c≠0)(b:sk s a=a)(w:World)(h:Hp)(g:G w h)(f:Own w rb 67 [.string s,nV a,iV (-1)])(j:h[rb]?=some junk)(e:Tab h):Calls Tryz.prog 36 #[pB rb,.int .u8 (c:Nat)] w (bW rb w h fun v w' _=>(v=.bool true/\ak s a=c/\a<s.size/\Own w' rb 67 [.string s,nV (a+1),iV (-1)])\/(v=.bool false/\ak s a≠c/\Own w' rb 67 [.string s,nV a,iV (-1)])):=by
 have q:=iK rb s d a ha c i w h g f j e;rw[b] at q;exact q
theorem fd  (rb:Nat)(s:ByteArray)(u:s.size<=1000000)(a:Nat)(ha:a<=s.size)(at_:Nat)(w:World)(h:Hp)(g:G w h)(k:Own w rb 67 [.string s,nV a,iV (-1)])(j:h[rb]?=some junk)(p:Tab h):Calls Tryz.prog 18 #[pB rb,nV at_] w (bW rb w h fun v w' _=>v=aY (⟨0,0,false,none,0,0,none,0,0,⟨#[]⟩,none,0,0⟩:RTm)/\Own w' rb 67 [.string s,nV s.size,nV at_]):=by
 have b:UpM [rb] w h w h:=UpM.refl g;obtain ⟨wz,i,d⟩:=SS.at_ g k j;replace d:=(d.add (K:=fun x=>Tab x) p);refine go Tryz.func18 [(0,pB rb),(1,nV at_)] rfl (aG (fe 4 47 (ax ⟨0,0,false,none,0,0,none,0,0,⟨#[]⟩,none,0,0⟩) d (fun y w2 C l e d=>?_)));replace e:=ed b.gr.size e;replace b:=b.trans (l.m _);refine ai (aa d [.c,.v (pB rb),.v (qP rb 2),.o (iV (-1)) 1 2 1,.v qT] (aj (kQ (lL d [.c,.c,.v (pB rb),.v (qP rb 2)] (ce 1 2 ([nV at_]) d (fun B f d=>?_))))));replace b:=b.put f (n1.2 rfl) d.g;refine aE (lL d [.c,.c,.v (pB rb),.v (pB rb),.o (.string s) 1 0 1,.v (nV s.size),.v (pB rb),.v (qP rb 1)] (ce 1 1 ([nV s.size]) d (fun z f d=>?_)));replace b:=b.put f (n1.2 rfl) d.g;refine aE (lL d [.v (aY ⟨0,0,false,none,0,0,none,0,0,⟨#[]⟩,none,0,0⟩)] (ce 0 0 (ax ⟨0,0,false,none,0,0,none,0,0,⟨#[]⟩,none,0,0⟩) d (fun D f d=>?_)));replace b:=b.put2 f e g d.g;exact lN (kX (d.retM b [(0,0,7)] (aY ⟨0,0,false,none,0,0,none,0,0,⟨#[]⟩,none,0,0⟩) (⟨rfl,d.own 1⟩)))
theorem ER  (rb:Nat)(s:ByteArray)(z:s.size<=1000000)(e:Nat)(at_:Nat)(w:World)(h:Hp)(g:G w h)(u:Own w rb 67 [.string s,nV s.size,nV e])(l:h[rb]?=some junk)(y:Tab h):Calls Tryz.prog 18 #[pB rb,nV at_] w (bW rb w h fun v w' _=>v=aY (⟨0,0,false,none,0,0,none,0,0,⟨#[]⟩,none,0,0⟩:RTm)/\Own w' rb 67 [.string s,nV s.size,nV e]):=by
 have b:UpM [rb] w h w h:=UpM.refl g;obtain ⟨wz,k,d⟩:=SS.at_ g u l;replace d:=(d.add (K:=fun B=>Tab B) y);refine go Tryz.func18 [(0,pB rb),(1,nV at_)] rfl (aG (fe 4 47 (ax ⟨0,0,false,none,0,0,none,0,0,⟨#[]⟩,none,0,0⟩) d (fun C w2 F x a d=>?_)));replace a:=ed b.gr.size a;replace b:=b.trans (x.m _);refine ai (aa d [.c,.v (pB rb),.v (qP rb 2),.o (nV e) 1 2 1] ?_);have ⟨i,j⟩:=dF (p:=(e:Int)<(0:Int)) oM;refine lB 9 i (ah (cK (aa d [.c,.c,.v (pB rb),.v (pB rb),.o (.string s) 1 0 1,.v (nV s.size),.v (pB rb),.v (qP rb 1)] (ce 1 1 ([nV s.size]) d (fun D f d=>?_)))));replace b:=b.put f (n1.2 rfl) d.g;refine aE (lL d [.v (aY ⟨0,0,false,none,0,0,none,0,0,⟨#[]⟩,none,0,0⟩)] (ce 0 0 (ax ⟨0,0,false,none,0,0,none,0,0,⟨#[]⟩,none,0,0⟩) d (fun H f d=>?_)));replace b:=b.put2 f a g d.g;exact lN (kX (d.retM b [(0,0,7)] (aY ⟨0,0,false,none,0,0,none,0,0,⟨#[]⟩,none,0,0⟩) (⟨rfl,d.own 1⟩)))
def LpS (nf bf:ByteArray->Option Rat)(s:ByteArray)(lv:Bool)(r:PR)(m:Nat)(x:RTm)(u:Tm)(k:Nat)(bd1:Int)(h:Hp):Prop :=
  (bd1 = -1/\k<=s.size/\bn nf bf s m (.more lv u) k=some r/\RtH h x u)\/∃ b:Nat,r=.err b/\k=s.size/\bd1=(b:Nat)
theorem LpS.gw {nf bf:ByteArray->Option Rat}{s:ByteArray}{lv:Bool}{r:PR}{m:Nat}{x:RTm}{u:Tm}{k:Nat}{e:Int}{h f:Hp}(y:LpS nf bf s lv r m x u k e h)(g:Gw h f):LpS nf bf s lv r m x u k e f:=by
 rcases y with ⟨a,b,c,d⟩|y
 ·exact .inl ⟨a,b,c,d.gw g⟩
 ·exact .inr y
section
variable {nf bf:ByteArray->Option Rat}{s:ByteArray}{n a:Nat}{u:Tm}{lv:Bool}{r:PR}
theorem x9 (h:bn nf bf s (n+1) (.more lv u) a=some r)(c:ak s (sk s a)=c1 lv):fT (bn nf bf s n (part lv) (sk s a+1)) (fun v e=>bn nf bf s n (.more lv (bz (km lv) u v)) e)=some r:=by
 unfold bn at h;rw[if_pos c] at h;exact h
theorem x5 (h:bn nf bf s (n+1) (.more lv u) a=some r)(d:ak s (sk s a)≠c1 lv)(c:ak s (sk s a)=c2 lv):fT (bn nf bf s n (part lv) (sk s a+1)) (fun v e=>bn nf bf s n (.more lv (bz (jv lv) u v)) e)=some r:=by
 unfold bn at h;rw[if_neg d,if_pos c] at h;exact h
theorem xh (h:bn nf bf s (n+1) (.more lv u) a=some r)(d:ak s (sk s a)≠c1 lv)(c:ak s (sk s a)≠c2 lv):r=.ok u (sk s a):=by
 unfold bn at h;rw[if_neg d,if_neg c] at h;injection h with h;exact h.symm
end
section
variable {nf bf:ByteArray->Option Rat}(n:Nat)
theorem HP  (X:∀ m,m<=n->RC nf bf 35 m .prod)(rb:Nat)(s:ByteArray)(z:s.size<=1000000)(a:Nat)(ha:a<=s.size)(r:PR)(hq:bn nf bf s (n+1) .sum a=some r)(w:World)(h:Hp)(g:G w h)(ho:Own w rb 67 [.string s,nV a,iV (-1)])(hj:h[rb]?=some junk)(tb:Tab h):Calls Tryz.prog 16 #[pB rb] w (bW rb w h (DD rb s r)):=by
 have d:UpM [rb] w h w h:=UpM.refl g;obtain ⟨wz,cr,b⟩:=SS.at_ g ho hj;replace b:=(b.add (K:=fun y=>Tab y) tb);refine go Tryz.func16 [(0,pB rb)] rfl (aG (fe 2 47 (ax ⟨0,0,false,none,0,0,none,0,0,⟨#[]⟩,none,0,0⟩) b (fun F w2 h3 u4 l b=>?_)));replace l:=ed d.gr.size l;replace d:=d.trans (u4.m _);refine aE (lL b ac ?_)
 rcases cJ hq with ⟨be,he,rfl⟩|⟨t1,y1,hq1,hq2⟩
 .
  refine bj 5 (X n (nR _) rb s z a ha (.err be) he _ _ b.g (b.own 1) (b.jk 1) b.f.1) ?_;rintro _ w6 h7 u8 ⟨C,rfl,cq⟩;replace b:=(b.stepM 1 u8 cq).to [⟨F,47,ax ⟨0,0,false,none,0,0,none,0,0,⟨#[]⟩,none,0,0⟩⟩,⟨rb,67,[.string s,nV s.size,nV be]⟩] [];replace d:=d.trans u8;refine fe 3 47 (ax ⟨0,0,false,none,0,0,none,0,0,⟨#[]⟩,none,0,0⟩) b (fun b9 _ _ u12 D b=>?_);replace D:=ed d.gr.size D;replace d:=d.trans (u12.m _);refine ce 0 0 (ax C) b (fun _ B b=>?_);replace d:=d.put2 B D g b.g;refine ai (kZ (cU ?_));refine cN (cQ (aa b [.c,.v (pB rb),.v (qP rb 2),.o (nV be) 2 2 1] ?_));cases zc:(decide ((be:Int)<(0:Int)))
  .
   have ze:=oF zc;refine lB 10 zc (ah (CG.exit ?_))
   show CG _ _ _ _ _ _ _ _
   refine aa b [.o (aY C) 0 0 7] (ce 1 0 (ax C) b (fun _ B b=>?_));replace d:=d.put2 B l g b.g;exact lN (kX (b.retM d [(1,0,7)] (aY C) (⟨_,rfl,b.own 2⟩)))
  have ze:=oT zc;refine lB 10 zc (aj (cK (kZ (kZ (aa b ac (bj 14 (dJ rb s z be 43 _ _ b.g (b.own 2) (b.jk 2) b.f.1) ?_))))));rintro _ _ _ u19 ⟨rfl,b0⟩;replace b:=(b.stepM 2 u19 b0).to [⟨b9,47,ax C⟩,⟨F,47,ax ⟨0,0,false,none,0,0,none,0,0,⟨#[]⟩,none,0,0⟩⟩,⟨rb,67,[.string s,nV s.size,nV be]⟩] [];replace d:=d.trans u19;refine lL b ac (ah (aa b ac (bj 21 (dJ rb s z be 45 _ _ b.g (b.own 2) (b.jk 2) b.f.1) ?_)));rintro _ _ _ u23 ⟨rfl,b5⟩;replace b:=(b.stepM 2 u23 b5).to [⟨b9,47,ax C⟩,⟨F,47,ax ⟨0,0,false,none,0,0,none,0,0,⟨#[]⟩,none,0,0⟩⟩,⟨rb,67,[.string s,nV s.size,nV be]⟩] [];replace d:=d.trans u23;refine lL b ac (ah (aa b [.o (aY C) 0 0 7] (ce 1 0 (ax C) b (fun _ B b=>?_))));replace d:=d.put2 B l g b.g;exact lN (kX (b.retM d [(1,0,7)] (aY C) (⟨_,rfl,b.own 2⟩)))
 refine bj 5 (X n (nR _) rb s z a ha (.ok t1 y1) hq1 _ _ b.g (b.own 1) (b.jk 1) b.f.1) ?_;rintro _ _ _ u28 ⟨H,rfl,cm,bt,bq⟩;replace b:=(b.stepM 1 u28 bt).to [⟨F,47,ax ⟨0,0,false,none,0,0,none,0,0,⟨#[]⟩,none,0,0⟩⟩,⟨rb,67,[.string s,nV y1,iV (-1)]⟩] [];replace d:=d.trans u28;replace b:=(b.add (K:=fun y=>RtH y H t1) bq);refine fe 3 47 (ax ⟨0,0,false,none,0,0,none,0,0,⟨#[]⟩,none,0,0⟩) b (fun Q _ zf u32 e b=>?_);replace e:=ed d.gr.size e;replace d:=d.trans (u32.m _);refine ce 0 0 (ax H) b (fun _ B b=>?_);replace d:=d.put2 B e g b.g;refine ai (kZ ?_);replace b:=b.add (K:=fun y=>LpS nf bf s false r n H t1 y1 (-1) y) ((.inl ⟨rfl,cm,hq2,b.f.1⟩));refine bG _ (CG.loop (fun μ_ Γ w_=>∃ (m:Nat)(x:RTm)(u:Tm)(k:Nat)(bd1:Int)(y:Hp),μ_=m/\Γ=[(0,pB rb),(2,pB F),(3,pB Q)]/\SS wz cr w_ y [⟨Q,47,ax x⟩,⟨F,47,ax ⟨0,0,false,none,0,0,none,0,0,⟨#[]⟩,none,0,0⟩⟩,⟨rb,67,[.string s,nV k,iV bd1]⟩] [] [fun y=>LpS nf bf s false r m x u k bd1 y,fun y=>RtH y H t1,fun y=>Tab y]/\m<=n/\UpM [rb] w h w_ y) _ ⟨n,H,t1,y1,(-1),zf,rfl,rfl,b.to _ _,nR _,d⟩ ?_);rintro _ _ _ ⟨m,x,u,k,bd1,_,df,rfl,b,hm,d⟩;refine cQ (aG ?_)
 rcases b.f.1 with ⟨rfl,hk,hq,hT⟩|⟨be,rfl,rfl,rfl⟩
 .
  replace b:=b.to [⟨Q,47,ax x⟩,⟨F,47,ax ⟨0,0,false,none,0,0,none,0,0,⟨#[]⟩,none,0,0⟩⟩,⟨rb,67,[.string s,nV k,iV (-1)]⟩] [];replace b:=b.add (K:=fun y=>RtH y x u) hT;obtain ⟨U,rfl⟩:=ik hq;have dk:=bB (s:=s) (a:=k) hk;refine lL b [.c,.v (pB rb),.v (qP rb 2),.o (iV (-1)) 2 2 1,.v qT] (aj (cK (kZ (kZ (aa b ac ?_)))));have c4:=bB (s:=s) (a:=k) oM;refine bj 14 (iK rb s z k oM 43 kD _ _ b.g (b.own 2) (b.jk 2) b.f.r.2.1) ?_;rintro _ _ _ Y (⟨rfl,I,c8,J⟩|⟨rfl,I,J⟩)
  .
   replace b:=(b.stepM 2 Y J).to [⟨Q,47,ax x⟩,⟨F,47,ax ⟨0,0,false,none,0,0,none,0,0,⟨#[]⟩,none,0,0⟩⟩,⟨rb,67,[.string s,nV (sk s k+1),iV (-1)]⟩] [];replace d:=d.trans Y;have hcT:=I;refine lL b ac (aj (CG.region ⟨[rb],none⟩ 4 [] mixed kR b.g aw (fun _ hb=>by rw[n1.1 hb];exact aI (b.jk 2)) ?_));refine eO 0 15 [(0,0,7)] (aY x) b ?_ (hM:=fun p X=>by obtain rfl:=n1.1 X;exact fun hm=>cB b.st (i:=0) (j:=2) kR kR kR (n1.1 hm));refine eV 1 16 (pB rb) ?_
   rcases cJ (x9 hq hcT) with ⟨be,he,hre⟩|⟨v1,e1,hv1,hw1⟩
   .
    refine jf 2 17 b d (n1.2 rfl) (n1.2 rfl) (fun _ _ b=>X U oM rb s z (sk s k+1) oM (.err be) he _ _ b.g (b.own 2) (b.jk 2) b.f.r.2.1) ?_;rintro _ _ _ _ _ b u44 d ⟨cx,rfl,b2⟩;replace b:=(b.stepM 2 u44 b2).to [⟨Q,47,ax x⟩,⟨F,47,ax ⟨0,0,false,none,0,0,none,0,0,⟨#[]⟩,none,0,0⟩⟩,⟨rb,67,[.string s,nV s.size,nV be]⟩] [];refine ie 3 18 b d (fun _ _ b=>sv 3 x cx _ _ b.g) ?_;rintro _ _ _ _ _ d b ⟨W,rfl⟩;refine bL b (fun _ zg u50 b=>?_);replace d:=d.trans (u50.m _);refine kj 4 0 0 (ax W) b (fun _ B b=>?_);replace d:=d.put2 B e g b.g;refine tD ?_;intro a_ ka;replace b:=(b.tl.tl.add (K:=fun y=>LpS nf bf s false r U W u s.size (be:Nat) y) (.inr ⟨be,hre,rfl,rfl⟩));refine ⟨_,_,?_,⟨U,W,u,s.size,(be:Nat),zg,rfl,rfl,b.to _ _,oM,d⟩,ka.to _ kR⟩
    omega
   refine jf 2 17 b d (n1.2 rfl) (n1.2 rfl) (fun _ _ b=>X U oM rb s z (sk s k+1) oM (.ok v1 e1) hv1 _ _ b.g (b.own 2) (b.jk 2) b.f.r.2.1) ?_;rintro _ _ _ _ _ b u58 d ⟨bl,rfl,c7,b7,b4⟩;replace b:=(b.stepM 2 u58 b7).to [⟨Q,47,ax x⟩,⟨F,47,ax ⟨0,0,false,none,0,0,none,0,0,⟨#[]⟩,none,0,0⟩⟩,⟨rb,67,[.string s,nV e1,iV (-1)]⟩] [];replace b:=(b.add (K:=fun y=>RtH y bl v1) b4);refine ie 3 18 b d (fun _ _ b=>tj 3 x bl u v1 _ _ b.g b.f.2.1 b.f.1) ?_;rintro _ _ _ _ _ d b ⟨S,rfl,ch⟩;replace b:=(b.add (K:=fun y=>RtH y S (bz 3 u v1)) ch);refine bL b (fun _ zi u64 b=>?_);replace d:=d.trans (u64.m _);refine kj 4 0 0 (ax S) b (fun _ B b=>?_);replace d:=d.put2 B e g b.g;refine tD ?_;intro a_ ka;replace b:=(b.tl.tl.tl.tl.add (K:=fun y=>LpS nf bf s false r U S (bz 3 u v1) e1 (-1) y) (.inl ⟨rfl,by omega,hw1,b.f.1⟩));refine ⟨_,_,?_,⟨U,S,(bz 3 u v1),e1,(-1),zi,rfl,rfl,b.to _ _,oM,d⟩,ka.to _ kR⟩
   omega
  replace b:=(b.stepM 2 Y J).to [⟨Q,47,ax x⟩,⟨F,47,ax ⟨0,0,false,none,0,0,none,0,0,⟨#[]⟩,none,0,0⟩⟩,⟨rb,67,[.string s,nV (sk s k),iV (-1)]⟩] [];replace d:=d.trans Y;have hcF:=I;refine lL b ac (ah (aa b ac ?_));have c5:=bB (s:=s) (a:=(sk s k)) oM;refine bj 21 (nB rb s z (sk s k) oM 45 kD (pF _ _) _ _ b.g (b.own 2) (b.jk 2) b.f.r.2.1) ?_;rintro _ _ _ Z (⟨rfl,M,dc,L⟩|⟨rfl,M,L⟩)
  .
   replace b:=(b.stepM 2 Z L).to [⟨Q,47,ax x⟩,⟨F,47,ax ⟨0,0,false,none,0,0,none,0,0,⟨#[]⟩,none,0,0⟩⟩,⟨rb,67,[.string s,nV ((sk s k)+1),iV (-1)]⟩] [];replace d:=d.trans Z;have cz:=M;refine lL b ac (aj (CG.region ⟨[rb],none⟩ 4 [] mixed kR b.g aw (fun _ hb=>by rw[n1.1 hb];exact aI (b.jk 2)) ?_));refine eO 0 22 [(0,0,7)] (aY x) b ?_ (hM:=fun p X=>by obtain rfl:=n1.1 X;exact fun hm=>cB b.st (i:=0) (j:=2) kR kR kR (n1.1 hm));refine eV 1 23 (pB rb) ?_
   rcases cJ (x5 hq hcF cz) with ⟨be,he,hre⟩|⟨v1,e1,hv1,hw1⟩
   .
    refine jf 2 24 b d (n1.2 rfl) (n1.2 rfl) (fun _ _ b=>X U oM rb s z ((sk s k)+1) oM (.err be) he _ _ b.g (b.own 2) (b.jk 2) b.f.r.2.1) ?_;rintro _ _ _ _ _ b u76 d ⟨c3,rfl,bw⟩;replace b:=(b.stepM 2 u76 bw).to [⟨Q,47,ax x⟩,⟨F,47,ax ⟨0,0,false,none,0,0,none,0,0,⟨#[]⟩,none,0,0⟩⟩,⟨rb,67,[.string s,nV s.size,nV be]⟩] [];refine ie 3 25 b d (fun _ _ b=>sv 4 x c3 _ _ b.g) ?_;rintro _ _ _ _ _ d b ⟨V,rfl⟩;refine bL b (fun _ zj u82 b=>?_);replace d:=d.trans (u82.m _);refine kj 4 0 0 (ax V) b (fun _ B b=>?_);replace d:=d.put2 B e g b.g;refine tD ?_;intro a_ ka;replace b:=(b.tl.tl.add (K:=fun y=>LpS nf bf s false r U V u s.size (be:Nat) y) (.inr ⟨be,hre,rfl,rfl⟩));refine ⟨_,_,?_,⟨U,V,u,s.size,(be:Nat),zj,rfl,rfl,b.to _ _,oM,d⟩,ka.to _ kR⟩
    omega
   refine jf 2 24 b d (n1.2 rfl) (n1.2 rfl) (fun _ _ b=>X U oM rb s z ((sk s k)+1) oM (.ok v1 e1) hv1 _ _ b.g (b.own 2) (b.jk 2) b.f.r.2.1) ?_;rintro _ _ _ _ _ b u90 d ⟨bm,rfl,c6,br,b3⟩;replace b:=(b.stepM 2 u90 br).to [⟨Q,47,ax x⟩,⟨F,47,ax ⟨0,0,false,none,0,0,none,0,0,⟨#[]⟩,none,0,0⟩⟩,⟨rb,67,[.string s,nV e1,iV (-1)]⟩] [];replace b:=(b.add (K:=fun y=>RtH y bm v1) b3);refine ie 3 25 b d (fun _ _ b=>tj 4 x bm u v1 _ _ b.g b.f.2.1 b.f.1) ?_;rintro _ _ _ _ _ d b ⟨O,rfl,b6⟩;replace b:=(b.add (K:=fun y=>RtH y O (bz 4 u v1)) b6);refine bL b (fun _ zk u96 b=>?_);replace d:=d.trans (u96.m _);refine kj 4 0 0 (ax O) b (fun _ B b=>?_);replace d:=d.put2 B e g b.g;refine tD ?_;intro a_ ka;replace b:=(b.tl.tl.tl.tl.add (K:=fun y=>LpS nf bf s false r U O (bz 4 u v1) e1 (-1) y) (.inl ⟨rfl,by omega,hw1,b.f.1⟩));refine ⟨_,_,?_,⟨U,O,(bz 4 u v1),e1,(-1),zk,rfl,rfl,b.to _ _,oM,d⟩,ka.to _ kR⟩
   omega
  replace b:=(b.stepM 2 Z L).to [⟨Q,47,ax x⟩,⟨F,47,ax ⟨0,0,false,none,0,0,none,0,0,⟨#[]⟩,none,0,0⟩⟩,⟨rb,67,[.string s,nV (sk s k),iV (-1)]⟩] [];replace d:=d.trans Z;have cy:=M;refine lL b ac (ah (aa b [.o (aY x) 0 0 7] (ce 1 0 (ax x) b (fun _ B b=>?_))));replace d:=d.put2 B l g b.g;refine lN (kX ?_);obtain rfl:=xh hq hcF cy;exact b.retM d [(1,0,7)] (aY x) (⟨x,rfl,by omega,b.own 2,b.f.1⟩)
 replace b:=b.to [⟨Q,47,ax x⟩,⟨F,47,ax ⟨0,0,false,none,0,0,none,0,0,⟨#[]⟩,none,0,0⟩⟩,⟨rb,67,[.string s,nV s.size,nV be]⟩] [];refine lL b [.c,.v (pB rb),.v (qP rb 2),.o (nV be) 2 2 1] ?_;cases zb:(decide ((be:Int)<(0:Int)))
 .
  have zd:=oF zb;refine lB 10 zb (ah (CG.exit ?_))
  show CG _ _ _ _ _ _ _ _
  refine aa b [.o (aY x) 0 0 7] (ce 1 0 (ax x) b (fun _ B b=>?_));replace d:=d.put2 B l g b.g;exact lN (kX (b.retM d [(1,0,7)] (aY x) (⟨_,rfl,b.own 2⟩)))
 have zd:=oT zb;refine lB 10 zb (aj (cK (kZ (kZ (aa b ac (bj 14 (dJ rb s z be 43 _ _ b.g (b.own 2) (b.jk 2) b.f.r.1) ?_))))));rintro _ _ _ bk ⟨rfl,bd⟩;replace b:=(b.stepM 2 bk bd).to [⟨Q,47,ax x⟩,⟨F,47,ax ⟨0,0,false,none,0,0,none,0,0,⟨#[]⟩,none,0,0⟩⟩,⟨rb,67,[.string s,nV s.size,nV be]⟩] [];replace d:=d.trans bk;refine lL b ac (ah (aa b ac (bj 21 (dJ rb s z be 45 _ _ b.g (b.own 2) (b.jk 2) b.f.r.1) ?_)));rintro _ _ _ bp ⟨rfl,bb⟩;replace b:=(b.stepM 2 bp bb).to [⟨Q,47,ax x⟩,⟨F,47,ax ⟨0,0,false,none,0,0,none,0,0,⟨#[]⟩,none,0,0⟩⟩,⟨rb,67,[.string s,nV s.size,nV be]⟩] [];replace d:=d.trans bp;refine lL b ac (ah (aa b [.o (aY x) 0 0 7] (ce 1 0 (ax x) b (fun _ B b=>?_))));replace d:=d.put2 B l g b.g;exact lN (kX (b.retM d [(1,0,7)] (aY x) (⟨_,rfl,b.own 2⟩)))
theorem xk  (X:∀ m,m<=n->RC nf bf 55 m .sign)(rb:Nat)(s:ByteArray)(z:s.size<=1000000)(a:Nat)(ha:a<=s.size)(r:PR)(hq:bn nf bf s (n+1) .prod a=some r)(w:World)(h:Hp)(g:G w h)(ho:Own w rb 67 [.string s,nV a,iV (-1)])(hj:h[rb]?=some junk)(tb:Tab h):Calls Tryz.prog 35 #[pB rb] w (bW rb w h (DD rb s r)):=by
 have d:UpM [rb] w h w h:=UpM.refl g;obtain ⟨wz,cr,b⟩:=SS.at_ g ho hj;replace b:=(b.add (K:=fun y=>Tab y) tb);refine go Tryz.func35 [(0,pB rb)] rfl (aG (fe 2 47 (ax ⟨0,0,false,none,0,0,none,0,0,⟨#[]⟩,none,0,0⟩) b (fun F w2 h3 u4 l b=>?_)));replace l:=ed d.gr.size l;replace d:=d.trans (u4.m _);refine aE (lL b ac ?_)
 rcases cJ hq with ⟨be,he,rfl⟩|⟨t1,y1,hq1,hq2⟩
 .
  refine bj 5 (X n (nR _) rb s z a ha (.err be) he _ _ b.g (b.own 1) (b.jk 1) b.f.1) ?_;rintro _ w6 h7 u8 ⟨C,rfl,cq⟩;replace b:=(b.stepM 1 u8 cq).to [⟨F,47,ax ⟨0,0,false,none,0,0,none,0,0,⟨#[]⟩,none,0,0⟩⟩,⟨rb,67,[.string s,nV s.size,nV be]⟩] [];replace d:=d.trans u8;refine fe 3 47 (ax ⟨0,0,false,none,0,0,none,0,0,⟨#[]⟩,none,0,0⟩) b (fun b9 _ _ u12 D b=>?_);replace D:=ed d.gr.size D;replace d:=d.trans (u12.m _);refine ce 0 0 (ax C) b (fun _ B b=>?_);replace d:=d.put2 B D g b.g;refine ai (kZ (cU ?_));refine cN (cQ (aa b [.c,.v (pB rb),.v (qP rb 2),.o (nV be) 2 2 1] ?_));cases zc:(decide ((be:Int)<(0:Int)))
  .
   have ze:=oF zc;refine lB 10 zc (ah (CG.exit ?_))
   show CG _ _ _ _ _ _ _ _
   refine aa b [.o (aY C) 0 0 7] (ce 1 0 (ax C) b (fun _ B b=>?_));replace d:=d.put2 B l g b.g;exact lN (kX (b.retM d [(1,0,7)] (aY C) (⟨_,rfl,b.own 2⟩)))
  have ze:=oT zc;refine lB 10 zc (aj (cK (kZ (kZ (aa b ac (bj 14 (dJ rb s z be 42 _ _ b.g (b.own 2) (b.jk 2) b.f.1) ?_))))));rintro _ _ _ u19 ⟨rfl,b0⟩;replace b:=(b.stepM 2 u19 b0).to [⟨b9,47,ax C⟩,⟨F,47,ax ⟨0,0,false,none,0,0,none,0,0,⟨#[]⟩,none,0,0⟩⟩,⟨rb,67,[.string s,nV s.size,nV be]⟩] [];replace d:=d.trans u19;refine lL b ac (ah (aa b ac (bj 21 (dJ rb s z be 47 _ _ b.g (b.own 2) (b.jk 2) b.f.1) ?_)));rintro _ _ _ u23 ⟨rfl,b5⟩;replace b:=(b.stepM 2 u23 b5).to [⟨b9,47,ax C⟩,⟨F,47,ax ⟨0,0,false,none,0,0,none,0,0,⟨#[]⟩,none,0,0⟩⟩,⟨rb,67,[.string s,nV s.size,nV be]⟩] [];replace d:=d.trans u23;refine lL b ac (ah (aa b [.o (aY C) 0 0 7] (ce 1 0 (ax C) b (fun _ B b=>?_))));replace d:=d.put2 B l g b.g;exact lN (kX (b.retM d [(1,0,7)] (aY C) (⟨_,rfl,b.own 2⟩)))
 refine bj 5 (X n (nR _) rb s z a ha (.ok t1 y1) hq1 _ _ b.g (b.own 1) (b.jk 1) b.f.1) ?_;rintro _ _ _ u28 ⟨H,rfl,cm,bt,bq⟩;replace b:=(b.stepM 1 u28 bt).to [⟨F,47,ax ⟨0,0,false,none,0,0,none,0,0,⟨#[]⟩,none,0,0⟩⟩,⟨rb,67,[.string s,nV y1,iV (-1)]⟩] [];replace d:=d.trans u28;replace b:=(b.add (K:=fun y=>RtH y H t1) bq);refine fe 3 47 (ax ⟨0,0,false,none,0,0,none,0,0,⟨#[]⟩,none,0,0⟩) b (fun Q _ zf u32 e b=>?_);replace e:=ed d.gr.size e;replace d:=d.trans (u32.m _);refine ce 0 0 (ax H) b (fun _ B b=>?_);replace d:=d.put2 B e g b.g;refine ai (kZ ?_);replace b:=b.add (K:=fun y=>LpS nf bf s true r n H t1 y1 (-1) y) ((.inl ⟨rfl,cm,hq2,b.f.1⟩));refine bG _ (CG.loop (fun μ_ Γ w_=>∃ (m:Nat)(x:RTm)(u:Tm)(k:Nat)(bd1:Int)(y:Hp),μ_=m/\Γ=[(0,pB rb),(2,pB F),(3,pB Q)]/\SS wz cr w_ y [⟨Q,47,ax x⟩,⟨F,47,ax ⟨0,0,false,none,0,0,none,0,0,⟨#[]⟩,none,0,0⟩⟩,⟨rb,67,[.string s,nV k,iV bd1]⟩] [] [fun y=>LpS nf bf s true r m x u k bd1 y,fun y=>RtH y H t1,fun y=>Tab y]/\m<=n/\UpM [rb] w h w_ y) _ ⟨n,H,t1,y1,(-1),zf,rfl,rfl,b.to _ _,nR _,d⟩ ?_);rintro _ _ _ ⟨m,x,u,k,bd1,_,df,rfl,b,hm,d⟩;refine cQ (aG ?_)
 rcases b.f.1 with ⟨rfl,hk,hq,hT⟩|⟨be,rfl,rfl,rfl⟩
 .
  replace b:=b.to [⟨Q,47,ax x⟩,⟨F,47,ax ⟨0,0,false,none,0,0,none,0,0,⟨#[]⟩,none,0,0⟩⟩,⟨rb,67,[.string s,nV k,iV (-1)]⟩] [];replace b:=b.add (K:=fun y=>RtH y x u) hT;obtain ⟨U,rfl⟩:=ik hq;have dk:=bB (s:=s) (a:=k) hk;refine lL b [.c,.v (pB rb),.v (qP rb 2),.o (iV (-1)) 2 2 1,.v qT] (aj (cK (kZ (kZ (aa b ac ?_)))));have c4:=bB (s:=s) (a:=k) oM;refine bj 14 (iK rb s z k oM 42 kD _ _ b.g (b.own 2) (b.jk 2) b.f.r.2.1) ?_;rintro _ _ _ Y (⟨rfl,I,c8,J⟩|⟨rfl,I,J⟩)
  .
   replace b:=(b.stepM 2 Y J).to [⟨Q,47,ax x⟩,⟨F,47,ax ⟨0,0,false,none,0,0,none,0,0,⟨#[]⟩,none,0,0⟩⟩,⟨rb,67,[.string s,nV (sk s k+1),iV (-1)]⟩] [];replace d:=d.trans Y;have hcT:=I;refine lL b ac (aj (CG.region ⟨[rb],none⟩ 4 [] mixed kR b.g aw (fun _ hb=>by rw[n1.1 hb];exact aI (b.jk 2)) ?_));refine eO 0 15 [(0,0,7)] (aY x) b ?_ (hM:=fun p X=>by obtain rfl:=n1.1 X;exact fun hm=>cB b.st (i:=0) (j:=2) kR kR kR (n1.1 hm));refine eV 1 16 (pB rb) ?_
   rcases cJ (x9 hq hcT) with ⟨be,he,hre⟩|⟨v1,e1,hv1,hw1⟩
   .
    refine jf 2 17 b d (n1.2 rfl) (n1.2 rfl) (fun _ _ b=>X U oM rb s z (sk s k+1) oM (.err be) he _ _ b.g (b.own 2) (b.jk 2) b.f.r.2.1) ?_;rintro _ _ _ _ _ b u44 d ⟨cx,rfl,b2⟩;replace b:=(b.stepM 2 u44 b2).to [⟨Q,47,ax x⟩,⟨F,47,ax ⟨0,0,false,none,0,0,none,0,0,⟨#[]⟩,none,0,0⟩⟩,⟨rb,67,[.string s,nV s.size,nV be]⟩] [];refine ie 3 18 b d (fun _ _ b=>sv 5 x cx _ _ b.g) ?_;rintro _ _ _ _ _ d b ⟨W,rfl⟩;refine bL b (fun _ zg u50 b=>?_);replace d:=d.trans (u50.m _);refine kj 4 0 0 (ax W) b (fun _ B b=>?_);replace d:=d.put2 B e g b.g;refine tD ?_;intro a_ ka;replace b:=(b.tl.tl.add (K:=fun y=>LpS nf bf s true r U W u s.size (be:Nat) y) (.inr ⟨be,hre,rfl,rfl⟩));refine ⟨_,_,?_,⟨U,W,u,s.size,(be:Nat),zg,rfl,rfl,b.to _ _,oM,d⟩,ka.to _ kR⟩
    omega
   refine jf 2 17 b d (n1.2 rfl) (n1.2 rfl) (fun _ _ b=>X U oM rb s z (sk s k+1) oM (.ok v1 e1) hv1 _ _ b.g (b.own 2) (b.jk 2) b.f.r.2.1) ?_;rintro _ _ _ _ _ b u58 d ⟨bl,rfl,c7,b7,b4⟩;replace b:=(b.stepM 2 u58 b7).to [⟨Q,47,ax x⟩,⟨F,47,ax ⟨0,0,false,none,0,0,none,0,0,⟨#[]⟩,none,0,0⟩⟩,⟨rb,67,[.string s,nV e1,iV (-1)]⟩] [];replace b:=(b.add (K:=fun y=>RtH y bl v1) b4);refine ie 3 18 b d (fun _ _ b=>tj 5 x bl u v1 _ _ b.g b.f.2.1 b.f.1) ?_;rintro _ _ _ _ _ d b ⟨S,rfl,ch⟩;replace b:=(b.add (K:=fun y=>RtH y S (bz 5 u v1)) ch);refine bL b (fun _ zi u64 b=>?_);replace d:=d.trans (u64.m _);refine kj 4 0 0 (ax S) b (fun _ B b=>?_);replace d:=d.put2 B e g b.g;refine tD ?_;intro a_ ka;replace b:=(b.tl.tl.tl.tl.add (K:=fun y=>LpS nf bf s true r U S (bz 5 u v1) e1 (-1) y) (.inl ⟨rfl,by omega,hw1,b.f.1⟩));refine ⟨_,_,?_,⟨U,S,(bz 5 u v1),e1,(-1),zi,rfl,rfl,b.to _ _,oM,d⟩,ka.to _ kR⟩
   omega
  replace b:=(b.stepM 2 Y J).to [⟨Q,47,ax x⟩,⟨F,47,ax ⟨0,0,false,none,0,0,none,0,0,⟨#[]⟩,none,0,0⟩⟩,⟨rb,67,[.string s,nV (sk s k),iV (-1)]⟩] [];replace d:=d.trans Y;have hcF:=I;refine lL b ac (ah (aa b ac ?_));have c5:=bB (s:=s) (a:=(sk s k)) oM;refine bj 21 (nB rb s z (sk s k) oM 47 kD (pF _ _) _ _ b.g (b.own 2) (b.jk 2) b.f.r.2.1) ?_;rintro _ _ _ Z (⟨rfl,M,dc,L⟩|⟨rfl,M,L⟩)
  .
   replace b:=(b.stepM 2 Z L).to [⟨Q,47,ax x⟩,⟨F,47,ax ⟨0,0,false,none,0,0,none,0,0,⟨#[]⟩,none,0,0⟩⟩,⟨rb,67,[.string s,nV ((sk s k)+1),iV (-1)]⟩] [];replace d:=d.trans Z;have cz:=M;refine lL b ac (aj (CG.region ⟨[rb],none⟩ 4 [] mixed kR b.g aw (fun _ hb=>by rw[n1.1 hb];exact aI (b.jk 2)) ?_));refine eO 0 22 [(0,0,7)] (aY x) b ?_ (hM:=fun p X=>by obtain rfl:=n1.1 X;exact fun hm=>cB b.st (i:=0) (j:=2) kR kR kR (n1.1 hm));refine eV 1 23 (pB rb) ?_
   rcases cJ (x5 hq hcF cz) with ⟨be,he,hre⟩|⟨v1,e1,hv1,hw1⟩
   .
    refine jf 2 24 b d (n1.2 rfl) (n1.2 rfl) (fun _ _ b=>X U oM rb s z ((sk s k)+1) oM (.err be) he _ _ b.g (b.own 2) (b.jk 2) b.f.r.2.1) ?_;rintro _ _ _ _ _ b u76 d ⟨c3,rfl,bw⟩;replace b:=(b.stepM 2 u76 bw).to [⟨Q,47,ax x⟩,⟨F,47,ax ⟨0,0,false,none,0,0,none,0,0,⟨#[]⟩,none,0,0⟩⟩,⟨rb,67,[.string s,nV s.size,nV be]⟩] [];refine ie 3 25 b d (fun _ _ b=>sv 6 x c3 _ _ b.g) ?_;rintro _ _ _ _ _ d b ⟨V,rfl⟩;refine bL b (fun _ zj u82 b=>?_);replace d:=d.trans (u82.m _);refine kj 4 0 0 (ax V) b (fun _ B b=>?_);replace d:=d.put2 B e g b.g;refine tD ?_;intro a_ ka;replace b:=(b.tl.tl.add (K:=fun y=>LpS nf bf s true r U V u s.size (be:Nat) y) (.inr ⟨be,hre,rfl,rfl⟩));refine ⟨_,_,?_,⟨U,V,u,s.size,(be:Nat),zj,rfl,rfl,b.to _ _,oM,d⟩,ka.to _ kR⟩
    omega
   refine jf 2 24 b d (n1.2 rfl) (n1.2 rfl) (fun _ _ b=>X U oM rb s z ((sk s k)+1) oM (.ok v1 e1) hv1 _ _ b.g (b.own 2) (b.jk 2) b.f.r.2.1) ?_;rintro _ _ _ _ _ b u90 d ⟨bm,rfl,c6,br,b3⟩;replace b:=(b.stepM 2 u90 br).to [⟨Q,47,ax x⟩,⟨F,47,ax ⟨0,0,false,none,0,0,none,0,0,⟨#[]⟩,none,0,0⟩⟩,⟨rb,67,[.string s,nV e1,iV (-1)]⟩] [];replace b:=(b.add (K:=fun y=>RtH y bm v1) b3);refine ie 3 25 b d (fun _ _ b=>tj 6 x bm u v1 _ _ b.g b.f.2.1 b.f.1) ?_;rintro _ _ _ _ _ d b ⟨O,rfl,b6⟩;replace b:=(b.add (K:=fun y=>RtH y O (bz 6 u v1)) b6);refine bL b (fun _ zk u96 b=>?_);replace d:=d.trans (u96.m _);refine kj 4 0 0 (ax O) b (fun _ B b=>?_);replace d:=d.put2 B e g b.g;refine tD ?_;intro a_ ka;replace b:=(b.tl.tl.tl.tl.add (K:=fun y=>LpS nf bf s true r U O (bz 6 u v1) e1 (-1) y) (.inl ⟨rfl,by omega,hw1,b.f.1⟩));refine ⟨_,_,?_,⟨U,O,(bz 6 u v1),e1,(-1),zk,rfl,rfl,b.to _ _,oM,d⟩,ka.to _ kR⟩
   omega
  replace b:=(b.stepM 2 Z L).to [⟨Q,47,ax x⟩,⟨F,47,ax ⟨0,0,false,none,0,0,none,0,0,⟨#[]⟩,none,0,0⟩⟩,⟨rb,67,[.string s,nV (sk s k),iV (-1)]⟩] [];replace d:=d.trans Z;have cy:=M;refine lL b ac (ah (aa b [.o (aY x) 0 0 7] (ce 1 0 (ax x) b (fun _ B b=>?_))));replace d:=d.put2 B l g b.g;refine lN (kX ?_);obtain rfl:=xh hq hcF cy;exact b.retM d [(1,0,7)] (aY x) (⟨x,rfl,by omega,b.own 2,b.f.1⟩)
 replace b:=b.to [⟨Q,47,ax x⟩,⟨F,47,ax ⟨0,0,false,none,0,0,none,0,0,⟨#[]⟩,none,0,0⟩⟩,⟨rb,67,[.string s,nV s.size,nV be]⟩] [];refine lL b [.c,.v (pB rb),.v (qP rb 2),.o (nV be) 2 2 1] ?_;cases zb:(decide ((be:Int)<(0:Int)))
 .
  have zd:=oF zb;refine lB 10 zb (ah (CG.exit ?_))
  show CG _ _ _ _ _ _ _ _
  refine aa b [.o (aY x) 0 0 7] (ce 1 0 (ax x) b (fun _ B b=>?_));replace d:=d.put2 B l g b.g;exact lN (kX (b.retM d [(1,0,7)] (aY x) (⟨_,rfl,b.own 2⟩)))
 have zd:=oT zb;refine lB 10 zb (aj (cK (kZ (kZ (aa b ac (bj 14 (dJ rb s z be 42 _ _ b.g (b.own 2) (b.jk 2) b.f.r.1) ?_))))));rintro _ _ _ bk ⟨rfl,bd⟩;replace b:=(b.stepM 2 bk bd).to [⟨Q,47,ax x⟩,⟨F,47,ax ⟨0,0,false,none,0,0,none,0,0,⟨#[]⟩,none,0,0⟩⟩,⟨rb,67,[.string s,nV s.size,nV be]⟩] [];replace d:=d.trans bk;refine lL b ac (ah (aa b ac (bj 21 (dJ rb s z be 47 _ _ b.g (b.own 2) (b.jk 2) b.f.r.1) ?_)));rintro _ _ _ bp ⟨rfl,bb⟩;replace b:=(b.stepM 2 bp bb).to [⟨Q,47,ax x⟩,⟨F,47,ax ⟨0,0,false,none,0,0,none,0,0,⟨#[]⟩,none,0,0⟩⟩,⟨rb,67,[.string s,nV s.size,nV be]⟩] [];replace d:=d.trans bp;refine lL b ac (ah (aa b [.o (aY x) 0 0 7] (ce 1 0 (ax x) b (fun _ B b=>?_))));replace d:=d.put2 B l g b.g;exact lN (kX (b.retM d [(1,0,7)] (aY x) (⟨_,rfl,b.own 2⟩)))
end
def bY (x:ByteArray):Option Nat:=if x.size<=200 then fM x else none
def cb (c b:Nat):Bool:=decide (b≠c)
def ej (x:ByteArray):Option Int:=if ak x 0=45 then (match bY (x.extract 1 x.size) with
    | some k=>if k=0 then none else some (-(k:Int))
    | none=>none) else (bY x).map fun k=>(k:Int)
def fL (x y:ByteArray):Option Rat:=match bY (if ak x 0=45 then x.extract 1 x.size else x) with
  | some k=>if 1<=y.size/\y.size<=200/\(∀ i,i<y.size->bM (ak y i)=true) then some (mkRat (bD (decide (ak x 0=45)) (k*10^y.size+dv y y.size)) (10^y.size)) else none
  | none=>none
def iB (x y:ByteArray):Option Rat:=match ej x with
  | some n=>match bY y with
    | some d=>if d=0 then none else some (mkRat n d)
    | none=>none
  | none=>none
def cF (x:ByteArray):Option Rat :=
  if rn (cb 47) x 0<x.size then iB (x.extract 0 (rn (cb 47) x 0)) (x.extract (rn (cb 47) x 0+1) x.size)
  else if rn (cb 46) x 0<x.size then fL (x.extract 0 (rn (cb 46) x 0)) (x.extract (rn (cb 46) x 0+1) x.size)
  else (ej x).map fun z=>(z:Rat)
def fI (n:Nat):ByteArray:=⟨(Lib.decDigits n).toArray⟩
def iP (z:Int):ByteArray:=if z<0 then ⟨#[45]⟩++fI z.natAbs else fI z.natAbs
def uw (q:Rat):ByteArray:=if q.den=1 then iP q.num else iP q.num++⟨#[47]⟩++fI q.den
def jO (x:ByteArray):Option Rat:=match cF x with
  | some q=>if uw q=x then some q else none
  | none=>none
def dD (n:Nat):List UInt8:=if n=0 then [] else Lib.decDigits n
def mZ (n:Nat):UInt8:=UInt8.ofNat (48+n)
theorem lz {n:Nat}(h:n≠0):dD n=Lib.decDigits n:=if_neg h
theorem nu {n:Nat}(h:n≠0):dD n=dD (n/10)++[mZ (n%10)]:=by
 rw[lz h,Lib.decDigits]
 by_cases h1:n<10
 ·rw[dif_pos h1,y9 h1,tv h1];rfl
 ·rw[dif_neg h1,lz oM];rfl
theorem Fq {n:Nat}(h:dD n=[]):n=0:=by
 refine Kq fun h1=>?_
 rw[nu h1] at h
 exact absurd h (by simp)
def uq:Nat->Nat->List UInt8
  | 0,_=>[]
  | m+1,r=>uq m (r/10)++[mZ (r%10)]
theorem uU:∀ (m q r:Nat),q≠0->r<10^m->dD (q*10^m+r)=dD q++uq m r
  | 0,q,r,h,hr=>by
    have:r=0:=by rw[JI] at hr;omega
    subst this;rw[JI,HA,ri];exact (List.append_nil _).symm
  | m + 1,q,r,h,hr=>by
    have e:q*10^(m+1)+r=(q*10^m+r/10)*10+r%10:=by
      rw[zy,I6,<-zY];omega
    have a:0<q*10^m:=Nat.mul_pos (Jh h) (A8 kD);rw[e,nu oM,show ((q*10^m+r/10)*10+r%10)/10=q*10^m+r/10 by omega,show ((q*10^m+r/10)*10+r%10)%10=r%10 by omega,uU m q (r/10) h (by rw[zy] at hr;omega),Kr]
    rfl
theorem fg:∀ (m r:Nat),0<m->r<10^m->Lib.nDigits r<=m
  | 0,_,h,_=>absurd h oM
  | m + 1,r,_,h=>by
    by_cases h1:r<10
    . rw[Lib.nDigits_small h1];omega
    . rw[Lib.nDigits_big h1]
      have a:0<m:=Jh fun e=>by subst e;rw[s4,Nat.pow_one] at h;omega
      have:=fg m (r/10) a (by rw[zy] at h;omega)
      omega
theorem mC:∀ m,uq m 0=ta m 48
  | 0=>rfl
  | m+1=>by
    show uq m (0/10)++[mZ (0%10)]=_
    rw[Nat.zero_div,mC m,List.replicate_succ']
    rfl
theorem se:∀ (m r:Nat),0<m->r<10^m->uq m r=ta (m-Lib.nDigits r) 48++Lib.decDigits r
  | 0,_,h,_=>absurd h oM
  | m + 1,r,_,h=>by
    show uq m (r/10)++[mZ (r%10)]=_
    rw[Lib.decDigits]
    by_cases h1:r<10
    . rw[dif_pos h1,Lib.nDigits_small h1,y9 h1,tv h1,mC];rfl
    . have a:0<m:=Jh fun e=>by subst e;rw[s4,Nat.pow_one] at h;omega
      rw[dif_neg h1,Lib.nDigits_big h1,se m (r/10) a (by rw[zy] at h;omega),Kr,Nat.add_sub_add_right];rfl
theorem vQ {n:Nat}:(dD n).length<=Lib.nDigits n:=by
 unfold dD;split
 ·exact JH _
 ·rw[Lib.decDigits_length];exact eb _
theorem uj {x:Nat}(h:x<10):(mZ x).toNat=48+x:=by unfold mZ;rw[UInt8.toNat_ofNat'];omega
theorem FA {n:Nat}(h:n≠0):fI n=⟨(dD n).toArray⟩:=by rw[lz h];rfl
theorem en (n:Nat):(fI n).size=Lib.nDigits n:=by
 show (Lib.decDigits n).toArray.size=_
 rw[List.size_toArray,Lib.decDigits_length]
theorem sY {s:ByteArray}{l:List UInt8}(h:s.data.toList=l):s=⟨l.toArray⟩:=by
 subst h;rfl
theorem nM (s t:ByteArray):(s++t).data.toList=s.data.toList++t.data.toList:=by simp
theorem dx {x:ByteArray}{k:Nat}(h:bY x=some k):x.size<=200/\fM x=some k:=by
 unfold bY at h;split at h
 ·rename_i c;exact ⟨c,h⟩
 ·cases h
theorem fy {x:ByteArray}(h:x.size=0\/200<x.size\/(1<x.size/\ak x 0=48)):bY x=none:=by
 unfold bY;split
 ·unfold fM;rw[if_pos oM]
 ·rfl
theorem ei {x:ByteArray}{i:Nat}(hi:i<x.size)(h:¬(48<=ak x i/\ak x i<=57)):bY x=none:=by
 unfold bY;split
 ·unfold fM;rw[if_pos (.inr (.inr fun a=>h (oT (a i hi))))]
 ·rfl
theorem gy {x:ByteArray}(h0:x.size≠0)(h1:x.size<=200)(b:¬(1<x.size/\ak x 0=48))(a:∀ i,i<x.size->48<=ak x i/\ak x i<=57):bY x=some (dv x x.size):=by
 unfold bY;rw[if_pos h1];unfold fM
 rw[if_neg];rintro (h|h|h)
 ·exact h0 h
 ·exact b h
 ·exact h fun i hi=>decide_eq_true (a i hi)
theorem cv {x:ByteArray}{k:Nat}(h:bY x=some k):k<10^200:=by
 obtain ⟨h1,b⟩:=dx h;obtain ⟨_,_,a,rfl⟩:=jU b;exact ep (hC x.size a) (Aa kD h1)
theorem oz {x:ByteArray}{k i:Nat}(h:bY x=some k)(hi:i<x.size):48<=ak x i/\ak x i<=57:=by
 obtain ⟨_,a⟩:=dx h;exact (jU a).2.2.1 i hi
theorem EJ {x:ByteArray}{k:Nat}(h:fM x=some k)(a:x.size<=3):bY x=some k:=by unfold bY;rw[if_pos oM];exact h
theorem CF {x:ByteArray}(h:fM x=none):bY x=none:=by unfold bY;split<;>first|exact h|rfl
theorem k8 {x:ByteArray}{k:Nat}(h:ak x 0=45)(a:bY (x.extract 1 x.size)=some k)(h0:k≠0):ej x=some (-(k:Int)):=by unfold ej;rw[if_pos h,a];exact if_neg h0
theorem dP {x:ByteArray}(h:ak x 0=45)(a:bY (x.extract 1 x.size)=none\/bY (x.extract 1 x.size)=some 0):ej x=none:=by
 unfold ej;rw[if_pos h]
 rcases a with a|a<;>rw[a]
 rfl
theorem dW {x:ByteArray}(h:ak x 0≠45):ej x=(bY x).map fun k=>(k:Int):=by unfold ej;rw[if_neg h]
theorem Bz {x:ByteArray}{z:Int}{i:Nat}(h:ej x=some z)(hi:i<x.size):ak x i≠46/\ak x i≠47:=by
  by_cases c:ak x 0=45
  . cases a:bY (x.extract 1 x.size) with
    | none=>rw[dP c (.inl a)] at h;cases h
    | some k =>
      by_cases e:i=0
      . subst e;omega
      . have:=oz (i:=i-1) a (by rw[ByteArray.size_extract];omega)
        rw[dd,show 1+(i-1)=i by omega] at this;omega
  . rw[dW c] at h
    cases a:bY x with
    | none=>rw[a] at h;cases h
    | some k=>have:=oz a hi;omega
theorem iT {x:ByteArray}{z:Int}(h:ej x=some z):z.natAbs<10^200:=by
  by_cases c:ak x 0=45
  . cases a:bY (x.extract 1 x.size) with
    | none=>rw[dP c (.inl a)] at h;cases h
    | some k =>
      have b:=cv a
      by_cases e:k=0
      . subst e;rw[dP c (.inr a)] at h;cases h
      . rw[k8 c a e] at h;injection h with h;subst h;rw[Int.natAbs_neg,Int.natAbs_natCast];exact b
  . rw[dW c] at h
    cases a:bY x with
    | none=>rw[a] at h;cases h
    | some k=>rw[a] at h;injection h with h;subst h;exact cv a
theorem n4 {s:ByteArray}{m i:Nat}(a:m<=s.size)(h:i<m):ak (s.extract 0 m) i=ak s i:=by
 unfold ak
 rw[A6,A6,show (s.extract 0 m).data.toList=s.data.toList.take m by simp,p1 h]
theorem dX {x y:ByteArray}{i:Nat}(hi:i<y.size)(h:¬(48<=ak y i/\ak y i<=57)):fL x y=none:=by
 unfold fL;split
 ·rw[if_neg];rintro ⟨_,_,a⟩;exact h (oT (a i hi))
 ·rfl
section
variable {x y u:ByteArray}(hu:(if ak x 0=45 then x.extract 1 x.size else x)=u)
include hu
theorem iJ (a:bY u=none):fL x y=none:=by unfold fL;rw[hu,a]
theorem ff {k:Nat}(a:bY u=some k)(h:y.size=0\/200<y.size):fL x y=none:=by
 unfold fL;rw[hu,a]
 exact if_neg fun c=>by omega
theorem gL {k:Nat}{b:Bool}(d:decide (ak x 0=45)=b)(e:bY u=some k)(h1:y.size≠0)(c:y.size<=200)(a:∀ i,i<y.size->48<=ak y i/\ak y i<=57):fL x y=some (mkRat (bD b (k*10^y.size+dv y y.size)) (10^y.size)):=by
 unfold fL;rw[hu,e,d]
 exact if_pos ⟨by omega,c,fun i hi=>decide_eq_true (a i hi)⟩
end
theorem jN {k n d:Nat}(c:k<10^200)(b:n<=200)(a:d<10^n):k*10^n+d<10^200*10^200:=by
 have h1:(k+1)*10^n<=10^200*10^200:=Jq c (Aa kD b);rw[I6,Nat.one_mul] at h1
 exact ep (Nat.add_lt_add_left a _) h1
theorem kh {c:Nat}{x:ByteArray}(h:rn (cb c) x 0<x.size):ak x (rn (cb c) x 0)=c:=Kq fun e=>by
 have:=je (cb c) x (x.size-0) 0 (eb _) h;exact absurd (oF this) (by unfold cb rn at *;intro a;exact a e)
theorem fR {p:Nat->Bool}{x:ByteArray}:∀ f a i,a<=i->i<pD p x f a->p (ak x i)=true
  | 0,a,i,h1,b=>by have b:i<a:=b;omega
  | f + 1,a,i,h1,b=>by
    unfold pD at b
    split at b
    . rename_i c
      by_cases e:i=a
      . subst e;exact c.2
      . exact fR f (a+1) i oM b
    . omega
theorem Db {c:Nat}{x:ByteArray}{j:Nat}(b:j<x.size)(h1:∀ i,i<j->ak x i≠c)(a:ak x j=c):rn (cb c) x 0=j :=
 dy (JH _) (JO b) (fun i _ hi=>decide_eq_true (h1 i hi)) (.inr (decide_eq_false fun h=>h a))
theorem td {c:Nat}{x:ByteArray}(h1:∀ i,i<x.size->ak x i≠c):rn (cb c) x 0=x.size :=
 dy (JH _) (eb _) (fun i _ hi=>decide_eq_true (h1 i hi)) (.inl rfl)
theorem fj {x:ByteArray}{j:Nat}(a:j<x.size)(h1:∀ i,i<j->ak x i≠47)(b:ak x j=47):cF x=iB (x.extract 0 j) (x.extract (j+1) x.size):=by
 unfold cF;rw[Db a h1 b,if_pos a]
theorem re {x:ByteArray}{j:Nat}(d:j<x.size)(h1:∀ i,i<j->ak x i≠46/\ak x i≠47)(b:ak x j=46):cF x=fL (x.extract 0 j) (x.extract (j+1) x.size):=by
  unfold cF
  split
  . rename_i c
    have e:=kh c
    have a:j<rn (cb 47) x 0:=by
      rcases Nat.lt_trichotomy j (rn (cb 47) x 0) with h|h|h
      . exact h
      . rw[<-h] at e;omega
      . have:=(h1 _ h).2;omega
    rw[dX (i:=rn (cb 47) x 0-(j+1)) (by rw[ByteArray.size_extract];omega) (by rw[dd,show j+1+(rn (cb 47) x 0-(j+1))=rn (cb 47) x 0 by omega,e];omega)]
    unfold iB
    cases hz:ej (x.extract 0 (rn (cb 47) x 0)) with
    | none=>rfl
    | some z =>
      have:=Bz (i:=j) hz (by rw[ByteArray.size_extract];omega);rw[n4 oM a] at this
      exact absurd b this.1
  . rw[Db d (fun i hi=>(h1 i hi).1) b,if_pos d]
theorem kN {x:ByteArray}(h1:∀ i,i<x.size->ak x i≠46/\ak x i≠47):cF x=(ej x).map fun z=>(z:Rat):=by
 unfold cF
 rw[td fun i hi=>(h1 i hi).2,if_neg (Ks _),td fun i hi=>(h1 i hi).1,if_neg (Ks _)]
theorem qe {c:UInt8}:∀ {l:List UInt8} {o:Nat},l[o]?=some c->(∀ k,k<o->l[k]?≠some c)->Lib.indexByte l c=(o:Int)
  | [],o,h,_=>by simp at h
  | b::l,0,h,_=>by
    simp at h
    subst h
    unfold Lib.indexByte
    simp
  | b :: l,o+1,h,hk=>by
    have e:(b == c)=false:=by
      have:=hk 0 (Nat.succ_pos o)
      simpa using this
    have d:=qe (l:=l) (o:=o) (by simpa using h) (fun k a=>by have:=hk (k+1) (Nat.succ_lt_succ a);simpa using this)
    unfold Lib.indexByte
    rw[e,d]
    have:((o:Int) == -1)=false:=by
      rw[beq_eq_false_iff_ne];omega
    rw[this];simp
theorem ti {p:Nat->Bool}{s:ByteArray}:∀ f a i,a<=i->i<pD p s f a->p (ak s i)=true
  | 0,a,i,h1,b=>by
    have b:i<a:=b
    omega
  | f + 1,a,i,h1,b=>by
    unfold pD at b
    split at b
    . rename_i c
      rcases Nat.eq_or_lt_of_le h1 with e|e
      . rw[<-e];exact c.2
      . exact ti f (a+1) i e b
    . omega
theorem At {p:Nat->Bool}{s:ByteArray}{a i:Nat}(h1:a<=i)(b:i<rn p s a):p (ak s i)=true:=ti _ a i h1 b
theorem sj {p:Nat->Bool}{s:ByteArray}{a:Nat}(h:rn p s a<s.size):p (ak s (rn p s a))=false:=je p s _ a (eb _) h
theorem sH {s:ByteArray}{i j k:Nat}(h:i+k<j)(b:j<=s.size):(s.extract i j).data.toList[k]?=s.data.toList[i+k]?:=by
 have a:s.data.size=s.size:=rfl;rw[ByteArray.data_extract]
 simp only[Array.toList_extract,List.extract_eq_take_drop]
 rw[p1 oM,List.getElem?_drop]
theorem i8 {s:ByteArray}{i:Nat}(h:i<s.size):s.data.toList[i]?=some (s.data.toList.getD i 0):=by
 rw[A6];have a:i<s.data.toList.length:=by simpa using h
 rw[Kt a];rfl
theorem wk {s:ByteArray}{a:Nat}(ha:a<=s.size)(j:rn cf s a≠s.size):Lib.indexByte (s.extract a s.size).data.toList 93=((rn cf s a-a:Nat):Int):=by
 have h1:=f4 cf s a;have f:rn cf s a<s.size:=by have:=dB (p:=cf) ha;omega
 refine qe ?_ (fun k l e=>?_)
 ·rw[sH oM (eb _),show a+(rn cf s a-a)=rn cf s a by omega,i8 f]
  have b:=sj f
  have c:ak s (rn cf s a)=93:=Kq fun h=>by
   have d:cf (ak s (rn cf s a))=true:=decide_eq_true h;rw[d] at b;cases b
  congr 1
  exact UInt8.toNat.inj c
 ·rw[sH oM (eb _),i8 oM] at e
  injection e with e
  have b:=At (p:=cf) (s:=s) (a:=a) (i:=a+k) oM oM;have c:ak s (a+k)=93:=by unfold ak;rw[e];rfl
  have d:ak s (a+k)≠93:=oT b;exact d c
def Ai (pb:Nat)(s:ByteArray)(t:Tm)(b:Nat)(bd:Int):Value->World->Hp->Prop:=fun v w' h'=>∃ (tb:Nat)(p:PTm),v=.pointer (some ⟨tb,0,none⟩)/\b<=s.size/\Own w' pb 59 [.string s,.int .i64 (b:Nat),.int .i64 bd]/\Seg h' tb 0 (bv p)/\PtH h' p t
def PC (nf bf:ByteArray->Option Rat)(f:FuncId)(n:Nat)(k:PKd):Prop:=∀ (pb:Nat) (s:ByteArray),s.size<=1000000->∀ (a:Nat),a<=s.size->∀ (bd:Int) (t:Tm) (b:Nat),bn nf bf s n k a=some (.ok t b)->∀ (w:World) (h:Hp),G w h->Own w pb 59 [.string s,nV a,iV bd]->h[pb]?=some junk->Tab h->Calls Tryz.prog f #[pB pb] w (bW pb w h (Ai pb s t b bd))
theorem jq  (b:Nat)(s:ByteArray)(hsz:s.size<=1000000)(a:Nat)(ha:a<=s.size)(Q:Int)(w:World)(h:Hp)(g:G w h)(ho:Own w b 59 [.string s,nV a,iV Q])(Z:h[b]?=some junk)(tb:Tab h):Calls Tryz.prog 13 #[pB b] w (bW b w h fun v w' _=>v=.int .u8 (ak s (sk s a):Nat)/\Own w' b 59 [.string s,nV (sk s a),iV Q]):=by
 have e:UpM [b] w h w h:=UpM.refl g;obtain ⟨wz,z,d⟩:=SS.at_ g ho Z;replace d:=(d.add (K:=fun l=>Tab l) tb);refine go Tryz.func13 [(0,pB b)] rfl (aa d ac (ai (kZ ?_)));refine bG _ (CG.loop (fun I Γ X=>∃ (k:Nat)(l:Hp),I=s.size-k/\Γ=[(0,pB b),(2,.int .u8 0)]/\SS wz z X l [⟨b,59,[.string s,nV k,iV Q]⟩] [] [fun l=>Tab l]/\a<=k/\k<=s.size/\UpM [b] w h X l/\(∀ i,a<=i->i<k->vY (ak s i)=true)) _ ⟨a,h,rfl,rfl,d.to _ _,nR _,ha,e,(fun i h1 J=>absurd h1 oM)⟩ ?_);rintro _ _ w1 ⟨k,J,Y,rfl,d,C,D,e,y⟩;refine cQ (cQ (cR 22 [] mixed d aw ?_));refine eV 0 3 (pB b) (eV 1 4 (pB b) (eV 2 5 (qP b 1) (eO 3 6 [(0,1,1)] (nV k) d (eV 4 7 (pB b) (eV 5 8 (pB b) (eV 6 9 (pB b) (eO 7 10 [(0,0,1)] (.string s) d (eV 8 11 (nV s.size) ?_))))))));cases f:(decide ((k:Int)<(s.size:Int)))
 .
  have B:=oF f;refine eB 9 12 f (eV 10 13 qF (eG 11 14 (eG 12 15 (eG 13 16 (eG 14 17 (eG 15 18 (eG 16 19 (eG 17 20 (eG 18 21 (eG 19 22 (eG 20 23 (eV 21 24 qF (bL d (fun w5 h6 u7 d=>?_))))))))))))));replace e:=e.trans (u7.m _);refine tN (da (CG.exit ?_))
  show CG _ _ _ _ _ _ _ _
  refine cQ (cQ (cR 10 [] mixed d aw ?_));refine eV 0 32 (pB b) (eV 1 33 (pB b) (eV 2 34 (qP b 1) (eO 3 35 [(0,1,1)] (nV k) d (eV 4 36 (pB b) (eV 5 37 (pB b) (eV 6 38 (pB b) (eO 7 39 [(0,0,1)] (.string s) d (eV 8 40 (nV s.size) ?_))))))));have ⟨V,W⟩:=dF (p:=(k:Int)<(s.size:Int)) oM;refine eB 9 41 V (bL d (fun w9 _ U d=>?_));replace e:=e.trans (U.m _);refine tN (da (cK (aa d ac (lN (kX ?_)))));have u:sk s a=k:=dy C D y (by first|exact .inl oM|exact .inr (decide_eq_false oM));exact d.retM e [] (.int .u8 0) (by rw[u,cw oM];exact ⟨rfl,d.own 0⟩)
 have B:=oT f;refine eB 9 12 f (eV 10 13 qT (eV 11 14 (pB b) (eV 12 15 (pB b) (eV 13 16 (pB b) (eO 14 17 [(0,0,1)] (.string s) d (eV 15 18 (pB b) (eV 16 19 (pB b) (eV 17 20 (qP b 1) (eO 18 21 [(0,1,1)] (nV k) d (eV 19 22 (.int .u8 (ak s k:Nat)) ?_ (hv:=fun _=>aU (tx:=9) (x:=.tmp 17) (i:=.tmp 21) (k:=.i64) (s:=s) (n:=k) (j:=(k:Int)) kR kR kR kR oM oM _)))))))))));cases F:(((ak s k:Nat):Int) == (32:Int))
 .
  have zb:=ao F;refine eB 20 23 F (eV 21 24 qF (bL d (fun _ _ M d=>?_)));replace e:=e.trans (M.m _);refine tN (da (CG.exit ?_))
  show CG _ _ _ _ _ _ _ _
  refine cQ (cQ (cR 10 [] mixed d aw ?_));refine eV 0 32 (pB b) (eV 1 33 (pB b) (eV 2 34 (qP b 1) (eO 3 35 [(0,1,1)] (nV k) d (eV 4 36 (pB b) (eV 5 37 (pB b) (eV 6 38 (pB b) (eO 7 39 [(0,0,1)] (.string s) d (eV 8 40 (nV s.size) ?_))))))));have ⟨zc,H⟩:=dT (p:=(k:Int)<(s.size:Int)) oM;refine eB 9 41 zc (bL d (fun _ _ L d=>?_));replace e:=e.trans (L.m _);refine tN (ci (cQ (cR 9 [] mixed d aw ?_)));refine eV 0 42 (pB b) (eV 1 43 (pB b) (eV 2 44 (pB b) (eO 3 45 [(0,0,1)] (.string s) d (eV 4 46 (pB b) (eV 5 47 (pB b) (eV 6 48 (qP b 1) (eO 7 49 [(0,1,1)] (nV k) d (eV 8 50 (.int .u8 (ak s k:Nat)) ?_ (hv:=fun _=>aU (tx:=9) (x:=.tmp 45) (i:=.tmp 49) (k:=.i64) (s:=s) (n:=k) (j:=(k:Int)) kR kR kR kR oM oM _)))))))));refine bL d (fun _ _ S d=>?_);replace e:=e.trans (S.m _);refine tV 9 2 (.int .u8 (ak s k:Nat)) (tN (bG [(2,.int .u8 (ak s k:Nat))] ?_));refine kX ?_;have u:sk s a=k:=dy C D y (by first|exact .inl oM|exact .inr (decide_eq_false oM));exact d.retM e [] (.int .u8 (ak s k:Nat)) (by rw[u];exact ⟨rfl,d.own 0⟩)
 have zb:=eq_of_beq F;refine eB 20 23 F (eV 21 24 qT (bL d (fun _ zd O d=>?_)));replace e:=e.trans (O.m _);refine tN (ci (cK (kZ (kQ (lL d [.c,.v (pB b),.v (qP b 1),.o (nV k) 0 1 1] (bg 29 ((k:Nat)+1) (k+1) ?_))))));refine lL d [.v (pB b),.v (qP b 1)] (ce 0 1 ([nV (k+1)]) d (fun _ pu d=>?_));replace e:=e.put pu (n1.2 rfl) d.g;refine lD ?_;intro a_ ka;refine ⟨_,_,?_,⟨k+1,zd,rfl,rfl,d.to _ _,oM,oM,e,(fun i h1 J=>by rcases Kl.1 J with l|rfl;exact y i h1 l;exact decide_eq_true oM)⟩,ka.to _ kR⟩
 omega
theorem fw  (d:Nat)(s:ByteArray)(p:s.size<=1000000)(a:Nat)(ha:a<=s.size)(l:Int)(c:Nat)(I:c≠0)(w:World)(h:Hp)(g:G w h)(C:Own w d 59 [.string s,nV a,iV l])(B:h[d]?=some junk)(F:Tab h):Calls Tryz.prog 49 #[pB d,.int .u8 (c:Nat)] w (bW d w h fun v w' _=>(v=.bool true/\ak s (sk s a)=c/\sk s a<s.size/\Own w' d 59 [.string s,nV (sk s a+1),iV l])\/(v=.bool false/\ak s (sk s a)≠c/\Own w' d 59 [.string s,nV (sk s a),iV l])):=by
 have e:UpM [d] w h w h:=UpM.refl g;obtain ⟨wz,y,b⟩:=SS.at_ g C B;replace b:=(b.add (K:=fun H=>Tab H) F);refine go Tryz.func49 [(0,pB d),(1,.int .u8 (c:Nat))] rfl (aa b ac (ai (aa b ac ?_)));have u:=bB (s:=s) (a:=a) oM;refine bj 6 (jq d s p a ha l _ _ b.g (b.own 0) (b.jk 0) b.f.1) ?_;rintro _ w2 L z ⟨rfl,k⟩;replace b:=(b.stepM 0 z k).to [⟨d,59,[.string s,nV (sk s a),iV l]⟩] [];replace e:=e.trans z;refine lL b ac ?_;cases i:(((ak s (sk s a):Nat):Int) != (c:Int))
 .
  have j:=ay i;refine lB 8 i (ah (cK (aa b [.c,.v (pB d),.v (qP d 1),.o (nV (sk s a)) 0 1 1] (bg 13 ((sk s a:Nat)+1) ((sk s a)+1) ?_))));refine lL b [.v (pB d),.v (qP d 1)] (ce 0 1 ([nV ((sk s a)+1)]) b (fun J D b=>?_));replace e:=e.put D (n1.2 rfl) b.g;refine aE (lL b ac (lN (kX ?_)));have x:=cn (s:=s) (a:=sk s a) oM;exact b.retM e [] qT (.inl ⟨rfl,by omega,by omega,b.own 0⟩)
 have j:=a6 i;exact lB 8 i (aj (aa b ac (lN (kX (b.retM e [] qF (.inr ⟨rfl,by omega,b.own 0⟩))))))
theorem xW (b:Nat)(s:ByteArray)(f:s.size<=1000000)(a:Nat)(ha:a<=s.size)(d:Int)(c:Nat)(k:c≠0)(e:sk s a=a)(w:World)(h:Hp)(g:G w h)(j:Own w b 59 [.string s,nV a,iV d])(l:h[b]?=some junk)(i:Tab h):Calls Tryz.prog 49 #[pB b,.int .u8 (c:Nat)] w (bW b w h fun v w' _=>(v=.bool true/\ak s a=c/\a<s.size/\Own w' b 59 [.string s,nV (a+1),iV d])\/(v=.bool false/\ak s a≠c/\Own w' b 59 [.string s,nV a,iV d])):=by
 have q:=fw b s f a ha d c k w h g j l i;rw[e] at q;exact q
theorem jX (b:Nat)(s:ByteArray)(d:s.size<=1000000)(a:Nat)(ha:a<=s.size)(i:Int)(c:Nat)(k:c≠0)(j:ak s (sk s a)=c)(w:World)(h:Hp)(g:G w h)(o:Own w b 59 [.string s,nV a,iV i])(l:h[b]?=some junk)(y:Tab h):Calls Tryz.prog 49 #[pB b,.int .u8 (c:Nat)] w (bW b w h fun v w' _=>v=.bool true/\sk s a<s.size/\Own w' b 59 [.string s,nV (sk s a+1),iV i]) :=
 (fw b s d a ha i c k w h g o l y).mono fun e w' ⟨v,x,p,u,f⟩=>⟨v,x,p,u,by
  rcases f with ⟨h1,h2,h3,h4⟩|⟨h1,h2,h3⟩
  ·exact ⟨h1,h3,h4⟩
  ·exact absurd j h2⟩
theorem oO  (y:FuncId)(p:Nat->Bool)(U:∀ (args:Array Value) (w:World),(callFunc y args).run Tryz.prog w=.ok (.enter y args) w)(I:∀ c,c<256->∀ (w:World) (h:Hp),G w h->Calls Tryz.prog y #[.int .u8 (c:Nat)] w (Ret w h fun v _=>v=.bool (p c)))(d:Nat)(s:ByteArray)(hsz:s.size<=1000000)(a:Nat)(ha:a<=s.size)(O:Int)(w:World)(h:Hp)(g:G w h)(ho:Own w d 59 [.string s,nV a,iV O])(Z:h[d]?=some junk)(tb:Tab h):Calls Tryz.prog 103 #[pB d,.func (.func y) #[] #[]] w (bW d w h fun v w' _=>v=.string (s.extract a (rn p s a))/\Own w' d 59 [.string s,nV (rn p s a),iV O]):=by
 have f:UpM [d] w h w h:=UpM.refl g;obtain ⟨wz,C,b⟩:=SS.at_ g ho Z;replace b:=(b.add (K:=fun u=>Tab u) tb);refine go Tryz.func103 [(0,pB d),(1,.func (.func y) #[] #[])] rfl (aa b ac (aE (lL b [.c,.v (pB d),.v (qP d 1),.o (nV a) 0 1 1,.c] (ai (kZ ?_)))));refine bG _ (CG.loop (fun J Γ X=>∃ (k:Nat)(u:Hp),J=s.size-k/\Γ=[(0,pB d),(1,.func (.func y) #[] #[]),(4,eS),(5,nV a)]/\SS wz C X u [⟨d,59,[.string s,nV k,iV O]⟩] [] [fun u=>Tab u]/\a<=k/\k<=s.size/\UpM [d] w h X u/\(∀ i,a<=i->i<k->p (ak s i)=true)) _ ⟨a,h,rfl,rfl,b.to _ _,nR _,ha,f,(fun i h1 L=>absurd h1 oM)⟩ ?_);rintro _ _ w1 ⟨k,L,Y,rfl,b,F,H,f,B⟩;refine cQ (cQ (cR 23 [] mixed b aw ?_));refine eV 0 10 (pB d) (eV 1 11 (pB d) (eV 2 12 (qP d 1) (eO 3 13 [(0,1,1)] (nV k) b (eV 4 14 (pB d) (eV 5 15 (pB d) (eV 6 16 (pB d) (eO 7 17 [(0,0,1)] (.string s) b (eV 8 18 (nV s.size) ?_))))))));cases l:(decide ((k:Int)<(s.size:Int)))
 .
  have D:=oF l;refine eB 9 19 l (eV 10 20 qF (eG 11 21 (eG 12 22 (eG 13 23 (eG 14 24 (eG 15 25 (eG 16 26 (eG 17 27 (eG 18 28 (eG 19 29 (eG 20 30 (eG 21 31 (eV 22 32 qF (bL b (fun w5 h6 u7 b=>?_)))))))))))))));replace f:=f.trans (u7.m _);refine tN (da (CG.exit ?_))
  show CG _ _ _ _ _ _ _ _
  refine cQ (cR 10 [] mixed b aw ?_);refine eV 0 40 (pB d) (eV 1 41 (pB d) (eV 2 42 (pB d) (eO 3 43 [(0,0,1)] (.string s) b (eV 4 44 (nV a) (eV 5 45 (pB d) (eV 6 46 (pB d) (eV 7 47 (qP d 1) (eO 8 48 [(0,1,1)] (nV k) b (eV 9 49 (.string (s.extract a k)) ?_ (hv:=fun _=>eA (tx:=9) (x:=.tmp 43) (i:=.tmp 44) (e:=.tmp 48) (k:=.i64) (k2:=.i64) (s:=s) (n:=a) (m:=k) (j:=(a:Int)) (j2:=(k:Int)) kR kR kR kR kR oM oM oM oM _))))))))));refine bL b (fun w8 h9 S b=>?_);replace f:=f.trans (S.m _);refine tV 10 4 (.string (s.extract a k)) (tN (kX ?_));have z:rn p s a=k:=dy F H B (by first|exact .inl oM|exact .inr aM);exact b.retM f [] (.string (s.extract a k)) (by rw[z];exact ⟨rfl,b.own 0⟩)
 have D:=oT l;refine eB 9 19 l (eV 10 20 qT (eV 11 21 (.func (.func y) #[] #[]) (eV 12 22 (pB d) (eV 13 23 (pB d) (eV 14 24 (pB d) (eO 15 25 [(0,0,1)] (.string s) b (eV 16 26 (pB d) (eV 17 27 (pB d) (eV 18 28 (qP d 1) (eO 19 29 [(0,1,1)] (nV k) b (eV 20 30 (.int .u8 (ak s k:Nat)) ?_ (hv:=fun _=>aU (tx:=9) (x:=.tmp 25) (i:=.tmp 29) (k:=.i64) (s:=s) (n:=k) (j:=(k:Int)) kR kR kR kR oM oM _))))))))))));refine ie 21 31 b f (fun _ _ b=>I ((ak s k)) (bh _ _) _ _ b.g) ?_ (hv:=fun _=>Eq.trans kR (U _ _));rintro _ _ _ _ _ f b rfl;cases W:(p ((ak s k)))
 .
  refine eV 22 32 qF (bL b (fun _ _ V b=>?_));replace f:=f.trans (V.m _);refine tN (da (CG.exit ?_))
  show CG _ _ _ _ _ _ _ _
  refine cQ (cR 10 [] mixed b aw ?_);refine eV 0 40 (pB d) (eV 1 41 (pB d) (eV 2 42 (pB d) (eO 3 43 [(0,0,1)] (.string s) b (eV 4 44 (nV a) (eV 5 45 (pB d) (eV 6 46 (pB d) (eV 7 47 (qP d 1) (eO 8 48 [(0,1,1)] (nV k) b (eV 9 49 (.string (s.extract a k)) ?_ (hv:=fun _=>eA (tx:=9) (x:=.tmp 43) (i:=.tmp 44) (e:=.tmp 48) (k:=.i64) (k2:=.i64) (s:=s) (n:=a) (m:=k) (j:=(a:Int)) (j2:=(k:Int)) kR kR kR kR kR oM oM oM oM _))))))))));refine bL b (fun _ _ M b=>?_);replace f:=f.trans (M.m _);refine tV 10 4 (.string (s.extract a k)) (tN (kX ?_));have z:rn p s a=k:=dy F H B (by first|exact .inl oM|exact .inr aM);exact b.retM f [] (.string (s.extract a k)) (by rw[z];exact ⟨rfl,b.own 0⟩)
 refine eV 22 32 qT (bL b (fun _ za Q b=>?_));replace f:=f.trans (Q.m _);refine tN (ci (cK (kZ (kQ (lL b [.c,.v (pB d),.v (qP d 1),.o (nV k) 0 1 1] (bg 37 ((k:Nat)+1) (k+1) ?_))))));refine lL b [.v (pB d),.v (qP d 1)] (ce 0 1 ([nV (k+1)]) b (fun _ pu b=>?_));replace f:=f.put pu (n1.2 rfl) b.g;refine lD ?_;intro a_ ka;refine ⟨_,_,?_,⟨k+1,za,rfl,rfl,b.to _ _,oM,oM,f,(fun i h1 L=>by rcases Kl.1 L with u|rfl;exact B i h1 u;exact aM)⟩,ka.to _ kR⟩
 omega
theorem Dk (op:Int)(e i:PTm)(w:World)(h:Hp)(g:G w h):CR 50 #[iV op,a8 e,a8 i] w h (fun v h1=>∃ b,v=a8 ⟨op,0,0,⟨#[]⟩,sB b,2,2⟩/\SlO 9 bv a7 h1 (sB b) [e,i]):=by
 have a:=sS g;refine go Tryz.func50 [(0,iV op),(1,a8 e),(2,a8 i)] rfl (aG (lA 4 33 (bv e) a (fun k w2 z a=>lA 5 33 (bv i) a (fun u y x a=>lA 6 33 a2 a (fun B p C a=>aE (lL a [.c,.o (a8 e) 2 0 9,.o (a8 i) 1 0 9] (lR 10 33 2 ([iV e.op,iV e.n,.bool (au e.q.num),uV (lo (ab e.q.num)),.string (hi (ab e.q.num)),uV (lo (qd e.q)),.string (hi (qd e.q)),.string e.s,qS e.A e.m e.c,iV i.op,iV i.n,.bool (au i.q.num),uV (lo (ab i.q.num)),.string (hi (ab i.q.num)),uV (lo (qd i.q)),.string (hi (qd i.q)),.string i.s,qS i.A i.m i.c]) a (fun j _ _ a=>?_))))))));replace a:=a.aS (SlO.of_flat (sz:=9) (f:=bv) (d:=a7) (b:=j) (o:=0) (l:=([e,i]:List PTm)) (fun _=>rfl) a.f.1);exact lL a [.v (.agg #[iV op,iV 0,qF,uV 0,eS,uV 0,eS,eS,qS (sB j) 2 2])] (lP 0 0 ([iV op,iV 0,qF,uV 0,eS,uV 0,eS,eS,qS (sB j) 2 2]) a (fun _ a=>af a [(0,0,9)] (.agg #[iV op,iV 0,qF,uV 0,eS,uV 0,eS,eS,qS (sB j) 2 2]) (⟨_,rfl,a.f.1⟩)))
theorem Cz (op:Int)(e:PTm)(w:World)(h:Hp)(g:G w h):CR 80 #[iV op,a8 e] w h (fun v h1=>∃ b,v=a8 ⟨op,0,0,⟨#[]⟩,sB b,1,1⟩/\SlO 9 bv a7 h1 (sB b) [e]):=by
 have a:=sS g;refine go Tryz.func80 [(0,iV op),(1,a8 e)] rfl (aG (lA 3 33 (bv e) a (fun p w2 k a=>lA 4 33 a2 a (fun j u x a=>aE (lL a [.c,.o (a8 e) 1 0 9] (lR 7 33 1 (pC e) a (fun i y z a=>?_)))))));replace a:=a.aS (SlO.of_flat (sz:=9) (f:=bv) (d:=a7) (b:=i) (o:=0) (l:=([e]:List PTm)) (fun _=>rfl) a.f.1);exact lL a [.v (.agg #[iV op,iV 0,qF,uV 0,eS,uV 0,eS,eS,qS (sB i) 1 1])] (lP 0 0 ([iV op,iV 0,qF,uV 0,eS,uV 0,eS,eS,qS (sB i) 1 1]) a (fun _ a=>af a [(0,0,9)] (.agg #[iV op,iV 0,qF,uV 0,eS,uV 0,eS,eS,qS (sB i) 1 1]) (⟨_,rfl,a.f.1⟩)))
theorem rW (q:Rat)(w:World)(h:Hp)(g:G w h):CR 90 #[qv q] w h (fun v h1=>∃ p,v=a8 p/\PtH h1 p (dl q)):=by
 have a:=sS g;exact go Tryz.func90 [(0,qv q)] rfl (aG (lA 1 30 (qc q) a (fun d w2 c a=>lA 2 33 a2 a (fun b e f a=>aE (lL a [.o (qv q) 1 0 5,.v (a8 ⟨1,0,q,⟨#[]⟩,none,0,0⟩)] (lP 0 0 (bv ⟨1,0,q,⟨#[]⟩,none,0,0⟩) a (fun i a=>af a [(0,0,9)] (a8 ⟨1,0,q,⟨#[]⟩,none,0,0⟩) (⟨⟨1,0,q,⟨#[]⟩,none,0,0⟩,rfl,PtH.num⟩))))))))
theorem t6 (op:Int)(a c:PTm)(t u:Tm)(w:World)(h:Hp)(g:G w h)(x:PtH h a t)(y:PtH h c u):CR 50 #[iV op,a8 a,a8 c] w h (fun v h1=>∃ p,v=a8 p/\PtH h1 p (bz op t u)) :=
 (Dk op a c w h g).mono fun e w' ⟨v,i,d,up,b,j,f⟩=>⟨v,i,d,up,_,j,(x.gw up.gr.gw).two (y.gw up.gr.gw) f⟩
theorem ws (op:Int)(a:PTm)(t:Tm)(w:World)(h:Hp)(g:G w h)(x:PtH h a t):CR 80 #[iV op,a8 a] w h (fun v h1=>∃ p,v=a8 p/\PtH h1 p (fQ op t)) :=
 (Cz op a w h g).mono fun e w' ⟨v,i,c,up,b,f,d⟩=>⟨v,i,c,up,_,f,(x.gw up.gr.gw).one d⟩
section
variable {nf bf:ByteArray->Option Rat}(n:Nat)
theorem wg  (lv:Bool)(fp:FuncId)(hen:∀ (args:Array Value) (w:World),(callFunc fp args).run Tryz.prog w=.ok (.enter fp args) w)(hp:∀ m,m<=n->PC nf bf fp m (part lv))(j:Nat)(s:ByteArray)(V:s.size<=1000000)(a:Nat)(ha:a<=s.size)(B:Int)(t:Tm)(b:Nat)(hq:bn nf bf s (n+1) (tK lv) a=some (.ok t b))(w:World)(h:Hp)(g:G w h)(ho:Own w j 59 [.string s,nV a,iV B])(hj:h[j]?=some junk)(tb:Tab h):Calls Tryz.prog 30 #[pB j,.func (.func fp) #[pB j] #[],.int .u8 (c1 lv:Nat),iV (km lv),.int .u8 (c2 lv:Nat),iV (jv lv)] w (bW j w h (Ai j s t b B)):=by
 have e:UpM [j] w h w h:=UpM.refl g;obtain ⟨wz,b6,d⟩:=SS.at_ g ho hj;obtain ⟨t1,b1,hq1,hq2⟩:=jw hq;have b7:c1 lv≠0:=by cases lv<;>decide
 have cy:c2 lv≠0:=by cases lv<;>decide
 replace d:=(d.add (K:=fun i=>Tab i) tb);refine go Tryz.func30 [(0,pB j),(1,.func (.func fp) #[pB j] #[]),(2,.int .u8 (c1 lv:Nat)),(3,iV (km lv)),(4,.int .u8 (c2 lv:Nat)),(5,iV (jv lv))] rfl (aa d ac (aE (lL d ac (bj 18 (hp n (nR _) j s V a ha B t1 b1 hq1 _ _ d.g (d.own 0) (d.jk 0) d.f.1) ?_ (hr:=Eq.trans kR (hen _ _))))));rintro _ w2 h3 u4 ⟨J,H,rfl,b4,c3,cx,b5⟩;replace d:=(d.stepM 0 u4 c3).to [⟨j,59,[.string s,nV b1,iV B]⟩] [];replace e:=e.trans u4;replace d:=((d.a_Seg cx).add (K:=fun i=>PtH i H t1) b5);refine lL d ac (ai (kZ ?_));replace d:=d.add (K:=fun i=>PtH i H t1) (d.f.1);replace d:=d.add (K:=fun i=>Seg i J 0 (bv H)) (d.f.r.1);refine bG _ (CG.loop (fun μ_ Γ w_=>∃ (m:Nat)(Z:Nat)(p:PTm)(u:Tm)(k:Nat)(i:Hp),μ_=m/\Γ=[(0,pB j),(1,.func (.func fp) #[pB j] #[]),(2,.int .u8 (c1 lv:Nat)),(3,iV (km lv)),(4,.int .u8 (c2 lv:Nat)),(5,iV (jv lv)),(13,pB Z)]/\SS wz b6 w_ i [⟨j,59,[.string s,nV k,iV B]⟩] [] [fun i=>Seg i Z 0 (bv p),fun i=>PtH i p u,fun i=>PtH i H t1,fun i=>Seg i J 0 (bv H),fun i=>Tab i]/\m<=n/\k<=s.size/\UpM [j] w h w_ i/\bn nf bf s m (.more lv u) k=some (.ok t b)) _ ⟨n,J,H,t1,b1,h3,rfl,rfl,d.to _ _,nR _,b4,e,hq2⟩ ?_);rintro _ _ w5 ⟨m,Z,p,u,k,h6,hm7,rfl,d,hm,hk,e,hq⟩;obtain ⟨m1,rfl⟩:=ik hq;have dc:=bB (s:=s) (a:=k) hk;refine cQ (aa d [.c,.v qT] (aj (cK (kZ (aa d ac (ai (aa d aF ?_)))))));have c7:=bB (s:=s) (a:=k) oM;refine bj 23 (fw j s V k oM B (c1 lv) b7 _ _ d.g (d.own 0) (d.jk 0) d.f.q.1) ?_;rintro _ w9 _ X (⟨rfl,Q,c8,U⟩|⟨rfl,Q,U⟩)
 .
  replace d:=(d.stepM 0 X U).to [⟨j,59,[.string s,nV (sk s k+1),iV B]⟩] [];replace e:=e.trans X;obtain ⟨I,eq8,cz,b9⟩:=jM hq Q;refine aj (kQ (lL d aF (aE (lL d ac (bj 31 (hp m1 oM j s V (sk s k+1) oM B I eq8 cz _ _ d.g (d.own 0) (d.jk 0) d.f.q.1) ?_ (hr:=Eq.trans kR (hen _ _)))))));rintro _ _ _ u15 ⟨W,S,rfl,bw,b3,br,bm⟩;replace d:=(d.stepM 0 u15 b3).to [⟨j,59,[.string s,nV eq8,iV B]⟩] [];replace e:=e.trans u15;replace d:=((d.a_Seg br).add (K:=fun i=>PtH i S I) bm);refine lL d ac (ai (aa d [.c,.v qF] (ah (cK (cQ ?_)))));have hsr:=d;have M:=e.gr.size;refine cR 9 [⟨8,16,.cells (J0 [iV 0,iV 0,qF,uV 0,eS,uV 0,eS,eS,sZ]) 33 (0,0)⟩] mixed d (dz (lu kR (fun _ _=>by kernel_rfl)) aw) (eV 0 34 (iV (km lv)) (eV 1 35 (pB Z) (eV 2 36 (pB Z) (eH 3 37 (a8 p) d d.f.r.1 (eV 4 38 (pB W) (eV 5 39 (pB W) (eH 6 40 (a8 S) d d.f.2.1 (ie 7 41 d e (fun _ _ d=>t6 (km lv) p S u I _ _ d.g d.f.r.2.1 d.f.1) ?_))))))));rintro _ _ _ _ _ e d ⟨l,rfl,b0⟩;replace d:=(d.add (K:=fun i=>PtH i l (bz (km lv) u I)) b0);refine me [] hsr d e M 33 [iV 0,iV 0,qF,uV 0,eS,uV 0,eS,eS,sZ] (fun _ _ za e z d=>kj 9 0 0 (bv l) d (fun _ pu d=>?_));replace e:=e.put2 pu z g d.g;refine tN ?_;obtain ⟨zc,d,e,c4⟩:=d.pubM e 0 z;replace d:=d.to [⟨j,59,[.string s,nV eq8,iV B]⟩] [];have cr:Seg zc za 0 (bv l):=c4;replace d:=d.a_Seg cr;refine kQ (lL d ac (lD ?_));intro a_ ka;replace d:=((d.tl.tl.tl.tl.tl.tl.add (K:=fun i=>PtH i l (bz (km lv) u I)) d.f.2.1).add (K:=fun i=>Seg i za 0 (bv l)) d.f.1);refine ⟨_,_,?_,⟨m1,za,l,bz (km lv) u I,eq8,zc,rfl,rfl,d.to _ _,oM,bw,e,b9⟩,ka.to _ kR⟩
  omega
 replace d:=(d.stepM 0 X U).to [⟨j,59,[.string s,nV (sk s k),iV B]⟩] [];replace e:=e.trans X;have hcF:=Q;refine ah (aa d aF ?_);have c5:=bB (s:=s) (a:=(sk s k)) oM;refine bj 27 (xW j s V (sk s k) oM B (c2 lv) cy (pF _ _) _ _ d.g (d.own 0) (d.jk 0) d.f.q.1) ?_;rintro _ _ _ Y (⟨rfl,C,c6,D⟩|⟨rfl,C,D⟩)
 .
  replace d:=(d.stepM 0 Y D).to [⟨j,59,[.string s,nV ((sk s k)+1),iV B]⟩] [];replace e:=e.trans Y;obtain ⟨x,F,bp,bb⟩:=jG hq hcF C;refine aj (kQ (lL d aF (aE (lL d ac (bj 31 (hp m1 oM j s V ((sk s k)+1) oM B x F bp _ _ d.g (d.own 0) (d.jk 0) d.f.q.1) ?_ (hr:=Eq.trans kR (hen _ _)))))));rintro _ _ _ u40 ⟨O,L,rfl,bq,bt,bk,bl⟩;replace d:=(d.stepM 0 u40 bt).to [⟨j,59,[.string s,nV F,iV B]⟩] [];replace e:=e.trans u40;replace d:=((d.a_Seg bk).add (K:=fun i=>PtH i L x) bl);refine lL d ac (ai (aa d [.c,.v qF] (ah (cK (cQ ?_)))));have hsr:=d;have M:=e.gr.size;refine cR 9 [⟨8,16,.cells (J0 [iV 0,iV 0,qF,uV 0,eS,uV 0,eS,eS,sZ]) 33 (0,0)⟩] mixed d (dz (lu kR (fun _ _=>by kernel_rfl)) aw) (eV 0 34 (iV (jv lv)) (eV 1 35 (pB Z) (eV 2 36 (pB Z) (eH 3 37 (a8 p) d d.f.r.1 (eV 4 38 (pB O) (eV 5 39 (pB O) (eH 6 40 (a8 L) d d.f.2.1 (ie 7 41 d e (fun _ _ d=>t6 (jv lv) p L u x _ _ d.g d.f.r.2.1 d.f.1) ?_))))))));rintro _ _ _ _ _ e d ⟨o,rfl,b2⟩;replace d:=(d.add (K:=fun i=>PtH i o (bz (jv lv) u x)) b2);refine me [] hsr d e M 33 [iV 0,iV 0,qF,uV 0,eS,uV 0,eS,eS,sZ] (fun _ _ zb e y d=>kj 9 0 0 (bv o) d (fun _ pu d=>?_));replace e:=e.put2 pu y g d.g;refine tN ?_;obtain ⟨zd,d,e,ch⟩:=d.pubM e 0 y;replace d:=d.to [⟨j,59,[.string s,nV F,iV B]⟩] [];have cm:Seg zd zb 0 (bv o):=ch;replace d:=d.a_Seg cm;refine kQ (lL d ac (lD ?_));intro a_ ka;replace d:=((d.tl.tl.tl.tl.tl.tl.add (K:=fun i=>PtH i o (bz (jv lv) u x)) d.f.2.1).add (K:=fun i=>Seg i zb 0 (bv o)) d.f.1);refine ⟨_,_,?_,⟨m1,zb,o,bz (jv lv) u x,F,zd,rfl,rfl,d.to _ _,oM,bq,e,bb⟩,ka.to _ kR⟩
  omega
 replace d:=(d.stepM 0 Y D).to [⟨j,59,[.string s,nV (sk s k),iV B]⟩] [];replace e:=e.trans Y;have cq:=C;refine ah (aa d aF (lN (kX ?_)));obtain ⟨ht_,hb_⟩:=jy hq hcF cq;exact d.retM e [] (pB Z) (by rw[ht_];rw[hb_];exact ⟨Z,p,rfl,by first|assumption|omega,d.own 0,d.f.1,d.f.2.1⟩)
theorem HE  (H:∀ m,m<=n->PC nf bf 31 m .prod)(e:Nat)(s:ByteArray)(x:s.size<=1000000)(a:Nat)(ha:a<=s.size)(u:Int)(t:Tm)(b:Nat)(I:bn nf bf s (n+1) .sum a=some (.ok t b))(w:World)(h:Hp)(g:G w h)(F:Own w e 59 [.string s,nV a,iV u])(D:h[e]?=some junk)(J:Tab h):Calls Tryz.prog 12 #[pB e] w (bW e w h (Ai e s t b u)):=by
 have j:UpM [e] w h w h:=UpM.refl g;obtain ⟨wz,B,d⟩:=SS.at_ g F D;replace d:=(d.add (K:=fun y=>Tab y) J);refine go Tryz.func12 [(0,pB e)] rfl (aa d ac (aE (lL d [.c,.c,.v (.func (.func 31) #[pB e] #[])] (bj 6 (wg n false 31 (fun _ _=>by kernel_rfl) H e s x a ha u t b I _ _ d.g (d.own 0) (d.jk 0) d.f.1) ?_))));rintro _ w2 L C ⟨i,o,rfl,z,l,p,k⟩;replace d:=(d.stepM 0 C l).to [⟨e,59,[.string s,nV b,iV u]⟩] [];replace j:=j.trans C;replace d:=((d.a_Seg p).add (K:=fun y=>PtH y o t) k);exact lL d ac (lN (kX (d.retM j [] (pB i) (by exact ⟨i,o,rfl,by first|assumption|omega,d.own 0,d.f.2.1,d.f.1⟩))))
theorem wJ  (H:∀ m,m<=n->PC nf bf 51 m .sign)(e:Nat)(s:ByteArray)(x:s.size<=1000000)(a:Nat)(ha:a<=s.size)(u:Int)(t:Tm)(b:Nat)(I:bn nf bf s (n+1) .prod a=some (.ok t b))(w:World)(h:Hp)(g:G w h)(F:Own w e 59 [.string s,nV a,iV u])(D:h[e]?=some junk)(J:Tab h):Calls Tryz.prog 31 #[pB e] w (bW e w h (Ai e s t b u)):=by
 have j:UpM [e] w h w h:=UpM.refl g;obtain ⟨wz,B,d⟩:=SS.at_ g F D;replace d:=(d.add (K:=fun y=>Tab y) J);refine go Tryz.func31 [(0,pB e)] rfl (aa d ac (aE (lL d [.c,.c,.v (.func (.func 51) #[pB e] #[])] (bj 6 (wg n true 51 (fun _ _=>by kernel_rfl) H e s x a ha u t b I _ _ d.g (d.own 0) (d.jk 0) d.f.1) ?_))));rintro _ w2 L C ⟨i,o,rfl,z,l,p,k⟩;replace d:=(d.stepM 0 C l).to [⟨e,59,[.string s,nV b,iV u]⟩] [];replace j:=j.trans C;replace d:=((d.a_Seg p).add (K:=fun y=>PtH y o t) k);exact lL d ac (lN (kX (d.retM j [] (pB i) (by exact ⟨i,o,rfl,by first|assumption|omega,d.own 0,d.f.2.1,d.f.1⟩))))
theorem AR  (X:PC nf bf 51 n .sign)(Y:PC nf bf 79 n .pow)(j:Nat)(s:ByteArray)(D:s.size<=1000000)(a:Nat)(ha:a<=s.size)(p:Int)(t:Tm)(b:Nat)(hq:bn nf bf s (n+1) .sign a=some (.ok t b))(w:World)(h:Hp)(g:G w h)(ho:Own w j 59 [.string s,nV a,iV p])(hj:h[j]?=some junk)(tb:Tab h):Calls Tryz.prog 51 #[pB j] w (bW j w h (Ai j s t b p)):=by
 have e:UpM [j] w h w h:=UpM.refl g;obtain ⟨wz,bl,d⟩:=SS.at_ g ho hj;replace d:=(d.add (K:=fun F=>Tab F) tb);refine go Tryz.func51 [(0,pB j)] rfl (aa d ac (ai (aa d ac ?_)));have bk:=bB (s:=s) (a:=a) oM;refine bj 6 (fw j s D a ha p 45 kD _ _ d.g (d.own 0) (d.jk 0) d.f.1) ?_;rintro _ w2 h3 V (⟨rfl,k,bp,o⟩|⟨rfl,k,o⟩)
 .
  replace d:=(d.stepM 0 V o).to [⟨j,59,[.string s,nV (sk s a+1),iV p]⟩] [];replace e:=e.trans V;obtain ⟨W,hv1,ht_⟩:=nS hq k;refine lL d [.v qF] (ah (cK (aa d ac (bj 11 (X j s D (sk s a+1) oM p W b hv1 _ _ d.g (d.own 0) (d.jk 0) d.f.1) ?_))));rintro _ w6 h7 u8 ⟨H,B,rfl,bm,J,U,Q⟩;replace d:=(d.stepM 0 u8 J).to [⟨j,59,[.string s,nV b,iV p]⟩] [];replace e:=e.trans u8;replace d:=((d.a_Seg U).add (K:=fun F=>PtH F B W) Q);refine lL d ac (ai (aa d [.c,.v qF] (ah (cK (aa d [.c,.v (pB H)] (lH 16 (a8 B) d d.f.2.1 ?_))))));refine d7 17 (ws 7 B W _ _ d.g d.f.1) ?_;rintro _ _ _ L ⟨u,rfl,I⟩;replace e:=e.trans (L.m _);replace d:=d.step L;replace d:=(d.add (K:=fun F=>PtH F u (fQ 7 W)) I);refine fe 4 33 a2 d (fun Z _ _ u16 i d=>?_);replace i:=ed e.gr.size i;replace e:=e.trans (u16.m _);refine ce 0 0 (bv u) d (fun _ pu d=>?_);replace e:=e.put2 pu i g d.g;refine aE (lL d ac (lN (kX ?_)));obtain ⟨zb,d,e,M⟩:=d.pubM e 0 i;replace d:=d.to [⟨j,59,[.string s,nV b,iV p]⟩] [];have O:Seg zb Z 0 (bv u):=M;replace d:=d.a_Seg O;exact d.retM e [] (pB Z) (by rw[ht_];exact ⟨Z,u,rfl,by first|assumption|omega,d.own 0,d.f.1,d.f.2.1⟩)
 replace d:=(d.stepM 0 V o).to [⟨j,59,[.string s,nV (sk s a),iV p]⟩] [];replace e:=e.trans V;have hcF:=k;refine lL d [.v qT] (aj (aa d ac (bj 9 (Y j s D (sk s a) oM p t b (iu hq hcF) _ _ d.g (d.own 0) (d.jk 0) d.f.1) ?_)));rintro _ _ _ S ⟨l,x,rfl,bb,z,y,C⟩;replace d:=(d.stepM 0 S z).to [⟨j,59,[.string s,nV b,iV p]⟩] [];replace e:=e.trans S;replace d:=((d.a_Seg y).add (K:=fun F=>PtH F x t) C);exact lL d ac (lN (kX (d.retM e [] (pB l) (by exact ⟨l,x,rfl,by first|assumption|omega,d.own 0,d.f.2.1,d.f.1⟩))))
end
theorem Hd (c:Nat)(i:c<256)(w:World)(h:Hp)(g:G w h):CV 125 #[.int .u8 (c:Nat)] w h (.bool (cH c)):=by
 have a:=sS g;refine go Tryz.func125 [(0,.int .u8 (c:Nat))] rfl (aa a ac (aE (lL a ac (aq 4 a (fC c i _ _ a.g) (fun w1 j a=>?_)))));cases e:(decide (48<=c/\c<=57))
 .
  have f:=oF e;refine lL a aF ?_;cases b:((c:Int) == (46:Int))
  .
   have d:=ao b;exact lB 7 b (lL a [.v qF,.c] (af a [] qF (congrArg Value.bool (decide_eq_false oM).symm)))
  have d:=eq_of_beq b;exact lB 7 b (lL a [.v qT,.c] (af a [] qT (congrArg Value.bool (decide_eq_true oM).symm)))
 have f:=oT e;refine lL a ac (lG 6 ?_);exact lG 7 (lL a [.v qT,.c] (af a [] qT (congrArg Value.bool (decide_eq_true oM).symm)))
theorem PtH.setN {h:Hp}{p:PTm}{op n:Int}{q:Rat}{s:ByteArray}{ks:List Tm}(x:PtH h p (.mk op n q s ks))(m:Int):PtH h ⟨p.op,m,p.q,p.s,p.A,p.m,p.c⟩ (.mk op m q s ks):=by
 obtain ⟨d,x⟩:=x
 match d,x with
 | d+1,⟨h1,_,h3,h4,h5,h6,h7⟩=>exact ⟨d+1,h1,rfl,h3,h4,h5,h6,h7⟩
theorem p5 {x:ByteArray}(h:bU x=true):9<=ag x/\ag x<=13:=by
 have h:=oT h
 revert h
 unfold ag
 repeat' split
 all_goals intro h;first|(constructor<;>decide)|exact absurd rfl h
theorem s7 {op:Int}(h:9<=op/\op<=13):((op=12\/op=13)/\fH op=2)\/(¬(op=12\/op=13)/\fH op=1):=by
 have:=aT op
 omega
def IB (nf bf:ByteArray->Option Rat)(n:Nat):Prop:=∀ (op:Int),9<=op/\op<=13->∀ (pb:Nat) (s:ByteArray),s.size<=1000000->∀ (a:Nat),a<=s.size->∀ (bd:Int) (t:Tm) (b:Nat),bn nf bf s n (.call op) a=some (.ok t b)->∀ (w:World) (h:Hp),G w h->Own w pb 59 [.string s,nV a,iV bd]->h[pb]?=some junk->Tab h->Calls Tryz.prog 126 #[pB pb,iV op] w (bW pb w h (Ai pb s t b bd))
def Bn (nf:ByteArray->Option Rat):Prop:=∀ x q,nf x=some q->∀ (w:World) (h:Hp),G w h->Tab h->CV 124 #[.string x] w h (.tuple #[qv q,.bool true])
def AT:Prop:=∀ (x:ByteArray) (k:Nat),x.size<=3->fM x=some k->∀ (w:World) (h:Hp),G w h->CV 104 #[.string x] w h (.tuple #[nv k,.bool true])
def Hx (bf:ByteArray->Option Rat):Prop:=∀ (pb:Nat) (s:ByteArray),s.size<=1000000->∀ (a:Nat),a<=s.size->∀ (bd:Int) (q:Rat),ak s a=91->rn cf s (a+1)≠s.size->bf (s.extract (a+1) (rn cf s (a+1)))=some q->∀ (w:World) (h:Hp),G w h->Own w pb 59 [.string s,nV a,iV bd]->h[pb]?=some junk->Tab h->Calls Tryz.prog 127 #[pB pb] w (bW pb w h (Ai pb s (dl q) (rn cf s (a+1)+1) bd))
section
variable {nf bf:ByteArray->Option Rat}(n:Nat)
theorem Ea  (hnp:AT)(iha:PC nf bf 102 n .atom)(y:Nat)(s:ByteArray)(M:s.size<=1000000)(a:Nat)(ha:a<=s.size)(H:Int)(t:Tm)(b:Nat)(hq:bn nf bf s (n+1) .pow a=some (.ok t b))(w:World)(h:Hp)(g:G w h)(ho:Own w y 59 [.string s,nV a,iV H])(hj:h[y]?=some junk)(tb:Tab h):Calls Tryz.prog 79 #[pB y] w (bW y w h (Ai y s t b H)):=by
 have e:UpM [y] w h w h:=UpM.refl g;obtain ⟨wz,b4,d⟩:=SS.at_ g ho hj;obtain ⟨v1,L,hv1,hP0,hP1⟩:=nF hq;replace d:=(d.add (K:=fun h_=>Tab h_) tb);refine go Tryz.func79 [(0,pB y)] rfl (aa d ac (aE (lL d ac (bj 13 (iha y s M a ha H v1 L hv1 _ _ d.g (d.own 0) (d.jk 0) d.f.1) ?_))));rintro _ w2 h3 u4 ⟨F,S,rfl,b3,b0,bt,bp⟩;replace d:=(d.stepM 0 u4 b0).to [⟨y,59,[.string s,nV L,iV H]⟩] [];replace e:=e.trans u4;replace d:=((d.a_Seg bt).add (K:=fun h_=>PtH h_ S v1) bp);refine lL d ac (ai (aa d [.c,.v qF,.c,.c] ?_));have b1:=bB (s:=s) (a:=L) oM;refine bj 18 (fw y s M L oM H 94 kD _ _ d.g (d.own 0) (d.jk 0) d.f.r.1) ?_;rintro _ w6 h7 u8 (⟨rfl,Z,b6,X⟩|⟨rfl,Z,X⟩)
 .
  replace d:=(d.stepM 0 u8 X).to [⟨y,59,[.string s,nV (sk s L+1),iV H]⟩] [];replace e:=e.trans u8;have zb:=Z;obtain ⟨k,z,x,O,I⟩:=oe (hP1 zb);refine lL d [.v qF,.v qF] (ah (cK (aa d ac ?_)));have b2:=bB (s:=s) (a:=(sk s L+1)) oM;refine bj 23 (fw y s M (sk s L+1) oM H 45 kD _ _ d.g (d.own 0) (d.jk 0) d.f.r.1) ?_;rintro _ _ _ u12 (⟨rfl,V,b5,bb⟩|⟨rfl,V,bb⟩)
  .
   replace d:=(d.stepM 0 u12 bb).to [⟨y,59,[.string s,nV (sk s (sk s L+1)+1),iV H]⟩] [];replace e:=e.trans u12;rw[if_pos V] at z x O I
   generalize hB1:sk s (sk s (sk s L+1)+1)=B at z x O I
   rw[<-Int.zero_sub] at I
   refine lL d ac (aE (lL d ac ?_));have J:=bB (s:=s) (a:=(sk s (sk s L+1)+1)) oM;refine bj 25 (jq y s M (sk s (sk s L+1)+1) oM H _ _ d.g (d.own 0) (d.jk 0) d.f.r.1) ?_;rintro _ _ _ u15 ⟨rfl,Y⟩;rw[hB1] at Y J
   rw[hB1];replace d:=(d.stepM 0 u15 Y).to [⟨y,59,[.string s,nV B,iV H]⟩] [];replace e:=e.trans u15;have U:=f4 bM s B;have W:=dB (p:=bM) (s:=s) (a:=B) J;rw[<-x] at U W
   have hxs:(s.extract B b).size=b-B:=by rw[ByteArray.size_extract];omega
   have hk9:=i9 z oM;refine aE (lL d [.c,.v (pB y),.v (qP y 1),.o (nV B) 0 1 1,.c] (aE (lL d ac (bj 31 (oO 45 bM (fun _ _=>by kernel_rfl) (fun c hc w h g=>fC c hc w h g) y s M B oM H _ _ d.g (d.own 0) (d.jk 0) d.f.r.1) ?_))));rintro _ _ _ u18 ⟨rfl,hOr⟩;rw[<-x] at hOr
   rw[<-x];replace d:=(d.stepM 0 u18 hOr).to [⟨y,59,[.string s,nV b,iV H]⟩] [];replace e:=e.trans u18;refine lL d ac (ai (aa d [.c,.v (nV ((s.extract B b).size))] ?_));have zd:(decide ((3:Int)<(((s.extract B b).size:Nat):Int)))=false:=decide_eq_false oM;refine lB 34 zd (ah (cK (aa d ac (d7 40 (hnp (s.extract B b) k oM z _ _ d.g) ?_))));rintro _ _ _ u22 rfl;replace e:=e.trans (u22.m _);replace d:=d.step u22;refine lL d [.c,.v (nv k),.v qT] (fe 7 26 ([uV 0,eS]) d (fun zf _ _ u26 C d=>?_));replace C:=ed e.gr.size C;replace e:=e.trans (u26.m _);refine ce 0 0 (nc k) d (fun _ Q d=>?_);replace e:=e.put2 Q C g d.g;refine lL d ac (ai (aa d [.c,.v qF] (ah (cK (aa d [.o (nv k) 0 0 2] (d7 50 (kr k oM _ _ d.g) ?_))))));rintro _ _ _ u30 rfl;replace e:=e.trans (u30.m _);replace d:=d.step u30;refine lL d [.c,.v (mV k),.v qT,.c,.c] (lN (bG [(2,.pointer none),(3,pB F),(4,qT),(9,mV k)] ?_));refine aa d [.c,.v (pB F)] (lH 55 (a8 S) d d.f.2.1 ?_);refine d7 56 (ws 8 S v1 _ _ d.g d.f.1) ?_;rintro _ _ _ u34 ⟨j,rfl,bk⟩;replace e:=e.trans (u34.m _);replace d:=d.step u34;replace d:=(d.add (K:=fun h_=>PtH h_ j (fQ 8 v1)) bk);refine fe 11 33 a2 d (fun za _ _ u38 l d=>?_);replace l:=ed e.gr.size l;replace e:=e.trans (u38.m _);refine ce 0 0 (bv j) d (fun _ Q d=>?_);replace e:=e.put2 Q l g d.g;refine aE (lL d ac (lV 58 (nV k) ?_ (hr:=rS ((k:Int)) kR (jV oM oM))));refine lL d [.v (qP za 1)] (ce 0 1 ([nV k]) d (fun _ Q d=>?_));replace e:=e.put2 Q l g d.g;refine ai (aa d ac (aj (kQ (lL d [.v (qP za 1),.o (nV k) 0 1 1] (lI 63 (0-(k:Nat)) ?_)))));refine lL d [.v (qP za 1)] (ce 0 1 ([iV (0-(k:Nat))]) d (fun _ Q d=>?_));replace e:=e.put2 Q l g d.g;refine aE (lL d ac (lN (kX ?_)));obtain ⟨zg,d,e,bw⟩:=d.pubM e 0 l;replace d:=d.to [⟨zf,26,nc k⟩,⟨y,59,[.string s,nV b,iV H]⟩] [];have br:Seg zg za 0 (bv ⟨j.op,0-(k:Nat),j.q,j.s,j.A,j.m,j.c⟩):=bw;replace d:=d.a_Seg br;exact d.retM e [] (pB za) (by rw[I];exact ⟨za,⟨j.op,0-(k:Nat),j.q,j.s,j.A,j.m,j.c⟩,rfl,by first|assumption|omega,d.own 1,d.f.1,(PtH.setN d.f.2.1 _)⟩)
  replace d:=(d.stepM 0 u12 bb).to [⟨y,59,[.string s,nV (sk s (sk s L+1)),iV H]⟩] [];replace e:=e.trans u12;rw[if_neg V] at z x O I
  generalize hB1:sk s (sk s (sk s L+1))=B at z x O I
  refine lL d ac (aE (lL d ac ?_));have J:=bB (s:=s) (a:=(sk s (sk s L+1))) oM;refine bj 25 (jq y s M (sk s (sk s L+1)) oM H _ _ d.g (d.own 0) (d.jk 0) d.f.r.1) ?_;rintro _ _ _ u48 ⟨rfl,Y⟩;rw[hB1] at Y J
  rw[hB1];replace d:=(d.stepM 0 u48 Y).to [⟨y,59,[.string s,nV B,iV H]⟩] [];replace e:=e.trans u48;have U:=f4 bM s B;have W:=dB (p:=bM) (s:=s) (a:=B) J;rw[<-x] at U W
  have hxs:(s.extract B b).size=b-B:=by rw[ByteArray.size_extract];omega
  have hk9:=i9 z oM;refine aE (lL d [.c,.v (pB y),.v (qP y 1),.o (nV B) 0 1 1,.c] (aE (lL d ac (bj 31 (oO 45 bM (fun _ _=>by kernel_rfl) (fun c hc w h g=>fC c hc w h g) y s M B oM H _ _ d.g (d.own 0) (d.jk 0) d.f.r.1) ?_))));rintro _ _ _ u51 ⟨rfl,hOr⟩;rw[<-x] at hOr
  rw[<-x];replace d:=(d.stepM 0 u51 hOr).to [⟨y,59,[.string s,nV b,iV H]⟩] [];replace e:=e.trans u51;refine lL d ac (ai (aa d [.c,.v (nV ((s.extract B b).size))] ?_));have ze:(decide ((3:Int)<(((s.extract B b).size:Nat):Int)))=false:=decide_eq_false oM;refine lB 34 ze (ah (cK (aa d ac (d7 40 (hnp (s.extract B b) k oM z _ _ d.g) ?_))));rintro _ _ _ u55 rfl;replace e:=e.trans (u55.m _);replace d:=d.step u55;refine lL d [.c,.v (nv k),.v qT] (fe 7 26 ([uV 0,eS]) d (fun zi _ _ u59 D d=>?_));replace D:=ed e.gr.size D;replace e:=e.trans (u59.m _);refine ce 0 0 (nc k) d (fun _ Q d=>?_);replace e:=e.put2 Q D g d.g;refine lL d ac (ai (aa d [.c,.v qF] (ah (cK (aa d [.o (nv k) 0 0 2] (d7 50 (kr k oM _ _ d.g) ?_))))));rintro _ _ _ u63 rfl;replace e:=e.trans (u63.m _);replace d:=d.step u63;refine lL d [.c,.v (mV k),.v qT,.c,.c] (lN (bG [(2,.pointer none),(3,pB F),(4,qF),(9,mV k)] ?_));refine aa d [.c,.v (pB F)] (lH 55 (a8 S) d d.f.2.1 ?_);refine d7 56 (ws 8 S v1 _ _ d.g d.f.1) ?_;rintro _ _ _ u67 ⟨i,rfl,bl⟩;replace e:=e.trans (u67.m _);replace d:=d.step u67;replace d:=(d.add (K:=fun h_=>PtH h_ i (fQ 8 v1)) bl);refine fe 11 33 a2 d (fun zc _ _ u71 u d=>?_);replace u:=ed e.gr.size u;replace e:=e.trans (u71.m _);refine ce 0 0 (bv i) d (fun _ Q d=>?_);replace e:=e.put2 Q u g d.g;refine aE (lL d ac (lV 58 (nV k) ?_ (hr:=rS ((k:Int)) kR (jV oM oM))));refine lL d [.v (qP zc 1)] (ce 0 1 ([nV k]) d (fun _ Q d=>?_));replace e:=e.put2 Q u g d.g;refine ai (aa d ac (ah (cK (aa d ac (lN (kX ?_))))));obtain ⟨zj,d,e,bq⟩:=d.pubM e 0 u;replace d:=d.to [⟨zi,26,nc k⟩,⟨y,59,[.string s,nV b,iV H]⟩] [];have bm:Seg zj zc 0 (bv ⟨i.op,(k:Nat),i.q,i.s,i.A,i.m,i.c⟩):=bq;replace d:=d.a_Seg bm;exact d.retM e [] (pB zc) (by rw[I];exact ⟨zc,⟨i.op,(k:Nat),i.q,i.s,i.A,i.m,i.c⟩,rfl,by first|assumption|omega,d.own 1,d.f.1,(PtH.setN d.f.2.1 _)⟩)
 replace d:=(d.stepM 0 u8 X).to [⟨y,59,[.string s,nV (sk s L),iV H]⟩] [];replace e:=e.trans u8;have zb:=Z;refine lL d [.v qT,.v qT] (aj (aa d aF (lN (kX ?_))));obtain ⟨I,hb_⟩:=hP0 zb;exact d.retM e [] (pB F) (by rw[I];rw[hb_];exact ⟨F,S,rfl,by first|assumption|omega,d.own 0,d.f.2.1,d.f.1⟩)
theorem F5  (hnf:Bn nf)(hbf:Hx bf)(ihc:IB nf bf n)(ihs:PC nf bf 12 n .sum)(j:Nat)(s:ByteArray)(B:s.size<=1000000)(a:Nat)(ha:a<=s.size)(y:Int)(t:Tm)(b:Nat)(hq:bn nf bf s (n+1) .atom a=some (.ok t b))(w:World)(h:Hp)(g:G w h)(ho:Own w j 59 [.string s,nV a,iV y])(hj:h[j]?=some junk)(tb:Tab h):Calls Tryz.prog 102 #[pB j] w (bW j w h (Ai j s t b y)):=by
 have e:UpM [j] w h w h:=UpM.refl g;obtain ⟨wz,S,d⟩:=SS.at_ g ho hj;replace d:=(d.add (K:=fun i=>Tab i) tb);refine go Tryz.func102 [(0,pB j)] rfl (aa d ac (aE (lL d ac ?_)));have cr:=bB (s:=s) (a:=a) oM;refine bj 13 (jq j s B a ha y _ _ d.g (d.own 0) (d.jk 0) d.f.1) ?_;rintro _ w2 h3 u4 ⟨rfl,ch⟩;replace d:=(d.stepM 0 u4 ch).to [⟨j,59,[.string s,nV (sk s a),iV y]⟩] [];replace e:=e.trans u4;refine lL d ac (aE (lL d [.c,.v (pB j),.v (qP j 1),.o (nV (sk s a)) 0 1 1,.c] (ai (kZ (CG.join (fun Γ w_=>∃ (ze:Bool)(i:Hp),Γ=[(0,pB j),(2,.pointer none),(3,.int .u8 (ak s (sk s a):Nat)),(4,nV (sk s a)),(18,.bool ze)]/\SS wz S w_ i [⟨j,59,[.string s,nV (sk s a),iV y]⟩] [] [fun i=>Tab i]/\(ze=true->¬¬((48<=ak s (sk s a)/\ak s (sk s a)<=57)\/ak s (sk s a)=46))/\(ze=false->cH (ak s (sk s a))=false)/\UpM [j] w h w_ i) ?_ ?_)))))
 .
  refine kQ (lL d ac (d7 20 (fC (ak s (sk s a)) (bh _ _) _ _ d.g) ?_));rintro _ w5 h6 u7 rfl;replace e:=e.trans (u7.m _);replace d:=d.step u7;cases hb8:(decide (48<=ak s (sk s a)/\ak s (sk s a)<=57))
  .
   have b9:=oF hb8;refine lL d aF ?_;cases M:(((ak s (sk s a):Nat):Int) == (46:Int))
   .
    have b1:=ao M;refine lB 23 M (lL d [.v qF,.c] (lD ?_));intro a_ F;exact ⟨_,⟨false,h6,rfl,d.to _ _,(fun i=>absurd i kD),(fun _=>decide_eq_false oM),e⟩,F.to _ kR⟩
   have b1:=eq_of_beq M;refine lB 23 M (lL d [.v qT,.c] (lD ?_));intro a_ F;exact ⟨_,⟨true,h6,rfl,d.to _ _,(fun _=>by omega),(fun i=>absurd i kD),e⟩,F.to _ kR⟩
  have b9:=oT hb8;refine lL d ac (lG 22 ?_);refine lG 23 (lL d [.v qT,.c] (lD ?_));intro a_ F;exact ⟨_,⟨true,h6,rfl,d.to _ _,(fun _=>by omega),(fun i=>absurd i kD),e⟩,F.to _ kR⟩
 rintro _ _ ⟨ze,_,rfl,d,zo,z,e⟩;cases za:(ze)
 .
  try rw[za] at d
  try rw[za]
  refine da (CG.join (fun Γ w_=>∃ (zf:Bool)(i:Hp),Γ=[(0,pB j),(2,.pointer none),(3,.int .u8 (ak s (sk s a):Nat)),(4,nV (sk s a)),(38,.bool zf)]/\SS wz S w_ i [⟨j,59,[.string s,nV (sk s a),iV y]⟩] [] [fun i=>Tab i]/\(zf=true->dI (ak s (sk s a))\/ak s (sk s a)=95)/\(zf=false->¬(dI (ak s (sk s a))\/ak s (sk s a)=95))/\UpM [j] w h w_ i) ?_ ?_)
  .
   refine kQ (lL d ac (d7 40 (jo (ak s (sk s a)) (bh _ _) _ _ d.g) ?_));rintro _ _ zi u24 rfl;replace e:=e.trans (u24.m _);replace d:=d.step u24;cases zj:(decide (dI (ak s (sk s a))))
   .
    have zm:=oF zj;refine lL d aF ?_;cases zb:(((ak s (sk s a):Nat):Int) == (95:Int))
    .
     have zn:=ao zb;refine lB 43 zb (lL d [.v qF,.c] (lD ?_));intro a_ F;exact ⟨_,⟨false,zi,rfl,d.to _ _,(fun i=>absurd i kD),(fun _ i=>by rcases i with i|i;exact absurd i aM;omega),e⟩,F.to _ kR⟩
    have zn:=eq_of_beq zb;refine lB 43 zb (lL d [.v qT,.c] (lD ?_));intro a_ F;exact ⟨_,⟨true,zi,rfl,d.to _ _,(fun _=>by first|exact .inl aM|exact .inr oM),(fun i=>absurd i kD),e⟩,F.to _ kR⟩
   have zm:=oT zj;refine lL d ac (lG 42 ?_);refine lG 43 (lL d [.v qT,.c] (lD ?_));intro a_ F;exact ⟨_,⟨true,zi,rfl,d.to _ _,(fun _=>by first|exact .inl aM|exact .inr oM),(fun i=>absurd i kD),e⟩,F.to _ kR⟩
  rintro _ _ ⟨zf,_,rfl,d,b2,L,e⟩;cases zc:(zf)
  .
   try rw[zc] at d
   try rw[zc]
   refine da (aa d ac ?_)
   rcases Ku (ak s (sk s a)=91) with zg|zg
   .
    obtain ⟨b6,q9,b4,H,u⟩:=p9 hq (z aM) (L aM) zg;have zp:(((ak s (sk s a):Nat):Int) == (91:Int))=true:=ko oM;refine lB 68 zp (lL d ac (aj (aa d ac (bj 70 (hbf j s B (sk s a) oM y q9 zg b6 b4 _ _ d.g (d.own 0) (d.jk 0) d.f.1) ?_))));rintro _ _ _ u43 ⟨I,W,rfl,cq,bk,bw,Z⟩;replace d:=(d.stepM 0 u43 bk).to [⟨j,59,[.string s,nV (rn cf s (sk s a+1)+1),iV y]⟩] [];replace e:=e.trans u43;replace d:=((d.a_Seg bw).add (K:=fun i=>PtH i W (dl q9)) Z);exact lL d ac (lN (kX (d.retM e [] (pB I) (by rw[H];rw[u];exact ⟨I,W,rfl,by first|assumption|omega,d.own 0,d.f.2.1,d.f.1⟩))))
   have zq:(((ak s (sk s a):Nat):Int) == (91:Int))=false:=gI oM;refine lB 68 zq (lL d ac (ah (aa d ac ?_)));have zs:ak s (sk s a)=40:=Kq fun e_=>qB hq (z aM) (L aM) zg e_
   obtain ⟨e1,hq1,hd1,u⟩:=oA hq (z aM) (L aM) zg zs;have cz:=cn (s:=s) (a:=sk s a) oM;have zr:(((ak s (sk s a):Nat):Int) == (40:Int))=true:=ko oM;refine lB 73 zr (lL d ac (aj (aa d [.c,.v (pB j),.v (qP j 1),.o (nV (sk s a)) 0 1 1] (bg 78 ((sk s a:Nat)+1) ((sk s a)+1) ?_))));refine lL d [.v (pB j),.v (qP j 1)] (ce 0 1 ([nV ((sk s a)+1)]) d (fun _ pu d=>?_));replace e:=e.put pu (n1.2 rfl) d.g;refine aE (lL d ac (bj 82 (ihs j s B ((sk s a)+1) oM y t e1 hq1 _ _ d.g (d.own 0) (d.jk 0) d.f.1) ?_));rintro _ _ _ u50 ⟨J,U,rfl,cy,b0,Y,br⟩;replace d:=(d.stepM 0 u50 b0).to [⟨j,59,[.string s,nV e1,iV y]⟩] [];replace e:=e.trans u50;replace d:=((d.a_Seg Y).add (K:=fun i=>PtH i U t) br);refine lL d ac (ai (aa d [.c,.v qT,.c,.c] (bj 87 (jX j s B e1 oM y 41 kD hd1 _ _ d.g (d.own 0) (d.jk 0) d.f.r.1) ?_)));rintro _ _ _ u54 ⟨rfl,cx,bt⟩;replace d:=(d.stepM 0 u54 bt).to [⟨j,59,[.string s,nV (sk s e1+1),iV y]⟩] [];replace e:=e.trans u54;exact lL d [.v qF,.v qF] (ah (cK (aa d aF (lN (kX (d.retM e [] (pB J) (by rw[u];exact ⟨J,U,rfl,by first|assumption|omega,d.own 0,d.f.2.1,d.f.1⟩)))))))
  try rw[zc] at d
  try rw[zc]
  refine ci (aa d ac ?_);have hcW:=b2 aM;have Q:=dB (p:=bF) (s:=s) (a:=sk s a) oM;refine bj 46 (oO 23 bF (fun _ _=>by kernel_rfl) (fun c hc w h g=>l8 c hc w h g) j s B (sk s a) oM y _ _ d.g (d.own 0) (d.jk 0) d.f.1) ?_;rintro _ _ _ u57 ⟨rfl,O⟩;replace d:=(d.stepM 0 u57 O).to [⟨j,59,[.string s,nV (rn bF s (sk s a)),iV y]⟩] [];replace e:=e.trans u57;refine lL d ac (ai (aG (d7 48 (ny _ _ d.g) ?_)));rintro _ _ _ u60 ⟨bm,rfl,hcm⟩;replace e:=e.trans (u60.m _);replace d:=d.step u60;replace d:=(d.add (K:=fun i=>MapS i bm gO) hcm);refine lL d ac (In 50 77 9 3 (s.extract (sk s a) (rn bF s (sk s a))) true (iV (ag (s.extract (sk s a) (rn bF s (sk s a))))) ((bU (s.extract (sk s a) (rn bF s (sk s a))))) d d.f.1 ?_ (hf:=(by rcases ox (s.extract (sk s a) (rn bF s (sk s a))) with ⟨i_,e1_,e2_⟩|⟨e1_,e2_,e3_⟩;exact .inl ⟨i_,e1_,e2_⟩;exact .inr ⟨e1_,e2_,fun _=>by rw[e3_];kernel_rfl⟩)));refine lL d [.c,.v (iV (ag (s.extract (sk s a) (rn bF s (sk s a))))),.v (.bool (bU (s.extract (sk s a) (rn bF s (sk s a))))),.c,.c] (aE (lL d ac (lN ?_)));cases zd:((bU (s.extract (sk s a) (rn bF s (sk s a)))))
  .
   try rw[zd] at d
   try rw[zd]
   refine da (cK (cQ (aa d ac ?_)));obtain ⟨hnm,H,u⟩:=oh hq (z aM) hcW aM;refine d7 58 ((by have q_:=qE (s.extract (sk s a) (rn bF s (sk s a))) (by rw[ByteArray.size_extract];omega) _ _ d.g;rw[hnm] at q_;exact q_)) ?_;rintro _ _ _ u64 rfl;replace e:=e.trans (u64.m _);replace d:=d.step u64;refine lL d [.v qF] (ah (cK (aa d [.c,.v (.agg #[iV 2,iV 0,qF,uV 0,eS,uV 0,eS,.string (s.extract (sk s a) (rn bF s (sk s a))),sZ])] (fe 65 33 ([iV 2,iV 0,qF,uV 0,eS,uV 0,eS,.string (s.extract (sk s a) (rn bF s (sk s a))),sZ]) d (fun zk _ _ u68 l d=>?_)))));replace l:=ed e.gr.size l;replace e:=e.trans (u68.m _);refine lL d ac (lN (kX ?_));obtain ⟨zt,d,e,b3⟩:=d.pubM e 0 l;replace d:=d.to [⟨j,59,[.string s,nV (rn bF s (sk s a)),iV y]⟩] [];have b7:Seg zt zk 0 (bv ⟨2,0,0,(s.extract (sk s a) (rn bF s (sk s a))),none,0,0⟩):=b3;replace d:=d.a_Seg b7;exact d.retM e [] (pB zk) (by rw[H];rw[u];exact ⟨zk,⟨2,0,0,(s.extract (sk s a) (rn bF s (sk s a))),none,0,0⟩,rfl,by first|assumption|omega,d.own 0,d.f.1,PtH.nam⟩)
  try rw[zd] at d
  try rw[zd]
  refine ci (aa d aF (bj 56 (ihc (ag (s.extract (sk s a) (rn bF s (sk s a)))) (p5 aM) j s B (rn bF s (sk s a)) oM y t b (rq hq (z aM) hcW aM) _ _ d.g (d.own 0) (d.jk 0) d.f.2.1) ?_));rintro _ _ _ u76 ⟨D,V,rfl,cm,bl,bp,bq⟩;replace d:=(d.stepM 0 u76 bl).to [⟨j,59,[.string s,nV b,iV y]⟩] [];replace e:=e.trans u76;replace d:=((d.a_Seg bp).add (K:=fun i=>PtH i V t) bq);exact lL d ac (lN (kX (d.retM e [] (pB D) (by exact ⟨D,V,rfl,by first|assumption|omega,d.own 0,d.f.2.1,d.f.1⟩))))
 try rw[za] at d
 try rw[za]
 refine ci (aa d ac ?_);obtain ⟨q,hnq,H,u⟩:=nK hq (decide_eq_true (Kq fun i=>zo aM i));have Q:=dB (p:=cH) (s:=s) (a:=sk s a) oM;refine bj 27 (oO 125 cH (fun _ _=>by kernel_rfl) (fun c hc w h g=>Hd c hc w h g) j s B (sk s a) oM y _ _ d.g (d.own 0) (d.jk 0) d.f.1) ?_;rintro _ _ _ u79 ⟨rfl,O⟩;rw[<-u] at O Q
 replace d:=(d.stepM 0 u79 O).to [⟨j,59,[.string s,nV b,iV y]⟩] [];replace e:=e.trans u79;refine d7 28 (hnf _ _ hnq _ _ d.g d.f.1) ?_;rintro _ _ _ u82 rfl;replace e:=e.trans (u82.m _);replace d:=d.step u82;refine lL d [.c,.v (qv q),.v qT] (fe 5 30 a1 d (fun zu _ _ u86 x d=>?_));replace x:=ed e.gr.size x;replace e:=e.trans (u86.m _);refine ce 0 0 (qc q) d (fun _ pu d=>?_);replace e:=e.put2 pu x g d.g;refine lL d ac (ai (aa d [.c,.v qF] (ah (cK (aa d [.o (qv q) 0 0 5] (d7 37 (rW q _ _ d.g) ?_))))));rintro _ _ _ u91 ⟨C,rfl,bb⟩;replace e:=e.trans (u91.m _);replace d:=d.step u91;replace d:=(d.add (K:=fun i=>PtH i C (dl q)) bb);refine fe 7 33 a2 d (fun zl _ _ u95 k d=>?_);replace k:=ed e.gr.size k;replace e:=e.trans (u95.m _);refine ce 0 0 (bv C) d (fun _ pu d=>?_);replace e:=e.put2 pu k g d.g;refine aE (lL d ac (lN (kX ?_)));obtain ⟨zv,d,e,b5⟩:=d.pubM e 0 k;replace d:=d.to [⟨zu,30,qc q⟩,⟨j,59,[.string s,nV b,iV y]⟩] [];have X:Seg zv zl 0 (bv C):=b5;replace d:=d.a_Seg X;exact d.retM e [] (pB zl) (by rw[H];exact ⟨zl,C,rfl,by first|assumption|omega,d.own 1,d.f.1,d.f.2.1⟩)
theorem GQ  (op:Int)(hop:9<=op/\op<=13)(ihs:PC nf bf 12 n .sum)(j:Nat)(s:ByteArray)(p:s.size<=1000000)(a:Nat)(ha:a<=s.size)(l:Int)(t:Tm)(b:Nat)(hq:bn nf bf s (n+1) (.call op) a=some (.ok t b))(w:World)(h:Hp)(g:G w h)(ho:Own w j 59 [.string s,nV a,iV l])(hj:h[j]?=some junk)(tb:Tab h):Calls Tryz.prog 126 #[pB j,iV op] w (bW j w h (Ai j s t b l)):=by
 have e:UpM [j] w h w h:=UpM.refl g;obtain ⟨wz,bw,d⟩:=SS.at_ g ho hj;obtain ⟨zb,u1,D,hq1,hA,hB⟩:=k7 hq;replace d:=(d.add (K:=fun C=>Tab C) tb);refine go Tryz.func126 [(0,pB j),(1,iV op)] rfl (aa d ac (ai (aa d ac (bj 9 (jX j s p a ha l 40 kD zb _ _ d.g (d.own 0) (d.jk 0) d.f.1) ?_))));rintro _ w2 h3 u4 ⟨rfl,b1,bl⟩;replace d:=(d.stepM 0 u4 bl).to [⟨j,59,[.string s,nV (sk s a+1),iV l]⟩] [];replace e:=e.trans u4;refine lL d [.v qF] (ah (cK (aa d ac (bj 18 (ihs j s p (sk s a+1) oM l u1 D hq1 _ _ d.g (d.own 0) (d.jk 0) d.f.1) ?_))));rintro _ w6 h7 u8 ⟨u,x,rfl,b0,X,bm,bb⟩;replace d:=(d.stepM 0 u8 X).to [⟨j,59,[.string s,nV D,iV l]⟩] [];replace e:=e.trans u8;replace d:=((d.a_Seg bm).add (K:=fun C=>PtH C x u1) bb);refine lL d ac (ai (aa d [.c,.v qF] (ah (cK (aa d [.c,.c,.v (pB u)] (lH 24 (a8 x) d d.f.2.1 ?_))))));refine d7 25 (ws op x u1 _ _ d.g d.f.1) ?_;rintro _ _ _ u12 ⟨o,rfl,W⟩;replace e:=e.trans (u12.m _);replace d:=d.step u12;replace d:=(d.add (K:=fun C=>PtH C o (fQ op u1)) W);refine fe 6 33 a2 d (fun B _ _ u16 i d=>?_);replace i:=ed e.gr.size i;replace e:=e.trans (u16.m _);refine ce 0 0 (bv o) d (fun _ pu d=>?_);replace e:=e.put2 pu i g d.g;refine ai (aa d ac (d7 27 (ni op _ _ d.g) ?_));rintro _ _ _ u20 rfl;replace e:=e.trans (u20.m _);replace d:=d.step u20
 rcases s7 hop with ⟨ho2,har⟩|⟨ho2,har⟩
 .
  have zc:((fH op:Int) == (2:Int))=true:=by rw[har];rfl
  refine lB 28 zc ?_;obtain ⟨hA1,v1,S,hA2,hA3,hA4,hA5⟩:=hA ho2;refine aj (cQ (aa d ac (bj 30 (jX j s p D oM l 44 kD hA1 _ _ d.g (d.own 1) (d.jk 1) d.f.r.2.1) ?_)));rintro _ _ _ V ⟨rfl,bp,F⟩;replace d:=(d.stepM 1 V F).to [⟨B,33,bv o⟩,⟨j,59,[.string s,nV (sk s D+1),iV l]⟩] [];replace e:=e.trans V;refine lL d [.v qF] (ah (cK (aa d ac (bj 39 (ihs j s p (sk s D+1) oM l v1 S hA2 _ _ d.g (d.own 1) (d.jk 1) d.f.r.2.1) ?_))));rintro _ _ _ u29 ⟨y,z,rfl,bq,L,M,O⟩;replace d:=(d.stepM 1 u29 L).to [⟨B,33,bv o⟩,⟨j,59,[.string s,nV S,iV l]⟩] [];replace e:=e.trans u29;replace d:=((d.a_Seg M).add (K:=fun C=>PtH C z v1) O);refine lL d ac (ai (aa d [.c,.v qF] (ah (cK (cR 8 [] mixed d aw ?_)))));refine eV 0 42 (iV op) (eV 1 43 (pB u) (eV 2 44 (pB u) (eH 3 45 (a8 x) d d.f.q.1 (eV 4 46 (pB y) (eV 5 47 (pB y) (eH 6 48 (a8 z) d d.f.2.1 (ie 7 49 d e (fun _ _ d=>t6 op x z u1 v1 _ _ d.g d.f.r.2.1 d.f.1) ?_)))))));rintro _ _ _ _ _ e d ⟨k,rfl,J⟩;replace d:=(d.add (K:=fun C=>PtH C k (bz op u1 v1)) J);refine bL d (fun _ _ u35 d=>?_);replace e:=e.trans (u35.m _);refine kj 8 0 0 (bv k) d (fun _ pu d=>?_);replace e:=e.put2 pu i g d.g;refine tN (cQ (aa d ac (bj 51 (jX j s p S oM l 41 kD hA3 _ _ d.g (d.own 1) (d.jk 1) d.f.q.r.1) ?_)));rintro _ _ _ U ⟨rfl,bt,H⟩;replace d:=(d.stepM 1 U H).to [⟨B,33,bv k⟩,⟨j,59,[.string s,nV (sk s S+1),iV l]⟩] [];replace e:=e.trans U;refine lL d [.v qF] (ah (cK (aa d ac (lN (kX ?_)))));obtain ⟨ze,d,e,Q⟩:=d.pubM e 0 i;replace d:=d.to [⟨j,59,[.string s,nV (sk s S+1),iV l]⟩] [];have Y:Seg ze B 0 (bv k):=Q;replace d:=d.a_Seg Y;exact d.retM e [] (pB B) (by rw[hA4];rw[hA5];exact ⟨B,k,rfl,by first|assumption|omega,d.own 0,d.f.1,d.f.2.1⟩)
 have zd:((fH op:Int) == (2:Int))=false:=by rw[har];rfl
 refine lB 28 zd ?_;obtain ⟨hB1,hB2,hB3⟩:=hB ho2;refine ah (cK (cQ (aa d ac (bj 51 (jX j s p D oM l 41 kD hB1 _ _ d.g (d.own 1) (d.jk 1) d.f.r.2.1) ?_))));rintro _ _ _ u49 ⟨rfl,br,I⟩;replace d:=(d.stepM 1 u49 I).to [⟨B,33,bv o⟩,⟨j,59,[.string s,nV (sk s D+1),iV l]⟩] [];replace e:=e.trans u49;refine lL d [.v qF] (ah (cK (aa d ac (lN (kX ?_)))));obtain ⟨zf,d,e,bk⟩:=d.pubM e 0 i;replace d:=d.to [⟨j,59,[.string s,nV (sk s D+1),iV l]⟩] [];have Z:Seg zf B 0 (bv o):=bk;replace d:=d.a_Seg Z;exact d.retM e [] (pB B) (by rw[hB2];rw[hB3];exact ⟨B,o,rfl,by first|assumption|omega,d.own 0,d.f.1,d.f.2.1⟩)
end
section
variable {nf bf:ByteArray->Option Rat}(hnf:Bn nf)(hnp:AT)(hbf:Hx bf)
include hnf hnp hbf
def HH (nf bf:ByteArray->Option Rat)(n:Nat):Prop:=PC nf bf 12 n .sum/\PC nf bf 31 n .prod/\PC nf bf 51 n .sign/\PC nf bf 79 n .pow/\PC nf bf 102 n .atom/\IB nf bf n
theorem Fl (n:Nat):HH nf bf n:=by
  induction n using Nat.strongRecOn with
  | ind n ih =>
    cases n with
    | zero=>exact ⟨fun _ _ _ _ _ _ _ _ h=>(by cases h),fun _ _ _ _ _ _ _ _ h=>(by cases h),fun _ _ _ _ _ _ _ _ h=>(by cases h),fun _ _ _ _ _ _ _ _ h=>(by cases h),fun _ _ _ _ _ _ _ _ h=>(by cases h),fun _ _ _ _ _ _ _ _ _ _ h=>(by cases h)⟩
    | succ n =>
      have i:=ih n (Nat.lt_succ_self n);refine ⟨?_,?_,?_,?_,?_,?_⟩
      . exact fun d s h1 a f l t b j w h g e c k=>HE n (fun m p=>(ih m oM).2.1) d s h1 a f l t b j w h g e c k
      . exact fun d s h1 a f l t b j w h g e c k=>wJ n (fun m p=>(ih m oM).2.2.1) d s h1 a f l t b j w h g e c k
      . exact fun d s h1 a f l t b j w h g e c k=>AR n i.2.2.1 i.2.2.2.1 d s h1 a f l t b j w h g e c k
      . exact fun d s h1 a f l t b j w h g e c k=>Ea n hnp i.2.2.2.2.1 d s h1 a f l t b j w h g e c k
      . exact fun d s h1 a f l t b j w h g e c k=>F5 n hnf hbf i.2.2.2.2.2 i.1 d s h1 a f l t b j w h g e c k
      . exact fun op o d s h1 a f l t b j w h g e c k=>GQ n op o i.1 d s h1 a f l t b j w h g e c k
end
theorem rF (a b:Nat)(h1:b<=a)(c:a<256):IntKind.wrap .u8 ((a:Int)-(b:Int))=((a-b:Nat):Int):=by
 rw[show (a:Int)-(b:Int)=((a-b:Nat):Int) by omega];exact G4 oM oM
theorem np {c:UInt8}:∀ (l:List UInt8),(∀ b∈l,b≠c)->Lib.indexByte l c = -1
  | [],_=>rfl
  | b::l,h=>by
    have h1:(b == c)=false:=by simpa using h b List.mem_cons_self
    unfold Lib.indexByte
    rw[h1,np l (fun b a=>h b (List.mem_cons_of_mem _ a))];rfl
theorem s8 {s:ByteArray}{b:UInt8}(h:b∈s.data.toList):∃ i,i<s.size/\ak s i=b.toNat:=by
 obtain ⟨i,hi,e⟩:=List.mem_iff_getElem.1 h;refine ⟨i,by simpa using hi,?_⟩
 unfold ak
 rw[A6,Kt hi,e];rfl
theorem Cc (x:ByteArray)(c:UInt8)(a:∀ i,i<x.size->ak x i≠c.toNat)(w:World)(h:Hp)(g:G w h):CV 116 #[.string x,.string ⟨#[c]⟩] w h (iV (-1)):=by
 have q:=Ret.of_same g (Tryz.stringslite_Index_one x c w)
 rw[np _ (fun b d e=>by
  obtain ⟨i,hi,h1⟩:=s8 d;exact a i hi (by rw[h1,e]))] at q
 exact q
theorem E4 {x:ByteArray}{c:UInt8}(h:ak x 0≠c.toNat):Lib.hasPrefix x.data.toList [c]=false:=by
  unfold Lib.hasPrefix
  unfold ak at h
  cases e:x.data.toList with
  | nil=>rfl
  | cons b l =>
    rw[e] at h
    have:b≠c:=fun a=>h (by rw[a];rfl)
    simp[Kv,Ne.symm this]
theorem kg (x:ByteArray)(c:UInt8)(d:ak x 0≠c.toNat)(w:World)(h:Hp)(g:G w h):CV 190 #[.string x,.string ⟨#[c]⟩] w h (.tuple #[.string x,.bool false]):=by
 have q:=Ret.of_same g (Tryz.strings_CutPrefix x ⟨#[c]⟩ w);have e:Lib.hasPrefix x.data.toList [c]=false:=E4 d;have b:(⟨(Lib.trimPrefix x.data.toList [c]).toArray⟩:ByteArray)=x:=by unfold Lib.trimPrefix;rw[e];simp
 have a:CV 190 #[.string x,.string ⟨#[c]⟩] w h (.tuple #[.string ⟨(Lib.trimPrefix x.data.toList [c]).toArray⟩,.bool (Lib.hasPrefix x.data.toList [c])]):=q;rw[e,b] at a;exact a
theorem Hh (x:ByteArray)(c:UInt8)(b:∀ i,i<x.size->ak x i≠c.toNat)(w:World)(h:Hp)(g:G w h):CV 188 #[.string x,.string (⟨#[c]⟩)] w h (.tuple #[.string x,eS,.bool false]):=by
 have a:=sS g;exact go Tryz.func188 [(0,.string x),(1,.string (⟨#[c]⟩))] rfl (aa a dL (ai (aa a aF (aq 10 a (Cc x c b _ _ a.g) (fun w1 d a=>lL a ac (aE (lL a [.c,.v qF] (ah (cK (aa a m4 (af a [] (.tuple #[.string x,eS,qF]) rfl)))))))))))
theorem CZ (x:ByteArray)(c:UInt8)(b:∀ i,i<x.size->ak x i≠c.toNat)(w:World)(h:Hp)(g:G w h):CV 159 #[.string x,.string (⟨#[c]⟩)] w h (.tuple #[.string x,eS,.bool false]):=by
 have a:=sS g;exact go Tryz.func159 [(0,.string x),(1,.string (⟨#[c]⟩))] rfl (aa a dL (aE (lL a aF (aq 9 a (Hh x c b _ _ a.g) (fun w1 d a=>lL a [.v (.string x),.v (eS),.v qF,.c,.c,.c] (af a [] (.tuple #[.string x,eS,qF]) rfl))))))
theorem xn {x:ByteArray}{c:UInt8}(h:rn (cb c.toNat) x 0<x.size):Lib.indexByte x.data.toList c=((rn (cb c.toNat) x 0:Nat):Int):=by
 have a:=kh h
 generalize hr:rn (cb c.toNat) x 0=r at h a ⊢
 refine qe ?_ (fun k d e=>?_)
 ·rw[i8 h]
  congr 1
  exact UInt8.toNat.inj a
 ·rw[i8 oM] at e
  injection e with e
  have b:cb c.toNat (ak x k)=true:=fR (x.size-0) 0 k (JH _) (by show k<rn (cb c.toNat) x 0;omega);exact oT b (by unfold ak;rw[e])
theorem rz {x:ByteArray}{c:UInt8}(h:ak x 0=c.toNat)(d:c.toNat≠0):Lib.hasPrefix x.data.toList [c]=true/\(⟨(Lib.trimPrefix x.data.toList [c]).toArray⟩:ByteArray)=x.extract 1 x.size:=by
  have a:Lib.hasPrefix x.data.toList [c]=true:=by
    unfold Lib.hasPrefix
    unfold ak at h
    cases e:x.data.toList with
    | nil=>rw[e] at h;exact absurd h.symm d
    | cons b l =>
      rw[e] at h
      have:b=c:=UInt8.toNat.inj h
      simp[Kv,this]
  refine ⟨a,?_⟩
  unfold Lib.trimPrefix
  rw[if_pos a]
  apply ByteArray.ext
  apply Kw
  rw[Lib.extract_to_end];rfl
def ms (b:Nat):Bool:=decide (b=48)
theorem Af {x s:ByteArray}{j:Nat}(h:s=x.extract j x.size)(b:j<x.size):s.extract 1 s.size=x.extract (j+1) x.size:=by
 have a:s.size=x.size-j:=by rw[h,ByteArray.size_extract];omega
 apply ByteArray.ext
 apply Kw
 rw[Lib.extract_to_end,Lib.extract_to_end,h,Lib.extract_to_end,List.drop_drop]
theorem pM {x:ByteArray}{z:Nat}(hz:z<=x.size):∀ k,z+k<=x.size->dv x (z+k)=dv x z*10^k+dv (x.extract z x.size) k
  | 0,_=>by show dv x z=dv x z*10^0+0;omega
  | k+1,h=>by
    show dv x (z+k)*10+(ak x (z+k)-48)=dv x z*10^(k+1)+(dv (x.extract z x.size) k*10+(ak (x.extract z x.size) k-48))
    rw[pM hz k oM,dd,zy,I6,zY];omega
theorem kV {x:ByteArray}:∀ z,(∀ i,i<z->ak x i=48)->dv x z=0
  | 0,_=>rfl
  | z+1,h=>by
    show dv x z*10+(ak x z-48)=0
    rw[kV z (fun i hi=>h i oM),h z oM]
theorem r8 {x:ByteArray}(h:∀ i,i<x.size->48<=ak x i/\ak x i<=57)(j:x.size<=200):(rn ms x 0=x.size/\dv x x.size=0)\/(rn ms x 0<x.size/\bY (x.extract (rn ms x 0) x.size)=some (dv x x.size)):=by
 have b:=dB (p:=ms) (s:=x) (a:=0) (JH _);have h0:∀ i,i<rn ms x 0->ak x i=48:=fun i hi=>oT (fR (p:=ms) (x.size-0) 0 i (JH _) hi)
 rcases co (rn ms x 0) x.size with h1|h1
 ·refine .inr ⟨h1,?_⟩
  have f:=sj h1
  generalize hz:rn ms x 0=z at *
  have c:(x.extract z x.size).size=x.size-z:=by rw[ByteArray.size_extract];omega
  have d:=pM b (x.size-z) oM;rw[show z+(x.size-z)=x.size by omega,kV z h0,Nat.zero_mul,s4] at d
  rw[gy oM oM (fun e=>by rw[dd,ri] at e;exact oF f e.2) (fun i hi=>by rw[dd];exact h _ oM),c,d]
 ·refine .inl ⟨by omega,?_⟩
  exact kV x.size fun i hi=>h0 i oM
open Go.RowKit Go.WideMaps
structure MapI (P:Program) (kt:TypeId) (Q:Value->Prop) (w1:World) (h1:Hp) (b:Nat):Prop where
  jk:h1[b]?=some junk
  ex:∃ es clk,w1.heap[b]?=some (.map es clk)/\∀ e∈es.toList,(∃ l,keyOf P kt e.key=some l)/\Q e.val
def IM (ss:List ByteArray):List MapEntry:=ss.zipIdx.map fun p=>⟨.string p.1,.bool true,p.2⟩
structure MapK (w:World) (h:Hp) (b:Nat) (ss:List ByteArray):Prop where
  jk:h[b]?=some junk
  ob:w.heap[b]?=some (.map (IM ss).toArray ss.length)
  nd:ss.Nodup
section laws
variable {P:Program}{n:Nat}{N R:Po}{X:Nat->Po}{ops:Array Oper}{k:Nat}{Γ:ck}{w:World}{h:Hp}{w1:World}{h1:Hp}{B:List Bx}{Rs:List Rw}{F:List (Hp->Prop)}
theorem SS.frontR {w0:World}{h0:Hp}{R:List Rw}(s:SS w0 h0 w h B R F)(a b:List Rw)(y:Rw)(c:R=a++y::b:=by kernel_rfl):SS w0 h0 w h B (y::(a++b)) F:=by
 subst c;exact s.permBR (.refl _) ge
theorem SS.backR {w0:World}{h0:Hp}(a b:List Rw)(y:Rw)(s:SS w0 h0 w h B (y::(a++b)) F):SS w0 h0 w h B (a++y::b) F:=s.permBR (.refl _) ge.symm
end laws
section ro
variable {w0:World}{h0:Hp}{w:World}{h:Hp}{B:List Bx}{R:List Rw}{F:List (Hp->Prop)}
theorem SS.ro_jk (s:SS w0 h0 w h B R F)(j:Nat){ty:TypeId}{sz c m:Nat}{A:Z9}{cs:List Value}(hr:R.getD j default=⟨ty,sz,A,c,m,cs⟩:=by kernel_rfl)(e:decide (j<R.length)=true:=by kernel_rfl):∀ b∈(Value.slice A m c).ownBlock.toList,h[b]?=some junk:=fun b d=>by
 have a:=oT e;have r:=s.ro _ (e5 a);rw[gg hr a] at r
 exact r.jk b (Kx.1 d)
theorem SS.ro_lt (s:SS w0 h0 w h B R F)(j:Nat){ty:TypeId}{sz c m:Nat}{A:Z9}{cs:List Value}(hr:R.getD j default=⟨ty,sz,A,c,m,cs⟩:=by kernel_rfl)(e:decide (j<R.length)=true:=by kernel_rfl):∀ b∈(Value.slice A m c).ownBlock.toList,b<h.size:=fun b d=>by
 have a:=oT e;have r:=s.ro _ (e5 a);rw[gg hr a] at r
 exact aI (r.jk b (Kx.1 d))
theorem SS.ro_ne (s:SS w0 h0 w h B R F)(q j:Nat){ty:TypeId}{sz c m:Nat}{A:Z9}{cs:List Value}(f:decide (q<B.length)=true:=by kernel_rfl)(hr:R.getD j default=⟨ty,sz,A,c,m,cs⟩:=by kernel_rfl)(e:decide (j<R.length)=true:=by kernel_rfl):(aA B q).b ∉ (Value.slice A m c).ownBlock.toList:=fun d=>by
 have a:=oT e;have r:=s.ro _ (e5 a);rw[gg hr a] at r
 exact r.ap _ (Kx.1 d) (List.mem_map.2 ⟨_,bA (oT f),rfl⟩)
end ro
theorem uQ {l z:List Nat}{i m a c x y:Nat}(hi:i<l.length)(hz:z.length=l.length)(b:am 18446744073709551616 (z.take i)+18446744073709551616^i*c=am 18446744073709551616 (l.take i)*m+a)(d:18446744073709551616*y+x=l.getD i 0*m+c) :
  am 18446744073709551616 ((z.set i x).take (i+1))+18446744073709551616^(i+1)*y=am 18446744073709551616 (l.take (i+1))*m+a:=by
 rw[aJ 18446744073709551616 (l:=z.set i x) (k:=i) (by rw[Jt];omega),aJ 18446744073709551616 (l:=l) (k:=i) hi,List.take_set_of_le (eb i),bC oM,if_pos rfl,zy]
 generalize 18446744073709551616^i=p at b ⊢
 generalize am 18446744073709551616 (z.take i)=q at b ⊢
 generalize am 18446744073709551616 (l.take i)=r at b ⊢
 generalize l.getD i 0=t at d ⊢
 have e:p*(18446744073709551616*y+x)=p*(t*m+c):=by rw[d]
 rw[I6,Nat.mul_add,Nat.mul_add] at *
 rw[zY p 18446744073709551616 y,zY p t m]
 omega
theorem ur (l:List Nat)(x:Nat):aD (l++[x])=aD l+18446744073709551616^l.length*x:=by
 show am _ (l++[x])=am _ l+_
 have h:=aJ 18446744073709551616 (l:=l++[x]) (k:=l.length) (by simp);rw[List.take_of_length_le (by simp),List.take_left,show (l++[x]).getD l.length 0=x by rw[jP,if_neg (Ks _),if_pos rfl]] at h
 exact h
theorem CD {l:List Nat}{x:Nat}(h:Wd l)(b:x<18446744073709551616):Wd (l++[x]):=fun y a=>by
 rcases List.mem_append.1 a with a|a
 ·exact h y a
 ·rw[n1] at a;rw[a];exact b
theorem jl (w u p d:Nat):w*(u*10)+(p*10+d)=(w*u+p)*10+d:=by rw[I6,zY];omega
theorem tf (w u p d:Nat):(w*u+p)*10+d=w*(u*10)+(p*10+d):=(jl w u p d).symm
theorem CY {a u:Nat}(h:a=10^u)(hu:u<=18)(b:a*10≠10000000000000000000):u+1<=18:=by
 rcases co u 18 with h3|h3
 ·exact h3
 ·exact absurd (by rw[h,show u=18 by omega]) b
theorem te {w0:World}{h0:Hp}{L:List Bx}{R2:List Rw}{S:List (Hp->Prop)}(A:Z9)(c:Nat)(l:List Nat)(m a:Nat)(hm:m<18446744073709551616)(ha:a<18446744073709551616)(hW:Wd l)(hl:l.length<=1000000)(w:World)(h:Hp)(g:G w h)(d:SS w0 h0 w h L (⟨24,1,A,c,(l).length,(l).flatMap ar⟩::R2) S):Calls Tryz.prog 128 #[.slice A ((l).length) c,mV m,mV a] w (Fv fun v w1 h1=>∃ (A1:Z9)(c1:Nat)(l1:List Nat),v=.slice A1 l1.length c1/\Wd l1/\aD l1=aD l*m+a/\l1.length<=l.length+1/\SS w0 h0 w1 h1 L (⟨24,1,A1,c1,(l1).length,(l1).flatMap ar⟩::R2) S):=by
 replace d:=d.to ([]++L) ([⟨24,1,A,c,(l).length,(l).flatMap ar⟩]++R2);refine go Tryz.func128 [(0,qS A ((l).length) c),(1,mV m),(2,mV a)] rfl (aa d ac (aE (lL d aF (ai (aa d [.c,.v (nV ((l).length)),.c] (bE ?_))))));refine bG _ (CG.loop (fun U Γ w_=>∃ (i:Nat)(p:Z9)(e:Nat)(z:List Nat)(y:Nat)(h_:Hp),U=l.length-i/\Γ=[(0,qS p ((z).length) e),(1,mV m),(6,sZ),(15,nV ((l).length)),(16,nV i),(7,mV y)]/\SS w0 h0 w_ h_ ([]++L) ([⟨24,1,p,e,(z).length,(z).flatMap ar⟩]++R2) ([]++S)/\i<=l.length/\z.length=l.length/\Wd z/\y<18446744073709551616/\am 18446744073709551616 (z.take i)+18446744073709551616^i*y=am 18446744073709551616 (l.take i)*m+a/\(∀ j,i<=j->z.getD j 0=l.getD j 0)) _ ⟨0,A,c,l,a,h,rfl,rfl,d.to _ _,JH _,rfl,hW,ha,(by simp[am]),(fun _ _=>rfl)⟩ ?_);rintro _ _ w1 ⟨i,p,e,z,y,h2,hm3,rfl,d,hi,x,Q,V,o,u⟩;have hzi:=Q.get i;have hli:=hW.get i;refine aG ?_;cases C:(decide ((i:Int)<(((l).length:Nat):Int)))
 .
  have M:=oF C;refine lB 17 C (ai (da (CG.exit ?_)))
  show CG _ _ _ _ _ _ _ _
  refine cQ (aa d ac ?_);cases D:((y:Int) != (0:Int))
  .
   have J:=ay D;refine lB 43 D (ah (cK (aa d aF (lN (kX ?_)))));have H:i=l.length:=by omega
   rw[H,r9,<-x,r9] at o
   exact d.retS [] (qS p ((z).length) e) ⟨_,_,z,rfl,Q,(by rw[show y=0 by omega,z6,ri] at o;exact o),oM,(d.drop 0 0).to _ _⟩
  have J:=a6 D;refine lB 43 D (aj (kQ (lL d aF (lR 46 24 1 ([mV y]) d (fun b6 w7 h8 d=>lY 47 0 24 1 e p z ar y 8 b6 (uV 0) d d.f.1 (fun ze zf _ _ d=>lL d ac (aE (lL d aF (lN (kX ?_))))))))));have H:i=l.length:=by omega
  rw[H,r9,<-x,r9] at o
  exact d.retS [] (qS ze ((z++[y]).length) zf) ⟨_,_,(z++[y]),rfl,(CD Q V),(by rw[ur];exact o),(by simp[x]),(d.tl.drop 0 0).to _ _⟩
 have M:=oT C;refine lB 17 C (ai (ci (cK (cQ (kZ (aa d aF (aE (lL d aF ?_))))))));obtain ⟨F,zc⟩:=d.rowA 0 (A:=p) (c:=e) (m:=(z).length) (ty:=24) (sz:=1) (cs:=(z).flatMap ar) oM;subst zc;refine lX 22 (sB F) ((z).length) e 1 (i:Nat) i rfl (F3 (ty:=24) (sz:=1) (c:=e) (m:=(z).length) (b:=F) (cs:=(z).flatMap ar) 23 0 (mV (z.getD i 0)) (ar (z.getD i 0)) d (gM (f:=ar) (sz:=1) (fun _=>rfl) 0 z i oM) (lL d ac (lC 25 d (li (z.getD i 0) m wM wM _ _ d.g) ?_)));rintro _ _ zg d ⟨B,zd,rfl,bb,X,Y,bd⟩;have O:=g9 (a:=(z.getD i 0)) (b:=m) wM wM;refine lL d [.c,.v (mV B),.v (mV zd),.c,.c] (aE (lL d aF ?_));obtain ⟨k,I,W,Z,bk,K⟩:=dN zd y 0 wM wM oM;refine lV 31 (.tuple #[mV k,mV I]) ?_ (hr:=dZ kR (K _));refine lL d [.c,.v (mV k),.v (mV I),.c,.c] (lN (kQ (lL d m5 (lV 39 (mV (B+I)) ?_ (hr:=rU (((B:Int)+(I:Int))) kR (dr B I oM))))));refine lX 40 (sB F) ((z).length) e 1 (i:Nat) i rfl (Hq (ty:=24) (c:=e) (b:=F) 0 i 0 ([mV k]) z ar 1 0 k d oM (fun _ d=>?_));replace d:=d.to ([]++L) ([⟨24,1,sB F,e,(z).length,(z.set i k).flatMap ar⟩]++R2);refine lL d ac (lN (kQ (bg 41 ((i:Nat)+1) (i+1) ?_)));refine lL d ac (lD ?_);intro a_ ka;replace d:=d.rown ([⟨24,1,sB F,e,(z.set i k).length,(z.set i k).flatMap ar⟩]++R2) (by simp only[Jt]);refine ⟨_,_,?_,⟨i+1,sB F,e,z.set i k,(B+I),zg,rfl,rfl,d.to _ _,oM,(by rw[Jt];exact x),(Q.set _ oM),oM,(uQ oM x o (by have:=u i (nR _);rw[<-this];omega)),(fun j hj=>by rw[bC oM,if_neg oM];exact u j oM)⟩,ka.to _ (by simp only[Jt];kernel_rfl)⟩
 omega
theorem d3 (x:ByteArray)(hx:x.size<=1000000)(w:World)(h:Hp)(g:G w h):CV 104 #[.string x] w h (match bY x with|some k=>.tuple #[nv k,.bool true]|none=>.tuple #[nv 0,.bool false]):=by
 have a:=sS g;refine go Tryz.func104 [(0,.string x)] rfl (aG (lA 2 26 ([uV 0,eS]) a (fun O w2 h3 a=>lL a ac (ai (aa a [.c,.v (nV x.size)] ?_)))));cases V:((x.size:Int) == (0:Int))
 .
  have bd:=ao V;refine lB 10 V (lL a [.c,.c,.v (nV x.size)] ?_);cases U:(decide ((200:Int)<(x.size:Int)))
  .
   have bl:=oF U;refine lB 14 U (lL a [.v qF,.c,.c,.v (nV x.size)] ?_);cases X:(decide ((1:Int)<(x.size:Int)))
   .
    have bk:=oF X;refine lB 19 X (lL a ac (lG 21 ?_));refine lG 22 (lG 23 (lL a [.v qF,.v qF] (ah (cK (aa a ac (aE (lL a aF (ai (aa a [.c,.v (nV x.size),.c] (bE ?_))))))))));replace a:=a.nil 24 1;refine bG _ (CG.loop (fun μ_ Γ w_=>∃ (j:Nat)(b:Z9)(d:Nat)(e:List Nat)(o:Nat)(p:Nat)(u:Nat)(z:Hp),μ_=x.size-j/\Γ=[(0,.string x),(2,pB O),(28,nV x.size),(29,nV j),(4,qS b ((e).length) d),(5,mV o),(6,mV p)]/\SS w h w_ z [⟨O,26,[uV 0,eS]⟩] [⟨24,1,b,d,(e).length,(e).flatMap ar⟩] []/\j<=x.size/\Wd e/\e.length<=j/\(∀ i,i<j->48<=ak x i/\ak x i<=57)/\p=10^u/\u<=18/\o<p/\dv x j=aD e*p+o/\(j=x.size->p=1)) _ ⟨0,none,0,[],0,1,0,h3,rfl,rfl,a.to _ _,JH _,Dg.nil,nR _,(fun i z=>absurd z oM),rfl,by omega,by omega,(by simp[dv,am,aD]),(fun z=>absurd z oM)⟩ ?_);rintro _ _ w7 ⟨j,b,d,e,o,p,u,h8,hm9,rfl,a,hk,C,hwl,S,F,hu,hpt,W,D⟩;have bb:=bh x j;have hp_:p<=10^18:=by rw[F];exact Aa kD hu
    have J:dv x (j+1)=dv x j*10+(ak x j-48):=rfl;refine aG ?_;cases za:(decide ((j:Int)<(x.size:Int)))
    .
     have zu:=oF za;refine lB 30 za (ai (da (CG.exit ?_)))
     show CG _ _ _ _ _ _ _ _
     refine aa a ac ?_;obtain ⟨_,a,zJ⟩:=a.pubr 0 (A:=b) (c:=d) (l:=e) (f:=ar) (ty:=24) (sz:=1) 0 (fun _=>rfl);exact aq 68 a (uL b d e C oM zJ _ _ a.g a.f.1) (fun _ _ a=>lP 0 0 (nc (aD e)) a (fun _ a=>lL a ac (af a [(0,0,2)] (.tuple #[nv (aD e),qT]) (by have Z:j=x.size:=oM;subst Z;rw[gy oM oM oM S,show dv x x.size=aD e by rw[W,D rfl,show o=0 by have:=D rfl;omega];omega]))))
    have zu:=oT za;refine lB 30 za (ai (ci (cK (cQ (kZ (aa a aF (ai (aa a aF (lV 34 (.int .u8 (ak x j:Nat)) ?_ (hr:=aU (tx:=9) (x:=.tmp 32) (i:=.tmp 33) (k:=.i64) (s:=x) (n:=j) (j:=(j:Int)) kR kR kR kR oM oM _))))))))));cases zb:(decide (((ak x j:Nat):Int)<(48:Int)))
    .
     have zv:=oF zb;refine lB 35 zb (lL a dL (lV 39 (.int .u8 (ak x j:Nat)) ?_ (hr:=aU (tx:=9) (x:=.tmp 37) (i:=.tmp 38) (k:=.i64) (s:=x) (n:=j) (j:=(j:Int)) kR kR kR kR oM oM _)));cases zc:(decide ((57:Int)<((ak x j:Nat):Int)))
     .
      have zw:=oF zc;refine lB 40 zc (lL a [.v qF] (ah (cK ?_)));have y:∀ i,i<j+1->48<=ak x i/\ak x i<=57:=fun i z=>by rcases Kl.1 z with z|rfl;exact S i z;omega
      refine aa a ac (lV 44 (mV (o*10)) ?_ (hr:=rU (((o:Int)*(10:Int))) kR (fu o 10 oM)));refine lL a aF (lV 47 (.int .u8 (ak x j:Nat)) ?_ (hr:=aU (tx:=9) (x:=.tmp 45) (i:=.tmp 46) (k:=.i64) (s:=x) (n:=j) (j:=(j:Int)) kR kR kR kR oM oM _));refine lV 48 (.int .u8 ((ak x j)-48:Nat)) ?_ (hr:=aN (n:=IntKind.wrap .u8 (((ak x j:Nat):Int)-(48:Int))) kR (rF (ak x j) 48 oM oM));refine lV 49 (mV ((ak x j)-48)) ?_ (hr:=rU ((((ak x j)-48:Nat):Int)) kR (az oM oM));refine lV 50 (mV ((o*10)+((ak x j)-48))) ?_ (hr:=rU ((((o*10:Nat):Int)+(((ak x j)-48:Nat):Int))) kR (dr (o*10) ((ak x j)-48) oM));refine lL a ac (lV 52 (mV (p*10)) ?_ (hr:=rU (((p:Int)*(10:Int))) kR (fu p 10 oM)));refine lL a aF (aE (lL a ac ?_));cases zd:(((p*10:Nat):Int) == (10000000000000000000:Int))
      .
       have zx:=ao zd;refine lB 54 zd (lL a [.c,.c,.c,.v (nV x.size)] (lI 59 ((x.size:Nat)-1) ?_));cases ze:((j:Int) == ((x.size:Nat)-1:Int))
       .
        have zA:=ao ze;refine lB 60 ze (lL a [.v qF] (ah (cK (kQ (bg 66 ((j:Nat)+1) (j+1) ?_)))));refine lL a ac (lD ?_);intro a_ Q;refine ⟨_,_,?_,⟨j+1,b,d,e,((o*10)+((ak x j)-48):Nat),(p*10),u+1,h8,rfl,rfl,a.to _ _,oM,C,oM,y,(by rw[F,zy]),(CY F hu oM),oM,(by rw[J,W];exact tf _ _ _ _),(fun z=>absurd z oM)⟩,Q.to _ kR⟩
        omega
       have zA:=eq_of_beq ze;refine lB 60 ze (lL a [.v qT] (aj (aa a dL (Hw 65 (te b d e ((p*10)) (((o*10)+((ak x j)-48):Nat)) oM oM C oM _ _ a.g (a.frontR [] [] ⟨24,1,b,d,(e).length,(e).flatMap ar⟩)) ?_))));rintro _ _ zM ⟨zo,zp,M,rfl,I,H,Y,a⟩;replace a:=(SS.backR [] [] ⟨24,1,zo,zp,(M).length,(M).flatMap ar⟩ a).to [⟨O,26,[uV 0,eS]⟩] [⟨24,1,zo,zp,(M).length,(M).flatMap ar⟩];refine lL a ac (lN (bG [(0,.string x),(2,pB O),(28,nV x.size),(29,nV j),(5,mV ((o*10)+((ak x j)-48))),(6,mV (p*10)),(4,qS zo ((M).length) zp)] ?_));refine kQ (lL a aF (lN (kQ (bg 66 ((j:Nat)+1) (j+1) ?_))));refine lL a ac (lD ?_);intro a_ Q;refine ⟨_,_,?_,⟨j+1,zo,zp,M,0,1,0,zM,rfl,rfl,a.to _ _,oM,I,oM,y,rfl,oM,oM,(by rw[H,J,W,HA,ri];exact (jl _ _ _ _).symm),(fun _=>rfl)⟩,Q.to _ kR⟩
       omega
      have zx:=eq_of_beq zd;refine lB 54 zd (lL a ac (lG 56 ?_));refine lG 57 (lG 58 (lG 59 (lG 60 (lL a [.v qT] (aj (aa a dL (Hw 65 (te b d e ((p*10)) (((o*10)+((ak x j)-48):Nat)) oM oM C oM _ _ a.g (a.frontR [] [] ⟨24,1,b,d,(e).length,(e).flatMap ar⟩)) ?_)))))));rintro _ _ zN ⟨zq,zr,K,rfl,I,H,Y,a⟩;replace a:=(SS.backR [] [] ⟨24,1,zq,zr,(K).length,(K).flatMap ar⟩ a).to [⟨O,26,[uV 0,eS]⟩] [⟨24,1,zq,zr,(K).length,(K).flatMap ar⟩];refine lL a ac (lN (bG [(0,.string x),(2,pB O),(28,nV x.size),(29,nV j),(5,mV ((o*10)+((ak x j)-48))),(6,mV (p*10)),(4,qS zq ((K).length) zr)] ?_));refine kQ (lL a aF (lN (kQ (bg 66 ((j:Nat)+1) (j+1) ?_))));refine lL a ac (lD ?_);intro a_ Q;refine ⟨_,_,?_,⟨j+1,zq,zr,K,0,1,0,zN,rfl,rfl,a.to _ _,oM,I,oM,y,rfl,oM,oM,(by rw[H,J,W,HA,ri];exact (jl _ _ _ _).symm),(fun _=>rfl)⟩,Q.to _ kR⟩
      omega
     have zw:=oT zc;exact lB 40 zc (lL a [.v qT] (aj (aa a [.v (.agg #[uV 0,eS])] (lP 0 0 ([uV 0,eS]) a (fun _ a=>lL a ac (af a [(0,0,2)] (.tuple #[.agg #[uV 0,eS],qF]) (by rw[ei (i:=j) oM oM]<;>rfl)))))))
    have zv:=oT zb;refine lB 35 zb (lL a ac (lG 37 ?_));exact lG 38 (lG 39 (lG 40 (lL a [.v qT] (aj (aa a [.v (.agg #[uV 0,eS])] (lP 0 0 ([uV 0,eS]) a (fun _ a=>lL a ac (af a [(0,0,2)] (.tuple #[.agg #[uV 0,eS],qF]) (by rw[ei (i:=j) oM oM]<;>rfl)))))))))
   have bk:=oT X;refine lB 19 X (lL a aF (lV 22 (.int .u8 (ak x 0:Nat)) ?_ (hr:=aU (tx:=9) (x:=.tmp 21) (i:=.const (iV 0)) (k:=.i64) (s:=x) (n:=0) (j:=(0:Int)) kR kR kR kR oM oM _)));cases zf:(((ak x 0:Nat):Int) == (48:Int))
   .
    have zB:=ao zf;refine lB 23 zf (lL a [.v qF,.v qF] (ah (cK (aa a ac (aE (lL a aF (ai (aa a [.c,.v (nV x.size),.c] (bE ?_)))))))));replace a:=a.nil 24 1;refine bG _ (CG.loop (fun μ_ Γ w_=>∃ (j:Nat)(b:Z9)(d:Nat)(e:List Nat)(o:Nat)(p:Nat)(u:Nat)(z:Hp),μ_=x.size-j/\Γ=[(0,.string x),(2,pB O),(28,nV x.size),(29,nV j),(4,qS b ((e).length) d),(5,mV o),(6,mV p)]/\SS w h w_ z [⟨O,26,[uV 0,eS]⟩] [⟨24,1,b,d,(e).length,(e).flatMap ar⟩] []/\j<=x.size/\Wd e/\e.length<=j/\(∀ i,i<j->48<=ak x i/\ak x i<=57)/\p=10^u/\u<=18/\o<p/\dv x j=aD e*p+o/\(j=x.size->p=1)) _ ⟨0,none,0,[],0,1,0,h3,rfl,rfl,a.to _ _,JH _,Dg.nil,nR _,(fun i z=>absurd z oM),rfl,by omega,by omega,(by simp[dv,am,aD]),(fun z=>absurd z oM)⟩ ?_);rintro _ _ _ ⟨j,b,d,e,o,p,u,zP,bm,rfl,a,hk,C,hwl,S,F,hu,hpt,W,D⟩;have bb:=bh x j;have hp_:p<=10^18:=by rw[F];exact Aa kD hu
    have J:dv x (j+1)=dv x j*10+(ak x j-48):=rfl;refine aG ?_;cases zg:(decide ((j:Int)<(x.size:Int)))
    .
     have zD:=oF zg;refine lB 30 zg (ai (da (CG.exit ?_)))
     show CG _ _ _ _ _ _ _ _
     refine aa a ac ?_;obtain ⟨_,a,zK⟩:=a.pubr 0 (A:=b) (c:=d) (l:=e) (f:=ar) (ty:=24) (sz:=1) 0 (fun _=>rfl);exact aq 68 a (uL b d e C oM zK _ _ a.g a.f.1) (fun _ _ a=>lP 0 0 (nc (aD e)) a (fun _ a=>lL a ac (af a [(0,0,2)] (.tuple #[nv (aD e),qT]) (by have Z:j=x.size:=oM;subst Z;rw[gy oM oM oM S,show dv x x.size=aD e by rw[W,D rfl,show o=0 by have:=D rfl;omega];omega]))))
    have zD:=oT zg;refine lB 30 zg (ai (ci (cK (cQ (kZ (aa a aF (ai (aa a aF (lV 34 (.int .u8 (ak x j:Nat)) ?_ (hr:=aU (tx:=9) (x:=.tmp 32) (i:=.tmp 33) (k:=.i64) (s:=x) (n:=j) (j:=(j:Int)) kR kR kR kR oM oM _))))))))));cases zi:(decide (((ak x j:Nat):Int)<(48:Int)))
    .
     have zE:=oF zi;refine lB 35 zi (lL a dL (lV 39 (.int .u8 (ak x j:Nat)) ?_ (hr:=aU (tx:=9) (x:=.tmp 37) (i:=.tmp 38) (k:=.i64) (s:=x) (n:=j) (j:=(j:Int)) kR kR kR kR oM oM _)));cases zj:(decide ((57:Int)<((ak x j:Nat):Int)))
     .
      have zG:=oF zj;refine lB 40 zj (lL a [.v qF] (ah (cK ?_)));have y:∀ i,i<j+1->48<=ak x i/\ak x i<=57:=fun i z=>by rcases Kl.1 z with z|rfl;exact S i z;omega
      refine aa a ac (lV 44 (mV (o*10)) ?_ (hr:=rU (((o:Int)*(10:Int))) kR (fu o 10 oM)));refine lL a aF (lV 47 (.int .u8 (ak x j:Nat)) ?_ (hr:=aU (tx:=9) (x:=.tmp 45) (i:=.tmp 46) (k:=.i64) (s:=x) (n:=j) (j:=(j:Int)) kR kR kR kR oM oM _));refine lV 48 (.int .u8 ((ak x j)-48:Nat)) ?_ (hr:=aN (n:=IntKind.wrap .u8 (((ak x j:Nat):Int)-(48:Int))) kR (rF (ak x j) 48 oM oM));refine lV 49 (mV ((ak x j)-48)) ?_ (hr:=rU ((((ak x j)-48:Nat):Int)) kR (az oM oM));refine lV 50 (mV ((o*10)+((ak x j)-48))) ?_ (hr:=rU ((((o*10:Nat):Int)+(((ak x j)-48:Nat):Int))) kR (dr (o*10) ((ak x j)-48) oM));refine lL a ac (lV 52 (mV (p*10)) ?_ (hr:=rU (((p:Int)*(10:Int))) kR (fu p 10 oM)));refine lL a aF (aE (lL a ac ?_));cases zk:(((p*10:Nat):Int) == (10000000000000000000:Int))
      .
       have zH:=ao zk;refine lB 54 zk (lL a [.c,.c,.c,.v (nV x.size)] (lI 59 ((x.size:Nat)-1) ?_));cases zl:((j:Int) == ((x.size:Nat)-1:Int))
       .
        have zI:=ao zl;refine lB 60 zl (lL a [.v qF] (ah (cK (kQ (bg 66 ((j:Nat)+1) (j+1) ?_)))));refine lL a ac (lD ?_);intro a_ Q;refine ⟨_,_,?_,⟨j+1,b,d,e,((o*10)+((ak x j)-48):Nat),(p*10),u+1,zP,rfl,rfl,a.to _ _,oM,C,oM,y,(by rw[F,zy]),(CY F hu oM),oM,(by rw[J,W];exact tf _ _ _ _),(fun z=>absurd z oM)⟩,Q.to _ kR⟩
        omega
       have zI:=eq_of_beq zl;refine lB 60 zl (lL a [.v qT] (aj (aa a dL (Hw 65 (te b d e ((p*10)) (((o*10)+((ak x j)-48):Nat)) oM oM C oM _ _ a.g (a.frontR [] [] ⟨24,1,b,d,(e).length,(e).flatMap ar⟩)) ?_))));rintro _ _ zQ ⟨zs,zt,L,rfl,I,H,Y,a⟩;replace a:=(SS.backR [] [] ⟨24,1,zs,zt,(L).length,(L).flatMap ar⟩ a).to [⟨O,26,[uV 0,eS]⟩] [⟨24,1,zs,zt,(L).length,(L).flatMap ar⟩];refine lL a ac (lN (bG [(0,.string x),(2,pB O),(28,nV x.size),(29,nV j),(5,mV ((o*10)+((ak x j)-48))),(6,mV (p*10)),(4,qS zs ((L).length) zt)] ?_));refine kQ (lL a aF (lN (kQ (bg 66 ((j:Nat)+1) (j+1) ?_))));refine lL a ac (lD ?_);intro a_ Q;refine ⟨_,_,?_,⟨j+1,zs,zt,L,0,1,0,zQ,rfl,rfl,a.to _ _,oM,I,oM,y,rfl,oM,oM,(by rw[H,J,W,HA,ri];exact (jl _ _ _ _).symm),(fun _=>rfl)⟩,Q.to _ kR⟩
       omega
      have zH:=eq_of_beq zk;refine lB 54 zk (lL a ac (lG 56 ?_));refine lG 57 (lG 58 (lG 59 (lG 60 (lL a [.v qT] (aj (aa a dL (Hw 65 (te b d e ((p*10)) (((o*10)+((ak x j)-48):Nat)) oM oM C oM _ _ a.g (a.frontR [] [] ⟨24,1,b,d,(e).length,(e).flatMap ar⟩)) ?_)))))));rintro _ _ zL ⟨zm,zn,B,rfl,I,H,Y,a⟩;replace a:=(SS.backR [] [] ⟨24,1,zm,zn,(B).length,(B).flatMap ar⟩ a).to [⟨O,26,[uV 0,eS]⟩] [⟨24,1,zm,zn,(B).length,(B).flatMap ar⟩];refine lL a ac (lN (bG [(0,.string x),(2,pB O),(28,nV x.size),(29,nV j),(5,mV ((o*10)+((ak x j)-48))),(6,mV (p*10)),(4,qS zm ((B).length) zn)] ?_));refine kQ (lL a aF (lN (kQ (bg 66 ((j:Nat)+1) (j+1) ?_))));refine lL a ac (lD ?_);intro a_ Q;refine ⟨_,_,?_,⟨j+1,zm,zn,B,0,1,0,zL,rfl,rfl,a.to _ _,oM,I,oM,y,rfl,oM,oM,(by rw[H,J,W,HA,ri];exact (jl _ _ _ _).symm),(fun _=>rfl)⟩,Q.to _ kR⟩
      omega
     have zG:=oT zj;exact lB 40 zj (lL a [.v qT] (aj (aa a [.v (.agg #[uV 0,eS])] (lP 0 0 ([uV 0,eS]) a (fun _ a=>lL a ac (af a [(0,0,2)] (.tuple #[.agg #[uV 0,eS],qF]) (by rw[ei (i:=j) oM oM]<;>rfl)))))))
    have zE:=oT zi;refine lB 35 zi (lL a ac (lG 37 ?_));exact lG 38 (lG 39 (lG 40 (lL a [.v qT] (aj (aa a [.v (.agg #[uV 0,eS])] (lP 0 0 ([uV 0,eS]) a (fun _ a=>lL a ac (af a [(0,0,2)] (.tuple #[.agg #[uV 0,eS],qF]) (by rw[ei (i:=j) oM oM]<;>rfl)))))))))
   have zB:=eq_of_beq zf;exact lB 23 zf (lL a [.v qT,.v qT] (aj (aa a [.v (.agg #[uV 0,eS])] (lP 0 0 ([uV 0,eS]) a (fun _ a=>lL a ac (af a [(0,0,2)] (.tuple #[.agg #[uV 0,eS],qF]) (by rw[fy oM]<;>rfl)))))))
  have bl:=oT U;refine lB 14 U (lL a [.v qT,.c] (lG 17 ?_));exact lG 18 (lG 19 (lG 20 (lG 21 (lG 22 (lG 23 (lG 24 (lL a [.v qT] (aj (aa a [.v (.agg #[uV 0,eS])] (lP 0 0 ([uV 0,eS]) a (fun _ a=>lL a ac (af a [(0,0,2)] (.tuple #[.agg #[uV 0,eS],qF]) (by rw[fy oM]<;>rfl)))))))))))))
 have bd:=eq_of_beq V;refine lB 10 V (lL a ac (lG 12 ?_));refine lG 13 (lG 14 (lL a [.v qT,.c] (lG 17 ?_)));exact lG 18 (lG 19 (lG 20 (lG 21 (lG 22 (lG 23 (lG 24 (lL a [.v qT] (aj (aa a [.v (.agg #[uV 0,eS])] (lP 0 0 ([uV 0,eS]) a (fun _ a=>lL a ac (af a [(0,0,2)] (.tuple #[.agg #[uV 0,eS],qF]) (by rw[fy oM]<;>rfl)))))))))))))
section laws
variable {M:Ms}{P:Program}{ops:Array Oper}{Q:Exit->Act->World->Prop}{k0:Nat}
structure Waits (ops:Array Oper) (k0 i:Nat) (late:List Nat):Prop where
  ev:∀ u∈late,∃ ou,ops[u]?=some ou/\∃ e∈ou.after,Region.binds .any e=true/\(e.on=i\/e.on∈late)
  tl:∀ j oj,ops[j]?=some oj->k0<=j->j∈late
theorem oU {i:Nat}{K:Oper}{v:Value}{S:World->Prop}{d:List Nat}(hi:ops[i]?=some K)(D:∀ (j:Nat) (o:Oper) cs b,ops[j]?=some o->o.op≠.select cs b)
    (hQ:∀ c a w,Q (.panic c) (a.put K.dst v) w->Q (.panic c) a w)(hcl:∀ w w',S w->Mo M.l w w'->S w')(hw:Waits ops k0 i d) :
    ∀ (n:Nat) (L:Array Bool) (a:Act) (w:World),
      (∀ j z,ops[j]?=some z->j≠i->L.getD j true=false->(∀ e∈z.after,Region.binds .any e=true->e.on≠i)->K.apart ops z=true) ->
      (∀ u∈d,L.getD u true=false) ->
      i∈Region.ready .any ops L->YieldsIf P ops S K v a->S w ->
      oo M P ops Q k0 n (L.setIfInBounds i true) (a.put K.dst v) w->oo M P ops Q k0 (n+1) L a w:=by
  intro n
  induction n with
  | zero =>
    intro L a w _ _ hr hy X H;refine ⟨fun h=>(by rw[h] at hr;cases hr),fun j Y=>?_⟩
    by_cases hji:j=i
    . subst hji;exact hy.wpOp hi X ⟨Rl.refl _ _ _ _,H⟩
    . have:=ready_mono Y hji
      rw[H.1] at this
      cases this
  | succ n ih =>
    intro L a w y F hr hy X H;refine ⟨fun h=>(by rw[h] at hr;cases hr),fun j Y=>?_⟩
    by_cases hji:j=i
    . subst hji;exact hy.wpOp hi X ⟨Rl.refl _ _ _ _,H⟩
    . have h1:=H.2 j (ready_mono Y hji)
      obtain ⟨I,z,f,W⟩:=mem_ready.1 Y
      have p:∀ x,L.getD x true=false->∀ e∈z.after,Region.binds .any e=true->e.on≠x:=fun x h0 e Z hb heq=>by
        have h1:=W e Z hb;rw[heq] at h1
        obtain ⟨O,h0'⟩:=ET h0
        simp[Array.getD,O,h0'] at h1
      have C:=p i (mem_ready.1 hr).1
      have V:j ∉ d:=fun hm=>by
        obtain ⟨ou,ho,e,Z,hb,J⟩:=hw.ev j hm;obtain rfl:z=ou:=Option.some.inj (f.symm.trans ho)
        rcases J with J|J
        . exact C e Z hb J
        . exact p e.on (F _ J) e Z hb rfl
      have hlt:j<k0:=by
        rcases co j k0 with O|O
        . exact O
        . exact absurd (hw.tl j z f O) V
      have J:=wpOp_putIf f (y j z f hji I C) (fun cs b=>D i K cs b hi) (fun cs b=>D j z cs b f) hQ hy h1
      have B:∀ k ok,ops[k]?=some ok->k≠i->(L.setIfInBounds j true).getD k true=false ->
          (∀ e∈ok.after,Region.binds .any e=true->e.on≠i)->K.apart ops ok=true:=fun k ok hk hki U hno=>by
        refine y k ok hk hki ?_ hno
        by_cases hjk:j=k
        . subst hjk;exact I
        . rw[getD_set_ne true hjk] at U;exact U
      refine wpOp_mono (fun a' w' h3=>⟨h3.2.1,ih (L.setIfInBounds j true) a' w' B (fun u hu=>?_) (ready_mono hr (Ne.symm hji)) h3.1 (hcl _ _ X (h3.2.1.1 hlt)) ?_⟩) J
      . rw[getD_set_ne true (fun e=>V (by rw[e];exact hu))];exact F u hu
      . rw[Array.setIfInBounds_comm _ _ hji]
        exact h3.2.2
theorem E.take0U {h0:Hp}{AL:List Al}{L:Array Bool}{a:Act}{w:World}{h:Hp}{i:Nat}{o:Oper}{v:Value}{S:World->Prop}{e:List Nat}
  (hi:ops[i]?=some o)(f:Region.noSelect ops=true)(hf:Region.free .any ops L i=true)(hr:i∈Region.ready .any ops L)
  (D:∀ x∈AL,x.i≠i/\x.t ∉ o.looksAt ops/\o.dst≠some x.t)(X:∀ c a w,¬Q (.panic c) a w)
  (B:∀ w w',S w->Mo M.l w w'->S w')(O:∀ w',Mo M.l w w'->S w')(hy:YieldsIf P ops S o v a)
  (U:Waits ops k0 i e)(k:∀ u∈e,L.getD u true=false/\∀ x∈AL,x.i≠u)
  (H:E M P ops Q k0 h0 AL (L.setIfInBounds i true) (a.put o.dst v) w h):E M P ops Q k0 h0 AL L a w h:=by
 intro w' Z u p T C hb hn;have d:∀ s∈p,s.1.i≠i/\s.1.t ∉ o.looksAt ops/\o.dst≠some s.1.t:=fun s b=>D _ (eg C b)
 have J:=H w' Z u p T C hb hn;rw[gX L p i (fun s b=>(d s b).1),g8 a p o.dst v (fun s b=>(d s b).2.2)] at J
 have y:=kO (fun s b=>(d s b).1) hr;obtain ⟨K,e2⟩:=jW (ops:=ops) (Region.noSelect_spec f i o · · hi) a p (fun s b=>(d s b).2.1)
 unfold A at *
 rw[d6 y]
 exact oU hi (Region.noSelect_spec f) (fun c a w Y=>absurd Y (X _ _ _)) B U _ _ _ _
  (fun j W V F z=>Region.free_spec hi hf j W V F (f2 z))
  (fun x I=>by rw[gf true (fun s b=>(k x I).2 _ (eg C b))];exact (k x I).1) y (hy.of_same K e2) (O _ (u.m M.l).mo) J
end laws
section steps
variable {M:Ms}{P:Program}{n:Nat}{N R:Po}{X:Nat->Po}{ops:Array Oper}{k0:Nat}{hr:Hp}{AL:List Al}{L:Array Bool}{Γ:ck}{w:World}{h:Hp}{w0:World}{h0:Hp}{B:List Bx}{Rs:List Rw}{F:List (Hp->Prop)}
def nP (ops:Array Oper)(k0:Nat)(AL:List Al)(L:Array Bool)(i:Nat)(late:List Nat):Bool :=
  (late.all fun u=>decide (u<ops.size) && !(L.getD u true) && (AL.all fun x=>x.i != u) && ((av ops u).after.any fun e=>Region.binds .any e && (e.on == i || late.contains e.on))) && ((List.range ops.size).all fun j=>decide (j<k0) || late.contains j)
theorem m8 {i:Nat}{a:List Nat}(c:nP ops k0 AL L i a=true):Waits ops k0 i a/\∀ u∈a,L.getD u true=false/\∀ x∈AL,x.i≠u:=by
 unfold nP at c
 rw[hI] at c
 obtain ⟨h1,h⟩:=c;have b:=fun u hu=>(hS.1 h1) u hu
 refine ⟨⟨fun u hu=>?_,fun j y f p=>?_⟩,fun u hu=>?_⟩
 ·have q:=b u hu
  simp only[hI,decide_eq_true_eq,Array.any_eq_true,i3,beq_iff_eq,Ky] at q
  obtain ⟨⟨⟨k,_⟩,_⟩,x,d,o,l⟩:=q;exact ⟨_,bN k,_,Array.getElem_mem d,o,l⟩
 ·have e:=(Array.getElem?_eq_some_iff.1 f).1
  have q:=(hS.1 h) j (List.mem_range.2 e)
  simp only[i3,decide_eq_true_eq,Ky] at q
  rcases q with q|q
  ·omega
  ·exact q
 ·have q:=b u hu
  simp only[hI,Bool.not_eq_true',hS,bne_iff_ne,ne_eq] at q
  exact ⟨q.1.1.2,fun x d=>q.1.2 x d⟩
def EF (n:Nat)(ops:Array Oper)(k0:Nat)(AL:List Al)(L:Array Bool)(Γ:ck)(i t:Nat)(late:List Nat):Bool:=dj n ops k0 AL L i t && ba Γ (av ops i) && nP ops k0 AL L i late && (bu ops Γ (av ops i) == some true)
theorem Rg.loadU (i t:Nat)(d:List Nat)(v:Value)(b:EF n ops k0 AL L Γ i t d=true)
  (hr:∀ w',Mo M.l w w'->(execOp (ev Γ) (av ops i)).run P w'=.ok (.value v) w')
  (k:EG M P n N R X ops k0 h0 AL (L.setIfInBounds i true) ((t,v)::Γ) w h):EG M P n N R X ops k0 h0 AL L Γ w h:=by
 unfold EF at b
 simp only[hI] at b
 obtain ⟨⟨⟨b,u⟩,y⟩,e⟩:=b;have e:bu ops Γ (av ops i)=some true:=by simpa using e
 have c:=dg b;obtain ⟨C,l2⟩:=m8 y;intro o hM g p a j;have x:=j.exec (Region.noSelect_spec c.sel i _ · · c.get) u;refine E.take0U (v:=v) (S:=fun w'=>Mo M.l w w') c.get c.sel c.free c.ready c.al (fun _ _ _ B=>B) (fun _ _ h1 z=>h1.trans z) (fun _ f=>f) (.inl ⟨j.want e,fun w' f=>by rw[x];exact hr w' f⟩) C l2 ?_;rw[c.dst];exact k o hM g p _ (j.put c.tn v)
theorem HB (i t:Nat)(a:List Nat)(ps:List (Nat × Nat × Nat))(v:Value)(s:SS w0 h0 w h B Rs F)(H:EG ⟨[],none⟩ P n N R X ops k0 hr AL (L.setIfInBounds i true) ((t,v)::Γ) w h)(e:EF n ops k0 AL L Γ i t a=true:=by kernel_rfl)(d:bR B ps=true:=by kernel_rfl)(f:bP P (execOp (ev Γ) (av ops i)) (cg B ps)=some (.value v,bO B ps):=by kernel_rfl):EG ⟨[],none⟩ P n N R X ops k0 hr AL L Γ w h :=
 Rg.loadU i t a v e (fun w' j=>bH _ _ _ _ f (eN (fun _ _=>List.not_mem_nil) (fun x c _=>(j.blk x.b (by rw[s.g.size];exact aI (s.st.jk x c)) List.not_mem_nil).trans (s.st.own x c)) ps (fun _ h=>h) d)) H
end steps
theorem G8 (s:ByteArray):(s.toList == s.toList)=true:=beq_self_eq_true _
theorem uM (s:ByteArray):(!(s.toList == s.toList))=false:=by rw[G8];rfl
theorem iA {n:Nat}(h:n<=10^200):(wds n).length<=1000000000:=ed (gx (b:=18446744073709551616) (k:=11) kD (y6 h kD)) kD
theorem Gm:(wds 10).length<=1000000000:=iA kD
theorem fJ {n:Nat}(h:n<=10^200*10^200):(wds n).length<=3000:=ed (gx (b:=18446744073709551616) (k:=21) kD (y6 h kD)) kD
theorem uN (a b s:Nat)(c:a*b=s)(ha:(wds a).length<=1000000000)(d:(wds b).length<=1000000000)(w:World)(h:Hp)(g:G w h):CV 194 #[nv a,nv b] w h (nv s):=by
 subst c;exact n8 a b ha d w h g
theorem Bv (z:Int)(k:Nat)(a:k=0)(w:World)(h:Hp)(g:G w h):CV 189 #[iv z,iv (k:Int)] w h (.tuple #[qv 0,.bool false]):=by
 subst a;exact DV z kD w h g
theorem ry (x:ByteArray)(c:UInt8)(b:ak x 0=c.toNat)(a:c.toNat≠0)(w:World)(h:Hp)(g:G w h):CV 190 #[.string x,.string ⟨#[c]⟩] w h (.tuple #[.string (x.extract 1 x.size),.bool true]):=by
 have d:CV 190 #[.string x,.string ⟨#[c]⟩] w h (.tuple #[.string ⟨(Lib.trimPrefix x.data.toList [c]).toArray⟩,.bool (Lib.hasPrefix x.data.toList [c])]):=Ret.of_same g (Tryz.strings_CutPrefix x ⟨#[c]⟩ w);rw[(rz b a).1,(rz b a).2] at d;exact d
theorem FQ (n:Nat)(a:n<18446744073709551616)(w:World)(h:Hp)(g:G w h):CV 216 #[mV n] w h (nV (nb n)):=by
 have q:=Ret.of_same g (Tryz.bits_Len (n:Int) w oM oM);rw[Int.toNat_natCast,jK a] at q;exact q
section
variable {P:Program}{Γ:ck}{o:Oper}
theorem vd {t u:TypeId}{x y:Operand}{ky:IntKind}{a n:Nat}{j:Int}(f:o.op=.binOp .shr t x y u)(c:ev Γ x=.int .i64 (a:Int))(k:ev Γ y=.int ky j)(d:j=(n:Int))(ha:a<9223372036854775808)(w:World) :
  (execOp (ev Γ) o).run P w=.ok (.value (.int .i64 ((a/2^n:Nat):Int))) w:=by
 subst d
 unfold execOp;simp only[f];rw[c,k]
 have hz:¬((n:Int)<0):=by omega
 have i:(0:Int)<=2^(min n IntKind.i64.bits):=Int.pow_nonneg kD
 have e:(a:Int)/2^(min n IntKind.i64.bits)=((a/2^n:Nat):Int):=by
  have b:(a:Int)/2^(min n IntKind.i64.bits)=((a/2^(min n 64):Nat):Int):=by
   rw[show IntKind.i64.bits=64 from rfl];push_cast;rfl
  rw[b]
  rcases co n 64 with h|h
  ·rw[Nat.min_eq_left oM]
  ·have h1:(2:Nat)^64<=2^n:=Aa oM h
   rw[Nat.min_eq_right h,y9 oM,y9 oM]
 simp[binOp,eqGuard,Op.shift,Result.andThen,hz,Int.fdiv_eq_ediv_of_nonneg _ i,e]
theorem xO {t u:TypeId}{x y:Operand}{a:Nat}(b:o.op=.binOp .and t x y u)(d:ev Γ x=.int .i64 (a:Int))(c:ev Γ y=.int .i64 1)(ha:a<9223372036854775808)(w:World) :
  (execOp (ev Γ) o).run P w=.ok (.value (.int .i64 ((a%2:Nat):Int))) w:=by
 unfold execOp;simp only[b];rw[d,c]
 have e:bits .and .i64 (a:Int) 1=((a%2:Nat):Int):=by
  unfold bits
  have h1:(BitVec.ofInt 64 (a:Int) &&& BitVec.ofInt 64 (1:Int)).toNat=a%2:=by
   rw[BitVec.toNat_and,show a%2=a &&& (2^1-1) from (Nat.and_two_pow_sub_one_eq_mod a 1).symm]
   congr 1
   simp[BitVec.toNat_ofInt];omega
  show IntKind.wrap .i64 (((BitVec.ofInt 64 (a:Int) &&& BitVec.ofInt 64 (1:Int)).toNat:Nat):Int)=_
  rw[h1];exact dS oM oM
 simp[binOp,eqGuard,Result.andThen,intBits_and,e]
theorem oC {tx:TypeId}{x e:Operand}{k2:IntKind}{s:ByteArray}{m:Nat}{j2:Int}(c:o.op=.slice tx x none (some e) none)(d:ev Γ x=.string s)(f:ev Γ e=.int k2 j2)(hu:P.underlying tx=some .string)(a:j2=(m:Int))(b:m<=s.size)(w:World) :
  (execOp (ev Γ) o).run P w=.ok (.value (.string (s.extract 0 m))) w:=by
 unfold execOp;simp only[c]
 subst a;have h0:(m:Int)<=(s.size:Int):=by omega
 simp[Instr.sliceAt,d,f,Instr.slice,run_underlying hu,Instr.sliceBounds,Instr.sliceBound,asIntOf,Result.andThen,h0,b]
end
theorem BH (x:ByteArray)(c:UInt8)(o:Nat)(hi:Lib.indexByte x.data.toList c=(o:Int))(w:World)(h:Hp)(g:G w h):CV 116 #[.string x,.string ⟨#[c]⟩] w h (nV o):=by
 have q:=Ret.of_same g (Tryz.stringslite_Index_one x c w);rw[hi] at q;exact q
theorem kA {y:ByteArray}{z:Nat}(h:z=y.size):y.extract z y.size=⟨#[]⟩:=by
 apply ByteArray.ext
 apply Kw
 rw[Lib.extract_to_end,h];simp
theorem n3 (x:ByteArray)(C:x.size<=1000000)(w:World)(h:Hp)(g:G w h):CV 162 #[.string x] w h (match ej x with|some z=>.tuple #[iv z,.bool true]|none=>.tuple #[iv 0,.bool false]):=by
 have a:=sS g;refine go Tryz.func162 [(0,.string x)] rfl (aG (lA 2 28 ([qF,uV 0,eS]) a (fun B w2 I a=>lL a ac (aE (lL a ac ?_)))))
 rcases Ku (ak x 0=45) with za|za
 .
  refine aq 10 a (ry x 45 za kD _ _ a.g) (fun J H a=>lL a [.c,.v (.string (x.extract 1 x.size)),.v qT,.c,.c] (aE (lL a ac ?_)))
  rcases hk:bY (x.extract 1 x.size) with _|k
  .
   refine aq 15 a ((by have d:=d3 (x.extract 1 x.size) (by first|omega|(rw[ByteArray.size_extract];omega)) _ _ a.g;rw[hk] at d;exact d)) (fun D y a=>lL a [.c,.v (nv 0),.v qF] (lA 6 26 ([uV 0,eS]) a (fun b8 F _ a=>lP 0 0 (nc 0) a (fun _ a=>lL a ac (ai (aa a [.c,.v qT,.c] (lG 21 ?_)))))));exact lG 22 (lG 23 (lG 24 (lG 25 (lG 26 (lL a [.v qT] (aj (aa a [.v (.agg #[qF,uV 0,eS])] (lP 1 0 ([qF,uV 0,eS]) a (fun _ a=>lL a ac (af a [(1,0,3)] (.tuple #[.agg #[qF,uV 0,eS],qF]) (by rw[dP za (.inl hk)]<;>rfl)))))))))))
  have b:=cv hk;have e:=iA (JO b);refine aq 15 a ((by have d:=d3 (x.extract 1 x.size) (by first|omega|(rw[ByteArray.size_extract];omega)) _ _ a.g;rw[hk] at d;exact d)) (fun _ _ a=>lL a [.c,.v (nv k),.v qT] (lA 6 26 ([uV 0,eS]) a (fun u _ _ a=>lP 0 0 (nc k) a (fun _ a=>lL a ac (ai (aa a [.c,.v qF,.c,.c,.c,.o (nv k) 0 0 2] (aq 24 a (eE k oM _ _ a.g) (fun _ _ a=>?_))))))));have i:=j3 (n:=k);cases f:(((nb k:Nat):Int) == (0:Int))
  .
   have j:=ao f;exact lB 25 f (lL a [.v qF,.v qF] (ah (cK (aa a [.c,.o (nv k) 0 0 2] (aq 31 a (gF true k oM _ _ a.g) (fun _ _ a=>lP 1 0 (ic (bD true k)) a (fun _ a=>lL a ac (af a [(1,0,3)] (.tuple #[iv (bD true k),qT]) (by rw[k8 za hk oM];rfl)))))))))
  have j:=eq_of_beq f;exact lB 25 f (lL a [.v qT,.v qT] (aj (aa a [.v (.agg #[qF,uV 0,eS])] (lP 1 0 ([qF,uV 0,eS]) a (fun _ a=>lL a ac (af a [(1,0,3)] (.tuple #[.agg #[qF,uV 0,eS],qF]) (by rw[dP za (.inr (by rw[hk,show k=0 by omega]))]<;>rfl)))))))
 refine aq 10 a (kg x 45 za _ _ a.g) (fun _ _ a=>lL a [.c,.v (.string x),.v qF,.c,.c] (aE (lL a ac ?_)))
 rcases hk:bY x with _|k
 .
  refine aq 15 a ((by have d:=d3 x (by first|omega|(rw[ByteArray.size_extract];omega)) _ _ a.g;rw[hk] at d;exact d)) (fun _ _ a=>lL a [.c,.v (nv 0),.v qF] (lA 6 26 ([uV 0,eS]) a (fun p _ _ a=>lP 0 0 (nc 0) a (fun _ a=>lL a ac (ai (aa a [.c,.v qT,.c] (lG 21 ?_)))))));exact lG 22 (lG 23 (lG 24 (lG 25 (lG 26 (lL a [.v qT] (aj (aa a [.v (.agg #[qF,uV 0,eS])] (lP 1 0 ([qF,uV 0,eS]) a (fun _ a=>lL a ac (af a [(1,0,3)] (.tuple #[.agg #[qF,uV 0,eS],qF]) (by rw[dW za,hk];rfl)))))))))))
 have b:=cv hk;have e:=iA (JO b);refine aq 15 a ((by have d:=d3 x (by first|omega|(rw[ByteArray.size_extract];omega)) _ _ a.g;rw[hk] at d;exact d)) (fun _ _ a=>lL a [.c,.v (nv k),.v qT] (lA 6 26 ([uV 0,eS]) a (fun l _ _ a=>lP 0 0 (nc k) a (fun _ a=>lL a ac (ai (aa a [.c,.v qF,.c,.c,.c] (lG 23 ?_)))))));exact lG 24 (lG 25 (lL a [.v qF,.v qF] (ah (cK (aa a [.c,.o (nv k) 0 0 2] (aq 31 a (gF false k oM _ _ a.g) (fun _ _ a=>lP 1 0 (ic (bD false k)) a (fun _ a=>lL a ac (af a [(1,0,3)] (.tuple #[iv (bD false k),qT]) (by rw[dW za,hk];rfl))))))))))
theorem sL (n:Nat)(hn:n<=200)(w:World)(h:Hp)(g:G w h):CV 191 #[nv 10,nV n] w h (.tuple #[nv (10^n),.bool true]):=by
 have b:=sS g;have C:nb n<=64:=jg oM;refine go Tryz.func191 [(0,nv 10),(1,nV n)] rfl (aG (lA 2 26 (nc 10) b (fun B w2 h3 b=>lA 4 26 ([uV 0,eS]) b (fun F w5 Y b=>lL b ac (ai (aa b ac ?_))))));cases c:(decide ((n:Int)<(0:Int)))
 .
  have k:=oF c;refine lB 9 c (lL b aF ?_);cases e:(decide ((65536:Int)<(n:Int)))
  .
   have f:=oF e;refine lB 12 e (lL b [.v qF] (ah (cK (aG (aq 15 b (Er 1 kD _ _ b.g) (fun Z _ b=>lA 6 26 ([uV 0,eS]) b (fun I _ _ b=>lP 0 0 (nc 1) b (fun _ b=>ai (aa b ac (lV 17 (mV n) ?_ (hr:=rU ((n:Int)) kR (az oM oM))))))))))));refine aq 18 b (FQ n oM _ _ b.g) (fun _ U b=>lV 19 (iV (((nb n:Nat):Int)-1)) ?_ (hr:=rS (((nb n:Nat)-1)) kR ((dS oM oM).trans oM)));refine lL b ac (bE ?_);have i:nc 1=nc (10^(n/2^nb n)):=by rw[y9 (Dn n)]
   rw[i] at b
   refine bG _ (CG.loop (fun z Γ W=>∃ (m:Nat)(K:Hp),z=m/\Γ=[(1,nV n),(2,pB B),(4,pB F),(5,qF),(6,pB I),(7,iV ((m:Int)-1))]/\SS w h W K [⟨I,26,nc (10^(n/2^m))⟩,⟨F,26,[uV 0,eS]⟩,⟨B,26,nc 10⟩] [] []/\m<=nb n) _ ⟨(nb n),U,rfl,rfl,b.to _ _,nR _⟩ ?_);rintro _ _ _ ⟨m,_,J,rfl,b,X⟩;have D:0<m->n/2^m=n/2^(m-1)/2:=fun K=>by rw[Bs,<-zy,show (m-1).succ=m by omega]
   have H:=y7 n (2^(m-1));have d:=iA (Aa (show 0<10 by decide) (show n/2^m<=200 by have:=y7 n (2^m);omega));refine cQ (aa b ac ?_);cases l:(decide ((0:Int)<=((m:Int)-1:Int)))
   .
    have M:=oF l;refine lB 21 l (ah (CG.exit ?_))
    show CG _ _ _ _ _ _ _ _
    exact aa b [.o (nv (10^(n/2^m))) 0 0 2] (lP 1 0 (nc (10^(n/2^m))) b (fun _ b=>lL b ac (af b [(1,0,2)] (.tuple #[nv (10^(n/2^m)),qT]) (by rw[show m=0 by omega,JI,Nat.div_one]))))
   have M:=oT l;refine lB 21 l (aj (cK (cQ (kZ (aa b [.o (nv (10^(n/2^m))) 0 0 2,.o (nv (10^(n/2^m))) 0 0 2] ?_)))))
   rcases Nat.mod_two_eq_zero_or_one (n/2^(m-1)) with hb2|hb2
   .
    refine aq 26 b (uN (10^(n/2^m)) (10^(n/2^m)) (10^(n/2^(m-1))) (by rw[<-Am];exact congrArg _ oM) d d _ _ b.g) (fun _ L b=>lP 0 0 (nc (10^(n/2^(m-1)))) b (fun _ b=>aE (lL b aF (lV 29 (nV (n/2^(m-1))) ?_ (hr:=vd (t:=3) (u:=3) (x:=.tmp 27) (y:=.tmp 28) (ky:=.i64) (a:=n) (n:=m-1) (j:=(m:Int)-1) kR kR kR oM oM _)))));refine lV 30 (nV (n/2^(m-1)%2)) ?_ (hr:=xO (t:=3) (u:=3) (x:=.tmp 29) (y:=.const (iV 1)) (a:=n/2^(m-1)) kR kR kR oM _);have V:(((n/2^(m-1)%2:Nat):Int) == (1:Int))=false:=gI oM;refine lB 31 V (ah (cK (kQ (lL b ac (lV 23 (iV (((m-1:Nat):Int)-1)) ?_ (hr:=rS ((((m:Int)-1)-1)) kR ((dS oM oM).trans oM)))))));refine lL b ac (lD ?_);intro S p;refine ⟨_,_,?_,⟨m-1,L,rfl,rfl,b.to _ _,oM⟩,p.to _ kR⟩
    omega
   refine aq 26 b (uN (10^(n/2^m)) (10^(n/2^m)) (10^(2*(n/2^m))) (by rw[<-Am];exact congrArg _ oM) d d _ _ b.g) (fun _ _ b=>lP 0 0 (nc (10^(2*(n/2^m)))) b (fun _ b=>aE (lL b aF (lV 29 (nV (n/2^(m-1))) ?_ (hr:=vd (t:=3) (u:=3) (x:=.tmp 27) (y:=.tmp 28) (ky:=.i64) (a:=n) (n:=m-1) (j:=(m:Int)-1) kR kR kR oM oM _)))));refine lV 30 (nV (n/2^(m-1)%2)) ?_ (hr:=xO (t:=3) (u:=3) (x:=.tmp 29) (y:=.const (iV 1)) (a:=n/2^(m-1)) kR kR kR oM _);have Q:(((n/2^(m-1)%2:Nat):Int) == (1:Int))=true:=ko oM;refine lB 31 Q (aj (kQ (lL b [.o (nv (10^(2*(n/2^m)))) 0 0 2,.o (nv 10) 2 0 2] (aq 34 b (uN (10^(2*(n/2^m))) 10 (10^(n/2^(m-1))) (by rw[<-zy];exact congrArg _ oM) (iA (Aa kD oM)) Gm _ _ b.g) (fun _ O b=>lP 0 0 (nc (10^(n/2^(m-1)))) b (fun _ b=>lN (kQ (lL b ac (lV 23 (iV (((m-1:Nat):Int)-1)) ?_ (hr:=rS ((((m:Int)-1)-1)) kR ((dS oM oM).trans oM)))))))))));refine lL b ac (lD ?_);intro S p;refine ⟨_,_,?_,⟨m-1,O,rfl,rfl,b.to _ _,oM⟩,p.to _ kR⟩
   omega
  have f:=oT e;refine lB 12 e (lL b [.v qT] (aj (aa b [.v (.agg #[uV 0,eS])] (lP 0 0 ([uV 0,eS]) b (fun _ b=>lL b ac (lN (kX ?_)))))))
  exfalso;omega
 have k:=oT c;refine lB 9 c (lL b ac (lG 11 ?_));refine lG 12 (lL b [.v qT] (aj (aa b [.v (.agg #[uV 0,eS])] (lP 0 0 ([uV 0,eS]) b (fun _ b=>lL b ac (lN (kX ?_)))))))
 exfalso;omega
theorem By (x:ByteArray)(I:x.size<=1000000)(w:World)(h:Hp)(g:G w h):CV 217 #[.string x,.int .u8 48] w h (.string (x.extract (rn ms x 0) x.size)):=by
 have a:=sS g;refine go Tryz.func217 [(0,.string x),(1,.int .u8 48)] rfl (aa a ac (ai (kZ ?_)));refine bG _ (CG.loop (fun p Γ H=>∃ (j:Nat)(s:ByteArray)(f:Hp),p=x.size-j/\Γ=[(1,.int .u8 48),(4,eS),(0,.string s)]/\SS w h H f [] [] []/\j<=x.size/\s=x.extract j x.size/\(∀ i,0<=i->i<j->ms (ak x i)=true)) _ ⟨0,x,h,rfl,rfl,a.to _ _,JH _,x.extract_zero_size.symm,(fun i _ f=>absurd f oM)⟩ ?_);rintro _ _ w1 ⟨j,s,C,z,rfl,a,y,b,u⟩;have D:s.size=x.size-j:=by rw[b,ByteArray.size_extract];omega
 have F:ak s 0=ak x j:=by rw[b,dd,ri]
 refine cQ (aa a [.c,.v (nV s.size)] ?_);cases d:(decide ((0:Int)<(s.size:Int)))
 .
  have o:=oF d;refine lB 7 d (lL a ac (lG 9 ?_));refine lG 10 (lG 11 (lG 12 (lL a [.v qF] (ah (CG.exit ?_)))))
  show CG _ _ _ _ _ _ _ _
  exact aa a aF (af a [] (.string s) (by rw[show rn ms x 0=j from dy (JH _) y u (by first|exact .inl oM|exact .inr (decide_eq_false oM)),b]))
 have o:=oT d;refine lB 7 d (lL a aF (lV 10 (.int .u8 (ak s 0:Nat)) ?_ (hr:=aU (tx:=9) (x:=.tmp 9) (i:=.const (iV 0)) (k:=.i64) (s:=s) (n:=0) (j:=(0:Int)) kR kR kR kR oM oM _)));refine lL a ac ?_;cases e:(((ak s 0:Nat):Int) == (48:Int))
 .
  have l:=ao e;refine lB 12 e (lL a [.v qF] (ah (CG.exit ?_)))
  show CG _ _ _ _ _ _ _ _
  exact aa a aF (af a [] (.string s) (by rw[show rn ms x 0=j from dy (JH _) y u (by first|exact .inl oM|exact .inr (decide_eq_false oM)),b]))
 have l:=eq_of_beq e;refine lB 12 e (lL a [.v qT] (aj (cK (kZ (kQ (lL a ac (lV 15 (.string (s.extract 1 s.size)) ?_ (hr:=fF (tx:=9) (x:=.tmp 14) (i:=.const (iV 1)) (k:=.i64) (s:=s) (n:=1) (j:=(1:Int)) kR kR kR kR oM oM _))))))));refine lL a ac (lD ?_);intro J B;refine ⟨_,_,?_,⟨j+1,s.extract 1 s.size,C,rfl,rfl,a.to _ _,oM,(Af b oM),(fun i _ f=>by rcases Kl.1 f with f|rfl;exact u i (JH _) f;exact decide_eq_true oM)⟩,B.to _ kR⟩
 omega
theorem tk (x:ByteArray)(d:x.size<=1000000)(b:x.size≠0)(w:World)(h:Hp)(g:G w h):CV 192 #[.string x,.string (⟨#[48]⟩)] w h (.string (x.extract (rn ms x 0) x.size)):=by
 have a:=sS g;refine go Tryz.func192 [(0,.string x),(1,.string (⟨#[48]⟩))] rfl (aa a ac (ai (aa a ac (lV 8 qF ?_ (hr:=rb kR (g7 b))))));exact lL a [.c,.c,.v qF,.v qF] (ah (cK (cQ (aa a [.c,.v (iV 1),.v qT,.c,.c,.v (.int .u8 48),.v qT,.v qT] (aj (aa a [.c,.c,.v (.int .u8 48)] (aq 25 a (By x d _ _ a.g) (fun w1 e a=>lL a ac (af a [] (.string (x.extract (rn ms x 0) x.size)) rfl)))))))))
theorem oD (x y:ByteArray)(B:x.size<=1000000)(J:y.size<=1000000)(w:World)(h:Hp)(g:G w h)(l:Tab h):CV 160 #[.string x,.string y] w h (match iB x y with|some q=>.tuple #[qv q,.bool true]|none=>.tuple #[qv 0,.bool false]):=by
 have a:=((sS g).add (K:=fun o=>Tab o) l);refine go Tryz.func160 [(0,.string x),(1,.string y)] rfl (aG (lA 4 30 a1 a (fun u w2 I a=>lL a ac (aE (lL a ac ?_)))))
 rcases hz:ej x with _|z
 .
  exact aq 11 a ((by have d:=n3 x oM _ _ a.g;rw[hz] at d;exact d)) (fun L F a=>lL a [.c,.v (iv 0),.v qF] (lA 6 28 ([qF,uV 0,eS]) a (fun D M H a=>lP 0 0 (ic 0) a (fun C a=>lL a ac (ai (aa a [.c,.v qT] (aj (aa a [.v ca] (lP 1 0 a1 a (fun _ a=>lL a ac (af a [(1,0,5)] (.tuple #[.agg #[qF,uV 0,eS,uV 0,eS],qF]) (by unfold iB;rw[hz]<;>rfl))))))))))))
 refine aq 11 a ((by have d:=n3 x oM _ _ a.g;rw[hz] at d;exact d)) (fun _ _ a=>lL a [.c,.v (iv z),.v qT] (lA 6 28 ([qF,uV 0,eS]) a (fun p _ _ a=>lP 0 0 (ic z) a (fun _ a=>lL a ac (ai (aa a [.c,.v qF] (ah (cK (aa a ac ?_)))))))))
 rcases hk:bY y with _|k
 .
  exact aq 19 a ((by have d:=d3 y (by first|omega|(rw[ByteArray.size_extract];omega)) _ _ a.g;rw[hk] at d;exact d)) (fun _ _ a=>lL a [.c,.v (nv 0),.v qF] (lA 8 26 ([uV 0,eS]) a (fun i _ _ a=>lP 0 0 (nc 0) a (fun _ a=>lL a ac (ai (aa a [.c,.v qT] (aj (aa a [.v ca] (lP 2 0 a1 a (fun _ a=>lL a ac (af a [(2,0,5)] (.tuple #[.agg #[qF,uV 0,eS,uV 0,eS],qF]) (by unfold iB;rw[hz];dsimp only;rw[hk]<;>rfl))))))))))))
 have b:=cv hk;have e:=iA (JO b);refine aq 19 a ((by have d:=d3 y (by first|omega|(rw[ByteArray.size_extract];omega)) _ _ a.g;rw[hk] at d;exact d)) (fun _ _ a=>lL a [.c,.v (nv k),.v qT] (lA 8 26 ([uV 0,eS]) a (fun j _ _ a=>lP 0 0 (nc k) a (fun _ a=>lL a ac (ai (aa a [.c,.v qF] (ah (cK (cQ (cR 6 [] mixed a aw ?_))))))))));refine eO 0 25 [(1,0,3)] (iv z) a (eO 1 26 [(0,0,2)] (nv k) a ?_)
 rcases Ku (k=0) with hk0|hk0
 .
  exact aK 2 27 a (fun _ _ a=>nN k _ _ a.g) (fun _ _ a=>aK 3 28 a (fun _ _ a=>Bv z k hk0 _ _ a.g) (fun _ _ a=>eV 4 29 (qv 0) (eV 5 30 qF (cG a (fun _ _ a=>tP 6 2 0 (qc 0) a (fun _ a=>tV 7 5 qF (tN (kX (a.ret [(2,0,5)] (.tuple #[qv 0,qF]) (by unfold iB;rw[hz];dsimp only;rw[hk];dsimp only;rw[if_pos hk0]<;>rfl))))))))))
 exact aK 2 27 a (fun _ _ a=>nN k _ _ a.g) (fun _ _ a=>aK 3 28 a (fun _ _ a=>Fh z (k:Int) oM (iA (JO (iT hz))) (iA (JO b)) _ _ a.g a.f.1) (fun _ _ a=>eV 4 29 (qv (og z (k:Int))) (eV 5 30 qT (cG a (fun _ _ a=>tP 6 2 0 (qc (og z (k:Int))) a (fun _ a=>tV 7 5 qT (tN (kX (a.ret [(2,0,5)] (.tuple #[qv (og z (k:Int)),qT]) (by unfold iB;rw[hz];dsimp only;rw[hk];dsimp only;rw[if_neg hk0];exact congrArg (fun d=>Value.tuple #[qv d,qT]) (iU z k)))))))))))
theorem Gg (x:ByteArray)(c:UInt8)(o:Nat)(u:x.size<=1000000)(f:o<x.size)(hi:Lib.indexByte x.data.toList c=(o:Int))(w:World)(h:Hp)(g:G w h):CV 188 #[.string x,.string (⟨#[c]⟩)] w h (.tuple #[.string (x.extract 0 o),.string (x.extract (o+1) x.size),.bool true]):=by
 have a:=sS g;refine go Tryz.func188 [(0,.string x),(1,.string (⟨#[c]⟩))] rfl (aa a dL (ai (aa a aF (aq 10 a (BH x c o hi _ _ a.g) (fun w1 l a=>lL a ac (aE (lL a ac ?_)))))));have ⟨b,d⟩:=dT (p:=(0:Int)<=(o:Int)) oM;refine lB 12 b (aj (cQ (cR 9 [] mixed a aw ?_)));refine eV 0 13 (.string x) (eV 1 14 (nV o) (eV 2 15 (.string (x.extract 0 o)) ?_ (hv:=fun _=>oC (tx:=9) (x:=.tmp 13) (e:=.tmp 14) (k2:=.i64) (s:=x) (m:=o) (j2:=(o:Int)) kR kR kR kR oM oM _)));refine eV 3 16 (.string x) (eV 4 17 (nV o) (eV 5 18 (.string (⟨#[c]⟩)) (eV 6 19 (iV 1) (iO 7 20 ((o:Nat)+1) (o+1) (eV 8 21 (.string (x.extract (o+1) x.size)) ?_ (hv:=fun _=>fF (tx:=9) (x:=.tmp 16) (i:=.tmp 20) (k:=.i64) (s:=x) (n:=(o+1)) (j:=((o+1:Nat):Int)) kR kR kR kR oM oM _))))));exact cG a (fun y z a=>tV 9 4 (.string (x.extract 0 o)) (tV 10 5 (.string (x.extract (o+1) x.size)) (tV 11 6 qT (tN (kX (a.ret [] (.tuple #[.string (x.extract 0 o),.string (x.extract (o+1) x.size),qT]) rfl))))))
theorem CT (x:ByteArray)(c:UInt8)(o:Nat)(d:x.size<=1000000)(b:o<x.size)(hi:Lib.indexByte x.data.toList c=(o:Int))(w:World)(h:Hp)(g:G w h):CV 159 #[.string x,.string (⟨#[c]⟩)] w h (.tuple #[.string (x.extract 0 o),.string (x.extract (o+1) x.size),.bool true]):=by
 have a:=sS g;exact go Tryz.func159 [(0,.string x),(1,.string (⟨#[c]⟩))] rfl (aa a dL (aE (lL a aF (aq 9 a (Gg x c o d b hi _ _ a.g) (fun w1 e a=>lL a [.v (.string (x.extract 0 o)),.v (.string (x.extract (o+1) x.size)),.v qT,.c,.c,.c] (af a [] (.tuple #[.string (x.extract 0 o),.string (x.extract (o+1) x.size),qT]) rfl))))))
theorem mF (x y:ByteArray)(hx:x.size<=1000000)(hy:y.size<=1000000)(w:World)(h:Hp)(g:G w h)(tb:Tab h):CV 161 #[.string x,.string y] w h (match fL x y with|some q=>.tuple #[qv q,.bool true]|none=>.tuple #[qv 0,.bool false]):=by
 have b:=((sS g).add (K:=fun u=>Tab u) tb);refine go Tryz.func161 [(0,.string x),(1,.string y)] rfl (aG (lA 4 30 a1 b (fun Q w2 h3 b=>lL b ac (aE (lL b ac ?_)))))
 rcases Ku (ak x 0=45) with za|za
 .
  refine aq 17 b (ry x 45 za kD _ _ b.g) (fun w4 h5 b=>lL b [.c,.v (.string (x.extract 1 x.size)),.v qT,.c,.c] (aE (lL b ac ?_)))
  rcases hk:bY (x.extract 1 x.size) with _|k
  .
   refine aq 22 b ((by have o:=d3 (x.extract 1 x.size) (by first|omega|(rw[ByteArray.size_extract];omega)) _ _ b.g;rw[hk] at o;exact o)) (fun w6 h7 b=>lL b [.c,.v (nv 0),.v qF] (lA 8 26 ([uV 0,eS]) b (fun b8 w9 _ b=>lP 0 0 (nc 0) b (fun _ b=>lL b ac (ai (aa b [.c,.v qT,.c] (lG 28 ?_)))))));refine lG 29 (lL b [.v qT,.c] (lG 32 ?_));exact lG 33 (lG 34 (lL b [.v qT] (aj (aa b [.v ca] (lP 1 0 a1 b (fun _ b=>lL b ac (af b [(1,0,5)] (.tuple #[.agg #[qF,uV 0,eS,uV 0,eS],qF]) (by rw[iJ (if_pos za) hk]<;>rfl))))))))
  have d:=cv hk;have I:=iA (JO d);refine aq 22 b ((by have o:=d3 (x.extract 1 x.size) (by first|omega|(rw[ByteArray.size_extract];omega)) _ _ b.g;rw[hk] at o;exact o)) (fun _ _ b=>lL b [.c,.v (nv k),.v qT] (lA 8 26 ([uV 0,eS]) b (fun zs _ zu b=>lP 0 0 (nc k) b (fun _ b=>lL b ac (ai (aa b [.c,.v qF,.c,.c] ?_))))))
  rcases Ku (y.size=0) with hy0|hy0
  .
   refine lV 29 qT ?_ (hr:=rb kR (iG (show y=⟨#[]⟩ by have o:=kA (y:=y) (z:=0) hy0.symm;rw[<-o];exact y.extract_zero_size.symm)));refine lL b [.v qT,.c] (lG 32 ?_);exact lG 33 (lG 34 (lL b [.v qT] (aj (aa b [.v ca] (lP 1 0 a1 b (fun _ b=>lL b ac (af b [(1,0,5)] (.tuple #[.agg #[qF,uV 0,eS,uV 0,eS],qF]) (by rw[ff (if_pos za) hk oM]<;>rfl))))))))
  refine lV 29 qF ?_ (hr:=rb kR (g7 hy0));refine lL b [.v qF,.c,.c,.v (nV y.size)] ?_;cases zd:(decide ((200:Int)<(y.size:Int)))
  .
   have zm:=oF zd;refine lB 34 zd (lL b [.v qF] (ah (cK (cQ (aa b [.c,.v (nV y.size),.c] (bE ?_))))));refine bG _ (CG.loop (fun J Γ w_=>∃ (j:Nat)(u:Hp),J=y.size-j/\Γ=[(1,.string y),(4,pB Q),(7,qT),(8,pB zs),(38,nV y.size),(39,nV j)]/\SS w h w_ u [⟨zs,26,nc k⟩,⟨Q,30,[qF,uV 0,eS,uV 0,eS]⟩] [] [fun u=>Tab u]/\j<=y.size/\(∀ i,i<j->48<=ak y i/\ak y i<=57)) _ ⟨0,zu,rfl,rfl,b.to _ _,JH _,(fun i u=>absurd u oM)⟩ ?_);rintro _ _ _ ⟨j,zv,bb,rfl,b,hj,F⟩;have O:=bh y j;refine aG ?_;cases Y:(decide ((j:Int)<(y.size:Int)))
   .
    have zn:=oF Y;refine lB 40 Y (ai (da (CG.exit ?_)))
    show CG _ _ _ _ _ _ _ _
    refine aG (aq 55 b (Er 10 kD _ _ b.g) (fun _ _ b=>lL b [.c,.v (nV y.size)] (aq 58 b (sL y.size oM _ _ b.g) (fun _ _ b=>lL b [.c,.v (nv (10^y.size)),.v qT] (lA 11 26 ([uV 0,eS]) b (fun b29 _ _ b=>lP 0 0 (nc (10^y.size)) b (fun _ b=>lL b ac (aE (lL b [.v (.agg #[uV 0,eS])] (lA 13 26 ([uV 0,eS]) b (fun b33 _ _ b=>lP 0 0 ([uV 0,eS]) b (fun _ b=>ai (aa b ac ?_)))))))))))));have B:∀ i,i<y.size->48<=ak y i/\ak y i<=57:=fun i hi=>F i oM
    have D:=r8 (x:=y) B oM;have M:=dB (p:=ms) (s:=y) (a:=0) (JH _);have C:=iA (Aa (show 0<10 by decide) (show y.size<=200 by omega));have H:=hC (x:=y) y.size B;have L:=jN d (show y.size<=200 by omega) H;refine aq 63 b (tk y oM hy0 _ _ b.g) (fun _ _ b=>lL b ac (aE (lL b ac ?_)))
    rcases D with htr|htr
    .
     refine lV 65 qF ?_ (hr:=rb kR (vK (kA htr.1)));refine ah (cK (cQ (cR 9 [] mixed b aw ?_)));refine eV 0 71 qT (eO 1 72 [(2,0,2)] (nv k) b (eO 2 73 [(1,0,2)] (nv (10^y.size)) b (eO 4 75 [(0,0,2)] (.agg #[uV 0,eS]) b (eO 7 78 [(1,0,2)] (nv (10^y.size)) b ?_))));have l:(wds (k*10^y.size)).length<=1000000000:=ed (fJ oM) kD;have e:(wds (k*10^y.size+0)).length<=1000000000:=ed (fJ oM) kD;exact aK 3 74 b (fun _ _ b=>n8 k (10^y.size) (iA (JO d)) C _ _ b.g) (fun _ _ b=>aK 5 76 b (fun _ _ b=>CI (k*10^y.size) (0) l (cp (Kz _ _) e) _ _ b.g) (fun _ _ b=>aK 6 77 b (fun _ _ b=>gF true (k*10^y.size+0) e _ _ b.g) (fun _ _ b=>aK 8 79 b (fun _ _ b=>i5 (bD true (k*10^y.size+0)) (10^y.size) (A8 kD) (by rw[cd];exact e) C _ _ b.g b.f.1) (fun _ _ b=>cG b (fun _ _ b=>tP 9 3 0 (qc (mkRat (bD true (k*10^y.size+0)) (10^y.size))) b (fun _ b=>tV 10 5 qT (tN (kX (b.ret [(3,0,5)] (.tuple #[qv (mkRat (bD true (k*10^y.size+0)) (10^y.size)),qT]) (by rw[gL (if_pos za) (decide_eq_true za) hk hy0 oM B,htr.2]))))))))))
    refine lV 65 qT ?_ (hr:=rb kR (Ac (show (y.extract (rn ms y 0) y.size).size≠0 by rw[ByteArray.size_extract];omega)));refine aj (kQ (lL b ac (aq 68 b ((by have o:=d3 (y.extract (rn ms y 0) y.size) (by rw[ByteArray.size_extract];omega) _ _ b.g;rw[htr.2] at o;exact o)) (fun _ _ b=>lL b [.c,.v (nv (dv y y.size)),.v qT] (lP 0 0 (nc (dv y y.size)) b (fun _ b=>ai (cR 9 [] mixed b aw ?_)))))));refine eV 0 71 qT (eO 1 72 [(2,0,2)] (nv k) b (eO 2 73 [(1,0,2)] (nv (10^y.size)) b (eO 4 75 [(0,0,2)] (nv (dv y y.size)) b (eO 7 78 [(1,0,2)] (nv (10^y.size)) b ?_))));have l:(wds (k*10^y.size)).length<=1000000000:=ed (fJ oM) kD;have e:(wds (k*10^y.size+dv y y.size)).length<=1000000000:=ed (fJ oM) kD;exact aK 3 74 b (fun _ _ b=>n8 k (10^y.size) (iA (JO d)) C _ _ b.g) (fun _ _ b=>aK 5 76 b (fun _ _ b=>CI (k*10^y.size) (dv y y.size) l (cp (Kz _ _) e) _ _ b.g) (fun _ _ b=>aK 6 77 b (fun _ _ b=>gF true (k*10^y.size+dv y y.size) e _ _ b.g) (fun _ _ b=>aK 8 79 b (fun _ _ b=>i5 (bD true (k*10^y.size+dv y y.size)) (10^y.size) (A8 kD) (by rw[cd];exact e) C _ _ b.g b.f.1) (fun _ _ b=>cG b (fun _ _ b=>tP 9 3 0 (qc (mkRat (bD true (k*10^y.size+dv y y.size)) (10^y.size))) b (fun _ b=>tV 10 5 qT (tN (kX (b.ret [(3,0,5)] (.tuple #[qv (mkRat (bD true (k*10^y.size+dv y y.size)) (10^y.size)),qT]) (by rw[gL (if_pos za) (decide_eq_true za) hk hy0 oM B]))))))))))
   have zn:=oT Y;refine lB 40 Y (ai (ci (cK (cQ (kZ (aa b aF (aE (lL b aF (lV 44 (.int .u8 (ak y j:Nat)) ?_ (hr:=aU (tx:=9) (x:=.tmp 42) (i:=.tmp 43) (k:=.i64) (s:=y) (n:=j) (j:=(j:Int)) kR kR kR kR oM oM _))))))))));cases Z:(decide (((ak y j:Nat):Int)<(48:Int)))
   .
    have zo:=oF Z;refine lB 45 Z (lL b dL (lV 49 (.int .u8 (ak y j:Nat)) ?_ (hr:=aU (tx:=9) (x:=.tmp 47) (i:=.tmp 48) (k:=.i64) (s:=y) (n:=j) (j:=(j:Int)) kR kR kR kR oM oM _)));cases S:(decide ((57:Int)<((ak y j:Nat):Int)))
    .
     have zp:=oF S;refine lB 50 S (lL b [.v qF] (ah (cK (kQ (bg 53 ((j:Nat)+1) (j+1) ?_)))));refine lL b ac (lD ?_);intro a_ ka;refine ⟨_,_,?_,⟨j+1,zv,rfl,rfl,b.to _ _,oM,(fun i u=>by rcases Kl.1 u with u|rfl;exact F i u;omega)⟩,ka.to _ kR⟩
     omega
    have zp:=oT S;exact lB 50 S (lL b [.v qT] (aj (aa b [.v ca] (lP 1 0 a1 b (fun _ b=>lL b ac (af b [(1,0,5)] (.tuple #[.agg #[qF,uV 0,eS,uV 0,eS],qF]) (by rw[dX (i:=j) oM oM]<;>rfl)))))))
   have zo:=oT Z;refine lB 45 Z (lL b ac (lG 47 ?_));exact lG 48 (lG 49 (lG 50 (lL b [.v qT] (aj (aa b [.v ca] (lP 1 0 a1 b (fun _ b=>lL b ac (af b [(1,0,5)] (.tuple #[.agg #[qF,uV 0,eS,uV 0,eS],qF]) (by rw[dX (i:=j) oM oM]<;>rfl)))))))))
  have zm:=oT zd;exact lB 34 zd (lL b [.v qT] (aj (aa b [.v ca] (lP 1 0 a1 b (fun _ b=>lL b ac (af b [(1,0,5)] (.tuple #[.agg #[qF,uV 0,eS,uV 0,eS],qF]) (by rw[ff (if_pos za) hk oM]<;>rfl)))))))
 refine aq 17 b (kg x 45 za _ _ b.g) (fun _ _ b=>lL b [.c,.v (.string x),.v qF,.c,.c] (aE (lL b ac ?_)))
 rcases hk:bY x with _|k
 .
  refine aq 22 b ((by have o:=d3 x (by first|omega|(rw[ByteArray.size_extract];omega)) _ _ b.g;rw[hk] at o;exact o)) (fun _ _ b=>lL b [.c,.v (nv 0),.v qF] (lA 8 26 ([uV 0,eS]) b (fun b75 _ _ b=>lP 0 0 (nc 0) b (fun _ b=>lL b ac (ai (aa b [.c,.v qT,.c] (lG 28 ?_)))))));refine lG 29 (lL b [.v qT,.c] (lG 32 ?_));exact lG 33 (lG 34 (lL b [.v qT] (aj (aa b [.v ca] (lP 1 0 a1 b (fun _ b=>lL b ac (af b [(1,0,5)] (.tuple #[.agg #[qF,uV 0,eS,uV 0,eS],qF]) (by rw[iJ (if_neg za) hk]<;>rfl))))))))
 have d:=cv hk;have I:=iA (JO d);refine aq 22 b ((by have o:=d3 x (by first|omega|(rw[ByteArray.size_extract];omega)) _ _ b.g;rw[hk] at o;exact o)) (fun _ _ b=>lL b [.c,.v (nv k),.v qT] (lA 8 26 ([uV 0,eS]) b (fun zt _ zw b=>lP 0 0 (nc k) b (fun _ b=>lL b ac (ai (aa b [.c,.v qF,.c,.c] ?_))))))
 rcases Ku (y.size=0) with hy0|hy0
 .
  refine lV 29 qT ?_ (hr:=rb kR (iG (show y=⟨#[]⟩ by have o:=kA (y:=y) (z:=0) hy0.symm;rw[<-o];exact y.extract_zero_size.symm)));refine lL b [.v qT,.c] (lG 32 ?_);exact lG 33 (lG 34 (lL b [.v qT] (aj (aa b [.v ca] (lP 1 0 a1 b (fun _ b=>lL b ac (af b [(1,0,5)] (.tuple #[.agg #[qF,uV 0,eS,uV 0,eS],qF]) (by rw[ff (if_neg za) hk oM]<;>rfl))))))))
 refine lV 29 qF ?_ (hr:=rb kR (g7 hy0));refine lL b [.v qF,.c,.c,.v (nV y.size)] ?_;cases X:(decide ((200:Int)<(y.size:Int)))
 .
  have zq:=oF X;refine lB 34 X (lL b [.v qF] (ah (cK (cQ (aa b [.c,.v (nV y.size),.c] (bE ?_))))));refine bG _ (CG.loop (fun J Γ w_=>∃ (j:Nat)(u:Hp),J=y.size-j/\Γ=[(1,.string y),(4,pB Q),(7,qF),(8,pB zt),(38,nV y.size),(39,nV j)]/\SS w h w_ u [⟨zt,26,nc k⟩,⟨Q,30,[qF,uV 0,eS,uV 0,eS]⟩] [] [fun u=>Tab u]/\j<=y.size/\(∀ i,i<j->48<=ak y i/\ak y i<=57)) _ ⟨0,zw,rfl,rfl,b.to _ _,JH _,(fun i u=>absurd u oM)⟩ ?_);rintro _ _ _ ⟨j,zx,bd,rfl,b,hj,F⟩;have O:=bh y j;refine aG ?_;cases V:(decide ((j:Int)<(y.size:Int)))
  .
   have zr:=oF V;refine lB 40 V (ai (da (CG.exit ?_)))
   show CG _ _ _ _ _ _ _ _
   refine aG (aq 55 b (Er 10 kD _ _ b.g) (fun _ _ b=>lL b [.c,.v (nV y.size)] (aq 58 b (sL y.size oM _ _ b.g) (fun _ _ b=>lL b [.c,.v (nv (10^y.size)),.v qT] (lA 11 26 ([uV 0,eS]) b (fun b96 _ _ b=>lP 0 0 (nc (10^y.size)) b (fun _ b=>lL b ac (aE (lL b [.v (.agg #[uV 0,eS])] (lA 13 26 ([uV 0,eS]) b (fun bk _ _ b=>lP 0 0 ([uV 0,eS]) b (fun _ b=>ai (aa b ac ?_)))))))))))));have B:∀ i,i<y.size->48<=ak y i/\ak y i<=57:=fun i hi=>F i oM
   have D:=r8 (x:=y) B oM;have M:=dB (p:=ms) (s:=y) (a:=0) (JH _);have C:=iA (Aa (show 0<10 by decide) (show y.size<=200 by omega));have H:=hC (x:=y) y.size B;have L:=jN d (show y.size<=200 by omega) H;refine aq 63 b (tk y oM hy0 _ _ b.g) (fun _ _ b=>lL b ac (aE (lL b ac ?_)))
   rcases D with htr|htr
   .
    refine lV 65 qF ?_ (hr:=rb kR (vK (kA htr.1)));refine ah (cK (cQ (cR 9 [] mixed b aw ?_)));refine eV 0 71 qF (eO 1 72 [(2,0,2)] (nv k) b (eO 2 73 [(1,0,2)] (nv (10^y.size)) b (eO 4 75 [(0,0,2)] (.agg #[uV 0,eS]) b (eO 7 78 [(1,0,2)] (nv (10^y.size)) b ?_))));have l:(wds (k*10^y.size)).length<=1000000000:=ed (fJ oM) kD;have e:(wds (k*10^y.size+0)).length<=1000000000:=ed (fJ oM) kD;exact aK 3 74 b (fun _ _ b=>n8 k (10^y.size) (iA (JO d)) C _ _ b.g) (fun _ _ b=>aK 5 76 b (fun _ _ b=>CI (k*10^y.size) (0) l (cp (Kz _ _) e) _ _ b.g) (fun _ _ b=>aK 6 77 b (fun _ _ b=>gF false (k*10^y.size+0) e _ _ b.g) (fun _ _ b=>aK 8 79 b (fun _ _ b=>i5 (bD false (k*10^y.size+0)) (10^y.size) (A8 kD) (by rw[cd];exact e) C _ _ b.g b.f.1) (fun _ _ b=>cG b (fun _ _ b=>tP 9 3 0 (qc (mkRat (bD false (k*10^y.size+0)) (10^y.size))) b (fun _ b=>tV 10 5 qT (tN (kX (b.ret [(3,0,5)] (.tuple #[qv (mkRat (bD false (k*10^y.size+0)) (10^y.size)),qT]) (by rw[gL (if_neg za) (decide_eq_false za) hk hy0 oM B,htr.2]))))))))))
   refine lV 65 qT ?_ (hr:=rb kR (Ac (show (y.extract (rn ms y 0) y.size).size≠0 by rw[ByteArray.size_extract];omega)));refine aj (kQ (lL b ac (aq 68 b ((by have o:=d3 (y.extract (rn ms y 0) y.size) (by rw[ByteArray.size_extract];omega) _ _ b.g;rw[htr.2] at o;exact o)) (fun _ _ b=>lL b [.c,.v (nv (dv y y.size)),.v qT] (lP 0 0 (nc (dv y y.size)) b (fun _ b=>ai (cR 9 [] mixed b aw ?_)))))));refine eV 0 71 qF (eO 1 72 [(2,0,2)] (nv k) b (eO 2 73 [(1,0,2)] (nv (10^y.size)) b (eO 4 75 [(0,0,2)] (nv (dv y y.size)) b (eO 7 78 [(1,0,2)] (nv (10^y.size)) b ?_))));have l:(wds (k*10^y.size)).length<=1000000000:=ed (fJ oM) kD;have e:(wds (k*10^y.size+dv y y.size)).length<=1000000000:=ed (fJ oM) kD;exact aK 3 74 b (fun _ _ b=>n8 k (10^y.size) (iA (JO d)) C _ _ b.g) (fun _ _ b=>aK 5 76 b (fun _ _ b=>CI (k*10^y.size) (dv y y.size) l (cp (Kz _ _) e) _ _ b.g) (fun _ _ b=>aK 6 77 b (fun _ _ b=>gF false (k*10^y.size+dv y y.size) e _ _ b.g) (fun _ _ b=>aK 8 79 b (fun _ _ b=>i5 (bD false (k*10^y.size+dv y y.size)) (10^y.size) (A8 kD) (by rw[cd];exact e) C _ _ b.g b.f.1) (fun _ _ b=>cG b (fun _ _ b=>tP 9 3 0 (qc (mkRat (bD false (k*10^y.size+dv y y.size)) (10^y.size))) b (fun _ b=>tV 10 5 qT (tN (kX (b.ret [(3,0,5)] (.tuple #[qv (mkRat (bD false (k*10^y.size+dv y y.size)) (10^y.size)),qT]) (by rw[gL (if_neg za) (decide_eq_false za) hk hy0 oM B]))))))))))
  have zr:=oT V;refine lB 40 V (ai (ci (cK (cQ (kZ (aa b aF (aE (lL b aF (lV 44 (.int .u8 (ak y j:Nat)) ?_ (hr:=aU (tx:=9) (x:=.tmp 42) (i:=.tmp 43) (k:=.i64) (s:=y) (n:=j) (j:=(j:Int)) kR kR kR kR oM oM _))))))))));cases U:(decide (((ak y j:Nat):Int)<(48:Int)))
  .
   have zk:=oF U;refine lB 45 U (lL b dL (lV 49 (.int .u8 (ak y j:Nat)) ?_ (hr:=aU (tx:=9) (x:=.tmp 47) (i:=.tmp 48) (k:=.i64) (s:=y) (n:=j) (j:=(j:Int)) kR kR kR kR oM oM _)));cases W:(decide ((57:Int)<((ak y j:Nat):Int)))
   .
    have zl:=oF W;refine lB 50 W (lL b [.v qF] (ah (cK (kQ (bg 53 ((j:Nat)+1) (j+1) ?_)))));refine lL b ac (lD ?_);intro a_ ka;refine ⟨_,_,?_,⟨j+1,zx,rfl,rfl,b.to _ _,oM,(fun i u=>by rcases Kl.1 u with u|rfl;exact F i u;omega)⟩,ka.to _ kR⟩
    omega
   have zl:=oT W;exact lB 50 W (lL b [.v qT] (aj (aa b [.v ca] (lP 1 0 a1 b (fun _ b=>lL b ac (af b [(1,0,5)] (.tuple #[.agg #[qF,uV 0,eS,uV 0,eS],qF]) (by rw[dX (i:=j) oM oM]<;>rfl)))))))
  have zk:=oT U;refine lB 45 U (lL b ac (lG 47 ?_));exact lG 48 (lG 49 (lG 50 (lL b [.v qT] (aj (aa b [.v ca] (lP 1 0 a1 b (fun _ b=>lL b ac (af b [(1,0,5)] (.tuple #[.agg #[qF,uV 0,eS,uV 0,eS],qF]) (by rw[dX (i:=j) oM oM]<;>rfl)))))))))
 have zq:=oT X;exact lB 34 X (lL b [.v qT] (aj (aa b [.v ca] (lP 1 0 a1 b (fun _ b=>lL b ac (af b [(1,0,5)] (.tuple #[.agg #[qF,uV 0,eS,uV 0,eS],qF]) (by rw[ff (if_neg za) hk oM]<;>rfl)))))))
theorem nw (x:ByteArray)(C:x.size<=1000000)(w:World)(h:Hp)(g:G w h)(k:Tab h):CV 124 #[.string x] w h (match cF x with|some q=>.tuple #[qv q,.bool true]|none=>.tuple #[qv 0,.bool false]):=by
 have a:=((sS g).add (K:=fun u=>Tab u) k);refine go Tryz.func124 [(0,.string x)] rfl (aG (lA 2 30 a1 a (fun B w2 J a=>lL a ac (ai (aa a ac ?_)))))
 rcases co (rn (cb 47) x 0) x.size with hsl|hsl
 .
  refine aq 14 a (CT x 47 (rn (cb 47) x 0) oM hsl (xn (c:=47) hsl) _ _ a.g) (fun L I a=>lL a [.c,.v (.string (x.extract 0 (rn (cb 47) x 0))),.v (.string (x.extract (rn (cb 47) x 0+1) x.size)),.v qT,.c,.c,.c] (aE (lL a ac (aj (aa a aF ?_)))))
  rcases hq:iB (x.extract 0 (rn (cb 47) x 0)) (x.extract (rn (cb 47) x 0+1) x.size) with _|q
  .
   exact aq 21 a ((by have b:=oD (x.extract 0 (rn (cb 47) x 0)) (x.extract (rn (cb 47) x 0+1) x.size) (by rw[ByteArray.size_extract];omega) (by rw[ByteArray.size_extract];omega) _ _ a.g (a.f.1);rw[hq] at b;exact b)) (fun F y a=>lL a [.v (qv 0),.v qF] (lP 0 0 (qc 0) a (fun D a=>lL a ac (af a [(0,0,5)] (.tuple #[qv 0,qF]) (by unfold cF;rw[if_pos hsl,hq]<;>rfl)))))
  exact aq 21 a ((by have b:=oD (x.extract 0 (rn (cb 47) x 0)) (x.extract (rn (cb 47) x 0+1) x.size) (by rw[ByteArray.size_extract];omega) (by rw[ByteArray.size_extract];omega) _ _ a.g (a.f.1);rw[hq] at b;exact b)) (fun H _ a=>lL a [.v (qv q),.v qT] (lP 0 0 (qc q) a (fun _ a=>lL a ac (af a [(0,0,5)] (.tuple #[qv q,qT]) (by unfold cF;rw[if_pos hsl,hq]<;>rfl)))))
 refine aq 14 a (CZ x 47 (fun i hi=>oT (fR (p:=cb 47) (x.size-0) 0 i (JH _) (ep hi hsl))) _ _ a.g) (fun _ _ a=>lL a [.c,.v (.string x),.v (eS),.v qF,.c,.c,.c] (aE (lL a ac (ah (cK (cQ (aa a ac ?_)))))))
 rcases co (rn (cb 46) x 0) x.size with hpt|hpt
 .
  refine aq 26 a (CT x 46 (rn (cb 46) x 0) oM hpt (xn (c:=46) hpt) _ _ a.g) (fun _ _ a=>lL a [.c,.v (.string (x.extract 0 (rn (cb 46) x 0))),.v (.string (x.extract (rn (cb 46) x 0+1) x.size)),.v qT,.c,.c,.c] (aE (lL a ac (aj (aa a aF ?_)))))
  rcases hq:fL (x.extract 0 (rn (cb 46) x 0)) (x.extract (rn (cb 46) x 0+1) x.size) with _|q
  .
   exact aq 33 a ((by have b:=mF (x.extract 0 (rn (cb 46) x 0)) (x.extract (rn (cb 46) x 0+1) x.size) (by rw[ByteArray.size_extract];omega) (by rw[ByteArray.size_extract];omega) _ _ a.g (a.f.1);rw[hq] at b;exact b)) (fun _ _ a=>lL a [.v (qv 0),.v qF] (lP 0 0 (qc 0) a (fun _ a=>lL a ac (af a [(0,0,5)] (.tuple #[qv 0,qF]) (by unfold cF;rw[if_neg oM,if_pos hpt,hq]<;>rfl)))))
  exact aq 33 a ((by have b:=mF (x.extract 0 (rn (cb 46) x 0)) (x.extract (rn (cb 46) x 0+1) x.size) (by rw[ByteArray.size_extract];omega) (by rw[ByteArray.size_extract];omega) _ _ a.g (a.f.1);rw[hq] at b;exact b)) (fun _ _ a=>lL a [.v (qv q),.v qT] (lP 0 0 (qc q) a (fun _ a=>lL a ac (af a [(0,0,5)] (.tuple #[qv q,qT]) (by unfold cF;rw[if_neg oM,if_pos hpt,hq]<;>rfl)))))
 refine aq 26 a (CZ x 46 (fun i hi=>oT (fR (p:=cb 46) (x.size-0) 0 i (JH _) (ep hi hpt))) _ _ a.g) (fun _ _ a=>lL a [.c,.v (.string x),.v (eS),.v qF,.c,.c,.c] (aE (lL a ac (ah (cK (aa a ac ?_))))))
 rcases hq:ej x with _|z
 .
  exact aq 38 a ((by have b:=n3 x oM _ _ a.g;rw[hq] at b;exact b)) (fun _ _ a=>lL a [.c,.v (iv 0),.v qF] (lA 10 28 ([qF,uV 0,eS]) a (fun j _ _ a=>lP 0 0 (ic 0) a (fun _ a=>lL a ac (aE (lL a [.o (iv 0) 0 0 3,.v (.agg #[.bool (au 0),uV (lo (ab 0)),.string (hi (ab 0)),uV 0,eS]),.c] (lP 1 0 ([.bool (au 0),uV (lo (ab 0)),.string (hi (ab 0)),uV 0,eS]) a (fun _ a=>lL a ac (af a [(1,0,5)] (.tuple #[.agg #[.bool (au 0),uV (lo (ab 0)),.string (hi (ab 0)),uV 0,eS],qF]) (by unfold cF;rw[if_neg oM,if_neg oM,hq];exact congrArg (fun e=>Value.tuple #[e,qF]) (lj (d:=0) (Ka 0) (om (Kb 0)))))))))))))
 exact aq 38 a ((by have b:=n3 x oM _ _ a.g;rw[hq] at b;exact b)) (fun _ _ a=>lL a [.c,.v (iv z),.v qT] (lA 10 28 ([qF,uV 0,eS]) a (fun l _ _ a=>lP 0 0 (ic z) a (fun _ a=>lL a ac (aE (lL a [.o (iv z) 0 0 3,.v (.agg #[.bool (au z),uV (lo (ab z)),.string (hi (ab z)),uV 0,eS]),.c] (lP 1 0 ([.bool (au z),uV (lo (ab z)),.string (hi (ab z)),uV 0,eS]) a (fun _ a=>lL a ac (af a [(1,0,5)] (.tuple #[.agg #[.bool (au z),uV (lo (ab z)),.string (hi (ab z)),uV 0,eS],qT]) (by unfold cF;rw[if_neg oM,if_neg oM,hq];exact congrArg (fun e=>Value.tuple #[e,qT]) (lj (d:=0) (Ka z) (om (Kb z)))))))))))))
theorem gT {n:Nat}(h:n<=10^200):(lim n).length<=4000000000:=ed (du (k:=21) (y6 h kD)) kD
theorem dO {n:Nat}(h:n<=10^200*10^201):(lim n).length<=60:=du (y6 h kD)
theorem mR {n:Nat}(h:n<256):(lim n).length<=4000000000:=gT (ed (JO h) kD)
theorem lg (a:Nat)(A:Z9)(c:Nat)(f:(lim a).length<=c)(i:(lim a).length<=4000000000)(D:Z9)(d:Nat)(w:World)(h:Hp)(g:G w h)(b:S3 A (lim a) h)(j:S3 D [10] h)(e:1<=d:=by omega):CR 97 #[qS A (lim a).length c,qS D 1 d] w h (fun v h1=>RN h1 v (a*10)) :=
 i7 a A c f 10 D d e i (mR kD) w h g b j
theorem CN (a:Nat)(A:Z9)(c:Nat)(f:(lim a).length<=c)(b:Nat)(D:Z9)(d:Nat)(o:(lim b).length<=d)(s:Nat)(k:a+b=s)(i:(lim a).length<=4000000000)(e:(lim b).length<=4000000000)(w:World)(h:Hp)(g:G w h)(j:S3 A (lim a) h)(l:S3 D (lim b) h):CR 137 #[.slice A (lim a).length c,.slice D (lim b).length d] w h (fun v h1=>RN h1 v s):=by
 subst k;exact iw a A c f b D d o i e w h g j l
theorem Dl (i:Nat):10^2^i*10^2^i=10^2^(i+1):=by rw[<-Am,zy 2 i,Nat.mul_two]
theorem wq (n i:Nat):n%2^(i+1)=n%2^i+2^i*(n/2^i%2):=by rw[zy,Nat.mod_mul]
theorem BT (n i:Nat)(h:n/2^i%2=0):n%2^(i+1)=n%2^i:=by rw[wq,h,z6,ri]
theorem EW (n i:Nat)(h:n/2^i%2=1):10^(n%2^i)*10^2^i=10^(n%2^(i+1)):=by rw[wq,h,HA,Am]
theorem mX (x:ByteArray)(hx:x.size<=1000000)(w:World)(h:Hp)(g:G w h):CR 108 #[.string x] w h (fun v h1=>∃ v1,v=.tuple #[v1,.bool (bY x).isSome]/\RN h1 v1 ((bY x).getD 0)):=by
 have a:=sS g;refine go Tryz.func108 [(0,.string x)] rfl (aa a aF (ai (aa a [.c,.v (nV x.size)] ?_)));cases F:(decide ((x.size:Int)<(1:Int)))
 .
  have W:=oF F;refine lB 8 F (lL a [.c,.c,.v (nV x.size)] ?_);cases C:(decide ((200:Int)<(x.size:Int)))
  .
   have U:=oF C;refine lB 12 C (lL a [.v qF,.c,.c] (lV 16 (.int .u8 (ak x 0:Nat)) ?_ (hr:=aU (tx:=9) (x:=.tmp 15) (i:=.const (iV 0)) (k:=.i64) (s:=x) (n:=0) (j:=(0:Int)) kR kR kR kR oM oM _)));cases I:(((ak x 0:Nat):Int) == (48:Int))
   .
    have M:=ao I;refine lB 17 I (lL a ac (lG 19 ?_));refine lG 20 (lG 21 (lL a [.v qF,.v qF] (ah (cK (aa a ac (ai (aa a ac (bE ?_))))))));replace a:=a.aS ((SlO.nil:S3 none [] _));refine bG _ (CG.loop (fun K Γ w_=>∃ (j:Nat)(o:Z9)(b:Nat)(e:Hp),K=x.size-j/\Γ=[(0,.string x),(5,nV j),(4,qS o ((lim (dv x j)).length) b)]/\SS w h w_ e [] [] [S3 o (lim (dv x j))]/\j<=x.size/\(∀ i,i<j->48<=ak x i/\ak x i<=57)/\(lim (dv x j)).length<=b) _ ⟨0,none,0,h,rfl,rfl,a.to _ _,JH _,(fun i e=>absurd e oM),nR _⟩ ?_);rintro _ _ w4 ⟨j,o,b,h5,hm6,rfl,a,hj,p,u⟩;have O:=bh x j;have Q:=hC (x:=x) j p;have S:10^j<=10^200:=Aa kD oM;have J:=gT (show dv x j<=10^200 by omega);have y:(lim (dv x j*10)).length<=4000000000:=ed (dO (Jq (show dv x j<=10^200 by omega) kD)) kD;refine cQ (aa a [.c,.c,.v (nV x.size)] ?_);cases H:(decide ((j:Int)<(x.size:Int)))
    .
     have X:=oF H;refine lB 27 H (ah (CG.exit ?_))
     show CG _ _ _ _ _ _ _ _
     exact aa a dL (af a [] (.tuple #[qS o ((lim (dv x j)).length) b,qT]) (by have z:j=x.size:=oM;subst z;rw[gy oM oM oM p];exact ⟨_,rfl,o,b,rfl,u,a.f.1⟩))
    have X:=oT H;refine lB 27 H (aj (cK (cQ (kZ (cQ (aa a aF (lV 32 (.int .u8 (ak x j:Nat)) ?_ (hr:=aU (tx:=9) (x:=.tmp 30) (i:=.tmp 31) (k:=.i64) (s:=x) (n:=j) (j:=(j:Int)) kR kR kR kR oM oM _))))))));cases B:(decide (((ak x j:Nat):Int)<(48:Int)))
    .
     have V:=oF B;refine lB 33 B (lL a dL (lV 37 (.int .u8 (ak x j:Nat)) ?_ (hr:=aU (tx:=9) (x:=.tmp 35) (i:=.tmp 36) (k:=.i64) (s:=x) (n:=j) (j:=(j:Int)) kR kR kR kR oM oM _)));cases D:(decide ((57:Int)<((ak x j:Nat):Int)))
     .
      have L:=oF D;refine lB 38 D (lL a [.v qF] (ah (cK (cR 10 [] mixed a aw ?_))));refine eV 0 40 (qS o ((lim (dv x j)).length) b) (eV 3 43 (.string x) (eV 4 44 (nV j) (eV 5 45 (.int .u8 (ak x j:Nat)) ?_ (hv:=fun _=>aU (tx:=9) (x:=.tmp 43) (i:=.tmp 44) (k:=.i64) (s:=x) (n:=j) (j:=(j:Int)) kR kR kR kR oM oM _))));refine eV 6 46 (.int .u8 ((ak x j)-48:Nat)) ?_ (hv:=fun _=>aN (n:=IntKind.wrap .u8 (((ak x j:Nat):Int)-(48:Int))) kR (rF (ak x j) 48 oM oM));refine eV 7 47 (mV ((ak x j)-48)) ?_ (hv:=fun _=>rU ((((ak x j)-48:Nat):Int)) kR (az oM oM));refine eR 1 41 161 1 ([uW 10]) a (fun zB _ _ a=>?_);replace a:=a.aS (SlO.of_flat (sz:=1) (f:=aW) (d:=0) (l:=[10]) (fun _=>rfl) a.f.1);refine eC 2 42 a (fun _ _ a=>lg (dv x j) o b u J (sB zB) 1 _ _ a.g a.f.r.1 a.f.1) ?_;rintro _ _ _ _ _ a ⟨zD,zE,rfl,zn,zo⟩;replace a:=a.aS zo;refine eC 8 48 a (fun _ _ a=>eD (ak x j-48) oM _ _ a.g) ?_;rintro _ _ _ _ _ a ⟨zG,zH,rfl,zp,zq⟩;replace a:=a.aS zq;refine eC 9 49 a (fun _ _ a=>CN ((dv x j*10)) zD zE zn (ak x j-48) zG zH zp (dv x (j+1)) rfl y (mR oM) _ _ a.g a.f.2.1 a.f.1) ?_;rintro _ _ _ _ _ a ⟨zj,zk,rfl,zr,zs⟩;replace a:=a.aS zs;refine cG a (fun _ zI a=>tV 10 4 (qS zj ((lim (dv x (j+1))).length) zk) (tN (kQ (lL a ac (bg 29 ((j:Nat)+1) (j+1) ?_)))));refine lL a ac (lD ?_);intro a_ ka;replace a:=(a.tl.tl.tl.tl.tl.tl.aS a.f.1);refine ⟨_,_,?_,⟨j+1,zj,zk,zI,rfl,rfl,a.to _ _,oM,(fun i e=>by rcases Kl.1 e with e|rfl;exact p i e;omega),zr⟩,ka.to _ kR⟩
      omega
     have L:=oT D;exact lB 38 D (lL a [.v qT] (aj (aa a aF (af a [] (.tuple #[sZ,qF]) (by rw[ei (i:=j) oM oM];exact ⟨_,rfl,none,0,rfl,nR _,SlO.nil⟩)))))
    have V:=oT B;refine lB 33 B (lL a ac (lG 35 ?_));exact lG 36 (lG 37 (lG 38 (lL a [.v qT] (aj (aa a aF (af a [] (.tuple #[sZ,qF]) (by rw[ei (i:=j) oM oM];exact ⟨_,rfl,none,0,rfl,nR _,SlO.nil⟩)))))))
   have M:=eq_of_beq I;refine lB 17 I (lL a [.c,.c,.v (nV x.size)] ?_);cases Y:(decide ((1:Int)<(x.size:Int)))
   .
    have ze:=oF Y;refine lB 21 Y (lL a [.v qF,.v qF] (ah (cK (aa a ac (ai (aa a ac (bE ?_)))))));replace a:=a.aS ((SlO.nil:S3 none [] _));refine bG _ (CG.loop (fun K Γ w_=>∃ (j:Nat)(o:Z9)(b:Nat)(e:Hp),K=x.size-j/\Γ=[(0,.string x),(5,nV j),(4,qS o ((lim (dv x j)).length) b)]/\SS w h w_ e [] [] [S3 o (lim (dv x j))]/\j<=x.size/\(∀ i,i<j->48<=ak x i/\ak x i<=57)/\(lim (dv x j)).length<=b) _ ⟨0,none,0,h,rfl,rfl,a.to _ _,JH _,(fun i e=>absurd e oM),nR _⟩ ?_);rintro _ _ _ ⟨j,o,b,_,bb,rfl,a,hj,p,u⟩;have O:=bh x j;have Q:=hC (x:=x) j p;have S:10^j<=10^200:=Aa kD oM;have J:=gT (show dv x j<=10^200 by omega);have y:(lim (dv x j*10)).length<=4000000000:=ed (dO (Jq (show dv x j<=10^200 by omega) kD)) kD;refine cQ (aa a [.c,.c,.v (nV x.size)] ?_);cases zb:(decide ((j:Int)<(x.size:Int)))
    .
     have zf:=oF zb;refine lB 27 zb (ah (CG.exit ?_))
     show CG _ _ _ _ _ _ _ _
     exact aa a dL (af a [] (.tuple #[qS o ((lim (dv x j)).length) b,qT]) (by have z:j=x.size:=oM;subst z;rw[gy oM oM oM p];exact ⟨_,rfl,o,b,rfl,u,a.f.1⟩))
    have zf:=oT zb;refine lB 27 zb (aj (cK (cQ (kZ (cQ (aa a aF (lV 32 (.int .u8 (ak x j:Nat)) ?_ (hr:=aU (tx:=9) (x:=.tmp 30) (i:=.tmp 31) (k:=.i64) (s:=x) (n:=j) (j:=(j:Int)) kR kR kR kR oM oM _))))))));cases zc:(decide (((ak x j:Nat):Int)<(48:Int)))
    .
     have zg:=oF zc;refine lB 33 zc (lL a dL (lV 37 (.int .u8 (ak x j:Nat)) ?_ (hr:=aU (tx:=9) (x:=.tmp 35) (i:=.tmp 36) (k:=.i64) (s:=x) (n:=j) (j:=(j:Int)) kR kR kR kR oM oM _)));cases Z:(decide ((57:Int)<((ak x j:Nat):Int)))
     .
      have zi:=oF Z;refine lB 38 Z (lL a [.v qF] (ah (cK (cR 10 [] mixed a aw ?_))));refine eV 0 40 (qS o ((lim (dv x j)).length) b) (eV 3 43 (.string x) (eV 4 44 (nV j) (eV 5 45 (.int .u8 (ak x j:Nat)) ?_ (hv:=fun _=>aU (tx:=9) (x:=.tmp 43) (i:=.tmp 44) (k:=.i64) (s:=x) (n:=j) (j:=(j:Int)) kR kR kR kR oM oM _))));refine eV 6 46 (.int .u8 ((ak x j)-48:Nat)) ?_ (hv:=fun _=>aN (n:=IntKind.wrap .u8 (((ak x j:Nat):Int)-(48:Int))) kR (rF (ak x j) 48 oM oM));refine eV 7 47 (mV ((ak x j)-48)) ?_ (hv:=fun _=>rU ((((ak x j)-48:Nat):Int)) kR (az oM oM));refine eR 1 41 161 1 ([uW 10]) a (fun zJ _ _ a=>?_);replace a:=a.aS (SlO.of_flat (sz:=1) (f:=aW) (d:=0) (l:=[10]) (fun _=>rfl) a.f.1);refine eC 2 42 a (fun _ _ a=>lg (dv x j) o b u J (sB zJ) 1 _ _ a.g a.f.r.1 a.f.1) ?_;rintro _ _ _ _ _ a ⟨zK,zL,rfl,zt,zu⟩;replace a:=a.aS zu;refine eC 8 48 a (fun _ _ a=>eD (ak x j-48) oM _ _ a.g) ?_;rintro _ _ _ _ _ a ⟨zM,zN,rfl,zv,zw⟩;replace a:=a.aS zw;refine eC 9 49 a (fun _ _ a=>CN ((dv x j*10)) zK zL zt (ak x j-48) zM zN zv (dv x (j+1)) rfl y (mR oM) _ _ a.g a.f.2.1 a.f.1) ?_;rintro _ _ _ _ _ a ⟨zl,zm,rfl,zx,zA⟩;replace a:=a.aS zA;refine cG a (fun _ zP a=>tV 10 4 (qS zl ((lim (dv x (j+1))).length) zm) (tN (kQ (lL a ac (bg 29 ((j:Nat)+1) (j+1) ?_)))));refine lL a ac (lD ?_);intro a_ ka;replace a:=(a.tl.tl.tl.tl.tl.tl.aS a.f.1);refine ⟨_,_,?_,⟨j+1,zl,zm,zP,rfl,rfl,a.to _ _,oM,(fun i e=>by rcases Kl.1 e with e|rfl;exact p i e;omega),zx⟩,ka.to _ kR⟩
      omega
     have zi:=oT Z;exact lB 38 Z (lL a [.v qT] (aj (aa a aF (af a [] (.tuple #[sZ,qF]) (by rw[ei (i:=j) oM oM];exact ⟨_,rfl,none,0,rfl,nR _,SlO.nil⟩)))))
    have zg:=oT zc;refine lB 33 zc (lL a ac (lG 35 ?_));exact lG 36 (lG 37 (lG 38 (lL a [.v qT] (aj (aa a aF (af a [] (.tuple #[sZ,qF]) (by rw[ei (i:=j) oM oM];exact ⟨_,rfl,none,0,rfl,nR _,SlO.nil⟩)))))))
   have ze:=oT Y;exact lB 21 Y (lL a [.v qT,.v qT] (aj (aa a aF (af a [] (.tuple #[sZ,qF]) (by rw[fy oM];exact ⟨_,rfl,none,0,rfl,nR _,SlO.nil⟩)))))
  have U:=oT C;refine lB 12 C (lL a [.v qT,.c] (lG 15 ?_));exact lG 16 (lG 17 (lG 18 (lG 19 (lG 20 (lG 21 (lG 22 (lL a [.v qT] (aj (aa a aF (af a [] (.tuple #[sZ,qF]) (by rw[fy oM];exact ⟨_,rfl,none,0,rfl,nR _,SlO.nil⟩)))))))))))
 have W:=oT F;refine lB 8 F (lL a ac (lG 10 ?_));refine lG 11 (lG 12 (lL a [.v qT,.c] (lG 15 ?_)));exact lG 16 (lG 17 (lG 18 (lG 19 (lG 20 (lG 21 (lG 22 (lL a [.v qT] (aj (aa a aF (af a [] (.tuple #[sZ,qF]) (by rw[fy oM];exact ⟨_,rfl,none,0,rfl,nR _,SlO.nil⟩)))))))))))
theorem jH (n:Nat)(hn:n<=200)(D:Z9)(d:Nat)(hd:(lim 10).length<=d)(w:World)(h:Hp)(g:G w h)(hD:S3 D (lim 10) h):CR 199 #[.slice D 1 d,nV n] w h (fun v h1=>RN h1 v (10^n)):=by
 have c:=((sS g).aS hD);refine go Tryz.func199 [(0,qS D 1 d),(1,nV n)] rfl (aa c ac (aE (lC 6 c (eD 1 kD _ _ c.g) ?_)));rintro _ w5 h6 c ⟨A1,c2,rfl,Y,W⟩;replace c:=c.aS W;refine lL c ac (ai (kZ ?_));replace c:=c.aS c.f.2.1;replace c:=c.aS c.f.2.1;refine bG _ (CG.loop (fun U Γ w_=>∃ (i:Nat)(m:Nat)(p:Nat)(q:Nat)(B:Z9)(C:Nat)(l:Z9)(z:Nat)(I:Hp),U=m/\Γ=[(4,sZ),(1,nV m),(5,qS B ((lim p).length) C),(0,qS l ((lim q).length) z)]/\SS w h w_ I [] [] [S3 B (lim p),S3 l (lim q),S3 A1 (lim 1),S3 D (lim 10)]/\m=n/2^i/\p=10^(n%2^i)/\q=10^2^i/\(lim p).length<=C/\(lim q).length<=z) _ ⟨0,n,1,10,A1,c2,D,d,h6,rfl,rfl,c.to _ _,(by rw[JI,Nat.div_one]),(by rw[JI,Nat.mod_one]),rfl,Y,hd⟩ ?_);rintro _ _ w7 ⟨i,m,p,q,B,C,l,z,h8,hm9,rfl,c,Q,K,M,H,e⟩;have Z:=Nat.mod_le n (2^i);have bb:m<=n:=by rw[Q];exact y7 _ _
 have o:n/2^(i+1)=m/2:=by rw[Q,zy,Bs]
 have J:0<m->2^i<=n:=fun I=>by rcases co n (2^i) with h2_|h2_;(rw[Q,y9 h2_] at I;omega);exact h2_
 have X:(lim p).length<=4000000000:=by rw[K];exact gT (Aa kD oM)
 have F:0<m->(lim q).length<=4000000000:=fun I=>by rw[M];exact gT (Aa kD (by have:=J I;omega))
 refine cQ (aa c ac ?_);cases O:(decide ((0:Int)<(m:Int)))
 .
  have zc:=oF O;refine lB 8 O (ah (CG.exit ?_))
  show CG _ _ _ _ _ _ _ _
  exact aa c aF (af c [] (qS B ((lim p).length) C) (by have V:n%2^i=n:=tv (by rcases co n (2^i) with h2_|h2_;exact h2_;have:=Nat.div_pos h2_ (Nat.two_pow_pos i);omega);rw[<-V,<-K];exact ⟨B,C,rfl,H,c.f.1⟩))
 have zc:=oT O;refine lB 8 O (aj (cK (kZ (cQ ?_))));have j:=F oM;refine aa c ac (lV 10 (nV (m%2)) ?_ (hr:=aN (dV (t:=3) (u:=3) (x:=.tmp 9) (y:=.const (iV 2)) (k:=.i64) (a:=(m:Int)) (b:=(2:Int)) kR kR kR oM _) (cM m 2)));cases L:(((m%2:Nat):Int) == (1:Int))
 .
  have zd:=ao L;refine lB 11 L (ah (cK (aa c aF (lC 17 c (i7 q l z e q l z e j j _ _ c.g c.f.2.1 c.f.2.1) ?_))));rintro _ _ zl c ⟨zm,zn,rfl,ze,zf⟩;replace c:=c.aS zf;refine lL c ac (lN (kQ (lL c ac (lV 19 (nV (m/2)) ?_ (hr:=aN (cZ (t:=3) (u:=3) (x:=.tmp 18) (y:=.const (iV 2)) (k:=.i64) (a:=(m:Int)) (b:=(2:Int)) kR kR kR oM _) (dh m 2 oM))))));refine lL c ac (lD ?_);intro a_ S;replace c:=((c.tl.tl.tl.aS c.f.1).aS c.f.2.1);refine ⟨_,_,?_,⟨i+1,m/2,p,q*q,B,C,zm,zn,zl,rfl,rfl,c.to _ _,o.symm,(by rw[K];rw[BT n i oM]),(by rw[M];exact Dl i),H,ze⟩,S.to _ kR⟩
  omega
 have zd:=eq_of_beq L;refine lB 11 L (aj (kQ (lL c aF (lC 14 c (i7 p B C H q l z e X j _ _ c.g c.f.1 c.f.2.1) ?_))));rintro _ _ _ c ⟨zo,zp,rfl,zg,zi⟩;replace c:=c.aS zi;refine lL c ac (aE (lL c aF (lC 17 c (i7 q l z e q l z e j j _ _ c.g c.f.r.1 c.f.r.1) ?_)));rintro _ _ zq c ⟨zr,zs,rfl,zj,zk⟩;replace c:=c.aS zk;refine lL c ac (lN (kQ (lL c ac (lV 19 (nV (m/2)) ?_ (hr:=aN (cZ (t:=3) (u:=3) (x:=.tmp 18) (y:=.const (iV 2)) (k:=.i64) (a:=(m:Int)) (b:=(2:Int)) kR kR kR oM _) (dh m 2 oM))))));refine lL c ac (lD ?_);intro a_ S;replace c:=((c.tl.tl.tl.tl.aS c.f.1).aS c.f.2.1);refine ⟨_,_,?_,⟨i+1,m/2,p*q,q*q,zo,zp,zr,zs,zq,rfl,rfl,c.to _ _,o.symm,(by rw[K,M];exact EW n i oM),(by rw[M];exact Dl i),zg,zj⟩,S.to _ kR⟩
 omega
def gN:Nat->Tm->Tm
  | 0,t=>t
  | c+1,t=>fQ 7 (gN c t)
def ug (c:Nat):PR->PR
  | .ok t b=>.ok (gN c t) b
  | .err b=>.err b
theorem wK (c:Nat)(t:Tm):gN c (fQ 7 t)=fQ 7 (gN c t):=by
 induction c with
 | zero=>rfl
 | succ c ih=>show fQ 7 (gN c (fQ 7 t))=_;rw[ih];rfl
theorem Fg (r:PR):ug 0 r=r:=by cases r<;>rfl
theorem tA (c:Nat)(r:PR):ug c (ug 1 r)=ug (c+1) r:=by
 cases r with
 | err b=>rfl
 | ok t b=>show PR.ok (gN c (fQ 7 t)) b=_;rw[wK];rfl
theorem oX (r:PR):(∃ b,r=.err b)\/∃ t b,r=.ok t b:=by
 cases r with
 | err b=>exact .inl ⟨b,rfl⟩
 | ok t b=>exact .inr ⟨t,b,rfl⟩
theorem vy {nf bf:ByteArray->Option Rat}{s:ByteArray}{n a:Nat}{r:PR}(h:bn nf bf s (n+1) .sign a=some r)(c:ak s (sk s a)=45):∃ d,bn nf bf s n .sign (sk s a+1)=some d/\r=ug 1 d:=by
 unfold bn at h;rw[if_pos c] at h
 rcases cJ h with ⟨b,e1,e2⟩|⟨t,b,e1,e2⟩
 ·exact ⟨_,e1,e2⟩
 ·injection e2 with e2;exact ⟨_,e1,e2.symm⟩
theorem qD {nf bf:ByteArray->Option Rat}{s:ByteArray}{n a:Nat}{r:PR}(h:bn nf bf s (n+1) .sign a=some r)(c:ak s (sk s a)≠45):bn nf bf s n .pow (sk s a)=some r:=by
 unfold bn at h;rw[if_neg c] at h;exact h
theorem Fn {k:Nat}(h:0<k)(a:k<1000):(lim k).length=1/\(lim k).getD ((lim k).length-1) 0=k:=by
 have e:=cu k;have p:=(@bI k).2 h;have l:(lim k).length<=1:=du (k:=1) (ep a kD)
 match hl:lim k,p,l with
 | [x],_,_=>rw[hl] at e;exact ⟨rfl,by simpa [am] using e⟩
theorem Bg (k:Nat)(A:Z9)(c:Nat)(F:(lim k).length<=c)(H:(lim k).length=1)(C:(lim k).getD ((lim k).length-1) 0=k)(D:k<1000)(w:World)(h:Hp)(g:G w h)(B:S3 A (lim k) h):CV 109 #[.slice A ((lim k).length) c] w h (.tuple #[mV k,.bool true]):=by
 have d:=((sS g).aS B);refine go Tryz.func109 [(0,qS A ((lim k).length) c)] rfl (aa d aF (aE (lL d ac (ai (aa d [.c,.v (nV ((lim k).length))] (lI 8 (((lim k).length:Nat)-1) ?_))))));refine lL d ac (bE (cU ?_));refine cN (cQ (aa d ac ?_));have ⟨i,l⟩:=dT (p:=(0:Int)<=(((lim k).length:Nat)-1:Int)) oM;refine lB 10 i (aj (cK (cQ (kZ (cQ (aa d ac ?_))))));have ⟨e,o⟩:=dF (p:=(1:Int)<(((lim k).length:Nat)-1:Int)) oM;refine lB 14 e (ah (cK (kQ (lL d [.c,.v (mV 0),.c,.c] (lX 19 A ((lim k).length) c 1 (((lim k).length:Nat)-1) (((lim k).length)-1) ((d.f.1).ok oM) ?_)))));refine lH 20 (mW ((lim k).getD (((lim k).length)-1) 0)) d ((d.f.1).el (((lim k).length)-1) oM) (lV 21 (mV ((lim k).getD (((lim k).length)-1) 0)) ?_ (hr:=rU ((((lim k).getD (((lim k).length)-1) 0:Nat):Int)) kR (az oM oM)));refine lV 22 (mV k) ?_ (hr:=aN (gl (t:=24) (u:=24) (x:=.tmp 16) (y:=.tmp 21) (a:=0) (b:=((lim k).getD (((lim k).length)-1) 0:Nat)) kR kR kR oM oM _) (by exact congrArg Int.ofNat ((Nat.zero_or _).trans C)));refine lL d ac (lN (kQ (lL d ac (lI 12 ((((lim k).length:Nat)-1)-1) ?_))));refine lL d ac (lD (CL.to [(0,qS A ((lim k).length) c),(2,uV 0),(3,qF),(4,mV k),(5,iV ((((lim k).length:Nat)-1)-1)),(9,iV (((lim k).length:Nat)-1)),(10,qT),(13,iV (((lim k).length:Nat)-1)),(14,qF),(15,uV 0),(16,mV 0),(17,qS A ((lim k).length) c),(18,iV (((lim k).length:Nat)-1)),(19,.pointer (some ⟨(aB A),aO A+(((lim k).length)-1)*1,none⟩)),(20,mW ((lim k).getD (((lim k).length)-1) 0)),(21,mV ((lim k).getD (((lim k).length)-1) 0)),(22,mV k),(11,iV (((lim k).length:Nat)-1)),(12,iV ((((lim k).length:Nat)-1)-1))] ?_));replace d:=d.to [] [];refine cN (cQ (aa d ac ?_));have ⟨j,z⟩:=dF (p:=(0:Int)<=((((lim k).length:Nat)-1)-1:Int)) oM;refine lB 10 j (ah (CG.exit ?_))
 show CG _ _ _ _ _ _ _ _
 exact aa d dL (af d [] (.tuple #[mV k,qT]) rfl)
theorem AD (A:Z9)(c:Nat)(w:World)(h:Hp)(g:G w h):CV 109 #[.slice A 0 c] w h (.tuple #[uV 0,.bool true]):=by
 have a:=sS g;refine go Tryz.func109 [(0,qS A 0 c)] rfl (aa a aF (aE (lL a ac (ai (aa a [.c,.v (iV 0),.v (iV (-1)),.c] (bE (cU ?_)))))));refine cN (cQ (aa a [.c,.v qF] (ah (CG.exit ?_))))
 show CG _ _ _ _ _ _ _ _
 exact aa a dL (af a [] (.tuple #[uV 0,qT]) rfl)
theorem sq (k:Nat)(a:k<1000)(A:Z9)(c:Nat)(i:(lim k).length<=c)(w:World)(h:Hp)(g:G w h)(b:S3 A (lim k) h):CV 109 #[.slice A (lim k).length c] w h (.tuple #[mV k,.bool true]):=by
 rcases Nat.eq_zero_or_pos k with rfl|p
 ·have e:(lim 0).length=0:=by have:=@bI 0;omega
  rw[e];exact AD A c w h g
 ·obtain ⟨d,f⟩:=Fn p a
  exact Bg k A c i d f a w h g b
theorem pY  (rb:Nat)(s:ByteArray)(k:s.size<=1000000)(a:Nat)(ha:a<=s.size)(c:Nat)(z:c≠0)(w:World)(h:Hp)(g:G w h)(C:Own w rb 67 [.string s,nV a,iV (-1)])(B:h[rb]?=some junk)(D:Tab h):Calls Tryz.prog 132 #[pB rb,.int .u8 (c:Nat)] w (bW rb w h fun v w' _=>(v=.tuple #[]/\ak s (sk s a)=c/\(sk s a)<s.size/\Own w' rb 67 [.string s,nV ((sk s a)+1),iV (-1)])\/(v=.tuple #[]/\ak s (sk s a)≠c/\Own w' rb 67 [.string s,nV s.size,nV (sk s a)])):=by
 have d:UpM [rb] w h w h:=UpM.refl g;obtain ⟨wz,x,b⟩:=SS.at_ g C B;replace b:=(b.add (K:=fun F=>Tab F) D);refine go Tryz.func132 [(0,pB rb),(1,.int .u8 (c:Nat))] rfl (aa b aF ?_);have p:=bB (s:=s) (a:=a) oM;refine bj 6 (iK rb s k a ha c z _ _ b.g (b.own 0) (b.jk 0) b.f.1) ?_;rintro _ w2 I l (⟨rfl,i,u,e⟩|⟨rfl,i,e⟩)
 .
  replace b:=(b.stepM 0 l e).to [⟨rb,67,[.string s,nV (sk s a+1),iV (-1)]⟩] [];replace d:=d.trans l;refine lL b [.v qF] (ah (CG.skip ?_));exact b.retM d [] (.tuple #[]) (.inl ⟨rfl,by assumption,by assumption,b.own 0⟩)
 replace b:=(b.stepM 0 l e).to [⟨rb,67,[.string s,nV (sk s a),iV (-1)]⟩] [];replace d:=d.trans l;refine lL b [.v qT] (aj (kQ (lL b [.c,.c,.v (pB rb),.v (qP rb 1),.o (nV (sk s a)) 0 1 1] (bj 13 (fd rb s k (sk s a) oM (sk s a) _ _ b.g (b.own 0) (b.jk 0) b.f.1) ?_))));rintro _ J H y ⟨rfl,j⟩;replace b:=(b.stepM 0 y j).to [⟨rb,67,[.string s,nV s.size,nV (sk s a)]⟩] [];replace d:=d.trans y;exact lD (b.retM d [] (.tuple #[]) (.inr ⟨rfl,by assumption,b.own 0⟩))
theorem f6  (rb:Nat)(s:ByteArray)(i:s.size<=1000000)(d:Nat)(c:Nat)(w:World)(h:Hp)(g:G w h)(x:Own w rb 67 [.string s,nV s.size,nV d])(u:h[rb]?=some junk)(y:Tab h):Calls Tryz.prog 132 #[pB rb,.int .u8 (c:Nat)] w (bW rb w h fun v w' _=>v=.tuple #[]/\Own w' rb 67 [.string s,nV s.size,nV d]):=by
 have b:UpM [rb] w h w h:=UpM.refl g;obtain ⟨wz,k,a⟩:=SS.at_ g x u;replace a:=(a.add (K:=fun z=>Tab z) y);refine go Tryz.func132 [(0,pB rb),(1,.int .u8 (c:Nat))] rfl (aa a aF (bj 6 (dJ rb s i d c _ _ a.g (a.own 0) (a.jk 0) a.f.1) ?_));rintro _ w2 C l ⟨rfl,j⟩;replace a:=(a.stepM 0 l j).to [⟨rb,67,[.string s,nV s.size,nV d]⟩] [];replace b:=b.trans l;refine lL a [.v qT] (aj (kQ (lL a [.c,.c,.v (pB rb),.v (qP rb 1),.o (nV s.size) 0 1 1] (bj 13 (ER rb s i d s.size _ _ a.g (a.own 0) (a.jk 0) a.f.1) ?_))));rintro _ D B p ⟨rfl,e⟩;replace a:=(a.stepM 0 p e).to [⟨rb,67,[.string s,nV s.size,nV d]⟩] [];replace b:=b.trans p;exact lD (a.retM b [] (.tuple #[]) (⟨rfl,a.own 0⟩))
theorem Ga  (O:Ce 35)(rb:Nat)(s:ByteArray)(z:s.size<=1000000)(j:Nat)(w:World)(h:Hp)(g:G w h)(H:Own w rb 67 [.string s,nV s.size,nV j])(F:h[rb]?=some junk)(L:Tab h):Calls Tryz.prog 16 #[pB rb] w (bW rb w h fun v w' _=>∃ x:RTm,v=aY x/\Own w' rb 67 [.string s,nV s.size,nV j]):=by
 have a:UpM [rb] w h w h:=UpM.refl g;obtain ⟨wz,C,b⟩:=SS.at_ g H F;replace b:=(b.add (K:=fun M=>Tab M) L);refine go Tryz.func16 [(0,pB rb)] rfl (aG (fe 2 47 (ax ⟨0,0,false,none,0,0,none,0,0,⟨#[]⟩,none,0,0⟩) b (fun D w2 V I e b=>?_)));replace e:=ed a.gr.size e;replace a:=a.trans (I.m _);refine aE (lL b ac (bj 5 (O rb s z j _ _ b.g (b.own 1) (b.jk 1) b.f.1) ?_));rintro _ S Q B ⟨i,rfl,k⟩;replace b:=(b.stepM 1 B k).to [⟨D,47,ax ⟨0,0,false,none,0,0,none,0,0,⟨#[]⟩,none,0,0⟩⟩,⟨rb,67,[.string s,nV s.size,nV j]⟩] [];replace a:=a.trans B;refine fe 3 47 (ax ⟨0,0,false,none,0,0,none,0,0,⟨#[]⟩,none,0,0⟩) b (fun U _ _ u d b=>?_);replace d:=ed a.gr.size d;replace a:=a.trans (u.m _);refine ce 0 0 (ax i) b (fun _ l b=>?_);replace a:=a.put2 l d g b.g;refine ai (kZ (cU ?_));refine cN (cQ (aa b [.c,.v (pB rb),.v (qP rb 2),.o (nV j) 2 2 1] ?_));have ⟨J,y⟩:=dF (p:=(j:Int)<(0:Int)) oM;refine lB 10 J (ah (CG.exit ?_))
 show CG _ _ _ _ _ _ _ _
 refine aa b [.o (aY i) 0 0 7] (ce 1 0 (ax i) b (fun _ l b=>?_));replace a:=a.put2 l e g b.g;exact lN (kX (b.retM a [(1,0,7)] (aY i) (⟨_,rfl,b.own 2⟩)))
theorem ud  (O:Ce 55)(rb:Nat)(s:ByteArray)(z:s.size<=1000000)(j:Nat)(w:World)(h:Hp)(g:G w h)(H:Own w rb 67 [.string s,nV s.size,nV j])(F:h[rb]?=some junk)(L:Tab h):Calls Tryz.prog 35 #[pB rb] w (bW rb w h fun v w' _=>∃ x:RTm,v=aY x/\Own w' rb 67 [.string s,nV s.size,nV j]):=by
 have a:UpM [rb] w h w h:=UpM.refl g;obtain ⟨wz,C,b⟩:=SS.at_ g H F;replace b:=(b.add (K:=fun M=>Tab M) L);refine go Tryz.func35 [(0,pB rb)] rfl (aG (fe 2 47 (ax ⟨0,0,false,none,0,0,none,0,0,⟨#[]⟩,none,0,0⟩) b (fun D w2 V I e b=>?_)));replace e:=ed a.gr.size e;replace a:=a.trans (I.m _);refine aE (lL b ac (bj 5 (O rb s z j _ _ b.g (b.own 1) (b.jk 1) b.f.1) ?_));rintro _ S Q B ⟨i,rfl,k⟩;replace b:=(b.stepM 1 B k).to [⟨D,47,ax ⟨0,0,false,none,0,0,none,0,0,⟨#[]⟩,none,0,0⟩⟩,⟨rb,67,[.string s,nV s.size,nV j]⟩] [];replace a:=a.trans B;refine fe 3 47 (ax ⟨0,0,false,none,0,0,none,0,0,⟨#[]⟩,none,0,0⟩) b (fun U _ _ u d b=>?_);replace d:=ed a.gr.size d;replace a:=a.trans (u.m _);refine ce 0 0 (ax i) b (fun _ l b=>?_);replace a:=a.put2 l d g b.g;refine ai (kZ (cU ?_));refine cN (cQ (aa b [.c,.v (pB rb),.v (qP rb 2),.o (nV j) 2 2 1] ?_));have ⟨J,y⟩:=dF (p:=(j:Int)<(0:Int)) oM;refine lB 10 J (ah (CG.exit ?_))
 show CG _ _ _ _ _ _ _ _
 refine aa b [.o (aY i) 0 0 7] (ce 1 0 (ax i) b (fun _ l b=>?_));replace a:=a.put2 l e g b.g;exact lN (kX (b.retM a [(1,0,7)] (aY i) (⟨_,rfl,b.own 2⟩)))
theorem As  (M:Ce 82)(rb:Nat)(s:ByteArray)(u:s.size<=1000000)(j:Nat)(w:World)(h:Hp)(g:G w h)(H:Own w rb 67 [.string s,nV s.size,nV j])(F:h[rb]?=some junk)(J:Tab h):Calls Tryz.prog 55 #[pB rb] w (bW rb w h fun v w' _=>∃ x:RTm,v=aY x/\Own w' rb 67 [.string s,nV s.size,nV j]):=by
 have b:UpM [rb] w h w h:=UpM.refl g;obtain ⟨wz,D,a⟩:=SS.at_ g H F;replace a:=(a.add (K:=fun L=>Tab L) J);refine go Tryz.func55 [(0,pB rb)] rfl (aG (fe 2 47 (ax ⟨0,0,false,none,0,0,none,0,0,⟨#[]⟩,none,0,0⟩) a (fun C w2 U I e a=>?_)));replace e:=ed b.gr.size e;replace b:=b.trans (I.m _);refine aE (lL a ac (ai (kZ (cU ?_))));refine cN (cQ (aa a ac (bj 7 (dJ rb s u j 45 _ _ a.g (a.own 1) (a.jk 1) a.f.1) ?_)));rintro _ S Q B ⟨rfl,k⟩;replace a:=(a.stepM 1 B k).to [⟨C,47,ax ⟨0,0,false,none,0,0,none,0,0,⟨#[]⟩,none,0,0⟩⟩,⟨rb,67,[.string s,nV s.size,nV j]⟩] [];replace b:=b.trans B;refine ah (CG.exit ?_)
 show CG _ _ _ _ _ _ _ _
 refine aa a ac (bj 11 (M rb s u j _ _ a.g (a.own 1) (a.jk 1) a.f.1) ?_);rintro _ _ _ l ⟨i,rfl,p⟩;replace a:=(a.stepM 1 l p).to [⟨C,47,ax ⟨0,0,false,none,0,0,none,0,0,⟨#[]⟩,none,0,0⟩⟩,⟨rb,67,[.string s,nV s.size,nV j]⟩] [];replace b:=b.trans l;refine fe 4 47 (ax ⟨0,0,false,none,0,0,none,0,0,⟨#[]⟩,none,0,0⟩) a (fun O _ _ z d a=>?_);replace d:=ed b.gr.size d;replace b:=b.trans (z.m _);refine ce 0 0 (ax i) a (fun _ y a=>?_);replace b:=b.put2 y d g a.g;refine ai (aa a ac (bE (cU ?_)));refine cN (cQ (aa a [.c,.c,.v qF] (ah (CG.exit ?_))))
 show CG _ _ _ _ _ _ _ _
 refine aa a [.o (aY i) 0 0 7] (ce 1 0 (ax i) a (fun _ y a=>?_));replace b:=b.put2 y e g a.g;exact lN (kX (a.retM b [(1,0,7)] (aY i) (⟨_,rfl,a.own 2⟩)))
theorem Cq  (M:Ce 107)(rb:Nat)(s:ByteArray)(l:s.size<=1000000)(j:Nat)(w:World)(h:Hp)(g:G w h)(F:Own w rb 67 [.string s,nV s.size,nV j])(D:h[rb]?=some junk)(I:Tab h):Calls Tryz.prog 82 #[pB rb] w (bW rb w h fun v w' _=>∃ x:RTm,v=aY x/\Own w' rb 67 [.string s,nV s.size,nV j]):=by
 have a:UpM [rb] w h w h:=UpM.refl g;obtain ⟨wz,C,b⟩:=SS.at_ g F D;replace b:=(b.add (K:=fun L=>Tab L) I);refine go Tryz.func82 [(0,pB rb)] rfl (aG (fe 2 47 (ax ⟨0,0,false,none,0,0,none,0,0,⟨#[]⟩,none,0,0⟩) b (fun B w2 S H d b=>?_)));replace d:=ed a.gr.size d;replace a:=a.trans (H.m _);refine aE (lL b ac (bj 11 (M rb s l j _ _ b.g (b.own 1) (b.jk 1) b.f.1) ?_));rintro _ Q O z ⟨e,rfl,k⟩;replace b:=(b.stepM 1 z k).to [⟨B,47,ax ⟨0,0,false,none,0,0,none,0,0,⟨#[]⟩,none,0,0⟩⟩,⟨rb,67,[.string s,nV s.size,nV j]⟩] [];replace a:=a.trans z;refine fe 3 47 (ax ⟨0,0,false,none,0,0,none,0,0,⟨#[]⟩,none,0,0⟩) b (fun J _ _ y c b=>?_);replace c:=ed a.gr.size c;replace a:=a.trans (y.m _);refine ce 0 0 (ax e) b (fun _ u b=>?_);replace a:=a.put2 u c g b.g;refine ai (aa b ac (bj 13 (dJ rb s l j 94 _ _ b.g (b.own 2) (b.jk 2) b.f.1) ?_));rintro _ _ _ p ⟨rfl,i⟩;replace b:=(b.stepM 2 p i).to [⟨J,47,ax e⟩,⟨B,47,ax ⟨0,0,false,none,0,0,none,0,0,⟨#[]⟩,none,0,0⟩⟩,⟨rb,67,[.string s,nV s.size,nV j]⟩] [];replace a:=a.trans p;refine lL b [.v qT] (aj (aa b [.o (aY e) 0 0 7] (ce 1 0 (ax e) b (fun _ u b=>?_))));replace a:=a.put2 u d g b.g;exact lN (kX (b.retM a [(1,0,7)] (aY e) (⟨_,rfl,b.own 2⟩)))
theorem EO  (rb:Nat)(s:ByteArray)(B:s.size<=1000000)(e:Nat)(w:World)(h:Hp)(g:G w h)(l:Own w rb 67 [.string s,nV s.size,nV e])(k:h[rb]?=some junk)(z:Tab h):Calls Tryz.prog 107 #[pB rb] w (bW rb w h fun v w' _=>∃ x:RTm,v=aY x/\Own w' rb 67 [.string s,nV s.size,nV e]):=by
 have b:UpM [rb] w h w h:=UpM.refl g;obtain ⟨wz,j,d⟩:=SS.at_ g l k;replace d:=(d.add (K:=fun C=>Tab C) z);refine go Tryz.func107 [(0,pB rb)] rfl (aG (fe 2 47 (ax ⟨0,0,false,none,0,0,none,0,0,⟨#[]⟩,none,0,0⟩) d (fun D w2 H y a d=>?_)));replace a:=ed b.gr.size a;replace b:=b.trans (y.m _);refine ai (aa d [.c,.v (pB rb),.v (qP rb 2),.o (nV e) 1 2 1] ?_);have ⟨f,i⟩:=dT (p:=(0:Int)<=(e:Int)) oM;refine lB 14 f (aj (aa d [.v (aY ⟨0,0,false,none,0,0,none,0,0,⟨#[]⟩,none,0,0⟩)] (ce 0 0 (ax ⟨0,0,false,none,0,0,none,0,0,⟨#[]⟩,none,0,0⟩) d (fun F u d=>?_))));replace b:=b.put2 u a g d.g;exact lN (kX (d.retM b [(0,0,7)] (aY ⟨0,0,false,none,0,0,none,0,0,⟨#[]⟩,none,0,0⟩) (⟨_,rfl,d.own 1⟩)))
theorem Ck:Ce 107:=fun rb s a d w h g c e b=>EO rb s a d w h g c e b
theorem Ap:Ce 82:=fun rb s a d w h g c e b=>Cq Ck rb s a d w h g c e b
theorem tG:Ce 55:=fun rb s a d w h g c e b=>As Ap rb s a d w h g c e b
theorem q6:Ce 35:=fun rb s a d w h g c e b=>ud tG rb s a d w h g c e b
theorem nx:Ce 16:=fun rb s a d w h g c e b=>Ga q6 rb s a d w h g c e b
section
variable {nf bf:ByteArray->Option Rat}(n:Nat)
theorem AK  (hp:∀ m,m<=n->RC nf bf 82 m .pow)(rb:Nat)(s:ByteArray)(X:s.size<=1000000)(a:Nat)(ha:a<=s.size)(r:PR)(hq:bn nf bf s (n+1) .sign a=some r)(w:World)(h:Hp)(g:G w h)(ho:Own w rb 67 [.string s,nV a,iV (-1)])(hj:h[rb]?=some junk)(tb:Tab h):Calls Tryz.prog 55 #[pB rb] w (bW rb w h (DD rb s r)):=by
 have d:UpM [rb] w h w h:=UpM.refl g;obtain ⟨wz,B,b⟩:=SS.at_ g ho hj;replace b:=(b.add (K:=fun l=>Tab l) tb);refine go Tryz.func55 [(0,pB rb)] rfl (aG (fe 2 47 (ax ⟨0,0,false,none,0,0,none,0,0,⟨#[]⟩,none,0,0⟩) b (fun H w2 h3 u4 p b=>?_)));replace p:=ed d.gr.size p;replace d:=d.trans (u4.m _);refine aE (lL b ac (ai (kZ ?_)));refine bG _ (CG.loop (fun D Γ M=>∃ (m:Nat)(k:Nat)(c:Nat)(r1:PR)(l:Hp),D=m/\Γ=[(0,pB rb),(2,pB H),(3,nV c)]/\SS wz B M l [⟨H,47,ax ⟨0,0,false,none,0,0,none,0,0,⟨#[]⟩,none,0,0⟩⟩,⟨rb,67,[.string s,nV k,iV (-1)]⟩] [] [fun l=>Tab l]/\m<=n+1/\UpM [rb] w h M l/\bn nf bf s m .sign k=some r1/\r=ug c r1/\k<=s.size/\c<=k) _ ⟨(n+1),a,0,r,h3,rfl,rfl,b.to _ _,nR _,d,hq,(Fg r).symm,ha,JH _⟩ ?_);rintro _ _ w5 ⟨m,k,c,r1,h6,hm7,rfl,b,hm,d,W,Q,hk,hck⟩;obtain ⟨m1,rfl⟩:=ik W;have bm:=bB (s:=s) (a:=k) hk;have bq:=eF s k;refine cQ (aa b ac ?_);have bd:=bB (s:=s) (a:=k) oM;refine bj 7 (iK rb s X k oM 45 kD _ _ b.g (b.own 1) (b.jk 1) b.f.1) ?_;rintro _ w9 zg I (⟨rfl,C,bl,F⟩|⟨rfl,C,F⟩)
 .
  replace b:=(b.stepM 1 I F).to [⟨H,47,ax ⟨0,0,false,none,0,0,none,0,0,⟨#[]⟩,none,0,0⟩⟩,⟨rb,67,[.string s,nV (sk s k+1),iV (-1)]⟩] [];replace d:=d.trans I;obtain ⟨r2,hq2,hr2⟩:=vy W C;refine aj (cK (kZ (kQ (lL b ac (bg 9 ((c:Nat)+1) (c+1) ?_)))));refine lL b ac (lD ?_);intro a_ Z;refine ⟨_,_,?_,⟨m1,sk s k+1,c+1,r2,zg,rfl,rfl,b.to _ _,oM,d,hq2,(by rw[Q,hr2,tA]),oM,oM⟩,Z.to _ kR⟩
  omega
 replace b:=(b.stepM 1 I F).to [⟨H,47,ax ⟨0,0,false,none,0,0,none,0,0,⟨#[]⟩,none,0,0⟩⟩,⟨rb,67,[.string s,nV (sk s k),iV (-1)]⟩] [];replace d:=d.trans I;have hqp:=qD W C;refine ah (CG.exit ?_)
 show CG _ _ _ _ _ _ _ _
 refine aa b ac ?_
 rcases oX r1 with ⟨be,rfl⟩|⟨t1,y1,rfl⟩
 .
  refine bj 11 (hp m1 oM rb s X (sk s k) oM (.err be) hqp _ _ b.g (b.own 1) (b.jk 1) b.f.1) ?_;rintro _ _ _ u21 ⟨L,rfl,U⟩;replace b:=(b.stepM 1 u21 U).to [⟨H,47,ax ⟨0,0,false,none,0,0,none,0,0,⟨#[]⟩,none,0,0⟩⟩,⟨rb,67,[.string s,nV s.size,nV be]⟩] [];replace d:=d.trans u21;refine fe 4 47 (ax ⟨0,0,false,none,0,0,none,0,0,⟨#[]⟩,none,0,0⟩) b (fun ze _ zi u25 j b=>?_);replace j:=ed d.gr.size j;replace d:=d.trans (u25.m _);refine ce 0 0 (ax L) b (fun _ z b=>?_);replace d:=d.put2 z j g b.g;refine ai (aa b ac (bE ?_));refine bG _ (CG.loop (fun D Γ M=>∃ (i:Nat)(x:RTm)(l:Hp),D=c-i/\Γ=[(2,pB H),(3,nV c),(4,pB ze),(5,nV i)]/\SS wz B M l [⟨ze,47,ax x⟩,⟨H,47,ax ⟨0,0,false,none,0,0,none,0,0,⟨#[]⟩,none,0,0⟩⟩,⟨rb,67,[.string s,nV s.size,nV be]⟩] [] [fun l=>Tab l]/\i<=c/\UpM [rb] w h M l) _ ⟨0,L,zi,rfl,rfl,b.to _ _,JH _,d⟩ ?_);rintro _ _ _ ⟨i,x,_,bp,rfl,b,hi,d⟩;refine cQ (aa b aF ?_);cases za:(decide ((i:Int)<(c:Int)))
  .
   have zc:=oF za;refine lB 14 za (ah (CG.exit ?_))
   show CG _ _ _ _ _ _ _ _
   refine aa b [.o (aY x) 0 0 7] (ce 1 0 (ax x) b (fun _ z b=>?_));replace d:=d.put2 z p g b.g;exact lN (kX (b.retM d [(1,0,7)] (aY x) ((by rw[Q];exact ⟨_,rfl,b.own 2⟩))))
  have zc:=oT za;refine lB 14 za (aj (cK (cQ (kZ (kQ (lL b [.o (aY x) 0 0 7] (d7 18 (Hf 7 x _ _ b.g) ?_)))))));rintro _ _ zj u35 ⟨J,rfl⟩;replace d:=d.trans (u35.m _);replace b:=b.step u35;refine ce 0 0 (ax J) b (fun _ z b=>?_);replace d:=d.put2 z j g b.g;refine lN (kQ (lL b ac (bg 16 ((i:Nat)+1) (i+1) ?_)));refine lL b ac (lD ?_);intro a_ Z;refine ⟨_,_,?_,⟨i+1,J,zj,rfl,rfl,b.to _ _,oM,d⟩,Z.to _ kR⟩
  omega
 refine bj 11 (hp m1 oM rb s X (sk s k) oM (.ok t1 y1) hqp _ _ b.g (b.own 1) (b.jk 1) b.f.1) ?_;rintro _ _ _ Y ⟨u,rfl,bk,O,V⟩;replace b:=(b.stepM 1 Y O).to [⟨H,47,ax ⟨0,0,false,none,0,0,none,0,0,⟨#[]⟩,none,0,0⟩⟩,⟨rb,67,[.string s,nV y1,iV (-1)]⟩] [];replace d:=d.trans Y;replace b:=(b.add (K:=fun l=>RtH l u t1) V);refine fe 4 47 (ax ⟨0,0,false,none,0,0,none,0,0,⟨#[]⟩,none,0,0⟩) b (fun zf _ zk u46 e b=>?_);replace e:=ed d.gr.size e;replace d:=d.trans (u46.m _);refine ce 0 0 (ax u) b (fun _ z b=>?_);replace d:=d.put2 z e g b.g;refine ai (aa b ac (bE ?_));replace b:=b.add (K:=fun l=>RtH l u (gN 0 t1)) (b.f.1);refine bG _ (CG.loop (fun D Γ M=>∃ (i:Nat)(x:RTm)(l:Hp),D=c-i/\Γ=[(2,pB H),(3,nV c),(4,pB zf),(5,nV i)]/\SS wz B M l [⟨zf,47,ax x⟩,⟨H,47,ax ⟨0,0,false,none,0,0,none,0,0,⟨#[]⟩,none,0,0⟩⟩,⟨rb,67,[.string s,nV y1,iV (-1)]⟩] [] [fun l=>RtH l x (gN i t1),fun l=>RtH l u t1,fun l=>Tab l]/\i<=c/\UpM [rb] w h M l) _ ⟨0,u,zk,rfl,rfl,b.to _ _,JH _,d⟩ ?_);rintro _ _ _ ⟨i,x,_,br,rfl,b,hi,d⟩;refine cQ (aa b aF ?_);cases zb:(decide ((i:Int)<(c:Int)))
 .
  have zd:=oF zb;refine lB 14 zb (ah (CG.exit ?_))
  show CG _ _ _ _ _ _ _ _
  refine aa b [.o (aY x) 0 0 7] (ce 1 0 (ax x) b (fun _ z b=>?_));replace d:=d.put2 z p g b.g;refine lN (kX ?_);have bb:i=c:=by omega
  exact b.retM d [(1,0,7)] (aY x) ((by rw[Q,<-bb];exact ⟨_,rfl,by omega,b.own 2,b.f.1⟩))
 have zd:=oT zb;refine lB 14 zb (aj (cK (cQ (kZ (kQ (lL b [.o (aY x) 0 0 7] (d7 18 (Hr 7 x (gN i t1) _ _ b.g b.f.1) ?_)))))));rintro _ _ zl u56 ⟨y,rfl,S⟩;replace d:=d.trans (u56.m _);replace b:=b.step u56;replace b:=(b.add (K:=fun l=>RtH l y (gN (i+1) t1)) S);refine ce 0 0 (ax y) b (fun _ z b=>?_);replace d:=d.put2 z e g b.g;refine lN (kQ (lL b ac (bg 16 ((i:Nat)+1) (i+1) ?_)));refine lL b ac (lD ?_);intro a_ Z;replace b:=(b.tl.tl.add (K:=fun l=>RtH l y (gN (i+1) t1)) b.f.1);refine ⟨_,_,?_,⟨i+1,y,zl,rfl,rfl,b.to _ _,oM,d⟩,Z.to _ kR⟩
 omega
end
theorem cW (x:ByteArray)(c:Nat)(d:x.size<=1000000)(a:bY x=some c)(w:World)(h:Hp)(g:G w h):CR 108 #[.string x] w h (fun v h1=>∃ b,v=.tuple #[b,.bool true]/\RN h1 b c):=by
 have q:=mX x d w h g;rw[a] at q;exact q
theorem cV (x:ByteArray)(c:x.size<=1000000)(a:bY x=none)(w:World)(h:Hp)(g:G w h):CR 108 #[.string x] w h (fun v h1=>∃ b,v=.tuple #[b,.bool false]/\RN h1 b 0):=by
 have q:=mX x c w h g;rw[a] at q;exact q
theorem io (n:Nat):bD false n=(n:Int):=rfl
theorem gh (w:World)(h:Hp)(g:G w h):CR 168 #[iV 0] w h (fun v h1=>RQ h1 v 0):=I4 0 kD kD w h g
theorem mt (x:ByteArray)(hx:x.size<=1000000)(w:World)(h:Hp)(g:G w h):CR 167 #[.string x] w h (fun v h1=>∃ L,v=.tuple #[L,.bool (ej x).isSome]/\RI h1 L ((ej x).getD 0)):=by
 have a:=sS g;refine go Tryz.func167 [(0,.string x)] rfl (aG (lA 2 42 ([qF,sZ]) a (fun b1 w2 h3 a=>lL a ac (aE (lL a [.c,.v (nV x.size)] ?_)))));cases e:(decide ((0:Int)<(x.size:Int)))
 .
  have o:=oF e;refine lB 9 e (lL a ac (lG 11 ?_));refine lG 12 (lG 13 (lL a [.v qF,.c] (ai (aa a ac (ah (cK (aa a ac ?_)))))))
  rcases hk:bY x with _|k
  .
   refine lC 20 a (cV x (by first|omega|(rw[ByteArray.size_extract];omega)) hk _ _ a.g) ?_;rintro _ w9 _ a ⟨_,rfl,A5,c6,rfl,hc7,y⟩;replace a:=a.aS y;refine lL a [.c,.v (qS A5 ((lim 0).length) c6),.v qF,.c,.c] (ai (aa a [.c,.v qT,.c] (lG 26 ?_)));exact lG 27 (lG 28 (lG 29 (lG 30 (lG 31 (lL a [.v qT] (aj (aa a [.v (.agg #[qF,sZ])] (lP 0 0 ([qF,sZ]) a (fun _ a=>lL a ac (af a [(0,0,2)] (.tuple #[.agg #[qF,sZ],qF]) (by rw[dW (show ak x 0≠45 by first|omega|(rw[cw oM];decide)),hk];exact ⟨_,rfl,none,0,rfl,nR _,SlO.nil⟩)))))))))))
  refine lC 20 a (cW x k (by first|omega|(rw[ByteArray.size_extract];omega)) hk _ _ a.g) ?_;rintro _ _ _ a ⟨_,rfl,M,Q,rfl,V,zs⟩;replace a:=a.aS zs;have l:=@bI k;have b:=cv hk;have d:=gT (JO b);refine lL a [.c,.v (qS M ((lim k).length) Q),.v qT,.c,.c] (ai (aa a [.c,.v qF,.c,.c,.c] (lG 28 ?_)));refine lG 29 (lG 30 (lL a [.v qF,.v qF] (ah (cK (aa a aF (lC 36 a (rI false k M Q V _ _ a.g a.f.1) ?_))))));rintro _ _ _ a ⟨B,H,rfl,zt,zu⟩;replace a:=a.aS zu;exact lP 0 0 ([.bool (au (bD false k)),qS B ((lim (ab (bD false k))).length) H]) a (fun _ a=>lL a ac (af a [(0,0,2)] (.tuple #[.agg #[.bool (au (bD false k)),qS B ((lim (ab (bD false k))).length) H],qT]) (by rw[dW (show ak x 0≠45 by first|omega|(rw[cw oM];decide)),hk];exact ⟨_,rfl,_,_,rfl,zt,a.f.1⟩)))
 have o:=oT e;refine lB 9 e (lL a aF (lV 12 (.int .u8 (ak x 0:Nat)) ?_ (hr:=aU (tx:=9) (x:=.tmp 11) (i:=.const (iV 0)) (k:=.i64) (s:=x) (n:=0) (j:=(0:Int)) kR kR kR kR oM oM _)));cases u:(((ak x 0:Nat):Int) == (45:Int))
 .
  have zc:=ao u;refine lB 13 u (lL a [.v qF,.c] (ai (aa a ac (ah (cK (aa a ac ?_))))))
  rcases hk:bY x with _|k
  .
   refine lC 20 a (cV x (by first|omega|(rw[ByteArray.size_extract];omega)) hk _ _ a.g) ?_;rintro _ _ _ a ⟨_,rfl,zJ,W,rfl,O,X⟩;replace a:=a.aS X;refine lL a [.c,.v (qS zJ ((lim 0).length) W),.v qF,.c,.c] (ai (aa a [.c,.v qT,.c] (lG 26 ?_)));exact lG 27 (lG 28 (lG 29 (lG 30 (lG 31 (lL a [.v qT] (aj (aa a [.v (.agg #[qF,sZ])] (lP 0 0 ([qF,sZ]) a (fun _ a=>lL a ac (af a [(0,0,2)] (.tuple #[.agg #[qF,sZ],qF]) (by rw[dW (show ak x 0≠45 by first|omega|(rw[cw oM];decide)),hk];exact ⟨_,rfl,none,0,rfl,nR _,SlO.nil⟩)))))))))))
  refine lC 20 a (cW x k (by first|omega|(rw[ByteArray.size_extract];omega)) hk _ _ a.g) ?_;rintro _ _ _ a ⟨_,rfl,F,J,rfl,zw,zx⟩;replace a:=a.aS zx;have l:=@bI k;have b:=cv hk;have d:=gT (JO b);refine lL a [.c,.v (qS F ((lim k).length) J),.v qT,.c,.c] (ai (aa a [.c,.v qF,.c,.c,.c] (lG 28 ?_)));refine lG 29 (lG 30 (lL a [.v qF,.v qF] (ah (cK (aa a aF (lC 36 a (rI false k F J zw _ _ a.g a.f.1) ?_))))));rintro _ _ _ a ⟨I,D,rfl,zA,zB⟩;replace a:=a.aS zB;exact lP 0 0 ([.bool (au (bD false k)),qS I ((lim (ab (bD false k))).length) D]) a (fun _ a=>lL a ac (af a [(0,0,2)] (.tuple #[.agg #[.bool (au (bD false k)),qS I ((lim (ab (bD false k))).length) D],qT]) (by rw[dW (show ak x 0≠45 by first|omega|(rw[cw oM];decide)),hk];exact ⟨_,rfl,_,_,rfl,zA,a.f.1⟩)))
 have zc:=eq_of_beq u;refine lB 13 u (lL a [.v qT,.c] (ai (aa a ac (aj (kQ (lL a ac (lV 17 (.string (x.extract 1 x.size)) ?_ (hr:=fF (tx:=9) (x:=.tmp 16) (i:=.const (iV 1)) (k:=.i64) (s:=x) (n:=1) (j:=(1:Int)) kR kR kR kR oM oM _))))))));refine lL a ac (aE (lL a ac ?_))
 rcases hk:bY (x.extract 1 x.size) with _|k
 .
  refine lC 20 a (cV (x.extract 1 x.size) (by first|omega|(rw[ByteArray.size_extract];omega)) hk _ _ a.g) ?_;rintro _ _ _ a ⟨_,rfl,Y,zM,rfl,C,zD⟩;replace a:=a.aS zD;refine lL a [.c,.v (qS Y ((lim 0).length) zM),.v qF,.c,.c] (ai (aa a [.c,.v qT,.c] (lG 26 ?_)));exact lG 27 (lG 28 (lG 29 (lG 30 (lG 31 (lL a [.v qT] (aj (aa a [.v (.agg #[qF,sZ])] (lP 0 0 ([qF,sZ]) a (fun _ a=>lL a ac (af a [(0,0,2)] (.tuple #[.agg #[qF,sZ],qF]) (by rw[dP (show ak x 0=45 by omega) (.inl hk)];exact ⟨_,rfl,none,0,rfl,nR _,SlO.nil⟩)))))))))))
 refine lC 20 a (cW (x.extract 1 x.size) k (by first|omega|(rw[ByteArray.size_extract];omega)) hk _ _ a.g) ?_;rintro _ _ _ a ⟨_,rfl,U,K,rfl,zE,Z⟩;replace a:=a.aS Z;have l:=@bI k;have b:=cv hk;have d:=gT (JO b);refine lL a [.c,.v (qS U ((lim k).length) K),.v qT,.c,.c] (ai (aa a [.c,.v qF,.c,.c,.c,.c,.v (nV ((lim k).length))] ?_));cases p:((((lim k).length:Nat):Int) == (0:Int))
 .
  have zd:=ao p;refine lB 30 p (lL a [.v qF,.v qF] (ah (cK (aa a aF (lC 36 a (rI true k U K zE _ _ a.g a.f.1) ?_)))));rintro _ _ _ a ⟨S,z,rfl,zH,zI⟩;replace a:=a.aS zI;exact lP 0 0 ([.bool (au (bD true k)),qS S ((lim (ab (bD true k))).length) z]) a (fun _ a=>lL a ac (af a [(0,0,2)] (.tuple #[.agg #[.bool (au (bD true k)),qS S ((lim (ab (bD true k))).length) z],qT]) (by rw[k8 (show ak x 0=45 by omega) hk oM];exact ⟨_,rfl,_,_,rfl,zH,a.f.1⟩)))
 have zd:=eq_of_beq p;exact lB 30 p (lL a [.v qT,.v qT] (aj (aa a [.v (.agg #[qF,sZ])] (lP 0 0 ([qF,sZ]) a (fun _ a=>lL a ac (af a [(0,0,2)] (.tuple #[.agg #[qF,sZ],qF]) (by rw[dP (show ak x 0=45 by omega) (.inr (by rw[hk,show k=0 by omega]))];exact ⟨_,rfl,none,0,rfl,nR _,SlO.nil⟩)))))))
theorem k6 (x:ByteArray)(c:Int)(d:x.size<=1000000)(a:ej x=some c)(w:World)(h:Hp)(g:G w h):CR 167 #[.string x] w h (fun v h1=>∃ b,v=.tuple #[b,.bool true]/\RI h1 b c):=by
 have q:=mt x d w h g;rw[a] at q;exact q
theorem lr (x:ByteArray)(c:x.size<=1000000)(a:ej x=none)(w:World)(h:Hp)(g:G w h):CR 167 #[.string x] w h (fun v h1=>∃ b,v=.tuple #[b,.bool false]/\RI h1 b 0):=by
 have q:=mt x c w h g;rw[a] at q;exact q
theorem xr (x y:ByteArray)(hx:x.size<=1000000)(hy:y.size<=1000000)(w:World)(h:Hp)(g:G w h):CR 170 #[.string x,.string y] w h (fun v h1=>∃ v1,v=.tuple #[v1,.bool (fL x y).isSome]/\RQ h1 v1 ((fL x y).getD 0)):=by
 have a:=sS g;refine go Tryz.func170 [(0,.string x),(1,.string y)] rfl (aG (lA 4 44 ([qF,sZ,sZ]) a (fun b1 w2 h3 a=>lL a ac (aE (lL a [.c,.v (nV x.size)] ?_)))));cases M:(decide ((0:Int)<(x.size:Int)))
 .
  have ht:=oF M;refine lB 12 M (lL a ac (lG 14 ?_));refine lG 15 (lG 16 (lL a [.v qF,.c] (ai (aa a ac (ah (cK (aa a ac ?_)))))))
  rcases hk:bY x with _|k
  .
   refine lC 23 a (cV x (by first|omega|(rw[ByteArray.size_extract];omega)) hk _ _ a.g) ?_;rintro _ w9 _ a ⟨_,rfl,A5,c6,rfl,hc7,hA8⟩;replace a:=a.aS hA8;refine lL a [.c,.v (qS A5 ((lim 0).length) c6),.v qF,.c,.c] (ai (aa a [.c,.v qT,.c] (lG 29 ?_)));refine lG 30 (lG 31 (lL a [.v qT,.c] (lG 34 ?_)));refine lG 35 (lG 36 (lL a [.v qT] (aj (aG (lC 38 a (gh _ _ a.g) ?_)))));rintro _ _ _ a ⟨A11,c12,A15,c16,rfl,hh,df,d0,c7⟩;replace a:=a.aP d0 c7;exact lP 0 0 (gA (0:Rat) A11 c12 A15 c16) a (fun _ a=>lL a ac (af a [(0,0,3)] (.tuple #[rG (0:Rat) A11 c12 A15 c16,qF]) (by rw[iJ (if_neg (show ak x 0≠45 by first|omega|(rw[cw oM];decide))) hk];exact ⟨_,rfl,⟨_,_,_,_,rfl,hh,df,a.f.2.1,a.f.1⟩⟩)))
  refine lC 23 a (cW x k (by first|omega|(rw[ByteArray.size_extract];omega)) hk _ _ a.g) ?_;rintro _ _ h27 a ⟨_,rfl,zt,c23,rfl,c5,h8⟩;replace a:=a.aS h8;have Q:=@bI k;have b:=cv hk;have I:=gT (JO b);refine lL a [.c,.v (qS zt ((lim k).length) c23),.v qT,.c,.c] (ai (aa a [.c,.v qF,.c,.c,.v (nV y.size)] ?_));cases zm:(decide ((y.size:Int)<(1:Int)))
  .
   have Zm:=oF zm;refine lB 31 zm (lL a [.v qF,.c,.c,.v (nV y.size)] ?_);cases zn:(decide ((200:Int)<(y.size:Int)))
   .
    have Zn:=oF zn;refine lB 36 zn (lL a [.v qF] (ah (cK (cQ (aa a ac (bE ?_))))));replace a:=a.aS a.f.1;refine bG _ (CG.loop (fun J Γ w_=>∃ (j:Nat)(V:Nat)(u:Z9)(p:Nat)(o:Hp),J=y.size-j/\Γ=[(1,.string y),(4,pB b1),(6,qF),(9,nV j),(7,qS u ((lim V).length) p)]/\SS w h w_ o [⟨b1,44,[qF,sZ,sZ]⟩] [] [S3 u (lim V),S3 zt (lim k)]/\j<=y.size/\(∀ i,i<j->48<=ak y i/\ak y i<=57)/\V=k*10^j+dv y j/\(lim V).length<=p) _ ⟨0,k,zt,c23,h27,rfl,rfl,a.to _ _,JH _,(fun i o=>absurd o oM),(by rw[JI,HA];rfl),c5⟩ ?_);rintro _ _ _ ⟨j,V,u,p,_,k4,rfl,a,hj,e,K,C⟩;have O:=bh y j;have z:=hC (x:=y) j e;have S:V<10^200*10^200:=by rw[K];exact jN b oM z
    have H:=dO (n:=V) oM;have L:(lim V).length<=4000000000:=by omega
    have D:(lim (V*10)).length<=4000000000:=by have:=dO (n:=V*10) oM;omega
    have B:V*10+(ak y j-48)=k*10^(j+1)+dv y (j+1):=by rw[K,zy];show _=k*(10^j*10)+(dv y j*10+(ak y j-48));rw[I6,zY];omega
    refine cQ (aa a [.c,.c,.v (nV y.size)] ?_);cases zo:(decide ((j:Int)<(y.size:Int)))
    .
     have Zo:=oF zo;refine lB 42 zo (ah (CG.exit ?_))
     show CG _ _ _ _ _ _ _ _
     refine aa a aF (lC 68 a (rI false V u p C _ _ a.g a.f.1) ?_);rintro _ _ _ a ⟨A34,c35,rfl,c3,ch⟩;replace a:=a.aS ch;refine lR 69 161 1 ([uW 10]) a (fun b40 _ _ a=>?_);replace a:=a.aS (SlO.of_flat (sz:=1) (f:=aW) (d:=0) (l:=[10]) (fun _=>rfl) a.f.1);refine lL a [.c,.v (nV y.size)] (lC 72 a (jH y.size oM (sB b40) 1 (show (lim 10).length<=1 from nR _) _ _ a.g a.f.1) ?_);rintro _ _ _ a ⟨A45,c46,rfl,fz,fn⟩;replace a:=a.aS fn;refine lC 73 a (rI false (10^y.size) A45 c46 fz _ _ a.g a.f.1) ?_;rintro _ _ _ a ⟨A51,c52,rfl,cy,b9⟩;replace a:=a.aS b9;refine lC 74 a (sn (bD false V) A34 c35 c3 (by rw[cd];omega) (bD false (10^y.size)) A51 c52 cy (by rw[cd];exact ed (dO (ed (Aa kD (show y.size<=200 by omega)) kD)) kD) (by rw[io];exact KA (KB.2 (A8 kD))) _ _ a.g a.f.q.1 a.f.1) ?_;rintro _ _ _ a ⟨A57,c58,A61,c62,rfl,d2,h4,b2,cx⟩;replace a:=a.aP b2 cx;exact lP 0 0 (gA (og (bD false V) (bD false (10^y.size))) A57 c58 A61 c62) a (fun _ a=>lL a ac (af a [(0,0,3)] (.tuple #[rG (og (bD false V) (bD false (10^y.size))) A57 c58 A61 c62,qT]) (by have F:j=y.size:=oM;subst F;rw[gL (if_neg (show ak x 0≠45 by first|omega|(rw[cw oM];decide))) (decide_eq_false (show ak x 0≠45 by first|omega|(rw[cw oM];decide))) hk oM oM e,<-K,<-iU];exact ⟨_,rfl,⟨_,_,_,_,rfl,d2,h4,a.f.2.1,a.f.1⟩⟩)))
    have Zo:=oT zo;refine lB 42 zo (aj (cK (cQ (kZ (cQ (aa a aF (lV 47 (.int .u8 (ak y j:Nat)) ?_ (hr:=aU (tx:=9) (x:=.tmp 45) (i:=.tmp 46) (k:=.i64) (s:=y) (n:=j) (j:=(j:Int)) kR kR kR kR oM oM _))))))));cases zp:(decide (((ak y j:Nat):Int)<(48:Int)))
    .
     have Zp:=oF zp;refine lB 48 zp (lL a dL (lV 52 (.int .u8 (ak y j:Nat)) ?_ (hr:=aU (tx:=9) (x:=.tmp 50) (i:=.tmp 51) (k:=.i64) (s:=y) (n:=j) (j:=(j:Int)) kR kR kR kR oM oM _)));cases zq:(decide ((57:Int)<((ak y j:Nat):Int)))
     .
      have Zq:=oF zq;refine lB 53 zq (lL a [.v qF] (ah (cK (cR 10 [] mixed a aw ?_))));refine eV 0 56 (qS u ((lim V).length) p) (eV 3 59 (.string y) (eV 4 60 (nV j) (eV 5 61 (.int .u8 (ak y j:Nat)) ?_ (hv:=fun _=>aU (tx:=9) (x:=.tmp 59) (i:=.tmp 60) (k:=.i64) (s:=y) (n:=j) (j:=(j:Int)) kR kR kR kR oM oM _))));refine eV 6 62 (.int .u8 ((ak y j)-48:Nat)) ?_ (hv:=fun _=>aN (n:=IntKind.wrap .u8 (((ak y j:Nat):Int)-(48:Int))) kR (rF (ak y j) 48 oM oM));refine eV 7 63 (mV ((ak y j)-48)) ?_ (hv:=fun _=>rU ((((ak y j)-48:Nat):Int)) kR (az oM oM));refine eR 1 57 161 1 ([uW 10]) a (fun b70 _ _ a=>?_);replace a:=a.aS (SlO.of_flat (sz:=1) (f:=aW) (d:=0) (l:=[10]) (fun _=>rfl) a.f.1);refine eC 2 58 a (fun _ _ a=>lg V u p C L (sB b70) 1 _ _ a.g a.f.r.1 a.f.1) ?_;rintro _ _ _ _ _ a ⟨A75,c76,rfl,j1,h6⟩;replace a:=a.aS h6;refine eC 8 64 a (fun _ _ a=>eD (ak y j-48) oM _ _ a.g) ?_;rintro _ _ _ _ _ a ⟨A81,c82,rfl,hl,kq⟩;replace a:=a.aS kq;refine eC 9 65 a (fun _ _ a=>iw (V*10) A75 c76 j1 (ak y j-48) A81 c82 hl D (mR oM) _ _ a.g a.f.2.1 a.f.1) ?_;rintro _ _ _ _ _ a ⟨A87,c88,rfl,ds,hn⟩;replace a:=a.aS hn;refine cG a (fun _ h94 a=>tV 10 7 (qS A87 ((lim (V*10+(ak y j-48))).length) c88) (tN (kQ (lL a ac (bg 44 ((j:Nat)+1) (j+1) ?_)))));refine lL a ac (lD ?_);intro a_ ka;replace a:=(a.tl.tl.tl.tl.tl.tl.aS a.f.1);refine ⟨_,_,?_,⟨j+1,(V*10+(ak y j-48)),A87,c88,h94,rfl,rfl,a.to _ _,oM,(fun i o=>by rcases Kl.1 o with o|rfl;exact e i o;omega),B,ds⟩,ka.to _ kR⟩
      omega
     have Zq:=oT zq;refine lB 53 zq (lL a [.v qT] (aj (aG (lC 55 a (gh _ _ a.g) ?_))));rintro _ _ _ a ⟨zu,zv,zw,zx,rfl,Zr,Zs,Zt,Zu⟩;replace a:=a.aP Zt Zu;exact lP 0 0 (gA (0:Rat) zu zv zw zx) a (fun _ a=>lL a ac (af a [(0,0,3)] (.tuple #[rG (0:Rat) zu zv zw zx,qF]) (by rw[dX (i:=j) oM oM];exact ⟨_,rfl,⟨_,_,_,_,rfl,Zr,Zs,a.f.2.1,a.f.1⟩⟩)))
    have Zp:=oT zp;refine lB 48 zp (lL a ac (lG 50 ?_));refine lG 51 (lG 52 (lG 53 (lL a [.v qT] (aj (aG (lC 55 a (gh _ _ a.g) ?_))))));rintro _ _ _ a ⟨zA,zB,zD,zE,rfl,Zv,Zw,Zx,ZA⟩;replace a:=a.aP Zx ZA;exact lP 0 0 (gA (0:Rat) zA zB zD zE) a (fun _ a=>lL a ac (af a [(0,0,3)] (.tuple #[rG (0:Rat) zA zB zD zE,qF]) (by rw[dX (i:=j) oM oM];exact ⟨_,rfl,⟨_,_,_,_,rfl,Zv,Zw,a.f.2.1,a.f.1⟩⟩)))
   have Zn:=oT zn;refine lB 36 zn (lL a [.v qT] (aj (aG (lC 38 a (gh _ _ a.g) ?_))));rintro _ _ _ a ⟨zG,zH,zI,zJ,rfl,ZB,ZC,ZD,ZE⟩;replace a:=a.aP ZD ZE;exact lP 0 0 (gA (0:Rat) zG zH zI zJ) a (fun _ a=>lL a ac (af a [(0,0,3)] (.tuple #[rG (0:Rat) zG zH zI zJ,qF]) (by rw[ff (if_neg (show ak x 0≠45 by first|omega|(rw[cw oM];decide))) hk oM];exact ⟨_,rfl,⟨_,_,_,_,rfl,ZB,ZC,a.f.2.1,a.f.1⟩⟩)))
  have Zm:=oT zm;refine lB 31 zm (lL a [.v qT,.c] (lG 34 ?_));refine lG 35 (lG 36 (lL a [.v qT] (aj (aG (lC 38 a (gh _ _ a.g) ?_)))));rintro _ _ _ a ⟨zK,zL,zM,zN,rfl,ZF,ZG,ZH,ZI⟩;replace a:=a.aP ZH ZI;exact lP 0 0 (gA (0:Rat) zK zL zM zN) a (fun _ a=>lL a ac (af a [(0,0,3)] (.tuple #[rG (0:Rat) zK zL zM zN,qF]) (by rw[ff (if_neg (show ak x 0≠45 by first|omega|(rw[cw oM];decide))) hk oM];exact ⟨_,rfl,⟨_,_,_,_,rfl,ZF,ZG,a.f.2.1,a.f.1⟩⟩)))
 have ht:=oT M;refine lB 12 M (lL a aF (lV 15 (.int .u8 (ak x 0:Nat)) ?_ (hr:=aU (tx:=9) (x:=.tmp 14) (i:=.const (iV 0)) (k:=.i64) (s:=x) (n:=0) (j:=(0:Int)) kR kR kR kR oM oM _)));cases za:(((ak x 0:Nat):Int) == (45:Int))
 .
  have zP:=ao za;refine lB 16 za (lL a [.v qF,.c] (ai (aa a ac (ah (cK (aa a ac ?_))))))
  rcases hk:bY x with _|k
  .
   refine lC 23 a (cV x (by first|omega|(rw[ByteArray.size_extract];omega)) hk _ _ a.g) ?_;rintro _ _ _ a ⟨_,rfl,cm,hd,rfl,kt,ZJ⟩;replace a:=a.aS ZJ;refine lL a [.c,.v (qS cm ((lim 0).length) hd),.v qF,.c,.c] (ai (aa a [.c,.v qT,.c] (lG 29 ?_)));refine lG 30 (lG 31 (lL a [.v qT,.c] (lG 34 ?_)));refine lG 35 (lG 36 (lL a [.v qT] (aj (aG (lC 38 a (gh _ _ a.g) ?_)))));rintro _ _ _ a ⟨zQ,zR,zS,zU,rfl,ZK,ZL,ZM,ZN⟩;replace a:=a.aP ZM ZN;exact lP 0 0 (gA (0:Rat) zQ zR zS zU) a (fun _ a=>lL a ac (af a [(0,0,3)] (.tuple #[rG (0:Rat) zQ zR zS zU,qF]) (by rw[iJ (if_neg (show ak x 0≠45 by first|omega|(rw[cw oM];decide))) hk];exact ⟨_,rfl,⟨_,_,_,_,rfl,ZK,ZL,a.f.2.1,a.f.1⟩⟩)))
  refine lC 23 a (cW x k (by first|omega|(rw[ByteArray.size_extract];omega)) hk _ _ a.g) ?_;rintro _ _ d1 a ⟨_,rfl,zr,zW,rfl,ZO,ZP⟩;replace a:=a.aS ZP;have Q:=@bI k;have b:=cv hk;have I:=gT (JO b);refine lL a [.c,.v (qS zr ((lim k).length) zW),.v qT,.c,.c] (ai (aa a [.c,.v qF,.c,.c,.v (nV y.size)] ?_));cases zb:(decide ((y.size:Int)<(1:Int)))
  .
   have zX:=oF zb;refine lB 31 zb (lL a [.v qF,.c,.c,.v (nV y.size)] ?_);cases zc:(decide ((200:Int)<(y.size:Int)))
   .
    have ya:=oF zc;refine lB 36 zc (lL a [.v qF] (ah (cK (cQ (aa a ac (bE ?_))))));replace a:=a.aS a.f.1;refine bG _ (CG.loop (fun J Γ w_=>∃ (j:Nat)(V:Nat)(u:Z9)(p:Nat)(o:Hp),J=y.size-j/\Γ=[(1,.string y),(4,pB b1),(6,qF),(9,nV j),(7,qS u ((lim V).length) p)]/\SS w h w_ o [⟨b1,44,[qF,sZ,sZ]⟩] [] [S3 u (lim V),S3 zr (lim k)]/\j<=y.size/\(∀ i,i<j->48<=ak y i/\ak y i<=57)/\V=k*10^j+dv y j/\(lim V).length<=p) _ ⟨0,k,zr,zW,d1,rfl,rfl,a.to _ _,JH _,(fun i o=>absurd o oM),(by rw[JI,HA];rfl),ZO⟩ ?_);rintro _ _ _ ⟨j,V,u,p,_,k1,rfl,a,hj,e,K,C⟩;have O:=bh y j;have z:=hC (x:=y) j e;have S:V<10^200*10^200:=by rw[K];exact jN b oM z
    have H:=dO (n:=V) oM;have L:(lim V).length<=4000000000:=by omega
    have D:(lim (V*10)).length<=4000000000:=by have:=dO (n:=V*10) oM;omega
    have B:V*10+(ak y j-48)=k*10^(j+1)+dv y (j+1):=by rw[K,zy];show _=k*(10^j*10)+(dv y j*10+(ak y j-48));rw[I6,zY];omega
    refine cQ (aa a [.c,.c,.v (nV y.size)] ?_);cases zd:(decide ((j:Int)<(y.size:Int)))
    .
     have yb:=oF zd;refine lB 42 zd (ah (CG.exit ?_))
     show CG _ _ _ _ _ _ _ _
     refine aa a aF (lC 68 a (rI false V u p C _ _ a.g a.f.1) ?_);rintro _ _ _ a ⟨cz,hb,rfl,ZQ,ZR⟩;replace a:=a.aS ZR;refine lR 69 161 1 ([uW 10]) a (fun dk _ _ a=>?_);replace a:=a.aS (SlO.of_flat (sz:=1) (f:=aW) (d:=0) (l:=[10]) (fun _=>rfl) a.f.1);refine lL a [.c,.v (nV y.size)] (lC 72 a (jH y.size oM (sB dk) 1 (show (lim 10).length<=1 from nR _) _ _ a.g a.f.1) ?_);rintro _ _ _ a ⟨dc,c4,rfl,ZS,ZT⟩;replace a:=a.aS ZT;refine lC 73 a (rI false (10^y.size) dc c4 ZS _ _ a.g a.f.1) ?_;rintro _ _ _ a ⟨h5,b5,rfl,ZU,ZV⟩;replace a:=a.aS ZV;refine lC 74 a (sn (bD false V) cz hb ZQ (by rw[cd];omega) (bD false (10^y.size)) h5 b5 ZU (by rw[cd];exact ed (dO (ed (Aa kD (show y.size<=200 by omega)) kD)) kD) (by rw[io];exact KA (KB.2 (A8 kD))) _ _ a.g a.f.q.1 a.f.1) ?_;rintro _ _ _ a ⟨yc,yd,ye,yf,rfl,ZW,ZX,Ya,Yb⟩;replace a:=a.aP Ya Yb;exact lP 0 0 (gA (og (bD false V) (bD false (10^y.size))) yc yd ye yf) a (fun _ a=>lL a ac (af a [(0,0,3)] (.tuple #[rG (og (bD false V) (bD false (10^y.size))) yc yd ye yf,qT]) (by have F:j=y.size:=oM;subst F;rw[gL (if_neg (show ak x 0≠45 by first|omega|(rw[cw oM];decide))) (decide_eq_false (show ak x 0≠45 by first|omega|(rw[cw oM];decide))) hk oM oM e,<-K,<-iU];exact ⟨_,rfl,⟨_,_,_,_,rfl,ZW,ZX,a.f.2.1,a.f.1⟩⟩)))
    have yb:=oT zd;refine lB 42 zd (aj (cK (cQ (kZ (cQ (aa a aF (lV 47 (.int .u8 (ak y j:Nat)) ?_ (hr:=aU (tx:=9) (x:=.tmp 45) (i:=.tmp 46) (k:=.i64) (s:=y) (n:=j) (j:=(j:Int)) kR kR kR kR oM oM _))))))));cases ze:(decide (((ak y j:Nat):Int)<(48:Int)))
    .
     have yg:=oF ze;refine lB 48 ze (lL a dL (lV 52 (.int .u8 (ak y j:Nat)) ?_ (hr:=aU (tx:=9) (x:=.tmp 50) (i:=.tmp 51) (k:=.i64) (s:=y) (n:=j) (j:=(j:Int)) kR kR kR kR oM oM _)));cases zf:(decide ((57:Int)<((ak y j:Nat):Int)))
     .
      have yi:=oF zf;refine lB 53 zf (lL a [.v qF] (ah (cK (cR 10 [] mixed a aw ?_))));refine eV 0 56 (qS u ((lim V).length) p) (eV 3 59 (.string y) (eV 4 60 (nV j) (eV 5 61 (.int .u8 (ak y j:Nat)) ?_ (hv:=fun _=>aU (tx:=9) (x:=.tmp 59) (i:=.tmp 60) (k:=.i64) (s:=y) (n:=j) (j:=(j:Int)) kR kR kR kR oM oM _))));refine eV 6 62 (.int .u8 ((ak y j)-48:Nat)) ?_ (hv:=fun _=>aN (n:=IntKind.wrap .u8 (((ak y j:Nat):Int)-(48:Int))) kR (rF (ak y j) 48 oM oM));refine eV 7 63 (mV ((ak y j)-48)) ?_ (hv:=fun _=>rU ((((ak y j)-48:Nat):Int)) kR (az oM oM));refine eR 1 57 161 1 ([uW 10]) a (fun hq _ _ a=>?_);replace a:=a.aS (SlO.of_flat (sz:=1) (f:=aW) (d:=0) (l:=[10]) (fun _=>rfl) a.f.1);refine eC 2 58 a (fun _ _ a=>lg V u p C L (sB hq) 1 _ _ a.g a.f.r.1 a.f.1) ?_;rintro _ _ _ _ _ a ⟨cq,b6,rfl,Yc,Yd⟩;replace a:=a.aS Yd;refine eC 8 64 a (fun _ _ a=>eD (ak y j-48) oM _ _ a.g) ?_;rintro _ _ _ _ _ a ⟨hm,h9,rfl,Ye,Yf⟩;replace a:=a.aS Yf;refine eC 9 65 a (fun _ _ a=>iw (V*10) cq b6 Yc (ak y j-48) hm h9 Ye D (mR oM) _ _ a.g a.f.2.1 a.f.1) ?_;rintro _ _ _ _ _ a ⟨yj,yk,rfl,Yg,Yi⟩;replace a:=a.aS Yi;refine cG a (fun _ fp a=>tV 10 7 (qS yj ((lim (V*10+(ak y j-48))).length) yk) (tN (kQ (lL a ac (bg 44 ((j:Nat)+1) (j+1) ?_)))));refine lL a ac (lD ?_);intro a_ ka;replace a:=(a.tl.tl.tl.tl.tl.tl.aS a.f.1);refine ⟨_,_,?_,⟨j+1,(V*10+(ak y j-48)),yj,yk,fp,rfl,rfl,a.to _ _,oM,(fun i o=>by rcases Kl.1 o with o|rfl;exact e i o;omega),B,Yg⟩,ka.to _ kR⟩
      omega
     have yi:=oT zf;refine lB 53 zf (lL a [.v qT] (aj (aG (lC 55 a (gh _ _ a.g) ?_))));rintro _ _ _ a ⟨yl,ym,yn,yo,rfl,Yj,Yk,Yl,Ym⟩;replace a:=a.aP Yl Ym;exact lP 0 0 (gA (0:Rat) yl ym yn yo) a (fun _ a=>lL a ac (af a [(0,0,3)] (.tuple #[rG (0:Rat) yl ym yn yo,qF]) (by rw[dX (i:=j) oM oM];exact ⟨_,rfl,⟨_,_,_,_,rfl,Yj,Yk,a.f.2.1,a.f.1⟩⟩)))
    have yg:=oT ze;refine lB 48 ze (lL a ac (lG 50 ?_));refine lG 51 (lG 52 (lG 53 (lL a [.v qT] (aj (aG (lC 55 a (gh _ _ a.g) ?_))))));rintro _ _ _ a ⟨yp,yq,yr,ys,rfl,Yn,Yo,Yp,Yq⟩;replace a:=a.aP Yp Yq;exact lP 0 0 (gA (0:Rat) yp yq yr ys) a (fun _ a=>lL a ac (af a [(0,0,3)] (.tuple #[rG (0:Rat) yp yq yr ys,qF]) (by rw[dX (i:=j) oM oM];exact ⟨_,rfl,⟨_,_,_,_,rfl,Yn,Yo,a.f.2.1,a.f.1⟩⟩)))
   have ya:=oT zc;refine lB 36 zc (lL a [.v qT] (aj (aG (lC 38 a (gh _ _ a.g) ?_))));rintro _ _ _ a ⟨yt,yu,yv,yw,rfl,Yr,Ys,Yt,Yu⟩;replace a:=a.aP Yt Yu;exact lP 0 0 (gA (0:Rat) yt yu yv yw) a (fun _ a=>lL a ac (af a [(0,0,3)] (.tuple #[rG (0:Rat) yt yu yv yw,qF]) (by rw[ff (if_neg (show ak x 0≠45 by first|omega|(rw[cw oM];decide))) hk oM];exact ⟨_,rfl,⟨_,_,_,_,rfl,Yr,Ys,a.f.2.1,a.f.1⟩⟩)))
  have zX:=oT zb;refine lB 31 zb (lL a [.v qT,.c] (lG 34 ?_));refine lG 35 (lG 36 (lL a [.v qT] (aj (aG (lC 38 a (gh _ _ a.g) ?_)))));rintro _ _ _ a ⟨yx,yA,yB,yC,rfl,Yv,Yw,Yx,YA⟩;replace a:=a.aP Yx YA;exact lP 0 0 (gA (0:Rat) yx yA yB yC) a (fun _ a=>lL a ac (af a [(0,0,3)] (.tuple #[rG (0:Rat) yx yA yB yC,qF]) (by rw[ff (if_neg (show ak x 0≠45 by first|omega|(rw[cw oM];decide))) hk oM];exact ⟨_,rfl,⟨_,_,_,_,rfl,Yv,Yw,a.f.2.1,a.f.1⟩⟩)))
 have zP:=eq_of_beq za;refine lB 16 za (lL a [.v qT,.c] (ai (aa a ac (aj (kQ (lL a ac (lV 20 (.string (x.extract 1 x.size)) ?_ (hr:=fF (tx:=9) (x:=.tmp 19) (i:=.const (iV 1)) (k:=.i64) (s:=x) (n:=1) (j:=(1:Int)) kR kR kR kR oM oM _))))))));refine lL a ac (aE (lL a ac ?_))
 rcases hk:bY (x.extract 1 x.size) with _|k
 .
  refine lC 23 a (cV (x.extract 1 x.size) (by first|omega|(rw[ByteArray.size_extract];omega)) hk _ _ a.g) ?_;rintro _ _ _ a ⟨_,rfl,cr,b4,rfl,k3,YB⟩;replace a:=a.aS YB;refine lL a [.c,.v (qS cr ((lim 0).length) b4),.v qF,.c,.c] (ai (aa a [.c,.v qT,.c] (lG 29 ?_)));refine lG 30 (lG 31 (lL a [.v qT,.c] (lG 34 ?_)));refine lG 35 (lG 36 (lL a [.v qT] (aj (aG (lC 38 a (gh _ _ a.g) ?_)))));rintro _ _ _ a ⟨yD,yE,yF,yG,rfl,YC,YD,YE,YF⟩;replace a:=a.aP YE YF;exact lP 0 0 (gA (0:Rat) yD yE yF yG) a (fun _ a=>lL a ac (af a [(0,0,3)] (.tuple #[rG (0:Rat) yD yE yF yG,qF]) (by rw[iJ (if_pos (show ak x 0=45 by omega)) hk];exact ⟨_,rfl,⟨_,_,_,_,rfl,YC,YD,a.f.2.1,a.f.1⟩⟩)))
 refine lC 23 a (cW (x.extract 1 x.size) k (by first|omega|(rw[ByteArray.size_extract];omega)) hk _ _ a.g) ?_;rintro _ _ hc a ⟨_,rfl,zs,yH,rfl,YG,YH⟩;replace a:=a.aS YH;have Q:=@bI k;have b:=cv hk;have I:=gT (JO b);refine lL a [.c,.v (qS zs ((lim k).length) yH),.v qT,.c,.c] (ai (aa a [.c,.v qF,.c,.c,.v (nV y.size)] ?_));cases zg:(decide ((y.size:Int)<(1:Int)))
 .
  have yI:=oF zg;refine lB 31 zg (lL a [.v qF,.c,.c,.v (nV y.size)] ?_);cases zi:(decide ((200:Int)<(y.size:Int)))
  .
   have yJ:=oF zi;refine lB 36 zi (lL a [.v qF] (ah (cK (cQ (aa a ac (bE ?_))))));replace a:=a.aS a.f.1;refine bG _ (CG.loop (fun J Γ w_=>∃ (j:Nat)(V:Nat)(u:Z9)(p:Nat)(o:Hp),J=y.size-j/\Γ=[(1,.string y),(4,pB b1),(6,qT),(9,nV j),(7,qS u ((lim V).length) p)]/\SS w h w_ o [⟨b1,44,[qF,sZ,sZ]⟩] [] [S3 u (lim V),S3 zs (lim k)]/\j<=y.size/\(∀ i,i<j->48<=ak y i/\ak y i<=57)/\V=k*10^j+dv y j/\(lim V).length<=p) _ ⟨0,k,zs,yH,hc,rfl,rfl,a.to _ _,JH _,(fun i o=>absurd o oM),(by rw[JI,HA];rfl),YG⟩ ?_);rintro _ _ _ ⟨j,V,u,p,_,kx,rfl,a,hj,e,K,C⟩;have O:=bh y j;have z:=hC (x:=y) j e;have S:V<10^200*10^200:=by rw[K];exact jN b oM z
   have H:=dO (n:=V) oM;have L:(lim V).length<=4000000000:=by omega
   have D:(lim (V*10)).length<=4000000000:=by have:=dO (n:=V*10) oM;omega
   have B:V*10+(ak y j-48)=k*10^(j+1)+dv y (j+1):=by rw[K,zy];show _=k*(10^j*10)+(dv y j*10+(ak y j-48));rw[I6,zY];omega
   refine cQ (aa a [.c,.c,.v (nV y.size)] ?_);cases zj:(decide ((j:Int)<(y.size:Int)))
   .
    have yK:=oF zj;refine lB 42 zj (ah (CG.exit ?_))
    show CG _ _ _ _ _ _ _ _
    refine aa a aF (lC 68 a (rI true V u p C _ _ a.g a.f.1) ?_);rintro _ _ _ a ⟨f3,b7,rfl,YI,YJ⟩;replace a:=a.aS YJ;refine lR 69 161 1 ([uW 10]) a (fun f1 _ _ a=>?_);replace a:=a.aS (SlO.of_flat (sz:=1) (f:=aW) (d:=0) (l:=[10]) (fun _=>rfl) a.f.1);refine lL a [.c,.v (nV y.size)] (lC 72 a (jH y.size oM (sB f1) 1 (show (lim 10).length<=1 from nR _) _ _ a.g a.f.1) ?_);rintro _ _ _ a ⟨j8,c8,rfl,YK,YL⟩;replace a:=a.aS YL;refine lC 73 a (rI false (10^y.size) j8 c8 YK _ _ a.g a.f.1) ?_;rintro _ _ _ a ⟨dn,b3,rfl,YM,YN⟩;replace a:=a.aS YN;refine lC 74 a (sn (bD true V) f3 b7 YI (by rw[cd];omega) (bD false (10^y.size)) dn b3 YM (by rw[cd];exact ed (dO (ed (Aa kD (show y.size<=200 by omega)) kD)) kD) (by rw[io];exact KA (KB.2 (A8 kD))) _ _ a.g a.f.q.1 a.f.1) ?_;rintro _ _ _ a ⟨yL,yM,yN,yO,rfl,YO,YP,YQ,YR⟩;replace a:=a.aP YQ YR;exact lP 0 0 (gA (og (bD true V) (bD false (10^y.size))) yL yM yN yO) a (fun _ a=>lL a ac (af a [(0,0,3)] (.tuple #[rG (og (bD true V) (bD false (10^y.size))) yL yM yN yO,qT]) (by have F:j=y.size:=oM;subst F;rw[gL (if_pos (show ak x 0=45 by omega)) (decide_eq_true (show ak x 0=45 by omega)) hk oM oM e,<-K,<-iU];exact ⟨_,rfl,⟨_,_,_,_,rfl,YO,YP,a.f.2.1,a.f.1⟩⟩)))
   have yK:=oT zj;refine lB 42 zj (aj (cK (cQ (kZ (cQ (aa a aF (lV 47 (.int .u8 (ak y j:Nat)) ?_ (hr:=aU (tx:=9) (x:=.tmp 45) (i:=.tmp 46) (k:=.i64) (s:=y) (n:=j) (j:=(j:Int)) kR kR kR kR oM oM _))))))));cases zk:(decide (((ak y j:Nat):Int)<(48:Int)))
   .
    have yP:=oF zk;refine lB 48 zk (lL a dL (lV 52 (.int .u8 (ak y j:Nat)) ?_ (hr:=aU (tx:=9) (x:=.tmp 50) (i:=.tmp 51) (k:=.i64) (s:=y) (n:=j) (j:=(j:Int)) kR kR kR kR oM oM _)));cases zl:(decide ((57:Int)<((ak y j:Nat):Int)))
    .
     have yQ:=oF zl;refine lB 53 zl (lL a [.v qF] (ah (cK (cR 10 [] mixed a aw ?_))));refine eV 0 56 (qS u ((lim V).length) p) (eV 3 59 (.string y) (eV 4 60 (nV j) (eV 5 61 (.int .u8 (ak y j:Nat)) ?_ (hv:=fun _=>aU (tx:=9) (x:=.tmp 59) (i:=.tmp 60) (k:=.i64) (s:=y) (n:=j) (j:=(j:Int)) kR kR kR kR oM oM _))));refine eV 6 62 (.int .u8 ((ak y j)-48:Nat)) ?_ (hv:=fun _=>aN (n:=IntKind.wrap .u8 (((ak y j:Nat):Int)-(48:Int))) kR (rF (ak y j) 48 oM oM));refine eV 7 63 (mV ((ak y j)-48)) ?_ (hv:=fun _=>rU ((((ak y j)-48:Nat):Int)) kR (az oM oM));refine eR 1 57 161 1 ([uW 10]) a (fun dp _ _ a=>?_);replace a:=a.aS (SlO.of_flat (sz:=1) (f:=aW) (d:=0) (l:=[10]) (fun _=>rfl) a.f.1);refine eC 2 58 a (fun _ _ a=>lg V u p C L (sB dp) 1 _ _ a.g a.f.r.1 a.f.1) ?_;rintro _ _ _ _ _ a ⟨hp,h2,rfl,YS,YT⟩;replace a:=a.aS YT;refine eC 8 64 a (fun _ _ a=>eD (ak y j-48) oM _ _ a.g) ?_;rintro _ _ _ _ _ a ⟨fm,hw,rfl,YU,YV⟩;replace a:=a.aS YV;refine eC 9 65 a (fun _ _ a=>iw (V*10) hp h2 YS (ak y j-48) fm hw YU D (mR oM) _ _ a.g a.f.2.1 a.f.1) ?_;rintro _ _ _ _ _ a ⟨yR,yS,rfl,YW,YX⟩;replace a:=a.aS YX;refine cG a (fun _ h7 a=>tV 10 7 (qS yR ((lim (V*10+(ak y j-48))).length) yS) (tN (kQ (lL a ac (bg 44 ((j:Nat)+1) (j+1) ?_)))));refine lL a ac (lD ?_);intro a_ ka;replace a:=(a.tl.tl.tl.tl.tl.tl.aS a.f.1);refine ⟨_,_,?_,⟨j+1,(V*10+(ak y j-48)),yR,yS,h7,rfl,rfl,a.to _ _,oM,(fun i o=>by rcases Kl.1 o with o|rfl;exact e i o;omega),B,YW⟩,ka.to _ kR⟩
     omega
    have yQ:=oT zl;refine lB 53 zl (lL a [.v qT] (aj (aG (lC 55 a (gh _ _ a.g) ?_))));rintro _ _ _ a ⟨yT,yU,yV,yW,rfl,Z,bm,bb,W⟩;replace a:=a.aP bb W;exact lP 0 0 (gA (0:Rat) yT yU yV yW) a (fun _ a=>lL a ac (af a [(0,0,3)] (.tuple #[rG (0:Rat) yT yU yV yW,qF]) (by rw[dX (i:=j) oM oM];exact ⟨_,rfl,⟨_,_,_,_,rfl,Z,bm,a.f.2.1,a.f.1⟩⟩)))
   have yP:=oT zk;refine lB 48 zk (lL a ac (lG 50 ?_));refine lG 51 (lG 52 (lG 53 (lL a [.v qT] (aj (aG (lC 55 a (gh _ _ a.g) ?_))))));rintro _ _ _ a ⟨yX,Za,Zb,Zc,rfl,bw,Y,bq,bl⟩;replace a:=a.aP bq bl;exact lP 0 0 (gA (0:Rat) yX Za Zb Zc) a (fun _ a=>lL a ac (af a [(0,0,3)] (.tuple #[rG (0:Rat) yX Za Zb Zc,qF]) (by rw[dX (i:=j) oM oM];exact ⟨_,rfl,⟨_,_,_,_,rfl,bw,Y,a.f.2.1,a.f.1⟩⟩)))
  have yJ:=oT zi;refine lB 36 zi (lL a [.v qT] (aj (aG (lC 38 a (gh _ _ a.g) ?_))));rintro _ _ _ a ⟨Zd,Ze,Zf,Zg,rfl,U,bt,bp,br⟩;replace a:=a.aP bp br;exact lP 0 0 (gA (0:Rat) Zd Ze Zf Zg) a (fun _ a=>lL a ac (af a [(0,0,3)] (.tuple #[rG (0:Rat) Zd Ze Zf Zg,qF]) (by rw[ff (if_pos (show ak x 0=45 by omega)) hk oM];exact ⟨_,rfl,⟨_,_,_,_,rfl,U,bt,a.f.2.1,a.f.1⟩⟩)))
 have yI:=oT zg;refine lB 31 zg (lL a [.v qT,.c] (lG 34 ?_));refine lG 35 (lG 36 (lL a [.v qT] (aj (aG (lC 38 a (gh _ _ a.g) ?_)))));rintro _ _ _ a ⟨Zi,Zj,Zk,Zl,rfl,bk,b0,bd,X⟩;replace a:=a.aP bd X;exact lP 0 0 (gA (0:Rat) Zi Zj Zk Zl) a (fun _ a=>lL a ac (af a [(0,0,3)] (.tuple #[rG (0:Rat) Zi Zj Zk Zl,qF]) (by rw[ff (if_pos (show ak x 0=45 by omega)) hk oM];exact ⟨_,rfl,⟨_,_,_,_,rfl,bk,b0,a.f.2.1,a.f.1⟩⟩)))
end Go.Proofs.YtffiihfdjnmhpaaGreatDoor
