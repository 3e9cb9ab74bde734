/- Laws of this claim, part 5. -/
import Derived.Test.YtbbhdbhkaacnnaaGreatDoorQm0
import Derived.Test.YtbbhdbhkaacnnaaGreatDoorQm1
import Derived.Test.YtbbhdbhkaacnnaaGreatDoorQm2
import Derived.Test.YtbbhdbhkaacnnaaGreatDoorQm3
set_option maxRecDepth 100000
set_option maxHeartbeats 4000000
namespace Go.Proofs.YtbbhdbhkaacnnaaGreatDoor
open _root_.Array renaming ext' -> Kq
open Bool renaming and_eq_true -> hN, or_eq_true -> mz
open Decidable renaming byContradiction -> Kj, em -> Ko
open List renaming all_eq_true -> i3, append_assoc -> Kk, contains_eq_mem -> Ks, getD_eq_getElem?_getD -> B1, getElem?_eq_getElem -> Km, getElem?_take_of_lt -> rh, getElem_mem -> e5, isPrefixOf -> Kp, length_set -> Jr, mem_singleton -> o0, perm_middle -> ge, replicate -> um, take_length -> s1, toArray -> JY
open Nat renaming add_mul -> I4, add_zero -> sw, div_div_eq_div_mul -> H1, div_eq_of_lt -> zY, div_le_self -> zF, le_add_left -> Kt, le_of_lt -> JM, le_refl -> eb, le_trans -> ed, lt_irrefl -> Kl, lt_of_le_of_lt -> zz, lt_of_lt_of_le -> ep, lt_or_ge -> co, lt_succ_iff_lt_or_eq -> Kf, mod_eq_of_lt -> u9, mul_assoc -> z8, mul_le_mul -> Jo, mul_one -> I1, mul_zero -> Ao, pos_of_ne_zero -> Jf, pow_add -> A7, pow_le_pow_right -> A4, pow_pos -> F2, pow_succ -> z1, pow_zero -> JG, zero_add -> tv, zero_le -> JF
open Option renaming mem_toList -> Kr
open Rat renaming den_intCast -> J9, num_intCast -> J7
open Go.RowKit
open Go.RowKit Go.Shelf
theorem fd  (rb:Nat)(s:ByteArray)(l:s.size<=1000000)(a:Nat)(ha:a<=s.size)(at_:Nat)(w:World)(h:Hp)(g:G w h)(u:Own w rb 64 [.string s,nV a,iV (-1)])(k:h[rb]?=some junk)(j:Tab h):Calls Tryz.prog 15 #[pB rb,nV at_] w (bV rb w h fun v w' _=>v=aY (⟨0,0,false,none,0,0,none,0,0,⟨#[]⟩,none,0,0⟩:RTm)/\Own w' rb 64 [.string s,nV s.size,nV at_]):=by
 have b:UpM [rb] w h w h:=UpM.refl g;obtain ⟨wz,i,e⟩:=SS.at_ g u k;replace e:=(e.add (K:=fun p=>Tab p) j);refine go Tryz.func15 [(0,pB rb),(1,nV at_)] rfl (aG (fr 4 45 (ax ⟨0,0,false,none,0,0,none,0,0,⟨#[]⟩,none,0,0⟩) e (fun B w2 D x d e=>?_)));replace d:=ed b.gr.size d;replace b:=b.trans (x.m _);refine ai (aa e [.c,.v (pB rb),.v (qP rb 2),.o (iV (-1)) 1 2 1,.v qT] (ak (kQ (lL e [.c,.c,.v (pB rb),.v (qP rb 2)] (ce 1 2 ([nV at_]) e (fun z f e=>?_))))));replace b:=b.put f (o0.2 rfl) e.g;refine aE (lL e [.c,.c,.v (pB rb),.v (pB rb),.o (.string s) 1 0 1,.v (nV s.size),.v (pB rb),.v (qP rb 1)] (ce 1 1 ([nV s.size]) e (fun C f e=>?_)));replace b:=b.put f (o0.2 rfl) e.g;refine aE (lL e [.v (aY ⟨0,0,false,none,0,0,none,0,0,⟨#[]⟩,none,0,0⟩)] (ce 0 0 (ax ⟨0,0,false,none,0,0,none,0,0,⟨#[]⟩,none,0,0⟩) e (fun y f e=>?_)));replace b:=b.put2 f d g e.g;exact lN (kX (e.retM b [(0,0,7)] (aY ⟨0,0,false,none,0,0,none,0,0,⟨#[]⟩,none,0,0⟩) (⟨rfl,e.own 1⟩)))
theorem EN  (rb:Nat)(s:ByteArray)(x:s.size<=1000000)(e:Nat)(at_:Nat)(w:World)(h:Hp)(g:G w h)(z:Own w rb 64 [.string s,nV s.size,nV e])(u:h[rb]?=some junk)(l:Tab h):Calls Tryz.prog 15 #[pB rb,nV at_] w (bV rb w h fun v w' _=>v=aY (⟨0,0,false,none,0,0,none,0,0,⟨#[]⟩,none,0,0⟩:RTm)/\Own w' rb 64 [.string s,nV s.size,nV e]):=by
 have b:UpM [rb] w h w h:=UpM.refl g;obtain ⟨wz,j,d⟩:=SS.at_ g z u;replace d:=(d.add (K:=fun y=>Tab y) l);refine go Tryz.func15 [(0,pB rb),(1,nV at_)] rfl (aG (fr 4 45 (ax ⟨0,0,false,none,0,0,none,0,0,⟨#[]⟩,none,0,0⟩) d (fun D w2 H B a d=>?_)));replace a:=ed b.gr.size a;replace b:=b.trans (B.m _);refine ai (aa d [.c,.v (pB rb),.v (qP rb 2),.o (nV e) 1 2 1] ?_);have ⟨f,k⟩:=dF (p:=(e:Int)<(0:Int)) oM;refine lB 9 f (ah (cK (aa d [.c,.c,.v (pB rb),.v (pB rb),.o (.string s) 1 0 1,.v (nV s.size),.v (pB rb),.v (qP rb 1)] (ce 1 1 ([nV s.size]) d (fun F i d=>?_)))));replace b:=b.put i (o0.2 rfl) d.g;refine aE (lL d [.v (aY ⟨0,0,false,none,0,0,none,0,0,⟨#[]⟩,none,0,0⟩)] (ce 0 0 (ax ⟨0,0,false,none,0,0,none,0,0,⟨#[]⟩,none,0,0⟩) d (fun C i d=>?_)));replace b:=b.put2 i a g d.g;exact lN (kX (d.retM b [(0,0,7)] (aY ⟨0,0,false,none,0,0,none,0,0,⟨#[]⟩,none,0,0⟩) (⟨rfl,d.own 1⟩)))
def LpS (nf bf:ByteArray->Option Rat)(s:ByteArray)(lv:Bool)(r:PR)(m:Nat)(x:RTm)(u:Tm)(k:Nat)(bd1:Int)(h:Hp):Prop :=
  (bd1 = -1/\k<=s.size/\bj nf bf s m (.more lv u) k=some r/\RtH h x u)\/∃ b:Nat,r=.err b/\k=s.size/\bd1=(b:Nat)
theorem LpS.gw {nf bf:ByteArray->Option Rat}{s:ByteArray}{lv:Bool}{r:PR}{m:Nat}{x:RTm}{u:Tm}{k:Nat}{e:Int}{h f:Hp}(y:LpS nf bf s lv r m x u k e h)(g:Gw h f):LpS nf bf s lv r m x u k e f:=by
 rcases y with ⟨a,b,c,d⟩|y
 ·exact .inl ⟨a,b,c,d.gw g⟩
 ·exact .inr y
section
variable {nf bf:ByteArray->Option Rat}{s:ByteArray}{n a:Nat}{u:Tm}{lv:Bool}{r:PR}
theorem xG (h:bj nf bf s (n+1) (.more lv u) a=some r)(c:aj s (sk s a)=c1 lv):fW (bj nf bf s n (part lv) (sk s a+1)) (fun v e=>bj nf bf s n (.more lv (bz (kn lv) u v)) e)=some r:=by
 unfold bj at h;rw[if_pos c] at h;exact h
theorem vq (h:bj nf bf s (n+1) (.more lv u) a=some r)(d:aj s (sk s a)≠c1 lv)(c:aj s (sk s a)=c2 lv):fW (bj nf bf s n (part lv) (sk s a+1)) (fun v e=>bj nf bf s n (.more lv (bz (ja lv) u v)) e)=some r:=by
 unfold bj at h;rw[if_neg d,if_pos c] at h;exact h
theorem vh (h:bj nf bf s (n+1) (.more lv u) a=some r)(d:aj s (sk s a)≠c1 lv)(c:aj s (sk s a)≠c2 lv):r=.ok u (sk s a):=by
 unfold bj at h;rw[if_neg d,if_neg c] at h;injection h with h;exact h.symm
end
section
variable {nf bf:ByteArray->Option Rat}(n:Nat)
theorem HD  (X:∀ m,m<=n->RC nf bf 26 m .prod)(rb:Nat)(s:ByteArray)(z:s.size<=1000000)(a:Nat)(ha:a<=s.size)(r:PR)(hq:bj nf bf s (n+1) .sum a=some r)(w:World)(h:Hp)(g:G w h)(ho:Own w rb 64 [.string s,nV a,iV (-1)])(hj:h[rb]?=some junk)(tb:Tab h):Calls Tryz.prog 13 #[pB rb] w (bV rb w h (Fx rb s r)):=by
 have d:UpM [rb] w h w h:=UpM.refl g;obtain ⟨wz,cz,b⟩:=SS.at_ g ho hj;replace b:=(b.add (K:=fun y=>Tab y) tb);refine go Tryz.func13 [(0,pB rb)] rfl (aG (fr 2 45 (ax ⟨0,0,false,none,0,0,none,0,0,⟨#[]⟩,none,0,0⟩) b (fun F w2 h3 u4 l b=>?_)));replace l:=ed d.gr.size l;replace d:=d.trans (u4.m _);refine aE (lL b ac ?_)
 rcases cJ hq with ⟨be,he,rfl⟩|⟨t1,y1,hq1,hq2⟩
 .
  refine bn 5 (X n (nR _) rb s z a ha (.err be) he _ _ b.g (b.own 1) (b.jk 1) b.f.1) ?_;rintro _ w6 h7 u8 ⟨C,rfl,cr⟩;replace b:=(b.stepM 1 u8 cr).to [⟨F,45,ax ⟨0,0,false,none,0,0,none,0,0,⟨#[]⟩,none,0,0⟩⟩,⟨rb,64,[.string s,nV s.size,nV be]⟩] [];replace d:=d.trans u8;refine fr 3 45 (ax ⟨0,0,false,none,0,0,none,0,0,⟨#[]⟩,none,0,0⟩) b (fun b9 _ _ u12 D b=>?_);replace D:=ed d.gr.size D;replace d:=d.trans (u12.m _);refine ce 0 0 (ax C) b (fun _ B b=>?_);replace d:=d.put2 B D g b.g;refine ai (kZ (cU ?_));refine cN (cQ (aa b [.c,.v (pB rb),.v (qP rb 2),.o (nV be) 2 2 1] ?_));cases zc:(decide ((be:Int)<(0:Int)))
  .
   have ze:=oF zc;refine lB 10 zc (ah (CG.exit ?_))
   show CG _ _ _ _ _ _ _ _
   refine aa b [.o (aY C) 0 0 7] (ce 1 0 (ax C) b (fun _ B b=>?_));replace d:=d.put2 B l g b.g;exact lN (kX (b.retM d [(1,0,7)] (aY C) (⟨_,rfl,b.own 2⟩)))
  have ze:=oT zc;refine lB 10 zc (ak (cK (kZ (kZ (aa b ac (bn 14 (dK rb s z be 43 _ _ b.g (b.own 2) (b.jk 2) b.f.1) ?_))))));rintro _ _ _ u19 ⟨rfl,b7⟩;replace b:=(b.stepM 2 u19 b7).to [⟨b9,45,ax C⟩,⟨F,45,ax ⟨0,0,false,none,0,0,none,0,0,⟨#[]⟩,none,0,0⟩⟩,⟨rb,64,[.string s,nV s.size,nV be]⟩] [];replace d:=d.trans u19;refine lL b ac (ah (aa b ac (bn 21 (dK rb s z be 45 _ _ b.g (b.own 2) (b.jk 2) b.f.1) ?_)));rintro _ _ _ u23 ⟨rfl,bq⟩;replace b:=(b.stepM 2 u23 bq).to [⟨b9,45,ax C⟩,⟨F,45,ax ⟨0,0,false,none,0,0,none,0,0,⟨#[]⟩,none,0,0⟩⟩,⟨rb,64,[.string s,nV s.size,nV be]⟩] [];replace d:=d.trans u23;refine lL b ac (ah (aa b [.o (aY C) 0 0 7] (ce 1 0 (ax C) b (fun _ B b=>?_))));replace d:=d.put2 B l g b.g;exact lN (kX (b.retM d [(1,0,7)] (aY C) (⟨_,rfl,b.own 2⟩)))
 refine bn 5 (X n (nR _) rb s z a ha (.ok t1 y1) hq1 _ _ b.g (b.own 1) (b.jk 1) b.f.1) ?_;rintro _ _ _ u28 ⟨H,rfl,b5,b3,br⟩;replace b:=(b.stepM 1 u28 b3).to [⟨F,45,ax ⟨0,0,false,none,0,0,none,0,0,⟨#[]⟩,none,0,0⟩⟩,⟨rb,64,[.string s,nV y1,iV (-1)]⟩] [];replace d:=d.trans u28;replace b:=(b.add (K:=fun y=>RtH y H t1) br);refine fr 3 45 (ax ⟨0,0,false,none,0,0,none,0,0,⟨#[]⟩,none,0,0⟩) b (fun O _ zf u32 e b=>?_);replace e:=ed d.gr.size e;replace d:=d.trans (u32.m _);refine ce 0 0 (ax H) b (fun _ B b=>?_);replace d:=d.put2 B e g b.g;refine ai (kZ ?_);replace b:=b.add (K:=fun y=>LpS nf bf s false r n H t1 y1 (-1) y) ((.inl ⟨rfl,b5,hq2,b.f.1⟩));refine bG _ (CG.loop (fun μ_ Γ w_=>∃ (m:Nat)(x:RTm)(u:Tm)(k:Nat)(bd1:Int)(y:Hp),μ_=m/\Γ=[(0,pB rb),(2,pB F),(3,pB O)]/\SS wz cz w_ y [⟨O,45,ax x⟩,⟨F,45,ax ⟨0,0,false,none,0,0,none,0,0,⟨#[]⟩,none,0,0⟩⟩,⟨rb,64,[.string s,nV k,iV bd1]⟩] [] [fun y=>LpS nf bf s false r m x u k bd1 y,fun y=>RtH y H t1,fun y=>Tab y]/\m<=n/\UpM [rb] w h w_ y) _ ⟨n,H,t1,y1,(-1),zf,rfl,rfl,b.to _ _,nR _,d⟩ ?_);rintro _ _ _ ⟨m,x,u,k,bd1,_,dc,rfl,b,hm,d⟩;refine cQ (aG ?_)
 rcases b.f.1 with ⟨rfl,hk,hq,hT⟩|⟨be,rfl,rfl,rfl⟩
 .
  replace b:=b.to [⟨O,45,ax x⟩,⟨F,45,ax ⟨0,0,false,none,0,0,none,0,0,⟨#[]⟩,none,0,0⟩⟩,⟨rb,64,[.string s,nV k,iV (-1)]⟩] [];replace b:=b.add (K:=fun y=>RtH y x u) hT;obtain ⟨U,rfl⟩:=iu hq;have df:=bD (s:=s) (a:=k) hk;refine lL b [.c,.v (pB rb),.v (qP rb 2),.o (iV (-1)) 2 2 1,.v qT] (ak (cK (kZ (kZ (aa b ac ?_)))));have c4:=bD (s:=s) (a:=k) oM;refine bn 14 (iK rb s z k oM 43 kD _ _ b.g (b.own 2) (b.jk 2) b.f.r.2.1) ?_;rintro _ _ _ Y (⟨rfl,I,c5,J⟩|⟨rfl,I,J⟩)
  .
   replace b:=(b.stepM 2 Y J).to [⟨O,45,ax x⟩,⟨F,45,ax ⟨0,0,false,none,0,0,none,0,0,⟨#[]⟩,none,0,0⟩⟩,⟨rb,64,[.string s,nV (sk s k+1),iV (-1)]⟩] [];replace d:=d.trans Y;have hcT:=I;refine lL b ac (ak (CG.region ⟨[rb],none⟩ 4 [] mixed kR b.g aw (fun _ hb=>by rw[o0.1 hb];exact aI (b.jk 2)) ?_));refine eO 0 15 [(0,0,7)] (aY x) b ?_ (hM:=fun p X=>by obtain rfl:=o0.1 X;exact fun hm=>cB b.st (i:=0) (j:=2) kR kR kR (o0.1 hm));refine eV 1 16 (pB rb) ?_
   rcases cJ (xG hq hcT) with ⟨be,he,hre⟩|⟨v1,e1,hv1,hw1⟩
   .
    refine i0 2 17 b d (o0.2 rfl) (o0.2 rfl) (fun _ _ b=>X U oM rb s z (sk s k+1) oM (.err be) he _ _ b.g (b.own 2) (b.jk 2) b.f.r.2.1) ?_;rintro _ _ _ _ _ b u44 d ⟨cx,rfl,bt⟩;replace b:=(b.stepM 2 u44 bt).to [⟨O,45,ax x⟩,⟨F,45,ax ⟨0,0,false,none,0,0,none,0,0,⟨#[]⟩,none,0,0⟩⟩,⟨rb,64,[.string s,nV s.size,nV be]⟩] [];refine io 3 18 b d (fun _ _ b=>rr 3 x cx _ _ b.g) ?_;rintro _ _ _ _ _ d b ⟨V,rfl⟩;refine bL b (fun _ zg u50 b=>?_);replace d:=d.trans (u50.m _);refine km 4 0 0 (ax V) b (fun _ B b=>?_);replace d:=d.put2 B e g b.g;refine tD ?_;intro a_ ka;replace b:=(b.tl.tl.add (K:=fun y=>LpS nf bf s false r U V u s.size (be:Nat) y) (.inr ⟨be,hre,rfl,rfl⟩));refine ⟨_,_,?_,⟨U,V,u,s.size,(be:Nat),zg,rfl,rfl,b.to _ _,oM,d⟩,ka.to _ kR⟩
    omega
   refine i0 2 17 b d (o0.2 rfl) (o0.2 rfl) (fun _ _ b=>X U oM rb s z (sk s k+1) oM (.ok v1 e1) hv1 _ _ b.g (b.own 2) (b.jk 2) b.f.r.2.1) ?_;rintro _ _ _ _ _ b u58 d ⟨bd,rfl,c7,b4,bp⟩;replace b:=(b.stepM 2 u58 b4).to [⟨O,45,ax x⟩,⟨F,45,ax ⟨0,0,false,none,0,0,none,0,0,⟨#[]⟩,none,0,0⟩⟩,⟨rb,64,[.string s,nV e1,iV (-1)]⟩] [];replace b:=(b.add (K:=fun y=>RtH y bd v1) bp);refine io 3 18 b d (fun _ _ b=>sD 3 x bd u v1 _ _ b.g b.f.2.1 b.f.1) ?_;rintro _ _ _ _ _ d b ⟨S,rfl,ch⟩;replace b:=(b.add (K:=fun y=>RtH y S (bz 3 u v1)) ch);refine bL b (fun _ zi u64 b=>?_);replace d:=d.trans (u64.m _);refine km 4 0 0 (ax S) b (fun _ B b=>?_);replace d:=d.put2 B e g b.g;refine tD ?_;intro a_ ka;replace b:=(b.tl.tl.tl.tl.add (K:=fun y=>LpS nf bf s false r U S (bz 3 u v1) e1 (-1) y) (.inl ⟨rfl,by omega,hw1,b.f.1⟩));refine ⟨_,_,?_,⟨U,S,(bz 3 u v1),e1,(-1),zi,rfl,rfl,b.to _ _,oM,d⟩,ka.to _ kR⟩
   omega
  replace b:=(b.stepM 2 Y J).to [⟨O,45,ax x⟩,⟨F,45,ax ⟨0,0,false,none,0,0,none,0,0,⟨#[]⟩,none,0,0⟩⟩,⟨rb,64,[.string s,nV (sk s k),iV (-1)]⟩] [];replace d:=d.trans Y;have hcF:=I;refine lL b ac (ah (aa b ac ?_));have c3:=bD (s:=s) (a:=(sk s k)) oM;refine bn 21 (m9 rb s z (sk s k) oM 45 kD (pH _ _) _ _ b.g (b.own 2) (b.jk 2) b.f.r.2.1) ?_;rintro _ _ _ u72 (⟨rfl,L,c8,M⟩|⟨rfl,L,M⟩)
  .
   replace b:=(b.stepM 2 u72 M).to [⟨O,45,ax x⟩,⟨F,45,ax ⟨0,0,false,none,0,0,none,0,0,⟨#[]⟩,none,0,0⟩⟩,⟨rb,64,[.string s,nV ((sk s k)+1),iV (-1)]⟩] [];replace d:=d.trans u72;have cm:=L;refine lL b ac (ak (CG.region ⟨[rb],none⟩ 4 [] mixed kR b.g aw (fun _ hb=>by rw[o0.1 hb];exact aI (b.jk 2)) ?_));refine eO 0 22 [(0,0,7)] (aY x) b ?_ (hM:=fun p X=>by obtain rfl:=o0.1 X;exact fun hm=>cB b.st (i:=0) (j:=2) kR kR kR (o0.1 hm));refine eV 1 23 (pB rb) ?_
   rcases cJ (vq hq hcF cm) with ⟨be,he,hre⟩|⟨v1,e1,hv1,hw1⟩
   .
    refine i0 2 24 b d (o0.2 rfl) (o0.2 rfl) (fun _ _ b=>X U oM rb s z ((sk s k)+1) oM (.err be) he _ _ b.g (b.own 2) (b.jk 2) b.f.r.2.1) ?_;rintro _ _ _ _ _ b u76 d ⟨cq,rfl,b0⟩;replace b:=(b.stepM 2 u76 b0).to [⟨O,45,ax x⟩,⟨F,45,ax ⟨0,0,false,none,0,0,none,0,0,⟨#[]⟩,none,0,0⟩⟩,⟨rb,64,[.string s,nV s.size,nV be]⟩] [];refine io 3 25 b d (fun _ _ b=>rr 4 x cq _ _ b.g) ?_;rintro _ _ _ _ _ d b ⟨W,rfl⟩;refine bL b (fun _ zj u82 b=>?_);replace d:=d.trans (u82.m _);refine km 4 0 0 (ax W) b (fun _ B b=>?_);replace d:=d.put2 B e g b.g;refine tD ?_;intro a_ ka;replace b:=(b.tl.tl.add (K:=fun y=>LpS nf bf s false r U W u s.size (be:Nat) y) (.inr ⟨be,hre,rfl,rfl⟩));refine ⟨_,_,?_,⟨U,W,u,s.size,(be:Nat),zj,rfl,rfl,b.to _ _,oM,d⟩,ka.to _ kR⟩
    omega
   refine i0 2 24 b d (o0.2 rfl) (o0.2 rfl) (fun _ _ b=>X U oM rb s z ((sk s k)+1) oM (.ok v1 e1) hv1 _ _ b.g (b.own 2) (b.jk 2) b.f.r.2.1) ?_;rintro _ _ _ _ _ b u90 d ⟨bm,rfl,c6,b2,bw⟩;replace b:=(b.stepM 2 u90 b2).to [⟨O,45,ax x⟩,⟨F,45,ax ⟨0,0,false,none,0,0,none,0,0,⟨#[]⟩,none,0,0⟩⟩,⟨rb,64,[.string s,nV e1,iV (-1)]⟩] [];replace b:=(b.add (K:=fun y=>RtH y bm v1) bw);refine io 3 25 b d (fun _ _ b=>sD 4 x bm u v1 _ _ b.g b.f.2.1 b.f.1) ?_;rintro _ _ _ _ _ d b ⟨Q,rfl,b6⟩;replace b:=(b.add (K:=fun y=>RtH y Q (bz 4 u v1)) b6);refine bL b (fun _ zk u96 b=>?_);replace d:=d.trans (u96.m _);refine km 4 0 0 (ax Q) b (fun _ B b=>?_);replace d:=d.put2 B e g b.g;refine tD ?_;intro a_ ka;replace b:=(b.tl.tl.tl.tl.add (K:=fun y=>LpS nf bf s false r U Q (bz 4 u v1) e1 (-1) y) (.inl ⟨rfl,by omega,hw1,b.f.1⟩));refine ⟨_,_,?_,⟨U,Q,(bz 4 u v1),e1,(-1),zk,rfl,rfl,b.to _ _,oM,d⟩,ka.to _ kR⟩
   omega
  replace b:=(b.stepM 2 u72 M).to [⟨O,45,ax x⟩,⟨F,45,ax ⟨0,0,false,none,0,0,none,0,0,⟨#[]⟩,none,0,0⟩⟩,⟨rb,64,[.string s,nV (sk s k),iV (-1)]⟩] [];replace d:=d.trans u72;have cy:=L;refine lL b ac (ah (aa b [.o (aY x) 0 0 7] (ce 1 0 (ax x) b (fun _ B b=>?_))));replace d:=d.put2 B l g b.g;refine lN (kX ?_);obtain rfl:=vh hq hcF cy;exact b.retM d [(1,0,7)] (aY x) (⟨x,rfl,by omega,b.own 2,b.f.1⟩)
 replace b:=b.to [⟨O,45,ax x⟩,⟨F,45,ax ⟨0,0,false,none,0,0,none,0,0,⟨#[]⟩,none,0,0⟩⟩,⟨rb,64,[.string s,nV s.size,nV be]⟩] [];refine lL b [.c,.v (pB rb),.v (qP rb 2),.o (nV be) 2 2 1] ?_;cases zb:(decide ((be:Int)<(0:Int)))
 .
  have zd:=oF zb;refine lB 10 zb (ah (CG.exit ?_))
  show CG _ _ _ _ _ _ _ _
  refine aa b [.o (aY x) 0 0 7] (ce 1 0 (ax x) b (fun _ B b=>?_));replace d:=d.put2 B l g b.g;exact lN (kX (b.retM d [(1,0,7)] (aY x) (⟨_,rfl,b.own 2⟩)))
 have zd:=oT zb;refine lB 10 zb (ak (cK (kZ (kZ (aa b ac (bn 14 (dK rb s z be 43 _ _ b.g (b.own 2) (b.jk 2) b.f.r.1) ?_))))));rintro _ _ _ bk ⟨rfl,Z⟩;replace b:=(b.stepM 2 bk Z).to [⟨O,45,ax x⟩,⟨F,45,ax ⟨0,0,false,none,0,0,none,0,0,⟨#[]⟩,none,0,0⟩⟩,⟨rb,64,[.string s,nV s.size,nV be]⟩] [];replace d:=d.trans bk;refine lL b ac (ah (aa b ac (bn 21 (dK rb s z be 45 _ _ b.g (b.own 2) (b.jk 2) b.f.r.1) ?_)));rintro _ _ _ bl ⟨rfl,bb⟩;replace b:=(b.stepM 2 bl bb).to [⟨O,45,ax x⟩,⟨F,45,ax ⟨0,0,false,none,0,0,none,0,0,⟨#[]⟩,none,0,0⟩⟩,⟨rb,64,[.string s,nV s.size,nV be]⟩] [];replace d:=d.trans bl;refine lL b ac (ah (aa b [.o (aY x) 0 0 7] (ce 1 0 (ax x) b (fun _ B b=>?_))));replace d:=d.put2 B l g b.g;exact lN (kX (b.retM d [(1,0,7)] (aY x) (⟨_,rfl,b.own 2⟩)))
theorem wx  (X:∀ m,m<=n->RC nf bf 46 m .sign)(rb:Nat)(s:ByteArray)(z:s.size<=1000000)(a:Nat)(ha:a<=s.size)(r:PR)(hq:bj nf bf s (n+1) .prod a=some r)(w:World)(h:Hp)(g:G w h)(ho:Own w rb 64 [.string s,nV a,iV (-1)])(hj:h[rb]?=some junk)(tb:Tab h):Calls Tryz.prog 26 #[pB rb] w (bV rb w h (Fx rb s r)):=by
 have d:UpM [rb] w h w h:=UpM.refl g;obtain ⟨wz,cz,b⟩:=SS.at_ g ho hj;replace b:=(b.add (K:=fun y=>Tab y) tb);refine go Tryz.func26 [(0,pB rb)] rfl (aG (fr 2 45 (ax ⟨0,0,false,none,0,0,none,0,0,⟨#[]⟩,none,0,0⟩) b (fun F w2 h3 u4 l b=>?_)));replace l:=ed d.gr.size l;replace d:=d.trans (u4.m _);refine aE (lL b ac ?_)
 rcases cJ hq with ⟨be,he,rfl⟩|⟨t1,y1,hq1,hq2⟩
 .
  refine bn 5 (X n (nR _) rb s z a ha (.err be) he _ _ b.g (b.own 1) (b.jk 1) b.f.1) ?_;rintro _ w6 h7 u8 ⟨C,rfl,cr⟩;replace b:=(b.stepM 1 u8 cr).to [⟨F,45,ax ⟨0,0,false,none,0,0,none,0,0,⟨#[]⟩,none,0,0⟩⟩,⟨rb,64,[.string s,nV s.size,nV be]⟩] [];replace d:=d.trans u8;refine fr 3 45 (ax ⟨0,0,false,none,0,0,none,0,0,⟨#[]⟩,none,0,0⟩) b (fun b9 _ _ u12 D b=>?_);replace D:=ed d.gr.size D;replace d:=d.trans (u12.m _);refine ce 0 0 (ax C) b (fun _ B b=>?_);replace d:=d.put2 B D g b.g;refine ai (kZ (cU ?_));refine cN (cQ (aa b [.c,.v (pB rb),.v (qP rb 2),.o (nV be) 2 2 1] ?_));cases zc:(decide ((be:Int)<(0:Int)))
  .
   have ze:=oF zc;refine lB 10 zc (ah (CG.exit ?_))
   show CG _ _ _ _ _ _ _ _
   refine aa b [.o (aY C) 0 0 7] (ce 1 0 (ax C) b (fun _ B b=>?_));replace d:=d.put2 B l g b.g;exact lN (kX (b.retM d [(1,0,7)] (aY C) (⟨_,rfl,b.own 2⟩)))
  have ze:=oT zc;refine lB 10 zc (ak (cK (kZ (kZ (aa b ac (bn 14 (dK rb s z be 42 _ _ b.g (b.own 2) (b.jk 2) b.f.1) ?_))))));rintro _ _ _ u19 ⟨rfl,b7⟩;replace b:=(b.stepM 2 u19 b7).to [⟨b9,45,ax C⟩,⟨F,45,ax ⟨0,0,false,none,0,0,none,0,0,⟨#[]⟩,none,0,0⟩⟩,⟨rb,64,[.string s,nV s.size,nV be]⟩] [];replace d:=d.trans u19;refine lL b ac (ah (aa b ac (bn 21 (dK rb s z be 47 _ _ b.g (b.own 2) (b.jk 2) b.f.1) ?_)));rintro _ _ _ u23 ⟨rfl,bq⟩;replace b:=(b.stepM 2 u23 bq).to [⟨b9,45,ax C⟩,⟨F,45,ax ⟨0,0,false,none,0,0,none,0,0,⟨#[]⟩,none,0,0⟩⟩,⟨rb,64,[.string s,nV s.size,nV be]⟩] [];replace d:=d.trans u23;refine lL b ac (ah (aa b [.o (aY C) 0 0 7] (ce 1 0 (ax C) b (fun _ B b=>?_))));replace d:=d.put2 B l g b.g;exact lN (kX (b.retM d [(1,0,7)] (aY C) (⟨_,rfl,b.own 2⟩)))
 refine bn 5 (X n (nR _) rb s z a ha (.ok t1 y1) hq1 _ _ b.g (b.own 1) (b.jk 1) b.f.1) ?_;rintro _ _ _ u28 ⟨H,rfl,b5,b3,br⟩;replace b:=(b.stepM 1 u28 b3).to [⟨F,45,ax ⟨0,0,false,none,0,0,none,0,0,⟨#[]⟩,none,0,0⟩⟩,⟨rb,64,[.string s,nV y1,iV (-1)]⟩] [];replace d:=d.trans u28;replace b:=(b.add (K:=fun y=>RtH y H t1) br);refine fr 3 45 (ax ⟨0,0,false,none,0,0,none,0,0,⟨#[]⟩,none,0,0⟩) b (fun O _ zf u32 e b=>?_);replace e:=ed d.gr.size e;replace d:=d.trans (u32.m _);refine ce 0 0 (ax H) b (fun _ B b=>?_);replace d:=d.put2 B e g b.g;refine ai (kZ ?_);replace b:=b.add (K:=fun y=>LpS nf bf s true r n H t1 y1 (-1) y) ((.inl ⟨rfl,b5,hq2,b.f.1⟩));refine bG _ (CG.loop (fun μ_ Γ w_=>∃ (m:Nat)(x:RTm)(u:Tm)(k:Nat)(bd1:Int)(y:Hp),μ_=m/\Γ=[(0,pB rb),(2,pB F),(3,pB O)]/\SS wz cz w_ y [⟨O,45,ax x⟩,⟨F,45,ax ⟨0,0,false,none,0,0,none,0,0,⟨#[]⟩,none,0,0⟩⟩,⟨rb,64,[.string s,nV k,iV bd1]⟩] [] [fun y=>LpS nf bf s true r m x u k bd1 y,fun y=>RtH y H t1,fun y=>Tab y]/\m<=n/\UpM [rb] w h w_ y) _ ⟨n,H,t1,y1,(-1),zf,rfl,rfl,b.to _ _,nR _,d⟩ ?_);rintro _ _ _ ⟨m,x,u,k,bd1,_,dc,rfl,b,hm,d⟩;refine cQ (aG ?_)
 rcases b.f.1 with ⟨rfl,hk,hq,hT⟩|⟨be,rfl,rfl,rfl⟩
 .
  replace b:=b.to [⟨O,45,ax x⟩,⟨F,45,ax ⟨0,0,false,none,0,0,none,0,0,⟨#[]⟩,none,0,0⟩⟩,⟨rb,64,[.string s,nV k,iV (-1)]⟩] [];replace b:=b.add (K:=fun y=>RtH y x u) hT;obtain ⟨U,rfl⟩:=iu hq;have df:=bD (s:=s) (a:=k) hk;refine lL b [.c,.v (pB rb),.v (qP rb 2),.o (iV (-1)) 2 2 1,.v qT] (ak (cK (kZ (kZ (aa b ac ?_)))));have c4:=bD (s:=s) (a:=k) oM;refine bn 14 (iK rb s z k oM 42 kD _ _ b.g (b.own 2) (b.jk 2) b.f.r.2.1) ?_;rintro _ _ _ Y (⟨rfl,I,c5,J⟩|⟨rfl,I,J⟩)
  .
   replace b:=(b.stepM 2 Y J).to [⟨O,45,ax x⟩,⟨F,45,ax ⟨0,0,false,none,0,0,none,0,0,⟨#[]⟩,none,0,0⟩⟩,⟨rb,64,[.string s,nV (sk s k+1),iV (-1)]⟩] [];replace d:=d.trans Y;have hcT:=I;refine lL b ac (ak (CG.region ⟨[rb],none⟩ 4 [] mixed kR b.g aw (fun _ hb=>by rw[o0.1 hb];exact aI (b.jk 2)) ?_));refine eO 0 15 [(0,0,7)] (aY x) b ?_ (hM:=fun p X=>by obtain rfl:=o0.1 X;exact fun hm=>cB b.st (i:=0) (j:=2) kR kR kR (o0.1 hm));refine eV 1 16 (pB rb) ?_
   rcases cJ (xG hq hcT) with ⟨be,he,hre⟩|⟨v1,e1,hv1,hw1⟩
   .
    refine i0 2 17 b d (o0.2 rfl) (o0.2 rfl) (fun _ _ b=>X U oM rb s z (sk s k+1) oM (.err be) he _ _ b.g (b.own 2) (b.jk 2) b.f.r.2.1) ?_;rintro _ _ _ _ _ b u44 d ⟨cx,rfl,bt⟩;replace b:=(b.stepM 2 u44 bt).to [⟨O,45,ax x⟩,⟨F,45,ax ⟨0,0,false,none,0,0,none,0,0,⟨#[]⟩,none,0,0⟩⟩,⟨rb,64,[.string s,nV s.size,nV be]⟩] [];refine io 3 18 b d (fun _ _ b=>rr 5 x cx _ _ b.g) ?_;rintro _ _ _ _ _ d b ⟨V,rfl⟩;refine bL b (fun _ zg u50 b=>?_);replace d:=d.trans (u50.m _);refine km 4 0 0 (ax V) b (fun _ B b=>?_);replace d:=d.put2 B e g b.g;refine tD ?_;intro a_ ka;replace b:=(b.tl.tl.add (K:=fun y=>LpS nf bf s true r U V u s.size (be:Nat) y) (.inr ⟨be,hre,rfl,rfl⟩));refine ⟨_,_,?_,⟨U,V,u,s.size,(be:Nat),zg,rfl,rfl,b.to _ _,oM,d⟩,ka.to _ kR⟩
    omega
   refine i0 2 17 b d (o0.2 rfl) (o0.2 rfl) (fun _ _ b=>X U oM rb s z (sk s k+1) oM (.ok v1 e1) hv1 _ _ b.g (b.own 2) (b.jk 2) b.f.r.2.1) ?_;rintro _ _ _ _ _ b u58 d ⟨bd,rfl,c7,b4,bp⟩;replace b:=(b.stepM 2 u58 b4).to [⟨O,45,ax x⟩,⟨F,45,ax ⟨0,0,false,none,0,0,none,0,0,⟨#[]⟩,none,0,0⟩⟩,⟨rb,64,[.string s,nV e1,iV (-1)]⟩] [];replace b:=(b.add (K:=fun y=>RtH y bd v1) bp);refine io 3 18 b d (fun _ _ b=>sD 5 x bd u v1 _ _ b.g b.f.2.1 b.f.1) ?_;rintro _ _ _ _ _ d b ⟨S,rfl,ch⟩;replace b:=(b.add (K:=fun y=>RtH y S (bz 5 u v1)) ch);refine bL b (fun _ zi u64 b=>?_);replace d:=d.trans (u64.m _);refine km 4 0 0 (ax S) b (fun _ B b=>?_);replace d:=d.put2 B e g b.g;refine tD ?_;intro a_ ka;replace b:=(b.tl.tl.tl.tl.add (K:=fun y=>LpS nf bf s true r U S (bz 5 u v1) e1 (-1) y) (.inl ⟨rfl,by omega,hw1,b.f.1⟩));refine ⟨_,_,?_,⟨U,S,(bz 5 u v1),e1,(-1),zi,rfl,rfl,b.to _ _,oM,d⟩,ka.to _ kR⟩
   omega
  replace b:=(b.stepM 2 Y J).to [⟨O,45,ax x⟩,⟨F,45,ax ⟨0,0,false,none,0,0,none,0,0,⟨#[]⟩,none,0,0⟩⟩,⟨rb,64,[.string s,nV (sk s k),iV (-1)]⟩] [];replace d:=d.trans Y;have hcF:=I;refine lL b ac (ah (aa b ac ?_));have c3:=bD (s:=s) (a:=(sk s k)) oM;refine bn 21 (m9 rb s z (sk s k) oM 47 kD (pH _ _) _ _ b.g (b.own 2) (b.jk 2) b.f.r.2.1) ?_;rintro _ _ _ u72 (⟨rfl,L,c8,M⟩|⟨rfl,L,M⟩)
  .
   replace b:=(b.stepM 2 u72 M).to [⟨O,45,ax x⟩,⟨F,45,ax ⟨0,0,false,none,0,0,none,0,0,⟨#[]⟩,none,0,0⟩⟩,⟨rb,64,[.string s,nV ((sk s k)+1),iV (-1)]⟩] [];replace d:=d.trans u72;have cm:=L;refine lL b ac (ak (CG.region ⟨[rb],none⟩ 4 [] mixed kR b.g aw (fun _ hb=>by rw[o0.1 hb];exact aI (b.jk 2)) ?_));refine eO 0 22 [(0,0,7)] (aY x) b ?_ (hM:=fun p X=>by obtain rfl:=o0.1 X;exact fun hm=>cB b.st (i:=0) (j:=2) kR kR kR (o0.1 hm));refine eV 1 23 (pB rb) ?_
   rcases cJ (vq hq hcF cm) with ⟨be,he,hre⟩|⟨v1,e1,hv1,hw1⟩
   .
    refine i0 2 24 b d (o0.2 rfl) (o0.2 rfl) (fun _ _ b=>X U oM rb s z ((sk s k)+1) oM (.err be) he _ _ b.g (b.own 2) (b.jk 2) b.f.r.2.1) ?_;rintro _ _ _ _ _ b u76 d ⟨cq,rfl,b0⟩;replace b:=(b.stepM 2 u76 b0).to [⟨O,45,ax x⟩,⟨F,45,ax ⟨0,0,false,none,0,0,none,0,0,⟨#[]⟩,none,0,0⟩⟩,⟨rb,64,[.string s,nV s.size,nV be]⟩] [];refine io 3 25 b d (fun _ _ b=>rr 6 x cq _ _ b.g) ?_;rintro _ _ _ _ _ d b ⟨W,rfl⟩;refine bL b (fun _ zj u82 b=>?_);replace d:=d.trans (u82.m _);refine km 4 0 0 (ax W) b (fun _ B b=>?_);replace d:=d.put2 B e g b.g;refine tD ?_;intro a_ ka;replace b:=(b.tl.tl.add (K:=fun y=>LpS nf bf s true r U W u s.size (be:Nat) y) (.inr ⟨be,hre,rfl,rfl⟩));refine ⟨_,_,?_,⟨U,W,u,s.size,(be:Nat),zj,rfl,rfl,b.to _ _,oM,d⟩,ka.to _ kR⟩
    omega
   refine i0 2 24 b d (o0.2 rfl) (o0.2 rfl) (fun _ _ b=>X U oM rb s z ((sk s k)+1) oM (.ok v1 e1) hv1 _ _ b.g (b.own 2) (b.jk 2) b.f.r.2.1) ?_;rintro _ _ _ _ _ b u90 d ⟨bm,rfl,c6,b2,bw⟩;replace b:=(b.stepM 2 u90 b2).to [⟨O,45,ax x⟩,⟨F,45,ax ⟨0,0,false,none,0,0,none,0,0,⟨#[]⟩,none,0,0⟩⟩,⟨rb,64,[.string s,nV e1,iV (-1)]⟩] [];replace b:=(b.add (K:=fun y=>RtH y bm v1) bw);refine io 3 25 b d (fun _ _ b=>sD 6 x bm u v1 _ _ b.g b.f.2.1 b.f.1) ?_;rintro _ _ _ _ _ d b ⟨Q,rfl,b6⟩;replace b:=(b.add (K:=fun y=>RtH y Q (bz 6 u v1)) b6);refine bL b (fun _ zk u96 b=>?_);replace d:=d.trans (u96.m _);refine km 4 0 0 (ax Q) b (fun _ B b=>?_);replace d:=d.put2 B e g b.g;refine tD ?_;intro a_ ka;replace b:=(b.tl.tl.tl.tl.add (K:=fun y=>LpS nf bf s true r U Q (bz 6 u v1) e1 (-1) y) (.inl ⟨rfl,by omega,hw1,b.f.1⟩));refine ⟨_,_,?_,⟨U,Q,(bz 6 u v1),e1,(-1),zk,rfl,rfl,b.to _ _,oM,d⟩,ka.to _ kR⟩
   omega
  replace b:=(b.stepM 2 u72 M).to [⟨O,45,ax x⟩,⟨F,45,ax ⟨0,0,false,none,0,0,none,0,0,⟨#[]⟩,none,0,0⟩⟩,⟨rb,64,[.string s,nV (sk s k),iV (-1)]⟩] [];replace d:=d.trans u72;have cy:=L;refine lL b ac (ah (aa b [.o (aY x) 0 0 7] (ce 1 0 (ax x) b (fun _ B b=>?_))));replace d:=d.put2 B l g b.g;refine lN (kX ?_);obtain rfl:=vh hq hcF cy;exact b.retM d [(1,0,7)] (aY x) (⟨x,rfl,by omega,b.own 2,b.f.1⟩)
 replace b:=b.to [⟨O,45,ax x⟩,⟨F,45,ax ⟨0,0,false,none,0,0,none,0,0,⟨#[]⟩,none,0,0⟩⟩,⟨rb,64,[.string s,nV s.size,nV be]⟩] [];refine lL b [.c,.v (pB rb),.v (qP rb 2),.o (nV be) 2 2 1] ?_;cases zb:(decide ((be:Int)<(0:Int)))
 .
  have zd:=oF zb;refine lB 10 zb (ah (CG.exit ?_))
  show CG _ _ _ _ _ _ _ _
  refine aa b [.o (aY x) 0 0 7] (ce 1 0 (ax x) b (fun _ B b=>?_));replace d:=d.put2 B l g b.g;exact lN (kX (b.retM d [(1,0,7)] (aY x) (⟨_,rfl,b.own 2⟩)))
 have zd:=oT zb;refine lB 10 zb (ak (cK (kZ (kZ (aa b ac (bn 14 (dK rb s z be 42 _ _ b.g (b.own 2) (b.jk 2) b.f.r.1) ?_))))));rintro _ _ _ bk ⟨rfl,Z⟩;replace b:=(b.stepM 2 bk Z).to [⟨O,45,ax x⟩,⟨F,45,ax ⟨0,0,false,none,0,0,none,0,0,⟨#[]⟩,none,0,0⟩⟩,⟨rb,64,[.string s,nV s.size,nV be]⟩] [];replace d:=d.trans bk;refine lL b ac (ah (aa b ac (bn 21 (dK rb s z be 47 _ _ b.g (b.own 2) (b.jk 2) b.f.r.1) ?_)));rintro _ _ _ bl ⟨rfl,bb⟩;replace b:=(b.stepM 2 bl bb).to [⟨O,45,ax x⟩,⟨F,45,ax ⟨0,0,false,none,0,0,none,0,0,⟨#[]⟩,none,0,0⟩⟩,⟨rb,64,[.string s,nV s.size,nV be]⟩] [];replace d:=d.trans bl;refine lL b ac (ah (aa b [.o (aY x) 0 0 7] (ce 1 0 (ax x) b (fun _ B b=>?_))));replace d:=d.put2 B l g b.g;exact lN (kX (b.retM d [(1,0,7)] (aY x) (⟨_,rfl,b.own 2⟩)))
end
def bY (x:ByteArray):Option Nat:=if x.size<=200 then ef x else none
def cb (c b:Nat):Bool:=decide (b≠c)
def en (x:ByteArray):Option Int:=if aj x 0=45 then (match bY (x.extract 1 x.size) with
    | some k=>if k=0 then none else some (-(k:Int))
    | none=>none) else (bY x).map fun k=>(k:Int)
def fK (x y:ByteArray):Option Rat:=match bY (if aj x 0=45 then x.extract 1 x.size else x) with
  | some k=>if 1<=y.size/\y.size<=200/\(∀ i,i<y.size->bM (aj y i)=true) then some (mkRat (bE (decide (aj x 0=45)) (k*10^y.size+dv y y.size)) (10^y.size)) else none
  | none=>none
def iF (x y:ByteArray):Option Rat:=match en x with
  | some n=>match bY y with
    | some d=>if d=0 then none else some (mkRat n d)
    | none=>none
  | none=>none
def cF (x:ByteArray):Option Rat :=
  if rn (cb 47) x 0<x.size then iF (x.extract 0 (rn (cb 47) x 0)) (x.extract (rn (cb 47) x 0+1) x.size)
  else if rn (cb 46) x 0<x.size then fK (x.extract 0 (rn (cb 46) x 0)) (x.extract (rn (cb 46) x 0+1) x.size)
  else (en x).map fun z=>(z:Rat)
def fN (n:Nat):ByteArray:=⟨(Lib.decDigits n).toArray⟩
def iS (z:Int):ByteArray:=if z<0 then ⟨#[45]⟩++fN z.natAbs else fN z.natAbs
def ug (q:Rat):ByteArray:=if q.den=1 then iS q.num else iS q.num++⟨#[47]⟩++fN q.den
def jQ (x:ByteArray):Option Rat:=match cF x with
  | some q=>if ug q=x then some q else none
  | none=>none
def dD (n:Nat):List UInt8:=if n=0 then [] else Lib.decDigits n
def mJ (n:Nat):UInt8:=UInt8.ofNat (48+n)
theorem lk {n:Nat}(h:n≠0):dD n=Lib.decDigits n:=if_neg h
theorem nJ {n:Nat}(h:n≠0):dD n=dD (n/10)++[mJ (n%10)]:=by
 rw[lk h,Lib.decDigits]
 by_cases h1:n<10
 ·rw[dif_pos h1,zY h1,u9 h1];rfl
 ·rw[dif_neg h1,lk oM];rfl
theorem DL {n:Nat}(h:dD n=[]):n=0:=by
 refine Kj fun h1=>?_
 rw[nJ h1] at h
 exact absurd h (by simp)
def uq:Nat->Nat->List UInt8
  | 0,_=>[]
  | m+1,r=>uq m (r/10)++[mJ (r%10)]
theorem vy:∀ (m q r:Nat),q≠0->r<10^m->dD (q*10^m+r)=dD q++uq m r
  | 0,q,r,h,hr=>by
    have:r=0:=by rw[JG] at hr;omega
    subst this;rw[JG,I1,sw];exact (List.append_nil _).symm
  | m + 1,q,r,h,hr=>by
    have e:q*10^(m+1)+r=(q*10^m+r/10)*10+r%10:=by
      rw[z1,I4,<-z8];omega
    have a:0<q*10^m:=Nat.mul_pos (Jf h) (F2 kD);rw[e,nJ oM,show ((q*10^m+r/10)*10+r%10)/10=q*10^m+r/10 by omega,show ((q*10^m+r/10)*10+r%10)%10=r%10 by omega,vy m q (r/10) h (by rw[z1] at hr;omega),Kk]
    rfl
theorem fi:∀ (m r:Nat),0<m->r<10^m->Lib.nDigits r<=m
  | 0,_,h,_=>absurd h oM
  | m + 1,r,_,h=>by
    by_cases h1:r<10
    . rw[Lib.nDigits_small h1];omega
    . rw[Lib.nDigits_big h1]
      have a:0<m:=Jf fun e=>by subst e;rw[tv,Nat.pow_one] at h;omega
      have:=fi m (r/10) a (by rw[z1] at h;omega)
      omega
theorem m7:∀ m,uq m 0=um m 48
  | 0=>rfl
  | m+1=>by
    show uq m (0/10)++[mJ (0%10)]=_
    rw[Nat.zero_div,m7 m,List.replicate_succ']
    rfl
theorem sI:∀ (m r:Nat),0<m->r<10^m->uq m r=um (m-Lib.nDigits r) 48++Lib.decDigits r
  | 0,_,h,_=>absurd h oM
  | m + 1,r,_,h=>by
    show uq m (r/10)++[mJ (r%10)]=_
    rw[Lib.decDigits]
    by_cases h1:r<10
    . rw[dif_pos h1,Lib.nDigits_small h1,zY h1,u9 h1,m7];rfl
    . have a:0<m:=Jf fun e=>by subst e;rw[tv,Nat.pow_one] at h;omega
      rw[dif_neg h1,Lib.nDigits_big h1,sI m (r/10) a (by rw[z1] at h;omega),Kk,Nat.add_sub_add_right];rfl
theorem xe {n:Nat}:(dD n).length<=Lib.nDigits n:=by
 unfold dD;split
 ·exact JF _
 ·rw[Lib.decDigits_length];exact eb _
theorem tI {x:Nat}(h:x<10):(mJ x).toNat=48+x:=by unfold mJ;rw[UInt8.toNat_ofNat'];omega
theorem EE {n:Nat}(h:n≠0):fN n=⟨(dD n).toArray⟩:=by rw[lk h];rfl
theorem eu (n:Nat):(fN n).size=Lib.nDigits n:=by
 show (Lib.decDigits n).toArray.size=_
 rw[List.size_toArray,Lib.decDigits_length]
theorem sO {s:ByteArray}{l:List UInt8}(h:s.data.toList=l):s=⟨l.toArray⟩:=by
 subst h;rfl
theorem ol (s t:ByteArray):(s++t).data.toList=s.data.toList++t.data.toList:=by simp
theorem dB {x:ByteArray}{k:Nat}(h:bY x=some k):x.size<=200/\ef x=some k:=by
 unfold bY at h;split at h
 ·rename_i c;exact ⟨c,h⟩
 ·cases h
theorem fZ {x:ByteArray}(h:x.size=0\/200<x.size\/(1<x.size/\aj x 0=48)):bY x=none:=by
 unfold bY;split
 ·unfold ef;rw[if_pos oM]
 ·rfl
theorem ek {x:ByteArray}{i:Nat}(hi:i<x.size)(h:¬(48<=aj x i/\aj x i<=57)):bY x=none:=by
 unfold bY;split
 ·unfold ef;rw[if_pos (.inr (.inr fun a=>h (oT (a i hi))))]
 ·rfl
theorem gQ {x:ByteArray}(h0:x.size≠0)(h1:x.size<=200)(a:¬(1<x.size/\aj x 0=48))(b:∀ i,i<x.size->48<=aj x i/\aj x i<=57):bY x=some (dv x x.size):=by
 unfold bY;rw[if_pos h1];unfold ef
 rw[if_neg];rintro (h|h|h)
 ·exact h0 h
 ·exact a h
 ·exact h fun i hi=>decide_eq_true (b i hi)
theorem cv {x:ByteArray}{k:Nat}(h:bY x=some k):k<10^200:=by
 obtain ⟨h1,a⟩:=dB h;obtain ⟨_,_,b,rfl⟩:=fb a;exact ep (fR x.size b) (A4 kD h1)
theorem oC {x:ByteArray}{k i:Nat}(h:bY x=some k)(hi:i<x.size):48<=aj x i/\aj x i<=57:=by
 obtain ⟨_,a⟩:=dB h;exact (fb a).2.2.1 i hi
theorem Dy {x:ByteArray}{k:Nat}(h:ef x=some k)(a:x.size<=3):bY x=some k:=by unfold bY;rw[if_pos oM];exact h
theorem BY {x:ByteArray}(h:ef x=none):bY x=none:=by unfold bY;split<;>first|exact h|rfl
theorem kV {x:ByteArray}{k:Nat}(h:aj x 0=45)(a:bY (x.extract 1 x.size)=some k)(h0:k≠0):en x=some (-(k:Int)):=by unfold en;rw[if_pos h,a];exact if_neg h0
theorem dP {x:ByteArray}(h:aj x 0=45)(a:bY (x.extract 1 x.size)=none\/bY (x.extract 1 x.size)=some 0):en x=none:=by
 unfold en;rw[if_pos h]
 rcases a with a|a<;>rw[a]
 rfl
theorem dy {x:ByteArray}(h:aj x 0≠45):en x=(bY x).map fun k=>(k:Int):=by unfold en;rw[if_neg h]
theorem Co {x:ByteArray}{z:Int}{i:Nat}(h:en x=some z)(hi:i<x.size):aj x i≠46/\aj x i≠47:=by
  by_cases c:aj x 0=45
  . cases a:bY (x.extract 1 x.size) with
    | none=>rw[dP c (.inl a)] at h;cases h
    | some k =>
      by_cases e:i=0
      . subst e;omega
      . have:=oC (i:=i-1) a (by rw[ByteArray.size_extract];omega)
        rw[dd,show 1+(i-1)=i by omega] at this;omega
  . rw[dy c] at h
    cases a:bY x with
    | none=>rw[a] at h;cases h
    | some k=>have:=oC a hi;omega
theorem jo {x:ByteArray}{z:Int}(h:en x=some z):z.natAbs<10^200:=by
  by_cases c:aj x 0=45
  . cases a:bY (x.extract 1 x.size) with
    | none=>rw[dP c (.inl a)] at h;cases h
    | some k =>
      have b:=cv a
      by_cases e:k=0
      . subst e;rw[dP c (.inr a)] at h;cases h
      . rw[kV c a e] at h;injection h with h;subst h;rw[Int.natAbs_neg,Int.natAbs_natCast];exact b
  . rw[dy c] at h
    cases a:bY x with
    | none=>rw[a] at h;cases h
    | some k=>rw[a] at h;injection h with h;subst h;exact cv a
theorem n6 {s:ByteArray}{m i:Nat}(a:m<=s.size)(h:i<m):aj (s.extract 0 m) i=aj s i:=by
 unfold aj
 rw[B1,B1,show (s.extract 0 m).data.toList=s.data.toList.take m by simp,rh h]
theorem dW {x y:ByteArray}{i:Nat}(hi:i<y.size)(h:¬(48<=aj y i/\aj y i<=57)):fK x y=none:=by
 unfold fK;split
 ·rw[if_neg];rintro ⟨_,_,a⟩;exact h (oT (a i hi))
 ·rfl
section
variable {x y u:ByteArray}(hu:(if aj x 0=45 then x.extract 1 x.size else x)=u)
include hu
theorem iJ (a:bY u=none):fK x y=none:=by unfold fK;rw[hu,a]
theorem fl {k:Nat}(a:bY u=some k)(h:y.size=0\/200<y.size):fK x y=none:=by
 unfold fK;rw[hu,a]
 exact if_neg fun c=>by omega
theorem g8 {k:Nat}{b:Bool}(d:decide (aj x 0=45)=b)(e:bY u=some k)(h1:y.size≠0)(a:y.size<=200)(c:∀ i,i<y.size->48<=aj y i/\aj y i<=57):fK x y=some (mkRat (bE b (k*10^y.size+dv y y.size)) (10^y.size)):=by
 unfold fK;rw[hu,e,d]
 exact if_pos ⟨by omega,a,fun i hi=>decide_eq_true (c i hi)⟩
end
theorem jK {k n d:Nat}(c:k<10^200)(a:n<=200)(b:d<10^n):k*10^n+d<10^200*10^200:=by
 have h1:(k+1)*10^n<=10^200*10^200:=Jo c (A4 kD a);rw[I4,Nat.one_mul] at h1
 exact ep (Nat.add_lt_add_left b _) h1
theorem kc {c:Nat}{x:ByteArray}(h:rn (cb c) x 0<x.size):aj x (rn (cb c) x 0)=c:=Kj fun e=>by
 have:=ju (cb c) x (x.size-0) 0 (eb _) h;exact absurd (oF this) (by unfold cb rn at *;intro a;exact a e)
theorem f6 {p:Nat->Bool}{x:ByteArray}:∀ f a i,a<=i->i<pn p x f a->p (aj x i)=true
  | 0,a,i,h1,b=>by have b:i<a:=b;omega
  | f + 1,a,i,h1,b=>by
    unfold pn at b
    split at b
    . rename_i c
      by_cases e:i=a
      . subst e;exact c.2
      . exact f6 f (a+1) i oM b
    . omega
theorem C8 {c:Nat}{x:ByteArray}{j:Nat}(a:j<x.size)(h1:∀ i,i<j->aj x i≠c)(b:aj x j=c):rn (cb c) x 0=j :=
 dX (JF _) (JM a) (fun i _ hi=>decide_eq_true (h1 i hi)) (.inr (decide_eq_false fun h=>h b))
theorem rY {c:Nat}{x:ByteArray}(h1:∀ i,i<x.size->aj x i≠c):rn (cb c) x 0=x.size :=
 dX (JF _) (eb _) (fun i _ hi=>decide_eq_true (h1 i hi)) (.inl rfl)
theorem ff {x:ByteArray}{j:Nat}(a:j<x.size)(h1:∀ i,i<j->aj x i≠47)(b:aj x j=47):cF x=iF (x.extract 0 j) (x.extract (j+1) x.size):=by
 unfold cF;rw[C8 a h1 b,if_pos a]
theorem qr {x:ByteArray}{j:Nat}(b:j<x.size)(h1:∀ i,i<j->aj x i≠46/\aj x i≠47)(d:aj x j=46):cF x=fK (x.extract 0 j) (x.extract (j+1) x.size):=by
  unfold cF
  split
  . rename_i c
    have e:=kc c
    have a:j<rn (cb 47) x 0:=by
      rcases Nat.lt_trichotomy j (rn (cb 47) x 0) with h|h|h
      . exact h
      . rw[<-h] at e;omega
      . have:=(h1 _ h).2;omega
    rw[dW (i:=rn (cb 47) x 0-(j+1)) (by rw[ByteArray.size_extract];omega) (by rw[dd,show j+1+(rn (cb 47) x 0-(j+1))=rn (cb 47) x 0 by omega,e];omega)]
    unfold iF
    cases hz:en (x.extract 0 (rn (cb 47) x 0)) with
    | none=>rfl
    | some z =>
      have:=Co (i:=j) hz (by rw[ByteArray.size_extract];omega);rw[n6 oM a] at this
      exact absurd d this.1
  . rw[C8 b (fun i hi=>(h1 i hi).1) d,if_pos b]
theorem k8 {x:ByteArray}(h1:∀ i,i<x.size->aj x i≠46/\aj x i≠47):cF x=(en x).map fun z=>(z:Rat):=by
 unfold cF
 rw[rY fun i hi=>(h1 i hi).2,if_neg (Kl _),rY fun i hi=>(h1 i hi).1,if_neg (Kl _)]
theorem p7 {c:UInt8}:∀ {l:List UInt8} {o:Nat},l[o]?=some c->(∀ k,k<o->l[k]?≠some c)->Lib.indexByte l c=(o:Int)
  | [],o,h,_=>by simp at h
  | b::l,0,h,_=>by
    simp at h
    subst h
    unfold Lib.indexByte
    simp
  | b :: l,o+1,h,hk=>by
    have e:(b == c)=false:=by
      have:=hk 0 (Nat.succ_pos o)
      simpa using this
    have a:=p7 (l:=l) (o:=o) (by simpa using h) (fun k d=>by have:=hk (k+1) (Nat.succ_lt_succ d);simpa using this)
    unfold Lib.indexByte
    rw[e,a]
    have:((o:Int) == -1)=false:=by
      rw[beq_eq_false_iff_ne];omega
    rw[this];simp
theorem rt {p:Nat->Bool}{s:ByteArray}:∀ f a i,a<=i->i<pn p s f a->p (aj s i)=true
  | 0,a,i,h1,b=>by
    have b:i<a:=b
    omega
  | f + 1,a,i,h1,b=>by
    unfold pn at b
    split at b
    . rename_i c
      rcases Nat.eq_or_lt_of_le h1 with e|e
      . rw[<-e];exact c.2
      . exact rt f (a+1) i e b
    . omega
theorem xn {p:Nat->Bool}{s:ByteArray}{a i:Nat}(h1:a<=i)(b:i<rn p s a):p (aj s i)=true:=rt _ a i h1 b
theorem r5 {p:Nat->Bool}{s:ByteArray}{a:Nat}(h:rn p s a<s.size):p (aj s (rn p s a))=false:=ju p s _ a (eb _) h
theorem te {s:ByteArray}{i j k:Nat}(h:i+k<j)(a:j<=s.size):(s.extract i j).data.toList[k]?=s.data.toList[i+k]?:=by
 have b:s.data.size=s.size:=rfl;rw[ByteArray.data_extract]
 simp only[Array.toList_extract,List.extract_eq_take_drop]
 rw[rh oM,List.getElem?_drop]
theorem iU {s:ByteArray}{i:Nat}(h:i<s.size):s.data.toList[i]?=some (s.data.toList.getD i 0):=by
 rw[B1];have a:i<s.data.toList.length:=by simpa using h
 rw[Km a];rfl
theorem Af {s:ByteArray}{a:Nat}(ha:a<=s.size)(j:rn cg s a≠s.size):Lib.indexByte (s.extract a s.size).data.toList 93=((rn cg s a-a:Nat):Int):=by
 have h1:=fV cg s a;have f:rn cg s a<s.size:=by have:=dC (p:=cg) ha;omega
 refine p7 ?_ (fun k l e=>?_)
 ·rw[te oM (eb _),show a+(rn cg s a-a)=rn cg s a by omega,iU f]
  have b:=r5 f
  have d:aj s (rn cg s a)=93:=Kj fun h=>by
   have c:cg (aj s (rn cg s a))=true:=decide_eq_true h;rw[c] at b;cases b
  congr 1
  exact UInt8.toNat.inj d
 ·rw[te oM (eb _),iU oM] at e
  injection e with e
  have b:=xn (p:=cg) (s:=s) (a:=a) (i:=a+k) oM oM;have d:aj s (a+k)=93:=by unfold aj;rw[e];rfl
  have c:aj s (a+k)≠93:=oT b;exact c d
def vL (pb:Nat)(s:ByteArray)(t:Tm)(b:Nat)(bd:Int):Value->World->Hp->Prop:=fun v w' h'=>∃ (tb:Nat)(p:PTm),v=.pointer (some ⟨tb,0,none⟩)/\b<=s.size/\Own w' pb 56 [.string s,.int .i64 (b:Nat),.int .i64 bd]/\Seg h' tb 0 (bv p)/\PtH h' p t
def PC (nf bf:ByteArray->Option Rat)(f:FuncId)(n:Nat)(k:PKd):Prop:=∀ (pb:Nat) (s:ByteArray),s.size<=1000000->∀ (a:Nat),a<=s.size->∀ (bd:Int) (t:Tm) (b:Nat),bj nf bf s n k a=some (.ok t b)->∀ (w:World) (h:Hp),G w h->Own w pb 56 [.string s,nV a,iV bd]->h[pb]?=some junk->Tab h->Calls Tryz.prog f #[pB pb] w (bV pb w h (vL pb s t b bd))
theorem iH  (b:Nat)(s:ByteArray)(hsz:s.size<=1000000)(a:Nat)(ha:a<=s.size)(S:Int)(w:World)(h:Hp)(g:G w h)(ho:Own w b 56 [.string s,nV a,iV S])(hj:h[b]?=some junk)(Y:Tab h):Calls Tryz.prog 10 #[pB b] w (bV b w h fun v w' _=>v=.int .u8 (aj s (sk s a):Nat)/\Own w' b 56 [.string s,nV (sk s a),iV S]):=by
 have e:UpM [b] w h w h:=UpM.refl g;obtain ⟨wz,z,d⟩:=SS.at_ g ho hj;replace d:=(d.add (K:=fun l=>Tab l) Y);refine go Tryz.func10 [(0,pB b)] rfl (aa d ac (ai (kZ ?_)));refine bG _ (CG.loop (fun U Γ W=>∃ (k:Nat)(l:Hp),U=s.size-k/\Γ=[(0,pB b),(2,.int .u8 0)]/\SS wz z W l [⟨b,56,[.string s,nV k,iV S]⟩] [] [fun l=>Tab l]/\a<=k/\k<=s.size/\UpM [b] w h W l/\(∀ i,a<=i->i<k->x7 (aj s i)=true)) _ ⟨a,h,rfl,rfl,d.to _ _,nR _,ha,e,(fun i h1 Q=>absurd h1 oM)⟩ ?_);rintro _ _ w1 ⟨k,Q,hm3,rfl,d,B,D,e,y⟩;refine cQ (cQ (cR 22 [] mixed d aw ?_));refine eV 0 3 (pB b) (eV 1 4 (pB b) (eV 2 5 (qP b 1) (eO 3 6 [(0,1,1)] (nV k) d (eV 4 7 (pB b) (eV 5 8 (pB b) (eV 6 9 (pB b) (eO 7 10 [(0,0,1)] (.string s) d (eV 8 11 (nV s.size) ?_))))))));cases f:(decide ((k:Int)<(s.size:Int)))
 .
  have C:=oF f;refine eB 9 12 f (eV 10 13 qF (eG 11 14 (eG 12 15 (eG 13 16 (eG 14 17 (eG 15 18 (eG 16 19 (eG 17 20 (eG 18 21 (eG 19 22 (eG 20 23 (eV 21 24 qF (bL d (fun w5 h6 Z d=>?_))))))))))))));replace e:=e.trans (Z.m _);refine tN (cV (CG.exit ?_))
  show CG _ _ _ _ _ _ _ _
  refine cQ (cQ (cR 10 [] mixed d aw ?_));refine eV 0 32 (pB b) (eV 1 33 (pB b) (eV 2 34 (qP b 1) (eO 3 35 [(0,1,1)] (nV k) d (eV 4 36 (pB b) (eV 5 37 (pB b) (eV 6 38 (pB b) (eO 7 39 [(0,0,1)] (.string s) d (eV 8 40 (nV s.size) ?_))))))));have ⟨M,X⟩:=dF (p:=(k:Int)<(s.size:Int)) oM;refine eB 9 41 M (bL d (fun w9 _ H d=>?_));replace e:=e.trans (H.m _);refine tN (cV (cK (aa d ac (lN (kX ?_)))));have u:sk s a=k:=dX B D y (by first|exact .inl oM|exact .inr (decide_eq_false oM));exact d.retM e [] (.int .u8 0) (by rw[u,cw oM];exact ⟨rfl,d.own 0⟩)
 have C:=oT f;refine eB 9 12 f (eV 10 13 qT (eV 11 14 (pB b) (eV 12 15 (pB b) (eV 13 16 (pB b) (eO 14 17 [(0,0,1)] (.string s) d (eV 15 18 (pB b) (eV 16 19 (pB b) (eV 17 20 (qP b 1) (eO 18 21 [(0,1,1)] (nV k) d (eV 19 22 (.int .u8 (aj s k:Nat)) ?_ (hv:=fun _=>aR (tx:=9) (x:=.tmp 17) (i:=.tmp 21) (k:=.i64) (s:=s) (n:=k) (j:=(k:Int)) kR kR kR kR oM oM _)))))))))));cases F:(((aj s k:Nat):Int) == (32:Int))
 .
  have zb:=ao F;refine eB 20 23 F (eV 21 24 qF (bL d (fun _ _ O d=>?_)));replace e:=e.trans (O.m _);refine tN (cV (CG.exit ?_))
  show CG _ _ _ _ _ _ _ _
  refine cQ (cQ (cR 10 [] mixed d aw ?_));refine eV 0 32 (pB b) (eV 1 33 (pB b) (eV 2 34 (qP b 1) (eO 3 35 [(0,1,1)] (nV k) d (eV 4 36 (pB b) (eV 5 37 (pB b) (eV 6 38 (pB b) (eO 7 39 [(0,0,1)] (.string s) d (eV 8 40 (nV s.size) ?_))))))));have ⟨zc,I⟩:=dT (p:=(k:Int)<(s.size:Int)) oM;refine eB 9 41 zc (bL d (fun _ _ V d=>?_));replace e:=e.trans (V.m _);refine tN (ci (cQ (cR 9 [] mixed d aw ?_)));refine eV 0 42 (pB b) (eV 1 43 (pB b) (eV 2 44 (pB b) (eO 3 45 [(0,0,1)] (.string s) d (eV 4 46 (pB b) (eV 5 47 (pB b) (eV 6 48 (qP b 1) (eO 7 49 [(0,1,1)] (nV k) d (eV 8 50 (.int .u8 (aj s k:Nat)) ?_ (hv:=fun _=>aR (tx:=9) (x:=.tmp 45) (i:=.tmp 49) (k:=.i64) (s:=s) (n:=k) (j:=(k:Int)) kR kR kR kR oM oM _)))))))));refine bL d (fun _ _ J d=>?_);replace e:=e.trans (J.m _);refine tV 9 2 (.int .u8 (aj s k:Nat)) (tN (bG [(2,.int .u8 (aj s k:Nat))] ?_));refine kX ?_;have u:sk s a=k:=dX B D y (by first|exact .inl oM|exact .inr (decide_eq_false oM));exact d.retM e [] (.int .u8 (aj s k:Nat)) (by rw[u];exact ⟨rfl,d.own 0⟩)
 have zb:=eq_of_beq F;refine eB 20 23 F (eV 21 24 qT (bL d (fun _ zd L d=>?_)));replace e:=e.trans (L.m _);refine tN (ci (cK (kZ (kQ (lL d [.c,.v (pB b),.v (qP b 1),.o (nV k) 0 1 1] (bg 29 ((k:Nat)+1) (k+1) ?_))))));refine lL d [.v (pB b),.v (qP b 1)] (ce 0 1 ([nV (k+1)]) d (fun _ pu d=>?_));replace e:=e.put pu (o0.2 rfl) d.g;refine lD ?_;intro a_ ka;refine ⟨_,_,?_,⟨k+1,zd,rfl,rfl,d.to _ _,oM,oM,e,(fun i h1 Q=>by rcases Kf.1 Q with l|rfl;exact y i h1 l;exact decide_eq_true oM)⟩,ka.to _ kR⟩
 omega
theorem fx  (d:Nat)(s:ByteArray)(u:s.size<=1000000)(a:Nat)(ha:a<=s.size)(l:Int)(c:Nat)(I:c≠0)(w:World)(h:Hp)(g:G w h)(H:Own w d 56 [.string s,nV a,iV l])(C:h[d]?=some junk)(B:Tab h):Calls Tryz.prog 39 #[pB d,.int .u8 (c:Nat)] w (bV d w h fun v w' _=>(v=.bool true/\aj s (sk s a)=c/\sk s a<s.size/\Own w' d 56 [.string s,nV (sk s a+1),iV l])\/(v=.bool false/\aj s (sk s a)≠c/\Own w' d 56 [.string s,nV (sk s a),iV l])):=by
 have e:UpM [d] w h w h:=UpM.refl g;obtain ⟨wz,x,b⟩:=SS.at_ g H C;replace b:=(b.add (K:=fun F=>Tab F) B);refine go Tryz.func39 [(0,pB d),(1,.int .u8 (c:Nat))] rfl (aa b ac (ai (aa b ac ?_)));have p:=bD (s:=s) (a:=a) oM;refine bn 6 (iH d s u a ha l _ _ b.g (b.own 0) (b.jk 0) b.f.1) ?_;rintro _ w2 L z ⟨rfl,j⟩;replace b:=(b.stepM 0 z j).to [⟨d,56,[.string s,nV (sk s a),iV l]⟩] [];replace e:=e.trans z;refine lL b ac ?_;cases i:(((aj s (sk s a):Nat):Int) != (c:Int))
 .
  have k:=az i;refine lB 8 i (ah (cK (aa b [.c,.v (pB d),.v (qP d 1),.o (nV (sk s a)) 0 1 1] (bg 13 ((sk s a:Nat)+1) ((sk s a)+1) ?_))));refine lL b [.v (pB d),.v (qP d 1)] (ce 0 1 ([nV ((sk s a)+1)]) b (fun J D b=>?_));replace e:=e.put D (o0.2 rfl) b.g;refine aE (lL b ac (lN (kX ?_)));have y:=cp (s:=s) (a:=sk s a) oM;exact b.retM e [] qT (.inl ⟨rfl,by omega,by omega,b.own 0⟩)
 have k:=a7 i;exact lB 8 i (ak (aa b ac (lN (kX (b.retM e [] qF (.inr ⟨rfl,by omega,b.own 0⟩))))))
theorem wT (b:Nat)(s:ByteArray)(f:s.size<=1000000)(a:Nat)(ha:a<=s.size)(d:Int)(c:Nat)(l:c≠0)(e:sk s a=a)(w:World)(h:Hp)(g:G w h)(k:Own w b 56 [.string s,nV a,iV d])(j:h[b]?=some junk)(i:Tab h):Calls Tryz.prog 39 #[pB b,.int .u8 (c:Nat)] w (bV b w h fun v w' _=>(v=.bool true/\aj s a=c/\a<s.size/\Own w' b 56 [.string s,nV (a+1),iV d])\/(v=.bool false/\aj s a≠c/\Own w' b 56 [.string s,nV a,iV d])):=by
 have q:=fx b s f a ha d c l w h g k j i;rw[e] at q;exact q
theorem jX (b:Nat)(s:ByteArray)(i:s.size<=1000000)(a:Nat)(ha:a<=s.size)(j:Int)(c:Nat)(l:c≠0)(d:aj s (sk s a)=c)(w:World)(h:Hp)(g:G w h)(y:Own w b 56 [.string s,nV a,iV j])(p:h[b]?=some junk)(k:Tab h):Calls Tryz.prog 39 #[pB b,.int .u8 (c:Nat)] w (bV b w h fun v w' _=>v=.bool true/\sk s a<s.size/\Own w' b 56 [.string s,nV (sk s a+1),iV j]) :=
 (fx b s i a ha j c l w h g y p k).mono fun e w' ⟨v,o,x,u,f⟩=>⟨v,o,x,u,by
  rcases f with ⟨h1,h2,h3,h4⟩|⟨h1,h2,h3⟩
  ·exact ⟨h1,h3,h4⟩
  ·exact absurd d h2⟩
theorem pN  (y:FuncId)(p:Nat->Bool)(J:∀ (args:Array Value) (w:World),(callFunc y args).run Tryz.prog w=.ok (.enter y args) w)(O:∀ c,c<256->∀ (w:World) (h:Hp),G w h->Calls Tryz.prog y #[.int .u8 (c:Nat)] w (Ret w h fun v _=>v=.bool (p c)))(d:Nat)(s:ByteArray)(hsz:s.size<=1000000)(a:Nat)(ha:a<=s.size)(S:Int)(w:World)(h:Hp)(g:G w h)(ho:Own w d 56 [.string s,nV a,iV S])(hj:h[d]?=some junk)(Y:Tab h):Calls Tryz.prog 101 #[pB d,.func (.func y) #[] #[]] w (bV d w h fun v w' _=>v=.string (s.extract a (rn p s a))/\Own w' d 56 [.string s,nV (rn p s a),iV S]):=by
 have f:UpM [d] w h w h:=UpM.refl g;obtain ⟨wz,C,b⟩:=SS.at_ g ho hj;replace b:=(b.add (K:=fun u=>Tab u) Y);refine go Tryz.func101 [(0,pB d),(1,.func (.func y) #[] #[])] rfl (aa b ac (aE (lL b [.c,.v (pB d),.v (qP d 1),.o (nV a) 0 1 1,.c] (ai (kZ ?_)))));refine bG _ (CG.loop (fun U Γ X=>∃ (k:Nat)(u:Hp),U=s.size-k/\Γ=[(0,pB d),(1,.func (.func y) #[] #[]),(4,eS),(5,nV a)]/\SS wz C X u [⟨d,56,[.string s,nV k,iV S]⟩] [] [fun u=>Tab u]/\a<=k/\k<=s.size/\UpM [d] w h X u/\(∀ i,a<=i->i<k->p (aj s i)=true)) _ ⟨a,h,rfl,rfl,b.to _ _,nR _,ha,f,(fun i h1 Q=>absurd h1 oM)⟩ ?_);rintro _ _ w1 ⟨k,Q,hm3,rfl,b,D,F,f,B⟩;refine cQ (cQ (cR 23 [] mixed b aw ?_));refine eV 0 10 (pB d) (eV 1 11 (pB d) (eV 2 12 (qP d 1) (eO 3 13 [(0,1,1)] (nV k) b (eV 4 14 (pB d) (eV 5 15 (pB d) (eV 6 16 (pB d) (eO 7 17 [(0,0,1)] (.string s) b (eV 8 18 (nV s.size) ?_))))))));cases l:(decide ((k:Int)<(s.size:Int)))
 .
  have H:=oF l;refine eB 9 19 l (eV 10 20 qF (eG 11 21 (eG 12 22 (eG 13 23 (eG 14 24 (eG 15 25 (eG 16 26 (eG 17 27 (eG 18 28 (eG 19 29 (eG 20 30 (eG 21 31 (eV 22 32 qF (bL b (fun w5 h6 Z b=>?_)))))))))))))));replace f:=f.trans (Z.m _);refine tN (cV (CG.exit ?_))
  show CG _ _ _ _ _ _ _ _
  refine cQ (cR 10 [] mixed b aw ?_);refine eV 0 40 (pB d) (eV 1 41 (pB d) (eV 2 42 (pB d) (eO 3 43 [(0,0,1)] (.string s) b (eV 4 44 (nV a) (eV 5 45 (pB d) (eV 6 46 (pB d) (eV 7 47 (qP d 1) (eO 8 48 [(0,1,1)] (nV k) b (eV 9 49 (.string (s.extract a k)) ?_ (hv:=fun _=>fj (tx:=9) (x:=.tmp 43) (i:=.tmp 44) (e:=.tmp 48) (k:=.i64) (k2:=.i64) (s:=s) (n:=a) (m:=k) (j:=(a:Int)) (j2:=(k:Int)) kR kR kR kR kR oM oM oM oM _))))))))));refine bL b (fun w8 h9 I b=>?_);replace f:=f.trans (I.m _);refine tV 10 4 (.string (s.extract a k)) (tN (kX ?_));have z:rn p s a=k:=dX D F B (by first|exact .inl oM|exact .inr aM);exact b.retM f [] (.string (s.extract a k)) (by rw[z];exact ⟨rfl,b.own 0⟩)
 have H:=oT l;refine eB 9 19 l (eV 10 20 qT (eV 11 21 (.func (.func y) #[] #[]) (eV 12 22 (pB d) (eV 13 23 (pB d) (eV 14 24 (pB d) (eO 15 25 [(0,0,1)] (.string s) b (eV 16 26 (pB d) (eV 17 27 (pB d) (eV 18 28 (qP d 1) (eO 19 29 [(0,1,1)] (nV k) b (eV 20 30 (.int .u8 (aj s k:Nat)) ?_ (hv:=fun _=>aR (tx:=9) (x:=.tmp 25) (i:=.tmp 29) (k:=.i64) (s:=s) (n:=k) (j:=(k:Int)) kR kR kR kR oM oM _))))))))))));refine io 21 31 b f (fun _ _ b=>O ((aj s k)) (bh _ _) _ _ b.g) ?_ (hv:=fun _=>Eq.trans kR (J _ _));rintro _ _ _ _ _ f b rfl;cases W:(p ((aj s k)))
 .
  refine eV 22 32 qF (bL b (fun _ _ L b=>?_));replace f:=f.trans (L.m _);refine tN (cV (CG.exit ?_))
  show CG _ _ _ _ _ _ _ _
  refine cQ (cR 10 [] mixed b aw ?_);refine eV 0 40 (pB d) (eV 1 41 (pB d) (eV 2 42 (pB d) (eO 3 43 [(0,0,1)] (.string s) b (eV 4 44 (nV a) (eV 5 45 (pB d) (eV 6 46 (pB d) (eV 7 47 (qP d 1) (eO 8 48 [(0,1,1)] (nV k) b (eV 9 49 (.string (s.extract a k)) ?_ (hv:=fun _=>fj (tx:=9) (x:=.tmp 43) (i:=.tmp 44) (e:=.tmp 48) (k:=.i64) (k2:=.i64) (s:=s) (n:=a) (m:=k) (j:=(a:Int)) (j2:=(k:Int)) kR kR kR kR kR oM oM oM oM _))))))))));refine bL b (fun _ _ V b=>?_);replace f:=f.trans (V.m _);refine tV 10 4 (.string (s.extract a k)) (tN (kX ?_));have z:rn p s a=k:=dX D F B (by first|exact .inl oM|exact .inr aM);exact b.retM f [] (.string (s.extract a k)) (by rw[z];exact ⟨rfl,b.own 0⟩)
 refine eV 22 32 qT (bL b (fun _ za M b=>?_));replace f:=f.trans (M.m _);refine tN (ci (cK (kZ (kQ (lL b [.c,.v (pB d),.v (qP d 1),.o (nV k) 0 1 1] (bg 37 ((k:Nat)+1) (k+1) ?_))))));refine lL b [.v (pB d),.v (qP d 1)] (ce 0 1 ([nV (k+1)]) b (fun _ pu b=>?_));replace f:=f.put pu (o0.2 rfl) b.g;refine lD ?_;intro a_ ka;refine ⟨_,_,?_,⟨k+1,za,rfl,rfl,b.to _ _,oM,oM,f,(fun i h1 Q=>by rcases Kf.1 Q with u|rfl;exact B i h1 u;exact aM)⟩,ka.to _ kR⟩
 omega
theorem CI (op:Int)(a e:PTm)(w:World)(h:Hp)(g:G w h):CR 40 #[iV op,a8 a,a8 e] w h (fun v h1=>∃ b,v=a8 ⟨op,0,0,⟨#[]⟩,sB b,2,2⟩/\SlO 9 bv a6 h1 (sB b) [a,e]):=by
 have i:=sS g;refine go Tryz.func40 [(0,iV op),(1,a8 a),(2,a8 e)] rfl (aG (lA 4 31 (bv a) i (fun p w2 z i=>lA 5 31 (bv e) i (fun B k y i=>lA 6 31 a2 i (fun u C x i=>aE (lL i [.c,.o (a8 a) 2 0 9,.o (a8 e) 1 0 9] (lR 10 31 2 ([iV a.op,iV a.n,.bool (au a.q.num),uV (lo (ab a.q.num)),.string (hi (ab a.q.num)),uV (lo (qd a.q)),.string (hi (qd a.q)),.string a.s,qS a.A a.m a.c,iV e.op,iV e.n,.bool (au e.q.num),uV (lo (ab e.q.num)),.string (hi (ab e.q.num)),uV (lo (qd e.q)),.string (hi (qd e.q)),.string e.s,qS e.A e.m e.c]) i (fun j _ _ i=>?_))))))));replace i:=i.aS (SlO.of_flat (sz:=9) (f:=bv) (d:=a6) (b:=j) (o:=0) (l:=([a,e]:List PTm)) (fun _=>rfl) i.f.1);exact lL i [.v (.agg #[iV op,iV 0,qF,uV 0,eS,uV 0,eS,eS,qS (sB j) 2 2])] (lP 0 0 ([iV op,iV 0,qF,uV 0,eS,uV 0,eS,eS,qS (sB j) 2 2]) i (fun _ i=>af i [(0,0,9)] (.agg #[iV op,iV 0,qF,uV 0,eS,uV 0,eS,eS,qS (sB j) 2 2]) (⟨_,rfl,i.f.1⟩)))
theorem CT (op:Int)(e:PTm)(w:World)(h:Hp)(g:G w h):CR 72 #[iV op,a8 e] w h (fun v h1=>∃ b,v=a8 ⟨op,0,0,⟨#[]⟩,sB b,1,1⟩/\SlO 9 bv a6 h1 (sB b) [e]):=by
 have a:=sS g;refine go Tryz.func72 [(0,iV op),(1,a8 e)] rfl (aG (lA 3 31 (bv e) a (fun k w2 x a=>lA 4 31 a2 a (fun j u p a=>aE (lL a [.c,.o (a8 e) 1 0 9] (lR 7 31 1 (pC e) a (fun i z y a=>?_)))))));replace a:=a.aS (SlO.of_flat (sz:=9) (f:=bv) (d:=a6) (b:=i) (o:=0) (l:=([e]:List PTm)) (fun _=>rfl) a.f.1);exact lL a [.v (.agg #[iV op,iV 0,qF,uV 0,eS,uV 0,eS,eS,qS (sB i) 1 1])] (lP 0 0 ([iV op,iV 0,qF,uV 0,eS,uV 0,eS,eS,qS (sB i) 1 1]) a (fun _ a=>af a [(0,0,9)] (.agg #[iV op,iV 0,qF,uV 0,eS,uV 0,eS,eS,qS (sB i) 1 1]) (⟨_,rfl,a.f.1⟩)))
theorem sL (q:Rat)(w:World)(h:Hp)(g:G w h):CR 88 #[qv q] w h (fun v h1=>∃ p,v=a8 p/\PtH h1 p (dm q)):=by
 have a:=sS g;exact go Tryz.func88 [(0,qv q)] rfl (aG (lA 1 28 (qc q) a (fun c w2 i a=>lA 2 31 a2 a (fun b f e a=>aE (lL a [.o (qv q) 1 0 5,.v (a8 ⟨1,0,q,⟨#[]⟩,none,0,0⟩)] (lP 0 0 (bv ⟨1,0,q,⟨#[]⟩,none,0,0⟩) a (fun d a=>af a [(0,0,9)] (a8 ⟨1,0,q,⟨#[]⟩,none,0,0⟩) (⟨⟨1,0,q,⟨#[]⟩,none,0,0⟩,rfl,PtH.num⟩))))))))
theorem tJ (op:Int)(a c:PTm)(t u:Tm)(w:World)(h:Hp)(g:G w h)(x:PtH h a t)(y:PtH h c u):CR 40 #[iV op,a8 a,a8 c] w h (fun v h1=>∃ p,v=a8 p/\PtH h1 p (bz op t u)) :=
 (CI op a c w h g).mono fun e w' ⟨v,d,f,up,b,j,i⟩=>⟨v,d,f,up,_,j,(x.gw up.gr.gw).two (y.gw up.gr.gw) i⟩
theorem ve (op:Int)(a:PTm)(t:Tm)(w:World)(h:Hp)(g:G w h)(x:PtH h a t):CR 72 #[iV op,a8 a] w h (fun v h1=>∃ p,v=a8 p/\PtH h1 p (fS op t)) :=
 (CT op a w h g).mono fun e w' ⟨v,c,f,up,b,d,i⟩=>⟨v,c,f,up,_,d,(x.gw up.gr.gw).one i⟩
section
variable {nf bf:ByteArray->Option Rat}(n:Nat)
theorem xq  (lv:Bool)(fp:FuncId)(hen:∀ (args:Array Value) (w:World),(callFunc fp args).run Tryz.prog w=.ok (.enter fp args) w)(hp:∀ m,m<=n->PC nf bf fp m (part lv))(j:Nat)(s:ByteArray)(O:s.size<=1000000)(a:Nat)(ha:a<=s.size)(z:Int)(t:Tm)(b:Nat)(hq:bj nf bf s (n+1) (uh lv) a=some (.ok t b))(w:World)(h:Hp)(g:G w h)(ho:Own w j 56 [.string s,nV a,iV z])(hj:h[j]?=some junk)(tb:Tab h):Calls Tryz.prog 21 #[pB j,.func (.func fp) #[pB j] #[],.int .u8 (c1 lv:Nat),iV (kn lv),.int .u8 (c2 lv:Nat),iV (ja lv)] w (bV j w h (vL j s t b z)):=by
 have e:UpM [j] w h w h:=UpM.refl g;obtain ⟨wz,cy,d⟩:=SS.at_ g ho hj;obtain ⟨t1,b1,hq1,hq2⟩:=iz hq;have b7:c1 lv≠0:=by cases lv<;>decide
 have cq:c2 lv≠0:=by cases lv<;>decide
 replace d:=(d.add (K:=fun i=>Tab i) tb);refine go Tryz.func21 [(0,pB j),(1,.func (.func fp) #[pB j] #[]),(2,.int .u8 (c1 lv:Nat)),(3,iV (kn lv)),(4,.int .u8 (c2 lv:Nat)),(5,iV (ja lv))] rfl (aa d ac (aE (lL d ac (bn 18 (hp n (nR _) j s O a ha z t1 b1 hq1 _ _ d.g (d.own 0) (d.jk 0) d.f.1) ?_ (hr:=Eq.trans kR (hen _ _))))));rintro _ w2 h3 u4 ⟨L,I,rfl,c4,b9,cr,c3⟩;replace d:=(d.stepM 0 u4 b9).to [⟨j,56,[.string s,nV b1,iV z]⟩] [];replace e:=e.trans u4;replace d:=((d.a_Seg cr).add (K:=fun i=>PtH i I t1) c3);refine lL d ac (ai (kZ ?_));replace d:=d.add (K:=fun i=>PtH i I t1) (d.f.1);replace d:=d.add (K:=fun i=>Seg i L 0 (bv I)) (d.f.r.1);refine bG _ (CG.loop (fun μ_ Γ w_=>∃ (m:Nat)(Y:Nat)(p:PTm)(u:Tm)(k:Nat)(i:Hp),μ_=m/\Γ=[(0,pB j),(1,.func (.func fp) #[pB j] #[]),(2,.int .u8 (c1 lv:Nat)),(3,iV (kn lv)),(4,.int .u8 (c2 lv:Nat)),(5,iV (ja lv)),(13,pB Y)]/\SS wz cy w_ i [⟨j,56,[.string s,nV k,iV z]⟩] [] [fun i=>Seg i Y 0 (bv p),fun i=>PtH i p u,fun i=>PtH i I t1,fun i=>Seg i L 0 (bv I),fun i=>Tab i]/\m<=n/\k<=s.size/\UpM [j] w h w_ i/\bj nf bf s m (.more lv u) k=some (.ok t b)) _ ⟨n,L,I,t1,b1,h3,rfl,rfl,d.to _ _,nR _,c4,e,hq2⟩ ?_);rintro _ _ w5 ⟨m,Y,p,u,k,h6,hm7,rfl,d,hm,hk,e,hq⟩;obtain ⟨m1,rfl⟩:=iu hq;have dc:=bD (s:=s) (a:=k) hk;refine cQ (aa d [.c,.v qT] (ak (cK (kZ (aa d ac (ai (aa d aF ?_)))))));have c6:=bD (s:=s) (a:=k) oM;refine bn 23 (fx j s O k oM z (c1 lv) b7 _ _ d.g (d.own 0) (d.jk 0) d.f.q.1) ?_;rintro _ w9 _ X (⟨rfl,Q,c8,J⟩|⟨rfl,Q,J⟩)
 .
  replace d:=(d.stepM 0 X J).to [⟨j,56,[.string s,nV (sk s k+1),iV z]⟩] [];replace e:=e.trans X;obtain ⟨H,eq8,ch,b5⟩:=jN hq Q;refine ak (kQ (lL d aF (aE (lL d ac (bn 31 (hp m1 oM j s O (sk s k+1) oM z H eq8 ch _ _ d.g (d.own 0) (d.jk 0) d.f.q.1) ?_ (hr:=Eq.trans kR (hen _ _)))))));rintro _ _ _ u15 ⟨U,W,rfl,bq,br,bm,b3⟩;replace d:=(d.stepM 0 u15 br).to [⟨j,56,[.string s,nV eq8,iV z]⟩] [];replace e:=e.trans u15;replace d:=((d.a_Seg bm).add (K:=fun i=>PtH i W H) b3);refine lL d ac (ai (aa d [.c,.v qF] (ah (cK (cQ ?_)))));have hsr:=d;have V:=e.gr.size;refine cR 9 [⟨8,16,.cells (JY [iV 0,iV 0,qF,uV 0,eS,uV 0,eS,eS,sZ]) 31 (0,0)⟩] mixed d (dZ (kW kR (fun _ _=>by kernel_rfl)) aw) (eV 0 34 (iV (kn lv)) (eV 1 35 (pB Y) (eV 2 36 (pB Y) (eH 3 37 (a8 p) d d.f.r.1 (eV 4 38 (pB U) (eV 5 39 (pB U) (eH 6 40 (a8 W) d d.f.2.1 (io 7 41 d e (fun _ _ d=>tJ (kn lv) p W u H _ _ d.g d.f.r.2.1 d.f.1) ?_))))))));rintro _ _ _ _ _ e d ⟨x,rfl,bt⟩;replace d:=(d.add (K:=fun i=>PtH i x (bz (kn lv) u H)) bt);refine mg [] hsr d e V 31 [iV 0,iV 0,qF,uV 0,eS,uV 0,eS,eS,sZ] (fun _ _ za e B d=>km 9 0 0 (bv x) d (fun _ pu d=>?_));replace e:=e.put2 pu B g d.g;refine tN ?_;obtain ⟨zc,d,e,cz⟩:=d.pubM e 0 B;replace d:=d.to [⟨j,56,[.string s,nV eq8,iV z]⟩] [];have b6:Seg zc za 0 (bv x):=cz;replace d:=d.a_Seg b6;refine kQ (lL d ac (lD ?_));intro a_ ka;replace d:=((d.tl.tl.tl.tl.tl.tl.add (K:=fun i=>PtH i x (bz (kn lv) u H)) d.f.2.1).add (K:=fun i=>Seg i za 0 (bv x)) d.f.1);refine ⟨_,_,?_,⟨m1,za,x,bz (kn lv) u H,eq8,zc,rfl,rfl,d.to _ _,oM,bq,e,b5⟩,ka.to _ kR⟩
  omega
 replace d:=(d.stepM 0 X J).to [⟨j,56,[.string s,nV (sk s k),iV z]⟩] [];replace e:=e.trans X;have hcF:=Q;refine ah (aa d aF ?_);have c5:=bD (s:=s) (a:=(sk s k)) oM;refine bn 27 (wT j s O (sk s k) oM z (c2 lv) cq (pH _ _) _ _ d.g (d.own 0) (d.jk 0) d.f.q.1) ?_;rintro _ _ _ Z (⟨rfl,C,c7,D⟩|⟨rfl,C,D⟩)
 .
  replace d:=(d.stepM 0 Z D).to [⟨j,56,[.string s,nV ((sk s k)+1),iV z]⟩] [];replace e:=e.trans Z;obtain ⟨l,F,bb,bp⟩:=jE hq hcF C;refine ak (kQ (lL d aF (aE (lL d ac (bn 31 (hp m1 oM j s O ((sk s k)+1) oM z l F bb _ _ d.g (d.own 0) (d.jk 0) d.f.q.1) ?_ (hr:=Eq.trans kR (hen _ _)))))));rintro _ _ _ u40 ⟨M,S,rfl,bl,b0,b2,bw⟩;replace d:=(d.stepM 0 u40 b0).to [⟨j,56,[.string s,nV F,iV z]⟩] [];replace e:=e.trans u40;replace d:=((d.a_Seg b2).add (K:=fun i=>PtH i S l) bw);refine lL d ac (ai (aa d [.c,.v qF] (ah (cK (cQ ?_)))));have hsr:=d;have V:=e.gr.size;refine cR 9 [⟨8,16,.cells (JY [iV 0,iV 0,qF,uV 0,eS,uV 0,eS,eS,sZ]) 31 (0,0)⟩] mixed d (dZ (kW kR (fun _ _=>by kernel_rfl)) aw) (eV 0 34 (iV (ja lv)) (eV 1 35 (pB Y) (eV 2 36 (pB Y) (eH 3 37 (a8 p) d d.f.r.1 (eV 4 38 (pB M) (eV 5 39 (pB M) (eH 6 40 (a8 S) d d.f.2.1 (io 7 41 d e (fun _ _ d=>tJ (ja lv) p S u l _ _ d.g d.f.r.2.1 d.f.1) ?_))))))));rintro _ _ _ _ _ e d ⟨o,rfl,bk⟩;replace d:=(d.add (K:=fun i=>PtH i o (bz (ja lv) u l)) bk);refine mg [] hsr d e V 31 [iV 0,iV 0,qF,uV 0,eS,uV 0,eS,eS,sZ] (fun _ _ zb e y d=>km 9 0 0 (bv o) d (fun _ pu d=>?_));replace e:=e.put2 pu y g d.g;refine tN ?_;obtain ⟨zd,d,e,cx⟩:=d.pubM e 0 y;replace d:=d.to [⟨j,56,[.string s,nV F,iV z]⟩] [];have b4:Seg zd zb 0 (bv o):=cx;replace d:=d.a_Seg b4;refine kQ (lL d ac (lD ?_));intro a_ ka;replace d:=((d.tl.tl.tl.tl.tl.tl.add (K:=fun i=>PtH i o (bz (ja lv) u l)) d.f.2.1).add (K:=fun i=>Seg i zb 0 (bv o)) d.f.1);refine ⟨_,_,?_,⟨m1,zb,o,bz (ja lv) u l,F,zd,rfl,rfl,d.to _ _,oM,bl,e,bp⟩,ka.to _ kR⟩
  omega
 replace d:=(d.stepM 0 Z D).to [⟨j,56,[.string s,nV (sk s k),iV z]⟩] [];replace e:=e.trans Z;have cm:=C;refine ah (aa d aF (lN (kX ?_)));obtain ⟨ht_,hb_⟩:=jz hq hcF cm;exact d.retM e [] (pB Y) (by rw[ht_];rw[hb_];exact ⟨Y,p,rfl,by first|assumption|omega,d.own 0,d.f.1,d.f.2.1⟩)
theorem HX  (I:∀ m,m<=n->PC nf bf 22 m .prod)(e:Nat)(s:ByteArray)(x:s.size<=1000000)(a:Nat)(ha:a<=s.size)(u:Int)(t:Tm)(b:Nat)(F:bj nf bf s (n+1) .sum a=some (.ok t b))(w:World)(h:Hp)(g:G w h)(J:Own w e 56 [.string s,nV a,iV u])(H:h[e]?=some junk)(D:Tab h):Calls Tryz.prog 9 #[pB e] w (bV e w h (vL e s t b u)):=by
 have j:UpM [e] w h w h:=UpM.refl g;obtain ⟨wz,z,d⟩:=SS.at_ g J H;replace d:=(d.add (K:=fun y=>Tab y) D);refine go Tryz.func9 [(0,pB e)] rfl (aa d ac (aE (lL d [.c,.c,.v (.func (.func 22) #[pB e] #[])] (bn 6 (xq n false 22 (fun _ _=>by kernel_rfl) I e s x a ha u t b F _ _ d.g (d.own 0) (d.jk 0) d.f.1) ?_))));rintro _ w2 L C ⟨i,p,rfl,B,l,k,o⟩;replace d:=(d.stepM 0 C l).to [⟨e,56,[.string s,nV b,iV u]⟩] [];replace j:=j.trans C;replace d:=((d.a_Seg k).add (K:=fun y=>PtH y p t) o);exact lL d ac (lN (kX (d.retM j [] (pB i) (by exact ⟨i,p,rfl,by first|assumption|omega,d.own 0,d.f.2.1,d.f.1⟩))))
theorem vT  (I:∀ m,m<=n->PC nf bf 41 m .sign)(e:Nat)(s:ByteArray)(x:s.size<=1000000)(a:Nat)(ha:a<=s.size)(u:Int)(t:Tm)(b:Nat)(F:bj nf bf s (n+1) .prod a=some (.ok t b))(w:World)(h:Hp)(g:G w h)(J:Own w e 56 [.string s,nV a,iV u])(H:h[e]?=some junk)(D:Tab h):Calls Tryz.prog 22 #[pB e] w (bV e w h (vL e s t b u)):=by
 have j:UpM [e] w h w h:=UpM.refl g;obtain ⟨wz,z,d⟩:=SS.at_ g J H;replace d:=(d.add (K:=fun y=>Tab y) D);refine go Tryz.func22 [(0,pB e)] rfl (aa d ac (aE (lL d [.c,.c,.v (.func (.func 41) #[pB e] #[])] (bn 6 (xq n true 41 (fun _ _=>by kernel_rfl) I e s x a ha u t b F _ _ d.g (d.own 0) (d.jk 0) d.f.1) ?_))));rintro _ w2 L C ⟨i,p,rfl,B,l,k,o⟩;replace d:=(d.stepM 0 C l).to [⟨e,56,[.string s,nV b,iV u]⟩] [];replace j:=j.trans C;replace d:=((d.a_Seg k).add (K:=fun y=>PtH y p t) o);exact lL d ac (lN (kX (d.retM j [] (pB i) (by exact ⟨i,p,rfl,by first|assumption|omega,d.own 0,d.f.2.1,d.f.1⟩))))
theorem B3  (ihs:PC nf bf 41 n .sign)(ihp:PC nf bf 71 n .pow)(j:Nat)(s:ByteArray)(B:s.size<=1000000)(a:Nat)(ha:a<=s.size)(p:Int)(t:Tm)(b:Nat)(hq:bj nf bf s (n+1) .sign a=some (.ok t b))(w:World)(h:Hp)(g:G w h)(ho:Own w j 56 [.string s,nV a,iV p])(hj:h[j]?=some junk)(tb:Tab h):Calls Tryz.prog 41 #[pB j] w (bV j w h (vL j s t b p)):=by
 have e:UpM [j] w h w h:=UpM.refl g;obtain ⟨wz,bl,d⟩:=SS.at_ g ho hj;replace d:=(d.add (K:=fun C=>Tab C) tb);refine go Tryz.func41 [(0,pB j)] rfl (aa d ac (ai (aa d ac ?_)));have X:=bD (s:=s) (a:=a) oM;refine bn 6 (fx j s B a ha p 45 kD _ _ d.g (d.own 0) (d.jk 0) d.f.1) ?_;rintro _ w2 h3 V (⟨rfl,k,bk,l⟩|⟨rfl,k,l⟩)
 .
  replace d:=(d.stepM 0 V l).to [⟨j,56,[.string s,nV (sk s a+1),iV p]⟩] [];replace e:=e.trans V;obtain ⟨W,hv1,ht_⟩:=n5 hq k;refine lL d [.v qF] (ah (cK (aa d ac (bn 11 (ihs j s B (sk s a+1) oM p W b hv1 _ _ d.g (d.own 0) (d.jk 0) d.f.1) ?_))));rintro _ w6 h7 u8 ⟨I,z,rfl,bm,O,Q,U⟩;replace d:=(d.stepM 0 u8 O).to [⟨j,56,[.string s,nV b,iV p]⟩] [];replace e:=e.trans u8;replace d:=((d.a_Seg Q).add (K:=fun C=>PtH C z W) U);refine lL d ac (ai (aa d [.c,.v qF] (ah (cK (aa d [.c,.v (pB I)] (lH 16 (a8 z) d d.f.2.1 ?_))))));refine ec 17 (ve 7 z W _ _ d.g d.f.1) ?_;rintro _ _ _ J ⟨u,rfl,L⟩;replace e:=e.trans (J.m _);replace d:=d.step J;replace d:=(d.add (K:=fun C=>PtH C u (fS 7 W)) L);refine fr 4 31 a2 d (fun za _ _ Y i d=>?_);replace i:=ed e.gr.size i;replace e:=e.trans (Y.m _);refine ce 0 0 (bv u) d (fun _ pu d=>?_);replace e:=e.put2 pu i g d.g;refine aE (lL d ac (lN (kX ?_)));obtain ⟨zb,d,e,H⟩:=d.pubM e 0 i;replace d:=d.to [⟨j,56,[.string s,nV b,iV p]⟩] [];have S:Seg zb za 0 (bv u):=H;replace d:=d.a_Seg S;exact d.retM e [] (pB za) (by rw[ht_];exact ⟨za,u,rfl,by first|assumption|omega,d.own 0,d.f.1,d.f.2.1⟩)
 replace d:=(d.stepM 0 V l).to [⟨j,56,[.string s,nV (sk s a),iV p]⟩] [];replace e:=e.trans V;have Z:=k;refine lL d [.v qT] (ak (aa d ac (bn 9 (ihp j s B (sk s a) oM p t b (iB hq Z) _ _ d.g (d.own 0) (d.jk 0) d.f.1) ?_)));rintro _ _ _ M ⟨o,x,rfl,bb,y,D,F⟩;replace d:=(d.stepM 0 M y).to [⟨j,56,[.string s,nV b,iV p]⟩] [];replace e:=e.trans M;replace d:=((d.a_Seg D).add (K:=fun C=>PtH C x t) F);exact lL d ac (lN (kX (d.retM e [] (pB o) (by exact ⟨o,x,rfl,by first|assumption|omega,d.own 0,d.f.2.1,d.f.1⟩))))
end
theorem FO (c:Nat)(i:c<256)(w:World)(h:Hp)(g:G w h):CV 124 #[.int .u8 (c:Nat)] w h (.bool (cH c)):=by
 have a:=sS g;refine go Tryz.func124 [(0,.int .u8 (c:Nat))] rfl (aa a ac (aE (lL a ac (aq 4 a (fD c i _ _ a.g) (fun w1 j a=>?_)))));cases f:(decide (48<=c/\c<=57))
 .
  have d:=oF f;refine lL a aF ?_;cases b:((c:Int) == (46:Int))
  .
   have e:=ao b;exact lB 7 b (lL a [.v qF,.c] (af a [] qF (congrArg Value.bool (decide_eq_false oM).symm)))
  have e:=eq_of_beq b;exact lB 7 b (lL a [.v qT,.c] (af a [] qT (congrArg Value.bool (decide_eq_true oM).symm)))
 have d:=oT f;refine lL a ac (lG 6 ?_);exact lG 7 (lL a [.v qT,.c] (af a [] qT (congrArg Value.bool (decide_eq_true oM).symm)))
theorem PtH.setN {h:Hp}{p:PTm}{op n:Int}{q:Rat}{s:ByteArray}{ks:List Tm}(x:PtH h p (.mk op n q s ks))(m:Int):PtH h ⟨p.op,m,p.q,p.s,p.A,p.m,p.c⟩ (.mk op m q s ks):=by
 obtain ⟨d,x⟩:=x
 match d,x with
 | d+1,⟨h1,_,h3,h4,h5,h6,h7⟩=>exact ⟨d+1,h1,rfl,h3,h4,h5,h6,h7⟩
theorem oP {x:ByteArray}(h:bU x=true):9<=ag x/\ag x<=13:=by
 have h:=oT h
 revert h
 unfold ag
 repeat' split
 all_goals intro h;first|(constructor<;>decide)|exact absurd rfl h
theorem r7 {op:Int}(h:9<=op/\op<=13):((op=12\/op=13)/\fM op=2)\/(¬(op=12\/op=13)/\fM op=1):=by
 have:=aU op
 omega
def Iv (nf bf:ByteArray->Option Rat)(n:Nat):Prop:=∀ (op:Int),9<=op/\op<=13->∀ (pb:Nat) (s:ByteArray),s.size<=1000000->∀ (a:Nat),a<=s.size->∀ (bd:Int) (t:Tm) (b:Nat),bj nf bf s n (.call op) a=some (.ok t b)->∀ (w:World) (h:Hp),G w h->Own w pb 56 [.string s,nV a,iV bd]->h[pb]?=some junk->Tab h->Calls Tryz.prog 125 #[pB pb,iV op] w (bV pb w h (vL pb s t b bd))
def tE (nf:ByteArray->Option Rat):Prop:=∀ x q,nf x=some q->∀ (w:World) (h:Hp),G w h->Tab h->CV 123 #[.string x] w h (.tuple #[qv q,.bool true])
def wA:Prop:=∀ (x:ByteArray) (k:Nat),x.size<=3->ef x=some k->∀ (w:World) (h:Hp),G w h->CV 103 #[.string x] w h (.tuple #[nv k,.bool true])
def FD (bf:ByteArray->Option Rat):Prop:=∀ (pb:Nat) (s:ByteArray),s.size<=1000000->∀ (a:Nat),a<=s.size->∀ (bd:Int) (q:Rat),aj s a=91->rn cg s (a+1)≠s.size->bf (s.extract (a+1) (rn cg s (a+1)))=some q->∀ (w:World) (h:Hp),G w h->Own w pb 56 [.string s,nV a,iV bd]->h[pb]?=some junk->Tab h->Calls Tryz.prog 126 #[pB pb] w (bV pb w h (vL pb s (dm q) (rn cg s (a+1)+1) bd))
theorem wF:FD (fun _=>none):=fun _ _ _ _ _ _ _ _ _ h=>(by cases h)
section
variable {nf bf:ByteArray->Option Rat}(n:Nat)
theorem E6  (hnp:wA)(iha:PC nf bf 100 n .atom)(y:Nat)(s:ByteArray)(M:s.size<=1000000)(a:Nat)(ha:a<=s.size)(H:Int)(t:Tm)(b:Nat)(hq:bj nf bf s (n+1) .pow a=some (.ok t b))(w:World)(h:Hp)(g:G w h)(ho:Own w y 56 [.string s,nV a,iV H])(hj:h[y]?=some junk)(tb:Tab h):Calls Tryz.prog 71 #[pB y] w (bV y w h (vL y s t b H)):=by
 have e:UpM [y] w h w h:=UpM.refl g;obtain ⟨wz,b5,d⟩:=SS.at_ g ho hj;obtain ⟨v1,L,hv1,hP0,hP1⟩:=n4 hq;replace d:=(d.add (K:=fun h_=>Tab h_) tb);refine go Tryz.func71 [(0,pB y)] rfl (aa d ac (aE (lL d ac (bn 13 (iha y s M a ha H v1 L hv1 _ _ d.g (d.own 0) (d.jk 0) d.f.1) ?_))));rintro _ w2 h3 u4 ⟨F,S,rfl,b7,bq,bt,b1⟩;replace d:=(d.stepM 0 u4 bq).to [⟨y,56,[.string s,nV L,iV H]⟩] [];replace e:=e.trans u4;replace d:=((d.a_Seg bt).add (K:=fun h_=>PtH h_ S v1) b1);refine lL d ac (ai (aa d [.c,.v qF,.c,.c] ?_));have b3:=bD (s:=s) (a:=L) oM;refine bn 18 (fx y s M L oM H 94 kD _ _ d.g (d.own 0) (d.jk 0) d.f.r.1) ?_;rintro _ w6 h7 u8 (⟨rfl,Y,b6,W⟩|⟨rfl,Y,W⟩)
 .
  replace d:=(d.stepM 0 u8 W).to [⟨y,56,[.string s,nV (sk s L+1),iV H]⟩] [];replace e:=e.trans u8;have zb:=Y;obtain ⟨k,z,x,O,I⟩:=n0 (hP1 zb);refine lL d [.v qF,.v qF] (ah (cK (aa d ac ?_)));have b2:=bD (s:=s) (a:=(sk s L+1)) oM;refine bn 23 (fx y s M (sk s L+1) oM H 45 kD _ _ d.g (d.own 0) (d.jk 0) d.f.r.1) ?_;rintro _ _ _ u12 (⟨rfl,bk,b4,U⟩|⟨rfl,bk,U⟩)
  .
   replace d:=(d.stepM 0 u12 U).to [⟨y,56,[.string s,nV (sk s (sk s L+1)+1),iV H]⟩] [];replace e:=e.trans u12;rw[if_pos bk] at z x O I
   generalize hB1:sk s (sk s (sk s L+1)+1)=B at z x O I
   rw[<-Int.zero_sub] at I
   refine lL d ac (aE (lL d ac ?_));have J:=bD (s:=s) (a:=(sk s (sk s L+1)+1)) oM;refine bn 25 (iH y s M (sk s (sk s L+1)+1) oM H _ _ d.g (d.own 0) (d.jk 0) d.f.r.1) ?_;rintro _ _ _ u15 ⟨rfl,V⟩;rw[hB1] at V J
   rw[hB1];replace d:=(d.stepM 0 u15 V).to [⟨y,56,[.string s,nV B,iV H]⟩] [];replace e:=e.trans u15;have X:=fV bM s B;have bb:=dC (p:=bM) (s:=s) (a:=B) J;rw[<-x] at X bb
   have hxs:(s.extract B b).size=b-B:=by rw[ByteArray.size_extract];omega
   have hk9:=jp z oM;refine aE (lL d [.c,.v (pB y),.v (qP y 1),.o (nV B) 0 1 1,.c] (aE (lL d ac (bn 31 (pN 102 bM (fun _ _=>by kernel_rfl) (fun c hc w h g=>fD c hc w h g) y s M B oM H _ _ d.g (d.own 0) (d.jk 0) d.f.r.1) ?_))));rintro _ _ _ u18 ⟨rfl,Z⟩;rw[<-x] at Z
   rw[<-x];replace d:=(d.stepM 0 u18 Z).to [⟨y,56,[.string s,nV b,iV H]⟩] [];replace e:=e.trans u18;refine lL d ac (ai (aa d [.c,.v (nV ((s.extract B b).size))] ?_));have zd:(decide ((3:Int)<(((s.extract B b).size:Nat):Int)))=false:=decide_eq_false oM;refine lB 34 zd (ah (cK (aa d ac (ec 40 (hnp (s.extract B b) k oM z _ _ d.g) ?_))));rintro _ _ _ u22 rfl;replace e:=e.trans (u22.m _);replace d:=d.step u22;refine lL d [.c,.v (nv k),.v qT] (fr 7 24 ([uV 0,eS]) d (fun zf _ _ u26 D d=>?_));replace D:=ed e.gr.size D;replace e:=e.trans (u26.m _);refine ce 0 0 (nc k) d (fun _ Q d=>?_);replace e:=e.put2 Q D g d.g;refine lL d ac (ai (aa d [.c,.v qF] (ah (cK (aa d [.o (nv k) 0 0 2] (ec 50 (kr k oM _ _ d.g) ?_))))));rintro _ _ _ u30 rfl;replace e:=e.trans (u30.m _);replace d:=d.step u30;refine lL d [.c,.v (mV k),.v qT,.c,.c] (lN (bG [(2,.pointer none),(3,pB F),(4,qT),(9,mV k)] ?_));refine aa d [.c,.v (pB F)] (lH 55 (a8 S) d d.f.2.1 ?_);refine ec 56 (ve 8 S v1 _ _ d.g d.f.1) ?_;rintro _ _ _ u34 ⟨j,rfl,bm⟩;replace e:=e.trans (u34.m _);replace d:=d.step u34;replace d:=(d.add (K:=fun h_=>PtH h_ j (fS 8 v1)) bm);refine fr 11 31 a2 d (fun za _ _ u38 l d=>?_);replace l:=ed e.gr.size l;replace e:=e.trans (u38.m _);refine ce 0 0 (bv j) d (fun _ Q d=>?_);replace e:=e.put2 Q l g d.g;refine aE (lL d ac (lV 58 (nV k) ?_ (hr:=rS ((k:Int)) kR (jF oM oM))));refine lL d [.v (qP za 1)] (ce 0 1 ([nV k]) d (fun _ Q d=>?_));replace e:=e.put2 Q l g d.g;refine ai (aa d ac (ak (kQ (lL d [.v (qP za 1),.o (nV k) 0 1 1] (lI 63 (0-(k:Nat)) ?_)))));refine lL d [.v (qP za 1)] (ce 0 1 ([iV (0-(k:Nat))]) d (fun _ Q d=>?_));replace e:=e.put2 Q l g d.g;refine aE (lL d ac (lN (kX ?_)));obtain ⟨zg,d,e,b0⟩:=d.pubM e 0 l;replace d:=d.to [⟨zf,24,nc k⟩,⟨y,56,[.string s,nV b,iV H]⟩] [];have br:Seg zg za 0 (bv ⟨j.op,0-(k:Nat),j.q,j.s,j.A,j.m,j.c⟩):=b0;replace d:=d.a_Seg br;exact d.retM e [] (pB za) (by rw[I];exact ⟨za,⟨j.op,0-(k:Nat),j.q,j.s,j.A,j.m,j.c⟩,rfl,by first|assumption|omega,d.own 1,d.f.1,(PtH.setN d.f.2.1 _)⟩)
  replace d:=(d.stepM 0 u12 U).to [⟨y,56,[.string s,nV (sk s (sk s L+1)),iV H]⟩] [];replace e:=e.trans u12;rw[if_neg bk] at z x O I
  generalize hB1:sk s (sk s (sk s L+1))=B at z x O I
  refine lL d ac (aE (lL d ac ?_));have J:=bD (s:=s) (a:=(sk s (sk s L+1))) oM;refine bn 25 (iH y s M (sk s (sk s L+1)) oM H _ _ d.g (d.own 0) (d.jk 0) d.f.r.1) ?_;rintro _ _ _ u48 ⟨rfl,V⟩;rw[hB1] at V J
  rw[hB1];replace d:=(d.stepM 0 u48 V).to [⟨y,56,[.string s,nV B,iV H]⟩] [];replace e:=e.trans u48;have X:=fV bM s B;have bb:=dC (p:=bM) (s:=s) (a:=B) J;rw[<-x] at X bb
  have hxs:(s.extract B b).size=b-B:=by rw[ByteArray.size_extract];omega
  have hk9:=jp z oM;refine aE (lL d [.c,.v (pB y),.v (qP y 1),.o (nV B) 0 1 1,.c] (aE (lL d ac (bn 31 (pN 102 bM (fun _ _=>by kernel_rfl) (fun c hc w h g=>fD c hc w h g) y s M B oM H _ _ d.g (d.own 0) (d.jk 0) d.f.r.1) ?_))));rintro _ _ _ u51 ⟨rfl,Z⟩;rw[<-x] at Z
  rw[<-x];replace d:=(d.stepM 0 u51 Z).to [⟨y,56,[.string s,nV b,iV H]⟩] [];replace e:=e.trans u51;refine lL d ac (ai (aa d [.c,.v (nV ((s.extract B b).size))] ?_));have ze:(decide ((3:Int)<(((s.extract B b).size:Nat):Int)))=false:=decide_eq_false oM;refine lB 34 ze (ah (cK (aa d ac (ec 40 (hnp (s.extract B b) k oM z _ _ d.g) ?_))));rintro _ _ _ u55 rfl;replace e:=e.trans (u55.m _);replace d:=d.step u55;refine lL d [.c,.v (nv k),.v qT] (fr 7 24 ([uV 0,eS]) d (fun zi _ _ u59 C d=>?_));replace C:=ed e.gr.size C;replace e:=e.trans (u59.m _);refine ce 0 0 (nc k) d (fun _ Q d=>?_);replace e:=e.put2 Q C g d.g;refine lL d ac (ai (aa d [.c,.v qF] (ah (cK (aa d [.o (nv k) 0 0 2] (ec 50 (kr k oM _ _ d.g) ?_))))));rintro _ _ _ u63 rfl;replace e:=e.trans (u63.m _);replace d:=d.step u63;refine lL d [.c,.v (mV k),.v qT,.c,.c] (lN (bG [(2,.pointer none),(3,pB F),(4,qF),(9,mV k)] ?_));refine aa d [.c,.v (pB F)] (lH 55 (a8 S) d d.f.2.1 ?_);refine ec 56 (ve 8 S v1 _ _ d.g d.f.1) ?_;rintro _ _ _ u67 ⟨i,rfl,bl⟩;replace e:=e.trans (u67.m _);replace d:=d.step u67;replace d:=(d.add (K:=fun h_=>PtH h_ i (fS 8 v1)) bl);refine fr 11 31 a2 d (fun zc _ _ u71 u d=>?_);replace u:=ed e.gr.size u;replace e:=e.trans (u71.m _);refine ce 0 0 (bv i) d (fun _ Q d=>?_);replace e:=e.put2 Q u g d.g;refine aE (lL d ac (lV 58 (nV k) ?_ (hr:=rS ((k:Int)) kR (jF oM oM))));refine lL d [.v (qP zc 1)] (ce 0 1 ([nV k]) d (fun _ Q d=>?_));replace e:=e.put2 Q u g d.g;refine ai (aa d ac (ah (cK (aa d ac (lN (kX ?_))))));obtain ⟨zj,d,e,bp⟩:=d.pubM e 0 u;replace d:=d.to [⟨zi,24,nc k⟩,⟨y,56,[.string s,nV b,iV H]⟩] [];have bw:Seg zj zc 0 (bv ⟨i.op,(k:Nat),i.q,i.s,i.A,i.m,i.c⟩):=bp;replace d:=d.a_Seg bw;exact d.retM e [] (pB zc) (by rw[I];exact ⟨zc,⟨i.op,(k:Nat),i.q,i.s,i.A,i.m,i.c⟩,rfl,by first|assumption|omega,d.own 1,d.f.1,(PtH.setN d.f.2.1 _)⟩)
 replace d:=(d.stepM 0 u8 W).to [⟨y,56,[.string s,nV (sk s L),iV H]⟩] [];replace e:=e.trans u8;have zb:=Y;refine lL d [.v qT,.v qT] (ak (aa d aF (lN (kX ?_))));obtain ⟨I,hb_⟩:=hP0 zb;exact d.retM e [] (pB F) (by rw[I];rw[hb_];exact ⟨F,S,rfl,by first|assumption|omega,d.own 0,d.f.2.1,d.f.1⟩)
theorem GE  (hnf:tE nf)(hbf:FD bf)(ihc:Iv nf bf n)(ihs:PC nf bf 9 n .sum)(j:Nat)(s:ByteArray)(B:s.size<=1000000)(a:Nat)(ha:a<=s.size)(y:Int)(t:Tm)(b:Nat)(hq:bj nf bf s (n+1) .atom a=some (.ok t b))(w:World)(h:Hp)(g:G w h)(ho:Own w j 56 [.string s,nV a,iV y])(hj:h[j]?=some junk)(tb:Tab h):Calls Tryz.prog 100 #[pB j] w (bV j w h (vL j s t b y)):=by
 have e:UpM [j] w h w h:=UpM.refl g;obtain ⟨wz,U,d⟩:=SS.at_ g ho hj;replace d:=(d.add (K:=fun i=>Tab i) tb);refine go Tryz.func100 [(0,pB j)] rfl (aa d ac (aE (lL d ac ?_)));have cx:=bD (s:=s) (a:=a) oM;refine bn 13 (iH j s B a ha y _ _ d.g (d.own 0) (d.jk 0) d.f.1) ?_;rintro _ w2 h3 u4 ⟨rfl,b6⟩;replace d:=(d.stepM 0 u4 b6).to [⟨j,56,[.string s,nV (sk s a),iV y]⟩] [];replace e:=e.trans u4;refine lL d ac (aE (lL d [.c,.v (pB j),.v (qP j 1),.o (nV (sk s a)) 0 1 1,.c] (ai (kZ (CG.join (fun Γ w_=>∃ (ze:Bool)(i:Hp),Γ=[(0,pB j),(2,.pointer none),(3,.int .u8 (aj s (sk s a):Nat)),(4,nV (sk s a)),(18,.bool ze)]/\SS wz U w_ i [⟨j,56,[.string s,nV (sk s a),iV y]⟩] [] [fun i=>Tab i]/\(ze=true->¬¬((48<=aj s (sk s a)/\aj s (sk s a)<=57)\/aj s (sk s a)=46))/\(ze=false->cH (aj s (sk s a))=false)/\UpM [j] w h w_ i) ?_ ?_)))))
 .
  refine kQ (lL d ac (ec 20 (fD (aj s (sk s a)) (bh _ _) _ _ d.g) ?_));rintro _ w5 h6 u7 rfl;replace e:=e.trans (u7.m _);replace d:=d.step u7;cases hb8:(decide (48<=aj s (sk s a)/\aj s (sk s a)<=57))
  .
   have b4:=oF hb8;refine lL d aF ?_;cases M:(((aj s (sk s a):Nat):Int) == (46:Int))
   .
    have b2:=ao M;refine lB 23 M (lL d [.v qF,.c] (lD ?_));intro a_ D;exact ⟨_,⟨false,h6,rfl,d.to _ _,(fun i=>absurd i kD),(fun _=>decide_eq_false oM),e⟩,D.to _ kR⟩
   have b2:=eq_of_beq M;refine lB 23 M (lL d [.v qT,.c] (lD ?_));intro a_ D;exact ⟨_,⟨true,h6,rfl,d.to _ _,(fun _=>by omega),(fun i=>absurd i kD),e⟩,D.to _ kR⟩
  have b4:=oT hb8;refine lL d ac (lG 22 ?_);refine lG 23 (lL d [.v qT,.c] (lD ?_));intro a_ D;exact ⟨_,⟨true,h6,rfl,d.to _ _,(fun _=>by omega),(fun i=>absurd i kD),e⟩,D.to _ kR⟩
 rintro _ _ ⟨ze,_,rfl,d,zo,z,e⟩;cases za:(ze)
 .
  try rw[za] at d
  try rw[za]
  refine cV (CG.join (fun Γ w_=>∃ (zf:Bool)(i:Hp),Γ=[(0,pB j),(2,.pointer none),(3,.int .u8 (aj s (sk s a):Nat)),(4,nV (sk s a)),(38,.bool zf)]/\SS wz U w_ i [⟨j,56,[.string s,nV (sk s a),iV y]⟩] [] [fun i=>Tab i]/\(zf=true->dL (aj s (sk s a))\/aj s (sk s a)=95)/\(zf=false->¬(dL (aj s (sk s a))\/aj s (sk s a)=95))/\UpM [j] w h w_ i) ?_ ?_)
  .
   refine kQ (lL d ac (ec 40 (jB (aj s (sk s a)) (bh _ _) _ _ d.g) ?_));rintro _ _ zi u24 rfl;replace e:=e.trans (u24.m _);replace d:=d.step u24;cases zj:(decide (dL (aj s (sk s a))))
   .
    have zm:=oF zj;refine lL d aF ?_;cases zb:(((aj s (sk s a):Nat):Int) == (95:Int))
    .
     have zn:=ao zb;refine lB 43 zb (lL d [.v qF,.c] (lD ?_));intro a_ D;exact ⟨_,⟨false,zi,rfl,d.to _ _,(fun i=>absurd i kD),(fun _ i=>by rcases i with i|i;exact absurd i aM;omega),e⟩,D.to _ kR⟩
    have zn:=eq_of_beq zb;refine lB 43 zb (lL d [.v qT,.c] (lD ?_));intro a_ D;exact ⟨_,⟨true,zi,rfl,d.to _ _,(fun _=>by first|exact .inl aM|exact .inr oM),(fun i=>absurd i kD),e⟩,D.to _ kR⟩
   have zm:=oT zj;refine lL d ac (lG 42 ?_);refine lG 43 (lL d [.v qT,.c] (lD ?_));intro a_ D;exact ⟨_,⟨true,zi,rfl,d.to _ _,(fun _=>by first|exact .inl aM|exact .inr oM),(fun i=>absurd i kD),e⟩,D.to _ kR⟩
  rintro _ _ ⟨zf,_,rfl,d,b5,H,e⟩;cases zc:(zf)
  .
   try rw[zc] at d
   try rw[zc]
   refine cV (aa d ac ?_)
   rcases Ko (aj s (sk s a)=91) with zg|zg
   .
    obtain ⟨ch,q9,b3,I,l⟩:=p4 hq (z aM) (H aM) zg;have zp:(((aj s (sk s a):Nat):Int) == (91:Int))=true:=gE oM;refine lB 68 zp (lL d ac (ak (aa d ac (bn 70 (hbf j s B (sk s a) oM y q9 zg ch b3 _ _ d.g (d.own 0) (d.jk 0) d.f.1) ?_))));rintro _ _ _ u43 ⟨J,W,rfl,cm,bb,bk,bt⟩;replace d:=(d.stepM 0 u43 bb).to [⟨j,56,[.string s,nV (rn cg s (sk s a+1)+1),iV y]⟩] [];replace e:=e.trans u43;replace d:=((d.a_Seg bk).add (K:=fun i=>PtH i W (dm q9)) bt);exact lL d ac (lN (kX (d.retM e [] (pB J) (by rw[I];rw[l];exact ⟨J,W,rfl,by first|assumption|omega,d.own 0,d.f.2.1,d.f.1⟩))))
   have zq:(((aj s (sk s a):Nat):Int) == (91:Int))=false:=hC oM;refine lB 68 zq (lL d ac (ah (aa d ac ?_)));have zs:aj s (sk s a)=40:=Kj fun e_=>qk hq (z aM) (H aM) zg e_
   obtain ⟨e1,hq1,hd1,l⟩:=nk hq (z aM) (H aM) zg zs;have cz:=cp (s:=s) (a:=sk s a) oM;have zr:(((aj s (sk s a):Nat):Int) == (40:Int))=true:=gE oM;refine lB 73 zr (lL d ac (ak (aa d [.c,.v (pB j),.v (qP j 1),.o (nV (sk s a)) 0 1 1] (bg 78 ((sk s a:Nat)+1) ((sk s a)+1) ?_))));refine lL d [.v (pB j),.v (qP j 1)] (ce 0 1 ([nV ((sk s a)+1)]) d (fun _ pu d=>?_));replace e:=e.put pu (o0.2 rfl) d.g;refine aE (lL d ac (bn 82 (ihs j s B ((sk s a)+1) oM y t e1 hq1 _ _ d.g (d.own 0) (d.jk 0) d.f.1) ?_));rintro _ _ _ u50 ⟨F,Q,rfl,cy,bp,bw,br⟩;replace d:=(d.stepM 0 u50 bp).to [⟨j,56,[.string s,nV e1,iV y]⟩] [];replace e:=e.trans u50;replace d:=((d.a_Seg bw).add (K:=fun i=>PtH i Q t) br);refine lL d ac (ai (aa d [.c,.v qT,.c,.c] (bn 87 (jX j s B e1 oM y 41 kD hd1 _ _ d.g (d.own 0) (d.jk 0) d.f.r.1) ?_)));rintro _ _ _ u54 ⟨rfl,cq,Y⟩;replace d:=(d.stepM 0 u54 Y).to [⟨j,56,[.string s,nV (sk s e1+1),iV y]⟩] [];replace e:=e.trans u54;exact lL d [.v qF,.v qF] (ah (cK (aa d aF (lN (kX (d.retM e [] (pB F) (by rw[l];exact ⟨F,Q,rfl,by first|assumption|omega,d.own 0,d.f.2.1,d.f.1⟩)))))))
  try rw[zc] at d
  try rw[zc]
  refine ci (aa d ac ?_);have hcW:=b5 aM;have V:=dC (p:=bF) (s:=s) (a:=sk s a) oM;refine bn 46 (pN 75 bF (fun _ _=>by kernel_rfl) (fun c hc w h g=>k9 c hc w h g) j s B (sk s a) oM y _ _ d.g (d.own 0) (d.jk 0) d.f.1) ?_;rintro _ _ _ u57 ⟨rfl,O⟩;replace d:=(d.stepM 0 u57 O).to [⟨j,56,[.string s,nV (rn bF s (sk s a)),iV y]⟩] [];replace e:=e.trans u57;refine lL d ac (ai (aG (ec 48 (nt _ _ d.g) ?_)));rintro _ _ _ u60 ⟨bm,rfl,hcm⟩;replace e:=e.trans (u60.m _);replace d:=d.step u60;replace d:=(d.add (K:=fun i=>MapS i bm gI) hcm);refine lL d ac (Il 50 118 9 3 (s.extract (sk s a) (rn bF s (sk s a))) true (iV (ag (s.extract (sk s a) (rn bF s (sk s a))))) ((bU (s.extract (sk s a) (rn bF s (sk s a))))) d d.f.1 ?_ (hf:=(by rcases nP (s.extract (sk s a) (rn bF s (sk s a))) with ⟨i_,e1_,e2_⟩|⟨e1_,e2_,e3_⟩;exact .inl ⟨i_,e1_,e2_⟩;exact .inr ⟨e1_,e2_,fun _=>by rw[e3_];kernel_rfl⟩)));refine lL d [.c,.v (iV (ag (s.extract (sk s a) (rn bF s (sk s a))))),.v (.bool (bU (s.extract (sk s a) (rn bF s (sk s a))))),.c,.c] (aE (lL d ac (lN ?_)));cases zd:((bU (s.extract (sk s a) (rn bF s (sk s a)))))
  .
   try rw[zd] at d
   try rw[zd]
   refine cV (cK (cQ (aa d ac ?_)));obtain ⟨hnm,I,l⟩:=nQ hq (z aM) hcW aM;refine ec 58 ((by have q_:=D5 (s.extract (sk s a) (rn bF s (sk s a))) (by rw[ByteArray.size_extract];omega) _ _ d.g;rw[hnm] at q_;exact q_)) ?_;rintro _ _ _ u64 rfl;replace e:=e.trans (u64.m _);replace d:=d.step u64;refine lL d [.v qF] (ah (cK (aa d [.c,.v (.agg #[iV 2,iV 0,qF,uV 0,eS,uV 0,eS,.string (s.extract (sk s a) (rn bF s (sk s a))),sZ])] (fr 65 31 ([iV 2,iV 0,qF,uV 0,eS,uV 0,eS,.string (s.extract (sk s a) (rn bF s (sk s a))),sZ]) d (fun zk _ _ u68 u d=>?_)))));replace u:=ed e.gr.size u;replace e:=e.trans (u68.m _);refine lL d ac (lN (kX ?_));obtain ⟨zt,d,e,b1⟩:=d.pubM e 0 u;replace d:=d.to [⟨j,56,[.string s,nV (rn bF s (sk s a)),iV y]⟩] [];have b9:Seg zt zk 0 (bv ⟨2,0,0,(s.extract (sk s a) (rn bF s (sk s a))),none,0,0⟩):=b1;replace d:=d.a_Seg b9;exact d.retM e [] (pB zk) (by rw[I];rw[l];exact ⟨zk,⟨2,0,0,(s.extract (sk s a) (rn bF s (sk s a))),none,0,0⟩,rfl,by first|assumption|omega,d.own 0,d.f.1,PtH.nam⟩)
  try rw[zd] at d
  try rw[zd]
  refine ci (aa d aF (bn 56 (ihc (ag (s.extract (sk s a) (rn bF s (sk s a)))) (oP aM) j s B (rn bF s (sk s a)) oM y t b (qL hq (z aM) hcW aM) _ _ d.g (d.own 0) (d.jk 0) d.f.2.1) ?_));rintro _ _ _ u76 ⟨L,S,rfl,cr,bl,Z,X⟩;replace d:=(d.stepM 0 u76 bl).to [⟨j,56,[.string s,nV b,iV y]⟩] [];replace e:=e.trans u76;replace d:=((d.a_Seg Z).add (K:=fun i=>PtH i S t) X);exact lL d ac (lN (kX (d.retM e [] (pB L) (by exact ⟨L,S,rfl,by first|assumption|omega,d.own 0,d.f.2.1,d.f.1⟩))))
 try rw[za] at d
 try rw[za]
 refine ci (aa d ac ?_);obtain ⟨q,hnq,I,l⟩:=nC hq (decide_eq_true (Kj fun i=>zo aM i));have V:=dC (p:=cH) (s:=s) (a:=sk s a) oM;refine bn 27 (pN 124 cH (fun _ _=>by kernel_rfl) (fun c hc w h g=>FO c hc w h g) j s B (sk s a) oM y _ _ d.g (d.own 0) (d.jk 0) d.f.1) ?_;rintro _ _ _ u79 ⟨rfl,O⟩;rw[<-l] at O V
 replace d:=(d.stepM 0 u79 O).to [⟨j,56,[.string s,nV b,iV y]⟩] [];replace e:=e.trans u79;refine ec 28 (hnf _ _ hnq _ _ d.g d.f.1) ?_;rintro _ _ _ u82 rfl;replace e:=e.trans (u82.m _);replace d:=d.step u82;refine lL d [.c,.v (qv q),.v qT] (fr 5 28 a1 d (fun zu _ _ u86 x d=>?_));replace x:=ed e.gr.size x;replace e:=e.trans (u86.m _);refine ce 0 0 (qc q) d (fun _ pu d=>?_);replace e:=e.put2 pu x g d.g;refine lL d ac (ai (aa d [.c,.v qF] (ah (cK (aa d [.o (qv q) 0 0 5] (ec 37 (sL q _ _ d.g) ?_))))));rintro _ _ _ u91 ⟨C,rfl,bq⟩;replace e:=e.trans (u91.m _);replace d:=d.step u91;replace d:=(d.add (K:=fun i=>PtH i C (dm q)) bq);refine fr 7 31 a2 d (fun zl _ _ u95 k d=>?_);replace k:=ed e.gr.size k;replace e:=e.trans (u95.m _);refine ce 0 0 (bv C) d (fun _ pu d=>?_);replace e:=e.put2 pu k g d.g;refine aE (lL d ac (lN (kX ?_)));obtain ⟨zv,d,e,b7⟩:=d.pubM e 0 k;replace d:=d.to [⟨zu,28,qc q⟩,⟨j,56,[.string s,nV b,iV y]⟩] [];have b0:Seg zv zl 0 (bv C):=b7;replace d:=d.a_Seg b0;exact d.retM e [] (pB zl) (by rw[I];exact ⟨zl,C,rfl,by first|assumption|omega,d.own 1,d.f.1,d.f.2.1⟩)
theorem Gt  (op:Int)(hop:9<=op/\op<=13)(Z:PC nf bf 9 n .sum)(j:Nat)(s:ByteArray)(p:s.size<=1000000)(a:Nat)(ha:a<=s.size)(l:Int)(t:Tm)(b:Nat)(hq:bj nf bf s (n+1) (.call op) a=some (.ok t b))(w:World)(h:Hp)(g:G w h)(ho:Own w j 56 [.string s,nV a,iV l])(hj:h[j]?=some junk)(tb:Tab h):Calls Tryz.prog 125 #[pB j,iV op] w (bV j w h (vL j s t b l)):=by
 have e:UpM [j] w h w h:=UpM.refl g;obtain ⟨wz,b2,d⟩:=SS.at_ g ho hj;obtain ⟨zb,u1,D,hq1,hA,hB⟩:=mb hq;replace d:=(d.add (K:=fun C=>Tab C) tb);refine go Tryz.func125 [(0,pB j),(1,iV op)] rfl (aa d ac (ai (aa d ac (bn 9 (jX j s p a ha l 40 kD zb _ _ d.g (d.own 0) (d.jk 0) d.f.1) ?_))));rintro _ w2 h3 u4 ⟨rfl,b0,V⟩;replace d:=(d.stepM 0 u4 V).to [⟨j,56,[.string s,nV (sk s a+1),iV l]⟩] [];replace e:=e.trans u4;refine lL d [.v qF] (ah (cK (aa d ac (bn 18 (Z j s p (sk s a+1) oM l u1 D hq1 _ _ d.g (d.own 0) (d.jk 0) d.f.1) ?_))));rintro _ w6 h7 u8 ⟨u,z,rfl,b1,W,bm,bp⟩;replace d:=(d.stepM 0 u8 W).to [⟨j,56,[.string s,nV D,iV l]⟩] [];replace e:=e.trans u8;replace d:=((d.a_Seg bm).add (K:=fun C=>PtH C z u1) bp);refine lL d ac (ai (aa d [.c,.v qF] (ah (cK (aa d [.c,.c,.v (pB u)] (lH 24 (a8 z) d d.f.2.1 ?_))))));refine ec 25 (ve op z u1 _ _ d.g d.f.1) ?_;rintro _ _ _ X ⟨o,rfl,U⟩;replace e:=e.trans (X.m _);replace d:=d.step X;replace d:=(d.add (K:=fun C=>PtH C o (fS op u1)) U);refine fr 6 31 a2 d (fun B _ _ u16 i d=>?_);replace i:=ed e.gr.size i;replace e:=e.trans (u16.m _);refine ce 0 0 (bv o) d (fun _ pu d=>?_);replace e:=e.put2 pu i g d.g;refine ai (aa d ac (ec 27 (nF op _ _ d.g) ?_));rintro _ _ _ u20 rfl;replace e:=e.trans (u20.m _);replace d:=d.step u20
 rcases r7 hop with ⟨ho2,har⟩|⟨ho2,har⟩
 .
  have zc:((fM op:Int) == (2:Int))=true:=by rw[har];rfl
  refine lB 28 zc ?_;obtain ⟨hA1,v1,f1,hA2,hA3,hA4,hA5⟩:=hA ho2;refine ak (cQ (aa d ac (bn 30 (jX j s p D oM l 44 kD hA1 _ _ d.g (d.own 1) (d.jk 1) d.f.r.2.1) ?_)));rintro _ _ _ u25 ⟨rfl,bq,H⟩;replace d:=(d.stepM 1 u25 H).to [⟨B,31,bv o⟩,⟨j,56,[.string s,nV (sk s D+1),iV l]⟩] [];replace e:=e.trans u25;refine lL d [.v qF] (ah (cK (aa d ac (bn 39 (Z j s p (sk s D+1) oM l v1 f1 hA2 _ _ d.g (d.own 1) (d.jk 1) d.f.r.2.1) ?_))));rintro _ _ _ Y ⟨y,x,rfl,bw,I,J,L⟩;replace d:=(d.stepM 1 Y I).to [⟨B,31,bv o⟩,⟨j,56,[.string s,nV f1,iV l]⟩] [];replace e:=e.trans Y;replace d:=((d.a_Seg J).add (K:=fun C=>PtH C x v1) L);refine lL d ac (ai (aa d [.c,.v qF] (ah (cK (cR 8 [] mixed d aw ?_)))));refine eV 0 42 (iV op) (eV 1 43 (pB u) (eV 2 44 (pB u) (eH 3 45 (a8 z) d d.f.q.1 (eV 4 46 (pB y) (eV 5 47 (pB y) (eH 6 48 (a8 x) d d.f.2.1 (io 7 49 d e (fun _ _ d=>tJ op z x u1 v1 _ _ d.g d.f.r.2.1 d.f.1) ?_)))))));rintro _ _ _ _ _ e d ⟨k,rfl,F⟩;replace d:=(d.add (K:=fun C=>PtH C k (bz op u1 v1)) F);refine bL d (fun _ _ u35 d=>?_);replace e:=e.trans (u35.m _);refine km 8 0 0 (bv k) d (fun _ pu d=>?_);replace e:=e.put2 pu i g d.g;refine tN (cQ (aa d ac (bn 51 (jX j s p f1 oM l 41 kD hA3 _ _ d.g (d.own 1) (d.jk 1) d.f.q.r.1) ?_)));rintro _ _ _ S ⟨rfl,br,M⟩;replace d:=(d.stepM 1 S M).to [⟨B,31,bv k⟩,⟨j,56,[.string s,nV (sk s f1+1),iV l]⟩] [];replace e:=e.trans S;refine lL d [.v qF] (ah (cK (aa d ac (lN (kX ?_)))));obtain ⟨ze,d,e,bk⟩:=d.pubM e 0 i;replace d:=d.to [⟨j,56,[.string s,nV (sk s f1+1),iV l]⟩] [];have bb:Seg ze B 0 (bv k):=bk;replace d:=d.a_Seg bb;exact d.retM e [] (pB B) (by rw[hA4];rw[hA5];exact ⟨B,k,rfl,by first|assumption|omega,d.own 0,d.f.1,d.f.2.1⟩)
 have zd:((fM op:Int) == (2:Int))=false:=by rw[har];rfl
 refine lB 28 zd ?_;obtain ⟨hB1,hB2,hB3⟩:=hB ho2;refine ah (cK (cQ (aa d ac (bn 51 (jX j s p D oM l 41 kD hB1 _ _ d.g (d.own 1) (d.jk 1) d.f.r.2.1) ?_))));rintro _ _ _ u49 ⟨rfl,bt,O⟩;replace d:=(d.stepM 1 u49 O).to [⟨B,31,bv o⟩,⟨j,56,[.string s,nV (sk s D+1),iV l]⟩] [];replace e:=e.trans u49;refine lL d [.v qF] (ah (cK (aa d ac (lN (kX ?_)))));obtain ⟨zf,d,e,Q⟩:=d.pubM e 0 i;replace d:=d.to [⟨j,56,[.string s,nV (sk s D+1),iV l]⟩] [];have bl:Seg zf B 0 (bv o):=Q;replace d:=d.a_Seg bl;exact d.retM e [] (pB B) (by rw[hB2];rw[hB3];exact ⟨B,o,rfl,by first|assumption|omega,d.own 0,d.f.1,d.f.2.1⟩)
end
section
variable {nf bf:ByteArray->Option Rat}(hnf:tE nf)(hnp:wA)(hbf:FD bf)
include hnf hnp hbf
def HB (nf bf:ByteArray->Option Rat)(n:Nat):Prop:=PC nf bf 9 n .sum/\PC nf bf 22 n .prod/\PC nf bf 41 n .sign/\PC nf bf 71 n .pow/\PC nf bf 100 n .atom/\Iv nf bf n
theorem Ci (n:Nat):HB nf bf n:=by
  induction n using Nat.strongRecOn with
  | ind n ih =>
    cases n with
    | zero=>exact ⟨fun _ _ _ _ _ _ _ _ h=>(by cases h),fun _ _ _ _ _ _ _ _ h=>(by cases h),fun _ _ _ _ _ _ _ _ h=>(by cases h),fun _ _ _ _ _ _ _ _ h=>(by cases h),fun _ _ _ _ _ _ _ _ h=>(by cases h),fun _ _ _ _ _ _ _ _ _ _ h=>(by cases h)⟩
    | succ n =>
      have i:=ih n (Nat.lt_succ_self n);refine ⟨?_,?_,?_,?_,?_,?_⟩
      . exact fun f s h1 a j k t b d w h g l e c=>HX n (fun m p=>(ih m oM).2.1) f s h1 a j k t b d w h g l e c
      . exact fun f s h1 a j k t b d w h g l e c=>vT n (fun m p=>(ih m oM).2.2.1) f s h1 a j k t b d w h g l e c
      . exact fun f s h1 a j k t b d w h g l e c=>B3 n i.2.2.1 i.2.2.2.1 f s h1 a j k t b d w h g l e c
      . exact fun f s h1 a j k t b d w h g l e c=>E6 n hnp i.2.2.2.2.1 f s h1 a j k t b d w h g l e c
      . exact fun f s h1 a j k t b d w h g l e c=>GE n hnf hbf i.2.2.2.2.2 i.1 f s h1 a j k t b d w h g l e c
      . exact fun op o f s h1 a j k t b d w h g l e c=>Gt n op o i.1 f s h1 a j k t b d w h g l e c
end
theorem oc (a b:Nat)(h1:b<=a)(c:a<256):IntKind.wrap .u8 ((a:Int)-(b:Int))=((a-b:Nat):Int):=by
 rw[show (a:Int)-(b:Int)=((a-b:Nat):Int) by omega];exact G2 oM oM
theorem ny {a:Nat}(h:a<18446744073709551616):Wd (if a=0 then [] else [a]):=by
 split
 ·exact Dg.nil
 ·intro x b
  rw[o0] at b;rw[b];exact h
theorem jl (a:Nat):aA (if a=0 then [] else [a])=a:=by
 split
 ·rename_i e;rw[e];rfl
 ·show a+18446744073709551616*0=a;omega
theorem nW {c:UInt8}:∀ (l:List UInt8),(∀ b∈l,b≠c)->Lib.indexByte l c = -1
  | [],_=>rfl
  | b::l,h=>by
    have h1:(b == c)=false:=by simpa using h b List.mem_cons_self
    unfold Lib.indexByte
    rw[h1,nW l (fun b a=>h b (List.mem_cons_of_mem _ a))];rfl
theorem sf {s:ByteArray}{b:UInt8}(h:b∈s.data.toList):∃ i,i<s.size/\aj s i=b.toNat:=by
 obtain ⟨i,hi,e⟩:=List.mem_iff_getElem.1 h;refine ⟨i,by simpa using hi,?_⟩
 unfold aj
 rw[B1,Km hi,e];rfl
theorem AE (x:ByteArray)(c:UInt8)(a:∀ i,i<x.size->aj x i≠c.toNat)(w:World)(h:Hp)(g:G w h):CV 115 #[.string x,.string ⟨#[c]⟩] w h (iV (-1)):=by
 have q:=Ret.of_same g (Tryz.stringslite_Index_one x c w)
 rw[nW _ (fun b d e=>by
  obtain ⟨i,hi,h1⟩:=sf d;exact a i hi (by rw[h1,e]))] at q
 exact q
theorem Ez {x:ByteArray}{c:UInt8}(h:aj x 0≠c.toNat):Lib.hasPrefix x.data.toList [c]=false:=by
  unfold Lib.hasPrefix
  unfold aj at h
  cases e:x.data.toList with
  | nil=>rfl
  | cons b l =>
    rw[e] at h
    have:b≠c:=fun a=>h (by rw[a];rfl)
    simp[Kp,Ne.symm this]
theorem gT (x:ByteArray)(c:UInt8)(d:aj x 0≠c.toNat)(w:World)(h:Hp)(g:G w h):CV 189 #[.string x,.string ⟨#[c]⟩] w h (.tuple #[.string x,.bool false]):=by
 have q:=Ret.of_same g (Tryz.strings_CutPrefix x ⟨#[c]⟩ w);have e:Lib.hasPrefix x.data.toList [c]=false:=Ez d;have b:(⟨(Lib.trimPrefix x.data.toList [c]).toArray⟩:ByteArray)=x:=by unfold Lib.trimPrefix;rw[e];simp
 have a:CV 189 #[.string x,.string ⟨#[c]⟩] w h (.tuple #[.string ⟨(Lib.trimPrefix x.data.toList [c]).toArray⟩,.bool (Lib.hasPrefix x.data.toList [c])]):=q;rw[e,b] at a;exact a
theorem sv (m a:Nat)(ha:a<18446744073709551616)(w:World)(h:Hp)(g:G w h):CR 127 #[.slice none ((([]:List Nat)).length) 0,mV m,mV a] w h (fun v h1=>∃ (A:Z9)(c:Nat)(l:List Nat),v=.slice A l.length c/\l.length<=c/\SlO 1 ar 0 h1 A l/\l=if a=0 then [] else [a]):=by
 have b:=(sS g).nil 22 1;have o:([]:List Nat).length=0:=rfl;refine go Tryz.func127 [(0,qS none ((([]:List Nat)).length) 0),(1,mV m),(2,mV a)] rfl (aa b ac (aE (lL b aF (ai (aa b [.c,.v (iV 0),.c] (bx (cU ?_)))))));refine cN (aa b [.v qF] (ai (cV (CG.exit ?_))))
 show CG _ _ _ _ _ _ _ _
 refine cQ (aa b ac ?_);cases d:((a:Int) != (0:Int))
 .
  have i:=az d;exact lB 43 d (ah (cK (aa b aF (af b [] (qS none ((([]:List Nat)).length) 0) (⟨none,0,[],rfl,nR _,SlO.nil,by rw[if_pos oM]⟩)))))
 have i:=a7 d;refine lB 43 d (ak (kQ (lL b aF (lR 46 22 1 ([mV a]) b (fun p w3 x b=>lY 47 0 22 1 0 none ([]:List Nat) ar a 8 p (uV 0) b b.f.1 (fun j k z y b=>lL b ac (aE (lL b aF (lN (kX ?_))))))))));obtain ⟨_,b,u⟩:=b.pubr 0 (A:=j) (c:=k) (l:=([]:List Nat)++[a]) (f:=ar) (ty:=22) (sz:=1) 0 (fun _=>rfl);have e:=(b.f.1);exact b.ret [] (qS j ((([]:List Nat)++[a]).length) k) (⟨_,_,_,rfl,u,e,by rw[if_neg oM];rfl⟩)
theorem rV (x:ByteArray)(k:Nat)(hx:x.size<=18)(hk_:ef x=some k)(w:World)(h:Hp)(g:G w h):CV 103 #[.string x] w h (.tuple #[nv k,.bool true]):=by
 have a:=sS g;obtain ⟨h1,h0,I,W⟩:=fb hk_;refine go Tryz.func103 [(0,.string x)] rfl (aG (lA 2 24 ([uV 0,eS]) a (fun M w2 h3 a=>lL a ac (ai (aa a [.c,.v (nV x.size)] ?_)))));cases L:((x.size:Int) == (0:Int))
 .
  have Z:=ao L;refine lB 10 L (lL a [.c,.c,.v (nV x.size)] ?_);cases H:(decide ((200:Int)<(x.size:Int)))
  .
   have Y:=oF H;refine lB 14 H (lL a [.v qF,.c,.c,.v (nV x.size)] ?_);cases J:(decide ((1:Int)<(x.size:Int)))
   .
    have V:=oF J;refine lB 19 J (lL a ac (lG 21 ?_));refine lG 22 (lG 23 (lL a [.v qF,.v qF] (ah (cK (aa a ac (aE (lL a aF (ai (aa a [.c,.v (nV x.size),.c] (bx ?_))))))))));replace a:=a.add (K:=fun b=>SlO 1 ar 0 b none ([])) (SlO.nil);refine bG _ (CG.loop (fun Q Γ w_=>∃ (j:Nat)(A:Z9)(c:Nat)(l:List Nat)(e:Nat)(o:Nat)(b:Hp),Q=x.size-j/\Γ=[(0,.string x),(2,pB M),(28,nV x.size),(29,nV j),(4,qS A l.length c),(5,mV e),(6,mV o)]/\SS w h w_ b [⟨M,24,[uV 0,eS]⟩] [] [fun b=>SlO 1 ar 0 b A l]/\j<=x.size/\l.length<=c/\(j<x.size->A=none/\c=0/\l=[]/\e=dv x j/\o=10^j)/\(j=x.size->l.length<=1)/\(j=x.size->Wd l)/\(j=x.size->aA l=dv x j)) _ ⟨0,none,0,[],0,1,h3,rfl,rfl,a.to _ _,JF _,nR _,(fun _=>⟨rfl,rfl,rfl,rfl,rfl⟩),(fun _=>JF _),(fun _=>Dg.nil),(fun b=>absurd b oM)⟩ ?_);rintro _ _ w7 ⟨j,A,c,l,e,o,h8,hm9,rfl,a,hk,F,hI,hL,hW,hV⟩;have O:=I j;have hb_:=fR (x:=x) j (fun i hi=>I i oM);have hp_:10^j<=10^18:=A4 kD oM;have hs_:dv x (j+1)=dv x j*10+(aj x j-48):=rfl;have ht_:10^(j+1)=10^j*10:=z1 ..;refine aG ?_;cases za:(decide ((j:Int)<(x.size:Int)))
    .
     have zm:=oF za;refine lB 30 za (ai (cV (CG.exit ?_)))
     show CG _ _ _ _ _ _ _ _
     exact aa a ac (aq 68 a (oD A c l (hW oM) (by have:=hL oM;omega) F _ _ a.g a.f.1) (fun _ _ a=>lP 0 0 (nc (aA l)) a (fun _ a=>lL a ac (af a [(0,0,2)] (.tuple #[nv (aA l),qT]) (by rw[hV oM,show j=x.size by omega,<-W])))))
    have zm:=oT za;refine lB 30 za (ai (ci (cK (cQ (kZ ?_)))));obtain ⟨C,y,p,hpt,hun⟩:=hI oM;have U:=O oM;have S:10^(j+1)<=10^18:=A4 kD oM;refine aa a aF (ai (aa a aF (lV 34 (.int .u8 (aj x j:Nat)) ?_ (hr:=aR (tx:=9) (x:=.tmp 32) (i:=.tmp 33) (k:=.i64) (s:=x) (n:=j) (j:=(j:Int)) kR kR kR kR oM oM _))));cases zb:(decide (((aj x j:Nat):Int)<(48:Int)))
    .
     have zn:=oF zb;refine lB 35 zb (lL a dx (lV 39 (.int .u8 (aj x j:Nat)) ?_ (hr:=aR (tx:=9) (x:=.tmp 37) (i:=.tmp 38) (k:=.i64) (s:=x) (n:=j) (j:=(j:Int)) kR kR kR kR oM oM _)));cases zc:(decide ((57:Int)<((aj x j:Nat):Int)))
     .
      have zo:=oF zc;refine lB 40 zc (lL a [.v qF] (ah (cK (aa a ac (lV 44 (mV (e*10)) ?_ (hr:=rU (((e:Int)*(10:Int))) kR (d5 e 10 oM)))))));refine lL a aF (lV 47 (.int .u8 (aj x j:Nat)) ?_ (hr:=aR (tx:=9) (x:=.tmp 45) (i:=.tmp 46) (k:=.i64) (s:=x) (n:=j) (j:=(j:Int)) kR kR kR kR oM oM _));refine lV 48 (.int .u8 ((aj x j)-48:Nat)) ?_ (hr:=aN (n:=IntKind.wrap .u8 (((aj x j:Nat):Int)-(48:Int))) kR (oc (aj x j) 48 oM oM));refine lV 49 (mV ((aj x j)-48)) ?_ (hr:=rU ((((aj x j)-48:Nat):Int)) kR (ay oM oM));refine lV 50 (mV ((e*10)+((aj x j)-48))) ?_ (hr:=rU ((((e*10:Nat):Int)+(((aj x j)-48:Nat):Int))) kR (dj (e*10) ((aj x j)-48) oM));refine lL a ac (lV 52 (mV (o*10)) ?_ (hr:=rU (((o:Int)*(10:Int))) kR (d5 o 10 oM)));refine lL a aF (aE (lL a ac ?_));cases zd:(((o*10:Nat):Int) == (10000000000000000000:Int))
      .
       have zp:=ao zd;refine lB 54 zd (lL a [.c,.c,.c,.v (nV x.size)] (lI 59 ((x.size:Nat)-1) ?_));cases ze:((j:Int) == ((x.size:Nat)-1:Int))
       .
        have zq:=ao ze;refine lB 60 ze (lL a [.v qF] (ah (cK (kQ (bg 66 ((j:Nat)+1) (j+1) ?_)))));refine lL a ac (lD ?_);intro X D;replace a:=(a.tl.add (K:=fun b=>SlO 1 ar 0 b A l) a.f.1);refine ⟨_,_,?_,⟨j+1,A,c,l,((e*10)+((aj x j)-48):Nat),(o*10),h8,rfl,rfl,a.to _ _,oM,F,(fun _=>⟨C,y,p,by omega,by omega⟩),(fun b=>absurd b oM),(fun b=>absurd b oM),(fun b=>absurd b oM)⟩,D.to _ kR⟩
        omega
       have zq:=eq_of_beq ze;refine lB 60 ze (lL a [.v qT] (ak ?_));subst C y p;refine aa a dx (lC 65 a (sv ((o*10)) (((e*10)+((aj x j)-48):Nat)) oM _ _ a.g) ?_);rintro _ _ zx a ⟨B,c2,l2,rfl,z,u,d⟩;replace a:=a.aS u;refine lL a ac (lN (bG [(0,.string x),(2,pB M),(28,nV x.size),(29,nV j),(4,qS B l2.length c2),(5,mV ((e*10)+((aj x j)-48))),(6,mV (o*10))] ?_));refine kQ (lL a aF (lN (kQ (bg 66 ((j:Nat)+1) (j+1) ?_))));refine lL a ac (lD ?_);intro X D;replace a:=(a.tl.tl.add (K:=fun b=>SlO 1 ar 0 b B l2) a.f.1);refine ⟨_,_,?_,⟨j+1,B,c2,l2,0,1,zx,rfl,rfl,a.to _ _,oM,z,(fun b=>absurd b oM),(fun _=>by rw[d];split<;>simp),(fun _=>by rw[d];exact ny oM),(fun _=>by rw[d,jl];omega)⟩,D.to _ kR⟩
       omega
      have zp:=eq_of_beq zd;refine lB 54 zd (lL a ac (lG 56 ?_));refine lG 57 (lG 58 (lG 59 (lG 60 (lL a [.v qT] (ak ?_)))));subst C y p;refine aa a dx (lC 65 a (sv ((o*10)) (((e*10)+((aj x j)-48):Nat)) oM _ _ a.g) ?_);rintro _ _ zA a ⟨B,c2,l2,rfl,z,u,d⟩;replace a:=a.aS u;refine lL a ac (lN (bG [(0,.string x),(2,pB M),(28,nV x.size),(29,nV j),(4,qS B l2.length c2),(5,mV ((e*10)+((aj x j)-48))),(6,mV (o*10))] ?_));refine kQ (lL a aF (lN (kQ (bg 66 ((j:Nat)+1) (j+1) ?_))));refine lL a ac (lD ?_);intro X D;replace a:=(a.tl.tl.add (K:=fun b=>SlO 1 ar 0 b B l2) a.f.1);refine ⟨_,_,?_,⟨j+1,B,c2,l2,0,1,zA,rfl,rfl,a.to _ _,oM,z,(fun b=>absurd b oM),(fun _=>by rw[d];split<;>simp),(fun _=>by rw[d];exact ny oM),(fun _=>by rw[d,jl];omega)⟩,D.to _ kR⟩
      omega
     have zo:=oT zc;refine lB 40 zc (lL a [.v qT] (ak (aa a [.v (.agg #[uV 0,eS])] (lP 0 0 ([uV 0,eS]) a (fun _ a=>lL a ac (lN (kX ?_)))))))
     exfalso
     omega
    have zn:=oT zb;refine lB 35 zb (lL a ac (lG 37 ?_));refine lG 38 (lG 39 (lG 40 (lL a [.v qT] (ak (aa a [.v (.agg #[uV 0,eS])] (lP 0 0 ([uV 0,eS]) a (fun _ a=>lL a ac (lN (kX ?_)))))))))
    exfalso
    omega
   have V:=oT J;refine lB 19 J (lL a aF (lV 22 (.int .u8 (aj x 0:Nat)) ?_ (hr:=aR (tx:=9) (x:=.tmp 21) (i:=.const (iV 0)) (k:=.i64) (s:=x) (n:=0) (j:=(0:Int)) kR kR kR kR oM oM _)));cases zf:(((aj x 0:Nat):Int) == (48:Int))
   .
    have zr:=ao zf;refine lB 23 zf (lL a [.v qF,.v qF] (ah (cK (aa a ac (aE (lL a aF (ai (aa a [.c,.v (nV x.size),.c] (bx ?_)))))))));replace a:=a.add (K:=fun b=>SlO 1 ar 0 b none ([])) (SlO.nil);refine bG _ (CG.loop (fun Q Γ w_=>∃ (j:Nat)(A:Z9)(c:Nat)(l:List Nat)(e:Nat)(o:Nat)(b:Hp),Q=x.size-j/\Γ=[(0,.string x),(2,pB M),(28,nV x.size),(29,nV j),(4,qS A l.length c),(5,mV e),(6,mV o)]/\SS w h w_ b [⟨M,24,[uV 0,eS]⟩] [] [fun b=>SlO 1 ar 0 b A l]/\j<=x.size/\l.length<=c/\(j<x.size->A=none/\c=0/\l=[]/\e=dv x j/\o=10^j)/\(j=x.size->l.length<=1)/\(j=x.size->Wd l)/\(j=x.size->aA l=dv x j)) _ ⟨0,none,0,[],0,1,h3,rfl,rfl,a.to _ _,JF _,nR _,(fun _=>⟨rfl,rfl,rfl,rfl,rfl⟩),(fun _=>JF _),(fun _=>Dg.nil),(fun b=>absurd b oM)⟩ ?_);rintro _ _ _ ⟨j,A,c,l,e,o,zB,bb,rfl,a,hk,F,hI,hL,hW,hV⟩;have O:=I j;have hb_:=fR (x:=x) j (fun i hi=>I i oM);have hp_:10^j<=10^18:=A4 kD oM;have hs_:dv x (j+1)=dv x j*10+(aj x j-48):=rfl;have ht_:10^(j+1)=10^j*10:=z1 ..;refine aG ?_;cases zg:(decide ((j:Int)<(x.size:Int)))
    .
     have zs:=oF zg;refine lB 30 zg (ai (cV (CG.exit ?_)))
     show CG _ _ _ _ _ _ _ _
     exact aa a ac (aq 68 a (oD A c l (hW oM) (by have:=hL oM;omega) F _ _ a.g a.f.1) (fun _ _ a=>lP 0 0 (nc (aA l)) a (fun _ a=>lL a ac (af a [(0,0,2)] (.tuple #[nv (aA l),qT]) (by rw[hV oM,show j=x.size by omega,<-W])))))
    have zs:=oT zg;refine lB 30 zg (ai (ci (cK (cQ (kZ ?_)))));obtain ⟨C,y,p,hpt,hun⟩:=hI oM;have U:=O oM;have S:10^(j+1)<=10^18:=A4 kD oM;refine aa a aF (ai (aa a aF (lV 34 (.int .u8 (aj x j:Nat)) ?_ (hr:=aR (tx:=9) (x:=.tmp 32) (i:=.tmp 33) (k:=.i64) (s:=x) (n:=j) (j:=(j:Int)) kR kR kR kR oM oM _))));cases zi:(decide (((aj x j:Nat):Int)<(48:Int)))
    .
     have zt:=oF zi;refine lB 35 zi (lL a dx (lV 39 (.int .u8 (aj x j:Nat)) ?_ (hr:=aR (tx:=9) (x:=.tmp 37) (i:=.tmp 38) (k:=.i64) (s:=x) (n:=j) (j:=(j:Int)) kR kR kR kR oM oM _)));cases zj:(decide ((57:Int)<((aj x j:Nat):Int)))
     .
      have zu:=oF zj;refine lB 40 zj (lL a [.v qF] (ah (cK (aa a ac (lV 44 (mV (e*10)) ?_ (hr:=rU (((e:Int)*(10:Int))) kR (d5 e 10 oM)))))));refine lL a aF (lV 47 (.int .u8 (aj x j:Nat)) ?_ (hr:=aR (tx:=9) (x:=.tmp 45) (i:=.tmp 46) (k:=.i64) (s:=x) (n:=j) (j:=(j:Int)) kR kR kR kR oM oM _));refine lV 48 (.int .u8 ((aj x j)-48:Nat)) ?_ (hr:=aN (n:=IntKind.wrap .u8 (((aj x j:Nat):Int)-(48:Int))) kR (oc (aj x j) 48 oM oM));refine lV 49 (mV ((aj x j)-48)) ?_ (hr:=rU ((((aj x j)-48:Nat):Int)) kR (ay oM oM));refine lV 50 (mV ((e*10)+((aj x j)-48))) ?_ (hr:=rU ((((e*10:Nat):Int)+(((aj x j)-48:Nat):Int))) kR (dj (e*10) ((aj x j)-48) oM));refine lL a ac (lV 52 (mV (o*10)) ?_ (hr:=rU (((o:Int)*(10:Int))) kR (d5 o 10 oM)));refine lL a aF (aE (lL a ac ?_));cases zk:(((o*10:Nat):Int) == (10000000000000000000:Int))
      .
       have zv:=ao zk;refine lB 54 zk (lL a [.c,.c,.c,.v (nV x.size)] (lI 59 ((x.size:Nat)-1) ?_));cases zl:((j:Int) == ((x.size:Nat)-1:Int))
       .
        have zw:=ao zl;refine lB 60 zl (lL a [.v qF] (ah (cK (kQ (bg 66 ((j:Nat)+1) (j+1) ?_)))));refine lL a ac (lD ?_);intro X D;replace a:=(a.tl.add (K:=fun b=>SlO 1 ar 0 b A l) a.f.1);refine ⟨_,_,?_,⟨j+1,A,c,l,((e*10)+((aj x j)-48):Nat),(o*10),zB,rfl,rfl,a.to _ _,oM,F,(fun _=>⟨C,y,p,by omega,by omega⟩),(fun b=>absurd b oM),(fun b=>absurd b oM),(fun b=>absurd b oM)⟩,D.to _ kR⟩
        omega
       have zw:=eq_of_beq zl;refine lB 60 zl (lL a [.v qT] (ak ?_));subst C y p;refine aa a dx (lC 65 a (sv ((o*10)) (((e*10)+((aj x j)-48):Nat)) oM _ _ a.g) ?_);rintro _ _ zD a ⟨B,c2,l2,rfl,z,u,d⟩;replace a:=a.aS u;refine lL a ac (lN (bG [(0,.string x),(2,pB M),(28,nV x.size),(29,nV j),(4,qS B l2.length c2),(5,mV ((e*10)+((aj x j)-48))),(6,mV (o*10))] ?_));refine kQ (lL a aF (lN (kQ (bg 66 ((j:Nat)+1) (j+1) ?_))));refine lL a ac (lD ?_);intro X D;replace a:=(a.tl.tl.add (K:=fun b=>SlO 1 ar 0 b B l2) a.f.1);refine ⟨_,_,?_,⟨j+1,B,c2,l2,0,1,zD,rfl,rfl,a.to _ _,oM,z,(fun b=>absurd b oM),(fun _=>by rw[d];split<;>simp),(fun _=>by rw[d];exact ny oM),(fun _=>by rw[d,jl];omega)⟩,D.to _ kR⟩
       omega
      have zv:=eq_of_beq zk;refine lB 54 zk (lL a ac (lG 56 ?_));refine lG 57 (lG 58 (lG 59 (lG 60 (lL a [.v qT] (ak ?_)))));subst C y p;refine aa a dx (lC 65 a (sv ((o*10)) (((e*10)+((aj x j)-48):Nat)) oM _ _ a.g) ?_);rintro _ _ zE a ⟨B,c2,l2,rfl,z,u,d⟩;replace a:=a.aS u;refine lL a ac (lN (bG [(0,.string x),(2,pB M),(28,nV x.size),(29,nV j),(4,qS B l2.length c2),(5,mV ((e*10)+((aj x j)-48))),(6,mV (o*10))] ?_));refine kQ (lL a aF (lN (kQ (bg 66 ((j:Nat)+1) (j+1) ?_))));refine lL a ac (lD ?_);intro X D;replace a:=(a.tl.tl.add (K:=fun b=>SlO 1 ar 0 b B l2) a.f.1);refine ⟨_,_,?_,⟨j+1,B,c2,l2,0,1,zE,rfl,rfl,a.to _ _,oM,z,(fun b=>absurd b oM),(fun _=>by rw[d];split<;>simp),(fun _=>by rw[d];exact ny oM),(fun _=>by rw[d,jl];omega)⟩,D.to _ kR⟩
      omega
     have zu:=oT zj;refine lB 40 zj (lL a [.v qT] (ak (aa a [.v (.agg #[uV 0,eS])] (lP 0 0 ([uV 0,eS]) a (fun _ a=>lL a ac (lN (kX ?_)))))))
     exfalso
     omega
    have zt:=oT zi;refine lB 35 zi (lL a ac (lG 37 ?_));refine lG 38 (lG 39 (lG 40 (lL a [.v qT] (ak (aa a [.v (.agg #[uV 0,eS])] (lP 0 0 ([uV 0,eS]) a (fun _ a=>lL a ac (lN (kX ?_)))))))))
    exfalso
    omega
   have zr:=eq_of_beq zf;refine lB 23 zf (lL a [.v qT,.v qT] (ak (aa a [.v (.agg #[uV 0,eS])] (lP 0 0 ([uV 0,eS]) a (fun _ a=>lL a ac (lN (kX ?_)))))))
   exfalso
   first|omega|exact h0 oM oM
  have Y:=oT H;refine lB 14 H (lL a [.v qT,.c] (lG 17 ?_));refine lG 18 (lG 19 (lG 20 (lG 21 (lG 22 (lG 23 (lG 24 (lL a [.v qT] (ak (aa a [.v (.agg #[uV 0,eS])] (lP 0 0 ([uV 0,eS]) a (fun _ a=>lL a ac (lN (kX ?_)))))))))))))
  exfalso
  first|omega|exact h0 oM oM
 have Z:=eq_of_beq L;refine lB 10 L (lL a ac (lG 12 ?_));refine lG 13 (lG 14 (lL a [.v qT,.c] (lG 17 ?_)));refine lG 18 (lG 19 (lG 20 (lG 21 (lG 22 (lG 23 (lG 24 (lL a [.v qT] (ak (aa a [.v (.agg #[uV 0,eS])] (lP 0 0 ([uV 0,eS]) a (fun _ a=>lL a ac (lN (kX ?_)))))))))))))
 exfalso
 first|omega|exact h0 oM oM
theorem Gz (x:ByteArray)(c:UInt8)(b:∀ i,i<x.size->aj x i≠c.toNat)(w:World)(h:Hp)(g:G w h):CV 187 #[.string x,.string (⟨#[c]⟩)] w h (.tuple #[.string x,eS,.bool false]):=by
 have a:=sS g;exact go Tryz.func187 [(0,.string x),(1,.string (⟨#[c]⟩))] rfl (aa a dx (ai (aa a aF (aq 10 a (AE x c b _ _ a.g) (fun w1 d a=>lL a ac (aE (lL a [.c,.v qF] (ah (cK (aa a m4 (af a [] (.tuple #[.string x,eS,qF]) rfl)))))))))))
theorem sn (x:ByteArray)(c:UInt8)(b:∀ i,i<x.size->aj x i≠c.toNat)(w:World)(h:Hp)(g:G w h):CV 158 #[.string x,.string (⟨#[c]⟩)] w h (.tuple #[.string x,eS,.bool false]):=by
 have a:=sS g;exact go Tryz.func158 [(0,.string x),(1,.string (⟨#[c]⟩))] rfl (aa a dx (aE (lL a aF (aq 9 a (Gz x c b _ _ a.g) (fun w1 d a=>lL a [.v (.string x),.v (eS),.v qF,.c,.c,.c] (af a [] (.tuple #[.string x,eS,qF]) rfl))))))
theorem Bd (x:ByteArray)(k:Nat)(e:x.size<=18)(b:ef x=some k)(w:World)(h:Hp)(g:G w h):CV 161 #[.string x] w h (.tuple #[iv (k:Int),.bool true]):=by
 have a:=sS g;obtain ⟨h1,h0,d,f⟩:=fb b;refine go Tryz.func161 [(0,.string x)] rfl (aG (lA 2 26 ([qF,uV 0,eS]) a (fun l w2 y a=>lL a ac (aE (lL a ac (aq 10 a (gT x 45 (by have:=d 0 oM;show aj x 0≠45;omega) _ _ a.g) (fun j z a=>lL a [.c,.v (.string x),.v qF,.c,.c] (aE (lL a ac (aq 15 a (rV x k e b _ _ a.g) (fun u i a=>lL a [.c,.v (nv k),.v qT] (lA 6 24 ([uV 0,eS]) a (fun b8 p _ a=>lP 0 0 (nc k) a (fun _ a=>lL a ac (ai (aa a [.c,.v qF,.c,.c,.c] (lG 23 ?_)))))))))))))))));exact lG 24 (lG 25 (lL a [.v qF,.v qF] (ah (cK (aa a [.c,.o (nv k) 0 0 2] (aq 31 a (lg k _ _ a.g) (fun _ _ a=>lP 1 0 (ic (k:Int)) a (fun _ a=>lL a ac (af a [(1,0,3)] (.tuple #[iv (k:Int),qT]) rfl)))))))))
theorem AA (x:ByteArray)(k:Nat)(j:x.size<=18)(e:ef x=some k)(w:World)(h:Hp)(g:G w h):CV 123 #[.string x] w h (.tuple #[qv ((k:Nat):Rat),.bool true]):=by
 have a:=sS g;obtain ⟨h1,h0,b,l⟩:=fb e;exact go Tryz.func123 [(0,.string x)] rfl (aG (lA 2 28 a1 a (fun z w2 D a=>lL a ac (ai (aa a ac (aq 14 a (sn x 47 (fun i hi=>by have:=b i hi;show aj x i≠47;omega) _ _ a.g) (fun y F a=>lL a [.c,.v (.string x),.v (eS),.v qF,.c,.c,.c] (aE (lL a ac (ah (cK (cQ (aa a ac (aq 26 a (sn x 46 (fun i hi=>by have:=b i hi;show aj x i≠46;omega) _ _ a.g) (fun C u a=>lL a [.c,.v (.string x),.v (eS),.v qF,.c,.c,.c] (aE (lL a ac (ah (cK (aa a ac (aq 38 a (Bd x k j e _ _ a.g) (fun H B a=>lL a [.c,.v (iv (k:Int)),.v qT] (lA 10 26 ([qF,uV 0,eS]) a (fun f _ _ a=>lP 0 0 (ic (k:Int)) a (fun _ a=>lL a ac (aE (lL a [.o (iv (k:Int)) 0 0 3,.v (.agg #[.bool (au (k:Int)),uV (lo (ab (k:Int))),.string (hi (ab (k:Int))),uV 0,eS]),.c] (lP 1 0 ([.bool (au (k:Int)),uV (lo (ab (k:Int))),.string (hi (ab (k:Int))),uV 0,eS]) a (fun _ a=>lL a ac (af a [(1,0,5)] (.tuple #[.agg #[.bool (au (k:Int)),uV (lo (ab (k:Int))),.string (hi (ab (k:Int))),uV 0,eS],qT]) (congrArg (fun p=>Value.tuple #[p,qT]) (jR (d:=0) (Rat.num_natCast k) (lr (Rat.den_natCast k))))))))))))))))))))))))))))))))))
def FJ (x:ByteArray):Option Rat:=if x.size<=18 then (ef x).map (fun k=>((k:Nat):Rat)) else none
theorem Ds:tE FJ:=fun x q h w c g _=>by
  unfold FJ at h
  split at h
  . rename_i b
    cases a:ef x with
    | none=>rw[a] at h;cases h
    | some k =>
      rw[a] at h;injection h with h;subst h
      exact AA x k b a w c g
  . cases h
theorem E1:wA:=fun x k hx hk w h g=>rV x k oM hk w h g
theorem xO {x:ByteArray}{c:UInt8}(h:rn (cb c.toNat) x 0<x.size):Lib.indexByte x.data.toList c=((rn (cb c.toNat) x 0:Nat):Int):=by
 have a:=kc h
 generalize hr:rn (cb c.toNat) x 0=r at h a ⊢
 refine p7 ?_ (fun k d e=>?_)
 ·rw[iU h]
  congr 1
  exact UInt8.toNat.inj a
 ·rw[iU oM] at e
  injection e with e
  have b:cb c.toNat (aj x k)=true:=f6 (x.size-0) 0 k (JF _) (by show k<rn (cb c.toNat) x 0;omega);exact oT b (by unfold aj;rw[e])
theorem sU {x:ByteArray}{c:UInt8}(h:aj x 0=c.toNat)(d:c.toNat≠0):Lib.hasPrefix x.data.toList [c]=true/\(⟨(Lib.trimPrefix x.data.toList [c]).toArray⟩:ByteArray)=x.extract 1 x.size:=by
  have a:Lib.hasPrefix x.data.toList [c]=true:=by
    unfold Lib.hasPrefix
    unfold aj at h
    cases e:x.data.toList with
    | nil=>rw[e] at h;exact absurd h.symm d
    | cons b l =>
      rw[e] at h
      have:b=c:=UInt8.toNat.inj h
      simp[Kp,this]
  refine ⟨a,?_⟩
  unfold Lib.trimPrefix
  rw[if_pos a]
  apply ByteArray.ext
  apply Kq
  rw[Lib.extract_to_end];rfl
def mI (b:Nat):Bool:=decide (b=48)
theorem Aj {x s:ByteArray}{j:Nat}(h:s=x.extract j x.size)(a:j<x.size):s.extract 1 s.size=x.extract (j+1) x.size:=by
 have b:s.size=x.size-j:=by rw[h,ByteArray.size_extract];omega
 apply ByteArray.ext
 apply Kq
 rw[Lib.extract_to_end,Lib.extract_to_end,h,Lib.extract_to_end,List.drop_drop]
theorem pS {x:ByteArray}{z:Nat}(hz:z<=x.size):∀ k,z+k<=x.size->dv x (z+k)=dv x z*10^k+dv (x.extract z x.size) k
  | 0,_=>by show dv x z=dv x z*10^0+0;omega
  | k+1,h=>by
    show dv x (z+k)*10+(aj x (z+k)-48)=dv x z*10^(k+1)+(dv (x.extract z x.size) k*10+(aj (x.extract z x.size) k-48))
    rw[pS hz k oM,dd,z1,I4,z8];omega
theorem kM {x:ByteArray}:∀ z,(∀ i,i<z->aj x i=48)->dv x z=0
  | 0,_=>rfl
  | z+1,h=>by
    show dv x z*10+(aj x z-48)=0
    rw[kM z (fun i hi=>h i oM),h z oM]
theorem ry {x:ByteArray}(h:∀ i,i<x.size->48<=aj x i/\aj x i<=57)(j:x.size<=200):(rn mI x 0=x.size/\dv x x.size=0)\/(rn mI x 0<x.size/\bY (x.extract (rn mI x 0) x.size)=some (dv x x.size)):=by
 have b:=dC (p:=mI) (s:=x) (a:=0) (JF _);have h0:∀ i,i<rn mI x 0->aj x i=48:=fun i hi=>oT (f6 (p:=mI) (x.size-0) 0 i (JF _) hi)
 rcases co (rn mI x 0) x.size with h1|h1
 ·refine .inr ⟨h1,?_⟩
  have f:=r5 h1
  generalize hz:rn mI x 0=z at *
  have c:(x.extract z x.size).size=x.size-z:=by rw[ByteArray.size_extract];omega
  have d:=pS b (x.size-z) oM;rw[show z+(x.size-z)=x.size by omega,kM z h0,Nat.zero_mul,tv] at d
  rw[gQ oM oM (fun e=>by rw[dd,sw] at e;exact oF f e.2) (fun i hi=>by rw[dd];exact h _ oM),c,d]
 ·refine .inl ⟨by omega,?_⟩
  exact kM x.size fun i hi=>h0 i oM
open Go.RowKit Go.WideMaps
structure MapI (P:Program) (kt:TypeId) (Q:Value->Prop) (w1:World) (h1:Hp) (b:Nat):Prop where
  jk:h1[b]?=some junk
  ex:∃ es clk,w1.heap[b]?=some (.map es clk)/\∀ e∈es.toList,(∃ l,keyOf P kt e.key=some l)/\Q e.val
def IU (ss:List ByteArray):List MapEntry:=ss.zipIdx.map fun p=>⟨.string p.1,.bool true,p.2⟩
structure MapK (w:World) (h:Hp) (b:Nat) (ss:List ByteArray):Prop where
  jk:h[b]?=some junk
  ob:w.heap[b]?=some (.map (IU ss).toArray ss.length)
  nd:ss.Nodup
section laws
variable {P:Program}{n:Nat}{N R:Po}{X:Nat->Po}{ops:Array Oper}{k:Nat}{Γ:ck}{w:World}{h:Hp}{w1:World}{h1:Hp}{B:List Bx}{Rs:List Rw}{F:List (Hp->Prop)}
theorem SS.frontR {w0:World}{h0:Hp}{R:List Rw}(s:SS w0 h0 w h B R F)(b a:List Rw)(y:Rw)(c:R=b++y::a:=by kernel_rfl):SS w0 h0 w h B (y::(b++a)) F:=by
 subst c;exact s.permBR (.refl _) ge
theorem SS.backR {w0:World}{h0:Hp}(b a:List Rw)(y:Rw)(s:SS w0 h0 w h B (y::(b++a)) F):SS w0 h0 w h B (b++y::a) F:=s.permBR (.refl _) ge.symm
end laws
section ro
variable {w0:World}{h0:Hp}{w:World}{h:Hp}{B:List Bx}{R:List Rw}{F:List (Hp->Prop)}
theorem SS.ro_jk (s:SS w0 h0 w h B R F)(j:Nat){ty:TypeId}{sz c m:Nat}{A:Z9}{cs:List Value}(hr:R.getD j default=⟨ty,sz,A,c,m,cs⟩:=by kernel_rfl)(d:decide (j<R.length)=true:=by kernel_rfl):∀ b∈(Value.slice A m c).ownBlock.toList,h[b]?=some junk:=fun b e=>by
 have a:=oT d;have r:=s.ro _ (e5 a);rw[gB hr a] at r
 exact r.jk b (Kr.1 e)
theorem SS.ro_lt (s:SS w0 h0 w h B R F)(j:Nat){ty:TypeId}{sz c m:Nat}{A:Z9}{cs:List Value}(hr:R.getD j default=⟨ty,sz,A,c,m,cs⟩:=by kernel_rfl)(d:decide (j<R.length)=true:=by kernel_rfl):∀ b∈(Value.slice A m c).ownBlock.toList,b<h.size:=fun b e=>by
 have a:=oT d;have r:=s.ro _ (e5 a);rw[gB hr a] at r
 exact aI (r.jk b (Kr.1 e))
theorem SS.ro_ne (s:SS w0 h0 w h B R F)(q j:Nat){ty:TypeId}{sz c m:Nat}{A:Z9}{cs:List Value}(e:decide (q<B.length)=true:=by kernel_rfl)(hr:R.getD j default=⟨ty,sz,A,c,m,cs⟩:=by kernel_rfl)(d:decide (j<R.length)=true:=by kernel_rfl):(aD B q).b ∉ (Value.slice A m c).ownBlock.toList:=fun f=>by
 have a:=oT d;have r:=s.ro _ (e5 a);rw[gB hr a] at r
 exact r.ap _ (Kr.1 f) (List.mem_map.2 ⟨_,bC (oT e),rfl⟩)
end ro
theorem x6 {l z:List Nat}{i m a c x y:Nat}(hi:i<l.length)(hz:z.length=l.length)(b:am 18446744073709551616 (z.take i)+18446744073709551616^i*c=am 18446744073709551616 (l.take i)*m+a)(d:18446744073709551616*y+x=l.getD i 0*m+c) :
  am 18446744073709551616 ((z.set i x).take (i+1))+18446744073709551616^(i+1)*y=am 18446744073709551616 (l.take (i+1))*m+a:=by
 rw[aJ 18446744073709551616 (l:=z.set i x) (k:=i) (by rw[Jr];omega),aJ 18446744073709551616 (l:=l) (k:=i) hi,List.take_set_of_le (eb i),bB oM,if_pos rfl,z1]
 generalize 18446744073709551616^i=p at b ⊢
 generalize am 18446744073709551616 (z.take i)=q at b ⊢
 generalize am 18446744073709551616 (l.take i)=r at b ⊢
 generalize l.getD i 0=t at d ⊢
 have e:p*(18446744073709551616*y+x)=p*(t*m+c):=by rw[d]
 rw[I4,Nat.mul_add,Nat.mul_add] at *
 rw[z8 p 18446744073709551616 y,z8 p t m]
 omega
theorem uk (l:List Nat)(x:Nat):aA (l++[x])=aA l+18446744073709551616^l.length*x:=by
 show am _ (l++[x])=am _ l+_
 have h:=aJ 18446744073709551616 (l:=l++[x]) (k:=l.length) (by simp);rw[List.take_of_length_le (by simp),List.take_left,show (l++[x]).getD l.length 0=x by rw[jG,if_neg (Kl _),if_pos rfl]] at h
 exact h
theorem BH {l:List Nat}{x:Nat}(h:Wd l)(b:x<18446744073709551616):Wd (l++[x]):=fun y a=>by
 rcases List.mem_append.1 a with a|a
 ·exact h y a
 ·rw[o0] at a;rw[a];exact b
theorem iy (w u p d:Nat):w*(u*10)+(p*10+d)=(w*u+p)*10+d:=by rw[I4,z8];omega
theorem sH (w u p d:Nat):(w*u+p)*10+d=w*(u*10)+(p*10+d):=(iy w u p d).symm
theorem C1 {a u:Nat}(h:a=10^u)(hu:u<=18)(b:a*10≠10000000000000000000):u+1<=18:=by
 rcases co u 18 with h3|h3
 ·exact h3
 ·exact absurd (by rw[h,show u=18 by omega]) b
theorem r6 {w0:World}{h0:Hp}{M:List Bx}{R2:List Rw}{U:List (Hp->Prop)}(A:Z9)(c:Nat)(l:List Nat)(m a:Nat)(hm:m<18446744073709551616)(ha:a<18446744073709551616)(hW:Wd l)(hl:l.length<=1000000)(w:World)(h:Hp)(g:G w h)(d:SS w0 h0 w h M (⟨22,1,A,c,(l).length,(l).flatMap ar⟩::R2) U):Calls Tryz.prog 127 #[.slice A ((l).length) c,mV m,mV a] w (D6 fun v w1 h1=>∃ (A1:Z9)(c1:Nat)(l1:List Nat),v=.slice A1 l1.length c1/\Wd l1/\aA l1=aA l*m+a/\l1.length<=l.length+1/\SS w0 h0 w1 h1 M (⟨22,1,A1,c1,(l1).length,(l1).flatMap ar⟩::R2) U):=by
 replace d:=d.to ([]++M) ([⟨22,1,A,c,(l).length,(l).flatMap ar⟩]++R2);refine go Tryz.func127 [(0,qS A ((l).length) c),(1,mV m),(2,mV a)] rfl (aa d ac (aE (lL d aF (ai (aa d [.c,.v (nV ((l).length)),.c] (bx ?_))))));refine bG _ (CG.loop (fun V Γ w_=>∃ (i:Nat)(o:Z9)(e:Nat)(z:List Nat)(u:Nat)(h_:Hp),V=l.length-i/\Γ=[(0,qS o ((z).length) e),(1,mV m),(6,sZ),(15,nV ((l).length)),(16,nV i),(7,mV u)]/\SS w0 h0 w_ h_ ([]++M) ([⟨22,1,o,e,(z).length,(z).flatMap ar⟩]++R2) ([]++U)/\i<=l.length/\z.length=l.length/\Wd z/\u<18446744073709551616/\am 18446744073709551616 (z.take i)+18446744073709551616^i*u=am 18446744073709551616 (l.take i)*m+a/\(∀ j,i<=j->z.getD j 0=l.getD j 0)) _ ⟨0,A,c,l,a,h,rfl,rfl,d.to _ _,JF _,rfl,hW,ha,(by simp[am]),(fun _ _=>rfl)⟩ ?_);rintro _ _ w1 ⟨i,o,e,z,u,h2,hm3,rfl,d,hi,x,Q,S,p,B⟩;have hzi:=Q.get i;have hli:=hW.get i;refine aG ?_;cases D:(decide ((i:Int)<(((l).length:Nat):Int)))
 .
  have K:=oF D;refine lB 17 D (ai (cV (CG.exit ?_)))
  show CG _ _ _ _ _ _ _ _
  refine cQ (aa d ac ?_);cases C:((u:Int) != (0:Int))
  .
   have L:=az C;refine lB 43 C (ah (cK (aa d aF (lN (kX ?_)))));have F:i=l.length:=by omega
   rw[F,s1,<-x,s1] at p
   exact d.retS [] (qS o ((z).length) e) ⟨_,_,z,rfl,Q,(by rw[show u=0 by omega,Ao,sw] at p;exact p),oM,(d.drop 0 0).to _ _⟩
  have L:=a7 C;refine lB 43 C (ak (kQ (lL d aF (lR 46 22 1 ([mV u]) d (fun b6 w7 h8 d=>lY 47 0 22 1 e o z ar u 8 b6 (uV 0) d d.f.1 (fun ze zf _ _ d=>lL d ac (aE (lL d aF (lN (kX ?_))))))))));have F:i=l.length:=by omega
  rw[F,s1,<-x,s1] at p
  exact d.retS [] (qS ze ((z++[u]).length) zf) ⟨_,_,(z++[u]),rfl,(BH Q S),(by rw[uk];exact p),(by simp[x]),(d.tl.drop 0 0).to _ _⟩
 have K:=oT D;refine lB 17 D (ai (ci (cK (cQ (kZ (aa d aF (aE (lL d aF ?_))))))));obtain ⟨H,zc⟩:=d.rowA 0 (A:=o) (c:=e) (m:=(z).length) (ty:=22) (sz:=1) (cs:=(z).flatMap ar) oM;subst zc;refine lX 22 (sB H) ((z).length) e 1 (i:Nat) i rfl (F5 (ty:=22) (sz:=1) (c:=e) (m:=(z).length) (b:=H) (cs:=(z).flatMap ar) 23 0 (mV (z.getD i 0)) (ar (z.getD i 0)) d (hJ (f:=ar) (sz:=1) (fun _=>rfl) 0 z i oM) (lL d ac (lC 25 d (l9 (z.getD i 0) m wM wM _ _ d.g) ?_)));rintro _ _ zg d ⟨y,Z,rfl,bl,Y,X,bb⟩;have O:=gN (a:=(z.getD i 0)) (b:=m) wM wM;refine lL d [.c,.v (mV y),.v (mV Z),.c,.c] (aE (lL d aF ?_));obtain ⟨k,I,bd,W,bk,J⟩:=dM Z u 0 wM wM oM;refine lV 31 (.tuple #[mV k,mV I]) ?_ (hr:=dV kR (J _));refine lL d [.c,.v (mV k),.v (mV I),.c,.c] (lN (kQ (lL d m5 (lV 39 (mV (y+I)) ?_ (hr:=rU (((y:Int)+(I:Int))) kR (dj y I oM))))));refine lX 40 (sB H) ((z).length) e 1 (i:Nat) i rfl (Hk (ty:=22) (c:=e) (b:=H) 0 i 0 ([mV k]) z ar 1 0 k d oM (fun _ d=>?_));replace d:=d.to ([]++M) ([⟨22,1,sB H,e,(z).length,(z.set i k).flatMap ar⟩]++R2);refine lL d ac (lN (kQ (bg 41 ((i:Nat)+1) (i+1) ?_)));refine lL d ac (lD ?_);intro a_ ka;replace d:=d.rown ([⟨22,1,sB H,e,(z.set i k).length,(z.set i k).flatMap ar⟩]++R2) (by simp only[Jr]);refine ⟨_,_,?_,⟨i+1,sB H,e,z.set i k,(y+I),zg,rfl,rfl,d.to _ _,oM,(by rw[Jr];exact x),(Q.set _ oM),oM,(x6 oM x p (by have:=B i (nR _);rw[<-this];omega)),(fun j hj=>by rw[bB oM,if_neg oM];exact B j oM)⟩,ka.to _ (by simp only[Jr];kernel_rfl)⟩
 omega
theorem dY (x:ByteArray)(hx:x.size<=1000000)(w:World)(h:Hp)(g:G w h):CV 103 #[.string x] w h (match bY x with|some k=>.tuple #[nv k,.bool true]|none=>.tuple #[nv 0,.bool false]):=by
 have a:=sS g;refine go Tryz.func103 [(0,.string x)] rfl (aG (lA 2 24 ([uV 0,eS]) a (fun O w2 h3 a=>lL a ac (ai (aa a [.c,.v (nV x.size)] ?_)))));cases X:((x.size:Int) == (0:Int))
 .
  have bl:=ao X;refine lB 10 X (lL a [.c,.c,.v (nV x.size)] ?_);cases U:(decide ((200:Int)<(x.size:Int)))
  .
   have bd:=oF U;refine lB 14 U (lL a [.v qF,.c,.c,.v (nV x.size)] ?_);cases V:(decide ((1:Int)<(x.size:Int)))
   .
    have bb:=oF V;refine lB 19 V (lL a ac (lG 21 ?_));refine lG 22 (lG 23 (lL a [.v qF,.v qF] (ah (cK (aa a ac (aE (lL a aF (ai (aa a [.c,.v (nV x.size),.c] (bx ?_))))))))));replace a:=a.nil 22 1;refine bG _ (CG.loop (fun Z Γ w_=>∃ (j:Nat)(d:Z9)(b:Nat)(e:List Nat)(p:Nat)(o:Nat)(u:Nat)(z:Hp),Z=x.size-j/\Γ=[(0,.string x),(2,pB O),(28,nV x.size),(29,nV j),(4,qS d ((e).length) b),(5,mV p),(6,mV o)]/\SS w h w_ z [⟨O,24,[uV 0,eS]⟩] [⟨22,1,d,b,(e).length,(e).flatMap ar⟩] []/\j<=x.size/\Wd e/\e.length<=j/\(∀ i,i<j->48<=aj x i/\aj x i<=57)/\o=10^u/\u<=18/\p<o/\dv x j=aA e*o+p/\(j=x.size->o=1)) _ ⟨0,none,0,[],0,1,0,h3,rfl,rfl,a.to _ _,JF _,Dg.nil,nR _,(fun i z=>absurd z oM),rfl,by omega,by omega,(by simp[dv,am,aA]),(fun z=>absurd z oM)⟩ ?_);rintro _ _ w7 ⟨j,d,b,e,p,o,u,h8,hm9,rfl,a,hk,C,hwl,Q,J,hu,hpt,W,D⟩;have bk:=bh x j;have hp_:o<=10^18:=by rw[J];exact A4 kD hu
    have I:dv x (j+1)=dv x j*10+(aj x j-48):=rfl;refine aG ?_;cases za:(decide ((j:Int)<(x.size:Int)))
    .
     have zu:=oF za;refine lB 30 za (ai (cV (CG.exit ?_)))
     show CG _ _ _ _ _ _ _ _
     refine aa a ac ?_;obtain ⟨_,a,zJ⟩:=a.pubr 0 (A:=d) (c:=b) (l:=e) (f:=ar) (ty:=22) (sz:=1) 0 (fun _=>rfl);exact aq 68 a (oD d b e C oM zJ _ _ a.g a.f.1) (fun _ _ a=>lP 0 0 (nc (aA e)) a (fun _ a=>lL a ac (af a [(0,0,2)] (.tuple #[nv (aA e),qT]) (by have hj_:j=x.size:=oM;subst hj_;rw[gQ oM oM oM Q,show dv x x.size=aA e by rw[W,D rfl,show p=0 by have:=D rfl;omega];omega]))))
    have zu:=oT za;refine lB 30 za (ai (ci (cK (cQ (kZ (aa a aF (ai (aa a aF (lV 34 (.int .u8 (aj x j:Nat)) ?_ (hr:=aR (tx:=9) (x:=.tmp 32) (i:=.tmp 33) (k:=.i64) (s:=x) (n:=j) (j:=(j:Int)) kR kR kR kR oM oM _))))))))));cases zb:(decide (((aj x j:Nat):Int)<(48:Int)))
    .
     have zv:=oF zb;refine lB 35 zb (lL a dx (lV 39 (.int .u8 (aj x j:Nat)) ?_ (hr:=aR (tx:=9) (x:=.tmp 37) (i:=.tmp 38) (k:=.i64) (s:=x) (n:=j) (j:=(j:Int)) kR kR kR kR oM oM _)));cases zc:(decide ((57:Int)<((aj x j:Nat):Int)))
     .
      have zw:=oF zc;refine lB 40 zc (lL a [.v qF] (ah (cK ?_)));have y:∀ i,i<j+1->48<=aj x i/\aj x i<=57:=fun i z=>by rcases Kf.1 z with z|rfl;exact Q i z;omega
      refine aa a ac (lV 44 (mV (p*10)) ?_ (hr:=rU (((p:Int)*(10:Int))) kR (d5 p 10 oM)));refine lL a aF (lV 47 (.int .u8 (aj x j:Nat)) ?_ (hr:=aR (tx:=9) (x:=.tmp 45) (i:=.tmp 46) (k:=.i64) (s:=x) (n:=j) (j:=(j:Int)) kR kR kR kR oM oM _));refine lV 48 (.int .u8 ((aj x j)-48:Nat)) ?_ (hr:=aN (n:=IntKind.wrap .u8 (((aj x j:Nat):Int)-(48:Int))) kR (oc (aj x j) 48 oM oM));refine lV 49 (mV ((aj x j)-48)) ?_ (hr:=rU ((((aj x j)-48:Nat):Int)) kR (ay oM oM));refine lV 50 (mV ((p*10)+((aj x j)-48))) ?_ (hr:=rU ((((p*10:Nat):Int)+(((aj x j)-48:Nat):Int))) kR (dj (p*10) ((aj x j)-48) oM));refine lL a ac (lV 52 (mV (o*10)) ?_ (hr:=rU (((o:Int)*(10:Int))) kR (d5 o 10 oM)));refine lL a aF (aE (lL a ac ?_));cases zd:(((o*10:Nat):Int) == (10000000000000000000:Int))
      .
       have zx:=ao zd;refine lB 54 zd (lL a [.c,.c,.c,.v (nV x.size)] (lI 59 ((x.size:Nat)-1) ?_));cases ze:((j:Int) == ((x.size:Nat)-1:Int))
       .
        have zA:=ao ze;refine lB 60 ze (lL a [.v qF] (ah (cK (kQ (bg 66 ((j:Nat)+1) (j+1) ?_)))));refine lL a ac (lD ?_);intro a_ S;refine ⟨_,_,?_,⟨j+1,d,b,e,((p*10)+((aj x j)-48):Nat),(o*10),u+1,h8,rfl,rfl,a.to _ _,oM,C,oM,y,(by rw[J,z1]),(C1 J hu oM),oM,(by rw[I,W];exact sH _ _ _ _),(fun z=>absurd z oM)⟩,S.to _ kR⟩
        omega
       have zA:=eq_of_beq ze;refine lB 60 ze (lL a [.v qT] (ak (aa a dx (Ht 65 (r6 d b e ((o*10)) (((p*10)+((aj x j)-48):Nat)) oM oM C oM _ _ a.g (a.frontR [] [] ⟨22,1,d,b,(e).length,(e).flatMap ar⟩)) ?_))));rintro _ _ zM ⟨zo,zp,K,rfl,F,H,Y,a⟩;replace a:=(SS.backR [] [] ⟨22,1,zo,zp,(K).length,(K).flatMap ar⟩ a).to [⟨O,24,[uV 0,eS]⟩] [⟨22,1,zo,zp,(K).length,(K).flatMap ar⟩];refine lL a ac (lN (bG [(0,.string x),(2,pB O),(28,nV x.size),(29,nV j),(5,mV ((p*10)+((aj x j)-48))),(6,mV (o*10)),(4,qS zo ((K).length) zp)] ?_));refine kQ (lL a aF (lN (kQ (bg 66 ((j:Nat)+1) (j+1) ?_))));refine lL a ac (lD ?_);intro a_ S;refine ⟨_,_,?_,⟨j+1,zo,zp,K,0,1,0,zM,rfl,rfl,a.to _ _,oM,F,oM,y,rfl,oM,oM,(by rw[H,I,W,I1,sw];exact (iy _ _ _ _).symm),(fun _=>rfl)⟩,S.to _ kR⟩
       omega
      have zx:=eq_of_beq zd;refine lB 54 zd (lL a ac (lG 56 ?_));refine lG 57 (lG 58 (lG 59 (lG 60 (lL a [.v qT] (ak (aa a dx (Ht 65 (r6 d b e ((o*10)) (((p*10)+((aj x j)-48):Nat)) oM oM C oM _ _ a.g (a.frontR [] [] ⟨22,1,d,b,(e).length,(e).flatMap ar⟩)) ?_)))))));rintro _ _ zN ⟨zq,zr,M,rfl,F,H,Y,a⟩;replace a:=(SS.backR [] [] ⟨22,1,zq,zr,(M).length,(M).flatMap ar⟩ a).to [⟨O,24,[uV 0,eS]⟩] [⟨22,1,zq,zr,(M).length,(M).flatMap ar⟩];refine lL a ac (lN (bG [(0,.string x),(2,pB O),(28,nV x.size),(29,nV j),(5,mV ((p*10)+((aj x j)-48))),(6,mV (o*10)),(4,qS zq ((M).length) zr)] ?_));refine kQ (lL a aF (lN (kQ (bg 66 ((j:Nat)+1) (j+1) ?_))));refine lL a ac (lD ?_);intro a_ S;refine ⟨_,_,?_,⟨j+1,zq,zr,M,0,1,0,zN,rfl,rfl,a.to _ _,oM,F,oM,y,rfl,oM,oM,(by rw[H,I,W,I1,sw];exact (iy _ _ _ _).symm),(fun _=>rfl)⟩,S.to _ kR⟩
      omega
     have zw:=oT zc;exact lB 40 zc (lL a [.v qT] (ak (aa a [.v (.agg #[uV 0,eS])] (lP 0 0 ([uV 0,eS]) a (fun _ a=>lL a ac (af a [(0,0,2)] (.tuple #[.agg #[uV 0,eS],qF]) (by rw[ek (i:=j) oM oM]<;>rfl)))))))
    have zv:=oT zb;refine lB 35 zb (lL a ac (lG 37 ?_));exact lG 38 (lG 39 (lG 40 (lL a [.v qT] (ak (aa a [.v (.agg #[uV 0,eS])] (lP 0 0 ([uV 0,eS]) a (fun _ a=>lL a ac (af a [(0,0,2)] (.tuple #[.agg #[uV 0,eS],qF]) (by rw[ek (i:=j) oM oM]<;>rfl)))))))))
   have bb:=oT V;refine lB 19 V (lL a aF (lV 22 (.int .u8 (aj x 0:Nat)) ?_ (hr:=aR (tx:=9) (x:=.tmp 21) (i:=.const (iV 0)) (k:=.i64) (s:=x) (n:=0) (j:=(0:Int)) kR kR kR kR oM oM _)));cases zf:(((aj x 0:Nat):Int) == (48:Int))
   .
    have zB:=ao zf;refine lB 23 zf (lL a [.v qF,.v qF] (ah (cK (aa a ac (aE (lL a aF (ai (aa a [.c,.v (nV x.size),.c] (bx ?_)))))))));replace a:=a.nil 22 1;refine bG _ (CG.loop (fun Z Γ w_=>∃ (j:Nat)(d:Z9)(b:Nat)(e:List Nat)(p:Nat)(o:Nat)(u:Nat)(z:Hp),Z=x.size-j/\Γ=[(0,.string x),(2,pB O),(28,nV x.size),(29,nV j),(4,qS d ((e).length) b),(5,mV p),(6,mV o)]/\SS w h w_ z [⟨O,24,[uV 0,eS]⟩] [⟨22,1,d,b,(e).length,(e).flatMap ar⟩] []/\j<=x.size/\Wd e/\e.length<=j/\(∀ i,i<j->48<=aj x i/\aj x i<=57)/\o=10^u/\u<=18/\p<o/\dv x j=aA e*o+p/\(j=x.size->o=1)) _ ⟨0,none,0,[],0,1,0,h3,rfl,rfl,a.to _ _,JF _,Dg.nil,nR _,(fun i z=>absurd z oM),rfl,by omega,by omega,(by simp[dv,am,aA]),(fun z=>absurd z oM)⟩ ?_);rintro _ _ _ ⟨j,d,b,e,p,o,u,zP,bm,rfl,a,hk,C,hwl,Q,J,hu,hpt,W,D⟩;have bk:=bh x j;have hp_:o<=10^18:=by rw[J];exact A4 kD hu
    have I:dv x (j+1)=dv x j*10+(aj x j-48):=rfl;refine aG ?_;cases zg:(decide ((j:Int)<(x.size:Int)))
    .
     have zD:=oF zg;refine lB 30 zg (ai (cV (CG.exit ?_)))
     show CG _ _ _ _ _ _ _ _
     refine aa a ac ?_;obtain ⟨_,a,zK⟩:=a.pubr 0 (A:=d) (c:=b) (l:=e) (f:=ar) (ty:=22) (sz:=1) 0 (fun _=>rfl);exact aq 68 a (oD d b e C oM zK _ _ a.g a.f.1) (fun _ _ a=>lP 0 0 (nc (aA e)) a (fun _ a=>lL a ac (af a [(0,0,2)] (.tuple #[nv (aA e),qT]) (by have hj_:j=x.size:=oM;subst hj_;rw[gQ oM oM oM Q,show dv x x.size=aA e by rw[W,D rfl,show p=0 by have:=D rfl;omega];omega]))))
    have zD:=oT zg;refine lB 30 zg (ai (ci (cK (cQ (kZ (aa a aF (ai (aa a aF (lV 34 (.int .u8 (aj x j:Nat)) ?_ (hr:=aR (tx:=9) (x:=.tmp 32) (i:=.tmp 33) (k:=.i64) (s:=x) (n:=j) (j:=(j:Int)) kR kR kR kR oM oM _))))))))));cases zi:(decide (((aj x j:Nat):Int)<(48:Int)))
    .
     have zE:=oF zi;refine lB 35 zi (lL a dx (lV 39 (.int .u8 (aj x j:Nat)) ?_ (hr:=aR (tx:=9) (x:=.tmp 37) (i:=.tmp 38) (k:=.i64) (s:=x) (n:=j) (j:=(j:Int)) kR kR kR kR oM oM _)));cases zj:(decide ((57:Int)<((aj x j:Nat):Int)))
     .
      have zG:=oF zj;refine lB 40 zj (lL a [.v qF] (ah (cK ?_)));have y:∀ i,i<j+1->48<=aj x i/\aj x i<=57:=fun i z=>by rcases Kf.1 z with z|rfl;exact Q i z;omega
      refine aa a ac (lV 44 (mV (p*10)) ?_ (hr:=rU (((p:Int)*(10:Int))) kR (d5 p 10 oM)));refine lL a aF (lV 47 (.int .u8 (aj x j:Nat)) ?_ (hr:=aR (tx:=9) (x:=.tmp 45) (i:=.tmp 46) (k:=.i64) (s:=x) (n:=j) (j:=(j:Int)) kR kR kR kR oM oM _));refine lV 48 (.int .u8 ((aj x j)-48:Nat)) ?_ (hr:=aN (n:=IntKind.wrap .u8 (((aj x j:Nat):Int)-(48:Int))) kR (oc (aj x j) 48 oM oM));refine lV 49 (mV ((aj x j)-48)) ?_ (hr:=rU ((((aj x j)-48:Nat):Int)) kR (ay oM oM));refine lV 50 (mV ((p*10)+((aj x j)-48))) ?_ (hr:=rU ((((p*10:Nat):Int)+(((aj x j)-48:Nat):Int))) kR (dj (p*10) ((aj x j)-48) oM));refine lL a ac (lV 52 (mV (o*10)) ?_ (hr:=rU (((o:Int)*(10:Int))) kR (d5 o 10 oM)));refine lL a aF (aE (lL a ac ?_));cases zk:(((o*10:Nat):Int) == (10000000000000000000:Int))
      .
       have zH:=ao zk;refine lB 54 zk (lL a [.c,.c,.c,.v (nV x.size)] (lI 59 ((x.size:Nat)-1) ?_));cases zl:((j:Int) == ((x.size:Nat)-1:Int))
       .
        have zI:=ao zl;refine lB 60 zl (lL a [.v qF] (ah (cK (kQ (bg 66 ((j:Nat)+1) (j+1) ?_)))));refine lL a ac (lD ?_);intro a_ S;refine ⟨_,_,?_,⟨j+1,d,b,e,((p*10)+((aj x j)-48):Nat),(o*10),u+1,zP,rfl,rfl,a.to _ _,oM,C,oM,y,(by rw[J,z1]),(C1 J hu oM),oM,(by rw[I,W];exact sH _ _ _ _),(fun z=>absurd z oM)⟩,S.to _ kR⟩
        omega
       have zI:=eq_of_beq zl;refine lB 60 zl (lL a [.v qT] (ak (aa a dx (Ht 65 (r6 d b e ((o*10)) (((p*10)+((aj x j)-48):Nat)) oM oM C oM _ _ a.g (a.frontR [] [] ⟨22,1,d,b,(e).length,(e).flatMap ar⟩)) ?_))));rintro _ _ zQ ⟨zs,zt,L,rfl,F,H,Y,a⟩;replace a:=(SS.backR [] [] ⟨22,1,zs,zt,(L).length,(L).flatMap ar⟩ a).to [⟨O,24,[uV 0,eS]⟩] [⟨22,1,zs,zt,(L).length,(L).flatMap ar⟩];refine lL a ac (lN (bG [(0,.string x),(2,pB O),(28,nV x.size),(29,nV j),(5,mV ((p*10)+((aj x j)-48))),(6,mV (o*10)),(4,qS zs ((L).length) zt)] ?_));refine kQ (lL a aF (lN (kQ (bg 66 ((j:Nat)+1) (j+1) ?_))));refine lL a ac (lD ?_);intro a_ S;refine ⟨_,_,?_,⟨j+1,zs,zt,L,0,1,0,zQ,rfl,rfl,a.to _ _,oM,F,oM,y,rfl,oM,oM,(by rw[H,I,W,I1,sw];exact (iy _ _ _ _).symm),(fun _=>rfl)⟩,S.to _ kR⟩
       omega
      have zH:=eq_of_beq zk;refine lB 54 zk (lL a ac (lG 56 ?_));refine lG 57 (lG 58 (lG 59 (lG 60 (lL a [.v qT] (ak (aa a dx (Ht 65 (r6 d b e ((o*10)) (((p*10)+((aj x j)-48):Nat)) oM oM C oM _ _ a.g (a.frontR [] [] ⟨22,1,d,b,(e).length,(e).flatMap ar⟩)) ?_)))))));rintro _ _ zL ⟨zm,zn,B,rfl,F,H,Y,a⟩;replace a:=(SS.backR [] [] ⟨22,1,zm,zn,(B).length,(B).flatMap ar⟩ a).to [⟨O,24,[uV 0,eS]⟩] [⟨22,1,zm,zn,(B).length,(B).flatMap ar⟩];refine lL a ac (lN (bG [(0,.string x),(2,pB O),(28,nV x.size),(29,nV j),(5,mV ((p*10)+((aj x j)-48))),(6,mV (o*10)),(4,qS zm ((B).length) zn)] ?_));refine kQ (lL a aF (lN (kQ (bg 66 ((j:Nat)+1) (j+1) ?_))));refine lL a ac (lD ?_);intro a_ S;refine ⟨_,_,?_,⟨j+1,zm,zn,B,0,1,0,zL,rfl,rfl,a.to _ _,oM,F,oM,y,rfl,oM,oM,(by rw[H,I,W,I1,sw];exact (iy _ _ _ _).symm),(fun _=>rfl)⟩,S.to _ kR⟩
      omega
     have zG:=oT zj;exact lB 40 zj (lL a [.v qT] (ak (aa a [.v (.agg #[uV 0,eS])] (lP 0 0 ([uV 0,eS]) a (fun _ a=>lL a ac (af a [(0,0,2)] (.tuple #[.agg #[uV 0,eS],qF]) (by rw[ek (i:=j) oM oM]<;>rfl)))))))
    have zE:=oT zi;refine lB 35 zi (lL a ac (lG 37 ?_));exact lG 38 (lG 39 (lG 40 (lL a [.v qT] (ak (aa a [.v (.agg #[uV 0,eS])] (lP 0 0 ([uV 0,eS]) a (fun _ a=>lL a ac (af a [(0,0,2)] (.tuple #[.agg #[uV 0,eS],qF]) (by rw[ek (i:=j) oM oM]<;>rfl)))))))))
   have zB:=eq_of_beq zf;exact lB 23 zf (lL a [.v qT,.v qT] (ak (aa a [.v (.agg #[uV 0,eS])] (lP 0 0 ([uV 0,eS]) a (fun _ a=>lL a ac (af a [(0,0,2)] (.tuple #[.agg #[uV 0,eS],qF]) (by rw[fZ oM]<;>rfl)))))))
  have bd:=oT U;refine lB 14 U (lL a [.v qT,.c] (lG 17 ?_));exact lG 18 (lG 19 (lG 20 (lG 21 (lG 22 (lG 23 (lG 24 (lL a [.v qT] (ak (aa a [.v (.agg #[uV 0,eS])] (lP 0 0 ([uV 0,eS]) a (fun _ a=>lL a ac (af a [(0,0,2)] (.tuple #[.agg #[uV 0,eS],qF]) (by rw[fZ oM]<;>rfl)))))))))))))
 have bl:=eq_of_beq X;refine lB 10 X (lL a ac (lG 12 ?_));refine lG 13 (lG 14 (lL a [.v qT,.c] (lG 17 ?_)));exact lG 18 (lG 19 (lG 20 (lG 21 (lG 22 (lG 23 (lG 24 (lL a [.v qT] (ak (aa a [.v (.agg #[uV 0,eS])] (lP 0 0 ([uV 0,eS]) a (fun _ a=>lL a ac (af a [(0,0,2)] (.tuple #[.agg #[uV 0,eS],qF]) (by rw[fZ oM]<;>rfl)))))))))))))
section laws
variable {M:Ms}{P:Program}{ops:Array Oper}{Q:Exit->Act->World->Prop}{k0:Nat}
structure Waits (ops:Array Oper) (k0 i:Nat) (late:List Nat):Prop where
  ev:∀ u∈late,∃ ou,ops[u]?=some ou/\∃ e∈ou.after,Region.binds .any e=true/\(e.on=i\/e.on∈late)
  tl:∀ j oj,ops[j]?=some oj->k0<=j->j∈late
theorem pP {i:Nat}{J:Oper}{v:Value}{S:World->Prop}{d:List Nat}(hi:ops[i]?=some J)(D:∀ (j:Nat) (o:Oper) cs b,ops[j]?=some o->o.op≠.select cs b)
    (hQ:∀ c a w,Q (.panic c) (a.put J.dst v) w->Q (.panic c) a w)(hcl:∀ w w',S w->Mo M.l w w'->S w')(hw:Waits ops k0 i d) :
    ∀ (n:Nat) (L:Array Bool) (a:Act) (w:World),
      (∀ j B,ops[j]?=some B->j≠i->L.getD j true=false->(∀ e∈B.after,Region.binds .any e=true->e.on≠i)->J.apart ops B=true) ->
      (∀ u∈d,L.getD u true=false) ->
      i∈Region.ready .any ops L->YieldsIf P ops S J v a->S w ->
      ot M P ops Q k0 n (L.setIfInBounds i true) (a.put J.dst v) w->ot M P ops Q k0 (n+1) L a w:=by
  intro n
  induction n with
  | zero =>
    intro L a w _ _ hr Y hS H;refine ⟨fun h=>(by rw[h] at hr;cases hr),fun j X=>?_⟩
    by_cases hji:j=i
    . subst hji;exact Y.wpOp hi hS ⟨Rl.refl _ _ _ _,H⟩
    . have:=ready_mono X hji
      rw[H.1] at this
      cases this
  | succ n ih =>
    intro L a w p I hr Y hS H;refine ⟨fun h=>(by rw[h] at hr;cases hr),fun j X=>?_⟩
    by_cases hji:j=i
    . subst hji;exact Y.wpOp hi hS ⟨Rl.refl _ _ _ _,H⟩
    . have h1:=H.2 j (ready_mono X hji)
      obtain ⟨C,B,f,O⟩:=mem_ready.1 X
      have y:∀ x,L.getD x true=false->∀ e∈B.after,Region.binds .any e=true->e.on≠x:=fun x h0 e he Z heq=>by
        have h1:=O e he Z;rw[heq] at h1
        obtain ⟨W,h0'⟩:=Ew h0
        simp[Array.getD,W,h0'] at h1
      have F:=y i (mem_ready.1 hr).1
      have U:j ∉ d:=fun hm=>by
        obtain ⟨ou,ho,e,he,Z,K⟩:=hw.ev j hm;obtain rfl:B=ou:=Option.some.inj (f.symm.trans ho)
        rcases K with K|K
        . exact F e he Z K
        . exact y e.on (I _ K) e he Z rfl
      have hlt:j<k0:=by
        rcases co j k0 with W|W
        . exact W
        . exact absurd (hw.tl j B f W) U
      have K:=wpOp_putIf f (p j B f hji C F) (fun cs b=>D i J cs b hi) (fun cs b=>D j B cs b f) hQ Y h1
      have z:∀ k ok,ops[k]?=some ok->k≠i->(L.setIfInBounds j true).getD k true=false ->
          (∀ e∈ok.after,Region.binds .any e=true->e.on≠i)->J.apart ops ok=true:=fun k ok hk hki V hno=>by
        refine p k ok hk hki ?_ hno
        by_cases hjk:j=k
        . subst hjk;exact C
        . rw[getD_set_ne true hjk] at V;exact V
      refine wpOp_mono (fun a' w' h3=>⟨h3.2.1,ih (L.setIfInBounds j true) a' w' z (fun u hu=>?_) (ready_mono hr (Ne.symm hji)) h3.1 (hcl _ _ hS (h3.2.1.1 hlt)) ?_⟩) K
      . rw[getD_set_ne true (fun e=>U (by rw[e];exact hu))];exact I u hu
      . rw[Array.setIfInBounds_comm _ _ hji]
        exact h3.2.2
theorem E.take0U {h0:Hp}{AL:List Al}{L:Array Bool}{a:Act}{w:World}{h:Hp}{i:Nat}{o:Oper}{v:Value}{S:World->Prop}{e:List Nat}
  (hi:ops[i]?=some o)(f:Region.noSelect ops=true)(hf:Region.free .any ops L i=true)(hr:i∈Region.ready .any ops L)
  (C:∀ x∈AL,x.i≠i/\x.t ∉ o.looksAt ops/\o.dst≠some x.t)(W:∀ c a w,¬Q (.panic c) a w)
  (z:∀ w w',S w->Mo M.l w w'->S w')(hS:∀ w',Mo M.l w w'->S w')(Y:YieldsIf P ops S o v a)
  (O:Waits ops k0 i e)(k:∀ u∈e,L.getD u true=false/\∀ x∈AL,x.i≠u)
  (H:E M P ops Q k0 h0 AL (L.setIfInBounds i true) (a.put o.dst v) w h):E M P ops Q k0 h0 AL L a w h:=by
 intro w' V u p T B Z hn;have d:∀ s∈p,s.1.i≠i/\s.1.t ∉ o.looksAt ops/\o.dst≠some s.1.t:=fun s b=>C _ (eg B b)
 have J:=H w' V u p T B Z hn;rw[gV L p i (fun s b=>(d s b).1),gL a p o.dst v (fun s b=>(d s b).2.2)] at J
 have y:=lJ (fun s b=>(d s b).1) hr;obtain ⟨X,e2⟩:=jC (ops:=ops) (Region.noSelect_spec f i o · · hi) a p (fun s b=>(d s b).2.1)
 unfold A at *
 rw[d6 y]
 exact pP hi (Region.noSelect_spec f) (fun c a w K=>absurd K (W _ _ _)) z O _ _ _ _
  (fun j oj U D F=>Region.free_spec hi hf j oj U D (f0 F))
  (fun x I=>by rw[gg true (fun s b=>(k x I).2 _ (eg B b))];exact (k x I).1) y (Y.of_same X e2) (hS _ (u.m M.l).mo) J
end laws
section steps
variable {M:Ms}{P:Program}{n:Nat}{N R:Po}{X:Nat->Po}{ops:Array Oper}{k0:Nat}{hr:Hp}{AL:List Al}{L:Array Bool}{Γ:ck}{w:World}{h:Hp}{w0:World}{h0:Hp}{B:List Bx}{Rs:List Rw}{F:List (Hp->Prop)}
def nz (ops:Array Oper)(k0:Nat)(AL:List Al)(L:Array Bool)(i:Nat)(late:List Nat):Bool :=
  (late.all fun u=>decide (u<ops.size) && !(L.getD u true) && (AL.all fun x=>x.i != u) && ((av ops u).after.any fun e=>Region.binds .any e && (e.on == i || late.contains e.on))) && ((List.range ops.size).all fun j=>decide (j<k0) || late.contains j)
theorem nu {i:Nat}{a:List Nat}(c:nz ops k0 AL L i a=true):Waits ops k0 i a/\∀ u∈a,L.getD u true=false/\∀ x∈AL,x.i≠u:=by
 unfold nz at c
 rw[hN] at c
 obtain ⟨h1,l⟩:=c;have b:=fun u hu=>(i3.1 h1) u hu
 refine ⟨⟨fun u hu=>?_,fun j y h p=>?_⟩,fun u hu=>?_⟩
 ·have q:=b u hu
  simp only[hN,decide_eq_true_eq,Array.any_eq_true,mz,beq_iff_eq,Ks] at q
  obtain ⟨⟨⟨k,_⟩,_⟩,x,d,f,o⟩:=q;exact ⟨_,bN k,_,Array.getElem_mem d,f,o⟩
 ·have e:=(Array.getElem?_eq_some_iff.1 h).1
  have q:=(i3.1 l) j (List.mem_range.2 e)
  simp only[mz,decide_eq_true_eq,Ks] at q
  rcases q with q|q
  ·omega
  ·exact q
 ·have q:=b u hu
  simp only[hN,Bool.not_eq_true',i3,bne_iff_ne,ne_eq] at q
  exact ⟨q.1.1.2,fun x d=>q.1.2 x d⟩
def DB (n:Nat)(ops:Array Oper)(k0:Nat)(AL:List Al)(L:Array Bool)(Γ:ck)(i t:Nat)(late:List Nat):Bool:=dl n ops k0 AL L i t && ba Γ (av ops i) && nz ops k0 AL L i late && (bu ops Γ (av ops i) == some true)
theorem Rg.loadU (i t:Nat)(d:List Nat)(v:Value)(b:DB n ops k0 AL L Γ i t d=true)
  (hr:∀ w',Mo M.l w w'->(execOp (ev Γ) (av ops i)).run P w'=.ok (.value v) w')
  (k:EG M P n N R X ops k0 h0 AL (L.setIfInBounds i true) ((t,v)::Γ) w h):EG M P n N R X ops k0 h0 AL L Γ w h:=by
 unfold DB at b
 simp only[hN] at b
 obtain ⟨⟨⟨b,j⟩,C⟩,f⟩:=b;have f:bu ops Γ (av ops i)=some true:=by simpa using f
 have c:=dg b;obtain ⟨z,l2⟩:=nu C;intro e hM g o a u;have y:=u.exec (Region.noSelect_spec c.sel i _ · · c.get) j;refine E.take0U (v:=v) (S:=fun w'=>Mo M.l w w') c.get c.sel c.free c.ready c.al (fun _ _ _ x=>x) (fun _ _ h1 B=>h1.trans B) (fun _ p=>p) (.inl ⟨u.want f,fun w' p=>by rw[y];exact hr w' p⟩) z l2 ?_;rw[c.dst];exact k e hM g o _ (u.put c.tn v)
theorem Hv (i t:Nat)(a:List Nat)(ps:List (Nat × Nat × Nat))(v:Value)(s:SS w0 h0 w h B Rs F)(H:EG ⟨[],none⟩ P n N R X ops k0 hr AL (L.setIfInBounds i true) ((t,v)::Γ) w h)(e:DB n ops k0 AL L Γ i t a=true:=by kernel_rfl)(d:bR B ps=true:=by kernel_rfl)(j:bP P (execOp (ev Γ) (av ops i)) (cf B ps)=some (.value v,bO B ps):=by kernel_rfl):EG ⟨[],none⟩ P n N R X ops k0 hr AL L Γ w h :=
 Rg.loadU i t a v e (fun w' f=>bH _ _ _ _ j (eL (fun _ _=>List.not_mem_nil) (fun x c _=>(f.blk x.b (by rw[s.g.size];exact aI (s.st.jk x c)) List.not_mem_nil).trans (s.st.own x c)) ps (fun _ h=>h) d)) H
end steps
theorem G1 (s:ByteArray):(s.toList == s.toList)=true:=beq_self_eq_true _
theorem wO (s:ByteArray):(!(s.toList == s.toList))=false:=by rw[G1];rfl
theorem iD {n:Nat}(h:n<=10^200):(wds n).length<=1000000000:=ed (f9 (b:=18446744073709551616) (k:=11) kD (zz h kD)) kD
theorem Hq:(wds 10).length<=1000000000:=iD kD
theorem fL {n:Nat}(h:n<=10^200*10^200):(wds n).length<=3000:=ed (f9 (b:=18446744073709551616) (k:=21) kD (zz h kD)) kD
theorem uL (a b s:Nat)(c:a*b=s)(ha:(wds a).length<=1000000000)(d:(wds b).length<=1000000000)(w:World)(h:Hp)(g:G w h):CV 193 #[nv a,nv b] w h (nv s):=by
 subst c;exact nx a b ha d w h g
theorem Bw (z:Int)(k:Nat)(a:k=0)(w:World)(h:Hp)(g:G w h):CV 188 #[iv z,iv (k:Int)] w h (.tuple #[qv 0,.bool false]):=by
 subst a;exact Fc z kD w h g
theorem sT (x:ByteArray)(c:UInt8)(a:aj x 0=c.toNat)(b:c.toNat≠0)(w:World)(h:Hp)(g:G w h):CV 189 #[.string x,.string ⟨#[c]⟩] w h (.tuple #[.string (x.extract 1 x.size),.bool true]):=by
 have d:CV 189 #[.string x,.string ⟨#[c]⟩] w h (.tuple #[.string ⟨(Lib.trimPrefix x.data.toList [c]).toArray⟩,.bool (Lib.hasPrefix x.data.toList [c])]):=Ret.of_same g (Tryz.strings_CutPrefix x ⟨#[c]⟩ w);rw[(sU a b).1,(sU a b).2] at d;exact d
theorem Ge (n:Nat)(a:n<18446744073709551616)(w:World)(h:Hp)(g:G w h):CV 215 #[mV n] w h (nV (nb n)):=by
 have q:=Ret.of_same g (Tryz.bits_Len (n:Int) w oM oM);rw[Int.toNat_natCast,jU a] at q;exact q
section
variable {P:Program}{Γ:ck}{o:Oper}
theorem vf {t u:TypeId}{x y:Operand}{ky:IntKind}{a n:Nat}{j:Int}(k:o.op=.binOp .shr t x y u)(f:ev Γ x=.int .i64 (a:Int))(d:ev Γ y=.int ky j)(b:j=(n:Int))(ha:a<9223372036854775808)(w:World) :
  (execOp (ev Γ) o).run P w=.ok (.value (.int .i64 ((a/2^n:Nat):Int))) w:=by
 subst b
 unfold execOp;simp only[k];rw[f,d]
 have hz:¬((n:Int)<0):=by omega
 have i:(0:Int)<=2^(min n IntKind.i64.bits):=Int.pow_nonneg kD
 have e:(a:Int)/2^(min n IntKind.i64.bits)=((a/2^n:Nat):Int):=by
  have c:(a:Int)/2^(min n IntKind.i64.bits)=((a/2^(min n 64):Nat):Int):=by
   rw[show IntKind.i64.bits=64 from rfl];push_cast;rfl
  rw[c]
  rcases co n 64 with h|h
  ·rw[Nat.min_eq_left oM]
  ·have h1:(2:Nat)^64<=2^n:=A4 oM h
   rw[Nat.min_eq_right h,zY oM,zY oM]
 simp[binOp,eqGuard,Op.shift,Result.andThen,hz,Int.fdiv_eq_ediv_of_nonneg _ i,e]
theorem wm {t u:TypeId}{x y:Operand}{a:Nat}(c:o.op=.binOp .and t x y u)(b:ev Γ x=.int .i64 (a:Int))(d:ev Γ y=.int .i64 1)(ha:a<9223372036854775808)(w:World) :
  (execOp (ev Γ) o).run P w=.ok (.value (.int .i64 ((a%2:Nat):Int))) w:=by
 unfold execOp;simp only[c];rw[b,d]
 have e:bits .and .i64 (a:Int) 1=((a%2:Nat):Int):=by
  unfold bits
  have h1:(BitVec.ofInt 64 (a:Int) &&& BitVec.ofInt 64 (1:Int)).toNat=a%2:=by
   rw[BitVec.toNat_and,show a%2=a &&& (2^1-1) from (Nat.and_two_pow_sub_one_eq_mod a 1).symm]
   congr 1
   simp[BitVec.toNat_ofInt];omega
  show IntKind.wrap .i64 (((BitVec.ofInt 64 (a:Int) &&& BitVec.ofInt 64 (1:Int)).toNat:Nat):Int)=_
  rw[h1];exact dQ oM oM
 simp[binOp,eqGuard,Result.andThen,intBits_and,e]
theorem rF {tx:TypeId}{x e:Operand}{k2:IntKind}{s:ByteArray}{m:Nat}{j2:Int}(b:o.op=.slice tx x none (some e) none)(c:ev Γ x=.string s)(f:ev Γ e=.int k2 j2)(hu:P.underlying tx=some .string)(a:j2=(m:Int))(d:m<=s.size)(w:World) :
  (execOp (ev Γ) o).run P w=.ok (.value (.string (s.extract 0 m))) w:=by
 unfold execOp;simp only[b]
 subst a;have h0:(m:Int)<=(s.size:Int):=by omega
 simp[Instr.sliceAt,c,f,Instr.slice,run_underlying hu,Instr.sliceBounds,Instr.sliceBound,asIntOf,Result.andThen,h0,d]
end
theorem AW (x:ByteArray)(c:UInt8)(o:Nat)(hi:Lib.indexByte x.data.toList c=(o:Int))(w:World)(h:Hp)(g:G w h):CV 115 #[.string x,.string ⟨#[c]⟩] w h (nV o):=by
 have q:=Ret.of_same g (Tryz.stringslite_Index_one x c w);rw[hi] at q;exact q
theorem kw {y:ByteArray}{z:Nat}(h:z=y.size):y.extract z y.size=⟨#[]⟩:=by
 apply ByteArray.ext
 apply Kq
 rw[Lib.extract_to_end,h];simp
theorem ni (x:ByteArray)(H:x.size<=1000000)(w:World)(h:Hp)(g:G w h):CV 161 #[.string x] w h (match en x with|some z=>.tuple #[iv z,.bool true]|none=>.tuple #[iv 0,.bool false]):=by
 have a:=sS g;refine go Tryz.func161 [(0,.string x)] rfl (aG (lA 2 26 ([qF,uV 0,eS]) a (fun C w2 I a=>lL a ac (aE (lL a ac ?_)))))
 rcases Ko (aj x 0=45) with za|za
 .
  refine aq 10 a (sT x 45 za kD _ _ a.g) (fun B J a=>lL a [.c,.v (.string (x.extract 1 x.size)),.v qT,.c,.c] (aE (lL a ac ?_)))
  rcases hk:bY (x.extract 1 x.size) with _|k
  .
   refine aq 15 a ((by have d:=dY (x.extract 1 x.size) (by first|omega|(rw[ByteArray.size_extract];omega)) _ _ a.g;rw[hk] at d;exact d)) (fun F y a=>lL a [.c,.v (nv 0),.v qF] (lA 6 24 ([uV 0,eS]) a (fun b8 D _ a=>lP 0 0 (nc 0) a (fun _ a=>lL a ac (ai (aa a [.c,.v qT,.c] (lG 21 ?_)))))));exact lG 22 (lG 23 (lG 24 (lG 25 (lG 26 (lL a [.v qT] (ak (aa a [.v (.agg #[qF,uV 0,eS])] (lP 1 0 ([qF,uV 0,eS]) a (fun _ a=>lL a ac (af a [(1,0,3)] (.tuple #[.agg #[qF,uV 0,eS],qF]) (by rw[dP za (.inl hk)]<;>rfl)))))))))))
  have b:=cv hk;have e:=iD (JM b);refine aq 15 a ((by have d:=dY (x.extract 1 x.size) (by first|omega|(rw[ByteArray.size_extract];omega)) _ _ a.g;rw[hk] at d;exact d)) (fun _ _ a=>lL a [.c,.v (nv k),.v qT] (lA 6 24 ([uV 0,eS]) a (fun u _ _ a=>lP 0 0 (nc k) a (fun _ a=>lL a ac (ai (aa a [.c,.v qF,.c,.c,.c,.o (nv k) 0 0 2] (aq 24 a (eJ k oM _ _ a.g) (fun _ _ a=>?_))))))));have i:=ki (n:=k);cases f:(((nb k:Nat):Int) == (0:Int))
  .
   have l:=ao f;exact lB 25 f (lL a [.v qF,.v qF] (ah (cK (aa a [.c,.o (nv k) 0 0 2] (aq 31 a (gU true k oM _ _ a.g) (fun _ _ a=>lP 1 0 (ic (bE true k)) a (fun _ a=>lL a ac (af a [(1,0,3)] (.tuple #[iv (bE true k),qT]) (by rw[kV za hk oM];rfl)))))))))
  have l:=eq_of_beq f;exact lB 25 f (lL a [.v qT,.v qT] (ak (aa a [.v (.agg #[qF,uV 0,eS])] (lP 1 0 ([qF,uV 0,eS]) a (fun _ a=>lL a ac (af a [(1,0,3)] (.tuple #[.agg #[qF,uV 0,eS],qF]) (by rw[dP za (.inr (by rw[hk,show k=0 by omega]))]<;>rfl)))))))
 refine aq 10 a (gT x 45 za _ _ a.g) (fun _ _ a=>lL a [.c,.v (.string x),.v qF,.c,.c] (aE (lL a ac ?_)))
 rcases hk:bY x with _|k
 .
  refine aq 15 a ((by have d:=dY x (by first|omega|(rw[ByteArray.size_extract];omega)) _ _ a.g;rw[hk] at d;exact d)) (fun _ _ a=>lL a [.c,.v (nv 0),.v qF] (lA 6 24 ([uV 0,eS]) a (fun j _ _ a=>lP 0 0 (nc 0) a (fun _ a=>lL a ac (ai (aa a [.c,.v qT,.c] (lG 21 ?_)))))));exact lG 22 (lG 23 (lG 24 (lG 25 (lG 26 (lL a [.v qT] (ak (aa a [.v (.agg #[qF,uV 0,eS])] (lP 1 0 ([qF,uV 0,eS]) a (fun _ a=>lL a ac (af a [(1,0,3)] (.tuple #[.agg #[qF,uV 0,eS],qF]) (by rw[dy za,hk];rfl)))))))))))
 have b:=cv hk;have e:=iD (JM b);refine aq 15 a ((by have d:=dY x (by first|omega|(rw[ByteArray.size_extract];omega)) _ _ a.g;rw[hk] at d;exact d)) (fun _ _ a=>lL a [.c,.v (nv k),.v qT] (lA 6 24 ([uV 0,eS]) a (fun p _ _ a=>lP 0 0 (nc k) a (fun _ a=>lL a ac (ai (aa a [.c,.v qF,.c,.c,.c] (lG 23 ?_)))))));exact lG 24 (lG 25 (lL a [.v qF,.v qF] (ah (cK (aa a [.c,.o (nv k) 0 0 2] (aq 31 a (gU false k oM _ _ a.g) (fun _ _ a=>lP 1 0 (ic (bE false k)) a (fun _ a=>lL a ac (af a [(1,0,3)] (.tuple #[iv (bE false k),qT]) (by rw[dy za,hk];rfl))))))))))
theorem sq (n:Nat)(hn:n<=200)(w:World)(h:Hp)(g:G w h):CV 190 #[nv 10,nV n] w h (.tuple #[nv (10^n),.bool true]):=by
 have b:=sS g;have B:nb n<=64:=jr oM;refine go Tryz.func190 [(0,nv 10),(1,nV n)] rfl (aG (lA 2 24 (nc 10) b (fun D w2 h3 b=>lA 4 24 ([uV 0,eS]) b (fun J X Z b=>lL b ac (ai (aa b ac ?_))))));cases d:(decide ((n:Int)<(0:Int)))
 .
  have k:=oF d;refine lB 9 d (lL b aF ?_);cases e:(decide ((65536:Int)<(n:Int)))
  .
   have f:=oF e;refine lB 12 e (lL b [.v qF] (ah (cK (aG (aq 15 b (EP 1 kD _ _ b.g) (fun Y _ b=>lA 6 24 ([uV 0,eS]) b (fun F _ _ b=>lP 0 0 (nc 1) b (fun _ b=>ai (aa b ac (lV 17 (mV n) ?_ (hr:=rU ((n:Int)) kR (ay oM oM))))))))))));refine aq 18 b (Ge n oM _ _ b.g) (fun _ S b=>lV 19 (iV (((nb n:Nat):Int)-1)) ?_ (hr:=rS (((nb n:Nat)-1)) kR ((dQ oM oM).trans oM)));refine lL b ac (bx ?_);have i:nc 1=nc (10^(n/2^nb n)):=by rw[zY (De n)]
   rw[i] at b
   refine bG _ (CG.loop (fun z Γ W=>∃ (m:Nat)(I:Hp),z=m/\Γ=[(1,nV n),(2,pB D),(4,pB J),(5,qF),(6,pB F),(7,iV ((m:Int)-1))]/\SS w h W I [⟨F,24,nc (10^(n/2^m))⟩,⟨J,24,[uV 0,eS]⟩,⟨D,24,nc 10⟩] [] []/\m<=nb n) _ ⟨(nb n),S,rfl,rfl,b.to _ _,nR _⟩ ?_);rintro _ _ _ ⟨m,_,C,rfl,b,hm⟩;have H:0<m->n/2^m=n/2^(m-1)/2:=fun I=>by rw[H1,<-z1,show (m-1).succ=m by omega]
   have K:=zF n (2^(m-1));have c:=iD (A4 (show 0<10 by decide) (show n/2^m<=200 by have:=zF n (2^m);omega));refine cQ (aa b ac ?_);cases l:(decide ((0:Int)<=((m:Int)-1:Int)))
   .
    have L:=oF l;refine lB 21 l (ah (CG.exit ?_))
    show CG _ _ _ _ _ _ _ _
    exact aa b [.o (nv (10^(n/2^m))) 0 0 2] (lP 1 0 (nc (10^(n/2^m))) b (fun _ b=>lL b ac (af b [(1,0,2)] (.tuple #[nv (10^(n/2^m)),qT]) (by rw[show m=0 by omega,JG,Nat.div_one]))))
   have L:=oT l;refine lB 21 l (ak (cK (cQ (kZ (aa b [.o (nv (10^(n/2^m))) 0 0 2,.o (nv (10^(n/2^m))) 0 0 2] ?_)))))
   rcases Nat.mod_two_eq_zero_or_one (n/2^(m-1)) with hb2|hb2
   .
    refine aq 26 b (uL (10^(n/2^m)) (10^(n/2^m)) (10^(n/2^(m-1))) (by rw[<-A7];exact congrArg _ oM) c c _ _ b.g) (fun _ V b=>lP 0 0 (nc (10^(n/2^(m-1)))) b (fun _ b=>aE (lL b aF (lV 29 (nV (n/2^(m-1))) ?_ (hr:=vf (t:=3) (u:=3) (x:=.tmp 27) (y:=.tmp 28) (ky:=.i64) (a:=n) (n:=m-1) (j:=(m:Int)-1) kR kR kR oM oM _)))));refine lV 30 (nV (n/2^(m-1)%2)) ?_ (hr:=wm (t:=3) (u:=3) (x:=.tmp 29) (y:=.const (iV 1)) (a:=n/2^(m-1)) kR kR kR oM _);have O:(((n/2^(m-1)%2:Nat):Int) == (1:Int))=false:=hC oM;refine lB 31 O (ah (cK (kQ (lL b ac (lV 23 (iV (((m-1:Nat):Int)-1)) ?_ (hr:=rS ((((m:Int)-1)-1)) kR ((dQ oM oM).trans oM)))))));refine lL b ac (lD ?_);intro M p;refine ⟨_,_,?_,⟨m-1,V,rfl,rfl,b.to _ _,oM⟩,p.to _ kR⟩
    omega
   refine aq 26 b (uL (10^(n/2^m)) (10^(n/2^m)) (10^(2*(n/2^m))) (by rw[<-A7];exact congrArg _ oM) c c _ _ b.g) (fun _ _ b=>lP 0 0 (nc (10^(2*(n/2^m)))) b (fun _ b=>aE (lL b aF (lV 29 (nV (n/2^(m-1))) ?_ (hr:=vf (t:=3) (u:=3) (x:=.tmp 27) (y:=.tmp 28) (ky:=.i64) (a:=n) (n:=m-1) (j:=(m:Int)-1) kR kR kR oM oM _)))));refine lV 30 (nV (n/2^(m-1)%2)) ?_ (hr:=wm (t:=3) (u:=3) (x:=.tmp 29) (y:=.const (iV 1)) (a:=n/2^(m-1)) kR kR kR oM _);have Q:(((n/2^(m-1)%2:Nat):Int) == (1:Int))=true:=gE oM;refine lB 31 Q (ak (kQ (lL b [.o (nv (10^(2*(n/2^m)))) 0 0 2,.o (nv 10) 2 0 2] (aq 34 b (uL (10^(2*(n/2^m))) 10 (10^(n/2^(m-1))) (by rw[<-z1];exact congrArg _ oM) (iD (A4 kD oM)) Hq _ _ b.g) (fun _ U b=>lP 0 0 (nc (10^(n/2^(m-1)))) b (fun _ b=>lN (kQ (lL b ac (lV 23 (iV (((m-1:Nat):Int)-1)) ?_ (hr:=rS ((((m:Int)-1)-1)) kR ((dQ oM oM).trans oM)))))))))));refine lL b ac (lD ?_);intro M p;refine ⟨_,_,?_,⟨m-1,U,rfl,rfl,b.to _ _,oM⟩,p.to _ kR⟩
   omega
  have f:=oT e;refine lB 12 e (lL b [.v qT] (ak (aa b [.v (.agg #[uV 0,eS])] (lP 0 0 ([uV 0,eS]) b (fun _ b=>lL b ac (lN (kX ?_)))))))
  exfalso;omega
 have k:=oT d;refine lB 9 d (lL b ac (lG 11 ?_));refine lG 12 (lL b [.v qT] (ak (aa b [.v (.agg #[uV 0,eS])] (lP 0 0 ([uV 0,eS]) b (fun _ b=>lL b ac (lN (kX ?_)))))))
 exfalso;omega
theorem Cx (x:ByteArray)(J:x.size<=1000000)(w:World)(h:Hp)(g:G w h):CV 216 #[.string x,.int .u8 48] w h (.string (x.extract (rn mI x 0) x.size)):=by
 have a:=sS g;refine go Tryz.func216 [(0,.string x),(1,.int .u8 48)] rfl (aa a ac (ai (kZ ?_)));refine bG _ (CG.loop (fun u Γ H=>∃ (j:Nat)(s:ByteArray)(f:Hp),u=x.size-j/\Γ=[(1,.int .u8 48),(4,eS),(0,.string s)]/\SS w h H f [] [] []/\j<=x.size/\s=x.extract j x.size/\(∀ i,0<=i->i<j->mI (aj x i)=true)) _ ⟨0,x,h,rfl,rfl,a.to _ _,JF _,x.extract_zero_size.symm,(fun i _ f=>absurd f oM)⟩ ?_);rintro _ _ w1 ⟨j,s,D,z,rfl,a,y,b,p⟩;have B:s.size=x.size-j:=by rw[b,ByteArray.size_extract];omega
 have C:aj s 0=aj x j:=by rw[b,dd,sw]
 refine cQ (aa a [.c,.v (nV s.size)] ?_);cases e:(decide ((0:Int)<(s.size:Int)))
 .
  have l:=oF e;refine lB 7 e (lL a ac (lG 9 ?_));refine lG 10 (lG 11 (lG 12 (lL a [.v qF] (ah (CG.exit ?_)))))
  show CG _ _ _ _ _ _ _ _
  exact aa a aF (af a [] (.string s) (by rw[show rn mI x 0=j from dX (JF _) y p (by first|exact .inl oM|exact .inr (decide_eq_false oM)),b]))
 have l:=oT e;refine lB 7 e (lL a aF (lV 10 (.int .u8 (aj s 0:Nat)) ?_ (hr:=aR (tx:=9) (x:=.tmp 9) (i:=.const (iV 0)) (k:=.i64) (s:=s) (n:=0) (j:=(0:Int)) kR kR kR kR oM oM _)));refine lL a ac ?_;cases d:(((aj s 0:Nat):Int) == (48:Int))
 .
  have o:=ao d;refine lB 12 d (lL a [.v qF] (ah (CG.exit ?_)))
  show CG _ _ _ _ _ _ _ _
  exact aa a aF (af a [] (.string s) (by rw[show rn mI x 0=j from dX (JF _) y p (by first|exact .inl oM|exact .inr (decide_eq_false oM)),b]))
 have o:=eq_of_beq d;refine lB 12 d (lL a [.v qT] (ak (cK (kZ (kQ (lL a ac (lV 15 (.string (s.extract 1 s.size)) ?_ (hr:=fv (tx:=9) (x:=.tmp 14) (i:=.const (iV 1)) (k:=.i64) (s:=s) (n:=1) (j:=(1:Int)) kR kR kR kR oM oM _))))))));refine lL a ac (lD ?_);intro I F;refine ⟨_,_,?_,⟨j+1,s.extract 1 s.size,D,rfl,rfl,a.to _ _,oM,(Aj b oM),(fun i _ f=>by rcases Kf.1 f with f|rfl;exact p i (JF _) f;exact decide_eq_true oM)⟩,F.to _ kR⟩
 omega
theorem rQ (x:ByteArray)(d:x.size<=1000000)(b:x.size≠0)(w:World)(h:Hp)(g:G w h):CV 191 #[.string x,.string (⟨#[48]⟩)] w h (.string (x.extract (rn mI x 0) x.size)):=by
 have a:=sS g;refine go Tryz.func191 [(0,.string x),(1,.string (⟨#[48]⟩))] rfl (aa a ac (ai (aa a ac (lV 8 qF ?_ (hr:=rb kR (gK b))))));exact lL a [.c,.c,.v qF,.v qF] (ah (cK (cQ (aa a [.c,.v (iV 1),.v qT,.c,.c,.v (.int .u8 48),.v qT,.v qT] (ak (aa a [.c,.c,.v (.int .u8 48)] (aq 25 a (Cx x d _ _ a.g) (fun w1 e a=>lL a ac (af a [] (.string (x.extract (rn mI x 0) x.size)) rfl)))))))))
theorem ph (x y:ByteArray)(I:x.size<=1000000)(D:y.size<=1000000)(w:World)(h:Hp)(g:G w h)(i:Tab h):CV 159 #[.string x,.string y] w h (match iF x y with|some q=>.tuple #[qv q,.bool true]|none=>.tuple #[qv 0,.bool false]):=by
 have a:=((sS g).add (K:=fun p=>Tab p) i);refine go Tryz.func159 [(0,.string x),(1,.string y)] rfl (aG (lA 4 28 a1 a (fun C w2 J a=>lL a ac (aE (lL a ac ?_)))))
 rcases hz:en x with _|z
 .
  exact aq 11 a ((by have d:=ni x oM _ _ a.g;rw[hz] at d;exact d)) (fun B L a=>lL a [.c,.v (iv 0),.v qF] (lA 6 26 ([qF,uV 0,eS]) a (fun H u M a=>lP 0 0 (ic 0) a (fun F a=>lL a ac (ai (aa a [.c,.v qT] (ak (aa a [.v ca] (lP 1 0 a1 a (fun _ a=>lL a ac (af a [(1,0,5)] (.tuple #[.agg #[qF,uV 0,eS,uV 0,eS],qF]) (by unfold iF;rw[hz]<;>rfl))))))))))))
 refine aq 11 a ((by have d:=ni x oM _ _ a.g;rw[hz] at d;exact d)) (fun _ _ a=>lL a [.c,.v (iv z),.v qT] (lA 6 26 ([qF,uV 0,eS]) a (fun j _ _ a=>lP 0 0 (ic z) a (fun _ a=>lL a ac (ai (aa a [.c,.v qF] (ah (cK (aa a ac ?_)))))))))
 rcases hk:bY y with _|k
 .
  exact aq 19 a ((by have d:=dY y (by first|omega|(rw[ByteArray.size_extract];omega)) _ _ a.g;rw[hk] at d;exact d)) (fun _ _ a=>lL a [.c,.v (nv 0),.v qF] (lA 8 24 ([uV 0,eS]) a (fun o _ _ a=>lP 0 0 (nc 0) a (fun _ a=>lL a ac (ai (aa a [.c,.v qT] (ak (aa a [.v ca] (lP 2 0 a1 a (fun _ a=>lL a ac (af a [(2,0,5)] (.tuple #[.agg #[qF,uV 0,eS,uV 0,eS],qF]) (by unfold iF;rw[hz];dsimp only;rw[hk]<;>rfl))))))))))))
 have b:=cv hk;have e:=iD (JM b);refine aq 19 a ((by have d:=dY y (by first|omega|(rw[ByteArray.size_extract];omega)) _ _ a.g;rw[hk] at d;exact d)) (fun _ _ a=>lL a [.c,.v (nv k),.v qT] (lA 8 24 ([uV 0,eS]) a (fun l _ _ a=>lP 0 0 (nc k) a (fun _ a=>lL a ac (ai (aa a [.c,.v qF] (ah (cK (cQ (cR 6 [] mixed a aw ?_))))))))));refine eO 0 25 [(1,0,3)] (iv z) a (eO 1 26 [(0,0,2)] (nv k) a ?_)
 rcases Ko (k=0) with hk0|hk0
 .
  exact aK 2 27 a (fun _ _ a=>lg k _ _ a.g) (fun _ _ a=>aK 3 28 a (fun _ _ a=>Bw z k hk0 _ _ a.g) (fun _ _ a=>eV 4 29 (qv 0) (eV 5 30 qF (cG a (fun _ _ a=>tP 6 2 0 (qc 0) a (fun _ a=>tV 7 5 qF (tN (kX (a.ret [(2,0,5)] (.tuple #[qv 0,qF]) (by unfold iF;rw[hz];dsimp only;rw[hk];dsimp only;rw[if_pos hk0]<;>rfl))))))))))
 exact aK 2 27 a (fun _ _ a=>lg k _ _ a.g) (fun _ _ a=>aK 3 28 a (fun _ _ a=>DC z (k:Int) oM (iD (JM (jo hz))) (iD (JM b)) _ _ a.g a.f.1) (fun _ _ a=>eV 4 29 (qv (ne z (k:Int))) (eV 5 30 qT (cG a (fun _ _ a=>tP 6 2 0 (qc (ne z (k:Int))) a (fun _ a=>tV 7 5 qT (tN (kX (a.ret [(2,0,5)] (.tuple #[qv (ne z (k:Int)),qT]) (by unfold iF;rw[hz];dsimp only;rw[hk];dsimp only;rw[if_neg hk0];exact congrArg (fun d=>Value.tuple #[qv d,qT]) (jn z k)))))))))))
theorem GX (x:ByteArray)(c:UInt8)(o:Nat)(f:x.size<=1000000)(l:o<x.size)(hi:Lib.indexByte x.data.toList c=(o:Int))(w:World)(h:Hp)(g:G w h):CV 187 #[.string x,.string (⟨#[c]⟩)] w h (.tuple #[.string (x.extract 0 o),.string (x.extract (o+1) x.size),.bool true]):=by
 have a:=sS g;refine go Tryz.func187 [(0,.string x),(1,.string (⟨#[c]⟩))] rfl (aa a dx (ai (aa a aF (aq 10 a (AW x c o hi _ _ a.g) (fun w1 y a=>lL a ac (aE (lL a ac ?_)))))));have ⟨b,d⟩:=dT (p:=(0:Int)<=(o:Int)) oM;refine lB 12 b (ak (cQ (cR 9 [] mixed a aw ?_)));refine eV 0 13 (.string x) (eV 1 14 (nV o) (eV 2 15 (.string (x.extract 0 o)) ?_ (hv:=fun _=>rF (tx:=9) (x:=.tmp 13) (e:=.tmp 14) (k2:=.i64) (s:=x) (m:=o) (j2:=(o:Int)) kR kR kR kR oM oM _)));refine eV 3 16 (.string x) (eV 4 17 (nV o) (eV 5 18 (.string (⟨#[c]⟩)) (eV 6 19 (iV 1) (iR 7 20 ((o:Nat)+1) (o+1) (eV 8 21 (.string (x.extract (o+1) x.size)) ?_ (hv:=fun _=>fv (tx:=9) (x:=.tmp 16) (i:=.tmp 20) (k:=.i64) (s:=x) (n:=(o+1)) (j:=((o+1:Nat):Int)) kR kR kR kR oM oM _))))));exact cG a (fun u z a=>tV 9 4 (.string (x.extract 0 o)) (tV 10 5 (.string (x.extract (o+1) x.size)) (tV 11 6 qT (tN (kX (a.ret [] (.tuple #[.string (x.extract 0 o),.string (x.extract (o+1) x.size),qT]) rfl))))))
theorem Db (x:ByteArray)(c:UInt8)(o:Nat)(b:x.size<=1000000)(d:o<x.size)(hi:Lib.indexByte x.data.toList c=(o:Int))(w:World)(h:Hp)(g:G w h):CV 158 #[.string x,.string (⟨#[c]⟩)] w h (.tuple #[.string (x.extract 0 o),.string (x.extract (o+1) x.size),.bool true]):=by
 have a:=sS g;exact go Tryz.func158 [(0,.string x),(1,.string (⟨#[c]⟩))] rfl (aa a dx (aE (lL a aF (aq 9 a (GX x c o b d hi _ _ a.g) (fun w1 e a=>lL a [.v (.string (x.extract 0 o)),.v (.string (x.extract (o+1) x.size)),.v qT,.c,.c,.c] (af a [] (.tuple #[.string (x.extract 0 o),.string (x.extract (o+1) x.size),qT]) rfl))))))
theorem mq (x y:ByteArray)(hx:x.size<=1000000)(hy:y.size<=1000000)(w:World)(h:Hp)(g:G w h)(tb:Tab h):CV 160 #[.string x,.string y] w h (match fK x y with|some q=>.tuple #[qv q,.bool true]|none=>.tuple #[qv 0,.bool false]):=by
 have b:=((sS g).add (K:=fun u=>Tab u) tb);refine go Tryz.func160 [(0,.string x),(1,.string y)] rfl (aG (lA 4 28 a1 b (fun U w2 h3 b=>lL b ac (aE (lL b ac ?_)))))
 rcases Ko (aj x 0=45) with za|za
 .
  refine aq 17 b (sT x 45 za kD _ _ b.g) (fun w4 h5 b=>lL b [.c,.v (.string (x.extract 1 x.size)),.v qT,.c,.c] (aE (lL b ac ?_)))
  rcases hk:bY (x.extract 1 x.size) with _|k
  .
   refine aq 22 b ((by have o:=dY (x.extract 1 x.size) (by first|omega|(rw[ByteArray.size_extract];omega)) _ _ b.g;rw[hk] at o;exact o)) (fun w6 h7 b=>lL b [.c,.v (nv 0),.v qF] (lA 8 24 ([uV 0,eS]) b (fun b8 w9 _ b=>lP 0 0 (nc 0) b (fun _ b=>lL b ac (ai (aa b [.c,.v qT,.c] (lG 28 ?_)))))));refine lG 29 (lL b [.v qT,.c] (lG 32 ?_));exact lG 33 (lG 34 (lL b [.v qT] (ak (aa b [.v ca] (lP 1 0 a1 b (fun _ b=>lL b ac (af b [(1,0,5)] (.tuple #[.agg #[qF,uV 0,eS,uV 0,eS],qF]) (by rw[iJ (if_pos za) hk]<;>rfl))))))))
  have d:=cv hk;have I:=iD (JM d);refine aq 22 b ((by have o:=dY (x.extract 1 x.size) (by first|omega|(rw[ByteArray.size_extract];omega)) _ _ b.g;rw[hk] at o;exact o)) (fun _ _ b=>lL b [.c,.v (nv k),.v qT] (lA 8 24 ([uV 0,eS]) b (fun zs _ zu b=>lP 0 0 (nc k) b (fun _ b=>lL b ac (ai (aa b [.c,.v qF,.c,.c] ?_))))))
  rcases Ko (y.size=0) with hy0|hy0
  .
   refine lV 29 qT ?_ (hr:=rb kR (iL (show y=⟨#[]⟩ by have o:=kw (y:=y) (z:=0) hy0.symm;rw[<-o];exact y.extract_zero_size.symm)));refine lL b [.v qT,.c] (lG 32 ?_);exact lG 33 (lG 34 (lL b [.v qT] (ak (aa b [.v ca] (lP 1 0 a1 b (fun _ b=>lL b ac (af b [(1,0,5)] (.tuple #[.agg #[qF,uV 0,eS,uV 0,eS],qF]) (by rw[fl (if_pos za) hk oM]<;>rfl))))))))
  refine lV 29 qF ?_ (hr:=rb kR (gK hy0));refine lL b [.v qF,.c,.c,.v (nV y.size)] ?_;cases S:(decide ((200:Int)<(y.size:Int)))
  .
   have zm:=oF S;refine lB 34 S (lL b [.v qF] (ah (cK (cQ (aa b [.c,.v (nV y.size),.c] (bx ?_))))));refine bG _ (CG.loop (fun J Γ w_=>∃ (j:Nat)(u:Hp),J=y.size-j/\Γ=[(1,.string y),(4,pB U),(7,qT),(8,pB zs),(38,nV y.size),(39,nV j)]/\SS w h w_ u [⟨zs,24,nc k⟩,⟨U,28,[qF,uV 0,eS,uV 0,eS]⟩] [] [fun u=>Tab u]/\j<=y.size/\(∀ i,i<j->48<=aj y i/\aj y i<=57)) _ ⟨0,zu,rfl,rfl,b.to _ _,JF _,(fun i u=>absurd u oM)⟩ ?_);rintro _ _ _ ⟨j,zv,bk,rfl,b,hj,F⟩;have O:=bh y j;refine aG ?_;cases V:(decide ((j:Int)<(y.size:Int)))
   .
    have zn:=oF V;refine lB 40 V (ai (cV (CG.exit ?_)))
    show CG _ _ _ _ _ _ _ _
    refine aG (aq 55 b (EP 10 kD _ _ b.g) (fun _ _ b=>lL b [.c,.v (nV y.size)] (aq 58 b (sq y.size oM _ _ b.g) (fun _ _ b=>lL b [.c,.v (nv (10^y.size)),.v qT] (lA 11 24 ([uV 0,eS]) b (fun b29 _ _ b=>lP 0 0 (nc (10^y.size)) b (fun _ b=>lL b ac (aE (lL b [.v (.agg #[uV 0,eS])] (lA 13 24 ([uV 0,eS]) b (fun b33 _ _ b=>lP 0 0 ([uV 0,eS]) b (fun _ b=>ai (aa b ac ?_)))))))))))));have C:∀ i,i<y.size->48<=aj y i/\aj y i<=57:=fun i hi=>F i oM
    have D:=ry (x:=y) C oM;have L:=dC (p:=mI) (s:=y) (a:=0) (JF _);have B:=iD (A4 (show 0<10 by decide) (show y.size<=200 by omega));have H:=fR (x:=y) y.size C;have M:=jK d (show y.size<=200 by omega) H;refine aq 63 b (rQ y oM hy0 _ _ b.g) (fun _ _ b=>lL b ac (aE (lL b ac ?_)))
    rcases D with htr|htr
    .
     refine lV 65 qF ?_ (hr:=rb kR (wt (kw htr.1)));refine ah (cK (cQ (cR 9 [] mixed b aw ?_)));refine eV 0 71 qT (eO 1 72 [(2,0,2)] (nv k) b (eO 2 73 [(1,0,2)] (nv (10^y.size)) b (eO 4 75 [(0,0,2)] (.agg #[uV 0,eS]) b (eO 7 78 [(1,0,2)] (nv (10^y.size)) b ?_))));have l:(wds (k*10^y.size)).length<=1000000000:=ed (fL oM) kD;have e:(wds (k*10^y.size+0)).length<=1000000000:=ed (fL oM) kD;exact aK 3 74 b (fun _ _ b=>nx k (10^y.size) (iD (JM d)) B _ _ b.g) (fun _ _ b=>aK 5 76 b (fun _ _ b=>A3 (k*10^y.size) (0) l (cn (Kt _ _) e) _ _ b.g) (fun _ _ b=>aK 6 77 b (fun _ _ b=>gU true (k*10^y.size+0) e _ _ b.g) (fun _ _ b=>aK 8 79 b (fun _ _ b=>iW (bE true (k*10^y.size+0)) (10^y.size) (F2 kD) (by rw[cd];exact e) B _ _ b.g b.f.1) (fun _ _ b=>cG b (fun _ _ b=>tP 9 3 0 (qc (mkRat (bE true (k*10^y.size+0)) (10^y.size))) b (fun _ b=>tV 10 5 qT (tN (kX (b.ret [(3,0,5)] (.tuple #[qv (mkRat (bE true (k*10^y.size+0)) (10^y.size)),qT]) (by rw[g8 (if_pos za) (decide_eq_true za) hk hy0 oM C,htr.2]))))))))))
    refine lV 65 qT ?_ (hr:=rb kR (xd (show (y.extract (rn mI y 0) y.size).size≠0 by rw[ByteArray.size_extract];omega)));refine ak (kQ (lL b ac (aq 68 b ((by have o:=dY (y.extract (rn mI y 0) y.size) (by rw[ByteArray.size_extract];omega) _ _ b.g;rw[htr.2] at o;exact o)) (fun _ _ b=>lL b [.c,.v (nv (dv y y.size)),.v qT] (lP 0 0 (nc (dv y y.size)) b (fun _ b=>ai (cR 9 [] mixed b aw ?_)))))));refine eV 0 71 qT (eO 1 72 [(2,0,2)] (nv k) b (eO 2 73 [(1,0,2)] (nv (10^y.size)) b (eO 4 75 [(0,0,2)] (nv (dv y y.size)) b (eO 7 78 [(1,0,2)] (nv (10^y.size)) b ?_))));have l:(wds (k*10^y.size)).length<=1000000000:=ed (fL oM) kD;have e:(wds (k*10^y.size+dv y y.size)).length<=1000000000:=ed (fL oM) kD;exact aK 3 74 b (fun _ _ b=>nx k (10^y.size) (iD (JM d)) B _ _ b.g) (fun _ _ b=>aK 5 76 b (fun _ _ b=>A3 (k*10^y.size) (dv y y.size) l (cn (Kt _ _) e) _ _ b.g) (fun _ _ b=>aK 6 77 b (fun _ _ b=>gU true (k*10^y.size+dv y y.size) e _ _ b.g) (fun _ _ b=>aK 8 79 b (fun _ _ b=>iW (bE true (k*10^y.size+dv y y.size)) (10^y.size) (F2 kD) (by rw[cd];exact e) B _ _ b.g b.f.1) (fun _ _ b=>cG b (fun _ _ b=>tP 9 3 0 (qc (mkRat (bE true (k*10^y.size+dv y y.size)) (10^y.size))) b (fun _ b=>tV 10 5 qT (tN (kX (b.ret [(3,0,5)] (.tuple #[qv (mkRat (bE true (k*10^y.size+dv y y.size)) (10^y.size)),qT]) (by rw[g8 (if_pos za) (decide_eq_true za) hk hy0 oM C]))))))))))
   have zn:=oT V;refine lB 40 V (ai (ci (cK (cQ (kZ (aa b aF (aE (lL b aF (lV 44 (.int .u8 (aj y j:Nat)) ?_ (hr:=aR (tx:=9) (x:=.tmp 42) (i:=.tmp 43) (k:=.i64) (s:=y) (n:=j) (j:=(j:Int)) kR kR kR kR oM oM _))))))))));cases W:(decide (((aj y j:Nat):Int)<(48:Int)))
   .
    have zo:=oF W;refine lB 45 W (lL b dx (lV 49 (.int .u8 (aj y j:Nat)) ?_ (hr:=aR (tx:=9) (x:=.tmp 47) (i:=.tmp 48) (k:=.i64) (s:=y) (n:=j) (j:=(j:Int)) kR kR kR kR oM oM _)));cases Z:(decide ((57:Int)<((aj y j:Nat):Int)))
    .
     have zp:=oF Z;refine lB 50 Z (lL b [.v qF] (ah (cK (kQ (bg 53 ((j:Nat)+1) (j+1) ?_)))));refine lL b ac (lD ?_);intro a_ ka;refine ⟨_,_,?_,⟨j+1,zv,rfl,rfl,b.to _ _,oM,(fun i u=>by rcases Kf.1 u with u|rfl;exact F i u;omega)⟩,ka.to _ kR⟩
     omega
    have zp:=oT Z;exact lB 50 Z (lL b [.v qT] (ak (aa b [.v ca] (lP 1 0 a1 b (fun _ b=>lL b ac (af b [(1,0,5)] (.tuple #[.agg #[qF,uV 0,eS,uV 0,eS],qF]) (by rw[dW (i:=j) oM oM]<;>rfl)))))))
   have zo:=oT W;refine lB 45 W (lL b ac (lG 47 ?_));exact lG 48 (lG 49 (lG 50 (lL b [.v qT] (ak (aa b [.v ca] (lP 1 0 a1 b (fun _ b=>lL b ac (af b [(1,0,5)] (.tuple #[.agg #[qF,uV 0,eS,uV 0,eS],qF]) (by rw[dW (i:=j) oM oM]<;>rfl)))))))))
  have zm:=oT S;exact lB 34 S (lL b [.v qT] (ak (aa b [.v ca] (lP 1 0 a1 b (fun _ b=>lL b ac (af b [(1,0,5)] (.tuple #[.agg #[qF,uV 0,eS,uV 0,eS],qF]) (by rw[fl (if_pos za) hk oM]<;>rfl)))))))
 refine aq 17 b (gT x 45 za _ _ b.g) (fun _ _ b=>lL b [.c,.v (.string x),.v qF,.c,.c] (aE (lL b ac ?_)))
 rcases hk:bY x with _|k
 .
  refine aq 22 b ((by have o:=dY x (by first|omega|(rw[ByteArray.size_extract];omega)) _ _ b.g;rw[hk] at o;exact o)) (fun _ _ b=>lL b [.c,.v (nv 0),.v qF] (lA 8 24 ([uV 0,eS]) b (fun b75 _ _ b=>lP 0 0 (nc 0) b (fun _ b=>lL b ac (ai (aa b [.c,.v qT,.c] (lG 28 ?_)))))));refine lG 29 (lL b [.v qT,.c] (lG 32 ?_));exact lG 33 (lG 34 (lL b [.v qT] (ak (aa b [.v ca] (lP 1 0 a1 b (fun _ b=>lL b ac (af b [(1,0,5)] (.tuple #[.agg #[qF,uV 0,eS,uV 0,eS],qF]) (by rw[iJ (if_neg za) hk]<;>rfl))))))))
 have d:=cv hk;have I:=iD (JM d);refine aq 22 b ((by have o:=dY x (by first|omega|(rw[ByteArray.size_extract];omega)) _ _ b.g;rw[hk] at o;exact o)) (fun _ _ b=>lL b [.c,.v (nv k),.v qT] (lA 8 24 ([uV 0,eS]) b (fun zt _ zw b=>lP 0 0 (nc k) b (fun _ b=>lL b ac (ai (aa b [.c,.v qF,.c,.c] ?_))))))
 rcases Ko (y.size=0) with hy0|hy0
 .
  refine lV 29 qT ?_ (hr:=rb kR (iL (show y=⟨#[]⟩ by have o:=kw (y:=y) (z:=0) hy0.symm;rw[<-o];exact y.extract_zero_size.symm)));refine lL b [.v qT,.c] (lG 32 ?_);exact lG 33 (lG 34 (lL b [.v qT] (ak (aa b [.v ca] (lP 1 0 a1 b (fun _ b=>lL b ac (af b [(1,0,5)] (.tuple #[.agg #[qF,uV 0,eS,uV 0,eS],qF]) (by rw[fl (if_neg za) hk oM]<;>rfl))))))))
 refine lV 29 qF ?_ (hr:=rb kR (gK hy0));refine lL b [.v qF,.c,.c,.v (nV y.size)] ?_;cases Y:(decide ((200:Int)<(y.size:Int)))
 .
  have zq:=oF Y;refine lB 34 Y (lL b [.v qF] (ah (cK (cQ (aa b [.c,.v (nV y.size),.c] (bx ?_))))));refine bG _ (CG.loop (fun J Γ w_=>∃ (j:Nat)(u:Hp),J=y.size-j/\Γ=[(1,.string y),(4,pB U),(7,qF),(8,pB zt),(38,nV y.size),(39,nV j)]/\SS w h w_ u [⟨zt,24,nc k⟩,⟨U,28,[qF,uV 0,eS,uV 0,eS]⟩] [] [fun u=>Tab u]/\j<=y.size/\(∀ i,i<j->48<=aj y i/\aj y i<=57)) _ ⟨0,zw,rfl,rfl,b.to _ _,JF _,(fun i u=>absurd u oM)⟩ ?_);rintro _ _ _ ⟨j,zx,bd,rfl,b,hj,F⟩;have O:=bh y j;refine aG ?_;cases zj:(decide ((j:Int)<(y.size:Int)))
  .
   have zr:=oF zj;refine lB 40 zj (ai (cV (CG.exit ?_)))
   show CG _ _ _ _ _ _ _ _
   refine aG (aq 55 b (EP 10 kD _ _ b.g) (fun _ _ b=>lL b [.c,.v (nV y.size)] (aq 58 b (sq y.size oM _ _ b.g) (fun _ _ b=>lL b [.c,.v (nv (10^y.size)),.v qT] (lA 11 24 ([uV 0,eS]) b (fun b96 _ _ b=>lP 0 0 (nc (10^y.size)) b (fun _ b=>lL b ac (aE (lL b [.v (.agg #[uV 0,eS])] (lA 13 24 ([uV 0,eS]) b (fun bb _ _ b=>lP 0 0 ([uV 0,eS]) b (fun _ b=>ai (aa b ac ?_)))))))))))));have C:∀ i,i<y.size->48<=aj y i/\aj y i<=57:=fun i hi=>F i oM
   have D:=ry (x:=y) C oM;have L:=dC (p:=mI) (s:=y) (a:=0) (JF _);have B:=iD (A4 (show 0<10 by decide) (show y.size<=200 by omega));have H:=fR (x:=y) y.size C;have M:=jK d (show y.size<=200 by omega) H;refine aq 63 b (rQ y oM hy0 _ _ b.g) (fun _ _ b=>lL b ac (aE (lL b ac ?_)))
   rcases D with htr|htr
   .
    refine lV 65 qF ?_ (hr:=rb kR (wt (kw htr.1)));refine ah (cK (cQ (cR 9 [] mixed b aw ?_)));refine eV 0 71 qF (eO 1 72 [(2,0,2)] (nv k) b (eO 2 73 [(1,0,2)] (nv (10^y.size)) b (eO 4 75 [(0,0,2)] (.agg #[uV 0,eS]) b (eO 7 78 [(1,0,2)] (nv (10^y.size)) b ?_))));have l:(wds (k*10^y.size)).length<=1000000000:=ed (fL oM) kD;have e:(wds (k*10^y.size+0)).length<=1000000000:=ed (fL oM) kD;exact aK 3 74 b (fun _ _ b=>nx k (10^y.size) (iD (JM d)) B _ _ b.g) (fun _ _ b=>aK 5 76 b (fun _ _ b=>A3 (k*10^y.size) (0) l (cn (Kt _ _) e) _ _ b.g) (fun _ _ b=>aK 6 77 b (fun _ _ b=>gU false (k*10^y.size+0) e _ _ b.g) (fun _ _ b=>aK 8 79 b (fun _ _ b=>iW (bE false (k*10^y.size+0)) (10^y.size) (F2 kD) (by rw[cd];exact e) B _ _ b.g b.f.1) (fun _ _ b=>cG b (fun _ _ b=>tP 9 3 0 (qc (mkRat (bE false (k*10^y.size+0)) (10^y.size))) b (fun _ b=>tV 10 5 qT (tN (kX (b.ret [(3,0,5)] (.tuple #[qv (mkRat (bE false (k*10^y.size+0)) (10^y.size)),qT]) (by rw[g8 (if_neg za) (decide_eq_false za) hk hy0 oM C,htr.2]))))))))))
   refine lV 65 qT ?_ (hr:=rb kR (xd (show (y.extract (rn mI y 0) y.size).size≠0 by rw[ByteArray.size_extract];omega)));refine ak (kQ (lL b ac (aq 68 b ((by have o:=dY (y.extract (rn mI y 0) y.size) (by rw[ByteArray.size_extract];omega) _ _ b.g;rw[htr.2] at o;exact o)) (fun _ _ b=>lL b [.c,.v (nv (dv y y.size)),.v qT] (lP 0 0 (nc (dv y y.size)) b (fun _ b=>ai (cR 9 [] mixed b aw ?_)))))));refine eV 0 71 qF (eO 1 72 [(2,0,2)] (nv k) b (eO 2 73 [(1,0,2)] (nv (10^y.size)) b (eO 4 75 [(0,0,2)] (nv (dv y y.size)) b (eO 7 78 [(1,0,2)] (nv (10^y.size)) b ?_))));have l:(wds (k*10^y.size)).length<=1000000000:=ed (fL oM) kD;have e:(wds (k*10^y.size+dv y y.size)).length<=1000000000:=ed (fL oM) kD;exact aK 3 74 b (fun _ _ b=>nx k (10^y.size) (iD (JM d)) B _ _ b.g) (fun _ _ b=>aK 5 76 b (fun _ _ b=>A3 (k*10^y.size) (dv y y.size) l (cn (Kt _ _) e) _ _ b.g) (fun _ _ b=>aK 6 77 b (fun _ _ b=>gU false (k*10^y.size+dv y y.size) e _ _ b.g) (fun _ _ b=>aK 8 79 b (fun _ _ b=>iW (bE false (k*10^y.size+dv y y.size)) (10^y.size) (F2 kD) (by rw[cd];exact e) B _ _ b.g b.f.1) (fun _ _ b=>cG b (fun _ _ b=>tP 9 3 0 (qc (mkRat (bE false (k*10^y.size+dv y y.size)) (10^y.size))) b (fun _ b=>tV 10 5 qT (tN (kX (b.ret [(3,0,5)] (.tuple #[qv (mkRat (bE false (k*10^y.size+dv y y.size)) (10^y.size)),qT]) (by rw[g8 (if_neg za) (decide_eq_false za) hk hy0 oM C]))))))))))
  have zr:=oT zj;refine lB 40 zj (ai (ci (cK (cQ (kZ (aa b aF (aE (lL b aF (lV 44 (.int .u8 (aj y j:Nat)) ?_ (hr:=aR (tx:=9) (x:=.tmp 42) (i:=.tmp 43) (k:=.i64) (s:=y) (n:=j) (j:=(j:Int)) kR kR kR kR oM oM _))))))))));cases Q:(decide (((aj y j:Nat):Int)<(48:Int)))
  .
   have zk:=oF Q;refine lB 45 Q (lL b dx (lV 49 (.int .u8 (aj y j:Nat)) ?_ (hr:=aR (tx:=9) (x:=.tmp 47) (i:=.tmp 48) (k:=.i64) (s:=y) (n:=j) (j:=(j:Int)) kR kR kR kR oM oM _)));cases X:(decide ((57:Int)<((aj y j:Nat):Int)))
   .
    have zl:=oF X;refine lB 50 X (lL b [.v qF] (ah (cK (kQ (bg 53 ((j:Nat)+1) (j+1) ?_)))));refine lL b ac (lD ?_);intro a_ ka;refine ⟨_,_,?_,⟨j+1,zx,rfl,rfl,b.to _ _,oM,(fun i u=>by rcases Kf.1 u with u|rfl;exact F i u;omega)⟩,ka.to _ kR⟩
    omega
   have zl:=oT X;exact lB 50 X (lL b [.v qT] (ak (aa b [.v ca] (lP 1 0 a1 b (fun _ b=>lL b ac (af b [(1,0,5)] (.tuple #[.agg #[qF,uV 0,eS,uV 0,eS],qF]) (by rw[dW (i:=j) oM oM]<;>rfl)))))))
  have zk:=oT Q;refine lB 45 Q (lL b ac (lG 47 ?_));exact lG 48 (lG 49 (lG 50 (lL b [.v qT] (ak (aa b [.v ca] (lP 1 0 a1 b (fun _ b=>lL b ac (af b [(1,0,5)] (.tuple #[.agg #[qF,uV 0,eS,uV 0,eS],qF]) (by rw[dW (i:=j) oM oM]<;>rfl)))))))))
 have zq:=oT Y;exact lB 34 Y (lL b [.v qT] (ak (aa b [.v ca] (lP 1 0 a1 b (fun _ b=>lL b ac (af b [(1,0,5)] (.tuple #[.agg #[qF,uV 0,eS,uV 0,eS],qF]) (by rw[fl (if_neg za) hk oM]<;>rfl)))))))
theorem nO (x:ByteArray)(H:x.size<=1000000)(w:World)(h:Hp)(g:G w h)(j:Tab h):CV 123 #[.string x] w h (match cF x with|some q=>.tuple #[qv q,.bool true]|none=>.tuple #[qv 0,.bool false]):=by
 have a:=((sS g).add (K:=fun u=>Tab u) j);refine go Tryz.func123 [(0,.string x)] rfl (aG (lA 2 28 a1 a (fun C w2 I a=>lL a ac (ai (aa a ac ?_)))))
 rcases co (rn (cb 47) x 0) x.size with hsl|hsl
 .
  refine aq 14 a (Db x 47 (rn (cb 47) x 0) oM hsl (xO (c:=47) hsl) _ _ a.g) (fun B J a=>lL a [.c,.v (.string (x.extract 0 (rn (cb 47) x 0))),.v (.string (x.extract (rn (cb 47) x 0+1) x.size)),.v qT,.c,.c,.c] (aE (lL a ac (ak (aa a aF ?_)))))
  rcases hq:iF (x.extract 0 (rn (cb 47) x 0)) (x.extract (rn (cb 47) x 0+1) x.size) with _|q
  .
   exact aq 21 a ((by have b:=ph (x.extract 0 (rn (cb 47) x 0)) (x.extract (rn (cb 47) x 0+1) x.size) (by rw[ByteArray.size_extract];omega) (by rw[ByteArray.size_extract];omega) _ _ a.g (a.f.1);rw[hq] at b;exact b)) (fun F y a=>lL a [.v (qv 0),.v qF] (lP 0 0 (qc 0) a (fun L a=>lL a ac (af a [(0,0,5)] (.tuple #[qv 0,qF]) (by unfold cF;rw[if_pos hsl,hq]<;>rfl)))))
  exact aq 21 a ((by have b:=ph (x.extract 0 (rn (cb 47) x 0)) (x.extract (rn (cb 47) x 0+1) x.size) (by rw[ByteArray.size_extract];omega) (by rw[ByteArray.size_extract];omega) _ _ a.g (a.f.1);rw[hq] at b;exact b)) (fun D _ a=>lL a [.v (qv q),.v qT] (lP 0 0 (qc q) a (fun _ a=>lL a ac (af a [(0,0,5)] (.tuple #[qv q,qT]) (by unfold cF;rw[if_pos hsl,hq]<;>rfl)))))
 refine aq 14 a (sn x 47 (fun i hi=>oT (f6 (p:=cb 47) (x.size-0) 0 i (JF _) (ep hi hsl))) _ _ a.g) (fun _ _ a=>lL a [.c,.v (.string x),.v (eS),.v qF,.c,.c,.c] (aE (lL a ac (ah (cK (cQ (aa a ac ?_)))))))
 rcases co (rn (cb 46) x 0) x.size with hpt|hpt
 .
  refine aq 26 a (Db x 46 (rn (cb 46) x 0) oM hpt (xO (c:=46) hpt) _ _ a.g) (fun _ _ a=>lL a [.c,.v (.string (x.extract 0 (rn (cb 46) x 0))),.v (.string (x.extract (rn (cb 46) x 0+1) x.size)),.v qT,.c,.c,.c] (aE (lL a ac (ak (aa a aF ?_)))))
  rcases hq:fK (x.extract 0 (rn (cb 46) x 0)) (x.extract (rn (cb 46) x 0+1) x.size) with _|q
  .
   exact aq 33 a ((by have b:=mq (x.extract 0 (rn (cb 46) x 0)) (x.extract (rn (cb 46) x 0+1) x.size) (by rw[ByteArray.size_extract];omega) (by rw[ByteArray.size_extract];omega) _ _ a.g (a.f.1);rw[hq] at b;exact b)) (fun _ _ a=>lL a [.v (qv 0),.v qF] (lP 0 0 (qc 0) a (fun _ a=>lL a ac (af a [(0,0,5)] (.tuple #[qv 0,qF]) (by unfold cF;rw[if_neg oM,if_pos hpt,hq]<;>rfl)))))
  exact aq 33 a ((by have b:=mq (x.extract 0 (rn (cb 46) x 0)) (x.extract (rn (cb 46) x 0+1) x.size) (by rw[ByteArray.size_extract];omega) (by rw[ByteArray.size_extract];omega) _ _ a.g (a.f.1);rw[hq] at b;exact b)) (fun _ _ a=>lL a [.v (qv q),.v qT] (lP 0 0 (qc q) a (fun _ a=>lL a ac (af a [(0,0,5)] (.tuple #[qv q,qT]) (by unfold cF;rw[if_neg oM,if_pos hpt,hq]<;>rfl)))))
 refine aq 26 a (sn x 46 (fun i hi=>oT (f6 (p:=cb 46) (x.size-0) 0 i (JF _) (ep hi hpt))) _ _ a.g) (fun _ _ a=>lL a [.c,.v (.string x),.v (eS),.v qF,.c,.c,.c] (aE (lL a ac (ah (cK (aa a ac ?_))))))
 rcases hq:en x with _|z
 .
  exact aq 38 a ((by have b:=ni x oM _ _ a.g;rw[hq] at b;exact b)) (fun _ _ a=>lL a [.c,.v (iv 0),.v qF] (lA 10 26 ([qF,uV 0,eS]) a (fun l _ _ a=>lP 0 0 (ic 0) a (fun _ a=>lL a ac (aE (lL a [.o (iv 0) 0 0 3,.v (.agg #[.bool (au 0),uV (lo (ab 0)),.string (hi (ab 0)),uV 0,eS]),.c] (lP 1 0 ([.bool (au 0),uV (lo (ab 0)),.string (hi (ab 0)),uV 0,eS]) a (fun _ a=>lL a ac (af a [(1,0,5)] (.tuple #[.agg #[.bool (au 0),uV (lo (ab 0)),.string (hi (ab 0)),uV 0,eS],qF]) (by unfold cF;rw[if_neg oM,if_neg oM,hq];exact congrArg (fun e=>Value.tuple #[e,qF]) (jR (d:=0) (J7 0) (lr (J9 0)))))))))))))
 exact aq 38 a ((by have b:=ni x oM _ _ a.g;rw[hq] at b;exact b)) (fun _ _ a=>lL a [.c,.v (iv z),.v qT] (lA 10 26 ([qF,uV 0,eS]) a (fun k _ _ a=>lP 0 0 (ic z) a (fun _ a=>lL a ac (aE (lL a [.o (iv z) 0 0 3,.v (.agg #[.bool (au z),uV (lo (ab z)),.string (hi (ab z)),uV 0,eS]),.c] (lP 1 0 ([.bool (au z),uV (lo (ab z)),.string (hi (ab z)),uV 0,eS]) a (fun _ a=>lL a ac (af a [(1,0,5)] (.tuple #[.agg #[.bool (au z),uV (lo (ab z)),.string (hi (ab z)),uV 0,eS],qT]) (by unfold cF;rw[if_neg oM,if_neg oM,hq];exact congrArg (fun e=>Value.tuple #[e,qT]) (jR (d:=0) (J7 z) (lr (J9 z)))))))))))))
theorem gO {n:Nat}(h:n<=10^200):(lim n).length<=4000000000:=ed (dt (k:=21) (zz h kD)) kD
theorem dN {n:Nat}(h:n<=10^200*10^201):(lim n).length<=60:=dt (zz h kD)
theorem mY {n:Nat}(h:n<256):(lim n).length<=4000000000:=gO (ed (JM h) kD)
theorem kP (a:Nat)(A:Z9)(c:Nat)(e:(lim a).length<=c)(j:(lim a).length<=4000000000)(D:Z9)(d:Nat)(w:World)(h:Hp)(g:G w h)(b:S3 A (lim a) h)(f:S3 D [10] h)(i:1<=d:=by omega):CR 95 #[qS A (lim a).length c,qS D 1 d] w h (fun v h1=>RN h1 v (a*10)) :=
 jh a A c e 10 D d i j (mY kD) w h g b f
theorem CZ (a:Nat)(A:Z9)(c:Nat)(e:(lim a).length<=c)(b:Nat)(D:Z9)(d:Nat)(i:(lim b).length<=d)(s:Nat)(k:a+b=s)(l:(lim a).length<=4000000000)(o:(lim b).length<=4000000000)(w:World)(h:Hp)(g:G w h)(j:S3 A (lim a) h)(f:S3 D (lim b) h):CR 136 #[.slice A (lim a).length c,.slice D (lim b).length d] w h (fun v h1=>RN h1 v s):=by
 subst k;exact iA a A c e b D d i l o w h g j f
theorem C4 (i:Nat):10^2^i*10^2^i=10^2^(i+1):=by rw[<-A7,z1 2 i,Nat.mul_two]
theorem ws (n i:Nat):n%2^(i+1)=n%2^i+2^i*(n/2^i%2):=by rw[z1,Nat.mod_mul]
theorem Bm (n i:Nat)(h:n/2^i%2=0):n%2^(i+1)=n%2^i:=by rw[ws,h,Ao,sw]
theorem Fj (n i:Nat)(h:n/2^i%2=1):10^(n%2^i)*10^2^i=10^(n%2^(i+1)):=by rw[ws,h,I1,A7]
theorem mS (x:ByteArray)(hx:x.size<=1000000)(w:World)(h:Hp)(g:G w h):CR 107 #[.string x] w h (fun v h1=>∃ v1,v=.tuple #[v1,.bool (bY x).isSome]/\RN h1 v1 ((bY x).getD 0)):=by
 have a:=sS g;refine go Tryz.func107 [(0,.string x)] rfl (aa a aF (ai (aa a [.c,.v (nV x.size)] ?_)));cases D:(decide ((x.size:Int)<(1:Int)))
 .
  have S:=oF D;refine lB 8 D (lL a [.c,.c,.v (nV x.size)] ?_);cases F:(decide ((200:Int)<(x.size:Int)))
  .
   have V:=oF F;refine lB 12 F (lL a [.v qF,.c,.c] (lV 16 (.int .u8 (aj x 0:Nat)) ?_ (hr:=aR (tx:=9) (x:=.tmp 15) (i:=.const (iV 0)) (k:=.i64) (s:=x) (n:=0) (j:=(0:Int)) kR kR kR kR oM oM _)));cases I:(((aj x 0:Nat):Int) == (48:Int))
   .
    have W:=ao I;refine lB 17 I (lL a ac (lG 19 ?_));refine lG 20 (lG 21 (lL a [.v qF,.v qF] (ah (cK (aa a ac (ai (aa a ac (bx ?_))))))));replace a:=a.aS ((SlO.nil:S3 none [] _));refine bG _ (CG.loop (fun K Γ w_=>∃ (j:Nat)(p:Z9)(b:Nat)(o:Hp),K=x.size-j/\Γ=[(0,.string x),(5,nV j),(4,qS p ((lim (dv x j)).length) b)]/\SS w h w_ o [] [] [S3 p (lim (dv x j))]/\j<=x.size/\(∀ i,i<j->48<=aj x i/\aj x i<=57)/\(lim (dv x j)).length<=b) _ ⟨0,none,0,h,rfl,rfl,a.to _ _,JF _,(fun i o=>absurd o oM),nR _⟩ ?_);rintro _ _ w4 ⟨j,p,b,h5,hm6,rfl,a,hj,e,y⟩;have X:=bh x j;have U:=fR (x:=x) j e;have M:10^j<=10^200:=A4 kD oM;have J:=gO (show dv x j<=10^200 by omega);have u:(lim (dv x j*10)).length<=4000000000:=ed (dN (Jo (show dv x j<=10^200 by omega) kD)) kD;refine cQ (aa a [.c,.c,.v (nV x.size)] ?_);cases C:(decide ((j:Int)<(x.size:Int)))
    .
     have O:=oF C;refine lB 27 C (ah (CG.exit ?_))
     show CG _ _ _ _ _ _ _ _
     exact aa a dx (af a [] (.tuple #[qS p ((lim (dv x j)).length) b,qT]) (by have z:j=x.size:=oM;subst z;rw[gQ oM oM oM e];exact ⟨_,rfl,p,b,rfl,y,a.f.1⟩))
    have O:=oT C;refine lB 27 C (ak (cK (cQ (kZ (cQ (aa a aF (lV 32 (.int .u8 (aj x j:Nat)) ?_ (hr:=aR (tx:=9) (x:=.tmp 30) (i:=.tmp 31) (k:=.i64) (s:=x) (n:=j) (j:=(j:Int)) kR kR kR kR oM oM _))))))));cases H:(decide (((aj x j:Nat):Int)<(48:Int)))
    .
     have Q:=oF H;refine lB 33 H (lL a dx (lV 37 (.int .u8 (aj x j:Nat)) ?_ (hr:=aR (tx:=9) (x:=.tmp 35) (i:=.tmp 36) (k:=.i64) (s:=x) (n:=j) (j:=(j:Int)) kR kR kR kR oM oM _)));cases B:(decide ((57:Int)<((aj x j:Nat):Int)))
     .
      have L:=oF B;refine lB 38 B (lL a [.v qF] (ah (cK (cR 10 [] mixed a aw ?_))));refine eV 0 40 (qS p ((lim (dv x j)).length) b) (eV 3 43 (.string x) (eV 4 44 (nV j) (eV 5 45 (.int .u8 (aj x j:Nat)) ?_ (hv:=fun _=>aR (tx:=9) (x:=.tmp 43) (i:=.tmp 44) (k:=.i64) (s:=x) (n:=j) (j:=(j:Int)) kR kR kR kR oM oM _))));refine eV 6 46 (.int .u8 ((aj x j)-48:Nat)) ?_ (hv:=fun _=>aN (n:=IntKind.wrap .u8 (((aj x j:Nat):Int)-(48:Int))) kR (oc (aj x j) 48 oM oM));refine eV 7 47 (mV ((aj x j)-48)) ?_ (hv:=fun _=>rU ((((aj x j)-48:Nat):Int)) kR (ay oM oM));refine eR 1 41 158 1 ([uW 10]) a (fun zB _ _ a=>?_);replace a:=a.aS (SlO.of_flat (sz:=1) (f:=aW) (d:=0) (l:=[10]) (fun _=>rfl) a.f.1);refine eC 2 42 a (fun _ _ a=>kP (dv x j) p b y J (sB zB) 1 _ _ a.g a.f.r.1 a.f.1) ?_;rintro _ _ _ _ _ a ⟨zD,zE,rfl,zn,zo⟩;replace a:=a.aS zo;refine eC 8 48 a (fun _ _ a=>ew (aj x j-48) oM _ _ a.g) ?_;rintro _ _ _ _ _ a ⟨zG,zH,rfl,zp,zq⟩;replace a:=a.aS zq;refine eC 9 49 a (fun _ _ a=>CZ ((dv x j*10)) zD zE zn (aj x j-48) zG zH zp (dv x (j+1)) rfl u (mY oM) _ _ a.g a.f.2.1 a.f.1) ?_;rintro _ _ _ _ _ a ⟨zj,zk,rfl,zr,zs⟩;replace a:=a.aS zs;refine cG a (fun _ zI a=>tV 10 4 (qS zj ((lim (dv x (j+1))).length) zk) (tN (kQ (lL a ac (bg 29 ((j:Nat)+1) (j+1) ?_)))));refine lL a ac (lD ?_);intro a_ ka;replace a:=(a.tl.tl.tl.tl.tl.tl.aS a.f.1);refine ⟨_,_,?_,⟨j+1,zj,zk,zI,rfl,rfl,a.to _ _,oM,(fun i o=>by rcases Kf.1 o with o|rfl;exact e i o;omega),zr⟩,ka.to _ kR⟩
      omega
     have L:=oT B;exact lB 38 B (lL a [.v qT] (ak (aa a aF (af a [] (.tuple #[sZ,qF]) (by rw[ek (i:=j) oM oM];exact ⟨_,rfl,none,0,rfl,nR _,SlO.nil⟩)))))
    have Q:=oT H;refine lB 33 H (lL a ac (lG 35 ?_));exact lG 36 (lG 37 (lG 38 (lL a [.v qT] (ak (aa a aF (af a [] (.tuple #[sZ,qF]) (by rw[ek (i:=j) oM oM];exact ⟨_,rfl,none,0,rfl,nR _,SlO.nil⟩)))))))
   have W:=eq_of_beq I;refine lB 17 I (lL a [.c,.c,.v (nV x.size)] ?_);cases Y:(decide ((1:Int)<(x.size:Int)))
   .
    have ze:=oF Y;refine lB 21 Y (lL a [.v qF,.v qF] (ah (cK (aa a ac (ai (aa a ac (bx ?_)))))));replace a:=a.aS ((SlO.nil:S3 none [] _));refine bG _ (CG.loop (fun K Γ w_=>∃ (j:Nat)(p:Z9)(b:Nat)(o:Hp),K=x.size-j/\Γ=[(0,.string x),(5,nV j),(4,qS p ((lim (dv x j)).length) b)]/\SS w h w_ o [] [] [S3 p (lim (dv x j))]/\j<=x.size/\(∀ i,i<j->48<=aj x i/\aj x i<=57)/\(lim (dv x j)).length<=b) _ ⟨0,none,0,h,rfl,rfl,a.to _ _,JF _,(fun i o=>absurd o oM),nR _⟩ ?_);rintro _ _ _ ⟨j,p,b,_,bb,rfl,a,hj,e,y⟩;have X:=bh x j;have U:=fR (x:=x) j e;have M:10^j<=10^200:=A4 kD oM;have J:=gO (show dv x j<=10^200 by omega);have u:(lim (dv x j*10)).length<=4000000000:=ed (dN (Jo (show dv x j<=10^200 by omega) kD)) kD;refine cQ (aa a [.c,.c,.v (nV x.size)] ?_);cases zb:(decide ((j:Int)<(x.size:Int)))
    .
     have zf:=oF zb;refine lB 27 zb (ah (CG.exit ?_))
     show CG _ _ _ _ _ _ _ _
     exact aa a dx (af a [] (.tuple #[qS p ((lim (dv x j)).length) b,qT]) (by have z:j=x.size:=oM;subst z;rw[gQ oM oM oM e];exact ⟨_,rfl,p,b,rfl,y,a.f.1⟩))
    have zf:=oT zb;refine lB 27 zb (ak (cK (cQ (kZ (cQ (aa a aF (lV 32 (.int .u8 (aj x j:Nat)) ?_ (hr:=aR (tx:=9) (x:=.tmp 30) (i:=.tmp 31) (k:=.i64) (s:=x) (n:=j) (j:=(j:Int)) kR kR kR kR oM oM _))))))));cases Z:(decide (((aj x j:Nat):Int)<(48:Int)))
    .
     have zg:=oF Z;refine lB 33 Z (lL a dx (lV 37 (.int .u8 (aj x j:Nat)) ?_ (hr:=aR (tx:=9) (x:=.tmp 35) (i:=.tmp 36) (k:=.i64) (s:=x) (n:=j) (j:=(j:Int)) kR kR kR kR oM oM _)));cases zd:(decide ((57:Int)<((aj x j:Nat):Int)))
     .
      have zi:=oF zd;refine lB 38 zd (lL a [.v qF] (ah (cK (cR 10 [] mixed a aw ?_))));refine eV 0 40 (qS p ((lim (dv x j)).length) b) (eV 3 43 (.string x) (eV 4 44 (nV j) (eV 5 45 (.int .u8 (aj x j:Nat)) ?_ (hv:=fun _=>aR (tx:=9) (x:=.tmp 43) (i:=.tmp 44) (k:=.i64) (s:=x) (n:=j) (j:=(j:Int)) kR kR kR kR oM oM _))));refine eV 6 46 (.int .u8 ((aj x j)-48:Nat)) ?_ (hv:=fun _=>aN (n:=IntKind.wrap .u8 (((aj x j:Nat):Int)-(48:Int))) kR (oc (aj x j) 48 oM oM));refine eV 7 47 (mV ((aj x j)-48)) ?_ (hv:=fun _=>rU ((((aj x j)-48:Nat):Int)) kR (ay oM oM));refine eR 1 41 158 1 ([uW 10]) a (fun zJ _ _ a=>?_);replace a:=a.aS (SlO.of_flat (sz:=1) (f:=aW) (d:=0) (l:=[10]) (fun _=>rfl) a.f.1);refine eC 2 42 a (fun _ _ a=>kP (dv x j) p b y J (sB zJ) 1 _ _ a.g a.f.r.1 a.f.1) ?_;rintro _ _ _ _ _ a ⟨zK,zL,rfl,zt,zu⟩;replace a:=a.aS zu;refine eC 8 48 a (fun _ _ a=>ew (aj x j-48) oM _ _ a.g) ?_;rintro _ _ _ _ _ a ⟨zM,zN,rfl,zv,zw⟩;replace a:=a.aS zw;refine eC 9 49 a (fun _ _ a=>CZ ((dv x j*10)) zK zL zt (aj x j-48) zM zN zv (dv x (j+1)) rfl u (mY oM) _ _ a.g a.f.2.1 a.f.1) ?_;rintro _ _ _ _ _ a ⟨zl,zm,rfl,zx,zA⟩;replace a:=a.aS zA;refine cG a (fun _ zP a=>tV 10 4 (qS zl ((lim (dv x (j+1))).length) zm) (tN (kQ (lL a ac (bg 29 ((j:Nat)+1) (j+1) ?_)))));refine lL a ac (lD ?_);intro a_ ka;replace a:=(a.tl.tl.tl.tl.tl.tl.aS a.f.1);refine ⟨_,_,?_,⟨j+1,zl,zm,zP,rfl,rfl,a.to _ _,oM,(fun i o=>by rcases Kf.1 o with o|rfl;exact e i o;omega),zx⟩,ka.to _ kR⟩
      omega
     have zi:=oT zd;exact lB 38 zd (lL a [.v qT] (ak (aa a aF (af a [] (.tuple #[sZ,qF]) (by rw[ek (i:=j) oM oM];exact ⟨_,rfl,none,0,rfl,nR _,SlO.nil⟩)))))
    have zg:=oT Z;refine lB 33 Z (lL a ac (lG 35 ?_));exact lG 36 (lG 37 (lG 38 (lL a [.v qT] (ak (aa a aF (af a [] (.tuple #[sZ,qF]) (by rw[ek (i:=j) oM oM];exact ⟨_,rfl,none,0,rfl,nR _,SlO.nil⟩)))))))
   have ze:=oT Y;exact lB 21 Y (lL a [.v qT,.v qT] (ak (aa a aF (af a [] (.tuple #[sZ,qF]) (by rw[fZ oM];exact ⟨_,rfl,none,0,rfl,nR _,SlO.nil⟩)))))
  have V:=oT F;refine lB 12 F (lL a [.v qT,.c] (lG 15 ?_));exact lG 16 (lG 17 (lG 18 (lG 19 (lG 20 (lG 21 (lG 22 (lL a [.v qT] (ak (aa a aF (af a [] (.tuple #[sZ,qF]) (by rw[fZ oM];exact ⟨_,rfl,none,0,rfl,nR _,SlO.nil⟩)))))))))))
 have S:=oT D;refine lB 8 D (lL a ac (lG 10 ?_));refine lG 11 (lG 12 (lL a [.v qT,.c] (lG 15 ?_)));exact lG 16 (lG 17 (lG 18 (lG 19 (lG 20 (lG 21 (lG 22 (lL a [.v qT] (ak (aa a aF (af a [] (.tuple #[sZ,qF]) (by rw[fZ oM];exact ⟨_,rfl,none,0,rfl,nR _,SlO.nil⟩)))))))))))
theorem jW (n:Nat)(hn:n<=200)(D:Z9)(d:Nat)(hd:(lim 10).length<=d)(w:World)(h:Hp)(g:G w h)(hD:S3 D (lim 10) h):CR 198 #[.slice D 1 d,nV n] w h (fun v h1=>RN h1 v (10^n)):=by
 have c:=((sS g).aS hD);refine go Tryz.func198 [(0,qS D 1 d),(1,nV n)] rfl (aa c ac (aE (lC 6 c (ew 1 kD _ _ c.g) ?_)));rintro _ w5 h6 c ⟨Z,c2,rfl,U,Q⟩;replace c:=c.aS Q;refine lL c ac (ai (kZ ?_));replace c:=c.aS c.f.2.1;replace c:=c.aS c.f.2.1;refine bG _ (CG.loop (fun X Γ w_=>∃ (i:Nat)(m:Nat)(p:Nat)(q:Nat)(C:Z9)(B:Nat)(l:Z9)(o:Nat)(J:Hp),X=m/\Γ=[(4,sZ),(1,nV m),(5,qS C ((lim p).length) B),(0,qS l ((lim q).length) o)]/\SS w h w_ J [] [] [S3 C (lim p),S3 l (lim q),S3 Z (lim 1),S3 D (lim 10)]/\m=n/2^i/\p=10^(n%2^i)/\q=10^2^i/\(lim p).length<=B/\(lim q).length<=o) _ ⟨0,n,1,10,Z,c2,D,d,h6,rfl,rfl,c.to _ _,(by rw[JG,Nat.div_one]),(by rw[JG,Nat.mod_one]),rfl,U,hd⟩ ?_);rintro _ _ w7 ⟨i,m,p,q,C,B,l,o,h8,hm9,rfl,c,Y,O,K,F,e⟩;have bd:=Nat.mod_le n (2^i);have bb:m<=n:=by rw[Y];exact zF _ _
 have z:n/2^(i+1)=m/2:=by rw[Y,z1,H1]
 have I:0<m->2^i<=n:=fun J=>by rcases co n (2^i) with h2_|h2_;(rw[Y,zY h2_] at J;omega);exact h2_
 have S:(lim p).length<=4000000000:=by rw[O];exact gO (A4 kD oM)
 have H:0<m->(lim q).length<=4000000000:=fun J=>by rw[K];exact gO (A4 kD (by have:=I J;omega))
 refine cQ (aa c ac ?_);cases M:(decide ((0:Int)<(m:Int)))
 .
  have zc:=oF M;refine lB 8 M (ah (CG.exit ?_))
  show CG _ _ _ _ _ _ _ _
  exact aa c aF (af c [] (qS C ((lim p).length) B) (by have W:n%2^i=n:=u9 (by rcases co n (2^i) with h2_|h2_;exact h2_;have:=Nat.div_pos h2_ (Nat.two_pow_pos i);omega);rw[<-W,<-O];exact ⟨C,B,rfl,F,c.f.1⟩))
 have zc:=oT M;refine lB 8 M (ak (cK (kZ (cQ ?_))));have j:=H oM;refine aa c ac (lV 10 (nV (m%2)) ?_ (hr:=aN (d4 (t:=3) (u:=3) (x:=.tmp 9) (y:=.const (iV 2)) (k:=.i64) (a:=(m:Int)) (b:=(2:Int)) kR kR kR oM _) (cM m 2)));cases L:(((m%2:Nat):Int) == (1:Int))
 .
  have zd:=ao L;refine lB 11 L (ah (cK (aa c aF (lC 17 c (jh q l o e q l o e j j _ _ c.g c.f.2.1 c.f.2.1) ?_))));rintro _ _ zl c ⟨zm,zn,rfl,ze,zf⟩;replace c:=c.aS zf;refine lL c ac (lN (kQ (lL c ac (lV 19 (nV (m/2)) ?_ (hr:=aN (db (t:=3) (u:=3) (x:=.tmp 18) (y:=.const (iV 2)) (k:=.i64) (a:=(m:Int)) (b:=(2:Int)) kR kR kR oM _) (de m 2 oM))))));refine lL c ac (lD ?_);intro a_ V;replace c:=((c.tl.tl.tl.aS c.f.1).aS c.f.2.1);refine ⟨_,_,?_,⟨i+1,m/2,p,q*q,C,B,zm,zn,zl,rfl,rfl,c.to _ _,z.symm,(by rw[O];rw[Bm n i oM]),(by rw[K];exact C4 i),F,ze⟩,V.to _ kR⟩
  omega
 have zd:=eq_of_beq L;refine lB 11 L (ak (kQ (lL c aF (lC 14 c (jh p C B F q l o e S j _ _ c.g c.f.1 c.f.2.1) ?_))));rintro _ _ _ c ⟨zo,zp,rfl,zg,zi⟩;replace c:=c.aS zi;refine lL c ac (aE (lL c aF (lC 17 c (jh q l o e q l o e j j _ _ c.g c.f.r.1 c.f.r.1) ?_)));rintro _ _ zq c ⟨zr,zs,rfl,zj,zk⟩;replace c:=c.aS zk;refine lL c ac (lN (kQ (lL c ac (lV 19 (nV (m/2)) ?_ (hr:=aN (db (t:=3) (u:=3) (x:=.tmp 18) (y:=.const (iV 2)) (k:=.i64) (a:=(m:Int)) (b:=(2:Int)) kR kR kR oM _) (de m 2 oM))))));refine lL c ac (lD ?_);intro a_ V;replace c:=((c.tl.tl.tl.tl.aS c.f.1).aS c.f.2.1);refine ⟨_,_,?_,⟨i+1,m/2,p*q,q*q,zo,zp,zr,zs,zq,rfl,rfl,c.to _ _,z.symm,(by rw[O,K];exact Fj n i oM),(by rw[K];exact C4 i),zg,zj⟩,V.to _ kR⟩
 omega
def g9:Nat->Tm->Tm
  | 0,t=>t
  | c+1,t=>fS 7 (g9 c t)
def tk (c:Nat):PR->PR
  | .ok t b=>.ok (g9 c t) b
  | .err b=>.err b
theorem vE (c:Nat)(t:Tm):g9 c (fS 7 t)=fS 7 (g9 c t):=by
 induction c with
 | zero=>rfl
 | succ c ih=>show fS 7 (g9 c (fS 7 t))=_;rw[ih];rfl
theorem Fo (r:PR):tk 0 r=r:=by cases r<;>rfl
theorem tL (c:Nat)(r:PR):tk c (tk 1 r)=tk (c+1) r:=by
 cases r with
 | err b=>rfl
 | ok t b=>show PR.ok (g9 c (fS 7 t)) b=_;rw[vE];rfl
theorem pU (r:PR):(∃ b,r=.err b)\/∃ t b,r=.ok t b:=by
 cases r with
 | err b=>exact .inl ⟨b,rfl⟩
 | ok t b=>exact .inr ⟨t,b,rfl⟩
theorem vt {nf bf:ByteArray->Option Rat}{s:ByteArray}{n a:Nat}{r:PR}(h:bj nf bf s (n+1) .sign a=some r)(c:aj s (sk s a)=45):∃ d,bj nf bf s n .sign (sk s a+1)=some d/\r=tk 1 d:=by
 unfold bj at h;rw[if_pos c] at h
 rcases cJ h with ⟨b,e1,e2⟩|⟨t,b,e1,e2⟩
 ·exact ⟨_,e1,e2⟩
 ·injection e2 with e2;exact ⟨_,e1,e2.symm⟩
theorem q7 {nf bf:ByteArray->Option Rat}{s:ByteArray}{n a:Nat}{r:PR}(h:bj nf bf s (n+1) .sign a=some r)(c:aj s (sk s a)≠45):bj nf bf s n .pow (sk s a)=some r:=by
 unfold bj at h;rw[if_neg c] at h;exact h
theorem Ep {k:Nat}(h:0<k)(a:k<1000):(lim k).length=1/\(lim k).getD ((lim k).length-1) 0=k:=by
 have e:=cu k;have p:=(@bI k).2 h;have l:(lim k).length<=1:=dt (k:=1) (ep a kD)
 match hl:lim k,p,l with
 | [x],_,_=>rw[hl] at e;exact ⟨rfl,by simpa [am] using e⟩
theorem BO (k:Nat)(A:Z9)(c:Nat)(F:(lim k).length<=c)(H:(lim k).length=1)(B:(lim k).getD ((lim k).length-1) 0=k)(D:k<1000)(w:World)(h:Hp)(g:G w h)(C:S3 A (lim k) h):CV 108 #[.slice A ((lim k).length) c] w h (.tuple #[mV k,.bool true]):=by
 have d:=((sS g).aS C);refine go Tryz.func108 [(0,qS A ((lim k).length) c)] rfl (aa d aF (aE (lL d ac (ai (aa d [.c,.v (nV ((lim k).length))] (lI 8 (((lim k).length:Nat)-1) ?_))))));refine lL d ac (bx (cU ?_));refine cN (cQ (aa d ac ?_));have ⟨j,l⟩:=dT (p:=(0:Int)<=(((lim k).length:Nat)-1:Int)) oM;refine lB 10 j (ak (cK (cQ (kZ (cQ (aa d ac ?_))))));have ⟨e,z⟩:=dF (p:=(1:Int)<(((lim k).length:Nat)-1:Int)) oM;refine lB 14 e (ah (cK (kQ (lL d [.c,.v (mV 0),.c,.c] (lX 19 A ((lim k).length) c 1 (((lim k).length:Nat)-1) (((lim k).length)-1) ((d.f.1).ok oM) ?_)))));refine lH 20 (mW ((lim k).getD (((lim k).length)-1) 0)) d ((d.f.1).el (((lim k).length)-1) oM) (lV 21 (mV ((lim k).getD (((lim k).length)-1) 0)) ?_ (hr:=rU ((((lim k).getD (((lim k).length)-1) 0:Nat):Int)) kR (ay oM oM)));refine lV 22 (mV k) ?_ (hr:=aN (gc (t:=22) (u:=22) (x:=.tmp 16) (y:=.tmp 21) (a:=0) (b:=((lim k).getD (((lim k).length)-1) 0:Nat)) kR kR kR oM oM _) (by exact congrArg Int.ofNat ((Nat.zero_or _).trans B)));refine lL d ac (lN (kQ (lL d ac (lI 12 ((((lim k).length:Nat)-1)-1) ?_))));refine lL d ac (lD (CL.to [(0,qS A ((lim k).length) c),(2,uV 0),(3,qF),(4,mV k),(5,iV ((((lim k).length:Nat)-1)-1)),(9,iV (((lim k).length:Nat)-1)),(10,qT),(13,iV (((lim k).length:Nat)-1)),(14,qF),(15,uV 0),(16,mV 0),(17,qS A ((lim k).length) c),(18,iV (((lim k).length:Nat)-1)),(19,.pointer (some ⟨(aB A),aO A+(((lim k).length)-1)*1,none⟩)),(20,mW ((lim k).getD (((lim k).length)-1) 0)),(21,mV ((lim k).getD (((lim k).length)-1) 0)),(22,mV k),(11,iV (((lim k).length:Nat)-1)),(12,iV ((((lim k).length:Nat)-1)-1))] ?_));replace d:=d.to [] [];refine cN (cQ (aa d ac ?_));have ⟨i,o⟩:=dF (p:=(0:Int)<=((((lim k).length:Nat)-1)-1:Int)) oM;refine lB 10 i (ah (CG.exit ?_))
 show CG _ _ _ _ _ _ _ _
 exact aa d dx (af d [] (.tuple #[mV k,qT]) rfl)
theorem B9 (A:Z9)(c:Nat)(w:World)(h:Hp)(g:G w h):CV 108 #[.slice A 0 c] w h (.tuple #[uV 0,.bool true]):=by
 have a:=sS g;refine go Tryz.func108 [(0,qS A 0 c)] rfl (aa a aF (aE (lL a ac (ai (aa a [.c,.v (iV 0),.v (iV (-1)),.c] (bx (cU ?_)))))));refine cN (cQ (aa a [.c,.v qF] (ah (CG.exit ?_))))
 show CG _ _ _ _ _ _ _ _
 exact aa a dx (af a [] (.tuple #[uV 0,qT]) rfl)
theorem tg (k:Nat)(a:k<1000)(A:Z9)(c:Nat)(f:(lim k).length<=c)(w:World)(h:Hp)(g:G w h)(b:S3 A (lim k) h):CV 108 #[.slice A (lim k).length c] w h (.tuple #[mV k,.bool true]):=by
 rcases Nat.eq_zero_or_pos k with rfl|p
 ·have e:(lim 0).length=0:=by have:=@bI 0;omega
  rw[e];exact B9 A c w h g
 ·obtain ⟨i,d⟩:=Ep p a
  exact BO k A c f i d a w h g b
theorem pp  (rb:Nat)(s:ByteArray)(j:s.size<=1000000)(a:Nat)(ha:a<=s.size)(c:Nat)(B:c≠0)(w:World)(h:Hp)(g:G w h)(F:Own w rb 64 [.string s,nV a,iV (-1)])(C:h[rb]?=some junk)(z:Tab h):Calls Tryz.prog 131 #[pB rb,.int .u8 (c:Nat)] w (bV rb w h fun v w' _=>(v=.tuple #[]/\aj s (sk s a)=c/\(sk s a)<s.size/\Own w' rb 64 [.string s,nV ((sk s a)+1),iV (-1)])\/(v=.tuple #[]/\aj s (sk s a)≠c/\Own w' rb 64 [.string s,nV s.size,nV (sk s a)])):=by
 have d:UpM [rb] w h w h:=UpM.refl g;obtain ⟨wz,x,b⟩:=SS.at_ g F C;replace b:=(b.add (K:=fun D=>Tab D) z);refine go Tryz.func131 [(0,pB rb),(1,.int .u8 (c:Nat))] rfl (aa b aF ?_);have p:=bD (s:=s) (a:=a) oM;refine bn 6 (iK rb s j a ha c B _ _ b.g (b.own 0) (b.jk 0) b.f.1) ?_;rintro _ w2 I l (⟨rfl,i,u,e⟩|⟨rfl,i,e⟩)
 .
  replace b:=(b.stepM 0 l e).to [⟨rb,64,[.string s,nV (sk s a+1),iV (-1)]⟩] [];replace d:=d.trans l;refine lL b [.v qF] (ah (CG.skip ?_));exact b.retM d [] (.tuple #[]) (.inl ⟨rfl,by assumption,by assumption,b.own 0⟩)
 replace b:=(b.stepM 0 l e).to [⟨rb,64,[.string s,nV (sk s a),iV (-1)]⟩] [];replace d:=d.trans l;refine lL b [.v qT] (ak (kQ (lL b [.c,.c,.v (pB rb),.v (qP rb 1),.o (nV (sk s a)) 0 1 1] (bn 13 (fd rb s j (sk s a) oM (sk s a) _ _ b.g (b.own 0) (b.jk 0) b.f.1) ?_))));rintro _ H J y ⟨rfl,k⟩;replace b:=(b.stepM 0 y k).to [⟨rb,64,[.string s,nV s.size,nV (sk s a)]⟩] [];replace d:=d.trans y;exact lD (b.retM d [] (.tuple #[]) (.inr ⟨rfl,by assumption,b.own 0⟩))
theorem gd  (rb:Nat)(s:ByteArray)(i:s.size<=1000000)(d:Nat)(c:Nat)(w:World)(h:Hp)(g:G w h)(z:Own w rb 64 [.string s,nV s.size,nV d])(x:h[rb]?=some junk)(u:Tab h):Calls Tryz.prog 131 #[pB rb,.int .u8 (c:Nat)] w (bV rb w h fun v w' _=>v=.tuple #[]/\Own w' rb 64 [.string s,nV s.size,nV d]):=by
 have b:UpM [rb] w h w h:=UpM.refl g;obtain ⟨wz,k,a⟩:=SS.at_ g z x;replace a:=(a.add (K:=fun y=>Tab y) u);refine go Tryz.func131 [(0,pB rb),(1,.int .u8 (c:Nat))] rfl (aa a aF (bn 6 (dK rb s i d c _ _ a.g (a.own 0) (a.jk 0) a.f.1) ?_));rintro _ w2 C p ⟨rfl,e⟩;replace a:=(a.stepM 0 p e).to [⟨rb,64,[.string s,nV s.size,nV d]⟩] [];replace b:=b.trans p;refine lL a [.v qT] (ak (kQ (lL a [.c,.c,.v (pB rb),.v (qP rb 1),.o (nV s.size) 0 1 1] (bn 13 (EN rb s i d s.size _ _ a.g (a.own 0) (a.jk 0) a.f.1) ?_))));rintro _ B D l ⟨rfl,j⟩;replace a:=(a.stepM 0 l j).to [⟨rb,64,[.string s,nV s.size,nV d]⟩] [];replace b:=b.trans l;exact lD (a.retM b [] (.tuple #[]) (⟨rfl,a.own 0⟩))
theorem FR  (J:Bo 26)(rb:Nat)(s:ByteArray)(y:s.size<=1000000)(j:Nat)(w:World)(h:Hp)(g:G w h)(M:Own w rb 64 [.string s,nV s.size,nV j])(F:h[rb]?=some junk)(D:Tab h):Calls Tryz.prog 13 #[pB rb] w (bV rb w h fun v w' _=>∃ x:RTm,v=aY x/\Own w' rb 64 [.string s,nV s.size,nV j]):=by
 have a:UpM [rb] w h w h:=UpM.refl g;obtain ⟨wz,B,b⟩:=SS.at_ g M F;replace b:=(b.add (K:=fun L=>Tab L) D);refine go Tryz.func13 [(0,pB rb)] rfl (aG (fr 2 45 (ax ⟨0,0,false,none,0,0,none,0,0,⟨#[]⟩,none,0,0⟩) b (fun H w2 V O d b=>?_)));replace d:=ed a.gr.size d;replace a:=a.trans (O.m _);refine aE (lL b ac (bn 5 (J rb s y j _ _ b.g (b.own 1) (b.jk 1) b.f.1) ?_));rintro _ U Q C ⟨i,rfl,k⟩;replace b:=(b.stepM 1 C k).to [⟨H,45,ax ⟨0,0,false,none,0,0,none,0,0,⟨#[]⟩,none,0,0⟩⟩,⟨rb,64,[.string s,nV s.size,nV j]⟩] [];replace a:=a.trans C;refine fr 3 45 (ax ⟨0,0,false,none,0,0,none,0,0,⟨#[]⟩,none,0,0⟩) b (fun S _ _ l e b=>?_);replace e:=ed a.gr.size e;replace a:=a.trans (l.m _);refine ce 0 0 (ax i) b (fun _ u b=>?_);replace a:=a.put2 u e g b.g;refine ai (kZ (cU ?_));refine cN (cQ (aa b [.c,.v (pB rb),.v (qP rb 2),.o (nV j) 2 2 1] ?_));have ⟨I,z⟩:=dF (p:=(j:Int)<(0:Int)) oM;refine lB 10 I (ah (CG.exit ?_))
 show CG _ _ _ _ _ _ _ _
 refine aa b [.o (aY i) 0 0 7] (ce 1 0 (ax i) b (fun _ u b=>?_));replace a:=a.put2 u d g b.g;exact lN (kX (b.retM a [(1,0,7)] (aY i) (⟨_,rfl,b.own 2⟩)))
theorem tm  (J:Bo 46)(rb:Nat)(s:ByteArray)(y:s.size<=1000000)(j:Nat)(w:World)(h:Hp)(g:G w h)(M:Own w rb 64 [.string s,nV s.size,nV j])(F:h[rb]?=some junk)(D:Tab h):Calls Tryz.prog 26 #[pB rb] w (bV rb w h fun v w' _=>∃ x:RTm,v=aY x/\Own w' rb 64 [.string s,nV s.size,nV j]):=by
 have a:UpM [rb] w h w h:=UpM.refl g;obtain ⟨wz,B,b⟩:=SS.at_ g M F;replace b:=(b.add (K:=fun L=>Tab L) D);refine go Tryz.func26 [(0,pB rb)] rfl (aG (fr 2 45 (ax ⟨0,0,false,none,0,0,none,0,0,⟨#[]⟩,none,0,0⟩) b (fun H w2 V O d b=>?_)));replace d:=ed a.gr.size d;replace a:=a.trans (O.m _);refine aE (lL b ac (bn 5 (J rb s y j _ _ b.g (b.own 1) (b.jk 1) b.f.1) ?_));rintro _ U Q C ⟨i,rfl,k⟩;replace b:=(b.stepM 1 C k).to [⟨H,45,ax ⟨0,0,false,none,0,0,none,0,0,⟨#[]⟩,none,0,0⟩⟩,⟨rb,64,[.string s,nV s.size,nV j]⟩] [];replace a:=a.trans C;refine fr 3 45 (ax ⟨0,0,false,none,0,0,none,0,0,⟨#[]⟩,none,0,0⟩) b (fun S _ _ l e b=>?_);replace e:=ed a.gr.size e;replace a:=a.trans (l.m _);refine ce 0 0 (ax i) b (fun _ u b=>?_);replace a:=a.put2 u e g b.g;refine ai (kZ (cU ?_));refine cN (cQ (aa b [.c,.v (pB rb),.v (qP rb 2),.o (nV j) 2 2 1] ?_));have ⟨I,z⟩:=dF (p:=(j:Int)<(0:Int)) oM;refine lB 10 I (ah (CG.exit ?_))
 show CG _ _ _ _ _ _ _ _
 refine aa b [.o (aY i) 0 0 7] (ce 1 0 (ax i) b (fun _ u b=>?_));replace a:=a.put2 u d g b.g;exact lN (kX (b.retM a [(1,0,7)] (aY i) (⟨_,rfl,b.own 2⟩)))
theorem xL  (J:Bo 77)(rb:Nat)(s:ByteArray)(l:s.size<=1000000)(j:Nat)(w:World)(h:Hp)(g:G w h)(M:Own w rb 64 [.string s,nV s.size,nV j])(H:h[rb]?=some junk)(F:Tab h):Calls Tryz.prog 46 #[pB rb] w (bV rb w h fun v w' _=>∃ x:RTm,v=aY x/\Own w' rb 64 [.string s,nV s.size,nV j]):=by
 have b:UpM [rb] w h w h:=UpM.refl g;obtain ⟨wz,B,a⟩:=SS.at_ g M H;replace a:=(a.add (K:=fun L=>Tab L) F);refine go Tryz.func46 [(0,pB rb)] rfl (aG (fr 2 45 (ax ⟨0,0,false,none,0,0,none,0,0,⟨#[]⟩,none,0,0⟩) a (fun C w2 U O e a=>?_)));replace e:=ed b.gr.size e;replace b:=b.trans (O.m _);refine aE (lL a ac (ai (kZ (cU ?_))));refine cN (cQ (aa a ac (bn 7 (dK rb s l j 45 _ _ a.g (a.own 1) (a.jk 1) a.f.1) ?_)));rintro _ S Q D ⟨rfl,p⟩;replace a:=(a.stepM 1 D p).to [⟨C,45,ax ⟨0,0,false,none,0,0,none,0,0,⟨#[]⟩,none,0,0⟩⟩,⟨rb,64,[.string s,nV s.size,nV j]⟩] [];replace b:=b.trans D;refine ah (CG.exit ?_)
 show CG _ _ _ _ _ _ _ _
 refine aa a ac (bn 11 (J rb s l j _ _ a.g (a.own 1) (a.jk 1) a.f.1) ?_);rintro _ _ _ k ⟨i,rfl,u⟩;replace a:=(a.stepM 1 k u).to [⟨C,45,ax ⟨0,0,false,none,0,0,none,0,0,⟨#[]⟩,none,0,0⟩⟩,⟨rb,64,[.string s,nV s.size,nV j]⟩] [];replace b:=b.trans k;refine fr 4 45 (ax ⟨0,0,false,none,0,0,none,0,0,⟨#[]⟩,none,0,0⟩) a (fun I _ _ y d a=>?_);replace d:=ed b.gr.size d;replace b:=b.trans (y.m _);refine ce 0 0 (ax i) a (fun _ z a=>?_);replace b:=b.put2 z d g a.g;refine ai (aa a ac (bx (cU ?_)));refine cN (cQ (aa a [.c,.c,.v qF] (ah (CG.exit ?_))))
 show CG _ _ _ _ _ _ _ _
 refine aa a [.o (aY i) 0 0 7] (ce 1 0 (ax i) a (fun _ z a=>?_));replace b:=b.put2 z e g a.g;exact lN (kX (a.retM b [(1,0,7)] (aY i) (⟨_,rfl,a.own 2⟩)))
theorem BQ  (I:Bo 106)(rb:Nat)(s:ByteArray)(l:s.size<=1000000)(j:Nat)(w:World)(h:Hp)(g:G w h)(L:Own w rb 64 [.string s,nV s.size,nV j])(H:h[rb]?=some junk)(D:Tab h):Calls Tryz.prog 77 #[pB rb] w (bV rb w h fun v w' _=>∃ x:RTm,v=aY x/\Own w' rb 64 [.string s,nV s.size,nV j]):=by
 have a:UpM [rb] w h w h:=UpM.refl g;obtain ⟨wz,z,b⟩:=SS.at_ g L H;replace b:=(b.add (K:=fun J=>Tab J) D);refine go Tryz.func77 [(0,pB rb)] rfl (aG (fr 2 45 (ax ⟨0,0,false,none,0,0,none,0,0,⟨#[]⟩,none,0,0⟩) b (fun B w2 S M c b=>?_)));replace c:=ed a.gr.size c;replace a:=a.trans (M.m _);refine aE (lL b ac (bn 11 (I rb s l j _ _ b.g (b.own 1) (b.jk 1) b.f.1) ?_));rintro _ Q O C ⟨e,rfl,p⟩;replace b:=(b.stepM 1 C p).to [⟨B,45,ax ⟨0,0,false,none,0,0,none,0,0,⟨#[]⟩,none,0,0⟩⟩,⟨rb,64,[.string s,nV s.size,nV j]⟩] [];replace a:=a.trans C;refine fr 3 45 (ax ⟨0,0,false,none,0,0,none,0,0,⟨#[]⟩,none,0,0⟩) b (fun F _ _ u d b=>?_);replace d:=ed a.gr.size d;replace a:=a.trans (u.m _);refine ce 0 0 (ax e) b (fun _ y b=>?_);replace a:=a.put2 y d g b.g;refine ai (aa b ac (bn 13 (dK rb s l j 94 _ _ b.g (b.own 2) (b.jk 2) b.f.1) ?_));rintro _ _ _ k ⟨rfl,i⟩;replace b:=(b.stepM 2 k i).to [⟨F,45,ax e⟩,⟨B,45,ax ⟨0,0,false,none,0,0,none,0,0,⟨#[]⟩,none,0,0⟩⟩,⟨rb,64,[.string s,nV s.size,nV j]⟩] [];replace a:=a.trans k;refine lL b [.v qT] (ak (aa b [.o (aY e) 0 0 7] (ce 1 0 (ax e) b (fun _ y b=>?_))));replace a:=a.put2 y c g b.g;exact lN (kX (b.retM a [(1,0,7)] (aY e) (⟨_,rfl,b.own 2⟩)))
theorem Eg  (rb:Nat)(s:ByteArray)(y:s.size<=1000000)(e:Nat)(w:World)(h:Hp)(g:G w h)(B:Own w rb 64 [.string s,nV s.size,nV e])(l:h[rb]?=some junk)(k:Tab h):Calls Tryz.prog 106 #[pB rb] w (bV rb w h fun v w' _=>∃ x:RTm,v=aY x/\Own w' rb 64 [.string s,nV s.size,nV e]):=by
 have b:UpM [rb] w h w h:=UpM.refl g;obtain ⟨wz,i,d⟩:=SS.at_ g B l;replace d:=(d.add (K:=fun z=>Tab z) k);refine go Tryz.func106 [(0,pB rb)] rfl (aG (fr 2 45 (ax ⟨0,0,false,none,0,0,none,0,0,⟨#[]⟩,none,0,0⟩) d (fun D w2 H C a d=>?_)));replace a:=ed b.gr.size a;replace b:=b.trans (C.m _);refine ai (aa d [.c,.v (pB rb),.v (qP rb 2),.o (nV e) 1 2 1] ?_);have ⟨f,j⟩:=dT (p:=(0:Int)<=(e:Int)) oM;refine lB 14 f (ak (aa d [.v (aY ⟨0,0,false,none,0,0,none,0,0,⟨#[]⟩,none,0,0⟩)] (ce 0 0 (ax ⟨0,0,false,none,0,0,none,0,0,⟨#[]⟩,none,0,0⟩) d (fun F u d=>?_))));replace b:=b.put2 u a g d.g;exact lN (kX (d.retM b [(0,0,7)] (aY ⟨0,0,false,none,0,0,none,0,0,⟨#[]⟩,none,0,0⟩) (⟨_,rfl,d.own 1⟩)))
end Go.Proofs.YtbbhdbhkaacnnaaGreatDoor
