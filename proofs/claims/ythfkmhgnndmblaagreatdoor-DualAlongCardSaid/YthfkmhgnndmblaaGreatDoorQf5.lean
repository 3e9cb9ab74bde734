/- Laws of this claim, part 6. -/
import Derived.Test.YthfkmhgnndmblaaGreatDoorQf0
import Derived.Test.YthfkmhgnndmblaaGreatDoorQf1
import Derived.Test.YthfkmhgnndmblaaGreatDoorQf2
import Derived.Test.YthfkmhgnndmblaaGreatDoorQf3
import Derived.Test.YthfkmhgnndmblaaGreatDoorQf4
set_option maxRecDepth 100000
set_option maxHeartbeats 4000000
namespace Go.Proofs.YthfkmhgnndmblaaGreatDoor
open _root_.Array renaming getElem?_append_left -> ta, getElem?_eq_some_iff -> hO, getElem?_push_size -> fo, getElem?_setIfInBounds_ne -> i2, getElem?_setIfInBounds_self_of_lt -> As, size_setIfInBounds -> N4
open Bool renaming not_not -> Od
open Int renaming sign_eq_neg_one_iff_neg -> NY
open List renaming eq_nil_of_length_eq_zero -> y6, ext_getElem -> Oa, getD_eq_getElem?_getD -> LM, getElem?_eq_getElem -> NO, getElem?_eq_some_iff -> Ml, getElem?_map -> L0, getElem?_set -> N8, getElem?_zipIdx -> N5, getElem_map -> ub, getElem_mem -> gp, length_append -> y4, length_cons -> tq, length_drop -> LZ, length_eq_one_iff -> N7, length_map -> NH, length_nil -> NX, length_replicate -> NL, length_set -> Mg, length_take -> Lu, map_cons -> Af, mem_cons -> g2, mem_iff_getElem? -> N6, mem_map -> gx, mem_singleton -> sy, mergeSort_perm -> Oc, range -> ov, replicate -> zY, size_toArray -> Ob, toArray -> MU
open Nat renaming le_mul_of_pos_left -> MS, le_of_eq -> MF, le_refl -> eb, le_trans -> ep, lt_or_ge -> dS, lt_succ_iff_lt_or_eq -> NT, mul_le_mul -> Md, mul_le_mul_right -> y9, not_lt_zero -> NN, pow_succ -> Hj, succ_lt_succ -> N9, succ_ne_zero -> NW, succ_pos -> MB, zero_add -> y8, zero_le -> My
open Rat renaming num_nonneg -> N0
open Go.RowKit
open Go.RowKit Go.Shelf
theorem Ku {d k:Nat}{ks:List Tm}{x:ByteArray}{n:Prop}{a b:Prop}(h:n↔(a\/b\/HasK d ks k x)):(n\/fH d (ks.getD k cY) x)↔(a\/b\/HasK d ks (k+1) x):=by
 rw[h]
 constructor
 ·rintro ((h1|h1|⟨i,hi,h1⟩)|h1)
  ·exact .inl h1
  ·exact .inr (.inl h1)
  ·exact .inr (.inr ⟨i,by omega,h1⟩)
  ·exact .inr (.inr ⟨k,by omega,h1⟩)
 ·rintro (h1|h1|⟨i,hi,h1⟩)
  ·exact .inl (.inl h1)
  ·exact .inl (.inr (.inl h1))
  ·rcases NT.1 hi with h2|rfl
   ·exact .inl (.inr (.inr ⟨i,h2,h1⟩))
   ·exact .inr h1
theorem Cj  (ok:ByteArray->Prop)(d:Nat)(ih:∀ (r:RTm) (t:Tm) (u:Z9) (y:Nat) (us:List ByteArray) (w:World) (h:Hp),G w h->RmH d h r t->WfT ok d t->us.length<=y->SlO 1 bD ⟨#[]⟩ h u us->us.length+eF d t<=1000000->Calls Tryz.prog 108 #[bK r,.slice u us.length y] w (Ret w h (fun v h1=>∃ A_ c_,∃ e:List ByteArray,v=.slice A_ e.length c_/\e.length<=c_/\e.length<=us.length+eF d t/\SlO 1 bD ⟨#[]⟩ h1 A_ e/\∀ x,x∈e↔(x∈us\/fH d t x))))(op n:Int)(M:Bool)(O:Z9)(H L:Nat)(Q:Z9)(I J:Nat)(q:Rat)(s:ByteArray)(A:Z9)(c:Nat)(B:List RTm)(ks:List Tm)(hc:B.length<=c)(u:Z9)(y:Nat)(us:List ByteArray)(hk3:ks.length<=2)(hW:∀ i,i<ks.length->WfT ok d (ks.getD i cY))(X:us.length<=y)(hb:us.length+(1+(dU (fun i=>eF d (ks.getD i cY)) ks.length))<=1000000)(w:World)(h:Hp)(g:G w h)(hZ:RZ h (M,.slice O H L,.slice Q I J) q)(hK:SlO 7 bF bV h A B)(hKs:Rms d h B ks)(hL:SlO 1 bD ⟨#[]⟩ h u us):CR 108 #[bK ⟨op,n,M,O,H,L,Q,I,J,s,A,B.length,c⟩,.slice u us.length y] w h (fun v h1=>∃ A_ c_,∃ e:List ByteArray,v=.slice A_ e.length c_/\e.length<=c_/\e.length<=us.length+eF (d+1) (.mk op n q s ks)/\SlO 1 bD ⟨#[]⟩ h1 A_ e/\∀ x,x∈e↔(x∈us\/fH (d+1) (.mk op n q s ks) x)):=by
 have a:=(((((sS g).add (K:=fun b=>RZ b (M,qS O H L,qS Q I J) q) hZ).aS hK).add (K:=fun b=>Rms d b B ks) hKs).aS hL);have hln:=(a.f.2.1).len;refine go Tryz.func108 [(0,bK ⟨op,n,M,O,H,L,Q,I,J,s,A,B.length,c⟩),(1,qS u us.length y)] rfl (ax (lA 2 31 (bF ⟨op,n,M,O,H,L,Q,I,J,s,A,B.length,c⟩) a (fun C w2 h3 a=>?_)));refine lL a ac (lN (CG.join (fun Γ w_=>∃ (mA:Z9)(mc:Nat)(Z:List ByteArray)(b:Hp),Γ=[(2,pB C),(4,sZ),(1,qS mA Z.length mc)]/\SS w h w_ b [⟨C,31,bF ⟨op,n,M,O,H,L,Q,I,J,s,A,B.length,c⟩⟩] [] [fun b=>SlO 1 bD ⟨#[]⟩ b mA Z,fun b=>SlO 1 bD ⟨#[]⟩ b u us,fun b=>Rms d b B ks,fun b=>SlO 7 bF bV b A B,fun b=>RZ b (M,qS O H L,qS Q I J) q]/\Z.length<=mc/\Z.length<=us.length+1/\(∀ x,x∈Z↔(x∈us\/(op=2/\x=s)))) ?_ ?_))
 .
  refine aa a [.v (pB C),.o (iV op) 0 0 1] ?_;cases Y:((op:Int) == (2:Int))
  .
   have bm:=aj Y;refine lB 9 Y (ah (CG.skip ?_));intro a_ F;replace a:=(a.add (K:=fun b=>SlO 1 bD ⟨#[]⟩ b u us) a.f.1);exact ⟨_,⟨u,y,us,h3,rfl,a.to _ _,X,oM,(Cz oM)⟩,F.to _ kR⟩
  have bm:=eq_of_beq Y;refine lB 9 Y ?_;refine am (aa a ac (lN (CG.join (fun Γ w_=>∃ (j:Nat)(b:Hp),Γ=[(1,qS u us.length y),(2,pB C),(4,sZ),(5,nV j)]/\SS w h w_ b [⟨C,31,bF ⟨op,n,M,O,H,L,Q,I,J,s,A,B.length,c⟩⟩] [] [fun b=>SlO 1 bD ⟨#[]⟩ b u us,fun b=>Rms d b B ks,fun b=>SlO 7 bF bV b A B,fun b=>RZ b (M,qS O H L,qS Q I J) q]/\j<=us.length) ?_ ?_)))
  .
   refine kZ ?_;refine bH _ (CG.loop (fun μ_ Γ w_=>∃ (i:Nat)(b:Hp),μ_=us.length-i/\Γ=[(1,qS u us.length y),(2,pB C),(4,sZ),(5,nV i)]/\SS w h w_ b [⟨C,31,bF ⟨op,n,M,O,H,L,Q,I,J,s,A,B.length,c⟩⟩] [] [fun b=>SlO 1 bD ⟨#[]⟩ b u us,fun b=>Rms d b B ks,fun b=>SlO 7 bF bV b A B,fun b=>RZ b (M,qS O H L,qS Q I J) q]/\i<=us.length) _ ⟨0,h3,rfl,rfl,a.to _ _,My _⟩ ?_);rintro _ _ w9 ⟨i,_,bx,rfl,a,hi⟩;refine cQ (cQ (cR 13 [] mixed a ao ?_));refine eV 0 10 (nV i) (eV 1 11 (qS u us.length y) (eV 2 12 (nV us.length) ?_));cases za:(decide ((i:Int)<(us.length:Int)))
   .
    have zl:=oF za;refine eB 3 13 za (eV 4 14 qF (eG 5 15 (eG 6 16 (eG 7 17 (eG 8 18 (eG 9 19 (eG 10 20 (eG 11 21 (eV 12 22 qF (bU a (fun _ zs a=>tN (dD (CG.exit ?_)))))))))))));intro a_ F;exact ⟨_,⟨i,zs,rfl,a.to _ _,oM⟩,F.to _ kR⟩
   have zl:=oT za;refine eB 3 13 za (eV 4 14 qT (eV 5 15 (qS u us.length y) (eV 6 16 (nV i) (eX 7 17 u us.length y 1 (i:Nat) i ((a.f.1).ok oM) (eH 8 18 (.string (us.getD i ⟨#[]⟩)) a ((a.f.1).el i oM) (eV 9 19 (qP C 5) (eO 10 20 [(0,5,1)] (.string s) a ?_)))))));cases zi:(J7 (us.getD i ⟨#[]⟩) s)
   .
    refine eB 11 21 zi (eV 12 22 qF (bU a (fun _ zt a=>tN (dD (CG.exit ?_)))));intro a_ F;exact ⟨_,⟨i,zt,rfl,a.to _ _,oM⟩,F.to _ kR⟩
   refine eB 11 21 zi (eV 12 22 qT (bU a (fun _ zu a=>tN (ct (cK (kZ (kQ (lL a ac (bp 24 ((i:Nat)+1) (i+1) ?_)))))))));refine lL a ac (lD ?_);intro a_ F;refine ⟨_,_,?_,⟨i+1,zu,rfl,rfl,a.to _ _,oM⟩,F.to _ kR⟩
   omega
  rintro _ _ ⟨j,_,rfl,a,hj⟩;refine cQ (cR 13 [] mixed a ao ?_);refine eV 0 25 (nV j) (eV 1 26 (qS u us.length y) (eV 2 27 (nV us.length) ?_));cases zb:((j:Int) == (us.length:Int))
  .
   have zm:=aj zb;refine eB 3 28 zb (eV 4 29 qF (eV 5 30 (qS u us.length y) (eV 6 31 (nV j) (eX 7 32 u us.length y 1 (j:Nat) j ((a.f.1).ok oM) (eH 8 33 (.string (us.getD j ⟨#[]⟩)) a ((a.f.1).el j oM) (eV 9 34 (qP C 5) (eO 10 35 [(0,5,1)] (.string s) a ?_)))))));cases zd:(lU (us.getD j ⟨#[]⟩) s)
   .
    have zo:=o6 zd;refine eB 11 36 zd (eV 12 37 qF (bU a (fun _ zv a=>tN (dD (CG.skip ?_)))));intro a_ F;replace a:=(a.add (K:=fun b=>SlO 1 bD ⟨#[]⟩ b u us) a.f.1);exact ⟨_,⟨u,y,us,zv,rfl,a.to _ _,X,oM,(Er (i:=j) oM aM)⟩,F.to _ kR⟩
   have zo:=pj zd;refine eB 11 36 zd (eV 12 37 qT (bU a (fun zw _ a=>tN (ct ?_))));obtain ⟨K_,hK_⟩:∃ K_,K_=zw.heap.size:=⟨_,rfl⟩;have D:C<K_:=by rw[hK_];exact ff a 0
   refine vk ⟨[],some (K_,[])⟩ 0 mixed ?_;have bl:=a.g.size;replace a:=a.drew;have z:=MF hK_;refine zV 1 39 (qS u us.length y) (zV 2 40 (nV j) ?_);have S:(us.take j).length=j:=by rw[Lu];omega
   have W:(us.drop j).length=us.length-j:=LZ;have U:(us.take j++[s]).length=j+1:=by rw[y4,S];rfl
   have V:(us.take j++[s]++us.drop j).length=us.length+1:=by rw[y4,U,W];omega
   refine zT 3 41 u us.length y 1 (j:Nat) j ?_;replace a:=a.aS ((a.f.1).take j);refine zV 5 43 (qP C 5) (zO 6 44 [(0,5,1)] (.string s) rfl z a (fun p hp=>by obtain rfl:=sy.1 hp;exact D) (zV 9 47 (qS u us.length y) (zV 10 48 (nV j) (zF 11 49 u us.length y 1 (j:Nat) j ?_))));replace a:=a.aS ((a.f.2.1).drop j y X);refine KR 0 7 4 38 45 42 9 9 1 bD ⟨#[]⟩ 1 ([.string s]) u (us.take j) j y 16 (eS) rfl z a (fun _ f_=>f_.2.1) (fun b35 zx zB zD _ _ bf z a=>?_) (hn:=by simp only[Lu,LZ]<;>omega);refine KP 8 46 0 9 1 zB zx (us.take j) bD s 16 zD (eS) rfl z bf a a.f.1 (fun zE zG _ _ bk z a=>KS 12 50 0 9 1 zG zE (us.take j++[s]) bD ⟨#[]⟩ (if y=j then u else u.map (·.add (j*1))) (us.drop j) (us.length-j) (y-j) 16 (eS) rfl z bk a a.f.2.1 (fun zf zj _ _ z a=>?_) (hn:=by simp only[Lu,LZ]<;>omega));refine zV 13 1 (qS zf ((us.take j++[s]++(us.drop j)).length) zj) (tD ?_);obtain ⟨zH,a,zq⟩:=a.pubr 0 (A:=zf) (c:=zj) (l:=us.take j++[s]++(us.drop j)) (f:=bD) (ty:=9) (sz:=1) (⟨#[]⟩) (fun _=>rfl);intro a_ F;replace a:=(a.tl.tl.tl.tl.add (K:=fun b=>SlO 1 bD ⟨#[]⟩ b zf (us.take j++[s]++(us.drop j))) a.f.1);exact ⟨_,⟨zf,zj,us.take j++[s]++(us.drop j),zH,rfl,a.to _ _,zq,(by rw[V];omega),(t7 oM)⟩,F.to _ kR⟩
  have zm:=eq_of_beq zb;refine eB 3 28 zb (eV 4 29 qT (eG 5 30 (eG 6 31 (eG 7 32 (eG 8 33 (eG 9 34 (eG 10 35 (eG 11 36 (eV 12 37 qT (bU a (fun zI _ a=>tN (ct ?_))))))))))));obtain ⟨K_,hK_⟩:∃ K_,K_=zI.heap.size:=⟨_,rfl⟩;have D:C<K_:=by rw[hK_];exact ff a 0
  refine vk ⟨[],some (K_,[])⟩ 0 mixed ?_;have bl:=a.g.size;replace a:=a.drew;have z:=MF hK_;refine zV 1 39 (qS u us.length y) (zV 2 40 (nV j) ?_);have S:(us.take j).length=j:=by rw[Lu];omega
  have W:(us.drop j).length=us.length-j:=LZ;have U:(us.take j++[s]).length=j+1:=by rw[y4,S];rfl
  have V:(us.take j++[s]++us.drop j).length=us.length+1:=by rw[y4,U,W];omega
  refine zT 3 41 u us.length y 1 (j:Nat) j ?_;replace a:=a.aS ((a.f.1).take j);refine zV 5 43 (qP C 5) (zO 6 44 [(0,5,1)] (.string s) rfl z a (fun p hp=>by obtain rfl:=sy.1 hp;exact D) (zV 9 47 (qS u us.length y) (zV 10 48 (nV j) (zF 11 49 u us.length y 1 (j:Nat) j ?_))));replace a:=a.aS ((a.f.2.1).drop j y X);refine KR 0 7 4 38 45 42 9 9 1 bD ⟨#[]⟩ 1 ([.string s]) u (us.take j) j y 16 (eS) rfl z a (fun _ f_=>f_.2.1) (fun b64 zJ zK zL _ _ bb z a=>?_) (hn:=by simp only[Lu,LZ]<;>omega);refine KP 8 46 0 9 1 zK zJ (us.take j) bD s 16 zL (eS) rfl z bb a a.f.1 (fun zM zN _ _ bd z a=>KS 12 50 0 9 1 zN zM (us.take j++[s]) bD ⟨#[]⟩ (if y=j then u else u.map (·.add (j*1))) (us.drop j) (us.length-j) (y-j) 16 (eS) rfl z bd a a.f.2.1 (fun zg zk _ _ z a=>?_) (hn:=by simp only[Lu,LZ]<;>omega));refine zV 13 1 (qS zg ((us.take j++[s]++(us.drop j)).length) zk) (tD ?_);obtain ⟨zP,a,zr⟩:=a.pubr 0 (A:=zg) (c:=zk) (l:=us.take j++[s]++(us.drop j)) (f:=bD) (ty:=9) (sz:=1) (⟨#[]⟩) (fun _=>rfl);intro a_ F;replace a:=(a.tl.tl.tl.tl.add (K:=fun b=>SlO 1 bD ⟨#[]⟩ b zg (us.take j++[s]++(us.drop j))) a.f.1);exact ⟨_,⟨zg,zk,us.take j++[s]++(us.drop j),zP,rfl,a.to _ _,zr,(by rw[V];omega),(t7 oM)⟩,F.to _ kR⟩
 rintro _ _ ⟨mA,mc,Z,zQ,rfl,a,hmc,hml,hmm⟩;refine cQ (aa a ac (aZ ?_));replace a:=a.add (K:=fun b=>SlO 1 bD ⟨#[]⟩ b mA Z) (a.f.1);refine bH _ (CG.loop (fun μ_ Γ w_=>∃ (k:Nat)(nA:Z9)(nc:Nat)(e:List ByteArray)(b:Hp),μ_=ks.length-k/\Γ=[(2,pB C),(4,sZ),(6,nV k),(1,qS nA e.length nc)]/\SS w h w_ b [⟨C,31,bF ⟨op,n,M,O,H,L,Q,I,J,s,A,B.length,c⟩⟩] [] [fun b=>SlO 1 bD ⟨#[]⟩ b nA e,fun b=>SlO 1 bD ⟨#[]⟩ b mA Z,fun b=>SlO 1 bD ⟨#[]⟩ b u us,fun b=>Rms d b B ks,fun b=>SlO 7 bF bV b A B,fun b=>RZ b (M,qS O H L,qS Q I J) q]/\k<=ks.length/\e.length<=nc/\e.length<=us.length+1+(dU (fun i=>eF d (ks.getD i cY)) k)/\(∀ x,x∈e↔(x∈us\/(op=2/\x=s)\/HasK d ks k x))) _ ⟨0,mA,mc,Z,zQ,rfl,rfl,a.to _ _,My _,hmc,hml,(fun x=>(hmm x).trans (KL _ _))⟩ ?_);rintro _ _ _ ⟨k,nA,nc,e,_,bn,rfl,a,hk,hnc,hnl,hnm⟩;refine cQ (aa a [.c,.v (qP C 6),.o (qS A B.length c) 0 6 1,.v (nV B.length)] ?_);cases ze:(decide ((k:Int)<(B.length:Int)))
 .
  have zp:=oF ze;refine lB 55 ze (ah (CG.exit ?_))
  show CG _ _ _ _ _ _ _ _
  refine aa a aD (lN (kX ?_));have hkn:k=ks.length:=by omega
  rw[hkn] at hnm hnl
  exact a.ret [] (qS nA e.length nc) (⟨_,_,_,rfl,hnc,(by show _<=us.length+(1+(dU (fun i=>eF d (ks.getD i cY)) ks.length));omega),a.f.1,hnm⟩)
 have zp:=oT ze;refine lB 55 ze (am (cK (cQ (kZ (kQ (lL a [.v (qP C 6),.o (qS A B.length c) 0 6 1,.c] (lX 61 A B.length c 7 (k:Nat) k ((a.f.q.1).ok oM) ?_)))))));refine lH 62 (bK (B.getD k bV)) a ((a.f.q.1).el k oM) (lL a ac ?_);have br:=n8 (fun i=>eF d (ks.getD i cY)) (show k+1<=ks.length by omega);have bt:(dU (fun i=>eF d (ks.getD i cY)) (k+1))=(dU (fun i=>eF d (ks.getD i cY)) k)+eF d (ks.getD k cY):=rfl;refine lC 64 a (ih (B.getD k bV) (ks.getD k cY) nA nc e _ _ a.g ((a.f.r.2.1).at_ k oM) (hW k oM) hnc a.f.1 oM) ?_;rintro _ _ zR a ⟨xA,xc,xss,rfl,hxc,hxl,hX,hxm⟩;replace a:=a.aS hX;refine lL a ac (lN (kQ (lL a ac (bp 57 ((k:Nat)+1) (k+1) ?_))));refine lL a ac (lD ?_);intro a_ F;replace a:=(a.tl.tl.add (K:=fun b=>SlO 1 bD ⟨#[]⟩ b xA xss) a.f.1);refine ⟨_,_,?_,⟨k+1,xA,xc,xss,zR,rfl,rfl,a.to _ _,oM,hxc,oM,(fun x=>(hxm x).trans (Ku (hnm x)))⟩,F.to _ kR⟩
 omega
theorem ur (ok:ByteArray->Prop):∀ (d:Nat) (r:RTm) (t:Tm) (e:Z9) (f:Nat) (us:List ByteArray) (w:World) (h:Hp),G w h->RmH d h r t->WfT ok d t->us.length<=f->SlO 1 bD ⟨#[]⟩ h e us->us.length+eF d t<=1000000->Calls Tryz.prog 108 #[bK r,.slice e us.length f] w (Ret w h (fun v h1=>∃ o l,∃ a:List ByteArray,v=.slice o a.length l/\a.length<=l/\a.length<=us.length+eF d t/\SlO 1 bD ⟨#[]⟩ h1 o a/\∀ x,x∈a↔(x∈us\/fH d t x)))
  | 0,_,_,_,_,_,_,_,_,x,_,_,_,_=>x.elim
  | d+1,r,t,e,f,us,w,h,g,x,wf,huc,hL,hb=>by
    obtain ⟨op,n,b,B,C,I,y,J,H,q,s,A,c,u,ks,rfl,rfl,p,F,z,j⟩:=x.open;have i:ks.length<=2:=wf.two;obtain ⟨w1,w2,w3,L,O,M,K,Q,D⟩:=wf;exact Cj ok d (fun r t e f us w h=>ur ok d r t e f us w h) op n b B C I y J H q s A c u ks F e f us i D huc hb w h g p z j hL
theorem vr (ok:ByteArray->Prop)(d:Nat)(r:RTm)(t:Tm)(wf:WfT ok d t)(y:eF d t<=1000000)(w:World)(h:Hp)(g:G w h)(hR:RmH d h r t):CR 61 #[bK r] w h (fun v h1=>∃ p l,∃ b:List ByteArray,v=.slice p b.length l/\b.length<=l/\b.length<=eF d t/\SlO 1 bD ⟨#[]⟩ h1 p b/\∀ x,x∈b↔fH d t x):=by
 have a:=((sS g).add (K:=fun C=>RmH d C r t) hR);refine go Tryz.func61 [(0,bK r)] rfl (ax (lA 1 31 (bF r) a (fun H w2 I a=>lL a ac (aG (lL a [.o (bK r) 0 0 7] (lC 4 a (ur ok d r t none 0 [] _ _ a.g a.f.1 wf (nR _) SlO.nil (by simpa using y)) ?_))))));rintro _ D F a ⟨z,B,e,rfl,j,i,u,c⟩;replace a:=a.aS u;exact lL a ac (ae a [] (qS z e.length B) (⟨_,_,_,rfl,j,by simpa using i,a.f.1,fun x=>by simpa using c x⟩))
open Go.RowKit Go.WideMaps
structure MapI (P:Program) (kt:TypeId) (Q:Value->Prop) (w1:World) (h1:Hp) (b:Nat):Prop where
  jk:h1[b]?=some be
  ex:∃ es clk,w1.heap[b]?=some (.map es clk)/\∀ e∈es.toList,(∃ l,keyOf P kt e.key=some l)/\Q e.val
section laws
variable {P:Program}{n:Nat}{N R:Po}{X:Nat->Po}{ops:Array Oper}{k:Nat}{Γ:cl}{w:World}{h:Hp}{w0 w1:World}{h0 h1:Hp}{B:List Bx}{Rs:List Rw}{F:List (Hp->Prop)}
theorem SS.base (s:SS w1 h1 w h B Rs F){b:Nat}{o:Obj}(y:h1[b]?=some be)(D:b<w1.heap.size) :
  SS { w1 with heap:=w1.heap.setIfInBounds b o } h1 { w with heap:=w.heap.setIfInBounds b o } h B Rs F/\G { w1 with heap:=w1.heap.setIfInBounds b o } h1:=by
 have u:b<h1.size:=aR y;have i:h[b]?=some be:=(s.st.up.gr.blk b u).trans y;have p:b<w.heap.size:=by rw[s.g.size];exact aR i
 have set:∀ (w:World) c,c≠b->({ w with heap:=w.heap.setIfInBounds b o }:World).heap[c]?=w.heap[c]?:=fun w c d=>by show (w.heap.setIfInBounds b o)[c]?=_;rw[i2 (Ne.symm d)]
 have a:∀ (w:World),b<w.heap.size->({ w with heap:=w.heap.setIfInBounds b o }:World).heap[b]?=some o:=fun w H=>by show (w.heap.setIfInBounds b o)[b]?=_;rw[As H]
 have C:∀ (w:World) (h:Hp),G w h->h[b]?=some be->G { w with heap:=w.heap.setIfInBounds b o } h:=fun w h g j=>⟨by show (w.heap.setIfInBounds b o).size=_;rw[N4];exact g.size,fun c=>by
  by_cases e:c=b
  ·subst e;exact .inr j
  ·rw[set w c e];exact g.blk c⟩
 have l:=C w1 h1 s.g0 y;refine ⟨⟨l,⟨⟨?_,s.st.up.gr,C w h s.g i⟩,fun x z=>?_,s.st.jk,s.st.lo,s.st.nd⟩,fun r hr=>?_,s.ap,s.mo,s.f⟩,l⟩
 ·have e:=s.st.up.ext
  refine ⟨e.os,e.tape,e.output,?_,fun c d=>?_⟩
  ·show (w1.heap.setIfInBounds b o).size<=(w.heap.setIfInBounds b o).size
   rw[N4,N4];exact e.size
  ·by_cases q:c=b
   ·subst q;rw[a w p,a w1 D]
   ·rw[set w c q,set w1 c q];exact e.block c (by have:c<(w1.heap.setIfInBounds b o).size:=d;rw[N4] at this;exact this)
 ·have:x.b≠b:=fun e=>by have:=s.st.lo x z;omega
  exact (set w x.b this).trans (s.st.own x z)
 ·have q:=s.ro r hr
  refine ⟨eD q.own (fun c d=>set w c (fun e=>?_)),q.jk,q.ap⟩;subst e
  rcases q.own with ⟨_,e2|⟨g,cap,cur,hv,hb',_⟩⟩
  ·rw[e2.1] at d;simp[Value.ownBlock] at d
  ·rw[hv] at d
   simp[Value.ownBlock] at d
   omega
end laws
structure Dif (M:List Nat) (w w0:World):Prop where
  mo:Mo M w w0
  sz:w0.heap.size=w.heap.size
def gA (ss:List ByteArray):List MapEntry:=ss.zipIdx.map fun p=>⟨.string p.1,.bool true,p.2⟩
theorem Bj (a:List ByteArray)(s:ByteArray):gA (a++[s])=gA a++[⟨.string s,.bool true,a.length⟩]:=by
 unfold gA;rw[List.zipIdx_append,List.map_append];simp
theorem sI {a:List ByteArray}{j:Nat}{e:MapEntry}(h:(gA a)[j]?=some e):∃ s,a[j]?=some s/\e=⟨.string s,.bool true,j⟩:=by
 unfold gA at h
 rw[L0,N5] at h
 cases b:a[j]? with
 | none=>rw[b] at h;simp at h
 | some s=>rw[b] at h;simp at h;exact ⟨s,rfl,h.symm⟩
theorem oc {a:List ByteArray}{e:MapEntry}(h:e∈gA a):∃ j s,a[j]?=some s/\e=⟨.string s,.bool true,j⟩:=by
 obtain ⟨j,b⟩:=N6.1 h;obtain ⟨s,h1,c⟩:=sI b;exact ⟨j,s,h1,c⟩
theorem Cw {a:List ByteArray}{s:ByteArray}(h:s∈a):∃ e∈gA a,e.key=.string s:=by
 obtain ⟨j,b⟩:=N6.1 h;refine ⟨⟨.string s,.bool true,j⟩,?_,rfl⟩
 unfold gA
 refine gx.2 ⟨(s,j),?_,rfl⟩;rw[N6];exact ⟨j,by rw[N5,b];simp⟩
theorem Bi (a:List ByteArray)(s:ByteArray):(Instr.findNow .string (.string s) (gA a) 0=some none/\s ∉ a)\/∃ j,Instr.findNow .string (.string s) (gA a) 0=some (some (j,.bool true))/\a[j]?=some s:=by
 rcases MapKept.findNow_spec (d:=.string) (k:=.string s) (by simp[MapKept.IsKey]) (gA a) 0 (fun x b=>by obtain ⟨_,_,_,rfl⟩:=oc b;simp[MapKept.IsKey]) with ⟨h1,h2⟩|⟨j,e,h1,h2,h3⟩
 ·refine .inl ⟨h1,fun f=>?_⟩
  obtain ⟨e,h,hk⟩:=Cw f;exact h2 e h hk
 ·obtain ⟨i,c,rfl⟩:=sI h2
  injection h3 with h3
  subst h3;exact .inr ⟨j,by rw[h1,y8],c⟩
structure MapK (w:World) (h:Hp) (b:Nat) (ss:List ByteArray):Prop where
  jk:h[b]?=some be
  ob:w.heap[b]?=some (.map (gA ss).toArray ss.length)
  nd:ss.Nodup
section laws
variable {P:Program}{n:Nat}{N R:Po}{X:Nat->Po}{ops:Array Oper}{k:Nat}{Γ:cl}{w:World}{h:Hp}{w1:World}{h1:Hp}{B:List Bx}{Rs:List Rw}{F:List (Hp->Prop)}
theorem SS.atK (s:SS w1 h1 w h B Rs F){b:Nat}{a:List ByteArray}(m:MapK w1 h1 b a):w.heap[b]?=some (.map (gA a).toArray a.length) :=
 (s.st.up.ext.block b (by rw[s.g0.size];exact aR m.jk)).trans m.ob
theorem ox {b:Nat}{o:Obj}(a:G { w1 with heap:=w1.heap.setIfInBounds b o } h1):UpM [b] w1 h1 { w1 with heap:=w1.heap.setIfInBounds b o } h1 :=
 ⟨⟨rfl,rfl,rfl,by show _<=(w1.heap.setIfInBounds b o).size;rw[N4];exact eb _,fun c _ hn=>by
  show (w1.heap.setIfInBounds b o)[c]?=_
  rw[i2 (fun e=>hn (sy.2 e.symm))]⟩,Gr.refl _,a⟩
theorem Kk {mty kt et:TypeId}{b:Nat}{d:List ByteArray}(ky:ByteArray)(s:SS w1 h1 w h B Rs F)(m:MapK w1 h1 b d)
    (H:∀ w1' w' ss2,SS w1' h1 w' h B Rs F->MapK w1' h1 b ss2->(∀ x,x∈ss2↔x∈d\/x=ky)->ss2.length<=d.length+1->UpM [b] w1 h1 w1' h1->LG P n N R X ops (k+1) Γ w')
    (l:cS ops Γ k=true:=by kernel_rfl)(z:execOp (ev Γ) (ak ops k)=(do Instr.mapUpdate mty (.map (some b)) (.string ky) (.bool true);pure .skip):=by kernel_rfl)(D:P.underlying mty=some (.map kt et):=by kernel_rfl)(hk:P.underlying kt=some .string:=by kernel_rfl):LG P n N R X ops k Γ w:=by
  have C:=s.atK m;have f:b<w1.heap.size:=(hO.1 m.ob).1
  rcases Bi d ky with ⟨hf,hn⟩|⟨j,hf,hj⟩
  . have hr:=uI w (val:=.bool true) D hk C hf
    obtain ⟨u,y⟩:=s.base (o:=.map ((gA d).toArray.push ⟨.string ky,.bool true,d.length⟩) (d.length+1)) m.jk f;refine LG.store _ (iu l).1 (iu l).2 ?_ (H _ _ (d++[ky]) u ⟨m.jk,?_,?_⟩ (fun x=>by simp) (by simp) (ox y))
    . rw[z];simp[hr,Result.andThen]
    . show (w1.heap.setIfInBounds b _)[b]?=_
      rw[As f,Bj];simp
    . exact List.nodup_append.2 ⟨m.nd,by simp,fun a ha c l e=>hn (by rw[sy] at l;rw[<-l,<-e];exact ha)⟩
  . have I:j<d.length:=(Ml.1 hj).1
    have p:(gA d)[j]?=some ⟨.string ky,.bool true,j⟩:=by
      unfold gA;rw[L0,N5,hj];simp
    have hr:=qI w (val:=.bool true) D hk C hf (by simp[p])
    have J:((gA d).toArray.modify j fun e=>{ e with key:=.string ky,val:=.bool true })=(gA d).toArray:=by
      apply Array.ext_getElem?
      intro i;rw[Array.getElem?_modify]
      by_cases e:j=i
      . subst e
        rw[if_pos rfl]
        simp[p]
      . rw[if_neg e]
    rw[J] at hr
    obtain ⟨u,y⟩:=s.base (o:=.map (gA d).toArray d.length) m.jk f;refine LG.store _ (iu l).1 (iu l).2 ?_ (H _ _ d u ⟨m.jk,?_,m.nd⟩ (fun x=>⟨.inl,fun h=>h.elim id fun e=>by rw[e];exact N6.2 ⟨j,hj⟩⟩) (Nat.le_succ _) (ox y))
    . rw[z];simp[hr,Result.andThen]
    . show (w1.heap.setIfInBounds b _)[b]?=_
      rw[As f]
theorem SS.baseK (s:SS w1 h1 w h B Rs F){b:Nat}{L a:List ByteArray}(m:MapK w1 h1 b L){w':World}{D:Hp}(u:UpM [b] w h w' D)(I:w'.heap[b]?=some (.map (gA a).toArray a.length))(J:a.Nodup):∃ l,SS l h1 w' D B Rs F/\MapK l h1 b a/\UpM [b] w1 h1 l h1:=by
 have j:b<w1.heap.size:=(hO.1 m.ob).1;have K:=aR m.jk;obtain ⟨O,C⟩:=s.base (o:=.map (gA a).toArray a.length) m.jk j;have y:({ w1 with heap:=w1.heap.setIfInBounds b (.map (gA a).toArray a.length) }:World).heap.size=w1.heap.size:=by simp
 have p:∀ c,c<w.heap.size->c≠b->w'.heap[c]?=w.heap[c]?:=fun c d hn=>u.mo.blk c d (fun M=>hn (sy.1 M))
 have e:=s.st.up.ext;have z:∀ x∈B,x.b≠b:=fun x i e=>by have:=s.st.lo x i;omega
 refine ⟨_,⟨C,⟨⟨⟨u.mo.os.trans e.os,u.mo.tape.trans e.tape,u.mo.output.trans e.output,by rw[y];exact ep e.size u.mo.size,fun c d=>?_⟩,s.st.up.gr.trans u.gr,u.g⟩,fun x i=>?_,fun x i=>?_,s.st.lo,s.st.nd⟩,fun r hr=>⟨eD (s.ro r hr).own (fun c d=>?_),fun c d=>(u.gr.blk c ((s.ro r hr).lt d)).trans ((s.ro r hr).jk c d),(s.ro r hr).ap⟩,s.ap,s.mo,s.f.gw s.mo u.gr.gw⟩,⟨m.jk,by show (w1.heap.setIfInBounds b _)[b]?=_;rw[As j],J⟩,ox C⟩
 ·rw[y] at d
  by_cases q:c=b
  ·subst q
   rw[I]
   show _=(w1.heap.setIfInBounds c _)[c]?
   rw[As j]
  ·rw[p c (Nat.lt_of_lt_of_le d e.size) q]
   show _=(w1.heap.setIfInBounds b _)[c]?
   rw[i2 (Ne.symm q)];exact e.block c d
 ·have H:=s.st.own x i
  exact (p x.b H.lt (z x i)).trans H
 ·rw[u.gr.blk _ (aR (s.st.jk x i))];exact s.st.jk x i
 ·refine p c (jv (s.ro r hr).own d) (fun e=>?_)
  subst e;have q:=(s.ro r hr).own
  rcases q with ⟨_,e2|⟨g,cap,cur,hv,hb',_⟩⟩
  ·rw[e2.1] at d;simp[Value.ownBlock] at d
  ·rw[hv] at d;simp[Value.ownBlock] at d;omega
end laws
theorem x8  (ok:ByteArray->Prop)(d:Nat)(ih:∀ (p:PTm) (t:Tm) (b:Nat) (z:List ByteArray) (w:World) (h:Hp),G w h->TmH d h p t->WfT1 ok d t->MapK w h b z->Calls Tryz.prog 97 #[bO p,.map (some b)] w (eW b w h (fun v w1 _=>v=.tuple #[]/\∃ l:List ByteArray,w1.heap[b]?=some (.map (gA l).toArray l.length)/\l.Nodup/\(∀ x,x∈l↔x∈z\/fH d t x)/\l.length<=z.length+eF d t)))(op n:Int)(q:Rat)(s:ByteArray)(A:Z9)(c:Nat)(ps:List PTm)(ks:List Tm)(hc:ps.length<=c)(hlp:ps.length<=2)(bd:fu op=(ks.length:Nat))(hq0:op≠1->q=0)(hq:LQ 1 q)(hok:op=2->ok s)(hs0:op≠2->s=⟨#[]⟩)(hn0:op≠8->n=0)(hn1 : -12<=n)(hn2:n<=12)(hW:∀ i,i<ks.length->WfT1 ok d (ks.getD i cY))(b:Nat)(z:List ByteArray)(w:World)(h:Hp)(g:G w h)(hK:SlO 9 da cJ h A ps)(Z:Tms d h ps ks)(e:MapK w h b z):Calls Tryz.prog 97 #[bO ⟨op,n,q,s,A,ps.length,c⟩,.map (some b)] w (eW b w h (fun v w1 _=>v=.tuple #[]/\∃ l:List ByteArray,w1.heap[b]?=some (.map (gA l).toArray l.length)/\l.Nodup/\(∀ x,x∈l↔x∈z\/fH (d+1) (.mk op n q s ks) x)/\l.length<=z.length+eF (d+1) (.mk op n q s ks))):=by
 have u:UpM [b] w h w h:=UpM.refl g;have a:SS w h w h [] [] []:=sS g;replace a:=((a.aS hK).add (K:=fun j=>Tms d j ps ks) Z);have hln:=(a.f.1).len;refine go Tryz.func97 [(0,bO ⟨op,n,q,s,A,ps.length,c⟩),(1,.map (some b))] rfl (ax (lA 2 50 (da ⟨op,n,q,s,A,ps.length,c⟩) a (fun F w2 h3 a=>?_)));refine lN (CG.join (fun Γ w_=>∃ (y:World)(C:List ByteArray)(j:Hp),Γ=[(1,.map (some b)),(2,pB F)]/\SS y h w_ j [⟨F,50,da ⟨op,n,q,s,A,ps.length,c⟩⟩] [] [fun j=>Tms d j ps ks,fun j=>SlO 9 da cJ j A ps]/\MapK y h b C/\UpM [b] w h y h/\(∀ x,x∈C↔x∈z\/(op=2/\x=s))/\C.length<=z.length+1) ?_ ?_)
 .
  refine aa a [.v (pB F),.o (iV op) 0 0 1] ?_;cases B:((op:Int) == (2:Int))
  .
   have Q:=aj B;refine lB 8 B (ah (CG.skip ?_));intro a_ M;exact ⟨_,⟨w,z,h3,rfl,a.to _ _,e,u,(fun x=>⟨fun j=>.inl j,fun j=>j.elim id (fun S=>absurd S.1 oM)⟩),oM⟩,M.to _ kR⟩
  have Q:=eq_of_beq B;refine lB 8 B (am (kQ (lL a [.c,.v (qP F 7),.o (.string s) 0 7 1] (Kk (mty:=162) (kt:=9) (et:=4) (s) a e (fun w9 _ H a e D J O=>?_)))));replace u:=u.trans O
  clear O
  refine lD ?_;intro a_ M;exact ⟨_,⟨w9,H,h3,rfl,a.to _ _,e,u,(fun x=>(D x).trans ⟨fun j=>j.imp id fun S=>⟨by omega,S⟩,fun j=>j.imp id fun S=>S.2⟩),oM⟩,M.to _ kR⟩
 rintro _ _ ⟨y,C,zc,rfl,a,e,u,Y,hl1⟩;refine aa a [.v (qP F 8),.o (qS A ps.length c) 0 8 1,.v (nV ps.length),.c] (aZ ?_);refine bH _ (CG.loop (fun μ_ Γ w_=>∃ (y:World)(k:Nat)(sk:List ByteArray)(j:Hp),μ_=ps.length-k/\Γ=[(1,.map (some b)),(13,qS A ps.length c),(14,nV ps.length),(15,nV k)]/\SS y h w_ j [⟨F,50,da ⟨op,n,q,s,A,ps.length,c⟩⟩] [] [fun j=>Tms d j ps ks,fun j=>SlO 9 da cJ j A ps]/\MapK y h b sk/\UpM [b] w h y h/\k<=ps.length/\(∀ x,x∈sk↔x∈C\/HasK d ks k x)/\sk.length<=C.length+(dU (fun i=>eF d (ks.getD i cY)) k)) _ ⟨y,0,C,zc,rfl,rfl,a.to _ _,e,u,My _,(fun x=>⟨.inl,fun j=>j.elim id (fun j=>absurd j HasK.zero)⟩),nR _⟩ ?_);rintro _ _ _ ⟨y,k,sk,_,bb,rfl,a,e,u,hk,L,bk⟩;have bf:(dU (fun i=>eF d (ks.getD i cY)) (k+1))=(dU (fun i=>eF d (ks.getD i cY)) k)+eF d (ks.getD k cY):=rfl;refine ax ?_;cases X:(decide ((k:Int)<(ps.length:Int)))
 .
  have zb:=oF X;refine lB 16 X (ag (dD (CG.exit ?_)));have V:k=ks.length:=by omega
  have hcn:eF (d+1) (.mk op n q s ks)=1+(dU (fun i=>eF d (ks.getD i cY)) ks.length):=rfl;exact a.retM (u.trans (a.st.up.m _)) [] (.tuple #[]) ⟨rfl,sk,a.atK e,e.nd,fun x=>by rw[L x,Y x,V,or_assoc];exact Iff.rfl,by rw[hcn,<-V];omega⟩
 have zb:=oT X;refine lB 16 X (ag (ct (cK (cQ (kZ (ax (lX 17 A ps.length c 9 (k:Nat) k ((a.f.2.1).ok oM) ?_)))))));refine lH 18 (bO (ps.getD k cJ)) a ((a.f.2.1).el k oM) (lA 5 50 a7 a (fun b22 _ _ a=>lP 0 0 (da (ps.getD k cJ)) a (fun _ a=>lN (kQ (lL a [.o (bO (ps.getD k cJ)) 0 0 9,.c] (gh 21 (ih (ps.getD k cJ) (ks.getD k cY) b sk _ _ a.g ((a.f.1).at_ k oM) (hW k oM) ⟨(a.st.up.gr.blk _ (aR e.jk)).trans e.jk,a.atK e,e.nd⟩) ?_))))));rintro _ _ zd u28 ⟨rfl,U,I,W,D,J⟩;obtain ⟨ze,a,e,O⟩:=a.baseK e u28 I W;replace u:=u.trans O
 clear O I W
 refine lN (kQ (bp 22 ((k:Nat)+1) (k+1) ?_));refine lL a ac (lD ?_);intro a_ M;replace a:=a.drop 1 0;refine ⟨_,_,?_,⟨ze,k+1,U,zd,rfl,rfl,a.to _ _,e,u,oM,(fun x=>(D x).trans (by rw[L x,or_assoc,<-HasK.succ])),oM⟩,M.to _ kR⟩
 omega
theorem u6 (ok:ByteArray->Prop):∀ (d:Nat) (p:PTm) (t:Tm) (b:Nat) (e:List ByteArray) (w:World) (h:Hp),G w h->TmH d h p t->WfT1 ok d t->MapK w h b e->Calls Tryz.prog 97 #[bO p,.map (some b)] w (eW b w h (fun v w1 _=>v=.tuple #[]/\∃ a:List ByteArray,w1.heap[b]?=some (.map (gA a).toArray a.length)/\a.Nodup/\(∀ x,x∈a↔x∈e\/fH d t x)/\a.length<=e.length+eF d t))
  | 0,_,_,_,_,_,_,_,x,_,_=>x.elim
  | d+1,p,t,b,e,w,h,g,x,wf,hmk=>by
    obtain ⟨op,n,q,s,A,c,ps,ks,rfl,rfl,B,y,f⟩:=x.open;have i:=wf.two;obtain ⟨w1,w2,w3,l,u,o,j,C,z⟩:=wf;exact x8 ok d (fun p t b e w h=>u6 ok d p t b e w h) op n q s A c ps ks B (by have:=f.len;exact this▸i) w1 w2 w3 l u o j C z b e w h g y f hmk
section laws
variable {M:Ms}{P:Program}{ops:Array Oper}{Q:Exit->Act->World->Prop}{k0:Nat}
structure Waits (ops:Array Oper) (k0 i:Nat) (late:List Nat):Prop where
  ev:∀ u∈late,∃ ou,ops[u]?=some ou/\∃ e∈ou.after,Region.binds .any e=true/\(e.on=i\/e.on∈late)
  tl:∀ j oj,ops[j]?=some oj->k0<=j->j∈late
end laws
theorem rH (a:Rat):cZ a a=0:=by unfold cZ eh;rw[if_neg oM,if_neg oM]
theorem ww (b:Bool)(f:Z9)(i o:Nat)(a:Z9)(l j:Nat)(q:Rat)(w:World)(h:Hp)(g:G w h)(p:RZ h (b,.slice f i o,.slice a l j) q):Calls Tryz.prog 65 #[.agg #[.bool b,.slice f i o,.slice a l j]] w (Ret w h (fun v h1=>RQ h1 v q)):=by
 obtain ⟨has,⟨A,c,D,d,e,y,x,z,u⟩,hz⟩:=p;have e2:(Value.agg #[.bool b,qS f i o,qS a l j])=.agg #[.bool (af q.num),qS A (lim (ab q.num)).length c,qS D (lim (if has then q.den else 0)).length d]:=e;rw[e2];exact Cx { DH with q:=q,has:=has } A c D d y x hz w h g z u
theorem Seg.front {h:Hp}{b o:Nat}{cs a:List Value}(s:Seg h b o (cs++a)):Seg h b o cs:=fun i v hv=>by
 have hi:i<cs.length:=by
  rcases dS i cs.length with hl|hl
  ·exact hl
  ·rw[List.getElem?_eq_none hl] at hv;cases hv
 exact s i v (by rw[List.getElem?_append_left hi];exact hv)
theorem SlO.of_flatS {α:Type}{sz:Nat}{f:α->List Value}{d:α}{h:Hp}{b o:Nat}{l:List α}{sp:List Value}(hf:∀ x,(f x).length=sz)(s:Seg h b o (l.flatMap f++sp)):SlO sz f d h (some ⟨b,o,none⟩) l:=SlO.of_flat hf s.front
theorem Jx {ix:ByteArray->Nat}{fs ws:List Rat}{d:Nat}{n:Int}{q:Rat}{s:ByteArray}{ks:List Tm}:cM ix fs ws (d+1) (.mk 2 n q s ks)=(0,[fs.getD (ix s) 0,ws.getD (ix s) 0]):=rfl
section
variable {ok:ByteArray->Prop}{ix:ByteArray->Nat}{fs ws:List Rat}
theorem xP {d:Nat}{op n:Int}{q:Rat}{s:ByteArray}{a:Tm}(h1:op≠1)(b:op≠2):cM ix fs ws (d+1) (.mk op n q s [a])=p9 op n (cM ix fs ws d a) (0,[]):=by
 show (if op=1 then _ else if op=2 then _ else _)=_
 rw[if_neg h1,if_neg b];rfl
theorem uM {d:Nat}{op n:Int}{q:Rat}{s:ByteArray}{b a:Tm}(h1:op≠1)(c:op≠2):cM ix fs ws (d+1) (.mk op n q s [b,a])=p9 op n (cM ix fs ws d b) (cM ix fs ws d a):=by
 show (if op=1 then _ else if op=2 then _ else _)=_
 rw[if_neg h1,if_neg c];rfl
theorem pZ {op n:Int}{x y:Int × List Rat}(h:x.1≠0):p9 op n x y=(x.1,[]):=if_pos h
theorem ue {op n:Int}{x y:Int × List Rat}(h:x.1=0)(a:y.1≠0):p9 op n x y=(y.1,[]):=by unfold p9;rw[if_neg (fun k=>k h),if_pos a]
theorem pI {op n:Int}{x y:Int × List Rat}(h:x.1=0)(a:y.1=0):p9 op n x y=(bJ op n (x.2.getD 0 0) (y.2.getD 0 0),iC op n x.2 y.2):=by unfold p9;rw[if_neg (fun k=>k h),if_neg (fun k=>k a)]
theorem k7:∀ {d:Nat} {t:Tm},WfT1 ok d t->(cM ix fs ws d t).1=0->(cM ix fs ws d t).2.length=2
  | d + 1,t,_,h=>by
    by_cases o1:t.op=1
    . have e:cM ix fs ws (d+1) t=(0,[t.q,((0:Int):Rat)]):=if_pos o1
      rw[e];rfl
    . by_cases o2:t.op=2
      . have e:cM ix fs ws (d+1) t=(0,[fs.getD (ix t.s) 0,ws.getD (ix t.s) 0]):=(if_neg o1).trans (if_pos o2)
        rw[e];rfl
      . have e:cM ix fs ws (d+1) t=p9 t.op t.n _ _:=(if_neg o1).trans (if_neg o2)
        rw[e] at h ⊢
        generalize (if 0<t.ks.length then cM ix fs ws d (t.ks.getD 0 cY) else (0,[]))=x at *
        generalize (if 1<t.ks.length then cM ix fs ws d (t.ks.getD 1 cY) else (0,[]))=y at *
        by_cases c1:x.1=0
        . by_cases c2:y.1=0
          . rw[pI c1 c2] at h ⊢
            show (iC _ _ _ _).length=2
            unfold iC;rw[if_pos h];rfl
          . rw[ue c1 c2] at h;exact absurd h c2
        . rw[pZ c1] at h;exact absurd h c1
end
theorem Em {h:Hp}{x y:RT}{a b:Rat}(d:RQ h (C7 x) a)(c:RQ h (C7 y) b):RTs h [x,y] [a,b]:=(RTs.nil.snoc d).snoc c
theorem Hz (x:RT)(hk:Hp)(w:World)(h:Hp)(g:G w h)(hz:hk.size<=h.size):CR 64 #[.agg #[.bool ((x).1),(x).2.1,(x).2.2],iV 1] w h (fun v h1=>∃ (b c:Nat)(sp:List Value)(r0:RT),v=.slice (sB b) 2 c/\2<=c/\Nw hk.size h1 b 28 (([x,r0]:List RT).flatMap fX++sp)):=by
 have a:=sS g;refine go Tryz.func64 [(0,.agg #[.bool ((x).1),(x).2.1,(x).2.2]),(1,iV 1)] rfl (ax (lA 2 28 ([.bool ((x).1),(x).2.1,(x).2.2]) a (fun K w2 S a=>lL a ac (aG (lL a [.o (.agg #[.bool ((x).1),(x).2.1,(x).2.2]) 0 0 3] (HO 7 28 3 fX ([x]:List RT) a (fun B Q O a=>lL a ac ?_)))))));have F:(([x]:List RT)).length=1:=rfl;refine ag (kZ (cU ?_));refine cN (cQ (aa a [.c,.v (iV 1),.c,.v qT] (am (cK (kZ (kQ (lL a ac (lC 13 a (oH 0 oM oM _ _ a.g) ?_))))))));rintro _ _ _ a ⟨d,i,j,e,rfl,J,D,M,L⟩;replace a:=a.aP M L;refine lR 14 28 1 (gE ((0:Int):Rat) d i j e) a (fun I _ _ a=>lY 15 0 28 3 ((([x]:List RT)).length) (sB B) ([x]:List RT) fX ((af ((0:Int):Rat).num,qS d ((lim (ab ((0:Int):Rat).num)).length) i,qS j ((lim ((0:Int):Rat).den).length) e):RT) 56 I (.agg #[qF,sZ,sZ]) a a.f.1 (fun u p _ _ a=>lL a ac (lD (CL.to [(1,iV 1),(4,sZ),(5,qS u ((([x]:List RT)++[((af ((0:Int):Rat).num,qS d ((lim (ab ((0:Int):Rat).num)).length) i,qS j ((lim ((0:Int):Rat).den).length) e):RT)]).length) p),(8,qS (sB B) ((([x]:List RT)).length) ((([x]:List RT)).length)),(9,iV 1),(10,iV 1),(11,qT),(12,qS (sB B) ((([x]:List RT)).length) ((([x]:List RT)).length)),(13,rG ((0:Int):Rat) d i j e),(14,qS (sB I) 1 1),(15,qS u ((([x]:List RT)++[((af ((0:Int):Rat).num,qS d ((lim (ab ((0:Int):Rat).num)).length) i,qS j ((lim ((0:Int):Rat).den).length) e):RT)]).length) p)] ?_))));replace a:=a.to [⟨K,28,[.bool ((x).1),(x).2.1,(x).2.2]⟩] [⟨28,3,u,p,(([x]:List RT)++[((af ((0:Int):Rat).num,qS d ((lim (ab ((0:Int):Rat).num)).length) i,qS j ((lim ((0:Int):Rat).den).length) e):RT)]).length,(([x]:List RT)++[((af ((0:Int):Rat).num,qS d ((lim (ab ((0:Int):Rat).num)).length) i,qS j ((lim ((0:Int):Rat).den).length) e):RT)]).flatMap fX⟩];refine cN (cQ (aa a [.c,.v (iV 2),.c,.v qF] (ah (CG.exit ?_))))
 show CG _ _ _ _ _ _ _ _
 refine aa a aD (lN (kX ?_));obtain ⟨U,H,y,a,C,z⟩:=a.pubn 0 (A:=u) (c:=p) (ty:=28) (sz:=3) (l:=([x]:List RT)++[((af ((0:Int):Rat).num,qS d ((lim (ab ((0:Int):Rat).num)).length) i,qS j ((lim ((0:Int):Rat).den).length) e):RT)]) (f:=fX) (by show 0<2;decide);subst C;exact a.ret [] (qS (sB H) 2 p) (⟨H,_,y,_,rfl,z,Nw.mono a.f.1 hz⟩)
theorem JF (ok:ByteArray->Prop)(ix:ByteArray->Nat)(fs ws:List Rat)(J:Z9)(x:Nat)(ns:List ByteArray)(Q:Z9)(V:Nat)(z:List RT)(F:Z9)(S:Nat)(y:List RT)(hfl:fs.length=ns.length)(hwl:ws.length=ns.length)(hnl:ns.length<=1000)(d:Nat)(n:Int)(e:Bool)(i:Z9)(j p:Nat)(b:Z9)(u l:Nat)(q:Rat)(s:ByteArray)(A:Z9)(c:Nat)(w:World)(h:Hp)(g:G w h)(Z:RZ h (e,.slice i j p,.slice b u l) q)(hN:SlO 1 bD ⟨#[]⟩ h J ns)(hF:Sr Q z h)(C:RTs h z fs)(O:Sr F y h)(I:RTs h y ws):CR 28 #[bK ⟨1,n,e,i,j,p,b,u,l,s,A,0,c⟩,.slice J ns.length x,.slice Q z.length V,.slice F y.length S,iV 1,.bool true] w h (fun v h1=>∃ (X:Z9)(c_:Nat)(ts_:List RT),v=.tuple #[.slice X ts_.length c_,iV (cM ix fs ws (d+1) (.mk 1 n q s [])).1]/\ts_.length<=c_/\Sr X ts_ h1/\RTs h1 ts_ (cM ix fs ws (d+1) (.mk 1 n q s [])).2):=by
 have a:=(((((((sS g).add (K:=fun h_=>RZ h_ (e,qS i j p,qS b u l) q) Z).aS hN).aS hF).aT C).aS O).aT I);refine go Tryz.func28 [(0,bK ⟨1,n,e,i,j,p,b,u,l,s,A,0,c⟩),(1,qS J ns.length x),(2,qS Q z.length V),(3,qS F y.length S),(4,iV 1),(5,qT)] rfl (ax (lA 6 31 (bF ⟨1,n,e,i,j,p,b,u,l,s,A,0,c⟩) a (fun U w2 h3 a=>lL a aD (ag (aa a [.v (pB U),.o (iV 1) 0 0 1] (aZ (aa a [.v qT,.c] (am (aa a [.v (qP U 2),.o (.agg #[.bool e,qS i j p,qS b u l]) 0 2 3] (lC 26 a (ww e i j p b u l q _ _ a.g a.f.q.2.1) ?_))))))))));rintro _ _ _ a ⟨A4,c5,A8,c9,rfl,B,za,M,zb⟩;replace a:=a.aP M zb;refine lL a ac (lC 28 a ((by have q_:=nw q A4 c5 A8 c9 B za 1 kD _ _ a.g a.f.2.1 (a.f.1);exact q_)) ?_);rintro _ _ _ a ⟨Y,cz,W,rfl,H,D,L⟩;replace a:=((a.aS D).aT L);exact lL a aD (ae a [] (.tuple #[qS Y W.length cz,iV 0]) (⟨_,_,W,rfl,H,a.f.2.1,a.f.1⟩))
theorem I8 (ok:ByteArray->Prop)(ix:ByteArray->Nat)(fs ws:List Rat)(Q:Z9)(p:Nat)(ns:List ByteArray)(V:Z9)(cF:Nat)(e:List RT)(S:Z9)(cW:Nat)(H:List RT)(hfl:fs.length=ns.length)(hwl:ws.length=ns.length)(hnl:ns.length<=1000)(d:Nat)(n:Int)(B:Bool)(C:Z9)(u z:Nat)(D:Z9)(x y:Nat)(q:Rat)(s:ByteArray)(A:Z9)(c:Nat)(O:List RTm)(ks:List Tm)(hfx:∀ k,k<ns.length->ns.getD k ⟨#[]⟩=s->(∀ i,i<k->ns.getD i ⟨#[]⟩≠s)->ix s=k)(hfo:∃ i,i<ns.length/\ns.getD i ⟨#[]⟩=s)(w:World)(h:Hp)(g:G w h)(hZ:RZ h (B,.slice C u z,.slice D x y) q)(hN:SlO 1 bD ⟨#[]⟩ h Q ns)(hF:Sr V e h)(hTf:RTs h e fs)(hW_:Sr S H h)(hTw:RTs h H ws):CR 28 #[bK ⟨2,n,B,C,u,z,D,x,y,s,A,O.length,c⟩,.slice Q ns.length p,.slice V e.length cF,.slice S H.length cW,iV 1,.bool true] w h (fun v h1=>∃ (A_:Z9)(c_:Nat)(ts_:List RT),v=.tuple #[.slice A_ ts_.length c_,iV (cM ix fs ws (d+1) (.mk 2 n q s ks)).1]/\ts_.length<=c_/\Sr A_ ts_ h1/\RTs h1 ts_ (cM ix fs ws (d+1) (.mk 2 n q s ks)).2):=by
 have a:=(((((((sS g).add (K:=fun j=>RZ j (B,qS C u z,qS D x y) q) hZ).aS hN).aS hF).aT hTf).aS hW_).aT hTw);have bd:=(a.f.r.1).len;have bm:=(a.f.1).len;refine go Tryz.func28 [(0,bK ⟨2,n,B,C,u,z,D,x,y,s,A,O.length,c⟩),(1,qS Q ns.length p),(2,qS V e.length cF),(3,qS S H.length cW),(4,iV 1),(5,qT)] rfl (ax (lA 6 31 (bF ⟨2,n,B,C,u,z,D,x,y,s,A,O.length,c⟩) a (fun L w2 h3 a=>lL a aD (ag (aa a [.v (pB L),.o (iV 2) 0 0 1] (aZ (aa a [.v qF,.c] (ah (aa a [.v qT,.c] (am (cQ (aa a ac (aZ ?_)))))))))))));refine bH _ (CG.loop (fun μ_ Γ w_=>∃ (k:Nat)(j:Hp),μ_=ns.length-k/\Γ=[(1,qS Q ns.length p),(2,qS V e.length cF),(3,qS S H.length cW),(4,iV 1),(5,qT),(6,pB L),(14,nV k)]/\SS w h w_ j [⟨L,31,bF ⟨2,n,B,C,u,z,D,x,y,s,A,O.length,c⟩⟩] [] [Rt H ws,Sr S H,Rt e fs,Sr V e,fun j=>SlO 1 bD ⟨#[]⟩ j Q ns,fun j=>RZ j (B,qS C u z,qS D x y) q]/\k<=ns.length/\(∀ i,i<k->ns.getD i ⟨#[]⟩≠s)) _ ⟨0,h3,rfl,rfl,a.to _ _,My _,(fun i hi=>absurd hi (NN i))⟩ ?_);rintro _ _ w4 ⟨k,h5,hm6,rfl,a,hk,M⟩;refine cQ (aa a [.c,.c,.v (nV ns.length)] ?_);cases J:(decide ((k:Int)<(ns.length:Int)))
 .
  have bb:=oF J;refine lB 34 J (ah (CG.exit ?_))
  show CG _ _ _ _ _ _ _ _
  refine aa a aD (lN (kX ?_));exact absurd hfo (fun j=>by obtain ⟨i_,h1_,h2_⟩:=j;exact M i_ oM h2_)
 have bb:=oT J;refine lB 34 J (am (cK (cQ (kZ (cQ (cR 7 [] mixed a ao ?_))))));refine eV 0 37 (qS Q ns.length p) (eV 1 38 (nV k) (eX 2 39 Q ns.length p 1 (k:Nat) k ((a.f.q.1).ok oM) (eH 3 40 (.string (ns.getD k ⟨#[]⟩)) a ((a.f.q.1).el k oM) (eV 4 41 (qP L 5) (eO 5 42 [(0,5,1)] (.string s) a ?_)))));cases I:(kf (ns.getD k ⟨#[]⟩) s)
 .
  have Y:=hJ I;refine eB 6 43 I (bU a (fun w9 za a=>tN (dD (cK (kQ (lL a ac (bp 36 ((k:Nat)+1) (k+1) ?_)))))));refine lL a ac (lD ?_);intro a_ ka;refine ⟨_,_,?_,⟨k+1,za,rfl,rfl,a.to _ _,oM,(fun i hi=>by rcases NT.1 hi with j|rfl;exact M i j;assumption)⟩,ka.to _ kR⟩
  omega
 have Y:=g8 I;refine eB 6 43 I (bU a (fun _ _ a=>tN (ct (aa a aD (lX 46 V e.length cF 3 (k:Nat) k ((a.f.r.2.1).ok oM) ?_)))));refine lH 47 (rA (e.getD k gQ)) a ((a.f.r.2.1).el k oM) (lL a ac (kd 49 (Hz (e.getD k gQ) _ _ _ a.g (nR _)) ?_));rintro _ _ _ u17 ⟨bz,cz,F,U,rfl,hcz,hNz⟩;obtain ⟨_,a,-,-⟩:=a.take u17 hNz.1 hNz.2.2;replace a:=a.to [⟨bz,28,(([e.getD k gQ,U]:List RT)).flatMap fX++F⟩,⟨L,31,bF ⟨2,n,B,C,u,z,D,x,y,s,A,O.length,c⟩⟩] [];have bf:([e.getD k gQ,U]:List RT).length=2:=rfl;refine lL a ac (ag (aa a [.c,.v qT] (am (kQ (lL a dl (lX 55 S H.length cW 3 (k:Nat) k ((a.f.2.1).ok oM) ?_))))));obtain ⟨Z,cw,W,dw,ew,hcw,hdw,hAw,hDw⟩:=(a.f.1).at_ k oM;replace a:=a.aP hAw hDw;refine HT 56 (rA (H.getD k gQ)) a ((a.f.r.2.1).el k oM) ew (lX 57 (sB bz) 2 cz 3 1 1 rfl (Lk 0 ([e.getD k gQ,U]:List RT) fX 3 1 ((af (ws.getD k 0).num,qS Z ((lim (ab (ws.getD k 0).num)).length) cw,qS W ((lim (ws.getD k 0).den).length) dw):RT) F a oM (fun _ a=>?_)));have bl:((([e.getD k gQ,U]:List RT)).set 1 ((af (ws.getD k 0).num,qS Z ((lim (ab (ws.getD k 0).num)).length) cw,qS W ((lim (ws.getD k 0).den).length) dw):RT)).length=2:=by rw[Mg];exact rfl
 replace a:=a.to [⟨bz,28,((([e.getD k gQ,U]:List RT)).set 1 ((af (ws.getD k 0).num,qS Z ((lim (ab (ws.getD k 0).num)).length) cw,qS W ((lim (ws.getD k 0).den).length) dw):RT)).flatMap fX++F⟩,⟨L,31,bF ⟨2,n,B,C,u,z,D,x,y,s,A,O.length,c⟩⟩] [];refine aG (lL a dl (lN (kX ?_)));have hkx:ix s=k:=hfx k oM aM M;obtain ⟨_,a,X,bn,bk⟩:=a.pub 0;replace a:=(a.to [⟨L,31,bF ⟨2,n,B,C,u,z,D,x,y,s,A,O.length,c⟩⟩] []).aS (SlO.of_flatS (sp:=F) (sz:=3) (f:=fX) (d:=gQ) (b:=bz) (o:=0) (l:=(([e.getD k gQ,U]:List RT)).set 1 ((af (ws.getD k 0).num,qS Z ((lim (ab (ws.getD k 0).num)).length) cw,qS W ((lim (ws.getD k 0).den).length) dw):RT)) (fun _=>rfl) X);exact a.ret [] (.tuple #[qS (sB bz) 2 cz,iV 0]) (by show ∃ _,_;exact ⟨_,_,([e.getD k gQ,((af (ws.getD k 0).num,qS Z ((lim (ab (ws.getD k 0).num)).length) cw,qS W ((lim (ws.getD k 0).den).length) dw):RT)]:List RT),rfl,hcz,a.f.1,by rw[Jx,hkx];exact Em ((a.f.q.2.1).at_ k oM) (qx hcw hdw a.f.r.1 a.f.2.1)⟩)
theorem IC  (ok:ByteArray->Prop)(ix:ByteArray->Nat)(fs ws:List Rat)(D:Z9)(x:Nat)(ns:List ByteArray)(F:Z9)(X:Nat)(z:List RT)(C:Z9)(U:Nat)(y:List RT)(hfl:fs.length=ns.length)(hwl:ws.length=ns.length)(hnl:ns.length<=1000)(d:Nat)(ih:∀ (r:RTm) (t:Tm) (w:World) (h:Hp),G w h->RmH d h r t->WfT1 ok d t->ce d t<=1000->SlO 1 bD ⟨#[]⟩ h D ns->Sr F z h->RTs h z fs->Sr C y h->RTs h y ws->Calls Tryz.prog 28 #[bK r,.slice D ns.length x,.slice F z.length X,.slice C y.length U,iV 1,.bool true] w (Ret w h (fun v h1=>∃ (Z:Z9)(c_:Nat)(ts_:List RT),v=.tuple #[.slice Z ts_.length c_,iV (cM ix fs ws d t).1]/\ts_.length<=c_/\Sr Z ts_ h1/\RTs h1 ts_ (cM ix fs ws d t).2)))(op n:Int)(Q:Bool)(S:Z9)(H M:Nat)(V:Z9)(I L:Nat)(q:Rat)(s:ByteArray)(A:Z9)(c:Nat)(B:RTm)(j:Tm)(Y:WfT1 ok d j)(hg1:ce d j<=1000)(hv1:∀ i,LQ 1000000 ((cM ix fs ws d j).2.getD i 0))(hu1:LQ 3000 ((cM ix fs ws d j).2.getD 0 0))(hop:3<=op/\op<=13)(har:fu op=1)(hn : -12<=n/\n<=12)(w:World)(h:Hp)(g:G w h)(hK:SlO 7 bF bV h A ([B]:List RTm))(hr1:RmH d h B j)(hN:SlO 1 bD ⟨#[]⟩ h D ns)(hF:Sr F z h)(hTf:RTs h z fs)(hW_:Sr C y h)(hTw:RTs h y ws):CR 28 #[bK ⟨op,n,Q,S,H,M,V,I,L,s,A,1,c⟩,.slice D ns.length x,.slice F z.length X,.slice C y.length U,iV 1,.bool true] w h (fun v h1=>∃ (Z:Z9)(c_:Nat)(ts_:List RT),v=.tuple #[.slice Z ts_.length c_,iV (cM ix fs ws (d+1) (.mk op n q s ([j]:List Tm))).1]/\ts_.length<=c_/\Sr Z ts_ h1/\RTs h1 ts_ (cM ix fs ws (d+1) (.mk op n q s ([j]:List Tm))).2):=by
 have a:=((((((((sS g).aS hK).add (K:=fun h_=>RmH d h_ B j) hr1).aS hN).aS hF).aT hTf).aS hW_).aT hTw);have hln:([B]:List RTm).length=1:=rfl;have hac:=aE op;refine go Tryz.func28 [(0,bK ⟨op,n,Q,S,H,M,V,I,L,s,A,1,c⟩),(1,qS D ns.length x),(2,qS F z.length X),(3,qS C y.length U),(4,iV 1),(5,qT)] rfl (ax (lA 6 31 (bF ⟨op,n,Q,S,H,M,V,I,L,s,A,1,c⟩) a (fun u w2 h3 a=>lL a aD (ag (aa a [.v (pB u),.o (iV op) 0 0 1] (aZ (ax ?_)))))));have O:((op:Int) == (1:Int))=false:=eU oM;have bd:=aj O;refine lB 23 O (lL a ac (ah (ax ?_)));have J:((op:Int) == (2:Int))=false:=eU oM;have bb:=aj J;refine lB 30 J (lL a ac (ah (cK (ax (HO 59 36 1 vc ([(sZ:Value),(sZ:Value)]:List Value) a (fun p w7 h8 a=>lL a ac ?_))))));have bk:(([(sZ:Value),(sZ:Value)]:List Value)).length=2:=rfl;refine ag (aa a ac (aZ (cU ?_)));refine cN (cQ (aa a [.c,.v (qP u 6),.o (qS A 1 c) 0 6 1,.v (iV 1),.v qT] (am (cK (cQ (kZ (aa a [.v (qP u 6),.o (qS A 1 c) 0 6 1,.c] (lX 71 A 1 c 7 0 0 ((a.f.q.r.1).ok oM) ?_))))))));refine lH 72 (bK (([B]:List RTm).getD 0 bV)) a ((a.f.q.r.1).el 0 oM) (lL a IL (lC 78 a (ih (([B]:List RTm).getD 0 bV) j _ _ a.g a.f.q.2.1 Y hg1 a.f.q.1 a.f.r.2.1 a.f.r.1 a.f.2.1 a.f.1) ?_));rintro _ _ _ a ⟨l,c1,e,rfl,W,hS1,hT1⟩;replace a:=((a.aS hS1).aT hT1);refine lL a [.c,.v (qS l e.length c1),.v (iV ((cM ix fs ws d j).1)),.c,.c] (ag (aa a ac ?_));cases za:(((cM ix fs ws d j).1:Int) != (0:Int))
 .
  have zb:=aJ za;refine lB 82 za (ah (cK (kQ (lL a dl (lX 87 (sB p) ((([(sZ:Value),(sZ:Value)]:List Value)).length) ((([(sZ:Value),(sZ:Value)]:List Value)).length) 1 0 0 rfl ?_)))));refine Hh (ty:=36) (c:=(([(sZ:Value),(sZ:Value)]:List Value)).length) (b:=p) 0 0 0 ([qS l e.length c1]) ([(sZ:Value),(sZ:Value)]:List Value) vc 1 undef (qS l e.length c1:Value) a oM (fun _ a=>?_);replace a:=a.to [⟨u,31,bF ⟨op,n,Q,S,H,M,V,I,L,s,A,1,c⟩⟩] [⟨36,1,sB p,(([(sZ:Value),(sZ:Value)]:List Value)).length,(([(sZ:Value),(sZ:Value)]:List Value)).length,(([(sZ:Value),(sZ:Value)]:List Value).set 0 (qS l e.length c1:Value)).flatMap vc⟩];have bf:(([(sZ:Value),(sZ:Value)]:List Value).set 0 (qS l e.length c1:Value)).length=2:=rfl;refine lN (kQ (lL a [.c,.v (iV 1),.c] (lD (CL.to [(1,qS D ns.length x),(2,qS F z.length X),(3,qS C y.length U),(4,iV 1),(5,qT),(6,pB u),(12,sZ),(13,iV 0),(16,qS (sB p) ((([(sZ:Value),(sZ:Value)]:List Value)).length) ((([(sZ:Value),(sZ:Value)]:List Value)).length)),(17,iV 1),(60,iV 0),(61,qP u 6),(62,qS A 1 c),(63,iV 1),(64,qT),(68,qP u 6),(69,qS A 1 c),(70,iV 0),(71,.pointer (some ⟨(aB A),aO A+0*7,none⟩)),(72,bK (([B]:List RTm).getD 0 bV)),(73,qS D ns.length x),(74,qS F z.length X),(75,qS C y.length U),(76,iV 1),(77,qT),(78,.tuple #[qS l e.length c1,iV ((cM ix fs ws d j).1)]),(67,.tuple #[qS l e.length c1,iV ((cM ix fs ws d j).1)]),(79,qS l e.length c1),(80,iV ((cM ix fs ws d j).1)),(18,qS l e.length c1),(19,iV ((cM ix fs ws d j).1)),(81,iV ((cM ix fs ws d j).1)),(82,qF),(84,qS (sB p) ((([(sZ:Value),(sZ:Value)]:List Value)).length) ((([(sZ:Value),(sZ:Value)]:List Value)).length)),(85,iV 0),(86,qS l e.length c1),(87,qP p (0+0*1)),(65,iV 0),(66,iV 1)] ?_))));replace a:=a.to [⟨u,31,bF ⟨op,n,Q,S,H,M,V,I,L,s,A,1,c⟩⟩] [⟨36,1,sB p,(([(sZ:Value),(sZ:Value)]:List Value)).length,(([(sZ:Value),(sZ:Value)]:List Value)).length,(([(sZ:Value),(sZ:Value)]:List Value).set 0 (qS l e.length c1:Value)).flatMap vc⟩];refine cN (cQ (aa a [.c,.v (qP u 6),.o (qS A 1 c) 0 6 1,.v (iV 1),.v qF] (ah (CG.exit ?_))))
  show CG _ _ _ _ _ _ _ _
  refine cQ (cR 14 [] mixed a ao ?_);refine eV 0 88 (pB u) (eO 1 89 [(0,0,1)] (iV op) a (eV 2 90 (qP u 1) (eO 3 91 [(0,1,1)] (iV n) a (eV 4 92 (qS (sB p) ((([(sZ:Value),(sZ:Value)]:List Value)).length) ((([(sZ:Value),(sZ:Value)]:List Value)).length)) (eX 5 93 (sB p) ((([(sZ:Value),(sZ:Value)]:List Value)).length) ((([(sZ:Value),(sZ:Value)]:List Value)).length) 1 0 0 rfl (EO (ty:=36) (sz:=1) (c:=(([(sZ:Value),(sZ:Value)]:List Value)).length) (m:=(([(sZ:Value),(sZ:Value)]:List Value)).length) (b:=p) (cs:=(([(sZ:Value),(sZ:Value)]:List Value).set 0 (qS l e.length c1:Value)).flatMap vc) 6 94 0 (qS l e.length c1) ([qS l e.length c1]) a (fw (f:=vc) (sz:=1) (fun _=>rfl) undef (([(sZ:Value),(sZ:Value)]:List Value).set 0 (qS l e.length c1:Value)) 0 oM) (eV 7 95 (qS (sB p) ((([(sZ:Value),(sZ:Value)]:List Value)).length) ((([(sZ:Value),(sZ:Value)]:List Value)).length)) (eX 8 96 (sB p) ((([(sZ:Value),(sZ:Value)]:List Value)).length) ((([(sZ:Value),(sZ:Value)]:List Value)).length) 1 1 1 rfl (EO (ty:=36) (sz:=1) (c:=(([(sZ:Value),(sZ:Value)]:List Value)).length) (m:=(([(sZ:Value),(sZ:Value)]:List Value)).length) (b:=p) (cs:=(([(sZ:Value),(sZ:Value)]:List Value).set 0 (qS l e.length c1:Value)).flatMap vc) 9 97 0 (sZ) ([sZ]) a (fw (f:=vc) (sz:=1) (fun _=>rfl) undef (([(sZ:Value),(sZ:Value)]:List Value).set 0 (qS l e.length c1:Value)) 1 oM) (eV 10 98 qT (eC 11 99 a (fun _ _ a=>nt op n l c1 (cM ix fs ws d j).2 e none 0 [] [] W (nR _) 3000 1000000 kD kD kD hop (fun _=>hn) (k7 Y oM) (fun h_=>absurd h_ oM) hu1 hv1 (fun i=>by rw[dK];exact iE kD) _ _ a.g a.f.2.1 a.f.1 SlO.nil RTs.nil) ?_)))))))))));rintro _ _ _ _ _ a ⟨Ar,cr,tr,rfl,hcr,hAr,hTr⟩;replace a:=((a.aS hAr).aT hTr);refine eV 12 100 (qS Ar tr.length cr) (eV 13 101 (iV (bJ op n ((cM ix fs ws d j).2.getD 0 0) (([]:List Rat).getD 0 0))) (bU a (fun _ _ a=>tV 14 12 (qS Ar tr.length cr) (tV 15 13 (iV (bJ op n ((cM ix fs ws d j).2.getD 0 0) (([]:List Rat).getD 0 0))) (tN (bH [(12,qS Ar tr.length cr),(13,iV (bJ op n ((cM ix fs ws d j).2.getD 0 0) (([]:List Rat).getD 0 0)))] ?_))))));exact kX (a.ret [] (.tuple #[qS Ar tr.length cr,iV (bJ op n ((cM ix fs ws d j).2.getD 0 0) (([]:List Rat).getD 0 0))]) (by rw[xP oM oM,pI oM rfl];exact ⟨_,_,tr,rfl,hcr,a.f.2.1,a.f.1⟩))
 have zb:=aI za;exact lB 82 za (am (aa a dl (ae a [] (.tuple #[sZ,iV ((cM ix fs ws d j).1)]) (by rw[xP oM oM,pZ oM];exact ⟨none,0,[],rfl,nR _,SlO.nil,RTs.nil⟩))))
theorem Jc  (ok:ByteArray->Prop)(ix:ByteArray->Nat)(fs ws:List Rat)(J:Z9)(B:Nat)(ns:List ByteArray)(L:Z9)(Y:Nat)(D:List RT)(I:Z9)(W:Nat)(C:List RT)(hfl:fs.length=ns.length)(hwl:ws.length=ns.length)(hnl:ns.length<=1000)(d:Nat)(ih:∀ (r:RTm) (t:Tm) (w:World) (h:Hp),G w h->RmH d h r t->WfT1 ok d t->ce d t<=1000->SlO 1 bD ⟨#[]⟩ h J ns->Sr L D h->RTs h D fs->Sr I C h->RTs h C ws->Calls Tryz.prog 28 #[bK r,.slice J ns.length B,.slice L D.length Y,.slice I C.length W,iV 1,.bool true] w (Ret w h (fun v h1=>∃ (A_:Z9)(c_:Nat)(ts_:List RT),v=.tuple #[.slice A_ ts_.length c_,iV (cM ix fs ws d t).1]/\ts_.length<=c_/\Sr A_ ts_ h1/\RTs h1 ts_ (cM ix fs ws d t).2)))(op n:Int)(U:Bool)(V:Z9)(M S:Nat)(X:Z9)(O Q:Nat)(q:Rat)(s:ByteArray)(A:Z9)(c:Nat)(F:RTm)(p:Tm)(hw1:WfT1 ok d p)(hg1:ce d p<=1000)(hv1:∀ i,LQ 1000000 ((cM ix fs ws d p).2.getD i 0))(hu1:LQ 3000 ((cM ix fs ws d p).2.getD 0 0))(H:RTm)(u:Tm)(hw2:WfT1 ok d u)(hg2:ce d u<=1000)(hv2:∀ i,LQ 1000000 ((cM ix fs ws d u).2.getD i 0))(hu2:LQ 3000 ((cM ix fs ws d u).2.getD 0 0))(hop:3<=op/\op<=13)(har:fu op=2)(hn : -12<=n/\n<=12)(w:World)(h:Hp)(g:G w h)(hK:SlO 7 bF bV h A ([F,H]:List RTm))(hr1:RmH d h F p)(hr2:RmH d h H u)(hN:SlO 1 bD ⟨#[]⟩ h J ns)(hF:Sr L D h)(hTf:RTs h D fs)(hW_:Sr I C h)(hTw:RTs h C ws):CR 28 #[bK ⟨op,n,U,V,M,S,X,O,Q,s,A,2,c⟩,.slice J ns.length B,.slice L D.length Y,.slice I C.length W,iV 1,.bool true] w h (fun v h1=>∃ (A_:Z9)(c_:Nat)(ts_:List RT),v=.tuple #[.slice A_ ts_.length c_,iV (cM ix fs ws (d+1) (.mk op n q s ([p,u]:List Tm))).1]/\ts_.length<=c_/\Sr A_ ts_ h1/\RTs h1 ts_ (cM ix fs ws (d+1) (.mk op n q s ([p,u]:List Tm))).2):=by
 have a:=(((((((((sS g).aS hK).add (K:=fun h_=>RmH d h_ F p) hr1).add (K:=fun h_=>RmH d h_ H u) hr2).aS hN).aS hF).aT hTf).aS hW_).aT hTw);have hln:([F,H]:List RTm).length=2:=rfl;have hac:=aE op;refine go Tryz.func28 [(0,bK ⟨op,n,U,V,M,S,X,O,Q,s,A,2,c⟩),(1,qS J ns.length B),(2,qS L D.length Y),(3,qS I C.length W),(4,iV 1),(5,qT)] rfl (ax (lA 6 31 (bF ⟨op,n,U,V,M,S,X,O,Q,s,A,2,c⟩) a (fun z w2 h3 a=>lL a aD (ag (aa a [.v (pB z),.o (iV op) 0 0 1] (aZ (ax ?_)))))));have hb4:((op:Int) == (1:Int))=false:=eU oM;have bk:=aj hb4;refine lB 23 hb4 (lL a ac (ah (ax ?_)));have Z:((op:Int) == (2:Int))=false:=eU oM;have bf:=aj Z;refine lB 30 Z (lL a ac (ah (cK (ax (HO 59 36 1 vc ([(sZ:Value),(sZ:Value)]:List Value) a (fun x w7 h8 a=>lL a ac ?_))))));have bm:(([(sZ:Value),(sZ:Value)]:List Value)).length=2:=rfl;refine ag (aa a ac (aZ (cU ?_)));refine cN (cQ (aa a [.c,.v (qP z 6),.o (qS A 2 c) 0 6 1,.v (iV 2),.v qT] (am (cK (cQ (kZ (aa a [.v (qP z 6),.o (qS A 2 c) 0 6 1,.c] (lX 71 A 2 c 7 0 0 ((a.f.q.r.2.1).ok oM) ?_))))))));refine lH 72 (bK (([F,H]:List RTm).getD 0 bV)) a ((a.f.q.r.2.1).el 0 oM) (lL a IL (lC 78 a (ih (([F,H]:List RTm).getD 0 bV) p _ _ a.g a.f.q.r.1 hw1 hg1 a.f.q.1 a.f.r.2.1 a.f.r.1 a.f.2.1 a.f.1) ?_));rintro _ _ _ a ⟨l,c1,e,rfl,bd,hS1,hT1⟩;replace a:=((a.aS hS1).aT hT1);refine lL a [.c,.v (qS l e.length c1),.v (iV ((cM ix fs ws d p).1)),.c,.c] (ag (aa a ac ?_));cases za:(((cM ix fs ws d p).1:Int) != (0:Int))
 .
  have zd:=aJ za;refine lB 82 za (ah (cK (kQ (lL a dl (lX 87 (sB x) ((([(sZ:Value),(sZ:Value)]:List Value)).length) ((([(sZ:Value),(sZ:Value)]:List Value)).length) 1 0 0 rfl ?_)))));refine Hh (ty:=36) (c:=(([(sZ:Value),(sZ:Value)]:List Value)).length) (b:=x) 0 0 0 ([qS l e.length c1]) ([(sZ:Value),(sZ:Value)]:List Value) vc 1 undef (qS l e.length c1:Value) a oM (fun _ a=>?_);replace a:=a.to [⟨z,31,bF ⟨op,n,U,V,M,S,X,O,Q,s,A,2,c⟩⟩] [⟨36,1,sB x,(([(sZ:Value),(sZ:Value)]:List Value)).length,(([(sZ:Value),(sZ:Value)]:List Value)).length,(([(sZ:Value),(sZ:Value)]:List Value).set 0 (qS l e.length c1:Value)).flatMap vc⟩];have bl:(([(sZ:Value),(sZ:Value)]:List Value).set 0 (qS l e.length c1:Value)).length=2:=rfl;refine lN (kQ (lL a [.c,.v (iV 1),.c] (lD (CL.to [(1,qS J ns.length B),(2,qS L D.length Y),(3,qS I C.length W),(4,iV 1),(5,qT),(6,pB z),(12,sZ),(13,iV 0),(16,qS (sB x) ((([(sZ:Value),(sZ:Value)]:List Value)).length) ((([(sZ:Value),(sZ:Value)]:List Value)).length)),(17,iV 1),(60,iV 0),(61,qP z 6),(62,qS A 2 c),(63,iV 2),(64,qT),(68,qP z 6),(69,qS A 2 c),(70,iV 0),(71,.pointer (some ⟨(aB A),aO A+0*7,none⟩)),(72,bK (([F,H]:List RTm).getD 0 bV)),(73,qS J ns.length B),(74,qS L D.length Y),(75,qS I C.length W),(76,iV 1),(77,qT),(78,.tuple #[qS l e.length c1,iV ((cM ix fs ws d p).1)]),(67,.tuple #[qS l e.length c1,iV ((cM ix fs ws d p).1)]),(79,qS l e.length c1),(80,iV ((cM ix fs ws d p).1)),(18,qS l e.length c1),(19,iV ((cM ix fs ws d p).1)),(81,iV ((cM ix fs ws d p).1)),(82,qF),(84,qS (sB x) ((([(sZ:Value),(sZ:Value)]:List Value)).length) ((([(sZ:Value),(sZ:Value)]:List Value)).length)),(85,iV 0),(86,qS l e.length c1),(87,qP x (0+0*1)),(65,iV 0),(66,iV 1)] ?_))));replace a:=a.to [⟨z,31,bF ⟨op,n,U,V,M,S,X,O,Q,s,A,2,c⟩⟩] [⟨36,1,sB x,(([(sZ:Value),(sZ:Value)]:List Value)).length,(([(sZ:Value),(sZ:Value)]:List Value)).length,(([(sZ:Value),(sZ:Value)]:List Value).set 0 (qS l e.length c1:Value)).flatMap vc⟩];refine cN (cQ (aa a [.c,.v (qP z 6),.o (qS A 2 c) 0 6 1,.v (iV 2),.v qT] (am (cK (cQ (kZ (aa a [.v (qP z 6),.o (qS A 2 c) 0 6 1,.c] (lX 71 A 2 c 7 1 1 ((a.f.q.q.2.1).ok oM) ?_))))))));refine lH 72 (bK (([F,H]:List RTm).getD 1 bV)) a ((a.f.q.q.2.1).el 1 oM) (lL a IL (lC 78 a (ih (([F,H]:List RTm).getD 1 bV) u _ _ a.g a.f.q.r.2.1 hw2 hg2 a.f.q.r.1 a.f.q.2.1 a.f.q.1 a.f.r.2.1 a.f.r.1) ?_));rintro _ _ _ a ⟨y,c2,j,rfl,bb,hS2,hT2⟩;replace a:=((a.aS hS2).aT hT2);refine lL a [.c,.v (qS y j.length c2),.v (iV ((cM ix fs ws d u).1)),.c,.c] (ag (aa a ac ?_));cases zb:(((cM ix fs ws d u).1:Int) != (0:Int))
  .
   have ze:=aJ zb;refine lB 82 zb (ah (cK (kQ (lL a dl (lX 87 (sB x) ((([(sZ:Value),(sZ:Value)]:List Value)).length) ((([(sZ:Value),(sZ:Value)]:List Value)).length) 1 1 1 rfl ?_)))));refine Hh (ty:=36) (c:=(([(sZ:Value),(sZ:Value)]:List Value)).length) (b:=x) 0 1 0 ([qS y j.length c2]) (([(sZ:Value),(sZ:Value)]:List Value).set 0 (qS l e.length c1:Value)) vc 1 undef (qS y j.length c2:Value) a oM (fun _ a=>?_);replace a:=a.to [⟨z,31,bF ⟨op,n,U,V,M,S,X,O,Q,s,A,2,c⟩⟩] [⟨36,1,sB x,(([(sZ:Value),(sZ:Value)]:List Value)).length,(([(sZ:Value),(sZ:Value)]:List Value)).length,((([(sZ:Value),(sZ:Value)]:List Value).set 0 (qS l e.length c1:Value)).set 1 (qS y j.length c2:Value)).flatMap vc⟩];have bn:((([(sZ:Value),(sZ:Value)]:List Value).set 0 (qS l e.length c1:Value)).set 1 (qS y j.length c2:Value)).length=2:=rfl;refine lN (kQ (lL a [.c,.v (iV 2),.c] (lD (CL.to [(1,qS J ns.length B),(2,qS L D.length Y),(3,qS I C.length W),(4,iV 1),(5,qT),(6,pB z),(12,sZ),(13,iV 0),(16,qS (sB x) ((([(sZ:Value),(sZ:Value)]:List Value)).length) ((([(sZ:Value),(sZ:Value)]:List Value)).length)),(17,iV 2),(60,iV 1),(61,qP z 6),(62,qS A 2 c),(63,iV 2),(64,qT),(68,qP z 6),(69,qS A 2 c),(70,iV 1),(71,.pointer (some ⟨(aB A),aO A+1*7,none⟩)),(72,bK (([F,H]:List RTm).getD 1 bV)),(73,qS J ns.length B),(74,qS L D.length Y),(75,qS I C.length W),(76,iV 1),(77,qT),(78,.tuple #[qS y j.length c2,iV ((cM ix fs ws d u).1)]),(67,.tuple #[qS y j.length c2,iV ((cM ix fs ws d u).1)]),(79,qS y j.length c2),(80,iV ((cM ix fs ws d u).1)),(18,qS y j.length c2),(19,iV ((cM ix fs ws d u).1)),(81,iV ((cM ix fs ws d u).1)),(82,qF),(84,qS (sB x) ((([(sZ:Value),(sZ:Value)]:List Value)).length) ((([(sZ:Value),(sZ:Value)]:List Value)).length)),(85,iV 1),(86,qS y j.length c2),(87,qP x (0+1*1)),(65,iV 1),(66,iV 2)] ?_))));replace a:=a.to [⟨z,31,bF ⟨op,n,U,V,M,S,X,O,Q,s,A,2,c⟩⟩] [⟨36,1,sB x,(([(sZ:Value),(sZ:Value)]:List Value)).length,(([(sZ:Value),(sZ:Value)]:List Value)).length,((([(sZ:Value),(sZ:Value)]:List Value).set 0 (qS l e.length c1:Value)).set 1 (qS y j.length c2:Value)).flatMap vc⟩];refine cN (cQ (aa a [.c,.v (qP z 6),.o (qS A 2 c) 0 6 1,.v (iV 2),.v qF] (ah (CG.exit ?_))))
   show CG _ _ _ _ _ _ _ _
   refine cQ (cR 14 [] mixed a ao ?_);refine eV 0 88 (pB z) (eO 1 89 [(0,0,1)] (iV op) a (eV 2 90 (qP z 1) (eO 3 91 [(0,1,1)] (iV n) a (eV 4 92 (qS (sB x) ((([(sZ:Value),(sZ:Value)]:List Value)).length) ((([(sZ:Value),(sZ:Value)]:List Value)).length)) (eX 5 93 (sB x) ((([(sZ:Value),(sZ:Value)]:List Value)).length) ((([(sZ:Value),(sZ:Value)]:List Value)).length) 1 0 0 rfl (EO (ty:=36) (sz:=1) (c:=(([(sZ:Value),(sZ:Value)]:List Value)).length) (m:=(([(sZ:Value),(sZ:Value)]:List Value)).length) (b:=x) (cs:=((([(sZ:Value),(sZ:Value)]:List Value).set 0 (qS l e.length c1:Value)).set 1 (qS y j.length c2:Value)).flatMap vc) 6 94 0 (qS l e.length c1) ([qS l e.length c1]) a (fw (f:=vc) (sz:=1) (fun _=>rfl) undef ((([(sZ:Value),(sZ:Value)]:List Value).set 0 (qS l e.length c1:Value)).set 1 (qS y j.length c2:Value)) 0 oM) (eV 7 95 (qS (sB x) ((([(sZ:Value),(sZ:Value)]:List Value)).length) ((([(sZ:Value),(sZ:Value)]:List Value)).length)) (eX 8 96 (sB x) ((([(sZ:Value),(sZ:Value)]:List Value)).length) ((([(sZ:Value),(sZ:Value)]:List Value)).length) 1 1 1 rfl (EO (ty:=36) (sz:=1) (c:=(([(sZ:Value),(sZ:Value)]:List Value)).length) (m:=(([(sZ:Value),(sZ:Value)]:List Value)).length) (b:=x) (cs:=((([(sZ:Value),(sZ:Value)]:List Value).set 0 (qS l e.length c1:Value)).set 1 (qS y j.length c2:Value)).flatMap vc) 9 97 0 (qS y j.length c2) ([qS y j.length c2]) a (fw (f:=vc) (sz:=1) (fun _=>rfl) undef ((([(sZ:Value),(sZ:Value)]:List Value).set 0 (qS l e.length c1:Value)).set 1 (qS y j.length c2:Value)) 1 oM) (eV 10 98 qT (eC 11 99 a (fun _ _ a=>nt op n l c1 (cM ix fs ws d p).2 e y c2 (cM ix fs ws d u).2 j bd bb 3000 1000000 kD kD kD hop (fun _=>hn) (k7 hw1 oM) (fun _=>k7 hw2 oM) hu1 hv1 hv2 _ _ a.g a.f.r.2.1 a.f.r.1 a.f.2.1 a.f.1) ?_)))))))))));rintro _ _ _ _ _ a ⟨Ar,cr,tr,rfl,hcr,hAr,hTr⟩;replace a:=((a.aS hAr).aT hTr);refine eV 12 100 (qS Ar tr.length cr) (eV 13 101 (iV (bJ op n ((cM ix fs ws d p).2.getD 0 0) ((cM ix fs ws d u).2.getD 0 0))) (bU a (fun _ _ a=>tV 14 12 (qS Ar tr.length cr) (tV 15 13 (iV (bJ op n ((cM ix fs ws d p).2.getD 0 0) ((cM ix fs ws d u).2.getD 0 0))) (tN (bH [(12,qS Ar tr.length cr),(13,iV (bJ op n ((cM ix fs ws d p).2.getD 0 0) ((cM ix fs ws d u).2.getD 0 0)))] ?_))))));exact kX (a.ret [] (.tuple #[qS Ar tr.length cr,iV (bJ op n ((cM ix fs ws d p).2.getD 0 0) ((cM ix fs ws d u).2.getD 0 0))]) (by rw[uM oM oM,pI oM oM];exact ⟨_,_,tr,rfl,hcr,a.f.2.1,a.f.1⟩))
  have ze:=aI zb;exact lB 82 zb (am (aa a dl (ae a [] (.tuple #[sZ,iV ((cM ix fs ws d u).1)]) (by rw[uM oM oM,ue oM oM];exact ⟨none,0,[],rfl,nR _,SlO.nil,RTs.nil⟩))))
 have zd:=aI za;exact lB 82 za (am (aa a dl (ae a [] (.tuple #[sZ,iV ((cM ix fs ws d p).1)]) (by rw[uM oM oM,pZ oM];exact ⟨none,0,[],rfl,nR _,SlO.nil,RTs.nil⟩))))
def SeB (W d:Nat)(x:Int × List Rat):Prop:=LQ (3*W-2) (x.2.getD 0 0)/\LQ (40*(W*d)) (x.2.getD 1 0)
theorem SeB.du {W d:Nat}{x:Int × List Rat}(h:SeB W d x)(b:1<=W)(a:1<=d):B6 W d (x.1,x.2.getD 0 0,[x.2.getD 1 0]):=⟨h.1,fun i=>by
 match i with
 | 0=>exact h.2
 | i+1=>show LQ _ (([]:List Rat).getD i 0);rw[dK];exact iE (by have:1<=W*d:=Nat.mul_pos b a;omega)⟩
theorem EK {op n:Int}{wa wb d:Nat}{x y:Int × List Rat}(f:1<=wa)(c:1<=d)(o:SeB wa d x)(j:1<=wb->SeB wb d y)(u:fu op=2->1<=wb)(h1:fu op=1->wb=0/\y=(0,[]))(z:3<=op/\op<=13)(hn : -12<=n/\n<=12)(ha:fu op=1\/fu op=2):SeB (dL op n*(wa+wb)) (d+1) (p9 op n x y):=by
  have w1:=dt op n;have B:wa+wb<=dL op n*(wa+wb):=MS _ w1;have hz:∀ e:Int,SeB (dL op n*(wa+wb)) (d+1) (e,([]:List Rat)):=fun e=>⟨by show LQ _ (([]:List Rat).getD 0 0);rw[dK];exact iE oM,by show LQ _ (([]:List Rat).getD 1 0);rw[dK];exact iE (by have:1<=dL op n*(wa+wb)*(d+1):=Nat.mul_pos oM (MB d);omega)⟩
  by_cases c1:x.1=0
  . by_cases c2:y.1=0
    . rw[pI c1 c2]
      by_cases c3:bJ op n (x.2.getD 0 0) (y.2.getD 0 0)=0
      . have k:B6 (dL op n*(wa+wb)) (d+1) (qW 1 op n (x.1,x.2.getD 0 0,[x.2.getD 1 0]) (if fu op=1 then (0,0,[]) else (y.1,y.2.getD 0 0,[y.2.getD 1 0]))):=by
          refine wx f (o.du f c) (fun h=>?_) u (fun h=>⟨(h1 h).1,by rw[if_pos h],by rw[if_pos h]⟩) z hn ha;rw[if_neg (fun e=>by have:=(h1 e).1;omega)];exact (j h).du h c
        have e:iC op n x.2 y.2=dM op n x.2 y.2:=if_pos c3
        show SeB _ _ (_,iC op n x.2 y.2)
        rw[e]
        rcases ha with h|h
        . rw[if_pos h] at k
          obtain ⟨_,a⟩:=h1 h;have b:y.2.getD 0 0=0:=by rw[a];rfl
          have p:y.2.getD 1 0=0:=by rw[a];rfl
          have l:bJ op n (x.2.getD 0 0) 0=0:=by have i:=c3;rw[b] at i;exact i
          rw[kJ (x:=(x.1,x.2.getD 0 0,[x.2.getD 1 0])) (y:=((0:Int),(0:Rat),([]:List Rat))) c1 rfl l] at k
          refine ⟨?_,?_⟩
          . show LQ _ (kO op n 0 (x.2.getD 0 0) (y.2.getD 0 0));rw[b];exact k.1
          . show LQ _ (Aa op n (x.2.getD 0 0) (y.2.getD 0 0)*x.2.getD 1 0+AP op (x.2.getD 0 0) (y.2.getD 0 0)*y.2.getD 1 0)
            rw[b,p];exact k.2 0
        . rw[if_neg oM,kJ c1 c2 c3] at k
          exact ⟨k.1,k.2 0⟩
      . have e:iC op n x.2 y.2=[]:=if_neg c3
        rw[e];exact hz _
    . rw[ue c1 c2];exact hz _
  . rw[pZ c1];exact hz _
section
variable {ok:ByteArray->Prop}{ix:ByteArray->Nat}{fs ws:List Rat}
theorem th (j:∀ i,LQ 1 (fs.getD i 0))(b:∀ i,LQ 1 (ws.getD i 0)):∀ {d:Nat} {t:Tm},WfT1 ok d t->1<=ce d t/\SeB (ce d t) d (cM ix fs ws d t)
  | d + 1,.mk op n q s ks,⟨h1,h2,o,h4,h5,h6,c,f,h9⟩=>by
    have C:=aE op;replace h1:fu op=(ks.length:Nat):=h1;replace o:LQ 1 q:=o;replace c : -12<=n:=c;replace f:n<=12:=f
    have y:∀ t:Tm,WfT1 ok d t->1<=d:=fun t x=>by
      cases d with
      | zero=>exact x.elim
      | succ d=>exact MB d
    rcases jH h1 with rfl|⟨t,rfl⟩|⟨t,u,rfl⟩
    . have e:ce (d+1) (.mk op n q s [])=1:=uK rfl
      rw[e];refine ⟨eb _,?_⟩
      simp only[NX] at h1
      by_cases o1:op=1
      . have e2:cM ix fs ws (d+1) (.mk op n q s [])=(0,[q,((0:Int):Rat)]):=if_pos o1
        rw[e2];exact ⟨o,by show LQ _ ((0:Int):Rat);exact (LQ.lit (z:=0) kD).mono oM⟩
      . have B:op=2:=by omega
        have e2:cM ix fs ws (d+1) (.mk op n q s [])=(0,[fs.getD (ix s) 0,ws.getD (ix s) 0]):=(if_neg o1).trans (if_pos B);rw[e2];exact ⟨j _,(b _).mono oM⟩
    . obtain ⟨i1,a⟩:=th j b (h9 0 (MB _))
      have l:=y _ (h9 0 (MB _));replace i1:1<=ce d t:=i1;replace a:SeB (ce d t) d (cM ix fs ws d t):=a
      simp only[tq,NX] at h1
      have e:ce (d+1) (.mk op n q s [t])=dL op n*(ce d t+0):=by rw[j4 (show [t].length≠0 from NW _)];show _*(0+ce d t)=_;rw[y8,Nat.add_zero]
      have w1:=dt op n;rw[e,xP oM oM];exact ⟨ep i1 (MS _ w1),EK i1 l a (fun h=>absurd h kD) oM (fun _=>⟨rfl,rfl⟩) oM ⟨c,f⟩ oM⟩
    . obtain ⟨i1,a⟩:=th j b (h9 0 (MB _))
      obtain ⟨p,j2⟩:=th j b (h9 1 (by show 1<2;decide));have l:=y _ (h9 0 (MB _));replace i1:1<=ce d t:=i1;replace a:SeB (ce d t) d (cM ix fs ws d t):=a;replace p:1<=ce d u:=p;replace j2:SeB (ce d u) d (cM ix fs ws d u):=j2
      simp only[tq,NX] at h1
      have e:ce (d+1) (.mk op n q s [t,u])=dL op n*(ce d t+ce d u):=by rw[j4 (show [t,u].length≠0 from NW _)];show _*(0+ce d t+ce d u)=_;rw[y8]
      have w1:=dt op n;rw[e,uM oM oM];exact ⟨ep oM (MS _ w1),EK i1 l a (fun _=>j2) (fun _=>p) oM oM ⟨c,f⟩ oM⟩
theorem FN:∀ {d:Nat} {t:Tm},WfT1 ok d t->∀ i,2<=i->(cM ix fs ws d t).2.getD i 0=0
  | d + 1,t,_,i,hi=>by
    by_cases o1:t.op=1
    . have e:cM ix fs ws (d+1) t=(0,[t.q,((0:Int):Rat)]):=if_pos o1
      rw[e];exact db (show 2<=i from hi)
    . by_cases o2:t.op=2
      . have e:cM ix fs ws (d+1) t=(0,[fs.getD (ix t.s) 0,ws.getD (ix t.s) 0]):=(if_neg o1).trans (if_pos o2)
        rw[e];exact db (show 2<=i from hi)
      . have e:cM ix fs ws (d+1) t=p9 t.op t.n _ _:=(if_neg o1).trans (if_neg o2)
        rw[e]
        generalize (if 0<t.ks.length then cM ix fs ws d (t.ks.getD 0 cY) else (0,[]))=x
        generalize (if 1<t.ks.length then cM ix fs ws d (t.ks.getD 1 cY) else (0,[]))=y
        by_cases c1:x.1=0
        . by_cases c2:y.1=0
          . rw[pI c1 c2]
            show (iC _ _ _ _).getD i 0=0
            unfold iC;split
            . exact db (show 2<=i from hi)
            . exact dK i
          . rw[ue c1 c2];exact dK i
        . rw[pZ c1];exact dK i
end
theorem IN (ok:ByteArray->Prop)(ix:ByteArray->Nat)(fs ws:List Rat)(D:Z9)(e:Nat)(ns:List ByteArray)(F:Z9)(I:Nat)(u:List RT)(C:Z9)(H:Nat)(o:List RT)(l:fs.length=ns.length)(j:ws.length=ns.length)(f:ns.length<=1000)(hq:∀ i,LQ 1 (fs.getD i 0))(L:∀ i,LQ 1 (ws.getD i 0))(z:∀ s,ok s->(∃ i,i<ns.length/\ns.getD i ⟨#[]⟩=s)/\∀ k,k<ns.length->ns.getD k ⟨#[]⟩=s->(∀ i,i<k->ns.getD i ⟨#[]⟩≠s)->ix s=k):∀ (d:Nat) (r:RTm) (t:Tm) (w:World) (h:Hp),d<=24->G w h->RmH d h r t->WfT1 ok d t->ce d t<=1000->SlO 1 bD ⟨#[]⟩ h D ns->Sr F u h->RTs h u fs->Sr C o h->RTs h o ws->Calls Tryz.prog 28 #[bK r,.slice D ns.length e,.slice F u.length I,.slice C o.length H,iV 1,.bool true] w (Ret w h (fun v h1=>∃ (A_:Z9)(c_:Nat)(ts_:List RT),v=.tuple #[.slice A_ ts_.length c_,iV (cM ix fs ws d t).1]/\ts_.length<=c_/\Sr A_ ts_ h1/\RTs h1 ts_ (cM ix fs ws d t).2))
  | 0,_,_,_,_,_,_,x,_,_,_,_,_,_,_=>x.elim
  | d + 1,p,t,w,h,hd,g,x,wf,hw,k1,k2,k3,k4,k5=>by
    obtain ⟨op,n,b,Q,S,X,O,W,U,q,s,A,c,ps,ks,rfl,rfl,hZ,hc,hK,a⟩:=x.open;obtain ⟨w1,w2,w3,w4,w5,w6,M,V,K⟩:=wf;replace w1:fu op=(ks.length:Nat):=w1;replace M : -12<=n:=M;replace V:n<=12:=V;replace K:∀ i,i<ks.length->WfT1 ok d (ks.getD i cY):=K;have hac:=aE op;have ih:=fun p t w h=>IN ok ix fs ws D e ns F I u C H o l j f hq L z d p t w h oM
    have J:∀ t,WfT1 ok d t->ce d t<=1000->(∀ i,LQ 1000000 ((cM ix fs ws d t).2.getD i 0))/\LQ 3000 ((cM ix fs ws d t).2.getD 0 0):=fun t q1 q2=>by
      obtain ⟨_,q3,q4⟩:=th (ix:=ix) hq L q1;have q5:=Md q2 (show d<=24 by omega);refine ⟨fun i=>?_,q3.mono oM⟩
      match i with
      | 0=>exact q3.mono oM
      | 1=>exact q4.mono oM
      | i+2=>rw[FN q1 (i+2) oM];exact iE kD
    rcases jH w1 with rfl|⟨t1,rfl⟩|⟨t1,t2,rfl⟩
    . simp only[NX] at w1
      by_cases o1:op=1
      . subst o1
        have e0:ps=[]:=y6 a.len;subst e0;exact JF ok ix fs ws D e ns F I u C H o l j f d n b Q S X O W U q s A c w h g hZ k1 k2 k3 k4 k5
      . obtain rfl:op=2:=by omega
        exact I8 ok ix fs ws D e ns F I u C H o l j f d n b Q S X O W U q s A c ps [] (z s (w4 rfl)).2 (z s (w4 rfl)).1 w h g hZ k1 k2 k3 k4 k5
    . obtain ⟨Y,rfl⟩:=N7.1 (show ps.length=1 from a.len)
      simp only[tq,NX] at w1
      have y:WfT1 ok d t1:=K 0 (MB _);have B:ce d t1<=1000:=pA hw;exact IC ok ix fs ws D e ns F I u C H o l j f d ih op n b Q S X O W U q s A c Y t1 y B (J t1 y B).1 (J t1 y B).2 oM oM ⟨M,V⟩ w h g hK (a.at_ 0 (MB _)) k1 k2 k3 k4 k5
    . obtain ⟨Y,p2,rfl⟩:=oX (show ps.length=2 from a.len)
      simp only[tq,NX] at w1
      have y:WfT1 ok d t1:=K 0 (MB _);have f2:WfT1 ok d t2:=K 1 (by show 1<2;decide);obtain ⟨B,Z⟩:=qm hw;exact Jc ok ix fs ws D e ns F I u C H o l j f d ih op n b Q S X O W U q s A c Y t1 y B (J t1 y B).1 (J t1 y B).2 p2 t2 f2 Z (J t2 f2 Z).1 (J t2 f2 Z).2 oM oM ⟨M,V⟩ w h g hK (a.at_ 0 (MB _)) (a.at_ 1 (by show 1<2;decide)) k1 k2 k3 k4 k5
abbrev pn (q:Rat)(A:Z9)(m c:Nat):Value:=.agg #[.bool (af q.num),.int .u64 (lo (ab q.num)),.string (hi (ab q.num)),.int .u64 (lo (qd q)),.string (hi (qd q)),.slice A m c]
def d9 (f:Nat->Rat)(m k:Nat):List Rat:=(ov m).map fun i=>if i<k then f i else 0
theorem jd (f:Nat->Rat)(m:Nat):zY m (0:Rat)=d9 f m 0:=by
 unfold d9
 refine j6 (by simp) fun i=>?_
 by_cases hi:i<m
 ·simp[hi]
 ·rw[db (by simp;omega),db (by simp;omega)]
theorem fW {f:Nat->Rat}{m k:Nat}(hk:k<m):(d9 f m k).set k (f k)=d9 f m (k+1):=by
 unfold d9
 refine j6 (by simp) fun i=>?_
 by_cases hi:i<m
 ·rw[eo (by simpa using hk)]
  by_cases e:i=k
  ·subst e;simp[hi]
  ·rw[if_neg e];simp[hi]
   by_cases h2:i<k
   ·rw[if_pos h2,if_pos oM]
   ·rw[if_neg h2,if_neg oM]
 ·rw[db (by simp;omega),db (by simp;omega)]
theorem gH (f:Nat->Rat)(m:Nat):((ov m).map fun i=>f i).length=m:=by simp
theorem wE (m i:Nat):(fD m i).length=m:=by unfold fD;simp
theorem fV (f:Nat->Rat)(m:Nat):d9 f m m=(ov m).map fun i=>f i:=by
 unfold d9
 refine List.map_congr_left fun i hi=>?_
 rw[if_pos (List.mem_range.1 hi)]
theorem jJ (j:Z9)(m e:Nat)(K:m<=1000)(q:Rat)(hk:Hp)(w:World)(h:Hp)(g:G w h)(hz:hk.size<=h.size):CR 296 #[.agg #[.slice j m e],qv q] w h (fun v h1=>∃ z,v=pn q (sB z) m m/\Nw hk.size h1 z 44 ((zY m (0:Rat)).flatMap qc)):=by
 have a:=sS g;refine go Tryz.func296 [(0,.agg #[qS j m e]),(1,qv q)] rfl (ax (lA 2 94 ([qS j m e]) a (fun y w2 H a=>lA 3 44 (qc q) a (fun C F D a=>lA 4 59 ([qF,uV 0,eS,uV 0,eS,sZ]) a (fun B I J a=>ag (cR 6 [] mixed a ao ?_))))));refine eO 0 5 [(1,0,5)] (qv q) a (eV 1 6 (pB y) (eO 2 7 [(2,0,1)] (qS j m e) a (eV 3 8 (nV m) (eK 4 9 44 m 5 56 ca qc 0 a (fun p _ _ a=>?_)))));have x:(zY m 0).length=m:=by simp
 refine eV 5 10 (qY q (sB p) m m) (bU a (fun _ _ a=>tP 6 1 0 (qZ q (sB p) m m) a (fun _ a=>tN (kX ?_))));obtain ⟨_,a,i,c,u⟩:=a.pub 0;replace a:=(a.to [⟨B,59,qZ q (sB p) m m⟩,⟨C,44,qc q⟩,⟨y,94,[qS j m e]⟩] []).aS (SlO.of_flat (sz:=5) (f:=qc) (d:=0) (b:=p) (o:=0) (l:=zY m 0) (fun _=>rfl) i);exact a.ret [(0,0,6)] (qY q (sB p) m m) (⟨_,rfl,ep hz c,by decide,u⟩)
theorem jI (c:Z9)(m a:Nat)(p:m<=1000)(q:Rat)(w:World)(h:Hp)(g:G w h):Calls Tryz.prog 296 #[.agg #[.slice c m a],qv q] w (Ret w h (fun v h1=>∃ i,v=pn (q) (sB i) (zY m (0:Rat)).length m/\Sq (sB i) (zY m (0:Rat)) h1)) :=
 (jJ c m a p q h w h g (nR _)).mono fun e w' ⟨v,j,e1,u,b,e2,n⟩=>⟨v,j,e1,u,b,by rw[e2,NL],SlO.of_flat (sz:=5) (f:=qc) (d:=0) (b:=b) (o:=0) (l:=zY m (0:Rat)) (fun _=>rfl) n.seg0⟩
theorem Ho (y:Z9)(m x:Nat)(hm:m<=1000)(K D:Nat)(hK1:1<=K)(hKD:K<=1000000)(hD:D<=20000000)(a:Rat)(ga:List Rat)(p:Z9)(B:Nat)(hla:ga.length=m)(ha:LQ K a)(U:∀ i,LQ D (ga.getD i 0))(b:Rat)(gb:List Rat)(u:Z9)(z:Nat)(hlb:gb.length=m)(hb:LQ K b)(O:∀ i,LQ D (gb.getD i 0))(w:World)(h:Hp)(g:G w h)(J:Sq p ga h)(M:Sq u gb h)(tb:Tab h):CR 291 #[.agg #[.slice y m x],qY a p ga.length B,qY b u gb.length z] w h (fun v h1=>∃ bk,v=pn (a+b) (sB bk) ((ov m).map fun i=>ga.getD i 0+gb.getD i 0).length m/\Sq (sB bk) ((ov m).map fun i=>ga.getD i 0+gb.getD i 0) h1):=by
 have e:=((((sS g).aS J).aS M).aB tb);refine go Tryz.func291 [(0,.agg #[qS y m x]),(1,qY a p ga.length B),(2,qY b u gb.length z)] rfl (ax (lA 3 94 ([qS y m x]) e (fun Q w2 h3 e=>lA 4 59 (qZ a p ga.length B) e (fun F w5 h6 e=>lA 5 59 (qZ b u gb.length z) e (fun C w8 h9 e=>lA 6 59 ([qF,uV 0,eS,uV 0,eS,sZ]) e (fun I _ _ e=>ag ?_))))));have Y:=e;refine cR 8 [⟨7,7,.cells (MU [qF,uV 0,eS,uV 0,eS,sZ]) 59 (0,0)⟩] mixed e (bw (ee kR (fun _ _=>by kernel_rfl)) ao) (eO 0 9 [(3,0,1)] (.agg #[qS y m x]) e (eV 1 10 (pB F) (eO 2 11 [(2,0,5)] (qv a) e (eV 3 12 (pB C) (eO 4 13 [(1,0,5)] (qv b) e ?_)))));have bm:=LQ.add ha hb;refine au 5 14 e (fun _ _ e=>sq a b (LQ.mono ha oM) (LQ.mono hb oM) _ _ e.g e.f.1) (fun _ _ e=>eC 6 15 e (fun _ _ e=>jJ y m x hm (a+b) h _ _ e.g e.st.sz) ?_);rintro _ _ _ _ _ e ⟨j,rfl,hNn⟩;replace e:=(e.add (K:=fun S=>Nw h.size S j 44 ((zY m (0:Rat)).flatMap qc)) hNn);refine fL [] Y e 59 [qF,uV 0,eS,uV 0,eS,sZ] (fun _ _ H e=>tP 8 0 0 (qZ (a+b) (sB j) m m) e (fun _ e=>tN (cQ (ax ?_))));obtain ⟨zf,e⟩:=e.takeL (e.f.1).1 (e.f.1).2.2;replace e:=e.aS (J.gw e.st.up.gr.gw);replace e:=e.aS (M.gw e.st.up.gr.gw);replace e:=e.aB (tb.gw e.st.up.gr.gw);replace e:=e.to [⟨j,44,((zY m 0)).flatMap qc⟩,⟨H,59,qZ (a+b) (sB j) m m⟩,⟨I,59,[qF,uV 0,eS,uV 0,eS,sZ]⟩,⟨C,59,qZ b u gb.length z⟩,⟨F,59,qZ a p ga.length B⟩,⟨Q,94,[qS y m x]⟩] [];refine lL e [.v (qP H 5),.o (qS (sB j) m m) 1 5 1,.v (nV m),.c] (aZ ?_);refine bH _ (CG.loop (fun Z Γ w_=>∃ (k:Nat)(L:List Rat)(S:Hp),Z=m-k/\Γ=[(4,pB F),(5,pB C),(6,pB I),(7,pB H),(18,nV m),(19,nV k)]/\SS w h w_ S [⟨j,44,(L).flatMap qc⟩,⟨H,59,qZ (a+b) (sB j) m m⟩,⟨I,59,[qF,uV 0,eS,uV 0,eS,sZ]⟩,⟨C,59,qZ b u gb.length z⟩,⟨F,59,qZ a p ga.length B⟩,⟨Q,94,[qS y m x]⟩] [] [fun S=>Tab S,Sq u gb,Sq p ga]/\k<=m/\L.length=m/\L=d9 (fun i=>ga.getD i 0+gb.getD i 0) m k) _ ⟨0,zY m 0,zf,rfl,rfl,e.to _ _,My _,NL,(jd _ _)⟩ ?_);rintro _ _ _ ⟨k,L,_,bl,rfl,e,hk,hL1,hL⟩;refine ax ?_;cases W:(decide ((k:Int)<(m:Int)))
 .
  have zd:=oF W;refine lB 20 W (ag (dD (CG.exit ?_)))
  show CG _ _ _ _ _ _ _ _
  refine aa e [.o (qY (a+b) (sB j) m m) 1 0 6] (lP 2 0 (qZ (a+b) (sB j) m m) e (fun _ e=>lN (kX ?_)));have X:k=m:=by omega
  rw[X,fV] at hL
  subst hL;replace e:=e.to [⟨j,44,(((ov m).map fun i=>ga.getD i 0+gb.getD i 0)).flatMap qc⟩,⟨H,59,qZ (a+b) (sB j) m m⟩,⟨I,59,qZ (a+b) (sB j) m m⟩,⟨C,59,qZ b u gb.length z⟩,⟨F,59,qZ a p ga.length B⟩,⟨Q,94,[qS y m x]⟩] [];obtain ⟨_,e,V,bd,bb⟩:=e.pub 0;replace e:=(e.to [⟨H,59,qZ (a+b) (sB j) m m⟩,⟨I,59,qZ (a+b) (sB j) m m⟩,⟨C,59,qZ b u gb.length z⟩,⟨F,59,qZ a p ga.length B⟩,⟨Q,94,[qS y m x]⟩] []).aS (SlO.of_flat (sz:=5) (f:=qc) (d:=0) (b:=j) (o:=0) (l:=((ov m).map fun i=>ga.getD i 0+gb.getD i 0)) (fun _=>rfl) V);exact e.ret [(1,0,6)] (qY (a+b) (sB j) m m) (⟨_,by rw[gH],e.f.1⟩)
 have zd:=oT W;refine lB 20 W (ag (ct (cK (cQ (kZ (aa e aD (lN (cR 14 [] mixed e ao ?_))))))));refine eV 0 22 (qP H 5) (eO 1 23 [(1,5,1)] (qS (sB j) m m) e (eV 2 24 (nV k) (eV 3 25 (qP F 5) (eO 4 26 [(4,5,1)] (qS p ga.length B) e (eV 5 27 (nV k) (eX 6 28 p ga.length B 5 (k:Nat) k ((e.f.r.1).ok oM) (eH 7 29 (qv (ga.getD k 0)) e ((e.f.r.1).el k oM) (eV 8 30 (qP C 5) (eO 9 31 [(3,5,1)] (qS u gb.length z) e (eV 10 32 (nV k) (eX 11 33 u gb.length z 5 (k:Nat) k ((e.f.2.1).ok oM) (eH 12 34 (qv (gb.getD k 0)) e ((e.f.2.1).el k oM) ?_))))))))))));have bf:=LQ.add (U k) (O k);refine au 13 35 e (fun _ _ e=>sq (ga.getD k 0) (gb.getD k 0) (LQ.mono (U k) oM) (LQ.mono (O k) oM) _ _ e.g e.f.1) (fun _ _ e=>bU e (fun _ zg e=>tX 14 36 (sB j) m m 5 (k:Nat) k rfl (tW 15 0 L qc 5 k ((ga.getD k 0)+(gb.getD k 0)) e oM (fun _ e=>?_))));have ze:((L).set k ((ga.getD k 0)+(gb.getD k 0))).length=m:=by rw[Mg];exact hL1
 replace e:=e.to [⟨j,44,((L).set k ((ga.getD k 0)+(gb.getD k 0))).flatMap qc⟩,⟨H,59,qZ (a+b) (sB j) m m⟩,⟨I,59,[qF,uV 0,eS,uV 0,eS,sZ]⟩,⟨C,59,qZ b u gb.length z⟩,⟨F,59,qZ a p ga.length B⟩,⟨Q,94,[qS y m x]⟩] [];refine tN (kQ (bp 37 ((k:Nat)+1) (k+1) ?_));refine lL e ac (lD ?_);intro a_ ka;refine ⟨_,_,?_,⟨k+1,(L).set k ((ga.getD k 0)+(gb.getD k 0)),zg,rfl,rfl,e.to _ _,oM,ze,(by rw[hL];exact fW oM)⟩,ka.to _ kR⟩
 omega
theorem Eu (y:Z9)(m x:Nat)(hm:m<=1000)(K D:Nat)(hK1:1<=K)(hKD:K<=1000000)(hD:D<=20000000)(a:Rat)(ga:List Rat)(p:Z9)(B:Nat)(hla:ga.length=m)(ha:LQ K a)(U:∀ i,LQ D (ga.getD i 0))(b:Rat)(gb:List Rat)(u:Z9)(z:Nat)(hlb:gb.length=m)(W:LQ K b)(O:∀ i,LQ D (gb.getD i 0))(w:World)(h:Hp)(g:G w h)(J:Sq p ga h)(M:Sq u gb h)(tb:Tab h):CR 295 #[.agg #[.slice y m x],qY a p ga.length B,qY b u gb.length z] w h (fun v h1=>∃ bk,v=pn (a*b) (sB bk) ((ov m).map fun i=>ga.getD i 0*b+a*gb.getD i 0).length m/\Sq (sB bk) ((ov m).map fun i=>ga.getD i 0*b+a*gb.getD i 0) h1):=by
 have e:=((((sS g).aS J).aS M).aB tb);refine go Tryz.func295 [(0,.agg #[qS y m x]),(1,qY a p ga.length B),(2,qY b u gb.length z)] rfl (ax (lA 3 94 ([qS y m x]) e (fun Q w2 h3 e=>lA 4 59 (qZ a p ga.length B) e (fun F w5 h6 e=>lA 5 59 (qZ b u gb.length z) e (fun C w8 h9 e=>lA 6 59 ([qF,uV 0,eS,uV 0,eS,sZ]) e (fun I _ _ e=>ag ?_))))));have Z:=e;refine cR 8 [⟨7,7,.cells (MU [qF,uV 0,eS,uV 0,eS,sZ]) 59 (0,0)⟩] mixed e (bw (ee kR (fun _ _=>by kernel_rfl)) ao) (eO 0 9 [(3,0,1)] (.agg #[qS y m x]) e (eV 1 10 (pB F) (eO 2 11 [(2,0,5)] (qv a) e (eV 3 12 (pB C) (eO 4 13 [(1,0,5)] (qv b) e ?_)))));have bm:=LQ.mul ha W;refine au 5 14 e (fun _ _ e=>kP a b (LQ.mono ha oM) (LQ.mono W oM) _ _ e.g e.f.1) (fun _ _ e=>eC 6 15 e (fun _ _ e=>jJ y m x hm (a*b) h _ _ e.g e.st.sz) ?_);rintro _ _ _ _ _ e ⟨j,rfl,hNn⟩;replace e:=(e.add (K:=fun S=>Nw h.size S j 44 ((zY m (0:Rat)).flatMap qc)) hNn);refine fL [] Z e 59 [qF,uV 0,eS,uV 0,eS,sZ] (fun _ _ H e=>tP 8 0 0 (qZ (a*b) (sB j) m m) e (fun _ e=>tN (cQ (ax ?_))));obtain ⟨zi,e⟩:=e.takeL (e.f.1).1 (e.f.1).2.2;replace e:=e.aS (J.gw e.st.up.gr.gw);replace e:=e.aS (M.gw e.st.up.gr.gw);replace e:=e.aB (tb.gw e.st.up.gr.gw);replace e:=e.to [⟨j,44,((zY m 0)).flatMap qc⟩,⟨H,59,qZ (a*b) (sB j) m m⟩,⟨I,59,[qF,uV 0,eS,uV 0,eS,sZ]⟩,⟨C,59,qZ b u gb.length z⟩,⟨F,59,qZ a p ga.length B⟩,⟨Q,94,[qS y m x]⟩] [];refine lL e [.v (qP H 5),.o (qS (sB j) m m) 1 5 1,.v (nV m),.c] (aZ ?_);refine bH _ (CG.loop (fun μ_ Γ w_=>∃ (k:Nat)(L:List Rat)(S:Hp),μ_=m-k/\Γ=[(4,pB F),(5,pB C),(6,pB I),(7,pB H),(18,nV m),(19,nV k)]/\SS w h w_ S [⟨j,44,(L).flatMap qc⟩,⟨H,59,qZ (a*b) (sB j) m m⟩,⟨I,59,[qF,uV 0,eS,uV 0,eS,sZ]⟩,⟨C,59,qZ b u gb.length z⟩,⟨F,59,qZ a p ga.length B⟩,⟨Q,94,[qS y m x]⟩] [] [fun S=>Tab S,Sq u gb,Sq p ga]/\k<=m/\L.length=m/\L=d9 (fun i=>ga.getD i 0*b+a*gb.getD i 0) m k) _ ⟨0,zY m 0,zi,rfl,rfl,e.to _ _,My _,NL,(jd _ _)⟩ ?_);rintro _ _ _ ⟨k,L,_,bl,rfl,e,hk,hL1,hL⟩;refine ax ?_;cases X:(decide ((k:Int)<(m:Int)))
 .
  have zf:=oF X;refine lB 20 X (ag (dD (CG.exit ?_)))
  show CG _ _ _ _ _ _ _ _
  refine aa e [.o (qY (a*b) (sB j) m m) 1 0 6] (lP 2 0 (qZ (a*b) (sB j) m m) e (fun _ e=>lN (kX ?_)));have Y:k=m:=by omega
  rw[Y,fV] at hL
  subst hL;replace e:=e.to [⟨j,44,(((ov m).map fun i=>ga.getD i 0*b+a*gb.getD i 0)).flatMap qc⟩,⟨H,59,qZ (a*b) (sB j) m m⟩,⟨I,59,qZ (a*b) (sB j) m m⟩,⟨C,59,qZ b u gb.length z⟩,⟨F,59,qZ a p ga.length B⟩,⟨Q,94,[qS y m x]⟩] [];obtain ⟨_,e,V,bd,bb⟩:=e.pub 0;replace e:=(e.to [⟨H,59,qZ (a*b) (sB j) m m⟩,⟨I,59,qZ (a*b) (sB j) m m⟩,⟨C,59,qZ b u gb.length z⟩,⟨F,59,qZ a p ga.length B⟩,⟨Q,94,[qS y m x]⟩] []).aS (SlO.of_flat (sz:=5) (f:=qc) (d:=0) (b:=j) (o:=0) (l:=((ov m).map fun i=>ga.getD i 0*b+a*gb.getD i 0)) (fun _=>rfl) V);exact e.ret [(1,0,6)] (qY (a*b) (sB j) m m) (⟨_,by rw[gH],e.f.1⟩)
 have zf:=oT X;refine lB 20 X (ag (ct (cK (cQ (kZ (aa e aD (lN (cR 20 [] mixed e ao ?_))))))));refine eV 0 22 (qP H 5) (eO 1 23 [(1,5,1)] (qS (sB j) m m) e (eV 2 24 (nV k) (eV 3 25 (qP F 5) (eO 4 26 [(4,5,1)] (qS p ga.length B) e (eV 5 27 (nV k) (eX 6 28 p ga.length B 5 (k:Nat) k ((e.f.r.1).ok oM) (eH 7 29 (qv (ga.getD k 0)) e ((e.f.r.1).el k oM) (eV 8 30 (pB C) (eO 9 31 [(3,0,5)] (qv b) e (eV 11 33 (pB F) (eO 12 34 [(4,0,5)] (qv a) e (eV 13 35 (qP C 5) (eO 14 36 [(3,5,1)] (qS u gb.length z) e (eV 15 37 (nV k) (eX 16 38 u gb.length z 5 (k:Nat) k ((e.f.2.1).ok oM) (eH 17 39 (qv (gb.getD k 0)) e ((e.f.2.1).el k oM) ?_))))))))))))))));have zd:=LQ.mul (U k) W;refine au 10 32 e (fun _ _ e=>kP (ga.getD k 0) b (LQ.mono (U k) oM) (LQ.mono W oM) _ _ e.g e.f.1) (fun _ _ e=>?_);have ze:=LQ.mul ha (O k);refine au 18 40 e (fun _ _ e=>kP a (gb.getD k 0) (LQ.mono ha oM) (LQ.mono (O k) oM) _ _ e.g e.f.1) (fun _ _ e=>?_);have bf:=LQ.add zd ze;refine au 19 41 e (fun _ _ e=>sq ((ga.getD k 0)*b) (a*(gb.getD k 0)) (LQ.mono zd oM) (LQ.mono ze oM) _ _ e.g e.f.1) (fun _ _ e=>bU e (fun _ zj e=>tX 20 42 (sB j) m m 5 (k:Nat) k rfl (tW 21 0 L qc 5 k (((ga.getD k 0)*b)+(a*(gb.getD k 0))) e oM (fun _ e=>?_))));have zg:((L).set k (((ga.getD k 0)*b)+(a*(gb.getD k 0)))).length=m:=by rw[Mg];exact hL1
 replace e:=e.to [⟨j,44,((L).set k (((ga.getD k 0)*b)+(a*(gb.getD k 0)))).flatMap qc⟩,⟨H,59,qZ (a*b) (sB j) m m⟩,⟨I,59,[qF,uV 0,eS,uV 0,eS,sZ]⟩,⟨C,59,qZ b u gb.length z⟩,⟨F,59,qZ a p ga.length B⟩,⟨Q,94,[qS y m x]⟩] [];refine tN (kQ (bp 43 ((k:Nat)+1) (k+1) ?_));refine lL e ac (lD ?_);intro a_ ka;refine ⟨_,_,?_,⟨k+1,(L).set k (((ga.getD k 0)*b)+(a*(gb.getD k 0))),zj,rfl,rfl,e.to _ _,oM,zg,(by rw[hL];exact fW oM)⟩,ka.to _ kR⟩
 omega
theorem x9 (y:Z9)(m x:Nat)(hm:m<=1000)(K D:Nat)(hK1:1<=K)(hKD:K<=1000000)(hD:D<=20000000)(a:Rat)(ga:List Rat)(u:Z9)(z:Nat)(hla:ga.length=m)(ha:LQ K a)(Q:∀ i,LQ D (ga.getD i 0))(j:Rat)(E:Nat)(hE:E<=10000000)(B:LQ E j)(w:World)(h:Hp)(g:G w h)(J:Sq u ga h)(tb:Tab h):CR 297 #[.agg #[.slice y m x],qY a u ga.length z,qv j] w h (fun v h1=>∃ bk,v=pn (a*j) (sB bk) ((ov m).map fun i=>ga.getD i 0*j).length m/\Sq (sB bk) ((ov m).map fun i=>ga.getD i 0*j) h1):=by
 have e:=(((sS g).aS J).aB tb);refine go Tryz.func297 [(0,.agg #[qS y m x]),(1,qY a u ga.length z),(2,qv j)] rfl (ax (lA 3 94 ([qS y m x]) e (fun M w2 h3 e=>lA 4 59 (qZ a u ga.length z) e (fun C w5 h6 e=>lA 5 44 (qc j) e (fun H w8 h9 e=>lA 6 59 ([qF,uV 0,eS,uV 0,eS,sZ]) e (fun I _ _ e=>ag ?_))))));have W:=e;refine cR 7 [⟨6,7,.cells (MU [qF,uV 0,eS,uV 0,eS,sZ]) 59 (0,0)⟩] mixed e (bw (ee kR (fun _ _=>by kernel_rfl)) ao) (eO 0 9 [(3,0,1)] (.agg #[qS y m x]) e (eV 1 10 (pB C) (eO 2 11 [(2,0,5)] (qv a) e (eO 3 12 [(1,0,5)] (qv j) e ?_))));have bm:=LQ.mul ha B;refine au 4 13 e (fun _ _ e=>kP a j (LQ.mono ha oM) (LQ.mono B oM) _ _ e.g e.f.1) (fun _ _ e=>eC 5 14 e (fun _ _ e=>jJ y m x hm (a*j) h _ _ e.g e.st.sz) ?_);rintro _ _ _ _ _ e ⟨p,rfl,hNn⟩;replace e:=(e.add (K:=fun O=>Nw h.size O p 44 ((zY m (0:Rat)).flatMap qc)) hNn);refine fL [] W e 59 [qF,uV 0,eS,uV 0,eS,sZ] (fun _ _ F e=>tP 7 0 0 (qZ (a*j) (sB p) m m) e (fun _ e=>tN (cQ (ax ?_))));obtain ⟨zf,e⟩:=e.takeL (e.f.1).1 (e.f.1).2.2;replace e:=e.aS (J.gw e.st.up.gr.gw);replace e:=e.aB (tb.gw e.st.up.gr.gw);replace e:=e.to [⟨p,44,((zY m 0)).flatMap qc⟩,⟨F,59,qZ (a*j) (sB p) m m⟩,⟨I,59,[qF,uV 0,eS,uV 0,eS,sZ]⟩,⟨H,44,qc j⟩,⟨C,59,qZ a u ga.length z⟩,⟨M,94,[qS y m x]⟩] [];refine lL e [.v (qP F 5),.o (qS (sB p) m m) 1 5 1,.v (nV m),.c] (aZ ?_);refine bH _ (CG.loop (fun X Γ w_=>∃ (k:Nat)(L:List Rat)(O:Hp),X=m-k/\Γ=[(4,pB C),(5,pB H),(6,pB I),(7,pB F),(17,nV m),(18,nV k)]/\SS w h w_ O [⟨p,44,(L).flatMap qc⟩,⟨F,59,qZ (a*j) (sB p) m m⟩,⟨I,59,[qF,uV 0,eS,uV 0,eS,sZ]⟩,⟨H,44,qc j⟩,⟨C,59,qZ a u ga.length z⟩,⟨M,94,[qS y m x]⟩] [] [fun O=>Tab O,Sq u ga]/\k<=m/\L.length=m/\L=d9 (fun i=>ga.getD i 0*j) m k) _ ⟨0,zY m 0,zf,rfl,rfl,e.to _ _,My _,NL,(jd _ _)⟩ ?_);rintro _ _ _ ⟨k,L,_,bl,rfl,e,hk,Y,Z⟩;refine ax ?_;cases U:(decide ((k:Int)<(m:Int)))
 .
  have zd:=oF U;refine lB 19 U (ag (dD (CG.exit ?_)))
  show CG _ _ _ _ _ _ _ _
  refine aa e [.o (qY (a*j) (sB p) m m) 1 0 6] (lP 2 0 (qZ (a*j) (sB p) m m) e (fun _ e=>lN (kX ?_)));have V:k=m:=by omega
  rw[V,fV] at Z
  subst Z;replace e:=e.to [⟨p,44,(((ov m).map fun i=>ga.getD i 0*j)).flatMap qc⟩,⟨F,59,qZ (a*j) (sB p) m m⟩,⟨I,59,qZ (a*j) (sB p) m m⟩,⟨H,44,qc j⟩,⟨C,59,qZ a u ga.length z⟩,⟨M,94,[qS y m x]⟩] [];obtain ⟨_,e,S,bd,bb⟩:=e.pub 0;replace e:=(e.to [⟨F,59,qZ (a*j) (sB p) m m⟩,⟨I,59,qZ (a*j) (sB p) m m⟩,⟨H,44,qc j⟩,⟨C,59,qZ a u ga.length z⟩,⟨M,94,[qS y m x]⟩] []).aS (SlO.of_flat (sz:=5) (f:=qc) (d:=0) (b:=p) (o:=0) (l:=((ov m).map fun i=>ga.getD i 0*j)) (fun _=>rfl) S);exact e.ret [(1,0,6)] (qY (a*j) (sB p) m m) (⟨_,by rw[gH],e.f.1⟩)
 have zd:=oT U;refine lB 19 U (ag (ct (cK (cQ (kZ (aa e aD (lN (cR 10 [] mixed e ao ?_))))))));refine eV 0 21 (qP F 5) (eO 1 22 [(1,5,1)] (qS (sB p) m m) e (eV 2 23 (nV k) (eV 3 24 (qP C 5) (eO 4 25 [(4,5,1)] (qS u ga.length z) e (eV 5 26 (nV k) (eX 6 27 u ga.length z 5 (k:Nat) k ((e.f.2.1).ok oM) (eH 7 28 (qv (ga.getD k 0)) e ((e.f.2.1).el k oM) (eO 8 29 [(3,0,5)] (qv j) e ?_))))))));have bf:=LQ.mul (Q k) B;refine au 9 30 e (fun _ _ e=>kP (ga.getD k 0) j (LQ.mono (Q k) oM) (LQ.mono B oM) _ _ e.g e.f.1) (fun _ _ e=>bU e (fun _ zg e=>tX 10 31 (sB p) m m 5 (k:Nat) k rfl (tW 11 0 L qc 5 k ((ga.getD k 0)*j) e oM (fun _ e=>?_))));have ze:((L).set k ((ga.getD k 0)*j)).length=m:=by rw[Mg];exact Y
 replace e:=e.to [⟨p,44,((L).set k ((ga.getD k 0)*j)).flatMap qc⟩,⟨F,59,qZ (a*j) (sB p) m m⟩,⟨I,59,[qF,uV 0,eS,uV 0,eS,sZ]⟩,⟨H,44,qc j⟩,⟨C,59,qZ a u ga.length z⟩,⟨M,94,[qS y m x]⟩] [];refine tN (kQ (bp 32 ((k:Nat)+1) (k+1) ?_));refine lL e ac (lD ?_);intro a_ ka;refine ⟨_,_,?_,⟨k+1,(L).set k ((ga.getD k 0)*j),zg,rfl,rfl,e.to _ _,oM,ze,(by rw[Z];exact fW oM)⟩,ka.to _ kR⟩
 omega
theorem Hu (e:Z9)(m j:Nat)(Q:m<=1000)(fs:List Rat)(O:fs.length=m)(i:Nat)(L:i<m)(w:World)(h:Hp)(g:G w h)(H:Sq e fs h):CR 293 #[.agg #[.slice e m j],nV i] w h (fun v h1=>∃ J,v=pn (fs.getD i 0) (sB J) (fD m i).length m/\Sq (sB J) (fD m i) h1):=by
 have a:=((sS g).aS H);have C:(zY m (0:Rat)).length=m:=NL;refine go Tryz.func293 [(0,.agg #[qS e m j]),(1,nV i)] rfl (ax (lA 2 94 ([qS e m j]) a (fun u w2 W a=>lA 4 59 ([qF,uV 0,eS,uV 0,eS,sZ]) a (fun y V U a=>ag ?_))));have z:=a;refine cR 8 [⟨7,5,.cells (MU [qF,uV 0,eS,uV 0,eS,sZ]) 59 (0,0)⟩] mixed a (bw (ee kR (fun _ _=>by kernel_rfl)) ao) (eO 0 6 [(1,0,1)] (.agg #[qS e m j]) a (eV 1 7 (pB u) (eO 2 8 [(1,0,1)] (qS e m j) a (eV 3 9 (nV i) (eX 4 10 e m j 5 (i:Nat) i ((a.f.1).ok oM) (eH 5 11 (qv (fs.getD i 0)) a ((a.f.1).el i oM) (eC 6 12 a (fun _ _ a=>jJ e m j Q (fs.getD i 0) h _ _ a.g a.st.sz) ?_)))))));rintro _ _ _ S Y a ⟨c,rfl,B⟩;replace a:=(a.add (K:=fun M=>Nw h.size M c 44 ((zY m (0:Rat)).flatMap qc)) B);refine fL [] z a 59 [qF,uV 0,eS,uV 0,eS,sZ] (fun X _ x a=>tP 8 0 0 (qZ (fs.getD i 0) (sB c) m m) a (fun _ a=>tN (cQ ?_)));obtain ⟨_,a⟩:=a.takeL (a.f.1).1 (a.f.1).2.2;replace a:=a.aS (H.gw a.st.up.gr.gw);replace a:=a.to [⟨c,44,((zY m 0)).flatMap qc⟩,⟨x,59,qZ (fs.getD i 0) (sB c) m m⟩,⟨y,59,[qF,uV 0,eS,uV 0,eS,sZ]⟩,⟨u,94,[qS e m j]⟩] [];refine cR 4 [] mixed a ao (eV 0 13 (qP x 5) (eO 1 14 [(1,5,1)] (qS (sB c) m m) a (eV 2 15 (nV i) (au 3 16 a (fun _ _ a=>BC (1) kD kD _ _ a.g) (fun _ _ a=>bU a (fun _ _ a=>tX 4 17 (sB c) m m 5 (i:Nat) i rfl (tW 5 0 (zY m 0) qc 5 i ((1:Int):Rat) a oM (fun _ a=>?_))))))));have D:(((zY m 0)).set i ((1:Int):Rat)).length=m:=by rw[Mg];exact NL
 replace a:=a.to [⟨c,44,(((zY m 0)).set i ((1:Int):Rat)).flatMap qc⟩,⟨x,59,qZ (fs.getD i 0) (sB c) m m⟩,⟨y,59,[qF,uV 0,eS,uV 0,eS,sZ]⟩,⟨u,94,[qS e m j]⟩] [];refine qy (lL a [.o (qY (fs.getD i 0) (sB c) m m) 1 0 6] (lP 2 0 (qZ (fs.getD i 0) (sB c) m m) a (fun _ a=>lN (kX ?_))));replace a:=a.to [⟨c,44,(((zY m 0)).set i ((1:Int):Rat)).flatMap qc⟩,⟨x,59,qZ (fs.getD i 0) (sB c) m m⟩,⟨y,59,qZ (fs.getD i 0) (sB c) m m⟩,⟨u,94,[qS e m j]⟩] [];obtain ⟨_,a,p,I,F⟩:=a.pub 0;replace a:=(a.to [⟨x,59,qZ (fs.getD i 0) (sB c) m m⟩,⟨y,59,qZ (fs.getD i 0) (sB c) m m⟩,⟨u,94,[qS e m j]⟩] []).aS (SlO.of_flat (sz:=5) (f:=qc) (d:=0) (b:=c) (o:=0) (l:=((zY m 0)).set i ((1:Int):Rat)) (fun _=>rfl) p);exact a.ret [(1,0,6)] (qY (fs.getD i 0) (sB c) m m) (⟨_,by rw[wE],a.f.1⟩)
theorem JS (e:Z9)(m d:Nat)(C:m<=1000)(a:Rat)(c:Z9)(f i:Nat)(w:World)(h:Hp)(g:G w h):CV 292 #[.agg #[.slice e m d],qY a c f i] w h (qv a):=by
 have b:=sS g;exact go Tryz.func292 [(0,.agg #[qS e m d]),(1,qY a c f i)] rfl (ax (lA 2 94 ([qS e m d]) b (fun x w2 y b=>lA 3 59 (qZ a c f i) b (fun j u l b=>lA 4 44 a6 b (fun p z B b=>aG (lL b [.v (pB j),.o (qX a) 1 0 5] (lP 0 0 (qC a) b (fun _ b=>ae b [(0,0,5)] (qX a) rfl))))))))
theorem oI (l:Z9)(m j:Nat)(V:m<=1000)(K D:Nat)(x:1<=K)(B:K<=1000000)(L:D<=20000000)(a:Rat)(ga:List Rat)(d:Z9)(e:Nat)(H:ga.length=m)(ha:LQ K a)(F:∀ i,LQ D (ga.getD i 0))(hz:a.num≠0)(w:World)(h:Hp)(g:G w h)(y:Sq d ga h)(O:Tab h):CR 294 #[.agg #[.slice l m j],qY a d ga.length e] w h (fun v h1=>∃ I,v=pn ((((1:Int):Rat)/a)) (sB I) ((ov m).map fun i=>ga.getD i 0*(-((((1:Int):Rat)/a)*(((1:Int):Rat)/a)))).length m/\Sq (sB I) ((ov m).map fun i=>ga.getD i 0*(-((((1:Int):Rat)/a)*(((1:Int):Rat)/a)))) h1):=by
 have b:=(((sS g).aS y).aB O);refine go Tryz.func294 [(0,.agg #[qS l m j]),(1,qY a d ga.length e)] rfl (ax (lA 2 94 ([qS l m j]) b (fun Z w2 h3 b=>lA 3 59 (qZ a d ga.length e) b (fun M Y W b=>lA 4 59 ([qF,uV 0,eS,uV 0,eS,sZ]) b (fun X w8 h9 b=>ag ?_)))));have c:=b;refine cR 8 [⟨7,5,.cells (MU [qF,uV 0,eS,uV 0,eS]) 44 (0,0)⟩] mixed b (bw (ee kR (fun _ _=>by kernel_rfl)) ao) (eV 1 10 (pB M) (eO 2 11 [(1,0,5)] (qv a) b (au 0 9 b (fun _ _ b=>BC (1) kD kD _ _ b.g) (fun _ _ b=>?_))));have u:=LQ.div (LQ.lit (z:=1) kD) ha;refine au 3 12 b (fun _ _ b=>Ey ((1:Int):Rat) a (LQ.mono (LQ.lit (z:=1) kD) oM) (LQ.mono ha oM) hz _ _ b.g b.f.1) (fun _ _ b=>eV 4 8 (.tuple #[qv (((1:Int):Rat)/a),qT]) (eV 5 13 (qv (((1:Int):Rat)/a)) (eV 6 14 qT (fL [] c b 44 [qF,uV 0,eS,uV 0,eS] (fun _ _ S b=>tP 8 0 0 (qc (((1:Int):Rat)/a)) b (fun _ b=>tV 9 6 qT (tN (cQ ?_))))))));have c:=b;refine cR 8 [⟨7,7,.cells (MU [qF,uV 0,eS,uV 0,eS,sZ]) 59 (0,0)⟩] mixed b (bw (ee kR (fun _ _=>by kernel_rfl)) ao) (eO 0 15 [(3,0,1)] (.agg #[qS l m j]) b (eO 1 16 [(2,0,6)] (qY a d ga.length e) b (eO 2 17 [(0,0,5)] (qv (((1:Int):Rat)/a)) b (eO 3 18 [(0,0,5)] (qv (((1:Int):Rat)/a)) b ?_))));have J:=LQ.mul u u;refine au 4 19 b (fun _ _ b=>kP (((1:Int):Rat)/a) (((1:Int):Rat)/a) (LQ.mono u oM) (LQ.mono u oM) _ _ b.g b.f.1) (fun _ _ b=>?_);have U:LQ ((1+K)+(1+K)) (-((((1:Int):Rat)/a)*(((1:Int):Rat)/a))):=LQ.neg J;refine au 5 20 b (fun _ _ b=>Iv ((((1:Int):Rat)/a)*(((1:Int):Rat)/a)) (LQ.mono J oM) _ _ b.g) (fun _ _ b=>eC 6 21 b (fun _ _ b=>x9 l m j V K D x B L a ga d e H ha F (-((((1:Int):Rat)/a)*(((1:Int):Rat)/a))) (2*K+2) oM (LQ.mono U oM) _ _ b.g b.f.2.1 b.f.1) ?_);rintro _ _ _ _ _ b ⟨p,rfl,C⟩;replace b:=b.aS C;exact fL [] c b 59 [qF,uV 0,eS,uV 0,eS,sZ] (fun _ _ Q b=>tP 8 0 0 (qZ (a*(-((((1:Int):Rat)/a)*(((1:Int):Rat)/a)))) (sB p) (((ov m).map fun i=>ga.getD i 0*(-((((1:Int):Rat)/a)*(((1:Int):Rat)/a)))).length) m) b (fun _ b=>qy (lL b [.o (qv (((1:Int):Rat)/a)) 1 0 5,.v (pB Q)] (lP 0 0 (qc (((1:Int):Rat)/a)) b (fun _ b=>aG (lL b [.o (qY (((1:Int):Rat)/a) (sB p) (((ov m).map fun i=>ga.getD i 0*(-((((1:Int):Rat)/a)*(((1:Int):Rat)/a)))).length) m) 0 0 6] (lP 2 0 (qZ (((1:Int):Rat)/a) (sB p) (((ov m).map fun i=>ga.getD i 0*(-((((1:Int):Rat)/a)*(((1:Int):Rat)/a)))).length) m) b (fun _ b=>ae b [(2,0,6)] (qY (((1:Int):Rat)/a) (sB p) (((ov m).map fun i=>ga.getD i 0*(-((((1:Int):Rat)/a)*(((1:Int):Rat)/a)))).length) m) (⟨_,rfl,b.f.1⟩)))))))))
section
variable {a:Rat}
theorem F6 (h:¬a.num.sign<0):a=cH a:=by
 unfold cH;rw[if_neg (fun k=>h (by have:=NY.2 k;omega))]
theorem F0 (h:a.num.sign<0):a*((-1:Int):Rat)=cH a:=by
 unfold cH;rw[if_pos (NY.1 (re h)),vE];grind
theorem Gg {s:Rat}(h:s=cH a):s+((1:Int):Rat)≠0:=by
 have b:0<=cH a:=by
  unfold cH;split
  ·rename_i h
   have:a<0:=by rw[<-Rat.not_le,<-N0];omega
   grind
  ·rename_i h;exact N0.1 oM
 rw[h,i1];grind
theorem Bm {op:Int}{a b:Rat}(h:op=12/\0<cZ a b\/op=13/\cZ a b<0):op=12/\b<a\/op=13/\a<b:=by
 rcases h with ⟨h1,h2⟩|⟨h1,h2⟩
 ·exact .inl ⟨h1,jb.1 h2⟩
 ·exact .inr ⟨h1,iX.1 h2⟩
theorem Aj {op:Int}{a b:Rat}(h:op=12/\cZ a b<0\/op=13/\0<cZ a b):op=12/\a<b\/op=13/\b<a:=by
 rcases h with ⟨h1,h2⟩|⟨h1,h2⟩
 ·exact .inl ⟨h1,iX.1 h2⟩
 ·exact .inr ⟨h1,jb.1 h2⟩
end
theorem om (e:Z9)(m d:Nat)(L:m<=1000)(K D:Nat)(p:1<=K)(x:K<=1000000)(H:D<=20000000)(y:Nat)(B:Bool)(a:Rat)(ga:List Rat)(l:Z9)(o:Nat)(C:ga.length=m)(ha:LQ K a)(z:∀ i,LQ D (ga.getD i 0))(w:World)(h:Hp)(g:G w h)(u:Sq l ga h)(J:Tab h):CR 124 #[.agg #[.iface 94 (.agg #[.slice e m d]),.map (some y),.bool B],qY a l ga.length o] w h (fun v h1=>∃ F,v=pn (a*((-1:Int):Rat)) (sB F) ((ov m).map fun i=>ga.getD i 0*((-1:Int):Rat)).length m/\Sq (sB F) ((ov m).map fun i=>ga.getD i 0*((-1:Int):Rat)) h1):=by
 have b:=(((sS g).aS u).aB J);refine go Tryz.func124 [(0,.agg #[.iface 94 (.agg #[qS e m d]),.map (some y),.bool B]),(1,qY a l ga.length o)] rfl (ax (lA 2 100 ([.iface 94 (.agg #[qS e m d]),.map (some y),.bool B]) b (fun I w2 S b=>lA 3 59 (qZ a l ga.length o) b (fun U Q M b=>lA 4 59 ([qF,uV 0,eS,uV 0,eS,sZ]) b (fun O V W b=>ag (cR 7 [] mixed b ao ?_))))));refine eV 0 5 (pB I) (eO 1 6 [(2,0,1)] (.iface 94 (.agg #[qS e m d])) b (eO 2 7 [(1,0,6)] (qY a l ga.length o) b (eV 4 9 (.iface 94 (.agg #[qS e m d])) (eV 5 10 (.iface 94 (.agg #[qS e m d])) (au 3 8 b (fun _ _ b=>BC (-1) kD kD _ _ b.g) (fun _ _ b=>eC 6 11 b (fun _ _ b=>x9 e m d L K D p x H a ga l o C ha z ((-1:Int):Rat) 1 kD (LQ.int kD kD) _ _ b.g b.f.2.1 b.f.1) ?_))))));rintro _ _ _ _ _ b ⟨c,rfl,j⟩;replace b:=b.aS j;exact bU b (fun _ _ b=>tP 7 0 0 (qZ (a*((-1:Int):Rat)) (sB c) (((ov m).map fun i=>ga.getD i 0*((-1:Int):Rat)).length) m) b (fun _ b=>tN (kX (b.ret [(0,0,6)] (qY (a*((-1:Int):Rat)) (sB c) (((ov m).map fun i=>ga.getD i 0*((-1:Int):Rat)).length) m) (⟨_,rfl,b.f.1⟩)))))
theorem De (j:Z9)(m e:Nat)(V:m<=1000)(K D:Nat)(hK1:1<=K)(hKD:K<=60000)(hD:D<=10000000)(O:Nat)(op n:Int)(q:Rat)(s:ByteArray)(A:Z9)(kn c:Nat)(a:Rat)(ga:List Rat)(l:Z9)(p:Nat)(H:ga.length=m)(ha:LQ K a)(B:∀ i,LQ D (ga.getD i 0))(hop:7<=op/\op<=11)(hn:op=8 -> -12<=n/\n<=12)(w:World)(h:Hp)(g:G w h)(hSa:Sq l ga h)(tb:Tab h):CR 76 #[.agg #[.iface 94 (.agg #[.slice j m e]),.map (some O),.bool false],bO ⟨op,n,q,s,A,kn,c⟩,qY a l ga.length p] w h (fun v h1=>∃ (q_:Rat)(G_:List Rat)(A_:Z9)(c_:Nat),v=.tuple #[pn q_ A_ G_.length c_,iV (bJ op n a 0)]/\Sq A_ G_ h1/\(bJ op n a 0=0->q_=kO op n 0 a 0/\G_=kG m op n a 0 ga [])):=by
 have b:=(((sS g).aS hSa).aB tb);refine go Tryz.func76 [(0,.agg #[.iface 94 (.agg #[qS j m e]),.map (some O),qF]),(1,bO ⟨op,n,q,s,A,kn,c⟩),(2,qY a l ga.length p)] rfl (ax (lA 3 100 ([.iface 94 (.agg #[qS j m e]),.map (some O),qF]) b (fun y w2 h3 b=>lA 4 50 (da ⟨op,n,q,s,A,kn,c⟩) b (fun I w5 h6 b=>lA 5 59 (qZ a l ga.length p) b (fun Z w8 h9 b=>lA 6 59 ([qF,uV 0,eS,uV 0,eS,sZ]) b (fun za _ _ b=>lL b ac (aG (lL b [.v (pB y),.o (.iface 94 (.agg #[qS j m e])) 3 0 1,.o (qY a l ga.length p) 1 0 6] (aq 14 b (JS j m e V a l ga.length p _ _ b.g) (fun _ _ b=>aq 15 b (jl a (LQ.mono ha oM) _ _ b.g) (fun _ zn b=>?_)))))))))));have cq:=ib a.num;refine lL b ac (ag (aa b [.v (pB I),.o (iV op) 2 0 1] (aZ (ax ?_))));cases zc:((op:Int) == (7:Int))
 .
  have zq:=aj zc;refine lB 19 zc (lL b ac (ah (ax ?_)));cases zd:((op:Int) == (8:Int))
  .
   have zr:=aj zd;refine lB 24 zd (lL b ac (ah (ax ?_)));cases ze:((op:Int) == (11:Int))
   .
    have zs:=aj ze;refine lB 62 ze (lL b ac (ah (cK (cQ (aa b ac ?_)))));cases zf:((a.num.sign:Int) == (0:Int))
    .
     have zt:=aj zf;refine lB 100 zf (ah (cK (cQ (aa b ac ?_))));cases zg:(decide ((0:Int)<(a.num.sign:Int)))
     .
      have zu:=oF zg;refine lB 103 zg (ah (cK (cQ (aa b [.v (pB I),.o (iV op) 2 0 1] ?_))));cases zi:((op:Int) == (9:Int))
      .
       have zv:=aj zi;refine lB 107 zi (ah (cK (aa b [.v (pB y),.o (.iface 94 (.agg #[qS j m e])) 3 0 1,.v (qv (0:Rat))] (lC 114 b (jI j m e V (0:Rat) _ _ b.g) ?_))));rintro _ _ _ b ⟨bk,rfl,bz⟩;replace b:=b.aS bz;refine lP 0 0 (qZ (0:Rat) (sB bk) ((zY m (0:Rat)).length) m) b (fun _ b=>lL b ac (lN (kX ?_)));obtain rfl:op=10:=by omega
       have C:bJ 10 n a 0=0:=(eN (fun d=>absurd d kD) (fun d=>absurd d kD) (fun _=>kM oM) (fun d=>absurd d kD));exact b.ret [(0,0,6)] (.tuple #[qY (0:Rat) (sB bk) ((zY m (0:Rat)).length) m,iV 0]) (⟨(0:Rat),(zY m (0:Rat)),_,_,by rw[C],b.f.1,fun _=>(Kw oM)⟩)
      have zv:=eq_of_beq zi;refine lB 107 zi (am (aa b [.o (.agg #[.iface 94 (.agg #[qS j m e]),.map (some O),qF]) 3 0 3,.o (qY a l ga.length p) 1 0 6] (lC 110 b (om j m e V (14*K+40) (D+40*K+100) oM oM oM O false a ga l p H (LQ.mono ha oM) (fun i=>LQ.mono (B i) oM) _ _ b.g b.f.2.1 b.f.1) ?_)));rintro _ _ _ b ⟨bt,rfl,b0⟩;replace b:=b.aS b0;refine lP 0 0 (qZ (a*((-1:Int):Rat)) (sB bt) (((ov m).map fun i=>ga.getD i 0*((-1:Int):Rat)).length) m) b (fun _ b=>lL b ac (lN (kX ?_)));obtain rfl:op=9:=by omega
      have C:bJ 9 n a 0=0:=(eN (fun d=>absurd d kD) (fun d=>absurd d kD) (fun _=>kM oM) (fun d=>absurd d kD));exact b.ret [(0,0,6)] (.tuple #[qY (a*((-1:Int):Rat)) (sB bt) (((ov m).map fun i=>ga.getD i 0*((-1:Int):Rat)).length) m,iV 0]) (⟨a*((-1:Int):Rat),((ov m).map fun i=>ga.getD i 0*((-1:Int):Rat)),_,_,by rw[C],b.f.1,fun _=>(K2 oM)⟩)
     have zu:=oT zg;refine lB 103 zg (am (aa b [.o (qY a l ga.length p) 1 0 6] (lP 0 0 (qZ a l ga.length p) b (fun _ b=>lL b ac (lN (kX ?_))))));have C:bJ op n a 0=0:=(eN (fun d=>absurd d oM) (fun d=>absurd d oM) (fun _=>kM oM) (fun d=>absurd d oM));exact b.ret [(0,0,6)] (.tuple #[qY a l ga.length p,iV 0]) (⟨a,ga,_,_,by rw[C],b.f.2.1,fun _=>(Ke oM H oM)⟩)
    have zt:=eq_of_beq zf;refine lB 100 zf (am (aa b [.o (qY a l ga.length p) 1 0 6] (lP 0 0 (qZ a l ga.length p) b (fun _ b=>lL b ac (lN (kX ?_))))));have C:bJ op n a 0=7:=(EX (.inl ⟨by omega,Ce oM⟩));exact b.ret [(0,0,6)] (.tuple #[qY a l ga.length p,iV 7]) (⟨a,ga,_,_,by rw[C],b.f.2.1,fun d=>absurd d (by rw[C];decide)⟩)
   have zs:=eq_of_beq ze;refine lB 62 ze ?_;refine lL b ac (am (CG.join (fun Γ w_=>∃  (d:Hp),Γ=[(3,pB y),(4,pB I),(5,pB Z),(6,pB za),(8,iV a.num.sign)]/\SS w h w_ d [⟨za,59,[qF,uV 0,eS,uV 0,eS,sZ]⟩,⟨Z,59,qZ a l ga.length p⟩,⟨I,50,da ⟨op,n,q,s,A,kn,c⟩⟩,⟨y,100,[.iface 94 (.agg #[qS j m e]),.map (some O),qF]⟩] [] [fun d=>Tab d,Sq l ga]) ?_ ?_))
   .
    refine aa b [.v (qP y 2),.o qF 3 2 1,.c] (lG 66 ?_);refine lG 67 (lL b [.v qF] (ah (CG.skip ?_)));intro a_ L;exact ⟨_,⟨zn,rfl,b.to _ _⟩,L.to _ kR⟩
   rintro _ _ ⟨_,rfl,b⟩;refine aa b [.o (qY a l ga.length p) 1 0 6] (lA 10 59 ([qF,uV 0,eS,uV 0,eS,sZ]) b (fun zD _ zH b=>lP 0 0 (qZ a l ga.length p) b (fun _ b=>?_)));refine lN (CG.join (fun Γ w_=>∃ (x:Rat)(u:List Rat)(U:Z9)(cx:Nat)(d:Hp),Γ=[(3,pB y),(4,pB I),(5,pB Z),(6,pB za),(8,iV a.num.sign),(10,pB zD)]/\SS w h w_ d [⟨zD,59,qZ x U u.length cx⟩,⟨za,59,[qF,uV 0,eS,uV 0,eS,sZ]⟩,⟨Z,59,qZ a l ga.length p⟩,⟨I,50,da ⟨op,n,q,s,A,kn,c⟩⟩,⟨y,100,[.iface 94 (.agg #[qS j m e]),.map (some O),qF]⟩] [] [Sq U u,fun d=>Tab d,Sq l ga]/\x=cH a/\(∀ i,i<m->u.getD i 0=(if a.num.sign<0 then ga.getD i 0*((-1:Int):Rat) else ga.getD i 0))/\u.length=m/\LQ (K+1) x/\(∀ i,LQ (D+1) (u.getD i 0))) ?_ ?_)
   .
    refine aa b ac ?_;cases zj:(decide ((a.num.sign:Int)<(0:Int)))
    .
     have zw:=oF zj;refine lB 72 zj (ah (CG.skip ?_));intro a_ L;replace b:=b.aS b.f.2.1;exact ⟨_,⟨a,ga,l,p,zH,rfl,b.to _ _,(F6 oM),(fun i_ _=>by rw[if_neg oM]),H,(ha.mono oM),(fun i=>(B i).mono oM)⟩,L.to _ kR⟩
    have zw:=oT zj;refine lB 72 zj (am (kQ (lL b [.o (.agg #[.iface 94 (.agg #[qS j m e]),.map (some O),qF]) 4 0 3,.o (qY a l ga.length p) 2 0 6] (lC 75 b (om j m e V (14*K+40) (D+40*K+100) oM oM oM O false a ga l p H (LQ.mono ha oM) (fun i=>LQ.mono (B i) oM) _ _ b.g b.f.2.1 b.f.1) ?_))));rintro _ _ zI b ⟨br,rfl,b9⟩;replace b:=b.aS b9;refine lP 0 0 (qZ (a*((-1:Int):Rat)) (sB br) (((ov m).map fun i=>ga.getD i 0*((-1:Int):Rat)).length) m) b (fun _ b=>lD ?_);intro a_ L;replace b:=(b.tl.aS b.f.1);exact ⟨_,⟨a*((-1:Int):Rat),((ov m).map fun i=>ga.getD i 0*((-1:Int):Rat)),sB br,m,zI,rfl,b.to _ _,(F0 oM),(fun i_ d=>by rw[if_pos oM,jQ d]),(gH _ _),(LQ.mono (ha.mul (LQ.int (z:=-1) kD kD)) oM),(lz (fun i=>LQ.mono ((B i).mul (LQ.int (z:=-1) kD kD)) oM) oM)⟩,L.to _ kR⟩
   rintro _ _ ⟨x,u,U,cx,_,rfl,b,hxq,hxg,hlx,Q,F⟩;refine cQ (cR 23 [] mixed b ao ?_);refine eV 0 76 (pB y) (eO 1 77 [(4,0,1)] (.iface 94 (.agg #[qS j m e])) b (eO 2 78 [(2,0,6)] (qY a l ga.length p) b (eV 3 79 (pB y) (eO 4 80 [(4,0,1)] (.iface 94 (.agg #[qS j m e])) b (eV 5 81 (pB y) (eO 6 82 [(4,0,1)] (.iface 94 (.agg #[qS j m e])) b (eO 7 83 [(0,0,6)] (qY x U u.length cx) b (eV 8 84 (pB y) (eO 9 85 [(4,0,1)] (.iface 94 (.agg #[qS j m e])) b (eV 11 87 (.iface 94 (.agg #[qS j m e])) (eV 12 88 (.iface 94 (.agg #[qS j m e])) (eV 14 90 (.iface 94 (.agg #[qS j m e])) (eV 15 91 (.iface 94 (.agg #[qS j m e])) (eV 17 93 (.iface 94 (.agg #[qS j m e])) (eV 18 94 (.iface 94 (.agg #[qS j m e])) (eV 20 96 (.iface 94 (.agg #[qS j m e])) (eV 21 97 (.iface 94 (.agg #[qS j m e])) (au 10 86 b (fun _ _ b=>BC (1) kD kD _ _ b.g) (fun _ _ b=>eC 13 89 b (fun _ _ b=>jI j m e V ((1:Int):Rat) _ _ b.g) ?_)))))))))))))))))));rintro _ _ _ _ _ b ⟨cj,rfl,b2⟩;replace b:=b.aS b2;have cb:=hxq;have M:LQ (K+3) (x+((1:Int):Rat)):=LQ.mono (LQ.add Q (LQ.int (z:=1) kD kD)) oM;have W:∀ i,LQ (D+4) (((ov m).map fun i=>u.getD i 0+(zY m (0:Rat)).getD i 0).getD i 0):=lz (fun i=>LQ.mono (LQ.add (F i) (by rw[gZ];exact iE (nR 1))) oM) oM;refine eC 16 92 b (fun _ _ b=>Ho j m e V (14*K+40) (D+40*K+100) oM oM oM x u U cx hlx (LQ.mono Q oM) (fun i=>LQ.mono (F i) oM) ((1:Int):Rat) (zY m (0:Rat)) (sB cj) m NL (LQ.mono (LQ.int kD kD) oM) (fun i=>by rw[gZ];exact iE oM) _ _ b.g b.f.2.1 b.f.1 b.f.r.1) ?_;rintro _ _ _ _ _ b ⟨ch,rfl,b5⟩;replace b:=b.aS b5;refine eC 19 95 b (fun _ _ b=>oI j m e V (14*K+40) (D+40*K+100) oM oM oM (x+((1:Int):Rat)) ((ov m).map fun i=>u.getD i 0+(zY m (0:Rat)).getD i 0) (sB ch) m (gH _ _) (LQ.mono M oM) (fun i=>LQ.mono (W i) oM) (uJ (Gg cb)) _ _ b.g b.f.1 b.f.r.2.1) ?_;rintro _ _ _ _ _ b ⟨cd,rfl,b6⟩;replace b:=b.aS b6;refine eC 22 98 b (fun _ _ b=>Eu j m e V (14*K+40) (D+40*K+100) oM oM oM a ga l p H (LQ.mono ha oM) (fun i=>LQ.mono (B i) oM) (((1:Int):Rat)/(x+((1:Int):Rat))) ((ov m).map fun i=>((ov m).map fun i=>u.getD i 0+(zY m (0:Rat)).getD i 0).getD i 0*(-((((1:Int):Rat)/(x+((1:Int):Rat)))*(((1:Int):Rat)/(x+((1:Int):Rat)))))) (sB cd) m (gH _ _) (LQ.mono (LQ.div (LQ.int (z:=1) kD kD) M) oM) (lz (fun i=>LQ.mono ((W i).mul ((LQ.div (LQ.int (z:=1) kD kD) M).mul (LQ.div (LQ.int (z:=1) kD kD) M)).neg) oM) oM) _ _ b.g b.f.q.2.1 b.f.1 b.f.q.1) ?_;rintro _ _ _ _ _ b ⟨bq,rfl,b3⟩;replace b:=b.aS b3;refine bU b (fun _ _ b=>tP 23 1 0 (qZ (a*(((1:Int):Rat)/(x+((1:Int):Rat)))) (sB bq) (((ov m).map fun i=>ga.getD i 0*(((1:Int):Rat)/(x+((1:Int):Rat)))+a*((ov m).map fun i=>((ov m).map fun i=>u.getD i 0+(zY m (0:Rat)).getD i 0).getD i 0*(-((((1:Int):Rat)/(x+((1:Int):Rat)))*(((1:Int):Rat)/(x+((1:Int):Rat)))))).getD i 0).length) m) b (fun _ b=>tV 24 7 (iV 0) (tN (kX ?_))));obtain rfl:op=11:=by omega
   have C:bJ 11 n a 0=0:=(eN (fun d=>absurd d kD) (fun d=>absurd d kD) (fun d=>absurd d kD) (fun d=>absurd d kD));exact b.ret [(1,0,6)] (.tuple #[qY (a*(((1:Int):Rat)/(x+((1:Int):Rat)))) (sB bq) (((ov m).map fun i=>ga.getD i 0*(((1:Int):Rat)/(x+((1:Int):Rat)))+a*((ov m).map fun i=>((ov m).map fun i=>u.getD i 0+(zY m (0:Rat)).getD i 0).getD i 0*(-((((1:Int):Rat)/(x+((1:Int):Rat)))*(((1:Int):Rat)/(x+((1:Int):Rat)))))).getD i 0).length) m,iV 0]) (⟨a*(((1:Int):Rat)/(x+((1:Int):Rat))),((ov m).map fun i=>ga.getD i 0*(((1:Int):Rat)/(x+((1:Int):Rat)))+a*((ov m).map fun i=>((ov m).map fun i=>u.getD i 0+(zY m (0:Rat)).getD i 0).getD i 0*(-((((1:Int):Rat)/(x+((1:Int):Rat)))*(((1:Int):Rat)/(x+((1:Int):Rat)))))).getD i 0),_,_,by rw[C],b.f.1,fun _=>(Kp hxq hxg)⟩)
  have zr:=eq_of_beq zd;refine lB 24 zd ?_;refine lL b ac (am (CG.join (fun Γ w_=>∃  (d:Hp),Γ=[(3,pB y),(4,pB I),(5,pB Z),(6,pB za),(8,iV a.num.sign)]/\SS w h w_ d [⟨za,59,[qF,uV 0,eS,uV 0,eS,sZ]⟩,⟨Z,59,qZ a l ga.length p⟩,⟨I,50,da ⟨op,n,q,s,A,kn,c⟩⟩,⟨y,100,[.iface 94 (.agg #[qS j m e]),.map (some O),qF]⟩] [] [fun d=>Tab d,Sq l ga]/\(n<0->a.num.sign≠0)) ?_ ?_))
  .
   refine aa b [.v (qP I 1),.o (iV n) 2 1 1] ?_;cases zk:(decide ((n:Int)<(0:Int)))
   .
    have zx:=oF zk;refine lB 27 zk (lL b ac (lG 29 ?_));refine lG 30 (lL b [.v qF] (ah (CG.skip ?_)));intro a_ L;exact ⟨_,⟨zn,rfl,b.to _ _,(fun d=>by omega)⟩,L.to _ kR⟩
   have zx:=oT zk;refine lB 27 zk (lL b aD ?_);cases zl:((a.num.sign:Int) == (0:Int))
   .
    have zA:=aj zl;refine lB 30 zl (lL b [.v qF] (ah (CG.skip ?_)));intro a_ L;exact ⟨_,⟨zn,rfl,b.to _ _,(fun d=>by omega)⟩,L.to _ kR⟩
   have zA:=eq_of_beq zl;refine lB 30 zl (lL b [.v qT] (am (aa b [.o (qY a l ga.length p) 1 0 6] (lP 0 0 (qZ a l ga.length p) b (fun _ b=>lL b ac (lN (kX ?_)))))));obtain rfl:op=8:=by omega
   have C:bJ 8 n a 0=6:=(Fi (.inr ⟨rfl,by omega,Ce oM⟩));exact b.ret [(0,0,6)] (.tuple #[qY a l ga.length p,iV 6]) (⟨a,ga,_,_,by rw[C],b.f.2.1,fun d=>absurd d (by rw[C];decide)⟩)
  rintro _ _ ⟨zJ,rfl,b,bl⟩;refine CG.join (fun Γ w_=>∃ (x:Rat)(u:List Rat)(U:Z9)(cx:Nat)(d:Hp),Γ=[(3,pB y),(4,pB I),(5,pB Z),(6,pB za),(8,iV a.num.sign)]/\SS w h w_ d [⟨za,59,[qF,uV 0,eS,uV 0,eS,sZ]⟩,⟨Z,59,qZ x U u.length cx⟩,⟨I,50,da ⟨op,n,q,s,A,kn,c⟩⟩,⟨y,100,[.iface 94 (.agg #[qS j m e]),.map (some O),qF]⟩] [] [Sq U u,fun d=>Tab d,Sq l ga]/\((0<=n/\x=a/\u=ga)\/(n<0/\a≠0/\x=(((1:Int):Rat)/a)/\u=((ov m).map fun i=>ga.getD i 0*(-((((1:Int):Rat)/a)*(((1:Int):Rat)/a))))))/\u.length=m/\LQ (1+K) x/\(∀ i,LQ (D+2*K+2) (u.getD i 0))) ?_ ?_
  .
   refine aa b [.v (qP I 1),.o (iV n) 2 1 1] ?_;cases zm:(decide ((n:Int)<(0:Int)))
   .
    have zB:=oF zm;refine lB 35 zm (ah (CG.skip ?_));intro a_ L;replace b:=b.aS b.f.2.1;exact ⟨_,⟨a,ga,l,p,zJ,rfl,b.to _ _,(.inl ⟨by omega,rfl,rfl⟩),H,(ha.mono oM),(fun i=>(B i).mono oM)⟩,L.to _ kR⟩
   have zB:=oT zm;refine lB 35 zm (am (kQ (lL b [.v (pB y),.o (.iface 94 (.agg #[qS j m e])) 3 0 1,.o (qY a l ga.length p) 1 0 6] (lC 39 b (oI j m e V (14*K+40) (D+40*K+100) oM oM oM a ga l p H (LQ.mono ha oM) (fun i=>LQ.mono (B i) oM) (uJ (kM (bl oM))) _ _ b.g b.f.2.1 b.f.1) ?_))));rintro _ _ zK b ⟨bn,rfl,bx⟩;replace b:=b.aS bx;refine lP 1 0 (qZ (((1:Int):Rat)/a) (sB bn) (((ov m).map fun i=>ga.getD i 0*(-((((1:Int):Rat)/a)*(((1:Int):Rat)/a)))).length) m) b (fun _ b=>lD ?_);intro a_ L;replace b:=(b.tl.aS b.f.1);exact ⟨_,⟨((1:Int):Rat)/a,((ov m).map fun i=>ga.getD i 0*(-((((1:Int):Rat)/a)*(((1:Int):Rat)/a)))),sB bn,m,zK,rfl,b.to _ _,(.inr ⟨by omega,kM (bl oM),rfl,rfl⟩),(gH _ _),(LQ.div (LQ.int (z:=1) kD kD) ha),(lz (fun i=>LQ.mono ((B i).mul ((LQ.div (LQ.int (z:=1) kD kD) ha).mul (LQ.div (LQ.int (z:=1) kD kD) ha)).neg) (by omega:_<=D+2*K+2)) oM)⟩,L.to _ kR⟩
  rintro _ _ ⟨x,u,U,cx,_,rfl,b,hxd,hlx,Q,F⟩;refine cQ ?_;have hsr:=b;refine cR 7 [⟨6,9,.cells (MU [qF,uV 0,eS,uV 0,eS,sZ]) 59 (0,0)⟩] mixed b (bw (ee kR (fun _ _=>by kernel_rfl)) ao) (eV 0 40 (pB y) (eO 1 41 [(3,0,1)] (.iface 94 (.agg #[qS j m e])) b (eV 3 43 (.iface 94 (.agg #[qS j m e])) (eV 4 44 (.iface 94 (.agg #[qS j m e])) (au 2 42 b (fun _ _ b=>BC (1) kD kD _ _ b.g) (fun _ _ b=>eC 5 45 b (fun _ _ b=>jI j m e V ((1:Int):Rat) _ _ b.g) ?_))))));rintro _ _ _ _ _ b ⟨J,rfl,bb⟩;replace b:=b.aS bb;refine fL [] hsr b 59 [qF,uV 0,eS,uV 0,eS,sZ] (fun _ zE zo b=>tP 7 0 0 (qZ ((1:Int):Rat) (sB J) ((zY m (0:Rat)).length) m) b (fun _ b=>tN (cQ (aa b [.v (qP I 1),.o (iV n) 3 1 1,.v (qP I 1),.o (iV n) 3 1 1] (lI 50 (0-n) ?_)))));refine lV 51 (iV (max (n:Int) (0-n:Int))) ?_ (hr:=aK (n:=(if (0-n:Int)>(n:Int) then (0-n:Int) else (n:Int))) kR (by simp only[pQ]));refine lL b ac (aZ ?_);replace b:=b.aS b.f.1;refine bH _ (CG.loop (fun μ_ Γ w_=>∃ (k:Nat)(Ap:Z9)(cp:Nat)(S:List Rat)(d:Hp),μ_=n.natAbs-k/\Γ=[(3,pB y),(4,pB I),(5,pB Z),(6,pB za),(8,iV a.num.sign),(9,pB zo),(51,iV (max (n:Int) (0-n:Int))),(52,nV k)]/\SS w h w_ d [⟨zo,59,qZ (ck x k) Ap S.length cp⟩,⟨za,59,[qF,uV 0,eS,uV 0,eS,sZ]⟩,⟨Z,59,qZ x U u.length cx⟩,⟨I,50,da ⟨op,n,q,s,A,kn,c⟩⟩,⟨y,100,[.iface 94 (.agg #[qS j m e]),.map (some O),qF]⟩] [] [Sq Ap S,Sq (sB J) (zY m (0:Rat)),Sq U u,fun d=>Tab d,Sq l ga]/\k<=n.natAbs/\S.length=m/\(∀ i,S.getD i 0=((k:Int):Rat)*ck x (k-1)*u.getD i 0)) _ ⟨0,sB J,m,(zY m (0:Rat)),zE,rfl,rfl,b.to _ _,My _,NL,(fun i=>by rw[gZ];show (0:Rat)=((0:Int):Rat)*_*_;rw[i0];grind)⟩ ?_);rintro _ _ _ ⟨k,Ap,cp,S,_,cm,rfl,b,hk,hlp,hgp⟩;refine ax ?_;cases zb:(decide ((k:Int)<(max (n:Int) (0-n:Int):Int)))
  .
   have zp:=oF zb;refine lB 53 zb (ag (dD (CG.exit ?_)))
   show CG _ _ _ _ _ _ _ _
   refine aa b [.o (qY (ck x k) Ap S.length cp) 0 0 6] (lP 1 0 (qZ (ck x k) Ap S.length cp) b (fun _ b=>lL b ac (lN (kX ?_))));obtain rfl:op=8:=by omega
   have C:bJ 8 n a 0=0:=(eN (fun d=>absurd d kD) (fun _ d=>by rcases hxd with ⟨h1_,_⟩|⟨_,h2_,_⟩;omega;exact h2_) (fun d=>absurd d kD) (fun d=>absurd d kD));exact b.ret [(1,0,6)] (.tuple #[qY (ck x k) Ap S.length cp,iV 0]) (⟨ck x k,S,_,_,by rw[C],b.f.1,fun _=>(by rcases hxd with ⟨h1_,e1_,e2_⟩|⟨h1_,h2_,e1_,e2_⟩;subst e1_ e2_;exact Kq h1_ oM hlp hgp;subst e1_;exact JZ h1_ h2_ oM hlp e2_ hgp)⟩)
  have zp:=oT zb;refine lB 53 zb (ag (ct (cK (cQ (kZ (kQ (lL b [.v (pB y),.o (.iface 94 (.agg #[qS j m e])) 4 0 1,.o (qY (ck x k) Ap S.length cp) 0 0 6,.o (qY x U u.length cx) 2 0 6] (lC 58 b (Eu j m e V (14*K+40) (D+40*K+100) oM oM oM (ck x k) S Ap cp hlp (LQ.mono (i4 Q k) (by have:=y9 (1+K) (show k<=12 by omega);omega)) (fun i=>by rw[hgp i];exact LQ.mono (((LQ.int (z:=(k:Int)) oM oM).mul (i4 Q (k-1))).mul (F i)) (by have:=y9 (1+K) (show k-1<=12 by omega);omega)) x u U cx hlx (LQ.mono Q oM) (fun i=>LQ.mono (F i) oM) _ _ b.g b.f.1 b.f.r.1 b.f.r.2.1) ?_))))))));rintro _ _ zG b ⟨Y,rfl,bf⟩;replace b:=b.aS bf;refine lP 0 0 (qZ ((ck x k)*x) (sB Y) (((ov m).map fun i=>S.getD i 0*x+(ck x k)*u.getD i 0).length) m) b (fun _ b=>lN (kQ (bp 59 ((k:Nat)+1) (k+1) ?_)));refine lL b ac (lD ?_);intro a_ L;replace b:=(b.tl.tl.aS b.f.1);refine ⟨_,_,?_,⟨k+1,sB Y,m,((ov m).map fun i=>S.getD i 0*x+(ck x k)*u.getD i 0),zG,rfl,rfl,b.to _ _,oM,(gH _ _),(DO hlx hgp)⟩,L.to _ kR⟩
  omega
 have zq:=eq_of_beq zc;refine lB 19 zc (lL b ac (am (aa b [.o (.agg #[.iface 94 (.agg #[qS j m e]),.map (some O),qF]) 3 0 3,.o (qY a l ga.length p) 1 0 6] (lC 22 b (om j m e V (14*K+40) (D+40*K+100) oM oM oM O false a ga l p H (LQ.mono ha oM) (fun i=>LQ.mono (B i) oM) _ _ b.g b.f.2.1 b.f.1) ?_))));rintro _ _ _ b ⟨X,rfl,bd⟩;replace b:=b.aS bd;refine lP 0 0 (qZ (a*((-1:Int):Rat)) (sB X) (((ov m).map fun i=>ga.getD i 0*((-1:Int):Rat)).length) m) b (fun _ b=>lL b ac (lN (kX ?_)));obtain rfl:op=7:=by omega
 have C:bJ 7 n a 0=0:=(eN (fun d=>absurd d kD) (fun d=>absurd d kD) (fun d=>absurd d kD) (fun d=>absurd d kD));exact b.ret [(0,0,6)] (.tuple #[qY (a*((-1:Int):Rat)) (sB X) (((ov m).map fun i=>ga.getD i 0*((-1:Int):Rat)).length) m,iV 0]) (⟨a*((-1:Int):Rat),((ov m).map fun i=>ga.getD i 0*((-1:Int):Rat)),_,_,by rw[C],b.f.1,fun _=>Le⟩)
theorem Cu (u:Z9)(m l:Nat)(J:m<=1000)(K D:Nat)(hK1:1<=K)(hKD:K<=60000)(hD:D<=10000000)(bm:Nat)(op n:Int)(q:Rat)(s:ByteArray)(A:Z9)(kn c:Nat)(a:Rat)(ga:List Rat)(j:Z9)(p:Nat)(H:ga.length=m)(ha:LQ K a)(L:∀ i,LQ D (ga.getD i 0))(b:Rat)(gb:List Rat)(x:Z9)(B:Nat)(F:gb.length=m)(I:LQ K b)(C:∀ i,LQ D (gb.getD i 0))(hop:3<=op/\op<=6\/12<=op/\op<=13)(w:World)(h:Hp)(g:G w h)(hSa:Sq j ga h)(hSb:Sq x gb h)(tb:Tab h):CR 77 #[.agg #[.iface 94 (.agg #[.slice u m l]),.map (some bm),.bool false],bO ⟨op,n,q,s,A,kn,c⟩,qY a j ga.length p,qY b x gb.length B] w h (fun v h1=>∃ (q_:Rat)(G_:List Rat)(A_:Z9)(c_:Nat),v=.tuple #[pn q_ A_ G_.length c_,iV (bJ op n a b)]/\Sq A_ G_ h1/\(bJ op n a b=0->q_=kO op n 0 a b/\G_=kG m op n a b ga gb)):=by
 have d:=((((sS g).aS hSa).aS hSb).aB tb);refine go Tryz.func77 [(0,.agg #[.iface 94 (.agg #[qS u m l]),.map (some bm),qF]),(1,bO ⟨op,n,q,s,A,kn,c⟩),(2,qY a j ga.length p),(3,qY b x gb.length B)] rfl (ax (lA 4 100 ([.iface 94 (.agg #[qS u m l]),.map (some bm),qF]) d (fun O w2 h3 d=>lA 5 50 (da ⟨op,n,q,s,A,kn,c⟩) d (fun b4 w5 h6 d=>lA 6 59 (qZ a j ga.length p) d (fun b7 w8 h9 d=>lA 7 59 (qZ b x gb.length B) d (fun b10 _ _ d=>lA 8 59 ([qF,uV 0,eS,uV 0,eS,sZ]) d (fun b13 _ _ d=>lL d ac (ag (aa d [.v (pB b4),.o (iV op) 3 0 1] (aZ (ax ?_)))))))))));cases za:((op:Int) == (3:Int))
 .
  have zk:=aj za;refine lB 14 za (lL d ac (ah (ax ?_)));cases zb:((op:Int) == (4:Int))
  .
   have zl:=aj zb;refine lB 21 zb (lL d ac (ah (ax ?_)));cases zc:((op:Int) == (5:Int))
   .
    have zm:=aj zc;refine lB 32 zc (lL d ac (ah (ax ?_)));cases zd:((op:Int) == (6:Int))
    .
     have zn:=aj zd;refine lB 39 zd (lL d ac (ah (cK (cQ (cR 9 [] mixed d ao ?_)))));refine eV 0 57 (pB O) (eO 1 58 [(4,0,1)] (.iface 94 (.agg #[qS u m l])) d (eO 2 59 [(2,0,6)] (qY a j ga.length p) d (eV 4 61 (pB O) (eO 5 62 [(4,0,1)] (.iface 94 (.agg #[qS u m l])) d (eO 6 63 [(1,0,6)] (qY b x gb.length B) d (au 3 60 d (fun _ _ d=>JS u m l J a j ga.length p _ _ d.g) (fun _ _ d=>au 7 64 d (fun _ _ d=>JS u m l J b x gb.length B _ _ d.g) (fun _ _ d=>au 8 65 d (fun _ _ d=>I2 a b (LQ.mono ha oM) (LQ.mono I oM) _ _ d.g) (fun _ _ d=>bU d (fun _ _ d=>tV 9 10 (iV (cZ a b)) (tN (cQ (aa d ac ?_)))))))))))));cases ze:((cZ a b:Int) == (0:Int))
     .
      have zo:=aj ze;refine lB 67 ze (ah (cK (cQ (aa d ac ?_))));cases zf:(decide ((0:Int)<(cZ a b:Int)))
      .
       have zp:=oF zf;refine lB 70 zf (lL d [.v (pB b4),.o (iV op) 3 0 1] ?_);cases zg:((op:Int) == (12:Int))
       .
        have zq:=aj zg;refine lB 73 zg (lL d [.v qT] (am (aa d [.o (qY a j ga.length p) 2 0 6] (lP 0 0 (qZ a j ga.length p) d (fun _ d=>lL d ac (lN (kX ?_)))))));have y:bJ op n a b=0:=(eN (fun e=>absurd e oM) (fun e=>absurd e oM) (fun e=>absurd e oM) (fun _=>fun e_=>absurd (il.2 e_) oM));exact d.ret [(0,0,6)] (.tuple #[qY a j ga.length p,iV 0]) (⟨a,ga,_,_,by rw[y],d.f.r.1,fun _=>(EM H (Bm oM))⟩)
       have zq:=eq_of_beq zg;refine lB 73 zg (lL d [.v qF] (ah (cK (aa d [.o (qY b x gb.length B) 1 0 6] (lP 0 0 (qZ b x gb.length B) d (fun _ d=>lL d ac (lN (kX ?_))))))));have y:bJ op n a b=0:=(eN (fun e=>absurd e oM) (fun e=>absurd e oM) (fun e=>absurd e oM) (fun _=>fun e_=>absurd (il.2 e_) oM));exact d.ret [(0,0,6)] (.tuple #[qY b x gb.length B,iV 0]) (⟨b,gb,_,_,by rw[y],d.f.2.1,fun _=>(EU F (Aj oM))⟩)
      have zp:=oT zf;refine lB 70 zf (lL d [.v (pB b4),.o (iV op) 3 0 1] ?_);cases zi:((op:Int) == (12:Int))
      .
       have zr:=aj zi;refine lB 73 zi (lL d [.v qF] (ah (cK (aa d [.o (qY b x gb.length B) 1 0 6] (lP 0 0 (qZ b x gb.length B) d (fun _ d=>lL d ac (lN (kX ?_))))))));have y:bJ op n a b=0:=(eN (fun e=>absurd e oM) (fun e=>absurd e oM) (fun e=>absurd e oM) (fun _=>fun e_=>absurd (il.2 e_) oM));exact d.ret [(0,0,6)] (.tuple #[qY b x gb.length B,iV 0]) (⟨b,gb,_,_,by rw[y],d.f.2.1,fun _=>(EU F (Aj oM))⟩)
      have zr:=eq_of_beq zi;refine lB 73 zi (lL d [.v qT] (am (aa d [.o (qY a j ga.length p) 2 0 6] (lP 0 0 (qZ a j ga.length p) d (fun _ d=>lL d ac (lN (kX ?_)))))));have y:bJ op n a b=0:=(eN (fun e=>absurd e oM) (fun e=>absurd e oM) (fun e=>absurd e oM) (fun _=>fun e_=>absurd (il.2 e_) oM));exact d.ret [(0,0,6)] (.tuple #[qY a j ga.length p,iV 0]) (⟨a,ga,_,_,by rw[y],d.f.r.1,fun _=>(EM H (Bm oM))⟩)
     have zo:=eq_of_beq ze;refine lB 67 ze (am (aa d [.o (qY a j ga.length p) 2 0 6] (lP 0 0 (qZ a j ga.length p) d (fun _ d=>lL d ac (lN (kX ?_))))));have y:bJ op n a b=7:=(EX (.inr ⟨by omega,il.1 oM⟩));exact d.ret [(0,0,6)] (.tuple #[qY a j ga.length p,iV 7]) (⟨a,ga,_,_,by rw[y],d.f.r.1,fun e=>absurd e (by rw[y];decide)⟩)
    have zn:=eq_of_beq zd;refine lB 39 zd (lL d ac (am (cQ (aa d [.v (pB O),.o (.iface 94 (.agg #[qS u m l])) 4 0 1,.o (qY b x gb.length B) 1 0 6] (aq 43 d (JS u m l J b x gb.length B _ _ d.g) (fun _ _ d=>aq 44 d (jl b (LQ.mono I oM) _ _ d.g) (fun _ _ d=>?_)))))));have bk:=ib b.num;cases zj:((b.num.sign:Int) == (0:Int))
    .
     have zs:=aj zj;refine lB 45 zj (ah (cK (cQ (cR 10 [] mixed d ao ?_))));refine eV 0 47 (pB O) (eO 1 48 [(4,0,1)] (.iface 94 (.agg #[qS u m l])) d (eO 2 49 [(2,0,6)] (qY a j ga.length p) d (eV 3 50 (pB O) (eO 4 51 [(4,0,1)] (.iface 94 (.agg #[qS u m l])) d (eO 5 52 [(1,0,6)] (qY b x gb.length B) d (eV 7 54 (.iface 94 (.agg #[qS u m l])) (eV 8 55 (.iface 94 (.agg #[qS u m l])) (eC 6 53 d (fun _ _ d=>oI u m l J (14*K+40) (D+40*K+100) oM oM oM b gb x B F (LQ.mono I oM) (fun i=>LQ.mono (C i) oM) (uJ (kM oM)) _ _ d.g d.f.2.1 d.f.1) ?_))))))));rintro _ _ _ _ _ d ⟨bd,rfl,V⟩;replace d:=d.aS V;refine eC 9 56 d (fun _ _ d=>Eu u m l J (14*K+40) (D+40*K+100) oM oM oM a ga j p H (LQ.mono ha oM) (fun i=>LQ.mono (L i) oM) (((1:Int):Rat)/b) ((ov m).map fun i=>gb.getD i 0*(-((((1:Int):Rat)/b)*(((1:Int):Rat)/b)))) (sB bd) m (gH _ _) (LQ.mono (LQ.div (LQ.int (z:=1) kD kD) I) oM) (lz (fun i=>LQ.mono ((C i).mul ((LQ.div (LQ.int (z:=1) kD kD) I).mul (LQ.div (LQ.int (z:=1) kD kD) I)).neg) oM) oM) _ _ d.g d.f.r.2.1 d.f.1 d.f.2.1) ?_;rintro _ _ _ _ _ d ⟨M,rfl,X⟩;replace d:=d.aS X;refine bU d (fun _ _ d=>tP 10 0 0 (qZ (a*(((1:Int):Rat)/b)) (sB M) (((ov m).map fun i=>ga.getD i 0*(((1:Int):Rat)/b)+a*((ov m).map fun i=>gb.getD i 0*(-((((1:Int):Rat)/b)*(((1:Int):Rat)/b)))).getD i 0).length) m) d (fun _ d=>tV 11 9 (iV 0) (tN (kX ?_))));obtain rfl:op=6:=by omega
     have y:bJ 6 n a b=0:=(eN (fun _=>kM oM) (fun e=>absurd e kD) (fun e=>absurd e kD) (fun e=>absurd e kD));exact d.ret [(0,0,6)] (.tuple #[qY (a*(((1:Int):Rat)/b)) (sB M) (((ov m).map fun i=>ga.getD i 0*(((1:Int):Rat)/b)+a*((ov m).map fun i=>gb.getD i 0*(-((((1:Int):Rat)/b)*(((1:Int):Rat)/b)))).getD i 0).length) m,iV 0]) (⟨a*(((1:Int):Rat)/b),((ov m).map fun i=>ga.getD i 0*(((1:Int):Rat)/b)+a*((ov m).map fun i=>gb.getD i 0*(-((((1:Int):Rat)/b)*(((1:Int):Rat)/b)))).getD i 0),_,_,by rw[y],d.f.1,fun _=>(Ll (kM oM))⟩)
    have zs:=eq_of_beq zj;refine lB 45 zj (am (aa d [.o (qY a j ga.length p) 2 0 6] (lP 0 0 (qZ a j ga.length p) d (fun _ d=>lL d ac (lN (kX ?_))))));obtain rfl:op=6:=by omega
    have y:bJ 6 n a b=6:=(Fi (.inl ⟨rfl,Ce oM⟩));exact d.ret [(0,0,6)] (.tuple #[qY a j ga.length p,iV 6]) (⟨a,ga,_,_,by rw[y],d.f.r.1,fun e=>absurd e (by rw[y];decide)⟩)
   have zm:=eq_of_beq zc;refine lB 32 zc (lL d ac (am (aa d [.v (pB O),.o (.iface 94 (.agg #[qS u m l])) 4 0 1,.o (qY a j ga.length p) 2 0 6,.o (qY b x gb.length B) 1 0 6] (lC 37 d (Eu u m l J (14*K+40) (D+40*K+100) oM oM oM a ga j p H (LQ.mono ha oM) (fun i=>LQ.mono (L i) oM) b gb x B F (LQ.mono I oM) (fun i=>LQ.mono (C i) oM) _ _ d.g d.f.r.1 d.f.2.1 d.f.1) ?_))));rintro _ _ _ d ⟨U,rfl,W⟩;replace d:=d.aS W;refine lP 0 0 (qZ (a*b) (sB U) (((ov m).map fun i=>ga.getD i 0*b+a*gb.getD i 0).length) m) d (fun _ d=>lL d ac (lN (kX ?_)));obtain rfl:op=5:=by omega
   have y:bJ 5 n a b=0:=(eN (fun e=>absurd e kD) (fun e=>absurd e kD) (fun e=>absurd e kD) (fun e=>absurd e kD));exact d.ret [(0,0,6)] (.tuple #[qY (a*b) (sB U) (((ov m).map fun i=>ga.getD i 0*b+a*gb.getD i 0).length) m,iV 0]) (⟨a*b,((ov m).map fun i=>ga.getD i 0*b+a*gb.getD i 0),_,_,by rw[y],d.f.1,fun _=>⟨rfl,K9⟩⟩)
  have zl:=eq_of_beq zb;refine lB 21 zb (lL d ac (am (cQ (cR 9 [] mixed d ao ?_))));refine eV 0 22 (pB O) (eO 1 23 [(4,0,1)] (.iface 94 (.agg #[qS u m l])) d (eO 2 24 [(2,0,6)] (qY a j ga.length p) d (eO 3 25 [(4,0,3)] (.agg #[.iface 94 (.agg #[qS u m l]),.map (some bm),qF]) d (eO 4 26 [(1,0,6)] (qY b x gb.length B) d (eV 6 28 (.iface 94 (.agg #[qS u m l])) (eV 7 29 (.iface 94 (.agg #[qS u m l])) (eC 5 27 d (fun _ _ d=>om u m l J (14*K+40) (D+40*K+100) oM oM oM bm false b gb x B F (LQ.mono I oM) (fun i=>LQ.mono (C i) oM) _ _ d.g d.f.2.1 d.f.1) ?_)))))));rintro _ _ _ _ _ d ⟨bf,rfl,Z⟩;replace d:=d.aS Z;refine eC 8 30 d (fun _ _ d=>Ho u m l J (14*K+40) (D+40*K+100) oM oM oM a ga j p H (LQ.mono ha oM) (fun i=>LQ.mono (L i) oM) (b*((-1:Int):Rat)) ((ov m).map fun i=>gb.getD i 0*((-1:Int):Rat)) (sB bf) m (gH _ _) (LQ.mono (I.mul (LQ.int (z:=-1) kD kD)) oM) (lz (fun i=>((C i).mul (LQ.int (z:=-1) kD kD)).mono oM) oM) _ _ d.g d.f.r.2.1 d.f.1 d.f.2.1) ?_;rintro _ _ _ _ _ d ⟨Q,rfl,Y⟩;replace d:=d.aS Y;refine bU d (fun _ _ d=>tP 9 0 0 (qZ (a+(b*((-1:Int):Rat))) (sB Q) (((ov m).map fun i=>ga.getD i 0+((ov m).map fun i=>gb.getD i 0*((-1:Int):Rat)).getD i 0).length) m) d (fun _ d=>tV 10 9 (iV 0) (tN (kX ?_))));obtain rfl:op=4:=by omega
  have y:bJ 4 n a b=0:=(eN (fun e=>absurd e kD) (fun e=>absurd e kD) (fun e=>absurd e kD) (fun e=>absurd e kD));exact d.ret [(0,0,6)] (.tuple #[qY (a+(b*((-1:Int):Rat))) (sB Q) (((ov m).map fun i=>ga.getD i 0+((ov m).map fun i=>gb.getD i 0*((-1:Int):Rat)).getD i 0).length) m,iV 0]) (⟨a+(b*((-1:Int):Rat)),((ov m).map fun i=>ga.getD i 0+((ov m).map fun i=>gb.getD i 0*((-1:Int):Rat)).getD i 0),_,_,by rw[y],d.f.1,fun _=>K4⟩)
 have zk:=eq_of_beq za;refine lB 14 za (lL d ac (am (aa d [.v (pB O),.o (.iface 94 (.agg #[qS u m l])) 4 0 1,.o (qY a j ga.length p) 2 0 6,.o (qY b x gb.length B) 1 0 6] (lC 19 d (Ho u m l J (14*K+40) (D+40*K+100) oM oM oM a ga j p H (LQ.mono ha oM) (fun i=>LQ.mono (L i) oM) b gb x B F (LQ.mono I oM) (fun i=>LQ.mono (C i) oM) _ _ d.g d.f.r.1 d.f.2.1 d.f.1) ?_))));rintro _ _ _ d ⟨S,rfl,bb⟩;replace d:=d.aS bb;refine lP 0 0 (qZ (a+b) (sB S) (((ov m).map fun i=>ga.getD i 0+gb.getD i 0).length) m) d (fun _ d=>lL d ac (lN (kX ?_)));obtain rfl:op=3:=by omega
 have y:bJ 3 n a b=0:=(eN (fun e=>absurd e kD) (fun e=>absurd e kD) (fun e=>absurd e kD) (fun e=>absurd e kD));exact d.ret [(0,0,6)] (.tuple #[qY (a+b) (sB S) (((ov m).map fun i=>ga.getD i 0+gb.getD i 0).length) m,iV 0]) (⟨a+b,((ov m).map fun i=>ga.getD i 0+gb.getD i 0),_,_,by rw[y],d.f.1,fun _=>⟨rfl,Ln⟩⟩)
theorem FZ (ok:ByteArray->Prop)(ix:ByteArray->Nat)(fs:List Rat)(b:Z9)(i:Nat)(D:fs.length<=1000)(e:Nat)(x:List MapEntry)(d:Nat)(n:Int)(q:Rat)(s:ByteArray)(A:Z9)(c:Nat)(ps:List PTm)(ks:List Tm)(w:World)(h:Hp)(g:G w h)(z:SlO 9 da cJ h A ps)(B:Sq b fs h)(hM:MapS h e x):CR 36 #[.agg #[.iface 94 (.agg #[.slice b fs.length i]),.map (some e),.bool false],bO ⟨1,n,q,s,A,ps.length,c⟩] w h (fun v h1=>∃ (u:Z9)(c_:Nat),v=.tuple #[pn (bA ix fs (d+1) (.mk 1 n q s ks)).2.1 u (bA ix fs (d+1) (.mk 1 n q s ks)).2.2.length c_,iV (bA ix fs (d+1) (.mk 1 n q s ks)).1]/\Sq u (bA ix fs (d+1) (.mk 1 n q s ks)).2.2 h1):=by
 have a:=((((sS g).aS z).aS B).add (K:=fun C=>MapS C e x) hM);refine go Tryz.func36 [(0,.agg #[.iface 94 (.agg #[qS b fs.length i]),.map (some e),qF]),(1,bO ⟨1,n,q,s,A,ps.length,c⟩)] rfl (ax (lA 2 100 ([.iface 94 (.agg #[qS b fs.length i]),.map (some e),qF]) a (fun y w2 L a=>lA 3 50 (da ⟨1,n,q,s,A,ps.length,c⟩) a (fun l J H a=>lA 4 59 ([qF,uV 0,eS,uV 0,eS,sZ]) a (fun I M O a=>lL a ac (aG (lA 6 59 ([qF,uV 0,eS,uV 0,eS,sZ]) a (fun F _ _ a=>ag (aa a [.v (pB l),.o (iV 1) 2 0 1] (aZ (aa a [.v qT,.c] (am (aa a [.v (pB y),.o (.iface 94 (.agg #[qS b fs.length i])) 3 0 1,.v (qP l 2),.o (qv q) 2 2 5] (lC 19 a (jI b fs.length i D q _ _ a.g) ?_))))))))))))));rintro _ _ _ a ⟨p,rfl,j⟩;replace a:=a.aS j;exact lP 1 0 (qZ q (sB p) ((zY fs.length (0:Rat)).length) fs.length) a (fun _ a=>lL a ac (ae a [(1,0,6)] (.tuple #[qY q (sB p) ((zY fs.length (0:Rat)).length) fs.length,iV 0]) (⟨_,_,rfl,a.f.1⟩)))
theorem FH (ok:ByteArray->Prop)(ix:ByteArray->Nat)(fs:List Rat)(e:Z9)(j:Nat)(L:fs.length<=1000)(b:Nat)(x:List MapEntry)(d:Nat)(n:Int)(q:Rat)(s:ByteArray)(A:Z9)(c:Nat)(ps:List PTm)(ks:List Tm)(l:ix s<fs.length)(p:∃ i,Instr.findNow .string (.string s) x 0=some (some (i,nV (ix s))))(w:World)(h:Hp)(g:G w h)(F:SlO 9 da cJ h A ps)(H:Sq e fs h)(hM:MapS h b x):CR 36 #[.agg #[.iface 94 (.agg #[.slice e fs.length j]),.map (some b),.bool false],bO ⟨2,n,q,s,A,ps.length,c⟩] w h (fun v h1=>∃ (C:Z9)(c_:Nat),v=.tuple #[pn (bA ix fs (d+1) (.mk 2 n q s ks)).2.1 C (bA ix fs (d+1) (.mk 2 n q s ks)).2.2.length c_,iV (bA ix fs (d+1) (.mk 2 n q s ks)).1]/\Sq C (bA ix fs (d+1) (.mk 2 n q s ks)).2.2 h1):=by
 have a:=((((sS g).aS F).aS H).add (K:=fun I=>MapS I b x) hM);refine go Tryz.func36 [(0,.agg #[.iface 94 (.agg #[qS e fs.length j]),.map (some b),qF]),(1,bO ⟨2,n,q,s,A,ps.length,c⟩)] rfl (ax (lA 2 100 ([.iface 94 (.agg #[qS e fs.length j]),.map (some b),qF]) a (fun y w2 U a=>lA 3 50 (da ⟨2,n,q,s,A,ps.length,c⟩) a (fun z S O a=>lA 4 59 ([qF,uV 0,eS,uV 0,eS,sZ]) a (fun Q V W a=>lL a ac (aG (lA 6 59 ([qF,uV 0,eS,uV 0,eS,sZ]) a (fun M _ _ a=>ag (aa a [.v (pB z),.o (iV 2) 2 0 1] (aZ (aa a [.v qF,.c] (ah (aa a [.v qT,.c] (am (aa a [.v (pB y),.o (.iface 94 (.agg #[qS e fs.length j])) 3 0 1,.v (qP y 1),.o (.map (some b)) 3 1 1,.v (qP z 7),.o (.string s) 2 7 1] (I7 28 95 9 3 (s) false (nV (ix s)) (true) a a.f.1 ?_ (hf:=(by obtain ⟨J,D⟩:=p;exact .inl ⟨J,D,rfl⟩))))))))))))))))));refine lC 29 a (Hu e fs.length j L fs rfl (ix s) l _ _ a.g a.f.2.1) ?_;rintro _ _ _ a ⟨B,rfl,u⟩;replace a:=a.aS u;exact lP 1 0 (qZ (fs.getD (ix s) 0) (sB B) ((fD fs.length (ix s)).length) fs.length) a (fun _ a=>lL a ac (ae a [(1,0,6)] (.tuple #[qY (fs.getD (ix s) 0) (sB B) ((fD fs.length (ix s)).length) fs.length,iV 0]) (⟨_,_,rfl,a.f.1⟩)))
theorem F3  (ok:ByteArray->Prop)(ix:ByteArray->Nat)(fs:List Rat)(j:Z9)(l:Nat)(hm:fs.length<=1000)(e:Nat)(Z:List MapEntry)(d:Nat)(ih:∀ (p:PTm) (t:Tm) (w:World) (h:Hp),G w h->TmH d h p t->WfT1 ok d t->ce d t<=1000->Sq j fs h->MapS h e Z->Tab h->Calls Tryz.prog 36 #[.agg #[.iface 94 (.agg #[.slice j fs.length l]),.map (some e),.bool false],bO p] w (Ret w h (fun v h1=>∃ (D:Z9)(c_:Nat),v=.tuple #[pn (bA ix fs d t).2.1 D (bA ix fs d t).2.2.length c_,iV (bA ix fs d t).1]/\Sq D (bA ix fs d t).2.2 h1)))(op n:Int)(q:Rat)(s:ByteArray)(A:Z9)(c:Nat)(u:PTm)(b:Tm)(y:WfT1 ok d b)(J:ce d b<=1000)(hv1:LQ 3000 (bA ix fs d b).2.1)(Y:∀ i,LQ 1000000 ((bA ix fs d b).2.2.getD i 0))(hop:3<=op/\op<=13)(har:fu op=1)(hn : -12<=n/\n<=12)(w:World)(h:Hp)(g:G w h)(hK:SlO 9 da cJ h A ([u]:List PTm))(L:TmH d h u b)(hF:Sq j fs h)(hM:MapS h e Z)(tb:Tab h):CR 36 #[.agg #[.iface 94 (.agg #[.slice j fs.length l]),.map (some e),.bool false],bO ⟨op,n,q,s,A,1,c⟩] w h (fun v h1=>∃ (D:Z9)(c_:Nat),v=.tuple #[pn (bA ix fs (d+1) (.mk op n q s ([b]:List Tm))).2.1 D (bA ix fs (d+1) (.mk op n q s ([b]:List Tm))).2.2.length c_,iV (bA ix fs (d+1) (.mk op n q s ([b]:List Tm))).1]/\Sq D (bA ix fs (d+1) (.mk op n q s ([b]:List Tm))).2.2 h1):=by
 have a:=((((((sS g).aS hK).add (K:=fun X=>TmH d X u b) L).aS hF).add (K:=fun X=>MapS X e Z) hM).aB tb);have hln:([u]:List PTm).length=1:=rfl;have hac:=aE op;refine go Tryz.func36 [(0,.agg #[.iface 94 (.agg #[qS j fs.length l]),.map (some e),qF]),(1,bO ⟨op,n,q,s,A,1,c⟩)] rfl (ax (lA 2 100 ([.iface 94 (.agg #[qS j fs.length l]),.map (some e),qF]) a (fun b1 w2 h3 a=>lA 3 50 (da ⟨op,n,q,s,A,1,c⟩) a (fun Q w5 h6 a=>lA 4 59 ([qF,uV 0,eS,uV 0,eS,sZ]) a (fun b7 w8 h9 a=>lL a ac (aG (lA 6 59 ([qF,uV 0,eS,uV 0,eS,sZ]) a (fun b10 _ _ a=>ag (aa a [.v (pB Q),.o (iV op) 2 0 1] (aZ (ax ?_)))))))))));have zc:((op:Int) == (1:Int))=false:=eU oM;have S:=aj zc;refine lB 14 zc (lL a ac (ah (ax ?_)));have zd:((op:Int) == (2:Int))=false:=eU oM;have W:=aj zd;refine lB 21 zd (lL a ac (ah (cK (cQ ?_))));have M:=a;refine cR 10 [⟨9,7,.cells (MU [qF,uV 0,eS,uV 0,eS,sZ]) 59 (0,0)⟩] mixed a (bw (ee kR (fun _ _=>by kernel_rfl)) ao) (eO 0 31 [(3,0,3)] (.agg #[.iface 94 (.agg #[qS j fs.length l]),.map (some e),qF]) a (eV 1 32 (qP Q 8) (eO 2 33 [(2,8,1)] (qS A 1 c) a (eX 3 34 A 1 c 9 0 0 ((a.f.q.1).ok oM) (eH 4 35 (bO (([u]:List PTm).getD 0 cJ)) a ((a.f.q.1).el 0 oM) (eC 5 36 a (fun _ _ a=>ih (([u]:List PTm).getD 0 cJ) b _ _ a.g a.f.r.2.1 y J a.f.r.1 a.f.2.1 a.f.1) ?_))))));rintro _ _ _ _ _ a ⟨F,c1,rfl,U⟩;replace a:=a.aS U;refine eV 6 30 (.tuple #[qY ((bA ix fs d b).2.1) F (((bA ix fs d b).2.2).length) c1,iV ((bA ix fs d b).1)]) (eV 7 37 (qY ((bA ix fs d b).2.1) F (((bA ix fs d b).2.2).length) c1) (eV 8 38 (iV ((bA ix fs d b).1)) (fL [] M a 59 [qF,uV 0,eS,uV 0,eS,sZ] (fun _ _ zg a=>tP 10 0 0 (qZ ((bA ix fs d b).2.1) F (((bA ix fs d b).2.2).length) c1) a (fun _ a=>tV 11 8 (iV ((bA ix fs d b).1)) (tN (cQ (aa a ac ?_))))))));cases H:(((bA ix fs d b).1:Int) != (0:Int))
 .
  have ze:=aJ H;refine lB 40 H (ah (cK (cQ (aa a [.v (qP Q 8),.o (qS A 1 c) 3 8 1,.v (iV 1),.v qT] (am (kQ (lL a [.o (.agg #[.iface 94 (.agg #[qS j fs.length l]),.map (some e),qF]) 4 0 3,.o (bO ⟨op,n,q,s,A,1,c⟩) 3 0 9,.o (qY ((bA ix fs d b).2.1) F (((bA ix fs d b).2.2).length) c1) 0 0 6] (lC 51 a (De j fs.length l hm 3000 1000000 kD kD kD e op n q s A 1 c (bA ix fs d b).2.1 (bA ix fs d b).2.2 F c1 (im y oM) hv1 Y oM (fun _=>hn) _ _ a.g a.f.1 a.f.2.1) ?_))))))));rintro _ _ _ a ⟨z,Gr,C,B,rfl,O,V⟩;replace a:=a.aS O;refine lL a [.c,.v (qY z C Gr.length B),.v (iV (bJ op n (bA ix fs d b).2.1 0))] (lP 0 0 (qZ z C Gr.length B) a (fun _ a=>lL a ac (ag (aa a ac ?_))));cases I:(((bJ op n (bA ix fs d b).2.1 0):Int) != (0:Int))
  .
   have zf:=aJ I;exact lB 76 I (ah (cK (aa a [.o (qY z C Gr.length B) 0 0 6] (lP 2 0 (qZ z C Gr.length B) a (fun _ a=>lL a ac (ae a [(2,0,6)] (.tuple #[qY z C Gr.length B,iV 0]) (by obtain ⟨e1_,x⟩:=V oM;rw[uO oM oM,kJ oM rfl oM,e1_,x];exact ⟨_,_,rfl,by rw[<-x];exact a.f.1⟩)))))))
  have zf:=aI I;refine lB 76 I (am (aa a [.o (.agg #[qF,uV 0,eS,uV 0,eS,sZ]) 1 0 6,.c] (lP 2 0 ([qF,uV 0,eS,uV 0,eS,sZ]) a (fun _ a=>lL a ac (lN (bH [(4,pB b7),(5,iV (bJ op n (bA ix fs d b).2.1 0)),(7,pB zg)] ?_))))));exact kX (a.ret [(2,0,6)] (.tuple #[.agg #[qF,uV 0,eS,uV 0,eS,sZ],iV (bJ op n (bA ix fs d b).2.1 0)]) (by rw[uO oM oM,nG oM rfl oM];exact ⟨none,0,rfl,SlO.nil⟩))
 have ze:=aI H;exact lB 40 H (am (aa a [.o (.agg #[qF,uV 0,eS,uV 0,eS,sZ]) 1 0 6,.c] (lP 2 0 ([qF,uV 0,eS,uV 0,eS,sZ]) a (fun _ a=>lL a ac (ae a [(2,0,6)] (.tuple #[.agg #[qF,uV 0,eS,uV 0,eS,sZ],iV ((bA ix fs d b).1)]) (by rw[uO oM oM,nE oM];exact ⟨none,0,rfl,SlO.nil⟩))))))
theorem Gl  (ok:ByteArray->Prop)(ix:ByteArray->Nat)(fs:List Rat)(l:Z9)(u:Nat)(hm:fs.length<=1000)(j:Nat)(es:List MapEntry)(d:Nat)(ih:∀ (p:PTm) (t:Tm) (w:World) (h:Hp),G w h->TmH d h p t->WfT1 ok d t->ce d t<=1000->Sq l fs h->MapS h j es->Tab h->Calls Tryz.prog 36 #[.agg #[.iface 94 (.agg #[.slice l fs.length u]),.map (some j),.bool false],bO p] w (Ret w h (fun v h1=>∃ (Q:Z9)(c_:Nat),v=.tuple #[pn (bA ix fs d t).2.1 Q (bA ix fs d t).2.2.length c_,iV (bA ix fs d t).1]/\Sq Q (bA ix fs d t).2.2 h1)))(op n:Int)(q:Rat)(s:ByteArray)(A:Z9)(c:Nat)(x:PTm)(b:Tm)(O:WfT1 ok d b)(hg1:ce d b<=1000)(hv1:LQ 3000 (bA ix fs d b).2.1)(hG1:∀ i,LQ 1000000 ((bA ix fs d b).2.2.getD i 0))(y:PTm)(e:Tm)(L:WfT1 ok d e)(hg2:ce d e<=1000)(hv2:LQ 3000 (bA ix fs d e).2.1)(hG2:∀ i,LQ 1000000 ((bA ix fs d e).2.2.getD i 0))(hop:3<=op/\op<=13)(har:fu op=2)(hn : -12<=n/\n<=12)(w:World)(h:Hp)(g:G w h)(hK:SlO 9 da cJ h A ([x,y]:List PTm))(hp1:TmH d h x b)(W:TmH d h y e)(hF:Sq l fs h)(hM:MapS h j es)(tb:Tab h):CR 36 #[.agg #[.iface 94 (.agg #[.slice l fs.length u]),.map (some j),.bool false],bO ⟨op,n,q,s,A,2,c⟩] w h (fun v h1=>∃ (Q:Z9)(c_:Nat),v=.tuple #[pn (bA ix fs (d+1) (.mk op n q s ([b,e]:List Tm))).2.1 Q (bA ix fs (d+1) (.mk op n q s ([b,e]:List Tm))).2.2.length c_,iV (bA ix fs (d+1) (.mk op n q s ([b,e]:List Tm))).1]/\Sq Q (bA ix fs (d+1) (.mk op n q s ([b,e]:List Tm))).2.2 h1):=by
 have a:=(((((((sS g).aS hK).add (K:=fun I=>TmH d I x b) hp1).add (K:=fun I=>TmH d I y e) W).aS hF).add (K:=fun I=>MapS I j es) hM).aB tb);have hln:([x,y]:List PTm).length=2:=rfl;have hac:=aE op;refine go Tryz.func36 [(0,.agg #[.iface 94 (.agg #[qS l fs.length u]),.map (some j),qF]),(1,bO ⟨op,n,q,s,A,2,c⟩)] rfl (ax (lA 2 100 ([.iface 94 (.agg #[qS l fs.length u]),.map (some j),qF]) a (fun b1 w2 h3 a=>lA 3 50 (da ⟨op,n,q,s,A,2,c⟩) a (fun M w5 h6 a=>lA 4 59 ([qF,uV 0,eS,uV 0,eS,sZ]) a (fun b7 w8 h9 a=>lL a ac (aG (lA 6 59 ([qF,uV 0,eS,uV 0,eS,sZ]) a (fun zj _ _ a=>ag (aa a [.v (pB M),.o (iV op) 2 0 1] (aZ (ax ?_)))))))))));have zd:((op:Int) == (1:Int))=false:=eU oM;have Z:=aj zd;refine lB 14 zd (lL a ac (ah (ax ?_)));have ze:((op:Int) == (2:Int))=false:=eU oM;have Y:=aj ze;refine lB 21 ze (lL a ac (ah (cK (cQ ?_))));have z:=a;refine cR 10 [⟨9,7,.cells (MU [qF,uV 0,eS,uV 0,eS,sZ]) 59 (0,0)⟩] mixed a (bw (ee kR (fun _ _=>by kernel_rfl)) ao) (eO 0 31 [(3,0,3)] (.agg #[.iface 94 (.agg #[qS l fs.length u]),.map (some j),qF]) a (eV 1 32 (qP M 8) (eO 2 33 [(2,8,1)] (qS A 2 c) a (eX 3 34 A 2 c 9 0 0 ((a.f.q.2.1).ok oM) (eH 4 35 (bO (([x,y]:List PTm).getD 0 cJ)) a ((a.f.q.2.1).el 0 oM) (eC 5 36 a (fun _ _ a=>ih (([x,y]:List PTm).getD 0 cJ) b _ _ a.g a.f.q.1 O hg1 a.f.r.1 a.f.2.1 a.f.1) ?_))))));rintro _ _ _ _ _ a ⟨F,c1,rfl,hS1⟩;replace a:=a.aS hS1;refine eV 6 30 (.tuple #[qY ((bA ix fs d b).2.1) F (((bA ix fs d b).2.2).length) c1,iV ((bA ix fs d b).1)]) (eV 7 37 (qY ((bA ix fs d b).2.1) F (((bA ix fs d b).2.2).length) c1) (eV 8 38 (iV ((bA ix fs d b).1)) (fL [] z a 59 [qF,uV 0,eS,uV 0,eS,sZ] (fun _ _ zk a=>tP 10 0 0 (qZ ((bA ix fs d b).2.1) F (((bA ix fs d b).2.2).length) c1) a (fun _ a=>tV 11 8 (iV ((bA ix fs d b).1)) (tN (cQ (aa a ac ?_))))))));cases U:(((bA ix fs d b).1:Int) != (0:Int))
 .
  have zf:=aJ U;refine lB 40 U (ah (cK (cQ (aa a [.v (qP M 8),.o (qS A 2 c) 3 8 1,.v (iV 2),.v qF] (ah (cQ ?_))))));have z:=a;refine cR 10 [⟨9,9,.cells (MU [qF,uV 0,eS,uV 0,eS,sZ]) 59 (0,0)⟩] mixed a (bw (ee kR (fun _ _=>by kernel_rfl)) ao) (eO 0 55 [(4,0,3)] (.agg #[.iface 94 (.agg #[qS l fs.length u]),.map (some j),qF]) a (eV 1 56 (qP M 8) (eO 2 57 [(3,8,1)] (qS A 2 c) a (eX 3 58 A 2 c 9 1 1 ((a.f.q.r.1).ok oM) (eH 4 59 (bO (([x,y]:List PTm).getD 1 cJ)) a ((a.f.q.r.1).el 1 oM) (eC 5 60 a (fun _ _ a=>ih (([x,y]:List PTm).getD 1 cJ) e _ _ a.g a.f.q.1 L hg2 a.f.r.2.1 a.f.r.1 a.f.2.1) ?_))))));rintro _ _ _ _ _ a ⟨H,c2,rfl,hS2⟩;replace a:=a.aS hS2;refine eV 6 54 (.tuple #[qY ((bA ix fs d e).2.1) H (((bA ix fs d e).2.2).length) c2,iV ((bA ix fs d e).1)]) (eV 7 61 (qY ((bA ix fs d e).2.1) H (((bA ix fs d e).2.2).length) c2) (eV 8 62 (iV ((bA ix fs d e).1)) (fL [] z a 59 [qF,uV 0,eS,uV 0,eS,sZ] (fun _ _ zl a=>tP 10 0 0 (qZ ((bA ix fs d e).2.1) H (((bA ix fs d e).2.2).length) c2) a (fun _ a=>tV 11 10 (iV ((bA ix fs d e).1)) (tN (bH [(2,pB b1),(3,pB M),(4,pB b7),(5,iV 0),(6,pB zj),(7,pB zk),(8,iV ((bA ix fs d b).1)),(9,pB zl),(10,iV ((bA ix fs d e).1))] ?_)))))));refine cQ (aa a ac ?_);cases V:(((bA ix fs d e).1:Int) != (0:Int))
  .
   have zg:=aJ V;refine lB 64 V (ah (cK (kQ (lL a [.o (.agg #[.iface 94 (.agg #[qS l fs.length u]),.map (some j),qF]) 5 0 3,.o (bO ⟨op,n,q,s,A,2,c⟩) 4 0 9,.o (qY ((bA ix fs d b).2.1) F (((bA ix fs d b).2.2).length) c1) 1 0 6,.o (qY ((bA ix fs d e).2.1) H (((bA ix fs d e).2.2).length) c2) 0 0 6] (lC 72 a (Cu l fs.length u hm 3000 1000000 kD kD kD j op n q s A 2 c (bA ix fs d b).2.1 (bA ix fs d b).2.2 F c1 (im O oM) hv1 hG1 (bA ix fs d e).2.1 (bA ix fs d e).2.2 H c2 (im L oM) hv2 hG2 oM _ _ a.g a.f.2.1 a.f.1 a.f.r.1) ?_)))));rintro _ _ _ a ⟨B,Gr,D,C,rfl,X,hRr⟩;replace a:=a.aS X;refine lL a [.c,.v (qY B D Gr.length C),.v (iV (bJ op n (bA ix fs d b).2.1 (bA ix fs d e).2.1))] (lP 1 0 (qZ B D Gr.length C) a (fun _ a=>lL a ac (ag (aa a ac ?_))));cases S:(((bJ op n (bA ix fs d b).2.1 (bA ix fs d e).2.1):Int) != (0:Int))
   .
    have zi:=aJ S;exact lB 76 S (ah (cK (aa a [.o (qY B D Gr.length C) 1 0 6] (lP 3 0 (qZ B D Gr.length C) a (fun _ a=>lL a ac (ae a [(3,0,6)] (.tuple #[qY B D Gr.length C,iV 0]) (by obtain ⟨e1_,J⟩:=hRr oM;rw[qe oM oM,kJ oM oM oM,e1_,J];exact ⟨_,_,rfl,by rw[<-J];exact a.f.1⟩)))))))
   have zi:=aI S;exact lB 76 S (am (aa a [.o (.agg #[qF,uV 0,eS,uV 0,eS,sZ]) 2 0 6,.c] (lP 3 0 ([qF,uV 0,eS,uV 0,eS,sZ]) a (fun _ a=>lL a ac (ae a [(3,0,6)] (.tuple #[.agg #[qF,uV 0,eS,uV 0,eS,sZ],iV (bJ op n (bA ix fs d b).2.1 (bA ix fs d e).2.1)]) (by rw[qe oM oM,nG oM oM oM];exact ⟨none,0,rfl,SlO.nil⟩))))))
  have zg:=aI V;exact lB 64 V (am (aa a [.o (.agg #[qF,uV 0,eS,uV 0,eS,sZ]) 2 0 6,.c] (lP 3 0 ([qF,uV 0,eS,uV 0,eS,sZ]) a (fun _ a=>lL a ac (ae a [(3,0,6)] (.tuple #[.agg #[qF,uV 0,eS,uV 0,eS,sZ],iV ((bA ix fs d e).1)]) (by rw[qe oM oM,py oM oM];exact ⟨none,0,rfl,SlO.nil⟩))))))
 have zf:=aI U;exact lB 40 U (am (aa a [.o (.agg #[qF,uV 0,eS,uV 0,eS,sZ]) 1 0 6,.c] (lP 2 0 ([qF,uV 0,eS,uV 0,eS,sZ]) a (fun _ a=>lL a ac (ae a [(2,0,6)] (.tuple #[.agg #[qF,uV 0,eS,uV 0,eS,sZ],iV ((bA ix fs d b).1)]) (by rw[qe oM oM,nE oM];exact ⟨none,0,rfl,SlO.nil⟩))))))
theorem ET (ok:ByteArray->Prop)(ix:ByteArray->Nat)(fs:List Rat)(l:Z9)(u:Nat)(B:fs.length<=1000)(e:Nat)(o:List MapEntry)(L:∀ i,LQ 1 (fs.getD i 0))(f:∀ s,ok s->ix s<fs.length/\∃ i,Instr.findNow .string (.string s) o 0=some (some (i,nV (ix s)))):∀ (d:Nat) (p:PTm) (t:Tm) (w:World) (h:Hp),d<=24->G w h->TmH d h p t->WfT1 ok d t->ce d t<=1000->Sq l fs h->MapS h e o->Tab h->Calls Tryz.prog 36 #[.agg #[.iface 94 (.agg #[.slice l fs.length u]),.map (some e),.bool false],bO p] w (Ret w h (fun v h1=>∃ (O:Z9)(c_:Nat),v=.tuple #[pn (bA ix fs d t).2.1 O (bA ix fs d t).2.2.length c_,iV (bA ix fs d t).1]/\Sq O (bA ix fs d t).2.2 h1))
  | 0,_,_,_,_,_,_,x,_,_,_,_,_=>x.elim
  | d + 1,p,t,w,h,hd,g,x,wf,hw,hF,hM,tb=>by
    obtain ⟨op,n,q,s,A,c,ps,ks,rfl,rfl,Z,D,a⟩:=x.open;obtain ⟨w1,w2,w3,K,Y,X,C,F,z⟩:=wf;replace w1:fu op=(ks.length:Nat):=w1;replace C : -12<=n:=C;replace F:n<=12:=F;replace z:∀ i,i<ks.length->WfT1 ok d (ks.getD i cY):=z;have S:=aE op;have M:=fun p t w h=>ET ok ix fs l u B e o L f d p t w h oM
    have y:∀ t,WfT1 ok d t->ce d t<=1000->LQ 3000 (bA ix fs d t).2.1/\∀ i,LQ 1000000 ((bA ix fs d t).2.2.getD i 0):=fun t W k2=>by
      obtain ⟨_,Q,V⟩:=qp (ix:=ix) L W;exact ⟨Q.mono oM,fun i=>(V i).mono (by have:=Md k2 (show d<=24 by omega);omega)⟩
    rcases jH w1 with rfl|⟨t1,rfl⟩|⟨t1,t2,rfl⟩
    . simp only[NX] at w1
      by_cases o1:op=1
      . subst o1;exact FZ ok ix fs l u B e o d n q s A c ps [] w h g D hF hM
      . obtain rfl:op=2:=by omega
        exact FH ok ix fs l u B e o d n q s A c ps [] (f s (K rfl)).1 (f s (K rfl)).2 w h g D hF hM
    . obtain ⟨H,rfl⟩:=N7.1 (show ps.length=1 from a.len)
      simp only[tq,NX] at w1
      have b:WfT1 ok d t1:=z 0 (MB _);have j:ce d t1<=1000:=pA hw;exact F3 ok ix fs l u B e o d M op n q s A c H t1 b j (y t1 b j).1 (y t1 b j).2 oM oM ⟨C,F⟩ w h g D (a.at_ 0 (MB _)) hF hM tb
    . obtain ⟨H,U,rfl⟩:=oX (show ps.length=2 from a.len)
      simp only[tq,NX] at w1
      have b:WfT1 ok d t1:=z 0 (MB _);have J:WfT1 ok d t2:=z 1 (by show 1<2;decide);obtain ⟨j,I⟩:=qm hw;exact Gl ok ix fs l u B e o d M op n q s A c H t1 b j (y t1 b j).1 (y t1 b j).2 U t2 J I (y t2 J I).1 (y t2 J I).2 oM oM ⟨C,F⟩ w h g D (a.at_ 0 (MB _)) (a.at_ 1 (by show 1<2;decide)) hF hM tb
def Fb (s:ByteArray):Prop:=s=⟨#[120]⟩\/s=⟨#[121]⟩\/s=⟨#[122]⟩
theorem G4:∀ {k:Nat},k<3->Fb (cD.getD k ⟨#[]⟩)
 | 0,_=>.inl rfl
 | 1,_=>.inr (.inl rfl)
 | 2,_=>.inr (.inr rfl)
def GrT (d:Nat)(t:Tm):Prop:=WfT1 Fb d t/\3*ce d t<=3^d
theorem GrT.num {d:Nat}{q:Rat}(h:LQ 1 q):GrT (d+1) (.mk 1 0 q ⟨#[]⟩ []) :=
 ⟨⟨rfl,fun h=>absurd rfl h,h,fun h=>absurd (show (1:Int)=2 from h) kD,fun _=>rfl,fun _=>rfl,by show (-12:Int)<=0;decide,by show (0:Int)<=12;decide,fun i hi=>absurd hi (NN i)⟩,by
  have:=Nat.two_pow_pos d;have:0<3^d:=Nat.pow_pos kD
  show 3*1<=3^(d+1)
  rw[Hj];omega⟩
theorem GrT.name {d:Nat}{s:ByteArray}(h:Fb s):GrT (d+1) (.mk 2 0 0 s []) :=
 ⟨⟨rfl,fun _=>rfl,iE kD,fun _=>h,fun h=>absurd rfl h,fun _=>rfl,by show (-12:Int)<=0;decide,by show (0:Int)<=12;decide,fun i hi=>absurd hi (NN i)⟩,by
  have:0<3^d:=Nat.pow_pos kD
  show 3*1<=3^(d+1)
  rw[Hj];omega⟩
theorem GrT.one {d:Nat}{op n:Int}{t:Tm}(x:GrT d t)(ha:fu op=1)(a:op≠8->n=0)(h1 : -3<=n)(b:n<=3):GrT (d+1) (.mk op n 0 ⟨#[]⟩ [t]):=by
 refine ⟨⟨ha,fun _=>rfl,iE kD,fun h=>?_,fun _=>rfl,a,by show (-12:Int)<=n;omega,by show n<=12;omega,fun i hi=>?_⟩,?_⟩
 ·have h:op=2:=h
  rw[h] at ha;exact absurd ha kD
 ·have:i=0:=by have:i<1:=hi;omega
  subst this;exact x.1
 ·show 3*((if op=11 then 2 else if op=8 then bG n else 1)*(0+ce d t))<=3^(d+1)
  have hf:(if op=11 then 2 else if op=8 then bG n else 1)<=3:=by
   unfold bG
   repeat' split
   all_goals omega
  have:=Md hf x.2;rw[Hj,y8,Nat.mul_left_comm,Nat.mul_comm (3^d)];exact this
theorem GrT.two {d:Nat}{op:Int}{t u:Tm}(x:GrT d t)(y:GrT d u)(ha:fu op=2):GrT (d+1) (.mk op 0 0 ⟨#[]⟩ [t,u]):=by
 have b:op≠8:=fun h=>by rw[h] at ha;exact absurd ha kD
 have a:op≠11:=fun h=>by rw[h] at ha;exact absurd ha kD
 refine ⟨⟨ha,fun _=>rfl,iE kD,fun h=>?_,fun _=>rfl,fun _=>rfl,by show (-12:Int)<=0;decide,by show (0:Int)<=12;decide,fun i hi=>?_⟩,?_⟩
 ·have h:op=2:=h
  rw[h] at ha;exact absurd ha kD
 ·have:i=0\/i=1:=by have:i<2:=hi;omega
  rcases this with rfl|rfl
  ·exact x.1
  ·exact y.1
 ·show 3*((if op=11 then 2 else if op=8 then bG 0 else 1)*(0+ce d t+ce d u))<=3^(d+1)
  rw[if_neg a,if_neg b,Hj];have:=x.2;have:=y.2
  omega
section
variable {d:Nat}{h:Hp}
theorem rY:RZ h (false,.slice none 0 0,.slice none 0 0) 0:=⟨false,⟨none,0,none,0,rfl,eb _,eb _,SlO.nil,SlO.nil⟩,fun _=>rfl⟩
theorem HC {b:Bool}{f l:Z9}{j c e a:Nat}{q:Rat}(hz:RZ h (b,.slice f j c,.slice l e a) q):RmH (d+1) h ⟨1,0,b,f,j,c,l,e,a,⟨#[]⟩,none,0,0⟩ (.mk 1 0 q ⟨#[]⟩ []) :=
 ⟨rfl,rfl,hz,rfl,rfl,eb _,[],rfl,SlO.nil,fun i hi=>absurd hi (NN i)⟩
theorem Eb {s:ByteArray}:RmH (d+1) h ⟨2,0,false,none,0,0,none,0,0,s,none,0,0⟩ (.mk 2 0 0 s []) :=
 ⟨rfl,rfl,rY,rfl,rfl,eb _,[],rfl,SlO.nil,fun i hi=>absurd hi (NN i)⟩
theorem xl {op n:Int}{p:RTm}{t:Tm}{b:Nat}(x:RmH d h p t)(a:SlO 7 bF bV h (some ⟨b,0,none⟩) [p]):RmH (d+1) h ⟨op,n,false,none,0,0,none,0,0,⟨#[]⟩,some ⟨b,0,none⟩,1,1⟩ (.mk op n 0 ⟨#[]⟩ [t]) :=
 ⟨rfl,rfl,rY,rfl,rfl,eb _,[p],rfl,a,fun i hi=>by
  have:i=0:=by have:i<1:=hi;omega
  subst this;exact x⟩
theorem HK {op:Int}{p q:RTm}{t u:Tm}{b:Nat}(x:RmH d h p t)(y:RmH d h q u)(a:SlO 7 bF bV h (some ⟨b,0,none⟩) [p,q]):RmH (d+1) h ⟨op,0,false,none,0,0,none,0,0,⟨#[]⟩,some ⟨b,0,none⟩,2,2⟩ (.mk op 0 0 ⟨#[]⟩ [t,u]) :=
 ⟨rfl,rfl,rY,rfl,rfl,eb _,[p,q],rfl,a,fun i hi=>by
  have:i=0\/i=1:=by have:i<2:=hi;omega
  rcases this with rfl|rfl
  ·exact x
  ·exact y⟩
end
theorem Rms.mono {d e:Nat}{h:Hp}{a:List RTm}{b:List Tm}(x:Rms d h a b)(u:d<=e):Rms e h a b:=⟨x.len,fun i hi=>(x.at_ i hi).mono u⟩
theorem Rms.set {d:Nat}{h:Hp}{a:List RTm}{b:List Tm}{r:RTm}{t:Tm}(x:Rms d h a b)(k:Nat)(y:RmH d h r t):Rms d h (a.set k r) (b.set k t):=by
 refine ⟨by simp[x.len],fun i hi=>?_⟩;rw[Mg] at hi
 rw[LM,LM,N8,N8,x.len]
 by_cases e:k=i
 ·subst e
  rw[if_pos rfl,if_pos rfl,if_pos hi,if_pos hi];exact y
 ·rw[if_neg e,if_neg e,<-LM,<-LM];exact x.at_ i hi
def ge (s:ByteArray):Prop:=s.size<=1000
theorem Dc {s:ByteArray}(h:Fb s):ge s:=by
 rcases h with rfl|rfl|rfl<;>(unfold ge;decide)
theorem Ei:ge ⟨#[]⟩:=by unfold ge;decide
def SpO (d:Nat)(h:Hp)(r:RTm)(t:Tm):Prop:=RmH (d+3) h r t/\SmT1 ge (d+3) t
theorem SpO.gw {d:Nat}{h a:Hp}{r:RTm}{t:Tm}(x:SpO d h r t)(u:Gw h a):SpO d a r t:=⟨x.1.gw u,x.2⟩
theorem fx {d:Nat}{t:Tm}(w:WfT1 Fb d t):SmT1 ge d t:=w.sm (sm:=ge) (fun _ h=>Dc h) Ei
theorem vn {α:Type}{l:List α}{k i:Nat}{x d:α}(p:α->Prop)(h:∀ i,i<l.length->p (l.getD i d))(a:p x)(hi:i<(l.set k x).length):p ((l.set k x).getD i d):=by
 rw[Mg] at hi
 rw[LM,N8]
 by_cases e:k=i
 ·subst e
  rw[if_pos rfl,if_pos hi];exact a
 ·rw[if_neg e,<-LM];exact h i hi
theorem sx {α:Type}{l:List α}{i:Nat}{x d:α}(p:α->Prop)(h:∀ i,i<l.length->p (l.getD i d))(a:p x)(hi:i<(l++[x]).length):p ((l++[x]).getD i d):=by
 rw[y4,List.length_singleton] at hi
 rw[eu]
 by_cases e:i<l.length
 ·rw[if_pos e];exact h i e
 ·rw[if_neg e,if_pos oM];exact a
theorem ir {d:Nat}{op n:Int}{q:Rat}{s:ByteArray}{ks:List Tm}(hk:ks.length<=3)(a : -1000<=op/\op<=1000)(hn : -1000<=n/\n<=1000)(c:LQ 1 q)(b:ge s)(e:∀ i,i<ks.length->SmT1 ge d (ks.getD i cY)):SmT1 ge (d+1) (.mk op n q s ks):=⟨hk,a,hn,c,b,e⟩
theorem rN {d:Nat}{n:Int}{t:Tm}(hn : -1000<=n/\n<=1000)(h:SmT1 ge d t):SmT1 ge (d+1) (.mk 8 n 0 ⟨#[]⟩ [t]) :=
 ⟨by show 1<=3;decide,by show (-1000:Int)<=8/\(8:Int)<=1000;decide,hn,iE kD,Ei,fun i hi=>by
  have:i=0:=by have:i<1:=hi;omega
  subst this;exact h⟩
theorem Ie (e:Int):aW e 4=0\/aW e 4=1\/aW e 4=2\/aW e 4=3:=by have:=cO e 4 oM;omega
instance (s:ByteArray) (ns:List ByteArray):Decidable (s∈ns):=@List.instDecidableMemOfLawfulBEq ByteArray instBEqOfDecidableEq inferInstance s ns
def bI:List ByteArray->ByteArray->Nat
  | [],_=>0
  | x::l,s=>if x=s then 0 else bI l s+1
theorem ph:∀ {l:List ByteArray} {s:ByteArray} {j:Nat},(∀ i,i<j->¬l.getD i ⟨#[]⟩=s)->j<l.length->l.getD j ⟨#[]⟩=s->bI l s=j
  | [],_,_,_,hj,_=>absurd hj (NN _)
  | x::l,s,0,_,_,h=>if_pos h
  | x::l,s,j+1,h,hj,e=>by
    have h0:¬x=s:=h 0 (MB _);have:=ph (l:=l) (s:=s) (j:=j) (fun i hi=>h (i+1) (N9 hi)) (Nat.lt_of_succ_lt_succ hj) e
    show (if x=s then 0 else bI l s+1)=j+1
    rw[if_neg h0,this]
theorem lc:∀ {l:List ByteArray} {s:ByteArray},s∈l->bI l s<l.length/\l.getD (bI l s) ⟨#[]⟩=s
  | [],_,h=>absurd h List.not_mem_nil
  | x :: l,s,h=>by
    unfold bI
    by_cases e:x=s
    . rw[if_pos e];exact ⟨MB _,e⟩
    . rw[if_neg e]
      rcases g2.1 h with h1|h1
      . exact absurd h1.symm e
      . have:=lc h1
        exact ⟨N9 this.1,this.2⟩
def JU (ns:List ByteArray)(s:ByteArray):Int:=if s∈ns then (bI ns s:Nat) else 0
theorem vb {ns:List ByteArray}{s:ByteArray}(h:s∈ns):JU ns s=(bI ns s:Nat):=if_pos h
def rJ:List ByteArray->Nat->List MapEntry
  | [],_=>[]
  | x::l,i=>⟨.string x,.int .i64 (i:Nat),i⟩::rJ l (i+1)
theorem od:∀ {l:List ByteArray} {i j:Nat} {e:MapEntry},(rJ l i)[j]?=some e->∃ x,l[j]?=some x/\e=⟨.string x,.int .i64 ((i+j:Nat):Int),i+j⟩
  | [],_,_,_,h=>by cases h
  | x::l,i,0,e,h=>by injection h with h;exact ⟨x,rfl,h.symm⟩
  | x::l,i,j+1,e,h=>by
    obtain ⟨y,h1,a⟩:=od (l:=l) (i:=i+1) (j:=j) h;exact ⟨y,h1,by rw[a,show i+1+j=i+(j+1) by omega]⟩
theorem va:∀ {l:List ByteArray} {i j:Nat} {x:ByteArray},l[j]?=some x->(rJ l i)[j]?=some ⟨.string x,.int .i64 ((i+j:Nat):Int),i+j⟩
  | [],_,_,_,h=>by cases h
  | y::l,i,0,x,h=>by injection h with h;subst h;rfl
  | y::l,i,j+1,x,h=>by
    have:=va (l:=l) (i:=i+1) (j:=j) (x:=x) h;rw[show i+1+j=i+(j+1) by omega] at this
    exact this
theorem EF {ns:List ByteArray}(hn:ns.Nodup){j:Nat}{s:ByteArray}(h:ns[j]?=some s):bI ns s=j:=by
 obtain ⟨b,e⟩:=Ml.1 h;refine ph (fun i hi a=>?_) b (by rw[LM,h];rfl);rw[LM,NO oM] at a
 have a:ns[i]'oM=s:=a;exact absurd ((List.getElem_inj hn).1 (a.trans e.symm)) oM
theorem E1 {ns:List ByteArray}(hn:ns.Nodup)(s:ByteArray):(∃ i,Instr.findNow .string (.string s) (rJ ns 0) 0=some (some (i,.int .i64 (JU ns s)))/\decide (s∈ns)=true)\/(Instr.findNow .string (.string s) (rJ ns 0) 0=some none/\decide (s∈ns)=false/\JU ns s=0):=by
 rcases MapKept.findNow_spec (d:=.string) (k:=.string s) (by simp[MapKept.IsKey]) (rJ ns 0) 0 (fun x p=>by
  obtain ⟨j,l⟩:=N6.1 p;obtain ⟨y,_,rfl⟩:=od l
  simp[MapKept.IsKey]) with ⟨a,b⟩|⟨j,e,a,b,c⟩
 ·have f:s ∉ ns:=fun h=>by
   obtain ⟨j,l⟩:=N6.1 h;exact b _ (N6.2 ⟨j,va l⟩) rfl
  exact .inr ⟨a,decide_eq_false f,if_neg f⟩
 ·obtain ⟨y,o,rfl⟩:=od b
  injection c with c
  subst c;have f:y∈ns:=N6.2 ⟨j,o⟩;refine .inl ⟨0+j,?_,decide_eq_true f⟩;rw[a,vb f,EF hn o,y8]
structure LaidO (pl:ByteArray->Int) (d:Nat) (h:Hp) (rl:List RSt) (ss:List OSt) (l:List Stp):Prop where
  rs:RSs h rl ss
  mp:ss.map OSt.stp=l
  sm:J5 ss
section srt
open Go.RowKit Go.Maps Go.Sort Go.Shelf Go.WideShapes
def Tryz.keysZ_ren:Go.Shelf.Ren:=⟨fun|7=>99|10=>142|n=>n,fun|23=>162|26=>9|3=>4|28=>166|0=>0|27=>165|33=>115|4=>4|n=>n,fun|n=>n⟩
theorem Tryz.keysZ:Go.Proofs.SlLaysZ.n7 Tryz.prog Tryz.keysZ_ren:={
 mixed:=by kernel_rfl
 f7:=⟨Tryz.f99.name,by decide,Tryz.func99.trans (congrArg some kR)⟩
 f10:=⟨Tryz.f142.name,by decide,Tryz.func142.trans (congrArg some kR)⟩
 t0:=Tryz.underlying0
 a0:=Tryz.isAgg0
 z0:=Tryz.sizeOf0
 v0:=Tryz.zeroValue0
 t4:=Tryz.underlying4
 a4:=Tryz.isAgg4
 z4:=Tryz.sizeOf4
 v4:=Tryz.zeroValue4
 t23:=Tryz.underlying162
 a23:=Tryz.isAgg162
 z23:=Tryz.sizeOf162
 v23:=Tryz.zeroValue162
 t26:=Tryz.underlying9
 a26:=Tryz.isAgg9
 z26:=Tryz.sizeOf9
 v26:=Tryz.zeroValue9
 t27:=Tryz.underlying165
 a27:=Tryz.isAgg165
 z27:=Tryz.sizeOf165
 v27:=Tryz.zeroValue165
 t28:=Tryz.underlying166
 a28:=Tryz.isAgg166
 z28:=Tryz.sizeOf166
 v28:=Tryz.zeroValue166
 t33:=Tryz.underlying115
 a33:=Tryz.isAgg115
 z33:=Tryz.sizeOf115
 v33:=Tryz.zeroValue115 }
def Tryz.sortedZ_ren:Go.Shelf.Ren:=⟨fun|6=>98|8=>140|9=>141|11=>174|13=>176|12=>175|23=>204|24=>134|14=>195|15=>196|16=>197|17=>198|18=>199|19=>200|20=>201|21=>202|22=>203|25=>214|26=>215|27=>216|28=>217|29=>218|30=>219|31=>226|n=>n,fun|26=>9|28=>166|24=>34|0=>0|3=>3|37=>155|48=>141|50=>38|4=>4|40=>259|39=>258|45=>117|5=>5|9=>9|51=>275|55=>279|57=>284|58=>175|33=>115|n=>n,fun|n=>n⟩
theorem Tryz.sortedZ:Go.Proofs.SlLaysZ.n6 Tryz.prog Tryz.sortedZ_ren:={
 mixed:=by kernel_rfl
 f6:=⟨Tryz.f98.name,by decide,Tryz.func98.trans (congrArg some kR)⟩
 f8:=⟨Tryz.f140.name,by decide,Tryz.func140.trans (congrArg some kR)⟩
 f11:=⟨Tryz.f174.name,by decide,Tryz.func174.trans (congrArg some kR)⟩
 t0:=Tryz.underlying0
 a0:=Tryz.isAgg0
 z0:=Tryz.sizeOf0
 v0:=Tryz.zeroValue0
 t24:=Tryz.underlying34
 a24:=Tryz.isAgg34
 z24:=Tryz.sizeOf34
 v24:=Tryz.zeroValue34
 t26:=Tryz.underlying9
 a26:=Tryz.isAgg9
 z26:=Tryz.sizeOf9
 v26:=Tryz.zeroValue9
 t28:=Tryz.underlying166
 a28:=Tryz.isAgg166
 z28:=Tryz.sizeOf166
 v28:=Tryz.zeroValue166
 i26:=by kernel_rfl }
def Tryz.sortZ_ren:Go.Shelf.Ren:=⟨fun|6=>141|8=>176|9=>175|19=>204|20=>134|21=>195|22=>196|23=>197|24=>198|25=>199|26=>200|27=>201|28=>202|29=>203|36=>214|31=>215|32=>216|37=>217|38=>218|39=>219|41=>226|n=>n,fun|27=>34|29=>9|3=>3|32=>155|26=>34|0=>0|44=>141|46=>38|4=>4|36=>259|35=>258|41=>117|5=>5|9=>9|53=>275|57=>279|63=>284|64=>175|n=>n,fun|n=>n⟩
theorem Tryz.sortZ:Go.Proofs.SlLaysM.n6 Tryz.prog Tryz.sortZ_ren:={
 mixed:=by kernel_rfl
 f6:=⟨Tryz.f141.name,by decide,Tryz.func141.trans (congrArg some kR)⟩
 f8:=Tryz.func176.trans (congrArg some kR)
 f9:=⟨Tryz.f175.name,by decide,Tryz.func175.trans (congrArg some kR)⟩
 f19:=Tryz.func204.trans (congrArg some kR)
 f20:=Tryz.func134.trans (congrArg some kR)
 f21:=⟨Tryz.f195.name,by decide,Tryz.func195.trans (congrArg some kR)⟩
 f22:=⟨Tryz.f196.name,by decide,Tryz.func196.trans (congrArg some kR)⟩
 f23:=⟨Tryz.f197.name,by decide,Tryz.func197.trans (congrArg some kR)⟩
 f24:=⟨Tryz.f198.name,by decide,Tryz.func198.trans (congrArg some kR)⟩
 f25:=⟨Tryz.f199.name,by decide,Tryz.func199.trans (congrArg some kR)⟩
 f26:=⟨Tryz.f200.name,by decide,Tryz.func200.trans (congrArg some kR)⟩
 f27:=⟨Tryz.f201.name,by decide,Tryz.func201.trans (congrArg some kR)⟩
 f28:=⟨Tryz.f202.name,by decide,Tryz.func202.trans (congrArg some kR)⟩
 f29:=⟨Tryz.f203.name,by decide,Tryz.func203.trans (congrArg some kR)⟩
 f31:=Tryz.func215.trans (congrArg some kR)
 f32:=Tryz.func216.trans (congrArg some kR)
 f36:=⟨Tryz.f214.name,by decide,Tryz.func214.trans (congrArg some kR)⟩
 f37:=⟨Tryz.f217.name,by decide,Tryz.func217.trans (congrArg some kR)⟩
 f38:=⟨Tryz.f218.name,by decide,Tryz.func218.trans (congrArg some kR)⟩
 f39:=⟨Tryz.f219.name,by decide,Tryz.func219.trans (congrArg some kR)⟩
 f41:=⟨Tryz.f226.name,by decide,Tryz.func226.trans (congrArg some kR)⟩
 t0:=Tryz.underlying0
 a0:=Tryz.isAgg0
 z0:=Tryz.sizeOf0
 v0:=Tryz.zeroValue0
 t3:=Tryz.underlying3
 a3:=Tryz.isAgg3
 z3:=Tryz.sizeOf3
 v3:=Tryz.zeroValue3
 t4:=Tryz.underlying4
 a4:=Tryz.isAgg4
 z4:=Tryz.sizeOf4
 v4:=Tryz.zeroValue4
 t5:=Tryz.underlying5
 a5:=Tryz.isAgg5
 z5:=Tryz.sizeOf5
 v5:=Tryz.zeroValue5
 t9:=Tryz.underlying9
 a9:=Tryz.isAgg9
 z9:=Tryz.sizeOf9
 v9:=Tryz.zeroValue9
 t26:=Tryz.underlying34
 a26:=Tryz.isAgg34
 z26:=Tryz.sizeOf34
 v26:=Tryz.zeroValue34
 t27:=Tryz.underlying34
 a27:=Tryz.isAgg34
 z27:=Tryz.sizeOf34
 v27:=Tryz.zeroValue34
 t29:=Tryz.underlying9
 a29:=Tryz.isAgg9
 z29:=Tryz.sizeOf9
 v29:=Tryz.zeroValue9
 t32:=Tryz.underlying155
 a32:=Tryz.isAgg155
 z32:=Tryz.sizeOf155
 v32:=Tryz.zeroValue155
 t35:=Tryz.underlying258
 a35:=Tryz.isAgg258
 z35:=Tryz.sizeOf258
 v35:=Tryz.zeroValue258
 t36:=Tryz.underlying259
 a36:=Tryz.isAgg259
 z36:=Tryz.sizeOf259
 v36:=Tryz.zeroValue259
 t41:=Tryz.underlying117
 a41:=Tryz.isAgg117
 z41:=Tryz.sizeOf117
 v41:=Tryz.zeroValue117
 t44:=Tryz.underlying141
 a44:=Tryz.isAgg141
 z44:=Tryz.sizeOf141
 v44:=Tryz.zeroValue141
 t46:=Tryz.underlying38
 a46:=Tryz.isAgg38
 z46:=Tryz.sizeOf38
 v46:=Tryz.zeroValue38
 t53:=Tryz.underlying275
 a53:=Tryz.isAgg275
 z53:=Tryz.sizeOf275
 v53:=Tryz.zeroValue275
 t57:=Tryz.underlying279
 a57:=Tryz.isAgg279
 z57:=Tryz.sizeOf279
 v57:=Tryz.zeroValue279
 t63:=Tryz.underlying284
 a63:=Tryz.isAgg284
 z63:=Tryz.sizeOf284
 v63:=Tryz.zeroValue284
 t64:=Tryz.underlying175
 a64:=Tryz.isAgg175
 z64:=Tryz.sizeOf175
 v64:=Tryz.zeroValue175 }
theorem vC (m:Nat):AnyZ.SortsIn Tryz.prog Tryz.sortedZ_ren Fence.wide m :=
 ⟨fun d off a e W f b c=>callsIn_wide.2 (AnyM.slices_Sort_string Tryz.sortZ d off a e W f b c),fun p a W=>callsIn_wide.2 (AnyM.slices_Sort_string_none Tryz.sortZ p a W)⟩
theorem wV (a:Option Nat)(W:World):CallsIn Fence.wide 5 Tryz.prog 99 #[.map a] W fun e w'=>e=.returned (.func (.func 142) #[] #[.pointer (some ⟨W.heap.size,0,none⟩)])/\w'=W.alloc (.cells #[.map a] 162) :=
 AnyZ.keys_in Tryz.keysZ Fence.wide 5 trivial rfl a W
theorem sR {H:Type}(b o:Nat)(f:DataW H)(R:Value->Option (DataW H × List MemPlace))(w:World)(c:w.ownsMap Tryz.prog 9 R b o f)(j:Maps.size f<=maxLen)(a:Maps.size f*16<=140737488355328) :
  CallsIn Fence.wide 5 Tryz.prog 98 #[.func (.func 142) #[] #[.pointer (some ⟨w.heap.size,0,none⟩)]] (w.alloc (.cells #[.map (some b)] 162)) fun e w'=>∃ (v:Value)(h:List (List UInt8)),e=.returned v/\h.Perm (strKeys f) /\
   w'.ownsRow (w.alloc (.cells #[.map (some b)] 162)).heap.size 9 1 v h.length ((h.mergeSort (fun x y=>decide (x<=y))).map encStr)/\(v=.slice none 0 0↔h=[])/\Below (w.alloc (.cells #[.map (some b)] 162)).heap.size (w.alloc (.cells #[.map (some b)] 162)) w':=by
 have l:=c.lt
 have i:SeqGives Fence.wide 2 Tryz.prog 142 #[.pointer (some ⟨w.heap.size,0,none⟩)] encStr (fun h=>h.Perm (strKeys f)) (Maps.size f) (w.alloc (.cells #[.map (some b)] 162)) :=
  AnyZ.keys_gives (ρ:=Tryz.keysZ_ren) { Tryz.keysZ with } Fence.wide _ trivial rfl oM w.heap.size b o f _ (by simp) (by simp) (by
   obtain ⟨C,d,B,z,u,p⟩:=c;exact ⟨C,d,(Below.heap_alloc _ _ b l).trans B,z,u,p⟩)
 exact AnyZ.sorted_in Tryz.sortedZ Fence.wide 5 trivial trivial trivial trivial rfl oM (vC _) (enters_of Tryz.func141 kR rfl) 142 #[.pointer (some ⟨w.heap.size,0,none⟩)] trivial (enters_of Tryz.func142 kR rfl) _ _ j a _ i
section
variable {P:Program}{k:TypeId}(hk:P.underlying k=some .string)
def RU (_:Value):Option (DataW Unit × List MemPlace):=some (.nil,[])
theorem AQ (hk:P.underlying k=some .string){a:List ByteArray}(d:∀ s∈a,s.size<=maxLen){e:MapEntry}(f:e∈gA a):∃ s∈a,WideElems.rd P k RU e=some (.string s.data.toList,.nil)/\e.key=.string s:=by
 obtain ⟨j,s,c,rfl⟩:=oc f;have b:s∈a:=N6.2 ⟨j,c⟩;refine ⟨s,b,?_,rfl⟩
 have h1:keyOf P k (.string s)=some (.string s.data.toList):=by
  have:=d s b
  simp[keyOf,hk,mapKey,this]
 unfold WideElems.rd
 rw[h1];rfl
theorem pU {c:List ByteArray}(hn:c.Nodup):MapKept.Stamped (gA c).toArray c.length:=by
 refine ⟨fun x l=>?_,?_,?_⟩
 ·obtain ⟨j,s,d,rfl⟩:=oc (by simpa using l)
  exact (Ml.1 d).1
 ·have e:(gA c).map (·.born)=ov c.length:=by
   apply Oa
   ·simp[gA]
   ·intro i h1 f;simp[gA]
  show ((gA c).map (·.born)).Nodup
  rw[e];exact List.nodup_range
 ·have e:(gA c).map (·.key)=c.map Value.string:=by
   apply Oa
   ·simp[gA]
   ·intro i h1 f;simp[gA]
  show ((gA c).map (·.key)).Nodup
  rw[e];exact List.Pairwise.map _ (fun a b h e=>h (Value.string.inj e)) hn
theorem CF (hk:P.underlying k=some .string){w:World}{b:Nat}{a:List ByteArray}(y:w.heap[b]?=some (.map (gA a).toArray a.length))(hn:a.Nodup)(f:∀ s∈a,s.size<=maxLen)(z:a.length<=1048576) :
  ∃ D:DataW Unit,w.ownsMap P k RU b a.length D/\(strKeys D).Perm (a.map fun s=>s.data.toList)/\Maps.size D<=1048576:=by
 have d:(gA a).length=a.length:=by simp[gA]
 refine ⟨.map (((gA a).map (WideElems.rg P k RU)).foldr DataW.insert []),⟨(gA a).toArray,a.length,y,⟨?_,pU hn,fun x j=>?_⟩,?_,rfl⟩,?_,?_⟩
 ·show (gA a).toArray.size<=maxLen
  rw[Ob,d];unfold maxLen;omega
 ·obtain ⟨s,_,h,_⟩:=AQ (P:=P) hk f (by simpa using j)
  exact ⟨_,h⟩
 ·rw[Ob,d];exact eb _
 ·show ((((gA a).map (WideElems.rg P k RU)).foldr DataW.insert []).map fun p=>strOf p.1).Perm _
  refine ((sorted_perm _).map _).trans (List.Perm.of_eq ?_);rw[List.map_map]
  apply Oa
  ·simp[d]
  ·intro i h1 B
   have hi:i<(gA a).length:=by simpa using h1
   obtain ⟨s,l,hr,c⟩:=AQ (P:=P) hk f (gp hi);obtain ⟨u,e,o⟩:=sI (NO hi);rw[ub,ub];rw[o] at c
   injection c with c
   subst c
   show strOf (((WideElems.rd P k RU (gA a)[i]).getD (.bool false,.nil)).1)=_
   rw[hr]
   show u.data.toList=_
   rw[NO oM] at e
   rw[Option.some.inj e]
 ·show Maps.size (.map _)<=_
  rw[Maps.size_eq,(sorted_perm _).length_eq,NH,d];exact z
end
theorem vh {w w':World}{h:Hp}(g:G w h)(x:Ext w w'):∃ c,Up w h w' c/\∀ b,h.size<=b->c[b]?=w'.heap[b]?:=by
 have d:=x.size;have f:=g.size
 have key:∀ b,h.size<=b->(h++w'.heap.extract h.size w'.heap.size)[b]?=w'.heap[b]?:=fun b a=>by
  rw[Array.getElem?_append_right a,Array.getElem?_extract]
  by_cases hl:b<w'.heap.size
  ·rw[if_pos oM];congr 1;omega
  ·rw[if_neg oM,Array.getElem?_eq_none oM]
 refine ⟨h++w'.heap.extract h.size w'.heap.size,⟨x,⟨by simp,fun b a=>ta a⟩,⟨by simp;omega,fun b=>?_⟩⟩,key⟩
 rcases dS b h.size with a|a
 ·rw[ta a]
  have e:=Below.block x b oM
  rcases g.blk b with h1|h1
  ·exact .inl (h1.trans e.symm)
  ·exact .inr h1
 ·exact .inl (key b a)
theorem FG (ok:ByteArray->Prop)(X:∀ s,ok s->s.size<=1000)(d:Nat)(hd:d<=20)(p:PTm)(t:Tm)(w:World)(h:Hp)(g:G w h)(hT:TmH d h p t)(V:WfT1 ok d t):CR 53 #[bO p] w h (fun v h1=>∃ (A:Z9)(c:Nat)(C:List ByteArray),v=.slice A C.length c/\C.length<=c/\C.length<=1048576/\SlO 1 bD ⟨#[]⟩ h1 A C/\∀ x,x∈C↔fH d t x):=by
 refine (callsIn_wide (n:=6)).1 (callsIn_of_wp Tryz.func53 rfl trivial ?_ rfl)
 simp only[Tryz.ntmps53,Ob,tq,NX,Nat.reduceAdd,Nat.reduceSub,Array.replicate_succ,Array.replicate_zero,List.push_toArray,List.append_toArray,List.nil_append,List.cons_append]
 unfold bO
 have hfK:Fence.wide.fn 97:=trivial;have hf2:Fence.wide.fn 99:=trivial;have hf3:Fence.wide.fn 98:=trivial
 have O:∀ o:Obj,G ((w.alloc o).alloc (.map #[] 0)) ((h.push be).push be)/\MapK ((w.alloc o).alloc (.map #[] 0)) ((h.push be).push be) (w.heap.size+1) []/\TmH d ((h.push be).push be) p t:=fun o=>by
  have u1:Up w h (w.alloc o) (h.push be):=Up.allocAny g o be (.inr rfl);have u2:Up (w.alloc o) (h.push be) ((w.alloc o).alloc (.map #[] 0)) ((h.push be).push be):=Up.allocAny u1.g _ _ (.inr rfl);refine ⟨u2.g,⟨?_,?_,List.nodup_nil⟩,(hT.gw u1.gr.gw).gw u2.gr.gw⟩
  ·rw[show w.heap.size+1=(h.push be).size by rw[Array.size_push,g.size]];exact fo
  ·rw[heap_alloc,show w.heap.size+1=(w.alloc o).heap.size by simp];exact fo
 have hsz:∀ s,fH d t s->s.size<=maxLen:=fun s Z=>by have:=X s (rQ V Z);unfold maxLen;omega
 have hcn:=sP V;have hp2:2^d<=1048576:=ep (Nat.pow_le_pow_right oM hd) kD;have hmm:=@run_makeMap Tryz.prog
 gi_wp2
 gi_at_call 97
 generalize hW2:(w.alloc _).alloc (.map #[] 0)=W2
 have q:=O (.cells #[iV p.op,iV p.n,.bool (af p.q.num),uV (lo (ab p.q.num)),.string (hi (ab p.q.num)),uV (lo (qd p.q)),.string (hi (qd p.q)),.string p.s,qS p.A p.m p.c] 50);rw[hW2] at q
 clear O
 have cg:=(callsIn_wide (n:=5)).2 (u6 ok d p t (w.heap.size+1) [] W2 _ q.1 q.2.2 V q.2.1)
 unfold bO at cg
 refine cg.mono ?_
 clear cg
 rintro e w' ⟨v,h3,rfl,S,rfl,C,ho,hn,M,hl⟩;have F:∀ x,x∈C↔fH d t x:=fun x=>by rw[M x];simp
 have K:C.length<=1048576:=by have:=(show C.length<=0+eF d t from hl);omega
 have bb:w.heap.size+2=W2.heap.size:=by rw[<-hW2];simp
 have j:Go.RowKit.Below w.heap.size w W2:=by rw[<-hW2];exact ((Below.refl _ w).alloc (nR _) _).alloc (by simp) _
 have Q:Go.RowKit.Below w.heap.size w w':=⟨S.mo.os.trans j.os,S.mo.tape.trans j.tape,S.mo.output.trans j.output,ep j.size S.mo.size,fun c hc=>(S.mo.blk c oM (fun hm=>by rw[sy] at hm;omega)).trans (j.block c hc)⟩
 clear M hW2
 obtain ⟨D,W,I,hD3⟩:=CF (P:=Tryz.prog) (k:=9) Tryz.underlying9 ho hn (fun s h_=>hsz s ((F s).1 h_)) K
 gi_wp2
 gi_at_call 99
 refine (wV _ _).mono ?_;rintro e w'' ⟨rfl,rfl⟩
 gi_wp2
 gi_at_call 98
 refine (sR (w.heap.size+1) C.length D RU w' W (by unfold maxLen;omega) oM).mono ?_;rintro e w3 ⟨v,B,rfl,J,hz2,-,hz3⟩;have U:=Q.size;have Y:Ext w w3:=(Q.alloc U _).trans (hz3.mono (by simp;omega));obtain ⟨h',u,key⟩:=vh g Y
 have H:∀ x:ByteArray,x∈((B.mergeSort fun x y=>decide (x<=y)).map fun z=>(⟨z.toArray⟩:ByteArray))↔fH d t x:=fun x=>by
  rw[<-F x,gx]
  constructor
  ·rintro ⟨z,hz,rfl⟩
   have h1:=(J.trans I).mem_iff.1 ((Oc B _).mem_iff.1 hz);obtain ⟨s,Z,e⟩:=gx.1 h1;have:s=⟨z.toArray⟩:=by cases s;rename_i a;simp at e;subst e;rfl
   rw[<-this];exact Z
  ·intro hx
   refine ⟨x.data.toList,(Oc B _).mem_iff.2 ((J.trans I).mem_iff.2 (gx.2 ⟨x,hx,rfl⟩)),?_⟩;cases x;simp
 have L:((B.mergeSort fun x y=>decide (x<=y)).map fun z=>(⟨z.toArray⟩:ByteArray)).length=B.length:=by rw[NH,(Oc B _).length_eq]
 have hzs:B.length<=1048576:=by rw[(J.trans I).length_eq,NH];exact K
 gi_wp2
 go_ret
 generalize hzz:((B.mergeSort fun x y=>decide (x<=y)).map fun z=>(⟨z.toArray⟩:ByteArray))=zz at H L
 refine ⟨v,h',rfl,u,?_⟩
 rcases hz2 with ⟨-,⟨rfl,hz⟩|⟨gb,cap,cur,rfl,hbase,hgb,r1,-,-,r4⟩⟩
 ·have:zz=[]:=y6 oM
  subst this;refine ⟨none,0,[],rfl,nR _,by simp,SlO.nil,fun x=>H x⟩
 ·refine ⟨sB gb,cap,zz,by rw[L],by omega,by omega,SlO.of_flat (sz:=1) (f:=bD) (d:=⟨#[]⟩) (b:=gb) (o:=0) (fun _=>rfl) fun i v hv=>?_,H⟩
  have hf:zz.flatMap bD=(B.mergeSort fun x y=>decide (x<=y)).map encStr:=by
   rw[<-hzz]
   generalize (B.mergeSort fun x y=>decide (x<=y))=q
   induction q with
   | nil=>rfl
   | cons a l ih=>rw[Af,Af,List.flatMap_cons,ih];rfl
  rw[hf,<-r4,Nat.mul_one] at hv
  have hv2:cur.toList[i]?=some v:=by
   rw[List.getElem?_take] at hv
   split at hv
   ·exact hv
   ·cases hv
  have hgs:h.size<=gb:=by have:=g.size;simp at hbase;omega
  unfold dP
  rw[key gb hgs,hgb,y8]
  show cur[i]?=some v
  rw[<-Array.getElem?_toList];exact hv2
end srt
def iP (c:Nat):Prop:=(97<=c/\c<=122)\/(65<=c/\c<=90)
def pq (c:Nat):Prop:=((97<=c/\c<=122)\/(65<=c/\c<=90))\/(48<=c/\c<=57)\/c=95
instance (c:Nat):Decidable (iP c):=by unfold iP;infer_instance
instance (c:Nat):Decidable (pq c):=by unfold pq;infer_instance
def gu (s:ByteArray):Int:=if s=⟨#[97,98,115]⟩ then 9 else if s=⟨#[114,97,109,112]⟩ then 10 else if s=⟨#[98,101,110,100]⟩ then 11 else if s=⟨#[109,97,120]⟩ then 12 else if s=⟨#[109,105,110]⟩ then 13 else 0
def Bo (s:ByteArray):Int:=if gu s=0 then 0 else if gu s<=11 then 1 else 2
def ek (s:ByteArray):Bool:=decide (gu s≠0)
def dr (s:ByteArray):Bool:=decide (1<=s.size/\s.size<=20/\iP (aU s 0)/\(∀ i,i<s.size->pq (aU s i))/\ek s=false)
theorem n4 {s:ByteArray}(h:¬(1<=s.size/\s.size<=20/\iP (aU s 0))):Value.bool false=.bool (dr s):=congrArg Value.bool (decide_eq_false fun x=>h ⟨x.1,x.2.1,x.2.2.1⟩).symm
theorem EY {s:ByteArray}{i:Nat}(h:i<s.size)(a:¬pq (aU s i)):Value.bool false=.bool (dr s):=congrArg Value.bool (decide_eq_false fun x=>a (x.2.2.2.1 i h)).symm
theorem D9 {s:ByteArray}(h1:1<=s.size/\s.size<=20)(a:iP (aU s 0))(b:∀ i,i<s.size->pq (aU s i)):dr s = !ek s:=by
 unfold dr
 cases h:ek s
 ·exact decide_eq_true ⟨h1.1,h1.2,a,b,rfl⟩
 ·exact decide_eq_false fun x=>by cases x.2.2.2.2
def jD:List MapEntry:=[⟨.string ⟨#[97,98,115]⟩,.int .i64 9,0⟩,⟨.string ⟨#[114,97,109,112]⟩,.int .i64 10,1⟩,⟨.string ⟨#[98,101,110,100]⟩,.int .i64 11,2⟩,⟨.string ⟨#[109,97,120]⟩,.int .i64 12,3⟩,⟨.string ⟨#[109,105,110]⟩,.int .i64 13,4⟩]
theorem uv (s:ByteArray):(∃ i,Instr.findNow .string (.string s) jD 0=some (some (i,.int .i64 (gu s)))/\ek s=true)\/(Instr.findNow .string (.string s) jD 0=some none/\ek s=false/\gu s=0):=by
 by_cases h1:s=⟨#[97,98,115]⟩
 ·subst h1;exact .inl ⟨0,by kernel_rfl,by decide⟩
 by_cases h2:s=⟨#[114,97,109,112]⟩
 ·subst h2;exact .inl ⟨1,by kernel_rfl,by decide⟩
 by_cases h3:s=⟨#[98,101,110,100]⟩
 ·subst h3;exact .inl ⟨2,by kernel_rfl,by decide⟩
 by_cases h4:s=⟨#[109,97,120]⟩
 ·subst h4;exact .inl ⟨3,by kernel_rfl,by decide⟩
 by_cases h5:s=⟨#[109,105,110]⟩
 ·subst h5;exact .inl ⟨4,by kernel_rfl,by decide⟩
 have f:gu s=0:=by unfold gu;rw[if_neg h1,if_neg h2,if_neg h3,if_neg h4,if_neg h5]
 refine .inr ⟨?_,by unfold ek;rw[f];rfl,f⟩
 rcases MapKept.findNow_spec (d:=.string) (k:=.string s) (by simp[MapKept.IsKey]) jD 0 (fun x h=>by
  simp only[jD,g2,List.not_mem_nil,or_false] at h
  rcases h with rfl|rfl|rfl|rfl|rfl<;>simp[MapKept.IsKey]) with ⟨a,_⟩|⟨j,e,a,b,c⟩
 ·exact a
 ·exfalso
  match j,b with
  | 0,b=>injection b with b;subst b;injection c with c;exact h1 c.symm
  | 1,b=>injection b with b;subst b;injection c with c;exact h2 c.symm
  | 2,b=>injection b with b;subst b;injection c with c;exact h3 c.symm
  | 3,b=>injection b with b;subst b;injection c with c;exact h4 c.symm
  | 4,b=>injection b with b;subst b;injection c with c;exact h5 c.symm
  | n+5,b=>cases b
theorem lE (c:Nat)(B:c<256)(w:World)(h:Hp)(g:G w h):CV 94 #[.int .u8 (c:Nat)] w h (.bool (decide (iP (c)))):=by
 have a:=sS g;refine go Tryz.func94 [(0,.int .u8 (c:Nat))] rfl (aa a ac (aG (lL a ac ?_)));cases e:(decide ((97:Int)<=(c:Int)))
 .
  have o:=oF e;refine lB 4 e (lL a ac (lG 6 ?_));refine lG 7 (lL a [.v qF,.c,.c] ?_);cases f:(decide ((65:Int)<=(c:Int)))
  .
   have j:=oF f;refine lB 11 f (lL a ac (lG 13 ?_));exact lG 14 (lL a [.v qF,.v qF,.c] (ae a [] qF (congrArg Value.bool (decide_eq_false (by unfold iP;omega)).symm)))
  have j:=oT f;refine lB 11 f (lL a aD ?_);cases d:(decide ((c:Int)<=(90:Int)))
  .
   have l:=oF d;exact lB 14 d (lL a [.v qF,.v qF,.c] (ae a [] qF (congrArg Value.bool (decide_eq_false (by unfold iP;omega)).symm)))
  have l:=oT d;exact lB 14 d (lL a [.v qT,.v qT,.c] (ae a [] qT (congrArg Value.bool (decide_eq_true (by unfold iP;omega)).symm)))
 have o:=oT e;refine lB 4 e (lL a aD ?_);cases b:(decide ((c:Int)<=(122:Int)))
 .
  have i:=oF b;refine lB 7 b (lL a [.v qF,.c,.c] ?_);have ⟨u,y⟩:=dT (p:=(65:Int)<=(c:Int)) oM;refine lB 11 u (lL a aD ?_);have ⟨x,z⟩:=dF (p:=(c:Int)<=(90:Int)) oM;exact lB 14 x (lL a [.v qF,.v qF,.c] (ae a [] qF (congrArg Value.bool (decide_eq_false (by unfold iP;omega)).symm)))
 have i:=oT b;refine lB 7 b (lL a [.v qT,.c] (lG 10 ?_));exact lG 11 (lG 12 (lG 13 (lG 14 (lG 15 (lL a [.v qT,.c] (ae a [] qT (congrArg Value.bool (decide_eq_true (by unfold iP;omega)).symm)))))))
theorem oP (c:Nat)(i:c<256)(w:World)(h:Hp)(g:G w h):CV 139 #[.int .u8 (c:Nat)] w h (.bool (decide (48<=(c)/\(c)<=57))):=by
 have a:=sS g;refine go Tryz.func139 [(0,.int .u8 (c:Nat))] rfl (aa a ac (aG (lL a ac ?_)));cases b:(decide ((48:Int)<=(c:Int)))
 .
  have f:=oF b;refine lB 4 b (lL a ac (lG 6 ?_));exact lG 7 (lL a [.v qF,.c] (ae a [] qF (congrArg Value.bool (decide_eq_false oM).symm)))
 have f:=oT b;refine lB 4 b (lL a aD ?_);cases d:(decide ((c:Int)<=(57:Int)))
 .
  have e:=oF d;exact lB 7 d (lL a [.v qF,.c] (ae a [] qF (congrArg Value.bool (decide_eq_false oM).symm)))
 have e:=oT d;exact lB 7 d (lL a [.v qT,.c] (ae a [] qT (congrArg Value.bool (decide_eq_true oM).symm)))
theorem pR (c:Nat)(l:c<256)(w:World)(h:Hp)(g:G w h):CV 95 #[.int .u8 (c:Nat)] w h (.bool (decide (pq (c)))):=by
 have a:=sS g;refine go Tryz.func95 [(0,.int .u8 (c:Nat))] rfl (aa a ac (aG (lL a ac (aq 4 a (lE c l _ _ a.g) (fun w1 p a=>?_)))));cases e:(decide (iP (c)))
 .
  have f:=oF e;refine lL a aD (aq 7 a (oP c l _ _ a.g) (fun u o a=>?_));cases i:(decide (48<=(c)/\(c)<=57))
  .
   have d:=oF i;refine lL a [.v qF,.c,.c] ?_;cases b:((c:Int) == (95:Int))
   .
    have j:=aj b;exact lB 11 b (lL a [.v qF,.c] (ae a [] qF (congrArg Value.bool (decide_eq_false (by unfold iP at *;unfold pq;omega)).symm)))
   have j:=eq_of_beq b;exact lB 11 b (lL a [.v qT,.c] (ae a [] qT (congrArg Value.bool (decide_eq_true (by unfold iP at *;unfold pq;omega)).symm)))
  have d:=oT i;refine lL a [.v qT,.c] (lG 10 ?_);exact lG 11 (lL a [.v qT,.c] (ae a [] qT (congrArg Value.bool (decide_eq_true (by unfold iP at *;unfold pq;omega)).symm)))
 have f:=oT e;refine lL a ac (lG 6 ?_);refine lG 7 (lL a [.v qT,.c] (lG 10 ?_));exact lG 11 (lL a [.v qT,.c] (ae a [] qT (congrArg Value.bool (decide_eq_true (by unfold iP at *;unfold pq;omega)).symm)))
theorem tR  (w:World)(h:Hp)(g:G w h):CR 96 #[] w h (fun v h1=>∃ b,v=.map (some b)/\MapS h1 b jD):=by
 have a:=sS g;refine go Tryz.func96 [] rfl (aa a ac (aG (HN 1 a (fun p w2 z a o=>pp 95 9 3 (⟨#[97,98,115]⟩) (iV 9) a o (fun y a l=>pp 95 9 3 (⟨#[114,97,109,112]⟩) (iV 10) a l (fun x a j=>pp 95 9 3 (⟨#[98,101,110,100]⟩) (iV 11) a j (fun B a e=>pp 95 9 3 (⟨#[109,97,120]⟩) (iV 12) a e (fun _ a d=>pp 95 9 3 (⟨#[109,105,110]⟩) (iV 13) a d (fun _ a c=>lL a ac ?_)))))))));obtain ⟨_,a,i⟩:=a.pubMap c;replace a:=a.to [] [];replace a:=a.add (K:=fun u=>MapS u p [⟨.string (⟨#[97,98,115]⟩),iV 9,0⟩,⟨.string (⟨#[114,97,109,112]⟩),iV 10,1⟩,⟨.string (⟨#[98,101,110,100]⟩),iV 11,2⟩,⟨.string (⟨#[109,97,120]⟩),iV 12,3⟩,⟨.string (⟨#[109,105,110]⟩),iV 13,4⟩]) i;exact lL a ac (ae a [] (.map (some p)) (⟨_,rfl,a.f.1⟩))
theorem GP (s:ByteArray)(a:s.size<=1000000)(w:World)(h:Hp)(g:G w h):CV 52 #[.string s] w h (.bool (dr s)):=by
 have a:=sS g;refine go Tryz.func52 [(0,.string s)] rfl (aa a ac (ag (aa a [.c,.v (nV s.size)] ?_)));cases d:(decide ((s.size:Int)<(1:Int)))
 .
  have B:=oF d;refine lB 8 d (lL a [.c,.c,.v (nV s.size)] ?_);cases e:(decide ((20:Int)<(s.size:Int)))
  .
   have F:=oF e;refine lB 12 e (lL a [.v qF,.c,.c] (lV 16 (.int .u8 (aU s 0:Nat)) ?_ (hr:=dW (tx:=9) (x:=.tmp 15) (i:=.const (iV 0)) (k:=.i64) (s:=s) (n:=0) (j:=(0:Int)) kR kR kR kR oM oM _)));refine aq 17 a (lE ((aU s 0)) (cP _ _) _ _ a.g) (fun w3 Q a=>?_);cases y:(decide (iP ((aU s 0))))
   .
    have D:=oF y;exact lL a [.v qT,.v qT] (am (aa a ac (ae a [] qF (n4 (fun b=>by have C:=b.1;have u:=b.2.1;first|omega|exact absurd b.2.2 aM)))))
   have D:=oT y;refine lL a [.v qF,.v qF] (ah (cK (cQ (aa a [.c,.v (nV s.size),.c] (aZ ?_)))));refine bH _ (CG.loop (fun I Γ M=>∃ (k:Nat)(b:Hp),I=s.size-k/\Γ=[(0,.string s),(21,nV s.size),(22,nV k)]/\SS w h M b [] [] []/\k<=s.size/\(∀ i,i<k->pq (aU s i))) _ ⟨0,Q,rfl,rfl,a.to _ _,My _,(fun i hi=>absurd hi (NN i))⟩ ?_);rintro _ _ X ⟨k,Y,O,rfl,a,hk,p⟩;refine ax ?_;cases l:(decide ((k:Int)<(s.size:Int)))
   .
    have z:=oF l;refine lB 23 l (ag (dD (CG.exit ?_)))
    show CG _ _ _ _ _ _ _ _
    refine ax (lC 32 a (tR _ _ a.g) ?_);rintro _ _ _ a ⟨S,rfl,H⟩;replace a:=(a.add (K:=fun b=>MapS b S jD) H);refine lL a ac (I7 34 95 9 3 (s) true (iV (gu s)) ((ek s)) a a.f.1 ?_ (hf:=(by rcases uv s with ⟨i_,e1_,e2_⟩|⟨e1_,e2_,e3_⟩;exact .inl ⟨i_,e1_,e2_⟩;exact .inr ⟨e1_,e2_,fun _=>by rw[e3_];kernel_rfl⟩)));refine lL a [.c,.v (iV (gu s)),.v (.bool (ek s)),.c,.c] (aG (lL a ac ?_));cases J:(!(ek s))
    .
     refine lB 38 J (lL a ac (lN (kX ?_)));have o:=D9 (s:=s) ⟨by omega,by omega⟩ aM (fun i hi=>p i oM);exact a.ret [] qF (congrArg Value.bool (by rw[o];exact (by assumption:(!ek s)=false).symm))
    refine lB 38 J (lL a ac (lN (kX ?_)));have o:=D9 (s:=s) ⟨by omega,by omega⟩ aM (fun i hi=>p i oM);exact a.ret [] qT (congrArg Value.bool (by rw[o];exact (by assumption:(!ek s)=true).symm))
   have z:=oT l;refine lB 23 l (ag (ct (cK (cQ (kZ (aa a aD (aG (lL a aD (lV 27 (.int .u8 (aU s k:Nat)) ?_ (hr:=dW (tx:=9) (x:=.tmp 25) (i:=.tmp 26) (k:=.i64) (s:=s) (n:=k) (j:=(k:Int)) kR kR kR kR oM oM _))))))))));refine aq 28 a (pR ((aU s k)) (cP _ _) _ _ a.g) (fun _ U a=>?_);cases L:(decide (pq ((aU s k))))
   .
    have V:=oF L;exact lL a [.v qT] (am (aa a ac (ae a [] qF (EY (i:=k) oM aM))))
   have V:=oT L;refine lL a [.v qF] (ah (cK (kQ (bp 30 ((k:Nat)+1) (k+1) ?_))));refine lL a ac (lD ?_);intro Z W;refine ⟨_,_,?_,⟨k+1,U,rfl,rfl,a.to _ _,oM,(fun i hi=>by rcases NT.1 hi with b|rfl;exact p i b;assumption)⟩,W.to _ kR⟩
   omega
  have F:=oT e;refine lB 12 e (lL a [.v qT,.c] (lG 15 ?_));exact lG 16 (lG 17 (lG 18 (lL a [.v qT] (am (aa a ac (ae a [] qF (n4 (fun b=>by have C:=b.1;have u:=b.2.1;first|omega|exact absurd b.2.2 aM))))))))
 have B:=oT d;refine lB 8 d (lL a ac (lG 10 ?_));refine lG 11 (lG 12 (lL a [.v qT,.c] (lG 15 ?_)));exact lG 16 (lG 17 (lG 18 (lL a [.v qT] (am (aa a ac (ae a [] qF (n4 (fun b=>by have C:=b.1;have u:=b.2.1;first|omega|exact absurd b.2.2 aM))))))))
theorem qN (c:Nat)(B:c<256)(w:World)(h:Hp)(g:G w h):CV 109 #[.int .u8 (c:Nat)] w h (.bool (decide (iP (c)))):=by
 have a:=sS g;refine go Tryz.func109 [(0,.int .u8 (c:Nat))] rfl (aa a ac (aG (lL a ac ?_)));cases e:(decide ((97:Int)<=(c:Int)))
 .
  have o:=oF e;refine lB 4 e (lL a ac (lG 6 ?_));refine lG 7 (lL a [.v qF,.c,.c] ?_);cases f:(decide ((65:Int)<=(c:Int)))
  .
   have j:=oF f;refine lB 11 f (lL a ac (lG 13 ?_));exact lG 14 (lL a [.v qF,.v qF,.c] (ae a [] qF (congrArg Value.bool (decide_eq_false (by unfold iP;omega)).symm)))
  have j:=oT f;refine lB 11 f (lL a aD ?_);cases d:(decide ((c:Int)<=(90:Int)))
  .
   have l:=oF d;exact lB 14 d (lL a [.v qF,.v qF,.c] (ae a [] qF (congrArg Value.bool (decide_eq_false (by unfold iP;omega)).symm)))
  have l:=oT d;exact lB 14 d (lL a [.v qT,.v qT,.c] (ae a [] qT (congrArg Value.bool (decide_eq_true (by unfold iP;omega)).symm)))
 have o:=oT e;refine lB 4 e (lL a aD ?_);cases b:(decide ((c:Int)<=(122:Int)))
 .
  have i:=oF b;refine lB 7 b (lL a [.v qF,.c,.c] ?_);have ⟨u,y⟩:=dT (p:=(65:Int)<=(c:Int)) oM;refine lB 11 u (lL a aD ?_);have ⟨x,z⟩:=dF (p:=(c:Int)<=(90:Int)) oM;exact lB 14 x (lL a [.v qF,.v qF,.c] (ae a [] qF (congrArg Value.bool (decide_eq_false (by unfold iP;omega)).symm)))
 have i:=oT b;refine lB 7 b (lL a [.v qT,.c] (lG 10 ?_));exact lG 11 (lG 12 (lG 13 (lG 14 (lG 15 (lL a [.v qT,.c] (ae a [] qT (congrArg Value.bool (decide_eq_true (by unfold iP;omega)).symm)))))))
theorem C1 (c:Nat)(i:c<256)(w:World)(h:Hp)(g:G w h):CV 110 #[.int .u8 (c:Nat)] w h (.bool (decide (48<=(c)/\(c)<=57))):=by
 have a:=sS g;refine go Tryz.func110 [(0,.int .u8 (c:Nat))] rfl (aa a ac (aG (lL a ac ?_)));cases b:(decide ((48:Int)<=(c:Int)))
 .
  have f:=oF b;refine lB 4 b (lL a ac (lG 6 ?_));exact lG 7 (lL a [.v qF,.c] (ae a [] qF (congrArg Value.bool (decide_eq_false oM).symm)))
 have f:=oT b;refine lB 4 b (lL a aD ?_);cases d:(decide ((c:Int)<=(57:Int)))
 .
  have e:=oF d;exact lB 7 d (lL a [.v qF,.c] (ae a [] qF (congrArg Value.bool (decide_eq_false oM).symm)))
 have e:=oT d;exact lB 7 d (lL a [.v qT,.c] (ae a [] qT (congrArg Value.bool (decide_eq_true oM).symm)))
theorem GJ (s:ByteArray)(w:World)(h:Hp)(g:G w h):CV 111 #[.string s] w h (.tuple #[iV (gu s),iV (Bo s)]):=by
 have a:=sS g;refine go Tryz.func111 [(0,.string s)] rfl (aa a aD (ag (aa a ac (aZ (ax ?_)))));cases e:(kf s (⟨#[97,98,115]⟩))
 .
  have p:=hJ e;refine lB 6 e (lL a ac (ah (ax ?_)));cases f:(kf s (⟨#[114,97,109,112]⟩))
  .
   have l:=hJ f;refine lB 8 f (lL a ac (ah (ax ?_)));cases c:(kf s (⟨#[98,101,110,100]⟩))
   .
    have o:=hJ c;refine lB 10 c (lL a ac (ah (ax ?_)));cases b:(kf s (⟨#[109,97,120]⟩))
    .
     have j:=hJ b;refine lB 12 b (lL a ac (ah (ax ?_)));cases d:(kf s (⟨#[109,105,110]⟩))
     .
      have i:=hJ d;refine lB 14 d (lL a ac (ah (cK (aa a aD (lN (kX ?_))))));have u:gu s=0:=by unfold gu;rw[if_neg (by assumption:¬s=⟨#[97,98,115]⟩),if_neg (by assumption:¬s=⟨#[114,97,109,112]⟩),if_neg (by assumption:¬s=⟨#[98,101,110,100]⟩),if_neg (by assumption:¬s=⟨#[109,97,120]⟩),if_neg (by assumption:¬s=⟨#[109,105,110]⟩)]
      exact a.ret [] (.tuple #[iV 0,iV 0]) (by unfold Bo;rw[u];rfl)
     have i:=g8 d;exact lB 14 d (lL a ac (am (aa a aD (ae a [] (.tuple #[iV 13,iV 2]) (by rw[(by assumption:s=⟨#[109,105,110]⟩)];rfl)))))
    have j:=g8 b;exact lB 12 b (lL a ac (am (aa a aD (ae a [] (.tuple #[iV 12,iV 2]) (by rw[(by assumption:s=⟨#[109,97,120]⟩)];rfl)))))
   have o:=g8 c;exact lB 10 c (lL a ac (am (aa a aD (ae a [] (.tuple #[iV 11,iV 1]) (by rw[(by assumption:s=⟨#[98,101,110,100]⟩)];rfl)))))
  have l:=g8 f;exact lB 8 f (lL a ac (am (aa a aD (ae a [] (.tuple #[iV 10,iV 1]) (by rw[(by assumption:s=⟨#[114,97,109,112]⟩)];rfl)))))
 have p:=g8 e;exact lB 6 e (lL a ac (am (aa a aD (ae a [] (.tuple #[iV 9,iV 1]) (by rw[(by assumption:s=⟨#[97,98,115]⟩)];rfl)))))
theorem Ks (s:ByteArray)(a:s.size<=1000000)(w:World)(h:Hp)(g:G w h):CV 62 #[.string s] w h (.bool (dr s)):=by
 have a:=sS g;refine go Tryz.func62 [(0,.string s)] rfl (aa a ac (ag (aa a [.c,.v (nV s.size)] ?_)));cases e:(decide ((s.size:Int)<(1:Int)))
 .
  have z:=oF e;refine lB 8 e (lL a [.c,.c,.v (nV s.size)] ?_);cases f:(decide ((20:Int)<(s.size:Int)))
  .
   have F:=oF f;refine lB 12 f (lL a [.v qF,.c,.c] (lV 16 (.int .u8 (aU s 0:Nat)) ?_ (hr:=dW (tx:=9) (x:=.tmp 15) (i:=.const (iV 0)) (k:=.i64) (s:=s) (n:=0) (j:=(0:Int)) kR kR kR kR oM oM _)));refine aq 17 a (qN ((aU s 0)) (cP _ _) _ _ a.g) (fun w3 V a=>?_);cases u:(decide (iP ((aU s 0))))
   .
    have C:=oF u;exact lL a [.v qT,.v qT] (am (aa a ac (ae a [] qF (n4 (fun b=>by have B:=b.1;have p:=b.2.1;first|omega|exact absurd b.2.2 aM)))))
   have C:=oT u;refine lL a [.v qF,.v qF] (ah (cK (cQ (aa a ac (aZ ?_)))));refine bH _ (CG.loop (fun J Γ Q=>∃ (k:Nat)(b:Hp),J=s.size-k/\Γ=[(0,.string s),(3,nV k)]/\SS w h Q b [] [] []/\k<=s.size/\(∀ i,i<k->pq (aU s i))) _ ⟨0,V,rfl,rfl,a.to _ _,My _,(fun i hi=>absurd hi (NN i))⟩ ?_);rintro _ _ w6 ⟨k,h7,U,rfl,a,hk,d⟩;refine cQ (aa a [.c,.c,.v (nV s.size)] ?_);cases l:(decide ((k:Int)<(s.size:Int)))
   .
    have y:=oF l;refine lB 23 l (ah (CG.exit ?_))
    show CG _ _ _ _ _ _ _ _
    refine aa a ac (aq 46 a (GJ s _ _ a.g) (fun _ _ a=>lL a [.c,.v (iV (gu s)),.v (iV (Bo s)),.c,.c] (aG (lL a ac ?_))));cases H:(((gu s):Int) == (0:Int))
    .
     have S:=aj H;refine lB 50 H (lL a ac (lN (kX ?_)));have o:=D9 (s:=s) ⟨by omega,by omega⟩ aM (fun i hi=>d i oM);exact a.ret [] qF (congrArg Value.bool (by rw[o];unfold ek;simp only[ne_eq,decide_not,Od];exact (decide_eq_false oM).symm))
    have S:=eq_of_beq H;refine lB 50 H (lL a ac (lN (kX ?_)));have o:=D9 (s:=s) ⟨by omega,by omega⟩ aM (fun i hi=>d i oM);exact a.ret [] qT (congrArg Value.bool (by rw[o];unfold ek;simp only[ne_eq,decide_not,Od];exact (decide_eq_true oM).symm))
   have y:=oT l;refine lB 23 l (am (cK (cQ (kZ (aa a aD (lV 28 (.int .u8 (aU s k:Nat)) ?_ (hr:=dW (tx:=9) (x:=.tmp 26) (i:=.tmp 27) (k:=.i64) (s:=s) (n:=k) (j:=(k:Int)) kR kR kR kR oM oM _)))))));refine aq 29 a (qN ((aU s k)) (cP _ _) _ _ a.g) (fun _ Z a=>?_);cases M:(decide (iP ((aU s k))))
   .
    have Y:=oF M;refine lL a [.v qT,.c,.c,.c] (lV 34 (.int .u8 (aU s k:Nat)) ?_ (hr:=dW (tx:=9) (x:=.tmp 32) (i:=.tmp 33) (k:=.i64) (s:=s) (n:=k) (j:=(k:Int)) kR kR kR kR oM oM _));refine aq 35 a (C1 ((aU s k)) (cP _ _) _ _ a.g) (fun _ O a=>?_);cases L:(decide (48<=((aU s k))/\((aU s k))<=57))
    .
     have X:=oF L;refine lL a [.v qT,.v qT,.c,.c,.c] (lV 41 (.int .u8 (aU s k:Nat)) ?_ (hr:=dW (tx:=9) (x:=.tmp 39) (i:=.tmp 40) (k:=.i64) (s:=s) (n:=k) (j:=(k:Int)) kR kR kR kR oM oM _));cases I:(((aU s k:Nat):Int) != (95:Int))
     .
      have W:=aJ I;refine lB 42 I (lL a [.v qF] (ah (cK (kQ (lL a ac (bp 25 ((k:Nat)+1) (k+1) ?_))))));refine lL a ac (lD ?_);intro K D;refine ⟨_,_,?_,⟨k+1,O,rfl,rfl,a.to _ _,oM,(fun i hi=>by rcases NT.1 hi with b|rfl;exact d i b;unfold pq;unfold iP at *;omega)⟩,D.to _ kR⟩
      omega
     have W:=aI I;exact lB 42 I (lL a [.v qT] (am (aa a ac (ae a [] qF (EY (i:=k) oM (fun b=>by unfold pq at b;unfold iP at *;omega))))))
    have X:=oT L;refine lL a [.v qF,.v qF,.c] (lG 39 ?_);refine lG 40 (lG 41 (lG 42 (lL a [.v qF] (ah (cK (kQ (lL a ac (bp 25 ((k:Nat)+1) (k+1) ?_))))))));refine lL a ac (lD ?_);intro K D;refine ⟨_,_,?_,⟨k+1,O,rfl,rfl,a.to _ _,oM,(fun i hi=>by rcases NT.1 hi with b|rfl;exact d i b;unfold pq;unfold iP at *;omega)⟩,D.to _ kR⟩
    omega
   have Y:=oT M;refine lL a [.v qF,.c] (lG 32 ?_);refine lG 33 (lG 34 (lG 35 (lG 36 (lL a [.v qF,.c] (lG 39 ?_)))));refine lG 40 (lG 41 (lG 42 (lL a [.v qF] (ah (cK (kQ (lL a ac (bp 25 ((k:Nat)+1) (k+1) ?_))))))));refine lL a ac (lD ?_);intro K D;refine ⟨_,_,?_,⟨k+1,Z,rfl,rfl,a.to _ _,oM,(fun i hi=>by rcases NT.1 hi with b|rfl;exact d i b;unfold pq;unfold iP at *;omega)⟩,D.to _ kR⟩
   omega
  have F:=oT f;refine lB 12 f (lL a [.v qT,.c] (lG 15 ?_));exact lG 16 (lG 17 (lG 18 (lL a [.v qT] (am (aa a ac (ae a [] qF (n4 (fun b=>by have B:=b.1;have p:=b.2.1;first|omega|exact absurd b.2.2 aM))))))))
 have z:=oT e;refine lB 8 e (lL a ac (lG 10 ?_));refine lG 11 (lG 12 (lL a [.v qT,.c] (lG 15 ?_)));exact lG 16 (lG 17 (lG 18 (lL a [.v qT] (am (aa a ac (ae a [] qF (n4 (fun b=>by have B:=b.1;have p:=b.2.1;first|omega|exact absurd b.2.2 aM))))))))
theorem EJ  (isb:ByteArray->Bool)(sm:ByteArray->Prop)(nx:∀ s,sm s->∀ (w:World) (h:Hp),G w h->Calls Tryz.prog 52 #[.string s] w (Ret w h (fun v _=>∃ b,v=.bool b/\b=isb s)))(d:Nat)(p:PTm)(t:Tm)(H:d<=24)(w:World)(h:Hp)(g:G w h)(u:TmH d h p t)(l:nW sm d t):CR 51 #[bO p] w h (fun v _=>∃ e:Int,v=iV e/\((WfT (fun s=>isb s=true) d t/\e=(if 1000<ce d t then 18 else 0))\/(¬WfT (fun s=>isb s=true) d t/\e=2))):=by
 have a:=((sS g).add (K:=fun j=>TmH d j p t) u);refine go Tryz.func51 [(0,bO p)] rfl (ax (lA 1 50 (da p) a (fun I w2 J a=>lL a ac (ag (aa a [.o (bO p) 0 0 9] (aq 4 a (uk sm d p t 24 _ _ a.g a.f.1 l oM oM) (fun B F a=>ah (cK (cQ (aa a [.o (bO p) 0 0 9] (lC 6 a (qV isb sm nx d p t _ _ a.g a.f.1 l) ?_)))))))))));rintro _ C D a ⟨x,rfl,c⟩;cases y:(x)
 .
  exact lL a [.v qT] (am (aa a ac (ae a [] (iV 2) (⟨_,rfl,.inr ⟨fun j=>Bool.noConfusion ((c.2 j).symm.trans aM),rfl⟩⟩))))
 refine lL a [.v qF] (ah (cK (cQ (aa a [.o (bO p) 0 0 9] (aq 9 a (rm (fun s=>isb s=true) d p t _ _ a.g a.f.1 (c.1 aM)) (fun L _ a=>?_))))));cases i:(decide ((1000:Int)<(((min (ce d t) 1001:Nat):Int):Int)))
 .
  have z:=oF i;exact lB 10 i (ah (cK (aa a ac (ae a [] (iV 0) (⟨_,rfl,.inl ⟨c.1 aM,by split<;>omega⟩⟩)))))
 have z:=oT i;exact lB 10 i (am (aa a ac (ae a [] (iV 18) (⟨_,rfl,.inl ⟨c.1 aM,by split<;>omega⟩⟩))))
theorem I5 (isb:ByteArray->Bool)(sm:ByteArray->Prop)(nx:∀ s,sm s->∀ (w:World) (h:Hp),G w h->Calls Tryz.prog 52 #[.string s] w (Ret w h (fun v _=>∃ b,v=.bool b/\b=isb s)))(c:∀ s,isb s=true->sm s)(h0:sm ⟨#[]⟩)(d:Nat)(p:PTm)(t:Tm)(i:d<=24)(w:World)(h:Hp)(g:G w h)(j:TmH d h p t)(f:WfT (fun s=>isb s=true) d t):Calls Tryz.prog 51 #[bO p] w (Ret w h (fun v _=>v=iV (if 1000<ce d t then 18 else 0))) :=
 (EJ isb sm nx d p t i w h g j (f.sm c h0)).mono fun e w' ⟨v,l,e1,u,e2,o,a⟩=>⟨v,l,e1,u,by
  rcases a with ⟨_,a⟩|⟨a,_⟩
  ·rw[o,a]
  ·exact absurd f a⟩
theorem BQ (A:Z9)(c:Nat)(w:World)(h:Hp)(g:G w h)(u:SlO 1 bD ⟨#[]⟩ h A ([⟨#[120]⟩,⟨#[121]⟩]:List ByteArray)):CR 35 #[.slice A 2 c] w h (fun v h1=>∃ b,v=.map (some b)/\MapS h1 b [⟨.string (⟨#[120]⟩),iV 0,0⟩,⟨.string (⟨#[121]⟩),iV 1,1⟩]):=by
 have a:=((sS g).aS u);have o:([⟨#[120]⟩,⟨#[121]⟩]:List ByteArray).length=2:=rfl;refine go Tryz.func35 [(0,qS A 2 c)] rfl (aa a ac (aG (HN 6 a (fun d w2 z a l=>lL a ac (ag (aa a [.c,.v (iV 2),.c] (aZ (cU ?_))))))));refine cN (aa a [.v qT] (ag (ct (cK (cQ (kZ (aa a ac (lX 12 A 2 c 1 0 0 ((a.f.1).ok oM) ?_))))))));refine lH 13 (.string (⟨#[120]⟩)) a ((a.f.1).el 0 oM) (lL a aD (lN (kQ (lL a dl (pp 95 9 3 (⟨#[120]⟩) (iV 0) a l (fun y a j=>lN (kQ (lL a [.v (iV 1),.c] (lD (CL.to [(2,.map none),(3,.map (some d)),(7,qS A 2 c),(8,iV 2),(9,iV 1),(10,qT),(11,iV 0),(12,.pointer (some ⟨(aB A),aO A+0*1,none⟩)),(13,.string (⟨#[120]⟩)),(4,iV 0),(5,.string (⟨#[120]⟩)),(14,.map (some d)),(15,.string (⟨#[120]⟩)),(16,iV 0),(17,iV 1)] ?_))))))))));replace a:=a.to [] [];refine cN (aa a [.v qT] (ag (ct (cK (cQ (kZ (aa a ac (lX 12 A 2 c 1 1 1 ((a.f.1).ok oM) ?_))))))));refine lH 13 (.string (⟨#[121]⟩)) a ((a.f.1).el 1 oM) (lL a aD (lN (kQ (lL a dl (pp 95 9 3 (⟨#[121]⟩) (iV 1) a j (fun x a i=>lN (kQ (lL a [.v (iV 2),.c] (lD (CL.to [(2,.map none),(3,.map (some d)),(7,qS A 2 c),(8,iV 2),(9,iV 2),(10,qT),(11,iV 1),(12,.pointer (some ⟨(aB A),aO A+1*1,none⟩)),(13,.string (⟨#[121]⟩)),(4,iV 1),(5,.string (⟨#[121]⟩)),(14,.map (some d)),(15,.string (⟨#[121]⟩)),(16,iV 1),(17,iV 2)] ?_))))))))));replace a:=a.to [] [];refine cN (aa a [.v qF] (ag (dD (CG.exit ?_))))
 show CG _ _ _ _ _ _ _ _
 refine aa a ac ?_;obtain ⟨B,a,e⟩:=a.pubMap i;replace a:=a.to [] [];replace a:=a.add (K:=fun p=>MapS p d [⟨.string (⟨#[120]⟩),iV 0,0⟩,⟨.string (⟨#[121]⟩),iV 1,1⟩]) e;exact lL a ac (ae a [] (.map (some d)) (⟨_,rfl,a.f.1⟩))
theorem BO (A:Z9)(c:Nat)(w:World)(h:Hp)(g:G w h)(z:SlO 1 bD ⟨#[]⟩ h A ([⟨#[120]⟩,⟨#[121]⟩,⟨#[122]⟩,⟨#[120]⟩]:List ByteArray)):CR 35 #[.slice A 4 c] w h (fun v h1=>∃ b,v=.map (some b)/\MapS h1 b [⟨.string (⟨#[120]⟩),iV 3,0⟩,⟨.string (⟨#[121]⟩),iV 1,1⟩,⟨.string (⟨#[122]⟩),iV 2,2⟩]):=by
 have a:=((sS g).aS z);have x:([⟨#[120]⟩,⟨#[121]⟩,⟨#[122]⟩,⟨#[120]⟩]:List ByteArray).length=4:=rfl;refine go Tryz.func35 [(0,qS A 4 c)] rfl (aa a ac (aG (HN 6 a (fun d w2 D a u=>lL a ac (ag (aa a [.c,.v (iV 4),.c] (aZ (cU ?_))))))));refine cN (aa a [.v qT] (ag (ct (cK (cQ (kZ (aa a ac (lX 12 A 4 c 1 0 0 ((a.f.1).ok oM) ?_))))))));refine lH 13 (.string (⟨#[120]⟩)) a ((a.f.1).el 0 oM) (lL a aD (lN (kQ (lL a dl (pp 95 9 3 (⟨#[120]⟩) (iV 0) a u (fun C a p=>lN (kQ (lL a [.v (iV 1),.c] (lD (CL.to [(2,.map none),(3,.map (some d)),(7,qS A 4 c),(8,iV 4),(9,iV 1),(10,qT),(11,iV 0),(12,.pointer (some ⟨(aB A),aO A+0*1,none⟩)),(13,.string (⟨#[120]⟩)),(4,iV 0),(5,.string (⟨#[120]⟩)),(14,.map (some d)),(15,.string (⟨#[120]⟩)),(16,iV 0),(17,iV 1)] ?_))))))))));replace a:=a.to [] [];refine cN (aa a [.v qT] (ag (ct (cK (cQ (kZ (aa a ac (lX 12 A 4 c 1 1 1 ((a.f.1).ok oM) ?_))))))));refine lH 13 (.string (⟨#[121]⟩)) a ((a.f.1).el 1 oM) (lL a aD (lN (kQ (lL a dl (pp 95 9 3 (⟨#[121]⟩) (iV 1) a p (fun B a o=>lN (kQ (lL a [.v (iV 2),.c] (lD (CL.to [(2,.map none),(3,.map (some d)),(7,qS A 4 c),(8,iV 4),(9,iV 2),(10,qT),(11,iV 1),(12,.pointer (some ⟨(aB A),aO A+1*1,none⟩)),(13,.string (⟨#[121]⟩)),(4,iV 1),(5,.string (⟨#[121]⟩)),(14,.map (some d)),(15,.string (⟨#[121]⟩)),(16,iV 1),(17,iV 2)] ?_))))))))));replace a:=a.to [] [];refine cN (aa a [.v qT] (ag (ct (cK (cQ (kZ (aa a ac (lX 12 A 4 c 1 2 2 ((a.f.1).ok oM) ?_))))))));refine lH 13 (.string (⟨#[122]⟩)) a ((a.f.1).el 2 oM) (lL a aD (lN (kQ (lL a dl (pp 95 9 3 (⟨#[122]⟩) (iV 2) a o (fun F a j=>lN (kQ (lL a [.v (iV 3),.c] (lD (CL.to [(2,.map none),(3,.map (some d)),(7,qS A 4 c),(8,iV 4),(9,iV 3),(10,qT),(11,iV 2),(12,.pointer (some ⟨(aB A),aO A+2*1,none⟩)),(13,.string (⟨#[122]⟩)),(4,iV 2),(5,.string (⟨#[122]⟩)),(14,.map (some d)),(15,.string (⟨#[122]⟩)),(16,iV 2),(17,iV 3)] ?_))))))))));replace a:=a.to [] [];refine cN (aa a [.v qT] (ag (ct (cK (cQ (kZ (aa a ac (lX 12 A 4 c 1 3 3 ((a.f.1).ok oM) ?_))))))));refine lH 13 (.string (⟨#[120]⟩)) a ((a.f.1).el 3 oM) (lL a aD (lN (kQ (lL a dl (Lg (i:=0) 95 9 3 (⟨#[120]⟩) (iV 3) (iV 0) [⟨.string (⟨#[120]⟩),iV 3,0⟩,⟨.string (⟨#[121]⟩),iV 1,1⟩,⟨.string (⟨#[122]⟩),iV 2,2⟩] a j (fun _ a e=>lN (kQ (lL a [.v (iV 4),.c] (lD (CL.to [(2,.map none),(3,.map (some d)),(7,qS A 4 c),(8,iV 4),(9,iV 4),(10,qT),(11,iV 3),(12,.pointer (some ⟨(aB A),aO A+3*1,none⟩)),(13,.string (⟨#[120]⟩)),(4,iV 3),(5,.string (⟨#[120]⟩)),(14,.map (some d)),(15,.string (⟨#[120]⟩)),(16,iV 3),(17,iV 4)] ?_))))))))));replace a:=a.to [] [];refine cN (aa a [.v qF] (ag (dD (CG.exit ?_))))
 show CG _ _ _ _ _ _ _ _
 refine aa a ac ?_;obtain ⟨_,a,l⟩:=a.pubMap e;replace a:=a.to [] [];replace a:=a.add (K:=fun y=>MapS y d [⟨.string (⟨#[120]⟩),iV 3,0⟩,⟨.string (⟨#[121]⟩),iV 1,1⟩,⟨.string (⟨#[122]⟩),iV 2,2⟩]) l;exact lL a ac (ae a [] (.map (some d)) (⟨_,rfl,a.f.1⟩))
theorem AF (A:Z9)(c:Nat)(w:World)(h:Hp)(g:G w h)(y:SlO 1 bD ⟨#[]⟩ h A ([⟨#[122]⟩,⟨#[121]⟩,⟨#[120]⟩,⟨#[119]⟩]:List ByteArray)):CR 35 #[.slice A 4 c] w h (fun v h1=>∃ b,v=.map (some b)/\MapS h1 b [⟨.string (⟨#[122]⟩),iV 0,0⟩,⟨.string (⟨#[121]⟩),iV 1,1⟩,⟨.string (⟨#[120]⟩),iV 2,2⟩,⟨.string (⟨#[119]⟩),iV 3,3⟩]):=by
 have a:=((sS g).aS y);have u:([⟨#[122]⟩,⟨#[121]⟩,⟨#[120]⟩,⟨#[119]⟩]:List ByteArray).length=4:=rfl;refine go Tryz.func35 [(0,qS A 4 c)] rfl (aa a ac (aG (HN 6 a (fun d w2 C a p=>lL a ac (ag (aa a [.c,.v (iV 4),.c] (aZ (cU ?_))))))));refine cN (aa a [.v qT] (ag (ct (cK (cQ (kZ (aa a ac (lX 12 A 4 c 1 0 0 ((a.f.1).ok oM) ?_))))))));refine lH 13 (.string (⟨#[122]⟩)) a ((a.f.1).el 0 oM) (lL a aD (lN (kQ (lL a dl (pp 95 9 3 (⟨#[122]⟩) (iV 0) a p (fun B a o=>lN (kQ (lL a [.v (iV 1),.c] (lD (CL.to [(2,.map none),(3,.map (some d)),(7,qS A 4 c),(8,iV 4),(9,iV 1),(10,qT),(11,iV 0),(12,.pointer (some ⟨(aB A),aO A+0*1,none⟩)),(13,.string (⟨#[122]⟩)),(4,iV 0),(5,.string (⟨#[122]⟩)),(14,.map (some d)),(15,.string (⟨#[122]⟩)),(16,iV 0),(17,iV 1)] ?_))))))))));replace a:=a.to [] [];refine cN (aa a [.v qT] (ag (ct (cK (cQ (kZ (aa a ac (lX 12 A 4 c 1 1 1 ((a.f.1).ok oM) ?_))))))));refine lH 13 (.string (⟨#[121]⟩)) a ((a.f.1).el 1 oM) (lL a aD (lN (kQ (lL a dl (pp 95 9 3 (⟨#[121]⟩) (iV 1) a o (fun z a l=>lN (kQ (lL a [.v (iV 2),.c] (lD (CL.to [(2,.map none),(3,.map (some d)),(7,qS A 4 c),(8,iV 4),(9,iV 2),(10,qT),(11,iV 1),(12,.pointer (some ⟨(aB A),aO A+1*1,none⟩)),(13,.string (⟨#[121]⟩)),(4,iV 1),(5,.string (⟨#[121]⟩)),(14,.map (some d)),(15,.string (⟨#[121]⟩)),(16,iV 1),(17,iV 2)] ?_))))))))));replace a:=a.to [] [];refine cN (aa a [.v qT] (ag (ct (cK (cQ (kZ (aa a ac (lX 12 A 4 c 1 2 2 ((a.f.1).ok oM) ?_))))))));refine lH 13 (.string (⟨#[120]⟩)) a ((a.f.1).el 2 oM) (lL a aD (lN (kQ (lL a dl (pp 95 9 3 (⟨#[120]⟩) (iV 2) a l (fun D a i=>lN (kQ (lL a [.v (iV 3),.c] (lD (CL.to [(2,.map none),(3,.map (some d)),(7,qS A 4 c),(8,iV 4),(9,iV 3),(10,qT),(11,iV 2),(12,.pointer (some ⟨(aB A),aO A+2*1,none⟩)),(13,.string (⟨#[120]⟩)),(4,iV 2),(5,.string (⟨#[120]⟩)),(14,.map (some d)),(15,.string (⟨#[120]⟩)),(16,iV 2),(17,iV 3)] ?_))))))))));replace a:=a.to [] [];refine cN (aa a [.v qT] (ag (ct (cK (cQ (kZ (aa a ac (lX 12 A 4 c 1 3 3 ((a.f.1).ok oM) ?_))))))));refine lH 13 (.string (⟨#[119]⟩)) a ((a.f.1).el 3 oM) (lL a aD (lN (kQ (lL a dl (pp 95 9 3 (⟨#[119]⟩) (iV 3) a i (fun _ a e=>lN (kQ (lL a [.v (iV 4),.c] (lD (CL.to [(2,.map none),(3,.map (some d)),(7,qS A 4 c),(8,iV 4),(9,iV 4),(10,qT),(11,iV 3),(12,.pointer (some ⟨(aB A),aO A+3*1,none⟩)),(13,.string (⟨#[119]⟩)),(4,iV 3),(5,.string (⟨#[119]⟩)),(14,.map (some d)),(15,.string (⟨#[119]⟩)),(16,iV 3),(17,iV 4)] ?_))))))))));replace a:=a.to [] [];refine cN (aa a [.v qF] (ag (dD (CG.exit ?_))))
 show CG _ _ _ _ _ _ _ _
 refine aa a ac ?_;obtain ⟨_,a,j⟩:=a.pubMap e;replace a:=a.to [] [];replace a:=a.add (K:=fun x=>MapS x d [⟨.string (⟨#[122]⟩),iV 0,0⟩,⟨.string (⟨#[121]⟩),iV 1,1⟩,⟨.string (⟨#[120]⟩),iV 2,2⟩,⟨.string (⟨#[119]⟩),iV 3,3⟩]) j;exact lL a ac (ae a [] (.map (some d)) (⟨_,rfl,a.f.1⟩))
theorem BY (A:Z9)(c:Nat)(w:World)(h:Hp)(g:G w h)(x:SlO 1 bD ⟨#[]⟩ h A cD):CR 35 #[.slice A 3 c] w h (fun v h1=>∃ b,v=.map (some b)/\MapS h1 b [⟨.string (⟨#[120]⟩),iV 0,0⟩,⟨.string (⟨#[121]⟩),iV 1,1⟩,⟨.string (⟨#[122]⟩),iV 2,2⟩]):=by
 have a:=((sS g).aS x);have p:cD.length=3:=rfl;refine go Tryz.func35 [(0,qS A 3 c)] rfl (aa a ac (aG (HN 6 a (fun d w2 B a o=>lL a ac (ag (aa a [.c,.v (iV 3),.c] (aZ (cU ?_))))))));refine cN (aa a [.v qT] (ag (ct (cK (cQ (kZ (aa a ac (lX 12 A 3 c 1 0 0 ((a.f.1).ok oM) ?_))))))));refine lH 13 (.string (⟨#[120]⟩)) a ((a.f.1).el 0 oM) (lL a aD (lN (kQ (lL a dl (pp 95 9 3 (⟨#[120]⟩) (iV 0) a o (fun z a j=>lN (kQ (lL a [.v (iV 1),.c] (lD (CL.to [(2,.map none),(3,.map (some d)),(7,qS A 3 c),(8,iV 3),(9,iV 1),(10,qT),(11,iV 0),(12,.pointer (some ⟨(aB A),aO A+0*1,none⟩)),(13,.string (⟨#[120]⟩)),(4,iV 0),(5,.string (⟨#[120]⟩)),(14,.map (some d)),(15,.string (⟨#[120]⟩)),(16,iV 0),(17,iV 1)] ?_))))))))));replace a:=a.to [] [];refine cN (aa a [.v qT] (ag (ct (cK (cQ (kZ (aa a ac (lX 12 A 3 c 1 1 1 ((a.f.1).ok oM) ?_))))))));refine lH 13 (.string (⟨#[121]⟩)) a ((a.f.1).el 1 oM) (lL a aD (lN (kQ (lL a dl (pp 95 9 3 (⟨#[121]⟩) (iV 1) a j (fun y a i=>lN (kQ (lL a [.v (iV 2),.c] (lD (CL.to [(2,.map none),(3,.map (some d)),(7,qS A 3 c),(8,iV 3),(9,iV 2),(10,qT),(11,iV 1),(12,.pointer (some ⟨(aB A),aO A+1*1,none⟩)),(13,.string (⟨#[121]⟩)),(4,iV 1),(5,.string (⟨#[121]⟩)),(14,.map (some d)),(15,.string (⟨#[121]⟩)),(16,iV 1),(17,iV 2)] ?_))))))))));replace a:=a.to [] [];refine cN (aa a [.v qT] (ag (ct (cK (cQ (kZ (aa a ac (lX 12 A 3 c 1 2 2 ((a.f.1).ok oM) ?_))))))));refine lH 13 (.string (⟨#[122]⟩)) a ((a.f.1).el 2 oM) (lL a aD (lN (kQ (lL a dl (pp 95 9 3 (⟨#[122]⟩) (iV 2) a i (fun C a e=>lN (kQ (lL a [.v (iV 3),.c] (lD (CL.to [(2,.map none),(3,.map (some d)),(7,qS A 3 c),(8,iV 3),(9,iV 3),(10,qT),(11,iV 2),(12,.pointer (some ⟨(aB A),aO A+2*1,none⟩)),(13,.string (⟨#[122]⟩)),(4,iV 2),(5,.string (⟨#[122]⟩)),(14,.map (some d)),(15,.string (⟨#[122]⟩)),(16,iV 2),(17,iV 3)] ?_))))))))));replace a:=a.to [] [];refine cN (aa a [.v qF] (ag (dD (CG.exit ?_))))
 show CG _ _ _ _ _ _ _ _
 refine aa a ac ?_;obtain ⟨_,a,l⟩:=a.pubMap e;replace a:=a.to [] [];replace a:=a.add (K:=fun u=>MapS u d [⟨.string (⟨#[120]⟩),iV 0,0⟩,⟨.string (⟨#[121]⟩),iV 1,1⟩,⟨.string (⟨#[122]⟩),iV 2,2⟩]) l;exact lL a ac (ae a [] (.map (some d)) (⟨_,rfl,a.f.1⟩))
theorem Bb (A:Z9)(c:Nat)(w:World)(h:Hp)(g:G w h)(p:SlO 1 bD ⟨#[]⟩ h A ([⟨#[120]⟩]:List ByteArray)):CR 35 #[.slice A 1 c] w h (fun v h1=>∃ b,v=.map (some b)/\MapS h1 b [⟨.string (⟨#[120]⟩),iV 0,0⟩]):=by
 have a:=((sS g).aS p);have l:([⟨#[120]⟩]:List ByteArray).length=1:=rfl;refine go Tryz.func35 [(0,qS A 1 c)] rfl (aa a ac (aG (HN 6 a (fun i w2 y a e=>lL a ac (ag (aa a [.c,.v (iV 1),.c] (aZ (cU ?_))))))));refine cN (aa a [.v qT] (ag (ct (cK (cQ (kZ (aa a ac (lX 12 A 1 c 1 0 0 ((a.f.1).ok oM) ?_))))))));refine lH 13 (.string (⟨#[120]⟩)) a ((a.f.1).el 0 oM) (lL a aD (lN (kQ (lL a dl (pp 95 9 3 (⟨#[120]⟩) (iV 0) a e (fun x a d=>lN (kQ (lL a [.v (iV 1),.c] (lD (CL.to [(2,.map none),(3,.map (some i)),(7,qS A 1 c),(8,iV 1),(9,iV 1),(10,qT),(11,iV 0),(12,.pointer (some ⟨(aB A),aO A+0*1,none⟩)),(13,.string (⟨#[120]⟩)),(4,iV 0),(5,.string (⟨#[120]⟩)),(14,.map (some i)),(15,.string (⟨#[120]⟩)),(16,iV 0),(17,iV 1)] ?_))))))))));replace a:=a.to [] [];refine cN (aa a [.v qF] (ag (dD (CG.exit ?_))))
 show CG _ _ _ _ _ _ _ _
 refine aa a ac ?_;obtain ⟨u,a,j⟩:=a.pubMap d;replace a:=a.to [] [];replace a:=a.add (K:=fun o=>MapS o i [⟨.string (⟨#[120]⟩),iV 0,0⟩]) j;exact lL a ac (ae a [] (.map (some i)) (⟨_,rfl,a.f.1⟩))
def qA (isb:ByteArray->Bool)(d:Nat)(t:Tm):Prop:=WfT1 (fun s=>isb s=true) d t/\ce d t<=1000
theorem In:∀ s,ge s->∀ (w:World) (h:Hp),G w h->Calls Tryz.prog 52 #[.string s] w (Ret w h (fun v _=>∃ b,v=.bool b/\b=dr s)):=fun s c w h g =>
 (GP s (by unfold ge at c;omega) w h g).mono fun e w' ⟨v,a,e1,u,e2⟩=>⟨v,a,e1,u,_,e2,rfl⟩
theorem pe {s:ByteArray}(h:dr s=true):ge s:=by
 have:=oT h
 unfold ge;omega
theorem EC {b:Bool}(h:(!b)=false):b=true:=by cases b<;>first|rfl|cases h
theorem G0 {b:Bool}(h:(!b)=true):b=false:=by cases b<;>first|rfl|cases h
theorem BP {l:List ByteArray}{k:Nat}(h:k<l.length):l.getD k ⟨#[]⟩∈l:=by
 rw[LM,NO h];exact gp h
theorem uT {l:List ByteArray}{s:ByteArray}(h:s∈l):∃ i,i<l.length/\l.getD i ⟨#[]⟩=s:=by
 obtain ⟨i,hi,e⟩:=List.mem_iff_getElem.1 h;exact ⟨i,hi,by rw[LM,NO hi];exact e⟩
theorem pf {ok sm:ByteArray->Prop}:∀ {d:Nat} {t:Tm},SmT1 sm d t->WfT ok d t->WfT1 ok d t
 | _+1,_,⟨_,_,_,s4,_,s6⟩,⟨h1,h2,_,h4,h5,h6,h7,h8,h9⟩=>⟨h1,h2,s4,h4,h5,h6,h7,h8,fun i hi=>pf (s6 i hi) (h9 i hi)⟩
theorem wI {isb:ByteArray->Bool}{sm:ByteArray->Prop}{d:Nat}{t:Tm}{e:Int}(a:SmT1 sm d t)(h:(WfT (fun s=>isb s=true) d t/\e=(if 1000<ce d t then 18 else 0))\/(¬WfT (fun s=>isb s=true) d t/\e=2))(z:e=0):WfT1 (fun s=>isb s=true) d t/\ce d t<=1000:=by
 rcases h with ⟨h1,h2⟩|⟨h1,h2⟩
 ·refine ⟨pf a h1,?_⟩
  split at h2<;>omega
 ·omega
theorem HW {isb:ByteArray->Bool}{d:Nat}{t:Tm}{e:Int}(h:(WfT (fun s=>isb s=true) d t/\e=(if 1000<ce d t then 18 else 0))\/(¬WfT (fun s=>isb s=true) d t/\e=2))(z:qA isb d t):e=0:=by
 rcases h with ⟨h1,h2⟩|⟨h1,h2⟩
 ·rw[h2,if_neg (by have:=z.2;omega)]
 ·exact absurd z.1.wf h1
def NsD (ns:List ByteArray):Prop:=ns=([⟨#[120]⟩,⟨#[121]⟩]:List ByteArray)\/ns=([⟨#[120]⟩,⟨#[121]⟩,⟨#[122]⟩,⟨#[120]⟩]:List ByteArray)\/ns=([⟨#[109,97,120]⟩,⟨#[120]⟩,⟨#[121]⟩,⟨#[122]⟩]:List ByteArray)\/ns=([⟨#[122]⟩,⟨#[121]⟩,⟨#[120]⟩,⟨#[119]⟩]:List ByteArray)\/ns=cD\/ns=([⟨#[120]⟩]:List ByteArray)
theorem NsD.len {ns:List ByteArray}(h:NsD ns):ns.length<=4/\1<=ns.length:=by
 rcases h with rfl|rfl|rfl|rfl|rfl|rfl<;>decide
theorem NsD.small {ns:List ByteArray}(h:NsD ns):∀ i,i<ns.length->ge (ns.getD i ⟨#[]⟩):=by
 unfold ge
 rcases h with rfl|rfl|rfl|rfl|rfl|rfl<;>decide
def BR:List MapEntry:=[⟨.string ⟨#[120]⟩,.int .i64 3,0⟩,⟨.string ⟨#[121]⟩,.int .i64 1,1⟩,⟨.string ⟨#[122]⟩,.int .i64 2,2⟩]
def o4:List ByteArray:=([⟨#[120]⟩,⟨#[121]⟩,⟨#[122]⟩,⟨#[120]⟩]:List ByteArray)
def jz (ns:List ByteArray):List MapEntry:=if ns=o4 then BR else rJ ns 0
def vN (ns:List ByteArray)(s:ByteArray):Int:=if ns=o4 then (if s=⟨#[120]⟩ then 3 else if s=⟨#[121]⟩ then 1 else if s=⟨#[122]⟩ then 2 else 0) else JU ns s
theorem Gi (s:ByteArray):(∃ i,Instr.findNow .string (.string s) BR 0=some (some (i,.int .i64 (vN o4 s)))/\decide (s∈o4)=true)\/(Instr.findNow .string (.string s) BR 0=some none/\decide (s∈o4)=false/\vN o4 s=0):=by
 by_cases h1:s=⟨#[120]⟩
 ·subst h1;exact .inl ⟨0,by kernel_rfl,by decide⟩
 by_cases h2:s=⟨#[121]⟩
 ·subst h2;exact .inl ⟨1,by kernel_rfl,by decide⟩
 by_cases h3:s=⟨#[122]⟩
 ·subst h3;exact .inl ⟨2,by kernel_rfl,by decide⟩
 refine .inr ⟨?_,decide_eq_false (fun h=>?_),by unfold vN;rw[if_pos rfl,if_neg h1,if_neg h2,if_neg h3]⟩
 ·rcases MapKept.findNow_spec (d:=.string) (k:=.string s) (by simp[MapKept.IsKey]) BR 0 (fun x f=>by
   simp only[BR,g2,List.not_mem_nil,or_false] at f
   rcases f with rfl|rfl|rfl<;>simp[MapKept.IsKey]) with ⟨a,_⟩|⟨j,e,a,b,c⟩
  ·exact a
  ·exfalso
   match j,b with
   | 0,b=>injection b with b;subst b;injection c with c;exact h1 c.symm
   | 1,b=>injection b with b;subst b;injection c with c;exact h2 c.symm
   | 2,b=>injection b with b;subst b;injection c with c;exact h3 c.symm
   | n+3,b=>cases b
 ·simp only[o4,g2,List.not_mem_nil,or_false] at h
  rcases h with h|h|h|h
  ·exact h1 h
  ·exact h2 h
  ·exact h3 h
  ·exact h1 h
theorem Lp {ns:List ByteArray}(a:NsD ns)(_:∀ i,i<ns.length->dr (ns.getD i ⟨#[]⟩)=true)(s:ByteArray):(∃ i,Instr.findNow .string (.string s) (jz ns) 0=some (some (i,.int .i64 (vN ns s)))/\decide (s∈ns)=true)\/(Instr.findNow .string (.string s) (jz ns) 0=some none/\decide (s∈ns)=false/\vN ns s=0):=by
 by_cases hd:ns=o4
 ·subst hd;unfold jz;rw[if_pos rfl];exact Gi s
 ·unfold jz vN;rw[if_neg hd,if_neg hd]
  refine E1 ?_ s
  rcases a with rfl|rfl|rfl|rfl|rfl|rfl
  ·decide
  ·exact absurd rfl hd
  ·decide
  ·decide
  ·decide
  ·decide
theorem AZ {ns:List ByteArray}(a:NsD ns):ns.Nodup↔(jz ns).length=ns.length:=by
 rcases a with rfl|rfl|rfl|rfl|rfl|rfl<;>decide
theorem lk {ns:List ByteArray}(e:NsD ns)(d:∀ i,i<ns.length->dr (ns.getD i ⟨#[]⟩)=true)(A:Z9)(c:Nat)(w:World)(h:Hp)(g:G w h)(a:SlO 1 bD ⟨#[]⟩ h A ns):Calls Tryz.prog 35 #[.slice A ns.length c] w (Ret w h (fun v h1=>∃ b,v=.map (some b)/\MapS h1 b (jz ns))):=by
 rcases e with rfl|rfl|rfl|rfl|rfl|rfl
 ·exact BQ A c w h g a
 ·exact BO A c w h g a
 ·exact absurd (d 0 kD) kD
 ·exact AF A c w h g a
 ·exact BY A c w h g a
 ·exact Bb A c w h g a
def DckR (d:Nat)(t:Tm)(ns:List ByteArray)(M:Prop)(e:Int):Prop :=
  (¬qA dr d t/\e=1)\/(qA dr d t/\((¬M/\e=5)\/(M/\((¬(∀ i,i<ns.length->dr (ns.getD i ⟨#[]⟩)=true)/\e=11)\/((∀ i,i<ns.length->dr (ns.getD i ⟨#[]⟩)=true)/\((¬(∀ s,fH d t s->s∈ns)/\e=11)\/((∀ s,fH d t s->s∈ns)/\((¬ns.Nodup/\e=8)\/(ns.Nodup/\e=0)))))))))
theorem DckR.uniq {d:Nat}{t:Tm}{ns:List ByteArray}{M:Prop}{e h:Int}(x:DckR d t ns M e)(y:DckR d t ns M h):e=h:=by
 rcases x with ⟨a,rfl⟩|⟨a,⟨b,rfl⟩|⟨b,⟨c,rfl⟩|⟨c,⟨f,rfl⟩|⟨f,⟨i,rfl⟩|⟨i,rfl⟩⟩⟩⟩⟩ <;>
 rcases y with ⟨a',rfl⟩|⟨a',⟨b',rfl⟩|⟨b',⟨c',rfl⟩|⟨c',⟨f',rfl⟩|⟨f',⟨i',rfl⟩|⟨i',rfl⟩⟩⟩⟩⟩ <;>
 first
 | rfl
 | exact absurd a' a
 | exact absurd a a'
 | exact absurd b' b
 | exact absurd b b'
 | exact absurd c' c
 | exact absurd c c'
 | exact absurd f' f
 | exact absurd f f'
 | exact absurd i' i
 | exact absurd i i'
theorem DckR.ok {d:Nat}{t:Tm}{ns:List ByteArray}{M:Prop}{e:Int}(x:DckR d t ns M e)(h:e=0):qA dr d t/\M/\(∀ i,i<ns.length->dr (ns.getD i ⟨#[]⟩)=true)/\(∀ s,fH d t s->s∈ns)/\ns.Nodup:=by
 rcases x with ⟨a,rfl⟩|⟨a,⟨b,rfl⟩|⟨b,⟨c,rfl⟩|⟨c,⟨f,rfl⟩|⟨f,⟨i,rfl⟩|⟨i,rfl⟩⟩⟩⟩⟩
 ·cases h
 ·cases h
 ·cases h
 ·cases h
 ·cases h
 ·exact ⟨a,b,c,f,i⟩
theorem tF (d:Nat)(p:PTm)(t:Tm)(hd:d<=20)(C:Z9)(y:Nat)(ns:List ByteArray)(z:NsD ns)(S:Z9)(cu:Nat)(us:List Value)(U:List Nat)(bl:us.length<=10)(hus:∀ j,j<us.length->∃ A c,us.getD j undef=.slice A (U.getD j 0) c/\U.getD j 0<=1000000)(w:World)(h:Hp)(g:G w h)(hT:TmH d h p t)(hS:SmT1 ge d t)(hN:SlO 1 bD ⟨#[]⟩ h C ns)(hU:Sv S us h):CR 24 #[bO p,.slice C ns.length y,.slice S us.length cu] w h (fun v _=>∃ e:Int,v=iV e/\DckR d t ns (∀ j,j<us.length->U.getD j 0=ns.length) e):=by
 have a:=((((sS g).add (K:=fun b=>TmH d b p t) hT).aS hN).aS hU);have bn:=z.len;refine go Tryz.func24 [(0,bO p),(1,qS C ns.length y),(2,qS S us.length cu)] rfl (ax (lA 3 50 (da p) a (fun V w2 h3 a=>lL a ac (ag (aa a [.o (bO p) 0 0 9] (lC 17 a (EJ dr ge In d p t oM _ _ a.g a.f.r.1 hS.sm) ?_))))));rintro _ w4 h5 a ⟨ec,rfl,L⟩;cases I:((ec:Int) != (0:Int))
 .
  have W:=aJ I;refine lB 18 I (ah (cK (cQ (aa a [.c,.v (nV us.length),.c] (aZ ?_)))));refine bH _ (CG.loop (fun D Γ X=>∃ (u:Nat)(b:Hp),D=us.length-u/\Γ=[(1,qS C ns.length y),(3,pB V),(19,qS S us.length cu),(20,nV us.length),(21,nV u)]/\SS w h X b [⟨V,50,da p⟩] [] [Sv S us,fun b=>SlO 1 bD ⟨#[]⟩ b C ns,fun b=>TmH d b p t]/\u<=us.length/\(∀ i,i<u->U.getD i 0=ns.length)) _ ⟨0,h5,rfl,rfl,a.to _ _,My _,(fun i hi=>absurd hi (NN i))⟩ ?_);rintro _ _ w7 ⟨u,h8,hm9,rfl,a,hu,H⟩;refine ax ?_;cases za:(decide ((u:Int)<(us.length:Int)))
  .
   have zi:=oF za;refine lB 22 za (ag (dD (CG.exit ?_)))
   show CG _ _ _ _ _ _ _ _
   refine cQ (aa a [.c,.v (nV ns.length)] ?_);cases zb:(decide ((20:Int)<(ns.length:Int)))
   .
    have zj:=oF zb;refine lB 33 zb (ah (cK (cQ (aa a [.c,.v (nV ns.length),.c] (aZ ?_)))));refine bH _ (CG.loop (fun D Γ X=>∃ (k:Nat)(b:Hp),D=ns.length-k/\Γ=[(1,qS C ns.length y),(3,pB V),(34,qS C ns.length y),(35,nV ns.length),(36,nV k)]/\SS w h X b [⟨V,50,da p⟩] [] [Sv S us,fun b=>SlO 1 bD ⟨#[]⟩ b C ns,fun b=>TmH d b p t]/\k<=ns.length/\(∀ i,i<k->dr (ns.getD i ⟨#[]⟩)=true)) _ ⟨0,h8,rfl,rfl,a.to _ _,My _,(fun i hi=>absurd hi (NN i))⟩ ?_);rintro _ _ _ ⟨k,_,bd,rfl,a,hk,Y⟩;refine ax ?_;cases zc:(decide ((k:Int)<(ns.length:Int)))
    .
     have zk:=oF zc;refine lB 37 zc (ag (dD (CG.exit ?_)))
     show CG _ _ _ _ _ _ _ _
     have x:∀ i,i<ns.length->dr (ns.getD i ⟨#[]⟩)=true:=fun i hi=>Y i oM
     refine aa a ac (lC 45 a (lk z x C y _ _ a.g a.f.2.1) ?_);rintro _ _ _ a ⟨bm,rfl,hM⟩;replace a:=(a.add (K:=fun b=>MapS b bm (jz ns)) hM);refine lL a ac (ag ?_);have B:=wI hS L oM;have bb:=B.1;refine aa a [.o (bO p) 0 0 9] (lC 47 a (FG (fun s=>dr s=true) (fun s_ b=>by have q_:=pe b;unfold ge at q_;omega) d hd p t _ _ a.g a.f.r.2.1 bb) ?_);rintro _ _ zo a ⟨nA,nc,l,rfl,hnc,hnl,hnS,O⟩;replace a:=a.aS hnS;refine lL a [.v (nV l.length),.c] (aZ ?_);refine bH _ (CG.loop (fun D Γ X=>∃ (j:Nat)(b:Hp),D=l.length-j/\Γ=[(1,qS C ns.length y),(11,.map (some bm)),(47,qS nA l.length nc),(48,nV l.length),(49,nV j)]/\SS w h X b [⟨V,50,da p⟩] [] [fun b=>SlO 1 bD ⟨#[]⟩ b nA l,fun b=>MapS b bm (jz ns),Sv S us,fun b=>SlO 1 bD ⟨#[]⟩ b C ns,fun b=>TmH d b p t]/\j<=l.length/\(∀ i,i<j->l.getD i ⟨#[]⟩∈ns)) _ ⟨0,zo,rfl,rfl,a.to _ _,My _,(fun i hi=>absurd hi (NN i))⟩ ?_);rintro _ _ _ ⟨j,zp,bk,rfl,a,hj,M⟩;refine ax ?_;cases zd:(decide ((j:Int)<(l.length:Int)))
     .
      have zl:=oF zd;refine lB 50 zd (ag (dD (CG.exit ?_)))
      show CG _ _ _ _ _ _ _ _
      refine cQ ?_;have Q:∀ s,fH d t s->s∈ns:=fun s_ b=>by obtain ⟨F,J,e_⟩:=uT ((O s_).2 b);rw[<-e_];exact M F oM
      refine aa a ac (K3 63 95 0 9 3 a a.f.2.1 ?_);refine lL a [.c,.v (nV ns.length)] ?_;cases ze:((((jz ns).length:Nat):Int) != (ns.length:Int))
      .
       have zm:=aJ ze;exact lB 66 ze (ah (cK (aa a ac (ae a [] (iV 0) (⟨_,rfl,.inr ⟨B,.inr ⟨(fun F J=>H F oM),.inr ⟨x,.inr ⟨Q,.inr ⟨(AZ z).2 oM,rfl⟩⟩⟩⟩⟩⟩)))))
      have zm:=aI ze;exact lB 66 ze (am (aa a ac (ae a [] (iV 8) (⟨_,rfl,.inr ⟨B,.inr ⟨(fun F J=>H F oM),.inr ⟨x,.inr ⟨Q,.inl ⟨fun b=>by have:=(AZ z).1 b;omega,rfl⟩⟩⟩⟩⟩⟩))))
     have zl:=oT zd;refine lB 50 zd (ag (ct (cK (cQ (kZ (ax (lX 51 nA l.length nc 1 (j:Nat) j ((a.f.1).ok oM) ?_)))))));refine lH 52 (.string (l.getD j ⟨#[]⟩)) a ((a.f.1).el j oM) (lL a ac (aG (lL a aD (I7 56 95 9 3 (l.getD j ⟨#[]⟩) true (iV (vN ns (l.getD j ⟨#[]⟩))) ((decide (l.getD j ⟨#[]⟩∈ns))) a a.f.2.1 ?_ (hf:=(by rcases Lp z x (l.getD j ⟨#[]⟩) with ⟨F,e1_,e2_⟩|⟨e1_,e2_,e3_⟩;exact .inl ⟨F,e1_,e2_⟩;exact .inr ⟨e1_,e2_,fun _=>by rw[e3_];kernel_rfl⟩))))));refine lL a [.c,.v (iV (vN ns (l.getD j ⟨#[]⟩))),.v (.bool (decide (l.getD j ⟨#[]⟩∈ns))),.c,.c] (aG (lL a ac ?_));cases zg:(!(decide (l.getD j ⟨#[]⟩∈ns)))
     .
      refine lB 60 zg (ah (cK (kQ (bp 61 ((j:Nat)+1) (j+1) ?_))));refine lL a ac (lD ?_);intro a_ ka;refine ⟨_,_,?_,⟨j+1,zp,rfl,rfl,a.to _ _,oM,(fun i hi=>by rcases NT.1 hi with b|rfl;exact M i b;exact oT (by first|assumption|exact EC aM))⟩,ka.to _ kR⟩
      omega
     exact lB 60 zg (am (aa a ac (ae a [] (iV 11) (⟨_,rfl,.inr ⟨B,.inr ⟨(fun F J=>H F oM),.inr ⟨x,.inl ⟨fun b=>oF (by first|assumption|exact G0 aM) (b _ ((O _).1 (BP oM))),rfl⟩⟩⟩⟩⟩))))
    have zk:=oT zc;refine lB 37 zc (ag (ct (cK (cQ (kZ (ax (lX 38 C ns.length y 1 (k:Nat) k ((a.f.2.1).ok oM) ?_)))))));refine lH 39 (.string (ns.getD k ⟨#[]⟩)) a ((a.f.2.1).el k oM) (lL a ac (aG (lL a ac (lC 41 a (In (ns.getD k ⟨#[]⟩) (z.small k oM) _ _ a.g) ?_))));rintro _ _ zq a ⟨bi,rfl,Z⟩;cases bf:(bi)
    .
     exact lL a [.v qT] (am (aa a ac (ae a [] (iV 11) (⟨_,rfl,.inr ⟨wI hS L oM,.inr ⟨(fun F J=>H F oM),.inl ⟨(fun b=>by have q_:=b k oM;rw[<-Z] at q_;have q2_:bi=false:=aM;rw[q_] at q2_;cases q2_),rfl⟩⟩⟩⟩))))
    refine lL a [.v qF] (ah (cK (kQ (bp 43 ((k:Nat)+1) (k+1) ?_))));refine lL a ac (lD ?_);intro a_ ka;refine ⟨_,_,?_,⟨k+1,zq,rfl,rfl,a.to _ _,oM,(fun i hi=>by rcases NT.1 hi with b|rfl;exact Y i b;rw[<-Z];first|assumption|exact EC aM)⟩,ka.to _ kR⟩
    omega
   have zj:=oT zb;refine lB 33 zb (am (aa a ac (lN (kX ?_))))
   exfalso;have:=z.len;omega
  have zi:=oT za;refine lB 22 za (ag (ct (cK (cQ (kZ (ax (lX 23 S us.length cu 1 (u:Nat) u ((a.f.1).ok oM) ?_)))))));obtain ⟨Uj,uj,huj,hmj⟩:=hus u oM;refine HT 24 ((us.getD u undef)) a ((a.f.1).el u oM) huj (lL a ac (aG (lL a [.c,.v (nV (U.getD u 0)),.c,.v (nV ns.length)] ?_)));cases zf:((((U.getD u 0):Nat):Int) != (ns.length:Int))
  .
   have zn:=aJ zf;refine lB 29 zf (ah (cK (kQ (bp 30 ((u:Nat)+1) (u+1) ?_))));refine lL a ac (lD ?_);intro a_ ka;refine ⟨_,_,?_,⟨u+1,h8,rfl,rfl,a.to _ _,oM,(fun i hi=>by rcases NT.1 hi with b|rfl;exact H i b;omega)⟩,ka.to _ kR⟩
   omega
  have zn:=aI zf;exact lB 29 zf (am (aa a ac (ae a [] (iV 5) (⟨_,rfl,.inr ⟨wI hS L oM,.inl ⟨fun b=>by have:=b u oM;omega,rfl⟩⟩⟩))))
 have W:=aI I;exact lB 18 I (am (aa a ac (ae a [] (iV 1) (⟨_,rfl,.inl ⟨fun b=>by have:=HW L ⟨b.1,b.2⟩;omega,rfl⟩⟩))))
end Go.Proofs.YthfkmhgnndmblaaGreatDoor
