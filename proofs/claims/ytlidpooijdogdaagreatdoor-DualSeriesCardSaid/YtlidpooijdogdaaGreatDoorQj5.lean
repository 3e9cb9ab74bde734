/- Laws of this claim, part 6. -/
import Derived.Test.YtlidpooijdogdaaGreatDoorQj0
import Derived.Test.YtlidpooijdogdaaGreatDoorQj1
import Derived.Test.YtlidpooijdogdaaGreatDoorQj2
import Derived.Test.YtlidpooijdogdaaGreatDoorQj3
import Derived.Test.YtlidpooijdogdaaGreatDoorQj4
set_option maxRecDepth 100000
set_option maxHeartbeats 4000000
namespace Go.Proofs.YtlidpooijdogdaaGreatDoor
open _root_.Array renaming getElem?_append_left -> tf, getElem?_eq_some_iff -> hC, getElem?_push_size -> er, getElem?_setIfInBounds_ne -> hP, getElem?_setIfInBounds_self_of_lt -> As, size_setIfInBounds -> Oj
open Bool renaming not_not -> Ot
open List renaming cons_append -> Ll, ext_getElem -> NC, getD_eq_getElem?_getD -> LI, getElem?_eq_getElem -> NG, getElem?_eq_some_iff -> Mi, getElem?_map -> LW, getElem?_set -> Om, getElem?_zipIdx -> Ok, getElem_map -> um, getElem_mem -> e5, length_append -> y5, length_cons -> tv, length_drop -> LU, length_map -> Od, length_nil -> NN, length_replicate -> NF, length_set -> Md, length_take -> Lp, map_cons -> Ag, mem_append -> fo, mem_cons -> gs, mem_iff_getElem? -> Ol, mem_map -> gg, mem_singleton -> sA, mergeSort_perm -> Oq, range -> ov, replicate -> zZ, size_toArray -> Oo
open Nat renaming add_zero -> yh, le_of_ble_eq_true -> D0, le_of_eq -> MC, le_refl -> ea, le_trans -> eb, lt_succ_iff_lt_or_eq -> NL, mul_le_mul -> Ma, mul_le_mul_left -> Lz, mul_le_mul_right -> zh, mul_left_comm -> Ob, not_lt_zero -> NK, pow_le_pow_right -> Lw, pow_succ -> HA, succ_lt_succ -> On, succ_mul -> y3, succ_pos -> Mx, zero_add -> y9, zero_le -> Mv
open Go.RowKit
open Go.RowKit Go.Shelf
theorem uI {us:List ByteArray}{i:Nat}{s:ByteArray}{op:Int}(h:op=2)(x:ByteArray):x∈us.take i++[s]++us.drop i↔(x∈us\/(op=2/\x=s)):=by
 have e:x∈us↔x∈us.take i\/x∈us.drop i:=by rw[<-fo,List.take_append_drop]
 rw[e,fo,fo,sA]
 constructor
 ·rintro ((h1|h1)|h1)
  ·exact .inl (.inl h1)
  ·exact .inr ⟨h,h1⟩
  ·exact .inl (.inr h1)
 ·rintro ((h1|h1)|⟨_,h1⟩)
  ·exact .inl (.inl h1)
  ·exact .inr h1
  ·exact .inl (.inr h1)
theorem C9 {us:List ByteArray}{i:Nat}{s:ByteArray}{op:Int}(hi:i<us.length)(a:us.getD i ⟨#[]⟩=s)(x:ByteArray):x∈us↔(x∈us\/(op=2/\x=s)):=by
 constructor
 ·exact .inl
 ·rintro (h1|⟨_,rfl⟩)
  ·exact h1
  ·rw[<-a];exact IL hi rfl
theorem CX {us:List ByteArray}{s:ByteArray}{op:Int}(h:op≠2)(x:ByteArray):x∈us↔(x∈us\/(op=2/\x=s)):=by
 constructor
 ·exact .inl
 ·rintro (h1|⟨a,_⟩)
  ·exact h1
  ·exact absurd a h
theorem KB {d:Nat}{ks:List Tm}{x:ByteArray}(a b:Prop):(a\/b)↔(a\/b\/HasK d ks 0 x):=by
 constructor
 ·rintro (h|h)
  ·exact .inl h
  ·exact .inr (.inl h)
 ·rintro (h|h|⟨i,hi,_⟩)
  ·exact .inl h
  ·exact .inr h
  ·exact absurd hi (NK i)
theorem Ko {d k:Nat}{ks:List Tm}{x:ByteArray}{n:Prop}{a b:Prop}(h:n↔(a\/b\/HasK d ks k x)):(n\/fQ d (ks.getD k cZ) x)↔(a\/b\/HasK d ks (k+1) x):=by
 rw[h]
 constructor
 ·rintro ((h1|h1|⟨i,hi,h1⟩)|h1)
  ·exact .inl h1
  ·exact .inr (.inl h1)
  ·exact .inr (.inr ⟨i,by omega,h1⟩)
  ·exact .inr (.inr ⟨k,by omega,h1⟩)
 ·rintro (h1|h1|⟨i,hi,h1⟩)
  ·exact .inl (.inl h1)
  ·exact .inl (.inr (.inl h1))
  ·rcases NL.1 hi with h2|rfl
   ·exact .inl (.inr (.inr ⟨i,h2,h1⟩))
   ·exact .inr h1
theorem Er  (ok:ByteArray->Prop)(d:Nat)(ih:∀ (r:RTm) (t:Tm) (y:Z9) (z:Nat) (us:List ByteArray) (w:World) (h:Hp),G w h->RmH d h r t->WfT ok d t->us.length<=z->SlO 1 bB ⟨#[]⟩ h y us->us.length+eP d t<=1000000->Calls Tryz.prog 88 #[bJ r,.slice y us.length z] w (Ret w h (fun v h1=>∃ A_ c_,∃ u:List ByteArray,v=.slice A_ u.length c_/\u.length<=c_/\u.length<=us.length+eP d t/\SlO 1 bB ⟨#[]⟩ h1 A_ u/\∀ x,x∈u↔(x∈us\/fQ d t x))))(op n:Int)(Q:Bool)(I:Z9)(L O:Nat)(M:Z9)(S J:Nat)(q:Rat)(s:ByteArray)(A:Z9)(c:Nat)(C:List RTm)(ks:List Tm)(hc:C.length<=c)(y:Z9)(z:Nat)(us:List ByteArray)(hk3:ks.length<=2)(hW:∀ i,i<ks.length->WfT ok d (ks.getD i cZ))(Z:us.length<=z)(hb:us.length+(1+(dQ (fun i=>eP d (ks.getD i cZ)) ks.length))<=1000000)(w:World)(h:Hp)(g:G w h)(hZ:RZ h (Q,.slice I L O,.slice M S J) q)(hK:SlO 7 bE bT h A C)(hKs:Rms d h C ks)(hL:SlO 1 bB ⟨#[]⟩ h y us):CR 88 #[bJ ⟨op,n,Q,I,L,O,M,S,J,s,A,C.length,c⟩,.slice y us.length z] w h (fun v h1=>∃ A_ c_,∃ u:List ByteArray,v=.slice A_ u.length c_/\u.length<=c_/\u.length<=us.length+eP (d+1) (.mk op n q s ks)/\SlO 1 bB ⟨#[]⟩ h1 A_ u/\∀ x,x∈u↔(x∈us\/fQ (d+1) (.mk op n q s ks) x)):=by
 have a:=(((((sS g).add (K:=fun e=>RZ e (Q,qS I L O,qS M S J) q) hZ).aS hK).add (K:=fun e=>Rms d e C ks) hKs).aS hL);have hln:=(a.f.2.1).len;refine go Tryz.func88 [(0,bJ ⟨op,n,Q,I,L,O,M,S,J,s,A,C.length,c⟩),(1,qS y us.length z)] rfl (aD (lA 2 31 (bE ⟨op,n,Q,I,L,O,M,S,J,s,A,C.length,c⟩) a (fun D w2 h3 a=>?_)));refine lL a ac (lN (CG.join (fun Γ w_=>∃ (mA:Z9)(mc:Nat)(Y:List ByteArray)(e:Hp),Γ=[(2,pB D),(4,sZ),(1,qS mA Y.length mc)]/\SS w h w_ e [⟨D,31,bE ⟨op,n,Q,I,L,O,M,S,J,s,A,C.length,c⟩⟩] [] [fun e=>SlO 1 bB ⟨#[]⟩ e mA Y,fun e=>SlO 1 bB ⟨#[]⟩ e y us,fun e=>Rms d e C ks,fun e=>SlO 7 bE bT e A C,fun e=>RZ e (Q,qS I L O,qS M S J) q]/\Y.length<=mc/\Y.length<=us.length+1/\(∀ x,x∈Y↔(x∈us\/(op=2/\x=s)))) ?_ ?_))
 .
  refine aa a [.v (pB D),.o (iV op) 0 0 1] ?_;cases hb4:((op:Int) == (2:Int))
  .
   have bl:=aj hb4;refine lB 9 hb4 (ag (CG.skip ?_));intro a_ F;replace a:=(a.add (K:=fun e=>SlO 1 bB ⟨#[]⟩ e y us) a.f.1);exact ⟨_,⟨y,z,us,h3,rfl,a.to _ _,Z,oM,(CX oM)⟩,F.to _ kR⟩
  have bl:=eq_of_beq hb4;refine lB 9 hb4 ?_;refine ak (aa a ac (lN (CG.join (fun Γ w_=>∃ (j:Nat)(e:Hp),Γ=[(1,qS y us.length z),(2,pB D),(4,sZ),(5,nV j)]/\SS w h w_ e [⟨D,31,bE ⟨op,n,Q,I,L,O,M,S,J,s,A,C.length,c⟩⟩] [] [fun e=>SlO 1 bB ⟨#[]⟩ e y us,fun e=>Rms d e C ks,fun e=>SlO 7 bE bT e A C,fun e=>RZ e (Q,qS I L O,qS M S J) q]/\j<=us.length) ?_ ?_)))
  .
   refine kZ ?_;refine bH _ (CG.loop (fun μ_ Γ w_=>∃ (i:Nat)(e:Hp),μ_=us.length-i/\Γ=[(1,qS y us.length z),(2,pB D),(4,sZ),(5,nV i)]/\SS w h w_ e [⟨D,31,bE ⟨op,n,Q,I,L,O,M,S,J,s,A,C.length,c⟩⟩] [] [fun e=>SlO 1 bB ⟨#[]⟩ e y us,fun e=>Rms d e C ks,fun e=>SlO 7 bE bT e A C,fun e=>RZ e (Q,qS I L O,qS M S J) q]/\i<=us.length) _ ⟨0,h3,rfl,rfl,a.to _ _,Mv _⟩ ?_);rintro _ _ w9 ⟨i,_,bn,rfl,a,hi⟩;refine cQ (cQ (cR 13 [] mixed a ar ?_));refine eV 0 10 (nV i) (eV 1 11 (qS y us.length z) (eV 2 12 (nV us.length) ?_));cases za:(decide ((i:Int)<(us.length:Int)))
   .
    have zl:=oF za;refine eB 3 13 za (eV 4 14 qF (eG 5 15 (eG 6 16 (eG 7 17 (eG 8 18 (eG 9 19 (eG 10 20 (eG 11 21 (eV 12 22 qF (bS a (fun _ zs a=>tN (dC (CG.exit ?_)))))))))))));intro a_ F;exact ⟨_,⟨i,zs,rfl,a.to _ _,oM⟩,F.to _ kR⟩
   have zl:=oT za;refine eB 3 13 za (eV 4 14 qT (eV 5 15 (qS y us.length z) (eV 6 16 (nV i) (eX 7 17 y us.length z 1 (i:Nat) i ((a.f.1).ok oM) (eH 8 18 (.string (us.getD i ⟨#[]⟩)) a ((a.f.1).el i oM) (eV 9 19 (qP D 5) (eO 10 20 [(0,5,1)] (.string s) a ?_)))))));cases zi:(KI (us.getD i ⟨#[]⟩) s)
   .
    refine eB 11 21 zi (eV 12 22 qF (bS a (fun _ zt a=>tN (dC (CG.exit ?_)))));intro a_ F;exact ⟨_,⟨i,zt,rfl,a.to _ _,oM⟩,F.to _ kR⟩
   refine eB 11 21 zi (eV 12 22 qT (bS a (fun _ zu a=>tN (cn (cK (kZ (kQ (lL a ac (bv 24 ((i:Nat)+1) (i+1) ?_)))))))));refine lL a ac (lD ?_);intro a_ F;refine ⟨_,_,?_,⟨i+1,zu,rfl,rfl,a.to _ _,oM⟩,F.to _ kR⟩
   omega
  rintro _ _ ⟨j,_,rfl,a,hj⟩;refine cQ (cR 13 [] mixed a ar ?_);refine eV 0 25 (nV j) (eV 1 26 (qS y us.length z) (eV 2 27 (nV us.length) ?_));cases zb:((j:Int) == (us.length:Int))
  .
   have zm:=aj zb;refine eB 3 28 zb (eV 4 29 qF (eV 5 30 (qS y us.length z) (eV 6 31 (nV j) (eX 7 32 y us.length z 1 (j:Nat) j ((a.f.1).ok oM) (eH 8 33 (.string (us.getD j ⟨#[]⟩)) a ((a.f.1).el j oM) (eV 9 34 (qP D 5) (eO 10 35 [(0,5,1)] (.string s) a ?_)))))));cases zd:(lZ (us.getD j ⟨#[]⟩) s)
   .
    have zo:=oO zd;refine eB 11 36 zd (eV 12 37 qF (bS a (fun _ zv a=>tN (dC (CG.skip ?_)))));intro a_ F;replace a:=(a.add (K:=fun e=>SlO 1 bB ⟨#[]⟩ e y us) a.f.1);exact ⟨_,⟨y,z,us,zv,rfl,a.to _ _,Z,oM,(C9 (i:=j) oM aM)⟩,F.to _ kR⟩
   have zo:=oB zd;refine eB 11 36 zd (eV 12 37 qT (bS a (fun zw _ a=>tN (cn ?_))));obtain ⟨K_,hK_⟩:∃ K_,K_=zw.heap.size:=⟨_,rfl⟩;have H:D<K_:=by rw[hK_];exact fi a 0
   refine wn ⟨[],some (K_,[])⟩ 0 mixed ?_;have bm:=a.g.size;replace a:=a.drew;have B:=MC hK_;refine zV 1 39 (qS y us.length z) (zV 2 40 (nV j) ?_);have W:(us.take j).length=j:=by rw[Lp];omega
   have X:(us.drop j).length=us.length-j:=LU;have U:(us.take j++[s]).length=j+1:=by rw[y5,W];rfl
   have V:(us.take j++[s]++us.drop j).length=us.length+1:=by rw[y5,U,X];omega
   refine zT 3 41 y us.length z 1 (j:Nat) j ?_;replace a:=a.aS ((a.f.1).take j);refine zV 5 43 (qP D 5) (zO 6 44 [(0,5,1)] (.string s) rfl B a (fun p hp=>by obtain rfl:=sA.1 hp;exact H) (zV 9 47 (qS y us.length z) (zV 10 48 (nV j) (zF 11 49 y us.length z 1 (j:Nat) j ?_))));replace a:=a.aS ((a.f.2.1).drop j z Z);refine KW 0 7 4 38 45 42 9 9 1 bB ⟨#[]⟩ 1 ([.string s]) y (us.take j) j z 16 (eS) rfl B a (fun _ f_=>f_.2.1) (fun b35 zx zB zD _ _ bd B a=>?_) (hn:=by simp only[Lp,LU]<;>omega);refine KT 8 46 0 9 1 zB zx (us.take j) bB s 16 zD (eS) rfl B bd a a.f.1 (fun zE zG _ _ bf B a=>KV 12 50 0 9 1 zG zE (us.take j++[s]) bB ⟨#[]⟩ (if z=j then y else y.map (·.add (j*1))) (us.drop j) (us.length-j) (z-j) 16 (eS) rfl B bf a a.f.2.1 (fun zf zj _ _ B a=>?_) (hn:=by simp only[Lp,LU]<;>omega));refine zV 13 1 (qS zf ((us.take j++[s]++(us.drop j)).length) zj) (tD ?_);obtain ⟨zH,a,zq⟩:=a.pubr 0 (A:=zf) (c:=zj) (l:=us.take j++[s]++(us.drop j)) (f:=bB) (ty:=9) (sz:=1) (⟨#[]⟩) (fun _=>rfl);intro a_ F;replace a:=(a.tl.tl.tl.tl.add (K:=fun e=>SlO 1 bB ⟨#[]⟩ e zf (us.take j++[s]++(us.drop j))) a.f.1);exact ⟨_,⟨zf,zj,us.take j++[s]++(us.drop j),zH,rfl,a.to _ _,zq,(by rw[V];omega),(uI oM)⟩,F.to _ kR⟩
  have zm:=eq_of_beq zb;refine eB 3 28 zb (eV 4 29 qT (eG 5 30 (eG 6 31 (eG 7 32 (eG 8 33 (eG 9 34 (eG 10 35 (eG 11 36 (eV 12 37 qT (bS a (fun zI _ a=>tN (cn ?_))))))))))));obtain ⟨K_,hK_⟩:∃ K_,K_=zI.heap.size:=⟨_,rfl⟩;have H:D<K_:=by rw[hK_];exact fi a 0
  refine wn ⟨[],some (K_,[])⟩ 0 mixed ?_;have bm:=a.g.size;replace a:=a.drew;have B:=MC hK_;refine zV 1 39 (qS y us.length z) (zV 2 40 (nV j) ?_);have W:(us.take j).length=j:=by rw[Lp];omega
  have X:(us.drop j).length=us.length-j:=LU;have U:(us.take j++[s]).length=j+1:=by rw[y5,W];rfl
  have V:(us.take j++[s]++us.drop j).length=us.length+1:=by rw[y5,U,X];omega
  refine zT 3 41 y us.length z 1 (j:Nat) j ?_;replace a:=a.aS ((a.f.1).take j);refine zV 5 43 (qP D 5) (zO 6 44 [(0,5,1)] (.string s) rfl B a (fun p hp=>by obtain rfl:=sA.1 hp;exact H) (zV 9 47 (qS y us.length z) (zV 10 48 (nV j) (zF 11 49 y us.length z 1 (j:Nat) j ?_))));replace a:=a.aS ((a.f.2.1).drop j z Z);refine KW 0 7 4 38 45 42 9 9 1 bB ⟨#[]⟩ 1 ([.string s]) y (us.take j) j z 16 (eS) rfl B a (fun _ f_=>f_.2.1) (fun b64 zJ zK zL _ _ bk B a=>?_) (hn:=by simp only[Lp,LU]<;>omega);refine KT 8 46 0 9 1 zK zJ (us.take j) bB s 16 zL (eS) rfl B bk a a.f.1 (fun zM zN _ _ bb B a=>KV 12 50 0 9 1 zN zM (us.take j++[s]) bB ⟨#[]⟩ (if z=j then y else y.map (·.add (j*1))) (us.drop j) (us.length-j) (z-j) 16 (eS) rfl B bb a a.f.2.1 (fun zg zk _ _ B a=>?_) (hn:=by simp only[Lp,LU]<;>omega));refine zV 13 1 (qS zg ((us.take j++[s]++(us.drop j)).length) zk) (tD ?_);obtain ⟨zP,a,zr⟩:=a.pubr 0 (A:=zg) (c:=zk) (l:=us.take j++[s]++(us.drop j)) (f:=bB) (ty:=9) (sz:=1) (⟨#[]⟩) (fun _=>rfl);intro a_ F;replace a:=(a.tl.tl.tl.tl.add (K:=fun e=>SlO 1 bB ⟨#[]⟩ e zg (us.take j++[s]++(us.drop j))) a.f.1);exact ⟨_,⟨zg,zk,us.take j++[s]++(us.drop j),zP,rfl,a.to _ _,zr,(by rw[V];omega),(uI oM)⟩,F.to _ kR⟩
 rintro _ _ ⟨mA,mc,Y,zQ,rfl,a,hmc,hml,hmm⟩;refine cQ (aa a ac (aZ ?_));replace a:=a.add (K:=fun e=>SlO 1 bB ⟨#[]⟩ e mA Y) (a.f.1);refine bH _ (CG.loop (fun μ_ Γ w_=>∃ (k:Nat)(nA:Z9)(nc:Nat)(u:List ByteArray)(e:Hp),μ_=ks.length-k/\Γ=[(2,pB D),(4,sZ),(6,nV k),(1,qS nA u.length nc)]/\SS w h w_ e [⟨D,31,bE ⟨op,n,Q,I,L,O,M,S,J,s,A,C.length,c⟩⟩] [] [fun e=>SlO 1 bB ⟨#[]⟩ e nA u,fun e=>SlO 1 bB ⟨#[]⟩ e mA Y,fun e=>SlO 1 bB ⟨#[]⟩ e y us,fun e=>Rms d e C ks,fun e=>SlO 7 bE bT e A C,fun e=>RZ e (Q,qS I L O,qS M S J) q]/\k<=ks.length/\u.length<=nc/\u.length<=us.length+1+(dQ (fun i=>eP d (ks.getD i cZ)) k)/\(∀ x,x∈u↔(x∈us\/(op=2/\x=s)\/HasK d ks k x))) _ ⟨0,mA,mc,Y,zQ,rfl,rfl,a.to _ _,Mv _,hmc,hml,(fun x=>(hmm x).trans (KB _ _))⟩ ?_);rintro _ _ _ ⟨k,nA,nc,u,_,bt,rfl,a,hk,hnc,hnl,hnm⟩;refine cQ (aa a [.c,.v (qP D 6),.o (qS A C.length c) 0 6 1,.v (nV C.length)] ?_);cases ze:(decide ((k:Int)<(C.length:Int)))
 .
  have zp:=oF ze;refine lB 55 ze (ag (CG.exit ?_))
  show CG _ _ _ _ _ _ _ _
  refine aa a ax (lN (kX ?_));have hkn:k=ks.length:=by omega
  rw[hkn] at hnm hnl
  exact a.ret [] (qS nA u.length nc) (⟨_,_,_,rfl,hnc,(by show _<=us.length+(1+(dQ (fun i=>eP d (ks.getD i cZ)) ks.length));omega),a.f.1,hnm⟩)
 have zp:=oT ze;refine lB 55 ze (ak (cK (cQ (kZ (kQ (lL a [.v (qP D 6),.o (qS A C.length c) 0 6 1,.c] (lX 61 A C.length c 7 (k:Nat) k ((a.f.q.1).ok oM) ?_)))))));refine lH 62 (bJ (C.getD k bT)) a ((a.f.q.1).el k oM) (lL a ac ?_);have br:=nO (fun i=>eP d (ks.getD i cZ)) (show k+1<=ks.length by omega);have bz:(dQ (fun i=>eP d (ks.getD i cZ)) (k+1))=(dQ (fun i=>eP d (ks.getD i cZ)) k)+eP d (ks.getD k cZ):=rfl;refine lC 64 a (ih (C.getD k bT) (ks.getD k cZ) nA nc u _ _ a.g ((a.f.r.2.1).at_ k oM) (hW k oM) hnc a.f.1 oM) ?_;rintro _ _ zR a ⟨xA,xc,xss,rfl,hxc,hxl,hX,hxm⟩;replace a:=a.aS hX;refine lL a ac (lN (kQ (lL a ac (bv 57 ((k:Nat)+1) (k+1) ?_))));refine lL a ac (lD ?_);intro a_ F;replace a:=(a.tl.tl.add (K:=fun e=>SlO 1 bB ⟨#[]⟩ e xA xss) a.f.1);refine ⟨_,_,?_,⟨k+1,xA,xc,xss,zR,rfl,rfl,a.to _ _,oM,hxc,oM,(fun x=>(hxm x).trans (Ko (hnm x)))⟩,F.to _ kR⟩
 omega
theorem uv (ok:ByteArray->Prop):∀ (d:Nat) (r:RTm) (t:Tm) (f:Z9) (e:Nat) (us:List ByteArray) (w:World) (h:Hp),G w h->RmH d h r t->WfT ok d t->us.length<=e->SlO 1 bB ⟨#[]⟩ h f us->us.length+eP d t<=1000000->Calls Tryz.prog 88 #[bJ r,.slice f us.length e] w (Ret w h (fun v h1=>∃ o l,∃ a:List ByteArray,v=.slice o a.length l/\a.length<=l/\a.length<=us.length+eP d t/\SlO 1 bB ⟨#[]⟩ h1 o a/\∀ x,x∈a↔(x∈us\/fQ d t x)))
  | 0,_,_,_,_,_,_,_,_,x,_,_,_,_=>x.elim
  | d+1,r,t,f,e,us,w,h,g,x,wf,huc,hL,hb=>by
    obtain ⟨op,n,b,J,z,H,D,I,p,q,s,A,c,u,ks,rfl,rfl,F,C,B,j⟩:=x.open;have i:ks.length<=2:=wf.two;obtain ⟨w1,w2,w3,K,M,Q,L,O,y⟩:=wf;exact Er ok d (fun r t f e us w h=>uv ok d r t f e us w h) op n b J z H D I p q s A c u ks C f e us i y huc hb w h g F B j hL
theorem vv (ok:ByteArray->Prop)(d:Nat)(r:RTm)(t:Tm)(wf:WfT ok d t)(y:eP d t<=1000000)(w:World)(h:Hp)(g:G w h)(hR:RmH d h r t):CR 51 #[bJ r] w h (fun v h1=>∃ u p,∃ c:List ByteArray,v=.slice u c.length p/\c.length<=p/\c.length<=eP d t/\SlO 1 bB ⟨#[]⟩ h1 u c/\∀ x,x∈c↔fQ d t x):=by
 have a:=((sS g).add (K:=fun C=>RmH d C r t) hR);refine go Tryz.func51 [(0,bJ r)] rfl (aD (lA 1 31 (bE r) a (fun F w2 H a=>lL a ac (aG (lL a [.o (bJ r) 0 0 7] (lC 4 a (uv ok d r t none 0 [] _ _ a.g a.f.1 wf (nR _) SlO.nil (by simpa using y)) ?_))))));rintro _ I J a ⟨z,D,e,rfl,l,i,B,j⟩;replace a:=a.aS B;exact lL a ac (ae a [] (qS z e.length D) (⟨_,_,_,rfl,l,by simpa using i,a.f.1,fun x=>by simpa using j x⟩))
open Go.RowKit Go.WideMaps
structure MapI (P:Program) (kt:TypeId) (Q:Value->Prop) (w1:World) (h1:Hp) (b:Nat):Prop where
  jk:h1[b]?=some bg
  ex:∃ es clk,w1.heap[b]?=some (.map es clk)/\∀ e∈es.toList,(∃ l,keyOf P kt e.key=some l)/\Q e.val
section laws
variable {P:Program}{n:Nat}{N R:Po}{X:Nat->Po}{ops:Array Oper}{k:Nat}{Γ:cl}{w:World}{h:Hp}{w0 w1:World}{h0 h1:Hp}{B:List Bx}{Rs:List Rw}{F:List (Hp->Prop)}
theorem SS.base (s:SS w1 h1 w h B Rs F){b:Nat}{o:Obj}(u:h1[b]?=some bg)(D:b<w1.heap.size) :
  SS { w1 with heap:=w1.heap.setIfInBounds b o } h1 { w with heap:=w.heap.setIfInBounds b o } h B Rs F/\G { w1 with heap:=w1.heap.setIfInBounds b o } h1:=by
 have p:b<h1.size:=aR u;have l:h[b]?=some bg:=(s.st.up.gr.blk b p).trans u;have y:b<w.heap.size:=by rw[s.g.size];exact aR l
 have set:∀ (w:World) c,c≠b->({ w with heap:=w.heap.setIfInBounds b o }:World).heap[c]?=w.heap[c]?:=fun w c d=>by show (w.heap.setIfInBounds b o)[c]?=_;rw[hP (Ne.symm d)]
 have a:∀ (w:World),b<w.heap.size->({ w with heap:=w.heap.setIfInBounds b o }:World).heap[b]?=some o:=fun w H=>by show (w.heap.setIfInBounds b o)[b]?=_;rw[As H]
 have C:∀ (w:World) (h:Hp),G w h->h[b]?=some bg->G { w with heap:=w.heap.setIfInBounds b o } h:=fun w h g j=>⟨by show (w.heap.setIfInBounds b o).size=_;rw[Oj];exact g.size,fun c=>by
  by_cases e:c=b
  ·subst e;exact .inr j
  ·rw[set w c e];exact g.blk c⟩
 have i:=C w1 h1 s.g0 u;refine ⟨⟨i,⟨⟨?_,s.st.up.gr,C w h s.g l⟩,fun x z=>?_,s.st.jk,s.st.lo,s.st.nd⟩,fun r hr=>?_,s.ap,s.mo,s.f⟩,i⟩
 ·have e:=s.st.up.ext
  refine ⟨e.os,e.tape,e.output,?_,fun c d=>?_⟩
  ·show (w1.heap.setIfInBounds b o).size<=(w.heap.setIfInBounds b o).size
   rw[Oj,Oj];exact e.size
  ·by_cases q:c=b
   ·subst q;rw[a w y,a w1 D]
   ·rw[set w c q,set w1 c q];exact e.block c (by have:c<(w1.heap.setIfInBounds b o).size:=d;rw[Oj] at this;exact this)
 ·have:x.b≠b:=fun e=>by have:=s.st.lo x z;omega
  exact (set w x.b this).trans (s.st.own x z)
 ·have q:=s.ro r hr
  refine ⟨eD q.own (fun c d=>set w c (fun e=>?_)),q.jk,q.ap⟩;subst e
  rcases q.own with ⟨_,e2|⟨g,cap,cur,hv,hb',_⟩⟩
  ·rw[e2.1] at d;simp[Value.ownBlock] at d
  ·rw[hv] at d
   simp[Value.ownBlock] at d
   omega
end laws
structure Dif (M:List Nat) (w w0:World):Prop where
  mo:Mo M w w0
  sz:w0.heap.size=w.heap.size
def HP (Φ:Value->World->Hp->Prop):Ending->World->Prop:=fun e w'=>∃ v h',e=.returned v/\Φ v w' h'
section ret
variable {P:Program}{n:Nat}{Γ:cl}{w:World}{h:Hp}{w0:World}{h0:Hp}{B:List Bx}{Rs:List Rw}{F:List (Hp->Prop)}
theorem SS.retS {d:Func}{Φ:Value->World->Hp->Prop}(s:SS w0 h0 w h B Rs F)(ps:List (Nat × Nat × Nat))(v:Value)(c:Φ v w h)(hk:(nt d Γ && db B ps)=true:=by kernel_rfl)(f:bX P (oA d Γ) (dM B ps)=some (v,cG B ps):=by kernel_rfl):∀ a,Kn n a Γ->nC P d (HP Φ) a w:=by
 intro a e;rw[Bool.and_eq_true] at hk
 refine ⟨e.df.trans (oX hk.1),v,?_,v,h,rfl,c⟩;rw[iF e hk.1];exact cP _ _ _ _ f (eF s.st.own ps hk.2)
end ret
section call
variable {P:Program}{n:Nat}{N R:Po}{X:Nat->Po}{ops:Array Oper}{k:Nat}{Γ:cl}{w:World}
theorem Lb (t:Nat){f:FuncId}{args:Array Value}{Φ:Value->World->Hp->Prop}(c:Calls P f args w (HP Φ))(H:∀ v w' d,Φ v w' d->LG P n N R X ops (k+1) ((t,v)::Γ) w')(h:cL ops Γ k t n=true:=by kernel_rfl)(hr:(execOp (ev Γ) (am ops k)).run P w=.ok (.enter f args) w:=by kernel_rfl):LG P n N R X ops k Γ w :=
 LG.call t f args (bM h).1 (bM h).2 hr (c.mono fun e w' ⟨v,d,i,a⟩=>⟨v,i,H v w' d a⟩)
end call
def gp (ss:List ByteArray):List MapEntry:=ss.zipIdx.map fun p=>⟨.string p.1,.bool true,p.2⟩
theorem Bm (a:List ByteArray)(s:ByteArray):gp (a++[s])=gp a++[⟨.string s,.bool true,a.length⟩]:=by
 unfold gp;rw[List.zipIdx_append,List.map_append];simp
theorem rp {a:List ByteArray}{j:Nat}{e:MapEntry}(h:(gp a)[j]?=some e):∃ s,a[j]?=some s/\e=⟨.string s,.bool true,j⟩:=by
 unfold gp at h
 rw[LW,Ok] at h
 cases c:a[j]? with
 | none=>rw[c] at h;simp at h
 | some s=>rw[c] at h;simp at h;exact ⟨s,rfl,h.symm⟩
theorem pd {a:List ByteArray}{e:MapEntry}(h:e∈gp a):∃ j s,a[j]?=some s/\e=⟨.string s,.bool true,j⟩:=by
 obtain ⟨j,d⟩:=Ol.1 h;obtain ⟨s,h1,c⟩:=rp d;exact ⟨j,s,h1,c⟩
theorem C8 {a:List ByteArray}{s:ByteArray}(h:s∈a):∃ e∈gp a,e.key=.string s:=by
 obtain ⟨j,c⟩:=Ol.1 h;refine ⟨⟨.string s,.bool true,j⟩,?_,rfl⟩
 unfold gp
 refine gg.2 ⟨(s,j),?_,rfl⟩;rw[Ol];exact ⟨j,by rw[Ok,c];simp⟩
theorem wW (a:List ByteArray)(s:ByteArray):(Instr.findNow .string (.string s) (gp a) 0=some none/\s ∉ a)\/∃ j,Instr.findNow .string (.string s) (gp a) 0=some (some (j,.bool true))/\a[j]?=some s:=by
 rcases MapKept.findNow_spec (d:=.string) (k:=.string s) (by simp[MapKept.IsKey]) (gp a) 0 (fun x c=>by obtain ⟨_,_,_,rfl⟩:=pd c;simp[MapKept.IsKey]) with ⟨h1,h2⟩|⟨j,e,h1,h2,h3⟩
 ·refine .inl ⟨h1,fun f=>?_⟩
  obtain ⟨e,h,hk⟩:=C8 f;exact h2 e h hk
 ·obtain ⟨l,i,rfl⟩:=rp h2
  injection h3 with h3
  subst h3;exact .inr ⟨j,by rw[h1,y9],i⟩
structure MapK (w:World) (h:Hp) (b:Nat) (ss:List ByteArray):Prop where
  jk:h[b]?=some bg
  ob:w.heap[b]?=some (.map (gp ss).toArray ss.length)
  nd:ss.Nodup
section laws
variable {P:Program}{n:Nat}{N R:Po}{X:Nat->Po}{ops:Array Oper}{k:Nat}{Γ:cl}{w:World}{h:Hp}{w1:World}{h1:Hp}{B:List Bx}{Rs:List Rw}{F:List (Hp->Prop)}
theorem SS.atK (s:SS w1 h1 w h B Rs F){b:Nat}{a:List ByteArray}(m:MapK w1 h1 b a):w.heap[b]?=some (.map (gp a).toArray a.length) :=
 (s.st.up.ext.block b (by rw[s.g0.size];exact aR m.jk)).trans m.ob
theorem pj {b:Nat}{o:Obj}(a:G { w1 with heap:=w1.heap.setIfInBounds b o } h1):UpM [b] w1 h1 { w1 with heap:=w1.heap.setIfInBounds b o } h1 :=
 ⟨⟨rfl,rfl,rfl,by show _<=(w1.heap.setIfInBounds b o).size;rw[Oj];exact ea _,fun c _ hn=>by
  show (w1.heap.setIfInBounds b o)[c]?=_
  rw[hP (fun e=>hn (sA.2 e.symm))]⟩,Gr.refl _,a⟩
theorem KK {mty kt et:TypeId}{b:Nat}{d:List ByteArray}(ky:ByteArray)(s:SS w1 h1 w h B Rs F)(m:MapK w1 h1 b d)
    (H:∀ w1' w' ss2,SS w1' h1 w' h B Rs F->MapK w1' h1 b ss2->(∀ x,x∈ss2↔x∈d\/x=ky)->ss2.length<=d.length+1->UpM [b] w1 h1 w1' h1->LG P n N R X ops (k+1) Γ w')
    (l:cS ops Γ k=true:=by kernel_rfl)(D:execOp (ev Γ) (am ops k)=(do Instr.mapUpdate mty (.map (some b)) (.string ky) (.bool true);pure .skip):=by kernel_rfl)(C:P.underlying mty=some (.map kt et):=by kernel_rfl)(hk:P.underlying kt=some .string:=by kernel_rfl):LG P n N R X ops k Γ w:=by
  have z:=s.atK m;have f:b<w1.heap.size:=(hC.1 m.ob).1
  rcases wW d ky with ⟨hf,hn⟩|⟨j,hf,hj⟩
  . have hr:=tG w (val:=.bool true) C hk z hf
    obtain ⟨u,y⟩:=s.base (o:=.map ((gp d).toArray.push ⟨.string ky,.bool true,d.length⟩) (d.length+1)) m.jk f;refine LG.store _ (iu l).1 (iu l).2 ?_ (H _ _ (d++[ky]) u ⟨m.jk,?_,?_⟩ (fun x=>by simp) (by simp) (pj y))
    . rw[D];simp[hr,Result.andThen]
    . show (w1.heap.setIfInBounds b _)[b]?=_
      rw[As f,Bm];simp
    . exact List.nodup_append.2 ⟨m.nd,by simp,fun a ha c l e=>hn (by rw[sA] at l;rw[<-l,<-e];exact ha)⟩
  . have I:j<d.length:=(Mi.1 hj).1
    have p:(gp d)[j]?=some ⟨.string ky,.bool true,j⟩:=by
      unfold gp;rw[LW,Ok,hj];simp
    have hr:=qt w (val:=.bool true) C hk z hf (by simp[p])
    have J:((gp d).toArray.modify j fun e=>{ e with key:=.string ky,val:=.bool true })=(gp d).toArray:=by
      apply Array.ext_getElem?
      intro i;rw[Array.getElem?_modify]
      by_cases e:j=i
      . subst e
        rw[if_pos rfl]
        simp[p]
      . rw[if_neg e]
    rw[J] at hr
    obtain ⟨u,y⟩:=s.base (o:=.map (gp d).toArray d.length) m.jk f;refine LG.store _ (iu l).1 (iu l).2 ?_ (H _ _ d u ⟨m.jk,?_,m.nd⟩ (fun x=>⟨.inl,fun h=>h.elim id fun e=>by rw[e];exact Ol.2 ⟨j,hj⟩⟩) (Nat.le_succ _) (pj y))
    . rw[D];simp[hr,Result.andThen]
    . show (w1.heap.setIfInBounds b _)[b]?=_
      rw[As f]
theorem SS.baseK (s:SS w1 h1 w h B Rs F){b:Nat}{M a:List ByteArray}(m:MapK w1 h1 b M){w':World}{D:Hp}(u:UpM [b] w h w' D)(J:w'.heap[b]?=some (.map (gp a).toArray a.length))(I:a.Nodup):∃ i,SS i h1 w' D B Rs F/\MapK i h1 b a/\UpM [b] w1 h1 i h1:=by
 have p:b<w1.heap.size:=(hC.1 m.ob).1;have K:=aR m.jk;obtain ⟨O,H⟩:=s.base (o:=.map (gp a).toArray a.length) m.jk p;have y:({ w1 with heap:=w1.heap.setIfInBounds b (.map (gp a).toArray a.length) }:World).heap.size=w1.heap.size:=by simp
 have j:∀ c,c<w.heap.size->c≠b->w'.heap[c]?=w.heap[c]?:=fun c d hn=>u.mo.blk c d (fun L=>hn (sA.1 L))
 have e:=s.st.up.ext;have z:∀ x∈B,x.b≠b:=fun x l e=>by have:=s.st.lo x l;omega
 refine ⟨_,⟨H,⟨⟨⟨u.mo.os.trans e.os,u.mo.tape.trans e.tape,u.mo.output.trans e.output,by rw[y];exact eb e.size u.mo.size,fun c d=>?_⟩,s.st.up.gr.trans u.gr,u.g⟩,fun x l=>?_,fun x l=>?_,s.st.lo,s.st.nd⟩,fun r hr=>⟨eD (s.ro r hr).own (fun c d=>?_),fun c d=>(u.gr.blk c ((s.ro r hr).lt d)).trans ((s.ro r hr).jk c d),(s.ro r hr).ap⟩,s.ap,s.mo,s.f.gw s.mo u.gr.gw⟩,⟨m.jk,by show (w1.heap.setIfInBounds b _)[b]?=_;rw[As p],I⟩,pj H⟩
 ·rw[y] at d
  by_cases q:c=b
  ·subst q
   rw[J]
   show _=(w1.heap.setIfInBounds c _)[c]?
   rw[As p]
  ·rw[j c (Nat.lt_of_lt_of_le d e.size) q]
   show _=(w1.heap.setIfInBounds b _)[c]?
   rw[hP (Ne.symm q)];exact e.block c d
 ·have C:=s.st.own x l
  exact (j x.b C.lt (z x l)).trans C
 ·rw[u.gr.blk _ (aR (s.st.jk x l))];exact s.st.jk x l
 ·refine j c (js (s.ro r hr).own d) (fun e=>?_)
  subst e;have q:=(s.ro r hr).own
  rcases q with ⟨_,e2|⟨g,cap,cur,hv,hb',_⟩⟩
  ·rw[e2.1] at d;simp[Value.ownBlock] at d
  ·rw[hv] at d;simp[Value.ownBlock] at d;omega
end laws
theorem xF  (ok:ByteArray->Prop)(d:Nat)(ih:∀ (p:PTm) (t:Tm) (b:Nat) (z:List ByteArray) (w:World) (h:Hp),G w h->TmH d h p t->WfT1 ok d t->MapK w h b z->Calls Tryz.prog 73 #[bU p,.map (some b)] w (fd b w h (fun v w1 _=>v=.tuple #[]/\∃ l:List ByteArray,w1.heap[b]?=some (.map (gp l).toArray l.length)/\l.Nodup/\(∀ x,x∈l↔x∈z\/fQ d t x)/\l.length<=z.length+eP d t)))(op n:Int)(q:Rat)(s:ByteArray)(A:Z9)(c:Nat)(ps:List PTm)(ks:List Tm)(hc:ps.length<=c)(hlp:ps.length<=2)(bd:gG op=(ks.length:Nat))(hq0:op≠1->q=0)(hq:LQ 1 q)(hok:op=2->ok s)(hs0:op≠2->s=⟨#[]⟩)(hn0:op≠8->n=0)(hn1 : -12<=n)(hn2:n<=12)(hW:∀ i,i<ks.length->WfT1 ok d (ks.getD i cZ))(b:Nat)(z:List ByteArray)(w:World)(h:Hp)(g:G w h)(hK:SlO 9 dh cC h A ps)(hKs:Tms d h ps ks)(e:MapK w h b z):Calls Tryz.prog 73 #[bU ⟨op,n,q,s,A,ps.length,c⟩,.map (some b)] w (fd b w h (fun v w1 _=>v=.tuple #[]/\∃ l:List ByteArray,w1.heap[b]?=some (.map (gp l).toArray l.length)/\l.Nodup/\(∀ x,x∈l↔x∈z\/fQ (d+1) (.mk op n q s ks) x)/\l.length<=z.length+eP (d+1) (.mk op n q s ks))):=by
 have u:UpM [b] w h w h:=UpM.refl g;have a:SS w h w h [] [] []:=sS g;replace a:=((a.aS hK).add (K:=fun j=>Tms d j ps ks) hKs);have hln:=(a.f.1).len;refine go Tryz.func73 [(0,bU ⟨op,n,q,s,A,ps.length,c⟩),(1,.map (some b))] rfl (aD (lA 2 52 (dh ⟨op,n,q,s,A,ps.length,c⟩) a (fun F w2 h3 a=>?_)));refine lN (CG.join (fun Γ Y=>∃ (y:World)(C:List ByteArray)(j:Hp),Γ=[(1,.map (some b)),(2,pB F)]/\SS y h Y j [⟨F,52,dh ⟨op,n,q,s,A,ps.length,c⟩⟩] [] [fun j=>Tms d j ps ks,fun j=>SlO 9 dh cC j A ps]/\MapK y h b C/\UpM [b] w h y h/\(∀ x,x∈C↔x∈z\/(op=2/\x=s))/\C.length<=z.length+1) ?_ ?_)
 .
  refine aa a [.v (pB F),.o (iV op) 0 0 1] ?_;cases B:((op:Int) == (2:Int))
  .
   have H:=aj B;refine lB 8 B (ag (CG.skip ?_));intro a_ M;exact ⟨_,⟨w,z,h3,rfl,a.to _ _,e,u,(fun x=>⟨fun j=>.inl j,fun j=>j.elim id (fun L=>absurd L.1 oM)⟩),oM⟩,M.to _ kR⟩
  have H:=eq_of_beq B;refine lB 8 B (ak (kQ (lL a [.c,.v (qP F 7),.o (.string s) 0 7 1] (KK (mty:=147) (kt:=9) (et:=4) (s) a e (fun w9 _ O a e D Q V=>?_)))));replace u:=u.trans V
  clear V
  refine lD ?_;intro a_ M;exact ⟨_,⟨w9,O,h3,rfl,a.to _ _,e,u,(fun x=>(D x).trans ⟨fun j=>j.imp id fun L=>⟨by omega,L⟩,fun j=>j.imp id fun L=>L.2⟩),oM⟩,M.to _ kR⟩
 rintro _ _ ⟨y,C,zc,rfl,a,e,u,Z,hl1⟩;refine aa a [.v (qP F 8),.o (qS A ps.length c) 0 8 1,.v (nV ps.length),.c] (aZ ?_);refine bH _ (CG.loop (fun μ_ Γ Y=>∃ (y:World)(k:Nat)(sk:List ByteArray)(j:Hp),μ_=ps.length-k/\Γ=[(1,.map (some b)),(13,qS A ps.length c),(14,nV ps.length),(15,nV k)]/\SS y h Y j [⟨F,52,dh ⟨op,n,q,s,A,ps.length,c⟩⟩] [] [fun j=>Tms d j ps ks,fun j=>SlO 9 dh cC j A ps]/\MapK y h b sk/\UpM [b] w h y h/\k<=ps.length/\(∀ x,x∈sk↔x∈C\/HasK d ks k x)/\sk.length<=C.length+(dQ (fun i=>eP d (ks.getD i cZ)) k)) _ ⟨y,0,C,zc,rfl,rfl,a.to _ _,e,u,Mv _,(fun x=>⟨.inl,fun j=>j.elim id (fun j=>absurd j HasK.zero)⟩),nR _⟩ ?_);rintro _ _ _ ⟨y,k,sk,_,bb,rfl,a,e,u,hk,J,bf⟩;have bk:(dQ (fun i=>eP d (ks.getD i cZ)) (k+1))=(dQ (fun i=>eP d (ks.getD i cZ)) k)+eP d (ks.getD k cZ):=rfl;refine aD ?_;cases X:(decide ((k:Int)<(ps.length:Int)))
 .
  have zb:=oF X;refine lB 16 X (ah (dC (CG.exit ?_)));have W:k=ks.length:=by omega
  have hcn:eP (d+1) (.mk op n q s ks)=1+(dQ (fun i=>eP d (ks.getD i cZ)) ks.length):=rfl;exact a.retM (u.trans (a.st.up.m _)) [] (.tuple #[]) ⟨rfl,sk,a.atK e,e.nd,fun x=>by rw[J x,Z x,W,or_assoc];exact Iff.rfl,by rw[hcn,<-W];omega⟩
 have zb:=oT X;refine lB 16 X (ah (cn (cK (cQ (kZ (aD (lX 17 A ps.length c 9 (k:Nat) k ((a.f.2.1).ok oM) ?_)))))));refine lH 18 (bU (ps.getD k cC)) a ((a.f.2.1).el k oM) (lA 5 52 a7 a (fun b22 _ _ a=>lP 0 0 (dh (ps.getD k cC)) a (fun _ a=>lN (kQ (lL a [.o (bU (ps.getD k cC)) 0 0 9,.c] (gk 21 (ih (ps.getD k cC) (ks.getD k cZ) b sk _ _ a.g ((a.f.1).at_ k oM) (hW k oM) ⟨(a.st.up.gr.blk _ (aR e.jk)).trans e.jk,a.atK e,e.nd⟩) ?_))))));rintro _ _ zd u28 ⟨rfl,S,U,I,D,Q⟩;obtain ⟨ze,a,e,V⟩:=a.baseK e u28 U I;replace u:=u.trans V
 clear V U I
 refine lN (kQ (bv 22 ((k:Nat)+1) (k+1) ?_));refine lL a ac (lD ?_);intro a_ M;replace a:=a.drop 1 0;refine ⟨_,_,?_,⟨ze,k+1,S,zd,rfl,rfl,a.to _ _,e,u,oM,(fun x=>(D x).trans (by rw[J x,or_assoc,<-HasK.succ])),oM⟩,M.to _ kR⟩
 omega
theorem tB (ok:ByteArray->Prop):∀ (d:Nat) (p:PTm) (t:Tm) (b:Nat) (e:List ByteArray) (w:World) (h:Hp),G w h->TmH d h p t->WfT1 ok d t->MapK w h b e->Calls Tryz.prog 73 #[bU p,.map (some b)] w (fd b w h (fun v w1 _=>v=.tuple #[]/\∃ a:List ByteArray,w1.heap[b]?=some (.map (gp a).toArray a.length)/\a.Nodup/\(∀ x,x∈a↔x∈e\/fQ d t x)/\a.length<=e.length+eP d t))
  | 0,_,_,_,_,_,_,_,x,_,_=>x.elim
  | d+1,p,t,b,e,w,h,g,x,wf,hmk=>by
    obtain ⟨op,n,q,s,A,c,ps,ks,rfl,rfl,o,l,f⟩:=x.open;have i:=wf.two;obtain ⟨w1,w2,w3,u,z,C,y,B,j⟩:=wf;exact xF ok d (fun p t b e w h=>tB ok d p t b e w h) op n q s A c ps ks o (by have:=f.len;exact this▸i) w1 w2 w3 u z C y B j b e w h g l f hmk
section laws
variable {M:Ms}{P:Program}{ops:Array Oper}{Q:Exit->Act->World->Prop}{k0:Nat}
structure Waits (ops:Array Oper) (k0 i:Nat) (late:List Nat):Prop where
  ev:∀ u∈late,∃ ou,ops[u]?=some ou/\∃ e∈ou.after,Region.binds .any e=true/\(e.on=i\/e.on∈late)
  tl:∀ j oj,ops[j]?=some oj->k0<=j->j∈late
end laws
theorem AM (l:Bool)(p:Z9)(f j:Nat)(i:Z9)(o a:Nat)(q:Rat)(w:World)(h:Hp)(g:G w h)(z:RZ h (l,.slice p f j,.slice i o a) q):Calls Tryz.prog 55 #[.agg #[.bool l,.slice p f j,.slice i o a]] w (Ret w h (fun v h1=>RQ h1 v q)):=by
 obtain ⟨has,⟨A,c,D,d,e,y,C,x,u⟩,hz⟩:=z;have B:(Value.agg #[.bool l,qS p f j,qS i o a])=.agg #[.bool (af q.num),qS A (lim (ab q.num)).length c,qS D (lim (if has then q.den else 0)).length d]:=e;rw[B];exact CH { EB with q:=q,has:=has } A c D d y C hz w h g x u
theorem py (p:Z9)(x u:Nat)(y:Z9)(z j:Nat)(n:Nat)(hn:n<=12)(q:Rat)(hk:Hp)(w:World)(h:Hp)(g:G w h)(hz:hk.size<=h.size):CR 291 #[.agg #[.slice p x u,.slice y z j,nV n],qv q] w h (fun v h1=>∃ F,v=.slice (sB F) (n+1) (n+1)/\Nw hk.size h1 F 49 ((bw (n+1) q).flatMap qc)):=by
 have a:=sS g;have J:(zZ (n+1) (0:Rat)).length=n+1:=NF;refine go Tryz.func291 [(0,.agg #[qS p x u,qS y z j,nV n]),(1,qv q)] rfl (aD (lA 2 101 ([qS p x u,qS y z j,nV n]) a (fun D w2 M a=>lA 3 49 (qc q) a (fun H Q L a=>lL a ac (aG (lL a [.v (qP D 2),.o (nV n) 1 2 1] (bv 8 ((n:Nat)+1) (n+1) ?_)))))));refine lK 9 49 (n+1) 5 56 a8 qc 0 a (fun C S O a=>?_);have K:(zZ (n+1) (0:Rat)).length=(n+1):=by simp
 refine lL a ac (aG (lL a [.c,.o (qv q) 1 0 5] (lX 12 (sB C) (n+1) (n+1) 5 0 0 rfl ?_)));refine lW 0 (zZ (n+1) (0:Rat)) qc 5 0 q a oM (fun _ a=>?_);have I:((zZ (n+1) (0:Rat)).set 0 q).length=(n+1):=by rw[Md];exact K
 replace a:=a.to [⟨C,49,((zZ (n+1) (0:Rat)).set 0 q).flatMap qc⟩,⟨H,49,qc q⟩,⟨D,101,[qS p x u,qS y z j,nV n]⟩] [];refine aG (lL a ax (lN (kX ?_)));obtain ⟨_,a,B,i,e⟩:=a.pub 0;replace a:=(a.to [⟨H,49,qc q⟩,⟨D,101,[qS p x u,qS y z j,nV n]⟩] []).aS (SlO.of_flat (sz:=5) (f:=qc) (d:=0) (b:=C) (o:=0) (l:=(zZ (n+1) (0:Rat)).set 0 q) (fun _=>rfl) B);exact a.ret [] (qS (sB C) (n+1) (n+1)) (⟨_,rfl,eb hz i,by decide,e⟩)
theorem fz (i:Z9)(p j:Nat)(x:Z9)(y c:Nat)(n:Nat)(hn:n<=12)(q:Rat)(w:World)(h:Hp)(g:G w h):Calls Tryz.prog 291 #[.agg #[.slice i p j,.slice x y c,nV n],qv q] w (Ret w h (fun v h1=>∃ a,v=.slice (sB a) (bw (n+1) q).length (n+1)/\Sq (sB a) (bw (n+1) q) h1)) :=
 (py i p j x y c n hn q h w h g (nR _)).mono fun e w' ⟨v,B,D,u,b,C,z⟩=>⟨v,B,D,u,b,by rw[bZ];exact C,SlO.of_flat (sz:=5) (f:=qc) (d:=0) (b:=b) (o:=0) (l:=bw (n+1) q) (fun _=>rfl) z.seg0⟩
theorem Ij (z:Z9)(C B:Nat)(D:Z9)(F x:Nat)(n:Nat)(hn:n<=12)(e:List Rat)(u:Z9)(Q:Nat)(hla:e.length=n+1)(O:∀ i,LQ 39500000 (e.getD i 0))(j:List Rat)(y:Z9)(cb:Nat)(hlb:j.length=n+1)(I:∀ i,LQ 39500000 (j.getD i 0))(w:World)(h:Hp)(g:G w h)(Y:Sq u e h)(V:Sq y j h)(tb:Tab h):CR 286 #[.agg #[.slice z C B,.slice D F x,nV n],.slice u e.length Q,.slice y j.length cb] w h (fun v h1=>∃ bk,v=.slice (sB bk) (cY (n+1) e j).length (n+1)/\Sq (sB bk) (cY (n+1) e j) h1):=by
 have a:=((((sS g).aS Y).aS V).add (K:=fun M=>Tab M) tb);refine go Tryz.func286 [(0,.agg #[qS z C B,qS D F x,nV n]),(1,qS u e.length Q),(2,qS y j.length cb)] rfl (aD (lA 3 101 ([qS z C B,qS D F x,nV n]) a (fun H w2 h3 a=>lL a ac (aG (lL a [.v (qP H 2),.o (nV n) 0 2 1] (bv 11 ((n:Nat)+1) (n+1) ?_))))));refine lK 12 49 (n+1) 5 56 a8 qc 0 a (fun p w5 h6 a=>?_);have hl7:(zZ (n+1) 0).length=(n+1):=by simp
 refine lL a ac (ah (aa a [.c,.v (nV (n+1)),.c] (aZ ?_)));refine bH _ (CG.loop (fun X Γ w_=>∃ (k:Nat)(L:List Rat)(M:Hp),X=n+1-k/\Γ=[(1,qS u e.length Q),(2,qS y j.length cb),(6,sZ),(7,qS (sB p) (n+1) (n+1)),(14,nV (n+1)),(15,nV k)]/\SS w h w_ M [⟨p,49,(L).flatMap qc⟩,⟨H,101,[qS z C B,qS D F x,nV n]⟩] [] [fun M=>Tab M,Sq y j,Sq u e]/\k<=n+1/\L.length=n+1/\L=eE (fun i=>e.getD i 0+j.getD i 0) (n+1) k) _ ⟨0,(zZ (n+1) (0:Rat)),h6,rfl,rfl,a.to _ _,Mv _,NF,(kU _ _)⟩ ?_);rintro _ _ w8 ⟨k,L,h9,bb,rfl,a,hk,W,Z⟩;refine aD ?_;cases S:(decide ((k:Int)<(((n+1):Nat):Int)))
 .
  have zb:=oF S;refine lB 16 S (ah (dC (CG.exit ?_)))
  show CG _ _ _ _ _ _ _ _
  refine aa a ax (lN (kX ?_));have U:k=n+1:=by omega
  rw[U,jd] at Z
  subst Z;replace a:=a.to [⟨p,49,(((ov (n+1)).map fun i=>e.getD i 0+j.getD i 0)).flatMap qc⟩,⟨H,101,[qS z C B,qS D F x,nV n]⟩] [];obtain ⟨_,a,J,bf,bd⟩:=a.pub 0;replace a:=(a.to [⟨H,101,[qS z C B,qS D F x,nV n]⟩] []).aS (SlO.of_flat (sz:=5) (f:=qc) (d:=0) (b:=p) (o:=0) (l:=((ov (n+1)).map fun i=>e.getD i 0+j.getD i 0)) (fun _=>rfl) J);exact a.ret [] (qS (sB p) (n+1) (n+1)) (⟨_,by rw[f4],a.f.1⟩)
 have zb:=oT S;refine lB 16 S (ah (cn (cK (cQ (kZ (aa a ax (lN (cR 11 [] mixed a ar ?_))))))));refine eV 0 18 (qS (sB p) (n+1) (n+1)) (eV 1 19 (nV k) (eV 2 20 (qS u e.length Q) (eV 3 21 (nV k) (eX 4 22 u e.length Q 5 (k:Nat) k ((a.f.r.1).ok oM) (eH 5 23 (qv (e.getD k 0)) a ((a.f.r.1).el k oM) (eV 6 24 (qS y j.length cb) (eV 7 25 (nV k) (eX 8 26 y j.length cb 5 (k:Nat) k ((a.f.2.1).ok oM) (eH 9 27 (qv (j.getD k 0)) a ((a.f.2.1).el k oM) ?_)))))))));have bl:=LQ.add (O k) (I k);refine au 10 28 a (fun _ _ a=>CP (e.getD k 0) (j.getD k 0) (LQ.mono (O k) oM) (LQ.mono (I k) oM) _ _ a.g a.f.1) (fun _ _ a=>bS a (fun _ zd a=>tX 11 29 (sB p) (n+1) (n+1) 5 (k:Nat) k rfl (tW 12 0 L qc 5 k ((e.getD k 0)+(j.getD k 0)) a oM (fun _ a=>?_))));have zc:((L).set k ((e.getD k 0)+(j.getD k 0))).length=(n+1):=by rw[Md];exact W
 replace a:=a.to [⟨p,49,((L).set k ((e.getD k 0)+(j.getD k 0))).flatMap qc⟩,⟨H,101,[qS z C B,qS D F x,nV n]⟩] [];refine tN (kQ (bv 30 ((k:Nat)+1) (k+1) ?_));refine lL a ac (lD ?_);intro a_ ka;refine ⟨_,_,?_,⟨k+1,(L).set k ((e.getD k 0)+(j.getD k 0)),zd,rfl,rfl,a.to _ _,oM,zc,(by rw[Z];exact i6 oM)⟩,ka.to _ kR⟩
 omega
theorem Dl (y:Z9)(B z:Nat)(C:Z9)(D x:Nat)(n:Nat)(hn:n<=12)(e:List Rat)(u:Z9)(Q:Nat)(hla:e.length=n+1)(O:∀ i,LQ 39500000 (e.getD i 0))(j:Rat)(J:LQ 1 j)(w:World)(h:Hp)(g:G w h)(X:Sq u e h)(tb:Tab h):CR 292 #[.agg #[.slice y B z,.slice C D x,nV n],.slice u e.length Q,qv j] w h (fun v h1=>∃ Z,v=.slice (sB Z) (dt (n+1) e j).length (n+1)/\Sq (sB Z) (dt (n+1) e j) h1):=by
 have a:=(((sS g).aS X).add (K:=fun I=>Tab I) tb);refine go Tryz.func292 [(0,.agg #[qS y B z,qS C D x,nV n]),(1,qS u e.length Q),(2,qv j)] rfl (aD (lA 3 101 ([qS y B z,qS C D x,nV n]) a (fun F w2 h3 a=>lA 5 49 (qc j) a (fun H w5 h6 a=>lL a ac (aG (lL a [.v (qP F 2),.o (nV n) 1 2 1] (bv 11 ((n:Nat)+1) (n+1) ?_)))))));refine lK 12 49 (n+1) 5 56 a8 qc 0 a (fun p w8 h9 a=>?_);have bb:(zZ (n+1) 0).length=(n+1):=by simp
 refine lL a ac (ah (aa a [.c,.v (nV (n+1)),.c] (aZ ?_)));refine bH _ (CG.loop (fun W Γ w_=>∃ (k:Nat)(L:List Rat)(I:Hp),W=n+1-k/\Γ=[(1,qS u e.length Q),(5,pB H),(6,sZ),(7,qS (sB p) (n+1) (n+1)),(14,nV (n+1)),(15,nV k)]/\SS w h w_ I [⟨p,49,(L).flatMap qc⟩,⟨H,49,qc j⟩,⟨F,101,[qS y B z,qS C D x,nV n]⟩] [] [fun I=>Tab I,Sq u e]/\k<=n+1/\L.length=n+1/\L=eE (fun i=>e.getD i 0*j) (n+1) k) _ ⟨0,(zZ (n+1) (0:Rat)),h9,rfl,rfl,a.to _ _,Mv _,NF,(kU _ _)⟩ ?_);rintro _ _ _ ⟨k,L,_,bl,rfl,a,hk,V,Y⟩;refine aD ?_;cases S:(decide ((k:Int)<(((n+1):Nat):Int)))
 .
  have zb:=oF S;refine lB 16 S (ah (dC (CG.exit ?_)))
  show CG _ _ _ _ _ _ _ _
  refine aa a ax (lN (kX ?_));have U:k=n+1:=by omega
  rw[U,jd] at Y
  subst Y;replace a:=a.to [⟨p,49,(((ov (n+1)).map fun i=>e.getD i 0*j)).flatMap qc⟩,⟨H,49,qc j⟩,⟨F,101,[qS y B z,qS C D x,nV n]⟩] [];obtain ⟨_,a,M,bm,bf⟩:=a.pub 0;replace a:=(a.to [⟨H,49,qc j⟩,⟨F,101,[qS y B z,qS C D x,nV n]⟩] []).aS (SlO.of_flat (sz:=5) (f:=qc) (d:=0) (b:=p) (o:=0) (l:=((ov (n+1)).map fun i=>e.getD i 0*j)) (fun _=>rfl) M);exact a.ret [] (qS (sB p) (n+1) (n+1)) (⟨_,by rw[fx],a.f.1⟩)
 have zb:=oT S;refine lB 16 S (ah (cn (cK (cQ (kZ (aa a ax (lN (cR 8 [] mixed a ar ?_))))))));refine eV 0 18 (qS (sB p) (n+1) (n+1)) (eV 1 19 (nV k) (eV 2 20 (qS u e.length Q) (eV 3 21 (nV k) (eX 4 22 u e.length Q 5 (k:Nat) k ((a.f.2.1).ok oM) (eH 5 23 (qv (e.getD k 0)) a ((a.f.2.1).el k oM) (eO 6 24 [(1,0,5)] (qv j) a ?_))))));have bd:=LQ.mul (O k) J;refine au 7 25 a (fun _ _ a=>qx (e.getD k 0) j (LQ.mono (O k) oM) (LQ.mono J oM) _ _ a.g a.f.1) (fun _ _ a=>bS a (fun _ zd a=>tX 8 26 (sB p) (n+1) (n+1) 5 (k:Nat) k rfl (tW 9 0 L qc 5 k ((e.getD k 0)*j) a oM (fun _ a=>?_))));have zc:((L).set k ((e.getD k 0)*j)).length=(n+1):=by rw[Md];exact V
 replace a:=a.to [⟨p,49,((L).set k ((e.getD k 0)*j)).flatMap qc⟩,⟨H,49,qc j⟩,⟨F,101,[qS y B z,qS C D x,nV n]⟩] [];refine tN (kQ (bv 27 ((k:Nat)+1) (k+1) ?_));refine lL a ac (lD ?_);intro a_ ka;refine ⟨_,_,?_,⟨k+1,(L).set k ((e.getD k 0)*j),zd,rfl,rfl,a.to _ _,oM,zc,(by rw[Y];exact i6 oM)⟩,ka.to _ kR⟩
 omega
theorem Jb (D:Z9)(H F:Nat)(J:Z9)(M C:Nat)(n:Nat)(hn:n<=12)(e:List Rat)(y:Z9)(S:Nat)(hla:e.length=n+1)(Z:∀ i,LQ 39500000 (e.getD i 0))(p:List Rat)(z:Z9)(cb:Nat)(hlb:p.length=n+1)(X:∀ i,LQ 39500000 (p.getD i 0))(hcv:∀ i j,i<=n->j<=i+1->LQ 39500000 (ee e p i j))(w:World)(h:Hp)(g:G w h)(hSa:Sq y e h)(hSb:Sq z p h)(tb:Tab h):CR 290 #[.agg #[.slice D H F,.slice J M C,nV n],.slice y e.length S,.slice z p.length cb] w h (fun v h1=>∃ bk,v=.slice (sB bk) (dj (n+1) e p).length (n+1)/\Sq (sB bk) (dj (n+1) e p) h1):=by
 have a:=((((sS g).aS hSa).aS hSb).add (K:=fun B=>Tab B) tb);refine go Tryz.func290 [(0,.agg #[qS D H F,qS J M C,nV n]),(1,qS y e.length S),(2,qS z p.length cb)] rfl (aD (lA 3 101 ([qS D H F,qS J M C,nV n]) a (fun U w2 h3 a=>lL a ac (aG (lL a [.v (qP U 2),.o (nV n) 0 2 1] (bv 12 ((n:Nat)+1) (n+1) ?_))))));refine lK 13 49 (n+1) 5 56 a8 qc 0 a (fun x w5 h6 a=>?_);have hl7:(zZ (n+1) 0).length=(n+1):=by simp
 refine lL a ac (ah (aa a [.c,.v (nV (n+1)),.c] (aZ ?_)));refine bH _ (CG.loop (fun O Γ w_=>∃ (i:Nat)(L:List Rat)(B:Hp),O=n+1-i/\Γ=[(1,qS y e.length S),(2,qS z p.length cb),(6,sZ),(7,qS (sB x) (n+1) (n+1)),(15,nV (n+1)),(16,nV i)]/\SS w h w_ B [⟨x,49,(L).flatMap qc⟩,⟨U,101,[qS D H F,qS J M C,nV n]⟩] [] [fun B=>Tab B,Sq z p,Sq y e]/\i<=n+1/\L.length=n+1/\L=eE (fun V=>ee e p V (V+1)) (n+1) i) _ ⟨0,(zZ (n+1) (0:Rat)),h6,rfl,rfl,a.to _ _,Mv _,NF,(kU _ _)⟩ ?_);rintro _ _ w8 ⟨i,L,h9,bd,rfl,a,hi,hL1,hL⟩;refine aD ?_;cases za:(decide ((i:Int)<(((n+1):Nat):Int)))
 .
  have zd:=oF za;refine lB 17 za (ah (dC (CG.exit ?_)))
  show CG _ _ _ _ _ _ _ _
  refine aa a ax (lN (kX ?_));have hkm:i=n+1:=by omega
  rw[hkm,CZ] at hL
  subst hL;replace a:=a.to [⟨x,49,((dj (n+1) e p)).flatMap qc⟩,⟨U,101,[qS D H F,qS J M C,nV n]⟩] [];obtain ⟨_,a,Y,bl,bf⟩:=a.pub 0;replace a:=(a.to [⟨U,101,[qS D H F,qS J M C,nV n]⟩] []).aS (SlO.of_flat (sz:=5) (f:=qc) (d:=0) (b:=x) (o:=0) (l:=(dj (n+1) e p)) (fun _=>rfl) Y);exact a.ret [] (qS (sB x) (n+1) (n+1)) (⟨_,by rw[fw],a.f.1⟩)
 have zd:=oT za;refine lB 17 za (ah (cn (cK (cQ (kZ (aa a ax (aG (lL a ac (bv 20 ((i:Nat)+1) (i+1) ?_)))))))));refine lL a ac (aZ ?_);refine bH _ (CG.loop (fun O Γ w_=>∃ (j:Nat)(u:List Rat)(B:Hp),O=i+1-j/\Γ=[(1,qS y e.length S),(2,qS z p.length cb),(6,sZ),(7,qS (sB x) (n+1) (n+1)),(15,nV (n+1)),(16,nV i),(8,nV i),(20,nV (i+1)),(21,nV j)]/\SS w h w_ B [⟨x,49,(u).flatMap qc⟩,⟨U,101,[qS D H F,qS J M C,nV n]⟩] [] [fun B=>Tab B,Sq z p,Sq y e]/\j<=i+1/\u.length=n+1/\u=(eE (fun V=>ee e p V (V+1)) (n+1) i).set i (ee e p i j)) _ ⟨0,L,h9,rfl,rfl,a.to _ _,Mv _,hL1,(by rw[hL];exact Hx oM)⟩ ?_);rintro _ _ _ ⟨j,u,zg,bm,rfl,a,hj,W,Q⟩;have I:LQ 39500000 (u.getD i 0):=by rw[Q,FW (kh _ _ _) oM];exact hcv i j oM hj
 refine aD ?_;cases zb:(decide ((j:Int)<((i+1:Nat):Int)))
 .
  have ze:=oF zb;refine lB 22 zb (ah (dC (CG.exit ?_)))
  show CG _ _ _ _ _ _ _ _
  refine kQ (bv 44 ((i:Nat)+1) (i+1) ?_);refine lL a ac (lD ?_);intro a_ ka;refine ⟨_,_,?_,⟨i+1,u,zg,rfl,rfl,a.to _ _,oM,W,(by rw[Q];exact EP oM oM)⟩,ka.to _ kR⟩
  omega
 have ze:=oT zb;refine lB 22 zb (ah (cn (cK (cQ (kZ (aa a ax (lN (cR 18 [] mixed a ar ?_))))))));refine eV 0 24 (qS (sB x) (n+1) (n+1)) (eV 1 25 (nV i) (eV 2 26 (qS (sB x) (n+1) (n+1)) (eV 3 27 (nV i) (eX 4 28 (sB x) (n+1) (n+1) 5 (i:Nat) i rfl (eQ 5 29 0 u qc 5 0 i (qv ((u).getD i 0)) a oM (eV 6 30 (qS y e.length S) (eV 7 31 (nV j) (eX 8 32 y e.length S 5 (j:Nat) j ((a.f.r.1).ok oM) (eH 9 33 (qv (e.getD j 0)) a ((a.f.r.1).el j oM) (eV 10 34 (qS z p.length cb) (eV 11 35 (nV i) (eV 12 36 (nV j) (eI 13 37 ((i:Nat)-(j:Nat)) (eX 14 38 z p.length cb 5 ((i:Nat)-(j:Nat)) (i-j) ((a.f.2.1).ok oM) (eH 15 39 (qv (p.getD (i-j) 0)) a ((a.f.2.1).el (i-j) oM) ?_)))))))))))))));have zc:=LQ.mul (Z j) (X (i-j));refine au 16 40 a (fun _ _ a=>qx (e.getD j 0) (p.getD (i-j) 0) (LQ.mono (Z j) oM) (LQ.mono (X (i-j)) oM) _ _ a.g a.f.1) (fun _ _ a=>?_);have bb:=LQ.add I zc;refine au 17 41 a (fun _ _ a=>CP ((u).getD i 0) ((e.getD j 0)*(p.getD (i-j) 0)) (LQ.mono I oM) (LQ.mono zc oM) _ _ a.g a.f.1) (fun _ _ a=>bS a (fun _ zi a=>tX 18 42 (sB x) (n+1) (n+1) 5 (i:Nat) i rfl (tW 19 0 u qc 5 i (((u).getD i 0)+((e.getD j 0)*(p.getD (i-j) 0))) a oM (fun _ a=>?_))));have zf:((u).set i (((u).getD i 0)+((e.getD j 0)*(p.getD (i-j) 0)))).length=(n+1):=by rw[Md];exact W
 replace a:=a.to [⟨x,49,((u).set i (((u).getD i 0)+((e.getD j 0)*(p.getD (i-j) 0)))).flatMap qc⟩,⟨U,101,[qS D H F,qS J M C,nV n]⟩] [];refine tN (kQ (bv 43 ((j:Nat)+1) (j+1) ?_));refine lL a ac (lD ?_);intro a_ ka;refine ⟨_,_,?_,⟨j+1,(u).set i (((u).getD i 0)+((e.getD j 0)*(p.getD (i-j) 0))),zi,rfl,rfl,a.to _ _,oM,zf,(by rw[Q];exact GL (kh _ _ _) oM)⟩,ka.to _ kR⟩
 omega
theorem BD (F:Z9)(I H:Nat)(M:Z9)(O C:Nat)(n:Nat)(hn:n<=12)(e:List Rat)(y:Z9)(Q:Nat)(hla:e.length=n+1)(J:∀ i,LQ 39500000 (e.getD i 0))(hz:e.getD 0 0≠0)(hvi:∀ i,LQ 39500000 ((bF (n+1) e).getD i 0))(hcv:∀ i j,i<=n->j<=i->LQ 39500000 (ee (bF (n+1) e) e i j))(w:World)(h:Hp)(g:G w h)(hSa:Sq y e h)(tb:Tab h):CR 289 #[.agg #[.slice F I H,.slice M O C,nV n],.slice y e.length Q] w h (fun v h1=>∃ bk,v=.slice (sB bk) (bF (n+1) e).length (n+1)/\Sq (sB bk) (bF (n+1) e) h1):=by
 have a:=(((sS g).aS hSa).add (K:=fun D=>Tab D) tb);have bq:(zZ (n+1) (0:Rat)).length=n+1:=NF;refine go Tryz.func289 [(0,.agg #[qS F I H,qS M O C,nV n]),(1,qS y e.length Q)] rfl (aD (lA 2 101 ([qS F I H,qS M O C,nV n]) a (fun B w2 h3 a=>lL a ac (aG (lL a [.v (qP B 2),.o (nV n) 0 2 1] (bv 11 ((n:Nat)+1) (n+1) ?_))))));refine lK 12 49 (n+1) 5 56 a8 qc 0 a (fun p w5 h6 a=>?_);have hl7:(zZ (n+1) (0:Rat)).length=(n+1):=by simp
 refine lL a ac (ah (cR 9 [] mixed a ar ?_));refine eV 0 14 (qS (sB p) (n+1) (n+1)) (eV 2 16 (qS y e.length Q) (eX 3 17 y e.length Q 5 0 0 ((a.f.2.1).ok oM) (eH 4 18 (qv (e.getD 0 0)) a ((a.f.2.1).el 0 oM) (au 1 15 a (fun _ _ a=>BG (1) kD kD _ _ a.g) (fun w8 h9 a=>?_)))));have bf:=LQ.div (LQ.lit (z:=1) kD) (J 0);refine au 5 19 a (fun _ _ a=>Ir ((1:Int):Rat) (e.getD 0 0) (LQ.mono (LQ.lit (z:=1) kD) oM) (LQ.mono (J 0) oM) (Iq hz) _ _ a.g a.f.1) (fun _ _ a=>eV 6 13 (.tuple #[qv (((1:Int):Rat)/(e.getD 0 0)),qT]) (eV 7 20 (qv (((1:Int):Rat)/(e.getD 0 0))) (eV 8 21 qT (bS a (fun _ zj a=>tX 9 22 (sB p) (n+1) (n+1) 5 0 0 rfl (tW 10 0 (zZ (n+1) (0:Rat)) qc 5 0 (((1:Int):Rat)/(e.getD 0 0)) a oM (fun _ a=>?_)))))));have bl:((zZ (n+1) (0:Rat)).set 0 (((1:Int):Rat)/(e.getD 0 0))).length=(n+1):=by rw[Md];exact hl7
 replace a:=a.to [⟨p,49,((zZ (n+1) (0:Rat)).set 0 (((1:Int):Rat)/(e.getD 0 0))).flatMap qc⟩,⟨B,101,[qS F I H,qS M O C,nV n]⟩] [];refine tN (cQ (aa a ac (aZ ?_)));refine bH _ (CG.loop (fun S Γ w_=>∃ (i:Nat)(L:List Rat)(D:Hp),S=n+1-i/\Γ=[(1,qS y e.length Q),(2,pB B),(4,sZ),(5,qS (sB p) (n+1) (n+1)),(6,nV i)]/\SS w h w_ D [⟨p,49,(L).flatMap qc⟩,⟨B,101,[qS F I H,qS M O C,nV n]⟩] [] [fun D=>Tab D,Sq y e]/\(1<=i/\i<=n+1)/\L.length=n+1/\L=(gE e (n+1) i)) _ ⟨1,(gE e (n+1) 1),zj,rfl,rfl,a.to _ _,⟨nR _,by omega⟩,(fA _ _ _),rfl⟩ ?_);rintro _ _ _ ⟨i,L,_,bn,rfl,a,hi,hL1,U⟩;have u:∀ k,LQ 39500000 (L.getD k 0):=fun k=>by rw[U];exact ED kD hvi hi.2 k
 refine cQ (aa a [.c,.v (qP B 2),.o (nV n) 1 2 1] ?_);cases X:(decide ((i:Int)<=(n:Int)))
 .
  have zf:=oF X;refine lB 26 X (ag (CG.exit ?_))
  show CG _ _ _ _ _ _ _ _
  refine aa a ax (lN (kX ?_));have Z:i=n+1:=by omega
  rw[Z] at U
  replace U:L=bF (n+1) e:=U;subst U;replace a:=a.to [⟨p,49,((bF (n+1) e)).flatMap qc⟩,⟨B,101,[qS F I H,qS M O C,nV n]⟩] [];obtain ⟨_,a,W,bb,bm⟩:=a.pub 0;replace a:=(a.to [⟨B,101,[qS F I H,qS M O C,nV n]⟩] []).aS (SlO.of_flat (sz:=5) (f:=qc) (d:=0) (b:=p) (o:=0) (l:=(bF (n+1) e)) (fun _=>rfl) W);exact a.ret [] (qS (sB p) (n+1) (n+1)) (⟨_,by rw[gd],a.f.1⟩)
 have zf:=oT X;refine lB 26 X (ak (cK (cQ (kZ (aa a [.v a8] (lA 7 49 a6 a (fun zc _ zk a=>lP 0 0 a6 a (fun _ a=>ah (aa a ax (aZ ?_))))))))));refine bH _ (CG.loop (fun S Γ w_=>∃ (j:Nat)(D:Hp),S=i-j/\Γ=[(1,qS y e.length Q),(2,pB B),(4,sZ),(5,qS (sB p) (n+1) (n+1)),(6,nV i),(7,pB zc),(30,nV i),(31,nV j)]/\SS w h w_ D [⟨zc,49,qc (ee L e i j)⟩,⟨p,49,(L).flatMap qc⟩,⟨B,101,[qS F I H,qS M O C,nV n]⟩] [] [fun D=>Tab D,Sq y e]/\j<=i) _ ⟨0,zk,rfl,rfl,a.to _ _,Mv _⟩ ?_);rintro _ _ _ ⟨j,_,bd,rfl,a,hj⟩;have x:LQ 39500000 (ee L e i j):=by rw[U,tm hj hi.2];exact hcv i j oM hj
 refine aD ?_;cases Y:(decide ((j:Int)<(i:Int)))
 .
  have zg:=oF Y;refine lB 32 Y (ah (dC (CG.exit ?_)))
  show CG _ _ _ _ _ _ _ _
  refine cR 8 [] mixed a ar (eV 0 48 (qS (sB p) (n+1) (n+1)) (eV 1 49 (nV i) ?_));have V:j=i:=by omega
  refine eO 2 50 [(0,0,5)] (qv (ee L e i j)) a (eV 3 51 (qS (sB p) (n+1) (n+1)) (eX 4 52 (sB p) (n+1) (n+1) 5 0 0 rfl (eQ 5 53 1 L qc 5 0 0 (qv ((L).getD 0 0)) a oM ?_)));have zd:=LQ.mul x (u 0);refine au 6 54 a (fun _ _ a=>qx (ee L e i j) ((L).getD 0 0) (LQ.mono x oM) (LQ.mono (u 0) oM) _ _ a.g a.f.1) (fun _ _ a=>?_);have bt:LQ (39500000+39500000) (-((ee L e i j)*((L).getD 0 0))):=LQ.neg zd;refine au 7 55 a (fun _ _ a=>JY ((ee L e i j)*((L).getD 0 0)) (LQ.mono zd oM) _ _ a.g) (fun _ _ a=>bS a (fun _ zl a=>tX 8 56 (sB p) (n+1) (n+1) 5 (i:Nat) i rfl (tW 9 1 L qc 5 i (-((ee L e i j)*((L).getD 0 0))) a oM (fun _ a=>?_))));have zi:((L).set i (-((ee L e i j)*((L).getD 0 0)))).length=(n+1):=by rw[Md];exact hL1
  replace a:=a.to [⟨zc,49,qc (ee L e i j)⟩,⟨p,49,((L).set i (-((ee L e i j)*((L).getD 0 0)))).flatMap qc⟩,⟨B,101,[qS F I H,qS M O C,nV n]⟩] [];refine tN (kQ (lL a ac (bv 28 ((i:Nat)+1) (i+1) ?_)));refine lL a ac (lD ?_);intro a_ ka;replace a:=a.drop 1 0;refine ⟨_,_,?_,⟨i+1,(L).set i (-((ee L e i j)*((L).getD 0 0))),zl,rfl,rfl,a.to _ _,oM,zi,(by rw[V,U];exact BI hi.1)⟩,ka.to _ kR⟩
  omega
 have zg:=oT Y;refine lB 32 Y (ah (cn (cK (cQ (kZ (aa a ax (lN (cR 13 [] mixed a ar ?_))))))));refine eO 0 34 [(0,0,5)] (qv (ee L e i j)) a (eV 1 35 (qS (sB p) (n+1) (n+1)) (eV 2 36 (nV j) (eX 3 37 (sB p) (n+1) (n+1) 5 (j:Nat) j rfl (eQ 4 38 1 L qc 5 0 j (qv ((L).getD j 0)) a oM (eV 5 39 (qS y e.length Q) (eV 6 40 (nV i) (eV 7 41 (nV j) (eI 8 42 ((i:Nat)-(j:Nat)) (eX 9 43 y e.length Q 5 ((i:Nat)-(j:Nat)) (i-j) ((a.f.2.1).ok oM) (eH 10 44 (qv (e.getD (i-j) 0)) a ((a.f.2.1).el (i-j) oM) ?_))))))))));have ze:=LQ.mul (u j) (J (i-j));refine au 11 45 a (fun _ _ a=>qx ((L).getD j 0) (e.getD (i-j) 0) (LQ.mono (u j) oM) (LQ.mono (J (i-j)) oM) _ _ a.g a.f.1) (fun _ _ a=>?_);have br:=LQ.add x ze;refine au 12 46 a (fun _ _ a=>CP (ee L e i j) (((L).getD j 0)*(e.getD (i-j) 0)) (LQ.mono x oM) (LQ.mono ze oM) _ _ a.g a.f.1) (fun _ _ a=>bS a (fun _ zm a=>tP 13 0 0 (qc ((ee L e i j)+(((L).getD j 0)*(e.getD (i-j) 0)))) a (fun _ a=>tN (kQ (bv 47 ((j:Nat)+1) (j+1) ?_)))));refine lL a ac (lD ?_);intro a_ ka;refine ⟨_,_,?_,⟨j+1,zm,rfl,rfl,a.to _ _,oM⟩,ka.to _ kR⟩
 omega
theorem DW (j:Z9)(o l:Nat)(p:Z9)(u e:Nat)(n:Nat)(hn:n<=12)(c:List Rat)(d:Z9)(x:Nat)(y:c.length=n+1)(w:World)(h:Hp)(g:G w h)(i:Sq d c h):CV 287 #[.agg #[.slice j o l,.slice p u e,nV n],.slice d c.length x] w h (qv (c.getD 0 0)):=by
 have a:=((sS g).aS i);refine go Tryz.func287 [(0,.agg #[qS j o l,qS p u e,nV n]),(1,qS d c.length x)] rfl (aD (lA 2 101 ([qS j o l,qS p u e,nV n]) a (fun B w2 C a=>lA 4 49 a6 a (fun D H z a=>aG (lL a ac (lX 6 d c.length x 5 0 0 ((a.f.1).ok oM) ?_))))));exact lH 7 (qv (c.getD 0 0)) a ((a.f.1).el 0 oM) (lP 0 0 (qc (c.getD 0 0)) a (fun F a=>ae a [(0,0,5)] (qv (c.getD 0 0)) rfl))
theorem Eg (p:Z9)(e y:Nat)(u:Z9)(j x:Nat)(n:Nat)(hn:n<=12)(fs ws:List Rat)(X:fs.length=e)(Y:ws.length=j)(i:Nat)(him:i<e)(Z:i<j)(w:World)(h:Hp)(g:G w h)(S:Sq p fs h)(W:Sq u ws h):CR 288 #[.agg #[.slice p e y,.slice u j x,nV n],nV i] w h (fun v h1=>∃ M,v=.slice (sB M) (iD (n+1) (fs.getD i 0) (ws.getD i 0)).length (n+1)/\Sq (sB M) (iD (n+1) (fs.getD i 0) (ws.getD i 0)) h1):=by
 have a:=(((sS g).aS S).aS W);have F:=bZ (n+1) (fs.getD i 0);refine go Tryz.func288 [(0,.agg #[qS p e y,qS u j x,nV n]),(1,nV i)] rfl (aD (lA 2 101 ([qS p e y,qS u j x,nV n]) a (fun C w2 h3 a=>lL a ac (ah (cR 7 [] mixed a ar ?_)))));refine eO 0 6 [(0,0,3)] (.agg #[qS p e y,qS u j x,nV n]) a (eV 1 7 (pB C) (eO 2 8 [(0,0,1)] (qS p e y) a (eV 3 9 (nV i) (eX 4 10 p e y 5 (i:Nat) i ((a.f.2.1).ok oM) (eH 5 11 (qv (fs.getD i 0)) a ((a.f.2.1).el i oM) (eC 6 12 a (fun _ _ a=>py p e y u j x n hn (fs.getD i 0) h _ _ a.g a.st.sz) ?_))))));rintro _ _ _ w4 h5 a ⟨B,rfl,J⟩;replace a:=(a.add (K:=fun h_=>Nw h.size h_ B 49 ((bw (n+1) (fs.getD i 0)).flatMap qc)) J);refine bS a (fun w6 h7 a=>tV 7 5 (qS (sB B) (n+1) (n+1)) (tN (cQ ?_)));obtain ⟨h8,a⟩:=a.takeL (a.f.1).1 (a.f.1).2.2;replace a:=a.aS (S.gw a.st.up.gr.gw);replace a:=a.aS (W.gw a.st.up.gr.gw);replace a:=a.to [⟨B,49,((bw (n+1) (fs.getD i 0))).flatMap qc⟩,⟨C,101,[qS p e y,qS u j x,nV n]⟩] [];refine aa a [.v (qP C 2),.o (nV n) 1 2 1] ?_;cases z:(decide ((0:Int)<(n:Int)))
 .
  have I:=oF z;refine lB 15 z (ag (cK (aa a ax (lN (kX ?_)))));obtain ⟨_,a,D,Q,U⟩:=a.pub 0;replace a:=(a.to [⟨C,101,[qS p e y,qS u j x,nV n]⟩] []).aS (SlO.of_flat (sz:=5) (f:=qc) (d:=0) (b:=B) (o:=0) (l:=(bw (n+1) (fs.getD i 0))) (fun _=>rfl) D);exact a.ret [] (qS (sB B) (n+1) (n+1)) (⟨_,by rw[mP],(by rw[<-Ge _ _ oM];exact a.f.1)⟩)
 have I:=oT z;refine lB 15 z (ak (kQ (lL a [.c,.v (qP C 1),.o (qS u j x) 1 1 1,.c] (lX 20 u j x 5 (i:Nat) i ((a.f.1).ok oM) ?_))));refine lH 21 (qv (ws.getD i 0)) a ((a.f.1).el i oM) (lX 22 (sB B) (n+1) (n+1) 5 1 1 rfl (lW 0 (bw (n+1) (fs.getD i 0)) qc 5 1 (ws.getD i 0) a oM (fun _ a=>?_)));have O:(((bw (n+1) (fs.getD i 0))).set 1 (ws.getD i 0)).length=n+1:=by rw[Md];exact F
 replace a:=a.to [⟨B,49,(((bw (n+1) (fs.getD i 0))).set 1 (ws.getD i 0)).flatMap qc⟩,⟨C,101,[qS p e y,qS u j x,nV n]⟩] [];refine aG (lL a ax (lN (kX ?_)));obtain ⟨_,a,H,V,L⟩:=a.pub 0;replace a:=(a.to [⟨C,101,[qS p e y,qS u j x,nV n]⟩] []).aS (SlO.of_flat (sz:=5) (f:=qc) (d:=0) (b:=B) (o:=0) (l:=((bw (n+1) (fs.getD i 0))).set 1 (ws.getD i 0)) (fun _=>rfl) H);exact a.ret [] (qS (sB B) (n+1) (n+1)) (⟨_,by rw[mP],(by rw[<-Hh _ _ oM];exact a.f.1)⟩)
theorem td (z:Z9)(F D:Nat)(H:Z9)(I y:Nat)(n:Nat)(hn:n<=12)(a:List Rat)(d:Z9)(J:Nat)(e:a.length=n+1)(C:Nat)(l:SzR C a)(L:C<=1500000)(c:List Rat)(o:Z9)(cb:Nat)(u:c.length=n+1)(B:Nat)(j:SzR B c)(M:B<=1500000)(w:World)(h:Hp)(g:G w h)(p:Sq d a h)(f:Sq o c h)(K:Tab h):Calls Tryz.prog 286 #[.agg #[.slice z F D,.slice H I y,nV n],.slice d a.length J,.slice o c.length cb] w (Ret w h (fun v h1=>∃ x,v=.slice (sB x) (cY (n+1) a c).length (n+1)/\Sq (sB x) (cY (n+1) a c) h1)) :=
 Ij z F D H I y n hn a d J e (fun i=>(l.lq oM i).mono oM) c o cb u (fun i=>(j.lq oM i).mono oM) w h g p f K
theorem DF (u:Z9)(z y:Nat)(B:Z9)(C p:Nat)(n:Nat)(hn:n<=12)(a:List Rat)(d:Z9)(D:Nat)(e:a.length=n+1)(x:Nat)(f:SzR x a)(H:x<=1500000)(c:Rat)(l:LQ 1 c)(w:World)(h:Hp)(g:G w h)(j:Sq d a h)(F:Tab h):Calls Tryz.prog 292 #[.agg #[.slice u z y,.slice B C p,nV n],.slice d a.length D,qv c] w (Ret w h (fun v h1=>∃ o,v=.slice (sB o) (dt (n+1) a c).length (n+1)/\Sq (sB o) (dt (n+1) a c) h1)) :=
 Dl u z y B C p n hn a d D e (fun i=>(f.lq oM i).mono oM) c l w h g j F
theorem nS (D:Z9)(H F:Nat)(I:Z9)(J C:Nat)(n:Nat)(hn:n<=12)(a:List Rat)(f:Z9)(K:Nat)(l:a.length=n+1)(y:Nat)(e:SzR y a)(O:y<=1500000)(c:List Rat)(p:Z9)(cb:Nat)(z:c.length=n+1)(x:Nat)(d:SzR x c)(Q:x<=1500000)(L:y+x+1<=1500000)(w:World)(h:Hp)(g:G w h)(u:Sq f a h)(o:Sq p c h)(M:Tab h):Calls Tryz.prog 290 #[.agg #[.slice D H F,.slice I J C,nV n],.slice f a.length K,.slice p c.length cb] w (Ret w h (fun v h1=>∃ B,v=.slice (sB B) (dj (n+1) a c).length (n+1)/\Sq (sB B) (dj (n+1) a c) h1)) :=
 Jb D H F I J C n hn a f K l (fun i=>(e.lq oM i).mono oM) c p cb z (fun i=>(d.lq oM i).mono oM) (fun i j hi S=>(e.lq_cnv d (show i<=12 by omega) S).mono oM) w h g u o M
theorem j7 (u:Z9)(y x:Nat)(B:Z9)(C p:Nat)(n:Nat)(hn:n<=12)(a:List Rat)(d:Z9)(D:Nat)(e:a.length=n+1)(l:Nat)(c:SzR l a)(I:l<=1500000)(hz:a.getD 0 0≠0)(F:3*l+2<=1500000)(w:World)(h:Hp)(g:G w h)(f:Sq d a h)(H:Tab h):Calls Tryz.prog 289 #[.agg #[.slice u y x,.slice B C p,nV n],.slice d a.length D] w (Ret w h (fun v h1=>∃ o,v=.slice (sB o) (bF (n+1) a).length (n+1)/\Sq (sB o) (bF (n+1) a) h1)) :=
 have z:=c.inv hz (n+1)
 BD u y x B C p n hn a d D e (fun i=>(c.lq oM i).mono oM) hz (fun i=>(z.lq (by rw[gd];omega) i).mono oM) (fun i j hi J=>(z.lq_cnv c (show i<=12 by omega) oM).mono oM) w h g f H
theorem xk {n:Nat}{a:List Rat}(h:¬(a.getD 0 0).num.sign<0):(cY (n+1) a (bw (n+1) ((1:Int):Rat))).getD 0 0≠0:=by
 have:=mR (Mx n) a
 unfold fB at this
 rwa [if_neg h] at this
theorem AB {n:Nat}{a:List Rat}(h:(a.getD 0 0).num.sign<0):(cY (n+1) (dt (n+1) a ((-1:Int):Rat)) (bw (n+1) ((1:Int):Rat))).getD 0 0≠0:=by
 have:=mR (Mx n) a
 unfold fB at this
 rwa [if_pos h] at this
theorem Gq {op z:Int}{m:Nat}{a b:List Rat}(c:op=9\/op=10)(h:0<(a.getD 0 0).num.sign):a=gR op z m a b:=by
 rcases c with rfl|rfl
 ·rw[vb];unfold fB;rw[if_neg oM]
 ·rw[kc,if_pos h]
theorem tH {op z:Int}{m:Nat}{a b:List Rat}(h:op=12/\b.getD 0 0<a.getD 0 0\/op=13/\a.getD 0 0<b.getD 0 0):a=gR op z m a b:=by
 rcases h with ⟨rfl,h⟩|⟨rfl,h⟩
 ·rw[kw,if_pos h]
 ·rw[ke,if_neg (by grind)]
theorem t6 {op z:Int}{m:Nat}{a b:List Rat}(h:op=12/\a.getD 0 0<b.getD 0 0\/op=13/\b.getD 0 0<a.getD 0 0):b=gR op z m a b:=by
 rcases h with ⟨rfl,h⟩|⟨rfl,h⟩
 ·rw[kw,if_neg (by grind)]
 ·rw[ke,if_pos h]
theorem ll (e:Z9)(j i:Nat)(l:Z9)(o d:Nat)(n:Nat)(hn:n<=12)(C:Nat)(c:List Rat)(u:Z9)(y:Nat)(z:c.length=n+1)(F:Nat)(B:SzR F c)(L:F<=1500000)(w:World)(h:Hp)(g:G w h)(D:Sq u c h)(J:Tab h):CR 115 #[.agg #[.iface 101 (.agg #[.slice e j i,.slice l o d,nV n]),.map (some C),.bool true],.slice u c.length y] w h (fun v h1=>∃ H,v=.slice (sB H) (dt (n+1) c ((-1:Int):Rat)).length (n+1)/\Sq (sB H) (dt (n+1) c ((-1:Int):Rat)) h1):=by
 have a:=(((sS g).aS D).add (K:=fun M=>Tab M) J);refine go Tryz.func115 [(0,.agg #[.iface 101 (.agg #[qS e j i,qS l o d,nV n]),.map (some C),qT]),(1,qS u c.length y)] rfl (aD (lA 2 105 ([.iface 101 (.agg #[qS e j i,qS l o d,nV n]),.map (some C),qT]) a (fun I w2 Q a=>lL a ac (ah (cR 7 [] mixed a ar ?_)))));refine eV 0 5 (pB I) (eO 1 6 [(0,0,1)] (.iface 101 (.agg #[qS e j i,qS l o d,nV n])) a (eV 2 7 (qS u c.length y) (eV 4 9 (.iface 101 (.agg #[qS e j i,qS l o d,nV n])) (eV 5 10 (.iface 101 (.agg #[qS e j i,qS l o d,nV n])) (au 3 8 a (fun _ _ a=>BG (-1) kD kD _ _ a.g) (fun S U a=>eC 6 11 a (fun _ _ a=>DF e j i l o d n hn c u y z F B oM ((-1:Int):Rat) (LQ.int kD kD) _ _ a.g a.f.2.1 a.f.1) ?_))))));rintro _ _ _ V O a ⟨x,rfl,p⟩;replace a:=a.aS p;exact bS a (fun W _ a=>tV 7 4 (qS (sB x) ((dt (n+1) c ((-1:Int):Rat)).length) (n+1)) (tN (kX (a.ret [] (qS (sB x) ((dt (n+1) c ((-1:Int):Rat)).length) (n+1)) (⟨_,rfl,a.f.1⟩)))))
theorem xK (l:Z9)(i y:Nat)(j:Z9)(u x:Nat)(n:Nat)(hn:n<=12)(W:Nat)(op z:Int)(q:Rat)(s:ByteArray)(A:Z9)(kn c:Nat)(e:List Rat)(F:Z9)(J:Nat)(L:e.length=n+1)(D:Nat)(C:SzR D e)(hwa:D<=1500000)(hop:7<=op/\op<=11)(df:op=8 -> -12<=z/\z<=12)(hw4:D<=400000)(hwz:op=8->z.natAbs*(2*D+2)+1<=1400000)(w:World)(h:Hp)(g:G w h)(hSa:Sq F e h)(tb:Tab h):CR 76 #[.agg #[.iface 101 (.agg #[.slice l i y,.slice j u x,nV n]),.map (some W),.bool true],bU ⟨op,z,q,s,A,kn,c⟩,.slice F e.length J] w h (fun v h1=>∃ (L_:List Rat)(A_:Z9)(c_:Nat),v=.tuple #[.slice A_ L_.length c_,iV (dN op z (e.getD 0 0) 0)]/\Sq A_ L_ h1/\(dN op z (e.getD 0 0) 0=0->L_=gR op z (n+1) e [])):=by
 have d:=(((sS g).aS hSa).add (K:=fun B=>Tab B) tb);refine go Tryz.func76 [(0,.agg #[.iface 101 (.agg #[qS l i y,qS j u x,nV n]),.map (some W),qT]),(1,bU ⟨op,z,q,s,A,kn,c⟩),(2,qS F e.length J)] rfl (aD (lA 3 105 ([.iface 101 (.agg #[qS l i y,qS j u x,nV n]),.map (some W),qT]) d (fun H w2 h3 d=>lA 4 52 (dh ⟨op,z,q,s,A,kn,c⟩) d (fun M w5 h6 d=>lL d ax (aG (lL d [.v (pB H),.o (.iface 101 (.agg #[qS l i y,qS j u x,nV n])) 1 0 1,.c] (aq 14 d (DW l i y j u x n hn e F J L _ _ d.g d.f.2.1) (fun w7 h8 d=>aq 15 d (jy (e.getD 0 0) (LQ.mono (C.lq oM 0) oM) _ _ d.g) (fun w9 _ d=>?_)))))))));have dc:=li (e.getD 0 0).num;refine lL d ac (ah (aa d [.v (pB M),.o (iV op) 0 0 1] (aZ (aD ?_))));cases za:((op:Int) == (7:Int))
 .
  have zn:=aj za;refine lB 19 za (lL d ac (ag (aD ?_)));cases zb:((op:Int) == (8:Int))
  .
   have zo:=aj zb;refine lB 24 zb (lL d ac (ag (aD ?_)));cases zc:((op:Int) == (11:Int))
   .
    have zp:=aj zc;refine lB 62 zc (lL d ac (ag (cK (cQ (aa d ac ?_)))));cases zd:(((e.getD 0 0).num.sign:Int) == (0:Int))
    .
     have zq:=aj zd;refine lB 100 zd (ag (cK (cQ (aa d ac ?_))));cases ze:(decide ((0:Int)<((e.getD 0 0).num.sign:Int)))
     .
      have zr:=oF ze;refine lB 103 ze (ag (cK (cQ (aa d [.v (pB M),.o (iV op) 0 0 1] ?_))));cases zf:((op:Int) == (9:Int))
      .
       have zs:=aj zf;refine lB 107 zf (ag (cK (aa d [.v (pB H),.o (.iface 101 (.agg #[qS l i y,qS j u x,nV n])) 1 0 1,.v (qv (0:Rat))] (lC 114 d (fz l i y j u x n hn (0:Rat) _ _ d.g ) ?_))));rintro _ _ _ d ⟨cx,rfl,b9⟩;replace d:=d.aS b9;refine lL d ax (lN (kX ?_));obtain rfl:op=10:=by omega
       have I:dN 10 z (e.getD 0 0) 0=0:=((eZ kD).trans (eu (fun B=>absurd B kD) (fun B=>absurd B kD) (fun _=>ip oM) (fun B=>absurd B kD)));exact d.ret [] (.tuple #[qS (sB cx) ((bw (n+1) (0:Rat)).length) (n+1),iV 0]) (⟨(bw (n+1) (0:Rat)),_,_,by rw[I],d.f.1,fun _=>(by rw[kc,if_neg oM])⟩)
      have zs:=eq_of_beq zf;refine lB 107 zf (ak (aa d [.o (.agg #[.iface 101 (.agg #[qS l i y,qS j u x,nV n]),.map (some W),qT]) 1 0 3,.c] (lC 110 d (ll l i y j u x n hn W e F J L D C oM _ _ d.g d.f.2.1 d.f.1) ?_)));rintro _ _ _ d ⟨cy,rfl,bq⟩;replace d:=d.aS bq;refine lL d ax (lN (kX ?_));obtain rfl:op=9:=by omega
      have I:dN 9 z (e.getD 0 0) 0=0:=((eZ kD).trans (eu (fun B=>absurd B kD) (fun B=>absurd B kD) (fun _=>ip oM) (fun B=>absurd B kD)));exact d.ret [] (.tuple #[qS (sB cy) ((dt (n+1) e ((-1:Int):Rat)).length) (n+1),iV 0]) (⟨(dt (n+1) e ((-1:Int):Rat)),_,_,by rw[I],d.f.1,fun _=>(by rw[vb];unfold fB;rw[if_pos oM])⟩)
     have zr:=oT ze;refine lB 103 ze (ak (aa d cJ (lN (kX ?_))));have I:dN op z (e.getD 0 0) 0=0:=((eZ oM).trans (eu (fun B=>absurd B oM) (fun B=>absurd B oM) (fun _=>ip oM) (fun B=>absurd B oM)));exact d.ret [] (.tuple #[qS F e.length J,iV 0]) (⟨e,_,_,by rw[I],d.f.2.1,fun _=>(Gq oM oM)⟩)
    have zq:=eq_of_beq zd;refine lB 100 zd (ak (aa d cJ (lN (kX ?_))));have I:dN op z (e.getD 0 0) 0=7:=((eZ oM).trans (Fs (.inl ⟨by omega,Dk oM⟩)));exact d.ret [] (.tuple #[qS F e.length J,iV 7]) (⟨e,_,_,by rw[I],d.f.2.1,fun B=>absurd B (by rw[I];decide)⟩)
   have zp:=eq_of_beq zc;refine lB 62 zc (lL d ac (ak (cQ (aa d [.v (qP H 2),.o qT 1 2 1,.c,.c] ?_))));cases zg:(((e.getD 0 0).num.sign:Int) == (0:Int))
   .
    have zt:=aj zg;refine lB 67 zg (lL d [.v qF] (ag (cK (aa d ax (ah (aa d ac ?_))))));cases zi:(decide (((e.getD 0 0).num.sign:Int)<(0:Int)))
    .
     have zu:=oF zi;refine lB 72 zi (ag (cK (cQ (cR 23 [] mixed d ar ?_))));refine eV 0 76 (pB H) (eO 1 77 [(1,0,1)] (.iface 101 (.agg #[qS l i y,qS j u x,nV n])) d (eV 2 78 (qS F e.length J) (eV 3 79 (pB H) (eO 4 80 [(1,0,1)] (.iface 101 (.agg #[qS l i y,qS j u x,nV n])) d (eV 5 81 (pB H) (eO 6 82 [(1,0,1)] (.iface 101 (.agg #[qS l i y,qS j u x,nV n])) d (eV 7 83 (qS F e.length J) (eV 8 84 (pB H) (eO 9 85 [(1,0,1)] (.iface 101 (.agg #[qS l i y,qS j u x,nV n])) d (eV 11 87 (.iface 101 (.agg #[qS l i y,qS j u x,nV n])) (eV 12 88 (.iface 101 (.agg #[qS l i y,qS j u x,nV n])) (eV 14 90 (.iface 101 (.agg #[qS l i y,qS j u x,nV n])) (eV 15 91 (.iface 101 (.agg #[qS l i y,qS j u x,nV n])) (eV 17 93 (.iface 101 (.agg #[qS l i y,qS j u x,nV n])) (eV 18 94 (.iface 101 (.agg #[qS l i y,qS j u x,nV n])) (eV 20 96 (.iface 101 (.agg #[qS l i y,qS j u x,nV n])) (eV 21 97 (.iface 101 (.agg #[qS l i y,qS j u x,nV n])) (au 10 86 d (fun _ _ d=>BG (1) kD kD _ _ d.g) (fun _ _ d=>eC 13 89 d (fun _ _ d=>fz l i y j u x n hn ((1:Int):Rat) _ _ d.g ) ?_)))))))))))))))))));rintro _ _ _ _ _ d ⟨cz,rfl,bz⟩;replace d:=d.aS bz;refine eC 16 92 d (fun _ _ d=>td l i y j u x n hn e F J L D C oM (bw (n+1) ((1:Int):Rat)) (sB cz) (n+1) (bZ _ _) 1 (SzR.num (LQ.int kD kD) (n+1) (Mx n)) oM _ _ d.g d.f.r.1 d.f.1 d.f.2.1) ?_;rintro _ _ _ _ _ d ⟨cm,rfl,bf⟩;replace d:=d.aS bf;refine eC 19 95 d (fun _ _ d=>j7 l i y j u x n hn (cY (n+1) e (bw (n+1) ((1:Int):Rat))) (sB cm) (n+1) (f4 _ _ _) (D+1+1) (C.add (SzR.num (LQ.int kD kD) (n+1) (Mx n)) (n+1)) oM (xk (n:=n) (a:=e) oM) oM _ _ d.g d.f.1 d.f.r.1) ?_;rintro _ _ _ _ _ d ⟨cr,rfl,b6⟩;replace d:=d.aS b6;refine eC 22 98 d (fun _ _ d=>nS l i y j u x n hn e F J L D C oM (bF (n+1) (cY (n+1) e (bw (n+1) ((1:Int):Rat)))) (sB cr) (n+1) (gd _ _) (2*(D+1+1)+1) ((C.add (SzR.num (LQ.int kD kD) (n+1) (Mx n)) (n+1)).inv (xk (n:=n) (a:=e) oM) (n+1)) oM oM _ _ d.g d.f.q.1 d.f.1 d.f.r.2.1) ?_;rintro _ _ _ _ _ d ⟨U,rfl,bn⟩;replace d:=d.aS bn;refine bS d (fun _ _ d=>tV 23 6 (qS (sB U) ((dj (n+1) e (bF (n+1) (cY (n+1) e (bw (n+1) ((1:Int):Rat))))).length) (n+1)) (tV 24 7 (iV 0) (tN (bH [(2,qS F e.length J),(3,pB H),(4,pB M),(6,qS (sB U) ((dj (n+1) e (bF (n+1) (cY (n+1) e (bw (n+1) ((1:Int):Rat))))).length) (n+1)),(7,iV 0),(8,iV ((e.getD 0 0).num.sign))] ?_))));refine kX ?_;obtain rfl:op=11:=by omega
     have I:dN 11 z (e.getD 0 0) 0=0:=(Bo (ip oM));exact d.ret [] (.tuple #[qS (sB U) ((dj (n+1) e (bF (n+1) (cY (n+1) e (bw (n+1) ((1:Int):Rat))))).length) (n+1),iV 0]) (⟨(dj (n+1) e (bF (n+1) (cY (n+1) e (bw (n+1) ((1:Int):Rat))))),_,_,by rw[I],d.f.1,fun _=>(by rw[oZ];unfold fB;rw[if_neg oM])⟩)
    have zu:=oT zi;refine lB 72 zi (ak (kQ (lL d [.o (.agg #[.iface 101 (.agg #[qS l i y,qS j u x,nV n]),.map (some W),qT]) 1 0 3,.c] (lC 75 d (ll l i y j u x n hn W e F J L D C oM _ _ d.g d.f.2.1 d.f.1) ?_))));rintro _ _ _ d ⟨bb,rfl,b2⟩;replace d:=d.aS b2;refine lL d ac (ah (cR 23 [] mixed d ar ?_));refine eV 0 76 (pB H) (eO 1 77 [(1,0,1)] (.iface 101 (.agg #[qS l i y,qS j u x,nV n])) d (eV 2 78 (qS F e.length J) (eV 3 79 (pB H) (eO 4 80 [(1,0,1)] (.iface 101 (.agg #[qS l i y,qS j u x,nV n])) d (eV 5 81 (pB H) (eO 6 82 [(1,0,1)] (.iface 101 (.agg #[qS l i y,qS j u x,nV n])) d (eV 7 83 (qS (sB bb) ((dt (n+1) e ((-1:Int):Rat)).length) (n+1)) (eV 8 84 (pB H) (eO 9 85 [(1,0,1)] (.iface 101 (.agg #[qS l i y,qS j u x,nV n])) d (eV 11 87 (.iface 101 (.agg #[qS l i y,qS j u x,nV n])) (eV 12 88 (.iface 101 (.agg #[qS l i y,qS j u x,nV n])) (eV 14 90 (.iface 101 (.agg #[qS l i y,qS j u x,nV n])) (eV 15 91 (.iface 101 (.agg #[qS l i y,qS j u x,nV n])) (eV 17 93 (.iface 101 (.agg #[qS l i y,qS j u x,nV n])) (eV 18 94 (.iface 101 (.agg #[qS l i y,qS j u x,nV n])) (eV 20 96 (.iface 101 (.agg #[qS l i y,qS j u x,nV n])) (eV 21 97 (.iface 101 (.agg #[qS l i y,qS j u x,nV n])) (au 10 86 d (fun _ _ d=>BG (1) kD kD _ _ d.g) (fun _ _ d=>eC 13 89 d (fun _ _ d=>fz l i y j u x n hn ((1:Int):Rat) _ _ d.g ) ?_)))))))))))))))))));rintro _ _ _ _ _ d ⟨cj,rfl,b5⟩;replace d:=d.aS b5;refine eC 16 92 d (fun _ _ d=>td l i y j u x n hn (dt (n+1) e ((-1:Int):Rat)) (sB bb) (n+1) (fx _ _ _) D (C.neg (n+1)) oM (bw (n+1) ((1:Int):Rat)) (sB cj) (n+1) (bZ _ _) 1 (SzR.num (LQ.int kD kD) (n+1) (Mx n)) oM _ _ d.g d.f.2.1 d.f.1 d.f.r.1) ?_;rintro _ _ _ _ _ d ⟨ch,rfl,b3⟩;replace d:=d.aS b3;refine eC 19 95 d (fun _ _ d=>j7 l i y j u x n hn (cY (n+1) (dt (n+1) e ((-1:Int):Rat)) (bw (n+1) ((1:Int):Rat))) (sB ch) (n+1) (f4 _ _ _) (D+1+1) ((C.neg (n+1)).add (SzR.num (LQ.int kD kD) (n+1) (Mx n)) (n+1)) oM (AB (n:=n) (a:=e) oM) oM _ _ d.g d.f.1 d.f.r.2.1) ?_;rintro _ _ _ _ _ d ⟨c5,rfl,cd⟩;replace d:=d.aS cd;refine eC 22 98 d (fun _ _ d=>nS l i y j u x n hn e F J L D C oM (bF (n+1) (cY (n+1) (dt (n+1) e ((-1:Int):Rat)) (bw (n+1) ((1:Int):Rat)))) (sB c5) (n+1) (gd _ _) (2*(D+1+1)+1) (((C.neg (n+1)).add (SzR.num (LQ.int kD kD) (n+1) (Mx n)) (n+1)).inv (AB (n:=n) (a:=e) oM) (n+1)) oM oM _ _ d.g d.f.q.2.1 d.f.1 d.f.q.1) ?_;rintro _ _ _ _ _ d ⟨Y,rfl,bd⟩;replace d:=d.aS bd;refine bS d (fun _ _ d=>tV 23 6 (qS (sB Y) ((dj (n+1) e (bF (n+1) (cY (n+1) (dt (n+1) e ((-1:Int):Rat)) (bw (n+1) ((1:Int):Rat))))).length) (n+1)) (tV 24 7 (iV 0) (tN (bH [(2,qS F e.length J),(3,pB H),(4,pB M),(6,qS (sB Y) ((dj (n+1) e (bF (n+1) (cY (n+1) (dt (n+1) e ((-1:Int):Rat)) (bw (n+1) ((1:Int):Rat))))).length) (n+1)),(7,iV 0),(8,iV ((e.getD 0 0).num.sign))] ?_))));refine kX ?_;obtain rfl:op=11:=by omega
    have I:dN 11 z (e.getD 0 0) 0=0:=(Bo (ip oM));exact d.ret [] (.tuple #[qS (sB Y) ((dj (n+1) e (bF (n+1) (cY (n+1) (dt (n+1) e ((-1:Int):Rat)) (bw (n+1) ((1:Int):Rat))))).length) (n+1),iV 0]) (⟨(dj (n+1) e (bF (n+1) (cY (n+1) (dt (n+1) e ((-1:Int):Rat)) (bw (n+1) ((1:Int):Rat))))),_,_,by rw[I],d.f.1,fun _=>(by rw[oZ];unfold fB;rw[if_pos oM])⟩)
   have zt:=eq_of_beq zg;refine lB 67 zg (lL d [.v qT] (ak (aa d cJ (lN (kX ?_)))));obtain rfl:op=11:=by omega
   have I:dN 11 z (e.getD 0 0) 0=7:=(JK (Dk oM));exact d.ret [] (.tuple #[qS F e.length J,iV 7]) (⟨e,_,_,by rw[I],d.f.2.1,fun B=>absurd B (by rw[I];decide)⟩)
  have zo:=eq_of_beq zb;refine lB 24 zb (lL d ac (ak (cQ (aa d [.v (qP M 1),.o (iV z) 0 1 1] ?_))));cases zj:(decide ((z:Int)<(0:Int)))
  .
   have zv:=oF zj;refine lB 27 zj (lL d ac (lG 29 ?_));refine lG 30 (lL d [.v qF] (ag (cK (cQ (aa d [.v (qP M 1),.o (iV z) 0 1 1] ?_)))));have ⟨zB,c9⟩:=dF (p:=(z:Int)<(0:Int)) oM;refine lB 35 zB (ag (cK (cQ (cR 6 [] mixed d ar ?_))));refine eV 0 40 (pB H) (eO 1 41 [(1,0,1)] (.iface 101 (.agg #[qS l i y,qS j u x,nV n])) d (eV 3 43 (.iface 101 (.agg #[qS l i y,qS j u x,nV n])) (eV 4 44 (.iface 101 (.agg #[qS l i y,qS j u x,nV n])) (au 2 42 d (fun _ _ d=>BG (1) kD kD _ _ d.g) (fun _ _ d=>eC 5 45 d (fun _ _ d=>fz l i y j u x n hn ((1:Int):Rat) _ _ d.g ) ?_)))));rintro _ _ _ _ _ d ⟨S,rfl,b0⟩;replace d:=d.aS b0;refine bS d (fun _ zE d=>tV 6 9 (qS (sB S) ((bw (n+1) ((1:Int):Rat)).length) (n+1)) (tN (cQ (aa d [.v (qP M 1),.o (iV z) 0 1 1,.v (qP M 1),.o (iV z) 0 1 1] (lI 50 (0-z) ?_)))));refine lV 51 (iV (max (z:Int) (0-z:Int))) ?_ (hr:=aI (n:=(if (0-z:Int)>(z:Int) then (0-z:Int) else (z:Int))) kR (by simp only[nP]));refine lL d ac (lN (bH [(2,qS F e.length J),(3,pB H),(4,pB M),(6,sZ),(7,iV 0),(8,iV ((e.getD 0 0).num.sign)),(9,qS (sB S) ((bw (n+1) ((1:Int):Rat)).length) (n+1)),(51,iV (max (z:Int) (0-z:Int))),(52,iV 0)] ?_));refine kZ ?_;replace d:=d.aS d.f.1;refine bH _ (CG.loop (fun μ_ Γ w_=>∃ (k:Nat)(V:Z9)(Z:Nat)(B:Hp),μ_=z.natAbs-k/\Γ=[(2,qS F e.length J),(3,pB H),(4,pB M),(6,sZ),(7,iV 0),(8,iV ((e.getD 0 0).num.sign)),(51,iV (max (z:Int) (0-z:Int))),(52,nV k),(9,qS V ((du (n+1) e k).length) Z)]/\SS w h w_ B [⟨M,52,dh ⟨op,z,q,s,A,kn,c⟩⟩,⟨H,105,[.iface 101 (.agg #[qS l i y,qS j u x,nV n]),.map (some W),qT]⟩] [] [Sq V (du (n+1) e k),Sq (sB S) (bw (n+1) ((1:Int):Rat)),fun B=>Tab B,Sq F e]/\k<=z.natAbs) _ ⟨0,sB S,(n+1),zE,rfl,rfl,d.to _ _,Mv _⟩ ?_);rintro _ _ _ ⟨k,V,Z,_,dm,rfl,d,hk⟩;refine aD ?_;cases zk:(decide ((k:Int)<(max (z:Int) (0-z:Int):Int)))
   .
    have zw:=oF zk;refine lB 53 zk (ah (dC (CG.exit ?_)))
    show CG _ _ _ _ _ _ _ _
    refine aa d cJ (lN (kX ?_));obtain rfl:op=8:=by omega
    have I:dN 8 z (e.getD 0 0) 0=0:=((eZ kD).trans (eu (fun B=>absurd B kD) (fun _ B=>absurd B oM) (fun B=>absurd B kD) (fun B=>absurd B kD)));exact d.ret [] (.tuple #[qS V ((du (n+1) e k).length) Z,iV 0]) (⟨(du (n+1) e k),_,_,by rw[I],d.f.1,fun _=>(by rw[kG,show z.natAbs=k by omega];unfold px;rw[if_neg oM])⟩)
   have zw:=oT zk;refine lB 53 zk (ah (cn (cK (cQ (kZ (kQ ?_))))));have c7:=hwz oM;have X:=zh (D+1) (show k+1<=z.natAbs by omega);rw[y3] at X
   have c4:z.natAbs*(D+1)<=z.natAbs*(2*D+2):=Lz _ oM;refine lL d [.v (pB H),.o (.iface 101 (.agg #[qS l i y,qS j u x,nV n])) 1 0 1,.c,.c] (lC 58 d (nS l i y j u x n hn (du (n+1) e k) V Z (cI _ _ _) (1+k*(D+1)) (C.pow (Mx n) k) oM e F J L D C oM oM _ _ d.g d.f.1 d.f.r.2.1 d.f.r.1) ?_);rintro _ _ zG d ⟨c3,rfl,b7⟩;replace d:=d.aS b7;refine lL d ac (lN (kQ (bv 59 ((k:Nat)+1) (k+1) ?_)));refine lL d ac (lD ?_);intro a_ ka;replace d:=(d.tl.tl.aS d.f.1);refine ⟨_,_,?_,⟨k+1,sB c3,(n+1),zG,rfl,rfl,d.to _ _,oM⟩,ka.to _ kR⟩
   omega
  have zv:=oT zj;refine lB 27 zj (lL d ax ?_);cases zl:(((e.getD 0 0).num.sign:Int) == (0:Int))
  .
   have zx:=aj zl;refine lB 30 zl (lL d [.v qF] (ag (cK (cQ (aa d [.v (qP M 1),.o (iV z) 0 1 1] ?_)))));have ⟨zD,c8⟩:=dT (p:=(z:Int)<(0:Int)) oM;refine lB 35 zD (ak (kQ (lL d [.v (pB H),.o (.iface 101 (.agg #[qS l i y,qS j u x,nV n])) 1 0 1,.c] (lC 39 d (j7 l i y j u x n hn e F J L D C oM (ip oM) oM _ _ d.g d.f.2.1 d.f.1) ?_))));rintro _ _ _ d ⟨Q,rfl,bk⟩;replace d:=d.aS bk;refine lL d ac (ah (cR 6 [] mixed d ar ?_));refine eV 0 40 (pB H) (eO 1 41 [(1,0,1)] (.iface 101 (.agg #[qS l i y,qS j u x,nV n])) d (eV 3 43 (.iface 101 (.agg #[qS l i y,qS j u x,nV n])) (eV 4 44 (.iface 101 (.agg #[qS l i y,qS j u x,nV n])) (au 2 42 d (fun _ _ d=>BG (1) kD kD _ _ d.g) (fun _ _ d=>eC 5 45 d (fun _ _ d=>fz l i y j u x n hn ((1:Int):Rat) _ _ d.g ) ?_)))));rintro _ _ _ _ _ d ⟨O,rfl,bt⟩;replace d:=d.aS bt;refine bS d (fun _ zH d=>tV 6 9 (qS (sB O) ((bw (n+1) ((1:Int):Rat)).length) (n+1)) (tN (cQ (aa d [.v (qP M 1),.o (iV z) 0 1 1,.v (qP M 1),.o (iV z) 0 1 1] (lI 50 (0-z) ?_)))));refine lV 51 (iV (max (z:Int) (0-z:Int))) ?_ (hr:=aI (n:=(if (0-z:Int)>(z:Int) then (0-z:Int) else (z:Int))) kR (by simp only[nP]));refine lL d ac (lN (bH [(2,qS (sB Q) ((bF (n+1) e).length) (n+1)),(3,pB H),(4,pB M),(6,sZ),(7,iV 0),(8,iV ((e.getD 0 0).num.sign)),(9,qS (sB O) ((bw (n+1) ((1:Int):Rat)).length) (n+1)),(51,iV (max (z:Int) (0-z:Int))),(52,iV 0)] ?_));refine kZ ?_;replace d:=d.aS d.f.1;refine bH _ (CG.loop (fun μ_ Γ w_=>∃ (k:Nat)(V:Z9)(Z:Nat)(B:Hp),μ_=z.natAbs-k/\Γ=[(2,qS (sB Q) ((bF (n+1) e).length) (n+1)),(3,pB H),(4,pB M),(6,sZ),(7,iV 0),(8,iV ((e.getD 0 0).num.sign)),(51,iV (max (z:Int) (0-z:Int))),(52,nV k),(9,qS V ((du (n+1) (bF (n+1) e) k).length) Z)]/\SS w h w_ B [⟨M,52,dh ⟨op,z,q,s,A,kn,c⟩⟩,⟨H,105,[.iface 101 (.agg #[qS l i y,qS j u x,nV n]),.map (some W),qT]⟩] [] [Sq V (du (n+1) (bF (n+1) e) k),Sq (sB O) (bw (n+1) ((1:Int):Rat)),Sq (sB Q) (bF (n+1) e),fun B=>Tab B,Sq F e]/\k<=z.natAbs) _ ⟨0,sB O,(n+1),zH,rfl,rfl,d.to _ _,Mv _⟩ ?_);rintro _ _ _ ⟨k,V,Z,_,dn,rfl,d,hk⟩;refine aD ?_;cases zm:(decide ((k:Int)<(max (z:Int) (0-z:Int):Int)))
   .
    have zA:=oF zm;refine lB 53 zm (ah (dC (CG.exit ?_)))
    show CG _ _ _ _ _ _ _ _
    refine aa d cJ (lN (kX ?_));obtain rfl:op=8:=by omega
    have I:dN 8 z (e.getD 0 0) 0=0:=((eZ kD).trans (eu (fun B=>absurd B kD) (fun _ _=>ip oM) (fun B=>absurd B kD) (fun B=>absurd B kD)));exact d.ret [] (.tuple #[qS V ((du (n+1) (bF (n+1) e) k).length) Z,iV 0]) (⟨(du (n+1) (bF (n+1) e) k),_,_,by rw[I],d.f.1,fun _=>(by rw[kG,show z.natAbs=k by omega];unfold px;rw[if_pos oM])⟩)
   have zA:=oT zm;refine lB 53 zm (ah (cn (cK (cQ (kZ (kQ ?_))))));have c7:=hwz oM;have X:=zh (2*D+1+1) (show k+1<=z.natAbs by omega);rw[y3] at X
   have c4:z.natAbs*(2*D+1+1)<=z.natAbs*(2*D+2):=Lz _ oM;refine lL d [.v (pB H),.o (.iface 101 (.agg #[qS l i y,qS j u x,nV n])) 1 0 1,.c,.c] (lC 58 d (nS l i y j u x n hn (du (n+1) (bF (n+1) e) k) V Z (cI _ _ _) (1+k*(2*D+1+1)) ((C.inv (ip oM) (n+1)).pow (Mx n) k) oM (bF (n+1) e) (sB Q) (n+1) (gd _ _) (2*D+1) (C.inv (ip oM) (n+1)) oM oM _ _ d.g d.f.1 d.f.r.1 d.f.r.2.1) ?_);rintro _ _ zI d ⟨c6,rfl,bl⟩;replace d:=d.aS bl;refine lL d ac (lN (kQ (bv 59 ((k:Nat)+1) (k+1) ?_)));refine lL d ac (lD ?_);intro a_ ka;replace d:=(d.tl.tl.aS d.f.1);refine ⟨_,_,?_,⟨k+1,sB c6,(n+1),zI,rfl,rfl,d.to _ _,oM⟩,ka.to _ kR⟩
   omega
  have zx:=eq_of_beq zl;refine lB 30 zl (lL d [.v qT] (ak (aa d cJ (lN (kX ?_)))));obtain rfl:op=8:=by omega
  have I:dN 8 z (e.getD 0 0) 0=6:=((eZ kD).trans (Fo (.inr ⟨rfl,by omega,Dk oM⟩)));exact d.ret [] (.tuple #[qS F e.length J,iV 6]) (⟨e,_,_,by rw[I],d.f.2.1,fun B=>absurd B (by rw[I];decide)⟩)
 have zn:=eq_of_beq za;refine lB 19 za (lL d ac (ak (aa d [.o (.agg #[.iface 101 (.agg #[qS l i y,qS j u x,nV n]),.map (some W),qT]) 1 0 3,.c] (lC 22 d (ll l i y j u x n hn W e F J L D C oM _ _ d.g d.f.2.1 d.f.1) ?_))));rintro _ _ _ d ⟨cq,rfl,br⟩;replace d:=d.aS br;refine lL d ax (lN (kX ?_));obtain rfl:op=7:=by omega
 have I:dN 7 z (e.getD 0 0) 0=0:=((eZ kD).trans (eu (fun B=>absurd B kD) (fun B=>absurd B kD) (fun B=>absurd B kD) (fun B=>absurd B kD)));exact d.ret [] (.tuple #[qS (sB cq) ((dt (n+1) e ((-1:Int):Rat)).length) (n+1),iV 0]) (⟨(dt (n+1) e ((-1:Int):Rat)),_,_,by rw[I],d.f.1,fun _=>rfl⟩)
theorem Bu (p:Z9)(j y:Nat)(l:Z9)(u x:Nat)(n:Nat)(hn:n<=12)(bm:Nat)(op z:Int)(q:Rat)(s:ByteArray)(A:Z9)(kn c:Nat)(i:List Rat)(D:Z9)(H:Nat)(J:i.length=n+1)(Wa:Nat)(L:SzR Wa i)(hwa:Wa<=1500000)(e:List Rat)(F:Z9)(cb:Nat)(I:e.length=n+1)(Q:Nat)(C:SzR Q e)(hwb:Q<=1500000)(hop:3<=op/\op<=6\/12<=op/\op<=13)(hw4:Wa<=400000)(hw5:Q<=400000)(w:World)(h:Hp)(g:G w h)(hSa:Sq D i h)(hSb:Sq F e h)(tb:Tab h):CR 77 #[.agg #[.iface 101 (.agg #[.slice p j y,.slice l u x,nV n]),.map (some bm),.bool true],bU ⟨op,z,q,s,A,kn,c⟩,.slice D i.length H,.slice F e.length cb] w h (fun v h1=>∃ (L_:List Rat)(A_:Z9)(c_:Nat),v=.tuple #[.slice A_ L_.length c_,iV (dN op z (i.getD 0 0) (e.getD 0 0))]/\Sq A_ L_ h1/\(dN op z (i.getD 0 0) (e.getD 0 0)=0->L_=gR op z (n+1) i e)):=by
 have a:=((((sS g).aS hSa).aS hSb).add (K:=fun d=>Tab d) tb);refine go Tryz.func77 [(0,.agg #[.iface 101 (.agg #[qS p j y,qS l u x,nV n]),.map (some bm),qT]),(1,bU ⟨op,z,q,s,A,kn,c⟩),(2,qS D i.length H),(3,qS F e.length cb)] rfl (aD (lA 4 105 ([.iface 101 (.agg #[qS p j y,qS l u x,nV n]),.map (some bm),qT]) a (fun V w2 h3 a=>lA 5 52 (dh ⟨op,z,q,s,A,kn,c⟩) a (fun b4 w5 h6 a=>lL a ax (ah (aa a [.v (pB b4),.o (iV op) 0 0 1] (aZ (aD ?_))))))));cases M:((op:Int) == (3:Int))
 .
  have bl:=aj M;refine lB 14 M (lL a ac (ag (aD ?_)));cases O:((op:Int) == (4:Int))
  .
   have br:=aj O;refine lB 21 O (lL a ac (ag (aD ?_)));cases S:((op:Int) == (5:Int))
   .
    have b0:=aj S;refine lB 32 S (lL a ac (ag (aD ?_)));cases za:((op:Int) == (6:Int))
    .
     have zg:=aj za;refine lB 39 za (lL a ac (ag (cK (cQ (cR 9 [] mixed a ar ?_)))));refine eV 0 57 (pB V) (eO 1 58 [(1,0,1)] (.iface 101 (.agg #[qS p j y,qS l u x,nV n])) a (eV 2 59 (qS D i.length H) (eV 4 61 (pB V) (eO 5 62 [(1,0,1)] (.iface 101 (.agg #[qS p j y,qS l u x,nV n])) a (eV 6 63 (qS F e.length cb) (au 3 60 a (fun _ _ a=>DW p j y l u x n hn i D H J _ _ a.g a.f.r.1) (fun _ _ a=>au 7 64 a (fun _ _ a=>DW p j y l u x n hn e F cb I _ _ a.g a.f.2.1) (fun _ _ a=>au 8 65 a (fun _ _ a=>Ki (i.getD 0 0) (e.getD 0 0) (LQ.mono (L.lq oM 0) oM) (LQ.mono (C.lq oM 0) oM) _ _ a.g) (fun _ _ a=>bS a (fun _ _ a=>tV 9 10 (iV (di (i.getD 0 0) (e.getD 0 0))) (tN (cQ (aa a ac ?_)))))))))))));cases zb:((di (i.getD 0 0) (e.getD 0 0):Int) == (0:Int))
     .
      have zi:=aj zb;refine lB 67 zb (ag (cK (cQ (aa a ac ?_))));cases zc:(decide ((0:Int)<(di (i.getD 0 0) (e.getD 0 0):Int)))
      .
       have zj:=oF zc;refine lB 70 zc (lL a [.v (pB b4),.o (iV op) 0 0 1] ?_);cases zd:((op:Int) == (12:Int))
       .
        have zk:=aj zd;refine lB 73 zd (lL a [.v qT] (ak (aa a cJ (lN (kX ?_)))));have B:dN op z (i.getD 0 0) (e.getD 0 0)=0:=((eZ oM).trans (eu (fun d=>absurd d oM) (fun d=>absurd d oM) (fun d=>absurd d oM) (fun _=>fun Z=>absurd (g9.2 Z) oM)));exact a.ret [] (.tuple #[qS D i.length H,iV 0]) (⟨i,_,_,by rw[B],a.f.r.1,fun _=>(tH (xY oM))⟩)
       have zk:=eq_of_beq zd;refine lB 73 zd (lL a [.v qF] (ag (cK (aa a cJ (lN (kX ?_))))));have B:dN op z (i.getD 0 0) (e.getD 0 0)=0:=((eZ oM).trans (eu (fun d=>absurd d oM) (fun d=>absurd d oM) (fun d=>absurd d oM) (fun _=>fun Z=>absurd (g9.2 Z) oM)));exact a.ret [] (.tuple #[qS F e.length cb,iV 0]) (⟨e,_,_,by rw[B],a.f.2.1,fun _=>(t6 (BH oM))⟩)
      have zj:=oT zc;refine lB 70 zc (lL a [.v (pB b4),.o (iV op) 0 0 1] ?_);cases ze:((op:Int) == (12:Int))
      .
       have zl:=aj ze;refine lB 73 ze (lL a [.v qF] (ag (cK (aa a cJ (lN (kX ?_))))));have B:dN op z (i.getD 0 0) (e.getD 0 0)=0:=((eZ oM).trans (eu (fun d=>absurd d oM) (fun d=>absurd d oM) (fun d=>absurd d oM) (fun _=>fun Z=>absurd (g9.2 Z) oM)));exact a.ret [] (.tuple #[qS F e.length cb,iV 0]) (⟨e,_,_,by rw[B],a.f.2.1,fun _=>(t6 (BH oM))⟩)
      have zl:=eq_of_beq ze;refine lB 73 ze (lL a [.v qT] (ak (aa a cJ (lN (kX ?_)))));have B:dN op z (i.getD 0 0) (e.getD 0 0)=0:=((eZ oM).trans (eu (fun d=>absurd d oM) (fun d=>absurd d oM) (fun d=>absurd d oM) (fun _=>fun Z=>absurd (g9.2 Z) oM)));exact a.ret [] (.tuple #[qS D i.length H,iV 0]) (⟨i,_,_,by rw[B],a.f.r.1,fun _=>(tH (xY oM))⟩)
     have zi:=eq_of_beq zb;refine lB 67 zb (ak (aa a cJ (lN (kX ?_))));have B:dN op z (i.getD 0 0) (e.getD 0 0)=7:=((eZ oM).trans (Fs (.inr ⟨by omega,g9.1 oM⟩)));exact a.ret [] (.tuple #[qS D i.length H,iV 7]) (⟨i,_,_,by rw[B],a.f.r.1,fun d=>absurd d (by rw[B];decide)⟩)
    have zg:=eq_of_beq za;refine lB 39 za (lL a ac (ak (cQ (aa a [.v (pB V),.o (.iface 101 (.agg #[qS p j y,qS l u x,nV n])) 1 0 1,.c] (aq 43 a (DW p j y l u x n hn e F cb I _ _ a.g a.f.2.1) (fun _ _ a=>aq 44 a (jy (e.getD 0 0) (LQ.mono (C.lq oM 0) oM) _ _ a.g) (fun _ _ a=>?_)))))));have b2:=li (e.getD 0 0).num;cases zf:(((e.getD 0 0).num.sign:Int) == (0:Int))
    .
     have zm:=aj zf;refine lB 45 zf (ag (cK (cQ (cR 10 [] mixed a ar ?_))));refine eV 0 47 (pB V) (eO 1 48 [(1,0,1)] (.iface 101 (.agg #[qS p j y,qS l u x,nV n])) a (eV 2 49 (qS D i.length H) (eV 3 50 (pB V) (eO 4 51 [(1,0,1)] (.iface 101 (.agg #[qS p j y,qS l u x,nV n])) a (eV 5 52 (qS F e.length cb) (eV 7 54 (.iface 101 (.agg #[qS p j y,qS l u x,nV n])) (eV 8 55 (.iface 101 (.agg #[qS p j y,qS l u x,nV n])) (eC 6 53 a (fun _ _ a=>j7 p j y l u x n hn e F cb I Q C oM (ip oM) oM _ _ a.g a.f.2.1 a.f.1) ?_))))))));rintro _ _ _ _ _ a ⟨bt,rfl,bk⟩;replace a:=a.aS bk;refine eC 9 56 a (fun _ _ a=>nS p j y l u x n hn i D H J Wa L oM (bF (n+1) e) (sB bt) (n+1) (gd _ _) (2*Q+1) (C.inv (ip oM) (n+1)) oM oM _ _ a.g a.f.r.2.1 a.f.1 a.f.2.1) ?_;rintro _ _ _ _ _ a ⟨U,rfl,bf⟩;replace a:=a.aS bf;refine bS a (fun _ _ a=>tV 10 8 (qS (sB U) ((dj (n+1) i (bF (n+1) e)).length) (n+1)) (tV 11 9 (iV 0) (tN (kX ?_))));obtain rfl:op=6:=by omega
     have B:dN 6 z (i.getD 0 0) (e.getD 0 0)=0:=((eZ kD).trans (eu (fun _=>ip oM) (fun d=>absurd d kD) (fun d=>absurd d kD) (fun d=>absurd d kD)));exact a.ret [] (.tuple #[qS (sB U) ((dj (n+1) i (bF (n+1) e)).length) (n+1),iV 0]) (⟨(dj (n+1) i (bF (n+1) e)),_,_,by rw[B],a.f.1,fun _=>rfl⟩)
    have zm:=eq_of_beq zf;refine lB 45 zf (ak (aa a cJ (lN (kX ?_))));obtain rfl:op=6:=by omega
    have B:dN 6 z (i.getD 0 0) (e.getD 0 0)=6:=((eZ kD).trans (Fo (.inl ⟨rfl,Dk oM⟩)));exact a.ret [] (.tuple #[qS D i.length H,iV 6]) (⟨i,_,_,by rw[B],a.f.r.1,fun d=>absurd d (by rw[B];decide)⟩)
   have b0:=eq_of_beq S;refine lB 32 S (lL a ac (ak (aa a [.v (pB V),.o (.iface 101 (.agg #[qS p j y,qS l u x,nV n])) 1 0 1,.c,.c] (lC 37 a (nS p j y l u x n hn i D H J Wa L oM e F cb I Q C oM oM _ _ a.g a.f.r.1 a.f.2.1 a.f.1) ?_))));rintro _ _ _ a ⟨bn,rfl,X⟩;replace a:=a.aS X;refine lL a ax (lN (kX ?_));obtain rfl:op=5:=by omega
   have B:dN 5 z (i.getD 0 0) (e.getD 0 0)=0:=((eZ kD).trans (eu (fun d=>absurd d kD) (fun d=>absurd d kD) (fun d=>absurd d kD) (fun d=>absurd d kD)));exact a.ret [] (.tuple #[qS (sB bn) ((dj (n+1) i e).length) (n+1),iV 0]) (⟨(dj (n+1) i e),_,_,by rw[B],a.f.1,fun _=>rfl⟩)
  have br:=eq_of_beq O;refine lB 21 O (lL a ac (ak (cQ (cR 9 [] mixed a ar ?_))));refine eV 0 22 (pB V) (eO 1 23 [(1,0,1)] (.iface 101 (.agg #[qS p j y,qS l u x,nV n])) a (eV 2 24 (qS D i.length H) (eO 3 25 [(1,0,3)] (.agg #[.iface 101 (.agg #[qS p j y,qS l u x,nV n]),.map (some bm),qT]) a (eV 4 26 (qS F e.length cb) (eV 6 28 (.iface 101 (.agg #[qS p j y,qS l u x,nV n])) (eV 7 29 (.iface 101 (.agg #[qS p j y,qS l u x,nV n])) (eC 5 27 a (fun _ _ a=>ll p j y l u x n hn bm e F cb I Q C oM _ _ a.g a.f.2.1 a.f.1) ?_)))))));rintro _ _ _ _ _ a ⟨bq,rfl,Y⟩;replace a:=a.aS Y;refine eC 8 30 a (fun _ _ a=>td p j y l u x n hn i D H J Wa L oM (dt (n+1) e ((-1:Int):Rat)) (sB bq) (n+1) (fx _ _ _) Q (C.neg (n+1)) oM _ _ a.g a.f.r.2.1 a.f.1 a.f.2.1) ?_;rintro _ _ _ _ _ a ⟨W,rfl,bb⟩;replace a:=a.aS bb;refine bS a (fun _ _ a=>tV 9 8 (qS (sB W) ((cY (n+1) i (dt (n+1) e ((-1:Int):Rat))).length) (n+1)) (tV 10 9 (iV 0) (tN (kX ?_))));obtain rfl:op=4:=by omega
  have B:dN 4 z (i.getD 0 0) (e.getD 0 0)=0:=((eZ kD).trans (eu (fun d=>absurd d kD) (fun d=>absurd d kD) (fun d=>absurd d kD) (fun d=>absurd d kD)));exact a.ret [] (.tuple #[qS (sB W) ((cY (n+1) i (dt (n+1) e ((-1:Int):Rat))).length) (n+1),iV 0]) (⟨(cY (n+1) i (dt (n+1) e ((-1:Int):Rat))),_,_,by rw[B],a.f.1,fun _=>rfl⟩)
 have bl:=eq_of_beq M;refine lB 14 M (lL a ac (ak (aa a [.v (pB V),.o (.iface 101 (.agg #[qS p j y,qS l u x,nV n])) 1 0 1,.c,.c] (lC 19 a (td p j y l u x n hn i D H J Wa L oM e F cb I Q C oM _ _ a.g a.f.r.1 a.f.2.1 a.f.1) ?_))));rintro _ _ _ a ⟨bz,rfl,bd⟩;replace a:=a.aS bd;refine lL a ax (lN (kX ?_));obtain rfl:op=3:=by omega
 have B:dN 3 z (i.getD 0 0) (e.getD 0 0)=0:=((eZ kD).trans (eu (fun d=>absurd d kD) (fun d=>absurd d kD) (fun d=>absurd d kD) (fun d=>absurd d kD)));exact a.ret [] (.tuple #[qS (sB bz) ((cY (n+1) i e).length) (n+1),iV 0]) (⟨(cY (n+1) i e),_,_,by rw[B],a.f.1,fun _=>rfl⟩)
theorem AE (ok:ByteArray->Prop)(ix:ByteArray->Nat)(fs:List Rat)(j:Z9)(l:Nat)(J:fs.length<=1000)(e:Nat)(u:List MapEntry)(d:Nat)(n:Int)(q:Rat)(s:ByteArray)(A:Z9)(c:Nat)(ps:List PTm)(ks:List Tm)(y:ix s<fs.length)(x:∃ i,Instr.findNow .string (.string s) u 0=some (some (i,nV (ix s))))(w:World)(h:Hp)(g:G w h)(H:SlO 9 dh cC h A ps)(L:Sq j fs h)(hM:MapS h e u):CR 60 #[.agg #[.iface 127 (.agg #[.slice j fs.length l]),.map (some e),.bool false],bU ⟨2,n,q,s,A,ps.length,c⟩] w h (fun v h1=>∃ (B:Z9)(c_:Nat),v=.tuple #[wo (Hz ix fs (d+1) (.mk 2 n q s ks)).2.1 B (Hz ix fs (d+1) (.mk 2 n q s ks)).2.2.length c_,iV (Hz ix fs (d+1) (.mk 2 n q s ks)).1]/\Sq B (Hz ix fs (d+1) (.mk 2 n q s ks)).2.2 h1):=by
 have a:=((((sS g).aS H).aS L).add (K:=fun M=>MapS M e u) hM);refine go Tryz.func60 [(0,.agg #[.iface 127 (.agg #[qS j fs.length l]),.map (some e),qF]),(1,bU ⟨2,n,q,s,A,ps.length,c⟩)] rfl (aD (lA 2 131 ([.iface 127 (.agg #[qS j fs.length l]),.map (some e),qF]) a (fun z w2 S a=>lA 3 52 (dh ⟨2,n,q,s,A,ps.length,c⟩) a (fun C W Q a=>lA 4 80 ([qF,uV 0,eS,uV 0,eS,sZ]) a (fun V X U a=>lL a ac (aG (lA 6 80 ([qF,uV 0,eS,uV 0,eS,sZ]) a (fun O _ _ a=>ah (aa a [.v (pB C),.o (iV 2) 2 0 1] (aZ (aa a [.v qF,.c] (ag (aa a [.v qT,.c] (ak (aa a [.v (pB z),.o (.iface 127 (.agg #[qS j fs.length l])) 3 0 1,.v (qP z 1),.o (.map (some e)) 3 1 1,.v (qP C 7),.o (.string s) 2 7 1] (I6 28 96 9 3 (s) false (nV (ix s)) (true) a a.f.1 ?_ (hf:=(by obtain ⟨I,F⟩:=x;exact .inl ⟨I,F,rfl⟩))))))))))))))))));refine lC 29 a (HG j fs.length l J fs rfl (ix s) y _ _ a.g a.f.2.1) ?_;rintro _ _ _ a ⟨D,rfl,p⟩;replace a:=a.aS p;exact lP 1 0 (qZ (fs.getD (ix s) 0) (sB D) ((ma fs.length (ix s)).length) fs.length) a (fun _ a=>lL a ac (ae a [(1,0,6)] (.tuple #[qY (fs.getD (ix s) 0) (sB D) ((ma fs.length (ix s)).length) fs.length,iV 0]) (⟨_,_,rfl,a.f.1⟩)))
def Fi (s:ByteArray):Prop:=s=⟨#[120]⟩\/s=⟨#[121]⟩\/s=⟨#[122]⟩
theorem GP:∀ {k:Nat},k<3->Fi (cA.getD k ⟨#[]⟩)
 | 0,_=>.inl rfl
 | 1,_=>.inr (.inl rfl)
 | 2,_=>.inr (.inr rfl)
def KM:Nat->Tm->Prop
  | 0,_=>True
  | d+1,t=>-11<=t.n/\∀ i,i<t.ks.length->KM d (t.ks.getD i cZ)
def GrT (d:Nat)(t:Tm):Prop:=WfT1 Fi d t/\3*bI d t<=3^d/\KM d t
theorem GrT.num {d:Nat}{q:Rat}(h:LQ 1 q):GrT (d+1) (.mk 1 0 q ⟨#[]⟩ []) :=
 ⟨⟨rfl,fun h=>absurd rfl h,h,fun h=>absurd (show (1:Int)=2 from h) kD,fun _=>rfl,fun _=>rfl,by show (-12:Int)<=0;decide,by show (0:Int)<=12;decide,fun i hi=>absurd hi (NK i)⟩,by
  have:=Nat.two_pow_pos d;have:0<3^d:=Nat.pow_pos kD
  show 3*1<=3^(d+1)
  rw[HA];omega,by show (-11:Int)<=0;decide,fun i hi=>absurd hi (NK i)⟩
theorem GrT.name {d:Nat}{s:ByteArray}(h:Fi s):GrT (d+1) (.mk 2 0 0 s []) :=
 ⟨⟨rfl,fun _=>rfl,rL kD,fun _=>h,fun h=>absurd rfl h,fun _=>rfl,by show (-12:Int)<=0;decide,by show (0:Int)<=12;decide,fun i hi=>absurd hi (NK i)⟩,by
  have:0<3^d:=Nat.pow_pos kD
  show 3*1<=3^(d+1)
  rw[HA];omega,by show (-11:Int)<=0;decide,fun i hi=>absurd hi (NK i)⟩
theorem GrT.one {d:Nat}{op n:Int}{t:Tm}(x:GrT d t)(ha:gG op=1)(a:op≠8->n=0)(h1 : -3<=n)(c:n<=3):GrT (d+1) (.mk op n 0 ⟨#[]⟩ [t]):=by
 refine ⟨⟨ha,fun _=>rfl,rL kD,fun h=>?_,fun _=>rfl,a,by show (-12:Int)<=n;omega,by show n<=12;omega,fun i hi=>?_⟩,?_,by show -11<=n;omega,fun i hi=>by
  have:i=0:=by have:i<1:=hi;omega
  subst this;exact x.2.2⟩
 ·have h:op=2:=h
  rw[h] at ha;exact absurd ha kD
 ·have:i=0:=by have:i<1:=hi;omega
  subst this;exact x.1
 ·show 3*((if op=11 then 2 else if op=8 then bK n else 1)*(0+bI d t))<=3^(d+1)
  have hf:(if op=11 then 2 else if op=8 then bK n else 1)<=3:=by
   unfold bK
   repeat' split
   all_goals omega
  have:=Ma hf x.2.1;rw[HA,y9,Ob,Nat.mul_comm (3^d)];exact this
theorem GrT.two {d:Nat}{op:Int}{t u:Tm}(x:GrT d t)(y:GrT d u)(ha:gG op=2):GrT (d+1) (.mk op 0 0 ⟨#[]⟩ [t,u]):=by
 have c:op≠8:=fun h=>by rw[h] at ha;exact absurd ha kD
 have a:op≠11:=fun h=>by rw[h] at ha;exact absurd ha kD
 refine ⟨⟨ha,fun _=>rfl,rL kD,fun h=>?_,fun _=>rfl,fun _=>rfl,by show (-12:Int)<=0;decide,by show (0:Int)<=12;decide,fun i hi=>?_⟩,?_,by show (-11:Int)<=0;decide,fun i hi=>by
  have:i=0\/i=1:=by have:i<2:=hi;omega
  rcases this with rfl|rfl
  ·exact x.2.2
  ·exact y.2.2⟩
 ·have h:op=2:=h
  rw[h] at ha;exact absurd ha kD
 ·have:i=0\/i=1:=by have:i<2:=hi;omega
  rcases this with rfl|rfl
  ·exact x.1
  ·exact y.1
 ·show 3*((if op=11 then 2 else if op=8 then bK 0 else 1)*(0+bI d t+bI d u))<=3^(d+1)
  rw[if_neg a,if_neg c,HA];have:=x.2.1;have:=y.2.1
  omega
section
variable {d:Nat}{h:Hp}
theorem sH:RZ h (false,.slice none 0 0,.slice none 0 0) 0:=⟨false,⟨none,0,none,0,rfl,ea _,ea _,SlO.nil,SlO.nil⟩,fun _=>rfl⟩
theorem G2 {b:Bool}{a l:Z9}{e f c j:Nat}{q:Rat}(hz:RZ h (b,.slice a e f,.slice l c j) q):RmH (d+1) h ⟨1,0,b,a,e,f,l,c,j,⟨#[]⟩,none,0,0⟩ (.mk 1 0 q ⟨#[]⟩ []) :=
 ⟨rfl,rfl,hz,rfl,rfl,ea _,[],rfl,SlO.nil,fun i hi=>absurd hi (NK i)⟩
theorem Dp {s:ByteArray}:RmH (d+1) h ⟨2,0,false,none,0,0,none,0,0,s,none,0,0⟩ (.mk 2 0 0 s []) :=
 ⟨rfl,rfl,sH,rfl,rfl,ea _,[],rfl,SlO.nil,fun i hi=>absurd hi (NK i)⟩
theorem BP {op n:Int}{p:RTm}{t:Tm}{b:Nat}(x:RmH d h p t)(a:SlO 7 bE bT h (some ⟨b,0,none⟩) [p]):RmH (d+1) h ⟨op,n,false,none,0,0,none,0,0,⟨#[]⟩,some ⟨b,0,none⟩,1,1⟩ (.mk op n 0 ⟨#[]⟩ [t]) :=
 ⟨rfl,rfl,sH,rfl,rfl,ea _,[p],rfl,a,fun i hi=>by
  have:i=0:=by have:i<1:=hi;omega
  subst this;exact x⟩
theorem F4 {op:Int}{p q:RTm}{t u:Tm}{b:Nat}(x:RmH d h p t)(y:RmH d h q u)(a:SlO 7 bE bT h (some ⟨b,0,none⟩) [p,q]):RmH (d+1) h ⟨op,0,false,none,0,0,none,0,0,⟨#[]⟩,some ⟨b,0,none⟩,2,2⟩ (.mk op 0 0 ⟨#[]⟩ [t,u]) :=
 ⟨rfl,rfl,sH,rfl,rfl,ea _,[p,q],rfl,a,fun i hi=>by
  have:i=0\/i=1:=by have:i<2:=hi;omega
  rcases this with rfl|rfl
  ·exact x
  ·exact y⟩
end
theorem Rms.mono {d e:Nat}{h:Hp}{a:List RTm}{c:List Tm}(x:Rms d h a c)(u:d<=e):Rms e h a c:=⟨x.len,fun i hi=>(x.at_ i hi).mono u⟩
theorem Rms.set {d:Nat}{h:Hp}{a:List RTm}{c:List Tm}{r:RTm}{t:Tm}(x:Rms d h a c)(k:Nat)(y:RmH d h r t):Rms d h (a.set k r) (c.set k t):=by
 refine ⟨by simp[x.len],fun i hi=>?_⟩;rw[Md] at hi
 rw[LI,LI,Om,Om,x.len]
 by_cases e:k=i
 ·subst e
  rw[if_pos rfl,if_pos rfl,if_pos hi,if_pos hi];exact y
 ·rw[if_neg e,if_neg e,<-LI,<-LI];exact x.at_ i hi
def fT (s:ByteArray):Prop:=s.size<=1000
theorem DQ {s:ByteArray}(h:Fi s):fT s:=by
 rcases h with rfl|rfl|rfl<;>(unfold fT;decide)
theorem CD:fT ⟨#[]⟩:=by unfold fT;decide
def SpO (d:Nat)(h:Hp)(r:RTm)(t:Tm):Prop:=RmH (d+3) h r t/\SmT1 fT (d+3) t
theorem SpO.gw {d:Nat}{h a:Hp}{r:RTm}{t:Tm}(x:SpO d h r t)(u:Gw h a):SpO d a r t:=⟨x.1.gw u,x.2⟩
theorem fC {d:Nat}{t:Tm}(w:WfT1 Fi d t):SmT1 fT d t:=w.sm (sm:=fT) (fun _ h=>DQ h) CD
theorem vB {α:Type}{l:List α}{k i:Nat}{x d:α}(p:α->Prop)(h:∀ i,i<l.length->p (l.getD i d))(a:p x)(hi:i<(l.set k x).length):p ((l.set k x).getD i d):=by
 rw[Md] at hi
 rw[LI,Om]
 by_cases e:k=i
 ·subst e
  rw[if_pos rfl,if_pos hi];exact a
 ·rw[if_neg e,<-LI];exact h i hi
theorem rC {α:Type}{l:List α}{i:Nat}{x d:α}(p:α->Prop)(h:∀ i,i<l.length->p (l.getD i d))(a:p x)(hi:i<(l++[x]).length):p ((l++[x]).getD i d):=by
 rw[y5,List.length_singleton] at hi
 rw[eJ]
 by_cases e:i<l.length
 ·rw[if_pos e];exact h i e
 ·rw[if_neg e,if_pos oM];exact a
theorem im {d:Nat}{op n:Int}{q:Rat}{s:ByteArray}{ks:List Tm}(hk:ks.length<=3)(a : -1000<=op/\op<=1000)(hn : -1000<=n/\n<=1000)(e:LQ 1 q)(c:fT s)(f:∀ i,i<ks.length->SmT1 fT d (ks.getD i cZ)):SmT1 fT (d+1) (.mk op n q s ks):=⟨hk,a,hn,e,c,f⟩
theorem su {d:Nat}{n:Int}{t:Tm}(hn : -1000<=n/\n<=1000)(h:SmT1 fT d t):SmT1 fT (d+1) (.mk 8 n 0 ⟨#[]⟩ [t]) :=
 ⟨by show 1<=3;decide,by show (-1000:Int)<=8/\(8:Int)<=1000;decide,hn,rL kD,CD,fun i hi=>by
  have:i=0:=by have:i<1:=hi;omega
  subst this;exact h⟩
theorem IQ (e:Int):aN e 4=0\/aN e 4=1\/aN e 4=2\/aN e 4=3:=by have:=ct e 4 oM;omega
instance (s:ByteArray) (ns:List ByteArray):Decidable (s∈ns):=@List.instDecidableMemOfLawfulBEq ByteArray instBEqOfDecidableEq inferInstance s ns
def dZ:List ByteArray->ByteArray->Nat
  | [],_=>0
  | x::l,s=>if x=s then 0 else dZ l s+1
theorem o5:∀ {l:List ByteArray} {s:ByteArray} {j:Nat},(∀ i,i<j->¬l.getD i ⟨#[]⟩=s)->j<l.length->l.getD j ⟨#[]⟩=s->dZ l s=j
  | [],_,_,_,hj,_=>absurd hj (NK _)
  | x::l,s,0,_,_,h=>if_pos h
  | x::l,s,j+1,h,hj,e=>by
    have h0:¬x=s:=h 0 (Mx _);have:=o5 (l:=l) (s:=s) (j:=j) (fun i hi=>h (i+1) (On hi)) (Nat.lt_of_succ_lt_succ hj) e
    show (if x=s then 0 else dZ l s+1)=j+1
    rw[if_neg h0,this]
theorem oV:∀ {l:List ByteArray} {s:ByteArray},s∈l->dZ l s<l.length/\l.getD (dZ l s) ⟨#[]⟩=s
  | [],_,h=>absurd h List.not_mem_nil
  | x :: l,s,h=>by
    unfold dZ
    by_cases e:x=s
    . rw[if_pos e];exact ⟨Mx _,e⟩
    . rw[if_neg e]
      rcases gs.1 h with h1|h1
      . exact absurd h1.symm e
      . have:=oV h1
        exact ⟨On this.1,this.2⟩
def JX (ns:List ByteArray)(s:ByteArray):Int:=if s∈ns then (dZ ns s:Nat) else 0
theorem tF {ns:List ByteArray}{s:ByteArray}(h:s∈ns):JX ns s=(dZ ns s:Nat):=if_pos h
def sK:List ByteArray->Nat->List MapEntry
  | [],_=>[]
  | x::l,i=>⟨.string x,.int .i64 (i:Nat),i⟩::sK l (i+1)
theorem pf:∀ {l:List ByteArray} {i j:Nat} {e:MapEntry},(sK l i)[j]?=some e->∃ x,l[j]?=some x/\e=⟨.string x,.int .i64 ((i+j:Nat):Int),i+j⟩
  | [],_,_,_,h=>by cases h
  | x::l,i,0,e,h=>by injection h with h;exact ⟨x,rfl,h.symm⟩
  | x::l,i,j+1,e,h=>by
    obtain ⟨y,h1,a⟩:=pf (l:=l) (i:=i+1) (j:=j) h;exact ⟨y,h1,by rw[a,show i+1+j=i+(j+1) by omega]⟩
theorem uw:∀ {l:List ByteArray} {i j:Nat} {x:ByteArray},l[j]?=some x->(sK l i)[j]?=some ⟨.string x,.int .i64 ((i+j:Nat):Int),i+j⟩
  | [],_,_,_,h=>by cases h
  | y::l,i,0,x,h=>by injection h with h;subst h;rfl
  | y::l,i,j+1,x,h=>by
    have:=uw (l:=l) (i:=i+1) (j:=j) (x:=x) h;rw[show i+1+j=i+(j+1) by omega] at this
    exact this
theorem Ee {ns:List ByteArray}(hn:ns.Nodup){j:Nat}{s:ByteArray}(h:ns[j]?=some s):dZ ns s=j:=by
 obtain ⟨c,e⟩:=Mi.1 h;refine o5 (fun i hi a=>?_) c (by rw[LI,h];rfl);rw[LI,NG oM] at a
 have a:ns[i]'oM=s:=a;exact absurd ((List.getElem_inj hn).1 (a.trans e.symm)) oM
theorem Fe {ns:List ByteArray}(hn:ns.Nodup)(s:ByteArray):(∃ i,Instr.findNow .string (.string s) (sK ns 0) 0=some (some (i,.int .i64 (JX ns s)))/\decide (s∈ns)=true)\/(Instr.findNow .string (.string s) (sK ns 0) 0=some none/\decide (s∈ns)=false/\JX ns s=0):=by
 rcases MapKept.findNow_spec (d:=.string) (k:=.string s) (by simp[MapKept.IsKey]) (sK ns 0) 0 (fun x p=>by
  obtain ⟨j,l⟩:=Ol.1 p;obtain ⟨y,_,rfl⟩:=pf l
  simp[MapKept.IsKey]) with ⟨a,b⟩|⟨j,e,a,b,c⟩
 ·have f:s ∉ ns:=fun h=>by
   obtain ⟨j,l⟩:=Ol.1 h;exact b _ (Ol.2 ⟨j,uw l⟩) rfl
  exact .inr ⟨a,decide_eq_false f,if_neg f⟩
 ·obtain ⟨y,o,rfl⟩:=pf b
  injection c with c
  subst c;have f:y∈ns:=Ol.2 ⟨j,o⟩;refine .inl ⟨0+j,?_,decide_eq_true f⟩;rw[a,tF f,Ee hn o,y9]
structure LaidO (pl:ByteArray->Int) (d:Nat) (h:Hp) (rl:List RSt) (ss:List OSt) (l:List Stp):Prop where
  rs:RSs h rl ss
  mp:ss.map OSt.stp=l
  sm:Kx ss
section srt
open Go.RowKit Go.Maps Go.Sort Go.Shelf Go.WideShapes
def Tryz.keysZ_ren:Go.Shelf.Ren:=⟨fun|7=>75|10=>114|n=>n,fun|23=>147|26=>9|3=>4|28=>151|0=>0|27=>150|33=>95|4=>4|n=>n,fun|n=>n⟩
theorem Tryz.keysZ:Go.Proofs.SlLaysZ.n7 Tryz.prog Tryz.keysZ_ren:={
 mixed:=by kernel_rfl
 f7:=⟨Tryz.f75.name,by decide,Tryz.func75.trans (congrArg some kR)⟩
 f10:=⟨Tryz.f114.name,by decide,Tryz.func114.trans (congrArg some kR)⟩
 t0:=Tryz.underlying0
 a0:=Tryz.isAgg0
 z0:=Tryz.sizeOf0
 v0:=Tryz.zeroValue0
 t4:=Tryz.underlying4
 a4:=Tryz.isAgg4
 z4:=Tryz.sizeOf4
 v4:=Tryz.zeroValue4
 t23:=Tryz.underlying147
 a23:=Tryz.isAgg147
 z23:=Tryz.sizeOf147
 v23:=Tryz.zeroValue147
 t26:=Tryz.underlying9
 a26:=Tryz.isAgg9
 z26:=Tryz.sizeOf9
 v26:=Tryz.zeroValue9
 t27:=Tryz.underlying150
 a27:=Tryz.isAgg150
 z27:=Tryz.sizeOf150
 v27:=Tryz.zeroValue150
 t28:=Tryz.underlying151
 a28:=Tryz.isAgg151
 z28:=Tryz.sizeOf151
 v28:=Tryz.zeroValue151
 t33:=Tryz.underlying95
 a33:=Tryz.isAgg95
 z33:=Tryz.sizeOf95
 v33:=Tryz.zeroValue95 }
def Tryz.sortedZ_ren:Go.Shelf.Ren:=⟨fun|6=>74|8=>112|9=>113|11=>142|13=>144|12=>143|23=>173|24=>121|14=>164|15=>165|16=>166|17=>167|18=>168|19=>169|20=>170|21=>171|22=>172|25=>194|26=>195|27=>196|28=>197|29=>198|30=>199|31=>219|n=>n,fun|26=>9|28=>151|24=>34|0=>0|3=>3|37=>140|48=>139|50=>43|4=>4|40=>236|39=>235|45=>99|5=>5|9=>9|51=>260|55=>264|57=>278|58=>167|33=>95|n=>n,fun|n=>n⟩
theorem Tryz.sortedZ:Go.Proofs.SlLaysZ.n6 Tryz.prog Tryz.sortedZ_ren:={
 mixed:=by kernel_rfl
 f6:=⟨Tryz.f74.name,by decide,Tryz.func74.trans (congrArg some kR)⟩
 f8:=⟨Tryz.f112.name,by decide,Tryz.func112.trans (congrArg some kR)⟩
 f11:=⟨Tryz.f142.name,by decide,Tryz.func142.trans (congrArg some kR)⟩
 t0:=Tryz.underlying0
 a0:=Tryz.isAgg0
 z0:=Tryz.sizeOf0
 v0:=Tryz.zeroValue0
 t24:=Tryz.underlying34
 a24:=Tryz.isAgg34
 z24:=Tryz.sizeOf34
 v24:=Tryz.zeroValue34
 t26:=Tryz.underlying9
 a26:=Tryz.isAgg9
 z26:=Tryz.sizeOf9
 v26:=Tryz.zeroValue9
 t28:=Tryz.underlying151
 a28:=Tryz.isAgg151
 z28:=Tryz.sizeOf151
 v28:=Tryz.zeroValue151
 i26:=by kernel_rfl }
def Tryz.sortZ_ren:Go.Shelf.Ren:=⟨fun|6=>113|8=>144|9=>143|19=>173|20=>121|21=>164|22=>165|23=>166|24=>167|25=>168|26=>169|27=>170|28=>171|29=>172|36=>194|31=>195|32=>196|37=>197|38=>198|39=>199|41=>219|n=>n,fun|27=>34|29=>9|3=>3|32=>140|26=>34|0=>0|44=>139|46=>43|4=>4|36=>236|35=>235|41=>99|5=>5|9=>9|53=>260|57=>264|63=>278|64=>167|n=>n,fun|n=>n⟩
theorem Tryz.sortZ:Go.Proofs.SlLaysM.n6 Tryz.prog Tryz.sortZ_ren:={
 mixed:=by kernel_rfl
 f6:=⟨Tryz.f113.name,by decide,Tryz.func113.trans (congrArg some kR)⟩
 f8:=Tryz.func144.trans (congrArg some kR)
 f9:=⟨Tryz.f143.name,by decide,Tryz.func143.trans (congrArg some kR)⟩
 f19:=Tryz.func173.trans (congrArg some kR)
 f20:=Tryz.func121.trans (congrArg some kR)
 f21:=⟨Tryz.f164.name,by decide,Tryz.func164.trans (congrArg some kR)⟩
 f22:=⟨Tryz.f165.name,by decide,Tryz.func165.trans (congrArg some kR)⟩
 f23:=⟨Tryz.f166.name,by decide,Tryz.func166.trans (congrArg some kR)⟩
 f24:=⟨Tryz.f167.name,by decide,Tryz.func167.trans (congrArg some kR)⟩
 f25:=⟨Tryz.f168.name,by decide,Tryz.func168.trans (congrArg some kR)⟩
 f26:=⟨Tryz.f169.name,by decide,Tryz.func169.trans (congrArg some kR)⟩
 f27:=⟨Tryz.f170.name,by decide,Tryz.func170.trans (congrArg some kR)⟩
 f28:=⟨Tryz.f171.name,by decide,Tryz.func171.trans (congrArg some kR)⟩
 f29:=⟨Tryz.f172.name,by decide,Tryz.func172.trans (congrArg some kR)⟩
 f31:=Tryz.func195.trans (congrArg some kR)
 f32:=Tryz.func196.trans (congrArg some kR)
 f36:=⟨Tryz.f194.name,by decide,Tryz.func194.trans (congrArg some kR)⟩
 f37:=⟨Tryz.f197.name,by decide,Tryz.func197.trans (congrArg some kR)⟩
 f38:=⟨Tryz.f198.name,by decide,Tryz.func198.trans (congrArg some kR)⟩
 f39:=⟨Tryz.f199.name,by decide,Tryz.func199.trans (congrArg some kR)⟩
 f41:=⟨Tryz.f219.name,by decide,Tryz.func219.trans (congrArg some kR)⟩
 t0:=Tryz.underlying0
 a0:=Tryz.isAgg0
 z0:=Tryz.sizeOf0
 v0:=Tryz.zeroValue0
 t3:=Tryz.underlying3
 a3:=Tryz.isAgg3
 z3:=Tryz.sizeOf3
 v3:=Tryz.zeroValue3
 t4:=Tryz.underlying4
 a4:=Tryz.isAgg4
 z4:=Tryz.sizeOf4
 v4:=Tryz.zeroValue4
 t5:=Tryz.underlying5
 a5:=Tryz.isAgg5
 z5:=Tryz.sizeOf5
 v5:=Tryz.zeroValue5
 t9:=Tryz.underlying9
 a9:=Tryz.isAgg9
 z9:=Tryz.sizeOf9
 v9:=Tryz.zeroValue9
 t26:=Tryz.underlying34
 a26:=Tryz.isAgg34
 z26:=Tryz.sizeOf34
 v26:=Tryz.zeroValue34
 t27:=Tryz.underlying34
 a27:=Tryz.isAgg34
 z27:=Tryz.sizeOf34
 v27:=Tryz.zeroValue34
 t29:=Tryz.underlying9
 a29:=Tryz.isAgg9
 z29:=Tryz.sizeOf9
 v29:=Tryz.zeroValue9
 t32:=Tryz.underlying140
 a32:=Tryz.isAgg140
 z32:=Tryz.sizeOf140
 v32:=Tryz.zeroValue140
 t35:=Tryz.underlying235
 a35:=Tryz.isAgg235
 z35:=Tryz.sizeOf235
 v35:=Tryz.zeroValue235
 t36:=Tryz.underlying236
 a36:=Tryz.isAgg236
 z36:=Tryz.sizeOf236
 v36:=Tryz.zeroValue236
 t41:=Tryz.underlying99
 a41:=Tryz.isAgg99
 z41:=Tryz.sizeOf99
 v41:=Tryz.zeroValue99
 t44:=Tryz.underlying139
 a44:=Tryz.isAgg139
 z44:=Tryz.sizeOf139
 v44:=Tryz.zeroValue139
 t46:=Tryz.underlying43
 a46:=Tryz.isAgg43
 z46:=Tryz.sizeOf43
 v46:=Tryz.zeroValue43
 t53:=Tryz.underlying260
 a53:=Tryz.isAgg260
 z53:=Tryz.sizeOf260
 v53:=Tryz.zeroValue260
 t57:=Tryz.underlying264
 a57:=Tryz.isAgg264
 z57:=Tryz.sizeOf264
 v57:=Tryz.zeroValue264
 t63:=Tryz.underlying278
 a63:=Tryz.isAgg278
 z63:=Tryz.sizeOf278
 v63:=Tryz.zeroValue278
 t64:=Tryz.underlying167
 a64:=Tryz.isAgg167
 z64:=Tryz.sizeOf167
 v64:=Tryz.zeroValue167 }
theorem vK (m:Nat):AnyZ.SortsIn Tryz.prog Tryz.sortedZ_ren Fence.wide m :=
 ⟨fun e off a f W h c d=>callsIn_wide.2 (AnyM.slices_Sort_string Tryz.sortZ e off a f W h c d),fun p a W=>callsIn_wide.2 (AnyM.slices_Sort_string_none Tryz.sortZ p a W)⟩
theorem xf (a:Option Nat)(W:World):CallsIn Fence.wide 5 Tryz.prog 75 #[.map a] W fun e w'=>e=.returned (.func (.func 114) #[] #[.pointer (some ⟨W.heap.size,0,none⟩)])/\w'=W.alloc (.cells #[.map a] 147) :=
 AnyZ.keys_in Tryz.keysZ Fence.wide 5 trivial rfl a W
theorem sQ {H:Type}(b o:Nat)(f:DataW H)(R:Value->Option (DataW H × List MemPlace))(w:World)(c:w.ownsMap Tryz.prog 9 R b o f)(i:Maps.size f<=maxLen)(a:Maps.size f*16<=140737488355328) :
  CallsIn Fence.wide 5 Tryz.prog 74 #[.func (.func 114) #[] #[.pointer (some ⟨w.heap.size,0,none⟩)]] (w.alloc (.cells #[.map (some b)] 147)) fun e w'=>∃ (v:Value)(h:List (List UInt8)),e=.returned v/\h.Perm (strKeys f) /\
   w'.ownsRow (w.alloc (.cells #[.map (some b)] 147)).heap.size 9 1 v h.length ((h.mergeSort (fun x y=>decide (x<=y))).map encStr)/\(v=.slice none 0 0↔h=[])/\Below (w.alloc (.cells #[.map (some b)] 147)).heap.size (w.alloc (.cells #[.map (some b)] 147)) w':=by
 have l:=c.lt
 have j:SeqGives Fence.wide 2 Tryz.prog 114 #[.pointer (some ⟨w.heap.size,0,none⟩)] encStr (fun h=>h.Perm (strKeys f)) (Maps.size f) (w.alloc (.cells #[.map (some b)] 147)) :=
  AnyZ.keys_gives (ρ:=Tryz.keysZ_ren) { Tryz.keysZ with } Fence.wide _ trivial rfl oM w.heap.size b o f _ (by simp) (by simp) (by
   obtain ⟨C,d,u,p,B,z⟩:=c;exact ⟨C,d,(Below.heap_alloc _ _ b l).trans u,p,B,z⟩)
 exact AnyZ.sorted_in Tryz.sortedZ Fence.wide 5 trivial trivial trivial trivial rfl oM (vK _) (enters_of Tryz.func113 kR rfl) 114 #[.pointer (some ⟨w.heap.size,0,none⟩)] trivial (enters_of Tryz.func114 kR rfl) _ _ i a _ j
section
variable {P:Program}{k:TypeId}(hk:P.underlying k=some .string)
def RU (_:Value):Option (DataW Unit × List MemPlace):=some (.nil,[])
theorem xh (hk:P.underlying k=some .string){a:List ByteArray}(f:∀ s∈a,s.size<=maxLen){e:MapEntry}(d:e∈gp a):∃ s∈a,WideElems.rd P k RU e=some (.string s.data.toList,.nil)/\e.key=.string s:=by
 obtain ⟨j,s,h,rfl⟩:=pd d;have c:s∈a:=Ol.2 ⟨j,h⟩;refine ⟨s,c,?_,rfl⟩
 have h1:keyOf P k (.string s)=some (.string s.data.toList):=by
  have:=f s c
  simp[keyOf,hk,mapKey,this]
 unfold WideElems.rd
 rw[h1];rfl
theorem qO {c:List ByteArray}(hn:c.Nodup):MapKept.Stamped (gp c).toArray c.length:=by
 refine ⟨fun x f=>?_,?_,?_⟩
 ·obtain ⟨j,s,l,rfl⟩:=pd (by simpa using f)
  exact (Mi.1 l).1
 ·have e:(gp c).map (·.born)=ov c.length:=by
   apply NC
   ·simp[gp]
   ·intro i h1 d;simp[gp]
  show ((gp c).map (·.born)).Nodup
  rw[e];exact List.nodup_range
 ·have e:(gp c).map (·.key)=c.map Value.string:=by
   apply NC
   ·simp[gp]
   ·intro i h1 d;simp[gp]
  show ((gp c).map (·.key)).Nodup
  rw[e];exact List.Pairwise.map _ (fun a b h e=>h (Value.string.inj e)) hn
theorem Ed (hk:P.underlying k=some .string){w:World}{b:Nat}{a:List ByteArray}(j:w.heap[b]?=some (.map (gp a).toArray a.length))(hn:a.Nodup)(f:∀ s∈a,s.size<=maxLen)(o:a.length<=1048576) :
  ∃ D:DataW Unit,w.ownsMap P k RU b a.length D/\(strKeys D).Perm (a.map fun s=>s.data.toList)/\Maps.size D<=1048576:=by
 have c:(gp a).length=a.length:=by simp[gp]
 refine ⟨.map (((gp a).map (WideElems.rg P k RU)).foldr DataW.insert []),⟨(gp a).toArray,a.length,j,⟨?_,qO hn,fun x z=>?_⟩,?_,rfl⟩,?_,?_⟩
 ·show (gp a).toArray.size<=maxLen
  rw[Oo,c];unfold maxLen;omega
 ·obtain ⟨s,_,h,_⟩:=xh (P:=P) hk f (by simpa using z)
  exact ⟨_,h⟩
 ·rw[Oo,c];exact ea _
 ·show ((((gp a).map (WideElems.rg P k RU)).foldr DataW.insert []).map fun p=>strOf p.1).Perm _
  refine ((sorted_perm _).map _).trans (List.Perm.of_eq ?_);rw[List.map_map]
  apply NC
  ·simp[c]
  ·intro i h1 B
   have hi:i<(gp a).length:=by simpa using h1
   obtain ⟨s,l,hr,d⟩:=xh (P:=P) hk f (e5 hi);obtain ⟨u,e,y⟩:=rp (NG hi);rw[um,um];rw[y] at d
   injection d with d
   subst d
   show strOf (((WideElems.rd P k RU (gp a)[i]).getD (.bool false,.nil)).1)=_
   rw[hr]
   show u.data.toList=_
   rw[NG oM] at e
   rw[Option.some.inj e]
 ·show Maps.size (.map _)<=_
  rw[Maps.size_eq,(sorted_perm _).length_eq,Od,c];exact o
end
theorem vZ {w w':World}{h:Hp}(g:G w h)(x:Ext w w'):∃ c,Up w h w' c/\∀ b,h.size<=b->c[b]?=w'.heap[b]?:=by
 have d:=x.size;have f:=g.size
 have key:∀ b,h.size<=b->(h++w'.heap.extract h.size w'.heap.size)[b]?=w'.heap[b]?:=fun b a=>by
  rw[Array.getElem?_append_right a,Array.getElem?_extract]
  by_cases hl:b<w'.heap.size
  ·rw[if_pos oM];congr 1;omega
  ·rw[if_neg oM,Array.getElem?_eq_none oM]
 refine ⟨h++w'.heap.extract h.size w'.heap.size,⟨x,⟨by simp,fun b a=>tf a⟩,⟨by simp;omega,fun b=>?_⟩⟩,key⟩
 rcases Nat.lt_or_ge b h.size with a|a
 ·rw[tf a]
  have e:=Below.block x b oM
  rcases g.blk b with h1|h1
  ·exact .inl (h1.trans e.symm)
  ·exact .inr h1
 ·exact .inl (key b a)
theorem G5 (ok:ByteArray->Prop)(U:∀ s,ok s->s.size<=1000)(d:Nat)(hd:d<=20)(p:PTm)(t:Tm)(w:World)(h:Hp)(g:G w h)(hT:TmH d h p t)(hW:WfT1 ok d t):CR 42 #[bU p] w h (fun v h1=>∃ (A:Z9)(c:Nat)(C:List ByteArray),v=.slice A C.length c/\C.length<=c/\C.length<=1048576/\SlO 1 bB ⟨#[]⟩ h1 A C/\∀ x,x∈C↔fQ d t x):=by
 refine (callsIn_wide (n:=6)).1 (callsIn_of_wp Tryz.func42 rfl trivial ?_ rfl)
 simp only[Tryz.ntmps42,Oo,tv,NN,Nat.reduceAdd,Nat.reduceSub,Array.replicate_succ,Array.replicate_zero,List.push_toArray,List.append_toArray,List.nil_append,Ll]
 unfold bU
 have hfK:Fence.wide.fn 73:=trivial;have hf2:Fence.wide.fn 75:=trivial;have hf3:Fence.wide.fn 74:=trivial
 have Q:∀ o:Obj,G ((w.alloc o).alloc (.map #[] 0)) ((h.push bg).push bg)/\MapK ((w.alloc o).alloc (.map #[] 0)) ((h.push bg).push bg) (w.heap.size+1) []/\TmH d ((h.push bg).push bg) p t:=fun o=>by
  have u1:Up w h (w.alloc o) (h.push bg):=Up.allocAny g o bg (.inr rfl);have u2:Up (w.alloc o) (h.push bg) ((w.alloc o).alloc (.map #[] 0)) ((h.push bg).push bg):=Up.allocAny u1.g _ _ (.inr rfl);refine ⟨u2.g,⟨?_,?_,List.nodup_nil⟩,(hT.gw u1.gr.gw).gw u2.gr.gw⟩
  ·rw[show w.heap.size+1=(h.push bg).size by rw[Array.size_push,g.size]];exact er
  ·rw[heap_alloc,show w.heap.size+1=(w.alloc o).heap.size by simp];exact er
 have hsz:∀ s,fQ d t s->s.size<=maxLen:=fun s hs=>by have:=U s (sE hW hs);unfold maxLen;omega
 have hcn:=rF hW;have hp2:2^d<=1048576:=eb (Lw oM hd) kD;have hmm:=@run_makeMap Tryz.prog
 gi_wp2
 gi_at_call 73
 generalize hW2:(w.alloc _).alloc (.map #[] 0)=W2
 have q:=Q (.cells #[iV p.op,iV p.n,.bool (af p.q.num),uV (lo (ab p.q.num)),.string (hi (ab p.q.num)),uV (lo (qd p.q)),.string (hi (qd p.q)),.string p.s,qS p.A p.m p.c] 52);rw[hW2] at q
 clear Q
 have cg:=(callsIn_wide (n:=5)).2 (tB ok d p t (w.heap.size+1) [] W2 _ q.1 q.2.2 hW q.2.1)
 unfold bU at cg
 refine cg.mono ?_
 clear cg
 rintro e w' ⟨v,h3,rfl,L,rfl,C,ho,hn,O,hl⟩;have F:∀ x,x∈C↔fQ d t x:=fun x=>by rw[O x];simp
 have K:C.length<=1048576:=by have:=(show C.length<=0+eP d t from hl);omega
 have bb:w.heap.size+2=W2.heap.size:=by rw[<-hW2];simp
 have j:Go.RowKit.Below w.heap.size w W2:=by rw[<-hW2];exact ((Below.refl _ w).alloc (nR _) _).alloc (by simp) _
 have M:Go.RowKit.Below w.heap.size w w':=⟨L.mo.os.trans j.os,L.mo.tape.trans j.tape,L.mo.output.trans j.output,eb j.size L.mo.size,fun c hc=>(L.mo.blk c oM (fun hm=>by rw[sA] at hm;omega)).trans (j.block c hc)⟩
 clear O hW2
 obtain ⟨D,hD1,H,hD3⟩:=Ed (P:=Tryz.prog) (k:=9) Tryz.underlying9 ho hn (fun s h_=>hsz s ((F s).1 h_)) K
 gi_wp2
 gi_at_call 75
 refine (xf _ _).mono ?_;rintro e w'' ⟨rfl,rfl⟩
 gi_wp2
 gi_at_call 74
 refine (sQ (w.heap.size+1) C.length D RU w' hD1 (by unfold maxLen;omega) oM).mono ?_;rintro e w3 ⟨v,B,rfl,J,Y,-,W⟩;have X:=M.size;have hb3:Ext w w3:=(M.alloc X _).trans (W.mono (by simp;omega));obtain ⟨h',u,key⟩:=vZ g hb3
 have I:∀ x:ByteArray,x∈((B.mergeSort fun x y=>decide (x<=y)).map fun z=>(⟨z.toArray⟩:ByteArray))↔fQ d t x:=fun x=>by
  rw[<-F x,gg]
  constructor
  ·rintro ⟨z,hz,rfl⟩
   have h1:=(J.trans H).mem_iff.1 ((Oq B _).mem_iff.1 hz);obtain ⟨s,hs,e⟩:=gg.1 h1;have:s=⟨z.toArray⟩:=by cases s;rename_i a;simp at e;subst e;rfl
   rw[<-this];exact hs
  ·intro hx
   refine ⟨x.data.toList,(Oq B _).mem_iff.2 ((J.trans H).mem_iff.2 (gg.2 ⟨x,hx,rfl⟩)),?_⟩;cases x;simp
 have S:((B.mergeSort fun x y=>decide (x<=y)).map fun z=>(⟨z.toArray⟩:ByteArray)).length=B.length:=by rw[Od,(Oq B _).length_eq]
 have hzs:B.length<=1048576:=by rw[(J.trans H).length_eq,Od];exact K
 gi_wp2
 go_ret
 generalize hzz:((B.mergeSort fun x y=>decide (x<=y)).map fun z=>(⟨z.toArray⟩:ByteArray))=zz at I S
 refine ⟨v,h',rfl,u,?_⟩
 rcases Y with ⟨-,⟨rfl,hz⟩|⟨gb,cap,cur,rfl,hbase,hgb,r1,-,-,r4⟩⟩
 ·have:zz=[]:=List.eq_nil_of_length_eq_zero oM
  subst this;refine ⟨none,0,[],rfl,nR _,by simp,SlO.nil,fun x=>I x⟩
 ·refine ⟨sB gb,cap,zz,by rw[S],by omega,by omega,SlO.of_flat (sz:=1) (f:=bB) (d:=⟨#[]⟩) (b:=gb) (o:=0) (fun _=>rfl) fun i v hv=>?_,I⟩
  have hf:zz.flatMap bB=(B.mergeSort fun x y=>decide (x<=y)).map encStr:=by
   rw[<-hzz]
   generalize (B.mergeSort fun x y=>decide (x<=y))=q
   induction q with
   | nil=>rfl
   | cons a l ih=>rw[Ag,Ag,List.flatMap_cons,ih];rfl
  rw[hf,<-r4,Nat.mul_one] at hv
  have Z:cur.toList[i]?=some v:=by
   rw[List.getElem?_take] at hv
   split at hv
   ·exact hv
   ·cases hv
  have V:h.size<=gb:=by have:=g.size;simp at hbase;omega
  unfold dR
  rw[key gb V,hgb,y9]
  show cur[i]?=some v
  rw[<-Array.getElem?_toList];exact Z
end srt
def iX (c:Nat):Prop:=(97<=c/\c<=122)\/(65<=c/\c<=90)
def pA (c:Nat):Prop:=((97<=c/\c<=122)\/(65<=c/\c<=90))\/(48<=c/\c<=57)\/c=95
instance (c:Nat):Decidable (iX c):=by unfold iX;infer_instance
instance (c:Nat):Decidable (pA c):=by unfold pA;infer_instance
def gt (s:ByteArray):Int:=if s=⟨#[97,98,115]⟩ then 9 else if s=⟨#[114,97,109,112]⟩ then 10 else if s=⟨#[98,101,110,100]⟩ then 11 else if s=⟨#[109,97,120]⟩ then 12 else if s=⟨#[109,105,110]⟩ then 13 else 0
def Cj (s:ByteArray):Int:=if gt s=0 then 0 else if gt s<=11 then 1 else 2
def em (s:ByteArray):Bool:=decide (gt s≠0)
def dq (s:ByteArray):Bool:=decide (1<=s.size/\s.size<=20/\iX (aU s 0)/\(∀ i,i<s.size->pA (aU s i))/\em s=false)
theorem n8 {s:ByteArray}(h:¬(1<=s.size/\s.size<=20/\iX (aU s 0))):Value.bool false=.bool (dq s):=congrArg Value.bool (decide_eq_false fun x=>h ⟨x.1,x.2.1,x.2.2.1⟩).symm
theorem Fq {s:ByteArray}{i:Nat}(h:i<s.size)(a:¬pA (aU s i)):Value.bool false=.bool (dq s):=congrArg Value.bool (decide_eq_false fun x=>a (x.2.2.2.1 i h)).symm
theorem C0 {s:ByteArray}(h1:1<=s.size/\s.size<=20)(a:iX (aU s 0))(c:∀ i,i<s.size->pA (aU s i)):dq s = !em s:=by
 unfold dq
 cases h:em s
 ·exact decide_eq_true ⟨h1.1,h1.2,a,c,rfl⟩
 ·exact decide_eq_false fun x=>by cases x.2.2.2.2
def jx:List MapEntry:=[⟨.string ⟨#[97,98,115]⟩,.int .i64 9,0⟩,⟨.string ⟨#[114,97,109,112]⟩,.int .i64 10,1⟩,⟨.string ⟨#[98,101,110,100]⟩,.int .i64 11,2⟩,⟨.string ⟨#[109,97,120]⟩,.int .i64 12,3⟩,⟨.string ⟨#[109,105,110]⟩,.int .i64 13,4⟩]
theorem s7 (s:ByteArray):(∃ i,Instr.findNow .string (.string s) jx 0=some (some (i,.int .i64 (gt s)))/\em s=true)\/(Instr.findNow .string (.string s) jx 0=some none/\em s=false/\gt s=0):=by
 by_cases h1:s=⟨#[97,98,115]⟩
 ·subst h1;exact .inl ⟨0,by kernel_rfl,by decide⟩
 by_cases h2:s=⟨#[114,97,109,112]⟩
 ·subst h2;exact .inl ⟨1,by kernel_rfl,by decide⟩
 by_cases h3:s=⟨#[98,101,110,100]⟩
 ·subst h3;exact .inl ⟨2,by kernel_rfl,by decide⟩
 by_cases h4:s=⟨#[109,97,120]⟩
 ·subst h4;exact .inl ⟨3,by kernel_rfl,by decide⟩
 by_cases h5:s=⟨#[109,105,110]⟩
 ·subst h5;exact .inl ⟨4,by kernel_rfl,by decide⟩
 have h:gt s=0:=by unfold gt;rw[if_neg h1,if_neg h2,if_neg h3,if_neg h4,if_neg h5]
 refine .inr ⟨?_,by unfold em;rw[h];rfl,h⟩
 rcases MapKept.findNow_spec (d:=.string) (k:=.string s) (by simp[MapKept.IsKey]) jx 0 (fun x f=>by
  simp only[jx,gs,List.not_mem_nil,or_false] at f
  rcases f with rfl|rfl|rfl|rfl|rfl<;>simp[MapKept.IsKey]) with ⟨a,_⟩|⟨j,e,a,b,c⟩
 ·exact a
 ·exfalso
  match j,b with
  | 0,b=>injection b with b;subst b;injection c with c;exact h1 c.symm
  | 1,b=>injection b with b;subst b;injection c with c;exact h2 c.symm
  | 2,b=>injection b with b;subst b;injection c with c;exact h3 c.symm
  | 3,b=>injection b with b;subst b;injection c with c;exact h4 c.symm
  | 4,b=>injection b with b;subst b;injection c with c;exact h5 c.symm
  | n+5,b=>cases b
theorem mI (c:Nat)(C:c<256)(w:World)(h:Hp)(g:G w h):CV 70 #[.int .u8 (c:Nat)] w h (.bool (decide (iX (c)))):=by
 have a:=sS g;refine go Tryz.func70 [(0,.int .u8 (c:Nat))] rfl (aa a ac (aG (lL a ac ?_)));cases f:(decide ((97:Int)<=(c:Int)))
 .
  have j:=oF f;refine lB 4 f (lL a ac (lG 6 ?_));refine lG 7 (lL a [.v qF,.c,.c] ?_);cases e:(decide ((65:Int)<=(c:Int)))
  .
   have l:=oF e;refine lB 11 e (lL a ac (lG 13 ?_));exact lG 14 (lL a [.v qF,.v qF,.c] (ae a [] qF (congrArg Value.bool (decide_eq_false (by unfold iX;omega)).symm)))
  have l:=oT e;refine lB 11 e (lL a ax ?_);cases i:(decide ((c:Int)<=(90:Int)))
  .
   have u:=oF i;exact lB 14 i (lL a [.v qF,.v qF,.c] (ae a [] qF (congrArg Value.bool (decide_eq_false (by unfold iX;omega)).symm)))
  have u:=oT i;exact lB 14 i (lL a [.v qT,.v qT,.c] (ae a [] qT (congrArg Value.bool (decide_eq_true (by unfold iX;omega)).symm)))
 have j:=oT f;refine lB 4 f (lL a ax ?_);cases d:(decide ((c:Int)<=(122:Int)))
 .
  have o:=oF d;refine lB 7 d (lL a [.v qF,.c,.c] ?_);have ⟨x,B⟩:=dT (p:=(65:Int)<=(c:Int)) oM;refine lB 11 x (lL a ax ?_);have ⟨y,z⟩:=dF (p:=(c:Int)<=(90:Int)) oM;exact lB 14 y (lL a [.v qF,.v qF,.c] (ae a [] qF (congrArg Value.bool (decide_eq_false (by unfold iX;omega)).symm)))
 have o:=oT d;refine lB 7 d (lL a [.v qT,.c] (lG 10 ?_));exact lG 11 (lG 12 (lG 13 (lG 14 (lG 15 (lL a [.v qT,.c] (ae a [] qT (congrArg Value.bool (decide_eq_true (by unfold iX;omega)).symm)))))))
theorem oI (c:Nat)(j:c<256)(w:World)(h:Hp)(g:G w h):CV 111 #[.int .u8 (c:Nat)] w h (.bool (decide (48<=(c)/\(c)<=57))):=by
 have a:=sS g;refine go Tryz.func111 [(0,.int .u8 (c:Nat))] rfl (aa a ac (aG (lL a ac ?_)));cases e:(decide ((48:Int)<=(c:Int)))
 .
  have f:=oF e;refine lB 4 e (lL a ac (lG 6 ?_));exact lG 7 (lL a [.v qF,.c] (ae a [] qF (congrArg Value.bool (decide_eq_false oM).symm)))
 have f:=oT e;refine lB 4 e (lL a ax ?_);cases d:(decide ((c:Int)<=(57:Int)))
 .
  have i:=oF d;exact lB 7 d (lL a [.v qF,.c] (ae a [] qF (congrArg Value.bool (decide_eq_false oM).symm)))
 have i:=oT d;exact lB 7 d (lL a [.v qT,.c] (ae a [] qT (congrArg Value.bool (decide_eq_true oM).symm)))
theorem pJ (c:Nat)(o:c<256)(w:World)(h:Hp)(g:G w h):CV 71 #[.int .u8 (c:Nat)] w h (.bool (decide (pA (c)))):=by
 have a:=sS g;refine go Tryz.func71 [(0,.int .u8 (c:Nat))] rfl (aa a ac (aG (lL a ac (aq 4 a (mI c o _ _ a.g) (fun w1 x a=>?_)))));cases l:(decide (iX (c)))
 .
  have i:=oF l;refine lL a ax (aq 7 a (oI c o _ _ a.g) (fun p u a=>?_));cases f:(decide (48<=(c)/\(c)<=57))
  .
   have e:=oF f;refine lL a [.v qF,.c,.c] ?_;cases d:((c:Int) == (95:Int))
   .
    have j:=aj d;exact lB 11 d (lL a [.v qF,.c] (ae a [] qF (congrArg Value.bool (decide_eq_false (by unfold iX at *;unfold pA;omega)).symm)))
   have j:=eq_of_beq d;exact lB 11 d (lL a [.v qT,.c] (ae a [] qT (congrArg Value.bool (decide_eq_true (by unfold iX at *;unfold pA;omega)).symm)))
  have e:=oT f;refine lL a [.v qT,.c] (lG 10 ?_);exact lG 11 (lL a [.v qT,.c] (ae a [] qT (congrArg Value.bool (decide_eq_true (by unfold iX at *;unfold pA;omega)).symm)))
 have i:=oT l;refine lL a ac (lG 6 ?_);refine lG 7 (lL a [.v qT,.c] (lG 10 ?_));exact lG 11 (lL a [.v qT,.c] (ae a [] qT (congrArg Value.bool (decide_eq_true (by unfold iX at *;unfold pA;omega)).symm)))
theorem ux  (w:World)(h:Hp)(g:G w h):CR 72 #[] w h (fun v h1=>∃ b,v=.map (some b)/\MapS h1 b jx):=by
 have a:=sS g;refine go Tryz.func72 [] rfl (aa a ac (aG (HX 1 a (fun p w2 x a i=>pD 96 9 3 (⟨#[97,98,115]⟩) (iV 9) a i (fun z a o=>pD 96 9 3 (⟨#[114,97,109,112]⟩) (iV 10) a o (fun y a j=>pD 96 9 3 (⟨#[98,101,110,100]⟩) (iV 11) a j (fun B a c=>pD 96 9 3 (⟨#[109,97,120]⟩) (iV 12) a c (fun _ a e=>pD 96 9 3 (⟨#[109,105,110]⟩) (iV 13) a e (fun _ a d=>lL a ac ?_)))))))));obtain ⟨_,a,l⟩:=a.pubMap d;replace a:=a.to [] [];replace a:=a.add (K:=fun u=>MapS u p [⟨.string (⟨#[97,98,115]⟩),iV 9,0⟩,⟨.string (⟨#[114,97,109,112]⟩),iV 10,1⟩,⟨.string (⟨#[98,101,110,100]⟩),iV 11,2⟩,⟨.string (⟨#[109,97,120]⟩),iV 12,3⟩,⟨.string (⟨#[109,105,110]⟩),iV 13,4⟩]) l;exact lL a ac (ae a [] (.map (some p)) (⟨_,rfl,a.f.1⟩))
theorem Gx (s:ByteArray)(a:s.size<=1000000)(w:World)(h:Hp)(g:G w h):CV 40 #[.string s] w h (.bool (dq s)):=by
 have a:=sS g;refine go Tryz.func40 [(0,.string s)] rfl (aa a ac (ah (aa a [.c,.v (nV s.size)] ?_)));cases o:(decide ((s.size:Int)<(1:Int)))
 .
  have C:=oF o;refine lB 8 o (lL a [.c,.c,.v (nV s.size)] ?_);cases e:(decide ((20:Int)<(s.size:Int)))
  .
   have y:=oF e;refine lB 12 e (lL a [.v qF,.c,.c] (lV 16 (.int .u8 (aU s 0:Nat)) ?_ (hr:=dU (tx:=9) (x:=.tmp 15) (i:=.const (iV 0)) (k:=.i64) (s:=s) (n:=0) (j:=(0:Int)) kR kR kR kR oM oM _)));refine aq 17 a (mI ((aU s 0)) (cM _ _) _ _ a.g) (fun w3 V a=>?_);cases z:(decide (iX ((aU s 0))))
   .
    have D:=oF z;exact lL a [.v qT,.v qT] (ak (aa a ac (ae a [] qF (n8 (fun d=>by have F:=d.1;have B:=d.2.1;first|omega|exact absurd d.2.2 aM)))))
   have D:=oT z;refine lL a [.v qF,.v qF] (ag (cK (cQ (aa a [.c,.v (nV s.size),.c] (aZ ?_)))));refine bH _ (CG.loop (fun I Γ O=>∃ (k:Nat)(d:Hp),I=s.size-k/\Γ=[(0,.string s),(21,nV s.size),(22,nV k)]/\SS w h O d [] [] []/\k<=s.size/\(∀ i,i<k->pA (aU s i))) _ ⟨0,V,rfl,rfl,a.to _ _,Mv _,(fun i hi=>absurd hi (NK i))⟩ ?_);rintro _ _ w6 ⟨k,Y,W,rfl,a,hk,p⟩;refine aD ?_;cases l:(decide ((k:Int)<(s.size:Int)))
   .
    have H:=oF l;refine lB 23 l (ah (dC (CG.exit ?_)))
    show CG _ _ _ _ _ _ _ _
    refine aD (lC 32 a (ux _ _ a.g) ?_);rintro _ _ _ a ⟨Q,rfl,J⟩;replace a:=(a.add (K:=fun d=>MapS d Q jx) J);refine lL a ac (I6 34 96 9 3 (s) true (iV (gt s)) ((em s)) a a.f.1 ?_ (hf:=(by rcases s7 s with ⟨i_,e1_,e2_⟩|⟨e1_,e2_,e3_⟩;exact .inl ⟨i_,e1_,e2_⟩;exact .inr ⟨e1_,e2_,fun _=>by rw[e3_];kernel_rfl⟩)));refine lL a [.c,.v (iV (gt s)),.v (.bool (em s)),.c,.c] (aG (lL a ac ?_));cases L:(!(em s))
    .
     refine lB 38 L (lL a ac (lN (kX ?_)));have u:=C0 (s:=s) ⟨by omega,by omega⟩ aM (fun i hi=>p i oM);exact a.ret [] qF (congrArg Value.bool (by rw[u];exact (by assumption:(!em s)=false).symm))
    refine lB 38 L (lL a ac (lN (kX ?_)));have u:=C0 (s:=s) ⟨by omega,by omega⟩ aM (fun i hi=>p i oM);exact a.ret [] qT (congrArg Value.bool (by rw[u];exact (by assumption:(!em s)=true).symm))
   have H:=oT l;refine lB 23 l (ah (cn (cK (cQ (kZ (aa a ax (aG (lL a ax (lV 27 (.int .u8 (aU s k:Nat)) ?_ (hr:=dU (tx:=9) (x:=.tmp 25) (i:=.tmp 26) (k:=.i64) (s:=s) (n:=k) (j:=(k:Int)) kR kR kR kR oM oM _))))))))));refine aq 28 a (pJ ((aU s k)) (cM _ _) _ _ a.g) (fun _ X a=>?_);cases M:(decide (pA ((aU s k))))
   .
    have U:=oF M;exact lL a [.v qT] (ak (aa a ac (ae a [] qF (Fq (i:=k) oM aM))))
   have U:=oT M;refine lL a [.v qF] (ag (cK (kQ (bv 30 ((k:Nat)+1) (k+1) ?_))));refine lL a ac (lD ?_);intro Z S;refine ⟨_,_,?_,⟨k+1,X,rfl,rfl,a.to _ _,oM,(fun i hi=>by rcases NL.1 hi with d|rfl;exact p i d;assumption)⟩,S.to _ kR⟩
   omega
  have y:=oT e;refine lB 12 e (lL a [.v qT,.c] (lG 15 ?_));exact lG 16 (lG 17 (lG 18 (lL a [.v qT] (ak (aa a ac (ae a [] qF (n8 (fun d=>by have F:=d.1;have B:=d.2.1;first|omega|exact absurd d.2.2 aM))))))))
 have C:=oT o;refine lB 8 o (lL a ac (lG 10 ?_));refine lG 11 (lG 12 (lL a [.v qT,.c] (lG 15 ?_)));exact lG 16 (lG 17 (lG 18 (lL a [.v qT] (ak (aa a ac (ae a [] qF (n8 (fun d=>by have F:=d.1;have B:=d.2.1;first|omega|exact absurd d.2.2 aM))))))))
theorem qH (c:Nat)(C:c<256)(w:World)(h:Hp)(g:G w h):CV 89 #[.int .u8 (c:Nat)] w h (.bool (decide (iX (c)))):=by
 have a:=sS g;refine go Tryz.func89 [(0,.int .u8 (c:Nat))] rfl (aa a ac (aG (lL a ac ?_)));cases f:(decide ((97:Int)<=(c:Int)))
 .
  have j:=oF f;refine lB 4 f (lL a ac (lG 6 ?_));refine lG 7 (lL a [.v qF,.c,.c] ?_);cases e:(decide ((65:Int)<=(c:Int)))
  .
   have l:=oF e;refine lB 11 e (lL a ac (lG 13 ?_));exact lG 14 (lL a [.v qF,.v qF,.c] (ae a [] qF (congrArg Value.bool (decide_eq_false (by unfold iX;omega)).symm)))
  have l:=oT e;refine lB 11 e (lL a ax ?_);cases i:(decide ((c:Int)<=(90:Int)))
  .
   have u:=oF i;exact lB 14 i (lL a [.v qF,.v qF,.c] (ae a [] qF (congrArg Value.bool (decide_eq_false (by unfold iX;omega)).symm)))
  have u:=oT i;exact lB 14 i (lL a [.v qT,.v qT,.c] (ae a [] qT (congrArg Value.bool (decide_eq_true (by unfold iX;omega)).symm)))
 have j:=oT f;refine lB 4 f (lL a ax ?_);cases d:(decide ((c:Int)<=(122:Int)))
 .
  have o:=oF d;refine lB 7 d (lL a [.v qF,.c,.c] ?_);have ⟨x,B⟩:=dT (p:=(65:Int)<=(c:Int)) oM;refine lB 11 x (lL a ax ?_);have ⟨y,z⟩:=dF (p:=(c:Int)<=(90:Int)) oM;exact lB 14 y (lL a [.v qF,.v qF,.c] (ae a [] qF (congrArg Value.bool (decide_eq_false (by unfold iX;omega)).symm)))
 have o:=oT d;refine lB 7 d (lL a [.v qT,.c] (lG 10 ?_));exact lG 11 (lG 12 (lG 13 (lG 14 (lG 15 (lL a [.v qT,.c] (ae a [] qT (congrArg Value.bool (decide_eq_true (by unfold iX;omega)).symm)))))))
theorem Em (c:Nat)(j:c<256)(w:World)(h:Hp)(g:G w h):CV 90 #[.int .u8 (c:Nat)] w h (.bool (decide (48<=(c)/\(c)<=57))):=by
 have a:=sS g;refine go Tryz.func90 [(0,.int .u8 (c:Nat))] rfl (aa a ac (aG (lL a ac ?_)));cases e:(decide ((48:Int)<=(c:Int)))
 .
  have f:=oF e;refine lB 4 e (lL a ac (lG 6 ?_));exact lG 7 (lL a [.v qF,.c] (ae a [] qF (congrArg Value.bool (decide_eq_false oM).symm)))
 have f:=oT e;refine lB 4 e (lL a ax ?_);cases d:(decide ((c:Int)<=(57:Int)))
 .
  have i:=oF d;exact lB 7 d (lL a [.v qF,.c] (ae a [] qF (congrArg Value.bool (decide_eq_false oM).symm)))
 have i:=oT d;exact lB 7 d (lL a [.v qT,.c] (ae a [] qT (congrArg Value.bool (decide_eq_true oM).symm)))
theorem Gd (s:ByteArray)(w:World)(h:Hp)(g:G w h):CV 91 #[.string s] w h (.tuple #[iV (gt s),iV (Cj s)]):=by
 have a:=sS g;refine go Tryz.func91 [(0,.string s)] rfl (aa a ax (ah (aa a ac (aZ (aD ?_)))));cases e:(kC s (⟨#[97,98,115]⟩))
 .
  have j:=ii e;refine lB 6 e (lL a ac (ag (aD ?_)));cases f:(kC s (⟨#[114,97,109,112]⟩))
  .
   have o:=ii f;refine lB 8 f (lL a ac (ag (aD ?_)));cases i:(kC s (⟨#[98,101,110,100]⟩))
   .
    have p:=ii i;refine lB 10 i (lL a ac (ag (aD ?_)));cases c:(kC s (⟨#[109,97,120]⟩))
    .
     have l:=ii c;refine lB 12 c (lL a ac (ag (aD ?_)));cases d:(kC s (⟨#[109,105,110]⟩))
     .
      have u:=ii d;refine lB 14 d (lL a ac (ag (cK (aa a ax (lN (kX ?_))))));have x:gt s=0:=by unfold gt;rw[if_neg (by assumption:¬s=⟨#[97,98,115]⟩),if_neg (by assumption:¬s=⟨#[114,97,109,112]⟩),if_neg (by assumption:¬s=⟨#[98,101,110,100]⟩),if_neg (by assumption:¬s=⟨#[109,97,120]⟩),if_neg (by assumption:¬s=⟨#[109,105,110]⟩)]
      exact a.ret [] (.tuple #[iV 0,iV 0]) (by unfold Cj;rw[x];rfl)
     have u:=g7 d;exact lB 14 d (lL a ac (ak (aa a ax (ae a [] (.tuple #[iV 13,iV 2]) (by rw[(by assumption:s=⟨#[109,105,110]⟩)];rfl)))))
    have l:=g7 c;exact lB 12 c (lL a ac (ak (aa a ax (ae a [] (.tuple #[iV 12,iV 2]) (by rw[(by assumption:s=⟨#[109,97,120]⟩)];rfl)))))
   have p:=g7 i;exact lB 10 i (lL a ac (ak (aa a ax (ae a [] (.tuple #[iV 11,iV 1]) (by rw[(by assumption:s=⟨#[98,101,110,100]⟩)];rfl)))))
  have o:=g7 f;exact lB 8 f (lL a ac (ak (aa a ax (ae a [] (.tuple #[iV 10,iV 1]) (by rw[(by assumption:s=⟨#[114,97,109,112]⟩)];rfl)))))
 have j:=g7 e;exact lB 6 e (lL a ac (ak (aa a ax (ae a [] (.tuple #[iV 9,iV 1]) (by rw[(by assumption:s=⟨#[97,98,115]⟩)];rfl)))))
theorem Ku (s:ByteArray)(a:s.size<=1000000)(w:World)(h:Hp)(g:G w h):CV 52 #[.string s] w h (.bool (dq s)):=by
 have a:=sS g;refine go Tryz.func52 [(0,.string s)] rfl (aa a ac (ah (aa a [.c,.v (nV s.size)] ?_)));cases o:(decide ((s.size:Int)<(1:Int)))
 .
  have B:=oF o;refine lB 8 o (lL a [.c,.c,.v (nV s.size)] ?_);cases f:(decide ((20:Int)<(s.size:Int)))
  .
   have u:=oF f;refine lB 12 f (lL a [.v qF,.c,.c] (lV 16 (.int .u8 (aU s 0:Nat)) ?_ (hr:=dU (tx:=9) (x:=.tmp 15) (i:=.const (iV 0)) (k:=.i64) (s:=s) (n:=0) (j:=(0:Int)) kR kR kR kR oM oM _)));refine aq 17 a (qH ((aU s 0)) (cM _ _) _ _ a.g) (fun w3 X a=>?_);cases y:(decide (iX ((aU s 0))))
   .
    have D:=oF y;exact lL a [.v qT,.v qT] (ak (aa a ac (ae a [] qF (n8 (fun d=>by have F:=d.1;have z:=d.2.1;first|omega|exact absurd d.2.2 aM)))))
   have D:=oT y;refine lL a [.v qF,.v qF] (ag (cK (cQ (aa a ac (aZ ?_)))));refine bH _ (CG.loop (fun K Γ S=>∃ (k:Nat)(d:Hp),K=s.size-k/\Γ=[(0,.string s),(3,nV k)]/\SS w h S d [] [] []/\k<=s.size/\(∀ i,i<k->pA (aU s i))) _ ⟨0,X,rfl,rfl,a.to _ _,Mv _,(fun i hi=>absurd hi (NK i))⟩ ?_);rintro _ _ w6 ⟨k,h7,Y,rfl,a,hk,e⟩;refine cQ (aa a [.c,.c,.v (nV s.size)] ?_);cases l:(decide ((k:Int)<(s.size:Int)))
   .
    have H:=oF l;refine lB 23 l (ag (CG.exit ?_))
    show CG _ _ _ _ _ _ _ _
    refine aa a ac (aq 46 a (Gd s _ _ a.g) (fun _ _ a=>lL a [.c,.v (iV (gt s)),.v (iV (Cj s)),.c,.c] (aG (lL a ac ?_))));cases I:(((gt s):Int) == (0:Int))
    .
     have Z:=aj I;refine lB 50 I (lL a ac (lN (kX ?_)));have p:=C0 (s:=s) ⟨by omega,by omega⟩ aM (fun i hi=>e i oM);exact a.ret [] qF (congrArg Value.bool (by rw[p];unfold em;simp only[ne_eq,decide_not,Ot];exact (decide_eq_false oM).symm))
    have Z:=eq_of_beq I;refine lB 50 I (lL a ac (lN (kX ?_)));have p:=C0 (s:=s) ⟨by omega,by omega⟩ aM (fun i hi=>e i oM);exact a.ret [] qT (congrArg Value.bool (by rw[p];unfold em;simp only[ne_eq,decide_not,Ot];exact (decide_eq_true oM).symm))
   have H:=oT l;refine lB 23 l (ak (cK (cQ (kZ (aa a ax (lV 28 (.int .u8 (aU s k:Nat)) ?_ (hr:=dU (tx:=9) (x:=.tmp 26) (i:=.tmp 27) (k:=.i64) (s:=s) (n:=k) (j:=(k:Int)) kR kR kR kR oM oM _)))))));refine aq 29 a (qH ((aU s k)) (cM _ _) _ _ a.g) (fun _ V a=>?_);cases L:(decide (iX ((aU s k))))
   .
    have W:=oF L;refine lL a [.v qT,.c,.c,.c] (lV 34 (.int .u8 (aU s k:Nat)) ?_ (hr:=dU (tx:=9) (x:=.tmp 32) (i:=.tmp 33) (k:=.i64) (s:=s) (n:=k) (j:=(k:Int)) kR kR kR kR oM oM _));refine aq 35 a (Em ((aU s k)) (cM _ _) _ _ a.g) (fun _ O a=>?_);cases Q:(decide (48<=((aU s k))/\((aU s k))<=57))
    .
     have zg:=oF Q;refine lL a [.v qT,.v qT,.c,.c,.c] (lV 41 (.int .u8 (aU s k:Nat)) ?_ (hr:=dU (tx:=9) (x:=.tmp 39) (i:=.tmp 40) (k:=.i64) (s:=s) (n:=k) (j:=(k:Int)) kR kR kR kR oM oM _));cases J:(((aU s k:Nat):Int) != (95:Int))
     .
      have U:=aW J;refine lB 42 J (lL a [.v qF] (ag (cK (kQ (lL a ac (bv 25 ((k:Nat)+1) (k+1) ?_))))));refine lL a ac (lD ?_);intro M C;refine ⟨_,_,?_,⟨k+1,O,rfl,rfl,a.to _ _,oM,(fun i hi=>by rcases NL.1 hi with d|rfl;exact e i d;unfold pA;unfold iX at *;omega)⟩,C.to _ kR⟩
      omega
     have U:=aK J;exact lB 42 J (lL a [.v qT] (ak (aa a ac (ae a [] qF (Fq (i:=k) oM (fun d=>by unfold pA at d;unfold iX at *;omega))))))
    have zg:=oT Q;refine lL a [.v qF,.v qF,.c] (lG 39 ?_);refine lG 40 (lG 41 (lG 42 (lL a [.v qF] (ag (cK (kQ (lL a ac (bv 25 ((k:Nat)+1) (k+1) ?_))))))));refine lL a ac (lD ?_);intro M C;refine ⟨_,_,?_,⟨k+1,O,rfl,rfl,a.to _ _,oM,(fun i hi=>by rcases NL.1 hi with d|rfl;exact e i d;unfold pA;unfold iX at *;omega)⟩,C.to _ kR⟩
    omega
   have W:=oT L;refine lL a [.v qF,.c] (lG 32 ?_);refine lG 33 (lG 34 (lG 35 (lG 36 (lL a [.v qF,.c] (lG 39 ?_)))));refine lG 40 (lG 41 (lG 42 (lL a [.v qF] (ag (cK (kQ (lL a ac (bv 25 ((k:Nat)+1) (k+1) ?_))))))));refine lL a ac (lD ?_);intro M C;refine ⟨_,_,?_,⟨k+1,V,rfl,rfl,a.to _ _,oM,(fun i hi=>by rcases NL.1 hi with d|rfl;exact e i d;unfold pA;unfold iX at *;omega)⟩,C.to _ kR⟩
   omega
  have u:=oT f;refine lB 12 f (lL a [.v qT,.c] (lG 15 ?_));exact lG 16 (lG 17 (lG 18 (lL a [.v qT] (ak (aa a ac (ae a [] qF (n8 (fun d=>by have F:=d.1;have z:=d.2.1;first|omega|exact absurd d.2.2 aM))))))))
 have B:=oT o;refine lB 8 o (lL a ac (lG 10 ?_));refine lG 11 (lG 12 (lL a [.v qT,.c] (lG 15 ?_)));exact lG 16 (lG 17 (lG 18 (lL a [.v qT] (ak (aa a ac (ae a [] qF (n8 (fun d=>by have F:=d.1;have z:=d.2.1;first|omega|exact absurd d.2.2 aM))))))))
theorem FE  (isb:ByteArray->Bool)(sm:ByteArray->Prop)(nF:∀ s,sm s->∀ (w:World) (h:Hp),G w h->Calls Tryz.prog 40 #[.string s] w (Ret w h (fun v _=>∃ b,v=.bool b/\b=isb s)))(d:Nat)(p:PTm)(t:Tm)(J:d<=24)(w:World)(h:Hp)(g:G w h)(u:TmH d h p t)(l:n3 sm d t):CR 39 #[bU p] w h (fun v _=>∃ e:Int,v=iV e/\((WfT (fun s=>isb s=true) d t/\e=(if 1000<bI d t then 18 else 0))\/(¬WfT (fun s=>isb s=true) d t/\e=2))):=by
 have a:=((sS g).add (K:=fun j=>TmH d j p t) u);refine go Tryz.func39 [(0,bU p)] rfl (aD (lA 1 52 (dh p) a (fun B w2 C a=>lL a ac (ah (aa a [.o (bU p) 0 0 9] (aq 4 a (uF sm d p t 24 _ _ a.g a.f.1 l oM oM) (fun H I a=>ag (cK (cQ (aa a [.o (bU p) 0 0 9] (lC 6 a (pS isb sm nF d p t _ _ a.g a.f.1 l) ?_)))))))))));rintro _ L D a ⟨z,rfl,c⟩;cases x:(z)
 .
  exact lL a [.v qT] (ak (aa a ac (ae a [] (iV 2) (⟨_,rfl,.inr ⟨fun j=>Bool.noConfusion ((c.2 j).symm.trans aM),rfl⟩⟩))))
 refine lL a [.v qF] (ag (cK (cQ (aa a [.o (bU p) 0 0 9] (aq 9 a (qA (fun s=>isb s=true) d p t _ _ a.g a.f.1 (c.1 aM)) (fun F _ a=>?_))))));cases i:(decide ((1000:Int)<(((min (bI d t) 1001:Nat):Int):Int)))
 .
  have y:=oF i;exact lB 10 i (ag (cK (aa a ac (ae a [] (iV 0) (⟨_,rfl,.inl ⟨c.1 aM,by split<;>omega⟩⟩)))))
 have y:=oT i;exact lB 10 i (ak (aa a ac (ae a [] (iV 18) (⟨_,rfl,.inl ⟨c.1 aM,by split<;>omega⟩⟩))))
theorem Jk (isb:ByteArray->Bool)(sm:ByteArray->Prop)(nF:∀ s,sm s->∀ (w:World) (h:Hp),G w h->Calls Tryz.prog 40 #[.string s] w (Ret w h (fun v _=>∃ b,v=.bool b/\b=isb s)))(c:∀ s,isb s=true->sm s)(h0:sm ⟨#[]⟩)(d:Nat)(p:PTm)(t:Tm)(x:d<=24)(w:World)(h:Hp)(g:G w h)(i:TmH d h p t)(f:WfT (fun s=>isb s=true) d t):Calls Tryz.prog 39 #[bU p] w (Ret w h (fun v _=>v=iV (if 1000<bI d t then 18 else 0))) :=
 (FE isb sm nF d p t x w h g i (f.sm c h0)).mono fun e w' ⟨v,j,l,u,y,o,a⟩=>⟨v,j,l,u,by
  rcases a with ⟨_,a⟩|⟨a,_⟩
  ·rw[o,a]
  ·exact absurd f a⟩
theorem Bc (A:Z9)(c:Nat)(w:World)(h:Hp)(g:G w h)(o:SlO 1 bB ⟨#[]⟩ h A ([⟨#[120]⟩,⟨#[121]⟩]:List ByteArray)):CR 41 #[.slice A 2 c] w h (fun v h1=>∃ b,v=.map (some b)/\MapS h1 b [⟨.string (⟨#[120]⟩),iV 0,0⟩,⟨.string (⟨#[121]⟩),iV 1,1⟩]):=by
 have a:=((sS g).aS o);have u:([⟨#[120]⟩,⟨#[121]⟩]:List ByteArray).length=2:=rfl;refine go Tryz.func41 [(0,qS A 2 c)] rfl (aa a ac (aG (HX 6 a (fun d w2 x a i=>lL a ac (ah (aa a [.c,.v (iV 2),.c] (aZ (cU ?_))))))));refine cN (aa a [.v qT] (ah (cn (cK (cQ (kZ (aa a ac (lX 12 A 2 c 1 0 0 ((a.f.1).ok oM) ?_))))))));refine lH 13 (.string (⟨#[120]⟩)) a ((a.f.1).el 0 oM) (lL a ax (lN (kQ (lL a cJ (pD 96 9 3 (⟨#[120]⟩) (iV 0) a i (fun B a l=>lN (kQ (lL a [.v (iV 1),.c] (lD (CL.to [(2,.map none),(3,.map (some d)),(7,qS A 2 c),(8,iV 2),(9,iV 1),(10,qT),(11,iV 0),(12,.pointer (some ⟨(aB A),aO A+0*1,none⟩)),(13,.string (⟨#[120]⟩)),(4,iV 0),(5,.string (⟨#[120]⟩)),(14,.map (some d)),(15,.string (⟨#[120]⟩)),(16,iV 0),(17,iV 1)] ?_))))))))));replace a:=a.to [] [];refine cN (aa a [.v qT] (ah (cn (cK (cQ (kZ (aa a ac (lX 12 A 2 c 1 1 1 ((a.f.1).ok oM) ?_))))))));refine lH 13 (.string (⟨#[121]⟩)) a ((a.f.1).el 1 oM) (lL a ax (lN (kQ (lL a cJ (pD 96 9 3 (⟨#[121]⟩) (iV 1) a l (fun z a j=>lN (kQ (lL a [.v (iV 2),.c] (lD (CL.to [(2,.map none),(3,.map (some d)),(7,qS A 2 c),(8,iV 2),(9,iV 2),(10,qT),(11,iV 1),(12,.pointer (some ⟨(aB A),aO A+1*1,none⟩)),(13,.string (⟨#[121]⟩)),(4,iV 1),(5,.string (⟨#[121]⟩)),(14,.map (some d)),(15,.string (⟨#[121]⟩)),(16,iV 1),(17,iV 2)] ?_))))))))));replace a:=a.to [] [];refine cN (aa a [.v qF] (ah (dC (CG.exit ?_))))
 show CG _ _ _ _ _ _ _ _
 refine aa a ac ?_;obtain ⟨y,a,e⟩:=a.pubMap j;replace a:=a.to [] [];replace a:=a.add (K:=fun p=>MapS p d [⟨.string (⟨#[120]⟩),iV 0,0⟩,⟨.string (⟨#[121]⟩),iV 1,1⟩]) e;exact lL a ac (ae a [] (.map (some d)) (⟨_,rfl,a.f.1⟩))
theorem Bf (A:Z9)(c:Nat)(w:World)(h:Hp)(g:G w h)(x:SlO 1 bB ⟨#[]⟩ h A ([⟨#[120]⟩,⟨#[121]⟩,⟨#[122]⟩,⟨#[120]⟩]:List ByteArray)):CR 41 #[.slice A 4 c] w h (fun v h1=>∃ b,v=.map (some b)/\MapS h1 b [⟨.string (⟨#[120]⟩),iV 3,0⟩,⟨.string (⟨#[121]⟩),iV 1,1⟩,⟨.string (⟨#[122]⟩),iV 2,2⟩]):=by
 have a:=((sS g).aS x);have z:([⟨#[120]⟩,⟨#[121]⟩,⟨#[122]⟩,⟨#[120]⟩]:List ByteArray).length=4:=rfl;refine go Tryz.func41 [(0,qS A 4 c)] rfl (aa a ac (aG (HX 6 a (fun d w2 B a l=>lL a ac (ah (aa a [.c,.v (iV 4),.c] (aZ (cU ?_))))))));refine cN (aa a [.v qT] (ah (cn (cK (cQ (kZ (aa a ac (lX 12 A 4 c 1 0 0 ((a.f.1).ok oM) ?_))))))));refine lH 13 (.string (⟨#[120]⟩)) a ((a.f.1).el 0 oM) (lL a ax (lN (kQ (lL a cJ (pD 96 9 3 (⟨#[120]⟩) (iV 0) a l (fun D a p=>lN (kQ (lL a [.v (iV 1),.c] (lD (CL.to [(2,.map none),(3,.map (some d)),(7,qS A 4 c),(8,iV 4),(9,iV 1),(10,qT),(11,iV 0),(12,.pointer (some ⟨(aB A),aO A+0*1,none⟩)),(13,.string (⟨#[120]⟩)),(4,iV 0),(5,.string (⟨#[120]⟩)),(14,.map (some d)),(15,.string (⟨#[120]⟩)),(16,iV 0),(17,iV 1)] ?_))))))))));replace a:=a.to [] [];refine cN (aa a [.v qT] (ah (cn (cK (cQ (kZ (aa a ac (lX 12 A 4 c 1 1 1 ((a.f.1).ok oM) ?_))))))));refine lH 13 (.string (⟨#[121]⟩)) a ((a.f.1).el 1 oM) (lL a ax (lN (kQ (lL a cJ (pD 96 9 3 (⟨#[121]⟩) (iV 1) a p (fun C a o=>lN (kQ (lL a [.v (iV 2),.c] (lD (CL.to [(2,.map none),(3,.map (some d)),(7,qS A 4 c),(8,iV 4),(9,iV 2),(10,qT),(11,iV 1),(12,.pointer (some ⟨(aB A),aO A+1*1,none⟩)),(13,.string (⟨#[121]⟩)),(4,iV 1),(5,.string (⟨#[121]⟩)),(14,.map (some d)),(15,.string (⟨#[121]⟩)),(16,iV 1),(17,iV 2)] ?_))))))))));replace a:=a.to [] [];refine cN (aa a [.v qT] (ah (cn (cK (cQ (kZ (aa a ac (lX 12 A 4 c 1 2 2 ((a.f.1).ok oM) ?_))))))));refine lH 13 (.string (⟨#[122]⟩)) a ((a.f.1).el 2 oM) (lL a ax (lN (kQ (lL a cJ (pD 96 9 3 (⟨#[122]⟩) (iV 2) a o (fun F a e=>lN (kQ (lL a [.v (iV 3),.c] (lD (CL.to [(2,.map none),(3,.map (some d)),(7,qS A 4 c),(8,iV 4),(9,iV 3),(10,qT),(11,iV 2),(12,.pointer (some ⟨(aB A),aO A+2*1,none⟩)),(13,.string (⟨#[122]⟩)),(4,iV 2),(5,.string (⟨#[122]⟩)),(14,.map (some d)),(15,.string (⟨#[122]⟩)),(16,iV 2),(17,iV 3)] ?_))))))))));replace a:=a.to [] [];refine cN (aa a [.v qT] (ah (cn (cK (cQ (kZ (aa a ac (lX 12 A 4 c 1 3 3 ((a.f.1).ok oM) ?_))))))));refine lH 13 (.string (⟨#[120]⟩)) a ((a.f.1).el 3 oM) (lL a ax (lN (kQ (lL a cJ (Lk (i:=0) 96 9 3 (⟨#[120]⟩) (iV 3) (iV 0) [⟨.string (⟨#[120]⟩),iV 3,0⟩,⟨.string (⟨#[121]⟩),iV 1,1⟩,⟨.string (⟨#[122]⟩),iV 2,2⟩] a e (fun _ a j=>lN (kQ (lL a [.v (iV 4),.c] (lD (CL.to [(2,.map none),(3,.map (some d)),(7,qS A 4 c),(8,iV 4),(9,iV 4),(10,qT),(11,iV 3),(12,.pointer (some ⟨(aB A),aO A+3*1,none⟩)),(13,.string (⟨#[120]⟩)),(4,iV 3),(5,.string (⟨#[120]⟩)),(14,.map (some d)),(15,.string (⟨#[120]⟩)),(16,iV 3),(17,iV 4)] ?_))))))))));replace a:=a.to [] [];refine cN (aa a [.v qF] (ah (dC (CG.exit ?_))))
 show CG _ _ _ _ _ _ _ _
 refine aa a ac ?_;obtain ⟨_,a,u⟩:=a.pubMap j;replace a:=a.to [] [];replace a:=a.add (K:=fun y=>MapS y d [⟨.string (⟨#[120]⟩),iV 3,0⟩,⟨.string (⟨#[121]⟩),iV 1,1⟩,⟨.string (⟨#[122]⟩),iV 2,2⟩]) u;exact lL a ac (ae a [] (.map (some d)) (⟨_,rfl,a.f.1⟩))
theorem wE (A:Z9)(c:Nat)(w:World)(h:Hp)(g:G w h)(u:SlO 1 bB ⟨#[]⟩ h A ([⟨#[122]⟩,⟨#[121]⟩,⟨#[120]⟩,⟨#[119]⟩]:List ByteArray)):CR 41 #[.slice A 4 c] w h (fun v h1=>∃ b,v=.map (some b)/\MapS h1 b [⟨.string (⟨#[122]⟩),iV 0,0⟩,⟨.string (⟨#[121]⟩),iV 1,1⟩,⟨.string (⟨#[120]⟩),iV 2,2⟩,⟨.string (⟨#[119]⟩),iV 3,3⟩]):=by
 have a:=((sS g).aS u);have y:([⟨#[122]⟩,⟨#[121]⟩,⟨#[120]⟩,⟨#[119]⟩]:List ByteArray).length=4:=rfl;refine go Tryz.func41 [(0,qS A 4 c)] rfl (aa a ac (aG (HX 6 a (fun d w2 z a j=>lL a ac (ah (aa a [.c,.v (iV 4),.c] (aZ (cU ?_))))))));refine cN (aa a [.v qT] (ah (cn (cK (cQ (kZ (aa a ac (lX 12 A 4 c 1 0 0 ((a.f.1).ok oM) ?_))))))));refine lH 13 (.string (⟨#[122]⟩)) a ((a.f.1).el 0 oM) (lL a ax (lN (kQ (lL a cJ (pD 96 9 3 (⟨#[122]⟩) (iV 0) a j (fun C a o=>lN (kQ (lL a [.v (iV 1),.c] (lD (CL.to [(2,.map none),(3,.map (some d)),(7,qS A 4 c),(8,iV 4),(9,iV 1),(10,qT),(11,iV 0),(12,.pointer (some ⟨(aB A),aO A+0*1,none⟩)),(13,.string (⟨#[122]⟩)),(4,iV 0),(5,.string (⟨#[122]⟩)),(14,.map (some d)),(15,.string (⟨#[122]⟩)),(16,iV 0),(17,iV 1)] ?_))))))))));replace a:=a.to [] [];refine cN (aa a [.v qT] (ah (cn (cK (cQ (kZ (aa a ac (lX 12 A 4 c 1 1 1 ((a.f.1).ok oM) ?_))))))));refine lH 13 (.string (⟨#[121]⟩)) a ((a.f.1).el 1 oM) (lL a ax (lN (kQ (lL a cJ (pD 96 9 3 (⟨#[121]⟩) (iV 1) a o (fun B a l=>lN (kQ (lL a [.v (iV 2),.c] (lD (CL.to [(2,.map none),(3,.map (some d)),(7,qS A 4 c),(8,iV 4),(9,iV 2),(10,qT),(11,iV 1),(12,.pointer (some ⟨(aB A),aO A+1*1,none⟩)),(13,.string (⟨#[121]⟩)),(4,iV 1),(5,.string (⟨#[121]⟩)),(14,.map (some d)),(15,.string (⟨#[121]⟩)),(16,iV 1),(17,iV 2)] ?_))))))))));replace a:=a.to [] [];refine cN (aa a [.v qT] (ah (cn (cK (cQ (kZ (aa a ac (lX 12 A 4 c 1 2 2 ((a.f.1).ok oM) ?_))))))));refine lH 13 (.string (⟨#[120]⟩)) a ((a.f.1).el 2 oM) (lL a ax (lN (kQ (lL a cJ (pD 96 9 3 (⟨#[120]⟩) (iV 2) a l (fun D a e=>lN (kQ (lL a [.v (iV 3),.c] (lD (CL.to [(2,.map none),(3,.map (some d)),(7,qS A 4 c),(8,iV 4),(9,iV 3),(10,qT),(11,iV 2),(12,.pointer (some ⟨(aB A),aO A+2*1,none⟩)),(13,.string (⟨#[120]⟩)),(4,iV 2),(5,.string (⟨#[120]⟩)),(14,.map (some d)),(15,.string (⟨#[120]⟩)),(16,iV 2),(17,iV 3)] ?_))))))))));replace a:=a.to [] [];refine cN (aa a [.v qT] (ah (cn (cK (cQ (kZ (aa a ac (lX 12 A 4 c 1 3 3 ((a.f.1).ok oM) ?_))))))));refine lH 13 (.string (⟨#[119]⟩)) a ((a.f.1).el 3 oM) (lL a ax (lN (kQ (lL a cJ (pD 96 9 3 (⟨#[119]⟩) (iV 3) a e (fun _ a i=>lN (kQ (lL a [.v (iV 4),.c] (lD (CL.to [(2,.map none),(3,.map (some d)),(7,qS A 4 c),(8,iV 4),(9,iV 4),(10,qT),(11,iV 3),(12,.pointer (some ⟨(aB A),aO A+3*1,none⟩)),(13,.string (⟨#[119]⟩)),(4,iV 3),(5,.string (⟨#[119]⟩)),(14,.map (some d)),(15,.string (⟨#[119]⟩)),(16,iV 3),(17,iV 4)] ?_))))))))));replace a:=a.to [] [];refine cN (aa a [.v qF] (ah (dC (CG.exit ?_))))
 show CG _ _ _ _ _ _ _ _
 refine aa a ac ?_;obtain ⟨_,a,p⟩:=a.pubMap i;replace a:=a.to [] [];replace a:=a.add (K:=fun x=>MapS x d [⟨.string (⟨#[122]⟩),iV 0,0⟩,⟨.string (⟨#[121]⟩),iV 1,1⟩,⟨.string (⟨#[120]⟩),iV 2,2⟩,⟨.string (⟨#[119]⟩),iV 3,3⟩]) p;exact lL a ac (ae a [] (.map (some d)) (⟨_,rfl,a.f.1⟩))
theorem Bd (A:Z9)(c:Nat)(w:World)(h:Hp)(g:G w h)(p:SlO 1 bB ⟨#[]⟩ h A cA):CR 41 #[.slice A 3 c] w h (fun v h1=>∃ b,v=.map (some b)/\MapS h1 b [⟨.string (⟨#[120]⟩),iV 0,0⟩,⟨.string (⟨#[121]⟩),iV 1,1⟩,⟨.string (⟨#[122]⟩),iV 2,2⟩]):=by
 have a:=((sS g).aS p);have x:cA.length=3:=rfl;refine go Tryz.func41 [(0,qS A 3 c)] rfl (aa a ac (aG (HX 6 a (fun d w2 y a j=>lL a ac (ah (aa a [.c,.v (iV 3),.c] (aZ (cU ?_))))))));refine cN (aa a [.v qT] (ah (cn (cK (cQ (kZ (aa a ac (lX 12 A 3 c 1 0 0 ((a.f.1).ok oM) ?_))))))));refine lH 13 (.string (⟨#[120]⟩)) a ((a.f.1).el 0 oM) (lL a ax (lN (kQ (lL a cJ (pD 96 9 3 (⟨#[120]⟩) (iV 0) a j (fun B a o=>lN (kQ (lL a [.v (iV 1),.c] (lD (CL.to [(2,.map none),(3,.map (some d)),(7,qS A 3 c),(8,iV 3),(9,iV 1),(10,qT),(11,iV 0),(12,.pointer (some ⟨(aB A),aO A+0*1,none⟩)),(13,.string (⟨#[120]⟩)),(4,iV 0),(5,.string (⟨#[120]⟩)),(14,.map (some d)),(15,.string (⟨#[120]⟩)),(16,iV 0),(17,iV 1)] ?_))))))))));replace a:=a.to [] [];refine cN (aa a [.v qT] (ah (cn (cK (cQ (kZ (aa a ac (lX 12 A 3 c 1 1 1 ((a.f.1).ok oM) ?_))))))));refine lH 13 (.string (⟨#[121]⟩)) a ((a.f.1).el 1 oM) (lL a ax (lN (kQ (lL a cJ (pD 96 9 3 (⟨#[121]⟩) (iV 1) a o (fun z a l=>lN (kQ (lL a [.v (iV 2),.c] (lD (CL.to [(2,.map none),(3,.map (some d)),(7,qS A 3 c),(8,iV 3),(9,iV 2),(10,qT),(11,iV 1),(12,.pointer (some ⟨(aB A),aO A+1*1,none⟩)),(13,.string (⟨#[121]⟩)),(4,iV 1),(5,.string (⟨#[121]⟩)),(14,.map (some d)),(15,.string (⟨#[121]⟩)),(16,iV 1),(17,iV 2)] ?_))))))))));replace a:=a.to [] [];refine cN (aa a [.v qT] (ah (cn (cK (cQ (kZ (aa a ac (lX 12 A 3 c 1 2 2 ((a.f.1).ok oM) ?_))))))));refine lH 13 (.string (⟨#[122]⟩)) a ((a.f.1).el 2 oM) (lL a ax (lN (kQ (lL a cJ (pD 96 9 3 (⟨#[122]⟩) (iV 2) a l (fun C a e=>lN (kQ (lL a [.v (iV 3),.c] (lD (CL.to [(2,.map none),(3,.map (some d)),(7,qS A 3 c),(8,iV 3),(9,iV 3),(10,qT),(11,iV 2),(12,.pointer (some ⟨(aB A),aO A+2*1,none⟩)),(13,.string (⟨#[122]⟩)),(4,iV 2),(5,.string (⟨#[122]⟩)),(14,.map (some d)),(15,.string (⟨#[122]⟩)),(16,iV 2),(17,iV 3)] ?_))))))))));replace a:=a.to [] [];refine cN (aa a [.v qF] (ah (dC (CG.exit ?_))))
 show CG _ _ _ _ _ _ _ _
 refine aa a ac ?_;obtain ⟨_,a,i⟩:=a.pubMap e;replace a:=a.to [] [];replace a:=a.add (K:=fun u=>MapS u d [⟨.string (⟨#[120]⟩),iV 0,0⟩,⟨.string (⟨#[121]⟩),iV 1,1⟩,⟨.string (⟨#[122]⟩),iV 2,2⟩]) i;exact lL a ac (ae a [] (.map (some d)) (⟨_,rfl,a.f.1⟩))
theorem xQ (A:Z9)(c:Nat)(w:World)(h:Hp)(g:G w h)(l:SlO 1 bB ⟨#[]⟩ h A ([⟨#[120]⟩]:List ByteArray)):CR 41 #[.slice A 1 c] w h (fun v h1=>∃ b,v=.map (some b)/\MapS h1 b [⟨.string (⟨#[120]⟩),iV 0,0⟩]):=by
 have a:=((sS g).aS l);have p:([⟨#[120]⟩]:List ByteArray).length=1:=rfl;refine go Tryz.func41 [(0,qS A 1 c)] rfl (aa a ac (aG (HX 6 a (fun i w2 u a d=>lL a ac (ah (aa a [.c,.v (iV 1),.c] (aZ (cU ?_))))))));refine cN (aa a [.v qT] (ah (cn (cK (cQ (kZ (aa a ac (lX 12 A 1 c 1 0 0 ((a.f.1).ok oM) ?_))))))));refine lH 13 (.string (⟨#[120]⟩)) a ((a.f.1).el 0 oM) (lL a ax (lN (kQ (lL a cJ (pD 96 9 3 (⟨#[120]⟩) (iV 0) a d (fun y a e=>lN (kQ (lL a [.v (iV 1),.c] (lD (CL.to [(2,.map none),(3,.map (some i)),(7,qS A 1 c),(8,iV 1),(9,iV 1),(10,qT),(11,iV 0),(12,.pointer (some ⟨(aB A),aO A+0*1,none⟩)),(13,.string (⟨#[120]⟩)),(4,iV 0),(5,.string (⟨#[120]⟩)),(14,.map (some i)),(15,.string (⟨#[120]⟩)),(16,iV 0),(17,iV 1)] ?_))))))))));replace a:=a.to [] [];refine cN (aa a [.v qF] (ah (dC (CG.exit ?_))))
 show CG _ _ _ _ _ _ _ _
 refine aa a ac ?_;obtain ⟨x,a,j⟩:=a.pubMap e;replace a:=a.to [] [];replace a:=a.add (K:=fun o=>MapS o i [⟨.string (⟨#[120]⟩),iV 0,0⟩]) j;exact lL a ac (ae a [] (.map (some i)) (⟨_,rfl,a.f.1⟩))
def qn (isb:ByteArray->Bool)(d:Nat)(t:Tm):Prop:=WfT1 (fun s=>isb s=true) d t/\bI d t<=1000
theorem Jt:∀ s,fT s->∀ (w:World) (h:Hp),G w h->Calls Tryz.prog 40 #[.string s] w (Ret w h (fun v _=>∃ b,v=.bool b/\b=dq s)):=fun s c w h g =>
 (Gx s (by unfold fT at c;omega) w h g).mono fun e w' ⟨v,d,a,u,f⟩=>⟨v,d,a,u,_,f,rfl⟩
theorem oY {s:ByteArray}(h:dq s=true):fT s:=by
 have:=oT h
 unfold fT;omega
theorem Db {b:Bool}(h:(!b)=false):b=true:=by cases b<;>first|rfl|cases h
theorem HV {b:Bool}(h:(!b)=true):b=false:=by cases b<;>first|rfl|cases h
theorem ww {l:List ByteArray}{k:Nat}(h:k<l.length):l.getD k ⟨#[]⟩∈l:=by
 rw[LI,NG h];exact e5 h
theorem uE {l:List ByteArray}{s:ByteArray}(h:s∈l):∃ i,i<l.length/\l.getD i ⟨#[]⟩=s:=by
 obtain ⟨i,hi,e⟩:=List.mem_iff_getElem.1 h;exact ⟨i,hi,by rw[LI,NG hi];exact e⟩
theorem oz {ok sm:ByteArray->Prop}:∀ {d:Nat} {t:Tm},SmT1 sm d t->WfT ok d t->WfT1 ok d t
 | _+1,_,⟨_,_,_,s4,_,s6⟩,⟨h1,h2,_,h4,h5,h6,h7,h8,h9⟩=>⟨h1,h2,s4,h4,h5,h6,h7,h8,fun i hi=>oz (s6 i hi) (h9 i hi)⟩
theorem xy {isb:ByteArray->Bool}{sm:ByteArray->Prop}{d:Nat}{t:Tm}{e:Int}(a:SmT1 sm d t)(h:(WfT (fun s=>isb s=true) d t/\e=(if 1000<bI d t then 18 else 0))\/(¬WfT (fun s=>isb s=true) d t/\e=2))(z:e=0):WfT1 (fun s=>isb s=true) d t/\bI d t<=1000:=by
 rcases h with ⟨h1,h2⟩|⟨h1,h2⟩
 ·refine ⟨oz a h1,?_⟩
  split at h2<;>omega
 ·omega
theorem IH {isb:ByteArray->Bool}{d:Nat}{t:Tm}{e:Int}(h:(WfT (fun s=>isb s=true) d t/\e=(if 1000<bI d t then 18 else 0))\/(¬WfT (fun s=>isb s=true) d t/\e=2))(z:qn isb d t):e=0:=by
 rcases h with ⟨h1,h2⟩|⟨h1,h2⟩
 ·rw[h2,if_neg (by have:=z.2;omega)]
 ·exact absurd z.1.wf h1
def NsD (ns:List ByteArray):Prop:=ns=([⟨#[120]⟩,⟨#[121]⟩]:List ByteArray)\/ns=([⟨#[120]⟩,⟨#[121]⟩,⟨#[122]⟩,⟨#[120]⟩]:List ByteArray)\/ns=([⟨#[109,97,120]⟩,⟨#[120]⟩,⟨#[121]⟩,⟨#[122]⟩]:List ByteArray)\/ns=([⟨#[122]⟩,⟨#[121]⟩,⟨#[120]⟩,⟨#[119]⟩]:List ByteArray)\/ns=cA\/ns=([⟨#[120]⟩]:List ByteArray)
theorem NsD.len {ns:List ByteArray}(h:NsD ns):ns.length<=4/\1<=ns.length:=by
 rcases h with rfl|rfl|rfl|rfl|rfl|rfl<;>decide
theorem NsD.small {ns:List ByteArray}(h:NsD ns):∀ i,i<ns.length->fT (ns.getD i ⟨#[]⟩):=by
 unfold fT
 rcases h with rfl|rfl|rfl|rfl|rfl|rfl<;>decide
def Be:List MapEntry:=[⟨.string ⟨#[120]⟩,.int .i64 3,0⟩,⟨.string ⟨#[121]⟩,.int .i64 1,1⟩,⟨.string ⟨#[122]⟩,.int .i64 2,2⟩]
def pr:List ByteArray:=([⟨#[120]⟩,⟨#[121]⟩,⟨#[122]⟩,⟨#[120]⟩]:List ByteArray)
def l9 (ns:List ByteArray):List MapEntry:=if ns=pr then Be else sK ns 0
def vN (ns:List ByteArray)(s:ByteArray):Int:=if ns=pr then (if s=⟨#[120]⟩ then 3 else if s=⟨#[121]⟩ then 1 else if s=⟨#[122]⟩ then 2 else 0) else JX ns s
theorem HL (s:ByteArray):(∃ i,Instr.findNow .string (.string s) Be 0=some (some (i,.int .i64 (vN pr s)))/\decide (s∈pr)=true)\/(Instr.findNow .string (.string s) Be 0=some none/\decide (s∈pr)=false/\vN pr s=0):=by
 by_cases h1:s=⟨#[120]⟩
 ·subst h1;exact .inl ⟨0,by kernel_rfl,by decide⟩
 by_cases h2:s=⟨#[121]⟩
 ·subst h2;exact .inl ⟨1,by kernel_rfl,by decide⟩
 by_cases h3:s=⟨#[122]⟩
 ·subst h3;exact .inl ⟨2,by kernel_rfl,by decide⟩
 refine .inr ⟨?_,decide_eq_false (fun h=>?_),by unfold vN;rw[if_pos rfl,if_neg h1,if_neg h2,if_neg h3]⟩
 ·rcases MapKept.findNow_spec (d:=.string) (k:=.string s) (by simp[MapKept.IsKey]) Be 0 (fun x f=>by
   simp only[Be,gs,List.not_mem_nil,or_false] at f
   rcases f with rfl|rfl|rfl<;>simp[MapKept.IsKey]) with ⟨a,_⟩|⟨j,e,a,b,c⟩
  ·exact a
  ·exfalso
   match j,b with
   | 0,b=>injection b with b;subst b;injection c with c;exact h1 c.symm
   | 1,b=>injection b with b;subst b;injection c with c;exact h2 c.symm
   | 2,b=>injection b with b;subst b;injection c with c;exact h3 c.symm
   | n+3,b=>cases b
 ·simp only[pr,gs,List.not_mem_nil,or_false] at h
  rcases h with h|h|h|h
  ·exact h1 h
  ·exact h2 h
  ·exact h3 h
  ·exact h1 h
theorem K8 {ns:List ByteArray}(a:NsD ns)(_:∀ i,i<ns.length->dq (ns.getD i ⟨#[]⟩)=true)(s:ByteArray):(∃ i,Instr.findNow .string (.string s) (l9 ns) 0=some (some (i,.int .i64 (vN ns s)))/\decide (s∈ns)=true)\/(Instr.findNow .string (.string s) (l9 ns) 0=some none/\decide (s∈ns)=false/\vN ns s=0):=by
 by_cases hd:ns=pr
 ·subst hd;unfold l9;rw[if_pos rfl];exact HL s
 ·unfold l9 vN;rw[if_neg hd,if_neg hd]
  refine Fe ?_ s
  rcases a with rfl|rfl|rfl|rfl|rfl|rfl
  ·decide
  ·exact absurd rfl hd
  ·decide
  ·decide
  ·decide
  ·decide
theorem BX {ns:List ByteArray}(a:NsD ns):ns.Nodup↔(l9 ns).length=ns.length:=by
 rcases a with rfl|rfl|rfl|rfl|rfl|rfl<;>decide
theorem na {ns:List ByteArray}(e:NsD ns)(a:∀ i,i<ns.length->dq (ns.getD i ⟨#[]⟩)=true)(A:Z9)(c:Nat)(w:World)(h:Hp)(g:G w h)(d:SlO 1 bB ⟨#[]⟩ h A ns):Calls Tryz.prog 41 #[.slice A ns.length c] w (Ret w h (fun v h1=>∃ b,v=.map (some b)/\MapS h1 b (l9 ns))):=by
 rcases e with rfl|rfl|rfl|rfl|rfl|rfl
 ·exact Bc A c w h g d
 ·exact Bf A c w h g d
 ·exact absurd (a 0 kD) kD
 ·exact wE A c w h g d
 ·exact Bd A c w h g d
 ·exact xQ A c w h g d
def DckR (d:Nat)(t:Tm)(ns:List ByteArray)(M:Prop)(e:Int):Prop :=
  (¬qn dq d t/\e=1)\/(qn dq d t/\((¬M/\e=5)\/(M/\((¬(∀ i,i<ns.length->dq (ns.getD i ⟨#[]⟩)=true)/\e=11)\/((∀ i,i<ns.length->dq (ns.getD i ⟨#[]⟩)=true)/\((¬(∀ s,fQ d t s->s∈ns)/\e=11)\/((∀ s,fQ d t s->s∈ns)/\((¬ns.Nodup/\e=8)\/(ns.Nodup/\e=0)))))))))
theorem DckR.uniq {d:Nat}{t:Tm}{ns:List ByteArray}{M:Prop}{e h:Int}(x:DckR d t ns M e)(y:DckR d t ns M h):e=h:=by
 rcases x with ⟨a,rfl⟩|⟨a,⟨b,rfl⟩|⟨b,⟨c,rfl⟩|⟨c,⟨f,rfl⟩|⟨f,⟨i,rfl⟩|⟨i,rfl⟩⟩⟩⟩⟩ <;>
 rcases y with ⟨a',rfl⟩|⟨a',⟨b',rfl⟩|⟨b',⟨c',rfl⟩|⟨c',⟨f',rfl⟩|⟨f',⟨i',rfl⟩|⟨i',rfl⟩⟩⟩⟩⟩ <;>
 first
 | rfl
 | exact absurd a' a
 | exact absurd a a'
 | exact absurd b' b
 | exact absurd b b'
 | exact absurd c' c
 | exact absurd c c'
 | exact absurd f' f
 | exact absurd f f'
 | exact absurd i' i
 | exact absurd i i'
theorem DckR.ok {d:Nat}{t:Tm}{ns:List ByteArray}{M:Prop}{e:Int}(x:DckR d t ns M e)(h:e=0):qn dq d t/\M/\(∀ i,i<ns.length->dq (ns.getD i ⟨#[]⟩)=true)/\(∀ s,fQ d t s->s∈ns)/\ns.Nodup:=by
 rcases x with ⟨a,rfl⟩|⟨a,⟨b,rfl⟩|⟨b,⟨c,rfl⟩|⟨c,⟨f,rfl⟩|⟨f,⟨i,rfl⟩|⟨i,rfl⟩⟩⟩⟩⟩
 ·cases h
 ·cases h
 ·cases h
 ·cases h
 ·cases h
 ·exact ⟨a,b,c,f,i⟩
theorem uu (d:Nat)(p:PTm)(t:Tm)(hd:d<=20)(D:Z9)(z:Nat)(ns:List ByteArray)(B:NsD ns)(U:Z9)(cu:Nat)(us:List Value)(V:List Nat)(bn:us.length<=10)(hus:∀ j,j<us.length->∃ A c,us.getD j undef=.slice A (V.getD j 0) c/\V.getD j 0<=1000000)(w:World)(h:Hp)(g:G w h)(hT:TmH d h p t)(hS:SmT1 fT d t)(hN:SlO 1 bB ⟨#[]⟩ h D ns)(hU:Sv U us h):CR 21 #[bU p,.slice D ns.length z,.slice U us.length cu] w h (fun v _=>∃ e:Int,v=iV e/\DckR d t ns (∀ j,j<us.length->V.getD j 0=ns.length) e):=by
 have a:=((((sS g).add (K:=fun l=>TmH d l p t) hT).aS hN).aS hU);have bf:=B.len;refine go Tryz.func21 [(0,bU p),(1,qS D ns.length z),(2,qS U us.length cu)] rfl (aD (lA 3 52 (dh p) a (fun Y w2 h3 a=>lL a ac (ah (aa a [.o (bU p) 0 0 9] (lC 17 a (FE dq fT Jt d p t oM _ _ a.g a.f.r.1 hS.sm) ?_))))));rintro _ w4 h5 a ⟨ec,rfl,M⟩;cases L:((ec:Int) != (0:Int))
 .
  have bb:=aW L;refine lB 18 L (ag (cK (cQ (aa a [.c,.v (nV us.length),.c] (aZ ?_)))));refine bH _ (CG.loop (fun H Γ Z=>∃ (u:Nat)(l:Hp),H=us.length-u/\Γ=[(1,qS D ns.length z),(3,pB Y),(19,qS U us.length cu),(20,nV us.length),(21,nV u)]/\SS w h Z l [⟨Y,52,dh p⟩] [] [Sv U us,fun l=>SlO 1 bB ⟨#[]⟩ l D ns,fun l=>TmH d l p t]/\u<=us.length/\(∀ i,i<u->V.getD i 0=ns.length)) _ ⟨0,h5,rfl,rfl,a.to _ _,Mv _,(fun i hi=>absurd hi (NK i))⟩ ?_);rintro _ _ w7 ⟨u,h8,hm9,rfl,a,hu,I⟩;refine aD ?_;cases za:(decide ((u:Int)<(us.length:Int)))
  .
   have zi:=oF za;refine lB 22 za (ah (dC (CG.exit ?_)))
   show CG _ _ _ _ _ _ _ _
   refine cQ (aa a [.c,.v (nV ns.length)] ?_);cases zb:(decide ((20:Int)<(ns.length:Int)))
   .
    have zj:=oF zb;refine lB 33 zb (ag (cK (cQ (aa a [.c,.v (nV ns.length),.c] (aZ ?_)))));refine bH _ (CG.loop (fun H Γ Z=>∃ (k:Nat)(l:Hp),H=ns.length-k/\Γ=[(1,qS D ns.length z),(3,pB Y),(34,qS D ns.length z),(35,nV ns.length),(36,nV k)]/\SS w h Z l [⟨Y,52,dh p⟩] [] [Sv U us,fun l=>SlO 1 bB ⟨#[]⟩ l D ns,fun l=>TmH d l p t]/\k<=ns.length/\(∀ i,i<k->dq (ns.getD i ⟨#[]⟩)=true)) _ ⟨0,h8,rfl,rfl,a.to _ _,Mv _,(fun i hi=>absurd hi (NK i))⟩ ?_);rintro _ _ _ ⟨k,_,bk,rfl,a,hk,hal⟩;refine aD ?_;cases zc:(decide ((k:Int)<(ns.length:Int)))
    .
     have zk:=oF zc;refine lB 37 zc (ah (dC (CG.exit ?_)))
     show CG _ _ _ _ _ _ _ _
     have y:∀ i,i<ns.length->dq (ns.getD i ⟨#[]⟩)=true:=fun i hi=>hal i oM
     refine aa a ac (lC 45 a (na B y D z _ _ a.g a.f.2.1) ?_);rintro _ _ _ a ⟨bm,rfl,hM⟩;replace a:=(a.add (K:=fun l=>MapS l bm (l9 ns)) hM);refine lL a ac (ah ?_);have C:=xy hS M oM;have W:=C.1;refine aa a [.o (bU p) 0 0 9] (lC 47 a (G5 (fun s=>dq s=true) (fun s_ l=>by have q_:=oY l;unfold fT at q_;omega) d hd p t _ _ a.g a.f.r.2.1 W) ?_);rintro _ _ zo a ⟨nA,nc,x,rfl,hnc,hnl,hnS,Q⟩;replace a:=a.aS hnS;refine lL a [.v (nV x.length),.c] (aZ ?_);refine bH _ (CG.loop (fun H Γ Z=>∃ (j:Nat)(l:Hp),H=x.length-j/\Γ=[(1,qS D ns.length z),(11,.map (some bm)),(47,qS nA x.length nc),(48,nV x.length),(49,nV j)]/\SS w h Z l [⟨Y,52,dh p⟩] [] [fun l=>SlO 1 bB ⟨#[]⟩ l nA x,fun l=>MapS l bm (l9 ns),Sv U us,fun l=>SlO 1 bB ⟨#[]⟩ l D ns,fun l=>TmH d l p t]/\j<=x.length/\(∀ i,i<j->x.getD i ⟨#[]⟩∈ns)) _ ⟨0,zo,rfl,rfl,a.to _ _,Mv _,(fun i hi=>absurd hi (NK i))⟩ ?_);rintro _ _ _ ⟨j,zp,bl,rfl,a,hj,O⟩;refine aD ?_;cases zd:(decide ((j:Int)<(x.length:Int)))
     .
      have zl:=oF zd;refine lB 50 zd (ah (dC (CG.exit ?_)))
      show CG _ _ _ _ _ _ _ _
      refine cQ ?_;have S:∀ s,fQ d t s->s∈ns:=fun s_ l=>by obtain ⟨F,J,e_⟩:=uE ((Q s_).2 l);rw[<-e_];exact O F oM
      refine aa a ac (K7 63 96 0 9 3 a a.f.2.1 ?_);refine lL a [.c,.v (nV ns.length)] ?_;cases ze:((((l9 ns).length:Nat):Int) != (ns.length:Int))
      .
       have zm:=aW ze;exact lB 66 ze (ag (cK (aa a ac (ae a [] (iV 0) (⟨_,rfl,.inr ⟨C,.inr ⟨(fun F J=>I F oM),.inr ⟨y,.inr ⟨S,.inr ⟨(BX B).2 oM,rfl⟩⟩⟩⟩⟩⟩)))))
      have zm:=aK ze;exact lB 66 ze (ak (aa a ac (ae a [] (iV 8) (⟨_,rfl,.inr ⟨C,.inr ⟨(fun F J=>I F oM),.inr ⟨y,.inr ⟨S,.inl ⟨fun l=>by have:=(BX B).1 l;omega,rfl⟩⟩⟩⟩⟩⟩))))
     have zl:=oT zd;refine lB 50 zd (ah (cn (cK (cQ (kZ (aD (lX 51 nA x.length nc 1 (j:Nat) j ((a.f.1).ok oM) ?_)))))));refine lH 52 (.string (x.getD j ⟨#[]⟩)) a ((a.f.1).el j oM) (lL a ac (aG (lL a ax (I6 56 96 9 3 (x.getD j ⟨#[]⟩) true (iV (vN ns (x.getD j ⟨#[]⟩))) ((decide (x.getD j ⟨#[]⟩∈ns))) a a.f.2.1 ?_ (hf:=(by rcases K8 B y (x.getD j ⟨#[]⟩) with ⟨F,e1_,e2_⟩|⟨e1_,e2_,e3_⟩;exact .inl ⟨F,e1_,e2_⟩;exact .inr ⟨e1_,e2_,fun _=>by rw[e3_];kernel_rfl⟩))))));refine lL a [.c,.v (iV (vN ns (x.getD j ⟨#[]⟩))),.v (.bool (decide (x.getD j ⟨#[]⟩∈ns))),.c,.c] (aG (lL a ac ?_));cases zg:(!(decide (x.getD j ⟨#[]⟩∈ns)))
     .
      refine lB 60 zg (ag (cK (kQ (bv 61 ((j:Nat)+1) (j+1) ?_))));refine lL a ac (lD ?_);intro a_ ka;refine ⟨_,_,?_,⟨j+1,zp,rfl,rfl,a.to _ _,oM,(fun i hi=>by rcases NL.1 hi with l|rfl;exact O i l;exact oT (by first|assumption|exact Db aM))⟩,ka.to _ kR⟩
      omega
     exact lB 60 zg (ak (aa a ac (ae a [] (iV 11) (⟨_,rfl,.inr ⟨C,.inr ⟨(fun F J=>I F oM),.inr ⟨y,.inl ⟨fun l=>oF (by first|assumption|exact HV aM) (l _ ((Q _).1 (ww oM))),rfl⟩⟩⟩⟩⟩))))
    have zk:=oT zc;refine lB 37 zc (ah (cn (cK (cQ (kZ (aD (lX 38 D ns.length z 1 (k:Nat) k ((a.f.2.1).ok oM) ?_)))))));refine lH 39 (.string (ns.getD k ⟨#[]⟩)) a ((a.f.2.1).el k oM) (lL a ac (aG (lL a ac (lC 41 a (Jt (ns.getD k ⟨#[]⟩) (B.small k oM) _ _ a.g) ?_))));rintro _ _ zq a ⟨bi,rfl,X⟩;cases bd:(bi)
    .
     exact lL a [.v qT] (ak (aa a ac (ae a [] (iV 11) (⟨_,rfl,.inr ⟨xy hS M oM,.inr ⟨(fun F J=>I F oM),.inl ⟨(fun l=>by have q_:=l k oM;rw[<-X] at q_;have q2_:bi=false:=aM;rw[q_] at q2_;cases q2_),rfl⟩⟩⟩⟩))))
    refine lL a [.v qF] (ag (cK (kQ (bv 43 ((k:Nat)+1) (k+1) ?_))));refine lL a ac (lD ?_);intro a_ ka;refine ⟨_,_,?_,⟨k+1,zq,rfl,rfl,a.to _ _,oM,(fun i hi=>by rcases NL.1 hi with l|rfl;exact hal i l;rw[<-X];first|assumption|exact Db aM)⟩,ka.to _ kR⟩
    omega
   have zj:=oT zb;refine lB 33 zb (ak (aa a ac (lN (kX ?_))))
   exfalso;have:=B.len;omega
  have zi:=oT za;refine lB 22 za (ah (cn (cK (cQ (kZ (aD (lX 23 U us.length cu 1 (u:Nat) u ((a.f.1).ok oM) ?_)))))));obtain ⟨Uj,uj,huj,hmj⟩:=hus u oM;refine HY 24 ((us.getD u undef)) a ((a.f.1).el u oM) huj (lL a ac (aG (lL a [.c,.v (nV (V.getD u 0)),.c,.v (nV ns.length)] ?_)));cases zf:((((V.getD u 0):Nat):Int) != (ns.length:Int))
  .
   have zn:=aW zf;refine lB 29 zf (ag (cK (kQ (bv 30 ((u:Nat)+1) (u+1) ?_))));refine lL a ac (lD ?_);intro a_ ka;refine ⟨_,_,?_,⟨u+1,h8,rfl,rfl,a.to _ _,oM,(fun i hi=>by rcases NL.1 hi with l|rfl;exact I i l;omega)⟩,ka.to _ kR⟩
   omega
  have zn:=aK zf;exact lB 29 zf (ak (aa a ac (ae a [] (iV 5) (⟨_,rfl,.inr ⟨xy hS M oM,.inl ⟨fun l=>by have:=l u oM;omega,rfl⟩⟩⟩))))
 have bb:=aK L;exact lB 18 L (ak (aa a ac (ae a [] (iV 1) (⟨_,rfl,.inl ⟨fun l=>by have:=IH M ⟨l.1,l.2⟩;omega,rfl⟩⟩))))
theorem DckR.cg {d:Nat}{t:Tm}{ns:List ByteArray}{M M':Prop}{e:Int}(x:DckR d t ns M e)(h:M↔M'):DckR d t ns M' e:=propext h▸x
theorem CS (d:Nat)(p:PTm)(t:Tm)(L:d<=20)(f:Z9)(a:Nat)(ns:List ByteArray)(y:NsD ns)(i:Z9)(B:Nat)(z:Z9)(c C:Nat)(l:c<=1000000)(w:World)(h:Hp)(g:G w h)(D:TmH d h p t)(J:SmT1 fT d t)(M:SlO 1 bB ⟨#[]⟩ h f ns)(H:Sv (i) ([.slice z c C]:List Value) h):Calls Tryz.prog 21 #[bU p,.slice f ns.length a,.slice i 1 B] w (Ret w h (fun v _=>∃ e:Int,v=iV e/\DckR d t ns (c=ns.length) e)) :=
 (uu d p t L f a ns y i B [.slice z c C] [c] (D0 rfl) (fun j o=>by match j,o with|0,_=>exact ⟨_,_,rfl,l⟩) w h g D J M H).mono fun e w' ⟨v,F,K,u,x,I,k⟩=>⟨v,F,K,u,x,I,k.cg ⟨fun h=>h 0 (Mx _),fun h j o=>by match j,o with|0,_=>exact h⟩⟩
theorem Dr (d:Nat)(p:PTm)(t:Tm)(Q:d<=20)(i:Z9)(a:Nat)(ns:List ByteArray)(B:NsD ns)(l:Z9)(H:Nat)(D:Z9)(f C:Nat)(F:Z9)(c u1:Nat)(o:f<=1000000)(y:c<=1000000)(w:World)(h:Hp)(g:G w h)(I:TmH d h p t)(M:SmT1 fT d t)(S:SlO 1 bB ⟨#[]⟩ h i ns)(K:Sv (l) ([.slice D f C,.slice F c u1]:List Value) h):Calls Tryz.prog 21 #[bU p,.slice i ns.length a,.slice l 2 H] w (Ret w h (fun v _=>∃ e:Int,v=iV e/\DckR d t ns (f=ns.length/\c=ns.length) e)) :=
 (uu d p t Q i a ns B l H [.slice D f C,.slice F c u1] [f,c] (D0 rfl) (fun j z=>by match j,z with|0,_=>exact ⟨_,_,rfl,o⟩|1,_=>exact ⟨_,_,rfl,y⟩) w h g I M S K).mono fun e w' ⟨v,J,O,u,x,L,k⟩=>⟨v,J,O,u,x,L,k.cg ⟨fun h=>⟨h 0 (Mx _),h 1 (nR 2)⟩,fun h j z=>by match j,z with|0,_=>exact h.1|1,_=>exact h.2⟩⟩
theorem BJ {d:Nat}{t:Tm}{ns:List ByteArray}{M:Prop}(h:qn dq d t/\M/\(∀ i,i<ns.length->dq (ns.getD i ⟨#[]⟩)=true)/\(∀ s,fQ d t s->s∈ns)/\ns.Nodup):WfT1 (fun s=>s∈ns) d t :=
 WfT1.imp (fun _ x=>x.2) (h.1.1.names h.2.2.2.1)
theorem Iz {ns:List ByteArray}{fs:List Rat}(d:NsD ns)(a:ns.Nodup)(h:fs.length=ns.length)(s:ByteArray)(c:s∈ns):dZ ns s<fs.length/\∃ i,Instr.findNow .string (.string s) (l9 ns) 0=some (some (i,.int .i64 (dZ ns s:Nat))):=by
 have f:ns≠pr:=fun e=>by subst e;exact absurd a kD
 refine ⟨by rw[h];exact (oV c).1,?_⟩
 unfold l9;rw[if_neg f]
 rcases Fe a s with ⟨i,e1,_⟩|⟨_,e2,_⟩
 ·exact ⟨i,by rw[e1,tF c]⟩
 ·exact absurd c (oF e2)
theorem Fa {d k w:Nat}(a:d<=6)(h:k*w<=1000)(hk:k<=12):k*(2*(4*(2^d*w)-3)+2)+1<=1400000:=by
 have h1:2^d<=64:=Lw (n:=2) kD a;have c:k*(2*(4*(2^d*w)-3)+2)<=k*(8*(2^d*w)+2):=Lz k oM;have e:k*(8*(2^d*w)+2)=8*(2^d*(k*w))+k*2:=by rw[Nat.mul_add,Ob k 8,Ob k (2^d)]
 have f:2^d*(k*w)<=64*1000:=Ma h1 h
 omega
theorem EM (ok:ByteArray->Prop)(ix:ByteArray->Nat)(fs ws:List Rat)(e:Z9)(p:Nat)(i:Z9)(l:Nat)(n:Nat)(hn:n<=12)(S:fs.length<=1000)(C:ws.length=fs.length)(j:Nat)(B:List MapEntry)(d:Nat)(z:Int)(q:Rat)(s:ByteArray)(A:Z9)(c:Nat)(ps:List PTm)(ks:List Tm)(w:World)(h:Hp)(g:G w h)(F:SlO 9 dh cC h A ps)(H:Sq e fs h)(L:Sq i ws h)(hM:MapS h j B):CR 43 #[.agg #[.iface 101 (.agg #[.slice e fs.length p,.slice i ws.length l,nV n]),.map (some j),.bool true],bU ⟨1,z,q,s,A,ps.length,c⟩] w h (fun v h1=>∃ (x:Z9)(c_:Nat),v=.tuple #[.slice x (bu ix fs ws (n+1) (d+1) (.mk 1 z q s ks)).2.length c_,iV (bu ix fs ws (n+1) (d+1) (.mk 1 z q s ks)).1]/\Sq x (bu ix fs ws (n+1) (d+1) (.mk 1 z q s ks)).2 h1):=by
 have a:=(((((sS g).aS F).aS H).aS L).add (K:=fun I=>MapS I j B) hM);refine go Tryz.func43 [(0,.agg #[.iface 101 (.agg #[qS e fs.length p,qS i ws.length l,nV n]),.map (some j),qT]),(1,bU ⟨1,z,q,s,A,ps.length,c⟩)] rfl (aD (lA 2 105 ([.iface 101 (.agg #[qS e fs.length p,qS i ws.length l,nV n]),.map (some j),qT]) a (fun D w2 Q a=>lA 3 52 (dh ⟨1,z,q,s,A,ps.length,c⟩) a (fun y V O a=>lL a ax (aG (lL a ac (ah (aa a [.v (pB y),.o (iV 1) 0 0 1] (aZ (aa a [.v qT,.c] (ak (aa a [.v (pB D),.o (.iface 101 (.agg #[qS e fs.length p,qS i ws.length l,nV n])) 1 0 1,.v (qP y 2),.o (qv q) 0 2 5] (lC 19 a (fz e fs.length p i ws.length l n hn q _ _ a.g) ?_)))))))))))));rintro _ U M a ⟨J,rfl,u⟩;replace a:=a.aS u;exact lL a ax (ae a [] (.tuple #[qS (sB J) ((bw (n+1) q).length) (n+1),iV 0]) (⟨_,_,rfl,a.f.1⟩))
theorem DZ (ok:ByteArray->Prop)(ix:ByteArray->Nat)(fs ws:List Rat)(j:Z9)(u:Nat)(l:Z9)(p:Nat)(n:Nat)(hn:n<=12)(Y:fs.length<=1000)(I:ws.length=fs.length)(e:Nat)(y:List MapEntry)(d:Nat)(z:Int)(q:Rat)(s:ByteArray)(A:Z9)(c:Nat)(ps:List PTm)(ks:List Tm)(C:ix s<fs.length)(B:∃ i,Instr.findNow .string (.string s) y 0=some (some (i,nV (ix s))))(w:World)(h:Hp)(g:G w h)(L:SlO 9 dh cC h A ps)(O:Sq j fs h)(U:Sq l ws h)(hM:MapS h e y):CR 43 #[.agg #[.iface 101 (.agg #[.slice j fs.length u,.slice l ws.length p,nV n]),.map (some e),.bool true],bU ⟨2,z,q,s,A,ps.length,c⟩] w h (fun v h1=>∃ (F:Z9)(c_:Nat),v=.tuple #[.slice F (bu ix fs ws (n+1) (d+1) (.mk 2 z q s ks)).2.length c_,iV (bu ix fs ws (n+1) (d+1) (.mk 2 z q s ks)).1]/\Sq F (bu ix fs ws (n+1) (d+1) (.mk 2 z q s ks)).2 h1):=by
 have a:=(((((sS g).aS L).aS O).aS U).add (K:=fun Q=>MapS Q e y) hM);refine go Tryz.func43 [(0,.agg #[.iface 101 (.agg #[qS j fs.length u,qS l ws.length p,nV n]),.map (some e),qT]),(1,bU ⟨2,z,q,s,A,ps.length,c⟩)] rfl (aD (lA 2 105 ([.iface 101 (.agg #[qS j fs.length u,qS l ws.length p,nV n]),.map (some e),qT]) a (fun D w2 X a=>lA 3 52 (dh ⟨2,z,q,s,A,ps.length,c⟩) a (fun H w5 W a=>lL a ax (aG (lL a ac (ah (aa a [.v (pB H),.o (iV 2) 0 0 1] (aZ (aa a [.v qF,.c] (ag (aa a [.v qT,.c] (ak (aa a [.v (pB D),.o (.iface 101 (.agg #[qS j fs.length u,qS l ws.length p,nV n])) 1 0 1,.v (qP D 1),.o (.map (some e)) 1 1 1,.v (qP H 7),.o (.string s) 0 7 1] (I6 28 96 9 3 (s) false (nV (ix s)) (true) a a.f.1 ?_ (hf:=(by obtain ⟨M,J⟩:=B;exact .inl ⟨M,J,rfl⟩)))))))))))))))));refine lC 29 a (Eg j fs.length u l ws.length p n hn fs ws rfl rfl (ix s) C oM _ _ a.g a.f.r.1 a.f.2.1) ?_;rintro _ Z V a ⟨S,rfl,x⟩;replace a:=a.aS x;exact lL a ax (ae a [] (.tuple #[qS (sB S) ((iD (n+1) (fs.getD (ix s) 0) (ws.getD (ix s) 0)).length) (n+1),iV 0]) (⟨_,_,rfl,a.f.1⟩))
theorem CJ  (ok:ByteArray->Prop)(ix:ByteArray->Nat)(fs ws:List Rat)(j:Z9)(B:Nat)(l:Z9)(x:Nat)(n:Nat)(hn:n<=12)(hm:fs.length<=1000)(hmw:ws.length=fs.length)(i:Nat)(es:List MapEntry)(d:Nat)(ih:∀ (p:PTm) (t:Tm) (w:World) (h:Hp),G w h->TmH d h p t->WfT1 ok d t->bI d t<=1000->Sq j fs h->Sq l ws h->MapS h i es->Tab h->Calls Tryz.prog 43 #[.agg #[.iface 101 (.agg #[.slice j fs.length B,.slice l ws.length x,nV n]),.map (some i),.bool true],bU p] w (Ret w h (fun v h1=>∃ (L:Z9)(c_:Nat),v=.tuple #[.slice L (bu ix fs ws (n+1) d t).2.length c_,iV (bu ix fs ws (n+1) d t).1]/\Sq L (bu ix fs ws (n+1) d t).2 h1)))(op z:Int)(q:Rat)(s:ByteArray)(A:Z9)(c:Nat)(C:PTm)(e:Tm)(D:WfT1 ok d e)(O:bI d e<=1000)(hz1:1<=bI d e/\SzR (4*(2^d*bI d e)-3) (bu ix fs ws (n+1) d e).2)(M:d<=6)(hop:3<=op/\op<=13)(har:gG op=1)(Q : -12<=z/\z<=12)(hzg:op=8->z.natAbs*bI d e<=1000)(w:World)(h:Hp)(g:G w h)(hK:SlO 9 dh cC h A ([C]:List PTm))(Z:TmH d h C e)(hF:Sq j fs h)(hV:Sq l ws h)(hM:MapS h i es)(tb:Tab h):CR 43 #[.agg #[.iface 101 (.agg #[.slice j fs.length B,.slice l ws.length x,nV n]),.map (some i),.bool true],bU ⟨op,z,q,s,A,1,c⟩] w h (fun v h1=>∃ (L:Z9)(c_:Nat),v=.tuple #[.slice L (bu ix fs ws (n+1) (d+1) (.mk op z q s ([e]:List Tm))).2.length c_,iV (bu ix fs ws (n+1) (d+1) (.mk op z q s ([e]:List Tm))).1]/\Sq L (bu ix fs ws (n+1) (d+1) (.mk op z q s ([e]:List Tm))).2 h1):=by
 have a:=(((((((sS g).aS hK).add (K:=fun y=>TmH d y C e) Z).aS hF).aS hV).add (K:=fun y=>MapS y i es) hM).add (K:=fun y=>Tab y) tb);have hln:([C]:List PTm).length=1:=rfl;have hac:=aE op;have u:2^d*bI d e<=64000:=eb (Ma (Lw kD M) O) kD;have H:op=8->z.natAbs*(2*(4*(2^d*bI d e)-3)+2)+1<=1400000:=fun y=>Fa M (hzg y) oM
 refine go Tryz.func43 [(0,.agg #[.iface 101 (.agg #[qS j fs.length B,qS l ws.length x,nV n]),.map (some i),qT]),(1,bU ⟨op,z,q,s,A,1,c⟩)] rfl (aD (lA 2 105 ([.iface 101 (.agg #[qS j fs.length B,qS l ws.length x,nV n]),.map (some i),qT]) a (fun b1 w2 h3 a=>lA 3 52 (dh ⟨op,z,q,s,A,1,c⟩) a (fun b4 w5 h6 a=>lL a ax (aG (lL a ac (ah (aa a [.v (pB b4),.o (iV op) 0 0 1] (aZ (aD ?_))))))))));have I:((op:Int) == (1:Int))=false:=fh oM;have bd:=aj I;refine lB 14 I (lL a ac (ag (aD ?_)));have J:((op:Int) == (2:Int))=false:=fh oM;have bb:=aj J;refine lB 21 J (lL a ac (ag (cK (cQ (cR 9 [] mixed a ar ?_)))));refine eO 0 31 [(1,0,3)] (.agg #[.iface 101 (.agg #[qS j fs.length B,qS l ws.length x,nV n]),.map (some i),qT]) a (eV 1 32 (qP b4 8) (eO 2 33 [(0,8,1)] (qS A 1 c) a (eX 3 34 A 1 c 9 0 0 ((a.f.q.2.1).ok oM) (eH 4 35 (bU (([C]:List PTm).getD 0 cC)) a ((a.f.q.2.1).el 0 oM) (eC 5 36 a (fun _ _ a=>ih (([C]:List PTm).getD 0 cC) e _ _ a.g a.f.q.1 D O a.f.r.2.1 a.f.r.1 a.f.2.1 a.f.1) ?_)))));rintro _ _ _ w9 _ a ⟨S,c1,rfl,hS1⟩;replace a:=a.aS hS1;refine eV 6 30 (.tuple #[qS S ((bu ix fs ws (n+1) d e).2.length) c1,iV ((bu ix fs ws (n+1) d e).1)]) (eV 7 37 (qS S ((bu ix fs ws (n+1) d e).2.length) c1) (eV 8 38 (iV ((bu ix fs ws (n+1) d e).1)) (bS a (fun _ _ a=>tV 9 7 (qS S ((bu ix fs ws (n+1) d e).2.length) c1) (tV 10 8 (iV ((bu ix fs ws (n+1) d e).1)) (tN (cQ (aa a ac ?_))))))));cases U:(((bu ix fs ws (n+1) d e).1:Int) != (0:Int))
 .
  have zc:=aW U;refine lB 40 U (ag (cK (cQ (aa a [.v (qP b4 8),.o (qS A 1 c) 0 8 1,.v (iV 1),.v qT] (ak (kQ (lL a [.o (.agg #[.iface 101 (.agg #[qS j fs.length B,qS l ws.length x,nV n]),.map (some i),qT]) 1 0 3,.o (bU ⟨op,z,q,s,A,1,c⟩) 0 0 9,.c] (lC 51 a (xK j fs.length B l ws.length x n hn i op z q s A 1 c (bu ix fs ws (n+1) d e).2 S c1 (fl D oM) (4*(2^d*bI d e)-3) (hz1).2 (by have:=u;omega) oM (fun _=>Q) (by have:=u;omega) H _ _ a.g a.f.1 a.f.2.1) ?_))))))));rintro _ _ _ a ⟨X,Y,W,rfl,hSr,hRr⟩;replace a:=a.aS hSr;refine lL a [.c,.v (qS Y X.length W),.v (iV (dN op z ((bu ix fs ws (n+1) d e).2.getD 0 0) 0)),.c,.c] (ah (aa a ac ?_));cases V:(((dN op z ((bu ix fs ws (n+1) d e).2.getD 0 0) 0):Int) != (0:Int))
  .
   have zd:=aW V;exact lB 76 V (ag (cK (aa a cJ (ae a [] (.tuple #[qS Y X.length W,iV 0]) (by have F:=hRr oM;rw[mt oM oM,kK oM rfl (by show dN op z _ 0=0;omega),<-F];exact ⟨_,_,rfl,a.f.1⟩)))))
  have zd:=aK V;refine lB 76 V (ak (aa a m4 (lN (bH [(4,sZ),(5,iV (dN op z ((bu ix fs ws (n+1) d e).2.getD 0 0) 0)),(7,qS Y X.length W)] ?_))));exact kX (a.ret [] (.tuple #[sZ,iV (dN op z ((bu ix fs ws (n+1) d e).2.getD 0 0) 0)]) (by rw[mt oM oM,kP oM rfl (by show dN op z _ 0≠0;omega)];exact ⟨none,0,rfl,SlO.nil⟩))
 have zc:=aK U;exact lB 40 U (ak (aa a m4 (ae a [] (.tuple #[sZ,iV ((bu ix fs ws (n+1) d e).1)]) (by rw[mt oM oM,jL oM];exact ⟨none,0,rfl,SlO.nil⟩))))
theorem DD  (ok:ByteArray->Prop)(ix:ByteArray->Nat)(fs ws:List Rat)(u:Z9)(F:Nat)(l:Z9)(C:Nat)(n:Nat)(hn:n<=12)(hm:fs.length<=1000)(hmw:ws.length=fs.length)(j:Nat)(es:List MapEntry)(d:Nat)(ih:∀ (p:PTm) (t:Tm) (w:World) (h:Hp),G w h->TmH d h p t->WfT1 ok d t->bI d t<=1000->Sq u fs h->Sq l ws h->MapS h j es->Tab h->Calls Tryz.prog 43 #[.agg #[.iface 101 (.agg #[.slice u fs.length F,.slice l ws.length C,nV n]),.map (some j),.bool true],bU p] w (Ret w h (fun v h1=>∃ (X:Z9)(c_:Nat),v=.tuple #[.slice X (bu ix fs ws (n+1) d t).2.length c_,iV (bu ix fs ws (n+1) d t).1]/\Sq X (bu ix fs ws (n+1) d t).2 h1)))(op z:Int)(q:Rat)(s:ByteArray)(A:Z9)(c:Nat)(D:PTm)(i:Tm)(W:WfT1 ok d i)(U:bI d i<=1000)(hz1:1<=bI d i/\SzR (4*(2^d*bI d i)-3) (bu ix fs ws (n+1) d i).2)(B:PTm)(e:Tm)(I:WfT1 ok d e)(V:bI d e<=1000)(hz2:1<=bI d e/\SzR (4*(2^d*bI d e)-3) (bu ix fs ws (n+1) d e).2)(Y:d<=6)(hop:3<=op/\op<=13)(har:gG op=2)(bb : -12<=z/\z<=12)(w:World)(h:Hp)(g:G w h)(hK:SlO 9 dh cC h A ([D,B]:List PTm))(hp1:TmH d h D i)(hp2:TmH d h B e)(hF:Sq u fs h)(hV:Sq l ws h)(hM:MapS h j es)(tb:Tab h):CR 43 #[.agg #[.iface 101 (.agg #[.slice u fs.length F,.slice l ws.length C,nV n]),.map (some j),.bool true],bU ⟨op,z,q,s,A,2,c⟩] w h (fun v h1=>∃ (X:Z9)(c_:Nat),v=.tuple #[.slice X (bu ix fs ws (n+1) (d+1) (.mk op z q s ([i,e]:List Tm))).2.length c_,iV (bu ix fs ws (n+1) (d+1) (.mk op z q s ([i,e]:List Tm))).1]/\Sq X (bu ix fs ws (n+1) (d+1) (.mk op z q s ([i,e]:List Tm))).2 h1):=by
 have a:=((((((((sS g).aS hK).add (K:=fun H=>TmH d H D i) hp1).add (K:=fun H=>TmH d H B e) hp2).aS hF).aS hV).add (K:=fun H=>MapS H j es) hM).add (K:=fun H=>Tab H) tb);have hln:([D,B]:List PTm).length=2:=rfl;have hac:=aE op;have y:2^d*bI d i<=64000:=eb (Ma (Lw kD Y) U) kD;have x:2^d*bI d e<=64000:=eb (Ma (Lw kD Y) V) kD;refine go Tryz.func43 [(0,.agg #[.iface 101 (.agg #[qS u fs.length F,qS l ws.length C,nV n]),.map (some j),qT]),(1,bU ⟨op,z,q,s,A,2,c⟩)] rfl (aD (lA 2 105 ([.iface 101 (.agg #[qS u fs.length F,qS l ws.length C,nV n]),.map (some j),qT]) a (fun b1 w2 h3 a=>lA 3 52 (dh ⟨op,z,q,s,A,2,c⟩) a (fun L w5 h6 a=>lL a ax (aG (lL a ac (ah (aa a [.v (pB L),.o (iV op) 0 0 1] (aZ (aD ?_))))))))));have J:((op:Int) == (1:Int))=false:=fh oM;have bf:=aj J;refine lB 14 J (lL a ac (ag (aD ?_)));have O:((op:Int) == (2:Int))=false:=fh oM;have bd:=aj O;refine lB 21 O (lL a ac (ag (cK (cQ (cR 9 [] mixed a ar ?_)))));refine eO 0 31 [(1,0,3)] (.agg #[.iface 101 (.agg #[qS u fs.length F,qS l ws.length C,nV n]),.map (some j),qT]) a (eV 1 32 (qP L 8) (eO 2 33 [(0,8,1)] (qS A 2 c) a (eX 3 34 A 2 c 9 0 0 ((a.f.q.r.1).ok oM) (eH 4 35 (bU (([D,B]:List PTm).getD 0 cC)) a ((a.f.q.r.1).el 0 oM) (eC 5 36 a (fun _ _ a=>ih (([D,B]:List PTm).getD 0 cC) i _ _ a.g a.f.q.2.1 W U a.f.r.2.1 a.f.r.1 a.f.2.1 a.f.1) ?_)))));rintro _ _ _ w9 _ a ⟨S,c1,rfl,hS1⟩;replace a:=a.aS hS1;refine eV 6 30 (.tuple #[qS S ((bu ix fs ws (n+1) d i).2.length) c1,iV ((bu ix fs ws (n+1) d i).1)]) (eV 7 37 (qS S ((bu ix fs ws (n+1) d i).2.length) c1) (eV 8 38 (iV ((bu ix fs ws (n+1) d i).1)) (bS a (fun _ _ a=>tV 9 7 (qS S ((bu ix fs ws (n+1) d i).2.length) c1) (tV 10 8 (iV ((bu ix fs ws (n+1) d i).1)) (tN (cQ (aa a ac ?_))))))));cases za:(((bu ix fs ws (n+1) d i).1:Int) != (0:Int))
 .
  have zd:=aW za;refine lB 40 za (ag (cK (cQ (aa a [.v (qP L 8),.o (qS A 2 c) 0 8 1,.v (iV 2),.v qF] (ag (cQ (cR 9 [] mixed a ar ?_)))))));refine eO 0 55 [(1,0,3)] (.agg #[.iface 101 (.agg #[qS u fs.length F,qS l ws.length C,nV n]),.map (some j),qT]) a (eV 1 56 (qP L 8) (eO 2 57 [(0,8,1)] (qS A 2 c) a (eX 3 58 A 2 c 9 1 1 ((a.f.q.r.2.1).ok oM) (eH 4 59 (bU (([D,B]:List PTm).getD 1 cC)) a ((a.f.q.r.2.1).el 1 oM) (eC 5 60 a (fun _ _ a=>ih (([D,B]:List PTm).getD 1 cC) e _ _ a.g a.f.q.2.1 I V a.f.q.1 a.f.r.2.1 a.f.r.1 a.f.2.1) ?_)))));rintro _ _ _ _ _ a ⟨Q,c2,rfl,hS2⟩;replace a:=a.aS hS2;refine eV 6 54 (.tuple #[qS Q ((bu ix fs ws (n+1) d e).2.length) c2,iV ((bu ix fs ws (n+1) d e).1)]) (eV 7 61 (qS Q ((bu ix fs ws (n+1) d e).2.length) c2) (eV 8 62 (iV ((bu ix fs ws (n+1) d e).1)) (bS a (fun _ _ a=>tV 9 9 (qS Q ((bu ix fs ws (n+1) d e).2.length) c2) (tV 10 10 (iV ((bu ix fs ws (n+1) d e).1)) (tN (bH [(2,pB b1),(3,pB L),(4,sZ),(5,iV 0),(6,sZ),(7,qS S ((bu ix fs ws (n+1) d i).2.length) c1),(8,iV ((bu ix fs ws (n+1) d i).1)),(9,qS Q ((bu ix fs ws (n+1) d e).2.length) c2),(10,iV ((bu ix fs ws (n+1) d e).1))] ?_)))))));refine cQ (aa a ac ?_);cases Z:(((bu ix fs ws (n+1) d e).1:Int) != (0:Int))
  .
   have ze:=aW Z;refine lB 64 Z (ag (cK (kQ (lL a [.o (.agg #[.iface 101 (.agg #[qS u fs.length F,qS l ws.length C,nV n]),.map (some j),qT]) 1 0 3,.o (bU ⟨op,z,q,s,A,2,c⟩) 0 0 9,.c,.c] (lC 72 a (Bu u fs.length F l ws.length C n hn j op z q s A 2 c (bu ix fs ws (n+1) d i).2 S c1 (fl W oM) (4*(2^d*bI d i)-3) (hz1).2 (by have:=y;omega) (bu ix fs ws (n+1) d e).2 Q c2 (fl I oM) (4*(2^d*bI d e)-3) (hz2).2 (by have:=x;omega) oM (by have:=y;omega) (by have:=x;omega) _ _ a.g a.f.2.1 a.f.1 a.f.r.1) ?_)))));rintro _ _ _ a ⟨Lr,Ar,cr,rfl,hSr,hRr⟩;replace a:=a.aS hSr;refine lL a [.c,.v (qS Ar Lr.length cr),.v (iV (dN op z ((bu ix fs ws (n+1) d i).2.getD 0 0) ((bu ix fs ws (n+1) d e).2.getD 0 0))),.c,.c] (ah (aa a ac ?_));cases zc:(((dN op z ((bu ix fs ws (n+1) d i).2.getD 0 0) ((bu ix fs ws (n+1) d e).2.getD 0 0)):Int) != (0:Int))
   .
    have zf:=aW zc;exact lB 76 zc (ag (cK (aa a cJ (ae a [] (.tuple #[qS Ar Lr.length cr,iV 0]) (by have M:=hRr oM;rw[j3 oM oM,kK oM oM oM,<-M];exact ⟨_,_,rfl,a.f.1⟩)))))
   have zf:=aK zc;exact lB 76 zc (ak (aa a m4 (ae a [] (.tuple #[sZ,iV (dN op z ((bu ix fs ws (n+1) d i).2.getD 0 0) ((bu ix fs ws (n+1) d e).2.getD 0 0))]) (by rw[j3 oM oM,kP oM oM oM];exact ⟨none,0,rfl,SlO.nil⟩))))
  have ze:=aK Z;exact lB 64 Z (ak (aa a m4 (ae a [] (.tuple #[sZ,iV ((bu ix fs ws (n+1) d e).1)]) (by rw[j3 oM oM,qM oM oM];exact ⟨none,0,rfl,SlO.nil⟩))))
 have zd:=aK za;exact lB 40 za (ak (aa a m4 (ae a [] (.tuple #[sZ,iV ((bu ix fs ws (n+1) d i).1)]) (by rw[j3 oM oM,jL oM];exact ⟨none,0,rfl,SlO.nil⟩))))
theorem A3 (ok:ByteArray->Prop)(ix:ByteArray->Nat)(fs ws:List Rat)(o:Z9)(C:Nat)(y:Z9)(B:Nat)(n:Nat)(hn:n<=12)(I:fs.length<=1000)(a:ws.length=fs.length)(j:Nat)(l:List MapEntry)(W:∀ i,LQ 1 (fs.getD i 0))(H:∀ i,LQ 1 (ws.getD i 0))(u:∀ s,ok s->ix s<fs.length/\∃ i,Instr.findNow .string (.string s) l 0=some (some (i,nV (ix s)))):∀ (d:Nat) (p:PTm) (t:Tm) (w:World) (h:Hp),d<=7->G w h->TmH d h p t->WfT1 ok d t->bI d t<=1000->Sq o fs h->Sq y ws h->MapS h j l->Tab h->Calls Tryz.prog 43 #[.agg #[.iface 101 (.agg #[.slice o fs.length C,.slice y ws.length B,nV n]),.map (some j),.bool true],bU p] w (Ret w h (fun v h1=>∃ (U:Z9)(c_:Nat),v=.tuple #[.slice U (bu ix fs ws (n+1) d t).2.length c_,iV (bu ix fs ws (n+1) d t).1]/\Sq U (bu ix fs ws (n+1) d t).2 h1))
  | 0,_,_,_,_,_,_,x,_,_,_,_,_,_=>x.elim
  | d + 1,p,t,w,h,hd,g,x,wf,hw,hF,hV,hM,tb=>by
    obtain ⟨op,z,q,s,A,c,ps,ks,rfl,rfl,hc,J,f⟩:=x.open;obtain ⟨w1,w2,w3,X,w5,w6,K,L,F⟩:=wf;replace w1:gG op=(ks.length:Nat):=w1;replace K : -12<=z:=K;replace L:z<=12:=L;replace F:∀ i,i<ks.length->WfT1 ok d (ks.getD i cZ):=F;have Z:=aE op;have V:=fun p t w h=>A3 ok ix fs ws o C y B n hn I a j l W H u d p t w h oM
    have M:∀ t,WfT1 ok d t->1<=bI d t/\SzR (4*(2^d*bI d t)-3) (bu ix fs ws (n+1) d t).2:=fun t k1=>n4 (Mx n) W H k1
    rcases jM w1 with rfl|⟨t1,rfl⟩|⟨t1,t2,rfl⟩
    . simp only[NN] at w1
      by_cases o1:op=1
      . subst o1;exact EM ok ix fs ws o C y B n hn I a j l d z q s A c ps [] w h g J hF hV hM
      . obtain rfl:op=2:=by omega
        exact DZ ok ix fs ws o C y B n hn I a j l d z q s A c ps [] (u s (X rfl)).1 (u s (X rfl)).2 w h g J hF hV hM
    . obtain ⟨Q,rfl⟩:=List.length_eq_one_iff.1 (show ps.length=1 from f.len)
      simp only[tv,NN] at w1
      have D:WfT1 ok d t1:=F 0 (Mx _);have O:bI d t1<=1000:=qQ hw
      have S:op=8->z.natAbs*bI d t1<=1000:=fun e8=>by
        have e:bI (d+1) (.mk op z q s [t1])=gL op z*(bI d t1+0):=by rw[jY (show [t1].length≠0 from Nat.succ_ne_zero _)];show _*(0+bI d t1)=_;rw[y9,yh]
        have e2:gL op z=bK z:=by unfold gL;rw[if_neg oM,if_pos e8]
        rw[e,e2,yh] at hw
        refine eb (zh _ ?_) hw
        unfold bK;split<;>omega
      exact CJ ok ix fs ws o C y B n hn I a j l d V op z q s A c Q t1 D O (M t1 D) oM oM oM ⟨K,L⟩ S w h g J (f.at_ 0 (Mx _)) hF hV hM tb
    . obtain ⟨Q,p2,rfl⟩:=o8 (show ps.length=2 from f.len)
      simp only[tv,NN] at w1
      have D:WfT1 ok d t1:=F 0 (Mx _);have Y:WfT1 ok d t2:=F 1 (by show 1<2;decide);obtain ⟨O,g2⟩:=pO hw;exact DD ok ix fs ws o C y B n hn I a j l d V op z q s A c Q t1 D O (M t1 D) p2 t2 Y g2 (M t2 Y) oM oM oM ⟨K,L⟩ w h g J (f.at_ 0 (Mx _)) (f.at_ 1 (by show 1<2;decide)) hF hV hM tb
def DserR (d:Nat)(t:Tm)(ns:List ByteArray)(fs ws:List Rat)(n:Nat)(e:Int)(L_:List Rat):Prop :=
  ∃ ec,DckR d t ns (fs.length=ns.length/\ws.length=ns.length) ec/\((ec≠0/\e=ec/\L_=[])\/(ec=0/\(e,L_)=bu (dZ ns) fs ws (n+1) d t))
theorem BK (d:Nat)(p:PTm)(t:Tm)(X:d<=7)(D:Z9)(y:Nat)(ns:List ByteArray)(C:NsD ns)(fs ws:List Rat)(j:Z9)(x:Nat)(l:Z9)(u:Nat)(n:Nat)(hn:n<=12)(U:fs.length<=1000)(F:ws.length=fs.length)(S:∀ i,LQ 1 (fs.getD i 0))(H:∀ i,LQ 1 (ws.getD i 0))(e:qn dq d t/\(fs.length=ns.length/\ws.length=ns.length)/\(∀ i,i<ns.length->dq (ns.getD i ⟨#[]⟩)=true)/\(∀ s,fQ d t s->s∈ns)/\ns.Nodup)(w:World)(h:Hp)(g:G w h)(O:TmH d h p t)(Y:SlO 1 bB ⟨#[]⟩ h D ns)(V:Sq j fs h)(W:Sq l ws h)(Q:Tab h):CR 22 #[bU p,.slice D ns.length y,.slice j fs.length x,.slice l ws.length u,nV n] w h (fun v h1=>∃ (M:Z9)(c_:Nat),v=.tuple #[.slice M (bu (dZ ns) fs ws (n+1) d t).2.length c_,iV (bu (dZ ns) fs ws (n+1) d t).1]/\Sq M (bu (dZ ns) fs ws (n+1) d t).2 h1):=by
 have a:=((((((sS g).add (K:=fun B=>TmH d B p t) O).aS Y).aS V).aS W).add (K:=fun B=>Tab B) Q);refine go Tryz.func22 [(0,bU p),(1,qS D ns.length y),(2,qS j fs.length x),(3,qS l ws.length u),(4,nV n)] rfl (aD (lA 5 52 (dh p) a (fun b1 w2 h3 a=>lL a ax (aG (lL a [.c,.c,.c,.v (.agg #[qS j fs.length x,qS l ws.length u,nV n]),.v (.iface 101 (.agg #[qS j fs.length x,qS l ws.length u,nV n])),.c] (lC 19 a (na C e.2.2.1 D y _ _ a.g a.f.r.2.1) ?_))))));rintro _ w4 h5 a ⟨z,rfl,hM⟩;replace a:=(a.add (K:=fun B=>MapS B z (l9 ns)) hM);refine lL a [.v (.agg #[.iface 101 (.agg #[qS j fs.length x,qS l ws.length u,nV n]),.map (some z),qT])] (lA 12 105 ([.nilIface,.map none,qF]) a (fun b6 w7 Z a=>lP 0 0 ([.iface 101 (.agg #[qS j fs.length x,qS l ws.length u,nV n]),.map (some z),qT]) a (fun w9 a=>aG (lL a [.o (.agg #[.iface 101 (.agg #[qS j fs.length x,qS l ws.length u,nV n]),.map (some z),qT]) 0 0 3,.o (bU p) 1 0 9] (lC 23 a (A3 (fun s=>s∈ns) (dZ ns) fs ws j x l u n hn U F z (l9 ns) S H (Iz C e.2.2.2.2 e.2.1.1) d p t _ _ X a.g a.f.q.2.1 (BJ e) e.1.2 a.f.r.2.1 a.f.r.1 a.f.1 a.f.2.1) ?_)))));rintro _ _ _ a ⟨J,L,rfl,I⟩;replace a:=a.aS I;exact lL a [.v (qS J ((bu (dZ ns) fs ws (n+1) d t).2.length) L),.v (iV ((bu (dZ ns) fs ws (n+1) d t).1)),.c,.c] (ae a [] (.tuple #[qS J ((bu (dZ ns) fs ws (n+1) d t).2.length) L,iV ((bu (dZ ns) fs ws (n+1) d t).1)]) (⟨_,_,rfl,a.f.1⟩))
theorem nN (d:Nat)(p:PTm)(t:Tm)(hd:d<=7)(H:Z9)(z:Nat)(ns:List ByteArray)(M:NsD ns)(fs ws:List Rat)(B:Z9)(F:Nat)(C:Z9)(D:Nat)(n:Nat)(hn:n<=12)(hm:fs.length<=1000)(Z:ws.length<=1000)(hq:∀ i,LQ 1 (fs.getD i 0))(S:∀ i,LQ 1 (ws.getD i 0))(w:World)(h:Hp)(g:G w h)(hT:TmH d h p t)(hS:SmT1 fT d t)(hN:SlO 1 bB ⟨#[]⟩ h H ns)(hF:Sq B fs h)(hV:Sq C ws h)(tb:Tab h):CR 9 #[bU p,.slice H ns.length z,.slice B fs.length F,.slice C ws.length D,nV n] w h (fun v h1=>∃ (e:Int)(A_:Z9)(c_:Nat)(L_:List Rat),v=.tuple #[.slice A_ L_.length c_,iV e]/\Sq A_ L_ h1/\DserR d t ns fs ws n e L_):=by
 have a:=((((((sS g).add (K:=fun U=>TmH d U p t) hT).aS hN).aS hF).aS hV).add (K:=fun U=>Tab U) tb);refine go Tryz.func9 [(0,bU p),(1,qS H ns.length z),(2,qS B fs.length F),(3,qS C ws.length D),(4,nV n)] rfl (aD (lA 5 52 (dh p) a (fun b1 w2 h3 a=>lL a ax (ah (aa a ac ?_)))));cases x:(decide ((n:Int)<(0:Int)))
 .
  have I:=oF x;refine lB 14 x (lL a ax ?_);cases y:(decide ((12:Int)<(n:Int)))
  .
   have L:=oF y;refine lB 17 y (lL a [.v qF] (ag (cK (cQ (aa a [.o (bU p) 0 0 9,.c,.c,.c] (lR 23 39 2 ([qS B fs.length F,qS C ws.length D]) a (fun X w7 h8 a=>?_)))))));replace a:=a.aS (SlO.of_flat (sz:=1) (f:=vc) (d:=undef) (b:=X) (o:=0) (l:=([qS B fs.length F,qS C ws.length D]:List Value)) (fun _=>rfl) a.f.1);refine lC 24 a (Dr d p t oM H z ns M (sB X) 2 B fs.length F C ws.length D oM oM _ _ a.g a.f.q.r.1 hS a.f.q.2.1 a.f.1) ?_;rintro _ _ _ a ⟨Q,rfl,u⟩;refine lL a ac (aG (lL a ac ?_));cases O:((Q:Int) != (0:Int))
   .
    have zb:=aW O;refine lB 26 O (ag (cK ?_));have j:=u.ok oM;have J:ws.length=fs.length:=j.2.1.2.trans j.2.1.1.symm;refine aa a [.o (bU p) 0 0 9,.c,.c,.c,.c] (lC 33 a (BK d p t hd H z ns M fs ws B F C D n hn hm J hq S (u.ok oM) _ _ a.g a.f.q.r.1 a.f.q.2.1 a.f.q.1 a.f.r.2.1 a.f.r.1) ?_);rintro _ _ _ a ⟨W,Y,rfl,V⟩;replace a:=a.aS V;exact lL a [.v (qS W ((bu (dZ ns) fs ws (n+1) d t).2.length) Y),.v (iV ((bu (dZ ns) fs ws (n+1) d t).1)),.c,.c] (ae a [] (.tuple #[qS W ((bu (dZ ns) fs ws (n+1) d t).2.length) Y,iV ((bu (dZ ns) fs ws (n+1) d t).1)]) (⟨_,_,_,_,rfl,a.f.1,Q,u,.inr ⟨by omega,rfl⟩⟩))
   have zb:=aK O;exact lB 26 O (ak (aa a cJ (ae a [] (.tuple #[sZ,iV Q]) (⟨_,none,0,[],rfl,SlO.nil,Q,u,.inl ⟨by omega,rfl,rfl⟩⟩))))
  have L:=oT y;refine lB 17 y (lL a [.v qT] (ak (aa a ax (lN (kX ?_)))))
  exfalso;omega
 have I:=oT x;refine lB 14 x (lL a ac (lG 16 ?_));refine lG 17 (lL a [.v qT] (ak (aa a ax (lN (kX ?_)))))
 exfalso;omega
theorem Fr {ix:ByteArray->Nat}{fs ws:List Rat}{m d:Nat}{n:Int}{q:Rat}{s:ByteArray}{ks:List Tm}:bu ix fs ws m (d+1) (.mk 2 n q s ks)=(0,iD m (fs.getD (ix s) 0) (ws.getD (ix s) 0)):=rfl
theorem G3 {m:Nat}{x y:Rat}(h:1<m):iD m x y=(bw m x).set 1 y:=if_pos h
theorem Hk {m:Nat}{x y:Rat}(h:¬1<m):iD m x y=bw m x:=if_neg h
theorem Fd {m:Nat}{op n:Int}{x y:Int × List Rat}(h:x.1=0)(a:y.1=0):vz m op n x y=(dN op n (x.2.getD 0 0) (y.2.getD 0 0),Fm op n m x.2 y.2):=by
 by_cases c:dN op n (x.2.getD 0 0) (y.2.getD 0 0)=0
 ·rw[kK h a c];unfold Fm;rw[if_pos c,c]
 ·rw[kP h a c];unfold Fm;rw[if_neg c]
theorem wY {α:Type}(l:List α)(k i:Nat)(x d:α):(l.set k x).getD i d=if k=i/\k<l.length then x else l.getD i d:=by
 simp only[LI,Om]
 by_cases e:k=i
 ·subst e
  by_cases hk:k<l.length
  ·simp[hk]
  ·simp[hk]
 ·simp[e]
theorem xm {h:Hp}{d:List RT}{c:List Rat}(r:RTs h d c)(i:Nat){t:RT}{q:Rat}(e:RQ h (EW t) q):RTs h (d.set i t) (c.set i q):=⟨by rw[Md,Md];exact r.len,fun j a=>by
 rw[Md] at a
 rw[wY,wY,r.len]
 split
 ·exact e
 ·exact r.at_ j a⟩
theorem JB {w0:World}{h0:Hp}{y:List Bx}{R2:List Rw}{D:List (Hp->Prop)}(x:RT)(q:Rat)(n:Nat)(hn:n<=1000)(w:World)(h:Hp)(g:G w h)(Z:RTs h [x] [q])(a:SS w0 h0 w h y R2 D):Calls Tryz.prog 54 #[.agg #[.bool ((x).1),(x).2.1,(x).2.2],nV n] w (HP fun v w1 h1=>∃ H c1 i,v=.slice H (i:List RT).length c1/\RTs h1 i (bw (n+1) q)/\SS w0 h0 w1 h1 y (⟨28,3,H,c1,i.length,i.flatMap fJ⟩::R2) D):=by
 replace a:=a.to ([]++y) ([]++R2);replace a:=(a.aT Z);refine go Tryz.func54 [(0,.agg #[.bool ((x).1),(x).2.1,(x).2.2]),(1,nV n)] rfl (aD (lA 2 28 ([.bool ((x).1),(x).2.1,(x).2.2]) a (fun J w2 h3 a=>lL a ac (aG (lL a [.o (.agg #[.bool ((x).1),(x).2.1,(x).2.2]) 0 0 3] (HW 7 28 3 fJ ([x]:List RT) a (fun W w5 I a=>lL a ac (ah (kZ ?_)))))))));replace a:=a.aT (a.f.1);refine bH _ (CG.loop (fun B Γ L=>∃ (m:Nat)(e:Z9)(d:Nat)(tl:List RT)(h_:Hp),B=n-m/\Γ=[(1,nV n),(4,sZ),(5,qS e ((tl).length) d)]/\SS w0 h0 L h_ ([⟨J,28,[.bool ((x).1),(x).2.1,(x).2.2]⟩]++y) ([⟨28,3,e,d,(tl).length,(tl).flatMap fJ⟩]++R2) ([Rt tl (q::zZ m ((0:Int):Rat)),Rt [x] [q]]++D)/\m<=n) _ ⟨0,sB W,(([x]:List RT)).length,([x]:List RT),I,rfl,rfl,a.to _ _,Mv _⟩ ?_);rintro _ _ w9 ⟨m,e,d,tl,_,F,rfl,a,hm⟩;have C:=(a.f.1).len;rw[tv,NF] at C
 refine cQ (aa a [.c,.v (nV ((tl).length)),.c] ?_);cases l:(decide ((((tl).length:Nat):Int)<=(n:Int)))
 .
  have V:=oF l;refine lB 11 l (ag (CG.exit ?_))
  show CG _ _ _ _ _ _ _ _
  refine aa a ax (lN (kX (a.retS [] (qS e ((tl).length) d) ?_)));rw[show n=m by omega];exact ⟨e,d,tl,rfl,a.f.1,(a.tl.tl.drop 1 0).to _ _⟩
 have V:=oT l;refine lB 11 l (ak (cK (kZ (kQ (lL a ac (lC 13 a (vR 0 oM oM _ _ a.g) ?_))))));rintro _ _ _ a ⟨p,j,z,u,rfl,zg,M,zj,S⟩;replace a:=a.aP zj S;refine lR 14 28 1 (iS ((0:Int):Rat) p j z u) a (fun X _ _ a=>lY 15 0 28 3 d e tl fJ ((af ((0:Int):Rat).num,qS p ((lim (ab ((0:Int):Rat).num)).length) j,qS z ((lim ((0:Int):Rat).den).length) u):RT) 56 X (.agg #[qF,sZ,sZ]) a a.f.1 (fun U Q _ O a=>lL a ac (lD ?_)));intro a_ Y;replace a:=(a.tl.tl.tl.tl.add (K:=Rt (tl++[((af ((0:Int):Rat).num,qS p ((lim (ab ((0:Int):Rat).num)).length) j,qS z ((lim ((0:Int):Rat).den).length) u):RT)]) (q::zZ (m+1) ((0:Int):Rat))) (by rw[List.replicate_succ',<-Ll];exact (a.f.r.2.1).snoc (oR zg M a.f.r.1 a.f.2.1)));refine ⟨_,_,?_,⟨m+1,U,Q,tl++[((af ((0:Int):Rat).num,qS p ((lim (ab ((0:Int):Rat).num)).length) j,qS z ((lim ((0:Int):Rat).den).length) u):RT)],O,rfl,rfl,a.to _ _,oM⟩,Y.to _ kR⟩
 omega
theorem HE (ok:ByteArray->Prop)(ix:ByteArray->Nat)(fs ws:List Rat)(F:Z9)(z:Nat)(ns:List ByteArray)(U:Z9)(cF:Nat)(B:List RT)(O:Z9)(Y:Nat)(C:List RT)(hfl:fs.length=ns.length)(hwl:ws.length=ns.length)(hnl:ns.length<=1000)(i:Nat)(W:i+1<=13)(d:Nat)(n:Int)(x:Bool)(p:Z9)(j u:Nat)(l:Z9)(y e:Nat)(q:Rat)(s:ByteArray)(A:Z9)(c:Nat)(w:World)(h:Hp)(g:G w h)(hZ:RZ h (x,.slice p j u,.slice l y e) q)(hN:SlO 1 bB ⟨#[]⟩ h F ns)(hF:Sr U B h)(H:RTs h B fs)(I:Sr O C h)(D:RTs h C ws):CR 26 #[bJ ⟨1,n,x,p,j,u,l,y,e,s,A,0,c⟩,.slice F ns.length z,.slice U B.length cF,.slice O C.length Y,nV i,.bool false] w h (fun v h1=>∃ (X:Z9)(c_:Nat)(ts_:List RT),v=.tuple #[.slice X ts_.length c_,iV (bu ix fs ws (i+1) (d+1) (.mk 1 n q s [])).1]/\ts_.length<=c_/\Sr X ts_ h1/\RTs h1 ts_ (bu ix fs ws (i+1) (d+1) (.mk 1 n q s [])).2):=by
 have a:=(((((((sS g).add (K:=fun h_=>RZ h_ (x,qS p j u,qS l y e) q) hZ).aS hN).aS hF).aT H).aS I).aT D);refine go Tryz.func26 [(0,bJ ⟨1,n,x,p,j,u,l,y,e,s,A,0,c⟩),(1,qS F ns.length z),(2,qS U B.length cF),(3,qS O C.length Y),(4,nV i),(5,qF)] rfl (aD (lA 6 31 (bE ⟨1,n,x,p,j,u,l,y,e,s,A,0,c⟩) a (fun V w2 h3 a=>lL a ax (ah (aa a [.v (pB V),.o (iV 1) 0 0 1] (aZ (aa a [.v qT,.c] (ak (aa a [.v (qP V 2),.o (.agg #[.bool x,qS p j u,qS l y e]) 0 2 3] (lC 26 a (AM x p j u l y e q _ _ a.g a.f.q.2.1) ?_))))))))));rintro _ _ _ a ⟨A4,c5,A8,c9,rfl,J,za,S,zb⟩;replace a:=a.aP S zb;refine lL a ac (lC 28 a (xa q A4 c5 A8 c9 J za i i rfl oM _ _ a.g a.f.2.1 a.f.1) ?_);rintro _ _ _ a ⟨Az,cz,Z,rfl,Q,L,M⟩;replace a:=((a.aS L).aT M);exact lL a ax (ae a [] (.tuple #[qS Az Z.length cz,iV 0]) (⟨_,_,Z,rfl,Q,a.f.2.1,a.f.1⟩))
theorem HO (ok:ByteArray->Prop)(ix:ByteArray->Nat)(fs ws:List Rat)(U:Z9)(p:Nat)(ns:List ByteArray)(FA:Z9)(cF:Nat)(u:List RT)(Z:Z9)(cW:Nat)(J:List RT)(hfl:fs.length=ns.length)(hwl:ws.length=ns.length)(hnl:ns.length<=1000)(M:Nat)(bl:M+1<=13)(d:Nat)(n:Int)(I:Bool)(y:Z9)(D H:Nat)(F:Z9)(L z:Nat)(q:Rat)(s:ByteArray)(A:Z9)(c:Nat)(rs:List RTm)(ks:List Tm)(hfx:∀ k,k<ns.length->ns.getD k ⟨#[]⟩=s->(∀ i,i<k->ns.getD i ⟨#[]⟩≠s)->ix s=k)(hfo:∃ i,i<ns.length/\ns.getD i ⟨#[]⟩=s)(w:World)(h:Hp)(g:G w h)(hZ:RZ h (I,.slice y D H,.slice F L z) q)(hN:SlO 1 bB ⟨#[]⟩ h U ns)(hF:Sr FA u h)(hTf:RTs h u fs)(hW_:Sr Z J h)(hTw:RTs h J ws):CR 26 #[bJ ⟨2,n,I,y,D,H,F,L,z,s,A,rs.length,c⟩,.slice U ns.length p,.slice FA u.length cF,.slice Z J.length cW,nV M,.bool false] w h (fun v h1=>∃ (A_:Z9)(c_:Nat)(ts_:List RT),v=.tuple #[.slice A_ ts_.length c_,iV (bu ix fs ws (M+1) (d+1) (.mk 2 n q s ks)).1]/\ts_.length<=c_/\Sr A_ ts_ h1/\RTs h1 ts_ (bu ix fs ws (M+1) (d+1) (.mk 2 n q s ks)).2):=by
 have a:=(((((((sS g).add (K:=fun j=>RZ j (I,qS y D H,qS F L z) q) hZ).aS hN).aS hF).aT hTf).aS hW_).aT hTw);have bm:=(a.f.r.1).len;have bk:=(a.f.1).len;refine go Tryz.func26 [(0,bJ ⟨2,n,I,y,D,H,F,L,z,s,A,rs.length,c⟩),(1,qS U ns.length p),(2,qS FA u.length cF),(3,qS Z J.length cW),(4,nV M),(5,qF)] rfl (aD (lA 6 31 (bE ⟨2,n,I,y,D,H,F,L,z,s,A,rs.length,c⟩) a (fun X w2 h3 a=>lL a ax (ah (aa a [.v (pB X),.o (iV 2) 0 0 1] (aZ (aa a [.v qF,.c] (ag (aa a [.v qT,.c] (ak (cQ (aa a ac (aZ ?_)))))))))))));refine bH _ (CG.loop (fun μ_ Γ w_=>∃ (k:Nat)(j:Hp),μ_=ns.length-k/\Γ=[(1,qS U ns.length p),(2,qS FA u.length cF),(3,qS Z J.length cW),(4,nV M),(5,qF),(6,pB X),(14,nV k)]/\SS w h w_ j [⟨X,31,bE ⟨2,n,I,y,D,H,F,L,z,s,A,rs.length,c⟩⟩] [] [Rt J ws,Sr Z J,Rt u fs,Sr FA u,fun j=>SlO 1 bB ⟨#[]⟩ j U ns,fun j=>RZ j (I,qS y D H,qS F L z) q]/\k<=ns.length/\(∀ i,i<k->ns.getD i ⟨#[]⟩≠s)) _ ⟨0,h3,rfl,rfl,a.to _ _,Mv _,(fun i hi=>absurd hi (NK i))⟩ ?_);rintro _ _ w4 ⟨k,h5,hm6,rfl,a,hk,C⟩;refine cQ (aa a [.c,.c,.v (nV ns.length)] ?_);cases x:(decide ((k:Int)<(ns.length:Int)))
 .
  have bf:=oF x;refine lB 34 x (ag (CG.exit ?_))
  show CG _ _ _ _ _ _ _ _
  refine aa a ax (lN (kX ?_));exact absurd hfo (fun j=>by obtain ⟨i_,h1_,h2_⟩:=j;exact C i_ oM h2_)
 have bf:=oT x;refine lB 34 x (ak (cK (cQ (kZ (cQ (cR 7 [] mixed a ar ?_))))));refine eV 0 37 (qS U ns.length p) (eV 1 38 (nV k) (eX 2 39 U ns.length p 1 (k:Nat) k ((a.f.q.1).ok oM) (eH 3 40 (.string (ns.getD k ⟨#[]⟩)) a ((a.f.q.1).el k oM) (eV 4 41 (qP X 5) (eO 5 42 [(0,5,1)] (.string s) a ?_)))));cases B:(kC (ns.getD k ⟨#[]⟩) s)
 .
  have bd:=ii B;refine eB 6 43 B (bS a (fun w9 zi a=>tN (dC (cK (kQ (lL a ac (bv 36 ((k:Nat)+1) (k+1) ?_)))))));refine lL a ac (lD ?_);intro a_ ka;refine ⟨_,_,?_,⟨k+1,zi,rfl,rfl,a.to _ _,oM,(fun i hi=>by rcases NL.1 hi with j|rfl;exact C i j;assumption)⟩,ka.to _ kR⟩
  omega
 have bd:=g7 B;refine eB 6 43 B (bS a (fun _ _ a=>tN (cn (aa a ax (lX 46 FA u.length cF 3 (k:Nat) k ((a.f.r.2.1).ok oM) ?_)))));refine lH 47 (rA (u.getD k iU)) a ((a.f.r.2.1).el k oM) (lL a ac (Lb 49 (JB (u.getD k iU) (fs.getD k 0) M oM _ _ a.g (RTs.nil.snoc ((a.f.r.1).at_ k oM)) a) ?_));rintro _ _ _ ⟨A1,c1,e,rfl,hTz,a⟩;replace a:=a.to [⟨X,31,bE ⟨2,n,I,y,D,H,F,L,z,s,A,rs.length,c⟩⟩] [⟨28,3,A1,c1,(e).length,(e).flatMap fJ⟩];replace a:=(a.aT hTz);have bb:=(a.f.1).len;rw[bZ] at bb
 refine lL a ac (ah (aa a ac ?_));cases zb:(decide ((0:Int)<(M:Int)))
 .
  have zd:=oF zb;refine lB 51 zb (ag (cK (aa a cJ (lN (kX ?_)))));have S:ix s=k:=hfx k oM aM C;obtain ⟨_,a,zf⟩:=a.pubr 0 (A:=A1) (c:=c1) (l:=e) (f:=fJ) (ty:=28) (sz:=3) iU (fun _=>rfl);exact a.ret [] (.tuple #[qS A1 ((e).length) c1,iV 0]) (by rw[Fr,S,Hk oM];exact ⟨_,_,e,rfl,zf,a.f.1,a.f.2.1⟩)
 have zd:=oT zb;refine lB 51 zb (ak (kQ (lL a cJ (lX 55 Z J.length cW 3 (k:Nat) k ((a.f.r.1).ok oM) ?_))));obtain ⟨Q,V,O,W,ew,hcw,hdw,hAw,hDw⟩:=(a.f.2.1).at_ k oM;replace a:=a.aP hAw hDw;refine HY 56 (rA (J.getD k iU)) a ((a.f.q.1).el k oM) ew ?_;obtain ⟨Y,ze⟩:=a.rowA 0 (A:=A1) (c:=c1) (m:=(e).length) (ty:=28) (sz:=3) (cs:=(e).flatMap fJ) oM;subst ze;refine lX 57 (sB Y) ((e).length) c1 3 1 1 rfl (FG (ty:=28) (c:=c1) (b:=Y) 0 1 0 (iS (ws.getD k 0) Q V O W) e fJ 3 iU ((af (ws.getD k 0).num,qS Q ((lim (ab (ws.getD k 0).num)).length) V,qS O ((lim (ws.getD k 0).den).length) W):RT) a oM (fun _ a=>?_));replace a:=a.to [⟨X,31,bE ⟨2,n,I,y,D,H,F,L,z,s,A,rs.length,c⟩⟩] [⟨28,3,sB Y,c1,(e).length,(e.set 1 ((af (ws.getD k 0).num,qS Q ((lim (ab (ws.getD k 0).num)).length) V,qS O ((lim (ws.getD k 0).den).length) W):RT)).flatMap fJ⟩];refine aG (lL a cJ (lN (kX ?_)));have S:ix s=k:=hfx k oM aM C;replace a:=a.rown [⟨28,3,sB Y,c1,(e.set 1 ((af (ws.getD k 0).num,qS Q ((lim (ab (ws.getD k 0).num)).length) V,qS O ((lim (ws.getD k 0).den).length) W):RT)).length,(e.set 1 ((af (ws.getD k 0).num,qS Q ((lim (ab (ws.getD k 0).num)).length) V,qS O ((lim (ws.getD k 0).den).length) W):RT)).flatMap fJ⟩] (by simp only[Md]);obtain ⟨_,a,zg⟩:=a.pubr 0 (A:=sB Y) (c:=c1) (l:=e.set 1 ((af (ws.getD k 0).num,qS Q ((lim (ab (ws.getD k 0).num)).length) V,qS O ((lim (ws.getD k 0).den).length) W):RT)) (f:=fJ) (ty:=28) (sz:=3) iU (fun _=>rfl);exact a.ret [] (.tuple #[qS (sB Y) ((e).length) c1,iV 0]) (by rw[Fr,S,G3 oM];exact ⟨_,_,(e.set 1 ((af (ws.getD k 0).num,qS Q ((lim (ab (ws.getD k 0).num)).length) V,qS O ((lim (ws.getD k 0).den).length) W):RT)),by rw[Md],(by rw[Md] at *;exact zg),a.f.1,(xm a.f.r.2.1 1 (oR hcw hdw a.f.r.1 a.f.2.1))⟩)
theorem Hd  (ok:ByteArray->Prop)(ix:ByteArray->Nat)(fs ws:List Rat)(B:Z9)(x:Nat)(ns:List ByteArray)(F:Z9)(cF:Nat)(y:List RT)(D:Z9)(M:Nat)(z:List RT)(hfl:fs.length=ns.length)(hwl:ws.length=ns.length)(hnl:ns.length<=1000)(j:Nat)(L:j+1<=13)(d:Nat)(ih:∀ (r:RTm) (t:Tm) (w:World) (h:Hp),G w h->RmH d h r t->WfT1 ok d t->bI d t<=1000->SlO 1 bB ⟨#[]⟩ h B ns->Sr F y h->RTs h y fs->Sr D z h->RTs h z ws->Calls Tryz.prog 26 #[bJ r,.slice B ns.length x,.slice F y.length cF,.slice D z.length M,nV j,.bool false] w (Ret w h (fun v h1=>∃ (A_:Z9)(c_:Nat)(ts_:List RT),v=.tuple #[.slice A_ ts_.length c_,iV (bu ix fs ws (j+1) d t).1]/\ts_.length<=c_/\Sr A_ ts_ h1/\RTs h1 ts_ (bu ix fs ws (j+1) d t).2)))(op n:Int)(X:Bool)(I:Z9)(U W:Nat)(V:Z9)(dn J:Nat)(q:Rat)(s:ByteArray)(A:Z9)(c:Nat)(C:RTm)(i:Tm)(Z:WfT1 ok d i)(Y:bI d i<=1000)(hz1:1<=bI d i/\SzR (4*(2^d*bI d i)-3) (bu ix fs ws (j+1) d i).2)(hd6:d<=6)(hop:3<=op/\op<=13)(har:gG op=1)(hn : -12<=n/\n<=12)(hzg:op=8->n.natAbs*bI d i<=1000)(w:World)(h:Hp)(g:G w h)(hK:SlO 7 bE bT h A ([C]:List RTm))(hr1:RmH d h C i)(hN:SlO 1 bB ⟨#[]⟩ h B ns)(hF:Sr F y h)(hTf:RTs h y fs)(hW_:Sr D z h)(hTw:RTs h z ws):CR 26 #[bJ ⟨op,n,X,I,U,W,V,dn,J,s,A,1,c⟩,.slice B ns.length x,.slice F y.length cF,.slice D z.length M,nV j,.bool false] w h (fun v h1=>∃ (A_:Z9)(c_:Nat)(ts_:List RT),v=.tuple #[.slice A_ ts_.length c_,iV (bu ix fs ws (j+1) (d+1) (.mk op n q s ([i]:List Tm))).1]/\ts_.length<=c_/\Sr A_ ts_ h1/\RTs h1 ts_ (bu ix fs ws (j+1) (d+1) (.mk op n q s ([i]:List Tm))).2):=by
 have a:=((((((((sS g).aS hK).add (K:=fun H=>RmH d H C i) hr1).aS hN).aS hF).aT hTf).aS hW_).aT hTw);have hln:([C]:List RTm).length=1:=rfl;have hac:=aE op;have bk:2^d*bI d i<=64000:=eb (Ma (Lw kD hd6) Y) kD;have S:op=8->n.natAbs*((4*(2^d*bI d i)-3)+1)<=700000:=fun H=>by have q_:=Fa hd6 (hzg H) (show n.natAbs<=12 by omega);rw[show 2*(4*(2^d*bI d i)-3)+2=2*((4*(2^d*bI d i)-3)+1) by omega,Ob] at q_;omega
 refine go Tryz.func26 [(0,bJ ⟨op,n,X,I,U,W,V,dn,J,s,A,1,c⟩),(1,qS B ns.length x),(2,qS F y.length cF),(3,qS D z.length M),(4,nV j),(5,qF)] rfl (aD (lA 6 31 (bE ⟨op,n,X,I,U,W,V,dn,J,s,A,1,c⟩) a (fun u w2 h3 a=>lL a ax (ah (aa a [.v (pB u),.o (iV op) 0 0 1] (aZ (aD ?_)))))));have O:((op:Int) == (1:Int))=false:=fh oM;have bd:=aj O;refine lB 23 O (lL a ac (ag (aD ?_)));have Q:((op:Int) == (2:Int))=false:=fh oM;have bl:=aj Q;refine lB 30 Q (lL a ac (ag (cK (aD (HW 59 36 1 vc ([(sZ:Value),(sZ:Value)]:List Value) a (fun p w7 h8 a=>lL a ac ?_))))));have bf:(([(sZ:Value),(sZ:Value)]:List Value)).length=2:=rfl;refine ah (aa a ac (aZ (cU ?_)));refine cN (cQ (aa a [.c,.v (qP u 6),.o (qS A 1 c) 0 6 1,.v (iV 1),.v qT] (ak (cK (cQ (kZ (aa a [.v (qP u 6),.o (qS A 1 c) 0 6 1,.c] (lX 71 A 1 c 7 0 0 ((a.f.q.r.1).ok oM) ?_))))))));refine lH 72 (bJ (([C]:List RTm).getD 0 bT)) a ((a.f.q.r.1).el 0 oM) (lL a m5 (lC 78 a (ih (([C]:List RTm).getD 0 bT) i _ _ a.g a.f.q.2.1 Z Y a.f.q.1 a.f.r.2.1 a.f.r.1 a.f.2.1 a.f.1) ?_));rintro _ _ _ a ⟨l,c1,e,rfl,bb,hS1,hT1⟩;replace a:=((a.aS hS1).aT hT1);refine lL a [.c,.v (qS l e.length c1),.v (iV ((bu ix fs ws (j+1) d i).1)),.c,.c] (ah (aa a ac ?_));cases za:(((bu ix fs ws (j+1) d i).1:Int) != (0:Int))
 .
  have zb:=aW za;refine lB 82 za (ag (cK (kQ (lL a cJ (lX 87 (sB p) ((([(sZ:Value),(sZ:Value)]:List Value)).length) ((([(sZ:Value),(sZ:Value)]:List Value)).length) 1 0 0 rfl ?_)))));refine FG (ty:=36) (c:=(([(sZ:Value),(sZ:Value)]:List Value)).length) (b:=p) 0 0 0 ([qS l e.length c1]) ([(sZ:Value),(sZ:Value)]:List Value) vc 1 undef (qS l e.length c1:Value) a oM (fun _ a=>?_);replace a:=a.to [⟨u,31,bE ⟨op,n,X,I,U,W,V,dn,J,s,A,1,c⟩⟩] [⟨36,1,sB p,(([(sZ:Value),(sZ:Value)]:List Value)).length,(([(sZ:Value),(sZ:Value)]:List Value)).length,(([(sZ:Value),(sZ:Value)]:List Value).set 0 (qS l e.length c1:Value)).flatMap vc⟩];have bm:(([(sZ:Value),(sZ:Value)]:List Value).set 0 (qS l e.length c1:Value)).length=2:=rfl;refine lN (kQ (lL a [.c,.v (iV 1),.c] (lD (CL.to [(1,qS B ns.length x),(2,qS F y.length cF),(3,qS D z.length M),(4,nV j),(5,qF),(6,pB u),(12,sZ),(13,iV 0),(16,qS (sB p) ((([(sZ:Value),(sZ:Value)]:List Value)).length) ((([(sZ:Value),(sZ:Value)]:List Value)).length)),(17,iV 1),(60,iV 0),(61,qP u 6),(62,qS A 1 c),(63,iV 1),(64,qT),(68,qP u 6),(69,qS A 1 c),(70,iV 0),(71,.pointer (some ⟨(aB A),aO A+0*7,none⟩)),(72,bJ (([C]:List RTm).getD 0 bT)),(73,qS B ns.length x),(74,qS F y.length cF),(75,qS D z.length M),(76,nV j),(77,qF),(78,.tuple #[qS l e.length c1,iV ((bu ix fs ws (j+1) d i).1)]),(67,.tuple #[qS l e.length c1,iV ((bu ix fs ws (j+1) d i).1)]),(79,qS l e.length c1),(80,iV ((bu ix fs ws (j+1) d i).1)),(18,qS l e.length c1),(19,iV ((bu ix fs ws (j+1) d i).1)),(81,iV ((bu ix fs ws (j+1) d i).1)),(82,qF),(84,qS (sB p) ((([(sZ:Value),(sZ:Value)]:List Value)).length) ((([(sZ:Value),(sZ:Value)]:List Value)).length)),(85,iV 0),(86,qS l e.length c1),(87,qP p (0+0*1)),(65,iV 0),(66,iV 1)] ?_))));replace a:=a.to [⟨u,31,bE ⟨op,n,X,I,U,W,V,dn,J,s,A,1,c⟩⟩] [⟨36,1,sB p,(([(sZ:Value),(sZ:Value)]:List Value)).length,(([(sZ:Value),(sZ:Value)]:List Value)).length,(([(sZ:Value),(sZ:Value)]:List Value).set 0 (qS l e.length c1:Value)).flatMap vc⟩];refine cN (cQ (aa a [.c,.v (qP u 6),.o (qS A 1 c) 0 6 1,.v (iV 1),.v qF] (ag (CG.exit ?_))))
  show CG _ _ _ _ _ _ _ _
  refine cQ (cR 14 [] mixed a ar ?_);refine eV 0 88 (pB u) (eO 1 89 [(0,0,1)] (iV op) a (eV 2 90 (qP u 1) (eO 3 91 [(0,1,1)] (iV n) a (eV 4 92 (qS (sB p) ((([(sZ:Value),(sZ:Value)]:List Value)).length) ((([(sZ:Value),(sZ:Value)]:List Value)).length)) (eX 5 93 (sB p) ((([(sZ:Value),(sZ:Value)]:List Value)).length) ((([(sZ:Value),(sZ:Value)]:List Value)).length) 1 0 0 rfl (FB (ty:=36) (sz:=1) (c:=(([(sZ:Value),(sZ:Value)]:List Value)).length) (m:=(([(sZ:Value),(sZ:Value)]:List Value)).length) (b:=p) (cs:=(([(sZ:Value),(sZ:Value)]:List Value).set 0 (qS l e.length c1:Value)).flatMap vc) 6 94 0 (qS l e.length c1) ([qS l e.length c1]) a (fF (f:=vc) (sz:=1) (fun _=>rfl) undef (([(sZ:Value),(sZ:Value)]:List Value).set 0 (qS l e.length c1:Value)) 0 oM) (eV 7 95 (qS (sB p) ((([(sZ:Value),(sZ:Value)]:List Value)).length) ((([(sZ:Value),(sZ:Value)]:List Value)).length)) (eX 8 96 (sB p) ((([(sZ:Value),(sZ:Value)]:List Value)).length) ((([(sZ:Value),(sZ:Value)]:List Value)).length) 1 1 1 rfl (FB (ty:=36) (sz:=1) (c:=(([(sZ:Value),(sZ:Value)]:List Value)).length) (m:=(([(sZ:Value),(sZ:Value)]:List Value)).length) (b:=p) (cs:=(([(sZ:Value),(sZ:Value)]:List Value).set 0 (qS l e.length c1:Value)).flatMap vc) 9 97 0 (sZ) ([sZ]) a (fF (f:=vc) (sz:=1) (fun _=>rfl) undef (([(sZ:Value),(sZ:Value)]:List Value).set 0 (qS l e.length c1:Value)) 1 oM) (eV 10 98 qF (eC 11 99 a (fun _ _ a=>lw op n l c1 (bu ix fs ws (j+1) d i).2 e none 0 [] [] bb (nR _) j L (4*(2^d*bI d i)-3) 0 (fl Z oM) (fun H=>absurd H oM) hz1.2 (SzR.nil 0) oM oM S hop (fun _=>hn) _ _ a.g a.f.2.1 a.f.1 SlO.nil RTs.nil) ?_)))))))))));rintro _ _ _ _ _ a ⟨Ar,cr,tr,rfl,hcr,hAr,hTr⟩;replace a:=((a.aS hAr).aT hTr);refine eV 12 100 (qS Ar tr.length cr) (eV 13 101 (iV (dN op n ((bu ix fs ws (j+1) d i).2.getD 0 0) (([]:List Rat).getD 0 0))) (bS a (fun _ _ a=>tV 14 12 (qS Ar tr.length cr) (tV 15 13 (iV (dN op n ((bu ix fs ws (j+1) d i).2.getD 0 0) (([]:List Rat).getD 0 0))) (tN (bH [(12,qS Ar tr.length cr),(13,iV (dN op n ((bu ix fs ws (j+1) d i).2.getD 0 0) (([]:List Rat).getD 0 0)))] ?_))))));exact kX (a.ret [] (.tuple #[qS Ar tr.length cr,iV (dN op n ((bu ix fs ws (j+1) d i).2.getD 0 0) (([]:List Rat).getD 0 0))]) (by rw[mt oM oM,Fd oM rfl];exact ⟨_,_,tr,rfl,hcr,a.f.2.1,a.f.1⟩))
 have zb:=aK za;exact lB 82 za (ak (aa a cJ (ae a [] (.tuple #[sZ,iV ((bu ix fs ws (j+1) d i).1)]) (by rw[mt oM oM,jL oM];exact ⟨none,0,[],rfl,nR _,SlO.nil,RTs.nil⟩))))
theorem GI  (ok:ByteArray->Prop)(ix:ByteArray->Nat)(fs ws:List Rat)(I:Z9)(B:Nat)(ns:List ByteArray)(L:Z9)(X:Nat)(C:List RT)(J:Z9)(Q:Nat)(D:List RT)(hfl:fs.length=ns.length)(hwl:ws.length=ns.length)(hnl:ns.length<=1000)(i:Nat)(bb:i+1<=13)(d:Nat)(ih:∀ (r:RTm) (t:Tm) (w:World) (h:Hp),G w h->RmH d h r t->WfT1 ok d t->bI d t<=1000->SlO 1 bB ⟨#[]⟩ h I ns->Sr L C h->RTs h C fs->Sr J D h->RTs h D ws->Calls Tryz.prog 26 #[bJ r,.slice I ns.length B,.slice L C.length X,.slice J D.length Q,nV i,.bool false] w (Ret w h (fun v h1=>∃ (A_:Z9)(c_:Nat)(ts_:List RT),v=.tuple #[.slice A_ ts_.length c_,iV (bu ix fs ws (i+1) d t).1]/\ts_.length<=c_/\Sr A_ ts_ h1/\RTs h1 ts_ (bu ix fs ws (i+1) d t).2)))(op n:Int)(W:Bool)(M:Z9)(S V:Nat)(U:Z9)(Y O:Nat)(q:Rat)(s:ByteArray)(A:Z9)(c:Nat)(F:RTm)(p:Tm)(hw1:WfT1 ok d p)(hg1:bI d p<=1000)(hz1:1<=bI d p/\SzR (4*(2^d*bI d p)-3) (bu ix fs ws (i+1) d p).2)(H:RTm)(l:Tm)(Z:WfT1 ok d l)(hg2:bI d l<=1000)(hz2:1<=bI d l/\SzR (4*(2^d*bI d l)-3) (bu ix fs ws (i+1) d l).2)(hd6:d<=6)(hop:3<=op/\op<=13)(har:gG op=2)(hn : -12<=n/\n<=12)(w:World)(h:Hp)(g:G w h)(hK:SlO 7 bE bT h A ([F,H]:List RTm))(hr1:RmH d h F p)(hr2:RmH d h H l)(hN:SlO 1 bB ⟨#[]⟩ h I ns)(hF:Sr L C h)(hTf:RTs h C fs)(hW_:Sr J D h)(hTw:RTs h D ws):CR 26 #[bJ ⟨op,n,W,M,S,V,U,Y,O,s,A,2,c⟩,.slice I ns.length B,.slice L C.length X,.slice J D.length Q,nV i,.bool false] w h (fun v h1=>∃ (A_:Z9)(c_:Nat)(ts_:List RT),v=.tuple #[.slice A_ ts_.length c_,iV (bu ix fs ws (i+1) (d+1) (.mk op n q s ([p,l]:List Tm))).1]/\ts_.length<=c_/\Sr A_ ts_ h1/\RTs h1 ts_ (bu ix fs ws (i+1) (d+1) (.mk op n q s ([p,l]:List Tm))).2):=by
 have a:=(((((((((sS g).aS hK).add (K:=fun h_=>RmH d h_ F p) hr1).add (K:=fun h_=>RmH d h_ H l) hr2).aS hN).aS hF).aT hTf).aS hW_).aT hTw);have hln:([F,H]:List RTm).length=2:=rfl;have hac:=aE op;have bn:2^d*bI d p<=64000:=eb (Ma (Lw kD hd6) hg1) kD;have bm:2^d*bI d l<=64000:=eb (Ma (Lw kD hd6) hg2) kD;refine go Tryz.func26 [(0,bJ ⟨op,n,W,M,S,V,U,Y,O,s,A,2,c⟩),(1,qS I ns.length B),(2,qS L C.length X),(3,qS J D.length Q),(4,nV i),(5,qF)] rfl (aD (lA 6 31 (bE ⟨op,n,W,M,S,V,U,Y,O,s,A,2,c⟩) a (fun y w2 h3 a=>lL a ax (ah (aa a [.v (pB y),.o (iV op) 0 0 1] (aZ (aD ?_)))))));have hb4:((op:Int) == (1:Int))=false:=fh oM;have bk:=aj hb4;refine lB 23 hb4 (lL a ac (ag (aD ?_)));have hb5:((op:Int) == (2:Int))=false:=fh oM;have br:=aj hb5;refine lB 30 hb5 (lL a ac (ag (cK (aD (HW 59 36 1 vc ([(sZ:Value),(sZ:Value)]:List Value) a (fun x w7 h8 a=>lL a ac ?_))))));have bl:(([(sZ:Value),(sZ:Value)]:List Value)).length=2:=rfl;refine ah (aa a ac (aZ (cU ?_)));refine cN (cQ (aa a [.c,.v (qP y 6),.o (qS A 2 c) 0 6 1,.v (iV 2),.v qT] (ak (cK (cQ (kZ (aa a [.v (qP y 6),.o (qS A 2 c) 0 6 1,.c] (lX 71 A 2 c 7 0 0 ((a.f.q.r.2.1).ok oM) ?_))))))));refine lH 72 (bJ (([F,H]:List RTm).getD 0 bT)) a ((a.f.q.r.2.1).el 0 oM) (lL a m5 (lC 78 a (ih (([F,H]:List RTm).getD 0 bT) p _ _ a.g a.f.q.r.1 hw1 hg1 a.f.q.1 a.f.r.2.1 a.f.r.1 a.f.2.1 a.f.1) ?_));rintro _ _ _ a ⟨u,c1,e,rfl,bf,hS1,hT1⟩;replace a:=((a.aS hS1).aT hT1);refine lL a [.c,.v (qS u e.length c1),.v (iV ((bu ix fs ws (i+1) d p).1)),.c,.c] (ah (aa a ac ?_));cases za:(((bu ix fs ws (i+1) d p).1:Int) != (0:Int))
 .
  have zd:=aW za;refine lB 82 za (ag (cK (kQ (lL a cJ (lX 87 (sB x) ((([(sZ:Value),(sZ:Value)]:List Value)).length) ((([(sZ:Value),(sZ:Value)]:List Value)).length) 1 0 0 rfl ?_)))));refine FG (ty:=36) (c:=(([(sZ:Value),(sZ:Value)]:List Value)).length) (b:=x) 0 0 0 ([qS u e.length c1]) ([(sZ:Value),(sZ:Value)]:List Value) vc 1 undef (qS u e.length c1:Value) a oM (fun _ a=>?_);replace a:=a.to [⟨y,31,bE ⟨op,n,W,M,S,V,U,Y,O,s,A,2,c⟩⟩] [⟨36,1,sB x,(([(sZ:Value),(sZ:Value)]:List Value)).length,(([(sZ:Value),(sZ:Value)]:List Value)).length,(([(sZ:Value),(sZ:Value)]:List Value).set 0 (qS u e.length c1:Value)).flatMap vc⟩];have bt:(([(sZ:Value),(sZ:Value)]:List Value).set 0 (qS u e.length c1:Value)).length=2:=rfl;refine lN (kQ (lL a [.c,.v (iV 1),.c] (lD (CL.to [(1,qS I ns.length B),(2,qS L C.length X),(3,qS J D.length Q),(4,nV i),(5,qF),(6,pB y),(12,sZ),(13,iV 0),(16,qS (sB x) ((([(sZ:Value),(sZ:Value)]:List Value)).length) ((([(sZ:Value),(sZ:Value)]:List Value)).length)),(17,iV 1),(60,iV 0),(61,qP y 6),(62,qS A 2 c),(63,iV 2),(64,qT),(68,qP y 6),(69,qS A 2 c),(70,iV 0),(71,.pointer (some ⟨(aB A),aO A+0*7,none⟩)),(72,bJ (([F,H]:List RTm).getD 0 bT)),(73,qS I ns.length B),(74,qS L C.length X),(75,qS J D.length Q),(76,nV i),(77,qF),(78,.tuple #[qS u e.length c1,iV ((bu ix fs ws (i+1) d p).1)]),(67,.tuple #[qS u e.length c1,iV ((bu ix fs ws (i+1) d p).1)]),(79,qS u e.length c1),(80,iV ((bu ix fs ws (i+1) d p).1)),(18,qS u e.length c1),(19,iV ((bu ix fs ws (i+1) d p).1)),(81,iV ((bu ix fs ws (i+1) d p).1)),(82,qF),(84,qS (sB x) ((([(sZ:Value),(sZ:Value)]:List Value)).length) ((([(sZ:Value),(sZ:Value)]:List Value)).length)),(85,iV 0),(86,qS u e.length c1),(87,qP x (0+0*1)),(65,iV 0),(66,iV 1)] ?_))));replace a:=a.to [⟨y,31,bE ⟨op,n,W,M,S,V,U,Y,O,s,A,2,c⟩⟩] [⟨36,1,sB x,(([(sZ:Value),(sZ:Value)]:List Value)).length,(([(sZ:Value),(sZ:Value)]:List Value)).length,(([(sZ:Value),(sZ:Value)]:List Value).set 0 (qS u e.length c1:Value)).flatMap vc⟩];refine cN (cQ (aa a [.c,.v (qP y 6),.o (qS A 2 c) 0 6 1,.v (iV 2),.v qT] (ak (cK (cQ (kZ (aa a [.v (qP y 6),.o (qS A 2 c) 0 6 1,.c] (lX 71 A 2 c 7 1 1 ((a.f.q.q.2.1).ok oM) ?_))))))));refine lH 72 (bJ (([F,H]:List RTm).getD 1 bT)) a ((a.f.q.q.2.1).el 1 oM) (lL a m5 (lC 78 a (ih (([F,H]:List RTm).getD 1 bT) l _ _ a.g a.f.q.r.2.1 Z hg2 a.f.q.r.1 a.f.q.2.1 a.f.q.1 a.f.r.2.1 a.f.r.1) ?_));rintro _ _ _ a ⟨z,c2,j,rfl,bd,hS2,hT2⟩;replace a:=((a.aS hS2).aT hT2);refine lL a [.c,.v (qS z j.length c2),.v (iV ((bu ix fs ws (i+1) d l).1)),.c,.c] (ah (aa a ac ?_));cases zb:(((bu ix fs ws (i+1) d l).1:Int) != (0:Int))
  .
   have ze:=aW zb;refine lB 82 zb (ag (cK (kQ (lL a cJ (lX 87 (sB x) ((([(sZ:Value),(sZ:Value)]:List Value)).length) ((([(sZ:Value),(sZ:Value)]:List Value)).length) 1 1 1 rfl ?_)))));refine FG (ty:=36) (c:=(([(sZ:Value),(sZ:Value)]:List Value)).length) (b:=x) 0 1 0 ([qS z j.length c2]) (([(sZ:Value),(sZ:Value)]:List Value).set 0 (qS u e.length c1:Value)) vc 1 undef (qS z j.length c2:Value) a oM (fun _ a=>?_);replace a:=a.to [⟨y,31,bE ⟨op,n,W,M,S,V,U,Y,O,s,A,2,c⟩⟩] [⟨36,1,sB x,(([(sZ:Value),(sZ:Value)]:List Value)).length,(([(sZ:Value),(sZ:Value)]:List Value)).length,((([(sZ:Value),(sZ:Value)]:List Value).set 0 (qS u e.length c1:Value)).set 1 (qS z j.length c2:Value)).flatMap vc⟩];have bz:((([(sZ:Value),(sZ:Value)]:List Value).set 0 (qS u e.length c1:Value)).set 1 (qS z j.length c2:Value)).length=2:=rfl;refine lN (kQ (lL a [.c,.v (iV 2),.c] (lD (CL.to [(1,qS I ns.length B),(2,qS L C.length X),(3,qS J D.length Q),(4,nV i),(5,qF),(6,pB y),(12,sZ),(13,iV 0),(16,qS (sB x) ((([(sZ:Value),(sZ:Value)]:List Value)).length) ((([(sZ:Value),(sZ:Value)]:List Value)).length)),(17,iV 2),(60,iV 1),(61,qP y 6),(62,qS A 2 c),(63,iV 2),(64,qT),(68,qP y 6),(69,qS A 2 c),(70,iV 1),(71,.pointer (some ⟨(aB A),aO A+1*7,none⟩)),(72,bJ (([F,H]:List RTm).getD 1 bT)),(73,qS I ns.length B),(74,qS L C.length X),(75,qS J D.length Q),(76,nV i),(77,qF),(78,.tuple #[qS z j.length c2,iV ((bu ix fs ws (i+1) d l).1)]),(67,.tuple #[qS z j.length c2,iV ((bu ix fs ws (i+1) d l).1)]),(79,qS z j.length c2),(80,iV ((bu ix fs ws (i+1) d l).1)),(18,qS z j.length c2),(19,iV ((bu ix fs ws (i+1) d l).1)),(81,iV ((bu ix fs ws (i+1) d l).1)),(82,qF),(84,qS (sB x) ((([(sZ:Value),(sZ:Value)]:List Value)).length) ((([(sZ:Value),(sZ:Value)]:List Value)).length)),(85,iV 1),(86,qS z j.length c2),(87,qP x (0+1*1)),(65,iV 1),(66,iV 2)] ?_))));replace a:=a.to [⟨y,31,bE ⟨op,n,W,M,S,V,U,Y,O,s,A,2,c⟩⟩] [⟨36,1,sB x,(([(sZ:Value),(sZ:Value)]:List Value)).length,(([(sZ:Value),(sZ:Value)]:List Value)).length,((([(sZ:Value),(sZ:Value)]:List Value).set 0 (qS u e.length c1:Value)).set 1 (qS z j.length c2:Value)).flatMap vc⟩];refine cN (cQ (aa a [.c,.v (qP y 6),.o (qS A 2 c) 0 6 1,.v (iV 2),.v qF] (ag (CG.exit ?_))))
   show CG _ _ _ _ _ _ _ _
   refine cQ (cR 14 [] mixed a ar ?_);refine eV 0 88 (pB y) (eO 1 89 [(0,0,1)] (iV op) a (eV 2 90 (qP y 1) (eO 3 91 [(0,1,1)] (iV n) a (eV 4 92 (qS (sB x) ((([(sZ:Value),(sZ:Value)]:List Value)).length) ((([(sZ:Value),(sZ:Value)]:List Value)).length)) (eX 5 93 (sB x) ((([(sZ:Value),(sZ:Value)]:List Value)).length) ((([(sZ:Value),(sZ:Value)]:List Value)).length) 1 0 0 rfl (FB (ty:=36) (sz:=1) (c:=(([(sZ:Value),(sZ:Value)]:List Value)).length) (m:=(([(sZ:Value),(sZ:Value)]:List Value)).length) (b:=x) (cs:=((([(sZ:Value),(sZ:Value)]:List Value).set 0 (qS u e.length c1:Value)).set 1 (qS z j.length c2:Value)).flatMap vc) 6 94 0 (qS u e.length c1) ([qS u e.length c1]) a (fF (f:=vc) (sz:=1) (fun _=>rfl) undef ((([(sZ:Value),(sZ:Value)]:List Value).set 0 (qS u e.length c1:Value)).set 1 (qS z j.length c2:Value)) 0 oM) (eV 7 95 (qS (sB x) ((([(sZ:Value),(sZ:Value)]:List Value)).length) ((([(sZ:Value),(sZ:Value)]:List Value)).length)) (eX 8 96 (sB x) ((([(sZ:Value),(sZ:Value)]:List Value)).length) ((([(sZ:Value),(sZ:Value)]:List Value)).length) 1 1 1 rfl (FB (ty:=36) (sz:=1) (c:=(([(sZ:Value),(sZ:Value)]:List Value)).length) (m:=(([(sZ:Value),(sZ:Value)]:List Value)).length) (b:=x) (cs:=((([(sZ:Value),(sZ:Value)]:List Value).set 0 (qS u e.length c1:Value)).set 1 (qS z j.length c2:Value)).flatMap vc) 9 97 0 (qS z j.length c2) ([qS z j.length c2]) a (fF (f:=vc) (sz:=1) (fun _=>rfl) undef ((([(sZ:Value),(sZ:Value)]:List Value).set 0 (qS u e.length c1:Value)).set 1 (qS z j.length c2:Value)) 1 oM) (eV 10 98 qF (eC 11 99 a (fun _ _ a=>lw op n u c1 (bu ix fs ws (i+1) d p).2 e z c2 (bu ix fs ws (i+1) d l).2 j bf bd i bb (4*(2^d*bI d p)-3) (4*(2^d*bI d l)-3) (fl hw1 oM) (fun _=>fl Z oM) hz1.2 hz2.2 oM oM (fun h_=>absurd h_ oM) hop (fun _=>hn) _ _ a.g a.f.r.2.1 a.f.r.1 a.f.2.1 a.f.1) ?_)))))))))));rintro _ _ _ _ _ a ⟨Ar,cr,tr,rfl,hcr,hAr,hTr⟩;replace a:=((a.aS hAr).aT hTr);refine eV 12 100 (qS Ar tr.length cr) (eV 13 101 (iV (dN op n ((bu ix fs ws (i+1) d p).2.getD 0 0) ((bu ix fs ws (i+1) d l).2.getD 0 0))) (bS a (fun _ _ a=>tV 14 12 (qS Ar tr.length cr) (tV 15 13 (iV (dN op n ((bu ix fs ws (i+1) d p).2.getD 0 0) ((bu ix fs ws (i+1) d l).2.getD 0 0))) (tN (bH [(12,qS Ar tr.length cr),(13,iV (dN op n ((bu ix fs ws (i+1) d p).2.getD 0 0) ((bu ix fs ws (i+1) d l).2.getD 0 0)))] ?_))))));exact kX (a.ret [] (.tuple #[qS Ar tr.length cr,iV (dN op n ((bu ix fs ws (i+1) d p).2.getD 0 0) ((bu ix fs ws (i+1) d l).2.getD 0 0))]) (by rw[j3 oM oM,Fd oM oM];exact ⟨_,_,tr,rfl,hcr,a.f.2.1,a.f.1⟩))
  have ze:=aK zb;exact lB 82 zb (ak (aa a cJ (ae a [] (.tuple #[sZ,iV ((bu ix fs ws (i+1) d l).1)]) (by rw[j3 oM oM,qM oM oM];exact ⟨none,0,[],rfl,nR _,SlO.nil,RTs.nil⟩))))
 have zd:=aK za;exact lB 82 za (ak (aa a cJ (ae a [] (.tuple #[sZ,iV ((bu ix fs ws (i+1) d p).1)]) (by rw[j3 oM oM,jL oM];exact ⟨none,0,[],rfl,nR _,SlO.nil,RTs.nil⟩))))
end Go.Proofs.YtlidpooijdogdaaGreatDoor
