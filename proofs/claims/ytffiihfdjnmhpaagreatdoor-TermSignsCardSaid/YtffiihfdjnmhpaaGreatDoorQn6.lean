/- Laws of this claim, part 7. -/
import Derived.Test.YtffiihfdjnmhpaaGreatDoorQn0
import Derived.Test.YtffiihfdjnmhpaaGreatDoorQn1
import Derived.Test.YtffiihfdjnmhpaaGreatDoorQn2
import Derived.Test.YtffiihfdjnmhpaaGreatDoorQn3
import Derived.Test.YtffiihfdjnmhpaaGreatDoorQn4
import Derived.Test.YtffiihfdjnmhpaaGreatDoorQn5
set_option maxRecDepth 100000
set_option maxHeartbeats 4000000
namespace Go.Proofs.YtffiihfdjnmhpaaGreatDoor
open Bool renaming and_eq_true -> hI, noConfusion -> Kp
open Int renaming mul_nonneg -> KM
open List renaming getD_eq_getElem?_getD -> A6, mem_cons -> gq, mem_cons_of_mem -> JR, mem_cons_self -> JQ, mem_singleton -> n1, replicate -> ta, toArray -> J0
open Nat renaming div_le_self -> y7, le_mul_of_pos_left -> J9, le_mul_of_pos_right -> KK, le_of_lt -> JO, le_refl -> eb, le_trans -> ed, lt_of_le_of_lt -> y6, lt_of_lt_of_le -> ep, lt_or_ge -> co, lt_succ_iff_lt_or_eq -> Kl, not_lt_zero -> Kk, pow_le_pow_right -> Aa, pow_pos -> A8, succ_le_succ -> KL, zero_le -> JH
open Rat renaming num_eq_zero -> Kj
open Go.RowKit
open Go.RowKit Go.Shelf
open Go.RowKit Go.WideMaps
open Go.Shelf Go.RowKit Go.Sort Go.Lib
theorem xx (n:Nat)(c:(wds n).length<=1000000000)(b:Lib.nDigits n<=1000)(w:World)(h:Hp)(g:G w h)(a:Tab h):Calls Tryz.prog 87 #[nv n] w (Ret w h (fun v _=>v=.string (fI n))):=by
 rcases co n 18446744073709551616 with h1|h1
 ·rcases Nat.eq_zero_or_pos n with rfl|h0
  ·exact DX 0 h1 rfl w h g a
  ·exact Fj n h0 h1 w h g a
 ·exact DW n h1 c b w h g a
theorem EM (m n:Nat)(e:m=n)(c:(wds n).length<=1000000000)(a:Lib.nDigits n<=1000)(w:World)(h:Hp)(g:G w h)(b:Tab h):Calls Tryz.prog 87 #[nv m] w (Ret w h (fun v _=>v=.string (fI n))):=by
 subst e;exact xx m c a w h g b
theorem CJ (z:Int)(k:(wds (ab z)).length<=1000000000)(i:Lib.nDigits (ab z)<=1000)(w:World)(h:Hp)(g:G w h)(l:Tab h):CV 86 #[iv z] w h (.string (iP z)):=by
 have c:=((sS g).add (K:=fun p=>Tab p) l);refine go Tryz.func86 [(0,iv z)] rfl (aG (lA 1 28 (ic z) c (fun j w2 x c=>lL c ac (ai (aa c [.v (pB j),.o (.bool (au z)) 0 0 1] (lN ?_))))));cases d:(au z)
 .
  try rw[d] at c
  try rw[d]
  exact da (cK (aa c [.v (qP j 1),.o (nv (ab z)) 0 1 2] (aq 11 c (xx (ab z) k i _ _ c.g c.f.1) (fun y B c=>lL c ac (af c [] (.string (fI (ab z))) (by have e:¬z<0:=oF (show decide (z<0)=false by assumption);unfold iP;rw[if_neg e]<;>rfl))))))
 try rw[d] at c
 try rw[d]
 refine ci (aa c [.v (qP j 1),.o (nv (ab z)) 0 1 2] (aq 7 c (xx (ab z) k i _ _ c.g c.f.1) (fun C u c=>lV 8 (.string ((⟨#[45]⟩:ByteArray)++(fI (ab z)))) ?_ (hr:=dU (a:=⟨#[45]⟩) (b:=(fI (ab z))) kR (by rw[en];show 1+_<=_;omega)))));exact lL c ac (af c [] (.string ((⟨#[45]⟩:ByteArray)++(fI (ab z)))) (by have e :  z<0:=oT (show decide (z<0)=true by assumption);unfold iP;rw[if_pos e]<;>rfl))
theorem CS (q:Rat)(k:LQ 100000000 q)(d:Lib.nDigits (ab q.num)<=1000)(i:Lib.nDigits q.den<=1000)(w:World)(h:Hp)(g:G w h)(z:Tab h):CV 60 #[qv q] w h (.string (uw q)):=by
 have c:=((sS g).add (K:=fun B=>Tab B) z);have y:=k.qd;have u:=pd q.num;have x:=k.1;have p:=k.2;refine go Tryz.func60 [(0,qv q)] rfl (aG (lA 1 30 (qc q) c (fun l w2 H c=>lL c ac (ai (aa c [.o (qv q) 0 0 5] (aq 4 c (gY q k _ _ c.g) (fun I D c=>?_)))))));cases e:(decide (q.den=1))
 .
  have j:=oF e;refine ah (cK (cQ (cR 8 [] mixed c aw ?_)));refine eV 0 8 (pB l) (eO 1 9 [(0,0,3)] (iv q.num) c (eV 4 12 (qP l 3) (eO 5 13 [(0,3,2)] (nv (qd q)) c (aK 2 10 c (fun _ _ c=>CJ q.num oM d _ _ c.g c.f.1) (fun J F c=>eV 3 11 (.string (((iP q.num):ByteArray)++(⟨#[47]⟩))) ?_ (hv:=fun _=>dU (a:=(iP q.num)) (b:=⟨#[47]⟩) kR (by show _+1<=_;omega)))))));refine aK 6 14 c (fun _ _ c=>EM (qd q) q.den (if_neg aM) oM i _ _ c.g c.f.1) (fun C _ c=>eV 7 15 (.string ((((iP q.num):ByteArray)++(⟨#[47]⟩):ByteArray)++(fI q.den))) ?_ (hv:=fun _=>dU (a:=((iP q.num):ByteArray)++(⟨#[47]⟩)) (b:=(fI q.den)) kR (by rw[ByteArray.size_append,en];show _+1+_<=_;omega)));exact cG c (fun _ _ c=>tV 8 2 (.string ((((iP q.num):ByteArray)++(⟨#[47]⟩):ByteArray)++(fI q.den))) (tN (kX (c.ret [] (.string ((((iP q.num):ByteArray)++(⟨#[47]⟩):ByteArray)++(fI q.den))) (by unfold uw;first|rw[if_pos aM]|rw[if_neg aM])))))
 have j:=oT e;exact aj (aa c [.v (pB l),.o (iv q.num) 0 0 3] (aq 7 c (CJ q.num oM d _ _ c.g c.f.1) (fun _ _ c=>lL c ac (af c [] (.string (iP q.num)) (by unfold uw;first|rw[if_pos aM]|rw[if_neg aM])))))
theorem GB (x:ByteArray)(o:Nat)(hi:Lib.indexByte x.data.toList 93=(o:Int))(w:World)(h:Hp)(g:G w h):CV 163 #[.string x,.int .u8 93] w h (nV o):=by
 have q:=Ret.of_same g (Tryz.strings_IndexByte x 93 w);rw[show (93:Int).toNat.toUInt8=93 from rfl,hi] at q;exact q
theorem Is (x:ByteArray)(hi:Lib.indexByte x.data.toList 93 = -1)(w:World)(h:Hp)(g:G w h):CV 163 #[.string x,.int .u8 93] w h (iV (-1)):=by
 have q:=Ret.of_same g (Tryz.strings_IndexByte x 93 w);rw[show (93:Int).toNat.toUInt8=93 from rfl,hi] at q;exact q
theorem Bf {s:ByteArray}{a:Nat}(ha:a<=s.size)(h:rn cf s a=s.size):Lib.indexByte (s.extract a s.size).data.toList 93 = -1 :=
 np _ fun b f e=>by
  obtain ⟨i,hi,c⟩:=s8 f;rw[ByteArray.size_extract] at hi
  have h1:=At (p:=cf) (s:=s) (a:=a) (i:=a+i) oM oM;rw[dd] at c
  have d:ak s (a+i)≠93:=oT h1;exact d (by rw[c,e];rfl)
theorem pL {n:Int}{d:Nat}(b:0<d):ab (mkRat n d).num<=ab n/\(mkRat n d).den<=d:=by
 obtain ⟨h1,c,a,f⟩:=gV n d b;refine ⟨?_,by rw[c];exact y7 _ _⟩;have e:((Nat.gcd n.natAbs d:Nat):Int)∣n:=a;rw[h1];show (n/((Nat.gcd n.natAbs d:Nat):Int)).natAbs<=n.natAbs
 rw[Int.natAbs_ediv_of_dvd e];exact y7 _ _
theorem oa {x:ByteArray}{q:Rat}(h:cF x=some q):ab q.num<10^200*10^200/\q.den<=10^200:=by
  have c:10^200<=10^200*10^200:=KK _ (A8 kD)
  unfold cF at h
  split at h
  . unfold iB at h
    cases hz:ej (x.extract 0 (rn (cb 47) x 0)) with
    | none=>rw[hz] at h;cases h
    | some z =>
      rw[hz] at h
      cases a:bY (x.extract (rn (cb 47) x 0+1) x.size) with
      | none=>rw[a] at h;cases h
      | some k =>
        rw[a] at h
        dsimp only at h
        split at h
        . cases h
        . rename_i h0
          injection h with h;subst h
          have h1:=pL (n:=z) (d:=k) (Nat.pos_of_ne_zero h0);have f:=iT hz;have e:=cv a;exact ⟨y6 h1.1 (ep f c),ed h1.2 (JO e)⟩
  . split at h
    . generalize x.extract 0 (rn (cb 46) x 0)=u at h
      generalize x.extract (rn (cb 46) x 0+1) x.size=y at h
      cases a:bY (if ak u 0=45 then u.extract 1 u.size else u) with
      | none=>rw[iJ rfl a] at h;cases h
      | some k =>
        by_cases hd:1<=y.size/\y.size<=200/\(∀ i,i<y.size->bM (ak y i)=true)
        . have b:∀ i,i<y.size->48<=ak y i/\ak y i<=57:=fun i hi=>oT (hd.2.2 i hi)
          rw[gL rfl rfl a oM hd.2.1 b] at h
          injection h with h;subst h
          have h1:=pL (n:=bD (decide (ak u 0=45)) (k*10^y.size+dv y y.size)) (d:=10^y.size) (A8 kD);rw[cd] at h1
          exact ⟨y6 h1.1 (jN (cv a) hd.2.1 (hC y.size b)),ed h1.2 (Aa kD hd.2.1)⟩
        . unfold fL at h
          rw[a] at h
          dsimp only at h
          rw[if_neg hd] at h;cases h
    . cases hz:ej x with
      | none=>rw[hz] at h;cases h
      | some z =>
        rw[hz] at h;injection h with h;subst h
        rw[Rat.num_intCast,Rat.den_intCast];exact ⟨ep (iT hz) c,Nat.one_le_pow _ _ kD⟩
theorem kv {x:ByteArray}{q:Rat}(h:cF x=some q):LQ 3000 q:=by
 obtain ⟨h1,a⟩:=oa h;exact ⟨fJ (JO h1),fJ (ed a (KK _ (A8 kD)))⟩
theorem im {x:ByteArray}{q:Rat}(h:cF x=some q):Lib.nDigits (ab q.num)<=1000/\Lib.nDigits q.den<=1000:=by
 obtain ⟨h1,a⟩:=oa h;rw[<-Nat.pow_add] at h1
 exact ⟨ed (fg (200+200) _ kD h1) kD,ed (fg 201 _ kD (y6 a (Nat.pow_lt_pow_right kD kD))) kD⟩
theorem qz  (y:Nat)(s:ByteArray)(hsz:s.size<=1000000)(a:Nat)(ha:a<=s.size)(Y:Int)(q:Rat)(h91:ak s a=91)(D:rn cf s (a+1)≠s.size)(F:∀ (w:World) (h:Hp),G w h->Tab h->CV 124 #[.string (s.extract (a+1) (rn cf s (a+1)))] w h (.tuple #[qv q,.bool true]))(J:∀ (w:World) (h:Hp),G w h->Tab h->CV 60 #[qv q] w h (.string (s.extract (a+1) (rn cf s (a+1)))))(w:World)(h:Hp)(g:G w h)(ho:Own w y 59 [.string s,nV a,iV Y])(hj:h[y]?=some junk)(tb:Tab h):Calls Tryz.prog 127 #[pB y] w (bW y w h (Ai y s (dl q) (rn cf s (a+1)+1) Y)):=by
 have d:UpM [y] w h w h:=UpM.refl g;obtain ⟨wz,bb,b⟩:=SS.at_ g ho hj;have hin:=cn (s:=s) (a:=a) oM;have U:=f4 cf s (a+1);have Q:=dB (p:=cf) (s:=s) (a:=a+1) oM;have O:=wk (s:=s) (a:=a+1) oM D
 generalize hr:rn cf s (a+1)=r at D U Q O F J ⊢
 replace b:=(b.add (K:=fun X=>Tab X) tb);refine go Tryz.func127 [(0,pB y)] rfl (aa b ac (aE (lL b [.c,.v (pB y),.v (qP y 1),.o (nV a) 0 1 1,.c] (aE (lL b [.c,.v (pB y),.v (pB y),.o (.string s) 0 0 1,.c] (bg 18 ((a:Nat)+1) (a+1) ?_))))));refine lV 19 (.string (s.extract (a+1) s.size)) ?_ (hr:=fF (tx:=9) (x:=.tmp 16) (i:=.tmp 18) (k:=.i64) (s:=s) (n:=(a+1)) (j:=((a+1:Nat):Int)) kR kR kR kR oM oM _);refine d7 20 (GB (s.extract (a+1) s.size) (r-(a+1)) O _ _ b.g) ?_;rintro _ w1 h2 u3 rfl;replace d:=d.trans (u3.m _);replace b:=b.step u3;refine lL b ac (ai (aa b ac ?_));have S:(decide (((r-(a+1):Nat):Int)<(0:Int)))=false:=decide_eq_false oM;refine lB 22 S (ah (cK (aa b [.c,.v (pB y),.v (pB y),.o (.string s) 0 0 1,.c] (bg 31 ((a:Nat)+1) (a+1) ?_))));refine lL b ac (bg 33 ((a:Nat)+1) (a+1) ?_);refine lL b ac (bg 35 ((a+1:Nat)+(r-(a+1):Nat)) r ?_);refine lV 36 (.string (s.extract (a+1) r)) ?_ (hr:=eA (tx:=9) (x:=.tmp 29) (i:=.tmp 31) (e:=.tmp 35) (k:=.i64) (k2:=.i64) (s:=s) (n:=(a+1)) (m:=r) (j:=((a+1:Nat):Int)) (j2:=(r:Int)) kR kR kR kR kR oM oM oM oM _);refine lL b ac (aE (lL b ac (d7 39 (F _ _ b.g b.f.1) ?_)));rintro _ w5 h6 u7 rfl;replace d:=d.trans (u7.m _);replace b:=b.step u7;refine lL b [.c,.v (qv q),.v qT] (fe 6 30 a1 b (fun b8 w9 _ Z u b=>?_));replace u:=ed d.gr.size u;replace d:=d.trans (Z.m _);refine ce 0 0 (qc q) b (fun _ H b=>?_);replace d:=d.put2 H u g b.g;refine lL b ac (ai (aa b [.c,.v qF,.c,.o (qv q) 0 0 5] (d7 46 (J _ _ b.g b.f.1) ?_)));rintro _ _ _ L rfl;replace d:=d.trans (L.m _);replace b:=b.step L;refine lL b ac (lV 48 qF ?_ (hr:=rb kR (uM (s.extract (a+1) r))));refine lL b [.v qF] (lN (bG [(0,pB y),(2,.pointer none),(3,nV a),(4,nV (r-(a+1))),(6,pB b8),(49,qF)] ?_));refine da (cK (aa b aF (bg 55 ((a:Nat)+1) (a+1) ?_)));refine lL b ac (bg 57 ((a+1:Nat)+(r-(a+1):Nat)) r ?_);refine bg 58 ((r:Nat)+1) (r+1) (lL b [.v (pB y),.v (qP y 1)] (ce 1 1 ([nV (r+1)]) b (fun _ H b=>?_)));replace d:=d.put H (n1.2 rfl) b.g;refine aE (lL b [.o (qv q) 0 0 5] (d7 62 (rW q _ _ b.g) ?_));rintro _ _ _ C ⟨z,rfl,B⟩;replace d:=d.trans (C.m _);replace b:=b.step C;replace b:=(b.add (K:=fun X=>PtH X z (dl q)) B);refine fe 8 33 a2 b (fun V _ _ W l b=>?_);replace l:=ed d.gr.size l;replace d:=d.trans (W.m _);refine ce 0 0 (bv z) b (fun _ H b=>?_);replace d:=d.put2 H l g b.g;refine aE (lL b ac (lN (kX ?_)));obtain ⟨zb,b,d,I⟩:=b.pubM d 0 l;replace b:=b.to [⟨b8,30,qc q⟩,⟨y,59,[.string s,nV (r+1),iV Y]⟩] [];have M:Seg zb V 0 (bv z):=I;replace b:=b.a_Seg M;exact b.retM d [] (pB V) (by exact ⟨V,z,rfl,by first|assumption|omega,b.own 1,b.f.1,b.f.2.1⟩)
theorem qk  (u:Nat)(s:ByteArray)(C:s.size<=1000000)(a:Nat)(ha:a<=s.size)(V:Int)(b:Nat)(W:ak s a=91/\b=a/\(rn cf s (a+1)=s.size\/jO (s.extract (a+1) (rn cf s (a+1)))=none))(w:World)(h:Hp)(g:G w h)(ho:Own w u 59 [.string s,nV a,iV V])(hj:h[u]?=some junk)(tb:Tab h):Calls Tryz.prog 127 #[pB u] w (bW u w h (rm u s b)):=by
 have l:UpM [u] w h w h:=UpM.refl g;obtain ⟨wz,bb,d⟩:=SS.at_ g ho hj;obtain ⟨_,B,hbd⟩:=W;have hin:=cn (s:=s) (a:=a) oM;have hge:=f4 cf s (a+1);have hle:=dB (p:=cf) (s:=s) (a:=a+1) oM;replace d:=(d.add (K:=fun h_=>Tab h_) tb);refine go Tryz.func127 [(0,pB u)] rfl (aa d ac (aE (lL d [.c,.v (pB u),.v (qP u 1),.o (nV a) 0 1 1,.c] (aE (lL d [.c,.v (pB u),.v (pB u),.o (.string s) 0 0 1,.c] (bg 18 ((a:Nat)+1) (a+1) ?_))))));refine lV 19 (.string (s.extract (a+1) s.size)) ?_ (hr:=fF (tx:=9) (x:=.tmp 16) (i:=.tmp 18) (k:=.i64) (s:=s) (n:=(a+1)) (j:=((a+1:Nat):Int)) kR kR kR kR oM oM _)
 rcases Decidable.em (rn cf s (a+1)=s.size) with hnb|hnb
 .
  refine d7 20 (Is (s.extract (a+1) s.size) (Bf oM hnb) _ _ d.g) ?_;rintro _ w1 h2 u3 rfl;replace l:=l.trans (u3.m _);replace d:=d.step u3;refine lL d ac (ai (aa d [.c,.v qT] (aj (aa d aF (bj 25 (eh u s C a ha V a oM _ _ d.g (d.own 0) (d.jk 0) d.f.1) ?_)))));rintro _ w5 h6 u7 ⟨rfl,M⟩;replace d:=(d.stepM 0 u7 M).to [⟨u,59,[.string s,nV a,nV a]⟩] [];replace l:=l.trans u7;exact lL d ac (lN (kX (d.retM l [] (.pointer none) (by rw[B];exact ⟨a,rfl,by omega,d.own 0⟩))))
 have J:=hbd.resolve_left hnb;have Z:=wk (s:=s) (a:=a+1) oM hnb
 generalize hr:rn cf s (a+1)=r at hnb hge hle Z J
 refine d7 20 (GB (s.extract (a+1) s.size) (r-(a+1)) Z _ _ d.g) ?_;rintro _ w8 h9 Y rfl;replace l:=l.trans (Y.m _);replace d:=d.step Y;refine lL d ac (ai (aa d ac ?_));cases za:(decide (((r-(a+1):Nat):Int)<(0:Int)))
 .
  have zd:=oF za;refine lB 22 za (ah (cK (aa d [.c,.v (pB u),.v (pB u),.o (.string s) 0 0 1,.c] (bg 31 ((a:Nat)+1) (a+1) ?_))));refine lL d ac (bg 33 ((a:Nat)+1) (a+1) ?_);refine lL d ac (bg 35 ((a+1:Nat)+(r-(a+1):Nat)) r ?_);refine lV 36 (.string (s.extract (a+1) r)) ?_ (hr:=eA (tx:=9) (x:=.tmp 29) (i:=.tmp 31) (e:=.tmp 35) (k:=.i64) (k2:=.i64) (s:=s) (n:=(a+1)) (m:=r) (j:=((a+1:Nat):Int)) (j2:=(r:Int)) kR kR kR kR kR oM oM oM oM _);refine lL d ac (aE (lL d ac ?_))
  rcases hq:cF (s.extract (a+1) r) with _|q
  .
   refine d7 39 ((by have L:=nw (s.extract (a+1) r) (by rw[ByteArray.size_extract];omega) _ _ d.g (d.f.1);rw[hq] at L;exact L)) ?_;rintro _ _ _ I rfl;replace l:=l.trans (I.m _);replace d:=d.step I;refine lL d [.c,.v (qv 0),.v qF] (fe 6 30 a1 d (fun zf _ _ u18 z d=>?_));replace z:=ed l.gr.size z;replace l:=l.trans (u18.m _);refine ce 0 0 (qc 0) d (fun _ pu d=>?_);replace l:=l.put2 pu z g d.g;refine lL d ac (ai (aa d [.c,.v qT,.c] (lG 45 ?_)));refine lG 46 (lG 47 (lG 48 (lL d [.v qT] (lN (bG [(0,pB u),(2,.pointer none),(3,nV a),(4,nV (r-(a+1))),(6,pB zf),(49,qT)] ?_)))));refine ci (aa d aF (bj 52 (eh u s C a ha V a oM _ _ d.g (d.own 1) (d.jk 1) d.f.1) ?_));rintro _ _ _ S ⟨rfl,H⟩;replace d:=(d.stepM 1 S H).to [⟨zf,30,qc 0⟩,⟨u,59,[.string s,nV a,nV a]⟩] [];replace l:=l.trans S;exact lL d ac (lN (kX (d.retM l [] (.pointer none) (by rw[B];exact ⟨a,rfl,by omega,d.own 1⟩))))
  refine d7 39 ((by have L:=nw (s.extract (a+1) r) (by rw[ByteArray.size_extract];omega) _ _ d.g (d.f.1);rw[hq] at L;exact L)) ?_;rintro _ _ _ O rfl;replace l:=l.trans (O.m _);replace d:=d.step O;refine lL d [.c,.v (qv q),.v qT] (fe 6 30 a1 d (fun zc _ _ u30 y d=>?_));replace y:=ed l.gr.size y;replace l:=l.trans (u30.m _);refine ce 0 0 (qc q) d (fun _ pu d=>?_);replace l:=l.put2 pu y g d.g;refine lL d ac (ai (aa d [.c,.v qF,.c,.o (qv q) 0 0 5] (d7 46 (CS q ((kv hq).mono kD) (im hq).1 (im hq).2 _ _ d.g d.f.1) ?_)));rintro _ _ _ U rfl;replace l:=l.trans (U.m _);replace d:=d.step U;refine lL d ac ?_;cases zb:(j4 (uw q) (s.extract (a+1) r))
  .
   have ze:=ku zb;refine lB 48 zb (lL d [.v qF] (lN (bG [(0,pB u),(2,.pointer none),(3,nV a),(4,nV (r-(a+1))),(6,pB zc),(49,qF)] ?_)));refine da (cK (aG ?_));exact absurd (show jO (s.extract (a+1) r)=some q by unfold jO;rw[hq];exact if_pos aM) (by rw[J];exact fun h_=>(nomatch h_))
  have ze:=kF zb;refine lB 48 zb (lL d [.v qT] (lN (bG [(0,pB u),(2,.pointer none),(3,nV a),(4,nV (r-(a+1))),(6,pB zc),(49,qT)] ?_)));refine ci (aa d aF (bj 52 (eh u s C a ha V a oM _ _ d.g (d.own 1) (d.jk 1) d.f.1) ?_));rintro _ _ _ X ⟨rfl,D⟩;replace d:=(d.stepM 1 X D).to [⟨zc,30,qc q⟩,⟨u,59,[.string s,nV a,nV a]⟩] [];replace l:=l.trans X;exact lL d ac (lN (kX (d.retM l [] (.pointer none) (by rw[B];exact ⟨a,rfl,by omega,d.own 1⟩))))
 have zd:=oT za;refine lB 22 za (aj (aa d aF (bj 25 (eh u s C a ha V a oM _ _ d.g (d.own 0) (d.jk 0) d.f.1) ?_)));rintro _ _ _ Q ⟨rfl,F⟩;replace d:=(d.stepM 0 Q F).to [⟨u,59,[.string s,nV a,nV a]⟩] [];replace l:=l.trans Q;exact lL d ac (lN (kX (d.retM l [] (.pointer none) (by rw[B];exact ⟨a,rfl,by omega,d.own 0⟩))))
theorem pO {x:ByteArray}{q:Rat}(h:jO x=some q):cF x=some q/\uw q=x:=by
 unfold jO at h
 split at h
 ·rename_i r hr
  split at h
  ·rename_i e;injection h with h;subst h;exact ⟨hr,e⟩
  ·cases h
 ·cases h
theorem mP {x:ByteArray}{z:Int}(h:ej x=some z):x.size<=201:=by
 by_cases c:ak x 0=45
 ·cases a:bY (x.extract 1 x.size) with
  | none=>rw[dP c (.inl a)] at h;cases h
  | some k=>have:=(dx a).1;rw[ByteArray.size_extract] at this;omega
 ·rw[dW c] at h
  cases a:bY x with
  | none=>rw[a] at h;cases h
  | some k=>have:=(dx a).1;omega
theorem uu {x:ByteArray}{q:Rat}(h:cF x=some q):x.size<=1000000:=by
  unfold cF at h
  split at h
  . unfold iB at h
    cases hz:ej (x.extract 0 (rn (cb 47) x 0)) with
    | none=>rw[hz] at h;cases h
    | some z =>
      rw[hz] at h
      cases a:bY (x.extract (rn (cb 47) x 0+1) x.size) with
      | none=>rw[a] at h;cases h
      | some k =>
        have h1:=mP hz;have b:=(dx a).1;rw[ByteArray.size_extract] at h1 b;omega
  . split at h
    . cases a:bY (if ak (x.extract 0 (rn (cb 46) x 0)) 0=45 then (x.extract 0 (rn (cb 46) x 0)).extract 1 (x.extract 0 (rn (cb 46) x 0)).size else (x.extract 0 (rn (cb 46) x 0))) with
      | none=>rw[iJ rfl a] at h;cases h
      | some k =>
        rcases co 200 (x.extract (rn (cb 46) x 0+1) x.size).size with h3|h3
        . rw[ff rfl a (.inr h3)] at h;cases h
        . have b:=(dx a).1
          have c:(x.extract 0 (rn (cb 46) x 0)).size<=201:=by
            split at b
            . rw[ByteArray.size_extract] at b;omega
            . omega
          rw[ByteArray.size_extract] at h3 c;omega
    . cases hz:ej x with
      | none=>rw[hz] at h;cases h
      | some z=>have:=mP hz;omega
theorem Hv:Bn cF:=fun x q b w h g c=>by
 have a:=nw x (uu b) w h g c;rw[b] at a;exact a
theorem Hz:Ij cF:=fun x c d w h g b=>by
 have a:=nw x c w h g b;rw[d] at a;exact a
theorem HR:AT:=fun x k hs hx w h g=>by
 have q_:=d3 x oM w h g;rw[EJ hx hs] at q_;exact q_
theorem Hy:Ik:=fun x hs hx w h g=>by
 have q_:=d3 x oM w h g;rw[CF hx] at q_;exact q_
theorem HO:Hx jO:=fun p s h1 a k e q f d o w h g j l b=>by
 obtain ⟨c,i⟩:=pO o;exact qz p s h1 a k e q f d (fun w h g b=>Hv _ _ c w h g b) (fun w h g b=>by rw[<-i];exact CS q ((kv c).mono kD) (im c).1 (im c).2 w h g b) w h g j l b
theorem Iu:Iq jO:=fun k s h1 a f e b i w h g d j c=>qk k s h1 a f e b i w h g d j c
section
variable {nf bf:ByteArray->Option Rat}{s:ByteArray}{n p k a:Nat}{r:PR}{t:Tm}{q:Rat}
def qi (s:ByteArray)(t:Tm)(b:Nat):Option PR:=if ak s (sk s b)=41 then some (.ok t (sk s b+1)) else some (.err (sk s b))
theorem ES {b:Nat}(h:qi s t b=some r)(c:ak s (sk s b)=41):r=.ok t (sk s b+1):=by
 unfold qi at h;rw[if_pos c] at h;injection h with h;exact h.symm
theorem EZ {b:Nat}(h:qi s t b=some r)(c:ak s (sk s b)≠41):r=.err (sk s b):=by
 unfold qi at h;rw[if_neg c] at h;injection h with h;exact h.symm
def oW (nf bf:ByteArray->Option Rat)(s:ByteArray)(n p:Nat):Option PR :=
    if cH (ak s p)=true then match nf (s.extract p (rn cH s p)) with
      | some q=>some (.ok (dl q) (rn cH s p))
      | none=>some (.err p)
    else if dI (ak s p)\/ak s p=95 then uF nf bf s n p
    else if ak s p=91 then
      if rn cf s (p+1)=s.size then some (.err p) else match bf (s.extract (p+1) (rn cf s (p+1))) with
      | some q=>some (.ok (dl q) (rn cf s (p+1)+1))
      | none=>some (.err p)
    else if ak s p=40 then fT (bn nf bf s n .sum (p+1)) (qi s)
    else some (.err p)
theorem CC (h:bn nf bf s (n+1) .atom a=some r):oW nf bf s n (sk s a)=some r:=by
  rw[<-h];unfold bn oW uF qi
  generalize sk s a=p
  by_cases c0:cH (ak s p)=true
  . rw[if_pos c0,if_pos c0];cases nf (s.extract p (rn cH s p))<;>rfl
  . rw[if_neg c0,if_neg c0]
    by_cases c1:dI (ak s p)\/ak s p=95
    . rw[if_pos c1,if_pos c1]
    . rw[if_neg c1,if_neg c1]
      by_cases c2:ak s p=91
      . rw[if_pos c2,if_pos c2]
        by_cases c3:rn cf s (p+1)=s.size
        . rw[if_pos c3,if_pos c3]
        . rw[if_neg c3,if_neg c3];cases bf (s.extract (p+1) (rn cf s (p+1)))<;>rfl
      . rw[if_neg c2,if_neg c2]
theorem rJ {c:Nat}(h:c=91):¬cH c=true/\¬(dI c\/c=95):=by
 subst h;exact ⟨by decide,by unfold dI;omega⟩
theorem C2 {c:Nat}(h:c=40):¬cH c=true/\¬(dI c\/c=95):=by
 subst h;exact ⟨by decide,by unfold dI;omega⟩
theorem HW {c:Nat}(h:dI c\/c=95):¬cH c=true:=fun e=>by
 have:=oT e
 unfold dI at h;omega
theorem AF (h:oW nf bf s n p=some r)(c:ak s p=40):fT (bn nf bf s n .sum (p+1)) (qi s)=some r:=by
 unfold oW at h;rw[if_neg (C2 c).1,if_neg (C2 c).2,if_neg oM,if_pos c] at h;exact h
theorem nt (a:rn cf s (p+1)=k)(h:oW nf bf s n p=some r)(c:ak s p=91)(d:k=s.size\/bf (s.extract (p+1) k)=none):r=.err p:=by
 unfold oW at h;rw[if_neg (rJ c).1,if_neg (rJ c).2,if_pos c,a] at h
 by_cases e:k=s.size
 ·rw[if_pos e] at h;injection h with h;exact h.symm
 ·rw[if_neg e,d.resolve_left e] at h;injection h with h;exact h.symm
theorem r4 (a:rn cf s (p+1)=k)(h:oW nf bf s n p=some r)(c:ak s p=91)(d:bf (s.extract (p+1) k)=none):r=.err p:=nt a h c (.inr d)
theorem BY (a:rn cf s (p+1)=k)(h:oW nf bf s n p=some r)(c:ak s p=91)(e:k≠s.size)(d:bf (s.extract (p+1) k)=some q):r=.ok (dl q) (k+1):=by
 unfold oW at h;rw[if_neg (rJ c).1,if_neg (rJ c).2,if_pos c,a,if_neg e,d] at h;injection h with h;exact h.symm
theorem oY (a:rn cH s p=k)(h:oW nf bf s n p=some r)(c:cH (ak s p)=true)(d:nf (s.extract p k)=none):r=.err p:=by
 unfold oW at h;rw[if_pos c,a,d] at h;injection h with h;exact h.symm
theorem pQ (a:rn cH s p=k)(h:oW nf bf s n p=some r)(c:cH (ak s p)=true)(d:nf (s.extract p k)=some q):r=.ok (dl q) k:=by
 unfold oW at h;rw[if_pos c,a,d] at h;injection h with h;exact h.symm
theorem Cx (h:oW nf bf s n p=some r)(c:dI (ak s p)):uF nf bf s n p=some r:=by
 unfold oW at h;rw[if_neg (HW (.inl c)),if_pos (.inl c)] at h;exact h
theorem BG {e:Nat}(h1:p<e)(a:e<=s.size):ak (s.extract p e) 0=ak s p:=by
 unfold ak
 rw[A6,A6,show (s.extract p e).data.toList=(s.data.toList.take e).drop p by simp[List.drop_take],List.getElem?_drop,List.getElem?_take_of_lt oM,Nat.add_zero]
theorem E9 (c:ak s p=95):uF nf bf s n p=some (.err p):=by
 have d:=cn (s:=s) (a:=p) oM;have h1:=jh (p:=bF) d (decide_eq_true (by unfold kd;omega));have h:=dB (p:=bF) (JO d);have b:ak (s.extract p (rn bF s p)) 0=95:=by rw[BG oM h];exact c
 unfold uF
 generalize s.extract p (rn bF s p)=x at b
 have f:ag x=0:=by
  unfold ag
  rw[if_neg (fun e=>by rw[e] at b;revert b;decide),if_neg (fun e=>by rw[e] at b;revert b;decide),if_neg (fun e=>by rw[e] at b;revert b;decide),if_neg (fun e=>by rw[e] at b;revert b;decide),if_neg (fun e=>by rw[e] at b;revert b;decide)]
 have i:cD x=false:=decide_eq_false fun e=>by have:=e.2.2.1;rw[b] at this;unfold dI at this;omega
 rw[if_neg (by unfold bU;rw[f];decide),if_neg (by rw[i];decide)]
theorem Fp (h:oW nf bf s n p=some r)(c0:cH (ak s p)=false)(c1:¬dI (ak s p))(c2:ak s p≠91)(a:ak s p≠40):r=.err p:=by
 unfold oW at h;rw[if_neg (by rw[c0];decide)] at h
 by_cases c:ak s p=95
 ·rw[if_pos (.inr c),E9 c] at h;injection h with h;exact h.symm
 ·rw[if_neg (fun e=>e.elim c1 c),if_neg c2,if_neg a] at h;injection h with h;exact h.symm
end
theorem wQ {x:ByteArray}(h:cF x=none):jO x=none:=by unfold jO;rw[h]
theorem x8 {x:ByteArray}{q:Rat}(h:cF x=some q)(e:uw q≠x):jO x=none:=by unfold jO;rw[h];exact if_neg e
theorem GC {x:ByteArray}{q:Rat}(h:cF x=some q)(e:uw q=x):jO x=some q:=by unfold jO;rw[h];exact if_pos e
theorem nW {x:ByteArray}{q:Rat}(h:cF x=some q):(lim (ab q.num)).length<=60/\(lim q.den).length<=60:=by
 obtain ⟨h1,b⟩:=oa h;have a:10^200*10^200<=10^200*10^201:=Nat.mul_le_mul_left _ (Aa kD kD);exact ⟨dO (ed (JO h1) a),dO (ed (ed b (KK _ (A8 kD))) a)⟩
theorem EE (q:Rat)(A:Z9)(c:Nat)(f:(lim (ab q.num)).length<=c)(D:Z9)(d:Nat)(p:(lim q.den).length<=d)(w:World)(h:Hp)(g:G w h)(i:S3 A (lim (ab q.num)) h)(k:S3 D (lim q.den) h):CR 135 #[.agg #[.bool (au q.num),.slice A (lim (ab q.num)).length c,.slice D (lim q.den).length d]] w h (fun v h1=>∃ r,v=aY r/\RtH h1 r (dl q)) :=
 (HG (d:=0) _ _ _ _ _ _ _ w h g ⟨true,⟨A,c,D,d,rfl,f,p,i,k⟩,fun o=>by cases o⟩).mono fun e w' ⟨v,j,a,u,r,l,b⟩=>⟨v,j,a,u,r,l,_,b⟩
section
variable (n:Nat)
theorem Hl  (ihs:∀ m,m<=n->RC cF jO 16 m .sum)(rb:Nat)(s:ByteArray)(C:s.size<=1000000)(a:Nat)(ha:a<=s.size)(r:PR)(M:bn cF jO s (n+1) .atom a=some r)(w:World)(h:Hp)(g:G w h)(ho:Own w rb 67 [.string s,nV a,iV (-1)])(hj:h[rb]?=some junk)(tb:Tab h):Calls Tryz.prog 107 #[pB rb] w (bW rb w h (DD rb s r)):=by
 have d:UpM [rb] w h w h:=UpM.refl g;obtain ⟨wz,L,b⟩:=SS.at_ g ho hj;replace b:=(b.add (K:=fun u=>Tab u) tb);refine go Tryz.func107 [(0,pB rb)] rfl (aG (fe 2 47 (ax ⟨0,0,false,none,0,0,none,0,0,⟨#[]⟩,none,0,0⟩) b (fun z w2 h3 u4 p b=>?_)));replace p:=ed d.gr.size p;replace d:=d.trans (u4.m _);refine ai (aa b [.c,.v (pB rb),.v (qP rb 2),.o (iV (-1)) 1 2 1,.v qF] (ah (cK (aa b ac ?_))));have d1:=bB (s:=s) (a:=a) oM;obtain ⟨l,hbp⟩:∃ l,sk s a=l:=⟨_,rfl⟩;refine bj 17 (mn rb s C a ha _ _ b.g (b.own 1) (b.jk 1) b.f.1) ?_;rintro _ w6 h7 u8 ⟨rfl,c4⟩;rw[hbp] at c4 d1
 rw[hbp];replace b:=(b.stepM 1 u8 c4).to [⟨z,47,ax ⟨0,0,false,none,0,0,none,0,0,⟨#[]⟩,none,0,0⟩⟩,⟨rb,67,[.string s,nV l,iV (-1)]⟩] [];replace d:=d.trans u8;have hk:sk s l=l:=by rw[<-hbp,pF]
 replace M:=(CC M);rw[hbp] at M
 refine lL b ac (aE (lL b [.c,.v (pB rb),.v (qP rb 1),.o (nV l) 1 1 1,.c] (ai (kZ (aa b ac ?_)))));have kq:=bB (s:=s) (a:=l) oM;refine bj 24 (nB rb s C l oM 40 kD hk _ _ b.g (b.own 1) (b.jk 1) b.f.1) ?_;rintro _ _ Zg u12 (⟨rfl,bt,k3,bw⟩|⟨rfl,bt,bw⟩)
 .
  replace b:=(b.stepM 1 u12 bw).to [⟨z,47,ax ⟨0,0,false,none,0,0,none,0,0,⟨#[]⟩,none,0,0⟩⟩,⟨rb,67,[.string s,nV (l+1),iV (-1)]⟩] [];replace d:=d.trans u12;replace M:=AF M bt;refine lL b ac (aj (aa b ac ?_))
  rcases cJ M with ⟨be,he,hre⟩|⟨t1,y1,hq1,hr1⟩
  .
   refine bj 26 (ihs n (nR _) rb s C (l+1) oM (.err be) he _ _ b.g (b.own 1) (b.jk 1) b.f.1) ?_;rintro _ _ _ u16 ⟨S,rfl,dp⟩;replace b:=(b.stepM 1 u16 dp).to [⟨z,47,ax ⟨0,0,false,none,0,0,none,0,0,⟨#[]⟩,none,0,0⟩⟩,⟨rb,67,[.string s,nV s.size,nV be]⟩] [];replace d:=d.trans u16;refine fe 5 47 (ax ⟨0,0,false,none,0,0,none,0,0,⟨#[]⟩,none,0,0⟩) b (fun Zi _ _ u20 J b=>?_);replace J:=ed d.gr.size J;replace d:=d.trans (u20.m _);refine ce 0 0 (ax S) b (fun _ y b=>?_);replace d:=d.put2 y J g b.g;refine aE (lL b ac (bj 28 (f6 rb s C be 41 _ _ b.g (b.own 2) (b.jk 2) b.f.1) ?_));rintro _ _ _ u25 ⟨rfl,dk⟩;replace b:=(b.stepM 2 u25 dk).to [⟨Zi,47,ax S⟩,⟨z,47,ax ⟨0,0,false,none,0,0,none,0,0,⟨#[]⟩,none,0,0⟩⟩,⟨rb,67,[.string s,nV s.size,nV be]⟩] [];replace d:=d.trans u25;refine aE (lL b [.o (aY S) 0 0 7] (ce 1 0 (ax S) b (fun _ y b=>?_)));replace d:=d.put2 y p g b.g;exact lN (kX (b.retM d [(1,0,7)] (aY S) ((by rw[hre];exact ⟨_,rfl,b.own 2⟩))))
  refine bj 26 (ihs n (nR _) rb s C (l+1) oM (.ok t1 y1) hq1 _ _ b.g (b.own 1) (b.jk 1) b.f.1) ?_;rintro _ _ _ u30 ⟨B,rfl,kx,d0,fn⟩;replace b:=(b.stepM 1 u30 d0).to [⟨z,47,ax ⟨0,0,false,none,0,0,none,0,0,⟨#[]⟩,none,0,0⟩⟩,⟨rb,67,[.string s,nV y1,iV (-1)]⟩] [];replace d:=d.trans u30;replace b:=(b.add (K:=fun u=>RtH u B t1) fn);refine fe 5 47 (ax ⟨0,0,false,none,0,0,none,0,0,⟨#[]⟩,none,0,0⟩) b (fun yQ _ _ u34 I b=>?_);replace I:=ed d.gr.size I;replace d:=d.trans (u34.m _);refine ce 0 0 (ax B) b (fun _ y b=>?_);replace d:=d.put2 y I g b.g;refine aE (lL b ac ?_);have hw:=bB (s:=s) (a:=y1) oM;refine bj 28 (pY rb s C y1 oM 41 kD _ _ b.g (b.own 2) (b.jk 2) b.f.2.1) ?_;rintro _ _ _ u39 (⟨rfl,X,h5,W⟩|⟨rfl,X,W⟩)
  .
   replace b:=(b.stepM 2 u39 W).to [⟨yQ,47,ax B⟩,⟨z,47,ax ⟨0,0,false,none,0,0,none,0,0,⟨#[]⟩,none,0,0⟩⟩,⟨rb,67,[.string s,nV (sk s y1+1),iV (-1)]⟩] [];replace d:=d.trans u39;have hre:=ES hr1 X;refine aE (lL b [.o (aY B) 0 0 7] (ce 1 0 (ax B) b (fun _ y b=>?_)));replace d:=d.put2 y p g b.g;exact lN (kX (b.retM d [(1,0,7)] (aY B) ((by rw[hre];exact ⟨_,rfl,by omega,b.own 2,b.f.1⟩))))
  replace b:=(b.stepM 2 u39 W).to [⟨yQ,47,ax B⟩,⟨z,47,ax ⟨0,0,false,none,0,0,none,0,0,⟨#[]⟩,none,0,0⟩⟩,⟨rb,67,[.string s,nV s.size,nV (sk s y1)]⟩] [];replace d:=d.trans u39;have hre:=EZ hr1 X;refine aE (lL b [.o (aY B) 0 0 7] (ce 1 0 (ax B) b (fun _ y b=>?_)));replace d:=d.put2 y p g b.g;exact lN (kX (b.retM d [(1,0,7)] (aY B) ((by rw[hre];exact ⟨_,rfl,b.own 2⟩))))
 replace b:=(b.stepM 1 u12 bw).to [⟨z,47,ax ⟨0,0,false,none,0,0,none,0,0,⟨#[]⟩,none,0,0⟩⟩,⟨rb,67,[.string s,nV l,iV (-1)]⟩] [];replace d:=d.trans u12;have ht:=bt;refine lL b ac (ah (aa b ac ?_));cases zI:(((ak s l:Nat):Int) == (91:Int))
 .
  have yr:=ao zI;refine lB 32 zI (lL b ac (ah (aa b ac (d7 121 (gp ((ak s l)) (bh _ _) _ _ b.g) ?_))));rintro _ _ yR u45 rfl;replace d:=d.trans (u45.m _);replace b:=b.step u45;cases ye:(decide (48<=(ak s l)/\(ak s l)<=57))
  .
   have ys:=oF ye;refine lL b aF ?_;cases zJ:(((ak s l:Nat):Int) == (46:Int))
   .
    have yt:=ao zJ;refine lB 124 zJ (lL b [.v qF,.c] (ah (aa b ac (d7 190 (ji ((ak s l)) (bh _ _) _ _ b.g) ?_))));rintro _ _ _ u50 rfl;replace d:=d.trans (u50.m _);replace b:=b.step u50;cases yf:(decide (dI ((ak s l))))
    .
     have yu:=oF yf;refine lL b ac (ah (cK (aa b aF (bj 196 (fd rb s C l oM l _ _ b.g (b.own 1) (b.jk 1) b.f.1) ?_))));rintro _ _ _ u56 ⟨rfl,fm⟩;replace b:=(b.stepM 1 u56 fm).to [⟨z,47,ax ⟨0,0,false,none,0,0,none,0,0,⟨#[]⟩,none,0,0⟩⟩,⟨rb,67,[.string s,nV s.size,nV l]⟩] [];replace d:=d.trans u56;refine ce 0 0 (ax (⟨0,0,false,none,0,0,none,0,0,⟨#[]⟩,none,0,0⟩:RTm)) b (fun _ y b=>?_);replace d:=d.put2 y p g b.g;exact lN (kX (b.retM d [(0,0,7)] (aY (⟨0,0,false,none,0,0,none,0,0,⟨#[]⟩,none,0,0⟩:RTm)) ((by rw[Fp M (decide_eq_false oM) aM oM ht];exact ⟨_,rfl,b.own 1⟩))))
    have yu:=oT yf;refine lL b ac (aj (aa b aF ?_));have hN_:=Cx M aM
    rcases oX r with ⟨be,rfl⟩|⟨t1,y1,rfl⟩
    .
     refine bj 193 (vH n ihs rb s C l oM (.err be) hN_ _ _ b.g (b.own 1) (b.jk 1) b.f.1) ?_;rintro _ _ _ u61 ⟨c8,rfl,dn⟩;replace b:=(b.stepM 1 u61 dn).to [⟨z,47,ax ⟨0,0,false,none,0,0,none,0,0,⟨#[]⟩,none,0,0⟩⟩,⟨rb,67,[.string s,nV s.size,nV be]⟩] [];replace d:=d.trans u61;refine ce 0 0 (ax c8) b (fun _ y b=>?_);replace d:=d.put2 y p g b.g;exact lN (kX (b.retM d [(0,0,7)] (aY c8) (⟨_,rfl,b.own 1⟩)))
    refine bj 193 (vH n ihs rb s C l oM (.ok t1 y1) hN_ _ _ b.g (b.own 1) (b.jk 1) b.f.1) ?_;rintro _ _ _ u66 ⟨b0,rfl,hy,d2,ds⟩;replace b:=(b.stepM 1 u66 d2).to [⟨z,47,ax ⟨0,0,false,none,0,0,none,0,0,⟨#[]⟩,none,0,0⟩⟩,⟨rb,67,[.string s,nV y1,iV (-1)]⟩] [];replace d:=d.trans u66;replace b:=(b.add (K:=fun u=>RtH u b0 t1) ds);refine ce 0 0 (ax b0) b (fun _ y b=>?_);replace d:=d.put2 y p g b.g;exact lN (kX (b.retM d [(0,0,7)] (aY b0) (⟨_,rfl,by omega,b.own 1,b.f.1⟩)))
   have yt:=eq_of_beq zJ;refine lB 124 zJ (lL b [.v qT,.c] (aj (cQ (kZ ?_))));refine bG _ (CG.loop (fun μ_ Γ U=>∃ (k:Nat)(u:Hp),μ_=s.size-k/\Γ=[(0,pB rb),(2,pB z),(4,nV l)]/\SS wz L U u [⟨z,47,ax ⟨0,0,false,none,0,0,none,0,0,⟨#[]⟩,none,0,0⟩⟩,⟨rb,67,[.string s,nV k,iV (-1)]⟩] [] [fun u=>Tab u]/\l<=k/\k<=s.size/\UpM [rb] w h U u/\(∀ i,l<=i->i<k->cH (ak s i)=true)) _ ⟨l,yR,rfl,rfl,b.to _ _,nR _,oM,d,(fun i h1 h2=>absurd h1 oM)⟩ ?_);rintro _ _ _ ⟨k,_,k1,rfl,b,hk1,hk2,d,Q⟩;refine cQ (CG.join (fun Γ U=>∃ (za:Bool)(u:Hp),Γ=[(0,pB rb),(2,pB z),(4,nV l),(159,.bool za)]/\SS wz L U u [⟨z,47,ax ⟨0,0,false,none,0,0,none,0,0,⟨#[]⟩,none,0,0⟩⟩,⟨rb,67,[.string s,nV k,iV (-1)]⟩] [] [fun u=>Tab u]/\(za=true->cH (ak s k)=true/\k<s.size)/\(za=false->k=s.size\/cH (ak s k)=false)/\UpM [rb] w h U u) ?_ ?_)
   .
    refine cR 34 [] mixed b aw (eV 0 126 (pB rb) (eV 1 127 (pB rb) (eV 2 128 (qP rb 1) (eO 3 129 [(1,1,1)] (nV k) b (eV 4 130 (pB rb) (eV 5 131 (pB rb) (eV 6 132 (pB rb) (eO 7 133 [(1,0,1)] (.string s) b (eV 8 134 (nV s.size) ?_)))))))));cases zK:(decide ((k:Int)<(s.size:Int)))
    .
     have yv:=oF zK;refine eB 9 135 zK (eV 10 136 qF (eG 11 137 (eG 12 138 (eG 13 139 (eG 14 140 (eG 15 141 (eG 16 142 (eG 17 143 (eG 18 144 (eG 19 145 (eG 20 146 (eG 21 147 (eG 22 148 (eG 23 149 (eG 24 150 (eG 25 151 (eG 26 152 (eG 27 153 (eG 28 154 (eG 29 155 (eG 30 156 (eG 31 157 (eG 32 158 (eV 33 159 qF (bL b (fun _ Zj u74 b=>?_))))))))))))))))))))))))));replace d:=d.trans (u74.m _);refine tD ?_;intro a_ D;exact ⟨_,⟨false,Zj,rfl,b.to _ _,(fun u=>absurd u kD),(fun _=>by first|exact .inl oM|exact .inr (decide_eq_false oM)),d⟩,D.to _ kR⟩
    have yv:=oT zK;refine eB 9 135 zK (eV 10 136 qT (eV 11 137 (pB rb) (eV 12 138 (pB rb) (eV 13 139 (pB rb) (eO 14 140 [(1,0,1)] (.string s) b (eV 15 141 (pB rb) (eV 16 142 (pB rb) (eV 17 143 (qP rb 1) (eO 18 144 [(1,1,1)] (nV k) b (eV 19 145 (.int .u8 (ak s k:Nat)) ?_ (hv:=fun _=>aU (tx:=9) (x:=.tmp 140) (i:=.tmp 144) (k:=.i64) (s:=s) (n:=k) (j:=(k:Int)) kR kR kR kR oM oM _)))))))))));refine ie 20 146 b d (fun _ _ b=>gp ((ak s k)) (bh _ _) _ _ b.g) ?_;rintro _ _ _ _ _ d b rfl;cases yg:(decide (48<=(ak s k)/\(ak s k)<=57))
    .
     have yw:=oF yg;refine eV 21 147 qF (eV 22 148 (pB rb) (eV 23 149 (pB rb) (eV 24 150 (pB rb) (eO 25 151 [(1,0,1)] (.string s) b (eV 26 152 (pB rb) (eV 27 153 (pB rb) (eV 28 154 (qP rb 1) (eO 29 155 [(1,1,1)] (nV k) b (eV 30 156 (.int .u8 (ak s k:Nat)) ?_ (hv:=fun _=>aU (tx:=9) (x:=.tmp 151) (i:=.tmp 155) (k:=.i64) (s:=s) (n:=k) (j:=(k:Int)) kR kR kR kR oM oM _))))))))));cases zL:(((ak s k:Nat):Int) == (46:Int))
     .
      have yx:=ao zL;refine eB 31 157 zL (eV 32 158 qF (eV 33 159 qF (bL b (fun _ Zk u84 b=>?_))));replace d:=d.trans (u84.m _);refine tD ?_;intro a_ D;exact ⟨_,⟨false,Zk,rfl,b.to _ _,(fun u=>absurd u kD),(fun _=>by first|exact .inl oM|exact .inr (decide_eq_false oM)),d⟩,D.to _ kR⟩
     have yx:=eq_of_beq zL;refine eB 31 157 zL (eV 32 158 qT (eV 33 159 qT (bL b (fun _ Zl u90 b=>?_))));replace d:=d.trans (u90.m _);refine tD ?_;intro a_ D;exact ⟨_,⟨true,Zl,rfl,b.to _ _,(fun _=>⟨decide_eq_true oM,by omega⟩),(fun u=>absurd u kD),d⟩,D.to _ kR⟩
    have yw:=oT yg;refine eV 21 147 qT (eG 22 148 (eG 23 149 (eG 24 150 (eG 25 151 (eG 26 152 (eG 27 153 (eG 28 154 (eG 29 155 (eG 30 156 (eG 31 157 (eV 32 158 qT (eV 33 159 qT (bL b (fun _ Zm u96 b=>?_))))))))))))));replace d:=d.trans (u96.m _);refine tD ?_;intro a_ D;exact ⟨_,⟨true,Zm,rfl,b.to _ _,(fun _=>⟨decide_eq_true oM,by omega⟩),(fun u=>absurd u kD),d⟩,D.to _ kR⟩
   rintro _ _ ⟨za,yS,rfl,b,zf,Z,d⟩;cases zg:(za)
   .
    try rw[zg] at b
    try rw[zg]
    refine da (CG.exit ?_)
    show CG _ _ _ _ _ _ _ _
    refine cQ ?_;have H:rn cH s l=k:=dy hk1 hk2 Q (Z aM);have O:=b;have F:=d.gr.size;refine cR 15 [⟨14,8,.cells (J0 [qF,sZ,sZ]) 44 (0,0)⟩] mixed b (dz (lu kR (fun _ _=>by kernel_rfl)) aw) (eV 0 168 (pB rb) (eV 1 169 (pB rb) (eV 2 170 (pB rb) (eO 3 171 [(1,0,1)] (.string s) b (eV 4 172 (nV l) (eV 5 173 (pB rb) (eV 6 174 (pB rb) (eV 7 175 (qP rb 1) (eO 8 176 [(1,1,1)] (nV k) b (eV 9 177 (.string (s.extract l k)) ?_ (hv:=fun _=>eA (tx:=9) (x:=.tmp 171) (i:=.tmp 172) (e:=.tmp 176) (k:=.i64) (k2:=.i64) (s:=s) (n:=l) (m:=k) (j:=(l:Int)) (j2:=(k:Int)) kR kR kR kR kR oM oM oM oM _)))))))))))
    rcases hz:cF (s.extract l k) with _|q
    .
     refine ie 10 178 b d (fun _ _ b=>ot (s.extract l k) (by rw[ByteArray.size_extract];omega) hz _ _ b.g) ?_;rintro _ _ _ _ _ d b ⟨_,rfl,zM,zN,zP,zQ,rfl,h4,j8,yA,yB⟩;replace b:=b.aP yA yB;refine eV 11 167 (.tuple #[rG (0:Rat) zM zN zP zQ,qF]) (eV 12 179 (rG (0:Rat) zM zN zP zQ) (eV 13 180 qF (me [] O b d F 44 [qF,sZ,sZ] (fun _ _ yT d bq b=>kj 15 0 0 (gA (0:Rat) zM zN zP zQ) b (fun _ y b=>?_)))));replace d:=d.put2 y bq g b.g;refine tV 16 9 qF (tN (cQ (aa b [.c,.v qT] (aj (aa b aF (bj 185 (fd rb s C k oM l _ _ b.g (b.own 2) (b.jk 2) b.f.r.1) ?_))))));rintro _ _ _ c3 ⟨rfl,b9⟩;replace b:=(b.stepM 2 c3 b9).to [⟨yT,44,gA (0:Rat) zM zN zP zQ⟩,⟨z,47,ax ⟨0,0,false,none,0,0,none,0,0,⟨#[]⟩,none,0,0⟩⟩,⟨rb,67,[.string s,nV s.size,nV l]⟩] [];replace d:=d.trans c3;refine ce 1 0 (ax (⟨0,0,false,none,0,0,none,0,0,⟨#[]⟩,none,0,0⟩:RTm)) b (fun _ y b=>?_);replace d:=d.put2 y p g b.g;exact lN (kX (b.retM d [(1,0,7)] (aY (⟨0,0,false,none,0,0,none,0,0,⟨#[]⟩,none,0,0⟩:RTm)) ((by rw[oY H M (decide_eq_true oM) hz];exact ⟨_,rfl,b.own 2⟩))))
    have hzl:=nW hz;refine ie 10 178 b d (fun _ _ b=>nZ (s.extract l k) q (by rw[ByteArray.size_extract];omega) hz _ _ b.g) ?_;rintro _ _ _ _ _ d b ⟨_,rfl,zr,zs,zt,zu,rfl,yC,yD,yE,yF⟩;replace b:=b.aP yE yF;refine eV 11 167 (.tuple #[rG q zr zs zt zu,qT]) (eV 12 179 (rG q zr zs zt zu) (eV 13 180 qT (me [] O b d F 44 [qF,sZ,sZ] (fun _ _ k5 d bd b=>kj 15 0 0 (gA q zr zs zt zu) b (fun _ y b=>?_)))));replace d:=d.put2 y bd g b.g;refine tV 16 9 qT (tN (cQ (aa b [.c,.v qF] (ah (cK (aa b [.o (rG q zr zs zt zu) 0 0 3] (d7 187 (EE q zr zs yC zt zu yD _ _ b.g b.f.2.1 b.f.1) ?_)))))));rintro _ _ _ c6 ⟨V,rfl,b6⟩;replace d:=d.trans (c6.m _);replace b:=b.step c6;replace b:=(b.add (K:=fun u=>RtH u V (dl q)) b6);refine ce 1 0 (ax V) b (fun _ y b=>?_);replace d:=d.put2 y p g b.g;exact lN (kX (b.retM d [(1,0,7)] (aY V) ((by rw[pQ H M (decide_eq_true oM) hz];exact ⟨_,rfl,by omega,b.own 2,b.f.1⟩))))
   try rw[zg] at b
   try rw[zg]
   refine ci (cK (kZ (kQ (lL b [.c,.v (pB rb),.v (qP rb 1),.o (nV k) 1 1 1] (bg 164 ((k:Nat)+1) (k+1) ?_)))));refine lL b [.v (pB rb),.v (qP rb 1)] (ce 1 1 ([nV (k+1)]) b (fun _ y b=>?_));replace d:=d.put y (n1.2 rfl) b.g;refine lD ?_;have cq:=(zf aM).2;intro a_ D;refine ⟨_,_,?_,⟨k+1,yS,rfl,rfl,b.to _ _,oM,oM,d,(fun i h1 h2=>by rcases Kl.1 h2 with u|rfl;exact Q i h1 u;exact (zf aM).1)⟩,D.to _ kR⟩
   omega
  have ys:=oT ye;refine lL b ac (lG 123 ?_);refine lG 124 (lL b [.v qT,.c] (aj (cQ (kZ ?_))));refine bG _ (CG.loop (fun μ_ Γ U=>∃ (k:Nat)(u:Hp),μ_=s.size-k/\Γ=[(0,pB rb),(2,pB z),(4,nV l)]/\SS wz L U u [⟨z,47,ax ⟨0,0,false,none,0,0,none,0,0,⟨#[]⟩,none,0,0⟩⟩,⟨rb,67,[.string s,nV k,iV (-1)]⟩] [] [fun u=>Tab u]/\l<=k/\k<=s.size/\UpM [rb] w h U u/\(∀ i,l<=i->i<k->cH (ak s i)=true)) _ ⟨l,yR,rfl,rfl,b.to _ _,nR _,oM,d,(fun i h1 h2=>absurd h1 oM)⟩ ?_);rintro _ _ _ ⟨k,_,kt,rfl,b,hk1,hk2,d,Q⟩;refine cQ (CG.join (fun Γ U=>∃ (za:Bool)(u:Hp),Γ=[(0,pB rb),(2,pB z),(4,nV l),(159,.bool za)]/\SS wz L U u [⟨z,47,ax ⟨0,0,false,none,0,0,none,0,0,⟨#[]⟩,none,0,0⟩⟩,⟨rb,67,[.string s,nV k,iV (-1)]⟩] [] [fun u=>Tab u]/\(za=true->cH (ak s k)=true/\k<s.size)/\(za=false->k=s.size\/cH (ak s k)=false)/\UpM [rb] w h U u) ?_ ?_)
  .
   refine cR 34 [] mixed b aw (eV 0 126 (pB rb) (eV 1 127 (pB rb) (eV 2 128 (qP rb 1) (eO 3 129 [(1,1,1)] (nV k) b (eV 4 130 (pB rb) (eV 5 131 (pB rb) (eV 6 132 (pB rb) (eO 7 133 [(1,0,1)] (.string s) b (eV 8 134 (nV s.size) ?_)))))))));cases zi:(decide ((k:Int)<(s.size:Int)))
   .
    have yi:=oF zi;refine eB 9 135 zi (eV 10 136 qF (eG 11 137 (eG 12 138 (eG 13 139 (eG 14 140 (eG 15 141 (eG 16 142 (eG 17 143 (eG 18 144 (eG 19 145 (eG 20 146 (eG 21 147 (eG 22 148 (eG 23 149 (eG 24 150 (eG 25 151 (eG 26 152 (eG 27 153 (eG 28 154 (eG 29 155 (eG 30 156 (eG 31 157 (eG 32 158 (eV 33 159 qF (bL b (fun _ yU fz b=>?_))))))))))))))))))))))))));replace d:=d.trans (fz.m _);refine tD ?_;intro a_ D;exact ⟨_,⟨false,yU,rfl,b.to _ _,(fun u=>absurd u kD),(fun _=>by first|exact .inl oM|exact .inr (decide_eq_false oM)),d⟩,D.to _ kR⟩
   have yi:=oT zi;refine eB 9 135 zi (eV 10 136 qT (eV 11 137 (pB rb) (eV 12 138 (pB rb) (eV 13 139 (pB rb) (eO 14 140 [(1,0,1)] (.string s) b (eV 15 141 (pB rb) (eV 16 142 (pB rb) (eV 17 143 (qP rb 1) (eO 18 144 [(1,1,1)] (nV k) b (eV 19 145 (.int .u8 (ak s k:Nat)) ?_ (hv:=fun _=>aU (tx:=9) (x:=.tmp 140) (i:=.tmp 144) (k:=.i64) (s:=s) (n:=k) (j:=(k:Int)) kR kR kR kR oM oM _)))))))))));refine ie 20 146 b d (fun _ _ b=>gp ((ak s k)) (bh _ _) _ _ b.g) ?_;rintro _ _ _ _ _ d b rfl;cases yb:(decide (48<=(ak s k)/\(ak s k)<=57))
   .
    have yj:=oF yb;refine eV 21 147 qF (eV 22 148 (pB rb) (eV 23 149 (pB rb) (eV 24 150 (pB rb) (eO 25 151 [(1,0,1)] (.string s) b (eV 26 152 (pB rb) (eV 27 153 (pB rb) (eV 28 154 (qP rb 1) (eO 29 155 [(1,1,1)] (nV k) b (eV 30 156 (.int .u8 (ak s k:Nat)) ?_ (hv:=fun _=>aU (tx:=9) (x:=.tmp 151) (i:=.tmp 155) (k:=.i64) (s:=s) (n:=k) (j:=(k:Int)) kR kR kR kR oM oM _))))))))));cases zj:(((ak s k:Nat):Int) == (46:Int))
    .
     have yk:=ao zj;refine eB 31 157 zj (eV 32 158 qF (eV 33 159 qF (bL b (fun _ yV hh b=>?_))));replace d:=d.trans (hh.m _);refine tD ?_;intro a_ D;exact ⟨_,⟨false,yV,rfl,b.to _ _,(fun u=>absurd u kD),(fun _=>by first|exact .inl oM|exact .inr (decide_eq_false oM)),d⟩,D.to _ kR⟩
    have yk:=eq_of_beq zj;refine eB 31 157 zj (eV 32 158 qT (eV 33 159 qT (bL b (fun _ yW hp b=>?_))));replace d:=d.trans (hp.m _);refine tD ?_;intro a_ D;exact ⟨_,⟨true,yW,rfl,b.to _ _,(fun _=>⟨decide_eq_true oM,by omega⟩),(fun u=>absurd u kD),d⟩,D.to _ kR⟩
   have yj:=oT yb;refine eV 21 147 qT (eG 22 148 (eG 23 149 (eG 24 150 (eG 25 151 (eG 26 152 (eG 27 153 (eG 28 154 (eG 29 155 (eG 30 156 (eG 31 157 (eV 32 158 qT (eV 33 159 qT (bL b (fun _ yX fp b=>?_))))))))))))));replace d:=d.trans (fp.m _);refine tD ?_;intro a_ D;exact ⟨_,⟨true,yX,rfl,b.to _ _,(fun _=>⟨decide_eq_true oM,by omega⟩),(fun u=>absurd u kD),d⟩,D.to _ kR⟩
  rintro _ _ ⟨za,Za,rfl,b,zf,Z,d⟩;cases zk:(za)
  .
   try rw[zk] at b
   try rw[zk]
   refine da (CG.exit ?_)
   show CG _ _ _ _ _ _ _ _
   refine cQ ?_;have H:rn cH s l=k:=dy hk1 hk2 Q (Z aM);have O:=b;have F:=d.gr.size;refine cR 15 [⟨14,8,.cells (J0 [qF,sZ,sZ]) 44 (0,0)⟩] mixed b (dz (lu kR (fun _ _=>by kernel_rfl)) aw) (eV 0 168 (pB rb) (eV 1 169 (pB rb) (eV 2 170 (pB rb) (eO 3 171 [(1,0,1)] (.string s) b (eV 4 172 (nV l) (eV 5 173 (pB rb) (eV 6 174 (pB rb) (eV 7 175 (qP rb 1) (eO 8 176 [(1,1,1)] (nV k) b (eV 9 177 (.string (s.extract l k)) ?_ (hv:=fun _=>eA (tx:=9) (x:=.tmp 171) (i:=.tmp 172) (e:=.tmp 176) (k:=.i64) (k2:=.i64) (s:=s) (n:=l) (m:=k) (j:=(l:Int)) (j2:=(k:Int)) kR kR kR kR kR oM oM oM oM _)))))))))))
   rcases hz:cF (s.extract l k) with _|q
   .
    refine ie 10 178 b d (fun _ _ b=>ot (s.extract l k) (by rw[ByteArray.size_extract];omega) hz _ _ b.g) ?_;rintro _ _ _ _ _ d b ⟨_,rfl,zR,zS,zU,zW,rfl,h6,hx,yG,yH⟩;replace b:=b.aP yG yH;refine eV 11 167 (.tuple #[rG (0:Rat) zR zS zU zW,qF]) (eV 12 179 (rG (0:Rat) zR zS zU zW) (eV 13 180 qF (me [] O b d F 44 [qF,sZ,sZ] (fun _ _ Zb d bm b=>kj 15 0 0 (gA (0:Rat) zR zS zU zW) b (fun _ y b=>?_)))));replace d:=d.put2 y bm g b.g;refine tV 16 9 qF (tN (cQ (aa b [.c,.v qT] (aj (aa b aF (bj 185 (fd rb s C k oM l _ _ b.g (b.own 2) (b.jk 2) b.f.r.1) ?_))))));rintro _ _ _ df ⟨rfl,b4⟩;replace b:=(b.stepM 2 df b4).to [⟨Zb,44,gA (0:Rat) zR zS zU zW⟩,⟨z,47,ax ⟨0,0,false,none,0,0,none,0,0,⟨#[]⟩,none,0,0⟩⟩,⟨rb,67,[.string s,nV s.size,nV l]⟩] [];replace d:=d.trans df;refine ce 1 0 (ax (⟨0,0,false,none,0,0,none,0,0,⟨#[]⟩,none,0,0⟩:RTm)) b (fun _ y b=>?_);replace d:=d.put2 y p g b.g;exact lN (kX (b.retM d [(1,0,7)] (aY (⟨0,0,false,none,0,0,none,0,0,⟨#[]⟩,none,0,0⟩:RTm)) ((by rw[oY H M (decide_eq_true oM) hz];exact ⟨_,rfl,b.own 2⟩))))
   have hzl:=nW hz;refine ie 10 178 b d (fun _ _ b=>nZ (s.extract l k) q (by rw[ByteArray.size_extract];omega) hz _ _ b.g) ?_;rintro _ _ _ _ _ d b ⟨_,rfl,zv,zw,zx,zA,rfl,yI,yJ,yK,yL⟩;replace b:=b.aP yK yL;refine eV 11 167 (.tuple #[rG q zv zw zx zA,qT]) (eV 12 179 (rG q zv zw zx zA) (eV 13 180 qT (me [] O b d F 44 [qF,sZ,sZ] (fun _ _ lq d br b=>kj 15 0 0 (gA q zv zw zx zA) b (fun _ y b=>?_)))));replace d:=d.put2 y br g b.g;refine tV 16 9 qT (tN (cQ (aa b [.c,.v qF] (ah (cK (aa b [.o (rG q zv zw zx zA) 0 0 3] (d7 187 (EE q zv zw yI zx zA yJ _ _ b.g b.f.2.1 b.f.1) ?_)))))));rintro _ _ _ cy ⟨bb,rfl,b2⟩;replace d:=d.trans (cy.m _);replace b:=b.step cy;replace b:=(b.add (K:=fun u=>RtH u bb (dl q)) b2);refine ce 1 0 (ax bb) b (fun _ y b=>?_);replace d:=d.put2 y p g b.g;exact lN (kX (b.retM d [(1,0,7)] (aY bb) ((by rw[pQ H M (decide_eq_true oM) hz];exact ⟨_,rfl,by omega,b.own 2,b.f.1⟩))))
  try rw[zk] at b
  try rw[zk]
  refine ci (cK (kZ (kQ (lL b [.c,.v (pB rb),.v (qP rb 1),.o (nV k) 1 1 1] (bg 164 ((k:Nat)+1) (k+1) ?_)))));refine lL b [.v (pB rb),.v (qP rb 1)] (ce 1 1 ([nV (k+1)]) b (fun _ y b=>?_));replace d:=d.put y (n1.2 rfl) b.g;refine lD ?_;have cq:=(zf aM).2;intro a_ D;refine ⟨_,_,?_,⟨k+1,Za,rfl,rfl,b.to _ _,oM,oM,d,(fun i h1 h2=>by rcases Kl.1 h2 with u|rfl;exact Q i h1 u;exact (zf aM).1)⟩,D.to _ kR⟩
  omega
 have yr:=eq_of_beq zI;refine lB 32 zI (lL b ac (aj (cQ (kZ ?_))));refine bG _ (CG.loop (fun μ_ Γ U=>∃ (k:Nat)(u:Hp),μ_=s.size-k/\Γ=[(0,pB rb),(2,pB z),(4,nV l)]/\SS wz L U u [⟨z,47,ax ⟨0,0,false,none,0,0,none,0,0,⟨#[]⟩,none,0,0⟩⟩,⟨rb,67,[.string s,nV k,iV (-1)]⟩] [] [fun u=>Tab u]/\l<=k/\k<=s.size/\UpM [rb] w h U u/\(∀ i,l<=i->i<k->cf (ak s i)=true)) _ ⟨l,Zg,rfl,rfl,b.to _ _,nR _,oM,d,(fun i h1 h2=>absurd h1 oM)⟩ ?_);rintro _ _ _ ⟨k,_,j1,rfl,b,hk1,hk2,d,Q⟩;refine cQ (CG.join (fun Γ U=>∃ (ya:Bool)(u:Hp),Γ=[(0,pB rb),(2,pB z),(4,nV l),(54,.bool ya)]/\SS wz L U u [⟨z,47,ax ⟨0,0,false,none,0,0,none,0,0,⟨#[]⟩,none,0,0⟩⟩,⟨rb,67,[.string s,nV k,iV (-1)]⟩] [] [fun u=>Tab u]/\(ya=true->cf (ak s k)=true/\k<s.size)/\(ya=false->k=s.size\/cf (ak s k)=false)/\UpM [rb] w h U u) ?_ ?_)
 .
  refine cR 22 [] mixed b aw (eV 0 33 (pB rb) (eV 1 34 (pB rb) (eV 2 35 (qP rb 1) (eO 3 36 [(1,1,1)] (nV k) b (eV 4 37 (pB rb) (eV 5 38 (pB rb) (eV 6 39 (pB rb) (eO 7 40 [(1,0,1)] (.string s) b (eV 8 41 (nV s.size) ?_)))))))));cases zl:(decide ((k:Int)<(s.size:Int)))
  .
   have yl:=oF zl;refine eB 9 42 zl (eV 10 43 qF (eG 11 44 (eG 12 45 (eG 13 46 (eG 14 47 (eG 15 48 (eG 16 49 (eG 17 50 (eG 18 51 (eG 19 52 (eG 20 53 (eV 21 54 qF (bL b (fun _ Zc hb b=>?_))))))))))))));replace d:=d.trans (hb.m _);refine tD ?_;intro a_ D;exact ⟨_,⟨false,Zc,rfl,b.to _ _,(fun u=>absurd u kD),(fun _=>by first|exact .inl oM|exact .inr (decide_eq_false oM)),d⟩,D.to _ kR⟩
  have yl:=oT zl;refine eB 9 42 zl (eV 10 43 qT (eV 11 44 (pB rb) (eV 12 45 (pB rb) (eV 13 46 (pB rb) (eO 14 47 [(1,0,1)] (.string s) b (eV 15 48 (pB rb) (eV 16 49 (pB rb) (eV 17 50 (qP rb 1) (eO 18 51 [(1,1,1)] (nV k) b (eV 19 52 (.int .u8 (ak s k:Nat)) ?_ (hv:=fun _=>aU (tx:=9) (x:=.tmp 47) (i:=.tmp 51) (k:=.i64) (s:=s) (n:=k) (j:=(k:Int)) kR kR kR kR oM oM _)))))))))));cases zm:(((ak s k:Nat):Int) != (93:Int))
  .
   have ym:=ay zm;refine eB 20 53 zm (eV 21 54 qF (bL b (fun _ Zd hn b=>?_)));replace d:=d.trans (hn.m _);refine tD ?_;intro a_ D;exact ⟨_,⟨false,Zd,rfl,b.to _ _,(fun u=>absurd u kD),(fun _=>by first|exact .inl oM|exact .inr (decide_eq_false oM)),d⟩,D.to _ kR⟩
  have ym:=a6 zm;refine eB 20 53 zm (eV 21 54 qT (bL b (fun _ Ze hc b=>?_)));replace d:=d.trans (hc.m _);refine tD ?_;intro a_ D;exact ⟨_,⟨true,Ze,rfl,b.to _ _,(fun _=>⟨decide_eq_true oM,by omega⟩),(fun u=>absurd u kD),d⟩,D.to _ kR⟩
 rintro _ _ ⟨ya,Zf,rfl,b,yn,c5,d⟩;cases zn:(ya)
 .
  try rw[zn] at b
  try rw[zn]
  refine da (CG.exit ?_)
  show CG _ _ _ _ _ _ _ _
  refine cQ ?_;have k4:=cn (s:=s) (a:=l) oM
  have hkp:l+1<=k:=by
    rcases Nat.eq_or_lt_of_le hk1 with u|u
    ·subst u;rcases c5 aM with u|u;omega;have:=oF u;omega
    ·exact u
  have H:rn cf s (l+1)=k:=dy hkp hk2 (fun i h1 h2=>Q i oM h2) (c5 aM);have O:=b;have F:=d.gr.size;refine cR 16 [⟨15,6,.cells (J0 [qF,sZ,sZ]) 44 (0,0)⟩] mixed b (dz (lu kR (fun _ _=>by kernel_rfl)) aw) (eV 0 63 (pB rb) (eV 1 64 (pB rb) (eV 2 65 (pB rb) (eO 3 66 [(1,0,1)] (.string s) b (eV 4 67 (nV l) (iO 5 68 ((l:Nat)+1) (l+1) (eV 6 69 (pB rb) (eV 7 70 (pB rb) (eV 8 71 (qP rb 1) (eO 9 72 [(1,1,1)] (nV k) b (eV 10 73 (.string (s.extract (l+1) k)) ?_ (hv:=fun _=>eA (tx:=9) (x:=.tmp 66) (i:=.tmp 68) (e:=.tmp 72) (k:=.i64) (k2:=.i64) (s:=s) (n:=(l+1)) (m:=k) (j:=((l+1:Nat):Int)) (j2:=(k:Int)) kR kR kR kR kR oM oM oM oM _))))))))))))
  rcases hz:cF (s.extract (l+1) k) with _|q
  .
   refine ie 11 74 b d (fun _ _ b=>ot (s.extract (l+1) k) (by rw[ByteArray.size_extract];omega) hz _ _ b.g) ?_;rintro _ _ _ _ _ d b ⟨_,rfl,zB,zD,zE,zG,rfl,h8,h9,yM,yN⟩;replace b:=b.aP yM yN;refine eV 12 62 (.tuple #[rG (0:Rat) zB zD zE zG,qF]) (eV 13 75 (rG (0:Rat) zB zD zE zG) (eV 14 76 qF (me [] O b d F 44 [qF,sZ,sZ] (fun _ _ zX d bl b=>kj 16 0 0 (gA (0:Rat) zB zD zE zG) b (fun _ y b=>?_)))));replace d:=d.put2 y bl g b.g;refine tV 17 7 qF (tN (cQ (cQ (cR 30 [] mixed b aw ?_))));refine eV 0 77 (pB rb) (eV 1 78 (pB rb) (eV 2 79 (qP rb 1) (eO 3 80 [(2,1,1)] (nV k) b (eV 4 81 (pB rb) (eV 5 82 (pB rb) (eV 6 83 (pB rb) (eO 7 84 [(2,0,1)] (.string s) b (eV 8 85 (nV s.size) ?_))))))));cases zo:((k:Int) == (s.size:Int))
   .
    have yo:=ao zo;refine eB 9 86 zo (eV 10 87 qF (eV 11 88 qF (eV 12 89 qT (eV 13 90 qT (eV 14 91 qT (eG 15 92 (eG 16 93 (eG 17 94 (eG 18 95 (eG 19 96 (eG 20 97 (eG 21 98 (eG 22 99 (eG 23 100 (eG 24 101 (eG 25 102 (eG 26 103 (eG 27 104 (eG 28 105 (eV 29 106 qT (bL b (fun _ _ f3 b=>?_))))))))))))))))))))));replace d:=d.trans (f3.m _);refine tN (bG [(0,pB rb),(2,pB z),(4,nV l),(6,pB zX),(106,qT)] ?_);refine ci (aa b aF (bj 109 (fd rb s C k oM l _ _ b.g (b.own 2) (b.jk 2) b.f.r.1) ?_));rintro _ _ _ dc ⟨rfl,cm⟩;replace b:=(b.stepM 2 dc cm).to [⟨zX,44,gA (0:Rat) zB zD zE zG⟩,⟨z,47,ax ⟨0,0,false,none,0,0,none,0,0,⟨#[]⟩,none,0,0⟩⟩,⟨rb,67,[.string s,nV s.size,nV l]⟩] [];replace d:=d.trans dc;refine ce 1 0 (ax (⟨0,0,false,none,0,0,none,0,0,⟨#[]⟩,none,0,0⟩:RTm)) b (fun _ y b=>?_);replace d:=d.put2 y p g b.g;exact lN (kX (b.retM d [(1,0,7)] (aY (⟨0,0,false,none,0,0,none,0,0,⟨#[]⟩,none,0,0⟩:RTm)) ((by rw[r4 H M oM (wQ hz)];exact ⟨_,rfl,b.own 2⟩))))
   have yo:=eq_of_beq zo;refine eB 9 86 zo (eV 10 87 qT (eG 11 88 (eG 12 89 (eV 13 90 qT (eV 14 91 qT (eG 15 92 (eG 16 93 (eG 17 94 (eG 18 95 (eG 19 96 (eG 20 97 (eG 21 98 (eG 22 99 (eG 23 100 (eG 24 101 (eG 25 102 (eG 26 103 (eG 27 104 (eG 28 105 (eV 29 106 qT (bL b (fun _ _ hm b=>?_))))))))))))))))))))));replace d:=d.trans (hm.m _);refine tN (bG [(0,pB rb),(2,pB z),(4,nV l),(6,pB zX),(106,qT)] ?_);refine ci (aa b aF (bj 109 (fd rb s C k oM l _ _ b.g (b.own 2) (b.jk 2) b.f.r.1) ?_));rintro _ _ _ cr ⟨rfl,b3⟩;replace b:=(b.stepM 2 cr b3).to [⟨zX,44,gA (0:Rat) zB zD zE zG⟩,⟨z,47,ax ⟨0,0,false,none,0,0,none,0,0,⟨#[]⟩,none,0,0⟩⟩,⟨rb,67,[.string s,nV s.size,nV l]⟩] [];replace d:=d.trans cr;refine ce 1 0 (ax (⟨0,0,false,none,0,0,none,0,0,⟨#[]⟩,none,0,0⟩:RTm)) b (fun _ y b=>?_);replace d:=d.put2 y p g b.g;exact lN (kX (b.retM d [(1,0,7)] (aY (⟨0,0,false,none,0,0,none,0,0,⟨#[]⟩,none,0,0⟩:RTm)) ((by rw[r4 H M oM (wQ hz)];exact ⟨_,rfl,b.own 2⟩))))
  have hzl:=nW hz;refine ie 11 74 b d (fun _ _ b=>nZ (s.extract (l+1) k) q (by rw[ByteArray.size_extract];omega) hz _ _ b.g) ?_;rintro _ _ _ _ _ d b ⟨_,rfl,zb,zc,zd,ze,rfl,yc,yd,yO,yP⟩;replace b:=b.aP yO yP;refine eV 12 62 (.tuple #[rG q zb zc zd ze,qT]) (eV 13 75 (rG q zb zc zd ze) (eV 14 76 qT (me [] O b d F 44 [qF,sZ,sZ] (fun _ _ zH d bk b=>kj 16 0 0 (gA q zb zc zd ze) b (fun _ y b=>?_)))));replace d:=d.put2 y bk g b.g;refine tV 17 7 qT (tN (cQ (cQ (cR 30 [] mixed b aw ?_))));refine eV 0 77 (pB rb) (eV 1 78 (pB rb) (eV 2 79 (qP rb 1) (eO 3 80 [(2,1,1)] (nV k) b (eV 4 81 (pB rb) (eV 5 82 (pB rb) (eV 6 83 (pB rb) (eO 7 84 [(2,0,1)] (.string s) b (eV 8 85 (nV s.size) ?_))))))));cases zp:((k:Int) == (s.size:Int))
  .
   have yp:=ao zp;refine eB 9 86 zp (eV 10 87 qF (eV 11 88 qT (eV 12 89 qF (eV 13 90 qF (eV 14 91 qF (eO 15 92 [(0,0,3)] (rG q zb zc zd ze) b (eV 17 94 (pB rb) (eV 18 95 (pB rb) (eV 19 96 (pB rb) (eO 20 97 [(2,0,1)] (.string s) b (eV 21 98 (nV l) (iO 22 99 ((l:Nat)+1) (l+1) (eV 23 100 (pB rb) (eV 24 101 (pB rb) (eV 25 102 (qP rb 1) (eO 26 103 [(2,1,1)] (nV k) b (eV 27 104 (.string (s.extract (l+1) k)) ?_ (hv:=fun _=>eA (tx:=9) (x:=.tmp 97) (i:=.tmp 99) (e:=.tmp 103) (k:=.i64) (k2:=.i64) (s:=s) (n:=(l+1)) (m:=k) (j:=((l+1:Nat):Int)) (j2:=(k:Int)) kR kR kR kR kR oM oM oM oM _))))))))))))))))));refine ie 16 93 b d (fun _ _ b=>Gj q zb zc yc zd ze yd (ed hzl.1 kD) (ed hzl.2 kD) (im hz).1 (im hz).2 _ _ b.g b.f.2.1 b.f.1) ?_;rintro _ _ _ _ _ d b rfl;cases zq:(j4 (uw q) (s.extract (l+1) k))
   .
    have yq:=ku zq;refine eB 28 105 zq (eV 29 106 qF (bL b (fun _ _ hd b=>?_)));replace d:=d.trans (hd.m _);refine tN (bG [(0,pB rb),(2,pB z),(4,nV l),(6,pB zH),(106,qF)] ?_);refine da (cK (aa b [.c,.v (pB rb),.v (qP rb 1),.o (nV k) 2 1 1] (bg 114 ((k:Nat)+1) (k+1) ?_)));refine lL b [.v (pB rb),.v (qP rb 1)] (ce 2 1 ([nV (k+1)]) b (fun _ y b=>?_));replace d:=d.put y (n1.2 rfl) b.g;refine aE (lL b [.o (rG q zb zc zd ze) 0 0 3] (d7 118 (EE q zb zc yc zd ze yd _ _ b.g b.f.2.1 b.f.1) ?_));rintro _ _ _ cx ⟨Y,rfl,ch⟩;replace d:=d.trans (cx.m _);replace b:=b.step cx;replace b:=(b.add (K:=fun u=>RtH u Y (dl q)) ch);refine ce 1 0 (ax Y) b (fun _ y b=>?_);replace d:=d.put2 y p g b.g;exact lN (kX (b.retM d [(1,0,7)] (aY Y) ((by rw[BY H M oM oM (GC hz aM)];exact ⟨_,rfl,by omega,b.own 2,b.f.1⟩))))
   have yq:=kF zq;refine eB 28 105 zq (eV 29 106 qT (bL b (fun _ _ hl b=>?_)));replace d:=d.trans (hl.m _);refine tN (bG [(0,pB rb),(2,pB z),(4,nV l),(6,pB zH),(106,qT)] ?_);refine ci (aa b aF (bj 109 (fd rb s C k oM l _ _ b.g (b.own 2) (b.jk 2) b.f.r.1) ?_));rintro _ _ _ c7 ⟨rfl,b5⟩;replace b:=(b.stepM 2 c7 b5).to [⟨zH,44,gA q zb zc zd ze⟩,⟨z,47,ax ⟨0,0,false,none,0,0,none,0,0,⟨#[]⟩,none,0,0⟩⟩,⟨rb,67,[.string s,nV s.size,nV l]⟩] [];replace d:=d.trans c7;refine ce 1 0 (ax (⟨0,0,false,none,0,0,none,0,0,⟨#[]⟩,none,0,0⟩:RTm)) b (fun _ y b=>?_);replace d:=d.put2 y p g b.g;exact lN (kX (b.retM d [(1,0,7)] (aY (⟨0,0,false,none,0,0,none,0,0,⟨#[]⟩,none,0,0⟩:RTm)) ((by rw[nt H M oM (by first|exact .inl oM|exact .inr (x8 hz aM))];exact ⟨_,rfl,b.own 2⟩))))
  have yp:=eq_of_beq zp;refine eB 9 86 zp (eV 10 87 qT (eG 11 88 (eG 12 89 (eV 13 90 qT (eV 14 91 qT (eG 15 92 (eG 16 93 (eG 17 94 (eG 18 95 (eG 19 96 (eG 20 97 (eG 21 98 (eG 22 99 (eG 23 100 (eG 24 101 (eG 25 102 (eG 26 103 (eG 27 104 (eG 28 105 (eV 29 106 qT (bL b (fun _ _ f1 b=>?_))))))))))))))))))))));replace d:=d.trans (f1.m _);refine tN (bG [(0,pB rb),(2,pB z),(4,nV l),(6,pB zH),(106,qT)] ?_);refine ci (aa b aF (bj 109 (fd rb s C k oM l _ _ b.g (b.own 2) (b.jk 2) b.f.r.1) ?_));rintro _ _ _ cz ⟨rfl,b7⟩;replace b:=(b.stepM 2 cz b7).to [⟨zH,44,gA q zb zc zd ze⟩,⟨z,47,ax ⟨0,0,false,none,0,0,none,0,0,⟨#[]⟩,none,0,0⟩⟩,⟨rb,67,[.string s,nV s.size,nV l]⟩] [];replace d:=d.trans cz;refine ce 1 0 (ax (⟨0,0,false,none,0,0,none,0,0,⟨#[]⟩,none,0,0⟩:RTm)) b (fun _ y b=>?_);replace d:=d.put2 y p g b.g;exact lN (kX (b.retM d [(1,0,7)] (aY (⟨0,0,false,none,0,0,none,0,0,⟨#[]⟩,none,0,0⟩:RTm)) ((by rw[nt H M oM (by first|exact .inl oM|exact .inr (x8 hz aM))];exact ⟨_,rfl,b.own 2⟩))))
 try rw[zn] at b
 try rw[zn]
 refine ci (cK (kZ (kQ (lL b [.c,.v (pB rb),.v (qP rb 1),.o (nV k) 1 1 1] (bg 59 ((k:Nat)+1) (k+1) ?_)))));refine lL b [.v (pB rb),.v (qP rb 1)] (ce 1 1 ([nV (k+1)]) b (fun _ y b=>?_));replace d:=d.put y (n1.2 rfl) b.g;refine lD ?_;have cq:=(yn aM).2;intro a_ D;refine ⟨_,_,?_,⟨k+1,Zf,rfl,rfl,b.to _ _,oM,oM,d,(fun i h1 h2=>by rcases Kl.1 h2 with u|rfl;exact Q i h1 u;exact (yn aM).1)⟩,D.to _ kR⟩
 omega
end
def gd (f:Nat->Nat):Nat->Nat
  | 0=>0
  | n+1=>max (gd f n) (f n)
def eK:Nat->Tm->Nat
  | 0,_=>0
  | d+1,t=>gd (fun i=>eK d (t.ks.getD i cc)) t.ks.length+1
theorem kw {f:Nat->Nat}{b:Nat}:∀ n,(∀ i,i<n->f i<=b)->gd f n<=b
 | 0,_=>JH _
 | n+1,h=>Nat.max_le.2 ⟨kw n (fun i hi=>h i oM),h n (Nat.lt_succ_self n)⟩
theorem od:∀ (d:Nat) (t:Tm),eK d t<=d
 | 0,_=>eb _
 | d+1,t=>KL (kw _ (fun i _=>od d _))
section
variable {nf bf:ByteArray->Option Rat}{s:ByteArray}(hnf:∀ x q,nf x=some q->LQ 3000 q)(hbf:∀ x q,bf x=some q->LQ 3000 q)
theorem xw:fN ⟨#[]⟩:=by unfold fN;decide
theorem Ek {x:ByteArray}(h:cD x=true):fN x:=by
 have:=oT h
 unfold fN;omega
theorem rR {d:Nat}{q:Rat}(h:LQ 3000 q):SmT fN (d+1) (dl q):=⟨JH _,⟨by show (-1000:Int)<=1;decide,by show (1:Int)<=1000;decide⟩,⟨by show (-1000:Int)<=0;decide,by show (0:Int)<=1000;decide⟩,h,xw,fun i hi=>absurd hi (Kk i)⟩
theorem xV:LQ 3000 (0:Rat):=⟨by decide,by decide⟩
theorem Cv {d:Nat}{x:ByteArray}(h:cD x=true):SmT fN (d+1) (dC x):=⟨JH _,⟨by show (-1000:Int)<=2;decide,by show (2:Int)<=1000;decide⟩,⟨by show (-1000:Int)<=0;decide,by show (0:Int)<=1000;decide⟩,xV,Ek h,fun i hi=>absurd hi (Kk i)⟩
theorem nk {d:Nat}{op m:Int}{t:Tm}(b : -1000<=op/\op<=1000)(a : -1000<=m/\m<=1000)(h:SmT fN d t):SmT fN (d+1) (.mk op m 0 ⟨#[]⟩ [t]):=⟨by show 1<=3;decide,b,a,xV,xw,fun i hi=>by
 have:i=0:=by have:i<1:=hi;omega
 subst this;exact h⟩
theorem n0 {d:Nat}{op:Int}{t u:Tm}(a : -1000<=op/\op<=1000)(h:SmT fN d t)(b:SmT fN d u):SmT fN (d+1) (bz op t u):=⟨by show 2<=3;decide,a,⟨by show (-1000:Int)<=0;decide,by show (0:Int)<=1000;decide⟩,xV,xw,fun i hi=>by
 have:i=0\/i=1:=by have:i<2:=hi;omega
 rcases this with rfl|rfl
 ·exact h
 ·exact b⟩
def FF (d:Nat)(k:PKd)(t:Tm):Prop:=match k with
  | .more _ u=>∀ e,SmT fN e u->SmT fN (e+d) t
  | .call op=>9<=op/\op<=13->SmT fN d t
  | _=>SmT fN d t
include hnf hbf in
theorem xP:∀ (n:Nat) (k:PKd) (a:Nat) (t:Tm) (b:Nat),a<=s.size->bn nf bf s n k a=some (.ok t b)->FF (b-a) k t
  | 0,_,_,_,_,_,h=>by cases h
  | n + 1, k, a,t,b,ha,h=>by
    have h1:=eF s a;have J:=bB ha;have B:=cn (s:=s) (a:=sk s a);have z:=xP n;have y:=nO (nf:=nf) (bf:=bf) (s:=s) n;cases k with
    | sum =>
      obtain ⟨u,c,i,x⟩:=jw (lv:=false) h;have l:=y _ _ _ _ ha i;have H:=y _ _ _ _ l.2 x;have j2:FF (b-c) (.more false u) t:=z _ _ _ _ l.2 x;exact (j2 _ (show SmT fN (c-a) u from z .prod _ _ _ ha i)).mono oM
    | prod =>
      obtain ⟨u,c,i,x⟩:=jw (lv:=true) h;have l:=y _ _ _ _ ha i;have H:=y _ _ _ _ l.2 x;have j2:FF (b-c) (.more true u) t:=z _ _ _ _ l.2 x;exact (j2 _ (show SmT fN (c-a) u from z .sign _ _ _ ha i)).mono oM
    | more lv u =>
      intro e K;have k1:c1 lv≠0:=by cases lv<;>decide
      have k2:c2 lv≠0:=by cases lv<;>decide
      have Q : -1000<=km lv/\km lv<=1000:=by cases lv<;>decide
      have Y : -1000<=jv lv/\jv lv<=1000:=by cases lv<;>decide
      have j:∀ {v:Tm} {c d:Nat},FF c (part lv) v->c<=d->SmT fN d v:=fun hv D=>by
        cases lv
        . exact SmT.mono (show SmT fN _ _ from hv) D
        . exact SmT.mono (show SmT fN _ _ from hv) D
      by_cases x1:ak s (sk s a)=c1 lv
      . obtain ⟨v,c,i,x⟩:=jM h x1
        have:=B oM;have l:=y _ _ _ _ (show sk s a+1<=s.size by omega) i;have H:=y _ _ _ _ l.2 x;have o:=z _ _ _ _ (show sk s a+1<=s.size by omega) i;have j2:FF (b-c) (.more lv (bz (km lv) u v)) t:=z _ _ _ _ l.2 x;exact (j2 (e+(c-a-1)+1) (n0 Q (K.mono oM) (j o oM))).mono oM
      . by_cases x2:ak s (sk s a)=c2 lv
        . obtain ⟨v,c,i,x⟩:=jG h x1 x2
          have:=B oM;have l:=y _ _ _ _ (show sk s a+1<=s.size by omega) i;have H:=y _ _ _ _ l.2 x;have o:=z _ _ _ _ (show sk s a+1<=s.size by omega) i;have j2:FF (b-c) (.more lv (bz (jv lv) u v)) t:=z _ _ _ _ l.2 x;exact (j2 (e+(c-a-1)+1) (n0 Y (K.mono oM) (j o oM))).mono oM
        . obtain ⟨rfl,_⟩:=jy h x1 x2
          exact K.mono oM
    | sign =>
      by_cases x1:ak s (sk s a)=45
      . obtain ⟨v,i,rfl⟩:=nS h x1
        have:=B oM;have l:=y _ _ _ _ (show sk s a+1<=s.size by omega) i;have o:SmT fN (b-(sk s a+1)) v:=z .sign _ _ _ oM i;exact (nk kD kD o).mono oM
      . have l:=y _ _ _ _ J (iu h x1)
        have o:SmT fN (b-sk s a) t:=z .pow _ _ _ J (iu h x1);exact o.mono oM
    | pow =>
      obtain ⟨v,e,i,x,F⟩:=nF h;have l:=y _ _ _ _ ha i;have o:SmT fN (e-a) v:=z .atom _ _ _ ha i;have e1:=eF s e
      by_cases x1:ak s (sk s e)=94
      . have:=cn (s:=s) (a:=sk s e) oM
        have q:=sD oM (F x1);obtain ⟨k,V,hb,hl,rfl⟩:=oe (F x1);have S:k<=999:=i9 V (by rw[ByteArray.size_extract];omega);exact SmT.mono (d:=(e-a)+1) (nk kD (by split<;>omega) o) oM
      . obtain ⟨rfl,rfl⟩:=x x1
        exact o.mono oM
    | atom =>
      cases c0:cH (ak s (sk s a)) with
      | true =>
        obtain ⟨q,L,rfl,rfl⟩:=nK h c0;have C:=B (by intro h0;rw[h0] at c0;exact absurd c0 kD);have:=jh (p:=cH) C c0;exact SmT.mono (d:=0+1) (rR (hnf _ _ L)) oM
      | false =>
        by_cases cL:dI (ak s (sk s a))\/ak s (sk s a)=95
        . have C:sk s a<s.size:=B (by
            rcases cL with cL|cL
            . unfold dI at cL;omega
            . omega)
          have hr:sk s a+1<=rn bF s (sk s a):=jh C (decide_eq_true (by
            unfold kd
            rcases cL with cL|cL
            . exact .inl cL
            . exact .inr (.inr cL)))
          have M:=dB (p:=bF) J;cases d:bU (s.extract (sk s a) (rn bF s (sk s a))) with
          | true =>
            have g:=rq h c0 cL d;have l:=y _ _ _ _ M g;have o:=z _ _ _ _ M g
            have U:9<=ag (s.extract (sk s a) (rn bF s (sk s a)))/\ag (s.extract (sk s a) (rn bF s (sk s a)))<=13:=by
              have D:=oT d
              revert D
              unfold ag
              repeat' split
              all_goals intro D;first|(constructor<;>decide)|exact absurd rfl D
            exact SmT.mono (show SmT fN _ t from o U) oM
          | false =>
            obtain ⟨Z,rfl,rfl⟩:=oh h c0 cL d;exact SmT.mono (d:=0+1) (Cv Z) oM
        . by_cases c9:ak s (sk s a)=91
          . obtain ⟨q1,q,L,rfl,rfl⟩:=p9 h c0 cL c9
            have:=B oM;have:=f4 cf s (sk s a+1);exact SmT.mono (d:=0+1) (rR (hbf _ _ L)) oM
          . by_cases I:ak s (sk s a)=40
            . obtain ⟨e,i,x,F⟩:=oA h c0 cL c9 I
              have:=B oM;have l:=y _ _ _ _ (show sk s a+1<=s.size by omega) i;have:=eF s e;have o:SmT fN (e-(sk s a+1)) t:=z .sum _ _ _ oM i;exact o.mono oM
            . exact (qB h c0 cL c9 I).elim
    | call op =>
      intro X;obtain ⟨I,u,e,i,x,F⟩:=k7 h;have:=B oM;have l:=y _ _ _ _ (show sk s a+1<=s.size by omega) i;have:=eF s e;have o:SmT fN (e-(sk s a+1)) u:=z .sum _ _ _ oM i
      by_cases ho:op=12\/op=13
      . obtain ⟨d,v,f,O,g5,rfl,W⟩:=x ho
        have:=cn (s:=s) (a:=sk s e) oM;have H:=y _ _ _ _ (show sk s e+1<=s.size by omega) O;have:=eF s f;have j2:SmT fN (f-(sk s e+1)) v:=z .sum _ _ _ oM O;exact SmT.mono (d:=(f-a-1)+1) (n0 oM (o.mono oM) (j2.mono oM)) oM
      . obtain ⟨d,rfl,W⟩:=F ho
        have:=cn (s:=s) (a:=sk s e) oM;exact SmT.mono (d:=(e-a-1)+1) (nk oM kD (o.mono oM)) oM
end
theorem xR (i:Bool)(j:Z9)(o f:Nat)(b:Z9)(k l:Nat)(q:Rat)(w:World)(h:Hp)(g:G w h)(z:RZ h (i,.slice j o f,.slice b k l) q):Calls Tryz.prog 46 #[.agg #[.bool i,.slice j o f,.slice b k l]] w (Ret w h (fun v _=>v=.bool (decide (q.num=0)))):=by
 obtain ⟨a,⟨A,c,D,d,e,x,F,y,B⟩,hz⟩:=z;have C:(Value.agg #[.bool i,qS j o f,qS b k l])=.agg #[.bool (au q.num),qS A (lim (ab q.num)).length c,qS D (lim (if a then q.den else 0)).length d]:=e;rw[C];have p:=lU q.num A c (if a then q.den else 0) D d x F w h g y B
 have u:decide ((if a=true then q.den else 0)=0\/q.num=0)=decide (q.num=0):=by
  cases a
  ·rw[decide_eq_true (.inl rfl),decide_eq_true];rw[hz rfl];rfl
  ·have:=q.den_nz
   by_cases e:q.num=0
   ·rw[decide_eq_true (.inr e),decide_eq_true e]
   ·rw[decide_eq_false (fun h=>h.elim this e),decide_eq_false e]
 rw[u] at p
 exact p
theorem wo  (isb:ByteArray->Bool)(sm:ByteArray->Prop)(hIs:∀ s,sm s->∀ (w:World) (h:Hp),G w h->Calls Tryz.prog 9 #[.string s] w (Ret w h (fun v _=>∃ b,v=.bool b/\b=isb s)))(d:Nat)(ih:∀ (r:RTm) (t:Tm) (w:World) (h:Hp),G w h->RmH d h r t->SmT sm d t ->  Calls Tryz.prog 39 #[aY r] w (Ret w h (fun v _=>∃ Y,v=.bool Y/\(Y=true↔WfT (fun s=>isb s=true) d t))))(op n:Int)(L:Bool)(D:Z9)(F J:Nat)(H:Z9)(I M:Nat)(q:Rat)(s:ByteArray)(A:Z9)(c:Nat)(x:List RTm)(ks:List Tm)(hc:x.length<=c)(hk3:ks.length<=3)(hop : -1000<=op/\op<=1000)(hn : -1000<=n/\n<=1000)(hq:LQ 3000 q)(hsm:sm s)(hW:∀ i,i<ks.length->SmT sm d (ks.getD i cc))(w:World)(h:Hp)(g:G w h)(hZ:RZ h (L,.slice D F J,.slice H I M) q)(hK:SlO 7 ax bZ h A x)(hKs:Rms d h x ks):CR 39 #[aY ⟨op,n,L,D,F,J,H,I,M,s,A,x.length,c⟩] w h (fun v _=>∃ Y,v=.bool Y/\(Y=true↔WfT (fun s=>isb s=true) (d+1) (.mk op n q s ks))):=by
 have a:=((((sS g).add (K:=fun e=>RZ e (L,qS D F J,qS H I M) q) hZ).aS hK).add (K:=fun e=>Rms d e x ks) hKs);have hln:=(a.f.1).len;refine go Tryz.func39 [(0,aY ⟨op,n,L,D,F,J,H,I,M,s,A,x.length,c⟩)] rfl (aG (lA 1 47 (ax ⟨op,n,L,D,F,J,H,I,M,s,A,x.length,c⟩) a (fun j w2 h3 a=>lL a ac (aE (lL a [.v (pB j),.o (iV op) 0 0 1] (aq 7 a (FR op _ _ a.g) (fun w4 h5 a=>?_)))))));refine lL a ac (ai (CG.join (fun Γ w_=>∃ (zo:Bool)(e:Hp),Γ=[(1,pB j),(2,qF),(68,.bool zo)]/\SS w h w_ e [⟨j,47,ax ⟨op,n,L,D,F,J,H,I,M,s,A,x.length,c⟩⟩] [] [fun e=>Rms d e x ks,fun e=>SlO 7 ax bZ e A x,fun e=>RZ e (L,qS D F J,qS H I M) q]/\(zo=true->¬((0<=fH op/\(ks.length:Int)=fH op)/\((op=2->isb s=true)/\(op≠2->s=⟨#[]⟩))/\(op=1\/q.num=0)/\(op=8\/n=0) /\ -12<=n/\n<=12))/\(zo=false->((0<=fH op/\(ks.length:Int)=fH op)/\((op=2->isb s=true)/\(op≠2->s=⟨#[]⟩))/\(op=1\/q.num=0)/\(op=8\/n=0) /\ -12<=n/\n<=12))) ?_ ?_))
 .
  refine kQ (lL a ac ?_);cases S:(decide ((fH op:Int)<(0:Int)))
  .
   have W:=oF S;refine lB 9 S (lL a [.c,.v (qP j 6),.o (qS A x.length c) 0 6 1,.v (nV x.length),.c] ?_);cases Q:((x.length:Int) != (fH op:Int))
   .
    have bd:=ay Q;refine lB 15 Q (lL a [.v qF,.c,.v (pB j),.o (iV op) 0 0 1] ?_);cases O:((op:Int) == (2:Int))
    .
     have X:=ao O;refine lB 20 O (lL a ac (lG 22 ?_));refine lG 23 (lG 24 (lG 25 (lL a [.v qF,.v qF,.c,.v (pB j),.o (iV op) 0 0 1] ?_)));have V:((op:Int) != (2:Int))=true:=Aj oM;have b5:=a6 V;refine lB 31 V (lL a [.c,.v (qP j 5),.o (.string s) 0 5 1] ?_);cases zb:(j4 s (⟨#[]⟩))
     .
      have zw:=ku zb;refine lB 35 zb (lL a [.v qF,.v qF,.c,.v (pB j),.o (iV op) 0 0 1] ?_);cases zd:((op:Int) != (1:Int))
      .
       have zx:=ay zd;refine lB 41 zd (lL a ac (lG 43 ?_));refine lG 44 (lG 45 (lG 46 (lL a [.v qF,.v qF,.c,.v (pB j),.o (iV op) 0 0 1] ?_)));have zp:((op:Int) != (8:Int))=true:=Aj oM;have b2:=a6 zp;refine lB 52 zp (lL a [.c,.v (qP j 1),.o (iV n) 0 1 1] ?_);cases ze:((n:Int) != (0:Int))
       .
        have zB:=ay ze;refine lB 56 ze (lL a [.v qF,.v qF,.c,.v (qP j 1),.o (iV n) 0 1 1] ?_);have ⟨zM,bt⟩:=dF (p:=(n:Int)<(-12:Int)) oM;refine lB 62 zM (lL a [.v qF,.c,.v (qP j 1),.o (iV n) 0 1 1] ?_);have ⟨zN,br⟩:=dF (p:=(12:Int)<(n:Int)) oM;refine lB 67 zN (lL a [.v qF] (lD ?_));intro B l;exact ⟨_,⟨false,h5,rfl,a.to _ _,(fun e=>absurd e kD),(fun _=>⟨by omega,⟨fun e=>by first|exact u.symm.trans aM|exact absurd e oM,fun e=>by first|assumption|exact absurd e oM⟩,by omega,by omega⟩)⟩,l.to _ kR⟩
       have zB:=a6 ze;refine lB 56 ze (lL a [.v qT,.v qT,.c] (lG 60 ?_));refine lG 61 (lG 62 (lL a [.v qT,.c] (lG 65 ?_)));refine lG 66 (lG 67 (lL a [.v qT] (lD ?_)));intro B l;exact ⟨_,⟨true,h5,rfl,a.to _ _,(fun _ e=>by first|exact Kp ((e.2.1.1 oM).symm.trans (u.symm.trans aM))|exact absurd (e.2.1.2 oM) aM|(have y:=e.1;have z:=e.2.2;omega)),(fun e=>absurd e kD)⟩,l.to _ kR⟩
      have zx:=a6 zd;refine lB 41 zd (lL a [.c,.v (qP j 2),.o (.agg #[.bool L,qS D F J,qS H I M]) 0 2 3] (aq 45 a (xR L D F J H I M q _ _ a.g a.f.r.1) (fun _ U a=>?_)));cases zq:(decide (q.num=0))
      .
       have zD:=oF zq;refine lL a [.v qT,.v qT,.v qT,.c] (lG 50 ?_);refine lG 51 (lG 52 (lG 53 (lG 54 (lG 55 (lG 56 (lG 57 (lL a [.v qT,.c] (lG 60 ?_))))))));refine lG 61 (lG 62 (lL a [.v qT,.c] (lG 65 ?_)));refine lG 66 (lG 67 (lL a [.v qT] (lD ?_)));intro B l;exact ⟨_,⟨true,U,rfl,a.to _ _,(fun _ e=>by first|exact Kp ((e.2.1.1 oM).symm.trans (u.symm.trans aM))|exact absurd (e.2.1.2 oM) aM|(have y:=e.1;have z:=e.2.2;omega)),(fun e=>absurd e kD)⟩,l.to _ kR⟩
      have zD:=oT zq;refine lL a [.v qF,.v qF,.v qF,.c,.v (pB j),.o (iV op) 0 0 1] ?_;cases zf:((op:Int) != (8:Int))
      .
       have zE:=ay zf;refine lB 52 zf (lL a ac (lG 54 ?_));refine lG 55 (lG 56 (lL a [.v qF,.v qF,.c,.v (qP j 1),.o (iV n) 0 1 1] ?_));cases zg:(decide ((n:Int)<(-12:Int)))
       .
        have zG:=oF zg;refine lB 62 zg (lL a [.v qF,.c,.v (qP j 1),.o (iV n) 0 1 1] ?_);cases zi:(decide ((12:Int)<(n:Int)))
        .
         have zH:=oF zi;refine lB 67 zi (lL a [.v qF] (lD ?_));intro B l;exact ⟨_,⟨false,U,rfl,a.to _ _,(fun e=>absurd e kD),(fun _=>⟨by omega,⟨fun e=>by first|exact u.symm.trans aM|exact absurd e oM,fun e=>by first|assumption|exact absurd e oM⟩,by omega,by omega⟩)⟩,l.to _ kR⟩
        have zH:=oT zi;refine lB 67 zi (lL a [.v qT] (lD ?_));intro B l;exact ⟨_,⟨true,U,rfl,a.to _ _,(fun _ e=>by first|exact Kp ((e.2.1.1 oM).symm.trans (u.symm.trans aM))|exact absurd (e.2.1.2 oM) aM|(have y:=e.1;have z:=e.2.2;omega)),(fun e=>absurd e kD)⟩,l.to _ kR⟩
       have zG:=oT zg;refine lB 62 zg (lL a [.v qT,.c] (lG 65 ?_));refine lG 66 (lG 67 (lL a [.v qT] (lD ?_)));intro B l;exact ⟨_,⟨true,U,rfl,a.to _ _,(fun _ e=>by first|exact Kp ((e.2.1.1 oM).symm.trans (u.symm.trans aM))|exact absurd (e.2.1.2 oM) aM|(have y:=e.1;have z:=e.2.2;omega)),(fun e=>absurd e kD)⟩,l.to _ kR⟩
      have zE:=a6 zf;refine lB 52 zf (lL a [.c,.v (qP j 1),.o (iV n) 0 1 1] ?_);cases zj:((n:Int) != (0:Int))
      .
       have zI:=ay zj;refine lB 56 zj (lL a [.v qF,.v qF,.c,.v (qP j 1),.o (iV n) 0 1 1] ?_);have ⟨zP,bm⟩:=dF (p:=(n:Int)<(-12:Int)) oM;refine lB 62 zP (lL a [.v qF,.c,.v (qP j 1),.o (iV n) 0 1 1] ?_);have ⟨zQ,b3⟩:=dF (p:=(12:Int)<(n:Int)) oM;refine lB 67 zQ (lL a [.v qF] (lD ?_));intro B l;exact ⟨_,⟨false,U,rfl,a.to _ _,(fun e=>absurd e kD),(fun _=>⟨by omega,⟨fun e=>by first|exact u.symm.trans aM|exact absurd e oM,fun e=>by first|assumption|exact absurd e oM⟩,by omega,by omega⟩)⟩,l.to _ kR⟩
      have zI:=a6 zj;refine lB 56 zj (lL a [.v qT,.v qT,.c] (lG 60 ?_));refine lG 61 (lG 62 (lL a [.v qT,.c] (lG 65 ?_)));refine lG 66 (lG 67 (lL a [.v qT] (lD ?_)));intro B l;exact ⟨_,⟨true,U,rfl,a.to _ _,(fun _ e=>by first|exact Kp ((e.2.1.1 oM).symm.trans (u.symm.trans aM))|exact absurd (e.2.1.2 oM) aM|(have y:=e.1;have z:=e.2.2;omega)),(fun e=>absurd e kD)⟩,l.to _ kR⟩
     have zw:=kF zb;refine lB 35 zb (lL a [.v qT,.v qT,.c] (lG 39 ?_));refine lG 40 (lG 41 (lG 42 (lG 43 (lG 44 (lG 45 (lG 46 (lG 47 (lL a [.v qT,.c] (lG 50 ?_)))))))));refine lG 51 (lG 52 (lG 53 (lG 54 (lG 55 (lG 56 (lG 57 (lL a [.v qT,.c] (lG 60 ?_))))))));refine lG 61 (lG 62 (lL a [.v qT,.c] (lG 65 ?_)));refine lG 66 (lG 67 (lL a [.v qT] (lD ?_)));intro B l;exact ⟨_,⟨true,h5,rfl,a.to _ _,(fun _ e=>by first|exact Kp ((e.2.1.1 oM).symm.trans (u.symm.trans aM))|exact absurd (e.2.1.2 oM) aM|(have y:=e.1;have z:=e.2.2;omega)),(fun e=>absurd e kD)⟩,l.to _ kR⟩
    have X:=eq_of_beq O;refine lB 20 O (lL a [.c,.v (qP j 5),.o (.string s) 0 5 1] (lC 24 a (hIs s hsm _ _ a.g) ?_));rintro _ _ zW a ⟨bi,rfl,u⟩;cases b9:(bi)
    .
     refine lL a [.v qT,.v qT,.v qT,.c] (lG 29 ?_);refine lG 30 (lG 31 (lG 32 (lG 33 (lG 34 (lG 35 (lG 36 (lL a [.v qT,.c] (lG 39 ?_))))))));refine lG 40 (lG 41 (lG 42 (lG 43 (lG 44 (lG 45 (lG 46 (lG 47 (lL a [.v qT,.c] (lG 50 ?_)))))))));refine lG 51 (lG 52 (lG 53 (lG 54 (lG 55 (lG 56 (lG 57 (lL a [.v qT,.c] (lG 60 ?_))))))));refine lG 61 (lG 62 (lL a [.v qT,.c] (lG 65 ?_)));refine lG 66 (lG 67 (lL a [.v qT] (lD ?_)));intro B l;exact ⟨_,⟨true,zW,rfl,a.to _ _,(fun _ e=>by first|exact Kp ((e.2.1.1 oM).symm.trans (u.symm.trans aM))|exact absurd (e.2.1.2 oM) aM|(have y:=e.1;have z:=e.2.2;omega)),(fun e=>absurd e kD)⟩,l.to _ kR⟩
    refine lL a [.v qF,.v qF,.v qF,.c,.v (pB j),.o (iV op) 0 0 1] ?_;have zr:((op:Int) != (2:Int))=false:=mi oM;have bl:=ay zr;refine lB 31 zr (lL a ac (lG 33 ?_));refine lG 34 (lG 35 (lL a [.v qF,.v qF,.c,.v (pB j),.o (iV op) 0 0 1] ?_));have zs:((op:Int) != (1:Int))=true:=Aj oM;have b0:=a6 zs;refine lB 41 zs (lL a [.c,.v (qP j 2),.o (.agg #[.bool L,qS D F J,qS H I M]) 0 2 3] (aq 45 a (xR L D F J H I M q _ _ a.g a.f.r.1) (fun _ zt a=>?_)));cases zu:(decide (q.num=0))
    .
     have zJ:=oF zu;refine lL a [.v qT,.v qT,.v qT,.c] (lG 50 ?_);refine lG 51 (lG 52 (lG 53 (lG 54 (lG 55 (lG 56 (lG 57 (lL a [.v qT,.c] (lG 60 ?_))))))));refine lG 61 (lG 62 (lL a [.v qT,.c] (lG 65 ?_)));refine lG 66 (lG 67 (lL a [.v qT] (lD ?_)));intro B l;exact ⟨_,⟨true,zt,rfl,a.to _ _,(fun _ e=>by first|exact Kp ((e.2.1.1 oM).symm.trans (u.symm.trans aM))|exact absurd (e.2.1.2 oM) aM|(have y:=e.1;have z:=e.2.2;omega)),(fun e=>absurd e kD)⟩,l.to _ kR⟩
    have zJ:=oT zu;refine lL a [.v qF,.v qF,.v qF,.c,.v (pB j),.o (iV op) 0 0 1] ?_;have zv:((op:Int) != (8:Int))=true:=Aj oM;have bw:=a6 zv;refine lB 52 zv (lL a [.c,.v (qP j 1),.o (iV n) 0 1 1] ?_);cases zk:((n:Int) != (0:Int))
    .
     have zK:=ay zk;refine lB 56 zk (lL a [.v qF,.v qF,.c,.v (qP j 1),.o (iV n) 0 1 1] ?_);have ⟨zR,bp⟩:=dF (p:=(n:Int)<(-12:Int)) oM;refine lB 62 zR (lL a [.v qF,.c,.v (qP j 1),.o (iV n) 0 1 1] ?_);have ⟨zS,b4⟩:=dF (p:=(12:Int)<(n:Int)) oM;refine lB 67 zS (lL a [.v qF] (lD ?_));intro B l;exact ⟨_,⟨false,zt,rfl,a.to _ _,(fun e=>absurd e kD),(fun _=>⟨by omega,⟨fun e=>by first|exact u.symm.trans aM|exact absurd e oM,fun e=>by first|assumption|exact absurd e oM⟩,by omega,by omega⟩)⟩,l.to _ kR⟩
    have zK:=a6 zk;refine lB 56 zk (lL a [.v qT,.v qT,.c] (lG 60 ?_));refine lG 61 (lG 62 (lL a [.v qT,.c] (lG 65 ?_)));refine lG 66 (lG 67 (lL a [.v qT] (lD ?_)));intro B l;exact ⟨_,⟨true,zt,rfl,a.to _ _,(fun _ e=>by first|exact Kp ((e.2.1.1 oM).symm.trans (u.symm.trans aM))|exact absurd (e.2.1.2 oM) aM|(have y:=e.1;have z:=e.2.2;omega)),(fun e=>absurd e kD)⟩,l.to _ kR⟩
   have bd:=a6 Q;refine lB 15 Q (lL a [.v qT,.c] (lG 18 ?_));refine lG 19 (lG 20 (lG 21 (lG 22 (lG 23 (lG 24 (lG 25 (lG 26 (lL a [.v qT,.c] (lG 29 ?_)))))))));refine lG 30 (lG 31 (lG 32 (lG 33 (lG 34 (lG 35 (lG 36 (lL a [.v qT,.c] (lG 39 ?_))))))));refine lG 40 (lG 41 (lG 42 (lG 43 (lG 44 (lG 45 (lG 46 (lG 47 (lL a [.v qT,.c] (lG 50 ?_)))))))));refine lG 51 (lG 52 (lG 53 (lG 54 (lG 55 (lG 56 (lG 57 (lL a [.v qT,.c] (lG 60 ?_))))))));refine lG 61 (lG 62 (lL a [.v qT,.c] (lG 65 ?_)));refine lG 66 (lG 67 (lL a [.v qT] (lD ?_)));intro B l;exact ⟨_,⟨true,h5,rfl,a.to _ _,(fun _ e=>by first|exact Kp ((e.2.1.1 oM).symm.trans (u.symm.trans aM))|exact absurd (e.2.1.2 oM) aM|(have y:=e.1;have z:=e.2.2;omega)),(fun e=>absurd e kD)⟩,l.to _ kR⟩
  have W:=oT S;refine lB 9 S (lL a ac (lG 11 ?_));refine lG 12 (lG 13 (lG 14 (lG 15 (lL a [.v qT,.c] (lG 18 ?_)))));refine lG 19 (lG 20 (lG 21 (lG 22 (lG 23 (lG 24 (lG 25 (lG 26 (lL a [.v qT,.c] (lG 29 ?_)))))))));refine lG 30 (lG 31 (lG 32 (lG 33 (lG 34 (lG 35 (lG 36 (lL a [.v qT,.c] (lG 39 ?_))))))));refine lG 40 (lG 41 (lG 42 (lG 43 (lG 44 (lG 45 (lG 46 (lG 47 (lL a [.v qT,.c] (lG 50 ?_)))))))));refine lG 51 (lG 52 (lG 53 (lG 54 (lG 55 (lG 56 (lG 57 (lL a [.v qT,.c] (lG 60 ?_))))))));refine lG 61 (lG 62 (lL a [.v qT,.c] (lG 65 ?_)));refine lG 66 (lG 67 (lL a [.v qT] (lD ?_)));intro B l;exact ⟨_,⟨true,h5,rfl,a.to _ _,(fun _ e=>by first|exact Kp ((e.2.1.1 oM).symm.trans (u.symm.trans aM))|exact absurd (e.2.1.2 oM) aM|(have y:=e.1;have z:=e.2.2;omega)),(fun e=>absurd e kD)⟩,l.to _ kR⟩
 rintro _ _ ⟨zo,zX,rfl,a,zU,C⟩;cases zl:(zo)
 .
  try rw[zl] at a
  try rw[zl]
  refine da (cK (cQ (aa a ac (bE ?_))));refine bG _ (CG.loop (fun μ_ Γ w_=>∃ (k:Nat)(e:Hp),μ_=x.length-k/\Γ=[(1,pB j),(4,nV k)]/\SS w h w_ e [⟨j,47,ax ⟨op,n,L,D,F,J,H,I,M,s,A,x.length,c⟩⟩] [] [fun e=>Rms d e x ks,fun e=>SlO 7 ax bZ e A x,fun e=>RZ e (L,qS D F J,qS H I M) q]/\k<=x.length/\(∀ i,i<k->WfT (fun s=>isb s=true) d (ks.getD i cc))) _ ⟨0,zX,rfl,rfl,a.to _ _,JH _,(fun i hi=>absurd hi (Kk i))⟩ ?_);rintro _ _ _ ⟨k,_,b6,rfl,a,hk,hWk⟩;refine cQ (aa a [.c,.v (qP j 6),.o (qS A x.length c) 0 6 1,.v (nV x.length)] ?_);cases zm:(decide ((k:Int)<(x.length:Int)))
  .
   have zL:=oF zm;refine lB 73 zm (ah (CG.exit ?_))
   show CG _ _ _ _ _ _ _ _
   exact aa a ac (af a [] qT (C9 ⟨by have y:=(C aM).1;omega,(C aM).2.2.1,(C aM).2.1,(C aM).2.2.2⟩ hq (fun i hi=>hWk i oM)))
  have zL:=oT zm;refine lB 73 zm (aj (cK (cQ (kZ (aa a [.v (qP j 6),.o (qS A x.length c) 0 6 1,.c] (lX 79 A x.length c 7 (k:Nat) k ((a.f.2.1).ok oM) ?_))))));refine lH 80 (aY (x.getD k bZ)) a ((a.f.2.1).el k oM) (lC 81 a (ih (x.getD k bZ) (ks.getD k cc) _ _ a.g ((a.f.1).at_ k oM) (hW k oM)) ?_);rintro _ _ ya a ⟨bk,rfl,Z⟩;cases b7:(bk)
  .
   exact lL a [.v qT] (aj (aa a ac (af a [] qF (C3 (k:=k) oM aM Z))))
  refine lL a [.v qF] (ah (cK (kQ (lL a ac (bg 75 ((k:Nat)+1) (k+1) ?_)))));refine lL a ac (lD ?_);intro B l;refine ⟨_,_,?_,⟨k+1,ya,rfl,rfl,a.to _ _,oM,(fun i hi=>by rcases Kl.1 hi with e|rfl;exact hWk i e;exact Z.1 aM)⟩,l.to _ kR⟩
  omega
 try rw[zl] at a
 try rw[zl]
 exact ci (aa a ac (af a [] qF (oy (fun e=>zU aM ⟨by have y:=e.1;omega,e.2.2.1,e.2.1,e.2.2.2⟩))))
theorem pj (isb:ByteArray->Bool)(sm:ByteArray->Prop)(a:∀ s,sm s->∀ (w:World) (h:Hp),G w h->Calls Tryz.prog 9 #[.string s] w (Ret w h (fun v _=>∃ b,v=.bool b/\b=isb s))):∀ (d:Nat) (r:RTm) (t:Tm) (w:World) (h:Hp),G w h->RmH d h r t->SmT sm d t ->  Calls Tryz.prog 39 #[aY r] w (Ret w h (fun v _=>∃ f,v=.bool f/\(f=true↔WfT (fun s=>isb s=true) d t)))
  | 0,_,_,_,_,_,x,_=>x.elim
  | d+1,r,t,w,h,g,x,wf=>by
    obtain ⟨op,n,b,C,I,u,o,D,H,q,s,A,c,J,ks,rfl,rfl,l,i,k,e⟩:=x.open;obtain ⟨B,p,y,z,F,j⟩:=wf;exact wo isb sm a d (fun r t w h=>pj isb sm a d r t w h) op n b C I u o D H q s A c J ks i B p y z F j w h g l k e
theorem Dq {a n:Int}(h:0<=a/\a<=1073741824)(b : -1000<=n/\n<=1000) : -1073741824000<=a*n/\a*n<=1073741824000:=by
 have h1:(a*n).natAbs<=1073741824*1000:=by rw[Int.natAbs_mul];exact Nat.mul_le_mul oM oM
 omega
theorem o3 {op n:Int}{s:Nat}:min (ew op n ((min s 1073741824:Nat):Int)) 1073741824=((min (oR op n*s) 1073741824:Nat):Int):=by
  unfold ew oR cX
  by_cases e11:op=11
  . rw[if_pos e11,if_pos e11];omega
  . rw[if_neg e11,if_neg e11]
    by_cases e8:op=8/\n≠0
    . rw[if_pos e8,if_pos e8.1]
      have e:(if n<0 then 0-n else n)=((if n.natAbs<=1 then 1 else n.natAbs:Nat):Int):=by have:=e8.2;split<;>split<;>omega
      rw[e]
      generalize hm:(if n.natAbs<=1 then 1 else n.natAbs)=m
      have a:1<=m:=by rw[<-hm];split<;>omega
      rw[<-Int.natCast_mul,Nat.mul_comm]
      rcases Nat.le_total s 1073741824 with h|h
      . rw[Nat.min_eq_left h];omega
      . rw[Nat.min_eq_right h]
        have b:=J9 1073741824 a;have c:=ed h (J9 s a)
        omega
    . rw[if_neg e8]
      by_cases e9:op=8
      . rw[if_pos e9]
        have:n=0:=by by_cases z:n=0;exact z;exact absurd ⟨e9,z⟩ e8
        rw[this,if_pos kD];omega
      . rw[if_neg e9];omega
theorem Bu (op n a:Int)(B:0<=a/\a<=1073741824)(M:op=8 -> -1000<=n/\n<=1000)(w:World)(h:Hp)(g:G w h):CV 57 #[iV op,iV n,iV a] w h (iV (min (ew op n a) 1073741824)):=by
 have b:=sS g;have d:min (a:Int) (1073741824:Int)=a:=by omega
 have H:=fun h8:op=8=>Dq B (M h8)
 have J:=fun h8:op=8=>Dq (n:=0-n) B (by have:=M h8;omega)
 rw[<-d] at H J
 have Q:n<=0->(min (a:Int) (1073741824:Int))*n<=0/\0<=(min (a:Int) (1073741824:Int))*(0-n):=fun K=>⟨Int.mul_nonpos_of_nonneg_of_nonpos oM K,KM oM oM⟩
 have O:0<=n->0<=(min (a:Int) (1073741824:Int))*n:=fun K=>KM oM K
 refine go Tryz.func57 [(0,iV op),(1,iV n),(2,iV a)] rfl (aa b ac (ai (kZ (aa b ac ?_))));cases l:((op:Int) == (11:Int))
 .
  have u:=ao l;refine lB 9 l (lL b ac (ah (aa b ac ?_)));cases e:((op:Int) == (8:Int))
  .
   have x:=ao e;refine lB 14 e (lL b ac (lG 16 ?_));refine lG 17 (lL b [.v qF,.c] (ah (cK (aa b ac (lV 34 (iV (min (a:Int) (1073741824:Int))) ?_ (hr:=aN (n:=(if (1073741824:Int)<(a:Int) then (1073741824:Int) else (a:Int))) kR (by simp only[eJ])))))));exact lL b ac (af b [] (iV (min (a:Int) (1073741824:Int))) (congrArg (Value.int .i64) (by unfold ew;first|(rw[if_pos oM]<;>omega)|(rw[if_neg oM,if_pos oM,if_pos oM]<;>rw[d] at * <;> omega)|(rw[if_neg oM,if_pos oM,if_neg oM]<;>rw[d] at * <;> omega)|(rw[if_neg oM,if_neg oM]<;>omega))))
  have x:=eq_of_beq e;refine lB 14 e (lL b aF ?_);cases k:((n:Int) != (0:Int))
  .
   have y:=ay k;refine lB 17 k (lL b [.v qF,.c] (ah (cK (aa b ac (lV 34 (iV (min (a:Int) (1073741824:Int))) ?_ (hr:=aN (n:=(if (1073741824:Int)<(a:Int) then (1073741824:Int) else (a:Int))) kR (by simp only[eJ])))))));exact lL b ac (af b [] (iV (min (a:Int) (1073741824:Int))) (congrArg (Value.int .i64) (by unfold ew;first|(rw[if_pos oM]<;>omega)|(rw[if_neg oM,if_pos oM,if_pos oM]<;>rw[d] at * <;> omega)|(rw[if_neg oM,if_pos oM,if_neg oM]<;>rw[d] at * <;> omega)|(rw[if_neg oM,if_neg oM]<;>omega))))
  have y:=a6 k;refine lB 17 k (lL b [.v qT,.c] (aj (cQ (aa b ac ?_))));cases i:(decide ((n:Int)<(0:Int)))
  .
   have D:=oF i;refine lB 20 i (ah (cK (cQ (aa b ac ?_))));have ⟨I,L⟩:=dF (p:=(n:Int)<(0:Int)) oM;refine lB 24 I (lL b aF ?_);cases j:(decide ((1073741824:Int)<(n:Int)))
   .
    have F:=oF j;refine lB 27 j (lL b [.v qF] (ah (cK (kQ (lL b ac (lV 30 (iV (min (a:Int) (1073741824:Int))) ?_ (hr:=aN (n:=(if (1073741824:Int)<(a:Int) then (1073741824:Int) else (a:Int))) kR (by simp only[eJ]))))))));refine lL b ac (lI 32 ((min (a:Int) (1073741824:Int))*n) ?_);refine lL b ac (aE (lL b ac (lV 34 (iV (min ((min (a:Int) (1073741824:Int))*n:Int) (1073741824:Int))) ?_ (hr:=aN (n:=(if (1073741824:Int)<((min (a:Int) (1073741824:Int))*n:Int) then (1073741824:Int) else ((min (a:Int) (1073741824:Int))*n:Int))) kR (by simp only[eJ])))));exact lL b ac (af b [] (iV (min ((min (a:Int) (1073741824:Int))*n:Int) (1073741824:Int))) (congrArg (Value.int .i64) (by unfold ew;first|(rw[if_pos oM]<;>omega)|(rw[if_neg oM,if_pos oM,if_pos oM]<;>rw[d] at * <;> omega)|(rw[if_neg oM,if_pos oM,if_neg oM]<;>rw[d] at * <;> omega)|(rw[if_neg oM,if_neg oM]<;>omega))))
   have F:=oT j;refine lB 27 j (lL b [.v qT] (aj (kQ (lL b ac (lN (kQ (lL b ac (lV 30 (iV (min (a:Int) (1073741824:Int))) ?_ (hr:=aN (n:=(if (1073741824:Int)<(a:Int) then (1073741824:Int) else (a:Int))) kR (by simp only[eJ]))))))))));refine lL b ac (lI 32 ((min (a:Int) (1073741824:Int))*1073741824) ?_);refine lL b ac (aE (lL b ac (lV 34 (iV (min ((min (a:Int) (1073741824:Int))*1073741824:Int) (1073741824:Int))) ?_ (hr:=aN (n:=(if (1073741824:Int)<((min (a:Int) (1073741824:Int))*1073741824:Int) then (1073741824:Int) else ((min (a:Int) (1073741824:Int))*1073741824:Int))) kR (by simp only[eJ])))));exact lL b ac (af b [] (iV (min ((min (a:Int) (1073741824:Int))*1073741824:Int) (1073741824:Int))) (congrArg (Value.int .i64) (by unfold ew;first|(rw[if_pos oM]<;>omega)|(rw[if_neg oM,if_pos oM,if_pos oM]<;>rw[d] at * <;> omega)|(rw[if_neg oM,if_pos oM,if_neg oM]<;>rw[d] at * <;> omega)|(rw[if_neg oM,if_neg oM]<;>omega))))
  have D:=oT i;refine lB 20 i (aj (kQ (lL b ac (lI 22 (0-n) ?_))));refine lL b ac (ai (aa b ac ?_));cases f:(decide ((0-n:Int)<(0:Int)))
  .
   have C:=oF f;refine lB 24 f (lL b aF ?_);cases o:(decide ((1073741824:Int)<(0-n:Int)))
   .
    have z:=oF o;refine lB 27 o (lL b [.v qF] (ah (cK (kQ (lL b ac (lV 30 (iV (min (a:Int) (1073741824:Int))) ?_ (hr:=aN (n:=(if (1073741824:Int)<(a:Int) then (1073741824:Int) else (a:Int))) kR (by simp only[eJ]))))))));refine lL b ac (lI 32 ((min (a:Int) (1073741824:Int))*(0-n)) ?_);refine lL b ac (aE (lL b ac (lV 34 (iV (min ((min (a:Int) (1073741824:Int))*(0-n):Int) (1073741824:Int))) ?_ (hr:=aN (n:=(if (1073741824:Int)<((min (a:Int) (1073741824:Int))*(0-n):Int) then (1073741824:Int) else ((min (a:Int) (1073741824:Int))*(0-n):Int))) kR (by simp only[eJ])))));exact lL b ac (af b [] (iV (min ((min (a:Int) (1073741824:Int))*(0-n):Int) (1073741824:Int))) (congrArg (Value.int .i64) (by unfold ew;first|(rw[if_pos oM]<;>omega)|(rw[if_neg oM,if_pos oM,if_pos oM]<;>rw[d] at * <;> omega)|(rw[if_neg oM,if_pos oM,if_neg oM]<;>rw[d] at * <;> omega)|(rw[if_neg oM,if_neg oM]<;>omega))))
   have z:=oT o;refine lB 27 o (lL b [.v qT] (aj (kQ (lL b ac (lN (kQ (lL b ac (lV 30 (iV (min (a:Int) (1073741824:Int))) ?_ (hr:=aN (n:=(if (1073741824:Int)<(a:Int) then (1073741824:Int) else (a:Int))) kR (by simp only[eJ]))))))))));refine lL b ac (lI 32 ((min (a:Int) (1073741824:Int))*1073741824) ?_);refine lL b ac (aE (lL b ac (lV 34 (iV (min ((min (a:Int) (1073741824:Int))*1073741824:Int) (1073741824:Int))) ?_ (hr:=aN (n:=(if (1073741824:Int)<((min (a:Int) (1073741824:Int))*1073741824:Int) then (1073741824:Int) else ((min (a:Int) (1073741824:Int))*1073741824:Int))) kR (by simp only[eJ])))));exact lL b ac (af b [] (iV (min ((min (a:Int) (1073741824:Int))*1073741824:Int) (1073741824:Int))) (congrArg (Value.int .i64) (by unfold ew;first|(rw[if_pos oM]<;>omega)|(rw[if_neg oM,if_pos oM,if_pos oM]<;>rw[d] at * <;> omega)|(rw[if_neg oM,if_pos oM,if_neg oM]<;>rw[d] at * <;> omega)|(rw[if_neg oM,if_neg oM]<;>omega))))
  have C:=oT f;refine lB 24 f (lL b ac (lG 26 ?_));refine lG 27 (lL b [.v qT] (aj (kQ (lL b ac (lN (kQ (lL b ac (lV 30 (iV (min (a:Int) (1073741824:Int))) ?_ (hr:=aN (n:=(if (1073741824:Int)<(a:Int) then (1073741824:Int) else (a:Int))) kR (by simp only[eJ]))))))))));refine lL b ac (lI 32 ((min (a:Int) (1073741824:Int))*1073741824) ?_);refine lL b ac (aE (lL b ac (lV 34 (iV (min ((min (a:Int) (1073741824:Int))*1073741824:Int) (1073741824:Int))) ?_ (hr:=aN (n:=(if (1073741824:Int)<((min (a:Int) (1073741824:Int))*1073741824:Int) then (1073741824:Int) else ((min (a:Int) (1073741824:Int))*1073741824:Int))) kR (by simp only[eJ])))));exact lL b ac (af b [] (iV (min ((min (a:Int) (1073741824:Int))*1073741824:Int) (1073741824:Int))) (congrArg (Value.int .i64) (by unfold ew;first|(rw[if_pos oM]<;>omega)|(rw[if_neg oM,if_pos oM,if_pos oM]<;>rw[d] at * <;> omega)|(rw[if_neg oM,if_pos oM,if_neg oM]<;>rw[d] at * <;> omega)|(rw[if_neg oM,if_neg oM]<;>omega))))
 have u:=eq_of_beq l;refine lB 9 l (lL b ac (aj (kQ (lL b ac (lI 11 (2*a) ?_)))));refine lL b ac (aE (lL b ac (lV 34 (iV (min (2*a:Int) (1073741824:Int))) ?_ (hr:=aN (n:=(if (1073741824:Int)<(2*a:Int) then (1073741824:Int) else (2*a:Int))) kR (by simp only[eJ])))));exact lL b ac (af b [] (iV (min (2*a:Int) (1073741824:Int))) (congrArg (Value.int .i64) (by unfold ew;first|(rw[if_pos oM]<;>omega)|(rw[if_neg oM,if_pos oM,if_pos oM]<;>rw[d] at * <;> omega)|(rw[if_neg oM,if_pos oM,if_neg oM]<;>rw[d] at * <;> omega)|(rw[if_neg oM,if_neg oM]<;>omega))))
theorem wD  (sm:ByteArray->Prop)(d:Nat)(S:∀ (r:RTm) (t:Tm) (w:World) (h:Hp),G w h->RmH d h r t->SmT sm d t ->  Calls Tryz.prog 40 #[aY r] w (Ret w h (fun v _=>v=iV ((min (ek d t) 1073741824:Nat):Int))))(op n:Int)(B:Bool)(C:Z9)(H z:Nat)(y:Z9)(D F:Nat)(q:Rat)(s:ByteArray)(A:Z9)(c:Nat)(b:List RTm)(ks:List Tm)(hc:b.length<=c)(hk3:ks.length<=3)(hop : -1000<=op/\op<=1000)(hn : -1000<=n/\n<=1000)(hq:LQ 3000 q)(V:sm s)(hW:∀ i,i<ks.length->SmT sm d (ks.getD i cc))(w:World)(h:Hp)(g:G w h)(X:RZ h (B,.slice C H z,.slice y D F) q)(W:SlO 7 ax bZ h A b)(O:Rms d h b ks):CV 40 #[aY ⟨op,n,B,C,H,z,y,D,F,s,A,b.length,c⟩] w h (iV ((min (ek (d+1) (.mk op n q s ks)) 1073741824:Nat):Int)):=by
 have a:=((((sS g).add (K:=fun e=>RZ e (B,qS C H z,qS y D F) q) X).aS W).add (K:=fun e=>Rms d e b ks) O);have hln:=(a.f.1).len;refine go Tryz.func40 [(0,aY ⟨op,n,B,C,H,z,y,D,F,s,A,b.length,c⟩)] rfl (aG (lA 1 47 (ax ⟨op,n,B,C,H,z,y,D,F,s,A,b.length,c⟩) a (fun x w2 h3 a=>lL a ac (ai (aa a [.v (qP x 6),.o (qS A b.length c) 0 6 1,.v (nV b.length)] ?_)))));cases j:((b.length:Int) == (0:Int))
 .
  have J:=ao j;refine lB 8 j (ah (cK (aa a ac (ai (aa a ac (bE ?_))))));refine bG _ (CG.loop (fun M Γ w_=>∃ (k:Nat)(p:Nat)(e:Hp),M=b.length-k/\Γ=[(1,pB x),(2,iV 0),(4,nV k),(3,nV p)]/\SS w h w_ e [⟨x,47,ax ⟨op,n,B,C,H,z,y,D,F,s,A,b.length,c⟩⟩] [] [fun e=>Rms d e b ks,fun e=>SlO 7 ax bZ e A b,fun e=>RZ e (B,qS C H z,qS y D F) q]/\k<=b.length/\p=min (f0 (fun i=>ek d (ks.getD i cc)) k) 1073741824) _ ⟨0,0,h3,rfl,rfl,a.to _ _,JH _,rfl⟩ ?_);rintro _ _ w5 ⟨k,p,h6,hm7,rfl,a,hk,u⟩;have Y:(f0 (fun i=>ek d (ks.getD i cc)) (k+1))=(f0 (fun i=>ek d (ks.getD i cc)) k)+ek d (ks.getD k cc):=rfl;refine cQ (aa a [.c,.v (qP x 6),.o (qS A b.length c) 0 6 1,.v (nV b.length)] ?_);cases l:(decide ((k:Int)<(b.length:Int)))
  .
   have I:=oF l;refine lB 13 l (ah (CG.exit ?_))
   show CG _ _ _ _ _ _ _ _
   refine aa a [.v (pB x),.o (iV op) 0 0 1,.v (qP x 1),.o (iV n) 0 1 1,.c] (aq 30 a (Bu op n (p:Nat) oM (fun _=>hn) _ _ a.g) (fun w9 _ a=>lL a ac (lN (kX ?_))));have Q:k=ks.length:=by omega
   have L:=oV (d:=d) (op:=op) (n:=n) (q:=q) (s:=s) (ks:=ks) oM;rw[Q] at u
   exact a.ret [] (iV (min (ew op n (p:Nat)) 1073741824)) (congrArg (Value.int .i64) (by rw[L,u];exact o3))
  have I:=oT l;refine lB 13 l (aj (cK (cQ (kZ (kQ (lL a [.c,.v (qP x 6),.o (qS A b.length c) 0 6 1,.c] (lX 20 A b.length c 7 (k:Nat) k ((a.f.2.1).ok oM) ?_)))))));refine lH 21 (aY (b.getD k bZ)) a ((a.f.2.1).el k oM) (aq 22 a (S (b.getD k bZ) (ks.getD k cc) _ _ a.g ((a.f.1).at_ k oM) (hW k oM)) (fun _ Z a=>lI 23 ((p:Nat)+((min (ek d (ks.getD k cc)) 1073741824:Nat):Int)) (lV 24 (iV ((min (f0 (fun i=>ek d (ks.getD i cc)) (k+1)) 1073741824:Nat):Int)) ?_ (hr:=aN (n:=if (1073741824:Int)<((p:Nat)+((min (ek d (ks.getD k cc)) 1073741824:Nat):Int)) then (1073741824:Int) else ((p:Nat)+((min (ek d (ks.getD k cc)) 1073741824:Nat):Int))) kR (by split<;>omega)))));refine lL a ac (lN (kQ (lL a ac (bg 15 ((k:Nat)+1) (k+1) ?_))));refine lL a ac (lD ?_);intro a_ U;refine ⟨_,_,?_,⟨k+1,(min (f0 (fun i=>ek d (ks.getD i cc)) (k+1)) 1073741824),Z,rfl,rfl,a.to _ _,oM,rfl⟩,U.to _ kR⟩
  omega
 have J:=eq_of_beq j;exact lB 8 j (aj (aa a ac (af a [] (iV 1) (congrArg (Value.int .i64) (by rw[CO oM];rfl)))))
theorem rQ (sm:ByteArray->Prop):∀ (d:Nat) (r:RTm) (t:Tm) (w:World) (h:Hp),G w h->RmH d h r t->SmT sm d t ->  Calls Tryz.prog 40 #[aY r] w (Ret w h (fun v _=>v=iV ((min (ek d t) 1073741824:Nat):Int)))
  | 0,_,_,_,_,_,x,_=>x.elim
  | d+1,r,t,w,h,g,x,wf=>by
    obtain ⟨op,n,b,z,F,o,k,B,D,q,s,A,c,H,ks,rfl,rfl,j,e,i,a⟩:=x.open;obtain ⟨y,l,p,u,C,f⟩:=wf;exact wD sm d (fun r t w h=>rQ sm d r t w h) op n b z F o k B D q s A c H ks e y l p u C f w h g j i a
theorem kC {f:Nat->Nat}:∀ {n i:Nat},i<n->f i<=gd f n
  | n+1,i,h=>by
    rcases Kl.1 h with h1|rfl
    . exact ed (kC h1) (Nat.le_max_left _ _)
    . exact Nat.le_max_right _ _
theorem oB {d:Nat}{t:Tm}{i:Nat}(h:i<t.ks.length):eK d (t.ks.getD i cc)+1<=eK (d+1) t:=KL (kC (f:=fun i=>eK d (t.ks.getD i cc)) h)
theorem oc (d:Nat)(t:Tm):1<=eK (d+1) t:=KL (JH _)
theorem TmH.cutD {h:Hp}{d e:Nat}{p:PTm}{t:Tm}(x:TmH d h p t)(u:eK d t<=e):TmH e h p t:=by
  induction d generalizing e p t with
  | zero=>exact x.elim
  | succ d ih =>
    cases e with
    | zero=>have:=oc d t;omega
    | succ e =>
      obtain ⟨h1,b,l,f,j,c,ps,a,k,o⟩:=x;exact ⟨h1,b,l,f,j,c,ps,a,k,fun i hi=>ih (o i hi) (by have:=oB (d:=d) hi;omega)⟩
theorem RmH.cutD {h:Hp}{d e:Nat}{p:RTm}{t:Tm}(x:RmH d h p t)(u:eK d t<=e):RmH e h p t:=by
  induction d generalizing e p t with
  | zero=>exact x.elim
  | succ d ih =>
    cases e with
    | zero=>have:=oc d t;omega
    | succ e =>
      obtain ⟨h1,b,l,f,j,c,ps,a,k,o⟩:=x;exact ⟨h1,b,l,f,j,c,ps,a,k,fun i hi=>ih (o i hi) (by have:=oB (d:=d) hi;omega)⟩
theorem SmT.cutD {sm:ByteArray->Prop}{d e:Nat}{t:Tm}(x:SmT sm d t)(u:eK d t<=e):SmT sm e t:=by
  induction d generalizing e t with
  | zero=>exact x.elim
  | succ d ih =>
    cases e with
    | zero=>have:=oc d t;omega
    | succ e =>
      obtain ⟨h1,c,b,a,h,f⟩:=x;exact ⟨h1,c,b,a,h,fun i hi=>ih (f i hi) (by have:=oB (d:=d) hi;omega)⟩
theorem TmH.cutS {sm:ByteArray->Prop}{h:Hp}{e d:Nat}{p:PTm}{t:Tm}(x:TmH e h p t)(y:SmT sm d t):TmH d h p t:=by
  induction e generalizing d p t with
  | zero=>exact x.elim
  | succ e ih =>
    cases d with
    | zero=>exact y.elim
    | succ d =>
      obtain ⟨h1,b,o,f,j,c,ps,a,l,u⟩:=x;obtain ⟨_,_,_,_,_,k⟩:=y;exact ⟨h1,b,o,f,j,c,ps,a,l,fun i hi=>ih (u i hi) (k i hi)⟩
theorem RmH.cutS {sm:ByteArray->Prop}{h:Hp}{e d:Nat}{p:RTm}{t:Tm}(x:RmH e h p t)(y:SmT sm d t):RmH d h p t:=by
  induction e generalizing d p t with
  | zero=>exact x.elim
  | succ e ih =>
    cases d with
    | zero=>exact y.elim
    | succ d =>
      obtain ⟨h1,b,o,f,j,c,ps,a,l,u⟩:=x;obtain ⟨_,_,_,_,_,k⟩:=y;exact ⟨h1,b,o,f,j,c,ps,a,l,fun i hi=>ih (u i hi) (k i hi)⟩
def CkA (isb:ByteArray->Bool)(d:Nat)(t:Tm)(e:Int):Prop:=(24<eK d t/\e=19)\/(eK d t<=24/\((WfT (fun s=>isb s=true) 24 t/\e=(if 1000<ek 24 t then 18 else 0))\/(¬WfT (fun s=>isb s=true) 24 t/\e=2)))
theorem CkA.uniq {isb:ByteArray->Bool}{d:Nat}{t:Tm}{e f:Int}(x:CkA isb d t e)(y:CkA isb d t f):e=f:=by
 rcases x with ⟨a,b⟩|⟨a,⟨c,b⟩|⟨c,b⟩⟩<;>rcases y with ⟨a',b'⟩|⟨a',⟨c',b'⟩|⟨c',b'⟩⟩<;>first|omega|exact absurd c c'|exact absurd c' c|(rw[b,b'])
theorem CkA.ok {isb:ByteArray->Bool}{d:Nat}{t:Tm}(x:CkA isb d t 0):eK d t<=24/\WfT (fun s=>isb s=true) 24 t/\ek 24 t<=1000:=by
 rcases x with ⟨a,b⟩|⟨a,⟨c,b⟩|⟨c,b⟩⟩
 ·omega
 ·refine ⟨a,c,?_⟩
  split at b<;>omega
 ·omega
theorem uo  (sm:ByteArray->Prop)(d:Nat)(M:∀ (p:PTm) (t:Tm) (a:Int) (w:World) (h:Hp),G w h->TmH d h p t->SmT sm d t->0<=a->a<=1000->Calls Tryz.prog 32 #[a8 p,iV a] w (Ret w h (fun v _=>v=.bool (decide (a<(eK d t:Nat))))))(op n:Int)(q:Rat)(s:ByteArray)(A:Z9)(c:Nat)(ps:List PTm)(ks:List Tm)(hc:ps.length<=c)(X:ps.length<=3)(hk3:ks.length<=3)(W : -1000<=op/\op<=1000)(hn : -1000<=n/\n<=1000)(hq:LQ 3000 q)(hsm:sm s)(hW:∀ i,i<ks.length->SmT sm d (ks.getD i cc))(a:Int)(hm:0<=a)(hm2:a<=1000)(w:World)(h:Hp)(g:G w h)(Q:SlO 9 bv a7 h A ps)(H:Tms d h ps ks):CV 32 #[a8 ⟨op,n,q,s,A,ps.length,c⟩,iV a] w h (.bool (decide (a<(eK (d+1) (.mk op n q s ks):Nat)))):=by
 have e:=(((sS g).aS Q).add (K:=fun j=>Tms d j ps ks) H);have V:=(e.f.1).len;refine go Tryz.func32 [(0,a8 ⟨op,n,q,s,A,ps.length,c⟩),(1,iV a)] rfl (aG (lA 2 33 (bv ⟨op,n,q,s,A,ps.length,c⟩) e (fun I w2 Z e=>lL e ac (ai (aa e ac ?_)))));cases l:(decide ((a:Int)<(1:Int)))
 .
  have D:=oF l;refine lB 8 l (ah (cK (cQ (aa e [.v (qP I 8),.o (qS A ps.length c) 0 8 1,.v (nV ps.length),.c] (bE ?_)))));refine bG _ (CG.loop (fun F Γ L=>∃ (k:Nat)(j:Hp),F=ps.length-k/\Γ=[(1,iV a),(10,qS A ps.length c),(11,nV ps.length),(12,nV k)]/\SS w h L j [⟨I,33,bv ⟨op,n,q,s,A,ps.length,c⟩⟩] [] [fun j=>Tms d j ps ks,fun j=>SlO 9 bv a7 j A ps]/\k<=ps.length/\(∀ i,i<k->(eK d (ks.getD i cc):Int)<=a-1)) _ ⟨0,Z,rfl,rfl,e.to _ _,JH _,(fun i hi=>absurd hi (Kk i))⟩ ?_);rintro _ _ w5 ⟨k,h6,Y,rfl,e,hk,C⟩;refine aG ?_;cases x:(decide ((k:Int)<(ps.length:Int)))
  .
   have z:=oF x;refine lB 13 x (ai (da (CG.exit ?_)))
   show CG _ _ _ _ _ _ _ _
   refine aa e ac (lN (kX ?_));have y:eK (d+1) (.mk op n q s ks)=gd (fun i=>eK d (ks.getD i cc)) ks.length+1:=rfl;exact e.ret [] qF (congrArg Value.bool (decide_eq_false (by have u:=kw (f:=(fun i=>eK d (ks.getD i cc))) (b:=(a-1).toNat) ks.length (fun i hi=>by have j:=C i oM;show eK d _<=_;omega);omega)).symm)
  have z:=oT x;refine lB 13 x (ai (ci (cK (cQ (kZ (aG (lX 14 A ps.length c 9 (k:Nat) k ((e.f.2.1).ok oM) ?_)))))));refine lH 15 (a8 (ps.getD k a7)) e ((e.f.2.1).el k oM) (lA 6 33 a2 e (fun b9 _ _ e=>lP 0 0 (bv (ps.getD k a7)) e (fun _ e=>aE (lL e [.o (a8 (ps.getD k a7)) 0 0 9,.c] (lI 18 (a-1) ?_)))));refine aq 19 e (M (ps.getD k a7) (ks.getD k cc) (a-1) _ _ e.g ((e.f.1).at_ k oM) (hW k oM) oM oM) (fun _ U e=>?_);cases J:(decide (a-1<(eK d (ks.getD k cc):Nat)))
  .
   have S:=oF J;refine ah (cK (kQ (bg 20 ((k:Nat)+1) (k+1) ?_)));refine lL e ac (lD ?_);intro a_ O;replace e:=e.drop 1 0;refine ⟨_,_,?_,⟨k+1,U,rfl,rfl,e.to _ _,oM,(fun i hi=>by rcases Kl.1 hi with j|rfl;exact C i j;omega)⟩,O.to _ kR⟩
   omega
  have S:=oT J;refine aj (aa e ac (lN (kX ?_)));have y:eK (d+1) (.mk op n q s ks)=gd (fun i=>eK d (ks.getD i cc)) ks.length+1:=rfl;exact e.ret [] qT (congrArg Value.bool (decide_eq_true (by first|omega|(have u:=kC (f:=(fun i=>eK d (ks.getD i cc))) (show k<ks.length by omega);have B:eK d (ks.getD k cc)<=gd (fun i=>eK d (ks.getD i cc)) ks.length:=u;omega))).symm)
 have D:=oT l;refine lB 8 l (aj (aa e ac (lN (kX ?_))));have y:eK (d+1) (.mk op n q s ks)=gd (fun i=>eK d (ks.getD i cc)) ks.length+1:=rfl;exact e.ret [] qT (congrArg Value.bool (decide_eq_true (by first|omega|(have u:=kC (f:=(fun i=>eK d (ks.getD i cc))) (show k<ks.length by omega);have B:eK d (ks.getD k cc)<=gd (fun i=>eK d (ks.getD i cc)) ks.length:=u;omega))).symm)
theorem pm (sm:ByteArray->Prop):∀ (d:Nat) (p:PTm) (t:Tm) (a:Int) (w:World) (h:Hp),G w h->TmH d h p t->SmT sm d t->0<=a->a<=1000->Calls Tryz.prog 32 #[a8 p,iV a] w (Ret w h (fun v _=>v=.bool (decide (a<(eK d t:Nat)))))
  | 0,_,_,_,_,_,_,x,_,_,_=>x.elim
  | d+1,p,t,a,w,h,g,x,wf,hm,hm2=>by
    obtain ⟨op,n,q,s,A,c,ps,ks,rfl,rfl,f,k,b⟩:=x.open;obtain ⟨e,l,o,u,y,i⟩:=wf;have j:ks.length<=3:=e;exact uo sm d (fun p t a w h=>pm sm d p t a w h) op n q s A c ps ks f (by have:=b.len;omega) e l o u y i a hm hm2 w h g k b
theorem GJ  (isb:ByteArray->Bool)(sm:ByteArray->Prop)(k:∀ s,sm s->∀ (w:World) (h:Hp),G w h->Calls Tryz.prog 8 #[.string s] w (Ret w h (fun v _=>∃ b,v=.bool b/\b=isb s)))(d:Nat)(p:PTm)(t:Tm)(w:World)(h:Hp)(g:G w h)(x:TmH d h p t)(u:SmT sm d t):CR 15 #[a8 p] w h (fun v _=>∃ e:Int,v=iV e/\CkA isb d t e):=by
 have a:=((sS g).add (K:=fun l=>TmH d l p t) x);refine go Tryz.func15 [(0,a8 p)] rfl (aG (lA 1 33 (bv p) a (fun B w2 F a=>lL a ac (ai (aa a [.o (a8 p) 0 0 9] (aq 4 a (pm sm d p t 24 _ _ a.g a.f.1 u kD kD) (fun H C a=>?_)))))));cases c:(decide ((24:Int)<(eK d t:Nat)))
 .
  have i:=oF c;refine ah (cK (cQ (aa a [.o (a8 p) 0 0 9] (lC 6 a (mb isb sm k 24 p t _ _ a.g ((a.f.1).cutD oM) (u.cutD oM)) ?_))));rintro _ I D a ⟨bf,rfl,hbf⟩;cases z:(bf)
  .
   exact lL a [.v qT] (aj (aa a ac (af a [] (iV 2) (⟨_,rfl,.inr ⟨by omega,.inr ⟨fun l=>Kp ((hbf.2 l).symm.trans aM),rfl⟩⟩⟩))))
  refine lL a [.v qF] (ah (cK (cQ (aa a [.o (a8 p) 0 0 9] (aq 9 a (lk (fun s=>isb s=true) 24 p t _ _ a.g ((a.f.1).cutD oM) (hbf.1 aM)) (fun _ _ a=>?_))))));cases j:(decide ((1000:Int)<(((min (ek 24 t) 1001:Nat):Int):Int)))
  .
   have y:=oF j;exact lB 10 j (ah (cK (aa a ac (af a [] (iV 0) (⟨_,rfl,.inr ⟨by omega,.inl ⟨hbf.1 aM,by split<;>omega⟩⟩⟩)))))
  have y:=oT j;exact lB 10 j (aj (aa a ac (af a [] (iV 18) (⟨_,rfl,.inr ⟨by omega,.inl ⟨hbf.1 aM,by split<;>omega⟩⟩⟩))))
 have i:=oT c;exact aj (aa a ac (af a [] (iV 19) (⟨_,rfl,.inl ⟨by omega,rfl⟩⟩)))
theorem AH  (sm:ByteArray->Prop)(d:Nat)(Q:∀ (r:RTm) (t:Tm) (w:World) (h:Hp),G w h->RmH d h r t->SmT sm d t->d<=1000000->Calls Tryz.prog 38 #[aY r] w (Ret w h (fun v _=>v=nV (eK d t))))(op n:Int)(u:Bool)(x:Z9)(B p:Nat)(l:Z9)(y z:Nat)(q:Rat)(s:ByteArray)(A:Z9)(c:Nat)(b:List RTm)(ks:List Tm)(hc:b.length<=c)(hk3:ks.length<=3)(Y : -1000<=op/\op<=1000)(hn : -1000<=n/\n<=1000)(hq:LQ 3000 q)(hsm:sm s)(Z:∀ i,i<ks.length->SmT sm d (ks.getD i cc))(hd:d+1<=1000000)(w:World)(h:Hp)(g:G w h)(W:RZ h (u,.slice x B p,.slice l y z) q)(V:SlO 7 ax bZ h A b)(L:Rms d h b ks):CV 38 #[aY ⟨op,n,u,x,B,p,l,y,z,s,A,b.length,c⟩] w h (nV (eK (d+1) (.mk op n q s ks))):=by
 have a:=((((sS g).add (K:=fun e=>RZ e (u,qS x B p,qS l y z) q) W).aS V).add (K:=fun e=>Rms d e b ks) L);have X:=(a.f.1).len;have H:∀ k,k<=ks.length->(gd (fun i=>eK d (ks.getD i cc)) k)<=d:=fun k U=>kw k (fun i _=>od d _)
 have C:=fun i=>od d (ks.getD i cc)
 refine go Tryz.func38 [(0,aY ⟨op,n,u,x,B,p,l,y,z,s,A,b.length,c⟩)] rfl (aG (lA 1 47 (ax ⟨op,n,u,x,B,p,l,y,z,s,A,b.length,c⟩) a (fun I w2 h3 a=>lL a ac (aE (lL a ac (ai (aa a ac (bE ?_))))))));refine bG _ (CG.loop (fun J Γ O=>∃ (k:Nat)(e:Hp),J=b.length-k/\Γ=[(1,pB I),(2,iV 0),(4,nV k),(3,nV (gd (fun i=>eK d (ks.getD i cc)) k))]/\SS w h O e [⟨I,47,ax ⟨op,n,u,x,B,p,l,y,z,s,A,b.length,c⟩⟩] [] [fun e=>Rms d e b ks,fun e=>SlO 7 ax bZ e A b,fun e=>RZ e (u,qS x B p,qS l y z) q]/\k<=b.length) _ ⟨0,h3,rfl,rfl,a.to _ _,JH _⟩ ?_);rintro _ _ w4 ⟨k,h5,hm6,rfl,a,U⟩;have hmx:(gd (fun i=>eK d (ks.getD i cc)) (k+1))=max (gd (fun i=>eK d (ks.getD i cc)) k) (eK d (ks.getD k cc)):=rfl;refine cQ (aa a [.c,.v (qP I 6),.o (qS A b.length c) 0 6 1,.v (nV b.length)] ?_);cases j:(decide ((k:Int)<(b.length:Int)))
 .
  have F:=oF j;refine lB 9 j (ah (CG.exit ?_))
  show CG _ _ _ _ _ _ _ _
  refine aa a ac ?_;have D:=H k oM;exact bg 21 (((gd (fun i=>eK d (ks.getD i cc)) k):Nat)+1) (((gd (fun i=>eK d (ks.getD i cc)) k):Nat)+1) (lL a ac (af a [] (nV (((gd (fun i=>eK d (ks.getD i cc)) k):Nat)+1)) (congrArg (fun n:Nat=>Value.int .i64 (n:Int)) (by rw[show k=ks.length by omega];rfl))))
 have F:=oT j;refine lB 9 j (aj (cK (cQ (kZ (kQ (lL a [.c,.v (qP I 6),.o (qS A b.length c) 0 6 1,.c] (lX 16 A b.length c 7 (k:Nat) k ((a.f.2.1).ok oM) ?_)))))));refine lH 17 (aY (b.getD k bZ)) a ((a.f.2.1).el k oM) (aq 18 a (Q (b.getD k bZ) (ks.getD k cc) _ _ a.g ((a.f.1).at_ k oM) (Z k oM) oM) (fun w8 h9 a=>?_));have D:=H k oM;have M:=C k;refine lV 19 (nV (gd (fun i=>eK d (ks.getD i cc)) (k+1))) ?_ (hr:=aN (n:=if (eK d (ks.getD k cc):Int)>((gd (fun i=>eK d (ks.getD i cc)) k):Int) then (eK d (ks.getD k cc):Int) else ((gd (fun i=>eK d (ks.getD i cc)) k):Int)) kR (by split<;>omega));refine lL a ac (lN (kQ (lL a ac (bg 11 ((k:Nat)+1) (k+1) ?_))));refine lL a ac (lD ?_);intro a_ S;refine ⟨_,_,?_,⟨k+1,h9,rfl,rfl,a.to _ _,oM⟩,S.to _ kR⟩
 omega
theorem wE (sm:ByteArray->Prop):∀ (d:Nat) (r:RTm) (t:Tm) (w:World) (h:Hp),G w h->RmH d h r t->SmT sm d t->d<=1000000->Calls Tryz.prog 38 #[aY r] w (Ret w h (fun v _=>v=nV (eK d t)))
  | 0,_,_,_,_,_,x,_,_=>x.elim
  | d+1,r,t,w,h,g,x,wf,hd=>by
    obtain ⟨op,n,b,z,F,o,k,B,D,q,s,A,c,H,ks,rfl,rfl,j,e,i,a⟩:=x.open;obtain ⟨y,l,p,u,C,f⟩:=wf;exact AH sm d (fun r t w h=>wE sm d r t w h) op n b z F o k B D q s A c H ks e y l p u C f hd w h g j i a
theorem Fz  (isb:ByteArray->Bool)(sm:ByteArray->Prop)(p:∀ s,sm s->∀ (w:World) (h:Hp),G w h->Calls Tryz.prog 9 #[.string s] w (Ret w h (fun v _=>∃ b,v=.bool b/\b=isb s)))(d:Nat)(r:RTm)(t:Tm)(I:d<=1000000)(w:World)(h:Hp)(g:G w h)(y:RmH d h r t)(l:SmT sm d t):CR 19 #[aY r] w h (fun v _=>∃ e:Int,v=iV e/\CkA isb d t e):=by
 have a:=((sS g).add (K:=fun u=>RmH d u r t) y);refine go Tryz.func19 [(0,aY r)] rfl (aG (lA 1 47 (ax r) a (fun C w2 H a=>lL a ac (ai (kZ (aa a [.o (aY r) 0 0 7] (aq 5 a (wE sm d r t _ _ a.g a.f.1 l oM) (fun J D a=>?_))))))));have x:=od d t;cases i:(decide ((24:Int)<((eK d t:Nat):Int)))
 .
  have j:=oF i;refine lB 6 i (lL a ac (ah (aa a [.o (aY r) 0 0 7] (lC 9 a (pj isb sm p 24 r t _ _ a.g ((a.f.1).cutD oM) (l.cutD oM)) ?_))));rintro _ L F a ⟨bf,rfl,hbf⟩;cases B:(bf)
  .
   exact lL a [.v qT,.c] (aj (aa a ac (af a [] (iV 2) (⟨_,rfl,.inr ⟨by omega,.inr ⟨fun u=>Kp ((hbf.2 u).symm.trans aM),rfl⟩⟩⟩))))
  refine lL a [.v qF,.c] (ah (aa a [.o (aY r) 0 0 7] (aq 13 a (rQ sm 24 r t _ _ a.g ((a.f.1).cutD oM) (l.cutD oM)) (fun _ _ a=>?_))));cases k:(decide ((1000:Int)<(((min (ek 24 t) 1073741824:Nat):Int):Int)))
  .
   have z:=oF k;exact lB 14 k (lL a ac (ah (cK (aa a ac (af a [] (iV 0) (⟨_,rfl,.inr ⟨by omega,.inl ⟨hbf.1 aM,(if_neg oM).symm⟩⟩⟩))))))
  have z:=oT k;exact lB 14 k (lL a ac (aj (aa a ac (af a [] (iV 18) (⟨_,rfl,.inr ⟨by omega,.inl ⟨hbf.1 aM,(if_pos oM).symm⟩⟩⟩)))))
 have j:=oT i;exact lB 6 i (lL a ac (aj (aa a ac (af a [] (iV 19) (⟨_,rfl,.inl ⟨by omega,rfl⟩⟩)))))
def rH (s:ByteArray):Nat:=6*s.size+6
def ja (s:ByteArray):PR:=match bn cF jO s (rH s) .sum 0 with
  | some (.ok t b)=>if sk s b=s.size then .ok t b else .err (sk s b)
  | some (.err b)=>.err b
  | none=>.err 0
theorem mq (s:ByteArray):(∃ t b,bn cF jO s (rH s) .sum 0=some (.ok t b)/\sk s b=s.size/\ja s=.ok t b)\/(∃ t b,bn cF jO s (rH s) .sum 0=some (.ok t b)/\sk s b≠s.size/\ja s=.err (sk s b))\/∃ b,bn cF jO s (rH s) .sum 0=some (.err b)/\ja s=.err b:=by
  obtain ⟨r,hr⟩:=r7 (nf:=cF) (bf:=jO) (s:=s) (rH s) .sum 0 (JH _) (by show 6*(s.size-0)+5<6*s.size+6;omega)
  unfold ja
  rw[hr];cases r with
  | ok t b =>
    by_cases h:sk s b=s.size
    . exact .inl ⟨t,b,rfl,h,if_pos h⟩
    . exact .inr (.inl ⟨t,b,rfl,h,if_neg h⟩)
  | err b=>exact .inr (.inr ⟨b,rfl,rfl⟩)
theorem E6 {x:ByteArray}{q:Rat}(h:jO x=some q):LQ 3000 q:=kv (pO h).1
theorem nY {s:ByteArray}{t:Tm}{b:Nat}(h:bn cF jO s (rH s) .sum 0=some (.ok t b)):SmT fN s.size t/\b<=s.size:=by
 have h1:=nO (rH s) .sum 0 t b (JH _) h;exact ⟨SmT.mono (show SmT fN (b-0) t from xP (fun _ _ h=>kv h) (fun _ _ h=>E6 h) (rH s) .sum 0 t b (JH _) h) oM,h1.2⟩
def FaP (s:ByteArray)(e l a:Int):Prop:=match ja s with
  | .ok t _=>CkA cD s.size t e/\((e=0/\l=0/\a=0)\/(e≠0/\l=1/\a=0))
  | .err b=>e=2/\l=1/\a=(b:Nat)
theorem FaP.uniq {s:ByteArray}{e l a f c b:Int}(x:FaP s e l a)(y:FaP s f c b):e=f/\l=c/\a=b:=by
 unfold FaP at x y
 split at x
 ·rename_i d
  rw[d] at y
  have i:=x.1.uniq y.1;have h1:=x.2;have h:=y.2
  omega
 ·rename_i d
  rw[d] at y
  have h1:e=2/\l=1/\a=_:=x;have h:f=2/\c=1/\b=_:=y
  omega
theorem FaP.ok {s:ByteArray}{t:Tm}{b:Nat}{e:Int}(d:ja s=.ok t b)(c:CkA cD s.size t e){l a:Int}(h:(e=0/\l=0/\a=0)\/(e≠0/\l=1/\a=0)):FaP s e l a:=by unfold FaP;rw[d];exact ⟨c,h⟩
theorem FaP.err {s:ByteArray}{b:Nat}(a:ja s=.err b):FaP s 2 1 (b:Nat):=by unfold FaP;rw[a];exact ⟨rfl,rfl,rfl⟩
def PaP (s:ByteArray)(h:Hp)(p:PTm)(e:Int):Prop:=(e=0->∃ t b,ja s=.ok t b/\TmH 24 h p t/\WfT (fun s=>cD s=true) 24 t/\ek 24 t<=1000)/\(e≠0->p=a7)
theorem PaP.gw {s:ByteArray}{h a:Hp}{p:PTm}{e:Int}(x:PaP s h p e)(u:Gw h a):PaP s a p e:=⟨fun h0=>by obtain ⟨t,b,h1,d,c⟩:=x.1 h0;exact ⟨t,b,h1,d.gw u,c⟩,x.2⟩
def PaR (s:ByteArray)(h:Hp)(r:RTm)(e:Int):Prop:=(e=0->∃ t b,ja s=.ok t b/\RmH 24 h r t/\WfT (fun s=>cD s=true) 24 t/\ek 24 t<=1000)
theorem PaR.gw {s:ByteArray}{h a:Hp}{r:RTm}{e:Int}(x:PaR s h r e)(u:Gw h a):PaR s a r e:=fun h0=>by obtain ⟨t,b,h1,d,c⟩:=x h0;exact ⟨t,b,h1,d.gw u,c⟩
theorem PtH.cutS {sm:ByteArray->Prop}{h:Hp}{d:Nat}{p:PTm}{t:Tm}(x:PtH h p t)(y:SmT sm d t):TmH d h p t:=by obtain ⟨e,x⟩:=x;exact x.cutS y
theorem PaP.mk0 {s:ByteArray}{h:Hp}{p:PTm}{t:Tm}{b:Nat}(a:ja s=.ok t b)(c:CkA cD s.size t 0)(d:TmH s.size h p t):PaP s h p 0:=⟨fun _=>⟨t,b,a,d.cutD c.ok.1,c.ok.2⟩,fun h=>absurd rfl h⟩
theorem PaP.mkE {s:ByteArray}{h:Hp}{e:Int}(a:e≠0):PaP s h a7 e:=⟨fun h=>absurd h a,fun _=>rfl⟩
theorem PaR.mk0 {s:ByteArray}{h:Hp}{r:RTm}{t:Tm}{b:Nat}(a:ja s=.ok t b)(c:CkA cD s.size t 0)(d:RmH s.size h r t):PaR s h r 0:=fun _=>⟨t,b,a,d.cutD c.ok.1,c.ok.2⟩
theorem PaR.mkE {s:ByteArray}{h:Hp}{r:RTm}{e:Int}(a:e≠0):PaR s h r e:=fun h=>absurd h a
def HS (n:Nat):Prop:=RC cF jO 16 n .sum/\RC cF jO 35 n .prod/\RC cF jO 55 n .sign/\RC cF jO 82 n .pow/\RC cF jO 107 n .atom
theorem Dx (n:Nat):HS n:=by
  induction n using Nat.strongRecOn with
  | ind n ih =>
    cases n with
    | zero=>exact ⟨fun _ _ _ _ _ _ h=>(by cases h),fun _ _ _ _ _ _ h=>(by cases h),fun _ _ _ _ _ _ h=>(by cases h),fun _ _ _ _ _ _ h=>(by cases h),fun _ _ _ _ _ _ h=>(by cases h)⟩
    | succ n =>
      have i:=fun m (c:m<=n)=>ih m (Nat.lt_succ_of_le c)
      exact ⟨fun rb s h1 a e r j w h g d f b=>HP n (fun m c=>(i m c).2.1) rb s h1 a e r j w h g d f b,
        fun rb s h1 a e r j w h g d f b=>xk n (fun m c=>(i m c).2.2.1) rb s h1 a e r j w h g d f b,
        fun rb s h1 a e r j w h g d f b=>AK n (fun m c=>(i m c).2.2.2.1) rb s h1 a e r j w h g d f b,
        fun rb s h1 a e r j w h g d f b=>Ev n (i n (eb _)).2.2.2.2 rb s h1 a e r j w h g d f b,
        fun rb s h1 a e r j w h g d f b=>Hl n (fun m c=>(i m c).1) rb s h1 a e r j w h g d f b⟩
theorem RtH.cutS {sm:ByteArray->Prop}{h:Hp}{d:Nat}{p:RTm}{t:Tm}(x:RtH h p t)(y:SmT sm d t):RmH d h p t:=by obtain ⟨e,x⟩:=x;exact x.cutS y
theorem Ir:∀ s,fN s->∀ (w:World) (h:Hp),G w h->Calls Tryz.prog 9 #[.string s] w (Ret w h (fun v _=>∃ b,v=.bool b/\b=cD s)):=fun s a w h g =>
 (qU s (by unfold fN at a;omega) w h g).mono fun e w' ⟨v,f,c,u,d⟩=>⟨v,f,c,u,_,d,rfl⟩
theorem sT (s:ByteArray)(hsz:s.size<=65536)(w:World)(h:Hp)(g:G w h)(tb:Tab h):CR 6 #[.string s] w h (fun v h1=>∃ (x:RTm)(e l a:Int),v=.tuple #[aY x,.agg #[iV e,iV l,iV a]]/\FaP s e l a/\PaR s h1 x e):=by
 have d:=((sS g).add (K:=fun M=>Tab M) tb);refine go Tryz.func6 [(0,.string s)] rfl (aG (lA 2 47 (ax ⟨0,0,false,none,0,0,none,0,0,⟨#[]⟩,none,0,0⟩) d (fun y w2 h3 d=>lA 3 49 ([iV 0,iV 0,iV 0]) d (fun z w5 h6 d=>ai (aa d [.c,.v (nV s.size)] ?_)))));have V:(decide ((65536:Int)<(s.size:Int)))=false:=decide_eq_false oM;refine lB 9 V (ah (cK (aa d [.c,.v (.agg #[.string s,iV 0,iV (-1)])] (lA 14 67 ([.string s,iV 0,iV (-1)]) d (fun b8 w9 _ d=>lL d ac (aE (lL d ac ?_)))))))
 rcases mq s with ⟨t,b,hq,hb,hr⟩|⟨t,b,hq,hb,hr⟩|⟨b,hq,hr⟩
 .
  refine bj 16 ((Dx (rH s)).1 b8 s oM 0 (JH _) (.ok t b) hq _ _ d.g (d.own 0) (d.jk 0) d.f.1) ?_;rintro _ _ _ Z ⟨x,rfl,C,O,W⟩;replace d:=(d.stepM 0 Z O).to [⟨b8,67,[.string s,nV b,iV (-1)]⟩,⟨z,49,[iV 0,iV 0,iV 0]⟩,⟨y,47,ax ⟨0,0,false,none,0,0,none,0,0,⟨#[]⟩,none,0,0⟩⟩] [];replace d:=(d.add (K:=fun M=>RtH M x t) W);have u:=(nY hq).1;have F:=bB (s:=s) (a:=b) C;refine lA 5 47 (ax ⟨0,0,false,none,0,0,none,0,0,⟨#[]⟩,none,0,0⟩) d (fun zf _ _ d=>lP 0 0 (ax x) d (fun _ d=>ai (aa d [.c,.v (pB b8),.v (qP b8 2),.o (iV (-1)) 1 2 1,.v qT,.c,.c] (bj 24 (mn b8 s oM b C _ _ d.g (d.own 1) (d.jk 1) d.f.2.1) ?_))));rintro _ _ _ U ⟨rfl,D⟩;replace d:=(d.stepM 1 U D).to [⟨zf,47,ax x⟩,⟨b8,67,[.string s,nV (sk s b),iV (-1)]⟩,⟨z,49,[iV 0,iV 0,iV 0]⟩,⟨y,47,ax ⟨0,0,false,none,0,0,none,0,0,⟨#[]⟩,none,0,0⟩⟩] [];have h0_:=cw (s:=s) (a:=sk s b) oM;have zg:(((ak s (sk s b):Nat):Int) != (0:Int))=false:=mi oM;refine lB 25 zg (lL d [.v qF,.c,.c,.v (pB b8),.v (qP b8 2),.o (iV (-1)) 1 2 1,.v qT,.c,.c,.v (pB b8),.v (qP b8 1),.o (nV (sk s b)) 1 1 1,.c,.v (nV s.size)] ?_);have zi:(decide (((sk s b:Nat):Int)<(s.size:Int)))=false:=decide_eq_false oM;refine lB 40 zi (lL d [.v qF,.v qF] (ah (cK (cQ (aa d [.c,.v (pB b8),.v (qP b8 2),.o (iV (-1)) 1 2 1,.v qF] (lN (bG [(2,pB y),(3,pB z),(4,pB b8),(5,pB zf),(53,qF)] ?_)))))));refine da (cK (cQ (aa d [.o (aY x) 0 0 7] (lC 61 d (Fz cD fN Ir s.size x t oM _ _ d.g ((d.f.1).cutS u) u) ?_))));rintro _ _ _ d ⟨e,rfl,H⟩;refine lL d ac (aE (lL d ac ?_));cases S:((e:Int) != (0:Int))
  .
   have zd:=ay S;exact lB 63 S (ah (cK (aa d [.o (aY x) 0 0 7,.v (.agg #[iV 0,iV 0,iV 0])] (lP 3 0 (ax x) d (fun _ d=>lP 2 0 ([iV 0,iV 0,iV 0]) d (fun _ d=>af d [(3,0,7),(2,0,3)] (.tuple #[aY x,.agg #[iV 0,iV 0,iV 0]]) (⟨x,0,0,0,rfl,FaP.ok hr (show CkA cD s.size t 0 by rw[<-show e=0 by omega];exact H) (.inl ⟨rfl,rfl,rfl⟩),PaR.mk0 hr (show CkA cD s.size t 0 by rw[<-show e=0 by omega];exact H) ((d.f.1).cutS u)⟩)))))))
  have zd:=a6 S;exact lB 63 S (aj (aa d [.v (aY ⟨0,0,false,none,0,0,none,0,0,⟨#[]⟩,none,0,0⟩),.c,.v (.agg #[iV e,iV 1,iV 0])] (lP 3 0 (ax ⟨0,0,false,none,0,0,none,0,0,⟨#[]⟩,none,0,0⟩) d (fun _ d=>lP 2 0 ([iV e,iV 1,iV 0]) d (fun _ d=>af d [(3,0,7),(2,0,3)] (.tuple #[aY ⟨0,0,false,none,0,0,none,0,0,⟨#[]⟩,none,0,0⟩,.agg #[iV e,iV 1,iV 0]]) (⟨bZ,e,1,0,rfl,FaP.ok hr H (.inr ⟨by omega,rfl,rfl⟩),PaR.mkE oM⟩))))))
 .
  refine bj 16 ((Dx (rH s)).1 b8 s oM 0 (JH _) (.ok t b) hq _ _ d.g (d.own 0) (d.jk 0) d.f.1) ?_;rintro _ _ _ u32 ⟨x,rfl,C,O,W⟩;replace d:=(d.stepM 0 u32 O).to [⟨b8,67,[.string s,nV b,iV (-1)]⟩,⟨z,49,[iV 0,iV 0,iV 0]⟩,⟨y,47,ax ⟨0,0,false,none,0,0,none,0,0,⟨#[]⟩,none,0,0⟩⟩] [];replace d:=(d.add (K:=fun M=>RtH M x t) W);have u:=(nY hq).1;have F:=bB (s:=s) (a:=b) C;refine lA 5 47 (ax ⟨0,0,false,none,0,0,none,0,0,⟨#[]⟩,none,0,0⟩) d (fun L _ _ d=>lP 0 0 (ax x) d (fun _ d=>ai (aa d [.c,.v (pB b8),.v (qP b8 2),.o (iV (-1)) 1 2 1,.v qT,.c,.c] (bj 24 (mn b8 s oM b C _ _ d.g (d.own 1) (d.jk 1) d.f.2.1) ?_))));rintro _ _ _ u39 ⟨rfl,D⟩;replace d:=(d.stepM 1 u39 D).to [⟨L,47,ax x⟩,⟨b8,67,[.string s,nV (sk s b),iV (-1)]⟩,⟨z,49,[iV 0,iV 0,iV 0]⟩,⟨y,47,ax ⟨0,0,false,none,0,0,none,0,0,⟨#[]⟩,none,0,0⟩⟩] [];cases Q:(((ak s (sk s b):Nat):Int) != (0:Int))
  .
   have ze:=ay Q;refine lB 25 Q (lL d [.v qF,.c,.c,.v (pB b8),.v (qP b8 2),.o (iV (-1)) 1 2 1,.v qT,.c,.c,.v (pB b8),.v (qP b8 1),.o (nV (sk s b)) 1 1 1,.c,.v (nV s.size)] ?_);have zj:(decide (((sk s b:Nat):Int)<(s.size:Int)))=true:=decide_eq_true oM;refine lB 40 zj (lL d [.v qT,.v qT] (aj (kQ (lL d [.c,.c,.v (pB b8),.v (qP b8 1),.o (nV (sk s b)) 1 1 1] (bj 48 (fd b8 s oM (sk s b) oM (sk s b) _ _ d.g (d.own 1) (d.jk 1) d.f.2.1) ?_)))));rintro _ _ _ Y ⟨rfl,I⟩;replace d:=(d.stepM 1 Y I).to [⟨L,47,ax x⟩,⟨b8,67,[.string s,nV s.size,nV (sk s b)]⟩,⟨z,49,[iV 0,iV 0,iV 0]⟩,⟨y,47,ax ⟨0,0,false,none,0,0,none,0,0,⟨#[]⟩,none,0,0⟩⟩] [];refine lN (bG [(2,pB y),(3,pB z),(4,pB b8),(5,pB L)] ?_);refine cQ (aa d [.c,.v (pB b8),.v (qP b8 2),.o (nV (sk s b)) 1 2 1] ?_);have zk:(decide ((0:Int)<=((sk s b:Nat):Int)))=true:=decide_eq_true oM;refine lB 53 zk (aj (cQ ?_));have B:=d;refine uH 6 [] [y,z] mixed d aw (eV 0 54 (aY ⟨0,0,false,none,0,0,none,0,0,⟨#[]⟩,none,0,0⟩) (eV 1 55 (pB b8) (eV 2 56 (pB b8) (eV 3 57 (qP b8 2) (uE 4 58 [(1,2,1)] (nV (sk s b)) B d ?_ (hM:=fun p J=>by obtain rfl:=n1.1 J;exact fun k=>by rcases gq.1 k with e|k;exact cB d.st (i:=1) (j:=3) kR kR kR e;rcases gq.1 k with e|k;exact cB d.st (i:=1) (j:=2) kR kR kR e;cases k))))));refine eV 5 59 (.agg #[iV 2,iV 1,nV (sk s b)]) (cG d (fun _ _ d=>tP 6 3 0 (ax ⟨0,0,false,none,0,0,none,0,0,⟨#[]⟩,none,0,0⟩) d (fun _ d=>?_) (hz:=cO (JQ))));refine tP 7 2 0 ([iV 2,iV 1,nV (sk s b)]) d (fun _ d=>?_) (hz:=cO (JR _<|JQ));exact tN (kX (d.ret [(3,0,7),(2,0,3)] (.tuple #[aY ⟨0,0,false,none,0,0,none,0,0,⟨#[]⟩,none,0,0⟩,.agg #[iV 2,iV 1,nV (sk s b)]]) (⟨bZ,2,1,(sk s b:Nat),rfl,FaP.err hr,PaR.mkE kD⟩)))
  have ze:=a6 Q;refine lB 25 Q (lL d [.v qT,.c] (lG 28 ?_));refine lG 29 (lG 30 (lG 31 (lG 32 (lG 33 (lG 34 (lG 35 (lG 36 (lG 37 (lG 38 (lG 39 (lG 40 (lG 41 (lL d [.v qT] (aj (kQ (lL d [.c,.c,.v (pB b8),.v (qP b8 1),.o (nV (sk s b)) 1 1 1] (bj 48 (fd b8 s oM (sk s b) oM (sk s b) _ _ d.g (d.own 1) (d.jk 1) d.f.2.1) ?_)))))))))))))))));rintro _ _ _ X ⟨rfl,I⟩;replace d:=(d.stepM 1 X I).to [⟨L,47,ax x⟩,⟨b8,67,[.string s,nV s.size,nV (sk s b)]⟩,⟨z,49,[iV 0,iV 0,iV 0]⟩,⟨y,47,ax ⟨0,0,false,none,0,0,none,0,0,⟨#[]⟩,none,0,0⟩⟩] [];refine lN (bG [(2,pB y),(3,pB z),(4,pB b8),(5,pB L)] ?_);refine cQ (aa d [.c,.v (pB b8),.v (qP b8 2),.o (nV (sk s b)) 1 2 1] ?_);have zl:(decide ((0:Int)<=((sk s b:Nat):Int)))=true:=decide_eq_true oM;refine lB 53 zl (aj (cQ ?_));have B:=d;refine uH 6 [] [y,z] mixed d aw (eV 0 54 (aY ⟨0,0,false,none,0,0,none,0,0,⟨#[]⟩,none,0,0⟩) (eV 1 55 (pB b8) (eV 2 56 (pB b8) (eV 3 57 (qP b8 2) (uE 4 58 [(1,2,1)] (nV (sk s b)) B d ?_ (hM:=fun p J=>by obtain rfl:=n1.1 J;exact fun k=>by rcases gq.1 k with e|k;exact cB d.st (i:=1) (j:=3) kR kR kR e;rcases gq.1 k with e|k;exact cB d.st (i:=1) (j:=2) kR kR kR e;cases k))))));refine eV 5 59 (.agg #[iV 2,iV 1,nV (sk s b)]) (cG d (fun _ _ d=>tP 6 3 0 (ax ⟨0,0,false,none,0,0,none,0,0,⟨#[]⟩,none,0,0⟩) d (fun _ d=>?_) (hz:=cO (JQ))));refine tP 7 2 0 ([iV 2,iV 1,nV (sk s b)]) d (fun _ d=>?_) (hz:=cO (JR _<|JQ));exact tN (kX (d.ret [(3,0,7),(2,0,3)] (.tuple #[aY ⟨0,0,false,none,0,0,none,0,0,⟨#[]⟩,none,0,0⟩,.agg #[iV 2,iV 1,nV (sk s b)]]) (⟨bZ,2,1,(sk s b:Nat),rfl,FaP.err hr,PaR.mkE kD⟩)))
 refine bj 16 ((Dx (rH s)).1 b8 s oM 0 (JH _) (.err b) hq _ _ d.g (d.own 0) (d.jk 0) d.f.1) ?_;rintro _ _ _ u60 ⟨x,rfl,O⟩;replace d:=(d.stepM 0 u60 O).to [⟨b8,67,[.string s,nV s.size,nV b]⟩,⟨z,49,[iV 0,iV 0,iV 0]⟩,⟨y,47,ax ⟨0,0,false,none,0,0,none,0,0,⟨#[]⟩,none,0,0⟩⟩] [];refine lA 5 47 (ax ⟨0,0,false,none,0,0,none,0,0,⟨#[]⟩,none,0,0⟩) d (fun zp _ _ d=>lP 0 0 (ax x) d (fun _ d=>ai (aa d [.c,.v (pB b8),.v (qP b8 2),.o (nV b) 1 2 1] ?_)));have zm:(decide ((b:Int)<(0:Int)))=false:=decide_eq_false oM;refine lB 21 zm (lL d ac (lG 23 ?_));refine lG 24 (lG 25 (lL d [.v qF,.c,.c,.v (pB b8),.v (qP b8 2),.o (nV b) 1 2 1] ?_));have zn:(decide ((b:Int)<(0:Int)))=false:=decide_eq_false oM;refine lB 32 zn (lL d ac (lG 34 ?_));refine lG 35 (lG 36 (lG 37 (lG 38 (lG 39 (lG 40 (lL d [.v qF,.v qF] (ah (cK (cQ (aa d [.c,.v (pB b8),.v (qP b8 2),.o (nV b) 1 2 1] ?_))))))))));have zo:(decide ((0:Int)<=(b:Int)))=true:=decide_eq_true oM;refine lB 53 zo (lN (bG [(2,pB y),(3,pB z),(4,pB b8),(5,pB zp),(53,qT)] ?_));refine ci (cQ ?_);have B:=d;refine uH 6 [] [y,z] mixed d aw (eV 0 54 (aY ⟨0,0,false,none,0,0,none,0,0,⟨#[]⟩,none,0,0⟩) (eV 1 55 (pB b8) (eV 2 56 (pB b8) (eV 3 57 (qP b8 2) (uE 4 58 [(1,2,1)] (nV b) B d ?_ (hM:=fun p J=>by obtain rfl:=n1.1 J;exact fun k=>by rcases gq.1 k with e|k;exact cB d.st (i:=1) (j:=3) kR kR kR e;rcases gq.1 k with e|k;exact cB d.st (i:=1) (j:=2) kR kR kR e;cases k))))));refine eV 5 59 (.agg #[iV 2,iV 1,nV b]) (cG d (fun _ _ d=>tP 6 3 0 (ax ⟨0,0,false,none,0,0,none,0,0,⟨#[]⟩,none,0,0⟩) d (fun _ d=>?_) (hz:=cO (JQ))));refine tP 7 2 0 ([iV 2,iV 1,nV b]) d (fun _ d=>?_) (hz:=cO (JR _<|JQ));exact tN (kX (d.ret [(3,0,7),(2,0,3)] (.tuple #[aY ⟨0,0,false,none,0,0,none,0,0,⟨#[]⟩,none,0,0⟩,.agg #[iV 2,iV 1,nV b]]) (⟨bZ,2,1,(b:Nat),rfl,FaP.err hr,PaR.mkE kD⟩)))
theorem nz (s:ByteArray)(hsz:s.size<=65536)(w:World)(h:Hp)(g:G w h)(tb:Tab h):CR 5 #[.string s] w h (fun v h1=>∃ (p:PTm)(e l a:Int),v=.tuple #[a8 p,.agg #[iV e,iV l,iV a]]/\FaP s e l a/\PaP s h1 p e):=by
 have d:=((sS g).add (K:=fun H=>Tab H) tb);refine go Tryz.func5 [(0,.string s)] rfl (aG (lA 2 33 a2 d (fun y w2 h3 d=>lA 3 36 ([iV 0,iV 0,iV 0]) d (fun z w5 h6 d=>ai (aa d [.c,.v (nV s.size)] ?_)))));have M:(decide ((65536:Int)<(s.size:Int)))=false:=decide_eq_false oM;refine lB 9 M (ah (cK (aa d [.c,.v (.agg #[.string s,iV 0,iV 0])] (lA 14 59 ([.string s,iV 0,iV 0]) d (fun b8 w9 _ d=>lL d ac (aE (lL d ac ?_)))))))
 rcases mq s with ⟨t,b,hq,hb,hr⟩|⟨t,b,hq,hb,hr⟩|⟨b,hq,hr⟩
 .
  refine bj 16 ((Fl Hv HR HO (rH s)).1 b8 s oM 0 (JH _) 0 t b hq _ _ d.g (d.own 0) (d.jk 0) d.f.1) ?_;rintro _ _ _ V ⟨Q,p,rfl,x,I,L,O⟩;replace d:=(d.stepM 0 V I).to [⟨b8,59,[.string s,nV b,iV 0]⟩,⟨z,36,[iV 0,iV 0,iV 0]⟩,⟨y,33,[iV 0,iV 0,qF,uV 0,eS,uV 0,eS,eS,sZ]⟩] [];replace d:=((d.a_Seg L).add (K:=fun H=>PtH H p t) O);have k:=(nY hq).1;refine lL d ac (ai (aa d [.c,.v qT] (aj (aa d ac ?_))));have C:=bB (s:=s) (a:=b) x;refine bj 20 (jq b8 s oM b x 0 _ _ d.g (d.own 0) (d.jk 0) d.f.r.1) ?_;rintro _ _ _ u16 ⟨rfl,B⟩;replace d:=(d.stepM 0 u16 B).to [⟨b8,59,[.string s,nV (sk s b),iV 0]⟩,⟨z,36,[iV 0,iV 0,iV 0]⟩,⟨y,33,[iV 0,iV 0,qF,uV 0,eS,uV 0,eS,eS,sZ]⟩] [];refine aE (lL d [.c,.v (pB b8),.v (qP b8 1),.o (nV (sk s b)) 0 1 1,.c,.v (nV s.size)] ?_);have zc:(decide (((sk s b:Nat):Int)<(s.size:Int)))=false:=decide_eq_false oM;refine lB 27 zc (ah (cK (cQ (aa d [.c,.v qF] (ah (cK (cQ (aa d [.c,.v (pB Q)] (lH 44 (a8 p) d d.f.2.1 ?_)))))))));refine lC 45 d (GJ cD fN BP s.size p t _ _ d.g ((d.f.1).cutS k) k) ?_;rintro _ _ _ d ⟨e,rfl,D⟩;refine lL d ac (aE (lL d ac ?_));cases J:((e:Int) != (0:Int))
  .
   have zb:=ay J;refine lB 47 J (ah (cK (aa d [.c,.v (pB Q)] (lH 53 (a8 p) d d.f.2.1 ?_))));exact lL d [.v (.agg #[iV 0,iV 0,iV 0])] (lP 2 0 (bv p) d (fun _ d=>lP 1 0 ([iV 0,iV 0,iV 0]) d (fun _ d=>af d [(2,0,9),(1,0,3)] (.tuple #[a8 p,.agg #[iV 0,iV 0,iV 0]]) (⟨p,0,0,0,rfl,FaP.ok hr (show CkA cD s.size t 0 by rw[<-show e=0 by omega];exact D) (.inl ⟨rfl,rfl,rfl⟩),PaP.mk0 hr (show CkA cD s.size t 0 by rw[<-show e=0 by omega];exact D) ((d.f.1).cutS k)⟩))))
  have zb:=a6 J;exact lB 47 J (aj (aa d [.v (.agg #[iV 0,iV 0,qF,uV 0,eS,uV 0,eS,eS,sZ]),.c,.v (.agg #[iV e,iV 1,iV 0])] (lP 2 0 a2 d (fun _ d=>lP 1 0 ([iV e,iV 1,iV 0]) d (fun _ d=>af d [(2,0,9),(1,0,3)] (.tuple #[.agg #[iV 0,iV 0,qF,uV 0,eS,uV 0,eS,eS,sZ],.agg #[iV e,iV 1,iV 0]]) (⟨a7,e,1,0,rfl,FaP.ok hr D (.inr ⟨by omega,rfl,rfl⟩),PaP.mkE oM⟩))))))
 .
  refine bj 16 ((Fl Hv HR HO (rH s)).1 b8 s oM 0 (JH _) 0 t b hq _ _ d.g (d.own 0) (d.jk 0) d.f.1) ?_;rintro _ _ _ S ⟨Q,p,rfl,x,I,L,O⟩;replace d:=(d.stepM 0 S I).to [⟨b8,59,[.string s,nV b,iV 0]⟩,⟨z,36,[iV 0,iV 0,iV 0]⟩,⟨y,33,[iV 0,iV 0,qF,uV 0,eS,uV 0,eS,eS,sZ]⟩] [];replace d:=((d.a_Seg L).add (K:=fun H=>PtH H p t) O);have k:=(nY hq).1;refine lL d ac (ai (aa d [.c,.v qT] (aj (aa d ac ?_))));have C:=bB (s:=s) (a:=b) x;refine bj 20 (jq b8 s oM b x 0 _ _ d.g (d.own 0) (d.jk 0) d.f.r.1) ?_;rintro _ _ _ W ⟨rfl,B⟩;replace d:=(d.stepM 0 W B).to [⟨b8,59,[.string s,nV (sk s b),iV 0]⟩,⟨z,36,[iV 0,iV 0,iV 0]⟩,⟨y,33,[iV 0,iV 0,qF,uV 0,eS,uV 0,eS,eS,sZ]⟩] [];refine aE (lL d [.c,.v (pB b8),.v (qP b8 1),.o (nV (sk s b)) 0 1 1,.c,.v (nV s.size)] ?_);have zd:(decide (((sk s b:Nat):Int)<(s.size:Int)))=true:=decide_eq_true oM;refine lB 27 zd (aj (kQ (lL d [.c,.c,.v (pB b8),.v (qP b8 1),.o (nV (sk s b)) 0 1 1] (bj 33 (eh b8 s oM (sk s b) oM 0 (sk s b) oM _ _ d.g (d.own 0) (d.jk 0) d.f.r.1) ?_))));rintro _ _ _ X ⟨rfl,Y⟩;replace d:=(d.stepM 0 X Y).to [⟨b8,59,[.string s,nV (sk s b),nV (sk s b)]⟩,⟨z,36,[iV 0,iV 0,iV 0]⟩,⟨y,33,[iV 0,iV 0,qF,uV 0,eS,uV 0,eS,eS,sZ]⟩] [];refine lL d ac (ai (aa d [.c,.v qT] (aj (cQ ?_))));have F:=d;refine uH 6 [] [y,z] mixed d aw (eV 0 36 (.agg #[iV 0,iV 0,qF,uV 0,eS,uV 0,eS,eS,sZ]) (eV 1 37 (pB b8) (eV 2 38 (pB b8) (eV 3 39 (qP b8 2) (uE 4 40 [(0,2,1)] (nV (sk s b)) F d ?_ (hM:=fun p U=>by obtain rfl:=n1.1 U;exact fun u=>by rcases gq.1 u with e|u;exact cB d.st (i:=0) (j:=2) kR kR kR e;rcases gq.1 u with e|u;exact cB d.st (i:=0) (j:=1) kR kR kR e;cases u))))));refine eV 5 41 (.agg #[iV 2,iV 1,nV (sk s b)]) (cG d (fun _ _ d=>tP 6 2 0 a2 d (fun _ d=>?_) (hz:=cO (JQ))));refine tP 7 1 0 ([iV 2,iV 1,nV (sk s b)]) d (fun _ d=>?_) (hz:=cO (JR _<|JQ));exact tN (kX (d.ret [(2,0,9),(1,0,3)] (.tuple #[.agg #[iV 0,iV 0,qF,uV 0,eS,uV 0,eS,eS,sZ],.agg #[iV 2,iV 1,nV (sk s b)]]) (⟨a7,2,1,(sk s b:Nat),rfl,FaP.err hr,PaP.mkE kD⟩)))
 refine bj 16 ((Hk Hv HR HO Hz Hy Iu (rH s)).1 b8 s oM 0 (JH _) 0 b hq _ _ d.g (d.own 0) (d.jk 0) d.f.1) ?_;rintro _ _ _ Z ⟨ae,rfl,hae,I⟩;replace d:=(d.stepM 0 Z I).to [⟨b8,59,[.string s,nV ae,nV b]⟩,⟨z,36,[iV 0,iV 0,iV 0]⟩,⟨y,33,[iV 0,iV 0,qF,uV 0,eS,uV 0,eS,eS,sZ]⟩] [];refine lL d ac (ai (aa d [.c,.v qF] (ah (cK (cQ (aa d [.c,.v qT] (aj (cQ ?_))))))));have F:=d;refine uH 6 [] [y,z] mixed d aw (eV 0 36 (.agg #[iV 0,iV 0,qF,uV 0,eS,uV 0,eS,eS,sZ]) (eV 1 37 (pB b8) (eV 2 38 (pB b8) (eV 3 39 (qP b8 2) (uE 4 40 [(0,2,1)] (nV b) F d ?_ (hM:=fun p U=>by obtain rfl:=n1.1 U;exact fun u=>by rcases gq.1 u with e|u;exact cB d.st (i:=0) (j:=2) kR kR kR e;rcases gq.1 u with e|u;exact cB d.st (i:=0) (j:=1) kR kR kR e;cases u))))));refine eV 5 41 (.agg #[iV 2,iV 1,nV b]) (cG d (fun _ _ d=>tP 6 2 0 a2 d (fun _ d=>?_) (hz:=cO (JQ))));refine tP 7 1 0 ([iV 2,iV 1,nV b]) d (fun _ d=>?_) (hz:=cO (JR _<|JQ));exact tN (kX (d.ret [(2,0,9),(1,0,3)] (.tuple #[.agg #[iV 0,iV 0,qF,uV 0,eS,uV 0,eS,eS,sZ],.agg #[iV 2,iV 1,nV b]]) (⟨a7,2,1,(b:Nat),rfl,FaP.err hr,PaP.mkE kD⟩)))
theorem vu (q:Rat)(w:World)(h:Hp)(g:G w h):CV 90 #[qv q] w h (a8 ⟨1,0,q,⟨#[]⟩,none,0,0⟩):=by
 have a:=sS g;exact go Tryz.func90 [(0,qv q)] rfl (aG (lA 1 30 (qc q) a (fun d w2 c a=>lA 2 33 a2 a (fun b e f a=>aE (lL a [.o (qv q) 1 0 5,.v (a8 ⟨1,0,q,⟨#[]⟩,none,0,0⟩)] (lP 0 0 (bv ⟨1,0,q,⟨#[]⟩,none,0,0⟩) a (fun i a=>af a [(0,0,9)] (a8 ⟨1,0,q,⟨#[]⟩,none,0,0⟩) rfl)))))))
theorem rr (n:Int)(h0 : -1000<=n)(h1:n<=1000)(w:World)(h:Hp)(g:G w h):CV 65 #[iV n] w h (a8 ⟨1,0,((n:Int):Rat),⟨#[]⟩,none,0,0⟩):=by
 have a:=sS g;exact go Tryz.func65 [(0,iV n)] rfl (aG (lA 2 33 a2 a (fun d w2 c a=>aE (lL a ac (aq 4 a (IA (n) oM oM _ _ a.g) (fun f i a=>aq 5 a (vu (((n:Int):Rat)) _ _ a.g) (fun e b a=>lP 0 0 (bv (⟨1,0,((n:Int):Rat),⟨#[]⟩,none,0,0⟩:PTm)) a (fun j a=>af a [(0,0,9)] (a8 (⟨1,0,((n:Int):Rat),⟨#[]⟩,none,0,0⟩:PTm)) rfl))))))))
theorem Hu (p:PTm)(n:Int)(e:Bool)(h0 : -1000<=n)(h1:n<=1000)(j:LQ 100000000 p.q)(i:p.op=1->(fr p.q ((n:Int):Rat) == 0)=e)(c:p.op≠1->e=false)(w:World)(h:Hp)(g:G w h):CV 93 #[a8 p,iV n] w h (.bool e):=by
 have a:=sS g;refine go Tryz.func93 [(0,a8 p),(1,iV n)] rfl (aG (lA 2 33 (bv p) a (fun k w2 z a=>lL a ac (ai (cR 11 [] mixed a aw ?_)))));refine eV 0 5 (pB k) (eO 1 6 [(0,0,1)] (iV p.op) a ?_);cases b:((p.op:Int) == (1:Int))
 .
  have d:=ao b;exact eB 2 7 b (eV 3 8 qF (eG 4 9 (eG 5 10 (eG 6 11 (eG 7 12 (eG 8 13 (eG 9 14 (eV 10 15 qF (cG a (fun x o a=>tV 11 4 qF (tN (kX (a.ret [] qF (congrArg Value.bool (by first|exact (c oM).symm|(rw[<-i oM];exact (by assumption:(_ == _)=_).symm))))))))))))))))
 have d:=eq_of_beq b;refine eB 2 7 b (eV 3 8 qT (eV 4 9 (qP k 2) (eO 5 10 [(0,2,5)] (qv p.q) a (eV 6 11 (iV n) (aK 7 12 a (fun _ _ a=>IA (n) oM oM _ _ a.g) (fun B y a=>aK 8 13 a (fun _ _ a=>HU p.q ((n:Int):Rat) j ((LQ.int oM oM).mono oM) _ _ a.g) (fun u _ a=>?_)))))));cases f:((fr p.q ((n:Int):Rat):Int) == (0:Int))
 .
  have l:=ao f;exact eB 9 14 f (eV 10 15 qF (cG a (fun _ _ a=>tV 11 4 qF (tN (kX (a.ret [] qF (congrArg Value.bool (by first|exact (c oM).symm|(rw[<-i oM];exact (by assumption:(_ == _)=_).symm)))))))))
 have l:=eq_of_beq f;exact eB 9 14 f (eV 10 15 qT (cG a (fun _ _ a=>tV 11 4 qT (tN (kX (a.ret [] qT (congrArg Value.bool (by first|exact (c oM).symm|(rw[<-i oM];exact (by assumption:(_ == _)=_).symm)))))))))
theorem xa (op n:Int)(q:Rat)(s:ByteArray)(A:Z9)(c:Nat)(ps:List PTm)(J:ps.length<=2)(hnf:∃ i,i<ps.length/\(ps.getD i a7).op≠1)(w:World)(h:Hp)(g:G w h)(D:SlO 9 bv a7 h A ps):CV 92 #[a8 ⟨op,n,q,s,A,ps.length,c⟩] w h (.tuple #[.agg #[.bool false,uV 0,eS,uV 0,eS],.bool false]):=by
 have a:=((sS g).aS D);refine go Tryz.func92 [(0,a8 ⟨op,n,q,s,A,ps.length,c⟩)] rfl (aG (lA 1 33 (bv ⟨op,n,q,s,A,ps.length,c⟩) a (fun l w2 V a=>lA 2 30 a1 a (fun B S H a=>lL a ac (ai (aa a [.v (qP l 8),.o (qS A ps.length c) 1 8 1,.v (nV ps.length)] ?_))))));cases b:((ps.length:Int) == (0:Int))
 .
  have d:=ao b;refine lB 11 b (ah (cK (cQ (aa a [.v (qP l 8),.o (qS A ps.length c) 1 8 1,.v (nV ps.length),.c] (bE ?_)))));refine bG _ (CG.loop (fun x Γ M=>∃ (k:Nat)(e:Hp),x=ps.length-k/\Γ=[(1,pB l),(2,pB B),(14,qS A ps.length c),(15,nV ps.length),(16,nV k)]/\SS w h M e [⟨B,30,[qF,uV 0,eS,uV 0,eS]⟩,⟨l,33,bv ⟨op,n,q,s,A,ps.length,c⟩⟩] [] [fun e=>SlO 9 bv a7 e A ps]/\k<=ps.length/\(∀ i,i<k->(ps.getD i a7).op=1)) _ ⟨0,H,rfl,rfl,a.to _ _,JH _,(fun i hi=>absurd hi (Kk i))⟩ ?_);rintro _ _ Q ⟨k,W,z,rfl,a,O,j⟩;refine aG ?_;cases u:(decide ((k:Int)<(ps.length:Int)))
  .
   have F:=oF u;refine lB 17 u (ai (da (CG.exit ?_)))
   show CG _ _ _ _ _ _ _ _
   refine aG ?_
   exfalso
   obtain ⟨i,hi,y⟩:=hnf;exact y (j i oM)
  have F:=oT u;refine lB 17 u (ai (ci (cK (cQ (kZ (aG (lX 18 A ps.length c 9 (k:Nat) k ((a.f.1).ok oM) ?_)))))));refine lH 19 (a8 (ps.getD k a7)) a ((a.f.1).el k oM) (lA 5 33 a2 a (fun I _ K a=>lP 0 0 (bv (ps.getD k a7)) a (fun _ a=>aE (lL a [.v (pB I),.o (iV ((ps.getD k a7).op)) 0 0 1] ?_))));cases p:(((ps.getD k a7).op:Int) != (1:Int))
  .
   have L:=ay p;refine lB 22 p (ah (cK (kQ (bg 24 ((k:Nat)+1) (k+1) ?_))));refine lL a ac (lD ?_);intro U C;replace a:=a.drop 1 0;refine ⟨_,_,?_,⟨k+1,K,rfl,rfl,a.to _ _,oM,(fun i hi=>by rcases Kl.1 hi with e|rfl;exact j i e;omega)⟩,C.to _ kR⟩
   omega
  have L:=a6 p;exact lB 22 p (aj (aa a [.v ca] (lP 1 0 a1 a (fun _ a=>lL a ac (af a [(1,0,5)] (.tuple #[.agg #[qF,uV 0,eS,uV 0,eS],qF]) rfl)))))
 have d:=eq_of_beq b;exact lB 11 b (aj (aa a [.v ca] (lP 0 0 a1 a (fun _ a=>lL a ac (af a [(0,0,5)] (.tuple #[.agg #[qF,uV 0,eS,uV 0,eS],qF]) rfl)))))
theorem xy (n:Int)(q:Rat)(s:ByteArray)(A:Z9)(c:Nat)(b d:PTm)(hnf:∃ i,i<([b,d]:List PTm).length/\(([b,d]:List PTm).getD i a7).op≠1)(e:Bool)(x:LQ 100000000 b.q)(y:LQ 100000000 d.q)(l:(((b):PTm).op=1->(fr ((b):PTm).q ((0:Int):Rat) == 0)=false)/\(((b):PTm).op≠1->false=false))(p:(((d):PTm).op=1->(fr ((d):PTm).q ((0:Int):Rat) == 0)=false)/\(((d):PTm).op≠1->false=false))(j:(((b):PTm).op=1->(fr ((b):PTm).q ((1:Int):Rat) == 0)=false)/\(((b):PTm).op≠1->false=false))(u:(((d):PTm).op=1->(fr ((d):PTm).q ((1:Int):Rat) == 0)=e)/\(((d):PTm).op≠1->e=false))  (w:World)(h:Hp)(g:G w h)(D:SlO 9 bv a7 h A ([b,d]:List PTm)):CV 66 #[a8 ⟨5,n,q,s,A,2,c⟩] w h (a8 (if e=true then b else ⟨5,n,q,s,A,2,c⟩)):=by
 have a:=((sS g).aS D);have z:([b,d]:List PTm).length=2:=rfl;refine go Tryz.func66 [(0,a8 ⟨5,n,q,s,A,2,c⟩)] rfl (aG (lA 1 33 (bv ⟨5,n,q,s,A,2,c⟩) a (fun k w2 K a=>lA 2 33 a2 a (fun B I F a=>ai (aa a [.o (a8 ⟨5,n,q,s,A,2,c⟩) 1 0 9] (aq 7 a (xa 5 n q s A c ([b,d]:List PTm) (by rw[z];omega) hnf _ _ a.g a.f.1) (fun L J a=>lL a [.c,.v ca,.v qF] (lA 3 30 a1 a (fun H _ _ a=>lP 0 0 a1 a (fun _ a=>lL a ac (aE (lL a ac (ah (cK (cQ (aa a [.v (pB k),.o (iV 5) 2 0 1] (bE (aa a [.v qF,.c] (ah (aa a [.v qF,.c] (ah (aa a [.v qT,.c] (aj (cQ (aa a [.v (qP k 8),.o (qS A 2 c) 2 8 1] (lX 61 A 2 c 9 0 0 ((a.f.1).ok oM) ?_))))))))))))))))))))))))));refine lH 62 (a8 (([b,d]:List PTm).getD 0 a7)) a ((a.f.1).el 0 oM) (aq 63 a (Hu (([b,d]:List PTm).getD 0 a7) 0 false kD kD x l.1 l.2 _ _ a.g) (fun _ _ a=>lL a [.c,.v (qP k 8),.o (qS A 2 c) 2 8 1] (lX 67 A 2 c 9 1 1 ((a.f.1).ok oM) ?_)));refine lH 68 (a8 (([b,d]:List PTm).getD 1 a7)) a ((a.f.1).el 1 oM) (aq 69 a (Hu (([b,d]:List PTm).getD 1 a7) 0 false kD kD y p.1 p.2 _ _ a.g) (fun _ _ a=>lL a [.v qF] (ah (cK (cQ (aa a [.v (qP k 8),.o (qS A 2 c) 2 8 1] (lX 74 A 2 c 9 0 0 ((a.f.1).ok oM) ?_)))))));refine lH 75 (a8 (([b,d]:List PTm).getD 0 a7)) a ((a.f.1).el 0 oM) (aq 76 a (Hu (([b,d]:List PTm).getD 0 a7) 1 false kD kD x j.1 j.2 _ _ a.g) (fun _ _ a=>ah (cK (aa a [.v (qP k 8),.o (qS A 2 c) 2 8 1] (lX 83 A 2 c 9 1 1 ((a.f.1).ok oM) ?_)))));refine lH 84 (a8 (([b,d]:List PTm).getD 1 a7)) a ((a.f.1).el 1 oM) (aq 85 a (Hu (([b,d]:List PTm).getD 1 a7) 1 e kD kD y u.1 u.2 _ _ a.g) (fun _ _ a=>?_));cases C:(e)
 .
  refine lN (bG [(1,pB k),(2,pB B),(85,qF)] ?_);exact da (cK (aa a [.o (a8 ⟨5,n,q,s,A,2,c⟩) 2 0 9] (lP 1 0 (bv ⟨5,n,q,s,A,2,c⟩) a (fun _ a=>af a [(1,0,9)] (a8 ⟨5,n,q,s,A,2,c⟩) (by first|rfl|(rw[(by assumption:e=false)];rfl))))))
 refine lN (bG [(1,pB k),(2,pB B),(85,qT)] ?_);refine ci (aa a [.v (qP k 8),.o (qS A 2 c) 2 8 1] (lX 88 A 2 c 9 0 0 ((a.f.1).ok oM) ?_));exact lH 89 (a8 (([b,d]:List PTm).getD 0 a7)) a ((a.f.1).el 0 oM) (lP 1 0 (bv (([b,d]:List PTm).getD 0 a7)) a (fun _ a=>af a [(1,0,9)] (a8 (([b,d]:List PTm).getD 0 a7)) (by first|rfl|(rw[(by assumption:e=true)];rfl))))
theorem pJ (n:Int)(q:Rat)(s:ByteArray)(A:Z9)(c:Nat)(b:PTm)(hnf:∃ i,i<([b]:List PTm).length/\(([b]:List PTm).getD i a7).op≠1)(p:n≠0)(w:World)(h:Hp)(g:G w h)(k:SlO 9 bv a7 h A ([b]:List PTm)):CV 66 #[a8 ⟨8,n,q,s,A,1,c⟩] w h (a8 (if n=1 then b else ⟨8,n,q,s,A,1,c⟩)):=by
 have a:=((sS g).aS k);have j:([b]:List PTm).length=1:=rfl;refine go Tryz.func66 [(0,a8 ⟨8,n,q,s,A,1,c⟩)] rfl (aG (lA 1 33 (bv ⟨8,n,q,s,A,1,c⟩) a (fun d w2 D a=>lA 2 33 a2 a (fun x B y a=>ai (aa a [.o (a8 ⟨8,n,q,s,A,1,c⟩) 1 0 9] (aq 7 a (xa 8 n q s A c ([b]:List PTm) (by rw[j];omega) hnf _ _ a.g a.f.1) (fun F C a=>lL a [.c,.v ca,.v qF] (lA 3 30 a1 a (fun z _ _ a=>lP 0 0 a1 a (fun _ a=>lL a ac (aE (lL a ac (ah (cK (cQ (aa a [.v (pB d),.o (iV 8) 2 0 1] (bE (aa a [.v qF,.c] (ah (aa a [.v qF,.c] (ah (aa a [.v qF,.c] (ah (aa a [.v qF,.c] (ah (aa a [.v qF,.c] (ah (aa a [.v qT,.c] (aj (cQ (aa a [.v (qP d 1),.o (iV n) 2 1 1] ?_)))))))))))))))))))))))))))))));have u:((n:Int) == (0:Int))=false:=gI oM;refine lB 120 u (ah (cK (aa a [.v (qP d 1),.o (iV n) 2 1 1] ?_)));cases e:((n:Int) == (1:Int))
 .
  have l:=ao e;exact lB 124 e (ah (cK (aa a [.o (a8 ⟨8,n,q,s,A,1,c⟩) 2 0 9] (lP 1 0 (bv ⟨8,n,q,s,A,1,c⟩) a (fun _ a=>af a [(1,0,9)] (a8 ⟨8,n,q,s,A,1,c⟩) (by first|(rw[if_neg oM];done)|(rw[if_neg oM];rfl)))))))
 have l:=eq_of_beq e;refine lB 124 e (aj (aa a [.v (qP d 8),.o (qS A 1 c) 2 8 1] (lX 127 A 1 c 9 0 0 ((a.f.1).ok oM) ?_)));exact lH 128 (a8 (([b]:List PTm).getD 0 a7)) a ((a.f.1).el 0 oM) (lP 1 0 (bv (([b]:List PTm).getD 0 a7)) a (fun _ a=>af a [(1,0,9)] (a8 (([b]:List PTm).getD 0 a7)) (by rw[if_pos oM];rfl)))
section
variable {M:Ms}{P:Program}{n:Nat}{N R:Po}{X:Nat->Po}{ops:Array Oper}{k0:Nat}{L:Array Bool}{Γ:ck}{w:World}{h:Hp}{w0:World}{h0:Hp}{B:List Bx}{Rs:List Rw}{F:List (Hp->Prop)}
def sO (ops:Array Oper)(k0:Nat)(L:Array Bool)(i j:Nat):Bool :=
  decide (i<ops.size) && decide (j<ops.size) && decide (k0<=i) && decide (k0<=j) && Region.noSelect ops && (Region.ready .any ops L == [i,j])
theorem A.two {a:Act}{i j:Nat}(c:sO ops k0 L i j=true){Q:Exit->Act->World->Prop}{f R2:Value->World->Prop}(h1:OpR P ops (av ops i) a w f)(p:OpR P ops (av ops j) a w R2)(h:∀ v w',f v w'->Tl M w w')(e:∀ v w',R2 v w'->Tl M w w')
  (k:∀ v w',f v w'->A M P ops Q k0 (L.setIfInBounds i true) (a.put (av ops i).dst v) w')(d:∀ v w',R2 v w'->A M P ops Q k0 (L.setIfInBounds j true) (a.put (av ops j).dst v) w'):A M P ops Q k0 L a w:=by
 unfold sO at c
 simp only[hI,decide_eq_true_eq,beq_iff_eq] at c
 obtain ⟨⟨⟨⟨⟨c1,c2⟩,u⟩,o⟩,_⟩,l⟩:=c;refine A.intro (fun h0=>by rw[l] at h0;cases h0) (fun q b=>?_);rw[l] at b
 rcases gq.1 b with rfl|b
 ·exact OpR.wpOp (bN c1) h1 (fun v w' hr=>⟨Rl.tl u (h v w' hr),k v w' hr⟩)
 ·rw[n1] at b
  subst b;exact OpR.wpOp (bN c2) p (fun v w' hr=>⟨Rl.tl o (e v w' hr),d v w' hr⟩)
def FW (n:Nat)(ops:Array Oper)(Γ:ck)(i t:Nat):Bool:=Region.noSelect ops && decide (i<ops.size) && ba Γ (av ops i) && ((av ops i).dst == some t) && decide (t<n) && (bu ops Γ (av ops i) == some true)
theorem qG {i t:Nat}{v:Value}(b:FW n ops Γ i t=true)(hr:(execOp (ev Γ) (av ops i)).run P w=.ok (.value v) w){a:Act}(c:Kn n a Γ):OpR P ops (av ops i) a w (fun u w1=>u=v/\w1=w)/\(av ops i).dst=some t/\t<n:=by
 unfold FW at b
 simp only[hI,decide_eq_true_eq,beq_iff_eq] at b
 obtain ⟨⟨⟨⟨⟨d,h0⟩,h⟩,f⟩,e⟩,j⟩:=b;exact ⟨⟨c.want j,.inl ⟨v,w,by rw[c.exec (Region.noSelect_spec d i _ · · (bN h0)) h];exact hr,rfl,rfl⟩⟩,f,e⟩
def H5 (ops:Array Oper)(Γ:ck)(i:Nat):Bool:=Region.noSelect ops && decide (i<ops.size) && ba Γ (av ops i) && ((av ops i).dst == none) && (bu ops Γ (av ops i) == some true)
theorem Dw {i:Nat}{w':World}(b:H5 ops Γ i=true)(hr:(execOp (ev Γ) (av ops i)).run P w=.ok .skip w'){a:Act}(c:Kn n a Γ):OpR P ops (av ops i) a w (fun u w1=>u=undef/\w1=w')/\(av ops i).dst=none:=by
 unfold H5 at b
 simp only[hI,decide_eq_true_eq,beq_iff_eq] at b
 obtain ⟨⟨⟨⟨d,h0⟩,f⟩,e⟩,h⟩:=b;exact ⟨⟨c.want h,.inr (.inl ⟨w',by rw[c.exec (Region.noSelect_spec d i _ · · (bN h0)) f];exact hr,rfl,rfl⟩)⟩,e⟩
theorem Iz (i t:Nat)(ps:List (Nat × Nat × Nat))(v:Value)(j o:Nat)(b:List (Nat × Nat × Nat))(l:Value)(s:SS w0 h0 w h B Rs F)(H:AG M P n N R X ops k0 (L.setIfInBounds i true) ((t,v)::Γ) w)(x:AG M P n N R X ops k0 (L.setIfInBounds j true) ((o,l)::Γ) w)
  (c:(sO ops k0 L i j && FW n ops Γ i t && FW n ops Γ j o)=true:=by kernel_rfl)(k:(bR B ps && bR B b)=true:=by kernel_rfl)(y:bP P (execOp (ev Γ) (av ops i)) (cg B ps)=some (.value v,bO B ps):=by kernel_rfl)(f:bP P (execOp (ev Γ) (av ops j)) (cg B b)=some (.value l,bO B b):=by kernel_rfl):AG M P n N R X ops k0 L Γ w:=by
 simp only[hI] at c k
 intro a d;obtain ⟨p,u,D⟩:=qG c.1.2 (bH _ _ _ _ y (bQ s.st.own ps k.1)) d;obtain ⟨C,z,l2⟩:=qG c.2 (bH _ _ _ _ f (bQ s.st.own b k.2)) d;refine A.two c.1.1 p C (fun _ _ e=>e.2▸Tl.refl _ _) (fun _ _ e=>e.2▸Tl.refl _ _) ?_ ?_
 ·rintro _ _ ⟨rfl,rfl⟩;rw[u];exact H _ (d.put D _)
 ·rintro _ _ ⟨rfl,rfl⟩;rw[z];exact x _ (d.put l2 _)
theorem IW (i t:Nat)(ps:List (Nat × Nat × Nat))(v:Value)(q j o:Nat)(cs:List Value)(s:SS w0 h0 w h B Rs F)(Q:AG M P n N R X ops k0 (L.setIfInBounds i true) ((t,v)::Γ) w)(C:∀ w',SS w0 h0 w' h (fO B j o cs) Rs F->AG M P n N R X ops k0 (L.setIfInBounds q true) Γ w')
  (l:(sO ops k0 L i q && FW n ops Γ i t && H5 ops Γ q)=true:=by kernel_rfl)(H:bR B ps=true:=by kernel_rfl)(I:bP P (execOp (ev Γ) (av ops i)) (cg B ps)=some (.value v,bO B ps):=by kernel_rfl)
  (D:(decide (j<B.length) && decide (o+cs.length<=(aA B j).vs.length))=true:=by kernel_rfl)(u:dq P (execOp (ev Γ) (av ops q))=some (.skip,mj (aA B j).b o cs):=by kernel_rfl)(hz:M.z=none:=by rfl):AG M P n N R X ops k0 L Γ w:=by
 simp only[hI] at l
 have c:=D
 simp only[hI,decide_eq_true_eq] at c
 intro a p;obtain ⟨x,y,O⟩:=qG l.1.2 (bH _ _ _ _ I (bQ s.st.own ps H)) p;obtain ⟨w',f,d,k⟩:=fa _ _ _ _ _ w u (s.st.own _ (bA c.1)) c.2;obtain ⟨K,J⟩:=Dw l.2 f p;refine A.two l.1.1 x K (fun _ _ e=>e.2▸Tl.refl _ _) (fun _ _ _=>Tl.none hz _ _) ?_ ?_
 ·rintro _ _ ⟨rfl,rfl⟩;rw[y];exact Q _ (p.put O _)
 ·rintro _ _ ⟨rfl,rfl⟩
  rw[J];exact C _ (s.put0 c.1 d (s.st.put s.g0 c.1 d k) (l9 c.1)) _ p
end
theorem G5 (d j:PTm)(hnf:∃ i,i<([d,j]:List PTm).length/\(([d,j]:List PTm).getD i a7).op≠1)(e:Bool)(y:LQ 100000000 d.q)(z:LQ 100000000 j.q)(l:(((d):PTm).op=1->(fr ((d):PTm).q ((0:Int):Rat) == 0)=false)/\(((d):PTm).op≠1->false=false))(p:(((j):PTm).op=1->(fr ((j):PTm).q ((0:Int):Rat) == 0)=false)/\(((j):PTm).op≠1->false=false))(k:(((d):PTm).op=1->(fr ((d):PTm).q ((1:Int):Rat) == 0)=false)/\(((d):PTm).op≠1->false=false))(u:(((j):PTm).op=1->(fr ((j):PTm).q ((1:Int):Rat) == 0)=e)/\(((j):PTm).op≠1->e=false))  (w:World)(h:Hp)(g:G w h):CR 67 #[iV 5,a8 d,a8 j] w h (fun v h1=>∃ b,v=a8 (if e=true then d else ⟨5,0,0,⟨#[]⟩,sB b,2,2⟩)/\SlO 9 bv a7 h1 (sB b) ([d,j]:List PTm)):=by
 have a:=sS g;refine go Tryz.func67 [(0,iV 5),(1,a8 d),(2,a8 j)] rfl (aG (lA 4 33 (bv d) a (fun C w2 J a=>lA 5 33 (bv j) a (fun F I H a=>lA 6 33 a2 a (fun K D L a=>aE (lL a [.c,.o (a8 d) 2 0 9,.o (a8 j) 1 0 9] (lC 10 a (Dk 5 d j _ _ a.g) ?_)))))));rintro _ _ _ a ⟨x,rfl,B⟩;replace a:=a.aS B;exact aq 11 a (xy 0 0 ⟨#[]⟩ (sB x) 2 d j hnf e y z l p k u _ _ a.g a.f.1) (fun _ _ a=>lP 0 0 (bv (if e=true then d else ⟨5,0,0,⟨#[]⟩,sB x,2,2⟩)) a (fun _ a=>af a [(0,0,9)] (a8 (if e=true then d else ⟨5,0,0,⟨#[]⟩,sB x,2,2⟩)) (⟨x,rfl,a.f.1⟩)))
theorem BM (b:PTm)(e:b.op≠1)(w:World)(h:Hp)(g:G w h):CV 68 #[a8 b,iV 1] w h (a8 b):=by
 have a:=sS g;refine go Tryz.func68 [(0,a8 b),(1,iV 1)] rfl (aG (lA 2 33 (bv b) a (fun d w2 p a=>lA 4 33 a2 a (fun l u x a=>aE (lL a [.o (a8 b) 1 0 9] (lC 7 a (Cz 8 b _ _ a.g) ?_))))));rintro _ y k a ⟨d,rfl,i⟩;replace a:=a.aS i;exact lA 5 33 a2 a (fun j _ _ a=>lP 0 0 (bv (⟨8,0,0,⟨#[]⟩,sB d,1,1⟩:PTm)) a (fun _ a=>aE (lL a [.c,.v (qP j 1)] (lP 0 1 ([iV 1]) a (fun _ a=>aE (lL a [.o (a8 ⟨(⟨8,0,0,⟨#[]⟩,sB d,1,1⟩:PTm).op,1,(⟨8,0,0,⟨#[]⟩,sB d,1,1⟩:PTm).q,(⟨8,0,0,⟨#[]⟩,sB d,1,1⟩:PTm).s,(⟨8,0,0,⟨#[]⟩,sB d,1,1⟩:PTm).A,(⟨8,0,0,⟨#[]⟩,sB d,1,1⟩:PTm).m,(⟨8,0,0,⟨#[]⟩,sB d,1,1⟩:PTm).c⟩) 0 0 9] (aq 11 a (pJ 1 0 ⟨#[]⟩ (sB d) 1 b ⟨0,Nat.one_pos,e⟩ kD _ _ a.g a.f.1) (fun _ _ a=>lP 1 0 (bv b) a (fun _ a=>af a [(1,0,9)] (a8 b) rfl)))))))))
theorem Cr (s:ByteArray)(b:Z9)(d:Nat)(w:World)(h:Hp)(g:G w h):CV 43 #[.agg #[iV 2,iV 0,.bool false,uV 0,eS,uV 0,eS,.string s,.slice b 0 d],.string s] w h (.tuple #[.agg #[iV 2,iV 0,.bool false,uV 0,eS,uV 0,eS,.string s,.slice b 0 d],a8 (⟨1,0,((1:Int):Rat),⟨#[]⟩,none,0,0⟩:PTm)]):=by
 have a:=sS g;refine go Tryz.func43 [(0,.agg #[iV 2,iV 0,qF,uV 0,eS,uV 0,eS,.string s,qS b 0 d]),(1,.string s)] rfl (aG (lA 2 33 ([iV 2,iV 0,qF,uV 0,eS,uV 0,eS,.string s,qS b 0 d]) a (fun e w2 i a=>lA 4 33 a2 a (fun f k l a=>lA 5 33 a2 a (fun j p u a=>ai (aa a [.v (qP e 8),.o (qS b 0 d) 2 8 1,.v (iV 0),.v qT] (aj (cQ (aa a [.v (pB e),.o (iV 2) 2 0 1,.v qT,.c,.v (qP e 7),.o (.string s) 2 7 1,.c] (lV 23 qT ?_ (hr:=rb kR (G8 s))))))))))));refine lL a [.v qT] (aj (cQ (cR 2 [] mixed a aw ?_)));exact eO 0 25 [(2,0,9)] (.agg #[iV 2,iV 0,qF,uV 0,eS,uV 0,eS,.string s,qS b 0 d]) a (aK 1 26 a (fun _ _ a=>rr 1 kD kD _ _ a.g) (fun _ _ a=>cG a (fun _ _ a=>tP 2 1 0 ([iV 2,iV 0,qF,uV 0,eS,uV 0,eS,.string s,qS b 0 d]) a (fun _ a=>tP 3 0 0 (bv (⟨1,0,((1:Int):Rat),⟨#[]⟩,none,0,0⟩:PTm)) a (fun _ a=>tN (kX (a.ret [(1,0,9),(0,0,9)] (.tuple #[.agg #[iV 2,iV 0,qF,uV 0,eS,uV 0,eS,.string s,qS b 0 d],a8 (⟨1,0,((1:Int):Rat),⟨#[]⟩,none,0,0⟩:PTm)]) rfl)))))))
theorem GD:LQ 100000000 (0:Rat):=FG kD
theorem HV:LQ 100000000 (((1:Int)):Rat):=(LQ.int kD kD).mono kD
theorem Ih:LQ 100000000 (((2:Int)):Rat):=(LQ.int kD kD).mono kD
theorem BV (s:ByteArray)(k:Z9)(p:Nat)(A:Z9)(c:Nat)(w:World)(h:Hp)(g:G w h)(z:SlO 9 bv a7 h A ([(⟨2,0,0,s,k,0,p⟩:PTm)]:List PTm)):CR 43 #[.agg #[iV 8,iV 2,.bool false,uV 0,eS,uV 0,eS,eS,.slice A 1 c],.string s] w h (fun v h1=>∃ y b,v=.tuple #[a8 ⟨8,2,0,⟨#[]⟩,sB y,1,1⟩,a8 ⟨5,0,0,⟨#[]⟩,sB b,2,2⟩]/\SlO 9 bv a7 h1 (sB b) [(⟨1,0,((2:Int):Rat),⟨#[]⟩,none,0,0⟩:PTm),(⟨2,0,0,s,k,0,p⟩:PTm)]):=by
 have a:=((sS g).aS z);have F:([(⟨2,0,0,s,k,0,p⟩:PTm)]:List PTm).length=1:=rfl;refine go Tryz.func43 [(0,.agg #[iV 8,iV 2,qF,uV 0,eS,uV 0,eS,eS,qS A 1 c]),(1,.string s)] rfl (aG (lA 2 33 ([iV 8,iV 2,qF,uV 0,eS,uV 0,eS,eS,qS A 1 c]) a (fun u w2 O a=>lA 4 33 a2 a (fun B M L a=>lA 5 33 a2 a (fun I K Q a=>ai (aa a [.v (qP u 8),.o (qS A 1 c) 2 8 1,.v (iV 1),.v qF] (ah (cK (aa a [.v (qP u 8),.o (qS A 1 c) 2 8 1] (lX 32 A 1 c 9 0 0 ((a.f.1).ok oM) ?_))))))))));refine lH 33 (a8 (([(⟨2,0,0,s,k,0,p⟩:PTm)]:List PTm).getD 0 a7)) a ((a.f.1).el 0 oM) (lL a ac (aq 35 a (Cr s k p _ _ a.g) (fun _ _ a=>lL a [.c,.v (.agg #[iV 2,iV 0,qF,uV 0,eS,uV 0,eS,.string s,qS k 0 p]),.v (a8 (⟨1,0,((1:Int):Rat),⟨#[]⟩,none,0,0⟩:PTm))] (lA 6 33 a2 a (fun C _ _ a=>lA 7 33 a2 a (fun D _ _ a=>lP 1 0 ([iV 2,iV 0,qF,uV 0,eS,uV 0,eS,.string s,qS k 0 p]) a (fun _ a=>lP 0 0 (bv (⟨1,0,((1:Int):Rat),⟨#[]⟩,none,0,0⟩:PTm)) a (fun _ a=>aE (lL a [.o (.agg #[iV 2,iV 0,qF,uV 0,eS,uV 0,eS,.string s,qS k 0 p]) 1 0 9] (lR 39 33 1 ([iV 2,iV 0,qF,uV 0,eS,uV 0,eS,.string s,qS k 0 p]) a (fun e _ _ a=>?_)))))))))));replace a:=a.aS (SlO.of_flat (sz:=9) (f:=bv) (d:=a7) (b:=e) (o:=0) (l:=([(⟨2,0,0,s,k,0,p⟩:PTm)]:List PTm)) (fun _=>rfl) a.f.1);refine lL a ac (aE (lL a [.v (.agg #[iV 0,iV 0,qF,uV 0,eS,uV 0,eS,eS,sZ]),.v (.agg #[iV 0,iV 0,qF,uV 0,eS,uV 0,eS,eS,sZ])] (lA 9 33 a2 a (fun J _ _ a=>lA 10 33 a2 a (fun H _ _ a=>lP 1 0 a2 a (fun _ a=>lP 0 0 a2 a (fun _ a=>ai (aa a [.v (qP u 8),.o (qS A 1 c) 6 8 1,.v (iV 1),.v qF] (ah (cK (aa a [.v (pB u),.o (iV 8) 6 0 1,.v (qP u 1),.o (iV 2) 6 1 1,.c,.v (.agg #[iV 8,iV 2,qF,uV 0,eS,uV 0,eS,eS,qS (sB e) 1 1])] (aq 65 a (pJ 2 0 ⟨#[]⟩ (sB e) 1 (⟨2,0,0,s,k,0,p⟩:PTm) ⟨0,Nat.one_pos,by show ¬(2:Int)=1;decide⟩ kD _ _ a.g a.f.1) (fun _ _ a=>lP 5 0 (bv (⟨8,2,0,⟨#[]⟩,sB e,1,1⟩:PTm)) a (fun _ a=>ai (aa a [.v (pB u),.o (iV 8) 6 0 1] (bE (cQ (aa a [.v qF,.c] (lN (bG [(2,pB u),(4,pB B),(5,pB I),(6,pB C),(7,pB D),(9,pB J),(10,pB H),(67,iV 8),(68,qF)] ?_))))))))))))))))))));refine da (kQ (lL a [.v qF,.c] (ah (aa a [.v qF,.c] (ah (aa a [.v qF,.c] (ah (aa a [.v qF,.c] (ah (aa a [.v qT,.c] (aj (aG (aq 103 a (rr 0 kD kD _ _ a.g) (fun _ _ a=>lP 4 0 (bv (⟨1,0,((0:Int):Rat),⟨#[]⟩,none,0,0⟩:PTm)) a (fun _ a=>aE (lL a [.v (qP u 1),.o (iV 2) 6 1 1,.v qT] (aj (cR 11 [] mixed a aw ?_))))))))))))))))));refine eV 0 107 (qP u 1) (eO 1 108 [(6,1,1)] (iV 2) a (eO 3 110 [(3,0,9)] (.agg #[iV 2,iV 0,qF,uV 0,eS,uV 0,eS,.string s,qS k 0 p]) a (eV 4 111 (qP u 1) (eO 5 112 [(6,1,1)] (iV 2) a (eV 6 113 (iV 1) (eO 9 116 [(2,0,9)] (a8 (⟨1,0,((1:Int):Rat),⟨#[]⟩,none,0,0⟩:PTm)) a (aK 2 109 a (fun _ _ a=>rr 2 kD kD _ _ a.g) (fun _ _ a=>aK 7 114 a (fun _ _ a=>BM (⟨2,0,0,s,k,0,p⟩:PTm) (by show ¬(2:Int)=1;decide) _ _ a.g) (fun _ _ a=>eC 8 115 a (fun _ _ a=>G5 (⟨1,0,((2:Int):Rat),⟨#[]⟩,none,0,0⟩:PTm) (⟨2,0,0,s,k,0,p⟩:PTm) ⟨1,Nat.one_lt_two,by show ¬(2:Int)=1;decide⟩ false Ih GD ⟨fun _=>by decide +kernel,fun i=>absurd rfl i⟩ ⟨fun i=>absurd i (by show ¬(2:Int)=1;decide),fun _=>rfl⟩ ⟨fun _=>by decide +kernel,fun i=>absurd rfl i⟩ ⟨fun i=>absurd i (by show ¬(2:Int)=1;decide),fun _=>rfl⟩ _ _ a.g) ?_)))))))));rintro _ _ _ _ _ a ⟨j,rfl,x⟩;replace a:=a.aS x;refine eC 10 117 a (fun _ _ a=>G5 (⟨5,0,0,⟨#[]⟩,sB j,2,2⟩:PTm) (⟨1,0,((1:Int):Rat),⟨#[]⟩,none,0,0⟩:PTm) ⟨0,Nat.zero_lt_two,by show ¬(5:Int)=1;decide⟩ true GD HV ⟨fun i=>absurd i (by show ¬(5:Int)=1;decide),fun _=>rfl⟩ ⟨fun _=>by decide +kernel,fun i=>absurd rfl i⟩ ⟨fun i=>absurd i (by show ¬(5:Int)=1;decide),fun _=>rfl⟩ ⟨fun _=>by decide +kernel,fun i=>absurd rfl i⟩ _ _ a.g) ?_;rintro _ _ _ _ _ a ⟨_,rfl,-⟩;refine cG a (fun _ _ a=>tP 11 4 0 (bv (⟨5,0,0,⟨#[]⟩,sB j,2,2⟩:PTm)) a (fun _ a=>tN (cQ (Ay ⟨[],none⟩ 0 mixed ?_))));replace a:=a.drew;refine Iz 0 182 [(5,0,9)] (a8 (⟨8,2,0,⟨#[]⟩,sB e,1,1⟩:PTm)) 1 183 [(4,0,9)] (a8 (⟨5,0,0,⟨#[]⟩,sB j,2,2⟩:PTm)) a ?_ ?_
 .
  refine IW 1 183 [(4,0,9)] (a8 (⟨5,0,0,⟨#[]⟩,sB j,2,2⟩:PTm)) 2 5 0 (bv (⟨8,2,0,⟨#[]⟩,sB e,1,1⟩:PTm)) a ?_ (fun _ a=>?_)
  .
   exact tP 2 5 0 (bv (⟨8,2,0,⟨#[]⟩,sB e,1,1⟩:PTm)) a (fun _ a=>tP 3 4 0 (bv (⟨5,0,0,⟨#[]⟩,sB j,2,2⟩:PTm)) a (fun _ a=>tN (kX (a.ret [(5,0,9),(4,0,9)] (.tuple #[a8 (⟨8,2,0,⟨#[]⟩,sB e,1,1⟩:PTm),a8 (⟨5,0,0,⟨#[]⟩,sB j,2,2⟩:PTm)]) (⟨e,j,rfl,a.f.1⟩)))))
  exact tO 1 183 [(4,0,9)] (a8 (⟨5,0,0,⟨#[]⟩,sB j,2,2⟩:PTm)) a (tP 3 4 0 (bv (⟨5,0,0,⟨#[]⟩,sB j,2,2⟩:PTm)) a (fun _ a=>tN (kX (a.ret [(5,0,9),(4,0,9)] (.tuple #[a8 (⟨8,2,0,⟨#[]⟩,sB e,1,1⟩:PTm),a8 (⟨5,0,0,⟨#[]⟩,sB j,2,2⟩:PTm)]) (⟨e,j,rfl,a.f.1⟩)))))
 exact tO 0 182 [(5,0,9)] (a8 (⟨8,2,0,⟨#[]⟩,sB e,1,1⟩:PTm)) a (tP 2 5 0 (bv (⟨8,2,0,⟨#[]⟩,sB e,1,1⟩:PTm)) a (fun _ a=>tP 3 4 0 (bv (⟨5,0,0,⟨#[]⟩,sB j,2,2⟩:PTm)) a (fun _ a=>tN (kX (a.ret [(5,0,9),(4,0,9)] (.tuple #[a8 (⟨8,2,0,⟨#[]⟩,sB e,1,1⟩:PTm),a8 (⟨5,0,0,⟨#[]⟩,sB j,2,2⟩:PTm)]) (⟨e,j,rfl,a.f.1⟩))))))
theorem xl  (ok:ByteArray->Prop)(d:Nat)(V:∀ (p:PTm) (t:Tm) (w:World) (h:Hp),G w h->TmH d h p t->WfT ok d t ->  Calls Tryz.prog 44 #[a8 p] w (Ret w h (fun v h1=>∃ B,v=a8 B/\TmH d h1 B t)))(op n:Int)(q:Rat)(s:ByteArray)(A:Z9)(c:Nat)(ps:List PTm)(ks:List Tm)(hc:ps.length<=c)(hlp:ps.length<=2)(O:fH op=(ks.length:Nat))(hq0:op≠1->q=0)(hq:LQ 3000 q)(X:op=2->ok s)(Y:op≠2->s=⟨#[]⟩)(hn0:op≠8->n=0)(hn1 : -12<=n)(hn2:n<=12)(hW:∀ i,i<ks.length->WfT ok d (ks.getD i cc))(w:World)(h:Hp)(g:G w h)(Z:SlO 9 bv a7 h A ps)(I:Tms d h ps ks):CR 44 #[a8 ⟨op,n,q,s,A,ps.length,c⟩] w h (fun v h1=>∃ B,v=a8 B/\TmH (d+1) h1 B (.mk op n q s ks)):=by
 have a:=(((sS g).aS Z).add (K:=fun e=>Tms d e ps ks) I);have hln:=(a.f.1).len;refine go Tryz.func44 [(0,a8 ⟨op,n,q,s,A,ps.length,c⟩)] rfl (aG (lA 1 33 (bv ⟨op,n,q,s,A,ps.length,c⟩) a (fun j w2 h3 a=>lA 2 33 a2 a (fun y w5 h6 a=>ai (aa a [.v (qP j 8),.o (qS A ps.length c) 1 8 1,.v (nV ps.length)] ?_)))));cases u:((ps.length:Int) == (0:Int))
 .
  have C:=ao u;refine lB 9 u (ah (cK (aa a [.v (qP j 8),.o (qS A ps.length c) 1 8 1,.v (nV ps.length)] (lK 15 33 ps.length 9 112 (.agg #[iV 0,iV 0,qF,uV 0,eS,uV 0,eS,eS,sZ]) bv a7 a (fun b8 w9 zd a=>?_)))));have Q:(ta ps.length a7).length=ps.length:=by simp
  refine lL a ac (ai (aa a [.v (qP j 8),.o (qS A ps.length c) 2 8 1,.v (nV ps.length),.c] (bE ?_)));replace a:=a.add (K:=fun e=>TmsU d e 0 (ta ps.length a7) ks) ((fun i hi=>absurd hi (Kk i)));refine bG _ (CG.loop (fun H Γ w_=>∃ (k:Nat)(L:List PTm)(e:Hp),H=ps.length-k/\Γ=[(1,pB j),(2,pB y),(3,qS (sB b8) ps.length ps.length),(17,qS A ps.length c),(18,nV ps.length),(19,nV k)]/\SS w h w_ e [⟨b8,33,(L).flatMap bv⟩,⟨y,33,[iV 0,iV 0,qF,uV 0,eS,uV 0,eS,eS,sZ]⟩,⟨j,33,bv ⟨op,n,q,s,A,ps.length,c⟩⟩] [] [fun e=>TmsU d e k L ks,fun e=>Tms d e ps ks,fun e=>SlO 9 bv a7 e A ps]/\k<=ps.length/\L.length=ps.length) _ ⟨0,ta ps.length a7,zd,rfl,rfl,a.to _ _,JH _,(by simp)⟩ ?_);rintro _ _ _ ⟨k,L,_,U,rfl,a,hk,D⟩;refine aG ?_;cases F:(decide ((k:Int)<(ps.length:Int)))
  .
   have zb:=oF F;refine lB 20 F (ai (da (CG.exit ?_)))
   show CG _ _ _ _ _ _ _ _
   refine aa a [.c,.v (qP j 8)] (lP 2 8 ([qS (sB b8) ps.length ps.length]) a (fun _ a=>aE ?_));have hkn:k=ps.length:=by omega
   obtain ⟨_,a,z,M,S⟩:=a.pub 0;replace a:=(a.to [⟨y,33,[iV 0,iV 0,qF,uV 0,eS,uV 0,eS,eS,sZ]⟩,⟨j,33,bv ⟨op,n,q,s,sB b8,ps.length,ps.length⟩⟩] []).aS (SlO.of_flat (sz:=9) (f:=bv) (d:=a7) (b:=b8) (o:=0) (l:=L) (fun _=>rfl) z);replace a:=a.to [⟨y,33,[iV 0,iV 0,qF,uV 0,eS,uV 0,eS,eS,sZ]⟩,⟨j,33,bv ⟨op,n,q,s,sB b8,ps.length,ps.length⟩⟩] [];exact lL a [.o (a8 ⟨op,n,q,s,sB b8,ps.length,ps.length⟩) 1 0 9] (lP 0 0 (bv ⟨op,n,q,s,sB b8,ps.length,ps.length⟩) a (fun _ a=>af a [(0,0,9)] (a8 ⟨op,n,q,s,sB b8,ps.length,ps.length⟩) (⟨⟨op,n,q,s,sB b8,ps.length,ps.length⟩,rfl,by have e:=TmH.mk (op:=op) (n:=n) (q:=q) (s:=s) (c:=L.length) (Tms.of_u oM oM a.f.2.1) (nR _) (a.f.1);rw[D] at e;exact e⟩)))
  have zb:=oT F;refine lB 20 F (ai (ci (cK (cQ (kZ (aa a ac (lX 22 A ps.length c 9 (k:Nat) k ((a.f.r.1).ok oM) ?_)))))));refine lH 23 (a8 (ps.getD k a7)) a ((a.f.r.1).el k oM) (lA 5 33 a2 a (fun ze _ _ a=>lL a ac (lP 0 0 (bv (ps.getD k a7)) a (fun _ a=>lN (kQ (lL a [.c,.c,.o (a8 (ps.getD k a7)) 0 0 9] (lC 27 a (V (ps.getD k a7) (ks.getD k cc) _ _ a.g ((a.f.2.1).at_ k oM) (hW k oM)) ?_)))))));rintro _ _ zf a ⟨x,rfl,J⟩;replace a:=(a.add (K:=fun e=>TmH d e x (ks.getD k cc)) J);refine lX 28 (sB b8) ps.length ps.length 9 (k:Nat) k rfl (lW 1 L bv 9 k x a oM (fun _ a=>?_));have zc:((L).set k x).length=ps.length:=by rw[List.length_set];exact D
  replace a:=a.to [⟨ze,33,bv (ps.getD k a7)⟩,⟨b8,33,((L).set k x).flatMap bv⟩,⟨y,33,[iV 0,iV 0,qF,uV 0,eS,uV 0,eS,eS,sZ]⟩,⟨j,33,bv ⟨op,n,q,s,A,ps.length,c⟩⟩] [];refine lN (kQ (bg 29 ((k:Nat)+1) (k+1) ?_));refine lL a ac (lD ?_);intro a_ W;replace a:=(a.tl.tl.add (K:=fun e=>TmsU d e (k+1) ((L).set k x) ks) ((a.f.2.1).set oM a.f.1));replace a:=a.drop 1 0;refine ⟨_,_,?_,⟨k+1,(L).set k x,zf,rfl,rfl,a.to _ _,oM,zc⟩,W.to _ kR⟩
  omega
 have C:=eq_of_beq u;exact lB 9 u (aj (aa a [.v (qP j 8)] (lP 1 8 ([sZ]) a (fun _ a=>aE (lL a [.o (a8 ⟨op,n,q,s,none,0,0⟩) 1 0 9] (lP 0 0 (bv ⟨op,n,q,s,none,0,0⟩) a (fun _ a=>af a [(0,0,9)] (a8 ⟨op,n,q,s,none,0,0⟩) (⟨⟨op,n,q,s,none,0,0⟩,rfl,by have e:ks=[]:=List.length_eq_zero_iff.1 oM;subst e;exact TmH.mk (ps:=[]) Tms.nil (nR _) SlO.nil⟩))))))))
theorem sF (ok:ByteArray->Prop):∀ (d:Nat) (p:PTm) (t:Tm) (w:World) (h:Hp),G w h->TmH d h p t->WfT ok d t ->  Calls Tryz.prog 44 #[a8 p] w (Ret w h (fun v h1=>∃ e,v=a8 e/\TmH d h1 e t))
  | 0,_,_,_,_,_,x,_=>x.elim
  | d + 1,p,t,w,h,g,x,wf=>by
    obtain ⟨op,n,q,s,A,c,ps,ks,rfl,rfl,f,j,a⟩:=x.open;obtain ⟨w1,w2,w3,u,o,k,y,i,l⟩:=wf
    have b:ps.length<=2:=by
      have z:fH op=ks.length:=w1;have:=aT op;have:=a.len
      omega
    exact xl ok d (fun p t w h=>sF ok d p t w h) op n q s A c ps ks f b w1 w2 w3 u o k y i l w h g j a
section
variable {ok:ByteArray->Prop}{d:Nat}
theorem wZ {q:Rat}(h:LQ 1 q):WfT ok (d+1) (dl q):=⟨rfl,fun h=>absurd rfl h,h.mono kD,fun h=>absurd (show (1:Int)=2 from h) kD,fun _=>rfl,fun _=>rfl,by show (-12:Int)<=0;decide,by show (0:Int)<=12;decide,fun i hi=>absurd hi (Kk i)⟩
theorem nL {s:ByteArray}(h:ok s):WfT ok (d+1) (dC s):=⟨rfl,fun _=>rfl,FG kD,fun _=>h,fun h=>absurd rfl h,fun _=>rfl,by show (-12:Int)<=0;decide,by show (0:Int)<=12;decide,fun i hi=>absurd hi (Kk i)⟩
theorem Ak {n:Int}{t:Tm}(x:WfT ok d t)(h1 : -12<=n)(a:n<=12):WfT ok (d+1) (.mk 8 n 0 ⟨#[]⟩ [t]):=⟨rfl,fun _=>rfl,FG kD,fun h=>absurd (show (8:Int)=2 from h) kD,fun _=>rfl,fun h=>absurd rfl h,h1,a,fun i hi=>by
 have:i=0:=by have:i<1:=hi;omega
 subst this;exact x⟩
theorem qm {op:Int}{t u:Tm}(x:WfT ok d t)(y:WfT ok d u)(ha:fH op=2)(a:op≠2):WfT ok (d+1) (bz op t u):=⟨ha,fun _=>rfl,FG kD,fun h=>absurd (show op=2 from h) a,fun _=>rfl,fun _=>rfl,by show (-12:Int)<=0;decide,by show (0:Int)<=12;decide,fun i hi=>by
 have:i=0\/i=1:=by have:i<2:=hi;omega
 rcases this with rfl|rfl
 ·exact x
 ·exact y⟩
end
theorem Da {s:ByteArray}(h:cD s=true):WfT (fun s=>cD s=true) 2 (.mk 8 2 0 ⟨#[]⟩ [dC s]):=Ak (nL h) kD kD
theorem xN {s:ByteArray}(h:cD s=true):WfT (fun s=>cD s=true) 2 (bz 5 (dl ((2:Int):Rat)) (dC s)):=qm (wZ (LQ.int kD kD)) (nL h) kD kD
theorem Hb {s:ByteArray}:ek 2 (.mk 8 2 0 ⟨#[]⟩ [dC s])=2:=rfl
theorem CU {s:ByteArray}:ek 2 (bz 5 (dl ((2:Int):Rat)) (dC s))=2:=rfl
theorem HI {h:Hp}{b:Nat}{s:ByteArray}{a:Z9}{c:Nat}(d:SlO 9 bv a7 h (some ⟨b,0,none⟩) [(⟨1,0,((2:Int):Rat),⟨#[]⟩,none,0,0⟩:PTm),(⟨2,0,0,s,a,0,c⟩:PTm)]):TmH 2 h (⟨5,0,0,⟨#[]⟩,some ⟨b,0,none⟩,2,2⟩:PTm) (bz 5 (dl ((2:Int):Rat)) (dC s)) :=
 TmH.mk (ps:=[(⟨1,0,((2:Int):Rat),⟨#[]⟩,none,0,0⟩:PTm),(⟨2,0,0,s,a,0,c⟩:PTm)]) (ks:=[_,_]) ⟨rfl,fun i hi=>by
  have:i=0\/i=1:=by have:i<2:=hi;omega
  rcases this with rfl|rfl
  ·exact TmH.mk (ps:=[]) (ks:=[]) Tms.nil (eb _) SlO.nil
  ·exact ⟨rfl,rfl,rfl,rfl,rfl,JH _,[],rfl,⟨fun e=>absurd e (Nat.lt_irrefl 0),fun i hi=>absurd hi (Kk i)⟩,fun i hi=>absurd hi (Kk i)⟩⟩ (eb _) d
theorem xb {h:Hp}{p:PTm}{s:ByteArray}(x:TmH 2 h p (.mk 8 2 0 ⟨#[]⟩ [dC s])):∃ (A:Z9)(c:Nat)(Ax:Z9)(cx:Nat),p=⟨8,2,0,⟨#[]⟩,A,1,c⟩/\SlO 9 bv a7 h A [(⟨2,0,0,s,Ax,0,cx⟩:PTm)]:=by
  obtain ⟨h1,B,M,I,L,Q,ps,l,a,O⟩:=x;obtain ⟨op,n,q,K,A,m,c⟩:=p;have k:=O 0 (by show 0<1;decide)
  match ps,l,a,k with
  | [px],_,a,k =>
    obtain ⟨C,k2,F,H,o,_⟩:=k;obtain ⟨e,z,u,D,y,J,c'⟩:=px;refine ⟨A,c,y,c',?_,?_⟩
    . have b:op=8:=h1
      have j:n=2:=B;have d:q=0:=M;have i:K=⟨#[]⟩:=I;have f:m=1:=L;rw[b,j,d,i,f]
    . have b:e=2:=C
      have j:z=0:=k2;have d:u=0:=F;have i:D=s:=H;have f:J=0:=o;rw[b,j,d,i,f] at a;exact a
theorem Fs (s:ByteArray)(d:cD s=true)(u:Z9)(x:Nat)(A:Z9)(c:Nat)(w:World)(h:Hp)(g:G w h)(z:SlO 9 bv a7 h A ([(⟨2,0,0,s,u,0,x⟩:PTm)]:List PTm))(y:TmH 2 h ⟨8,2,0,⟨#[]⟩,A,1,c⟩ (.mk 8 2 0 ⟨#[]⟩ [dC s])):CR 21 #[.agg #[iV 8,iV 2,.bool false,uV 0,eS,uV 0,eS,eS,.slice A 1 c],.string s] w h (fun v h1=>∃ e,v=.tuple #[a8 e,iV 0]/\TmH 2 h1 e (bz 5 (dl ((2:Int):Rat)) (dC s))):=by
 have a:=(((sS g).aS z).add (K:=fun b=>TmH 2 b ⟨8,2,0,⟨#[]⟩,A,1,c⟩ (.mk 8 2 0 ⟨#[]⟩ [dC s])) y);refine go Tryz.func21 [(0,.agg #[iV 8,iV 2,qF,uV 0,eS,uV 0,eS,eS,qS A 1 c]),(1,.string s)] rfl (aG (lA 2 33 ([iV 8,iV 2,qF,uV 0,eS,uV 0,eS,eS,qS A 1 c]) a (fun D w2 M a=>lA 4 33 a2 a (fun F J H a=>lL a ac (ai (aa a [.o (.agg #[iV 8,iV 2,qF,uV 0,eS,uV 0,eS,eS,qS A 1 c]) 1 0 9] (aq 10 a ((by have j:=wL cD fN BP (fun s b=>qf b) EB 2 ⟨8,2,0,⟨#[]⟩,A,1,c⟩ (.mk 8 2 0 ⟨#[]⟩ [dC s]) oM _ _ a.g a.f.1 (Da d);rw[if_neg (by rw[Hb];omega)] at j;exact j)) (fun O L a=>lL a [.v qF] (ah (cK (aa a [.o (.agg #[iV 8,iV 2,qF,uV 0,eS,uV 0,eS,eS,qS A 1 c]) 1 0 9,.c] (lC 16 a (BV s u x A c _ _ a.g a.f.2.1) ?_))))))))))));rintro _ I _ a ⟨p,i,rfl,l⟩;replace a:=a.aS l;refine lL a [.c,.v (a8 (⟨8,2,0,⟨#[]⟩,sB p,1,1⟩:PTm)),.v (a8 (⟨5,0,0,⟨#[]⟩,sB i,2,2⟩:PTm))] (lA 6 33 a2 a (fun C _ _ a=>lA 7 33 a2 a (fun B _ _ a=>lP 1 0 (bv (⟨8,2,0,⟨#[]⟩,sB p,1,1⟩:PTm)) a (fun _ a=>lP 0 0 (bv (⟨5,0,0,⟨#[]⟩,sB i,2,2⟩:PTm)) a (fun _ a=>ai ?_)))));replace a:=a.add (K:=fun b=>TmH 2 b (⟨5,0,0,⟨#[]⟩,sB i,2,2⟩:PTm) (bz 5 (dl ((2:Int):Rat)) (dC s))) (HI a.f.1);refine aa a [.o (a8 (⟨5,0,0,⟨#[]⟩,sB i,2,2⟩:PTm)) 0 0 9] (aq 20 a ((by have j:=wL cD fN BP (fun s b=>qf b) EB 2 (⟨5,0,0,⟨#[]⟩,sB i,2,2⟩:PTm) (bz 5 (dl ((2:Int):Rat)) (dC s)) oM _ _ a.g a.f.1 (xN d);rw[if_neg (by rw[CU];omega)] at j;exact j)) (fun _ _ a=>lL a ac (aE (lL a [.c,.v qF] (ah (cK (aa a [.o (a8 (⟨5,0,0,⟨#[]⟩,sB i,2,2⟩:PTm)) 0 0 9] (lC 26 a (sF (fun s=>cD s=true) 2 (⟨5,0,0,⟨#[]⟩,sB i,2,2⟩:PTm) (bz 5 (dl ((2:Int):Rat)) (dC s)) _ _ a.g a.f.1 (xN d)) ?_))))))));rintro _ _ _ a ⟨e,rfl,k⟩;replace a:=(a.add (K:=fun b=>TmH 2 b e (bz 5 (dl ((2:Int):Rat)) (dC s))) k);exact lP 2 0 (bv e) a (fun _ a=>lL a ac (af a [(2,0,9)] (.tuple #[a8 e,iV 0]) (⟨e,rfl,a.f.1⟩)))
theorem DK (s:ByteArray)(a:cD s=true)(p:PTm)(w:World)(h:Hp)(g:G w h)(b:TmH 2 h p (.mk 8 2 0 ⟨#[]⟩ [dC s])):CR 21 #[a8 p,.string s] w h (fun v h1=>∃ d,v=.tuple #[a8 d,iV 0]/\TmH 2 h1 d (bz 5 (dl ((2:Int):Rat)) (dC s))):=by
 obtain ⟨A,c,f,i,rfl,e⟩:=xb b;exact Fs s a f i A c w h g e b
theorem th (s:ByteArray)(c:s.size<=65536)(t:Tm)(b:Nat)(f:ja s=.ok t b)(d:Nat)(F:d<=24)(j:WfT (fun s=>cD s=true) d t)(h1:eK s.size t<=24)(I:ek 24 t<=1000)(w:World)(h:Hp)(g:G w h)(C:Tab h):CR 5 #[.string s] w h (fun v h1=>∃ p,v=.tuple #[a8 p,.agg #[iV 0,iV 0,iV 0]]/\TmH d h1 p t) :=
 (nz s c w h g C).mono fun e w' ⟨v,B,o,u,p,J,l,a,D,x,y⟩=>⟨v,B,o,u,by
  have k:FaP s 0 0 0:=FaP.ok f (.inr ⟨h1,.inl ⟨j.mono F,by rw[if_neg oM]⟩⟩) (.inl ⟨rfl,rfl,rfl⟩);obtain ⟨rfl,rfl,rfl⟩:=x.uniq k;obtain ⟨H,K,i,k2,_⟩:=y.1 rfl;have z:t=H:=by rw[f] at i;injection i
  subst z;exact ⟨p,D,k2.cut j⟩⟩
def ki:Tm:=(bz 5 (dC ⟨#[97]⟩) (.mk 8 2 0 ⟨#[]⟩ [bz 3 (dC ⟨#[98]⟩) (dl (((1:Nat):Rat)))]))
theorem FS:ja ⟨#[97,42,40,98,43,49,41,94,50]⟩=.ok ki 9:=by kernel_rfl
theorem FN:ja ⟨#[120,94,50]⟩=.ok (.mk 8 2 0 ⟨#[]⟩ [dC ⟨#[120]⟩]) 3:=by kernel_rfl
theorem DT:cD ⟨#[120]⟩=true:=by decide +kernel
theorem CW:WfT (fun s=>cD s=true) 4 ki:=qm (nL (by decide +kernel)) (Ak (qm (nL (by decide +kernel)) (wZ (LQ.int (z:=1) kD kD)) kD kD) kD kD) kD kD
theorem F4:ek 4 ki=5:=rfl
theorem Do:gC 4 ki 0=[97,32,42,32,40,98,32,43,32,49,41,94,50]:=by decide +kernel
theorem C6:gC 2 (bz 5 (dl ((2:Int):Rat)) (dC ⟨#[120]⟩)) 0=[50,32,42,32,120]:=by decide +kernel
section
variable {d:Nat}
theorem xB {k:Nat}(h:k<100):sx (d+1) (dl ((k:Nat):Rat)):=⟨rfl,⟨by decide,by decide⟩,fun _=>⟨k,h,rfl⟩,⟨by decide,by decide⟩,fun i hi=>absurd hi (Kk i)⟩
theorem qo {s:ByteArray}:sx (d+1) (dC s):=⟨rfl,⟨by decide,by decide⟩,fun h=>absurd h kD,⟨by decide,by decide⟩,fun i hi=>absurd hi (Kk i)⟩
theorem EN {n:Int}{t:Tm}(h:0<=n/\n<100)(x:sx d t):sx (d+1) (.mk 8 n 0 ⟨#[]⟩ [t]):=⟨rfl,⟨by decide,by decide⟩,fun h=>absurd h kD,h,fun i hi=>by
 have:i=0:=by have:i<1:=hi;omega
 subst this;exact x⟩
theorem qy {op:Int}{t u:Tm}(a:1<op/\op<=8)(ha:fH op=2)(x:sx d t)(y:sx d u):sx (d+1) (bz op t u):=⟨ha,⟨by omega,a.2⟩,fun h=>by omega,⟨by decide,by decide⟩,fun i hi=>by
 have:i=0\/i=1:=by have:i<2:=hi;omega
 rcases this with rfl|rfl
 ·exact x
 ·exact y⟩
end
theorem Gu:sx 4 ki:=qy kD kD qo (EN kD (qy kD kD qo (xB kD)))
theorem GH:sx 2 (bz 5 (dl ((2:Int):Rat)) (dC ⟨#[120]⟩)):=qy kD kD (xB (k:=2) kD) qo
theorem oG  (w:World)(h:Hp)(g:G w h)(u:Tab h):CV 7 #[] w h (.bool true):=by
 have a:=((sS g).add (K:=fun b=>Tab b) u);refine go Tryz.func7 [] rfl (aa a ac (aE (lC 12 a (th ⟨#[97,42,40,98,43,49,41,94,50]⟩ kD ki 9 FS 4 kD CW (by decide +kernel) (by decide +kernel) _ _ a.g a.f.1) ?_)));rintro _ w1 C a ⟨j,rfl,p⟩;replace a:=(a.add (K:=fun b=>TmH 4 b j ki) p);refine lL a [.c,.v (a8 j),.v (.agg #[iV 0,iV 0,iV 0])] (lA 1 33 a2 a (fun H J F a=>lA 2 36 ([iV 0,iV 0,iV 0]) a (fun z L I a=>lP 1 0 (bv j) a (fun D a=>lP 0 0 ([iV 0,iV 0,iV 0]) a (fun _ a=>aE (lL a [.o (a8 j) 1 0 9] (aq 17 a ((by have i:=Du 4 kD j ki CW (by rw[F4];decide) Gu (by rw[Do];decide) _ _ a.g (a.f.1);rw[Do] at i;exact i)) (fun _ _ a=>lL a [.c,.v (.string (⟨#[97,32,42,32,40,98,32,43,32,49,41,94,50]⟩)),.v (iV 0),.c,.c] (aE (lC 21 a (th ⟨#[120,94,50]⟩ kD (.mk 8 2 0 ⟨#[]⟩ [dC ⟨#[120]⟩]) 3 FN 2 kD (Da DT) (by decide +kernel) (by decide +kernel) _ _ a.g a.f.2.1) ?_))))))))));rintro _ _ _ a ⟨d,rfl,l⟩;replace a:=(a.add (K:=fun b=>TmH 2 b d (.mk 8 2 0 ⟨#[]⟩ [dC ⟨#[120]⟩])) l);refine lL a [.c,.v (a8 d),.v (.agg #[iV 0,iV 0,iV 0])] (lA 5 33 a2 a (fun B _ _ a=>lA 6 36 ([iV 0,iV 0,iV 0]) a (fun x _ _ a=>lP 1 0 (bv d) a (fun _ a=>lP 0 0 ([iV 0,iV 0,iV 0]) a (fun _ a=>aE (lL a [.o (a8 d) 1 0 9] (lC 26 a (DK ⟨#[120]⟩ DT d _ _ a.g a.f.1) ?_)))))));rintro _ _ _ a ⟨e,rfl,k⟩;replace a:=(a.add (K:=fun b=>TmH 2 b e (bz 5 (dl ((2:Int):Rat)) (dC ⟨#[120]⟩))) k);refine lL a [.c,.v (a8 e),.v (iV 0)] (lA 7 33 a2 a (fun y _ _ a=>lP 0 0 (bv e) a (fun _ a=>lL a ac (aE (lL a [.o (a8 e) 0 0 9] (aq 31 a ((by have i:=Du 2 kD e (bz 5 (dl ((2:Int):Rat)) (dC ⟨#[120]⟩)) (xN DT) (by rw[CU];decide) GH (by rw[C6];decide) _ _ a.g (a.f.1);rw[C6] at i;exact i)) (fun _ _ a=>lL a [.c,.v (.string (⟨#[50,32,42,32,120]⟩)),.v (iV 0),.c,.c] (aE (lL a [.v (pB z),.o (iV 0) 3 0 1,.v qT,.c,.c,.v qT,.v qT,.c,.c,.v qT,.v qT,.c,.c,.v qT,.v qT,.c,.c,.v qT,.v qT,.c,.c,.v qT,.v qT,.c] (lN (bG [(0,qT)] ?_)))))))))));exact kX (a.ret [] qT rfl)
theorem tI  (ok:ByteArray->Prop)(d:Nat)(ih:∀ (p:PTm) (t:Tm) (w:World) (h:Hp),G w h->TmH d h p t->WfT ok d t ->  Calls Tryz.prog 29 #[a8 p] w (Ret w h (fun v h1=>∃ r,v=aY r/\RmH d h1 r t)))(op n:Int)(q:Rat)(s:ByteArray)(A:Z9)(c:Nat)(ps:List PTm)(ks:List Tm)(hc:ps.length<=c)(hlp:ps.length<=2)(bb:fH op=(ks.length:Nat))(hq0:op≠1->q=0)(hq:LQ 3000 q)(hok:op=2->ok s)(hs0:op≠2->s=⟨#[]⟩)(hn0:op≠8->n=0)(hn1 : -12<=n)(hn2:n<=12)(hW:∀ i,i<ks.length->WfT ok d (ks.getD i cc))(w:World)(h:Hp)(g:G w h)(hK:SlO 9 bv a7 h A ps)(S:Tms d h ps ks):CR 29 #[a8 ⟨op,n,q,s,A,ps.length,c⟩] w h (fun v h1=>∃ r,v=aY r/\RmH (d+1) h1 r (.mk op n q s ks)):=by
 have a:=(((sS g).aS hK).add (K:=fun y=>Tms d y ps ks) S);have hln:=(a.f.1).len;refine go Tryz.func29 [(0,a8 ⟨op,n,q,s,A,ps.length,c⟩)] rfl (aG (lA 1 33 (bv ⟨op,n,q,s,A,ps.length,c⟩) a (fun z w2 h3 a=>lA 2 47 (ax ⟨0,0,false,none,0,0,none,0,0,⟨#[]⟩,none,0,0⟩) a (fun b4 w5 h6 a=>ai ?_))));have O:=a;refine cR 11 [⟨10,3,.cells (J0 [iV 0,iV 0,qF,sZ,sZ,eS,sZ]) 47 (0,0)⟩] mixed a (dz (lu kR (fun _ _=>by kernel_rfl)) aw) (eV 0 5 (pB z) (eO 1 6 [(1,0,1)] (iV op) a (eV 2 7 (qP z 1) (eO 3 8 [(1,1,1)] (iV n) a (eV 4 9 (qP z 7) (eO 5 10 [(1,7,1)] (.string s) a (eV 6 11 (qP z 2) (eO 7 12 [(1,2,5)] (qv q) a (eC 8 13 a (fun _ _ a=>Ig q (hq.mono oM) _ _ a.g) ?_)))))))));rintro _ _ _ _ _ a ⟨C,F,B,D,rfl,V,zj,zk,zl⟩;replace a:=a.aP zk zl;refine eV 9 14 (aY ⟨op,n,au q.num,C,(lim (ab q.num)).length,F,B,(lim q.den).length,D,s,none,0,0⟩) (Gh [] O a 47 [iV 0,iV 0,qF,sZ,sZ,eS,sZ] (fun _ zo H a=>tP 11 0 0 (ax ⟨op,n,au q.num,C,(lim (ab q.num)).length,F,B,(lim q.den).length,D,s,none,0,0⟩) a (fun _ a=>tN (cQ (aa a ac (bE ?_))))));replace a:=a.nil 47 7;replace a:=a.add (K:=fun y=>Rms d y ([]) (ks.take 0)) (Rms.nil);refine bG _ (CG.loop (fun U Γ w_=>∃ (k:Nat)(j:Z9)(e:Nat)(u:List RTm)(y:Hp),U=ps.length-k/\Γ=[(1,pB z),(2,pB b4),(3,pB H),(4,nV k)]/\SS w h w_ y [⟨H,47,[iV op,iV n,.bool (au q.num),qS C ((lim (ab q.num)).length) F,qS B ((lim q.den).length) D,.string s,qS j ((u).length) e]⟩,⟨b4,47,ax ⟨0,0,false,none,0,0,none,0,0,⟨#[]⟩,none,0,0⟩⟩,⟨z,33,bv ⟨op,n,q,s,A,ps.length,c⟩⟩] [⟨47,7,j,e,(u).length,(u).flatMap ax⟩] [fun y=>Rms d y u (ks.take k),S3 B (lim q.den),S3 C (lim (ab q.num)),fun y=>Tms d y ps ks,fun y=>SlO 9 bv a7 y A ps]/\k<=ps.length) _ ⟨0,none,0,[],zo,rfl,rfl,a.to _ _,JH _⟩ ?_);rintro _ _ _ ⟨k,j,e,u,_,Y,rfl,a,hk⟩;have J:=(a.f.1).len;rw[List.length_take] at J
 refine cQ (aa a [.c,.v (qP z 8),.o (qS A ps.length c) 2 8 1,.v (nV ps.length)] ?_);cases I:(decide ((k:Int)<(ps.length:Int)))
 .
  have zf:=oF I;refine lB 19 I (ah (CG.exit ?_))
  show CG _ _ _ _ _ _ _ _
  refine aG ?_;have Q:k=ks.length:=by omega
  obtain ⟨_,a,zm⟩:=a.pubr 0 (A:=j) (c:=e) (l:=u) (f:=ax) (ty:=47) (sz:=7) bZ (fun _=>rfl);exact lL a [.o (aY ⟨op,n,au q.num,C,(lim (ab q.num)).length,F,B,(lim q.den).length,D,s,j,(u).length,e⟩) 0 0 7] (lP 1 0 (ax ⟨op,n,au q.num,C,(lim (ab q.num)).length,F,B,(lim q.den).length,D,s,j,(u).length,e⟩) a (fun _ a=>af a [(1,0,7)] (aY ⟨op,n,au q.num,C,(lim (ab q.num)).length,F,B,(lim q.den).length,D,s,j,(u).length,e⟩) (⟨⟨op,n,au q.num,C,(lim (ab q.num)).length,F,B,(lim q.den).length,D,s,j,u.length,e⟩,rfl,RmH.mk ⟨true,⟨_,_,_,_,rfl,V,zj,a.f.r.2.1,a.f.r.1⟩,fun y=>(by cases y)⟩ (by have W:=(a.f.2.1);rw[Q,List.take_length] at W;exact W) zm a.f.1⟩)))
 have zf:=oT I;refine lB 19 I (aj (cK (cQ (kZ (CG.region ⟨((Value.slice j ((u).length) e).ownBlock.toList),none⟩ 10 [] mixed kR a.g aw (a.ro_lt 0 (ty:=47) (sz:=7) (A:=j) (c:=e) (m:=(u).length) (cs:=(u).flatMap ax)) ?_)))));refine eV 0 22 (qP H 6) (eO 1 23 [(0,6,1)] (qS j ((u).length) e) a ?_ (hM:=fun p L=>by obtain rfl:=n1.1 L;exact a.ro_ne 0 0 (ty:=47) (sz:=7) (A:=j) (c:=e) (m:=(u).length) (cs:=(u).flatMap ax)));refine eV 2 24 (qP z 8) (eO 3 25 [(2,8,1)] (qS A ps.length c) a ?_ (hM:=fun p L=>by obtain rfl:=n1.1 L;exact a.ro_ne 2 0 (ty:=47) (sz:=7) (A:=j) (c:=e) (m:=(u).length) (cs:=(u).flatMap ax)));refine eV 4 26 (nV k) (eX 5 27 A ps.length c 9 (k:Nat) k ((a.f.q.1).ok oM) (eH 6 28 (a8 (ps.getD k a7)) a ((a.f.q.1).el k oM) ?_ (hM:=a.ro_jk 0 (ty:=47) (sz:=7) (A:=j) (c:=e) (m:=(u).length) (cs:=(u).flatMap ax))));refine eC 7 29 a (fun _ _ a=>ih (ps.getD k a7) (ks.getD k cc) _ _ a.g ((a.f.r.2.1).at_ k oM) (hW k oM)) ?_;rintro _ _ _ _ _ a ⟨x,rfl,M⟩;replace a:=(a.add (K:=fun y=>RmH d y x (ks.getD k cc)) M);refine eR 8 30 47 1 ([iV x.op,iV x.n,.bool x.neg,qS x.zA x.zn x.zc,qS x.dA x.dn x.dc,.string x.s,qS x.A x.m x.c]) a (fun zp _ _ a=>eY 9 31 0 47 7 e j u ax x 112 zp (aY ⟨0,0,false,none,0,0,none,0,0,⟨#[]⟩,none,0,0⟩) a (fun _ f_=>f_.1) (fun b hb=>Option.mem_toList.2 hb) (fun X Z _ _ a=>cG a (fun _ zq a=>tV 10 32 (qP H 6) (tP 11 0 6 ([qS X ((u++[x]).length) Z]) a (fun _ a=>tN (kQ (lL a ac (bg 21 ((k:Nat)+1) (k+1) ?_))))))));refine lL a ac (lD ?_);intro a_ ka;replace a:=(a.tl.tl.tl.add (K:=fun y=>Rms d y (u++[x]) (ks.take (k+1))) (by rw[q5 cc oM];exact (a.f.r.1).snoc a.f.2.1));refine ⟨_,_,?_,⟨k+1,X,Z,u++[x],zq,rfl,rfl,a.to _ _,oM⟩,ka.to _ kR⟩
 omega
theorem oK (ok:ByteArray->Prop):∀ (d:Nat) (p:PTm) (t:Tm) (w:World) (h:Hp),G w h->TmH d h p t->WfT ok d t ->  Calls Tryz.prog 29 #[a8 p] w (Ret w h (fun v h1=>∃ r,v=aY r/\RmH d h1 r t))
  | 0,_,_,_,_,_,x,_=>x.elim
  | d + 1,p,t,w,h,g,x,wf=>by
    obtain ⟨op,n,q,s,A,c,ps,ks,rfl,rfl,e,i,a⟩:=x.open;obtain ⟨w1,w2,w3,o,l,j,u,f,k⟩:=wf
    have b:ps.length<=2:=by
      have y:fH op=ks.length:=w1;have:=aT op;have:=a.len
      omega
    exact tI ok d (fun p t w h=>oK ok d p t w h) op n q s A c ps ks e b w1 w2 w3 o l j u f k w h g i a
theorem AS  (ok:ByteArray->Prop)(d:Nat)(ih:∀ (r1 r2:RTm) (t:Tm) (w:World) (h:Hp),G w h->RmH d h r1 t->RmH d h r2 t->WfT ok d t->Calls Tryz.prog 28 #[aY r1,aY r2] w (Ret w h (fun v _=>v=.bool true)))(op n:Int)(q:Rat)(s:ByteArray)(ks:List Tm)(hq:LQ 3000 q)(x:Z9)(c1 p:Nat)(u:Z9)(z:Nat)(V:(lim (ab q.num)).length<=c1)(Q:(lim p).length<=z)(y:Z9)(F:Nat)(b:List RTm)(I:Z9)(c2 B:Nat)(J:Z9)(L:Nat)(hc2:(lim (ab q.num)).length<=c2)(Y:(lim B).length<=L)(C:Z9)(M:Nat)(e:List RTm)(hz:q.num=0)(hkl:ks.length<=2)(hW:∀ i,i<ks.length->WfT ok d (ks.getD i cc))(w:World)(h:Hp)(g:G w h)(hA1:S3 x (lim (ab q.num)) h)(hD1:S3 u (lim p) h)(hK1:SlO 7 ax bZ h y b)(hR1:Rms d h b ks)(hA2:S3 I (lim (ab q.num)) h)(hD2:S3 J (lim B) h)(Z:SlO 7 ax bZ h C e)(hR2:Rms d h e ks):CV 28 #[aY ⟨op,n,au q.num,x,(lim (ab q.num)).length,c1,u,(lim p).length,z,s,y,b.length,F⟩,aY ⟨op,n,au q.num,I,(lim (ab q.num)).length,c2,J,(lim B).length,L,s,C,e.length,M⟩] w h (.bool true):=by
 have a:=(((((((((sS g).aS hA1).aS hD1).aS hK1).add (K:=fun j=>Rms d j b ks) hR1).aS hA2).aS hD2).aS Z).add (K:=fun j=>Rms d j e ks) hR2);have hl1:=(a.f.q.1).len;have hl2:=(a.f.1).len;have U:LQ 100000000 q:=hq.mono oM;have hq1:=LQ.ln U;have hq2:=LQ.ld U;refine go Tryz.func28 [(0,aY ⟨op,n,au q.num,x,(lim (ab q.num)).length,c1,u,(lim p).length,z,s,y,b.length,F⟩),(1,aY ⟨op,n,au q.num,I,(lim (ab q.num)).length,c2,J,(lim B).length,L,s,C,e.length,M⟩)] rfl (aG (lA 2 47 (ax ⟨op,n,au q.num,x,(lim (ab q.num)).length,c1,u,(lim p).length,z,s,y,b.length,F⟩) a (fun l w2 h3 a=>lA 3 47 (ax ⟨op,n,au q.num,I,(lim (ab q.num)).length,c2,J,(lim B).length,L,s,C,e.length,M⟩) a (fun D w5 h6 a=>lL a ac (ai (cQ (cR 51 [] mixed a aw ?_)))))));refine eV 0 6 (pB l) (eO 1 7 [(1,0,1)] (iV op) a (eV 2 8 (pB D) (eO 3 9 [(0,0,1)] (iV op) a ?_)));have O:((op:Int) != (op:Int))=false:=mi rfl;have bl:=ay O;refine eB 4 10 O (eV 5 11 qF (eV 6 12 (qP l 1) (eO 7 13 [(1,1,1)] (iV n) a (eV 8 14 (qP D 1) (eO 9 15 [(0,1,1)] (iV n) a ?_)))));have W:((n:Int) != (n:Int))=false:=mi rfl;have bd:=ay W;refine eB 10 16 W (eV 11 17 qF (eV 12 18 qF (eV 13 19 (qP l 5) (eO 14 20 [(1,5,1)] (.string s) a (eV 15 21 (qP D 5) (eO 16 22 [(0,5,1)] (.string s) a (eV 17 23 qF ?_ (hv:=fun _=>rb kR (uM s)))))))));refine eV 18 24 qF (eV 19 25 qF (eV 20 26 (qP l 6) (eO 21 27 [(1,6,1)] (qS y b.length F) a (eV 22 28 (nV b.length) (eV 23 29 (qP D 6) (eO 24 30 [(0,6,1)] (qS C e.length M) a (eV 25 31 (nV e.length) ?_)))))));have S:((b.length:Int) != (e.length:Int))=false:=mi oM;have bb:=ay S;refine eB 26 32 S (eV 27 33 qF (eV 28 34 qF (eV 29 35 (qP l 2) (eO 30 36 [(1,2,3)] (.agg #[.bool (au q.num),qS x ((lim (ab q.num)).length) c1,qS u ((lim p).length) z]) a (eV 32 38 (qP D 2) (eO 33 39 [(0,2,3)] (.agg #[.bool (au q.num),qS I ((lim (ab q.num)).length) c2,qS J ((lim B).length) L]) a (aK 31 37 a (fun _ _ a=>(by have H:=lU q.num x c1 p u z V Q _ _ a.g a.f.q.r.2.1 (a.f.q.r.1);rw[decide_eq_true (.inr hz)] at H;exact H)) (fun _ _ a=>aK 34 40 a (fun _ _ a=>(by have H:=lU q.num I c2 B J L hc2 Y _ _ a.g a.f.r.2.1 (a.f.r.1);rw[decide_eq_true (.inr hz)] at H;exact H)) (fun _ _ a=>eV 35 41 qF (eV 36 42 qF (eV 37 43 qF (eV 38 44 (qP l 2) (eO 39 45 [(1,2,3)] (.agg #[.bool (au q.num),qS x ((lim (ab q.num)).length) c1,qS u ((lim p).length) z]) a (aK 40 46 a (fun _ _ a=>(by have H:=lU q.num x c1 p u z V Q _ _ a.g a.f.q.r.2.1 (a.f.q.r.1);rw[decide_eq_true (.inr hz)] at H;exact H)) (fun _ _ a=>eV 41 47 qF (eV 42 48 qF (eG 43 49 (eG 44 50 (eG 45 51 (eG 46 52 (eG 47 53 (eG 48 54 (eV 49 55 qF (eV 50 56 qF (cG a (fun _ zc a=>tN (bG [(2,pB l),(3,pB D),(4,qF),(56,qF)] ?_)))))))))))))))))))))))))));refine da (cK (cQ (aa a ac (bE ?_))));refine bG _ (CG.loop (fun μ_ Γ w_=>∃ (k:Nat)(j:Hp),μ_=b.length-k/\Γ=[(2,pB l),(3,pB D),(5,nV k)]/\SS w h w_ j [⟨D,47,ax ⟨op,n,au q.num,I,(lim (ab q.num)).length,c2,J,(lim B).length,L,s,C,e.length,M⟩⟩,⟨l,47,ax ⟨op,n,au q.num,x,(lim (ab q.num)).length,c1,u,(lim p).length,z,s,y,b.length,F⟩⟩] [] [fun j=>Rms d j e ks,fun j=>SlO 7 ax bZ j C e,S3 J (lim B),S3 I (lim (ab q.num)),fun j=>Rms d j b ks,fun j=>SlO 7 ax bZ j y b,S3 u (lim p),S3 x (lim (ab q.num))]/\k<=b.length) _ ⟨0,zc,rfl,rfl,a.to _ _,JH _⟩ ?_);rintro _ _ _ ⟨k,_,bk,rfl,a,hk⟩;refine cQ (aa a [.c,.v (qP l 6),.o (qS y b.length F) 1 6 1,.v (nV b.length)] ?_);cases X:(decide ((k:Int)<(b.length:Int)))
 .
  have zb:=oF X;refine lB 61 X (ah (CG.exit ?_))
  show CG _ _ _ _ _ _ _ _
  exact aa a ac (af a [] qT rfl)
 have zb:=oT X;refine lB 61 X (aj (cK (cQ (kZ (cQ (cR 12 [] mixed a aw ?_))))));refine eV 0 64 (qP l 6) (eO 1 65 [(1,6,1)] (qS y b.length F) a (eV 2 66 (nV k) (eX 3 67 y b.length F 7 (k:Nat) k ((a.f.q.2.1).ok oM) (eH 4 68 (aY (b.getD k bZ)) a ((a.f.q.2.1).el k oM) (eV 5 69 (qP D 6) (eO 6 70 [(0,6,1)] (qS C e.length M) a (eV 7 71 (nV k) (eX 8 72 C e.length M 7 (k:Nat) k ((a.f.2.1).ok oM) (eH 9 73 (aY (e.getD k bZ)) a ((a.f.2.1).el k oM) (aK 10 74 a (fun _ _ a=>ih (b.getD k bZ) (e.getD k bZ) (ks.getD k cc) _ _ a.g ((a.f.q.1).at_ k oM) ((a.f.1).at_ k oM) (hW k oM)) (fun _ _ a=>eV 11 75 qF (cG a (fun _ zd a=>tN (da (cK (kQ (lL a ac (bg 63 ((k:Nat)+1) (k+1) ?_))))))))))))))))));refine lL a ac (lD ?_);intro a_ ka;refine ⟨_,_,?_,⟨k+1,zd,rfl,rfl,a.to _ _,oM⟩,ka.to _ kR⟩
 omega
theorem Cg  (ok:ByteArray->Prop)(d:Nat)(ih:∀ (r1 r2:RTm) (t:Tm) (w:World) (h:Hp),G w h->RmH d h r1 t->RmH d h r2 t->WfT ok d t->Calls Tryz.prog 28 #[aY r1,aY r2] w (Ret w h (fun v _=>v=.bool true)))(op n:Int)(q:Rat)(s:ByteArray)(ks:List Tm)(hq:LQ 3000 q)(u:Z9)(c1:Nat)(p:Z9)(x:Nat)(M:(lim (ab q.num)).length<=c1)(J:(lim q.den).length<=x)(C:Z9)(H:Nat)(b:List RTm)(z:Z9)(c2:Nat)(B:Z9)(F:Nat)(V:(lim (ab q.num)).length<=c2)(Q:(lim q.den).length<=F)(D:Z9)(L:Nat)(e:List RTm)(hz:¬q.num=0)(hkl:ks.length<=2)(hW:∀ i,i<ks.length->WfT ok d (ks.getD i cc))(w:World)(h:Hp)(g:G w h)(hA1:S3 u (lim (ab q.num)) h)(hD1:S3 p (lim q.den) h)(hK1:SlO 7 ax bZ h C b)(hR1:Rms d h b ks)(hA2:S3 z (lim (ab q.num)) h)(hD2:S3 B (lim q.den) h)(Z:SlO 7 ax bZ h D e)(hR2:Rms d h e ks):CV 28 #[aY ⟨op,n,au q.num,u,(lim (ab q.num)).length,c1,p,(lim q.den).length,x,s,C,b.length,H⟩,aY ⟨op,n,au q.num,z,(lim (ab q.num)).length,c2,B,(lim q.den).length,F,s,D,e.length,L⟩] w h (.bool true):=by
 have a:=(((((((((sS g).aS hA1).aS hD1).aS hK1).add (K:=fun j=>Rms d j b ks) hR1).aS hA2).aS hD2).aS Z).add (K:=fun j=>Rms d j e ks) hR2);have hl1:=(a.f.q.1).len;have hl2:=(a.f.1).len;have W:LQ 100000000 q:=hq.mono oM;have hq1:=LQ.ln W;have hq2:=LQ.ld W;refine go Tryz.func28 [(0,aY ⟨op,n,au q.num,u,(lim (ab q.num)).length,c1,p,(lim q.den).length,x,s,C,b.length,H⟩),(1,aY ⟨op,n,au q.num,z,(lim (ab q.num)).length,c2,B,(lim q.den).length,F,s,D,e.length,L⟩)] rfl (aG (lA 2 47 (ax ⟨op,n,au q.num,u,(lim (ab q.num)).length,c1,p,(lim q.den).length,x,s,C,b.length,H⟩) a (fun l w2 h3 a=>lA 3 47 (ax ⟨op,n,au q.num,z,(lim (ab q.num)).length,c2,B,(lim q.den).length,F,s,D,e.length,L⟩) a (fun y w5 h6 a=>lL a ac (ai (cQ (cR 51 [] mixed a aw ?_)))))));refine eV 0 6 (pB l) (eO 1 7 [(1,0,1)] (iV op) a (eV 2 8 (pB y) (eO 3 9 [(0,0,1)] (iV op) a ?_)));have O:((op:Int) != (op:Int))=false:=mi rfl;have bm:=ay O;refine eB 4 10 O (eV 5 11 qF (eV 6 12 (qP l 1) (eO 7 13 [(1,1,1)] (iV n) a (eV 8 14 (qP y 1) (eO 9 15 [(0,1,1)] (iV n) a ?_)))));have X:((n:Int) != (n:Int))=false:=mi rfl;have bk:=ay X;refine eB 10 16 X (eV 11 17 qF (eV 12 18 qF (eV 13 19 (qP l 5) (eO 14 20 [(1,5,1)] (.string s) a (eV 15 21 (qP y 5) (eO 16 22 [(0,5,1)] (.string s) a (eV 17 23 qF ?_ (hv:=fun _=>rb kR (uM s)))))))));refine eV 18 24 qF (eV 19 25 qF (eV 20 26 (qP l 6) (eO 21 27 [(1,6,1)] (qS C b.length H) a (eV 22 28 (nV b.length) (eV 23 29 (qP y 6) (eO 24 30 [(0,6,1)] (qS D e.length L) a (eV 25 31 (nV e.length) ?_)))))));have U:((b.length:Int) != (e.length:Int))=false:=mi oM;have bd:=ay U;refine eB 26 32 U (eV 27 33 qF (eV 28 34 qF (eV 29 35 (qP l 2) (eO 30 36 [(1,2,3)] (rG q u c1 p x) a (eV 32 38 (qP y 2) (eO 33 39 [(0,2,3)] (rG q z c2 B F) a (aK 31 37 a (fun _ _ a=>(by have I:=lU q.num u c1 q.den p x M J _ _ a.g a.f.q.r.2.1 (a.f.q.r.1);rw[decide_eq_false (fun j=>j.elim (fun S=>q.den_nz S) hz)] at I;exact I)) (fun _ _ a=>aK 34 40 a (fun _ _ a=>(by have I:=lU q.num z c2 q.den B F V Q _ _ a.g a.f.r.2.1 (a.f.r.1);rw[decide_eq_false (fun j=>j.elim (fun S=>q.den_nz S) hz)] at I;exact I)) (fun _ _ a=>eV 35 41 qF (eV 36 42 qF (eV 37 43 qF (eV 38 44 (qP l 2) (eO 39 45 [(1,2,3)] (rG q u c1 p x) a (aK 40 46 a (fun _ _ a=>(by have I:=lU q.num u c1 q.den p x M J _ _ a.g a.f.q.r.2.1 (a.f.q.r.1);rw[decide_eq_false (fun j=>j.elim (fun S=>q.den_nz S) hz)] at I;exact I)) (fun _ _ a=>eV 41 47 qT (eV 42 48 qT (eV 43 49 (qP l 2) (eO 44 50 [(1,2,3)] (rG q u c1 p x) a (eV 45 51 (qP y 2) (eO 46 52 [(0,2,3)] (rG q z c2 B F) a (aK 47 53 a (fun _ _ a=>HY q u c1 p x M J oM oM q z c2 B F V Q oM oM _ _ a.g a.f.q.r.2.1 a.f.q.r.1 a.f.r.2.1 a.f.r.1) (fun _ _ a=>?_))))))))))))))))))))));have zb:((fr q q:Int) != (0:Int))=false:=mi (ut _);have bb:=ay zb;refine eB 48 54 zb (eV 49 55 qF (eV 50 56 qF (cG a (fun _ zd a=>tN (bG [(2,pB l),(3,pB y),(4,qF),(56,qF)] ?_)))));refine da (cK (cQ (aa a ac (bE ?_))));refine bG _ (CG.loop (fun μ_ Γ w_=>∃ (k:Nat)(j:Hp),μ_=b.length-k/\Γ=[(2,pB l),(3,pB y),(5,nV k)]/\SS w h w_ j [⟨y,47,ax ⟨op,n,au q.num,z,(lim (ab q.num)).length,c2,B,(lim q.den).length,F,s,D,e.length,L⟩⟩,⟨l,47,ax ⟨op,n,au q.num,u,(lim (ab q.num)).length,c1,p,(lim q.den).length,x,s,C,b.length,H⟩⟩] [] [fun j=>Rms d j e ks,fun j=>SlO 7 ax bZ j D e,S3 B (lim q.den),S3 z (lim (ab q.num)),fun j=>Rms d j b ks,fun j=>SlO 7 ax bZ j C b,S3 p (lim q.den),S3 u (lim (ab q.num))]/\k<=b.length) _ ⟨0,zd,rfl,rfl,a.to _ _,JH _⟩ ?_);rintro _ _ _ ⟨k,_,bl,rfl,a,hk⟩;refine cQ (aa a [.c,.v (qP l 6),.o (qS C b.length H) 1 6 1,.v (nV b.length)] ?_);cases Y:(decide ((k:Int)<(b.length:Int)))
 .
  have zc:=oF Y;refine lB 61 Y (ah (CG.exit ?_))
  show CG _ _ _ _ _ _ _ _
  exact aa a ac (af a [] qT rfl)
 have zc:=oT Y;refine lB 61 Y (aj (cK (cQ (kZ (cQ (cR 12 [] mixed a aw ?_))))));refine eV 0 64 (qP l 6) (eO 1 65 [(1,6,1)] (qS C b.length H) a (eV 2 66 (nV k) (eX 3 67 C b.length H 7 (k:Nat) k ((a.f.q.2.1).ok oM) (eH 4 68 (aY (b.getD k bZ)) a ((a.f.q.2.1).el k oM) (eV 5 69 (qP y 6) (eO 6 70 [(0,6,1)] (qS D e.length L) a (eV 7 71 (nV k) (eX 8 72 D e.length L 7 (k:Nat) k ((a.f.2.1).ok oM) (eH 9 73 (aY (e.getD k bZ)) a ((a.f.2.1).el k oM) (aK 10 74 a (fun _ _ a=>ih (b.getD k bZ) (e.getD k bZ) (ks.getD k cc) _ _ a.g ((a.f.q.1).at_ k oM) ((a.f.1).at_ k oM) (hW k oM)) (fun _ _ a=>eV 11 75 qF (cG a (fun _ ze a=>tN (da (cK (kQ (lL a ac (bg 63 ((k:Nat)+1) (k+1) ?_))))))))))))))))));refine lL a ac (lD ?_);intro a_ ka;refine ⟨_,_,?_,⟨k+1,ze,rfl,rfl,a.to _ _,oM⟩,ka.to _ kR⟩
 omega
theorem qN (ok:ByteArray->Prop):∀ (d:Nat) (e c:RTm) (t:Tm) (w:World) (h:Hp),G w h->RmH d h e t->RmH d h c t->WfT ok d t->Calls Tryz.prog 28 #[aY e,aY c] w (Ret w h (fun v _=>v=.bool true))
  | 0,_,_,_,_,_,_,x,_,_=>x.elim
  | d + 1,e,c,t,w,h,g,x,y,wf=>by
    obtain ⟨op,n,b1,f,zn1,I,U,dn1,k,q,s,B1,W,z,ks,rfl,rfl,⟨b,⟨A1,c1,D1,d1,q1,u,C,p,J⟩,V⟩,bb,S,L⟩:=x.open;obtain ⟨op',n',b2,F,zn2,j,M,dn2,i,q',s',B2,Z,o,ks',rfl,ht,⟨a,⟨A2,c2,D2,d2,q2,H,B,O,Q⟩,X⟩,bd,D,l⟩:=y.open
    injection ht with t1 t2 t3 t4 t5
    subst t1 t2 t3 t4 t5;cases q1
    cases q2
    obtain ⟨w1,w2,w3,w4,w5,w6,w7,w8,Y⟩:=wf
    have K:ks.length<=2:=by
      have W:fH op=ks.length:=w1;have:=aT op
      omega
    by_cases hz:q.num=0
    . exact AS ok d (fun e c t w h=>qN ok d e c t w h) op n q s ks w3 f I _ U k u C B1 W z F j _ M i H B B2 Z o hz K Y w h g p J S L O Q D l
    . have h1:b=true:=by
        cases b
        . exact absurd (Kj.2 (V rfl)) hz
        . rfl
      have h2:a=true:=by
        cases a
        . exact absurd (Kj.2 (X rfl)) hz
        . rfl
      subst h1 h2;exact Cg ok d (fun e c t w h=>qN ok d e c t w h) op n q s ks w3 f I U k u C B1 W z F j M i H B B2 Z o hz K Y w h g p J S L O Q D l
theorem il  (ok:ByteArray->Prop)(d:Nat)(p:PTm)(t:Tm)(r:RTm)(i:WfT ok d t)(w:World)(h:Hp)(g:G w h)(j:TmH d h p t)(k:RmH d h r t):CV 11 #[a8 p,aY r] w h (.bool true):=by
 have a:=(((sS g).add (K:=fun b=>TmH d b p t) j).add (K:=fun b=>RmH d b r t) k);refine go Tryz.func11 [(0,a8 p),(1,aY r)] rfl (aG (lA 2 33 (bv p) a (fun l w2 B a=>lA 3 47 (ax r) a (fun o y u a=>lL a ac (ai (cR 4 [] mixed a aw ?_))))));refine eO 0 5 [(1,0,9)] (a8 p) a (eO 2 7 [(0,0,7)] (aY r) a (eC 1 6 a (fun _ _ a=>oK ok d p t _ _ a.g a.f.2.1 i) ?_));rintro _ _ _ C z a ⟨e,rfl,c⟩;replace a:=(a.add (K:=fun b=>RmH d b e t) c);exact aK 3 8 a (fun _ _ a=>qN ok d e r t _ _ a.g a.f.1 a.f.2.1 i) (fun x _ a=>cG a (fun _ _ a=>tV 4 4 qT (tN (kX (a.ret [] qT rfl)))))
theorem nG (n:Int)(m:Nat)(b:0<m)(a:m<1000000)(w:World)(h:Hp)(g:G w h):CR 4 #[iV n,nV m] w h (fun v _=>∃ p:Nat,v=nV p/\p<m) :=
 (G2 n m b a w h g).mono fun e w' ⟨v,f,c,u,d⟩=>⟨v,f,c,u,_,d,AX n m b⟩
theorem ne {t u:Tm}{a b:Nat}(h:PR.ok t a=.ok u b):t=u/\a=b:=by injection h with h1 h2;exact ⟨h1,h2⟩
def sgB:ByteArray:=⟨#[120,121,122,48,49,50,57,46,43,45,42,47,94,40,41,91,93,44,32,95,97,98,115,40,114,97,109,112,40,98,101,110,100,40,109,97,120,40,109,105,110,40]⟩
theorem II:sgB.size=42:=rfl
theorem kp (e l a d l2 f:Int)(C:e=d)(B:l=l2)(ha:a=f)(w:World)(h:Hp)(g:G w h):CV 10 #[.agg #[iV e,iV l,iV a],.agg #[iV d,iV l2,iV f]] w h (.bool true):=by
 have b:=sS g;refine go Tryz.func10 [(0,.agg #[iV e,iV l,iV a]),(1,.agg #[iV d,iV l2,iV f])] rfl (aG (lA 2 36 ([iV e,iV l,iV a]) b (fun p w2 H b=>lA 3 49 ([iV d,iV l2,iV f]) b (fun u F D b=>lL b ac (aE (lL b [.v (pB p),.o (iV e) 1 0 1,.v (pB u),.o (iV d) 0 0 1] ?_))))));have i:((e:Int) == (d:Int))=true:=ko oM;have z:=eq_of_beq i;refine lB 9 i (lL b [.c,.v (qP p 1),.o (iV l) 1 1 1,.v (qP u 1),.o (iV l2) 0 1 1] ?_);have k:((l:Int) == (l2:Int))=true:=ko oM;have y:=eq_of_beq k;refine lB 15 k (lL b [.v qT,.c,.v (qP p 2),.o (iV a) 1 2 1,.v (qP u 2),.o (iV f) 0 2 1] ?_);have j:((a:Int) == (f:Int))=true:=ko oM;have x:=eq_of_beq j;exact lB 22 j (lL b [.v qT,.c] (af b [] qT rfl))
theorem rC (A0:Z9)(c0:Nat)(D:List Int)(V:Int)(hl0:D.length<=9223372036854775807)(hz0:FT D)(w:World)(h:Hp)(g:G w h)(hA0:Si A0 D h)(tb:Tab h):CV 3 #[.slice A0 D.length c0,iV V] w h (.bool true):=by
 have d:=(((sS g).aS hA0).add (K:=fun Q=>Tab Q) tb);have bd:=II;refine go Tryz.func3 [(0,qS A0 D.length c0),(1,iV V)] rfl (aa d ac (aE (lL d ac (ai (aa d ac (bE ?_))))));refine bG _ (CG.loop (fun μ_ Γ w_=>∃ (i:Nat)(z:ByteArray)(Q:Hp),μ_=D.length-i/\Γ=[(0,qS A0 D.length c0),(1,iV V),(4,qF),(5,.string z),(6,nV i)]/\SS w h w_ Q [] [] [fun Q=>Tab Q,Si A0 D]/\i<=D.length/\i<=40/\z.size<=5*i) _ ⟨0,⟨#[]⟩,h,rfl,rfl,d.to _ _,JH _,JH _,nR _⟩ ?_);rintro _ _ w1 ⟨i,z,h2,hm3,rfl,d,hi,hi4,hx⟩;refine cQ (aa d [.c,.c,.v (nV D.length)] ?_);cases Y:(decide ((i:Int)<(D.length:Int)))
 .
  have bb:=oF Y;refine lB 17 Y (lL d ac (lG 19 ?_));refine lG 20 (lL d [.v qF] (ah (CG.exit ?_)))
  show CG _ _ _ _ _ _ _ _
  refine aa d ac (lC 46 d (nz z (by first|omega|(rw[ByteArray.size_extract];omega)) _ _ d.g d.f.1) ?_);rintro _ w5 h6 d ⟨p,e,l,a,rfl,hF,hP⟩;replace d:=(d.add (K:=fun Q=>PaP z Q p e) hP);refine lL d [.c,.v (a8 p),.v (.agg #[iV e,iV l,iV a])] (lA 9 33 a2 d (fun b7 w8 h9 d=>lA 10 36 ([iV 0,iV 0,iV 0]) d (fun b10 _ _ d=>lP 1 0 (bv p) d (fun _ d=>lP 0 0 ([iV e,iV l,iV a]) d (fun _ d=>aE (lL d ac (lC 51 d (sT z (by first|omega|(rw[ByteArray.size_extract];omega)) _ _ d.g d.f.2.1) ?_)))))));rintro _ _ _ d ⟨x,B,l2,O,rfl,hF2,hR⟩;replace d:=(d.add (K:=fun Q=>PaR z Q x B) hR);obtain ⟨X,U,W⟩:=hF.uniq hF2;refine lL d [.c,.v (aY x),.v (.agg #[iV B,iV l2,iV O])] (lA 11 47 (ax ⟨0,0,false,none,0,0,none,0,0,⟨#[]⟩,none,0,0⟩) d (fun b17 _ _ d=>lA 12 49 ([iV 0,iV 0,iV 0]) d (fun zm _ _ d=>lP 1 0 (ax x) d (fun _ d=>lP 0 0 ([iV B,iV l2,iV O]) d (fun _ d=>aE (lL d [.c,.c,.c,.v (nV z.size)] (bg 58 ((z.size:Nat)+1) (z.size+1) ?_)))))));refine lC 59 d (nG V (z.size+1) oM oM _ _ d.g) ?_;rintro _ _ _ d ⟨H,rfl,hpf⟩;refine lV 60 (.string (z.extract 0 H)) ?_ (hr:=oC (tx:=9) (x:=.tmp 54) (e:=.tmp 59) (k2:=.i64) (s:=z) (m:=H) (j2:=(H:Int)) kR kR kR kR oM oM _);refine lL d ac (aE (aq 61 d (oG _ _ d.g d.f.r.1) (fun _ _ d=>lL d aF ?_)))
  rcases hnm:cD (z.extract 0 H) with _|_
  .
   refine aq 64 d ((by have C:=qE (z.extract 0 H) (by rw[ByteArray.size_extract];omega) _ _ d.g;rw[hnm] at C;exact C)) (fun _ _ d=>lL d ac (aq 66 d ((by have C:=qU (z.extract 0 H) (by rw[ByteArray.size_extract];omega) _ _ d.g;rw[hnm] at C;exact C)) (fun _ _ d=>lL d [.v qT,.v qT,.c,.o (.agg #[iV e,iV l,iV a]) 2 0 3,.o (.agg #[iV B,iV l2,iV O]) 0 0 3] (aq 72 d (kp e l a B l2 O X U W _ _ d.g) (fun _ _ d=>lL d [.v qT,.c,.v (pB zm),.o (iV B) 0 0 1] ?_)))));cases za:((B:Int) != (0:Int))
   .
    have zf:=ay za;refine lB 77 za (lL d [.c,.o (a8 p) 3 0 9,.o (aY x) 1 0 7] ?_);obtain ⟨t,b1_,L,I,hW,_⟩:=(d.f.2.1).1 oM;obtain ⟨t2,Z,M,J,_⟩:=(d.f.1) oM;obtain ⟨rfl,_⟩:=ne (L.symm.trans M);refine aq 81 d (il _ 24 p t x hW _ _ d.g I J) (fun _ _ d=>lL d [.v qT,.v qT,.c] (lN (bG [(4,qT)] ?_)));exact kX (d.ret [] qT rfl)
   have zf:=a6 za;refine lB 77 za (lL d ac (lG 79 ?_));refine lG 80 (lG 81 (lL d [.v qT,.v qT,.c] (lN (bG [(4,qT)] ?_))));exact kX (d.ret [] qT rfl)
  refine aq 64 d ((by have C:=qE (z.extract 0 H) (by rw[ByteArray.size_extract];omega) _ _ d.g;rw[hnm] at C;exact C)) (fun _ _ d=>lL d ac (aq 66 d ((by have C:=qU (z.extract 0 H) (by rw[ByteArray.size_extract];omega) _ _ d.g;rw[hnm] at C;exact C)) (fun _ _ d=>lL d [.v qT,.v qT,.c,.o (.agg #[iV e,iV l,iV a]) 2 0 3,.o (.agg #[iV B,iV l2,iV O]) 0 0 3] (aq 72 d (kp e l a B l2 O X U W _ _ d.g) (fun _ _ d=>lL d [.v qT,.c,.v (pB zm),.o (iV B) 0 0 1] ?_)))));cases zb:((B:Int) != (0:Int))
  .
   have zg:=ay zb;refine lB 77 zb (lL d [.c,.o (a8 p) 3 0 9,.o (aY x) 1 0 7] ?_);obtain ⟨t,b1_,L,I,hW,_⟩:=(d.f.2.1).1 oM;obtain ⟨t2,Z,M,J,_⟩:=(d.f.1) oM;obtain ⟨rfl,_⟩:=ne (L.symm.trans M);refine aq 81 d (il _ 24 p t x hW _ _ d.g I J) (fun _ _ d=>lL d [.v qT,.v qT,.c] (lN (bG [(4,qT)] ?_)));exact kX (d.ret [] qT rfl)
  have zg:=a6 zb;refine lB 77 zb (lL d ac (lG 79 ?_));refine lG 80 (lG 81 (lL d [.v qT,.v qT,.c] (lN (bG [(4,qT)] ?_))));exact kX (d.ret [] qT rfl)
 have bb:=oT Y;refine lB 17 Y (lL d aF ?_);cases zc:(decide ((i:Int)<(40:Int)))
 .
  have zi:=oF zc;refine lB 20 zc (lL d [.v qF] (ah (CG.exit ?_)))
  show CG _ _ _ _ _ _ _ _
  refine aa d ac (lC 46 d (nz z (by first|omega|(rw[ByteArray.size_extract];omega)) _ _ d.g d.f.1) ?_);rintro _ _ _ d ⟨p,e,l,a,rfl,hF,hP⟩;replace d:=(d.add (K:=fun Q=>PaP z Q p e) hP);refine lL d [.c,.v (a8 p),.v (.agg #[iV e,iV l,iV a])] (lA 9 33 a2 d (fun b50 _ _ d=>lA 10 36 ([iV 0,iV 0,iV 0]) d (fun b53 _ _ d=>lP 1 0 (bv p) d (fun _ d=>lP 0 0 ([iV e,iV l,iV a]) d (fun _ d=>aE (lL d ac (lC 51 d (sT z (by first|omega|(rw[ByteArray.size_extract];omega)) _ _ d.g d.f.2.1) ?_)))))));rintro _ _ _ d ⟨x,B,l2,O,rfl,hF2,hR⟩;replace d:=(d.add (K:=fun Q=>PaR z Q x B) hR);obtain ⟨X,U,W⟩:=hF.uniq hF2;refine lL d [.c,.v (aY x),.v (.agg #[iV B,iV l2,iV O])] (lA 11 47 (ax ⟨0,0,false,none,0,0,none,0,0,⟨#[]⟩,none,0,0⟩) d (fun b60 _ _ d=>lA 12 49 ([iV 0,iV 0,iV 0]) d (fun zn _ _ d=>lP 1 0 (ax x) d (fun _ d=>lP 0 0 ([iV B,iV l2,iV O]) d (fun _ d=>aE (lL d [.c,.c,.c,.v (nV z.size)] (bg 58 ((z.size:Nat)+1) (z.size+1) ?_)))))));refine lC 59 d (nG V (z.size+1) oM oM _ _ d.g) ?_;rintro _ _ _ d ⟨H,rfl,hpf⟩;refine lV 60 (.string (z.extract 0 H)) ?_ (hr:=oC (tx:=9) (x:=.tmp 54) (e:=.tmp 59) (k2:=.i64) (s:=z) (m:=H) (j2:=(H:Int)) kR kR kR kR oM oM _);refine lL d ac (aE (aq 61 d (oG _ _ d.g d.f.r.1) (fun _ _ d=>lL d aF ?_)))
  rcases hnm:cD (z.extract 0 H) with _|_
  .
   refine aq 64 d ((by have C:=qE (z.extract 0 H) (by rw[ByteArray.size_extract];omega) _ _ d.g;rw[hnm] at C;exact C)) (fun _ _ d=>lL d ac (aq 66 d ((by have C:=qU (z.extract 0 H) (by rw[ByteArray.size_extract];omega) _ _ d.g;rw[hnm] at C;exact C)) (fun _ _ d=>lL d [.v qT,.v qT,.c,.o (.agg #[iV e,iV l,iV a]) 2 0 3,.o (.agg #[iV B,iV l2,iV O]) 0 0 3] (aq 72 d (kp e l a B l2 O X U W _ _ d.g) (fun _ _ d=>lL d [.v qT,.c,.v (pB zn),.o (iV B) 0 0 1] ?_)))));cases zd:((B:Int) != (0:Int))
   .
    have zj:=ay zd;refine lB 77 zd (lL d [.c,.o (a8 p) 3 0 9,.o (aY x) 1 0 7] ?_);obtain ⟨t,b1_,L,I,hW,_⟩:=(d.f.2.1).1 oM;obtain ⟨t2,Z,M,J,_⟩:=(d.f.1) oM;obtain ⟨rfl,_⟩:=ne (L.symm.trans M);refine aq 81 d (il _ 24 p t x hW _ _ d.g I J) (fun _ _ d=>lL d [.v qT,.v qT,.c] (lN (bG [(4,qT)] ?_)));exact kX (d.ret [] qT rfl)
   have zj:=a6 zd;refine lB 77 zd (lL d ac (lG 79 ?_));refine lG 80 (lG 81 (lL d [.v qT,.v qT,.c] (lN (bG [(4,qT)] ?_))));exact kX (d.ret [] qT rfl)
  refine aq 64 d ((by have C:=qE (z.extract 0 H) (by rw[ByteArray.size_extract];omega) _ _ d.g;rw[hnm] at C;exact C)) (fun _ _ d=>lL d ac (aq 66 d ((by have C:=qU (z.extract 0 H) (by rw[ByteArray.size_extract];omega) _ _ d.g;rw[hnm] at C;exact C)) (fun _ _ d=>lL d [.v qT,.v qT,.c,.o (.agg #[iV e,iV l,iV a]) 2 0 3,.o (.agg #[iV B,iV l2,iV O]) 0 0 3] (aq 72 d (kp e l a B l2 O X U W _ _ d.g) (fun _ _ d=>lL d [.v qT,.c,.v (pB zn),.o (iV B) 0 0 1] ?_)))));cases ze:((B:Int) != (0:Int))
  .
   have zk:=ay ze;refine lB 77 ze (lL d [.c,.o (a8 p) 3 0 9,.o (aY x) 1 0 7] ?_);obtain ⟨t,b1_,L,I,hW,_⟩:=(d.f.2.1).1 oM;obtain ⟨t2,Z,M,J,_⟩:=(d.f.1) oM;obtain ⟨rfl,_⟩:=ne (L.symm.trans M);refine aq 81 d (il _ 24 p t x hW _ _ d.g I J) (fun _ _ d=>lL d [.v qT,.v qT,.c] (lN (bG [(4,qT)] ?_)));exact kX (d.ret [] qT rfl)
  have zk:=a6 ze;refine lB 77 ze (lL d ac (lG 79 ?_));refine lG 80 (lG 81 (lL d [.v qT,.v qT,.c] (lN (bG [(4,qT)] ?_))));exact kX (d.ret [] qT rfl)
 have zi:=oT zc;refine lB 20 zc (lL d [.v qT] (aj (cK (cQ (kZ (aa d aF (lX 26 A0 D.length c0 1 (i:Nat) i ((d.f.2.1).ok oM) ?_)))))));refine lH 27 (iV (D.getD i 0)) d ((d.f.2.1).el i oM) (lC 28 d (nG (D.getD i 0) 42 oM oM _ _ d.g) ?_);rintro _ _ _ d ⟨F,rfl,hpk⟩;refine lL d ac (aE (lL d aF (lX 31 A0 D.length c0 1 (i:Nat) i ((d.f.2.1).ok oM) ?_)));refine lH 32 (iV (D.getD i 0)) d ((d.f.2.1).el i oM) (lV 33 (iV (IntKind.wrap .i64 ((D.getD i 0).tdiv 42))) ?_ (hr:=cZ (t:=3) (u:=3) (x:=.tmp 32) (y:=.const (iV 42)) (k:=.i64) (a:=(D.getD i 0)) (b:=(42:Int)) kR kR kR oM _));refine lC 34 d (nG (IntKind.wrap .i64 ((D.getD i 0).tdiv 42)) 5 oM oM _ _ d.g) ?_;rintro _ _ zo d ⟨S,rfl,hpn⟩;refine bg 35 ((S:Nat)+1) (S+1) (lL d ac (lN (kQ (lL d m4 (bg 40 ((F:Nat)+(S+1:Nat)) (F+(S+1)) ?_)))));refine lV 41 (nV (min 42 (F+(S+1)))) ?_ (hr:=aN (n:=(if ((F+(S+1):Nat):Int)<(42:Int) then ((F+(S+1):Nat):Int) else (42:Int))) kR (by split<;>omega));refine lV 42 (.string (sgB.extract F (min 42 (F+(S+1))))) ?_ (hr:=eA (tx:=9) (x:=.const (.string ⟨#[120,121,122,48,49,50,57,46,43,45,42,47,94,40,41,91,93,44,32,95,97,98,115,40,114,97,109,112,40,98,101,110,100,40,109,97,120,40,109,105,110,40]⟩)) (i:=.tmp 37) (e:=.tmp 41) (k:=.i64) (k2:=.i64) (s:=sgB) (n:=F) (m:=(min 42 (F+(S+1)))) (j:=(F:Int)) (j2:=((min 42 (F+(S+1)):Nat):Int)) kR kR kR kR kR rfl rfl oM oM _);refine lV 43 (.string ((z:ByteArray)++(sgB.extract F (min 42 (F+(S+1)))))) ?_ (hr:=dU (a:=z) (b:=(sgB.extract F (min 42 (F+(S+1))))) kR (by rw[ByteArray.size_extract];omega));refine lL d ac (lN (kQ (lL d ac (bg 23 ((i:Nat)+1) (i+1) ?_))));refine lL d ac (lD ?_);intro a_ ka;refine ⟨_,_,?_,⟨i+1,(z:ByteArray)++(sgB.extract F (min 42 (F+(S+1)))),zo,rfl,rfl,d.to _ _,oM,oM,(by rw[ByteArray.size_append,ByteArray.size_extract,II];omega)⟩,ka.to _ kR⟩
 omega
end Go.Proofs.YtffiihfdjnmhpaaGreatDoor
