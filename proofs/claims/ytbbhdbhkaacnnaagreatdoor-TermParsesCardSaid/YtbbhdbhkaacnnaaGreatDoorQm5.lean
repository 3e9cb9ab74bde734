/- Laws of this claim, part 6. -/
import Derived.Test.YtbbhdbhkaacnnaaGreatDoorQm0
import Derived.Test.YtbbhdbhkaacnnaaGreatDoorQm1
import Derived.Test.YtbbhdbhkaacnnaaGreatDoorQm2
import Derived.Test.YtbbhdbhkaacnnaaGreatDoorQm3
import Derived.Test.YtbbhdbhkaacnnaaGreatDoorQm4
set_option maxRecDepth 100000
set_option maxHeartbeats 4000000
namespace Go.Proofs.YtbbhdbhkaacnnaaGreatDoor
open _root_.Array renaming getElem?_append_right -> ey, getElem?_eq_none -> ea, getElem?_extract -> ez, getElem?_replicate -> wl
open Decidable renaming em -> Ko
open Int renaming natCast_pos -> Kv, ne_of_gt -> Ku
open List renaming append_assoc -> Kk, append_nil -> Kx, length -> JA, length_append -> s6, map_cons -> yh, mem_cons -> gq, mem_singleton -> o0, toArray -> JY
open Nat renaming add_mul -> I4, div_le_self -> zF, le_of_lt -> JM, le_trans -> ed, lt_or_ge -> co, lt_succ_iff_lt_or_eq -> Kf, mul_assoc -> z8, mul_one -> I1, pow_le_pow_right -> A4, pow_pos -> F2, pow_succ -> z1, pow_zero -> JG, succ_pos -> JH, zero_le -> JF
open Rat renaming den_intCast -> J9, num_intCast -> J7, num_natCast -> Kw
open Go.RowKit
open Go.RowKit Go.Shelf
open Go.RowKit Go.WideMaps
theorem BD:Bo 106:=fun rb s a e w h g d c b=>Eg rb s a e w h g d c b
theorem xV:Bo 77:=fun rb s a e w h g d c b=>BQ BD rb s a e w h g d c b
theorem tR:Bo 46:=fun rb s a e w h g d c b=>xL xV rb s a e w h g d c b
theorem qx:Bo 26:=fun rb s a e w h g d c b=>tm tR rb s a e w h g d c b
theorem nq:Bo 13:=fun rb s a e w h g d c b=>FR qx rb s a e w h g d c b
section
variable {nf bf:ByteArray->Option Rat}(n:Nat)
theorem B0  (hp:∀ m,m<=n->RC nf bf 77 m .pow)(rb:Nat)(s:ByteArray)(S:s.size<=1000000)(a:Nat)(ha:a<=s.size)(r:PR)(hq:bj nf bf s (n+1) .sign a=some r)(w:World)(h:Hp)(g:G w h)(ho:Own w rb 64 [.string s,nV a,iV (-1)])(hj:h[rb]?=some junk)(tb:Tab h):Calls Tryz.prog 46 #[pB rb] w (bV rb w h (Fx rb s r)):=by
 have d:UpM [rb] w h w h:=UpM.refl g;obtain ⟨wz,D,b⟩:=SS.at_ g ho hj;replace b:=(b.add (K:=fun l=>Tab l) tb);refine go Tryz.func46 [(0,pB rb)] rfl (aG (fr 2 45 (ax ⟨0,0,false,none,0,0,none,0,0,⟨#[]⟩,none,0,0⟩) b (fun H w2 h3 u4 p b=>?_)));replace p:=ed d.gr.size p;replace d:=d.trans (u4.m _);refine aE (lL b ac (ai (kZ ?_)));refine bG _ (CG.loop (fun B Γ L=>∃ (m:Nat)(k:Nat)(c:Nat)(r1:PR)(l:Hp),B=m/\Γ=[(0,pB rb),(2,pB H),(3,nV c)]/\SS wz D L l [⟨H,45,ax ⟨0,0,false,none,0,0,none,0,0,⟨#[]⟩,none,0,0⟩⟩,⟨rb,64,[.string s,nV k,iV (-1)]⟩] [] [fun l=>Tab l]/\m<=n+1/\UpM [rb] w h L l/\bj nf bf s m .sign k=some r1/\r=tk c r1/\k<=s.size/\c<=k) _ ⟨(n+1),a,0,r,h3,rfl,rfl,b.to _ _,nR _,d,hq,(Fo r).symm,ha,JF _⟩ ?_);rintro _ _ w5 ⟨m,k,c,r1,h6,hm7,rfl,b,hm,d,W,X,hk,hck⟩;obtain ⟨m1,rfl⟩:=iu W;have br:=bD (s:=s) (a:=k) hk;have bm:=eE s k;refine cQ (aa b ac ?_);have bd:=bD (s:=s) (a:=k) oM;refine bn 7 (iK rb s S k oM 45 kD _ _ b.g (b.own 1) (b.jk 1) b.f.1) ?_;rintro _ w9 zg I (⟨rfl,C,bq,z⟩|⟨rfl,C,z⟩)
 .
  replace b:=(b.stepM 1 I z).to [⟨H,45,ax ⟨0,0,false,none,0,0,none,0,0,⟨#[]⟩,none,0,0⟩⟩,⟨rb,64,[.string s,nV (sk s k+1),iV (-1)]⟩] [];replace d:=d.trans I;obtain ⟨r2,hq2,hr2⟩:=vt W C;refine ak (cK (kZ (kQ (lL b ac (bg 9 ((c:Nat)+1) (c+1) ?_)))));refine lL b ac (lD ?_);intro a_ ka;refine ⟨_,_,?_,⟨m1,sk s k+1,c+1,r2,zg,rfl,rfl,b.to _ _,oM,d,hq2,(by rw[X,hr2,tL]),oM,oM⟩,ka.to _ kR⟩
  omega
 replace b:=(b.stepM 1 I z).to [⟨H,45,ax ⟨0,0,false,none,0,0,none,0,0,⟨#[]⟩,none,0,0⟩⟩,⟨rb,64,[.string s,nV (sk s k),iV (-1)]⟩] [];replace d:=d.trans I;have hqp:=q7 W C;refine ah (CG.exit ?_)
 show CG _ _ _ _ _ _ _ _
 refine aa b ac ?_
 rcases pU r1 with ⟨be,rfl⟩|⟨t1,y1,rfl⟩
 .
  refine bn 11 (hp m1 oM rb s S (sk s k) oM (.err be) hqp _ _ b.g (b.own 1) (b.jk 1) b.f.1) ?_;rintro _ _ _ Z ⟨M,rfl,Q⟩;replace b:=(b.stepM 1 Z Q).to [⟨H,45,ax ⟨0,0,false,none,0,0,none,0,0,⟨#[]⟩,none,0,0⟩⟩,⟨rb,64,[.string s,nV s.size,nV be]⟩] [];replace d:=d.trans Z;refine fr 4 45 (ax ⟨0,0,false,none,0,0,none,0,0,⟨#[]⟩,none,0,0⟩) b (fun ze _ zi u25 j b=>?_);replace j:=ed d.gr.size j;replace d:=d.trans (u25.m _);refine ce 0 0 (ax M) b (fun _ F b=>?_);replace d:=d.put2 F j g b.g;refine ai (aa b ac (bx ?_));refine bG _ (CG.loop (fun B Γ L=>∃ (i:Nat)(x:RTm)(l:Hp),B=c-i/\Γ=[(2,pB H),(3,nV c),(4,pB ze),(5,nV i)]/\SS wz D L l [⟨ze,45,ax x⟩,⟨H,45,ax ⟨0,0,false,none,0,0,none,0,0,⟨#[]⟩,none,0,0⟩⟩,⟨rb,64,[.string s,nV s.size,nV be]⟩] [] [fun l=>Tab l]/\i<=c/\UpM [rb] w h L l) _ ⟨0,M,zi,rfl,rfl,b.to _ _,JF _,d⟩ ?_);rintro _ _ _ ⟨i,x,_,bl,rfl,b,hi,d⟩;refine cQ (aa b aF ?_);cases za:(decide ((i:Int)<(c:Int)))
  .
   have zc:=oF za;refine lB 14 za (ah (CG.exit ?_))
   show CG _ _ _ _ _ _ _ _
   refine aa b [.o (aY x) 0 0 7] (ce 1 0 (ax x) b (fun _ F b=>?_));replace d:=d.put2 F p g b.g;exact lN (kX (b.retM d [(1,0,7)] (aY x) ((by rw[X];exact ⟨_,rfl,b.own 2⟩))))
  have zc:=oT za;refine lB 14 za (ak (cK (cQ (kZ (kQ (lL b [.o (aY x) 0 0 7] (ec 18 (FU 7 x _ _ b.g) ?_)))))));rintro _ _ zj u35 ⟨J,rfl⟩;replace d:=d.trans (u35.m _);replace b:=b.step u35;refine ce 0 0 (ax J) b (fun _ F b=>?_);replace d:=d.put2 F j g b.g;refine lN (kQ (lL b ac (bg 16 ((i:Nat)+1) (i+1) ?_)));refine lL b ac (lD ?_);intro a_ ka;refine ⟨_,_,?_,⟨i+1,J,zj,rfl,rfl,b.to _ _,oM,d⟩,ka.to _ kR⟩
  omega
 refine bn 11 (hp m1 oM rb s S (sk s k) oM (.ok t1 y1) hqp _ _ b.g (b.own 1) (b.jk 1) b.f.1) ?_;rintro _ _ _ u42 ⟨u,rfl,bk,U,O⟩;replace b:=(b.stepM 1 u42 U).to [⟨H,45,ax ⟨0,0,false,none,0,0,none,0,0,⟨#[]⟩,none,0,0⟩⟩,⟨rb,64,[.string s,nV y1,iV (-1)]⟩] [];replace d:=d.trans u42;replace b:=(b.add (K:=fun l=>RtH l u t1) O);refine fr 4 45 (ax ⟨0,0,false,none,0,0,none,0,0,⟨#[]⟩,none,0,0⟩) b (fun zf _ zk u46 e b=>?_);replace e:=ed d.gr.size e;replace d:=d.trans (u46.m _);refine ce 0 0 (ax u) b (fun _ F b=>?_);replace d:=d.put2 F e g b.g;refine ai (aa b ac (bx ?_));replace b:=b.add (K:=fun l=>RtH l u (g9 0 t1)) (b.f.1);refine bG _ (CG.loop (fun B Γ L=>∃ (i:Nat)(x:RTm)(l:Hp),B=c-i/\Γ=[(2,pB H),(3,nV c),(4,pB zf),(5,nV i)]/\SS wz D L l [⟨zf,45,ax x⟩,⟨H,45,ax ⟨0,0,false,none,0,0,none,0,0,⟨#[]⟩,none,0,0⟩⟩,⟨rb,64,[.string s,nV y1,iV (-1)]⟩] [] [fun l=>RtH l x (g9 i t1),fun l=>RtH l u t1,fun l=>Tab l]/\i<=c/\UpM [rb] w h L l) _ ⟨0,u,zk,rfl,rfl,b.to _ _,JF _,d⟩ ?_);rintro _ _ _ ⟨i,x,_,bp,rfl,b,hi,d⟩;refine cQ (aa b aF ?_);cases zb:(decide ((i:Int)<(c:Int)))
 .
  have zd:=oF zb;refine lB 14 zb (ah (CG.exit ?_))
  show CG _ _ _ _ _ _ _ _
  refine aa b [.o (aY x) 0 0 7] (ce 1 0 (ax x) b (fun _ F b=>?_));replace d:=d.put2 F p g b.g;refine lN (kX ?_);have bb:i=c:=by omega
  exact b.retM d [(1,0,7)] (aY x) ((by rw[X,<-bb];exact ⟨_,rfl,by omega,b.own 2,b.f.1⟩))
 have zd:=oT zb;refine lB 14 zb (ak (cK (cQ (kZ (kQ (lL b [.o (aY x) 0 0 7] (ec 18 (G9 7 x (g9 i t1) _ _ b.g b.f.1) ?_)))))));rintro _ _ zl Y ⟨y,rfl,V⟩;replace d:=d.trans (Y.m _);replace b:=b.step Y;replace b:=(b.add (K:=fun l=>RtH l y (g9 (i+1) t1)) V);refine ce 0 0 (ax y) b (fun _ F b=>?_);replace d:=d.put2 F e g b.g;refine lN (kQ (lL b ac (bg 16 ((i:Nat)+1) (i+1) ?_)));refine lL b ac (lD ?_);intro a_ ka;replace b:=(b.tl.tl.add (K:=fun l=>RtH l y (g9 (i+1) t1)) b.f.1);refine ⟨_,_,?_,⟨i+1,y,zl,rfl,rfl,b.to _ _,oM,d⟩,ka.to _ kR⟩
 omega
end
theorem cW (x:ByteArray)(b:Nat)(d:x.size<=1000000)(a:bY x=some b)(w:World)(h:Hp)(g:G w h):CR 107 #[.string x] w h (fun v h1=>∃ c,v=.tuple #[c,.bool true]/\RN h1 c b):=by
 have q:=mS x d w h g;rw[a] at q;exact q
theorem cZ (x:ByteArray)(c:x.size<=1000000)(a:bY x=none)(w:World)(h:Hp)(g:G w h):CR 107 #[.string x] w h (fun v h1=>∃ b,v=.tuple #[b,.bool false]/\RN h1 b 0):=by
 have q:=mS x c w h g;rw[a] at q;exact q
theorem iq (n:Nat):bE false n=(n:Int):=rfl
theorem gk (w:World)(h:Hp)(g:G w h):CR 167 #[iV 0] w h (fun v h1=>RQ h1 v 0):=IW 0 kD kD w h g
theorem mB (x:ByteArray)(hx:x.size<=1000000)(w:World)(h:Hp)(g:G w h):CR 166 #[.string x] w h (fun v h1=>∃ U,v=.tuple #[U,.bool (en x).isSome]/\RI h1 U ((en x).getD 0)):=by
 have a:=sS g;refine go Tryz.func166 [(0,.string x)] rfl (aG (lA 2 40 ([qF,sZ]) a (fun b1 w2 h3 a=>lL a ac (aE (lL a [.c,.v (nV x.size)] ?_)))));cases e:(decide ((0:Int)<(x.size:Int)))
 .
  have o:=oF e;refine lB 9 e (lL a ac (lG 11 ?_));refine lG 12 (lG 13 (lL a [.v qF,.c] (ai (aa a ac (ah (cK (aa a ac ?_)))))))
  rcases hk:bY x with _|k
  .
   refine lC 20 a (cZ x (by first|omega|(rw[ByteArray.size_extract];omega)) hk _ _ a.g) ?_;rintro _ w9 _ a ⟨_,rfl,A5,c6,rfl,hc7,y⟩;replace a:=a.aS y;refine lL a [.c,.v (qS A5 ((lim 0).length) c6),.v qF,.c,.c] (ai (aa a [.c,.v qT,.c] (lG 26 ?_)));exact lG 27 (lG 28 (lG 29 (lG 30 (lG 31 (lL a [.v qT] (ak (aa a [.v (.agg #[qF,sZ])] (lP 0 0 ([qF,sZ]) a (fun _ a=>lL a ac (af a [(0,0,2)] (.tuple #[.agg #[qF,sZ],qF]) (by rw[dy (show aj x 0≠45 by first|omega|(rw[cw oM];decide)),hk];exact ⟨_,rfl,none,0,rfl,nR _,SlO.nil⟩)))))))))))
  refine lC 20 a (cW x k (by first|omega|(rw[ByteArray.size_extract];omega)) hk _ _ a.g) ?_;rintro _ _ _ a ⟨_,rfl,F,H,rfl,zr,zs⟩;replace a:=a.aS zs;have l:=@bI k;have b:=cv hk;have d:=gO (JM b);refine lL a [.c,.v (qS F ((lim k).length) H),.v qT,.c,.c] (ai (aa a [.c,.v qF,.c,.c,.c] (lG 28 ?_)));refine lG 29 (lG 30 (lL a [.v qF,.v qF] (ah (cK (aa a aF (lC 36 a (rI false k F H zr _ _ a.g a.f.1) ?_))))));rintro _ _ _ a ⟨L,J,rfl,W,zu⟩;replace a:=a.aS zu;exact lP 0 0 ([.bool (au (bE false k)),qS L ((lim (ab (bE false k))).length) J]) a (fun _ a=>lL a ac (af a [(0,0,2)] (.tuple #[.agg #[.bool (au (bE false k)),qS L ((lim (ab (bE false k))).length) J],qT]) (by rw[dy (show aj x 0≠45 by first|omega|(rw[cw oM];decide)),hk];exact ⟨_,rfl,_,_,rfl,W,a.f.1⟩)))
 have o:=oT e;refine lB 9 e (lL a aF (lV 12 (.int .u8 (aj x 0:Nat)) ?_ (hr:=aR (tx:=9) (x:=.tmp 11) (i:=.const (iV 0)) (k:=.i64) (s:=x) (n:=0) (j:=(0:Int)) kR kR kR kR oM oM _)));cases u:(((aj x 0:Nat):Int) == (45:Int))
 .
  have zc:=ao u;refine lB 13 u (lL a [.v qF,.c] (ai (aa a ac (ah (cK (aa a ac ?_))))))
  rcases hk:bY x with _|k
  .
   refine lC 20 a (cZ x (by first|omega|(rw[ByteArray.size_extract];omega)) hk _ _ a.g) ?_;rintro _ _ _ a ⟨_,rfl,zJ,zK,rfl,Q,zv⟩;replace a:=a.aS zv;refine lL a [.c,.v (qS zJ ((lim 0).length) zK),.v qF,.c,.c] (ai (aa a [.c,.v qT,.c] (lG 26 ?_)));exact lG 27 (lG 28 (lG 29 (lG 30 (lG 31 (lL a [.v qT] (ak (aa a [.v (.agg #[qF,sZ])] (lP 0 0 ([qF,sZ]) a (fun _ a=>lL a ac (af a [(0,0,2)] (.tuple #[.agg #[qF,sZ],qF]) (by rw[dy (show aj x 0≠45 by first|omega|(rw[cw oM];decide)),hk];exact ⟨_,rfl,none,0,rfl,nR _,SlO.nil⟩)))))))))))
  refine lC 20 a (cW x k (by first|omega|(rw[ByteArray.size_extract];omega)) hk _ _ a.g) ?_;rintro _ _ _ a ⟨_,rfl,O,I,rfl,zw,zx⟩;replace a:=a.aS zx;have l:=@bI k;have b:=cv hk;have d:=gO (JM b);refine lL a [.c,.v (qS O ((lim k).length) I),.v qT,.c,.c] (ai (aa a [.c,.v qF,.c,.c,.c] (lG 28 ?_)));refine lG 29 (lG 30 (lL a [.v qF,.v qF] (ah (cK (aa a aF (lC 36 a (rI false k O I zw _ _ a.g a.f.1) ?_))))));rintro _ _ _ a ⟨D,z,rfl,zA,zB⟩;replace a:=a.aS zB;exact lP 0 0 ([.bool (au (bE false k)),qS D ((lim (ab (bE false k))).length) z]) a (fun _ a=>lL a ac (af a [(0,0,2)] (.tuple #[.agg #[.bool (au (bE false k)),qS D ((lim (ab (bE false k))).length) z],qT]) (by rw[dy (show aj x 0≠45 by first|omega|(rw[cw oM];decide)),hk];exact ⟨_,rfl,_,_,rfl,zA,a.f.1⟩)))
 have zc:=eq_of_beq u;refine lB 13 u (lL a [.v qT,.c] (ai (aa a ac (ak (kQ (lL a ac (lV 17 (.string (x.extract 1 x.size)) ?_ (hr:=fv (tx:=9) (x:=.tmp 16) (i:=.const (iV 1)) (k:=.i64) (s:=x) (n:=1) (j:=(1:Int)) kR kR kR kR oM oM _))))))));refine lL a ac (aE (lL a ac ?_))
 rcases hk:bY (x.extract 1 x.size) with _|k
 .
  refine lC 20 a (cZ (x.extract 1 x.size) (by first|omega|(rw[ByteArray.size_extract];omega)) hk _ _ a.g) ?_;rintro _ _ _ a ⟨_,rfl,zL,X,rfl,B,Y⟩;replace a:=a.aS Y;refine lL a [.c,.v (qS zL ((lim 0).length) X),.v qF,.c,.c] (ai (aa a [.c,.v qT,.c] (lG 26 ?_)));exact lG 27 (lG 28 (lG 29 (lG 30 (lG 31 (lL a [.v qT] (ak (aa a [.v (.agg #[qF,sZ])] (lP 0 0 ([qF,sZ]) a (fun _ a=>lL a ac (af a [(0,0,2)] (.tuple #[.agg #[qF,sZ],qF]) (by rw[dP (show aj x 0=45 by omega) (.inl hk)];exact ⟨_,rfl,none,0,rfl,nR _,SlO.nil⟩)))))))))))
 refine lC 20 a (cW (x.extract 1 x.size) k (by first|omega|(rw[ByteArray.size_extract];omega)) hk _ _ a.g) ?_;rintro _ _ _ a ⟨_,rfl,M,S,rfl,V,zG⟩;replace a:=a.aS zG;have l:=@bI k;have b:=cv hk;have d:=gO (JM b);refine lL a [.c,.v (qS M ((lim k).length) S),.v qT,.c,.c] (ai (aa a [.c,.v qF,.c,.c,.c,.c,.v (nV ((lim k).length))] ?_));cases p:((((lim k).length:Nat):Int) == (0:Int))
 .
  have zd:=ao p;refine lB 30 p (lL a [.v qF,.v qF] (ah (cK (aa a aF (lC 36 a (rI true k M S V _ _ a.g a.f.1) ?_)))));rintro _ _ _ a ⟨C,K,rfl,Z,zI⟩;replace a:=a.aS zI;exact lP 0 0 ([.bool (au (bE true k)),qS C ((lim (ab (bE true k))).length) K]) a (fun _ a=>lL a ac (af a [(0,0,2)] (.tuple #[.agg #[.bool (au (bE true k)),qS C ((lim (ab (bE true k))).length) K],qT]) (by rw[kV (show aj x 0=45 by omega) hk oM];exact ⟨_,rfl,_,_,rfl,Z,a.f.1⟩)))
 have zd:=eq_of_beq p;exact lB 30 p (lL a [.v qT,.v qT] (ak (aa a [.v (.agg #[qF,sZ])] (lP 0 0 ([qF,sZ]) a (fun _ a=>lL a ac (af a [(0,0,2)] (.tuple #[.agg #[qF,sZ],qF]) (by rw[dP (show aj x 0=45 by omega) (.inr (by rw[hk,show k=0 by omega]))];exact ⟨_,rfl,none,0,rfl,nR _,SlO.nil⟩)))))))
theorem l7 (x:ByteArray)(b:Int)(d:x.size<=1000000)(a:en x=some b)(w:World)(h:Hp)(g:G w h):CR 166 #[.string x] w h (fun v h1=>∃ c,v=.tuple #[c,.bool true]/\RI h1 c b):=by
 have q:=mB x d w h g;rw[a] at q;exact q
theorem l8 (x:ByteArray)(c:x.size<=1000000)(a:en x=none)(w:World)(h:Hp)(g:G w h):CR 166 #[.string x] w h (fun v h1=>∃ b,v=.tuple #[b,.bool false]/\RI h1 b 0):=by
 have q:=mB x c w h g;rw[a] at q;exact q
theorem vR (x y:ByteArray)(hx:x.size<=1000000)(hy:y.size<=1000000)(w:World)(h:Hp)(g:G w h):CR 169 #[.string x,.string y] w h (fun v h1=>∃ v1,v=.tuple #[v1,.bool (fK x y).isSome]/\RQ h1 v1 ((fK x y).getD 0)):=by
 have a:=sS g;refine go Tryz.func169 [(0,.string x),(1,.string y)] rfl (aG (lA 4 42 ([qF,sZ,sZ]) a (fun b1 w2 h3 a=>lL a ac (aE (lL a [.c,.v (nV x.size)] ?_)))));cases M:(decide ((0:Int)<(x.size:Int)))
 .
  have hn:=oF M;refine lB 12 M (lL a ac (lG 14 ?_));refine lG 15 (lG 16 (lL a [.v qF,.c] (ai (aa a ac (ah (cK (aa a ac ?_)))))))
  rcases hk:bY x with _|k
  .
   refine lC 23 a (cZ x (by first|omega|(rw[ByteArray.size_extract];omega)) hk _ _ a.g) ?_;rintro _ w9 _ a ⟨_,rfl,A5,c6,rfl,hc7,hA8⟩;replace a:=a.aS hA8;refine lL a [.c,.v (qS A5 ((lim 0).length) c6),.v qF,.c,.c] (ai (aa a [.c,.v qT,.c] (lG 29 ?_)));refine lG 30 (lG 31 (lL a [.v qT,.c] (lG 34 ?_)));refine lG 35 (lG 36 (lL a [.v qT] (ak (aG (lC 38 a (gk _ _ a.g) ?_)))));rintro _ _ _ a ⟨A11,c12,A15,c16,rfl,d0,cr,hl,hw⟩;replace a:=a.aP hl hw;exact lP 0 0 (gF (0:Rat) A11 c12 A15 c16) a (fun _ a=>lL a ac (af a [(0,0,3)] (.tuple #[rG (0:Rat) A11 c12 A15 c16,qF]) (by rw[iJ (if_neg (show aj x 0≠45 by first|omega|(rw[cw oM];decide))) hk];exact ⟨_,rfl,⟨_,_,_,_,rfl,d0,cr,a.f.2.1,a.f.1⟩⟩)))
  refine lC 23 a (cW x k (by first|omega|(rw[ByteArray.size_extract];omega)) hk _ _ a.g) ?_;rintro _ _ h27 a ⟨_,rfl,zt,c23,rfl,h9,f3⟩;replace a:=a.aS f3;have Q:=@bI k;have b:=cv hk;have I:=gO (JM b);refine lL a [.c,.v (qS zt ((lim k).length) c23),.v qT,.c,.c] (ai (aa a [.c,.v qF,.c,.c,.v (nV y.size)] ?_));cases zm:(decide ((y.size:Int)<(1:Int)))
  .
   have Zm:=oF zm;refine lB 31 zm (lL a [.v qF,.c,.c,.v (nV y.size)] ?_);cases zn:(decide ((200:Int)<(y.size:Int)))
   .
    have Zn:=oF zn;refine lB 36 zn (lL a [.v qF] (ah (cK (cQ (aa a ac (bx ?_))))));replace a:=a.aS a.f.1;refine bG _ (CG.loop (fun L Γ w_=>∃ (j:Nat)(V:Nat)(u:Z9)(p:Nat)(e:Hp),L=y.size-j/\Γ=[(1,.string y),(4,pB b1),(6,qF),(9,nV j),(7,qS u ((lim V).length) p)]/\SS w h w_ e [⟨b1,42,[qF,sZ,sZ]⟩] [] [S3 u (lim V),S3 zt (lim k)]/\j<=y.size/\(∀ i,i<j->48<=aj y i/\aj y i<=57)/\V=k*10^j+dv y j/\(lim V).length<=p) _ ⟨0,k,zt,c23,h27,rfl,rfl,a.to _ _,JF _,(fun i e=>absurd e oM),(by rw[JG,I1];rfl),h9⟩ ?_);rintro _ _ _ ⟨j,V,u,p,_,k4,rfl,a,hj,o,K,B⟩;have O:=bh y j;have F:=fR (x:=y) j o;have S:V<10^200*10^200:=by rw[K];exact jK b oM F
    have H:=dN (n:=V) oM;have J:(lim V).length<=4000000000:=by omega
    have z:(lim (V*10)).length<=4000000000:=by have:=dN (n:=V*10) oM;omega
    have D:V*10+(aj y j-48)=k*10^(j+1)+dv y (j+1):=by rw[K,z1];show _=k*(10^j*10)+(dv y j*10+(aj y j-48));rw[I4,z8];omega
    refine cQ (aa a [.c,.c,.v (nV y.size)] ?_);cases zo:(decide ((j:Int)<(y.size:Int)))
    .
     have Zo:=oF zo;refine lB 42 zo (ah (CG.exit ?_))
     show CG _ _ _ _ _ _ _ _
     refine aa a aF (lC 68 a (rI false V u p B _ _ a.g a.f.1) ?_);rintro _ _ _ a ⟨A34,c35,rfl,df,ch⟩;replace a:=a.aS ch;refine lR 69 158 1 ([uW 10]) a (fun b40 _ _ a=>?_);replace a:=a.aS (SlO.of_flat (sz:=1) (f:=aW) (d:=0) (l:=[10]) (fun _=>rfl) a.f.1);refine lL a [.c,.v (nV y.size)] (lC 72 a (jW y.size oM (sB b40) 1 (show (lim 10).length<=1 from nR _) _ _ a.g a.f.1) ?_);rintro _ _ _ a ⟨A45,c46,rfl,hd,cz⟩;replace a:=a.aS cz;refine lC 73 a (rI false (10^y.size) A45 c46 hd _ _ a.g a.f.1) ?_;rintro _ _ _ a ⟨A51,c52,rfl,dn,cm⟩;replace a:=a.aS cm;refine lC 74 a (rH (bE false V) A34 c35 df (by rw[cd];omega) (bE false (10^y.size)) A51 c52 dn (by rw[cd];exact ed (dN (ed (A4 kD (show y.size<=200 by omega)) kD)) kD) (by rw[iq];exact Ku (Kv.2 (F2 kD))) _ _ a.g a.f.q.1 a.f.1) ?_;rintro _ _ _ a ⟨A57,c58,A61,c62,rfl,c8,h4,hb,c5⟩;replace a:=a.aP hb c5;exact lP 0 0 (gF (ne (bE false V) (bE false (10^y.size))) A57 c58 A61 c62) a (fun _ a=>lL a ac (af a [(0,0,3)] (.tuple #[rG (ne (bE false V) (bE false (10^y.size))) A57 c58 A61 c62,qT]) (by have C:j=y.size:=oM;subst C;rw[g8 (if_neg (show aj x 0≠45 by first|omega|(rw[cw oM];decide))) (decide_eq_false (show aj x 0≠45 by first|omega|(rw[cw oM];decide))) hk oM oM o,<-K,<-jn];exact ⟨_,rfl,⟨_,_,_,_,rfl,c8,h4,a.f.2.1,a.f.1⟩⟩)))
    have Zo:=oT zo;refine lB 42 zo (ak (cK (cQ (kZ (cQ (aa a aF (lV 47 (.int .u8 (aj y j:Nat)) ?_ (hr:=aR (tx:=9) (x:=.tmp 45) (i:=.tmp 46) (k:=.i64) (s:=y) (n:=j) (j:=(j:Int)) kR kR kR kR oM oM _))))))));cases zp:(decide (((aj y j:Nat):Int)<(48:Int)))
    .
     have Zp:=oF zp;refine lB 48 zp (lL a dx (lV 52 (.int .u8 (aj y j:Nat)) ?_ (hr:=aR (tx:=9) (x:=.tmp 50) (i:=.tmp 51) (k:=.i64) (s:=y) (n:=j) (j:=(j:Int)) kR kR kR kR oM oM _)));cases zq:(decide ((57:Int)<((aj y j:Nat):Int)))
     .
      have Zq:=oF zq;refine lB 53 zq (lL a [.v qF] (ah (cK (cR 10 [] mixed a aw ?_))));refine eV 0 56 (qS u ((lim V).length) p) (eV 3 59 (.string y) (eV 4 60 (nV j) (eV 5 61 (.int .u8 (aj y j:Nat)) ?_ (hv:=fun _=>aR (tx:=9) (x:=.tmp 59) (i:=.tmp 60) (k:=.i64) (s:=y) (n:=j) (j:=(j:Int)) kR kR kR kR oM oM _))));refine eV 6 62 (.int .u8 ((aj y j)-48:Nat)) ?_ (hv:=fun _=>aN (n:=IntKind.wrap .u8 (((aj y j:Nat):Int)-(48:Int))) kR (oc (aj y j) 48 oM oM));refine eV 7 63 (mV ((aj y j)-48)) ?_ (hv:=fun _=>rU ((((aj y j)-48:Nat):Int)) kR (ay oM oM));refine eR 1 57 158 1 ([uW 10]) a (fun b70 _ _ a=>?_);replace a:=a.aS (SlO.of_flat (sz:=1) (f:=aW) (d:=0) (l:=[10]) (fun _=>rfl) a.f.1);refine eC 2 58 a (fun _ _ a=>kP V u p B J (sB b70) 1 _ _ a.g a.f.r.1 a.f.1) ?_;rintro _ _ _ _ _ a ⟨A75,c76,rfl,b9,hp⟩;replace a:=a.aS hp;refine eC 8 64 a (fun _ _ a=>ew (aj y j-48) oM _ _ a.g) ?_;rintro _ _ _ _ _ a ⟨A81,c82,rfl,b4,fn⟩;replace a:=a.aS fn;refine eC 9 65 a (fun _ _ a=>iA (V*10) A75 c76 b9 (aj y j-48) A81 c82 b4 z (mY oM) _ _ a.g a.f.2.1 a.f.1) ?_;rintro _ _ _ _ _ a ⟨A87,c88,rfl,h5,ds⟩;replace a:=a.aS ds;refine cG a (fun _ h94 a=>tV 10 7 (qS A87 ((lim (V*10+(aj y j-48))).length) c88) (tN (kQ (lL a ac (bg 44 ((j:Nat)+1) (j+1) ?_)))));refine lL a ac (lD ?_);intro a_ ka;replace a:=(a.tl.tl.tl.tl.tl.tl.aS a.f.1);refine ⟨_,_,?_,⟨j+1,(V*10+(aj y j-48)),A87,c88,h94,rfl,rfl,a.to _ _,oM,(fun i e=>by rcases Kf.1 e with e|rfl;exact o i e;omega),D,h5⟩,ka.to _ kR⟩
      omega
     have Zq:=oT zq;refine lB 53 zq (lL a [.v qT] (ak (aG (lC 55 a (gk _ _ a.g) ?_))));rintro _ _ _ a ⟨zu,zv,zw,zx,rfl,Zr,Zs,Zt,Zu⟩;replace a:=a.aP Zt Zu;exact lP 0 0 (gF (0:Rat) zu zv zw zx) a (fun _ a=>lL a ac (af a [(0,0,3)] (.tuple #[rG (0:Rat) zu zv zw zx,qF]) (by rw[dW (i:=j) oM oM];exact ⟨_,rfl,⟨_,_,_,_,rfl,Zr,Zs,a.f.2.1,a.f.1⟩⟩)))
    have Zp:=oT zp;refine lB 48 zp (lL a ac (lG 50 ?_));refine lG 51 (lG 52 (lG 53 (lL a [.v qT] (ak (aG (lC 55 a (gk _ _ a.g) ?_))))));rintro _ _ _ a ⟨zA,zB,zD,zE,rfl,Zv,Zw,Zx,ZA⟩;replace a:=a.aP Zx ZA;exact lP 0 0 (gF (0:Rat) zA zB zD zE) a (fun _ a=>lL a ac (af a [(0,0,3)] (.tuple #[rG (0:Rat) zA zB zD zE,qF]) (by rw[dW (i:=j) oM oM];exact ⟨_,rfl,⟨_,_,_,_,rfl,Zv,Zw,a.f.2.1,a.f.1⟩⟩)))
   have Zn:=oT zn;refine lB 36 zn (lL a [.v qT] (ak (aG (lC 38 a (gk _ _ a.g) ?_))));rintro _ _ _ a ⟨zG,zH,zI,zJ,rfl,ZB,ZC,ZD,ZE⟩;replace a:=a.aP ZD ZE;exact lP 0 0 (gF (0:Rat) zG zH zI zJ) a (fun _ a=>lL a ac (af a [(0,0,3)] (.tuple #[rG (0:Rat) zG zH zI zJ,qF]) (by rw[fl (if_neg (show aj x 0≠45 by first|omega|(rw[cw oM];decide))) hk oM];exact ⟨_,rfl,⟨_,_,_,_,rfl,ZB,ZC,a.f.2.1,a.f.1⟩⟩)))
  have Zm:=oT zm;refine lB 31 zm (lL a [.v qT,.c] (lG 34 ?_));refine lG 35 (lG 36 (lL a [.v qT] (ak (aG (lC 38 a (gk _ _ a.g) ?_)))));rintro _ _ _ a ⟨zK,zL,zM,zN,rfl,ZF,ZG,ZH,ZI⟩;replace a:=a.aP ZH ZI;exact lP 0 0 (gF (0:Rat) zK zL zM zN) a (fun _ a=>lL a ac (af a [(0,0,3)] (.tuple #[rG (0:Rat) zK zL zM zN,qF]) (by rw[fl (if_neg (show aj x 0≠45 by first|omega|(rw[cw oM];decide))) hk oM];exact ⟨_,rfl,⟨_,_,_,_,rfl,ZF,ZG,a.f.2.1,a.f.1⟩⟩)))
 have hn:=oT M;refine lB 12 M (lL a aF (lV 15 (.int .u8 (aj x 0:Nat)) ?_ (hr:=aR (tx:=9) (x:=.tmp 14) (i:=.const (iV 0)) (k:=.i64) (s:=x) (n:=0) (j:=(0:Int)) kR kR kR kR oM oM _)));cases za:(((aj x 0:Nat):Int) == (45:Int))
 .
  have zP:=ao za;refine lB 16 za (lL a [.v qF,.c] (ai (aa a ac (ah (cK (aa a ac ?_))))))
  rcases hk:bY x with _|k
  .
   refine lC 23 a (cZ x (by first|omega|(rw[ByteArray.size_extract];omega)) hk _ _ a.g) ?_;rintro _ _ _ a ⟨_,rfl,b7,hh,rfl,k1,ZJ⟩;replace a:=a.aS ZJ;refine lL a [.c,.v (qS b7 ((lim 0).length) hh),.v qF,.c,.c] (ai (aa a [.c,.v qT,.c] (lG 29 ?_)));refine lG 30 (lG 31 (lL a [.v qT,.c] (lG 34 ?_)));refine lG 35 (lG 36 (lL a [.v qT] (ak (aG (lC 38 a (gk _ _ a.g) ?_)))));rintro _ _ _ a ⟨zQ,zR,zS,zU,rfl,ZK,ZL,ZM,ZN⟩;replace a:=a.aP ZM ZN;exact lP 0 0 (gF (0:Rat) zQ zR zS zU) a (fun _ a=>lL a ac (af a [(0,0,3)] (.tuple #[rG (0:Rat) zQ zR zS zU,qF]) (by rw[iJ (if_neg (show aj x 0≠45 by first|omega|(rw[cw oM];decide))) hk];exact ⟨_,rfl,⟨_,_,_,_,rfl,ZK,ZL,a.f.2.1,a.f.1⟩⟩)))
  refine lC 23 a (cW x k (by first|omega|(rw[ByteArray.size_extract];omega)) hk _ _ a.g) ?_;rintro _ _ cx a ⟨_,rfl,zr,zW,rfl,ZO,ZP⟩;replace a:=a.aS ZP;have Q:=@bI k;have b:=cv hk;have I:=gO (JM b);refine lL a [.c,.v (qS zr ((lim k).length) zW),.v qT,.c,.c] (ai (aa a [.c,.v qF,.c,.c,.v (nV y.size)] ?_));cases zb:(decide ((y.size:Int)<(1:Int)))
  .
   have zX:=oF zb;refine lB 31 zb (lL a [.v qF,.c,.c,.v (nV y.size)] ?_);cases zc:(decide ((200:Int)<(y.size:Int)))
   .
    have ya:=oF zc;refine lB 36 zc (lL a [.v qF] (ah (cK (cQ (aa a ac (bx ?_))))));replace a:=a.aS a.f.1;refine bG _ (CG.loop (fun L Γ w_=>∃ (j:Nat)(V:Nat)(u:Z9)(p:Nat)(e:Hp),L=y.size-j/\Γ=[(1,.string y),(4,pB b1),(6,qF),(9,nV j),(7,qS u ((lim V).length) p)]/\SS w h w_ e [⟨b1,42,[qF,sZ,sZ]⟩] [] [S3 u (lim V),S3 zr (lim k)]/\j<=y.size/\(∀ i,i<j->48<=aj y i/\aj y i<=57)/\V=k*10^j+dv y j/\(lim V).length<=p) _ ⟨0,k,zr,zW,cx,rfl,rfl,a.to _ _,JF _,(fun i e=>absurd e oM),(by rw[JG,I1];rfl),ZO⟩ ?_);rintro _ _ _ ⟨j,V,u,p,_,kx,rfl,a,hj,o,K,B⟩;have O:=bh y j;have F:=fR (x:=y) j o;have S:V<10^200*10^200:=by rw[K];exact jK b oM F
    have H:=dN (n:=V) oM;have J:(lim V).length<=4000000000:=by omega
    have z:(lim (V*10)).length<=4000000000:=by have:=dN (n:=V*10) oM;omega
    have D:V*10+(aj y j-48)=k*10^(j+1)+dv y (j+1):=by rw[K,z1];show _=k*(10^j*10)+(dv y j*10+(aj y j-48));rw[I4,z8];omega
    refine cQ (aa a [.c,.c,.v (nV y.size)] ?_);cases zd:(decide ((j:Int)<(y.size:Int)))
    .
     have yb:=oF zd;refine lB 42 zd (ah (CG.exit ?_))
     show CG _ _ _ _ _ _ _ _
     refine aa a aF (lC 68 a (rI false V u p B _ _ a.g a.f.1) ?_);rintro _ _ _ a ⟨h6,dk,rfl,ZQ,ZR⟩;replace a:=a.aS ZR;refine lR 69 158 1 ([uW 10]) a (fun f1 _ _ a=>?_);replace a:=a.aS (SlO.of_flat (sz:=1) (f:=aW) (d:=0) (l:=[10]) (fun _=>rfl) a.f.1);refine lL a [.c,.v (nV y.size)] (lC 72 a (jW y.size oM (sB f1) 1 (show (lim 10).length<=1 from nR _) _ _ a.g a.f.1) ?_);rintro _ _ _ a ⟨j8,b5,rfl,ZS,ZT⟩;replace a:=a.aS ZT;refine lC 73 a (rI false (10^y.size) j8 b5 ZS _ _ a.g a.f.1) ?_;rintro _ _ _ a ⟨h2,cq,rfl,ZU,ZV⟩;replace a:=a.aS ZV;refine lC 74 a (rH (bE false V) h6 dk ZQ (by rw[cd];omega) (bE false (10^y.size)) h2 cq ZU (by rw[cd];exact ed (dN (ed (A4 kD (show y.size<=200 by omega)) kD)) kD) (by rw[iq];exact Ku (Kv.2 (F2 kD))) _ _ a.g a.f.q.1 a.f.1) ?_;rintro _ _ _ a ⟨yc,yd,ye,yf,rfl,ZW,ZX,Ya,Yb⟩;replace a:=a.aP Ya Yb;exact lP 0 0 (gF (ne (bE false V) (bE false (10^y.size))) yc yd ye yf) a (fun _ a=>lL a ac (af a [(0,0,3)] (.tuple #[rG (ne (bE false V) (bE false (10^y.size))) yc yd ye yf,qT]) (by have C:j=y.size:=oM;subst C;rw[g8 (if_neg (show aj x 0≠45 by first|omega|(rw[cw oM];decide))) (decide_eq_false (show aj x 0≠45 by first|omega|(rw[cw oM];decide))) hk oM oM o,<-K,<-jn];exact ⟨_,rfl,⟨_,_,_,_,rfl,ZW,ZX,a.f.2.1,a.f.1⟩⟩)))
    have yb:=oT zd;refine lB 42 zd (ak (cK (cQ (kZ (cQ (aa a aF (lV 47 (.int .u8 (aj y j:Nat)) ?_ (hr:=aR (tx:=9) (x:=.tmp 45) (i:=.tmp 46) (k:=.i64) (s:=y) (n:=j) (j:=(j:Int)) kR kR kR kR oM oM _))))))));cases ze:(decide (((aj y j:Nat):Int)<(48:Int)))
    .
     have yg:=oF ze;refine lB 48 ze (lL a dx (lV 52 (.int .u8 (aj y j:Nat)) ?_ (hr:=aR (tx:=9) (x:=.tmp 50) (i:=.tmp 51) (k:=.i64) (s:=y) (n:=j) (j:=(j:Int)) kR kR kR kR oM oM _)));cases zf:(decide ((57:Int)<((aj y j:Nat):Int)))
     .
      have yi:=oF zf;refine lB 53 zf (lL a [.v qF] (ah (cK (cR 10 [] mixed a aw ?_))));refine eV 0 56 (qS u ((lim V).length) p) (eV 3 59 (.string y) (eV 4 60 (nV j) (eV 5 61 (.int .u8 (aj y j:Nat)) ?_ (hv:=fun _=>aR (tx:=9) (x:=.tmp 59) (i:=.tmp 60) (k:=.i64) (s:=y) (n:=j) (j:=(j:Int)) kR kR kR kR oM oM _))));refine eV 6 62 (.int .u8 ((aj y j)-48:Nat)) ?_ (hv:=fun _=>aN (n:=IntKind.wrap .u8 (((aj y j:Nat):Int)-(48:Int))) kR (oc (aj y j) 48 oM oM));refine eV 7 63 (mV ((aj y j)-48)) ?_ (hv:=fun _=>rU ((((aj y j)-48:Nat):Int)) kR (ay oM oM));refine eR 1 57 158 1 ([uW 10]) a (fun fz _ _ a=>?_);replace a:=a.aS (SlO.of_flat (sz:=1) (f:=aW) (d:=0) (l:=[10]) (fun _=>rfl) a.f.1);refine eC 2 58 a (fun _ _ a=>kP V u p B J (sB fz) 1 _ _ a.g a.f.r.1 a.f.1) ?_;rintro _ _ _ _ _ a ⟨dc,b2,rfl,Yc,Yd⟩;replace a:=a.aS Yd;refine eC 8 64 a (fun _ _ a=>ew (aj y j-48) oM _ _ a.g) ?_;rintro _ _ _ _ _ a ⟨dp,ht,rfl,Ye,Yf⟩;replace a:=a.aS Yf;refine eC 9 65 a (fun _ _ a=>iA (V*10) dc b2 Yc (aj y j-48) dp ht Ye z (mY oM) _ _ a.g a.f.2.1 a.f.1) ?_;rintro _ _ _ _ _ a ⟨yj,yk,rfl,Yg,Yi⟩;replace a:=a.aS Yi;refine cG a (fun _ d2 a=>tV 10 7 (qS yj ((lim (V*10+(aj y j-48))).length) yk) (tN (kQ (lL a ac (bg 44 ((j:Nat)+1) (j+1) ?_)))));refine lL a ac (lD ?_);intro a_ ka;replace a:=(a.tl.tl.tl.tl.tl.tl.aS a.f.1);refine ⟨_,_,?_,⟨j+1,(V*10+(aj y j-48)),yj,yk,d2,rfl,rfl,a.to _ _,oM,(fun i e=>by rcases Kf.1 e with e|rfl;exact o i e;omega),D,Yg⟩,ka.to _ kR⟩
      omega
     have yi:=oT zf;refine lB 53 zf (lL a [.v qT] (ak (aG (lC 55 a (gk _ _ a.g) ?_))));rintro _ _ _ a ⟨yl,ym,yn,yo,rfl,Yj,Yk,Yl,Ym⟩;replace a:=a.aP Yl Ym;exact lP 0 0 (gF (0:Rat) yl ym yn yo) a (fun _ a=>lL a ac (af a [(0,0,3)] (.tuple #[rG (0:Rat) yl ym yn yo,qF]) (by rw[dW (i:=j) oM oM];exact ⟨_,rfl,⟨_,_,_,_,rfl,Yj,Yk,a.f.2.1,a.f.1⟩⟩)))
    have yg:=oT ze;refine lB 48 ze (lL a ac (lG 50 ?_));refine lG 51 (lG 52 (lG 53 (lL a [.v qT] (ak (aG (lC 55 a (gk _ _ a.g) ?_))))));rintro _ _ _ a ⟨yp,yq,yr,ys,rfl,Yn,Yo,Yp,Yq⟩;replace a:=a.aP Yp Yq;exact lP 0 0 (gF (0:Rat) yp yq yr ys) a (fun _ a=>lL a ac (af a [(0,0,3)] (.tuple #[rG (0:Rat) yp yq yr ys,qF]) (by rw[dW (i:=j) oM oM];exact ⟨_,rfl,⟨_,_,_,_,rfl,Yn,Yo,a.f.2.1,a.f.1⟩⟩)))
   have ya:=oT zc;refine lB 36 zc (lL a [.v qT] (ak (aG (lC 38 a (gk _ _ a.g) ?_))));rintro _ _ _ a ⟨yt,yu,yv,yw,rfl,Yr,Ys,Yt,Yu⟩;replace a:=a.aP Yt Yu;exact lP 0 0 (gF (0:Rat) yt yu yv yw) a (fun _ a=>lL a ac (af a [(0,0,3)] (.tuple #[rG (0:Rat) yt yu yv yw,qF]) (by rw[fl (if_neg (show aj x 0≠45 by first|omega|(rw[cw oM];decide))) hk oM];exact ⟨_,rfl,⟨_,_,_,_,rfl,Yr,Ys,a.f.2.1,a.f.1⟩⟩)))
  have zX:=oT zb;refine lB 31 zb (lL a [.v qT,.c] (lG 34 ?_));refine lG 35 (lG 36 (lL a [.v qT] (ak (aG (lC 38 a (gk _ _ a.g) ?_)))));rintro _ _ _ a ⟨yx,yA,yB,yC,rfl,Yv,Yw,Yx,YA⟩;replace a:=a.aP Yx YA;exact lP 0 0 (gF (0:Rat) yx yA yB yC) a (fun _ a=>lL a ac (af a [(0,0,3)] (.tuple #[rG (0:Rat) yx yA yB yC,qF]) (by rw[fl (if_neg (show aj x 0≠45 by first|omega|(rw[cw oM];decide))) hk oM];exact ⟨_,rfl,⟨_,_,_,_,rfl,Yv,Yw,a.f.2.1,a.f.1⟩⟩)))
 have zP:=eq_of_beq za;refine lB 16 za (lL a [.v qT,.c] (ai (aa a ac (ak (kQ (lL a ac (lV 20 (.string (x.extract 1 x.size)) ?_ (hr:=fv (tx:=9) (x:=.tmp 19) (i:=.const (iV 1)) (k:=.i64) (s:=x) (n:=1) (j:=(1:Int)) kR kR kR kR oM oM _))))))));refine lL a ac (aE (lL a ac ?_))
 rcases hk:bY (x.extract 1 x.size) with _|k
 .
  refine lC 23 a (cZ (x.extract 1 x.size) (by first|omega|(rw[ByteArray.size_extract];omega)) hk _ _ a.g) ?_;rintro _ _ _ a ⟨_,rfl,hm,hc,rfl,k3,YB⟩;replace a:=a.aS YB;refine lL a [.c,.v (qS hm ((lim 0).length) hc),.v qF,.c,.c] (ai (aa a [.c,.v qT,.c] (lG 29 ?_)));refine lG 30 (lG 31 (lL a [.v qT,.c] (lG 34 ?_)));refine lG 35 (lG 36 (lL a [.v qT] (ak (aG (lC 38 a (gk _ _ a.g) ?_)))));rintro _ _ _ a ⟨yD,yE,yF,yG,rfl,YC,YD,YE,YF⟩;replace a:=a.aP YE YF;exact lP 0 0 (gF (0:Rat) yD yE yF yG) a (fun _ a=>lL a ac (af a [(0,0,3)] (.tuple #[rG (0:Rat) yD yE yF yG,qF]) (by rw[iJ (if_pos (show aj x 0=45 by omega)) hk];exact ⟨_,rfl,⟨_,_,_,_,rfl,YC,YD,a.f.2.1,a.f.1⟩⟩)))
 refine lC 23 a (cW (x.extract 1 x.size) k (by first|omega|(rw[ByteArray.size_extract];omega)) hk _ _ a.g) ?_;rintro _ _ b3 a ⟨_,rfl,zs,yH,rfl,YG,YH⟩;replace a:=a.aS YH;have Q:=@bI k;have b:=cv hk;have I:=gO (JM b);refine lL a [.c,.v (qS zs ((lim k).length) yH),.v qT,.c,.c] (ai (aa a [.c,.v qF,.c,.c,.v (nV y.size)] ?_));cases zg:(decide ((y.size:Int)<(1:Int)))
 .
  have yI:=oF zg;refine lB 31 zg (lL a [.v qF,.c,.c,.v (nV y.size)] ?_);cases zi:(decide ((200:Int)<(y.size:Int)))
  .
   have yJ:=oF zi;refine lB 36 zi (lL a [.v qF] (ah (cK (cQ (aa a ac (bx ?_))))));replace a:=a.aS a.f.1;refine bG _ (CG.loop (fun L Γ w_=>∃ (j:Nat)(V:Nat)(u:Z9)(p:Nat)(e:Hp),L=y.size-j/\Γ=[(1,.string y),(4,pB b1),(6,qT),(9,nV j),(7,qS u ((lim V).length) p)]/\SS w h w_ e [⟨b1,42,[qF,sZ,sZ]⟩] [] [S3 u (lim V),S3 zs (lim k)]/\j<=y.size/\(∀ i,i<j->48<=aj y i/\aj y i<=57)/\V=k*10^j+dv y j/\(lim V).length<=p) _ ⟨0,k,zs,yH,b3,rfl,rfl,a.to _ _,JF _,(fun i e=>absurd e oM),(by rw[JG,I1];rfl),YG⟩ ?_);rintro _ _ _ ⟨j,V,u,p,_,kt,rfl,a,hj,o,K,B⟩;have O:=bh y j;have F:=fR (x:=y) j o;have S:V<10^200*10^200:=by rw[K];exact jK b oM F
   have H:=dN (n:=V) oM;have J:(lim V).length<=4000000000:=by omega
   have z:(lim (V*10)).length<=4000000000:=by have:=dN (n:=V*10) oM;omega
   have D:V*10+(aj y j-48)=k*10^(j+1)+dv y (j+1):=by rw[K,z1];show _=k*(10^j*10)+(dv y j*10+(aj y j-48));rw[I4,z8];omega
   refine cQ (aa a [.c,.c,.v (nV y.size)] ?_);cases zj:(decide ((j:Int)<(y.size:Int)))
   .
    have yK:=oF zj;refine lB 42 zj (ah (CG.exit ?_))
    show CG _ _ _ _ _ _ _ _
    refine aa a aF (lC 68 a (rI true V u p B _ _ a.g a.f.1) ?_);rintro _ _ _ a ⟨c3,c7,rfl,YI,YJ⟩;replace a:=a.aS YJ;refine lR 69 158 1 ([uW 10]) a (fun fm _ _ a=>?_);replace a:=a.aS (SlO.of_flat (sz:=1) (f:=aW) (d:=0) (l:=[10]) (fun _=>rfl) a.f.1);refine lL a [.c,.v (nV y.size)] (lC 72 a (jW y.size oM (sB fm) 1 (show (lim 10).length<=1 from nR _) _ _ a.g a.f.1) ?_);rintro _ _ _ a ⟨h8,h7,rfl,YK,YL⟩;replace a:=a.aS YL;refine lC 73 a (rI false (10^y.size) h8 h7 YK _ _ a.g a.f.1) ?_;rintro _ _ _ a ⟨fp,j1,rfl,YM,YN⟩;replace a:=a.aS YN;refine lC 74 a (rH (bE true V) c3 c7 YI (by rw[cd];omega) (bE false (10^y.size)) fp j1 YM (by rw[cd];exact ed (dN (ed (A4 kD (show y.size<=200 by omega)) kD)) kD) (by rw[iq];exact Ku (Kv.2 (F2 kD))) _ _ a.g a.f.q.1 a.f.1) ?_;rintro _ _ _ a ⟨yL,yM,yN,yO,rfl,YO,YP,YQ,YR⟩;replace a:=a.aP YQ YR;exact lP 0 0 (gF (ne (bE true V) (bE false (10^y.size))) yL yM yN yO) a (fun _ a=>lL a ac (af a [(0,0,3)] (.tuple #[rG (ne (bE true V) (bE false (10^y.size))) yL yM yN yO,qT]) (by have C:j=y.size:=oM;subst C;rw[g8 (if_pos (show aj x 0=45 by omega)) (decide_eq_true (show aj x 0=45 by omega)) hk oM oM o,<-K,<-jn];exact ⟨_,rfl,⟨_,_,_,_,rfl,YO,YP,a.f.2.1,a.f.1⟩⟩)))
   have yK:=oT zj;refine lB 42 zj (ak (cK (cQ (kZ (cQ (aa a aF (lV 47 (.int .u8 (aj y j:Nat)) ?_ (hr:=aR (tx:=9) (x:=.tmp 45) (i:=.tmp 46) (k:=.i64) (s:=y) (n:=j) (j:=(j:Int)) kR kR kR kR oM oM _))))))));cases zk:(decide (((aj y j:Nat):Int)<(48:Int)))
   .
    have yP:=oF zk;refine lB 48 zk (lL a dx (lV 52 (.int .u8 (aj y j:Nat)) ?_ (hr:=aR (tx:=9) (x:=.tmp 50) (i:=.tmp 51) (k:=.i64) (s:=y) (n:=j) (j:=(j:Int)) kR kR kR kR oM oM _)));cases zl:(decide ((57:Int)<((aj y j:Nat):Int)))
    .
     have yQ:=oF zl;refine lB 53 zl (lL a [.v qF] (ah (cK (cR 10 [] mixed a aw ?_))));refine eV 0 56 (qS u ((lim V).length) p) (eV 3 59 (.string y) (eV 4 60 (nV j) (eV 5 61 (.int .u8 (aj y j:Nat)) ?_ (hv:=fun _=>aR (tx:=9) (x:=.tmp 59) (i:=.tmp 60) (k:=.i64) (s:=y) (n:=j) (j:=(j:Int)) kR kR kR kR oM oM _))));refine eV 6 62 (.int .u8 ((aj y j)-48:Nat)) ?_ (hv:=fun _=>aN (n:=IntKind.wrap .u8 (((aj y j:Nat):Int)-(48:Int))) kR (oc (aj y j) 48 oM oM));refine eV 7 63 (mV ((aj y j)-48)) ?_ (hv:=fun _=>rU ((((aj y j)-48:Nat):Int)) kR (ay oM oM));refine eR 1 57 158 1 ([uW 10]) a (fun cy _ _ a=>?_);replace a:=a.aS (SlO.of_flat (sz:=1) (f:=aW) (d:=0) (l:=[10]) (fun _=>rfl) a.f.1);refine eC 2 58 a (fun _ _ a=>kP V u p B J (sB cy) 1 _ _ a.g a.f.r.1 a.f.1) ?_;rintro _ _ _ _ _ a ⟨hq,c4,rfl,YS,YT⟩;replace a:=a.aS YT;refine eC 8 64 a (fun _ _ a=>ew (aj y j-48) oM _ _ a.g) ?_;rintro _ _ _ _ _ a ⟨d1,kq,rfl,YU,YV⟩;replace a:=a.aS YV;refine eC 9 65 a (fun _ _ a=>iA (V*10) hq c4 YS (aj y j-48) d1 kq YU z (mY oM) _ _ a.g a.f.2.1 a.f.1) ?_;rintro _ _ _ _ _ a ⟨yR,yS,rfl,YW,YX⟩;replace a:=a.aS YX;refine cG a (fun _ b6 a=>tV 10 7 (qS yR ((lim (V*10+(aj y j-48))).length) yS) (tN (kQ (lL a ac (bg 44 ((j:Nat)+1) (j+1) ?_)))));refine lL a ac (lD ?_);intro a_ ka;replace a:=(a.tl.tl.tl.tl.tl.tl.aS a.f.1);refine ⟨_,_,?_,⟨j+1,(V*10+(aj y j-48)),yR,yS,b6,rfl,rfl,a.to _ _,oM,(fun i e=>by rcases Kf.1 e with e|rfl;exact o i e;omega),D,YW⟩,ka.to _ kR⟩
     omega
    have yQ:=oT zl;refine lB 53 zl (lL a [.v qT] (ak (aG (lC 55 a (gk _ _ a.g) ?_))));rintro _ _ _ a ⟨yT,yU,yV,yW,rfl,bq,X,bl,Z⟩;replace a:=a.aP bl Z;exact lP 0 0 (gF (0:Rat) yT yU yV yW) a (fun _ a=>lL a ac (af a [(0,0,3)] (.tuple #[rG (0:Rat) yT yU yV yW,qF]) (by rw[dW (i:=j) oM oM];exact ⟨_,rfl,⟨_,_,_,_,rfl,bq,X,a.f.2.1,a.f.1⟩⟩)))
   have yP:=oT zk;refine lB 48 zk (lL a ac (lG 50 ?_));refine lG 51 (lG 52 (lG 53 (lL a [.v qT] (ak (aG (lC 55 a (gk _ _ a.g) ?_))))));rintro _ _ _ a ⟨yX,Za,Zb,Zc,rfl,W,U,Y,br⟩;replace a:=a.aP Y br;exact lP 0 0 (gF (0:Rat) yX Za Zb Zc) a (fun _ a=>lL a ac (af a [(0,0,3)] (.tuple #[rG (0:Rat) yX Za Zb Zc,qF]) (by rw[dW (i:=j) oM oM];exact ⟨_,rfl,⟨_,_,_,_,rfl,W,U,a.f.2.1,a.f.1⟩⟩)))
  have yJ:=oT zi;refine lB 36 zi (lL a [.v qT] (ak (aG (lC 38 a (gk _ _ a.g) ?_))));rintro _ _ _ a ⟨Zd,Ze,Zf,Zg,rfl,bm,bw,bt,bd⟩;replace a:=a.aP bt bd;exact lP 0 0 (gF (0:Rat) Zd Ze Zf Zg) a (fun _ a=>lL a ac (af a [(0,0,3)] (.tuple #[rG (0:Rat) Zd Ze Zf Zg,qF]) (by rw[fl (if_pos (show aj x 0=45 by omega)) hk oM];exact ⟨_,rfl,⟨_,_,_,_,rfl,bm,bw,a.f.2.1,a.f.1⟩⟩)))
 have yI:=oT zg;refine lB 31 zg (lL a [.v qT,.c] (lG 34 ?_));refine lG 35 (lG 36 (lL a [.v qT] (ak (aG (lC 38 a (gk _ _ a.g) ?_)))));rintro _ _ _ a ⟨Zi,Zj,Zk,Zl,rfl,bp,bk,bb,b0⟩;replace a:=a.aP bb b0;exact lP 0 0 (gF (0:Rat) Zi Zj Zk Zl) a (fun _ a=>lL a ac (af a [(0,0,3)] (.tuple #[rG (0:Rat) Zi Zj Zk Zl,qF]) (by rw[fl (if_pos (show aj x 0=45 by omega)) hk oM];exact ⟨_,rfl,⟨_,_,_,_,rfl,bp,bk,a.f.2.1,a.f.1⟩⟩)))
theorem wW (x:ByteArray)(hx:x.size<=1000000)(w:World)(h:Hp)(g:G w h):CR 132 #[.string x] w h (fun v h1=>∃ v1,v=.tuple #[v1,.bool (cF x).isSome]/\RQ h1 v1 ((cF x).getD 0)):=by
 have a:=sS g;refine go Tryz.func132 [(0,.string x)] rfl (aG (lA 2 42 ([qF,sZ,sZ]) a (fun B w2 h3 a=>lL a ac (ai (aa a ac (bx ?_))))));refine bG _ (CG.loop (fun μ_ Γ w_=>∃ (i:Nat)(d:Hp),μ_=x.size-i/\Γ=[(0,.string x),(2,pB B),(4,nV i)]/\SS w h w_ d [⟨B,42,[qF,sZ,sZ]⟩] [] []/\i<=x.size/\(∀ k,k<i->aj x k≠46/\aj x k≠47)) _ ⟨0,h3,rfl,rfl,a.to _ _,JF _,(fun k d=>absurd d oM)⟩ ?_);rintro _ _ w4 ⟨i,h5,hm6,rfl,a,hi,o⟩;have bm:=bh x i;refine cQ (aa a [.c,.c,.v (nV x.size)] ?_);cases p:(decide ((i:Int)<(x.size:Int)))
 .
  have I:=oF p;refine lB 14 p (ah (CG.exit ?_))
  show CG _ _ _ _ _ _ _ _
  refine aa a ac ?_
  rcases hz:en x with _|z
  .
   refine lC 68 a (l8 x (by first|omega|(rw[ByteArray.size_extract];omega)) hz _ _ a.g) ?_;rintro _ _ _ a ⟨_,rfl,F,c9,rfl,yG,yH⟩;replace a:=a.aS yH;refine lL a [.c,.v (.agg #[.bool (au (0:Int)),qS F ((lim (ab (0:Int))).length) c9]),.v qF] (lA 9 40 ([qF,sZ]) a (fun b14 _ _ a=>lP 0 0 ([.bool (au (0:Int)),qS F ((lim (ab (0:Int))).length) c9]) a (fun _ a=>lL a ac (ai (cR 4 [] mixed a aw ?_)))));refine eO 0 71 [(0,0,2)] (.agg #[.bool (au (0:Int)),qS F ((lim (ab (0:Int))).length) c9]) a (eV 3 74 qF (eC 1 72 a (fun _ _ a=>ew 1 kD _ _ a.g) ?_));rintro _ _ _ _ _ a ⟨X,V,rfl,yI,yJ⟩;replace a:=a.aS yJ;exact eV 2 73 (.agg #[.bool (au (0:Int)),qS F ((lim (ab (0:Int))).length) c9,qS X ((lim 1).length) V]) (cG a (fun _ _ a=>tP 4 1 0 ([.bool (au (0:Int)),qS F ((lim (ab (0:Int))).length) c9,qS X ((lim 1).length) V]) a (fun _ a=>tV 5 3 qF (tN (kX (a.ret [(1,0,3)] (.tuple #[.agg #[.bool (au (0:Int)),qS F ((lim (ab (0:Int))).length) c9,qS X ((lim 1).length) V],qF]) (by rw[k8 (fun k d=>o k oM),hz];refine ⟨_,rfl,?_⟩;unfold RQ;rw[show (((none:Option Int).map fun z=>(z:Rat)).getD 0)=(((0:Int):Int):Rat) from rfl,J7,J9];exact ⟨_,_,_,_,rfl,yG,yI,a.f.2.1,a.f.1⟩)))))))
  refine lC 68 a (l7 x z (by first|omega|(rw[ByteArray.size_extract];omega)) hz _ _ a.g) ?_;rintro _ _ _ a ⟨_,rfl,C,D,rfl,yK,yL⟩;replace a:=a.aS yL;have l:=jo hz;have y:=gO (n:=ab z) (JM l);refine lL a [.c,.v (.agg #[.bool (au z),qS C ((lim (ab z)).length) D]),.v qT] (lA 9 40 ([qF,sZ]) a (fun b33 _ _ a=>lP 0 0 ([.bool (au z),qS C ((lim (ab z)).length) D]) a (fun _ a=>lL a ac (ai (cR 4 [] mixed a aw ?_)))));refine eO 0 71 [(0,0,2)] (.agg #[.bool (au z),qS C ((lim (ab z)).length) D]) a (eV 3 74 qT (eC 1 72 a (fun _ _ a=>ew 1 kD _ _ a.g) ?_));rintro _ _ _ _ _ a ⟨Z,zo,rfl,yM,yN⟩;replace a:=a.aS yN;exact eV 2 73 (.agg #[.bool (au z),qS C ((lim (ab z)).length) D,qS Z ((lim 1).length) zo]) (cG a (fun _ _ a=>tP 4 1 0 ([.bool (au z),qS C ((lim (ab z)).length) D,qS Z ((lim 1).length) zo]) a (fun _ a=>tV 5 3 qT (tN (kX (a.ret [(1,0,3)] (.tuple #[.agg #[.bool (au z),qS C ((lim (ab z)).length) D,qS Z ((lim 1).length) zo],qT]) (by rw[k8 (fun k d=>o k oM),hz];refine ⟨_,rfl,?_⟩;unfold RQ;rw[show (((some z:Option Int).map fun z=>(z:Rat)).getD 0)=((z:Int):Rat) from rfl,J7,J9];exact ⟨_,_,_,_,rfl,yK,yM,a.f.2.1,a.f.1⟩)))))))
 have I:=oT p;refine lB 14 p (ak (cK (cQ (kZ (cQ (aa a aF (lV 19 (.int .u8 (aj x i:Nat)) ?_ (hr:=aR (tx:=9) (x:=.tmp 17) (i:=.tmp 18) (k:=.i64) (s:=x) (n:=i) (j:=(i:Int)) kR kR kR kR oM oM _))))))));cases S:(((aj x i:Nat):Int) == (47:Int))
 .
  have zP:=ao S;refine lB 20 S (ah (cK (aa a aF (lV 54 (.int .u8 (aj x i:Nat)) ?_ (hr:=aR (tx:=9) (x:=.tmp 52) (i:=.tmp 53) (k:=.i64) (s:=x) (n:=i) (j:=(i:Int)) kR kR kR kR oM oM _)))));cases O:(((aj x i:Nat):Int) == (46:Int))
  .
   have zQ:=ao O;refine lB 55 O (ah (cK (kQ (lL a ac (bg 16 ((i:Nat)+1) (i+1) ?_)))));refine lL a ac (lD ?_);intro a_ ka;refine ⟨_,_,?_,⟨i+1,h5,rfl,rfl,a.to _ _,oM,(fun k d=>by rcases Kf.1 d with d|rfl;exact o k d;omega)⟩,ka.to _ kR⟩
   omega
  have zQ:=eq_of_beq O;refine lB 55 O (ak (cQ (cR 10 [] mixed a aw ?_)));refine eV 0 56 (.string x) (eV 1 57 (nV i) (eV 2 58 (.string (x.extract 0 i)) ?_ (hv:=fun _=>rF (tx:=9) (x:=.tmp 56) (e:=.tmp 57) (k2:=.i64) (s:=x) (m:=i) (j2:=(i:Int)) kR kR kR kR oM oM _)));refine eV 3 59 (.string x) (eV 4 60 (nV i) (iR 5 61 ((i:Nat)+1) (i+1) (eV 6 62 (.string (x.extract (i+1) x.size)) ?_ (hv:=fun _=>fv (tx:=9) (x:=.tmp 59) (i:=.tmp 61) (k:=.i64) (s:=x) (n:=(i+1)) (j:=((i+1:Nat):Int)) kR kR kR kR oM oM _))));refine eC 7 63 a (fun _ _ a=>vR (x.extract 0 i) (x.extract (i+1) x.size) (by rw[ByteArray.size_extract];omega) (by rw[ByteArray.size_extract];omega) _ _ a.g) ?_;rintro _ _ _ _ _ a ⟨_,rfl,zp,zq,U,W,rfl,yO,yP,yQ,yR⟩;replace a:=a.aP yQ yR;exact eV 8 64 (rG ((fK (x.extract 0 i) (x.extract (i+1) x.size)).getD 0) zp zq U W) (eV 9 65 (.bool ((fK (x.extract 0 i) (x.extract (i+1) x.size)).isSome)) (cG a (fun _ _ a=>tP 10 0 0 (gF ((fK (x.extract 0 i) (x.extract (i+1) x.size)).getD 0) zp zq U W) a (fun _ a=>tV 11 3 (.bool ((fK (x.extract 0 i) (x.extract (i+1) x.size)).isSome)) (tN (kX (a.ret [(0,0,3)] (.tuple #[rG ((fK (x.extract 0 i) (x.extract (i+1) x.size)).getD 0) zp zq U W,.bool ((fK (x.extract 0 i) (x.extract (i+1) x.size)).isSome)]) (by rw[qr (j:=i) oM o oM];exact ⟨_,rfl,⟨_,_,_,_,rfl,yO,yP,a.f.2.1,a.f.1⟩⟩))))))))
 have zP:=eq_of_beq S;refine lB 20 S (ak (aa a aF (lV 24 (.string (x.extract 0 i)) ?_ (hr:=rF (tx:=9) (x:=.tmp 22) (e:=.tmp 23) (k2:=.i64) (s:=x) (m:=i) (j2:=(i:Int)) kR kR kR kR oM oM _))))
 rcases hz:en (x.extract 0 i) with _|z
 .
  refine lC 25 a (l8 (x.extract 0 i) (by first|omega|(rw[ByteArray.size_extract];omega)) hz _ _ a.g) ?_;rintro _ _ _ a ⟨_,rfl,yr,ys,rfl,bd,yS⟩;replace a:=a.aS yS;refine lL a [.c,.v (.agg #[.bool (au (0:Int)),qS yr ((lim (ab (0:Int))).length) ys]),.v qF] (lA 5 40 ([qF,sZ]) a (fun yt _ _ a=>lP 0 0 ([.bool (au (0:Int)),qS yr ((lim (ab (0:Int))).length) ys]) a (fun _ a=>lL a ac (aE (lL a aF (bg 31 ((i:Nat)+1) (i+1) ?_))))));refine lV 32 (.string (x.extract (i+1) x.size)) ?_ (hr:=fv (tx:=9) (x:=.tmp 29) (i:=.tmp 31) (k:=.i64) (s:=x) (n:=(i+1)) (j:=((i+1:Nat):Int)) kR kR kR kR oM oM _)
  rcases hk:bY (x.extract (i+1) x.size) with _|k
  .
   refine lC 33 a (cZ (x.extract (i+1) x.size) (by first|omega|(rw[ByteArray.size_extract];omega)) hk _ _ a.g) ?_;rintro _ _ _ a ⟨_,rfl,yu,yv,rfl,bk,yT⟩;replace a:=a.aS yT;refine lL a [.c,.v (qS yu ((lim 0).length) yv),.v qF,.c,.c] (ai (aa a [.c,.v qT,.c] (lG 39 ?_)));refine lG 40 (lL a [.v qT,.c] (lG 43 ?_));refine lG 44 (lG 45 (lL a [.v qT] (lN (bG [(0,.string x),(2,pB B),(4,nV i),(5,pB yt),(7,qS yu ((lim 0).length) yv),(46,qT)] ?_))));refine ci (aG (lC 47 a (gk _ _ a.g) ?_));rintro _ _ _ a ⟨yw,yx,yA,yB,rfl,yU,yV,yW,yX⟩;replace a:=a.aP yW yX;exact lP 1 0 (gF (0:Rat) yw yx yA yB) a (fun _ a=>lL a ac (af a [(1,0,3)] (.tuple #[rG (0:Rat) yw yx yA yB,qF]) (by rw[ff (j:=i) oM (fun k d=>(o k d).2) oM];unfold iF;rw[hz];dsimp only;exact ⟨_,rfl,⟨_,_,_,_,rfl,yU,yV,a.f.2.1,a.f.1⟩⟩)))
  refine lC 33 a (cW (x.extract (i+1) x.size) k (by first|omega|(rw[ByteArray.size_extract];omega)) hk _ _ a.g) ?_;rintro _ _ _ a ⟨_,rfl,yC,yD,rfl,bl,Za⟩;replace a:=a.aS Za;have K:=@bI k;have b:=cv hk;have u:=gO (JM b);refine lL a [.c,.v (qS yC ((lim k).length) yD),.v qT,.c,.c] (ai (aa a [.c,.v qT,.c] (lG 39 ?_)));refine lG 40 (lL a [.v qT,.c] (lG 43 ?_));refine lG 44 (lG 45 (lL a [.v qT] (lN (bG [(0,.string x),(2,pB B),(4,nV i),(5,pB yt),(7,qS yC ((lim k).length) yD),(46,qT)] ?_))));refine ci (aG (lC 47 a (gk _ _ a.g) ?_));rintro _ _ _ a ⟨yE,yF,zt,zu,rfl,Zb,zR,Zc,zS⟩;replace a:=a.aP Zc zS;exact lP 1 0 (gF (0:Rat) yE yF zt zu) a (fun _ a=>lL a ac (af a [(1,0,3)] (.tuple #[rG (0:Rat) yE yF zt zu,qF]) (by rw[ff (j:=i) oM (fun k d=>(o k d).2) oM];unfold iF;rw[hz];dsimp only;exact ⟨_,rfl,⟨_,_,_,_,rfl,Zb,zR,a.f.2.1,a.f.1⟩⟩)))
 refine lC 25 a (l7 (x.extract 0 i) z (by first|omega|(rw[ByteArray.size_extract];omega)) hz _ _ a.g) ?_;rintro _ _ _ a ⟨_,rfl,M,Q,rfl,zU,zW⟩;replace a:=a.aS zW;have l:=jo hz;have y:=gO (n:=ab z) (JM l);refine lL a [.c,.v (.agg #[.bool (au z),qS M ((lim (ab z)).length) Q]),.v qT] (lA 5 40 ([qF,sZ]) a (fun Y _ _ a=>lP 0 0 ([.bool (au z),qS M ((lim (ab z)).length) Q]) a (fun _ a=>lL a ac (aE (lL a aF (bg 31 ((i:Nat)+1) (i+1) ?_))))));refine lV 32 (.string (x.extract (i+1) x.size)) ?_ (hr:=fv (tx:=9) (x:=.tmp 29) (i:=.tmp 31) (k:=.i64) (s:=x) (n:=(i+1)) (j:=((i+1:Nat):Int)) kR kR kR kR oM oM _)
 rcases hk:bY (x.extract (i+1) x.size) with _|k
 .
  refine lC 33 a (cZ (x.extract (i+1) x.size) (by first|omega|(rw[ByteArray.size_extract];omega)) hk _ _ a.g) ?_;rintro _ _ _ a ⟨_,rfl,zv,zw,rfl,bb,zX⟩;replace a:=a.aS zX;refine lL a [.c,.v (qS zv ((lim 0).length) zw),.v qF,.c,.c] (ai (aa a [.c,.v qF,.c,.c,.v qT,.v qT,.c] (lG 43 ?_)));refine lG 44 (lG 45 (lL a [.v qT] (lN (bG [(0,.string x),(2,pB B),(4,nV i),(5,pB Y),(7,qS zv ((lim 0).length) zw),(46,qT)] ?_))));refine ci (aG (lC 47 a (gk _ _ a.g) ?_));rintro _ _ _ a ⟨zx,zA,zB,zD,rfl,ya,yb,yc,yd⟩;replace a:=a.aP yc yd;exact lP 1 0 (gF (0:Rat) zx zA zB zD) a (fun _ a=>lL a ac (af a [(1,0,3)] (.tuple #[rG (0:Rat) zx zA zB zD,qF]) (by rw[ff (j:=i) oM (fun k d=>(o k d).2) oM];unfold iF;rw[hz];dsimp only;rw[hk];dsimp only;exact ⟨_,rfl,⟨_,_,_,_,rfl,ya,yb,a.f.2.1,a.f.1⟩⟩)))
 refine lC 33 a (cW (x.extract (i+1) x.size) k (by first|omega|(rw[ByteArray.size_extract];omega)) hk _ _ a.g) ?_;rintro _ _ _ a ⟨_,rfl,J,H,rfl,ye,yf⟩;replace a:=a.aS yf;have K:=@bI k;have b:=cv hk;have u:=gO (JM b);refine lL a [.c,.v (qS J ((lim k).length) H),.v qT,.c,.c] (ai (aa a [.c,.v qF,.c,.c,.v qF,.v qF,.c,.c,.v (nV ((lim k).length))] ?_));cases L:((((lim k).length:Nat):Int) == (0:Int))
 .
  have zE:=ao L;refine lB 45 L (lL a [.v qF] (lN (bG [(0,.string x),(2,pB B),(4,nV i),(5,pB Y),(7,qS J ((lim k).length) H),(46,qF)] ?_)));refine cV (cK (cQ (cR 4 [] mixed a aw ?_)));refine eO 0 48 [(0,0,2)] (.agg #[.bool (au z),qS M ((lim (ab z)).length) Q]) a (eV 1 49 (qS J ((lim k).length) H) (eC 2 50 a (fun _ _ a=>rI false k J H ye _ _ a.g a.f.1) ?_));rintro _ _ _ _ _ a ⟨Zd,Ze,rfl,yg,yi⟩;replace a:=a.aS yi;refine eC 3 51 a (fun _ _ a=>rH z M Q zU (ed (dN (ed (JM l) kD)) kD) (bE false k) Zd Ze yg (by rw[cd];exact ed (dN (ed (JM b) kD)) kD) (by rw[iq];omega) _ _ a.g a.f.r.1 a.f.1) ?_;rintro _ _ _ _ _ a ⟨zG,zH,zI,zJ,rfl,yj,yk,yl,ym⟩;replace a:=a.aP yl ym;exact cG a (fun _ _ a=>tP 4 1 0 (gF (ne z (bE false k)) zG zH zI zJ) a (fun _ a=>tV 5 3 qT (tN (kX (a.ret [(1,0,3)] (.tuple #[rG (ne z (bE false k)) zG zH zI zJ,qT]) (by rw[ff (j:=i) oM (fun k d=>(o k d).2) oM];unfold iF;rw[hz];dsimp only;rw[hk];dsimp only;rw[if_neg (show ¬k=0 by omega),<-jn];exact ⟨_,rfl,⟨_,_,_,_,rfl,yj,yk,a.f.2.1,a.f.1⟩⟩))))))
 have zE:=eq_of_beq L;refine lB 45 L (lL a [.v qT] (lN (bG [(0,.string x),(2,pB B),(4,nV i),(5,pB Y),(7,qS J ((lim k).length) H),(46,qT)] ?_)));refine ci (aG (lC 47 a (gk _ _ a.g) ?_));rintro _ _ _ a ⟨zK,zL,zM,zN,rfl,yn,yo,yp,yq⟩;replace a:=a.aP yp yq;exact lP 1 0 (gF (0:Rat) zK zL zM zN) a (fun _ a=>lL a ac (af a [(1,0,3)] (.tuple #[rG (0:Rat) zK zL zM zN,qF]) (by rw[ff (j:=i) oM (fun k d=>(o k d).2) oM];unfold iF;rw[hz];dsimp only;rw[hk];dsimp only;rw[if_pos (show k=0 by omega)];exact ⟨_,rfl,⟨_,_,_,_,rfl,yn,yo,a.f.2.1,a.f.1⟩⟩)))
theorem np (x:ByteArray)(b:Rat)(d:x.size<=1000000)(a:cF x=some b)(w:World)(h:Hp)(g:G w h):CR 132 #[.string x] w h (fun v h1=>∃ c,v=.tuple #[c,.bool true]/\RQ h1 c b):=by
 have q:=wW x d w h g;rw[a] at q;exact q
theorem n8 (x:ByteArray)(c:x.size<=1000000)(a:cF x=none)(w:World)(h:Hp)(g:G w h):CR 132 #[.string x] w h (fun v h1=>∃ b,v=.tuple #[b,.bool false]/\RQ h1 b 0):=by
 have q:=wW x c w h g;rw[a] at q;exact q
section
variable {s:ByteArray}{t:Tm}{a b e k:Nat}{m:Bool}
def mm (s:ByteArray)(t:Tm)(m:Bool)(b:Nat):PR:=if 3<rn bM s b-b then .err b else match ef (s.extract b (rn bM s b)) with
  | none=>.err b
  | some k=>.ok (.mk 8 (if m then -(k:Int) else k) 0 ⟨#[]⟩ [t]) (rn bM s b)
theorem vY:jv s t a=mm s t (decide (aj s (sk s a)=45)) (sk s (if decide (aj s (sk s a)=45)=true then sk s a+1 else sk s a)):=by
 unfold jv;dsimp only
 generalize decide (aj s (sk s a)=45)=m
 generalize sk s (if m=true then sk s a+1 else sk s a)=b
 unfold mm
 by_cases c:3<rn bM s b-b
 ·rw[if_pos c,if_pos c]
 ·rw[if_neg c,if_neg c]
  cases ef (s.extract b (rn bM s b))<;>rfl
theorem DR (c:aj s (sk s a)=45):jv s t a=mm s t true (sk s (sk s a+1)):=by
 rw[vY,decide_eq_true c,if_pos rfl]
theorem EO (c:aj s (sk s a)≠45):jv s t a=mm s t false (sk s (sk s a)):=by
 rw[vY,decide_eq_false c,if_neg kD]
theorem mA (h:rn bM s b=e)(a:3<e-b):mm s t m b=.err b:=by
 unfold mm;rw[h,if_pos a]
theorem Ag (h:rn bM s b=e)(a:bY (s.extract b e)=none):mm s t m b=.err b:=by
 unfold mm;rw[h]
 by_cases c:3<e-b
 ·rw[if_pos c]
 ·rw[if_neg c]
  have hz:(s.extract b e).size<=200:=by rw[ByteArray.size_extract];omega
  unfold bY at a;rw[if_pos hz] at a;rw[a]
theorem vU (h:rn bM s b=e)(c:¬3<e-b)(a:bY (s.extract b e)=some k):mm s t m b=.ok (.mk 8 (if m then -(k:Int) else k) 0 ⟨#[]⟩ [t]) e:=by
 unfold mm;rw[h,if_neg c,(dB a).2]
theorem uK {nf bf:ByteArray->Option Rat}{n:Nat}{r:PR}(h:bj nf bf s (n+1) .pow a=some r):(∃ b,bj nf bf s n .atom a=some (.err b)/\r=.err b)\/∃ v e,bj nf bf s n .atom a=some (.ok v e)/\r=if aj s (sk s e)=94 then jv s v (sk s e+1) else .ok v (sk s e):=by
 unfold bj at h
 rcases cJ h with ⟨b,e1,e2⟩|⟨t,b,e1,e2⟩
 ·exact .inl ⟨b,e1,e2⟩
 ·refine .inr ⟨t,b,e1,?_⟩
  by_cases c:aj s (sk s b)=94
  ·rw[if_pos c] at e2 ⊢;injection e2 with e2;exact e2.symm
  ·rw[if_neg c] at e2 ⊢;injection e2 with e2;exact e2.symm
end
section
variable {nf bf:ByteArray->Option Rat}(n:Nat)
theorem D0  (iha:RC nf bf 106 n .atom)(rb:Nat)(s:ByteArray)(C:s.size<=1000000)(a:Nat)(ha:a<=s.size)(r:PR)(hq:bj nf bf s (n+1) .pow a=some r)(w:World)(h:Hp)(g:G w h)(ho:Own w rb 64 [.string s,nV a,iV (-1)])(hj:h[rb]?=some junk)(tb:Tab h):Calls Tryz.prog 77 #[pB rb] w (bV rb w h (Fx rb s r)):=by
 have d:UpM [rb] w h w h:=UpM.refl g;obtain ⟨wz,W,b⟩:=SS.at_ g ho hj;replace b:=(b.add (K:=fun u=>Tab u) tb);refine go Tryz.func77 [(0,pB rb)] rfl (aG (fr 2 45 (ax ⟨0,0,false,none,0,0,none,0,0,⟨#[]⟩,none,0,0⟩) b (fun z w2 h3 u4 p b=>?_)));replace p:=ed d.gr.size p;replace d:=d.trans (u4.m _);refine aE (lL b ac ?_)
 rcases uK hq with ⟨be,he,rfl⟩|⟨t1,y1,hq1,hr⟩
 .
  refine bn 11 (iha rb s C a ha (.err be) he _ _ b.g (b.own 1) (b.jk 1) b.f.1) ?_;rintro _ w6 h7 u8 ⟨X,rfl,c5⟩;replace b:=(b.stepM 1 u8 c5).to [⟨z,45,ax ⟨0,0,false,none,0,0,none,0,0,⟨#[]⟩,none,0,0⟩⟩,⟨rb,64,[.string s,nV s.size,nV be]⟩] [];replace d:=d.trans u8;refine fr 3 45 (ax ⟨0,0,false,none,0,0,none,0,0,⟨#[]⟩,none,0,0⟩) b (fun b9 _ _ u12 I b=>?_);replace I:=ed d.gr.size I;replace d:=d.trans (u12.m _);refine ce 0 0 (ax X) b (fun _ D b=>?_);replace d:=d.put2 D I g b.g;refine ai (aa b ac (bn 13 (dK rb s C be 94 _ _ b.g (b.own 2) (b.jk 2) b.f.1) ?_));rintro _ _ _ u17 ⟨rfl,ch⟩;replace b:=(b.stepM 2 u17 ch).to [⟨b9,45,ax X⟩,⟨z,45,ax ⟨0,0,false,none,0,0,none,0,0,⟨#[]⟩,none,0,0⟩⟩,⟨rb,64,[.string s,nV s.size,nV be]⟩] [];replace d:=d.trans u17;refine lL b [.v qT] (ak (aa b [.o (aY X) 0 0 7] (ce 1 0 (ax X) b (fun _ D b=>?_))));replace d:=d.put2 D p g b.g;exact lN (kX (b.retM d [(1,0,7)] (aY X) (⟨_,rfl,b.own 2⟩)))
 refine bn 11 (iha rb s C a ha (.ok t1 y1) hq1 _ _ b.g (b.own 1) (b.jk 1) b.f.1) ?_;rintro _ _ _ u22 ⟨l,rfl,dn,b7,cr⟩;replace b:=(b.stepM 1 u22 b7).to [⟨z,45,ax ⟨0,0,false,none,0,0,none,0,0,⟨#[]⟩,none,0,0⟩⟩,⟨rb,64,[.string s,nV y1,iV (-1)]⟩] [];replace d:=d.trans u22;replace b:=(b.add (K:=fun u=>RtH u l t1) cr);refine fr 3 45 (ax ⟨0,0,false,none,0,0,none,0,0,⟨#[]⟩,none,0,0⟩) b (fun F _ _ u26 B b=>?_);replace B:=ed d.gr.size B;replace d:=d.trans (u26.m _);refine ce 0 0 (ax l) b (fun _ D b=>?_);replace d:=d.put2 D B g b.g;refine ai (aa b ac ?_);have c8:=bD (s:=s) (a:=y1) oM;refine bn 13 (iK rb s C y1 oM 94 kD _ _ b.g (b.own 2) (b.jk 2) b.f.2.1) ?_;rintro _ _ _ u31 (⟨rfl,L,dp,O⟩|⟨rfl,L,O⟩)
 .
  replace b:=(b.stepM 2 u31 O).to [⟨F,45,ax l⟩,⟨z,45,ax ⟨0,0,false,none,0,0,none,0,0,⟨#[]⟩,none,0,0⟩⟩,⟨rb,64,[.string s,nV (sk s y1+1),iV (-1)]⟩] [];replace d:=d.trans u31;replace hr:=hr.trans (if_pos L);refine lL b [.v qF] (ah (cK (aa b ac ?_)));have dc:=bD (s:=s) (a:=(sk s y1+1)) oM;refine bn 17 (iK rb s C (sk s y1+1) oM 45 kD _ _ b.g (b.own 2) (b.jk 2) b.f.2.1) ?_;rintro _ _ _ u35 (⟨rfl,M,ds,Q⟩|⟨rfl,M,Q⟩)
  .
   replace b:=(b.stepM 2 u35 Q).to [⟨F,45,ax l⟩,⟨z,45,ax ⟨0,0,false,none,0,0,none,0,0,⟨#[]⟩,none,0,0⟩⟩,⟨rb,64,[.string s,nV (sk s (sk s y1+1)+1),iV (-1)]⟩] [];replace d:=d.trans u35;replace hr:=hr.trans (DR M);refine lL b ac (aE (lL b ac ?_));have bm:=bD (s:=s) (a:=(sk s (sk s y1+1)+1)) oM;obtain ⟨y,hbp⟩:∃ y,sk s (sk s (sk s y1+1)+1)=y:=⟨_,rfl⟩;refine bn 19 (mr rb s C (sk s (sk s y1+1)+1) oM _ _ b.g (b.own 2) (b.jk 2) b.f.2.1) ?_;rintro _ _ zQ u39 ⟨rfl,bb⟩;rw[hbp] at bb bm
   rw[hbp];replace b:=(b.stepM 2 u39 bb).to [⟨F,45,ax l⟩,⟨z,45,ax ⟨0,0,false,none,0,0,none,0,0,⟨#[]⟩,none,0,0⟩⟩,⟨rb,64,[.string s,nV y,iV (-1)]⟩] [];replace d:=d.trans u39;refine aE (lL b [.c,.v (pB rb),.v (qP rb 1),.o (nV y) 2 1 1,.c] (ai (kZ ?_)));refine bG _ (CG.loop (fun μ_ Γ Z=>∃ (k:Nat)(u:Hp),μ_=s.size-k/\Γ=[(0,pB rb),(2,pB z),(3,pB F),(4,qT),(5,nV y)]/\SS wz W Z u [⟨F,45,ax l⟩,⟨z,45,ax ⟨0,0,false,none,0,0,none,0,0,⟨#[]⟩,none,0,0⟩⟩,⟨rb,64,[.string s,nV k,iV (-1)]⟩] [] [fun u=>RtH u l t1,fun u=>Tab u]/\y<=k/\k<=s.size/\UpM [rb] w h Z u/\(∀ i,y<=i->i<k->bM (aj s i)=true)) _ ⟨y,zQ,rfl,rfl,b.to _ _,nR _,oM,d,(fun i h1 h2=>absurd h1 oM)⟩ ?_);rintro _ _ _ ⟨k,_,d1,rfl,b,hk1,hk2,d,hkb⟩;refine cQ (CG.join (fun Γ Z=>∃ (zb:Bool)(u:Hp),Γ=[(0,pB rb),(2,pB z),(3,pB F),(4,qT),(5,nV y),(45,.bool zb)]/\SS wz W Z u [⟨F,45,ax l⟩,⟨z,45,ax ⟨0,0,false,none,0,0,none,0,0,⟨#[]⟩,none,0,0⟩⟩,⟨rb,64,[.string s,nV k,iV (-1)]⟩] [] [fun u=>RtH u l t1,fun u=>Tab u]/\(zb=true->bM (aj s k)=true/\k<s.size)/\(zb=false->k=s.size\/bM (aj s k)=false)/\UpM [rb] w h Z u) ?_ ?_)
   .
    refine cR 22 [] mixed b aw (eV 0 24 (pB rb) (eV 1 25 (pB rb) (eV 2 26 (qP rb 1) (eO 3 27 [(2,1,1)] (nV k) b (eV 4 28 (pB rb) (eV 5 29 (pB rb) (eV 6 30 (pB rb) (eO 7 31 [(2,0,1)] (.string s) b (eV 8 32 (nV s.size) ?_)))))))));cases zg:(decide ((k:Int)<(s.size:Int)))
    .
     have zx:=oF zg;refine eB 9 33 zg (eV 10 34 qF (eG 11 35 (eG 12 36 (eG 13 37 (eG 14 38 (eG 15 39 (eG 16 40 (eG 17 41 (eG 18 42 (eG 19 43 (eG 20 44 (eV 21 45 qF (bL b (fun _ zR u46 b=>?_))))))))))))));replace d:=d.trans (u46.m _);refine tD ?_;intro a_ J;exact ⟨_,⟨false,zR,rfl,b.to _ _,(fun u=>absurd u kD),(fun _=>by first|exact .inl oM|exact .inr (decide_eq_false oM)),d⟩,J.to _ kR⟩
    have zx:=oT zg;refine eB 9 33 zg (eV 10 34 qT (eV 11 35 (pB rb) (eV 12 36 (pB rb) (eV 13 37 (pB rb) (eO 14 38 [(2,0,1)] (.string s) b (eV 15 39 (pB rb) (eV 16 40 (pB rb) (eV 17 41 (qP rb 1) (eO 18 42 [(2,1,1)] (nV k) b (eV 19 43 (.int .u8 (aj s k:Nat)) ?_ (hv:=fun _=>aR (tx:=9) (x:=.tmp 38) (i:=.tmp 42) (k:=.i64) (s:=s) (n:=k) (j:=(k:Int)) kR kR kR kR oM oM _)))))))))));refine io 20 44 b d (fun _ _ b=>gj ((aj s k)) (bh _ _) _ _ b.g) ?_;rintro _ _ _ _ _ d b rfl;cases zr:(decide (48<=(aj s k)/\(aj s k)<=57))
    .
     have zA:=oF zr;refine eV 21 45 qF (bL b (fun _ zS u55 b=>?_));replace d:=d.trans (u55.m _);refine tD ?_;intro a_ J;exact ⟨_,⟨false,zS,rfl,b.to _ _,(fun u=>absurd u kD),(fun _=>by first|exact .inl oM|exact .inr (decide_eq_false oM)),d⟩,J.to _ kR⟩
    have zA:=oT zr;refine eV 21 45 qT (bL b (fun _ zU u61 b=>?_));replace d:=d.trans (u61.m _);refine tD ?_;intro a_ J;exact ⟨_,⟨true,zU,rfl,b.to _ _,(fun _=>⟨decide_eq_true oM,by omega⟩),(fun u=>absurd u kD),d⟩,J.to _ kR⟩
   rintro _ _ ⟨zb,zW,rfl,b,zf,Y,d⟩;cases zi:(zb)
   .
    try rw[zi] at b
    try rw[zi]
    refine cV (CG.exit ?_)
    show CG _ _ _ _ _ _ _ _
    refine cQ ?_;rw[hbp] at hr
    have U:rn bM s y=k:=dX hk1 hk2 hkb (Y aM);refine cR 14 [] mixed b aw (eV 0 54 (pB rb) (eV 1 55 (pB rb) (eV 2 56 (pB rb) (eO 3 57 [(2,0,1)] (.string s) b (eV 4 58 (nV y) (eV 5 59 (pB rb) (eV 6 60 (pB rb) (eV 7 61 (qP rb 1) (eO 8 62 [(2,1,1)] (nV k) b (eV 9 63 (.string (s.extract y k)) ?_ (hv:=fun _=>fj (tx:=9) (x:=.tmp 57) (i:=.tmp 58) (e:=.tmp 62) (k:=.i64) (k2:=.i64) (s:=s) (n:=y) (m:=k) (j:=(y:Int)) (j2:=(k:Int)) kR kR kR kR kR oM oM oM oM _)))))))))))
    rcases hk:bY (s.extract y k) with _|kk
    .
     refine io 10 64 b d (fun _ _ b=>cZ (s.extract y k) (by first|omega|(rw[ByteArray.size_extract];omega)) hk _ _ b.g) ?_;rintro _ _ _ _ _ d b ⟨_,rfl,zs,zt,rfl,d0,zH⟩;replace b:=b.aS zH;refine eV 11 53 (.tuple #[qS zs ((lim 0).length) zt,qF]) (eV 12 65 (qS zs ((lim 0).length) zt) (eV 13 66 qF (bL b (fun _ _ u76 b=>?_))));replace d:=d.trans (u76.m _);refine tV 14 6 (qS zs ((lim 0).length) zt) (tV 15 7 qF (tN (cQ (aa b [.c,.v qT,.c] (lG 70 ?_)))));refine lG 71 (lG 72 (lG 73 (lG 74 (lG 75 (lG 76 (lL b [.v qT] (ak (aa b aF (bn 80 (fd rb s C k oM y _ _ b.g (b.own 2) (b.jk 2) b.f.r.1) ?_)))))))));rintro _ _ _ u81 ⟨rfl,cm⟩;replace b:=(b.stepM 2 u81 cm).to [⟨F,45,ax l⟩,⟨z,45,ax ⟨0,0,false,none,0,0,none,0,0,⟨#[]⟩,none,0,0⟩⟩,⟨rb,64,[.string s,nV s.size,nV y]⟩] [];replace d:=d.trans u81;refine ce 1 0 (ax (⟨0,0,false,none,0,0,none,0,0,⟨#[]⟩,none,0,0⟩:RTm)) b (fun _ D b=>?_);replace d:=d.put2 D p g b.g;exact lN (kX (b.retM d [(1,0,7)] (aY (⟨0,0,false,none,0,0,none,0,0,⟨#[]⟩,none,0,0⟩:RTm)) ((by rw[hr,Ag U hk];exact ⟨_,rfl,b.own 2⟩))))
    refine io 10 64 b d (fun _ _ b=>cW (s.extract y k) kk (by first|omega|(rw[ByteArray.size_extract];omega)) hk _ _ b.g) ?_;rintro _ _ _ _ _ d b ⟨_,rfl,zo,zp,rfl,zI,zJ⟩;replace b:=b.aS zJ;have c7:=@bI kk;have H:=cv hk;have bt:=gO (JM H);refine eV 11 53 (.tuple #[qS zo ((lim kk).length) zp,qT]) (eV 12 65 (qS zo ((lim kk).length) zp) (eV 13 66 qT (bL b (fun _ _ u91 b=>?_))));replace d:=d.trans (u91.m _);refine tV 14 6 (qS zo ((lim kk).length) zp) (tV 15 7 qT (tN (cQ (aa b [.c,.v qF,.c,.c,.v (pB rb),.v (qP rb 1),.o (nV k) 2 1 1,.c] (bg 75 ((k:Nat)-(y:Nat)) (k-y) ?_)))));cases zj:(decide ((3:Int)<((k-y:Nat):Int)))
    .
     have zB:=oF zj;refine lB 76 zj (lL b [.v qF] (ah (cK (aa b ac ?_))));have hk3:kk<1000:=by have q_:=jp (dB hk).2 (by rw[ByteArray.size_extract];omega);omega
     refine ec 83 (tg kk hk3 zo zp zI _ _ b.g b.f.1) ?_;rintro _ _ _ u95 rfl;replace d:=d.trans (u95.m _);replace b:=b.step u95;refine lL b [.c,.v (mV kk),.v qT,.c,.c] (ai (aa b ac (lN (bG [(2,pB z),(3,pB F),(8,mV kk),(86,qT)] ?_))));refine ci (aa b [.o (aY l) 0 0 7,.c] (lV 89 (nV kk) ?_ (hr:=rS ((kk:Int)) kR (jF oM oM))));refine lI 90 (0-(kk:Nat)) (ec 91 (Di l t1 (0-(kk:Nat)) _ _ b.g b.f.2.1) ?_);rintro _ _ _ u99 ⟨bd,rfl,cq⟩;replace d:=d.trans (u99.m _);replace b:=b.step u99;replace b:=(b.add (K:=fun u=>RtH u bd (.mk 8 (0-(kk:Nat)) 0 ⟨#[]⟩ [t1])) cq);refine ce 1 0 (ax bd) b (fun _ D b=>?_);replace d:=d.put2 D p g b.g;exact lN (kX (b.retM d [(1,0,7)] (aY bd) ((by rw[hr,vU U oM hk];exact ⟨_,rfl,by omega,b.own 2,(by have q_:=(b.f.1);rw[Int.zero_sub] at q_;exact q_)⟩))))
    have zB:=oT zj;refine lB 76 zj (lL b [.v qT] (ak (aa b aF (bn 80 (fd rb s C k oM y _ _ b.g (b.own 2) (b.jk 2) b.f.r.1) ?_))));rintro _ _ _ b4 ⟨rfl,bl⟩;replace b:=(b.stepM 2 b4 bl).to [⟨F,45,ax l⟩,⟨z,45,ax ⟨0,0,false,none,0,0,none,0,0,⟨#[]⟩,none,0,0⟩⟩,⟨rb,64,[.string s,nV s.size,nV y]⟩] [];replace d:=d.trans b4;refine ce 1 0 (ax (⟨0,0,false,none,0,0,none,0,0,⟨#[]⟩,none,0,0⟩:RTm)) b (fun _ D b=>?_);replace d:=d.put2 D p g b.g;exact lN (kX (b.retM d [(1,0,7)] (aY (⟨0,0,false,none,0,0,none,0,0,⟨#[]⟩,none,0,0⟩:RTm)) ((by rw[hr,mA U oM];exact ⟨_,rfl,b.own 2⟩))))
   try rw[zi] at b
   try rw[zi]
   refine ci (cK (kZ (kQ (lL b [.c,.v (pB rb),.v (qP rb 1),.o (nV k) 2 1 1] (bg 50 ((k:Nat)+1) (k+1) ?_)))));refine lL b [.v (pB rb),.v (qP rb 1)] (ce 2 1 ([nV (k+1)]) b (fun _ D b=>?_));replace d:=d.put D (o0.2 rfl) b.g;refine lD ?_;have cz:=(zf aM).2;intro a_ J;refine ⟨_,_,?_,⟨k+1,zW,rfl,rfl,b.to _ _,oM,oM,d,(fun i h1 h2=>by rcases Kf.1 h2 with u|rfl;exact hkb i h1 u;exact (zf aM).1)⟩,J.to _ kR⟩
   omega
  replace b:=(b.stepM 2 u35 Q).to [⟨F,45,ax l⟩,⟨z,45,ax ⟨0,0,false,none,0,0,none,0,0,⟨#[]⟩,none,0,0⟩⟩,⟨rb,64,[.string s,nV (sk s (sk s y1+1)),iV (-1)]⟩] [];replace d:=d.trans u35;replace hr:=hr.trans (EO M);refine lL b ac (aE (lL b ac ?_));have bk:=bD (s:=s) (a:=(sk s (sk s y1+1))) oM;obtain ⟨y,hbp⟩:∃ y,sk s (sk s (sk s y1+1))=y:=⟨_,rfl⟩;refine bn 19 (mr rb s C (sk s (sk s y1+1)) oM _ _ b.g (b.own 2) (b.jk 2) b.f.2.1) ?_;rintro _ _ zK b5 ⟨rfl,V⟩;rw[hbp] at V bk
  rw[hbp];replace b:=(b.stepM 2 b5 V).to [⟨F,45,ax l⟩,⟨z,45,ax ⟨0,0,false,none,0,0,none,0,0,⟨#[]⟩,none,0,0⟩⟩,⟨rb,64,[.string s,nV y,iV (-1)]⟩] [];replace d:=d.trans b5;refine aE (lL b [.c,.v (pB rb),.v (qP rb 1),.o (nV y) 2 1 1,.c] (ai (kZ ?_)));refine bG _ (CG.loop (fun μ_ Γ Z=>∃ (k:Nat)(u:Hp),μ_=s.size-k/\Γ=[(0,pB rb),(2,pB z),(3,pB F),(4,qF),(5,nV y)]/\SS wz W Z u [⟨F,45,ax l⟩,⟨z,45,ax ⟨0,0,false,none,0,0,none,0,0,⟨#[]⟩,none,0,0⟩⟩,⟨rb,64,[.string s,nV k,iV (-1)]⟩] [] [fun u=>RtH u l t1,fun u=>Tab u]/\y<=k/\k<=s.size/\UpM [rb] w h Z u/\(∀ i,y<=i->i<k->bM (aj s i)=true)) _ ⟨y,zK,rfl,rfl,b.to _ _,nR _,oM,d,(fun i h1 h2=>absurd h1 oM)⟩ ?_);rintro _ _ _ ⟨k,_,df,rfl,b,hk1,hk2,d,hkb⟩;refine cQ (CG.join (fun Γ Z=>∃ (zb:Bool)(u:Hp),Γ=[(0,pB rb),(2,pB z),(3,pB F),(4,qF),(5,nV y),(45,.bool zb)]/\SS wz W Z u [⟨F,45,ax l⟩,⟨z,45,ax ⟨0,0,false,none,0,0,none,0,0,⟨#[]⟩,none,0,0⟩⟩,⟨rb,64,[.string s,nV k,iV (-1)]⟩] [] [fun u=>RtH u l t1,fun u=>Tab u]/\(zb=true->bM (aj s k)=true/\k<s.size)/\(zb=false->k=s.size\/bM (aj s k)=false)/\UpM [rb] w h Z u) ?_ ?_)
  .
   refine cR 22 [] mixed b aw (eV 0 24 (pB rb) (eV 1 25 (pB rb) (eV 2 26 (qP rb 1) (eO 3 27 [(2,1,1)] (nV k) b (eV 4 28 (pB rb) (eV 5 29 (pB rb) (eV 6 30 (pB rb) (eO 7 31 [(2,0,1)] (.string s) b (eV 8 32 (nV s.size) ?_)))))))));cases zc:(decide ((k:Int)<(s.size:Int)))
   .
    have zu:=oF zc;refine eB 9 33 zc (eV 10 34 qF (eG 11 35 (eG 12 36 (eG 13 37 (eG 14 38 (eG 15 39 (eG 16 40 (eG 17 41 (eG 18 42 (eG 19 43 (eG 20 44 (eV 21 45 qF (bL b (fun _ zL c3 b=>?_))))))))))))));replace d:=d.trans (c3.m _);refine tD ?_;intro a_ J;exact ⟨_,⟨false,zL,rfl,b.to _ _,(fun u=>absurd u kD),(fun _=>by first|exact .inl oM|exact .inr (decide_eq_false oM)),d⟩,J.to _ kR⟩
   have zu:=oT zc;refine eB 9 33 zc (eV 10 34 qT (eV 11 35 (pB rb) (eV 12 36 (pB rb) (eV 13 37 (pB rb) (eO 14 38 [(2,0,1)] (.string s) b (eV 15 39 (pB rb) (eV 16 40 (pB rb) (eV 17 41 (qP rb 1) (eO 18 42 [(2,1,1)] (nV k) b (eV 19 43 (.int .u8 (aj s k:Nat)) ?_ (hv:=fun _=>aR (tx:=9) (x:=.tmp 38) (i:=.tmp 42) (k:=.i64) (s:=s) (n:=k) (j:=(k:Int)) kR kR kR kR oM oM _)))))))))));refine io 20 44 b d (fun _ _ b=>gj ((aj s k)) (bh _ _) _ _ b.g) ?_;rintro _ _ _ _ _ d b rfl;cases zq:(decide (48<=(aj s k)/\(aj s k)<=57))
   .
    have zv:=oF zq;refine eV 21 45 qF (bL b (fun _ zM c4 b=>?_));replace d:=d.trans (c4.m _);refine tD ?_;intro a_ J;exact ⟨_,⟨false,zM,rfl,b.to _ _,(fun u=>absurd u kD),(fun _=>by first|exact .inl oM|exact .inr (decide_eq_false oM)),d⟩,J.to _ kR⟩
   have zv:=oT zq;refine eV 21 45 qT (bL b (fun _ zN c6 b=>?_));replace d:=d.trans (c6.m _);refine tD ?_;intro a_ J;exact ⟨_,⟨true,zN,rfl,b.to _ _,(fun _=>⟨decide_eq_true oM,by omega⟩),(fun u=>absurd u kD),d⟩,J.to _ kR⟩
  rintro _ _ ⟨zb,zP,rfl,b,zf,Y,d⟩;cases zd:(zb)
  .
   try rw[zd] at b
   try rw[zd]
   refine cV (CG.exit ?_)
   show CG _ _ _ _ _ _ _ _
   refine cQ ?_;rw[hbp] at hr
   have U:rn bM s y=k:=dX hk1 hk2 hkb (Y aM);refine cR 14 [] mixed b aw (eV 0 54 (pB rb) (eV 1 55 (pB rb) (eV 2 56 (pB rb) (eO 3 57 [(2,0,1)] (.string s) b (eV 4 58 (nV y) (eV 5 59 (pB rb) (eV 6 60 (pB rb) (eV 7 61 (qP rb 1) (eO 8 62 [(2,1,1)] (nV k) b (eV 9 63 (.string (s.extract y k)) ?_ (hv:=fun _=>fj (tx:=9) (x:=.tmp 57) (i:=.tmp 58) (e:=.tmp 62) (k:=.i64) (k2:=.i64) (s:=s) (n:=y) (m:=k) (j:=(y:Int)) (j2:=(k:Int)) kR kR kR kR kR oM oM oM oM _)))))))))))
   rcases hk:bY (s.extract y k) with _|kk
   .
    refine io 10 64 b d (fun _ _ b=>cZ (s.extract y k) (by first|omega|(rw[ByteArray.size_extract];omega)) hk _ _ b.g) ?_;rintro _ _ _ _ _ d b ⟨_,rfl,zm,zn,rfl,dk,zD⟩;replace b:=b.aS zD;refine eV 11 53 (.tuple #[qS zm ((lim 0).length) zn,qF]) (eV 12 65 (qS zm ((lim 0).length) zn) (eV 13 66 qF (bL b (fun _ _ cy b=>?_))));replace d:=d.trans (cy.m _);refine tV 14 6 (qS zm ((lim 0).length) zn) (tV 15 7 qF (tN (cQ (aa b [.c,.v qT,.c] (lG 70 ?_)))));refine lG 71 (lG 72 (lG 73 (lG 74 (lG 75 (lG 76 (lL b [.v qT] (ak (aa b aF (bn 80 (fd rb s C k oM y _ _ b.g (b.own 2) (b.jk 2) b.f.r.1) ?_)))))))));rintro _ _ _ b0 ⟨rfl,bq⟩;replace b:=(b.stepM 2 b0 bq).to [⟨F,45,ax l⟩,⟨z,45,ax ⟨0,0,false,none,0,0,none,0,0,⟨#[]⟩,none,0,0⟩⟩,⟨rb,64,[.string s,nV s.size,nV y]⟩] [];replace d:=d.trans b0;refine ce 1 0 (ax (⟨0,0,false,none,0,0,none,0,0,⟨#[]⟩,none,0,0⟩:RTm)) b (fun _ D b=>?_);replace d:=d.put2 D p g b.g;exact lN (kX (b.retM d [(1,0,7)] (aY (⟨0,0,false,none,0,0,none,0,0,⟨#[]⟩,none,0,0⟩:RTm)) ((by rw[hr,Ag U hk];exact ⟨_,rfl,b.own 2⟩))))
   refine io 10 64 b d (fun _ _ b=>cW (s.extract y k) kk (by first|omega|(rw[ByteArray.size_extract];omega)) hk _ _ b.g) ?_;rintro _ _ _ _ _ d b ⟨_,rfl,zk,zl,rfl,zE,zG⟩;replace b:=b.aS zG;have c7:=@bI kk;have H:=cv hk;have bt:=gO (JM H);refine eV 11 53 (.tuple #[qS zk ((lim kk).length) zl,qT]) (eV 12 65 (qS zk ((lim kk).length) zl) (eV 13 66 qT (bL b (fun _ _ cx b=>?_))));replace d:=d.trans (cx.m _);refine tV 14 6 (qS zk ((lim kk).length) zl) (tV 15 7 qT (tN (cQ (aa b [.c,.v qF,.c,.c,.v (pB rb),.v (qP rb 1),.o (nV k) 2 1 1,.c] (bg 75 ((k:Nat)-(y:Nat)) (k-y) ?_)))));cases ze:(decide ((3:Int)<((k-y:Nat):Int)))
   .
    have zw:=oF ze;refine lB 76 ze (lL b [.v qF] (ah (cK (aa b ac ?_))));have hk3:kk<1000:=by have q_:=jp (dB hk).2 (by rw[ByteArray.size_extract];omega);omega
    refine ec 83 (tg kk hk3 zk zl zE _ _ b.g b.f.1) ?_;rintro _ _ _ b6 rfl;replace d:=d.trans (b6.m _);replace b:=b.step b6;refine lL b [.c,.v (mV kk),.v qT,.c,.c] (ai (aa b ac (lN (bG [(2,pB z),(3,pB F),(8,mV kk),(86,qF)] ?_))));refine cV (cK (aa b [.o (aY l) 0 0 7,.c] (lV 94 (nV kk) ?_ (hr:=rS ((kk:Int)) kR (jF oM oM)))));refine ec 95 (Di l t1 (kk:Nat) _ _ b.g b.f.2.1) ?_;rintro _ _ _ b2 ⟨S,rfl,bw⟩;replace d:=d.trans (b2.m _);replace b:=b.step b2;replace b:=(b.add (K:=fun u=>RtH u S (.mk 8 (kk:Nat) 0 ⟨#[]⟩ [t1])) bw);refine ce 1 0 (ax S) b (fun _ D b=>?_);replace d:=d.put2 D p g b.g;exact lN (kX (b.retM d [(1,0,7)] (aY S) ((by rw[hr,vU U oM hk];exact ⟨_,rfl,by omega,b.own 2,b.f.1⟩))))
   have zw:=oT ze;refine lB 76 ze (lL b [.v qT] (ak (aa b aF (bn 80 (fd rb s C k oM y _ _ b.g (b.own 2) (b.jk 2) b.f.r.1) ?_))));rintro _ _ _ b3 ⟨rfl,br⟩;replace b:=(b.stepM 2 b3 br).to [⟨F,45,ax l⟩,⟨z,45,ax ⟨0,0,false,none,0,0,none,0,0,⟨#[]⟩,none,0,0⟩⟩,⟨rb,64,[.string s,nV s.size,nV y]⟩] [];replace d:=d.trans b3;refine ce 1 0 (ax (⟨0,0,false,none,0,0,none,0,0,⟨#[]⟩,none,0,0⟩:RTm)) b (fun _ D b=>?_);replace d:=d.put2 D p g b.g;exact lN (kX (b.retM d [(1,0,7)] (aY (⟨0,0,false,none,0,0,none,0,0,⟨#[]⟩,none,0,0⟩:RTm)) ((by rw[hr,mA U oM];exact ⟨_,rfl,b.own 2⟩))))
  try rw[zd] at b
  try rw[zd]
  refine ci (cK (kZ (kQ (lL b [.c,.v (pB rb),.v (qP rb 1),.o (nV k) 2 1 1] (bg 50 ((k:Nat)+1) (k+1) ?_)))));refine lL b [.v (pB rb),.v (qP rb 1)] (ce 2 1 ([nV (k+1)]) b (fun _ D b=>?_));replace d:=d.put D (o0.2 rfl) b.g;refine lD ?_;have cz:=(zf aM).2;intro a_ J;refine ⟨_,_,?_,⟨k+1,zP,rfl,rfl,b.to _ _,oM,oM,d,(fun i h1 h2=>by rcases Kf.1 h2 with u|rfl;exact hkb i h1 u;exact (zf aM).1)⟩,J.to _ kR⟩
  omega
 replace b:=(b.stepM 2 u31 O).to [⟨F,45,ax l⟩,⟨z,45,ax ⟨0,0,false,none,0,0,none,0,0,⟨#[]⟩,none,0,0⟩⟩,⟨rb,64,[.string s,nV (sk s y1),iV (-1)]⟩] [];replace d:=d.trans u31;replace hr:=hr.trans (if_neg L);refine lL b [.v qT] (ak (aa b [.o (aY l) 0 0 7] (ce 1 0 (ax l) b (fun _ D b=>?_))));replace d:=d.put2 D p g b.g;exact lN (kX (b.retM d [(1,0,7)] (aY l) ((by rw[hr];exact ⟨_,rfl,by omega,b.own 2,b.f.1⟩))))
end
section laws
variable {M:Ms}{P:Program}{n:Nat}{N R:Po}{X:Nat->Po}{ops:Array Oper}{k k0:Nat}{hr:Hp}{AL:List Al}{L:Array Bool}{Γ:ck}{w:World}{h:Hp}{w0:World}{h0:Hp}{B:List Bx}{Rs:List Rw}{F:List (Hp->Prop)}
theorem FY (s:SS w0 h0 w h B Rs F){o:Oper}{ty:TypeId}{sz Q c2:Nat}{z:Value}{α:Type}{f:α->List Value}{d:α}{A H:Z9}{l m:List α}(he:Ae P (ev Γ) o=some (.slice A l.length l.length,.slice H m.length c2,ty,z,sz,Q))(s0:SlO sz f d h A l)(so:SlO sz f d h H m)(U:0<l.length)(hm0:0<m.length)(h1:∀ x∈m,(f x).all (·.oneCell')=true)(hf:∀ x,(f x).length=sz)(hzs:z.cells.size=sz)(L:0<sz)(hm:l.length+m.length<=1099511627776)(a:(l.length+m.length)*Q<=140737488355328) :
  ∃ D c' w' M,(execOp (ev Γ) o).run P w=.ok (.value (.slice D (l++m).length c')) w'/\Up w h w' M/\SS w0 h0 w' M B Rs ((fun h=>SlO sz f d h D (l++m))::F)/\(l++m).length<=c':=by
 rw[so.ok hm0,s0.ok U] at he
 obtain ⟨x',y,k,ho,hx,Z,hu,i,hi,hi0,hi1,hi2⟩:∃ x y t,o.op=.call { callee:=.builtin .append,args:=#[x,y],argTypes:=#[t,t] }/\ev Γ x=.slice (some ⟨aB A,aO A,none⟩) l.length l.length/\ev Γ y=.slice (some ⟨aB H,aO H,none⟩) m.length c2/\P.underlying t=some (.slice ty)/\∃ i,P.info? ty=some i/\i.zero=some z/\i.size=sz/\i.bytes=Q:=by
  obtain ⟨x',y,k,ho,hx,Z,hu,hi⟩:=nK he;obtain ⟨i,hi,e⟩:=Option.map_eq_some_iff.1 hi
  simp only[Prod.mk.injEq] at e
  exact ⟨x',y,k,ho,hx,Z,hu,i,hi,e.1,e.2.1,e.2.2⟩
 obtain ⟨v',w',K,J,C⟩:=run_append_arg_grows (P:=P) w k o.type ty i z sz Q hu hi hi0 hi1 hi2 hzs L ⟨aB A,aO A,none⟩ l.length l.length (l.flatMap f) (da hf l) (f5 s.g (s0.flat hf)) ⟨aB H,aO H,none⟩ m.length c2 (m.flatMap f) (da hf m) (f5 s.g (so.flat hf)) oM (by unfold maxLen;omega) a;have hcs:l.flatMap f++m.flatMap f=(l++m).flatMap f:=pK;have hn:l.length+m.length=(l++m).length:=by simp
 rw[hcs,hn] at J
 have r:Gro h0 (B.map (·.b)) w h ty sz (.slice none 0 0) 0 []:=Gro.nil;obtain ⟨M,V,s',W⟩:=pF s.st s.g0 r (by simpa [Value.ownBlock] using C);have hsz:=s.g.size
 have j:∀ b,v'.ownBlock=some b->h.size<=b/\b<w'.heap.size:=fun b a=>by
  refine ⟨?_,j0 J a⟩
  rcases J with ⟨_,⟨rfl,_⟩|⟨g,cap,cur,rfl,hbb,_⟩⟩
  ·simp[Value.ownBlock] at a
  ·simp[Value.ownBlock] at a;omega
 have Y:∃ A c,v'=.slice A (l++m).length c:=by
  rcases J with ⟨_,⟨e,e2⟩|⟨g,cap,cur,e,_⟩⟩
  ·exact ⟨none,0,by rw[e,e2]⟩
  ·exact ⟨_,_,e⟩
 obtain ⟨D,c',rfl⟩:=Y
 have ow':w'.ownsRow h0.size ty sz (.slice D (l++m).length c') (l++m).length ((l++m).flatMap f):=by
  rcases J with ⟨q1,q2|⟨g,cap,cur,e,hbb,q3⟩⟩
  ·exact ⟨q1,.inl q2⟩
  ·exact ⟨q1,.inr ⟨g,cap,cur,e,by have:=s.st.up.gr.size;omega,q3⟩⟩
 have S:∀ b,(Value.slice D (l++m).length c').ownBlock=some b->h.size<=b:=fun b a=>(j b a).1
 have r1:Gro h0 (B.map (·.b)) w' M ty sz (.slice D (l++m).length c') (l++m).length ((l++m).flatMap f):=by
  refine ⟨ow',fun b a=>W b (j b a).1 (j b a).2,fun b a hm=>?_⟩;obtain ⟨y,hy',e⟩:=List.mem_map.1 hm;have O:=aI (s.st.jk y hy');have h3:=(j b a).1;have e':y.b=b:=e
  omega
 obtain ⟨O,s2,gw,po,_,hcp,hz,sg⟩:=Gro.pub3 s' r1;have I:Gr h O:=⟨ed V.size gw.size,fun b a=>(po b (fun e=>by have:=S b e;omega)).trans (V.blk b a)⟩;refine ⟨D,c',w',O,?_,⟨⟨C.os,C.tape,C.output,C.size,fun c hc=>C.block c hc (by simp)⟩,I,s2.g⟩,⟨s.g0,s2,fun q hq=>?_,s.ap,fun p X=>?_,SlO.of_pub hf hz sg,s.f.gw s.mo I.gw⟩,hcp⟩
 ·unfold execOp
  simp only[ho,resolve,invoke,builtin,Sem.run_bind,Sem.run_pure,Result.andThen_ok,List.map_toArray,yh,List.map_nil,hx,Z,K]
 ·refine ((s.ro q hq).app C V (fun b _ e=>by cases e)).pubo po (fun b a hb'=>?_)
  have O:=(s.ro q hq).lt a;have h3:=(j b hb').1
  omega
 ·rcases gq.1 X with rfl|X
  ·exact fun _ _ u x=>x.gw u
  ·exact s.mo p X
end laws
section
variable {M:Ms}{P:Program}{n:Nat}{N R:Po}{X:Nat->Po}{ops:Array Oper}{k0:Nat}{hr:Hp}{AL:List Al}{L:Array Bool}{Γ:ck}{w:World}{h:Hp}{w0:World}{h0:Hp}{B:List Bx}{Rs:List Rw}{F:List (Hp->Prop)}{M2:List Nat}{wa:World}{ha:Hp}
theorem Ga (i t:Nat)(ty:TypeId)(m:Nat)(cs:List Value)(s:SS w0 h0 w h B Rs F)(d:UpM M2 wa ha w h)(H:∀ b w' a,UpM M2 wa ha w' a->SS w0 h0 w' a B Rs ((fun h=>Seg h b 0 cs)::F)->EG M P n N R X ops k0 hr AL (L.setIfInBounds i true) ((t,.slice (some ⟨b,0,none⟩) m m)::Γ) w' a)(c:Av n ops k0 AL L Γ i t=true:=by kernel_rfl)
  (hv:∀ w,(execOp (ev Γ) (av ops i)).run P w=.ok (.value (.slice (some ⟨w.heap.size,0,none⟩) m m)) (w.alloc (.cells cs.toArray ty (0,0))):=by intro _;kernel_rfl):EG M P n N R X ops k0 hr AL L Γ w h :=
 Rg.row i t ty m cs (fw c).1 (fw c).2 hv (fun b w' a u e=>H b w' a (d.trans (u.m _)) ((s.step u).a_Seg e))
theorem Hl {α:Type}(i t:Nat)(ty:TypeId)(sz:Nat)(f:α->List Value)(d:α)(A I:Z9)(l m:List α)(c2 J:Nat)(z:Value)(s:SS w0 h0 w h B Rs F)(Q:UpM M2 wa ha w h)(K:∀ h,AllF F h->SlO sz f d h A l)(so:∀ h,AllF F h->SlO sz f d h I m)(j:0<l.length)(o:0<m.length)(h1:∀ x∈m,(f x).all (·.oneCell')=true)
  (H:∀ e c' w' a,(l++m).length<=c'->UpM M2 wa ha w' a->SS w0 h0 w' a B Rs ((fun h=>SlO sz f d h e (l++m))::F)->EG M P n N R X ops k0 hr AL (L.setIfInBounds i true) ((t,.slice e (l++m).length c')::Γ) w' a)
  (C:Av n ops k0 AL L Γ i t=true:=by kernel_rfl)(U:Ae P (ev Γ) (av ops i)=some (.slice A l.length l.length,.slice I m.length c2,ty,z,sz,J):=by kernel_rfl)(hf:∀ x,(f x).length=sz:=by intro _;rfl)(p:z.cells.size=sz:=by kernel_rfl)(b:0<sz:=by decide)(W:l.length+m.length<=1099511627776:=by simp only[List.length_cons,List.length_nil];omega)(S:(l.length+m.length)*J<=140737488355328:=by simp only[List.length_cons,List.length_nil];omega):EG M P n N R X ops k0 hr AL L Γ w h:=by
 refine Rg.event i t (fw C).1 (fw C).2 (fun w1 O u=>?_);have y:=s.step u;obtain ⟨e,c',w',a,c,D,V,k⟩:=FY (P:=P) y U (K _ y.f) (so _ y.f) j o h1 hf p b W S;exact .inl ⟨_,w',a,c,D.m M.l,H e c' w' a k (Q.trans ((u.trans D).m _)) V⟩
end
section
variable {nf bf:ByteArray->Option Rat}{s:ByteArray}{n p k a:Nat}{op:Int}{r:PR}{t u:Tm}
def uw (nf bf:ByteArray->Option Rat)(s:ByteArray)(n p:Nat):Option PR :=
  if bU (s.extract p (rn bF s p))=true then bj nf bf s n (.call (ag (s.extract p (rn bF s p)))) (rn bF s p)
  else if cD (s.extract p (rn bF s p))=true then some (.ok (dE (s.extract p (rn bF s p))) (rn bF s p))
  else some (.err p)
theorem xM (a:rn bF s p=k)(h:uw nf bf s n p=some r)(c:ag (s.extract p k)≠0):bj nf bf s n (.call (ag (s.extract p k))) k=some r:=by
 unfold uw at h;rw[a,if_pos (show bU (s.extract p k)=true from decide_eq_true c)] at h;exact h
theorem GW (a:rn bF s p=k)(h:uw nf bf s n p=some r)(c:ag (s.extract p k)=0)(d:cD (s.extract p k)=true):r=.ok (dE (s.extract p k)) k:=by
 unfold uw at h;rw[a,if_neg (by unfold bU;rw[c];decide),if_pos d] at h;injection h with h;exact h.symm
theorem FW (a:rn bF s p=k)(h:uw nf bf s n p=some r)(c:ag (s.extract p k)=0)(d:cD (s.extract p k)=false):r=.err p:=by
 unfold uw at h;rw[a,if_neg (by unfold bU;rw[c];decide),if_neg (by rw[d];decide)] at h;injection h with h;exact h.symm
def mX (s:ByteArray)(op:Int)(t u:Tm)(c:Nat):Option PR:=if aj s (sk s c)=41 then some (.ok (bz op t u) (sk s c+1)) else some (.err (sk s c))
def je (nf bf:ByteArray->Option Rat)(s:ByteArray)(n:Nat)(op:Int)(t:Tm)(b:Nat):Option PR :=
  if op=12\/op=13 then if aj s (sk s b)=44 then fW (bj nf bf s n .sum (sk s b+1)) (mX s op t) else some (.err (sk s b))
  else if aj s (sk s b)=41 then some (.ok (fS op t) (sk s b+1)) else some (.err (sk s b))
theorem DY (h:bj nf bf s (n+1) (.call op) a=some r)(c:aj s (sk s a)=40):fW (bj nf bf s n .sum (sk s a+1)) (je nf bf s n op)=some r:=by
 unfold bj at h;rw[if_pos c] at h;exact h
theorem Ec (h:bj nf bf s (n+1) (.call op) a=some r)(c:aj s (sk s a)≠40):r=.err (sk s a):=by
 unfold bj at h;rw[if_neg c] at h;injection h with h;exact h.symm
theorem vn {b:Nat}(h:je nf bf s n op t b=some r)(o:op=12\/op=13)(c:aj s (sk s b)=44):fW (bj nf bf s n .sum (sk s b+1)) (mX s op t)=some r:=by
 unfold je at h;rw[if_pos o,if_pos c] at h;exact h
theorem xm {b:Nat}(h:je nf bf s n op t b=some r)(o:op=12\/op=13)(c:aj s (sk s b)≠44):r=.err (sk s b):=by
 unfold je at h;rw[if_pos o,if_neg c] at h;injection h with h;exact h.symm
theorem uG {b:Nat}(h:je nf bf s n op t b=some r)(o:¬(op=12\/op=13))(c:aj s (sk s b)=41):r=.ok (fS op t) (sk s b+1):=by
 unfold je at h;rw[if_neg o,if_pos c] at h;injection h with h;exact h.symm
theorem Ai {b:Nat}(h:je nf bf s n op t b=some r)(o:¬(op=12\/op=13))(c:aj s (sk s b)≠41):r=.err (sk s b):=by
 unfold je at h;rw[if_neg o,if_neg c] at h;injection h with h;exact h.symm
theorem BX {b:Nat}(h:mX s op t u b=some r)(c:aj s (sk s b)=41):r=.ok (bz op t u) (sk s b+1):=by
 unfold mX at h;rw[if_pos c] at h;injection h with h;exact h.symm
theorem Br {b:Nat}(h:mX s op t u b=some r)(c:aj s (sk s b)≠41):r=.err (sk s b):=by
 unfold mX at h;rw[if_neg c] at h;injection h with h;exact h.symm
theorem wj (s:ByteArray):ag s=0\/9<=ag s/\ag s<=13:=by
 unfold ag
 split
 ·decide
 split
 ·decide
 split
 ·decide
 split
 ·decide
 split
 ·decide
 ·exact .inl rfl
theorem uI {s:ByteArray}(h:gW s=2):ag s=12\/ag s=13:=by
 have:=wj s
 unfold gW at h
 split at h
 ·omega
 ·split at h
  ·omega
  ·omega
theorem v7 {s:ByteArray}(h:gW s≠2):¬(ag s=12\/ag s=13):=by
 intro o
 unfold gW at h
 rw[if_neg oM,if_neg oM] at h
 exact h rfl
theorem RtH.one1 {h:Hp}{x:RTm}{a:Nat}(y:RtH h x t)(z:SlO 7 ax bZ h (some ⟨a,0,none⟩) [x]):RtH h ⟨op,0,false,none,0,0,none,0,0,⟨#[]⟩,some ⟨a,0,none⟩,1,1⟩ (fS op t):=by
 obtain ⟨d,y⟩:=y;exact ⟨_,qQ y z⟩
theorem RtH.two2 {h:Hp}{x b:RTm}{A:Z9}{c:Nat}(y:RtH h x t)(a:RtH h b u)(f:2<=c)(z:SlO 7 ax bZ h A [x,b]):RtH h ⟨op,0,false,none,0,0,none,0,0,⟨#[]⟩,A,2,c⟩ (bz op t u):=by
 obtain ⟨d,y⟩:=y;obtain ⟨e,a⟩:=a;exact ⟨max d e+1,RmH.mk nh ((Rms.nil.snoc (y.mono oM)).snoc (a.mono oM)) f z⟩
end
section
variable {nf bf:ByteArray->Option Rat}(n:Nat)
theorem xS  (ihs:∀ m,m<=n->RC nf bf 13 m .sum)(rb:Nat)(s:ByteArray)(D:s.size<=1000000)(a:Nat)(ha:a<=s.size)(r:PR)(hr:uw nf bf s n a=some r)(w:World)(h:Hp)(g:G w h)(ho:Own w rb 64 [.string s,nV a,iV (-1)])(hj:h[rb]?=some junk)(tb:Tab h):Calls Tryz.prog 135 #[pB rb,nV a] w (bV rb w h (Fx rb s r)):=by
 have y:UpM [rb] w h w h:=UpM.refl g;obtain ⟨wz,fn,u⟩:=SS.at_ g ho hj;replace u:=(u.add (K:=fun M=>Tab M) tb);refine go Tryz.func135 [(0,pB rb),(1,nV a)] rfl (aG (fr 4 45 (ax ⟨0,0,false,none,0,0,none,0,0,⟨#[]⟩,none,0,0⟩) u (fun J w2 h3 u4 B u=>?_)));replace B:=ed y.gr.size B;replace y:=y.trans (u4.m _);refine ai (kZ ?_);refine bG _ (CG.loop (fun μ_ Γ w_=>∃ (k:Nat)(M:Hp),μ_=s.size-k/\Γ=[(0,pB rb),(1,nV a),(4,pB J)]/\SS wz fn w_ M [⟨J,45,ax ⟨0,0,false,none,0,0,none,0,0,⟨#[]⟩,none,0,0⟩⟩,⟨rb,64,[.string s,nV k,iV (-1)]⟩] [] [fun M=>Tab M]/\a<=k/\k<=s.size/\UpM [rb] w h w_ M/\(∀ i,a<=i->i<k->bF (aj s i)=true)) _ ⟨a,h3,rfl,rfl,u.to _ _,nR _,ha,y,(fun i h1 h2=>absurd h1 oM)⟩ ?_);rintro _ _ w5 ⟨k,h6,hm7,rfl,u,hk1,hk2,y,hkb⟩;refine cQ (CG.join (fun Γ w_=>∃ (zx:Bool)(M:Hp),Γ=[(0,pB rb),(1,nV a),(4,pB J),(54,.bool zx)]/\SS wz fn w_ M [⟨J,45,ax ⟨0,0,false,none,0,0,none,0,0,⟨#[]⟩,none,0,0⟩⟩,⟨rb,64,[.string s,nV k,iV (-1)]⟩] [] [fun M=>Tab M]/\(zx=true->bF (aj s k)=true/\k<s.size)/\(zx=false->k=s.size\/bF (aj s k)=false)/\UpM [rb] w h w_ M) ?_ ?_)
 .
  refine cR 46 [] mixed u aw (eV 0 9 (pB rb) (eV 1 10 (pB rb) (eV 2 11 (qP rb 1) (eO 3 12 [(1,1,1)] (nV k) u (eV 4 13 (pB rb) (eV 5 14 (pB rb) (eV 6 15 (pB rb) (eO 7 16 [(1,0,1)] (.string s) u (eV 8 17 (nV s.size) ?_)))))))));cases hb8:(decide ((k:Int)<(s.size:Int)))
  .
   have hq:=oF hb8;refine eB 9 18 hb8 (eV 10 19 qF (eG 11 20 (eG 12 21 (eG 13 22 (eG 14 23 (eG 15 24 (eG 16 25 (eG 17 26 (eG 18 27 (eG 19 28 (eG 20 29 (eG 21 30 (eG 22 31 (eG 23 32 (eG 24 33 (eG 25 34 (eG 26 35 (eG 27 36 (eG 28 37 (eG 29 38 (eG 30 39 (eG 31 40 (eG 32 41 (eG 33 42 (eG 34 43 (eG 35 44 (eG 36 45 (eG 37 46 (eG 38 47 (eG 39 48 (eG 40 49 (eG 41 50 (eG 42 51 (eG 43 52 (eG 44 53 (eV 45 54 qF (bL u (fun w9 yb u11 u=>?_))))))))))))))))))))))))))))))))))))));replace y:=y.trans (u11.m _);refine tD ?_;intro a_ ka;exact ⟨_,⟨false,yb,rfl,u.to _ _,(fun M=>absurd M kD),(fun _=>by first|exact .inl oM|exact .inr (decide_eq_false (by unfold kh;unfold dL at *;omega))),y⟩,ka.to _ kR⟩
  have hq:=oT hb8;refine eB 9 18 hb8 (eV 10 19 qT (eV 11 20 (pB rb) (eV 12 21 (pB rb) (eV 13 22 (pB rb) (eO 14 23 [(1,0,1)] (.string s) u (eV 15 24 (pB rb) (eV 16 25 (pB rb) (eV 17 26 (qP rb 1) (eO 18 27 [(1,1,1)] (nV k) u (eV 19 28 (.int .u8 (aj s k:Nat)) ?_ (hv:=fun _=>aR (tx:=9) (x:=.tmp 23) (i:=.tmp 27) (k:=.i64) (s:=s) (n:=k) (j:=(k:Int)) kR kR kR kR oM oM _)))))))))));refine io 20 29 u y (fun _ _ u=>i9 ((aj s k)) (bh _ _) _ _ u.g) ?_;rintro _ _ _ _ _ y u rfl;cases zG:(decide (dL ((aj s k))))
  .
   have zR:=oF zG;refine eV 21 30 qF (eV 22 31 (pB rb) (eV 23 32 (pB rb) (eV 24 33 (pB rb) (eO 25 34 [(1,0,1)] (.string s) u (eV 26 35 (pB rb) (eV 27 36 (pB rb) (eV 28 37 (qP rb 1) (eO 29 38 [(1,1,1)] (nV k) u (eV 30 39 (.int .u8 (aj s k:Nat)) ?_ (hv:=fun _=>aR (tx:=9) (x:=.tmp 34) (i:=.tmp 38) (k:=.i64) (s:=s) (n:=k) (j:=(k:Int)) kR kR kR kR oM oM _))))))))));refine io 31 40 u y (fun _ _ u=>gj ((aj s k)) (bh _ _) _ _ u.g) ?_;rintro _ _ _ _ _ y u rfl;cases zH:(decide (48<=(aj s k)/\(aj s k)<=57))
   .
    have zS:=oF zH;refine eV 32 41 qF (eV 33 42 qF (eV 34 43 (pB rb) (eV 35 44 (pB rb) (eV 36 45 (pB rb) (eO 37 46 [(1,0,1)] (.string s) u (eV 38 47 (pB rb) (eV 39 48 (pB rb) (eV 40 49 (qP rb 1) (eO 41 50 [(1,1,1)] (nV k) u (eV 42 51 (.int .u8 (aj s k:Nat)) ?_ (hv:=fun _=>aR (tx:=9) (x:=.tmp 46) (i:=.tmp 50) (k:=.i64) (s:=s) (n:=k) (j:=(k:Int)) kR kR kR kR oM oM _)))))))))));cases zs:(((aj s k:Nat):Int) == (95:Int))
    .
     have zU:=ao zs;refine eB 43 52 zs (eV 44 53 qF (eV 45 54 qF (bL u (fun _ yc u24 u=>?_))));replace y:=y.trans (u24.m _);refine tD ?_;intro a_ ka;exact ⟨_,⟨false,yc,rfl,u.to _ _,(fun M=>absurd M kD),(fun _=>by first|exact .inl oM|exact .inr (decide_eq_false (by unfold kh;unfold dL at *;omega))),y⟩,ka.to _ kR⟩
    have zU:=eq_of_beq zs;refine eB 43 52 zs (eV 44 53 qT (eV 45 54 qT (bL u (fun _ yd u30 u=>?_))));replace y:=y.trans (u30.m _);refine tD ?_;intro a_ ka;exact ⟨_,⟨true,yd,rfl,u.to _ _,(fun _=>⟨decide_eq_true (by unfold kh;unfold dL at *;omega),by omega⟩),(fun M=>absurd M kD),y⟩,ka.to _ kR⟩
   have zS:=oT zH;refine eV 32 41 qT (eV 33 42 qT (eG 34 43 (eG 35 44 (eG 36 45 (eG 37 46 (eG 38 47 (eG 39 48 (eG 40 49 (eG 41 50 (eG 42 51 (eG 43 52 (eV 44 53 qT (eV 45 54 qT (bL u (fun _ ye u36 u=>?_)))))))))))))));replace y:=y.trans (u36.m _);refine tD ?_;intro a_ ka;exact ⟨_,⟨true,ye,rfl,u.to _ _,(fun _=>⟨decide_eq_true (by unfold kh;unfold dL at *;omega),by omega⟩),(fun M=>absurd M kD),y⟩,ka.to _ kR⟩
  have zR:=oT zG;refine eV 21 30 qT (eG 22 31 (eG 23 32 (eG 24 33 (eG 25 34 (eG 26 35 (eG 27 36 (eG 28 37 (eG 29 38 (eG 30 39 (eG 31 40 (eV 32 41 qT (eV 33 42 qT (eG 34 43 (eG 35 44 (eG 36 45 (eG 37 46 (eG 38 47 (eG 39 48 (eG 40 49 (eG 41 50 (eG 42 51 (eG 43 52 (eV 44 53 qT (eV 45 54 qT (bL u (fun _ yf u42 u=>?_))))))))))))))))))))))))));replace y:=y.trans (u42.m _);refine tD ?_;intro a_ ka;exact ⟨_,⟨true,yf,rfl,u.to _ _,(fun _=>⟨decide_eq_true (by unfold kh;unfold dL at *;omega),by omega⟩),(fun M=>absurd M kD),y⟩,ka.to _ kR⟩
 rintro _ _ ⟨zx,yg,rfl,u,zI,hy,y⟩;cases zt:(zx)
 .
  try rw[zt] at u
  try rw[zt]
  refine cV (CG.exit ?_)
  show CG _ _ _ _ _ _ _ _
  refine cQ ?_;have hk_:rn bF s a=k:=dX hk1 hk2 hkb (hy aM);refine cR 10 [] mixed u aw (eV 0 62 (pB rb) (eV 1 63 (pB rb) (eV 2 64 (pB rb) (eO 3 65 [(1,0,1)] (.string s) u (eV 4 66 (nV a) (eV 5 67 (pB rb) (eV 6 68 (pB rb) (eV 7 69 (qP rb 1) (eO 8 70 [(1,1,1)] (nV k) u (eV 9 71 (.string (s.extract a k)) ?_ (hv:=fun _=>fj (tx:=9) (x:=.tmp 65) (i:=.tmp 66) (e:=.tmp 70) (k:=.i64) (k2:=.i64) (s:=s) (n:=a) (m:=k) (j:=(a:Int)) (j2:=(k:Int)) kR kR kR kR kR oM oM oM oM _)))))))))));refine bL u (fun _ _ u51 u=>?_);replace y:=y.trans (u51.m _);refine tV 10 5 (.string (s.extract a k)) (As (lL u ac (ec 74 (vQ (s.extract a k) _ _ u.g) ?_)));rintro _ _ _ u54 rfl;replace y:=y.trans (u54.m _);replace u:=u.step u54;refine lL u [.c,.v (iV (ag (s.extract a k))),.v (iV (gW (s.extract a k))),.c,.c] (ai (aa u ac ?_));cases zu:(((ag (s.extract a k)):Int) == (0:Int))
  .
   have zW:=ao zu;refine lB 78 zu (ah (cK (aG ?_)));replace hr:=xM hk_ hr aM;obtain ⟨m1,rfl⟩:=iu hr;refine lL u ac ?_;have kq:=bD (s:=s) (a:=k) oM;refine bn 88 (pp rb s D k oM 40 kD _ _ u.g (u.own 1) (u.jk 1) u.f.1) ?_;rintro _ _ _ u59 (⟨rfl,bd,k4,bm⟩|⟨rfl,bd,bm⟩)
   .
    replace u:=(u.stepM 1 u59 bm).to [⟨J,45,ax ⟨0,0,false,none,0,0,none,0,0,⟨#[]⟩,none,0,0⟩⟩,⟨rb,64,[.string s,nV (sk s k+1),iV (-1)]⟩] [];replace y:=y.trans u59;replace hr:=DY hr bd;refine aE (lL u aF ?_)
    rcases cJ hr with ⟨be,he,H⟩|⟨t1,y1,hq1,hr1⟩
    .
     refine bn 91 (ihs m1 oM rb s D (sk s k+1) oM (.err be) he _ _ u.g (u.own 1) (u.jk 1) u.f.1) ?_;rintro _ _ _ u63 ⟨dp,rfl,f3⟩;replace u:=(u.stepM 1 u63 f3).to [⟨J,45,ax ⟨0,0,false,none,0,0,none,0,0,⟨#[]⟩,none,0,0⟩⟩,⟨rb,64,[.string s,nV s.size,nV be]⟩] [];replace y:=y.trans u63;refine ec 92 (pL (ag (s.extract a k)) dp _ _ u.g) ?_;rintro _ _ _ u66 ⟨z,rfl,hbk⟩;replace y:=y.trans (u66.m _);replace u:=u.step u66;replace u:=u.aS hbk;refine fr 8 45 (ax ⟨0,0,false,none,0,0,none,0,0,⟨#[]⟩,none,0,0⟩) u (fun zp _ _ u70 L u=>?_);replace L:=ed y.gr.size L;replace y:=y.trans (u70.m _);refine ce 0 0 (ax (⟨(ag (s.extract a k)),0,false,none,0,0,none,0,0,⟨#[]⟩,sB z,1,1⟩:RTm)) u (fun _ F u=>?_);replace y:=y.put2 F L g u.g;refine ai (aa u ac ?_);cases zv:(((gW (s.extract a k)):Int) == (2:Int))
     .
      have zX:=ao zv;refine lB 94 zv (ah (cK (aa u ac (bn 105 (gd rb s D be 41 _ _ u.g (u.own 2) (u.jk 2) u.f.2.1) ?_))));rintro _ _ _ u76 ⟨rfl,hd⟩;replace u:=(u.stepM 2 u76 hd).to [⟨zp,45,ax (⟨(ag (s.extract a k)),0,false,none,0,0,none,0,0,⟨#[]⟩,sB z,1,1⟩:RTm)⟩,⟨J,45,ax ⟨0,0,false,none,0,0,none,0,0,⟨#[]⟩,none,0,0⟩⟩,⟨rb,64,[.string s,nV s.size,nV be]⟩] [];replace y:=y.trans u76;refine aE (lL u [.o (aY (⟨(ag (s.extract a k)),0,false,none,0,0,none,0,0,⟨#[]⟩,sB z,1,1⟩:RTm)) 0 0 7] (ce 1 0 (ax (⟨(ag (s.extract a k)),0,false,none,0,0,none,0,0,⟨#[]⟩,sB z,1,1⟩:RTm)) u (fun _ F u=>?_)));replace y:=y.put2 F B g u.g;exact lN (kX (u.retM y [(1,0,7)] (aY (⟨(ag (s.extract a k)),0,false,none,0,0,none,0,0,⟨#[]⟩,sB z,1,1⟩:RTm)) ((by rw[H];exact ⟨⟨ag (s.extract a k),0,false,none,0,0,none,0,0,⟨#[]⟩,sB z,1,1⟩,rfl,u.own 2⟩))))
     have zX:=eq_of_beq zv;refine lB 94 zv (ak (aa u ac (bn 96 (gd rb s D be 44 _ _ u.g (u.own 2) (u.jk 2) u.f.2.1) ?_)));rintro _ _ _ u81 ⟨rfl,f1⟩;replace u:=(u.stepM 2 u81 f1).to [⟨zp,45,ax (⟨(ag (s.extract a k)),0,false,none,0,0,none,0,0,⟨#[]⟩,sB z,1,1⟩:RTm)⟩,⟨J,45,ax ⟨0,0,false,none,0,0,none,0,0,⟨#[]⟩,none,0,0⟩⟩,⟨rb,64,[.string s,nV s.size,nV be]⟩] [];replace y:=y.trans u81;refine lN (CG.region ⟨[rb],none⟩ 6 [] mixed kR u.g aw (fun _ hb=>by rw[o0.1 hb];exact aI (u.jk 2)) ?_);refine eV 0 97 (qP zp 6) (eO 1 98 [(0,6,1)] (qS ((⟨(ag (s.extract a k)),0,false,none,0,0,none,0,0,⟨#[]⟩,sB z,1,1⟩:RTm).A) ((⟨(ag (s.extract a k)),0,false,none,0,0,none,0,0,⟨#[]⟩,sB z,1,1⟩:RTm).m) ((⟨(ag (s.extract a k)),0,false,none,0,0,none,0,0,⟨#[]⟩,sB z,1,1⟩:RTm).c)) u ?_ (hM:=fun p hp=>by obtain rfl:=o0.1 hp;exact fun hm=>cB u.st (i:=0) (j:=2) kR kR kR (o0.1 hm)));refine eV 2 99 (pB rb) (i0 3 100 u y (o0.2 rfl) (o0.2 rfl) (fun _ _ u=>nq rb s D be _ _ u.g (u.own 2) (u.jk 2) u.f.2.1) ?_);rintro _ _ _ _ _ u u85 y ⟨b0,rfl,hc⟩;replace u:=(u.stepM 2 u85 hc).to [⟨zp,45,ax (⟨(ag (s.extract a k)),0,false,none,0,0,none,0,0,⟨#[]⟩,sB z,1,1⟩:RTm)⟩,⟨J,45,ax ⟨0,0,false,none,0,0,none,0,0,⟨#[]⟩,none,0,0⟩⟩,⟨rb,64,[.string s,nV s.size,nV be]⟩] [];refine Ga 4 101 45 1 (ax b0) u y (fun ya _ _ y u=>Hl 5 102 45 7 ax bZ (sB z) (sB ya) [dp] [b0] 1 112 (aY ⟨0,0,false,none,0,0,none,0,0,⟨#[]⟩,none,0,0⟩) u y (fun _ W=>W.2.1) (fun _ W=>SlO.of_flat (sz:=7) (f:=ax) (d:=bZ) (b:=ya) (o:=0) (l:=[b0]) (fun _=>rfl) W.1) (JH _) (JH _) (fun _ _=>by kernel_rfl) (fun zr zq _ _ zJ y u=>?_));replace zJ:2<=zq:=zJ;refine bL u (fun _ _ u98 u=>?_);replace y:=y.trans (u98.m _);refine tV 6 103 (qP zp 6) (km 7 0 6 ([qS zr 2 zq]) u (fun _ F u=>?_));replace y:=y.put2 F L g u.g;refine tN (bG [(0,pB rb),(4,pB J),(8,pB zp)] ?_);refine aa u ac (bn 105 (gd rb s D be 41 _ _ u.g (u.own 2) (u.jk 2) u.f.r.2.1) ?_);rintro _ _ _ d1 ⟨rfl,cx⟩;replace u:=(u.stepM 2 d1 cx).to [⟨zp,45,ax ⟨(⟨(ag (s.extract a k)),0,false,none,0,0,none,0,0,⟨#[]⟩,sB z,1,1⟩:RTm).op,(⟨(ag (s.extract a k)),0,false,none,0,0,none,0,0,⟨#[]⟩,sB z,1,1⟩:RTm).n,(⟨(ag (s.extract a k)),0,false,none,0,0,none,0,0,⟨#[]⟩,sB z,1,1⟩:RTm).neg,(⟨(ag (s.extract a k)),0,false,none,0,0,none,0,0,⟨#[]⟩,sB z,1,1⟩:RTm).zA,(⟨(ag (s.extract a k)),0,false,none,0,0,none,0,0,⟨#[]⟩,sB z,1,1⟩:RTm).zn,(⟨(ag (s.extract a k)),0,false,none,0,0,none,0,0,⟨#[]⟩,sB z,1,1⟩:RTm).zc,(⟨(ag (s.extract a k)),0,false,none,0,0,none,0,0,⟨#[]⟩,sB z,1,1⟩:RTm).dA,(⟨(ag (s.extract a k)),0,false,none,0,0,none,0,0,⟨#[]⟩,sB z,1,1⟩:RTm).dn,(⟨(ag (s.extract a k)),0,false,none,0,0,none,0,0,⟨#[]⟩,sB z,1,1⟩:RTm).dc,(⟨(ag (s.extract a k)),0,false,none,0,0,none,0,0,⟨#[]⟩,sB z,1,1⟩:RTm).s,zr,2,zq⟩⟩,⟨J,45,ax ⟨0,0,false,none,0,0,none,0,0,⟨#[]⟩,none,0,0⟩⟩,⟨rb,64,[.string s,nV s.size,nV be]⟩] [];replace y:=y.trans d1;refine aE (lL u [.o (aY ⟨(⟨(ag (s.extract a k)),0,false,none,0,0,none,0,0,⟨#[]⟩,sB z,1,1⟩:RTm).op,(⟨(ag (s.extract a k)),0,false,none,0,0,none,0,0,⟨#[]⟩,sB z,1,1⟩:RTm).n,(⟨(ag (s.extract a k)),0,false,none,0,0,none,0,0,⟨#[]⟩,sB z,1,1⟩:RTm).neg,(⟨(ag (s.extract a k)),0,false,none,0,0,none,0,0,⟨#[]⟩,sB z,1,1⟩:RTm).zA,(⟨(ag (s.extract a k)),0,false,none,0,0,none,0,0,⟨#[]⟩,sB z,1,1⟩:RTm).zn,(⟨(ag (s.extract a k)),0,false,none,0,0,none,0,0,⟨#[]⟩,sB z,1,1⟩:RTm).zc,(⟨(ag (s.extract a k)),0,false,none,0,0,none,0,0,⟨#[]⟩,sB z,1,1⟩:RTm).dA,(⟨(ag (s.extract a k)),0,false,none,0,0,none,0,0,⟨#[]⟩,sB z,1,1⟩:RTm).dn,(⟨(ag (s.extract a k)),0,false,none,0,0,none,0,0,⟨#[]⟩,sB z,1,1⟩:RTm).dc,(⟨(ag (s.extract a k)),0,false,none,0,0,none,0,0,⟨#[]⟩,sB z,1,1⟩:RTm).s,zr,2,zq⟩) 0 0 7] (ce 1 0 (ax ⟨(⟨(ag (s.extract a k)),0,false,none,0,0,none,0,0,⟨#[]⟩,sB z,1,1⟩:RTm).op,(⟨(ag (s.extract a k)),0,false,none,0,0,none,0,0,⟨#[]⟩,sB z,1,1⟩:RTm).n,(⟨(ag (s.extract a k)),0,false,none,0,0,none,0,0,⟨#[]⟩,sB z,1,1⟩:RTm).neg,(⟨(ag (s.extract a k)),0,false,none,0,0,none,0,0,⟨#[]⟩,sB z,1,1⟩:RTm).zA,(⟨(ag (s.extract a k)),0,false,none,0,0,none,0,0,⟨#[]⟩,sB z,1,1⟩:RTm).zn,(⟨(ag (s.extract a k)),0,false,none,0,0,none,0,0,⟨#[]⟩,sB z,1,1⟩:RTm).zc,(⟨(ag (s.extract a k)),0,false,none,0,0,none,0,0,⟨#[]⟩,sB z,1,1⟩:RTm).dA,(⟨(ag (s.extract a k)),0,false,none,0,0,none,0,0,⟨#[]⟩,sB z,1,1⟩:RTm).dn,(⟨(ag (s.extract a k)),0,false,none,0,0,none,0,0,⟨#[]⟩,sB z,1,1⟩:RTm).dc,(⟨(ag (s.extract a k)),0,false,none,0,0,none,0,0,⟨#[]⟩,sB z,1,1⟩:RTm).s,zr,2,zq⟩) u (fun _ F u=>?_)));replace y:=y.put2 F B g u.g;exact lN (kX (u.retM y [(1,0,7)] (aY ⟨(⟨(ag (s.extract a k)),0,false,none,0,0,none,0,0,⟨#[]⟩,sB z,1,1⟩:RTm).op,(⟨(ag (s.extract a k)),0,false,none,0,0,none,0,0,⟨#[]⟩,sB z,1,1⟩:RTm).n,(⟨(ag (s.extract a k)),0,false,none,0,0,none,0,0,⟨#[]⟩,sB z,1,1⟩:RTm).neg,(⟨(ag (s.extract a k)),0,false,none,0,0,none,0,0,⟨#[]⟩,sB z,1,1⟩:RTm).zA,(⟨(ag (s.extract a k)),0,false,none,0,0,none,0,0,⟨#[]⟩,sB z,1,1⟩:RTm).zn,(⟨(ag (s.extract a k)),0,false,none,0,0,none,0,0,⟨#[]⟩,sB z,1,1⟩:RTm).zc,(⟨(ag (s.extract a k)),0,false,none,0,0,none,0,0,⟨#[]⟩,sB z,1,1⟩:RTm).dA,(⟨(ag (s.extract a k)),0,false,none,0,0,none,0,0,⟨#[]⟩,sB z,1,1⟩:RTm).dn,(⟨(ag (s.extract a k)),0,false,none,0,0,none,0,0,⟨#[]⟩,sB z,1,1⟩:RTm).dc,(⟨(ag (s.extract a k)),0,false,none,0,0,none,0,0,⟨#[]⟩,sB z,1,1⟩:RTm).s,zr,2,zq⟩) ((by rw[H];exact ⟨⟨ag (s.extract a k),0,false,none,0,0,none,0,0,⟨#[]⟩,zr,2,zq⟩,rfl,u.own 2⟩))))
    refine bn 91 (ihs m1 oM rb s D (sk s k+1) oM (.ok t1 y1) hq1 _ _ u.g (u.own 1) (u.jk 1) u.f.1) ?_;rintro _ _ _ df ⟨O,rfl,kt,b4,cz⟩;replace u:=(u.stepM 1 df b4).to [⟨J,45,ax ⟨0,0,false,none,0,0,none,0,0,⟨#[]⟩,none,0,0⟩⟩,⟨rb,64,[.string s,nV y1,iV (-1)]⟩] [];replace y:=y.trans df;replace u:=(u.add (K:=fun M=>RtH M O t1) cz);refine ec 92 (pL (ag (s.extract a k)) O _ _ u.g) ?_;rintro _ _ _ fz ⟨z,rfl,hbk⟩;replace y:=y.trans (fz.m _);replace u:=u.step fz;replace u:=u.aS hbk;refine fr 8 45 (ax ⟨0,0,false,none,0,0,none,0,0,⟨#[]⟩,none,0,0⟩) u (fun Q _ _ h7 C u=>?_);replace C:=ed y.gr.size C;replace y:=y.trans (h7.m _);refine ce 0 0 (ax (⟨(ag (s.extract a k)),0,false,none,0,0,none,0,0,⟨#[]⟩,sB z,1,1⟩:RTm)) u (fun _ F u=>?_);replace y:=y.put2 F C g u.g;refine ai (aa u ac ?_);cases zm:(((gW (s.extract a k)):Int) == (2:Int))
    .
     have zK:=ao zm;refine lB 94 zm (ah (cK (aa u ac ?_)));have hw:=bD (s:=s) (a:=y1) oM;refine bn 105 (pp rb s D y1 oM 41 kD _ _ u.g (u.own 2) (u.jk 2) u.f.r.1) ?_;rintro _ _ _ bt (⟨rfl,U,kx,S⟩|⟨rfl,U,S⟩)
     .
      replace u:=(u.stepM 2 bt S).to [⟨Q,45,ax (⟨(ag (s.extract a k)),0,false,none,0,0,none,0,0,⟨#[]⟩,sB z,1,1⟩:RTm)⟩,⟨J,45,ax ⟨0,0,false,none,0,0,none,0,0,⟨#[]⟩,none,0,0⟩⟩,⟨rb,64,[.string s,nV (sk s y1+1),iV (-1)]⟩] [];replace y:=y.trans bt;have H:=uG hr1 (v7 aM) U;refine aE (lL u [.o (aY (⟨(ag (s.extract a k)),0,false,none,0,0,none,0,0,⟨#[]⟩,sB z,1,1⟩:RTm)) 0 0 7] (ce 1 0 (ax (⟨(ag (s.extract a k)),0,false,none,0,0,none,0,0,⟨#[]⟩,sB z,1,1⟩:RTm)) u (fun _ F u=>?_)));replace y:=y.put2 F B g u.g;exact lN (kX (u.retM y [(1,0,7)] (aY (⟨(ag (s.extract a k)),0,false,none,0,0,none,0,0,⟨#[]⟩,sB z,1,1⟩:RTm)) ((by rw[H];exact ⟨⟨ag (s.extract a k),0,false,none,0,0,none,0,0,⟨#[]⟩,sB z,1,1⟩,rfl,by omega,u.own 2,RtH.one1 u.f.2.1 u.f.1⟩))))
     replace u:=(u.stepM 2 bt S).to [⟨Q,45,ax (⟨(ag (s.extract a k)),0,false,none,0,0,none,0,0,⟨#[]⟩,sB z,1,1⟩:RTm)⟩,⟨J,45,ax ⟨0,0,false,none,0,0,none,0,0,⟨#[]⟩,none,0,0⟩⟩,⟨rb,64,[.string s,nV s.size,nV (sk s y1)]⟩] [];replace y:=y.trans bt;have H:=Ai hr1 (v7 aM) U;refine aE (lL u [.o (aY (⟨(ag (s.extract a k)),0,false,none,0,0,none,0,0,⟨#[]⟩,sB z,1,1⟩:RTm)) 0 0 7] (ce 1 0 (ax (⟨(ag (s.extract a k)),0,false,none,0,0,none,0,0,⟨#[]⟩,sB z,1,1⟩:RTm)) u (fun _ F u=>?_)));replace y:=y.put2 F B g u.g;exact lN (kX (u.retM y [(1,0,7)] (aY (⟨(ag (s.extract a k)),0,false,none,0,0,none,0,0,⟨#[]⟩,sB z,1,1⟩:RTm)) ((by rw[H];exact ⟨⟨ag (s.extract a k),0,false,none,0,0,none,0,0,⟨#[]⟩,sB z,1,1⟩,rfl,u.own 2⟩))))
    have zK:=eq_of_beq zm;refine lB 94 zm (ak (aa u ac ?_));have j1:=bD (s:=s) (a:=y1) oM;refine bn 96 (pp rb s D y1 oM 44 kD _ _ u.g (u.own 2) (u.jk 2) u.f.r.1) ?_;rintro _ _ _ bw (⟨rfl,V,k3,X⟩|⟨rfl,V,X⟩)
    .
     replace u:=(u.stepM 2 bw X).to [⟨Q,45,ax (⟨(ag (s.extract a k)),0,false,none,0,0,none,0,0,⟨#[]⟩,sB z,1,1⟩:RTm)⟩,⟨J,45,ax ⟨0,0,false,none,0,0,none,0,0,⟨#[]⟩,none,0,0⟩⟩,⟨rb,64,[.string s,nV (sk s y1+1),iV (-1)]⟩] [];replace y:=y.trans bw;replace hr1:=vn hr1 (uI aM) V;refine lN (CG.region ⟨[rb],none⟩ 6 [] mixed kR u.g aw (fun _ hb=>by rw[o0.1 hb];exact aI (u.jk 2)) ?_);refine eV 0 97 (qP Q 6) (eO 1 98 [(0,6,1)] (qS ((⟨(ag (s.extract a k)),0,false,none,0,0,none,0,0,⟨#[]⟩,sB z,1,1⟩:RTm).A) ((⟨(ag (s.extract a k)),0,false,none,0,0,none,0,0,⟨#[]⟩,sB z,1,1⟩:RTm).m) ((⟨(ag (s.extract a k)),0,false,none,0,0,none,0,0,⟨#[]⟩,sB z,1,1⟩:RTm).c)) u ?_ (hM:=fun p hp=>by obtain rfl:=o0.1 hp;exact fun hm=>cB u.st (i:=0) (j:=2) kR kR kR (o0.1 hm)));refine eV 2 99 (pB rb) ?_
     rcases cJ hr1 with ⟨be,he,H⟩|⟨t2,y2,hq2,hr2⟩
     .
      refine i0 3 100 u y (o0.2 rfl) (o0.2 rfl) (fun _ _ u=>ihs m1 oM rb s D (sk s y1+1) oM (.err be) he _ _ u.g (u.own 2) (u.jk 2) u.f.r.1) ?_;rintro _ _ _ _ _ u ht y ⟨bl,rfl,cy⟩;replace u:=(u.stepM 2 ht cy).to [⟨Q,45,ax (⟨(ag (s.extract a k)),0,false,none,0,0,none,0,0,⟨#[]⟩,sB z,1,1⟩:RTm)⟩,⟨J,45,ax ⟨0,0,false,none,0,0,none,0,0,⟨#[]⟩,none,0,0⟩⟩,⟨rb,64,[.string s,nV s.size,nV be]⟩] [];refine Ga 4 101 45 1 (ax bl) u y (fun zL _ _ y u=>Hl 5 102 45 7 ax bZ (sB z) (sB zL) [O] [bl] 1 112 (aY ⟨0,0,false,none,0,0,none,0,0,⟨#[]⟩,none,0,0⟩) u y (fun _ W=>W.2.1) (fun _ W=>SlO.of_flat (sz:=7) (f:=ax) (d:=bZ) (b:=zL) (o:=0) (l:=[bl]) (fun _=>rfl) W.1) (JH _) (JH _) (fun _ _=>by kernel_rfl) (fun zj ze _ _ zB y u=>?_));replace zB:2<=ze:=zB;refine bL u (fun _ _ hl u=>?_);replace y:=y.trans (hl.m _);refine tV 6 103 (qP Q 6) (km 7 0 6 ([qS zj 2 ze]) u (fun _ F u=>?_));replace y:=y.put2 F C g u.g;refine tN (bG [(0,pB rb),(4,pB J),(8,pB Q)] ?_);refine aa u ac (bn 105 (gd rb s D be 41 _ _ u.g (u.own 2) (u.jk 2) u.f.q.1) ?_);rintro _ _ _ c8 ⟨rfl,cq⟩;replace u:=(u.stepM 2 c8 cq).to [⟨Q,45,ax ⟨(⟨(ag (s.extract a k)),0,false,none,0,0,none,0,0,⟨#[]⟩,sB z,1,1⟩:RTm).op,(⟨(ag (s.extract a k)),0,false,none,0,0,none,0,0,⟨#[]⟩,sB z,1,1⟩:RTm).n,(⟨(ag (s.extract a k)),0,false,none,0,0,none,0,0,⟨#[]⟩,sB z,1,1⟩:RTm).neg,(⟨(ag (s.extract a k)),0,false,none,0,0,none,0,0,⟨#[]⟩,sB z,1,1⟩:RTm).zA,(⟨(ag (s.extract a k)),0,false,none,0,0,none,0,0,⟨#[]⟩,sB z,1,1⟩:RTm).zn,(⟨(ag (s.extract a k)),0,false,none,0,0,none,0,0,⟨#[]⟩,sB z,1,1⟩:RTm).zc,(⟨(ag (s.extract a k)),0,false,none,0,0,none,0,0,⟨#[]⟩,sB z,1,1⟩:RTm).dA,(⟨(ag (s.extract a k)),0,false,none,0,0,none,0,0,⟨#[]⟩,sB z,1,1⟩:RTm).dn,(⟨(ag (s.extract a k)),0,false,none,0,0,none,0,0,⟨#[]⟩,sB z,1,1⟩:RTm).dc,(⟨(ag (s.extract a k)),0,false,none,0,0,none,0,0,⟨#[]⟩,sB z,1,1⟩:RTm).s,zj,2,ze⟩⟩,⟨J,45,ax ⟨0,0,false,none,0,0,none,0,0,⟨#[]⟩,none,0,0⟩⟩,⟨rb,64,[.string s,nV s.size,nV be]⟩] [];replace y:=y.trans c8;refine aE (lL u [.o (aY ⟨(⟨(ag (s.extract a k)),0,false,none,0,0,none,0,0,⟨#[]⟩,sB z,1,1⟩:RTm).op,(⟨(ag (s.extract a k)),0,false,none,0,0,none,0,0,⟨#[]⟩,sB z,1,1⟩:RTm).n,(⟨(ag (s.extract a k)),0,false,none,0,0,none,0,0,⟨#[]⟩,sB z,1,1⟩:RTm).neg,(⟨(ag (s.extract a k)),0,false,none,0,0,none,0,0,⟨#[]⟩,sB z,1,1⟩:RTm).zA,(⟨(ag (s.extract a k)),0,false,none,0,0,none,0,0,⟨#[]⟩,sB z,1,1⟩:RTm).zn,(⟨(ag (s.extract a k)),0,false,none,0,0,none,0,0,⟨#[]⟩,sB z,1,1⟩:RTm).zc,(⟨(ag (s.extract a k)),0,false,none,0,0,none,0,0,⟨#[]⟩,sB z,1,1⟩:RTm).dA,(⟨(ag (s.extract a k)),0,false,none,0,0,none,0,0,⟨#[]⟩,sB z,1,1⟩:RTm).dn,(⟨(ag (s.extract a k)),0,false,none,0,0,none,0,0,⟨#[]⟩,sB z,1,1⟩:RTm).dc,(⟨(ag (s.extract a k)),0,false,none,0,0,none,0,0,⟨#[]⟩,sB z,1,1⟩:RTm).s,zj,2,ze⟩) 0 0 7] (ce 1 0 (ax ⟨(⟨(ag (s.extract a k)),0,false,none,0,0,none,0,0,⟨#[]⟩,sB z,1,1⟩:RTm).op,(⟨(ag (s.extract a k)),0,false,none,0,0,none,0,0,⟨#[]⟩,sB z,1,1⟩:RTm).n,(⟨(ag (s.extract a k)),0,false,none,0,0,none,0,0,⟨#[]⟩,sB z,1,1⟩:RTm).neg,(⟨(ag (s.extract a k)),0,false,none,0,0,none,0,0,⟨#[]⟩,sB z,1,1⟩:RTm).zA,(⟨(ag (s.extract a k)),0,false,none,0,0,none,0,0,⟨#[]⟩,sB z,1,1⟩:RTm).zn,(⟨(ag (s.extract a k)),0,false,none,0,0,none,0,0,⟨#[]⟩,sB z,1,1⟩:RTm).zc,(⟨(ag (s.extract a k)),0,false,none,0,0,none,0,0,⟨#[]⟩,sB z,1,1⟩:RTm).dA,(⟨(ag (s.extract a k)),0,false,none,0,0,none,0,0,⟨#[]⟩,sB z,1,1⟩:RTm).dn,(⟨(ag (s.extract a k)),0,false,none,0,0,none,0,0,⟨#[]⟩,sB z,1,1⟩:RTm).dc,(⟨(ag (s.extract a k)),0,false,none,0,0,none,0,0,⟨#[]⟩,sB z,1,1⟩:RTm).s,zj,2,ze⟩) u (fun _ F u=>?_)));replace y:=y.put2 F B g u.g;exact lN (kX (u.retM y [(1,0,7)] (aY ⟨(⟨(ag (s.extract a k)),0,false,none,0,0,none,0,0,⟨#[]⟩,sB z,1,1⟩:RTm).op,(⟨(ag (s.extract a k)),0,false,none,0,0,none,0,0,⟨#[]⟩,sB z,1,1⟩:RTm).n,(⟨(ag (s.extract a k)),0,false,none,0,0,none,0,0,⟨#[]⟩,sB z,1,1⟩:RTm).neg,(⟨(ag (s.extract a k)),0,false,none,0,0,none,0,0,⟨#[]⟩,sB z,1,1⟩:RTm).zA,(⟨(ag (s.extract a k)),0,false,none,0,0,none,0,0,⟨#[]⟩,sB z,1,1⟩:RTm).zn,(⟨(ag (s.extract a k)),0,false,none,0,0,none,0,0,⟨#[]⟩,sB z,1,1⟩:RTm).zc,(⟨(ag (s.extract a k)),0,false,none,0,0,none,0,0,⟨#[]⟩,sB z,1,1⟩:RTm).dA,(⟨(ag (s.extract a k)),0,false,none,0,0,none,0,0,⟨#[]⟩,sB z,1,1⟩:RTm).dn,(⟨(ag (s.extract a k)),0,false,none,0,0,none,0,0,⟨#[]⟩,sB z,1,1⟩:RTm).dc,(⟨(ag (s.extract a k)),0,false,none,0,0,none,0,0,⟨#[]⟩,sB z,1,1⟩:RTm).s,zj,2,ze⟩) ((by rw[H];exact ⟨⟨ag (s.extract a k),0,false,none,0,0,none,0,0,⟨#[]⟩,zj,2,ze⟩,rfl,u.own 2⟩))))
     refine i0 3 100 u y (o0.2 rfl) (o0.2 rfl) (fun _ _ u=>ihs m1 oM rb s D (sk s y1+1) oM (.ok t2 y2) hq2 _ _ u.g (u.own 2) (u.jk 2) u.f.r.1) ?_;rintro _ _ _ _ _ u hx y ⟨bb,rfl,k1,cm,b9⟩;replace u:=(u.stepM 2 hx cm).to [⟨Q,45,ax (⟨(ag (s.extract a k)),0,false,none,0,0,none,0,0,⟨#[]⟩,sB z,1,1⟩:RTm)⟩,⟨J,45,ax ⟨0,0,false,none,0,0,none,0,0,⟨#[]⟩,none,0,0⟩⟩,⟨rb,64,[.string s,nV y2,iV (-1)]⟩] [];replace u:=(u.add (K:=fun M=>RtH M bb t2) b9);refine Ga 4 101 45 1 (ax bb) u y (fun zM _ _ y u=>Hl 5 102 45 7 ax bZ (sB z) (sB zM) [O] [bb] 1 112 (aY ⟨0,0,false,none,0,0,none,0,0,⟨#[]⟩,none,0,0⟩) u y (fun _ W=>W.2.2.1) (fun _ W=>SlO.of_flat (sz:=7) (f:=ax) (d:=bZ) (b:=zM) (o:=0) (l:=[bb]) (fun _=>rfl) W.1) (JH _) (JH _) (fun _ _=>by kernel_rfl) (fun zd zb _ _ zw y u=>?_));replace zw:2<=zb:=zw;refine bL u (fun _ _ hh u=>?_);replace y:=y.trans (hh.m _);refine tV 6 103 (qP Q 6) (km 7 0 6 ([qS zd 2 zb]) u (fun _ F u=>?_));replace y:=y.put2 F C g u.g;refine tN (bG [(0,pB rb),(4,pB J),(8,pB Q)] ?_);refine aa u ac ?_;have h5:=bD (s:=s) (a:=y2) oM;refine bn 105 (pp rb s D y2 oM 41 kD _ _ u.g (u.own 2) (u.jk 2) u.f.q.2.1) ?_;rintro _ _ _ br (⟨rfl,Y,j8,Z⟩|⟨rfl,Y,Z⟩)
     .
      replace u:=(u.stepM 2 br Z).to [⟨Q,45,ax ⟨(⟨(ag (s.extract a k)),0,false,none,0,0,none,0,0,⟨#[]⟩,sB z,1,1⟩:RTm).op,(⟨(ag (s.extract a k)),0,false,none,0,0,none,0,0,⟨#[]⟩,sB z,1,1⟩:RTm).n,(⟨(ag (s.extract a k)),0,false,none,0,0,none,0,0,⟨#[]⟩,sB z,1,1⟩:RTm).neg,(⟨(ag (s.extract a k)),0,false,none,0,0,none,0,0,⟨#[]⟩,sB z,1,1⟩:RTm).zA,(⟨(ag (s.extract a k)),0,false,none,0,0,none,0,0,⟨#[]⟩,sB z,1,1⟩:RTm).zn,(⟨(ag (s.extract a k)),0,false,none,0,0,none,0,0,⟨#[]⟩,sB z,1,1⟩:RTm).zc,(⟨(ag (s.extract a k)),0,false,none,0,0,none,0,0,⟨#[]⟩,sB z,1,1⟩:RTm).dA,(⟨(ag (s.extract a k)),0,false,none,0,0,none,0,0,⟨#[]⟩,sB z,1,1⟩:RTm).dn,(⟨(ag (s.extract a k)),0,false,none,0,0,none,0,0,⟨#[]⟩,sB z,1,1⟩:RTm).dc,(⟨(ag (s.extract a k)),0,false,none,0,0,none,0,0,⟨#[]⟩,sB z,1,1⟩:RTm).s,zd,2,zb⟩⟩,⟨J,45,ax ⟨0,0,false,none,0,0,none,0,0,⟨#[]⟩,none,0,0⟩⟩,⟨rb,64,[.string s,nV (sk s y2+1),iV (-1)]⟩] [];replace y:=y.trans br;have H:=BX hr2 Y;refine aE (lL u [.o (aY ⟨(⟨(ag (s.extract a k)),0,false,none,0,0,none,0,0,⟨#[]⟩,sB z,1,1⟩:RTm).op,(⟨(ag (s.extract a k)),0,false,none,0,0,none,0,0,⟨#[]⟩,sB z,1,1⟩:RTm).n,(⟨(ag (s.extract a k)),0,false,none,0,0,none,0,0,⟨#[]⟩,sB z,1,1⟩:RTm).neg,(⟨(ag (s.extract a k)),0,false,none,0,0,none,0,0,⟨#[]⟩,sB z,1,1⟩:RTm).zA,(⟨(ag (s.extract a k)),0,false,none,0,0,none,0,0,⟨#[]⟩,sB z,1,1⟩:RTm).zn,(⟨(ag (s.extract a k)),0,false,none,0,0,none,0,0,⟨#[]⟩,sB z,1,1⟩:RTm).zc,(⟨(ag (s.extract a k)),0,false,none,0,0,none,0,0,⟨#[]⟩,sB z,1,1⟩:RTm).dA,(⟨(ag (s.extract a k)),0,false,none,0,0,none,0,0,⟨#[]⟩,sB z,1,1⟩:RTm).dn,(⟨(ag (s.extract a k)),0,false,none,0,0,none,0,0,⟨#[]⟩,sB z,1,1⟩:RTm).dc,(⟨(ag (s.extract a k)),0,false,none,0,0,none,0,0,⟨#[]⟩,sB z,1,1⟩:RTm).s,zd,2,zb⟩) 0 0 7] (ce 1 0 (ax ⟨(⟨(ag (s.extract a k)),0,false,none,0,0,none,0,0,⟨#[]⟩,sB z,1,1⟩:RTm).op,(⟨(ag (s.extract a k)),0,false,none,0,0,none,0,0,⟨#[]⟩,sB z,1,1⟩:RTm).n,(⟨(ag (s.extract a k)),0,false,none,0,0,none,0,0,⟨#[]⟩,sB z,1,1⟩:RTm).neg,(⟨(ag (s.extract a k)),0,false,none,0,0,none,0,0,⟨#[]⟩,sB z,1,1⟩:RTm).zA,(⟨(ag (s.extract a k)),0,false,none,0,0,none,0,0,⟨#[]⟩,sB z,1,1⟩:RTm).zn,(⟨(ag (s.extract a k)),0,false,none,0,0,none,0,0,⟨#[]⟩,sB z,1,1⟩:RTm).zc,(⟨(ag (s.extract a k)),0,false,none,0,0,none,0,0,⟨#[]⟩,sB z,1,1⟩:RTm).dA,(⟨(ag (s.extract a k)),0,false,none,0,0,none,0,0,⟨#[]⟩,sB z,1,1⟩:RTm).dn,(⟨(ag (s.extract a k)),0,false,none,0,0,none,0,0,⟨#[]⟩,sB z,1,1⟩:RTm).dc,(⟨(ag (s.extract a k)),0,false,none,0,0,none,0,0,⟨#[]⟩,sB z,1,1⟩:RTm).s,zd,2,zb⟩) u (fun _ F u=>?_)));replace y:=y.put2 F B g u.g;exact lN (kX (u.retM y [(1,0,7)] (aY ⟨(⟨(ag (s.extract a k)),0,false,none,0,0,none,0,0,⟨#[]⟩,sB z,1,1⟩:RTm).op,(⟨(ag (s.extract a k)),0,false,none,0,0,none,0,0,⟨#[]⟩,sB z,1,1⟩:RTm).n,(⟨(ag (s.extract a k)),0,false,none,0,0,none,0,0,⟨#[]⟩,sB z,1,1⟩:RTm).neg,(⟨(ag (s.extract a k)),0,false,none,0,0,none,0,0,⟨#[]⟩,sB z,1,1⟩:RTm).zA,(⟨(ag (s.extract a k)),0,false,none,0,0,none,0,0,⟨#[]⟩,sB z,1,1⟩:RTm).zn,(⟨(ag (s.extract a k)),0,false,none,0,0,none,0,0,⟨#[]⟩,sB z,1,1⟩:RTm).zc,(⟨(ag (s.extract a k)),0,false,none,0,0,none,0,0,⟨#[]⟩,sB z,1,1⟩:RTm).dA,(⟨(ag (s.extract a k)),0,false,none,0,0,none,0,0,⟨#[]⟩,sB z,1,1⟩:RTm).dn,(⟨(ag (s.extract a k)),0,false,none,0,0,none,0,0,⟨#[]⟩,sB z,1,1⟩:RTm).dc,(⟨(ag (s.extract a k)),0,false,none,0,0,none,0,0,⟨#[]⟩,sB z,1,1⟩:RTm).s,zd,2,zb⟩) ((by rw[H];exact ⟨⟨ag (s.extract a k),0,false,none,0,0,none,0,0,⟨#[]⟩,zd,2,zb⟩,rfl,by omega,u.own 2,RtH.two2 u.f.q.1 u.f.r.1 zw u.f.1⟩))))
     replace u:=(u.stepM 2 br Z).to [⟨Q,45,ax ⟨(⟨(ag (s.extract a k)),0,false,none,0,0,none,0,0,⟨#[]⟩,sB z,1,1⟩:RTm).op,(⟨(ag (s.extract a k)),0,false,none,0,0,none,0,0,⟨#[]⟩,sB z,1,1⟩:RTm).n,(⟨(ag (s.extract a k)),0,false,none,0,0,none,0,0,⟨#[]⟩,sB z,1,1⟩:RTm).neg,(⟨(ag (s.extract a k)),0,false,none,0,0,none,0,0,⟨#[]⟩,sB z,1,1⟩:RTm).zA,(⟨(ag (s.extract a k)),0,false,none,0,0,none,0,0,⟨#[]⟩,sB z,1,1⟩:RTm).zn,(⟨(ag (s.extract a k)),0,false,none,0,0,none,0,0,⟨#[]⟩,sB z,1,1⟩:RTm).zc,(⟨(ag (s.extract a k)),0,false,none,0,0,none,0,0,⟨#[]⟩,sB z,1,1⟩:RTm).dA,(⟨(ag (s.extract a k)),0,false,none,0,0,none,0,0,⟨#[]⟩,sB z,1,1⟩:RTm).dn,(⟨(ag (s.extract a k)),0,false,none,0,0,none,0,0,⟨#[]⟩,sB z,1,1⟩:RTm).dc,(⟨(ag (s.extract a k)),0,false,none,0,0,none,0,0,⟨#[]⟩,sB z,1,1⟩:RTm).s,zd,2,zb⟩⟩,⟨J,45,ax ⟨0,0,false,none,0,0,none,0,0,⟨#[]⟩,none,0,0⟩⟩,⟨rb,64,[.string s,nV s.size,nV (sk s y2)]⟩] [];replace y:=y.trans br;have H:=Br hr2 Y;refine aE (lL u [.o (aY ⟨(⟨(ag (s.extract a k)),0,false,none,0,0,none,0,0,⟨#[]⟩,sB z,1,1⟩:RTm).op,(⟨(ag (s.extract a k)),0,false,none,0,0,none,0,0,⟨#[]⟩,sB z,1,1⟩:RTm).n,(⟨(ag (s.extract a k)),0,false,none,0,0,none,0,0,⟨#[]⟩,sB z,1,1⟩:RTm).neg,(⟨(ag (s.extract a k)),0,false,none,0,0,none,0,0,⟨#[]⟩,sB z,1,1⟩:RTm).zA,(⟨(ag (s.extract a k)),0,false,none,0,0,none,0,0,⟨#[]⟩,sB z,1,1⟩:RTm).zn,(⟨(ag (s.extract a k)),0,false,none,0,0,none,0,0,⟨#[]⟩,sB z,1,1⟩:RTm).zc,(⟨(ag (s.extract a k)),0,false,none,0,0,none,0,0,⟨#[]⟩,sB z,1,1⟩:RTm).dA,(⟨(ag (s.extract a k)),0,false,none,0,0,none,0,0,⟨#[]⟩,sB z,1,1⟩:RTm).dn,(⟨(ag (s.extract a k)),0,false,none,0,0,none,0,0,⟨#[]⟩,sB z,1,1⟩:RTm).dc,(⟨(ag (s.extract a k)),0,false,none,0,0,none,0,0,⟨#[]⟩,sB z,1,1⟩:RTm).s,zd,2,zb⟩) 0 0 7] (ce 1 0 (ax ⟨(⟨(ag (s.extract a k)),0,false,none,0,0,none,0,0,⟨#[]⟩,sB z,1,1⟩:RTm).op,(⟨(ag (s.extract a k)),0,false,none,0,0,none,0,0,⟨#[]⟩,sB z,1,1⟩:RTm).n,(⟨(ag (s.extract a k)),0,false,none,0,0,none,0,0,⟨#[]⟩,sB z,1,1⟩:RTm).neg,(⟨(ag (s.extract a k)),0,false,none,0,0,none,0,0,⟨#[]⟩,sB z,1,1⟩:RTm).zA,(⟨(ag (s.extract a k)),0,false,none,0,0,none,0,0,⟨#[]⟩,sB z,1,1⟩:RTm).zn,(⟨(ag (s.extract a k)),0,false,none,0,0,none,0,0,⟨#[]⟩,sB z,1,1⟩:RTm).zc,(⟨(ag (s.extract a k)),0,false,none,0,0,none,0,0,⟨#[]⟩,sB z,1,1⟩:RTm).dA,(⟨(ag (s.extract a k)),0,false,none,0,0,none,0,0,⟨#[]⟩,sB z,1,1⟩:RTm).dn,(⟨(ag (s.extract a k)),0,false,none,0,0,none,0,0,⟨#[]⟩,sB z,1,1⟩:RTm).dc,(⟨(ag (s.extract a k)),0,false,none,0,0,none,0,0,⟨#[]⟩,sB z,1,1⟩:RTm).s,zd,2,zb⟩) u (fun _ F u=>?_)));replace y:=y.put2 F B g u.g;exact lN (kX (u.retM y [(1,0,7)] (aY ⟨(⟨(ag (s.extract a k)),0,false,none,0,0,none,0,0,⟨#[]⟩,sB z,1,1⟩:RTm).op,(⟨(ag (s.extract a k)),0,false,none,0,0,none,0,0,⟨#[]⟩,sB z,1,1⟩:RTm).n,(⟨(ag (s.extract a k)),0,false,none,0,0,none,0,0,⟨#[]⟩,sB z,1,1⟩:RTm).neg,(⟨(ag (s.extract a k)),0,false,none,0,0,none,0,0,⟨#[]⟩,sB z,1,1⟩:RTm).zA,(⟨(ag (s.extract a k)),0,false,none,0,0,none,0,0,⟨#[]⟩,sB z,1,1⟩:RTm).zn,(⟨(ag (s.extract a k)),0,false,none,0,0,none,0,0,⟨#[]⟩,sB z,1,1⟩:RTm).zc,(⟨(ag (s.extract a k)),0,false,none,0,0,none,0,0,⟨#[]⟩,sB z,1,1⟩:RTm).dA,(⟨(ag (s.extract a k)),0,false,none,0,0,none,0,0,⟨#[]⟩,sB z,1,1⟩:RTm).dn,(⟨(ag (s.extract a k)),0,false,none,0,0,none,0,0,⟨#[]⟩,sB z,1,1⟩:RTm).dc,(⟨(ag (s.extract a k)),0,false,none,0,0,none,0,0,⟨#[]⟩,sB z,1,1⟩:RTm).s,zd,2,zb⟩) ((by rw[H];exact ⟨⟨ag (s.extract a k),0,false,none,0,0,none,0,0,⟨#[]⟩,zd,2,zb⟩,rfl,u.own 2⟩))))
    replace u:=(u.stepM 2 bw X).to [⟨Q,45,ax (⟨(ag (s.extract a k)),0,false,none,0,0,none,0,0,⟨#[]⟩,sB z,1,1⟩:RTm)⟩,⟨J,45,ax ⟨0,0,false,none,0,0,none,0,0,⟨#[]⟩,none,0,0⟩⟩,⟨rb,64,[.string s,nV s.size,nV (sk s y1)]⟩] [];replace y:=y.trans bw;have H:=xm hr1 (uI aM) V;refine lN (CG.region ⟨[rb],none⟩ 6 [] mixed kR u.g aw (fun _ hb=>by rw[o0.1 hb];exact aI (u.jk 2)) ?_);refine eV 0 97 (qP Q 6) (eO 1 98 [(0,6,1)] (qS ((⟨(ag (s.extract a k)),0,false,none,0,0,none,0,0,⟨#[]⟩,sB z,1,1⟩:RTm).A) ((⟨(ag (s.extract a k)),0,false,none,0,0,none,0,0,⟨#[]⟩,sB z,1,1⟩:RTm).m) ((⟨(ag (s.extract a k)),0,false,none,0,0,none,0,0,⟨#[]⟩,sB z,1,1⟩:RTm).c)) u ?_ (hM:=fun p hp=>by obtain rfl:=o0.1 hp;exact fun hm=>cB u.st (i:=0) (j:=2) kR kR kR (o0.1 hm)));refine eV 2 99 (pB rb) (i0 3 100 u y (o0.2 rfl) (o0.2 rfl) (fun _ _ u=>nq rb s D (sk s y1) _ _ u.g (u.own 2) (u.jk 2) u.f.r.1) ?_);rintro _ _ _ _ _ u h9 y ⟨bq,rfl,c3⟩;replace u:=(u.stepM 2 h9 c3).to [⟨Q,45,ax (⟨(ag (s.extract a k)),0,false,none,0,0,none,0,0,⟨#[]⟩,sB z,1,1⟩:RTm)⟩,⟨J,45,ax ⟨0,0,false,none,0,0,none,0,0,⟨#[]⟩,none,0,0⟩⟩,⟨rb,64,[.string s,nV s.size,nV (sk s y1)]⟩] [];refine Ga 4 101 45 1 (ax bq) u y (fun zN _ _ y u=>Hl 5 102 45 7 ax bZ (sB z) (sB zN) [O] [bq] 1 112 (aY ⟨0,0,false,none,0,0,none,0,0,⟨#[]⟩,none,0,0⟩) u y (fun _ W=>W.2.1) (fun _ W=>SlO.of_flat (sz:=7) (f:=ax) (d:=bZ) (b:=zN) (o:=0) (l:=[bq]) (fun _=>rfl) W.1) (JH _) (JH _) (fun _ _=>by kernel_rfl) (fun zk zf _ _ zD y u=>?_));replace zD:2<=zf:=zD;refine bL u (fun _ _ hk u=>?_);replace y:=y.trans (hk.m _);refine tV 6 103 (qP Q 6) (km 7 0 6 ([qS zk 2 zf]) u (fun _ F u=>?_));replace y:=y.put2 F C g u.g;refine tN (bG [(0,pB rb),(4,pB J),(8,pB Q)] ?_);refine aa u ac (bn 105 (gd rb s D (sk s y1) 41 _ _ u.g (u.own 2) (u.jk 2) u.f.q.1) ?_);rintro _ _ _ fm ⟨rfl,b3⟩;replace u:=(u.stepM 2 fm b3).to [⟨Q,45,ax ⟨(⟨(ag (s.extract a k)),0,false,none,0,0,none,0,0,⟨#[]⟩,sB z,1,1⟩:RTm).op,(⟨(ag (s.extract a k)),0,false,none,0,0,none,0,0,⟨#[]⟩,sB z,1,1⟩:RTm).n,(⟨(ag (s.extract a k)),0,false,none,0,0,none,0,0,⟨#[]⟩,sB z,1,1⟩:RTm).neg,(⟨(ag (s.extract a k)),0,false,none,0,0,none,0,0,⟨#[]⟩,sB z,1,1⟩:RTm).zA,(⟨(ag (s.extract a k)),0,false,none,0,0,none,0,0,⟨#[]⟩,sB z,1,1⟩:RTm).zn,(⟨(ag (s.extract a k)),0,false,none,0,0,none,0,0,⟨#[]⟩,sB z,1,1⟩:RTm).zc,(⟨(ag (s.extract a k)),0,false,none,0,0,none,0,0,⟨#[]⟩,sB z,1,1⟩:RTm).dA,(⟨(ag (s.extract a k)),0,false,none,0,0,none,0,0,⟨#[]⟩,sB z,1,1⟩:RTm).dn,(⟨(ag (s.extract a k)),0,false,none,0,0,none,0,0,⟨#[]⟩,sB z,1,1⟩:RTm).dc,(⟨(ag (s.extract a k)),0,false,none,0,0,none,0,0,⟨#[]⟩,sB z,1,1⟩:RTm).s,zk,2,zf⟩⟩,⟨J,45,ax ⟨0,0,false,none,0,0,none,0,0,⟨#[]⟩,none,0,0⟩⟩,⟨rb,64,[.string s,nV s.size,nV (sk s y1)]⟩] [];replace y:=y.trans fm;refine aE (lL u [.o (aY ⟨(⟨(ag (s.extract a k)),0,false,none,0,0,none,0,0,⟨#[]⟩,sB z,1,1⟩:RTm).op,(⟨(ag (s.extract a k)),0,false,none,0,0,none,0,0,⟨#[]⟩,sB z,1,1⟩:RTm).n,(⟨(ag (s.extract a k)),0,false,none,0,0,none,0,0,⟨#[]⟩,sB z,1,1⟩:RTm).neg,(⟨(ag (s.extract a k)),0,false,none,0,0,none,0,0,⟨#[]⟩,sB z,1,1⟩:RTm).zA,(⟨(ag (s.extract a k)),0,false,none,0,0,none,0,0,⟨#[]⟩,sB z,1,1⟩:RTm).zn,(⟨(ag (s.extract a k)),0,false,none,0,0,none,0,0,⟨#[]⟩,sB z,1,1⟩:RTm).zc,(⟨(ag (s.extract a k)),0,false,none,0,0,none,0,0,⟨#[]⟩,sB z,1,1⟩:RTm).dA,(⟨(ag (s.extract a k)),0,false,none,0,0,none,0,0,⟨#[]⟩,sB z,1,1⟩:RTm).dn,(⟨(ag (s.extract a k)),0,false,none,0,0,none,0,0,⟨#[]⟩,sB z,1,1⟩:RTm).dc,(⟨(ag (s.extract a k)),0,false,none,0,0,none,0,0,⟨#[]⟩,sB z,1,1⟩:RTm).s,zk,2,zf⟩) 0 0 7] (ce 1 0 (ax ⟨(⟨(ag (s.extract a k)),0,false,none,0,0,none,0,0,⟨#[]⟩,sB z,1,1⟩:RTm).op,(⟨(ag (s.extract a k)),0,false,none,0,0,none,0,0,⟨#[]⟩,sB z,1,1⟩:RTm).n,(⟨(ag (s.extract a k)),0,false,none,0,0,none,0,0,⟨#[]⟩,sB z,1,1⟩:RTm).neg,(⟨(ag (s.extract a k)),0,false,none,0,0,none,0,0,⟨#[]⟩,sB z,1,1⟩:RTm).zA,(⟨(ag (s.extract a k)),0,false,none,0,0,none,0,0,⟨#[]⟩,sB z,1,1⟩:RTm).zn,(⟨(ag (s.extract a k)),0,false,none,0,0,none,0,0,⟨#[]⟩,sB z,1,1⟩:RTm).zc,(⟨(ag (s.extract a k)),0,false,none,0,0,none,0,0,⟨#[]⟩,sB z,1,1⟩:RTm).dA,(⟨(ag (s.extract a k)),0,false,none,0,0,none,0,0,⟨#[]⟩,sB z,1,1⟩:RTm).dn,(⟨(ag (s.extract a k)),0,false,none,0,0,none,0,0,⟨#[]⟩,sB z,1,1⟩:RTm).dc,(⟨(ag (s.extract a k)),0,false,none,0,0,none,0,0,⟨#[]⟩,sB z,1,1⟩:RTm).s,zk,2,zf⟩) u (fun _ F u=>?_)));replace y:=y.put2 F B g u.g;exact lN (kX (u.retM y [(1,0,7)] (aY ⟨(⟨(ag (s.extract a k)),0,false,none,0,0,none,0,0,⟨#[]⟩,sB z,1,1⟩:RTm).op,(⟨(ag (s.extract a k)),0,false,none,0,0,none,0,0,⟨#[]⟩,sB z,1,1⟩:RTm).n,(⟨(ag (s.extract a k)),0,false,none,0,0,none,0,0,⟨#[]⟩,sB z,1,1⟩:RTm).neg,(⟨(ag (s.extract a k)),0,false,none,0,0,none,0,0,⟨#[]⟩,sB z,1,1⟩:RTm).zA,(⟨(ag (s.extract a k)),0,false,none,0,0,none,0,0,⟨#[]⟩,sB z,1,1⟩:RTm).zn,(⟨(ag (s.extract a k)),0,false,none,0,0,none,0,0,⟨#[]⟩,sB z,1,1⟩:RTm).zc,(⟨(ag (s.extract a k)),0,false,none,0,0,none,0,0,⟨#[]⟩,sB z,1,1⟩:RTm).dA,(⟨(ag (s.extract a k)),0,false,none,0,0,none,0,0,⟨#[]⟩,sB z,1,1⟩:RTm).dn,(⟨(ag (s.extract a k)),0,false,none,0,0,none,0,0,⟨#[]⟩,sB z,1,1⟩:RTm).dc,(⟨(ag (s.extract a k)),0,false,none,0,0,none,0,0,⟨#[]⟩,sB z,1,1⟩:RTm).s,zk,2,zf⟩) ((by rw[H];exact ⟨⟨ag (s.extract a k),0,false,none,0,0,none,0,0,⟨#[]⟩,zk,2,zf⟩,rfl,u.own 2⟩))))
   replace u:=(u.stepM 1 u59 bm).to [⟨J,45,ax ⟨0,0,false,none,0,0,none,0,0,⟨#[]⟩,none,0,0⟩⟩,⟨rb,64,[.string s,nV s.size,nV (sk s k)]⟩] [];replace y:=y.trans u59;have H:=Ec hr bd;refine aE (lL u aF (bn 91 (nq rb s D (sk s k) _ _ u.g (u.own 1) (u.jk 1) u.f.1) ?_));rintro _ _ _ c6 ⟨b2,rfl,ch⟩;replace u:=(u.stepM 1 c6 ch).to [⟨J,45,ax ⟨0,0,false,none,0,0,none,0,0,⟨#[]⟩,none,0,0⟩⟩,⟨rb,64,[.string s,nV s.size,nV (sk s k)]⟩] [];replace y:=y.trans c6;refine ec 92 (pL (ag (s.extract a k)) b2 _ _ u.g) ?_;rintro _ _ _ fp ⟨z,rfl,hbk⟩;replace y:=y.trans (fp.m _);replace u:=u.step fp;replace u:=u.aS hbk;refine fr 8 45 (ax ⟨0,0,false,none,0,0,none,0,0,⟨#[]⟩,none,0,0⟩) u (fun zg _ _ h8 I u=>?_);replace I:=ed y.gr.size I;replace y:=y.trans (h8.m _);refine ce 0 0 (ax (⟨(ag (s.extract a k)),0,false,none,0,0,none,0,0,⟨#[]⟩,sB z,1,1⟩:RTm)) u (fun _ F u=>?_);replace y:=y.put2 F I g u.g;refine ai (aa u ac ?_);cases zo:(((gW (s.extract a k)):Int) == (2:Int))
   .
    have zP:=ao zo;refine lB 94 zo (ah (cK (aa u ac (bn 105 (gd rb s D (sk s k) 41 _ _ u.g (u.own 2) (u.jk 2) u.f.2.1) ?_))));rintro _ _ _ dk ⟨rfl,b7⟩;replace u:=(u.stepM 2 dk b7).to [⟨zg,45,ax (⟨(ag (s.extract a k)),0,false,none,0,0,none,0,0,⟨#[]⟩,sB z,1,1⟩:RTm)⟩,⟨J,45,ax ⟨0,0,false,none,0,0,none,0,0,⟨#[]⟩,none,0,0⟩⟩,⟨rb,64,[.string s,nV s.size,nV (sk s k)]⟩] [];replace y:=y.trans dk;refine aE (lL u [.o (aY (⟨(ag (s.extract a k)),0,false,none,0,0,none,0,0,⟨#[]⟩,sB z,1,1⟩:RTm)) 0 0 7] (ce 1 0 (ax (⟨(ag (s.extract a k)),0,false,none,0,0,none,0,0,⟨#[]⟩,sB z,1,1⟩:RTm)) u (fun _ F u=>?_)));replace y:=y.put2 F B g u.g;exact lN (kX (u.retM y [(1,0,7)] (aY (⟨(ag (s.extract a k)),0,false,none,0,0,none,0,0,⟨#[]⟩,sB z,1,1⟩:RTm)) ((by rw[H];exact ⟨⟨ag (s.extract a k),0,false,none,0,0,none,0,0,⟨#[]⟩,sB z,1,1⟩,rfl,u.own 2⟩))))
   have zP:=eq_of_beq zo;refine lB 94 zo (ak (aa u ac (bn 96 (gd rb s D (sk s k) 44 _ _ u.g (u.own 2) (u.jk 2) u.f.2.1) ?_)));rintro _ _ _ c5 ⟨rfl,b6⟩;replace u:=(u.stepM 2 c5 b6).to [⟨zg,45,ax (⟨(ag (s.extract a k)),0,false,none,0,0,none,0,0,⟨#[]⟩,sB z,1,1⟩:RTm)⟩,⟨J,45,ax ⟨0,0,false,none,0,0,none,0,0,⟨#[]⟩,none,0,0⟩⟩,⟨rb,64,[.string s,nV s.size,nV (sk s k)]⟩] [];replace y:=y.trans c5;refine lN (CG.region ⟨[rb],none⟩ 6 [] mixed kR u.g aw (fun _ hb=>by rw[o0.1 hb];exact aI (u.jk 2)) ?_);refine eV 0 97 (qP zg 6) (eO 1 98 [(0,6,1)] (qS ((⟨(ag (s.extract a k)),0,false,none,0,0,none,0,0,⟨#[]⟩,sB z,1,1⟩:RTm).A) ((⟨(ag (s.extract a k)),0,false,none,0,0,none,0,0,⟨#[]⟩,sB z,1,1⟩:RTm).m) ((⟨(ag (s.extract a k)),0,false,none,0,0,none,0,0,⟨#[]⟩,sB z,1,1⟩:RTm).c)) u ?_ (hM:=fun p hp=>by obtain rfl:=o0.1 hp;exact fun hm=>cB u.st (i:=0) (j:=2) kR kR kR (o0.1 hm)));refine eV 2 99 (pB rb) (i0 3 100 u y (o0.2 rfl) (o0.2 rfl) (fun _ _ u=>nq rb s D (sk s k) _ _ u.g (u.own 2) (u.jk 2) u.f.2.1) ?_);rintro _ _ _ _ _ u hn y ⟨bp,rfl,cr⟩;replace u:=(u.stepM 2 hn cr).to [⟨zg,45,ax (⟨(ag (s.extract a k)),0,false,none,0,0,none,0,0,⟨#[]⟩,sB z,1,1⟩:RTm)⟩,⟨J,45,ax ⟨0,0,false,none,0,0,none,0,0,⟨#[]⟩,none,0,0⟩⟩,⟨rb,64,[.string s,nV s.size,nV (sk s k)]⟩] [];refine Ga 4 101 45 1 (ax bp) u y (fun zQ _ _ y u=>Hl 5 102 45 7 ax bZ (sB z) (sB zQ) [b2] [bp] 1 112 (aY ⟨0,0,false,none,0,0,none,0,0,⟨#[]⟩,none,0,0⟩) u y (fun _ W=>W.2.1) (fun _ W=>SlO.of_flat (sz:=7) (f:=ax) (d:=bZ) (b:=zQ) (o:=0) (l:=[bp]) (fun _=>rfl) W.1) (JH _) (JH _) (fun _ _=>by kernel_rfl) (fun zl zi _ _ zE y u=>?_));replace zE:2<=zi:=zE;refine bL u (fun _ _ h4 u=>?_);replace y:=y.trans (h4.m _);refine tV 6 103 (qP zg 6) (km 7 0 6 ([qS zl 2 zi]) u (fun _ F u=>?_));replace y:=y.put2 F I g u.g;refine tN (bG [(0,pB rb),(4,pB J),(8,pB zg)] ?_);refine aa u ac (bn 105 (gd rb s D (sk s k) 41 _ _ u.g (u.own 2) (u.jk 2) u.f.r.2.1) ?_);rintro _ _ _ ds ⟨rfl,c4⟩;replace u:=(u.stepM 2 ds c4).to [⟨zg,45,ax ⟨(⟨(ag (s.extract a k)),0,false,none,0,0,none,0,0,⟨#[]⟩,sB z,1,1⟩:RTm).op,(⟨(ag (s.extract a k)),0,false,none,0,0,none,0,0,⟨#[]⟩,sB z,1,1⟩:RTm).n,(⟨(ag (s.extract a k)),0,false,none,0,0,none,0,0,⟨#[]⟩,sB z,1,1⟩:RTm).neg,(⟨(ag (s.extract a k)),0,false,none,0,0,none,0,0,⟨#[]⟩,sB z,1,1⟩:RTm).zA,(⟨(ag (s.extract a k)),0,false,none,0,0,none,0,0,⟨#[]⟩,sB z,1,1⟩:RTm).zn,(⟨(ag (s.extract a k)),0,false,none,0,0,none,0,0,⟨#[]⟩,sB z,1,1⟩:RTm).zc,(⟨(ag (s.extract a k)),0,false,none,0,0,none,0,0,⟨#[]⟩,sB z,1,1⟩:RTm).dA,(⟨(ag (s.extract a k)),0,false,none,0,0,none,0,0,⟨#[]⟩,sB z,1,1⟩:RTm).dn,(⟨(ag (s.extract a k)),0,false,none,0,0,none,0,0,⟨#[]⟩,sB z,1,1⟩:RTm).dc,(⟨(ag (s.extract a k)),0,false,none,0,0,none,0,0,⟨#[]⟩,sB z,1,1⟩:RTm).s,zl,2,zi⟩⟩,⟨J,45,ax ⟨0,0,false,none,0,0,none,0,0,⟨#[]⟩,none,0,0⟩⟩,⟨rb,64,[.string s,nV s.size,nV (sk s k)]⟩] [];replace y:=y.trans ds;refine aE (lL u [.o (aY ⟨(⟨(ag (s.extract a k)),0,false,none,0,0,none,0,0,⟨#[]⟩,sB z,1,1⟩:RTm).op,(⟨(ag (s.extract a k)),0,false,none,0,0,none,0,0,⟨#[]⟩,sB z,1,1⟩:RTm).n,(⟨(ag (s.extract a k)),0,false,none,0,0,none,0,0,⟨#[]⟩,sB z,1,1⟩:RTm).neg,(⟨(ag (s.extract a k)),0,false,none,0,0,none,0,0,⟨#[]⟩,sB z,1,1⟩:RTm).zA,(⟨(ag (s.extract a k)),0,false,none,0,0,none,0,0,⟨#[]⟩,sB z,1,1⟩:RTm).zn,(⟨(ag (s.extract a k)),0,false,none,0,0,none,0,0,⟨#[]⟩,sB z,1,1⟩:RTm).zc,(⟨(ag (s.extract a k)),0,false,none,0,0,none,0,0,⟨#[]⟩,sB z,1,1⟩:RTm).dA,(⟨(ag (s.extract a k)),0,false,none,0,0,none,0,0,⟨#[]⟩,sB z,1,1⟩:RTm).dn,(⟨(ag (s.extract a k)),0,false,none,0,0,none,0,0,⟨#[]⟩,sB z,1,1⟩:RTm).dc,(⟨(ag (s.extract a k)),0,false,none,0,0,none,0,0,⟨#[]⟩,sB z,1,1⟩:RTm).s,zl,2,zi⟩) 0 0 7] (ce 1 0 (ax ⟨(⟨(ag (s.extract a k)),0,false,none,0,0,none,0,0,⟨#[]⟩,sB z,1,1⟩:RTm).op,(⟨(ag (s.extract a k)),0,false,none,0,0,none,0,0,⟨#[]⟩,sB z,1,1⟩:RTm).n,(⟨(ag (s.extract a k)),0,false,none,0,0,none,0,0,⟨#[]⟩,sB z,1,1⟩:RTm).neg,(⟨(ag (s.extract a k)),0,false,none,0,0,none,0,0,⟨#[]⟩,sB z,1,1⟩:RTm).zA,(⟨(ag (s.extract a k)),0,false,none,0,0,none,0,0,⟨#[]⟩,sB z,1,1⟩:RTm).zn,(⟨(ag (s.extract a k)),0,false,none,0,0,none,0,0,⟨#[]⟩,sB z,1,1⟩:RTm).zc,(⟨(ag (s.extract a k)),0,false,none,0,0,none,0,0,⟨#[]⟩,sB z,1,1⟩:RTm).dA,(⟨(ag (s.extract a k)),0,false,none,0,0,none,0,0,⟨#[]⟩,sB z,1,1⟩:RTm).dn,(⟨(ag (s.extract a k)),0,false,none,0,0,none,0,0,⟨#[]⟩,sB z,1,1⟩:RTm).dc,(⟨(ag (s.extract a k)),0,false,none,0,0,none,0,0,⟨#[]⟩,sB z,1,1⟩:RTm).s,zl,2,zi⟩) u (fun _ F u=>?_)));replace y:=y.put2 F B g u.g;exact lN (kX (u.retM y [(1,0,7)] (aY ⟨(⟨(ag (s.extract a k)),0,false,none,0,0,none,0,0,⟨#[]⟩,sB z,1,1⟩:RTm).op,(⟨(ag (s.extract a k)),0,false,none,0,0,none,0,0,⟨#[]⟩,sB z,1,1⟩:RTm).n,(⟨(ag (s.extract a k)),0,false,none,0,0,none,0,0,⟨#[]⟩,sB z,1,1⟩:RTm).neg,(⟨(ag (s.extract a k)),0,false,none,0,0,none,0,0,⟨#[]⟩,sB z,1,1⟩:RTm).zA,(⟨(ag (s.extract a k)),0,false,none,0,0,none,0,0,⟨#[]⟩,sB z,1,1⟩:RTm).zn,(⟨(ag (s.extract a k)),0,false,none,0,0,none,0,0,⟨#[]⟩,sB z,1,1⟩:RTm).zc,(⟨(ag (s.extract a k)),0,false,none,0,0,none,0,0,⟨#[]⟩,sB z,1,1⟩:RTm).dA,(⟨(ag (s.extract a k)),0,false,none,0,0,none,0,0,⟨#[]⟩,sB z,1,1⟩:RTm).dn,(⟨(ag (s.extract a k)),0,false,none,0,0,none,0,0,⟨#[]⟩,sB z,1,1⟩:RTm).dc,(⟨(ag (s.extract a k)),0,false,none,0,0,none,0,0,⟨#[]⟩,sB z,1,1⟩:RTm).s,zl,2,zi⟩) ((by rw[H];exact ⟨⟨ag (s.extract a k),0,false,none,0,0,none,0,0,⟨#[]⟩,zl,2,zi⟩,rfl,u.own 2⟩))))
  have zW:=eq_of_beq zu;refine lB 78 zu (ak (cQ (aa u ac ?_)))
  rcases hnm:cD (s.extract a k) with _|_
  .
   refine ec 80 ((by have q_:=DO (s.extract a k) (by rw[ByteArray.size_extract];omega) _ _ u.g;rw[hnm] at q_;exact q_)) ?_;rintro _ _ _ d0 rfl;replace y:=y.trans (d0.m _);replace u:=u.step d0;refine lL u [.v qT] (ak (aa u aF (bn 84 (fd rb s D k oM a _ _ u.g (u.own 1) (u.jk 1) u.f.1) ?_)));rintro _ _ _ c7 ⟨rfl,b5⟩;replace u:=(u.stepM 1 c7 b5).to [⟨J,45,ax ⟨0,0,false,none,0,0,none,0,0,⟨#[]⟩,none,0,0⟩⟩,⟨rb,64,[.string s,nV s.size,nV a]⟩] [];replace y:=y.trans c7;refine ce 0 0 (ax (⟨0,0,false,none,0,0,none,0,0,⟨#[]⟩,none,0,0⟩:RTm)) u (fun _ F u=>?_);replace y:=y.put2 F B g u.g;exact lN (kX (u.retM y [(0,0,7)] (aY (⟨0,0,false,none,0,0,none,0,0,⟨#[]⟩,none,0,0⟩:RTm)) ((by rw[FW hk_ hr aM hnm];exact ⟨_,rfl,u.own 1⟩))))
  refine ec 80 ((by have q_:=DO (s.extract a k) (by rw[ByteArray.size_extract];omega) _ _ u.g;rw[hnm] at q_;exact q_)) ?_;rintro _ _ _ d2 rfl;replace y:=y.trans (d2.m _);replace u:=u.step d2;refine lL u [.v qF] (ah (cK (aa u [.c,.v (aY ⟨2,0,false,none,0,0,none,0,0,s.extract a k,none,0,0⟩)] (ce 0 0 (ax ⟨2,0,false,none,0,0,none,0,0,s.extract a k,none,0,0⟩) u (fun _ F u=>?_)))));replace y:=y.put2 F B g u.g;exact lN (kX (u.retM y [(0,0,7)] (aY ⟨2,0,false,none,0,0,none,0,0,s.extract a k,none,0,0⟩) ((by rw[GW hk_ hr aM hnm];exact ⟨⟨2,0,false,none,0,0,none,0,0,_,none,0,0⟩,rfl,by omega,u.own 1,1,AX⟩))))
 try rw[zt] at u
 try rw[zt]
 refine ci (cK (kZ (kQ (lL u [.c,.v (pB rb),.v (qP rb 1),.o (nV k) 1 1 1] (bg 59 ((k:Nat)+1) (k+1) ?_)))));refine lL u [.v (pB rb),.v (qP rb 1)] (ce 1 1 ([nV (k+1)]) u (fun G6 F u=>?_));replace y:=y.put F (o0.2 rfl) u.g;refine lD ?_;have k5:=(zI aM).2;intro a_ ka;refine ⟨_,_,?_,⟨k+1,yg,rfl,rfl,u.to _ _,oM,oM,y,(fun i h1 h2=>by rcases Kf.1 h2 with M|rfl;exact hkb i h1 M;exact (zI aM).1)⟩,ka.to _ kR⟩
 omega
end
def FH (l:List UInt8):List Value:=l.map fun c=>.int .u8 (c.toNat:Int)
theorem sF {x:Nat}(h:x<10):FH [mJ x]=[.int .u8 ((48+x:Nat):Int)]:=by unfold FH;rw[yh,tI h];rfl
section
variable {P:Program}{n:Nat}{N R:Po}{X:Nat->Po}{ops:Array Oper}{k:Nat}{Γ:ck}{w:World}{h:Hp}{w0:World}{h0:Hp}{B:List Bx}{Rs:List Rw}{F:List (Hp->Prop)}
theorem IB (t:Nat)(S T e:TypeId)(x:Operand){b o cap m:Nat}(l:List UInt8)(s:SS w0 h0 w h B Rs F)(i:Seg h b o (FH l))(c:m=l.length)(H:LG P n N R X ops (k+1) ((t,.string ⟨l.toArray⟩)::Γ) w)(y:ev Γ x=.slice (some ⟨b,o,none⟩) m cap:=by kernel_rfl)(p:P.underlying S=some (.slice e):=by kernel_rfl)(f:P.underlying e=some (.int .u8):=by kernel_rfl)(u:P.underlying T=some .string:=by kernel_rfl)
  (a:cL ops Γ k t n=true:=by kernel_rfl)(z:(av ops k).op=.convert S T x:=by kernel_rfl):LG P n N R X ops k Γ w :=
 LG.val t _ w (bS a).1 (bS a).2 (by
  subst c;have q:=run_convert_bytes_back (P:=P) w S T e ⟨b,o,none⟩ cap l p f u (fun j d=>by rw[Lib.add_plain];exact iX s.g (i j _ (by unfold FH;rw[List.getElem?_map,List.getElem?_eq_getElem d];rfl)))
  unfold execOp;simp only[z,y]
  simp[Sem.run_bind,q,Result.andThen]) H
end
theorem Cj (n:Nat)(a:n<100)(w:World)(h:Hp)(g:G w h):Calls Tryz.prog 149 #[nV n] w (Ret w h (fun v _=>v=.string ⟨(Lib.decDigits n).toArray⟩)):=Ret.of_same g (Tryz.internal_strconv_small n a w)
theorem EY (n:Nat)(a:n<100)(w:World)(h:Hp)(g:G w h):Calls Tryz.prog 55 #[nV n] w (Ret w h (fun v _=>v=.string ⟨(Lib.decDigits n).toArray⟩)):=Ret.of_same g (Tryz.strconv_Itoa_small n a w)
theorem D7 (z:Int)(n:Nat)(hz:z=(n:Nat))(a:n<100)(w:World)(h:Hp)(g:G w h):Calls Tryz.prog 55 #[iV z] w (Ret w h (fun v _=>v=.string ⟨(Lib.decDigits n).toArray⟩)):=by
 subst hz;exact EY n a w h g
theorem vz (n:Nat)(e:n<100)(w:World)(h:Hp)(g:G w h):CV 138 #[mV n,iV 10] w h (.string ⟨(Lib.decDigits n).toArray⟩):=by
 have a:=sS g;refine go Tryz.func138 [(0,mV n),(1,iV 10)] rfl (aa a ac (ai (aa a [.c,.v qT] (ak (cQ (aa a ac ?_))))));have ⟨b,d⟩:=dT (p:=(n:Int)<(100:Int)) oM;refine lB 12 b (ak (aa a ac (lV 14 (nV n) ?_ (hr:=rS ((n:Int)) kR (jF oM oM)))));exact aq 15 a (Cj n e _ _ a.g) (fun w2 f a=>lL a ac (af a [] (.string (⟨(Lib.decDigits n).toArray⟩)) rfl))
theorem Gn (n:Nat)(b:n<100)(w:World)(h:Hp)(g:G w h):CV 112 #[mV n,iV 10] w h (.string ⟨(Lib.decDigits n).toArray⟩):=by
 have a:=sS g;exact go Tryz.func112 [(0,mV n),(1,iV 10)] rfl (aa a ac (aE (lL a aF (aq 7 a (vz n b _ _ a.g) (fun w1 c a=>lL a ac (af a [] (.string (⟨(Lib.decDigits n).toArray⟩)) rfl))))))
theorem xl (z:Int)(n:Nat)(hz:z=(n:Nat))(a:n<100)(w:World)(h:Hp)(g:G w h):Calls Tryz.prog 112 #[uV z,iV 10] w (Ret w h (fun v _=>v=.string ⟨(Lib.decDigits n).toArray⟩)):=by
 subst hz;exact Gn n a w h g
theorem Cf (n:Nat)(h0:0<n)(u:n<100)(w:World)(h:Hp)(g:G w h):CV 85 #[nv n] w h (.string ⟨(Lib.decDigits n).toArray⟩):=by
 have a:=sS g;have b:=gZ (show n<18446744073709551616 by omega);have e:=congrArg JA (ik h0 (show n<18446744073709551616 by omega))
 simp only[List.length_singleton] at e
 refine go Tryz.func85 [(0,nv n)] rfl (aG (lA 1 24 (nc n) a (fun l w2 B a=>lL a ac (aE (lL a [.o (nv n) 0 0 2] (lC 10 a (fe n oM oM _ _ a.g) ?_))))));rintro _ y C a ⟨z,rfl,i,k,d⟩;replace a:=a.aS d;refine lL a ac (ai (aa a [.c,.v (nV ((wds n).length))] ?_));have ⟨f,j⟩:=dT (p:=(((wds n).length:Nat):Int)<=(1:Int)) oM;exact lB 13 f (ak (aa a [.v (pB l),.o (mV (n%18446744073709551616)) 0 0 1] (aq 16 a (xl _ n b u _ _ a.g) (fun x D a=>lL a ac (af a [] (.string (⟨(Lib.decDigits n).toArray⟩)) rfl)))))
theorem BA (n:Nat)(e:n<100)(b:(0:Int)=(n:Nat))(w:World)(h:Hp)(g:G w h):CV 85 #[nv 0] w h (.string ⟨(Lib.decDigits n).toArray⟩):=by
 have a:=sS g;exact go Tryz.func85 [(0,nv 0)] rfl (aG (lA 1 24 ([uV 0,eS]) a (fun d w2 l a=>lL a ac (aE (lL a [.o (.agg #[uV 0,eS]) 0 0 2] (aq 10 a (jA _ _ a.g) (fun j k a=>lL a ac (ai (aa a [.c,.v (iV 0),.v qT] (ak (aa a [.v (pB d),.o (uV 0) 0 0 1] (aq 16 a (xl _ n b e _ _ a.g) (fun i f a=>lL a ac (af a [] (.string (⟨(Lib.decDigits n).toArray⟩)) rfl))))))))))))))
theorem Ea (n:Nat)(a:n<100)(w:World)(h:Hp)(g:G w h):Calls Tryz.prog 85 #[nv n] w (Ret w h (fun v _=>v=.string ⟨(Lib.decDigits n).toArray⟩)):=by
 rcases Nat.eq_zero_or_pos n with rfl|h0
 ·exact BA 0 a rfl w h g
 ·exact Cf n h0 a w h g
theorem DQ (n:Nat)(c:n<100)(w:World)(h:Hp)(g:G w h):CV 84 #[wX (.bool false) n] w h (.string ⟨(Lib.decDigits n).toArray⟩):=by
 have a:=sS g;exact go Tryz.func84 [(0,wX qF n)] rfl (aG (lA 1 26 (wC qF n) a (fun b w2 f a=>lL a ac (ai (aa a [.v (pB b),.o qF 0 0 1] (ah (cK (aa a [.v (qP b 1),.o (.agg #[uV (lo n),.string (hi n)]) 0 1 2] (aq 11 a (Ea n c _ _ a.g) (fun d e a=>lL a ac (af a [] (.string (⟨(Lib.decDigits n).toArray⟩)) rfl)))))))))))
theorem Ed (z:Int)(n:Nat)(hz:z=(n:Nat))(a:n<100)(w:World)(h:Hp)(g:G w h):Calls Tryz.prog 84 #[iv z] w (Ret w h (fun v _=>v=.string ⟨(Lib.decDigits n).toArray⟩)):=by
 subst hz;exact DQ n a w h g
theorem DF (n:Nat)(d:n<100)(w:World)(h:Hp)(g:G w h):CV 52 #[qv ((n:Nat):Rat)] w h (.string ⟨(Lib.decDigits n).toArray⟩):=by
 have a:=sS g;have e:LQ 100000000 ((n:Nat):Rat):=(by have b:=LQ.int (z:=(n:Int)) oM oM;exact (b.mono oM));exact go Tryz.func52 [(0,qv ((n:Nat):Rat))] rfl (aG (lA 1 28 (qc ((n:Nat):Rat)) a (fun c w2 l a=>lL a ac (ai (aa a [.o (qv ((n:Nat):Rat)) 0 0 5] (aq 4 a ((by have b:=ie ((n:Nat):Rat) e _ _ a.g;rw[decide_eq_true (Rat.den_natCast n)] at b;exact b)) (fun j k a=>ak (aa a [.v (pB c),.o (iv (((n:Nat):Rat).num)) 0 0 3] (aq 7 a (Ed ((n:Nat):Rat).num n (Kw n) d _ _ a.g) (fun i f a=>lL a ac (af a [] (.string (⟨(Lib.decDigits n).toArray⟩)) rfl)))))))))))
section
variable {M:Ms}{P:Program}{n:Nat}{N R:Po}{X:Nat->Po}{ops:Array Oper}{k k0:Nat}{hr:Hp}{AL:List Al}{L:Array Bool}{Γ:ck}{w:World}{h:Hp}{w0:World}{h0:Hp}{B:List Bx}{Rs:List Rw}{F:List (Hp->Prop)}
theorem tO (i t:Nat)(ps:List (Nat × Nat × Nat))(v:Value)(s:SS w0 h0 w h B Rs F)(H:AG M P n N R X ops k0 (L.setIfInBounds i true) ((t,v)::Γ) w)(a:cT n ops k0 L Γ i t=true:=by kernel_rfl)(b:bR B ps=true:=by kernel_rfl)(c:bP P (execOp (ev Γ) (av ops i)) (cf B ps)=some (.value v,bO B ps):=by kernel_rfl):AG M P n N R X ops k0 L Γ w :=
 T.val i t v w (oH a).1 (oH a).2 (bH _ _ _ _ c (bQ s.st.own ps b)) H
end
section
variable {T8 TB:TypeId}{K b:Nat}
def J8 (T8:TypeId)(K b:Nat)(h:Hp):Prop:=∀ c o,K<=c->h[c]?=some o->o=junk\/(c≠b/\∀ cs fz,o≠.cells cs T8 fz)
theorem p8 {a:Nat}{ty:TypeId}{sz n:Nat}{v:Value}{cs:List Value}{w w':World}(o:w.ownsRowF a ty sz v n cs)(c:∀ b,v.ownBlock=some b->w'.heap[b]?=w.heap[b]?):w'.ownsRowF a ty sz v n cs:=by
 rcases o with ⟨h1,h2|⟨g,cap,cur,fz,hv,hb',hg,rest⟩⟩
 ·exact ⟨h1,.inl h2⟩
 ·exact ⟨h1,.inr ⟨g,cap,cur,fz,hv,hb',(c g (by rw[hv];rfl)).trans hg,rest⟩⟩
theorem jZ {bs:List Value}{w w1:World}(h:Lib.IsBuilderF TB T8 K b bs w)(x:Ext w w1):Lib.IsBuilderF TB T8 K b bs w1:=by
 have key:∀ p,Lib.BuilderAtF TB T8 K b p bs w->Lib.BuilderAtF TB T8 K b p bs w1:=by
  intro p d;have a:=d.lt;obtain ⟨h1,v,i,e,j⟩:=d;exact ⟨h1,v,(Below.block x b a).trans i,p8 e (fun c f=>Below.block x c (e.lt c f).2),j⟩
 rcases h with h|h
 ·exact .inl (key _ h)
 ·exact .inr (key _ h)
theorem BP {bs:List Value}{w:World}(h:Lib.IsBuilderF TB T8 K b bs w):K<=b/\b<w.heap.size:=by
 rcases h with h|h
 ·exact ⟨h.1,h.lt⟩
 ·exact ⟨h.1,h.lt⟩
theorem B4 {w w':World}(x:Ext w w'):Lib.OthersKept T8 (some b) w w':=fun k o c _ _=>by
 have a:k<w.heap.size:=(Array.getElem?_eq_some_iff.1 c).1;exact (Below.block x k a).trans c
theorem tU {w w':World}(x:Ext w w')(a:K<=w.heap.size):Below K w w':=⟨x.os,x.tape,x.output,x.size,fun k b=>Below.block x k oM⟩
structure BSt (TB T8:TypeId) (K b:Nat) (wa:World) (l:List UInt8) (w:World) (h:Hp):Prop where
  hK:K<=w.heap.size
  j8:J8 T8 K b h
  ib:Lib.IsBuilderF TB T8 K b (Lib.byteCells l) w
  be:Below K wa w
  ok:Lib.OthersKept T8 (some b) wa w
def ng (TB T8:TypeId)(K b:Nat)(V:Value)(l out:List UInt8)(w:World):Ending->World->Prop:=fun e w'=>e=.returned V/\(Lib.IsBuilderF TB T8 K b (Lib.byteCells (l++out)) w'/\Below K w w'/\Lib.OthersKept T8 (some b) w w')
def AllNe (T8:TypeId)(b:Nat):List Bx->Prop
  | []=>True
  | x::B=>(x.b≠b/\(x.t != T8)=true)/\AllNe T8 b B
theorem AllNe.mem {B:List Bx}(h:AllNe T8 b B):∀ x∈B,x.b≠b/\x.t≠T8:=by
  induction B with
  | nil=>intro x a;cases a
  | cons y B ih =>
    intro x a
    rcases gq.1 a with rfl|a
    . exact ⟨h.1.1,by simpa using h.1.2⟩
    . exact ih h.2 x a
variable {wz w w' wa:World}{hz h:Hp}{B:List Bx}{F:List (Hp->Prop)}{l:List UInt8}
theorem BSt.start (c:K<=w.heap.size)(j:J8 T8 K b h)(a:Lib.IsBuilderF TB T8 K b (Lib.byteCells l) w):BSt TB T8 K b w l w h:=⟨c,j,a,Below.refl _ _,Lib.OthersKept.refl _ _ _⟩
theorem BSt.ext (s:BSt TB T8 K b wa l w h)(x:Ext w w'){a:Hp}(j:J8 T8 K b a):BSt TB T8 K b wa l w' a:=⟨ed s.hK x.size,j,jZ s.ib x,s.be.trans (tU x s.hK),s.ok.trans (B4 x)⟩
theorem SS.atKb (g:G w h)(f:K<=w.heap.size):∃ w0 h0,SS w0 h0 w h [] [] []/\h0.size=K:=by
 have e:=g.size;refine ⟨{ w with heap:=w.heap.extract 0 K },h.extract 0 K,⟨⟨by simp;omega,fun c=>?_⟩,⟨⟨⟨rfl,rfl,rfl,by simp;omega,fun c b=>?_⟩,⟨by simp;omega,fun c b=>?_⟩,g⟩,fun _ a=>(by cases a),fun _ a=>(by cases a),fun _ a=>(by cases a),by simp⟩,fun _ a=>(by cases a),.nil,fun _ a=>(by cases a),trivial⟩,by simp;omega⟩
 ·show (h.extract 0 K)[c]?=(w.heap.extract 0 K)[c]?\/_
  rw[ez,ez]
  by_cases hb:c<K
  ·rw[if_pos oM,if_pos oM];simpa using g.blk c
  ·rw[if_neg oM,if_neg oM];exact .inl rfl
 ·have d:c<K:=by have:c<(w.heap.extract 0 K).size:=b;simp at this;omega
  show w.heap[c]?=(w.heap.extract 0 K)[c]?
  rw[ez,if_pos oM];simp
 ·have d:c<K:=by simp at b;omega
  rw[ez,if_pos oM];simp
def jx (h:Hp)(n:Nat):Hp:=h++Array.replicate (n-h.size) junk
theorem mN {n c:Nat}(a:c<h.size):(jx h n)[c]?=h[c]?:=Array.getElem?_append_left a
theorem sb {n c:Nat}(h1:h.size<=c)(a:c<n):(jx h n)[c]?=some junk:=by
 unfold jx
 rw[ey h1,wl,if_pos oM]
theorem i4 {n:Nat}(a:h.size<=n):(jx h n).size=n:=by unfold jx;simp;omega
theorem C3 {n:Nat}(a:h.size<=n):Gr h (jx h n):=⟨by rw[i4 a];exact a,fun c b=>mN b⟩
theorem Dj {n:Nat}(j:J8 T8 K b h):J8 T8 K b (jx h n):=by
 intro c o a e
 rcases co c h.size with h1|h1
 ·rw[mN h1] at e;exact j c o a e
 ·rcases co c n with h2|h2
  ·rw[sb h1 h2] at e;injection e with e;exact .inl e.symm
  ·unfold jx at e
   rw[ey h1,wl,if_neg oM] at e;cases e
theorem SS.junk (s:SS wz hz w h B [] F)(j:J8 T8 K b h){l:Hp}{B':List Bx}(u:Up w h w' l)(d:St wz hz w' l B'):∃ a,SS wz hz w' a B' [] F/\J8 T8 K b a/\Up w h w' a:=by
  have z:=s.g.size;have p:=u.g.size;have y:=u.ext.size;have e:h.size<=w'.heap.size:=by omega
  have i:=C3 e
  have o:G w' (jx h w'.heap.size):=⟨(i4 e).symm,fun c=>by
    rcases co c h.size with h1|h1
    . rw[mN h1]
      rcases s.g.blk c with h2|h2
      . exact .inl (h2.trans (Below.block u.ext c oM).symm)
      . exact .inr h2
    . rcases co c w'.heap.size with h2|h2
      . exact .inr (sb h1 h2)
      . left
        rw[ea (by rw[i4 e];exact h2),ea h2]⟩
  refine ⟨jx h w'.heap.size,⟨s.g0,⟨⟨d.up.ext,s.st.up.gr.trans i,o⟩,d.own,fun x k=>?_,d.lo,d.nd⟩,fun _ hr=>(by cases hr),.nil,s.mo,s.f.gw s.mo i.gw⟩,Dj j,⟨u.ext,i,o⟩⟩;have h1:=d.jk x k
  rcases co x.b h.size with h2|h2
  . rw[mN h2,<-u.gr.blk _ h2];exact h1
  . exact sb h2 (by have:=aI h1;omega)
theorem SS.oth (s:SS wz hz w h B [] F)(H:hz.size=K)(j:J8 T8 K b h)(i:Below K w w')(ok:Lib.OthersKept T8 (some b) w w')(hB:AllNe T8 b B):∃ u,SS wz hz w' u B [] F/\J8 T8 K b u:=by
  have I:=s.g.size;have L:=s.g0.size;have J:=i.size;have p:h.size<=w'.heap.size:=by omega
  have y:=C3 p
  have C : G w' (jx h w'.heap.size):=⟨(i4 p).symm,fun c=>by
    rcases co c h.size with h1|h1
    . rw[mN h1]
      rcases s.g.blk c with a|a
      . rcases co c K with h3|h3
        . exact .inl (a.trans (i.block c h3).symm)
        . cases l:h[c]? with
          | none=>rw[Array.getElem?_eq_none_iff] at l;omega
          | some o =>
            rcases j c o h3 l with rfl|⟨h4,h5⟩
            . exact .inr rfl
            . left;exact (ok c o (a.symm.trans l) (fun e=>h4 (Option.some.inj e)) h5).symm
      . exact .inr a
    . rcases co c w'.heap.size with a|a
      . exact .inr (sb h1 a)
      . left
        rw[ea (by rw[i4 p];exact a),ea a]⟩
  have k:Ext wz w':=⟨i.os.trans s.st.up.ext.os,i.tape.trans s.st.up.ext.tape,i.output.trans s.st.up.ext.output,ed s.st.up.ext.size i.size,fun c z=>(i.block c oM).trans (Below.block s.st.up.ext c z)⟩;refine ⟨jx h w'.heap.size,⟨s.g0,⟨⟨k,s.st.up.gr.trans y,C⟩,fun x d=>?_,fun x d=>?_,s.st.lo,s.st.nd⟩,fun _ hr=>(by cases hr),.nil,s.mo,s.f.gw s.mo y.gw⟩,Dj j⟩
  . have h1:=s.st.own x d
    have a:=hB.mem x d;exact ok x.b _ h1 (fun e=>a.1 (Option.some.inj e)) (fun cs D e=>by injection e with _ e2;exact a.2 e2)
  . have h1:=s.st.jk x d
    rw[mN (aI h1)];exact h1
end
section laws
variable {T8 TB:TypeId}{K b:Nat}{M:Ms}{P:Program}{n:Nat}{N R:Po}{X:Nat->Po}{ops:Array Oper}{k k0:Nat}{hr:Hp}{AL:List Al}{L:Array Bool}{Γ:ck}{wz w w' wa:World}{hz h:Hp}{B:List Bx}{F:List (Hp->Prop)}{l out:List UInt8}
theorem Et (t:Nat){f:FuncId}{args:Array Value}{Φ:Value->Hp->Prop}(s:SS wz hz w h B [] F)(bs:BSt TB T8 K b wa l w h)(c:Calls P f args w (Ret w h Φ))(H:∀ v w' a i,SS wz hz w' a B [] F->BSt TB T8 K b wa l w' a->Φ v i->LG P n N R X ops (k+1) ((t,v)::Γ) w')(j:cL ops Γ k t n=true:=by kernel_rfl)(hr:(execOp (ev Γ) (av ops k)).run P w=.ok (.enter f args) w:=by kernel_rfl):LG P n N R X ops k Γ w :=
 LG.call t f args (bS j).1 (bS j).2 hr (c.mono fun e w' ⟨v,a,o,u,d⟩=>by
  obtain ⟨i,p,j2,_⟩:=s.junk bs.j8 u (s.st.step u);exact ⟨v,o,H v w' i a p (bs.ext u.ext j2) d⟩)
theorem IF (t:Nat)(ty:TypeId)(vs:List Value)(s:SS wz hz w h B [] F)(bs:BSt TB T8 K b wa l w h)(H:∀ c w' a,c≠b->SS wz hz w' a (⟨c,ty,vs⟩::B) [] F->BSt TB T8 K b wa l w' a->LG P n N R X ops (k+1) ((t,.pointer (some ⟨c,0,none⟩))::Γ) w')(d:cL ops Γ k t n=true:=by kernel_rfl)
  (hr:(execOp (ev Γ) (av ops k)).run P w=.ok (.value (.pointer (some ⟨w.heap.size,0,none⟩))) (w.alloc (.cells vs.toArray ty (0,0))):=by kernel_rfl):LG P n N R X ops k Γ w :=
 LG.var t ty vs s.st (bS d).1 (bS d).2 hr (fun c w' a o u e=>by
  obtain ⟨f,i,j2,_⟩:=s.junk bs.j8 u e;have j:=(BP bs.ib).2;have:=s.g.size;exact H c w' f oM i (bs.ext u.ext j2))
theorem An (t:Nat){f:FuncId}{args:Array Value}{V:Value}(s:SS wz hz w h B [] F)(bs:BSt TB T8 K b wa l w h)(i:hz.size=K)(hB:AllNe T8 b B)(c:Calls P f args w (ng TB T8 K b V l out w))(H:∀ w' h',SS wz hz w' h' B [] F->BSt TB T8 K b wa (l++out) w' h'->LG P n N R X ops (k+1) ((t,V)::Γ) w')(d:cL ops Γ k t n=true:=by kernel_rfl)(hr:(execOp (ev Γ) (av ops k)).run P w=.ok (.enter f args) w:=by kernel_rfl):LG P n N R X ops k Γ w :=
 LG.call t f args (bS d).1 (bS d).2 hr (c.mono fun e w' ⟨o,j,a,ok⟩=>by
  obtain ⟨p,u,j2⟩:=s.oth i bs.j8 a ok hB;exact ⟨V,o,H w' p u ⟨ed bs.hK a.size,j2,j,bs.be.trans a,bs.ok.trans ok⟩⟩)
theorem IE (i t:Nat){f:FuncId}{args:Array Value}{V:Value}(s:SS wz hz w h B [] F)(bs:BSt TB T8 K b wa l w h)(j:hz.size=K)(hB:AllNe T8 b B)(c:Calls P f args w (ng TB T8 K b V l out w))(H:∀ w' h',SS wz hz w' h' B [] F->BSt TB T8 K b wa (l++out) w' h'->AG M P n N R X ops k0 (L.setIfInBounds i true) ((t,V)::Γ) w')(k:(gY ops k0 L i && ba Γ (av ops i) && ((av ops i).dst == some t) && decide (t<n))=true:=by kernel_rfl)(o:bu ops Γ (av ops i)=some true:=by kernel_rfl)
  (hr:(execOp (ev Γ) (av ops i)).run P w=.ok (.enter f args) w:=by kernel_rfl)(d:M.z=none:=by rfl):AG M P n N R X ops k0 L Γ w :=
 tC i t (c.mono fun e w' ⟨u,p,a,ok⟩=>by
  obtain ⟨x,y,j2⟩:=s.oth j bs.j8 a ok hB;exact ⟨V,u,Tl.none d _ _,H w' x y ⟨ed bs.hK a.size,j2,p,bs.be.trans a,bs.ok.trans ok⟩⟩) k o hr
theorem FZ {wr:World}{a:Hp}(s:SS wz hz w h B [] F)(m:UpM [] wr a w h)(H:∀ w' b,UpM [] wr a w' b->SS wz hz w' b B [] F->AG M P n N R X ops k0 L Γ w')(c:fq ops [] L=true:=by kernel_rfl):EG M P n N R X ops k0 hr [] L Γ w h:=Rg.fin0 c (fun w' b u=>H w' b (m.trans (u.m _)) (s.step u))
theorem BSt.back {wr:World}{a:Hp}(bs:BSt TB T8 K b wa l wr a)(s:SS wz hz wr a B [] F)(m:UpM [] wr a w h):∃ c,SS wz hz w c B [] F/\BSt TB T8 K b wa l w c:=by
 obtain ⟨d,e,j2,_⟩:=s.junk bs.j8 m.up (s.st.step m.up);exact ⟨d,e,bs.ext m.up.ext j2⟩
end laws
section ret
variable {T8 TB:TypeId}{K b:Nat}{P:Program}{n:Nat}{Γ:ck}{wz w wa:World}{hz h:Hp}{B:List Bx}{F:List (Hp->Prop)}{l l0 out:List UInt8}
theorem SS.retB {d:Func}{V:Value}(s:SS wz hz w h B [] F)(bs:BSt TB T8 K b wa l w h)(ps:List (Nat × Nat × Nat))(f:l=l0++out)(c:(lE d Γ && bR B ps)=true:=by kernel_rfl)(i:bP P (me d Γ) (cf B ps)=some (V,bO B ps):=by kernel_rfl):∀ a,Kn n a Γ->li P d (ng TB T8 K b V l0 out wa) a w:=by
 intro a e;rw[Bool.and_eq_true] at c
 refine ⟨e.df.trans (kE c.1),V,?_,rfl,by rw[<-f];exact bs.ib,bs.be,bs.ok⟩;rw[fI e c.1];exact bH _ _ _ _ i (bQ s.st.own ps c.2)
end ret
def xz:Go.Shelf.Ren:=⟨fun|166=>51|240=>82|276=>110|n=>n,fun|0=>0|3=>3|4=>4|5=>5|9=>9|20=>20|37=>82|70=>81|72=>84|75=>99|164=>144|80=>86|n=>n,fun n=>n⟩
theorem Cq:Go.Proofs.Lays.n166 Tryz.prog xz:={
 mixed:=by kernel_rfl
 f166:=Tryz.func51.trans (congrArg some kR)
 f240:=Tryz.func82.trans (congrArg some kR)
 f276:=Tryz.func110.trans (congrArg some kR)
 t0:=Tryz.underlying0
 a0:=Tryz.isAgg0
 z0:=Tryz.sizeOf0
 v0:=Tryz.zeroValue0
 t3:=Tryz.underlying3
 a3:=Tryz.isAgg3
 z3:=Tryz.sizeOf3
 v3:=Tryz.zeroValue3
 t4:=Tryz.underlying4
 a4:=Tryz.isAgg4
 z4:=Tryz.sizeOf4
 v4:=Tryz.zeroValue4
 t9:=Tryz.underlying9
 a9:=Tryz.isAgg9
 z9:=Tryz.sizeOf9
 v9:=Tryz.zeroValue9
 t20:=Tryz.underlying20
 a20:=Tryz.isAgg20
 z20:=Tryz.sizeOf20
 v20:=Tryz.zeroValue20
 t37:=Tryz.underlying82
 a37:=Tryz.isAgg82
 z37:=Tryz.sizeOf82
 v37:=Tryz.zeroValue82
 t70:=Tryz.underlying81
 a70:=Tryz.isAgg81
 z70:=Tryz.sizeOf81
 v70:=Tryz.zeroValue81
 t72:=Tryz.underlying84
 a72:=Tryz.isAgg84
 z72:=Tryz.sizeOf84
 v72:=Tryz.zeroValue84
 t75:=Tryz.underlying99
 a75:=Tryz.isAgg99
 z75:=Tryz.sizeOf99
 v75:=Tryz.zeroValue99
 t164:=Tryz.underlying144
 a164:=Tryz.isAgg144
 z164:=Tryz.sizeOf144
 v164:=Tryz.zeroValue144 }
theorem vm:Builder.Extra Tryz.prog xz:={
 sizeBuilder:=by kernel_rfl
 liesBuilder:=by kernel_rfl
 t5:=Tryz.underlying5
 a5:=Tryz.isAgg5
 z5:=Tryz.sizeOf5
 v5:=Tryz.zeroValue5
 infoByte:=by kernel_rfl
 cellsByte:=by kernel_rfl
 sizeByte:=by kernel_rfl
 neB5:=by decide }
theorem ox {s:ByteArray}(h:cD s=true):fJ s:=by
 have:=oT h
 unfold fJ;omega
theorem wu:∀ s,fJ s->∀ (w:World) (h:Hp),G w h->Calls Tryz.prog 44 #[.string s] w (Ret w h (fun v _=>∃ b,v=.bool b/\b=cD s)):=fun s d w h g=>(D5 s (by unfold fJ at d;omega) w h g).mono fun e w' ⟨v,a,f,u,c⟩=>⟨v,a,f,u,_,c,rfl⟩
theorem TmH.cut {ok:ByteArray->Prop}{h:Hp}:∀ {e d:Nat} {p:PTm} {t:Tm},TmH e h p t->WfT ok d t->TmH d h p t
 | _,0,_,_,_,x=>x.elim
 | 0,_,_,_,x,_=>x.elim
 | e+1,d+1,p,t,⟨h1,h2,h3,h4,h5,h6,ps,h7,h8,h9⟩,⟨_,_,_,_,_,_,_,_,k⟩=>⟨h1,h2,h3,h4,h5,h6,ps,h7,h8,fun i hi=>(h9 i hi).cut (k i hi)⟩
theorem PtH.cut {ok:ByteArray->Prop}{h:Hp}{d:Nat}{p:PTm}{t:Tm}(x:PtH h p t)(y:WfT ok d t):TmH d h p t:=by obtain ⟨e,x⟩:=x;exact x.cut y
theorem Bi (nf bf:ByteArray->Option Rat)(hnf:tE nf)(hbf:FD bf)(s:ByteArray)(Q:s.size<=65536)(n:Nat)(t:Tm)(b:Nat)(H:bj nf bf s n .sum 0=some (.ok t b))(C:sk s b=s.size)(d:Nat)(J:d<=24)(x:WfT (fun s=>cD s=true) d t)(U:d8 d t<=1000)(w:World)(h:Hp)(g:G w h)(F:Tab h):CR 4 #[.string s] w h (fun v h1=>∃ p,v=.tuple #[a8 p,.agg #[iV 0,iV 0,iV 0]]/\TmH d h1 p t):=by
 have a:=((sS g).add (K:=fun i=>Tab i) F);refine go Tryz.func4 [(0,.string s)] rfl (aG (lA 2 31 a2 a (fun z w2 X a=>lA 3 34 ([iV 0,iV 0,iV 0]) a (fun D S W a=>ai (aa a [.c,.v (nV s.size)] ?_)))));have l:(decide ((65536:Int)<(s.size:Int)))=false:=decide_eq_false oM;refine lB 9 l (ah (cK (aa a [.c,.v (.agg #[.string s,iV 0,iV 0])] (lA 14 56 ([.string s,iV 0,iV 0]) a (fun b8 V _ a=>lL a ac (aE (lL a ac (bn 16 ((Ci hnf E1 hbf n).1 b8 s oM 0 (JF _) 0 t b H _ _ a.g (a.own 0) (a.jk 0) a.f.1) ?_))))))));rintro _ _ _ u ⟨y,p,rfl,j,L,M,O⟩;replace a:=(a.stepM 0 u L).to [⟨b8,56,[.string s,nV b,iV 0]⟩,⟨D,34,[iV 0,iV 0,iV 0]⟩,⟨z,31,[iV 0,iV 0,qF,uV 0,eS,uV 0,eS,eS,sZ]⟩] [];replace a:=((a.a_Seg M).add (K:=fun i=>PtH i p t) O);refine lL a ac (ai (aa a [.c,.v qT] (ak (aa a ac (bn 20 (iH b8 s oM b j 0 _ _ a.g (a.own 0) (a.jk 0) a.f.r.1) ?_)))));rintro _ _ _ k ⟨rfl,e⟩;rw[C] at e
 rw[C];replace a:=(a.stepM 0 k e).to [⟨b8,56,[.string s,nV s.size,iV 0]⟩,⟨D,34,[iV 0,iV 0,iV 0]⟩,⟨z,31,[iV 0,iV 0,qF,uV 0,eS,uV 0,eS,eS,sZ]⟩] [];refine aE (lL a [.c,.v (pB b8),.v (qP b8 1),.o (nV s.size) 0 1 1,.c,.v (nV s.size)] ?_);have I:(decide ((s.size:Int)<(s.size:Int)))=false:=decide_eq_false oM;refine lB 27 I (ah (cK (cQ (aa a [.c,.v qF] (ah (cK (cQ (aa a [.c,.v (pB y)] (lH 44 (a8 p) a a.f.2.1 ?_)))))))));refine aq 45 a ((by have B:=sN cD fJ wu (fun s i=>ox i) BJ d p t J _ _ a.g ((a.f.1).cut x) x;rw[if_neg oM] at B;exact B)) (fun _ _ a=>lL a ac (aE (lL a [.c,.v qF] (ah (cK (aa a [.c,.v (pB y)] (lH 53 (a8 p) a a.f.2.1 ?_)))))));exact lL a [.v (.agg #[iV 0,iV 0,iV 0])] (lP 2 0 (bv p) a (fun _ a=>lP 1 0 ([iV 0,iV 0,iV 0]) a (fun _ a=>af a [(2,0,9),(1,0,3)] (.tuple #[a8 p,.agg #[iV 0,iV 0,iV 0]]) (⟨p,rfl,(a.f.1).cut x⟩))))
theorem xi (s:ByteArray)(a:s.size<=65536)(n:Nat)(t:Tm)(b:Nat)(e:bj FJ (fun _=>none) s n .sum 0=some (.ok t b))(j:sk s b=s.size)(d:Nat)(f:d<=24)(k:WfT (fun s=>cD s=true) d t)(i:d8 d t<=1000)(w:World)(h:Hp)(g:G w h)(c:Tab h):CR 4 #[.string s] w h (fun v h1=>∃ p,v=.tuple #[a8 p,.agg #[iV 0,iV 0,iV 0]]/\TmH d h1 p t) :=
 Bi FJ (fun _=>none) Ds wF s a n t b e j d f k i w h g c
theorem d7 {P:Program}{Γ:ck}{o:Oper}{w:World}{a b:ByteArray}(h:execOp (ev Γ) o=(do pure (.value (<-Op.stringOp .add a b))))(c:a.size+b.size<=9223372036854775807):(execOp (ev Γ) o).run P w=.ok (.value (.string (a++b))) w:=by
 rw[h];simp[run_string_add_sum w a b c,Result.andThen]
def kd (op:Int):Int:=if op=3\/op=4 then 1 else if op=5\/op=6 then 2 else if op=7 then 3 else if op=8 then 4 else 5
theorem dH (op:Int):((op=3\/op=4)/\kd op=1)\/((op=5\/op=6)/\kd op=2)\/(op=7/\kd op=3)\/(op=8/\kd op=4)\/((op<3\/8<op)/\kd op=5):=by
 unfold kd
 repeat' split
 all_goals omega
def Bh (op:Int):ByteArray:=if op=3 then ⟨#[32,43,32]⟩ else if op=4 then ⟨#[32,45,32]⟩ else if op=5 then ⟨#[32,42,32]⟩ else ⟨#[32,47,32]⟩
def uv (n:Nat):ByteArray:=⟨(Lib.decDigits n).toArray⟩
def md (wr:Tm->Int->List UInt8):Tm->List UInt8
  | .mk op n q s ks=>if op=1 then (uv q.num.toNat).data.toList else if op=2 then s.data.toList
    else if op=7 then (⟨#[45]⟩:ByteArray).data.toList++wr (ks.getD 0 cc) 3
    else if op=8 then wr (ks.getD 0 cc) 5++((⟨#[94]⟩:ByteArray)++uv n.toNat).data.toList
    else wr (ks.getD 0 cc) (kd op)++(Bh op).data.toList++wr (ks.getD 1 cc) (kd op+1)
def gC:Nat->Tm->Int->List UInt8
  | 0,_,_=>[]
  | d+1,t,l=>if kd t.op<l then (⟨#[40]⟩:ByteArray).data.toList++md (gC d) t++(⟨#[41]⟩:ByteArray).data.toList else md (gC d) t
def rW:Nat->Tm->Prop
  | 0,_=>False
  | d+1,.mk op n q _ ks=>fM op=ks.length/\(1<=op/\op<=8)/\(op=1->∃ k:Nat,k<100/\q=((k:Nat):Rat))/\(0<=n/\n<100)/\∀ i,i<ks.length->rW d (ks.getD i cc)
theorem BU:∀ n,n<100->(uv n).size<=3:=by decide +kernel
theorem Fq:∀ n,n<100->(Lib.decDigits n).all (fun b=>b != 47)=true:=by decide +kernel
theorem qn (k:Nat)(c:k<100)(w:World)(h:Hp)(g:G w h):CV 53 #[.string (uv k),.string ⟨#[47]⟩] w h (.bool false):=by
 have q:=Ret.of_same g (Tryz.strings_Contains_one (uv k) 47 w)
 rw[nW (uv k).data.toList (fun b a=>by
  have h1:=List.all_eq_true.1 (Fq k c) b a
  simpa using h1)] at q
 exact q
theorem At (K b:Nat)(l:List UInt8)(x:ByteArray)(w:World)(a:Lib.IsBuilderF 84 5 K b (Lib.byteCells (l)) w)(d:K<=w.heap.size)(h:l.length+x.data.toList.length<=140737488355328):Calls Tryz.prog 51 #[pB b,.string x] w (ng 84 5 K b (.tuple #[iV x.size,.nilIface]) l x.data.toList w) :=
 (Any.Builder_WriteString_k Cq vm K b (Lib.byteCells l) x w a (by rw[Lib.byteCells_length];exact h) d).mono fun e w' ⟨i,h1,f,j⟩=>⟨i,by
  have c:Lib.byteCells (l++x.data.toList)=Lib.byteCells l++Lib.strCells x:=by unfold Lib.byteCells;rw[List.map_append];rfl
  rw[c];exact .inr h1,f,j⟩
theorem sa (p:PTm)(w:World)(h:Hp)(g:G w h):CV 50 #[a8 p] w h (iV (kd p.op)):=by
 have a:=sS g;refine go Tryz.func50 [(0,a8 p)] rfl (aG (lA 1 31 (bv p) a (fun z w2 B a=>lL a ac (ai (aa a [.v (pB z),.o (iV p.op) 0 0 1] (bx (cQ (aG ?_))))))));cases f:((p.op:Int) == (3:Int))
 .
  have y:=ao f;refine lB 6 f (lL a ac (ah (kQ ?_)));cases b:((p.op:Int) == (4:Int))
  .
   have u:=ao b;refine lB 7 b (lL a ac (ah (cQ (aG ?_))));cases i:((p.op:Int) == (5:Int))
   .
    have k:=ao i;refine lB 9 i (lL a ac (ah (kQ ?_)));cases d:((p.op:Int) == (6:Int))
    .
     have x:=ao d;refine lB 10 d (lL a ac (ah (aG ?_)));cases e:((p.op:Int) == (7:Int))
     .
      have l:=ao e;refine lB 12 e (lL a ac (ah (aG ?_)));cases c:((p.op:Int) == (8:Int))
      .
       have j:=ao c;exact lB 14 c (lL a ac (ah (cK (aa a ac (af a [] (iV 5) (congrArg (Value.int .i64) (by have:=dH p.op;omega)))))))
      have j:=eq_of_beq c;exact lB 14 c (lL a ac (ak (aa a ac (af a [] (iV 4) (congrArg (Value.int .i64) (by have:=dH p.op;omega))))))
     have l:=eq_of_beq e;exact lB 12 e (lL a ac (ak (aa a ac (af a [] (iV 3) (congrArg (Value.int .i64) (by have:=dH p.op;omega))))))
    have x:=eq_of_beq d;exact lB 10 d (lL a ac (ak (aa a ac (af a [] (iV 2) (congrArg (Value.int .i64) (by have:=dH p.op;omega))))))
   have k:=eq_of_beq i;exact lB 9 i (lL a ac (ak (cK (ci (aa a ac (af a [] (iV 2) (congrArg (Value.int .i64) (by have:=dH p.op;omega))))))))
  have u:=eq_of_beq b;exact lB 7 b (lL a ac (ak (aa a ac (af a [] (iV 1) (congrArg (Value.int .i64) (by have:=dH p.op;omega))))))
 have y:=eq_of_beq f;exact lB 6 f (lL a ac (ak (cK (ci (aa a ac (af a [] (iV 1) (congrArg (Value.int .i64) (by have:=dH p.op;omega))))))))
theorem FX (op:Int)(w:World)(h:Hp)(g:G w h):CV 54 #[iV op] w h (.string (Bh op)):=by
 have a:=sS g;refine go Tryz.func54 [(0,iV op)] rfl (aa a ac (ai (aa a ac (bx (aG ?_)))));cases d:((op:Int) == (3:Int))
 .
  have e:=ao d;refine lB 5 d (lL a ac (ah (aG ?_)));cases b:((op:Int) == (4:Int))
  .
   have i:=ao b;refine lB 7 b (lL a ac (ah (aG ?_)));cases c:((op:Int) == (5:Int))
   .
    have f:=ao c;exact lB 9 c (lL a ac (ah (cK (aa a ac (af a [] (.string (⟨#[32,47,32]⟩)) (congrArg Value.string (by unfold Bh;repeat first|rw[if_pos oM]|rw[if_neg oM])))))))
   have f:=eq_of_beq c;exact lB 9 c (lL a ac (ak (aa a ac (af a [] (.string (⟨#[32,42,32]⟩)) (congrArg Value.string (by unfold Bh;repeat first|rw[if_pos oM]|rw[if_neg oM]))))))
  have i:=eq_of_beq b;exact lB 7 b (lL a ac (ak (aa a ac (af a [] (.string (⟨#[32,45,32]⟩)) (congrArg Value.string (by unfold Bh;repeat first|rw[if_pos oM]|rw[if_neg oM]))))))
 have e:=eq_of_beq d;exact lB 5 d (lL a ac (ak (aa a ac (af a [] (.string (⟨#[32,43,32]⟩)) (congrArg Value.string (by unfold Bh;repeat first|rw[if_pos oM]|rw[if_neg oM]))))))
theorem BZ (d:Nat)(K b:Nat)(bs:List UInt8)(ih:∀ (K b:Nat) (bs:List UInt8) (p:PTm) (t:Tm) (u:Int) (w:World) (h:Hp),G w h->K<=w.heap.size->J8 5 K b h->Lib.IsBuilderF 84 5 K b (Lib.byteCells (bs)) w->TmH d h p t->rW d t->bs.length+(gC d t u).length<=100000000000->Calls Tryz.prog 32 #[pB b,a8 p,iV u] w (ng 84 5 K b (.tuple #[]) bs (gC d t u) w))(op n:Int)(q:Rat)(s:ByteArray)(A:Z9)(c:Nat)(ps:List PTm)(ks:List Tm)(hc:ps.length<=c)(bb:fM op=(ks.length:Nat))(hop:1<=op/\op<=8)(hq1:op=1->∃ k:Nat,k<100/\q=((k:Nat):Rat))(hn:0<=n/\n<100)(hW:∀ i,i<ks.length->rW d (ks.getD i cc))(u:Int)(hle:u<=kd op)(F:bs.length+(md (gC d) (.mk op n q s ks)).length<=100000000000)(w:World)(h:Hp)(g:G w h)(X:K<=w.heap.size)(hj8:J8 5 K b h)(hib:Lib.IsBuilderF 84 5 K b (Lib.byteCells (bs)) w)(hA:SlO 9 bv a6 h A ps)(hT:Tms d h ps ks):Calls Tryz.prog 32 #[pB b,a8 ⟨op,n,q,s,A,ps.length,c⟩,iV u] w (ng 84 5 K b (.tuple #[]) bs (md (gC d) (.mk op n q s ks)) w):=by
 obtain ⟨wz,Z,j,C⟩:=SS.atKb g X;have e:=BSt.start X hj8 hib;have hln:=hT.len;have hac:=aU op;have hrk:=dH op;replace j:=((j.aS hA).add (K:=fun D=>Tms d D ps ks) hT);refine go Tryz.func32 [(0,pB b),(1,a8 ⟨op,n,q,s,A,ps.length,c⟩),(2,iV u)] rfl (aG (IF 4 31 (bv ⟨op,n,q,s,A,ps.length,c⟩) j e (fun H w2 h3 l j e=>ai (aa j [.o (a8 ⟨op,n,q,s,A,ps.length,c⟩) 0 0 9] (Et 10 j e (sa ⟨op,n,q,s,A,ps.length,c⟩ _ _ j.g) ?_)))));rintro _ w4 h5 _ j e rfl;refine lL j ac ?_;have hb6:(decide ((kd op:Int)<(u:Int)))=false:=decide_eq_false oM;refine lB 12 hb6 (ah (cK (aa j [.v (pB H),.o (iV op) 0 0 1] (bx (aG ?_)))));cases L:((op:Int) == (1:Int))
 .
  have U:=ao L;refine lB 47 L (lL j ac (ah (aG ?_)));cases O:((op:Int) == (2:Int))
  .
   have W:=ao O;refine lB 66 O ?_;refine lL j ac (ah (CG.join (fun Γ w_=>∃ (zf:Bool)(D:Hp),Γ=[(0,pB b),(4,pB H),(21,iV op),(71,.bool zf)]/\SS wz Z w_ D [⟨H,31,bv ⟨op,n,q,s,A,ps.length,c⟩⟩] [] [fun D=>Tms d D ps ks,fun D=>SlO 9 bv a6 D A ps]/\BSt 84 5 K b w bs w_ D/\(zf=true->3<=op/\op<=6)/\(zf=false->7<=op)) ?_ ?_))
   .
    refine aG ?_;cases J:((op:Int) == (3:Int))
    .
     have S:=ao J;refine lB 72 J (lL j ac (ah (aG ?_)));cases za:((op:Int) == (4:Int))
     .
      have zg:=ao za;refine lB 73 za (lL j ac (ah (aG ?_)));cases zb:((op:Int) == (5:Int))
      .
       have zi:=ao zb;refine lB 74 zb (lL j ac (ah (kQ ?_)));cases zc:((op:Int) == (6:Int))
       .
        have zj:=ao zc;refine lB 75 zc (lL j ac (lD ?_));intro a_ I;exact ⟨_,⟨false,h5,rfl,j.to _ _,e,(fun D=>absurd D kD),(fun _=>by omega)⟩,I.to _ kR⟩
       have zj:=eq_of_beq zc;refine lB 75 zc (lL j ac (lD ?_));intro a_ I;exact ⟨_,⟨true,h5,rfl,j.to _ _,e,(fun _=>by omega),(fun D=>absurd D kD)⟩,I.to _ kR⟩
      have zi:=eq_of_beq zb;refine lB 74 zb (lL j ac (ak (CG.skip ?_)));intro a_ I;exact ⟨_,⟨true,h5,rfl,j.to _ _,e,(fun _=>by omega),(fun D=>absurd D kD)⟩,I.to _ kR⟩
     have zg:=eq_of_beq za;refine lB 73 za (lL j ac (ak (CG.skip ?_)));intro a_ I;exact ⟨_,⟨true,h5,rfl,j.to _ _,e,(fun _=>by omega),(fun D=>absurd D kD)⟩,I.to _ kR⟩
    have S:=eq_of_beq J;refine lB 72 J (lL j ac (ak (CG.skip ?_)));intro a_ I;exact ⟨_,⟨true,h5,rfl,j.to _ _,e,(fun _=>by omega),(fun D=>absurd D kD)⟩,I.to _ kR⟩
   rintro _ zl ⟨zf,zm,rfl,j,e,zp,V⟩;cases zd:(zf)
   .
    try rw[zd] at j
    try rw[zd]
    refine cV (aG ?_);have hF_:=V aM;cases ze:((op:Int) == (7:Int))
    .
     have zk:=ao ze;refine lB 99 ze (lL j ac (ah (aG ?_)));have zq:((op:Int) == (8:Int))=true:=gE oM;refine lB 109 zq (lL j ac (ak ?_));have y:md (gC d) (.mk op n q s ks)=gC d (ks.getD 0 cc) 5++((⟨#[94]⟩:ByteArray)++uv n.toNat).data.toList:=by simp only[md];repeat first|rw[if_pos oM]|rw[if_neg oM]
     have x:=F;rw[y] at x
     try simp only[s6] at x
     refine aa j [.c,.v (qP H 8),.o (qS A ps.length c) 0 8 1] (lX 113 A ps.length c 9 0 0 ((j.f.2.1).ok oM) ?_);refine lH 114 (a8 (ps.getD 0 a6)) j ((j.f.2.1).el 0 oM) (An 115 j e C ⟨⟨l,rfl⟩,trivial⟩ (ih K b bs (ps.getD 0 a6) (ks.getD 0 cc) (5) _ _ j.g e.hK e.j8 e.ib ((j.f.1).at_ 0 oM) (hW 0 oM) (by first|omega|(simp only[s6];omega))) (fun _ _ j e=>lN (kQ (lL j [.c,.v (qP H 1),.o (iV n) 0 1 1] (Et 119 j e (D7 n n.toNat oM oM _ _ j.g) ?_)))));rintro _ _ _ _ j e rfl;refine lV 120 (.string ((⟨#[94]⟩:ByteArray)++(uv n.toNat))) ?_ (hr:=d7 (a:=⟨#[94]⟩) (b:=(uv n.toNat)) kR (by have h1_:=BU n.toNat oM;have h2_:(⟨#[94]⟩:ByteArray).size=1:=rfl;omega));exact An 121 j e C ⟨⟨l,rfl⟩,trivial⟩ (At K b (bs++(gC d (ks.getD 0 cc) (5))) ((⟨#[94]⟩:ByteArray)++(uv n.toNat)) _ e.ib e.hK (by first|omega|(simp only[s6];omega))) (fun _ _ j e=>lD (j.retB e [] (by rw[y];try simp only[Kk])))
    have zk:=eq_of_beq ze;refine lB 99 ze (lL j ac (ak ?_));have y:md (gC d) (.mk op n q s ks)=(⟨#[45]⟩:ByteArray).data.toList++gC d (ks.getD 0 cc) 3:=by simp only[md];repeat first|rw[if_pos oM]|rw[if_neg oM]
    have x:=F;rw[y] at x
    try simp only[s6] at x
    refine aa j ac (An 101 j e C ⟨⟨l,rfl⟩,trivial⟩ (At K b bs (⟨#[45]⟩) _ e.ib e.hK (by first|omega|(simp only[s6];omega))) (fun _ _ j e=>lN (kQ (lL j [.c,.v (qP H 8),.o (qS A ps.length c) 0 8 1] (lX 105 A ps.length c 9 0 0 ((j.f.2.1).ok oM) ?_)))));exact lH 106 (a8 (ps.getD 0 a6)) j ((j.f.2.1).el 0 oM) (An 107 j e C ⟨⟨l,rfl⟩,trivial⟩ (ih K b (bs++((⟨#[45]⟩:ByteArray).data.toList)) (ps.getD 0 a6) (ks.getD 0 cc) (3) _ _ j.g e.hK e.j8 e.ib ((j.f.1).at_ 0 oM) (hW 0 oM) (by first|omega|(simp only[s6];omega))) (fun _ _ j e=>lD (j.retB e [] (by rw[y];try simp only[Kk]))))
   try rw[zd] at j
   try rw[zd]
   refine ci (cQ ?_);have Q:=j;have B:UpM [] zl zm zl zm:=UpM.refl j.g;have hT_:=zp aM;have y:md (gC d) (.mk op n q s ks)=gC d (ks.getD 0 cc) (kd op)++(Bh op).data.toList++gC d (ks.getD 1 cc) (kd op+1):=by simp only[md];repeat first|rw[if_pos oM]|rw[if_neg oM]
   have x:=F;rw[y] at x
   try simp only[s6] at x
   refine cR 7 [] mixed j aw (eV 0 76 (pB b) (eV 1 77 (qP H 8) (Hv 2 78 [3,4,7] [(0,8,1)] (qS A ps.length c) j (eX 3 79 A ps.length c 9 0 0 ((j.f.2.1).ok oM) (eH 4 80 (a8 (ps.getD 0 a6)) j ((j.f.2.1).el 0 oM) (Hv 5 81 [6,7] [(0,0,9)] (a8 ⟨op,n,q,s,A,ps.length,c⟩) j (io 6 82 j B (fun _ _ j=>sa ⟨op,n,q,s,A,ps.length,c⟩ _ _ j.g) ?_)))))));rintro _ _ _ _ _ B j rfl;refine FZ j B (fun _ _ B j=>?_);obtain ⟨_,j,e⟩:=e.back Q B;refine IE 7 83 j e C ⟨⟨l,rfl⟩,trivial⟩ (ih K b bs (ps.getD 0 a6) (ks.getD 0 cc) (kd op) _ _ j.g e.hK e.j8 e.ib ((j.f.1).at_ 0 oM) (hW 0 oM) (by first|omega|(simp only[s6];omega))) (fun _ _ j e=>As (lL j [.c,.v (pB H),.o (iV op) 0 0 1] (Et 87 j e (FX op _ _ j.g) ?_)));rintro _ _ _ _ j e rfl;refine An 88 j e C ⟨⟨l,rfl⟩,trivial⟩ (At K b (bs++(gC d (ks.getD 0 cc) (kd op))) (Bh op) _ e.ib e.hK (by first|omega|(simp only[s6];omega))) (fun zn zo j e=>lN ?_);have Q:=j;have B:UpM [] zn zo zn zo:=UpM.refl j.g;refine cR 8 [] mixed j aw (eV 0 89 (pB b) (eV 1 90 (qP H 8) (Hv 2 91 [3,4,8] [(0,8,1)] (qS A ps.length c) j (eX 3 92 A ps.length c 9 1 1 ((j.f.2.1).ok oM) (eH 4 93 (a8 (ps.getD 1 a6)) j ((j.f.2.1).el 1 oM) (Hv 5 94 [6,7,8] [(0,0,9)] (a8 ⟨op,n,q,s,A,ps.length,c⟩) j (io 6 95 j B (fun _ _ j=>sa ⟨op,n,q,s,A,ps.length,c⟩ _ _ j.g) ?_)))))));rintro _ _ _ _ _ B j rfl;refine eI 7 96 ((kd op)+1) (FZ j B (fun _ _ B j=>?_));obtain ⟨_,j,e⟩:=e.back Q B;exact IE 8 97 j e C ⟨⟨l,rfl⟩,trivial⟩ (ih K b ((bs++(gC d (ks.getD 0 cc) (kd op)))++((Bh op).data.toList)) (ps.getD 1 a6) (ks.getD 1 cc) ((kd op)+1) _ _ j.g e.hK e.j8 e.ib ((j.f.1).at_ 1 oM) (hW 1 oM) (by first|omega|(simp only[s6];omega))) (fun _ _ j e=>tD (j.retB e [] (by rw[y];try simp only[Kk])))
  have W:=eq_of_beq O;refine lB 66 O (lL j ac (ak ?_));have y:md (gC d) (.mk op n q s ks)=s.data.toList:=by simp only[md];repeat first|rw[if_pos oM]|rw[if_neg oM]
  have x:=F;rw[y] at x
  try simp only[s6] at x
  exact kQ (lL j [.c,.v (qP H 7),.o (.string s) 0 7 1] (An 70 j e C ⟨⟨l,rfl⟩,trivial⟩ (At K b bs s _ e.ib e.hK (by first|omega|(simp only[s6];omega))) (fun _ _ j e=>lD (j.retB e [] (by rw[y];try simp only[Kk])))))
 have U:=eq_of_beq L;refine lB 47 L (lL j ac (ak ?_));obtain ⟨k,Y,M⟩:=hq1 oM;have hlq:LQ 100000000 q:=by rw[M];exact (LQ.int (z:=(k:Int)) oM oM).mono oM
 have hsg:0<=q.num.sign:=by rw[M];rw[Kw];cases k<;>simp[Int.sign]
 have y:md (gC d) (.mk op n q s ks)=(uv k).data.toList:=by simp only[md];rw[if_pos (show op=1 by omega),M];rfl
 have x:=F;rw[y] at x
 try simp only[s6] at x
 refine aa j [.v (qP H 2),.o (qv q) 0 2 5] (Et 50 j e ((by have q_:=DF k Y _ _ j.g;rw[<-M] at q_;exact q_)) ?_);rintro _ _ _ _ j e rfl;refine lL j ac (ai (aa j [.v (qP H 2),.o (qv q) 0 2 5] (Et 53 j e (mE q hlq _ _ j.g) ?_)));rintro _ _ _ _ j e rfl;have zr:(decide ((q.num.sign:Int)<(0:Int)))=false:=decide_eq_false oM;refine lB 54 zr (lL j aF (Et 57 j e (qn k Y _ _ j.g) ?_));rintro _ _ _ _ j e rfl;exact lL j [.v qF] (ah (cK (kQ (lL j aF (An 64 j e C ⟨⟨l,rfl⟩,trivial⟩ (At K b bs (uv k) _ e.ib e.hK (by first|omega|(simp only[s6];omega))) (fun _ _ j e=>lD (j.retB e [] (by rw[y];try simp only[Kk]))))))))
theorem AJ (d:Nat)(K b:Nat)(bs:List UInt8)(op n:Int)(q:Rat)(s:ByteArray)(A:Z9)(c:Nat)(ps:List PTm)(ks:List Tm)(O:ps.length<=c)(hB:∀ (bs:List UInt8) (w:World) (h:Hp),G w h->K<=w.heap.size->J8 5 K b h->Lib.IsBuilderF 84 5 K b (Lib.byteCells (bs)) w->SlO 9 bv a6 h A ps->Tms d h ps ks->bs.length+(md (gC d) (.mk op n q s ks)).length<=100000000000->Calls Tryz.prog 32 #[pB b,a8 ⟨op,n,q,s,A,ps.length,c⟩,iV 0] w (ng 84 5 K b (.tuple #[]) bs (md (gC d) (.mk op n q s ks)) w))(i:Int)(H:kd op<i)(p:bs.length+((⟨#[40]⟩:ByteArray).data.toList++md (gC d) (.mk op n q s ks)++(⟨#[41]⟩:ByteArray).data.toList).length<=100000000000)(w:World)(h:Hp)(g:G w h)(l:K<=w.heap.size)(x:J8 5 K b h)(u:Lib.IsBuilderF 84 5 K b (Lib.byteCells (bs)) w)(I:SlO 9 bv a6 h A ps)(C:Tms d h ps ks):Calls Tryz.prog 32 #[pB b,a8 ⟨op,n,q,s,A,ps.length,c⟩,iV i] w (ng 84 5 K b (.tuple #[]) bs ((⟨#[40]⟩:ByteArray).data.toList++md (gC d) (.mk op n q s ks)++(⟨#[41]⟩:ByteArray).data.toList) w):=by
 obtain ⟨wz,B,e,k⟩:=SS.atKb g l;have a:=BSt.start l x u;have D:=C.len;have F:=aU op;have J:=dH op;replace e:=((e.aS I).add (K:=fun L=>Tms d L ps ks) C);have y:=p
 simp only[s6] at y
 refine go Tryz.func32 [(0,pB b),(1,a8 ⟨op,n,q,s,A,ps.length,c⟩),(2,iV i)] rfl (aG (IF 4 31 (bv ⟨op,n,q,s,A,ps.length,c⟩) e a (fun S w2 V j e a=>ai (aa e [.o (a8 ⟨op,n,q,s,A,ps.length,c⟩) 0 0 9] (Et 10 e a (sa ⟨op,n,q,s,A,ps.length,c⟩ _ _ e.g) ?_)))));rintro _ Q W _ e a rfl;refine lL e ac ?_;have z:(decide ((kd op:Int)<(i:Int)))=true:=decide_eq_true oM;exact lB 12 z (ak (aa e ac (An 14 e a k ⟨⟨j,rfl⟩,trivial⟩ (At K b bs (⟨#[40]⟩) _ a.ib a.hK (by first|omega|(simp only[s6];omega))) (fun M X e a=>aE (lL e [.c,.o (a8 ⟨op,n,q,s,A,ps.length,c⟩) 0 0 9] (An 17 e a k ⟨⟨j,rfl⟩,trivial⟩ (hB (bs++((⟨#[40]⟩:ByteArray).data.toList)) _ _ e.g a.hK a.j8 a.ib e.f.2.1 e.f.1 (by first|omega|(simp only[s6];omega))) (fun U _ e a=>aE (lL e ac (An 19 e a k ⟨⟨j,rfl⟩,trivial⟩ (At K b ((bs++((⟨#[40]⟩:ByteArray).data.toList))++(md (gC d) (.mk op n q s ks))) (⟨#[41]⟩) _ a.ib a.hK (by first|omega|(simp only[s6];omega))) (fun _ _ e a=>lN (kX (e.retB a [] (by simp only[Kk])))))))))))))
theorem GF {d:Nat}{t:Tm}{l:Int}(h:kd t.op<l):gC (d+1) t l=(⟨#[40]⟩:ByteArray).data.toList++md (gC d) t++(⟨#[41]⟩:ByteArray).data.toList:=if_pos h
theorem Gj {d:Nat}{t:Tm}{l:Int}(h:l<=kd t.op):gC (d+1) t l=md (gC d) t:=if_neg oM
theorem uH:∀ d:Nat,∀ (K b:Nat) (bs:List UInt8) (p:PTm) (t:Tm) (least:Int) (w:World) (h:Hp),G w h->K<=w.heap.size->J8 5 K b h->Lib.IsBuilderF 84 5 K b (Lib.byteCells (bs)) w->TmH d h p t->rW d t->bs.length+(gC d t least).length<=100000000000->Calls Tryz.prog 32 #[pB b,a8 p,iV least] w (ng 84 5 K b (.tuple #[]) bs (gC d t least) w)
  | 0,_,_,_,_,_,_,_,_,_,_,_,_,x,_,_=>x.elim
  | d + 1,K,b,bs,p,t,least,w,h,g,e,f,i,x,tx,a=>by
    obtain ⟨op,n,q,s,A,c,ps,ks,rfl,rfl,l,j,k⟩:=x.open;obtain ⟨u,z,B,y,C⟩:=tx;have o:=fun (bs:List UInt8) (least:Int) (hle:least<=kd op) (w:World) (h:Hp) (g:G w h) (e:K<=w.heap.size) (f:J8 5 K b h) (i:Lib.IsBuilderF 84 5 K b (Lib.byteCells (bs)) w) (j:SlO 9 bv a6 h A ps) (k:Tms d h ps ks) (a:bs.length+(md (gC d) (.mk op n q s ks)).length<=100000000000)=>BZ d K b bs (uH d) op n q s A c ps ks l u z B y C least hle a w h g e f i j k
    by_cases hr:kd op<least
    . rw[GF (t:=(.mk op n q s ks)) hr] at a ⊢
      exact AJ d K b bs op n q s A c ps ks l (fun bs w h g e f i j k a=>o bs 0 (by have:=dH op;omega) w h g e f i j k a) least hr a w h g e f i j k
    . rw[Gj (t:=(.mk op n q s ks)) (by show least<=kd op;omega)] at a ⊢
      exact o bs least oM w h g e f i j k a
theorem Cy {r k:Nat}(hr:r<10^(9-k))(a:k<9):r/10<10^(9-(k+1)):=by
 rw[show 9-k=9-(k+1)+1 by omega,z1] at hr
 omega
theorem rZ {Q r k:Nat}(hr:r<10^(9-k))(a:k<9)(h0:0<r\/0<Q):dD (Q*10^(9-k)+r)=dD (Q*10^(9-(k+1))+r/10)++[mJ (r%10)]:=by
 have e:Q*10^(9-k)=Q*10^(9-(k+1))*10:=by rw[show 9-k=9-(k+1)+1 by omega,z1,z8]
 have h1:Q*10^(9-k)+r≠0:=by
  rcases h0 with h0|h0
  ·omega
  ·have:=Nat.mul_pos h0 (F2 (n:=9-k) (show 0<10 by decide));omega
 rw[nJ h1,e,show (Q*10^(9-(k+1))*10+r)/10=Q*10^(9-(k+1))+r/10 by omega,show (Q*10^(9-(k+1))*10+r)%10=r%10 by omega]
theorem xD {Q r k:Nat}(hr:r<10^(9-k))(h:9<=k\/(r=0/\Q=0)):Q*10^(9-k)+r=Q:=by
 rcases h with h|⟨rfl,rfl⟩
 ·rw[show 9-k=0 by omega,JG] at hr ⊢;omega
 ·simp
theorem Hm:fN 0=⟨#[48]⟩:=by unfold fN;rw[Lib.decDigits_one kD];rfl
theorem jt (a:Nat)(A:Z9)(c:Nat)(hc:(lim a).length<=c)(Y:(lim a).length<=4000000000)(hn:Lib.nDigits a<=1000)(w:World)(h:Hp)(g:G w h)(hA:S3 A (lim a) h):CV 171 #[.slice A ((lim a).length) c] w h (.string (fN a)):=by
 have e:=((sS g).aS hA);refine go Tryz.func171 [(0,qS A ((lim a).length) c)] rfl (aa e ac (aE (lL e ac (ai (kZ ?_)))));replace e:=e.aS e.f.1;refine bG _ (CG.loop (fun D Γ w_=>∃ (m:Nat)(F:Z9)(M:Nat)(s:ByteArray)(h_:Hp),D=m/\Γ=[(2,eS),(0,qS F ((lim m).length) M),(3,.string s)]/\SS w h w_ h_ [] [] [S3 F (lim m),S3 A (lim a)]/\m<=a/\(lim m).length<=M/\dD a=dD m++s.data.toList) _ ⟨a,A,c,⟨#[]⟩,h,rfl,rfl,e.to _ _,nR _,hc,(Kx _).symm⟩ ?_);rintro _ _ w1 ⟨m,F,M,s,h2,hm3,rfl,e,hma,hcm,o⟩;have hlm:(lim m).length<=4000000000:=ed (dh hma) Y;have bm:=@bI m;have I:=congrArg JA o;rw[s6] at I
 have bp:s.data.toList.length=s.size:=by simp
 have bq:=xe (n:=a);refine cQ (aa e [.c,.v (nV ((lim m).length))] ?_);cases p:(decide ((0:Int)<(((lim m).length:Nat):Int)))
 .
  have S:=oF p;refine lB 10 p (ah (CG.exit ?_))
  show CG _ _ _ _ _ _ _ _
  refine cQ (aa e ac ?_);cases l:(kl s (⟨#[]⟩))
  .
   have K:=gh l;refine lB 44 l (ah (cK (aa e aF (lN (kX ?_)))));have j:m=0:=by omega
   rw[j] at o
   exact e.ret [] (.string s) (by have O:¬s=⟨#[]⟩:=gh aM;have i:a≠0:=fun e_=>O (by rw[e_] at o;exact sO o.symm);rw[EE i,o];exact congrArg Value.string (sO rfl))
  have K:=gu l;refine lB 44 l (ak (aa e ac (lN (kX ?_))));have j:m=0:=by omega
  rw[j] at o
  exact e.ret [] (.string (⟨#[48]⟩)) (by have i:a=0:=DL (by rw[o,show s=⟨#[]⟩ from gu aM];rfl);rw[i,Hm])
 have S:=oT p;refine lB 10 p (ak (cK (kZ (aa e ac (lC 13 e (Gm m F M hcm hlm 1000000000 kD kD _ _ e.g e.f.1) ?_)))));rintro _ _ zi e ⟨_,r0,rfl,⟨H,X,rfl,L,hA9⟩,Q⟩;replace e:=e.aS hA9;have bl:=@bI (m/1000000000);refine lL e [.c,.v (qS H ((lim (m/1000000000)).length) X),.v (mW r0),.c,.c] (aE (lL e ac (ai (aa e ac (bx ?_)))));refine bG _ (CG.loop (fun D Γ w_=>∃ (k:Nat)(r:Nat)(d:ByteArray)(h_:Hp),D=9-k/\Γ=[(2,eS),(0,qS F ((lim m).length) M),(3,.string s),(4,qS H ((lim (m/1000000000)).length) X),(7,nV k),(5,mW r),(6,.string d)]/\SS w h w_ h_ [] [] [S3 H (lim (m/1000000000)),S3 F (lim m),S3 A (lim a)]/\k<=9/\r<10^(9-k)/\dD m=dD ((m/1000000000)*10^(9-k)+r)++d.data.toList) _ ⟨0,r0,⟨#[]⟩,zi,rfl,rfl,e.to _ _,by omega,(by rw[Q];exact Nat.mod_lt _ kD),(by rw[Q];show dD m=dD ((m/1000000000)*1000000000+m%1000000000)++[];rw[Nat.div_add_mod',Kx])⟩ ?_);rintro _ _ _ ⟨k,r,d,zg,bk,rfl,e,hk,hr,J⟩;have z:=congrArg JA J;rw[s6] at z
 have bd:d.data.toList.length=d.size:=by simp
 have bb:r<4294967296:=Nat.lt_of_lt_of_le hr (ed (A4 kD (show 9-k<=9 by omega)) kD);refine cQ (aa e ac ?_);cases V:(decide ((k:Int)<(9:Int)))
 .
  have zd:=oF V;refine lB 17 V (lL e ac (lG 19 ?_));refine lG 20 (lG 21 (lG 22 (lG 23 (lG 24 (lG 25 (lL e [.v qF] (ah (CG.exit ?_))))))))
  show CG _ _ _ _ _ _ _ _
  have B:dD m=dD (m/1000000000)++d.data.toList:=by rw[J,xD hr (by first|exact .inl oM|exact .inr ⟨by omega,by omega⟩)]
  refine aa e aF (lV 41 (.string ((d:ByteArray)++s)) ?_ (hr:=d7 (a:=d) (b:=s) kR oM));refine lL e ac (lN (kQ (lL e aF (lD ?_))));intro Z C;replace e:=(e.tl.tl.aS e.f.1);refine ⟨_,_,?_,⟨(m/1000000000),H,X,(d:ByteArray)++s,zg,rfl,rfl,e.to _ _,(by have:=zF m 1000000000;omega),L,(by rw[ol,<-Kk,<-B,<-o])⟩,C.to _ kR⟩
  omega
 have zd:=oT V;refine lB 17 V (lL e aF ?_);cases U:(decide ((0:Int)<(r:Int)))
 .
  have ze:=oF U;refine lB 20 U (lL e [.c,.c,.v (nV ((lim (m/1000000000)).length))] ?_);cases W:(decide ((0:Int)<(((lim (m/1000000000)).length:Nat):Int)))
  .
   have zf:=oF W;refine lB 24 W (lL e [.v qF,.v qF] (ah (CG.exit ?_)))
   show CG _ _ _ _ _ _ _ _
   have B:dD m=dD (m/1000000000)++d.data.toList:=by rw[J,xD hr (by first|exact .inl oM|exact .inr ⟨by omega,by omega⟩)]
   refine aa e aF (lV 41 (.string ((d:ByteArray)++s)) ?_ (hr:=d7 (a:=d) (b:=s) kR oM));refine lL e ac (lN (kQ (lL e aF (lD ?_))));intro Z C;replace e:=(e.tl.tl.aS e.f.1);refine ⟨_,_,?_,⟨(m/1000000000),H,X,(d:ByteArray)++s,zg,rfl,rfl,e.to _ _,(by have:=zF m 1000000000;omega),L,(by rw[ol,<-Kk,<-B,<-o])⟩,C.to _ kR⟩
   omega
  have zf:=oT W;refine lB 24 W (lL e [.v qT,.v qT] (ak (cK (cQ (kZ (aa e ac (lV 30 (mW (r%10)) ?_ (hr:=aN (d4 (t:=158) (u:=158) (x:=.tmp 29) (y:=.const (uW 10)) (k:=.u32) (a:=(r:Int)) (b:=(10:Int)) kR kR kR oM _) (cM r 10)))))))));refine lV 31 (mW (48+(r%10))) ?_ (hr:=rT (((48:Int)+((r%10:Nat):Int))) kR (CJ 48 (r%10) oM));refine lV 32 (.int .u8 ((48+(r%10))%256:Nat)) ?_ (hr:=aN (n:=IntKind.wrap .u8 ((48+(r%10):Nat):Int)) kR (wR _));refine lR 33 5 1 ([.int .u8 ((48+(r%10))%256:Nat)]) e (fun b26 _ zj e=>IB (cap:=1) 34 82 9 5 (.tmp 33) [mJ (r%10)] e (show Seg _ _ _ (FH [mJ (r%10)]) by rw[sF oM,show 48+r%10=(48+r%10)%256 by omega];exact e.f.1) rfl (lL e ac (lV 36 (.string (((⟨([mJ (r%10)]:List UInt8).toArray⟩:ByteArray):ByteArray)++d)) ?_ (hr:=d7 (a:=(⟨([mJ (r%10)]:List UInt8).toArray⟩:ByteArray)) (b:=d) kR (by show 1+_<=_;omega)))));refine lL e ac (lN (kQ (lL e ac (lV 38 (mW (r/10)) ?_ (hr:=aN (db (t:=158) (u:=158) (x:=.tmp 37) (y:=.const (uW 10)) (k:=.u32) (a:=(r:Int)) (b:=(10:Int)) kR kR kR oM _) (wG r 10 oM))))));refine lL e ac (lN (kQ (lL e ac (bg 28 ((k:Nat)+1) (k+1) ?_))));refine lL e ac (lD ?_);intro Z C;replace e:=e.tl;refine ⟨_,_,?_,⟨k+1,r/10,((⟨([mJ (r%10)]:List UInt8).toArray⟩:ByteArray):ByteArray)++d,zj,rfl,rfl,e.to _ _,oM,(Cy hr oM),(by rw[ol];show _=_++([mJ (r%10)]++d.data.toList);rw[<-Kk,<-rZ hr oM (by first|exact .inl oM|exact .inr oM),<-J])⟩,C.to _ kR⟩
  omega
 have ze:=oT U;refine lB 20 U (lL e ac (lG 22 ?_));refine lG 23 (lG 24 (lL e [.v qT,.v qT] (ak (cK (cQ (kZ (aa e ac (lV 30 (mW (r%10)) ?_ (hr:=aN (d4 (t:=158) (u:=158) (x:=.tmp 29) (y:=.const (uW 10)) (k:=.u32) (a:=(r:Int)) (b:=(10:Int)) kR kR kR oM _) (cM r 10))))))))));refine lV 31 (mW (48+(r%10))) ?_ (hr:=rT (((48:Int)+((r%10:Nat):Int))) kR (CJ 48 (r%10) oM));refine lV 32 (.int .u8 ((48+(r%10))%256:Nat)) ?_ (hr:=aN (n:=IntKind.wrap .u8 ((48+(r%10):Nat):Int)) kR (wR _));refine lR 33 5 1 ([.int .u8 ((48+(r%10))%256:Nat)]) e (fun b33 _ zk e=>IB (cap:=1) 34 82 9 5 (.tmp 33) [mJ (r%10)] e (show Seg _ _ _ (FH [mJ (r%10)]) by rw[sF oM,show 48+r%10=(48+r%10)%256 by omega];exact e.f.1) rfl (lL e ac (lV 36 (.string (((⟨([mJ (r%10)]:List UInt8).toArray⟩:ByteArray):ByteArray)++d)) ?_ (hr:=d7 (a:=(⟨([mJ (r%10)]:List UInt8).toArray⟩:ByteArray)) (b:=d) kR (by show 1+_<=_;omega)))));refine lL e ac (lN (kQ (lL e ac (lV 38 (mW (r/10)) ?_ (hr:=aN (db (t:=158) (u:=158) (x:=.tmp 37) (y:=.const (uW 10)) (k:=.u32) (a:=(r:Int)) (b:=(10:Int)) kR kR kR oM _) (wG r 10 oM))))));refine lL e ac (lN (kQ (lL e ac (bg 28 ((k:Nat)+1) (k+1) ?_))));refine lL e ac (lD ?_);intro Z C;replace e:=e.tl;refine ⟨_,_,?_,⟨k+1,r/10,((⟨([mJ (r%10)]:List UInt8).toArray⟩:ByteArray):ByteArray)++d,zk,rfl,rfl,e.to _ _,oM,(Cy hr oM),(by rw[ol];show _=_++([mJ (r%10)]++d.data.toList);rw[<-Kk,<-rZ hr oM (by first|exact .inl oM|exact .inr oM),<-J])⟩,C.to _ kR⟩
 omega
theorem lz (z:Int)(A:Z9)(c:Nat)(k:(lim (ab z)).length<=c)(l:(lim (ab z)).length<=4000000000)(C:Lib.nDigits (ab z)<=1000)(w:World)(h:Hp)(g:G w h)(p:S3 A (lim (ab z)) h):CV 170 #[.agg #[.bool (au z),.slice A ((lim (ab z)).length) c]] w h (.string (iS z)):=by
 have d:=((sS g).aS p);refine go Tryz.func170 [(0,.agg #[.bool (au z),qS A ((lim (ab z)).length) c])] rfl (aG (lA 1 40 ([.bool (au z),qS A ((lim (ab z)).length) c]) d (fun j w2 B d=>lL d ac (ai (aa d [.v (pB j),.o (.bool (au z)) 0 0 1] (lN ?_))))));cases e:(au z)
 .
  try rw[e] at d
  try rw[e]
  exact cV (cK (aa d [.v (qP j 1),.o (qS A ((lim (ab z)).length) c) 0 1 1] (aq 11 d (jt (ab z) A c k oM oM _ _ d.g d.f.1) (fun x y d=>lL d ac (af d [] (.string (fN (ab z))) (by have i:¬z<0:=oF (show decide (z<0)=false by assumption);unfold iS;rw[if_neg i]<;>rfl))))))
 try rw[e] at d
 try rw[e]
 refine ci (aa d [.v (qP j 1),.o (qS A ((lim (ab z)).length) c) 0 1 1] (aq 7 d (jt (ab z) A c k oM oM _ _ d.g d.f.1) (fun u D d=>lV 8 (.string ((⟨#[45]⟩:ByteArray)++(fN (ab z)))) ?_ (hr:=d7 (a:=⟨#[45]⟩) (b:=(fN (ab z))) kR (by rw[eu];show 1+_<=_;omega)))));exact lL d ac (af d [] (.string ((⟨#[45]⟩:ByteArray)++(fN (ab z)))) (by have i :  z<0:=oT (show decide (z<0)=true by assumption);unfold iS;rw[if_pos i]<;>rfl))
theorem vO {n:Nat}(h:(lim n).length=1):(lim n).getD 0 0=n:=by
 have e:=cu n
 match hl:lim n,h with
 | [x],_=>rw[hl] at e;simpa [am] using e
theorem oU (z:Int):(iS z).size<=Lib.nDigits (ab z)+1:=by
 unfold iS;split
 ·rw[ByteArray.size_append,eu];show 1+Lib.nDigits z.natAbs<=Lib.nDigits z.natAbs+1;omega
 ·rw[eu];exact Nat.le_succ _
theorem Gg (q:Rat)(A:Z9)(c:Nat)(u:(lim (ab q.num)).length<=c)(D:Z9)(d:Nat)(x:(lim q.den).length<=d)(j:(lim (ab q.num)).length<=4000000000)(C:(lim q.den).length<=4000000000)(U:Lib.nDigits (ab q.num)<=1000)(H:Lib.nDigits q.den<=1000)(w:World)(h:Hp)(g:G w h)(I:S3 A (lim (ab q.num)) h)(B:S3 D (lim q.den) h):CV 133 #[.agg #[.bool (au q.num),.slice A ((lim (ab q.num)).length) c,.slice D ((lim (q.den)).length) d]] w h (.string (ug q)):=by
 have e:=(((sS g).aS I).aS B);have J:=vO (n:=q.den);have F:q.den=1->(lim q.den).length=1:=fun K=>by rw[K];rfl
 have y:=oU q.num;refine go Tryz.func133 [(0,.agg #[.bool (au q.num),qS A ((lim (ab q.num)).length) c,qS D ((lim (q.den)).length) d])] rfl (aG (lA 1 42 ([.bool (au q.num),qS A ((lim (ab q.num)).length) c,qS D ((lim (q.den)).length) d]) e (fun k w2 S e=>lL e ac (ai (aa e [.v (qP k 2),.o (qS D ((lim (q.den)).length) d) 0 2 1,.v (nV ((lim (q.den)).length))] ?_)))));cases i:((((lim (q.den)).length:Nat):Int) == (1:Int))
 .
  have l:=ao i;refine lB 6 i (lL e ac (lG 8 ?_));refine lG 9 (lG 10 (lG 11 (lG 12 (lL e [.v qF] (ah (cK (cQ (cR 8 [] mixed e aw ?_))))))));refine eV 0 17 (pB k) (eO 1 18 [(0,0,2)] (.agg #[.bool (au q.num),qS A ((lim (ab q.num)).length) c]) e (eV 4 21 (qP k 2) (eO 5 22 [(0,2,1)] (qS D ((lim (q.den)).length) d) e (aK 2 19 e (fun _ _ e=>lz q.num A c u j oM _ _ e.g e.f.2.1) (fun M Q e=>eV 3 20 (.string (((iS q.num):ByteArray)++(⟨#[47]⟩))) ?_ (hv:=fun _=>d7 (a:=(iS q.num)) (b:=⟨#[47]⟩) kR (by show _+1<=_;omega)))))));refine aK 6 23 e (fun _ _ e=>jt (q.den) D d x oM oM _ _ e.g e.f.1) (fun L V e=>eV 7 24 (.string ((((iS q.num):ByteArray)++(⟨#[47]⟩):ByteArray)++(fN (q.den)))) ?_ (hv:=fun _=>d7 (a:=((iS q.num):ByteArray)++(⟨#[47]⟩)) (b:=(fN (q.den))) kR (by rw[ByteArray.size_append,eu];show _+1+_<=_;omega)));exact cG e (fun O _ e=>tV 8 2 (.string ((((iS q.num):ByteArray)++(⟨#[47]⟩):ByteArray)++(fN (q.den)))) (tN (kX (e.ret [] (.string ((((iS q.num):ByteArray)++(⟨#[47]⟩):ByteArray)++(fN (q.den)))) (by unfold ug;rw[if_neg (show ¬q.den=1 by omega)]<;>rfl)))))
 have l:=eq_of_beq i;refine lB 6 i (lL e [.c,.v (qP k 2),.o (qS D ((lim (q.den)).length) d) 0 2 1] (lX 10 D ((lim (q.den)).length) d 1 0 0 ((e.f.1).ok oM) ?_));refine lH 11 (mW ((lim (q.den)).getD 0 0)) e ((e.f.1).el 0 oM) ?_;cases p:((((lim (q.den)).getD 0 0:Nat):Int) == (1:Int))
 .
  have z:=ao p;refine lB 12 p (lL e [.v qF] (ah (cK (cQ (cR 8 [] mixed e aw ?_)))));refine eV 0 17 (pB k) (eO 1 18 [(0,0,2)] (.agg #[.bool (au q.num),qS A ((lim (ab q.num)).length) c]) e (eV 4 21 (qP k 2) (eO 5 22 [(0,2,1)] (qS D ((lim (q.den)).length) d) e (aK 2 19 e (fun _ _ e=>lz q.num A c u j oM _ _ e.g e.f.2.1) (fun _ _ e=>eV 3 20 (.string (((iS q.num):ByteArray)++(⟨#[47]⟩))) ?_ (hv:=fun _=>d7 (a:=(iS q.num)) (b:=⟨#[47]⟩) kR (by show _+1<=_;omega)))))));refine aK 6 23 e (fun _ _ e=>jt (q.den) D d x oM oM _ _ e.g e.f.1) (fun _ _ e=>eV 7 24 (.string ((((iS q.num):ByteArray)++(⟨#[47]⟩):ByteArray)++(fN (q.den)))) ?_ (hv:=fun _=>d7 (a:=((iS q.num):ByteArray)++(⟨#[47]⟩)) (b:=(fN (q.den))) kR (by rw[ByteArray.size_append,eu];show _+1+_<=_;omega)));exact cG e (fun _ _ e=>tV 8 2 (.string ((((iS q.num):ByteArray)++(⟨#[47]⟩):ByteArray)++(fN (q.den)))) (tN (kX (e.ret [] (.string ((((iS q.num):ByteArray)++(⟨#[47]⟩):ByteArray)++(fN (q.den)))) (by unfold ug;rw[if_neg (show ¬q.den=1 by omega)]<;>rfl)))))
 have z:=eq_of_beq p;exact lB 12 p (lL e [.v qT] (ak (aa e [.v (pB k),.o (.agg #[.bool (au q.num),qS A ((lim (ab q.num)).length) c]) 0 0 2] (aq 16 e (lz q.num A c u j oM _ _ e.g e.f.2.1) (fun _ _ e=>lL e ac (af e [] (.string (iS q.num)) (by unfold ug;rw[if_pos (show q.den=1 by omega)]<;>rfl)))))))
def qh (pb:Nat)(s:ByteArray)(b:Nat):Value->World->Hp->Prop:=fun v w' _=>∃ a':Nat,v=.pointer none/\a'<=s.size/\Own w' pb 56 [.string s,.int .i64 (a':Nat),.int .i64 (b:Nat)]
def p3 (nf bf:ByteArray->Option Rat)(f:FuncId)(n:Nat)(k:PKd):Prop:=∀ (pb:Nat) (s:ByteArray),s.size<=1000000->∀ (a:Nat),a<=s.size->∀ (bd:Int) (b:Nat),bj nf bf s n k a=some (.err b)->∀ (w:World) (h:Hp),G w h->Own w pb 56 [.string s,nV a,iV bd]->h[pb]?=some junk->Tab h->Calls Tryz.prog f #[pB pb] w (bV pb w h (qh pb s b))
def He (nf bf:ByteArray->Option Rat)(n:Nat):Prop:=∀ (op:Int),9<=op/\op<=13->∀ (pb:Nat) (s:ByteArray),s.size<=1000000->∀ (a:Nat),a<=s.size->∀ (bd:Int) (b:Nat),bj nf bf s n (.call op) a=some (.err b)->∀ (w:World) (h:Hp),G w h->Own w pb 56 [.string s,nV a,iV bd]->h[pb]?=some junk->Tab h->Calls Tryz.prog 125 #[pB pb,iV op] w (bV pb w h (qh pb s b))
def Ig (nf:ByteArray->Option Rat):Prop:=∀ x,x.size<=1000000->nf x=none->∀ (w:World) (h:Hp),G w h->Tab h->CV 123 #[.string x] w h (.tuple #[qv 0,.bool false])
def HF:Prop:=∀ (x:ByteArray),x.size<=3->ef x=none->∀ (w:World) (h:Hp),G w h->CV 103 #[.string x] w h (.tuple #[nv 0,.bool false])
def HG (bf:ByteArray->Option Rat):Prop:=∀ (pb:Nat) (s:ByteArray),s.size<=1000000->∀ (a:Nat),a<=s.size->∀ (bd:Int) (b:Nat),(aj s a=91/\b=a/\(rn cg s (a+1)=s.size\/bf (s.extract (a+1) (rn cg s (a+1)))=none))->∀ (w:World) (h:Hp),G w h->Own w pb 56 [.string s,nV a,iV bd]->h[pb]?=some junk->Tab h->Calls Tryz.prog 126 #[pB pb] w (bV pb w h (qh pb s b))
theorem ee  (d:Nat)(s:ByteArray)(o:s.size<=1000000)(a:Nat)(ha:a<=s.size)(p:Int)(at_:Nat)(k:at_<=1000000)(w:World)(h:Hp)(g:G w h)(x:Own w d 56 [.string s,nV a,iV p])(j:h[d]?=some junk)(i:Tab h):Calls Tryz.prog 11 #[pB d,nV at_] w (bV d w h fun v w' _=>v=.pointer none/\Own w' d 56 [.string s,nV a,nV at_]):=by
 have e:UpM [d] w h w h:=UpM.refl g;obtain ⟨wz,f,b⟩:=SS.at_ g x j;replace b:=(b.add (K:=fun u=>Tab u) i);refine go Tryz.func11 [(0,pB d),(1,nV at_)] rfl (aa b ac (aE (lL b [.c,.c,.v (pB d),.v (qP d 2)] (ce 0 2 ([nV at_]) b (fun w1 l b=>?_)))));replace e:=e.put l (o0.2 rfl) b.g;exact aE (lL b ac (lN (kX (b.retM e [] (.pointer none) ⟨rfl,b.own 0⟩))))
section
variable {nf bf:ByteArray->Option Rat}(n:Nat)
theorem o3  (lv:Bool)(l:FuncId)(o:∀ (args:Array Value) (w:World),(callFunc l args).run Tryz.prog w=.ok (.enter l args) w)(p:p3 nf bf l n (part lv))(e:Nat)(s:ByteArray)(u:s.size<=1000000)(a:Nat)(ha:a<=s.size)(z:Int)(b:Nat)(F:bj nf bf s n (part lv) a=some (.err b))(w:World)(h:Hp)(g:G w h)(I:Own w e 56 [.string s,nV a,iV z])(D:h[e]?=some junk)(C:Tab h):Calls Tryz.prog 21 #[pB e,.func (.func l) #[pB e] #[],.int .u8 (c1 lv:Nat),iV (kn lv),.int .u8 (c2 lv:Nat),iV (ja lv)] w (bV e w h (qh e s b)):=by
 have j:UpM [e] w h w h:=UpM.refl g;obtain ⟨wz,y,d⟩:=SS.at_ g I D;replace d:=(d.add (K:=fun H=>Tab H) C);refine go Tryz.func21 [(0,pB e),(1,.func (.func l) #[pB e] #[]),(2,.int .u8 (c1 lv:Nat)),(3,iV (kn lv)),(4,.int .u8 (c2 lv:Nat)),(5,iV (ja lv))] rfl (aa d ac (aE (lL d ac (bn 18 (p e s u a ha z b F _ _ d.g (d.own 0) (d.jk 0) d.f.1) ?_ (hr:=Eq.trans kR (o _ _))))));rintro _ w2 J B ⟨i,rfl,x,k⟩;replace d:=(d.stepM 0 B k).to [⟨e,56,[.string s,nV i,nV b]⟩] [];replace j:=j.trans B;refine lL d ac (ai (kZ (cU ?_)));refine cN (cQ (aa d [.c,.v qF] (ah (CG.exit ?_))))
 show CG _ _ _ _ _ _ _ _
 exact aa d ac (lN (kX (d.retM j [] (.pointer none) ⟨i,rfl,by omega,d.own 0⟩)))
theorem oR  (lv:Bool)(fp:FuncId)(M:∀ (args:Array Value) (w:World),(callFunc fp args).run Tryz.prog w=.ok (.enter fp args) w)(hp:∀ m,m<=n->PC nf bf fp m (part lv))(hpe:∀ m,m<=n->p3 nf bf fp m (part lv))(j:Nat)(s:ByteArray)(C:s.size<=1000000)(a:Nat)(ha:a<=s.size)(x:Int)(b:Nat)(t1:Tm)(b1:Nat)(hq1:bj nf bf s n (part lv) a=some (.ok t1 b1))(hq2:bj nf bf s n (.more lv t1) b1=some (.err b))(w:World)(h:Hp)(g:G w h)(ho:Own w j 56 [.string s,nV a,iV x])(hj:h[j]?=some junk)(tb:Tab h):Calls Tryz.prog 21 #[pB j,.func (.func fp) #[pB j] #[],.int .u8 (c1 lv:Nat),iV (kn lv),.int .u8 (c2 lv:Nat),iV (ja lv)] w (bV j w h (qh j s b)):=by
 have e:UpM [j] w h w h:=UpM.refl g;obtain ⟨wz,cx,d⟩:=SS.at_ g ho hj;have b5:c1 lv≠0:=by cases lv<;>decide
 have cq:c2 lv≠0:=by cases lv<;>decide
 replace d:=(d.add (K:=fun i=>Tab i) tb);refine go Tryz.func21 [(0,pB j),(1,.func (.func fp) #[pB j] #[]),(2,.int .u8 (c1 lv:Nat)),(3,iV (kn lv)),(4,.int .u8 (c2 lv:Nat)),(5,iV (ja lv))] rfl (aa d ac (aE (lL d ac (bn 18 (hp n (nR _) j s C a ha x t1 b1 hq1 _ _ d.g (d.own 0) (d.jk 0) d.f.1) ?_ (hr:=Eq.trans kR (M _ _))))));rintro _ w2 h3 u4 ⟨L,F,rfl,c3,b7,cr,cz⟩;replace d:=(d.stepM 0 u4 b7).to [⟨j,56,[.string s,nV b1,iV x]⟩] [];replace e:=e.trans u4;replace d:=((d.a_Seg cr).add (K:=fun i=>PtH i F t1) cz);refine lL d ac (ai (kZ ?_));replace d:=d.add (K:=fun i=>PtH i F t1) (d.f.1);replace d:=d.add (K:=fun i=>Seg i L 0 (bv F)) (d.f.r.1);refine bG _ (CG.loop (fun μ_ Γ w_=>∃ (m:Nat)(tq:Nat)(p:PTm)(u:Tm)(k:Nat)(i:Hp),μ_=m/\Γ=[(0,pB j),(1,.func (.func fp) #[pB j] #[]),(2,.int .u8 (c1 lv:Nat)),(3,iV (kn lv)),(4,.int .u8 (c2 lv:Nat)),(5,iV (ja lv)),(13,pB tq)]/\SS wz cx w_ i [⟨j,56,[.string s,nV k,iV x]⟩] [] [fun i=>Seg i tq 0 (bv p),fun i=>PtH i p u,fun i=>PtH i F t1,fun i=>Seg i L 0 (bv F),fun i=>Tab i]/\m<=n/\k<=s.size/\UpM [j] w h w_ i/\bj nf bf s m (.more lv u) k=some (.err b)) _ ⟨n,L,F,t1,b1,h3,rfl,rfl,d.to _ _,nR _,c3,e,hq2⟩ ?_);rintro _ _ w5 ⟨m,tq,p,u,k,h6,hm7,rfl,d,hm,hk,e,hq⟩;obtain ⟨m1,rfl⟩:=iu hq;have df:=bD (s:=s) (a:=k) hk;refine cQ (aa d [.c,.v qT] (ak (cK (kZ (aa d ac (ai (aa d aF ?_)))))));have c7:=bD (s:=s) (a:=k) oM;refine bn 23 (fx j s C k oM x (c1 lv) b5 _ _ d.g (d.own 0) (d.jk 0) d.f.q.1) ?_;rintro _ w9 _ Y (⟨rfl,Q,dc,J⟩|⟨rfl,Q,J⟩)
 .
  replace d:=(d.stepM 0 Y J).to [⟨j,56,[.string s,nV (sk s k+1),iV x]⟩] [];replace e:=e.trans Y;have cm:=qG hq Q;refine ak (kQ (lL d aF (aE (lL d ac ?_))))
  rcases cm with hEq8|⟨vq8,eq8,hvq8,hwq8⟩
  .
   refine bn 31 (hpe m1 oM j s C (sk s k+1) oM x b hEq8 _ _ d.g (d.own 0) (d.jk 0) d.f.q.1) ?_ (hr:=Eq.trans kR (M _ _));rintro _ _ _ u15 ⟨U,rfl,c5,bk⟩;replace d:=(d.stepM 0 u15 bk).to [⟨j,56,[.string s,nV U,nV b]⟩] [];replace e:=e.trans u15;exact lL d ac (ai (aa d [.c,.v qT] (ak (aa d ac (lN (kX (d.retM e [] (.pointer none) ⟨U,rfl,by omega,d.own 0⟩)))))))
  refine bn 31 (hp m1 oM j s C (sk s k+1) oM x vq8 eq8 hvq8 _ _ d.g (d.own 0) (d.jk 0) d.f.q.1) ?_ (hr:=Eq.trans kR (M _ _));rintro _ _ _ u19 ⟨H,V,rfl,bt,b2,bp,bl⟩;replace d:=(d.stepM 0 u19 b2).to [⟨j,56,[.string s,nV eq8,iV x]⟩] [];replace e:=e.trans u19;replace d:=((d.a_Seg bp).add (K:=fun i=>PtH i V vq8) bl);refine lL d ac (ai (aa d [.c,.v qF] (ah (cK (cQ ?_)))));have hsr:=d;have W:=e.gr.size;refine cR 9 [⟨8,16,.cells (JY [iV 0,iV 0,qF,uV 0,eS,uV 0,eS,eS,sZ]) 31 (0,0)⟩] mixed d (dZ (kW kR (fun _ _=>by kernel_rfl)) aw) (eV 0 34 (iV (kn lv)) (eV 1 35 (pB tq) (eV 2 36 (pB tq) (eH 3 37 (a8 p) d d.f.r.1 (eV 4 38 (pB H) (eV 5 39 (pB H) (eH 6 40 (a8 V) d d.f.2.1 (io 7 41 d e (fun _ _ d=>tJ (kn lv) p V u vq8 _ _ d.g d.f.r.2.1 d.f.1) ?_))))))));rintro _ _ _ _ _ e d ⟨o,rfl,b3⟩;replace d:=(d.add (K:=fun i=>PtH i o (bz (kn lv) u vq8)) b3);refine mg [] hsr d e W 31 [iV 0,iV 0,qF,uV 0,eS,uV 0,eS,eS,sZ] (fun _ _ za e y d=>km 9 0 0 (bv o) d (fun _ pu d=>?_));replace e:=e.put2 pu y g d.g;refine tN ?_;obtain ⟨zc,d,e,b9⟩:=d.pubM e 0 y;replace d:=d.to [⟨j,56,[.string s,nV eq8,iV x]⟩] [];have b6:Seg zc za 0 (bv o):=b9;replace d:=d.a_Seg b6;refine kQ (lL d ac (lD ?_));intro a_ ka;replace d:=((d.tl.tl.tl.tl.tl.tl.add (K:=fun i=>PtH i o (bz (kn lv) u vq8)) d.f.2.1).add (K:=fun i=>Seg i za 0 (bv o)) d.f.1);refine ⟨_,_,?_,⟨m1,za,o,bz (kn lv) u vq8,eq8,zc,rfl,rfl,d.to _ _,oM,bt,e,hwq8⟩,ka.to _ kR⟩
  omega
 replace d:=(d.stepM 0 Y J).to [⟨j,56,[.string s,nV (sk s k),iV x]⟩] [];replace e:=e.trans Y;have hcF:=Q;refine ah (aa d aF ?_);have c4:=bD (s:=s) (a:=(sk s k)) oM;refine bn 27 (wT j s C (sk s k) oM x (c2 lv) cq (pH _ _) _ _ d.g (d.own 0) (d.jk 0) d.f.q.1) ?_;rintro _ _ _ X (⟨rfl,B,c8,D⟩|⟨rfl,B,D⟩)
 .
  replace d:=(d.stepM 0 X D).to [⟨j,56,[.string s,nV ((sk s k)+1),iV x]⟩] [];replace e:=e.trans X;have bq:=qq hq hcF B;refine ak (kQ (lL d aF (aE (lL d ac ?_))))
  rcases bq with hEq37|⟨vq37,eq37,hvq37,hwq37⟩
  .
   refine bn 31 (hpe m1 oM j s C ((sk s k)+1) oM x b hEq37 _ _ d.g (d.own 0) (d.jk 0) d.f.q.1) ?_ (hr:=Eq.trans kR (M _ _));rintro _ _ _ u44 ⟨O,rfl,c6,bm⟩;replace d:=(d.stepM 0 u44 bm).to [⟨j,56,[.string s,nV O,nV b]⟩] [];replace e:=e.trans u44;exact lL d ac (ai (aa d [.c,.v qT] (ak (aa d ac (lN (kX (d.retM e [] (.pointer none) ⟨O,rfl,by omega,d.own 0⟩)))))))
  refine bn 31 (hp m1 oM j s C ((sk s k)+1) oM x vq37 eq37 hvq37 _ _ d.g (d.own 0) (d.jk 0) d.f.q.1) ?_ (hr:=Eq.trans kR (M _ _));rintro _ _ _ u48 ⟨I,S,rfl,br,bb,bw,Z⟩;replace d:=(d.stepM 0 u48 bb).to [⟨j,56,[.string s,nV eq37,iV x]⟩] [];replace e:=e.trans u48;replace d:=((d.a_Seg bw).add (K:=fun i=>PtH i S vq37) Z);refine lL d ac (ai (aa d [.c,.v qF] (ah (cK (cQ ?_)))));have hsr:=d;have W:=e.gr.size;refine cR 9 [⟨8,16,.cells (JY [iV 0,iV 0,qF,uV 0,eS,uV 0,eS,eS,sZ]) 31 (0,0)⟩] mixed d (dZ (kW kR (fun _ _=>by kernel_rfl)) aw) (eV 0 34 (iV (ja lv)) (eV 1 35 (pB tq) (eV 2 36 (pB tq) (eH 3 37 (a8 p) d d.f.r.1 (eV 4 38 (pB I) (eV 5 39 (pB I) (eH 6 40 (a8 S) d d.f.2.1 (io 7 41 d e (fun _ _ d=>tJ (ja lv) p S u vq37 _ _ d.g d.f.r.2.1 d.f.1) ?_))))))));rintro _ _ _ _ _ e d ⟨l,rfl,b0⟩;replace d:=(d.add (K:=fun i=>PtH i l (bz (ja lv) u vq37)) b0);refine mg [] hsr d e W 31 [iV 0,iV 0,qF,uV 0,eS,uV 0,eS,eS,sZ] (fun _ _ zb e z d=>km 9 0 0 (bv l) d (fun _ pu d=>?_));replace e:=e.put2 pu z g d.g;refine tN ?_;obtain ⟨zd,d,e,cy⟩:=d.pubM e 0 z;replace d:=d.to [⟨j,56,[.string s,nV eq37,iV x]⟩] [];have b4:Seg zd zb 0 (bv l):=cy;replace d:=d.a_Seg b4;refine kQ (lL d ac (lD ?_));intro a_ ka;replace d:=((d.tl.tl.tl.tl.tl.tl.add (K:=fun i=>PtH i l (bz (ja lv) u vq37)) d.f.2.1).add (K:=fun i=>Seg i zb 0 (bv l)) d.f.1);refine ⟨_,_,?_,⟨m1,zb,l,bz (ja lv) u vq37,eq37,zd,rfl,rfl,d.to _ _,oM,br,e,hwq37⟩,ka.to _ kR⟩
  omega
 replace d:=(d.stepM 0 X D).to [⟨j,56,[.string s,nV (sk s k),iV x]⟩] [];replace e:=e.trans X;have ch:=B;refine ah (aa d aF (lN (kX ?_)));exact (qz hq hcF ch).elim
theorem E8  (l:p3 nf bf 22 n .prod)(e:Nat)(s:ByteArray)(o:s.size<=1000000)(a:Nat)(ha:a<=s.size)(x:Int)(b:Nat)(C:bj nf bf s n .prod a=some (.err b))(w:World)(h:Hp)(g:G w h)(F:Own w e 56 [.string s,nV a,iV x])(B:h[e]?=some junk)(z:Tab h):Calls Tryz.prog 9 #[pB e] w (bV e w h (qh e s b)):=by
 have j:UpM [e] w h w h:=UpM.refl g;obtain ⟨wz,u,d⟩:=SS.at_ g F B;replace d:=(d.add (K:=fun D=>Tab D) z);refine go Tryz.func9 [(0,pB e)] rfl (aa d ac (aE (lL d [.c,.c,.v (.func (.func 22) #[pB e] #[])] (bn 6 (o3 n false 22 (fun _ _=>by kernel_rfl) l e s o a ha x b C _ _ d.g (d.own 0) (d.jk 0) d.f.1) ?_))));rintro _ w2 H y ⟨i,rfl,p,k⟩;replace d:=(d.stepM 0 y k).to [⟨e,56,[.string s,nV i,nV b]⟩] [];replace j:=j.trans y;exact lL d ac (lN (kX (d.retM j [] (.pointer none) ⟨i,rfl,by omega,d.own 0⟩)))
theorem EX  (J:∀ m,m<=n->PC nf bf 22 m .prod)(x:∀ m,m<=n->p3 nf bf 22 m .prod)(e:Nat)(s:ByteArray)(y:s.size<=1000000)(a:Nat)(ha:a<=s.size)(C:Int)(b:Nat)(l:Tm)(u:Nat)(o:bj nf bf s n .prod a=some (.ok l u))(p:bj nf bf s n (.more false l) u=some (.err b))(w:World)(h:Hp)(g:G w h)(L:Own w e 56 [.string s,nV a,iV C])(H:h[e]?=some junk)(F:Tab h):Calls Tryz.prog 9 #[pB e] w (bV e w h (qh e s b)):=by
 have j:UpM [e] w h w h:=UpM.refl g;obtain ⟨wz,B,d⟩:=SS.at_ g L H;replace d:=(d.add (K:=fun I=>Tab I) F);refine go Tryz.func9 [(0,pB e)] rfl (aa d ac (aE (lL d [.c,.c,.v (.func (.func 22) #[pB e] #[])] (bn 6 (oR n false 22 (fun _ _=>by kernel_rfl) J x e s y a ha C b l u o p _ _ d.g (d.own 0) (d.jk 0) d.f.1) ?_))));rintro _ w2 M D ⟨i,rfl,z,k⟩;replace d:=(d.stepM 0 D k).to [⟨e,56,[.string s,nV i,nV b]⟩] [];replace j:=j.trans D;exact lL d ac (lN (kX (d.retM j [] (.pointer none) ⟨i,rfl,by omega,d.own 0⟩)))
theorem qA  (l:p3 nf bf 41 n .sign)(e:Nat)(s:ByteArray)(o:s.size<=1000000)(a:Nat)(ha:a<=s.size)(x:Int)(b:Nat)(C:bj nf bf s n .sign a=some (.err b))(w:World)(h:Hp)(g:G w h)(F:Own w e 56 [.string s,nV a,iV x])(B:h[e]?=some junk)(z:Tab h):Calls Tryz.prog 22 #[pB e] w (bV e w h (qh e s b)):=by
 have j:UpM [e] w h w h:=UpM.refl g;obtain ⟨wz,u,d⟩:=SS.at_ g F B;replace d:=(d.add (K:=fun D=>Tab D) z);refine go Tryz.func22 [(0,pB e)] rfl (aa d ac (aE (lL d [.c,.c,.v (.func (.func 41) #[pB e] #[])] (bn 6 (o3 n true 41 (fun _ _=>by kernel_rfl) l e s o a ha x b C _ _ d.g (d.own 0) (d.jk 0) d.f.1) ?_))));rintro _ w2 H y ⟨i,rfl,p,k⟩;replace d:=(d.stepM 0 y k).to [⟨e,56,[.string s,nV i,nV b]⟩] [];replace j:=j.trans y;exact lL d ac (lN (kX (d.retM j [] (.pointer none) ⟨i,rfl,by omega,d.own 0⟩)))
theorem qo  (J:∀ m,m<=n->PC nf bf 41 m .sign)(x:∀ m,m<=n->p3 nf bf 41 m .sign)(e:Nat)(s:ByteArray)(y:s.size<=1000000)(a:Nat)(ha:a<=s.size)(C:Int)(b:Nat)(l:Tm)(u:Nat)(o:bj nf bf s n .sign a=some (.ok l u))(p:bj nf bf s n (.more true l) u=some (.err b))(w:World)(h:Hp)(g:G w h)(L:Own w e 56 [.string s,nV a,iV C])(H:h[e]?=some junk)(F:Tab h):Calls Tryz.prog 22 #[pB e] w (bV e w h (qh e s b)):=by
 have j:UpM [e] w h w h:=UpM.refl g;obtain ⟨wz,B,d⟩:=SS.at_ g L H;replace d:=(d.add (K:=fun I=>Tab I) F);refine go Tryz.func22 [(0,pB e)] rfl (aa d ac (aE (lL d [.c,.c,.v (.func (.func 41) #[pB e] #[])] (bn 6 (oR n true 41 (fun _ _=>by kernel_rfl) J x e s y a ha C b l u o p _ _ d.g (d.own 0) (d.jk 0) d.f.1) ?_))));rintro _ w2 M D ⟨i,rfl,z,k⟩;replace d:=(d.stepM 0 D k).to [⟨e,56,[.string s,nV i,nV b]⟩] [];replace j:=j.trans D;exact lL d ac (lN (kX (d.retM j [] (.pointer none) ⟨i,rfl,by omega,d.own 0⟩)))
theorem vD  (H:p3 nf bf 41 n .sign)(L:p3 nf bf 71 n .pow)(i:Nat)(s:ByteArray)(p:s.size<=1000000)(a:Nat)(ha:a<=s.size)(u:Int)(b:Nat)(M:bj nf bf s (n+1) .sign a=some (.err b))(w:World)(h:Hp)(g:G w h)(X:Own w i 56 [.string s,nV a,iV u])(V:h[i]?=some junk)(U:Tab h):Calls Tryz.prog 41 #[pB i] w (bV i w h (qh i s b)):=by
 have e:UpM [i] w h w h:=UpM.refl g;obtain ⟨wz,Q,d⟩:=SS.at_ g X V;replace d:=(d.add (K:=fun W=>Tab W) U);refine go Tryz.func41 [(0,pB i)] rfl (aa d ac (ai (aa d ac ?_)));have C:=bD (s:=s) (a:=a) oM;refine bn 6 (fx i s p a ha u 45 kD _ _ d.g (d.own 0) (d.jk 0) d.f.1) ?_;rintro _ w2 h3 B (⟨rfl,j,O,k⟩|⟨rfl,j,k⟩)
 .
  replace d:=(d.stepM 0 B k).to [⟨i,56,[.string s,nV (sk s a+1),iV u]⟩] [];replace e:=e.trans B;have J:=j;refine lL d [.v qF] (ah (cK (aa d ac (bn 11 (H i s p (sk s a+1) oM u b (wq M J) _ _ d.g (d.own 0) (d.jk 0) d.f.1) ?_))));rintro _ Z Y S ⟨l,rfl,D,y⟩;replace d:=(d.stepM 0 S y).to [⟨i,56,[.string s,nV l,nV b]⟩] [];replace e:=e.trans S;exact lL d ac (ai (aa d [.c,.v qT] (ak (aa d ac (lN (kX (d.retM e [] (.pointer none) ⟨l,rfl,by omega,d.own 0⟩)))))))
 replace d:=(d.stepM 0 B k).to [⟨i,56,[.string s,nV (sk s a),iV u]⟩] [];replace e:=e.trans B;have F:=j;refine lL d [.v qT] (ak (aa d ac (bn 9 (L i s p (sk s a) oM u b (q5 M F) _ _ d.g (d.own 0) (d.jk 0) d.f.1) ?_)));rintro _ _ _ x ⟨o,rfl,I,z⟩;replace d:=(d.stepM 0 x z).to [⟨i,56,[.string s,nV o,nV b]⟩] [];replace e:=e.trans x;exact lL d ac (lN (kX (d.retM e [] (.pointer none) ⟨o,rfl,by omega,d.own 0⟩)))
theorem xE  (l:p3 nf bf 100 n .atom)(e:Nat)(s:ByteArray)(o:s.size<=1000000)(a:Nat)(ha:a<=s.size)(x:Int)(b:Nat)(C:bj nf bf s n .atom a=some (.err b))(w:World)(h:Hp)(g:G w h)(F:Own w e 56 [.string s,nV a,iV x])(B:h[e]?=some junk)(z:Tab h):Calls Tryz.prog 71 #[pB e] w (bV e w h (qh e s b)):=by
 have j:UpM [e] w h w h:=UpM.refl g;obtain ⟨wz,u,d⟩:=SS.at_ g F B;replace d:=(d.add (K:=fun D=>Tab D) z);refine go Tryz.func71 [(0,pB e)] rfl (aa d ac (aE (lL d ac (bn 13 (l e s o a ha x b C _ _ d.g (d.own 0) (d.jk 0) d.f.1) ?_))));rintro _ w2 H y ⟨i,rfl,p,k⟩;replace d:=(d.stepM 0 y k).to [⟨e,56,[.string s,nV i,nV b]⟩] [];replace j:=j.trans y;refine lL d ac (ai (aa d [.c,.v qT,.c] (lG 17 ?_)));exact lG 18 (lG 19 (lL d [.v qT] (ak (aa d aF (lN (kX (d.retM j [] (.pointer none) ⟨i,rfl,by omega,d.own 0⟩)))))))
theorem x4  (hnpe:HF)(iha:PC nf bf 100 n .atom)(i:Nat)(s:ByteArray)(l:s.size<=1000000)(a:Nat)(ha:a<=s.size)(u:Int)(b:Nat)(v1:Tm)(x:Nat)(hv1:bj nf bf s n .atom a=some (.ok v1 x))(V:aj s (sk s x)=94)(hwb:jv s v1 (sk s x+1)=.err b)(w:World)(h:Hp)(g:G w h)(ho:Own w i 56 [.string s,nV a,iV u])(hj:h[i]?=some junk)(tb:Tab h):Calls Tryz.prog 71 #[pB i] w (bV i w h (qh i s b)):=by
 have e:UpM [i] w h w h:=UpM.refl g;obtain ⟨wz,bw,d⟩:=SS.at_ g ho hj;obtain ⟨y,H⟩:=xW hwb;replace d:=(d.add (K:=fun h_=>Tab h_) tb);refine go Tryz.func71 [(0,pB i)] rfl (aa d ac (aE (lL d ac (bn 13 (iha i s l a ha u v1 x hv1 _ _ d.g (d.own 0) (d.jk 0) d.f.1) ?_))));rintro _ w2 h3 u4 ⟨br,pq1,rfl,b1,Z,bl,bp⟩;replace d:=(d.stepM 0 u4 Z).to [⟨i,56,[.string s,nV x,iV u]⟩] [];replace e:=e.trans u4;replace d:=((d.a_Seg bl).add (K:=fun h_=>PtH h_ pq1 v1) bp);refine lL d ac (ai (aa d [.c,.v qF,.c,.c] (bn 18 (jX i s l x oM u 94 kD V _ _ d.g (d.own 0) (d.jk 0) d.f.r.1) ?_)));rintro _ w6 h7 u8 ⟨rfl,b0,bb⟩;replace d:=(d.stepM 0 u8 bb).to [⟨i,56,[.string s,nV (sk s x+1),iV u]⟩] [];replace e:=e.trans u8;refine lL d [.v qF,.v qF] (ah (cK (aa d ac ?_)));have bq:=bD (s:=s) (a:=(sk s x+1)) oM;refine bn 23 (fx i s l (sk s x+1) oM u 45 kD _ _ d.g (d.own 0) (d.jk 0) d.f.r.1) ?_;rintro _ _ _ F (⟨rfl,D,bt,B⟩|⟨rfl,D,B⟩)
 .
  replace d:=(d.stepM 0 F B).to [⟨i,56,[.string s,nV (sk s (sk s x+1)+1),iV u]⟩] [];replace e:=e.trans F;rw[if_pos D] at y
  refine lL d ac (aE (lL d ac ?_));have z:=bD (s:=s) (a:=(sk s (sk s x+1)+1)) oM;refine bn 25 (iH i s l (sk s (sk s x+1)+1) oM u _ _ d.g (d.own 0) (d.jk 0) d.f.r.1) ?_;rintro _ _ _ u15 ⟨rfl,C⟩;rw[<-y] at C z
  rw[<-y];replace d:=(d.stepM 0 u15 C).to [⟨i,56,[.string s,nV b,iV u]⟩] [];replace e:=e.trans u15;refine aE (lL d [.c,.v (pB i),.v (qP i 1),.o (nV b) 0 1 1,.c] (aE (lL d ac ?_)));have bk:=fV bM s b;have bm:=dC (p:=bM) (s:=s) (a:=b) oM;have hxs:(s.extract b (rn bM s b)).size=rn bM s b-b:=by rw[ByteArray.size_extract];omega
  refine bn 31 (pN 102 bM (fun _ _=>by kernel_rfl) (fun c hc w h g=>fD c hc w h g) i s l b oM u _ _ d.g (d.own 0) (d.jk 0) d.f.r.1) ?_;rintro _ _ _ X ⟨rfl,M⟩;replace d:=(d.stepM 0 X M).to [⟨i,56,[.string s,nV (rn bM s b),iV u]⟩] [];replace e:=e.trans X;refine lL d ac (ai (aa d [.c,.v (nV ((s.extract b (rn bM s b)).size))] ?_))
  rcases Ko (3<rn bM s b-b) with hcs_|hcs_
  .
   have za:(decide ((3:Int)<(((s.extract b (rn bM s b)).size:Nat):Int)))=true:=decide_eq_true oM;refine lB 34 za (ak (aa d aF (bn 37 (ee i s l (rn bM s b) oM u b oM _ _ d.g (d.own 0) (d.jk 0) d.f.r.1) ?_)));rintro _ _ _ S ⟨rfl,I⟩;replace d:=(d.stepM 0 S I).to [⟨i,56,[.string s,nV (rn bM s b),nV b]⟩] [];replace e:=e.trans S;exact lL d ac (lN (kX (d.retM e [] (.pointer none) ⟨(rn bM s b),rfl,by omega,d.own 0⟩)))
  have L:ef (s.extract b (rn bM s b))=none:=H.resolve_left hcs_;have zb:(decide ((3:Int)<(((s.extract b (rn bM s b)).size:Nat):Int)))=false:=decide_eq_false oM;refine lB 34 zb (ah (cK (aa d ac (ec 40 (hnpe (s.extract b (rn bM s b)) oM L _ _ d.g) ?_))));rintro _ _ _ U rfl;replace e:=e.trans (U.m _);replace d:=d.step U;refine lL d [.c,.v (nv 0),.v qF] (fr 7 24 ([uV 0,eS]) d (fun ze _ _ u31 k d=>?_));replace k:=ed e.gr.size k;replace e:=e.trans (u31.m _);refine ce 0 0 (nc 0) d (fun _ pu d=>?_);replace e:=e.put2 pu k g d.g;refine lL d ac (ai (aa d [.c,.v qT] (ak (aa d aF (bn 47 (ee i s l (rn bM s b) oM u b oM _ _ d.g (d.own 1) (d.jk 1) d.f.r.1) ?_)))));rintro _ _ _ u36 ⟨rfl,O⟩;replace d:=(d.stepM 1 u36 O).to [⟨ze,24,nc 0⟩,⟨i,56,[.string s,nV (rn bM s b),nV b]⟩] [];replace e:=e.trans u36;exact lL d ac (lN (kX (d.retM e [] (.pointer none) ⟨(rn bM s b),rfl,by omega,d.own 1⟩)))
 replace d:=(d.stepM 0 F B).to [⟨i,56,[.string s,nV (sk s (sk s x+1)),iV u]⟩] [];replace e:=e.trans F;rw[if_neg D] at y
 refine lL d ac (aE (lL d ac ?_));have z:=bD (s:=s) (a:=(sk s (sk s x+1))) oM;refine bn 25 (iH i s l (sk s (sk s x+1)) oM u _ _ d.g (d.own 0) (d.jk 0) d.f.r.1) ?_;rintro _ _ _ u39 ⟨rfl,C⟩;rw[<-y] at C z
 rw[<-y];replace d:=(d.stepM 0 u39 C).to [⟨i,56,[.string s,nV b,iV u]⟩] [];replace e:=e.trans u39;refine aE (lL d [.c,.v (pB i),.v (qP i 1),.o (nV b) 0 1 1,.c] (aE (lL d ac ?_)));have bk:=fV bM s b;have bm:=dC (p:=bM) (s:=s) (a:=b) oM;have hxs:(s.extract b (rn bM s b)).size=rn bM s b-b:=by rw[ByteArray.size_extract];omega
 refine bn 31 (pN 102 bM (fun _ _=>by kernel_rfl) (fun c hc w h g=>fD c hc w h g) i s l b oM u _ _ d.g (d.own 0) (d.jk 0) d.f.r.1) ?_;rintro _ _ _ u42 ⟨rfl,M⟩;replace d:=(d.stepM 0 u42 M).to [⟨i,56,[.string s,nV (rn bM s b),iV u]⟩] [];replace e:=e.trans u42;refine lL d ac (ai (aa d [.c,.v (nV ((s.extract b (rn bM s b)).size))] ?_))
 rcases Ko (3<rn bM s b-b) with hcs_|hcs_
 .
  have zc:(decide ((3:Int)<(((s.extract b (rn bM s b)).size:Nat):Int)))=true:=decide_eq_true oM;refine lB 34 zc (ak (aa d aF (bn 37 (ee i s l (rn bM s b) oM u b oM _ _ d.g (d.own 0) (d.jk 0) d.f.r.1) ?_)));rintro _ _ _ u47 ⟨rfl,J⟩;replace d:=(d.stepM 0 u47 J).to [⟨i,56,[.string s,nV (rn bM s b),nV b]⟩] [];replace e:=e.trans u47;exact lL d ac (lN (kX (d.retM e [] (.pointer none) ⟨(rn bM s b),rfl,by omega,d.own 0⟩)))
 have L:ef (s.extract b (rn bM s b))=none:=H.resolve_left hcs_;have zd:(decide ((3:Int)<(((s.extract b (rn bM s b)).size:Nat):Int)))=false:=decide_eq_false oM;refine lB 34 zd (ah (cK (aa d ac (ec 40 (hnpe (s.extract b (rn bM s b)) oM L _ _ d.g) ?_))));rintro _ _ _ Y rfl;replace e:=e.trans (Y.m _);replace d:=d.step Y;refine lL d [.c,.v (nv 0),.v qF] (fr 7 24 ([uV 0,eS]) d (fun zf _ _ u55 j d=>?_));replace j:=ed e.gr.size j;replace e:=e.trans (u55.m _);refine ce 0 0 (nc 0) d (fun _ pu d=>?_);replace e:=e.put2 pu j g d.g;refine lL d ac (ai (aa d [.c,.v qT] (ak (aa d aF (bn 47 (ee i s l (rn bM s b) oM u b oM _ _ d.g (d.own 1) (d.jk 1) d.f.r.1) ?_)))));rintro _ _ _ W ⟨rfl,Q⟩;replace d:=(d.stepM 1 W Q).to [⟨zf,24,nc 0⟩,⟨i,56,[.string s,nV (rn bM s b),nV b]⟩] [];replace e:=e.trans W;exact lL d ac (lN (kX (d.retM e [] (.pointer none) ⟨(rn bM s b),rfl,by omega,d.own 1⟩)))
theorem Fn  (hnfe:Ig nf)(hbfe:HG bf)(ihc:He nf bf n)(ihs:PC nf bf 9 n .sum)(bw:p3 nf bf 9 n .sum)(i:Nat)(s:ByteArray)(k:s.size<=1000000)(a:Nat)(ha:a<=s.size)(x:Int)(b:Nat)(hq:bj nf bf s (n+1) .atom a=some (.err b))(w:World)(h:Hp)(g:G w h)(ho:Own w i 56 [.string s,nV a,iV x])(hj:h[i]?=some junk)(tb:Tab h):Calls Tryz.prog 100 #[pB i] w (bV i w h (qh i s b)):=by
 have e:UpM [i] w h w h:=UpM.refl g;obtain ⟨wz,O,d⟩:=SS.at_ g ho hj;replace d:=(d.add (K:=fun j=>Tab j) tb);refine go Tryz.func100 [(0,pB i)] rfl (aa d ac (aE (lL d ac ?_)));have b9:=bD (s:=s) (a:=a) oM;refine bn 13 (iH i s k a ha x _ _ d.g (d.own 0) (d.jk 0) d.f.1) ?_;rintro _ w2 h3 u4 ⟨rfl,bt⟩;replace d:=(d.stepM 0 u4 bt).to [⟨i,56,[.string s,nV (sk s a),iV x]⟩] [];replace e:=e.trans u4;refine lL d ac (aE (lL d [.c,.v (pB i),.v (qP i 1),.o (nV (sk s a)) 0 1 1,.c] (ai (kZ (CG.join (fun Γ w_=>∃ (ze:Bool)(j:Hp),Γ=[(0,pB i),(2,.pointer none),(3,.int .u8 (aj s (sk s a):Nat)),(4,nV (sk s a)),(18,.bool ze)]/\SS wz O w_ j [⟨i,56,[.string s,nV (sk s a),iV x]⟩] [] [fun j=>Tab j]/\(ze=true->¬¬((48<=aj s (sk s a)/\aj s (sk s a)<=57)\/aj s (sk s a)=46))/\(ze=false->cH (aj s (sk s a))=false)/\UpM [i] w h w_ j) ?_ ?_)))))
 .
  refine kQ (lL d ac (ec 20 (fD (aj s (sk s a)) (bh _ _) _ _ d.g) ?_));rintro _ w5 h6 u7 rfl;replace e:=e.trans (u7.m _);replace d:=d.step u7;cases hb8:(decide (48<=aj s (sk s a)/\aj s (sk s a)<=57))
  .
   have bq:=oF hb8;refine lL d aF ?_;cases J:(((aj s (sk s a):Nat):Int) == (46:Int))
   .
    have bl:=ao J;refine lB 23 J (lL d [.v qF,.c] (lD ?_));intro a_ C;exact ⟨_,⟨false,h6,rfl,d.to _ _,(fun j=>absurd j kD),(fun _=>decide_eq_false oM),e⟩,C.to _ kR⟩
   have bl:=eq_of_beq J;refine lB 23 J (lL d [.v qT,.c] (lD ?_));intro a_ C;exact ⟨_,⟨true,h6,rfl,d.to _ _,(fun _=>by omega),(fun j=>absurd j kD),e⟩,C.to _ kR⟩
  have bq:=oT hb8;refine lL d ac (lG 22 ?_);refine lG 23 (lL d [.v qT,.c] (lD ?_));intro a_ C;exact ⟨_,⟨true,h6,rfl,d.to _ _,(fun _=>by omega),(fun j=>absurd j kD),e⟩,C.to _ kR⟩
 rintro _ _ ⟨ze,_,rfl,d,zm,y,e⟩;cases za:(ze)
 .
  try rw[za] at d
  try rw[za]
  refine cV (CG.join (fun Γ w_=>∃ (zf:Bool)(j:Hp),Γ=[(0,pB i),(2,.pointer none),(3,.int .u8 (aj s (sk s a):Nat)),(4,nV (sk s a)),(38,.bool zf)]/\SS wz O w_ j [⟨i,56,[.string s,nV (sk s a),iV x]⟩] [] [fun j=>Tab j]/\(zf=true->dL (aj s (sk s a))\/aj s (sk s a)=95)/\(zf=false->¬(dL (aj s (sk s a))\/aj s (sk s a)=95))/\UpM [i] w h w_ j) ?_ ?_)
  .
   refine kQ (lL d ac (ec 40 (jB (aj s (sk s a)) (bh _ _) _ _ d.g) ?_));rintro _ _ zg u24 rfl;replace e:=e.trans (u24.m _);replace d:=d.step u24;cases zi:(decide (dL (aj s (sk s a))))
   .
    have zj:=oF zi;refine lL d aF ?_;cases zb:(((aj s (sk s a):Nat):Int) == (95:Int))
    .
     have zk:=ao zb;refine lB 43 zb (lL d [.v qF,.c] (lD ?_));intro a_ C;exact ⟨_,⟨false,zg,rfl,d.to _ _,(fun j=>absurd j kD),(fun _ j=>by rcases j with j|j;exact absurd j aM;omega),e⟩,C.to _ kR⟩
    have zk:=eq_of_beq zb;refine lB 43 zb (lL d [.v qT,.c] (lD ?_));intro a_ C;exact ⟨_,⟨true,zg,rfl,d.to _ _,(fun _=>by first|exact .inl aM|exact .inr oM),(fun j=>absurd j kD),e⟩,C.to _ kR⟩
   have zj:=oT zi;refine lL d ac (lG 42 ?_);refine lG 43 (lL d [.v qT,.c] (lD ?_));intro a_ C;exact ⟨_,⟨true,zg,rfl,d.to _ _,(fun _=>by first|exact .inl aM|exact .inr oM),(fun j=>absurd j kD),e⟩,C.to _ kR⟩
  rintro _ _ ⟨zf,_,rfl,d,br,D,e⟩;cases zc:(zf)
  .
   try rw[zc] at d
   try rw[zc]
   refine cV (aa d ac ?_)
   rcases Ko (aj s (sk s a)=91) with hcs_|hcs_
   .
    have zn:(((aj s (sk s a):Nat):Int) == (91:Int))=true:=gE oM;refine lB 68 zn (lL d ac (ak (aa d ac (bn 70 (hbfe i s k (sk s a) oM x b (by obtain ⟨q1_,q2_⟩:=By hq (y aM) (D aM) hcs_;exact ⟨hcs_,q1_,q2_⟩) _ _ d.g (d.own 0) (d.jk 0) d.f.1) ?_))));rintro _ _ _ u43 ⟨F,rfl,b4,Y⟩;replace d:=(d.stepM 0 u43 Y).to [⟨i,56,[.string s,nV F,nV b]⟩] [];replace e:=e.trans u43;exact lL d ac (lN (kX (d.retM e [] (.pointer none) ⟨F,rfl,by omega,d.own 0⟩)))
   have zl:=hcs_;have zo:(((aj s (sk s a):Nat):Int) == (91:Int))=false:=hC oM;refine lB 68 zo (lL d ac (ah (aa d ac ?_)))
   rcases Ko (aj s (sk s a)=40) with hcs_|hcs_
   .
    have cm:=cp (s:=s) (a:=sk s a) oM;have bp:=wg hq (y aM) (D aM) zl hcs_;have zp:(((aj s (sk s a):Nat):Int) == (40:Int))=true:=gE oM;refine lB 73 zp (lL d ac (ak (aa d [.c,.v (pB i),.v (qP i 1),.o (nV (sk s a)) 0 1 1] (bg 78 ((sk s a:Nat)+1) ((sk s a)+1) ?_))));refine lL d [.v (pB i),.v (qP i 1)] (ce 0 1 ([nV ((sk s a)+1)]) d (fun _ pu d=>?_));replace e:=e.put pu (o0.2 rfl) d.g;refine aE (lL d ac ?_)
    rcases bp with hE|⟨t1,e1,hq1,hd1,l⟩
    .
     refine bn 82 (bw i s k ((sk s a)+1) oM x b hE _ _ d.g (d.own 0) (d.jk 0) d.f.1) ?_;rintro _ _ _ u50 ⟨I,rfl,b3,bb⟩;replace d:=(d.stepM 0 u50 bb).to [⟨i,56,[.string s,nV I,nV b]⟩] [];replace e:=e.trans u50;refine lL d ac (ai (aa d [.c,.v qF,.c] (lG 86 ?_)));exact lG 87 (lG 88 (lL d [.v qF] (ah (cK (aa d aF (lN (kX (d.retM e [] (.pointer none) ⟨I,rfl,by omega,d.own 0⟩))))))))
    refine bn 82 (ihs i s k ((sk s a)+1) oM x t1 e1 hq1 _ _ d.g (d.own 0) (d.jk 0) d.f.1) ?_;rintro _ _ _ u54 ⟨ch,b0,rfl,b7,U,V,S⟩;replace d:=(d.stepM 0 u54 U).to [⟨i,56,[.string s,nV e1,iV x]⟩] [];replace e:=e.trans u54;replace d:=((d.a_Seg V).add (K:=fun j=>PtH j b0 t1) S);refine lL d ac (ai (aa d [.c,.v qT,.c,.c] ?_));have b5:=bD (s:=s) (a:=e1) oM;refine bn 87 (fx i s k e1 oM x 41 kD _ _ d.g (d.own 0) (d.jk 0) d.f.r.1) ?_;rintro _ _ _ L (⟨rfl,z,b6,B⟩|⟨rfl,z,B⟩)
    .
     replace d:=(d.stepM 0 L B).to [⟨i,56,[.string s,nV (sk s e1+1),iV x]⟩] [];replace e:=e.trans L;have hcT:=z;refine lL d [.v qF,.v qF] (ah (cK (aa d aF (lN (kX ?_)))));exact absurd hcT hd1
    replace d:=(d.stepM 0 L B).to [⟨i,56,[.string s,nV (sk s e1),iV x]⟩] [];replace e:=e.trans L;have hcF:=z;refine lL d [.v qT,.v qT] (ak (aa d [.c,.c,.v (pB i),.v (qP i 1),.o (nV (sk s e1)) 0 1 1] (bn 95 (ee i s k (sk s e1) oM x (sk s e1) oM _ _ d.g (d.own 0) (d.jk 0) d.f.r.1) ?_)));rintro _ _ _ u62 ⟨rfl,W⟩;replace d:=(d.stepM 0 u62 W).to [⟨i,56,[.string s,nV (sk s e1),nV (sk s e1)]⟩] [];replace e:=e.trans u62;exact lL d ac (lN (kX (d.retM e [] (.pointer none) (by rw[l];exact ⟨(sk s e1),rfl,by omega,d.own 0⟩))))
   have zq:(((aj s (sk s a):Nat):Int) == (40:Int))=false:=hC oM;refine lB 73 zq (lL d ac (ah (cK (aa d aF (bn 99 (ee i s k (sk s a) oM x (sk s a) oM _ _ d.g (d.own 0) (d.jk 0) d.f.1) ?_)))));rintro _ _ _ u67 ⟨rfl,bk⟩;replace d:=(d.stepM 0 u67 bk).to [⟨i,56,[.string s,nV (sk s a),nV (sk s a)]⟩] [];replace e:=e.trans u67;refine lL d ac (lN (kX ?_));have l:=BK hq (y aM) (D aM) zl hcs_;exact d.retM e [] (.pointer none) (by rw[l];exact ⟨(sk s a),rfl,by omega,d.own 0⟩)
  try rw[zc] at d
  try rw[zc]
  refine ci (aa d ac ?_);have hcW:=br aM;have b1:=dC (p:=bF) (s:=s) (a:=sk s a) oM;refine bn 46 (pN 75 bF (fun _ _=>by kernel_rfl) (fun c hc w h g=>k9 c hc w h g) i s k (sk s a) oM x _ _ d.g (d.own 0) (d.jk 0) d.f.1) ?_;rintro _ _ _ u70 ⟨rfl,hOr⟩;replace d:=(d.stepM 0 u70 hOr).to [⟨i,56,[.string s,nV (rn bF s (sk s a)),iV x]⟩] [];replace e:=e.trans u70;refine lL d ac (ai (aG (ec 48 (nt _ _ d.g) ?_)));rintro _ _ _ u73 ⟨bm,rfl,hcm⟩;replace e:=e.trans (u73.m _);replace d:=d.step u73;replace d:=(d.add (K:=fun j=>MapS j bm gI) hcm);refine lL d ac (Il 50 118 9 3 (s.extract (sk s a) (rn bF s (sk s a))) true (iV (ag (s.extract (sk s a) (rn bF s (sk s a))))) ((bU (s.extract (sk s a) (rn bF s (sk s a))))) d d.f.1 ?_ (hf:=(by rcases nP (s.extract (sk s a) (rn bF s (sk s a))) with ⟨i_,e1_,e2_⟩|⟨e1_,e2_,e3_⟩;exact .inl ⟨i_,e1_,e2_⟩;exact .inr ⟨e1_,e2_,fun _=>by rw[e3_];kernel_rfl⟩)));refine lL d [.c,.v (iV (ag (s.extract (sk s a) (rn bF s (sk s a))))),.v (.bool (bU (s.extract (sk s a) (rn bF s (sk s a))))),.c,.c] (aE (lL d ac (lN ?_)));cases zd:((bU (s.extract (sk s a) (rn bF s (sk s a)))))
  .
   try rw[zd] at d
   try rw[zd]
   refine cV (cK (cQ (aa d ac ?_)));obtain ⟨hnm,l⟩:=xk hq (y aM) hcW aM;refine ec 58 ((by have q_:=D5 (s.extract (sk s a) (rn bF s (sk s a))) (by rw[ByteArray.size_extract];omega) _ _ d.g;rw[hnm] at q_;exact q_)) ?_;rintro _ _ _ u77 rfl;replace e:=e.trans (u77.m _);replace d:=d.step u77;refine lL d [.v qT] (ak (aa d aF (bn 62 (ee i s k (rn bF s (sk s a)) oM x (sk s a) oM _ _ d.g (d.own 0) (d.jk 0) d.f.2.1) ?_)));rintro _ _ _ u81 ⟨rfl,Q⟩;replace d:=(d.stepM 0 u81 Q).to [⟨i,56,[.string s,nV (rn bF s (sk s a)),nV (sk s a)]⟩] [];replace e:=e.trans u81;exact lL d ac (lN (kX (d.retM e [] (.pointer none) (by rw[l];exact ⟨((rn bF s (sk s a)):Nat),rfl,by omega,d.own 0⟩))))
  try rw[zd] at d
  try rw[zd]
  refine ci (aa d aF (bn 56 (ihc (ag (s.extract (sk s a) (rn bF s (sk s a)))) (oP aM) i s k (rn bF s (sk s a)) oM x b (AB hq (y aM) hcW aM) _ _ d.g (d.own 0) (d.jk 0) d.f.2.1) ?_));rintro _ _ _ u85 ⟨H,rfl,b2,X⟩;replace d:=(d.stepM 0 u85 X).to [⟨i,56,[.string s,nV H,nV b]⟩] [];replace e:=e.trans u85;exact lL d ac (lN (kX (d.retM e [] (.pointer none) ⟨H,rfl,by omega,d.own 0⟩)))
 try rw[za] at d
 try rw[za]
 refine ci (aa d ac ?_);obtain ⟨hnq,l⟩:=xX hq (decide_eq_true (Decidable.byContradiction fun j=>zm aM j));have b1:=dC (p:=cH) (s:=s) (a:=sk s a) oM;refine bn 27 (pN 124 cH (fun _ _=>by kernel_rfl) (fun c hc w h g=>FO c hc w h g) i s k (sk s a) oM x _ _ d.g (d.own 0) (d.jk 0) d.f.1) ?_;rintro _ _ _ u88 ⟨rfl,hOr⟩;replace d:=(d.stepM 0 u88 hOr).to [⟨i,56,[.string s,nV (rn cH s (sk s a)),iV x]⟩] [];replace e:=e.trans u88;refine ec 28 (hnfe _ (by rw[ByteArray.size_extract];omega) hnq _ _ d.g d.f.1) ?_;rintro _ _ _ u91 rfl;replace e:=e.trans (u91.m _);replace d:=d.step u91;refine lL d [.c,.v (qv 0),.v qF] (fr 5 28 a1 d (fun zr _ _ u95 u d=>?_));replace u:=ed e.gr.size u;replace e:=e.trans (u95.m _);refine ce 0 0 (qc 0) d (fun _ pu d=>?_);replace e:=e.put2 pu u g d.g;refine lL d ac (ai (aa d [.c,.v qT] (ak (aa d aF (bn 35 (ee i s k (rn cH s (sk s a)) oM x (sk s a) oM _ _ d.g (d.own 1) (d.jk 1) d.f.1) ?_)))));rintro _ _ _ M ⟨rfl,Z⟩;replace d:=(d.stepM 1 M Z).to [⟨zr,28,qc 0⟩,⟨i,56,[.string s,nV (rn cH s (sk s a)),nV (sk s a)]⟩] [];replace e:=e.trans M;exact lL d ac (lN (kX (d.retM e [] (.pointer none) (by rw[l];exact ⟨((rn cH s (sk s a)):Nat),rfl,by omega,d.own 1⟩))))
theorem Fu  (op:Int)(hop:9<=op/\op<=13)(ihs:PC nf bf 9 n .sum)(bb:p3 nf bf 9 n .sum)(i:Nat)(s:ByteArray)(l:s.size<=1000000)(a:Nat)(ha:a<=s.size)(u:Int)(b:Nat)(hq:bj nf bf s (n+1) (.call op) a=some (.err b))(w:World)(h:Hp)(g:G w h)(ho:Own w i 56 [.string s,nV a,iV u])(hj:h[i]?=some junk)(tb:Tab h):Calls Tryz.prog 125 #[pB i,iV op] w (bV i w h (qh i s b)):=by
 have e:UpM [i] w h w h:=UpM.refl g;obtain ⟨wz,c8,d⟩:=SS.at_ g ho hj;replace d:=(d.add (K:=fun X=>Tab X) tb);refine go Tryz.func125 [(0,pB i),(1,iV op)] rfl (aa d ac (ai (aa d ac ?_)));have c3:=bD (s:=s) (a:=a) oM;refine bn 9 (fx i s l a ha u 40 kD _ _ d.g (d.own 0) (d.jk 0) d.f.1) ?_;rintro _ w2 h3 u4 (⟨rfl,Q,c7,L⟩|⟨rfl,Q,L⟩)
 .
  replace d:=(d.stepM 0 u4 L).to [⟨i,56,[.string s,nV (sk s a+1),iV u]⟩] [];replace e:=e.trans u4;have hcT:=Q;refine lL d [.v qF] (ah (cK (aa d ac ?_)))
  rcases m0 hq with ⟨hn40,_⟩|⟨_,hE|⟨u1,e1,hq1,hA,hB⟩⟩
  ·exact absurd hcT hn40
  .
   refine bn 18 (bb i s l (sk s a+1) oM u b hE _ _ d.g (d.own 0) (d.jk 0) d.f.1) ?_;rintro _ w6 h7 u8 ⟨Z,rfl,cz,b6⟩;replace d:=(d.stepM 0 u8 b6).to [⟨i,56,[.string s,nV Z,nV b]⟩] [];replace e:=e.trans u8;exact lL d ac (ai (aa d [.c,.v qT] (ak (aa d ac (lN (kX (d.retM e [] (.pointer none) ⟨Z,rfl,by omega,d.own 0⟩)))))))
  refine bn 18 (ihs i s l (sk s a+1) oM u u1 e1 hq1 _ _ d.g (d.own 0) (d.jk 0) d.f.1) ?_;rintro _ _ _ u12 ⟨J,O,rfl,c6,b3,b7,b4⟩;replace d:=(d.stepM 0 u12 b3).to [⟨i,56,[.string s,nV e1,iV u]⟩] [];replace e:=e.trans u12;replace d:=((d.a_Seg b7).add (K:=fun X=>PtH X O u1) b4);refine lL d ac (ai (aa d [.c,.v qF] (ah (cK (aa d [.c,.c,.v (pB J)] (lH 24 (a8 O) d d.f.2.1 ?_))))));refine ec 25 (ve op O u1 _ _ d.g d.f.1) ?_;rintro _ _ _ u16 ⟨j,rfl,br⟩;replace e:=e.trans (u16.m _);replace d:=d.step u16;replace d:=(d.add (K:=fun X=>PtH X j (fS op u1)) br);refine fr 6 31 a2 d (fun H _ _ u20 k d=>?_);replace k:=ed e.gr.size k;replace e:=e.trans (u20.m _);refine ce 0 0 (bv j) d (fun _ pu d=>?_);replace e:=e.put2 pu k g d.g;refine ai (aa d ac (ec 27 (nF op _ _ d.g) ?_));rintro _ _ _ u24 rfl;replace e:=e.trans (u24.m _);replace d:=d.step u24
  rcases r7 hop with ⟨ho2,har⟩|⟨ho2,har⟩
  .
   have zb:((fM op:Int) == (2:Int))=true:=by rw[har];rfl
   refine lB 28 zb ?_;replace hA:=hA ho2;refine ak (cQ (aa d ac ?_));have cr:=bD (s:=s) (a:=e1) oM;refine bn 30 (fx i s l e1 oM u 44 kD _ _ d.g (d.own 1) (d.jk 1) d.f.r.2.1) ?_;rintro _ _ _ W (⟨rfl,F,cx,z⟩|⟨rfl,F,z⟩)
   .
    replace d:=(d.stepM 1 W z).to [⟨H,31,bv j⟩,⟨i,56,[.string s,nV (sk s e1+1),iV u]⟩] [];replace e:=e.trans W;have b2:=F;refine lL d [.v qF] (ah (cK (aa d ac ?_)))
    rcases hA with ⟨hd2,_⟩|⟨_,hE2|⟨v1,f1,hq2,hd3,p⟩⟩
    ·exact absurd b2 hd2
    .
     refine bn 39 (bb i s l (sk s e1+1) oM u b hE2 _ _ d.g (d.own 1) (d.jk 1) d.f.r.2.1) ?_;rintro _ _ _ u33 ⟨U,rfl,ch,bw⟩;replace d:=(d.stepM 1 u33 bw).to [⟨H,31,bv j⟩,⟨i,56,[.string s,nV U,nV b]⟩] [];replace e:=e.trans u33;exact lL d ac (ai (aa d [.c,.v qT] (ak (aa d ac (lN (kX (d.retM e [] (.pointer none) ⟨U,rfl,by omega,d.own 1⟩)))))))
    refine bn 39 (ihs i s l (sk s e1+1) oM u v1 f1 hq2 _ _ d.g (d.own 1) (d.jk 1) d.f.r.2.1) ?_;rintro _ _ _ u37 ⟨S,I,rfl,c5,bk,b0,b1⟩;replace d:=(d.stepM 1 u37 bk).to [⟨H,31,bv j⟩,⟨i,56,[.string s,nV f1,iV u]⟩] [];replace e:=e.trans u37;replace d:=((d.a_Seg b0).add (K:=fun X=>PtH X I v1) b1);refine lL d ac (ai (aa d [.c,.v qF] (ah (cK (cR 8 [] mixed d aw ?_)))));refine eV 0 42 (iV op) (eV 1 43 (pB J) (eV 2 44 (pB J) (eH 3 45 (a8 O) d d.f.q.1 (eV 4 46 (pB S) (eV 5 47 (pB S) (eH 6 48 (a8 I) d d.f.2.1 (io 7 49 d e (fun _ _ d=>tJ op O I u1 v1 _ _ d.g d.f.r.2.1 d.f.1) ?_)))))));rintro _ _ _ _ _ e d ⟨x,rfl,bt⟩;replace d:=(d.add (K:=fun X=>PtH X x (bz op u1 v1)) bt);refine bL d (fun _ _ u43 d=>?_);replace e:=e.trans (u43.m _);refine km 8 0 0 (bv x) d (fun _ pu d=>?_);replace e:=e.put2 pu k g d.g;refine tN (cQ (aa d ac ?_));have cq:=bD (s:=s) (a:=f1) oM;refine bn 51 (fx i s l f1 oM u 41 kD _ _ d.g (d.own 1) (d.jk 1) d.f.q.r.1) ?_;rintro _ _ _ V (⟨rfl,B,cy,y⟩|⟨rfl,B,y⟩)
    .
     replace d:=(d.stepM 1 V y).to [⟨H,31,bv x⟩,⟨i,56,[.string s,nV (sk s f1+1),iV u]⟩] [];replace e:=e.trans V;have M:=B;refine lL d [.v qF] (ah (cK (aa d ac (lN (kX ?_)))));exact absurd M hd3
    replace d:=(d.stepM 1 V y).to [⟨H,31,bv x⟩,⟨i,56,[.string s,nV (sk s f1),iV u]⟩] [];replace e:=e.trans V;have b5:=B;refine lL d [.v qT] (ak (aa d [.c,.c,.v (pB i),.v (qP i 1),.o (nV (sk s f1)) 1 1 1] (bn 58 (ee i s l (sk s f1) oM u (sk s f1) oM _ _ d.g (d.own 1) (d.jk 1) d.f.q.r.1) ?_)));rintro _ _ _ u52 ⟨rfl,bl⟩;replace d:=(d.stepM 1 u52 bl).to [⟨H,31,bv x⟩,⟨i,56,[.string s,nV (sk s f1),nV (sk s f1)]⟩] [];replace e:=e.trans u52;refine lL d ac (lN (bG [(4,.pointer none),(6,pB H)] ?_));exact kX (d.retM e [] (.pointer none) (by rw[p];exact ⟨(sk s f1),rfl,by omega,d.own 1⟩))
   replace d:=(d.stepM 1 W z).to [⟨H,31,bv j⟩,⟨i,56,[.string s,nV (sk s e1),iV u]⟩] [];replace e:=e.trans W;have b9:=F;refine lL d [.v qT] (ak (aa d [.c,.c,.v (pB i),.v (qP i 1),.o (nV (sk s e1)) 1 1 1] (bn 37 (ee i s l (sk s e1) oM u (sk s e1) oM _ _ d.g (d.own 1) (d.jk 1) d.f.r.2.1) ?_)));rintro _ _ _ u56 ⟨rfl,bq⟩;replace d:=(d.stepM 1 u56 bq).to [⟨H,31,bv j⟩,⟨i,56,[.string s,nV (sk s e1),nV (sk s e1)]⟩] [];replace e:=e.trans u56;refine lL d ac (lN (kX ?_));obtain p:b=sk s e1:=by rcases hA with ⟨_,e_⟩|⟨e_,_⟩;exact e_;exact absurd e_ b9
   exact d.retM e [] (.pointer none) (by rw[p];exact ⟨(sk s e1),rfl,by omega,d.own 1⟩)
  have zc:((fM op:Int) == (2:Int))=false:=by rw[har];rfl
  refine lB 28 zc ?_;obtain ⟨hd1,p⟩:=hB ho2;refine ah (cK (cQ (aa d ac ?_)));have cm:=bD (s:=s) (a:=e1) oM;refine bn 51 (fx i s l e1 oM u 41 kD _ _ d.g (d.own 1) (d.jk 1) d.f.r.2.1) ?_;rintro _ _ _ Y (⟨rfl,C,c4,D⟩|⟨rfl,C,D⟩)
  .
   replace d:=(d.stepM 1 Y D).to [⟨H,31,bv j⟩,⟨i,56,[.string s,nV (sk s e1+1),iV u]⟩] [];replace e:=e.trans Y;have M:=C;refine lL d [.v qF] (ah (cK (aa d ac (lN (kX ?_)))));exact absurd M hd1
  replace d:=(d.stepM 1 Y D).to [⟨H,31,bv j⟩,⟨i,56,[.string s,nV (sk s e1),iV u]⟩] [];replace e:=e.trans Y;have b5:=C;refine lL d [.v qT] (ak (aa d [.c,.c,.v (pB i),.v (qP i 1),.o (nV (sk s e1)) 1 1 1] (bn 58 (ee i s l (sk s e1) oM u (sk s e1) oM _ _ d.g (d.own 1) (d.jk 1) d.f.r.2.1) ?_)));rintro _ _ _ u65 ⟨rfl,bp⟩;replace d:=(d.stepM 1 u65 bp).to [⟨H,31,bv j⟩,⟨i,56,[.string s,nV (sk s e1),nV (sk s e1)]⟩] [];replace e:=e.trans u65;exact lL d ac (lN (kX (d.retM e [] (.pointer none) (by rw[p];exact ⟨(sk s e1),rfl,by omega,d.own 1⟩))))
 replace d:=(d.stepM 0 u4 L).to [⟨i,56,[.string s,nV (sk s a),iV u]⟩] [];replace e:=e.trans u4;have hcF:=Q;refine lL d [.v qT] (ak (aa d [.c,.c,.v (pB i),.v (qP i 1),.o (nV (sk s a)) 0 1 1] (bn 16 (ee i s l (sk s a) oM u (sk s a) oM _ _ d.g (d.own 0) (d.jk 0) d.f.1) ?_)));rintro _ _ _ u69 ⟨rfl,bm⟩;replace d:=(d.stepM 0 u69 bm).to [⟨i,56,[.string s,nV (sk s a),nV (sk s a)]⟩] [];replace e:=e.trans u69;refine lL d ac (lN (kX ?_));obtain p:b=sk s a:=by rcases m0 hq with ⟨_,e_⟩|⟨e_,_⟩;exact e_;exact absurd e_ hcF
 exact d.retM e [] (.pointer none) (by rw[p];exact ⟨(sk s a),rfl,by omega,d.own 0⟩)
end
end Go.Proofs.YtbbhdbhkaacnnaaGreatDoor
