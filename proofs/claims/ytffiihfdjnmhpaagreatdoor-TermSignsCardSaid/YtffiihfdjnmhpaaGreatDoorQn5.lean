/- Laws of this claim, part 6. -/
import Derived.Test.YtffiihfdjnmhpaaGreatDoorQn0
import Derived.Test.YtffiihfdjnmhpaaGreatDoorQn1
import Derived.Test.YtffiihfdjnmhpaaGreatDoorQn2
import Derived.Test.YtffiihfdjnmhpaaGreatDoorQn3
import Derived.Test.YtffiihfdjnmhpaaGreatDoorQn4
set_option maxRecDepth 100000
set_option maxHeartbeats 4000000
namespace Go.Proofs.YtffiihfdjnmhpaaGreatDoor
open _root_.Array renaming getElem?_append_left -> et, getElem?_append_right -> ey, getElem?_eq_none -> ea, getElem?_extract -> ez, getElem?_replicate -> um, replicate -> ow, size_replicate -> KH
open Decidable renaming em -> Ku
open List renaming append_assoc -> Kr, append_nil -> KF, getElem?_map -> Jc, length -> JC, length_append -> sy, length_replicate -> KJ, length_singleton -> KC, map_append -> KE, map_cons -> un, mem_cons -> gq, mem_singleton -> n1, replicate -> ta, toArray -> J0
open Nat renaming div_add_mod' -> KG, div_div_eq_div_mul -> Bs, div_le_self -> y7, div_one -> KI, eq_zero_or_pos -> va, le_of_lt -> JO, le_trans -> ed, lt_of_le_of_lt -> y6, lt_of_lt_of_le -> ep, lt_or_ge -> co, lt_succ_iff_lt_or_eq -> Kl, mod_lt -> ua, pow_succ -> zy, pow_zero -> JI, succ_pos -> JJ, zero_add -> s4
open Rat renaming den_intCast -> Kb, num_intCast -> Ka, num_natCast -> KD
open Go.RowKit
open Go.RowKit Go.Shelf
open Go.RowKit Go.WideMaps
theorem xj (x:ByteArray)(hx:x.size<=1000000)(w:World)(h:Hp)(g:G w h):CR 133 #[.string x] w h (fun v h1=>∃ v1,v=.tuple #[v1,.bool (cF x).isSome]/\RQ h1 v1 ((cF x).getD 0)):=by
 have a:=sS g;refine go Tryz.func133 [(0,.string x)] rfl (aG (lA 2 44 ([qF,sZ,sZ]) a (fun y w2 h3 a=>lL a ac (ai (aa a ac (bE ?_))))));refine bG _ (CG.loop (fun μ_ Γ w_=>∃ (i:Nat)(d:Hp),μ_=x.size-i/\Γ=[(0,.string x),(2,pB y),(4,nV i)]/\SS w h w_ d [⟨y,44,[qF,sZ,sZ]⟩] [] []/\i<=x.size/\(∀ k,k<i->ak x k≠46/\ak x k≠47)) _ ⟨0,h3,rfl,rfl,a.to _ _,Nat.zero_le _,(fun k d=>absurd d oM)⟩ ?_);rintro _ _ w4 ⟨i,h5,hm6,rfl,a,hi,p⟩;have bd:=bh x i;refine cQ (aa a [.c,.c,.v (nV x.size)] ?_);cases u:(decide ((i:Int)<(x.size:Int)))
 .
  have K:=oF u;refine lB 14 u (ah (CG.exit ?_))
  show CG _ _ _ _ _ _ _ _
  refine aa a ac ?_
  rcases hz:ej x with _|z
  .
   refine lC 68 a (lr x (by first|omega|(rw[ByteArray.size_extract];omega)) hz _ _ a.g) ?_;rintro _ _ _ a ⟨_,rfl,F,c9,rfl,yG,yH⟩;replace a:=a.aS yH;refine lL a [.c,.v (.agg #[.bool (au (0:Int)),qS F ((lim (ab (0:Int))).length) c9]),.v qF] (lA 9 42 ([qF,sZ]) a (fun b14 _ _ a=>lP 0 0 ([.bool (au (0:Int)),qS F ((lim (ab (0:Int))).length) c9]) a (fun _ a=>lL a ac (ai (cR 4 [] mixed a aw ?_)))));refine eO 0 71 [(0,0,2)] (.agg #[.bool (au (0:Int)),qS F ((lim (ab (0:Int))).length) c9]) a (eV 3 74 qF (eC 1 72 a (fun _ _ a=>eD 1 kD _ _ a.g) ?_));rintro _ _ _ _ _ a ⟨W,zm,rfl,yI,yJ⟩;replace a:=a.aS yJ;exact eV 2 73 (.agg #[.bool (au (0:Int)),qS F ((lim (ab (0:Int))).length) c9,qS W ((lim 1).length) zm]) (cG a (fun _ _ a=>tP 4 1 0 ([.bool (au (0:Int)),qS F ((lim (ab (0:Int))).length) c9,qS W ((lim 1).length) zm]) a (fun _ a=>tV 5 3 qF (tN (kX (a.ret [(1,0,3)] (.tuple #[.agg #[.bool (au (0:Int)),qS F ((lim (ab (0:Int))).length) c9,qS W ((lim 1).length) zm],qF]) (by rw[kN (fun k d=>p k oM),hz];refine ⟨_,rfl,?_⟩;unfold RQ;rw[show (((none:Option Int).map fun z=>(z:Rat)).getD 0)=(((0:Int):Int):Rat) from rfl,Ka,Kb];exact ⟨_,_,_,_,rfl,yG,yI,a.f.2.1,a.f.1⟩)))))))
  refine lC 68 a (k6 x z (by first|omega|(rw[ByteArray.size_extract];omega)) hz _ _ a.g) ?_;rintro _ _ _ a ⟨_,rfl,D,C,rfl,yK,yL⟩;replace a:=a.aS yL;have l:=iT hz;have B:=gT (n:=ab z) (JO l);refine lL a [.c,.v (.agg #[.bool (au z),qS D ((lim (ab z)).length) C]),.v qT] (lA 9 42 ([qF,sZ]) a (fun b33 _ _ a=>lP 0 0 ([.bool (au z),qS D ((lim (ab z)).length) C]) a (fun _ a=>lL a ac (ai (cR 4 [] mixed a aw ?_)))));refine eO 0 71 [(0,0,2)] (.agg #[.bool (au z),qS D ((lim (ab z)).length) C]) a (eV 3 74 qT (eC 1 72 a (fun _ _ a=>eD 1 kD _ _ a.g) ?_));rintro _ _ _ _ _ a ⟨Z,zo,rfl,yM,yN⟩;replace a:=a.aS yN;exact eV 2 73 (.agg #[.bool (au z),qS D ((lim (ab z)).length) C,qS Z ((lim 1).length) zo]) (cG a (fun _ _ a=>tP 4 1 0 ([.bool (au z),qS D ((lim (ab z)).length) C,qS Z ((lim 1).length) zo]) a (fun _ a=>tV 5 3 qT (tN (kX (a.ret [(1,0,3)] (.tuple #[.agg #[.bool (au z),qS D ((lim (ab z)).length) C,qS Z ((lim 1).length) zo],qT]) (by rw[kN (fun k d=>p k oM),hz];refine ⟨_,rfl,?_⟩;unfold RQ;rw[show (((some z:Option Int).map fun z=>(z:Rat)).getD 0)=((z:Int):Rat) from rfl,Ka,Kb];exact ⟨_,_,_,_,rfl,yK,yM,a.f.2.1,a.f.1⟩)))))))
 have K:=oT u;refine lB 14 u (aj (cK (cQ (kZ (cQ (aa a aF (lV 19 (.int .u8 (ak x i:Nat)) ?_ (hr:=aU (tx:=9) (x:=.tmp 17) (i:=.tmp 18) (k:=.i64) (s:=x) (n:=i) (j:=(i:Int)) kR kR kR kR oM oM _))))))));cases Q:(((ak x i:Nat):Int) == (47:Int))
 .
  have zP:=ao Q;refine lB 20 Q (ah (cK (aa a aF (lV 54 (.int .u8 (ak x i:Nat)) ?_ (hr:=aU (tx:=9) (x:=.tmp 52) (i:=.tmp 53) (k:=.i64) (s:=x) (n:=i) (j:=(i:Int)) kR kR kR kR oM oM _)))));cases L:(((ak x i:Nat):Int) == (46:Int))
  .
   have zQ:=ao L;refine lB 55 L (ah (cK (kQ (lL a ac (bg 16 ((i:Nat)+1) (i+1) ?_)))));refine lL a ac (lD ?_);intro a_ ka;refine ⟨_,_,?_,⟨i+1,h5,rfl,rfl,a.to _ _,oM,(fun k d=>by rcases Kl.1 d with d|rfl;exact p k d;omega)⟩,ka.to _ kR⟩
   omega
  have zQ:=eq_of_beq L;refine lB 55 L (aj (cQ (cR 10 [] mixed a aw ?_)));refine eV 0 56 (.string x) (eV 1 57 (nV i) (eV 2 58 (.string (x.extract 0 i)) ?_ (hv:=fun _=>oC (tx:=9) (x:=.tmp 56) (e:=.tmp 57) (k2:=.i64) (s:=x) (m:=i) (j2:=(i:Int)) kR kR kR kR oM oM _)));refine eV 3 59 (.string x) (eV 4 60 (nV i) (iO 5 61 ((i:Nat)+1) (i+1) (eV 6 62 (.string (x.extract (i+1) x.size)) ?_ (hv:=fun _=>fF (tx:=9) (x:=.tmp 59) (i:=.tmp 61) (k:=.i64) (s:=x) (n:=(i+1)) (j:=((i+1:Nat):Int)) kR kR kR kR oM oM _))));refine eC 7 63 a (fun _ _ a=>xr (x.extract 0 i) (x.extract (i+1) x.size) (by rw[ByteArray.size_extract];omega) (by rw[ByteArray.size_extract];omega) _ _ a.g) ?_;rintro _ _ _ _ _ a ⟨_,rfl,zp,V,U,Y,rfl,yO,yP,yQ,yR⟩;replace a:=a.aP yQ yR;exact eV 8 64 (rG ((fL (x.extract 0 i) (x.extract (i+1) x.size)).getD 0) zp V U Y) (eV 9 65 (.bool ((fL (x.extract 0 i) (x.extract (i+1) x.size)).isSome)) (cG a (fun _ _ a=>tP 10 0 0 (gA ((fL (x.extract 0 i) (x.extract (i+1) x.size)).getD 0) zp V U Y) a (fun _ a=>tV 11 3 (.bool ((fL (x.extract 0 i) (x.extract (i+1) x.size)).isSome)) (tN (kX (a.ret [(0,0,3)] (.tuple #[rG ((fL (x.extract 0 i) (x.extract (i+1) x.size)).getD 0) zp V U Y,.bool ((fL (x.extract 0 i) (x.extract (i+1) x.size)).isSome)]) (by rw[re (j:=i) oM p oM];exact ⟨_,rfl,⟨_,_,_,_,rfl,yO,yP,a.f.2.1,a.f.1⟩⟩))))))))
 have zP:=eq_of_beq Q;refine lB 20 Q (aj (aa a aF (lV 24 (.string (x.extract 0 i)) ?_ (hr:=oC (tx:=9) (x:=.tmp 22) (e:=.tmp 23) (k2:=.i64) (s:=x) (m:=i) (j2:=(i:Int)) kR kR kR kR oM oM _))))
 rcases hz:ej (x.extract 0 i) with _|z
 .
  refine lC 25 a (lr (x.extract 0 i) (by first|omega|(rw[ByteArray.size_extract];omega)) hz _ _ a.g) ?_;rintro _ _ _ a ⟨_,rfl,yr,ys,rfl,bm,yS⟩;replace a:=a.aS yS;refine lL a [.c,.v (.agg #[.bool (au (0:Int)),qS yr ((lim (ab (0:Int))).length) ys]),.v qF] (lA 5 42 ([qF,sZ]) a (fun yt _ _ a=>lP 0 0 ([.bool (au (0:Int)),qS yr ((lim (ab (0:Int))).length) ys]) a (fun _ a=>lL a ac (aE (lL a aF (bg 31 ((i:Nat)+1) (i+1) ?_))))));refine lV 32 (.string (x.extract (i+1) x.size)) ?_ (hr:=fF (tx:=9) (x:=.tmp 29) (i:=.tmp 31) (k:=.i64) (s:=x) (n:=(i+1)) (j:=((i+1:Nat):Int)) kR kR kR kR oM oM _)
  rcases hk:bY (x.extract (i+1) x.size) with _|k
  .
   refine lC 33 a (cV (x.extract (i+1) x.size) (by first|omega|(rw[ByteArray.size_extract];omega)) hk _ _ a.g) ?_;rintro _ _ _ a ⟨_,rfl,yu,yv,rfl,bk,yT⟩;replace a:=a.aS yT;refine lL a [.c,.v (qS yu ((lim 0).length) yv),.v qF,.c,.c] (ai (aa a [.c,.v qT,.c] (lG 39 ?_)));refine lG 40 (lL a [.v qT,.c] (lG 43 ?_));refine lG 44 (lG 45 (lL a [.v qT] (lN (bG [(0,.string x),(2,pB y),(4,nV i),(5,pB yt),(7,qS yu ((lim 0).length) yv),(46,qT)] ?_))));refine ci (aG (lC 47 a (gh _ _ a.g) ?_));rintro _ _ _ a ⟨yw,yx,yA,yB,rfl,yU,yV,yW,yX⟩;replace a:=a.aP yW yX;exact lP 1 0 (gA (0:Rat) yw yx yA yB) a (fun _ a=>lL a ac (af a [(1,0,3)] (.tuple #[rG (0:Rat) yw yx yA yB,qF]) (by rw[fj (j:=i) oM (fun k d=>(p k d).2) oM];unfold iB;rw[hz];dsimp only;exact ⟨_,rfl,⟨_,_,_,_,rfl,yU,yV,a.f.2.1,a.f.1⟩⟩)))
  refine lC 33 a (cW (x.extract (i+1) x.size) k (by first|omega|(rw[ByteArray.size_extract];omega)) hk _ _ a.g) ?_;rintro _ _ _ a ⟨_,rfl,yC,yD,rfl,bl,Za⟩;replace a:=a.aS Za;have H:=@bI k;have b:=cv hk;have o:=gT (JO b);refine lL a [.c,.v (qS yC ((lim k).length) yD),.v qT,.c,.c] (ai (aa a [.c,.v qT,.c] (lG 39 ?_)));refine lG 40 (lL a [.v qT,.c] (lG 43 ?_));refine lG 44 (lG 45 (lL a [.v qT] (lN (bG [(0,.string x),(2,pB y),(4,nV i),(5,pB yt),(7,qS yC ((lim k).length) yD),(46,qT)] ?_))));refine ci (aG (lC 47 a (gh _ _ a.g) ?_));rintro _ _ _ a ⟨yE,yF,zt,zu,rfl,Zb,zR,Zc,zS⟩;replace a:=a.aP Zc zS;exact lP 1 0 (gA (0:Rat) yE yF zt zu) a (fun _ a=>lL a ac (af a [(1,0,3)] (.tuple #[rG (0:Rat) yE yF zt zu,qF]) (by rw[fj (j:=i) oM (fun k d=>(p k d).2) oM];unfold iB;rw[hz];dsimp only;exact ⟨_,rfl,⟨_,_,_,_,rfl,Zb,zR,a.f.2.1,a.f.1⟩⟩)))
 refine lC 25 a (k6 (x.extract 0 i) z (by first|omega|(rw[ByteArray.size_extract];omega)) hz _ _ a.g) ?_;rintro _ _ _ a ⟨_,rfl,O,S,rfl,zU,zW⟩;replace a:=a.aS zW;have l:=iT hz;have B:=gT (n:=ab z) (JO l);refine lL a [.c,.v (.agg #[.bool (au z),qS O ((lim (ab z)).length) S]),.v qT] (lA 5 42 ([qF,sZ]) a (fun X _ _ a=>lP 0 0 ([.bool (au z),qS O ((lim (ab z)).length) S]) a (fun _ a=>lL a ac (aE (lL a aF (bg 31 ((i:Nat)+1) (i+1) ?_))))));refine lV 32 (.string (x.extract (i+1) x.size)) ?_ (hr:=fF (tx:=9) (x:=.tmp 29) (i:=.tmp 31) (k:=.i64) (s:=x) (n:=(i+1)) (j:=((i+1:Nat):Int)) kR kR kR kR oM oM _)
 rcases hk:bY (x.extract (i+1) x.size) with _|k
 .
  refine lC 33 a (cV (x.extract (i+1) x.size) (by first|omega|(rw[ByteArray.size_extract];omega)) hk _ _ a.g) ?_;rintro _ _ _ a ⟨_,rfl,zv,zw,rfl,bb,zX⟩;replace a:=a.aS zX;refine lL a [.c,.v (qS zv ((lim 0).length) zw),.v qF,.c,.c] (ai (aa a [.c,.v qF,.c,.c,.v qT,.v qT,.c] (lG 43 ?_)));refine lG 44 (lG 45 (lL a [.v qT] (lN (bG [(0,.string x),(2,pB y),(4,nV i),(5,pB X),(7,qS zv ((lim 0).length) zw),(46,qT)] ?_))));refine ci (aG (lC 47 a (gh _ _ a.g) ?_));rintro _ _ _ a ⟨zx,zA,zB,zD,rfl,ya,yb,yc,yd⟩;replace a:=a.aP yc yd;exact lP 1 0 (gA (0:Rat) zx zA zB zD) a (fun _ a=>lL a ac (af a [(1,0,3)] (.tuple #[rG (0:Rat) zx zA zB zD,qF]) (by rw[fj (j:=i) oM (fun k d=>(p k d).2) oM];unfold iB;rw[hz];dsimp only;rw[hk];dsimp only;exact ⟨_,rfl,⟨_,_,_,_,rfl,ya,yb,a.f.2.1,a.f.1⟩⟩)))
 refine lC 33 a (cW (x.extract (i+1) x.size) k (by first|omega|(rw[ByteArray.size_extract];omega)) hk _ _ a.g) ?_;rintro _ _ _ a ⟨_,rfl,J,I,rfl,ye,yf⟩;replace a:=a.aS yf;have H:=@bI k;have b:=cv hk;have o:=gT (JO b);refine lL a [.c,.v (qS J ((lim k).length) I),.v qT,.c,.c] (ai (aa a [.c,.v qF,.c,.c,.v qF,.v qF,.c,.c,.v (nV ((lim k).length))] ?_));cases M:((((lim k).length:Nat):Int) == (0:Int))
 .
  have zE:=ao M;refine lB 45 M (lL a [.v qF] (lN (bG [(0,.string x),(2,pB y),(4,nV i),(5,pB X),(7,qS J ((lim k).length) I),(46,qF)] ?_)));refine da (cK (cQ (cR 4 [] mixed a aw ?_)));refine eO 0 48 [(0,0,2)] (.agg #[.bool (au z),qS O ((lim (ab z)).length) S]) a (eV 1 49 (qS J ((lim k).length) I) (eC 2 50 a (fun _ _ a=>rI false k J I ye _ _ a.g a.f.1) ?_));rintro _ _ _ _ _ a ⟨Zd,Ze,rfl,yg,yi⟩;replace a:=a.aS yi;refine eC 3 51 a (fun _ _ a=>sn z O S zU (ed (dO (ed (JO l) kD)) kD) (bD false k) Zd Ze yg (by rw[cd];exact ed (dO (ed (JO b) kD)) kD) (by rw[io];omega) _ _ a.g a.f.r.1 a.f.1) ?_;rintro _ _ _ _ _ a ⟨zG,zH,zI,zJ,rfl,yj,yk,yl,ym⟩;replace a:=a.aP yl ym;exact cG a (fun _ _ a=>tP 4 1 0 (gA (og z (bD false k)) zG zH zI zJ) a (fun _ a=>tV 5 3 qT (tN (kX (a.ret [(1,0,3)] (.tuple #[rG (og z (bD false k)) zG zH zI zJ,qT]) (by rw[fj (j:=i) oM (fun k d=>(p k d).2) oM];unfold iB;rw[hz];dsimp only;rw[hk];dsimp only;rw[if_neg (show ¬k=0 by omega),<-iU];exact ⟨_,rfl,⟨_,_,_,_,rfl,yj,yk,a.f.2.1,a.f.1⟩⟩))))))
 have zE:=eq_of_beq M;refine lB 45 M (lL a [.v qT] (lN (bG [(0,.string x),(2,pB y),(4,nV i),(5,pB X),(7,qS J ((lim k).length) I),(46,qT)] ?_)));refine ci (aG (lC 47 a (gh _ _ a.g) ?_));rintro _ _ _ a ⟨zK,zL,zM,zN,rfl,yn,yo,yp,yq⟩;replace a:=a.aP yp yq;exact lP 1 0 (gA (0:Rat) zK zL zM zN) a (fun _ a=>lL a ac (af a [(1,0,3)] (.tuple #[rG (0:Rat) zK zL zM zN,qF]) (by rw[fj (j:=i) oM (fun k d=>(p k d).2) oM];unfold iB;rw[hz];dsimp only;rw[hk];dsimp only;rw[if_pos (show k=0 by omega)];exact ⟨_,rfl,⟨_,_,_,_,rfl,yn,yo,a.f.2.1,a.f.1⟩⟩)))
theorem nZ (x:ByteArray)(c:Rat)(d:x.size<=1000000)(a:cF x=some c)(w:World)(h:Hp)(g:G w h):CR 133 #[.string x] w h (fun v h1=>∃ b,v=.tuple #[b,.bool true]/\RQ h1 b c):=by
 have q:=xj x d w h g;rw[a] at q;exact q
theorem ot (x:ByteArray)(c:x.size<=1000000)(a:cF x=none)(w:World)(h:Hp)(g:G w h):CR 133 #[.string x] w h (fun v h1=>∃ b,v=.tuple #[b,.bool false]/\RQ h1 b 0):=by
 have q:=xj x c w h g;rw[a] at q;exact q
section
variable {s:ByteArray}{t:Tm}{a b e k:Nat}{m:Bool}
def ml (s:ByteArray)(t:Tm)(m:Bool)(b:Nat):PR:=if 3<rn bM s b-b then .err b else match fM (s.extract b (rn bM s b)) with
  | none=>.err b
  | some k=>.ok (.mk 8 (if m then -(k:Int) else k) 0 ⟨#[]⟩ [t]) (rn bM s b)
theorem uy:iW s t a=ml s t (decide (ak s (sk s a)=45)) (sk s (if decide (ak s (sk s a)=45)=true then sk s a+1 else sk s a)):=by
 unfold iW;dsimp only
 generalize decide (ak s (sk s a)=45)=m
 generalize sk s (if m=true then sk s a+1 else sk s a)=b
 unfold ml
 by_cases c:3<rn bM s b-b
 ·rw[if_pos c,if_pos c]
 ·rw[if_neg c,if_neg c]
  cases fM (s.extract b (rn bM s b))<;>rfl
theorem DY (c:ak s (sk s a)=45):iW s t a=ml s t true (sk s (sk s a+1)):=by
 rw[uy,decide_eq_true c,if_pos rfl]
theorem D0 (c:ak s (sk s a)≠45):iW s t a=ml s t false (sk s (sk s a)):=by
 rw[uy,decide_eq_false c,if_neg kD]
theorem mD (h:rn bM s b=e)(a:3<e-b):ml s t m b=.err b:=by
 unfold ml;rw[h,if_pos a]
theorem xD (h:rn bM s b=e)(a:bY (s.extract b e)=none):ml s t m b=.err b:=by
 unfold ml;rw[h]
 by_cases c:3<e-b
 ·rw[if_pos c]
 ·rw[if_neg c]
  have hz:(s.extract b e).size<=200:=by rw[ByteArray.size_extract];omega
  unfold bY at a;rw[if_pos hz] at a;rw[a]
theorem Ae (h:rn bM s b=e)(c:¬3<e-b)(a:bY (s.extract b e)=some k):ml s t m b=.ok (.mk 8 (if m then -(k:Int) else k) 0 ⟨#[]⟩ [t]) e:=by
 unfold ml;rw[h,if_neg c,(dx a).2]
theorem wh {nf bf:ByteArray->Option Rat}{n:Nat}{r:PR}(h:bn nf bf s (n+1) .pow a=some r):(∃ b,bn nf bf s n .atom a=some (.err b)/\r=.err b)\/∃ v e,bn nf bf s n .atom a=some (.ok v e)/\r=if ak s (sk s e)=94 then iW s v (sk s e+1) else .ok v (sk s e):=by
 unfold bn at h
 rcases cJ h with ⟨b,e1,e2⟩|⟨t,b,e1,e2⟩
 ·exact .inl ⟨b,e1,e2⟩
 ·refine .inr ⟨t,b,e1,?_⟩
  by_cases c:ak s (sk s b)=94
  ·rw[if_pos c] at e2 ⊢;injection e2 with e2;exact e2.symm
  ·rw[if_neg c] at e2 ⊢;injection e2 with e2;exact e2.symm
end
section
variable {nf bf:ByteArray->Option Rat}(n:Nat)
theorem Ev  (iha:RC nf bf 107 n .atom)(rb:Nat)(s:ByteArray)(D:s.size<=1000000)(a:Nat)(ha:a<=s.size)(r:PR)(hq:bn nf bf s (n+1) .pow a=some r)(w:World)(h:Hp)(g:G w h)(ho:Own w rb 67 [.string s,nV a,iV (-1)])(hj:h[rb]?=some junk)(tb:Tab h):Calls Tryz.prog 82 #[pB rb] w (bW rb w h (DD rb s r)):=by
 have d:UpM [rb] w h w h:=UpM.refl g;obtain ⟨wz,W,b⟩:=SS.at_ g ho hj;replace b:=(b.add (K:=fun u=>Tab u) tb);refine go Tryz.func82 [(0,pB rb)] rfl (aG (fe 2 47 (ax ⟨0,0,false,none,0,0,none,0,0,⟨#[]⟩,none,0,0⟩) b (fun z w2 h3 u4 p b=>?_)));replace p:=ed d.gr.size p;replace d:=d.trans (u4.m _);refine aE (lL b ac ?_)
 rcases wh hq with ⟨be,he,rfl⟩|⟨t1,y1,hq1,hr⟩
 .
  refine bj 11 (iha rb s D a ha (.err be) he _ _ b.g (b.own 1) (b.jk 1) b.f.1) ?_;rintro _ w6 h7 u8 ⟨xq5,rfl,cx⟩;replace b:=(b.stepM 1 u8 cx).to [⟨z,47,ax ⟨0,0,false,none,0,0,none,0,0,⟨#[]⟩,none,0,0⟩⟩,⟨rb,67,[.string s,nV s.size,nV be]⟩] [];replace d:=d.trans u8;refine fe 3 47 (ax ⟨0,0,false,none,0,0,none,0,0,⟨#[]⟩,none,0,0⟩) b (fun b9 _ _ u12 I b=>?_);replace I:=ed d.gr.size I;replace d:=d.trans (u12.m _);refine ce 0 0 (ax xq5) b (fun _ B b=>?_);replace d:=d.put2 B I g b.g;refine ai (aa b ac (bj 13 (dJ rb s D be 94 _ _ b.g (b.own 2) (b.jk 2) b.f.1) ?_));rintro _ _ _ u17 ⟨rfl,ch⟩;replace b:=(b.stepM 2 u17 ch).to [⟨b9,47,ax xq5⟩,⟨z,47,ax ⟨0,0,false,none,0,0,none,0,0,⟨#[]⟩,none,0,0⟩⟩,⟨rb,67,[.string s,nV s.size,nV be]⟩] [];replace d:=d.trans u17;refine lL b [.v qT] (aj (aa b [.o (aY xq5) 0 0 7] (ce 1 0 (ax xq5) b (fun _ B b=>?_))));replace d:=d.put2 B p g b.g;exact lN (kX (b.retM d [(1,0,7)] (aY xq5) (⟨_,rfl,b.own 2⟩)))
 refine bj 11 (iha rb s D a ha (.ok t1 y1) hq1 _ _ b.g (b.own 1) (b.jk 1) b.f.1) ?_;rintro _ _ _ u22 ⟨l,rfl,c8,b6,b7⟩;replace b:=(b.stepM 1 u22 b6).to [⟨z,47,ax ⟨0,0,false,none,0,0,none,0,0,⟨#[]⟩,none,0,0⟩⟩,⟨rb,67,[.string s,nV y1,iV (-1)]⟩] [];replace d:=d.trans u22;replace b:=(b.add (K:=fun u=>RtH u l t1) b7);refine fe 3 47 (ax ⟨0,0,false,none,0,0,none,0,0,⟨#[]⟩,none,0,0⟩) b (fun F _ _ u26 C b=>?_);replace C:=ed d.gr.size C;replace d:=d.trans (u26.m _);refine ce 0 0 (ax l) b (fun _ B b=>?_);replace d:=d.put2 B C g b.g;refine ai (aa b ac ?_);have c6:=bB (s:=s) (a:=y1) oM;refine bj 13 (iK rb s D y1 oM 94 kD _ _ b.g (b.own 2) (b.jk 2) b.f.2.1) ?_;rintro _ _ _ u31 (⟨rfl,O,dn,U⟩|⟨rfl,O,U⟩)
 .
  replace b:=(b.stepM 2 u31 U).to [⟨F,47,ax l⟩,⟨z,47,ax ⟨0,0,false,none,0,0,none,0,0,⟨#[]⟩,none,0,0⟩⟩,⟨rb,67,[.string s,nV (sk s y1+1),iV (-1)]⟩] [];replace d:=d.trans u31;replace hr:=hr.trans (if_pos O);refine lL b [.v qF] (ah (cK (aa b ac ?_)));have c7:=bB (s:=s) (a:=(sk s y1+1)) oM;refine bj 17 (iK rb s D (sk s y1+1) oM 45 kD _ _ b.g (b.own 2) (b.jk 2) b.f.2.1) ?_;rintro _ _ _ u35 (⟨rfl,J,df,Q⟩|⟨rfl,J,Q⟩)
  .
   replace b:=(b.stepM 2 u35 Q).to [⟨F,47,ax l⟩,⟨z,47,ax ⟨0,0,false,none,0,0,none,0,0,⟨#[]⟩,none,0,0⟩⟩,⟨rb,67,[.string s,nV (sk s (sk s y1+1)+1),iV (-1)]⟩] [];replace d:=d.trans u35;replace hr:=hr.trans (DY J);refine lL b ac (aE (lL b ac ?_));have bq:=bB (s:=s) (a:=(sk s (sk s y1+1)+1)) oM;obtain ⟨y,hbp⟩:∃ y,sk s (sk s (sk s y1+1)+1)=y:=⟨_,rfl⟩;refine bj 19 (mn rb s D (sk s (sk s y1+1)+1) oM _ _ b.g (b.own 2) (b.jk 2) b.f.2.1) ?_;rintro _ _ zQ u39 ⟨rfl,Y⟩;rw[hbp] at Y bq
   rw[hbp];replace b:=(b.stepM 2 u39 Y).to [⟨F,47,ax l⟩,⟨z,47,ax ⟨0,0,false,none,0,0,none,0,0,⟨#[]⟩,none,0,0⟩⟩,⟨rb,67,[.string s,nV y,iV (-1)]⟩] [];replace d:=d.trans u39;refine aE (lL b [.c,.v (pB rb),.v (qP rb 1),.o (nV y) 2 1 1,.c] (ai (kZ ?_)));refine bG _ (CG.loop (fun μ_ Γ w_=>∃ (k:Nat)(u:Hp),μ_=s.size-k/\Γ=[(0,pB rb),(2,pB z),(3,pB F),(4,qT),(5,nV y)]/\SS wz W w_ u [⟨F,47,ax l⟩,⟨z,47,ax ⟨0,0,false,none,0,0,none,0,0,⟨#[]⟩,none,0,0⟩⟩,⟨rb,67,[.string s,nV k,iV (-1)]⟩] [] [fun u=>RtH u l t1,fun u=>Tab u]/\y<=k/\k<=s.size/\UpM [rb] w h w_ u/\(∀ i,y<=i->i<k->bM (ak s i)=true)) _ ⟨y,zQ,rfl,rfl,b.to _ _,nR _,oM,d,(fun i h1 h2=>absurd h1 oM)⟩ ?_);rintro _ _ _ ⟨k,_,ds,rfl,b,hk1,hk2,d,hkb⟩;refine cQ (CG.join (fun Γ w_=>∃ (zb:Bool)(u:Hp),Γ=[(0,pB rb),(2,pB z),(3,pB F),(4,qT),(5,nV y),(45,.bool zb)]/\SS wz W w_ u [⟨F,47,ax l⟩,⟨z,47,ax ⟨0,0,false,none,0,0,none,0,0,⟨#[]⟩,none,0,0⟩⟩,⟨rb,67,[.string s,nV k,iV (-1)]⟩] [] [fun u=>RtH u l t1,fun u=>Tab u]/\(zb=true->bM (ak s k)=true/\k<s.size)/\(zb=false->k=s.size\/bM (ak s k)=false)/\UpM [rb] w h w_ u) ?_ ?_)
   .
    refine cR 22 [] mixed b aw (eV 0 24 (pB rb) (eV 1 25 (pB rb) (eV 2 26 (qP rb 1) (eO 3 27 [(2,1,1)] (nV k) b (eV 4 28 (pB rb) (eV 5 29 (pB rb) (eV 6 30 (pB rb) (eO 7 31 [(2,0,1)] (.string s) b (eV 8 32 (nV s.size) ?_)))))))));cases zg:(decide ((k:Int)<(s.size:Int)))
    .
     have zx:=oF zg;refine eB 9 33 zg (eV 10 34 qF (eG 11 35 (eG 12 36 (eG 13 37 (eG 14 38 (eG 15 39 (eG 16 40 (eG 17 41 (eG 18 42 (eG 19 43 (eG 20 44 (eV 21 45 qF (bL b (fun _ zR u46 b=>?_))))))))))))));replace d:=d.trans (u46.m _);refine tD ?_;intro a_ L;exact ⟨_,⟨false,zR,rfl,b.to _ _,(fun u=>absurd u kD),(fun _=>by first|exact .inl oM|exact .inr (decide_eq_false oM)),d⟩,L.to _ kR⟩
    have zx:=oT zg;refine eB 9 33 zg (eV 10 34 qT (eV 11 35 (pB rb) (eV 12 36 (pB rb) (eV 13 37 (pB rb) (eO 14 38 [(2,0,1)] (.string s) b (eV 15 39 (pB rb) (eV 16 40 (pB rb) (eV 17 41 (qP rb 1) (eO 18 42 [(2,1,1)] (nV k) b (eV 19 43 (.int .u8 (ak s k:Nat)) ?_ (hv:=fun _=>aU (tx:=9) (x:=.tmp 38) (i:=.tmp 42) (k:=.i64) (s:=s) (n:=k) (j:=(k:Int)) kR kR kR kR oM oM _)))))))))));refine ie 20 44 b d (fun _ _ b=>gp ((ak s k)) (bh _ _) _ _ b.g) ?_;rintro _ _ _ _ _ d b rfl;cases zr:(decide (48<=(ak s k)/\(ak s k)<=57))
    .
     have zA:=oF zr;refine eV 21 45 qF (bL b (fun _ zS u55 b=>?_));replace d:=d.trans (u55.m _);refine tD ?_;intro a_ L;exact ⟨_,⟨false,zS,rfl,b.to _ _,(fun u=>absurd u kD),(fun _=>by first|exact .inl oM|exact .inr (decide_eq_false oM)),d⟩,L.to _ kR⟩
    have zA:=oT zr;refine eV 21 45 qT (bL b (fun _ zU u61 b=>?_));replace d:=d.trans (u61.m _);refine tD ?_;intro a_ L;exact ⟨_,⟨true,zU,rfl,b.to _ _,(fun _=>⟨decide_eq_true oM,by omega⟩),(fun u=>absurd u kD),d⟩,L.to _ kR⟩
   rintro _ _ ⟨zb,zW,rfl,b,zf,Z,d⟩;cases zi:(zb)
   .
    try rw[zi] at b
    try rw[zi]
    refine da (CG.exit ?_)
    show CG _ _ _ _ _ _ _ _
    refine cQ ?_;rw[hbp] at hr
    have M:rn bM s y=k:=dy hk1 hk2 hkb (Z aM);refine cR 14 [] mixed b aw (eV 0 54 (pB rb) (eV 1 55 (pB rb) (eV 2 56 (pB rb) (eO 3 57 [(2,0,1)] (.string s) b (eV 4 58 (nV y) (eV 5 59 (pB rb) (eV 6 60 (pB rb) (eV 7 61 (qP rb 1) (eO 8 62 [(2,1,1)] (nV k) b (eV 9 63 (.string (s.extract y k)) ?_ (hv:=fun _=>eA (tx:=9) (x:=.tmp 57) (i:=.tmp 58) (e:=.tmp 62) (k:=.i64) (k2:=.i64) (s:=s) (n:=y) (m:=k) (j:=(y:Int)) (j2:=(k:Int)) kR kR kR kR kR oM oM oM oM _)))))))))))
    rcases hk:bY (s.extract y k) with _|kk
    .
     refine ie 10 64 b d (fun _ _ b=>cV (s.extract y k) (by first|omega|(rw[ByteArray.size_extract];omega)) hk _ _ b.g) ?_;rintro _ _ _ _ _ d b ⟨_,rfl,zs,zt,rfl,dp,zH⟩;replace b:=b.aS zH;refine eV 11 53 (.tuple #[qS zs ((lim 0).length) zt,qF]) (eV 12 65 (qS zs ((lim 0).length) zt) (eV 13 66 qF (bL b (fun _ _ u76 b=>?_))));replace d:=d.trans (u76.m _);refine tV 14 6 (qS zs ((lim 0).length) zt) (tV 15 7 qF (tN (cQ (aa b [.c,.v qT,.c] (lG 70 ?_)))));refine lG 71 (lG 72 (lG 73 (lG 74 (lG 75 (lG 76 (lL b [.v qT] (aj (aa b aF (bj 80 (fd rb s D k oM y _ _ b.g (b.own 2) (b.jk 2) b.f.r.1) ?_)))))))));rintro _ _ _ u81 ⟨rfl,cm⟩;replace b:=(b.stepM 2 u81 cm).to [⟨F,47,ax l⟩,⟨z,47,ax ⟨0,0,false,none,0,0,none,0,0,⟨#[]⟩,none,0,0⟩⟩,⟨rb,67,[.string s,nV s.size,nV y]⟩] [];replace d:=d.trans u81;refine ce 1 0 (ax (⟨0,0,false,none,0,0,none,0,0,⟨#[]⟩,none,0,0⟩:RTm)) b (fun _ B b=>?_);replace d:=d.put2 B p g b.g;exact lN (kX (b.retM d [(1,0,7)] (aY (⟨0,0,false,none,0,0,none,0,0,⟨#[]⟩,none,0,0⟩:RTm)) ((by rw[hr,xD M hk];exact ⟨_,rfl,b.own 2⟩))))
    refine ie 10 64 b d (fun _ _ b=>cW (s.extract y k) kk (by first|omega|(rw[ByteArray.size_extract];omega)) hk _ _ b.g) ?_;rintro _ _ _ _ _ d b ⟨_,rfl,zo,zp,rfl,zI,zJ⟩;replace b:=b.aS zJ;have cy:=@bI kk;have H:=cv hk;have bl:=gT (JO H);refine eV 11 53 (.tuple #[qS zo ((lim kk).length) zp,qT]) (eV 12 65 (qS zo ((lim kk).length) zp) (eV 13 66 qT (bL b (fun _ _ u91 b=>?_))));replace d:=d.trans (u91.m _);refine tV 14 6 (qS zo ((lim kk).length) zp) (tV 15 7 qT (tN (cQ (aa b [.c,.v qF,.c,.c,.v (pB rb),.v (qP rb 1),.o (nV k) 2 1 1,.c] (bg 75 ((k:Nat)-(y:Nat)) (k-y) ?_)))));cases zj:(decide ((3:Int)<((k-y:Nat):Int)))
    .
     have zB:=oF zj;refine lB 76 zj (lL b [.v qF] (ah (cK (aa b ac ?_))));have hk3:kk<1000:=by have q_:=i9 (dx hk).2 (by rw[ByteArray.size_extract];omega);omega
     refine d7 83 (sq kk hk3 zo zp zI _ _ b.g b.f.1) ?_;rintro _ _ _ u95 rfl;replace d:=d.trans (u95.m _);replace b:=b.step u95;refine lL b [.c,.v (mV kk),.v qT,.c,.c] (ai (aa b ac (lN (bG [(2,pB z),(3,pB F),(8,mV kk),(86,qT)] ?_))));refine ci (aa b [.o (aY l) 0 0 7,.c] (lV 89 (nV kk) ?_ (hr:=rS ((kk:Int)) kR (jV oM oM))));refine lI 90 (0-(kk:Nat)) (d7 91 (C0 l t1 (0-(kk:Nat)) _ _ b.g b.f.2.1) ?_);rintro _ _ _ u99 ⟨X,rfl,b5⟩;replace d:=d.trans (u99.m _);replace b:=b.step u99;replace b:=(b.add (K:=fun u=>RtH u X (.mk 8 (0-(kk:Nat)) 0 ⟨#[]⟩ [t1])) b5);refine ce 1 0 (ax X) b (fun _ B b=>?_);replace d:=d.put2 B p g b.g;exact lN (kX (b.retM d [(1,0,7)] (aY X) ((by rw[hr,Ae M oM hk];exact ⟨_,rfl,by omega,b.own 2,(by have q_:=(b.f.1);rw[Int.zero_sub] at q_;exact q_)⟩))))
    have zB:=oT zj;refine lB 76 zj (lL b [.v qT] (aj (aa b aF (bj 80 (fd rb s D k oM y _ _ b.g (b.own 2) (b.jk 2) b.f.r.1) ?_))));rintro _ _ _ b2 ⟨rfl,br⟩;replace b:=(b.stepM 2 b2 br).to [⟨F,47,ax l⟩,⟨z,47,ax ⟨0,0,false,none,0,0,none,0,0,⟨#[]⟩,none,0,0⟩⟩,⟨rb,67,[.string s,nV s.size,nV y]⟩] [];replace d:=d.trans b2;refine ce 1 0 (ax (⟨0,0,false,none,0,0,none,0,0,⟨#[]⟩,none,0,0⟩:RTm)) b (fun _ B b=>?_);replace d:=d.put2 B p g b.g;exact lN (kX (b.retM d [(1,0,7)] (aY (⟨0,0,false,none,0,0,none,0,0,⟨#[]⟩,none,0,0⟩:RTm)) ((by rw[hr,mD M oM];exact ⟨_,rfl,b.own 2⟩))))
   try rw[zi] at b
   try rw[zi]
   refine ci (cK (kZ (kQ (lL b [.c,.v (pB rb),.v (qP rb 1),.o (nV k) 2 1 1] (bg 50 ((k:Nat)+1) (k+1) ?_)))));refine lL b [.v (pB rb),.v (qP rb 1)] (ce 2 1 ([nV (k+1)]) b (fun _ B b=>?_));replace d:=d.put B (n1.2 rfl) b.g;refine lD ?_;have cq:=(zf aM).2;intro a_ L;refine ⟨_,_,?_,⟨k+1,zW,rfl,rfl,b.to _ _,oM,oM,d,(fun i h1 h2=>by rcases Kl.1 h2 with u|rfl;exact hkb i h1 u;exact (zf aM).1)⟩,L.to _ kR⟩
   omega
  replace b:=(b.stepM 2 u35 Q).to [⟨F,47,ax l⟩,⟨z,47,ax ⟨0,0,false,none,0,0,none,0,0,⟨#[]⟩,none,0,0⟩⟩,⟨rb,67,[.string s,nV (sk s (sk s y1+1)),iV (-1)]⟩] [];replace d:=d.trans u35;replace hr:=hr.trans (D0 J);refine lL b ac (aE (lL b ac ?_));have bb:=bB (s:=s) (a:=(sk s (sk s y1+1))) oM;obtain ⟨y,hbp⟩:∃ y,sk s (sk s (sk s y1+1))=y:=⟨_,rfl⟩;refine bj 19 (mn rb s D (sk s (sk s y1+1)) oM _ _ b.g (b.own 2) (b.jk 2) b.f.2.1) ?_;rintro _ _ zK bt ⟨rfl,V⟩;rw[hbp] at V bb
  rw[hbp];replace b:=(b.stepM 2 bt V).to [⟨F,47,ax l⟩,⟨z,47,ax ⟨0,0,false,none,0,0,none,0,0,⟨#[]⟩,none,0,0⟩⟩,⟨rb,67,[.string s,nV y,iV (-1)]⟩] [];replace d:=d.trans bt;refine aE (lL b [.c,.v (pB rb),.v (qP rb 1),.o (nV y) 2 1 1,.c] (ai (kZ ?_)));refine bG _ (CG.loop (fun μ_ Γ w_=>∃ (k:Nat)(u:Hp),μ_=s.size-k/\Γ=[(0,pB rb),(2,pB z),(3,pB F),(4,qF),(5,nV y)]/\SS wz W w_ u [⟨F,47,ax l⟩,⟨z,47,ax ⟨0,0,false,none,0,0,none,0,0,⟨#[]⟩,none,0,0⟩⟩,⟨rb,67,[.string s,nV k,iV (-1)]⟩] [] [fun u=>RtH u l t1,fun u=>Tab u]/\y<=k/\k<=s.size/\UpM [rb] w h w_ u/\(∀ i,y<=i->i<k->bM (ak s i)=true)) _ ⟨y,zK,rfl,rfl,b.to _ _,nR _,oM,d,(fun i h1 h2=>absurd h1 oM)⟩ ?_);rintro _ _ _ ⟨k,_,dc,rfl,b,hk1,hk2,d,hkb⟩;refine cQ (CG.join (fun Γ w_=>∃ (zb:Bool)(u:Hp),Γ=[(0,pB rb),(2,pB z),(3,pB F),(4,qF),(5,nV y),(45,.bool zb)]/\SS wz W w_ u [⟨F,47,ax l⟩,⟨z,47,ax ⟨0,0,false,none,0,0,none,0,0,⟨#[]⟩,none,0,0⟩⟩,⟨rb,67,[.string s,nV k,iV (-1)]⟩] [] [fun u=>RtH u l t1,fun u=>Tab u]/\(zb=true->bM (ak s k)=true/\k<s.size)/\(zb=false->k=s.size\/bM (ak s k)=false)/\UpM [rb] w h w_ u) ?_ ?_)
  .
   refine cR 22 [] mixed b aw (eV 0 24 (pB rb) (eV 1 25 (pB rb) (eV 2 26 (qP rb 1) (eO 3 27 [(2,1,1)] (nV k) b (eV 4 28 (pB rb) (eV 5 29 (pB rb) (eV 6 30 (pB rb) (eO 7 31 [(2,0,1)] (.string s) b (eV 8 32 (nV s.size) ?_)))))))));cases zc:(decide ((k:Int)<(s.size:Int)))
   .
    have zu:=oF zc;refine eB 9 33 zc (eV 10 34 qF (eG 11 35 (eG 12 36 (eG 13 37 (eG 14 38 (eG 15 39 (eG 16 40 (eG 17 41 (eG 18 42 (eG 19 43 (eG 20 44 (eV 21 45 qF (bL b (fun _ zL c5 b=>?_))))))))))))));replace d:=d.trans (c5.m _);refine tD ?_;intro a_ L;exact ⟨_,⟨false,zL,rfl,b.to _ _,(fun u=>absurd u kD),(fun _=>by first|exact .inl oM|exact .inr (decide_eq_false oM)),d⟩,L.to _ kR⟩
   have zu:=oT zc;refine eB 9 33 zc (eV 10 34 qT (eV 11 35 (pB rb) (eV 12 36 (pB rb) (eV 13 37 (pB rb) (eO 14 38 [(2,0,1)] (.string s) b (eV 15 39 (pB rb) (eV 16 40 (pB rb) (eV 17 41 (qP rb 1) (eO 18 42 [(2,1,1)] (nV k) b (eV 19 43 (.int .u8 (ak s k:Nat)) ?_ (hv:=fun _=>aU (tx:=9) (x:=.tmp 38) (i:=.tmp 42) (k:=.i64) (s:=s) (n:=k) (j:=(k:Int)) kR kR kR kR oM oM _)))))))))));refine ie 20 44 b d (fun _ _ b=>gp ((ak s k)) (bh _ _) _ _ b.g) ?_;rintro _ _ _ _ _ d b rfl;cases zq:(decide (48<=(ak s k)/\(ak s k)<=57))
   .
    have zv:=oF zq;refine eV 21 45 qF (bL b (fun _ zM cz b=>?_));replace d:=d.trans (cz.m _);refine tD ?_;intro a_ L;exact ⟨_,⟨false,zM,rfl,b.to _ _,(fun u=>absurd u kD),(fun _=>by first|exact .inl oM|exact .inr (decide_eq_false oM)),d⟩,L.to _ kR⟩
   have zv:=oT zq;refine eV 21 45 qT (bL b (fun _ zN cr b=>?_));replace d:=d.trans (cr.m _);refine tD ?_;intro a_ L;exact ⟨_,⟨true,zN,rfl,b.to _ _,(fun _=>⟨decide_eq_true oM,by omega⟩),(fun u=>absurd u kD),d⟩,L.to _ kR⟩
  rintro _ _ ⟨zb,zP,rfl,b,zf,Z,d⟩;cases zd:(zb)
  .
   try rw[zd] at b
   try rw[zd]
   refine da (CG.exit ?_)
   show CG _ _ _ _ _ _ _ _
   refine cQ ?_;rw[hbp] at hr
   have M:rn bM s y=k:=dy hk1 hk2 hkb (Z aM);refine cR 14 [] mixed b aw (eV 0 54 (pB rb) (eV 1 55 (pB rb) (eV 2 56 (pB rb) (eO 3 57 [(2,0,1)] (.string s) b (eV 4 58 (nV y) (eV 5 59 (pB rb) (eV 6 60 (pB rb) (eV 7 61 (qP rb 1) (eO 8 62 [(2,1,1)] (nV k) b (eV 9 63 (.string (s.extract y k)) ?_ (hv:=fun _=>eA (tx:=9) (x:=.tmp 57) (i:=.tmp 58) (e:=.tmp 62) (k:=.i64) (k2:=.i64) (s:=s) (n:=y) (m:=k) (j:=(y:Int)) (j2:=(k:Int)) kR kR kR kR kR oM oM oM oM _)))))))))))
   rcases hk:bY (s.extract y k) with _|kk
   .
    refine ie 10 64 b d (fun _ _ b=>cV (s.extract y k) (by first|omega|(rw[ByteArray.size_extract];omega)) hk _ _ b.g) ?_;rintro _ _ _ _ _ d b ⟨_,rfl,zm,zn,rfl,dk,zD⟩;replace b:=b.aS zD;refine eV 11 53 (.tuple #[qS zm ((lim 0).length) zn,qF]) (eV 12 65 (qS zm ((lim 0).length) zn) (eV 13 66 qF (bL b (fun _ _ c4 b=>?_))));replace d:=d.trans (c4.m _);refine tV 14 6 (qS zm ((lim 0).length) zn) (tV 15 7 qF (tN (cQ (aa b [.c,.v qT,.c] (lG 70 ?_)))));refine lG 71 (lG 72 (lG 73 (lG 74 (lG 75 (lG 76 (lL b [.v qT] (aj (aa b aF (bj 80 (fd rb s D k oM y _ _ b.g (b.own 2) (b.jk 2) b.f.r.1) ?_)))))))));rintro _ _ _ b4 ⟨rfl,bd⟩;replace b:=(b.stepM 2 b4 bd).to [⟨F,47,ax l⟩,⟨z,47,ax ⟨0,0,false,none,0,0,none,0,0,⟨#[]⟩,none,0,0⟩⟩,⟨rb,67,[.string s,nV s.size,nV y]⟩] [];replace d:=d.trans b4;refine ce 1 0 (ax (⟨0,0,false,none,0,0,none,0,0,⟨#[]⟩,none,0,0⟩:RTm)) b (fun _ B b=>?_);replace d:=d.put2 B p g b.g;exact lN (kX (b.retM d [(1,0,7)] (aY (⟨0,0,false,none,0,0,none,0,0,⟨#[]⟩,none,0,0⟩:RTm)) ((by rw[hr,xD M hk];exact ⟨_,rfl,b.own 2⟩))))
   refine ie 10 64 b d (fun _ _ b=>cW (s.extract y k) kk (by first|omega|(rw[ByteArray.size_extract];omega)) hk _ _ b.g) ?_;rintro _ _ _ _ _ d b ⟨_,rfl,zk,zl,rfl,zE,zG⟩;replace b:=b.aS zG;have cy:=@bI kk;have H:=cv hk;have bl:=gT (JO H);refine eV 11 53 (.tuple #[qS zk ((lim kk).length) zl,qT]) (eV 12 65 (qS zk ((lim kk).length) zl) (eV 13 66 qT (bL b (fun _ _ c3 b=>?_))));replace d:=d.trans (c3.m _);refine tV 14 6 (qS zk ((lim kk).length) zl) (tV 15 7 qT (tN (cQ (aa b [.c,.v qF,.c,.c,.v (pB rb),.v (qP rb 1),.o (nV k) 2 1 1,.c] (bg 75 ((k:Nat)-(y:Nat)) (k-y) ?_)))));cases ze:(decide ((3:Int)<((k-y:Nat):Int)))
   .
    have zw:=oF ze;refine lB 76 ze (lL b [.v qF] (ah (cK (aa b ac ?_))));have hk3:kk<1000:=by have q_:=i9 (dx hk).2 (by rw[ByteArray.size_extract];omega);omega
    refine d7 83 (sq kk hk3 zk zl zE _ _ b.g b.f.1) ?_;rintro _ _ _ b3 rfl;replace d:=d.trans (b3.m _);replace b:=b.step b3;refine lL b [.c,.v (mV kk),.v qT,.c,.c] (ai (aa b ac (lN (bG [(2,pB z),(3,pB F),(8,mV kk),(86,qF)] ?_))));refine da (cK (aa b [.o (aY l) 0 0 7,.c] (lV 94 (nV kk) ?_ (hr:=rS ((kk:Int)) kR (jV oM oM)))));refine d7 95 (C0 l t1 (kk:Nat) _ _ b.g b.f.2.1) ?_;rintro _ _ _ bw ⟨S,rfl,bm⟩;replace d:=d.trans (bw.m _);replace b:=b.step bw;replace b:=(b.add (K:=fun u=>RtH u S (.mk 8 (kk:Nat) 0 ⟨#[]⟩ [t1])) bm);refine ce 1 0 (ax S) b (fun _ B b=>?_);replace d:=d.put2 B p g b.g;exact lN (kX (b.retM d [(1,0,7)] (aY S) ((by rw[hr,Ae M oM hk];exact ⟨_,rfl,by omega,b.own 2,b.f.1⟩))))
   have zw:=oT ze;refine lB 76 ze (lL b [.v qT] (aj (aa b aF (bj 80 (fd rb s D k oM y _ _ b.g (b.own 2) (b.jk 2) b.f.r.1) ?_))));rintro _ _ _ b0 ⟨rfl,bk⟩;replace b:=(b.stepM 2 b0 bk).to [⟨F,47,ax l⟩,⟨z,47,ax ⟨0,0,false,none,0,0,none,0,0,⟨#[]⟩,none,0,0⟩⟩,⟨rb,67,[.string s,nV s.size,nV y]⟩] [];replace d:=d.trans b0;refine ce 1 0 (ax (⟨0,0,false,none,0,0,none,0,0,⟨#[]⟩,none,0,0⟩:RTm)) b (fun _ B b=>?_);replace d:=d.put2 B p g b.g;exact lN (kX (b.retM d [(1,0,7)] (aY (⟨0,0,false,none,0,0,none,0,0,⟨#[]⟩,none,0,0⟩:RTm)) ((by rw[hr,mD M oM];exact ⟨_,rfl,b.own 2⟩))))
  try rw[zd] at b
  try rw[zd]
  refine ci (cK (kZ (kQ (lL b [.c,.v (pB rb),.v (qP rb 1),.o (nV k) 2 1 1] (bg 50 ((k:Nat)+1) (k+1) ?_)))));refine lL b [.v (pB rb),.v (qP rb 1)] (ce 2 1 ([nV (k+1)]) b (fun _ B b=>?_));replace d:=d.put B (n1.2 rfl) b.g;refine lD ?_;have cq:=(zf aM).2;intro a_ L;refine ⟨_,_,?_,⟨k+1,zP,rfl,rfl,b.to _ _,oM,oM,d,(fun i h1 h2=>by rcases Kl.1 h2 with u|rfl;exact hkb i h1 u;exact (zf aM).1)⟩,L.to _ kR⟩
  omega
 replace b:=(b.stepM 2 u31 U).to [⟨F,47,ax l⟩,⟨z,47,ax ⟨0,0,false,none,0,0,none,0,0,⟨#[]⟩,none,0,0⟩⟩,⟨rb,67,[.string s,nV (sk s y1),iV (-1)]⟩] [];replace d:=d.trans u31;replace hr:=hr.trans (if_neg O);refine lL b [.v qT] (aj (aa b [.o (aY l) 0 0 7] (ce 1 0 (ax l) b (fun _ B b=>?_))));replace d:=d.put2 B p g b.g;exact lN (kX (b.retM d [(1,0,7)] (aY l) ((by rw[hr];exact ⟨_,rfl,by omega,b.own 2,b.f.1⟩))))
end
section laws
variable {M:Ms}{P:Program}{n:Nat}{N R:Po}{X:Nat->Po}{ops:Array Oper}{k k0:Nat}{hr:Hp}{AL:List Al}{L:Array Bool}{Γ:ck}{w:World}{h:Hp}{w0:World}{h0:Hp}{B:List Bx}{Rs:List Rw}{F:List (Hp->Prop)}
theorem FZ (s:SS w0 h0 w h B Rs F){o:Oper}{ty:TypeId}{sz M c2:Nat}{z:Value}{α:Type}{f:α->List Value}{d:α}{A H:Z9}{l m:List α}(he:vC P (ev Γ) o=some (.slice A l.length l.length,.slice H m.length c2,ty,z,sz,M))(s0:SlO sz f d h A l)(so:SlO sz f d h H m)(hl0:0<l.length)(hm0:0<m.length)(h1:∀ x∈m,(f x).all (·.oneCell')=true)(hf:∀ x,(f x).length=sz)(hzs:z.cells.size=sz)(K:0<sz)(hm:l.length+m.length<=1099511627776)(a:(l.length+m.length)*M<=140737488355328) :
  ∃ k c' w' Q,(execOp (ev Γ) o).run P w=.ok (.value (.slice k (l++m).length c')) w'/\Up w h w' Q/\SS w0 h0 w' Q B Rs ((fun h=>SlO sz f d h k (l++m))::F)/\(l++m).length<=c':=by
 rw[so.ok hm0,s0.ok hl0] at he
 obtain ⟨x',y,D,ho,S,hy,hu,i,hi,hi0,hi1,hi2⟩:∃ x y t,o.op=.call { callee:=.builtin .append,args:=#[x,y],argTypes:=#[t,t] }/\ev Γ x=.slice (some ⟨aB A,aO A,none⟩) l.length l.length/\ev Γ y=.slice (some ⟨aB H,aO H,none⟩) m.length c2/\P.underlying t=some (.slice ty)/\∃ i,P.info? ty=some i/\i.zero=some z/\i.size=sz/\i.bytes=M:=by
  obtain ⟨x',y,D,ho,S,hy,hu,hi⟩:=nh he;obtain ⟨i,hi,e⟩:=Option.map_eq_some_iff.1 hi
  simp only[Prod.mk.injEq] at e
  exact ⟨x',y,D,ho,S,hy,hu,i,hi,e.1,e.2.1,e.2.2⟩
 obtain ⟨v',w',J,I,C⟩:=run_append_arg_grows (P:=P) w D o.type ty i z sz M hu hi hi0 hi1 hi2 hzs K ⟨aB A,aO A,none⟩ l.length l.length (l.flatMap f) (db hf l) (fW s.g (s0.flat hf)) ⟨aB H,aO H,none⟩ m.length c2 (m.flatMap f) (db hf m) (fW s.g (so.flat hf)) oM (by unfold maxLen;omega) a;have hcs:l.flatMap f++m.flatMap f=(l++m).flatMap f:=pe;have hn:l.length+m.length=(l++m).length:=by simp
 rw[hcs,hn] at I
 have r:Gro h0 (B.map (·.b)) w h ty sz (.slice none 0 0) 0 []:=Gro.nil;obtain ⟨Q,U,s',Z⟩:=oE s.st s.g0 r (by simpa [Value.ownBlock] using C);have hsz:=s.g.size
 have j:∀ b,v'.ownBlock=some b->h.size<=b/\b<w'.heap.size:=fun b a=>by
  refine ⟨?_,j0 I a⟩
  rcases I with ⟨_,⟨rfl,_⟩|⟨g,cap,cur,rfl,hbb,_⟩⟩
  ·simp[Value.ownBlock] at a
  ·simp[Value.ownBlock] at a;omega
 have hsl:∃ A c,v'=.slice A (l++m).length c:=by
  rcases I with ⟨_,⟨e,e2⟩|⟨g,cap,cur,e,_⟩⟩
  ·exact ⟨none,0,by rw[e,e2]⟩
  ·exact ⟨_,_,e⟩
 obtain ⟨k,c',rfl⟩:=hsl
 have ow':w'.ownsRow h0.size ty sz (.slice k (l++m).length c') (l++m).length ((l++m).flatMap f):=by
  rcases I with ⟨q1,q2|⟨g,cap,cur,e,hbb,q3⟩⟩
  ·exact ⟨q1,.inl q2⟩
  ·exact ⟨q1,.inr ⟨g,cap,cur,e,by have:=s.st.up.gr.size;omega,q3⟩⟩
 have hlo:∀ b,(Value.slice k (l++m).length c').ownBlock=some b->h.size<=b:=fun b a=>(j b a).1
 have r1:Gro h0 (B.map (·.b)) w' Q ty sz (.slice k (l++m).length c') (l++m).length ((l++m).flatMap f):=by
  refine ⟨ow',fun b a=>Z b (j b a).1 (j b a).2,fun b a hm=>?_⟩;obtain ⟨y,V,e⟩:=List.mem_map.1 hm;have O:=aI (s.st.jk y V);have h3:=(j b a).1;have e':y.b=b:=e
  omega
 obtain ⟨O,s2,gw,po,_,W,hz,sg⟩:=Gro.pub3 s' r1;have L:Gr h O:=⟨ed U.size gw.size,fun b a=>(po b (fun e=>by have:=hlo b e;omega)).trans (U.blk b a)⟩;refine ⟨k,c',w',O,?_,⟨⟨C.os,C.tape,C.output,C.size,fun c hc=>C.block c hc (by simp)⟩,L,s2.g⟩,⟨s.g0,s2,fun q hq=>?_,s.ap,fun p X=>?_,SlO.of_pub hf hz sg,s.f.gw s.mo L.gw⟩,W⟩
 ·unfold execOp
  simp only[ho,resolve,invoke,builtin,Sem.run_bind,Sem.run_pure,Result.andThen_ok,List.map_toArray,un,List.map_nil,S,hy,J]
 ·refine ((s.ro q hq).app C U (fun b _ e=>by cases e)).pubo po (fun b a Y=>?_)
  have O:=(s.ro q hq).lt a;have h3:=(j b Y).1
  omega
 ·rcases gq.1 X with rfl|X
  ·exact fun _ _ u x=>x.gw u
  ·exact s.mo p X
end laws
section
variable {M:Ms}{P:Program}{n:Nat}{N R:Po}{X:Nat->Po}{ops:Array Oper}{k0:Nat}{hr:Hp}{AL:List Al}{L:Array Bool}{Γ:ck}{w:World}{h:Hp}{w0:World}{h0:Hp}{B:List Bx}{Rs:List Rw}{F:List (Hp->Prop)}{M2:List Nat}{wa:World}{ha:Hp}
theorem Hm (i t:Nat)(ty:TypeId)(m:Nat)(cs:List Value)(s:SS w0 h0 w h B Rs F)(e:UpM M2 wa ha w h)(H:∀ b w' a,UpM M2 wa ha w' a->SS w0 h0 w' a B Rs ((fun h=>Seg h b 0 cs)::F)->EG M P n N R X ops k0 hr AL (L.setIfInBounds i true) ((t,.slice (some ⟨b,0,none⟩) m m)::Γ) w' a)(c:AC n ops k0 AL L Γ i t=true:=by kernel_rfl)
  (hv:∀ w,(execOp (ev Γ) (av ops i)).run P w=.ok (.value (.slice (some ⟨w.heap.size,0,none⟩) m m)) (w.alloc (.cells cs.toArray ty (0,0))):=by intro _;kernel_rfl):EG M P n N R X ops k0 hr AL L Γ w h :=
 Rg.row i t ty m cs (fA c).1 (fA c).2 hv (fun b w' a u d=>H b w' a (e.trans (u.m _)) ((s.step u).a_Seg d))
theorem Ht {α:Type}(i t:Nat)(ty:TypeId)(sz:Nat)(f:α->List Value)(d:α)(A J:Z9)(l m:List α)(c2 I:Nat)(z:Value)(s:SS w0 h0 w h B Rs F)(O:UpM M2 wa ha w h)(Q:∀ h,AllF F h->SlO sz f d h A l)(so:∀ h,AllF F h->SlO sz f d h J m)(j:0<l.length)(o:0<m.length)(h1:∀ x∈m,(f x).all (·.oneCell')=true)
  (H:∀ e c' w' a,(l++m).length<=c'->UpM M2 wa ha w' a->SS w0 h0 w' a B Rs ((fun h=>SlO sz f d h e (l++m))::F)->EG M P n N R X ops k0 hr AL (L.setIfInBounds i true) ((t,.slice e (l++m).length c')::Γ) w' a)
  (D:AC n ops k0 AL L Γ i t=true:=by kernel_rfl)(S:vC P (ev Γ) (av ops i)=some (.slice A l.length l.length,.slice J m.length c2,ty,z,sz,I):=by kernel_rfl)(hf:∀ x,(f x).length=sz:=by intro _;rfl)(p:z.cells.size=sz:=by kernel_rfl)(c:0<sz:=by decide)(K:l.length+m.length<=1099511627776:=by simp only[List.length_cons,List.length_nil];omega)(V:(l.length+m.length)*I<=140737488355328:=by simp only[List.length_cons,List.length_nil];omega):EG M P n N R X ops k0 hr AL L Γ w h:=by
 refine Rg.event i t (fA D).1 (fA D).2 (fun w1 W u=>?_);have y:=s.step u;obtain ⟨e,c',w',a,b,C,U,k⟩:=FZ (P:=P) y S (Q _ y.f) (so _ y.f) j o h1 hf p c K V;exact .inl ⟨_,w',a,b,C.m M.l,H e c' w' a k (O.trans ((u.trans C).m _)) U⟩
end
section
variable {nf bf:ByteArray->Option Rat}{s:ByteArray}{n p k a:Nat}{op:Int}{r:PR}{t u:Tm}
def uF (nf bf:ByteArray->Option Rat)(s:ByteArray)(n p:Nat):Option PR :=
  if bU (s.extract p (rn bF s p))=true then bn nf bf s n (.call (ag (s.extract p (rn bF s p)))) (rn bF s p)
  else if cD (s.extract p (rn bF s p))=true then some (.ok (dC (s.extract p (rn bF s p))) (rn bF s p))
  else some (.err p)
theorem xA (a:rn bF s p=k)(h:uF nf bf s n p=some r)(c:ag (s.extract p k)≠0):bn nf bf s n (.call (ag (s.extract p k))) k=some r:=by
 unfold uF at h;rw[a,if_pos (show bU (s.extract p k)=true from decide_eq_true c)] at h;exact h
theorem GA (a:rn bF s p=k)(h:uF nf bf s n p=some r)(c:ag (s.extract p k)=0)(d:cD (s.extract p k)=true):r=.ok (dC (s.extract p k)) k:=by
 unfold uF at h;rw[a,if_neg (by unfold bU;rw[c];decide),if_pos d] at h;injection h with h;exact h.symm
theorem GT (a:rn bF s p=k)(h:uF nf bf s n p=some r)(c:ag (s.extract p k)=0)(d:cD (s.extract p k)=false):r=.err p:=by
 unfold uF at h;rw[a,if_neg (by unfold bU;rw[c];decide),if_neg (by rw[d];decide)] at h;injection h with h;exact h.symm
def mr (s:ByteArray)(op:Int)(t u:Tm)(c:Nat):Option PR:=if ak s (sk s c)=41 then some (.ok (bz op t u) (sk s c+1)) else some (.err (sk s c))
def jc (nf bf:ByteArray->Option Rat)(s:ByteArray)(n:Nat)(op:Int)(t:Tm)(b:Nat):Option PR :=
  if op=12\/op=13 then if ak s (sk s b)=44 then fT (bn nf bf s n .sum (sk s b+1)) (mr s op t) else some (.err (sk s b))
  else if ak s (sk s b)=41 then some (.ok (fQ op t) (sk s b+1)) else some (.err (sk s b))
theorem EL (h:bn nf bf s (n+1) (.call op) a=some r)(c:ak s (sk s a)=40):fT (bn nf bf s n .sum (sk s a+1)) (jc nf bf s n op)=some r:=by
 unfold bn at h;rw[if_pos c] at h;exact h
theorem EX (h:bn nf bf s (n+1) (.call op) a=some r)(c:ak s (sk s a)≠40):r=.err (sk s a):=by
 unfold bn at h;rw[if_neg c] at h;injection h with h;exact h.symm
theorem wj {b:Nat}(h:jc nf bf s n op t b=some r)(o:op=12\/op=13)(c:ak s (sk s b)=44):fT (bn nf bf s n .sum (sk s b+1)) (mr s op t)=some r:=by
 unfold jc at h;rw[if_pos o,if_pos c] at h;exact h
theorem vV {b:Nat}(h:jc nf bf s n op t b=some r)(o:op=12\/op=13)(c:ak s (sk s b)≠44):r=.err (sk s b):=by
 unfold jc at h;rw[if_pos o,if_neg c] at h;injection h with h;exact h.symm
theorem vx {b:Nat}(h:jc nf bf s n op t b=some r)(o:¬(op=12\/op=13))(c:ak s (sk s b)=41):r=.ok (fQ op t) (sk s b+1):=by
 unfold jc at h;rw[if_neg o,if_pos c] at h;injection h with h;exact h.symm
theorem x3 {b:Nat}(h:jc nf bf s n op t b=some r)(o:¬(op=12\/op=13))(c:ak s (sk s b)≠41):r=.err (sk s b):=by
 unfold jc at h;rw[if_neg o,if_neg c] at h;injection h with h;exact h.symm
theorem Bq {b:Nat}(h:mr s op t u b=some r)(c:ak s (sk s b)=41):r=.ok (bz op t u) (sk s b+1):=by
 unfold mr at h;rw[if_pos c] at h;injection h with h;exact h.symm
theorem BJ {b:Nat}(h:mr s op t u b=some r)(c:ak s (sk s b)≠41):r=.err (sk s b):=by
 unfold mr at h;rw[if_neg c] at h;injection h with h;exact h.symm
theorem uS (s:ByteArray):ag s=0\/9<=ag s/\ag s<=13:=by
 unfold ag
 split
 ·decide
 split
 ·decide
 split
 ·decide
 split
 ·decide
 split
 ·decide
 ·exact .inl rfl
theorem vT {s:ByteArray}(h:gH s=2):ag s=12\/ag s=13:=by
 have:=uS s
 unfold gH at h
 split at h
 ·omega
 ·split at h
  ·omega
  ·omega
theorem vk {s:ByteArray}(h:gH s≠2):¬(ag s=12\/ag s=13):=by
 intro o
 unfold gH at h
 rw[if_neg oM,if_neg oM] at h
 exact h rfl
theorem RtH.one1 {h:Hp}{x:RTm}{a:Nat}(y:RtH h x t)(z:SlO 7 ax bZ h (some ⟨a,0,none⟩) [x]):RtH h ⟨op,0,false,none,0,0,none,0,0,⟨#[]⟩,some ⟨a,0,none⟩,1,1⟩ (fQ op t):=by
 obtain ⟨d,y⟩:=y;exact ⟨_,qr y z⟩
theorem RtH.two2 {h:Hp}{x b:RTm}{A:Z9}{c:Nat}(y:RtH h x t)(a:RtH h b u)(f:2<=c)(z:SlO 7 ax bZ h A [x,b]):RtH h ⟨op,0,false,none,0,0,none,0,0,⟨#[]⟩,A,2,c⟩ (bz op t u):=by
 obtain ⟨d,y⟩:=y;obtain ⟨e,a⟩:=a;exact ⟨max d e+1,RmH.mk m7 ((Rms.nil.snoc (y.mono oM)).snoc (a.mono oM)) f z⟩
end
section
variable {nf bf:ByteArray->Option Rat}(n:Nat)
theorem vH  (ihs:∀ m,m<=n->RC nf bf 16 m .sum)(rb:Nat)(s:ByteArray)(D:s.size<=1000000)(a:Nat)(ha:a<=s.size)(r:PR)(hr:uF nf bf s n a=some r)(w:World)(h:Hp)(g:G w h)(ho:Own w rb 67 [.string s,nV a,iV (-1)])(hj:h[rb]?=some junk)(tb:Tab h):Calls Tryz.prog 136 #[pB rb,nV a] w (bW rb w h (DD rb s r)):=by
 have y:UpM [rb] w h w h:=UpM.refl g;obtain ⟨wz,d0,u⟩:=SS.at_ g ho hj;replace u:=(u.add (K:=fun M=>Tab M) tb);refine go Tryz.func136 [(0,pB rb),(1,nV a)] rfl (aG (fe 4 47 (ax ⟨0,0,false,none,0,0,none,0,0,⟨#[]⟩,none,0,0⟩) u (fun I w2 h3 u4 B u=>?_)));replace B:=ed y.gr.size B;replace y:=y.trans (u4.m _);refine ai (kZ ?_);refine bG _ (CG.loop (fun μ_ Γ w_=>∃ (k:Nat)(M:Hp),μ_=s.size-k/\Γ=[(0,pB rb),(1,nV a),(4,pB I)]/\SS wz d0 w_ M [⟨I,47,ax ⟨0,0,false,none,0,0,none,0,0,⟨#[]⟩,none,0,0⟩⟩,⟨rb,67,[.string s,nV k,iV (-1)]⟩] [] [fun M=>Tab M]/\a<=k/\k<=s.size/\UpM [rb] w h w_ M/\(∀ i,a<=i->i<k->bF (ak s i)=true)) _ ⟨a,h3,rfl,rfl,u.to _ _,nR _,ha,y,(fun i h1 h2=>absurd h1 oM)⟩ ?_);rintro _ _ w5 ⟨k,h6,hm7,rfl,u,hk1,hk2,y,hkb⟩;refine cQ (CG.join (fun Γ w_=>∃ (zx:Bool)(M:Hp),Γ=[(0,pB rb),(1,nV a),(4,pB I),(54,.bool zx)]/\SS wz d0 w_ M [⟨I,47,ax ⟨0,0,false,none,0,0,none,0,0,⟨#[]⟩,none,0,0⟩⟩,⟨rb,67,[.string s,nV k,iV (-1)]⟩] [] [fun M=>Tab M]/\(zx=true->bF (ak s k)=true/\k<s.size)/\(zx=false->k=s.size\/bF (ak s k)=false)/\UpM [rb] w h w_ M) ?_ ?_)
 .
  refine cR 46 [] mixed u aw (eV 0 9 (pB rb) (eV 1 10 (pB rb) (eV 2 11 (qP rb 1) (eO 3 12 [(1,1,1)] (nV k) u (eV 4 13 (pB rb) (eV 5 14 (pB rb) (eV 6 15 (pB rb) (eO 7 16 [(1,0,1)] (.string s) u (eV 8 17 (nV s.size) ?_)))))))));cases hb8:(decide ((k:Int)<(s.size:Int)))
  .
   have hy:=oF hb8;refine eB 9 18 hb8 (eV 10 19 qF (eG 11 20 (eG 12 21 (eG 13 22 (eG 14 23 (eG 15 24 (eG 16 25 (eG 17 26 (eG 18 27 (eG 19 28 (eG 20 29 (eG 21 30 (eG 22 31 (eG 23 32 (eG 24 33 (eG 25 34 (eG 26 35 (eG 27 36 (eG 28 37 (eG 29 38 (eG 30 39 (eG 31 40 (eG 32 41 (eG 33 42 (eG 34 43 (eG 35 44 (eG 36 45 (eG 37 46 (eG 38 47 (eG 39 48 (eG 40 49 (eG 41 50 (eG 42 51 (eG 43 52 (eG 44 53 (eV 45 54 qF (bL u (fun w9 yb u11 u=>?_))))))))))))))))))))))))))))))))))))));replace y:=y.trans (u11.m _);refine tD ?_;intro a_ ka;exact ⟨_,⟨false,yb,rfl,u.to _ _,(fun M=>absurd M kD),(fun _=>by first|exact .inl oM|exact .inr (decide_eq_false (by unfold kd;unfold dI at *;omega))),y⟩,ka.to _ kR⟩
  have hy:=oT hb8;refine eB 9 18 hb8 (eV 10 19 qT (eV 11 20 (pB rb) (eV 12 21 (pB rb) (eV 13 22 (pB rb) (eO 14 23 [(1,0,1)] (.string s) u (eV 15 24 (pB rb) (eV 16 25 (pB rb) (eV 17 26 (qP rb 1) (eO 18 27 [(1,1,1)] (nV k) u (eV 19 28 (.int .u8 (ak s k:Nat)) ?_ (hv:=fun _=>aU (tx:=9) (x:=.tmp 23) (i:=.tmp 27) (k:=.i64) (s:=s) (n:=k) (j:=(k:Int)) kR kR kR kR oM oM _)))))))))));refine ie 20 29 u y (fun _ _ u=>ji ((ak s k)) (bh _ _) _ _ u.g) ?_;rintro _ _ _ _ _ y u rfl;cases zG:(decide (dI ((ak s k))))
  .
   have zR:=oF zG;refine eV 21 30 qF (eV 22 31 (pB rb) (eV 23 32 (pB rb) (eV 24 33 (pB rb) (eO 25 34 [(1,0,1)] (.string s) u (eV 26 35 (pB rb) (eV 27 36 (pB rb) (eV 28 37 (qP rb 1) (eO 29 38 [(1,1,1)] (nV k) u (eV 30 39 (.int .u8 (ak s k:Nat)) ?_ (hv:=fun _=>aU (tx:=9) (x:=.tmp 34) (i:=.tmp 38) (k:=.i64) (s:=s) (n:=k) (j:=(k:Int)) kR kR kR kR oM oM _))))))))));refine ie 31 40 u y (fun _ _ u=>gp ((ak s k)) (bh _ _) _ _ u.g) ?_;rintro _ _ _ _ _ y u rfl;cases zH:(decide (48<=(ak s k)/\(ak s k)<=57))
   .
    have zS:=oF zH;refine eV 32 41 qF (eV 33 42 qF (eV 34 43 (pB rb) (eV 35 44 (pB rb) (eV 36 45 (pB rb) (eO 37 46 [(1,0,1)] (.string s) u (eV 38 47 (pB rb) (eV 39 48 (pB rb) (eV 40 49 (qP rb 1) (eO 41 50 [(1,1,1)] (nV k) u (eV 42 51 (.int .u8 (ak s k:Nat)) ?_ (hv:=fun _=>aU (tx:=9) (x:=.tmp 46) (i:=.tmp 50) (k:=.i64) (s:=s) (n:=k) (j:=(k:Int)) kR kR kR kR oM oM _)))))))))));cases zs:(((ak s k:Nat):Int) == (95:Int))
    .
     have zU:=ao zs;refine eB 43 52 zs (eV 44 53 qF (eV 45 54 qF (bL u (fun _ yc u24 u=>?_))));replace y:=y.trans (u24.m _);refine tD ?_;intro a_ ka;exact ⟨_,⟨false,yc,rfl,u.to _ _,(fun M=>absurd M kD),(fun _=>by first|exact .inl oM|exact .inr (decide_eq_false (by unfold kd;unfold dI at *;omega))),y⟩,ka.to _ kR⟩
    have zU:=eq_of_beq zs;refine eB 43 52 zs (eV 44 53 qT (eV 45 54 qT (bL u (fun _ yd u30 u=>?_))));replace y:=y.trans (u30.m _);refine tD ?_;intro a_ ka;exact ⟨_,⟨true,yd,rfl,u.to _ _,(fun _=>⟨decide_eq_true (by unfold kd;unfold dI at *;omega),by omega⟩),(fun M=>absurd M kD),y⟩,ka.to _ kR⟩
   have zS:=oT zH;refine eV 32 41 qT (eV 33 42 qT (eG 34 43 (eG 35 44 (eG 36 45 (eG 37 46 (eG 38 47 (eG 39 48 (eG 40 49 (eG 41 50 (eG 42 51 (eG 43 52 (eV 44 53 qT (eV 45 54 qT (bL u (fun _ ye u36 u=>?_)))))))))))))));replace y:=y.trans (u36.m _);refine tD ?_;intro a_ ka;exact ⟨_,⟨true,ye,rfl,u.to _ _,(fun _=>⟨decide_eq_true (by unfold kd;unfold dI at *;omega),by omega⟩),(fun M=>absurd M kD),y⟩,ka.to _ kR⟩
  have zR:=oT zG;refine eV 21 30 qT (eG 22 31 (eG 23 32 (eG 24 33 (eG 25 34 (eG 26 35 (eG 27 36 (eG 28 37 (eG 29 38 (eG 30 39 (eG 31 40 (eV 32 41 qT (eV 33 42 qT (eG 34 43 (eG 35 44 (eG 36 45 (eG 37 46 (eG 38 47 (eG 39 48 (eG 40 49 (eG 41 50 (eG 42 51 (eG 43 52 (eV 44 53 qT (eV 45 54 qT (bL u (fun _ yf u42 u=>?_))))))))))))))))))))))))));replace y:=y.trans (u42.m _);refine tD ?_;intro a_ ka;exact ⟨_,⟨true,yf,rfl,u.to _ _,(fun _=>⟨decide_eq_true (by unfold kd;unfold dI at *;omega),by omega⟩),(fun M=>absurd M kD),y⟩,ka.to _ kR⟩
 rintro _ _ ⟨zx,yg,rfl,u,zI,hw,y⟩;cases zt:(zx)
 .
  try rw[zt] at u
  try rw[zt]
  refine da (CG.exit ?_)
  show CG _ _ _ _ _ _ _ _
  refine cQ ?_;have hk_:rn bF s a=k:=dy hk1 hk2 hkb (hw aM);refine cR 10 [] mixed u aw (eV 0 62 (pB rb) (eV 1 63 (pB rb) (eV 2 64 (pB rb) (eO 3 65 [(1,0,1)] (.string s) u (eV 4 66 (nV a) (eV 5 67 (pB rb) (eV 6 68 (pB rb) (eV 7 69 (qP rb 1) (eO 8 70 [(1,1,1)] (nV k) u (eV 9 71 (.string (s.extract a k)) ?_ (hv:=fun _=>eA (tx:=9) (x:=.tmp 65) (i:=.tmp 66) (e:=.tmp 70) (k:=.i64) (k2:=.i64) (s:=s) (n:=a) (m:=k) (j:=(a:Int)) (j2:=(k:Int)) kR kR kR kR kR oM oM oM oM _)))))))))));refine bL u (fun _ _ u51 u=>?_);replace y:=y.trans (u51.m _);refine tV 10 5 (.string (s.extract a k)) (Av (lL u ac (d7 74 (wP (s.extract a k) _ _ u.g) ?_)));rintro _ _ _ u54 rfl;replace y:=y.trans (u54.m _);replace u:=u.step u54;refine lL u [.c,.v (iV (ag (s.extract a k))),.v (iV (gH (s.extract a k))),.c,.c] (ai (aa u ac ?_));cases zu:(((ag (s.extract a k)):Int) == (0:Int))
  .
   have zW:=ao zu;refine lB 78 zu (ah (cK (aG ?_)));replace hr:=xA hk_ hr aM;obtain ⟨m1,rfl⟩:=ik hr;refine lL u ac ?_;have kq:=bB (s:=s) (a:=k) oM;refine bj 88 (pY rb s D k oM 40 kD _ _ u.g (u.own 1) (u.jk 1) u.f.1) ?_;rintro _ _ _ u59 (⟨rfl,bd,k4,bl⟩|⟨rfl,bd,bl⟩)
   .
    replace u:=(u.stepM 1 u59 bl).to [⟨I,47,ax ⟨0,0,false,none,0,0,none,0,0,⟨#[]⟩,none,0,0⟩⟩,⟨rb,67,[.string s,nV (sk s k+1),iV (-1)]⟩] [];replace y:=y.trans u59;replace hr:=EL hr bd;refine aE (lL u aF ?_)
    rcases cJ hr with ⟨be,he,H⟩|⟨t1,y1,hq1,hr1⟩
    .
     refine bj 91 (ihs m1 oM rb s D (sk s k+1) oM (.err be) he _ _ u.g (u.own 1) (u.jk 1) u.f.1) ?_;rintro _ _ _ u63 ⟨c6,rfl,hc⟩;replace u:=(u.stepM 1 u63 hc).to [⟨I,47,ax ⟨0,0,false,none,0,0,none,0,0,⟨#[]⟩,none,0,0⟩⟩,⟨rb,67,[.string s,nV s.size,nV be]⟩] [];replace y:=y.trans u63;refine d7 92 (o5 (ag (s.extract a k)) c6 _ _ u.g) ?_;rintro _ _ _ u66 ⟨z,rfl,hbk⟩;replace y:=y.trans (u66.m _);replace u:=u.step u66;replace u:=u.aS hbk;refine fe 8 47 (ax ⟨0,0,false,none,0,0,none,0,0,⟨#[]⟩,none,0,0⟩) u (fun zp _ _ u70 L u=>?_);replace L:=ed y.gr.size L;replace y:=y.trans (u70.m _);refine ce 0 0 (ax (⟨(ag (s.extract a k)),0,false,none,0,0,none,0,0,⟨#[]⟩,sB z,1,1⟩:RTm)) u (fun _ F u=>?_);replace y:=y.put2 F L g u.g;refine ai (aa u ac ?_);cases zv:(((gH (s.extract a k)):Int) == (2:Int))
     .
      have zX:=ao zv;refine lB 94 zv (ah (cK (aa u ac (bj 105 (f6 rb s D be 41 _ _ u.g (u.own 2) (u.jk 2) u.f.2.1) ?_))));rintro _ _ _ u76 ⟨rfl,f1⟩;replace u:=(u.stepM 2 u76 f1).to [⟨zp,47,ax (⟨(ag (s.extract a k)),0,false,none,0,0,none,0,0,⟨#[]⟩,sB z,1,1⟩:RTm)⟩,⟨I,47,ax ⟨0,0,false,none,0,0,none,0,0,⟨#[]⟩,none,0,0⟩⟩,⟨rb,67,[.string s,nV s.size,nV be]⟩] [];replace y:=y.trans u76;refine aE (lL u [.o (aY (⟨(ag (s.extract a k)),0,false,none,0,0,none,0,0,⟨#[]⟩,sB z,1,1⟩:RTm)) 0 0 7] (ce 1 0 (ax (⟨(ag (s.extract a k)),0,false,none,0,0,none,0,0,⟨#[]⟩,sB z,1,1⟩:RTm)) u (fun _ F u=>?_)));replace y:=y.put2 F B g u.g;exact lN (kX (u.retM y [(1,0,7)] (aY (⟨(ag (s.extract a k)),0,false,none,0,0,none,0,0,⟨#[]⟩,sB z,1,1⟩:RTm)) ((by rw[H];exact ⟨⟨ag (s.extract a k),0,false,none,0,0,none,0,0,⟨#[]⟩,sB z,1,1⟩,rfl,u.own 2⟩))))
     have zX:=eq_of_beq zv;refine lB 94 zv (aj (aa u ac (bj 96 (f6 rb s D be 44 _ _ u.g (u.own 2) (u.jk 2) u.f.2.1) ?_)));rintro _ _ _ u81 ⟨rfl,f3⟩;replace u:=(u.stepM 2 u81 f3).to [⟨zp,47,ax (⟨(ag (s.extract a k)),0,false,none,0,0,none,0,0,⟨#[]⟩,sB z,1,1⟩:RTm)⟩,⟨I,47,ax ⟨0,0,false,none,0,0,none,0,0,⟨#[]⟩,none,0,0⟩⟩,⟨rb,67,[.string s,nV s.size,nV be]⟩] [];replace y:=y.trans u81;refine lN (CG.region ⟨[rb],none⟩ 6 [] mixed kR u.g aw (fun _ hb=>by rw[n1.1 hb];exact aI (u.jk 2)) ?_);refine eV 0 97 (qP zp 6) (eO 1 98 [(0,6,1)] (qS ((⟨(ag (s.extract a k)),0,false,none,0,0,none,0,0,⟨#[]⟩,sB z,1,1⟩:RTm).A) ((⟨(ag (s.extract a k)),0,false,none,0,0,none,0,0,⟨#[]⟩,sB z,1,1⟩:RTm).m) ((⟨(ag (s.extract a k)),0,false,none,0,0,none,0,0,⟨#[]⟩,sB z,1,1⟩:RTm).c)) u ?_ (hM:=fun p hp=>by obtain rfl:=n1.1 hp;exact fun hm=>cB u.st (i:=0) (j:=2) kR kR kR (n1.1 hm)));refine eV 2 99 (pB rb) (jf 3 100 u y (n1.2 rfl) (n1.2 rfl) (fun _ _ u=>nx rb s D be _ _ u.g (u.own 2) (u.jk 2) u.f.2.1) ?_);rintro _ _ _ _ _ u u85 y ⟨b0,rfl,hd⟩;replace u:=(u.stepM 2 u85 hd).to [⟨zp,47,ax (⟨(ag (s.extract a k)),0,false,none,0,0,none,0,0,⟨#[]⟩,sB z,1,1⟩:RTm)⟩,⟨I,47,ax ⟨0,0,false,none,0,0,none,0,0,⟨#[]⟩,none,0,0⟩⟩,⟨rb,67,[.string s,nV s.size,nV be]⟩] [];refine Hm 4 101 47 1 (ax b0) u y (fun ya _ _ y u=>Ht 5 102 47 7 ax bZ (sB z) (sB ya) [c6] [b0] 1 112 (aY ⟨0,0,false,none,0,0,none,0,0,⟨#[]⟩,none,0,0⟩) u y (fun _ X=>X.2.1) (fun _ X=>SlO.of_flat (sz:=7) (f:=ax) (d:=bZ) (b:=ya) (o:=0) (l:=[b0]) (fun _=>rfl) X.1) (JJ _) (JJ _) (fun _ _=>by kernel_rfl) (fun zr zq _ _ zJ y u=>?_));replace zJ:2<=zq:=zJ;refine bL u (fun _ _ u98 u=>?_);replace y:=y.trans (u98.m _);refine tV 6 103 (qP zp 6) (kj 7 0 6 ([qS zr 2 zq]) u (fun _ F u=>?_));replace y:=y.put2 F L g u.g;refine tN (bG [(0,pB rb),(4,pB I),(8,pB zp)] ?_);refine aa u ac (bj 105 (f6 rb s D be 41 _ _ u.g (u.own 2) (u.jk 2) u.f.r.2.1) ?_);rintro _ _ _ fn ⟨rfl,ch⟩;replace u:=(u.stepM 2 fn ch).to [⟨zp,47,ax ⟨(⟨(ag (s.extract a k)),0,false,none,0,0,none,0,0,⟨#[]⟩,sB z,1,1⟩:RTm).op,(⟨(ag (s.extract a k)),0,false,none,0,0,none,0,0,⟨#[]⟩,sB z,1,1⟩:RTm).n,(⟨(ag (s.extract a k)),0,false,none,0,0,none,0,0,⟨#[]⟩,sB z,1,1⟩:RTm).neg,(⟨(ag (s.extract a k)),0,false,none,0,0,none,0,0,⟨#[]⟩,sB z,1,1⟩:RTm).zA,(⟨(ag (s.extract a k)),0,false,none,0,0,none,0,0,⟨#[]⟩,sB z,1,1⟩:RTm).zn,(⟨(ag (s.extract a k)),0,false,none,0,0,none,0,0,⟨#[]⟩,sB z,1,1⟩:RTm).zc,(⟨(ag (s.extract a k)),0,false,none,0,0,none,0,0,⟨#[]⟩,sB z,1,1⟩:RTm).dA,(⟨(ag (s.extract a k)),0,false,none,0,0,none,0,0,⟨#[]⟩,sB z,1,1⟩:RTm).dn,(⟨(ag (s.extract a k)),0,false,none,0,0,none,0,0,⟨#[]⟩,sB z,1,1⟩:RTm).dc,(⟨(ag (s.extract a k)),0,false,none,0,0,none,0,0,⟨#[]⟩,sB z,1,1⟩:RTm).s,zr,2,zq⟩⟩,⟨I,47,ax ⟨0,0,false,none,0,0,none,0,0,⟨#[]⟩,none,0,0⟩⟩,⟨rb,67,[.string s,nV s.size,nV be]⟩] [];replace y:=y.trans fn;refine aE (lL u [.o (aY ⟨(⟨(ag (s.extract a k)),0,false,none,0,0,none,0,0,⟨#[]⟩,sB z,1,1⟩:RTm).op,(⟨(ag (s.extract a k)),0,false,none,0,0,none,0,0,⟨#[]⟩,sB z,1,1⟩:RTm).n,(⟨(ag (s.extract a k)),0,false,none,0,0,none,0,0,⟨#[]⟩,sB z,1,1⟩:RTm).neg,(⟨(ag (s.extract a k)),0,false,none,0,0,none,0,0,⟨#[]⟩,sB z,1,1⟩:RTm).zA,(⟨(ag (s.extract a k)),0,false,none,0,0,none,0,0,⟨#[]⟩,sB z,1,1⟩:RTm).zn,(⟨(ag (s.extract a k)),0,false,none,0,0,none,0,0,⟨#[]⟩,sB z,1,1⟩:RTm).zc,(⟨(ag (s.extract a k)),0,false,none,0,0,none,0,0,⟨#[]⟩,sB z,1,1⟩:RTm).dA,(⟨(ag (s.extract a k)),0,false,none,0,0,none,0,0,⟨#[]⟩,sB z,1,1⟩:RTm).dn,(⟨(ag (s.extract a k)),0,false,none,0,0,none,0,0,⟨#[]⟩,sB z,1,1⟩:RTm).dc,(⟨(ag (s.extract a k)),0,false,none,0,0,none,0,0,⟨#[]⟩,sB z,1,1⟩:RTm).s,zr,2,zq⟩) 0 0 7] (ce 1 0 (ax ⟨(⟨(ag (s.extract a k)),0,false,none,0,0,none,0,0,⟨#[]⟩,sB z,1,1⟩:RTm).op,(⟨(ag (s.extract a k)),0,false,none,0,0,none,0,0,⟨#[]⟩,sB z,1,1⟩:RTm).n,(⟨(ag (s.extract a k)),0,false,none,0,0,none,0,0,⟨#[]⟩,sB z,1,1⟩:RTm).neg,(⟨(ag (s.extract a k)),0,false,none,0,0,none,0,0,⟨#[]⟩,sB z,1,1⟩:RTm).zA,(⟨(ag (s.extract a k)),0,false,none,0,0,none,0,0,⟨#[]⟩,sB z,1,1⟩:RTm).zn,(⟨(ag (s.extract a k)),0,false,none,0,0,none,0,0,⟨#[]⟩,sB z,1,1⟩:RTm).zc,(⟨(ag (s.extract a k)),0,false,none,0,0,none,0,0,⟨#[]⟩,sB z,1,1⟩:RTm).dA,(⟨(ag (s.extract a k)),0,false,none,0,0,none,0,0,⟨#[]⟩,sB z,1,1⟩:RTm).dn,(⟨(ag (s.extract a k)),0,false,none,0,0,none,0,0,⟨#[]⟩,sB z,1,1⟩:RTm).dc,(⟨(ag (s.extract a k)),0,false,none,0,0,none,0,0,⟨#[]⟩,sB z,1,1⟩:RTm).s,zr,2,zq⟩) u (fun _ F u=>?_)));replace y:=y.put2 F B g u.g;exact lN (kX (u.retM y [(1,0,7)] (aY ⟨(⟨(ag (s.extract a k)),0,false,none,0,0,none,0,0,⟨#[]⟩,sB z,1,1⟩:RTm).op,(⟨(ag (s.extract a k)),0,false,none,0,0,none,0,0,⟨#[]⟩,sB z,1,1⟩:RTm).n,(⟨(ag (s.extract a k)),0,false,none,0,0,none,0,0,⟨#[]⟩,sB z,1,1⟩:RTm).neg,(⟨(ag (s.extract a k)),0,false,none,0,0,none,0,0,⟨#[]⟩,sB z,1,1⟩:RTm).zA,(⟨(ag (s.extract a k)),0,false,none,0,0,none,0,0,⟨#[]⟩,sB z,1,1⟩:RTm).zn,(⟨(ag (s.extract a k)),0,false,none,0,0,none,0,0,⟨#[]⟩,sB z,1,1⟩:RTm).zc,(⟨(ag (s.extract a k)),0,false,none,0,0,none,0,0,⟨#[]⟩,sB z,1,1⟩:RTm).dA,(⟨(ag (s.extract a k)),0,false,none,0,0,none,0,0,⟨#[]⟩,sB z,1,1⟩:RTm).dn,(⟨(ag (s.extract a k)),0,false,none,0,0,none,0,0,⟨#[]⟩,sB z,1,1⟩:RTm).dc,(⟨(ag (s.extract a k)),0,false,none,0,0,none,0,0,⟨#[]⟩,sB z,1,1⟩:RTm).s,zr,2,zq⟩) ((by rw[H];exact ⟨⟨ag (s.extract a k),0,false,none,0,0,none,0,0,⟨#[]⟩,zr,2,zq⟩,rfl,u.own 2⟩))))
    refine bj 91 (ihs m1 oM rb s D (sk s k+1) oM (.ok t1 y1) hq1 _ _ u.g (u.own 1) (u.jk 1) u.f.1) ?_;rintro _ _ _ c8 ⟨O,rfl,j8,cy,cz⟩;replace u:=(u.stepM 1 c8 cy).to [⟨I,47,ax ⟨0,0,false,none,0,0,none,0,0,⟨#[]⟩,none,0,0⟩⟩,⟨rb,67,[.string s,nV y1,iV (-1)]⟩] [];replace y:=y.trans c8;replace u:=(u.add (K:=fun M=>RtH M O t1) cz);refine d7 92 (o5 (ag (s.extract a k)) O _ _ u.g) ?_;rintro _ _ _ fp ⟨z,rfl,hbk⟩;replace y:=y.trans (fp.m _);replace u:=u.step fp;replace u:=u.aS hbk;refine fe 8 47 (ax ⟨0,0,false,none,0,0,none,0,0,⟨#[]⟩,none,0,0⟩) u (fun S _ _ hh C u=>?_);replace C:=ed y.gr.size C;replace y:=y.trans (hh.m _);refine ce 0 0 (ax (⟨(ag (s.extract a k)),0,false,none,0,0,none,0,0,⟨#[]⟩,sB z,1,1⟩:RTm)) u (fun _ F u=>?_);replace y:=y.put2 F C g u.g;refine ai (aa u ac ?_);cases zm:(((gH (s.extract a k)):Int) == (2:Int))
    .
     have zK:=ao zm;refine lB 94 zm (ah (cK (aa u ac ?_)));have h7:=bB (s:=s) (a:=y1) oM;refine bj 105 (pY rb s D y1 oM 41 kD _ _ u.g (u.own 2) (u.jk 2) u.f.r.1) ?_;rintro _ _ _ br (⟨rfl,Y,k3,bb⟩|⟨rfl,Y,bb⟩)
     .
      replace u:=(u.stepM 2 br bb).to [⟨S,47,ax (⟨(ag (s.extract a k)),0,false,none,0,0,none,0,0,⟨#[]⟩,sB z,1,1⟩:RTm)⟩,⟨I,47,ax ⟨0,0,false,none,0,0,none,0,0,⟨#[]⟩,none,0,0⟩⟩,⟨rb,67,[.string s,nV (sk s y1+1),iV (-1)]⟩] [];replace y:=y.trans br;have H:=vx hr1 (vk aM) Y;refine aE (lL u [.o (aY (⟨(ag (s.extract a k)),0,false,none,0,0,none,0,0,⟨#[]⟩,sB z,1,1⟩:RTm)) 0 0 7] (ce 1 0 (ax (⟨(ag (s.extract a k)),0,false,none,0,0,none,0,0,⟨#[]⟩,sB z,1,1⟩:RTm)) u (fun _ F u=>?_)));replace y:=y.put2 F B g u.g;exact lN (kX (u.retM y [(1,0,7)] (aY (⟨(ag (s.extract a k)),0,false,none,0,0,none,0,0,⟨#[]⟩,sB z,1,1⟩:RTm)) ((by rw[H];exact ⟨⟨ag (s.extract a k),0,false,none,0,0,none,0,0,⟨#[]⟩,sB z,1,1⟩,rfl,by omega,u.own 2,RtH.one1 u.f.2.1 u.f.1⟩))))
     replace u:=(u.stepM 2 br bb).to [⟨S,47,ax (⟨(ag (s.extract a k)),0,false,none,0,0,none,0,0,⟨#[]⟩,sB z,1,1⟩:RTm)⟩,⟨I,47,ax ⟨0,0,false,none,0,0,none,0,0,⟨#[]⟩,none,0,0⟩⟩,⟨rb,67,[.string s,nV s.size,nV (sk s y1)]⟩] [];replace y:=y.trans br;have H:=x3 hr1 (vk aM) Y;refine aE (lL u [.o (aY (⟨(ag (s.extract a k)),0,false,none,0,0,none,0,0,⟨#[]⟩,sB z,1,1⟩:RTm)) 0 0 7] (ce 1 0 (ax (⟨(ag (s.extract a k)),0,false,none,0,0,none,0,0,⟨#[]⟩,sB z,1,1⟩:RTm)) u (fun _ F u=>?_)));replace y:=y.put2 F B g u.g;exact lN (kX (u.retM y [(1,0,7)] (aY (⟨(ag (s.extract a k)),0,false,none,0,0,none,0,0,⟨#[]⟩,sB z,1,1⟩:RTm)) ((by rw[H];exact ⟨⟨ag (s.extract a k),0,false,none,0,0,none,0,0,⟨#[]⟩,sB z,1,1⟩,rfl,u.own 2⟩))))
    have zK:=eq_of_beq zm;refine lB 94 zm (aj (aa u ac ?_));have hl:=bB (s:=s) (a:=y1) oM;refine bj 96 (pY rb s D y1 oM 44 kD _ _ u.g (u.own 2) (u.jk 2) u.f.r.1) ?_;rintro _ _ _ bt (⟨rfl,U,kx,Z⟩|⟨rfl,U,Z⟩)
    .
     replace u:=(u.stepM 2 bt Z).to [⟨S,47,ax (⟨(ag (s.extract a k)),0,false,none,0,0,none,0,0,⟨#[]⟩,sB z,1,1⟩:RTm)⟩,⟨I,47,ax ⟨0,0,false,none,0,0,none,0,0,⟨#[]⟩,none,0,0⟩⟩,⟨rb,67,[.string s,nV (sk s y1+1),iV (-1)]⟩] [];replace y:=y.trans bt;replace hr1:=wj hr1 (vT aM) U;refine lN (CG.region ⟨[rb],none⟩ 6 [] mixed kR u.g aw (fun _ hb=>by rw[n1.1 hb];exact aI (u.jk 2)) ?_);refine eV 0 97 (qP S 6) (eO 1 98 [(0,6,1)] (qS ((⟨(ag (s.extract a k)),0,false,none,0,0,none,0,0,⟨#[]⟩,sB z,1,1⟩:RTm).A) ((⟨(ag (s.extract a k)),0,false,none,0,0,none,0,0,⟨#[]⟩,sB z,1,1⟩:RTm).m) ((⟨(ag (s.extract a k)),0,false,none,0,0,none,0,0,⟨#[]⟩,sB z,1,1⟩:RTm).c)) u ?_ (hM:=fun p hp=>by obtain rfl:=n1.1 hp;exact fun hm=>cB u.st (i:=0) (j:=2) kR kR kR (n1.1 hm)));refine eV 2 99 (pB rb) ?_
     rcases cJ hr1 with ⟨be,he,H⟩|⟨t2,y2,hq2,hr2⟩
     .
      refine jf 3 100 u y (n1.2 rfl) (n1.2 rfl) (fun _ _ u=>ihs m1 oM rb s D (sk s y1+1) oM (.err be) he _ _ u.g (u.own 2) (u.jk 2) u.f.r.1) ?_;rintro _ _ _ _ _ u ht y ⟨bq,rfl,cr⟩;replace u:=(u.stepM 2 ht cr).to [⟨S,47,ax (⟨(ag (s.extract a k)),0,false,none,0,0,none,0,0,⟨#[]⟩,sB z,1,1⟩:RTm)⟩,⟨I,47,ax ⟨0,0,false,none,0,0,none,0,0,⟨#[]⟩,none,0,0⟩⟩,⟨rb,67,[.string s,nV s.size,nV be]⟩] [];refine Hm 4 101 47 1 (ax bq) u y (fun zL _ _ y u=>Ht 5 102 47 7 ax bZ (sB z) (sB zL) [O] [bq] 1 112 (aY ⟨0,0,false,none,0,0,none,0,0,⟨#[]⟩,none,0,0⟩) u y (fun _ X=>X.2.1) (fun _ X=>SlO.of_flat (sz:=7) (f:=ax) (d:=bZ) (b:=zL) (o:=0) (l:=[bq]) (fun _=>rfl) X.1) (JJ _) (JJ _) (fun _ _=>by kernel_rfl) (fun zj ze _ _ zB y u=>?_));replace zB:2<=ze:=zB;refine bL u (fun _ _ h8 u=>?_);replace y:=y.trans (h8.m _);refine tV 6 103 (qP S 6) (kj 7 0 6 ([qS zj 2 ze]) u (fun _ F u=>?_));replace y:=y.put2 F C g u.g;refine tN (bG [(0,pB rb),(4,pB I),(8,pB S)] ?_);refine aa u ac (bj 105 (f6 rb s D be 41 _ _ u.g (u.own 2) (u.jk 2) u.f.q.1) ?_);rintro _ _ _ d1 ⟨rfl,cx⟩;replace u:=(u.stepM 2 d1 cx).to [⟨S,47,ax ⟨(⟨(ag (s.extract a k)),0,false,none,0,0,none,0,0,⟨#[]⟩,sB z,1,1⟩:RTm).op,(⟨(ag (s.extract a k)),0,false,none,0,0,none,0,0,⟨#[]⟩,sB z,1,1⟩:RTm).n,(⟨(ag (s.extract a k)),0,false,none,0,0,none,0,0,⟨#[]⟩,sB z,1,1⟩:RTm).neg,(⟨(ag (s.extract a k)),0,false,none,0,0,none,0,0,⟨#[]⟩,sB z,1,1⟩:RTm).zA,(⟨(ag (s.extract a k)),0,false,none,0,0,none,0,0,⟨#[]⟩,sB z,1,1⟩:RTm).zn,(⟨(ag (s.extract a k)),0,false,none,0,0,none,0,0,⟨#[]⟩,sB z,1,1⟩:RTm).zc,(⟨(ag (s.extract a k)),0,false,none,0,0,none,0,0,⟨#[]⟩,sB z,1,1⟩:RTm).dA,(⟨(ag (s.extract a k)),0,false,none,0,0,none,0,0,⟨#[]⟩,sB z,1,1⟩:RTm).dn,(⟨(ag (s.extract a k)),0,false,none,0,0,none,0,0,⟨#[]⟩,sB z,1,1⟩:RTm).dc,(⟨(ag (s.extract a k)),0,false,none,0,0,none,0,0,⟨#[]⟩,sB z,1,1⟩:RTm).s,zj,2,ze⟩⟩,⟨I,47,ax ⟨0,0,false,none,0,0,none,0,0,⟨#[]⟩,none,0,0⟩⟩,⟨rb,67,[.string s,nV s.size,nV be]⟩] [];replace y:=y.trans d1;refine aE (lL u [.o (aY ⟨(⟨(ag (s.extract a k)),0,false,none,0,0,none,0,0,⟨#[]⟩,sB z,1,1⟩:RTm).op,(⟨(ag (s.extract a k)),0,false,none,0,0,none,0,0,⟨#[]⟩,sB z,1,1⟩:RTm).n,(⟨(ag (s.extract a k)),0,false,none,0,0,none,0,0,⟨#[]⟩,sB z,1,1⟩:RTm).neg,(⟨(ag (s.extract a k)),0,false,none,0,0,none,0,0,⟨#[]⟩,sB z,1,1⟩:RTm).zA,(⟨(ag (s.extract a k)),0,false,none,0,0,none,0,0,⟨#[]⟩,sB z,1,1⟩:RTm).zn,(⟨(ag (s.extract a k)),0,false,none,0,0,none,0,0,⟨#[]⟩,sB z,1,1⟩:RTm).zc,(⟨(ag (s.extract a k)),0,false,none,0,0,none,0,0,⟨#[]⟩,sB z,1,1⟩:RTm).dA,(⟨(ag (s.extract a k)),0,false,none,0,0,none,0,0,⟨#[]⟩,sB z,1,1⟩:RTm).dn,(⟨(ag (s.extract a k)),0,false,none,0,0,none,0,0,⟨#[]⟩,sB z,1,1⟩:RTm).dc,(⟨(ag (s.extract a k)),0,false,none,0,0,none,0,0,⟨#[]⟩,sB z,1,1⟩:RTm).s,zj,2,ze⟩) 0 0 7] (ce 1 0 (ax ⟨(⟨(ag (s.extract a k)),0,false,none,0,0,none,0,0,⟨#[]⟩,sB z,1,1⟩:RTm).op,(⟨(ag (s.extract a k)),0,false,none,0,0,none,0,0,⟨#[]⟩,sB z,1,1⟩:RTm).n,(⟨(ag (s.extract a k)),0,false,none,0,0,none,0,0,⟨#[]⟩,sB z,1,1⟩:RTm).neg,(⟨(ag (s.extract a k)),0,false,none,0,0,none,0,0,⟨#[]⟩,sB z,1,1⟩:RTm).zA,(⟨(ag (s.extract a k)),0,false,none,0,0,none,0,0,⟨#[]⟩,sB z,1,1⟩:RTm).zn,(⟨(ag (s.extract a k)),0,false,none,0,0,none,0,0,⟨#[]⟩,sB z,1,1⟩:RTm).zc,(⟨(ag (s.extract a k)),0,false,none,0,0,none,0,0,⟨#[]⟩,sB z,1,1⟩:RTm).dA,(⟨(ag (s.extract a k)),0,false,none,0,0,none,0,0,⟨#[]⟩,sB z,1,1⟩:RTm).dn,(⟨(ag (s.extract a k)),0,false,none,0,0,none,0,0,⟨#[]⟩,sB z,1,1⟩:RTm).dc,(⟨(ag (s.extract a k)),0,false,none,0,0,none,0,0,⟨#[]⟩,sB z,1,1⟩:RTm).s,zj,2,ze⟩) u (fun _ F u=>?_)));replace y:=y.put2 F B g u.g;exact lN (kX (u.retM y [(1,0,7)] (aY ⟨(⟨(ag (s.extract a k)),0,false,none,0,0,none,0,0,⟨#[]⟩,sB z,1,1⟩:RTm).op,(⟨(ag (s.extract a k)),0,false,none,0,0,none,0,0,⟨#[]⟩,sB z,1,1⟩:RTm).n,(⟨(ag (s.extract a k)),0,false,none,0,0,none,0,0,⟨#[]⟩,sB z,1,1⟩:RTm).neg,(⟨(ag (s.extract a k)),0,false,none,0,0,none,0,0,⟨#[]⟩,sB z,1,1⟩:RTm).zA,(⟨(ag (s.extract a k)),0,false,none,0,0,none,0,0,⟨#[]⟩,sB z,1,1⟩:RTm).zn,(⟨(ag (s.extract a k)),0,false,none,0,0,none,0,0,⟨#[]⟩,sB z,1,1⟩:RTm).zc,(⟨(ag (s.extract a k)),0,false,none,0,0,none,0,0,⟨#[]⟩,sB z,1,1⟩:RTm).dA,(⟨(ag (s.extract a k)),0,false,none,0,0,none,0,0,⟨#[]⟩,sB z,1,1⟩:RTm).dn,(⟨(ag (s.extract a k)),0,false,none,0,0,none,0,0,⟨#[]⟩,sB z,1,1⟩:RTm).dc,(⟨(ag (s.extract a k)),0,false,none,0,0,none,0,0,⟨#[]⟩,sB z,1,1⟩:RTm).s,zj,2,ze⟩) ((by rw[H];exact ⟨⟨ag (s.extract a k),0,false,none,0,0,none,0,0,⟨#[]⟩,zj,2,ze⟩,rfl,u.own 2⟩))))
     refine jf 3 100 u y (n1.2 rfl) (n1.2 rfl) (fun _ _ u=>ihs m1 oM rb s D (sk s y1+1) oM (.ok t2 y2) hq2 _ _ u.g (u.own 2) (u.jk 2) u.f.r.1) ?_;rintro _ _ _ _ _ u hk y ⟨W,rfl,kt,b6,b9⟩;replace u:=(u.stepM 2 hk b6).to [⟨S,47,ax (⟨(ag (s.extract a k)),0,false,none,0,0,none,0,0,⟨#[]⟩,sB z,1,1⟩:RTm)⟩,⟨I,47,ax ⟨0,0,false,none,0,0,none,0,0,⟨#[]⟩,none,0,0⟩⟩,⟨rb,67,[.string s,nV y2,iV (-1)]⟩] [];replace u:=(u.add (K:=fun M=>RtH M W t2) b9);refine Hm 4 101 47 1 (ax W) u y (fun zM _ _ y u=>Ht 5 102 47 7 ax bZ (sB z) (sB zM) [O] [W] 1 112 (aY ⟨0,0,false,none,0,0,none,0,0,⟨#[]⟩,none,0,0⟩) u y (fun _ X=>X.2.2.1) (fun _ X=>SlO.of_flat (sz:=7) (f:=ax) (d:=bZ) (b:=zM) (o:=0) (l:=[W]) (fun _=>rfl) X.1) (JJ _) (JJ _) (fun _ _=>by kernel_rfl) (fun zd zb _ _ zw y u=>?_));replace zw:2<=zb:=zw;refine bL u (fun _ _ hx u=>?_);replace y:=y.trans (hx.m _);refine tV 6 103 (qP S 6) (kj 7 0 6 ([qS zd 2 zb]) u (fun _ F u=>?_));replace y:=y.put2 F C g u.g;refine tN (bG [(0,pB rb),(4,pB I),(8,pB S)] ?_);refine aa u ac ?_;have hq:=bB (s:=s) (a:=y2) oM;refine bj 105 (pY rb s D y2 oM 41 kD _ _ u.g (u.own 2) (u.jk 2) u.f.q.2.1) ?_;rintro _ _ _ bw (⟨rfl,V,k1,Q⟩|⟨rfl,V,Q⟩)
     .
      replace u:=(u.stepM 2 bw Q).to [⟨S,47,ax ⟨(⟨(ag (s.extract a k)),0,false,none,0,0,none,0,0,⟨#[]⟩,sB z,1,1⟩:RTm).op,(⟨(ag (s.extract a k)),0,false,none,0,0,none,0,0,⟨#[]⟩,sB z,1,1⟩:RTm).n,(⟨(ag (s.extract a k)),0,false,none,0,0,none,0,0,⟨#[]⟩,sB z,1,1⟩:RTm).neg,(⟨(ag (s.extract a k)),0,false,none,0,0,none,0,0,⟨#[]⟩,sB z,1,1⟩:RTm).zA,(⟨(ag (s.extract a k)),0,false,none,0,0,none,0,0,⟨#[]⟩,sB z,1,1⟩:RTm).zn,(⟨(ag (s.extract a k)),0,false,none,0,0,none,0,0,⟨#[]⟩,sB z,1,1⟩:RTm).zc,(⟨(ag (s.extract a k)),0,false,none,0,0,none,0,0,⟨#[]⟩,sB z,1,1⟩:RTm).dA,(⟨(ag (s.extract a k)),0,false,none,0,0,none,0,0,⟨#[]⟩,sB z,1,1⟩:RTm).dn,(⟨(ag (s.extract a k)),0,false,none,0,0,none,0,0,⟨#[]⟩,sB z,1,1⟩:RTm).dc,(⟨(ag (s.extract a k)),0,false,none,0,0,none,0,0,⟨#[]⟩,sB z,1,1⟩:RTm).s,zd,2,zb⟩⟩,⟨I,47,ax ⟨0,0,false,none,0,0,none,0,0,⟨#[]⟩,none,0,0⟩⟩,⟨rb,67,[.string s,nV (sk s y2+1),iV (-1)]⟩] [];replace y:=y.trans bw;have H:=Bq hr2 V;refine aE (lL u [.o (aY ⟨(⟨(ag (s.extract a k)),0,false,none,0,0,none,0,0,⟨#[]⟩,sB z,1,1⟩:RTm).op,(⟨(ag (s.extract a k)),0,false,none,0,0,none,0,0,⟨#[]⟩,sB z,1,1⟩:RTm).n,(⟨(ag (s.extract a k)),0,false,none,0,0,none,0,0,⟨#[]⟩,sB z,1,1⟩:RTm).neg,(⟨(ag (s.extract a k)),0,false,none,0,0,none,0,0,⟨#[]⟩,sB z,1,1⟩:RTm).zA,(⟨(ag (s.extract a k)),0,false,none,0,0,none,0,0,⟨#[]⟩,sB z,1,1⟩:RTm).zn,(⟨(ag (s.extract a k)),0,false,none,0,0,none,0,0,⟨#[]⟩,sB z,1,1⟩:RTm).zc,(⟨(ag (s.extract a k)),0,false,none,0,0,none,0,0,⟨#[]⟩,sB z,1,1⟩:RTm).dA,(⟨(ag (s.extract a k)),0,false,none,0,0,none,0,0,⟨#[]⟩,sB z,1,1⟩:RTm).dn,(⟨(ag (s.extract a k)),0,false,none,0,0,none,0,0,⟨#[]⟩,sB z,1,1⟩:RTm).dc,(⟨(ag (s.extract a k)),0,false,none,0,0,none,0,0,⟨#[]⟩,sB z,1,1⟩:RTm).s,zd,2,zb⟩) 0 0 7] (ce 1 0 (ax ⟨(⟨(ag (s.extract a k)),0,false,none,0,0,none,0,0,⟨#[]⟩,sB z,1,1⟩:RTm).op,(⟨(ag (s.extract a k)),0,false,none,0,0,none,0,0,⟨#[]⟩,sB z,1,1⟩:RTm).n,(⟨(ag (s.extract a k)),0,false,none,0,0,none,0,0,⟨#[]⟩,sB z,1,1⟩:RTm).neg,(⟨(ag (s.extract a k)),0,false,none,0,0,none,0,0,⟨#[]⟩,sB z,1,1⟩:RTm).zA,(⟨(ag (s.extract a k)),0,false,none,0,0,none,0,0,⟨#[]⟩,sB z,1,1⟩:RTm).zn,(⟨(ag (s.extract a k)),0,false,none,0,0,none,0,0,⟨#[]⟩,sB z,1,1⟩:RTm).zc,(⟨(ag (s.extract a k)),0,false,none,0,0,none,0,0,⟨#[]⟩,sB z,1,1⟩:RTm).dA,(⟨(ag (s.extract a k)),0,false,none,0,0,none,0,0,⟨#[]⟩,sB z,1,1⟩:RTm).dn,(⟨(ag (s.extract a k)),0,false,none,0,0,none,0,0,⟨#[]⟩,sB z,1,1⟩:RTm).dc,(⟨(ag (s.extract a k)),0,false,none,0,0,none,0,0,⟨#[]⟩,sB z,1,1⟩:RTm).s,zd,2,zb⟩) u (fun _ F u=>?_)));replace y:=y.put2 F B g u.g;exact lN (kX (u.retM y [(1,0,7)] (aY ⟨(⟨(ag (s.extract a k)),0,false,none,0,0,none,0,0,⟨#[]⟩,sB z,1,1⟩:RTm).op,(⟨(ag (s.extract a k)),0,false,none,0,0,none,0,0,⟨#[]⟩,sB z,1,1⟩:RTm).n,(⟨(ag (s.extract a k)),0,false,none,0,0,none,0,0,⟨#[]⟩,sB z,1,1⟩:RTm).neg,(⟨(ag (s.extract a k)),0,false,none,0,0,none,0,0,⟨#[]⟩,sB z,1,1⟩:RTm).zA,(⟨(ag (s.extract a k)),0,false,none,0,0,none,0,0,⟨#[]⟩,sB z,1,1⟩:RTm).zn,(⟨(ag (s.extract a k)),0,false,none,0,0,none,0,0,⟨#[]⟩,sB z,1,1⟩:RTm).zc,(⟨(ag (s.extract a k)),0,false,none,0,0,none,0,0,⟨#[]⟩,sB z,1,1⟩:RTm).dA,(⟨(ag (s.extract a k)),0,false,none,0,0,none,0,0,⟨#[]⟩,sB z,1,1⟩:RTm).dn,(⟨(ag (s.extract a k)),0,false,none,0,0,none,0,0,⟨#[]⟩,sB z,1,1⟩:RTm).dc,(⟨(ag (s.extract a k)),0,false,none,0,0,none,0,0,⟨#[]⟩,sB z,1,1⟩:RTm).s,zd,2,zb⟩) ((by rw[H];exact ⟨⟨ag (s.extract a k),0,false,none,0,0,none,0,0,⟨#[]⟩,zd,2,zb⟩,rfl,by omega,u.own 2,RtH.two2 u.f.q.1 u.f.r.1 zw u.f.1⟩))))
     replace u:=(u.stepM 2 bw Q).to [⟨S,47,ax ⟨(⟨(ag (s.extract a k)),0,false,none,0,0,none,0,0,⟨#[]⟩,sB z,1,1⟩:RTm).op,(⟨(ag (s.extract a k)),0,false,none,0,0,none,0,0,⟨#[]⟩,sB z,1,1⟩:RTm).n,(⟨(ag (s.extract a k)),0,false,none,0,0,none,0,0,⟨#[]⟩,sB z,1,1⟩:RTm).neg,(⟨(ag (s.extract a k)),0,false,none,0,0,none,0,0,⟨#[]⟩,sB z,1,1⟩:RTm).zA,(⟨(ag (s.extract a k)),0,false,none,0,0,none,0,0,⟨#[]⟩,sB z,1,1⟩:RTm).zn,(⟨(ag (s.extract a k)),0,false,none,0,0,none,0,0,⟨#[]⟩,sB z,1,1⟩:RTm).zc,(⟨(ag (s.extract a k)),0,false,none,0,0,none,0,0,⟨#[]⟩,sB z,1,1⟩:RTm).dA,(⟨(ag (s.extract a k)),0,false,none,0,0,none,0,0,⟨#[]⟩,sB z,1,1⟩:RTm).dn,(⟨(ag (s.extract a k)),0,false,none,0,0,none,0,0,⟨#[]⟩,sB z,1,1⟩:RTm).dc,(⟨(ag (s.extract a k)),0,false,none,0,0,none,0,0,⟨#[]⟩,sB z,1,1⟩:RTm).s,zd,2,zb⟩⟩,⟨I,47,ax ⟨0,0,false,none,0,0,none,0,0,⟨#[]⟩,none,0,0⟩⟩,⟨rb,67,[.string s,nV s.size,nV (sk s y2)]⟩] [];replace y:=y.trans bw;have H:=BJ hr2 V;refine aE (lL u [.o (aY ⟨(⟨(ag (s.extract a k)),0,false,none,0,0,none,0,0,⟨#[]⟩,sB z,1,1⟩:RTm).op,(⟨(ag (s.extract a k)),0,false,none,0,0,none,0,0,⟨#[]⟩,sB z,1,1⟩:RTm).n,(⟨(ag (s.extract a k)),0,false,none,0,0,none,0,0,⟨#[]⟩,sB z,1,1⟩:RTm).neg,(⟨(ag (s.extract a k)),0,false,none,0,0,none,0,0,⟨#[]⟩,sB z,1,1⟩:RTm).zA,(⟨(ag (s.extract a k)),0,false,none,0,0,none,0,0,⟨#[]⟩,sB z,1,1⟩:RTm).zn,(⟨(ag (s.extract a k)),0,false,none,0,0,none,0,0,⟨#[]⟩,sB z,1,1⟩:RTm).zc,(⟨(ag (s.extract a k)),0,false,none,0,0,none,0,0,⟨#[]⟩,sB z,1,1⟩:RTm).dA,(⟨(ag (s.extract a k)),0,false,none,0,0,none,0,0,⟨#[]⟩,sB z,1,1⟩:RTm).dn,(⟨(ag (s.extract a k)),0,false,none,0,0,none,0,0,⟨#[]⟩,sB z,1,1⟩:RTm).dc,(⟨(ag (s.extract a k)),0,false,none,0,0,none,0,0,⟨#[]⟩,sB z,1,1⟩:RTm).s,zd,2,zb⟩) 0 0 7] (ce 1 0 (ax ⟨(⟨(ag (s.extract a k)),0,false,none,0,0,none,0,0,⟨#[]⟩,sB z,1,1⟩:RTm).op,(⟨(ag (s.extract a k)),0,false,none,0,0,none,0,0,⟨#[]⟩,sB z,1,1⟩:RTm).n,(⟨(ag (s.extract a k)),0,false,none,0,0,none,0,0,⟨#[]⟩,sB z,1,1⟩:RTm).neg,(⟨(ag (s.extract a k)),0,false,none,0,0,none,0,0,⟨#[]⟩,sB z,1,1⟩:RTm).zA,(⟨(ag (s.extract a k)),0,false,none,0,0,none,0,0,⟨#[]⟩,sB z,1,1⟩:RTm).zn,(⟨(ag (s.extract a k)),0,false,none,0,0,none,0,0,⟨#[]⟩,sB z,1,1⟩:RTm).zc,(⟨(ag (s.extract a k)),0,false,none,0,0,none,0,0,⟨#[]⟩,sB z,1,1⟩:RTm).dA,(⟨(ag (s.extract a k)),0,false,none,0,0,none,0,0,⟨#[]⟩,sB z,1,1⟩:RTm).dn,(⟨(ag (s.extract a k)),0,false,none,0,0,none,0,0,⟨#[]⟩,sB z,1,1⟩:RTm).dc,(⟨(ag (s.extract a k)),0,false,none,0,0,none,0,0,⟨#[]⟩,sB z,1,1⟩:RTm).s,zd,2,zb⟩) u (fun _ F u=>?_)));replace y:=y.put2 F B g u.g;exact lN (kX (u.retM y [(1,0,7)] (aY ⟨(⟨(ag (s.extract a k)),0,false,none,0,0,none,0,0,⟨#[]⟩,sB z,1,1⟩:RTm).op,(⟨(ag (s.extract a k)),0,false,none,0,0,none,0,0,⟨#[]⟩,sB z,1,1⟩:RTm).n,(⟨(ag (s.extract a k)),0,false,none,0,0,none,0,0,⟨#[]⟩,sB z,1,1⟩:RTm).neg,(⟨(ag (s.extract a k)),0,false,none,0,0,none,0,0,⟨#[]⟩,sB z,1,1⟩:RTm).zA,(⟨(ag (s.extract a k)),0,false,none,0,0,none,0,0,⟨#[]⟩,sB z,1,1⟩:RTm).zn,(⟨(ag (s.extract a k)),0,false,none,0,0,none,0,0,⟨#[]⟩,sB z,1,1⟩:RTm).zc,(⟨(ag (s.extract a k)),0,false,none,0,0,none,0,0,⟨#[]⟩,sB z,1,1⟩:RTm).dA,(⟨(ag (s.extract a k)),0,false,none,0,0,none,0,0,⟨#[]⟩,sB z,1,1⟩:RTm).dn,(⟨(ag (s.extract a k)),0,false,none,0,0,none,0,0,⟨#[]⟩,sB z,1,1⟩:RTm).dc,(⟨(ag (s.extract a k)),0,false,none,0,0,none,0,0,⟨#[]⟩,sB z,1,1⟩:RTm).s,zd,2,zb⟩) ((by rw[H];exact ⟨⟨ag (s.extract a k),0,false,none,0,0,none,0,0,⟨#[]⟩,zd,2,zb⟩,rfl,u.own 2⟩))))
    replace u:=(u.stepM 2 bt Z).to [⟨S,47,ax (⟨(ag (s.extract a k)),0,false,none,0,0,none,0,0,⟨#[]⟩,sB z,1,1⟩:RTm)⟩,⟨I,47,ax ⟨0,0,false,none,0,0,none,0,0,⟨#[]⟩,none,0,0⟩⟩,⟨rb,67,[.string s,nV s.size,nV (sk s y1)]⟩] [];replace y:=y.trans bt;have H:=vV hr1 (vT aM) U;refine lN (CG.region ⟨[rb],none⟩ 6 [] mixed kR u.g aw (fun _ hb=>by rw[n1.1 hb];exact aI (u.jk 2)) ?_);refine eV 0 97 (qP S 6) (eO 1 98 [(0,6,1)] (qS ((⟨(ag (s.extract a k)),0,false,none,0,0,none,0,0,⟨#[]⟩,sB z,1,1⟩:RTm).A) ((⟨(ag (s.extract a k)),0,false,none,0,0,none,0,0,⟨#[]⟩,sB z,1,1⟩:RTm).m) ((⟨(ag (s.extract a k)),0,false,none,0,0,none,0,0,⟨#[]⟩,sB z,1,1⟩:RTm).c)) u ?_ (hM:=fun p hp=>by obtain rfl:=n1.1 hp;exact fun hm=>cB u.st (i:=0) (j:=2) kR kR kR (n1.1 hm)));refine eV 2 99 (pB rb) (jf 3 100 u y (n1.2 rfl) (n1.2 rfl) (fun _ _ u=>nx rb s D (sk s y1) _ _ u.g (u.own 2) (u.jk 2) u.f.r.1) ?_);rintro _ _ _ _ _ u h5 y ⟨bm,rfl,b3⟩;replace u:=(u.stepM 2 h5 b3).to [⟨S,47,ax (⟨(ag (s.extract a k)),0,false,none,0,0,none,0,0,⟨#[]⟩,sB z,1,1⟩:RTm)⟩,⟨I,47,ax ⟨0,0,false,none,0,0,none,0,0,⟨#[]⟩,none,0,0⟩⟩,⟨rb,67,[.string s,nV s.size,nV (sk s y1)]⟩] [];refine Hm 4 101 47 1 (ax bm) u y (fun zN _ _ y u=>Ht 5 102 47 7 ax bZ (sB z) (sB zN) [O] [bm] 1 112 (aY ⟨0,0,false,none,0,0,none,0,0,⟨#[]⟩,none,0,0⟩) u y (fun _ X=>X.2.1) (fun _ X=>SlO.of_flat (sz:=7) (f:=ax) (d:=bZ) (b:=zN) (o:=0) (l:=[bm]) (fun _=>rfl) X.1) (JJ _) (JJ _) (fun _ _=>by kernel_rfl) (fun zk zf _ _ zD y u=>?_));replace zD:2<=zf:=zD;refine bL u (fun _ _ h4 u=>?_);replace y:=y.trans (h4.m _);refine tV 6 103 (qP S 6) (kj 7 0 6 ([qS zk 2 zf]) u (fun _ F u=>?_));replace y:=y.put2 F C g u.g;refine tN (bG [(0,pB rb),(4,pB I),(8,pB S)] ?_);refine aa u ac (bj 105 (f6 rb s D (sk s y1) 41 _ _ u.g (u.own 2) (u.jk 2) u.f.q.1) ?_);rintro _ _ _ c7 ⟨rfl,cm⟩;replace u:=(u.stepM 2 c7 cm).to [⟨S,47,ax ⟨(⟨(ag (s.extract a k)),0,false,none,0,0,none,0,0,⟨#[]⟩,sB z,1,1⟩:RTm).op,(⟨(ag (s.extract a k)),0,false,none,0,0,none,0,0,⟨#[]⟩,sB z,1,1⟩:RTm).n,(⟨(ag (s.extract a k)),0,false,none,0,0,none,0,0,⟨#[]⟩,sB z,1,1⟩:RTm).neg,(⟨(ag (s.extract a k)),0,false,none,0,0,none,0,0,⟨#[]⟩,sB z,1,1⟩:RTm).zA,(⟨(ag (s.extract a k)),0,false,none,0,0,none,0,0,⟨#[]⟩,sB z,1,1⟩:RTm).zn,(⟨(ag (s.extract a k)),0,false,none,0,0,none,0,0,⟨#[]⟩,sB z,1,1⟩:RTm).zc,(⟨(ag (s.extract a k)),0,false,none,0,0,none,0,0,⟨#[]⟩,sB z,1,1⟩:RTm).dA,(⟨(ag (s.extract a k)),0,false,none,0,0,none,0,0,⟨#[]⟩,sB z,1,1⟩:RTm).dn,(⟨(ag (s.extract a k)),0,false,none,0,0,none,0,0,⟨#[]⟩,sB z,1,1⟩:RTm).dc,(⟨(ag (s.extract a k)),0,false,none,0,0,none,0,0,⟨#[]⟩,sB z,1,1⟩:RTm).s,zk,2,zf⟩⟩,⟨I,47,ax ⟨0,0,false,none,0,0,none,0,0,⟨#[]⟩,none,0,0⟩⟩,⟨rb,67,[.string s,nV s.size,nV (sk s y1)]⟩] [];replace y:=y.trans c7;refine aE (lL u [.o (aY ⟨(⟨(ag (s.extract a k)),0,false,none,0,0,none,0,0,⟨#[]⟩,sB z,1,1⟩:RTm).op,(⟨(ag (s.extract a k)),0,false,none,0,0,none,0,0,⟨#[]⟩,sB z,1,1⟩:RTm).n,(⟨(ag (s.extract a k)),0,false,none,0,0,none,0,0,⟨#[]⟩,sB z,1,1⟩:RTm).neg,(⟨(ag (s.extract a k)),0,false,none,0,0,none,0,0,⟨#[]⟩,sB z,1,1⟩:RTm).zA,(⟨(ag (s.extract a k)),0,false,none,0,0,none,0,0,⟨#[]⟩,sB z,1,1⟩:RTm).zn,(⟨(ag (s.extract a k)),0,false,none,0,0,none,0,0,⟨#[]⟩,sB z,1,1⟩:RTm).zc,(⟨(ag (s.extract a k)),0,false,none,0,0,none,0,0,⟨#[]⟩,sB z,1,1⟩:RTm).dA,(⟨(ag (s.extract a k)),0,false,none,0,0,none,0,0,⟨#[]⟩,sB z,1,1⟩:RTm).dn,(⟨(ag (s.extract a k)),0,false,none,0,0,none,0,0,⟨#[]⟩,sB z,1,1⟩:RTm).dc,(⟨(ag (s.extract a k)),0,false,none,0,0,none,0,0,⟨#[]⟩,sB z,1,1⟩:RTm).s,zk,2,zf⟩) 0 0 7] (ce 1 0 (ax ⟨(⟨(ag (s.extract a k)),0,false,none,0,0,none,0,0,⟨#[]⟩,sB z,1,1⟩:RTm).op,(⟨(ag (s.extract a k)),0,false,none,0,0,none,0,0,⟨#[]⟩,sB z,1,1⟩:RTm).n,(⟨(ag (s.extract a k)),0,false,none,0,0,none,0,0,⟨#[]⟩,sB z,1,1⟩:RTm).neg,(⟨(ag (s.extract a k)),0,false,none,0,0,none,0,0,⟨#[]⟩,sB z,1,1⟩:RTm).zA,(⟨(ag (s.extract a k)),0,false,none,0,0,none,0,0,⟨#[]⟩,sB z,1,1⟩:RTm).zn,(⟨(ag (s.extract a k)),0,false,none,0,0,none,0,0,⟨#[]⟩,sB z,1,1⟩:RTm).zc,(⟨(ag (s.extract a k)),0,false,none,0,0,none,0,0,⟨#[]⟩,sB z,1,1⟩:RTm).dA,(⟨(ag (s.extract a k)),0,false,none,0,0,none,0,0,⟨#[]⟩,sB z,1,1⟩:RTm).dn,(⟨(ag (s.extract a k)),0,false,none,0,0,none,0,0,⟨#[]⟩,sB z,1,1⟩:RTm).dc,(⟨(ag (s.extract a k)),0,false,none,0,0,none,0,0,⟨#[]⟩,sB z,1,1⟩:RTm).s,zk,2,zf⟩) u (fun _ F u=>?_)));replace y:=y.put2 F B g u.g;exact lN (kX (u.retM y [(1,0,7)] (aY ⟨(⟨(ag (s.extract a k)),0,false,none,0,0,none,0,0,⟨#[]⟩,sB z,1,1⟩:RTm).op,(⟨(ag (s.extract a k)),0,false,none,0,0,none,0,0,⟨#[]⟩,sB z,1,1⟩:RTm).n,(⟨(ag (s.extract a k)),0,false,none,0,0,none,0,0,⟨#[]⟩,sB z,1,1⟩:RTm).neg,(⟨(ag (s.extract a k)),0,false,none,0,0,none,0,0,⟨#[]⟩,sB z,1,1⟩:RTm).zA,(⟨(ag (s.extract a k)),0,false,none,0,0,none,0,0,⟨#[]⟩,sB z,1,1⟩:RTm).zn,(⟨(ag (s.extract a k)),0,false,none,0,0,none,0,0,⟨#[]⟩,sB z,1,1⟩:RTm).zc,(⟨(ag (s.extract a k)),0,false,none,0,0,none,0,0,⟨#[]⟩,sB z,1,1⟩:RTm).dA,(⟨(ag (s.extract a k)),0,false,none,0,0,none,0,0,⟨#[]⟩,sB z,1,1⟩:RTm).dn,(⟨(ag (s.extract a k)),0,false,none,0,0,none,0,0,⟨#[]⟩,sB z,1,1⟩:RTm).dc,(⟨(ag (s.extract a k)),0,false,none,0,0,none,0,0,⟨#[]⟩,sB z,1,1⟩:RTm).s,zk,2,zf⟩) ((by rw[H];exact ⟨⟨ag (s.extract a k),0,false,none,0,0,none,0,0,⟨#[]⟩,zk,2,zf⟩,rfl,u.own 2⟩))))
   replace u:=(u.stepM 1 u59 bl).to [⟨I,47,ax ⟨0,0,false,none,0,0,none,0,0,⟨#[]⟩,none,0,0⟩⟩,⟨rb,67,[.string s,nV s.size,nV (sk s k)]⟩] [];replace y:=y.trans u59;have H:=EX hr bd;refine aE (lL u aF (bj 91 (nx rb s D (sk s k) _ _ u.g (u.own 1) (u.jk 1) u.f.1) ?_));rintro _ _ _ c5 ⟨b2,rfl,cq⟩;replace u:=(u.stepM 1 c5 cq).to [⟨I,47,ax ⟨0,0,false,none,0,0,none,0,0,⟨#[]⟩,none,0,0⟩⟩,⟨rb,67,[.string s,nV s.size,nV (sk s k)]⟩] [];replace y:=y.trans c5;refine d7 92 (o5 (ag (s.extract a k)) b2 _ _ u.g) ?_;rintro _ _ _ df ⟨z,rfl,hbk⟩;replace y:=y.trans (df.m _);replace u:=u.step df;replace u:=u.aS hbk;refine fe 8 47 (ax ⟨0,0,false,none,0,0,none,0,0,⟨#[]⟩,none,0,0⟩) u (fun zg _ _ j1 J u=>?_);replace J:=ed y.gr.size J;replace y:=y.trans (j1.m _);refine ce 0 0 (ax (⟨(ag (s.extract a k)),0,false,none,0,0,none,0,0,⟨#[]⟩,sB z,1,1⟩:RTm)) u (fun _ F u=>?_);replace y:=y.put2 F J g u.g;refine ai (aa u ac ?_);cases zo:(((gH (s.extract a k)):Int) == (2:Int))
   .
    have zP:=ao zo;refine lB 94 zo (ah (cK (aa u ac (bj 105 (f6 rb s D (sk s k) 41 _ _ u.g (u.own 2) (u.jk 2) u.f.2.1) ?_))));rintro _ _ _ fm ⟨rfl,c4⟩;replace u:=(u.stepM 2 fm c4).to [⟨zg,47,ax (⟨(ag (s.extract a k)),0,false,none,0,0,none,0,0,⟨#[]⟩,sB z,1,1⟩:RTm)⟩,⟨I,47,ax ⟨0,0,false,none,0,0,none,0,0,⟨#[]⟩,none,0,0⟩⟩,⟨rb,67,[.string s,nV s.size,nV (sk s k)]⟩] [];replace y:=y.trans fm;refine aE (lL u [.o (aY (⟨(ag (s.extract a k)),0,false,none,0,0,none,0,0,⟨#[]⟩,sB z,1,1⟩:RTm)) 0 0 7] (ce 1 0 (ax (⟨(ag (s.extract a k)),0,false,none,0,0,none,0,0,⟨#[]⟩,sB z,1,1⟩:RTm)) u (fun _ F u=>?_)));replace y:=y.put2 F B g u.g;exact lN (kX (u.retM y [(1,0,7)] (aY (⟨(ag (s.extract a k)),0,false,none,0,0,none,0,0,⟨#[]⟩,sB z,1,1⟩:RTm)) ((by rw[H];exact ⟨⟨ag (s.extract a k),0,false,none,0,0,none,0,0,⟨#[]⟩,sB z,1,1⟩,rfl,u.own 2⟩))))
   have zP:=eq_of_beq zo;refine lB 94 zo (aj (aa u ac (bj 96 (f6 rb s D (sk s k) 44 _ _ u.g (u.own 2) (u.jk 2) u.f.2.1) ?_)));rintro _ _ _ dp ⟨rfl,c3⟩;replace u:=(u.stepM 2 dp c3).to [⟨zg,47,ax (⟨(ag (s.extract a k)),0,false,none,0,0,none,0,0,⟨#[]⟩,sB z,1,1⟩:RTm)⟩,⟨I,47,ax ⟨0,0,false,none,0,0,none,0,0,⟨#[]⟩,none,0,0⟩⟩,⟨rb,67,[.string s,nV s.size,nV (sk s k)]⟩] [];replace y:=y.trans dp;refine lN (CG.region ⟨[rb],none⟩ 6 [] mixed kR u.g aw (fun _ hb=>by rw[n1.1 hb];exact aI (u.jk 2)) ?_);refine eV 0 97 (qP zg 6) (eO 1 98 [(0,6,1)] (qS ((⟨(ag (s.extract a k)),0,false,none,0,0,none,0,0,⟨#[]⟩,sB z,1,1⟩:RTm).A) ((⟨(ag (s.extract a k)),0,false,none,0,0,none,0,0,⟨#[]⟩,sB z,1,1⟩:RTm).m) ((⟨(ag (s.extract a k)),0,false,none,0,0,none,0,0,⟨#[]⟩,sB z,1,1⟩:RTm).c)) u ?_ (hM:=fun p hp=>by obtain rfl:=n1.1 hp;exact fun hm=>cB u.st (i:=0) (j:=2) kR kR kR (n1.1 hm)));refine eV 2 99 (pB rb) (jf 3 100 u y (n1.2 rfl) (n1.2 rfl) (fun _ _ u=>nx rb s D (sk s k) _ _ u.g (u.own 2) (u.jk 2) u.f.2.1) ?_);rintro _ _ _ _ _ u h9 y ⟨bp,rfl,b7⟩;replace u:=(u.stepM 2 h9 b7).to [⟨zg,47,ax (⟨(ag (s.extract a k)),0,false,none,0,0,none,0,0,⟨#[]⟩,sB z,1,1⟩:RTm)⟩,⟨I,47,ax ⟨0,0,false,none,0,0,none,0,0,⟨#[]⟩,none,0,0⟩⟩,⟨rb,67,[.string s,nV s.size,nV (sk s k)]⟩] [];refine Hm 4 101 47 1 (ax bp) u y (fun zQ _ _ y u=>Ht 5 102 47 7 ax bZ (sB z) (sB zQ) [b2] [bp] 1 112 (aY ⟨0,0,false,none,0,0,none,0,0,⟨#[]⟩,none,0,0⟩) u y (fun _ X=>X.2.1) (fun _ X=>SlO.of_flat (sz:=7) (f:=ax) (d:=bZ) (b:=zQ) (o:=0) (l:=[bp]) (fun _=>rfl) X.1) (JJ _) (JJ _) (fun _ _=>by kernel_rfl) (fun zl zi _ _ zE y u=>?_));replace zE:2<=zi:=zE;refine bL u (fun _ _ hn u=>?_);replace y:=y.trans (hn.m _);refine tV 6 103 (qP zg 6) (kj 7 0 6 ([qS zl 2 zi]) u (fun _ F u=>?_));replace y:=y.put2 F J g u.g;refine tN (bG [(0,pB rb),(4,pB I),(8,pB zg)] ?_);refine aa u ac (bj 105 (f6 rb s D (sk s k) 41 _ _ u.g (u.own 2) (u.jk 2) u.f.r.2.1) ?_);rintro _ _ _ fz ⟨rfl,b5⟩;replace u:=(u.stepM 2 fz b5).to [⟨zg,47,ax ⟨(⟨(ag (s.extract a k)),0,false,none,0,0,none,0,0,⟨#[]⟩,sB z,1,1⟩:RTm).op,(⟨(ag (s.extract a k)),0,false,none,0,0,none,0,0,⟨#[]⟩,sB z,1,1⟩:RTm).n,(⟨(ag (s.extract a k)),0,false,none,0,0,none,0,0,⟨#[]⟩,sB z,1,1⟩:RTm).neg,(⟨(ag (s.extract a k)),0,false,none,0,0,none,0,0,⟨#[]⟩,sB z,1,1⟩:RTm).zA,(⟨(ag (s.extract a k)),0,false,none,0,0,none,0,0,⟨#[]⟩,sB z,1,1⟩:RTm).zn,(⟨(ag (s.extract a k)),0,false,none,0,0,none,0,0,⟨#[]⟩,sB z,1,1⟩:RTm).zc,(⟨(ag (s.extract a k)),0,false,none,0,0,none,0,0,⟨#[]⟩,sB z,1,1⟩:RTm).dA,(⟨(ag (s.extract a k)),0,false,none,0,0,none,0,0,⟨#[]⟩,sB z,1,1⟩:RTm).dn,(⟨(ag (s.extract a k)),0,false,none,0,0,none,0,0,⟨#[]⟩,sB z,1,1⟩:RTm).dc,(⟨(ag (s.extract a k)),0,false,none,0,0,none,0,0,⟨#[]⟩,sB z,1,1⟩:RTm).s,zl,2,zi⟩⟩,⟨I,47,ax ⟨0,0,false,none,0,0,none,0,0,⟨#[]⟩,none,0,0⟩⟩,⟨rb,67,[.string s,nV s.size,nV (sk s k)]⟩] [];replace y:=y.trans fz;refine aE (lL u [.o (aY ⟨(⟨(ag (s.extract a k)),0,false,none,0,0,none,0,0,⟨#[]⟩,sB z,1,1⟩:RTm).op,(⟨(ag (s.extract a k)),0,false,none,0,0,none,0,0,⟨#[]⟩,sB z,1,1⟩:RTm).n,(⟨(ag (s.extract a k)),0,false,none,0,0,none,0,0,⟨#[]⟩,sB z,1,1⟩:RTm).neg,(⟨(ag (s.extract a k)),0,false,none,0,0,none,0,0,⟨#[]⟩,sB z,1,1⟩:RTm).zA,(⟨(ag (s.extract a k)),0,false,none,0,0,none,0,0,⟨#[]⟩,sB z,1,1⟩:RTm).zn,(⟨(ag (s.extract a k)),0,false,none,0,0,none,0,0,⟨#[]⟩,sB z,1,1⟩:RTm).zc,(⟨(ag (s.extract a k)),0,false,none,0,0,none,0,0,⟨#[]⟩,sB z,1,1⟩:RTm).dA,(⟨(ag (s.extract a k)),0,false,none,0,0,none,0,0,⟨#[]⟩,sB z,1,1⟩:RTm).dn,(⟨(ag (s.extract a k)),0,false,none,0,0,none,0,0,⟨#[]⟩,sB z,1,1⟩:RTm).dc,(⟨(ag (s.extract a k)),0,false,none,0,0,none,0,0,⟨#[]⟩,sB z,1,1⟩:RTm).s,zl,2,zi⟩) 0 0 7] (ce 1 0 (ax ⟨(⟨(ag (s.extract a k)),0,false,none,0,0,none,0,0,⟨#[]⟩,sB z,1,1⟩:RTm).op,(⟨(ag (s.extract a k)),0,false,none,0,0,none,0,0,⟨#[]⟩,sB z,1,1⟩:RTm).n,(⟨(ag (s.extract a k)),0,false,none,0,0,none,0,0,⟨#[]⟩,sB z,1,1⟩:RTm).neg,(⟨(ag (s.extract a k)),0,false,none,0,0,none,0,0,⟨#[]⟩,sB z,1,1⟩:RTm).zA,(⟨(ag (s.extract a k)),0,false,none,0,0,none,0,0,⟨#[]⟩,sB z,1,1⟩:RTm).zn,(⟨(ag (s.extract a k)),0,false,none,0,0,none,0,0,⟨#[]⟩,sB z,1,1⟩:RTm).zc,(⟨(ag (s.extract a k)),0,false,none,0,0,none,0,0,⟨#[]⟩,sB z,1,1⟩:RTm).dA,(⟨(ag (s.extract a k)),0,false,none,0,0,none,0,0,⟨#[]⟩,sB z,1,1⟩:RTm).dn,(⟨(ag (s.extract a k)),0,false,none,0,0,none,0,0,⟨#[]⟩,sB z,1,1⟩:RTm).dc,(⟨(ag (s.extract a k)),0,false,none,0,0,none,0,0,⟨#[]⟩,sB z,1,1⟩:RTm).s,zl,2,zi⟩) u (fun _ F u=>?_)));replace y:=y.put2 F B g u.g;exact lN (kX (u.retM y [(1,0,7)] (aY ⟨(⟨(ag (s.extract a k)),0,false,none,0,0,none,0,0,⟨#[]⟩,sB z,1,1⟩:RTm).op,(⟨(ag (s.extract a k)),0,false,none,0,0,none,0,0,⟨#[]⟩,sB z,1,1⟩:RTm).n,(⟨(ag (s.extract a k)),0,false,none,0,0,none,0,0,⟨#[]⟩,sB z,1,1⟩:RTm).neg,(⟨(ag (s.extract a k)),0,false,none,0,0,none,0,0,⟨#[]⟩,sB z,1,1⟩:RTm).zA,(⟨(ag (s.extract a k)),0,false,none,0,0,none,0,0,⟨#[]⟩,sB z,1,1⟩:RTm).zn,(⟨(ag (s.extract a k)),0,false,none,0,0,none,0,0,⟨#[]⟩,sB z,1,1⟩:RTm).zc,(⟨(ag (s.extract a k)),0,false,none,0,0,none,0,0,⟨#[]⟩,sB z,1,1⟩:RTm).dA,(⟨(ag (s.extract a k)),0,false,none,0,0,none,0,0,⟨#[]⟩,sB z,1,1⟩:RTm).dn,(⟨(ag (s.extract a k)),0,false,none,0,0,none,0,0,⟨#[]⟩,sB z,1,1⟩:RTm).dc,(⟨(ag (s.extract a k)),0,false,none,0,0,none,0,0,⟨#[]⟩,sB z,1,1⟩:RTm).s,zl,2,zi⟩) ((by rw[H];exact ⟨⟨ag (s.extract a k),0,false,none,0,0,none,0,0,⟨#[]⟩,zl,2,zi⟩,rfl,u.own 2⟩))))
  have zW:=eq_of_beq zu;refine lB 78 zu (aj (cQ (aa u ac ?_)))
  rcases hnm:cD (s.extract a k) with _|_
  .
   refine d7 80 ((by have q_:=qU (s.extract a k) (by rw[ByteArray.size_extract];omega) _ _ u.g;rw[hnm] at q_;exact q_)) ?_;rintro _ _ _ d2 rfl;replace y:=y.trans (d2.m _);replace u:=u.step d2;refine lL u [.v qT] (aj (aa u aF (bj 84 (fd rb s D k oM a _ _ u.g (u.own 1) (u.jk 1) u.f.1) ?_)));rintro _ _ _ dk ⟨rfl,b4⟩;replace u:=(u.stepM 1 dk b4).to [⟨I,47,ax ⟨0,0,false,none,0,0,none,0,0,⟨#[]⟩,none,0,0⟩⟩,⟨rb,67,[.string s,nV s.size,nV a]⟩] [];replace y:=y.trans dk;refine ce 0 0 (ax (⟨0,0,false,none,0,0,none,0,0,⟨#[]⟩,none,0,0⟩:RTm)) u (fun _ F u=>?_);replace y:=y.put2 F B g u.g;exact lN (kX (u.retM y [(0,0,7)] (aY (⟨0,0,false,none,0,0,none,0,0,⟨#[]⟩,none,0,0⟩:RTm)) ((by rw[GT hk_ hr aM hnm];exact ⟨_,rfl,u.own 1⟩))))
  refine d7 80 ((by have q_:=qU (s.extract a k) (by rw[ByteArray.size_extract];omega) _ _ u.g;rw[hnm] at q_;exact q_)) ?_;rintro _ _ _ ds rfl;replace y:=y.trans (ds.m _);replace u:=u.step ds;refine lL u [.v qF] (ah (cK (aa u [.c,.v (aY ⟨2,0,false,none,0,0,none,0,0,s.extract a k,none,0,0⟩)] (ce 0 0 (ax ⟨2,0,false,none,0,0,none,0,0,s.extract a k,none,0,0⟩) u (fun _ F u=>?_)))));replace y:=y.put2 F B g u.g;exact lN (kX (u.retM y [(0,0,7)] (aY ⟨2,0,false,none,0,0,none,0,0,s.extract a k,none,0,0⟩) ((by rw[GA hk_ hr aM hnm];exact ⟨⟨2,0,false,none,0,0,none,0,0,_,none,0,0⟩,rfl,by omega,u.own 1,1,Cu⟩))))
 try rw[zt] at u
 try rw[zt]
 refine ci (cK (kZ (kQ (lL u [.c,.v (pB rb),.v (qP rb 1),.o (nV k) 1 1 1] (bg 59 ((k:Nat)+1) (k+1) ?_)))));refine lL u [.v (pB rb),.v (qP rb 1)] (ce 1 1 ([nV (k+1)]) u (fun GG F u=>?_));replace y:=y.put F (n1.2 rfl) u.g;refine lD ?_;have k5:=(zI aM).2;intro a_ ka;refine ⟨_,_,?_,⟨k+1,yg,rfl,rfl,u.to _ _,oM,oM,y,(fun i h1 h2=>by rcases Kl.1 h2 with M|rfl;exact hkb i h1 M;exact (zI aM).1)⟩,ka.to _ kR⟩
 omega
end
def FH (l:List UInt8):List Value:=l.map fun c=>.int .u8 (c.toNat:Int)
theorem rK {x:Nat}(h:x<10):FH [mZ x]=[.int .u8 ((48+x:Nat):Int)]:=by unfold FH;rw[un,uj h];rfl
section
variable {P:Program}{n:Nat}{N R:Po}{X:Nat->Po}{ops:Array Oper}{k:Nat}{Γ:ck}{w:World}{h:Hp}{w0:World}{h0:Hp}{B:List Bx}{Rs:List Rw}{F:List (Hp->Prop)}
theorem IH (t:Nat)(S T e:TypeId)(x:Operand){b o cap m:Nat}(l:List UInt8)(s:SS w0 h0 w h B Rs F)(c:Seg h b o (FH l))(d:m=l.length)(H:LG P n N R X ops (k+1) ((t,.string ⟨l.toArray⟩)::Γ) w)(p:ev Γ x=.slice (some ⟨b,o,none⟩) m cap:=by kernel_rfl)(f:P.underlying S=some (.slice e):=by kernel_rfl)(z:P.underlying e=some (.int .u8):=by kernel_rfl)(i:P.underlying T=some .string:=by kernel_rfl)
  (a:cL ops Γ k t n=true:=by kernel_rfl)(y:(av ops k).op=.convert S T x:=by kernel_rfl):LG P n N R X ops k Γ w :=
 LG.val t _ w (bS a).1 (bS a).2 (by
  subst d;have q:=run_convert_bytes_back (P:=P) w S T e ⟨b,o,none⟩ cap l f z i (fun j u=>by rw[Lib.add_plain];exact i6 s.g (c j _ (by unfold FH;rw[Jc,List.getElem?_eq_getElem u];rfl)))
  unfold execOp;simp only[y,p]
  simp[Sem.run_bind,q,Result.andThen]) H
end
theorem AQ (n:Nat)(a:n<100)(w:World)(h:Hp)(g:G w h):Calls Tryz.prog 150 #[nV n] w (Ret w h (fun v _=>v=.string ⟨(Lib.decDigits n).toArray⟩)):=Ret.of_same g (Tryz.internal_strconv_small n a w)
theorem DU (n:Nat)(a:n<100)(w:World)(h:Hp)(g:G w h):Calls Tryz.prog 63 #[nV n] w (Ret w h (fun v _=>v=.string ⟨(Lib.decDigits n).toArray⟩)):=Ret.of_same g (Tryz.strconv_Itoa_small n a w)
theorem Fe (z:Int)(n:Nat)(hz:z=(n:Nat))(a:n<100)(w:World)(h:Hp)(g:G w h):Calls Tryz.prog 63 #[iV z] w (Ret w h (fun v _=>v=.string ⟨(Lib.decDigits n).toArray⟩)):=by
 subst hz;exact DU n a w h g
theorem wc (n:Nat)(e:n<100)(w:World)(h:Hp)(g:G w h):CV 139 #[mV n,iV 10] w h (.string ⟨(Lib.decDigits n).toArray⟩):=by
 have a:=sS g;refine go Tryz.func139 [(0,mV n),(1,iV 10)] rfl (aa a ac (ai (aa a [.c,.v qT] (aj (cQ (aa a ac ?_))))));have ⟨b,d⟩:=dT (p:=(n:Int)<(100:Int)) oM;refine lB 12 b (aj (aa a ac (lV 14 (nV n) ?_ (hr:=rS ((n:Int)) kR (jV oM oM)))));exact aq 15 a (AQ n e _ _ a.g) (fun w2 f a=>lL a ac (af a [] (.string (⟨(Lib.decDigits n).toArray⟩)) rfl))
theorem Gl (n:Nat)(b:n<100)(w:World)(h:Hp)(g:G w h):CV 113 #[mV n,iV 10] w h (.string ⟨(Lib.decDigits n).toArray⟩):=by
 have a:=sS g;exact go Tryz.func113 [(0,mV n),(1,iV 10)] rfl (aa a ac (aE (lL a aF (aq 7 a (wc n b _ _ a.g) (fun w1 c a=>lL a ac (af a [] (.string (⟨(Lib.decDigits n).toArray⟩)) rfl))))))
theorem wy (z:Int)(n:Nat)(hz:z=(n:Nat))(a:n<100)(w:World)(h:Hp)(g:G w h):Calls Tryz.prog 113 #[uV z,iV 10] w (Ret w h (fun v _=>v=.string ⟨(Lib.decDigits n).toArray⟩)):=by
 subst hz;exact Gl n a w h g
theorem BU (n:Nat)(h0:0<n)(u:n<100)(w:World)(h:Hp)(g:G w h):CV 87 #[nv n] w h (.string ⟨(Lib.decDigits n).toArray⟩):=by
 have a:=sS g;have d:=gQ (show n<18446744073709551616 by omega);have f:=congrArg JC (iq h0 (show n<18446744073709551616 by omega))
 simp only[KC] at f
 refine go Tryz.func87 [(0,nv n)] rfl (aG (lA 1 26 (nc n) a (fun l w2 z a=>lL a ac (aE (lL a [.o (nv n) 0 0 2] (lC 10 a (fk n oM oM _ _ a.g) ?_))))));rintro _ B x a ⟨C,rfl,j,i,b⟩;replace a:=a.aS b;refine lL a ac (ai (aa a [.c,.v (nV ((wds n).length))] ?_));have ⟨e,k⟩:=dT (p:=(((wds n).length:Nat):Int)<=(1:Int)) oM;exact lB 13 e (aj (aa a [.v (pB l),.o (mV (n%18446744073709551616)) 0 0 1] (aq 16 a (wy _ n d u _ _ a.g) (fun D y a=>lL a ac (af a [] (.string (⟨(Lib.decDigits n).toArray⟩)) rfl)))))
theorem BK (n:Nat)(e:n<100)(b:(0:Int)=(n:Nat))(w:World)(h:Hp)(g:G w h):CV 87 #[nv 0] w h (.string ⟨(Lib.decDigits n).toArray⟩):=by
 have a:=sS g;exact go Tryz.func87 [(0,nv 0)] rfl (aG (lA 1 26 ([uV 0,eS]) a (fun d w2 i a=>lL a ac (aE (lL a [.o (.agg #[uV 0,eS]) 0 0 2] (aq 10 a (jj _ _ a.g) (fun k l a=>lL a ac (ai (aa a [.c,.v (iV 0),.v qT] (aj (aa a [.v (pB d),.o (uV 0) 0 0 1] (aq 16 a (wy _ n b e _ _ a.g) (fun j f a=>lL a ac (af a [] (.string (⟨(Lib.decDigits n).toArray⟩)) rfl))))))))))))))
theorem DP (n:Nat)(a:n<100)(w:World)(h:Hp)(g:G w h):Calls Tryz.prog 87 #[nv n] w (Ret w h (fun v _=>v=.string ⟨(Lib.decDigits n).toArray⟩)):=by
 rcases va n with rfl|h0
 ·exact BK 0 a rfl w h g
 ·exact BU n h0 a w h g
theorem E8 (n:Nat)(c:n<100)(w:World)(h:Hp)(g:G w h):CV 86 #[wX (.bool false) n] w h (.string ⟨(Lib.decDigits n).toArray⟩):=by
 have a:=sS g;exact go Tryz.func86 [(0,wX qF n)] rfl (aG (lA 1 28 (wC qF n) a (fun b w2 d a=>lL a ac (ai (aa a [.v (pB b),.o qF 0 0 1] (ah (cK (aa a [.v (qP b 1),.o (.agg #[uV (lo n),.string (hi n)]) 0 1 2] (aq 11 a (DP n c _ _ a.g) (fun e f a=>lL a ac (af a [] (.string (⟨(Lib.decDigits n).toArray⟩)) rfl)))))))))))
theorem DI (z:Int)(n:Nat)(hz:z=(n:Nat))(a:n<100)(w:World)(h:Hp)(g:G w h):Calls Tryz.prog 86 #[iv z] w (Ret w h (fun v _=>v=.string ⟨(Lib.decDigits n).toArray⟩)):=by
 subst hz;exact E8 n a w h g
theorem ED (n:Nat)(d:n<100)(w:World)(h:Hp)(g:G w h):CV 60 #[qv ((n:Nat):Rat)] w h (.string ⟨(Lib.decDigits n).toArray⟩):=by
 have a:=sS g;have e:LQ 100000000 ((n:Nat):Rat):=(by have b:=LQ.int (z:=(n:Int)) oM oM;exact (b.mono oM));exact go Tryz.func60 [(0,qv ((n:Nat):Rat))] rfl (aG (lA 1 30 (qc ((n:Nat):Rat)) a (fun c w2 f a=>lL a ac (ai (aa a [.o (qv ((n:Nat):Rat)) 0 0 5] (aq 4 a ((by have b:=gY ((n:Nat):Rat) e _ _ a.g;rw[decide_eq_true (Rat.den_natCast n)] at b;exact b)) (fun k l a=>aj (aa a [.v (pB c),.o (iv (((n:Nat):Rat).num)) 0 0 3] (aq 7 a (DI ((n:Nat):Rat).num n (KD n) d _ _ a.g) (fun j i a=>lL a ac (af a [] (.string (⟨(Lib.decDigits n).toArray⟩)) rfl)))))))))))
section
variable {M:Ms}{P:Program}{n:Nat}{N R:Po}{X:Nat->Po}{ops:Array Oper}{k k0:Nat}{hr:Hp}{AL:List Al}{L:Array Bool}{Γ:ck}{w:World}{h:Hp}{w0:World}{h0:Hp}{B:List Bx}{Rs:List Rw}{F:List (Hp->Prop)}
theorem tO (i t:Nat)(ps:List (Nat × Nat × Nat))(v:Value)(s:SS w0 h0 w h B Rs F)(H:AG M P n N R X ops k0 (L.setIfInBounds i true) ((t,v)::Γ) w)(a:cT n ops k0 L Γ i t=true:=by kernel_rfl)(b:bR B ps=true:=by kernel_rfl)(c:bP P (execOp (ev Γ) (av ops i)) (cg B ps)=some (.value v,bO B ps):=by kernel_rfl):AG M P n N R X ops k0 L Γ w :=
 T.val i t v w (oP a).1 (oP a).2 (bH _ _ _ _ c (bQ s.st.own ps b)) H
end
section
variable {T8 TB:TypeId}{K b:Nat}
def J8 (T8:TypeId)(K b:Nat)(h:Hp):Prop:=∀ c o,K<=c->h[c]?=some o->o=junk\/(c≠b/\∀ cs fz,o≠.cells cs T8 fz)
theorem qn {a:Nat}{ty:TypeId}{sz n:Nat}{v:Value}{cs:List Value}{w w':World}(o:w.ownsRowF a ty sz v n cs)(c:∀ b,v.ownBlock=some b->w'.heap[b]?=w.heap[b]?):w'.ownsRowF a ty sz v n cs:=by
 rcases o with ⟨h1,h2|⟨g,cap,cur,fz,hv,hb',hg,rest⟩⟩
 ·exact ⟨h1,.inl h2⟩
 ·exact ⟨h1,.inr ⟨g,cap,cur,fz,hv,hb',(c g (by rw[hv];rfl)).trans hg,rest⟩⟩
theorem jD {bs:List Value}{w w1:World}(h:Lib.IsBuilderF TB T8 K b bs w)(x:Ext w w1):Lib.IsBuilderF TB T8 K b bs w1:=by
 have key:∀ p,Lib.BuilderAtF TB T8 K b p bs w->Lib.BuilderAtF TB T8 K b p bs w1:=by
  intro p e;have a:=e.lt;obtain ⟨h1,v,j,d,f⟩:=e;exact ⟨h1,v,(Below.block x b a).trans j,qn d (fun c i=>Below.block x c (d.lt c i).2),f⟩
 rcases h with h|h
 ·exact .inl (key _ h)
 ·exact .inr (key _ h)
theorem BC {bs:List Value}{w:World}(h:Lib.IsBuilderF TB T8 K b bs w):K<=b/\b<w.heap.size:=by
 rcases h with h|h
 ·exact ⟨h.1,h.lt⟩
 ·exact ⟨h.1,h.lt⟩
theorem BN {w w':World}(x:Ext w w'):Lib.OthersKept T8 (some b) w w':=fun k o c _ _=>by
 have a:k<w.heap.size:=(Array.getElem?_eq_some_iff.1 c).1;exact (Below.block x k a).trans c
theorem tB {w w':World}(x:Ext w w')(a:K<=w.heap.size):Below K w w':=⟨x.os,x.tape,x.output,x.size,fun k b=>Below.block x k oM⟩
structure BSt (TB T8:TypeId) (K b:Nat) (wa:World) (l:List UInt8) (w:World) (h:Hp):Prop where
  hK:K<=w.heap.size
  j8:J8 T8 K b h
  ib:Lib.IsBuilderF TB T8 K b (Lib.byteCells l) w
  be:Below K wa w
  ok:Lib.OthersKept T8 (some b) wa w
def nJ (TB T8:TypeId)(K b:Nat)(V:Value)(l out:List UInt8)(w:World):Ending->World->Prop:=fun e w'=>e=.returned V/\(Lib.IsBuilderF TB T8 K b (Lib.byteCells (l++out)) w'/\Below K w w'/\Lib.OthersKept T8 (some b) w w')
def AllNe (T8:TypeId)(b:Nat):List Bx->Prop
  | []=>True
  | x::B=>(x.b≠b/\(x.t != T8)=true)/\AllNe T8 b B
theorem AllNe.mem {B:List Bx}(h:AllNe T8 b B):∀ x∈B,x.b≠b/\x.t≠T8:=by
  induction B with
  | nil=>intro x a;cases a
  | cons y B ih =>
    intro x a
    rcases gq.1 a with rfl|a
    . exact ⟨h.1.1,by simpa using h.1.2⟩
    . exact ih h.2 x a
variable {wz w w' wa:World}{hz h:Hp}{B:List Bx}{F:List (Hp->Prop)}{l:List UInt8}
theorem BSt.start (c:K<=w.heap.size)(j:J8 T8 K b h)(a:Lib.IsBuilderF TB T8 K b (Lib.byteCells l) w):BSt TB T8 K b w l w h:=⟨c,j,a,Below.refl _ _,Lib.OthersKept.refl _ _ _⟩
theorem BSt.ext (s:BSt TB T8 K b wa l w h)(x:Ext w w'){a:Hp}(j:J8 T8 K b a):BSt TB T8 K b wa l w' a:=⟨ed s.hK x.size,j,jD s.ib x,s.be.trans (tB x s.hK),s.ok.trans (BN x)⟩
theorem SS.atKb (g:G w h)(f:K<=w.heap.size):∃ w0 h0,SS w0 h0 w h [] [] []/\h0.size=K:=by
 have e:=g.size;refine ⟨{ w with heap:=w.heap.extract 0 K },h.extract 0 K,⟨⟨by simp;omega,fun c=>?_⟩,⟨⟨⟨rfl,rfl,rfl,by simp;omega,fun c d=>?_⟩,⟨by simp;omega,fun c d=>?_⟩,g⟩,fun _ a=>(by cases a),fun _ a=>(by cases a),fun _ a=>(by cases a),by simp⟩,fun _ a=>(by cases a),.nil,fun _ a=>(by cases a),trivial⟩,by simp;omega⟩
 ·show (h.extract 0 K)[c]?=(w.heap.extract 0 K)[c]?\/_
  rw[ez,ez]
  by_cases hb:c<K
  ·rw[if_pos oM,if_pos oM];simpa using g.blk c
  ·rw[if_neg oM,if_neg oM];exact .inl rfl
 ·have b:c<K:=by have:c<(w.heap.extract 0 K).size:=d;simp at this;omega
  show w.heap[c]?=(w.heap.extract 0 K)[c]?
  rw[ez,if_pos oM];simp
 ·have b:c<K:=by simp at d;omega
  rw[ez,if_pos oM];simp
def jx (h:Hp)(n:Nat):Hp:=h++ow (n-h.size) junk
theorem mE {n c:Nat}(a:c<h.size):(jx h n)[c]?=h[c]?:=et a
theorem rV {n c:Nat}(h1:h.size<=c)(a:c<n):(jx h n)[c]?=some junk:=by
 unfold jx
 rw[ey h1,um,if_pos oM]
theorem i4 {n:Nat}(a:h.size<=n):(jx h n).size=n:=by unfold jx;simp;omega
theorem Dt {n:Nat}(a:h.size<=n):Gr h (jx h n):=⟨by rw[i4 a];exact a,fun c b=>mE b⟩
theorem Cy {n:Nat}(j:J8 T8 K b h):J8 T8 K b (jx h n):=by
 intro c o a e
 rcases co c h.size with h1|h1
 ·rw[mE h1] at e;exact j c o a e
 ·rcases co c n with h2|h2
  ·rw[rV h1 h2] at e;injection e with e;exact .inl e.symm
  ·unfold jx at e
   rw[ey h1,um,if_neg oM] at e;cases e
theorem SS.junk (s:SS wz hz w h B [] F)(j:J8 T8 K b h){o:Hp}{B':List Bx}(u:Up w h w' o)(d:St wz hz w' o B'):∃ a,SS wz hz w' a B' [] F/\J8 T8 K b a/\Up w h w' a:=by
  have z:=s.g.size;have p:=u.g.size;have y:=u.ext.size;have i:h.size<=w'.heap.size:=by omega
  have k:=Dt i
  have l:G w' (jx h w'.heap.size):=⟨(i4 i).symm,fun c=>by
    rcases co c h.size with h1|h1
    . rw[mE h1]
      rcases s.g.blk c with h2|h2
      . exact .inl (h2.trans (Below.block u.ext c oM).symm)
      . exact .inr h2
    . rcases co c w'.heap.size with h2|h2
      . exact .inr (rV h1 h2)
      . left
        rw[ea (by rw[i4 i];exact h2),ea h2]⟩
  refine ⟨jx h w'.heap.size,⟨s.g0,⟨⟨d.up.ext,s.st.up.gr.trans k,l⟩,d.own,fun x e=>?_,d.lo,d.nd⟩,fun _ hr=>(by cases hr),.nil,s.mo,s.f.gw s.mo k.gw⟩,Cy j,⟨u.ext,k,l⟩⟩;have h1:=d.jk x e
  rcases co x.b h.size with h2|h2
  . rw[mE h2,<-u.gr.blk _ h2];exact h1
  . exact rV h2 (by have:=aI h1;omega)
theorem SS.oth (s:SS wz hz w h B [] F)(I:hz.size=K)(j:J8 T8 K b h)(i:Below K w w')(ok:Lib.OthersKept T8 (some b) w w')(hB:AllNe T8 b B):∃ u,SS wz hz w' u B [] F/\J8 T8 K b u:=by
  have H:=s.g.size;have L:=s.g0.size;have D:=i.size;have p:h.size<=w'.heap.size:=by omega
  have y:=Dt p
  have C : G w' (jx h w'.heap.size):=⟨(i4 p).symm,fun c=>by
    rcases co c h.size with h1|h1
    . rw[mE h1]
      rcases s.g.blk c with a|a
      . rcases co c K with h3|h3
        . exact .inl (a.trans (i.block c h3).symm)
        . cases k:h[c]? with
          | none=>rw[Array.getElem?_eq_none_iff] at k;omega
          | some o =>
            rcases j c o h3 k with rfl|⟨h4,h5⟩
            . exact .inr rfl
            . left;exact (ok c o (a.symm.trans k) (fun e=>h4 (Option.some.inj e)) h5).symm
      . exact .inr a
    . rcases co c w'.heap.size with a|a
      . exact .inr (rV h1 a)
      . left
        rw[ea (by rw[i4 p];exact a),ea a]⟩
  have l:Ext wz w':=⟨i.os.trans s.st.up.ext.os,i.tape.trans s.st.up.ext.tape,i.output.trans s.st.up.ext.output,ed s.st.up.ext.size i.size,fun c z=>(i.block c oM).trans (Below.block s.st.up.ext c z)⟩;refine ⟨jx h w'.heap.size,⟨s.g0,⟨⟨l,s.st.up.gr.trans y,C⟩,fun x d=>?_,fun x d=>?_,s.st.lo,s.st.nd⟩,fun _ hr=>(by cases hr),.nil,s.mo,s.f.gw s.mo y.gw⟩,Cy j⟩
  . have h1:=s.st.own x d
    have a:=hB.mem x d;exact ok x.b _ h1 (fun e=>a.1 (Option.some.inj e)) (fun cs J e=>by injection e with _ e2;exact a.2 e2)
  . have h1:=s.st.jk x d
    rw[mE (aI h1)];exact h1
end
section laws
variable {T8 TB:TypeId}{K b:Nat}{M:Ms}{P:Program}{n:Nat}{N R:Po}{X:Nat->Po}{ops:Array Oper}{k k0:Nat}{hr:Hp}{AL:List Al}{L:Array Bool}{Γ:ck}{wz w w' wa:World}{hz h:Hp}{B:List Bx}{F:List (Hp->Prop)}{l out:List UInt8}
theorem EQ (t:Nat){f:FuncId}{args:Array Value}{Φ:Value->Hp->Prop}(s:SS wz hz w h B [] F)(bs:BSt TB T8 K b wa l w h)(c:Calls P f args w (Ret w h Φ))(H:∀ v w' a d,SS wz hz w' a B [] F->BSt TB T8 K b wa l w' a->Φ v d->LG P n N R X ops (k+1) ((t,v)::Γ) w')(j:cL ops Γ k t n=true:=by kernel_rfl)(hr:(execOp (ev Γ) (av ops k)).run P w=.ok (.enter f args) w:=by kernel_rfl):LG P n N R X ops k Γ w :=
 LG.call t f args (bS j).1 (bS j).2 hr (c.mono fun e w' ⟨v,a,o,u,i⟩=>by
  obtain ⟨d,p,j2,_⟩:=s.junk bs.j8 u (s.st.step u);exact ⟨v,o,H v w' d a p (bs.ext u.ext j2) i⟩)
theorem IL (t:Nat)(ty:TypeId)(vs:List Value)(s:SS wz hz w h B [] F)(bs:BSt TB T8 K b wa l w h)(H:∀ c w' a,c≠b->SS wz hz w' a (⟨c,ty,vs⟩::B) [] F->BSt TB T8 K b wa l w' a->LG P n N R X ops (k+1) ((t,.pointer (some ⟨c,0,none⟩))::Γ) w')(d:cL ops Γ k t n=true:=by kernel_rfl)
  (hr:(execOp (ev Γ) (av ops k)).run P w=.ok (.value (.pointer (some ⟨w.heap.size,0,none⟩))) (w.alloc (.cells vs.toArray ty (0,0))):=by kernel_rfl):LG P n N R X ops k Γ w :=
 LG.var t ty vs s.st (bS d).1 (bS d).2 hr (fun c w' a o u e=>by
  obtain ⟨i,j,j2,_⟩:=s.junk bs.j8 u e;have f:=(BC bs.ib).2;have:=s.g.size;exact H c w' i oM j (bs.ext u.ext j2))
theorem Au (t:Nat){f:FuncId}{args:Array Value}{V:Value}(s:SS wz hz w h B [] F)(bs:BSt TB T8 K b wa l w h)(j:hz.size=K)(hB:AllNe T8 b B)(c:Calls P f args w (nJ TB T8 K b V l out w))(H:∀ w' h',SS wz hz w' h' B [] F->BSt TB T8 K b wa (l++out) w' h'->LG P n N R X ops (k+1) ((t,V)::Γ) w')(d:cL ops Γ k t n=true:=by kernel_rfl)(hr:(execOp (ev Γ) (av ops k)).run P w=.ok (.enter f args) w:=by kernel_rfl):LG P n N R X ops k Γ w :=
 LG.call t f args (bS d).1 (bS d).2 hr (c.mono fun e w' ⟨p,i,a,ok⟩=>by
  obtain ⟨o,u,j2⟩:=s.oth j bs.j8 a ok hB;exact ⟨V,p,H w' o u ⟨ed bs.hK a.size,j2,i,bs.be.trans a,bs.ok.trans ok⟩⟩)
theorem ID (i t:Nat){f:FuncId}{args:Array Value}{V:Value}(s:SS wz hz w h B [] F)(bs:BSt TB T8 K b wa l w h)(p:hz.size=K)(hB:AllNe T8 b B)(c:Calls P f args w (nJ TB T8 K b V l out w))(H:∀ w' h',SS wz hz w' h' B [] F->BSt TB T8 K b wa (l++out) w' h'->AG M P n N R X ops k0 (L.setIfInBounds i true) ((t,V)::Γ) w')(j:(gR ops k0 L i && ba Γ (av ops i) && ((av ops i).dst == some t) && decide (t<n))=true:=by kernel_rfl)(k:bu ops Γ (av ops i)=some true:=by kernel_rfl)
  (hr:(execOp (ev Γ) (av ops i)).run P w=.ok (.enter f args) w:=by kernel_rfl)(a:M.z=none:=by rfl):AG M P n N R X ops k0 L Γ w :=
 tC i t (c.mono fun e w' ⟨x,o,d,ok⟩=>by
  obtain ⟨u,y,j2⟩:=s.oth p bs.j8 d ok hB;exact ⟨V,x,Tl.none a _ _,H w' u y ⟨ed bs.hK d.size,j2,o,bs.be.trans d,bs.ok.trans ok⟩⟩) j k hr
theorem Gv {wr:World}{a:Hp}(s:SS wz hz w h B [] F)(m:UpM [] wr a w h)(H:∀ w' b,UpM [] wr a w' b->SS wz hz w' b B [] F->AG M P n N R X ops k0 L Γ w')(c:fl ops [] L=true:=by kernel_rfl):EG M P n N R X ops k0 hr [] L Γ w h:=Rg.fin0 c (fun w' b u=>H w' b (m.trans (u.m _)) (s.step u))
theorem BSt.back {wr:World}{a:Hp}(bs:BSt TB T8 K b wa l wr a)(s:SS wz hz wr a B [] F)(m:UpM [] wr a w h):∃ c,SS wz hz w c B [] F/\BSt TB T8 K b wa l w c:=by
 obtain ⟨d,e,j2,_⟩:=s.junk bs.j8 m.up (s.st.step m.up);exact ⟨d,e,bs.ext m.up.ext j2⟩
end laws
section ret
variable {T8 TB:TypeId}{K b:Nat}{P:Program}{n:Nat}{Γ:ck}{wz w wa:World}{hz h:Hp}{B:List Bx}{F:List (Hp->Prop)}{l l0 out:List UInt8}
theorem SS.retB {d:Func}{V:Value}(s:SS wz hz w h B [] F)(bs:BSt TB T8 K b wa l w h)(ps:List (Nat × Nat × Nat))(i:l=l0++out)(c:(kW d Γ && bR B ps)=true:=by kernel_rfl)(f:bP P (mm d Γ) (cg B ps)=some (V,bO B ps):=by kernel_rfl):∀ a,Kn n a Γ->lf P d (nJ TB T8 K b V l0 out wa) a w:=by
 intro a e;rw[Bool.and_eq_true] at c
 refine ⟨e.df.trans (kJ c.1),V,?_,rfl,by rw[<-i];exact bs.ib,bs.be,bs.ok⟩;rw[fD e c.1];exact bH _ _ _ _ f (bQ s.st.own ps c.2)
end ret
def wm:Go.Shelf.Ren:=⟨fun|166=>59|240=>84|276=>111|n=>n,fun|0=>0|3=>3|4=>4|5=>5|9=>9|20=>20|37=>90|70=>89|72=>92|75=>107|164=>147|80=>94|n=>n,fun n=>n⟩
theorem Bw:Go.Proofs.Lays.n166 Tryz.prog wm:={
 mixed:=by kernel_rfl
 f166:=Tryz.func59.trans (congrArg some kR)
 f240:=Tryz.func84.trans (congrArg some kR)
 f276:=Tryz.func111.trans (congrArg some kR)
 t0:=Tryz.underlying0
 a0:=Tryz.isAgg0
 z0:=Tryz.sizeOf0
 v0:=Tryz.zeroValue0
 t3:=Tryz.underlying3
 a3:=Tryz.isAgg3
 z3:=Tryz.sizeOf3
 v3:=Tryz.zeroValue3
 t4:=Tryz.underlying4
 a4:=Tryz.isAgg4
 z4:=Tryz.sizeOf4
 v4:=Tryz.zeroValue4
 t9:=Tryz.underlying9
 a9:=Tryz.isAgg9
 z9:=Tryz.sizeOf9
 v9:=Tryz.zeroValue9
 t20:=Tryz.underlying20
 a20:=Tryz.isAgg20
 z20:=Tryz.sizeOf20
 v20:=Tryz.zeroValue20
 t37:=Tryz.underlying90
 a37:=Tryz.isAgg90
 z37:=Tryz.sizeOf90
 v37:=Tryz.zeroValue90
 t70:=Tryz.underlying89
 a70:=Tryz.isAgg89
 z70:=Tryz.sizeOf89
 v70:=Tryz.zeroValue89
 t72:=Tryz.underlying92
 a72:=Tryz.isAgg92
 z72:=Tryz.sizeOf92
 v72:=Tryz.zeroValue92
 t75:=Tryz.underlying107
 a75:=Tryz.isAgg107
 z75:=Tryz.sizeOf107
 v75:=Tryz.zeroValue107
 t164:=Tryz.underlying147
 a164:=Tryz.isAgg147
 z164:=Tryz.sizeOf147
 v164:=Tryz.zeroValue147 }
theorem vI:Builder.Extra Tryz.prog wm:={
 sizeBuilder:=by kernel_rfl
 liesBuilder:=by kernel_rfl
 t5:=Tryz.underlying5
 a5:=Tryz.isAgg5
 z5:=Tryz.sizeOf5
 v5:=Tryz.zeroValue5
 infoByte:=by kernel_rfl
 cellsByte:=by kernel_rfl
 sizeByte:=by kernel_rfl
 neB5:=by decide }
theorem qf {s:ByteArray}(h:cD s=true):fN s:=by
 have:=oT h
 unfold fN;omega
theorem BP:∀ s,fN s->∀ (w:World) (h:Hp),G w h->Calls Tryz.prog 8 #[.string s] w (Ret w h (fun v _=>∃ b,v=.bool b/\b=cD s)):=fun s a w h g=>(qE s (by unfold fN at a;omega) w h g).mono fun e w' ⟨v,f,c,u,d⟩=>⟨v,f,c,u,_,d,rfl⟩
theorem TmH.cut {ok:ByteArray->Prop}{h:Hp}:∀ {e d:Nat} {p:PTm} {t:Tm},TmH e h p t->WfT ok d t->TmH d h p t
 | _,0,_,_,_,x=>x.elim
 | 0,_,_,_,x,_=>x.elim
 | e+1,d+1,p,t,⟨h1,h2,h3,h4,h5,h6,ps,h7,h8,h9⟩,⟨_,_,_,_,_,_,_,_,k⟩=>⟨h1,h2,h3,h4,h5,h6,ps,h7,h8,fun i hi=>(h9 i hi).cut (k i hi)⟩
theorem dU {P:Program}{Γ:ck}{o:Oper}{w:World}{a b:ByteArray}(h:execOp (ev Γ) o=(do pure (.value (<-Op.stringOp .add a b))))(c:a.size+b.size<=9223372036854775807):(execOp (ev Γ) o).run P w=.ok (.value (.string (a++b))) w:=by
 rw[h];simp[run_string_add_sum w a b c,Result.andThen]
def ke (op:Int):Int:=if op=3\/op=4 then 1 else if op=5\/op=6 then 2 else if op=7 then 3 else if op=8 then 4 else 5
theorem dE (op:Int):((op=3\/op=4)/\ke op=1)\/((op=5\/op=6)/\ke op=2)\/(op=7/\ke op=3)\/(op=8/\ke op=4)\/((op<3\/8<op)/\ke op=5):=by
 unfold ke
 repeat' split
 all_goals omega
def BQ (op:Int):ByteArray:=if op=3 then ⟨#[32,43,32]⟩ else if op=4 then ⟨#[32,45,32]⟩ else if op=5 then ⟨#[32,42,32]⟩ else ⟨#[32,47,32]⟩
def uD (n:Nat):ByteArray:=⟨(Lib.decDigits n).toArray⟩
def md (wr:Tm->Int->List UInt8):Tm->List UInt8
  | .mk op n q s ks=>if op=1 then (uD q.num.toNat).data.toList else if op=2 then s.data.toList
    else if op=7 then (⟨#[45]⟩:ByteArray).data.toList++wr (ks.getD 0 cc) 3
    else if op=8 then wr (ks.getD 0 cc) 5++((⟨#[94]⟩:ByteArray)++uD n.toNat).data.toList
    else wr (ks.getD 0 cc) (ke op)++(BQ op).data.toList++wr (ks.getD 1 cc) (ke op+1)
def gC:Nat->Tm->Int->List UInt8
  | 0,_,_=>[]
  | d+1,t,l=>if ke t.op<l then (⟨#[40]⟩:ByteArray).data.toList++md (gC d) t++(⟨#[41]⟩:ByteArray).data.toList else md (gC d) t
def sx:Nat->Tm->Prop
  | 0,_=>False
  | d+1,.mk op n q _ ks=>fH op=ks.length/\(1<=op/\op<=8)/\(op=1->∃ k:Nat,k<100/\q=((k:Nat):Rat))/\(0<=n/\n<100)/\∀ i,i<ks.length->sx d (ks.getD i cc)
theorem Cf:∀ n,n<100->(uD n).size<=3:=by decide +kernel
theorem Fo:∀ n,n<100->(Lib.decDigits n).all (fun b=>b != 47)=true:=by decide +kernel
theorem qL (k:Nat)(c:k<100)(w:World)(h:Hp)(g:G w h):CV 61 #[.string (uD k),.string ⟨#[47]⟩] w h (.bool false):=by
 have q:=Ret.of_same g (Tryz.strings_Contains_one (uD k) 47 w)
 rw[np (uD k).data.toList (fun b a=>by
  have h1:=List.all_eq_true.1 (Fo k c) b a
  simpa using h1)] at q
 exact q
theorem AA (K b:Nat)(l:List UInt8)(x:ByteArray)(w:World)(a:Lib.IsBuilderF 92 5 K b (Lib.byteCells (l)) w)(c:K<=w.heap.size)(i:l.length+x.data.toList.length<=140737488355328):Calls Tryz.prog 59 #[pB b,.string x] w (nJ 92 5 K b (.tuple #[iV x.size,.nilIface]) l x.data.toList w) :=
 (Any.Builder_WriteString_k Bw vI K b (Lib.byteCells l) x w a (by rw[Lib.byteCells_length];exact i) c).mono fun e w' ⟨j,h1,h,d⟩=>⟨j,by
  have f:Lib.byteCells (l++x.data.toList)=Lib.byteCells l++Lib.strCells x:=by unfold Lib.byteCells;rw[KE];rfl
  rw[f];exact .inr h1,h,d⟩
theorem sh (p:PTm)(w:World)(h:Hp)(g:G w h):CV 58 #[a8 p] w h (iV (ke p.op)):=by
 have a:=sS g;refine go Tryz.func58 [(0,a8 p)] rfl (aG (lA 1 33 (bv p) a (fun z w2 B a=>lL a ac (ai (aa a [.v (pB z),.o (iV p.op) 0 0 1] (bE (cQ (aG ?_))))))));cases c:((p.op:Int) == (3:Int))
 .
  have x:=ao c;refine lB 6 c (lL a ac (ah (kQ ?_)));cases e:((p.op:Int) == (4:Int))
  .
   have j:=ao e;refine lB 7 e (lL a ac (ah (cQ (aG ?_))));cases d:((p.op:Int) == (5:Int))
   .
    have y:=ao d;refine lB 9 d (lL a ac (ah (kQ ?_)));cases b:((p.op:Int) == (6:Int))
    .
     have u:=ao b;refine lB 10 b (lL a ac (ah (aG ?_)));cases i:((p.op:Int) == (7:Int))
     .
      have l:=ao i;refine lB 12 i (lL a ac (ah (aG ?_)));cases f:((p.op:Int) == (8:Int))
      .
       have k:=ao f;exact lB 14 f (lL a ac (ah (cK (aa a ac (af a [] (iV 5) (congrArg (Value.int .i64) (by have:=dE p.op;omega)))))))
      have k:=eq_of_beq f;exact lB 14 f (lL a ac (aj (aa a ac (af a [] (iV 4) (congrArg (Value.int .i64) (by have:=dE p.op;omega))))))
     have l:=eq_of_beq i;exact lB 12 i (lL a ac (aj (aa a ac (af a [] (iV 3) (congrArg (Value.int .i64) (by have:=dE p.op;omega))))))
    have u:=eq_of_beq b;exact lB 10 b (lL a ac (aj (aa a ac (af a [] (iV 2) (congrArg (Value.int .i64) (by have:=dE p.op;omega))))))
   have y:=eq_of_beq d;exact lB 9 d (lL a ac (aj (cK (ci (aa a ac (af a [] (iV 2) (congrArg (Value.int .i64) (by have:=dE p.op;omega))))))))
  have j:=eq_of_beq e;exact lB 7 e (lL a ac (aj (aa a ac (af a [] (iV 1) (congrArg (Value.int .i64) (by have:=dE p.op;omega))))))
 have x:=eq_of_beq c;exact lB 6 c (lL a ac (aj (cK (ci (aa a ac (af a [] (iV 1) (congrArg (Value.int .i64) (by have:=dE p.op;omega))))))))
theorem GU (op:Int)(w:World)(h:Hp)(g:G w h):CV 62 #[iV op] w h (.string (BQ op)):=by
 have a:=sS g;refine go Tryz.func62 [(0,iV op)] rfl (aa a ac (ai (aa a ac (bE (aG ?_)))));cases c:((op:Int) == (3:Int))
 .
  have e:=ao c;refine lB 5 c (lL a ac (ah (aG ?_)));cases b:((op:Int) == (4:Int))
  .
   have f:=ao b;refine lB 7 b (lL a ac (ah (aG ?_)));cases d:((op:Int) == (5:Int))
   .
    have i:=ao d;exact lB 9 d (lL a ac (ah (cK (aa a ac (af a [] (.string (⟨#[32,47,32]⟩)) (congrArg Value.string (by unfold BQ;repeat first|rw[if_pos oM]|rw[if_neg oM])))))))
   have i:=eq_of_beq d;exact lB 9 d (lL a ac (aj (aa a ac (af a [] (.string (⟨#[32,42,32]⟩)) (congrArg Value.string (by unfold BQ;repeat first|rw[if_pos oM]|rw[if_neg oM]))))))
  have f:=eq_of_beq b;exact lB 7 b (lL a ac (aj (aa a ac (af a [] (.string (⟨#[32,45,32]⟩)) (congrArg Value.string (by unfold BQ;repeat first|rw[if_pos oM]|rw[if_neg oM]))))))
 have e:=eq_of_beq c;exact lB 5 c (lL a ac (aj (aa a ac (af a [] (.string (⟨#[32,43,32]⟩)) (congrArg Value.string (by unfold BQ;repeat first|rw[if_pos oM]|rw[if_neg oM]))))))
theorem B0 (d:Nat)(K b:Nat)(bs:List UInt8)(ih:∀ (K b:Nat) (bs:List UInt8) (p:PTm) (t:Tm) (u:Int) (w:World) (h:Hp),G w h->K<=w.heap.size->J8 5 K b h->Lib.IsBuilderF 92 5 K b (Lib.byteCells (bs)) w->TmH d h p t->sx d t->bs.length+(gC d t u).length<=100000000000->Calls Tryz.prog 41 #[pB b,a8 p,iV u] w (nJ 92 5 K b (.tuple #[]) bs (gC d t u) w))(op n:Int)(q:Rat)(s:ByteArray)(A:Z9)(c:Nat)(ps:List PTm)(ks:List Tm)(hc:ps.length<=c)(bd:fH op=(ks.length:Nat))(hop:1<=op/\op<=8)(hq1:op=1->∃ k:Nat,k<100/\q=((k:Nat):Rat))(hn:0<=n/\n<100)(hW:∀ i,i<ks.length->sx d (ks.getD i cc))(u:Int)(hle:u<=ke op)(F:bs.length+(md (gC d) (.mk op n q s ks)).length<=100000000000)(w:World)(h:Hp)(g:G w h)(V:K<=w.heap.size)(hj8:J8 5 K b h)(hib:Lib.IsBuilderF 92 5 K b (Lib.byteCells (bs)) w)(hA:SlO 9 bv a7 h A ps)(hT:Tms d h ps ks):Calls Tryz.prog 41 #[pB b,a8 ⟨op,n,q,s,A,ps.length,c⟩,iV u] w (nJ 92 5 K b (.tuple #[]) bs (md (gC d) (.mk op n q s ks)) w):=by
 obtain ⟨wz,W,j,C⟩:=SS.atKb g V;have e:=BSt.start V hj8 hib;have hln:=hT.len;have hac:=aT op;have hrk:=dE op;replace j:=((j.aS hA).add (K:=fun D=>Tms d D ps ks) hT);refine go Tryz.func41 [(0,pB b),(1,a8 ⟨op,n,q,s,A,ps.length,c⟩),(2,iV u)] rfl (aG (IL 4 33 (bv ⟨op,n,q,s,A,ps.length,c⟩) j e (fun H w2 h3 l j e=>ai (aa j [.o (a8 ⟨op,n,q,s,A,ps.length,c⟩) 0 0 9] (EQ 10 j e (sh ⟨op,n,q,s,A,ps.length,c⟩ _ _ j.g) ?_)))));rintro _ w4 h5 _ j e rfl;refine lL j ac ?_;have hb6:(decide ((ke op:Int)<(u:Int)))=false:=decide_eq_false oM;refine lB 12 hb6 (ah (cK (aa j [.v (pB H),.o (iV op) 0 0 1] (bE (aG ?_)))));cases O:((op:Int) == (1:Int))
 .
  have bb:=ao O;refine lB 47 O (lL j ac (ah (aG ?_)));cases J:((op:Int) == (2:Int))
  .
   have Y:=ao J;refine lB 66 J ?_;refine lL j ac (ah (CG.join (fun Γ w_=>∃ (Z:Bool)(D:Hp),Γ=[(0,pB b),(4,pB H),(21,iV op),(71,.bool Z)]/\SS wz W w_ D [⟨H,33,bv ⟨op,n,q,s,A,ps.length,c⟩⟩] [] [fun D=>Tms d D ps ks,fun D=>SlO 9 bv a7 D A ps]/\BSt 92 5 K b w bs w_ D/\(Z=true->3<=op/\op<=6)/\(Z=false->7<=op)) ?_ ?_))
   .
    refine aG ?_;cases M:((op:Int) == (3:Int))
    .
     have S:=ao M;refine lB 72 M (lL j ac (ah (aG ?_)));cases za:((op:Int) == (4:Int))
     .
      have zg:=ao za;refine lB 73 za (lL j ac (ah (aG ?_)));cases zb:((op:Int) == (5:Int))
      .
       have zi:=ao zb;refine lB 74 zb (lL j ac (ah (kQ ?_)));cases zc:((op:Int) == (6:Int))
       .
        have zj:=ao zc;refine lB 75 zc (lL j ac (lD ?_));intro a_ I;exact ⟨_,⟨false,h5,rfl,j.to _ _,e,(fun D=>absurd D kD),(fun _=>by omega)⟩,I.to _ kR⟩
       have zj:=eq_of_beq zc;refine lB 75 zc (lL j ac (lD ?_));intro a_ I;exact ⟨_,⟨true,h5,rfl,j.to _ _,e,(fun _=>by omega),(fun D=>absurd D kD)⟩,I.to _ kR⟩
      have zi:=eq_of_beq zb;refine lB 74 zb (lL j ac (aj (CG.skip ?_)));intro a_ I;exact ⟨_,⟨true,h5,rfl,j.to _ _,e,(fun _=>by omega),(fun D=>absurd D kD)⟩,I.to _ kR⟩
     have zg:=eq_of_beq za;refine lB 73 za (lL j ac (aj (CG.skip ?_)));intro a_ I;exact ⟨_,⟨true,h5,rfl,j.to _ _,e,(fun _=>by omega),(fun D=>absurd D kD)⟩,I.to _ kR⟩
    have S:=eq_of_beq M;refine lB 72 M (lL j ac (aj (CG.skip ?_)));intro a_ I;exact ⟨_,⟨true,h5,rfl,j.to _ _,e,(fun _=>by omega),(fun D=>absurd D kD)⟩,I.to _ kR⟩
   rintro _ zl ⟨Z,zm,rfl,j,e,zp,X⟩;cases zd:(Z)
   .
    try rw[zd] at j
    try rw[zd]
    refine da (aG ?_);have hF_:=X aM;cases ze:((op:Int) == (7:Int))
    .
     have zk:=ao ze;refine lB 99 ze (lL j ac (ah (aG ?_)));have zq:((op:Int) == (8:Int))=true:=ko oM;refine lB 109 zq (lL j ac (aj ?_));have y:md (gC d) (.mk op n q s ks)=gC d (ks.getD 0 cc) 5++((⟨#[94]⟩:ByteArray)++uD n.toNat).data.toList:=by simp only[md];repeat first|rw[if_pos oM]|rw[if_neg oM]
     have x:=F;rw[y] at x
     try simp only[sy] at x
     refine aa j [.c,.v (qP H 8),.o (qS A ps.length c) 0 8 1] (lX 113 A ps.length c 9 0 0 ((j.f.2.1).ok oM) ?_);refine lH 114 (a8 (ps.getD 0 a7)) j ((j.f.2.1).el 0 oM) (Au 115 j e C ⟨⟨l,rfl⟩,trivial⟩ (ih K b bs (ps.getD 0 a7) (ks.getD 0 cc) (5) _ _ j.g e.hK e.j8 e.ib ((j.f.1).at_ 0 oM) (hW 0 oM) (by first|omega|(simp only[sy];omega))) (fun _ _ j e=>lN (kQ (lL j [.c,.v (qP H 1),.o (iV n) 0 1 1] (EQ 119 j e (Fe n n.toNat oM oM _ _ j.g) ?_)))));rintro _ _ _ _ j e rfl;refine lV 120 (.string ((⟨#[94]⟩:ByteArray)++(uD n.toNat))) ?_ (hr:=dU (a:=⟨#[94]⟩) (b:=(uD n.toNat)) kR (by have h1_:=Cf n.toNat oM;have h2_:(⟨#[94]⟩:ByteArray).size=1:=rfl;omega));exact Au 121 j e C ⟨⟨l,rfl⟩,trivial⟩ (AA K b (bs++(gC d (ks.getD 0 cc) (5))) ((⟨#[94]⟩:ByteArray)++(uD n.toNat)) _ e.ib e.hK (by first|omega|(simp only[sy];omega))) (fun _ _ j e=>lD (j.retB e [] (by rw[y];try simp only[Kr])))
    have zk:=eq_of_beq ze;refine lB 99 ze (lL j ac (aj ?_));have y:md (gC d) (.mk op n q s ks)=(⟨#[45]⟩:ByteArray).data.toList++gC d (ks.getD 0 cc) 3:=by simp only[md];repeat first|rw[if_pos oM]|rw[if_neg oM]
    have x:=F;rw[y] at x
    try simp only[sy] at x
    refine aa j ac (Au 101 j e C ⟨⟨l,rfl⟩,trivial⟩ (AA K b bs (⟨#[45]⟩) _ e.ib e.hK (by first|omega|(simp only[sy];omega))) (fun _ _ j e=>lN (kQ (lL j [.c,.v (qP H 8),.o (qS A ps.length c) 0 8 1] (lX 105 A ps.length c 9 0 0 ((j.f.2.1).ok oM) ?_)))));exact lH 106 (a8 (ps.getD 0 a7)) j ((j.f.2.1).el 0 oM) (Au 107 j e C ⟨⟨l,rfl⟩,trivial⟩ (ih K b (bs++((⟨#[45]⟩:ByteArray).data.toList)) (ps.getD 0 a7) (ks.getD 0 cc) (3) _ _ j.g e.hK e.j8 e.ib ((j.f.1).at_ 0 oM) (hW 0 oM) (by first|omega|(simp only[sy];omega))) (fun _ _ j e=>lD (j.retB e [] (by rw[y];try simp only[Kr]))))
   try rw[zd] at j
   try rw[zd]
   refine ci (cQ ?_);have Q:=j;have B:UpM [] zl zm zl zm:=UpM.refl j.g;have hT_:=zp aM;have y:md (gC d) (.mk op n q s ks)=gC d (ks.getD 0 cc) (ke op)++(BQ op).data.toList++gC d (ks.getD 1 cc) (ke op+1):=by simp only[md];repeat first|rw[if_pos oM]|rw[if_neg oM]
   have x:=F;rw[y] at x
   try simp only[sy] at x
   refine cR 7 [] mixed j aw (eV 0 76 (pB b) (eV 1 77 (qP H 8) (HB 2 78 [3,4,7] [(0,8,1)] (qS A ps.length c) j (eX 3 79 A ps.length c 9 0 0 ((j.f.2.1).ok oM) (eH 4 80 (a8 (ps.getD 0 a7)) j ((j.f.2.1).el 0 oM) (HB 5 81 [6,7] [(0,0,9)] (a8 ⟨op,n,q,s,A,ps.length,c⟩) j (ie 6 82 j B (fun _ _ j=>sh ⟨op,n,q,s,A,ps.length,c⟩ _ _ j.g) ?_)))))));rintro _ _ _ _ _ B j rfl;refine Gv j B (fun _ _ B j=>?_);obtain ⟨_,j,e⟩:=e.back Q B;refine ID 7 83 j e C ⟨⟨l,rfl⟩,trivial⟩ (ih K b bs (ps.getD 0 a7) (ks.getD 0 cc) (ke op) _ _ j.g e.hK e.j8 e.ib ((j.f.1).at_ 0 oM) (hW 0 oM) (by first|omega|(simp only[sy];omega))) (fun _ _ j e=>Av (lL j [.c,.v (pB H),.o (iV op) 0 0 1] (EQ 87 j e (GU op _ _ j.g) ?_)));rintro _ _ _ _ j e rfl;refine Au 88 j e C ⟨⟨l,rfl⟩,trivial⟩ (AA K b (bs++(gC d (ks.getD 0 cc) (ke op))) (BQ op) _ e.ib e.hK (by first|omega|(simp only[sy];omega))) (fun zn zo j e=>lN ?_);have Q:=j;have B:UpM [] zn zo zn zo:=UpM.refl j.g;refine cR 8 [] mixed j aw (eV 0 89 (pB b) (eV 1 90 (qP H 8) (HB 2 91 [3,4,8] [(0,8,1)] (qS A ps.length c) j (eX 3 92 A ps.length c 9 1 1 ((j.f.2.1).ok oM) (eH 4 93 (a8 (ps.getD 1 a7)) j ((j.f.2.1).el 1 oM) (HB 5 94 [6,7,8] [(0,0,9)] (a8 ⟨op,n,q,s,A,ps.length,c⟩) j (ie 6 95 j B (fun _ _ j=>sh ⟨op,n,q,s,A,ps.length,c⟩ _ _ j.g) ?_)))))));rintro _ _ _ _ _ B j rfl;refine eI 7 96 ((ke op)+1) (Gv j B (fun _ _ B j=>?_));obtain ⟨_,j,e⟩:=e.back Q B;exact ID 8 97 j e C ⟨⟨l,rfl⟩,trivial⟩ (ih K b ((bs++(gC d (ks.getD 0 cc) (ke op)))++((BQ op).data.toList)) (ps.getD 1 a7) (ks.getD 1 cc) ((ke op)+1) _ _ j.g e.hK e.j8 e.ib ((j.f.1).at_ 1 oM) (hW 1 oM) (by first|omega|(simp only[sy];omega))) (fun _ _ j e=>tD (j.retB e [] (by rw[y];try simp only[Kr])))
  have Y:=eq_of_beq J;refine lB 66 J (lL j ac (aj ?_));have y:md (gC d) (.mk op n q s ks)=s.data.toList:=by simp only[md];repeat first|rw[if_pos oM]|rw[if_neg oM]
  have x:=F;rw[y] at x
  try simp only[sy] at x
  exact kQ (lL j [.c,.v (qP H 7),.o (.string s) 0 7 1] (Au 70 j e C ⟨⟨l,rfl⟩,trivial⟩ (AA K b bs s _ e.ib e.hK (by first|omega|(simp only[sy];omega))) (fun _ _ j e=>lD (j.retB e [] (by rw[y];try simp only[Kr])))))
 have bb:=eq_of_beq O;refine lB 47 O (lL j ac (aj ?_));obtain ⟨k,U,L⟩:=hq1 oM;have hlq:LQ 100000000 q:=by rw[L];exact (LQ.int (z:=(k:Int)) oM oM).mono oM
 have hsg:0<=q.num.sign:=by rw[L];rw[KD];cases k<;>simp[Int.sign]
 have y:md (gC d) (.mk op n q s ks)=(uD k).data.toList:=by simp only[md];rw[if_pos (show op=1 by omega),L];rfl
 have x:=F;rw[y] at x
 try simp only[sy] at x
 refine aa j [.v (qP H 2),.o (qv q) 0 2 5] (EQ 50 j e ((by have q_:=ED k U _ _ j.g;rw[<-L] at q_;exact q_)) ?_);rintro _ _ _ _ j e rfl;refine lL j ac (ai (aa j [.v (qP H 2),.o (qv q) 0 2 5] (EQ 53 j e (mM q hlq _ _ j.g) ?_)));rintro _ _ _ _ j e rfl;have zr:(decide ((q.num.sign:Int)<(0:Int)))=false:=decide_eq_false oM;refine lB 54 zr (lL j aF (EQ 57 j e (qL k U _ _ j.g) ?_));rintro _ _ _ _ j e rfl;exact lL j [.v qF] (ah (cK (kQ (lL j aF (Au 64 j e C ⟨⟨l,rfl⟩,trivial⟩ (AA K b bs (uD k) _ e.ib e.hK (by first|omega|(simp only[sy];omega))) (fun _ _ j e=>lD (j.retB e [] (by rw[y];try simp only[Kr]))))))))
theorem BE (d:Nat)(K b:Nat)(bs:List UInt8)(op n:Int)(q:Rat)(s:ByteArray)(A:Z9)(c:Nat)(ps:List PTm)(ks:List Tm)(M:ps.length<=c)(hB:∀ (bs:List UInt8) (w:World) (h:Hp),G w h->K<=w.heap.size->J8 5 K b h->Lib.IsBuilderF 92 5 K b (Lib.byteCells (bs)) w->SlO 9 bv a7 h A ps->Tms d h ps ks->bs.length+(md (gC d) (.mk op n q s ks)).length<=100000000000->Calls Tryz.prog 41 #[pB b,a8 ⟨op,n,q,s,A,ps.length,c⟩,iV 0] w (nJ 92 5 K b (.tuple #[]) bs (md (gC d) (.mk op n q s ks)) w))(j:Int)(D:ke op<j)(p:bs.length+((⟨#[40]⟩:ByteArray).data.toList++md (gC d) (.mk op n q s ks)++(⟨#[41]⟩:ByteArray).data.toList).length<=100000000000)(w:World)(h:Hp)(g:G w h)(l:K<=w.heap.size)(u:J8 5 K b h)(z:Lib.IsBuilderF 92 5 K b (Lib.byteCells (bs)) w)(F:SlO 9 bv a7 h A ps)(B:Tms d h ps ks):Calls Tryz.prog 41 #[pB b,a8 ⟨op,n,q,s,A,ps.length,c⟩,iV j] w (nJ 92 5 K b (.tuple #[]) bs ((⟨#[40]⟩:ByteArray).data.toList++md (gC d) (.mk op n q s ks)++(⟨#[41]⟩:ByteArray).data.toList) w):=by
 obtain ⟨wz,C,e,k⟩:=SS.atKb g l;have a:=BSt.start l u z;have J:=B.len;have I:=aT op;have H:=dE op;replace e:=((e.aS F).add (K:=fun L=>Tms d L ps ks) B);have y:=p
 simp only[sy] at y
 refine go Tryz.func41 [(0,pB b),(1,a8 ⟨op,n,q,s,A,ps.length,c⟩),(2,iV j)] rfl (aG (IL 4 33 (bv ⟨op,n,q,s,A,ps.length,c⟩) e a (fun O w2 V i e a=>ai (aa e [.o (a8 ⟨op,n,q,s,A,ps.length,c⟩) 0 0 9] (EQ 10 e a (sh ⟨op,n,q,s,A,ps.length,c⟩ _ _ e.g) ?_)))));rintro _ W S _ e a rfl;refine lL e ac ?_;have x:(decide ((ke op:Int)<(j:Int)))=true:=decide_eq_true oM;exact lB 12 x (aj (aa e ac (Au 14 e a k ⟨⟨i,rfl⟩,trivial⟩ (AA K b bs (⟨#[40]⟩) _ a.ib a.hK (by first|omega|(simp only[sy];omega))) (fun X U e a=>aE (lL e [.c,.o (a8 ⟨op,n,q,s,A,ps.length,c⟩) 0 0 9] (Au 17 e a k ⟨⟨i,rfl⟩,trivial⟩ (hB (bs++((⟨#[40]⟩:ByteArray).data.toList)) _ _ e.g a.hK a.j8 a.ib e.f.2.1 e.f.1 (by first|omega|(simp only[sy];omega))) (fun Q _ e a=>aE (lL e ac (Au 19 e a k ⟨⟨i,rfl⟩,trivial⟩ (AA K b ((bs++((⟨#[40]⟩:ByteArray).data.toList))++(md (gC d) (.mk op n q s ks))) (⟨#[41]⟩) _ a.ib a.hK (by first|omega|(simp only[sy];omega))) (fun _ _ e a=>lN (kX (e.retB a [] (by simp only[Kr])))))))))))))
theorem Ge {d:Nat}{t:Tm}{l:Int}(h:ke t.op<l):gC (d+1) t l=(⟨#[40]⟩:ByteArray).data.toList++md (gC d) t++(⟨#[41]⟩:ByteArray).data.toList:=if_pos h
theorem GO {d:Nat}{t:Tm}{l:Int}(h:l<=ke t.op):gC (d+1) t l=md (gC d) t:=if_neg oM
theorem uJ:∀ d:Nat,∀ (K b:Nat) (bs:List UInt8) (p:PTm) (t:Tm) (least:Int) (w:World) (h:Hp),G w h->K<=w.heap.size->J8 5 K b h->Lib.IsBuilderF 92 5 K b (Lib.byteCells (bs)) w->TmH d h p t->sx d t->bs.length+(gC d t least).length<=100000000000->Calls Tryz.prog 41 #[pB b,a8 p,iV least] w (nJ 92 5 K b (.tuple #[]) bs (gC d t least) w)
  | 0,_,_,_,_,_,_,_,_,_,_,_,_,x,_,_=>x.elim
  | d + 1,K,b,bs,p,t,least,w,h,g,j,k,f,x,tx,a=>by
    obtain ⟨op,n,q,s,A,c,ps,ks,rfl,rfl,l,i,e⟩:=x.open;obtain ⟨C,z,y,u,B⟩:=tx;have o:=fun (bs:List UInt8) (least:Int) (hle:least<=ke op) (w:World) (h:Hp) (g:G w h) (j:K<=w.heap.size) (k:J8 5 K b h) (f:Lib.IsBuilderF 92 5 K b (Lib.byteCells (bs)) w) (i:SlO 9 bv a7 h A ps) (e:Tms d h ps ks) (a:bs.length+(md (gC d) (.mk op n q s ks)).length<=100000000000)=>B0 d K b bs (uJ d) op n q s A c ps ks l C z y u B least hle a w h g j k f i e
    by_cases hr:ke op<least
    . rw[Ge (t:=(.mk op n q s ks)) hr] at a ⊢
      exact BE d K b bs op n q s A c ps ks l (fun bs w h g j k f i e a=>o bs 0 (by have:=dE op;omega) w h g j k f i e a) least hr a w h g j k f i e
    . rw[GO (t:=(.mk op n q s ks)) (by show least<=ke op;omega)] at a ⊢
      exact o bs least oM w h g j k f i e a
theorem Ds {r k:Nat}(hr:r<10^(9-k))(a:k<9):r/10<10^(9-(k+1)):=by
 rw[show 9-k=9-(k+1)+1 by omega,zy] at hr
 omega
theorem rP {Q r k:Nat}(hr:r<10^(9-k))(a:k<9)(h0:0<r\/0<Q):dD (Q*10^(9-k)+r)=dD (Q*10^(9-(k+1))+r/10)++[mZ (r%10)]:=by
 have e:Q*10^(9-k)=Q*10^(9-(k+1))*10:=by rw[show 9-k=9-(k+1)+1 by omega,zy,Nat.mul_assoc]
 have h1:Q*10^(9-k)+r≠0:=by
  rcases h0 with h0|h0
  ·omega
  ·have:=Nat.mul_pos h0 (Nat.pow_pos (n:=9-k) (show 0<10 by decide));omega
 rw[nu h1,e,show (Q*10^(9-(k+1))*10+r)/10=Q*10^(9-(k+1))+r/10 by omega,show (Q*10^(9-(k+1))*10+r)%10=r%10 by omega]
theorem wS {Q r k:Nat}(hr:r<10^(9-k))(h:9<=k\/(r=0/\Q=0)):Q*10^(9-k)+r=Q:=by
 rcases h with h|⟨rfl,rfl⟩
 ·rw[show 9-k=0 by omega,JI] at hr ⊢;omega
 ·simp
theorem G7:fI 0=⟨#[48]⟩:=by unfold fI;rw[Lib.decDigits_one kD];rfl
theorem ju (a:Nat)(A:Z9)(c:Nat)(hc:(lim a).length<=c)(Y:(lim a).length<=4000000000)(hn:Lib.nDigits a<=1000)(w:World)(h:Hp)(g:G w h)(hA:S3 A (lim a) h):CV 172 #[.slice A ((lim a).length) c] w h (.string (fI a)):=by
 have e:=((sS g).aS hA);refine go Tryz.func172 [(0,qS A ((lim a).length) c)] rfl (aa e ac (aE (lL e ac (ai (kZ ?_)))));replace e:=e.aS e.f.1;refine bG _ (CG.loop (fun D Γ w_=>∃ (m:Nat)(F:Z9)(S:Nat)(s:ByteArray)(h_:Hp),D=m/\Γ=[(2,eS),(0,qS F ((lim m).length) S),(3,.string s)]/\SS w h w_ h_ [] [] [S3 F (lim m),S3 A (lim a)]/\m<=a/\(lim m).length<=S/\dD a=dD m++s.data.toList) _ ⟨a,A,c,⟨#[]⟩,h,rfl,rfl,e.to _ _,nR _,hc,(KF _).symm⟩ ?_);rintro _ _ w1 ⟨m,F,S,s,h2,hm3,rfl,e,hma,hcm,l⟩;have hlm:(lim m).length<=4000000000:=ed (de hma) Y;have bd:=@bI m;have L:=congrArg JC l;rw[sy] at L
 have bl:s.data.toList.length=s.size:=by simp
 have bk:=vQ (n:=a);refine cQ (aa e [.c,.v (nV ((lim m).length))] ?_);cases o:(decide ((0:Int)<(((lim m).length:Nat):Int)))
 .
  have M:=oF o;refine lB 10 o (ah (CG.exit ?_))
  show CG _ _ _ _ _ _ _ _
  refine cQ (aa e ac ?_);cases p:(kn s (⟨#[]⟩))
  .
   have H:=gt p;refine lB 44 p (ah (cK (aa e aF (lN (kX ?_)))));have i:m=0:=by omega
   rw[i] at l
   exact e.ret [] (.string s) (by have O:¬s=⟨#[]⟩:=gt aM;have j:a≠0:=fun e_=>O (by rw[e_] at l;exact sY l.symm);rw[FA j,l];exact congrArg Value.string (sY rfl))
  have H:=f7 p;refine lB 44 p (aj (aa e ac (lN (kX ?_))));have i:m=0:=by omega
  rw[i] at l
  exact e.ret [] (.string (⟨#[48]⟩)) (by have j:a=0:=Fq (by rw[l,show s=⟨#[]⟩ from f7 aM];rfl);rw[j,G7])
 have M:=oT o;refine lB 10 o (aj (cK (kZ (aa e ac (lC 13 e (G0 m F S hcm hlm 1000000000 kD kD _ _ e.g e.f.1) ?_)))));rintro _ _ zi e ⟨_,r0,rfl,⟨I,X,rfl,J,Z⟩,K⟩;replace e:=e.aS Z;have bm:=@bI (m/1000000000);refine lL e [.c,.v (qS I ((lim (m/1000000000)).length) X),.v (mW r0),.c,.c] (aE (lL e ac (ai (aa e ac (bE ?_)))));refine bG _ (CG.loop (fun D Γ w_=>∃ (k:Nat)(r:Nat)(d:ByteArray)(h_:Hp),D=9-k/\Γ=[(2,eS),(0,qS F ((lim m).length) S),(3,.string s),(4,qS I ((lim (m/1000000000)).length) X),(7,nV k),(5,mW r),(6,.string d)]/\SS w h w_ h_ [] [] [S3 I (lim (m/1000000000)),S3 F (lim m),S3 A (lim a)]/\k<=9/\r<10^(9-k)/\dD m=dD ((m/1000000000)*10^(9-k)+r)++d.data.toList) _ ⟨0,r0,⟨#[]⟩,zi,rfl,rfl,e.to _ _,by omega,(by rw[K];exact ua _ kD),(by rw[K];show dD m=dD ((m/1000000000)*1000000000+m%1000000000)++[];rw[KG,KF])⟩ ?_);rintro _ _ _ ⟨k,r,d,zg,bp,rfl,e,hk,hr,Q⟩;have z:=congrArg JC Q;rw[sy] at z
 have bq:d.data.toList.length=d.size:=by simp
 have bb:r<4294967296:=ep hr (ed (Nat.pow_le_pow_right kD (show 9-k<=9 by omega)) kD);refine cQ (aa e ac ?_);cases W:(decide ((k:Int)<(9:Int)))
 .
  have zd:=oF W;refine lB 17 W (lL e ac (lG 19 ?_));refine lG 20 (lG 21 (lG 22 (lG 23 (lG 24 (lG 25 (lL e [.v qF] (ah (CG.exit ?_))))))))
  show CG _ _ _ _ _ _ _ _
  have C:dD m=dD (m/1000000000)++d.data.toList:=by rw[Q,wS hr (by first|exact .inl oM|exact .inr ⟨by omega,by omega⟩)]
  refine aa e aF (lV 41 (.string ((d:ByteArray)++s)) ?_ (hr:=dU (a:=d) (b:=s) kR oM));refine lL e ac (lN (kQ (lL e aF (lD ?_))));intro a_ B;replace e:=(e.tl.tl.aS e.f.1);refine ⟨_,_,?_,⟨(m/1000000000),I,X,(d:ByteArray)++s,zg,rfl,rfl,e.to _ _,(by have:=y7 m 1000000000;omega),J,(by rw[nM,<-Kr,<-C,<-l])⟩,B.to _ kR⟩
  omega
 have zd:=oT W;refine lB 17 W (lL e aF ?_);cases U:(decide ((0:Int)<(r:Int)))
 .
  have ze:=oF U;refine lB 20 U (lL e [.c,.c,.v (nV ((lim (m/1000000000)).length))] ?_);cases V:(decide ((0:Int)<(((lim (m/1000000000)).length:Nat):Int)))
  .
   have zf:=oF V;refine lB 24 V (lL e [.v qF,.v qF] (ah (CG.exit ?_)))
   show CG _ _ _ _ _ _ _ _
   have C:dD m=dD (m/1000000000)++d.data.toList:=by rw[Q,wS hr (by first|exact .inl oM|exact .inr ⟨by omega,by omega⟩)]
   refine aa e aF (lV 41 (.string ((d:ByteArray)++s)) ?_ (hr:=dU (a:=d) (b:=s) kR oM));refine lL e ac (lN (kQ (lL e aF (lD ?_))));intro a_ B;replace e:=(e.tl.tl.aS e.f.1);refine ⟨_,_,?_,⟨(m/1000000000),I,X,(d:ByteArray)++s,zg,rfl,rfl,e.to _ _,(by have:=y7 m 1000000000;omega),J,(by rw[nM,<-Kr,<-C,<-l])⟩,B.to _ kR⟩
   omega
  have zf:=oT V;refine lB 24 V (lL e [.v qT,.v qT] (aj (cK (cQ (kZ (aa e ac (lV 30 (mW (r%10)) ?_ (hr:=aN (dV (t:=161) (u:=161) (x:=.tmp 29) (y:=.const (uW 10)) (k:=.u32) (a:=(r:Int)) (b:=(10:Int)) kR kR kR oM _) (cM r 10)))))))));refine lV 31 (mW (48+(r%10))) ?_ (hr:=rT (((48:Int)+((r%10:Nat):Int))) kR (Df 48 (r%10) oM));refine lV 32 (.int .u8 ((48+(r%10))%256:Nat)) ?_ (hr:=aN (n:=IntKind.wrap .u8 ((48+(r%10):Nat):Int)) kR (xX _));refine lR 33 5 1 ([.int .u8 ((48+(r%10))%256:Nat)]) e (fun b26 _ zj e=>IH (cap:=1) 34 90 9 5 (.tmp 33) [mZ (r%10)] e (show Seg _ _ _ (FH [mZ (r%10)]) by rw[rK oM,show 48+r%10=(48+r%10)%256 by omega];exact e.f.1) rfl (lL e ac (lV 36 (.string (((⟨([mZ (r%10)]:List UInt8).toArray⟩:ByteArray):ByteArray)++d)) ?_ (hr:=dU (a:=(⟨([mZ (r%10)]:List UInt8).toArray⟩:ByteArray)) (b:=d) kR (by show 1+_<=_;omega)))));refine lL e ac (lN (kQ (lL e ac (lV 38 (mW (r/10)) ?_ (hr:=aN (cZ (t:=161) (u:=161) (x:=.tmp 37) (y:=.const (uW 10)) (k:=.u32) (a:=(r:Int)) (b:=(10:Int)) kR kR kR oM _) (uP r 10 oM))))));refine lL e ac (lN (kQ (lL e ac (bg 28 ((k:Nat)+1) (k+1) ?_))));refine lL e ac (lD ?_);intro a_ B;replace e:=e.tl;refine ⟨_,_,?_,⟨k+1,r/10,((⟨([mZ (r%10)]:List UInt8).toArray⟩:ByteArray):ByteArray)++d,zj,rfl,rfl,e.to _ _,oM,(Ds hr oM),(by rw[nM];show _=_++([mZ (r%10)]++d.data.toList);rw[<-Kr,<-rP hr oM (by first|exact .inl oM|exact .inr oM),<-Q])⟩,B.to _ kR⟩
  omega
 have ze:=oT U;refine lB 20 U (lL e ac (lG 22 ?_));refine lG 23 (lG 24 (lL e [.v qT,.v qT] (aj (cK (cQ (kZ (aa e ac (lV 30 (mW (r%10)) ?_ (hr:=aN (dV (t:=161) (u:=161) (x:=.tmp 29) (y:=.const (uW 10)) (k:=.u32) (a:=(r:Int)) (b:=(10:Int)) kR kR kR oM _) (cM r 10))))))))));refine lV 31 (mW (48+(r%10))) ?_ (hr:=rT (((48:Int)+((r%10:Nat):Int))) kR (Df 48 (r%10) oM));refine lV 32 (.int .u8 ((48+(r%10))%256:Nat)) ?_ (hr:=aN (n:=IntKind.wrap .u8 ((48+(r%10):Nat):Int)) kR (xX _));refine lR 33 5 1 ([.int .u8 ((48+(r%10))%256:Nat)]) e (fun b33 _ zk e=>IH (cap:=1) 34 90 9 5 (.tmp 33) [mZ (r%10)] e (show Seg _ _ _ (FH [mZ (r%10)]) by rw[rK oM,show 48+r%10=(48+r%10)%256 by omega];exact e.f.1) rfl (lL e ac (lV 36 (.string (((⟨([mZ (r%10)]:List UInt8).toArray⟩:ByteArray):ByteArray)++d)) ?_ (hr:=dU (a:=(⟨([mZ (r%10)]:List UInt8).toArray⟩:ByteArray)) (b:=d) kR (by show 1+_<=_;omega)))));refine lL e ac (lN (kQ (lL e ac (lV 38 (mW (r/10)) ?_ (hr:=aN (cZ (t:=161) (u:=161) (x:=.tmp 37) (y:=.const (uW 10)) (k:=.u32) (a:=(r:Int)) (b:=(10:Int)) kR kR kR oM _) (uP r 10 oM))))));refine lL e ac (lN (kQ (lL e ac (bg 28 ((k:Nat)+1) (k+1) ?_))));refine lL e ac (lD ?_);intro a_ B;replace e:=e.tl;refine ⟨_,_,?_,⟨k+1,r/10,((⟨([mZ (r%10)]:List UInt8).toArray⟩:ByteArray):ByteArray)++d,zk,rfl,rfl,e.to _ _,oM,(Ds hr oM),(by rw[nM];show _=_++([mZ (r%10)]++d.data.toList);rw[<-Kr,<-rP hr oM (by first|exact .inl oM|exact .inr oM),<-Q])⟩,B.to _ kR⟩
 omega
theorem lw (z:Int)(A:Z9)(c:Nat)(k:(lim (ab z)).length<=c)(l:(lim (ab z)).length<=4000000000)(C:Lib.nDigits (ab z)<=1000)(w:World)(h:Hp)(g:G w h)(p:S3 A (lim (ab z)) h):CV 171 #[.agg #[.bool (au z),.slice A ((lim (ab z)).length) c]] w h (.string (iP z)):=by
 have d:=((sS g).aS p);refine go Tryz.func171 [(0,.agg #[.bool (au z),qS A ((lim (ab z)).length) c])] rfl (aG (lA 1 42 ([.bool (au z),qS A ((lim (ab z)).length) c]) d (fun j w2 B d=>lL d ac (ai (aa d [.v (pB j),.o (.bool (au z)) 0 0 1] (lN ?_))))));cases e:(au z)
 .
  try rw[e] at d
  try rw[e]
  exact da (cK (aa d [.v (qP j 1),.o (qS A ((lim (ab z)).length) c) 0 1 1] (aq 11 d (ju (ab z) A c k oM oM _ _ d.g d.f.1) (fun x u d=>lL d ac (af d [] (.string (fI (ab z))) (by have i:¬z<0:=oF (show decide (z<0)=false by assumption);unfold iP;rw[if_neg i]<;>rfl))))))
 try rw[e] at d
 try rw[e]
 refine ci (aa d [.v (qP j 1),.o (qS A ((lim (ab z)).length) c) 0 1 1] (aq 7 d (ju (ab z) A c k oM oM _ _ d.g d.f.1) (fun D y d=>lV 8 (.string ((⟨#[45]⟩:ByteArray)++(fI (ab z)))) ?_ (hr:=dU (a:=⟨#[45]⟩) (b:=(fI (ab z))) kR (by rw[en];show 1+_<=_;omega)))));exact lL d ac (af d [] (.string ((⟨#[45]⟩:ByteArray)++(fI (ab z)))) (by have i :  z<0:=oT (show decide (z<0)=true by assumption);unfold iP;rw[if_pos i]<;>rfl))
theorem vA {n:Nat}(h:(lim n).length=1):(lim n).getD 0 0=n:=by
 have e:=cu n
 match hl:lim n,h with
 | [x],_=>rw[hl] at e;simpa [am] using e
theorem pd (z:Int):(iP z).size<=Lib.nDigits (ab z)+1:=by
 unfold iP;split
 ·rw[ByteArray.size_append,en];show 1+Lib.nDigits z.natAbs<=Lib.nDigits z.natAbs+1;omega
 ·rw[en];exact Nat.le_succ _
theorem Gj (q:Rat)(A:Z9)(c:Nat)(u:(lim (ab q.num)).length<=c)(D:Z9)(d:Nat)(y:(lim q.den).length<=d)(k:(lim (ab q.num)).length<=4000000000)(J:(lim q.den).length<=4000000000)(U:Lib.nDigits (ab q.num)<=1000)(H:Lib.nDigits q.den<=1000)(w:World)(h:Hp)(g:G w h)(z:S3 A (lim (ab q.num)) h)(F:S3 D (lim q.den) h):CV 134 #[.agg #[.bool (au q.num),.slice A ((lim (ab q.num)).length) c,.slice D ((lim (q.den)).length) d]] w h (.string (uw q)):=by
 have e:=(((sS g).aS z).aS F);have K:=vA (n:=q.den);have B:q.den=1->(lim q.den).length=1:=fun I=>by rw[I];rfl
 have x:=pd q.num;refine go Tryz.func134 [(0,.agg #[.bool (au q.num),qS A ((lim (ab q.num)).length) c,qS D ((lim (q.den)).length) d])] rfl (aG (lA 1 44 ([.bool (au q.num),qS A ((lim (ab q.num)).length) c,qS D ((lim (q.den)).length) d]) e (fun j w2 S e=>lL e ac (ai (aa e [.v (qP j 2),.o (qS D ((lim (q.den)).length) d) 0 2 1,.v (nV ((lim (q.den)).length))] ?_)))));cases i:((((lim (q.den)).length:Nat):Int) == (1:Int))
 .
  have l:=ao i;refine lB 6 i (lL e ac (lG 8 ?_));refine lG 9 (lG 10 (lG 11 (lG 12 (lL e [.v qF] (ah (cK (cQ (cR 8 [] mixed e aw ?_))))))));refine eV 0 17 (pB j) (eO 1 18 [(0,0,2)] (.agg #[.bool (au q.num),qS A ((lim (ab q.num)).length) c]) e (eV 4 21 (qP j 2) (eO 5 22 [(0,2,1)] (qS D ((lim (q.den)).length) d) e (aK 2 19 e (fun _ _ e=>lw q.num A c u k oM _ _ e.g e.f.2.1) (fun O L e=>eV 3 20 (.string (((iP q.num):ByteArray)++(⟨#[47]⟩))) ?_ (hv:=fun _=>dU (a:=(iP q.num)) (b:=⟨#[47]⟩) kR (by show _+1<=_;omega)))))));refine aK 6 23 e (fun _ _ e=>ju (q.den) D d y oM oM _ _ e.g e.f.1) (fun V Q e=>eV 7 24 (.string ((((iP q.num):ByteArray)++(⟨#[47]⟩):ByteArray)++(fI (q.den)))) ?_ (hv:=fun _=>dU (a:=((iP q.num):ByteArray)++(⟨#[47]⟩)) (b:=(fI (q.den))) kR (by rw[ByteArray.size_append,en];show _+1+_<=_;omega)));exact cG e (fun M _ e=>tV 8 2 (.string ((((iP q.num):ByteArray)++(⟨#[47]⟩):ByteArray)++(fI (q.den)))) (tN (kX (e.ret [] (.string ((((iP q.num):ByteArray)++(⟨#[47]⟩):ByteArray)++(fI (q.den)))) (by unfold uw;rw[if_neg (show ¬q.den=1 by omega)]<;>rfl)))))
 have l:=eq_of_beq i;refine lB 6 i (lL e [.c,.v (qP j 2),.o (qS D ((lim (q.den)).length) d) 0 2 1] (lX 10 D ((lim (q.den)).length) d 1 0 0 ((e.f.1).ok oM) ?_));refine lH 11 (mW ((lim (q.den)).getD 0 0)) e ((e.f.1).el 0 oM) ?_;cases p:((((lim (q.den)).getD 0 0:Nat):Int) == (1:Int))
 .
  have C:=ao p;refine lB 12 p (lL e [.v qF] (ah (cK (cQ (cR 8 [] mixed e aw ?_)))));refine eV 0 17 (pB j) (eO 1 18 [(0,0,2)] (.agg #[.bool (au q.num),qS A ((lim (ab q.num)).length) c]) e (eV 4 21 (qP j 2) (eO 5 22 [(0,2,1)] (qS D ((lim (q.den)).length) d) e (aK 2 19 e (fun _ _ e=>lw q.num A c u k oM _ _ e.g e.f.2.1) (fun _ _ e=>eV 3 20 (.string (((iP q.num):ByteArray)++(⟨#[47]⟩))) ?_ (hv:=fun _=>dU (a:=(iP q.num)) (b:=⟨#[47]⟩) kR (by show _+1<=_;omega)))))));refine aK 6 23 e (fun _ _ e=>ju (q.den) D d y oM oM _ _ e.g e.f.1) (fun _ _ e=>eV 7 24 (.string ((((iP q.num):ByteArray)++(⟨#[47]⟩):ByteArray)++(fI (q.den)))) ?_ (hv:=fun _=>dU (a:=((iP q.num):ByteArray)++(⟨#[47]⟩)) (b:=(fI (q.den))) kR (by rw[ByteArray.size_append,en];show _+1+_<=_;omega)));exact cG e (fun _ _ e=>tV 8 2 (.string ((((iP q.num):ByteArray)++(⟨#[47]⟩):ByteArray)++(fI (q.den)))) (tN (kX (e.ret [] (.string ((((iP q.num):ByteArray)++(⟨#[47]⟩):ByteArray)++(fI (q.den)))) (by unfold uw;rw[if_neg (show ¬q.den=1 by omega)]<;>rfl)))))
 have C:=eq_of_beq p;exact lB 12 p (lL e [.v qT] (aj (aa e [.v (pB j),.o (.agg #[.bool (au q.num),qS A ((lim (ab q.num)).length) c]) 0 0 2] (aq 16 e (lw q.num A c u k oM _ _ e.g e.f.2.1) (fun _ _ e=>lL e ac (af e [] (.string (iP q.num)) (by unfold uw;rw[if_pos (show q.den=1 by omega)]<;>rfl)))))))
def rm (pb:Nat)(s:ByteArray)(b:Nat):Value->World->Hp->Prop:=fun v w' _=>∃ a':Nat,v=.pointer none/\a'<=s.size/\Own w' pb 59 [.string s,.int .i64 (a':Nat),.int .i64 (b:Nat)]
def p7 (nf bf:ByteArray->Option Rat)(f:FuncId)(n:Nat)(k:PKd):Prop:=∀ (pb:Nat) (s:ByteArray),s.size<=1000000->∀ (a:Nat),a<=s.size->∀ (bd:Int) (b:Nat),bn nf bf s n k a=some (.err b)->∀ (w:World) (h:Hp),G w h->Own w pb 59 [.string s,nV a,iV bd]->h[pb]?=some junk->Tab h->Calls Tryz.prog f #[pB pb] w (bW pb w h (rm pb s b))
def Gb (nf bf:ByteArray->Option Rat)(n:Nat):Prop:=∀ (op:Int),9<=op/\op<=13->∀ (pb:Nat) (s:ByteArray),s.size<=1000000->∀ (a:Nat),a<=s.size->∀ (bd:Int) (b:Nat),bn nf bf s n (.call op) a=some (.err b)->∀ (w:World) (h:Hp),G w h->Own w pb 59 [.string s,nV a,iV bd]->h[pb]?=some junk->Tab h->Calls Tryz.prog 126 #[pB pb,iV op] w (bW pb w h (rm pb s b))
def Ij (nf:ByteArray->Option Rat):Prop:=∀ x,x.size<=1000000->nf x=none->∀ (w:World) (h:Hp),G w h->Tab h->CV 124 #[.string x] w h (.tuple #[qv 0,.bool false])
def Ik:Prop:=∀ (x:ByteArray),x.size<=3->fM x=none->∀ (w:World) (h:Hp),G w h->CV 104 #[.string x] w h (.tuple #[nv 0,.bool false])
def Iq (bf:ByteArray->Option Rat):Prop:=∀ (pb:Nat) (s:ByteArray),s.size<=1000000->∀ (a:Nat),a<=s.size->∀ (bd:Int) (b:Nat),(ak s a=91/\b=a/\(rn cf s (a+1)=s.size\/bf (s.extract (a+1) (rn cf s (a+1)))=none))->∀ (w:World) (h:Hp),G w h->Own w pb 59 [.string s,nV a,iV bd]->h[pb]?=some junk->Tab h->Calls Tryz.prog 127 #[pB pb] w (bW pb w h (rm pb s b))
theorem eh  (d:Nat)(s:ByteArray)(p:s.size<=1000000)(a:Nat)(ha:a<=s.size)(x:Int)(at_:Nat)(l:at_<=1000000)(w:World)(h:Hp)(g:G w h)(j:Own w d 59 [.string s,nV a,iV x])(i:h[d]?=some junk)(o:Tab h):Calls Tryz.prog 14 #[pB d,nV at_] w (bW d w h fun v w' _=>v=.pointer none/\Own w' d 59 [.string s,nV a,nV at_]):=by
 have e:UpM [d] w h w h:=UpM.refl g;obtain ⟨wz,f,b⟩:=SS.at_ g j i;replace b:=(b.add (K:=fun u=>Tab u) o);refine go Tryz.func14 [(0,pB d),(1,nV at_)] rfl (aa b ac (aE (lL b [.c,.c,.v (pB d),.v (qP d 2)] (ce 0 2 ([nV at_]) b (fun w1 k b=>?_)))));replace e:=e.put k (n1.2 rfl) b.g;exact aE (lL b ac (lN (kX (b.retM e [] (.pointer none) ⟨rfl,b.own 0⟩))))
section
variable {nf bf:ByteArray->Option Rat}(n:Nat)
theorem pP  (lv:Bool)(k:FuncId)(u:∀ (args:Array Value) (w:World),(callFunc k args).run Tryz.prog w=.ok (.enter k args) w)(o:p7 nf bf k n (part lv))(e:Nat)(s:ByteArray)(p:s.size<=1000000)(a:Nat)(ha:a<=s.size)(B:Int)(b:Nat)(F:bn nf bf s n (part lv) a=some (.err b))(w:World)(h:Hp)(g:G w h)(D:Own w e 59 [.string s,nV a,iV B])(C:h[e]?=some junk)(H:Tab h):Calls Tryz.prog 30 #[pB e,.func (.func k) #[pB e] #[],.int .u8 (c1 lv:Nat),iV (km lv),.int .u8 (c2 lv:Nat),iV (jv lv)] w (bW e w h (rm e s b)):=by
 have j:UpM [e] w h w h:=UpM.refl g;obtain ⟨wz,y,d⟩:=SS.at_ g D C;replace d:=(d.add (K:=fun I=>Tab I) H);refine go Tryz.func30 [(0,pB e),(1,.func (.func k) #[pB e] #[]),(2,.int .u8 (c1 lv:Nat)),(3,iV (km lv)),(4,.int .u8 (c2 lv:Nat)),(5,iV (jv lv))] rfl (aa d ac (aE (lL d ac (bj 18 (o e s p a ha B b F _ _ d.g (d.own 0) (d.jk 0) d.f.1) ?_ (hr:=Eq.trans kR (u _ _))))));rintro _ w2 J z ⟨i,rfl,x,l⟩;replace d:=(d.stepM 0 z l).to [⟨e,59,[.string s,nV i,nV b]⟩] [];replace j:=j.trans z;refine lL d ac (ai (kZ (cU ?_)));refine cN (cQ (aa d [.c,.v qF] (ah (CG.exit ?_))))
 show CG _ _ _ _ _ _ _ _
 exact aa d ac (lN (kX (d.retM j [] (.pointer none) ⟨i,rfl,by omega,d.own 0⟩)))
theorem o6  (lv:Bool)(fp:FuncId)(S:∀ (args:Array Value) (w:World),(callFunc fp args).run Tryz.prog w=.ok (.enter fp args) w)(hp:∀ m,m<=n->PC nf bf fp m (part lv))(hpe:∀ m,m<=n->p7 nf bf fp m (part lv))(j:Nat)(s:ByteArray)(D:s.size<=1000000)(a:Nat)(ha:a<=s.size)(x:Int)(b:Nat)(t1:Tm)(b1:Nat)(hq1:bn nf bf s n (part lv) a=some (.ok t1 b1))(hq2:bn nf bf s n (.more lv t1) b1=some (.err b))(w:World)(h:Hp)(g:G w h)(ho:Own w j 59 [.string s,nV a,iV x])(hj:h[j]?=some junk)(tb:Tab h):Calls Tryz.prog 30 #[pB j,.func (.func fp) #[pB j] #[],.int .u8 (c1 lv:Nat),iV (km lv),.int .u8 (c2 lv:Nat),iV (jv lv)] w (bW j w h (rm j s b)):=by
 have e:UpM [j] w h w h:=UpM.refl g;obtain ⟨wz,b6,d⟩:=SS.at_ g ho hj;have b7:c1 lv≠0:=by cases lv<;>decide
 have cy:c2 lv≠0:=by cases lv<;>decide
 replace d:=(d.add (K:=fun i=>Tab i) tb);refine go Tryz.func30 [(0,pB j),(1,.func (.func fp) #[pB j] #[]),(2,.int .u8 (c1 lv:Nat)),(3,iV (km lv)),(4,.int .u8 (c2 lv:Nat)),(5,iV (jv lv))] rfl (aa d ac (aE (lL d ac (bj 18 (hp n (nR _) j s D a ha x t1 b1 hq1 _ _ d.g (d.own 0) (d.jk 0) d.f.1) ?_ (hr:=Eq.trans kR (S _ _))))));rintro _ w2 h3 u4 ⟨H,F,rfl,b4,cz,cr,b5⟩;replace d:=(d.stepM 0 u4 cz).to [⟨j,59,[.string s,nV b1,iV x]⟩] [];replace e:=e.trans u4;replace d:=((d.a_Seg cr).add (K:=fun i=>PtH i F t1) b5);refine lL d ac (ai (kZ ?_));replace d:=d.add (K:=fun i=>PtH i F t1) (d.f.1);replace d:=d.add (K:=fun i=>Seg i H 0 (bv F)) (d.f.r.1);refine bG _ (CG.loop (fun μ_ Γ w_=>∃ (m:Nat)(tq:Nat)(p:PTm)(u:Tm)(k:Nat)(i:Hp),μ_=m/\Γ=[(0,pB j),(1,.func (.func fp) #[pB j] #[]),(2,.int .u8 (c1 lv:Nat)),(3,iV (km lv)),(4,.int .u8 (c2 lv:Nat)),(5,iV (jv lv)),(13,pB tq)]/\SS wz b6 w_ i [⟨j,59,[.string s,nV k,iV x]⟩] [] [fun i=>Seg i tq 0 (bv p),fun i=>PtH i p u,fun i=>PtH i F t1,fun i=>Seg i H 0 (bv F),fun i=>Tab i]/\m<=n/\k<=s.size/\UpM [j] w h w_ i/\bn nf bf s m (.more lv u) k=some (.err b)) _ ⟨n,H,F,t1,b1,h3,rfl,rfl,d.to _ _,nR _,b4,e,hq2⟩ ?_);rintro _ _ w5 ⟨m,tq,p,u,k,h6,hm7,rfl,d,hm,hk,e,hq⟩;obtain ⟨m1,rfl⟩:=ik hq;have df:=bB (s:=s) (a:=k) hk;refine cQ (aa d [.c,.v qT] (aj (cK (kZ (aa d ac (ai (aa d aF ?_)))))));have c7:=bB (s:=s) (a:=k) oM;refine bj 23 (fw j s D k oM x (c1 lv) b7 _ _ d.g (d.own 0) (d.jk 0) d.f.q.1) ?_;rintro _ w9 _ Y (⟨rfl,M,dc,W⟩|⟨rfl,M,W⟩)
 .
  replace d:=(d.stepM 0 Y W).to [⟨j,59,[.string s,nV (sk s k+1),iV x]⟩] [];replace e:=e.trans Y;have cx:=qh hq M;refine aj (kQ (lL d aF (aE (lL d ac ?_))))
  rcases cx with hEq8|⟨vq8,eq8,hvq8,hwq8⟩
  .
   refine bj 31 (hpe m1 oM j s D (sk s k+1) oM x b hEq8 _ _ d.g (d.own 0) (d.jk 0) d.f.q.1) ?_ (hr:=Eq.trans kR (S _ _));rintro _ _ _ u15 ⟨U,rfl,c5,bw⟩;replace d:=(d.stepM 0 u15 bw).to [⟨j,59,[.string s,nV U,nV b]⟩] [];replace e:=e.trans u15;exact lL d ac (ai (aa d [.c,.v qT] (aj (aa d ac (lN (kX (d.retM e [] (.pointer none) ⟨U,rfl,by omega,d.own 0⟩)))))))
  refine bj 31 (hp m1 oM j s D (sk s k+1) oM x vq8 eq8 hvq8 _ _ d.g (d.own 0) (d.jk 0) d.f.q.1) ?_ (hr:=Eq.trans kR (S _ _));rintro _ _ _ u19 ⟨I,L,rfl,br,bl,b2,bq⟩;replace d:=(d.stepM 0 u19 bl).to [⟨j,59,[.string s,nV eq8,iV x]⟩] [];replace e:=e.trans u19;replace d:=((d.a_Seg b2).add (K:=fun i=>PtH i L vq8) bq);refine lL d ac (ai (aa d [.c,.v qF] (ah (cK (cQ ?_)))));have hsr:=d;have J:=e.gr.size;refine cR 9 [⟨8,16,.cells (J0 [iV 0,iV 0,qF,uV 0,eS,uV 0,eS,eS,sZ]) 33 (0,0)⟩] mixed d (dz (lu kR (fun _ _=>by kernel_rfl)) aw) (eV 0 34 (iV (km lv)) (eV 1 35 (pB tq) (eV 2 36 (pB tq) (eH 3 37 (a8 p) d d.f.r.1 (eV 4 38 (pB I) (eV 5 39 (pB I) (eH 6 40 (a8 L) d d.f.2.1 (ie 7 41 d e (fun _ _ d=>t6 (km lv) p L u vq8 _ _ d.g d.f.r.2.1 d.f.1) ?_))))))));rintro _ _ _ _ _ e d ⟨o,rfl,bt⟩;replace d:=(d.add (K:=fun i=>PtH i o (bz (km lv) u vq8)) bt);refine me [] hsr d e J 33 [iV 0,iV 0,qF,uV 0,eS,uV 0,eS,eS,sZ] (fun _ _ za e z d=>kj 9 0 0 (bv o) d (fun _ pu d=>?_));replace e:=e.put2 pu z g d.g;refine tN ?_;obtain ⟨zc,d,e,b9⟩:=d.pubM e 0 z;replace d:=d.to [⟨j,59,[.string s,nV eq8,iV x]⟩] [];have cm:Seg zc za 0 (bv o):=b9;replace d:=d.a_Seg cm;refine kQ (lL d ac (lD ?_));intro a_ ka;replace d:=((d.tl.tl.tl.tl.tl.tl.add (K:=fun i=>PtH i o (bz (km lv) u vq8)) d.f.2.1).add (K:=fun i=>Seg i za 0 (bv o)) d.f.1);refine ⟨_,_,?_,⟨m1,za,o,bz (km lv) u vq8,eq8,zc,rfl,rfl,d.to _ _,oM,br,e,hwq8⟩,ka.to _ kR⟩
  omega
 replace d:=(d.stepM 0 Y W).to [⟨j,59,[.string s,nV (sk s k),iV x]⟩] [];replace e:=e.trans Y;have hcF:=M;refine ah (aa d aF ?_);have c4:=bB (s:=s) (a:=(sk s k)) oM;refine bj 27 (xW j s D (sk s k) oM x (c2 lv) cy (pF _ _) _ _ d.g (d.own 0) (d.jk 0) d.f.q.1) ?_;rintro _ _ _ X (⟨rfl,B,c8,C⟩|⟨rfl,B,C⟩)
 .
  replace d:=(d.stepM 0 X C).to [⟨j,59,[.string s,nV ((sk s k)+1),iV x]⟩] [];replace e:=e.trans X;have b3:=qQ hq hcF B;refine aj (kQ (lL d aF (aE (lL d ac ?_))))
  rcases b3 with hEq37|⟨vq37,eq37,hvq37,hwq37⟩
  .
   refine bj 31 (hpe m1 oM j s D ((sk s k)+1) oM x b hEq37 _ _ d.g (d.own 0) (d.jk 0) d.f.q.1) ?_ (hr:=Eq.trans kR (S _ _));rintro _ _ _ u44 ⟨V,rfl,c6,bm⟩;replace d:=(d.stepM 0 u44 bm).to [⟨j,59,[.string s,nV V,nV b]⟩] [];replace e:=e.trans u44;exact lL d ac (ai (aa d [.c,.v qT] (aj (aa d ac (lN (kX (d.retM e [] (.pointer none) ⟨V,rfl,by omega,d.own 0⟩)))))))
  refine bj 31 (hp m1 oM j s D ((sk s k)+1) oM x vq37 eq37 hvq37 _ _ d.g (d.own 0) (d.jk 0) d.f.q.1) ?_ (hr:=Eq.trans kR (S _ _));rintro _ _ _ u48 ⟨O,Q,rfl,bk,Z,b0,bb⟩;replace d:=(d.stepM 0 u48 Z).to [⟨j,59,[.string s,nV eq37,iV x]⟩] [];replace e:=e.trans u48;replace d:=((d.a_Seg b0).add (K:=fun i=>PtH i Q vq37) bb);refine lL d ac (ai (aa d [.c,.v qF] (ah (cK (cQ ?_)))));have hsr:=d;have J:=e.gr.size;refine cR 9 [⟨8,16,.cells (J0 [iV 0,iV 0,qF,uV 0,eS,uV 0,eS,eS,sZ]) 33 (0,0)⟩] mixed d (dz (lu kR (fun _ _=>by kernel_rfl)) aw) (eV 0 34 (iV (jv lv)) (eV 1 35 (pB tq) (eV 2 36 (pB tq) (eH 3 37 (a8 p) d d.f.r.1 (eV 4 38 (pB O) (eV 5 39 (pB O) (eH 6 40 (a8 Q) d d.f.2.1 (ie 7 41 d e (fun _ _ d=>t6 (jv lv) p Q u vq37 _ _ d.g d.f.r.2.1 d.f.1) ?_))))))));rintro _ _ _ _ _ e d ⟨l,rfl,bp⟩;replace d:=(d.add (K:=fun i=>PtH i l (bz (jv lv) u vq37)) bp);refine me [] hsr d e J 33 [iV 0,iV 0,qF,uV 0,eS,uV 0,eS,eS,sZ] (fun _ _ zb e y d=>kj 9 0 0 (bv l) d (fun _ pu d=>?_));replace e:=e.put2 pu y g d.g;refine tN ?_;obtain ⟨zd,d,e,c3⟩:=d.pubM e 0 y;replace d:=d.to [⟨j,59,[.string s,nV eq37,iV x]⟩] [];have cq:Seg zd zb 0 (bv l):=c3;replace d:=d.a_Seg cq;refine kQ (lL d ac (lD ?_));intro a_ ka;replace d:=((d.tl.tl.tl.tl.tl.tl.add (K:=fun i=>PtH i l (bz (jv lv) u vq37)) d.f.2.1).add (K:=fun i=>Seg i zb 0 (bv l)) d.f.1);refine ⟨_,_,?_,⟨m1,zb,l,bz (jv lv) u vq37,eq37,zd,rfl,rfl,d.to _ _,oM,bk,e,hwq37⟩,ka.to _ kR⟩
  omega
 replace d:=(d.stepM 0 X C).to [⟨j,59,[.string s,nV (sk s k),iV x]⟩] [];replace e:=e.trans X;have ch:=B;refine ah (aa d aF (lN (kX ?_)));exact (qA hq hcF ch).elim
theorem Dz  (l:p7 nf bf 31 n .prod)(e:Nat)(s:ByteArray)(o:s.size<=1000000)(a:Nat)(ha:a<=s.size)(y:Int)(b:Nat)(C:bn nf bf s n .prod a=some (.err b))(w:World)(h:Hp)(g:G w h)(B:Own w e 59 [.string s,nV a,iV y])(z:h[e]?=some junk)(D:Tab h):Calls Tryz.prog 12 #[pB e] w (bW e w h (rm e s b)):=by
 have j:UpM [e] w h w h:=UpM.refl g;obtain ⟨wz,u,d⟩:=SS.at_ g B z;replace d:=(d.add (K:=fun F=>Tab F) D);refine go Tryz.func12 [(0,pB e)] rfl (aa d ac (aE (lL d [.c,.c,.v (.func (.func 31) #[pB e] #[])] (bj 6 (pP n false 31 (fun _ _=>by kernel_rfl) l e s o a ha y b C _ _ d.g (d.own 0) (d.jk 0) d.f.1) ?_))));rintro _ w2 H x ⟨i,rfl,p,k⟩;replace d:=(d.stepM 0 x k).to [⟨e,59,[.string s,nV i,nV b]⟩] [];replace j:=j.trans x;exact lL d ac (lN (kX (d.retM j [] (.pointer none) ⟨i,rfl,by omega,d.own 0⟩)))
theorem Eh  (I:∀ m,m<=n->PC nf bf 31 m .prod)(o:∀ m,m<=n->p7 nf bf 31 m .prod)(e:Nat)(s:ByteArray)(x:s.size<=1000000)(a:Nat)(ha:a<=s.size)(D:Int)(b:Nat)(z:Tm)(p:Nat)(l:bn nf bf s n .prod a=some (.ok z p))(u:bn nf bf s n (.more false z) p=some (.err b))(w:World)(h:Hp)(g:G w h)(H:Own w e 59 [.string s,nV a,iV D])(F:h[e]?=some junk)(J:Tab h):Calls Tryz.prog 12 #[pB e] w (bW e w h (rm e s b)):=by
 have j:UpM [e] w h w h:=UpM.refl g;obtain ⟨wz,B,d⟩:=SS.at_ g H F;replace d:=(d.add (K:=fun L=>Tab L) J);refine go Tryz.func12 [(0,pB e)] rfl (aa d ac (aE (lL d [.c,.c,.v (.func (.func 31) #[pB e] #[])] (bj 6 (o6 n false 31 (fun _ _=>by kernel_rfl) I o e s x a ha D b z p l u _ _ d.g (d.own 0) (d.jk 0) d.f.1) ?_))));rintro _ w2 M C ⟨i,rfl,y,k⟩;replace d:=(d.stepM 0 C k).to [⟨e,59,[.string s,nV i,nV b]⟩] [];replace j:=j.trans C;exact lL d ac (lN (kX (d.retM j [] (.pointer none) ⟨i,rfl,by omega,d.own 0⟩)))
theorem rd  (l:p7 nf bf 51 n .sign)(e:Nat)(s:ByteArray)(o:s.size<=1000000)(a:Nat)(ha:a<=s.size)(y:Int)(b:Nat)(C:bn nf bf s n .sign a=some (.err b))(w:World)(h:Hp)(g:G w h)(B:Own w e 59 [.string s,nV a,iV y])(z:h[e]?=some junk)(D:Tab h):Calls Tryz.prog 31 #[pB e] w (bW e w h (rm e s b)):=by
 have j:UpM [e] w h w h:=UpM.refl g;obtain ⟨wz,u,d⟩:=SS.at_ g B z;replace d:=(d.add (K:=fun F=>Tab F) D);refine go Tryz.func31 [(0,pB e)] rfl (aa d ac (aE (lL d [.c,.c,.v (.func (.func 51) #[pB e] #[])] (bj 6 (pP n true 51 (fun _ _=>by kernel_rfl) l e s o a ha y b C _ _ d.g (d.own 0) (d.jk 0) d.f.1) ?_))));rintro _ w2 H x ⟨i,rfl,p,k⟩;replace d:=(d.stepM 0 x k).to [⟨e,59,[.string s,nV i,nV b]⟩] [];replace j:=j.trans x;exact lL d ac (lN (kX (d.retM j [] (.pointer none) ⟨i,rfl,by omega,d.own 0⟩)))
theorem rg  (I:∀ m,m<=n->PC nf bf 51 m .sign)(o:∀ m,m<=n->p7 nf bf 51 m .sign)(e:Nat)(s:ByteArray)(x:s.size<=1000000)(a:Nat)(ha:a<=s.size)(D:Int)(b:Nat)(z:Tm)(p:Nat)(l:bn nf bf s n .sign a=some (.ok z p))(u:bn nf bf s n (.more true z) p=some (.err b))(w:World)(h:Hp)(g:G w h)(H:Own w e 59 [.string s,nV a,iV D])(F:h[e]?=some junk)(J:Tab h):Calls Tryz.prog 31 #[pB e] w (bW e w h (rm e s b)):=by
 have j:UpM [e] w h w h:=UpM.refl g;obtain ⟨wz,B,d⟩:=SS.at_ g H F;replace d:=(d.add (K:=fun L=>Tab L) J);refine go Tryz.func31 [(0,pB e)] rfl (aa d ac (aE (lL d [.c,.c,.v (.func (.func 51) #[pB e] #[])] (bj 6 (o6 n true 51 (fun _ _=>by kernel_rfl) I o e s x a ha D b z p l u _ _ d.g (d.own 0) (d.jk 0) d.f.1) ?_))));rintro _ w2 M C ⟨i,rfl,y,k⟩;replace d:=(d.stepM 0 C k).to [⟨e,59,[.string s,nV i,nV b]⟩] [];replace j:=j.trans C;exact lL d ac (lN (kX (d.retM j [] (.pointer none) ⟨i,rfl,by omega,d.own 0⟩)))
theorem v6  (F:p7 nf bf 51 n .sign)(H:p7 nf bf 79 n .pow)(i:Nat)(s:ByteArray)(p:s.size<=1000000)(a:Nat)(ha:a<=s.size)(u:Int)(b:Nat)(Q:bn nf bf s (n+1) .sign a=some (.err b))(w:World)(h:Hp)(g:G w h)(V:Own w i 59 [.string s,nV a,iV u])(U:h[i]?=some junk)(W:Tab h):Calls Tryz.prog 51 #[pB i] w (bW i w h (rm i s b)):=by
 have e:UpM [i] w h w h:=UpM.refl g;obtain ⟨wz,O,d⟩:=SS.at_ g V U;replace d:=(d.add (K:=fun X=>Tab X) W);refine go Tryz.func51 [(0,pB i)] rfl (aa d ac (ai (aa d ac ?_)));have L:=bB (s:=s) (a:=a) oM;refine bj 6 (fw i s p a ha u 45 kD _ _ d.g (d.own 0) (d.jk 0) d.f.1) ?_;rintro _ w2 h3 B (⟨rfl,j,S,k⟩|⟨rfl,j,k⟩)
 .
  replace d:=(d.stepM 0 B k).to [⟨i,59,[.string s,nV (sk s a+1),iV u]⟩] [];replace e:=e.trans B;have D:=j;refine lL d [.v qF] (ah (cK (aa d ac (bj 11 (F i s p (sk s a+1) oM u b (wH Q D) _ _ d.g (d.own 0) (d.jk 0) d.f.1) ?_))));rintro _ Z Y M ⟨l,rfl,I,x⟩;replace d:=(d.stepM 0 M x).to [⟨i,59,[.string s,nV l,nV b]⟩] [];replace e:=e.trans M;exact lL d ac (ai (aa d [.c,.v qT] (aj (aa d ac (lN (kX (d.retM e [] (.pointer none) ⟨l,rfl,by omega,d.own 0⟩)))))))
 replace d:=(d.stepM 0 B k).to [⟨i,59,[.string s,nV (sk s a),iV u]⟩] [];replace e:=e.trans B;have J:=j;refine lL d [.v qT] (aj (aa d ac (bj 9 (H i s p (sk s a) oM u b (qq Q J) _ _ d.g (d.own 0) (d.jk 0) d.f.1) ?_)));rintro _ _ _ y ⟨o,rfl,C,z⟩;replace d:=(d.stepM 0 y z).to [⟨i,59,[.string s,nV o,nV b]⟩] [];replace e:=e.trans y;exact lL d ac (lN (kX (d.retM e [] (.pointer none) ⟨o,rfl,by omega,d.own 0⟩)))
theorem wi  (o:p7 nf bf 102 n .atom)(e:Nat)(s:ByteArray)(l:s.size<=1000000)(a:Nat)(ha:a<=s.size)(y:Int)(b:Nat)(C:bn nf bf s n .atom a=some (.err b))(w:World)(h:Hp)(g:G w h)(B:Own w e 59 [.string s,nV a,iV y])(z:h[e]?=some junk)(D:Tab h):Calls Tryz.prog 79 #[pB e] w (bW e w h (rm e s b)):=by
 have j:UpM [e] w h w h:=UpM.refl g;obtain ⟨wz,u,d⟩:=SS.at_ g B z;replace d:=(d.add (K:=fun F=>Tab F) D);refine go Tryz.func79 [(0,pB e)] rfl (aa d ac (aE (lL d ac (bj 13 (o e s l a ha y b C _ _ d.g (d.own 0) (d.jk 0) d.f.1) ?_))));rintro _ w2 H x ⟨i,rfl,p,k⟩;replace d:=(d.stepM 0 x k).to [⟨e,59,[.string s,nV i,nV b]⟩] [];replace j:=j.trans x;refine lL d ac (ai (aa d [.c,.v qT,.c] (lG 17 ?_)));exact lG 18 (lG 19 (lL d [.v qT] (aj (aa d aF (lN (kX (d.retM j [] (.pointer none) ⟨i,rfl,by omega,d.own 0⟩)))))))
theorem vS  (hnpe:Ik)(iha:PC nf bf 102 n .atom)(i:Nat)(s:ByteArray)(l:s.size<=1000000)(a:Nat)(ha:a<=s.size)(u:Int)(b:Nat)(v1:Tm)(x:Nat)(hv1:bn nf bf s n .atom a=some (.ok v1 x))(bk:ak s (sk s x)=94)(hwb:iW s v1 (sk s x+1)=.err b)(w:World)(h:Hp)(g:G w h)(ho:Own w i 59 [.string s,nV a,iV u])(hj:h[i]?=some junk)(tb:Tab h):Calls Tryz.prog 79 #[pB i] w (bW i w h (rm i s b)):=by
 have e:UpM [i] w h w h:=UpM.refl g;obtain ⟨wz,bw,d⟩:=SS.at_ g ho hj;obtain ⟨y,H⟩:=uT hwb;replace d:=(d.add (K:=fun h_=>Tab h_) tb);refine go Tryz.func79 [(0,pB i)] rfl (aa d ac (aE (lL d ac (bj 13 (iha i s l a ha u v1 x hv1 _ _ d.g (d.own 0) (d.jk 0) d.f.1) ?_))));rintro _ w2 h3 u4 ⟨br,pq1,rfl,bt,bp,bm,bb⟩;replace d:=(d.stepM 0 u4 bp).to [⟨i,59,[.string s,nV x,iV u]⟩] [];replace e:=e.trans u4;replace d:=((d.a_Seg bm).add (K:=fun h_=>PtH h_ pq1 v1) bb);refine lL d ac (ai (aa d [.c,.v qF,.c,.c] (bj 18 (jX i s l x oM u 94 kD bk _ _ d.g (d.own 0) (d.jk 0) d.f.r.1) ?_)));rintro _ w6 h7 u8 ⟨rfl,b1,bl⟩;replace d:=(d.stepM 0 u8 bl).to [⟨i,59,[.string s,nV (sk s x+1),iV u]⟩] [];replace e:=e.trans u8;refine lL d [.v qF,.v qF] (ah (cK (aa d ac ?_)));have bq:=bB (s:=s) (a:=(sk s x+1)) oM;refine bj 23 (fw i s l (sk s x+1) oM u 45 kD _ _ d.g (d.own 0) (d.jk 0) d.f.r.1) ?_;rintro _ _ _ F (⟨rfl,z,b0,D⟩|⟨rfl,z,D⟩)
 .
  replace d:=(d.stepM 0 F D).to [⟨i,59,[.string s,nV (sk s (sk s x+1)+1),iV u]⟩] [];replace e:=e.trans F;rw[if_pos z] at y
  refine lL d ac (aE (lL d ac ?_));have C:=bB (s:=s) (a:=(sk s (sk s x+1)+1)) oM;refine bj 25 (jq i s l (sk s (sk s x+1)+1) oM u _ _ d.g (d.own 0) (d.jk 0) d.f.r.1) ?_;rintro _ _ _ u15 ⟨rfl,B⟩;rw[<-y] at B C
  rw[<-y];replace d:=(d.stepM 0 u15 B).to [⟨i,59,[.string s,nV b,iV u]⟩] [];replace e:=e.trans u15;refine aE (lL d [.c,.v (pB i),.v (qP i 1),.o (nV b) 0 1 1,.c] (aE (lL d ac ?_)));have U:=f4 bM s b;have V:=dB (p:=bM) (s:=s) (a:=b) oM;have hxs:(s.extract b (rn bM s b)).size=rn bM s b-b:=by rw[ByteArray.size_extract];omega
  refine bj 31 (oO 45 bM (fun _ _=>by kernel_rfl) (fun c hc w h g=>fC c hc w h g) i s l b oM u _ _ d.g (d.own 0) (d.jk 0) d.f.r.1) ?_;rintro _ _ _ Y ⟨rfl,O⟩;replace d:=(d.stepM 0 Y O).to [⟨i,59,[.string s,nV (rn bM s b),iV u]⟩] [];replace e:=e.trans Y;refine lL d ac (ai (aa d [.c,.v (nV ((s.extract b (rn bM s b)).size))] ?_))
  rcases Ku (3<rn bM s b-b) with hcs_|hcs_
  .
   have za:(decide ((3:Int)<(((s.extract b (rn bM s b)).size:Nat):Int)))=true:=decide_eq_true oM;refine lB 34 za (aj (aa d aF (bj 37 (eh i s l (rn bM s b) oM u b oM _ _ d.g (d.own 0) (d.jk 0) d.f.r.1) ?_)));rintro _ _ _ u23 ⟨rfl,M⟩;replace d:=(d.stepM 0 u23 M).to [⟨i,59,[.string s,nV (rn bM s b),nV b]⟩] [];replace e:=e.trans u23;exact lL d ac (lN (kX (d.retM e [] (.pointer none) ⟨(rn bM s b),rfl,by omega,d.own 0⟩)))
  have L:fM (s.extract b (rn bM s b))=none:=H.resolve_left hcs_;have zb:(decide ((3:Int)<(((s.extract b (rn bM s b)).size:Nat):Int)))=false:=decide_eq_false oM;refine lB 34 zb (ah (cK (aa d ac (d7 40 (hnpe (s.extract b (rn bM s b)) oM L _ _ d.g) ?_))));rintro _ _ _ u27 rfl;replace e:=e.trans (u27.m _);replace d:=d.step u27;refine lL d [.c,.v (nv 0),.v qF] (fe 7 26 ([uV 0,eS]) d (fun ze _ _ u31 j d=>?_));replace j:=ed e.gr.size j;replace e:=e.trans (u31.m _);refine ce 0 0 (nc 0) d (fun _ pu d=>?_);replace e:=e.put2 pu j g d.g;refine lL d ac (ai (aa d [.c,.v qT] (aj (aa d aF (bj 47 (eh i s l (rn bM s b) oM u b oM _ _ d.g (d.own 1) (d.jk 1) d.f.r.1) ?_)))));rintro _ _ _ u36 ⟨rfl,J⟩;replace d:=(d.stepM 1 u36 J).to [⟨ze,26,nc 0⟩,⟨i,59,[.string s,nV (rn bM s b),nV b]⟩] [];replace e:=e.trans u36;exact lL d ac (lN (kX (d.retM e [] (.pointer none) ⟨(rn bM s b),rfl,by omega,d.own 1⟩)))
 replace d:=(d.stepM 0 F D).to [⟨i,59,[.string s,nV (sk s (sk s x+1)),iV u]⟩] [];replace e:=e.trans F;rw[if_neg z] at y
 refine lL d ac (aE (lL d ac ?_));have C:=bB (s:=s) (a:=(sk s (sk s x+1))) oM;refine bj 25 (jq i s l (sk s (sk s x+1)) oM u _ _ d.g (d.own 0) (d.jk 0) d.f.r.1) ?_;rintro _ _ _ X ⟨rfl,B⟩;rw[<-y] at B C
 rw[<-y];replace d:=(d.stepM 0 X B).to [⟨i,59,[.string s,nV b,iV u]⟩] [];replace e:=e.trans X;refine aE (lL d [.c,.v (pB i),.v (qP i 1),.o (nV b) 0 1 1,.c] (aE (lL d ac ?_)));have U:=f4 bM s b;have V:=dB (p:=bM) (s:=s) (a:=b) oM;have hxs:(s.extract b (rn bM s b)).size=rn bM s b-b:=by rw[ByteArray.size_extract];omega
 refine bj 31 (oO 45 bM (fun _ _=>by kernel_rfl) (fun c hc w h g=>fC c hc w h g) i s l b oM u _ _ d.g (d.own 0) (d.jk 0) d.f.r.1) ?_;rintro _ _ _ S ⟨rfl,O⟩;replace d:=(d.stepM 0 S O).to [⟨i,59,[.string s,nV (rn bM s b),iV u]⟩] [];replace e:=e.trans S;refine lL d ac (ai (aa d [.c,.v (nV ((s.extract b (rn bM s b)).size))] ?_))
 rcases Ku (3<rn bM s b-b) with hcs_|hcs_
 .
  have zc:(decide ((3:Int)<(((s.extract b (rn bM s b)).size:Nat):Int)))=true:=decide_eq_true oM;refine lB 34 zc (aj (aa d aF (bj 37 (eh i s l (rn bM s b) oM u b oM _ _ d.g (d.own 0) (d.jk 0) d.f.r.1) ?_)));rintro _ _ _ Z ⟨rfl,Q⟩;replace d:=(d.stepM 0 Z Q).to [⟨i,59,[.string s,nV (rn bM s b),nV b]⟩] [];replace e:=e.trans Z;exact lL d ac (lN (kX (d.retM e [] (.pointer none) ⟨(rn bM s b),rfl,by omega,d.own 0⟩)))
 have L:fM (s.extract b (rn bM s b))=none:=H.resolve_left hcs_;have zd:(decide ((3:Int)<(((s.extract b (rn bM s b)).size:Nat):Int)))=false:=decide_eq_false oM;refine lB 34 zd (ah (cK (aa d ac (d7 40 (hnpe (s.extract b (rn bM s b)) oM L _ _ d.g) ?_))));rintro _ _ _ u51 rfl;replace e:=e.trans (u51.m _);replace d:=d.step u51;refine lL d [.c,.v (nv 0),.v qF] (fe 7 26 ([uV 0,eS]) d (fun zf _ _ u55 k d=>?_));replace k:=ed e.gr.size k;replace e:=e.trans (u55.m _);refine ce 0 0 (nc 0) d (fun _ pu d=>?_);replace e:=e.put2 pu k g d.g;refine lL d ac (ai (aa d [.c,.v qT] (aj (aa d aF (bj 47 (eh i s l (rn bM s b) oM u b oM _ _ d.g (d.own 1) (d.jk 1) d.f.r.1) ?_)))));rintro _ _ _ W ⟨rfl,I⟩;replace d:=(d.stepM 1 W I).to [⟨zf,26,nc 0⟩,⟨i,59,[.string s,nV (rn bM s b),nV b]⟩] [];replace e:=e.trans W;exact lL d ac (lN (kX (d.retM e [] (.pointer none) ⟨(rn bM s b),rfl,by omega,d.own 1⟩)))
theorem Eb  (hnfe:Ij nf)(hbfe:Iq bf)(ihc:Gb nf bf n)(ihs:PC nf bf 12 n .sum)(bw:p7 nf bf 12 n .sum)(i:Nat)(s:ByteArray)(k:s.size<=1000000)(a:Nat)(ha:a<=s.size)(x:Int)(b:Nat)(hq:bn nf bf s (n+1) .atom a=some (.err b))(w:World)(h:Hp)(g:G w h)(ho:Own w i 59 [.string s,nV a,iV x])(hj:h[i]?=some junk)(tb:Tab h):Calls Tryz.prog 102 #[pB i] w (bW i w h (rm i s b)):=by
 have e:UpM [i] w h w h:=UpM.refl g;obtain ⟨wz,M,d⟩:=SS.at_ g ho hj;replace d:=(d.add (K:=fun j=>Tab j) tb);refine go Tryz.func102 [(0,pB i)] rfl (aa d ac (aE (lL d ac ?_)));have b7:=bB (s:=s) (a:=a) oM;refine bj 13 (jq i s k a ha x _ _ d.g (d.own 0) (d.jk 0) d.f.1) ?_;rintro _ w2 h3 u4 ⟨rfl,b2⟩;replace d:=(d.stepM 0 u4 b2).to [⟨i,59,[.string s,nV (sk s a),iV x]⟩] [];replace e:=e.trans u4;refine lL d ac (aE (lL d [.c,.v (pB i),.v (qP i 1),.o (nV (sk s a)) 0 1 1,.c] (ai (kZ (CG.join (fun Γ w_=>∃ (ze:Bool)(j:Hp),Γ=[(0,pB i),(2,.pointer none),(3,.int .u8 (ak s (sk s a):Nat)),(4,nV (sk s a)),(18,.bool ze)]/\SS wz M w_ j [⟨i,59,[.string s,nV (sk s a),iV x]⟩] [] [fun j=>Tab j]/\(ze=true->¬¬((48<=ak s (sk s a)/\ak s (sk s a)<=57)\/ak s (sk s a)=46))/\(ze=false->cH (ak s (sk s a))=false)/\UpM [i] w h w_ j) ?_ ?_)))))
 .
  refine kQ (lL d ac (d7 20 (fC (ak s (sk s a)) (bh _ _) _ _ d.g) ?_));rintro _ w5 h6 u7 rfl;replace e:=e.trans (u7.m _);replace d:=d.step u7;cases hb8:(decide (48<=ak s (sk s a)/\ak s (sk s a)<=57))
  .
   have b1:=oF hb8;refine lL d aF ?_;cases J:(((ak s (sk s a):Nat):Int) == (46:Int))
   .
    have bp:=ao J;refine lB 23 J (lL d [.v qF,.c] (lD ?_));intro a_ C;exact ⟨_,⟨false,h6,rfl,d.to _ _,(fun j=>absurd j kD),(fun _=>decide_eq_false oM),e⟩,C.to _ kR⟩
   have bp:=eq_of_beq J;refine lB 23 J (lL d [.v qT,.c] (lD ?_));intro a_ C;exact ⟨_,⟨true,h6,rfl,d.to _ _,(fun _=>by omega),(fun j=>absurd j kD),e⟩,C.to _ kR⟩
  have b1:=oT hb8;refine lL d ac (lG 22 ?_);refine lG 23 (lL d [.v qT,.c] (lD ?_));intro a_ C;exact ⟨_,⟨true,h6,rfl,d.to _ _,(fun _=>by omega),(fun j=>absurd j kD),e⟩,C.to _ kR⟩
 rintro _ _ ⟨ze,_,rfl,d,zm,y,e⟩;cases za:(ze)
 .
  try rw[za] at d
  try rw[za]
  refine da (CG.join (fun Γ w_=>∃ (zf:Bool)(j:Hp),Γ=[(0,pB i),(2,.pointer none),(3,.int .u8 (ak s (sk s a):Nat)),(4,nV (sk s a)),(38,.bool zf)]/\SS wz M w_ j [⟨i,59,[.string s,nV (sk s a),iV x]⟩] [] [fun j=>Tab j]/\(zf=true->dI (ak s (sk s a))\/ak s (sk s a)=95)/\(zf=false->¬(dI (ak s (sk s a))\/ak s (sk s a)=95))/\UpM [i] w h w_ j) ?_ ?_)
  .
   refine kQ (lL d ac (d7 40 (jo (ak s (sk s a)) (bh _ _) _ _ d.g) ?_));rintro _ _ zg u24 rfl;replace e:=e.trans (u24.m _);replace d:=d.step u24;cases zi:(decide (dI (ak s (sk s a))))
   .
    have zj:=oF zi;refine lL d aF ?_;cases zb:(((ak s (sk s a):Nat):Int) == (95:Int))
    .
     have zk:=ao zb;refine lB 43 zb (lL d [.v qF,.c] (lD ?_));intro a_ C;exact ⟨_,⟨false,zg,rfl,d.to _ _,(fun j=>absurd j kD),(fun _ j=>by rcases j with j|j;exact absurd j aM;omega),e⟩,C.to _ kR⟩
    have zk:=eq_of_beq zb;refine lB 43 zb (lL d [.v qT,.c] (lD ?_));intro a_ C;exact ⟨_,⟨true,zg,rfl,d.to _ _,(fun _=>by first|exact .inl aM|exact .inr oM),(fun j=>absurd j kD),e⟩,C.to _ kR⟩
   have zj:=oT zi;refine lL d ac (lG 42 ?_);refine lG 43 (lL d [.v qT,.c] (lD ?_));intro a_ C;exact ⟨_,⟨true,zg,rfl,d.to _ _,(fun _=>by first|exact .inl aM|exact .inr oM),(fun j=>absurd j kD),e⟩,C.to _ kR⟩
  rintro _ _ ⟨zf,_,rfl,d,bq,D,e⟩;cases zc:(zf)
  .
   try rw[zc] at d
   try rw[zc]
   refine da (aa d ac ?_)
   rcases Ku (ak s (sk s a)=91) with hcs_|hcs_
   .
    have zn:(((ak s (sk s a):Nat):Int) == (91:Int))=true:=ko oM;refine lB 68 zn (lL d ac (aj (aa d ac (bj 70 (hbfe i s k (sk s a) oM x b (by obtain ⟨q1_,q2_⟩:=Ca hq (y aM) (D aM) hcs_;exact ⟨hcs_,q1_,q2_⟩) _ _ d.g (d.own 0) (d.jk 0) d.f.1) ?_))));rintro _ _ _ u43 ⟨H,rfl,b3,S⟩;replace d:=(d.stepM 0 u43 S).to [⟨i,59,[.string s,nV H,nV b]⟩] [];replace e:=e.trans u43;exact lL d ac (lN (kX (d.retM e [] (.pointer none) ⟨H,rfl,by omega,d.own 0⟩)))
   have zl:=hcs_;have zo:(((ak s (sk s a):Nat):Int) == (91:Int))=false:=gI oM;refine lB 68 zo (lL d ac (ah (aa d ac ?_)))
   rcases Ku (ak s (sk s a)=40) with hcs_|hcs_
   .
    have cq:=cn (s:=s) (a:=sk s a) oM;have br:=vi hq (y aM) (D aM) zl hcs_;have zp:(((ak s (sk s a):Nat):Int) == (40:Int))=true:=ko oM;refine lB 73 zp (lL d ac (aj (aa d [.c,.v (pB i),.v (qP i 1),.o (nV (sk s a)) 0 1 1] (bg 78 ((sk s a:Nat)+1) ((sk s a)+1) ?_))));refine lL d [.v (pB i),.v (qP i 1)] (ce 0 1 ([nV ((sk s a)+1)]) d (fun _ pu d=>?_));replace e:=e.put pu (n1.2 rfl) d.g;refine aE (lL d ac ?_)
    rcases br with hE|⟨t1,e1,hq1,hd1,l⟩
    .
     refine bj 82 (bw i s k ((sk s a)+1) oM x b hE _ _ d.g (d.own 0) (d.jk 0) d.f.1) ?_;rintro _ _ _ u50 ⟨F,rfl,b4,bl⟩;replace d:=(d.stepM 0 u50 bl).to [⟨i,59,[.string s,nV F,nV b]⟩] [];replace e:=e.trans u50;refine lL d ac (ai (aa d [.c,.v qF,.c] (lG 86 ?_)));exact lG 87 (lG 88 (lL d [.v qF] (ah (cK (aa d aF (lN (kX (d.retM e [] (.pointer none) ⟨F,rfl,by omega,d.own 0⟩))))))))
    refine bj 82 (ihs i s k ((sk s a)+1) oM x t1 e1 hq1 _ _ d.g (d.own 0) (d.jk 0) d.f.1) ?_;rintro _ _ _ u54 ⟨ch,b0,rfl,cm,bb,X,Q⟩;replace d:=(d.stepM 0 u54 bb).to [⟨i,59,[.string s,nV e1,iV x]⟩] [];replace e:=e.trans u54;replace d:=((d.a_Seg X).add (K:=fun j=>PtH j b0 t1) Q);refine lL d ac (ai (aa d [.c,.v qT,.c,.c] ?_));have b5:=bB (s:=s) (a:=e1) oM;refine bj 87 (fw i s k e1 oM x 41 kD _ _ d.g (d.own 0) (d.jk 0) d.f.r.1) ?_;rintro _ _ _ L (⟨rfl,z,b9,B⟩|⟨rfl,z,B⟩)
    .
     replace d:=(d.stepM 0 L B).to [⟨i,59,[.string s,nV (sk s e1+1),iV x]⟩] [];replace e:=e.trans L;have hcT:=z;refine lL d [.v qF,.v qF] (ah (cK (aa d aF (lN (kX ?_)))));exact absurd hcT hd1
    replace d:=(d.stepM 0 L B).to [⟨i,59,[.string s,nV (sk s e1),iV x]⟩] [];replace e:=e.trans L;have hcF:=z;refine lL d [.v qT,.v qT] (aj (aa d [.c,.c,.v (pB i),.v (qP i 1),.o (nV (sk s e1)) 0 1 1] (bj 95 (eh i s k (sk s e1) oM x (sk s e1) oM _ _ d.g (d.own 0) (d.jk 0) d.f.r.1) ?_)));rintro _ _ _ u62 ⟨rfl,bk⟩;replace d:=(d.stepM 0 u62 bk).to [⟨i,59,[.string s,nV (sk s e1),nV (sk s e1)]⟩] [];replace e:=e.trans u62;exact lL d ac (lN (kX (d.retM e [] (.pointer none) (by rw[l];exact ⟨(sk s e1),rfl,by omega,d.own 0⟩))))
   have zq:(((ak s (sk s a):Nat):Int) == (40:Int))=false:=gI oM;refine lB 73 zq (lL d ac (ah (cK (aa d aF (bj 99 (eh i s k (sk s a) oM x (sk s a) oM _ _ d.g (d.own 0) (d.jk 0) d.f.1) ?_)))));rintro _ _ _ u67 ⟨rfl,W⟩;replace d:=(d.stepM 0 u67 W).to [⟨i,59,[.string s,nV (sk s a),nV (sk s a)]⟩] [];replace e:=e.trans u67;refine lL d ac (lN (kX ?_));have l:=BI hq (y aM) (D aM) zl hcs_;exact d.retM e [] (.pointer none) (by rw[l];exact ⟨(sk s a),rfl,by omega,d.own 0⟩)
  try rw[zc] at d
  try rw[zc]
  refine ci (aa d ac ?_);have hcW:=bq aM;have bt:=dB (p:=bF) (s:=s) (a:=sk s a) oM;refine bj 46 (oO 23 bF (fun _ _=>by kernel_rfl) (fun c hc w h g=>l8 c hc w h g) i s k (sk s a) oM x _ _ d.g (d.own 0) (d.jk 0) d.f.1) ?_;rintro _ _ _ u70 ⟨rfl,Z⟩;replace d:=(d.stepM 0 u70 Z).to [⟨i,59,[.string s,nV (rn bF s (sk s a)),iV x]⟩] [];replace e:=e.trans u70;refine lL d ac (ai (aG (d7 48 (ny _ _ d.g) ?_)));rintro _ _ _ u73 ⟨bm,rfl,hcm⟩;replace e:=e.trans (u73.m _);replace d:=d.step u73;replace d:=(d.add (K:=fun j=>MapS j bm gO) hcm);refine lL d ac (In 50 77 9 3 (s.extract (sk s a) (rn bF s (sk s a))) true (iV (ag (s.extract (sk s a) (rn bF s (sk s a))))) ((bU (s.extract (sk s a) (rn bF s (sk s a))))) d d.f.1 ?_ (hf:=(by rcases ox (s.extract (sk s a) (rn bF s (sk s a))) with ⟨i_,e1_,e2_⟩|⟨e1_,e2_,e3_⟩;exact .inl ⟨i_,e1_,e2_⟩;exact .inr ⟨e1_,e2_,fun _=>by rw[e3_];kernel_rfl⟩)));refine lL d [.c,.v (iV (ag (s.extract (sk s a) (rn bF s (sk s a))))),.v (.bool (bU (s.extract (sk s a) (rn bF s (sk s a))))),.c,.c] (aE (lL d ac (lN ?_)));cases zd:((bU (s.extract (sk s a) (rn bF s (sk s a)))))
  .
   try rw[zd] at d
   try rw[zd]
   refine da (cK (cQ (aa d ac ?_)));obtain ⟨hnm,l⟩:=wu hq (y aM) hcW aM;refine d7 58 ((by have q_:=qE (s.extract (sk s a) (rn bF s (sk s a))) (by rw[ByteArray.size_extract];omega) _ _ d.g;rw[hnm] at q_;exact q_)) ?_;rintro _ _ _ u77 rfl;replace e:=e.trans (u77.m _);replace d:=d.step u77;refine lL d [.v qT] (aj (aa d aF (bj 62 (eh i s k (rn bF s (sk s a)) oM x (sk s a) oM _ _ d.g (d.own 0) (d.jk 0) d.f.2.1) ?_)));rintro _ _ _ u81 ⟨rfl,U⟩;replace d:=(d.stepM 0 u81 U).to [⟨i,59,[.string s,nV (rn bF s (sk s a)),nV (sk s a)]⟩] [];replace e:=e.trans u81;exact lL d ac (lN (kX (d.retM e [] (.pointer none) (by rw[l];exact ⟨((rn bF s (sk s a)):Nat),rfl,by omega,d.own 0⟩))))
  try rw[zd] at d
  try rw[zd]
  refine ci (aa d aF (bj 56 (ihc (ag (s.extract (sk s a) (rn bF s (sk s a)))) (p5 aM) i s k (rn bF s (sk s a)) oM x b (Be hq (y aM) hcW aM) _ _ d.g (d.own 0) (d.jk 0) d.f.2.1) ?_));rintro _ _ _ u85 ⟨I,rfl,b6,Y⟩;replace d:=(d.stepM 0 u85 Y).to [⟨i,59,[.string s,nV I,nV b]⟩] [];replace e:=e.trans u85;exact lL d ac (lN (kX (d.retM e [] (.pointer none) ⟨I,rfl,by omega,d.own 0⟩)))
 try rw[za] at d
 try rw[za]
 refine ci (aa d ac ?_);obtain ⟨hnq,l⟩:=vj hq (decide_eq_true (Decidable.byContradiction fun j=>zm aM j));have bt:=dB (p:=cH) (s:=s) (a:=sk s a) oM;refine bj 27 (oO 125 cH (fun _ _=>by kernel_rfl) (fun c hc w h g=>Hd c hc w h g) i s k (sk s a) oM x _ _ d.g (d.own 0) (d.jk 0) d.f.1) ?_;rintro _ _ _ u88 ⟨rfl,Z⟩;replace d:=(d.stepM 0 u88 Z).to [⟨i,59,[.string s,nV (rn cH s (sk s a)),iV x]⟩] [];replace e:=e.trans u88;refine d7 28 (hnfe _ (by rw[ByteArray.size_extract];omega) hnq _ _ d.g d.f.1) ?_;rintro _ _ _ u91 rfl;replace e:=e.trans (u91.m _);replace d:=d.step u91;refine lL d [.c,.v (qv 0),.v qF] (fe 5 30 a1 d (fun zr _ _ u95 u d=>?_));replace u:=ed e.gr.size u;replace e:=e.trans (u95.m _);refine ce 0 0 (qc 0) d (fun _ pu d=>?_);replace e:=e.put2 pu u g d.g;refine lL d ac (ai (aa d [.c,.v qT] (aj (aa d aF (bj 35 (eh i s k (rn cH s (sk s a)) oM x (sk s a) oM _ _ d.g (d.own 1) (d.jk 1) d.f.1) ?_)))));rintro _ _ _ O ⟨rfl,V⟩;replace d:=(d.stepM 1 O V).to [⟨zr,30,qc 0⟩,⟨i,59,[.string s,nV (rn cH s (sk s a)),nV (sk s a)]⟩] [];replace e:=e.trans O;exact lL d ac (lN (kX (d.retM e [] (.pointer none) (by rw[l];exact ⟨((rn cH s (sk s a)):Nat),rfl,by omega,d.own 1⟩))))
theorem DL  (op:Int)(hop:9<=op/\op<=13)(ihs:PC nf bf 12 n .sum)(Z:p7 nf bf 12 n .sum)(i:Nat)(s:ByteArray)(l:s.size<=1000000)(a:Nat)(ha:a<=s.size)(u:Int)(b:Nat)(hq:bn nf bf s (n+1) (.call op) a=some (.err b))(w:World)(h:Hp)(g:G w h)(ho:Own w i 59 [.string s,nV a,iV u])(hj:h[i]?=some junk)(tb:Tab h):Calls Tryz.prog 126 #[pB i,iV op] w (bW i w h (rm i s b)):=by
 have e:UpM [i] w h w h:=UpM.refl g;obtain ⟨wz,c7,d⟩:=SS.at_ g ho hj;replace d:=(d.add (K:=fun V=>Tab V) tb);refine go Tryz.func126 [(0,pB i),(1,iV op)] rfl (aa d ac (ai (aa d ac ?_)));have cz:=bB (s:=s) (a:=a) oM;refine bj 9 (fw i s l a ha u 40 kD _ _ d.g (d.own 0) (d.jk 0) d.f.1) ?_;rintro _ w2 h3 u4 (⟨rfl,L,c8,U⟩|⟨rfl,L,U⟩)
 .
  replace d:=(d.stepM 0 u4 U).to [⟨i,59,[.string s,nV (sk s a+1),iV u]⟩] [];replace e:=e.trans u4;have hcT:=L;refine lL d [.v qF] (ah (cK (aa d ac ?_)))
  rcases mG hq with ⟨hn40,_⟩|⟨_,hE|⟨u1,e1,hq1,hA,hB⟩⟩
  ·exact absurd hcT hn40
  .
   refine bj 18 (Z i s l (sk s a+1) oM u b hE _ _ d.g (d.own 0) (d.jk 0) d.f.1) ?_;rintro _ w6 h7 u8 ⟨bb,rfl,c5,b5⟩;replace d:=(d.stepM 0 u8 b5).to [⟨i,59,[.string s,nV bb,nV b]⟩] [];replace e:=e.trans u8;exact lL d ac (ai (aa d [.c,.v qT] (aj (aa d ac (lN (kX (d.retM e [] (.pointer none) ⟨bb,rfl,by omega,d.own 0⟩)))))))
  refine bj 18 (ihs i s l (sk s a+1) oM u u1 e1 hq1 _ _ d.g (d.own 0) (d.jk 0) d.f.1) ?_;rintro _ _ _ u12 ⟨O,J,rfl,c6,b9,b2,b4⟩;replace d:=(d.stepM 0 u12 b9).to [⟨i,59,[.string s,nV e1,iV u]⟩] [];replace e:=e.trans u12;replace d:=((d.a_Seg b2).add (K:=fun V=>PtH V J u1) b4);refine lL d ac (ai (aa d [.c,.v qF] (ah (cK (aa d [.c,.c,.v (pB O)] (lH 24 (a8 J) d d.f.2.1 ?_))))));refine d7 25 (ws op J u1 _ _ d.g d.f.1) ?_;rintro _ _ _ u16 ⟨j,rfl,bt⟩;replace e:=e.trans (u16.m _);replace d:=d.step u16;replace d:=(d.add (K:=fun V=>PtH V j (fQ op u1)) bt);refine fe 6 33 a2 d (fun H _ _ u20 k d=>?_);replace k:=ed e.gr.size k;replace e:=e.trans (u20.m _);refine ce 0 0 (bv j) d (fun _ pu d=>?_);replace e:=e.put2 pu k g d.g;refine ai (aa d ac (d7 27 (ni op _ _ d.g) ?_));rintro _ _ _ u24 rfl;replace e:=e.trans (u24.m _);replace d:=d.step u24
  rcases s7 hop with ⟨ho2,har⟩|⟨ho2,har⟩
  .
   have zb:((fH op:Int) == (2:Int))=true:=by rw[har];rfl
   refine lB 28 zb ?_;replace hA:=hA ho2;refine aj (cQ (aa d ac ?_));have cr:=bB (s:=s) (a:=e1) oM;refine bj 30 (fw i s l e1 oM u 44 kD _ _ d.g (d.own 1) (d.jk 1) d.f.r.2.1) ?_;rintro _ _ _ W (⟨rfl,z,c3,F⟩|⟨rfl,z,F⟩)
   .
    replace d:=(d.stepM 1 W F).to [⟨H,33,bv j⟩,⟨i,59,[.string s,nV (sk s e1+1),iV u]⟩] [];replace e:=e.trans W;have b7:=z;refine lL d [.v qF] (ah (cK (aa d ac ?_)))
    rcases hA with ⟨hd2,_⟩|⟨_,hE2|⟨v1,f1,hq2,hd3,p⟩⟩
    ·exact absurd b7 hd2
    .
     refine bj 39 (Z i s l (sk s e1+1) oM u b hE2 _ _ d.g (d.own 1) (d.jk 1) d.f.r.2.1) ?_;rintro _ _ _ u33 ⟨Q,rfl,cm,bm⟩;replace d:=(d.stepM 1 u33 bm).to [⟨H,33,bv j⟩,⟨i,59,[.string s,nV Q,nV b]⟩] [];replace e:=e.trans u33;exact lL d ac (ai (aa d [.c,.v qT] (aj (aa d ac (lN (kX (d.retM e [] (.pointer none) ⟨Q,rfl,by omega,d.own 1⟩)))))))
    refine bj 39 (ihs i s l (sk s e1+1) oM u v1 f1 hq2 _ _ d.g (d.own 1) (d.jk 1) d.f.r.2.1) ?_;rintro _ _ _ u37 ⟨I,S,rfl,cy,bl,bw,br⟩;replace d:=(d.stepM 1 u37 bl).to [⟨H,33,bv j⟩,⟨i,59,[.string s,nV f1,iV u]⟩] [];replace e:=e.trans u37;replace d:=((d.a_Seg bw).add (K:=fun V=>PtH V S v1) br);refine lL d ac (ai (aa d [.c,.v qF] (ah (cK (cR 8 [] mixed d aw ?_)))));refine eV 0 42 (iV op) (eV 1 43 (pB O) (eV 2 44 (pB O) (eH 3 45 (a8 J) d d.f.q.1 (eV 4 46 (pB I) (eV 5 47 (pB I) (eH 6 48 (a8 S) d d.f.2.1 (ie 7 49 d e (fun _ _ d=>t6 op J S u1 v1 _ _ d.g d.f.r.2.1 d.f.1) ?_)))))));rintro _ _ _ _ _ e d ⟨x,rfl,bk⟩;replace d:=(d.add (K:=fun V=>PtH V x (bz op u1 v1)) bk);refine bL d (fun _ _ u43 d=>?_);replace e:=e.trans (u43.m _);refine kj 8 0 0 (bv x) d (fun _ pu d=>?_);replace e:=e.put2 pu k g d.g;refine tN (cQ (aa d ac ?_));have ch:=bB (s:=s) (a:=f1) oM;refine bj 51 (fw i s l f1 oM u 41 kD _ _ d.g (d.own 1) (d.jk 1) d.f.q.r.1) ?_;rintro _ _ _ Y (⟨rfl,C,c4,y⟩|⟨rfl,C,y⟩)
    .
     replace d:=(d.stepM 1 Y y).to [⟨H,33,bv x⟩,⟨i,59,[.string s,nV (sk s f1+1),iV u]⟩] [];replace e:=e.trans Y;have M:=C;refine lL d [.v qF] (ah (cK (aa d ac (lN (kX ?_)))));exact absurd M hd3
    replace d:=(d.stepM 1 Y y).to [⟨H,33,bv x⟩,⟨i,59,[.string s,nV (sk s f1),iV u]⟩] [];replace e:=e.trans Y;have b3:=C;refine lL d [.v qT] (aj (aa d [.c,.c,.v (pB i),.v (qP i 1),.o (nV (sk s f1)) 1 1 1] (bj 58 (eh i s l (sk s f1) oM u (sk s f1) oM _ _ d.g (d.own 1) (d.jk 1) d.f.q.r.1) ?_)));rintro _ _ _ u52 ⟨rfl,b1⟩;replace d:=(d.stepM 1 u52 b1).to [⟨H,33,bv x⟩,⟨i,59,[.string s,nV (sk s f1),nV (sk s f1)]⟩] [];replace e:=e.trans u52;refine lL d ac (lN (bG [(4,.pointer none),(6,pB H)] ?_));exact kX (d.retM e [] (.pointer none) (by rw[p];exact ⟨(sk s f1),rfl,by omega,d.own 1⟩))
   replace d:=(d.stepM 1 W F).to [⟨H,33,bv j⟩,⟨i,59,[.string s,nV (sk s e1),iV u]⟩] [];replace e:=e.trans W;have b6:=z;refine lL d [.v qT] (aj (aa d [.c,.c,.v (pB i),.v (qP i 1),.o (nV (sk s e1)) 1 1 1] (bj 37 (eh i s l (sk s e1) oM u (sk s e1) oM _ _ d.g (d.own 1) (d.jk 1) d.f.r.2.1) ?_)));rintro _ _ _ u56 ⟨rfl,b0⟩;replace d:=(d.stepM 1 u56 b0).to [⟨H,33,bv j⟩,⟨i,59,[.string s,nV (sk s e1),nV (sk s e1)]⟩] [];replace e:=e.trans u56;refine lL d ac (lN (kX ?_));obtain p:b=sk s e1:=by rcases hA with ⟨_,e_⟩|⟨e_,_⟩;exact e_;exact absurd e_ b6
   exact d.retM e [] (.pointer none) (by rw[p];exact ⟨(sk s e1),rfl,by omega,d.own 1⟩)
  have zc:((fH op:Int) == (2:Int))=false:=by rw[har];rfl
  refine lB 28 zc ?_;obtain ⟨hd1,p⟩:=hB ho2;refine ah (cK (cQ (aa d ac ?_)));have cq:=bB (s:=s) (a:=e1) oM;refine bj 51 (fw i s l e1 oM u 41 kD _ _ d.g (d.own 1) (d.jk 1) d.f.r.2.1) ?_;rintro _ _ _ X (⟨rfl,D,cx,B⟩|⟨rfl,D,B⟩)
  .
   replace d:=(d.stepM 1 X B).to [⟨H,33,bv j⟩,⟨i,59,[.string s,nV (sk s e1+1),iV u]⟩] [];replace e:=e.trans X;have M:=D;refine lL d [.v qF] (ah (cK (aa d ac (lN (kX ?_)))));exact absurd M hd1
  replace d:=(d.stepM 1 X B).to [⟨H,33,bv j⟩,⟨i,59,[.string s,nV (sk s e1),iV u]⟩] [];replace e:=e.trans X;have b3:=D;refine lL d [.v qT] (aj (aa d [.c,.c,.v (pB i),.v (qP i 1),.o (nV (sk s e1)) 1 1 1] (bj 58 (eh i s l (sk s e1) oM u (sk s e1) oM _ _ d.g (d.own 1) (d.jk 1) d.f.r.2.1) ?_)));rintro _ _ _ u65 ⟨rfl,bp⟩;replace d:=(d.stepM 1 u65 bp).to [⟨H,33,bv j⟩,⟨i,59,[.string s,nV (sk s e1),nV (sk s e1)]⟩] [];replace e:=e.trans u65;exact lL d ac (lN (kX (d.retM e [] (.pointer none) (by rw[p];exact ⟨(sk s e1),rfl,by omega,d.own 1⟩))))
 replace d:=(d.stepM 0 u4 U).to [⟨i,59,[.string s,nV (sk s a),iV u]⟩] [];replace e:=e.trans u4;have hcF:=L;refine lL d [.v qT] (aj (aa d [.c,.c,.v (pB i),.v (qP i 1),.o (nV (sk s a)) 0 1 1] (bj 16 (eh i s l (sk s a) oM u (sk s a) oM _ _ d.g (d.own 0) (d.jk 0) d.f.1) ?_)));rintro _ _ _ u69 ⟨rfl,bq⟩;replace d:=(d.stepM 0 u69 bq).to [⟨i,59,[.string s,nV (sk s a),nV (sk s a)]⟩] [];replace e:=e.trans u69;refine lL d ac (lN (kX ?_));obtain p:b=sk s a:=by rcases mG hq with ⟨_,e_⟩|⟨e_,_⟩;exact e_;exact absurd e_ hcF
 exact d.retM e [] (.pointer none) (by rw[p];exact ⟨(sk s a),rfl,by omega,d.own 0⟩)
end
section
variable {nf bf:ByteArray->Option Rat}(hnf:Bn nf)(hnp:AT)(hbf:Hx bf)(hnfe:Ij nf)(hnpe:Ik)(hbfe:Iq bf)
include hnf hnp hbf hnfe hnpe hbfe
def GI (nf bf:ByteArray->Option Rat)(n:Nat):Prop:=p7 nf bf 12 n .sum/\p7 nf bf 31 n .prod/\p7 nf bf 51 n .sign/\p7 nf bf 79 n .pow/\p7 nf bf 102 n .atom/\Gb nf bf n
theorem Hk (n:Nat):GI nf bf n:=by
  induction n using Nat.strongRecOn with
  | ind n ih =>
    cases n with
    | zero=>exact ⟨fun _ _ _ _ _ _ _ h=>(by cases h),fun _ _ _ _ _ _ _ h=>(by cases h),fun _ _ _ _ _ _ _ h=>(by cases h),fun _ _ _ _ _ _ _ h=>(by cases h),fun _ _ _ _ _ _ _ h=>(by cases h),fun _ _ _ _ _ _ _ _ _ h=>(by cases h)⟩
    | succ n =>
      have i:=ih n (Nat.lt_succ_self n);have o:=fun m=>Fl (nf:=nf) hnf hnp hbf m
      refine ⟨?_,?_,?_,?_,?_,?_⟩
      . intro f s h1 a k p b u w h g j d l
        rcases pI (lv:=false) u with he|⟨t,c,e1,e2⟩
        . exact Dz n i.2.1 f s h1 a k p b he w h g j d l
        . exact Eh n (fun m _=>(o m).2.1) (fun m y=>(ih m oM).2.1) f s h1 a k p b t c e1 e2 w h g j d l
      . intro f s h1 a k p b u w h g j d l
        rcases pI (lv:=true) u with he|⟨t,c,e1,e2⟩
        . exact rd n i.2.2.1 f s h1 a k p b he w h g j d l
        . exact rg n (fun m _=>(o m).2.2.1) (fun m y=>(ih m oM).2.2.1) f s h1 a k p b t c e1 e2 w h g j d l
      . exact fun f s h1 a k p b u w h g j d l=>v6 n i.2.2.1 i.2.2.2.1 f s h1 a k p b u w h g j d l
      . intro f s h1 a k p b u w h g j d l
        rcases wx u with he|⟨v,e,e1,e2,e3⟩
        . exact wi n i.2.2.2.2.1 f s h1 a k p b he w h g j d l
        . exact vS n hnpe (o n).2.2.2.2.1 f s h1 a k p b v e e1 e2 e3 w h g j d l
      . exact fun f s h1 a k p b u w h g j d l=>Eb n hnfe hbfe i.2.2.2.2.2 (o n).1 i.1 f s h1 a k p b u w h g j d l
      . exact fun op x f s h1 a k p b u w h g j d l=>DL n op x (o n).1 i.1 f s h1 a k p b u w h g j d l
end
open Go.Shelf Go.RowKit Go.Sort Go.Lib
theorem qt (w:World)(T:TypeId)(a:Nat)(e:a<=24):Holds (fun (b:UInt8)=>Value.int .u8 (b.toNat:Int)) (w.alloc (.cells Lib.zeros24 T)) w.heap.size 0 (ow a (0:UInt8)):=fun j c=>by
 have d:j<a:=by simpa using c
 refine ⟨?_,World.frozen?_alloc_new _ _ _ _⟩;rw[World.cell?_alloc_new,Lib.zeros24_at _ oM,getElem!_pos _ j c]
 simp
theorem vJ (w:World)(o:Obj)(c:Array UInt8)(k:Nat):∃ d,(putRow (fun (b:UInt8)=>Value.int .u8 (b.toNat:Int)) (w.alloc o) w.heap.size 0 c).drewN k=Sort.grow (w.drewN k) d:=by
 rw[alloc_eq_grow];obtain ⟨a,_,e⟩:=putRow_grow_new (fun (b:UInt8)=>Value.int .u8 (b.toNat:Int)) w #[o] w.heap.size 0 c (Nat.le_refl _);exact ⟨a,by rw[e];rfl⟩
theorem Ei (u : Nat) (h100 : 100 <= u) (hu64 : u < 18446744073709551616) (w : World) (htab : Lib.TabIs Tryz.prog w "internal/strconv.uint64pow10" .u64 Lib.pow10Tab):Calls Tryz.prog 139 #[uV u,iV 10] w fun e w'=>e=.returned (.string ⟨(Lib.decDigits u).toArray⟩)/\∃ k os,w'=Sort.grow (w.drewN k) os:=by
  have t24:=Tryz.underlying182;have hu1:1<=u:=by omega
  have hnd20:Lib.nDigits u<=20:=by have:=Lib.numDigits_eq u hu1 hu64;split at this<;>omega
  have hal:Tryz.prog.arrayLen 182=24:=by simp[Program.arrayLen,t24]
  have hsl1:∀ W,(Instr.sliceAt 182 (.pointer (some ⟨w.heap.size,0,none⟩)) none (some (iV (Lib.nDigits u:Int))) none).run Tryz.prog W=.ok (qS (some ⟨w.heap.size,0,none⟩) (Lib.nDigits u) 24) W:=fun W=>by
    rw[run_sliceAt_array_h W 182 ⟨w.heap.size,0,none⟩ (by simp[Program.arrayLen,Program.elem,t24]) .i64 (Lib.nDigits u:Int) oM (by rw[hal];omega)]
    go_simp
    first|done|omega
  have hH0:=qt w 182 (Lib.nDigits u) oM;have hfmt:=Tryz.internal_strconv_formatBase10 w.heap.size 0 24 u (ow (Lib.nDigits u) 0) (w.alloc (.cells Lib.zeros24 182)) hH0 (by rw[KH];exact Lib.lt_pow_nDigits u) hu64 (by rw[KH];omega);rw[KH] at hfmt
  have HH0:=Lib.hid hH0
  clear hH0 hal t24
  go_enter Tryz.func139,Tryz.ntmps139
  go_wp2_with (first
    | (go_at_call 151;refine (Tryz.internal_strconv_numDigits u hu1 hu64 _ (Lib.tabIs_alloc htab _)).mono ?_;rintro e w' ⟨rfl,rfl⟩))
  go_at_call 152
  refine hfmt.mono ?_;rintro e w' ⟨rfl,k,v',dk,rfl,hF⟩
  have hcv:(convert 90 9 (qS (some ⟨w.heap.size,0,none⟩) (Lib.nDigits u) 24)).run Tryz.prog ((putRow (fun (b:UInt8)=>Value.int .u8 (b.toNat:Int)) (w.alloc (.cells Lib.zeros24 182)) w.heap.size 0 dk).drewN k)=.ok (.string ⟨(Lib.decDigits u).toArray⟩) ((putRow (fun (b:UInt8)=>Value.int .u8 (b.toNat:Int)) (w.alloc (.cells Lib.zeros24 182)) w.heap.size 0 dk).drewN k):=by
    have h:=run_convert_bytes_back (P:=Tryz.prog) ((putRow (fun (b:UInt8)=>Value.int .u8 (b.toNat:Int)) (w.alloc (.cells Lib.zeros24 182)) w.heap.size 0 dk).drewN k) 90 9 5 ⟨w.heap.size,0,none⟩ 24 (Lib.decDigits u) Tryz.underlying90 Tryz.underlying5 Tryz.underlying9 (fun j hj=>by
      rw[Lib.row_is_numeral hF j hj,Lib.add_plain,World.cell?_drewN];exact cell?_putRow (fun (b:UInt8)=>Value.int .u8 (b.toNat:Int)) _ w.heap.size 0 _ dk HH0.out (by rw[hF.size,KH]) j (by rw[hF.size];rw[Lib.decDigits_length] at hj;exact hj))
    rw[Lib.decDigits_length] at h
    exact h
  go_wp2
  go_ret
  obtain ⟨os,eo⟩:=vJ w (.cells Lib.zeros24 182) dk k;exact ⟨rfl,k,os,eo⟩
theorem Du (d:Nat)(Q:d<=24)(p:PTm)(t:Tm)(S:WfT (fun s=>cD s=true) d t)(U:ek d t<=1000)(y:sx d t)(M:(gC d t 0).length<=100000000000)(w:World)(h:Hp)(g:G w h)(J:TmH d h p t):CV 20 #[a8 p] w h (.tuple #[.string ⟨(gC d t 0).toArray⟩,iV 0]):=by
 have a:=((sS g).add (K:=fun i=>TmH d i p t) J);refine go Tryz.func20 [(0,a8 p)] rfl (aG (lA 1 33 (bv p) a (fun V w2 Y a=>lL a aF (ai (aa a [.o (a8 p) 0 0 9] (aq 6 a ((by have F:=wL cD fN BP (fun s i=>qf i) EB d p t Q _ _ a.g a.f.1 S;rw[if_neg oM] at F;exact F)) (fun j X a=>lL a [.v qF] (ah (cK (aG ?_))))))))));have l:=a;refine H7 4 92 [.pointer none,sZ] a (fun H k D B=>?_);obtain ⟨I,a,O⟩:=l.liftJ k
 have z:J8 5 j.heap.size j.heap.size I:=fun c o L e=>by
  rcases co c H.heap.size with h1|h1
  ·rw[O c L h1] at e;injection e with e;exact .inl e.symm
  ·rw[ea (by have:=a.g.size;omega)] at e;cases e
 have C:Lib.IsBuilderF 92 5 j.heap.size j.heap.size (Lib.byteCells []) H:=.inl ⟨nR _,_,B,World.ownsRowF_nil _ _ _ _,by simp[Value.ownBlock]⟩;refine aE (lL a [.o (a8 p) 0 0 9] (Aw 9 l k ((uJ d j.heap.size j.heap.size [] p t 0 _ _ a.g D z C a.f.1 y (by simpa using M)).mono fun _ _ i=>⟨i.1,i.2.1,i.2.2.1⟩) (fun W Z a b u=>?_)))
 clear k
 have k:=b;clear b;have x:Lib.IsBuilderF 92 5 j.heap.size j.heap.size (Lib.byteCells (gC d t 0)) _:=u;refine aE (Aw 10 l k ((Any.Builder_String_any_f Tryz.lays169 Tryz.Builder_Extra_169 j.heap.size j.heap.size (gC d t 0) _ x k.size).mono fun _ _ i=>⟨i.1,True.intro,i.2.2⟩) (fun _ _ a b u=>?_))
 clear k
 have k:=b;clear b;exact lL a aF (af a [] (.tuple #[.string (⟨(gC d t 0).toArray⟩),iV 0]) rfl)
theorem xJ {l:List Nat}{k i x:Nat}(hi:i<k):win (l.set i x) 0 k=(win l 0 k).set i x:=by
 have:=jr (l:=l) (o:=0) (x:=x) hi
 rwa [s4] at this
theorem xS {l:List Nat}{k i:Nat}(hi:i<k):(win l 0 k).getD i 0=l.getD i 0:=by rw[nI hi,s4]
theorem xT {w:World}{k:Nat}{a:Array Obj}:Ext w (Sort.grow (w.drewN k) a):=⟨rfl,rfl,rfl,by show w.heap.size<=(w.heap++a).size;simp,fun i hi=>by show (w.heap++a)[i]?=_;rw[et hi]⟩
theorem Tab.pow {w : World}{h : Hp}(t : Tab h)(g : G w h) : Lib.TabIs Tryz.prog w "internal/strconv.uint64pow10" .u64 Lib.pow10Tab := by
  obtain ⟨t1,g1,e⟩:=t.2;have e1 : Tryz.prog.globalNamed "internal/strconv.uint64pow10" = some 3 := by kernel_rfl
  unfold Lib.TabIs World.var?
  rw[e1]
  have e2:w.heap[3]?=some (.cells (Lib.pow10Tab.map fun z=>Value.int .u64 z).toArray t1 g1):=by
    rcases g.blk 3 with h1|h1
    . rw[<-h1];exact e
    . rw[e] at h1
      injection h1 with h1
      unfold junk at h1
      injection h1 with h1
      have e3:=congrArg Array.size h1
      simp[Lib.pow10Tab] at e3
  simp[e2]
theorem GX (n:Nat)(c:n<18446744073709551616)(w:World)(h:Hp)(g:G w h)(a:Tab h):Calls Tryz.prog 139 #[mV n,iV 10] w (Ret w h (fun v _=>v=.string (fI n))):=by
 rcases co n 100 with h1|h1
 ·exact wc n h1 w h g
 ·exact Ret.of_ext g ((Ei n h1 c w (a.pow g)).mono fun e w' ⟨d,k,f,b⟩=>⟨d,by rw[b];exact xT⟩)
theorem Dr (n:Nat)(c:n<18446744073709551616)(w:World)(h:Hp)(g:G w h)(b:Tab h):CV 113 #[mV n,iV 10] w h (.string (fI n)):=by
 have a:=((sS g).add (K:=fun d=>Tab d) b);exact go Tryz.func113 [(0,mV n),(1,iV 10)] rfl (aa a ac (aE (lL a aF (aq 7 a (GX n c _ _ a.g a.f.1) (fun w1 e a=>lL a ac (af a [] (.string (fI n)) rfl))))))
theorem CP (z:Int)(n:Nat)(hz:z=(n:Nat))(b:n<18446744073709551616)(w:World)(h:Hp)(g:G w h)(a:Tab h):Calls Tryz.prog 113 #[uV z,iV 10] w (Ret w h (fun v _=>v=.string (fI n))):=by
 subst hz;exact Dr n b w h g a
theorem Fj (n:Nat)(h0:0<n)(i:n<18446744073709551616)(w:World)(h:Hp)(g:G w h)(y:Tab h):CV 87 #[nv n] w h (.string (fI n)):=by
 have a:=((sS g).add (K:=fun z=>Tab z) y);have d:=gQ i;have j:=congrArg JC (iq h0 i)
 simp only[KC] at j
 refine go Tryz.func87 [(0,nv n)] rfl (aG (lA 1 26 (nc n) a (fun x w2 D a=>lL a ac (aE (lL a [.o (nv n) 0 0 2] (lC 10 a (fk n oM oM _ _ a.g) ?_))))));rintro _ F B a ⟨H,rfl,l,k,b⟩;replace a:=a.aS b;refine lL a ac (ai (aa a [.c,.v (nV ((wds n).length))] ?_));have ⟨e,u⟩:=dT (p:=(((wds n).length:Nat):Int)<=(1:Int)) oM;exact lB 13 e (aj (aa a [.v (pB x),.o (mV (n%18446744073709551616)) 0 0 1] (aq 16 a (CP _ n d i _ _ a.g a.f.2.1) (fun I C a=>lL a ac (af a [] (.string (fI n)) rfl)))))
theorem DX (n:Nat)(i:n<18446744073709551616)(b:(0:Int)=(n:Nat))(w:World)(h:Hp)(g:G w h)(d:Tab h):CV 87 #[nv 0] w h (.string (fI n)):=by
 have a:=((sS g).add (K:=fun j=>Tab j) d);exact go Tryz.func87 [(0,nv 0)] rfl (aG (lA 1 26 ([uV 0,eS]) a (fun e w2 l a=>lL a ac (aE (lL a [.o (.agg #[uV 0,eS]) 0 0 2] (aq 10 a (jj _ _ a.g) (fun u x a=>lL a ac (ai (aa a [.c,.v (iV 0),.v qT] (aj (aa a [.v (pB e),.o (uV 0) 0 0 1] (aq 16 a (CP _ n b i _ _ a.g a.f.1) (fun p k a=>lL a ac (af a [] (.string (fI n)) rfl))))))))))))))
theorem Gq (rb:Nat)(l:List Nat)(k c d x:Nat)(hd:0<d)(hdB:d<18446744073709551616)(hW:Wd l)(hl:l.length<=1000000000)(hk:k<=l.length)(hc:k<=c)(I:win l 0 k=wds x)(w:World)(h:Hp)(g:G w h)(ho:Own w rb 24 (l.flatMap ar))(hj:h[rb]?=some junk):Calls Tryz.prog 114 #[.slice (sB rb) k c,mV d] w (bW rb w h fun v w' _=>∃ z:List Nat,∃ D:Nat,v=.tuple #[.slice (sB rb) D c,mV (x%d)]/\z.length=l.length/\Wd z/\D<=z.length/\D<=c/\win z 0 D=wds (x/d)/\Own w' rb 24 (z.flatMap ar)):=by
 have e:UpM [rb] w h w h:=UpM.refl g;obtain ⟨wz,hz,a⟩:=SS.at_ g ho hj;have Z:l.length=l.length:=rfl;refine go Tryz.func114 [(0,qS (sB rb) k c),(1,mV d)] rfl (aa a aF (aE (lL a ac (ai (aa a [.c,.v (nV k)] (lV 10 (iV ((k:Int)-1)) ?_ (hr:=rS (((k:Nat)-1)) kR ((dS oM oM).trans oM))))))));refine lL a ac (bE ?_);refine bG _ (CG.loop (fun K Γ U=>∃ (m:Nat)(z:List Nat)(r:Nat)(h_:Hp),K=m/\Γ=[(0,qS (sB rb) k c),(1,mV d),(4,sZ),(5,uV 0),(7,iV ((m:Int)-1)),(6,mV r)]/\SS wz hz U h_ [⟨rb,24,(z).flatMap ar⟩] [] []/\m<=k/\z.length=l.length/\Wd z/\x=d*(18446744073709551616^m*am 18446744073709551616 ((win z 0 k).drop m))+(18446744073709551616^m*r+am 18446744073709551616 ((win z 0 k).take m))/\r<d/\UpM [rb] w h U h_) _ ⟨k,l,0,h,rfl,rfl,a.to _ _,nR _,rfl,hW,(by rw[I,List.drop_eq_nil_of_le (by rw[<-I,bx oM];exact nR _),List.take_of_length_le (by rw[<-I,bx oM];exact nR _)];have M:am 18446744073709551616 (wds x)=x:=aZ x;rw[M];simp[am]),hd,e⟩ ?_);rintro _ _ w1 ⟨m,z,r,h2,hm3,rfl,a,hm,o,C,j,Q,e⟩;refine cQ (aa a ac ?_);cases i:(decide ((0:Int)<=((m:Int)-1:Int)))
 .
  have u:=oF i;refine lB 12 i (ah (CG.exit ?_))
  show CG _ _ _ _ _ _ _ _
  refine aa a ac (vO 29 0 a (fun _ g_ f_ O=>uY (sB rb) c (win z 0 k) k (bx oM) (by rw[bx oM];omega) (by rw[bx oM];omega) _ _ g_ (SlO.win (f:=ar) (d:=0) (b:=rb) (l:=z) (fun _=>rfl) O 0 k)) ?_);rintro _ w5 h6 u7 a rfl;replace e:=e.trans (u7.m _);refine lL a dL (lN (kX ?_));have L:m=0:=by omega
  rw[L] at j
  have H:(win z 0 k).length=k:=bx oM;have hE:x=d*aD (win z 0 k)+r:=by simp only[JI,Nat.one_mul,List.drop_zero,List.take_zero,am,Nat.add_zero] at j;exact j
  obtain ⟨F,S⟩:=p3 hE Q;have y:=kY (C.win 0 k);rw[F,H] at y
  have J:=fY (win z 0 k) k;exact a.retM e [] (.tuple #[qS (sB rb) (tl (win z 0 k) k) c,mV r]) ⟨z,tl (win z 0 k) k,by rw[S],o,C,by omega,by omega,(by rw[y];exact (l6 J).symm),a.own 0⟩
 have u:=oT i;refine lB 12 i (aj (cK (cQ (kZ (kQ (lL a m5 (lX 21 (sB rb) k c 1 ((m:Int)-1) (m-1) rfl ?_)))))));have hzg:=C.get (m-1);refine lQ 22 0 z ar 1 0 (m-1) (mV ((z).getD (m-1) 0)) a oM (lL a ac (d7 24 (qg r ((z).getD (m-1) 0) d oM wM wM _ _ a.g) ?_));rintro _ _ zb p ⟨B,V,rfl,Y,W,X⟩;replace e:=e.trans (p.m _);replace a:=a.step p;refine lL a [.c,.v (mV B),.v (mV V)] (lX 27 (sB rb) k c 1 ((m:Int)-1) (m-1) rfl ?_);refine GF 0 z ar 1 (m-1) B a oM (fun _ pu a=>?_);replace e:=e.put pu (n1.2 rfl) a.g;have za:((z).set (m-1) B).length=l.length:=by rw[List.length_set];exact o
 replace a:=a.to [⟨rb,24,((z).set (m-1) B).flatMap ar⟩] [];refine lL a ac (lN (kQ (lL a ac (lV 14 (iV (((m-1:Nat):Int)-1)) ?_ (hr:=rS ((((m:Int)-1)-1)) kR ((dS oM oM).trans oM))))));refine lL a ac (lD ?_);intro a_ ka;refine ⟨_,_,?_,⟨m-1,(z).set (m-1) B,V,zb,rfl,rfl,a.to _ _,oM,za,(C.set _ oM),(by rw[xJ oM];exact rL (by rw[bx oM];omega) (by rw[show m-1+1=m by omega];exact j) (by rw[xS oM];omega)),oM,e⟩,ka.to _ kR⟩
 omega
theorem Ret.keptB {TB T8:TypeId}{K b:Nat}{bs:List Value}{f:FuncId}{args:Array Value}{V:Value}{w:World}{h:Hp}(d:K<=w.heap.size)(a:Lib.IsBuilderF TB T8 K b bs w)(c:Calls Tryz.prog f args w (Ret w h fun v _=>v=V)):Calls Tryz.prog f args w fun e w'=>e=.returned V/\(Lib.IsBuilderF TB T8 K b bs w'/\Below K w w') :=
 c.mono fun e w' ⟨v,j,i,u,hv⟩=>⟨hv▸i,jD a u.ext,Below.mono u.ext d⟩
theorem Ad:∀ c,Lib.repeatL [48] c=ta c 48
 | 0=>rfl
 | c+1=>by show [48]++Lib.repeatL [48] c=_;rw[Ad c];rfl
theorem Hg (c:Nat):Lib.repeatL (⟨#[48]⟩:ByteArray).data.toList c=ta c 48:=Ad c
theorem vo {n m:Nat}(b:Lib.nDigits n<=1000)(h:n/10000000000000000000^m≠0):m<1000:=by
 have h1:10000000000000000000^m<=n:=by
  rcases co n (10000000000000000000^m) with a|a
  ·exact absurd (Nat.div_eq_of_lt a) h
  ·exact a
 have a:10^m<=10000000000000000000^m:=Nat.pow_le_pow_left kD m;have c:=Lib.lt_pow_nDigits n;exact ep ((Nat.pow_lt_pow_iff_right (show 1<10 by decide)).1 (y6 (ed a h1) c)) b
theorem EI {n j:Nat}(h:0<n/10000000000000000000^j):n/10000000000000000000^(j+1)<n/10000000000000000000^j:=by
 rw[zy,<-Bs];omega
theorem D6 (n m:Nat):Lib.nDigits (n/m)<=Lib.nDigits n:=fg _ _ (Lib.nDigits_pos n) (y6 (y7 n m) (Lib.lt_pow_nDigits n))
theorem vz {f:Nat->Nat}{j i:Nat}(h:i<j):((List.range j).map f).getD i 0=f i:=by
 rw[List.getD_eq_getElem?_getD,Jc,List.getElem?_range h];rfl
theorem Es {n m:Nat}(c:0<m)(h:n/10000000000000000000^m≠0):dD (n/10000000000000000000^(m-1))=dD (n/10000000000000000000^m)++ta (19-Lib.nDigits (n/10000000000000000000^(m-1)%10000000000000000000)) 48++Lib.decDigits (n/10000000000000000000^(m-1)%10000000000000000000):=by
 have e:n/10000000000000000000^m=n/10000000000000000000^(m-1)/10000000000000000000:=by rw[Bs,<-zy,show (m-1).succ=m by omega]
 rw[e] at h ⊢
 generalize n/10000000000000000000^(m-1)=y at *
 have b:=se 19 (y%10000000000000000000) kD (ua _ kD);have a:=uU 19 (y/10000000000000000000) (y%10000000000000000000) h (ua _ kD);rw[show (10:Nat)^19=10000000000000000000 from rfl,KG] at a
 rw[a,b,Kr]
theorem D7 {n j:Nat}(a:0<j)(h0:n/10000000000000000000^(j-1+1)=0)(h:n/10000000000000000000^(j-1)≠0):dD (n/10000000000000000000^(j-1))=dD 0++Lib.decDigits (n/10000000000000000000^(j-1)%10000000000000000000):=by
 rw[zy,<-Bs] at h0
 generalize n/10000000000000000000^(j-1)=y at *
 rw[Nat.mod_eq_of_lt oM,lz h];rfl
theorem DW (n:Nat)(hn:18446744073709551616<=n)(hnl:(wds n).length<=1000000000)(Q:Lib.nDigits n<=1000)(w:World)(h:Hp)(g:G w h)(tb:Tab h):CV 87 #[nv n] w h (.string (fI n)):=by
 have a:=((sS g).add (K:=fun b=>Tab b) tb);have hwb:=cA hn;refine go Tryz.func87 [(0,nv n)] rfl (aG (lA 1 26 (nc n) a (fun b1 w2 h3 a=>lL a ac (aE (lL a [.o (nv n) 0 0 2] (d7 10 (fk n oM oM _ _ a.g) ?_))))));rintro _ w4 h5 u6 ⟨B,rfl,bb,Z,b3⟩;obtain ⟨h7,a,-,-⟩:=a.take u6 bb Z;replace a:=a.to [⟨B,24,(wds n).flatMap ar⟩,⟨b1,26,nc n⟩] [];refine lL a ac (ai (aa a [.c,.v (nV ((wds n).length))] ?_));have hb8:(decide ((((wds n).length:Nat):Int)<=(1:Int)))=false:=decide_eq_false oM;refine lB 13 hb8 (ah (cK (aa a ac (ai (kZ ?_)))));replace a:=a.nil 24 1;refine bG _ (CG.loop (fun S Γ w_=>∃ (j:Nat)(x:Z9)(z:Nat)(P:List Nat)(L:List Nat)(k:Nat)(b:Hp),S=n/10000000000000000000^j/\Γ=[(2,eS),(3,qS (sB B) k ((wds n).length)),(4,qS x ((P).length) z)]/\SS w h w_ b [⟨B,24,(L).flatMap ar⟩,⟨b1,26,nc n⟩] [⟨24,1,x,z,(P).length,(P).flatMap ar⟩] [fun b=>Tab b]/\L.length=(wds n).length/\Wd L/\k<=L.length/\k<=(wds n).length/\win L 0 k=wds (n/10000000000000000000^j)/\(P=(List.range j).map fun i=>n/10000000000000000000^i%10000000000000000000)/\(∀ m,m<j->n/10000000000000000000^m≠0)) _ ⟨0,none,0,[],wds n,(wds n).length,h7,rfl,rfl,a.to _ _,rfl,Wd.wds n,nR _,nR _,(by rw[JI,KI];exact n6 _ _ (nR _)),rfl,(fun m b=>absurd b (Nat.not_lt_zero m))⟩ ?_);rintro _ _ y ⟨j,x,z,P,L,k,_,bl,rfl,a,hLl,hWL,hk,hkc,hL,hP,F⟩;have hj_:j<=1000:=by rcases va j with b|b;omega;have:=vo Q (F (j-1) oM);omega
 have hPl:P.length=j:=by rw[hP];simp
 have b2:k=(wds (n/10000000000000000000^j)).length:=by rw[<-hL,bx oM]
 have b0:=@iX (n/10000000000000000000^j);have bd:=EI (n:=n) (j:=j);refine cQ (aa a [.c,.v (nV k)] ?_);cases za:(decide ((0:Int)<(k:Int)))
 .
  have zd:=oF za;refine lB 19 za (ah (CG.exit ?_))
  show CG _ _ _ _ _ _ _ _
  refine aG ?_;obtain ⟨_,a,br⟩:=a.pubr 0 (A:=x) (c:=z) (l:=P) (f:=ar) (ty:=24) (sz:=1) 0 (fun _=>rfl);have bw:k=0:=by omega
  have D:(n/10000000000000000000^j)=0:=by omega
  have bp:=vo Q (F (j-1) (by have:=D;rcases va j with b|b;(rw[b,JI,KI] at this;omega);omega));have C:=a;refine H7 6 92 [.pointer none,sZ] a (fun zg p hxs hbk=>?_);obtain ⟨zi,a,-⟩:=C.liftJ p;have e:Lib.IsBuilderF 92 5 y.heap.size y.heap.size (Lib.byteCells []) zg:=.inl ⟨nR _,_,hbk,World.ownsRowF_nil _ _ _ _,by simp[Value.ownBlock]⟩;refine ai (aa a [.c,.v (nV ((P).length))] (lV 31 (iV ((j:Int)-1)) ?_ (hr:=rS ((((P).length:Nat)-1)) kR ((dS oM oM).trans oM))));refine lL a ac (bE ?_);refine bG _ (CG.loop (fun S Γ w_=>∃ (m:Nat)(l:List UInt8)(b:Hp),S=m/\Γ=[(2,eS),(4,qS x ((P).length) z),(6,.pointer (some ⟨y.heap.size,0,none⟩)),(7,iV ((m:Int)-1))]/\SS w h w_ b [⟨B,24,(L).flatMap ar⟩,⟨b1,26,nc n⟩] [] [fun b=>SlO 1 ar 0 b x (P),fun b=>Tab b]/\m<=j/\Ext y w_/\Lib.IsBuilderF 92 5 y.heap.size y.heap.size (Lib.byteCells (l)) w_/\l=dD (n/10000000000000000000^m)) _ ⟨j,[],zi,rfl,rfl,a.to _ _,nR _,p,e,(by rw[D];rfl)⟩ ?_);rintro _ _ _ ⟨m,l,_,bt,rfl,a,hm,p,e,hl⟩;have Y:=ua (n/10000000000000000000^(m-1)) (show 0<10000000000000000000 by decide);have bk:=fg 19 (n/10000000000000000000^(m-1)%10000000000000000000) kD Y;have bq:=en (n/10000000000000000000^(m-1)%10000000000000000000);have bm:l.length<=1000:=by rw[hl];exact ed vQ (ed (D6 _ _) Q)
  have hPg:0<m->P.getD (m-1) 0=(n/10000000000000000000^(m-1)%10000000000000000000):=fun b=>by rw[hP];exact vz oM
  refine cQ (aa a ac ?_);cases zb:(decide ((0:Int)<=((m:Int)-1:Int)))
  .
   have ze:=oF zb;refine lB 33 zb (ah (CG.exit ?_))
   show CG _ _ _ _ _ _ _ _
   exact aG (Aw 53 C p ((Any.Builder_String_any_f Tryz.lays169 Tryz.Builder_Extra_169 y.heap.size y.heap.size (l) _ e p.size).mono fun _ _ b=>⟨b.1,True.intro,b.2.2⟩) (fun _ _ a d u=>lL a ac (af a [] (.string (⟨(l).toArray⟩)) (by rw[hl,show m=0 by omega,JI,KI,lz oM];rfl))))
  have ze:=oT zb;refine lB 33 zb (aj (cK (cQ (kZ (aa a aF (lX 38 x ((P).length) z 1 ((m:Int)-1) (m-1) ((a.f.1).ok oM) ?_))))));refine IY 39 (mV (P.getD (m-1) 0)) a ((a.f.1).el (m-1) oM) (by rw[hPg oM]) (Aw 40 C p (Ret.keptB p.size e (Dr (n/10000000000000000000^(m-1)%10000000000000000000) (by have:=ua (n/10000000000000000000^(m-1)) (show 0<10000000000000000000 by decide);omega) _ _ a.g a.f.2.1)) (fun _ _ a d u=>?_))
  clear p
  have p:=d;clear d;have e:Lib.IsBuilderF 92 5 y.heap.size y.heap.size (Lib.byteCells (l)) _:=u;refine lL a ac (ai (aa a [.c,.c,.v (nV ((P).length))] (lI 44 (((P).length:Nat)-1) ?_)));cases zc:(decide (((m:Int)-1:Int)<(((P).length:Nat)-1:Int)))
  .
   have zf:=oF zc;refine lB 45 zc (ah (cK (kQ (lL a ac (Aw 52 C p ((AA _ _ l (fI (n/10000000000000000000^(m-1)%10000000000000000000)) _ e p.size (by show _+(Lib.decDigits _).length<=_;rw[Lib.decDigits_length];(try simp only[sy,KJ]);omega)).mono fun _ _ b=>⟨b.1,b.2.1,b.2.2.1⟩) (fun _ zj a d u=>?_))))))
   clear p
   have p:=d;clear d;have e:Lib.IsBuilderF 92 5 y.heap.size y.heap.size (Lib.byteCells (l++(Lib.decDigits (n/10000000000000000000^(m-1)%10000000000000000000)))) _:=u;refine lN (kQ (lL a ac (lV 35 (iV (((m-1:Nat):Int)-1)) ?_ (hr:=rS ((((m:Int)-1)-1)) kR ((dS oM oM).trans oM)))));refine lL a ac (lD ?_);intro a_ X;refine ⟨_,_,?_,⟨m-1,l++(Lib.decDigits (n/10000000000000000000^(m-1)%10000000000000000000)),zj,rfl,rfl,a.to _ _,oM,p,e,(by rw[hl,show m=j by omega,D];exact (D7 oM (by rw[show j-1+1=j by omega];exact D) (F (j-1) oM)).symm)⟩,X.to _ kR⟩
   omega
  have zf:=oT zc;refine lB 45 zc (aj (kQ (lL a [.c,.v (nV ((fI (n/10000000000000000000^(m-1)%10000000000000000000)).size))] (bg 48 (19-((fI (n/10000000000000000000^(m-1)%10000000000000000000)).size:Nat)) (19-Lib.nDigits (n/10000000000000000000^(m-1)%10000000000000000000)) ?_))));refine Aw 49 C p ((Tryz.strings_Repeat ⟨#[48]⟩ (19-Lib.nDigits (n/10000000000000000000^(m-1)%10000000000000000000)) _ oM (by show 1*_<=_;omega)).mono fun _ _ b=>⟨by rw[b.1,Hg],jD e b.2,Below.mono b.2 p.size⟩) (fun _ _ a d u=>?_)
  clear p
  have p:=d;clear d;have e:Lib.IsBuilderF 92 5 y.heap.size y.heap.size (Lib.byteCells (l)) _:=u;refine Aw 50 C p ((AA _ _ l (⟨(ta (19-Lib.nDigits (n/10000000000000000000^(m-1)%10000000000000000000)) 48).toArray⟩:ByteArray) _ e p.size (by show l.length+(ta _ _).length<=_;rw[KJ];omega)).mono fun _ _ b=>⟨b.1,b.2.1,b.2.2.1⟩) (fun _ _ a d u=>?_)
  clear p
  have p:=d;clear d;have e:Lib.IsBuilderF 92 5 y.heap.size y.heap.size (Lib.byteCells (l++(ta (19-Lib.nDigits (n/10000000000000000000^(m-1)%10000000000000000000)) 48))) _:=u;refine lN (kQ (lL a ac (Aw 52 C p ((AA _ _ (l++(ta (19-Lib.nDigits (n/10000000000000000000^(m-1)%10000000000000000000)) 48)) (fI (n/10000000000000000000^(m-1)%10000000000000000000)) _ e p.size (by show _+(Lib.decDigits _).length<=_;rw[Lib.decDigits_length];(try simp only[sy,KJ]);omega)).mono fun _ _ b=>⟨b.1,b.2.1,b.2.2.1⟩) (fun _ zk a d u=>?_))))
  clear p
  have p:=d;clear d;have e:Lib.IsBuilderF 92 5 y.heap.size y.heap.size (Lib.byteCells ((l++(ta (19-Lib.nDigits (n/10000000000000000000^(m-1)%10000000000000000000)) 48))++(Lib.decDigits (n/10000000000000000000^(m-1)%10000000000000000000)))) _:=u;refine lN (kQ (lL a ac (lV 35 (iV (((m-1:Nat):Int)-1)) ?_ (hr:=rS ((((m:Int)-1)-1)) kR ((dS oM oM).trans oM)))));refine lL a ac (lD ?_);intro a_ X;refine ⟨_,_,?_,⟨m-1,(l++(ta (19-Lib.nDigits (n/10000000000000000000^(m-1)%10000000000000000000)) 48))++(Lib.decDigits (n/10000000000000000000^(m-1)%10000000000000000000)),zk,rfl,rfl,a.to _ _,oM,p,e,(by rw[hl];exact (Es oM (F m oM)).symm)⟩,X.to _ kR⟩
  omega
 have zd:=oT za;refine lB 19 za (aj (cK (kZ (aa a ac (aE (lL a ac (bj 22 (Gq B L k (wds n).length 10000000000000000000 (n/10000000000000000000^j) kD kD hWL oM oM hkc hL _ _ a.g (a.own 0) (a.jk 0)) ?_)))))));rintro _ _ _ u46 ⟨M,J,rfl,I,O,W,H,U,V⟩;replace a:=(a.stepM 0 u46 V).to [⟨B,24,(M).flatMap ar⟩,⟨b1,26,nc n⟩] [⟨24,1,x,z,(P).length,(P).flatMap ar⟩];refine lL a [.c,.v (qS (sB B) J ((wds n).length)),.v (mV ((n/10000000000000000000^j)%10000000000000000000)),.c,.c] (lN (kQ (lL a aF (lR 27 24 1 ([mV ((n/10000000000000000000^j)%10000000000000000000)]) a (fun zl _ _ a=>lY 28 0 24 1 z x P ar ((n/10000000000000000000^j)%10000000000000000000) 8 zl (uV 0) a a.f.1 (fun zm zn _ zo a=>lL a ac (lD ?_)))))));intro a_ X;replace a:=a.tl;refine ⟨_,_,?_,⟨j+1,zm,zn,P++[((n/10000000000000000000^j)%10000000000000000000)],M,J,zo,rfl,rfl,a.to _ _,(by rw[I];exact hLl),O,W,H,(by rw[U,zy,Bs]),(by rw[hP,List.range_succ,KE];rfl),(fun m b=>by rcases Kl.1 b with b|rfl;exact F m b;omega)⟩,X.to _ kR⟩
 omega
end Go.Proofs.YtffiihfdjnmhpaaGreatDoor
