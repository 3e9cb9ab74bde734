/- Laws of this claim, part 4. -/
import Derived.Test.YtmdaaeffcfheoaaGreatDoorQg0
import Derived.Test.YtmdaaeffcfheoaaGreatDoorQg1
import Derived.Test.YtmdaaeffcfheoaaGreatDoorQg2
set_option maxRecDepth 100000
set_option maxHeartbeats 4000000
namespace Go.Proofs.YtmdaaeffcfheoaaGreatDoor
open _root_.Array renaming getElem?_eq_some_iff -> hO, getElem?_push_size -> fo, getElem?_setIfInBounds_ne -> i2, getElem?_setIfInBounds_self_of_lt -> yT, size_setIfInBounds -> HM
open Bool renaming noConfusion -> Hz
open Int renaming emod_lt_of_pos -> Hr, emod_nonneg -> Hq, lt_or_le -> Hs, lt_trichotomy -> G3, sign_eq_neg_one_iff_neg -> HG, sign_eq_neg_one_of_neg -> GL, sign_eq_one_of_pos -> GM, sign_eq_zero_iff_zero -> Hy, sign_trichotomy -> HH, tmod_eq_emod_of_nonneg -> Ht
open List renaming getD_eq_getElem?_getD -> zh, getElem?_eq_none -> ws, getElem?_map -> Ga, getElem?_zipIdx -> HN, getElem_mem -> gp, length_append -> yA, length_cons -> yc, length_nil -> HE, length_replicate -> HK, length_set -> Gq, length_singleton -> Hv, map_congr_left -> HF, mem_cons -> g3, mem_iff_getElem? -> HO, mem_map -> g1, mem_range -> o0, mem_singleton -> ul, range -> ov, replicate -> yJ, toArray -> GX
open Nat renaming le_add_right -> Hx, le_mul_of_pos_left -> GU, le_mul_of_pos_right -> HB, le_refl -> ey, le_trans -> ez, lt_of_le_of_lt -> zX, lt_succ_self -> HL, min_eq_right -> F9, mul_assoc -> Ab, mul_comm -> y8, mul_le_mul_left -> A5, mul_le_mul_right -> yG, mul_left_comm -> HC, not_lt_zero -> HA, succ_ne_zero -> HD, succ_pos -> GD, zero_add -> yF, zero_le -> GA
open Option renaming mem_toList -> Hu
open Rat renaming not_le -> HI, num_eq_zero -> Hw, num_nonneg -> HJ
open Go.RowKit
open Go.RowKit Go.Shelf
theorem qM (a:Nat)(A:Z9)(c:Nat)(l:(lim a).length<=c)(b:Nat)(D:Z9)(d:Nat)(i:(lim b).length<=d)(q:Nat)(o:q=Nat.gcd a b)(e:(lim a).length<=3000000000)(f:(lim b).length<=1)(w:World)(h:Hp)(g:G w h)(p:S3 A (lim a) h)(j:S3 D (lim b) h):CR 121 #[.slice A (lim a).length c,.slice D (lim b).length d] w h (fun v h1=>RN h1 v q):=by
 subst o;exact sP a A c l b D d i e f w h g p j
theorem oS {z:Int}(h0 : -4294967296<z)(h1:z<4294967296):(lim (ab z)).length<=1:=fF (by unfold ab;omega)
theorem Cq (x:Int)(A:Z9)(c:Nat)(M:(lim (ab x)).length<=c)(hLx:(lim (ab x)).length<=2000000000)(y:Int)(D:Z9)(d:Nat)(J:(lim (ab y)).length<=d)(H:(lim (ab y)).length<=1)(C:y≠0)(w:World)(h:Hp)(g:G w h)(hA:S3 A (lim (ab x)) h)(Y:S3 D (lim (ab y)) h):CR 85 #[.agg #[.bool (aw x),.slice A ((lim (ab x)).length) c],.agg #[.bool (aw y),.slice D ((lim (ab y)).length) d]] w h (fun v h1=>RQ h1 v (mkR x y)):=by
 have a:=(((sS g).aS hA).aS Y);obtain ⟨j,l,i⟩:=qH x y C;obtain ⟨q,hq⟩:∃ q,q=Nat.gcd (ab x) (ab y):=⟨_,rfl⟩;rw[<-hq] at j l i
 have W:(lim q).length<=1:=mX (by rw[hq];exact Nat.gcd_le_right _ (by unfold ab;omega)) H;refine go Tryz.func85 [(0,.agg #[.bool (aw x),qS A ((lim (ab x)).length) c]),(1,.agg #[.bool (aw y),qS D ((lim (ab y)).length) d])] rfl (aD (lA 2 26 ([.bool (aw x),qS A ((lim (ab x)).length) c]) a (fun z w2 h3 a=>lA 3 26 ([.bool (aw y),qS D ((lim (ab y)).length) d]) a (fun B w5 h6 a=>lA 4 28 ea a (fun b7 w8 h9 a=>aK (lL a [.v (qP z 1),.o (qS A ((lim (ab x)).length) c) 2 1 1,.v (qP B 1),.o (qS D ((lim (ab y)).length) d) 1 1 1] (lC 14 a (qM (ab x) A c M (ab y) D d J q hq oM oM _ _ a.g a.f.2.1 a.f.1) ?_)))))));rintro _ _ _ a ⟨O,K,rfl,Q,Z⟩;replace a:=a.aS Z;refine lL a ac (aK (lL a [.v (qP z 1),.o (qS A ((lim (ab x)).length) c) 2 1 1,.c] (lC 19 a (kf (ab x) A c M q O K Q oM oM i _ _ a.g a.f.r.1 a.f.1) ?_)));rintro _ _ _ a ⟨_,b,rfl,⟨L,S,rfl,V,zm⟩,-⟩;replace a:=a.aS zm;refine lL a [.c,.v (qS L ((lim ((ab x)/q)).length) S),.v b,.c,.c] (aK (lL a [.v (qP B 1),.o (qS D ((lim (ab y)).length) d) 1 1 1,.c] (lC 26 a (kf (ab y) D d J q O K Q oM oM i _ _ a.g a.f.r.1 a.f.2.1) ?_)));rintro _ _ _ a ⟨_,e,rfl,⟨u,p,rfl,zn,X⟩,-⟩;replace a:=a.aS X;refine lL a [.c,.v (qS u ((lim ((ab y)/q)).length) p),.v e,.c,.c] (aK (lL a [.v (pB z),.o (.bool (aw x)) 2 0 1,.v (pB B),.o (.bool (aw y)) 1 0 1,.v (.bool ((aw x) != (aw y))),.c] (lC 35 a (rI ((aw x) != (aw y)) ((ab x)/q) L S V _ _ a.g a.f.2.1) ?_)));rintro _ _ _ a ⟨F,I,rfl,U,zq⟩;replace a:=a.aS zq;exact lL a [.c,.v (.agg #[.bool (aw (bT ((aw x) != (aw y)) ((ab x)/q))),qS F ((lim (ab (bT ((aw x) != (aw y)) ((ab x)/q)))).length) I,qS u ((lim ((ab y)/q)).length) p])] (lP 0 0 ([.bool (aw (bT ((aw x) != (aw y)) ((ab x)/q))),qS F ((lim (ab (bT ((aw x) != (aw y)) ((ab x)/q)))).length) I,qS u ((lim ((ab y)/q)).length) p]) a (fun _ a=>ae a [(0,0,3)] (.agg #[.bool (aw (bT ((aw x) != (aw y)) ((ab x)/q))),qS F ((lim (ab (bT ((aw x) != (aw y)) ((ab x)/q)))).length) I,qS u ((lim ((ab y)/q)).length) p]) (by unfold RQ;rw[j,l];exact ⟨_,_,_,_,rfl,U,zn,a.f.1,a.f.2.1⟩)))
theorem rV (x y:Int)(c:y≠0)(h0 : -9223372036854775808<=x)(h1:x<9223372036854775808)(J : -4294967296<y)(i:y<4294967296)(w:World)(h:Hp)(g:G w h):CR 51 #[iV x,iV y] w h (fun v h1=>RQ h1 v (mkR x y)):=by
 have a:=sS g;have p:=rp h0 h1;have F:=oS J i;refine go Tryz.func51 [(0,iV x),(1,iV y)] rfl (aD (lA 4 28 ea a (fun O w2 i a=>aK (lL a ac (lC 6 a (oR x oM oM _ _ a.g) ?_)))));rintro _ Q S a ⟨L,z,rfl,d,b⟩;replace a:=a.aS b;refine lL a ac (lC 8 a (oR y oM oM _ _ a.g) ?_);rintro _ _ _ a ⟨u,H,rfl,M,I⟩;replace a:=a.aS I;refine lC 9 a (Cq x L z d oM y u H M oM c _ _ a.g a.f.2.1 a.f.1) ?_;rintro _ _ _ a ⟨j,e,l,o,rfl,B,C,K,D⟩;replace a:=a.aP K D;exact lP 0 0 (xW (mkR x y) j e l o) a (fun _ a=>ae a [(0,0,3)] (rG (mkR x y) j e l o) (by skip;exact ⟨_,_,_,_,rfl,B,C,a.f.2.1,a.f.1⟩))
theorem Eg (a:Nat)(A:Z9)(c:Nat)(i:(lim a).length<=c)(p:(lim a).length<=300000000)(w:World)(h:Hp)(g:G w h)(l:S3 A (lim a) h):CV 50 #[.slice A ((lim a).length) c] w h (nv a):=by
 have b:=((sS g).aS l);have e:=n9 a;refine go Tryz.func50 [(0,qS A ((lim a).length) c)] rfl (aD (lA 2 35 ([uV 0,eS]) b (fun o w2 u b=>aK (lL b ac (lC 4 b (qN a A c i oM _ _ b.g b.f.1) ?_)))));rintro _ x B b ⟨j,rfl,d⟩;replace b:=b.aS d;exact ao 5 b (ui a ((nb a+7)/8) j ((nb a+7)/8) (nR _) oM (r8 a) _ _ b.g b.f.1) (fun y z b=>lP 0 0 (nc a) b (fun _ b=>ae b [(0,0,2)] (nv a) rfl))
theorem Fg (z:Int)(A:Z9)(c:Nat)(e:(lim (ab z)).length<=c)(d:(lim (ab z)).length<=300000000)(w:World)(h:Hp)(g:G w h)(j:S3 A (lim (ab z)) h):CV 49 #[.agg #[.bool (aw z),.slice A ((lim (ab z)).length) c]] w h (iv z):=by
 have a:=((sS g).aS j);have i:=xk (ab z);refine go Tryz.func49 [(0,.agg #[.bool (aw z),qS A ((lim (ab z)).length) c])] rfl (aD (lA 1 26 ([.bool (aw z),qS A ((lim (ab z)).length) c]) a (fun b w2 o a=>lA 2 37 ([qF,uV 0,eS]) a (fun p y x a=>af (cR 6 [] mixed a am ?_)))));exact eV 0 3 (pB b) (eO 1 4 [(1,0,1)] (.bool (aw z)) a (eV 2 5 (qP b 1) (eO 3 6 [(1,1,1)] (qS A ((lim (ab z)).length) c) a (ai 4 7 a (fun _ _ a=>Eg (ab z) A c e (by first|exact d|exact LQ.ld hq|omega) _ _ a.g a.f.1) (fun u l a=>ai 5 8 a (fun _ _ a=>ek (aw z) (ab z) oM _ _ a.g) (fun B _ a=>bW a (fun _ _ a=>tP 6 0 0 (ic (bT (aw z) (ab z))) a (fun _ a=>tN (kX (a.ret [(0,0,3)] (iv (bT (aw z) (ab z))) (congrArg iv (jX z))))))))))))
theorem vi (q:Rat):mkR q.num ((q.den:Nat):Int)=q:=by
 unfold mkR;rw[if_neg oM];show mkRat q.num q.den=q;rw[Rat.mkRat_self]
theorem FQ (q:Rat)(b:Z9)(c1:Nat)(d:Z9)(c:Nat)(i:(lim (ab q.num)).length<=c1)(l:(lim q.den).length<=c)(e:LQ 100000000 q)(w:World)(h:Hp)(g:G w h)(j:S3 b (lim (ab q.num)) h)(p:S3 d (lim q.den) h)(y:Tab h):CV 16 #[rG q b c1 d c] w h (qv q):=by
 have a:=((((sS g).aS j).aS p).aB y);refine go Tryz.func16 [(0,rG q b c1 d c)] rfl (aD (lA 1 28 (xW q b c1 d c) a (fun x w2 C a=>lA 2 39 a2 a (fun D I H a=>af ?_))));have u:=a;exact cR 12 [⟨11,3,.cells (GX [qF,uV 0,eS,uV 0,eS]) 39 (0,0)⟩] mixed a (aW (cl kR (fun _ _=>by kernel_rfl)) am) (eV 0 6 (pB x) (eO 1 7 [(1,0,2)] (.agg #[.bool (aw q.num),qS b ((lim (ab q.num)).length) c1]) a (eV 3 9 (qP x 2) (eO 4 10 [(1,2,1)] (qS d ((lim q.den).length) c) a (ai 2 8 a (fun _ _ a=>Fg q.num b c1 i (LQ.ln e) _ _ a.g a.f.r.1) (fun F B a=>ai 5 11 a (fun _ _ a=>Eg q.den d c l (by first|exact hl|exact LQ.ld e|omega) _ _ a.g a.f.2.1) (fun J _ a=>ai 6 12 a (fun _ _ a=>du q.den _ _ a.g) (fun _ _ a=>ai 7 13 a (fun _ _ a=>De q.num (q.den:Int) (by have:=q.den_pos;omega) (by have:=e.1;omega) (by show (wds q.den).length<=_;have:=e.2;omega) _ _ a.g a.f.1) (fun _ _ a=>eV 8 5 (.tuple #[qv (mkR q.num (q.den:Int)),qT]) (eV 9 14 (qv (mkR q.num (q.den:Int))) (eV 10 15 qT (dm [] u a 39 [qF,uV 0,eS,uV 0,eS] (fun _ _ z a=>tP 12 0 0 (qc (mkR q.num (q.den:Int))) a (fun _ a=>tV 13 4 qT (qQ (lL a [.o (qv (mkR q.num (q.den:Int))) 0 0 5] (lP 1 0 (qc (mkR q.num (q.den:Int))) a (fun _ a=>ae a [(1,0,5)] (qv (mkR q.num (q.den:Int))) (congrArg qv (vi q))))))))))))))))))))
theorem Dw (v:Value)(q:Rat)(i:LQ 100000000 q)(w:World)(h:Hp)(g:G w h)(hv:RQ h v q)(a:Tab h):CV 16 #[v] w h (qv q):=by
 obtain ⟨A,c,B,d,rfl,h1,e,f,b⟩:=hv;exact FQ q A c B d h1 e i w h g f b a
theorem pU (n:Nat)(u:(wds n).length<=100000000)(w:World)(h:Hp)(g:G w h):CR 134 #[nv n] w h (fun v h1=>RN h1 v n):=by
 have a:=sS g;have i:=jK n;refine go Tryz.func134 [(0,nv n)] rfl (aD (lA 1 35 (nc n) a (fun p w2 x a=>lL a ac (aK (lL a [.o (nv n) 0 0 2] (lC 4 a (tc n oM _ _ a.g) ?_))))));rintro _ y z a ⟨l,rfl,b⟩;replace a:=a.aS b;refine lC 5 a (tz n ((nb n+7)/8) l ((nb n+7)/8) (nR _) oM (r8 n) _ _ a.g a.f.1) ?_;rintro _ _ _ a ⟨c,d,rfl,j,e⟩;replace a:=a.aS e;exact lL a ac (ae a [] (qS c ((lim n).length) d) (⟨_,_,rfl,j,a.f.1⟩))
theorem xJ (z:Int):bT (decide (z.sign<(0:Int))) (ab z)=z:=by
 rcases G3 z 0 with h|h|h
 ·rw[GL h];unfold bT ab;simp;omega
 ·subst h;rfl
 ·rw[GM h];unfold bT ab;simp;omega
theorem vR (z:Int)(x:(wds (ab z)).length<=100000000)(w:World)(h:Hp)(g:G w h):CR 132 #[iv z] w h (fun v h1=>RI h1 v z):=by
 have a:=sS g;refine go Tryz.func132 [(0,iv z)] rfl (aD (lA 1 37 (ic z) a (fun p w2 y a=>lA 2 26 ([qF,sZ]) a (fun B F D a=>af (cR 7 [] mixed a am ?_)))));refine eO 0 3 [(1,0,3)] (iv z) a (eO 3 6 [(1,0,3)] (iv z) a (ai 1 4 a (fun _ _ a=>jT z oM _ _ a.g) (fun C u a=>eV 2 5 (.bool (decide ((z.sign:Int)<(0:Int)))) (ai 4 7 a (fun _ _ a=>sV z _ _ a.g) (fun H _ a=>eC 5 8 a (fun _ _ a=>pU (ab z) (by first|exact hq.2|omega) _ _ a.g) ?_)))));rintro _ _ _ _ _ a ⟨d,e,rfl,j,l⟩;replace a:=a.aS l;refine eC 6 9 a (fun _ _ a=>rI (decide ((z.sign:Int)<(0:Int))) (ab z) d e j _ _ a.g a.f.1) ?_;rintro _ _ _ _ _ a ⟨c,b,rfl,o,i⟩;replace a:=a.aS i;exact bW a (fun _ _ a=>tP 7 0 0 ([.bool (aw (bT (decide ((z.sign:Int)<(0:Int))) (ab z))),qS c ((lim (ab (bT (decide ((z.sign:Int)<(0:Int))) (ab z)))).length) b]) a (fun _ a=>tN (kX (a.ret [(0,0,2)] (.agg #[.bool (aw (bT (decide ((z.sign:Int)<(0:Int))) (ab z))),qS c ((lim (ab (bT (decide ((z.sign:Int)<(0:Int))) (ab z)))).length) b]) (by rw[xJ] at *;exact ⟨_,_,rfl,o,a.f.1⟩)))))
theorem Fw (q:Rat)(i:LQ 100000000 q)(w:World)(h:Hp)(g:G w h):CR 100 #[qv q] w h (fun v h1=>RQ h1 v q):=by
 have a:=sS g;refine go Tryz.func100 [(0,qv q)] rfl (aD (lA 1 39 (qc q) a (fun u w2 y a=>lA 2 28 ea a (fun z D C a=>af (cR 7 [] mixed a am ?_)))));refine eO 0 3 [(1,0,5)] (qv q) a (eO 3 6 [(1,0,5)] (qv q) a (ai 1 4 a (fun _ _ a=>Fl q _ _ a.g) (fun B x a=>eC 2 5 a (fun _ _ a=>vR q.num i.1 _ _ a.g) ?_)));rintro _ _ _ _ _ a ⟨d,c,rfl,o,p⟩;replace a:=a.aS p;refine ai 4 7 a (fun _ _ a=>dZ q i _ _ a.g) (fun _ _ a=>eC 5 8 a (fun _ _ a=>pU q.den (by first|exact i.2|omega) _ _ a.g) ?_);rintro _ _ _ _ _ a ⟨b,e,rfl,l,j⟩;replace a:=a.aS j;exact eV 6 9 (rG q d c b e) (bW a (fun _ _ a=>tP 7 0 0 (xW q d c b e) a (fun _ a=>tN (kX (a.ret [(0,0,3)] (rG q d c b e) (⟨_,_,_,_,rfl,o,l,a.f.2.1,a.f.1⟩))))))
def gE (a b:Rat):Bool:=decide (a=b)
theorem wH {a b:Rat}(h1:bG (ab a.num) (ab b.num)=0)(e:aw a.num=aw b.num)(c:bG a.den b.den=0):true=gE a b:=by
 have e1:ab a.num=ab b.num:=by unfold bG at h1;split at h1;omega;split at h1;omega;omega
 have d:a.den=b.den:=by unfold bG at c;split at c;omega;split at c;omega;omega
 have e2:a.num=b.num:=by rw[<-jX a.num,<-jX b.num,e1,e]
 symm
 exact decide_eq_true (Rat.ext e2 d)
theorem kN (a:Nat):bG a a=0:=by simp[bG]
theorem mn {a b:Rat}(h:bG (ab a.num) (ab b.num)≠0\/aw a.num≠aw b.num\/bG a.den b.den≠0):false=gE a b:=by
 symm
 refine decide_eq_false ?_;rintro rfl
 rcases h with h|h|h
 ·exact h (kN _)
 ·exact h rfl
 ·exact h (kN _)
theorem Ex (q r:Rat)(C:LQ 100000000 q)(hr:LQ 100000000 r)(e:Z9)(c1:Nat)(d:Z9)(b:Nat)(y:(lim (ab r.num)).length<=c1)(B:(lim r.den).length<=b)(w:World)(h:Hp)(g:G w h)(z:S3 e (lim (ab r.num)) h)(F:S3 d (lim r.den) h):CV 66 #[qv q,rG r e c1 d b] w h (.bool (gE q r)):=by
 have a:=(((sS g).aS z).aS F);have j:0<(lim r.den).length:=de.2 r.den_pos;have O:=LQ.ln C;have Q:=LQ.ld C;have X:=LQ.ln hr;have Z:=LQ.ld hr;refine go Tryz.func66 [(0,qv q),(1,rG r e c1 d b)] rfl (aD (lA 2 39 (qc q) a (fun b1 w2 h3 a=>lA 3 28 (xW r e c1 d b) a (fun i w5 h6 a=>lL a ac (aK (lL a [.o (qv q) 1 0 5] (lC 7 a (Fw q C _ _ a.g) ?_)))))));rintro _ _ _ a ⟨J,H,D,I,rfl,K,V,S,W⟩;replace a:=a.aP S W;refine lA 5 28 ea a (fun l _ _ a=>lP 0 0 (xW q J H D I) a (fun _ a=>af (aa a [.v (qP i 2),.o (qS d ((lim r.den).length) b) 1 2 1,.v (nV ((lim r.den).length))] ?_)));have M:((((lim r.den).length:Nat):Int) == (0:Int))=false:=(by simp;exact fun h=>Nat.lt_irrefl 0 (by rw[h] at j;exact j));have x:=aq M;refine lB 11 M (aj (cK (aa a [.v (pB l),.v (qP l 1),.o (qS J ((lim (ab q.num)).length) H) 0 1 1,.v (pB i),.v (qP i 1),.o (qS e ((lim (ab r.num)).length) c1) 1 1 1] (ao 19 a (js (ab q.num) J H K (ab r.num) e c1 y oM oM _ _ a.g a.f.2.1 a.f.r.2.1) (fun _ _ a=>?_)))));cases u:((bG (ab q.num) (ab r.num):Int) == (0:Int))
 .
  have U:=aq u;refine lB 20 u (lL a ac (lG 22 ?_));refine lG 23 (lG 24 (lG 25 (lG 26 (lG 27 (lG 28 (lL a [.v qF,.c] (lG 31 ?_)))))));exact lG 32 (lG 33 (lG 34 (lG 35 (lG 36 (lL a [.v qF,.c] (ae a [] qF (congrArg Value.bool (mn (by first|(left;assumption)|(right;right;assumption)|(right;left;exact beq_eq_false_iff_ne.1 ‹_›))))))))))
 have U:=eq_of_beq u;refine lB 20 u (lL a [.c,.v (pB l),.v (pB l),.o (.bool (aw q.num)) 0 0 1,.v (pB i),.v (pB i),.o (.bool (aw r.num)) 1 0 1] ?_);cases L:((aw q.num) == (aw r.num))
 .
  refine lB 28 L (lL a [.v qF,.c] (lG 31 ?_));exact lG 32 (lG 33 (lG 34 (lG 35 (lG 36 (lL a [.v qF,.c] (ae a [] qF (congrArg Value.bool (mn (by first|(left;assumption)|(right;right;assumption)|(right;left;exact beq_eq_false_iff_ne.1 ‹_›))))))))))
 refine lB 28 L (lL a [.v qT,.c,.v (qP l 2),.o (qS D ((lim q.den).length) I) 0 2 1,.v (qP i 2),.o (qS d ((lim r.den).length) b) 1 2 1] (ao 35 a (js q.den D I V r.den d b B oM oM _ _ a.g a.f.1 a.f.r.1) (fun _ _ a=>?_)));cases p:((bG q.den r.den:Int) == (0:Int))
 .
  have Y:=aq p;exact lB 36 p (lL a [.v qF,.c] (ae a [] qF (congrArg Value.bool (mn (by first|(left;assumption)|(right;right;assumption)|(right;left;exact beq_eq_false_iff_ne.1 ‹_›))))))
 have Y:=eq_of_beq p;exact lB 36 p (lL a [.v qT,.c] (ae a [] qT (congrArg Value.bool (wH aM (eq_of_beq ‹_›) aM))))
theorem LQ.mkR {n d:Int}(h:d≠0)(h0 : -9223372036854775808<=n)(h1:n<=9223372036854775807)(i : -9223372036854775808<=d)(j:d<=9223372036854775807):LQ 1 (mkR n d):=by
 unfold Go.Proofs.YtmdaaeffcfheoaaGreatDoor.mkR
 have a:0<ab d:=by unfold ab;omega
 obtain ⟨e,c,b,f⟩:=fQ (if d<0 then -n else n) (ab d) a;refine ⟨?_,?_⟩
 ·rw[e];refine di.2 (zX (bH _ _ b) ?_)
  unfold ab;split<;>omega
 ·rw[c];exact di.2 (zX (Nat.div_le_self _ _) (by unfold ab;omega))
theorem mL (q:Rat)(z e:Int)(C:LQ 100000000 q)(B:e≠0)(b : -9223372036854775808<=z)(l:z<9223372036854775808)(i : -4294967296<e)(F:e<4294967296)(w:World)(h:Hp)(g:G w h):CV 28 #[qv q,iV z,iV e] w h (.bool (gE q (mkR z e))):=by
 have a:=sS g;have p:LQ 100000000 (mkR z e):=(LQ.mkR B b oM oM oM).mono oM;refine go Tryz.func28 [(0,qv q),(1,iV z),(2,iV e)] rfl (aD (lA 3 39 (qc q) a (fun H w2 I a=>lL a ac (af (cR 5 [] mixed a am ?_)))));refine eO 0 7 [(0,0,5)] (qv q) a (eV 1 8 (iV z) (eV 2 9 (iV e) (eC 3 10 a (fun _ _ a=>rV z e oM oM oM oM oM _ _ a.g) ?_)));rintro _ _ _ _ _ a ⟨D,j,o,u,rfl,d,y,c,x⟩;replace a:=a.aP c x;exact ai 4 11 a (fun _ _ a=>Ex q (mkR z e) C p D j o u d y _ _ a.g a.f.2.1 a.f.1) (fun _ _ a=>bW a (fun _ _ a=>tV 5 6 (.bool (gE q (mkR z e))) (tN (kX (a.ret [] (.bool (gE q (mkR z e))) rfl)))))
def bL (n:Int)(m:Nat):Nat:=(n%(m:Int)).toNat
theorem dy (n:Int)(m:Nat)(h:0<m):bL n m<m:=by
 unfold bL
 have h1:=Hq n (show (m:Int)≠0 by omega);have a:=Hr n (show (0:Int)<m by omega)
 omega
theorem ni (n:Int)(m:Nat)(h:0<m):((bL n m:Nat):Int)=n%(m:Int):=by
 unfold bL
 have h1:=Hq n (show (m:Int)≠0 by omega)
 omega
theorem mC (n:Int)(m:Nat)(b:0<m)(e:n<0):(n%(m:Int)=0/\n.tmod (m:Int)=0)\/(0<n%(m:Int)/\n.tmod (m:Int)=n%(m:Int)-m):=by
 have c:=Hq n (show (m:Int)≠0 by omega);rw[Int.tmod_eq_emod]
 by_cases h:(m:Int)∣n
 ·left
  rw[if_pos (.inr h)];have:=Int.emod_eq_zero_of_dvd h;exact ⟨this,by omega⟩
 ·right
  have d:¬(n%(m:Int)=0):=fun a=>h (Int.dvd_of_emod_eq_zero a)
  rw[if_neg (by intro a;rcases a with a|a;omega;exact h a)];refine ⟨by omega,by simp⟩
def mg (k:Nat):Nat:=match k with|0=>1|1=>1|2=>1|3=>2|4=>3|_=>4
theorem mJ (k:Nat):0<mg k:=by unfold mg;split<;>omega
theorem pO (k:Nat):mg k<=4:=by unfold mg;split<;>omega
def cD (n:Int):Rat:=mkR ((bL n 41:Int)-20) (mg (bL (n.tdiv 41) 6):Nat)
def CM (n:Int):Rat:=mkR ((bL n 9:Int)-4) (((bL (n.tdiv 9) 2:Nat):Int)+1)
theorem pf (n:Int)(m:Int)(c:1<m)(b : -9223372036854775808<=n)(a:n<=9223372036854775807) : -9223372036854775808<=n.tdiv m/\n.tdiv m<=9223372036854775807:=by
 have h1:(n.tdiv m).natAbs<=n.natAbs/2:=by
  rw[Int.natAbs_tdiv];exact Nat.div_le_div_left oM oM
 omega
theorem uJ {n:Int}{m:Nat}(a:0<m)(h:n.tmod (m:Int)<0):n.tmod (m:Int)+m=((bL n m:Nat):Int):=by
 rw[ni n m a]
 rcases Hs n 0 with hn|hn
 ·rcases mC n m a hn with ⟨h1,h2⟩|⟨h1,h2⟩<;>omega
 ·rw[Ht hn] at h
  have:=Hq n (show (m:Int)≠0 by omega)
  omega
theorem ru {n:Int}{m:Nat}(a:0<m)(h:¬n.tmod (m:Int)<0):n.tmod (m:Int)=((bL n m:Nat):Int):=by
 rw[ni n m a]
 rcases Hs n 0 with hn|hn
 ·rcases mC n m a hn with ⟨h1,h2⟩|⟨h1,h2⟩
  ·omega
  ·have:=Hr n (show (0:Int)<m by omega)
   omega
 ·rw[Ht hn]
theorem wn (n:Int){m:Nat}(b:0<m) : -(m:Int)<n.tmod (m:Int)/\n.tmod (m:Int)<m:=by
 have h1:=Int.tmod_lt_of_pos n (show (0:Int)<m by omega);have a:=Int.lt_tmod_of_pos n (show (0:Int)<m by omega);exact ⟨a,h1⟩
theorem kA (n:Int)(m:Nat)(f:0<m)(i:m<1000000)(w:World)(h:Hp)(g:G w h):CV 42 #[iV n,nV m] w h (nV (bL n m)):=by
 have c:=sS g;obtain ⟨l,j⟩:=wn n f;refine go Tryz.func42 [(0,iV n),(1,nV m)] rfl (aa c ac (aK (lL c aF (lV 7 (iV (n.tmod (m:Nat))) ?_ (hr:=eT (t:=3) (u:=3) (x:=.tmp 5) (y:=.tmp 6) (k:=.i64) (a:=n) (b:=(m:Nat)) kR kR kR oM _)))));refine lL c ac (af (aa c ac ?_));cases d:(decide ((n.tmod (m:Nat):Int)<(0:Int)))
 .
  have e:=oF d;exact lB 9 d (aj (cK (aa c aF (ae c [] (iV (n.tmod (m:Nat))) (congrArg (Value.int .i64) (ru f aM))))))
 have e:=oT d;refine lB 9 d (ar (kQ (lL c aF (lI 12 ((n.tmod (m:Nat))+(m:Nat)) ?_))));exact lL c ac (aK (lL c aF (ae c [] (iV ((n.tmod (m:Nat))+(m:Nat))) (congrArg (Value.int .i64) (uJ f aM)))))
theorem sT (w:World):(Instr.index 109 (.agg #[.int .i64 1,.int .i64 1,.int .i64 1,.int .i64 2,.int .i64 3,.int .i64 4]) (.int .i64 0)).run Tryz.prog w=.ok (.int .i64 1) w:=by kernel_rfl
theorem tH (w:World):(Instr.index 109 (.agg #[.int .i64 1,.int .i64 1,.int .i64 1,.int .i64 2,.int .i64 3,.int .i64 4]) (.int .i64 1)).run Tryz.prog w=.ok (.int .i64 1) w:=by kernel_rfl
theorem rP (w:World):(Instr.index 109 (.agg #[.int .i64 1,.int .i64 1,.int .i64 1,.int .i64 2,.int .i64 3,.int .i64 4]) (.int .i64 2)).run Tryz.prog w=.ok (.int .i64 1) w:=by kernel_rfl
theorem tG (w:World):(Instr.index 109 (.agg #[.int .i64 1,.int .i64 1,.int .i64 1,.int .i64 2,.int .i64 3,.int .i64 4]) (.int .i64 3)).run Tryz.prog w=.ok (.int .i64 2) w:=by kernel_rfl
theorem tL (w:World):(Instr.index 109 (.agg #[.int .i64 1,.int .i64 1,.int .i64 1,.int .i64 2,.int .i64 3,.int .i64 4]) (.int .i64 4)).run Tryz.prog w=.ok (.int .i64 3) w:=by kernel_rfl
theorem va (w:World):(Instr.index 109 (.agg #[.int .i64 1,.int .i64 1,.int .i64 1,.int .i64 2,.int .i64 3,.int .i64 4]) (.int .i64 5)).run Tryz.prog w=.ok (.int .i64 4) w:=by kernel_rfl
theorem Ci (k:Nat)(h:k<6)(w:World):(Instr.index 109 (.agg #[.int .i64 1,.int .i64 1,.int .i64 1,.int .i64 2,.int .i64 3,.int .i64 4]) (.int .i64 (k:Int))).run Tryz.prog w=.ok (.int .i64 ((mg k:Nat):Int)) w:=by
 have:k=0\/k=1\/k=2\/k=3\/k=4\/k=5:=by omega
 rcases this with rfl|rfl|rfl|rfl|rfl|rfl
 ·exact sT w
 ·exact tH w
 ·exact rP w
 ·exact tG w
 ·exact tL w
 ·exact va w
theorem E4 {Γ:bO}{o:Oper}{x y:Operand}(k:Nat)(h:k<6)(a:o.op=.index 109 x y)(c:ev Γ x=.agg #[.int .i64 1,.int .i64 1,.int .i64 1,.int .i64 2,.int .i64 3,.int .i64 4])(b:ev Γ y=.int .i64 (k:Nat))(w:World) :
  (execOp (ev Γ) o).run Tryz.prog w=.ok (.value (.int .i64 (mg k:Nat))) w:=by
 unfold execOp;simp only[a];rw[c,b,Sem.run_bind,Ci k h w];rfl
theorem hR (n:Int)(h0 : -9223372036854775808<=n)(h1:n<=9223372036854775807)(w:World)(h:Hp)(g:G w h):CR 17 #[iV n] w h (fun v h1=>RQ h1 v (cD n)):=by
 have a:=sS g;obtain ⟨I,C⟩:=pf n 41 oM h0 h1;have M:=dy n 41 oM;have l2:=dy (n.tdiv 41) 6 oM;have D:=mJ (bL (n.tdiv 41) 6);have H:=pO (bL (n.tdiv 41) 6);refine go Tryz.func17 [(0,iV n)] rfl (aD (lA 2 28 ea a (fun B w2 F a=>aK (lL a ac (ao 4 a (kA (n) 41 oM oM _ _ a.g) (fun O L a=>?_))))));have j:=dy (n) 41 oM;refine lI 5 ((bL (n) 41:Nat)-20) (lL a [.v (.agg #[iV 1,iV 1,iV 1,iV 2,iV 3,iV 4]),.c] (lV 8 (iV (n.tdiv 41)) ?_ (hr:=rS ((n.tdiv 41)) kR (mc oM oM))));refine ao 9 a (kA (n.tdiv 41) 6 oM oM _ _ a.g) (fun J K a=>?_);have p:=dy (n.tdiv 41) 6 oM;refine lV 10 (nV (mg (bL (n.tdiv 41) 6))) ?_ (hr:=E4 (x:=.tmp 6) (y:=.tmp 9) (bL (n.tdiv 41) 6) l2 kR kR kR _);refine lC 11 a (rV ((bL (n) 41:Nat)-20) (mg (bL (n.tdiv 41) 6):Nat) oM oM oM oM oM _ _ a.g) ?_;rintro _ _ _ a ⟨d,b,e,i,rfl,z,u,l,o⟩;replace a:=a.aP l o;exact lP 0 0 (xW (cD n) d b e i) a (fun _ a=>ae a [(0,0,3)] (rG (cD n) d b e i) (⟨_,_,_,_,rfl,z,u,a.f.2.1,a.f.1⟩))
theorem LQ.hand (n:Int):LQ 1 (cD n):=by
 unfold cD
 have a:=dy n 41 oM;have b:=mJ (bL (n.tdiv 41) 6);have c:=pO (bL (n.tdiv 41) 6);exact LQ.mkR oM oM oM oM oM
abbrev RT:=Bool × Value × Value
def CS (t:RT):List Value:=[.bool t.1,t.2.1,t.2.2]
def BG:RT:=(false,undef,undef)
abbrev rA (t:RT):Value:=.agg #[.bool t.1,t.2.1,t.2.2]
abbrev Sr (A:Z9)(l:List RT):Hp->Prop:=fun h_=>SlO 3 CS BG h_ A l
def DB (t:RT):Value:=.agg #[.bool t.1,t.2.1,t.2.2]
structure RTs (h:Hp) (ts:List RT) (qs:List Rat):Prop where
  len:ts.length=qs.length
  at_:∀ i,i<qs.length->RQ h (DB (ts.getD i BG)) (qs.getD i 0)
abbrev Rt (t:List RT)(l:List Rat):Hp->Prop:=fun h_=>RTs h_ t l
theorem RTs.gw {h a:Hp}{b:List RT}{c:List Rat}(r:RTs h b c)(u:Gw h a):RTs a b c:=⟨r.len,fun i hi=>(r.at_ i hi).gw u⟩
theorem SS.aT {t:List RT}{l:List Rat}{w0 w:World}{h0 h:Hp}{B:List Bx}{R:List Rw}{F:List (Hp->Prop)}(s:SS w0 h0 w h B R F)(p:RTs h t l):SS w0 h0 w h B R (Rt t l::F):=s.add (K:=Rt t l) p
theorem RTs.nil {h:Hp}:RTs h [] []:=⟨rfl,fun i hi=>by simp at hi⟩
theorem dI {α:Type}(l:List α)(x d:α)(i:Nat):(l++[x]).getD i d=if i<l.length then l.getD i d else if i=l.length then x else d:=by
 split
 ·rename_i h;simp[List.getElem?_append_left h]
 ·rename_i h
  split
  ·rename_i a;subst a;simp
  ·rename_i a;simp[ws (show (l++[x]).length<=i by simp;omega)]
theorem RTs.snoc {h:Hp}{b:List RT}{a:List Rat}(r:RTs h b a){t:RT}{q:Rat}(c:RQ h (DB t) q):RTs h (b++[t]) (a++[q]):=by
 refine ⟨by simp[r.len],fun i hi=>?_⟩;rw[dI,dI,r.len]
 split
 ·rename_i h1;exact r.at_ i h1
 ·rename_i h1
  have:i=a.length:=by simp at hi;omega
  rw[if_pos this,if_pos this];exact c
theorem kj {α:Type}{l:List α}{k:Nat}(d:α)(h:k<l.length):l.take (k+1)=l.take k++[l.getD k d]:=by
 rw[List.take_add_one];simp[h]
def vc (v:Value):List Value:=[v]
abbrev Sv (A:Z9)(l:List Value):Hp->Prop:=fun h_=>SlO 1 vc undef h_ A l
def jb (zs:List Int):Nat->List Rat
  | 0=>[]
  | k+1=>jb zs k++[if k<zs.length then cD (zs.getD k 0) else 0]
theorem ng (a:List Int)(k:Nat):(jb a k).length=k:=by induction k with|zero=>rfl|succ k ih=>simp[jb,ih]
def l5 (zs:List Int):Prop:=∀ k,-9223372036854775808<=zs.getD k 0/\zs.getD k 0<=9223372036854775807
structure RVs (h:Hp) (vs:List Value) (qss:List (List Rat)):Prop where
  len:vs.length=qss.length
  at_:∀ i,i<qss.length->∃ A cap,∃ ts:List RT,vs.getD i undef=.slice A ts.length cap/\ts.length<=cap/\SlO 3 CS BG h A ts/\RTs h ts (qss.getD i [])
abbrev Ru (t:List Value)(l:List (List Rat)):Hp->Prop:=fun h_=>RVs h_ t l
structure QVs (h:Hp) (vs:List Value) (qss:List (List Rat)):Prop where
  len:vs.length=qss.length
  at_:∀ i,i<qss.length->EN 5 qc 0 h (vs.getD i undef) (qss.getD i [])
abbrev Qu (t:List Value)(l:List (List Rat)):Hp->Prop:=fun h_=>QVs h_ t l
theorem kC {b:List Int}{k:Nat}{q:Rat}(d:(if k<b.length then cD (b.getD k 0) else 0)=q){a:List RT}{c:Hp}(e:RTs c a (jb b k++[q])):RTs c a (jb b (k+1)):=by
 show RTs c a (jb b k++[_]);rw[d];exact e
theorem o6 (a:List Int):∀ n i,LQ 1 ((jb a n).getD i 0)
  | 0,i=>LQ.lit (z:=0) kD
  | n + 1,i=>by
    show LQ 1 ((jb a n++[_]).getD i 0)
    rw[dI]
    split
    . exact o6 a n i
    . split
      . split
        . exact LQ.hand _
        . exact LQ.lit (z:=0) kD
      . exact LQ.lit (z:=0) kD
theorem D7 {h:Hp}{A D:Z9}{c d:Nat}{q:Rat}(h1:(lim (ab q.num)).length<=c)(b:(lim q.den).length<=d)(e:SlO 1 eF 0 h A (lim (ab q.num)))(a:SlO 1 eF 0 h D (lim q.den)):RQ h (DB ((aw q.num,.slice A (lim (ab q.num)).length c,.slice D (lim q.den).length d):RT)) q:=⟨_,_,_,_,rfl,h1,b,e,a⟩
theorem CK (A:Z9)(j:Nat)(e:List RT)(b:List Rat)(X:b.length<=1000000)(hf:∀ i,i<b.length->LQ 100000000 (b.getD i 0))(w:World)(h:Hp)(g:G w h)(I:Sr A e h)(V:RTs h e b)(K:Tab h):CR 7 #[.slice A e.length j] w h (fun v h1=>EN 5 qc 0 h1 v b):=by
 have a:=((((sS g).aS I).aT V).aB K);have F:=(a.f.2.1).len;refine go Tryz.func7 [(0,qS A e.length j)] rfl (aa a ac (aK (lL a ac (af (aa a ac (ba ?_))))));replace a:=a.nil 39 5;refine bS _ (CG.loop (fun D Γ J=>∃ (k:Nat)(x:Z9)(u:Nat)(d:List Rat)(B:Hp),D=b.length-k/\Γ=[(0,qS A e.length j),(2,sZ),(4,nV k),(3,qS x ((d).length) u)]/\SS w h J B [] [⟨39,5,x,u,(d).length,(d).flatMap qc⟩] [fun B=>Tab B,Rt e b,Sr A e]/\k<=b.length/\d=b.take k) _ ⟨0,none,0,[],h,rfl,rfl,a.to _ _,GA _,rfl⟩ ?_);rintro _ _ w1 ⟨k,x,u,d,h2,H,rfl,a,hk,p⟩;have S:d.length=k:=by rw[p];simp;omega
 refine cQ (aa a [.c,.c,.v (nV e.length)] ?_);cases o:(decide ((k:Int)<(e.length:Int)))
 .
  have y:=oF o;refine lB 8 o (aj (CG.exit ?_))
  show CG _ _ _ _ _ _ _ _
  refine aa a aF (lN (kX ?_));have C:d=b:=by rw[p];exact List.take_of_length_le oM
  subst C;obtain ⟨W,a,z⟩:=a.pubr 0 (A:=x) (c:=u) (l:=d) (f:=qc) (ty:=39) (sz:=5) 0 (fun _=>rfl);exact a.ret [] (qS x ((d).length) u) (⟨_,_,rfl,z,a.f.1⟩)
 have y:=oT o;refine lB 8 o (ar (cK (cQ (kZ (kQ (lL a eo (lX 14 A e.length j 3 (k:Nat) k ((a.f.r.1).ok oM) ?_)))))));refine lH 15 (rA (e.getD k BG)) a ((a.f.r.1).el k oM) (ao 16 a (Dw _ (b.getD k 0) (hf k oM) _ _ a.g ((a.f.2.1).at_ k oM) a.f.1) (fun Z h9 a=>lR 17 39 1 (qc (b.getD k 0)) a (fun M _ _ a=>lY 18 0 39 5 u x d qc (b.getD k 0) 56 M ci a a.f.1 (fun L O _ Q a=>lL a ac (lN (kQ (lL a ac (bA 10 ((k:Nat)+1) (k+1) ?_))))))));refine lL a ac (lD ?_);intro Y U;replace a:=a.tl;refine ⟨_,_,?_,⟨k+1,L,O,d++[b.getD k 0],Q,rfl,rfl,a.to _ _,oM,(by rw[kj 0 oM,p])⟩,U.to _ kR⟩
 omega
theorem Ey (A:Z9)(e:Nat)(b:List Int)(n:Nat)(hn:n<=1000000)(hl:b.length<=9223372036854775807)(hz:l5 b)(w:World)(h:Hp)(g:G w h)(X:Si A b h):CR 8 #[.slice A b.length e,nV n] w h (fun v h1=>∃ A c,∃ d:List RT,v=.slice A d.length c/\d.length<=c/\Sr A d h1/\RTs h1 d (jb b n)):=by
 have a:=((sS g).aS X);refine go Tryz.func8 [(0,qS A b.length e),(1,nV n)] rfl (aa a ac (aK (lL a ac (af (aa a ac (ba ?_))))));replace a:=a.nil 28 3;replace a:=a.aT (RTs.nil);refine bS _ (CG.loop (fun Q Γ Y=>∃ (k:Nat)(p:Z9)(o:Nat)(d:List RT)(h_:Hp),Q=n-k/\Γ=[(0,qS A b.length e),(1,nV n),(4,sZ),(6,nV k),(5,qS p ((d).length) o)]/\SS w h Y h_ [] [⟨28,3,p,o,(d).length,(d).flatMap CS⟩] [Rt d (jb b k),Si A b]/\k<=n) _ ⟨0,none,0,[],h,rfl,rfl,a.to _ _,GA _⟩ ?_);rintro _ _ w1 ⟨k,p,o,d,h2,V,rfl,a,hk⟩;have F:=(a.f.1).len;rw[ng] at F
 refine cQ (aa a aF ?_);cases j:(decide ((k:Int)<(n:Int)))
 .
  have x:=oF j;refine lB 9 j (aj (CG.exit ?_))
  show CG _ _ _ _ _ _ _ _
  refine aa a aF (lN (kX ?_));have L:k=n:=by omega
  subst L;obtain ⟨h5,a,I⟩:=a.pubr 0 (A:=p) (c:=o) (l:=d) (f:=CS) (ty:=28) (sz:=3) BG (fun _=>rfl);exact a.ret [] (qS p ((d).length) o) (⟨_,_,d,rfl,I,a.f.1,a.f.2.1⟩)
 have x:=oT j;refine lB 9 j (ar (cK (cQ (kZ (aa a [.c,.c,.v (nV b.length)] ?_)))));cases i:(decide ((k:Int)<(b.length:Int)))
 .
  have u:=oF i;refine lB 15 i (aj (kQ (lL a ac (lC 25 a (FZ 0 oM oM _ _ a.g) ?_))));rintro _ _ _ a ⟨B,z,y,C,rfl,zi,zj,zk,U⟩;replace a:=a.aP zk U;refine lR 26 28 1 (xW ((0:Int):Rat) B z y C) a (fun zq _ _ a=>lY 27 0 28 3 o p d CS ((aw ((0:Int):Rat).num,qS B ((lim (ab ((0:Int):Rat).num)).length) z,qS y ((lim ((0:Int):Rat).den).length) C):RT) 56 zq (.agg #[qF,sZ,sZ]) a a.f.1 (fun Z zt _ zu a=>lL a ac (lN (kQ (lL a ac (bA 11 ((k:Nat)+1) (k+1) ?_))))));refine lL a ac (lD ?_);intro a_ O;replace a:=(a.tl.tl.tl.tl.add (K:=Rt (d++[((aw ((0:Int):Rat).num,qS B ((lim (ab ((0:Int):Rat).num)).length) z,qS y ((lim ((0:Int):Rat).den).length) C):RT)]) (jb b (k+1))) (kC ((if_neg oM).trans (show (0:Rat)=((0:Int):Rat) from rfl)) (RTs.snoc a.f.r.2.1 (D7 zi zj a.f.r.1 a.f.2.1))));refine ⟨_,_,?_,⟨k+1,Z,zt,d++[((aw ((0:Int):Rat).num,qS B ((lim (ab ((0:Int):Rat).num)).length) z,qS y ((lim ((0:Int):Rat).den).length) C):RT)],zu,rfl,rfl,a.to _ _,oM⟩,O.to _ kR⟩
  omega
 have u:=oT i;refine lB 15 i (ar (kQ (lL a eo (lX 19 A b.length e 1 (k:Nat) k ((a.f.2.1).ok oM) ?_))));refine lH 20 (iV (b.getD k 0)) a ((a.f.2.1).el k oM) (lC 21 a (hR (b.getD k 0) (hz k).1 (hz k).2 _ _ a.g) ?_);rintro _ _ _ a ⟨J,M,H,D,rfl,zm,zn,W,S⟩;replace a:=a.aP W S;refine lR 22 28 1 (xW (cD (b.getD k 0)) J M H D) a (fun zv _ _ a=>lY 23 0 28 3 o p d CS ((aw (cD (b.getD k 0)).num,qS J ((lim (ab (cD (b.getD k 0)).num)).length) M,qS H ((lim (cD (b.getD k 0)).den).length) D):RT) 56 zv (.agg #[qF,sZ,sZ]) a a.f.1 (fun zw zx _ zA a=>lL a ac (lN (kQ (lL a ac (bA 11 ((k:Nat)+1) (k+1) ?_))))));refine lL a ac (lD ?_);intro a_ O;replace a:=(a.tl.tl.tl.tl.aT (kC (if_pos oM) (RTs.snoc a.f.r.2.1 (D7 zm zn a.f.r.1 a.f.2.1))));refine ⟨_,_,?_,⟨k+1,zw,zx,d++[((aw (cD (b.getD k 0)).num,qS J ((lim (ab (cD (b.getD k 0)).num)).length) M,qS H ((lim (cD (b.getD k 0)).den).length) D):RT)],zA,rfl,rfl,a.to _ _,oM⟩,O.to _ kR⟩
 omega
def maxR (a b:Rat):Rat:=if a<b then b else a
theorem LQ.maxR {k:Nat}{a b:Rat}(ha:LQ k a)(c:LQ k b):LQ k (maxR a b):=by unfold Go.Proofs.YtmdaaeffcfheoaaGreatDoor.maxR;split;exact c;exact ha
structure Lay where
  k:Int
  W:List (List Rat)
  B:List Rat
def gq:Lay:=⟨0,[],[]⟩
abbrev LV:=Int × Value × Value
def C5:LV:=(0,undef,undef)
structure NetL (h:Hp) (ts:List LV) (ls:List Lay):Prop where
  len:ts.length=ls.length
  at_:∀ i,i<ls.length->(ts.getD i C5).1=(ls.getD i gq).k/\(∃ A c,∃ us:List Value,(ts.getD i C5).2.1=.slice A us.length c/\us.length<=c/\SlO 1 vc undef h A us/\QVs h us (ls.getD i gq).W)/\EN 5 qc 0 h (ts.getD i C5).2.2 (ls.getD i gq).B
abbrev Nn (t:List LV)(l:List Lay):Hp->Prop:=fun h_=>NetL h_ t l
structure RNetL (h:Hp) (ts:List LV) (ls:List Lay):Prop where
  len:ts.length=ls.length
  at_:∀ i,i<ls.length->(ts.getD i C5).1=(ls.getD i gq).k/\(∃ A c,∃ us:List Value,(ts.getD i C5).2.1=.slice A us.length c/\us.length<=c/\SlO 1 vc undef h A us/\RVs h us (ls.getD i gq).W) /\
    (∃ A c,∃ rs:List RT,(ts.getD i C5).2.2=.slice A rs.length c/\rs.length<=c/\SlO 3 CS BG h A rs/\RTs h rs (ls.getD i gq).B)
abbrev Rn (t:List LV)(l:List Lay):Hp->Prop:=fun h_=>RNetL h_ t l
def rQ (l:List Rat):Prop:=∀ q∈l,∃ z,q=CM z
structure LayMk (L:Lay) (kq:Nat) (r c:Nat):Prop where
  k:L.k=(kq:Int)
  rows:L.W.length=r
  row:∀ q∈L.W,q.length=c/\rQ q
  bl:L.B.length=r
  bs:rQ L.B
theorem rR (A:Z9)(i:Nat)(e:List Int)(H:e.length<=9223372036854775807)(hz:l5 e)(a at_:Nat)(ha:at_<=e.length)(w:World)(h:Hp)(g:G w h)(y:Own w a 63 [.slice A e.length i,nV at_])(D:h[a]?=some a6)(x:Si A e h):Calls Tryz.prog 43 #[pB a] w (dr a w h fun v w' _=>∃ (z:Int)(at2:Nat),v=iV z/\at2<=e.length/\(-9223372036854775808<=z/\z<=9223372036854775807)/\Own w' a 63 [.slice A e.length i,nV at2]):=by
 have d:UpM [a] w h w h:=UpM.refl g;obtain ⟨wz,u,b⟩:=SS.at_ g y D;replace b:=b.aS x;refine go Tryz.func43 [(0,pB a)] rfl (aa b ac (af (cQ (cR 10 [] mixed b am ?_))));refine eV 0 3 (pB a) (eV 1 4 (pB a) (eV 2 5 (qP a 1) (eO 3 6 [(0,1,1)] (nV at_) b (eV 4 7 (pB a) (eV 5 8 (pB a) (eV 6 9 (pB a) (eO 7 10 [(0,0,1)] (qS A e.length i) b (eV 8 11 (nV e.length) ?_))))))));cases j:(decide ((e.length:Int)<=(at_:Int)))
 .
  have l:=oF j;refine eB 9 12 j (ig b (fun w2 I C b=>?_));replace d:=d.trans (C.m _);refine tN (cG (cK (aa b [.c,.v (pB a),.v (qP a 1),.o (nV at_) 0 1 1] (bA 17 ((at_:Nat)+1) (at_+1) ?_))));refine lL b [.v (pB a),.v (qP a 1)] (kH 0 1 ([nV (at_+1)]) b (fun L F b=>?_));replace d:=d.put F (ul.2 rfl) b.g;refine af (cR 11 [] mixed b am ?_);refine eV 0 20 (pB a) (eV 1 21 (pB a) (eV 2 22 (pB a) (eO 3 23 [(0,0,1)] (qS A e.length i) b (eV 4 24 (pB a) (eV 5 25 (pB a) (eV 6 26 (qP a 1) (eO 7 27 [(0,1,1)] (nV (at_+1)) b (km 8 28 ((at_+1:Nat)-1) ((at_+1)-1) (eX 9 29 A e.length i 1 ((at_+1)-1:Nat) ((at_+1)-1) ((b.f.1).ok oM) (eH 10 30 (iV (e.getD ((at_+1)-1) 0)) b ((b.f.1).el ((at_+1)-1) oM) (ig b (fun J K B b=>?_))))))))))));replace d:=d.trans (B.m _);exact tV 11 2 (iV (e.getD ((at_+1)-1) 0)) (tN (kX (b.retM d [] (iV (e.getD ((at_+1)-1) 0)) ⟨e.getD ((at_+1)-1) 0,(at_+1),rfl,by omega,hz _,b.own 0⟩)))
 have l:=oT j;refine eB 9 12 j (ig b (fun M _ p b=>?_));replace d:=d.trans (p.m _);exact tN (bY (aa b ac (lN (kX (b.retM d [] (iV 0) ⟨0,at_,rfl,by omega,⟨by decide,by decide⟩,b.own 0⟩)))))
structure LayFit (L:Lay):Prop where
  rl:L.W.length<=1000000
  rls:∀ i,i<L.W.length->(L.W.getD i []).length<=1000000
  rf:∀ i,i<L.W.length->∀ j,j<(L.W.getD i []).length->LQ 100000000 ((L.W.getD i []).getD j 0)
  bl:L.B.length<=1000000
  bf:∀ i,i<L.B.length->LQ 100000000 (L.B.getD i 0)
structure Stp where
  op:Int
  a:Int
  b:Int
  n:Int
  q:Rat
abbrev sX (p:Stp):Value:=.agg #[iV p.op,iV p.a,iV p.b,iV p.n,.bool (aw p.q.num),uV (lo (ab p.q.num)),.string (hi (ab p.q.num)),uV (lo (qd p.q)),.string (hi (qd p.q))]
abbrev sC (p:Stp):List Value:=[iV p.op,iV p.a,iV p.b,iV p.n,.bool (aw p.q.num),uV (lo (ab p.q.num)),.string (hi (ab p.q.num)),uV (lo (qd p.q)),.string (hi (qd p.q))]
abbrev sW (o a b n:Int)(q:Rat):Value:=.agg #[iV o,iV a,iV b,iV n,.bool (aw q.num),uV (lo (ab q.num)),.string (hi (ab q.num)),uV (lo (qd q)),.string (hi (qd q))]
abbrev sG (o a b n:Int)(q:Rat):List Value:=[iV o,iV a,iV b,iV n,.bool (aw q.num),uV (lo (ab q.num)),.string (hi (ab q.num)),uV (lo (qd q)),.string (hi (qd q))]
def dE:Stp:=⟨0,0,0,0,0⟩
abbrev gP (l:List Stp)(k:Nat):Stp:=l.getD k dE
def fb (op:Int):Int :=
  if op=1\/op=2 then 0 else if op=7\/op=8\/op=9\/op=10\/op=11 then 1
  else if op=3\/op=4\/op=5\/op=6\/op=12\/op=13 then 2 else -1
theorem aN (op:Int):(fb op=0/\(op=1\/op=2))\/(fb op=1/\(op=7\/op=8\/op=9\/op=10\/op=11))\/(fb op=2/\(op=3\/op=4\/op=5\/op=6\/op=12\/op=13))\/(fb op = -1/\(op<1\/13<op)):=by
 unfold fb;split
 ·exact .inl ⟨rfl,by assumption⟩
 ·split
  ·exact .inr (.inl ⟨rfl,by assumption⟩)
  ·split
   ·exact .inr (.inr (.inl ⟨rfl,by assumption⟩))
   ·exact .inr (.inr (.inr ⟨rfl,by omega⟩))
def k8 (i:Nat)(tt:Int)(used:Prop):Prop:=(used->0<=tt/\tt<i)/\(¬used->tt=0)
def mm (inp:Int)(i:Nat)(s:Stp):Prop :=
  0<=fb s.op/\k8 i s.a (0<fb s.op)/\k8 i s.b (1<fb s.op)/\(s.op≠1->s.q.num=0) /\
  (s.op=2->0<=s.n/\s.n<inp)/\(s.op=8 -> -12<=s.n/\s.n<=12)/\(s.op≠2->s.op≠8->s.n=0)
instance (i:Nat) (tt:Int) (u:Prop) [Decidable u]:Decidable (k8 i tt u):=by unfold k8;infer_instance
instance (inp:Int) (i:Nat) (s:Stp):Decidable (mm inp i s):=by unfold mm;infer_instance
def uk (n:Nat)(os:List Int):Prop:=∀ i,i<os.length->0<=os.getD i 0/\os.getD i 0<n
instance (n:Nat) (os:List Int):Decidable (uk n os):=by unfold uk;infer_instance
structure RSt where
  op:Int
  a:Int
  b:Int
  n:Int
  t:RT
def Fn:RSt:=⟨0,0,0,0,BG⟩
structure OSt where
  op:Int
  a:Int
  b:Int
  n:Int
  q:Rat
  has:Bool
def BK:OSt:=⟨0,0,0,0,0,false⟩
def FH (o:OSt):Nat:=if o.has then o.q.den else 0
def OSt.stp (o:OSt):Stp:=⟨o.op,o.a,o.b,o.n,o.q⟩
abbrev gO (s:List OSt)(k:Nat):OSt:=s.getD k BK
abbrev mO (s:List OSt):List Stp:=s.map OSt.stp
structure RS1 (h:Hp) (t:RSt) (o:OSt):Prop where
  op:t.op=o.op
  a:t.a=o.a
  b:t.b=o.b
  n:t.n=o.n
  q:RP h (DB t.t) o.q.num (FH o)
  z:o.has=false->o.q=0
structure RSs (h:Hp) (ts:List RSt) (os:List OSt):Prop where
  len:ts.length=os.length
  at_:∀ i,i<os.length->RS1 h (ts.getD i Fn) (os.getD i BK)
structure OSm (o:OSt):Prop where
  op : -1000<=o.op/\o.op<=1000
  a : -1000<=o.a/\o.a<=1000
  b : -1000<=o.b/\o.b<=1000
  n : -1000<=o.n/\o.n<=1000
  q:LQ 1 o.q
def E1 (os:List OSt):Prop:=∀ i,i<os.length->OSm (os.getD i BK)
structure LayLen (L:Lay):Prop where
  rl:L.W.length<=1000000
  rls:∀ i,i<L.W.length->(L.W.getD i []).length<=1000000
  bl:L.B.length<=1000000
structure Mat (W:List (List Rat)) (r c:Nat):Prop where
  rows:W.length=r
  rpos:0<r
  cpos:0<c
  row:∀ i,i<r->(W.getD i []).length=c
structure Net3 (ls:List Lay) (d:Nat->Nat):Prop where
  len:1<=ls.length/\ls.length<=4
  first:d 0<=20
  lay:∀ i,i<ls.length->Mat (ls.getD i gq).W (d (i+1)) (d i)/\(ls.getD i gq).B.length=d (i+1)/\d (i+1)<=12/\((ls.getD i gq).k=1\/(ls.getD i gq).k=2\/(ls.getD i gq).k=3)
def FL (k:Int)(u:Rat):Rat:=if k=2 then maxR u 0 else if k=3 then u/(((1:Int):Rat)+cJ u) else u
def Fb (L:Lay)(x:List Rat):List Rat:=(ov L.W.length).map fun i=>FL L.k (Bk (L.W.getD i []) x x.length+L.B.getD i 0)
def vu (ls:List Lay)(xs:List Rat):Nat->List Rat
  | 0=>xs
  | k+1=>Fb (ls.getD k gq) (vu ls xs k)
abbrev gD (ls:List Lay)(xs:List Rat)(k r:Nat):Rat:=Bk ((ls.getD k gq).W.getD r []) (vu ls xs k) (vu ls xs k).length
abbrev gS (ls:List Lay)(xs:List Rat)(k r:Nat):Rat:=gD ls xs k r+((ls.getD k gq).B).getD r 0
structure NetB (ls:List Lay) (xs:List Rat):Prop where
  w:∀ k i j,LQ 1000000 (((ls.getD k gq).W.getD i []).getD j 0)
  b:∀ k i,LQ 1000000 ((ls.getD k gq).B.getD i 0)
  x:∀ k,k<=ls.length->∀ j,LQ 1000000 ((vu ls xs k).getD j 0)
theorem uH {n:Nat}:∀ j,(yJ n (0:Rat)).getD j 0=0:=fun j=>by
 rw[zh,List.getElem?_replicate];split<;>rfl
structure LaySz (L:Lay):Prop where
  rl:L.W.length<=8
  rls:∀ i,(L.W.getD i []).length<=8
  bl:L.B.length<=8
  w:∀ i j,LQ 1 ((L.W.getD i []).getD j 0)
  b:∀ i,LQ 1 (L.B.getD i 0)
  b4:L.B.length<=4
  w4:(L.W.getD 0 []).length<=4
theorem iZ {k:Nat}(h:1<=k):LQ k 0:=(LQ.lit (z:=0) kD).mono h
theorem dK {α:Type}{l:List α}{n i:Nat}{d x:α}(h:n<l.length):(l.set n x).getD i d=if i=n then x else l.getD i d:=by
 split
 ·rename_i e;subst e;simp[h]
 ·rename_i e;rw[zh,List.getElem?_set_ne (Ne.symm e),<-zh]
structure LayS4 (L:Lay):Prop where
  rl:L.W.length<=4
  rls:∀ i,(L.W.getD i []).length<=4
  bl:L.B.length<=4
  w:∀ i j,LQ 1 ((L.W.getD i []).getD j 0)
  b:∀ i,LQ 1 (L.B.getD i 0)
theorem cY {α:Type}{l:List α}{i:Nat}{d:α}(h:l.length<=i):l.getD i d=d:=by rw[zh,ws h];rfl
def cO (a:Rat):Nat->Rat
  | 0=>((1:Int):Rat)
  | k+1=>cO a k*a
theorem k9 {a:Rat}(h:a≠0):∀ k,cO a k≠0
 | 0=>by show ((1:Int):Rat)≠0;decide
 | k+1=>by show cO a k*a≠0;have:=k9 h k;grind
def gl (a:Rat)(n:Int):Rat:=if 0<=n then cO a n.natAbs else ((1:Int):Rat)/cO a n.natAbs
def qz (a b:Rat):Rat:=if b<a then b else a
def ko (op n:Int)(q a b:Rat):Rat :=
  if op=1 then q else if op=3 then a+b else if op=4 then a-b else if op=5 then a*b else if op=6 then a/b else if op=7 then -a
  else if op=8 then gl a n else if op=9 then cJ a else if op=10 then maxR a 0 else if op=11 then a/(cJ a+((1:Int):Rat)) else if op=12 then maxR a b else qz a b
def Ak (op n:Int)(a b:Rat):Prop:=(op=6->b≠0)/\(op=8->n<0->a≠0)
instance (op n:Int) (a b:Rat):Decidable (Ak op n a b):=by unfold Ak;infer_instance
def EE (op:Int)(a b:Rat):Prop:=(op=9\/op=10)/\a=0\/(op=12\/op=13)/\a=b
instance (op:Int) (a b:Rat):Decidable (EE op a b):=by unfold EE;infer_instance
def AY (op n:Int)(a b:Rat):Rat :=
  if op=3 then ((1:Int):Rat) else if op=4 then ((1:Int):Rat) else if op=5 then b else if op=6 then ((1:Int):Rat)/b else if op=7 then -((1:Int):Rat)
  else if op=8 then (if n=0 then 0 else gl a (n-1)*((n:Int):Rat)) else if op=9 then ((a.num.sign:Int):Rat) else if op=10 then ((max a.num.sign 0:Int):Rat)
  else if op=11 then (((1:Int):Rat)/(((1:Int):Rat)+cJ a))*(((1:Int):Rat)/(((1:Int):Rat)+cJ a))
  else if op=12 then (if b<a then ((1:Int):Rat) else 0) else if op=13 then (if b<a then 0 else ((1:Int):Rat)) else 0
def B8 (op:Int)(a b:Rat):Rat :=
  if op=3 then ((1:Int):Rat) else if op=4 then -((1:Int):Rat) else if op=5 then a else if op=6 then -(a*(((1:Int):Rat)/b)*(((1:Int):Rat)/b))
  else if op=12 then (if b<a then 0 else ((1:Int):Rat)) else if op=13 then (if b<a then ((1:Int):Rat) else 0) else 0
theorem jo (z:Int) : -1<=z.sign/\z.sign<=1:=by
 rcases G3 z 0 with h|h|h
 ·rw[GL h];decide
 ·rw[h];decide
 ·rw[GM h];decide
theorem je {a:Rat}{K:Nat}(h:LQ K a):∀ k,LQ (k*K+1) (cO a k)
 | 0=>LQ.mono (k:=1) (LQ.lit (z:=1) kD) oM
 | k+1=>((je h k).mul h).mono (by rw[Nat.add_mul];omega)
theorem iu {a b:Rat}:dx a b=0↔a=b:=by
 constructor
 ·intro h
  have h1:¬a<b:=fun x=>by have:=jg.2 x;omega
  have c:¬b<a:=fun x=>by have:=ji.2 x;omega
  grind
 ·intro h;subst h
  have h1:¬dx a a<0:=fun x=>by have:=jg.1 x;grind
  have c:¬dx a a>0:=fun x=>by have:=ji.1 x;grind
  omega
def E9 (op n:Int)(q a b:Rat):Rat:=if Ak op n a b then ko op n q a b else 0
theorem hJ {a b:List Rat}(h:a.length=b.length)(hv:∀ j,a.getD j 0=b.getD j 0):a=b:=by
 refine List.ext_getElem h (fun i h1 c=>?_);have:=hv i
 simpa [h1,c] using this
theorem xA {a:Rat}:0<a.num.sign↔0<a:=by
 rw[Rat.lt_iff]
 rcases G3 a.num 0 with h|h|h
 ·rw[GL h];simp;omega
 ·rw[h];simp
 ·rw[GM h];simpa using h
section ro
variable {w0:World}{h0:Hp}{w:World}{h:Hp}{B:List Bx}{R:List Rw}{F:List (Hp->Prop)}
theorem SS.ro_jk (s:SS w0 h0 w h B R F)(j:Nat){ty:TypeId}{sz c m:Nat}{A:Z9}{cs:List Value}(hr:R.getD j default=⟨ty,sz,A,c,m,cs⟩:=by kernel_rfl)(e:decide (j<R.length)=true:=by kernel_rfl):∀ b∈(Value.slice A m c).ownBlock.toList,h[b]?=some a6:=fun b d=>by
 have a:=oT e;have r:=s.ro _ (gp a);rw[kc hr a] at r
 exact r.jk b (Hu.1 d)
theorem SS.ro_lt (s:SS w0 h0 w h B R F)(j:Nat){ty:TypeId}{sz c m:Nat}{A:Z9}{cs:List Value}(hr:R.getD j default=⟨ty,sz,A,c,m,cs⟩:=by kernel_rfl)(e:decide (j<R.length)=true:=by kernel_rfl):∀ b∈(Value.slice A m c).ownBlock.toList,b<h.size:=fun b d=>by
 have a:=oT e;have r:=s.ro _ (gp a);rw[kc hr a] at r
 exact aE (r.jk b (Hu.1 d))
theorem SS.ro_ne (s:SS w0 h0 w h B R F)(q j:Nat){ty:TypeId}{sz c m:Nat}{A:Z9}{cs:List Value}(e:decide (q<B.length)=true:=by kernel_rfl)(hr:R.getD j default=⟨ty,sz,A,c,m,cs⟩:=by kernel_rfl)(f:decide (j<R.length)=true:=by kernel_rfl):(av B q).b ∉ (Value.slice A m c).ownBlock.toList:=fun d=>by
 have a:=oT f;have r:=s.ro _ (gp a);rw[kc hr a] at r
 exact r.ap _ (Hu.1 d) (g1.2 ⟨_,a8 (oT e),rfl⟩)
end ro
def bI (op n:Int)(a b:Rat):Int:=if Ak op n a b then (if EE op a b then 7 else 0) else 6
theorem i1:((1:Int):Rat)=1:=rfl
theorem i0:((0:Int):Rat)=0:=rfl
theorem Au:((-1:Int):Rat) = -1:=rfl
theorem CD {f:Nat->Rat}{K m:Nat}(a:1<=K)(h:∀ i,LQ K (f i))(j:Nat):LQ K (((ov m).map f).getD j 0):=by
 by_cases hj:j<m
 ·simp[hj];exact h j
 ·simp[hj];exact iZ a
def FI (z:Nat)(l:List Stp):Prop:=∀ k,k<l.length->(l.getD k dE).op=8->(k=z -> -12<=(l.getD k dE).n/\(l.getD k dE).n<=12)/\(k≠z -> -1<=(l.getD k dE).n/\(l.getD k dE).n<=2)
def ck (n j:Nat):List Rat:=(yJ n (0:Rat)).set j ((1:Int):Rat)
theorem sE {α:Type}{l:List α}{i:Nat}{d:α}(h:i<l.length):l.getD i d∈l:=by
 rw[zh,List.getElem?_eq_getElem h];exact gp h
theorem qy {α:Type}{l:List α}{i:Nat}{d:α}(h:l.length<=i):l.getD i d=d:=by
 rw[zh,ws h];rfl
def dz (s:ByteArray):List Value:=[.string s]
inductive Tm where
  | mk (op n:Int) (q:Rat) (s:ByteArray) (ks:List Tm)
def Tm.op:Tm->Int|.mk op _ _ _ _=>op
def Tm.n:Tm->Int|.mk _ n _ _ _=>n
def Tm.q:Tm->Rat|.mk _ _ q _ _=>q
def Tm.s:Tm->ByteArray|.mk _ _ _ s _=>s
def Tm.ks:Tm->List Tm|.mk _ _ _ _ ks=>ks
def bZ:Tm:=.mk 0 0 0 ⟨#[]⟩ []
structure PTm where
  op:Int
  n:Int
  q:Rat
  s:ByteArray
  A:Z9
  m:Nat
  c:Nat
abbrev pX (p:PTm):Value:=.agg #[iV p.op,iV p.n,.bool (aw p.q.num),uV (lo (ab p.q.num)),.string (hi (ab p.q.num)),uV (lo (qd p.q)),.string (hi (qd p.q)),.string p.s,.slice p.A p.m p.c]
abbrev pC (p:PTm):List Value:=[iV p.op,iV p.n,.bool (aw p.q.num),uV (lo (ab p.q.num)),.string (hi (ab p.q.num)),uV (lo (qd p.q)),.string (hi (qd p.q)),.string p.s,.slice p.A p.m p.c]
abbrev pW (o n:Int)(q:Rat)(s:ByteArray)(A:Z9)(m c:Nat):Value:=.agg #[iV o,iV n,.bool (aw q.num),uV (lo (ab q.num)),.string (hi (ab q.num)),uV (lo (qd q)),.string (hi (qd q)),.string s,.slice A m c]
abbrev pG (o n:Int)(q:Rat)(s:ByteArray)(A:Z9)(m c:Nat):List Value:=[iV o,iV n,.bool (aw q.num),uV (lo (ab q.num)),.string (hi (ab q.num)),uV (lo (qd q)),.string (hi (qd q)),.string s,.slice A m c]
def aZ:PTm:=⟨0,0,0,⟨#[]⟩,none,0,0⟩
def be (p:PTm):List Value:=[.int .i64 p.op,.int .i64 p.n,.bool (aw p.q.num),.int .u64 (lo (ab p.q.num)),.string (hi (ab p.q.num)),.int .u64 (lo (qd p.q)),.string (hi (qd p.q)),.string p.s,.slice p.A p.m p.c]
def az (p:PTm):Value:=.agg #[.int .i64 p.op,.int .i64 p.n,.bool (aw p.q.num),.int .u64 (lo (ab p.q.num)),.string (hi (ab p.q.num)),.int .u64 (lo (qd p.q)),.string (hi (qd p.q)),.string p.s,.slice p.A p.m p.c]
def TmH:Nat->Hp->PTm->Tm->Prop
  | 0,_,_,_=>False
  | d+1,h,p,t=>p.op=t.op/\p.n=t.n/\p.q=t.q/\p.s=t.s/\p.m=t.ks.length/\p.m<=p.c/\∃ ps:List PTm,ps.length=t.ks.length/\SlO 9 be aZ h p.A ps/\∀ i,i<t.ks.length->TmH d h (ps.getD i aZ) (t.ks.getD i bZ)
theorem TmH.gw:∀ {d:Nat} {h a:Hp} {p:PTm} {t:Tm},TmH d h p t->Gw h a->TmH d a p t
 | 0,_,_,_,_,x,_=>x
 | d+1,_,_,_,_,⟨h1,h2,h3,h4,h5,h6,ps,h7,h8,h9⟩,u=>⟨h1,h2,h3,h4,h5,h6,ps,h7,h8.gw u,fun i hi=>TmH.gw (h9 i hi) u⟩
theorem TmH.mono {h:Hp}:∀ {d e:Nat} {p:PTm} {t:Tm},TmH d h p t->d<=e->TmH e h p t
 | d+1,e+1,_,_,⟨h1,h2,h3,h4,h5,h6,ps,h7,h8,h9⟩,u=>⟨h1,h2,h3,h4,h5,h6,ps,h7,h8,fun i hi=>TmH.mono (h9 i hi) oM⟩
structure RTm where
  op:Int
  n:Int
  neg:Bool
  zA:Z9
  zn:Nat
  zc:Nat
  dA:Z9
  dn:Nat
  dc:Nat
  s:ByteArray
  A:Z9
  m:Nat
  c:Nat
def RTm.t (r:RTm):RT:=(r.neg,.slice r.zA r.zn r.zc,.slice r.dA r.dn r.dc)
def fV:RTm:=⟨0,0,false,none,0,0,none,0,0,⟨#[]⟩,none,0,0⟩
def cB (r:RTm):List Value:=[.int .i64 r.op,.int .i64 r.n,.bool r.neg,.slice r.zA r.zn r.zc,.slice r.dA r.dn r.dc,.string r.s,.slice r.A r.m r.c]
def dw (r:RTm):Value:=.agg #[.int .i64 r.op,.int .i64 r.n,.bool r.neg,.slice r.zA r.zn r.zc,.slice r.dA r.dn r.dc,.string r.s,.slice r.A r.m r.c]
def RZ (h:Hp)(t:RT)(q:Rat):Prop:=∃ has:Bool,RP h (DB t) q.num (if has then q.den else 0)/\(has=false->q=0)
theorem RZ.gw {h a:Hp}{t:RT}{q:Rat}(x:RZ h t q)(u:Gw h a):RZ a t q:=by
 obtain ⟨c,h1,b⟩:=x;exact ⟨c,h1.gw u,b⟩
def RmH:Nat->Hp->RTm->Tm->Prop
  | 0,_,_,_=>False
  | d+1,h,r,t=>r.op=t.op/\r.n=t.n/\RZ h r.t t.q/\r.s=t.s/\r.m=t.ks.length/\r.m<=r.c/\∃ rs:List RTm,rs.length=t.ks.length/\SlO 7 cB fV h r.A rs/\∀ i,i<t.ks.length->RmH d h (rs.getD i fV) (t.ks.getD i bZ)
theorem Bf {h:Hp}{b:Bool}{l i:Z9}{j o f y:Nat}{q:Rat}(x:RZ h (b,.slice l j o,.slice i f y) q)(p:0<f):RP h (.agg #[.bool b,.slice l j o,.slice i f y]) q.num q.den:=by
 obtain ⟨z,h1,H⟩:=x;cases z
 ·obtain ⟨A,c,D,d,e,F,B,I,C⟩:=h1
  injection e with e
  have u:=congrArg (fun a:Array Value=>a.toList) e
  simp at u
  have:f=(lim 0).length:=u.2.2.2.1;have h0:(lim 0).length=0:=by have:=@de 0;omega
  omega
 ·exact h1
theorem DL {h:Hp}{b:Bool}{l i:Z9}{j o y:Nat}{q:Rat}(x:RZ h (b,.slice l j o,.slice i 0 y) q):q=0:=by
 obtain ⟨u,h1,p⟩:=x;cases u
 ·exact p rfl
 ·obtain ⟨A,c,D,d,e,H,z,I,B⟩:=h1
  injection e with e
  have f:=congrArg (fun a:Array Value=>a.toList) e
  simp at f
  have F:0=(lim q.den).length:=f.2.2.2.1;have C:=(@de q.den).2 q.den_pos
  omega
theorem RmH.gw:∀ {d:Nat} {h a:Hp} {r:RTm} {t:Tm},RmH d h r t->Gw h a->RmH d a r t
 | 0,_,_,_,_,x,_=>x
 | d+1,_,_,_,_,⟨h1,h2,h3,h4,h5,h6,ps,h7,h8,h9⟩,u=>⟨h1,h2,h3.gw u,h4,h5,h6,ps,h7,h8.gw u,fun i hi=>RmH.gw (h9 i hi) u⟩
structure Tms (d:Nat) (h:Hp) (ps:List PTm) (ts:List Tm):Prop where
  len:ps.length=ts.length
  at_:∀ i,i<ts.length->TmH d h (ps.getD i aZ) (ts.getD i bZ)
theorem Tms.gw {d:Nat}{h a:Hp}{ps:List PTm}{b:List Tm}(x:Tms d h ps b)(u:Gw h a):Tms d a ps b:=⟨x.len,fun i hi=>(x.at_ i hi).gw u⟩
structure Rms (d:Nat) (h:Hp) (rs:List RTm) (ts:List Tm):Prop where
  len:rs.length=ts.length
  at_:∀ i,i<ts.length->RmH d h (rs.getD i fV) (ts.getD i bZ)
theorem Rms.gw {d:Nat}{h a:Hp}{c:List RTm}{b:List Tm}(x:Rms d h c b)(u:Gw h a):Rms d a c b:=⟨x.len,fun i hi=>(x.at_ i hi).gw u⟩
theorem Rms.snoc {d:Nat}{h:Hp}{b:List RTm}{a:List Tm}{r:RTm}{t:Tm}(x:Rms d h b a)(y:RmH d h r t):Rms d h (b++[r]) (a++[t]):=by
 refine ⟨by simp[x.len],fun i hi=>?_⟩;rw[yA,Hv] at hi
 rw[dI,dI,x.len]
 by_cases e:i<a.length
 ·rw[if_pos e,if_pos e];exact x.at_ i e
 ·rw[if_neg e,if_neg e,if_pos oM,if_pos oM];exact y
theorem Tms.nil {d:Nat}{h:Hp}:Tms d h [] []:=⟨rfl,fun i hi=>by simp at hi⟩
theorem Tms.snoc {d:Nat}{h:Hp}{b:List PTm}{a:List Tm}{r:PTm}{t:Tm}(x:Tms d h b a)(y:TmH d h r t):Tms d h (b++[r]) (a++[t]):=by
 refine ⟨by simp[x.len],fun i hi=>?_⟩;rw[yA,Hv] at hi
 rw[dI,dI,x.len]
 by_cases e:i<a.length
 ·rw[if_pos e,if_pos e];exact x.at_ i e
 ·rw[if_neg e,if_neg e,if_pos oM,if_pos oM];exact y
theorem TmH.mk {d:Nat}{h:Hp}{op n:Int}{q:Rat}{s:ByteArray}{A:Z9}{c:Nat}{ps:List PTm}{ks:List Tm}(x:Tms d h ps ks)(b:ps.length<=c)(a:SlO 9 be aZ h A ps):TmH (d+1) h ⟨op,n,q,s,A,ps.length,c⟩ (.mk op n q s ks) :=
 ⟨rfl,rfl,rfl,rfl,x.len,b,ps,x.len,a,x.at_⟩
theorem TmH.open {d:Nat}{h:Hp}{p:PTm}{t:Tm}(x:TmH (d+1) h p t):∃ op n q s A c,∃ ps:List PTm,∃ ks:List Tm,p=⟨op,n,q,s,A,ps.length,c⟩/\t=.mk op n q s ks/\ps.length<=c/\SlO 9 be aZ h A ps/\Tms d h ps ks:=by
  obtain ⟨op,n,q,s,A,m,c⟩:=p;cases t with
  | mk px n2 q2 s2 ks =>
    obtain ⟨h1,l,i,f,e,o,ps,a,b,j⟩:=x;obtain rfl:op=px:=h1;obtain rfl:n=n2:=l;obtain rfl:q=q2:=i;obtain rfl:s=s2:=f;obtain rfl:m=ps.length:=(show m=ks.length from e).trans a.symm;exact ⟨op,n,q,s,A,c,ps,ks,rfl,rfl,o,b,a,j⟩
theorem RmH.open {d:Nat}{h:Hp}{p:RTm}{t:Tm}(x:RmH (d+1) h p t):∃ op n b i f j e a l q s A c,∃ ps:List RTm,∃ ks:List Tm,p=⟨op,n,b,i,f,j,e,a,l,s,A,ps.length,c⟩/\t=.mk op n q s ks/\RZ h (b,.slice i f j,.slice e a l) q/\ps.length<=c/\SlO 7 cB fV h A ps/\Rms d h ps ks:=by
  obtain ⟨op,n,b,i,f,j,e,a,l,s,A,m,c⟩:=p;cases t with
  | mk px n2 q2 s2 ks =>
    obtain ⟨h1,D,B,z,y,F,ps,o,u,C⟩:=x;obtain rfl:op=px:=h1;obtain rfl:n=n2:=D;obtain rfl:s=s2:=z;obtain rfl:m=ps.length:=(show m=ks.length from y).trans o.symm;exact ⟨op,n,b,i,f,j,e,a,l,q2,s,A,c,ps,ks,rfl,rfl,B,F,u,o,C⟩
def dl (f:Nat->Nat):Nat->Nat
  | 0=>0
  | k+1=>dl f k+f k
def bj (n:Int):Nat:=if n.natAbs<=1 then 1 else n.natAbs
def bu:Nat->Tm->Nat
  | 0,_=>0
  | d+1,t=>if t.ks.length=0 then 1 else (if t.op=11 then 2 else if t.op=8 then bj t.n else 1)*dl (fun i=>bu d (t.ks.getD i bZ)) t.ks.length
def WfT (ok:ByteArray->Prop):Nat->Tm->Prop
  | 0,_=>False
  | d+1,t=>fb t.op=t.ks.length/\(t.op≠1->t.q=0)/\LQ 3000 t.q/\(t.op=2->ok t.s)/\(t.op≠2->t.s=⟨#[]⟩)/\(t.op≠8->t.n=0) /\ -12<=t.n/\t.n<=12/\∀ i,i<t.ks.length->WfT ok d (t.ks.getD i bZ)
theorem WfT.mono {ok:ByteArray->Prop}:∀ {d e:Nat} {t:Tm},WfT ok d t->d<=e->WfT ok e t
 | d+1,e+1,_,⟨h1,h2,h3,h4,h5,h6,h7,h8,h9⟩,u=>⟨h1,h2,h3,h4,h5,h6,h7,h8,fun i hi=>WfT.mono (h9 i hi) oM⟩
def SmT (sm:ByteArray->Prop):Nat->Tm->Prop
  | 0,_=>False
  | d+1,t=>t.ks.length<=3/\(-1000<=t.op/\t.op<=1000)/\(-1000<=t.n/\t.n<=1000)/\LQ 3000 t.q/\sm t.s/\∀ i,i<t.ks.length->SmT sm d (t.ks.getD i bZ)
theorem SmT.mono {sm:ByteArray->Prop}:∀ {d e:Nat} {t:Tm},SmT sm d t->d<=e->SmT sm e t
 | d+1,e+1,_,⟨h1,h2,h3,h4,h5,h6⟩,u=>⟨h1,h2,h3,h4,h5,fun i hi=>SmT.mono (h6 i hi) oM⟩
theorem WfT.sm {ok sm:ByteArray->Prop}(h:∀ s,ok s->sm s)(h0:sm ⟨#[]⟩):∀ {d:Nat} {t:Tm},WfT ok d t->SmT sm d t
  | d+1,t,⟨h1,h2,h3,h4,h5,h6,h7,h8,h9⟩=>by
    have a:=aN t.op;refine ⟨by omega,⟨by omega,by omega⟩,⟨by omega,by omega⟩,h3,?_,fun i hi=>WfT.sm h h0 (h9 i hi)⟩
    by_cases e:t.op=2
    . exact h _ (h4 e)
    . rw[h5 e];exact h0
def WfT1 (ok:ByteArray->Prop):Nat->Tm->Prop
  | 0,_=>False
  | d+1,t=>fb t.op=t.ks.length/\(t.op≠1->t.q=0)/\LQ 1 t.q/\(t.op=2->ok t.s)/\(t.op≠2->t.s=⟨#[]⟩)/\(t.op≠8->t.n=0) /\ -12<=t.n/\t.n<=12/\∀ i,i<t.ks.length->WfT1 ok d (t.ks.getD i bZ)
theorem WfT1.wf {ok:ByteArray->Prop}:∀ {d:Nat} {t:Tm},WfT1 ok d t->WfT ok d t
 | _+1,_,⟨h1,h2,h3,h4,h5,h6,h7,h8,h9⟩=>⟨h1,h2,h3.mono kD,h4,h5,h6,h7,h8,fun i hi=>WfT1.wf (h9 i hi)⟩
theorem WfT1.mono {ok:ByteArray->Prop}:∀ {d e:Nat} {t:Tm},WfT1 ok d t->d<=e->WfT1 ok e t
 | d+1,e+1,_,⟨h1,h2,h3,h4,h5,h6,h7,h8,h9⟩,u=>⟨h1,h2,h3,h4,h5,h6,h7,h8,fun i hi=>WfT1.mono (h9 i hi) oM⟩
def SmT1 (sm:ByteArray->Prop):Nat->Tm->Prop
  | 0,_=>False
  | d+1,t=>t.ks.length<=3/\(-1000<=t.op/\t.op<=1000)/\(-1000<=t.n/\t.n<=1000)/\LQ 1 t.q/\sm t.s/\∀ i,i<t.ks.length->SmT1 sm d (t.ks.getD i bZ)
theorem SmT1.sm {sm:ByteArray->Prop}:∀ {d:Nat} {t:Tm},SmT1 sm d t->SmT sm d t
 | _+1,_,⟨h1,h2,h3,h4,h5,h6⟩=>⟨h1,h2,h3,h4.mono kD,h5,fun i hi=>SmT1.sm (h6 i hi)⟩
theorem WfT1.sm {ok sm:ByteArray->Prop}(h:∀ s,ok s->sm s)(h0:sm ⟨#[]⟩):∀ {d:Nat} {t:Tm},WfT1 ok d t->SmT1 sm d t
  | d+1,t,⟨h1,h2,h3,h4,h5,h6,h7,h8,h9⟩=>by
    have a:=aN t.op;refine ⟨by omega,⟨by omega,by omega⟩,⟨by omega,by omega⟩,h3,?_,fun i hi=>WfT1.sm h h0 (h9 i hi)⟩
    by_cases e:t.op=2
    . exact h _ (h4 e)
    . rw[h5 e];exact h0
def EZ (isb:ByteArray->Bool)(op n:Int)(q:Rat)(s:ByteArray)(m:Nat):Prop:=fb op=m/\(op=1\/q.num=0)/\((op=2->isb s=true)/\(op≠2->s=⟨#[]⟩))/\((op=8\/n=0) /\ -12<=n/\n<=12)
section
variable {isb:ByteArray->Bool}{d:Nat}{op n:Int}{q:Rat}{s:ByteArray}{ks:List Tm}
theorem xw (w:WfT (fun s=>isb s=true) (d+1) (.mk op n q s ks)):EZ isb op n q s ks.length:=by
 obtain ⟨h1,f,l,b,h,a,i,c,j⟩:=w;refine ⟨h1,?_,⟨b,h⟩,?_,i,c⟩
 ·by_cases e:op=1
  ·exact .inl e
  ·exact .inr (Hw.2 (f e))
 ·by_cases e:op=8
  ·exact .inl e
  ·exact .inr (a e)
theorem py (h:¬EZ isb op n q s ks.length):∃ a,Value.bool false=.bool a/\(a=true↔WfT (fun s=>isb s=true) (d+1) (.mk op n q s ks)):=⟨false,rfl,fun b=>(by cases b),fun w=>absurd (xw w) h⟩
theorem Du {k:Nat}(hk:k<ks.length){a:Bool}(b:a=false)(h:a=true↔WfT (fun s=>isb s=true) d (ks.getD k bZ)):∃ c,Value.bool false=.bool c/\(c=true↔WfT (fun s=>isb s=true) (d+1) (.mk op n q s ks)):=⟨false,rfl,fun f=>(by cases f),fun ⟨_,_,_,_,_,_,_,_,e⟩=>by rw[h.2 (e k hk)] at b;cases b⟩
theorem Dt (h:EZ isb op n q s ks.length)(p:LQ 3000 q)(c:∀ i,i<ks.length->WfT (fun s=>isb s=true) d (ks.getD i bZ)):∃ a,Value.bool true=.bool a/\(a=true↔WfT (fun s=>isb s=true) (d+1) (.mk op n q s ks)):=by
 obtain ⟨h1,l,⟨f,o⟩,b,u,j⟩:=h;refine ⟨true,rfl,fun _=>⟨h1,fun e=>Hw.1 (l.resolve_left e),p,f,o,fun e=>b.resolve_left e,u,j,c⟩,fun _=>rfl⟩
end
def CZ (nm:Int->ByteArray)(l:List Stp):Nat->Nat->Tm
  | 0,_=>bZ
  | f+1,i =>
    if (l.getD i dE).op=2 then .mk 2 0 0 (nm (l.getD i dE).n) []
    else if fb (l.getD i dE).op=1 then .mk (l.getD i dE).op (l.getD i dE).n 0 ⟨#[]⟩ [CZ nm l f (l.getD i dE).a.toNat]
    else if fb (l.getD i dE).op=2 then .mk (l.getD i dE).op 0 0 ⟨#[]⟩ [CZ nm l f (l.getD i dE).a.toNat,CZ nm l f (l.getD i dE).b.toNat]
    else .mk (l.getD i dE).op 0 (l.getD i dE).q ⟨#[]⟩ []
structure MapJ (h0:Hp) (B:List Bx) (w:World) (h:Hp) (b:Nat) (es:List MapEntry) (clk:Nat):Prop where
  obj:w.heap[b]?=some (.map es.toArray clk)
  jk:h[b]?=some a6
  lo:h0.size<=b
  nb:∀ x∈B,x.b≠b
def MapS (h:Hp)(b:Nat)(es:List MapEntry):Prop:=∃ clk,h[b]?=some (.map es.toArray clk)
theorem MapS.gw {h a:Hp}{b:Nat}{d:List MapEntry}(x:MapS h b d)(u:Gw h a):MapS a b d:=by
 obtain ⟨c,e⟩:=x;refine ⟨c,?_⟩
 rcases u.blk b (aE e) with k|k
 ·exact k.trans e
 ·rw[e] at k;cases k
theorem MapS.w {w:World}{h:Hp}{b:Nat}{d:List MapEntry}(x:MapS h b d)(g:G w h):∃ a,w.heap[b]?=some (.map d.toArray a):=by
 obtain ⟨c,e⟩:=x;refine ⟨c,?_⟩
 rcases g.blk b with k|k
 ·rw[<-k];exact e
 ·rw[e] at k;cases k
theorem pz {P:Program}(w:World){mty kt et:TypeId}{b a:Nat}{c:Array MapEntry}{s:ByteArray}{val:Value}(e:P.underlying mty=some (.map kt et))(hk:P.underlying kt=some .string)(d:w.heap[b]?=some (.map c a))(hf:Instr.findNow .string (.string s) c.toList 0=some none) :
  (Instr.mapUpdate mty (.map (some b)) (.string s) val).run P w=.ok () { w with heap:=w.heap.setIfInBounds b (.map (c.push { key:=.string s,val:=val,born:=a }) (a+1)) }:=by
 have f:(Instr.checkKey false 10000 kt (.string s)).run P w=.ok () w:=MapKept.run_checkKey (k:=.string s) hk (by simp[MapKept.IsKey]) false 9999
 simp[Instr.mapUpdate,run_underlying e,MapKept.run_getObj_map d,f,MapKept.run_findKey hk hf,MapKept.run_setObj_map _ d,Result.andThen]
theorem mH {P:Program}(w:World){mty kt et:TypeId}{b a i:Nat}{c:Array MapEntry}{s:ByteArray}{val o:Value}(f:P.underlying mty=some (.map kt et))(hk:P.underlying kt=some .string)(d:w.heap[b]?=some (.map c a))(hf:Instr.findNow .string (.string s) c.toList 0=some (some (i,o)))(j:((c[i]?).map (·.key)).getD (.string s)=.string s) :
  (Instr.mapUpdate mty (.map (some b)) (.string s) val).run P w=.ok () { w with heap:=w.heap.setIfInBounds b (.map (c.modify i fun e=>{ e with key:=.string s,val:=val }) a) }:=by
 have h:(Instr.checkKey false 10000 kt (.string s)).run P w=.ok () w:=MapKept.run_checkKey (k:=.string s) hk (by simp[MapKept.IsKey]) false 9999;have l:(s == s)=true:=by first|exact beq_self_eq_true s|(show (s.data == s.data)=true;exact beq_self_eq_true _)|(cases s;rfl)
 have p:Instr.sameBits 10000 (.string s) (.string s)=true:=by simp[Instr.sameBits,l]
 simp[Instr.mapUpdate,run_underlying f,MapKept.run_getObj_map d,h,MapKept.run_findKey hk hf,MapKept.run_setObj_map _ d,Result.andThen,j,Instr.keyThatStays,p]
theorem uP {P:Program}(w:World){mty kt et:TypeId}{b c:Nat}{a:Array MapEntry}{s:ByteArray}(ok:Bool){v:Value}{found:Bool}(d:P.underlying mty=some (.map kt et))(hk:P.underlying kt=some .string)(e:w.heap[b]?=some (.map a c))
  (hf:(∃ i,Instr.findNow .string (.string s) a.toList 0=some (some (i,v))/\found=true)\/(Instr.findNow .string (.string s) a.toList 0=some none/\found=false/\(zeroValue et).run P w=.ok v w)) :
  (Instr.lookup mty (.map (some b)) (.string s) ok).run P w=.ok (if ok then .tuple #[v,.bool found] else v) w:=by
 have f:(Instr.checkKey a.isEmpty 10000 kt (.string s)).run P w=.ok () w:=MapKept.run_checkKey (k:=.string s) hk (by simp[MapKept.IsKey]) _ 9999
 rcases hf with ⟨i,hf,rfl⟩|⟨hf,rfl,hz⟩
 ·simp[Instr.lookup,run_underlying d,MapKept.run_getObj_map e,f,MapKept.run_findKey hk hf,Result.andThen]
 ·simp[Instr.lookup,run_underlying d,MapKept.run_getObj_map e,f,MapKept.run_findKey hk hf,hz,Result.andThen]
theorem qt {w:World}{b:Nat}{o o':Obj}(d:w.heap[b]?=some o):Put b w { w with heap:=w.heap.setIfInBounds b o' }/\({ w with heap:=w.heap.setIfInBounds b o' }:World).heap[b]?=some o':=by
 have a:b<w.heap.size:=(hO.1 d).1;refine ⟨⟨rfl,rfl,rfl,by simp,fun c e=>by show (w.heap.setIfInBounds b o')[c]?=_;rw[i2 (Ne.symm e)]⟩,?_⟩
 show (w.heap.setIfInBounds b o')[b]?=_
 rw[yT a]
section laws
variable {P:Program}{n:Nat}{N R:Po}{X:Nat->Po}{ops:Array Oper}{k:Nat}{Γ:bO}{w:World}{h:Hp}{w0:World}{h0:Hp}{B:List Bx}{Rs:List Rw}{F:List (Hp->Prop)}
theorem SS.pokeJ (s:SS w0 h0 w h B [] F){b:Nat}{w':World}(e:h[b]?=some a6)(c:h0.size<=b)(d:∀ x∈B,x.b≠b)(p:Put b w w'):SS w0 h0 w' h B [] F :=
 ⟨s.g0,⟨s.st.up.put p e c s.g0.size,fun x a=>(p.blk _ (d x a)).trans (s.st.own x a),s.st.jk,s.st.lo,s.st.nd⟩,fun _ a=>(by cases a),.nil,s.mo,s.f⟩
theorem C1 (t:Nat)(s:SS w0 h0 w h B Rs F)(H:∀ b w' h',SS w0 h0 w' h' B Rs F->MapJ h0 B w' h' b [] 0->LG P n N R X ops (k+1) ((t,.map (some b))::Γ) w')(a:cL ops Γ k t n=true:=by kernel_rfl)
  (hr:(execOp (ev Γ) (ak ops k)).run P w=.ok (.value (.map (some w.heap.size))) (w.alloc (.map #[] 0)):=by kernel_rfl):LG P n N R X ops k Γ w:=by
 have u:Up w h (w.alloc (.map #[] 0)) (h.push a6):=Up.allocAny s.g _ _ (.inr rfl);refine LG.val t _ _ (bF a).1 (bF a).2 hr (H _ _ _ (s.step u) ⟨?_,?_,?_,fun x c e=>?_⟩)
 ·rw[heap_alloc];exact fo
 ·rw[s.g.size];exact fo
 ·rw[s.g.size];exact s.st.sz
 ·have:=aE (s.st.jk x c)
  have:=s.g.size
  omega
theorem mA {b a:Nat}{c:List MapEntry}(mty kt et:TypeId)(ky:ByteArray)(val:Value)(s:SS w0 h0 w h B [] F)(m:MapJ h0 B w h b c a)(H:∀ w',SS w0 h0 w' h B [] F->MapJ h0 B w' h b (c++[⟨.string ky,val,a⟩]) (a+1)->LG P n N R X ops (k+1) Γ w')
  (d:cS ops Γ k=true:=by kernel_rfl)(f:execOp (ev Γ) (ak ops k)=(do Instr.mapUpdate mty (.map (some b)) (.string ky) val;pure .skip):=by kernel_rfl)(i:P.underlying mty=some (.map kt et):=by kernel_rfl)(hk:P.underlying kt=some .string:=by kernel_rfl)(hf:Instr.findNow .string (.string ky) c 0=some none:=by kernel_rfl):LG P n N R X ops k Γ w:=by
 have hr:=pz w (val:=val) i hk m.obj hf;obtain ⟨p,e⟩:=qt (o':=.map (c.toArray.push { key:=.string ky,val:=val,born:=a }) (a+1)) m.obj;refine LG.store _ (gm d).1 (gm d).2 ?_ (H _ (s.pokeJ m.jk m.lo m.nb p) ⟨?_,m.jk,m.lo,m.nb⟩)
 ·rw[f];simp[hr,Result.andThen]
 ·rw[e];simp
theorem F0 {b a i:Nat}{d:List MapEntry}(mty kt et:TypeId)(ky:ByteArray)(val y:Value)(c:List MapEntry)(s:SS w0 h0 w h B [] F)(m:MapJ h0 B w h b d a)(H:∀ w',SS w0 h0 w' h B [] F->MapJ h0 B w' h b c a->LG P n N R X ops (k+1) Γ w')
  (f:cS ops Γ k=true:=by kernel_rfl)(l:execOp (ev Γ) (ak ops k)=(do Instr.mapUpdate mty (.map (some b)) (.string ky) val;pure .skip):=by kernel_rfl)(x:P.underlying mty=some (.map kt et):=by kernel_rfl)(hk:P.underlying kt=some .string:=by kernel_rfl)(hf:Instr.findNow .string (.string ky) d 0=some (some (i,y)):=by kernel_rfl)
  (o:((d.toArray[i]?).map (·.key)).getD (.string ky)=.string ky:=by kernel_rfl)(u:d.toArray.modify i (fun e=>{ e with key:=.string ky,val:=val })=c.toArray:=by kernel_rfl):LG P n N R X ops k Γ w:=by
 have hr:=mH w (val:=val) x hk m.obj hf o;obtain ⟨p,j⟩:=qt (o':=.map (d.toArray.modify i fun e=>{ e with key:=.string ky,val:=val }) a) m.obj;refine LG.store _ (gm f).1 (gm f).2 ?_ (H _ (s.pokeJ m.jk m.lo m.nb p) ⟨?_,m.jk,m.lo,m.nb⟩)
 ·rw[l];simp[hr,Result.andThen]
 ·rw[j,u]
theorem C6 (t:Nat){b:Nat}{a:List MapEntry}(mty kt et:TypeId)(ky:ByteArray)(ok:Bool)(v:Value)(found:Bool)(s:SS w0 h0 w h B Rs F)(m:MapS h b a)(H:LG P n N R X ops (k+1) ((t,if ok then .tuple #[v,.bool found] else v)::Γ) w)(c:cL ops Γ k t n=true:=by kernel_rfl)
  (f:execOp (ev Γ) (ak ops k)=(do pure (.value (<-Instr.lookup mty (.map (some b)) (.string ky) ok))):=by kernel_rfl)(j:P.underlying mty=some (.map kt et):=by kernel_rfl)(hk:P.underlying kt=some .string:=by kernel_rfl)
  (hf:(∃ i,Instr.findNow .string (.string ky) a 0=some (some (i,v))/\found=true)\/(Instr.findNow .string (.string ky) a 0=some none/\found=false/\∀ w,(zeroValue et).run P w=.ok v w)):LG P n N R X ops k Γ w:=by
 obtain ⟨e,d⟩:=m.w s.g;refine LG.val t _ w (bF c).1 (bF c).2 ?_ H;rw[f];have hr:=uP w ok (v:=v) (found:=found) j hk d (hf.imp id fun h=>⟨h.1,h.2.1,h.2.2 w⟩)
 simp[hr,Result.andThen]
theorem Fy (t:Nat){b:Nat}{a:List MapEntry}(mty ty kt et:TypeId)(s:SS w0 h0 w h B Rs F)(m:MapS h b a)(H:LG P n N R X ops (k+1) ((t,.int .i64 (a.length:Nat))::Γ) w)(c:cL ops Γ k t n=true:=by kernel_rfl)
  (i:execOp (ev Γ) (ak ops k)=(do pure (.value (<-Builtin.len_ #[mty] ty #[.map (some b)]))):=by kernel_rfl)(f:P.underlying mty=some (.map kt et):=by kernel_rfl):LG P n N R X ops k Γ w:=by
 obtain ⟨e,d⟩:=m.w s.g;refine LG.val t _ w (bF c).1 (bF c).2 ?_ H;rw[i]
 have hr:(Builtin.len_ #[mty] ty #[.map (some b)]).run P w=.ok (goInt a.toArray.size) w:=by
  simp[Builtin.len_,run_underlying f,MapKept.run_getObj_map d,Result.andThen]
 simp[hr,Result.andThen,goInt]
theorem SS.pubMap {b a:Nat}{j:List MapEntry}(s:SS w0 h0 w h B [] F)(m:MapJ h0 B w h b j a):∃ l,SS w0 h0 w l B [] F/\MapS l b j:=by
 have d:=aE m.jk;refine ⟨h.setIfInBounds b (.map j.toArray a),⟨s.g0,⟨⟨s.st.up.ext,⟨by simp;exact s.st.up.gr.size,fun c o=>?_⟩,⟨by simp;exact s.st.up.g.size,fun c=>?_⟩⟩,s.st.own,fun x i=>?_,s.st.lo,s.st.nd⟩,fun _ i=>(by cases i),.nil,s.mo,s.f.gw s.mo ⟨by simp,fun c _=>?_⟩⟩,a,?_⟩
 ·have:=m.lo
  rw[i2 oM];exact s.st.up.gr.blk c o
 ·by_cases e:b=c
  ·subst e;left;rw[yT d];exact m.obj.symm
  ·rw[i2 e];exact s.st.up.g.blk c
 ·rw[i2 (Ne.symm (m.nb x i))];exact s.st.jk x i
 ·by_cases e:b=c
  ·subst e;exact .inr m.jk
  ·left;rw[i2 e]
 ·rw[yT d]
end laws
theorem rX {α:Type}{l:List α}{d x:α}{k i:Nat}(hk:k<l.length):(l.set k x).getD i d=if i=k then x else l.getD i d:=by
 rw[zh,List.getElem?_set]
 by_cases e:k=i
 ·subst e;rw[if_pos rfl,if_pos hk,if_pos rfl];rfl
 ·rw[if_neg e,if_neg (fun h=>e h.symm),<-zh]
def TmsU (d:Nat)(h:Hp)(k:Nat)(ps:List PTm)(ts:List Tm):Prop:=∀ i,i<k->TmH d h (ps.getD i aZ) (ts.getD i bZ)
theorem TmsU.gw {d:Nat}{h a:Hp}{k:Nat}{ps:List PTm}{b:List Tm}(x:TmsU d h k ps b)(u:Gw h a):TmsU d a k ps b:=fun i hi=>(x i hi).gw u
theorem TmsU.set {d:Nat}{h:Hp}{k:Nat}{ps:List PTm}{a:List Tm}{p:PTm}(x:TmsU d h k ps a)(hk:k<ps.length)(y:TmH d h p (a.getD k bZ)):TmsU d h (k+1) (ps.set k p) a:=fun i hi=>by
 rw[rX hk]
 by_cases e:i=k
 ·subst e;rw[if_pos rfl];exact y
 ·rw[if_neg e];exact x i oM
theorem Tms.of_u {d:Nat}{h:Hp}{k:Nat}{ps:List PTm}{a:List Tm}(b:ps.length=a.length)(hk:a.length<=k)(x:TmsU d h k ps a):Tms d h ps a:=⟨b,fun i hi=>x i oM⟩
theorem qJ (f:Nat->Nat){a b:Nat}(h:a<=b):dl f a<=dl f b:=by
 induction h with
 | refl=>exact ey _
 | step _ ih=>exact ez ih (Hx _ _)
def cP (op n:Int):Nat:=if op=11 then 2 else if op=8 then bj n else 1
theorem cv (op n:Int):1<=cP op n:=by
 unfold cP bj
 split
 ·omega
 ·split
  ·split<;>omega
  ·omega
theorem kV {d:Nat}{op n:Int}{q:Rat}{s:ByteArray}{ks:List Tm}(h:ks.length=0):bu (d+1) (.mk op n q s ks)=1:=if_pos h
theorem fH {d:Nat}{op n:Int}{q:Rat}{s:ByteArray}{ks:List Tm}(h:ks.length≠0):bu (d+1) (.mk op n q s ks)=cP op n*dl (fun i=>bu d (ks.getD i bZ)) ks.length:=if_neg h
theorem og {d:Nat}{op n:Int}{q:Rat}{s:ByteArray}{ks:List Tm}(h:ks.length≠0):dl (fun i=>bu d (ks.getD i bZ)) ks.length<=bu (d+1) (.mk op n q s ks):=by
 rw[fH h];exact GU _ (cv op n)
theorem jw {m s:Nat}(h:1<=m):min (m*min s 1001) 1001=min (m*s) 1001:=by
 rcases Nat.le_total s 1001 with e|e
 ·rw[Nat.min_eq_left e]
 ·rw[F9 e,F9 (ez e (GU _ h)),F9 (GU _ h)]
theorem vt (op:Int)(w:World)(h:Hp)(g:G w h):CV 88 #[iV op] w h (iV (fb op)):=by
 have a:=sS g;refine go Tryz.func88 [(0,iV op)] rfl (aa a ac (af (aa a ac (ba (cQ (aD ?_))))));cases i:((op:Int) == (1:Int))
 .
  have u:=aq i;refine lB 5 i (lL a ac (aj (kQ ?_)));cases f:((op:Int) == (2:Int))
  .
   have B:=aq f;refine lB 6 f (lL a ac (aj (cQ (aD ?_))));cases e:((op:Int) == (7:Int))
   .
    have x:=aq e;refine lB 8 e (lL a ac (aj (aD ?_)));cases o:((op:Int) == (8:Int))
    .
     have C:=aq o;refine lB 9 o (lL a ac (aj (aD ?_)));cases b:((op:Int) == (9:Int))
     .
      have D:=aq b;refine lB 10 b (lL a ac (aj (aD ?_)));cases j:((op:Int) == (10:Int))
      .
       have p:=aq j;refine lB 11 j (lL a ac (aj (kQ ?_)));cases c:((op:Int) == (11:Int))
       .
        have F:=aq c;refine lB 12 c (lL a ac (aj (cQ (aD ?_))));cases d:((op:Int) == (3:Int))
        .
         have z:=aq d;refine lB 14 d (lL a ac (aj (aD ?_)));cases l:((op:Int) == (4:Int))
         .
          have y:=aq l;refine lB 15 l (lL a ac (aj (aD ?_)));cases I:((op:Int) == (5:Int))
          .
           have Q:=aq I;refine lB 16 I (lL a ac (aj (aD ?_)));cases H:((op:Int) == (6:Int))
           .
            have O:=aq H;refine lB 17 H (lL a ac (aj (aD ?_)));cases J:((op:Int) == (12:Int))
            .
             have L:=aq J;refine lB 18 J (lL a ac (aj (kQ ?_)));cases K:((op:Int) == (13:Int))
             .
              have M:=aq K;exact lB 19 K (lL a ac (aj (cK (aa a ac (ae a [] (iV (-1)) (congrArg (Value.int .i64) (by have:=aN op;omega)))))))
             have M:=eq_of_beq K;exact lB 19 K (lL a ac (ar (aa a ac (ae a [] (iV 2) (congrArg (Value.int .i64) (by have:=aN op;omega))))))
            have L:=eq_of_beq J;exact lB 18 J (lL a ac (ar (cK (bY (aa a ac (ae a [] (iV 2) (congrArg (Value.int .i64) (by have:=aN op;omega))))))))
           have O:=eq_of_beq H;exact lB 17 H (lL a ac (ar (cK (bY (aa a ac (ae a [] (iV 2) (congrArg (Value.int .i64) (by have:=aN op;omega))))))))
          have Q:=eq_of_beq I;exact lB 16 I (lL a ac (ar (cK (bY (aa a ac (ae a [] (iV 2) (congrArg (Value.int .i64) (by have:=aN op;omega))))))))
         have y:=eq_of_beq l;exact lB 15 l (lL a ac (ar (cK (bY (aa a ac (ae a [] (iV 2) (congrArg (Value.int .i64) (by have:=aN op;omega))))))))
        have z:=eq_of_beq d;exact lB 14 d (lL a ac (ar (cK (bY (aa a ac (ae a [] (iV 2) (congrArg (Value.int .i64) (by have:=aN op;omega))))))))
       have F:=eq_of_beq c;exact lB 12 c (lL a ac (ar (aa a ac (ae a [] (iV 1) (congrArg (Value.int .i64) (by have:=aN op;omega))))))
      have p:=eq_of_beq j;exact lB 11 j (lL a ac (ar (cK (bY (aa a ac (ae a [] (iV 1) (congrArg (Value.int .i64) (by have:=aN op;omega))))))))
     have D:=eq_of_beq b;exact lB 10 b (lL a ac (ar (cK (bY (aa a ac (ae a [] (iV 1) (congrArg (Value.int .i64) (by have:=aN op;omega))))))))
    have C:=eq_of_beq o;exact lB 9 o (lL a ac (ar (cK (bY (aa a ac (ae a [] (iV 1) (congrArg (Value.int .i64) (by have:=aN op;omega))))))))
   have x:=eq_of_beq e;exact lB 8 e (lL a ac (ar (cK (bY (aa a ac (ae a [] (iV 1) (congrArg (Value.int .i64) (by have:=aN op;omega))))))))
  have B:=eq_of_beq f;exact lB 6 f (lL a ac (ar (aa a ac (ae a [] (iV 0) (congrArg (Value.int .i64) (by have:=aN op;omega))))))
 have u:=eq_of_beq i;exact lB 5 i (lL a ac (ar (cK (bY (aa a ac (ae a [] (iV 0) (congrArg (Value.int .i64) (by have:=aN op;omega))))))))
theorem Be (n:Int)(h0 : -12<=n)(h1:n<=12)(w:World)(h:Hp)(g:G w h):CV 89 #[iV n] w h (nV (bj n)):=by
 have a:=sS g;refine go Tryz.func89 [(0,iV n)] rfl (aa a ac (af (aa a ac ?_)));cases b:(decide ((n:Int)<=(-1073741824:Int)))
 .
  have d:=oF b;refine lB 4 b (lL a aF ?_);cases c:(decide ((1073741824:Int)<=(n:Int)))
  .
   have e:=oF c;refine lB 7 c (lL a [.v qF] (aj (cK (aa a aF (lI 11 (0-n) ?_)))));refine lV 12 (iV (max (max (n:Int) (0-n:Int)) (1:Int))) ?_ (hr:=aY (n:=(if (1:Int)>(if (0-n:Int)>(n:Int) then (0-n:Int) else (n:Int)) then (1:Int) else (if (0-n:Int)>(n:Int) then (0-n:Int) else (n:Int)))) kR (by simp only[AC]));exact lL a ac (ae a [] (iV (max (max (n:Int) (0-n:Int)) (1:Int))) (congrArg (Value.int .i64) (by unfold bj;(repeat' split)<;>omega)))
  have e:=oT c;exact lB 7 c (lL a [.v qT] (ar (aa a ac (ae a [] (iV 1073741824) (congrArg (Value.int .i64) (by unfold bj;(repeat' split)<;>omega))))))
 have d:=oT b;refine lB 4 b (lL a ac (lG 6 ?_));exact lG 7 (lL a [.v qT] (ar (aa a ac (ae a [] (iV 1073741824) (congrArg (Value.int .i64) (by unfold bj;(repeat' split)<;>omega))))))
theorem un  (sm:ByteArray->Prop)(d:Nat)(C:∀ (p:PTm) (t:Tm) (a:Int) (w:World) (h:Hp),G w h->TmH d h p t->SmT sm d t->(d:Int)<=a->a<=1000->Calls Tryz.prog 54 #[az p,iV a] w (Ret w h (fun v _=>v=.bool false)))(op n:Int)(q:Rat)(s:ByteArray)(A:Z9)(c:Nat)(ps:List PTm)(ks:List Tm)(hc:ps.length<=c)(O:ps.length<=3)(H:ks.length<=3)(J : -1000<=op/\op<=1000)(hn : -1000<=n/\n<=1000)(hq:LQ 3000 q)(D:sm s)(F:∀ i,i<ks.length->SmT sm d (ks.getD i bZ))(a:Int)(X:((d+1:Nat):Int)<=a)(W:a<=1000)(w:World)(h:Hp)(g:G w h)(S:SlO 9 be aZ h A ps)(y:Tms d h ps ks):CV 54 #[az ⟨op,n,q,s,A,ps.length,c⟩,iV a] w h (.bool false):=by
 have b:=(((sS g).aS S).add (K:=fun l=>Tms d l ps ks) y);have U:=(b.f.1).len;refine go Tryz.func54 [(0,az ⟨op,n,q,s,A,ps.length,c⟩),(1,iV a)] rfl (aD (lA 2 42 (be ⟨op,n,q,s,A,ps.length,c⟩) b (fun B w2 M b=>lL b ac (af (aa b ac ?_)))));cases j:(decide ((a:Int)<(1:Int)))
 .
  have x:=oF j;refine lB 8 j (aj (cK (cQ (aa b [.v (qP B 8),.o (qS A ps.length c) 0 8 1,.v (nV ps.length),.c] (ba ?_)))));refine bS _ (CG.loop (fun z Γ L=>∃ (k:Nat)(l:Hp),z=ps.length-k/\Γ=[(1,iV a),(10,qS A ps.length c),(11,nV ps.length),(12,nV k)]/\SS w h L l [⟨B,42,be ⟨op,n,q,s,A,ps.length,c⟩⟩] [] [fun l=>Tms d l ps ks,fun l=>SlO 9 be aZ l A ps]/\k<=ps.length) _ ⟨0,M,rfl,rfl,b.to _ _,GA _⟩ ?_);rintro _ _ w5 ⟨k,h6,I,rfl,b,hk⟩;refine aD ?_;cases e:(decide ((k:Int)<(ps.length:Int)))
  .
   have u:=oF e;refine lB 13 e (af (cG (CG.exit ?_)))
   show CG _ _ _ _ _ _ _ _
   exact aa b ac (ae b [] qF rfl)
  have u:=oT e;refine lB 13 e (af (bY (cK (cQ (kZ (aD (lX 14 A ps.length c 9 (k:Nat) k ((b.f.2.1).ok oM) ?_)))))));refine lH 15 (az (ps.getD k aZ)) b ((b.f.2.1).el k oM) (lA 6 42 ca b (fun Y _ _ b=>lP 0 0 (be (ps.getD k aZ)) b (fun _ b=>aK (lL b [.o (az (ps.getD k aZ)) 0 0 9,.c] (lI 18 (a-1) ?_)))));refine ao 19 b (C (ps.getD k aZ) (ks.getD k bZ) (a-1) _ _ b.g ((b.f.1).at_ k oM) (F k oM) oM oM) (fun _ Q b=>aj (cK (kQ (bA 20 ((k:Nat)+1) (k+1) ?_))));refine lL b ac (lD ?_);intro Z V;replace b:=b.drop 1 0;refine ⟨_,_,?_,⟨k+1,Q,rfl,rfl,b.to _ _,oM⟩,V.to _ kR⟩
  omega
 have x:=oT j;refine lB 8 j (ar (aa b ac (lN (kX ?_))))
 exfalso;omega
theorem pS (sm:ByteArray->Prop):∀ (d:Nat) (p:PTm) (t:Tm) (a:Int) (w:World) (h:Hp),G w h->TmH d h p t->SmT sm d t->(d:Int)<=a->a<=1000->Calls Tryz.prog 54 #[az p,iV a] w (Ret w h (fun v _=>v=.bool false))
  | 0,_,_,_,_,_,_,x,_,_,_=>x.elim
  | d+1,p,t,a,w,h,g,x,wf,hm,hm2=>by
    obtain ⟨op,n,q,s,A,c,ps,ks,rfl,rfl,l,o,b⟩:=x.open;obtain ⟨e,f,u,i,z,j⟩:=wf;have y:ks.length<=3:=e;exact un sm d (fun p t a w h=>pS sm d p t a w h) op n q s A c ps ks l (by have:=b.len;omega) e f u i z j a hm hm2 w h g o b
theorem sH  (isb:ByteArray->Bool)(sm:ByteArray->Prop)(mL:∀ s,sm s->∀ (w:World) (h:Hp),G w h->Calls Tryz.prog 57 #[.string s] w (Ret w h (fun v _=>∃ b,v=.bool b/\b=isb s)))(d:Nat)(ih:∀ (p:PTm) (t:Tm) (w:World) (h:Hp),G w h->TmH d h p t->SmT sm d t ->  Calls Tryz.prog 55 #[az p] w (Ret w h (fun v _=>∃ D,v=.bool D/\(D=true↔WfT (fun s=>isb s=true) d t))))(op n:Int)(q:Rat)(s:ByteArray)(A:Z9)(c:Nat)(ps:List PTm)(ks:List Tm)(hc:ps.length<=c)(hlp:ps.length<=3)(hk3:ks.length<=3)(hop : -1000<=op/\op<=1000)(hn : -1000<=n/\n<=1000)(hq:LQ 3000 q)(hsm:sm s)(hW:∀ i,i<ks.length->SmT sm d (ks.getD i bZ))(w:World)(h:Hp)(g:G w h)(hK:SlO 9 be aZ h A ps)(hKs:Tms d h ps ks):CR 55 #[az ⟨op,n,q,s,A,ps.length,c⟩] w h (fun v _=>∃ D,v=.bool D/\(D=true↔WfT (fun s=>isb s=true) (d+1) (.mk op n q s ks))):=by
 have a:=(((sS g).aS hK).add (K:=fun e=>Tms d e ps ks) hKs);have hln:=(a.f.1).len;have hsg:q.num.sign=0↔q.num=0:=Hy;refine go Tryz.func55 [(0,az ⟨op,n,q,s,A,ps.length,c⟩)] rfl (aD (lA 1 42 (be ⟨op,n,q,s,A,ps.length,c⟩) a (fun l w2 h3 a=>lL a ac (af (cQ (cR 7 [] mixed a am ?_))))));refine eV 0 5 (pB l) (eO 1 6 [(0,0,1)] (iV op) a (eV 3 8 (qP l 8) (eO 4 9 [(0,8,1)] (qS A ps.length c) a (eV 5 10 (nV ps.length) (ai 2 7 a (fun _ _ a=>vt op _ _ a.g) (fun w4 h5 a=>?_))))));cases x:((fb op:Int) != (ps.length:Int))
 .
  have S:=aJ x;refine eB 6 11 x (bW a (fun w7 h8 a=>?_));refine tN (cG (cK (cQ (CG.join (fun Γ B=>∃ (M:Bool)(e:Hp),Γ=[(1,pB l),(2,qF),(20,.bool M)]/\SS w h B e [⟨l,42,be ⟨op,n,q,s,A,ps.length,c⟩⟩] [] [fun e=>Tms d e ps ks,fun e=>SlO 9 be aZ e A ps]/\(M=true->¬(op=1\/q.num=0))/\(M=false->(op=1\/q.num=0))) ?_ ?_))))
  .
   refine kQ (lL a [.v (pB l),.o (iV op) 0 0 1] ?_);cases y:((op:Int) != (1:Int))
   .
    have J:=aJ y;refine lB 14 y (lL a ac (lG 16 ?_));refine lG 17 (lG 18 (lG 19 (lL a [.v qF] (lD ?_))));intro u j;exact ⟨_,⟨false,h8,rfl,a.to _ _,(fun e=>absurd e kD),(fun _=>by omega)⟩,j.to _ kR⟩
   have J:=aU y;refine lB 14 y (lL a [.c,.v (qP l 2),.o (qv q) 0 2 5] (ao 18 a (gI q (hq.mono oM) _ _ a.g) (fun _ zD a=>?_)));cases za:((q.num.sign:Int) != (0:Int))
   .
    have zs:=aJ za;refine lB 19 za (lL a [.v qF] (lD ?_));intro u j;exact ⟨_,⟨false,zD,rfl,a.to _ _,(fun e=>absurd e kD),(fun _=>by omega)⟩,j.to _ kR⟩
   have zs:=aU za;refine lB 19 za (lL a [.v qT] (lD ?_));intro u j;exact ⟨_,⟨true,zD,rfl,a.to _ _,(fun _=>by omega),(fun e=>absurd e kD)⟩,j.to _ kR⟩
  rintro _ _ ⟨M,zE,rfl,a,zH,Q⟩;cases zb:(M)
  .
   try rw[zb] at a
   try rw[zb]
   refine cG (cK (cQ (CG.join (fun Γ B=>∃ (H:Bool)(e:Hp),Γ=[(1,pB l),(2,qF),(39,.bool H)]/\SS w h B e [⟨l,42,be ⟨op,n,q,s,A,ps.length,c⟩⟩] [] [fun e=>Tms d e ps ks,fun e=>SlO 9 be aZ e A ps]/\(H=true->¬((op=2->isb s=true)/\(op≠2->s=⟨#[]⟩)))/\(H=false->((op=2->isb s=true)/\(op≠2->s=⟨#[]⟩)))) ?_ ?_)))
   .
    refine kQ (lL a [.v (pB l),.o (iV op) 0 0 1] ?_);cases Z:((op:Int) == (2:Int))
    .
     have zt:=aq Z;refine lB 23 Z (lL a ac (lG 25 ?_));refine lG 26 (lG 27 (lG 28 (lL a [.v qF,.c,.v (pB l),.o (iV op) 0 0 1] ?_)));have zq:((op:Int) != (2:Int))=true:=Ez oM;have bm:=aU zq;refine lB 33 zq (lL a [.c,.v (qP l 7),.o (.string s) 0 7 1] ?_);cases zd:(nZ s (⟨#[]⟩))
     .
      have zu:=vo zd;refine lB 37 zd (lL a [.v qF,.v qF] (lD ?_));intro u j;exact ⟨_,⟨false,zE,rfl,a.to _ _,(fun e=>absurd e kD),(fun _=>⟨fun e=>by first|exact z.symm.trans aM|exact absurd e oM,fun e=>by first|assumption|exact absurd e oM⟩)⟩,j.to _ kR⟩
     have zu:=vH zd;refine lB 37 zd (lL a [.v qT,.v qT] (lD ?_));intro u j;exact ⟨_,⟨true,zE,rfl,a.to _ _,(fun _ e=>by first|exact Hz ((e.1 oM).symm.trans (z.symm.trans aM))|exact absurd (e.2 oM) aM),(fun e=>absurd e kD)⟩,j.to _ kR⟩
    have zt:=eq_of_beq Z;refine lB 23 Z (lL a [.c,.v (qP l 7),.o (.string s) 0 7 1] (lC 27 a (mL s hsm _ _ a.g) ?_));rintro _ _ zG a ⟨bi,rfl,z⟩;cases bt:(bi)
    .
     refine lL a [.v qT,.v qT,.c] (lG 31 ?_);refine lG 32 (lG 33 (lG 34 (lG 35 (lG 36 (lG 37 (lG 38 (lL a [.v qT] (lD ?_))))))));intro u j;exact ⟨_,⟨true,zG,rfl,a.to _ _,(fun _ e=>by first|exact Hz ((e.1 oM).symm.trans (z.symm.trans aM))|exact absurd (e.2 oM) aM),(fun e=>absurd e kD)⟩,j.to _ kR⟩
    refine lL a [.v qF,.v qF,.c,.v (pB l),.o (iV op) 0 0 1] ?_;have zr:((op:Int) != (2:Int))=false:=ub oM;have bd:=aJ zr;refine lB 33 zr (lL a ac (lG 35 ?_));refine lG 36 (lG 37 (lL a [.v qF,.v qF] (lD ?_)));intro u j;exact ⟨_,⟨false,zG,rfl,a.to _ _,(fun e=>absurd e kD),(fun _=>⟨fun e=>by first|exact z.symm.trans aM|exact absurd e oM,fun e=>by first|assumption|exact absurd e oM⟩)⟩,j.to _ kR⟩
   rintro _ _ ⟨H,C,rfl,a,zI,U⟩;cases ze:(H)
   .
    try rw[ze] at a
    try rw[ze]
    refine cG (cK (cQ (CG.join (fun Γ B=>∃ (L:Bool)(e:Hp),Γ=[(1,pB l),(2,qF),(57,.bool L)]/\SS w h B e [⟨l,42,be ⟨op,n,q,s,A,ps.length,c⟩⟩] [] [fun e=>Tms d e ps ks,fun e=>SlO 9 be aZ e A ps]/\(L=true->¬((op=8\/n=0) /\ -12<=n/\n<=12))/\(L=false->((op=8\/n=0) /\ -12<=n/\n<=12))) ?_ ?_)))
    .
     refine kQ (lL a [.v (pB l),.o (iV op) 0 0 1] ?_);cases Y:((op:Int) != (8:Int))
     .
      have zv:=aJ Y;refine lB 42 Y (lL a ac (lG 44 ?_));refine lG 45 (lG 46 (lL a [.v qF,.c,.v (qP l 1),.o (iV n) 0 1 1] ?_));cases W:(decide ((n:Int)<(-12:Int)))
      .
       have zw:=oF W;refine lB 51 W (lL a [.v qF,.c,.v (qP l 1),.o (iV n) 0 1 1] ?_);cases X:(decide ((12:Int)<(n:Int)))
       .
        have zx:=oF X;refine lB 56 X (lL a [.v qF] (lD ?_));intro u j;exact ⟨_,⟨false,C,rfl,a.to _ _,(fun e=>absurd e kD),(fun _=>by omega)⟩,j.to _ kR⟩
       have zx:=oT X;refine lB 56 X (lL a [.v qT] (lD ?_));intro u j;exact ⟨_,⟨true,C,rfl,a.to _ _,(fun _=>by omega),(fun e=>absurd e kD)⟩,j.to _ kR⟩
      have zw:=oT W;refine lB 51 W (lL a [.v qT,.c] (lG 54 ?_));refine lG 55 (lG 56 (lL a [.v qT] (lD ?_)));intro u j;exact ⟨_,⟨true,C,rfl,a.to _ _,(fun _=>by omega),(fun e=>absurd e kD)⟩,j.to _ kR⟩
     have zv:=aU Y;refine lB 42 Y (lL a [.c,.v (qP l 1),.o (iV n) 0 1 1] ?_);cases zj:((n:Int) != (0:Int))
     .
      have zA:=aJ zj;refine lB 46 zj (lL a [.v qF,.c,.v (qP l 1),.o (iV n) 0 1 1] ?_);have ⟨zJ,bf⟩:=dF (p:=(n:Int)<(-12:Int)) oM;refine lB 51 zJ (lL a [.v qF,.c,.v (qP l 1),.o (iV n) 0 1 1] ?_);have ⟨zK,bl⟩:=dF (p:=(12:Int)<(n:Int)) oM;refine lB 56 zK (lL a [.v qF] (lD ?_));intro u j;exact ⟨_,⟨false,C,rfl,a.to _ _,(fun e=>absurd e kD),(fun _=>by omega)⟩,j.to _ kR⟩
     have zA:=aU zj;refine lB 46 zj (lL a [.v qT,.c] (lG 49 ?_));refine lG 50 (lG 51 (lL a [.v qT,.c] (lG 54 ?_)));refine lG 55 (lG 56 (lL a [.v qT] (lD ?_)));intro u j;exact ⟨_,⟨true,C,rfl,a.to _ _,(fun _=>by omega),(fun e=>absurd e kD)⟩,j.to _ kR⟩
    rintro _ _ ⟨L,zM,rfl,a,zL,I⟩;cases V:(L)
    .
     try rw[V] at a
     try rw[V]
     refine cG (cK (cQ (aa a [.v (qP l 8),.o (qS A ps.length c) 0 8 1,.v (nV ps.length),.c] (ba ?_))));refine bS _ (CG.loop (fun μ_ Γ B=>∃ (k:Nat)(e:Hp),μ_=ps.length-k/\Γ=[(59,qS A ps.length c),(60,nV ps.length),(61,nV k)]/\SS w h B e [⟨l,42,be ⟨op,n,q,s,A,ps.length,c⟩⟩] [] [fun e=>Tms d e ps ks,fun e=>SlO 9 be aZ e A ps]/\k<=ps.length/\(∀ i,i<k->WfT (fun s=>isb s=true) d (ks.getD i bZ))) _ ⟨0,zM,rfl,rfl,a.to _ _,GA _,(fun i hi=>absurd hi (HA i))⟩ ?_);rintro _ _ _ ⟨k,_,bq,rfl,a,hk,O⟩;refine aD ?_;cases zl:(decide ((k:Int)<(ps.length:Int)))
     .
      have zB:=oF zl;refine lB 62 zl (af (cG (CG.exit ?_)))
      show CG _ _ _ _ _ _ _ _
      exact aa a ac (ae a [] qT (Dt ⟨by omega,Q aM,U aM,I aM⟩ hq (fun i hi=>O i oM)))
     have zB:=oT zl;refine lB 62 zl (af (bY (cK (cQ (kZ (aD (lX 63 A ps.length c 9 (k:Nat) k ((a.f.2.1).ok oM) ?_)))))));refine lH 64 (az (ps.getD k aZ)) a ((a.f.2.1).el k oM) (lA 4 42 ca a (fun b63 _ _ a=>lP 0 0 (be (ps.getD k aZ)) a (fun _ a=>aK (lL a [.o (az (ps.getD k aZ)) 0 0 9] (lC 66 a (ih (ps.getD k aZ) (ks.getD k bZ) _ _ a.g ((a.f.1).at_ k oM) (hW k oM)) ?_)))));rintro _ _ zN a ⟨bk,rfl,F⟩;cases bn:(bk)
     .
      exact lL a [.v qT] (ar (aa a ac (ae a [] qF (Du (k:=k) oM aM F))))
     refine lL a [.v qF] (aj (cK (kQ (bA 68 ((k:Nat)+1) (k+1) ?_))));refine lL a ac (lD ?_);intro u j;replace a:=a.drop 1 0;refine ⟨_,_,?_,⟨k+1,zN,rfl,rfl,a.to _ _,oM,(fun i hi=>by rcases Nat.lt_succ_iff_lt_or_eq.1 hi with e|rfl;exact O i e;exact F.1 aM)⟩,j.to _ kR⟩
     omega
    try rw[V] at a
    try rw[V]
    exact bY (aa a ac (ae a [] qF (py (fun e=>zL aM e.2.2.2))))
   try rw[ze] at a
   try rw[ze]
   exact bY (aa a ac (ae a [] qF (py (fun e=>zI aM e.2.2.1))))
  try rw[zb] at a
  try rw[zb]
  exact bY (aa a ac (ae a [] qF (py (fun e=>zH aM e.2.1))))
 have S:=aU x;exact eB 6 11 x (bW a (fun _ _ a=>tN (bY (aa a ac (ae a [] qF (py (fun e=>absurd e.1 oM)))))))
theorem nG (isb:ByteArray->Bool)(sm:ByteArray->Prop)(mL:∀ s,sm s->∀ (w:World) (h:Hp),G w h->Calls Tryz.prog 57 #[.string s] w (Ret w h (fun v _=>∃ b,v=.bool b/\b=isb s))):∀ (d:Nat) (p:PTm) (t:Tm) (w:World) (h:Hp),G w h->TmH d h p t->SmT sm d t ->  Calls Tryz.prog 55 #[az p] w (Ret w h (fun v _=>∃ e,v=.bool e/\(e=true↔WfT (fun s=>isb s=true) d t)))
  | 0,_,_,_,_,_,x,_=>x.elim
  | d+1,p,t,w,h,g,x,wf=>by
    obtain ⟨op,n,q,s,A,c,ps,ks,rfl,rfl,o,u,a⟩:=x.open;obtain ⟨f,i,y,j,B,l⟩:=wf;have z:ks.length<=3:=f;exact sH isb sm mL d (fun p t w h=>nG isb sm mL d p t w h) op n q s A c ps ks o (by have:=a.len;omega) f i y j B l w h g u a
theorem sI  (ok:ByteArray->Prop)(d:Nat)(Q:∀ (p:PTm) (t:Tm) (w:World) (h:Hp),G w h->TmH d h p t->WfT ok d t ->  Calls Tryz.prog 56 #[az p,iV 1001] w (Ret w h (fun v _=>v=iV ((min (bu d t) 1001:Nat):Int))))(op n:Int)(q:Rat)(s:ByteArray)(A:Z9)(c:Nat)(ps:List PTm)(ks:List Tm)(hc:ps.length<=c)(hlp:ps.length<=2)(M:fb op=(ks.length:Nat))(hq0:op≠1->q=0)(hq:LQ 3000 q)(U:op=2->ok s)(X:op≠2->s=⟨#[]⟩)(Y:op≠8->n=0)(hn1 : -12<=n)(hn2:n<=12)(S:∀ i,i<ks.length->WfT ok d (ks.getD i bZ))(w:World)(h:Hp)(g:G w h)(hK:SlO 9 be aZ h A ps)(J:Tms d h ps ks):CV 56 #[az ⟨op,n,q,s,A,ps.length,c⟩,iV 1001] w h (iV ((min (bu (d+1) (.mk op n q s ks)) 1001:Nat):Int)):=by
 have a:=(((sS g).aS hK).add (K:=fun z=>Tms d z ps ks) J);have hln:=(a.f.1).len;refine go Tryz.func56 [(0,az ⟨op,n,q,s,A,ps.length,c⟩),(1,iV 1001)] rfl (aD (lA 2 42 (be ⟨op,n,q,s,A,ps.length,c⟩) a (fun B w2 h3 a=>lL a ac (af (aa a [.v (qP B 8),.o (qS A ps.length c) 0 8 1,.v (nV ps.length)] ?_)))));cases x:((ps.length:Int) == (0:Int))
 .
  have F:=aq x;refine lB 11 x (aj (cK (aa a ac (af (aa a [.v (qP B 8),.o (qS A ps.length c) 0 8 1,.v (nV ps.length),.c] (ba ?_))))));refine bS _ (CG.loop (fun L Γ Z=>∃ (k:Nat)(sm:Nat)(z:Hp),L=ps.length-k/\Γ=[(1,iV 1001),(2,pB B),(15,qS A ps.length c),(16,nV ps.length),(17,nV k),(5,nV sm)]/\SS w h Z z [⟨B,42,be ⟨op,n,q,s,A,ps.length,c⟩⟩] [] [fun z=>Tms d z ps ks,fun z=>SlO 9 be aZ z A ps]/\k<=ps.length/\sm=min (dl (fun i=>bu d (ks.getD i bZ)) k) 1001) _ ⟨0,0,h3,rfl,rfl,a.to _ _,GA _,rfl⟩ ?_);rintro _ _ w5 ⟨k,sm,h6,V,rfl,a,hk,y⟩;have W:(dl (fun i=>bu d (ks.getD i bZ)) (k+1))=(dl (fun i=>bu d (ks.getD i bZ)) k)+bu d (ks.getD k bZ):=rfl;refine aD ?_;cases l:(decide ((k:Int)<(ps.length:Int)))
  .
   have D:=oF l;refine lB 18 l (af (cG (CG.exit ?_)))
   show CG _ _ _ _ _ _ _ _
   refine cQ (aa a [.v (pB B),.o (iV op) 0 0 1] (ba (aD ?_)));cases u:((op:Int) == (11:Int))
   .
    have C:=aq u;refine lB 36 u (lL a ac (aj (aD ?_)));cases I:((op:Int) == (8:Int))
    .
     have zc:=aq I;refine lB 40 I (lL a ac (aj (cK (aa a aF (lV 48 (iV (min (sm:Int) (1001:Int))) ?_ (hr:=aY (n:=(if (1001:Int)<(sm:Int) then (1001:Int) else (sm:Int))) kR (by simp only[tS])))))));refine lL a ac (lN (kX ?_));have j:k=ks.length:=by omega
     have b:=fH (d:=d) (op:=op) (n:=n) (q:=q) (s:=s) (ks:=ks) oM;have e:=jw (s:=(dl (fun i=>bu d (ks.getD i bZ)) k)) (cv op n);rw[<-j] at b
     rw[<-b,<-y] at e
     exact a.ret [] (iV (min (sm:Int) (1001:Int))) (congrArg (Value.int .i64) (by rw[<-e];unfold cP;first|(rw[if_pos oM];(repeat' split)<;>omega)|(rw[if_neg oM,if_pos oM,y8];(repeat' split)<;>omega)|(rw[if_neg oM,if_neg oM];(repeat' split)<;>omega)))
    have zc:=eq_of_beq I;refine lB 40 I (lL a ac (ar (kQ (lL a [.c,.v (qP B 1),.o (iV n) 0 1 1] (ao 44 a (Be n oM oM _ _ a.g) (fun _ _ a=>?_))))));have htm:bj n<=12/\1<=bj n:=by unfold bj;split<;>omega
    have hmb:sm*bj n<=1001*12:=Nat.mul_le_mul oM oM;refine lI 45 ((sm:Nat)*(bj n:Nat)) (lL a ac (aK (lL a aF (lV 48 (iV (min ((sm:Nat)*(bj n:Nat):Int) (1001:Int))) ?_ (hr:=aY (n:=(if (1001:Int)<((sm:Nat)*(bj n:Nat):Int) then (1001:Int) else ((sm:Nat)*(bj n:Nat):Int))) kR (by simp only[tS]))))));refine lL a ac (lN (kX ?_));have j:k=ks.length:=by omega
    have b:=fH (d:=d) (op:=op) (n:=n) (q:=q) (s:=s) (ks:=ks) oM;have e:=jw (s:=(dl (fun i=>bu d (ks.getD i bZ)) k)) (cv op n);rw[<-j] at b
    rw[<-b,<-y] at e
    exact a.ret [] (iV (min ((sm:Nat)*(bj n:Nat):Int) (1001:Int))) (congrArg (Value.int .i64) (by rw[<-e];unfold cP;first|(rw[if_pos oM];(repeat' split)<;>omega)|(rw[if_neg oM,if_pos oM,y8];(repeat' split)<;>omega)|(rw[if_neg oM,if_neg oM];(repeat' split)<;>omega)))
   have C:=eq_of_beq u;refine lB 36 u (lL a ac (ar (kQ (lL a ac (lI 38 ((sm:Nat)*2) ?_)))));refine lL a ac (aK (lL a aF (lV 48 (iV (min ((sm:Nat)*2:Int) (1001:Int))) ?_ (hr:=aY (n:=(if (1001:Int)<((sm:Nat)*2:Int) then (1001:Int) else ((sm:Nat)*2:Int))) kR (by simp only[tS])))));refine lL a ac (lN (kX ?_));have j:k=ks.length:=by omega
   have b:=fH (d:=d) (op:=op) (n:=n) (q:=q) (s:=s) (ks:=ks) oM;have e:=jw (s:=(dl (fun i=>bu d (ks.getD i bZ)) k)) (cv op n);rw[<-j] at b
   rw[<-b,<-y] at e
   exact a.ret [] (iV (min ((sm:Nat)*2:Int) (1001:Int))) (congrArg (Value.int .i64) (by rw[<-e];unfold cP;first|(rw[if_pos oM];(repeat' split)<;>omega)|(rw[if_neg oM,if_pos oM,y8];(repeat' split)<;>omega)|(rw[if_neg oM,if_neg oM];(repeat' split)<;>omega)))
  have D:=oT l;refine lB 18 l (af (bY (cK (cQ (kZ (aD (lX 19 A ps.length c 9 (k:Nat) k ((a.f.2.1).ok oM) ?_)))))));refine lH 20 (az (ps.getD k aZ)) a ((a.f.2.1).el k oM) (lA 7 42 ca a (fun b13 _ _ a=>lP 0 0 (be (ps.getD k aZ)) a (fun _ a=>aK (lL a [.c,.o (az (ps.getD k aZ)) 0 0 9,.c] (ao 24 a (Q (ps.getD k aZ) (ks.getD k bZ) _ _ a.g ((a.f.1).at_ k oM) (S k oM)) (fun _ ze a=>lI 25 ((sm:Nat)+((min (bu d (ks.getD k bZ)) 1001:Nat):Int)) (lL a ac (lV 27 (iV ((min (dl (fun i=>bu d (ks.getD i bZ)) (k+1)) 1001:Nat):Int)) ?_ (hr:=aY (n:=if (1001:Int)<((sm:Nat)+((min (bu d (ks.getD k bZ)) 1001:Nat):Int)) then (1001:Int) else ((sm:Nat)+((min (bu d (ks.getD k bZ)) 1001:Nat):Int))) kR (by split<;>omega))))))))));refine lL a ac (aK (lL a aF ?_));cases H:((((min (dl (fun i=>bu d (ks.getD i bZ)) (k+1)) 1001:Nat):Int):Int) == (1001:Int))
  .
   have zd:=aq H;refine lB 30 H (aj (cK (kQ (bA 32 ((k:Nat)+1) (k+1) ?_))));refine lL a ac (lD ?_);intro a_ ka;replace a:=a.drop 1 0;refine ⟨_,_,?_,⟨k+1,(min (dl (fun i=>bu d (ks.getD i bZ)) (k+1)) 1001),ze,rfl,rfl,a.to _ _,oM,rfl⟩,ka.to _ kR⟩
   omega
  have zd:=eq_of_beq H;exact lB 30 H (ar (aa a aF (ae a [] (iV 1001) (congrArg (Value.int .i64) (by have O:=qJ (fun i=>bu d (ks.getD i bZ)) (show k+1<=ks.length by omega);have h2_:=og (d:=d) (op:=op) (n:=n) (q:=q) (s:=s) (ks:=ks) oM;omega)))))
 have F:=eq_of_beq x;exact lB 11 x (ar (aa a [.c,.v (iV 1),.c] (ae a [] (iV 1) (congrArg (Value.int .i64) (by rw[kV oM];first|rfl|omega)))))
theorem mU (ok:ByteArray->Prop):∀ (d:Nat) (p:PTm) (t:Tm) (w:World) (h:Hp),G w h->TmH d h p t->WfT ok d t ->  Calls Tryz.prog 56 #[az p,iV 1001] w (Ret w h (fun v _=>v=iV ((min (bu d t) 1001:Nat):Int)))
  | 0,_,_,_,_,_,x,_=>x.elim
  | d + 1,p,t,w,h,g,x,wf=>by
    obtain ⟨op,n,q,s,A,c,ps,ks,rfl,rfl,i,l,a⟩:=x.open;obtain ⟨w1,w2,w3,e,u,f,o,j,y⟩:=wf
    have b:ps.length<=2:=by
      have e1:fb op=ks.length:=w1;have:=aN op;have:=a.len
      omega
    exact sI ok d (fun p t w h=>mU ok d p t w h) op n q s A c ps ks i b w1 w2 w3 e u f o j y w h g l a
structure PLt where
  s:ByteArray
  q:Rat
def Ec:PLt:=⟨⟨#[]⟩,0⟩
structure RLt where
  s:ByteArray
  neg:Bool
  zA:Z9
  zn:Nat
  zc:Nat
  dA:Z9
  dn:Nat
  dc:Nat
def RLt.t (r:RLt):RT:=(r.neg,.slice r.zA r.zn r.zc,.slice r.dA r.dn r.dc)
def Ew:RLt:=⟨⟨#[]⟩,false,none,0,0,none,0,0⟩
structure RLs (h:Hp) (rs:List RLt) (ps:List PLt):Prop where
  len:rs.length=ps.length
  at_:∀ i,i<ps.length->(rs.getD i Ew).s=(ps.getD i Ec).s/\RZ h (rs.getD i Ew).t (ps.getD i Ec).q
def EM (op n:Int)(q:Rat)(e1 e2:Int)(a b:Rat):Int × Rat :=
  if e1≠0 then (e1,0) else if e2≠0 then (e2,0) else if Ak op n a b then (0,ko op n q a b) else (6,0)
section
variable {op n:Int}{q a b:Rat}{e1 e2:Int}
theorem Bo (h1:e1=0)(c:e2=0)(h:Ak op n a b):EM op n q e1 e2 a b=(0,E9 op n q a b):=by unfold EM E9;rw[if_neg oM,if_neg oM,if_pos h,if_pos h]
end
theorem tZ {a:Rat}:gl a 1=a:=by
 have h1:((1:Int):Rat)=1:=rfl
 show ((1:Int):Rat)*a=a
 rw[h1];grind
theorem qj {a:Rat}{K:Nat}{n:Int}(d:1<=K)(h:LQ K a):LQ (bj n*(K+2)-2) (gl a n):=by
  unfold bj
  by_cases h1:n.natAbs<=1
  . rw[if_pos h1]
    have c:n=0\/n=1\/n = -1:=by omega
    rcases c with rfl|rfl|rfl
    . exact (LQ.lit (z:=1) kD).mono oM
    . rw[tZ];exact h.mono oM
    . have e:gl a (-1)=a⁻¹:=by
        have h1:((1:Int):Rat)=1:=rfl
        show ((1:Int):Rat)/(((1:Int):Rat)*a)=a⁻¹
        rw[h1];rw[Rat.one_mul,Rat.div_def,Rat.one_mul]
      rw[e];exact h.inv.mono oM
  . rw[if_neg h1]
    have b:=je h n.natAbs;have f:n.natAbs*(K+2)=n.natAbs*K+n.natAbs*2:=Nat.mul_add _ _ _
    unfold gl
    split
    . exact b.mono oM
    . exact ((LQ.lit (z:=1) kD).div b).mono oM
theorem BM {op n:Int}{q a b:Rat}{e1 e2:Int}{wa wb c:Nat}(C:3<=c)(o:1<=wa)(ha:LQ (c*wa-2) a)(f:1<=wb->LQ (c*wb-2) b)(d:fb op=2->1<=wb)(u:LQ 1 q)(B:3<=op/\op<=13) :
    LQ (c*(cP op n*(wa+wb))-2) (EM op n q e1 e2 a b).2:=by
  obtain ⟨M,hM⟩:∃ M,M=cP op n*(wa+wb):=⟨_,rfl⟩;have w1:=cv op n;have l:wa+wb<=cP op n*(wa+wb):=GU _ w1;rw[<-hM] at l ⊢
  have h0:LQ 1 (0:Rat):=LQ.lit (z:=0) kD;have x:=o;have D:c*(wa+wb)<=c*M:=A5 _ l;have m2:c*(wa+wb)=c*wa+c*wb:=Nat.mul_add _ _ _;have y:c<=c*wa:=HB _ o;have hz:LQ (c*M-2) (0:Rat):=h0.mono oM
  suffices h:LQ (c*M-2) (ko op n q a b) by
    unfold EM
    split
    . exact hz
    . split
      . exact hz
      . split
        . exact h
        . exact hz
  unfold ko
  split
  . exact u.mono oM
  split
  . rename_i h;have w2:=d (by rw[h];rfl);have i:c<=c*wb:=HB _ w2;exact (ha.add (f w2)).mono oM
  split
  . rename_i h;have w2:=d (by rw[h];rfl);have i:c<=c*wb:=HB _ w2;exact (ha.sub (f w2)).mono oM
  split
  . rename_i h;have w2:=d (by rw[h];rfl);have i:c<=c*wb:=HB _ w2;exact (ha.mul (f w2)).mono oM
  split
  . rename_i h;have w2:=d (by rw[h];rfl);have i:c<=c*wb:=HB _ w2;exact (ha.div (f w2)).mono oM
  split
  . exact ha.neg.mono oM
  split
  . rename_i p
    have e:cP op n=bj n:=by unfold cP;rw[if_neg oM,if_pos p]
    have d:=qj (n:=n) oM ha
    have e2:bj n*(c*wa-2+2)<=c*(bj n*(wa+wb)):=by
      rw[show c*wa-2+2=c*wa by omega,HC];exact A5 _ (A5 _ (Hx _ _))
    rw[e] at hM
    rw[<-hM] at e2
    exact d.mono (Nat.sub_le_sub_right e2 2)
  split
  . exact ha.abs.mono oM
  split
  . exact (LQ.maxR ha (h0.mono (by omega:1<=c*wa-2))).mono oM
  split
  . rename_i j
    have e:cP op n=2:=by unfold cP;rw[if_pos j]
    rw[e] at hM
    have F:c*M=2*(c*(wa+wb)):=by rw[hM,HC]
    exact (ha.div (ha.abs.add (LQ.lit (z:=1) kD))).mono oM
  split
  . rename_i h;have w2:=d (by rw[h];rfl);have i:c<=c*wb:=HB _ w2
    unfold maxR;split
    . exact (f w2).mono oM
    . exact ha.mono oM
  . have w2 := d (by have:op=13:=by omega
                     rw[this];rfl)
    have i:c<=c*wb:=HB _ w2
    unfold qz;split
    . exact (f w2).mono oM
    . exact ha.mono oM
theorem fd {ks:List Tm}{op:Int}(h:fb op=ks.length):ks=[]\/(∃ t,ks=[t])\/∃ t u,ks=[t,u]:=by
 have:=aN op
 rcases ks with _|⟨t,_|⟨u,_|⟨v,l⟩⟩⟩
 ·exact .inl rfl
 ·exact .inr (.inl ⟨t,rfl⟩)
 ·exact .inr (.inr ⟨t,u,rfl⟩)
 ·simp only[yc] at h;omega
theorem n4 {d m:Nat}{op n:Int}{q:Rat}{s:ByteArray}{a:Tm}(h:bu (d+1) (.mk op n q s [a])<=m):bu d a<=m:=by
 have b:=og (d:=d) (op:=op) (n:=n) (q:=q) (s:=s) (ks:=[a]) (HD _);have e:dl (fun i=>bu d (([a]:List Tm).getD i bZ)) ([a]:List Tm).length=0+bu d a:=rfl
 omega
theorem jV {d m:Nat}{op n:Int}{q:Rat}{s:ByteArray}{a b:Tm}(h:bu (d+1) (.mk op n q s [a,b])<=m):bu d a<=m/\bu d b<=m:=by
 have c:=og (d:=d) (op:=op) (n:=n) (q:=q) (s:=s) (ks:=[a,b]) (HD _);have e:dl (fun i=>bu d (([a,b]:List Tm).getD i bZ)) ([a,b]:List Tm).length=0+bu d a+bu d b:=rfl
 omega
theorem k7 {α:Type}:∀ {l:List α},l.length=2->∃ a b,l=[a,b]
 | [a,b],_=>⟨a,b,rfl⟩
 | [],h=>by simp only[HE] at h;omega
 | [_],h=>by simp only[yc,HE] at h;omega
 | _::_::_::_,h=>by simp only[yc] at h;omega
theorem CF {ok:ByteArray->Prop}{d:Nat}{t:Tm}{e:Int}(h:(WfT ok d t/\e=(if 1000<bu d t then 18 else 0))\/(¬WfT ok d t/\e=2))(h0:e=0):WfT ok d t/\bu d t<=1000:=by
 rcases h with ⟨h1,h2⟩|⟨h1,h2⟩
 ·refine ⟨h1,?_⟩;split at h2<;>omega
 ·omega
def ml (m:Nat)(op n:Int)(x y:Int × Rat × List Rat):Int × Rat × List Rat :=
  if x.1≠0 then (x.1,0,[]) else if y.1≠0 then (y.1,0,[]) else if bI op n x.2.1 y.2.1≠0 then (bI op n x.2.1 y.2.1,0,[])
  else (0,ko op n 0 x.2.1 y.2.1,(ov m).map fun i=>AY op n x.2.1 y.2.1*x.2.2.getD i 0+B8 op x.2.1 y.2.1*y.2.2.getD i 0)
def aA (ix:ByteArray->Nat)(at_:List Rat):Nat->Tm->Int × Rat × List Rat
  | 0,_=>(0,0,[])
  | d+1,t =>
    if t.op=1 then (0,t.q,yJ at_.length 0)
    else if t.op=2 then (0,at_.getD (ix t.s) 0,ck at_.length (ix t.s))
    else ml at_.length t.op t.n (if 0<t.ks.length then aA ix at_ d (t.ks.getD 0 bZ) else (0,0,[])) (if 1<t.ks.length then aA ix at_ d (t.ks.getD 1 bZ) else (0,0,[]))
section
variable {ix:ByteArray->Nat}{at_ way:List Rat}
theorem io {m:Nat}{op n:Int}{x y:Int × Rat × List Rat}(h:x.1≠0):ml m op n x y=(x.1,0,[]):=if_pos h
theorem jQ {m:Nat}{op n:Int}{x y:Int × Rat × List Rat}(h:x.1=0)(a:y.1≠0):ml m op n x y=(y.1,0,[]):=by unfold ml;rw[if_neg (fun k=>k h),if_pos a]
theorem g7 {m:Nat}{op n:Int}{x y:Int × Rat × List Rat}(h:x.1=0)(b:y.1=0)(a:bI op n x.2.1 y.2.1≠0):ml m op n x y=(bI op n x.2.1 y.2.1,0,[]):=by unfold ml;rw[if_neg (fun k=>k h),if_neg (fun k=>k b),if_pos a]
def g8 (m:Nat)(op n:Int)(a b:Rat)(ga gb:List Rat):List Rat:=(ov m).map fun i=>AY op n a b*ga.getD i 0+B8 op a b*gb.getD i 0
theorem duG_len {m:Nat}{op n:Int}{a b:Rat}{ga gb:List Rat}:(g8 m op n a b ga gb).length=m:=by unfold g8;simp
theorem ia {m:Nat}{op n:Int}{x y:Int × Rat × List Rat}(h:x.1=0)(b:y.1=0)(a:bI op n x.2.1 y.2.1=0):ml m op n x y=(0,ko op n 0 x.2.1 y.2.1,g8 m op n x.2.1 y.2.1 x.2.2 y.2.2):=by unfold ml;rw[if_neg (fun k=>k h),if_neg (fun k=>k b),if_neg (fun k=>k a)];rfl
end
theorem iD {f:Nat->Rat}{m i:Nat}(h:i<m):((ov m).map fun i=>f i).getD i 0=f i:=by simp[h]
theorem CW {f:Nat->Rat}{m i:Nat}(h:m<=i):((ov m).map fun i=>f i).getD i 0=0:=cY (by simp;exact h)
theorem j4 {f:Nat->Rat}{m K:Nat}(h:∀ i,LQ K (f i))(a:1<=K)(j:Nat):LQ K (((ov m).map fun i=>f i).getD j 0):=CD a h j
theorem dL (i:Nat):([]:List Rat).getD i 0=0:=by simp
theorem dC (m i:Nat):(yJ m (0:Rat)).getD i 0=0:=uH i
section
variable {m:Nat}{op n:Int}{a b:Rat}{ga gb:List Rat}{f:Nat->Rat}
theorem gy (h:∀ i,i<m->f i=AY op n a b*ga.getD i 0+B8 op a b*gb.getD i 0):((ov m).map fun i=>f i)=g8 m op n a b ga gb:=by
 unfold g8
 exact HF fun i hi=>h i (o0.1 hi)
theorem fq {G:List Rat}(c:G.length=m)(h:∀ i,i<m->G.getD i 0=AY op n a b*ga.getD i 0+B8 op a b*gb.getD i 0):G=g8 m op n a b ga gb:=by
 refine hJ (c.trans duG_len.symm) fun i=>?_
 by_cases hi:i<m
 ·rw[h i hi];unfold g8;rw[iD hi]
 ·rw[cY oM,cY (by rw[duG_len];omega)]
theorem dq (h1:op=6->b≠0)(f:op=8->n<0->a≠0)(h:(op=9\/op=10)->a≠0)(e:(op=12\/op=13)->a≠b):bI op n a b=0:=by
 unfold bI
 rw[if_pos ⟨h1,f⟩,if_neg];rintro (⟨d,c⟩|⟨d,c⟩)
 ·exact h d c
 ·exact e d c
theorem Aj (h:(op=6/\b=0)\/(op=8/\n<0/\a=0)):bI op n a b=6:=if_neg (fun k=>by
 rcases h with ⟨h1,h2⟩|⟨h1,h2,h3⟩
 ·exact k.1 h1 h2
 ·exact k.2 h1 h2 h3)
theorem AB (h:(op=9\/op=10)/\a=0\/(op=12\/op=13)/\a=b):bI op n a b=7:=by
 unfold bI
 rw[if_pos ⟨fun e=>by omega,fun e=>by omega⟩,if_pos (show EE op a b from h)]
end
section
variable {m:Nat}{n:Int}{a:Rat}{ga:List Rat}
theorem FX:a*((-1:Int):Rat)=ko 7 n 0 a 0/\((ov m).map fun i=>ga.getD i 0*((-1:Int):Rat))=g8 m 7 n a 0 ga []:=by
 refine ⟨?_,gy fun i _=>?_⟩
 ·show a*((-1:Int):Rat) = -a
  rw[Au];grind
 ·rw[dL]
  show ga.getD i 0*((-1:Int):Rat) = -((1:Int):Rat)*ga.getD i 0+0*0
  rw[Au,i1];grind
theorem EU {a:Rat}(h:0<a.num.sign):0<a:=xA.1 h
theorem EV {a:Rat}(h:a.num.sign<0):a<0:=by
 have:a.num<0:=HG.1 (by have:=HH a.num;omega);rw[<-HI,<-HJ];omega
theorem vx {a:Rat}(h:a.num.sign=0):a=0:=Hw.1 (Hy.1 h)
theorem i7 {a:Rat}(h:a.num.sign≠0):a≠0:=fun e=>h (by rw[e];rfl)
theorem pA {a:Rat}(h:a≠0):a.num≠0:=fun e=>h (Hw.1 e)
theorem Cv {a:Rat}(h:0<a.num.sign):a.num.sign=1:=by have:=HH a.num;omega
theorem nx {a:Rat}(h:a.num.sign<0):a.num.sign = -1:=by have:=HH a.num;omega
theorem Fi {op:Int}(c:op=9\/op=10)(b:ga.length=m)(h:0<a.num.sign):a=ko op n 0 a 0/\ga=g8 m op n a 0 ga []:=by
 have p:=EU h
 rcases c with rfl|rfl
 ·refine ⟨?_,fq b fun i _=>?_⟩
  ·show a=cJ a
   unfold cJ;rw[if_neg (by have:=Cv h;have:=Int.sign_eq_one_iff_pos.1 this;omega)]
  ·rw[dL]
   show ga.getD i 0=((a.num.sign:Int):Rat)*ga.getD i 0+0*0
   rw[Cv h,i1];grind
 ·refine ⟨?_,fq b fun i _=>?_⟩
  ·show a=maxR a 0
   unfold maxR;split
   ·grind
   ·rfl
  ·rw[dL]
   show ga.getD i 0=((max a.num.sign 0:Int):Rat)*ga.getD i 0+0*0
   rw[Cv h,show max (1:Int) 0=1 from rfl,i1];grind
theorem FO (h:a.num.sign<0):a*((-1:Int):Rat)=ko 9 n 0 a 0/\((ov m).map fun i=>ga.getD i 0*((-1:Int):Rat))=g8 m 9 n a 0 ga []:=by
 refine ⟨?_,gy fun i _=>?_⟩
 ·show _=cJ a
  unfold cJ;rw[if_pos (by have:=HG.1 (nx h);omega),Au];grind
 ·rw[dL]
  show ga.getD i 0*((-1:Int):Rat)=((a.num.sign:Int):Rat)*ga.getD i 0+0*0
  rw[nx h,Au];grind
theorem Fq (h:a.num.sign<0):(0:Rat)=ko 10 n 0 a 0/\yJ m (0:Rat)=g8 m 10 n a 0 ga []:=by
 have p:=EV h;refine ⟨?_,fq HK fun i _=>?_⟩
 ·show (0:Rat)=maxR a 0
  unfold maxR;split
  ·rfl
  ·grind
 ·rw[dL,dC]
  show (0:Rat)=((max a.num.sign 0:Int):Rat)*ga.getD i 0+0*0
  rw[nx h,show max (-1:Int) 0=0 from rfl,i0];grind
theorem xt {x:Rat}{a b:List Rat}{k:Nat}(d:a.length=m)(c:∀ i,b.getD i 0=((k:Int):Rat)*cO x (k-1)*a.getD i 0)(i:Nat) :
  ((ov m).map fun i=>b.getD i 0*x+cO x k*a.getD i 0).getD i 0=(((k+1:Nat):Int):Rat)*cO x (k+1-1)*a.getD i 0:=by
 by_cases hi:i<m
 ·rw[iD hi,c i]
  have e:(((k+1:Nat):Int):Rat)=((k:Int):Rat)+1:=by push_cast;rfl
  have e2:((k:Int):Rat)*cO x (k-1)*x=((k:Int):Rat)*cO x k:=by
   cases k with
   | zero=>show ((0:Int):Rat)*_*_=((0:Int):Rat)*_;rw[i0];grind
   | succ k=>show _*cO _ k*_=_*(cO _ k*_);grind
  rw[e]
  show _=(((k:Int):Rat)+1)*cO x k*a.getD i 0
  grind
 ·rw[CW oM,cY (show a.length<=i by omega)];grind
theorem E0 (f:0<=n){b:List Rat}{k:Nat}(hk:k=n.natAbs)(c:b.length=m)(d:∀ i,b.getD i 0=((k:Int):Rat)*cO a (k-1)*ga.getD i 0):cO a k=ko 8 n 0 a 0/\b=g8 m 8 n a 0 ga []:=by
 refine ⟨?_,fq c fun i _=>?_⟩
 ·show _=gl a n
  unfold gl;rw[if_pos f,hk]
 ·rw[dL,d i]
  show _=(if n=0 then (0:Rat) else gl a (n-1)*((n:Int):Rat))*ga.getD i 0+0*0
  by_cases h0:n=0
  ·subst h0;subst hk;rw[if_pos rfl];show ((0:Int):Rat)*_*_=_;rw[i0];grind
  ·rw[if_neg h0]
   have e:gl a (n-1)=cO a (k-1):=by unfold gl;rw[if_pos oM,show (n-1).natAbs=k-1 by omega]
   rw[e,show ((k:Nat):Int)=n by omega];grind
theorem uN {a:Rat}(h:a≠0):∀ k,cO (((1:Int):Rat)/a) k=((1:Int):Rat)/cO a k
  | 0=>by show ((1:Int):Rat)=((1:Int):Rat)/((1:Int):Rat);rw[i1];grind
  | k+1=>by
    show cO (((1:Int):Rat)/a) k*(((1:Int):Rat)/a)=((1:Int):Rat)/(cO a k*a)
    have:=k9 h k;rw[uN h k,i1];grind
theorem E6 (l:n<0)(ha:a≠0){c b:List Rat}{k:Nat}(hk:k=n.natAbs)(d:b.length=m)(h:c=(ov m).map fun i=>ga.getD i 0*(-((((1:Int):Rat)/a)*(((1:Int):Rat)/a))))(f:∀ i,b.getD i 0=((k:Int):Rat)*cO (((1:Int):Rat)/a) (k-1)*c.getD i 0):cO (((1:Int):Rat)/a) k=ko 8 n 0 a 0/\b=g8 m 8 n a 0 ga []:=by
 obtain ⟨j,rfl⟩:∃ j,k=j+1:=⟨k-1,by omega⟩;have o:=k9 ha j;refine ⟨?_,fq d fun i hi=>?_⟩
 ·show _=gl a n
  unfold gl;rw[if_neg oM,uN ha,hk]
 ·rw[dL,f i,h,iD hi]
  show _=(if n=0 then (0:Rat) else gl a (n-1)*((n:Int):Rat))*ga.getD i 0+0*0
  rw[if_neg oM]
  have e:gl a (n-1)=((1:Int):Rat)/(cO a j*a*a):=by
   unfold gl;rw[if_neg oM,show (n-1).natAbs=j+2 by omega];rfl
  have e2:((n:Int):Rat) = -(((j+1:Nat):Int):Rat):=by rw[show n = -((j+1:Nat):Int) by omega,Rat.intCast_neg]
  rw[e,e2,show j+1-1=j from rfl,uN ha,i1]
  grind
theorem EX {s:Rat}{f:List Rat}(l:s=cJ a)(j:∀ i,i<m->f.getD i 0=(if a.num.sign<0 then ga.getD i 0*((-1:Int):Rat) else ga.getD i 0)) :
  a*(((1:Int):Rat)/(s+((1:Int):Rat)))=ko 11 n 0 a 0/\((ov m).map fun i=>ga.getD i 0*(((1:Int):Rat)/(s+((1:Int):Rat)))+a*((ov m).map fun i=>((ov m).map fun i=>f.getD i 0+(yJ m (0:Rat)).getD i 0).getD i 0*(-((((1:Int):Rat)/(s+((1:Int):Rat)))*(((1:Int):Rat)/(s+((1:Int):Rat)))))).getD i 0)=g8 m 11 n a 0 ga []:=by
 have o:0<=cJ a:=by
  unfold cJ;split
  ·rename_i h
   have:a<0:=by rw[<-HI,<-HJ];omega
   grind
  ·rename_i h;exact HJ.1 oM
 have b:cJ a+1≠0:=by grind
 subst l;refine ⟨?_,gy fun i hi=>?_⟩
 ·show _=a/(cJ a+((1:Int):Rat))
  rw[i1];grind
 ·rw[dL,iD hi,iD hi,dC,j i hi]
  show _=(((1:Int):Rat)/(((1:Int):Rat)+cJ a))*(((1:Int):Rat)/(((1:Int):Rat)+cJ a))*ga.getD i 0+0*0
  have e:((1:Int):Rat)+cJ a=cJ a+((1:Int):Rat):=Rat.add_comm _ _;rw[e]
  by_cases c:a.num.sign<0
  ·rw[if_pos c]
   have d:cJ a = -a:=by unfold cJ;rw[if_pos (by have:=HG.1 (nx c);omega)]
   rw[d] at b ⊢
   rw[i1,Au];grind
  ·rw[if_neg c]
   have d:cJ a=a:=by unfold cJ;rw[if_neg (fun h=>c (by have:=HG.2 h;omega))]
   rw[d] at b ⊢
   rw[i1];grind
end
section
variable {m:Nat}{n:Int}{a b:Rat}{ga gb:List Rat}
theorem FW:((ov m).map fun i=>ga.getD i 0+gb.getD i 0)=g8 m 3 n a b ga gb:=gy fun i _=>by
 show _=((1:Int):Rat)*ga.getD i 0+((1:Int):Rat)*gb.getD i 0
 rw[i1];grind
theorem FV:a+b*((-1:Int):Rat)=ko 4 n 0 a b/\((ov m).map fun i=>ga.getD i 0+((ov m).map fun i=>gb.getD i 0*((-1:Int):Rat)).getD i 0)=g8 m 4 n a b ga gb:=by
 refine ⟨?_,gy fun i hi=>?_⟩
 ·show _=a-b
  rw[Au];grind
 ·rw[iD hi]
  show _=((1:Int):Rat)*ga.getD i 0 + -((1:Int):Rat)*gb.getD i 0
  rw[i1,Au];grind
theorem FK:((ov m).map fun i=>ga.getD i 0*b+a*gb.getD i 0)=g8 m 5 n a b ga gb:=gy fun i _=>by
 show _=b*ga.getD i 0+a*gb.getD i 0
 grind
theorem Fz (h:b≠0):a*(((1:Int):Rat)/b)=ko 6 n 0 a b/\((ov m).map fun i=>ga.getD i 0*(((1:Int):Rat)/b)+a*((ov m).map fun i=>gb.getD i 0*(-((((1:Int):Rat)/b)*(((1:Int):Rat)/b)))).getD i 0)=g8 m 6 n a b ga gb:=by
 refine ⟨?_,gy fun i hi=>?_⟩
 ·show _=a/b
  rw[i1];grind
 ·rw[iD hi]
  show _=((1:Int):Rat)/b*ga.getD i 0 + -(a*(((1:Int):Rat)/b)*(((1:Int):Rat)/b))*gb.getD i 0
  rw[i1];grind
theorem xS {op:Int}(d:ga.length=m)(h:op=12/\b<a\/op=13/\a<b):a=ko op n 0 a b/\ga=g8 m op n a b ga gb:=by
 rcases h with ⟨rfl,h⟩|⟨rfl,h⟩
 ·refine ⟨?_,fq d fun i _=>?_⟩
  ·show a=maxR a b
   unfold maxR;rw[if_neg (by grind)]
  ·show _=(if b<a then ((1:Int):Rat) else 0)*_+(if b<a then (0:Rat) else ((1:Int):Rat))*_
   rw[if_pos h,if_pos h,i1];grind
 ·have c:¬b<a:=by grind
  refine ⟨?_,fq d fun i _=>?_⟩
  ·show a=qz a b
   unfold qz;rw[if_neg c]
  ·show _=(if b<a then (0:Rat) else ((1:Int):Rat))*_+(if b<a then ((1:Int):Rat) else 0)*_
   rw[if_neg c,if_neg c,i1];grind
theorem xy {op:Int}(c:gb.length=m)(h:op=12/\a<b\/op=13/\b<a):b=ko op n 0 a b/\gb=g8 m op n a b ga gb:=by
 rcases h with ⟨rfl,h⟩|⟨rfl,h⟩
 ·have d:¬b<a:=by grind
  refine ⟨?_,fq c fun i _=>?_⟩
  ·show b=maxR a b
   unfold maxR;rw[if_pos h]
  ·show _=(if b<a then ((1:Int):Rat) else 0)*_+(if b<a then (0:Rat) else ((1:Int):Rat))*_
   rw[if_neg d,if_neg d,i1];grind
 ·refine ⟨?_,fq c fun i _=>?_⟩
  ·show b=qz a b
   unfold qz;rw[if_pos h]
  ·show _=(if b<a then (0:Rat) else ((1:Int):Rat))*_+(if b<a then ((1:Int):Rat) else 0)*_
   rw[if_pos h,if_pos h,i1];grind
end
theorem rK (n:Int):bj (n-1)<=2*bj n:=by
 unfold bj
 split<;>split<;>omega
theorem Cw {a:Rat}{K:Nat}(b:1<=K):LQ K ((a.num.sign:Int):Rat):=by
 have:=jo a.num;exact (LQ.int oM oM).mono b
section
variable {op n:Int}{a b:Rat}{wa wb:Nat}
theorem vS (p:1<=wa)(ha:LQ (3*wa-2) a)(c:LQ (3*wb+1) b)(o : -12<=n/\n<=12):LQ (12*(cP op n*(wa+wb))) (AY op n a b):=by
  obtain ⟨M,hM⟩:∃ M,M=cP op n*(wa+wb):=⟨_,rfl⟩;have w1:=cv op n;have l:wa+wb<=cP op n*(wa+wb):=GU _ w1;rw[<-hM] at l ⊢
  have h1:LQ 1 (((1:Int):Rat)):=LQ.lit (z:=1) kD;have h0:LQ (12*M) (0:Rat):=iZ oM
  unfold AY
  split
  . exact h1.mono oM
  split
  . exact h1.mono oM
  split
  . exact c.mono oM
  split
  . exact (h1.div c).mono oM
  split
  . exact h1.neg.mono oM
  split
  . rename_i j
    split
    . exact h0
    . have e:cP op n=bj n:=by unfold cP;rw[if_neg oM,if_pos j]
      have h:=qj (n:=n-1) oM ha;have i:LQ 1 (((n:Int):Rat)):=LQ.int oM oM;have f:=rK n
      have k2:bj (n-1)*(3*wa-2+2)<=6*M:=by
        rw[show 3*wa-2+2=3*wa by omega,hM,e]
        calc bj (n-1)*(3*wa)<=2*bj n*(3*wa):=yG _ f
          _=6*(bj n*wa):=by rw[Ab,HC (bj n) 3 wa,<-Ab]
          _<=6*(bj n*(wa+wb)):=A5 _ (A5 _ (Hx _ _))
      exact (h.mul i).mono oM
  split
  . exact Cw oM
  split
  . have:=jo a.num
    exact (LQ.int oM oM).mono oM
  split
  . have d:=h1.add ha.abs
    exact ((h1.div d).mul (h1.div d)).mono oM
  split
  . split
    . exact h1.mono oM
    . exact h0
  split
  . split
    . exact h0
    . exact h1.mono oM
  . exact h0
theorem xM (e:1<=wa)(ha:LQ (3*wa-2) a)(c:LQ (3*wb+1) b):LQ (12*(cP op n*(wa+wb))) (B8 op a b):=by
 obtain ⟨M,hM⟩:∃ M,M=cP op n*(wa+wb):=⟨_,rfl⟩;have w1:=cv op n;have d:wa+wb<=cP op n*(wa+wb):=GU _ w1;rw[<-hM] at d ⊢
 have h1:LQ 1 (((1:Int):Rat)):=LQ.lit (z:=1) kD;have h0:LQ (12*M) (0:Rat):=iZ oM
 unfold B8
 split
 ·exact h1.mono oM
 split
 ·exact h1.neg.mono oM
 split
 ·exact ha.mono oM
 split
 ·exact ((ha.mul (h1.div c)).mul (h1.div c)).neg.mono oM
 split
 ·split
  ·exact h0
  ·exact h1.mono oM
 split
 ·split
  ·exact h1.mono oM
  ·exact h0
 ·exact h0
theorem Cz (h:1<=wa)(ha:LQ (3*wa-2) a)(e:1<=wb->LQ (3*wb-2) b)(f:fb op=2->1<=wb)(d:3<=op/\op<=13)(hk:Ak op n a b):LQ (3*(cP op n*(wa+wb))-2) (ko op n 0 a b):=by
 have:=BM (op:=op) (n:=n) (q:=0) (a:=a) (b:=b) (e1:=0) (e2:=0) (wa:=wa) (wb:=wb) (c:=3) (ey 3) h ha e f (iZ kD) d;rw[Bo rfl rfl hk] at this
 unfold E9 at this
 rw[if_pos hk] at this
 exact this
theorem xl (h:bI op n a b=0):Ak op n a b:=Decidable.byContradiction fun k=>by
 have:bI op n a b=6:=if_neg k
 omega
end
def rH (W d:Nat)(x:Int × Rat × List Rat):Prop:=LQ (3*W-2) x.2.1/\∀ i,LQ (40*(W*d)) (x.2.2.getD i 0)
theorem pN {m:Nat}{op n:Int}{wa wb d:Nat}{x y:Int × Rat × List Rat}(e:1<=wa)(b:rH wa d x)(a:1<=wb->rH wb d y)(c:fb op=2->1<=wb)(h1:fb op=1->wb=0/\y.2.1=0/\y.2.2=[])(u:3<=op/\op<=13)(B : -12<=n/\n<=12)(ha:fb op=1\/fb op=2):rH (cP op n*(wa+wb)) (d+1) (ml m op n x y):=by
  have w1:=cv op n;have z:wa+wb<=cP op n*(wa+wb):=GU _ w1
  have hz:rH (cP op n*(wa+wb)) (d+1) ((0:Int),(0:Rat),([]:List Rat)):=⟨iZ oM,fun i=>by
    rw[dL];exact iZ (by have:1<=cP op n*(wa+wb)*(d+1):=Nat.mul_pos oM (GD d);omega)⟩
  by_cases c1:x.1=0
  . by_cases c2:y.1=0
    . by_cases c3:bI op n x.2.1 y.2.1=0
      . rw[ia c1 c2 c3]
        have l:LQ (3*wb+1) y.2.1:=by
          rcases ha with h|h
          . obtain ⟨e1,e2,_⟩:=h1 h
            rw[e2];exact iZ oM
          . exact (a (c h)).1.mono oM
        refine ⟨Cz e b.1 (fun h=>(a h).1) c u (xl c3),fun i=>?_⟩;have C:=vS (op:=op) (n:=n) e b.1 l B;have p:=xM (op:=op) (n:=n) e b.1 l
        generalize hM:cP op n*(wa+wb)=M at *
        have o:LQ (40*(wb*d)+1) (y.2.2.getD i 0):=by
          by_cases h:1<=wb
          . exact ((a h).2 i).mono oM
          . rcases ha with k|k
            . rw[(h1 k).2.2,dL];exact iZ oM
            . exact absurd (c k) h
        have F:(wa+wb)*d<=M*d:=yG _ z;have k2:(wa+wb)*d=wa*d+wb*d:=Nat.add_mul _ _ _;have D:M*(d+1)=M*d+M:=Nat.mul_succ _ _
        show LQ (40*(M*(d+1))) ((g8 m op n x.2.1 y.2.1 x.2.2 y.2.2).getD i 0)
        unfold g8
        exact j4 (K:=40*(M*(d+1))) (fun j=>by
          have f:=b.2 j
          have o:LQ (40*(wb*d)+1) (y.2.2.getD j 0):=by
            by_cases h:1<=wb
            . exact ((a h).2 j).mono oM
            . rcases ha with k|k
              . rw[(h1 k).2.2,dL];exact iZ oM
              . exact absurd (c k) h
          exact ((C.mul f).add (p.mul o)).mono oM) oM i
      . rw[g7 c1 c2 c3];exact hz
    . rw[jQ c1 c2];exact hz
  . rw[io c1];exact hz
section
variable {ok:ByteArray->Prop}{ix:ByteArray->Nat}{at_:List Rat}
theorem lu (m i j:Nat):LQ 1 ((ck m i).getD j 0):=by
 unfold ck
 by_cases h:i<m
 ·rw[dK (by simpa using h)]
  split
  ·exact LQ.lit (z:=1) kD
  ·rw[dC];exact iZ kD
 ·rw[List.set_eq_of_length_le (by simp;omega),dC];exact iZ kD
theorem iY {d:Nat}{op n:Int}{q:Rat}{s:ByteArray}{a:Tm}(h1:op≠1)(b:op≠2):aA ix at_ (d+1) (.mk op n q s [a])=ml at_.length op n (aA ix at_ d a) (0,0,[]):=by
 show (if op=1 then _ else if op=2 then _ else _)=_
 rw[if_neg h1,if_neg b];rfl
theorem gG {d:Nat}{op n:Int}{q:Rat}{s:ByteArray}{a b:Tm}(h1:op≠1)(c:op≠2):aA ix at_ (d+1) (.mk op n q s [a,b])=ml at_.length op n (aA ix at_ d a) (aA ix at_ d b):=by
 show (if op=1 then _ else if op=2 then _ else _)=_
 rw[if_neg h1,if_neg c];rfl
theorem jE (b:∀ i,LQ 1 (at_.getD i 0)):∀ {d:Nat} {t:Tm},WfT1 ok d t->1<=bu d t/\rH (bu d t) d (aA ix at_ d t)
  | d + 1,.mk op n q s ks,⟨h1,h2,l,h4,h5,h6,f,c,h9⟩=>by
    have p:=aN op;replace h1:fb op=(ks.length:Nat):=h1;replace l:LQ 1 q:=l;replace f : -12<=n:=f;replace c:n<=12:=c
    rcases fd h1 with rfl|⟨t,rfl⟩|⟨t,u,rfl⟩
    . have e:bu (d+1) (.mk op n q s [])=1:=kV rfl
      rw[e];refine ⟨ey _,?_⟩
      simp only[HE] at h1
      by_cases o1:op=1
      . have e2:aA ix at_ (d+1) (.mk op n q s [])=(0,q,yJ at_.length 0):=if_pos o1
        rw[e2];exact ⟨l,fun i=>by show LQ _ ((yJ _ _).getD i 0);rw[dC];exact iZ oM⟩
      . have o:op=2:=by omega
        have e2:aA ix at_ (d+1) (.mk op n q s [])=(0,at_.getD (ix s) 0,ck at_.length (ix s)):=(if_neg o1).trans (if_pos o);rw[e2];exact ⟨b _,fun i=>(lu _ _ i).mono oM⟩
    . obtain ⟨i1,a⟩:=jE b (h9 0 (GD _))
      replace i1:1<=bu d t:=i1;replace a:rH (bu d t) d (aA ix at_ d t):=a
      simp only[yc,HE] at h1
      have e:bu (d+1) (.mk op n q s [t])=cP op n*(bu d t+0):=by rw[fH (show [t].length≠0 from HD _)];show _*(0+bu d t)=_;rw[yF,Nat.add_zero]
      have w1:=cv op n;rw[e,iY oM oM];exact ⟨ez i1 (GU _ w1),pN i1 a (fun h=>absurd h kD) oM (fun _=>⟨rfl,rfl,rfl⟩) oM ⟨f,c⟩ oM⟩
    . obtain ⟨i1,a⟩:=jE b (h9 0 (GD _))
      obtain ⟨j,j2⟩:=jE b (h9 1 (by show 1<2;decide));replace i1:1<=bu d t:=i1;replace a:rH (bu d t) d (aA ix at_ d t):=a;replace j:1<=bu d u:=j;replace j2:rH (bu d u) d (aA ix at_ d u):=j2
      simp only[yc,HE] at h1
      have e:bu (d+1) (.mk op n q s [t,u])=cP op n*(bu d t+bu d u):=by rw[fH (show [t,u].length≠0 from HD _)];show _*(0+bu d t+bu d u)=_;rw[yF]
      have w1:=cv op n;rw[e,gG oM oM];exact ⟨ez oM (GU _ w1),pN i1 a (fun _=>j2) (fun _=>j) oM oM ⟨f,c⟩ oM⟩
theorem xb {m:Nat}{op n:Int}{x y:Int × Rat × List Rat}(h:(ml m op n x y).1=0):(ml m op n x y).2.2.length=m:=by
 by_cases c1:x.1=0
 ·by_cases c2:y.1=0
  ·by_cases c3:bI op n x.2.1 y.2.1=0
   ·rw[ia c1 c2 c3];exact duG_len
   ·rw[g7 c1 c2 c3] at h;exact absurd h c3
  ·rw[jQ c1 c2] at h;exact absurd h c2
 ·rw[io c1] at h;exact absurd h c1
theorem dM:∀ {d:Nat} {t:Tm},WfT1 ok d t->(aA ix at_ d t).1=0->(aA ix at_ d t).2.2.length=at_.length
  | d + 1,t,_,h=>by
    by_cases o1:t.op=1
    . have e:aA ix at_ (d+1) t=(0,t.q,yJ at_.length 0):=if_pos o1
      rw[e];exact HK
    . by_cases o2:t.op=2
      . have e:aA ix at_ (d+1) t=(0,at_.getD (ix t.s) 0,ck at_.length (ix t.s)):=(if_neg o1).trans (if_pos o2)
        rw[e];unfold ck;simp
      . have e:aA ix at_ (d+1) t=ml at_.length t.op t.n _ _:=(if_neg o1).trans (if_neg o2)
        rw[e] at h ⊢;exact xb h
end
structure Whole (lo:Nat) (h:Hp) (b:Nat) (ty:TypeId) (vs:List Value):Prop where
  lo:lo<=b
  ty0:(ty == 0)=false
  at_:h[b]?=some (.cells vs.toArray ty (0,0))
structure Poked (h h':Hp) (b:Nat):Prop where
  oth:∀ c,c≠b->c<h.size->h'[c]?=h[c]?
section laws
variable {M:Ms}{P:Program}{n:Nat}{N R:Po}{X:Nat->Po}{ops:Array Oper}{k k0:Nat}{hr:Hp}{AL:List Al}{L:Array Bool}{Γ:bO}{w:World}{h:Hp}{w0:World}{h0:Hp}{B:List Bx}{Rs:List Rw}{F:List (Hp->Prop)}
theorem EL (t:Nat)(ty:TypeId)(vs:List Value)(s:SS w0 h0 w h B Rs F)(H:∀ b w' a,Up w h w' a->h.size<=b->SS w0 h0 w' a (⟨b,ty,vs⟩::B) Rs F->LG P n N R X ops (k+1) ((t,.pointer (some ⟨b,0,none⟩))::Γ) w')(d:cL ops Γ k t n=true:=by kernel_rfl)
  (hr:(execOp (ev Γ) (ak ops k)).run P w=.ok (.value (.pointer (some ⟨w.heap.size,0,none⟩))) (w.alloc (.cells vs.toArray ty (0,0))):=by kernel_rfl):LG P n N R X ops k Γ w :=
 LG.var t ty vs s.st (bF d).1 (bF d).2 hr (fun b w' a c u e=>H b w' a u c (s.new u c e))
theorem UpM.put2 {M2:List Nat}{wa w':World}{ha:Hp}{b:Nat}(u:UpM M2 wa ha w h)(p:Put b w w')(f:ha.size<=b)(ga:G wa ha)(g:G w' h):UpM M2 wa ha w' h :=
 ⟨⟨p.os.trans u.mo.os,p.tape.trans u.mo.tape,p.output.trans u.mo.output,by rw[p.size];exact u.mo.size,fun c d a=>(p.blk c (fun e=>by subst e;have:=ga.size;omega)).trans (u.mo.blk c d a)⟩,u.gr,g⟩
end laws
theorem SS.takeL {w0:World}{h0:Hp}{w:World}{h:Hp}{B:List Bx}{F:List (Hp->Prop)}(s:SS w0 h0 w h B [] F){b:Nat}{ty:TypeId}{vs:List Value}(u:h0.size<=b)(d:h[b]?=some (.cells vs.toArray ty (0,0)))(i:(ty == 0)=false:=by kernel_rfl) :
  ∃ l,SS w0 h0 w l (⟨b,ty,vs⟩::B) [] []:=by
 have f:=aE d
 have o:h[b]?≠some a6:=fun e=>by
  rw[e] at d
  injection d with d
  unfold a6 at d
  injection d with h1 h2 h3
  rw[<-h2] at i
  cases i
 have z:G w (h.setIfInBounds b a6):=⟨by simp;exact s.g.size,fun c=>by
  by_cases e:b=c
  ·subst e;right;rw[yT f]
  ·rw[i2 e];exact s.g.blk c⟩
 have C:Gr h0 (h.setIfInBounds b a6):=⟨by simp;exact s.st.up.gr.size,fun c j=>by rw[i2 oM];exact s.st.up.gr.blk c j⟩
 have y:Own w b ty vs:=by
  rcases s.g.blk b with e|e
  ·exact e.symm.trans d
  ·exact absurd e o
 refine ⟨h.setIfInBounds b a6,s.g0,⟨⟨s.st.up.ext,C,z⟩,?_,?_,?_,?_⟩,fun _ a=>(by cases a),.nil,fun _ a=>(by cases a),trivial⟩
 ·intro x a
  rcases g3.1 a with rfl|a
  ·exact y
  ·exact s.st.own x a
 ·intro x a
  rcases g3.1 a with rfl|a
  ·exact yT f
  ·by_cases e:b=x.b
   ·rw[<-e];exact yT f
   ·rw[i2 e];exact s.st.jk x a
 ·intro x a
  rcases g3.1 a with rfl|a
  ·exact u
  ·exact s.st.lo x a
 ·show (b::B.map (·.b)).Nodup
  refine List.nodup_cons.2 ⟨fun p=>?_,s.st.nd⟩;obtain ⟨x,a,e⟩:=g1.1 p;exact o (e▸s.st.jk x a)
def tr (nm:Int->ByteArray)(l:List Stp)(i:Nat):Tm:=CZ nm l (l.length+1) i
structure DpS (dp:Nat->Nat) (l:List Stp):Prop where
  one:∀ k,k<l.length->1<=dp k
  le:∀ k,k<l.length->dp k<=20
  a:∀ k,k<l.length->0<fb (l.getD k dE).op->dp (l.getD k dE).a.toNat<dp k
  b:∀ k,k<l.length->1<fb (l.getD k dE).op->dp (l.getD k dE).b.toNat<dp k
section
variable {nm:Int->ByteArray}{l:List Stp}{inp:Int}{dp:Nat->Nat}
theorem kh {f g:Nat->Nat}:∀ n,(∀ i,i<n->f i=g i)->dl f n=dl g n
 | 0,_=>rfl
 | n+1,h=>by show dl f n+f n=dl g n+g n;rw[kh n (fun i hi=>h i oM),h n (HL n)]
theorem jD {ok:ByteArray->Prop}:∀ {d e:Nat} {t:Tm},WfT1 ok d t->d<=e->bu e t=bu d t
  | d+1,e+1,t,w,h=>by
    unfold bu
    rw[kh t.ks.length (fun i hi=>jD (w.2.2.2.2.2.2.2.2 i hi) (Nat.le_of_succ_le_succ h))]
end
def iC:Nat->Tm->Nat
  | 0,_=>0
  | d+1,t=>1+dl (fun i=>iC d (t.ks.getD i bZ)) t.ks.length
def fS:Nat->Tm->ByteArray->Prop
  | 0,_,_=>False
  | d+1,t,s=>(t.op=2/\s=t.s)\/∃ i,i<t.ks.length/\fS d (t.ks.getD i bZ) s
def HasK (d:Nat)(ks:List Tm)(k:Nat)(s:ByteArray):Prop:=∃ i,i<k/\fS d (ks.getD i bZ) s
theorem HasK.zero {d:Nat}{ks:List Tm}{s:ByteArray}:¬HasK d ks 0 s:=fun ⟨i,h,_⟩=>absurd h (HA i)
theorem HasK.succ {d:Nat}{ks:List Tm}{k:Nat}{s:ByteArray}:HasK d ks (k+1) s↔HasK d ks k s\/fS d (ks.getD k bZ) s:=by
 constructor
 ·rintro ⟨i,hi,h⟩
  by_cases e:i=k
  ·subst e;exact .inr h
  ·exact .inl ⟨i,by omega,h⟩
 ·rintro (⟨i,hi,h⟩|h)
  ·exact ⟨i,by omega,h⟩
  ·exact ⟨k,by omega,h⟩
theorem WfT1.names {ok p:ByteArray->Prop}:∀ {d:Nat} {t:Tm},WfT1 ok d t->(∀ s,fS d t s->p s)->WfT1 (fun s=>ok s/\p s) d t
 | d+1,t,⟨h1,h2,h3,h4,h5,h6,h7,h8,h9⟩,h=>⟨h1,h2,h3,fun e=>⟨h4 e,h _ (.inl ⟨e,rfl⟩)⟩,h5,h6,h7,h8,fun i hi=>WfT1.names (h9 i hi) (fun s a=>h s (.inr ⟨i,hi,a⟩))⟩
theorem oI {ok:ByteArray->Prop}:∀ {d:Nat} {t:Tm} {s:ByteArray},WfT1 ok d t->fS d t s->ok s
 | d+1,t,s,w,.inl ⟨h1,h2⟩=>by rw[h2];exact w.2.2.2.1 h1
 | d+1,t,s,w,.inr ⟨i,hi,h⟩=>oI (w.2.2.2.2.2.2.2.2 i hi) h
theorem WfT1.imp {ok p:ByteArray->Prop}(f:∀ s,ok s->p s):∀ {d:Nat} {t:Tm},WfT1 ok d t->WfT1 p d t
 | d+1,t,⟨h1,h2,h3,h4,h5,h6,h7,h8,h9⟩=>⟨h1,h2,h3,fun e=>f _ (h4 e),h5,h6,h7,h8,fun i hi=>WfT1.imp f (h9 i hi)⟩
theorem WfT1.two {ok:ByteArray->Prop}{d:Nat}{t:Tm}(h:WfT1 ok (d+1) t):t.ks.length<=2:=by
 have:=h.1;have:=aN t.op
 omega
theorem pe {f:Nat->Nat}{b:Nat}:∀ n,(∀ i,i<n->f i<=b)->dl f n<=n*b
  | 0,_=>by simp[dl]
  | n+1,h=>by
    have h1:=pe n (fun i hi=>h i oM);have a:=h n (HL n)
    show dl f n+f n<=_
    rw[Nat.succ_mul];omega
theorem sl {ok:ByteArray->Prop}:∀ {d:Nat} {t:Tm},WfT1 ok d t->iC d t+1<=2^d
  | d+1,t,w=>by
    have a:=w.two;have h:=pe (f:=fun i=>iC d (t.ks.getD i bZ)) (b:=2^d-1) t.ks.length (fun i hi=>by have:=sl (w.2.2.2.2.2.2.2.2 i hi);show iC d _<=_;omega);have e:0<2^d:=Nat.two_pow_pos d;have c:t.ks.length*(2^d-1)<=2*(2^d-1):=yG _ a
    show 1+dl _ _+1<=2^(d+1)
    rw[Nat.pow_succ];omega
structure RecOk (nm:Int->ByteArray) (inp:Int) (d:Nat) (l:List Stp) (l2:List Stp) (n:Nat) (t:Tm):Prop where
  lq:(∀ i,LQ 1 (l.getD i dE).q)->∀ i,LQ 1 (l2.getD i dE).q
  dps:∀ dp,DpS dp l->∃ dp',DpS dp' l2/\(∀ k,k<l.length->dp' k=dp k)/\dp' (l2.length-1)<=d
  pre:∃ m,l2=l++m
  len:l2.length=l.length+n
  pos:0<n
  fm:∀ k,k<l2.length->mm inp k (l2.getD k dE)
  tr:∀ f,l2.length<=f->CZ nm l2 f (l2.length-1)=t
structure AllOk (nm:Int->ByteArray) (inp:Int) (d:Nat) (ts:List Tm) (k:Nat) (l:List Stp) (os:List Int) (c:Nat):Prop where
  len:l.length=c
  fm:∀ k,k<l.length->mm inp k (l.getD k dE)
  lq:∀ i,LQ 1 (l.getD i dE).q
  dps:∃ dp,DpS dp l
  out:∀ j,j<k->0<=os.getD j 0/\os.getD j 0<(l.length:Nat)/\CZ nm l (l.length+1) (os.getD j 0).toNat=ts.getD j bZ
open Go.RowKit Go.WideMaps
structure MapI (P:Program) (kt:TypeId) (Q:Value->Prop) (w1:World) (h1:Hp) (b:Nat):Prop where
  jk:h1[b]?=some a6
  ex:∃ es clk,w1.heap[b]?=some (.map es clk)/\∀ e∈es.toList,(∃ l,keyOf P kt e.key=some l)/\Q e.val
section laws
variable {P:Program}{n:Nat}{N R:Po}{X:Nat->Po}{ops:Array Oper}{k:Nat}{Γ:bO}{w:World}{h:Hp}{w0 w1:World}{h0 h1:Hp}{B:List Bx}{Rs:List Rw}{F:List (Hp->Prop)}
theorem SS.base (s:SS w1 h1 w h B Rs F){b:Nat}{o:Obj}(u:h1[b]?=some a6)(D:b<w1.heap.size) :
  SS { w1 with heap:=w1.heap.setIfInBounds b o } h1 { w with heap:=w.heap.setIfInBounds b o } h B Rs F/\G { w1 with heap:=w1.heap.setIfInBounds b o } h1:=by
 have y:b<h1.size:=aE u;have l:h[b]?=some a6:=(s.st.up.gr.blk b y).trans u;have p:b<w.heap.size:=by rw[s.g.size];exact aE l
 have set:∀ (w:World) c,c≠b->({ w with heap:=w.heap.setIfInBounds b o }:World).heap[c]?=w.heap[c]?:=fun w c d=>by show (w.heap.setIfInBounds b o)[c]?=_;rw[i2 (Ne.symm d)]
 have a:∀ (w:World),b<w.heap.size->({ w with heap:=w.heap.setIfInBounds b o }:World).heap[b]?=some o:=fun w H=>by show (w.heap.setIfInBounds b o)[b]?=_;rw[yT H]
 have C:∀ (w:World) (h:Hp),G w h->h[b]?=some a6->G { w with heap:=w.heap.setIfInBounds b o } h:=fun w h g j=>⟨by show (w.heap.setIfInBounds b o).size=_;rw[HM];exact g.size,fun c=>by
  by_cases e:c=b
  ·subst e;exact .inr j
  ·rw[set w c e];exact g.blk c⟩
 have i:=C w1 h1 s.g0 u;refine ⟨⟨i,⟨⟨?_,s.st.up.gr,C w h s.g l⟩,fun x z=>?_,s.st.jk,s.st.lo,s.st.nd⟩,fun r hr=>?_,s.ap,s.mo,s.f⟩,i⟩
 ·have e:=s.st.up.ext
  refine ⟨e.os,e.tape,e.output,?_,fun c d=>?_⟩
  ·show (w1.heap.setIfInBounds b o).size<=(w.heap.setIfInBounds b o).size
   rw[HM,HM];exact e.size
  ·by_cases q:c=b
   ·subst q;rw[a w p,a w1 D]
   ·rw[set w c q,set w1 c q];exact e.block c (by have:c<(w1.heap.setIfInBounds b o).size:=d;rw[HM] at this;exact this)
 ·have:x.b≠b:=fun e=>by have:=s.st.lo x z;omega
  exact (set w x.b this).trans (s.st.own x z)
 ·have q:=s.ro r hr
  refine ⟨dD q.own (fun c d=>set w c (fun e=>?_)),q.jk,q.ap⟩;subst e
  rcases q.own with ⟨_,e2|⟨g,cap,cur,hv,hb',_⟩⟩
  ·rw[e2.1] at d;simp[Value.ownBlock] at d
  ·rw[hv] at d
   simp[Value.ownBlock] at d
   omega
end laws
structure Dif (M:List Nat) (w w0:World):Prop where
  mo:Mo M w w0
  sz:w0.heap.size=w.heap.size
def eM (ss:List ByteArray):List MapEntry:=ss.zipIdx.map fun p=>⟨.string p.1,.bool true,p.2⟩
theorem uY (a:List ByteArray)(s:ByteArray):eM (a++[s])=eM a++[⟨.string s,.bool true,a.length⟩]:=by
 unfold eM;rw[List.zipIdx_append,List.map_append];simp
theorem oL {a:List ByteArray}{j:Nat}{e:MapEntry}(h:(eM a)[j]?=some e):∃ s,a[j]?=some s/\e=⟨.string s,.bool true,j⟩:=by
 unfold eM at h
 rw[Ga,HN] at h
 cases b:a[j]? with
 | none=>rw[b] at h;simp at h
 | some s=>rw[b] at h;simp at h;exact ⟨s,rfl,h.symm⟩
theorem mt {a:List ByteArray}{e:MapEntry}(h:e∈eM a):∃ j s,a[j]?=some s/\e=⟨.string s,.bool true,j⟩:=by
 obtain ⟨j,c⟩:=HO.1 h;obtain ⟨s,h1,b⟩:=oL c;exact ⟨j,s,h1,b⟩
theorem wL {a:List ByteArray}{s:ByteArray}(h:s∈a):∃ e∈eM a,e.key=.string s:=by
 obtain ⟨j,b⟩:=HO.1 h;refine ⟨⟨.string s,.bool true,j⟩,?_,rfl⟩
 unfold eM
 refine g1.2 ⟨(s,j),?_,rfl⟩;rw[HO];exact ⟨j,by rw[HN,b];simp⟩
theorem sY (a:List ByteArray)(s:ByteArray):(Instr.findNow .string (.string s) (eM a) 0=some none/\s ∉ a)\/∃ j,Instr.findNow .string (.string s) (eM a) 0=some (some (j,.bool true))/\a[j]?=some s:=by
 rcases MapKept.findNow_spec (d:=.string) (k:=.string s) (by simp[MapKept.IsKey]) (eM a) 0 (fun x c=>by obtain ⟨_,_,_,rfl⟩:=mt c;simp[MapKept.IsKey]) with ⟨h1,h2⟩|⟨j,e,h1,h2,h3⟩
 ·refine .inl ⟨h1,fun b=>?_⟩
  obtain ⟨e,f,hk⟩:=wL b;exact h2 e f hk
 ·obtain ⟨i,h,rfl⟩:=oL h2
  injection h3 with h3
  subst h3;exact .inr ⟨j,by rw[h1,yF],h⟩
structure MapK (w:World) (h:Hp) (b:Nat) (ss:List ByteArray):Prop where
  jk:h[b]?=some a6
  ob:w.heap[b]?=some (.map (eM ss).toArray ss.length)
  nd:ss.Nodup
section laws
variable {P:Program}{n:Nat}{N R:Po}{X:Nat->Po}{ops:Array Oper}{k:Nat}{Γ:bO}{w:World}{h:Hp}{w1:World}{h1:Hp}{B:List Bx}{Rs:List Rw}{F:List (Hp->Prop)}
theorem SS.atK (s:SS w1 h1 w h B Rs F){b:Nat}{a:List ByteArray}(m:MapK w1 h1 b a):w.heap[b]?=some (.map (eM a).toArray a.length) :=
 (s.st.up.ext.block b (by rw[s.g0.size];exact aE m.jk)).trans m.ob
theorem lc {b:Nat}{o:Obj}(a:G { w1 with heap:=w1.heap.setIfInBounds b o } h1):UpM [b] w1 h1 { w1 with heap:=w1.heap.setIfInBounds b o } h1 :=
 ⟨⟨rfl,rfl,rfl,by show _<=(w1.heap.setIfInBounds b o).size;rw[HM];exact ey _,fun c _ d=>by
  show (w1.heap.setIfInBounds b o)[c]?=_
  rw[i2 (fun e=>d (ul.2 e.symm))]⟩,Gr.refl _,a⟩
theorem Fs {mty kt et:TypeId}{b:Nat}{d:List ByteArray}(ky:ByteArray)(s:SS w1 h1 w h B Rs F)(m:MapK w1 h1 b d)
    (H:∀ w1' w' ss2,SS w1' h1 w' h B Rs F->MapK w1' h1 b ss2->(∀ x,x∈ss2↔x∈d\/x=ky)->ss2.length<=d.length+1->UpM [b] w1 h1 w1' h1->LG P n N R X ops (k+1) Γ w')
    (l:cS ops Γ k=true:=by kernel_rfl)(C:execOp (ev Γ) (ak ops k)=(do Instr.mapUpdate mty (.map (some b)) (.string ky) (.bool true);pure .skip):=by kernel_rfl)(D:P.underlying mty=some (.map kt et):=by kernel_rfl)(hk:P.underlying kt=some .string:=by kernel_rfl):LG P n N R X ops k Γ w:=by
  have z:=s.atK m;have f:b<w1.heap.size:=(hO.1 m.ob).1
  rcases sY d ky with ⟨hf,hn⟩|⟨j,hf,hj⟩
  . have hr:=pz w (val:=.bool true) D hk z hf
    obtain ⟨u,y⟩:=s.base (o:=.map ((eM d).toArray.push ⟨.string ky,.bool true,d.length⟩) (d.length+1)) m.jk f;refine LG.store _ (gm l).1 (gm l).2 ?_ (H _ _ (d++[ky]) u ⟨m.jk,?_,?_⟩ (fun x=>by simp) (by simp) (lc y))
    . rw[C];simp[hr,Result.andThen]
    . show (w1.heap.setIfInBounds b _)[b]?=_
      rw[yT f,uY];simp
    . exact List.nodup_append.2 ⟨m.nd,by simp,fun a ha c l e=>hn (by rw[ul] at l;rw[<-l,<-e];exact ha)⟩
  . have I:j<d.length:=(List.getElem?_eq_some_iff.1 hj).1
    have p:(eM d)[j]?=some ⟨.string ky,.bool true,j⟩:=by
      unfold eM;rw[Ga,HN,hj];simp
    have hr:=mH w (val:=.bool true) D hk z hf (by simp[p])
    have J:((eM d).toArray.modify j fun e=>{ e with key:=.string ky,val:=.bool true })=(eM d).toArray:=by
      apply Array.ext_getElem?
      intro i;rw[Array.getElem?_modify]
      by_cases e:j=i
      . subst e
        rw[if_pos rfl]
        simp[p]
      . rw[if_neg e]
    rw[J] at hr
    obtain ⟨u,y⟩:=s.base (o:=.map (eM d).toArray d.length) m.jk f;refine LG.store _ (gm l).1 (gm l).2 ?_ (H _ _ d u ⟨m.jk,?_,m.nd⟩ (fun x=>⟨.inl,fun h=>h.elim id fun e=>by rw[e];exact HO.2 ⟨j,hj⟩⟩) (Nat.le_succ _) (lc y))
    . rw[C];simp[hr,Result.andThen]
    . show (w1.heap.setIfInBounds b _)[b]?=_
      rw[yT f]
theorem SS.baseK (s:SS w1 h1 w h B Rs F){b:Nat}{J a:List ByteArray}(m:MapK w1 h1 b J){w':World}{C:Hp}(u:UpM [b] w h w' C)(K:w'.heap[b]?=some (.map (eM a).toArray a.length))(O:a.Nodup):∃ l,SS l h1 w' C B Rs F/\MapK l h1 b a/\UpM [b] w1 h1 l h1:=by
 have p:b<w1.heap.size:=(hO.1 m.ob).1;have M:=aE m.jk;obtain ⟨Q,H⟩:=s.base (o:=.map (eM a).toArray a.length) m.jk p;have y:({ w1 with heap:=w1.heap.setIfInBounds b (.map (eM a).toArray a.length) }:World).heap.size=w1.heap.size:=by simp
 have i:∀ c,c<w.heap.size->c≠b->w'.heap[c]?=w.heap[c]?:=fun c d L=>u.mo.blk c d (fun I=>L (ul.1 I))
 have e:=s.st.up.ext;have z:∀ x∈B,x.b≠b:=fun x j e=>by have:=s.st.lo x j;omega
 refine ⟨_,⟨H,⟨⟨⟨u.mo.os.trans e.os,u.mo.tape.trans e.tape,u.mo.output.trans e.output,by rw[y];exact ez e.size u.mo.size,fun c d=>?_⟩,s.st.up.gr.trans u.gr,u.g⟩,fun x j=>?_,fun x j=>?_,s.st.lo,s.st.nd⟩,fun r hr=>⟨dD (s.ro r hr).own (fun c d=>?_),fun c d=>(u.gr.blk c ((s.ro r hr).lt d)).trans ((s.ro r hr).jk c d),(s.ro r hr).ap⟩,s.ap,s.mo,s.f.gw s.mo u.gr.gw⟩,⟨m.jk,by show (w1.heap.setIfInBounds b _)[b]?=_;rw[yT p],O⟩,lc H⟩
 ·rw[y] at d
  by_cases q:c=b
  ·subst q
   rw[K]
   show _=(w1.heap.setIfInBounds c _)[c]?
   rw[yT p]
  ·rw[i c (Nat.lt_of_lt_of_le d e.size) q]
   show _=(w1.heap.setIfInBounds b _)[c]?
   rw[i2 (Ne.symm q)];exact e.block c d
 ·have D:=s.st.own x j
  exact (i x.b D.lt (z x j)).trans D
 ·rw[u.gr.blk _ (aE (s.st.jk x j))];exact s.st.jk x j
 ·refine i c (iP (s.ro r hr).own d) (fun e=>?_)
  subst e;have q:=(s.ro r hr).own
  rcases q with ⟨_,e2|⟨g,cap,cur,hv,hb',_⟩⟩
  ·rw[e2.1] at d;simp[Value.ownBlock] at d
  ·rw[hv] at d;simp[Value.ownBlock] at d;omega
end laws
theorem tj  (ok:ByteArray->Prop)(d:Nat)(ih:∀ (p:PTm) (t:Tm) (b:Nat) (z:List ByteArray) (w:World) (h:Hp),G w h->TmH d h p t->WfT1 ok d t->MapK w h b z->Calls Tryz.prog 93 #[az p,.map (some b)] w (dr b w h (fun v w1 _=>v=.tuple #[]/\∃ u:List ByteArray,w1.heap[b]?=some (.map (eM u).toArray u.length)/\u.Nodup/\(∀ x,x∈u↔x∈z\/fS d t x)/\u.length<=z.length+iC d t)))(op n:Int)(q:Rat)(s:ByteArray)(A:Z9)(c:Nat)(ps:List PTm)(ks:List Tm)(hc:ps.length<=c)(hlp:ps.length<=2)(bk:fb op=(ks.length:Nat))(hq0:op≠1->q=0)(hq:LQ 1 q)(hok:op=2->ok s)(hs0:op≠2->s=⟨#[]⟩)(hn0:op≠8->n=0)(hn1 : -12<=n)(hn2:n<=12)(hW:∀ i,i<ks.length->WfT1 ok d (ks.getD i bZ))(b:Nat)(z:List ByteArray)(w:World)(h:Hp)(g:G w h)(hK:SlO 9 be aZ h A ps)(hKs:Tms d h ps ks)(e:MapK w h b z):Calls Tryz.prog 93 #[az ⟨op,n,q,s,A,ps.length,c⟩,.map (some b)] w (dr b w h (fun v w1 _=>v=.tuple #[]/\∃ u:List ByteArray,w1.heap[b]?=some (.map (eM u).toArray u.length)/\u.Nodup/\(∀ x,x∈u↔x∈z\/fS (d+1) (.mk op n q s ks) x)/\u.length<=z.length+iC (d+1) (.mk op n q s ks))):=by
 have l:UpM [b] w h w h:=UpM.refl g;have a:SS w h w h [] [] []:=sS g;replace a:=((a.aS hK).add (K:=fun j=>Tms d j ps ks) hKs);have hln:=(a.f.1).len;refine go Tryz.func93 [(0,az ⟨op,n,q,s,A,ps.length,c⟩),(1,.map (some b))] rfl (aD (lA 2 42 (be ⟨op,n,q,s,A,ps.length,c⟩) a (fun F w2 h3 a=>?_)));refine lN (CG.join (fun Γ w_=>∃ (y:World)(C:List ByteArray)(j:Hp),Γ=[(1,.map (some b)),(2,pB F)]/\SS y h w_ j [⟨F,42,be ⟨op,n,q,s,A,ps.length,c⟩⟩] [] [fun j=>Tms d j ps ks,fun j=>SlO 9 be aZ j A ps]/\MapK y h b C/\UpM [b] w h y h/\(∀ x,x∈C↔x∈z\/(op=2/\x=s))/\C.length<=z.length+1) ?_ ?_)
 .
  refine aa a [.v (pB F),.o (iV op) 0 0 1] ?_;cases B:((op:Int) == (2:Int))
  .
   have O:=aq B;refine lB 8 B (aj (CG.skip ?_));intro a_ L;exact ⟨_,⟨w,z,h3,rfl,a.to _ _,e,l,(fun x=>⟨fun j=>.inl j,fun j=>j.elim id (fun V=>absurd V.1 oM)⟩),oM⟩,L.to _ kR⟩
  have O:=eq_of_beq B;refine lB 8 B (ar (kQ (lL a [.c,.v (qP F 7),.o (.string s) 0 7 1] (Fs (mty:=158) (kt:=9) (et:=4) (s) a e (fun w9 _ U a e D M W=>?_)))));replace l:=l.trans W
  clear W
  refine lD ?_;intro a_ L;exact ⟨_,⟨w9,U,h3,rfl,a.to _ _,e,l,(fun x=>(D x).trans ⟨fun j=>j.imp id fun V=>⟨by omega,V⟩,fun j=>j.imp id fun V=>V.2⟩),oM⟩,L.to _ kR⟩
 rintro _ _ ⟨y,C,zc,rfl,a,e,l,hs1,hl1⟩;refine aa a [.v (qP F 8),.o (qS A ps.length c) 0 8 1,.v (nV ps.length),.c] (ba ?_);refine bS _ (CG.loop (fun μ_ Γ w_=>∃ (y:World)(k:Nat)(sk:List ByteArray)(j:Hp),μ_=ps.length-k/\Γ=[(1,.map (some b)),(13,qS A ps.length c),(14,nV ps.length),(15,nV k)]/\SS y h w_ j [⟨F,42,be ⟨op,n,q,s,A,ps.length,c⟩⟩] [] [fun j=>Tms d j ps ks,fun j=>SlO 9 be aZ j A ps]/\MapK y h b sk/\UpM [b] w h y h/\k<=ps.length/\(∀ x,x∈sk↔x∈C\/HasK d ks k x)/\sk.length<=C.length+(dl (fun i=>iC d (ks.getD i bZ)) k)) _ ⟨y,0,C,zc,rfl,rfl,a.to _ _,e,l,GA _,(fun x=>⟨.inl,fun j=>j.elim id (fun j=>absurd j HasK.zero)⟩),nR _⟩ ?_);rintro _ _ _ ⟨y,k,sk,_,bb,rfl,a,e,l,hk,I,bf⟩;have bd:(dl (fun i=>iC d (ks.getD i bZ)) (k+1))=(dl (fun i=>iC d (ks.getD i bZ)) k)+iC d (ks.getD k bZ):=rfl;refine aD ?_;cases X:(decide ((k:Int)<(ps.length:Int)))
 .
  have zb:=oF X;refine lB 16 X (af (cG (CG.exit ?_)));have H:k=ks.length:=by omega
  have Y:iC (d+1) (.mk op n q s ks)=1+(dl (fun i=>iC d (ks.getD i bZ)) ks.length):=rfl;exact a.retM (l.trans (a.st.up.m _)) [] (.tuple #[]) ⟨rfl,sk,a.atK e,e.nd,fun x=>by rw[I x,hs1 x,H,or_assoc];exact Iff.rfl,by rw[Y,<-H];omega⟩
 have zb:=oT X;refine lB 16 X (af (bY (cK (cQ (kZ (aD (lX 17 A ps.length c 9 (k:Nat) k ((a.f.2.1).ok oM) ?_)))))));refine lH 18 (az (ps.getD k aZ)) a ((a.f.2.1).el k oM) (lA 5 42 ca a (fun b22 _ _ a=>lP 0 0 (be (ps.getD k aZ)) a (fun _ a=>lN (kQ (lL a [.o (az (ps.getD k aZ)) 0 0 9,.c] (eD 21 (ih (ps.getD k aZ) (ks.getD k bZ) b sk _ _ a.g ((a.f.1).at_ k oM) (hW k oM) ⟨(a.st.up.gr.blk _ (aE e.jk)).trans e.jk,a.atK e,e.nd⟩) ?_))))));rintro _ _ zd Z ⟨rfl,Q,S,J,D,M⟩;obtain ⟨ze,a,e,W⟩:=a.baseK e Z S J;replace l:=l.trans W
 clear W S J
 refine lN (kQ (bA 22 ((k:Nat)+1) (k+1) ?_));refine lL a ac (lD ?_);intro a_ L;replace a:=a.drop 1 0;refine ⟨_,_,?_,⟨ze,k+1,Q,zd,rfl,rfl,a.to _ _,e,l,oM,(fun x=>(D x).trans (by rw[I x,or_assoc,<-HasK.succ])),oM⟩,L.to _ kR⟩
 omega
theorem p6 (ok:ByteArray->Prop):∀ (d:Nat) (p:PTm) (t:Tm) (b:Nat) (e:List ByteArray) (w:World) (h:Hp),G w h->TmH d h p t->WfT1 ok d t->MapK w h b e->Calls Tryz.prog 93 #[az p,.map (some b)] w (dr b w h (fun v w1 _=>v=.tuple #[]/\∃ a:List ByteArray,w1.heap[b]?=some (.map (eM a).toArray a.length)/\a.Nodup/\(∀ x,x∈a↔x∈e\/fS d t x)/\a.length<=e.length+iC d t))
  | 0,_,_,_,_,_,_,_,x,_,_=>x.elim
  | d+1,p,t,b,e,w,h,g,x,wf,hmk=>by
    obtain ⟨op,n,q,s,A,c,ps,ks,rfl,rfl,o,y,f⟩:=x.open;have i:=wf.two;obtain ⟨w1,w2,w3,j,B,l,z,u,C⟩:=wf;exact tj ok d (fun p t b e w h=>p6 ok d p t b e w h) op n q s A c ps ks o (by have:=f.len;exact this▸i) w1 w2 w3 j B l z u C b e w h g y f hmk
section laws
variable {M:Ms}{P:Program}{ops:Array Oper}{Q:Exit->Act->World->Prop}{k0:Nat}
structure Waits (ops:Array Oper) (k0 i:Nat) (late:List Nat):Prop where
  ev:∀ u∈late,∃ ou,ops[u]?=some ou/\∃ e∈ou.after,Region.binds .any e=true/\(e.on=i\/e.on∈late)
  tl:∀ j oj,ops[j]?=some oj->k0<=j->j∈late
end laws
theorem fC (a:Rat):dx a a=0:=by unfold dx dJ;rw[if_neg oM,if_neg oM]
abbrev iy (q:Rat)(A:Z9)(m c:Nat):Value:=.agg #[.bool (aw q.num),.int .u64 (lo (ab q.num)),.string (hi (ab q.num)),.int .u64 (lo (qd q)),.string (hi (qd q)),.slice A m c]
def da (f:Nat->Rat)(m k:Nat):List Rat:=(ov m).map fun i=>if i<k then f i else 0
theorem gd (f:Nat->Rat)(m:Nat):yJ m (0:Rat)=da f m 0:=by
 unfold da
 refine hJ (by simp) fun i=>?_
 by_cases hi:i<m
 ·simp[hi]
 ·rw[cY (by simp;omega),cY (by simp;omega)]
theorem d7 {f:Nat->Rat}{m k:Nat}(hk:k<m):(da f m k).set k (f k)=da f m (k+1):=by
 unfold da
 refine hJ (by simp) fun i=>?_
 by_cases hi:i<m
 ·rw[dK (by simpa using hk)]
  by_cases e:i=k
  ·subst e;simp[hi]
  ·rw[if_neg e];simp[hi]
   by_cases h2:i<k
   ·rw[if_pos h2,if_pos oM]
   ·rw[if_neg h2,if_neg oM]
 ·rw[cY (by simp;omega),cY (by simp;omega)]
theorem fa (f:Nat->Rat)(m:Nat):((ov m).map fun i=>f i).length=m:=by simp
theorem uh (m i:Nat):(ck m i).length=m:=by unfold ck;simp
theorem d4 (f:Nat->Rat)(m:Nat):da f m m=(ov m).map fun i=>f i:=by
 unfold da
 refine HF fun i hi=>?_
 rw[if_pos (o0.1 hi)]
theorem ir (e:Z9)(m i:Nat)(D:m<=1000)(q:Rat)(hk:Hp)(w:World)(h:Hp)(g:G w h)(hz:hk.size<=h.size):CR 252 #[.agg #[.slice e m i],qv q] w h (fun v h1=>∃ z,v=iy q (sB z) m m/\Nw hk.size h1 z 39 ((yJ m (0:Rat)).flatMap qc)):=by
 have a:=sS g;refine go Tryz.func252 [(0,.agg #[qS e m i]),(1,qv q)] rfl (aD (lA 2 73 ([qS e m i]) a (fun x w2 F a=>lA 3 39 (qc q) a (fun B K J a=>lA 4 54 ([qF,uV 0,eS,uV 0,eS,sZ]) a (fun C H I a=>af (cR 6 [] mixed a am ?_))))));refine eO 0 5 [(1,0,5)] (qv q) a (eV 1 6 (pB x) (eO 2 7 [(2,0,1)] (qS e m i) a (eV 3 8 (nV m) (eK 4 9 39 m 5 56 ci qc 0 a (fun j _ _ a=>?_)))));have y:(yJ m 0).length=m:=by simp
 refine eV 5 10 (qY q (sB j) m m) (bW a (fun _ _ a=>tP 6 1 0 (qZ q (sB j) m m) a (fun _ a=>tN (kX ?_))));obtain ⟨_,a,u,c,p⟩:=a.pub 0;replace a:=(a.to [⟨C,54,qZ q (sB j) m m⟩,⟨B,39,qc q⟩,⟨x,73,[qS e m i]⟩] []).aS (SlO.of_flat (sz:=5) (f:=qc) (d:=0) (b:=j) (o:=0) (l:=yJ m 0) (fun _=>rfl) u);exact a.ret [(0,0,6)] (qY q (sB j) m m) (⟨_,rfl,ez hz c,by decide,p⟩)
theorem fR (a:Z9)(m c:Nat)(j:m<=1000)(q:Rat)(w:World)(h:Hp)(g:G w h):Calls Tryz.prog 252 #[.agg #[.slice a m c],qv q] w (Ret w h (fun v h1=>∃ i,v=iy (q) (sB i) (yJ m (0:Rat)).length m/\Sq (sB i) (yJ m (0:Rat)) h1)) :=
 (ir a m c j q h w h g (nR _)).mono fun e w' ⟨v,p,e1,u,b,e2,n⟩=>⟨v,p,e1,u,b,by rw[e2,HK],SlO.of_flat (sz:=5) (f:=qc) (d:=0) (b:=b) (o:=0) (l:=yJ m (0:Rat)) (fun _=>rfl) n.seg0⟩
theorem Bw (x:Z9)(m z:Nat)(hm:m<=1000)(K D:Nat)(hK1:1<=K)(hKD:K<=1000000)(hD:D<=20000000)(a:Rat)(ga:List Rat)(u:Z9)(B:Nat)(hla:ga.length=m)(ha:LQ K a)(M:∀ i,LQ D (ga.getD i 0))(b:Rat)(gb:List Rat)(p:Z9)(y:Nat)(hlb:gb.length=m)(hb:LQ K b)(V:∀ i,LQ D (gb.getD i 0))(w:World)(h:Hp)(g:G w h)(S:Sq u ga h)(Q:Sq p gb h)(tb:Tab h):CR 247 #[.agg #[.slice x m z],qY a u ga.length B,qY b p gb.length y] w h (fun v h1=>∃ bk,v=iy (a+b) (sB bk) ((ov m).map fun i=>ga.getD i 0+gb.getD i 0).length m/\Sq (sB bk) ((ov m).map fun i=>ga.getD i 0+gb.getD i 0) h1):=by
 have e:=((((sS g).aS S).aS Q).aB tb);refine go Tryz.func247 [(0,.agg #[qS x m z]),(1,qY a u ga.length B),(2,qY b p gb.length y)] rfl (aD (lA 3 73 ([qS x m z]) e (fun J w2 h3 e=>lA 4 54 (qZ a u ga.length B) e (fun C w5 h6 e=>lA 5 54 (qZ b p gb.length y) e (fun F w8 h9 e=>lA 6 54 ([qF,uV 0,eS,uV 0,eS,sZ]) e (fun I _ _ e=>af ?_))))));have hsr:=e;refine cR 8 [⟨7,7,.cells (GX [qF,uV 0,eS,uV 0,eS,sZ]) 54 (0,0)⟩] mixed e (aW (cl kR (fun _ _=>by kernel_rfl)) am) (eO 0 9 [(3,0,1)] (.agg #[qS x m z]) e (eV 1 10 (pB C) (eO 2 11 [(2,0,5)] (qv a) e (eV 3 12 (pB F) (eO 4 13 [(1,0,5)] (qv b) e ?_)))));have bb:=LQ.add ha hb;refine ai 5 14 e (fun _ _ e=>nO a b (LQ.mono ha oM) (LQ.mono hb oM) _ _ e.g e.f.1) (fun _ _ e=>eC 6 15 e (fun _ _ e=>ir x m z hm (a+b) h _ _ e.g e.st.sz) ?_);rintro _ _ _ _ _ e ⟨j,rfl,hNn⟩;replace e:=(e.add (K:=fun U=>Nw h.size U j 39 ((yJ m (0:Rat)).flatMap qc)) hNn);refine dm [] hsr e 54 [qF,uV 0,eS,uV 0,eS,sZ] (fun _ _ H e=>tP 8 0 0 (qZ (a+b) (sB j) m m) e (fun _ e=>tN (cQ (aD ?_))));obtain ⟨zf,e⟩:=e.takeL (e.f.1).1 (e.f.1).2.2;replace e:=e.aS (S.gw e.st.up.gr.gw);replace e:=e.aS (Q.gw e.st.up.gr.gw);replace e:=e.aB (tb.gw e.st.up.gr.gw);replace e:=e.to [⟨j,39,((yJ m 0)).flatMap qc⟩,⟨H,54,qZ (a+b) (sB j) m m⟩,⟨I,54,[qF,uV 0,eS,uV 0,eS,sZ]⟩,⟨F,54,qZ b p gb.length y⟩,⟨C,54,qZ a u ga.length B⟩,⟨J,73,[qS x m z]⟩] [];refine lL e [.v (qP H 5),.o (qS (sB j) m m) 1 5 1,.v (nV m),.c] (ba ?_);refine bS _ (CG.loop (fun μ_ Γ w_=>∃ (k:Nat)(L:List Rat)(U:Hp),μ_=m-k/\Γ=[(4,pB C),(5,pB F),(6,pB I),(7,pB H),(18,nV m),(19,nV k)]/\SS w h w_ U [⟨j,39,(L).flatMap qc⟩,⟨H,54,qZ (a+b) (sB j) m m⟩,⟨I,54,[qF,uV 0,eS,uV 0,eS,sZ]⟩,⟨F,54,qZ b p gb.length y⟩,⟨C,54,qZ a u ga.length B⟩,⟨J,73,[qS x m z]⟩] [] [fun U=>Tab U,Sq p gb,Sq u ga]/\k<=m/\L.length=m/\L=da (fun i=>ga.getD i 0+gb.getD i 0) m k) _ ⟨0,yJ m 0,zf,rfl,rfl,e.to _ _,GA _,HK,(gd _ _)⟩ ?_);rintro _ _ _ ⟨k,L,_,bf,rfl,e,hk,Y,Z⟩;refine aD ?_;cases W:(decide ((k:Int)<(m:Int)))
 .
  have zd:=oF W;refine lB 20 W (af (cG (CG.exit ?_)))
  show CG _ _ _ _ _ _ _ _
  refine aa e [.o (qY (a+b) (sB j) m m) 1 0 6] (lP 2 0 (qZ (a+b) (sB j) m m) e (fun _ e=>lN (kX ?_)));have X:k=m:=by omega
  rw[X,d4] at Z
  subst Z;replace e:=e.to [⟨j,39,(((ov m).map fun i=>ga.getD i 0+gb.getD i 0)).flatMap qc⟩,⟨H,54,qZ (a+b) (sB j) m m⟩,⟨I,54,qZ (a+b) (sB j) m m⟩,⟨F,54,qZ b p gb.length y⟩,⟨C,54,qZ a u ga.length B⟩,⟨J,73,[qS x m z]⟩] [];obtain ⟨_,e,O,bl,bd⟩:=e.pub 0;replace e:=(e.to [⟨H,54,qZ (a+b) (sB j) m m⟩,⟨I,54,qZ (a+b) (sB j) m m⟩,⟨F,54,qZ b p gb.length y⟩,⟨C,54,qZ a u ga.length B⟩,⟨J,73,[qS x m z]⟩] []).aS (SlO.of_flat (sz:=5) (f:=qc) (d:=0) (b:=j) (o:=0) (l:=((ov m).map fun i=>ga.getD i 0+gb.getD i 0)) (fun _=>rfl) O);exact e.ret [(1,0,6)] (qY (a+b) (sB j) m m) (⟨_,by rw[fa],e.f.1⟩)
 have zd:=oT W;refine lB 20 W (af (bY (cK (cQ (kZ (aa e aF (lN (cR 14 [] mixed e am ?_))))))));refine eV 0 22 (qP H 5) (eO 1 23 [(1,5,1)] (qS (sB j) m m) e (eV 2 24 (nV k) (eV 3 25 (qP C 5) (eO 4 26 [(4,5,1)] (qS u ga.length B) e (eV 5 27 (nV k) (eX 6 28 u ga.length B 5 (k:Nat) k ((e.f.r.1).ok oM) (eH 7 29 (qv (ga.getD k 0)) e ((e.f.r.1).el k oM) (eV 8 30 (qP F 5) (eO 9 31 [(3,5,1)] (qS p gb.length y) e (eV 10 32 (nV k) (eX 11 33 p gb.length y 5 (k:Nat) k ((e.f.2.1).ok oM) (eH 12 34 (qv (gb.getD k 0)) e ((e.f.2.1).el k oM) ?_))))))))))));have bm:=LQ.add (M k) (V k);refine ai 13 35 e (fun _ _ e=>nO (ga.getD k 0) (gb.getD k 0) (LQ.mono (M k) oM) (LQ.mono (V k) oM) _ _ e.g e.f.1) (fun _ _ e=>bW e (fun _ zg e=>tX 14 36 (sB j) m m 5 (k:Nat) k rfl (tW 15 0 L qc 5 k ((ga.getD k 0)+(gb.getD k 0)) e oM (fun _ e=>?_))));have ze:((L).set k ((ga.getD k 0)+(gb.getD k 0))).length=m:=by rw[Gq];exact Y
 replace e:=e.to [⟨j,39,((L).set k ((ga.getD k 0)+(gb.getD k 0))).flatMap qc⟩,⟨H,54,qZ (a+b) (sB j) m m⟩,⟨I,54,[qF,uV 0,eS,uV 0,eS,sZ]⟩,⟨F,54,qZ b p gb.length y⟩,⟨C,54,qZ a u ga.length B⟩,⟨J,73,[qS x m z]⟩] [];refine tN (kQ (bA 37 ((k:Nat)+1) (k+1) ?_));refine lL e ac (lD ?_);intro a_ ka;refine ⟨_,_,?_,⟨k+1,(L).set k ((ga.getD k 0)+(gb.getD k 0)),zg,rfl,rfl,e.to _ _,oM,ze,(by rw[Z];exact d7 oM)⟩,ka.to _ kR⟩
 omega
theorem wk (x:Z9)(m z:Nat)(hm:m<=1000)(K D:Nat)(hK1:1<=K)(hKD:K<=1000000)(hD:D<=20000000)(a:Rat)(ga:List Rat)(u:Z9)(B:Nat)(hla:ga.length=m)(ha:LQ K a)(M:∀ i,LQ D (ga.getD i 0))(b:Rat)(gb:List Rat)(p:Z9)(y:Nat)(hlb:gb.length=m)(W:LQ K b)(V:∀ i,LQ D (gb.getD i 0))(w:World)(h:Hp)(g:G w h)(S:Sq u ga h)(Q:Sq p gb h)(tb:Tab h):CR 251 #[.agg #[.slice x m z],qY a u ga.length B,qY b p gb.length y] w h (fun v h1=>∃ bk,v=iy (a*b) (sB bk) ((ov m).map fun i=>ga.getD i 0*b+a*gb.getD i 0).length m/\Sq (sB bk) ((ov m).map fun i=>ga.getD i 0*b+a*gb.getD i 0) h1):=by
 have e:=((((sS g).aS S).aS Q).aB tb);refine go Tryz.func251 [(0,.agg #[qS x m z]),(1,qY a u ga.length B),(2,qY b p gb.length y)] rfl (aD (lA 3 73 ([qS x m z]) e (fun J w2 h3 e=>lA 4 54 (qZ a u ga.length B) e (fun C w5 h6 e=>lA 5 54 (qZ b p gb.length y) e (fun F w8 h9 e=>lA 6 54 ([qF,uV 0,eS,uV 0,eS,sZ]) e (fun I _ _ e=>af ?_))))));have hsr:=e;refine cR 8 [⟨7,7,.cells (GX [qF,uV 0,eS,uV 0,eS,sZ]) 54 (0,0)⟩] mixed e (aW (cl kR (fun _ _=>by kernel_rfl)) am) (eO 0 9 [(3,0,1)] (.agg #[qS x m z]) e (eV 1 10 (pB C) (eO 2 11 [(2,0,5)] (qv a) e (eV 3 12 (pB F) (eO 4 13 [(1,0,5)] (qv b) e ?_)))));have bb:=LQ.mul ha W;refine ai 5 14 e (fun _ _ e=>ib a b (LQ.mono ha oM) (LQ.mono W oM) _ _ e.g e.f.1) (fun _ _ e=>eC 6 15 e (fun _ _ e=>ir x m z hm (a*b) h _ _ e.g e.st.sz) ?_);rintro _ _ _ _ _ e ⟨j,rfl,hNn⟩;replace e:=(e.add (K:=fun U=>Nw h.size U j 39 ((yJ m (0:Rat)).flatMap qc)) hNn);refine dm [] hsr e 54 [qF,uV 0,eS,uV 0,eS,sZ] (fun _ _ H e=>tP 8 0 0 (qZ (a*b) (sB j) m m) e (fun _ e=>tN (cQ (aD ?_))));obtain ⟨zi,e⟩:=e.takeL (e.f.1).1 (e.f.1).2.2;replace e:=e.aS (S.gw e.st.up.gr.gw);replace e:=e.aS (Q.gw e.st.up.gr.gw);replace e:=e.aB (tb.gw e.st.up.gr.gw);replace e:=e.to [⟨j,39,((yJ m 0)).flatMap qc⟩,⟨H,54,qZ (a*b) (sB j) m m⟩,⟨I,54,[qF,uV 0,eS,uV 0,eS,sZ]⟩,⟨F,54,qZ b p gb.length y⟩,⟨C,54,qZ a u ga.length B⟩,⟨J,73,[qS x m z]⟩] [];refine lL e [.v (qP H 5),.o (qS (sB j) m m) 1 5 1,.v (nV m),.c] (ba ?_);refine bS _ (CG.loop (fun μ_ Γ w_=>∃ (k:Nat)(L:List Rat)(U:Hp),μ_=m-k/\Γ=[(4,pB C),(5,pB F),(6,pB I),(7,pB H),(18,nV m),(19,nV k)]/\SS w h w_ U [⟨j,39,(L).flatMap qc⟩,⟨H,54,qZ (a*b) (sB j) m m⟩,⟨I,54,[qF,uV 0,eS,uV 0,eS,sZ]⟩,⟨F,54,qZ b p gb.length y⟩,⟨C,54,qZ a u ga.length B⟩,⟨J,73,[qS x m z]⟩] [] [fun U=>Tab U,Sq p gb,Sq u ga]/\k<=m/\L.length=m/\L=da (fun i=>ga.getD i 0*b+a*gb.getD i 0) m k) _ ⟨0,yJ m 0,zi,rfl,rfl,e.to _ _,GA _,HK,(gd _ _)⟩ ?_);rintro _ _ _ ⟨k,L,_,bf,rfl,e,hk,Z,hL⟩;refine aD ?_;cases X:(decide ((k:Int)<(m:Int)))
 .
  have zf:=oF X;refine lB 20 X (af (cG (CG.exit ?_)))
  show CG _ _ _ _ _ _ _ _
  refine aa e [.o (qY (a*b) (sB j) m m) 1 0 6] (lP 2 0 (qZ (a*b) (sB j) m m) e (fun _ e=>lN (kX ?_)));have Y:k=m:=by omega
  rw[Y,d4] at hL
  subst hL;replace e:=e.to [⟨j,39,(((ov m).map fun i=>ga.getD i 0*b+a*gb.getD i 0)).flatMap qc⟩,⟨H,54,qZ (a*b) (sB j) m m⟩,⟨I,54,qZ (a*b) (sB j) m m⟩,⟨F,54,qZ b p gb.length y⟩,⟨C,54,qZ a u ga.length B⟩,⟨J,73,[qS x m z]⟩] [];obtain ⟨_,e,O,bl,bd⟩:=e.pub 0;replace e:=(e.to [⟨H,54,qZ (a*b) (sB j) m m⟩,⟨I,54,qZ (a*b) (sB j) m m⟩,⟨F,54,qZ b p gb.length y⟩,⟨C,54,qZ a u ga.length B⟩,⟨J,73,[qS x m z]⟩] []).aS (SlO.of_flat (sz:=5) (f:=qc) (d:=0) (b:=j) (o:=0) (l:=((ov m).map fun i=>ga.getD i 0*b+a*gb.getD i 0)) (fun _=>rfl) O);exact e.ret [(1,0,6)] (qY (a*b) (sB j) m m) (⟨_,by rw[fa],e.f.1⟩)
 have zf:=oT X;refine lB 20 X (af (bY (cK (cQ (kZ (aa e aF (lN (cR 20 [] mixed e am ?_))))))));refine eV 0 22 (qP H 5) (eO 1 23 [(1,5,1)] (qS (sB j) m m) e (eV 2 24 (nV k) (eV 3 25 (qP C 5) (eO 4 26 [(4,5,1)] (qS u ga.length B) e (eV 5 27 (nV k) (eX 6 28 u ga.length B 5 (k:Nat) k ((e.f.r.1).ok oM) (eH 7 29 (qv (ga.getD k 0)) e ((e.f.r.1).el k oM) (eV 8 30 (pB F) (eO 9 31 [(3,0,5)] (qv b) e (eV 11 33 (pB C) (eO 12 34 [(4,0,5)] (qv a) e (eV 13 35 (qP F 5) (eO 14 36 [(3,5,1)] (qS p gb.length y) e (eV 15 37 (nV k) (eX 16 38 p gb.length y 5 (k:Nat) k ((e.f.2.1).ok oM) (eH 17 39 (qv (gb.getD k 0)) e ((e.f.2.1).el k oM) ?_))))))))))))))));have zd:=LQ.mul (M k) W;refine ai 10 32 e (fun _ _ e=>ib (ga.getD k 0) b (LQ.mono (M k) oM) (LQ.mono W oM) _ _ e.g e.f.1) (fun _ _ e=>?_);have ze:=LQ.mul ha (V k);refine ai 18 40 e (fun _ _ e=>ib a (gb.getD k 0) (LQ.mono ha oM) (LQ.mono (V k) oM) _ _ e.g e.f.1) (fun _ _ e=>?_);have bm:=LQ.add zd ze;refine ai 19 41 e (fun _ _ e=>nO ((ga.getD k 0)*b) (a*(gb.getD k 0)) (LQ.mono zd oM) (LQ.mono ze oM) _ _ e.g e.f.1) (fun _ _ e=>bW e (fun _ zj e=>tX 20 42 (sB j) m m 5 (k:Nat) k rfl (tW 21 0 L qc 5 k (((ga.getD k 0)*b)+(a*(gb.getD k 0))) e oM (fun _ e=>?_))));have zg:((L).set k (((ga.getD k 0)*b)+(a*(gb.getD k 0)))).length=m:=by rw[Gq];exact Z
 replace e:=e.to [⟨j,39,((L).set k (((ga.getD k 0)*b)+(a*(gb.getD k 0)))).flatMap qc⟩,⟨H,54,qZ (a*b) (sB j) m m⟩,⟨I,54,[qF,uV 0,eS,uV 0,eS,sZ]⟩,⟨F,54,qZ b p gb.length y⟩,⟨C,54,qZ a u ga.length B⟩,⟨J,73,[qS x m z]⟩] [];refine tN (kQ (bA 43 ((k:Nat)+1) (k+1) ?_));refine lL e ac (lD ?_);intro a_ ka;refine ⟨_,_,?_,⟨k+1,(L).set k (((ga.getD k 0)*b)+(a*(gb.getD k 0))),zj,rfl,rfl,e.to _ _,oM,zg,(by rw[hL];exact d7 oM)⟩,ka.to _ kR⟩
 omega
theorem uT (x:Z9)(m y:Nat)(hm:m<=1000)(K D:Nat)(hK1:1<=K)(hKD:K<=1000000)(hD:D<=20000000)(a:Rat)(ga:List Rat)(u:Z9)(z:Nat)(hla:ga.length=m)(ha:LQ K a)(M:∀ i,LQ D (ga.getD i 0))(j:Rat)(E:Nat)(hE:E<=10000000)(B:LQ E j)(w:World)(h:Hp)(g:G w h)(Q:Sq u ga h)(tb:Tab h):CR 253 #[.agg #[.slice x m y],qY a u ga.length z,qv j] w h (fun v h1=>∃ bk,v=iy (a*j) (sB bk) ((ov m).map fun i=>ga.getD i 0*j).length m/\Sq (sB bk) ((ov m).map fun i=>ga.getD i 0*j) h1):=by
 have e:=(((sS g).aS Q).aB tb);refine go Tryz.func253 [(0,.agg #[qS x m y]),(1,qY a u ga.length z),(2,qv j)] rfl (aD (lA 3 73 ([qS x m y]) e (fun J w2 h3 e=>lA 4 54 (qZ a u ga.length z) e (fun C w5 h6 e=>lA 5 39 (qc j) e (fun I w8 h9 e=>lA 6 54 ([qF,uV 0,eS,uV 0,eS,sZ]) e (fun H _ _ e=>af ?_))))));have Y:=e;refine cR 7 [⟨6,7,.cells (GX [qF,uV 0,eS,uV 0,eS,sZ]) 54 (0,0)⟩] mixed e (aW (cl kR (fun _ _=>by kernel_rfl)) am) (eO 0 9 [(3,0,1)] (.agg #[qS x m y]) e (eV 1 10 (pB C) (eO 2 11 [(2,0,5)] (qv a) e (eO 3 12 [(1,0,5)] (qv j) e ?_))));have bb:=LQ.mul ha B;refine ai 4 13 e (fun _ _ e=>ib a j (LQ.mono ha oM) (LQ.mono B oM) _ _ e.g e.f.1) (fun _ _ e=>eC 5 14 e (fun _ _ e=>ir x m y hm (a*j) h _ _ e.g e.st.sz) ?_);rintro _ _ _ _ _ e ⟨p,rfl,hNn⟩;replace e:=(e.add (K:=fun S=>Nw h.size S p 39 ((yJ m (0:Rat)).flatMap qc)) hNn);refine dm [] Y e 54 [qF,uV 0,eS,uV 0,eS,sZ] (fun _ _ F e=>tP 7 0 0 (qZ (a*j) (sB p) m m) e (fun _ e=>tN (cQ (aD ?_))));obtain ⟨zf,e⟩:=e.takeL (e.f.1).1 (e.f.1).2.2;replace e:=e.aS (Q.gw e.st.up.gr.gw);replace e:=e.aB (tb.gw e.st.up.gr.gw);replace e:=e.to [⟨p,39,((yJ m 0)).flatMap qc⟩,⟨F,54,qZ (a*j) (sB p) m m⟩,⟨H,54,[qF,uV 0,eS,uV 0,eS,sZ]⟩,⟨I,39,qc j⟩,⟨C,54,qZ a u ga.length z⟩,⟨J,73,[qS x m y]⟩] [];refine lL e [.v (qP F 5),.o (qS (sB p) m m) 1 5 1,.v (nV m),.c] (ba ?_);refine bS _ (CG.loop (fun Z Γ w_=>∃ (k:Nat)(L:List Rat)(S:Hp),Z=m-k/\Γ=[(4,pB C),(5,pB I),(6,pB H),(7,pB F),(17,nV m),(18,nV k)]/\SS w h w_ S [⟨p,39,(L).flatMap qc⟩,⟨F,54,qZ (a*j) (sB p) m m⟩,⟨H,54,[qF,uV 0,eS,uV 0,eS,sZ]⟩,⟨I,39,qc j⟩,⟨C,54,qZ a u ga.length z⟩,⟨J,73,[qS x m y]⟩] [] [fun S=>Tab S,Sq u ga]/\k<=m/\L.length=m/\L=da (fun i=>ga.getD i 0*j) m k) _ ⟨0,yJ m 0,zf,rfl,rfl,e.to _ _,GA _,HK,(gd _ _)⟩ ?_);rintro _ _ _ ⟨k,L,_,bf,rfl,e,hk,W,X⟩;refine aD ?_;cases U:(decide ((k:Int)<(m:Int)))
 .
  have zd:=oF U;refine lB 19 U (af (cG (CG.exit ?_)))
  show CG _ _ _ _ _ _ _ _
  refine aa e [.o (qY (a*j) (sB p) m m) 1 0 6] (lP 2 0 (qZ (a*j) (sB p) m m) e (fun _ e=>lN (kX ?_)));have V:k=m:=by omega
  rw[V,d4] at X
  subst X;replace e:=e.to [⟨p,39,(((ov m).map fun i=>ga.getD i 0*j)).flatMap qc⟩,⟨F,54,qZ (a*j) (sB p) m m⟩,⟨H,54,qZ (a*j) (sB p) m m⟩,⟨I,39,qc j⟩,⟨C,54,qZ a u ga.length z⟩,⟨J,73,[qS x m y]⟩] [];obtain ⟨_,e,O,bl,bd⟩:=e.pub 0;replace e:=(e.to [⟨F,54,qZ (a*j) (sB p) m m⟩,⟨H,54,qZ (a*j) (sB p) m m⟩,⟨I,39,qc j⟩,⟨C,54,qZ a u ga.length z⟩,⟨J,73,[qS x m y]⟩] []).aS (SlO.of_flat (sz:=5) (f:=qc) (d:=0) (b:=p) (o:=0) (l:=((ov m).map fun i=>ga.getD i 0*j)) (fun _=>rfl) O);exact e.ret [(1,0,6)] (qY (a*j) (sB p) m m) (⟨_,by rw[fa],e.f.1⟩)
 have zd:=oT U;refine lB 19 U (af (bY (cK (cQ (kZ (aa e aF (lN (cR 10 [] mixed e am ?_))))))));refine eV 0 21 (qP F 5) (eO 1 22 [(1,5,1)] (qS (sB p) m m) e (eV 2 23 (nV k) (eV 3 24 (qP C 5) (eO 4 25 [(4,5,1)] (qS u ga.length z) e (eV 5 26 (nV k) (eX 6 27 u ga.length z 5 (k:Nat) k ((e.f.2.1).ok oM) (eH 7 28 (qv (ga.getD k 0)) e ((e.f.2.1).el k oM) (eO 8 29 [(3,0,5)] (qv j) e ?_))))))));have bm:=LQ.mul (M k) B;refine ai 9 30 e (fun _ _ e=>ib (ga.getD k 0) j (LQ.mono (M k) oM) (LQ.mono B oM) _ _ e.g e.f.1) (fun _ _ e=>bW e (fun _ zg e=>tX 10 31 (sB p) m m 5 (k:Nat) k rfl (tW 11 0 L qc 5 k ((ga.getD k 0)*j) e oM (fun _ e=>?_))));have ze:((L).set k ((ga.getD k 0)*j)).length=m:=by rw[Gq];exact W
 replace e:=e.to [⟨p,39,((L).set k ((ga.getD k 0)*j)).flatMap qc⟩,⟨F,54,qZ (a*j) (sB p) m m⟩,⟨H,54,[qF,uV 0,eS,uV 0,eS,sZ]⟩,⟨I,39,qc j⟩,⟨C,54,qZ a u ga.length z⟩,⟨J,73,[qS x m y]⟩] [];refine tN (kQ (bA 32 ((k:Nat)+1) (k+1) ?_));refine lL e ac (lD ?_);intro a_ ka;refine ⟨_,_,?_,⟨k+1,(L).set k ((ga.getD k 0)*j),zg,rfl,rfl,e.to _ _,oM,ze,(by rw[X];exact d7 oM)⟩,ka.to _ kR⟩
 omega
theorem rO (e:Z9)(m j:Nat)(L:m<=1000)(fs:List Rat)(M:fs.length=m)(i:Nat)(O:i<m)(w:World)(h:Hp)(g:G w h)(H:Sq e fs h):CR 249 #[.agg #[.slice e m j],nV i] w h (fun v h1=>∃ I,v=iy (fs.getD i 0) (sB I) (ck m i).length m/\Sq (sB I) (ck m i) h1):=by
 have a:=((sS g).aS H);have F:(yJ m (0:Rat)).length=m:=HK;refine go Tryz.func249 [(0,.agg #[qS e m j]),(1,nV i)] rfl (aD (lA 2 73 ([qS e m j]) a (fun p w2 U a=>lA 4 54 ([qF,uV 0,eS,uV 0,eS,sZ]) a (fun y X W a=>af ?_))));have z:=a;refine cR 8 [⟨7,5,.cells (GX [qF,uV 0,eS,uV 0,eS,sZ]) 54 (0,0)⟩] mixed a (aW (cl kR (fun _ _=>by kernel_rfl)) am) (eO 0 6 [(1,0,1)] (.agg #[qS e m j]) a (eV 1 7 (pB p) (eO 2 8 [(1,0,1)] (qS e m j) a (eV 3 9 (nV i) (eX 4 10 e m j 5 (i:Nat) i ((a.f.1).ok oM) (eH 5 11 (qv (fs.getD i 0)) a ((a.f.1).el i oM) (eC 6 12 a (fun _ _ a=>ir e m j L (fs.getD i 0) h _ _ a.g a.st.sz) ?_)))))));rintro _ _ _ V S a ⟨c,rfl,B⟩;replace a:=(a.add (K:=fun Q=>Nw h.size Q c 39 ((yJ m (0:Rat)).flatMap qc)) B);refine dm [] z a 54 [qF,uV 0,eS,uV 0,eS,sZ] (fun Y _ x a=>tP 8 0 0 (qZ (fs.getD i 0) (sB c) m m) a (fun _ a=>tN (cQ ?_)));obtain ⟨_,a⟩:=a.takeL (a.f.1).1 (a.f.1).2.2;replace a:=a.aS (H.gw a.st.up.gr.gw);replace a:=a.to [⟨c,39,((yJ m 0)).flatMap qc⟩,⟨x,54,qZ (fs.getD i 0) (sB c) m m⟩,⟨y,54,[qF,uV 0,eS,uV 0,eS,sZ]⟩,⟨p,73,[qS e m j]⟩] [];refine cR 4 [] mixed a am (eV 0 13 (qP x 5) (eO 1 14 [(1,5,1)] (qS (sB c) m m) a (eV 2 15 (nV i) (ai 3 16 a (fun _ _ a=>tY (1) kD kD _ _ a.g) (fun _ _ a=>bW a (fun _ _ a=>tX 4 17 (sB c) m m 5 (i:Nat) i rfl (tW 5 0 (yJ m 0) qc 5 i ((1:Int):Rat) a oM (fun _ a=>?_))))))));have C:(((yJ m 0)).set i ((1:Int):Rat)).length=m:=by rw[Gq];exact HK
 replace a:=a.to [⟨c,39,(((yJ m 0)).set i ((1:Int):Rat)).flatMap qc⟩,⟨x,54,qZ (fs.getD i 0) (sB c) m m⟩,⟨y,54,[qF,uV 0,eS,uV 0,eS,sZ]⟩,⟨p,73,[qS e m j]⟩] [];refine qQ (lL a [.o (qY (fs.getD i 0) (sB c) m m) 1 0 6] (lP 2 0 (qZ (fs.getD i 0) (sB c) m m) a (fun _ a=>lN (kX ?_))));replace a:=a.to [⟨c,39,(((yJ m 0)).set i ((1:Int):Rat)).flatMap qc⟩,⟨x,54,qZ (fs.getD i 0) (sB c) m m⟩,⟨y,54,qZ (fs.getD i 0) (sB c) m m⟩,⟨p,73,[qS e m j]⟩] [];obtain ⟨_,a,u,J,D⟩:=a.pub 0;replace a:=(a.to [⟨x,54,qZ (fs.getD i 0) (sB c) m m⟩,⟨y,54,qZ (fs.getD i 0) (sB c) m m⟩,⟨p,73,[qS e m j]⟩] []).aS (SlO.of_flat (sz:=5) (f:=qc) (d:=0) (b:=c) (o:=0) (l:=((yJ m 0)).set i ((1:Int):Rat)) (fun _=>rfl) u);exact a.ret [(1,0,6)] (qY (fs.getD i 0) (sB c) m m) (⟨_,by rw[uh],a.f.1⟩)
theorem EK (c:Z9)(m f:Nat)(l:m<=1000)(a:Rat)(e:Z9)(d i:Nat)(w:World)(h:Hp)(g:G w h):CV 248 #[.agg #[.slice c m f],qY a e d i] w h (qv a):=by
 have b:=sS g;exact go Tryz.func248 [(0,.agg #[qS c m f]),(1,qY a e d i)] rfl (aD (lA 2 73 ([qS c m f]) b (fun p w2 u b=>lA 3 54 (qZ a e d i) b (fun j C B b=>lA 4 39 a2 b (fun x y z b=>aK (lL b [.v (pB j),.o (qX a) 1 0 5] (lP 0 0 (qC a) b (fun _ b=>ae b [(0,0,5)] (qX a) rfl))))))))
theorem l8 (e:Z9)(m j:Nat)(L:m<=1000)(K D:Nat)(C:1<=K)(y:K<=1000000)(M:D<=20000000)(a:Rat)(ga:List Rat)(d:Z9)(l:Nat)(H:ga.length=m)(ha:LQ K a)(x:∀ i,LQ D (ga.getD i 0))(hz:a.num≠0)(w:World)(h:Hp)(g:G w h)(F:Sq d ga h)(O:Tab h):CR 250 #[.agg #[.slice e m j],qY a d ga.length l] w h (fun v h1=>∃ J,v=iy ((((1:Int):Rat)/a)) (sB J) ((ov m).map fun i=>ga.getD i 0*(-((((1:Int):Rat)/a)*(((1:Int):Rat)/a)))).length m/\Sq (sB J) ((ov m).map fun i=>ga.getD i 0*(-((((1:Int):Rat)/a)*(((1:Int):Rat)/a)))) h1):=by
 have b:=(((sS g).aS F).aB O);refine go Tryz.func250 [(0,.agg #[qS e m j]),(1,qY a d ga.length l)] rfl (aD (lA 2 73 ([qS e m j]) b (fun W w2 X b=>lA 3 54 (qZ a d ga.length l) b (fun Q w5 h6 b=>lA 4 54 ([qF,uV 0,eS,uV 0,eS,sZ]) b (fun Y Z h9 b=>af ?_)))));have c:=b;refine cR 8 [⟨7,5,.cells (GX [qF,uV 0,eS,uV 0,eS]) 39 (0,0)⟩] mixed b (aW (cl kR (fun _ _=>by kernel_rfl)) am) (eV 1 10 (pB Q) (eO 2 11 [(1,0,5)] (qv a) b (ai 0 9 b (fun _ _ b=>tY (1) kD kD _ _ b.g) (fun _ _ b=>?_))));have p:=LQ.div (LQ.lit (z:=1) kD) ha;refine ai 3 12 b (fun _ _ b=>AA ((1:Int):Rat) a (LQ.mono (LQ.lit (z:=1) kD) oM) (LQ.mono ha oM) hz _ _ b.g b.f.1) (fun _ _ b=>eV 4 8 (.tuple #[qv (((1:Int):Rat)/a),qT]) (eV 5 13 (qv (((1:Int):Rat)/a)) (eV 6 14 qT (dm [] c b 39 [qF,uV 0,eS,uV 0,eS] (fun _ _ S b=>tP 8 0 0 (qc (((1:Int):Rat)/a)) b (fun _ b=>tV 9 6 qT (tN (cQ ?_))))))));have c:=b;refine cR 8 [⟨7,7,.cells (GX [qF,uV 0,eS,uV 0,eS,sZ]) 54 (0,0)⟩] mixed b (aW (cl kR (fun _ _=>by kernel_rfl)) am) (eO 0 15 [(3,0,1)] (.agg #[qS e m j]) b (eO 1 16 [(2,0,6)] (qY a d ga.length l) b (eO 2 17 [(0,0,5)] (qv (((1:Int):Rat)/a)) b (eO 3 18 [(0,0,5)] (qv (((1:Int):Rat)/a)) b ?_))));have I:=LQ.mul p p;refine ai 4 19 b (fun _ _ b=>ib (((1:Int):Rat)/a) (((1:Int):Rat)/a) (LQ.mono p oM) (LQ.mono p oM) _ _ b.g b.f.1) (fun _ _ b=>?_);have U:LQ ((1+K)+(1+K)) (-((((1:Int):Rat)/a)*(((1:Int):Rat)/a))):=LQ.neg I;refine ai 5 20 b (fun _ _ b=>C7 ((((1:Int):Rat)/a)*(((1:Int):Rat)/a)) (LQ.mono I oM) _ _ b.g) (fun _ _ b=>eC 6 21 b (fun _ _ b=>uT e m j L K D C y M a ga d l H ha x (-((((1:Int):Rat)/a)*(((1:Int):Rat)/a))) (2*K+2) oM (LQ.mono U oM) _ _ b.g b.f.2.1 b.f.1) ?_);rintro _ _ _ _ _ b ⟨u,rfl,B⟩;replace b:=b.aS B;exact dm [] c b 54 [qF,uV 0,eS,uV 0,eS,sZ] (fun _ _ V b=>tP 8 0 0 (qZ (a*(-((((1:Int):Rat)/a)*(((1:Int):Rat)/a)))) (sB u) (((ov m).map fun i=>ga.getD i 0*(-((((1:Int):Rat)/a)*(((1:Int):Rat)/a)))).length) m) b (fun _ b=>qQ (lL b [.o (qv (((1:Int):Rat)/a)) 1 0 5,.v (pB V)] (lP 0 0 (qc (((1:Int):Rat)/a)) b (fun _ b=>aK (lL b [.o (qY (((1:Int):Rat)/a) (sB u) (((ov m).map fun i=>ga.getD i 0*(-((((1:Int):Rat)/a)*(((1:Int):Rat)/a)))).length) m) 0 0 6] (lP 2 0 (qZ (((1:Int):Rat)/a) (sB u) (((ov m).map fun i=>ga.getD i 0*(-((((1:Int):Rat)/a)*(((1:Int):Rat)/a)))).length) m) b (fun _ b=>ae b [(2,0,6)] (qY (((1:Int):Rat)/a) (sB u) (((ov m).map fun i=>ga.getD i 0*(-((((1:Int):Rat)/a)*(((1:Int):Rat)/a)))).length) m) (⟨_,rfl,b.f.1⟩)))))))))
section
variable {a:Rat}
theorem Cb (h:¬a.num.sign<0):a=cJ a:=by
 unfold cJ;rw[if_neg (fun k=>h (by have:=HG.2 k;omega))]
theorem Br (h:a.num.sign<0):a*((-1:Int):Rat)=cJ a:=by
 unfold cJ;rw[if_pos (HG.1 (nx h)),Au];grind
theorem BW {s:Rat}(h:s=cJ a):s+((1:Int):Rat)≠0:=by
 have b:0<=cJ a:=by
  unfold cJ;split
  ·rename_i h
   have:a<0:=by rw[<-HI,<-HJ];omega
   grind
  ·rename_i h;exact HJ.1 oM
 rw[h,i1];grind
theorem td {op:Int}{a b:Rat}(h:op=12/\0<dx a b\/op=13/\dx a b<0):op=12/\b<a\/op=13/\a<b:=by
 rcases h with ⟨h1,h2⟩|⟨h1,h2⟩
 ·exact .inl ⟨h1,ji.1 h2⟩
 ·exact .inr ⟨h1,jg.1 h2⟩
theorem rN {op:Int}{a b:Rat}(h:op=12/\dx a b<0\/op=13/\0<dx a b):op=12/\a<b\/op=13/\b<a:=by
 rcases h with ⟨h1,h2⟩|⟨h1,h2⟩
 ·exact .inl ⟨h1,jg.1 h2⟩
 ·exact .inr ⟨h1,ji.1 h2⟩
end
theorem lf (d:Z9)(m e:Nat)(H:m<=1000)(K D:Nat)(x:1<=K)(u:K<=1000000)(J:D<=20000000)(C:Nat)(B:Bool)(a:Rat)(ga:List Rat)(l:Z9)(o:Nat)(z:ga.length=m)(ha:LQ K a)(p:∀ i,LQ D (ga.getD i 0))(w:World)(h:Hp)(g:G w h)(y:Sq l ga h)(L:Tab h):CR 96 #[.agg #[.iface 73 (.agg #[.slice d m e]),.map (some C),.bool B],qY a l ga.length o] w h (fun v h1=>∃ F,v=iy (a*((-1:Int):Rat)) (sB F) ((ov m).map fun i=>ga.getD i 0*((-1:Int):Rat)).length m/\Sq (sB F) ((ov m).map fun i=>ga.getD i 0*((-1:Int):Rat)) h1):=by
 have b:=(((sS g).aS y).aB L);refine go Tryz.func96 [(0,.agg #[.iface 73 (.agg #[qS d m e]),.map (some C),.bool B]),(1,qY a l ga.length o)] rfl (aD (lA 2 79 ([.iface 73 (.agg #[qS d m e]),.map (some C),.bool B]) b (fun I w2 M b=>lA 3 54 (qZ a l ga.length o) b (fun O W V b=>lA 4 54 ([qF,uV 0,eS,uV 0,eS,sZ]) b (fun Q S U b=>af (cR 7 [] mixed b am ?_))))));refine eV 0 5 (pB I) (eO 1 6 [(2,0,1)] (.iface 73 (.agg #[qS d m e])) b (eO 2 7 [(1,0,6)] (qY a l ga.length o) b (eV 4 9 (.iface 73 (.agg #[qS d m e])) (eV 5 10 (.iface 73 (.agg #[qS d m e])) (ai 3 8 b (fun _ _ b=>tY (-1) kD kD _ _ b.g) (fun _ _ b=>eC 6 11 b (fun _ _ b=>uT d m e H K D x u J a ga l o z ha p ((-1:Int):Rat) 1 kD (LQ.int kD kD) _ _ b.g b.f.2.1 b.f.1) ?_))))));rintro _ _ _ _ _ b ⟨c,rfl,j⟩;replace b:=b.aS j;exact bW b (fun _ _ b=>tP 7 0 0 (qZ (a*((-1:Int):Rat)) (sB c) (((ov m).map fun i=>ga.getD i 0*((-1:Int):Rat)).length) m) b (fun _ b=>tN (kX (b.ret [(0,0,6)] (qY (a*((-1:Int):Rat)) (sB c) (((ov m).map fun i=>ga.getD i 0*((-1:Int):Rat)).length) m) (⟨_,rfl,b.f.1⟩)))))
theorem p9 (e:Z9)(m j:Nat)(V:m<=1000)(K D:Nat)(hK1:1<=K)(hKD:K<=60000)(hD:D<=10000000)(M:Nat)(op n:Int)(q:Rat)(s:ByteArray)(A:Z9)(kn c:Nat)(a:Rat)(ga:List Rat)(l:Z9)(p:Nat)(F:ga.length=m)(ha:LQ K a)(B:∀ i,LQ D (ga.getD i 0))(hop:7<=op/\op<=11)(hn:op=8 -> -12<=n/\n<=12)(w:World)(h:Hp)(g:G w h)(hSa:Sq l ga h)(tb:Tab h):CR 59 #[.agg #[.iface 73 (.agg #[.slice e m j]),.map (some M),.bool false],az ⟨op,n,q,s,A,kn,c⟩,qY a l ga.length p] w h (fun v h1=>∃ (q_:Rat)(G_:List Rat)(A_:Z9)(c_:Nat),v=.tuple #[iy q_ A_ G_.length c_,iV (bI op n a 0)]/\Sq A_ G_ h1/\(bI op n a 0=0->q_=ko op n 0 a 0/\G_=g8 m op n a 0 ga [])):=by
 have b:=(((sS g).aS hSa).aB tb);refine go Tryz.func59 [(0,.agg #[.iface 73 (.agg #[qS e m j]),.map (some M),qF]),(1,az ⟨op,n,q,s,A,kn,c⟩),(2,qY a l ga.length p)] rfl (aD (lA 3 79 ([.iface 73 (.agg #[qS e m j]),.map (some M),qF]) b (fun y w2 h3 b=>lA 4 42 (be ⟨op,n,q,s,A,kn,c⟩) b (fun I w5 h6 b=>lA 5 54 (qZ a l ga.length p) b (fun b7 w8 h9 b=>lA 6 54 ([qF,uV 0,eS,uV 0,eS,sZ]) b (fun za _ _ b=>lL b ac (aK (lL b [.v (pB y),.o (.iface 73 (.agg #[qS e m j])) 3 0 1,.o (qY a l ga.length p) 1 0 6] (ao 14 b (EK e m j V a l ga.length p _ _ b.g) (fun _ _ b=>ao 15 b (gI a (LQ.mono ha oM) _ _ b.g) (fun _ zn b=>?_)))))))))));have cw:=jo a.num;refine lL b ac (af (aa b [.v (pB I),.o (iV op) 2 0 1] (ba (aD ?_))));cases zc:((op:Int) == (7:Int))
 .
  have zq:=aq zc;refine lB 19 zc (lL b ac (aj (aD ?_)));cases zd:((op:Int) == (8:Int))
  .
   have zr:=aq zd;refine lB 24 zd (lL b ac (aj (aD ?_)));cases ze:((op:Int) == (11:Int))
   .
    have zs:=aq ze;refine lB 62 ze (lL b ac (aj (cK (cQ (aa b ac ?_)))));cases zf:((a.num.sign:Int) == (0:Int))
    .
     have zt:=aq zf;refine lB 100 zf (aj (cK (cQ (aa b ac ?_))));cases zg:(decide ((0:Int)<(a.num.sign:Int)))
     .
      have zu:=oF zg;refine lB 103 zg (aj (cK (cQ (aa b [.v (pB I),.o (iV op) 2 0 1] ?_))));cases zi:((op:Int) == (9:Int))
      .
       have zv:=aq zi;refine lB 107 zi (aj (cK (aa b [.v (pB y),.o (.iface 73 (.agg #[qS e m j])) 3 0 1,.v (qv (0:Rat))] (lC 114 b (fR e m j V (0:Rat) _ _ b.g) ?_))));rintro _ _ _ b ⟨bq,rfl,b5⟩;replace b:=b.aS b5;refine lP 0 0 (qZ (0:Rat) (sB bq) ((yJ m (0:Rat)).length) m) b (fun _ b=>lL b ac (lN (kX ?_)));obtain rfl:op=10:=by omega
       have H:bI 10 n a 0=0:=(dq (fun d=>absurd d kD) (fun d=>absurd d kD) (fun _=>i7 oM) (fun d=>absurd d kD));exact b.ret [(0,0,6)] (.tuple #[qY (0:Rat) (sB bq) ((yJ m (0:Rat)).length) m,iV 0]) (⟨(0:Rat),(yJ m (0:Rat)),_,_,by rw[H],b.f.1,fun _=>(Fq oM)⟩)
      have zv:=eq_of_beq zi;refine lB 107 zi (ar (aa b [.o (.agg #[.iface 73 (.agg #[qS e m j]),.map (some M),qF]) 3 0 3,.o (qY a l ga.length p) 1 0 6] (lC 110 b (lf e m j V (14*K+40) (D+40*K+100) oM oM oM M false a ga l p F (LQ.mono ha oM) (fun i=>LQ.mono (B i) oM) _ _ b.g b.f.2.1 b.f.1) ?_)));rintro _ _ _ b ⟨bn,rfl,cb⟩;replace b:=b.aS cb;refine lP 0 0 (qZ (a*((-1:Int):Rat)) (sB bn) (((ov m).map fun i=>ga.getD i 0*((-1:Int):Rat)).length) m) b (fun _ b=>lL b ac (lN (kX ?_)));obtain rfl:op=9:=by omega
      have H:bI 9 n a 0=0:=(dq (fun d=>absurd d kD) (fun d=>absurd d kD) (fun _=>i7 oM) (fun d=>absurd d kD));exact b.ret [(0,0,6)] (.tuple #[qY (a*((-1:Int):Rat)) (sB bn) (((ov m).map fun i=>ga.getD i 0*((-1:Int):Rat)).length) m,iV 0]) (⟨a*((-1:Int):Rat),((ov m).map fun i=>ga.getD i 0*((-1:Int):Rat)),_,_,by rw[H],b.f.1,fun _=>(FO oM)⟩)
     have zu:=oT zg;refine lB 103 zg (ar (aa b [.o (qY a l ga.length p) 1 0 6] (lP 0 0 (qZ a l ga.length p) b (fun _ b=>lL b ac (lN (kX ?_))))));have H:bI op n a 0=0:=(dq (fun d=>absurd d oM) (fun d=>absurd d oM) (fun _=>i7 oM) (fun d=>absurd d oM));exact b.ret [(0,0,6)] (.tuple #[qY a l ga.length p,iV 0]) (⟨a,ga,_,_,by rw[H],b.f.2.1,fun _=>(Fi oM F oM)⟩)
    have zt:=eq_of_beq zf;refine lB 100 zf (ar (aa b [.o (qY a l ga.length p) 1 0 6] (lP 0 0 (qZ a l ga.length p) b (fun _ b=>lL b ac (lN (kX ?_))))));have H:bI op n a 0=7:=(AB (.inl ⟨by omega,vx oM⟩));exact b.ret [(0,0,6)] (.tuple #[qY a l ga.length p,iV 7]) (⟨a,ga,_,_,by rw[H],b.f.2.1,fun d=>absurd d (by rw[H];decide)⟩)
   have zs:=eq_of_beq ze;refine lB 62 ze ?_;refine lL b ac (ar (CG.join (fun Γ w_=>∃  (d:Hp),Γ=[(3,pB y),(4,pB I),(5,pB b7),(6,pB za),(8,iV a.num.sign)]/\SS w h w_ d [⟨za,54,[qF,uV 0,eS,uV 0,eS,sZ]⟩,⟨b7,54,qZ a l ga.length p⟩,⟨I,42,be ⟨op,n,q,s,A,kn,c⟩⟩,⟨y,79,[.iface 73 (.agg #[qS e m j]),.map (some M),qF]⟩] [] [fun d=>Tab d,Sq l ga]) ?_ ?_))
   .
    refine aa b [.v (qP y 2),.o qF 3 2 1,.c] (lG 66 ?_);refine lG 67 (lL b [.v qF] (aj (CG.skip ?_)));intro a_ J;exact ⟨_,⟨zn,rfl,b.to _ _⟩,J.to _ kR⟩
   rintro _ _ ⟨_,rfl,b⟩;refine aa b [.o (qY a l ga.length p) 1 0 6] (lA 10 54 ([qF,uV 0,eS,uV 0,eS,sZ]) b (fun zD _ zH b=>lP 0 0 (qZ a l ga.length p) b (fun _ b=>?_)));refine lN (CG.join (fun Γ w_=>∃ (x:Rat)(u:List Rat)(U:Z9)(Z:Nat)(d:Hp),Γ=[(3,pB y),(4,pB I),(5,pB b7),(6,pB za),(8,iV a.num.sign),(10,pB zD)]/\SS w h w_ d [⟨zD,54,qZ x U u.length Z⟩,⟨za,54,[qF,uV 0,eS,uV 0,eS,sZ]⟩,⟨b7,54,qZ a l ga.length p⟩,⟨I,42,be ⟨op,n,q,s,A,kn,c⟩⟩,⟨y,79,[.iface 73 (.agg #[qS e m j]),.map (some M),qF]⟩] [] [Sq U u,fun d=>Tab d,Sq l ga]/\x=cJ a/\(∀ i,i<m->u.getD i 0=(if a.num.sign<0 then ga.getD i 0*((-1:Int):Rat) else ga.getD i 0))/\u.length=m/\LQ (K+1) x/\(∀ i,LQ (D+1) (u.getD i 0))) ?_ ?_)
   .
    refine aa b ac ?_;cases zj:(decide ((a.num.sign:Int)<(0:Int)))
    .
     have zw:=oF zj;refine lB 72 zj (aj (CG.skip ?_));intro a_ J;replace b:=b.aS b.f.2.1;exact ⟨_,⟨a,ga,l,p,zH,rfl,b.to _ _,(Cb oM),(fun i_ _=>by rw[if_neg oM]),F,(ha.mono oM),(fun i=>(B i).mono oM)⟩,J.to _ kR⟩
    have zw:=oT zj;refine lB 72 zj (ar (kQ (lL b [.o (.agg #[.iface 73 (.agg #[qS e m j]),.map (some M),qF]) 4 0 3,.o (qY a l ga.length p) 2 0 6] (lC 75 b (lf e m j V (14*K+40) (D+40*K+100) oM oM oM M false a ga l p F (LQ.mono ha oM) (fun i=>LQ.mono (B i) oM) _ _ b.g b.f.2.1 b.f.1) ?_))));rintro _ _ zI b ⟨bk,rfl,b9⟩;replace b:=b.aS b9;refine lP 0 0 (qZ (a*((-1:Int):Rat)) (sB bk) (((ov m).map fun i=>ga.getD i 0*((-1:Int):Rat)).length) m) b (fun _ b=>lD ?_);intro a_ J;replace b:=(b.tl.aS b.f.1);exact ⟨_,⟨a*((-1:Int):Rat),((ov m).map fun i=>ga.getD i 0*((-1:Int):Rat)),sB bk,m,zI,rfl,b.to _ _,(Br oM),(fun i_ d=>by rw[if_pos oM,iD d]),(fa _ _),(LQ.mono (ha.mul (LQ.int (z:=-1) kD kD)) oM),(j4 (fun i=>LQ.mono ((B i).mul (LQ.int (z:=-1) kD kD)) oM) oM)⟩,J.to _ kR⟩
   rintro _ _ ⟨x,u,U,Z,_,rfl,b,hxq,hxg,hlx,Q,C⟩;refine cQ (cR 23 [] mixed b am ?_);refine eV 0 76 (pB y) (eO 1 77 [(4,0,1)] (.iface 73 (.agg #[qS e m j])) b (eO 2 78 [(2,0,6)] (qY a l ga.length p) b (eV 3 79 (pB y) (eO 4 80 [(4,0,1)] (.iface 73 (.agg #[qS e m j])) b (eV 5 81 (pB y) (eO 6 82 [(4,0,1)] (.iface 73 (.agg #[qS e m j])) b (eO 7 83 [(0,0,6)] (qY x U u.length Z) b (eV 8 84 (pB y) (eO 9 85 [(4,0,1)] (.iface 73 (.agg #[qS e m j])) b (eV 11 87 (.iface 73 (.agg #[qS e m j])) (eV 12 88 (.iface 73 (.agg #[qS e m j])) (eV 14 90 (.iface 73 (.agg #[qS e m j])) (eV 15 91 (.iface 73 (.agg #[qS e m j])) (eV 17 93 (.iface 73 (.agg #[qS e m j])) (eV 18 94 (.iface 73 (.agg #[qS e m j])) (eV 20 96 (.iface 73 (.agg #[qS e m j])) (eV 21 97 (.iface 73 (.agg #[qS e m j])) (ai 10 86 b (fun _ _ b=>tY (1) kD kD _ _ b.g) (fun _ _ b=>eC 13 89 b (fun _ _ b=>fR e m j V ((1:Int):Rat) _ _ b.g) ?_)))))))))))))))))));rintro _ _ _ _ _ b ⟨cm,rfl,b2⟩;replace b:=b.aS b2;have cd:=hxq;have O:LQ (K+3) (x+((1:Int):Rat)):=LQ.mono (LQ.add Q (LQ.int (z:=1) kD kD)) oM;have X:∀ i,LQ (D+4) (((ov m).map fun i=>u.getD i 0+(yJ m (0:Rat)).getD i 0).getD i 0):=j4 (fun i=>LQ.mono (LQ.add (C i) (by rw[dC];exact iZ (nR 1))) oM) oM;refine eC 16 92 b (fun _ _ b=>Bw e m j V (14*K+40) (D+40*K+100) oM oM oM x u U Z hlx (LQ.mono Q oM) (fun i=>LQ.mono (C i) oM) ((1:Int):Rat) (yJ m (0:Rat)) (sB cm) m HK (LQ.mono (LQ.int kD kD) oM) (fun i=>by rw[dC];exact iZ oM) _ _ b.g b.f.2.1 b.f.1 b.f.r.1) ?_;rintro _ _ _ _ _ b ⟨cq,rfl,bz⟩;replace b:=b.aS bz;refine eC 19 95 b (fun _ _ b=>l8 e m j V (14*K+40) (D+40*K+100) oM oM oM (x+((1:Int):Rat)) ((ov m).map fun i=>u.getD i 0+(yJ m (0:Rat)).getD i 0) (sB cq) m (fa _ _) (LQ.mono O oM) (fun i=>LQ.mono (X i) oM) (pA (BW cd)) _ _ b.g b.f.1 b.f.r.2.1) ?_;rintro _ _ _ _ _ b ⟨ch,rfl,b6⟩;replace b:=b.aS b6;refine eC 22 98 b (fun _ _ b=>wk e m j V (14*K+40) (D+40*K+100) oM oM oM a ga l p F (LQ.mono ha oM) (fun i=>LQ.mono (B i) oM) (((1:Int):Rat)/(x+((1:Int):Rat))) ((ov m).map fun i=>((ov m).map fun i=>u.getD i 0+(yJ m (0:Rat)).getD i 0).getD i 0*(-((((1:Int):Rat)/(x+((1:Int):Rat)))*(((1:Int):Rat)/(x+((1:Int):Rat)))))) (sB ch) m (fa _ _) (LQ.mono (LQ.div (LQ.int (z:=1) kD kD) O) oM) (j4 (fun i=>LQ.mono ((X i).mul ((LQ.div (LQ.int (z:=1) kD kD) O).mul (LQ.div (LQ.int (z:=1) kD kD) O)).neg) oM) oM) _ _ b.g b.f.q.2.1 b.f.1 b.f.q.1) ?_;rintro _ _ _ _ _ b ⟨bt,rfl,b0⟩;replace b:=b.aS b0;refine bW b (fun _ _ b=>tP 23 1 0 (qZ (a*(((1:Int):Rat)/(x+((1:Int):Rat)))) (sB bt) (((ov m).map fun i=>ga.getD i 0*(((1:Int):Rat)/(x+((1:Int):Rat)))+a*((ov m).map fun i=>((ov m).map fun i=>u.getD i 0+(yJ m (0:Rat)).getD i 0).getD i 0*(-((((1:Int):Rat)/(x+((1:Int):Rat)))*(((1:Int):Rat)/(x+((1:Int):Rat)))))).getD i 0).length) m) b (fun _ b=>tV 24 7 (iV 0) (tN (kX ?_))));obtain rfl:op=11:=by omega
   have H:bI 11 n a 0=0:=(dq (fun d=>absurd d kD) (fun d=>absurd d kD) (fun d=>absurd d kD) (fun d=>absurd d kD));exact b.ret [(1,0,6)] (.tuple #[qY (a*(((1:Int):Rat)/(x+((1:Int):Rat)))) (sB bt) (((ov m).map fun i=>ga.getD i 0*(((1:Int):Rat)/(x+((1:Int):Rat)))+a*((ov m).map fun i=>((ov m).map fun i=>u.getD i 0+(yJ m (0:Rat)).getD i 0).getD i 0*(-((((1:Int):Rat)/(x+((1:Int):Rat)))*(((1:Int):Rat)/(x+((1:Int):Rat)))))).getD i 0).length) m,iV 0]) (⟨a*(((1:Int):Rat)/(x+((1:Int):Rat))),((ov m).map fun i=>ga.getD i 0*(((1:Int):Rat)/(x+((1:Int):Rat)))+a*((ov m).map fun i=>((ov m).map fun i=>u.getD i 0+(yJ m (0:Rat)).getD i 0).getD i 0*(-((((1:Int):Rat)/(x+((1:Int):Rat)))*(((1:Int):Rat)/(x+((1:Int):Rat)))))).getD i 0),_,_,by rw[H],b.f.1,fun _=>(EX hxq hxg)⟩)
  have zr:=eq_of_beq zd;refine lB 24 zd ?_;refine lL b ac (ar (CG.join (fun Γ w_=>∃  (d:Hp),Γ=[(3,pB y),(4,pB I),(5,pB b7),(6,pB za),(8,iV a.num.sign)]/\SS w h w_ d [⟨za,54,[qF,uV 0,eS,uV 0,eS,sZ]⟩,⟨b7,54,qZ a l ga.length p⟩,⟨I,42,be ⟨op,n,q,s,A,kn,c⟩⟩,⟨y,79,[.iface 73 (.agg #[qS e m j]),.map (some M),qF]⟩] [] [fun d=>Tab d,Sq l ga]/\(n<0->a.num.sign≠0)) ?_ ?_))
  .
   refine aa b [.v (qP I 1),.o (iV n) 2 1 1] ?_;cases zk:(decide ((n:Int)<(0:Int)))
   .
    have zx:=oF zk;refine lB 27 zk (lL b ac (lG 29 ?_));refine lG 30 (lL b [.v qF] (aj (CG.skip ?_)));intro a_ J;exact ⟨_,⟨zn,rfl,b.to _ _,(fun d=>by omega)⟩,J.to _ kR⟩
   have zx:=oT zk;refine lB 27 zk (lL b aF ?_);cases zl:((a.num.sign:Int) == (0:Int))
   .
    have zA:=aq zl;refine lB 30 zl (lL b [.v qF] (aj (CG.skip ?_)));intro a_ J;exact ⟨_,⟨zn,rfl,b.to _ _,(fun d=>by omega)⟩,J.to _ kR⟩
   have zA:=eq_of_beq zl;refine lB 30 zl (lL b [.v qT] (ar (aa b [.o (qY a l ga.length p) 1 0 6] (lP 0 0 (qZ a l ga.length p) b (fun _ b=>lL b ac (lN (kX ?_)))))));obtain rfl:op=8:=by omega
   have H:bI 8 n a 0=6:=(Aj (.inr ⟨rfl,by omega,vx oM⟩));exact b.ret [(0,0,6)] (.tuple #[qY a l ga.length p,iV 6]) (⟨a,ga,_,_,by rw[H],b.f.2.1,fun d=>absurd d (by rw[H];decide)⟩)
  rintro _ _ ⟨zJ,rfl,b,bl⟩;refine CG.join (fun Γ w_=>∃ (x:Rat)(u:List Rat)(U:Z9)(Z:Nat)(d:Hp),Γ=[(3,pB y),(4,pB I),(5,pB b7),(6,pB za),(8,iV a.num.sign)]/\SS w h w_ d [⟨za,54,[qF,uV 0,eS,uV 0,eS,sZ]⟩,⟨b7,54,qZ x U u.length Z⟩,⟨I,42,be ⟨op,n,q,s,A,kn,c⟩⟩,⟨y,79,[.iface 73 (.agg #[qS e m j]),.map (some M),qF]⟩] [] [Sq U u,fun d=>Tab d,Sq l ga]/\((0<=n/\x=a/\u=ga)\/(n<0/\a≠0/\x=(((1:Int):Rat)/a)/\u=((ov m).map fun i=>ga.getD i 0*(-((((1:Int):Rat)/a)*(((1:Int):Rat)/a))))))/\u.length=m/\LQ (1+K) x/\(∀ i,LQ (D+2*K+2) (u.getD i 0))) ?_ ?_
  .
   refine aa b [.v (qP I 1),.o (iV n) 2 1 1] ?_;cases zm:(decide ((n:Int)<(0:Int)))
   .
    have zB:=oF zm;refine lB 35 zm (aj (CG.skip ?_));intro a_ J;replace b:=b.aS b.f.2.1;exact ⟨_,⟨a,ga,l,p,zJ,rfl,b.to _ _,(.inl ⟨by omega,rfl,rfl⟩),F,(ha.mono oM),(fun i=>(B i).mono oM)⟩,J.to _ kR⟩
   have zB:=oT zm;refine lB 35 zm (ar (kQ (lL b [.v (pB y),.o (.iface 73 (.agg #[qS e m j])) 3 0 1,.o (qY a l ga.length p) 1 0 6] (lC 39 b (l8 e m j V (14*K+40) (D+40*K+100) oM oM oM a ga l p F (LQ.mono ha oM) (fun i=>LQ.mono (B i) oM) (pA (i7 (bl oM))) _ _ b.g b.f.2.1 b.f.1) ?_))));rintro _ _ zK b ⟨bx,rfl,b3⟩;replace b:=b.aS b3;refine lP 1 0 (qZ (((1:Int):Rat)/a) (sB bx) (((ov m).map fun i=>ga.getD i 0*(-((((1:Int):Rat)/a)*(((1:Int):Rat)/a)))).length) m) b (fun _ b=>lD ?_);intro a_ J;replace b:=(b.tl.aS b.f.1);exact ⟨_,⟨((1:Int):Rat)/a,((ov m).map fun i=>ga.getD i 0*(-((((1:Int):Rat)/a)*(((1:Int):Rat)/a)))),sB bx,m,zK,rfl,b.to _ _,(.inr ⟨by omega,i7 (bl oM),rfl,rfl⟩),(fa _ _),(LQ.div (LQ.int (z:=1) kD kD) ha),(j4 (fun i=>LQ.mono ((B i).mul ((LQ.div (LQ.int (z:=1) kD kD) ha).mul (LQ.div (LQ.int (z:=1) kD kD) ha)).neg) (by omega:_<=D+2*K+2)) oM)⟩,J.to _ kR⟩
  rintro _ _ ⟨x,u,U,Z,_,rfl,b,hxd,hlx,Q,C⟩;refine cQ ?_;have hsr:=b;refine cR 7 [⟨6,9,.cells (GX [qF,uV 0,eS,uV 0,eS,sZ]) 54 (0,0)⟩] mixed b (aW (cl kR (fun _ _=>by kernel_rfl)) am) (eV 0 40 (pB y) (eO 1 41 [(3,0,1)] (.iface 73 (.agg #[qS e m j])) b (eV 3 43 (.iface 73 (.agg #[qS e m j])) (eV 4 44 (.iface 73 (.agg #[qS e m j])) (ai 2 42 b (fun _ _ b=>tY (1) kD kD _ _ b.g) (fun _ _ b=>eC 5 45 b (fun _ _ b=>fR e m j V ((1:Int):Rat) _ _ b.g) ?_))))));rintro _ _ _ _ _ b ⟨L,rfl,bf⟩;replace b:=b.aS bf;refine dm [] hsr b 54 [qF,uV 0,eS,uV 0,eS,sZ] (fun _ zE zo b=>tP 7 0 0 (qZ ((1:Int):Rat) (sB L) ((yJ m (0:Rat)).length) m) b (fun _ b=>tN (cQ (aa b [.v (qP I 1),.o (iV n) 3 1 1,.v (qP I 1),.o (iV n) 3 1 1] (lI 50 (0-n) ?_)))));refine lV 51 (iV (max (n:Int) (0-n:Int))) ?_ (hr:=aY (n:=(if (0-n:Int)>(n:Int) then (0-n:Int) else (n:Int))) kR (by simp only[AC]));refine lL b ac (ba ?_);replace b:=b.aS b.f.1;refine bS _ (CG.loop (fun μ_ Γ w_=>∃ (k:Nat)(Ap:Z9)(cp:Nat)(S:List Rat)(d:Hp),μ_=n.natAbs-k/\Γ=[(3,pB y),(4,pB I),(5,pB b7),(6,pB za),(8,iV a.num.sign),(9,pB zo),(51,iV (max (n:Int) (0-n:Int))),(52,nV k)]/\SS w h w_ d [⟨zo,54,qZ (cO x k) Ap S.length cp⟩,⟨za,54,[qF,uV 0,eS,uV 0,eS,sZ]⟩,⟨b7,54,qZ x U u.length Z⟩,⟨I,42,be ⟨op,n,q,s,A,kn,c⟩⟩,⟨y,79,[.iface 73 (.agg #[qS e m j]),.map (some M),qF]⟩] [] [Sq Ap S,Sq (sB L) (yJ m (0:Rat)),Sq U u,fun d=>Tab d,Sq l ga]/\k<=n.natAbs/\S.length=m/\(∀ i,S.getD i 0=((k:Int):Rat)*cO x (k-1)*u.getD i 0)) _ ⟨0,sB L,m,(yJ m (0:Rat)),zE,rfl,rfl,b.to _ _,GA _,HK,(fun i=>by rw[dC];show (0:Rat)=((0:Int):Rat)*_*_;rw[i0];grind)⟩ ?_);rintro _ _ _ ⟨k,Ap,cp,S,_,cr,rfl,b,hk,hlp,hgp⟩;refine aD ?_;cases zb:(decide ((k:Int)<(max (n:Int) (0-n:Int):Int)))
  .
   have zp:=oF zb;refine lB 53 zb (af (cG (CG.exit ?_)))
   show CG _ _ _ _ _ _ _ _
   refine aa b [.o (qY (cO x k) Ap S.length cp) 0 0 6] (lP 1 0 (qZ (cO x k) Ap S.length cp) b (fun _ b=>lL b ac (lN (kX ?_))));obtain rfl:op=8:=by omega
   have H:bI 8 n a 0=0:=(dq (fun d=>absurd d kD) (fun _ d=>by rcases hxd with ⟨h1_,_⟩|⟨_,h2_,_⟩;omega;exact h2_) (fun d=>absurd d kD) (fun d=>absurd d kD));exact b.ret [(1,0,6)] (.tuple #[qY (cO x k) Ap S.length cp,iV 0]) (⟨cO x k,S,_,_,by rw[H],b.f.1,fun _=>(by rcases hxd with ⟨h1_,e1_,e2_⟩|⟨h1_,h2_,e1_,e2_⟩;subst e1_ e2_;exact E0 h1_ oM hlp hgp;subst e1_;exact E6 h1_ h2_ oM hlp e2_ hgp)⟩)
  have zp:=oT zb;refine lB 53 zb (af (bY (cK (cQ (kZ (kQ (lL b [.v (pB y),.o (.iface 73 (.agg #[qS e m j])) 4 0 1,.o (qY (cO x k) Ap S.length cp) 0 0 6,.o (qY x U u.length Z) 2 0 6] (lC 58 b (wk e m j V (14*K+40) (D+40*K+100) oM oM oM (cO x k) S Ap cp hlp (LQ.mono (je Q k) (by have:=yG (1+K) (show k<=12 by omega);omega)) (fun i=>by rw[hgp i];exact LQ.mono (((LQ.int (z:=(k:Int)) oM oM).mul (je Q (k-1))).mul (C i)) (by have:=yG (1+K) (show k-1<=12 by omega);omega)) x u U Z hlx (LQ.mono Q oM) (fun i=>LQ.mono (C i) oM) _ _ b.g b.f.1 b.f.r.1 b.f.r.2.1) ?_))))))));rintro _ _ zG b ⟨W,rfl,bb⟩;replace b:=b.aS bb;refine lP 0 0 (qZ ((cO x k)*x) (sB W) (((ov m).map fun i=>S.getD i 0*x+(cO x k)*u.getD i 0).length) m) b (fun _ b=>lN (kQ (bA 59 ((k:Nat)+1) (k+1) ?_)));refine lL b ac (lD ?_);intro a_ J;replace b:=(b.tl.tl.aS b.f.1);refine ⟨_,_,?_,⟨k+1,sB W,m,((ov m).map fun i=>S.getD i 0*x+(cO x k)*u.getD i 0),zG,rfl,rfl,b.to _ _,oM,(fa _ _),(xt hlx hgp)⟩,J.to _ kR⟩
  omega
 have zq:=eq_of_beq zc;refine lB 19 zc (lL b ac (ar (aa b [.o (.agg #[.iface 73 (.agg #[qS e m j]),.map (some M),qF]) 3 0 3,.o (qY a l ga.length p) 1 0 6] (lC 22 b (lf e m j V (14*K+40) (D+40*K+100) oM oM oM M false a ga l p F (LQ.mono ha oM) (fun i=>LQ.mono (B i) oM) _ _ b.g b.f.2.1 b.f.1) ?_))));rintro _ _ _ b ⟨Y,rfl,bd⟩;replace b:=b.aS bd;refine lP 0 0 (qZ (a*((-1:Int):Rat)) (sB Y) (((ov m).map fun i=>ga.getD i 0*((-1:Int):Rat)).length) m) b (fun _ b=>lL b ac (lN (kX ?_)));obtain rfl:op=7:=by omega
 have H:bI 7 n a 0=0:=(dq (fun d=>absurd d kD) (fun d=>absurd d kD) (fun d=>absurd d kD) (fun d=>absurd d kD));exact b.ret [(0,0,6)] (.tuple #[qY (a*((-1:Int):Rat)) (sB Y) (((ov m).map fun i=>ga.getD i 0*((-1:Int):Rat)).length) m,iV 0]) (⟨a*((-1:Int):Rat),((ov m).map fun i=>ga.getD i 0*((-1:Int):Rat)),_,_,by rw[H],b.f.1,fun _=>FX⟩)
theorem qp (l:Z9)(m u:Nat)(J:m<=1000)(K D:Nat)(hK1:1<=K)(hKD:K<=60000)(hD:D<=10000000)(bm:Nat)(op n:Int)(q:Rat)(s:ByteArray)(A:Z9)(kn c:Nat)(a:Rat)(ga:List Rat)(j:Z9)(p:Nat)(C:ga.length=m)(ha:LQ K a)(L:∀ i,LQ D (ga.getD i 0))(b:Rat)(gb:List Rat)(x:Z9)(y:Nat)(H:gb.length=m)(I:LQ K b)(F:∀ i,LQ D (gb.getD i 0))(hop:3<=op/\op<=6\/12<=op/\op<=13)(w:World)(h:Hp)(g:G w h)(hSa:Sq j ga h)(hSb:Sq x gb h)(tb:Tab h):CR 60 #[.agg #[.iface 73 (.agg #[.slice l m u]),.map (some bm),.bool false],az ⟨op,n,q,s,A,kn,c⟩,qY a j ga.length p,qY b x gb.length y] w h (fun v h1=>∃ (q_:Rat)(G_:List Rat)(A_:Z9)(c_:Nat),v=.tuple #[iy q_ A_ G_.length c_,iV (bI op n a b)]/\Sq A_ G_ h1/\(bI op n a b=0->q_=ko op n 0 a b/\G_=g8 m op n a b ga gb)):=by
 have d:=((((sS g).aS hSa).aS hSb).aB tb);refine go Tryz.func60 [(0,.agg #[.iface 73 (.agg #[qS l m u]),.map (some bm),qF]),(1,az ⟨op,n,q,s,A,kn,c⟩),(2,qY a j ga.length p),(3,qY b x gb.length y)] rfl (aD (lA 4 79 ([.iface 73 (.agg #[qS l m u]),.map (some bm),qF]) d (fun U w2 h3 d=>lA 5 42 (be ⟨op,n,q,s,A,kn,c⟩) d (fun b4 w5 h6 d=>lA 6 54 (qZ a j ga.length p) d (fun b7 w8 h9 d=>lA 7 54 (qZ b x gb.length y) d (fun b10 _ _ d=>lA 8 54 ([qF,uV 0,eS,uV 0,eS,sZ]) d (fun b13 _ _ d=>lL d ac (af (aa d [.v (pB b4),.o (iV op) 3 0 1] (ba (aD ?_)))))))))));cases za:((op:Int) == (3:Int))
 .
  have zk:=aq za;refine lB 14 za (lL d ac (aj (aD ?_)));cases zb:((op:Int) == (4:Int))
  .
   have zl:=aq zb;refine lB 21 zb (lL d ac (aj (aD ?_)));cases zc:((op:Int) == (5:Int))
   .
    have zm:=aq zc;refine lB 32 zc (lL d ac (aj (aD ?_)));cases zd:((op:Int) == (6:Int))
    .
     have zn:=aq zd;refine lB 39 zd (lL d ac (aj (cK (cQ (cR 9 [] mixed d am ?_)))));refine eV 0 57 (pB U) (eO 1 58 [(4,0,1)] (.iface 73 (.agg #[qS l m u])) d (eO 2 59 [(2,0,6)] (qY a j ga.length p) d (eV 4 61 (pB U) (eO 5 62 [(4,0,1)] (.iface 73 (.agg #[qS l m u])) d (eO 6 63 [(1,0,6)] (qY b x gb.length y) d (ai 3 60 d (fun _ _ d=>EK l m u J a j ga.length p _ _ d.g) (fun _ _ d=>ai 7 64 d (fun _ _ d=>EK l m u J b x gb.length y _ _ d.g) (fun _ _ d=>ai 8 65 d (fun _ _ d=>tE a b (LQ.mono ha oM) (LQ.mono I oM) _ _ d.g) (fun _ _ d=>bW d (fun _ _ d=>tV 9 10 (iV (dx a b)) (tN (cQ (aa d ac ?_)))))))))))));cases ze:((dx a b:Int) == (0:Int))
     .
      have zo:=aq ze;refine lB 67 ze (aj (cK (cQ (aa d ac ?_))));cases zf:(decide ((0:Int)<(dx a b:Int)))
      .
       have zp:=oF zf;refine lB 70 zf (lL d [.v (pB b4),.o (iV op) 3 0 1] ?_);cases zg:((op:Int) == (12:Int))
       .
        have zq:=aq zg;refine lB 73 zg (lL d [.v qT] (ar (aa d [.o (qY a j ga.length p) 2 0 6] (lP 0 0 (qZ a j ga.length p) d (fun _ d=>lL d ac (lN (kX ?_)))))));have B:bI op n a b=0:=(dq (fun e=>absurd e oM) (fun e=>absurd e oM) (fun e=>absurd e oM) (fun _=>fun e_=>absurd (iu.2 e_) oM));exact d.ret [(0,0,6)] (.tuple #[qY a j ga.length p,iV 0]) (⟨a,ga,_,_,by rw[B],d.f.r.1,fun _=>(xS C (td oM))⟩)
       have zq:=eq_of_beq zg;refine lB 73 zg (lL d [.v qF] (aj (cK (aa d [.o (qY b x gb.length y) 1 0 6] (lP 0 0 (qZ b x gb.length y) d (fun _ d=>lL d ac (lN (kX ?_))))))));have B:bI op n a b=0:=(dq (fun e=>absurd e oM) (fun e=>absurd e oM) (fun e=>absurd e oM) (fun _=>fun e_=>absurd (iu.2 e_) oM));exact d.ret [(0,0,6)] (.tuple #[qY b x gb.length y,iV 0]) (⟨b,gb,_,_,by rw[B],d.f.2.1,fun _=>(xy H (rN oM))⟩)
      have zp:=oT zf;refine lB 70 zf (lL d [.v (pB b4),.o (iV op) 3 0 1] ?_);cases zi:((op:Int) == (12:Int))
      .
       have zr:=aq zi;refine lB 73 zi (lL d [.v qF] (aj (cK (aa d [.o (qY b x gb.length y) 1 0 6] (lP 0 0 (qZ b x gb.length y) d (fun _ d=>lL d ac (lN (kX ?_))))))));have B:bI op n a b=0:=(dq (fun e=>absurd e oM) (fun e=>absurd e oM) (fun e=>absurd e oM) (fun _=>fun e_=>absurd (iu.2 e_) oM));exact d.ret [(0,0,6)] (.tuple #[qY b x gb.length y,iV 0]) (⟨b,gb,_,_,by rw[B],d.f.2.1,fun _=>(xy H (rN oM))⟩)
      have zr:=eq_of_beq zi;refine lB 73 zi (lL d [.v qT] (ar (aa d [.o (qY a j ga.length p) 2 0 6] (lP 0 0 (qZ a j ga.length p) d (fun _ d=>lL d ac (lN (kX ?_)))))));have B:bI op n a b=0:=(dq (fun e=>absurd e oM) (fun e=>absurd e oM) (fun e=>absurd e oM) (fun _=>fun e_=>absurd (iu.2 e_) oM));exact d.ret [(0,0,6)] (.tuple #[qY a j ga.length p,iV 0]) (⟨a,ga,_,_,by rw[B],d.f.r.1,fun _=>(xS C (td oM))⟩)
     have zo:=eq_of_beq ze;refine lB 67 ze (ar (aa d [.o (qY a j ga.length p) 2 0 6] (lP 0 0 (qZ a j ga.length p) d (fun _ d=>lL d ac (lN (kX ?_))))));have B:bI op n a b=7:=(AB (.inr ⟨by omega,iu.1 oM⟩));exact d.ret [(0,0,6)] (.tuple #[qY a j ga.length p,iV 7]) (⟨a,ga,_,_,by rw[B],d.f.r.1,fun e=>absurd e (by rw[B];decide)⟩)
    have zn:=eq_of_beq zd;refine lB 39 zd (lL d ac (ar (cQ (aa d [.v (pB U),.o (.iface 73 (.agg #[qS l m u])) 4 0 1,.o (qY b x gb.length y) 1 0 6] (ao 43 d (EK l m u J b x gb.length y _ _ d.g) (fun _ _ d=>ao 44 d (gI b (LQ.mono I oM) _ _ d.g) (fun _ _ d=>?_)))))));have bk:=jo b.num;cases zj:((b.num.sign:Int) == (0:Int))
    .
     have zs:=aq zj;refine lB 45 zj (aj (cK (cQ (cR 10 [] mixed d am ?_))));refine eV 0 47 (pB U) (eO 1 48 [(4,0,1)] (.iface 73 (.agg #[qS l m u])) d (eO 2 49 [(2,0,6)] (qY a j ga.length p) d (eV 3 50 (pB U) (eO 4 51 [(4,0,1)] (.iface 73 (.agg #[qS l m u])) d (eO 5 52 [(1,0,6)] (qY b x gb.length y) d (eV 7 54 (.iface 73 (.agg #[qS l m u])) (eV 8 55 (.iface 73 (.agg #[qS l m u])) (eC 6 53 d (fun _ _ d=>l8 l m u J (14*K+40) (D+40*K+100) oM oM oM b gb x y H (LQ.mono I oM) (fun i=>LQ.mono (F i) oM) (pA (i7 oM)) _ _ d.g d.f.2.1 d.f.1) ?_))))))));rintro _ _ _ _ _ d ⟨bd,rfl,Z⟩;replace d:=d.aS Z;refine eC 9 56 d (fun _ _ d=>wk l m u J (14*K+40) (D+40*K+100) oM oM oM a ga j p C (LQ.mono ha oM) (fun i=>LQ.mono (L i) oM) (((1:Int):Rat)/b) ((ov m).map fun i=>gb.getD i 0*(-((((1:Int):Rat)/b)*(((1:Int):Rat)/b)))) (sB bd) m (fa _ _) (LQ.mono (LQ.div (LQ.int (z:=1) kD kD) I) oM) (j4 (fun i=>LQ.mono ((F i).mul ((LQ.div (LQ.int (z:=1) kD kD) I).mul (LQ.div (LQ.int (z:=1) kD kD) I)).neg) oM) oM) _ _ d.g d.f.r.2.1 d.f.1 d.f.2.1) ?_;rintro _ _ _ _ _ d ⟨M,rfl,Y⟩;replace d:=d.aS Y;refine bW d (fun _ _ d=>tP 10 0 0 (qZ (a*(((1:Int):Rat)/b)) (sB M) (((ov m).map fun i=>ga.getD i 0*(((1:Int):Rat)/b)+a*((ov m).map fun i=>gb.getD i 0*(-((((1:Int):Rat)/b)*(((1:Int):Rat)/b)))).getD i 0).length) m) d (fun _ d=>tV 11 9 (iV 0) (tN (kX ?_))));obtain rfl:op=6:=by omega
     have B:bI 6 n a b=0:=(dq (fun _=>i7 oM) (fun e=>absurd e kD) (fun e=>absurd e kD) (fun e=>absurd e kD));exact d.ret [(0,0,6)] (.tuple #[qY (a*(((1:Int):Rat)/b)) (sB M) (((ov m).map fun i=>ga.getD i 0*(((1:Int):Rat)/b)+a*((ov m).map fun i=>gb.getD i 0*(-((((1:Int):Rat)/b)*(((1:Int):Rat)/b)))).getD i 0).length) m,iV 0]) (⟨a*(((1:Int):Rat)/b),((ov m).map fun i=>ga.getD i 0*(((1:Int):Rat)/b)+a*((ov m).map fun i=>gb.getD i 0*(-((((1:Int):Rat)/b)*(((1:Int):Rat)/b)))).getD i 0),_,_,by rw[B],d.f.1,fun _=>(Fz (i7 oM))⟩)
    have zs:=eq_of_beq zj;refine lB 45 zj (ar (aa d [.o (qY a j ga.length p) 2 0 6] (lP 0 0 (qZ a j ga.length p) d (fun _ d=>lL d ac (lN (kX ?_))))));obtain rfl:op=6:=by omega
    have B:bI 6 n a b=6:=(Aj (.inl ⟨rfl,vx oM⟩));exact d.ret [(0,0,6)] (.tuple #[qY a j ga.length p,iV 6]) (⟨a,ga,_,_,by rw[B],d.f.r.1,fun e=>absurd e (by rw[B];decide)⟩)
   have zm:=eq_of_beq zc;refine lB 32 zc (lL d ac (ar (aa d [.v (pB U),.o (.iface 73 (.agg #[qS l m u])) 4 0 1,.o (qY a j ga.length p) 2 0 6,.o (qY b x gb.length y) 1 0 6] (lC 37 d (wk l m u J (14*K+40) (D+40*K+100) oM oM oM a ga j p C (LQ.mono ha oM) (fun i=>LQ.mono (L i) oM) b gb x y H (LQ.mono I oM) (fun i=>LQ.mono (F i) oM) _ _ d.g d.f.r.1 d.f.2.1 d.f.1) ?_))));rintro _ _ _ d ⟨Q,rfl,V⟩;replace d:=d.aS V;refine lP 0 0 (qZ (a*b) (sB Q) (((ov m).map fun i=>ga.getD i 0*b+a*gb.getD i 0).length) m) d (fun _ d=>lL d ac (lN (kX ?_)));obtain rfl:op=5:=by omega
   have B:bI 5 n a b=0:=(dq (fun e=>absurd e kD) (fun e=>absurd e kD) (fun e=>absurd e kD) (fun e=>absurd e kD));exact d.ret [(0,0,6)] (.tuple #[qY (a*b) (sB Q) (((ov m).map fun i=>ga.getD i 0*b+a*gb.getD i 0).length) m,iV 0]) (⟨a*b,((ov m).map fun i=>ga.getD i 0*b+a*gb.getD i 0),_,_,by rw[B],d.f.1,fun _=>⟨rfl,FK⟩⟩)
  have zl:=eq_of_beq zb;refine lB 21 zb (lL d ac (ar (cQ (cR 9 [] mixed d am ?_))));refine eV 0 22 (pB U) (eO 1 23 [(4,0,1)] (.iface 73 (.agg #[qS l m u])) d (eO 2 24 [(2,0,6)] (qY a j ga.length p) d (eO 3 25 [(4,0,3)] (.agg #[.iface 73 (.agg #[qS l m u]),.map (some bm),qF]) d (eO 4 26 [(1,0,6)] (qY b x gb.length y) d (eV 6 28 (.iface 73 (.agg #[qS l m u])) (eV 7 29 (.iface 73 (.agg #[qS l m u])) (eC 5 27 d (fun _ _ d=>lf l m u J (14*K+40) (D+40*K+100) oM oM oM bm false b gb x y H (LQ.mono I oM) (fun i=>LQ.mono (F i) oM) _ _ d.g d.f.2.1 d.f.1) ?_)))))));rintro _ _ _ _ _ d ⟨bf,rfl,bb⟩;replace d:=d.aS bb;refine eC 8 30 d (fun _ _ d=>Bw l m u J (14*K+40) (D+40*K+100) oM oM oM a ga j p C (LQ.mono ha oM) (fun i=>LQ.mono (L i) oM) (b*((-1:Int):Rat)) ((ov m).map fun i=>gb.getD i 0*((-1:Int):Rat)) (sB bf) m (fa _ _) (LQ.mono (I.mul (LQ.int (z:=-1) kD kD)) oM) (j4 (fun i=>((F i).mul (LQ.int (z:=-1) kD kD)).mono oM) oM) _ _ d.g d.f.r.2.1 d.f.1 d.f.2.1) ?_;rintro _ _ _ _ _ d ⟨S,rfl,W⟩;replace d:=d.aS W;refine bW d (fun _ _ d=>tP 9 0 0 (qZ (a+(b*((-1:Int):Rat))) (sB S) (((ov m).map fun i=>ga.getD i 0+((ov m).map fun i=>gb.getD i 0*((-1:Int):Rat)).getD i 0).length) m) d (fun _ d=>tV 10 9 (iV 0) (tN (kX ?_))));obtain rfl:op=4:=by omega
  have B:bI 4 n a b=0:=(dq (fun e=>absurd e kD) (fun e=>absurd e kD) (fun e=>absurd e kD) (fun e=>absurd e kD));exact d.ret [(0,0,6)] (.tuple #[qY (a+(b*((-1:Int):Rat))) (sB S) (((ov m).map fun i=>ga.getD i 0+((ov m).map fun i=>gb.getD i 0*((-1:Int):Rat)).getD i 0).length) m,iV 0]) (⟨a+(b*((-1:Int):Rat)),((ov m).map fun i=>ga.getD i 0+((ov m).map fun i=>gb.getD i 0*((-1:Int):Rat)).getD i 0),_,_,by rw[B],d.f.1,fun _=>FV⟩)
 have zk:=eq_of_beq za;refine lB 14 za (lL d ac (ar (aa d [.v (pB U),.o (.iface 73 (.agg #[qS l m u])) 4 0 1,.o (qY a j ga.length p) 2 0 6,.o (qY b x gb.length y) 1 0 6] (lC 19 d (Bw l m u J (14*K+40) (D+40*K+100) oM oM oM a ga j p C (LQ.mono ha oM) (fun i=>LQ.mono (L i) oM) b gb x y H (LQ.mono I oM) (fun i=>LQ.mono (F i) oM) _ _ d.g d.f.r.1 d.f.2.1 d.f.1) ?_))));rintro _ _ _ d ⟨O,rfl,X⟩;replace d:=d.aS X;refine lP 0 0 (qZ (a+b) (sB O) (((ov m).map fun i=>ga.getD i 0+gb.getD i 0).length) m) d (fun _ d=>lL d ac (lN (kX ?_)));obtain rfl:op=3:=by omega
 have B:bI 3 n a b=0:=(dq (fun e=>absurd e kD) (fun e=>absurd e kD) (fun e=>absurd e kD) (fun e=>absurd e kD));exact d.ret [(0,0,6)] (.tuple #[qY (a+b) (sB O) (((ov m).map fun i=>ga.getD i 0+gb.getD i 0).length) m,iV 0]) (⟨a+b,((ov m).map fun i=>ga.getD i 0+gb.getD i 0),_,_,by rw[B],d.f.1,fun _=>⟨rfl,FW⟩⟩)
theorem B1 (ok:ByteArray->Prop)(ix:ByteArray->Nat)(fs:List Rat)(b:Z9)(e:Nat)(y:fs.length<=1000)(i:Nat)(u:List MapEntry)(d:Nat)(n:Int)(q:Rat)(s:ByteArray)(A:Z9)(c:Nat)(ps:List PTm)(ks:List Tm)(w:World)(h:Hp)(g:G w h)(C:SlO 9 be aZ h A ps)(F:Sq b fs h)(hM:MapS h i u):CR 24 #[.agg #[.iface 73 (.agg #[.slice b fs.length e]),.map (some i),.bool false],az ⟨1,n,q,s,A,ps.length,c⟩] w h (fun v h1=>∃ (x:Z9)(c_:Nat),v=.tuple #[iy (aA ix fs (d+1) (.mk 1 n q s ks)).2.1 x (aA ix fs (d+1) (.mk 1 n q s ks)).2.2.length c_,iV (aA ix fs (d+1) (.mk 1 n q s ks)).1]/\Sq x (aA ix fs (d+1) (.mk 1 n q s ks)).2.2 h1):=by
 have a:=((((sS g).aS C).aS F).add (K:=fun D=>MapS D i u) hM);refine go Tryz.func24 [(0,.agg #[.iface 73 (.agg #[qS b fs.length e]),.map (some i),qF]),(1,az ⟨1,n,q,s,A,ps.length,c⟩)] rfl (aD (lA 2 79 ([.iface 73 (.agg #[qS b fs.length e]),.map (some i),qF]) a (fun z w2 H a=>lA 3 42 (be ⟨1,n,q,s,A,ps.length,c⟩) a (fun l O M a=>lA 4 54 ([qF,uV 0,eS,uV 0,eS,sZ]) a (fun I J L a=>lL a ac (aK (lA 6 54 ([qF,uV 0,eS,uV 0,eS,sZ]) a (fun B _ _ a=>af (aa a [.v (pB l),.o (iV 1) 2 0 1] (ba (aa a [.v qT,.c] (ar (aa a [.v (pB z),.o (.iface 73 (.agg #[qS b fs.length e])) 3 0 1,.v (qP l 2),.o (qv q) 2 2 5] (lC 19 a (fR b fs.length e y q _ _ a.g) ?_))))))))))))));rintro _ _ _ a ⟨p,rfl,j⟩;replace a:=a.aS j;exact lP 1 0 (qZ q (sB p) ((yJ fs.length (0:Rat)).length) fs.length) a (fun _ a=>lL a ac (ae a [(1,0,6)] (.tuple #[qY q (sB p) ((yJ fs.length (0:Rat)).length) fs.length,iV 0]) (⟨_,_,rfl,a.f.1⟩)))
theorem CQ (ok:ByteArray->Prop)(ix:ByteArray->Nat)(fs:List Rat)(b:Z9)(j:Nat)(D:fs.length<=1000)(e:Nat)(x:List MapEntry)(d:Nat)(n:Int)(q:Rat)(s:ByteArray)(A:Z9)(c:Nat)(ps:List PTm)(ks:List Tm)(u:ix s<fs.length)(p:∃ i,Instr.findNow .string (.string s) x 0=some (some (i,nV (ix s))))(w:World)(h:Hp)(g:G w h)(I:SlO 9 be aZ h A ps)(L:Sq b fs h)(hM:MapS h e x):CR 24 #[.agg #[.iface 73 (.agg #[.slice b fs.length j]),.map (some e),.bool false],az ⟨2,n,q,s,A,ps.length,c⟩] w h (fun v h1=>∃ (C:Z9)(c_:Nat),v=.tuple #[iy (aA ix fs (d+1) (.mk 2 n q s ks)).2.1 C (aA ix fs (d+1) (.mk 2 n q s ks)).2.2.length c_,iV (aA ix fs (d+1) (.mk 2 n q s ks)).1]/\Sq C (aA ix fs (d+1) (.mk 2 n q s ks)).2.2 h1):=by
 have a:=((((sS g).aS I).aS L).add (K:=fun J=>MapS J e x) hM);refine go Tryz.func24 [(0,.agg #[.iface 73 (.agg #[qS b fs.length j]),.map (some e),qF]),(1,az ⟨2,n,q,s,A,ps.length,c⟩)] rfl (aD (lA 2 79 ([.iface 73 (.agg #[qS b fs.length j]),.map (some e),qF]) a (fun y w2 O a=>lA 3 42 (be ⟨2,n,q,s,A,ps.length,c⟩) a (fun z W V a=>lA 4 54 ([qF,uV 0,eS,uV 0,eS,sZ]) a (fun Q S U a=>lL a ac (aK (lA 6 54 ([qF,uV 0,eS,uV 0,eS,sZ]) a (fun H _ _ a=>af (aa a [.v (pB z),.o (iV 2) 2 0 1] (ba (aa a [.v qF,.c] (aj (aa a [.v qT,.c] (ar (aa a [.v (pB y),.o (.iface 73 (.agg #[qS b fs.length j])) 3 0 1,.v (qP y 1),.o (.map (some e)) 3 1 1,.v (qP z 7),.o (.string s) 2 7 1] (C6 28 74 9 3 (s) false (nV (ix s)) (true) a a.f.1 ?_ (hf:=(by obtain ⟨F,M⟩:=p;exact .inl ⟨F,M,rfl⟩))))))))))))))))));refine lC 29 a (rO b fs.length j D fs rfl (ix s) u _ _ a.g a.f.2.1) ?_;rintro _ _ _ a ⟨B,rfl,l⟩;replace a:=a.aS l;exact lP 1 0 (qZ (fs.getD (ix s) 0) (sB B) ((ck fs.length (ix s)).length) fs.length) a (fun _ a=>lL a ac (ae a [(1,0,6)] (.tuple #[qY (fs.getD (ix s) 0) (sB B) ((ck fs.length (ix s)).length) fs.length,iV 0]) (⟨_,_,rfl,a.f.1⟩)))
theorem AO  (ok:ByteArray->Prop)(ix:ByteArray->Nat)(fs:List Rat)(j:Z9)(l:Nat)(hm:fs.length<=1000)(e:Nat)(es:List MapEntry)(d:Nat)(ih:∀ (p:PTm) (t:Tm) (w:World) (h:Hp),G w h->TmH d h p t->WfT1 ok d t->bu d t<=1000->Sq j fs h->MapS h e es->Tab h->Calls Tryz.prog 24 #[.agg #[.iface 73 (.agg #[.slice j fs.length l]),.map (some e),.bool false],az p] w (Ret w h (fun v h1=>∃ (D:Z9)(c_:Nat),v=.tuple #[iy (aA ix fs d t).2.1 D (aA ix fs d t).2.2.length c_,iV (aA ix fs d t).1]/\Sq D (aA ix fs d t).2.2 h1)))(op n:Int)(q:Rat)(s:ByteArray)(A:Z9)(c:Nat)(u:PTm)(b:Tm)(B:WfT1 ok d b)(J:bu d b<=1000)(W:LQ 3000 (aA ix fs d b).2.1)(U:∀ i,LQ 1000000 ((aA ix fs d b).2.2.getD i 0))(hop:3<=op/\op<=13)(har:fb op=1)(hn : -12<=n/\n<=12)(w:World)(h:Hp)(g:G w h)(hK:SlO 9 be aZ h A ([u]:List PTm))(Z:TmH d h u b)(hF:Sq j fs h)(hM:MapS h e es)(tb:Tab h):CR 24 #[.agg #[.iface 73 (.agg #[.slice j fs.length l]),.map (some e),.bool false],az ⟨op,n,q,s,A,1,c⟩] w h (fun v h1=>∃ (D:Z9)(c_:Nat),v=.tuple #[iy (aA ix fs (d+1) (.mk op n q s ([b]:List Tm))).2.1 D (aA ix fs (d+1) (.mk op n q s ([b]:List Tm))).2.2.length c_,iV (aA ix fs (d+1) (.mk op n q s ([b]:List Tm))).1]/\Sq D (aA ix fs (d+1) (.mk op n q s ([b]:List Tm))).2.2 h1):=by
 have a:=((((((sS g).aS hK).add (K:=fun X=>TmH d X u b) Z).aS hF).add (K:=fun X=>MapS X e es) hM).aB tb);have hln:([u]:List PTm).length=1:=rfl;have hac:=aN op;refine go Tryz.func24 [(0,.agg #[.iface 73 (.agg #[qS j fs.length l]),.map (some e),qF]),(1,az ⟨op,n,q,s,A,1,c⟩)] rfl (aD (lA 2 79 ([.iface 73 (.agg #[qS j fs.length l]),.map (some e),qF]) a (fun b1 w2 h3 a=>lA 3 42 (be ⟨op,n,q,s,A,1,c⟩) a (fun O w5 h6 a=>lA 4 54 ([qF,uV 0,eS,uV 0,eS,sZ]) a (fun b7 w8 h9 a=>lL a ac (aK (lA 6 54 ([qF,uV 0,eS,uV 0,eS,sZ]) a (fun b10 _ _ a=>af (aa a [.v (pB O),.o (iV op) 2 0 1] (ba (aD ?_)))))))))));have zc:((op:Int) == (1:Int))=false:=e9 oM;have L:=aq zc;refine lB 14 zc (lL a ac (aj (aD ?_)));have zd:((op:Int) == (2:Int))=false:=e9 oM;have V:=aq zd;refine lB 21 zd (lL a ac (aj (cK (cQ ?_))));have Y:=a;refine cR 10 [⟨9,7,.cells (GX [qF,uV 0,eS,uV 0,eS,sZ]) 54 (0,0)⟩] mixed a (aW (cl kR (fun _ _=>by kernel_rfl)) am) (eO 0 31 [(3,0,3)] (.agg #[.iface 73 (.agg #[qS j fs.length l]),.map (some e),qF]) a (eV 1 32 (qP O 8) (eO 2 33 [(2,8,1)] (qS A 1 c) a (eX 3 34 A 1 c 9 0 0 ((a.f.q.1).ok oM) (eH 4 35 (az (([u]:List PTm).getD 0 aZ)) a ((a.f.q.1).el 0 oM) (eC 5 36 a (fun _ _ a=>ih (([u]:List PTm).getD 0 aZ) b _ _ a.g a.f.r.2.1 B J a.f.r.1 a.f.2.1 a.f.1) ?_))))));rintro _ _ _ _ _ a ⟨x,c1,rfl,Q⟩;replace a:=a.aS Q;refine eV 6 30 (.tuple #[qY ((aA ix fs d b).2.1) x (((aA ix fs d b).2.2).length) c1,iV ((aA ix fs d b).1)]) (eV 7 37 (qY ((aA ix fs d b).2.1) x (((aA ix fs d b).2.2).length) c1) (eV 8 38 (iV ((aA ix fs d b).1)) (dm [] Y a 54 [qF,uV 0,eS,uV 0,eS,sZ] (fun _ _ zg a=>tP 10 0 0 (qZ ((aA ix fs d b).2.1) x (((aA ix fs d b).2.2).length) c1) a (fun _ a=>tV 11 8 (iV ((aA ix fs d b).1)) (tN (cQ (aa a ac ?_))))))));cases I:(((aA ix fs d b).1:Int) != (0:Int))
 .
  have ze:=aJ I;refine lB 40 I (aj (cK (cQ (aa a [.v (qP O 8),.o (qS A 1 c) 3 8 1,.v (iV 1),.v qT] (ar (kQ (lL a [.o (.agg #[.iface 73 (.agg #[qS j fs.length l]),.map (some e),qF]) 4 0 3,.o (az ⟨op,n,q,s,A,1,c⟩) 3 0 9,.o (qY ((aA ix fs d b).2.1) x (((aA ix fs d b).2.2).length) c1) 0 0 6] (lC 51 a (p9 j fs.length l hm 3000 1000000 kD kD kD e op n q s A 1 c (aA ix fs d b).2.1 (aA ix fs d b).2.2 x c1 (dM B oM) W U oM (fun _=>hn) _ _ a.g a.f.1 a.f.2.1) ?_))))))));rintro _ _ _ a ⟨C,Gr,F,y,rfl,M,S⟩;replace a:=a.aS M;refine lL a [.c,.v (qY C F Gr.length y),.v (iV (bI op n (aA ix fs d b).2.1 0))] (lP 0 0 (qZ C F Gr.length y) a (fun _ a=>lL a ac (af (aa a ac ?_))));cases H:(((bI op n (aA ix fs d b).2.1 0):Int) != (0:Int))
  .
   have zf:=aJ H;exact lB 76 H (aj (cK (aa a [.o (qY C F Gr.length y) 0 0 6] (lP 2 0 (qZ C F Gr.length y) a (fun _ a=>lL a ac (ae a [(2,0,6)] (.tuple #[qY C F Gr.length y,iV 0]) (by obtain ⟨e1_,z⟩:=S oM;rw[iY oM oM,ia oM rfl oM,e1_,z];exact ⟨_,_,rfl,by rw[<-z];exact a.f.1⟩)))))))
  have zf:=aU H;refine lB 76 H (ar (aa a [.o (.agg #[qF,uV 0,eS,uV 0,eS,sZ]) 1 0 6,.c] (lP 2 0 ([qF,uV 0,eS,uV 0,eS,sZ]) a (fun _ a=>lL a ac (lN (bS [(4,pB b7),(5,iV (bI op n (aA ix fs d b).2.1 0)),(7,pB zg)] ?_))))));exact kX (a.ret [(2,0,6)] (.tuple #[.agg #[qF,uV 0,eS,uV 0,eS,sZ],iV (bI op n (aA ix fs d b).2.1 0)]) (by rw[iY oM oM,g7 oM rfl oM];exact ⟨none,0,rfl,SlO.nil⟩))
 have ze:=aU I;exact lB 40 I (ar (aa a [.o (.agg #[qF,uV 0,eS,uV 0,eS,sZ]) 1 0 6,.c] (lP 2 0 ([qF,uV 0,eS,uV 0,eS,sZ]) a (fun _ a=>lL a ac (ae a [(2,0,6)] (.tuple #[.agg #[qF,uV 0,eS,uV 0,eS,sZ],iV ((aA ix fs d b).1)]) (by rw[iY oM oM,io oM];exact ⟨none,0,rfl,SlO.nil⟩))))))
theorem Bj  (ok:ByteArray->Prop)(ix:ByteArray->Nat)(fs:List Rat)(l:Z9)(y:Nat)(hm:fs.length<=1000)(j:Nat)(X:List MapEntry)(d:Nat)(ih:∀ (p:PTm) (t:Tm) (w:World) (h:Hp),G w h->TmH d h p t->WfT1 ok d t->bu d t<=1000->Sq l fs h->MapS h j X->Tab h->Calls Tryz.prog 24 #[.agg #[.iface 73 (.agg #[.slice l fs.length y]),.map (some j),.bool false],az p] w (Ret w h (fun v h1=>∃ (Q:Z9)(c_:Nat),v=.tuple #[iy (aA ix fs d t).2.1 Q (aA ix fs d t).2.2.length c_,iV (aA ix fs d t).1]/\Sq Q (aA ix fs d t).2.2 h1)))(op n:Int)(q:Rat)(s:ByteArray)(A:Z9)(c:Nat)(u:PTm)(b:Tm)(B:WfT1 ok d b)(hg1:bu d b<=1000)(hv1:LQ 3000 (aA ix fs d b).2.1)(hG1:∀ i,LQ 1000000 ((aA ix fs d b).2.2.getD i 0))(x:PTm)(e:Tm)(O:WfT1 ok d e)(hg2:bu d e<=1000)(hv2:LQ 3000 (aA ix fs d e).2.1)(hG2:∀ i,LQ 1000000 ((aA ix fs d e).2.2.getD i 0))(hop:3<=op/\op<=13)(har:fb op=2)(hn : -12<=n/\n<=12)(w:World)(h:Hp)(g:G w h)(hK:SlO 9 be aZ h A ([u,x]:List PTm))(hp1:TmH d h u b)(hp2:TmH d h x e)(hF:Sq l fs h)(hM:MapS h j X)(tb:Tab h):CR 24 #[.agg #[.iface 73 (.agg #[.slice l fs.length y]),.map (some j),.bool false],az ⟨op,n,q,s,A,2,c⟩] w h (fun v h1=>∃ (Q:Z9)(c_:Nat),v=.tuple #[iy (aA ix fs (d+1) (.mk op n q s ([b,e]:List Tm))).2.1 Q (aA ix fs (d+1) (.mk op n q s ([b,e]:List Tm))).2.2.length c_,iV (aA ix fs (d+1) (.mk op n q s ([b,e]:List Tm))).1]/\Sq Q (aA ix fs (d+1) (.mk op n q s ([b,e]:List Tm))).2.2 h1):=by
 have a:=(((((((sS g).aS hK).add (K:=fun J=>TmH d J u b) hp1).add (K:=fun J=>TmH d J x e) hp2).aS hF).add (K:=fun J=>MapS J j X) hM).aB tb);have hln:([u,x]:List PTm).length=2:=rfl;have hac:=aN op;refine go Tryz.func24 [(0,.agg #[.iface 73 (.agg #[qS l fs.length y]),.map (some j),qF]),(1,az ⟨op,n,q,s,A,2,c⟩)] rfl (aD (lA 2 79 ([.iface 73 (.agg #[qS l fs.length y]),.map (some j),qF]) a (fun b1 w2 h3 a=>lA 3 42 (be ⟨op,n,q,s,A,2,c⟩) a (fun H w5 h6 a=>lA 4 54 ([qF,uV 0,eS,uV 0,eS,sZ]) a (fun b7 w8 h9 a=>lL a ac (aK (lA 6 54 ([qF,uV 0,eS,uV 0,eS,sZ]) a (fun zj _ _ a=>af (aa a [.v (pB H),.o (iV op) 2 0 1] (ba (aD ?_)))))))))));have zd:((op:Int) == (1:Int))=false:=e9 oM;have bd:=aq zd;refine lB 14 zd (lL a ac (aj (aD ?_)));have ze:((op:Int) == (2:Int))=false:=e9 oM;have bb:=aq ze;refine lB 21 ze (lL a ac (aj (cK (cQ ?_))));have z:=a;refine cR 10 [⟨9,7,.cells (GX [qF,uV 0,eS,uV 0,eS,sZ]) 54 (0,0)⟩] mixed a (aW (cl kR (fun _ _=>by kernel_rfl)) am) (eO 0 31 [(3,0,3)] (.agg #[.iface 73 (.agg #[qS l fs.length y]),.map (some j),qF]) a (eV 1 32 (qP H 8) (eO 2 33 [(2,8,1)] (qS A 2 c) a (eX 3 34 A 2 c 9 0 0 ((a.f.q.2.1).ok oM) (eH 4 35 (az (([u,x]:List PTm).getD 0 aZ)) a ((a.f.q.2.1).el 0 oM) (eC 5 36 a (fun _ _ a=>ih (([u,x]:List PTm).getD 0 aZ) b _ _ a.g a.f.q.1 B hg1 a.f.r.1 a.f.2.1 a.f.1) ?_))))));rintro _ _ _ _ _ a ⟨C,c1,rfl,hS1⟩;replace a:=a.aS hS1;refine eV 6 30 (.tuple #[qY ((aA ix fs d b).2.1) C (((aA ix fs d b).2.2).length) c1,iV ((aA ix fs d b).1)]) (eV 7 37 (qY ((aA ix fs d b).2.1) C (((aA ix fs d b).2.2).length) c1) (eV 8 38 (iV ((aA ix fs d b).1)) (dm [] z a 54 [qF,uV 0,eS,uV 0,eS,sZ] (fun _ _ zk a=>tP 10 0 0 (qZ ((aA ix fs d b).2.1) C (((aA ix fs d b).2.2).length) c1) a (fun _ a=>tV 11 8 (iV ((aA ix fs d b).1)) (tN (cQ (aa a ac ?_))))))));cases V:(((aA ix fs d b).1:Int) != (0:Int))
 .
  have zf:=aJ V;refine lB 40 V (aj (cK (cQ (aa a [.v (qP H 8),.o (qS A 2 c) 3 8 1,.v (iV 2),.v qF] (aj (cQ ?_))))));have z:=a;refine cR 10 [⟨9,9,.cells (GX [qF,uV 0,eS,uV 0,eS,sZ]) 54 (0,0)⟩] mixed a (aW (cl kR (fun _ _=>by kernel_rfl)) am) (eO 0 55 [(4,0,3)] (.agg #[.iface 73 (.agg #[qS l fs.length y]),.map (some j),qF]) a (eV 1 56 (qP H 8) (eO 2 57 [(3,8,1)] (qS A 2 c) a (eX 3 58 A 2 c 9 1 1 ((a.f.q.r.1).ok oM) (eH 4 59 (az (([u,x]:List PTm).getD 1 aZ)) a ((a.f.q.r.1).el 1 oM) (eC 5 60 a (fun _ _ a=>ih (([u,x]:List PTm).getD 1 aZ) e _ _ a.g a.f.q.1 O hg2 a.f.r.2.1 a.f.r.1 a.f.2.1) ?_))))));rintro _ _ _ _ _ a ⟨F,c2,rfl,Z⟩;replace a:=a.aS Z;refine eV 6 54 (.tuple #[qY ((aA ix fs d e).2.1) F (((aA ix fs d e).2.2).length) c2,iV ((aA ix fs d e).1)]) (eV 7 61 (qY ((aA ix fs d e).2.1) F (((aA ix fs d e).2.2).length) c2) (eV 8 62 (iV ((aA ix fs d e).1)) (dm [] z a 54 [qF,uV 0,eS,uV 0,eS,sZ] (fun _ _ zl a=>tP 10 0 0 (qZ ((aA ix fs d e).2.1) F (((aA ix fs d e).2.2).length) c2) a (fun _ a=>tV 11 10 (iV ((aA ix fs d e).1)) (tN (bS [(2,pB b1),(3,pB H),(4,pB b7),(5,iV 0),(6,pB zj),(7,pB zk),(8,iV ((aA ix fs d b).1)),(9,pB zl),(10,iV ((aA ix fs d e).1))] ?_)))))));refine cQ (aa a ac ?_);cases U:(((aA ix fs d e).1:Int) != (0:Int))
  .
   have zg:=aJ U;refine lB 64 U (aj (cK (kQ (lL a [.o (.agg #[.iface 73 (.agg #[qS l fs.length y]),.map (some j),qF]) 5 0 3,.o (az ⟨op,n,q,s,A,2,c⟩) 4 0 9,.o (qY ((aA ix fs d b).2.1) C (((aA ix fs d b).2.2).length) c1) 1 0 6,.o (qY ((aA ix fs d e).2.1) F (((aA ix fs d e).2.2).length) c2) 0 0 6] (lC 72 a (qp l fs.length y hm 3000 1000000 kD kD kD j op n q s A 2 c (aA ix fs d b).2.1 (aA ix fs d b).2.2 C c1 (dM B oM) hv1 hG1 (aA ix fs d e).2.1 (aA ix fs d e).2.2 F c2 (dM O oM) hv2 hG2 oM _ _ a.g a.f.2.1 a.f.1 a.f.r.1) ?_)))));rintro _ _ _ a ⟨L,Gr,D,M,rfl,W,hRr⟩;replace a:=a.aS W;refine lL a [.c,.v (qY L D Gr.length M),.v (iV (bI op n (aA ix fs d b).2.1 (aA ix fs d e).2.1))] (lP 1 0 (qZ L D Gr.length M) a (fun _ a=>lL a ac (af (aa a ac ?_))));cases S:(((bI op n (aA ix fs d b).2.1 (aA ix fs d e).2.1):Int) != (0:Int))
   .
    have zi:=aJ S;exact lB 76 S (aj (cK (aa a [.o (qY L D Gr.length M) 1 0 6] (lP 3 0 (qZ L D Gr.length M) a (fun _ a=>lL a ac (ae a [(3,0,6)] (.tuple #[qY L D Gr.length M,iV 0]) (by obtain ⟨Y,I⟩:=hRr oM;rw[gG oM oM,ia oM oM oM,Y,I];exact ⟨_,_,rfl,by rw[<-I];exact a.f.1⟩)))))))
   have zi:=aU S;exact lB 76 S (ar (aa a [.o (.agg #[qF,uV 0,eS,uV 0,eS,sZ]) 2 0 6,.c] (lP 3 0 ([qF,uV 0,eS,uV 0,eS,sZ]) a (fun _ a=>lL a ac (ae a [(3,0,6)] (.tuple #[.agg #[qF,uV 0,eS,uV 0,eS,sZ],iV (bI op n (aA ix fs d b).2.1 (aA ix fs d e).2.1)]) (by rw[gG oM oM,g7 oM oM oM];exact ⟨none,0,rfl,SlO.nil⟩))))))
  have zg:=aU U;exact lB 64 U (ar (aa a [.o (.agg #[qF,uV 0,eS,uV 0,eS,sZ]) 2 0 6,.c] (lP 3 0 ([qF,uV 0,eS,uV 0,eS,sZ]) a (fun _ a=>lL a ac (ae a [(3,0,6)] (.tuple #[.agg #[qF,uV 0,eS,uV 0,eS,sZ],iV ((aA ix fs d e).1)]) (by rw[gG oM oM,jQ oM oM];exact ⟨none,0,rfl,SlO.nil⟩))))))
 have zf:=aU V;exact lB 40 V (ar (aa a [.o (.agg #[qF,uV 0,eS,uV 0,eS,sZ]) 1 0 6,.c] (lP 2 0 ([qF,uV 0,eS,uV 0,eS,sZ]) a (fun _ a=>lL a ac (ae a [(2,0,6)] (.tuple #[.agg #[qF,uV 0,eS,uV 0,eS,sZ],iV ((aA ix fs d b).1)]) (by rw[gG oM oM,io oM];exact ⟨none,0,rfl,SlO.nil⟩))))))
end Go.Proofs.YtmdaaeffcfheoaaGreatDoor
