/- Laws of this claim, part 4. -/
import Derived.Test.YtcbgbcghmndlmaaGreatDoorQi0
import Derived.Test.YtcbgbcghmndlmaaGreatDoorQi1
import Derived.Test.YtcbgbcghmndlmaaGreatDoorQi2
set_option maxRecDepth 100000
set_option maxHeartbeats 4000000
namespace Go.Proofs.YtcbgbcghmndlmaaGreatDoor
open _root_.Array renaming getElem?_push_size -> gg, getElem?_setIfInBounds_ne -> i3, getElem?_setIfInBounds_self_of_lt -> yV
open Bool renaming noConfusion -> Jq
open Int renaming emod_lt_of_pos -> Jh, emod_nonneg -> Jg, lt_or_le -> Ji, lt_trichotomy -> IS, mul_ne_zero -> JF, mul_pow -> JJ, natAbs_add_le -> Ja, natAbs_mul -> IP, natAbs_neg -> Jb, natAbs_pow -> JG, one_mul -> JQ, pow_add -> JK, pow_succ -> JE, pow_zero -> JP, sign_eq_neg_one_iff_neg -> Jx, sign_eq_neg_one_of_neg -> Iz, sign_eq_one_of_pos -> IA, sign_eq_zero_iff_zero -> Jp, sign_trichotomy -> Jy, tmod_eq_emod_of_nonneg -> Jj
open List renaming getD_eq_getElem?_getD -> D0, getElem?_eq_none -> ya, getElem_mem -> gs, length_append -> yD, length_cons -> yf, length_nil -> Ju, length_replicate -> Jw, length_set -> Ic, length_singleton -> Jm, map_congr_left -> Jv, mem_cons -> g4, mem_map -> g2, mem_range -> pa, range -> o0, replicate -> yL, set_eq_of_length_le -> JC, toArray -> IL
open Nat renaming add_le_add -> JO, add_mul -> Gx, le_add_right -> Jo, le_mul_of_pos_left -> II, le_mul_of_pos_right -> Jr, le_of_lt -> IM, le_refl -> ey, le_trans -> e4, lt_irrefl -> Jf, lt_of_le_of_lt -> zh, lt_succ_self -> JD, min_eq_right -> HA, mul_assoc -> z8, mul_comm -> z2, mul_le_mul -> H9, mul_le_mul_left -> A5, mul_le_mul_right -> yI, mul_left_comm -> Js, mul_pow -> JI, not_lt_zero -> Jl, pow_add -> A4, pow_le_pow_left -> JH, pow_le_pow_right -> Ay, pow_mul -> A7, pow_one -> JS, pow_succ -> z1, pow_two -> JT, succ_ne_zero -> Jt, succ_pos -> Iq, zero_add -> yH, zero_le -> In
open Option renaming mem_toList -> Jk
open Rat renaming add_mul -> JL, intCast_add -> JM, intCast_mul -> JN, intCast_neg -> JB, mul_assoc -> JR, not_le -> Jz, num_eq_zero -> Jn, num_nonneg -> JA
open Go.RowKit
open Go.RowKit Go.Shelf
theorem uA (q:Rat):mkR q.num ((q.den:Nat):Int)=q:=by
 unfold mkR;rw[if_neg oM];show mkRat q.num q.den=q;rw[Rat.mkRat_self]
theorem Hq (q:Rat)(d:Z9)(c1:Nat)(c:Z9)(b:Nat)(j:(lim (ac q.num)).length<=c1)(p:(lim q.den).length<=b)(e:LQ 100000000 q)(w:World)(h:Hp)(g:G w h)(u:S3 d (lim (ac q.num)) h)(l:S3 c (lim q.den) h)(y:Tab h):CV 16 #[rG q d c1 c b] w h (qv q):=by
 have a:=((((sS g).aS u).aS l).add (K:=fun z=>Tab z) y);refine go Tryz.func16 [(0,rG q d c1 c b)] rfl (aD (lA 1 39 (Cc q d c1 c b) a (fun x w2 I a=>lA 2 29 ca a (fun F H D a=>ag ?_))));have i:=a;exact cR 12 [⟨11,3,.cells (IL [qF,uV 0,eS,uV 0,eS]) 29 (0,0)⟩] mixed a (be (dE kR (fun _ _=>by kernel_rfl)) ai) (eV 0 6 (pB x) (eO 1 7 [(1,0,2)] (.agg #[.bool (ax q.num),qS d ((lim (ac q.num)).length) c1]) a (eV 3 9 (qP x 2) (eO 4 10 [(1,2,1)] (qS c ((lim q.den).length) b) a (af 2 8 a (fun _ _ a=>GX q.num d c1 j (LQ.ln e) _ _ a.g a.f.r.1) (fun J C a=>af 5 11 a (fun _ _ a=>Fh q.den c b p (by first|exact hl|exact LQ.ld e|omega) _ _ a.g a.f.2.1) (fun L _ a=>af 6 12 a (fun _ _ a=>dK q.den _ _ a.g) (fun _ _ a=>af 7 13 a (fun _ _ a=>Fn q.num (q.den:Int) (by have:=q.den_pos;omega) (by have:=e.1;omega) (by show (wds q.den).length<=_;have:=e.2;omega) _ _ a.g a.f.1) (fun _ _ a=>eV 8 5 (.tuple #[qv (mkR q.num (q.den:Int)),qT]) (eV 9 14 (qv (mkR q.num (q.den:Int))) (eV 10 15 qT (fi [] i a 29 [qF,uV 0,eS,uV 0,eS] (fun _ _ B a=>tP 12 0 0 (qc (mkR q.num (q.den:Int))) a (fun _ a=>tV 13 4 qT (tM (lL a [.o (qv (mkR q.num (q.den:Int))) 0 0 5] (lP 1 0 (qc (mkR q.num (q.den:Int))) a (fun _ a=>ah a [(1,0,5)] (qv (mkR q.num (q.den:Int))) (congrArg qv (uA q))))))))))))))))))))
theorem F5 (v:Value)(q:Rat)(i:LQ 100000000 q)(w:World)(h:Hp)(g:G w h)(hv:RQ h v q)(a:Tab h):CV 16 #[v] w h (qv q):=by
 obtain ⟨A,c,B,d,rfl,h1,e,b,f⟩:=hv;exact Hq q A c B d h1 e i w h g b f a
theorem rm (n:Nat)(y:(wds n).length<=100000000)(w:World)(h:Hp)(g:G w h):CR 138 #[nv n] w h (fun v h1=>RN h1 v n):=by
 have a:=sS g;have e:=lk n;refine go Tryz.func138 [(0,nv n)] rfl (aD (lA 1 25 (nc n) a (fun z w2 x a=>lL a ae (aK (lL a [.o (nv n) 0 0 2] (lC 4 a (uU n oM _ _ a.g) ?_))))));rintro _ u p a ⟨c,rfl,b⟩;replace a:=a.aS b;refine lC 5 a (tU n ((nb n+7)/8) c ((nb n+7)/8) (nR _) oM (vQ n) _ _ a.g a.f.1) ?_;rintro _ _ _ a ⟨l,j,rfl,i,d⟩;replace a:=a.aS d;exact lL a ae (ah a [] (qS l ((lim n).length) j) (⟨_,_,rfl,i,a.f.1⟩))
theorem Bj (z:Int):ck (decide (z.sign<(0:Int))) (ac z)=z:=by
 rcases IS z 0 with h|h|h
 ·rw[Iz h];unfold ck ac;simp;omega
 ·subst h;rfl
 ·rw[IA h];unfold ck ac;simp;omega
theorem AV (z:Int)(F:(wds (ac z)).length<=100000000)(w:World)(h:Hp)(g:G w h):CR 136 #[iv z] w h (fun v h1=>RI h1 v z):=by
 have a:=sS g;refine go Tryz.func136 [(0,iv z)] rfl (aD (lA 1 27 (ic z) a (fun H w2 B a=>lA 2 37 ([qF,sZ]) a (fun x y u a=>ag (cR 7 [] mixed a ai ?_)))));refine eO 0 3 [(1,0,3)] (iv z) a (eO 3 6 [(1,0,3)] (iv z) a (af 1 4 a (fun _ _ a=>k9 z oM _ _ a.g) (fun C p a=>eV 2 5 (.bool (decide ((z.sign:Int)<(0:Int)))) (af 4 7 a (fun _ _ a=>vu z _ _ a.g) (fun D _ a=>eC 5 8 a (fun _ _ a=>rm (ac z) (by first|exact hq.2|omega) _ _ a.g) ?_)))));rintro _ _ _ _ _ a ⟨l,j,rfl,e,i⟩;replace a:=a.aS i;refine eC 6 9 a (fun _ _ a=>rI (decide ((z.sign:Int)<(0:Int))) (ac z) l j e _ _ a.g a.f.1) ?_;rintro _ _ _ _ _ a ⟨c,b,rfl,d,o⟩;replace a:=a.aS o;exact bA a (fun _ _ a=>tP 7 0 0 ([.bool (ax (ck (decide ((z.sign:Int)<(0:Int))) (ac z))),qS c ((lim (ac (ck (decide ((z.sign:Int)<(0:Int))) (ac z)))).length) b]) a (fun _ a=>tN (kX (a.ret [(0,0,2)] (.agg #[.bool (ax (ck (decide ((z.sign:Int)<(0:Int))) (ac z))),qS c ((lim (ac (ck (decide ((z.sign:Int)<(0:Int))) (ac z)))).length) b]) (by rw[Bj] at *;exact ⟨_,_,rfl,d,a.f.1⟩)))))
theorem G4 (q:Rat)(e:LQ 100000000 q)(w:World)(h:Hp)(g:G w h):CR 102 #[qv q] w h (fun v h1=>RQ h1 v q):=by
 have a:=sS g;refine go Tryz.func102 [(0,qv q)] rfl (aD (lA 1 29 (qc q) a (fun D w2 B a=>lA 2 39 ek a (fun y z x a=>ag (cR 7 [] mixed a ai ?_)))));refine eO 0 3 [(1,0,5)] (qv q) a (eO 3 6 [(1,0,5)] (qv q) a (af 1 4 a (fun _ _ a=>Hc q _ _ a.g) (fun C u a=>eC 2 5 a (fun _ _ a=>AV q.num e.1 _ _ a.g) ?_)));rintro _ _ _ _ _ a ⟨c,i,rfl,l,j⟩;replace a:=a.aS j;refine af 4 7 a (fun _ _ a=>eA q e _ _ a.g) (fun _ _ a=>eC 5 8 a (fun _ _ a=>rm q.den (by first|exact e.2|omega) _ _ a.g) ?_);rintro _ _ _ _ _ a ⟨d,b,rfl,p,o⟩;replace a:=a.aS o;exact eV 6 9 (rG q c i d b) (bA a (fun _ _ a=>tP 7 0 0 (Cc q c i d b) a (fun _ a=>tN (kX (a.ret [(0,0,3)] (rG q c i d b) (⟨_,_,_,_,rfl,l,p,a.f.2.1,a.f.1⟩))))))
def ie (a b:Rat):Bool:=decide (a=b)
theorem x8 {a b:Rat}(h1:bP (ac a.num) (ac b.num)=0)(e:ax a.num=ax b.num)(c:bP a.den b.den=0):true=ie a b:=by
 have e1:ac a.num=ac b.num:=by unfold bP at h1;split at h1;omega;split at h1;omega;omega
 have d:a.den=b.den:=by unfold bP at c;split at c;omega;split at c;omega;omega
 have e2:a.num=b.num:=by rw[<-ku a.num,<-ku b.num,e1,e]
 symm
 exact decide_eq_true (Rat.ext e2 d)
theorem lU (a:Nat):bP a a=0:=by simp[bP]
theorem mS {a b:Rat}(h:bP (ac a.num) (ac b.num)≠0\/ax a.num≠ax b.num\/bP a.den b.den≠0):false=ie a b:=by
 symm
 refine decide_eq_false ?_;rintro rfl
 rcases h with h|h|h
 ·exact h (lU _)
 ·exact h rfl
 ·exact h (lU _)
theorem EV (q r:Rat)(J:LQ 100000000 q)(hr:LQ 100000000 r)(i:Z9)(c1:Nat)(d:Z9)(b:Nat)(x:(lim (ac r.num)).length<=c1)(F:(lim r.den).length<=b)(w:World)(h:Hp)(g:G w h)(H:S3 i (lim (ac r.num)) h)(z:S3 d (lim r.den) h):CV 65 #[qv q,rG r i c1 d b] w h (.bool (ie q r)):=by
 have a:=(((sS g).aS H).aS z);have l:0<(lim r.den).length:=dv.2 r.den_pos;have O:=LQ.ln J;have Y:=LQ.ld J;have S:=LQ.ln hr;have Z:=LQ.ld hr;refine go Tryz.func65 [(0,qv q),(1,rG r i c1 d b)] rfl (aD (lA 2 29 (qc q) a (fun b1 w2 h3 a=>lA 3 39 (Cc r i c1 d b) a (fun e w5 h6 a=>lL a ae (aK (lL a [.o (qv q) 1 0 5] (lC 7 a (G4 q J _ _ a.g) ?_)))))));rintro _ _ _ a ⟨K,C,B,y,rfl,D,Q,W,V⟩;replace a:=a.aP W V;refine lA 5 39 ek a (fun j _ _ a=>lP 0 0 (Cc q K C B y) a (fun _ a=>ag (ab a [.v (qP e 2),.o (qS d ((lim r.den).length) b) 1 2 1,.v (nV ((lim r.den).length))] ?_)));have M:((((lim r.den).length:Nat):Int) == (0:Int))=false:=(by simp;exact fun h=>Jf 0 (by rw[h] at l;exact l));have I:=aq M;refine lB 11 M (am (cK (ab a [.v (pB j),.v (qP j 1),.o (qS K ((lim (ac q.num)).length) C) 0 1 1,.v (pB e),.v (qP e 1),.o (qS i ((lim (ac r.num)).length) c1) 1 1 1] (au 19 a (jT (ac q.num) K C D (ac r.num) i c1 x oM oM _ _ a.g a.f.2.1 a.f.r.2.1) (fun _ _ a=>?_)))));cases u:((bP (ac q.num) (ac r.num):Int) == (0:Int))
 .
  have X:=aq u;refine lB 20 u (lL a ae (lG 22 ?_));refine lG 23 (lG 24 (lG 25 (lG 26 (lG 27 (lG 28 (lL a [.v qF,.c] (lG 31 ?_)))))));exact lG 32 (lG 33 (lG 34 (lG 35 (lG 36 (lL a [.v qF,.c] (ah a [] qF (congrArg Value.bool (mS (by first|(left;assumption)|(right;right;assumption)|(right;left;exact beq_eq_false_iff_ne.1 ‹_›))))))))))
 have X:=eq_of_beq u;refine lB 20 u (lL a [.c,.v (pB j),.v (pB j),.o (.bool (ax q.num)) 0 0 1,.v (pB e),.v (pB e),.o (.bool (ax r.num)) 1 0 1] ?_);cases L:((ax q.num) == (ax r.num))
 .
  refine lB 28 L (lL a [.v qF,.c] (lG 31 ?_));exact lG 32 (lG 33 (lG 34 (lG 35 (lG 36 (lL a [.v qF,.c] (ah a [] qF (congrArg Value.bool (mS (by first|(left;assumption)|(right;right;assumption)|(right;left;exact beq_eq_false_iff_ne.1 ‹_›))))))))))
 refine lB 28 L (lL a [.v qT,.c,.v (qP j 2),.o (qS B ((lim q.den).length) y) 0 2 1,.v (qP e 2),.o (qS d ((lim r.den).length) b) 1 2 1] (au 35 a (jT q.den B y Q r.den d b F oM oM _ _ a.g a.f.1 a.f.r.1) (fun _ _ a=>?_)));cases p:((bP q.den r.den:Int) == (0:Int))
 .
  have U:=aq p;exact lB 36 p (lL a [.v qF,.c] (ah a [] qF (congrArg Value.bool (mS (by first|(left;assumption)|(right;right;assumption)|(right;left;exact beq_eq_false_iff_ne.1 ‹_›))))))
 have U:=eq_of_beq p;exact lB 36 p (lL a [.v qT,.c] (ah a [] qT (congrArg Value.bool (x8 aM (eq_of_beq ‹_›) aM))))
theorem LQ.mkR {n d:Int}(h:d≠0)(h0 : -9223372036854775808<=n)(h1:n<=9223372036854775807)(j : -9223372036854775808<=d)(i:d<=9223372036854775807):LQ 1 (mkR n d):=by
 unfold Go.Proofs.YtcbgbcghmndlmaaGreatDoor.mkR
 have b:0<ac d:=by unfold ac;omega
 obtain ⟨a,c,e,f⟩:=gt (if d<0 then -n else n) (ac d) b;refine ⟨?_,?_⟩
 ·rw[a];refine co.2 (zh (bR _ _ e) ?_)
  unfold ac;split<;>omega
 ·rw[c];exact co.2 (zh (Nat.div_le_self _ _) (by unfold ac;omega))
theorem tj (q:Rat)(z e:Int)(B:LQ 100000000 q)(u:e≠0)(b : -9223372036854775808<=z)(y:z<9223372036854775808)(i : -4294967296<e)(l:e<4294967296)(w:World)(h:Hp)(g:G w h):CV 27 #[qv q,iV z,iV e] w h (.bool (ie q (mkR z e))):=by
 have a:=sS g;have x:LQ 100000000 (mkR z e):=(LQ.mkR u b oM oM oM).mono oM;refine go Tryz.func27 [(0,qv q),(1,iV z),(2,iV e)] rfl (aD (lA 3 29 (qc q) a (fun I w2 H a=>lL a ae (ag (cR 5 [] mixed a ai ?_)))));refine eO 0 7 [(0,0,5)] (qv q) a (eV 1 8 (iV z) (eV 2 9 (iV e) (eC 3 10 a (fun _ _ a=>uS z e oM oM oM oM oM _ _ a.g) ?_)));rintro _ _ _ _ _ a ⟨j,o,F,C,rfl,d,D,c,p⟩;replace a:=a.aP c p;exact af 4 11 a (fun _ _ a=>EV q (mkR z e) B x j o F C d D _ _ a.g a.f.2.1 a.f.1) (fun _ _ a=>bA a (fun _ _ a=>tV 5 6 (.bool (ie q (mkR z e))) (tN (kX (a.ret [] (.bool (ie q (mkR z e))) rfl)))))
def bX (n:Int)(m:Nat):Nat:=(n%(m:Int)).toNat
theorem ew (n:Int)(m:Nat)(h:0<m):bX n m<m:=by
 unfold bX
 have h1:=Jg n (show (m:Int)≠0 by omega);have a:=Jh n (show (0:Int)<m by omega)
 omega
theorem pg (n:Int)(m:Nat)(h:0<m):((bX n m:Nat):Int)=n%(m:Int):=by
 unfold bX
 have h1:=Jg n (show (m:Int)≠0 by omega)
 omega
theorem pr (n:Int)(m:Nat)(e:0<m)(c:n<0):(n%(m:Int)=0/\n.tmod (m:Int)=0)\/(0<n%(m:Int)/\n.tmod (m:Int)=n%(m:Int)-m):=by
 have b:=Jg n (show (m:Int)≠0 by omega);rw[Int.tmod_eq_emod]
 by_cases h:(m:Int)∣n
 ·left
  rw[if_pos (.inr h)];have:=Int.emod_eq_zero_of_dvd h;exact ⟨this,by omega⟩
 ·right
  have d:¬(n%(m:Int)=0):=fun a=>h (Int.dvd_of_emod_eq_zero a)
  rw[if_neg (by intro a;rcases a with a|a;omega;exact h a)];refine ⟨by omega,by simp⟩
def nJ (k:Nat):Nat:=match k with|0=>1|1=>1|2=>1|3=>2|4=>3|_=>4
theorem oq (k:Nat):0<nJ k:=by unfold nJ;split<;>omega
theorem rH (k:Nat):nJ k<=4:=by unfold nJ;split<;>omega
def cX (n:Int):Rat:=mkR ((bX n 41:Int)-20) (nJ (bX (n.tdiv 41) 6):Nat)
def ED (n:Int):Rat:=mkR ((bX n 9:Int)-4) (((bX (n.tdiv 9) 2:Nat):Int)+1)
theorem rJ (n:Int)(m:Int)(c:1<m)(a : -9223372036854775808<=n)(b:n<=9223372036854775807) : -9223372036854775808<=n.tdiv m/\n.tdiv m<=9223372036854775807:=by
 have h1:(n.tdiv m).natAbs<=n.natAbs/2:=by
  rw[Int.natAbs_tdiv];exact Nat.div_le_div_left oM oM
 omega
theorem wN {n:Int}{m:Nat}(a:0<m)(h:n.tmod (m:Int)<0):n.tmod (m:Int)+m=((bX n m:Nat):Int):=by
 rw[pg n m a]
 rcases Ji n 0 with hn|hn
 ·rcases pr n m a hn with ⟨h1,h2⟩|⟨h1,h2⟩<;>omega
 ·rw[Jj hn] at h
  have:=Jg n (show (m:Int)≠0 by omega)
  omega
theorem tB {n:Int}{m:Nat}(a:0<m)(h:¬n.tmod (m:Int)<0):n.tmod (m:Int)=((bX n m:Nat):Int):=by
 rw[pg n m a]
 rcases Ji n 0 with hn|hn
 ·rcases pr n m a hn with ⟨h1,h2⟩|⟨h1,h2⟩
  ·omega
  ·have:=Jh n (show (0:Int)<m by omega)
   omega
 ·rw[Jj hn]
theorem xZ (n:Int){m:Nat}(b:0<m) : -(m:Int)<n.tmod (m:Int)/\n.tmod (m:Int)<m:=by
 have h1:=Int.tmod_lt_of_pos n (show (0:Int)<m by omega);have a:=Int.lt_tmod_of_pos n (show (0:Int)<m by omega);exact ⟨a,h1⟩
theorem mn (n:Int)(m:Nat)(f:0<m)(i:m<1000000)(w:World)(h:Hp)(g:G w h):CV 45 #[iV n,nV m] w h (nV (bX n m)):=by
 have c:=sS g;obtain ⟨l,j⟩:=xZ n f;refine go Tryz.func45 [(0,iV n),(1,nV m)] rfl (ab c ae (aK (lL c aE (lV 7 (iV (n.tmod (m:Nat))) ?_ (hr:=fC (t:=3) (u:=3) (x:=.tmp 5) (y:=.tmp 6) (k:=.i64) (a:=n) (b:=(m:Nat)) kR kR kR oM _)))));refine lL c ae (ag (ab c ae ?_));cases d:(decide ((n.tmod (m:Nat):Int)<(0:Int)))
 .
  have e:=oF d;exact lB 9 d (am (cK (ab c aE (ah c [] (iV (n.tmod (m:Nat))) (congrArg (Value.int .i64) (tB f aM))))))
 have e:=oT d;refine lB 9 d (ar (kQ (lL c aE (lI 12 ((n.tmod (m:Nat))+(m:Nat)) ?_))));exact lL c ae (aK (lL c aE (ah c [] (iV ((n.tmod (m:Nat))+(m:Nat))) (congrArg (Value.int .i64) (wN f aM)))))
theorem v7 (w:World):(Instr.index 102 (.agg #[.int .i64 1,.int .i64 1,.int .i64 1,.int .i64 2,.int .i64 3,.int .i64 4]) (.int .i64 0)).run Tryz.prog w=.ok (.int .i64 1) w:=by kernel_rfl
theorem wQ (w:World):(Instr.index 102 (.agg #[.int .i64 1,.int .i64 1,.int .i64 1,.int .i64 2,.int .i64 3,.int .i64 4]) (.int .i64 1)).run Tryz.prog w=.ok (.int .i64 1) w:=by kernel_rfl
theorem uy (w:World):(Instr.index 102 (.agg #[.int .i64 1,.int .i64 1,.int .i64 1,.int .i64 2,.int .i64 3,.int .i64 4]) (.int .i64 2)).run Tryz.prog w=.ok (.int .i64 1) w:=by kernel_rfl
theorem wJ (w:World):(Instr.index 102 (.agg #[.int .i64 1,.int .i64 1,.int .i64 1,.int .i64 2,.int .i64 3,.int .i64 4]) (.int .i64 3)).run Tryz.prog w=.ok (.int .i64 2) w:=by kernel_rfl
theorem ue (w:World):(Instr.index 102 (.agg #[.int .i64 1,.int .i64 1,.int .i64 1,.int .i64 2,.int .i64 3,.int .i64 4]) (.int .i64 4)).run Tryz.prog w=.ok (.int .i64 3) w:=by kernel_rfl
theorem xm (w:World):(Instr.index 102 (.agg #[.int .i64 1,.int .i64 1,.int .i64 1,.int .i64 2,.int .i64 3,.int .i64 4]) (.int .i64 5)).run Tryz.prog w=.ok (.int .i64 4) w:=by kernel_rfl
theorem EC (k:Nat)(h:k<6)(w:World):(Instr.index 102 (.agg #[.int .i64 1,.int .i64 1,.int .i64 1,.int .i64 2,.int .i64 3,.int .i64 4]) (.int .i64 (k:Int))).run Tryz.prog w=.ok (.int .i64 ((nJ k:Nat):Int)) w:=by
 have:k=0\/k=1\/k=2\/k=3\/k=4\/k=5:=by omega
 rcases this with rfl|rfl|rfl|rfl|rfl|rfl
 ·exact v7 w
 ·exact wQ w
 ·exact uy w
 ·exact wJ w
 ·exact ue w
 ·exact xm w
theorem GD {Γ:bW}{o:Oper}{x y:Operand}(k:Nat)(h:k<6)(c:o.op=.index 102 x y)(a:ev Γ x=.agg #[.int .i64 1,.int .i64 1,.int .i64 1,.int .i64 2,.int .i64 3,.int .i64 4])(b:ev Γ y=.int .i64 (k:Nat))(w:World) :
  (execOp (ev Γ) o).run Tryz.prog w=.ok (.value (.int .i64 (nJ k:Nat))) w:=by
 unfold execOp;simp only[c];rw[a,b,Sem.run_bind,EC k h w];rfl
theorem hR (n:Int)(h0 : -9223372036854775808<=n)(h1:n<=9223372036854775807)(w:World)(h:Hp)(g:G w h):CR 18 #[iV n] w h (fun v h1=>RQ h1 v (cX n)):=by
 have a:=sS g;obtain ⟨O,F⟩:=rJ n 41 oM h0 h1;have I:=ew n 41 oM;have l2:=ew (n.tdiv 41) 6 oM;have H:=oq (bX (n.tdiv 41) 6);have K:=rH (bX (n.tdiv 41) 6);refine go Tryz.func18 [(0,iV n)] rfl (aD (lA 2 39 ek a (fun M w2 L a=>aK (lL a ae (au 4 a (mn (n) 41 oM oM _ _ a.g) (fun D B a=>?_))))));have o:=ew (n) 41 oM;refine lI 5 ((bX (n) 41:Nat)-20) (lL a [.v (.agg #[iV 1,iV 1,iV 1,iV 2,iV 3,iV 4]),.c] (lV 8 (iV (n.tdiv 41)) ?_ (hr:=rS ((n.tdiv 41)) kR (mP oM oM))));refine au 9 a (mn (n.tdiv 41) 6 oM oM _ _ a.g) (fun J C a=>?_);have l:=ew (n.tdiv 41) 6 oM;refine lV 10 (nV (nJ (bX (n.tdiv 41) 6))) ?_ (hr:=GD (x:=.tmp 6) (y:=.tmp 9) (bX (n.tdiv 41) 6) l2 kR kR kR _);refine lC 11 a (uS ((bX (n) 41:Nat)-20) (nJ (bX (n.tdiv 41) 6):Nat) oM oM oM oM oM _ _ a.g) ?_;rintro _ _ _ a ⟨i,e,b,d,rfl,j,z,u,p⟩;replace a:=a.aP u p;exact lP 0 0 (Cc (cX n) i e b d) a (fun _ a=>ah a [(0,0,3)] (rG (cX n) i e b d) (⟨_,_,_,_,rfl,j,z,a.f.2.1,a.f.1⟩))
theorem LQ.hand (n:Int):LQ 1 (cX n):=by
 unfold cX
 have b:=ew n 41 oM;have a:=oq (bX (n.tdiv 41) 6);have c:=rH (bX (n.tdiv 41) 6);exact LQ.mkR oM oM oM oM oM
abbrev RT:=Bool × Value × Value
def DY (t:RT):List Value:=[.bool t.1,t.2.1,t.2.2]
def Dy:RT:=(false,undef,undef)
abbrev rA (t:RT):Value:=.agg #[.bool t.1,t.2.1,t.2.2]
abbrev Sr (A:Z9)(l:List RT):Hp->Prop:=fun h_=>SlO 3 DY Dy h_ A l
def FT (t:RT):Value:=.agg #[.bool t.1,t.2.1,t.2.2]
structure RTs (h:Hp) (ts:List RT) (qs:List Rat):Prop where
  len:ts.length=qs.length
  at_:∀ i,i<qs.length->RQ h (FT (ts.getD i Dy)) (qs.getD i 0)
abbrev Rt (t:List RT)(l:List Rat):Hp->Prop:=fun h_=>RTs h_ t l
theorem RTs.gw {h a:Hp}{c:List RT}{b:List Rat}(r:RTs h c b)(u:Gw h a):RTs a c b:=⟨r.len,fun i hi=>(r.at_ i hi).gw u⟩
theorem SS.aT {t:List RT}{l:List Rat}{w0 w:World}{h0 h:Hp}{B:List Bx}{R:List Rw}{F:List (Hp->Prop)}(s:SS w0 h0 w h B R F)(p:RTs h t l):SS w0 h0 w h B R (Rt t l::F):=s.add (K:=Rt t l) p
theorem RTs.nil {h:Hp}:RTs h [] []:=⟨rfl,fun i hi=>by simp at hi⟩
theorem d5 {α:Type}(l:List α)(x d:α)(i:Nat):(l++[x]).getD i d=if i<l.length then l.getD i d else if i=l.length then x else d:=by
 split
 ·rename_i h;simp[List.getElem?_append_left h]
 ·rename_i h
  split
  ·rename_i a;subst a;simp
  ·rename_i a;simp[ya (show (l++[x]).length<=i by simp;omega)]
theorem RTs.snoc {h:Hp}{b:List RT}{a:List Rat}(r:RTs h b a){t:RT}{q:Rat}(c:RQ h (FT t) q):RTs h (b++[t]) (a++[q]):=by
 refine ⟨by simp[r.len],fun i hi=>?_⟩;rw[d5,d5,r.len]
 split
 ·rename_i h1;exact r.at_ i h1
 ·rename_i h1
  have:i=a.length:=by simp at hi;omega
  rw[if_pos this,if_pos this];exact c
theorem kl {α:Type}{l:List α}{k:Nat}(d:α)(h:k<l.length):l.take (k+1)=l.take k++[l.getD k d]:=by
 rw[List.take_add_one];simp[h]
def vc (v:Value):List Value:=[v]
abbrev Sv (A:Z9)(l:List Value):Hp->Prop:=fun h_=>SlO 1 vc undef h_ A l
def jq (zs:List Int):Nat->List Rat
  | 0=>[]
  | k+1=>jq zs k++[if k<zs.length then cX (zs.getD k 0) else 0]
theorem kd (a:List Int)(k:Nat):(jq a k).length=k:=by induction k with|zero=>rfl|succ k ih=>simp[jq,ih]
def mM (zs:List Int):Prop:=∀ k,-9223372036854775808<=zs.getD k 0/\zs.getD k 0<=9223372036854775807
structure RVs (h:Hp) (vs:List Value) (qss:List (List Rat)):Prop where
  len:vs.length=qss.length
  at_:∀ i,i<qss.length->∃ A cap,∃ ts:List RT,vs.getD i undef=.slice A ts.length cap/\ts.length<=cap/\SlO 3 DY Dy h A ts/\RTs h ts (qss.getD i [])
abbrev Ru (t:List Value)(l:List (List Rat)):Hp->Prop:=fun h_=>RVs h_ t l
structure QVs (h:Hp) (vs:List Value) (qss:List (List Rat)):Prop where
  len:vs.length=qss.length
  at_:∀ i,i<qss.length->Gl 5 qc 0 h (vs.getD i undef) (qss.getD i [])
abbrev Qu (t:List Value)(l:List (List Rat)):Hp->Prop:=fun h_=>QVs h_ t l
theorem lZ {b:List Int}{k:Nat}{q:Rat}(e:(if k<b.length then cX (b.getD k 0) else 0)=q){a:List RT}{c:Hp}(d:RTs c a (jq b k++[q])):RTs c a (jq b (k+1)):=by
 show RTs c a (jq b k++[_]);rw[e];exact d
theorem nG (a:List Int):∀ n i,LQ 1 ((jq a n).getD i 0)
  | 0,i=>LQ.lit (z:=0) kD
  | n + 1,i=>by
    show LQ 1 ((jq a n++[_]).getD i 0)
    rw[d5]
    split
    . exact nG a n i
    . split
      . split
        . exact LQ.hand _
        . exact LQ.lit (z:=0) kD
      . exact LQ.lit (z:=0) kD
theorem E4 {h:Hp}{A D:Z9}{c d:Nat}{q:Rat}(h1:(lim (ac q.num)).length<=c)(b:(lim q.den).length<=d)(a:SlO 1 ft 0 h A (lim (ac q.num)))(e:SlO 1 ft 0 h D (lim q.den)):RQ h (FT ((ax q.num,.slice A (lim (ac q.num)).length c,.slice D (lim q.den).length d):RT)) q:=⟨_,_,_,_,rfl,h1,b,a,e⟩
theorem vM (A:Z9)(j:Nat)(d:List RT)(b:List Rat)(hl:b.length<=1000000)(hf:∀ i,i<b.length->LQ 100000000 (b.getD i 0))(w:World)(h:Hp)(g:G w h)(Q:Sr A d h)(J:RTs h d b)(H:Tab h):CR 7 #[.slice A d.length j] w h (fun v h1=>Gl 5 qc 0 h1 v b):=by
 have a:=((((sS g).aS Q).aT J).add (K:=fun y=>Tab y) H);have F:=(a.f.2.1).len;refine go Tryz.func7 [(0,qS A d.length j)] rfl (ab a ae (aK (lL a ae (ag (ab a ae (a7 ?_))))));replace a:=a.nil 29 5;refine bY _ (CG.loop (fun B Γ O=>∃ (k:Nat)(x:Z9)(u:Nat)(e:List Rat)(y:Hp),B=b.length-k/\Γ=[(0,qS A d.length j),(2,sZ),(4,nV k),(3,qS x ((e).length) u)]/\SS w h O y [] [⟨29,5,x,u,(e).length,(e).flatMap qc⟩] [fun y=>Tab y,Rt d b,Sr A d]/\k<=b.length/\e=b.take k) _ ⟨0,none,0,[],h,rfl,rfl,a.to _ _,In _,rfl⟩ ?_);rintro _ _ w1 ⟨k,x,u,e,Y,V,rfl,a,hk,p⟩;have U:e.length=k:=by rw[p];simp;omega
 refine cQ (ab a [.c,.c,.v (nV d.length)] ?_);cases o:(decide ((k:Int)<(d.length:Int)))
 .
  have z:=oF o;refine lB 8 o (am (CG.exit ?_))
  show CG _ _ _ _ _ _ _ _
  refine ab a aE (lN (kX ?_));have C:e=b:=by rw[p];exact List.take_of_length_le oM
  subst C;obtain ⟨h5,a,D⟩:=a.pubr 0 (A:=x) (c:=u) (l:=e) (f:=qc) (ty:=29) (sz:=5) 0 (fun _=>rfl);exact a.ret [] (qS x ((e).length) u) (⟨_,_,rfl,D,a.f.1⟩)
 have z:=oT o;refine lB 8 o (ar (cK (cQ (kZ (kQ (lL a dG (lX 14 A d.length j 3 (k:Nat) k ((a.f.r.1).ok oM) ?_)))))));refine lH 15 (rA (d.getD k Dy)) a ((a.f.r.1).el k oM) (au 16 a (F5 _ (b.getD k 0) (hf k oM) _ _ a.g ((a.f.2.1).at_ k oM) a.f.1) (fun w8 Z a=>lR 17 29 1 (qc (b.getD k 0)) a (fun W _ _ a=>lY 18 0 29 5 u x e qc (b.getD k 0) 56 W eb a a.f.1 (fun S L _ M a=>lL a ae (lN (kQ (lL a ae (bB 10 ((k:Nat)+1) (k+1) ?_))))))));refine lL a ae (lD ?_);intro X I;replace a:=a.tl;refine ⟨_,_,?_,⟨k+1,S,L,e++[b.getD k 0],M,rfl,rfl,a.to _ _,oM,(by rw[kl 0 oM,p])⟩,I.to _ kR⟩
 omega
theorem E7 (A:Z9)(e:Nat)(b:List Int)(n:Nat)(hn:n<=1000000)(hl:b.length<=9223372036854775807)(hz:mM b)(w:World)(h:Hp)(g:G w h)(Y:Si A b h):CR 8 #[.slice A b.length e,nV n] w h (fun v h1=>∃ A c,∃ d:List RT,v=.slice A d.length c/\d.length<=c/\Sr A d h1/\RTs h1 d (jq b n)):=by
 have a:=((sS g).aS Y);refine go Tryz.func8 [(0,qS A b.length e),(1,nV n)] rfl (ab a ae (aK (lL a ae (ag (ab a ae (a7 ?_))))));replace a:=a.nil 39 3;replace a:=a.aT (RTs.nil);refine bY _ (CG.loop (fun J Γ X=>∃ (k:Nat)(p:Z9)(o:Nat)(d:List RT)(h_:Hp),J=n-k/\Γ=[(0,qS A b.length e),(1,nV n),(4,sZ),(6,nV k),(5,qS p ((d).length) o)]/\SS w h X h_ [] [⟨39,3,p,o,(d).length,(d).flatMap DY⟩] [Rt d (jq b k),Si A b]/\k<=n) _ ⟨0,none,0,[],h,rfl,rfl,a.to _ _,In _⟩ ?_);rintro _ _ w1 ⟨k,p,o,d,h2,hm3,rfl,a,hk⟩;have O:=(a.f.1).len;rw[kd] at O
 refine cQ (ab a aE ?_);cases j:(decide ((k:Int)<(n:Int)))
 .
  have x:=oF j;refine lB 9 j (am (CG.exit ?_))
  show CG _ _ _ _ _ _ _ _
  refine ab a aE (lN (kX ?_));have L:k=n:=by omega
  subst L;obtain ⟨h5,a,Q⟩:=a.pubr 0 (A:=p) (c:=o) (l:=d) (f:=DY) (ty:=39) (sz:=3) Dy (fun _=>rfl);exact a.ret [] (qS p ((d).length) o) (⟨_,_,d,rfl,Q,a.f.1,a.f.2.1⟩)
 have x:=oT j;refine lB 9 j (ar (cK (cQ (kZ (ab a [.c,.c,.v (nV b.length)] ?_)))));cases i:(decide ((k:Int)<(b.length:Int)))
 .
  have u:=oF i;refine lB 15 i (am (kQ (lL a ae (lC 25 a (HN 0 oM oM _ _ a.g) ?_))));rintro _ _ _ a ⟨z,C,B,y,rfl,zi,zj,V,zl⟩;replace a:=a.aP V zl;refine lR 26 39 1 (Cc ((0:Int):Rat) z C B y) a (fun zq _ _ a=>lY 27 0 39 3 o p d DY ((ax ((0:Int):Rat).num,qS z ((lim (ac ((0:Int):Rat).num)).length) C,qS B ((lim ((0:Int):Rat).den).length) y):RT) 56 zq (.agg #[qF,sZ,sZ]) a a.f.1 (fun W U _ zu a=>lL a ae (lN (kQ (lL a ae (bB 11 ((k:Nat)+1) (k+1) ?_))))));refine lL a ae (lD ?_);intro S D;replace a:=(a.tl.tl.tl.tl.add (K:=Rt (d++[((ax ((0:Int):Rat).num,qS z ((lim (ac ((0:Int):Rat).num)).length) C,qS B ((lim ((0:Int):Rat).den).length) y):RT)]) (jq b (k+1))) (lZ ((if_neg oM).trans (show (0:Rat)=((0:Int):Rat) from rfl)) (RTs.snoc a.f.r.2.1 (E4 zi zj a.f.r.1 a.f.2.1))));refine ⟨_,_,?_,⟨k+1,W,U,d++[((ax ((0:Int):Rat).num,qS z ((lim (ac ((0:Int):Rat).num)).length) C,qS B ((lim ((0:Int):Rat).den).length) y):RT)],zu,rfl,rfl,a.to _ _,oM⟩,D.to _ kR⟩
  omega
 have u:=oT i;refine lB 15 i (ar (kQ (lL a dG (lX 19 A b.length e 1 (k:Nat) k ((a.f.2.1).ok oM) ?_))));refine lH 20 (iV (b.getD k 0)) a ((a.f.2.1).el k oM) (lC 21 a (hR (b.getD k 0) (hz k).1 (hz k).2 _ _ a.g) ?_);rintro _ _ _ a ⟨H,F,M,I,rfl,zm,zn,zo,zp⟩;replace a:=a.aP zo zp;refine lR 22 39 1 (Cc (cX (b.getD k 0)) H F M I) a (fun zv _ _ a=>lY 23 0 39 3 o p d DY ((ax (cX (b.getD k 0)).num,qS H ((lim (ac (cX (b.getD k 0)).num)).length) F,qS M ((lim (cX (b.getD k 0)).den).length) I):RT) 56 zv (.agg #[qF,sZ,sZ]) a a.f.1 (fun zw zx _ Z a=>lL a ae (lN (kQ (lL a ae (bB 11 ((k:Nat)+1) (k+1) ?_))))));refine lL a ae (lD ?_);intro S D;replace a:=(a.tl.tl.tl.tl.aT (lZ (if_pos oM) (RTs.snoc a.f.r.2.1 (E4 zm zn a.f.r.1 a.f.2.1))));refine ⟨_,_,?_,⟨k+1,zw,zx,d++[((ax (cX (b.getD k 0)).num,qS H ((lim (ac (cX (b.getD k 0)).num)).length) F,qS M ((lim (cX (b.getD k 0)).den).length) I):RT)],Z,rfl,rfl,a.to _ _,oM⟩,D.to _ kR⟩
 omega
def maxR (a b:Rat):Rat:=if a<b then b else a
theorem LQ.maxR {k:Nat}{a b:Rat}(ha:LQ k a)(c:LQ k b):LQ k (maxR a b):=by unfold Go.Proofs.YtcbgbcghmndlmaaGreatDoor.maxR;split;exact c;exact ha
theorem Gy (A:Z9)(y:Nat)(a:List Rat)(D:Z9)(j:Nat)(b:List Rat)(K L:Nat)(hl:a.length=b.length)(hn:a.length<=1000000)(hb:a.length*(K+L+1)+K+L+2<=100000000)(ha:∀ i,i<a.length->LQ K (a.getD i 0))(e:∀ i,i<a.length->LQ L (b.getD i 0))(w:World)(h:Hp)(g:G w h)(W:Sq A a h)(X:Sq D b h)(M:Tab h):CV 28 #[.slice A a.length y,.slice D b.length j] w h (.tuple #[qv (bJ a b a.length),.bool true]):=by
 have d:=((((sS g).aS W).aS X).add (K:=fun l=>Tab l) M);refine go Tryz.func28 [(0,qS A a.length y),(1,qS D b.length j)] rfl (aD (lA 4 29 ca d (fun I w2 h3 d=>lL d ae (ag (ab d [.c,.v (nV a.length),.c,.v (nV b.length)] ?_)))));have u:((a.length:Int) != (b.length:Int))=false:=sP oM;have F:=aI u;refine lB 13 u (am (cK (aD (lA 6 29 ca d (fun J w6 O d=>ag (ab d [.c,.v (nV a.length),.c] (a7 ?_)))))));refine bY _ (CG.loop (fun z Γ V=>∃ (k:Nat)(l:Hp),z=a.length-k/\Γ=[(1,qS D b.length j),(4,pB I),(5,qF),(6,pB J),(15,qS A a.length y),(16,nV a.length),(17,nV k)]/\SS w h V l [⟨J,29,qc (bJ a b k)⟩,⟨I,29,[qF,uV 0,eS,uV 0,eS]⟩] [] [fun l=>Tab l,Sq D b,Sq A a]/\k<=a.length) _ ⟨0,O,rfl,rfl,d.to _ _,In _⟩ ?_);rintro _ _ w8 ⟨k,h9,H,rfl,d,hk⟩;have Y:k*(K+L+1)<=a.length*(K+L+1):=yI _ hk;have p:LQ (100000000-K-L-1) (bJ a b k):=(LQ.dot ha e k hk).mono oM;refine aD ?_;cases x:(decide ((k:Int)<(a.length:Int)))
 .
  have S:=oF x;refine lB 18 x (ag (cD (CG.exit ?_)))
  show CG _ _ _ _ _ _ _ _
  exact ab d [.o (qv (bJ a b k)) 0 0 5] (lP 1 0 (qc (bJ a b k)) d (fun _ d=>lL d ae (ah d [(1,0,5)] (.tuple #[qv (bJ a b k),qT]) (by rw[show a.length=k by omega]))))
 have S:=oT x;refine lB 18 x (ag (bZ (cK (cQ (kZ (ab d ae (lX 20 A a.length y 5 (k:Nat) k ((d.f.r.1).ok oM) ?_)))))));refine lH 21 (qv (a.getD k 0)) d ((d.f.r.1).el k oM) (lA 8 29 ca d (fun Z _ _ d=>lL d ae (lP 0 0 (qc (a.getD k 0)) d (fun _ d=>lN (cR 8 [] mixed d ai ?_)))));refine eO 0 22 [(1,0,5)] (qv (bJ a b k)) d (eO 1 23 [(0,0,5)] (qv (a.getD k 0)) d (eV 2 24 (qS D b.length j) (eV 3 25 (nV k) (eX 4 26 D b.length j 5 (k:Nat) k ((d.f.2.1).ok oM) (eH 5 27 (qv (b.getD k 0)) d ((d.f.2.1).el k oM) ?_)))));have C:=LQ.mul (ha k oM) (e k oM);refine af 6 28 d (fun _ _ d=>dm (a.getD k 0) (b.getD k 0) (LQ.mono (ha k oM) oM) (LQ.mono (e k oM) oM) _ _ d.g d.f.1) (fun _ _ d=>?_);have B:=LQ.add p C;refine af 7 29 d (fun _ _ d=>gh (bJ a b k) ((a.getD k 0)*(b.getD k 0)) (LQ.mono p oM) (LQ.mono C oM) _ _ d.g d.f.1) (fun _ _ d=>bA d (fun _ U d=>tP 8 1 0 (qc ((bJ a b k)+((a.getD k 0)*(b.getD k 0)))) d (fun _ d=>tN (kQ (bB 30 ((k:Nat)+1) (k+1) ?_)))));refine lL d ae (lD ?_);intro a_ Q;replace d:=d.drop 1 0;refine ⟨_,_,?_,⟨k+1,U,rfl,rfl,d.to _ _,oM⟩,Q.to _ kR⟩
 omega
structure Lay where
  k:Int
  W:List (List Rat)
  B:List Rat
def g6:Lay:=⟨0,[],[]⟩
abbrev LV:=Int × Value × Value
def EI:LV:=(0,undef,undef)
structure NetL (h:Hp) (ts:List LV) (ls:List Lay):Prop where
  len:ts.length=ls.length
  at_:∀ i,i<ls.length->(ts.getD i EI).1=(ls.getD i g6).k/\(∃ A c,∃ us:List Value,(ts.getD i EI).2.1=.slice A us.length c/\us.length<=c/\SlO 1 vc undef h A us/\QVs h us (ls.getD i g6).W)/\Gl 5 qc 0 h (ts.getD i EI).2.2 (ls.getD i g6).B
abbrev Nn (t:List LV)(l:List Lay):Hp->Prop:=fun h_=>NetL h_ t l
structure RNetL (h:Hp) (ts:List LV) (ls:List Lay):Prop where
  len:ts.length=ls.length
  at_:∀ i,i<ls.length->(ts.getD i EI).1=(ls.getD i g6).k/\(∃ A c,∃ us:List Value,(ts.getD i EI).2.1=.slice A us.length c/\us.length<=c/\SlO 1 vc undef h A us/\RVs h us (ls.getD i g6).W) /\
    (∃ A c,∃ rs:List RT,(ts.getD i EI).2.2=.slice A rs.length c/\rs.length<=c/\SlO 3 DY Dy h A rs/\RTs h rs (ls.getD i g6).B)
abbrev Rn (t:List LV)(l:List Lay):Hp->Prop:=fun h_=>RNetL h_ t l
def vj (l:List Rat):Prop:=∀ q∈l,∃ z,q=ED z
structure LayMk (L:Lay) (kq:Nat) (r c:Nat):Prop where
  k:L.k=(kq:Int)
  rows:L.W.length=r
  row:∀ q∈L.W,q.length=c/\vj q
  bl:L.B.length=r
  bs:vj L.B
theorem wg (A:Z9)(i:Nat)(e:List Int)(M:e.length<=9223372036854775807)(hz:mM e)(a at_:Nat)(ha:at_<=e.length)(w:World)(h:Hp)(g:G w h)(B:Own w a 65 [.slice A e.length i,nV at_])(F:h[a]?=some aY)(C:Si A e h):Calls Tryz.prog 46 #[pB a] w (dN a w h fun v w' _=>∃ (z:Int)(at2:Nat),v=iV z/\at2<=e.length/\(-9223372036854775808<=z/\z<=9223372036854775807)/\Own w' a 65 [.slice A e.length i,nV at2]):=by
 have d:UpM [a] w h w h:=UpM.refl g;obtain ⟨wz,u,b⟩:=SS.at_ g B F;replace b:=b.aS C;refine go Tryz.func46 [(0,pB a)] rfl (ab b ae (ag (cQ (cR 10 [] mixed b ai ?_))));refine eV 0 3 (pB a) (eV 1 4 (pB a) (eV 2 5 (qP a 1) (eO 3 6 [(0,1,1)] (nV at_) b (eV 4 7 (pB a) (eV 5 8 (pB a) (eV 6 9 (pB a) (eO 7 10 [(0,0,1)] (qS A e.length i) b (eV 8 11 (nV e.length) ?_))))))));cases j:(decide ((e.length:Int)<=(at_:Int)))
 .
  have l:=oF j;refine eB 9 12 j (iX b (fun w2 K x b=>?_));replace d:=d.trans (x.m _);refine tN (cD (cK (ab b [.c,.v (pB a),.v (qP a 1),.o (nV at_) 0 1 1] (bB 17 ((at_:Nat)+1) (at_+1) ?_))));refine lL b [.v (pB a),.v (qP a 1)] (mF 0 1 ([nV (at_+1)]) b (fun J D b=>?_));replace d:=d.put D (List.mem_singleton.2 rfl) b.g;refine ag (cR 11 [] mixed b ai ?_);refine eV 0 20 (pB a) (eV 1 21 (pB a) (eV 2 22 (pB a) (eO 3 23 [(0,0,1)] (qS A e.length i) b (eV 4 24 (pB a) (eV 5 25 (pB a) (eV 6 26 (qP a 1) (eO 7 27 [(0,1,1)] (nV (at_+1)) b (lr 8 28 ((at_+1:Nat)-1) ((at_+1)-1) (eX 9 29 A e.length i 1 ((at_+1)-1:Nat) ((at_+1)-1) ((b.f.1).ok oM) (eH 10 30 (iV (e.getD ((at_+1)-1) 0)) b ((b.f.1).el ((at_+1)-1) oM) (iX b (fun I H y b=>?_))))))))))));replace d:=d.trans (y.m _);exact tV 11 2 (iV (e.getD ((at_+1)-1) 0)) (tN (kX (b.retM d [] (iV (e.getD ((at_+1)-1) 0)) ⟨e.getD ((at_+1)-1) 0,(at_+1),rfl,by omega,hz _,b.own 0⟩)))
 have l:=oT j;refine eB 9 12 j (iX b (fun L _ p b=>?_));replace d:=d.trans (p.m _);exact tN (bZ (ab b ae (lN (kX (b.retM d [] (iV 0) ⟨0,at_,rfl,by omega,⟨by decide,by decide⟩,b.own 0⟩)))))
structure LayFit (L:Lay):Prop where
  rl:L.W.length<=1000000
  rls:∀ i,i<L.W.length->(L.W.getD i []).length<=1000000
  rf:∀ i,i<L.W.length->∀ j,j<(L.W.getD i []).length->LQ 100000000 ((L.W.getD i []).getD j 0)
  bl:L.B.length<=1000000
  bf:∀ i,i<L.B.length->LQ 100000000 (L.B.getD i 0)
structure Stp where
  op:Int
  a:Int
  b:Int
  n:Int
  q:Rat
abbrev sX (p:Stp):Value:=.agg #[iV p.op,iV p.a,iV p.b,iV p.n,.bool (ax p.q.num),uV (lo (ac p.q.num)),.string (hi (ac p.q.num)),uV (lo (qd p.q)),.string (hi (qd p.q))]
abbrev sC (p:Stp):List Value:=[iV p.op,iV p.a,iV p.b,iV p.n,.bool (ax p.q.num),uV (lo (ac p.q.num)),.string (hi (ac p.q.num)),uV (lo (qd p.q)),.string (hi (qd p.q))]
abbrev sW (o a b n:Int)(q:Rat):Value:=.agg #[iV o,iV a,iV b,iV n,.bool (ax q.num),uV (lo (ac q.num)),.string (hi (ac q.num)),uV (lo (qd q)),.string (hi (qd q))]
abbrev sG (o a b n:Int)(q:Rat):List Value:=[iV o,iV a,iV b,iV n,.bool (ax q.num),uV (lo (ac q.num)),.string (hi (ac q.num)),uV (lo (qd q)),.string (hi (qd q))]
def d6:Stp:=⟨0,0,0,0,0⟩
abbrev gP (l:List Stp)(k:Nat):Stp:=l.getD k d6
def fF (op:Int):Int :=
  if op=1\/op=2 then 0 else if op=7\/op=8\/op=9\/op=10\/op=11 then 1
  else if op=3\/op=4\/op=5\/op=6\/op=12\/op=13 then 2 else -1
theorem aN (op:Int):(fF op=0/\(op=1\/op=2))\/(fF op=1/\(op=7\/op=8\/op=9\/op=10\/op=11))\/(fF op=2/\(op=3\/op=4\/op=5\/op=6\/op=12\/op=13))\/(fF op = -1/\(op<1\/13<op)):=by
 unfold fF;split
 ·exact .inl ⟨rfl,by assumption⟩
 ·split
  ·exact .inr (.inl ⟨rfl,by assumption⟩)
  ·split
   ·exact .inr (.inr (.inl ⟨rfl,by assumption⟩))
   ·exact .inr (.inr (.inr ⟨rfl,by omega⟩))
def np (i:Nat)(tt:Int)(used:Prop):Prop:=(used->0<=tt/\tt<i)/\(¬used->tt=0)
def nq (inp:Int)(i:Nat)(s:Stp):Prop :=
  0<=fF s.op/\np i s.a (0<fF s.op)/\np i s.b (1<fF s.op)/\(s.op≠1->s.q.num=0) /\
  (s.op=2->0<=s.n/\s.n<inp)/\(s.op=8 -> -12<=s.n/\s.n<=12)/\(s.op≠2->s.op≠8->s.n=0)
instance (i:Nat) (tt:Int) (u:Prop) [Decidable u]:Decidable (np i tt u):=by unfold np;infer_instance
instance (inp:Int) (i:Nat) (s:Stp):Decidable (nq inp i s):=by unfold nq;infer_instance
def wl (n:Nat)(os:List Int):Prop:=∀ i,i<os.length->0<=os.getD i 0/\os.getD i 0<n
instance (n:Nat) (os:List Int):Decidable (wl n os):=by unfold wl;infer_instance
structure RSt where
  op:Int
  a:Int
  b:Int
  n:Int
  t:RT
def He:RSt:=⟨0,0,0,0,Dy⟩
structure OSt where
  op:Int
  a:Int
  b:Int
  n:Int
  q:Rat
  has:Bool
def Di:OSt:=⟨0,0,0,0,0,false⟩
def HD (o:OSt):Nat:=if o.has then o.q.den else 0
def OSt.stp (o:OSt):Stp:=⟨o.op,o.a,o.b,o.n,o.q⟩
abbrev gO (s:List OSt)(k:Nat):OSt:=s.getD k Di
abbrev mO (s:List OSt):List Stp:=s.map OSt.stp
structure RS1 (h:Hp) (t:RSt) (o:OSt):Prop where
  op:t.op=o.op
  a:t.a=o.a
  b:t.b=o.b
  n:t.n=o.n
  q:RP h (FT t.t) o.q.num (HD o)
  z:o.has=false->o.q=0
structure RSs (h:Hp) (ts:List RSt) (os:List OSt):Prop where
  len:ts.length=os.length
  at_:∀ i,i<os.length->RS1 h (ts.getD i He) (os.getD i Di)
structure OSm (o:OSt):Prop where
  op : -1000<=o.op/\o.op<=1000
  a : -1000<=o.a/\o.a<=1000
  b : -1000<=o.b/\o.b<=1000
  n : -1000<=o.n/\o.n<=1000
  q:LQ 1 o.q
def Hd (os:List OSt):Prop:=∀ i,i<os.length->OSm (os.getD i Di)
structure LayLen (L:Lay):Prop where
  rl:L.W.length<=1000000
  rls:∀ i,i<L.W.length->(L.W.getD i []).length<=1000000
  bl:L.B.length<=1000000
structure Mat (W:List (List Rat)) (r c:Nat):Prop where
  rows:W.length=r
  rpos:0<r
  cpos:0<c
  row:∀ i,i<r->(W.getD i []).length=c
structure Net3 (ls:List Lay) (d:Nat->Nat):Prop where
  len:1<=ls.length/\ls.length<=4
  first:d 0<=20
  lay:∀ i,i<ls.length->Mat (ls.getD i g6).W (d (i+1)) (d i)/\(ls.getD i g6).B.length=d (i+1)/\d (i+1)<=12/\((ls.getD i g6).k=1\/(ls.getD i g6).k=2\/(ls.getD i g6).k=3)
def HF (k:Int)(u:Rat):Rat:=if k=2 then maxR u 0 else if k=3 then u/(((1:Int):Rat)+cv u) else u
def G7 (L:Lay)(x:List Rat):List Rat:=(o0 L.W.length).map fun i=>HF L.k (bJ (L.W.getD i []) x x.length+L.B.getD i 0)
def Bn (ls:List Lay)(xs:List Rat):Nat->List Rat
  | 0=>xs
  | k+1=>G7 (ls.getD k g6) (Bn ls xs k)
abbrev gD (ls:List Lay)(xs:List Rat)(k r:Nat):Rat:=bJ ((ls.getD k g6).W.getD r []) (Bn ls xs k) (Bn ls xs k).length
abbrev gS (ls:List Lay)(xs:List Rat)(k r:Nat):Rat:=gD ls xs k r+((ls.getD k g6).B).getD r 0
structure NetB (ls:List Lay) (xs:List Rat):Prop where
  w:∀ k i j,LQ 1000000 (((ls.getD k g6).W.getD i []).getD j 0)
  b:∀ k i,LQ 1000000 ((ls.getD k g6).B.getD i 0)
  x:∀ k,k<=ls.length->∀ j,LQ 1000000 ((Bn ls xs k).getD j 0)
theorem j7 {n:Nat}:∀ j,(yL n (0:Rat)).getD j 0=0:=fun j=>by
 rw[D0,List.getElem?_replicate];split<;>rfl
structure LaySz (L:Lay):Prop where
  rl:L.W.length<=8
  rls:∀ i,(L.W.getD i []).length<=8
  bl:L.B.length<=8
  w:∀ i j,LQ 1 ((L.W.getD i []).getD j 0)
  b:∀ i,LQ 1 (L.B.getD i 0)
  b4:L.B.length<=4
  w4:(L.W.getD 0 []).length<=4
theorem jf {k:Nat}(h:1<=k):LQ k 0:=(LQ.lit (z:=0) kD).mono h
theorem bK {α:Type}{l:List α}{n i:Nat}{d x:α}(h:n<l.length):(l.set n x).getD i d=if i=n then x else l.getD i d:=by
 split
 ·rename_i e;subst e;simp[h]
 ·rename_i e;rw[D0,List.getElem?_set_ne (Ne.symm e),<-D0]
structure LayS4 (L:Lay):Prop where
  rl:L.W.length<=4
  rls:∀ i,(L.W.getD i []).length<=4
  bl:L.B.length<=4
  w:∀ i j,LQ 1 ((L.W.getD i []).getD j 0)
  b:∀ i,LQ 1 (L.B.getD i 0)
theorem cP {α:Type}{l:List α}{i:Nat}{d:α}(h:l.length<=i):l.getD i d=d:=by rw[D0,ya h];rfl
def bU (a:Rat):Nat->Rat
  | 0=>((1:Int):Rat)
  | k+1=>bU a k*a
theorem jQ {a:Rat}(h:a≠0):∀ k,bU a k≠0
 | 0=>by show ((1:Int):Rat)≠0;decide
 | k+1=>by show bU a k*a≠0;have:=jQ h k;grind
def fl (a:Rat)(n:Int):Rat:=if 0<=n then bU a n.natAbs else ((1:Int):Rat)/bU a n.natAbs
def oG (a b:Rat):Rat:=if b<a then b else a
def lp (op n:Int)(q a b:Rat):Rat :=
  if op=1 then q else if op=3 then a+b else if op=4 then a-b else if op=5 then a*b else if op=6 then a/b else if op=7 then -a
  else if op=8 then fl a n else if op=9 then cv a else if op=10 then maxR a 0 else if op=11 then a/(cv a+((1:Int):Rat)) else if op=12 then maxR a b else oG a b
def xr (op n:Int)(a b:Rat):Prop:=(op=6->b≠0)/\(op=8->n<0->a≠0)
instance (op n:Int) (a b:Rat):Decidable (xr op n a b):=by unfold xr;infer_instance
def FH (op:Int)(a b:Rat):Prop:=(op=9\/op=10)/\a=0\/(op=12\/op=13)/\a=b
instance (op:Int) (a b:Rat):Decidable (FH op a b):=by unfold FH;infer_instance
def DB (op n:Int)(a b:Rat):Rat :=
  if op=3 then ((1:Int):Rat) else if op=4 then ((1:Int):Rat) else if op=5 then b else if op=6 then ((1:Int):Rat)/b else if op=7 then -((1:Int):Rat)
  else if op=8 then (if n=0 then 0 else fl a (n-1)*((n:Int):Rat)) else if op=9 then ((a.num.sign:Int):Rat) else if op=10 then ((max a.num.sign 0:Int):Rat)
  else if op=11 then (((1:Int):Rat)/(((1:Int):Rat)+cv a))*(((1:Int):Rat)/(((1:Int):Rat)+cv a))
  else if op=12 then (if b<a then ((1:Int):Rat) else 0) else if op=13 then (if b<a then 0 else ((1:Int):Rat)) else 0
def DM (op:Int)(a b:Rat):Rat :=
  if op=3 then ((1:Int):Rat) else if op=4 then -((1:Int):Rat) else if op=5 then a else if op=6 then -(a*(((1:Int):Rat)/b)*(((1:Int):Rat)/b))
  else if op=12 then (if b<a then 0 else ((1:Int):Rat)) else if op=13 then (if b<a then ((1:Int):Rat) else 0) else 0
theorem gy (z:Int) : -1<=z.sign/\z.sign<=1:=by
 rcases IS z 0 with h|h|h
 ·rw[Iz h];decide
 ·rw[h];decide
 ·rw[IA h];decide
theorem j5 {a:Rat}{K:Nat}(h:LQ K a):∀ k,LQ (k*K+1) (bU a k)
 | 0=>LQ.mono (k:=1) (LQ.lit (z:=1) kD) oM
 | k+1=>((j5 h k).mul h).mono (by rw[Gx];omega)
theorem d8 {a b:Rat}:dJ a b=0↔a=b:=by
 constructor
 ·intro h
  have h1:¬a<b:=fun x=>by have:=jU.2 x;omega
  have c:¬b<a:=fun x=>by have:=jV.2 x;omega
  grind
 ·intro h;subst h
  have h1:¬dJ a a<0:=fun x=>by have:=jU.1 x;grind
  have c:¬dJ a a>0:=fun x=>by have:=jV.1 x;grind
  omega
def GB (op n:Int)(q a b:Rat):Rat:=if xr op n a b then lp op n q a b else 0
theorem i8 {a b:List Rat}(h:a.length=b.length)(hv:∀ j,a.getD j 0=b.getD j 0):a=b:=by
 refine List.ext_getElem h (fun i h1 c=>?_);have:=hv i
 simpa [h1,c] using this
theorem pd {q:Rat}{n:Int}{m:Nat}(a:q≠0)(c:n<0)(b:m=n.natAbs):bU (((1:Int):Rat)/q) m=fl q n:=by
  have h1:((1:Int):Rat)=1:=rfl
  have e:∀ k,bU (((1:Int):Rat)/q) k=((1:Int):Rat)/bU q k:=fun k=>by
    induction k with
    | zero=>show ((1:Int):Rat)=((1:Int):Rat)/((1:Int):Rat);rw[h1];grind
    | succ k ih =>
      show bU _ k*_=_/(bU q k*q)
      have:=jQ a k;rw[ih,h1];grind
  unfold fl
  rw[if_neg oM,<-b,e]
theorem m8 {a:Rat}:0<a.num.sign↔0<a:=by
 rw[Rat.lt_iff]
 rcases IS a.num 0 with h|h|h
 ·rw[Iz h];simp;omega
 ·rw[h];simp
 ·rw[IA h];simpa using h
section ro
variable {w0:World}{h0:Hp}{w:World}{h:Hp}{B:List Bx}{R:List Rw}{F:List (Hp->Prop)}
theorem SS.ro_jk (s:SS w0 h0 w h B R F)(j:Nat){ty:TypeId}{sz c m:Nat}{A:Z9}{cs:List Value}(hr:R.getD j default=⟨ty,sz,A,c,m,cs⟩:=by kernel_rfl)(e:decide (j<R.length)=true:=by kernel_rfl):∀ b∈(Value.slice A m c).ownBlock.toList,h[b]?=some aY:=fun b d=>by
 have a:=oT e;have r:=s.ro _ (gs a);rw[k7 hr a] at r
 exact r.jk b (Jk.1 d)
theorem SS.ro_lt (s:SS w0 h0 w h B R F)(j:Nat){ty:TypeId}{sz c m:Nat}{A:Z9}{cs:List Value}(hr:R.getD j default=⟨ty,sz,A,c,m,cs⟩:=by kernel_rfl)(e:decide (j<R.length)=true:=by kernel_rfl):∀ b∈(Value.slice A m c).ownBlock.toList,b<h.size:=fun b d=>by
 have a:=oT e;have r:=s.ro _ (gs a);rw[k7 hr a] at r
 exact aF (r.jk b (Jk.1 d))
theorem SS.ro_ne (s:SS w0 h0 w h B R F)(q j:Nat){ty:TypeId}{sz c m:Nat}{A:Z9}{cs:List Value}(f:decide (q<B.length)=true:=by kernel_rfl)(hr:R.getD j default=⟨ty,sz,A,c,m,cs⟩:=by kernel_rfl)(e:decide (j<R.length)=true:=by kernel_rfl):(av B q).b ∉ (Value.slice A m c).ownBlock.toList:=fun d=>by
 have a:=oT e;have r:=s.ro _ (gs a);rw[k7 hr a] at r
 exact r.ap _ (Jk.1 d) (g2.2 ⟨_,a8 (oT f),rfl⟩)
end ro
def cc (op n:Int)(a b:Rat):Int:=if xr op n a b then (if FH op a b then 7 else 0) else 6
theorem i1:((1:Int):Rat)=1:=rfl
theorem i0:((0:Int):Rat)=0:=rfl
theorem r8:((-1:Int):Rat) = -1:=rfl
theorem C7 {f:Nat->Rat}{K m:Nat}(a:1<=K)(h:∀ i,LQ K (f i))(j:Nat):LQ K (((o0 m).map f).getD j 0):=by
 by_cases hj:j<m
 ·simp[hj];exact h j
 ·simp[hj];exact jf a
theorem pm {b d:List Rat}{a:Nat}{y:Rat}(ha:a<b.length):∀ n,bJ (b.set a y) d n=bJ b d n+(if a<n then (y-b.getD a 0)*d.getD a 0 else 0)
  | 0=>by show (0:Rat)=0+_;rw[if_neg (Jl a)];grind
  | n+1=>by
    show bJ (b.set a y) d n+(b.set a y).getD n 0*d.getD n 0=(bJ b d n+b.getD n 0*d.getD n 0)+_
    rw[pm ha n,bK ha]
    rcases Nat.lt_trichotomy a n with h|h|h
    . rw[if_neg (by omega:¬n=a),if_pos h,if_pos oM];grind
    . subst h;rw[if_pos rfl,if_neg (Jf _),if_pos oM];grind
    . rw[if_neg oM,if_neg oM,if_neg oM];grind
theorem tC {b d:List Rat}{a n:Nat}{y x:Rat}(ha:a<b.length)(e:a<n)(c:y=b.getD a 0+x):bJ (b.set a y) d n=bJ b d n+x*d.getD a 0:=by
 rw[pm ha,if_pos e,c];grind
def Ho (z:Nat)(l:List Stp):Prop:=∀ k,k<l.length->(l.getD k d6).op=8->(k=z -> -12<=(l.getD k d6).n/\(l.getD k d6).n<=12)/\(k≠z -> -1<=(l.getD k d6).n/\(l.getD k d6).n<=2)
theorem js (a b:List Rat):∀ n,bJ a b n=bJ b a n
 | 0=>rfl
 | n+1=>by show bJ a b n+_=bJ b a n+_;rw[js a b n,Rat.mul_comm]
theorem jD (m:Nat)(b:List Rat):∀ n,bJ (yL m 0) b n=0
 | 0=>rfl
 | n+1=>by show bJ _ b n+_=_;rw[jD m b n,j7];grind
def ef (n j:Nat):List Rat:=(yL n (0:Rat)).set j ((1:Int):Rat)
theorem tk {g:List Rat}{n j:Nat}(h:j<n):bJ g (ef n j) n=g.getD j 0:=by
 rw[js];unfold ef;rw[tC (x:=((1:Int):Rat)) (by simpa using h) h (by rw[j7];grind),jD,show ((1:Int):Rat)=1 from rfl];grind
theorem vg {α:Type}{l:List α}{i:Nat}{d:α}(h:i<l.length):l.getD i d∈l:=by
 rw[D0,List.getElem?_eq_getElem h];exact gs h
theorem tI {α:Type}{l:List α}{i:Nat}{d:α}(h:l.length<=i):l.getD i d=d:=by
 rw[D0,ya h];rfl
def dS (s:ByteArray):List Value:=[.string s]
inductive Tm where
  | mk (op n:Int) (q:Rat) (s:ByteArray) (ks:List Tm)
def Tm.op:Tm->Int|.mk op _ _ _ _=>op
def Tm.n:Tm->Int|.mk _ n _ _ _=>n
def Tm.q:Tm->Rat|.mk _ _ q _ _=>q
def Tm.s:Tm->ByteArray|.mk _ _ _ s _=>s
def Tm.ks:Tm->List Tm|.mk _ _ _ _ ks=>ks
def dD:Tm:=.mk 0 0 0 ⟨#[]⟩ []
structure PTm where
  op:Int
  n:Int
  q:Rat
  s:ByteArray
  A:Z9
  m:Nat
  c:Nat
abbrev pX (p:PTm):Value:=.agg #[iV p.op,iV p.n,.bool (ax p.q.num),uV (lo (ac p.q.num)),.string (hi (ac p.q.num)),uV (lo (qd p.q)),.string (hi (qd p.q)),.string p.s,.slice p.A p.m p.c]
abbrev pC (p:PTm):List Value:=[iV p.op,iV p.n,.bool (ax p.q.num),uV (lo (ac p.q.num)),.string (hi (ac p.q.num)),uV (lo (qd p.q)),.string (hi (qd p.q)),.string p.s,.slice p.A p.m p.c]
abbrev pW (o n:Int)(q:Rat)(s:ByteArray)(A:Z9)(m c:Nat):Value:=.agg #[iV o,iV n,.bool (ax q.num),uV (lo (ac q.num)),.string (hi (ac q.num)),uV (lo (qd q)),.string (hi (qd q)),.string s,.slice A m c]
abbrev pG (o n:Int)(q:Rat)(s:ByteArray)(A:Z9)(m c:Nat):List Value:=[iV o,iV n,.bool (ax q.num),uV (lo (ac q.num)),.string (hi (ac q.num)),uV (lo (qd q)),.string (hi (qd q)),.string s,.slice A m c]
def bI:PTm:=⟨0,0,0,⟨#[]⟩,none,0,0⟩
def bH (p:PTm):List Value:=[.int .i64 p.op,.int .i64 p.n,.bool (ax p.q.num),.int .u64 (lo (ac p.q.num)),.string (hi (ac p.q.num)),.int .u64 (lo (qd p.q)),.string (hi (qd p.q)),.string p.s,.slice p.A p.m p.c]
def bu (p:PTm):Value:=.agg #[.int .i64 p.op,.int .i64 p.n,.bool (ax p.q.num),.int .u64 (lo (ac p.q.num)),.string (hi (ac p.q.num)),.int .u64 (lo (qd p.q)),.string (hi (qd p.q)),.string p.s,.slice p.A p.m p.c]
def TmH:Nat->Hp->PTm->Tm->Prop
  | 0,_,_,_=>False
  | d+1,h,p,t=>p.op=t.op/\p.n=t.n/\p.q=t.q/\p.s=t.s/\p.m=t.ks.length/\p.m<=p.c/\∃ ps:List PTm,ps.length=t.ks.length/\SlO 9 bH bI h p.A ps/\∀ i,i<t.ks.length->TmH d h (ps.getD i bI) (t.ks.getD i dD)
theorem TmH.gw:∀ {d:Nat} {h a:Hp} {p:PTm} {t:Tm},TmH d h p t->Gw h a->TmH d a p t
 | 0,_,_,_,_,x,_=>x
 | d+1,_,_,_,_,⟨h1,h2,h3,h4,h5,h6,ps,h7,h8,h9⟩,u=>⟨h1,h2,h3,h4,h5,h6,ps,h7,h8.gw u,fun i hi=>TmH.gw (h9 i hi) u⟩
theorem TmH.mono {h:Hp}:∀ {d e:Nat} {p:PTm} {t:Tm},TmH d h p t->d<=e->TmH e h p t
 | d+1,e+1,_,_,⟨h1,h2,h3,h4,h5,h6,ps,h7,h8,h9⟩,u=>⟨h1,h2,h3,h4,h5,h6,ps,h7,h8,fun i hi=>TmH.mono (h9 i hi) oM⟩
structure RTm where
  op:Int
  n:Int
  neg:Bool
  zA:Z9
  zn:Nat
  zc:Nat
  dA:Z9
  dn:Nat
  dc:Nat
  s:ByteArray
  A:Z9
  m:Nat
  c:Nat
def RTm.t (r:RTm):RT:=(r.neg,.slice r.zA r.zn r.zc,.slice r.dA r.dn r.dc)
def gH:RTm:=⟨0,0,false,none,0,0,none,0,0,⟨#[]⟩,none,0,0⟩
def dq (r:RTm):List Value:=[.int .i64 r.op,.int .i64 r.n,.bool r.neg,.slice r.zA r.zn r.zc,.slice r.dA r.dn r.dc,.string r.s,.slice r.A r.m r.c]
def dQ (r:RTm):Value:=.agg #[.int .i64 r.op,.int .i64 r.n,.bool r.neg,.slice r.zA r.zn r.zc,.slice r.dA r.dn r.dc,.string r.s,.slice r.A r.m r.c]
def RZ (h:Hp)(t:RT)(q:Rat):Prop:=∃ has:Bool,RP h (FT t) q.num (if has then q.den else 0)/\(has=false->q=0)
theorem RZ.gw {h a:Hp}{t:RT}{q:Rat}(x:RZ h t q)(u:Gw h a):RZ a t q:=by
 obtain ⟨b,h1,c⟩:=x;exact ⟨b,h1.gw u,c⟩
def RmH:Nat->Hp->RTm->Tm->Prop
  | 0,_,_,_=>False
  | d+1,h,r,t=>r.op=t.op/\r.n=t.n/\RZ h r.t t.q/\r.s=t.s/\r.m=t.ks.length/\r.m<=r.c/\∃ rs:List RTm,rs.length=t.ks.length/\SlO 7 dq gH h r.A rs/\∀ i,i<t.ks.length->RmH d h (rs.getD i gH) (t.ks.getD i dD)
theorem Eu {h:Hp}{b:Bool}{j l:Z9}{y i f u:Nat}{q:Rat}(x:RZ h (b,.slice j y i,.slice l f u) q)(p:0<f):RP h (.agg #[.bool b,.slice j y i,.slice l f u]) q.num q.den:=by
 obtain ⟨z,h1,B⟩:=x;cases z
 ·obtain ⟨A,c,D,d,e,I,H,C,F⟩:=h1
  injection e with e
  have o:=congrArg (fun a:Array Value=>a.toList) e
  simp at o
  have:f=(lim 0).length:=o.2.2.2.1;have h0:(lim 0).length=0:=by have:=@dv 0;omega
  omega
 ·exact h1
theorem ES {h:Hp}{b:Bool}{o p:Z9}{y i u:Nat}{q:Rat}(x:RZ h (b,.slice o y i,.slice p 0 u) q):q=0:=by
 obtain ⟨j,h1,l⟩:=x;cases j
 ·exact l rfl
 ·obtain ⟨A,c,D,d,e,I,F,z,C⟩:=h1
  injection e with e
  have f:=congrArg (fun a:Array Value=>a.toList) e
  simp at f
  have H:0=(lim q.den).length:=f.2.2.2.1;have B:=(@dv q.den).2 q.den_pos
  omega
theorem RmH.gw:∀ {d:Nat} {h a:Hp} {r:RTm} {t:Tm},RmH d h r t->Gw h a->RmH d a r t
 | 0,_,_,_,_,x,_=>x
 | d+1,_,_,_,_,⟨h1,h2,h3,h4,h5,h6,ps,h7,h8,h9⟩,u=>⟨h1,h2,h3.gw u,h4,h5,h6,ps,h7,h8.gw u,fun i hi=>RmH.gw (h9 i hi) u⟩
structure Tms (d:Nat) (h:Hp) (ps:List PTm) (ts:List Tm):Prop where
  len:ps.length=ts.length
  at_:∀ i,i<ts.length->TmH d h (ps.getD i bI) (ts.getD i dD)
theorem Tms.gw {d:Nat}{h a:Hp}{ps:List PTm}{b:List Tm}(x:Tms d h ps b)(u:Gw h a):Tms d a ps b:=⟨x.len,fun i hi=>(x.at_ i hi).gw u⟩
structure Rms (d:Nat) (h:Hp) (rs:List RTm) (ts:List Tm):Prop where
  len:rs.length=ts.length
  at_:∀ i,i<ts.length->RmH d h (rs.getD i gH) (ts.getD i dD)
theorem Rms.gw {d:Nat}{h a:Hp}{c:List RTm}{b:List Tm}(x:Rms d h c b)(u:Gw h a):Rms d a c b:=⟨x.len,fun i hi=>(x.at_ i hi).gw u⟩
theorem Rms.snoc {d:Nat}{h:Hp}{b:List RTm}{a:List Tm}{r:RTm}{t:Tm}(x:Rms d h b a)(y:RmH d h r t):Rms d h (b++[r]) (a++[t]):=by
 refine ⟨by simp[x.len],fun i hi=>?_⟩;rw[yD,Jm] at hi
 rw[d5,d5,x.len]
 by_cases e:i<a.length
 ·rw[if_pos e,if_pos e];exact x.at_ i e
 ·rw[if_neg e,if_neg e,if_pos oM,if_pos oM];exact y
theorem Tms.nil {d:Nat}{h:Hp}:Tms d h [] []:=⟨rfl,fun i hi=>by simp at hi⟩
theorem Tms.snoc {d:Nat}{h:Hp}{b:List PTm}{a:List Tm}{r:PTm}{t:Tm}(x:Tms d h b a)(y:TmH d h r t):Tms d h (b++[r]) (a++[t]):=by
 refine ⟨by simp[x.len],fun i hi=>?_⟩;rw[yD,Jm] at hi
 rw[d5,d5,x.len]
 by_cases e:i<a.length
 ·rw[if_pos e,if_pos e];exact x.at_ i e
 ·rw[if_neg e,if_neg e,if_pos oM,if_pos oM];exact y
theorem TmH.mk {d:Nat}{h:Hp}{op n:Int}{q:Rat}{s:ByteArray}{A:Z9}{c:Nat}{ps:List PTm}{ks:List Tm}(x:Tms d h ps ks)(b:ps.length<=c)(a:SlO 9 bH bI h A ps):TmH (d+1) h ⟨op,n,q,s,A,ps.length,c⟩ (.mk op n q s ks) :=
 ⟨rfl,rfl,rfl,rfl,x.len,b,ps,x.len,a,x.at_⟩
theorem TmH.open {d:Nat}{h:Hp}{p:PTm}{t:Tm}(x:TmH (d+1) h p t):∃ op n q s A c,∃ ps:List PTm,∃ ks:List Tm,p=⟨op,n,q,s,A,ps.length,c⟩/\t=.mk op n q s ks/\ps.length<=c/\SlO 9 bH bI h A ps/\Tms d h ps ks:=by
  obtain ⟨op,n,q,s,A,m,c⟩:=p;cases t with
  | mk qH n2 q2 s2 ks =>
    obtain ⟨h1,f,l,j,o,b,ps,a,e,i⟩:=x;obtain rfl:op=qH:=h1;obtain rfl:n=n2:=f;obtain rfl:q=q2:=l;obtain rfl:s=s2:=j;obtain rfl:m=ps.length:=(show m=ks.length from o).trans a.symm;exact ⟨op,n,q,s,A,c,ps,ks,rfl,rfl,b,e,a,i⟩
theorem RmH.open {d:Nat}{h:Hp}{p:RTm}{t:Tm}(x:RmH (d+1) h p t):∃ op n b f l a i e j q s A c,∃ ps:List RTm,∃ ks:List Tm,p=⟨op,n,b,f,l,a,i,e,j,s,A,ps.length,c⟩/\t=.mk op n q s ks/\RZ h (b,.slice f l a,.slice i e j) q/\ps.length<=c/\SlO 7 dq gH h A ps/\Rms d h ps ks:=by
  obtain ⟨op,n,b,f,l,a,i,e,j,s,A,m,c⟩:=p;cases t with
  | mk qH n2 q2 s2 ks =>
    obtain ⟨h1,z,D,C,F,y,ps,o,u,B⟩:=x;obtain rfl:op=qH:=h1;obtain rfl:n=n2:=z;obtain rfl:s=s2:=C;obtain rfl:m=ps.length:=(show m=ks.length from F).trans o.symm;exact ⟨op,n,b,f,l,a,i,e,j,q2,s,A,c,ps,ks,rfl,rfl,D,y,u,o,B⟩
def eh (f:Nat->Nat):Nat->Nat
  | 0=>0
  | k+1=>eh f k+f k
def aZ (n:Int):Nat:=if n.natAbs<=1 then 1 else n.natAbs
def bD:Nat->Tm->Nat
  | 0,_=>0
  | d+1,t=>if t.ks.length=0 then 1 else (if t.op=11 then 2 else if t.op=8 then aZ t.n else 1)*eh (fun i=>bD d (t.ks.getD i dD)) t.ks.length
def WfT (ok:ByteArray->Prop):Nat->Tm->Prop
  | 0,_=>False
  | d+1,t=>fF t.op=t.ks.length/\(t.op≠1->t.q=0)/\LQ 3000 t.q/\(t.op=2->ok t.s)/\(t.op≠2->t.s=⟨#[]⟩)/\(t.op≠8->t.n=0) /\ -12<=t.n/\t.n<=12/\∀ i,i<t.ks.length->WfT ok d (t.ks.getD i dD)
def sR (sm:ByteArray->Prop):Nat->Tm->Prop
  | 0,_=>False
  | d+1,t=>t.ks.length<=3/\(-1000<=t.op/\t.op<=1000)/\(-1000<=t.n/\t.n<=1000)/\LQ 3000 t.q/\sm t.s/\∀ i,i<t.ks.length->sR sm d (t.ks.getD i dD)
theorem WfT.sm {ok sm:ByteArray->Prop}(h:∀ s,ok s->sm s)(h0:sm ⟨#[]⟩):∀ {d:Nat} {t:Tm},WfT ok d t->sR sm d t
  | d+1,t,⟨h1,h2,h3,h4,h5,h6,h7,h8,h9⟩=>by
    have a:=aN t.op;refine ⟨by omega,⟨by omega,by omega⟩,⟨by omega,by omega⟩,h3,?_,fun i hi=>WfT.sm h h0 (h9 i hi)⟩
    by_cases e:t.op=2
    . exact h _ (h4 e)
    . rw[h5 e];exact h0
def WfT1 (ok:ByteArray->Prop):Nat->Tm->Prop
  | 0,_=>False
  | d+1,t=>fF t.op=t.ks.length/\(t.op≠1->t.q=0)/\LQ 1 t.q/\(t.op=2->ok t.s)/\(t.op≠2->t.s=⟨#[]⟩)/\(t.op≠8->t.n=0) /\ -12<=t.n/\t.n<=12/\∀ i,i<t.ks.length->WfT1 ok d (t.ks.getD i dD)
theorem WfT1.wf {ok:ByteArray->Prop}:∀ {d:Nat} {t:Tm},WfT1 ok d t->WfT ok d t
 | _+1,_,⟨h1,h2,h3,h4,h5,h6,h7,h8,h9⟩=>⟨h1,h2,h3.mono kD,h4,h5,h6,h7,h8,fun i hi=>WfT1.wf (h9 i hi)⟩
def SmT1 (sm:ByteArray->Prop):Nat->Tm->Prop
  | 0,_=>False
  | d+1,t=>t.ks.length<=3/\(-1000<=t.op/\t.op<=1000)/\(-1000<=t.n/\t.n<=1000)/\LQ 1 t.q/\sm t.s/\∀ i,i<t.ks.length->SmT1 sm d (t.ks.getD i dD)
theorem SmT1.sm {sm:ByteArray->Prop}:∀ {d:Nat} {t:Tm},SmT1 sm d t->sR sm d t
 | _+1,_,⟨h1,h2,h3,h4,h5,h6⟩=>⟨h1,h2,h3,h4.mono kD,h5,fun i hi=>SmT1.sm (h6 i hi)⟩
theorem WfT1.sm {ok sm:ByteArray->Prop}(h:∀ s,ok s->sm s)(h0:sm ⟨#[]⟩):∀ {d:Nat} {t:Tm},WfT1 ok d t->SmT1 sm d t
  | d+1,t,⟨h1,h2,h3,h4,h5,h6,h7,h8,h9⟩=>by
    have a:=aN t.op;refine ⟨by omega,⟨by omega,by omega⟩,⟨by omega,by omega⟩,h3,?_,fun i hi=>WfT1.sm h h0 (h9 i hi)⟩
    by_cases e:t.op=2
    . exact h _ (h4 e)
    . rw[h5 e];exact h0
def GK (isb:ByteArray->Bool)(op n:Int)(q:Rat)(s:ByteArray)(m:Nat):Prop:=fF op=m/\(op=1\/q.num=0)/\((op=2->isb s=true)/\(op≠2->s=⟨#[]⟩))/\((op=8\/n=0) /\ -12<=n/\n<=12)
section
variable {isb:ByteArray->Bool}{d:Nat}{op n:Int}{q:Rat}{s:ByteArray}{ks:List Tm}
theorem x5 (w:WfT (fun s=>isb s=true) (d+1) (.mk op n q s ks)):GK isb op n q s ks.length:=by
 obtain ⟨h1,f,j,h,i,b,c,a,l⟩:=w;refine ⟨h1,?_,⟨h,i⟩,?_,c,a⟩
 ·by_cases e:op=1
  ·exact .inl e
  ·exact .inr (Jn.2 (f e))
 ·by_cases e:op=8
  ·exact .inl e
  ·exact .inr (b e)
theorem rR (h:¬GK isb op n q s ks.length):∃ a,Value.bool false=.bool a/\(a=true↔WfT (fun s=>isb s=true) (d+1) (.mk op n q s ks)):=⟨false,rfl,fun b=>(by cases b),fun w=>absurd (x5 w) h⟩
theorem FK {k:Nat}(hk:k<ks.length){c:Bool}(b:c=false)(h:c=true↔WfT (fun s=>isb s=true) d (ks.getD k dD)):∃ a,Value.bool false=.bool a/\(a=true↔WfT (fun s=>isb s=true) (d+1) (.mk op n q s ks)):=⟨false,rfl,fun e=>(by cases e),fun ⟨_,_,_,_,_,_,_,_,f⟩=>by rw[h.2 (f k hk)] at b;cases b⟩
theorem FR (h:GK isb op n q s ks.length)(p:LQ 3000 q)(j:∀ i,i<ks.length->WfT (fun s=>isb s=true) d (ks.getD i dD)):∃ a,Value.bool true=.bool a/\(a=true↔WfT (fun s=>isb s=true) (d+1) (.mk op n q s ks)):=by
 obtain ⟨h1,l,⟨o,u⟩,c,f,b⟩:=h;refine ⟨true,rfl,fun _=>⟨h1,fun e=>Jn.1 (l.resolve_left e),p,o,u,fun e=>c.resolve_left e,f,b,j⟩,fun _=>rfl⟩
end
def EJ (nm:Int->ByteArray)(l:List Stp):Nat->Nat->Tm
  | 0,_=>dD
  | f+1,i =>
    if (l.getD i d6).op=2 then .mk 2 0 0 (nm (l.getD i d6).n) []
    else if fF (l.getD i d6).op=1 then .mk (l.getD i d6).op (l.getD i d6).n 0 ⟨#[]⟩ [EJ nm l f (l.getD i d6).a.toNat]
    else if fF (l.getD i d6).op=2 then .mk (l.getD i d6).op 0 0 ⟨#[]⟩ [EJ nm l f (l.getD i d6).a.toNat,EJ nm l f (l.getD i d6).b.toNat]
    else .mk (l.getD i d6).op 0 (l.getD i d6).q ⟨#[]⟩ []
structure MapJ (h0:Hp) (B:List Bx) (w:World) (h:Hp) (b:Nat) (es:List MapEntry) (clk:Nat):Prop where
  obj:w.heap[b]?=some (.map es.toArray clk)
  jk:h[b]?=some aY
  lo:h0.size<=b
  nb:∀ x∈B,x.b≠b
def MapS (h:Hp)(b:Nat)(es:List MapEntry):Prop:=∃ clk,h[b]?=some (.map es.toArray clk)
theorem MapS.gw {h a:Hp}{b:Nat}{d:List MapEntry}(x:MapS h b d)(u:Gw h a):MapS a b d:=by
 obtain ⟨c,e⟩:=x;refine ⟨c,?_⟩
 rcases u.blk b (aF e) with k|k
 ·exact k.trans e
 ·rw[e] at k;cases k
theorem MapS.w {w:World}{h:Hp}{b:Nat}{d:List MapEntry}(x:MapS h b d)(g:G w h):∃ a,w.heap[b]?=some (.map d.toArray a):=by
 obtain ⟨c,e⟩:=x;refine ⟨c,?_⟩
 rcases g.blk b with k|k
 ·rw[<-k];exact e
 ·rw[e] at k;cases k
theorem qO {P:Program}(w:World){mty kt et:TypeId}{b a:Nat}{c:Array MapEntry}{s:ByteArray}{val:Value}(e:P.underlying mty=some (.map kt et))(hk:P.underlying kt=some .string)(d:w.heap[b]?=some (.map c a))(hf:Instr.findNow .string (.string s) c.toList 0=some none) :
  (Instr.mapUpdate mty (.map (some b)) (.string s) val).run P w=.ok () { w with heap:=w.heap.setIfInBounds b (.map (c.push { key:=.string s,val:=val,born:=a }) (a+1)) }:=by
 have f:(Instr.checkKey false 10000 kt (.string s)).run P w=.ok () w:=MapKept.run_checkKey (k:=.string s) hk (by simp[MapKept.IsKey]) false 9999
 simp[Instr.mapUpdate,run_underlying e,MapKept.run_getObj_map d,f,MapKept.run_findKey hk hf,MapKept.run_setObj_map _ d,Result.andThen]
theorem ny {P:Program}(w:World){mty kt et:TypeId}{b a i:Nat}{c:Array MapEntry}{s:ByteArray}{val h:Value}(j:P.underlying mty=some (.map kt et))(hk:P.underlying kt=some .string)(d:w.heap[b]?=some (.map c a))(hf:Instr.findNow .string (.string s) c.toList 0=some (some (i,h)))(l:((c[i]?).map (·.key)).getD (.string s)=.string s) :
  (Instr.mapUpdate mty (.map (some b)) (.string s) val).run P w=.ok () { w with heap:=w.heap.setIfInBounds b (.map (c.modify i fun e=>{ e with key:=.string s,val:=val }) a) }:=by
 have p:(Instr.checkKey false 10000 kt (.string s)).run P w=.ok () w:=MapKept.run_checkKey (k:=.string s) hk (by simp[MapKept.IsKey]) false 9999;have o:(s == s)=true:=by first|exact beq_self_eq_true s|(show (s.data == s.data)=true;exact beq_self_eq_true _)|(cases s;rfl)
 have f:Instr.sameBits 10000 (.string s) (.string s)=true:=by simp[Instr.sameBits,o]
 simp[Instr.mapUpdate,run_underlying j,MapKept.run_getObj_map d,p,MapKept.run_findKey hk hf,MapKept.run_setObj_map _ d,Result.andThen,l,Instr.keyThatStays,f]
theorem wd {P:Program}(w:World){mty kt et:TypeId}{b c:Nat}{a:Array MapEntry}{s:ByteArray}(ok:Bool){v:Value}{found:Bool}(e:P.underlying mty=some (.map kt et))(hk:P.underlying kt=some .string)(d:w.heap[b]?=some (.map a c))
  (hf:(∃ i,Instr.findNow .string (.string s) a.toList 0=some (some (i,v))/\found=true)\/(Instr.findNow .string (.string s) a.toList 0=some none/\found=false/\(zeroValue et).run P w=.ok v w)) :
  (Instr.lookup mty (.map (some b)) (.string s) ok).run P w=.ok (if ok then .tuple #[v,.bool found] else v) w:=by
 have f:(Instr.checkKey a.isEmpty 10000 kt (.string s)).run P w=.ok () w:=MapKept.run_checkKey (k:=.string s) hk (by simp[MapKept.IsKey]) _ 9999
 rcases hf with ⟨i,hf,rfl⟩|⟨hf,rfl,hz⟩
 ·simp[Instr.lookup,run_underlying e,MapKept.run_getObj_map d,f,MapKept.run_findKey hk hf,Result.andThen]
 ·simp[Instr.lookup,run_underlying e,MapKept.run_getObj_map d,f,MapKept.run_findKey hk hf,hz,Result.andThen]
theorem sw {w:World}{b:Nat}{o o':Obj}(d:w.heap[b]?=some o):Put b w { w with heap:=w.heap.setIfInBounds b o' }/\({ w with heap:=w.heap.setIfInBounds b o' }:World).heap[b]?=some o':=by
 have a:b<w.heap.size:=(Array.getElem?_eq_some_iff.1 d).1;refine ⟨⟨rfl,rfl,rfl,by simp,fun c e=>by show (w.heap.setIfInBounds b o')[c]?=_;rw[i3 (Ne.symm e)]⟩,?_⟩
 show (w.heap.setIfInBounds b o')[b]?=_
 rw[yV a]
section laws
variable {P:Program}{n:Nat}{N R:Po}{X:Nat->Po}{ops:Array Oper}{k:Nat}{Γ:bW}{w:World}{h:Hp}{w0:World}{h0:Hp}{B:List Bx}{Rs:List Rw}{F:List (Hp->Prop)}
theorem SS.pokeJ (s:SS w0 h0 w h B [] F){b:Nat}{w':World}(e:h[b]?=some aY)(c:h0.size<=b)(d:∀ x∈B,x.b≠b)(p:Put b w w'):SS w0 h0 w' h B [] F :=
 ⟨s.g0,⟨s.st.up.put p e c s.g0.size,fun x a=>(p.blk _ (d x a)).trans (s.st.own x a),s.st.jk,s.st.lo,s.st.nd⟩,fun _ a=>(by cases a),.nil,s.mo,s.f⟩
theorem EF (t:Nat)(s:SS w0 h0 w h B Rs F)(H:∀ b w' h',SS w0 h0 w' h' B Rs F->MapJ h0 B w' h' b [] 0->LG P n N R X ops (k+1) ((t,.map (some b))::Γ) w')(a:cL ops Γ k t n=true:=by kernel_rfl)
  (hr:(execOp (ev Γ) (ao ops k)).run P w=.ok (.value (.map (some w.heap.size))) (w.alloc (.map #[] 0)):=by kernel_rfl):LG P n N R X ops k Γ w:=by
 have u:Up w h (w.alloc (.map #[] 0)) (h.push aY):=Up.allocAny s.g _ _ (.inr rfl);refine LG.val t _ _ (bQ a).1 (bQ a).2 hr (H _ _ _ (s.step u) ⟨?_,?_,?_,fun x c e=>?_⟩)
 ·rw[heap_alloc];exact gg
 ·rw[s.g.size];exact gg
 ·rw[s.g.size];exact s.st.sz
 ·have:=aF (s.st.jk x c)
  have:=s.g.size
  omega
theorem nU {b a:Nat}{c:List MapEntry}(mty kt et:TypeId)(ky:ByteArray)(val:Value)(s:SS w0 h0 w h B [] F)(m:MapJ h0 B w h b c a)(H:∀ w',SS w0 h0 w' h B [] F->MapJ h0 B w' h b (c++[⟨.string ky,val,a⟩]) (a+1)->LG P n N R X ops (k+1) Γ w')
  (d:cS ops Γ k=true:=by kernel_rfl)(i:execOp (ev Γ) (ao ops k)=(do Instr.mapUpdate mty (.map (some b)) (.string ky) val;pure .skip):=by kernel_rfl)(e:P.underlying mty=some (.map kt et):=by kernel_rfl)(hk:P.underlying kt=some .string:=by kernel_rfl)(hf:Instr.findNow .string (.string ky) c 0=some none:=by kernel_rfl):LG P n N R X ops k Γ w:=by
 have hr:=qO w (val:=val) e hk m.obj hf;obtain ⟨p,f⟩:=sw (o':=.map (c.toArray.push { key:=.string ky,val:=val,born:=a }) (a+1)) m.obj;refine LG.store _ (g5 d).1 (g5 d).2 ?_ (H _ (s.pokeJ m.jk m.lo m.nb p) ⟨?_,m.jk,m.lo,m.nb⟩)
 ·rw[i];simp[hr,Result.andThen]
 ·rw[f];simp
theorem Hw {b a i:Nat}{c:List MapEntry}(mty kt et:TypeId)(ky:ByteArray)(val l:Value)(d:List MapEntry)(s:SS w0 h0 w h B [] F)(m:MapJ h0 B w h b c a)(H:∀ w',SS w0 h0 w' h B [] F->MapJ h0 B w' h b d a->LG P n N R X ops (k+1) Γ w')
  (f:cS ops Γ k=true:=by kernel_rfl)(y:execOp (ev Γ) (ao ops k)=(do Instr.mapUpdate mty (.map (some b)) (.string ky) val;pure .skip):=by kernel_rfl)(j:P.underlying mty=some (.map kt et):=by kernel_rfl)(hk:P.underlying kt=some .string:=by kernel_rfl)(hf:Instr.findNow .string (.string ky) c 0=some (some (i,l)):=by kernel_rfl)
  (x:((c.toArray[i]?).map (·.key)).getD (.string ky)=.string ky:=by kernel_rfl)(o:c.toArray.modify i (fun e=>{ e with key:=.string ky,val:=val })=d.toArray:=by kernel_rfl):LG P n N R X ops k Γ w:=by
 have hr:=ny w (val:=val) j hk m.obj hf x;obtain ⟨p,u⟩:=sw (o':=.map (c.toArray.modify i fun e=>{ e with key:=.string ky,val:=val }) a) m.obj;refine LG.store _ (g5 f).1 (g5 f).2 ?_ (H _ (s.pokeJ m.jk m.lo m.nb p) ⟨?_,m.jk,m.lo,m.nb⟩)
 ·rw[y];simp[hr,Result.andThen]
 ·rw[u,o]
theorem FB (t:Nat){b:Nat}{a:List MapEntry}(mty kt et:TypeId)(ky:ByteArray)(ok:Bool)(v:Value)(found:Bool)(s:SS w0 h0 w h B Rs F)(m:MapS h b a)(H:LG P n N R X ops (k+1) ((t,if ok then .tuple #[v,.bool found] else v)::Γ) w)(c:cL ops Γ k t n=true:=by kernel_rfl)
  (j:execOp (ev Γ) (ao ops k)=(do pure (.value (<-Instr.lookup mty (.map (some b)) (.string ky) ok))):=by kernel_rfl)(d:P.underlying mty=some (.map kt et):=by kernel_rfl)(hk:P.underlying kt=some .string:=by kernel_rfl)
  (hf:(∃ i,Instr.findNow .string (.string ky) a 0=some (some (i,v))/\found=true)\/(Instr.findNow .string (.string ky) a 0=some none/\found=false/\∀ w,(zeroValue et).run P w=.ok v w)):LG P n N R X ops k Γ w:=by
 obtain ⟨f,e⟩:=m.w s.g;refine LG.val t _ w (bQ c).1 (bQ c).2 ?_ H;rw[j];have hr:=wd w ok (v:=v) (found:=found) d hk e (hf.imp id fun h=>⟨h.1,h.2.1,h.2.2 w⟩)
 simp[hr,Result.andThen]
theorem Ht (t:Nat){b:Nat}{a:List MapEntry}(mty ty kt et:TypeId)(s:SS w0 h0 w h B Rs F)(m:MapS h b a)(H:LG P n N R X ops (k+1) ((t,.int .i64 (a.length:Nat))::Γ) w)(c:cL ops Γ k t n=true:=by kernel_rfl)
  (d:execOp (ev Γ) (ao ops k)=(do pure (.value (<-Builtin.len_ #[mty] ty #[.map (some b)]))):=by kernel_rfl)(f:P.underlying mty=some (.map kt et):=by kernel_rfl):LG P n N R X ops k Γ w:=by
 obtain ⟨e,i⟩:=m.w s.g;refine LG.val t _ w (bQ c).1 (bQ c).2 ?_ H;rw[d]
 have hr:(Builtin.len_ #[mty] ty #[.map (some b)]).run P w=.ok (goInt a.toArray.size) w:=by
  simp[Builtin.len_,run_underlying f,MapKept.run_getObj_map i,Result.andThen]
 simp[hr,Result.andThen,goInt]
theorem SS.pubMap {b a:Nat}{j:List MapEntry}(s:SS w0 h0 w h B [] F)(m:MapJ h0 B w h b j a):∃ l,SS w0 h0 w l B [] F/\MapS l b j:=by
 have d:=aF m.jk;refine ⟨h.setIfInBounds b (.map j.toArray a),⟨s.g0,⟨⟨s.st.up.ext,⟨by simp;exact s.st.up.gr.size,fun c o=>?_⟩,⟨by simp;exact s.st.up.g.size,fun c=>?_⟩⟩,s.st.own,fun x i=>?_,s.st.lo,s.st.nd⟩,fun _ i=>(by cases i),.nil,s.mo,s.f.gw s.mo ⟨by simp,fun c _=>?_⟩⟩,a,?_⟩
 ·have:=m.lo
  rw[i3 oM];exact s.st.up.gr.blk c o
 ·by_cases e:b=c
  ·subst e;left;rw[yV d];exact m.obj.symm
  ·rw[i3 e];exact s.st.up.g.blk c
 ·rw[i3 (Ne.symm (m.nb x i))];exact s.st.jk x i
 ·by_cases e:b=c
  ·subst e;exact .inr m.jk
  ·left;rw[i3 e]
 ·rw[yV d]
end laws
theorem ti (f:Nat->Nat){a b:Nat}(h:a<=b):eh f a<=eh f b:=by
 induction h with
 | refl=>exact ey _
 | step _ ih=>exact e4 ih (Jo _ _)
def cO (op n:Int):Nat:=if op=11 then 2 else if op=8 then aZ n else 1
theorem cF (op n:Int):1<=cO op n:=by
 unfold cO aZ
 split
 ·omega
 ·split
  ·split<;>omega
  ·omega
theorem vp {d:Nat}{op n:Int}{q:Rat}{s:ByteArray}{ks:List Tm}(h:ks.length=0):bD (d+1) (.mk op n q s ks)=1:=if_pos h
theorem jc {d:Nat}{op n:Int}{q:Rat}{s:ByteArray}{ks:List Tm}(h:ks.length≠0):bD (d+1) (.mk op n q s ks)=cO op n*eh (fun i=>bD d (ks.getD i dD)) ks.length:=if_neg h
theorem p8 {d:Nat}{op n:Int}{q:Rat}{s:ByteArray}{ks:List Tm}(h:ks.length≠0):eh (fun i=>bD d (ks.getD i dD)) ks.length<=bD (d+1) (.mk op n q s ks):=by
 rw[jc h];exact II _ (cF op n)
theorem kO {m s:Nat}(h:1<=m):min (m*min s 1001) 1001=min (m*s) 1001:=by
 rcases Nat.le_total s 1001 with e|e
 ·rw[Nat.min_eq_left e]
 ·rw[HA e,HA (e4 e (II _ h)),HA (II _ h)]
theorem Aj (op:Int)(w:World)(h:Hp)(g:G w h):CV 125 #[iV op] w h (iV (fF op)):=by
 have a:=sS g;refine go Tryz.func125 [(0,iV op)] rfl (ab a ae (ag (ab a ae (a7 (cQ (aD ?_))))));cases d:((op:Int) == (1:Int))
 .
  have F:=aq d;refine lB 5 d (lL a ae (am (kQ ?_)));cases f:((op:Int) == (2:Int))
  .
   have z:=aq f;refine lB 6 f (lL a ae (am (cQ (aD ?_))));cases l:((op:Int) == (7:Int))
   .
    have C:=aq l;refine lB 8 l (lL a ae (am (aD ?_)));cases o:((op:Int) == (8:Int))
    .
     have D:=aq o;refine lB 9 o (lL a ae (am (aD ?_)));cases c:((op:Int) == (9:Int))
     .
      have B:=aq c;refine lB 10 c (lL a ae (am (aD ?_)));cases j:((op:Int) == (10:Int))
      .
       have u:=aq j;refine lB 11 j (lL a ae (am (kQ ?_)));cases b:((op:Int) == (11:Int))
       .
        have p:=aq b;refine lB 12 b (lL a ae (am (cQ (aD ?_))));cases i:((op:Int) == (3:Int))
        .
         have y:=aq i;refine lB 14 i (lL a ae (am (aD ?_)));cases e:((op:Int) == (4:Int))
         .
          have x:=aq e;refine lB 15 e (lL a ae (am (aD ?_)));cases K:((op:Int) == (5:Int))
          .
           have L:=aq K;refine lB 16 K (lL a ae (am (aD ?_)));cases J:((op:Int) == (6:Int))
           .
            have Q:=aq J;refine lB 17 J (lL a ae (am (aD ?_)));cases H:((op:Int) == (12:Int))
            .
             have O:=aq H;refine lB 18 H (lL a ae (am (kQ ?_)));cases I:((op:Int) == (13:Int))
             .
              have M:=aq I;exact lB 19 I (lL a ae (am (cK (ab a ae (ah a [] (iV (-1)) (congrArg (Value.int .i64) (by have:=aN op;omega)))))))
             have M:=eq_of_beq I;exact lB 19 I (lL a ae (ar (ab a ae (ah a [] (iV 2) (congrArg (Value.int .i64) (by have:=aN op;omega))))))
            have O:=eq_of_beq H;exact lB 18 H (lL a ae (ar (cK (bZ (ab a ae (ah a [] (iV 2) (congrArg (Value.int .i64) (by have:=aN op;omega))))))))
           have Q:=eq_of_beq J;exact lB 17 J (lL a ae (ar (cK (bZ (ab a ae (ah a [] (iV 2) (congrArg (Value.int .i64) (by have:=aN op;omega))))))))
          have L:=eq_of_beq K;exact lB 16 K (lL a ae (ar (cK (bZ (ab a ae (ah a [] (iV 2) (congrArg (Value.int .i64) (by have:=aN op;omega))))))))
         have x:=eq_of_beq e;exact lB 15 e (lL a ae (ar (cK (bZ (ab a ae (ah a [] (iV 2) (congrArg (Value.int .i64) (by have:=aN op;omega))))))))
        have y:=eq_of_beq i;exact lB 14 i (lL a ae (ar (cK (bZ (ab a ae (ah a [] (iV 2) (congrArg (Value.int .i64) (by have:=aN op;omega))))))))
       have p:=eq_of_beq b;exact lB 12 b (lL a ae (ar (ab a ae (ah a [] (iV 1) (congrArg (Value.int .i64) (by have:=aN op;omega))))))
      have u:=eq_of_beq j;exact lB 11 j (lL a ae (ar (cK (bZ (ab a ae (ah a [] (iV 1) (congrArg (Value.int .i64) (by have:=aN op;omega))))))))
     have B:=eq_of_beq c;exact lB 10 c (lL a ae (ar (cK (bZ (ab a ae (ah a [] (iV 1) (congrArg (Value.int .i64) (by have:=aN op;omega))))))))
    have D:=eq_of_beq o;exact lB 9 o (lL a ae (ar (cK (bZ (ab a ae (ah a [] (iV 1) (congrArg (Value.int .i64) (by have:=aN op;omega))))))))
   have C:=eq_of_beq l;exact lB 8 l (lL a ae (ar (cK (bZ (ab a ae (ah a [] (iV 1) (congrArg (Value.int .i64) (by have:=aN op;omega))))))))
  have z:=eq_of_beq f;exact lB 6 f (lL a ae (ar (ab a ae (ah a [] (iV 0) (congrArg (Value.int .i64) (by have:=aN op;omega))))))
 have F:=eq_of_beq d;exact lB 5 d (lL a ae (ar (cK (bZ (ab a ae (ah a [] (iV 0) (congrArg (Value.int .i64) (by have:=aN op;omega))))))))
theorem Ef (n:Int)(h0 : -12<=n)(h1:n<=12)(w:World)(h:Hp)(g:G w h):CV 126 #[iV n] w h (nV (aZ n)):=by
 have a:=sS g;refine go Tryz.func126 [(0,iV n)] rfl (ab a ae (ag (ab a ae ?_)));cases b:(decide ((n:Int)<=(-1073741824:Int)))
 .
  have d:=oF b;refine lB 4 b (lL a aE ?_);cases c:(decide ((1073741824:Int)<=(n:Int)))
  .
   have e:=oF c;refine lB 7 c (lL a [.v qF] (am (cK (ab a aE (lI 11 (0-n) ?_)))));refine lV 12 (iV (max (max (n:Int) (0-n:Int)) (1:Int))) ?_ (hr:=ay (n:=(if (1:Int)>(if (0-n:Int)>(n:Int) then (0-n:Int) else (n:Int)) then (1:Int) else (if (0-n:Int)>(n:Int) then (0-n:Int) else (n:Int)))) kR (by simp only[qz]));exact lL a ae (ah a [] (iV (max (max (n:Int) (0-n:Int)) (1:Int))) (congrArg (Value.int .i64) (by unfold aZ;(repeat' split)<;>omega)))
  have e:=oT c;exact lB 7 c (lL a [.v qT] (ar (ab a ae (ah a [] (iV 1073741824) (congrArg (Value.int .i64) (by unfold aZ;(repeat' split)<;>omega))))))
 have d:=oT b;refine lB 4 b (lL a ae (lG 6 ?_));exact lG 7 (lL a [.v qT] (ar (ab a ae (ah a [] (iV 1073741824) (congrArg (Value.int .i64) (by unfold aZ;(repeat' split)<;>omega))))))
theorem tQ  (sm:ByteArray->Prop)(d:Nat)(M:∀ (p:PTm) (t:Tm) (a:Int) (w:World) (h:Hp),G w h->TmH d h p t->sR sm d t->(d:Int)<=a->a<=1000->Calls Tryz.prog 87 #[bu p,iV a] w (Ret w h (fun v _=>v=.bool false)))(op n:Int)(q:Rat)(s:ByteArray)(A:Z9)(c:Nat)(ps:List PTm)(ks:List Tm)(hc:ps.length<=c)(W:ps.length<=3)(O:ks.length<=3)(J : -1000<=op/\op<=1000)(hn : -1000<=n/\n<=1000)(hq:LQ 3000 q)(S:sm s)(F:∀ i,i<ks.length->sR sm d (ks.getD i dD))(a:Int)(hm:((d+1:Nat):Int)<=a)(U:a<=1000)(w:World)(h:Hp)(g:G w h)(H:SlO 9 bH bI h A ps)(y:Tms d h ps ks):CV 87 #[bu ⟨op,n,q,s,A,ps.length,c⟩,iV a] w h (.bool false):=by
 have b:=(((sS g).aS H).add (K:=fun l=>Tms d l ps ks) y);have Q:=(b.f.1).len;refine go Tryz.func87 [(0,bu ⟨op,n,q,s,A,ps.length,c⟩),(1,iV a)] rfl (aD (lA 2 32 (bH ⟨op,n,q,s,A,ps.length,c⟩) b (fun B w2 L b=>lL b ae (ag (ab b ae ?_)))));cases j:(decide ((a:Int)<(1:Int)))
 .
  have x:=oF j;refine lB 8 j (am (cK (cQ (ab b [.v (qP B 8),.o (qS A ps.length c) 0 8 1,.v (nV ps.length),.c] (a7 ?_)))));refine bY _ (CG.loop (fun z Γ I=>∃ (k:Nat)(l:Hp),z=ps.length-k/\Γ=[(1,iV a),(10,qS A ps.length c),(11,nV ps.length),(12,nV k)]/\SS w h I l [⟨B,32,bH ⟨op,n,q,s,A,ps.length,c⟩⟩] [] [fun l=>Tms d l ps ks,fun l=>SlO 9 bH bI l A ps]/\k<=ps.length) _ ⟨0,L,rfl,rfl,b.to _ _,In _⟩ ?_);rintro _ _ w5 ⟨k,X,C,rfl,b,hk⟩;refine aD ?_;cases e:(decide ((k:Int)<(ps.length:Int)))
  .
   have u:=oF e;refine lB 13 e (ag (cD (CG.exit ?_)))
   show CG _ _ _ _ _ _ _ _
   exact ab b ae (ah b [] qF rfl)
  have u:=oT e;refine lB 13 e (ag (bZ (cK (cQ (kZ (aD (lX 14 A ps.length c 9 (k:Nat) k ((b.f.2.1).ok oM) ?_)))))));refine lH 15 (bu (ps.getD k bI)) b ((b.f.2.1).el k oM) (lA 6 32 ea b (fun Z _ _ b=>lP 0 0 (bH (ps.getD k bI)) b (fun _ b=>aK (lL b [.o (bu (ps.getD k bI)) 0 0 9,.c] (lI 18 (a-1) ?_)))));refine au 19 b (M (ps.getD k bI) (ks.getD k dD) (a-1) _ _ b.g ((b.f.1).at_ k oM) (F k oM) oM oM) (fun _ V b=>am (cK (kQ (bB 20 ((k:Nat)+1) (k+1) ?_))));refine lL b ae (lD ?_);intro Y D;replace b:=b.drop 1 0;refine ⟨_,_,?_,⟨k+1,V,rfl,rfl,b.to _ _,oM⟩,D.to _ kR⟩
  omega
 have x:=oT j;refine lB 8 j (ar (ab b ae (lN (kX ?_))))
 exfalso;omega
theorem si (sm:ByteArray->Prop):∀ (d:Nat) (p:PTm) (t:Tm) (a:Int) (w:World) (h:Hp),G w h->TmH d h p t->sR sm d t->(d:Int)<=a->a<=1000->Calls Tryz.prog 87 #[bu p,iV a] w (Ret w h (fun v _=>v=.bool false))
  | 0,_,_,_,_,_,_,x,_,_,_=>x.elim
  | d+1,p,t,a,w,h,g,x,wf,hm,hm2=>by
    obtain ⟨op,n,q,s,A,c,ps,ks,rfl,rfl,o,j,b⟩:=x.open;obtain ⟨e,z,u,y,f,l⟩:=wf;have i:ks.length<=3:=e;exact tQ sm d (fun p t a w h=>si sm d p t a w h) op n q s A c ps ks o (by have:=b.len;omega) e z u y f l a hm hm2 w h g j b
theorem vC  (isb:ByteArray->Bool)(sm:ByteArray->Prop)(tj:∀ s,sm s->∀ (w:World) (h:Hp),G w h->Calls Tryz.prog 55 #[.string s] w (Ret w h (fun v _=>∃ b,v=.bool b/\b=isb s)))(d:Nat)(ih:∀ (p:PTm) (t:Tm) (w:World) (h:Hp),G w h->TmH d h p t->sR sm d t ->  Calls Tryz.prog 88 #[bu p] w (Ret w h (fun v _=>∃ D,v=.bool D/\(D=true↔WfT (fun s=>isb s=true) d t))))(op n:Int)(q:Rat)(s:ByteArray)(A:Z9)(c:Nat)(ps:List PTm)(ks:List Tm)(hc:ps.length<=c)(hlp:ps.length<=3)(hk3:ks.length<=3)(hop : -1000<=op/\op<=1000)(hn : -1000<=n/\n<=1000)(hq:LQ 3000 q)(hsm:sm s)(hW:∀ i,i<ks.length->sR sm d (ks.getD i dD))(w:World)(h:Hp)(g:G w h)(hK:SlO 9 bH bI h A ps)(hKs:Tms d h ps ks):CR 88 #[bu ⟨op,n,q,s,A,ps.length,c⟩] w h (fun v _=>∃ D,v=.bool D/\(D=true↔WfT (fun s=>isb s=true) (d+1) (.mk op n q s ks))):=by
 have a:=(((sS g).aS hK).add (K:=fun e=>Tms d e ps ks) hKs);have hln:=(a.f.1).len;have hsg:q.num.sign=0↔q.num=0:=Jp;refine go Tryz.func88 [(0,bu ⟨op,n,q,s,A,ps.length,c⟩)] rfl (aD (lA 1 32 (bH ⟨op,n,q,s,A,ps.length,c⟩) a (fun l w2 h3 a=>lL a ae (ag (cQ (cR 7 [] mixed a ai ?_))))));refine eV 0 5 (pB l) (eO 1 6 [(0,0,1)] (iV op) a (eV 3 8 (qP l 8) (eO 4 9 [(0,8,1)] (qS A ps.length c) a (eV 5 10 (nV ps.length) (af 2 7 a (fun _ _ a=>Aj op _ _ a.g) (fun w4 h5 a=>?_))))));cases z:((fF op:Int) != (ps.length:Int))
 .
  have Q:=aI z;refine eB 6 11 z (bA a (fun w7 h8 a=>?_));refine tN (cD (cK (cQ (CG.join (fun Γ B=>∃ (U:Bool)(e:Hp),Γ=[(1,pB l),(2,qF),(20,.bool U)]/\SS w h B e [⟨l,32,bH ⟨op,n,q,s,A,ps.length,c⟩⟩] [] [fun e=>Tms d e ps ks,fun e=>SlO 9 bH bI e A ps]/\(U=true->¬(op=1\/q.num=0))/\(U=false->(op=1\/q.num=0))) ?_ ?_))))
  .
   refine kQ (lL a [.v (pB l),.o (iV op) 0 0 1] ?_);cases y:((op:Int) != (1:Int))
   .
    have S:=aI y;refine lB 14 y (lL a ae (lG 16 ?_));refine lG 17 (lG 18 (lG 19 (lL a [.v qF] (lD ?_))));intro u j;exact ⟨_,⟨false,h8,rfl,a.to _ _,(fun e=>absurd e kD),(fun _=>by omega)⟩,j.to _ kR⟩
   have S:=aU y;refine lB 14 y (lL a [.c,.v (qP l 2),.o (qv q) 0 2 5] (au 18 a (gj q (hq.mono oM) _ _ a.g) (fun _ zD a=>?_)));cases za:((q.num.sign:Int) != (0:Int))
   .
    have zs:=aI za;refine lB 19 za (lL a [.v qF] (lD ?_));intro u j;exact ⟨_,⟨false,zD,rfl,a.to _ _,(fun e=>absurd e kD),(fun _=>by omega)⟩,j.to _ kR⟩
   have zs:=aU za;refine lB 19 za (lL a [.v qT] (lD ?_));intro u j;exact ⟨_,⟨true,zD,rfl,a.to _ _,(fun _=>by omega),(fun e=>absurd e kD)⟩,j.to _ kR⟩
  rintro _ _ ⟨U,zE,rfl,a,zH,I⟩;cases zb:(U)
  .
   try rw[zb] at a
   try rw[zb]
   refine cD (cK (cQ (CG.join (fun Γ B=>∃ (M:Bool)(e:Hp),Γ=[(1,pB l),(2,qF),(39,.bool M)]/\SS w h B e [⟨l,32,bH ⟨op,n,q,s,A,ps.length,c⟩⟩] [] [fun e=>Tms d e ps ks,fun e=>SlO 9 bH bI e A ps]/\(M=true->¬((op=2->isb s=true)/\(op≠2->s=⟨#[]⟩)))/\(M=false->((op=2->isb s=true)/\(op≠2->s=⟨#[]⟩)))) ?_ ?_)))
   .
    refine kQ (lL a [.v (pB l),.o (iV op) 0 0 1] ?_);cases Y:((op:Int) == (2:Int))
    .
     have zt:=aq Y;refine lB 23 Y (lL a ae (lG 25 ?_));refine lG 26 (lG 27 (lG 28 (lL a [.v qF,.c,.v (pB l),.o (iV op) 0 0 1] ?_)));have zq:((op:Int) != (2:Int))=true:=G3 oM;have bm:=aU zq;refine lB 33 zq (lL a [.c,.v (qP l 7),.o (.string s) 0 7 1] ?_);cases zd:(oU s (⟨#[]⟩))
     .
      have zu:=Bi zd;refine lB 37 zd (lL a [.v qF,.v qF] (lD ?_));intro u j;exact ⟨_,⟨false,zE,rfl,a.to _ _,(fun e=>absurd e kD),(fun _=>⟨fun e=>by first|exact x.symm.trans aM|exact absurd e oM,fun e=>by first|assumption|exact absurd e oM⟩)⟩,j.to _ kR⟩
     have zu:=BB zd;refine lB 37 zd (lL a [.v qT,.v qT] (lD ?_));intro u j;exact ⟨_,⟨true,zE,rfl,a.to _ _,(fun _ e=>by first|exact Jq ((e.1 oM).symm.trans (x.symm.trans aM))|exact absurd (e.2 oM) aM),(fun e=>absurd e kD)⟩,j.to _ kR⟩
    have zt:=eq_of_beq Y;refine lB 23 Y (lL a [.c,.v (qP l 7),.o (.string s) 0 7 1] (lC 27 a (tj s hsm _ _ a.g) ?_));rintro _ _ zG a ⟨bi,rfl,x⟩;cases bq:(bi)
    .
     refine lL a [.v qT,.v qT,.c] (lG 31 ?_);refine lG 32 (lG 33 (lG 34 (lG 35 (lG 36 (lG 37 (lG 38 (lL a [.v qT] (lD ?_))))))));intro u j;exact ⟨_,⟨true,zG,rfl,a.to _ _,(fun _ e=>by first|exact Jq ((e.1 oM).symm.trans (x.symm.trans aM))|exact absurd (e.2 oM) aM),(fun e=>absurd e kD)⟩,j.to _ kR⟩
    refine lL a [.v qF,.v qF,.c,.v (pB l),.o (iV op) 0 0 1] ?_;have zr:((op:Int) != (2:Int))=false:=sP oM;have bd:=aI zr;refine lB 33 zr (lL a ae (lG 35 ?_));refine lG 36 (lG 37 (lL a [.v qF,.v qF] (lD ?_)));intro u j;exact ⟨_,⟨false,zG,rfl,a.to _ _,(fun e=>absurd e kD),(fun _=>⟨fun e=>by first|exact x.symm.trans aM|exact absurd e oM,fun e=>by first|assumption|exact absurd e oM⟩)⟩,j.to _ kR⟩
   rintro _ _ ⟨M,C,rfl,a,zI,L⟩;cases X:(M)
   .
    try rw[X] at a
    try rw[X]
    refine cD (cK (cQ (CG.join (fun Γ B=>∃ (F:Bool)(e:Hp),Γ=[(1,pB l),(2,qF),(57,.bool F)]/\SS w h B e [⟨l,32,bH ⟨op,n,q,s,A,ps.length,c⟩⟩] [] [fun e=>Tms d e ps ks,fun e=>SlO 9 bH bI e A ps]/\(F=true->¬((op=8\/n=0) /\ -12<=n/\n<=12))/\(F=false->((op=8\/n=0) /\ -12<=n/\n<=12))) ?_ ?_)))
    .
     refine kQ (lL a [.v (pB l),.o (iV op) 0 0 1] ?_);cases zf:((op:Int) != (8:Int))
     .
      have zv:=aI zf;refine lB 42 zf (lL a ae (lG 44 ?_));refine lG 45 (lG 46 (lL a [.v qF,.c,.v (qP l 1),.o (iV n) 0 1 1] ?_));cases zg:(decide ((n:Int)<(-12:Int)))
      .
       have zw:=oF zg;refine lB 51 zg (lL a [.v qF,.c,.v (qP l 1),.o (iV n) 0 1 1] ?_);cases zi:(decide ((12:Int)<(n:Int)))
       .
        have zx:=oF zi;refine lB 56 zi (lL a [.v qF] (lD ?_));intro u j;exact ⟨_,⟨false,C,rfl,a.to _ _,(fun e=>absurd e kD),(fun _=>by omega)⟩,j.to _ kR⟩
       have zx:=oT zi;refine lB 56 zi (lL a [.v qT] (lD ?_));intro u j;exact ⟨_,⟨true,C,rfl,a.to _ _,(fun _=>by omega),(fun e=>absurd e kD)⟩,j.to _ kR⟩
      have zw:=oT zg;refine lB 51 zg (lL a [.v qT,.c] (lG 54 ?_));refine lG 55 (lG 56 (lL a [.v qT] (lD ?_)));intro u j;exact ⟨_,⟨true,C,rfl,a.to _ _,(fun _=>by omega),(fun e=>absurd e kD)⟩,j.to _ kR⟩
     have zv:=aU zf;refine lB 42 zf (lL a [.c,.v (qP l 1),.o (iV n) 0 1 1] ?_);cases V:((n:Int) != (0:Int))
     .
      have zA:=aI V;refine lB 46 V (lL a [.v qF,.c,.v (qP l 1),.o (iV n) 0 1 1] ?_);have ⟨zJ,bl⟩:=dF (p:=(n:Int)<(-12:Int)) oM;refine lB 51 zJ (lL a [.v qF,.c,.v (qP l 1),.o (iV n) 0 1 1] ?_);have ⟨zK,bf⟩:=dF (p:=(12:Int)<(n:Int)) oM;refine lB 56 zK (lL a [.v qF] (lD ?_));intro u j;exact ⟨_,⟨false,C,rfl,a.to _ _,(fun e=>absurd e kD),(fun _=>by omega)⟩,j.to _ kR⟩
     have zA:=aU V;refine lB 46 V (lL a [.v qT,.c] (lG 49 ?_));refine lG 50 (lG 51 (lL a [.v qT,.c] (lG 54 ?_)));refine lG 55 (lG 56 (lL a [.v qT] (lD ?_)));intro u j;exact ⟨_,⟨true,C,rfl,a.to _ _,(fun _=>by omega),(fun e=>absurd e kD)⟩,j.to _ kR⟩
    rintro _ _ ⟨F,zM,rfl,a,zL,J⟩;cases Z:(F)
    .
     try rw[Z] at a
     try rw[Z]
     refine cD (cK (cQ (ab a [.v (qP l 8),.o (qS A ps.length c) 0 8 1,.v (nV ps.length),.c] (a7 ?_))));refine bY _ (CG.loop (fun μ_ Γ B=>∃ (k:Nat)(e:Hp),μ_=ps.length-k/\Γ=[(59,qS A ps.length c),(60,nV ps.length),(61,nV k)]/\SS w h B e [⟨l,32,bH ⟨op,n,q,s,A,ps.length,c⟩⟩] [] [fun e=>Tms d e ps ks,fun e=>SlO 9 bH bI e A ps]/\k<=ps.length/\(∀ i,i<k->WfT (fun s=>isb s=true) d (ks.getD i dD))) _ ⟨0,zM,rfl,rfl,a.to _ _,In _,(fun i hi=>absurd hi (Jl i))⟩ ?_);rintro _ _ _ ⟨k,_,bn,rfl,a,hk,O⟩;refine aD ?_;cases W:(decide ((k:Int)<(ps.length:Int)))
     .
      have zB:=oF W;refine lB 62 W (ag (cD (CG.exit ?_)))
      show CG _ _ _ _ _ _ _ _
      exact ab a ae (ah a [] qT (FR ⟨by omega,I aM,L aM,J aM⟩ hq (fun i hi=>O i oM)))
     have zB:=oT W;refine lB 62 W (ag (bZ (cK (cQ (kZ (aD (lX 63 A ps.length c 9 (k:Nat) k ((a.f.2.1).ok oM) ?_)))))));refine lH 64 (bu (ps.getD k bI)) a ((a.f.2.1).el k oM) (lA 4 32 ea a (fun b63 _ _ a=>lP 0 0 (bH (ps.getD k bI)) a (fun _ a=>aK (lL a [.o (bu (ps.getD k bI)) 0 0 9] (lC 66 a (ih (ps.getD k bI) (ks.getD k dD) _ _ a.g ((a.f.1).at_ k oM) (hW k oM)) ?_)))));rintro _ _ zN a ⟨bk,rfl,H⟩;cases bz:(bk)
     .
      exact lL a [.v qT] (ar (ab a ae (ah a [] qF (FK (k:=k) oM aM H))))
     refine lL a [.v qF] (am (cK (kQ (bB 68 ((k:Nat)+1) (k+1) ?_))));refine lL a ae (lD ?_);intro u j;replace a:=a.drop 1 0;refine ⟨_,_,?_,⟨k+1,zN,rfl,rfl,a.to _ _,oM,(fun i hi=>by rcases Nat.lt_succ_iff_lt_or_eq.1 hi with e|rfl;exact O i e;exact H.1 aM)⟩,j.to _ kR⟩
     omega
    try rw[Z] at a
    try rw[Z]
    exact bZ (ab a ae (ah a [] qF (rR (fun e=>zL aM e.2.2.2))))
   try rw[X] at a
   try rw[X]
   exact bZ (ab a ae (ah a [] qF (rR (fun e=>zI aM e.2.2.1))))
  try rw[zb] at a
  try rw[zb]
  exact bZ (ab a ae (ah a [] qF (rR (fun e=>zH aM e.2.1))))
 have Q:=aU z;exact eB 6 11 z (bA a (fun _ _ a=>tN (bZ (ab a ae (ah a [] qF (rR (fun e=>absurd e.1 oM)))))))
theorem nZ (isb:ByteArray->Bool)(sm:ByteArray->Prop)(tj:∀ s,sm s->∀ (w:World) (h:Hp),G w h->Calls Tryz.prog 55 #[.string s] w (Ret w h (fun v _=>∃ b,v=.bool b/\b=isb s))):∀ (d:Nat) (p:PTm) (t:Tm) (w:World) (h:Hp),G w h->TmH d h p t->sR sm d t ->  Calls Tryz.prog 88 #[bu p] w (Ret w h (fun v _=>∃ f,v=.bool f/\(f=true↔WfT (fun s=>isb s=true) d t)))
  | 0,_,_,_,_,_,x,_=>x.elim
  | d+1,p,t,w,h,g,x,wf=>by
    obtain ⟨op,n,q,s,A,c,ps,ks,rfl,rfl,u,l,a⟩:=x.open;obtain ⟨e,B,y,z,i,o⟩:=wf;have j:ks.length<=3:=e;exact vC isb sm tj d (fun p t w h=>nZ isb sm tj d p t w h) op n q s A c ps ks u (by have:=a.len;omega) e B y z i o w h g l a
theorem ut  (ok:ByteArray->Prop)(d:Nat)(ih:∀ (p:PTm) (t:Tm) (w:World) (h:Hp),G w h->TmH d h p t->WfT ok d t ->  Calls Tryz.prog 89 #[bu p,iV 1001] w (Ret w h (fun v _=>v=iV ((min (bD d t) 1001:Nat):Int))))(op n:Int)(q:Rat)(s:ByteArray)(A:Z9)(c:Nat)(ps:List PTm)(ks:List Tm)(hc:ps.length<=c)(hlp:ps.length<=2)(M:fF op=(ks.length:Nat))(Q:op≠1->q=0)(hq:LQ 3000 q)(hok:op=2->ok s)(hs0:op≠2->s=⟨#[]⟩)(hn0:op≠8->n=0)(hn1 : -12<=n)(S:n<=12)(U:∀ i,i<ks.length->WfT ok d (ks.getD i dD))(w:World)(h:Hp)(g:G w h)(hK:SlO 9 bH bI h A ps)(J:Tms d h ps ks):CV 89 #[bu ⟨op,n,q,s,A,ps.length,c⟩,iV 1001] w h (iV ((min (bD (d+1) (.mk op n q s ks)) 1001:Nat):Int)):=by
 have a:=(((sS g).aS hK).add (K:=fun y=>Tms d y ps ks) J);have hln:=(a.f.1).len;refine go Tryz.func89 [(0,bu ⟨op,n,q,s,A,ps.length,c⟩),(1,iV 1001)] rfl (aD (lA 2 32 (bH ⟨op,n,q,s,A,ps.length,c⟩) a (fun B w2 h3 a=>lL a ae (ag (ab a [.v (qP B 8),.o (qS A ps.length c) 0 8 1,.v (nV ps.length)] ?_)))));cases x:((ps.length:Int) == (0:Int))
 .
  have F:=aq x;refine lB 11 x (am (cK (ab a ae (ag (ab a [.v (qP B 8),.o (qS A ps.length c) 0 8 1,.v (nV ps.length),.c] (a7 ?_))))));refine bY _ (CG.loop (fun L Γ w_=>∃ (k:Nat)(sm:Nat)(y:Hp),L=ps.length-k/\Γ=[(1,iV 1001),(2,pB B),(15,qS A ps.length c),(16,nV ps.length),(17,nV k),(5,nV sm)]/\SS w h w_ y [⟨B,32,bH ⟨op,n,q,s,A,ps.length,c⟩⟩] [] [fun y=>Tms d y ps ks,fun y=>SlO 9 bH bI y A ps]/\k<=ps.length/\sm=min (eh (fun i=>bD d (ks.getD i dD)) k) 1001) _ ⟨0,0,h3,rfl,rfl,a.to _ _,In _,rfl⟩ ?_);rintro _ _ w5 ⟨k,sm,h6,O,rfl,a,hk,z⟩;have hs1:(eh (fun i=>bD d (ks.getD i dD)) (k+1))=(eh (fun i=>bD d (ks.getD i dD)) k)+bD d (ks.getD k dD):=rfl;refine aD ?_;cases l:(decide ((k:Int)<(ps.length:Int)))
  .
   have D:=oF l;refine lB 18 l (ag (cD (CG.exit ?_)))
   show CG _ _ _ _ _ _ _ _
   refine cQ (ab a [.v (pB B),.o (iV op) 0 0 1] (a7 (aD ?_)));cases u:((op:Int) == (11:Int))
   .
    have C:=aq u;refine lB 36 u (lL a ae (am (aD ?_)));cases I:((op:Int) == (8:Int))
    .
     have X:=aq I;refine lB 40 I (lL a ae (am (cK (ab a aE (lV 48 (iV (min (sm:Int) (1001:Int))) ?_ (hr:=ay (n:=(if (1001:Int)<(sm:Int) then (1001:Int) else (sm:Int))) kR (by simp only[wu])))))));refine lL a ae (lN (kX ?_));have j:k=ks.length:=by omega
     have e:=jc (d:=d) (op:=op) (n:=n) (q:=q) (s:=s) (ks:=ks) oM;have b:=kO (s:=(eh (fun i=>bD d (ks.getD i dD)) k)) (cF op n);rw[<-j] at e
     rw[<-e,<-z] at b
     exact a.ret [] (iV (min (sm:Int) (1001:Int))) (congrArg (Value.int .i64) (by rw[<-b];unfold cO;first|(rw[if_pos oM];(repeat' split)<;>omega)|(rw[if_neg oM,if_pos oM,z2];(repeat' split)<;>omega)|(rw[if_neg oM,if_neg oM];(repeat' split)<;>omega)))
    have X:=eq_of_beq I;refine lB 40 I (lL a ae (ar (kQ (lL a [.c,.v (qP B 1),.o (iV n) 0 1 1] (au 44 a (Ef n oM oM _ _ a.g) (fun _ _ a=>?_))))));have htm:aZ n<=12/\1<=aZ n:=by unfold aZ;split<;>omega
    have hmb:sm*aZ n<=1001*12:=H9 oM oM;refine lI 45 ((sm:Nat)*(aZ n:Nat)) (lL a ae (aK (lL a aE (lV 48 (iV (min ((sm:Nat)*(aZ n:Nat):Int) (1001:Int))) ?_ (hr:=ay (n:=(if (1001:Int)<((sm:Nat)*(aZ n:Nat):Int) then (1001:Int) else ((sm:Nat)*(aZ n:Nat):Int))) kR (by simp only[wu]))))));refine lL a ae (lN (kX ?_));have j:k=ks.length:=by omega
    have e:=jc (d:=d) (op:=op) (n:=n) (q:=q) (s:=s) (ks:=ks) oM;have b:=kO (s:=(eh (fun i=>bD d (ks.getD i dD)) k)) (cF op n);rw[<-j] at e
    rw[<-e,<-z] at b
    exact a.ret [] (iV (min ((sm:Nat)*(aZ n:Nat):Int) (1001:Int))) (congrArg (Value.int .i64) (by rw[<-b];unfold cO;first|(rw[if_pos oM];(repeat' split)<;>omega)|(rw[if_neg oM,if_pos oM,z2];(repeat' split)<;>omega)|(rw[if_neg oM,if_neg oM];(repeat' split)<;>omega)))
   have C:=eq_of_beq u;refine lB 36 u (lL a ae (ar (kQ (lL a ae (lI 38 ((sm:Nat)*2) ?_)))));refine lL a ae (aK (lL a aE (lV 48 (iV (min ((sm:Nat)*2:Int) (1001:Int))) ?_ (hr:=ay (n:=(if (1001:Int)<((sm:Nat)*2:Int) then (1001:Int) else ((sm:Nat)*2:Int))) kR (by simp only[wu])))));refine lL a ae (lN (kX ?_));have j:k=ks.length:=by omega
   have e:=jc (d:=d) (op:=op) (n:=n) (q:=q) (s:=s) (ks:=ks) oM;have b:=kO (s:=(eh (fun i=>bD d (ks.getD i dD)) k)) (cF op n);rw[<-j] at e
   rw[<-e,<-z] at b
   exact a.ret [] (iV (min ((sm:Nat)*2:Int) (1001:Int))) (congrArg (Value.int .i64) (by rw[<-b];unfold cO;first|(rw[if_pos oM];(repeat' split)<;>omega)|(rw[if_neg oM,if_pos oM,z2];(repeat' split)<;>omega)|(rw[if_neg oM,if_neg oM];(repeat' split)<;>omega)))
  have D:=oT l;refine lB 18 l (ag (bZ (cK (cQ (kZ (aD (lX 19 A ps.length c 9 (k:Nat) k ((a.f.2.1).ok oM) ?_)))))));refine lH 20 (bu (ps.getD k bI)) a ((a.f.2.1).el k oM) (lA 7 32 ea a (fun Z _ _ a=>lP 0 0 (bH (ps.getD k bI)) a (fun _ a=>aK (lL a [.c,.o (bu (ps.getD k bI)) 0 0 9,.c] (au 24 a (ih (ps.getD k bI) (ks.getD k dD) _ _ a.g ((a.f.1).at_ k oM) (U k oM)) (fun _ V a=>lI 25 ((sm:Nat)+((min (bD d (ks.getD k dD)) 1001:Nat):Int)) (lL a ae (lV 27 (iV ((min (eh (fun i=>bD d (ks.getD i dD)) (k+1)) 1001:Nat):Int)) ?_ (hr:=ay (n:=if (1001:Int)<((sm:Nat)+((min (bD d (ks.getD k dD)) 1001:Nat):Int)) then (1001:Int) else ((sm:Nat)+((min (bD d (ks.getD k dD)) 1001:Nat):Int))) kR (by split<;>omega))))))))));refine lL a ae (aK (lL a aE ?_));cases H:((((min (eh (fun i=>bD d (ks.getD i dD)) (k+1)) 1001:Nat):Int):Int) == (1001:Int))
  .
   have zd:=aq H;refine lB 30 H (am (cK (kQ (bB 32 ((k:Nat)+1) (k+1) ?_))));refine lL a ae (lD ?_);intro a_ W;replace a:=a.drop 1 0;refine ⟨_,_,?_,⟨k+1,(min (eh (fun i=>bD d (ks.getD i dD)) (k+1)) 1001),V,rfl,rfl,a.to _ _,oM,rfl⟩,W.to _ kR⟩
   omega
  have zd:=eq_of_beq H;exact lB 30 H (ar (ab a aE (ah a [] (iV 1001) (congrArg (Value.int .i64) (by have Y:=ti (fun i=>bD d (ks.getD i dD)) (show k+1<=ks.length by omega);have h2_:=p8 (d:=d) (op:=op) (n:=n) (q:=q) (s:=s) (ks:=ks) oM;omega)))))
 have F:=eq_of_beq x;exact lB 11 x (ar (ab a [.c,.v (iV 1),.c] (ah a [] (iV 1) (congrArg (Value.int .i64) (by rw[vp oM];first|rfl|omega)))))
theorem oD (ok:ByteArray->Prop):∀ (d:Nat) (p:PTm) (t:Tm) (w:World) (h:Hp),G w h->TmH d h p t->WfT ok d t ->  Calls Tryz.prog 89 #[bu p,iV 1001] w (Ret w h (fun v _=>v=iV ((min (bD d t) 1001:Nat):Int)))
  | 0,_,_,_,_,_,x,_=>x.elim
  | d + 1,p,t,w,h,g,x,wf=>by
    obtain ⟨op,n,q,s,A,c,ps,ks,rfl,rfl,u,f,a⟩:=x.open;obtain ⟨w1,w2,w3,y,i,e,l,j,o⟩:=wf
    have b:ps.length<=2:=by
      have e1:fF op=ks.length:=w1;have:=aN op;have:=a.len
      omega
    exact ut ok d (fun p t w h=>oD ok d p t w h) op n q s A c ps ks u b w1 w2 w3 y i e l j o w h g f a
structure PLt where
  s:ByteArray
  q:Rat
def Fe:PLt:=⟨⟨#[]⟩,0⟩
structure RLt where
  s:ByteArray
  neg:Bool
  zA:Z9
  zn:Nat
  zc:Nat
  dA:Z9
  dn:Nat
  dc:Nat
def RLt.t (r:RLt):RT:=(r.neg,.slice r.zA r.zn r.zc,.slice r.dA r.dn r.dc)
def E5:RLt:=⟨⟨#[]⟩,false,none,0,0,none,0,0⟩
structure RLs (h:Hp) (rs:List RLt) (ps:List PLt):Prop where
  len:rs.length=ps.length
  at_:∀ i,i<ps.length->(rs.getD i E5).s=(ps.getD i Fe).s/\RZ h (rs.getD i E5).t (ps.getD i Fe).q
def Gq (op n:Int)(q:Rat)(e1 e2:Int)(a b:Rat):Int × Rat :=
  if e1≠0 then (e1,0) else if e2≠0 then (e2,0) else if xr op n a b then (0,lp op n q a b) else (6,0)
section
variable {op n:Int}{q a b:Rat}{e1 e2:Int}
theorem Eb (h1:e1=0)(c:e2=0)(h:xr op n a b):Gq op n q e1 e2 a b=(0,GB op n q a b):=by unfold Gq GB;rw[if_neg oM,if_neg oM,if_pos h,if_pos h]
end
theorem wk {a:Rat}:fl a 1=a:=by
 have h1:((1:Int):Rat)=1:=rfl
 show ((1:Int):Rat)*a=a
 rw[h1];grind
theorem ry {a:Rat}{K:Nat}{n:Int}(d:1<=K)(h:LQ K a):LQ (aZ n*(K+2)-2) (fl a n):=by
  unfold aZ
  by_cases h1:n.natAbs<=1
  . rw[if_pos h1]
    have c:n=0\/n=1\/n = -1:=by omega
    rcases c with rfl|rfl|rfl
    . exact (LQ.lit (z:=1) kD).mono oM
    . rw[wk];exact h.mono oM
    . have e:fl a (-1)=a⁻¹:=by
        have h1:((1:Int):Rat)=1:=rfl
        show ((1:Int):Rat)/(((1:Int):Rat)*a)=a⁻¹
        rw[h1];rw[Rat.one_mul,Rat.div_def,Rat.one_mul]
      rw[e];exact h.inv.mono oM
  . rw[if_neg h1]
    have b:=j5 h n.natAbs;have f:n.natAbs*(K+2)=n.natAbs*K+n.natAbs*2:=Nat.mul_add _ _ _
    unfold fl
    split
    . exact b.mono oM
    . exact ((LQ.lit (z:=1) kD).div b).mono oM
theorem D5 {op n:Int}{q a b:Rat}{e1 e2:Int}{wa wb c:Nat}(D:3<=c)(o:1<=wa)(ha:LQ (c*wa-2) a)(f:1<=wb->LQ (c*wb-2) b)(d:fF op=2->1<=wb)(u:LQ 1 q)(y:3<=op/\op<=13) :
    LQ (c*(cO op n*(wa+wb))-2) (Gq op n q e1 e2 a b).2:=by
  obtain ⟨M,hM⟩:∃ M,M=cO op n*(wa+wb):=⟨_,rfl⟩;have w1:=cF op n;have l:wa+wb<=cO op n*(wa+wb):=II _ w1;rw[<-hM] at l ⊢
  have h0:LQ 1 (0:Rat):=LQ.lit (z:=0) kD;have x:=o;have C:c*(wa+wb)<=c*M:=A5 _ l;have m2:c*(wa+wb)=c*wa+c*wb:=Nat.mul_add _ _ _;have B:c<=c*wa:=Jr _ o;have hz:LQ (c*M-2) (0:Rat):=h0.mono oM
  suffices h:LQ (c*M-2) (lp op n q a b) by
    unfold Gq
    split
    . exact hz
    . split
      . exact hz
      . split
        . exact h
        . exact hz
  unfold lp
  split
  . exact u.mono oM
  split
  . rename_i h;have w2:=d (by rw[h];rfl);have i:c<=c*wb:=Jr _ w2;exact (ha.add (f w2)).mono oM
  split
  . rename_i h;have w2:=d (by rw[h];rfl);have i:c<=c*wb:=Jr _ w2;exact (ha.sub (f w2)).mono oM
  split
  . rename_i h;have w2:=d (by rw[h];rfl);have i:c<=c*wb:=Jr _ w2;exact (ha.mul (f w2)).mono oM
  split
  . rename_i h;have w2:=d (by rw[h];rfl);have i:c<=c*wb:=Jr _ w2;exact (ha.div (f w2)).mono oM
  split
  . exact ha.neg.mono oM
  split
  . rename_i p
    have e:cO op n=aZ n:=by unfold cO;rw[if_neg oM,if_pos p]
    have d:=ry (n:=n) oM ha
    have e2:aZ n*(c*wa-2+2)<=c*(aZ n*(wa+wb)):=by
      rw[show c*wa-2+2=c*wa by omega,Js];exact A5 _ (A5 _ (Jo _ _))
    rw[e] at hM
    rw[<-hM] at e2
    exact d.mono (Nat.sub_le_sub_right e2 2)
  split
  . exact ha.abs.mono oM
  split
  . exact (LQ.maxR ha (h0.mono (by omega:1<=c*wa-2))).mono oM
  split
  . rename_i j
    have e:cO op n=2:=by unfold cO;rw[if_pos j]
    rw[e] at hM
    have F:c*M=2*(c*(wa+wb)):=by rw[hM,Js]
    exact (ha.div (ha.abs.add (LQ.lit (z:=1) kD))).mono oM
  split
  . rename_i h;have w2:=d (by rw[h];rfl);have i:c<=c*wb:=Jr _ w2
    unfold maxR;split
    . exact (f w2).mono oM
    . exact ha.mono oM
  . have w2 := d (by have:op=13:=by omega
                     rw[this];rfl)
    have i:c<=c*wb:=Jr _ w2
    unfold oG;split
    . exact (f w2).mono oM
    . exact ha.mono oM
theorem e7 {ks:List Tm}{op:Int}(h:fF op=ks.length):ks=[]\/(∃ t,ks=[t])\/∃ t u,ks=[t,u]:=by
 have:=aN op
 rcases ks with _|⟨t,_|⟨u,_|⟨v,l⟩⟩⟩
 ·exact .inl rfl
 ·exact .inr (.inl ⟨t,rfl⟩)
 ·exact .inr (.inr ⟨t,u,rfl⟩)
 ·simp only[yf] at h;omega
theorem oe {d m:Nat}{op n:Int}{q:Rat}{s:ByteArray}{a:Tm}(h:bD (d+1) (.mk op n q s [a])<=m):bD d a<=m:=by
 have b:=p8 (d:=d) (op:=op) (n:=n) (q:=q) (s:=s) (ks:=[a]) (Jt _);have e:eh (fun i=>bD d (([a]:List Tm).getD i dD)) ([a]:List Tm).length=0+bD d a:=rfl
 omega
theorem oP {d m:Nat}{op n:Int}{q:Rat}{s:ByteArray}{a b:Tm}(h:bD (d+1) (.mk op n q s [a,b])<=m):bD d a<=m/\bD d b<=m:=by
 have c:=p8 (d:=d) (op:=op) (n:=n) (q:=q) (s:=s) (ks:=[a,b]) (Jt _);have e:eh (fun i=>bD d (([a,b]:List Tm).getD i dD)) ([a,b]:List Tm).length=0+bD d a+bD d b:=rfl
 omega
theorem sD {α:Type}:∀ {l:List α},l.length=2->∃ a b,l=[a,b]
 | [a,b],_=>⟨a,b,rfl⟩
 | [],h=>by simp only[Ju] at h;omega
 | [_],h=>by simp only[yf,Ju] at h;omega
 | _::_::_::_,h=>by simp only[yf] at h;omega
def md (m:Nat)(op n:Int)(x y:Int × Rat × List Rat):Int × Rat × List Rat :=
  if x.1≠0 then (x.1,0,[]) else if y.1≠0 then (y.1,0,[]) else if cc op n x.2.1 y.2.1≠0 then (cc op n x.2.1 y.2.1,0,[])
  else (0,lp op n 0 x.2.1 y.2.1,(o0 m).map fun i=>DB op n x.2.1 y.2.1*x.2.2.getD i 0+DM op x.2.1 y.2.1*y.2.2.getD i 0)
def ba (ix:ByteArray->Nat)(at_:List Rat):Nat->Tm->Int × Rat × List Rat
  | 0,_=>(0,0,[])
  | d+1,t =>
    if t.op=1 then (0,t.q,yL at_.length 0)
    else if t.op=2 then (0,at_.getD (ix t.s) 0,ef at_.length (ix t.s))
    else md at_.length t.op t.n (if 0<t.ks.length then ba ix at_ d (t.ks.getD 0 dD) else (0,0,[])) (if 1<t.ks.length then ba ix at_ d (t.ks.getD 1 dD) else (0,0,[]))
theorem oE (a b:Rat)(g h w:List Rat):∀ n m,n<=m->bJ ((o0 m).map fun i=>a*g.getD i 0+b*h.getD i 0) w n=a*bJ g w n+b*bJ h w n
  | 0,_,_=>by show (0:Rat)=a*0+b*0;grind
  | n+1,m,hm=>by
    show bJ _ w n+((o0 m).map fun i=>a*g.getD i 0+b*h.getD i 0).getD n 0*w.getD n 0=a*(bJ g w n+g.getD n 0*w.getD n 0)+b*(bJ h w n+h.getD n 0*w.getD n 0)
    rw[oE a b g h w n m oM];have e:((o0 m).map fun i=>a*g.getD i 0+b*h.getD i 0).getD n 0=a*g.getD n 0+b*h.getD n 0:=by simp[show n<m by omega]
    rw[e];grind
theorem oB (w:List Rat):∀ n,bJ [] w n=0
 | 0=>rfl
 | n+1=>by show bJ [] w n+([]:List Rat).getD n 0*w.getD n 0=0;rw[oB w n];simp;grind
section
variable {ix:ByteArray->Nat}{at_ way:List Rat}
theorem oc {m:Nat}{op n:Int}{x y:Int × Rat × List Rat}(h:x.1≠0):md m op n x y=(x.1,0,[]):=if_pos h
theorem qI {m:Nat}{op n:Int}{x y:Int × Rat × List Rat}(h:x.1=0)(a:y.1≠0):md m op n x y=(y.1,0,[]):=by unfold md;rw[if_neg (fun k=>k h),if_pos a]
theorem o8 {m:Nat}{op n:Int}{x y:Int × Rat × List Rat}(h:x.1=0)(b:y.1=0)(a:cc op n x.2.1 y.2.1≠0):md m op n x y=(cc op n x.2.1 y.2.1,0,[]):=by unfold md;rw[if_neg (fun k=>k h),if_neg (fun k=>k b),if_pos a]
def jJ (m:Nat)(op n:Int)(a b:Rat)(ga gb:List Rat):List Rat:=(o0 m).map fun i=>DB op n a b*ga.getD i 0+DM op a b*gb.getD i 0
theorem duG_len {m:Nat}{op n:Int}{a b:Rat}{ga gb:List Rat}:(jJ m op n a b ga gb).length=m:=by unfold jJ;simp
theorem l9 {m:Nat}{op n:Int}{x y:Int × Rat × List Rat}(h:x.1=0)(b:y.1=0)(a:cc op n x.2.1 y.2.1=0):md m op n x y=(0,lp op n 0 x.2.1 y.2.1,jJ m op n x.2.1 y.2.1 x.2.2 y.2.2):=by unfold md;rw[if_neg (fun k=>k h),if_neg (fun k=>k b),if_neg (fun k=>k a)];rfl
end
structure Whole (lo:Nat) (h:Hp) (b:Nat) (ty:TypeId) (vs:List Value):Prop where
  lo:lo<=b
  ty0:(ty == 0)=false
  at_:h[b]?=some (.cells vs.toArray ty (0,0))
structure Poked (h h':Hp) (b:Nat):Prop where
  oth:∀ c,c≠b->c<h.size->h'[c]?=h[c]?
section laws
variable {M:Ms}{P:Program}{n:Nat}{N R:Po}{X:Nat->Po}{ops:Array Oper}{k k0:Nat}{hr:Hp}{AL:List Al}{L:Array Bool}{Γ:bW}{w:World}{h:Hp}{w0:World}{h0:Hp}{B:List Bx}{Rs:List Rw}{F:List (Hp->Prop)}
theorem Gn (t:Nat)(ty:TypeId)(vs:List Value)(s:SS w0 h0 w h B Rs F)(H:∀ b w' a,Up w h w' a->h.size<=b->SS w0 h0 w' a (⟨b,ty,vs⟩::B) Rs F->LG P n N R X ops (k+1) ((t,.pointer (some ⟨b,0,none⟩))::Γ) w')(c:cL ops Γ k t n=true:=by kernel_rfl)
  (hr:(execOp (ev Γ) (ao ops k)).run P w=.ok (.value (.pointer (some ⟨w.heap.size,0,none⟩))) (w.alloc (.cells vs.toArray ty (0,0))):=by kernel_rfl):LG P n N R X ops k Γ w :=
 LG.var t ty vs s.st (bQ c).1 (bQ c).2 hr (fun b w' a d u e=>H b w' a u d (s.new u d e))
theorem UpM.put2 {M2:List Nat}{wa w':World}{ha:Hp}{b:Nat}(u:UpM M2 wa ha w h)(p:Put b w w')(f:ha.size<=b)(ga:G wa ha)(g:G w' h):UpM M2 wa ha w' h :=
 ⟨⟨p.os.trans u.mo.os,p.tape.trans u.mo.tape,p.output.trans u.mo.output,by rw[p.size];exact u.mo.size,fun c d a=>(p.blk c (fun e=>by subst e;have:=ga.size;omega)).trans (u.mo.blk c d a)⟩,u.gr,g⟩
end laws
theorem SS.takeL {w0:World}{h0:Hp}{w:World}{h:Hp}{B:List Bx}{F:List (Hp->Prop)}(s:SS w0 h0 w h B [] F){b:Nat}{ty:TypeId}{vs:List Value}(z:h0.size<=b)(d:h[b]?=some (.cells vs.toArray ty (0,0)))(i:(ty == 0)=false:=by kernel_rfl) :
  ∃ j,SS w0 h0 w j (⟨b,ty,vs⟩::B) [] []:=by
 have f:=aF d
 have o:h[b]?≠some aY:=fun e=>by
  rw[e] at d
  injection d with d
  unfold aY at d
  injection d with h1 h2 h3
  rw[<-h2] at i
  cases i
 have p:G w (h.setIfInBounds b aY):=⟨by simp;exact s.g.size,fun c=>by
  by_cases e:b=c
  ·subst e;right;rw[yV f]
  ·rw[i3 e];exact s.g.blk c⟩
 have C:Gr h0 (h.setIfInBounds b aY):=⟨by simp;exact s.st.up.gr.size,fun c l=>by rw[i3 oM];exact s.st.up.gr.blk c l⟩
 have y:Own w b ty vs:=by
  rcases s.g.blk b with e|e
  ·exact e.symm.trans d
  ·exact absurd e o
 refine ⟨h.setIfInBounds b aY,s.g0,⟨⟨s.st.up.ext,C,p⟩,?_,?_,?_,?_⟩,fun _ a=>(by cases a),.nil,fun _ a=>(by cases a),trivial⟩
 ·intro x a
  rcases g4.1 a with rfl|a
  ·exact y
  ·exact s.st.own x a
 ·intro x a
  rcases g4.1 a with rfl|a
  ·exact yV f
  ·by_cases e:b=x.b
   ·rw[<-e];exact yV f
   ·rw[i3 e];exact s.st.jk x a
 ·intro x a
  rcases g4.1 a with rfl|a
  ·exact z
  ·exact s.st.lo x a
 ·show (b::B.map (·.b)).Nodup
  refine List.nodup_cons.2 ⟨fun u=>?_,s.st.nd⟩;obtain ⟨x,a,e⟩:=g2.1 u;exact o (e▸s.st.jk x a)
abbrev nS (q:Rat)(A:Z9)(m c:Nat):Value:=.agg #[.bool (ax q.num),.int .u64 (lo (ac q.num)),.string (hi (ac q.num)),.int .u64 (lo (qd q)),.string (hi (qd q)),.slice A m c]
def dk (f:Nat->Rat)(m k:Nat):List Rat:=(o0 m).map fun i=>if i<k then f i else 0
theorem gL (f:Nat->Rat)(m:Nat):yL m (0:Rat)=dk f m 0:=by
 unfold dk
 refine i8 (by simp) fun i=>?_
 by_cases hi:i<m
 ·simp[hi]
 ·rw[cP (by simp;omega),cP (by simp;omega)]
theorem eW {f:Nat->Rat}{m k:Nat}(hk:k<m):(dk f m k).set k (f k)=dk f m (k+1):=by
 unfold dk
 refine i8 (by simp) fun i=>?_
 by_cases hi:i<m
 ·rw[bK (by simpa using hk)]
  by_cases e:i=k
  ·subst e;simp[hi]
  ·rw[if_neg e];simp[hi]
   by_cases h2:i<k
   ·rw[if_pos h2,if_pos oM]
   ·rw[if_neg h2,if_neg oM]
 ·rw[cP (by simp;omega),cP (by simp;omega)]
theorem fE (f:Nat->Rat)(m:Nat):((o0 m).map fun i=>f i).length=m:=by simp
theorem vW (m i:Nat):(ef m i).length=m:=by unfold ef;simp
theorem eN (f:Nat->Rat)(m:Nat):dk f m m=(o0 m).map fun i=>f i:=by
 unfold dk
 refine Jv fun i hi=>?_
 rw[if_pos (pa.1 hi)]
theorem iP (j:Z9)(m c:Nat)(H:m<=1000)(q:Rat)(hk:Hp)(w:World)(h:Hp)(g:G w h)(hz:hk.size<=h.size):CR 263 #[.agg #[.slice j m c],qv q] w h (fun v h1=>∃ y,v=nS q (sB y) m m/\Nw hk.size h1 y 29 ((yL m (0:Rat)).flatMap qc)):=by
 have a:=sS g;refine go Tryz.func263 [(0,.agg #[qS j m c]),(1,qv q)] rfl (aD (lA 2 128 ([qS j m c]) a (fun z w2 K a=>lA 3 29 (qc q) a (fun B I D a=>lA 4 77 ([qF,uV 0,eS,uV 0,eS,sZ]) a (fun C J F a=>ag (cR 6 [] mixed a ai ?_))))));refine eO 0 5 [(1,0,5)] (qv q) a (eV 1 6 (pB z) (eO 2 7 [(2,0,1)] (qS j m c) a (eV 3 8 (nV m) (eK 4 9 29 m 5 56 eb qc 0 a (fun u _ _ a=>?_)))));have x:(yL m 0).length=m:=by simp
 refine eV 5 10 (qY q (sB u) m m) (bA a (fun _ _ a=>tP 6 1 0 (qZ q (sB u) m m) a (fun _ a=>tN (kX ?_))));obtain ⟨_,a,p,i,e⟩:=a.pub 0;replace a:=(a.to [⟨C,77,qZ q (sB u) m m⟩,⟨B,29,qc q⟩,⟨z,128,[qS j m c]⟩] []).aS (SlO.of_flat (sz:=5) (f:=qc) (d:=0) (b:=u) (o:=0) (l:=yL m 0) (fun _=>rfl) p);exact a.ret [(0,0,6)] (qY q (sB u) m m) (⟨_,rfl,e4 hz i,by decide,e⟩)
theorem iW (i:Z9)(m a:Nat)(j:m<=1000)(q:Rat)(w:World)(h:Hp)(g:G w h):Calls Tryz.prog 263 #[.agg #[.slice i m a],qv q] w (Ret w h (fun v h1=>∃ c,v=nS (q) (sB c) (yL m (0:Rat)).length m/\Sq (sB c) (yL m (0:Rat)) h1)) :=
 (iP i m a j q h w h g (nR _)).mono fun e w' ⟨v,p,e1,u,b,e2,n⟩=>⟨v,p,e1,u,b,by rw[e2,Jw],SlO.of_flat (sz:=5) (f:=qc) (d:=0) (b:=b) (o:=0) (l:=yL m (0:Rat)) (fun _=>rfl) n.seg0⟩
theorem Dz (z:Z9)(m x:Nat)(hm:m<=1000)(K D:Nat)(hK1:1<=K)(hKD:K<=1000000)(hD:D<=20000000)(a:Rat)(ga:List Rat)(u:Z9)(B:Nat)(hla:ga.length=m)(ha:LQ K a)(M:∀ i,LQ D (ga.getD i 0))(b:Rat)(gb:List Rat)(p:Z9)(y:Nat)(hlb:gb.length=m)(hb:LQ K b)(S:∀ i,LQ D (gb.getD i 0))(w:World)(h:Hp)(g:G w h)(O:Sq u ga h)(Q:Sq p gb h)(tb:Tab h):CR 258 #[.agg #[.slice z m x],qY a u ga.length B,qY b p gb.length y] w h (fun v h1=>∃ bk,v=nS (a+b) (sB bk) ((o0 m).map fun i=>ga.getD i 0+gb.getD i 0).length m/\Sq (sB bk) ((o0 m).map fun i=>ga.getD i 0+gb.getD i 0) h1):=by
 have e:=((((sS g).aS O).aS Q).add (K:=fun C=>Tab C) tb);refine go Tryz.func258 [(0,.agg #[qS z m x]),(1,qY a u ga.length B),(2,qY b p gb.length y)] rfl (aD (lA 3 128 ([qS z m x]) e (fun U w2 h3 e=>lA 4 77 (qZ a u ga.length B) e (fun F w5 h6 e=>lA 5 77 (qZ b p gb.length y) e (fun H w8 h9 e=>lA 6 77 ([qF,uV 0,eS,uV 0,eS,sZ]) e (fun J _ _ e=>ag ?_))))));have X:=e;refine cR 8 [⟨7,7,.cells (IL [qF,uV 0,eS,uV 0,eS,sZ]) 77 (0,0)⟩] mixed e (be (dE kR (fun _ _=>by kernel_rfl)) ai) (eO 0 9 [(3,0,1)] (.agg #[qS z m x]) e (eV 1 10 (pB F) (eO 2 11 [(2,0,5)] (qv a) e (eV 3 12 (pB H) (eO 4 13 [(1,0,5)] (qv b) e ?_)))));have bl:=LQ.add ha hb;refine af 5 14 e (fun _ _ e=>gh a b (LQ.mono ha oM) (LQ.mono hb oM) _ _ e.g e.f.1) (fun _ _ e=>eC 6 15 e (fun _ _ e=>iP z m x hm (a+b) h _ _ e.g e.st.sz) ?_);rintro _ _ _ _ _ e ⟨j,rfl,hNn⟩;replace e:=(e.add (K:=fun C=>Nw h.size C j 29 ((yL m (0:Rat)).flatMap qc)) hNn);refine fi [] X e 77 [qF,uV 0,eS,uV 0,eS,sZ] (fun _ _ I e=>tP 8 0 0 (qZ (a+b) (sB j) m m) e (fun _ e=>tN (cQ (aD ?_))));obtain ⟨zf,e⟩:=e.takeL (e.f.1).1 (e.f.1).2.2;replace e:=e.aS (O.gw e.st.up.gr.gw);replace e:=e.aS (Q.gw e.st.up.gr.gw);replace e:=e.add (K:=fun C=>Tab C) (tb.gw e.st.up.gr.gw);replace e:=e.to [⟨j,29,((yL m 0)).flatMap qc⟩,⟨I,77,qZ (a+b) (sB j) m m⟩,⟨J,77,[qF,uV 0,eS,uV 0,eS,sZ]⟩,⟨H,77,qZ b p gb.length y⟩,⟨F,77,qZ a u ga.length B⟩,⟨U,128,[qS z m x]⟩] [];refine lL e [.v (qP I 5),.o (qS (sB j) m m) 1 5 1,.v (nV m),.c] (a7 ?_);refine bY _ (CG.loop (fun Z Γ w_=>∃ (k:Nat)(L:List Rat)(C:Hp),Z=m-k/\Γ=[(4,pB F),(5,pB H),(6,pB J),(7,pB I),(18,nV m),(19,nV k)]/\SS w h w_ C [⟨j,29,(L).flatMap qc⟩,⟨I,77,qZ (a+b) (sB j) m m⟩,⟨J,77,[qF,uV 0,eS,uV 0,eS,sZ]⟩,⟨H,77,qZ b p gb.length y⟩,⟨F,77,qZ a u ga.length B⟩,⟨U,128,[qS z m x]⟩] [] [fun C=>Tab C,Sq p gb,Sq u ga]/\k<=m/\L.length=m/\L=dk (fun i=>ga.getD i 0+gb.getD i 0) m k) _ ⟨0,yL m 0,zf,rfl,rfl,e.to _ _,In _,Jw,(gL _ _)⟩ ?_);rintro _ _ _ ⟨k,L,_,bd,rfl,e,hk,Y,hL⟩;refine aD ?_;cases W:(decide ((k:Int)<(m:Int)))
 .
  have zd:=oF W;refine lB 20 W (ag (cD (CG.exit ?_)))
  show CG _ _ _ _ _ _ _ _
  refine ab e [.o (qY (a+b) (sB j) m m) 1 0 6] (lP 2 0 (qZ (a+b) (sB j) m m) e (fun _ e=>lN (kX ?_)));have hkm:k=m:=by omega
  rw[hkm,eN] at hL
  subst hL;replace e:=e.to [⟨j,29,(((o0 m).map fun i=>ga.getD i 0+gb.getD i 0)).flatMap qc⟩,⟨I,77,qZ (a+b) (sB j) m m⟩,⟨J,77,qZ (a+b) (sB j) m m⟩,⟨H,77,qZ b p gb.length y⟩,⟨F,77,qZ a u ga.length B⟩,⟨U,128,[qS z m x]⟩] [];obtain ⟨_,e,V,bm,bf⟩:=e.pub 0;replace e:=(e.to [⟨I,77,qZ (a+b) (sB j) m m⟩,⟨J,77,qZ (a+b) (sB j) m m⟩,⟨H,77,qZ b p gb.length y⟩,⟨F,77,qZ a u ga.length B⟩,⟨U,128,[qS z m x]⟩] []).aS (SlO.of_flat (sz:=5) (f:=qc) (d:=0) (b:=j) (o:=0) (l:=((o0 m).map fun i=>ga.getD i 0+gb.getD i 0)) (fun _=>rfl) V);exact e.ret [(1,0,6)] (qY (a+b) (sB j) m m) (⟨_,by rw[fE],e.f.1⟩)
 have zd:=oT W;refine lB 20 W (ag (bZ (cK (cQ (kZ (ab e aE (lN (cR 14 [] mixed e ai ?_))))))));refine eV 0 22 (qP I 5) (eO 1 23 [(1,5,1)] (qS (sB j) m m) e (eV 2 24 (nV k) (eV 3 25 (qP F 5) (eO 4 26 [(4,5,1)] (qS u ga.length B) e (eV 5 27 (nV k) (eX 6 28 u ga.length B 5 (k:Nat) k ((e.f.r.1).ok oM) (eH 7 29 (qv (ga.getD k 0)) e ((e.f.r.1).el k oM) (eV 8 30 (qP H 5) (eO 9 31 [(3,5,1)] (qS p gb.length y) e (eV 10 32 (nV k) (eX 11 33 p gb.length y 5 (k:Nat) k ((e.f.2.1).ok oM) (eH 12 34 (qv (gb.getD k 0)) e ((e.f.2.1).el k oM) ?_))))))))))));have bb:=LQ.add (M k) (S k);refine af 13 35 e (fun _ _ e=>gh (ga.getD k 0) (gb.getD k 0) (LQ.mono (M k) oM) (LQ.mono (S k) oM) _ _ e.g e.f.1) (fun _ _ e=>bA e (fun _ zg e=>tX 14 36 (sB j) m m 5 (k:Nat) k rfl (tW 15 0 L qc 5 k ((ga.getD k 0)+(gb.getD k 0)) e oM (fun _ e=>?_))));have ze:((L).set k ((ga.getD k 0)+(gb.getD k 0))).length=m:=by rw[Ic];exact Y
 replace e:=e.to [⟨j,29,((L).set k ((ga.getD k 0)+(gb.getD k 0))).flatMap qc⟩,⟨I,77,qZ (a+b) (sB j) m m⟩,⟨J,77,[qF,uV 0,eS,uV 0,eS,sZ]⟩,⟨H,77,qZ b p gb.length y⟩,⟨F,77,qZ a u ga.length B⟩,⟨U,128,[qS z m x]⟩] [];refine tN (kQ (bB 37 ((k:Nat)+1) (k+1) ?_));refine lL e ae (lD ?_);intro a_ ka;refine ⟨_,_,?_,⟨k+1,(L).set k ((ga.getD k 0)+(gb.getD k 0)),zg,rfl,rfl,e.to _ _,oM,ze,(by rw[hL];exact eW oM)⟩,ka.to _ kR⟩
 omega
theorem AT (z:Z9)(m x:Nat)(hm:m<=1000)(K D:Nat)(hK1:1<=K)(hKD:K<=1000000)(hD:D<=20000000)(a:Rat)(ga:List Rat)(u:Z9)(B:Nat)(hla:ga.length=m)(ha:LQ K a)(M:∀ i,LQ D (ga.getD i 0))(b:Rat)(gb:List Rat)(p:Z9)(y:Nat)(hlb:gb.length=m)(X:LQ K b)(S:∀ i,LQ D (gb.getD i 0))(w:World)(h:Hp)(g:G w h)(O:Sq u ga h)(Q:Sq p gb h)(tb:Tab h):CR 262 #[.agg #[.slice z m x],qY a u ga.length B,qY b p gb.length y] w h (fun v h1=>∃ bk,v=nS (a*b) (sB bk) ((o0 m).map fun i=>ga.getD i 0*b+a*gb.getD i 0).length m/\Sq (sB bk) ((o0 m).map fun i=>ga.getD i 0*b+a*gb.getD i 0) h1):=by
 have e:=((((sS g).aS O).aS Q).add (K:=fun C=>Tab C) tb);refine go Tryz.func262 [(0,.agg #[qS z m x]),(1,qY a u ga.length B),(2,qY b p gb.length y)] rfl (aD (lA 3 128 ([qS z m x]) e (fun U w2 h3 e=>lA 4 77 (qZ a u ga.length B) e (fun F w5 h6 e=>lA 5 77 (qZ b p gb.length y) e (fun H w8 h9 e=>lA 6 77 ([qF,uV 0,eS,uV 0,eS,sZ]) e (fun J _ _ e=>ag ?_))))));have Y:=e;refine cR 8 [⟨7,7,.cells (IL [qF,uV 0,eS,uV 0,eS,sZ]) 77 (0,0)⟩] mixed e (be (dE kR (fun _ _=>by kernel_rfl)) ai) (eO 0 9 [(3,0,1)] (.agg #[qS z m x]) e (eV 1 10 (pB F) (eO 2 11 [(2,0,5)] (qv a) e (eV 3 12 (pB H) (eO 4 13 [(1,0,5)] (qv b) e ?_)))));have bl:=LQ.mul ha X;refine af 5 14 e (fun _ _ e=>dm a b (LQ.mono ha oM) (LQ.mono X oM) _ _ e.g e.f.1) (fun _ _ e=>eC 6 15 e (fun _ _ e=>iP z m x hm (a*b) h _ _ e.g e.st.sz) ?_);rintro _ _ _ _ _ e ⟨j,rfl,hNn⟩;replace e:=(e.add (K:=fun C=>Nw h.size C j 29 ((yL m (0:Rat)).flatMap qc)) hNn);refine fi [] Y e 77 [qF,uV 0,eS,uV 0,eS,sZ] (fun _ _ I e=>tP 8 0 0 (qZ (a*b) (sB j) m m) e (fun _ e=>tN (cQ (aD ?_))));obtain ⟨zi,e⟩:=e.takeL (e.f.1).1 (e.f.1).2.2;replace e:=e.aS (O.gw e.st.up.gr.gw);replace e:=e.aS (Q.gw e.st.up.gr.gw);replace e:=e.add (K:=fun C=>Tab C) (tb.gw e.st.up.gr.gw);replace e:=e.to [⟨j,29,((yL m 0)).flatMap qc⟩,⟨I,77,qZ (a*b) (sB j) m m⟩,⟨J,77,[qF,uV 0,eS,uV 0,eS,sZ]⟩,⟨H,77,qZ b p gb.length y⟩,⟨F,77,qZ a u ga.length B⟩,⟨U,128,[qS z m x]⟩] [];refine lL e [.v (qP I 5),.o (qS (sB j) m m) 1 5 1,.v (nV m),.c] (a7 ?_);refine bY _ (CG.loop (fun μ_ Γ w_=>∃ (k:Nat)(L:List Rat)(C:Hp),μ_=m-k/\Γ=[(4,pB F),(5,pB H),(6,pB J),(7,pB I),(18,nV m),(19,nV k)]/\SS w h w_ C [⟨j,29,(L).flatMap qc⟩,⟨I,77,qZ (a*b) (sB j) m m⟩,⟨J,77,[qF,uV 0,eS,uV 0,eS,sZ]⟩,⟨H,77,qZ b p gb.length y⟩,⟨F,77,qZ a u ga.length B⟩,⟨U,128,[qS z m x]⟩] [] [fun C=>Tab C,Sq p gb,Sq u ga]/\k<=m/\L.length=m/\L=dk (fun i=>ga.getD i 0*b+a*gb.getD i 0) m k) _ ⟨0,yL m 0,zi,rfl,rfl,e.to _ _,In _,Jw,(gL _ _)⟩ ?_);rintro _ _ _ ⟨k,L,_,bb,rfl,e,hk,Z,hL⟩;refine aD ?_;cases W:(decide ((k:Int)<(m:Int)))
 .
  have zf:=oF W;refine lB 20 W (ag (cD (CG.exit ?_)))
  show CG _ _ _ _ _ _ _ _
  refine ab e [.o (qY (a*b) (sB j) m m) 1 0 6] (lP 2 0 (qZ (a*b) (sB j) m m) e (fun _ e=>lN (kX ?_)));have hkm:k=m:=by omega
  rw[hkm,eN] at hL
  subst hL;replace e:=e.to [⟨j,29,(((o0 m).map fun i=>ga.getD i 0*b+a*gb.getD i 0)).flatMap qc⟩,⟨I,77,qZ (a*b) (sB j) m m⟩,⟨J,77,qZ (a*b) (sB j) m m⟩,⟨H,77,qZ b p gb.length y⟩,⟨F,77,qZ a u ga.length B⟩,⟨U,128,[qS z m x]⟩] [];obtain ⟨_,e,V,bm,bd⟩:=e.pub 0;replace e:=(e.to [⟨I,77,qZ (a*b) (sB j) m m⟩,⟨J,77,qZ (a*b) (sB j) m m⟩,⟨H,77,qZ b p gb.length y⟩,⟨F,77,qZ a u ga.length B⟩,⟨U,128,[qS z m x]⟩] []).aS (SlO.of_flat (sz:=5) (f:=qc) (d:=0) (b:=j) (o:=0) (l:=((o0 m).map fun i=>ga.getD i 0*b+a*gb.getD i 0)) (fun _=>rfl) V);exact e.ret [(1,0,6)] (qY (a*b) (sB j) m m) (⟨_,by rw[fE],e.f.1⟩)
 have zf:=oT W;refine lB 20 W (ag (bZ (cK (cQ (kZ (ab e aE (lN (cR 20 [] mixed e ai ?_))))))));refine eV 0 22 (qP I 5) (eO 1 23 [(1,5,1)] (qS (sB j) m m) e (eV 2 24 (nV k) (eV 3 25 (qP F 5) (eO 4 26 [(4,5,1)] (qS u ga.length B) e (eV 5 27 (nV k) (eX 6 28 u ga.length B 5 (k:Nat) k ((e.f.r.1).ok oM) (eH 7 29 (qv (ga.getD k 0)) e ((e.f.r.1).el k oM) (eV 8 30 (pB H) (eO 9 31 [(3,0,5)] (qv b) e (eV 11 33 (pB F) (eO 12 34 [(4,0,5)] (qv a) e (eV 13 35 (qP H 5) (eO 14 36 [(3,5,1)] (qS p gb.length y) e (eV 15 37 (nV k) (eX 16 38 p gb.length y 5 (k:Nat) k ((e.f.2.1).ok oM) (eH 17 39 (qv (gb.getD k 0)) e ((e.f.2.1).el k oM) ?_))))))))))))))));have zd:=LQ.mul (M k) X;refine af 10 32 e (fun _ _ e=>dm (ga.getD k 0) b (LQ.mono (M k) oM) (LQ.mono X oM) _ _ e.g e.f.1) (fun _ _ e=>?_);have ze:=LQ.mul ha (S k);refine af 18 40 e (fun _ _ e=>dm a (gb.getD k 0) (LQ.mono ha oM) (LQ.mono (S k) oM) _ _ e.g e.f.1) (fun _ _ e=>?_);have bf:=LQ.add zd ze;refine af 19 41 e (fun _ _ e=>gh ((ga.getD k 0)*b) (a*(gb.getD k 0)) (LQ.mono zd oM) (LQ.mono ze oM) _ _ e.g e.f.1) (fun _ _ e=>bA e (fun _ zj e=>tX 20 42 (sB j) m m 5 (k:Nat) k rfl (tW 21 0 L qc 5 k (((ga.getD k 0)*b)+(a*(gb.getD k 0))) e oM (fun _ e=>?_))));have zg:((L).set k (((ga.getD k 0)*b)+(a*(gb.getD k 0)))).length=m:=by rw[Ic];exact Z
 replace e:=e.to [⟨j,29,((L).set k (((ga.getD k 0)*b)+(a*(gb.getD k 0)))).flatMap qc⟩,⟨I,77,qZ (a*b) (sB j) m m⟩,⟨J,77,[qF,uV 0,eS,uV 0,eS,sZ]⟩,⟨H,77,qZ b p gb.length y⟩,⟨F,77,qZ a u ga.length B⟩,⟨U,128,[qS z m x]⟩] [];refine tN (kQ (bB 43 ((k:Nat)+1) (k+1) ?_));refine lL e ae (lD ?_);intro a_ ka;refine ⟨_,_,?_,⟨k+1,(L).set k (((ga.getD k 0)*b)+(a*(gb.getD k 0))),zj,rfl,rfl,e.to _ _,oM,zg,(by rw[hL];exact eW oM)⟩,ka.to _ kR⟩
 omega
theorem vb (y:Z9)(m x:Nat)(hm:m<=1000)(K D:Nat)(hK1:1<=K)(hKD:K<=1000000)(hD:D<=20000000)(a:Rat)(ga:List Rat)(u:Z9)(z:Nat)(hla:ga.length=m)(ha:LQ K a)(M:∀ i,LQ D (ga.getD i 0))(j:Rat)(E:Nat)(hE:E<=10000000)(C:LQ E j)(w:World)(h:Hp)(g:G w h)(O:Sq u ga h)(tb:Tab h):CR 264 #[.agg #[.slice y m x],qY a u ga.length z,qv j] w h (fun v h1=>∃ bk,v=nS (a*j) (sB bk) ((o0 m).map fun i=>ga.getD i 0*j).length m/\Sq (sB bk) ((o0 m).map fun i=>ga.getD i 0*j) h1):=by
 have e:=(((sS g).aS O).add (K:=fun B=>Tab B) tb);refine go Tryz.func264 [(0,.agg #[qS y m x]),(1,qY a u ga.length z),(2,qv j)] rfl (aD (lA 3 128 ([qS y m x]) e (fun Q w2 h3 e=>lA 4 77 (qZ a u ga.length z) e (fun F w5 h6 e=>lA 5 29 (qc j) e (fun J w8 h9 e=>lA 6 77 ([qF,uV 0,eS,uV 0,eS,sZ]) e (fun I _ _ e=>ag ?_))))));have V:=e;refine cR 7 [⟨6,7,.cells (IL [qF,uV 0,eS,uV 0,eS,sZ]) 77 (0,0)⟩] mixed e (be (dE kR (fun _ _=>by kernel_rfl)) ai) (eO 0 9 [(3,0,1)] (.agg #[qS y m x]) e (eV 1 10 (pB F) (eO 2 11 [(2,0,5)] (qv a) e (eO 3 12 [(1,0,5)] (qv j) e ?_))));have bl:=LQ.mul ha C;refine af 4 13 e (fun _ _ e=>dm a j (LQ.mono ha oM) (LQ.mono C oM) _ _ e.g e.f.1) (fun _ _ e=>eC 5 14 e (fun _ _ e=>iP y m x hm (a*j) h _ _ e.g e.st.sz) ?_);rintro _ _ _ _ _ e ⟨p,rfl,hNn⟩;replace e:=(e.add (K:=fun B=>Nw h.size B p 29 ((yL m (0:Rat)).flatMap qc)) hNn);refine fi [] V e 77 [qF,uV 0,eS,uV 0,eS,sZ] (fun _ _ H e=>tP 7 0 0 (qZ (a*j) (sB p) m m) e (fun _ e=>tN (cQ (aD ?_))));obtain ⟨zf,e⟩:=e.takeL (e.f.1).1 (e.f.1).2.2;replace e:=e.aS (O.gw e.st.up.gr.gw);replace e:=e.add (K:=fun B=>Tab B) (tb.gw e.st.up.gr.gw);replace e:=e.to [⟨p,29,((yL m 0)).flatMap qc⟩,⟨H,77,qZ (a*j) (sB p) m m⟩,⟨I,77,[qF,uV 0,eS,uV 0,eS,sZ]⟩,⟨J,29,qc j⟩,⟨F,77,qZ a u ga.length z⟩,⟨Q,128,[qS y m x]⟩] [];refine lL e [.v (qP H 5),.o (qS (sB p) m m) 1 5 1,.v (nV m),.c] (a7 ?_);refine bY _ (CG.loop (fun X Γ w_=>∃ (k:Nat)(L:List Rat)(B:Hp),X=m-k/\Γ=[(4,pB F),(5,pB J),(6,pB I),(7,pB H),(17,nV m),(18,nV k)]/\SS w h w_ B [⟨p,29,(L).flatMap qc⟩,⟨H,77,qZ (a*j) (sB p) m m⟩,⟨I,77,[qF,uV 0,eS,uV 0,eS,sZ]⟩,⟨J,29,qc j⟩,⟨F,77,qZ a u ga.length z⟩,⟨Q,128,[qS y m x]⟩] [] [fun B=>Tab B,Sq u ga]/\k<=m/\L.length=m/\L=dk (fun i=>ga.getD i 0*j) m k) _ ⟨0,yL m 0,zf,rfl,rfl,e.to _ _,In _,Jw,(gL _ _)⟩ ?_);rintro _ _ _ ⟨k,L,_,bd,rfl,e,hk,W,Z⟩;refine aD ?_;cases U:(decide ((k:Int)<(m:Int)))
 .
  have zd:=oF U;refine lB 19 U (ag (cD (CG.exit ?_)))
  show CG _ _ _ _ _ _ _ _
  refine ab e [.o (qY (a*j) (sB p) m m) 1 0 6] (lP 2 0 (qZ (a*j) (sB p) m m) e (fun _ e=>lN (kX ?_)));have Y:k=m:=by omega
  rw[Y,eN] at Z
  subst Z;replace e:=e.to [⟨p,29,(((o0 m).map fun i=>ga.getD i 0*j)).flatMap qc⟩,⟨H,77,qZ (a*j) (sB p) m m⟩,⟨I,77,qZ (a*j) (sB p) m m⟩,⟨J,29,qc j⟩,⟨F,77,qZ a u ga.length z⟩,⟨Q,128,[qS y m x]⟩] [];obtain ⟨_,e,S,bm,bf⟩:=e.pub 0;replace e:=(e.to [⟨H,77,qZ (a*j) (sB p) m m⟩,⟨I,77,qZ (a*j) (sB p) m m⟩,⟨J,29,qc j⟩,⟨F,77,qZ a u ga.length z⟩,⟨Q,128,[qS y m x]⟩] []).aS (SlO.of_flat (sz:=5) (f:=qc) (d:=0) (b:=p) (o:=0) (l:=((o0 m).map fun i=>ga.getD i 0*j)) (fun _=>rfl) S);exact e.ret [(1,0,6)] (qY (a*j) (sB p) m m) (⟨_,by rw[fE],e.f.1⟩)
 have zd:=oT U;refine lB 19 U (ag (bZ (cK (cQ (kZ (ab e aE (lN (cR 10 [] mixed e ai ?_))))))));refine eV 0 21 (qP H 5) (eO 1 22 [(1,5,1)] (qS (sB p) m m) e (eV 2 23 (nV k) (eV 3 24 (qP F 5) (eO 4 25 [(4,5,1)] (qS u ga.length z) e (eV 5 26 (nV k) (eX 6 27 u ga.length z 5 (k:Nat) k ((e.f.2.1).ok oM) (eH 7 28 (qv (ga.getD k 0)) e ((e.f.2.1).el k oM) (eO 8 29 [(3,0,5)] (qv j) e ?_))))))));have bb:=LQ.mul (M k) C;refine af 9 30 e (fun _ _ e=>dm (ga.getD k 0) j (LQ.mono (M k) oM) (LQ.mono C oM) _ _ e.g e.f.1) (fun _ _ e=>bA e (fun _ zg e=>tX 10 31 (sB p) m m 5 (k:Nat) k rfl (tW 11 0 L qc 5 k ((ga.getD k 0)*j) e oM (fun _ e=>?_))));have ze:((L).set k ((ga.getD k 0)*j)).length=m:=by rw[Ic];exact W
 replace e:=e.to [⟨p,29,((L).set k ((ga.getD k 0)*j)).flatMap qc⟩,⟨H,77,qZ (a*j) (sB p) m m⟩,⟨I,77,[qF,uV 0,eS,uV 0,eS,sZ]⟩,⟨J,29,qc j⟩,⟨F,77,qZ a u ga.length z⟩,⟨Q,128,[qS y m x]⟩] [];refine tN (kQ (bB 32 ((k:Nat)+1) (k+1) ?_));refine lL e ae (lD ?_);intro a_ ka;refine ⟨_,_,?_,⟨k+1,(L).set k ((ga.getD k 0)*j),zg,rfl,rfl,e.to _ _,oM,ze,(by rw[Z];exact eW oM)⟩,ka.to _ kR⟩
 omega
theorem C8 (e:Z9)(m j:Nat)(L:m<=1000)(fs:List Rat)(Q:fs.length=m)(i:Nat)(O:i<m)(w:World)(h:Hp)(g:G w h)(F:Sq e fs h):CR 260 #[.agg #[.slice e m j],nV i] w h (fun v h1=>∃ H,v=nS (fs.getD i 0) (sB H) (ef m i).length m/\Sq (sB H) (ef m i) h1):=by
 have a:=((sS g).aS F);have J:(yL m (0:Rat)).length=m:=Jw;refine go Tryz.func260 [(0,.agg #[qS e m j]),(1,nV i)] rfl (aD (lA 2 128 ([qS e m j]) a (fun u w2 W a=>lA 4 77 ([qF,uV 0,eS,uV 0,eS,sZ]) a (fun y V S a=>ag ?_))));have z:=a;refine cR 8 [⟨7,5,.cells (IL [qF,uV 0,eS,uV 0,eS,sZ]) 77 (0,0)⟩] mixed a (be (dE kR (fun _ _=>by kernel_rfl)) ai) (eO 0 6 [(1,0,1)] (.agg #[qS e m j]) a (eV 1 7 (pB u) (eO 2 8 [(1,0,1)] (qS e m j) a (eV 3 9 (nV i) (eX 4 10 e m j 5 (i:Nat) i ((a.f.1).ok oM) (eH 5 11 (qv (fs.getD i 0)) a ((a.f.1).el i oM) (eC 6 12 a (fun _ _ a=>iP e m j L (fs.getD i 0) h _ _ a.g a.st.sz) ?_)))))));rintro _ _ _ X U a ⟨c,rfl,B⟩;replace a:=(a.add (K:=fun M=>Nw h.size M c 29 ((yL m (0:Rat)).flatMap qc)) B);refine fi [] z a 77 [qF,uV 0,eS,uV 0,eS,sZ] (fun Y _ x a=>tP 8 0 0 (qZ (fs.getD i 0) (sB c) m m) a (fun _ a=>tN (cQ ?_)));obtain ⟨_,a⟩:=a.takeL (a.f.1).1 (a.f.1).2.2;replace a:=a.aS (F.gw a.st.up.gr.gw);replace a:=a.to [⟨c,29,((yL m 0)).flatMap qc⟩,⟨x,77,qZ (fs.getD i 0) (sB c) m m⟩,⟨y,77,[qF,uV 0,eS,uV 0,eS,sZ]⟩,⟨u,128,[qS e m j]⟩] [];refine cR 4 [] mixed a ai (eV 0 13 (qP x 5) (eO 1 14 [(1,5,1)] (qS (sB c) m m) a (eV 2 15 (nV i) (af 3 16 a (fun _ _ a=>mC (1) kD kD _ _ a.g) (fun _ _ a=>bA a (fun _ _ a=>tX 4 17 (sB c) m m 5 (i:Nat) i rfl (tW 5 0 (yL m 0) qc 5 i ((1:Int):Rat) a oM (fun _ a=>?_))))))));have D:(((yL m 0)).set i ((1:Int):Rat)).length=m:=by rw[Ic];exact Jw
 replace a:=a.to [⟨c,29,(((yL m 0)).set i ((1:Int):Rat)).flatMap qc⟩,⟨x,77,qZ (fs.getD i 0) (sB c) m m⟩,⟨y,77,[qF,uV 0,eS,uV 0,eS,sZ]⟩,⟨u,128,[qS e m j]⟩] [];refine tM (lL a [.o (qY (fs.getD i 0) (sB c) m m) 1 0 6] (lP 2 0 (qZ (fs.getD i 0) (sB c) m m) a (fun _ a=>lN (kX ?_))));replace a:=a.to [⟨c,29,(((yL m 0)).set i ((1:Int):Rat)).flatMap qc⟩,⟨x,77,qZ (fs.getD i 0) (sB c) m m⟩,⟨y,77,qZ (fs.getD i 0) (sB c) m m⟩,⟨u,128,[qS e m j]⟩] [];obtain ⟨_,a,p,I,C⟩:=a.pub 0;replace a:=(a.to [⟨x,77,qZ (fs.getD i 0) (sB c) m m⟩,⟨y,77,qZ (fs.getD i 0) (sB c) m m⟩,⟨u,128,[qS e m j]⟩] []).aS (SlO.of_flat (sz:=5) (f:=qc) (d:=0) (b:=c) (o:=0) (l:=((yL m 0)).set i ((1:Int):Rat)) (fun _=>rfl) p);exact a.ret [(1,0,6)] (qY (fs.getD i 0) (sB c) m m) (⟨_,by rw[vW],a.f.1⟩)
theorem Gp (e:Z9)(m c:Nat)(u:m<=1000)(a:Rat)(d:Z9)(f i:Nat)(w:World)(h:Hp)(g:G w h):CV 259 #[.agg #[.slice e m c],qY a d f i] w h (qv a):=by
 have b:=sS g;exact go Tryz.func259 [(0,.agg #[qS e m c]),(1,qY a d f i)] rfl (aD (lA 2 128 ([qS e m c]) b (fun C w2 z b=>lA 3 77 (qZ a d f i) b (fun j x l b=>lA 4 29 ca b (fun B y p b=>aK (lL b [.v (pB j),.o (qX a) 1 0 5] (lP 0 0 (qC a) b (fun _ b=>ah b [(0,0,5)] (qX a) rfl))))))))
theorem nL (j:Z9)(m e:Nat)(O:m<=1000)(K D:Nat)(C:1<=K)(B:K<=1000000)(W:D<=20000000)(a:Rat)(ga:List Rat)(d:Z9)(l:Nat)(F:ga.length=m)(ha:LQ K a)(x:∀ i,LQ D (ga.getD i 0))(hz:a.num≠0)(w:World)(h:Hp)(g:G w h)(y:Sq d ga h)(L:Tab h):CR 261 #[.agg #[.slice j m e],qY a d ga.length l] w h (fun v h1=>∃ J,v=nS ((((1:Int):Rat)/a)) (sB J) ((o0 m).map fun i=>ga.getD i 0*(-((((1:Int):Rat)/a)*(((1:Int):Rat)/a)))).length m/\Sq (sB J) ((o0 m).map fun i=>ga.getD i 0*(-((((1:Int):Rat)/a)*(((1:Int):Rat)/a)))) h1):=by
 have b:=(((sS g).aS y).add (K:=fun Q=>Tab Q) L);refine go Tryz.func261 [(0,.agg #[qS j m e]),(1,qY a d ga.length l)] rfl (aD (lA 2 128 ([qS j m e]) b (fun b1 w2 h3 b=>lA 3 77 (qZ a d ga.length l) b (fun U Z X b=>lA 4 77 ([qF,uV 0,eS,uV 0,eS,sZ]) b (fun b7 w8 Y b=>ag ?_)))));have c:=b;refine cR 8 [⟨7,5,.cells (IL [qF,uV 0,eS,uV 0,eS]) 29 (0,0)⟩] mixed b (be (dE kR (fun _ _=>by kernel_rfl)) ai) (eV 1 10 (pB U) (eO 2 11 [(1,0,5)] (qv a) b (af 0 9 b (fun _ _ b=>mC (1) kD kD _ _ b.g) (fun _ _ b=>?_))));have u:=LQ.div (LQ.lit (z:=1) kD) ha;refine af 3 12 b (fun _ _ b=>Cw ((1:Int):Rat) a (LQ.mono (LQ.lit (z:=1) kD) oM) (LQ.mono ha oM) hz _ _ b.g b.f.1) (fun _ _ b=>eV 4 8 (.tuple #[qv (((1:Int):Rat)/a),qT]) (eV 5 13 (qv (((1:Int):Rat)/a)) (eV 6 14 qT (fi [] c b 29 [qF,uV 0,eS,uV 0,eS] (fun _ _ V b=>tP 8 0 0 (qc (((1:Int):Rat)/a)) b (fun _ b=>tV 9 6 qT (tN (cQ ?_))))))));have c:=b;refine cR 8 [⟨7,7,.cells (IL [qF,uV 0,eS,uV 0,eS,sZ]) 77 (0,0)⟩] mixed b (be (dE kR (fun _ _=>by kernel_rfl)) ai) (eO 0 15 [(3,0,1)] (.agg #[qS j m e]) b (eO 1 16 [(2,0,6)] (qY a d ga.length l) b (eO 2 17 [(0,0,5)] (qv (((1:Int):Rat)/a)) b (eO 3 18 [(0,0,5)] (qv (((1:Int):Rat)/a)) b ?_))));have I:=LQ.mul u u;refine af 4 19 b (fun _ _ b=>dm (((1:Int):Rat)/a) (((1:Int):Rat)/a) (LQ.mono u oM) (LQ.mono u oM) _ _ b.g b.f.1) (fun _ _ b=>?_);have M:LQ ((1+K)+(1+K)) (-((((1:Int):Rat)/a)*(((1:Int):Rat)/a))):=LQ.neg I;refine af 5 20 b (fun _ _ b=>Cz ((((1:Int):Rat)/a)*(((1:Int):Rat)/a)) (LQ.mono I oM) _ _ b.g) (fun _ _ b=>eC 6 21 b (fun _ _ b=>vb j m e O K D C B W a ga d l F ha x (-((((1:Int):Rat)/a)*(((1:Int):Rat)/a))) (2*K+2) oM (LQ.mono M oM) _ _ b.g b.f.2.1 b.f.1) ?_);rintro _ _ _ _ _ b ⟨p,rfl,H⟩;replace b:=b.aS H;exact fi [] c b 77 [qF,uV 0,eS,uV 0,eS,sZ] (fun _ _ S b=>tP 8 0 0 (qZ (a*(-((((1:Int):Rat)/a)*(((1:Int):Rat)/a)))) (sB p) (((o0 m).map fun i=>ga.getD i 0*(-((((1:Int):Rat)/a)*(((1:Int):Rat)/a)))).length) m) b (fun _ b=>tM (lL b [.o (qv (((1:Int):Rat)/a)) 1 0 5,.v (pB S)] (lP 0 0 (qc (((1:Int):Rat)/a)) b (fun _ b=>aK (lL b [.o (qY (((1:Int):Rat)/a) (sB p) (((o0 m).map fun i=>ga.getD i 0*(-((((1:Int):Rat)/a)*(((1:Int):Rat)/a)))).length) m) 0 0 6] (lP 2 0 (qZ (((1:Int):Rat)/a) (sB p) (((o0 m).map fun i=>ga.getD i 0*(-((((1:Int):Rat)/a)*(((1:Int):Rat)/a)))).length) m) b (fun _ b=>ah b [(2,0,6)] (qY (((1:Int):Rat)/a) (sB p) (((o0 m).map fun i=>ga.getD i 0*(-((((1:Int):Rat)/a)*(((1:Int):Rat)/a)))).length) m) (⟨_,rfl,b.f.1⟩)))))))))
theorem ge {f:Nat->Rat}{m i:Nat}(h:i<m):((o0 m).map fun i=>f i).getD i 0=f i:=by simp[h]
theorem nK {f:Nat->Rat}{m i:Nat}(h:m<=i):((o0 m).map fun i=>f i).getD i 0=0:=cP (by simp;exact h)
theorem ke {f:Nat->Rat}{m K:Nat}(h:∀ i,LQ K (f i))(a:1<=K)(j:Nat):LQ K (((o0 m).map fun i=>f i).getD j 0):=C7 a h j
theorem dY (i:Nat):([]:List Rat).getD i 0=0:=by simp
theorem dV (m i:Nat):(yL m (0:Rat)).getD i 0=0:=j7 i
section
variable {m:Nat}{op n:Int}{a b:Rat}{ga gb:List Rat}{f:Nat->Rat}
theorem iu (h:∀ i,i<m->f i=DB op n a b*ga.getD i 0+DM op a b*gb.getD i 0):((o0 m).map fun i=>f i)=jJ m op n a b ga gb:=by
 unfold jJ
 exact Jv fun i hi=>h i (pa.1 hi)
theorem f5 {G:List Rat}(c:G.length=m)(h:∀ i,i<m->G.getD i 0=DB op n a b*ga.getD i 0+DM op a b*gb.getD i 0):G=jJ m op n a b ga gb:=by
 refine i8 (c.trans duG_len.symm) fun i=>?_
 by_cases hi:i<m
 ·rw[h i hi];unfold jJ;rw[ge hi]
 ·rw[cP oM,cP (by rw[duG_len];omega)]
theorem bE (h1:op=6->b≠0)(f:op=8->n<0->a≠0)(e:(op=9\/op=10)->a≠0)(h:(op=12\/op=13)->a≠b):cc op n a b=0:=by
 unfold cc
 rw[if_pos ⟨h1,f⟩,if_neg];rintro (⟨d,c⟩|⟨d,c⟩)
 ·exact e d c
 ·exact h d c
theorem re (h:(op=6/\b=0)\/(op=8/\n<0/\a=0)):cc op n a b=6:=if_neg (fun k=>by
 rcases h with ⟨h1,h2⟩|⟨h1,h2,h3⟩
 ·exact k.1 h1 h2
 ·exact k.2 h1 h2 h3)
theorem r6 (h:(op=9\/op=10)/\a=0\/(op=12\/op=13)/\a=b):cc op n a b=7:=by
 unfold cc
 rw[if_pos ⟨fun e=>by omega,fun e=>by omega⟩,if_pos (show FH op a b from h)]
end
section
variable {m:Nat}{n:Int}{a:Rat}{ga:List Rat}
theorem HC:a*((-1:Int):Rat)=lp 7 n 0 a 0/\((o0 m).map fun i=>ga.getD i 0*((-1:Int):Rat))=jJ m 7 n a 0 ga []:=by
 refine ⟨?_,iu fun i _=>?_⟩
 ·show a*((-1:Int):Rat) = -a
  rw[r8];grind
 ·rw[dY]
  show ga.getD i 0*((-1:Int):Rat) = -((1:Int):Rat)*ga.getD i 0+0*0
  rw[r8,i1];grind
theorem Hb {a:Rat}(h:0<a.num.sign):0<a:=m8.1 h
theorem Gz {a:Rat}(h:a.num.sign<0):a<0:=by
 have:a.num<0:=Jx.1 (by have:=Jy a.num;omega);rw[<-Jz,<-JA];omega
theorem oz {a:Rat}(h:a.num.sign=0):a=0:=Jn.1 (Jp.1 h)
theorem dI {a:Rat}(h:a.num.sign≠0):a≠0:=fun e=>h (by rw[e];rfl)
theorem rc {a:Rat}(h:a≠0):a.num≠0:=fun e=>h (Jn.1 e)
theorem vF {a:Rat}(h:0<a.num.sign):a.num.sign=1:=by have:=Jy a.num;omega
theorem mG {a:Rat}(h:a.num.sign<0):a.num.sign = -1:=by have:=Jy a.num;omega
theorem Ha {op:Int}(c:op=9\/op=10)(b:ga.length=m)(h:0<a.num.sign):a=lp op n 0 a 0/\ga=jJ m op n a 0 ga []:=by
 have p:=Hb h
 rcases c with rfl|rfl
 ·refine ⟨?_,f5 b fun i _=>?_⟩
  ·show a=cv a
   unfold cv;rw[if_neg (by have:=vF h;have:=Int.sign_eq_one_iff_pos.1 this;omega)]
  ·rw[dY]
   show ga.getD i 0=((a.num.sign:Int):Rat)*ga.getD i 0+0*0
   rw[vF h,i1];grind
 ·refine ⟨?_,f5 b fun i _=>?_⟩
  ·show a=maxR a 0
   unfold maxR;split
   ·grind
   ·rfl
  ·rw[dY]
   show ga.getD i 0=((max a.num.sign 0:Int):Rat)*ga.getD i 0+0*0
   rw[vF h,show max (1:Int) 0=1 from rfl,i1];grind
theorem Hs (h:a.num.sign<0):a*((-1:Int):Rat)=lp 9 n 0 a 0/\((o0 m).map fun i=>ga.getD i 0*((-1:Int):Rat))=jJ m 9 n a 0 ga []:=by
 refine ⟨?_,iu fun i _=>?_⟩
 ·show _=cv a
  unfold cv;rw[if_pos (by have:=Jx.1 (mG h);omega),r8];grind
 ·rw[dY]
  show ga.getD i 0*((-1:Int):Rat)=((a.num.sign:Int):Rat)*ga.getD i 0+0*0
  rw[mG h,r8];grind
theorem GI (h:a.num.sign<0):(0:Rat)=lp 10 n 0 a 0/\yL m (0:Rat)=jJ m 10 n a 0 ga []:=by
 have p:=Gz h;refine ⟨?_,f5 Jw fun i _=>?_⟩
 ·show (0:Rat)=maxR a 0
  unfold maxR;split
  ·rfl
  ·grind
 ·rw[dY,dV]
  show (0:Rat)=((max a.num.sign 0:Int):Rat)*ga.getD i 0+0*0
  rw[mG h,show max (-1:Int) 0=0 from rfl,i0];grind
theorem AS {x:Rat}{a b:List Rat}{k:Nat}(d:a.length=m)(c:∀ i,b.getD i 0=((k:Int):Rat)*bU x (k-1)*a.getD i 0)(i:Nat) :
  ((o0 m).map fun i=>b.getD i 0*x+bU x k*a.getD i 0).getD i 0=(((k+1:Nat):Int):Rat)*bU x (k+1-1)*a.getD i 0:=by
 by_cases hi:i<m
 ·rw[ge hi,c i]
  have e:(((k+1:Nat):Int):Rat)=((k:Int):Rat)+1:=by push_cast;rfl
  have e2:((k:Int):Rat)*bU x (k-1)*x=((k:Int):Rat)*bU x k:=by
   cases k with
   | zero=>show ((0:Int):Rat)*_*_=((0:Int):Rat)*_;rw[i0];grind
   | succ k=>show _*bU _ k*_=_*(bU _ k*_);grind
  rw[e]
  show _=(((k:Int):Rat)+1)*bU x k*a.getD i 0
  grind
 ·rw[nK oM,cP (show a.length<=i by omega)];grind
theorem GZ (f:0<=n){b:List Rat}{k:Nat}(hk:k=n.natAbs)(d:b.length=m)(c:∀ i,b.getD i 0=((k:Int):Rat)*bU a (k-1)*ga.getD i 0):bU a k=lp 8 n 0 a 0/\b=jJ m 8 n a 0 ga []:=by
 refine ⟨?_,f5 d fun i _=>?_⟩
 ·show _=fl a n
  unfold fl;rw[if_pos f,hk]
 ·rw[dY,c i]
  show _=(if n=0 then (0:Rat) else fl a (n-1)*((n:Int):Rat))*ga.getD i 0+0*0
  by_cases h0:n=0
  ·subst h0;subst hk;rw[if_pos rfl];show ((0:Int):Rat)*_*_=_;rw[i0];grind
  ·rw[if_neg h0]
   have e:fl a (n-1)=bU a (k-1):=by unfold fl;rw[if_pos oM,show (n-1).natAbs=k-1 by omega]
   rw[e,show ((k:Nat):Int)=n by omega];grind
theorem xk {a:Rat}(h:a≠0):∀ k,bU (((1:Int):Rat)/a) k=((1:Int):Rat)/bU a k
  | 0=>by show ((1:Int):Rat)=((1:Int):Rat)/((1:Int):Rat);rw[i1];grind
  | k+1=>by
    show bU (((1:Int):Rat)/a) k*(((1:Int):Rat)/a)=((1:Int):Rat)/(bU a k*a)
    have:=jQ h k;rw[xk h k,i1];grind
theorem Hf (l:n<0)(ha:a≠0){c b:List Rat}{k:Nat}(hk:k=n.natAbs)(f:b.length=m)(d:c=(o0 m).map fun i=>ga.getD i 0*(-((((1:Int):Rat)/a)*(((1:Int):Rat)/a))))(h:∀ i,b.getD i 0=((k:Int):Rat)*bU (((1:Int):Rat)/a) (k-1)*c.getD i 0):bU (((1:Int):Rat)/a) k=lp 8 n 0 a 0/\b=jJ m 8 n a 0 ga []:=by
 obtain ⟨j,rfl⟩:∃ j,k=j+1:=⟨k-1,by omega⟩;have o:=jQ ha j;refine ⟨?_,f5 f fun i hi=>?_⟩
 ·show _=fl a n
  unfold fl;rw[if_neg oM,xk ha,hk]
 ·rw[dY,h i,d,ge hi]
  show _=(if n=0 then (0:Rat) else fl a (n-1)*((n:Int):Rat))*ga.getD i 0+0*0
  rw[if_neg oM]
  have e:fl a (n-1)=((1:Int):Rat)/(bU a j*a*a):=by
   unfold fl;rw[if_neg oM,show (n-1).natAbs=j+2 by omega];rfl
  have e2:((n:Int):Rat) = -(((j+1:Nat):Int):Rat):=by rw[show n = -((j+1:Nat):Int) by omega,JB]
  rw[e,e2,show j+1-1=j from rfl,xk ha,i1]
  grind
theorem GN {s:Rat}{f:List Rat}(l:s=cv a)(j:∀ i,i<m->f.getD i 0=(if a.num.sign<0 then ga.getD i 0*((-1:Int):Rat) else ga.getD i 0)) :
  a*(((1:Int):Rat)/(s+((1:Int):Rat)))=lp 11 n 0 a 0/\((o0 m).map fun i=>ga.getD i 0*(((1:Int):Rat)/(s+((1:Int):Rat)))+a*((o0 m).map fun i=>((o0 m).map fun i=>f.getD i 0+(yL m (0:Rat)).getD i 0).getD i 0*(-((((1:Int):Rat)/(s+((1:Int):Rat)))*(((1:Int):Rat)/(s+((1:Int):Rat)))))).getD i 0)=jJ m 11 n a 0 ga []:=by
 have o:0<=cv a:=by
  unfold cv;split
  ·rename_i h
   have:a<0:=by rw[<-Jz,<-JA];omega
   grind
  ·rename_i h;exact JA.1 oM
 have b:cv a+1≠0:=by grind
 subst l;refine ⟨?_,iu fun i hi=>?_⟩
 ·show _=a/(cv a+((1:Int):Rat))
  rw[i1];grind
 ·rw[dY,ge hi,ge hi,dV,j i hi]
  show _=(((1:Int):Rat)/(((1:Int):Rat)+cv a))*(((1:Int):Rat)/(((1:Int):Rat)+cv a))*ga.getD i 0+0*0
  have e:((1:Int):Rat)+cv a=cv a+((1:Int):Rat):=Rat.add_comm _ _;rw[e]
  by_cases c:a.num.sign<0
  ·rw[if_pos c]
   have d:cv a = -a:=by unfold cv;rw[if_pos (by have:=Jx.1 (mG c);omega)]
   rw[d] at b ⊢
   rw[i1,r8];grind
  ·rw[if_neg c]
   have d:cv a=a:=by unfold cv;rw[if_neg (fun h=>c (by have:=Jx.2 h;omega))]
   rw[d] at b ⊢
   rw[i1];grind
end
section
variable {m:Nat}{n:Int}{a b:Rat}{ga gb:List Rat}
theorem HO:((o0 m).map fun i=>ga.getD i 0+gb.getD i 0)=jJ m 3 n a b ga gb:=iu fun i _=>by
 show _=((1:Int):Rat)*ga.getD i 0+((1:Int):Rat)*gb.getD i 0
 rw[i1];grind
theorem HK:a+b*((-1:Int):Rat)=lp 4 n 0 a b/\((o0 m).map fun i=>ga.getD i 0+((o0 m).map fun i=>gb.getD i 0*((-1:Int):Rat)).getD i 0)=jJ m 4 n a b ga gb:=by
 refine ⟨?_,iu fun i hi=>?_⟩
 ·show _=a-b
  rw[r8];grind
 ·rw[ge hi]
  show _=((1:Int):Rat)*ga.getD i 0 + -((1:Int):Rat)*gb.getD i 0
  rw[i1,r8];grind
theorem HM:((o0 m).map fun i=>ga.getD i 0*b+a*gb.getD i 0)=jJ m 5 n a b ga gb:=iu fun i _=>by
 show _=b*ga.getD i 0+a*gb.getD i 0
 grind
theorem Hx (h:b≠0):a*(((1:Int):Rat)/b)=lp 6 n 0 a b/\((o0 m).map fun i=>ga.getD i 0*(((1:Int):Rat)/b)+a*((o0 m).map fun i=>gb.getD i 0*(-((((1:Int):Rat)/b)*(((1:Int):Rat)/b)))).getD i 0)=jJ m 6 n a b ga gb:=by
 refine ⟨?_,iu fun i hi=>?_⟩
 ·show _=a/b
  rw[i1];grind
 ·rw[ge hi]
  show _=((1:Int):Rat)/b*ga.getD i 0 + -(a*(((1:Int):Rat)/b)*(((1:Int):Rat)/b))*gb.getD i 0
  rw[i1];grind
theorem Cg {op:Int}(d:ga.length=m)(h:op=12/\b<a\/op=13/\a<b):a=lp op n 0 a b/\ga=jJ m op n a b ga gb:=by
 rcases h with ⟨rfl,h⟩|⟨rfl,h⟩
 ·refine ⟨?_,f5 d fun i _=>?_⟩
  ·show a=maxR a b
   unfold maxR;rw[if_neg (by grind)]
  ·show _=(if b<a then ((1:Int):Rat) else 0)*_+(if b<a then (0:Rat) else ((1:Int):Rat))*_
   rw[if_pos h,if_pos h,i1];grind
 ·have c:¬b<a:=by grind
  refine ⟨?_,f5 d fun i _=>?_⟩
  ·show a=oG a b
   unfold oG;rw[if_neg c]
  ·show _=(if b<a then (0:Rat) else ((1:Int):Rat))*_+(if b<a then ((1:Int):Rat) else 0)*_
   rw[if_neg c,if_neg c,i1];grind
theorem Ch {op:Int}(c:gb.length=m)(h:op=12/\a<b\/op=13/\b<a):b=lp op n 0 a b/\gb=jJ m op n a b ga gb:=by
 rcases h with ⟨rfl,h⟩|⟨rfl,h⟩
 ·have d:¬b<a:=by grind
  refine ⟨?_,f5 c fun i _=>?_⟩
  ·show b=maxR a b
   unfold maxR;rw[if_pos h]
  ·show _=(if b<a then ((1:Int):Rat) else 0)*_+(if b<a then (0:Rat) else ((1:Int):Rat))*_
   rw[if_neg d,if_neg d,i1];grind
 ·refine ⟨?_,f5 c fun i _=>?_⟩
  ·show b=oG a b
   unfold oG;rw[if_pos h]
  ·show _=(if b<a then (0:Rat) else ((1:Int):Rat))*_+(if b<a then ((1:Int):Rat) else 0)*_
   rw[if_pos h,if_pos h,i1];grind
end
def ez (a b:List Rat)(i:Nat):Nat->Rat
  | 0=>0
  | j+1=>ez a b i j+a.getD j 0*b.getD (i-j) 0
def bx (m:Nat)(q:Rat):List Rat:=(yL m (0:Rat)).set 0 q
def gk (m:Nat)(x y:Rat):List Rat:=if 1<m then (bx m x).set 1 y else bx m x
def de (m:Nat)(a b:List Rat):List Rat:=(o0 m).map fun i=>ez a b i (i+1)
def fH (a:List Rat)(m:Nat):Nat->List Rat
  | 0=>yL m 0
  | i+1=>(fH a m i).set i (if i=0 then ((1:Int):Rat)/a.getD 0 0 else -(ez (fH a m i) a i i*(fH a m i).getD 0 0))
def bC (m:Nat)(a:List Rat):List Rat:=fH a m m
theorem dt (m:Nat)(q:Rat):(bx m q).length=m:=by simp[bx]
theorem kg (m:Nat)(x y:Rat):(gk m x y).length=m:=by unfold gk;split<;>simp[bx]
theorem gu (m:Nat)(a b:List Rat):(de m a b).length=m:=by simp[de]
theorem ee (a:List Rat)(m:Nat):∀ k,(fH a m k).length=m
 | 0=>by simp[fH]
 | k+1=>by unfold fH;rw[Ic];exact ee a m k
theorem fk (m:Nat)(a:List Rat):(bC m a).length=m:=ee a m m
theorem qj {m:Nat}(h:0<m)(q:Rat):(bx m q).getD 0 0=q:=by
 unfold bx;rw[bK (by simpa using h),if_pos rfl]
theorem v6 {m i:Nat}(q:Rat)(h:i≠0):(bx m q).getD i 0=0:=by
 unfold bx
 by_cases hm:0<m
 ·rw[bK (by simpa using hm),if_neg h,dV]
 ·rw[JC (by simp;omega),dV]
theorem CE {m:Nat}(x y:Rat)(h:1<m):(bx m x).set 1 y=gk m x y:=by unfold gk;rw[if_pos h]
theorem D8 {m:Nat}(x y:Rat)(h:¬1<m):bx m x=gk m x y:=by unfold gk;rw[if_neg h]
theorem BX {m i:Nat}(a b:List Rat)(h:i<m):(de m a b).getD i 0=ez a b i (i+1):=ge h
theorem ug {m i:Nat}(a b:List Rat)(h:m<=i):(de m a b).getD i 0=0:=nK h
section
variable {a b:List Rat}{m i j k:Nat}
theorem wq {f:Nat->Rat}(h:i<m):(dk f m k).getD i 0=if i<k then f i else 0:=ge h
theorem jA (f:Nat->Rat)(m k:Nat):(dk f m k).length=m:=by simp[dk]
theorem sY {l:List Rat}(h:i<l.length)(e:l.getD i 0=0):l=l.set i 0:=by
 refine i8 (by simp) fun t=>?_
 rw[bK h]
 split
 ·rename_i e2;subst e2;exact e
 ·rfl
theorem Ew (h:i<m):dk (fun i=>ez a b i (i+1)) m i=(dk (fun i=>ez a b i (i+1)) m i).set i (ez a b i 0) :=
 sY (by rw[jA];exact h) (by rw[wq h,if_neg (Jf i)])
theorem C5 {S:List Rat}(c:S.length=m)(h:i<m):(S.set i (ez a b i j)).set i ((S.set i (ez a b i j)).getD i 0+a.getD j 0*b.getD (i-j) 0)=S.set i (ez a b i (j+1)):=by
 rw[List.set_set,bK oM,if_pos rfl];rfl
theorem C4 {S:List Rat}(a:S.length=m)(h:i<m)(c:Rat):(S.set i c).getD i 0=c:=by rw[bK oM,if_pos rfl]
theorem xK (h:i<m)(e:j=i+1):(dk (fun i=>ez a b i (i+1)) m i).set i (ez a b i j)=dk (fun i=>ez a b i (i+1)) m (i+1):=by
 subst e;exact eW (f:=fun i=>ez a b i (i+1)) h
theorem Ao:dk (fun i=>ez a b i (i+1)) m m=de m a b:=eN _ _
theorem wR (h:1<=i):(fH a m i).set i (-(ez (fH a m i) a i i*(fH a m i).getD 0 0))=fH a m (i+1):=by
 show _=(fH a m i).set i (if i=0 then _ else _)
 rw[if_neg oM]
theorem iS (hk:k<=m):∀ {n},k<=n->i<k->(fH a m n).getD i 0=(fH a m k).getD i 0
  | n,hn,hi=>by
    obtain ⟨e,rfl⟩:∃ e,n=k+e:=⟨n-k,by omega⟩
    induction e with
    | zero=>rfl
    | succ e ih =>
      rw[<-ih oM]
      show ((fH a m (k+e)).set (k+e) _).getD i 0=_
      by_cases hm:k+e<m
      . rw[bK (by rw[ee];exact hm),if_neg oM]
      . rw[JC (by rw[ee];omega)]
theorem pE:∀ {k},k<=i->(fH a m k).getD i 0=0
  | 0,_=>dV m i
  | k+1,h=>by
    show ((fH a m k).set k _).getD i 0=0
    by_cases hm:k<m
    . rw[bK (by rw[ee];exact hm),if_neg oM];exact pE oM
    . rw[JC (by rw[ee];omega)];exact pE oM
theorem Ac {K:Nat}(b:1<=K)(h:∀ i,LQ K ((bC m a).getD i 0))(hk:k<=m)(i:Nat):LQ K ((fH a m k).getD i 0):=by
 by_cases hi:i<k
 ·rw[<-iS hk hk hi];exact h i
 ·rw[pE oM];exact jf b
end
def cV (m:Nat)(a b:List Rat):List Rat:=(o0 m).map fun i=>a.getD i 0+b.getD i 0
def cY (m:Nat)(a:List Rat)(k:Rat):List Rat:=(o0 m).map fun i=>a.getD i 0*k
theorem gB (m:Nat)(a b:List Rat):(cV m a b).length=m:=by simp[cV]
theorem gm (m:Nat)(a:List Rat)(k:Rat):(cY m a k).length=m:=by simp[cY]
theorem rz {m i:Nat}(a b:List Rat)(h:i<m):(cV m a b).getD i 0=a.getD i 0+b.getD i 0:=ge h
theorem rk {m i:Nat}(a:List Rat)(k:Rat)(h:i<m):(cY m a k).getD i 0=a.getD i 0*k:=ge h
theorem mj {a b c:List Rat}{i:Nat}:∀ j,(∀ t,t<j->a.getD t 0=c.getD t 0)->ez a b i j=ez c b i j
  | 0,_=>rfl
  | j+1,h=>by
    show ez a b i j+a.getD j 0*_=ez c b i j+c.getD j 0*_
    rw[mj j (fun t d=>h t oM),h j (JD j)]
theorem qL {a:List Rat}{m i j:Nat}(c:j<=i)(hi:i<=m):ez (fH a m i) a i j=ez (bC m a) a i j :=
 mj j fun t b=>(iS hi hi oM).symm
theorem oH (x:Z9)(z e:Nat)(u:Z9)(B p:Nat)(n:Nat)(U:n<=12)(q:Rat)(hk:Hp)(w:World)(h:Hp)(g:G w h)(hz:hk.size<=h.size):CR 255 #[.agg #[.slice x z e,.slice u B p,nV n],qv q] w h (fun v h1=>∃ H,v=.slice (sB H) (n+1) (n+1)/\Nw hk.size h1 H 29 ((bx (n+1) q).flatMap qc)):=by
 have a:=sS g;have J:(yL (n+1) (0:Rat)).length=n+1:=Jw;refine go Tryz.func255 [(0,.agg #[qS x z e,qS u B p,nV n]),(1,qv q)] rfl (aD (lA 2 112 ([qS x z e,qS u B p,nV n]) a (fun D w2 S a=>lA 3 29 (qc q) a (fun F O L a=>lL a ae (aK (lL a [.v (qP D 2),.o (nV n) 1 2 1] (bB 8 ((n:Nat)+1) (n+1) ?_)))))));refine lK 9 29 (n+1) 5 56 eb qc 0 a (fun C Q M a=>?_);have K:(yL (n+1) (0:Rat)).length=(n+1):=by simp
 refine lL a ae (aK (lL a [.c,.o (qv q) 1 0 5] (lX 12 (sB C) (n+1) (n+1) 5 0 0 rfl ?_)));refine lW 0 (yL (n+1) (0:Rat)) qc 5 0 q a oM (fun _ a=>?_);have I:((yL (n+1) (0:Rat)).set 0 q).length=(n+1):=by rw[Ic];exact K
 replace a:=a.to [⟨C,29,((yL (n+1) (0:Rat)).set 0 q).flatMap qc⟩,⟨F,29,qc q⟩,⟨D,112,[qS x z e,qS u B p,nV n]⟩] [];refine aK (lL a aE (lN (kX ?_)));obtain ⟨_,a,y,i,j⟩:=a.pub 0;replace a:=(a.to [⟨F,29,qc q⟩,⟨D,112,[qS x z e,qS u B p,nV n]⟩] []).aS (SlO.of_flat (sz:=5) (f:=qc) (d:=0) (b:=C) (o:=0) (l:=(yL (n+1) (0:Rat)).set 0 q) (fun _=>rfl) y);exact a.ret [] (qS (sB C) (n+1) (n+1)) (⟨_,rfl,e4 hz i,by decide,j⟩)
theorem eP (p:Z9)(x a:Nat)(j:Z9)(y c:Nat)(n:Nat)(C:n<=12)(q:Rat)(w:World)(h:Hp)(g:G w h):Calls Tryz.prog 255 #[.agg #[.slice p x a,.slice j y c,nV n],qv q] w (Ret w h (fun v h1=>∃ i,v=.slice (sB i) (bx (n+1) q).length (n+1)/\Sq (sB i) (bx (n+1) q) h1)) :=
 (oH p x a j y c n C q h w h g (nR _)).mono fun e w' ⟨v,B,e1,u,b,e2,z⟩=>⟨v,B,e1,u,b,by rw[dt];exact e2,SlO.of_flat (sz:=5) (f:=qc) (d:=0) (b:=b) (o:=0) (l:=bx (n+1) q) (fun _=>rfl) z.seg0⟩
theorem F9 (C:Z9)(D u:Nat)(B:Z9)(F z:Nat)(n:Nat)(hn:n<=12)(j:List Rat)(y:Z9)(S:Nat)(hla:j.length=n+1)(H:∀ i,LQ 39500000 (j.getD i 0))(e:List Rat)(x:Z9)(J:Nat)(hlb:e.length=n+1)(O:∀ i,LQ 39500000 (e.getD i 0))(w:World)(h:Hp)(g:G w h)(V:Sq y j h)(hSb:Sq x e h)(tb:Tab h):CR 250 #[.agg #[.slice C D u,.slice B F z,nV n],.slice y j.length S,.slice x e.length J] w h (fun v h1=>∃ bk,v=.slice (sB bk) (cV (n+1) j e).length (n+1)/\Sq (sB bk) (cV (n+1) j e) h1):=by
 have a:=((((sS g).aS V).aS hSb).add (K:=fun I=>Tab I) tb);refine go Tryz.func250 [(0,.agg #[qS C D u,qS B F z,nV n]),(1,qS y j.length S),(2,qS x e.length J)] rfl (aD (lA 3 112 ([qS C D u,qS B F z,nV n]) a (fun Q w2 h3 a=>lL a ae (aK (lL a [.v (qP Q 2),.o (nV n) 0 2 1] (bB 11 ((n:Nat)+1) (n+1) ?_))))));refine lK 12 29 (n+1) 5 56 eb qc 0 a (fun p w5 h6 a=>?_);have hl7:(yL (n+1) 0).length=(n+1):=by simp
 refine lL a ae (ag (ab a [.c,.v (nV (n+1)),.c] (a7 ?_)));refine bY _ (CG.loop (fun X Γ w_=>∃ (k:Nat)(L:List Rat)(I:Hp),X=n+1-k/\Γ=[(1,qS y j.length S),(2,qS x e.length J),(6,sZ),(7,qS (sB p) (n+1) (n+1)),(14,nV (n+1)),(15,nV k)]/\SS w h w_ I [⟨p,29,(L).flatMap qc⟩,⟨Q,112,[qS C D u,qS B F z,nV n]⟩] [] [fun I=>Tab I,Sq x e,Sq y j]/\k<=n+1/\L.length=n+1/\L=dk (fun i=>j.getD i 0+e.getD i 0) (n+1) k) _ ⟨0,(yL (n+1) (0:Rat)),h6,rfl,rfl,a.to _ _,In _,Jw,(gL _ _)⟩ ?_);rintro _ _ w8 ⟨k,L,h9,bl,rfl,a,hk,W,Z⟩;refine aD ?_;cases U:(decide ((k:Int)<(((n+1):Nat):Int)))
 .
  have zb:=oF U;refine lB 16 U (ag (cD (CG.exit ?_)))
  show CG _ _ _ _ _ _ _ _
  refine ab a aE (lN (kX ?_));have Y:k=n+1:=by omega
  rw[Y,eN] at Z
  subst Z;replace a:=a.to [⟨p,29,(((o0 (n+1)).map fun i=>j.getD i 0+e.getD i 0)).flatMap qc⟩,⟨Q,112,[qS C D u,qS B F z,nV n]⟩] [];obtain ⟨_,a,M,bb,bf⟩:=a.pub 0;replace a:=(a.to [⟨Q,112,[qS C D u,qS B F z,nV n]⟩] []).aS (SlO.of_flat (sz:=5) (f:=qc) (d:=0) (b:=p) (o:=0) (l:=((o0 (n+1)).map fun i=>j.getD i 0+e.getD i 0)) (fun _=>rfl) M);exact a.ret [] (qS (sB p) (n+1) (n+1)) (⟨_,by rw[gB],a.f.1⟩)
 have zb:=oT U;refine lB 16 U (ag (bZ (cK (cQ (kZ (ab a aE (lN (cR 11 [] mixed a ai ?_))))))));refine eV 0 18 (qS (sB p) (n+1) (n+1)) (eV 1 19 (nV k) (eV 2 20 (qS y j.length S) (eV 3 21 (nV k) (eX 4 22 y j.length S 5 (k:Nat) k ((a.f.r.1).ok oM) (eH 5 23 (qv (j.getD k 0)) a ((a.f.r.1).el k oM) (eV 6 24 (qS x e.length J) (eV 7 25 (nV k) (eX 8 26 x e.length J 5 (k:Nat) k ((a.f.2.1).ok oM) (eH 9 27 (qv (e.getD k 0)) a ((a.f.2.1).el k oM) ?_)))))))));have bd:=LQ.add (H k) (O k);refine af 10 28 a (fun _ _ a=>gh (j.getD k 0) (e.getD k 0) (LQ.mono (H k) oM) (LQ.mono (O k) oM) _ _ a.g a.f.1) (fun _ _ a=>bA a (fun _ zd a=>tX 11 29 (sB p) (n+1) (n+1) 5 (k:Nat) k rfl (tW 12 0 L qc 5 k ((j.getD k 0)+(e.getD k 0)) a oM (fun _ a=>?_))));have zc:((L).set k ((j.getD k 0)+(e.getD k 0))).length=(n+1):=by rw[Ic];exact W
 replace a:=a.to [⟨p,29,((L).set k ((j.getD k 0)+(e.getD k 0))).flatMap qc⟩,⟨Q,112,[qS C D u,qS B F z,nV n]⟩] [];refine tN (kQ (bB 30 ((k:Nat)+1) (k+1) ?_));refine lL a ae (lD ?_);intro a_ ka;refine ⟨_,_,?_,⟨k+1,(L).set k ((j.getD k 0)+(e.getD k 0)),zd,rfl,rfl,a.to _ _,oM,zc,(by rw[Z];exact eW oM)⟩,ka.to _ kR⟩
 omega
theorem xM (B:Z9)(C u:Nat)(z:Z9)(D y:Nat)(n:Nat)(hn:n<=12)(e:List Rat)(x:Z9)(Q:Nat)(hla:e.length=n+1)(H:∀ i,LQ 39500000 (e.getD i 0))(j:Rat)(M:LQ 1 j)(w:World)(h:Hp)(g:G w h)(U:Sq x e h)(tb:Tab h):CR 256 #[.agg #[.slice B C u,.slice z D y,nV n],.slice x e.length Q,qv j] w h (fun v h1=>∃ bk,v=.slice (sB bk) (cY (n+1) e j).length (n+1)/\Sq (sB bk) (cY (n+1) e j) h1):=by
 have a:=(((sS g).aS U).add (K:=fun I=>Tab I) tb);refine go Tryz.func256 [(0,.agg #[qS B C u,qS z D y,nV n]),(1,qS x e.length Q),(2,qv j)] rfl (aD (lA 3 112 ([qS B C u,qS z D y,nV n]) a (fun O w2 h3 a=>lA 5 29 (qc j) a (fun J w5 h6 a=>lL a ae (aK (lL a [.v (qP O 2),.o (nV n) 1 2 1] (bB 11 ((n:Nat)+1) (n+1) ?_)))))));refine lK 12 29 (n+1) 5 56 eb qc 0 a (fun p w8 h9 a=>?_);have bf:(yL (n+1) 0).length=(n+1):=by simp
 refine lL a ae (ag (ab a [.c,.v (nV (n+1)),.c] (a7 ?_)));refine bY _ (CG.loop (fun W Γ w_=>∃ (k:Nat)(L:List Rat)(I:Hp),W=n+1-k/\Γ=[(1,qS x e.length Q),(5,pB J),(6,sZ),(7,qS (sB p) (n+1) (n+1)),(14,nV (n+1)),(15,nV k)]/\SS w h w_ I [⟨p,29,(L).flatMap qc⟩,⟨J,29,qc j⟩,⟨O,112,[qS B C u,qS z D y,nV n]⟩] [] [fun I=>Tab I,Sq x e]/\k<=n+1/\L.length=n+1/\L=dk (fun i=>e.getD i 0*j) (n+1) k) _ ⟨0,(yL (n+1) (0:Rat)),h9,rfl,rfl,a.to _ _,In _,Jw,(gL _ _)⟩ ?_);rintro _ _ _ ⟨k,L,_,bl,rfl,a,hk,V,Y⟩;refine aD ?_;cases S:(decide ((k:Int)<(((n+1):Nat):Int)))
 .
  have zb:=oF S;refine lB 16 S (ag (cD (CG.exit ?_)))
  show CG _ _ _ _ _ _ _ _
  refine ab a aE (lN (kX ?_));have X:k=n+1:=by omega
  rw[X,eN] at Y
  subst Y;replace a:=a.to [⟨p,29,(((o0 (n+1)).map fun i=>e.getD i 0*j)).flatMap qc⟩,⟨J,29,qc j⟩,⟨O,112,[qS B C u,qS z D y,nV n]⟩] [];obtain ⟨_,a,F,bd,bb⟩:=a.pub 0;replace a:=(a.to [⟨J,29,qc j⟩,⟨O,112,[qS B C u,qS z D y,nV n]⟩] []).aS (SlO.of_flat (sz:=5) (f:=qc) (d:=0) (b:=p) (o:=0) (l:=((o0 (n+1)).map fun i=>e.getD i 0*j)) (fun _=>rfl) F);exact a.ret [] (qS (sB p) (n+1) (n+1)) (⟨_,by rw[gm],a.f.1⟩)
 have zb:=oT S;refine lB 16 S (ag (bZ (cK (cQ (kZ (ab a aE (lN (cR 8 [] mixed a ai ?_))))))));refine eV 0 18 (qS (sB p) (n+1) (n+1)) (eV 1 19 (nV k) (eV 2 20 (qS x e.length Q) (eV 3 21 (nV k) (eX 4 22 x e.length Q 5 (k:Nat) k ((a.f.2.1).ok oM) (eH 5 23 (qv (e.getD k 0)) a ((a.f.2.1).el k oM) (eO 6 24 [(1,0,5)] (qv j) a ?_))))));have Z:=LQ.mul (H k) M;refine af 7 25 a (fun _ _ a=>dm (e.getD k 0) j (LQ.mono (H k) oM) (LQ.mono M oM) _ _ a.g a.f.1) (fun _ _ a=>bA a (fun _ zd a=>tX 8 26 (sB p) (n+1) (n+1) 5 (k:Nat) k rfl (tW 9 0 L qc 5 k ((e.getD k 0)*j) a oM (fun _ a=>?_))));have zc:((L).set k ((e.getD k 0)*j)).length=(n+1):=by rw[Ic];exact V
 replace a:=a.to [⟨p,29,((L).set k ((e.getD k 0)*j)).flatMap qc⟩,⟨J,29,qc j⟩,⟨O,112,[qS B C u,qS z D y,nV n]⟩] [];refine tN (kQ (bB 27 ((k:Nat)+1) (k+1) ?_));refine lL a ae (lD ?_);intro a_ ka;refine ⟨_,_,?_,⟨k+1,(L).set k ((e.getD k 0)*j),zd,rfl,rfl,a.to _ _,oM,zc,(by rw[Y];exact eW oM)⟩,ka.to _ kR⟩
 omega
theorem FX (J:Z9)(M C:Nat)(H:Z9)(I F:Nat)(n:Nat)(hn:n<=12)(p:List Rat)(z:Z9)(V:Nat)(hla:p.length=n+1)(W:∀ i,LQ 39500000 (p.getD i 0))(e:List Rat)(y:Z9)(S:Nat)(hlb:e.length=n+1)(Y:∀ i,LQ 39500000 (e.getD i 0))(hcv:∀ i j,i<=n->j<=i+1->LQ 39500000 (ez p e i j))(w:World)(h:Hp)(g:G w h)(hSa:Sq z p h)(hSb:Sq y e h)(tb:Tab h):CR 254 #[.agg #[.slice J M C,.slice H I F,nV n],.slice z p.length V,.slice y e.length S] w h (fun v h1=>∃ bk,v=.slice (sB bk) (de (n+1) p e).length (n+1)/\Sq (sB bk) (de (n+1) p e) h1):=by
 have a:=((((sS g).aS hSa).aS hSb).add (K:=fun B=>Tab B) tb);refine go Tryz.func254 [(0,.agg #[qS J M C,qS H I F,nV n]),(1,qS z p.length V),(2,qS y e.length S)] rfl (aD (lA 3 112 ([qS J M C,qS H I F,nV n]) a (fun U w2 h3 a=>lL a ae (aK (lL a [.v (qP U 2),.o (nV n) 0 2 1] (bB 12 ((n:Nat)+1) (n+1) ?_))))));refine lK 13 29 (n+1) 5 56 eb qc 0 a (fun x w5 h6 a=>?_);have hl7:(yL (n+1) 0).length=(n+1):=by simp
 refine lL a ae (ag (ab a [.c,.v (nV (n+1)),.c] (a7 ?_)));refine bY _ (CG.loop (fun Q Γ w_=>∃ (i:Nat)(L:List Rat)(B:Hp),Q=n+1-i/\Γ=[(1,qS z p.length V),(2,qS y e.length S),(6,sZ),(7,qS (sB x) (n+1) (n+1)),(15,nV (n+1)),(16,nV i)]/\SS w h w_ B [⟨x,29,(L).flatMap qc⟩,⟨U,112,[qS J M C,qS H I F,nV n]⟩] [] [fun B=>Tab B,Sq y e,Sq z p]/\i<=n+1/\L.length=n+1/\L=dk (fun i_=>ez p e i_ (i_+1)) (n+1) i) _ ⟨0,(yL (n+1) (0:Rat)),h6,rfl,rfl,a.to _ _,In _,Jw,(gL _ _)⟩ ?_);rintro _ _ w8 ⟨i,L,h9,bm,rfl,a,hi,hL1,hL⟩;refine aD ?_;cases za:(decide ((i:Int)<(((n+1):Nat):Int)))
 .
  have zd:=oF za;refine lB 17 za (ag (cD (CG.exit ?_)))
  show CG _ _ _ _ _ _ _ _
  refine ab a aE (lN (kX ?_));have hkm:i=n+1:=by omega
  rw[hkm,Ao] at hL
  subst hL;replace a:=a.to [⟨x,29,((de (n+1) p e)).flatMap qc⟩,⟨U,112,[qS J M C,qS H I F,nV n]⟩] [];obtain ⟨_,a,X,bl,bf⟩:=a.pub 0;replace a:=(a.to [⟨U,112,[qS J M C,qS H I F,nV n]⟩] []).aS (SlO.of_flat (sz:=5) (f:=qc) (d:=0) (b:=x) (o:=0) (l:=(de (n+1) p e)) (fun _=>rfl) X);exact a.ret [] (qS (sB x) (n+1) (n+1)) (⟨_,by rw[gu],a.f.1⟩)
 have zd:=oT za;refine lB 17 za (ag (bZ (cK (cQ (kZ (ab a aE (aK (lL a ae (bB 20 ((i:Nat)+1) (i+1) ?_)))))))));refine lL a ae (a7 ?_);refine bY _ (CG.loop (fun Q Γ w_=>∃ (j:Nat)(u:List Rat)(B:Hp),Q=i+1-j/\Γ=[(1,qS z p.length V),(2,qS y e.length S),(6,sZ),(7,qS (sB x) (n+1) (n+1)),(15,nV (n+1)),(16,nV i),(8,nV i),(20,nV (i+1)),(21,nV j)]/\SS w h w_ B [⟨x,29,(u).flatMap qc⟩,⟨U,112,[qS J M C,qS H I F,nV n]⟩] [] [fun B=>Tab B,Sq y e,Sq z p]/\j<=i+1/\u.length=n+1/\u=(dk (fun i_=>ez p e i_ (i_+1)) (n+1) i).set i (ez p e i j)) _ ⟨0,L,h9,rfl,rfl,a.to _ _,In _,hL1,(by rw[hL];exact Ew oM)⟩ ?_);rintro _ _ _ ⟨j,u,zg,bb,rfl,a,hj,Z,O⟩;have D:LQ 39500000 (u.getD i 0):=by rw[O,C4 (jA _ _ _) oM];exact hcv i j oM hj
 refine aD ?_;cases zb:(decide ((j:Int)<((i+1:Nat):Int)))
 .
  have ze:=oF zb;refine lB 22 zb (ag (cD (CG.exit ?_)))
  show CG _ _ _ _ _ _ _ _
  refine kQ (bB 44 ((i:Nat)+1) (i+1) ?_);refine lL a ae (lD ?_);intro a_ ka;refine ⟨_,_,?_,⟨i+1,u,zg,rfl,rfl,a.to _ _,oM,Z,(by rw[O];exact xK oM oM)⟩,ka.to _ kR⟩
  omega
 have ze:=oT zb;refine lB 22 zb (ag (bZ (cK (cQ (kZ (ab a aE (lN (cR 18 [] mixed a ai ?_))))))));refine eV 0 24 (qS (sB x) (n+1) (n+1)) (eV 1 25 (nV i) (eV 2 26 (qS (sB x) (n+1) (n+1)) (eV 3 27 (nV i) (eX 4 28 (sB x) (n+1) (n+1) 5 (i:Nat) i rfl (eQ 5 29 0 u qc 5 0 i (qv ((u).getD i 0)) a oM (eV 6 30 (qS z p.length V) (eV 7 31 (nV j) (eX 8 32 z p.length V 5 (j:Nat) j ((a.f.r.1).ok oM) (eH 9 33 (qv (p.getD j 0)) a ((a.f.r.1).el j oM) (eV 10 34 (qS y e.length S) (eV 11 35 (nV i) (eV 12 36 (nV j) (eI 13 37 ((i:Nat)-(j:Nat)) (eX 14 38 y e.length S 5 ((i:Nat)-(j:Nat)) (i-j) ((a.f.2.1).ok oM) (eH 15 39 (qv (e.getD (i-j) 0)) a ((a.f.2.1).el (i-j) oM) ?_)))))))))))))));have zc:=LQ.mul (W j) (Y (i-j));refine af 16 40 a (fun _ _ a=>dm (p.getD j 0) (e.getD (i-j) 0) (LQ.mono (W j) oM) (LQ.mono (Y (i-j)) oM) _ _ a.g a.f.1) (fun _ _ a=>?_);have bd:=LQ.add D zc;refine af 17 41 a (fun _ _ a=>gh ((u).getD i 0) ((p.getD j 0)*(e.getD (i-j) 0)) (LQ.mono D oM) (LQ.mono zc oM) _ _ a.g a.f.1) (fun _ _ a=>bA a (fun _ zi a=>tX 18 42 (sB x) (n+1) (n+1) 5 (i:Nat) i rfl (tW 19 0 u qc 5 i (((u).getD i 0)+((p.getD j 0)*(e.getD (i-j) 0))) a oM (fun _ a=>?_))));have zf:((u).set i (((u).getD i 0)+((p.getD j 0)*(e.getD (i-j) 0)))).length=(n+1):=by rw[Ic];exact Z
 replace a:=a.to [⟨x,29,((u).set i (((u).getD i 0)+((p.getD j 0)*(e.getD (i-j) 0)))).flatMap qc⟩,⟨U,112,[qS J M C,qS H I F,nV n]⟩] [];refine tN (kQ (bB 43 ((j:Nat)+1) (j+1) ?_));refine lL a ae (lD ?_);intro a_ ka;refine ⟨_,_,?_,⟨j+1,(u).set i (((u).getD i 0)+((p.getD j 0)*(e.getD (i-j) 0))),zi,rfl,rfl,a.to _ _,oM,zf,(by rw[O];exact C5 (jA _ _ _) oM)⟩,ka.to _ kR⟩
 omega
theorem vH (M:Z9)(O C:Nat)(I:Z9)(J H:Nat)(n:Nat)(hn:n<=12)(e:List Rat)(y:Z9)(Q:Nat)(hla:e.length=n+1)(D:∀ i,LQ 39500000 (e.getD i 0))(hz:e.getD 0 0≠0)(hvi:∀ i,LQ 39500000 ((bC (n+1) e).getD i 0))(hcv:∀ i j,i<=n->j<=i->LQ 39500000 (ez (bC (n+1) e) e i j))(w:World)(h:Hp)(g:G w h)(hSa:Sq y e h)(tb:Tab h):CR 253 #[.agg #[.slice M O C,.slice I J H,nV n],.slice y e.length Q] w h (fun v h1=>∃ bk,v=.slice (sB bk) (bC (n+1) e).length (n+1)/\Sq (sB bk) (bC (n+1) e) h1):=by
 have a:=(((sS g).aS hSa).add (K:=fun F=>Tab F) tb);have bz:(yL (n+1) (0:Rat)).length=n+1:=Jw;refine go Tryz.func253 [(0,.agg #[qS M O C,qS I J H,nV n]),(1,qS y e.length Q)] rfl (aD (lA 2 112 ([qS M O C,qS I J H,nV n]) a (fun B w2 h3 a=>lL a ae (aK (lL a [.v (qP B 2),.o (nV n) 0 2 1] (bB 11 ((n:Nat)+1) (n+1) ?_))))));refine lK 12 29 (n+1) 5 56 eb qc 0 a (fun p w5 h6 a=>?_);have hl7:(yL (n+1) (0:Rat)).length=(n+1):=by simp
 refine lL a ae (ag (cR 9 [] mixed a ai ?_));refine eV 0 14 (qS (sB p) (n+1) (n+1)) (eV 2 16 (qS y e.length Q) (eX 3 17 y e.length Q 5 0 0 ((a.f.2.1).ok oM) (eH 4 18 (qv (e.getD 0 0)) a ((a.f.2.1).el 0 oM) (af 1 15 a (fun _ _ a=>mC (1) kD kD _ _ a.g) (fun w8 h9 a=>?_)))));have b0:=LQ.div (LQ.lit (z:=1) kD) (D 0);refine af 5 19 a (fun _ _ a=>Cw ((1:Int):Rat) (e.getD 0 0) (LQ.mono (LQ.lit (z:=1) kD) oM) (LQ.mono (D 0) oM) (rc hz) _ _ a.g a.f.1) (fun _ _ a=>eV 6 13 (.tuple #[qv (((1:Int):Rat)/(e.getD 0 0)),qT]) (eV 7 20 (qv (((1:Int):Rat)/(e.getD 0 0))) (eV 8 21 qT (bA a (fun _ zj a=>tX 9 22 (sB p) (n+1) (n+1) 5 0 0 rfl (tW 10 0 (yL (n+1) (0:Rat)) qc 5 0 (((1:Int):Rat)/(e.getD 0 0)) a oM (fun _ a=>?_)))))));have bl:((yL (n+1) (0:Rat)).set 0 (((1:Int):Rat)/(e.getD 0 0))).length=(n+1):=by rw[Ic];exact hl7
 replace a:=a.to [⟨p,29,((yL (n+1) (0:Rat)).set 0 (((1:Int):Rat)/(e.getD 0 0))).flatMap qc⟩,⟨B,112,[qS M O C,qS I J H,nV n]⟩] [];refine tN (cQ (ab a ae (a7 ?_)));refine bY _ (CG.loop (fun S Γ w_=>∃ (i:Nat)(L:List Rat)(F:Hp),S=n+1-i/\Γ=[(1,qS y e.length Q),(2,pB B),(4,sZ),(5,qS (sB p) (n+1) (n+1)),(6,nV i)]/\SS w h w_ F [⟨p,29,(L).flatMap qc⟩,⟨B,112,[qS M O C,qS I J H,nV n]⟩] [] [fun F=>Tab F,Sq y e]/\(1<=i/\i<=n+1)/\L.length=n+1/\L=(fH e (n+1) i)) _ ⟨1,(fH e (n+1) 1),zj,rfl,rfl,a.to _ _,⟨nR _,by omega⟩,(ee _ _ _),rfl⟩ ?_);rintro _ _ _ ⟨i,L,_,bb,rfl,a,hi,hL1,U⟩;have x:∀ k,LQ 39500000 (L.getD k 0):=fun k=>by rw[U];exact Ac kD hvi hi.2 k
 refine cQ (ab a [.c,.v (qP B 2),.o (nV n) 1 2 1] ?_);cases Y:(decide ((i:Int)<=(n:Int)))
 .
  have zf:=oF Y;refine lB 26 Y (am (CG.exit ?_))
  show CG _ _ _ _ _ _ _ _
  refine ab a aE (lN (kX ?_));have hkm:i=n+1:=by omega
  rw[hkm] at U
  replace U:L=bC (n+1) e:=U;subst U;replace a:=a.to [⟨p,29,((bC (n+1) e)).flatMap qc⟩,⟨B,112,[qS M O C,qS I J H,nV n]⟩] [];obtain ⟨_,a,V,bm,bd⟩:=a.pub 0;replace a:=(a.to [⟨B,112,[qS M O C,qS I J H,nV n]⟩] []).aS (SlO.of_flat (sz:=5) (f:=qc) (d:=0) (b:=p) (o:=0) (l:=(bC (n+1) e)) (fun _=>rfl) V);exact a.ret [] (qS (sB p) (n+1) (n+1)) (⟨_,by rw[fk],a.f.1⟩)
 have zf:=oT Y;refine lB 26 Y (ar (cK (cQ (kZ (ab a [.v eb] (lA 7 29 ca a (fun zc _ zk a=>lP 0 0 ca a (fun _ a=>ag (ab a aE (a7 ?_))))))))));refine bY _ (CG.loop (fun S Γ w_=>∃ (j:Nat)(F:Hp),S=i-j/\Γ=[(1,qS y e.length Q),(2,pB B),(4,sZ),(5,qS (sB p) (n+1) (n+1)),(6,nV i),(7,pB zc),(30,nV i),(31,nV j)]/\SS w h w_ F [⟨zc,29,qc (ez L e i j)⟩,⟨p,29,(L).flatMap qc⟩,⟨B,112,[qS M O C,qS I J H,nV n]⟩] [] [fun F=>Tab F,Sq y e]/\j<=i) _ ⟨0,zk,rfl,rfl,a.to _ _,In _⟩ ?_);rintro _ _ _ ⟨j,_,bf,rfl,a,hj⟩;have u:LQ 39500000 (ez L e i j):=by rw[U,qL hj hi.2];exact hcv i j oM hj
 refine aD ?_;cases X:(decide ((j:Int)<(i:Int)))
 .
  have zg:=oF X;refine lB 32 X (ag (cD (CG.exit ?_)))
  show CG _ _ _ _ _ _ _ _
  refine cR 8 [] mixed a ai (eV 0 48 (qS (sB p) (n+1) (n+1)) (eV 1 49 (nV i) ?_));have W:j=i:=by omega
  refine eO 2 50 [(0,0,5)] (qv (ez L e i j)) a (eV 3 51 (qS (sB p) (n+1) (n+1)) (eX 4 52 (sB p) (n+1) (n+1) 5 0 0 rfl (eQ 5 53 1 L qc 5 0 0 (qv ((L).getD 0 0)) a oM ?_)));have zd:=LQ.mul u (x 0);refine af 6 54 a (fun _ _ a=>dm (ez L e i j) ((L).getD 0 0) (LQ.mono u oM) (LQ.mono (x 0) oM) _ _ a.g a.f.1) (fun _ _ a=>?_);have bn:LQ (39500000+39500000) (-((ez L e i j)*((L).getD 0 0))):=LQ.neg zd;refine af 7 55 a (fun _ _ a=>Cz ((ez L e i j)*((L).getD 0 0)) (LQ.mono zd oM) _ _ a.g) (fun _ _ a=>bA a (fun _ zl a=>tX 8 56 (sB p) (n+1) (n+1) 5 (i:Nat) i rfl (tW 9 1 L qc 5 i (-((ez L e i j)*((L).getD 0 0))) a oM (fun _ a=>?_))));have zi:((L).set i (-((ez L e i j)*((L).getD 0 0)))).length=(n+1):=by rw[Ic];exact hL1
  replace a:=a.to [⟨zc,29,qc (ez L e i j)⟩,⟨p,29,((L).set i (-((ez L e i j)*((L).getD 0 0)))).flatMap qc⟩,⟨B,112,[qS M O C,qS I J H,nV n]⟩] [];refine tN (kQ (lL a ae (bB 28 ((i:Nat)+1) (i+1) ?_)));refine lL a ae (lD ?_);intro a_ Z;replace a:=a.drop 1 0;refine ⟨_,_,?_,⟨i+1,(L).set i (-((ez L e i j)*((L).getD 0 0))),zl,rfl,rfl,a.to _ _,oM,zi,(by rw[W,U];exact wR hi.1)⟩,Z.to _ kR⟩
  omega
 have zg:=oT X;refine lB 32 X (ag (bZ (cK (cQ (kZ (ab a aE (lN (cR 13 [] mixed a ai ?_))))))));refine eO 0 34 [(0,0,5)] (qv (ez L e i j)) a (eV 1 35 (qS (sB p) (n+1) (n+1)) (eV 2 36 (nV j) (eX 3 37 (sB p) (n+1) (n+1) 5 (j:Nat) j rfl (eQ 4 38 1 L qc 5 0 j (qv ((L).getD j 0)) a oM (eV 5 39 (qS y e.length Q) (eV 6 40 (nV i) (eV 7 41 (nV j) (eI 8 42 ((i:Nat)-(j:Nat)) (eX 9 43 y e.length Q 5 ((i:Nat)-(j:Nat)) (i-j) ((a.f.2.1).ok oM) (eH 10 44 (qv (e.getD (i-j) 0)) a ((a.f.2.1).el (i-j) oM) ?_))))))))));have ze:=LQ.mul (x j) (D (i-j));refine af 11 45 a (fun _ _ a=>dm ((L).getD j 0) (e.getD (i-j) 0) (LQ.mono (x j) oM) (LQ.mono (D (i-j)) oM) _ _ a.g a.f.1) (fun _ _ a=>?_);have bq:=LQ.add u ze;refine af 12 46 a (fun _ _ a=>gh (ez L e i j) (((L).getD j 0)*(e.getD (i-j) 0)) (LQ.mono u oM) (LQ.mono ze oM) _ _ a.g a.f.1) (fun _ _ a=>bA a (fun _ zm a=>tP 13 0 0 (qc ((ez L e i j)+(((L).getD j 0)*(e.getD (i-j) 0)))) a (fun _ a=>tN (kQ (bB 47 ((j:Nat)+1) (j+1) ?_)))));refine lL a ae (lD ?_);intro a_ Z;refine ⟨_,_,?_,⟨j+1,zm,rfl,rfl,a.to _ _,oM⟩,Z.to _ kR⟩
 omega
theorem xQ (l:Z9)(o d:Nat)(j:Z9)(u i:Nat)(n:Nat)(H:n<=12)(b:List Rat)(c:Z9)(p:Nat)(x:b.length=n+1)(w:World)(h:Hp)(g:G w h)(e:Sq c b h):CV 251 #[.agg #[.slice l o d,.slice j u i,nV n],.slice c b.length p] w h (qv (b.getD 0 0)):=by
 have a:=((sS g).aS e);refine go Tryz.func251 [(0,.agg #[qS l o d,qS j u i,nV n]),(1,qS c b.length p)] rfl (aD (lA 2 112 ([qS l o d,qS j u i,nV n]) a (fun F w2 C a=>lA 4 29 ca a (fun z B y a=>aK (lL a ae (lX 6 c b.length p 5 0 0 ((a.f.1).ok oM) ?_))))));exact lH 7 (qv (b.getD 0 0)) a ((a.f.1).el 0 oM) (lP 0 0 (qc (b.getD 0 0)) a (fun D a=>ah a [(0,0,5)] (qv (b.getD 0 0)) rfl))
theorem BW (u:Z9)(e x:Nat)(p:Z9)(j y:Nat)(n:Nat)(hn:n<=12)(fs ws:List Rat)(Z:fs.length=e)(hlw:ws.length=j)(i:Nat)(Y:i<e)(hiw:i<j)(w:World)(h:Hp)(g:G w h)(L:Sq u fs h)(W:Sq p ws h):CR 252 #[.agg #[.slice u e x,.slice p j y,nV n],nV i] w h (fun v h1=>∃ M,v=.slice (sB M) (gk (n+1) (fs.getD i 0) (ws.getD i 0)).length (n+1)/\Sq (sB M) (gk (n+1) (fs.getD i 0) (ws.getD i 0)) h1):=by
 have a:=(((sS g).aS L).aS W);have F:=dt (n+1) (fs.getD i 0);refine go Tryz.func252 [(0,.agg #[qS u e x,qS p j y,nV n]),(1,nV i)] rfl (aD (lA 2 112 ([qS u e x,qS p j y,nV n]) a (fun C w2 h3 a=>lL a ae (ag (cR 7 [] mixed a ai ?_)))));refine eO 0 6 [(0,0,3)] (.agg #[qS u e x,qS p j y,nV n]) a (eV 1 7 (pB C) (eO 2 8 [(0,0,1)] (qS u e x) a (eV 3 9 (nV i) (eX 4 10 u e x 5 (i:Nat) i ((a.f.2.1).ok oM) (eH 5 11 (qv (fs.getD i 0)) a ((a.f.2.1).el i oM) (eC 6 12 a (fun _ _ a=>oH u e x p j y n hn (fs.getD i 0) h _ _ a.g a.st.sz) ?_))))));rintro _ _ _ w4 h5 a ⟨z,rfl,J⟩;replace a:=(a.add (K:=fun X=>Nw h.size X z 29 ((bx (n+1) (fs.getD i 0)).flatMap qc)) J);refine bA a (fun w6 h7 a=>tV 7 5 (qS (sB z) (n+1) (n+1)) (tN (cQ ?_)));obtain ⟨h8,a⟩:=a.takeL (a.f.1).1 (a.f.1).2.2;replace a:=a.aS (L.gw a.st.up.gr.gw);replace a:=a.aS (W.gw a.st.up.gr.gw);replace a:=a.to [⟨z,29,((bx (n+1) (fs.getD i 0))).flatMap qc⟩,⟨C,112,[qS u e x,qS p j y,nV n]⟩] [];refine ab a [.v (qP C 2),.o (nV n) 1 2 1] ?_;cases B:(decide ((0:Int)<(n:Int)))
 .
  have D:=oF B;refine lB 15 B (am (cK (ab a aE (lN (kX ?_)))));obtain ⟨_,a,I,U,V⟩:=a.pub 0;replace a:=(a.to [⟨C,112,[qS u e x,qS p j y,nV n]⟩] []).aS (SlO.of_flat (sz:=5) (f:=qc) (d:=0) (b:=z) (o:=0) (l:=(bx (n+1) (fs.getD i 0))) (fun _=>rfl) I);exact a.ret [] (qS (sB z) (n+1) (n+1)) (⟨_,by rw[kg],(by rw[<-D8 _ _ oM];exact a.f.1)⟩)
 have D:=oT B;refine lB 15 B (ar (kQ (lL a [.c,.v (qP C 1),.o (qS p j y) 1 1 1,.c] (lX 20 p j y 5 (i:Nat) i ((a.f.1).ok oM) ?_))));refine lH 21 (qv (ws.getD i 0)) a ((a.f.1).el i oM) (lX 22 (sB z) (n+1) (n+1) 5 1 1 rfl (lW 0 (bx (n+1) (fs.getD i 0)) qc 5 1 (ws.getD i 0) a oM (fun _ a=>?_)));have S:(((bx (n+1) (fs.getD i 0))).set 1 (ws.getD i 0)).length=n+1:=by rw[Ic];exact F
 replace a:=a.to [⟨z,29,(((bx (n+1) (fs.getD i 0))).set 1 (ws.getD i 0)).flatMap qc⟩,⟨C,112,[qS u e x,qS p j y,nV n]⟩] [];refine aK (lL a aE (lN (kX ?_)));obtain ⟨_,a,H,Q,O⟩:=a.pub 0;replace a:=(a.to [⟨C,112,[qS u e x,qS p j y,nV n]⟩] []).aS (SlO.of_flat (sz:=5) (f:=qc) (d:=0) (b:=z) (o:=0) (l:=((bx (n+1) (fs.getD i 0))).set 1 (ws.getD i 0)) (fun _=>rfl) H);exact a.ret [] (qS (sB z) (n+1) (n+1)) (⟨_,by rw[kg],(by rw[<-CE _ _ oM];exact a.f.1)⟩)
theorem uZ (n:Int):aZ (n-1)<=2*aZ n:=by
 unfold aZ
 split<;>split<;>omega
theorem CK {a:Rat}{K:Nat}(b:1<=K):LQ K ((a.num.sign:Int):Rat):=by
 have:=gy a.num;exact (LQ.int oM oM).mono b
section
variable {op n:Int}{a b:Rat}{wa wb:Nat}
theorem Bm (o:1<=wa)(ha:LQ (3*wa-2) a)(c:LQ (3*wb+1) b)(p : -12<=n/\n<=12):LQ (12*(cO op n*(wa+wb))) (DB op n a b):=by
  obtain ⟨M,hM⟩:∃ M,M=cO op n*(wa+wb):=⟨_,rfl⟩;have w1:=cF op n;have l:wa+wb<=cO op n*(wa+wb):=II _ w1;rw[<-hM] at l ⊢
  have h1:LQ 1 (((1:Int):Rat)):=LQ.lit (z:=1) kD;have h0:LQ (12*M) (0:Rat):=jf oM
  unfold DB
  split
  . exact h1.mono oM
  split
  . exact h1.mono oM
  split
  . exact c.mono oM
  split
  . exact (h1.div c).mono oM
  split
  . exact h1.neg.mono oM
  split
  . rename_i f
    split
    . exact h0
    . have e:cO op n=aZ n:=by unfold cO;rw[if_neg oM,if_pos f]
      have j:=ry (n:=n-1) oM ha;have i:LQ 1 (((n:Int):Rat)):=LQ.int oM oM;have h:=uZ n
      have k2:aZ (n-1)*(3*wa-2+2)<=6*M:=by
        rw[show 3*wa-2+2=3*wa by omega,hM,e]
        calc aZ (n-1)*(3*wa)<=2*aZ n*(3*wa):=yI _ h
          _=6*(aZ n*wa):=by rw[z8,Js (aZ n) 3 wa,<-z8]
          _<=6*(aZ n*(wa+wb)):=A5 _ (A5 _ (Jo _ _))
      exact (j.mul i).mono oM
  split
  . exact CK oM
  split
  . have:=gy a.num
    exact (LQ.int oM oM).mono oM
  split
  . have d:=h1.add ha.abs
    exact ((h1.div d).mul (h1.div d)).mono oM
  split
  . split
    . exact h1.mono oM
    . exact h0
  split
  . split
    . exact h0
    . exact h1.mono oM
  . exact h0
theorem AQ (e:1<=wa)(ha:LQ (3*wa-2) a)(c:LQ (3*wb+1) b):LQ (12*(cO op n*(wa+wb))) (DM op a b):=by
 obtain ⟨M,hM⟩:∃ M,M=cO op n*(wa+wb):=⟨_,rfl⟩;have w1:=cF op n;have d:wa+wb<=cO op n*(wa+wb):=II _ w1;rw[<-hM] at d ⊢
 have h1:LQ 1 (((1:Int):Rat)):=LQ.lit (z:=1) kD;have h0:LQ (12*M) (0:Rat):=jf oM
 unfold DM
 split
 ·exact h1.mono oM
 split
 ·exact h1.neg.mono oM
 split
 ·exact ha.mono oM
 split
 ·exact ((ha.mul (h1.div c)).mul (h1.div c)).neg.mono oM
 split
 ·split
  ·exact h0
  ·exact h1.mono oM
 split
 ·split
  ·exact h1.mono oM
  ·exact h0
 ·exact h0
theorem Dp (e:1<=wa)(ha:LQ (3*wa-2) a)(f:1<=wb->LQ (3*wb-2) b)(h:fF op=2->1<=wb)(d:3<=op/\op<=13)(hk:xr op n a b):LQ (3*(cO op n*(wa+wb))-2) (lp op n 0 a b):=by
 have:=D5 (op:=op) (n:=n) (q:=0) (a:=a) (b:=b) (e1:=0) (e2:=0) (wa:=wa) (wb:=wb) (c:=3) (ey 3) e ha f h (jf kD) d;rw[Eb rfl rfl hk] at this
 unfold GB at this
 rw[if_pos hk] at this
 exact this
theorem sl (h:cc op n a b=0):xr op n a b:=Decidable.byContradiction fun k=>by
 have:cc op n a b=6:=if_neg k
 omega
end
def B6 (W d:Nat)(x:Int × Rat × List Rat):Prop:=LQ (3*W-2) x.2.1/\∀ i,LQ (40*(W*d)) (x.2.2.getD i 0)
theorem B7 {m:Nat}{op n:Int}{wa wb d:Nat}{x y:Int × Rat × List Rat}(e:1<=wa)(c:B6 wa d x)(a:1<=wb->B6 wb d y)(b:fF op=2->1<=wb)(h1:fF op=1->wb=0/\y.2.1=0/\y.2.2=[])(z:3<=op/\op<=13)(B : -12<=n/\n<=12)(ha:fF op=1\/fF op=2):B6 (cO op n*(wa+wb)) (d+1) (md m op n x y):=by
  have w1:=cF op n;have p:wa+wb<=cO op n*(wa+wb):=II _ w1
  have hz:B6 (cO op n*(wa+wb)) (d+1) ((0:Int),(0:Rat),([]:List Rat)):=⟨jf oM,fun i=>by
    rw[dY];exact jf (by have:1<=cO op n*(wa+wb)*(d+1):=Nat.mul_pos oM (Iq d);omega)⟩
  by_cases c1:x.1=0
  . by_cases c2:y.1=0
    . by_cases c3:cc op n x.2.1 y.2.1=0
      . rw[l9 c1 c2 c3]
        have l:LQ (3*wb+1) y.2.1:=by
          rcases ha with h|h
          . obtain ⟨e1,e2,_⟩:=h1 h
            rw[e2];exact jf oM
          . exact (a (b h)).1.mono oM
        refine ⟨Dp e c.1 (fun h=>(a h).1) b z (sl c3),fun i=>?_⟩;have u:=Bm (op:=op) (n:=n) e c.1 l B;have C:=AQ (op:=op) (n:=n) e c.1 l
        generalize hM:cO op n*(wa+wb)=M at *
        have o:LQ (40*(wb*d)+1) (y.2.2.getD i 0):=by
          by_cases h:1<=wb
          . exact ((a h).2 i).mono oM
          . rcases ha with k|k
            . rw[(h1 k).2.2,dY];exact jf oM
            . exact absurd (b k) h
        have D:(wa+wb)*d<=M*d:=yI _ p;have k2:(wa+wb)*d=wa*d+wb*d:=Gx _ _ _;have F:M*(d+1)=M*d+M:=Nat.mul_succ _ _
        show LQ (40*(M*(d+1))) ((jJ m op n x.2.1 y.2.1 x.2.2 y.2.2).getD i 0)
        unfold jJ
        exact ke (K:=40*(M*(d+1))) (fun j=>by
          have f:=c.2 j
          have o:LQ (40*(wb*d)+1) (y.2.2.getD j 0):=by
            by_cases h:1<=wb
            . exact ((a h).2 j).mono oM
            . rcases ha with k|k
              . rw[(h1 k).2.2,dY];exact jf oM
              . exact absurd (b k) h
          exact ((u.mul f).add (C.mul o)).mono oM) oM i
      . rw[o8 c1 c2 c3];exact hz
    . rw[qI c1 c2];exact hz
  . rw[oc c1];exact hz
section
variable {ok:ByteArray->Prop}{ix:ByteArray->Nat}{at_:List Rat}
theorem BH (m i j:Nat):LQ 1 ((ef m i).getD j 0):=by
 unfold ef
 by_cases h:i<m
 ·rw[bK (by simpa using h)]
  split
  ·exact LQ.lit (z:=1) kD
  ·rw[dV];exact jf kD
 ·rw[JC (by simp;omega),dV];exact jf kD
theorem qG {d:Nat}{op n:Int}{q:Rat}{s:ByteArray}{a:Tm}(h1:op≠1)(b:op≠2):ba ix at_ (d+1) (.mk op n q s [a])=md at_.length op n (ba ix at_ d a) (0,0,[]):=by
 show (if op=1 then _ else if op=2 then _ else _)=_
 rw[if_neg h1,if_neg b];rfl
theorem nW {d:Nat}{op n:Int}{q:Rat}{s:ByteArray}{a b:Tm}(h1:op≠1)(c:op≠2):ba ix at_ (d+1) (.mk op n q s [a,b])=md at_.length op n (ba ix at_ d a) (ba ix at_ d b):=by
 show (if op=1 then _ else if op=2 then _ else _)=_
 rw[if_neg h1,if_neg c];rfl
theorem o7 (c:∀ i,LQ 1 (at_.getD i 0)):∀ {d:Nat} {t:Tm},WfT1 ok d t->1<=bD d t/\B6 (bD d t) d (ba ix at_ d t)
  | d + 1,.mk op n q s ks,⟨h1,h2,l,h4,h5,h6,f,b,h9⟩=>by
    have p:=aN op;replace h1:fF op=(ks.length:Nat):=h1;replace l:LQ 1 q:=l;replace f : -12<=n:=f;replace b:n<=12:=b
    rcases e7 h1 with rfl|⟨t,rfl⟩|⟨t,u,rfl⟩
    . have e:bD (d+1) (.mk op n q s [])=1:=vp rfl
      rw[e];refine ⟨ey _,?_⟩
      simp only[Ju] at h1
      by_cases o1:op=1
      . have e2:ba ix at_ (d+1) (.mk op n q s [])=(0,q,yL at_.length 0):=if_pos o1
        rw[e2];exact ⟨l,fun i=>by show LQ _ ((yL _ _).getD i 0);rw[dV];exact jf oM⟩
      . have o:op=2:=by omega
        have e2:ba ix at_ (d+1) (.mk op n q s [])=(0,at_.getD (ix s) 0,ef at_.length (ix s)):=(if_neg o1).trans (if_pos o);rw[e2];exact ⟨c _,fun i=>(BH _ _ i).mono oM⟩
    . obtain ⟨i1,a⟩:=o7 c (h9 0 (Iq _))
      replace i1:1<=bD d t:=i1;replace a:B6 (bD d t) d (ba ix at_ d t):=a
      simp only[yf,Ju] at h1
      have e:bD (d+1) (.mk op n q s [t])=cO op n*(bD d t+0):=by rw[jc (show [t].length≠0 from Jt _)];show _*(0+bD d t)=_;rw[yH,Nat.add_zero]
      have w1:=cF op n;rw[e,qG oM oM];exact ⟨e4 i1 (II _ w1),B7 i1 a (fun h=>absurd h kD) oM (fun _=>⟨rfl,rfl,rfl⟩) oM ⟨f,b⟩ oM⟩
    . obtain ⟨i1,a⟩:=o7 c (h9 0 (Iq _))
      obtain ⟨j,j2⟩:=o7 c (h9 1 (by show 1<2;decide));replace i1:1<=bD d t:=i1;replace a:B6 (bD d t) d (ba ix at_ d t):=a;replace j:1<=bD d u:=j;replace j2:B6 (bD d u) d (ba ix at_ d u):=j2
      simp only[yf,Ju] at h1
      have e:bD (d+1) (.mk op n q s [t,u])=cO op n*(bD d t+bD d u):=by rw[jc (show [t,u].length≠0 from Jt _)];show _*(0+bD d t+bD d u)=_;rw[yH]
      have w1:=cF op n;rw[e,nW oM oM];exact ⟨e4 oM (II _ w1),B7 i1 a (fun _=>j2) (fun _=>j) oM oM ⟨f,b⟩ oM⟩
theorem Bg {m:Nat}{op n:Int}{x y:Int × Rat × List Rat}(h:(md m op n x y).1=0):(md m op n x y).2.2.length=m:=by
 by_cases c1:x.1=0
 ·by_cases c2:y.1=0
  ·by_cases c3:cc op n x.2.1 y.2.1=0
   ·rw[l9 c1 c2 c3];exact duG_len
   ·rw[o8 c1 c2 c3] at h;exact absurd h c3
  ·rw[qI c1 c2] at h;exact absurd h c2
 ·rw[oc c1] at h;exact absurd h c1
theorem gV:∀ {d:Nat} {t:Tm},WfT1 ok d t->(ba ix at_ d t).1=0->(ba ix at_ d t).2.2.length=at_.length
  | d + 1,t,_,h=>by
    by_cases o1:t.op=1
    . have e:ba ix at_ (d+1) t=(0,t.q,yL at_.length 0):=if_pos o1
      rw[e];exact Jw
    . by_cases o2:t.op=2
      . have e:ba ix at_ (d+1) t=(0,at_.getD (ix t.s) 0,ef at_.length (ix t.s)):=(if_neg o1).trans (if_pos o2)
        rw[e];unfold ef;simp
      . have e:ba ix at_ (d+1) t=md at_.length t.op t.n _ _:=(if_neg o1).trans (if_neg o2)
        rw[e] at h ⊢;exact Bg h
end
def SzR (W:Nat)(a:List Rat):Prop:=∃ (D:Int)(A:Nat->Int),D≠0/\D.natAbs<=18446744073709551616^W/\∀ i,a.getD i 0*((D^(i+1):Int):Rat)=((A i:Int):Rat)/\(A i).natAbs<=(18446744073709551616^W)^(i+1)
theorem F7 {D:Int}(h:D≠0)(n:Nat):D^n≠0:=by
 induction n with
 | zero=>simp
 | succ n ih=>rw[JE];exact JF ih h
theorem FI {D:Int}(h:D≠0)(n:Nat):((D^n:Int):Rat)≠0:=fun e=>F7 h n (by exact_mod_cast e)
theorem uT {z:Int}{K:Nat}(h:z.natAbs<18446744073709551616^K):LQ (K+1) (z:Rat):=by
 refine ⟨?_,?_⟩
 ·rw[Rat.num_intCast];exact Nat.le_succ_of_le (dW kD h)
 ·rw[Rat.den_intCast];exact e4 (co.2 kD) (Nat.le_add_left 1 K)
theorem rp {q:Rat}{D A:Int}{W i:Nat}(a:D≠0)(h1:D.natAbs<=18446744073709551616^W)(e:q*((D^(i+1):Int):Rat)=(A:Rat))(d:A.natAbs<=18446744073709551616^(W*(i+1))):LQ (2*(W*(i+1))+4) q:=by
 have f:=FI a (i+1);have c:q=(A:Rat)/((D^(i+1):Int):Rat):=by rw[<-e];grind
 rw[c];have up:∀ k:Nat,18446744073709551616^k<18446744073709551616^(k+1):=fun k=>Nat.pow_lt_pow_right kD (JD k)
 have b:LQ (W*(i+1)+1+1) (A:Rat):=uT (zh d (up _));have l2:LQ (W*(i+1)+1+1) ((D^(i+1):Int):Rat):=uT (zh (by rw[JG,A7];exact JH h1 _) (up _));exact (b.div l2).mono oM
theorem SzR.lq {W:Nat}{a:List Rat}(h:SzR W a)(c:a.length<=13)(i:Nat):LQ (26*W+4) (a.getD i 0):=by
 by_cases hi:i<13
 ·obtain ⟨D,A,h0,h1,b⟩:=h
  have:=A5 W (show i+1<=13 by omega);exact (rp h0 h1 (b i).1 (by rw[A7];exact (b i).2)).mono oM
 ·rw[cP oM];exact jf oM
theorem SzR.mono {W V:Nat}{a:List Rat}(h:SzR W a)(hv:W<=V):SzR V a:=by
 obtain ⟨D,A,h0,h1,b⟩:=h;have k:=Ay (show 0<18446744073709551616 by decide) hv;exact ⟨D,A,h0,e4 h1 k,fun i=>⟨(b i).1,e4 (b i).2 (JH k _)⟩⟩
theorem SzR.nil (W:Nat):SzR W []:=⟨1,fun _=>0,by decide,Nat.one_le_pow _ _ kD,fun i=>⟨by rw[dY];simp,In _⟩⟩
theorem BJ (M i:Nat):2*M^(i+1)<=(18446744073709551616*M)^(i+1):=by
 rw[JI];refine yI _ ?_;exact e4 (by decide:2<=18446744073709551616^1) (Ay kD (Nat.succ_le_succ (In i)))
theorem xN (M i:Nat):(i+1)*M^(i+1)<=(18446744073709551616*M)^(i+1):=by
 rw[JI];refine yI _ ?_;exact e4 (IM (Nat.lt_two_pow_self (n:=i+1))) (JH kD _)
theorem iY (W V:Nat):18446744073709551616^(W+V+1)=18446744073709551616*(18446744073709551616^W*18446744073709551616^V):=by
 rw[z1,A4,z2]
theorem vv {W V:Nat}{a b:List Rat}{D E:Int}{A B:Nat->Int}(h1:D.natAbs<=18446744073709551616^W)(f:∀ i,a.getD i 0*((D^(i+1):Int):Rat)=((A i:Int):Rat)/\(A i).natAbs<=(18446744073709551616^W)^(i+1))
    (h:E.natAbs<=18446744073709551616^V)(k2:∀ i,b.getD i 0*((E^(i+1):Int):Rat)=((B i:Int):Rat)/\(B i).natAbs<=(18446744073709551616^V)^(i+1))(i:Nat):∀ j,j<=i+1->∃ z:Int,ez a b i j*(((D*E)^(i+1):Int):Rat)=(z:Rat)/\z.natAbs<=j*(18446744073709551616^W*18446744073709551616^V)^(i+1)
  | 0,_=>⟨0,by show (0:Rat)*_=_;simp,by simp⟩
  | j + 1,hj=>by
    obtain ⟨z,e,hz⟩:=vv h1 f h k2 i j oM;obtain ⟨c,rfl⟩:∃ c,i=j+c:=⟨i-j,by omega⟩;obtain ⟨u,F⟩:=f j;obtain ⟨p,l⟩:=k2 c;refine ⟨z+A j*B c*(D^c*E^j),?_,?_⟩
    . show (ez a b (j+c) j+a.getD j 0*b.getD (j+c-j) 0)*_=_
      have d:(D*E)^(j+c+1)=D^(j+1)*E^(c+1)*(D^c*E^j):=by
        rw[JJ,show j+c+1=(j+1)+c by omega,JK,show j+1+c=(c+1)+j by omega,JK];grind
      rw[Nat.add_sub_cancel_left,JL,e,d,JM,JN,JN,JN,JN,JN,<-u,<-p]
      grind
    . have o:(A j*B c*(D^c*E^j)).natAbs<=(18446744073709551616^W*18446744073709551616^V)^(j+c+1):=by
        rw[IP,IP,IP,JG,JG]
        have d:(18446744073709551616^W*18446744073709551616^V)^(j+c+1)=(18446744073709551616^W)^(j+1)*(18446744073709551616^V)^(c+1)*((18446744073709551616^W)^c*(18446744073709551616^V)^j):=by
          generalize 18446744073709551616^W=x
          generalize 18446744073709551616^V=y
          have C:x^(j+c+1)=x^(j+1)*x^c:=by rw[<-A4];congr 1;omega
          have H:y^(j+c+1)=y^(c+1)*y^j:=by rw[<-A4];congr 1;omega
          rw[JI,C,H]
          ac_rfl
        rw[d];exact H9 (H9 F l) (H9 (JH h1 _) (JH h _))
      rw[Nat.succ_mul];exact e4 (Ja _ _) (JO hz o)
theorem SzR.cnvD {W V:Nat}{a b:List Rat}(ha:SzR W a)(h:SzR V b):∃ D:Int,D≠0/\D.natAbs<=18446744073709551616^(W+V+1)/\∀ i j,j<=i+1->∃ z:Int,ez a b i j*((D^(i+1):Int):Rat)=(z:Rat)/\z.natAbs<=(18446744073709551616^(W+V+1))^(i+1):=by
 obtain ⟨D,A,h0,h1,f⟩:=ha;obtain ⟨E,B,k0,d,k2⟩:=h;refine ⟨D*E,JF h0 k0,?_,fun i j c=>?_⟩
 ·rw[IP,iY]
  exact e4 (H9 h1 d) (II _ kD)
 ·obtain ⟨z,e,hz⟩:=vv h1 f d k2 i j c
  refine ⟨z,e,e4 hz ?_⟩;rw[iY];exact e4 (yI _ c) (xN _ i)
theorem SzR.lq_cnv {W V:Nat}{a b:List Rat}(ha:SzR W a)(d:SzR V b){i j:Nat}(hi:i<=12)(c:j<=i+1):LQ (26*(W+V+1)+4) (ez a b i j):=by
 obtain ⟨D,h0,h1,f⟩:=ha.cnvD d;obtain ⟨z,e,hz⟩:=f i j c;have:=A5 (W+V+1) (show i+1<=13 by omega);exact (rp h0 h1 e (by rw[A7];exact hz)).mono oM
theorem SzR.mul {W V:Nat}{a b:List Rat}(ha:SzR W a)(d:SzR V b)(m:Nat):SzR (W+V+1) (de m a b):=by
 obtain ⟨D,h0,h1,c⟩:=ha.cnvD d;refine ⟨D,fun i=>if i<m then (c i (i+1) (ey _)).choose else 0,h0,h1,fun i=>?_⟩
 dsimp only
 by_cases hi:i<m
 ·rw[if_pos hi,BX a b hi];exact (c i (i+1) (ey _)).choose_spec
 ·rw[if_neg hi,ug a b oM];exact ⟨by simp,In _⟩
theorem SzR.add {W V:Nat}{a b:List Rat}(ha:SzR W a)(j:SzR V b)(m:Nat):SzR (W+V+1) (cV m a b):=by
  obtain ⟨D,A,h0,h1,e⟩:=ha;obtain ⟨E,B,k0,c,k2⟩:=j;refine ⟨D*E,fun i=>if i<m then A i*E^(i+1)+B i*D^(i+1) else 0,JF h0 k0,?_,fun i=>?_⟩
  . rw[IP,iY]
    exact e4 (H9 h1 c) (II _ kD)
  . dsimp only
    by_cases hi:i<m
    . rw[if_pos hi,rz a b hi]
      obtain ⟨h,l⟩:=e i;obtain ⟨f,d⟩:=k2 i;refine ⟨?_,?_⟩
      . rw[JJ,JM,JN,JN,JN,<-h,<-f];grind
      . rw[iY]
        refine e4 (Ja _ _) (e4 ?_ (BJ _ i));rw[IP,IP,JG,JG,Nat.two_mul,JI];refine JO (H9 l (JH c _)) ?_;rw[z2];exact H9 (JH h1 _) d
    . rw[if_neg hi];exact ⟨by rw[show (cV m a b).getD i 0=0 from nK oM];simp,In _⟩
theorem SzR.neg {W:Nat}{a:List Rat}(ha:SzR W a)(m:Nat):SzR W (cY m a ((-1:Int):Rat)):=by
 obtain ⟨D,A,h0,h1,b⟩:=ha;refine ⟨D,fun i=>if i<m then -A i else 0,h0,h1,fun i=>?_⟩
 dsimp only
 by_cases hi:i<m
 ·rw[if_pos hi,rk a _ hi]
  refine ⟨?_,by rw[Jb];exact (b i).2⟩;have c:((-A i:Int):Rat) = -((A i:Int):Rat):=by rw[JB]
  rw[c,<-(b i).1,r8];grind
 ·rw[if_neg hi];exact ⟨by rw[show (cY m a _).getD i 0=0 from nK oM];simp,In _⟩
theorem Dr {a:List Rat}{m:Nat}(h:0<m):(bC m a).getD 0 0=((1:Int):Rat)/a.getD 0 0:=by
 unfold bC
 rw[iS (k:=1) h h Nat.zero_lt_one]
 show ((yL m (0:Rat)).set 0 _).getD 0 0=_
 rw[bK (by simpa using h),if_pos rfl,if_pos rfl]
theorem Dw {a:List Rat}{m i:Nat}(h:i<m)(h0:0<i):(bC m a).getD i 0 = -(ez (bC m a) a i i*(bC m a).getD 0 0):=by
 conv=>lhs;unfold bC
 rw[iS (k:=i+1) h h (JD i),<-wR h0,bK (by rw[ee];exact h),if_pos rfl,qL (ey i) (IM h)]
 congr 2
 exact (iS (IM h) (IM h) h0).symm
theorem uf {a:List Rat}{m i:Nat}(h:m<=i):(bC m a).getD i 0=0:=cP (by rw[fk];exact h)
theorem Ds {W:Nat}{a:List Rat}{D:Int}{A:Nat->Int}(h0:D≠0)(c:∀ i,a.getD i 0*((D^(i+1):Int):Rat)=((A i:Int):Rat)/\(A i).natAbs<=(18446744073709551616^W)^(i+1))(ha:a.getD 0 0≠0)(m:Nat) :
    ∀ i,i<m->∃ C:Int,(bC m a).getD i 0*(((A 0*D)^(i+1):Int):Rat)=((D*D*C:Int):Rat)/\C.natAbs<=2^i*(18446744073709551616^W)^(2*i):=by
  intro i
  induction i using Nat.strongRecOn with
  | _ i ih =>
    intro hi;have l:((A 0:Int):Rat)=a.getD 0 0*(D:Rat):=by rw[<-(c 0).1,yH,JE,JP,JQ]
    have f:(bC m a).getD 0 0=((1:Int):Rat)/a.getD 0 0:=Dr oM;have b:(bC m a).getD 0 0*((A 0:Int):Rat)=(D:Rat):=by rw[f,l,i1];grind
    by_cases e0:i=0
    . subst e0
      refine ⟨1,?_,by simp⟩;rw[yH,JE,JP,JQ,Int.mul_one,JN,JN,<-JR,b]
    . have key:∀ j,j<=i->∃ Z:Int,ez (bC m a) a i j*(bC m a).getD 0 0*(((A 0*D)^(i+1):Int):Rat)=((D*D*Z:Int):Rat)/\Z.natAbs<=(2^j-1)*(18446744073709551616^W)^(2*i):=by
        intro j
        induction j with
        | zero=>intro _;exact ⟨0,by show (0:Rat)*_*_=_;simp,by simp⟩
        | succ j ij =>
          intro J;obtain ⟨Z,e1,e2⟩:=ij oM;obtain ⟨C,c1,c2⟩:=ih j oM oM;obtain ⟨e,rfl⟩:∃ e,i=j+1+e:=⟨i-j-1,by omega⟩;obtain ⟨h,p⟩:=c (e+1);refine ⟨Z+C*A (e+1)*A 0^e,?_,?_⟩
          . show (ez (bC m a) a (j+1+e) j+(bC m a).getD j 0*a.getD (j+1+e-j) 0)*_*_=_
            rw[show j+1+e-j=e+1 by omega,JL,JL,e1]
            have H:(A 0*D)^(j+1+e+1)=(A 0*D)^(j+1)*(A 0*A 0^e*D^(e+1)):=by
              have u:(A 0*D)^(e+1)=A 0^(e+1)*D^(e+1):=JJ;rw[show j+1+e+1=(j+1)+(e+1) by omega,JK,u,JE (A 0) e,Int.mul_comm (A 0^e) (A 0)]
            have B:D^(e+1+1)=D^(e+1)*D:=JE D (e+1);rw[B,JN] at h
            rw[H,Int.mul_add,JM]
            congr 1
            rw[JN ((A 0*D)^(j+1)),JN (A 0*A 0^e),JN (A 0) (A 0^e)];rw[show D*D*(C*A (e+1)*A 0^e)=(D*D*C)*(A (e+1)*A 0^e) by grind,JN (D*D*C),<-c1,JN (A (e+1)),<-h,<-b]
            grind
          . have z:(C*A (e+1)*A 0^e).natAbs<=2^j*(18446744073709551616^W)^(2*(j+1+e)):=by
              rw[IP,IP,JG]
              have I:2^j*(18446744073709551616^W)^(2*(j+1+e))=2^j*(18446744073709551616^W)^(2*j)*(18446744073709551616^W)^(e+1+1)*(18446744073709551616^W)^e:=by
                generalize 18446744073709551616^W=x
                rw[show 2*(j+1+e)=2*j+(e+1+1)+e by omega,A4,A4];ac_rfl
              rw[I];have d:(A 0).natAbs<=18446744073709551616^W:=by have:=(c 0).2;rwa [yH,JS] at this
              exact H9 (H9 c2 p) (JH d e)
            have o:2^(j+1)-1=(2^j-1)+2^j:=by have:=Nat.one_le_two_pow (n:=j);rw[z1];omega
            rw[o,Gx];exact e4 (Ja _ _) (JO e2 z)
      obtain ⟨Z,y,F⟩:=key i (ey i);refine ⟨-Z,?_,?_⟩
      . rw[Dw hi oM,Rat.neg_mul,y,Int.mul_neg,JB]
      . rw[Jb]
        exact e4 F (yI _ (Nat.sub_le _ _))
theorem SzR.inv {W:Nat}{a:List Rat}(h:SzR W a)(ha:a.getD 0 0≠0)(m:Nat):SzR (2*W+1) (bC m a):=by
  obtain ⟨D,A,h0,h1,c⟩:=h;have key:=Ds h0 c ha m;have d:(A 0).natAbs<=18446744073709551616^W:=by have:=(c 0).2;rwa [yH,JS] at this
  have f:A 0≠0:=fun e=>by
    have:=(c 0).1;rw[e,yH,JE,JP,JQ] at this
    have j:(D:Rat)≠0:=fun e2=>h0 (by exact_mod_cast e2)
    have l:((0:Int):Rat)=0:=rfl;rw[l] at this
    exact (Rat.mul_eq_zero.1 this).elim ha j
  have b:18446744073709551616^(2*W+1)=18446744073709551616*(18446744073709551616^W*18446744073709551616^W):=by rw[show 2*W+1=W+W+1 by omega];exact iY W W
  refine ⟨A 0*D,fun i=>if hi:i<m then D*D*(key i hi).choose else 0,JF f h0,?_,fun i=>?_⟩
  . rw[IP,b]
    exact e4 (H9 d h1) (II _ kD)
  . dsimp only
    by_cases hi:i<m
    . rw[dif_pos hi]
      obtain ⟨c1,c2⟩:=(key i hi).choose_spec;refine ⟨c1,?_⟩;rw[IP,IP,b]
      generalize 18446744073709551616^W=x at *
      have e1:D.natAbs*D.natAbs*(key i hi).choose.natAbs<=x*x*(2^i*x^(2*i)):=H9 (H9 h1 h1) c2;refine e4 e1 ?_
      have e2:x*x*(2^i*x^(2*i))=2^i*(x*x)^(i+1):=by
        rw[z1,<-JT x,<-A7];ac_rfl
      rw[e2,JI 18446744073709551616];refine yI _ (e4 (Ay kD (Nat.le_succ i)) (JH kD _))
    . rw[dif_neg hi,uf oM];exact ⟨by simp,In _⟩
theorem nE {q:Rat}(h:LQ 1 q):q.num.natAbs<18446744073709551616/\q.den<18446744073709551616:=⟨co.1 h.1,co.1 h.2⟩
theorem xi (q:Rat):q*((q.den:Int):Rat)=(q.num:Rat):=by
 have h:=q.den_nz;have a:((q.den:Int):Rat)≠0:=fun e=>h (by exact_mod_cast e)
 conv=>lhs;lhs;rw[<-Rat.num_divInt_den q,Rat.divInt_eq_div]
 grind
theorem SzR.num {q:Rat}(h:LQ 1 q)(m:Nat)(a:0<m):SzR 1 (bx m q):=by
 obtain ⟨h1,b⟩:=nE h;refine ⟨(q.den:Int),fun i=>if i=0 then q.num else 0,by have:=q.den_nz;omega,by rw[JS];show q.den<=_;omega,fun i=>?_⟩
 dsimp only
 by_cases e:i=0
 ·subst e
  rw[if_pos rfl,qj a,yH,JE,JP,JQ];exact ⟨xi q,by rw[JS,JS];omega⟩
 ·rw[if_neg e,v6 q e];exact ⟨by simp,In _⟩
theorem SzR.inp {x y:Rat}(d:LQ 1 x)(e:LQ 1 y)(m:Nat)(c:0<m):SzR 2 (gk m x y):=by
  obtain ⟨h1,b⟩:=nE d;obtain ⟨o,k2⟩:=nE e
  unfold gk
  split
  . rename_i a
    have j:((bx m x).set 1 y).getD 0 0=x:=by rw[bK (by rw[dt];exact a),if_neg kD,qj c]
    have l:((bx m x).set 1 y).getD 1 0=y:=by rw[bK (by rw[dt];exact a),if_pos rfl]
    have f:∀ i,2<=i->((bx m x).set 1 y).getD i 0=0:=fun i hi=>by rw[bK (by rw[dt];exact a),if_neg oM,v6 x oM]
    have u:x.num.natAbs*y.den<=18446744073709551616^2:=by rw[JT];exact H9 (IM h1) (IM k2)
    have p:y.num.natAbs*y.den<=18446744073709551616^2:=by rw[JT];exact H9 (IM o) (IM k2)
    have h:x.den*x.den<=18446744073709551616^2:=by rw[JT];exact H9 (IM b) (IM b)
    refine ⟨(x.den:Int)*(y.den:Int),fun i=>if i=0 then x.num*y.den else if i=1 then y.num*y.den*(x.den*x.den) else 0,by have:=x.den_nz;have:=y.den_nz;exact JF oM oM,?_,fun i=>?_⟩
    . rw[IP,JT];exact H9 (IM b) (IM k2)
    . dsimp only
      match i with
      | 0 =>
        rw[j,if_pos rfl,yH,JE,JP,JQ,JN,JN,<-JR,xi];exact ⟨rfl,by rw[IP,JS];exact u⟩
      | 1 =>
        rw[l,if_neg kD,if_pos rfl,show (1+1:Nat)=2 from rfl,JE,JE,JP,JQ];refine ⟨?_,?_⟩
        . rw[JN,JN,JN,JN,JN,<-xi y];grind
        . rw[IP,IP,IP,JT (18446744073709551616^2)];exact H9 p h
      | i+2 =>
        rw[f (i+2) oM,if_neg oM,if_neg oM];exact ⟨by simp,In _⟩
  . exact (SzR.num d m c).mono kD
theorem rq (F:Z9)(H u:Nat)(C:Z9)(J y:Nat)(n:Nat)(O:n<=12)(b:List Rat)(e:Z9)(I:Nat)(l:b.length=n+1)(B:Nat)(o:SzR B b)(K:B<=1500000)(a:List Rat)(c:Z9)(D:Nat)(f:a.length=n+1)(x:Nat)(j:SzR x a)(M:x<=1500000)(w:World)(h:Hp)(g:G w h)(d:Sq e b h)(p:Sq c a h)(L:Tab h):Calls Tryz.prog 250 #[.agg #[.slice F H u,.slice C J y,nV n],.slice e b.length I,.slice c a.length D] w (Ret w h (fun v h1=>∃ z,v=.slice (sB z) (cV (n+1) b a).length (n+1)/\Sq (sB z) (cV (n+1) b a) h1)) :=
 F9 F H u C J y n O b e I l (fun i=>(o.lq oM i).mono oM) a c D f (fun i=>(j.lq oM i).mono oM) w h g d p L
theorem xP (y:Z9)(z l:Nat)(x:Z9)(C o:Nat)(n:Nat)(H:n<=12)(a:List Rat)(d:Z9)(B:Nat)(f:a.length=n+1)(u:Nat)(j:SzR u a)(D:u<=1500000)(b:Rat)(e:LQ 1 b)(w:World)(h:Hp)(g:G w h)(c:Sq d a h)(F:Tab h):Calls Tryz.prog 256 #[.agg #[.slice y z l,.slice x C o,nV n],.slice d a.length B,qv b] w (Ret w h (fun v h1=>∃ p,v=.slice (sB p) (cY (n+1) a b).length (n+1)/\Sq (sB p) (cY (n+1) a b) h1)) :=
 xM y z l x C o n H a d B f (fun i=>(j.lq oM i).mono oM) b e w h g c F
theorem mm (H:Z9)(I z:Nat)(D:Z9)(K B:Nat)(n:Nat)(S:n<=12)(b:List Rat)(l:Z9)(J:Nat)(x:b.length=n+1)(u:Nat)(d:SzR u b)(L:u<=1500000)(a:List Rat)(e:Z9)(F:Nat)(p:a.length=n+1)(o:Nat)(c:SzR o a)(O:o<=1500000)(Q:u+o+1<=1500000)(w:World)(h:Hp)(g:G w h)(f:Sq l b h)(y:Sq e a h)(M:Tab h):Calls Tryz.prog 254 #[.agg #[.slice H I z,.slice D K B,nV n],.slice l b.length J,.slice e a.length F] w (Ret w h (fun v h1=>∃ C,v=.slice (sB C) (de (n+1) b a).length (n+1)/\Sq (sB C) (de (n+1) b a) h1)) :=
 FX H I z D K B n S b l J x (fun i=>(d.lq oM i).mono oM) a e F p (fun i=>(c.lq oM i).mono oM) (fun i j hi U=>(d.lq_cnv c (show i<=12 by omega) U).mono oM) w h g f y M
theorem iG (x:Z9)(y l:Nat)(u:Z9)(C o:Nat)(n:Nat)(I:n<=12)(a:List Rat)(d:Z9)(B:Nat)(f:a.length=n+1)(e:Nat)(b:SzR e a)(D:e<=1500000)(hz:a.getD 0 0≠0)(H:3*e+2<=1500000)(w:World)(h:Hp)(g:G w h)(c:Sq d a h)(F:Tab h):Calls Tryz.prog 253 #[.agg #[.slice x y l,.slice u C o,nV n],.slice d a.length B] w (Ret w h (fun v h1=>∃ p,v=.slice (sB p) (bC (n+1) a).length (n+1)/\Sq (sB p) (bC (n+1) a) h1)) :=
 have z:=b.inv hz (n+1)
 vH x y l u C o n I a d B f (fun i=>(b.lq oM i).mono oM) hz (fun i=>(z.lq (by rw[fk];omega) i).mono oM) (fun i j hi J=>(z.lq_cnv b (show i<=12 by omega) oM).mono oM) w h g c F
section
variable {a:Rat}
theorem lc (h:¬a.num.sign<0):a=cv a:=by
 unfold cv;rw[if_neg (fun k=>h (by have:=Jx.2 k;omega))]
theorem lj (h:a.num.sign<0):a*((-1:Int):Rat)=cv a:=by
 unfold cv;rw[if_pos (Jx.1 (mG h)),r8];grind
theorem qw {s:Rat}(h:s=cv a):s+((1:Int):Rat)≠0:=by
 have b:0<=cv a:=by
  unfold cv;split
  ·rename_i h
   have:a<0:=by rw[<-Jz,<-JA];omega
   grind
  ·rename_i h;exact JA.1 oM
 rw[h,i1];grind
theorem nN {op:Int}{a b:Rat}(h:op=12/\0<dJ a b\/op=13/\dJ a b<0):op=12/\b<a\/op=13/\a<b:=by
 rcases h with ⟨h1,h2⟩|⟨h1,h2⟩
 ·exact .inl ⟨h1,jV.1 h2⟩
 ·exact .inr ⟨h1,jU.1 h2⟩
theorem nI {op:Int}{a b:Rat}(h:op=12/\dJ a b<0\/op=13/\0<dJ a b):op=12/\a<b\/op=13/\b<a:=by
 rcases h with ⟨h1,h2⟩|⟨h1,h2⟩
 ·exact .inl ⟨h1,jU.1 h2⟩
 ·exact .inr ⟨h1,jV.1 h2⟩
end
theorem mN (j:Z9)(m e:Nat)(I:m<=1000)(K D:Nat)(B:1<=K)(y:K<=1000000)(L:D<=20000000)(p:Nat)(z:Bool)(a:Rat)(ga:List Rat)(l:Z9)(o:Nat)(C:ga.length=m)(ha:LQ K a)(u:∀ i,LQ D (ga.getD i 0))(w:World)(h:Hp)(g:G w h)(x:Sq l ga h)(H:Tab h):CR 135 #[.agg #[.iface 128 (.agg #[.slice j m e]),.map (some p),.bool z],qY a l ga.length o] w h (fun v h1=>∃ F,v=nS (a*((-1:Int):Rat)) (sB F) ((o0 m).map fun i=>ga.getD i 0*((-1:Int):Rat)).length m/\Sq (sB F) ((o0 m).map fun i=>ga.getD i 0*((-1:Int):Rat)) h1):=by
 have b:=(((sS g).aS x).add (K:=fun J=>Tab J) H);refine go Tryz.func135 [(0,.agg #[.iface 128 (.agg #[qS j m e]),.map (some p),.bool z]),(1,qY a l ga.length o)] rfl (aD (lA 2 132 ([.iface 128 (.agg #[qS j m e]),.map (some p),.bool z]) b (fun M w2 W b=>lA 3 77 (qZ a l ga.length o) b (fun S U O b=>lA 4 77 ([qF,uV 0,eS,uV 0,eS,sZ]) b (fun X V Q b=>ag (cR 7 [] mixed b ai ?_))))));refine eV 0 5 (pB M) (eO 1 6 [(2,0,1)] (.iface 128 (.agg #[qS j m e])) b (eO 2 7 [(1,0,6)] (qY a l ga.length o) b (eV 4 9 (.iface 128 (.agg #[qS j m e])) (eV 5 10 (.iface 128 (.agg #[qS j m e])) (af 3 8 b (fun _ _ b=>mC (-1) kD kD _ _ b.g) (fun _ _ b=>eC 6 11 b (fun _ _ b=>vb j m e I K D B y L a ga l o C ha u ((-1:Int):Rat) 1 kD (LQ.int kD kD) _ _ b.g b.f.2.1 b.f.1) ?_))))));rintro _ _ _ _ _ b ⟨c,rfl,d⟩;replace b:=b.aS d;exact bA b (fun _ _ b=>tP 7 0 0 (qZ (a*((-1:Int):Rat)) (sB c) (((o0 m).map fun i=>ga.getD i 0*((-1:Int):Rat)).length) m) b (fun _ b=>tN (kX (b.ret [(0,0,6)] (qY (a*((-1:Int):Rat)) (sB c) (((o0 m).map fun i=>ga.getD i 0*((-1:Int):Rat)).length) m) (⟨_,rfl,b.f.1⟩)))))
theorem BV (j:Z9)(m e:Nat)(V:m<=1000)(K D:Nat)(hK1:1<=K)(hKD:K<=60000)(hD:D<=10000000)(O:Nat)(op n:Int)(q:Rat)(s:ByteArray)(A:Z9)(kn c:Nat)(a:Rat)(ga:List Rat)(l:Z9)(p:Nat)(C:ga.length=m)(ha:LQ K a)(B:∀ i,LQ D (ga.getD i 0))(hop:7<=op/\op<=11)(hn:op=8 -> -12<=n/\n<=12)(w:World)(h:Hp)(g:G w h)(hSa:Sq l ga h)(tb:Tab h):CR 100 #[.agg #[.iface 128 (.agg #[.slice j m e]),.map (some O),.bool false],bu ⟨op,n,q,s,A,kn,c⟩,qY a l ga.length p] w h (fun v h1=>∃ (q_:Rat)(G_:List Rat)(A_:Z9)(c_:Nat),v=.tuple #[nS q_ A_ G_.length c_,iV (cc op n a 0)]/\Sq A_ G_ h1/\(cc op n a 0=0->q_=lp op n 0 a 0/\G_=jJ m op n a 0 ga [])):=by
 have b:=(((sS g).aS hSa).add (K:=fun d=>Tab d) tb);refine go Tryz.func100 [(0,.agg #[.iface 128 (.agg #[qS j m e]),.map (some O),qF]),(1,bu ⟨op,n,q,s,A,kn,c⟩),(2,qY a l ga.length p)] rfl (aD (lA 3 132 ([.iface 128 (.agg #[qS j m e]),.map (some O),qF]) b (fun y w2 h3 b=>lA 4 32 (bH ⟨op,n,q,s,A,kn,c⟩) b (fun I w5 h6 b=>lA 5 77 (qZ a l ga.length p) b (fun b7 w8 h9 b=>lA 6 77 ([qF,uV 0,eS,uV 0,eS,sZ]) b (fun za _ _ b=>lL b ae (aK (lL b [.v (pB y),.o (.iface 128 (.agg #[qS j m e])) 3 0 1,.o (qY a l ga.length p) 1 0 6] (au 14 b (Gp j m e V a l ga.length p _ _ b.g) (fun _ _ b=>au 15 b (gj a (LQ.mono ha oM) _ _ b.g) (fun _ zn b=>?_)))))))))));have cz:=gy a.num;refine lL b ae (ag (ab b [.v (pB I),.o (iV op) 2 0 1] (a7 (aD ?_))));cases zc:((op:Int) == (7:Int))
 .
  have zq:=aq zc;refine lB 19 zc (lL b ae (am (aD ?_)));cases zd:((op:Int) == (8:Int))
  .
   have zr:=aq zd;refine lB 24 zd (lL b ae (am (aD ?_)));cases ze:((op:Int) == (11:Int))
   .
    have zs:=aq ze;refine lB 62 ze (lL b ae (am (cK (cQ (ab b ae ?_)))));cases zf:((a.num.sign:Int) == (0:Int))
    .
     have zt:=aq zf;refine lB 100 zf (am (cK (cQ (ab b ae ?_))));cases zg:(decide ((0:Int)<(a.num.sign:Int)))
     .
      have zu:=oF zg;refine lB 103 zg (am (cK (cQ (ab b [.v (pB I),.o (iV op) 2 0 1] ?_))));cases zi:((op:Int) == (9:Int))
      .
       have zv:=aq zi;refine lB 107 zi (am (cK (ab b [.v (pB y),.o (.iface 128 (.agg #[qS j m e])) 3 0 1,.v (qv (0:Rat))] (lC 114 b (iW j m e V (0:Rat) _ _ b.g) ?_))));rintro _ _ _ b ⟨bz,rfl,b9⟩;replace b:=b.aS b9;refine lP 0 0 (qZ (0:Rat) (sB bz) ((yL m (0:Rat)).length) m) b (fun _ b=>lL b ae (lN (kX ?_)));obtain rfl:op=10:=by omega
       have F:cc 10 n a 0=0:=(bE (fun d=>absurd d kD) (fun d=>absurd d kD) (fun _=>dI oM) (fun d=>absurd d kD));exact b.ret [(0,0,6)] (.tuple #[qY (0:Rat) (sB bz) ((yL m (0:Rat)).length) m,iV 0]) (⟨(0:Rat),(yL m (0:Rat)),_,_,by rw[F],b.f.1,fun _=>(GI oM)⟩)
      have zv:=eq_of_beq zi;refine lB 107 zi (ar (ab b [.o (.agg #[.iface 128 (.agg #[qS j m e]),.map (some O),qF]) 3 0 3,.o (qY a l ga.length p) 1 0 6] (lC 110 b (mN j m e V (14*K+40) (D+40*K+100) oM oM oM O false a ga l p C (LQ.mono ha oM) (fun i=>LQ.mono (B i) oM) _ _ b.g b.f.2.1 b.f.1) ?_)));rintro _ _ _ b ⟨b0,rfl,cb⟩;replace b:=b.aS cb;refine lP 0 0 (qZ (a*((-1:Int):Rat)) (sB b0) (((o0 m).map fun i=>ga.getD i 0*((-1:Int):Rat)).length) m) b (fun _ b=>lL b ae (lN (kX ?_)));obtain rfl:op=9:=by omega
      have F:cc 9 n a 0=0:=(bE (fun d=>absurd d kD) (fun d=>absurd d kD) (fun _=>dI oM) (fun d=>absurd d kD));exact b.ret [(0,0,6)] (.tuple #[qY (a*((-1:Int):Rat)) (sB b0) (((o0 m).map fun i=>ga.getD i 0*((-1:Int):Rat)).length) m,iV 0]) (⟨a*((-1:Int):Rat),((o0 m).map fun i=>ga.getD i 0*((-1:Int):Rat)),_,_,by rw[F],b.f.1,fun _=>(Hs oM)⟩)
     have zu:=oT zg;refine lB 103 zg (ar (ab b [.o (qY a l ga.length p) 1 0 6] (lP 0 0 (qZ a l ga.length p) b (fun _ b=>lL b ae (lN (kX ?_))))));have F:cc op n a 0=0:=(bE (fun d=>absurd d oM) (fun d=>absurd d oM) (fun _=>dI oM) (fun d=>absurd d oM));exact b.ret [(0,0,6)] (.tuple #[qY a l ga.length p,iV 0]) (⟨a,ga,_,_,by rw[F],b.f.2.1,fun _=>(Ha oM C oM)⟩)
    have zt:=eq_of_beq zf;refine lB 100 zf (ar (ab b [.o (qY a l ga.length p) 1 0 6] (lP 0 0 (qZ a l ga.length p) b (fun _ b=>lL b ae (lN (kX ?_))))));have F:cc op n a 0=7:=(r6 (.inl ⟨by omega,oz oM⟩));exact b.ret [(0,0,6)] (.tuple #[qY a l ga.length p,iV 7]) (⟨a,ga,_,_,by rw[F],b.f.2.1,fun d=>absurd d (by rw[F];decide)⟩)
   have zs:=eq_of_beq ze;refine lB 62 ze ?_;refine lL b ae (ar (CG.join (fun Γ w_=>∃  (d:Hp),Γ=[(3,pB y),(4,pB I),(5,pB b7),(6,pB za),(8,iV a.num.sign)]/\SS w h w_ d [⟨za,77,[qF,uV 0,eS,uV 0,eS,sZ]⟩,⟨b7,77,qZ a l ga.length p⟩,⟨I,32,bH ⟨op,n,q,s,A,kn,c⟩⟩,⟨y,132,[.iface 128 (.agg #[qS j m e]),.map (some O),qF]⟩] [] [fun d=>Tab d,Sq l ga]) ?_ ?_))
   .
    refine ab b [.v (qP y 2),.o qF 3 2 1,.c] (lG 66 ?_);refine lG 67 (lL b [.v qF] (am (CG.skip ?_)));intro a_ J;exact ⟨_,⟨zn,rfl,b.to _ _⟩,J.to _ kR⟩
   rintro _ _ ⟨_,rfl,b⟩;refine ab b [.o (qY a l ga.length p) 1 0 6] (lA 10 77 ([qF,uV 0,eS,uV 0,eS,sZ]) b (fun zD _ zH b=>lP 0 0 (qZ a l ga.length p) b (fun _ b=>?_)));refine lN (CG.join (fun Γ w_=>∃ (x:Rat)(u:List Rat)(Q:Z9)(Z:Nat)(d:Hp),Γ=[(3,pB y),(4,pB I),(5,pB b7),(6,pB za),(8,iV a.num.sign),(10,pB zD)]/\SS w h w_ d [⟨zD,77,qZ x Q u.length Z⟩,⟨za,77,[qF,uV 0,eS,uV 0,eS,sZ]⟩,⟨b7,77,qZ a l ga.length p⟩,⟨I,32,bH ⟨op,n,q,s,A,kn,c⟩⟩,⟨y,132,[.iface 128 (.agg #[qS j m e]),.map (some O),qF]⟩] [] [Sq Q u,fun d=>Tab d,Sq l ga]/\x=cv a/\(∀ i,i<m->u.getD i 0=(if a.num.sign<0 then ga.getD i 0*((-1:Int):Rat) else ga.getD i 0))/\u.length=m/\LQ (K+1) x/\(∀ i,LQ (D+1) (u.getD i 0))) ?_ ?_)
   .
    refine ab b ae ?_;cases zj:(decide ((a.num.sign:Int)<(0:Int)))
    .
     have zw:=oF zj;refine lB 72 zj (am (CG.skip ?_));intro a_ J;replace b:=b.aS b.f.2.1;exact ⟨_,⟨a,ga,l,p,zH,rfl,b.to _ _,(lc oM),(fun i_ _=>by rw[if_neg oM]),C,(ha.mono oM),(fun i=>(B i).mono oM)⟩,J.to _ kR⟩
    have zw:=oT zj;refine lB 72 zj (ar (kQ (lL b [.o (.agg #[.iface 128 (.agg #[qS j m e]),.map (some O),qF]) 4 0 3,.o (qY a l ga.length p) 2 0 6] (lC 75 b (mN j m e V (14*K+40) (D+40*K+100) oM oM oM O false a ga l p C (LQ.mono ha oM) (fun i=>LQ.mono (B i) oM) _ _ b.g b.f.2.1 b.f.1) ?_))));rintro _ _ zI b ⟨bl,rfl,cd⟩;replace b:=b.aS cd;refine lP 0 0 (qZ (a*((-1:Int):Rat)) (sB bl) (((o0 m).map fun i=>ga.getD i 0*((-1:Int):Rat)).length) m) b (fun _ b=>lD ?_);intro a_ J;replace b:=(b.tl.aS b.f.1);exact ⟨_,⟨a*((-1:Int):Rat),((o0 m).map fun i=>ga.getD i 0*((-1:Int):Rat)),sB bl,m,zI,rfl,b.to _ _,(lj oM),(fun i_ d=>by rw[if_pos oM,ge d]),(fE _ _),(LQ.mono (ha.mul (LQ.int (z:=-1) kD kD)) oM),(ke (fun i=>LQ.mono ((B i).mul (LQ.int (z:=-1) kD kD)) oM) oM)⟩,J.to _ kR⟩
   rintro _ _ ⟨x,u,Q,Z,_,rfl,b,hxq,hxg,hlx,S,H⟩;refine cQ (cR 23 [] mixed b ai ?_);refine eV 0 76 (pB y) (eO 1 77 [(4,0,1)] (.iface 128 (.agg #[qS j m e])) b (eO 2 78 [(2,0,6)] (qY a l ga.length p) b (eV 3 79 (pB y) (eO 4 80 [(4,0,1)] (.iface 128 (.agg #[qS j m e])) b (eV 5 81 (pB y) (eO 6 82 [(4,0,1)] (.iface 128 (.agg #[qS j m e])) b (eO 7 83 [(0,0,6)] (qY x Q u.length Z) b (eV 8 84 (pB y) (eO 9 85 [(4,0,1)] (.iface 128 (.agg #[qS j m e])) b (eV 11 87 (.iface 128 (.agg #[qS j m e])) (eV 12 88 (.iface 128 (.agg #[qS j m e])) (eV 14 90 (.iface 128 (.agg #[qS j m e])) (eV 15 91 (.iface 128 (.agg #[qS j m e])) (eV 17 93 (.iface 128 (.agg #[qS j m e])) (eV 18 94 (.iface 128 (.agg #[qS j m e])) (eV 20 96 (.iface 128 (.agg #[qS j m e])) (eV 21 97 (.iface 128 (.agg #[qS j m e])) (af 10 86 b (fun _ _ b=>mC (1) kD kD _ _ b.g) (fun _ _ b=>eC 13 89 b (fun _ _ b=>iW j m e V ((1:Int):Rat) _ _ b.g) ?_)))))))))))))))))));rintro _ _ _ _ _ b ⟨cq,rfl,b6⟩;replace b:=b.aS b6;have cr:=hxq;have M:LQ (K+3) (x+((1:Int):Rat)):=LQ.mono (LQ.add S (LQ.int (z:=1) kD kD)) oM;have X:∀ i,LQ (D+4) (((o0 m).map fun i=>u.getD i 0+(yL m (0:Rat)).getD i 0).getD i 0):=ke (fun i=>LQ.mono (LQ.add (H i) (by rw[dV];exact jf (nR 1))) oM) oM;refine eC 16 92 b (fun _ _ b=>Dz j m e V (14*K+40) (D+40*K+100) oM oM oM x u Q Z hlx (LQ.mono S oM) (fun i=>LQ.mono (H i) oM) ((1:Int):Rat) (yL m (0:Rat)) (sB cq) m Jw (LQ.mono (LQ.int kD kD) oM) (fun i=>by rw[dV];exact jf oM) _ _ b.g b.f.2.1 b.f.1 b.f.r.1) ?_;rintro _ _ _ _ _ b ⟨cm,rfl,ch⟩;replace b:=b.aS ch;refine eC 19 95 b (fun _ _ b=>nL j m e V (14*K+40) (D+40*K+100) oM oM oM (x+((1:Int):Rat)) ((o0 m).map fun i=>u.getD i 0+(yL m (0:Rat)).getD i 0) (sB cm) m (fE _ _) (LQ.mono M oM) (fun i=>LQ.mono (X i) oM) (rc (qw cr)) _ _ b.g b.f.1 b.f.r.2.1) ?_;rintro _ _ _ _ _ b ⟨cw,rfl,b2⟩;replace b:=b.aS b2;refine eC 22 98 b (fun _ _ b=>AT j m e V (14*K+40) (D+40*K+100) oM oM oM a ga l p C (LQ.mono ha oM) (fun i=>LQ.mono (B i) oM) (((1:Int):Rat)/(x+((1:Int):Rat))) ((o0 m).map fun i=>((o0 m).map fun i=>u.getD i 0+(yL m (0:Rat)).getD i 0).getD i 0*(-((((1:Int):Rat)/(x+((1:Int):Rat)))*(((1:Int):Rat)/(x+((1:Int):Rat)))))) (sB cw) m (fE _ _) (LQ.mono (LQ.div (LQ.int (z:=1) kD kD) M) oM) (ke (fun i=>LQ.mono ((X i).mul ((LQ.div (LQ.int (z:=1) kD kD) M).mul (LQ.div (LQ.int (z:=1) kD kD) M)).neg) oM) oM) _ _ b.g b.f.q.2.1 b.f.1 b.f.q.1) ?_;rintro _ _ _ _ _ b ⟨bn,rfl,b5⟩;replace b:=b.aS b5;refine bA b (fun _ _ b=>tP 23 1 0 (qZ (a*(((1:Int):Rat)/(x+((1:Int):Rat)))) (sB bn) (((o0 m).map fun i=>ga.getD i 0*(((1:Int):Rat)/(x+((1:Int):Rat)))+a*((o0 m).map fun i=>((o0 m).map fun i=>u.getD i 0+(yL m (0:Rat)).getD i 0).getD i 0*(-((((1:Int):Rat)/(x+((1:Int):Rat)))*(((1:Int):Rat)/(x+((1:Int):Rat)))))).getD i 0).length) m) b (fun _ b=>tV 24 7 (iV 0) (tN (kX ?_))));obtain rfl:op=11:=by omega
   have F:cc 11 n a 0=0:=(bE (fun d=>absurd d kD) (fun d=>absurd d kD) (fun d=>absurd d kD) (fun d=>absurd d kD));exact b.ret [(1,0,6)] (.tuple #[qY (a*(((1:Int):Rat)/(x+((1:Int):Rat)))) (sB bn) (((o0 m).map fun i=>ga.getD i 0*(((1:Int):Rat)/(x+((1:Int):Rat)))+a*((o0 m).map fun i=>((o0 m).map fun i=>u.getD i 0+(yL m (0:Rat)).getD i 0).getD i 0*(-((((1:Int):Rat)/(x+((1:Int):Rat)))*(((1:Int):Rat)/(x+((1:Int):Rat)))))).getD i 0).length) m,iV 0]) (⟨a*(((1:Int):Rat)/(x+((1:Int):Rat))),((o0 m).map fun i=>ga.getD i 0*(((1:Int):Rat)/(x+((1:Int):Rat)))+a*((o0 m).map fun i=>((o0 m).map fun i=>u.getD i 0+(yL m (0:Rat)).getD i 0).getD i 0*(-((((1:Int):Rat)/(x+((1:Int):Rat)))*(((1:Int):Rat)/(x+((1:Int):Rat)))))).getD i 0),_,_,by rw[F],b.f.1,fun _=>(GN hxq hxg)⟩)
  have zr:=eq_of_beq zd;refine lB 24 zd ?_;refine lL b ae (ar (CG.join (fun Γ w_=>∃  (d:Hp),Γ=[(3,pB y),(4,pB I),(5,pB b7),(6,pB za),(8,iV a.num.sign)]/\SS w h w_ d [⟨za,77,[qF,uV 0,eS,uV 0,eS,sZ]⟩,⟨b7,77,qZ a l ga.length p⟩,⟨I,32,bH ⟨op,n,q,s,A,kn,c⟩⟩,⟨y,132,[.iface 128 (.agg #[qS j m e]),.map (some O),qF]⟩] [] [fun d=>Tab d,Sq l ga]/\(n<0->a.num.sign≠0)) ?_ ?_))
  .
   refine ab b [.v (qP I 1),.o (iV n) 2 1 1] ?_;cases zk:(decide ((n:Int)<(0:Int)))
   .
    have zx:=oF zk;refine lB 27 zk (lL b ae (lG 29 ?_));refine lG 30 (lL b [.v qF] (am (CG.skip ?_)));intro a_ J;exact ⟨_,⟨zn,rfl,b.to _ _,(fun d=>by omega)⟩,J.to _ kR⟩
   have zx:=oT zk;refine lB 27 zk (lL b aE ?_);cases zl:((a.num.sign:Int) == (0:Int))
   .
    have zA:=aq zl;refine lB 30 zl (lL b [.v qF] (am (CG.skip ?_)));intro a_ J;exact ⟨_,⟨zn,rfl,b.to _ _,(fun d=>by omega)⟩,J.to _ kR⟩
   have zA:=eq_of_beq zl;refine lB 30 zl (lL b [.v qT] (ar (ab b [.o (qY a l ga.length p) 1 0 6] (lP 0 0 (qZ a l ga.length p) b (fun _ b=>lL b ae (lN (kX ?_)))))));obtain rfl:op=8:=by omega
   have F:cc 8 n a 0=6:=(re (.inr ⟨rfl,by omega,oz oM⟩));exact b.ret [(0,0,6)] (.tuple #[qY a l ga.length p,iV 6]) (⟨a,ga,_,_,by rw[F],b.f.2.1,fun d=>absurd d (by rw[F];decide)⟩)
  rintro _ _ ⟨zJ,rfl,b,bq⟩;refine CG.join (fun Γ w_=>∃ (x:Rat)(u:List Rat)(Q:Z9)(Z:Nat)(d:Hp),Γ=[(3,pB y),(4,pB I),(5,pB b7),(6,pB za),(8,iV a.num.sign)]/\SS w h w_ d [⟨za,77,[qF,uV 0,eS,uV 0,eS,sZ]⟩,⟨b7,77,qZ x Q u.length Z⟩,⟨I,32,bH ⟨op,n,q,s,A,kn,c⟩⟩,⟨y,132,[.iface 128 (.agg #[qS j m e]),.map (some O),qF]⟩] [] [Sq Q u,fun d=>Tab d,Sq l ga]/\((0<=n/\x=a/\u=ga)\/(n<0/\a≠0/\x=(((1:Int):Rat)/a)/\u=((o0 m).map fun i=>ga.getD i 0*(-((((1:Int):Rat)/a)*(((1:Int):Rat)/a))))))/\u.length=m/\LQ (1+K) x/\(∀ i,LQ (D+2*K+2) (u.getD i 0))) ?_ ?_
  .
   refine ab b [.v (qP I 1),.o (iV n) 2 1 1] ?_;cases zm:(decide ((n:Int)<(0:Int)))
   .
    have zB:=oF zm;refine lB 35 zm (am (CG.skip ?_));intro a_ J;replace b:=b.aS b.f.2.1;exact ⟨_,⟨a,ga,l,p,zJ,rfl,b.to _ _,(.inl ⟨by omega,rfl,rfl⟩),C,(ha.mono oM),(fun i=>(B i).mono oM)⟩,J.to _ kR⟩
   have zB:=oT zm;refine lB 35 zm (ar (kQ (lL b [.v (pB y),.o (.iface 128 (.agg #[qS j m e])) 3 0 1,.o (qY a l ga.length p) 1 0 6] (lC 39 b (nL j m e V (14*K+40) (D+40*K+100) oM oM oM a ga l p C (LQ.mono ha oM) (fun i=>LQ.mono (B i) oM) (rc (dI (bq oM))) _ _ b.g b.f.2.1 b.f.1) ?_))));rintro _ _ zK b ⟨bk,rfl,b3⟩;replace b:=b.aS b3;refine lP 1 0 (qZ (((1:Int):Rat)/a) (sB bk) (((o0 m).map fun i=>ga.getD i 0*(-((((1:Int):Rat)/a)*(((1:Int):Rat)/a)))).length) m) b (fun _ b=>lD ?_);intro a_ J;replace b:=(b.tl.aS b.f.1);exact ⟨_,⟨((1:Int):Rat)/a,((o0 m).map fun i=>ga.getD i 0*(-((((1:Int):Rat)/a)*(((1:Int):Rat)/a)))),sB bk,m,zK,rfl,b.to _ _,(.inr ⟨by omega,dI (bq oM),rfl,rfl⟩),(fE _ _),(LQ.div (LQ.int (z:=1) kD kD) ha),(ke (fun i=>LQ.mono ((B i).mul ((LQ.div (LQ.int (z:=1) kD kD) ha).mul (LQ.div (LQ.int (z:=1) kD kD) ha)).neg) (by omega:_<=D+2*K+2)) oM)⟩,J.to _ kR⟩
  rintro _ _ ⟨x,u,Q,Z,_,rfl,b,hxd,hlx,S,H⟩;refine cQ ?_;have hsr:=b;refine cR 7 [⟨6,9,.cells (IL [qF,uV 0,eS,uV 0,eS,sZ]) 77 (0,0)⟩] mixed b (be (dE kR (fun _ _=>by kernel_rfl)) ai) (eV 0 40 (pB y) (eO 1 41 [(3,0,1)] (.iface 128 (.agg #[qS j m e])) b (eV 3 43 (.iface 128 (.agg #[qS j m e])) (eV 4 44 (.iface 128 (.agg #[qS j m e])) (af 2 42 b (fun _ _ b=>mC (1) kD kD _ _ b.g) (fun _ _ b=>eC 5 45 b (fun _ _ b=>iW j m e V ((1:Int):Rat) _ _ b.g) ?_))))));rintro _ _ _ _ _ b ⟨L,rfl,bf⟩;replace b:=b.aS bf;refine fi [] hsr b 77 [qF,uV 0,eS,uV 0,eS,sZ] (fun _ zE zo b=>tP 7 0 0 (qZ ((1:Int):Rat) (sB L) ((yL m (0:Rat)).length) m) b (fun _ b=>tN (cQ (ab b [.v (qP I 1),.o (iV n) 3 1 1,.v (qP I 1),.o (iV n) 3 1 1] (lI 50 (0-n) ?_)))));refine lV 51 (iV (max (n:Int) (0-n:Int))) ?_ (hr:=ay (n:=(if (0-n:Int)>(n:Int) then (0-n:Int) else (n:Int))) kR (by simp only[qz]));refine lL b ae (a7 ?_);replace b:=b.aS b.f.1;refine bY _ (CG.loop (fun μ_ Γ w_=>∃ (k:Nat)(Ap:Z9)(cp:Nat)(U:List Rat)(d:Hp),μ_=n.natAbs-k/\Γ=[(3,pB y),(4,pB I),(5,pB b7),(6,pB za),(8,iV a.num.sign),(9,pB zo),(51,iV (max (n:Int) (0-n:Int))),(52,nV k)]/\SS w h w_ d [⟨zo,77,qZ (bU x k) Ap U.length cp⟩,⟨za,77,[qF,uV 0,eS,uV 0,eS,sZ]⟩,⟨b7,77,qZ x Q u.length Z⟩,⟨I,32,bH ⟨op,n,q,s,A,kn,c⟩⟩,⟨y,132,[.iface 128 (.agg #[qS j m e]),.map (some O),qF]⟩] [] [Sq Ap U,Sq (sB L) (yL m (0:Rat)),Sq Q u,fun d=>Tab d,Sq l ga]/\k<=n.natAbs/\U.length=m/\(∀ i,U.getD i 0=((k:Int):Rat)*bU x (k-1)*u.getD i 0)) _ ⟨0,sB L,m,(yL m (0:Rat)),zE,rfl,rfl,b.to _ _,In _,Jw,(fun i=>by rw[dV];show (0:Rat)=((0:Int):Rat)*_*_;rw[i0];grind)⟩ ?_);rintro _ _ _ ⟨k,Ap,cp,U,_,cy,rfl,b,hk,hlp,hgp⟩;refine aD ?_;cases zb:(decide ((k:Int)<(max (n:Int) (0-n:Int):Int)))
  .
   have zp:=oF zb;refine lB 53 zb (ag (cD (CG.exit ?_)))
   show CG _ _ _ _ _ _ _ _
   refine ab b [.o (qY (bU x k) Ap U.length cp) 0 0 6] (lP 1 0 (qZ (bU x k) Ap U.length cp) b (fun _ b=>lL b ae (lN (kX ?_))));obtain rfl:op=8:=by omega
   have F:cc 8 n a 0=0:=(bE (fun d=>absurd d kD) (fun _ d=>by rcases hxd with ⟨h1_,_⟩|⟨_,h2_,_⟩;omega;exact h2_) (fun d=>absurd d kD) (fun d=>absurd d kD));exact b.ret [(1,0,6)] (.tuple #[qY (bU x k) Ap U.length cp,iV 0]) (⟨bU x k,U,_,_,by rw[F],b.f.1,fun _=>(by rcases hxd with ⟨h1_,e1_,e2_⟩|⟨h1_,h2_,e1_,e2_⟩;subst e1_ e2_;exact GZ h1_ oM hlp hgp;subst e1_;exact Hf h1_ h2_ oM hlp e2_ hgp)⟩)
  have zp:=oT zb;refine lB 53 zb (ag (bZ (cK (cQ (kZ (kQ (lL b [.v (pB y),.o (.iface 128 (.agg #[qS j m e])) 4 0 1,.o (qY (bU x k) Ap U.length cp) 0 0 6,.o (qY x Q u.length Z) 2 0 6] (lC 58 b (AT j m e V (14*K+40) (D+40*K+100) oM oM oM (bU x k) U Ap cp hlp (LQ.mono (j5 S k) (by have:=yI (1+K) (show k<=12 by omega);omega)) (fun i=>by rw[hgp i];exact LQ.mono (((LQ.int (z:=(k:Int)) oM oM).mul (j5 S (k-1))).mul (H i)) (by have:=yI (1+K) (show k-1<=12 by omega);omega)) x u Q Z hlx (LQ.mono S oM) (fun i=>LQ.mono (H i) oM) _ _ b.g b.f.1 b.f.r.1 b.f.r.2.1) ?_))))))));rintro _ _ zG b ⟨Y,rfl,bb⟩;replace b:=b.aS bb;refine lP 0 0 (qZ ((bU x k)*x) (sB Y) (((o0 m).map fun i=>U.getD i 0*x+(bU x k)*u.getD i 0).length) m) b (fun _ b=>lN (kQ (bB 59 ((k:Nat)+1) (k+1) ?_)));refine lL b ae (lD ?_);intro a_ J;replace b:=(b.tl.tl.aS b.f.1);refine ⟨_,_,?_,⟨k+1,sB Y,m,((o0 m).map fun i=>U.getD i 0*x+(bU x k)*u.getD i 0),zG,rfl,rfl,b.to _ _,oM,(fE _ _),(AS hlx hgp)⟩,J.to _ kR⟩
  omega
 have zq:=eq_of_beq zc;refine lB 19 zc (lL b ae (ar (ab b [.o (.agg #[.iface 128 (.agg #[qS j m e]),.map (some O),qF]) 3 0 3,.o (qY a l ga.length p) 1 0 6] (lC 22 b (mN j m e V (14*K+40) (D+40*K+100) oM oM oM O false a ga l p C (LQ.mono ha oM) (fun i=>LQ.mono (B i) oM) _ _ b.g b.f.2.1 b.f.1) ?_))));rintro _ _ _ b ⟨W,rfl,bd⟩;replace b:=b.aS bd;refine lP 0 0 (qZ (a*((-1:Int):Rat)) (sB W) (((o0 m).map fun i=>ga.getD i 0*((-1:Int):Rat)).length) m) b (fun _ b=>lL b ae (lN (kX ?_)));obtain rfl:op=7:=by omega
 have F:cc 7 n a 0=0:=(bE (fun d=>absurd d kD) (fun d=>absurd d kD) (fun d=>absurd d kD) (fun d=>absurd d kD));exact b.ret [(0,0,6)] (.tuple #[qY (a*((-1:Int):Rat)) (sB W) (((o0 m).map fun i=>ga.getD i 0*((-1:Int):Rat)).length) m,iV 0]) (⟨a*((-1:Int):Rat),((o0 m).map fun i=>ga.getD i 0*((-1:Int):Rat)),_,_,by rw[F],b.f.1,fun _=>HC⟩)
theorem At (p:Z9)(m l:Nat)(L:m<=1000)(K D:Nat)(hK1:1<=K)(hKD:K<=60000)(hD:D<=10000000)(bm:Nat)(op n:Int)(q:Rat)(s:ByteArray)(A:Z9)(kn c:Nat)(a:Rat)(ga:List Rat)(j:Z9)(u:Nat)(F:ga.length=m)(ha:LQ K a)(J:∀ i,LQ D (ga.getD i 0))(b:Rat)(gb:List Rat)(x:Z9)(y:Nat)(C:gb.length=m)(I:LQ K b)(H:∀ i,LQ D (gb.getD i 0))(hop:3<=op/\op<=6\/12<=op/\op<=13)(w:World)(h:Hp)(g:G w h)(hSa:Sq j ga h)(hSb:Sq x gb h)(tb:Tab h):CR 101 #[.agg #[.iface 128 (.agg #[.slice p m l]),.map (some bm),.bool false],bu ⟨op,n,q,s,A,kn,c⟩,qY a j ga.length u,qY b x gb.length y] w h (fun v h1=>∃ (q_:Rat)(G_:List Rat)(A_:Z9)(c_:Nat),v=.tuple #[nS q_ A_ G_.length c_,iV (cc op n a b)]/\Sq A_ G_ h1/\(cc op n a b=0->q_=lp op n 0 a b/\G_=jJ m op n a b ga gb)):=by
 have d:=((((sS g).aS hSa).aS hSb).add (K:=fun e=>Tab e) tb);refine go Tryz.func101 [(0,.agg #[.iface 128 (.agg #[qS p m l]),.map (some bm),qF]),(1,bu ⟨op,n,q,s,A,kn,c⟩),(2,qY a j ga.length u),(3,qY b x gb.length y)] rfl (aD (lA 4 132 ([.iface 128 (.agg #[qS p m l]),.map (some bm),qF]) d (fun Q w2 h3 d=>lA 5 32 (bH ⟨op,n,q,s,A,kn,c⟩) d (fun b4 w5 h6 d=>lA 6 77 (qZ a j ga.length u) d (fun b7 w8 h9 d=>lA 7 77 (qZ b x gb.length y) d (fun b10 _ _ d=>lA 8 77 ([qF,uV 0,eS,uV 0,eS,sZ]) d (fun b13 _ _ d=>lL d ae (ag (ab d [.v (pB b4),.o (iV op) 3 0 1] (a7 (aD ?_)))))))))));cases za:((op:Int) == (3:Int))
 .
  have zk:=aq za;refine lB 14 za (lL d ae (am (aD ?_)));cases zb:((op:Int) == (4:Int))
  .
   have zl:=aq zb;refine lB 21 zb (lL d ae (am (aD ?_)));cases zc:((op:Int) == (5:Int))
   .
    have zm:=aq zc;refine lB 32 zc (lL d ae (am (aD ?_)));cases zd:((op:Int) == (6:Int))
    .
     have zn:=aq zd;refine lB 39 zd (lL d ae (am (cK (cQ (cR 9 [] mixed d ai ?_)))));refine eV 0 57 (pB Q) (eO 1 58 [(4,0,1)] (.iface 128 (.agg #[qS p m l])) d (eO 2 59 [(2,0,6)] (qY a j ga.length u) d (eV 4 61 (pB Q) (eO 5 62 [(4,0,1)] (.iface 128 (.agg #[qS p m l])) d (eO 6 63 [(1,0,6)] (qY b x gb.length y) d (af 3 60 d (fun _ _ d=>Gp p m l L a j ga.length u _ _ d.g) (fun _ _ d=>af 7 64 d (fun _ _ d=>Gp p m l L b x gb.length y _ _ d.g) (fun _ _ d=>af 8 65 d (fun _ _ d=>iF a b (LQ.mono ha oM) (LQ.mono I oM) _ _ d.g) (fun _ _ d=>bA d (fun _ _ d=>tV 9 10 (iV (dJ a b)) (tN (cQ (ab d ae ?_)))))))))))));cases ze:((dJ a b:Int) == (0:Int))
     .
      have zo:=aq ze;refine lB 67 ze (am (cK (cQ (ab d ae ?_))));cases zf:(decide ((0:Int)<(dJ a b:Int)))
      .
       have zp:=oF zf;refine lB 70 zf (lL d [.v (pB b4),.o (iV op) 3 0 1] ?_);cases zg:((op:Int) == (12:Int))
       .
        have zq:=aq zg;refine lB 73 zg (lL d [.v qT] (ar (ab d [.o (qY a j ga.length u) 2 0 6] (lP 0 0 (qZ a j ga.length u) d (fun _ d=>lL d ae (lN (kX ?_)))))));have B:cc op n a b=0:=(bE (fun e=>absurd e oM) (fun e=>absurd e oM) (fun e=>absurd e oM) (fun _=>fun e_=>absurd (d8.2 e_) oM));exact d.ret [(0,0,6)] (.tuple #[qY a j ga.length u,iV 0]) (⟨a,ga,_,_,by rw[B],d.f.r.1,fun _=>(Cg F (nN oM))⟩)
       have zq:=eq_of_beq zg;refine lB 73 zg (lL d [.v qF] (am (cK (ab d [.o (qY b x gb.length y) 1 0 6] (lP 0 0 (qZ b x gb.length y) d (fun _ d=>lL d ae (lN (kX ?_))))))));have B:cc op n a b=0:=(bE (fun e=>absurd e oM) (fun e=>absurd e oM) (fun e=>absurd e oM) (fun _=>fun e_=>absurd (d8.2 e_) oM));exact d.ret [(0,0,6)] (.tuple #[qY b x gb.length y,iV 0]) (⟨b,gb,_,_,by rw[B],d.f.2.1,fun _=>(Ch C (nI oM))⟩)
      have zp:=oT zf;refine lB 70 zf (lL d [.v (pB b4),.o (iV op) 3 0 1] ?_);cases zi:((op:Int) == (12:Int))
      .
       have zr:=aq zi;refine lB 73 zi (lL d [.v qF] (am (cK (ab d [.o (qY b x gb.length y) 1 0 6] (lP 0 0 (qZ b x gb.length y) d (fun _ d=>lL d ae (lN (kX ?_))))))));have B:cc op n a b=0:=(bE (fun e=>absurd e oM) (fun e=>absurd e oM) (fun e=>absurd e oM) (fun _=>fun e_=>absurd (d8.2 e_) oM));exact d.ret [(0,0,6)] (.tuple #[qY b x gb.length y,iV 0]) (⟨b,gb,_,_,by rw[B],d.f.2.1,fun _=>(Ch C (nI oM))⟩)
      have zr:=eq_of_beq zi;refine lB 73 zi (lL d [.v qT] (ar (ab d [.o (qY a j ga.length u) 2 0 6] (lP 0 0 (qZ a j ga.length u) d (fun _ d=>lL d ae (lN (kX ?_)))))));have B:cc op n a b=0:=(bE (fun e=>absurd e oM) (fun e=>absurd e oM) (fun e=>absurd e oM) (fun _=>fun e_=>absurd (d8.2 e_) oM));exact d.ret [(0,0,6)] (.tuple #[qY a j ga.length u,iV 0]) (⟨a,ga,_,_,by rw[B],d.f.r.1,fun _=>(Cg F (nN oM))⟩)
     have zo:=eq_of_beq ze;refine lB 67 ze (ar (ab d [.o (qY a j ga.length u) 2 0 6] (lP 0 0 (qZ a j ga.length u) d (fun _ d=>lL d ae (lN (kX ?_))))));have B:cc op n a b=7:=(r6 (.inr ⟨by omega,d8.1 oM⟩));exact d.ret [(0,0,6)] (.tuple #[qY a j ga.length u,iV 7]) (⟨a,ga,_,_,by rw[B],d.f.r.1,fun e=>absurd e (by rw[B];decide)⟩)
    have zn:=eq_of_beq zd;refine lB 39 zd (lL d ae (ar (cQ (ab d [.v (pB Q),.o (.iface 128 (.agg #[qS p m l])) 4 0 1,.o (qY b x gb.length y) 1 0 6] (au 43 d (Gp p m l L b x gb.length y _ _ d.g) (fun _ _ d=>au 44 d (gj b (LQ.mono I oM) _ _ d.g) (fun _ _ d=>?_)))))));have bk:=gy b.num;cases zj:((b.num.sign:Int) == (0:Int))
    .
     have zs:=aq zj;refine lB 45 zj (am (cK (cQ (cR 10 [] mixed d ai ?_))));refine eV 0 47 (pB Q) (eO 1 48 [(4,0,1)] (.iface 128 (.agg #[qS p m l])) d (eO 2 49 [(2,0,6)] (qY a j ga.length u) d (eV 3 50 (pB Q) (eO 4 51 [(4,0,1)] (.iface 128 (.agg #[qS p m l])) d (eO 5 52 [(1,0,6)] (qY b x gb.length y) d (eV 7 54 (.iface 128 (.agg #[qS p m l])) (eV 8 55 (.iface 128 (.agg #[qS p m l])) (eC 6 53 d (fun _ _ d=>nL p m l L (14*K+40) (D+40*K+100) oM oM oM b gb x y C (LQ.mono I oM) (fun i=>LQ.mono (H i) oM) (rc (dI oM)) _ _ d.g d.f.2.1 d.f.1) ?_))))))));rintro _ _ _ _ _ d ⟨bf,rfl,V⟩;replace d:=d.aS V;refine eC 9 56 d (fun _ _ d=>AT p m l L (14*K+40) (D+40*K+100) oM oM oM a ga j u F (LQ.mono ha oM) (fun i=>LQ.mono (J i) oM) (((1:Int):Rat)/b) ((o0 m).map fun i=>gb.getD i 0*(-((((1:Int):Rat)/b)*(((1:Int):Rat)/b)))) (sB bf) m (fE _ _) (LQ.mono (LQ.div (LQ.int (z:=1) kD kD) I) oM) (ke (fun i=>LQ.mono ((H i).mul ((LQ.div (LQ.int (z:=1) kD kD) I).mul (LQ.div (LQ.int (z:=1) kD kD) I)).neg) oM) oM) _ _ d.g d.f.r.2.1 d.f.1 d.f.2.1) ?_;rintro _ _ _ _ _ d ⟨S,rfl,X⟩;replace d:=d.aS X;refine bA d (fun _ _ d=>tP 10 0 0 (qZ (a*(((1:Int):Rat)/b)) (sB S) (((o0 m).map fun i=>ga.getD i 0*(((1:Int):Rat)/b)+a*((o0 m).map fun i=>gb.getD i 0*(-((((1:Int):Rat)/b)*(((1:Int):Rat)/b)))).getD i 0).length) m) d (fun _ d=>tV 11 9 (iV 0) (tN (kX ?_))));obtain rfl:op=6:=by omega
     have B:cc 6 n a b=0:=(bE (fun _=>dI oM) (fun e=>absurd e kD) (fun e=>absurd e kD) (fun e=>absurd e kD));exact d.ret [(0,0,6)] (.tuple #[qY (a*(((1:Int):Rat)/b)) (sB S) (((o0 m).map fun i=>ga.getD i 0*(((1:Int):Rat)/b)+a*((o0 m).map fun i=>gb.getD i 0*(-((((1:Int):Rat)/b)*(((1:Int):Rat)/b)))).getD i 0).length) m,iV 0]) (⟨a*(((1:Int):Rat)/b),((o0 m).map fun i=>ga.getD i 0*(((1:Int):Rat)/b)+a*((o0 m).map fun i=>gb.getD i 0*(-((((1:Int):Rat)/b)*(((1:Int):Rat)/b)))).getD i 0),_,_,by rw[B],d.f.1,fun _=>(Hx (dI oM))⟩)
    have zs:=eq_of_beq zj;refine lB 45 zj (ar (ab d [.o (qY a j ga.length u) 2 0 6] (lP 0 0 (qZ a j ga.length u) d (fun _ d=>lL d ae (lN (kX ?_))))));obtain rfl:op=6:=by omega
    have B:cc 6 n a b=6:=(re (.inl ⟨rfl,oz oM⟩));exact d.ret [(0,0,6)] (.tuple #[qY a j ga.length u,iV 6]) (⟨a,ga,_,_,by rw[B],d.f.r.1,fun e=>absurd e (by rw[B];decide)⟩)
   have zm:=eq_of_beq zc;refine lB 32 zc (lL d ae (ar (ab d [.v (pB Q),.o (.iface 128 (.agg #[qS p m l])) 4 0 1,.o (qY a j ga.length u) 2 0 6,.o (qY b x gb.length y) 1 0 6] (lC 37 d (AT p m l L (14*K+40) (D+40*K+100) oM oM oM a ga j u F (LQ.mono ha oM) (fun i=>LQ.mono (J i) oM) b gb x y C (LQ.mono I oM) (fun i=>LQ.mono (H i) oM) _ _ d.g d.f.r.1 d.f.2.1 d.f.1) ?_))));rintro _ _ _ d ⟨O,rfl,W⟩;replace d:=d.aS W;refine lP 0 0 (qZ (a*b) (sB O) (((o0 m).map fun i=>ga.getD i 0*b+a*gb.getD i 0).length) m) d (fun _ d=>lL d ae (lN (kX ?_)));obtain rfl:op=5:=by omega
   have B:cc 5 n a b=0:=(bE (fun e=>absurd e kD) (fun e=>absurd e kD) (fun e=>absurd e kD) (fun e=>absurd e kD));exact d.ret [(0,0,6)] (.tuple #[qY (a*b) (sB O) (((o0 m).map fun i=>ga.getD i 0*b+a*gb.getD i 0).length) m,iV 0]) (⟨a*b,((o0 m).map fun i=>ga.getD i 0*b+a*gb.getD i 0),_,_,by rw[B],d.f.1,fun _=>⟨rfl,HM⟩⟩)
  have zl:=eq_of_beq zb;refine lB 21 zb (lL d ae (ar (cQ (cR 9 [] mixed d ai ?_))));refine eV 0 22 (pB Q) (eO 1 23 [(4,0,1)] (.iface 128 (.agg #[qS p m l])) d (eO 2 24 [(2,0,6)] (qY a j ga.length u) d (eO 3 25 [(4,0,3)] (.agg #[.iface 128 (.agg #[qS p m l]),.map (some bm),qF]) d (eO 4 26 [(1,0,6)] (qY b x gb.length y) d (eV 6 28 (.iface 128 (.agg #[qS p m l])) (eV 7 29 (.iface 128 (.agg #[qS p m l])) (eC 5 27 d (fun _ _ d=>mN p m l L (14*K+40) (D+40*K+100) oM oM oM bm false b gb x y C (LQ.mono I oM) (fun i=>LQ.mono (H i) oM) _ _ d.g d.f.2.1 d.f.1) ?_)))))));rintro _ _ _ _ _ d ⟨bd,rfl,bb⟩;replace d:=d.aS bb;refine eC 8 30 d (fun _ _ d=>Dz p m l L (14*K+40) (D+40*K+100) oM oM oM a ga j u F (LQ.mono ha oM) (fun i=>LQ.mono (J i) oM) (b*((-1:Int):Rat)) ((o0 m).map fun i=>gb.getD i 0*((-1:Int):Rat)) (sB bd) m (fE _ _) (LQ.mono (I.mul (LQ.int (z:=-1) kD kD)) oM) (ke (fun i=>((H i).mul (LQ.int (z:=-1) kD kD)).mono oM) oM) _ _ d.g d.f.r.2.1 d.f.1 d.f.2.1) ?_;rintro _ _ _ _ _ d ⟨U,rfl,Y⟩;replace d:=d.aS Y;refine bA d (fun _ _ d=>tP 9 0 0 (qZ (a+(b*((-1:Int):Rat))) (sB U) (((o0 m).map fun i=>ga.getD i 0+((o0 m).map fun i=>gb.getD i 0*((-1:Int):Rat)).getD i 0).length) m) d (fun _ d=>tV 10 9 (iV 0) (tN (kX ?_))));obtain rfl:op=4:=by omega
  have B:cc 4 n a b=0:=(bE (fun e=>absurd e kD) (fun e=>absurd e kD) (fun e=>absurd e kD) (fun e=>absurd e kD));exact d.ret [(0,0,6)] (.tuple #[qY (a+(b*((-1:Int):Rat))) (sB U) (((o0 m).map fun i=>ga.getD i 0+((o0 m).map fun i=>gb.getD i 0*((-1:Int):Rat)).getD i 0).length) m,iV 0]) (⟨a+(b*((-1:Int):Rat)),((o0 m).map fun i=>ga.getD i 0+((o0 m).map fun i=>gb.getD i 0*((-1:Int):Rat)).getD i 0),_,_,by rw[B],d.f.1,fun _=>HK⟩)
 have zk:=eq_of_beq za;refine lB 14 za (lL d ae (ar (ab d [.v (pB Q),.o (.iface 128 (.agg #[qS p m l])) 4 0 1,.o (qY a j ga.length u) 2 0 6,.o (qY b x gb.length y) 1 0 6] (lC 19 d (Dz p m l L (14*K+40) (D+40*K+100) oM oM oM a ga j u F (LQ.mono ha oM) (fun i=>LQ.mono (J i) oM) b gb x y C (LQ.mono I oM) (fun i=>LQ.mono (H i) oM) _ _ d.g d.f.r.1 d.f.2.1 d.f.1) ?_))));rintro _ _ _ d ⟨M,rfl,Z⟩;replace d:=d.aS Z;refine lP 0 0 (qZ (a+b) (sB M) (((o0 m).map fun i=>ga.getD i 0+gb.getD i 0).length) m) d (fun _ d=>lL d ae (lN (kX ?_)));obtain rfl:op=3:=by omega
 have B:cc 3 n a b=0:=(bE (fun e=>absurd e kD) (fun e=>absurd e kD) (fun e=>absurd e kD) (fun e=>absurd e kD));exact d.ret [(0,0,6)] (.tuple #[qY (a+b) (sB M) (((o0 m).map fun i=>ga.getD i 0+gb.getD i 0).length) m,iV 0]) (⟨a+b,((o0 m).map fun i=>ga.getD i 0+gb.getD i 0),_,_,by rw[B],d.f.1,fun _=>⟨rfl,HO⟩⟩)
end Go.Proofs.YtcbgbcghmndlmaaGreatDoor
