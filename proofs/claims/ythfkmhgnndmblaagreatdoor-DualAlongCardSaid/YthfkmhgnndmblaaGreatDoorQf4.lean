/- Laws of this claim, part 5. -/
import Derived.Test.YthfkmhgnndmblaaGreatDoorQf0
import Derived.Test.YthfkmhgnndmblaaGreatDoorQf1
import Derived.Test.YthfkmhgnndmblaaGreatDoorQf2
import Derived.Test.YthfkmhgnndmblaaGreatDoorQf3
set_option maxRecDepth 100000
set_option maxHeartbeats 4000000
namespace Go.Proofs.YthfkmhgnndmblaaGreatDoor
open _root_.Array renaming getElem?_push_size -> fo, getElem?_setIfInBounds_ne -> i2, getElem?_setIfInBounds_self_of_lt -> As, setIfInBounds_comm -> gq
open Bool renaming and_eq_true -> i3, noConfusion -> NS
open Int renaming lt_trichotomy -> M0, mul_nonneg -> NF, sign_eq_neg_one_iff_neg -> NY, sign_eq_neg_one_of_neg -> M1, sign_eq_one_of_pos -> M3, sign_eq_zero_iff_zero -> NR, sign_trichotomy -> NZ
open List renaming all_eq_true -> oi, append_nil -> N2, getD_eq_getElem?_getD -> LM, getElem?_eq_getElem -> NO, getElem_mem -> gp, length_append -> y4, length_cons -> tq, length_map -> NH, length_nil -> NX, length_range -> NI, length_replicate -> NL, length_singleton -> NP, lookup_cons -> hP, map_append -> NK, mem_append -> gs, mem_cons -> g2, mem_flatMap -> Mm, mem_map -> gx, mem_singleton -> sy, range -> ov, range_succ -> NJ, replicate -> zY, set_getElem_self -> N3, take_append_drop -> LI
open Nat renaming add_mul -> LS, add_zero -> wj, le_add_right -> NQ, le_mul_of_pos_left -> MS, le_mul_of_pos_right -> NU, le_refl -> eb, le_total -> MO, le_trans -> ep, lt_succ_iff_lt_or_eq -> NT, min_eq_left -> Lv, min_eq_right -> LY, mul_assoc -> Ls, mul_comm -> HA, mul_le_mul -> Md, mul_le_mul_left -> LD, mul_le_mul_right -> y9, mul_left_comm -> NV, not_lt_zero -> NN, succ_ne_zero -> NW, succ_pos -> MB, zero_add -> y8, zero_le -> My
open Option renaming mem_toList -> NG
open Rat renaming add_comm -> N1, intCast_neg -> NM, num_eq_zero -> Nz, num_nonneg -> N0
open Go.RowKit
open Go.RowKit Go.Shelf
def fv (op n sum:Int):Int:=if op=11 then 2*sum else if op=8/\n≠0 then sum*(if n<0 then 0-n else n) else sum
theorem If {a n:Int}(h:0<=a/\a<=1073741824)(hn : -12<=n/\n<=12) : -12884901888<=a*n/\a*n<=12884901888:=by
 have h1:(a*n).natAbs<=1073741824*12:=by rw[Int.natAbs_mul];exact Md oM oM
 omega
theorem EB (op n a:Int)(C:0<=a/\a<=1073741824)(hn:op=8 -> -12<=n/\n<=12)(w:World)(h:Hp)(g:G w h):CV 107 #[iV op,iV n,iV a] w h (iV (min (fv op n a) 1073741824)):=by
 have b:=sS g;have d:min (a:Int) (1073741824:Int)=a:=by omega
 have K:=fun h8:op=8=>If C (hn h8)
 have J:=fun h8:op=8=>If (n:=0-n) C (by have:=hn h8;omega)
 rw[<-d] at K J
 have O:n<=0->(min (a:Int) (1073741824:Int))*n<=0/\0<=(min (a:Int) (1073741824:Int))*(0-n):=fun L=>⟨Int.mul_nonpos_of_nonneg_of_nonpos oM L,NF oM oM⟩
 have Q:0<=n->0<=(min (a:Int) (1073741824:Int))*n:=fun L=>NF oM L
 refine go Tryz.func107 [(0,iV op),(1,iV n),(2,iV a)] rfl (aa b ac (ag (kZ (aa b ac ?_))));cases j:((op:Int) == (11:Int))
 .
  have B:=aj j;refine lB 9 j (lL b ac (ah (aa b ac ?_)));cases l:((op:Int) == (8:Int))
  .
   have D:=aj l;refine lB 14 l (lL b ac (lG 16 ?_));refine lG 17 (lL b [.v qF,.c] (ah (cK (aa b ac (lV 34 (iV (min (a:Int) (1073741824:Int))) ?_ (hr:=aK (n:=(if (1073741824:Int)<(a:Int) then (1073741824:Int) else (a:Int))) kR (by simp only[fC])))))));exact lL b ac (ae b [] (iV (min (a:Int) (1073741824:Int))) (congrArg (Value.int .i64) (by unfold fv;first|(rw[if_pos oM]<;>omega)|(rw[if_neg oM,if_pos oM,if_pos oM]<;>rw[d] at * <;> omega)|(rw[if_neg oM,if_pos oM,if_neg oM]<;>rw[d] at * <;> omega)|(rw[if_neg oM,if_neg oM]<;>omega))))
  have D:=eq_of_beq l;refine lB 14 l (lL b aD ?_);cases i:((n:Int) != (0:Int))
  .
   have F:=aJ i;refine lB 17 i (lL b [.v qF,.c] (ah (cK (aa b ac (lV 34 (iV (min (a:Int) (1073741824:Int))) ?_ (hr:=aK (n:=(if (1073741824:Int)<(a:Int) then (1073741824:Int) else (a:Int))) kR (by simp only[fC])))))));exact lL b ac (ae b [] (iV (min (a:Int) (1073741824:Int))) (congrArg (Value.int .i64) (by unfold fv;first|(rw[if_pos oM]<;>omega)|(rw[if_neg oM,if_pos oM,if_pos oM]<;>rw[d] at * <;> omega)|(rw[if_neg oM,if_pos oM,if_neg oM]<;>rw[d] at * <;> omega)|(rw[if_neg oM,if_neg oM]<;>omega))))
  have F:=aI i;refine lB 17 i (lL b [.v qT,.c] (am (cQ (aa b ac ?_))));cases e:(decide ((n:Int)<(0:Int)))
  .
   have x:=oF e;refine lB 20 e (ah (cK (cQ (aa b ac ?_))));have ⟨I,M⟩:=dF (p:=(n:Int)<(0:Int)) oM;refine lB 24 I (lL b aD ?_);cases u:(decide ((1073741824:Int)<(n:Int)))
   .
    have y:=oF u;refine lB 27 u (lL b [.v qF] (ah (cK (kQ (lL b ac (lV 30 (iV (min (a:Int) (1073741824:Int))) ?_ (hr:=aK (n:=(if (1073741824:Int)<(a:Int) then (1073741824:Int) else (a:Int))) kR (by simp only[fC]))))))));refine lL b ac (lI 32 ((min (a:Int) (1073741824:Int))*n) ?_);refine lL b ac (aG (lL b ac (lV 34 (iV (min ((min (a:Int) (1073741824:Int))*n:Int) (1073741824:Int))) ?_ (hr:=aK (n:=(if (1073741824:Int)<((min (a:Int) (1073741824:Int))*n:Int) then (1073741824:Int) else ((min (a:Int) (1073741824:Int))*n:Int))) kR (by simp only[fC])))));exact lL b ac (ae b [] (iV (min ((min (a:Int) (1073741824:Int))*n:Int) (1073741824:Int))) (congrArg (Value.int .i64) (by unfold fv;first|(rw[if_pos oM]<;>omega)|(rw[if_neg oM,if_pos oM,if_pos oM]<;>rw[d] at * <;> omega)|(rw[if_neg oM,if_pos oM,if_neg oM]<;>rw[d] at * <;> omega)|(rw[if_neg oM,if_neg oM]<;>omega))))
   have y:=oT u;refine lB 27 u (lL b [.v qT] (am (kQ (lL b ac (lN (kQ (lL b ac (lV 30 (iV (min (a:Int) (1073741824:Int))) ?_ (hr:=aK (n:=(if (1073741824:Int)<(a:Int) then (1073741824:Int) else (a:Int))) kR (by simp only[fC]))))))))));refine lL b ac (lI 32 ((min (a:Int) (1073741824:Int))*1073741824) ?_);refine lL b ac (aG (lL b ac (lV 34 (iV (min ((min (a:Int) (1073741824:Int))*1073741824:Int) (1073741824:Int))) ?_ (hr:=aK (n:=(if (1073741824:Int)<((min (a:Int) (1073741824:Int))*1073741824:Int) then (1073741824:Int) else ((min (a:Int) (1073741824:Int))*1073741824:Int))) kR (by simp only[fC])))));exact lL b ac (ae b [] (iV (min ((min (a:Int) (1073741824:Int))*1073741824:Int) (1073741824:Int))) (congrArg (Value.int .i64) (by unfold fv;first|(rw[if_pos oM]<;>omega)|(rw[if_neg oM,if_pos oM,if_pos oM]<;>rw[d] at * <;> omega)|(rw[if_neg oM,if_pos oM,if_neg oM]<;>rw[d] at * <;> omega)|(rw[if_neg oM,if_neg oM]<;>omega))))
  have x:=oT e;refine lB 20 e (am (kQ (lL b ac (lI 22 (0-n) ?_))));refine lL b ac (ag (aa b ac ?_));cases o:(decide ((0-n:Int)<(0:Int)))
  .
   have H:=oF o;refine lB 24 o (lL b aD ?_);cases f:(decide ((1073741824:Int)<(0-n:Int)))
   .
    have z:=oF f;refine lB 27 f (lL b [.v qF] (ah (cK (kQ (lL b ac (lV 30 (iV (min (a:Int) (1073741824:Int))) ?_ (hr:=aK (n:=(if (1073741824:Int)<(a:Int) then (1073741824:Int) else (a:Int))) kR (by simp only[fC]))))))));refine lL b ac (lI 32 ((min (a:Int) (1073741824:Int))*(0-n)) ?_);refine lL b ac (aG (lL b ac (lV 34 (iV (min ((min (a:Int) (1073741824:Int))*(0-n):Int) (1073741824:Int))) ?_ (hr:=aK (n:=(if (1073741824:Int)<((min (a:Int) (1073741824:Int))*(0-n):Int) then (1073741824:Int) else ((min (a:Int) (1073741824:Int))*(0-n):Int))) kR (by simp only[fC])))));exact lL b ac (ae b [] (iV (min ((min (a:Int) (1073741824:Int))*(0-n):Int) (1073741824:Int))) (congrArg (Value.int .i64) (by unfold fv;first|(rw[if_pos oM]<;>omega)|(rw[if_neg oM,if_pos oM,if_pos oM]<;>rw[d] at * <;> omega)|(rw[if_neg oM,if_pos oM,if_neg oM]<;>rw[d] at * <;> omega)|(rw[if_neg oM,if_neg oM]<;>omega))))
   have z:=oT f;refine lB 27 f (lL b [.v qT] (am (kQ (lL b ac (lN (kQ (lL b ac (lV 30 (iV (min (a:Int) (1073741824:Int))) ?_ (hr:=aK (n:=(if (1073741824:Int)<(a:Int) then (1073741824:Int) else (a:Int))) kR (by simp only[fC]))))))))));refine lL b ac (lI 32 ((min (a:Int) (1073741824:Int))*1073741824) ?_);refine lL b ac (aG (lL b ac (lV 34 (iV (min ((min (a:Int) (1073741824:Int))*1073741824:Int) (1073741824:Int))) ?_ (hr:=aK (n:=(if (1073741824:Int)<((min (a:Int) (1073741824:Int))*1073741824:Int) then (1073741824:Int) else ((min (a:Int) (1073741824:Int))*1073741824:Int))) kR (by simp only[fC])))));exact lL b ac (ae b [] (iV (min ((min (a:Int) (1073741824:Int))*1073741824:Int) (1073741824:Int))) (congrArg (Value.int .i64) (by unfold fv;first|(rw[if_pos oM]<;>omega)|(rw[if_neg oM,if_pos oM,if_pos oM]<;>rw[d] at * <;> omega)|(rw[if_neg oM,if_pos oM,if_neg oM]<;>rw[d] at * <;> omega)|(rw[if_neg oM,if_neg oM]<;>omega))))
  have H:=oT o;refine lB 24 o (lL b ac (lG 26 ?_));refine lG 27 (lL b [.v qT] (am (kQ (lL b ac (lN (kQ (lL b ac (lV 30 (iV (min (a:Int) (1073741824:Int))) ?_ (hr:=aK (n:=(if (1073741824:Int)<(a:Int) then (1073741824:Int) else (a:Int))) kR (by simp only[fC]))))))))));refine lL b ac (lI 32 ((min (a:Int) (1073741824:Int))*1073741824) ?_);refine lL b ac (aG (lL b ac (lV 34 (iV (min ((min (a:Int) (1073741824:Int))*1073741824:Int) (1073741824:Int))) ?_ (hr:=aK (n:=(if (1073741824:Int)<((min (a:Int) (1073741824:Int))*1073741824:Int) then (1073741824:Int) else ((min (a:Int) (1073741824:Int))*1073741824:Int))) kR (by simp only[fC])))));exact lL b ac (ae b [] (iV (min ((min (a:Int) (1073741824:Int))*1073741824:Int) (1073741824:Int))) (congrArg (Value.int .i64) (by unfold fv;first|(rw[if_pos oM]<;>omega)|(rw[if_neg oM,if_pos oM,if_pos oM]<;>rw[d] at * <;> omega)|(rw[if_neg oM,if_pos oM,if_neg oM]<;>rw[d] at * <;> omega)|(rw[if_neg oM,if_neg oM]<;>omega))))
 have B:=eq_of_beq j;refine lB 9 j (lL b ac (am (kQ (lL b ac (lI 11 (2*a) ?_)))));refine lL b ac (aG (lL b ac (lV 34 (iV (min (2*a:Int) (1073741824:Int))) ?_ (hr:=aK (n:=(if (1073741824:Int)<(2*a:Int) then (1073741824:Int) else (2*a:Int))) kR (by simp only[fC])))));exact lL b ac (ae b [] (iV (min (2*a:Int) (1073741824:Int))) (congrArg (Value.int .i64) (by unfold fv;first|(rw[if_pos oM]<;>omega)|(rw[if_neg oM,if_pos oM,if_pos oM]<;>rw[d] at * <;> omega)|(rw[if_neg oM,if_pos oM,if_neg oM]<;>rw[d] at * <;> omega)|(rw[if_neg oM,if_neg oM]<;>omega))))
theorem vm {t:RT}{a b c:Value}(e:C7 t=.agg #[a,b,c]):fX t=[a,b,c]:=by
 unfold C7 at e
 injection e with e
 simp only[Array.mk.injEq,List.cons.injEq,and_true] at e
 obtain ⟨e1,e2,d⟩:=e
 unfold fX;rw[<-e1,<-e2,<-d]
theorem wO {o:OSt}(hz:o.has=false->o.q=0)(h:ol o=0\/o.q.num=0):o.q=((0:Int):Rat):=by
 rcases h with h|h
 ·refine hz ?_
  have a:=DI (o:=o);rw[h,f0] at a
  cases b:o.has with
  | false=>rfl
  | true=>rw[b] at a;simp at a
 ·exact Nz.1 h
theorem wQ {o:OSt}(hz:o.has=false->o.q=0)(h:¬(ol o=0\/o.q.num=0)):ol o=o.q.den:=by
 refine Ee ?_;cases a:o.has with
 | true=>rfl
 | false=>exact absurd (.inr (by rw[hz a];rfl)) h
theorem oK {a:Rat}:0<a.num.sign↔0<a:=by
 rw[Rat.lt_iff]
 rcases M0 a.num 0 with h|h|h
 ·rw[M1 h];simp;omega
 ·rw[h];simp
 ·rw[M3 h];simpa using h
theorem Cx (o:OSt)(A:Z9)(c:Nat)(D:Z9)(d:Nat)(l:(lim (ab o.q.num)).length<=c)(j:(lim (ol o)).length<=d)(hz:o.has=false->o.q=0)(w:World)(h:Hp)(g:G w h)(I:S3 A (lim (ab o.q.num)) h)(B:S3 D (lim (ol o)) h):CR 65 #[.agg #[.bool (af o.q.num),.slice A ((lim (ab o.q.num)).length) c,.slice D ((lim (ol o)).length) d]] w h (fun v h1=>RQ h1 v o.q):=by
 have a:=(((sS g).aS I).aS B);refine go Tryz.func65 [(0,.agg #[.bool (af o.q.num),qS A ((lim (ab o.q.num)).length) c,qS D ((lim (ol o)).length) d])] rfl (ax (lA 1 28 ([.bool (af o.q.num),qS A ((lim (ab o.q.num)).length) c,qS D ((lim (ol o)).length) d]) a (fun M w2 O a=>lA 2 28 cA a (fun Q L K a=>ag (aa a [.o (.agg #[.bool (af o.q.num),qS A ((lim (ab o.q.num)).length) c,qS D ((lim (ol o)).length) d]) 1 0 3] (aq 4 a (E8 o.q.num A c (ol o) D d l j _ _ a.g a.f.2.1 a.f.1) (fun J S a=>?_)))))));cases e:(decide (ol o=0\/o.q.num=0))
 .
  have b:=oF e;exact ah (cK (aa a [.o (.agg #[.bool (af o.q.num),qS A ((lim (ab o.q.num)).length) c,qS D ((lim (ol o)).length) d]) 1 0 3] (lP 0 0 ([.bool (af o.q.num),qS A ((lim (ab o.q.num)).length) c,qS D ((lim (ol o)).length) d]) a (fun _ a=>ae a [(0,0,3)] (.agg #[.bool (af o.q.num),qS A ((lim (ab o.q.num)).length) c,qS D ((lim (ol o)).length) d]) (by have i:=wQ hz (o:=o) oM;show RP _ _ o.q.num o.q.den;rw[<-i];exact ⟨A,c,D,d,rfl,l,j,a.f.2.1,a.f.1⟩)))))
 have b:=oT e;refine am (ax (lC 5 a (oH 0 oM oM _ _ a.g) ?_));rintro _ _ _ a ⟨x,y,u,p,rfl,z,H,F,C⟩;replace a:=a.aP F C;exact lP 0 0 (gE ((0:Int):Rat) x y u p) a (fun _ a=>ae a [(0,0,3)] (rG ((0:Int):Rat) x y u p) (RQ.eq ⟨_,_,_,_,rfl,z,H,a.f.2.1,a.f.1⟩ (wO hz oM).symm))
section ro
variable {w0:World}{h0:Hp}{w:World}{h:Hp}{B:List Bx}{R:List Rw}{F:List (Hp->Prop)}
theorem SS.ro_jk (s:SS w0 h0 w h B R F)(j:Nat){ty:TypeId}{sz c m:Nat}{A:Z9}{cs:List Value}(hr:R.getD j default=⟨ty,sz,A,c,m,cs⟩:=by kernel_rfl)(d:decide (j<R.length)=true:=by kernel_rfl):∀ b∈(Value.slice A m c).ownBlock.toList,h[b]?=some be:=fun b e=>by
 have a:=oT d;have r:=s.ro _ (gp a);rw[eL hr a] at r
 exact r.jk b (NG.1 e)
theorem SS.ro_lt (s:SS w0 h0 w h B R F)(j:Nat){ty:TypeId}{sz c m:Nat}{A:Z9}{cs:List Value}(hr:R.getD j default=⟨ty,sz,A,c,m,cs⟩:=by kernel_rfl)(d:decide (j<R.length)=true:=by kernel_rfl):∀ b∈(Value.slice A m c).ownBlock.toList,b<h.size:=fun b e=>by
 have a:=oT d;have r:=s.ro _ (gp a);rw[eL hr a] at r
 exact aR (r.jk b (NG.1 e))
theorem SS.ro_ne (s:SS w0 h0 w h B R F)(q j:Nat){ty:TypeId}{sz c m:Nat}{A:Z9}{cs:List Value}(e:decide (q<B.length)=true:=by kernel_rfl)(hr:R.getD j default=⟨ty,sz,A,c,m,cs⟩:=by kernel_rfl)(d:decide (j<R.length)=true:=by kernel_rfl):(av B q).b ∉ (Value.slice A m c).ownBlock.toList:=fun f=>by
 have a:=oT d;have r:=s.ro _ (gp a);rw[eL hr a] at r
 exact r.ap _ (NG.1 f) (gx.2 ⟨_,bu (oT e),rfl⟩)
end ro
def e7 (xs ys:List Rat)(i:Nat):Nat->Rat
  | 0=>((0:Int):Rat)
  | j+1=>e7 xs ys i j+xs.getD j 0*ys.getD (i-j) 0
theorem ut {xs ys:List Rat}{K L i:Nat}(ha:∀ j,LQ K (xs.getD j 0))(a:∀ j,LQ L (ys.getD j 0)):∀ j,LQ (j*(K+L+1)+1) (e7 xs ys i j)
 | 0=>LQ.mono (k:=1) (LQ.lit (z:=0) kD) oM
 | j+1=>((ut ha a j).add ((ha j).mul (a (i-j)))).mono (by rw[LS];omega)
def fh (xs ys os:List Rat)(i:Nat):Nat->Rat
  | 0=>xs.getD i 0
  | j+1=>fh xs ys os i j-os.getD j 0*ys.getD (i-j) 0
def dk (xs ys:List Rat):Nat->List Rat
  | 0=>[]
  | k+1=>dk xs ys k++[fh xs ys (dk xs ys k) k k/ys.getD 0 0]
theorem jy (xs ys:List Rat):∀ k,(dk xs ys k).length=k
 | 0=>rfl
 | k+1=>by show (dk xs ys k++[_]).length=_;rw[y4,jy xs ys k];rfl
theorem Dq {xs ys a:List Rat}{K L i:Nat}(ha:∀ j,LQ K (xs.getD j 0))(c:∀ j,LQ L (ys.getD j 0))(b:∀ j,LQ (K+L) (a.getD j 0))(hi:i<=1):∀ j,j<=i->LQ (2*K+2*L+2) (fh xs ys a i j)
 | 0,_=>(ha i).mono oM
 | 1,_=>((ha i).sub ((b 0).mul (c (i-0)))).mono oM
 | j+2,h=>absurd h oM
theorem Ch {xs ys:List Rat}{K L k:Nat}(hk:k<=1)(b:1<=K)(ha:∀ j,LQ K (xs.getD j 0))(a:∀ j,LQ L (ys.getD j 0)):∀ j,LQ (K+L) ((dk xs ys k).getD j 0):=by
 intro j
 rcases Nat.lt_or_ge 0 k with h|h
 ·obtain rfl:k=1:=by omega
  cases j with
  | zero=>exact (ha 0).div (a 0)
  | succ j=>show LQ _ (([]:List Rat).getD j 0);simp;exact iE oM
 ·obtain rfl:k=0:=by omega
  show LQ _ (([]:List Rat).getD j 0);simp;exact iE oM
theorem oJ (A:Z9)(I:Nat)(xs:List Rat)(d:List RT)(q:Rat)(x:Z9)(c1:Nat)(y:Z9)(z:Nat)(W:(lim (ab q.num)).length<=c1)(V:(lim q.den).length<=z)(K L:Nat)(hK:3*K+3*L+10<=100000000)(hn:xs.length<=2)(ha:∀ j,LQ K (xs.getD j 0))(Q:LQ L q)(w:World)(h:Hp)(g:G w h)(hA:Sr A d h)(Z:RTs h d xs)(hA1:S3 x (lim (ab q.num)) h)(O:S3 y (lim q.den) h):CR 113 #[.slice A d.length I,rG q x c1 y z] w h (fun v h1=>∃ A c J,v=.slice A (J:List RT).length c/\J.length<=c/\Sr A J h1/\RTs h1 J ((ov xs.length).map fun i=>xs.getD i 0*q)):=by
 have a:=(((((sS g).aS hA).aT Z).aS hA1).aS O);have hla:=(a.f.r.1).len;refine go Tryz.func113 [(0,qS A d.length I),(1,rG q x c1 y z)] rfl (ax (lA 3 28 (gE q x c1 y z) a (fun b1 w2 h3 a=>lL a ac (aG (lL a ac (ag (aa a ac (aZ ?_))))))));replace a:=a.nil 28 3;replace a:=a.aT (RTs.nil);refine bH _ (CG.loop (fun X Γ w_=>∃ (k:Nat)(o:Z9)(e:Nat)(tl:List RT)(h_:Hp),X=xs.length-k/\Γ=[(0,qS A d.length I),(3,pB b1),(4,sZ),(6,nV k),(5,qS o ((tl).length) e)]/\SS w h w_ h_ [⟨b1,28,gE q x c1 y z⟩] [⟨28,3,o,e,(tl).length,(tl).flatMap fX⟩] [Rt tl ((ov k).map fun i=>xs.getD i 0*q),S3 y (lim q.den),S3 x (lim (ab q.num)),Rt d xs,Sr A d]/\k<=xs.length) _ ⟨0,none,0,[],h3,rfl,rfl,a.to _ _,My _⟩ ?_);rintro _ _ w4 ⟨k,o,e,tl,h5,hm6,rfl,a,hk⟩;have U:=(a.f.1).len;rw[NH,NI] at U
 refine cQ (aa a [.c,.c,.v (nV d.length)] ?_);cases u:(decide ((k:Int)<(d.length:Int)))
 .
  have F:=oF u;refine lB 10 u (ah (CG.exit ?_))
  show CG _ _ _ _ _ _ _ _
  refine aa a aD (lN (kX ?_));obtain ⟨h8,a,hc9⟩:=a.pubr 0 (A:=o) (c:=e) (l:=tl) (f:=fX) (ty:=28) (sz:=3) gQ (fun _=>rfl);exact a.ret [] (qS o ((tl).length) e) (by rw[show xs.length=k by omega];exact ⟨_,_,tl,rfl,hc9,a.f.1,a.f.2.1⟩)
 have F:=oT u;refine lB 10 u (am (cK (cQ (kZ (CG.region ⟨((Value.slice o ((tl).length) e).ownBlock.toList),none⟩ 9 [] mixed kR a.g ao (a.ro_lt 0 (ty:=28) (sz:=3) (A:=o) (c:=e) (m:=(tl).length) (cs:=(tl).flatMap fX)) ?_)))));refine eV 0 13 (qS o ((tl).length) e) (eV 1 14 (qS A d.length I) (eV 2 15 (nV k) (eX 3 16 A d.length I 3 (k:Nat) k ((a.f.q.1).ok oM) ?_)));obtain ⟨Ax,cx,Dx,dx,ex,hcx,M,Y,S⟩:=(a.f.r.2.1).at_ k oM;replace a:=a.aP Y S;refine wk 4 17 (rA (d.getD k gQ)) a ((a.f.q.r.1).el k oM) ex ?_ (hM:=a.ro_jk 0 (ty:=28) (sz:=3) (A:=o) (c:=e) (m:=(tl).length) (cs:=(tl).flatMap fX));refine eO 5 18 [(0,0,3)] (rG q x c1 y z) a ?_ (hM:=fun p hp=>by obtain rfl:=sy.1 hp;exact a.ro_ne 0 0 (ty:=28) (sz:=3) (A:=o) (c:=e) (m:=(tl).length) (cs:=(tl).flatMap fX));have bb:=LQ.mul (ha k) Q;refine eC 6 19 a (fun _ _ a=>GW (xs.getD k 0) Ax cx Dx dx hcx M (nl (ha k)) (nD (ha k)) q x c1 y z W V (nl Q) (nD Q) _ _ a.g a.f.2.1 a.f.1 a.f.q.1 a.f.r.2.1) ?_;rintro _ _ _ _ _ a ⟨D,H,C,B,rfl,zg,zi,zj,zk⟩;replace a:=a.aP zj zk;refine eR 7 20 28 1 (gE ((xs.getD k 0)*q) D H C B) a (fun zl _ _ a=>eY 8 21 0 28 3 e o tl fX ((af ((xs.getD k 0)*q).num,qS D ((lim (ab ((xs.getD k 0)*q).num)).length) H,qS C ((lim ((xs.getD k 0)*q).den).length) B):RT) 56 zl (.agg #[qF,sZ,sZ]) a (fun _ f_=>f_.1) (fun b hb=>NG.2 hb) (fun ze zf _ _ a=>bU a (fun _ zm a=>tV 9 5 (qS ze ((tl++[((af ((xs.getD k 0)*q).num,qS D ((lim (ab ((xs.getD k 0)*q).num)).length) H,qS C ((lim ((xs.getD k 0)*q).den).length) B):RT)]).length) zf) (tN (kQ (lL a ac (bp 12 ((k:Nat)+1) (k+1) ?_)))))));refine lL a ac (lD ?_);intro a_ ka;replace a:=(a.tl.tl.tl.tl.tl.tl.add (K:=Rt (tl++[((af ((xs.getD k 0)*q).num,qS D ((lim (ab ((xs.getD k 0)*q).num)).length) H,qS C ((lim ((xs.getD k 0)*q).den).length) B):RT)]) ((ov (k+1)).map fun i=>xs.getD i 0*q)) (by rw[NJ,NK];exact (a.f.q.2.1).snoc (qx zg zi a.f.r.1 a.f.2.1)));refine ⟨_,_,?_,⟨k+1,ze,zf,tl++[((af ((xs.getD k 0)*q).num,qS D ((lim (ab ((xs.getD k 0)*q).num)).length) H,qS C ((lim ((xs.getD k 0)*q).den).length) B):RT)],zm,rfl,rfl,a.to _ _,oM⟩,ka.to _ kR⟩
 omega
theorem wH (A:Z9)(I:Nat)(xs:List Rat)(e:List RT)(D:Z9)(y:Nat)(ys:List Rat)(d:List RT)(K L:Nat)(hK:3*K+3*L+10<=100000000)(hn:xs.length<=2)(ha:∀ j,LQ K (xs.getD j 0))(B:∀ j,LQ L (ys.getD j 0))(bb:xs.length<=ys.length)(w:World)(h:Hp)(g:G w h)(hA:Sr A e h)(hTa:RTs h e xs)(hD:Sr D d h)(U:RTs h d ys):CR 112 #[.slice A e.length I,.slice D d.length y] w h (fun v h1=>∃ A c J,v=.slice A (J:List RT).length c/\J.length<=c/\Sr A J h1/\RTs h1 J ((ov xs.length).map fun i=>xs.getD i 0+ys.getD i 0)):=by
 have a:=(((((sS g).aS hA).aT hTa).aS hD).aT U);have hla:=(a.f.r.1).len;have hlb:=(a.f.1).len;refine go Tryz.func112 [(0,qS A e.length I),(1,qS D d.length y)] rfl (aa a ac (aG (lL a ac (ag (aa a ac (aZ ?_))))));replace a:=a.nil 28 3;replace a:=a.aT (RTs.nil);refine bH _ (CG.loop (fun W Γ w_=>∃ (k:Nat)(p:Z9)(o:Nat)(tl:List RT)(h_:Hp),W=xs.length-k/\Γ=[(0,qS A e.length I),(1,qS D d.length y),(4,sZ),(6,nV k),(5,qS p ((tl).length) o)]/\SS w h w_ h_ [] [⟨28,3,p,o,(tl).length,(tl).flatMap fX⟩] [Rt tl ((ov k).map fun i=>xs.getD i 0+ys.getD i 0),Rt d ys,Sr D d,Rt e xs,Sr A e]/\k<=xs.length) _ ⟨0,none,0,[],h,rfl,rfl,a.to _ _,My _⟩ ?_);rintro _ _ w1 ⟨k,p,o,tl,h2,hm3,rfl,a,hk⟩;have S:=(a.f.1).len;rw[NH,NI] at S
 refine cQ (aa a [.c,.c,.v (nV e.length)] ?_);cases u:(decide ((k:Int)<(e.length:Int)))
 .
  have H:=oF u;refine lB 10 u (ah (CG.exit ?_))
  show CG _ _ _ _ _ _ _ _
  refine aa a aD (lN (kX ?_));obtain ⟨h5,a,V⟩:=a.pubr 0 (A:=p) (c:=o) (l:=tl) (f:=fX) (ty:=28) (sz:=3) gQ (fun _=>rfl);exact a.ret [] (qS p ((tl).length) o) (by rw[show xs.length=k by omega];exact ⟨_,_,tl,rfl,V,a.f.1,a.f.2.1⟩)
 have H:=oT u;refine lB 10 u (am (cK (cQ (kZ (CG.region ⟨((Value.slice p ((tl).length) o).ownBlock.toList),none⟩ 12 [] mixed kR a.g ao (a.ro_lt 0 (ty:=28) (sz:=3) (A:=p) (c:=o) (m:=(tl).length) (cs:=(tl).flatMap fX)) ?_)))));refine eV 0 13 (qS p ((tl).length) o) (eV 1 14 (qS A e.length I) (eV 2 15 (nV k) (eX 3 16 A e.length I 3 (k:Nat) k ((a.f.q.1).ok oM) ?_)));obtain ⟨Ax,cx,Dx,dx,ex,hcx,M,Z,Q⟩:=(a.f.r.2.1).at_ k oM;replace a:=a.aP Z Q;refine wk 4 17 (rA (e.getD k gQ)) a ((a.f.q.r.1).el k oM) ex ?_ (hM:=a.ro_jk 0 (ty:=28) (sz:=3) (A:=p) (c:=o) (m:=(tl).length) (cs:=(tl).flatMap fX));refine eV 5 18 (qS D d.length y) (eV 6 19 (nV k) (eX 7 20 D d.length y 3 (k:Nat) k ((a.f.q.1).ok oM) ?_));obtain ⟨Ay,cy,Dy,dy,ey,O,hdy,X,Y⟩:=(a.f.r.2.1).at_ k oM;replace a:=a.aP X Y;refine wk 8 21 (rA (d.getD k gQ)) a ((a.f.q.r.1).el k oM) ey ?_ (hM:=a.ro_jk 0 (ty:=28) (sz:=3) (A:=p) (c:=o) (m:=(tl).length) (cs:=(tl).flatMap fX));have hq8:=LQ.add (ha k) (B k);refine eC 9 22 a (fun _ _ a=>FQ (xs.getD k 0) Ax cx Dx dx hcx M (nl (ha k)) (nD (ha k)) (ys.getD k 0) Ay cy Dy dy O hdy (nl (B k)) (nD (B k)) _ _ a.g a.f.r.2.1 a.f.r.1 a.f.2.1 a.f.1) ?_;rintro _ _ _ _ _ a ⟨x,C,F,z,rfl,zf,zg,zi,zj⟩;replace a:=a.aP zi zj;refine eR 10 23 28 1 (gE ((xs.getD k 0)+(ys.getD k 0)) x C F z) a (fun zk _ _ a=>eY 11 24 0 28 3 o p tl fX ((af ((xs.getD k 0)+(ys.getD k 0)).num,qS x ((lim (ab ((xs.getD k 0)+(ys.getD k 0)).num)).length) C,qS F ((lim ((xs.getD k 0)+(ys.getD k 0)).den).length) z):RT) 56 zk (.agg #[qF,sZ,sZ]) a (fun _ f_=>f_.1) (fun b B=>NG.2 B) (fun zd ze _ _ a=>bU a (fun _ zl a=>tV 12 5 (qS zd ((tl++[((af ((xs.getD k 0)+(ys.getD k 0)).num,qS x ((lim (ab ((xs.getD k 0)+(ys.getD k 0)).num)).length) C,qS F ((lim ((xs.getD k 0)+(ys.getD k 0)).den).length) z):RT)]).length) ze) (tN (kQ (lL a ac (bp 12 ((k:Nat)+1) (k+1) ?_)))))));refine lL a ac (lD ?_);intro a_ ka;replace a:=(a.tl.tl.tl.tl.tl.tl.tl.tl.add (K:=Rt (tl++[((af ((xs.getD k 0)+(ys.getD k 0)).num,qS x ((lim (ab ((xs.getD k 0)+(ys.getD k 0)).num)).length) C,qS F ((lim ((xs.getD k 0)+(ys.getD k 0)).den).length) z):RT)]) ((ov (k+1)).map fun i=>xs.getD i 0+ys.getD i 0)) (by rw[NJ,NK];exact (a.f.q.r.2.1).snoc (qx zf zg a.f.r.1 a.f.2.1)));refine ⟨_,_,?_,⟨k+1,zd,ze,tl++[((af ((xs.getD k 0)+(ys.getD k 0)).num,qS x ((lim (ab ((xs.getD k 0)+(ys.getD k 0)).num)).length) C,qS F ((lim ((xs.getD k 0)+(ys.getD k 0)).den).length) z):RT)],zl,rfl,rfl,a.to _ _,oM⟩,ka.to _ kR⟩
 omega
theorem lJ (A:Z9)(F:Nat)(xs:List Rat)(d:List RT)(D:Z9)(C:Nat)(ys:List Rat)(b:List RT)(K L:Nat)(hK:3*K+3*L+10<=100000000)(hn:xs.length<=2)(ha:∀ j,LQ K (xs.getD j 0))(O:∀ j,LQ L (ys.getD j 0))(bb:xs.length<=ys.length)(w:World)(h:Hp)(g:G w h)(hA:Sr A d h)(hTa:RTs h d xs)(hD:Sr D b h)(Z:RTs h b ys):CR 114 #[.slice A d.length F,.slice D b.length C] w h (fun v h1=>∃ A c M,v=.slice A (M:List RT).length c/\M.length<=c/\Sr A M h1/\RTs h1 M ((ov xs.length).map fun i=>e7 xs ys i (i+1))):=by
 have a:=(((((sS g).aS hA).aT hTa).aS hD).aT Z);have hla:=(a.f.r.1).len;have hlb:=(a.f.1).len;refine go Tryz.func114 [(0,qS A d.length F),(1,qS D b.length C)] rfl (aa a ac (aG (lL a ac (ag (aa a ac (aZ ?_))))));replace a:=a.nil 28 3;replace a:=a.aT (RTs.nil);refine bH _ (CG.loop (fun B Γ Y=>∃ (k:Nat)(y:Z9)(x:Nat)(tl:List RT)(h_:Hp),B=xs.length-k/\Γ=[(0,qS A d.length F),(1,qS D b.length C),(4,sZ),(6,nV k),(5,qS y ((tl).length) x)]/\SS w h Y h_ [] [⟨28,3,y,x,(tl).length,(tl).flatMap fX⟩] [Rt tl ((ov k).map fun i=>e7 xs ys i (i+1)),Rt b ys,Sr D b,Rt d xs,Sr A d]/\k<=xs.length) _ ⟨0,none,0,[],h,rfl,rfl,a.to _ _,My _⟩ ?_);rintro _ _ w1 ⟨k,y,x,tl,h2,hm3,rfl,a,hk⟩;have W:=(a.f.1).len;rw[NH,NI] at W
 refine cQ (aa a [.c,.c,.v (nV d.length)] ?_);cases u:(decide ((k:Int)<(d.length:Int)))
 .
  have J:=oF u;refine lB 12 u (ah (CG.exit ?_))
  show CG _ _ _ _ _ _ _ _
  refine aa a aD (lN (kX ?_));obtain ⟨h5,a,hc6⟩:=a.pubr 0 (A:=y) (c:=x) (l:=tl) (f:=fX) (ty:=28) (sz:=3) gQ (fun _=>rfl);exact a.ret [] (qS y ((tl).length) x) (by rw[show xs.length=k by omega];exact ⟨_,_,tl,rfl,hc6,a.f.1,a.f.2.1⟩)
 have J:=oT u;refine lB 12 u (am (cK (cQ (kZ (ax (lC 15 a (oH 0 oM oM _ _ a.g) ?_))))));rintro _ _ _ a ⟨A8,c9,X,ze,rfl,zl,zm,zn,zo⟩;replace a:=a.aP zn zo;refine lA 7 28 cA a (fun zf _ zx a=>lP 0 0 (gE ((0:Int):Rat) A8 c9 X ze) a (fun _ a=>ag (aa a ac (aZ ?_))));replace a:=a.aS a.f.1;replace a:=a.aS a.f.r.1;refine bH _ (CG.loop (fun B Γ Y=>∃ (j:Nat)(e:Z9)(cS:Nat)(DS:Z9)(p:Nat)(h_:Hp),B=k+1-j/\Γ=[(0,qS A d.length F),(1,qS D b.length C),(4,sZ),(6,nV k),(5,qS y ((tl).length) x),(7,pB zf),(8,nV j)]/\SS w h Y h_ [⟨zf,28,gE (e7 xs ys k j) e cS DS p⟩] [⟨28,3,y,x,(tl).length,(tl).flatMap fX⟩] [S3 e (lim (ab (e7 xs ys k j).num)),S3 DS (lim (e7 xs ys k j).den),S3 X (lim ((0:Int):Rat).den),S3 A8 (lim (ab ((0:Int):Rat).num)),Rt tl ((ov k).map fun i=>e7 xs ys i (i+1)),Rt b ys,Sr D b,Rt d xs,Sr A d]/\j<=k+1/\(lim (ab (e7 xs ys k j).num)).length<=cS/\(lim (e7 xs ys k j).den).length<=p) _ ⟨0,A8,c9,X,ze,zx,rfl,rfl,a.to _ _,My _,zl,zm⟩ ?_);rintro _ _ _ ⟨j,e,cS,DS,p,_,bf,rfl,a,hj,I,H⟩;have hjk:j*(K+L+1)<=2*(K+L+1):=y9 _ oM;have z:LQ (2*K+2*L+4) (e7 xs ys k j):=(ut ha O j).mono oM;refine cQ (aa a aD ?_);cases Q:(decide ((j:Int)<=(k:Int)))
 .
  have zd:=oF Q;refine lB 18 Q (ah (CG.exit ?_))
  show CG _ _ _ _ _ _ _ _
  refine kQ (lL a [.c,.o (rG (e7 xs ys k j) e cS DS p) 0 0 3] (lR 36 28 1 (gE (e7 xs ys k j) e cS DS p) a (fun zA _ _ a=>lY 37 0 28 3 x y tl fX ((af (e7 xs ys k j).num,qS e ((lim (ab (e7 xs ys k j).num)).length) cS,qS DS ((lim (e7 xs ys k j).den).length) p):RT) 56 zA (.agg #[qF,sZ,sZ]) a a.f.1 (fun zB zD _ zE a=>lL a ac (lN (kQ (lL a ac (bp 14 ((k:Nat)+1) (k+1) ?_))))))));refine lL a ac (lD ?_);intro a_ ka;replace a:=(a.tl.tl.tl.tl.tl.tl.add (K:=Rt (tl++[((af (e7 xs ys k j).num,qS e ((lim (ab (e7 xs ys k j).num)).length) cS,qS DS ((lim (e7 xs ys k j).den).length) p):RT)]) ((ov (k+1)).map fun i=>e7 xs ys i (i+1))) (by rw[NJ,NK];exact (a.f.q.2.1).snoc (by show RQ _ _ (e7 xs ys k (k+1));rw[show k+1=j by omega];exact ⟨_,_,_,_,rfl,I,H,a.f.2.1,a.f.r.1⟩)));replace a:=a.drop 1 0;refine ⟨_,_,?_,⟨k+1,zB,zD,tl++[((af (e7 xs ys k j).num,qS e ((lim (ab (e7 xs ys k j).num)).length) cS,qS DS ((lim (e7 xs ys k j).den).length) p):RT)],zE,rfl,rfl,a.to _ _,oM⟩,ka.to _ kR⟩
  omega
 have zd:=oT Q;refine lB 18 Q (am (cK (cQ (kZ (cR 13 [] mixed a ao ?_)))));refine eO 0 21 [(0,0,3)] (rG (e7 xs ys k j) e cS DS p) a (eV 1 22 (qS A d.length F) (eV 2 23 (nV j) (eX 3 24 A d.length F 3 (j:Nat) j ((a.f.q.q.1).ok oM) ?_)));obtain ⟨Ax,cx,Dx,dx,ex,hcx,S,hAx,V⟩:=(a.f.q.r.2.1).at_ j oM;replace a:=a.aP hAx V;refine wk 4 25 (rA (d.getD j gQ)) a ((a.f.q.q.r.1).el j oM) ex (eV 5 26 (qS D b.length C) (eV 6 27 (nV k) (eV 7 28 (nV j) (jG 8 29 ((k:Nat)-(j:Nat)) (k-j) (eX 9 30 D b.length C 3 (k-j:Nat) (k-j) ((a.f.q.q.1).ok oM) ?_)))));obtain ⟨Ay,cy,Dy,dy,ey,U,hdy,hAy,hDy⟩:=(a.f.q.r.2.1).at_ (k-j) oM;replace a:=a.aP hAy hDy;refine wk 10 31 (rA (b.getD (k-j) gQ)) a ((a.f.q.q.r.1).el (k-j) oM) ey ?_;have zb:=LQ.mul (ha j) (O (k-j));refine eC 11 32 a (fun _ _ a=>GW (xs.getD j 0) Ax cx Dx dx hcx S (nl (ha j)) (nD (ha j)) (ys.getD (k-j) 0) Ay cy Dy dy U hdy (nl (O (k-j))) (nD (O (k-j))) _ _ a.g a.f.r.2.1 a.f.r.1 a.f.2.1 a.f.1) ?_;rintro _ _ _ _ _ a ⟨zG,zH,zI,zJ,rfl,zp,zq,zr,zs⟩;replace a:=a.aP zr zs;have bd:=LQ.add z zb;refine eC 12 33 a (fun _ _ a=>FQ (e7 xs ys k j) e cS DS p I H (nl z) (nD z) ((xs.getD j 0)*(ys.getD (k-j) 0)) zG zH zI zJ zp zq (nl zb) (nD zb) _ _ a.g a.f.q.r.1 a.f.q.r.2.1 a.f.2.1 a.f.1) ?_;rintro _ _ _ _ _ a ⟨zg,zi,zj,zk,rfl,zt,zu,zv,zw⟩;replace a:=a.aP zv zw;refine bU a (fun _ zK a=>tP 13 0 0 (gE ((e7 xs ys k j)+((xs.getD j 0)*(ys.getD (k-j) 0))) zg zi zj zk) a (fun _ a=>tN (kQ (lL a ac (bp 20 ((j:Nat)+1) (j+1) ?_)))));refine lL a ac (lD ?_);intro a_ ka;replace a:=((a.tl.tl.tl.tl.tl.tl.tl.tl.tl.tl.aS a.f.1).aS a.f.2.1);refine ⟨_,_,?_,⟨j+1,zg,zi,zj,zk,zK,rfl,rfl,a.to _ _,oM,zt,zu⟩,ka.to _ kR⟩
 omega
theorem i9 (A:Z9)(Z:Nat)(xs:List Rat)(u:List RT)(D:Z9)(C:Nat)(ys:List Rat)(d:List RT)(K L:Nat)(hK1:1<=K)(hK:4*K+4*L+20<=100000000)(hn:xs.length<=2)(ha:∀ j,LQ K (xs.getD j 0))(y:∀ j,LQ L (ys.getD j 0))(bb:xs.length<=ys.length)(hb0:ys.getD 0 0≠0)(w:World)(h:Hp)(g:G w h)(hA:Sr A u h)(hTa:RTs h u xs)(hD:Sr D d h)(hTb:RTs h d ys):CR 116 #[.slice A u.length Z,.slice D d.length C] w h (fun v h1=>∃ A c ts,v=.slice A (ts:List RT).length c/\ts.length<=c/\Sr A ts h1/\RTs h1 ts (dk xs ys xs.length)):=by
 have a:=(((((sS g).aS hA).aT hTa).aS hD).aT hTb);have hla:=(a.f.r.1).len;have hlb:=(a.f.1).len;have hbn:=GH hb0;refine go Tryz.func116 [(0,qS A u.length Z),(1,qS D d.length C)] rfl (aa a ac (aG (lL a ac (ag (aa a ac (aZ ?_))))));replace a:=a.nil 28 3;replace a:=a.aT (RTs.nil);refine bH _ (CG.loop (fun H Γ w_=>∃ (k:Nat)(M:Z9)(J:Nat)(tl:List RT)(h_:Hp),H=xs.length-k/\Γ=[(0,qS A u.length Z),(1,qS D d.length C),(4,sZ),(6,nV k),(5,qS M ((tl).length) J)]/\SS w h w_ h_ [] [⟨28,3,M,J,(tl).length,(tl).flatMap fX⟩] [Rt tl (dk xs ys k),Rt d ys,Sr D d,Rt u xs,Sr A u]/\k<=xs.length) _ ⟨0,none,0,[],h,rfl,rfl,a.to _ _,My _⟩ ?_);rintro _ _ w1 ⟨k,M,J,tl,h2,hm3,rfl,a,hk⟩;have hlT:=(a.f.1).len;rw[jy] at hlT
 have z:=fun h0:k<=1=>Ch (k:=k) h0 hK1 ha y
 refine cQ (aa a [.c,.c,.v (nV u.length)] ?_);cases B:(decide ((k:Int)<(u.length:Int)))
 .
  have Y:=oF B;refine lB 12 B (ah (CG.exit ?_))
  show CG _ _ _ _ _ _ _ _
  refine aa a aD (lN (kX ?_));obtain ⟨h5,a,hc6⟩:=a.pubr 0 (A:=M) (c:=J) (l:=tl) (f:=fX) (ty:=28) (sz:=3) gQ (fun _=>rfl);exact a.ret [] (qS M ((tl).length) J) (by rw[show xs.length=k by omega];exact ⟨_,_,tl,rfl,hc6,a.f.1,a.f.2.1⟩)
 have Y:=oT B;refine lB 12 B (am (cK (cQ (kZ (aa a aD (lX 17 A u.length Z 3 (k:Nat) k ((a.f.q.1).ok oM) ?_))))));obtain ⟨Ax,cx,Dx,dx,ex,hcx,hdx,hAx,hDx⟩:=(a.f.r.2.1).at_ k oM;replace a:=a.aP hAx hDx;refine HT 18 (rA (u.getD k gQ)) a ((a.f.q.r.1).el k oM) ex (lA 7 28 cA a (fun b8 w9 zG a=>lP 0 0 (gE (xs.getD k 0) Ax cx Dx dx) a (fun _ a=>ag (aa a ac (aZ ?_)))));replace a:=a.aS a.f.1;replace a:=a.aS a.f.r.1;replace a:=a.aT (a.f.q.1);refine bH _ (CG.loop (fun H Γ w_=>∃ (j:Nat)(o:Z9)(e:Nat)(i:List RT)(F:Z9)(cS:Nat)(DS:Z9)(I:Nat)(h_:Hp),H=k-j/\Γ=[(0,qS A u.length Z),(1,qS D d.length C),(4,sZ),(6,nV k),(5,qS o ((i).length) e),(7,pB b8),(8,nV j)]/\SS w h w_ h_ [⟨b8,28,gE (fh xs ys (dk xs ys k) k j) F cS DS I⟩] [⟨28,3,o,e,(i).length,(i).flatMap fX⟩] [Rt i (dk xs ys k),S3 F (lim (ab (fh xs ys (dk xs ys k) k j).num)),S3 DS (lim (fh xs ys (dk xs ys k) k j).den),S3 Dx (lim (xs.getD k 0).den),S3 Ax (lim (ab (xs.getD k 0).num)),Rt tl (dk xs ys k),Rt d ys,Sr D d,Rt u xs,Sr A u]/\j<=k/\(lim (ab (fh xs ys (dk xs ys k) k j).num)).length<=cS/\(lim (fh xs ys (dk xs ys k) k j).den).length<=I) _ ⟨0,M,J,tl,Ax,cx,Dx,dx,zG,rfl,rfl,a.to _ _,My _,hcx,hdx⟩ ?_);rintro _ _ _ ⟨j,o,e,i,F,cS,DS,I,_,bd,rfl,a,hj,W,Q⟩;have U:=(a.f.1).len;rw[jy] at U
 have x:LQ (2*K+2*L+2) (fh xs ys (dk xs ys k) k j):=Dq ha y (z oM) oM j oM;refine cQ (aa a aD ?_);cases za:(decide ((j:Int)<(k:Int)))
 .
  have zi:=oF za;refine lB 21 za (ah (CG.exit ?_))
  show CG _ _ _ _ _ _ _ _
  refine CG.region ⟨((Value.slice o ((i).length) e).ownBlock.toList),none⟩ 8 [] mixed kR a.g ao (a.ro_lt 0 (ty:=28) (sz:=3) (A:=o) (c:=e) (m:=(i).length) (cs:=(i).flatMap fX)) (eV 0 37 (qS o ((i).length) e) (eO 1 38 [(0,0,3)] (rG (fh xs ys (dk xs ys k) k j) F cS DS I) a ?_ (hM:=fun p hp=>by obtain rfl:=sy.1 hp;exact a.ro_ne 0 0 (ty:=28) (sz:=3) (A:=o) (c:=e) (m:=(i).length) (cs:=(i).flatMap fX))));refine eV 2 39 (qS D d.length C) (eX 3 40 D d.length C 3 0 0 ((a.f.q.r.2.1).ok oM) ?_);obtain ⟨Az,cz,Dz,dz,ez,hcz,hdz,hAz,hDz⟩:=(a.f.q.r.1).at_ 0 oM;replace a:=a.aP hAz hDz;refine wk 4 41 (rA (d.getD 0 gQ)) a ((a.f.q.q.2.1).el 0 oM) ez ?_ (hM:=a.ro_jk 0 (ty:=28) (sz:=3) (A:=o) (c:=e) (m:=(i).length) (cs:=(i).flatMap fX));have bf:=LQ.div x (y 0);refine eC 5 42 a (fun _ _ a=>J4 (fh xs ys (dk xs ys k) k j) F cS DS I W Q (nl x) (nD x) (ys.getD 0 0) Az cz Dz dz hcz hdz (nl (y 0)) (nD (y 0)) hbn _ _ a.g a.f.r.2.1 a.f.q.1 a.f.2.1 a.f.1) ?_;rintro _ _ _ _ _ a ⟨X,S,O,V,rfl,zq,zr,zs,zt⟩;replace a:=a.aP zs zt;refine eR 6 43 28 1 (gE ((fh xs ys (dk xs ys k) k j)/(ys.getD 0 0)) X S O V) a (fun zH _ _ a=>eY 7 44 0 28 3 e o i fX ((af ((fh xs ys (dk xs ys k) k j)/(ys.getD 0 0)).num,qS X ((lim (ab ((fh xs ys (dk xs ys k) k j)/(ys.getD 0 0)).num)).length) S,qS O ((lim ((fh xs ys (dk xs ys k) k j)/(ys.getD 0 0)).den).length) V):RT) 56 zH (.agg #[qF,sZ,sZ]) a (fun _ f_=>f_.1) (fun b y=>NG.2 y) (fun zk zl _ _ a=>bU a (fun _ zI a=>tV 8 5 (qS zk ((i++[((af ((fh xs ys (dk xs ys k) k j)/(ys.getD 0 0)).num,qS X ((lim (ab ((fh xs ys (dk xs ys k) k j)/(ys.getD 0 0)).num)).length) S,qS O ((lim ((fh xs ys (dk xs ys k) k j)/(ys.getD 0 0)).den).length) V):RT)]).length) zl) (tN (kQ (lL a ac (bp 14 ((k:Nat)+1) (k+1) ?_)))))));refine lL a ac (lD ?_);intro a_ ka;replace a:=(a.tl.tl.tl.tl.tl.tl.tl.tl.tl.tl.tl.add (K:=Rt (i++[((af ((fh xs ys (dk xs ys k) k j)/(ys.getD 0 0)).num,qS X ((lim (ab ((fh xs ys (dk xs ys k) k j)/(ys.getD 0 0)).num)).length) S,qS O ((lim ((fh xs ys (dk xs ys k) k j)/(ys.getD 0 0)).den).length) V):RT)]) (dk xs ys (k+1))) ((a.f.q.2.1).snoc (RQ.eq (qx zq zr a.f.r.1 a.f.2.1) (by rw[show j=k by omega]))));replace a:=a.drop 1 0;refine ⟨_,_,?_,⟨k+1,zk,zl,i++[((af ((fh xs ys (dk xs ys k) k j)/(ys.getD 0 0)).num,qS X ((lim (ab ((fh xs ys (dk xs ys k) k j)/(ys.getD 0 0)).num)).length) S,qS O ((lim ((fh xs ys (dk xs ys k) k j)/(ys.getD 0 0)).den).length) V):RT)],zI,rfl,rfl,a.to _ _,oM⟩,ka.to _ kR⟩
  omega
 have zi:=oT za;refine lB 21 za (am (cK (cQ (kZ (cR 13 [] mixed a ao ?_)))));refine eO 0 24 [(0,0,3)] (rG (fh xs ys (dk xs ys k) k j) F cS DS I) a (eV 1 25 (qS o ((i).length) e) (eV 2 26 (nV j) ?_));obtain ⟨zf,zj⟩:=a.rowA 0 (A:=o) (c:=e) (m:=(i).length) (ty:=28) (sz:=3) (cs:=(i).flatMap fX) oM;subst zj;refine eX 3 27 (sB zf) ((i).length) e 3 (j:Nat) j rfl ?_;obtain ⟨Av,cv,Dv,dv,ev,hcv,hdv,hAv,hDv⟩:=(a.f.1).at_ j (by rw[jy];omega);replace a:=a.aP hAv hDv;refine EO (ty:=28) (sz:=3) (c:=e) (m:=(i).length) (b:=zf) (cs:=(i).flatMap fX) 4 28 0 (rG ((dk xs ys k).getD j 0) Av cv Dv dv) (gE ((dk xs ys k).getD j 0) Av cv Dv dv) a ((fw (f:=fX) (sz:=3) (fun _=>rfl) gQ i j oM).trans (vm ev)) (eV 5 29 (qS D d.length C) (eV 6 30 (nV k) (eV 7 31 (nV j) (jG 8 32 ((k:Nat)-(j:Nat)) (k-j) (eX 9 33 D d.length C 3 (k-j:Nat) (k-j) ((a.f.q.q.2.1).ok oM) ?_)))));obtain ⟨Ay,cy,Dy,dy,ey,hcy,hdy,hAy,hDy⟩:=(a.f.q.q.1).at_ (k-j) oM;replace a:=a.aP hAy hDy;refine wk 10 34 (rA (d.getD (k-j) gQ)) a ((a.f.q.q.r.2.1).el (k-j) oM) ey ?_;have zg:=LQ.mul (z oM j) (y (k-j));refine eC 11 35 a (fun _ _ a=>GW ((dk xs ys k).getD j 0) Av cv Dv dv hcv hdv (nl (z oM j)) (nD (z oM j)) (ys.getD (k-j) 0) Ay cy Dy dy hcy hdy (nl (y (k-j))) (nD (y (k-j))) _ _ a.g a.f.r.2.1 a.f.r.1 a.f.2.1 a.f.1) ?_;rintro _ _ _ _ _ a ⟨zJ,zK,zL,zM,rfl,zu,zv,zw,zx⟩;replace a:=a.aP zw zx;have bk:=LQ.sub x zg;refine eC 12 36 a (fun _ _ a=>Ki (fh xs ys (dk xs ys k) k j) F cS DS I W Q (nl x) (nD x) (((dk xs ys k).getD j 0)*(ys.getD (k-j) 0)) zJ zK zL zM zu zv (nl zg) (nD zg) _ _ a.g a.f.q.r.2.1 a.f.q.q.1 a.f.2.1 a.f.1) ?_;rintro _ _ _ _ _ a ⟨zm,zn,zo,zp,rfl,zA,zB,zD,zE⟩;replace a:=a.aP zD zE;refine bU a (fun _ zN a=>tP 13 0 0 (gE ((fh xs ys (dk xs ys k) k j)-(((dk xs ys k).getD j 0)*(ys.getD (k-j) 0))) zm zn zo zp) a (fun _ a=>tN (kQ (lL a ac (bp 23 ((j:Nat)+1) (j+1) ?_)))));refine lL a ac (lD ?_);intro a_ ka;replace a:=(((a.tl.tl.tl.tl.tl.tl.tl.tl.tl.tl.tl.aS a.f.1).aS a.f.2.1).aT a.f.q.q.1);refine ⟨_,_,?_,⟨j+1,sB zf,e,i,zm,zn,zo,zp,zN,rfl,rfl,a.to _ _,oM,zA,zB⟩,ka.to _ kR⟩
 omega
theorem nw (q:Rat)(d:Z9)(c1:Nat)(b:Z9)(e:Nat)(C:(lim (ab q.num)).length<=c1)(F:(lim q.den).length<=e)(n:Nat)(hn:n<=1000)(w:World)(h:Hp)(g:G w h)(I:S3 d (lim (ab q.num)) h)(H:S3 b (lim q.den) h):CR 64 #[rG q d c1 b e,nV n] w h (fun v h1=>∃ A c u,v=.slice A (u:List RT).length c/\u.length<=c/\Sr A u h1/\RTs h1 u (q::zY n ((0:Int):Rat))):=by
 have a:=(((sS g).aS I).aS H);refine go Tryz.func64 [(0,rG q d c1 b e),(1,nV n)] rfl (ax (lA 2 28 (gE q d c1 b e) a (fun Q w2 h3 a=>lL a ac (aG (lL a [.o (rG q d c1 b e) 0 0 3] (HO 7 28 3 fX ([((af q.num,qS d ((lim (ab q.num)).length) c1,qS b ((lim q.den).length) e):RT)]:List RT) a (fun V w5 O a=>lL a ac (ag (kZ ?_)))))))));replace a:=a.aT ((RTs.snoc RTs.nil (qx C F a.f.2.1 a.f.1)));refine bH _ (CG.loop (fun J Γ M=>∃ (m:Nat)(j:Z9)(i:Nat)(tl:List RT)(h_:Hp),J=n-m/\Γ=[(1,nV n),(4,sZ),(5,qS j ((tl).length) i)]/\SS w h M h_ [⟨Q,28,gE q d c1 b e⟩] [⟨28,3,j,i,(tl).length,(tl).flatMap fX⟩] [Rt tl (q::zY m ((0:Int):Rat)),S3 b (lim q.den),S3 d (lim (ab q.num))]/\m<=n) _ ⟨0,sB V,(([((af q.num,qS d ((lim (ab q.num)).length) c1,qS b ((lim q.den).length) e):RT)]:List RT)).length,([((af q.num,qS d ((lim (ab q.num)).length) c1,qS b ((lim q.den).length) e):RT)]:List RT),O,rfl,rfl,a.to _ _,My _⟩ ?_);rintro _ _ w9 ⟨m,j,i,tl,_,L,rfl,a,hm⟩;have D:=(a.f.1).len;rw[tq,NL] at D
 refine cQ (aa a [.c,.v (nV ((tl).length)),.c] ?_);cases z:(decide ((((tl).length:Nat):Int)<=(n:Int)))
 .
  have Z:=oF z;refine lB 11 z (ah (CG.exit ?_))
  show CG _ _ _ _ _ _ _ _
  refine aa a aD (lN (kX ?_));obtain ⟨_,a,X⟩:=a.pubr 0 (A:=j) (c:=i) (l:=tl) (f:=fX) (ty:=28) (sz:=3) gQ (fun _=>rfl);exact a.ret [] (qS j ((tl).length) i) (by rw[show n=m by omega];exact ⟨_,_,tl,rfl,X,a.f.1,a.f.2.1⟩)
 have Z:=oT z;refine lB 11 z (am (cK (kZ (kQ (lL a ac (lC 13 a (oH 0 oM oM _ _ a.g) ?_))))));rintro _ _ _ a ⟨B,y,x,p,rfl,W,zj,zk,zl⟩;replace a:=a.aP zk zl;refine lR 14 28 1 (gE ((0:Int):Rat) B y x p) a (fun zm _ _ a=>lY 15 0 28 3 i j tl fX ((af ((0:Int):Rat).num,qS B ((lim (ab ((0:Int):Rat).num)).length) y,qS x ((lim ((0:Int):Rat).den).length) p):RT) 56 zm (.agg #[qF,sZ,sZ]) a a.f.1 (fun Y U _ S a=>lL a ac (lD ?_)));intro a_ ka;replace a:=(a.tl.tl.tl.tl.add (K:=Rt (tl++[((af ((0:Int):Rat).num,qS B ((lim (ab ((0:Int):Rat).num)).length) y,qS x ((lim ((0:Int):Rat).den).length) p):RT)]) (q::zY (m+1) ((0:Int):Rat))) (by rw[List.replicate_succ',<-List.cons_append];exact (a.f.r.2.1).snoc (qx W zj a.f.r.1 a.f.2.1)));refine ⟨_,_,?_,⟨m+1,Y,U,tl++[((af ((0:Int):Rat).num,qS B ((lim (ab ((0:Int):Rat).num)).length) y,qS x ((lim ((0:Int):Rat).den).length) p):RT)],S,rfl,rfl,a.to _ _,oM⟩,ka.to _ kR⟩
 omega
def bJ (op n:Int)(a b:Rat):Int:=if rE op n a b then (if x7 op a b then 7 else 0) else 6
def dM (op n:Int)(xs ys:List Rat):List Rat:=[kO op n 0 (xs.getD 0 0) (ys.getD 0 0),Aa op n (xs.getD 0 0) (ys.getD 0 0)*xs.getD 1 0+AP op (xs.getD 0 0) (ys.getD 0 0)*ys.getD 1 0]
def iC (op n:Int)(xs ys:List Rat):List Rat:=if bJ op n (xs.getD 0 0) (ys.getD 0 0)=0 then dM op n xs ys else []
section
variable {op n:Int}{xs ys:List Rat}
theorem E3 (h:¬rE op n (xs.getD 0 0) (ys.getD 0 0)):bJ op n (xs.getD 0 0) (ys.getD 0 0)=6/\iC op n xs ys=[]:=by
 have e:bJ op n (xs.getD 0 0) (ys.getD 0 0)=6:=if_neg h;exact ⟨e,if_neg (by rw[e];decide)⟩
theorem wR (h:rE op n (xs.getD 0 0) (ys.getD 0 0))(k:x7 op (xs.getD 0 0) (ys.getD 0 0)):bJ op n (xs.getD 0 0) (ys.getD 0 0)=7/\iC op n xs ys=[]:=by
 have e:bJ op n (xs.getD 0 0) (ys.getD 0 0)=7:=(if_pos h).trans (if_pos k);exact ⟨e,if_neg (by rw[e];decide)⟩
theorem fc (h:rE op n (xs.getD 0 0) (ys.getD 0 0))(k:¬x7 op (xs.getD 0 0) (ys.getD 0 0)):bJ op n (xs.getD 0 0) (ys.getD 0 0)=0/\iC op n xs ys=dM op n xs ys:=by
 have e:bJ op n (xs.getD 0 0) (ys.getD 0 0)=0:=(if_pos h).trans (if_neg k);exact ⟨e,if_pos e⟩
end
theorem eJ {x y a b:Rat}(h:x=a)(c:y=b):[x,y]=[a,b]:=by rw[h,c]
theorem i1:((1:Int):Rat)=1:=rfl
theorem i0:((0:Int):Rat)=0:=rfl
theorem vE:((-1:Int):Rat) = -1:=rfl
theorem EL {xs:List Rat}(h:xs.length=2):xs=[xs.getD 0 0,xs.getD 1 0]:=by
 match xs,h with
 | [a,b],_=>rfl
theorem jZ {op n:Int}{xs ys:List Rat}(b:xs.length=2)(h1:xs.getD 0 0=kO op n 0 (xs.getD 0 0) (ys.getD 0 0))(a:Aa op n (xs.getD 0 0) (ys.getD 0 0)=1)(c:AP op (xs.getD 0 0) (ys.getD 0 0)=0):xs=dM op n xs ys:=by
 refine (EL b).trans (eJ h1 ?_);rw[a,c];grind
theorem nF {op n:Int}{xs ys:List Rat}(a:ys.length=2)(h1:ys.getD 0 0=kO op n 0 (xs.getD 0 0) (ys.getD 0 0))(b:Aa op n (xs.getD 0 0) (ys.getD 0 0)=0)(c:AP op (xs.getD 0 0) (ys.getD 0 0)=1):ys=dM op n xs ys:=by
 refine (EL a).trans (eJ h1 ?_);rw[b,c];grind
section
variable {n:Int}{xs ys:List Rat}
theorem JG (a:xs.length=2):(ov xs.length).map (fun i=>xs.getD i 0+ys.getD i 0)=dM 3 n xs ys:=by
 rw[a];refine eJ rfl ?_
 show xs.getD 1 0+ys.getD 1 0=((1:Int):Rat)*xs.getD 1 0+((1:Int):Rat)*ys.getD 1 0
 rw[i1];grind
theorem I1 (a:xs.length=2)(b:ys.length=2):(ov xs.length).map (fun i=>xs.getD i 0+((ov ys.length).map fun i=>ys.getD i 0*((-1:Int):Rat)).getD i 0)=dM 4 n xs ys:=by
 rw[a,b];refine eJ ?_ ?_
 ·show xs.getD 0 0+ys.getD 0 0*((-1:Int):Rat)=xs.getD 0 0-ys.getD 0 0
  rw[vE];grind
 ·show xs.getD 1 0+ys.getD 1 0*((-1:Int):Rat)=((1:Int):Rat)*xs.getD 1 0 + -((1:Int):Rat)*ys.getD 1 0
  rw[i1,vE];grind
theorem I4 (a:xs.length=2):(ov xs.length).map (fun i=>e7 xs ys i (i+1))=dM 5 n xs ys:=by
 rw[a];refine eJ ?_ ?_
 ·show ((0:Int):Rat)+xs.getD 0 0*ys.getD 0 0=xs.getD 0 0*ys.getD 0 0
  rw[i0];grind
 ·show ((0:Int):Rat)+xs.getD 0 0*ys.getD 1 0+xs.getD 1 0*ys.getD 0 0=ys.getD 0 0*xs.getD 1 0+xs.getD 0 0*ys.getD 1 0
  rw[i0];grind
theorem JJ (a:xs.length=2)(b:ys.getD 0 0≠0):dk xs ys xs.length=dM 6 n xs ys:=by
 rw[a];refine eJ rfl ?_
 show (xs.getD 1 0-xs.getD 0 0/ys.getD 0 0*ys.getD 1 0)/ys.getD 0 0=((1:Int):Rat)/ys.getD 0 0*xs.getD 1 0 + -(xs.getD 0 0*(((1:Int):Rat)/ys.getD 0 0)*(((1:Int):Rat)/ys.getD 0 0))*ys.getD 1 0
 rw[i1];grind
theorem Jp (a:xs.length=2):(ov xs.length).map (fun i=>xs.getD i 0*((-1:Int):Rat))=dM 7 n xs ys:=by
 rw[a];refine eJ ?_ ?_
 ·show xs.getD 0 0*((-1:Int):Rat) = -xs.getD 0 0
  rw[vE];grind
 ·show xs.getD 1 0*((-1:Int):Rat) = -((1:Int):Rat)*xs.getD 1 0+0*ys.getD 1 0
  rw[i1,vE];grind
end
def g5 (xs:List Rat):Nat->List Rat
  | 0=>[((1:Int):Rat),((0:Int):Rat)]
  | k+1=>(ov (g5 xs k).length).map fun i=>e7 (g5 xs k) xs i (i+1)
theorem fk (xs:List Rat):∀ k,(g5 xs k).length=2
 | 0=>rfl
 | k+1=>by show ((ov (g5 xs k).length).map _).length=2;rw[NH,NI,fk xs k]
theorem i8 (xs:List Rat):∀ k,g5 xs k=[ck (xs.getD 0 0) k,((k:Int):Rat)*ck (xs.getD 0 0) (k-1)*xs.getD 1 0]
  | 0=>eJ rfl (by show ((0:Int):Rat)=((0:Int):Rat)*_*_;rw[i0];grind)
  | k + 1=>by
    show (ov (g5 xs k).length).map _=_
    rw[fk,i8 xs k];refine eJ ?_ ?_
    . show ((0:Int):Rat)+ck (xs.getD 0 0) k*xs.getD 0 0=ck (xs.getD 0 0) k*xs.getD 0 0
      rw[i0];grind
    . show ((0:Int):Rat)+ck (xs.getD 0 0) k*xs.getD 1 0+((k:Int):Rat)*ck (xs.getD 0 0) (k-1)*xs.getD 1 0*xs.getD 0 0=(((k+1:Nat):Int):Rat)*ck (xs.getD 0 0) k*xs.getD 1 0
      have e:(((k+1:Nat):Int):Rat)=((k:Int):Rat)+1:=by push_cast;rfl
      have e2:((k:Int):Rat)*ck (xs.getD 0 0) (k-1)*xs.getD 0 0=((k:Int):Rat)*ck (xs.getD 0 0) k:=by
        cases k with
        | zero=>show ((0:Int):Rat)*_*_=((0:Int):Rat)*_;rw[i0];grind
        | succ k=>show _*ck _ k*_=_*(ck _ k*_);grind
      rw[i0,e];grind
theorem mn {a b:Rat}{K:Nat}(c:1<=K)(ha:LQ K a)(d:LQ K b):∀ j,LQ K (([a,b]:List Rat).getD j 0)
 | 0=>ha
 | 1=>d
 | j+2=>by show LQ K (([]:List Rat).getD j 0);simp;exact iE c
theorem m7 {f:Nat->Rat}{K m:Nat}(a:1<=K)(h:∀ i,LQ K (f i))(j:Nat):LQ K (((ov m).map f).getD j 0):=by
 by_cases hj:j<m
 ·simp[hj];exact h j
 ·simp[hj];exact iE a
theorem kT {xs:List Rat}{K D k:Nat}(a:1<=K)(hk:k<=12)(h0:LQ K (xs.getD 0 0))(h1:LQ D (xs.getD 1 0)):∀ j,LQ (12*K+D+3) ((g5 xs k).getD j 0):=by
 rw[i8];have e1:k*K<=12*K:=y9 _ hk;have e2:(k-1)*K<=11*K:=y9 _ oM;exact mn oM ((i4 h0 k).mono oM) ((((LQ.int (z:=(k:Int)) oM oM).mul (i4 h0 (k-1))).mul h1).mono oM)
section
variable {n:Int}{xs ys:List Rat}
theorem xR {m:Nat}(hn:0<=n)(a:(m:Int)=n):g5 xs m=dM 8 n xs ys:=by
 subst a;rw[i8];refine eJ ?_ ?_
 ·show _=fq (xs.getD 0 0) m
  unfold fq;rw[if_pos oM];rfl
 ·show _=(if (m:Int)=0 then (0:Rat) else fq (xs.getD 0 0) ((m:Int)-1)*(((m:Int):Int):Rat))*xs.getD 1 0+0*ys.getD 1 0
  by_cases h0:m=0
  ·subst h0;rw[if_pos (show ((0:Nat):Int)=0 from rfl)];show ((0:Int):Rat)*_*_=_;rw[i0];grind
  ·rw[if_neg oM]
   have e:fq (xs.getD 0 0) ((m:Int)-1)=ck (xs.getD 0 0) (m-1):=by unfold fq;rw[if_pos oM,show ((m:Int)-1).natAbs=m-1 by omega]
   rw[e];grind
theorem BW {m:Nat}(hn:n<0)(a:(m:Int) = -n)(ha:xs.getD 0 0≠0):dk [((1:Int):Rat),((0:Int):Rat)] (g5 xs m) 2=dM 8 n xs ys:=by
 obtain ⟨k,rfl⟩:∃ k,m=k+1:=⟨m-1,by omega⟩;have b:=i7 ha k;rw[i8];refine eJ ?_ ?_
 ·show ((1:Int):Rat)/ck (xs.getD 0 0) (k+1)=fq (xs.getD 0 0) n
  unfold fq;rw[if_neg oM,show n.natAbs=k+1 by omega]
 ·show (((0:Int):Rat)-((1:Int):Rat)/ck (xs.getD 0 0) (k+1)*((((k+1:Nat):Int):Rat)*ck (xs.getD 0 0) k*xs.getD 1 0))/ck (xs.getD 0 0) (k+1)=(if n=0 then (0:Rat) else fq (xs.getD 0 0) (n-1)*((n:Int):Rat))*xs.getD 1 0+0*ys.getD 1 0
  rw[if_neg oM]
  have e:fq (xs.getD 0 0) (n-1)=((1:Int):Rat)/(ck (xs.getD 0 0) k*xs.getD 0 0*xs.getD 0 0):=by
   unfold fq;rw[if_neg oM,show (n-1).natAbs=k+2 by omega];rfl
  have e2:((n:Int):Rat) = -(((k+1:Nat):Int):Rat):=by rw[a,NM];grind
  rw[e,e2,i0,i1]
  show (0-1/(ck (xs.getD 0 0) k*xs.getD 0 0)*_)/(ck (xs.getD 0 0) k*xs.getD 0 0)=_
  grind
end
theorem pP {b d:List Rat}{a:Nat}{y:Rat}(ha:a<b.length):∀ n,bW (b.set a y) d n=bW b d n+(if a<n then (y-b.getD a 0)*d.getD a 0 else 0)
  | 0=>by show (0:Rat)=0+_;rw[if_neg (NN a)];grind
  | n+1=>by
    show bW (b.set a y) d n+(b.set a y).getD n 0*d.getD n 0=(bW b d n+b.getD n 0*d.getD n 0)+_
    rw[pP ha n,eo ha]
    rcases Nat.lt_trichotomy a n with h|h|h
    . rw[if_neg (by omega:¬n=a),if_pos h,if_pos oM];grind
    . subst h;rw[if_pos rfl,if_neg (Nat.lt_irrefl _),if_pos oM];grind
    . rw[if_neg oM,if_neg oM,if_neg oM];grind
theorem vp {b d:List Rat}{a n:Nat}{y x:Rat}(ha:a<b.length)(hn:a<n)(c:y=b.getD a 0+x):bW (b.set a y) d n=bW b d n+x*d.getD a 0:=by
 rw[pP ha,if_pos hn,c];grind
def K1 (z:Nat)(l:List Stp):Prop:=∀ k,k<l.length->(l.getD k fe).op=8->(k=z -> -12<=(l.getD k fe).n/\(l.getD k fe).n<=12)/\(k≠z -> -1<=(l.getD k fe).n/\(l.getD k fe).n<=2)
theorem kh (a b:List Rat):∀ n,bW a b n=bW b a n
 | 0=>rfl
 | n+1=>by show bW a b n+_=bW b a n+_;rw[kh a b n,Rat.mul_comm]
theorem ke (m:Nat)(b:List Rat):∀ n,bW (zY m 0) b n=0
 | 0=>rfl
 | n+1=>by show bW _ b n+_=_;rw[ke m b n,mY];grind
def fD (n j:Nat):List Rat:=(zY n (0:Rat)).set j ((1:Int):Rat)
theorem vU {g:List Rat}{n j:Nat}(h:j<n):bW g (fD n j) n=g.getD j 0:=by
 rw[kh];unfold fD;rw[vp (x:=((1:Int):Rat)) (by simpa using h) h (by rw[mY];grind),ke,show ((1:Int):Rat)=1 from rfl];grind
theorem AT {α:Type}{l:List α}{i:Nat}{d:α}(h:i<l.length):l.getD i d∈l:=by
 rw[LM,NO h];exact gp h
theorem vQ {α:Type}{l:List α}{i:Nat}{d:α}(h:l.length<=i):l.getD i d=d:=by
 rw[LM,List.getElem?_eq_none h];rfl
def bD (s:ByteArray):List Value:=[.string s]
inductive Tm where
  | mk (op n:Int) (q:Rat) (s:ByteArray) (ks:List Tm)
def Tm.op:Tm->Int|.mk op _ _ _ _=>op
def Tm.n:Tm->Int|.mk _ n _ _ _=>n
def Tm.q:Tm->Rat|.mk _ _ q _ _=>q
def Tm.s:Tm->ByteArray|.mk _ _ _ s _=>s
def Tm.ks:Tm->List Tm|.mk _ _ _ _ ks=>ks
def cY:Tm:=.mk 0 0 0 ⟨#[]⟩ []
structure PTm where
  op:Int
  n:Int
  q:Rat
  s:ByteArray
  A:Z9
  m:Nat
  c:Nat
abbrev pX (p:PTm):Value:=.agg #[iV p.op,iV p.n,.bool (af p.q.num),uV (lo (ab p.q.num)),.string (hi (ab p.q.num)),uV (lo (qd p.q)),.string (hi (qd p.q)),.string p.s,.slice p.A p.m p.c]
abbrev pC (p:PTm):List Value:=[iV p.op,iV p.n,.bool (af p.q.num),uV (lo (ab p.q.num)),.string (hi (ab p.q.num)),uV (lo (qd p.q)),.string (hi (qd p.q)),.string p.s,.slice p.A p.m p.c]
abbrev pW (o n:Int)(q:Rat)(s:ByteArray)(A:Z9)(m c:Nat):Value:=.agg #[iV o,iV n,.bool (af q.num),uV (lo (ab q.num)),.string (hi (ab q.num)),uV (lo (qd q)),.string (hi (qd q)),.string s,.slice A m c]
abbrev pG (o n:Int)(q:Rat)(s:ByteArray)(A:Z9)(m c:Nat):List Value:=[iV o,iV n,.bool (af q.num),uV (lo (ab q.num)),.string (hi (ab q.num)),uV (lo (qd q)),.string (hi (qd q)),.string s,.slice A m c]
def cJ:PTm:=⟨0,0,0,⟨#[]⟩,none,0,0⟩
def da (p:PTm):List Value:=[.int .i64 p.op,.int .i64 p.n,.bool (af p.q.num),.int .u64 (lo (ab p.q.num)),.string (hi (ab p.q.num)),.int .u64 (lo (qd p.q)),.string (hi (qd p.q)),.string p.s,.slice p.A p.m p.c]
def bO (p:PTm):Value:=.agg #[.int .i64 p.op,.int .i64 p.n,.bool (af p.q.num),.int .u64 (lo (ab p.q.num)),.string (hi (ab p.q.num)),.int .u64 (lo (qd p.q)),.string (hi (qd p.q)),.string p.s,.slice p.A p.m p.c]
def TmH:Nat->Hp->PTm->Tm->Prop
  | 0,_,_,_=>False
  | d+1,h,p,t=>p.op=t.op/\p.n=t.n/\p.q=t.q/\p.s=t.s/\p.m=t.ks.length/\p.m<=p.c/\∃ ps:List PTm,ps.length=t.ks.length/\SlO 9 da cJ h p.A ps/\∀ i,i<t.ks.length->TmH d h (ps.getD i cJ) (t.ks.getD i cY)
theorem TmH.gw:∀ {d:Nat} {h a:Hp} {p:PTm} {t:Tm},TmH d h p t->Gw h a->TmH d a p t
 | 0,_,_,_,_,x,_=>x
 | d+1,_,_,_,_,⟨h1,h2,h3,h4,h5,h6,ps,h7,h8,h9⟩,u=>⟨h1,h2,h3,h4,h5,h6,ps,h7,h8.gw u,fun i hi=>TmH.gw (h9 i hi) u⟩
theorem TmH.mono {h:Hp}:∀ {d e:Nat} {p:PTm} {t:Tm},TmH d h p t->d<=e->TmH e h p t
 | d+1,e+1,_,_,⟨h1,h2,h3,h4,h5,h6,ps,h7,h8,h9⟩,u=>⟨h1,h2,h3,h4,h5,h6,ps,h7,h8,fun i hi=>TmH.mono (h9 i hi) oM⟩
structure RTm where
  op:Int
  n:Int
  neg:Bool
  zA:Z9
  zn:Nat
  zc:Nat
  dA:Z9
  dn:Nat
  dc:Nat
  s:ByteArray
  A:Z9
  m:Nat
  c:Nat
def RTm.t (r:RTm):RT:=(r.neg,.slice r.zA r.zn r.zc,.slice r.dA r.dn r.dc)
def bV:RTm:=⟨0,0,false,none,0,0,none,0,0,⟨#[]⟩,none,0,0⟩
def bF (r:RTm):List Value:=[.int .i64 r.op,.int .i64 r.n,.bool r.neg,.slice r.zA r.zn r.zc,.slice r.dA r.dn r.dc,.string r.s,.slice r.A r.m r.c]
def bK (r:RTm):Value:=.agg #[.int .i64 r.op,.int .i64 r.n,.bool r.neg,.slice r.zA r.zn r.zc,.slice r.dA r.dn r.dc,.string r.s,.slice r.A r.m r.c]
def RZ (h:Hp)(t:RT)(q:Rat):Prop:=∃ has:Bool,RP h (C7 t) q.num (if has then q.den else 0)/\(has=false->q=0)
theorem RZ.gw {h a:Hp}{t:RT}{q:Rat}(x:RZ h t q)(u:Gw h a):RZ a t q:=by
 obtain ⟨c,h1,b⟩:=x;exact ⟨c,h1.gw u,b⟩
def RmH:Nat->Hp->RTm->Tm->Prop
  | 0,_,_,_=>False
  | d+1,h,r,t=>r.op=t.op/\r.n=t.n/\RZ h r.t t.q/\r.s=t.s/\r.m=t.ks.length/\r.m<=r.c/\∃ rs:List RTm,rs.length=t.ks.length/\SlO 7 bF bV h r.A rs/\∀ i,i<t.ks.length->RmH d h (rs.getD i bV) (t.ks.getD i cY)
theorem Gn {h:Hp}{b:Bool}{j i:Z9}{l u f o:Nat}{q:Rat}(x:RZ h (b,.slice j l u,.slice i f o) q)(p:0<f):RP h (.agg #[.bool b,.slice j l u,.slice i f o]) q.num q.den:=by
 obtain ⟨z,h1,C⟩:=x;cases z
 ·obtain ⟨A,c,D,d,e,H,F,I,B⟩:=h1
  injection e with e
  have y:=congrArg (fun a:Array Value=>a.toList) e
  simp at y
  have:f=(lim 0).length:=y.2.2.2.1;have h0:(lim 0).length=0:=by have:=@bT 0;omega
  omega
 ·exact h1
theorem Ja {h:Hp}{b:Bool}{o i:Z9}{p y u:Nat}{q:Rat}(x:RZ h (b,.slice o p y,.slice i 0 u) q):q=0:=by
 obtain ⟨l,h1,j⟩:=x;cases l
 ·exact j rfl
 ·obtain ⟨A,c,D,d,e,H,C,I,z⟩:=h1
  injection e with e
  have f:=congrArg (fun a:Array Value=>a.toList) e
  simp at f
  have F:0=(lim q.den).length:=f.2.2.2.1;have B:=(@bT q.den).2 q.den_pos
  omega
theorem RmH.gw:∀ {d:Nat} {h a:Hp} {r:RTm} {t:Tm},RmH d h r t->Gw h a->RmH d a r t
 | 0,_,_,_,_,x,_=>x
 | d+1,_,_,_,_,⟨h1,h2,h3,h4,h5,h6,ps,h7,h8,h9⟩,u=>⟨h1,h2,h3.gw u,h4,h5,h6,ps,h7,h8.gw u,fun i hi=>RmH.gw (h9 i hi) u⟩
structure Tms (d:Nat) (h:Hp) (ps:List PTm) (ts:List Tm):Prop where
  len:ps.length=ts.length
  at_:∀ i,i<ts.length->TmH d h (ps.getD i cJ) (ts.getD i cY)
theorem Tms.gw {d:Nat}{h a:Hp}{ps:List PTm}{b:List Tm}(x:Tms d h ps b)(u:Gw h a):Tms d a ps b:=⟨x.len,fun i hi=>(x.at_ i hi).gw u⟩
structure Rms (d:Nat) (h:Hp) (rs:List RTm) (ts:List Tm):Prop where
  len:rs.length=ts.length
  at_:∀ i,i<ts.length->RmH d h (rs.getD i bV) (ts.getD i cY)
theorem Rms.gw {d:Nat}{h b:Hp}{a:List RTm}{c:List Tm}(x:Rms d h a c)(u:Gw h b):Rms d b a c:=⟨x.len,fun i hi=>(x.at_ i hi).gw u⟩
theorem Rms.nil {d:Nat}{h:Hp}:Rms d h [] []:=⟨rfl,fun i hi=>by simp at hi⟩
theorem Rms.snoc {d:Nat}{h:Hp}{b:List RTm}{a:List Tm}{r:RTm}{t:Tm}(x:Rms d h b a)(y:RmH d h r t):Rms d h (b++[r]) (a++[t]):=by
 refine ⟨by simp[x.len],fun i hi=>?_⟩;rw[y4,NP] at hi
 rw[eu,eu,x.len]
 by_cases e:i<a.length
 ·rw[if_pos e,if_pos e];exact x.at_ i e
 ·rw[if_neg e,if_neg e,if_pos oM,if_pos oM];exact y
theorem Tms.nil {d:Nat}{h:Hp}:Tms d h [] []:=⟨rfl,fun i hi=>by simp at hi⟩
theorem Tms.snoc {d:Nat}{h:Hp}{b:List PTm}{a:List Tm}{r:PTm}{t:Tm}(x:Tms d h b a)(y:TmH d h r t):Tms d h (b++[r]) (a++[t]):=by
 refine ⟨by simp[x.len],fun i hi=>?_⟩;rw[y4,NP] at hi
 rw[eu,eu,x.len]
 by_cases e:i<a.length
 ·rw[if_pos e,if_pos e];exact x.at_ i e
 ·rw[if_neg e,if_neg e,if_pos oM,if_pos oM];exact y
theorem TmH.mk {d:Nat}{h:Hp}{op n:Int}{q:Rat}{s:ByteArray}{A:Z9}{c:Nat}{ps:List PTm}{ks:List Tm}(x:Tms d h ps ks)(b:ps.length<=c)(a:SlO 9 da cJ h A ps):TmH (d+1) h ⟨op,n,q,s,A,ps.length,c⟩ (.mk op n q s ks) :=
 ⟨rfl,rfl,rfl,rfl,x.len,b,ps,x.len,a,x.at_⟩
theorem RmH.mk {d:Nat}{h:Hp}{op n:Int}{b:Bool}{e a:Z9}{f j l i:Nat}{q:Rat}{s:ByteArray}{A:Z9}{c:Nat}{ps:List RTm}{ks:List Tm}(z:RZ h (b,.slice e f j,.slice a l i) q)(x:Rms d h ps ks)(o:ps.length<=c)(p:SlO 7 bF bV h A ps):RmH (d+1) h ⟨op,n,b,e,f,j,a,l,i,s,A,ps.length,c⟩ (.mk op n q s ks) :=
 ⟨rfl,rfl,z,rfl,x.len,o,ps,x.len,p,x.at_⟩
theorem TmH.open {d:Nat}{h:Hp}{p:PTm}{t:Tm}(x:TmH (d+1) h p t):∃ op n q s A c,∃ ps:List PTm,∃ ks:List Tm,p=⟨op,n,q,s,A,ps.length,c⟩/\t=.mk op n q s ks/\ps.length<=c/\SlO 9 da cJ h A ps/\Tms d h ps ks:=by
  obtain ⟨op,n,q,s,A,m,c⟩:=p;cases t with
  | mk tT n2 q2 s2 ks =>
    obtain ⟨h1,i,j,e,f,b,ps,a,l,o⟩:=x;obtain rfl:op=tT:=h1;obtain rfl:n=n2:=i;obtain rfl:q=q2:=j;obtain rfl:s=s2:=e;obtain rfl:m=ps.length:=(show m=ks.length from f).trans a.symm;exact ⟨op,n,q,s,A,c,ps,ks,rfl,rfl,b,l,a,o⟩
theorem RmH.mono {h:Hp}{d e:Nat}{p:RTm}{t:Tm}(x:RmH d h p t)(u:d<=e):RmH e h p t:=by
  induction d generalizing e p t with
  | zero=>exact x.elim
  | succ d ih =>
    cases e with
    | zero=>omega
    | succ e =>
      obtain ⟨h1,j,l,b,f,a,ps,c,o,y⟩:=x;exact ⟨h1,j,l,b,f,a,ps,c,o,fun i hi=>ih (y i hi) oM⟩
theorem RmH.open {d:Nat}{h:Hp}{p:RTm}{t:Tm}(x:RmH (d+1) h p t):∃ op n b e f j a l i q s A c,∃ ps:List RTm,∃ ks:List Tm,p=⟨op,n,b,e,f,j,a,l,i,s,A,ps.length,c⟩/\t=.mk op n q s ks/\RZ h (b,.slice e f j,.slice a l i) q/\ps.length<=c/\SlO 7 bF bV h A ps/\Rms d h ps ks:=by
  obtain ⟨op,n,b,e,f,j,a,l,i,s,A,m,c⟩:=p;cases t with
  | mk tT n2 q2 s2 ks =>
    obtain ⟨h1,B,C,y,z,u,ps,o,D,F⟩:=x;obtain rfl:op=tT:=h1;obtain rfl:n=n2:=B;obtain rfl:s=s2:=y;obtain rfl:m=ps.length:=(show m=ks.length from z).trans o.symm;exact ⟨op,n,b,e,f,j,a,l,i,q2,s,A,c,ps,ks,rfl,rfl,C,u,D,o,F⟩
def dU (f:Nat->Nat):Nat->Nat
  | 0=>0
  | k+1=>dU f k+f k
def bG (n:Int):Nat:=if n.natAbs<=1 then 1 else n.natAbs
def ce:Nat->Tm->Nat
  | 0,_=>0
  | d+1,t=>if t.ks.length=0 then 1 else (if t.op=11 then 2 else if t.op=8 then bG t.n else 1)*dU (fun i=>ce d (t.ks.getD i cY)) t.ks.length
def WfT (ok:ByteArray->Prop):Nat->Tm->Prop
  | 0,_=>False
  | d+1,t=>fu t.op=t.ks.length/\(t.op≠1->t.q=0)/\LQ 3000 t.q/\(t.op=2->ok t.s)/\(t.op≠2->t.s=⟨#[]⟩)/\(t.op≠8->t.n=0) /\ -12<=t.n/\t.n<=12/\∀ i,i<t.ks.length->WfT ok d (t.ks.getD i cY)
theorem WfT.mono {ok:ByteArray->Prop}:∀ {d e:Nat} {t:Tm},WfT ok d t->d<=e->WfT ok e t
 | d+1,e+1,_,⟨h1,h2,h3,h4,h5,h6,h7,h8,h9⟩,u=>⟨h1,h2,h3,h4,h5,h6,h7,h8,fun i hi=>WfT.mono (h9 i hi) oM⟩
def nW (sm:ByteArray->Prop):Nat->Tm->Prop
  | 0,_=>False
  | d+1,t=>t.ks.length<=3/\(-1000<=t.op/\t.op<=1000)/\(-1000<=t.n/\t.n<=1000)/\LQ 3000 t.q/\sm t.s/\∀ i,i<t.ks.length->nW sm d (t.ks.getD i cY)
theorem WfT.sm {ok sm:ByteArray->Prop}(h:∀ s,ok s->sm s)(h0:sm ⟨#[]⟩):∀ {d:Nat} {t:Tm},WfT ok d t->nW sm d t
  | d+1,t,⟨h1,h2,h3,h4,h5,h6,h7,h8,h9⟩=>by
    have a:=aE t.op;refine ⟨by omega,⟨by omega,by omega⟩,⟨by omega,by omega⟩,h3,?_,fun i hi=>WfT.sm h h0 (h9 i hi)⟩
    by_cases e:t.op=2
    . exact h _ (h4 e)
    . rw[h5 e];exact h0
def WfT1 (ok:ByteArray->Prop):Nat->Tm->Prop
  | 0,_=>False
  | d+1,t=>fu t.op=t.ks.length/\(t.op≠1->t.q=0)/\LQ 1 t.q/\(t.op=2->ok t.s)/\(t.op≠2->t.s=⟨#[]⟩)/\(t.op≠8->t.n=0) /\ -12<=t.n/\t.n<=12/\∀ i,i<t.ks.length->WfT1 ok d (t.ks.getD i cY)
theorem WfT1.wf {ok:ByteArray->Prop}:∀ {d:Nat} {t:Tm},WfT1 ok d t->WfT ok d t
 | _+1,_,⟨h1,h2,h3,h4,h5,h6,h7,h8,h9⟩=>⟨h1,h2,h3.mono kD,h4,h5,h6,h7,h8,fun i hi=>WfT1.wf (h9 i hi)⟩
def SmT1 (sm:ByteArray->Prop):Nat->Tm->Prop
  | 0,_=>False
  | d+1,t=>t.ks.length<=3/\(-1000<=t.op/\t.op<=1000)/\(-1000<=t.n/\t.n<=1000)/\LQ 1 t.q/\sm t.s/\∀ i,i<t.ks.length->SmT1 sm d (t.ks.getD i cY)
theorem SmT1.mono {sm:ByteArray->Prop}:∀ {d e:Nat} {t:Tm},SmT1 sm d t->d<=e->SmT1 sm e t
 | d+1,e+1,_,⟨h1,h2,h3,h4,h5,h6⟩,u=>⟨h1,h2,h3,h4,h5,fun i hi=>SmT1.mono (h6 i hi) oM⟩
theorem SmT1.sm {sm:ByteArray->Prop}:∀ {d:Nat} {t:Tm},SmT1 sm d t->nW sm d t
 | _+1,_,⟨h1,h2,h3,h4,h5,h6⟩=>⟨h1,h2,h3,h4.mono kD,h5,fun i hi=>SmT1.sm (h6 i hi)⟩
theorem WfT1.sm {ok sm:ByteArray->Prop}(h:∀ s,ok s->sm s)(h0:sm ⟨#[]⟩):∀ {d:Nat} {t:Tm},WfT1 ok d t->SmT1 sm d t
  | d+1,t,⟨h1,h2,h3,h4,h5,h6,h7,h8,h9⟩=>by
    have a:=aE t.op;refine ⟨by omega,⟨by omega,by omega⟩,⟨by omega,by omega⟩,h3,?_,fun i hi=>WfT1.sm h h0 (h9 i hi)⟩
    by_cases e:t.op=2
    . exact h _ (h4 e)
    . rw[h5 e];exact h0
def KD (isb:ByteArray->Bool)(op n:Int)(q:Rat)(s:ByteArray)(m:Nat):Prop:=fu op=m/\(op=1\/q.num=0)/\((op=2->isb s=true)/\(op≠2->s=⟨#[]⟩))/\((op=8\/n=0) /\ -12<=n/\n<=12)
section
variable {isb:ByteArray->Bool}{d:Nat}{op n:Int}{q:Rat}{s:ByteArray}{ks:List Tm}
theorem CE (w:WfT (fun s=>isb s=true) (d+1) (.mk op n q s ks)):KD isb op n q s ks.length:=by
 obtain ⟨h1,b,l,h,a,c,i,f,j⟩:=w;refine ⟨h1,?_,⟨h,a⟩,?_,i,f⟩
 ·by_cases e:op=1
  ·exact .inl e
  ·exact .inr (Nz.2 (b e))
 ·by_cases e:op=8
  ·exact .inl e
  ·exact .inr (c e)
theorem qn (h:¬KD isb op n q s ks.length):∃ a,Value.bool false=.bool a/\(a=true↔WfT (fun s=>isb s=true) (d+1) (.mk op n q s ks)):=⟨false,rfl,fun b=>(by cases b),fun w=>absurd (CE w) h⟩
theorem E9 {k:Nat}(hk:k<ks.length){b:Bool}(c:b=false)(h:b=true↔WfT (fun s=>isb s=true) d (ks.getD k cY)):∃ a,Value.bool false=.bool a/\(a=true↔WfT (fun s=>isb s=true) (d+1) (.mk op n q s ks)):=⟨false,rfl,fun f=>(by cases f),fun ⟨_,_,_,_,_,_,_,_,e⟩=>by rw[h.2 (e k hk)] at c;cases c⟩
theorem EP (h:KD isb op n q s ks.length)(j:LQ 3000 q)(l:∀ i,i<ks.length->WfT (fun s=>isb s=true) d (ks.getD i cY)):∃ a,Value.bool true=.bool a/\(a=true↔WfT (fun s=>isb s=true) (d+1) (.mk op n q s ks)):=by
 obtain ⟨h1,c,⟨p,b⟩,f,u,o⟩:=h;refine ⟨true,rfl,fun _=>⟨h1,fun e=>Nz.1 (c.resolve_left e),j,p,b,fun e=>f.resolve_left e,u,o,l⟩,fun _=>rfl⟩
end
def HV (nm:Int->ByteArray)(l:List Stp):Nat->Nat->Tm
  | 0,_=>cY
  | f+1,i =>
    if (l.getD i fe).op=2 then .mk 2 0 0 (nm (l.getD i fe).n) []
    else if fu (l.getD i fe).op=1 then .mk (l.getD i fe).op (l.getD i fe).n 0 ⟨#[]⟩ [HV nm l f (l.getD i fe).a.toNat]
    else if fu (l.getD i fe).op=2 then .mk (l.getD i fe).op 0 0 ⟨#[]⟩ [HV nm l f (l.getD i fe).a.toNat,HV nm l f (l.getD i fe).b.toNat]
    else .mk (l.getD i fe).op 0 (l.getD i fe).q ⟨#[]⟩ []
structure MapJ (h0:Hp) (B:List Bx) (w:World) (h:Hp) (b:Nat) (es:List MapEntry) (clk:Nat):Prop where
  obj:w.heap[b]?=some (.map es.toArray clk)
  jk:h[b]?=some be
  lo:h0.size<=b
  nb:∀ x∈B,x.b≠b
def MapS (h:Hp)(b:Nat)(es:List MapEntry):Prop:=∃ clk,h[b]?=some (.map es.toArray clk)
theorem MapS.gw {h d:Hp}{b:Nat}{a:List MapEntry}(x:MapS h b a)(u:Gw h d):MapS d b a:=by
 obtain ⟨c,e⟩:=x;refine ⟨c,?_⟩
 rcases u.blk b (aR e) with k|k
 ·exact k.trans e
 ·rw[e] at k;cases k
theorem MapS.w {w:World}{h:Hp}{b:Nat}{d:List MapEntry}(x:MapS h b d)(g:G w h):∃ a,w.heap[b]?=some (.map d.toArray a):=by
 obtain ⟨c,e⟩:=x;refine ⟨c,?_⟩
 rcases g.blk b with k|k
 ·rw[<-k];exact e
 ·rw[e] at k;cases k
theorem uI {P:Program}(w:World){mty kt et:TypeId}{b a:Nat}{c:Array MapEntry}{s:ByteArray}{val:Value}(f:P.underlying mty=some (.map kt et))(hk:P.underlying kt=some .string)(d:w.heap[b]?=some (.map c a))(hf:Instr.findNow .string (.string s) c.toList 0=some none) :
  (Instr.mapUpdate mty (.map (some b)) (.string s) val).run P w=.ok () { w with heap:=w.heap.setIfInBounds b (.map (c.push { key:=.string s,val:=val,born:=a }) (a+1)) }:=by
 have e:(Instr.checkKey false 10000 kt (.string s)).run P w=.ok () w:=MapKept.run_checkKey (k:=.string s) hk (by simp[MapKept.IsKey]) false 9999
 simp[Instr.mapUpdate,run_underlying f,MapKept.run_getObj_map d,e,MapKept.run_findKey hk hf,MapKept.run_setObj_map _ d,Result.andThen]
theorem qI {P:Program}(w:World){mty kt et:TypeId}{b a i:Nat}{c:Array MapEntry}{s:ByteArray}{val f:Value}(p:P.underlying mty=some (.map kt et))(hk:P.underlying kt=some .string)(d:w.heap[b]?=some (.map c a))(hf:Instr.findNow .string (.string s) c.toList 0=some (some (i,f)))(l:((c[i]?).map (·.key)).getD (.string s)=.string s) :
  (Instr.mapUpdate mty (.map (some b)) (.string s) val).run P w=.ok () { w with heap:=w.heap.setIfInBounds b (.map (c.modify i fun e=>{ e with key:=.string s,val:=val }) a) }:=by
 have o:(Instr.checkKey false 10000 kt (.string s)).run P w=.ok () w:=MapKept.run_checkKey (k:=.string s) hk (by simp[MapKept.IsKey]) false 9999;have j:(s == s)=true:=by first|exact beq_self_eq_true s|(show (s.data == s.data)=true;exact beq_self_eq_true _)|(cases s;rfl)
 have h:Instr.sameBits 10000 (.string s) (.string s)=true:=by simp[Instr.sameBits,j]
 simp[Instr.mapUpdate,run_underlying p,MapKept.run_getObj_map d,o,MapKept.run_findKey hk hf,MapKept.run_setObj_map _ d,Result.andThen,l,Instr.keyThatStays,h]
theorem xK {P:Program}(w:World){mty kt et:TypeId}{b c:Nat}{a:Array MapEntry}{s:ByteArray}(ok:Bool){v:Value}{found:Bool}(e:P.underlying mty=some (.map kt et))(hk:P.underlying kt=some .string)(f:w.heap[b]?=some (.map a c))
  (hf:(∃ i,Instr.findNow .string (.string s) a.toList 0=some (some (i,v))/\found=true)\/(Instr.findNow .string (.string s) a.toList 0=some none/\found=false/\(zeroValue et).run P w=.ok v w)) :
  (Instr.lookup mty (.map (some b)) (.string s) ok).run P w=.ok (if ok then .tuple #[v,.bool found] else v) w:=by
 have d:(Instr.checkKey a.isEmpty 10000 kt (.string s)).run P w=.ok () w:=MapKept.run_checkKey (k:=.string s) hk (by simp[MapKept.IsKey]) _ 9999
 rcases hf with ⟨i,hf,rfl⟩|⟨hf,rfl,hz⟩
 ·simp[Instr.lookup,run_underlying e,MapKept.run_getObj_map f,d,MapKept.run_findKey hk hf,Result.andThen]
 ·simp[Instr.lookup,run_underlying e,MapKept.run_getObj_map f,d,MapKept.run_findKey hk hf,hz,Result.andThen]
theorem ui {w:World}{b:Nat}{o o':Obj}(e:w.heap[b]?=some o):Put b w { w with heap:=w.heap.setIfInBounds b o' }/\({ w with heap:=w.heap.setIfInBounds b o' }:World).heap[b]?=some o':=by
 have a:b<w.heap.size:=(Array.getElem?_eq_some_iff.1 e).1;refine ⟨⟨rfl,rfl,rfl,by simp,fun c d=>by show (w.heap.setIfInBounds b o')[c]?=_;rw[i2 (Ne.symm d)]⟩,?_⟩
 show (w.heap.setIfInBounds b o')[b]?=_
 rw[As a]
section laws
variable {P:Program}{n:Nat}{N R:Po}{X:Nat->Po}{ops:Array Oper}{k:Nat}{Γ:cl}{w:World}{h:Hp}{w0:World}{h0:Hp}{B:List Bx}{Rs:List Rw}{F:List (Hp->Prop)}
theorem SS.pokeJ (s:SS w0 h0 w h B [] F){b:Nat}{w':World}(c:h[b]?=some be)(d:h0.size<=b)(hn:∀ x∈B,x.b≠b)(p:Put b w w'):SS w0 h0 w' h B [] F :=
 ⟨s.g0,⟨s.st.up.put p c d s.g0.size,fun x a=>(p.blk _ (hn x a)).trans (s.st.own x a),s.st.jk,s.st.lo,s.st.nd⟩,fun _ a=>(by cases a),.nil,s.mo,s.f⟩
theorem HN (t:Nat)(s:SS w0 h0 w h B Rs F)(H:∀ b w' h',SS w0 h0 w' h' B Rs F->MapJ h0 B w' h' b [] 0->LG P n N R X ops (k+1) ((t,.map (some b))::Γ) w')(a:cL ops Γ k t n=true:=by kernel_rfl)
  (hr:(execOp (ev Γ) (ak ops k)).run P w=.ok (.value (.map (some w.heap.size))) (w.alloc (.map #[] 0)):=by kernel_rfl):LG P n N R X ops k Γ w:=by
 have u:Up w h (w.alloc (.map #[] 0)) (h.push be):=Up.allocAny s.g _ _ (.inr rfl);refine LG.val t _ _ (bQ a).1 (bQ a).2 hr (H _ _ _ (s.step u) ⟨?_,?_,?_,fun x c e=>?_⟩)
 ·rw[heap_alloc];exact fo
 ·rw[s.g.size];exact fo
 ·rw[s.g.size];exact s.st.sz
 ·have:=aR (s.st.jk x c)
  have:=s.g.size
  omega
theorem pp {b a:Nat}{c:List MapEntry}(mty kt et:TypeId)(ky:ByteArray)(val:Value)(s:SS w0 h0 w h B [] F)(m:MapJ h0 B w h b c a)(H:∀ w',SS w0 h0 w' h B [] F->MapJ h0 B w' h b (c++[⟨.string ky,val,a⟩]) (a+1)->LG P n N R X ops (k+1) Γ w')
  (d:cS ops Γ k=true:=by kernel_rfl)(e:execOp (ev Γ) (ak ops k)=(do Instr.mapUpdate mty (.map (some b)) (.string ky) val;pure .skip):=by kernel_rfl)(i:P.underlying mty=some (.map kt et):=by kernel_rfl)(hk:P.underlying kt=some .string:=by kernel_rfl)(hf:Instr.findNow .string (.string ky) c 0=some none:=by kernel_rfl):LG P n N R X ops k Γ w:=by
 have hr:=uI w (val:=val) i hk m.obj hf;obtain ⟨p,f⟩:=ui (o':=.map (c.toArray.push { key:=.string ky,val:=val,born:=a }) (a+1)) m.obj;refine LG.store _ (iu d).1 (iu d).2 ?_ (H _ (s.pokeJ m.jk m.lo m.nb p) ⟨?_,m.jk,m.lo,m.nb⟩)
 ·rw[e];simp[hr,Result.andThen]
 ·rw[f];simp
theorem Lg {b a i:Nat}{d:List MapEntry}(mty kt et:TypeId)(ky:ByteArray)(val l:Value)(c:List MapEntry)(s:SS w0 h0 w h B [] F)(m:MapJ h0 B w h b d a)(H:∀ w',SS w0 h0 w' h B [] F->MapJ h0 B w' h b c a->LG P n N R X ops (k+1) Γ w')
  (f:cS ops Γ k=true:=by kernel_rfl)(j:execOp (ev Γ) (ak ops k)=(do Instr.mapUpdate mty (.map (some b)) (.string ky) val;pure .skip):=by kernel_rfl)(y:P.underlying mty=some (.map kt et):=by kernel_rfl)(hk:P.underlying kt=some .string:=by kernel_rfl)(hf:Instr.findNow .string (.string ky) d 0=some (some (i,l)):=by kernel_rfl)
  (x:((d.toArray[i]?).map (·.key)).getD (.string ky)=.string ky:=by kernel_rfl)(o:d.toArray.modify i (fun e=>{ e with key:=.string ky,val:=val })=c.toArray:=by kernel_rfl):LG P n N R X ops k Γ w:=by
 have hr:=qI w (val:=val) y hk m.obj hf x;obtain ⟨p,u⟩:=ui (o':=.map (d.toArray.modify i fun e=>{ e with key:=.string ky,val:=val }) a) m.obj;refine LG.store _ (iu f).1 (iu f).2 ?_ (H _ (s.pokeJ m.jk m.lo m.nb p) ⟨?_,m.jk,m.lo,m.nb⟩)
 ·rw[j];simp[hr,Result.andThen]
 ·rw[u,o]
theorem I7 (t:Nat){b:Nat}{a:List MapEntry}(mty kt et:TypeId)(ky:ByteArray)(ok:Bool)(v:Value)(found:Bool)(s:SS w0 h0 w h B Rs F)(m:MapS h b a)(H:LG P n N R X ops (k+1) ((t,if ok then .tuple #[v,.bool found] else v)::Γ) w)(c:cL ops Γ k t n=true:=by kernel_rfl)
  (d:execOp (ev Γ) (ak ops k)=(do pure (.value (<-Instr.lookup mty (.map (some b)) (.string ky) ok))):=by kernel_rfl)(f:P.underlying mty=some (.map kt et):=by kernel_rfl)(hk:P.underlying kt=some .string:=by kernel_rfl)
  (hf:(∃ i,Instr.findNow .string (.string ky) a 0=some (some (i,v))/\found=true)\/(Instr.findNow .string (.string ky) a 0=some none/\found=false/\∀ w,(zeroValue et).run P w=.ok v w)):LG P n N R X ops k Γ w:=by
 obtain ⟨e,j⟩:=m.w s.g;refine LG.val t _ w (bQ c).1 (bQ c).2 ?_ H;rw[d];have hr:=xK w ok (v:=v) (found:=found) f hk j (hf.imp id fun h=>⟨h.1,h.2.1,h.2.2 w⟩)
 simp[hr,Result.andThen]
theorem K3 (t:Nat){b:Nat}{a:List MapEntry}(mty ty kt et:TypeId)(s:SS w0 h0 w h B Rs F)(m:MapS h b a)(H:LG P n N R X ops (k+1) ((t,.int .i64 (a.length:Nat))::Γ) w)(c:cL ops Γ k t n=true:=by kernel_rfl)
  (d:execOp (ev Γ) (ak ops k)=(do pure (.value (<-Builtin.len_ #[mty] ty #[.map (some b)]))):=by kernel_rfl)(f:P.underlying mty=some (.map kt et):=by kernel_rfl):LG P n N R X ops k Γ w:=by
 obtain ⟨e,i⟩:=m.w s.g;refine LG.val t _ w (bQ c).1 (bQ c).2 ?_ H;rw[d]
 have hr:(Builtin.len_ #[mty] ty #[.map (some b)]).run P w=.ok (goInt a.toArray.size) w:=by
  simp[Builtin.len_,run_underlying f,MapKept.run_getObj_map i,Result.andThen]
 simp[hr,Result.andThen,goInt]
theorem SS.pubMap {b a:Nat}{j:List MapEntry}(s:SS w0 h0 w h B [] F)(m:MapJ h0 B w h b j a):∃ l,SS w0 h0 w l B [] F/\MapS l b j:=by
 have d:=aR m.jk;refine ⟨h.setIfInBounds b (.map j.toArray a),⟨s.g0,⟨⟨s.st.up.ext,⟨by simp;exact s.st.up.gr.size,fun c o=>?_⟩,⟨by simp;exact s.st.up.g.size,fun c=>?_⟩⟩,s.st.own,fun x i=>?_,s.st.lo,s.st.nd⟩,fun _ i=>(by cases i),.nil,s.mo,s.f.gw s.mo ⟨by simp,fun c _=>?_⟩⟩,a,?_⟩
 ·have:=m.lo
  rw[i2 oM];exact s.st.up.gr.blk c o
 ·by_cases e:b=c
  ·subst e;left;rw[As d];exact m.obj.symm
  ·rw[i2 e];exact s.st.up.g.blk c
 ·rw[i2 (Ne.symm (m.nb x i))];exact s.st.jk x i
 ·by_cases e:b=c
  ·subst e;exact .inr m.jk
  ·left;rw[i2 e]
 ·rw[As d]
end laws
theorem n8 (f:Nat->Nat){a b:Nat}(h:a<=b):dU f a<=dU f b:=by
 induction h with
 | refl=>exact eb _
 | step _ ih=>exact ep ih (NQ _ _)
def dL (op n:Int):Nat:=if op=11 then 2 else if op=8 then bG n else 1
theorem dt (op n:Int):1<=dL op n:=by
 unfold dL bG
 split
 ·omega
 ·split
  ·split<;>omega
  ·omega
theorem uK {d:Nat}{op n:Int}{q:Rat}{s:ByteArray}{ks:List Tm}(h:ks.length=0):ce (d+1) (.mk op n q s ks)=1:=if_pos h
theorem j4 {d:Nat}{op n:Int}{q:Rat}{s:ByteArray}{ks:List Tm}(h:ks.length≠0):ce (d+1) (.mk op n q s ks)=dL op n*dU (fun i=>ce d (ks.getD i cY)) ks.length:=if_neg h
theorem sh {d:Nat}{op n:Int}{q:Rat}{s:ByteArray}{ks:List Tm}(h:ks.length≠0):dU (fun i=>ce d (ks.getD i cY)) ks.length<=ce (d+1) (.mk op n q s ks):=by
 rw[j4 h];exact MS _ (dt op n)
theorem l5 {m s:Nat}(h:1<=m):min (m*min s 1001) 1001=min (m*s) 1001:=by
 rcases MO s 1001 with e|e
 ·rw[Lv e]
 ·rw[LY e,LY (ep e (MS _ h)),LY (MS _ h)]
theorem Ev (op:Int)(w:World)(h:Hp)(g:G w h):CV 137 #[iV op] w h (iV (fu op)):=by
 have a:=sS g;refine go Tryz.func137 [(0,iV op)] rfl (aa a ac (ag (aa a ac (aZ (cQ (ax ?_))))));cases i:((op:Int) == (1:Int))
 .
  have z:=aj i;refine lB 5 i (lL a ac (ah (kQ ?_)));cases j:((op:Int) == (2:Int))
  .
   have C:=aj j;refine lB 6 j (lL a ac (ah (cQ (ax ?_))));cases d:((op:Int) == (7:Int))
   .
    have D:=aj d;refine lB 8 d (lL a ac (ah (ax ?_)));cases b:((op:Int) == (8:Int))
    .
     have p:=aj b;refine lB 9 b (lL a ac (ah (ax ?_)));cases e:((op:Int) == (9:Int))
     .
      have B:=aj e;refine lB 10 e (lL a ac (ah (ax ?_)));cases o:((op:Int) == (10:Int))
      .
       have u:=aj o;refine lB 11 o (lL a ac (ah (kQ ?_)));cases l:((op:Int) == (11:Int))
       .
        have F:=aj l;refine lB 12 l (lL a ac (ah (cQ (ax ?_))));cases c:((op:Int) == (3:Int))
        .
         have y:=aj c;refine lB 14 c (lL a ac (ah (ax ?_)));cases f:((op:Int) == (4:Int))
         .
          have x:=aj f;refine lB 15 f (lL a ac (ah (ax ?_)));cases J:((op:Int) == (5:Int))
          .
           have L:=aj J;refine lB 16 J (lL a ac (ah (ax ?_)));cases K:((op:Int) == (6:Int))
           .
            have Q:=aj K;refine lB 17 K (lL a ac (ah (ax ?_)));cases I:((op:Int) == (12:Int))
            .
             have O:=aj I;refine lB 18 I (lL a ac (ah (kQ ?_)));cases H:((op:Int) == (13:Int))
             .
              have M:=aj H;exact lB 19 H (lL a ac (ah (cK (aa a ac (ae a [] (iV (-1)) (congrArg (Value.int .i64) (by have:=aE op;omega)))))))
             have M:=eq_of_beq H;exact lB 19 H (lL a ac (am (aa a ac (ae a [] (iV 2) (congrArg (Value.int .i64) (by have:=aE op;omega))))))
            have O:=eq_of_beq I;exact lB 18 I (lL a ac (am (cK (ct (aa a ac (ae a [] (iV 2) (congrArg (Value.int .i64) (by have:=aE op;omega))))))))
           have Q:=eq_of_beq K;exact lB 17 K (lL a ac (am (cK (ct (aa a ac (ae a [] (iV 2) (congrArg (Value.int .i64) (by have:=aE op;omega))))))))
          have L:=eq_of_beq J;exact lB 16 J (lL a ac (am (cK (ct (aa a ac (ae a [] (iV 2) (congrArg (Value.int .i64) (by have:=aE op;omega))))))))
         have x:=eq_of_beq f;exact lB 15 f (lL a ac (am (cK (ct (aa a ac (ae a [] (iV 2) (congrArg (Value.int .i64) (by have:=aE op;omega))))))))
        have y:=eq_of_beq c;exact lB 14 c (lL a ac (am (cK (ct (aa a ac (ae a [] (iV 2) (congrArg (Value.int .i64) (by have:=aE op;omega))))))))
       have F:=eq_of_beq l;exact lB 12 l (lL a ac (am (aa a ac (ae a [] (iV 1) (congrArg (Value.int .i64) (by have:=aE op;omega))))))
      have u:=eq_of_beq o;exact lB 11 o (lL a ac (am (cK (ct (aa a ac (ae a [] (iV 1) (congrArg (Value.int .i64) (by have:=aE op;omega))))))))
     have B:=eq_of_beq e;exact lB 10 e (lL a ac (am (cK (ct (aa a ac (ae a [] (iV 1) (congrArg (Value.int .i64) (by have:=aE op;omega))))))))
    have p:=eq_of_beq b;exact lB 9 b (lL a ac (am (cK (ct (aa a ac (ae a [] (iV 1) (congrArg (Value.int .i64) (by have:=aE op;omega))))))))
   have D:=eq_of_beq d;exact lB 8 d (lL a ac (am (cK (ct (aa a ac (ae a [] (iV 1) (congrArg (Value.int .i64) (by have:=aE op;omega))))))))
  have C:=eq_of_beq j;exact lB 6 j (lL a ac (am (aa a ac (ae a [] (iV 0) (congrArg (Value.int .i64) (by have:=aE op;omega))))))
 have z:=eq_of_beq i;exact lB 5 i (lL a ac (am (cK (ct (aa a ac (ae a [] (iV 0) (congrArg (Value.int .i64) (by have:=aE op;omega))))))))
theorem Fx (n:Int)(h0 : -12<=n)(h1:n<=12)(w:World)(h:Hp)(g:G w h):CV 138 #[iV n] w h (nV (bG n)):=by
 have a:=sS g;refine go Tryz.func138 [(0,iV n)] rfl (aa a ac (ag (aa a ac ?_)));cases b:(decide ((n:Int)<=(-1073741824:Int)))
 .
  have e:=oF b;refine lB 4 b (lL a aD ?_);cases c:(decide ((1073741824:Int)<=(n:Int)))
  .
   have d:=oF c;refine lB 7 c (lL a [.v qF] (ah (cK (aa a aD (lI 11 (0-n) ?_)))));refine lV 12 (iV (max (max (n:Int) (0-n:Int)) (1:Int))) ?_ (hr:=aK (n:=(if (1:Int)>(if (0-n:Int)>(n:Int) then (0-n:Int) else (n:Int)) then (1:Int) else (if (0-n:Int)>(n:Int) then (0-n:Int) else (n:Int)))) kR (by simp only[pQ]));exact lL a ac (ae a [] (iV (max (max (n:Int) (0-n:Int)) (1:Int))) (congrArg (Value.int .i64) (by unfold bG;(repeat' split)<;>omega)))
  have d:=oT c;exact lB 7 c (lL a [.v qT] (am (aa a ac (ae a [] (iV 1073741824) (congrArg (Value.int .i64) (by unfold bG;(repeat' split)<;>omega))))))
 have e:=oT b;refine lB 4 b (lL a ac (lG 6 ?_));exact lG 7 (lL a [.v qT] (am (aa a ac (ae a [] (iV 1073741824) (congrArg (Value.int .i64) (by unfold bG;(repeat' split)<;>omega))))))
theorem Bg  (sm:ByteArray->Prop)(d:Nat)(M:∀ (p:PTm) (t:Tm) (a:Int) (w:World) (h:Hp),G w h->TmH d h p t->nW sm d t->(d:Int)<=a->a<=1000->Calls Tryz.prog 91 #[bO p,iV a] w (Ret w h (fun v _=>v=.bool false)))(op n:Int)(q:Rat)(s:ByteArray)(A:Z9)(c:Nat)(ps:List PTm)(ks:List Tm)(hc:ps.length<=c)(O:ps.length<=3)(Q:ks.length<=3)(D : -1000<=op/\op<=1000)(hn : -1000<=n/\n<=1000)(Z:LQ 3000 q)(U:sm s)(F:∀ i,i<ks.length->nW sm d (ks.getD i cY))(a:Int)(hm:((d+1:Nat):Int)<=a)(L:a<=1000)(w:World)(h:Hp)(g:G w h)(I:SlO 9 da cJ h A ps)(y:Tms d h ps ks):CV 91 #[bO ⟨op,n,q,s,A,ps.length,c⟩,iV a] w h (.bool false):=by
 have b:=(((sS g).aS I).add (K:=fun l=>Tms d l ps ks) y);have J:=(b.f.1).len;refine go Tryz.func91 [(0,bO ⟨op,n,q,s,A,ps.length,c⟩),(1,iV a)] rfl (ax (lA 2 50 (da ⟨op,n,q,s,A,ps.length,c⟩) b (fun B w2 H b=>lL b ac (ag (aa b ac ?_)))));cases e:(decide ((a:Int)<(1:Int)))
 .
  have u:=oF e;refine lB 8 e (ah (cK (cQ (aa b [.v (qP B 8),.o (qS A ps.length c) 0 8 1,.v (nV ps.length),.c] (aZ ?_)))));refine bH _ (CG.loop (fun z Γ C=>∃ (k:Nat)(l:Hp),z=ps.length-k/\Γ=[(1,iV a),(10,qS A ps.length c),(11,nV ps.length),(12,nV k)]/\SS w h C l [⟨B,50,da ⟨op,n,q,s,A,ps.length,c⟩⟩] [] [fun l=>Tms d l ps ks,fun l=>SlO 9 da cJ l A ps]/\k<=ps.length) _ ⟨0,H,rfl,rfl,b.to _ _,My _⟩ ?_);rintro _ _ Y ⟨k,X,W,rfl,b,hk⟩;refine ax ?_;cases j:(decide ((k:Int)<(ps.length:Int)))
  .
   have x:=oF j;refine lB 13 j (ag (dD (CG.exit ?_)))
   show CG _ _ _ _ _ _ _ _
   exact aa b ac (ae b [] qF rfl)
  have x:=oT j;refine lB 13 j (ag (ct (cK (cQ (kZ (ax (lX 14 A ps.length c 9 (k:Nat) k ((b.f.2.1).ok oM) ?_)))))));refine lH 15 (bO (ps.getD k cJ)) b ((b.f.2.1).el k oM) (lA 6 50 a7 b (fun b9 _ _ b=>lP 0 0 (da (ps.getD k cJ)) b (fun _ b=>aG (lL b [.o (bO (ps.getD k cJ)) 0 0 9,.c] (lI 18 (a-1) ?_)))));refine aq 19 b (M (ps.getD k cJ) (ks.getD k cY) (a-1) _ _ b.g ((b.f.1).at_ k oM) (F k oM) oM oM) (fun _ V b=>ah (cK (kQ (bp 20 ((k:Nat)+1) (k+1) ?_))));refine lL b ac (lD ?_);intro a_ S;replace b:=b.drop 1 0;refine ⟨_,_,?_,⟨k+1,V,rfl,rfl,b.to _ _,oM⟩,S.to _ kR⟩
  omega
 have u:=oT e;refine lB 8 e (am (aa b ac (lN (kX ?_))))
 exfalso;omega
theorem uk (sm:ByteArray->Prop):∀ (d:Nat) (p:PTm) (t:Tm) (a:Int) (w:World) (h:Hp),G w h->TmH d h p t->nW sm d t->(d:Int)<=a->a<=1000->Calls Tryz.prog 91 #[bO p,iV a] w (Ret w h (fun v _=>v=.bool false))
  | 0,_,_,_,_,_,_,x,_,_,_=>x.elim
  | d+1,p,t,a,w,h,g,x,wf,hm,hm2=>by
    obtain ⟨op,n,q,s,A,c,ps,ks,rfl,rfl,u,j,b⟩:=x.open;obtain ⟨e,f,z,y,i,l⟩:=wf;have o:ks.length<=3:=e;exact Bg sm d (fun p t a w h=>uk sm d p t a w h) op n q s A c ps ks u (by have:=b.len;omega) e f z y i l a hm hm2 w h g j b
theorem BZ  (isb:ByteArray->Bool)(sm:ByteArray->Prop)(nx:∀ s,sm s->∀ (w:World) (h:Hp),G w h->Calls Tryz.prog 52 #[.string s] w (Ret w h (fun v _=>∃ b,v=.bool b/\b=isb s)))(d:Nat)(ih:∀ (p:PTm) (t:Tm) (w:World) (h:Hp),G w h->TmH d h p t->nW sm d t ->  Calls Tryz.prog 92 #[bO p] w (Ret w h (fun v _=>∃ U,v=.bool U/\(U=true↔WfT (fun s=>isb s=true) d t))))(op n:Int)(q:Rat)(s:ByteArray)(A:Z9)(c:Nat)(ps:List PTm)(ks:List Tm)(hc:ps.length<=c)(hlp:ps.length<=3)(hk3:ks.length<=3)(hop : -1000<=op/\op<=1000)(hn : -1000<=n/\n<=1000)(hq:LQ 3000 q)(hsm:sm s)(hW:∀ i,i<ks.length->nW sm d (ks.getD i cY))(w:World)(h:Hp)(g:G w h)(hK:SlO 9 da cJ h A ps)(hKs:Tms d h ps ks):CR 92 #[bO ⟨op,n,q,s,A,ps.length,c⟩] w h (fun v _=>∃ U,v=.bool U/\(U=true↔WfT (fun s=>isb s=true) (d+1) (.mk op n q s ks))):=by
 have a:=(((sS g).aS hK).add (K:=fun e=>Tms d e ps ks) hKs);have hln:=(a.f.1).len;have hsg:q.num.sign=0↔q.num=0:=NR;refine go Tryz.func92 [(0,bO ⟨op,n,q,s,A,ps.length,c⟩)] rfl (ax (lA 1 50 (da ⟨op,n,q,s,A,ps.length,c⟩) a (fun l w2 h3 a=>lL a ac (ag (cQ (cR 7 [] mixed a ao ?_))))));refine eV 0 5 (pB l) (eO 1 6 [(0,0,1)] (iV op) a (eV 3 8 (qP l 8) (eO 4 9 [(0,8,1)] (qS A ps.length c) a (eV 5 10 (nV ps.length) (au 2 7 a (fun _ _ a=>Ev op _ _ a.g) (fun w4 h5 a=>?_))))));cases x:((fu op:Int) != (ps.length:Int))
 .
  have H:=aJ x;refine eB 6 11 x (bU a (fun w7 h8 a=>?_));refine tN (dD (cK (cQ (CG.join (fun Γ B=>∃ (O:Bool)(e:Hp),Γ=[(1,pB l),(2,qF),(20,.bool O)]/\SS w h B e [⟨l,50,da ⟨op,n,q,s,A,ps.length,c⟩⟩] [] [fun e=>Tms d e ps ks,fun e=>SlO 9 da cJ e A ps]/\(O=true->¬(op=1\/q.num=0))/\(O=false->(op=1\/q.num=0))) ?_ ?_))))
  .
   refine kQ (lL a [.v (pB l),.o (iV op) 0 0 1] ?_);cases y:((op:Int) != (1:Int))
   .
    have M:=aJ y;refine lB 14 y (lL a ac (lG 16 ?_));refine lG 17 (lG 18 (lG 19 (lL a [.v qF] (lD ?_))));intro u j;exact ⟨_,⟨false,h8,rfl,a.to _ _,(fun e=>absurd e kD),(fun _=>by omega)⟩,j.to _ kR⟩
   have M:=aI y;refine lB 14 y (lL a [.c,.v (qP l 2),.o (qv q) 0 2 5] (aq 18 a (jl q (hq.mono oM) _ _ a.g) (fun _ zD a=>?_)));cases za:((q.num.sign:Int) != (0:Int))
   .
    have zs:=aJ za;refine lB 19 za (lL a [.v qF] (lD ?_));intro u j;exact ⟨_,⟨false,zD,rfl,a.to _ _,(fun e=>absurd e kD),(fun _=>by omega)⟩,j.to _ kR⟩
   have zs:=aI za;refine lB 19 za (lL a [.v qT] (lD ?_));intro u j;exact ⟨_,⟨true,zD,rfl,a.to _ _,(fun _=>by omega),(fun e=>absurd e kD)⟩,j.to _ kR⟩
  rintro _ _ ⟨O,zE,rfl,a,zH,J⟩;cases zb:(O)
  .
   try rw[zb] at a
   try rw[zb]
   refine dD (cK (cQ (CG.join (fun Γ B=>∃ (C:Bool)(e:Hp),Γ=[(1,pB l),(2,qF),(39,.bool C)]/\SS w h B e [⟨l,50,da ⟨op,n,q,s,A,ps.length,c⟩⟩] [] [fun e=>Tms d e ps ks,fun e=>SlO 9 da cJ e A ps]/\(C=true->¬((op=2->isb s=true)/\(op≠2->s=⟨#[]⟩)))/\(C=false->((op=2->isb s=true)/\(op≠2->s=⟨#[]⟩)))) ?_ ?_)))
   .
    refine kQ (lL a [.v (pB l),.o (iV op) 0 0 1] ?_);cases zc:((op:Int) == (2:Int))
    .
     have zt:=aj zc;refine lB 23 zc (lL a ac (lG 25 ?_));refine lG 26 (lG 27 (lG 28 (lL a [.v qF,.c,.v (pB l),.o (iV op) 0 0 1] ?_)));have zq:((op:Int) != (2:Int))=true:=BA oM;have bd:=aI zq;refine lB 33 zq (lL a [.c,.v (qP l 7),.o (.string s) 0 7 1] ?_);cases X:(lU s (⟨#[]⟩))
     .
      have zu:=o6 X;refine lB 37 X (lL a [.v qF,.v qF] (lD ?_));intro u j;exact ⟨_,⟨false,zE,rfl,a.to _ _,(fun e=>absurd e kD),(fun _=>⟨fun e=>by first|exact z.symm.trans aM|exact absurd e oM,fun e=>by first|assumption|exact absurd e oM⟩)⟩,j.to _ kR⟩
     have zu:=pj X;refine lB 37 X (lL a [.v qT,.v qT] (lD ?_));intro u j;exact ⟨_,⟨true,zE,rfl,a.to _ _,(fun _ e=>by first|exact NS ((e.1 oM).symm.trans (z.symm.trans aM))|exact absurd (e.2 oM) aM),(fun e=>absurd e kD)⟩,j.to _ kR⟩
    have zt:=eq_of_beq zc;refine lB 23 zc (lL a [.c,.v (qP l 7),.o (.string s) 0 7 1] (lC 27 a (nx s hsm _ _ a.g) ?_));rintro _ _ zG a ⟨bi,rfl,z⟩;cases bn:(bi)
    .
     refine lL a [.v qT,.v qT,.c] (lG 31 ?_);refine lG 32 (lG 33 (lG 34 (lG 35 (lG 36 (lG 37 (lG 38 (lL a [.v qT] (lD ?_))))))));intro u j;exact ⟨_,⟨true,zG,rfl,a.to _ _,(fun _ e=>by first|exact NS ((e.1 oM).symm.trans (z.symm.trans aM))|exact absurd (e.2 oM) aM),(fun e=>absurd e kD)⟩,j.to _ kR⟩
    refine lL a [.v qF,.v qF,.c,.v (pB l),.o (iV op) 0 0 1] ?_;have zr:((op:Int) != (2:Int))=false:=Eo oM;have bl:=aJ zr;refine lB 33 zr (lL a ac (lG 35 ?_));refine lG 36 (lG 37 (lL a [.v qF,.v qF] (lD ?_)));intro u j;exact ⟨_,⟨false,zG,rfl,a.to _ _,(fun e=>absurd e kD),(fun _=>⟨fun e=>by first|exact z.symm.trans aM|exact absurd e oM,fun e=>by first|assumption|exact absurd e oM⟩)⟩,j.to _ kR⟩
   rintro _ _ ⟨C,I,rfl,a,zI,Q⟩;cases ze:(C)
   .
    try rw[ze] at a
    try rw[ze]
    refine dD (cK (cQ (CG.join (fun Γ B=>∃ (L:Bool)(e:Hp),Γ=[(1,pB l),(2,qF),(57,.bool L)]/\SS w h B e [⟨l,50,da ⟨op,n,q,s,A,ps.length,c⟩⟩] [] [fun e=>Tms d e ps ks,fun e=>SlO 9 da cJ e A ps]/\(L=true->¬((op=8\/n=0) /\ -12<=n/\n<=12))/\(L=false->((op=8\/n=0) /\ -12<=n/\n<=12))) ?_ ?_)))
    .
     refine kQ (lL a [.v (pB l),.o (iV op) 0 0 1] ?_);cases zf:((op:Int) != (8:Int))
     .
      have zv:=aJ zf;refine lB 42 zf (lL a ac (lG 44 ?_));refine lG 45 (lG 46 (lL a [.v qF,.c,.v (qP l 1),.o (iV n) 0 1 1] ?_));cases Y:(decide ((n:Int)<(-12:Int)))
      .
       have zw:=oF Y;refine lB 51 Y (lL a [.v qF,.c,.v (qP l 1),.o (iV n) 0 1 1] ?_);cases V:(decide ((12:Int)<(n:Int)))
       .
        have zx:=oF V;refine lB 56 V (lL a [.v qF] (lD ?_));intro u j;exact ⟨_,⟨false,I,rfl,a.to _ _,(fun e=>absurd e kD),(fun _=>by omega)⟩,j.to _ kR⟩
       have zx:=oT V;refine lB 56 V (lL a [.v qT] (lD ?_));intro u j;exact ⟨_,⟨true,I,rfl,a.to _ _,(fun _=>by omega),(fun e=>absurd e kD)⟩,j.to _ kR⟩
      have zw:=oT Y;refine lB 51 Y (lL a [.v qT,.c] (lG 54 ?_));refine lG 55 (lG 56 (lL a [.v qT] (lD ?_)));intro u j;exact ⟨_,⟨true,I,rfl,a.to _ _,(fun _=>by omega),(fun e=>absurd e kD)⟩,j.to _ kR⟩
     have zv:=aI zf;refine lB 42 zf (lL a [.c,.v (qP l 1),.o (iV n) 0 1 1] ?_);cases zj:((n:Int) != (0:Int))
     .
      have zA:=aJ zj;refine lB 46 zj (lL a [.v qF,.c,.v (qP l 1),.o (iV n) 0 1 1] ?_);have ⟨zJ,bm⟩:=dF (p:=(n:Int)<(-12:Int)) oM;refine lB 51 zJ (lL a [.v qF,.c,.v (qP l 1),.o (iV n) 0 1 1] ?_);have ⟨zK,bf⟩:=dF (p:=(12:Int)<(n:Int)) oM;refine lB 56 zK (lL a [.v qF] (lD ?_));intro u j;exact ⟨_,⟨false,I,rfl,a.to _ _,(fun e=>absurd e kD),(fun _=>by omega)⟩,j.to _ kR⟩
     have zA:=aI zj;refine lB 46 zj (lL a [.v qT,.c] (lG 49 ?_));refine lG 50 (lG 51 (lL a [.v qT,.c] (lG 54 ?_)));refine lG 55 (lG 56 (lL a [.v qT] (lD ?_)));intro u j;exact ⟨_,⟨true,I,rfl,a.to _ _,(fun _=>by omega),(fun e=>absurd e kD)⟩,j.to _ kR⟩
    rintro _ _ ⟨L,zM,rfl,a,zL,D⟩;cases W:(L)
    .
     try rw[W] at a
     try rw[W]
     refine dD (cK (cQ (aa a [.v (qP l 8),.o (qS A ps.length c) 0 8 1,.v (nV ps.length),.c] (aZ ?_))));refine bH _ (CG.loop (fun μ_ Γ B=>∃ (k:Nat)(e:Hp),μ_=ps.length-k/\Γ=[(59,qS A ps.length c),(60,nV ps.length),(61,nV k)]/\SS w h B e [⟨l,50,da ⟨op,n,q,s,A,ps.length,c⟩⟩] [] [fun e=>Tms d e ps ks,fun e=>SlO 9 da cJ e A ps]/\k<=ps.length/\(∀ i,i<k->WfT (fun s=>isb s=true) d (ks.getD i cY))) _ ⟨0,zM,rfl,rfl,a.to _ _,My _,(fun i hi=>absurd hi (NN i))⟩ ?_);rintro _ _ _ ⟨k,_,bq,rfl,a,hk,S⟩;refine ax ?_;cases Z:(decide ((k:Int)<(ps.length:Int)))
     .
      have zB:=oF Z;refine lB 62 Z (ag (dD (CG.exit ?_)))
      show CG _ _ _ _ _ _ _ _
      exact aa a ac (ae a [] qT (EP ⟨by omega,J aM,Q aM,D aM⟩ hq (fun i hi=>S i oM)))
     have zB:=oT Z;refine lB 62 Z (ag (ct (cK (cQ (kZ (ax (lX 63 A ps.length c 9 (k:Nat) k ((a.f.2.1).ok oM) ?_)))))));refine lH 64 (bO (ps.getD k cJ)) a ((a.f.2.1).el k oM) (lA 4 50 a7 a (fun b63 _ _ a=>lP 0 0 (da (ps.getD k cJ)) a (fun _ a=>aG (lL a [.o (bO (ps.getD k cJ)) 0 0 9] (lC 66 a (ih (ps.getD k cJ) (ks.getD k cY) _ _ a.g ((a.f.1).at_ k oM) (hW k oM)) ?_)))));rintro _ _ zN a ⟨bk,rfl,F⟩;cases br:(bk)
     .
      exact lL a [.v qT] (am (aa a ac (ae a [] qF (E9 (k:=k) oM aM F))))
     refine lL a [.v qF] (ah (cK (kQ (bp 68 ((k:Nat)+1) (k+1) ?_))));refine lL a ac (lD ?_);intro u j;replace a:=a.drop 1 0;refine ⟨_,_,?_,⟨k+1,zN,rfl,rfl,a.to _ _,oM,(fun i hi=>by rcases NT.1 hi with e|rfl;exact S i e;exact F.1 aM)⟩,j.to _ kR⟩
     omega
    try rw[W] at a
    try rw[W]
    exact ct (aa a ac (ae a [] qF (qn (fun e=>zL aM e.2.2.2))))
   try rw[ze] at a
   try rw[ze]
   exact ct (aa a ac (ae a [] qF (qn (fun e=>zI aM e.2.2.1))))
  try rw[zb] at a
  try rw[zb]
  exact ct (aa a ac (ae a [] qF (qn (fun e=>zH aM e.2.1))))
 have H:=aI x;exact eB 6 11 x (bU a (fun _ _ a=>tN (ct (aa a ac (ae a [] qF (qn (fun e=>absurd e.1 oM)))))))
theorem qV (isb:ByteArray->Bool)(sm:ByteArray->Prop)(nx:∀ s,sm s->∀ (w:World) (h:Hp),G w h->Calls Tryz.prog 52 #[.string s] w (Ret w h (fun v _=>∃ b,v=.bool b/\b=isb s))):∀ (d:Nat) (p:PTm) (t:Tm) (w:World) (h:Hp),G w h->TmH d h p t->nW sm d t ->  Calls Tryz.prog 92 #[bO p] w (Ret w h (fun v _=>∃ f,v=.bool f/\(f=true↔WfT (fun s=>isb s=true) d t)))
  | 0,_,_,_,_,_,x,_=>x.elim
  | d+1,p,t,w,h,g,x,wf=>by
    obtain ⟨op,n,q,s,A,c,ps,ks,rfl,rfl,y,l,a⟩:=x.open;obtain ⟨e,i,B,z,j,o⟩:=wf;have u:ks.length<=3:=e;exact BZ isb sm nx d (fun p t w h=>qV isb sm nx d p t w h) op n q s A c ps ks y (by have:=a.len;omega) e i B z j o w h g l a
theorem xL  (ok:ByteArray->Prop)(d:Nat)(ih:∀ (p:PTm) (t:Tm) (w:World) (h:Hp),G w h->TmH d h p t->WfT ok d t ->  Calls Tryz.prog 93 #[bO p,iV 1001] w (Ret w h (fun v _=>v=iV ((min (ce d t) 1001:Nat):Int))))(op n:Int)(q:Rat)(s:ByteArray)(A:Z9)(c:Nat)(ps:List PTm)(ks:List Tm)(hc:ps.length<=c)(hlp:ps.length<=2)(M:fu op=(ks.length:Nat))(V:op≠1->q=0)(hq:LQ 3000 q)(X:op=2->ok s)(hs0:op≠2->s=⟨#[]⟩)(S:op≠8->n=0)(hn1 : -12<=n)(hn2:n<=12)(W:∀ i,i<ks.length->WfT ok d (ks.getD i cY))(w:World)(h:Hp)(g:G w h)(hK:SlO 9 da cJ h A ps)(J:Tms d h ps ks):CV 93 #[bO ⟨op,n,q,s,A,ps.length,c⟩,iV 1001] w h (iV ((min (ce (d+1) (.mk op n q s ks)) 1001:Nat):Int)):=by
 have a:=(((sS g).aS hK).add (K:=fun y=>Tms d y ps ks) J);have hln:=(a.f.1).len;refine go Tryz.func93 [(0,bO ⟨op,n,q,s,A,ps.length,c⟩),(1,iV 1001)] rfl (ax (lA 2 50 (da ⟨op,n,q,s,A,ps.length,c⟩) a (fun B w2 Z a=>lL a ac (ag (aa a [.v (qP B 8),.o (qS A ps.length c) 0 8 1,.v (nV ps.length)] ?_)))));cases l:((ps.length:Int) == (0:Int))
 .
  have C:=aj l;refine lB 11 l (ah (cK (aa a ac (ag (aa a [.v (qP B 8),.o (qS A ps.length c) 0 8 1,.v (nV ps.length),.c] (aZ ?_))))));refine bH _ (CG.loop (fun L Γ Q=>∃ (k:Nat)(sm:Nat)(y:Hp),L=ps.length-k/\Γ=[(1,iV 1001),(2,pB B),(15,qS A ps.length c),(16,nV ps.length),(17,nV k),(5,nV sm)]/\SS w h Q y [⟨B,50,da ⟨op,n,q,s,A,ps.length,c⟩⟩] [] [fun y=>Tms d y ps ks,fun y=>SlO 9 da cJ y A ps]/\k<=ps.length/\sm=min (dU (fun i=>ce d (ks.getD i cY)) k) 1001) _ ⟨0,0,Z,rfl,rfl,a.to _ _,My _,rfl⟩ ?_);rintro _ _ w5 ⟨k,sm,h6,hm7,rfl,a,hk,z⟩;have O:(dU (fun i=>ce d (ks.getD i cY)) (k+1))=(dU (fun i=>ce d (ks.getD i cY)) k)+ce d (ks.getD k cY):=rfl;refine ax ?_;cases u:(decide ((k:Int)<(ps.length:Int)))
  .
   have F:=oF u;refine lB 18 u (ag (dD (CG.exit ?_)))
   show CG _ _ _ _ _ _ _ _
   refine cQ (aa a [.v (pB B),.o (iV op) 0 0 1] (aZ (ax ?_)));cases x:((op:Int) == (11:Int))
   .
    have D:=aj x;refine lB 36 x (lL a ac (ah (ax ?_)));cases H:((op:Int) == (8:Int))
    .
     have zc:=aj H;refine lB 40 H (lL a ac (ah (cK (aa a aD (lV 48 (iV (min (sm:Int) (1001:Int))) ?_ (hr:=aK (n:=(if (1001:Int)<(sm:Int) then (1001:Int) else (sm:Int))) kR (by simp only[fC])))))));refine lL a ac (lN (kX ?_));have j:k=ks.length:=by omega
     have e:=j4 (d:=d) (op:=op) (n:=n) (q:=q) (s:=s) (ks:=ks) oM;have b:=l5 (s:=(dU (fun i=>ce d (ks.getD i cY)) k)) (dt op n);rw[<-j] at e
     rw[<-e,<-z] at b
     exact a.ret [] (iV (min (sm:Int) (1001:Int))) (congrArg (Value.int .i64) (by rw[<-b];unfold dL;first|(rw[if_pos oM];(repeat' split)<;>omega)|(rw[if_neg oM,if_pos oM,HA];(repeat' split)<;>omega)|(rw[if_neg oM,if_neg oM];(repeat' split)<;>omega)))
    have zc:=eq_of_beq H;refine lB 40 H (lL a ac (am (kQ (lL a [.c,.v (qP B 1),.o (iV n) 0 1 1] (aq 44 a (Fx n oM oM _ _ a.g) (fun _ _ a=>?_))))));have Y:bG n<=12/\1<=bG n:=by unfold bG;split<;>omega
    have hmb:sm*bG n<=1001*12:=Md oM oM;refine lI 45 ((sm:Nat)*(bG n:Nat)) (lL a ac (aG (lL a aD (lV 48 (iV (min ((sm:Nat)*(bG n:Nat):Int) (1001:Int))) ?_ (hr:=aK (n:=(if (1001:Int)<((sm:Nat)*(bG n:Nat):Int) then (1001:Int) else ((sm:Nat)*(bG n:Nat):Int))) kR (by simp only[fC]))))));refine lL a ac (lN (kX ?_));have j:k=ks.length:=by omega
    have e:=j4 (d:=d) (op:=op) (n:=n) (q:=q) (s:=s) (ks:=ks) oM;have b:=l5 (s:=(dU (fun i=>ce d (ks.getD i cY)) k)) (dt op n);rw[<-j] at e
    rw[<-e,<-z] at b
    exact a.ret [] (iV (min ((sm:Nat)*(bG n:Nat):Int) (1001:Int))) (congrArg (Value.int .i64) (by rw[<-b];unfold dL;first|(rw[if_pos oM];(repeat' split)<;>omega)|(rw[if_neg oM,if_pos oM,HA];(repeat' split)<;>omega)|(rw[if_neg oM,if_neg oM];(repeat' split)<;>omega)))
   have D:=eq_of_beq x;refine lB 36 x (lL a ac (am (kQ (lL a ac (lI 38 ((sm:Nat)*2) ?_)))));refine lL a ac (aG (lL a aD (lV 48 (iV (min ((sm:Nat)*2:Int) (1001:Int))) ?_ (hr:=aK (n:=(if (1001:Int)<((sm:Nat)*2:Int) then (1001:Int) else ((sm:Nat)*2:Int))) kR (by simp only[fC])))));refine lL a ac (lN (kX ?_));have j:k=ks.length:=by omega
   have e:=j4 (d:=d) (op:=op) (n:=n) (q:=q) (s:=s) (ks:=ks) oM;have b:=l5 (s:=(dU (fun i=>ce d (ks.getD i cY)) k)) (dt op n);rw[<-j] at e
   rw[<-e,<-z] at b
   exact a.ret [] (iV (min ((sm:Nat)*2:Int) (1001:Int))) (congrArg (Value.int .i64) (by rw[<-b];unfold dL;first|(rw[if_pos oM];(repeat' split)<;>omega)|(rw[if_neg oM,if_pos oM,HA];(repeat' split)<;>omega)|(rw[if_neg oM,if_neg oM];(repeat' split)<;>omega)))
  have F:=oT u;refine lB 18 u (ag (ct (cK (cQ (kZ (ax (lX 19 A ps.length c 9 (k:Nat) k ((a.f.2.1).ok oM) ?_)))))));refine lH 20 (bO (ps.getD k cJ)) a ((a.f.2.1).el k oM) (lA 7 50 a7 a (fun b13 _ _ a=>lP 0 0 (da (ps.getD k cJ)) a (fun _ a=>aG (lL a [.c,.o (bO (ps.getD k cJ)) 0 0 9,.c] (aq 24 a (ih (ps.getD k cJ) (ks.getD k cY) _ _ a.g ((a.f.1).at_ k oM) (W k oM)) (fun _ U a=>lI 25 ((sm:Nat)+((min (ce d (ks.getD k cY)) 1001:Nat):Int)) (lL a ac (lV 27 (iV ((min (dU (fun i=>ce d (ks.getD i cY)) (k+1)) 1001:Nat):Int)) ?_ (hr:=aK (n:=if (1001:Int)<((sm:Nat)+((min (ce d (ks.getD k cY)) 1001:Nat):Int)) then (1001:Int) else ((sm:Nat)+((min (ce d (ks.getD k cY)) 1001:Nat):Int))) kR (by split<;>omega))))))))));refine lL a ac (aG (lL a aD ?_));cases I:((((min (dU (fun i=>ce d (ks.getD i cY)) (k+1)) 1001:Nat):Int):Int) == (1001:Int))
  .
   have zd:=aj I;refine lB 30 I (ah (cK (kQ (bp 32 ((k:Nat)+1) (k+1) ?_))));refine lL a ac (lD ?_);intro a_ ka;replace a:=a.drop 1 0;refine ⟨_,_,?_,⟨k+1,(min (dU (fun i=>ce d (ks.getD i cY)) (k+1)) 1001),U,rfl,rfl,a.to _ _,oM,rfl⟩,ka.to _ kR⟩
   omega
  have zd:=eq_of_beq I;exact lB 30 I (am (aa a aD (ae a [] (iV 1001) (congrArg (Value.int .i64) (by have h1_:=n8 (fun i=>ce d (ks.getD i cY)) (show k+1<=ks.length by omega);have h2_:=sh (d:=d) (op:=op) (n:=n) (q:=q) (s:=s) (ks:=ks) oM;omega)))))
 have C:=eq_of_beq l;exact lB 11 l (am (aa a [.c,.v (iV 1),.c] (ae a [] (iV 1) (congrArg (Value.int .i64) (by rw[uK oM];first|rfl|omega)))))
theorem rm (ok:ByteArray->Prop):∀ (d:Nat) (p:PTm) (t:Tm) (w:World) (h:Hp),G w h->TmH d h p t->WfT ok d t ->  Calls Tryz.prog 93 #[bO p,iV 1001] w (Ret w h (fun v _=>v=iV ((min (ce d t) 1001:Nat):Int)))
  | 0,_,_,_,_,_,x,_=>x.elim
  | d + 1,p,t,w,h,g,x,wf=>by
    obtain ⟨op,n,q,s,A,c,ps,ks,rfl,rfl,u,l,a⟩:=x.open;obtain ⟨w1,w2,w3,f,j,i,e,y,o⟩:=wf
    have b:ps.length<=2:=by
      have e1:fu op=ks.length:=w1;have:=aE op;have:=a.len
      omega
    exact xL ok d (fun p t w h=>rm ok d p t w h) op n q s A c ps ks u b w1 w2 w3 f j i e y o w h g l a
structure PLt where
  s:ByteArray
  q:Rat
def Ip:PLt:=⟨⟨#[]⟩,0⟩
structure RLt where
  s:ByteArray
  neg:Bool
  zA:Z9
  zn:Nat
  zc:Nat
  dA:Z9
  dn:Nat
  dc:Nat
def RLt.t (r:RLt):RT:=(r.neg,.slice r.zA r.zn r.zc,.slice r.dA r.dn r.dc)
def I9:RLt:=⟨⟨#[]⟩,false,none,0,0,none,0,0⟩
structure RLs (h:Hp) (rs:List RLt) (ps:List PLt):Prop where
  len:rs.length=ps.length
  at_:∀ i,i<ps.length->(rs.getD i I9).s=(ps.getD i Ip).s/\RZ h (rs.getD i I9).t (ps.getD i Ip).q
def JN (op n:Int)(q:Rat)(e1 e2:Int)(a b:Rat):Int × Rat :=
  if e1≠0 then (e1,0) else if e2≠0 then (e2,0) else if rE op n a b then (0,kO op n q a b) else (6,0)
section
variable {op n:Int}{q a b:Rat}{e1 e2:Int}
theorem Fw (h1:e1=0)(c:e2=0)(h:rE op n a b):JN op n q e1 e2 a b=(0,J0 op n q a b):=by unfold JN J0;rw[if_neg oM,if_neg oM,if_pos h,if_pos h]
end
theorem Bf {a:Rat}:fq a 1=a:=by
 have h1:((1:Int):Rat)=1:=rfl
 show ((1:Int):Rat)*a=a
 rw[h1];grind
theorem uD {a:Rat}{K:Nat}{n:Int}(d:1<=K)(h:LQ K a):LQ (bG n*(K+2)-2) (fq a n):=by
  unfold bG
  by_cases h1:n.natAbs<=1
  . rw[if_pos h1]
    have hn:n=0\/n=1\/n = -1:=by omega
    rcases hn with rfl|rfl|rfl
    . exact (LQ.lit (z:=1) kD).mono oM
    . rw[Bf];exact h.mono oM
    . have e:fq a (-1)=a⁻¹:=by
        have h1:((1:Int):Rat)=1:=rfl
        show ((1:Int):Rat)/(((1:Int):Rat)*a)=a⁻¹
        rw[h1];rw[Rat.one_mul,Rat.div_def,Rat.one_mul]
      rw[e];exact h.inv.mono oM
  . rw[if_neg h1]
    have b:=i4 h n.natAbs;have c:n.natAbs*(K+2)=n.natAbs*K+n.natAbs*2:=Nat.mul_add _ _ _
    unfold fq
    split
    . exact b.mono oM
    . exact ((LQ.lit (z:=1) kD).div b).mono oM
theorem Fq {op n:Int}{q a b:Rat}{e1 e2:Int}{wa wb c:Nat}(D:3<=c)(o:1<=wa)(ha:LQ (c*wa-2) a)(f:1<=wb->LQ (c*wb-2) b)(d:fu op=2->1<=wb)(p:LQ 1 q)(x:3<=op/\op<=13) :
    LQ (c*(dL op n*(wa+wb))-2) (JN op n q e1 e2 a b).2:=by
  obtain ⟨M,hM⟩:∃ M,M=dL op n*(wa+wb):=⟨_,rfl⟩;have w1:=dt op n;have l:wa+wb<=dL op n*(wa+wb):=MS _ w1;rw[<-hM] at l ⊢
  have h0:LQ 1 (0:Rat):=LQ.lit (z:=0) kD;have F:=o;have y:c*(wa+wb)<=c*M:=LD _ l;have m2:c*(wa+wb)=c*wa+c*wb:=Nat.mul_add _ _ _;have B:c<=c*wa:=NU _ o;have hz:LQ (c*M-2) (0:Rat):=h0.mono oM
  suffices h:LQ (c*M-2) (kO op n q a b) by
    unfold JN
    split
    . exact hz
    . split
      . exact hz
      . split
        . exact h
        . exact hz
  unfold kO
  split
  . exact p.mono oM
  split
  . rename_i h;have w2:=d (by rw[h];rfl);have i:c<=c*wb:=NU _ w2;exact (ha.add (f w2)).mono oM
  split
  . rename_i h;have w2:=d (by rw[h];rfl);have i:c<=c*wb:=NU _ w2;exact (ha.sub (f w2)).mono oM
  split
  . rename_i h;have w2:=d (by rw[h];rfl);have i:c<=c*wb:=NU _ w2;exact (ha.mul (f w2)).mono oM
  split
  . rename_i h;have w2:=d (by rw[h];rfl);have i:c<=c*wb:=NU _ w2;exact (ha.div (f w2)).mono oM
  split
  . exact ha.neg.mono oM
  split
  . rename_i u
    have e:dL op n=bG n:=by unfold dL;rw[if_neg oM,if_pos u]
    have d:=uD (n:=n) oM ha
    have e2:bG n*(c*wa-2+2)<=c*(bG n*(wa+wb)):=by
      rw[show c*wa-2+2=c*wa by omega,NV];exact LD _ (LD _ (NQ _ _))
    rw[e] at hM
    rw[<-hM] at e2
    exact d.mono (Nat.sub_le_sub_right e2 2)
  split
  . exact ha.abs.mono oM
  split
  . exact (LQ.maxR ha (h0.mono (by omega:1<=c*wa-2))).mono oM
  split
  . rename_i j
    have e:dL op n=2:=by unfold dL;rw[if_pos j]
    rw[e] at hM
    have C:c*M=2*(c*(wa+wb)):=by rw[hM,NV]
    exact (ha.div (ha.abs.add (LQ.lit (z:=1) kD))).mono oM
  split
  . rename_i h;have w2:=d (by rw[h];rfl);have i:c<=c*wb:=NU _ w2
    unfold maxR;split
    . exact (f w2).mono oM
    . exact ha.mono oM
  . have w2 := d (by have:op=13:=by omega
                     rw[this];rfl)
    have i:c<=c*wb:=NU _ w2
    unfold nk;split
    . exact (f w2).mono oM
    . exact ha.mono oM
theorem jH {ks:List Tm}{op:Int}(h:fu op=ks.length):ks=[]\/(∃ t,ks=[t])\/∃ t u,ks=[t,u]:=by
 have:=aE op
 rcases ks with _|⟨t,_|⟨u,_|⟨v,l⟩⟩⟩
 ·exact .inl rfl
 ·exact .inr (.inl ⟨t,rfl⟩)
 ·exact .inr (.inr ⟨t,u,rfl⟩)
 ·simp only[tq] at h;omega
theorem pA {d m:Nat}{op n:Int}{q:Rat}{s:ByteArray}{a:Tm}(h:ce (d+1) (.mk op n q s [a])<=m):ce d a<=m:=by
 have b:=sh (d:=d) (op:=op) (n:=n) (q:=q) (s:=s) (ks:=[a]) (NW _);have e:dU (fun i=>ce d (([a]:List Tm).getD i cY)) ([a]:List Tm).length=0+ce d a:=rfl
 omega
theorem qm {d m:Nat}{op n:Int}{q:Rat}{s:ByteArray}{b a:Tm}(h:ce (d+1) (.mk op n q s [b,a])<=m):ce d b<=m/\ce d a<=m:=by
 have c:=sh (d:=d) (op:=op) (n:=n) (q:=q) (s:=s) (ks:=[b,a]) (NW _);have e:dU (fun i=>ce d (([b,a]:List Tm).getD i cY)) ([b,a]:List Tm).length=0+ce d b+ce d a:=rfl
 omega
theorem oX {α:Type}:∀ {l:List α},l.length=2->∃ a b,l=[a,b]
 | [a,b],_=>⟨a,b,rfl⟩
 | [],h=>by simp only[NX] at h;omega
 | [_],h=>by simp only[tq,NX] at h;omega
 | _::_::_::_,h=>by simp only[tq] at h;omega
def qW (m:Nat)(op n:Int)(x y:Int × Rat × List Rat):Int × Rat × List Rat :=
  if x.1≠0 then (x.1,0,[]) else if y.1≠0 then (y.1,0,[]) else if bJ op n x.2.1 y.2.1≠0 then (bJ op n x.2.1 y.2.1,0,[])
  else (0,kO op n 0 x.2.1 y.2.1,(ov m).map fun i=>Aa op n x.2.1 y.2.1*x.2.2.getD i 0+AP op x.2.1 y.2.1*y.2.2.getD i 0)
def bA (ix:ByteArray->Nat)(at_:List Rat):Nat->Tm->Int × Rat × List Rat
  | 0,_=>(0,0,[])
  | d+1,t =>
    if t.op=1 then (0,t.q,zY at_.length 0)
    else if t.op=2 then (0,at_.getD (ix t.s) 0,fD at_.length (ix t.s))
    else qW at_.length t.op t.n (if 0<t.ks.length then bA ix at_ d (t.ks.getD 0 cY) else (0,0,[])) (if 1<t.ks.length then bA ix at_ d (t.ks.getD 1 cY) else (0,0,[]))
def p9 (op n:Int)(x y:Int × List Rat):Int × List Rat :=
  if x.1≠0 then (x.1,[]) else if y.1≠0 then (y.1,[]) else (bJ op n (x.2.getD 0 0) (y.2.getD 0 0),iC op n x.2 y.2)
def cM (ix:ByteArray->Nat)(at_ way:List Rat):Nat->Tm->Int × List Rat
  | 0,_=>(0,[])
  | d+1,t =>
    if t.op=1 then (0,[t.q,((0:Int):Rat)])
    else if t.op=2 then (0,[at_.getD (ix t.s) 0,way.getD (ix t.s) 0])
    else p9 t.op t.n (if 0<t.ks.length then cM ix at_ way d (t.ks.getD 0 cY) else (0,[])) (if 1<t.ks.length then cM ix at_ way d (t.ks.getD 1 cY) else (0,[]))
theorem pD (a b:Rat)(g h w:List Rat):∀ n m,n<=m->bW ((ov m).map fun i=>a*g.getD i 0+b*h.getD i 0) w n=a*bW g w n+b*bW h w n
  | 0,_,_=>by show (0:Rat)=a*0+b*0;grind
  | n+1,m,hm=>by
    show bW _ w n+((ov m).map fun i=>a*g.getD i 0+b*h.getD i 0).getD n 0*w.getD n 0=a*(bW g w n+g.getD n 0*w.getD n 0)+b*(bW h w n+h.getD n 0*w.getD n 0)
    rw[pD a b g h w n m oM];have e:((ov m).map fun i=>a*g.getD i 0+b*h.getD i 0).getD n 0=a*g.getD n 0+b*h.getD n 0:=by simp[show n<m by omega]
    rw[e];grind
theorem qD (w:List Rat):∀ n,bW [] w n=0
 | 0=>rfl
 | n+1=>by show bW [] w n+([]:List Rat).getD n 0*w.getD n 0=0;rw[qD w n];simp;grind
section
variable {ix:ByteArray->Nat}{at_ way:List Rat}
def Is (way:List Rat)(m:Nat)(x:Int × Rat × List Rat)(s:Int × List Rat):Prop:=s.1=x.1/\(x.1=0->s.2.getD 0 0=x.2.1/\s.2.getD 1 0=bW x.2.2 way m)
theorem nE {m:Nat}{op n:Int}{x y:Int × Rat × List Rat}(h:x.1≠0):qW m op n x y=(x.1,0,[]):=if_pos h
theorem py {m:Nat}{op n:Int}{x y:Int × Rat × List Rat}(h:x.1=0)(a:y.1≠0):qW m op n x y=(y.1,0,[]):=by unfold qW;rw[if_neg (fun k=>k h),if_pos a]
theorem nG {m:Nat}{op n:Int}{x y:Int × Rat × List Rat}(h:x.1=0)(a:y.1=0)(b:bJ op n x.2.1 y.2.1≠0):qW m op n x y=(bJ op n x.2.1 y.2.1,0,[]):=by unfold qW;rw[if_neg (fun k=>k h),if_neg (fun k=>k a),if_pos b]
def kG (m:Nat)(op n:Int)(a b:Rat)(ga gb:List Rat):List Rat:=(ov m).map fun i=>Aa op n a b*ga.getD i 0+AP op a b*gb.getD i 0
theorem duG_len {m:Nat}{op n:Int}{a b:Rat}{ga gb:List Rat}:(kG m op n a b ga gb).length=m:=by unfold kG;simp
theorem kJ {m:Nat}{op n:Int}{x y:Int × Rat × List Rat}(h:x.1=0)(a:y.1=0)(b:bJ op n x.2.1 y.2.1=0):qW m op n x y=(0,kO op n 0 x.2.1 y.2.1,kG m op n x.2.1 y.2.1 x.2.2 y.2.2):=by unfold qW;rw[if_neg (fun k=>k h),if_neg (fun k=>k a),if_neg (fun k=>k b)];rfl
theorem GT {m:Nat}{op n:Int}{x y:Int × Rat × List Rat}{s t:Int × List Rat}(f:Is way m x s)(d:Is way m y t):Is way m (qW m op n x y) (p9 op n s t):=by
  obtain ⟨e1,h1⟩:=f;obtain ⟨e2,i⟩:=d
  by_cases c1:x.1=0
  . obtain ⟨c,l⟩:=h1 c1
    by_cases c2:y.1=0
    . obtain ⟨b,j⟩:=i c2
      have a:p9 op n s t=(bJ op n x.2.1 y.2.1,iC op n s.2 t.2):=by
        unfold p9
        rw[if_neg (fun k=>k (e1.trans c1)),if_neg (fun k=>k (e2.trans c2)),c,b]
      rw[a]
      by_cases c3:bJ op n x.2.1 y.2.1=0
      . rw[kJ c1 c2 c3]
        refine ⟨c3,fun _=>?_⟩;have e:iC op n s.2 t.2=dM op n s.2 t.2:=if_pos (by rw[c,b];exact c3)
        show (iC op n s.2 t.2).getD 0 0=_/\(iC op n s.2 t.2).getD 1 0=_
        rw[e];refine ⟨?_,?_⟩
        . show kO op n 0 (s.2.getD 0 0) (t.2.getD 0 0)=_
          rw[c,b]
        . show Aa op n (s.2.getD 0 0) (t.2.getD 0 0)*s.2.getD 1 0+AP op (s.2.getD 0 0) (t.2.getD 0 0)*t.2.getD 1 0=bW (kG _ _ _ _ _ _ _) way m
          unfold kG
          rw[c,b,l,j,pD _ _ _ _ _ _ _ (eb m)]
      . rw[nG c1 c2 c3];exact ⟨rfl,fun h=>absurd h c3⟩
    . have a:p9 op n s t=(t.1,[]):=by
        unfold p9
        rw[if_neg (fun k=>k (e1.trans c1)),if_pos (fun k=>c2 (e2.symm.trans k))]
      rw[a,py c1 c2];exact ⟨e2,fun h=>absurd h c2⟩
  . have a:p9 op n s t=(s.1,[]):=if_pos (fun k=>c1 (e1.symm.trans k))
    rw[a,nE c1];exact ⟨e1,fun h=>absurd h c1⟩
theorem xi {ok:ByteArray->Prop}(a:∀ s,ok s->ix s<at_.length):∀ {d:Nat} {t:Tm},WfT ok d t->Is way at_.length (bA ix at_ d t) (cM ix at_ way d t)
  | 0,_,h=>h.elim
  | d + 1,t,h=>by
    unfold bA cM
    by_cases c1:t.op=1
    . rw[if_pos c1,if_pos c1]
      refine ⟨rfl,fun _=>⟨rfl,?_⟩⟩;rw[ke];rfl
    . rw[if_neg c1,if_neg c1]
      by_cases c2:t.op=2
      . rw[if_pos c2,if_pos c2]
        refine ⟨rfl,fun _=>⟨rfl,?_⟩⟩
        show way.getD (ix t.s) 0=bW (fD _ _) way _
        rw[kh,vU (a _ (h.2.2.2.1 c2))]
      . rw[if_neg c2,if_neg c2]
        have z:Is way at_.length (0,0,[]) (0,[]):=⟨rfl,fun _=>⟨rfl,by rw[qD];rfl⟩⟩;refine GT ?_ ?_
        . split
          . rename_i hk;exact xi a (h.2.2.2.2.2.2.2.2 0 hk)
          . exact z
        . split
          . rename_i hk;exact xi a (h.2.2.2.2.2.2.2.2 1 hk)
          . exact z
end
theorem jQ {f:Nat->Rat}{m i:Nat}(h:i<m):((ov m).map fun i=>f i).getD i 0=f i:=by simp[h]
theorem G8 {f:Nat->Rat}{m i:Nat}(h:m<=i):((ov m).map fun i=>f i).getD i 0=0:=db (by simp;exact h)
theorem lz {f:Nat->Rat}{m K:Nat}(h:∀ i,LQ K (f i))(a:1<=K)(j:Nat):LQ K (((ov m).map fun i=>f i).getD j 0):=m7 a h j
theorem dK (i:Nat):([]:List Rat).getD i 0=0:=by simp
theorem gZ (m i:Nat):(zY m (0:Rat)).getD i 0=0:=mY i
section
variable {m:Nat}{op n:Int}{a b:Rat}{ga gb:List Rat}{f:Nat->Rat}
theorem jr (h:∀ i,i<m->f i=Aa op n a b*ga.getD i 0+AP op a b*gb.getD i 0):((ov m).map fun i=>f i)=kG m op n a b ga gb:=by
 unfold kG
 exact List.map_congr_left fun i hi=>h i (List.mem_range.1 hi)
theorem ig {G:List Rat}(c:G.length=m)(h:∀ i,i<m->G.getD i 0=Aa op n a b*ga.getD i 0+AP op a b*gb.getD i 0):G=kG m op n a b ga gb:=by
 refine j6 (c.trans duG_len.symm) fun i=>?_
 by_cases hi:i<m
 ·rw[h i hi];unfold kG;rw[jQ hi]
 ·rw[db oM,db (by rw[duG_len];omega)]
theorem eN (h1:op=6->b≠0)(e:op=8->n<0->a≠0)(f:(op=9\/op=10)->a≠0)(h:(op=12\/op=13)->a≠b):bJ op n a b=0:=by
 unfold bJ
 rw[if_pos ⟨h1,e⟩,if_neg];rintro (⟨c,d⟩|⟨c,d⟩)
 ·exact f c d
 ·exact h c d
theorem Fi (h:(op=6/\b=0)\/(op=8/\n<0/\a=0)):bJ op n a b=6:=if_neg (fun k=>by
 rcases h with ⟨h1,h2⟩|⟨h1,h2,h3⟩
 ·exact k.1 h1 h2
 ·exact k.2 h1 h2 h3)
theorem EX (h:(op=9\/op=10)/\a=0\/(op=12\/op=13)/\a=b):bJ op n a b=7:=by
 unfold bJ
 rw[if_pos ⟨fun e=>by omega,fun e=>by omega⟩,if_pos (show x7 op a b from h)]
end
section
variable {m:Nat}{n:Int}{a:Rat}{ga:List Rat}
theorem Le:a*((-1:Int):Rat)=kO 7 n 0 a 0/\((ov m).map fun i=>ga.getD i 0*((-1:Int):Rat))=kG m 7 n a 0 ga []:=by
 refine ⟨?_,jr fun i _=>?_⟩
 ·show a*((-1:Int):Rat) = -a
  rw[vE];grind
 ·rw[dK]
  show ga.getD i 0*((-1:Int):Rat) = -((1:Int):Rat)*ga.getD i 0+0*0
  rw[vE,i1];grind
theorem Jz {a:Rat}(h:0<a.num.sign):0<a:=oK.1 h
theorem Km {a:Rat}(h:a.num.sign<0):a<0:=by
 have:a.num<0:=NY.1 (by have:=NZ a.num;omega);rw[<-Rat.not_le,<-N0];omega
theorem Ce {a:Rat}(h:a.num.sign=0):a=0:=Nz.1 (NR.1 h)
theorem kM {a:Rat}(h:a.num.sign≠0):a≠0:=fun e=>h (by rw[e];rfl)
theorem uJ {a:Rat}(h:a≠0):a.num≠0:=fun e=>h (Nz.1 e)
theorem Ha {a:Rat}(h:0<a.num.sign):a.num.sign=1:=by have:=NZ a.num;omega
theorem re {a:Rat}(h:a.num.sign<0):a.num.sign = -1:=by have:=NZ a.num;omega
theorem Ke {op:Int}(c:op=9\/op=10)(b:ga.length=m)(h:0<a.num.sign):a=kO op n 0 a 0/\ga=kG m op n a 0 ga []:=by
 have p:=Jz h
 rcases c with rfl|rfl
 ·refine ⟨?_,ig b fun i _=>?_⟩
  ·show a=cH a
   unfold cH;rw[if_neg (by have:=Ha h;have:=Int.sign_eq_one_iff_pos.1 this;omega)]
  ·rw[dK]
   show ga.getD i 0=((a.num.sign:Int):Rat)*ga.getD i 0+0*0
   rw[Ha h,i1];grind
 ·refine ⟨?_,ig b fun i _=>?_⟩
  ·show a=maxR a 0
   unfold maxR;split
   ·grind
   ·rfl
  ·rw[dK]
   show ga.getD i 0=((max a.num.sign 0:Int):Rat)*ga.getD i 0+0*0
   rw[Ha h,show max (1:Int) 0=1 from rfl,i1];grind
theorem K2 (h:a.num.sign<0):a*((-1:Int):Rat)=kO 9 n 0 a 0/\((ov m).map fun i=>ga.getD i 0*((-1:Int):Rat))=kG m 9 n a 0 ga []:=by
 refine ⟨?_,jr fun i _=>?_⟩
 ·show _=cH a
  unfold cH;rw[if_pos (by have:=NY.1 (re h);omega),vE];grind
 ·rw[dK]
  show ga.getD i 0*((-1:Int):Rat)=((a.num.sign:Int):Rat)*ga.getD i 0+0*0
  rw[re h,vE];grind
theorem Kw (h:a.num.sign<0):(0:Rat)=kO 10 n 0 a 0/\zY m (0:Rat)=kG m 10 n a 0 ga []:=by
 have p:=Km h;refine ⟨?_,ig NL fun i _=>?_⟩
 ·show (0:Rat)=maxR a 0
  unfold maxR;split
  ·rfl
  ·grind
 ·rw[dK,gZ]
  show (0:Rat)=((max a.num.sign 0:Int):Rat)*ga.getD i 0+0*0
  rw[re h,show max (-1:Int) 0=0 from rfl,i0];grind
theorem DO {x:Rat}{a b:List Rat}{k:Nat}(d:a.length=m)(c:∀ i,b.getD i 0=((k:Int):Rat)*ck x (k-1)*a.getD i 0)(i:Nat) :
  ((ov m).map fun i=>b.getD i 0*x+ck x k*a.getD i 0).getD i 0=(((k+1:Nat):Int):Rat)*ck x (k+1-1)*a.getD i 0:=by
 by_cases hi:i<m
 ·rw[jQ hi,c i]
  have e:(((k+1:Nat):Int):Rat)=((k:Int):Rat)+1:=by push_cast;rfl
  have e2:((k:Int):Rat)*ck x (k-1)*x=((k:Int):Rat)*ck x k:=by
   cases k with
   | zero=>show ((0:Int):Rat)*_*_=((0:Int):Rat)*_;rw[i0];grind
   | succ k=>show _*ck _ k*_=_*(ck _ k*_);grind
  rw[e]
  show _=(((k:Int):Rat)+1)*ck x k*a.getD i 0
  grind
 ·rw[G8 oM,db (show a.length<=i by omega)];grind
theorem Kq (hn:0<=n){b:List Rat}{k:Nat}(hk:k=n.natAbs)(d:b.length=m)(c:∀ i,b.getD i 0=((k:Int):Rat)*ck a (k-1)*ga.getD i 0):ck a k=kO 8 n 0 a 0/\b=kG m 8 n a 0 ga []:=by
 refine ⟨?_,ig d fun i _=>?_⟩
 ·show _=fq a n
  unfold fq;rw[if_pos hn,hk]
 ·rw[dK,c i]
  show _=(if n=0 then (0:Rat) else fq a (n-1)*((n:Int):Rat))*ga.getD i 0+0*0
  by_cases h0:n=0
  ·subst h0;subst hk;rw[if_pos rfl];show ((0:Int):Rat)*_*_=_;rw[i0];grind
  ·rw[if_neg h0]
   have e:fq a (n-1)=ck a (k-1):=by unfold fq;rw[if_pos oM,show (n-1).natAbs=k-1 by omega]
   rw[e,show ((k:Nat):Int)=n by omega];grind
theorem AD {a:Rat}(h:a≠0):∀ k,ck (((1:Int):Rat)/a) k=((1:Int):Rat)/ck a k
  | 0=>by show ((1:Int):Rat)=((1:Int):Rat)/((1:Int):Rat);rw[i1];grind
  | k+1=>by
    show ck (((1:Int):Rat)/a) k*(((1:Int):Rat)/a)=((1:Int):Rat)/(ck a k*a)
    have:=i7 h k;rw[AD h k,i1];grind
theorem JZ (hn:n<0)(ha:a≠0){c b:List Rat}{k:Nat}(hk:k=n.natAbs)(h:b.length=m)(d:c=(ov m).map fun i=>ga.getD i 0*(-((((1:Int):Rat)/a)*(((1:Int):Rat)/a))))(f:∀ i,b.getD i 0=((k:Int):Rat)*ck (((1:Int):Rat)/a) (k-1)*c.getD i 0):ck (((1:Int):Rat)/a) k=kO 8 n 0 a 0/\b=kG m 8 n a 0 ga []:=by
 obtain ⟨j,rfl⟩:∃ j,k=j+1:=⟨k-1,by omega⟩;have l:=i7 ha j;refine ⟨?_,ig h fun i hi=>?_⟩
 ·show _=fq a n
  unfold fq;rw[if_neg oM,AD ha,hk]
 ·rw[dK,f i,d,jQ hi]
  show _=(if n=0 then (0:Rat) else fq a (n-1)*((n:Int):Rat))*ga.getD i 0+0*0
  rw[if_neg oM]
  have e:fq a (n-1)=((1:Int):Rat)/(ck a j*a*a):=by
   unfold fq;rw[if_neg oM,show (n-1).natAbs=j+2 by omega];rfl
  have e2:((n:Int):Rat) = -(((j+1:Nat):Int):Rat):=by rw[show n = -((j+1:Nat):Int) by omega,NM]
  rw[e,e2,show j+1-1=j from rfl,AD ha,i1]
  grind
theorem Kp {s:Rat}{f:List Rat}(l:s=cH a)(j:∀ i,i<m->f.getD i 0=(if a.num.sign<0 then ga.getD i 0*((-1:Int):Rat) else ga.getD i 0)) :
  a*(((1:Int):Rat)/(s+((1:Int):Rat)))=kO 11 n 0 a 0/\((ov m).map fun i=>ga.getD i 0*(((1:Int):Rat)/(s+((1:Int):Rat)))+a*((ov m).map fun i=>((ov m).map fun i=>f.getD i 0+(zY m (0:Rat)).getD i 0).getD i 0*(-((((1:Int):Rat)/(s+((1:Int):Rat)))*(((1:Int):Rat)/(s+((1:Int):Rat)))))).getD i 0)=kG m 11 n a 0 ga []:=by
 have o:0<=cH a:=by
  unfold cH;split
  ·rename_i h
   have:a<0:=by rw[<-Rat.not_le,<-N0];omega
   grind
  ·rename_i h;exact N0.1 oM
 have b:cH a+1≠0:=by grind
 subst l;refine ⟨?_,jr fun i hi=>?_⟩
 ·show _=a/(cH a+((1:Int):Rat))
  rw[i1];grind
 ·rw[dK,jQ hi,jQ hi,gZ,j i hi]
  show _=(((1:Int):Rat)/(((1:Int):Rat)+cH a))*(((1:Int):Rat)/(((1:Int):Rat)+cH a))*ga.getD i 0+0*0
  have e:((1:Int):Rat)+cH a=cH a+((1:Int):Rat):=N1 _ _;rw[e]
  by_cases c:a.num.sign<0
  ·rw[if_pos c]
   have d:cH a = -a:=by unfold cH;rw[if_pos (by have:=NY.1 (re c);omega)]
   rw[d] at b ⊢
   rw[i1,vE];grind
  ·rw[if_neg c]
   have d:cH a=a:=by unfold cH;rw[if_neg (fun h=>c (by have:=NY.2 h;omega))]
   rw[d] at b ⊢
   rw[i1];grind
end
section
variable {m:Nat}{n:Int}{a b:Rat}{ga gb:List Rat}
theorem Ln:((ov m).map fun i=>ga.getD i 0+gb.getD i 0)=kG m 3 n a b ga gb:=jr fun i _=>by
 show _=((1:Int):Rat)*ga.getD i 0+((1:Int):Rat)*gb.getD i 0
 rw[i1];grind
theorem K4:a+b*((-1:Int):Rat)=kO 4 n 0 a b/\((ov m).map fun i=>ga.getD i 0+((ov m).map fun i=>gb.getD i 0*((-1:Int):Rat)).getD i 0)=kG m 4 n a b ga gb:=by
 refine ⟨?_,jr fun i hi=>?_⟩
 ·show _=a-b
  rw[vE];grind
 ·rw[jQ hi]
  show _=((1:Int):Rat)*ga.getD i 0 + -((1:Int):Rat)*gb.getD i 0
  rw[i1,vE];grind
theorem K9:((ov m).map fun i=>ga.getD i 0*b+a*gb.getD i 0)=kG m 5 n a b ga gb:=jr fun i _=>by
 show _=b*ga.getD i 0+a*gb.getD i 0
 grind
theorem Ll (h:b≠0):a*(((1:Int):Rat)/b)=kO 6 n 0 a b/\((ov m).map fun i=>ga.getD i 0*(((1:Int):Rat)/b)+a*((ov m).map fun i=>gb.getD i 0*(-((((1:Int):Rat)/b)*(((1:Int):Rat)/b)))).getD i 0)=kG m 6 n a b ga gb:=by
 refine ⟨?_,jr fun i hi=>?_⟩
 ·show _=a/b
  rw[i1];grind
 ·rw[jQ hi]
  show _=((1:Int):Rat)/b*ga.getD i 0 + -(a*(((1:Int):Rat)/b)*(((1:Int):Rat)/b))*gb.getD i 0
  rw[i1];grind
theorem EM {op:Int}(d:ga.length=m)(h:op=12/\b<a\/op=13/\a<b):a=kO op n 0 a b/\ga=kG m op n a b ga gb:=by
 rcases h with ⟨rfl,h⟩|⟨rfl,h⟩
 ·refine ⟨?_,ig d fun i _=>?_⟩
  ·show a=maxR a b
   unfold maxR;rw[if_neg (by grind)]
  ·show _=(if b<a then ((1:Int):Rat) else 0)*_+(if b<a then (0:Rat) else ((1:Int):Rat))*_
   rw[if_pos h,if_pos h,i1];grind
 ·have c:¬b<a:=by grind
  refine ⟨?_,ig d fun i _=>?_⟩
  ·show a=nk a b
   unfold nk;rw[if_neg c]
  ·show _=(if b<a then (0:Rat) else ((1:Int):Rat))*_+(if b<a then ((1:Int):Rat) else 0)*_
   rw[if_neg c,if_neg c,i1];grind
theorem EU {op:Int}(d:gb.length=m)(h:op=12/\a<b\/op=13/\b<a):b=kO op n 0 a b/\gb=kG m op n a b ga gb:=by
 rcases h with ⟨rfl,h⟩|⟨rfl,h⟩
 ·have c:¬b<a:=by grind
  refine ⟨?_,ig d fun i _=>?_⟩
  ·show b=maxR a b
   unfold maxR;rw[if_pos h]
  ·show _=(if b<a then ((1:Int):Rat) else 0)*_+(if b<a then (0:Rat) else ((1:Int):Rat))*_
   rw[if_neg c,if_neg c,i1];grind
 ·refine ⟨?_,ig d fun i _=>?_⟩
  ·show b=nk a b
   unfold nk;rw[if_pos h]
  ·show _=(if b<a then (0:Rat) else ((1:Int):Rat))*_+(if b<a then ((1:Int):Rat) else 0)*_
   rw[if_pos h,if_pos h,i1];grind
end
theorem xr (n:Int):bG (n-1)<=2*bG n:=by
 unfold bG
 split<;>split<;>omega
theorem GE {a:Rat}{K:Nat}(b:1<=K):LQ K ((a.num.sign:Int):Rat):=by
 have:=ib a.num;exact (LQ.int oM oM).mono b
section
variable {op n:Int}{a b:Rat}{wa wb:Nat}
theorem DV (o:1<=wa)(ha:LQ (3*wa-2) a)(d:LQ (3*wb+1) b)(hn : -12<=n/\n<=12):LQ (12*(dL op n*(wa+wb))) (Aa op n a b):=by
  obtain ⟨M,hM⟩:∃ M,M=dL op n*(wa+wb):=⟨_,rfl⟩;have w1:=dt op n;have i:wa+wb<=dL op n*(wa+wb):=MS _ w1;rw[<-hM] at i ⊢
  have h1:LQ 1 (((1:Int):Rat)):=LQ.lit (z:=1) kD;have h0:LQ (12*M) (0:Rat):=iE oM
  unfold Aa
  split
  . exact h1.mono oM
  split
  . exact h1.mono oM
  split
  . exact d.mono oM
  split
  . exact (h1.div d).mono oM
  split
  . exact h1.neg.mono oM
  split
  . rename_i l
    split
    . exact h0
    . have e:dL op n=bG n:=by unfold dL;rw[if_neg oM,if_pos l]
      have f:=uD (n:=n-1) oM ha;have h:LQ 1 (((n:Int):Rat)):=LQ.int oM oM;have j:=xr n
      have k2:bG (n-1)*(3*wa-2+2)<=6*M:=by
        rw[show 3*wa-2+2=3*wa by omega,hM,e]
        calc bG (n-1)*(3*wa)<=2*bG n*(3*wa):=y9 _ j
          _=6*(bG n*wa):=by rw[Ls,NV (bG n) 3 wa,<-Ls]
          _<=6*(bG n*(wa+wb)):=LD _ (LD _ (NQ _ _))
      exact (f.mul h).mono oM
  split
  . exact GE oM
  split
  . have:=ib a.num
    exact (LQ.int oM oM).mono oM
  split
  . have c:=h1.add ha.abs
    exact ((h1.div c).mul (h1.div c)).mono oM
  split
  . split
    . exact h1.mono oM
    . exact h0
  split
  . split
    . exact h0
    . exact h1.mono oM
  . exact h0
theorem Da (e:1<=wa)(ha:LQ (3*wa-2) a)(c:LQ (3*wb+1) b):LQ (12*(dL op n*(wa+wb))) (AP op a b):=by
 obtain ⟨M,hM⟩:∃ M,M=dL op n*(wa+wb):=⟨_,rfl⟩;have w1:=dt op n;have d:wa+wb<=dL op n*(wa+wb):=MS _ w1;rw[<-hM] at d ⊢
 have h1:LQ 1 (((1:Int):Rat)):=LQ.lit (z:=1) kD;have h0:LQ (12*M) (0:Rat):=iE oM
 unfold AP
 split
 ·exact h1.mono oM
 split
 ·exact h1.neg.mono oM
 split
 ·exact ha.mono oM
 split
 ·exact ((ha.mul (h1.div c)).mul (h1.div c)).neg.mono oM
 split
 ·split
  ·exact h0
  ·exact h1.mono oM
 split
 ·split
  ·exact h1.mono oM
  ·exact h0
 ·exact h0
theorem Ht (e:1<=wa)(ha:LQ (3*wa-2) a)(h:1<=wb->LQ (3*wb-2) b)(d:fu op=2->1<=wb)(f:3<=op/\op<=13)(hk:rE op n a b):LQ (3*(dL op n*(wa+wb))-2) (kO op n 0 a b):=by
 have:=Fq (op:=op) (n:=n) (q:=0) (a:=a) (b:=b) (e1:=0) (e2:=0) (wa:=wa) (wb:=wb) (c:=3) (eb 3) e ha h d (iE kD) f;rw[Fw rfl rfl hk] at this
 unfold J0 at this
 rw[if_pos hk] at this
 exact this
theorem Dn (h:bJ op n a b=0):rE op n a b:=Decidable.byContradiction fun k=>by
 have:bJ op n a b=6:=if_neg k
 omega
end
def B6 (W d:Nat)(x:Int × Rat × List Rat):Prop:=LQ (3*W-2) x.2.1/\∀ i,LQ (40*(W*d)) (x.2.2.getD i 0)
theorem wx {m:Nat}{op n:Int}{wa wb d:Nat}{x y:Int × Rat × List Rat}(f:1<=wa)(b:B6 wa d x)(a:1<=wb->B6 wb d y)(c:fu op=2->1<=wb)(h1:fu op=1->wb=0/\y.2.1=0/\y.2.2=[])(u:3<=op/\op<=13)(hn : -12<=n/\n<=12)(ha:fu op=1\/fu op=2):B6 (dL op n*(wa+wb)) (d+1) (qW m op n x y):=by
  have w1:=dt op n;have z:wa+wb<=dL op n*(wa+wb):=MS _ w1
  have hz:B6 (dL op n*(wa+wb)) (d+1) ((0:Int),(0:Rat),([]:List Rat)):=⟨iE oM,fun i=>by
    rw[dK];exact iE (by have:1<=dL op n*(wa+wb)*(d+1):=Nat.mul_pos oM (MB d);omega)⟩
  by_cases c1:x.1=0
  . by_cases c2:y.1=0
    . by_cases c3:bJ op n x.2.1 y.2.1=0
      . rw[kJ c1 c2 c3]
        have o:LQ (3*wb+1) y.2.1:=by
          rcases ha with h|h
          . obtain ⟨e1,e2,_⟩:=h1 h
            rw[e2];exact iE oM
          . exact (a (c h)).1.mono oM
        refine ⟨Ht f b.1 (fun h=>(a h).1) c u (Dn c3),fun i=>?_⟩;have B:=DV (op:=op) (n:=n) f b.1 o hn;have p:=Da (op:=op) (n:=n) f b.1 o
        generalize hM:dL op n*(wa+wb)=M at *
        have l:LQ (40*(wb*d)+1) (y.2.2.getD i 0):=by
          by_cases h:1<=wb
          . exact ((a h).2 i).mono oM
          . rcases ha with k|k
            . rw[(h1 k).2.2,dK];exact iE oM
            . exact absurd (c k) h
        have D:(wa+wb)*d<=M*d:=y9 _ z;have k2:(wa+wb)*d=wa*d+wb*d:=LS _ _ _;have C:M*(d+1)=M*d+M:=Nat.mul_succ _ _
        show LQ (40*(M*(d+1))) ((kG m op n x.2.1 y.2.1 x.2.2 y.2.2).getD i 0)
        unfold kG
        exact lz (K:=40*(M*(d+1))) (fun j=>by
          have e:=b.2 j
          have l:LQ (40*(wb*d)+1) (y.2.2.getD j 0):=by
            by_cases h:1<=wb
            . exact ((a h).2 j).mono oM
            . rcases ha with k|k
              . rw[(h1 k).2.2,dK];exact iE oM
              . exact absurd (c k) h
          exact ((B.mul e).add (p.mul l)).mono oM) oM i
      . rw[nG c1 c2 c3];exact hz
    . rw[py c1 c2];exact hz
  . rw[nE c1];exact hz
section
variable {ok:ByteArray->Prop}{ix:ByteArray->Nat}{at_:List Rat}
theorem DN (m i j:Nat):LQ 1 ((fD m i).getD j 0):=by
 unfold fD
 by_cases h:i<m
 ·rw[eo (by simpa using h)]
  split
  ·exact LQ.lit (z:=1) kD
  ·rw[gZ];exact iE kD
 ·rw[List.set_eq_of_length_le (by simp;omega),gZ];exact iE kD
theorem uO {d:Nat}{op n:Int}{q:Rat}{s:ByteArray}{a:Tm}(h1:op≠1)(b:op≠2):bA ix at_ (d+1) (.mk op n q s [a])=qW at_.length op n (bA ix at_ d a) (0,0,[]):=by
 show (if op=1 then _ else if op=2 then _ else _)=_
 rw[if_neg h1,if_neg b];rfl
theorem qe {d:Nat}{op n:Int}{q:Rat}{s:ByteArray}{b a:Tm}(h1:op≠1)(c:op≠2):bA ix at_ (d+1) (.mk op n q s [b,a])=qW at_.length op n (bA ix at_ d b) (bA ix at_ d a):=by
 show (if op=1 then _ else if op=2 then _ else _)=_
 rw[if_neg h1,if_neg c];rfl
theorem qp (b:∀ i,LQ 1 (at_.getD i 0)):∀ {d:Nat} {t:Tm},WfT1 ok d t->1<=ce d t/\B6 (ce d t) d (bA ix at_ d t)
  | d + 1,.mk op n q s ks,⟨h1,h2,j,h4,h5,h6,f,c,h9⟩=>by
    have p:=aE op;replace h1:fu op=(ks.length:Nat):=h1;replace j:LQ 1 q:=j;replace f : -12<=n:=f;replace c:n<=12:=c
    rcases jH h1 with rfl|⟨t,rfl⟩|⟨t,u,rfl⟩
    . have e:ce (d+1) (.mk op n q s [])=1:=uK rfl
      rw[e];refine ⟨eb _,?_⟩
      simp only[NX] at h1
      by_cases o1:op=1
      . have e2:bA ix at_ (d+1) (.mk op n q s [])=(0,q,zY at_.length 0):=if_pos o1
        rw[e2];exact ⟨j,fun i=>by show LQ _ ((zY _ _).getD i 0);rw[gZ];exact iE oM⟩
      . have o:op=2:=by omega
        have e2:bA ix at_ (d+1) (.mk op n q s [])=(0,at_.getD (ix s) 0,fD at_.length (ix s)):=(if_neg o1).trans (if_pos o);rw[e2];exact ⟨b _,fun i=>(DN _ _ i).mono oM⟩
    . obtain ⟨i1,a⟩:=qp b (h9 0 (MB _))
      replace i1:1<=ce d t:=i1;replace a:B6 (ce d t) d (bA ix at_ d t):=a
      simp only[tq,NX] at h1
      have e:ce (d+1) (.mk op n q s [t])=dL op n*(ce d t+0):=by rw[j4 (show [t].length≠0 from NW _)];show _*(0+ce d t)=_;rw[y8,wj]
      have w1:=dt op n;rw[e,uO oM oM];exact ⟨ep i1 (MS _ w1),wx i1 a (fun h=>absurd h kD) oM (fun _=>⟨rfl,rfl,rfl⟩) oM ⟨f,c⟩ oM⟩
    . obtain ⟨i1,a⟩:=qp b (h9 0 (MB _))
      obtain ⟨l,j2⟩:=qp b (h9 1 (by show 1<2;decide));replace i1:1<=ce d t:=i1;replace a:B6 (ce d t) d (bA ix at_ d t):=a;replace l:1<=ce d u:=l;replace j2:B6 (ce d u) d (bA ix at_ d u):=j2
      simp only[tq,NX] at h1
      have e:ce (d+1) (.mk op n q s [t,u])=dL op n*(ce d t+ce d u):=by rw[j4 (show [t,u].length≠0 from NW _)];show _*(0+ce d t+ce d u)=_;rw[y8]
      have w1:=dt op n;rw[e,qe oM oM];exact ⟨ep oM (MS _ w1),wx i1 a (fun _=>j2) (fun _=>l) oM oM ⟨f,c⟩ oM⟩
theorem Cb {m:Nat}{op n:Int}{x y:Int × Rat × List Rat}(h:(qW m op n x y).1=0):(qW m op n x y).2.2.length=m:=by
 by_cases c1:x.1=0
 ·by_cases c2:y.1=0
  ·by_cases c3:bJ op n x.2.1 y.2.1=0
   ·rw[kJ c1 c2 c3];exact duG_len
   ·rw[nG c1 c2 c3] at h;exact absurd h c3
  ·rw[py c1 c2] at h;exact absurd h c2
 ·rw[nE c1] at h;exact absurd h c1
theorem im:∀ {d:Nat} {t:Tm},WfT1 ok d t->(bA ix at_ d t).1=0->(bA ix at_ d t).2.2.length=at_.length
  | d + 1,t,_,h=>by
    by_cases o1:t.op=1
    . have e:bA ix at_ (d+1) t=(0,t.q,zY at_.length 0):=if_pos o1
      rw[e];exact NL
    . by_cases o2:t.op=2
      . have e:bA ix at_ (d+1) t=(0,at_.getD (ix t.s) 0,fD at_.length (ix t.s)):=(if_neg o1).trans (if_pos o2)
        rw[e];unfold fD;simp
      . have e:bA ix at_ (d+1) t=qW at_.length t.op t.n _ _:=(if_neg o1).trans (if_neg o2)
        rw[e] at h ⊢;exact Cb h
end
structure Whole (lo:Nat) (h:Hp) (b:Nat) (ty:TypeId) (vs:List Value):Prop where
  lo:lo<=b
  ty0:(ty == 0)=false
  at_:h[b]?=some (.cells vs.toArray ty (0,0))
structure Poked (h h':Hp) (b:Nat):Prop where
  oth:∀ c,c≠b->c<h.size->h'[c]?=h[c]?
section laws
variable {M:Ms}{P:Program}{n:Nat}{N R:Po}{X:Nat->Po}{ops:Array Oper}{k k0:Nat}{hr:Hp}{AL:List Al}{L:Array Bool}{Γ:cl}{w:World}{h:Hp}{w0:World}{h0:Hp}{B:List Bx}{Rs:List Rw}{F:List (Hp->Prop)}
theorem AH {α:Type}{f:α->List Value}{sz:Nat}(hf:∀ x,(f x).length=sz)(l:List α)(sp:List Value)(e:Nat)(x:α)(h:e<l.length):bY (l.flatMap f++sp) (0+e*sz) (f x)=(l.set e x).flatMap f++sp:=by
 obtain ⟨a,y,b,rfl,hle⟩:∃ a y b,l=a++y::b/\a.length=e:=⟨l.take e,l[e],l.drop (e+1),by rw[List.getElem_cons_drop,LI],by rw[List.length_take];omega⟩;subst hle;have h1:(a++y::b).flatMap f++sp=a.flatMap f++(f y++(b.flatMap f++sp)):=by simp
 have d:((a++y::b).set a.length x).flatMap f++sp=a.flatMap f++(f x++(b.flatMap f++sp)):=by simp
 rw[h1,d,y8];have c:=fM (f x) (a.flatMap f) (f y++(b.flatMap f++sp)) 0;rw[bX hf,wj] at c
 rw[c,i5 _ _ _ (by rw[hf,hf])]
theorem JH {bs:List Nat}(i t:Nat)(v:Value){u:Value}{b o:Nat}{cs:List Value}(s:SS w0 h0 w h B Rs F)(d:Seg h b o cs)(e:v=u)(c:b<hr.size)(H:EG (Mz hr bs) P n N R X ops k0 hr AL (L.setIfInBounds i true) ((t,u)::Γ) w h)(hM:b ∉ bs:=by exact List.not_mem_nil)(a:cE n ops k0 AL L Γ i t=true:=by kernel_rfl)(f:bS P (execOp (ev Γ) (ak ops i)) cs=some (.value v,kF b o cs.length):=by kernel_rfl):EG (Mz hr bs) P n N R X ops k0 hr AL L Γ w h:=by
 subst e;exact KY i t v s d c H hM a f
theorem JO (t:Nat)(ty:TypeId)(vs:List Value)(s:SS w0 h0 w h B Rs F)(H:∀ b w' a,Up w h w' a->h.size<=b->SS w0 h0 w' a (⟨b,ty,vs⟩::B) Rs F->LG P n N R X ops (k+1) ((t,.pointer (some ⟨b,0,none⟩))::Γ) w')(c:cL ops Γ k t n=true:=by kernel_rfl)
  (hr:(execOp (ev Γ) (ak ops k)).run P w=.ok (.value (.pointer (some ⟨w.heap.size,0,none⟩))) (w.alloc (.cells vs.toArray ty (0,0))):=by kernel_rfl):LG P n N R X ops k Γ w :=
 LG.var t ty vs s.st (bQ c).1 (bQ c).2 hr (fun b w' a d u e=>H b w' a u d (s.new u d e))
theorem UpM.put2 {M2:List Nat}{wa w':World}{ha:Hp}{b:Nat}(u:UpM M2 wa ha w h)(p:Put b w w')(f:ha.size<=b)(ga:G wa ha)(g:G w' h):UpM M2 wa ha w' h :=
 ⟨⟨p.os.trans u.mo.os,p.tape.trans u.mo.tape,p.output.trans u.mo.output,by rw[p.size];exact u.mo.size,fun c a d=>(p.blk c (fun e=>by subst e;have:=ga.size;omega)).trans (u.mo.blk c a d)⟩,u.gr,g⟩
end laws
theorem SS.takeL {w0:World}{h0:Hp}{w:World}{h:Hp}{B:List Bx}{F:List (Hp->Prop)}(s:SS w0 h0 w h B [] F){b:Nat}{ty:TypeId}{vs:List Value}(y:h0.size<=b)(f:h[b]?=some (.cells vs.toArray ty (0,0)))(i:(ty == 0)=false:=by kernel_rfl) :
  ∃ l,SS w0 h0 w l (⟨b,ty,vs⟩::B) [] []:=by
 have d:=aR f
 have o:h[b]?≠some be:=fun e=>by
  rw[e] at f
  injection f with f
  unfold be at f
  injection f with h1 h2 h3
  rw[<-h2] at i
  cases i
 have z:G w (h.setIfInBounds b be):=⟨by simp;exact s.g.size,fun c=>by
  by_cases e:b=c
  ·subst e;right;rw[As d]
  ·rw[i2 e];exact s.g.blk c⟩
 have p:Gr h0 (h.setIfInBounds b be):=⟨by simp;exact s.st.up.gr.size,fun c j=>by rw[i2 oM];exact s.st.up.gr.blk c j⟩
 have u:Own w b ty vs:=by
  rcases s.g.blk b with e|e
  ·exact e.symm.trans f
  ·exact absurd e o
 refine ⟨h.setIfInBounds b be,s.g0,⟨⟨s.st.up.ext,p,z⟩,?_,?_,?_,?_⟩,fun _ a=>(by cases a),.nil,fun _ a=>(by cases a),trivial⟩
 ·intro x a
  rcases g2.1 a with rfl|a
  ·exact u
  ·exact s.st.own x a
 ·intro x a
  rcases g2.1 a with rfl|a
  ·exact As d
  ·by_cases e:b=x.b
   ·rw[<-e];exact As d
   ·rw[i2 e];exact s.st.jk x a
 ·intro x a
  rcases g2.1 a with rfl|a
  ·exact y
  ·exact s.st.lo x a
 ·show (b::B.map (·.b)).Nodup
  refine List.nodup_cons.2 ⟨fun C=>?_,s.st.nd⟩;obtain ⟨x,a,e⟩:=gx.1 C;exact o (e▸s.st.jk x a)
section laws
variable {M:Ms}{P:Program}{n:Nat}{N R:Po}{X:Nat->Po}{ops:Array Oper}{k k0:Nat}{hr:Hp}{AL:List Al}{L:Array Bool}{Γ:cl}{w:World}{h:Hp}{w0:World}{h0:Hp}{B:List Bx}{Rs:List Rw}{F:List (Hp->Prop)}
theorem Lk {α:Type}(j:Nat)(l:List α)(f:α->List Value)(sz e:Nat)(x:α)(sp:List Value)(s:SS w0 h0 w h B Rs F)(hk:e<l.length)(H:∀ w',SS w0 h0 w' h (gJ B j ((l.set e x).flatMap f++sp)) Rs F->LG P n N R X ops (k+1) Γ w')(i:cS ops Γ k=true:=by kernel_rfl)
  (d:decide (j<B.length)=true:=by kernel_rfl)(hB:(av B j).vs=l.flatMap f++sp:=by kernel_rfl)(hf:∀ x,(f x).length=sz:=by intro _;rfl)
  (c:dE P (execOp (ev Γ) (ak ops k))=some (.skip,lf (av B j).b (0+e*sz) (f x)):=by kernel_rfl):LG P n N R X ops k Γ w:=by
 refine lP j (0+e*sz) (f x) s (fun w' a=>H w' ?_) i ?_ c
 ·have e1:gl B j (0+e*sz) (f x)=gJ B j ((l.set e x).flatMap f++sp):=by
   unfold gl gJ
   rw[hB,AH hf l sp e x hk]
  rw[<-e1];exact a
 ·rw[d,hB,Bool.true_and]
  refine decide_eq_true ?_;rw[hf,y4,bX hf];have:=y9 sz (show e+1<=l.length from hk);rw[LS] at this
  omega
end laws
theorem qi (q:Rat)(l:Z9)(c1:Nat)(j:Z9)(b:Nat)(d:(lim (ab q.num)).length<=c1)(e:(lim q.den).length<=b)(n:Nat)(hn:n=1)(w:World)(h:Hp)(g:G w h)(i:S3 l (lim (ab q.num)) h)(f:S3 j (lim q.den) h):CR 64 #[rG q l c1 j b,nV n] w h (fun v h1=>∃ A c a,v=.slice A (a:List RT).length c/\a.length<=c/\Sr A a h1/\RTs h1 a [q,((0:Int):Rat)]):=by
 subst hn;exact nw q l c1 j b d e 1 oM w h g i f
theorem fG {q:Rat}(h:q.num.sign≠0):q≠0:=fun e=>h (by rw[e];rfl)
theorem o9 {q:Rat}(h:q.num.sign=0):q=0:=Nz.1 (NR.1 h)
section
variable {op n:Int}{a b:Rat}{xs ys:List Rat}
theorem fB (h:op≠6)(c:op≠8):rE op n a b:=⟨fun e=>absurd e h,fun e=>absurd e c⟩
theorem IS (h:b≠0):rE 6 n a b:=⟨fun _=>h,fun e=>absurd e kD⟩
theorem uH (h:n<0->a≠0):rE 8 n a b:=⟨fun e=>absurd e kD,fun _=>h⟩
theorem BH (h:op=6)(c:b.num.sign=0):¬rE op n a b:=fun x=>x.1 h (o9 c)
theorem xp (h:op=8)(hn:n<0)(c:a.num.sign=0):¬rE op n a b:=fun x=>x.2 h hn (o9 c)
theorem Fk (h:op=12\/op=13)(c:cZ a b=0):x7 op a b:=.inr ⟨h,il.1 c⟩
theorem H9 (h:op=9\/op=10)(c:a.num.sign=0):x7 op a b:=.inl ⟨h,o9 c⟩
theorem mP (h:op≠9)(d:op≠10)(c:op≠12/\op≠13):¬x7 op a b:=fun x=>by
 rcases x with ⟨x,_⟩|⟨x,_⟩<;>omega
theorem o3 (h:op=12\/op=13)(c:cZ a b≠0):¬x7 op a b:=fun x=>by
 rcases x with ⟨x,_⟩|⟨_,y⟩
 ·omega
 ·exact c (il.2 y)
theorem sf (h:op=9\/op=10)(c:a.num.sign≠0):¬x7 op a b:=fun x=>by
 rcases x with ⟨_,y⟩|⟨x,_⟩
 ·exact c (by rw[y];rfl)
 ·omega
theorem oq (a:Rat):a*((a.num.sign:Int):Rat)=cH a:=by
 unfold cH
 rcases M0 a.num 0 with h|h|h
 ·rw[if_pos h,M1 h,vE];grind
 ·have e:a=0:=Nz.1 h
  subst e;rw[if_neg kD,Rat.zero_mul]
 ·rw[if_neg oM,M3 h,i1];grind
theorem Fz (xs:List Rat){l:List Rat}(e:l.getD 0 0=((1:Int):Rat)+xs.getD 0 0*(((xs.getD 0 0).num.sign:Int):Rat)):l.getD 0 0≠0:=by
 rw[e,oq];intro h;exact l8 (xs.getD 0 0) (by rw[h];rfl)
theorem Ju (a:xs.length=2):(ov xs.length).map (fun i=>xs.getD i 0*(((xs.getD 0 0).num.sign:Int):Rat))=dM 9 n xs ys:=by
 rw[a];refine eJ (oq _) ?_
 show xs.getD 1 0*_=(((xs.getD 0 0).num.sign:Int):Rat)*xs.getD 1 0+0*ys.getD 1 0
 grind
theorem CT (a:xs.length=2)(b:0<(xs.getD 0 0).num.sign):xs=dM 10 n xs ys:=by
 have h0:=oK.1 b;refine jZ a ?_ ?_ rfl
 ·show _=maxR (xs.getD 0 0) 0
  unfold maxR;rw[if_neg (by grind)]
 ·show ((max (xs.getD 0 0).num.sign 0:Int):Rat)=1
  have:=ib (xs.getD 0 0).num;rw[show max (xs.getD 0 0).num.sign 0=1 by omega];rfl
theorem CO (a:(xs.getD 0 0).num.sign<0):[((0:Int):Rat),((0:Int):Rat)]=dM 10 n xs ys:=by
 have h0:¬0<xs.getD 0 0:=fun h=>by have:=oK.2 h;omega
 refine eJ ?_ ?_
 ·show (0:Rat)=maxR (xs.getD 0 0) 0
  unfold maxR;split
  ·rfl
  ·grind
 ·show (0:Rat)=((max (xs.getD 0 0).num.sign 0:Int):Rat)*xs.getD 1 0+0*ys.getD 1 0
  rw[show max (xs.getD 0 0).num.sign 0=0 by omega,i0];grind
theorem CA (b:xs.length=2)(c:(xs.getD 0 0).num.sign=0):xs=dM 11 n xs ys:=by
 have h0:=o9 c;have a:cH (0:Rat)=0:=rfl;refine jZ b ?_ ?_ rfl
 ·show _=xs.getD 0 0/(cH (xs.getD 0 0)+((1:Int):Rat))
  rw[h0,a,i1];grind
 ·show (((1:Int):Rat)/(((1:Int):Rat)+cH (xs.getD 0 0)))*(((1:Int):Rat)/(((1:Int):Rat)+cH (xs.getD 0 0)))=1
  rw[h0,a,i1];grind
theorem Gv (b:xs.length=2):dk xs ((ov [((1:Int):Rat),((0:Int):Rat)].length).map fun i=>[((1:Int):Rat),((0:Int):Rat)].getD i 0+((ov xs.length).map fun i=>xs.getD i 0*(((xs.getD 0 0).num.sign:Int):Rat)).getD i 0) xs.length=dM 11 n xs ys:=by
 rw[b];have e:=oq (xs.getD 0 0);have a:((1:Int):Rat)+cH (xs.getD 0 0)≠0:=fun h=>l8 (xs.getD 0 0) (by rw[h];rfl)
 refine eJ ?_ ?_
 ·show xs.getD 0 0/(((1:Int):Rat)+xs.getD 0 0*_)=xs.getD 0 0/(cH (xs.getD 0 0)+((1:Int):Rat))
  rw[e,N1]
 ·show (xs.getD 1 0-xs.getD 0 0/(((1:Int):Rat)+xs.getD 0 0*(((xs.getD 0 0).num.sign:Int):Rat))*(((0:Int):Rat)+xs.getD 1 0*(((xs.getD 0 0).num.sign:Int):Rat)))/(((1:Int):Rat)+xs.getD 0 0*(((xs.getD 0 0).num.sign:Int):Rat))=(((1:Int):Rat)/(((1:Int):Rat)+cH (xs.getD 0 0)))*(((1:Int):Rat)/(((1:Int):Rat)+cH (xs.getD 0 0)))*xs.getD 1 0+0*ys.getD 1 0
  rw[e];rw[i1,i0] at *
  generalize (((xs.getD 0 0).num.sign:Int):Rat)=s at *
  generalize cH (xs.getD 0 0)=t at *
  grind
theorem wW (b:xs.length=2)(h:op=12/\0<cZ (xs.getD 0 0) (ys.getD 0 0)\/op=13/\¬0<cZ (xs.getD 0 0) (ys.getD 0 0))(c:cZ (xs.getD 0 0) (ys.getD 0 0)≠0):xs=dM op n xs ys:=by
 rcases h with ⟨rfl,h⟩|⟨rfl,h⟩
 ·have h1:=jb.1 h
  exact jZ b (by show _=maxR _ _;unfold maxR;rw[if_neg (by grind)]) (if_pos h1) (if_pos h1)
 ·have h1:=iX.1 (show cZ (xs.getD 0 0) (ys.getD 0 0)<0 by omega)
  have a:¬ys.getD 0 0<xs.getD 0 0:=by grind
  exact jZ b (by show _=nk _ _;unfold nk;rw[if_neg a]) (if_neg a) (if_neg a)
theorem wK (a:ys.length=2)(h:op=13/\0<cZ (xs.getD 0 0) (ys.getD 0 0)\/op=12/\¬0<cZ (xs.getD 0 0) (ys.getD 0 0))(c:cZ (xs.getD 0 0) (ys.getD 0 0)≠0):ys=dM op n xs ys:=by
 rcases h with ⟨rfl,h⟩|⟨rfl,h⟩
 ·have h1:=jb.1 h
  exact nF a (by show _=nk _ _;unfold nk;rw[if_pos h1]) (if_pos h1) (if_pos h1)
 ·have h1:=iX.1 (show cZ (xs.getD 0 0) (ys.getD 0 0)<0 by omega)
  have b:¬ys.getD 0 0<xs.getD 0 0:=by grind
  exact nF a (by show _=maxR _ _;unfold maxR;rw[if_pos h1]) (if_neg b) (if_neg b)
end
theorem nt (op n:Int)(A:Z9)(e:Nat)(xs:List Rat)(b:List RT)(D:Z9)(u:Nat)(ys:List Rat)(d:List RT)(V:b.length<=e)(hcD:d.length<=u)(K l:Nat)(W:1<=K)(hKD:K<=l)(hK:60*K+10*l+100<=100000000)(hop:3<=op/\op<=13)(hn:op=8 -> -12<=n/\n<=12)(o:xs.length=2)(Y:3<=op/\op<=6\/12<=op->ys.length=2)(X:LQ K (xs.getD 0 0))(ha:∀ j,LQ l (xs.getD j 0))(Q:∀ j,LQ l (ys.getD j 0))(w:World)(h:Hp)(g:G w h)(hA:Sr A b h)(hTa:RTs h b xs)(hD:Sr D d h)(hTb:RTs h d ys):CR 66 #[iV op,iV n,.slice A b.length e,.slice D d.length u,.bool true] w h (fun v h1=>∃ A c ts,v=.tuple #[.slice A (ts:List RT).length c,iV (bJ op n (xs.getD 0 0) (ys.getD 0 0))]/\ts.length<=c/\Sr A ts h1/\RTs h1 ts (iC op n xs ys)):=by
 have a:=(((((sS g).aS hA).aT hTa).aS hD).aT hTb);have hla:=(a.f.r.1).len;have hlb:=(a.f.1).len;have hsx:=ib (xs.getD 0 0).num;have hsy:=ib (ys.getD 0 0).num;refine go Tryz.func66 [(0,iV op),(1,iV n),(2,qS A b.length e),(3,qS D d.length u),(4,qT)] rfl (aa a aD (aG (lL a [.c,.v (nV b.length)] (bp 20 ((b.length:Nat)-1) (b.length-1) ?_))));refine lL a ac (aG (lC 21 a (oH 1 oM oM _ _ a.g) ?_));rintro _ w9 _ a ⟨A1,c2,A5,c6,rfl,hc3,hc7,hA4,hA8⟩;replace a:=a.aP hA4 hA8;refine lL a ac (lC 23 a (qi ((1:Int):Rat) A1 c2 A5 c6 hc3 hc7 ((b.length-1)) oM _ _ a.g a.f.2.1 a.f.1) ?_);rintro _ _ YO a ⟨y,H,x,rfl,zU,ZC,ZD⟩;replace a:=((a.aS ZC).aT ZD);refine lL a ac (ag (aa a ac (aZ (ax ?_))));cases zp:((op:Int) == (3:Int))
 .
  have yq:=aj zp;refine lB 26 zp (lL a ac (ah (ax ?_)));cases zq:((op:Int) == (4:Int))
  .
   have yr:=aj zq;refine lB 31 zq (lL a ac (ah (ax ?_)));cases zr:((op:Int) == (7:Int))
   .
    have yt:=aj zr;refine lB 38 zr (lL a ac (ah (ax ?_)));cases zs:((op:Int) == (5:Int))
    .
     have yu:=aj zs;refine lB 43 zs (lL a ac (ah (ax ?_)));cases zt:((op:Int) == (6:Int))
     .
      have yv:=aj zt;refine lB 48 zt (lL a ac (ah (ax ?_)));cases zu:((op:Int) == (8:Int))
      .
       have yw:=aj zu;refine lB 58 zu (lL a ac (ah (cQ (ax ?_))));cases zv:((op:Int) == (12:Int))
       .
        have yx:=aj zv;refine lB 87 zv (lL a ac (ah (kQ ?_)));cases zw:((op:Int) == (13:Int))
        .
         have yA:=aj zw;refine lB 88 zw (lL a ac (ah (cK (aa a ac (lX 108 A b.length e 3 0 0 ((a.f.q.r.2.1).ok oM) ?_)))));obtain ⟨Z,cx,Dx,dx,ex,C,F,B,z⟩:=(a.f.q.r.1).at_ 0 oM;replace a:=a.aP B z;refine HT 109 (rA (b.getD 0 gQ)) a ((a.f.q.q.2.1).el 0 oM) ex (aq 110 a (BV (xs.getD 0 0) Z cx Dx dx C F (nl (ha 0)) (nD (ha 0)) _ _ a.g a.f.2.1 a.f.1) (fun _ _ a=>lL a ac (ag (kZ (aa a ac ?_)))));cases zx:((op:Int) == (11:Int))
         .
          have yB:=aj zx;refine lB 113 zx (lL a ac (lG 115 ?_));refine lG 116 (lL a [.v qF,.c] (lG 119 ?_));refine lL a [.v qF,.c] (lN (bH [(0,iV op),(2,qS A b.length e),(10,sZ),(11,iV 0),(12,nV (b.length-1)),(13,qS y x.length H),(17,iV ((xs.getD 0 0).num.sign)),(111,qF)] ?_));refine dD (aa a ac ?_);cases zA:(((xs.getD 0 0).num.sign:Int) == (0:Int))
          .
           have yC:=aj zA;refine lB 124 zA (lL a ac (ah (aa a ac ?_)));cases zB:((op:Int) == (9:Int))
           .
            have yD:=aj zB;refine lB 127 zB (lL a ac (ah (aa a ac ?_)));have zW:((op:Int) == (11:Int))=false:=eU oM;have c3:=aj zW;refine lB 134 zW (lL a ac (ah (aa a ac ?_)));cases zD:(decide ((0:Int)<((xs.getD 0 0).num.sign:Int)))
            .
             have yE:=oF zD;refine lB 145 zD (lL a ac (ah (cK (ax (lC 147 a (oH 0 oM oM _ _ a.g) ?_)))));rintro _ _ _ a ⟨YP,YQ,YR,YS,rfl,ZE,ZF,ZG,ZH⟩;replace a:=a.aP ZG ZH;refine lL a ac (lC 149 a (qi ((0:Int):Rat) YP YQ YR YS ZE ZF ((b.length-1)) oM _ _ a.g a.f.2.1 a.f.1) ?_);rintro _ _ _ a ⟨YT,YU,zX,rfl,ZI,ZJ,ZK⟩;replace a:=((a.aS ZJ).aT ZK);refine lL a aD (lN (kX ?_));obtain rfl:op=10:=by omega
             exact a.ret [] (.tuple #[qS YT zX.length YU,iV 0]) (by obtain ⟨e1,e2⟩:=fc (op:=10) (n:=n) (xs:=xs) (ys:=ys) (fB oM oM) (sf oM oM);rw[e1,e2,<-show _=dM 10 n xs ys from (CO oM)];exact ⟨_,_,zX,rfl,ZI,a.f.2.1,a.f.1⟩)
            have yE:=oT zD;refine lB 145 zD (lL a ac (am (aa a dl (lN (kX ?_)))));obtain rfl:op=10:=by omega
            exact a.ret [] (.tuple #[qS A b.length e,iV 0]) (by obtain ⟨e1,e2⟩:=fc (op:=10) (n:=n) (xs:=xs) (ys:=ys) (fB oM oM) (sf oM oM);rw[e1,e2,<-show _=dM 10 n xs ys from (CT o oM)];exact ⟨_,_,b,rfl,V,a.f.q.q.2.1,a.f.q.q.1⟩)
           have yD:=eq_of_beq zB;refine lB 127 zB (lL a ac (am (aa a aD ?_)));have c9:LQ (1) ((((xs.getD 0 0).num.sign:Int):Rat)):=LQ.int oM oM;refine lC 130 a (oH ((xs.getD 0 0).num.sign) oM oM _ _ a.g) ?_;rintro _ _ _ a ⟨YV,YW,YX,c57,rfl,ZL,ZM,ZN,ZO⟩;replace a:=a.aP ZN ZO;have c7:xs.length=2:=o;refine lC 131 a (oJ A e xs b (((xs.getD 0 0).num.sign:Int):Rat) YV YW YX c57 ZL ZM l 1 oM oM ha (LQ.int oM oM) _ _ a.g a.f.q.q.r.2.1 a.f.q.q.r.1 a.f.2.1 a.f.1) ?_;rintro _ _ _ a ⟨A63,c64,ya,rfl,ZP,ZQ,ZR⟩;replace a:=((a.aS ZQ).aT ZR);refine lL a aD (lN (kX ?_));obtain rfl:op=9:=by omega
           exact a.ret [] (.tuple #[qS A63 ya.length c64,iV 0]) (by obtain ⟨e1,e2⟩:=fc (op:=9) (n:=n) (xs:=xs) (ys:=ys) (fB oM oM) (sf oM oM);rw[e1,e2,<-show _=dM 9 n xs ys from (Ju o)];exact ⟨_,_,ya,rfl,ZP,a.f.2.1,a.f.1⟩)
          have yC:=eq_of_beq zA;exact lB 124 zA (lL a ac (am (aa a aD (ae a [] (.tuple #[sZ,iV 7]) (by obtain ⟨e1,e2⟩:=wR (op:=op) (n:=n) (xs:=xs) (ys:=ys) (fB oM oM) (H9 oM oM);rw[e1,e2];exact ⟨none,0,[],rfl,nR _,SlO.nil,RTs.nil⟩)))))
         have yB:=eq_of_beq zx;refine lB 113 zx (lL a aD ?_);cases zE:(((xs.getD 0 0).num.sign:Int) == (0:Int))
         .
          have yF:=aj zE;refine lB 116 zE (lL a [.v qF,.c] (lG 119 ?_));refine lL a [.v qF,.c] (lN (bH [(0,iV op),(2,qS A b.length e),(10,sZ),(11,iV 0),(12,nV (b.length-1)),(13,qS y x.length H),(17,iV ((xs.getD 0 0).num.sign)),(111,qF)] ?_));refine dD (aa a ac ?_);have yb:(((xs.getD 0 0).num.sign:Int) == (0:Int))=false:=eU oM;have ch:=aj yb;refine lB 124 yb (lL a ac (ah (aa a ac ?_)));have yc:((op:Int) == (9:Int))=false:=eU oM;have cz:=aj yc;refine lB 127 yc (lL a ac (ah (aa a ac ?_)));have yd:((op:Int) == (11:Int))=true:=sO oM;have cr:=eq_of_beq yd;refine lB 134 yd (lL a ac (am (aa a oz ?_)));have c8:LQ (1) ((((xs.getD 0 0).num.sign:Int):Rat)):=LQ.int oM oM;refine lC 139 a (oH ((xs.getD 0 0).num.sign) oM oM _ _ a.g) ?_;rintro _ _ _ a ⟨A75,c76,A79,c80,rfl,ZS,ZT,ZU,ZV⟩;replace a:=a.aP ZU ZV;have c5:xs.length=2:=o;refine lC 140 a (oJ A e xs b (((xs.getD 0 0).num.sign:Int):Rat) A75 c76 A79 c80 ZS ZT l 1 oM oM ha (LQ.int oM oM) _ _ a.g a.f.q.q.r.2.1 a.f.q.q.r.1 a.f.2.1 a.f.1) ?_;rintro _ _ _ a ⟨A86,c87,ZW,rfl,dc,ZX,Ya⟩;replace a:=((a.aS ZX).aT Ya);have cq:[((1:Int):Rat),((0:Int):Rat)].length=2:=rfl;have cw:((ov xs.length).map fun i=>xs.getD i 0*(((xs.getD 0 0).num.sign:Int):Rat)).length=2:=(by rw[NH,NI];exact o);refine lC 141 a (wH y H [((1:Int):Rat),((0:Int):Rat)] x A86 c87 ((ov xs.length).map fun i=>xs.getD i 0*(((xs.getD 0 0).num.sign:Int):Rat)) ZW 1 (l+1) oM oM (mn (K:=1) oM (LQ.lit kD) (LQ.lit kD)) (m7 (K:=l+1) oM fun i=>(ha i).mul (LQ.int oM oM)) oM _ _ a.g a.f.q.r.2.1 a.f.q.r.1 a.f.2.1 a.f.1) ?_;rintro _ _ _ a ⟨A94,c95,Yb,rfl,c4,Yc,Yd⟩;replace a:=((a.aS Yc).aT Yd);have bl:xs.length=2:=o;have b9:((ov [((1:Int):Rat),((0:Int):Rat)].length).map fun i=>[((1:Int):Rat),((0:Int):Rat)].getD i 0+((ov xs.length).map fun i=>xs.getD i 0*(((xs.getD 0 0).num.sign:Int):Rat)).getD i 0).length=2:=(by rw[NH,NI];exact rfl);refine lC 142 a (i9 A e xs b A94 c95 ((ov [((1:Int):Rat),((0:Int):Rat)].length).map fun i=>[((1:Int):Rat),((0:Int):Rat)].getD i 0+((ov xs.length).map fun i=>xs.getD i 0*(((xs.getD 0 0).num.sign:Int):Rat)).getD i 0) Yb l (1+(l+1)+1) oM oM oM ha (m7 (K:=1+(l+1)+1) oM fun i=>((mn (K:=1) oM (LQ.lit kD) (LQ.lit kD)) i).add ((m7 (K:=l+1) oM fun i=>(ha i).mul (LQ.int oM oM)) i)) oM (Fz xs (by rw[o];rfl)) _ _ a.g a.f.q.q.q.r.2.1 a.f.q.q.q.r.1 a.f.2.1 a.f.1) ?_;rintro _ _ _ a ⟨Ye,Yf,zG,rfl,yG,yH,yI⟩;replace a:=((a.aS yH).aT yI);refine lL a aD (lN (kX ?_));obtain rfl:op=11:=by omega
          exact a.ret [] (.tuple #[qS Ye zG.length Yf,iV 0]) (by obtain ⟨e1,e2⟩:=fc (op:=11) (n:=n) (xs:=xs) (ys:=ys) (fB oM oM) (mP oM oM oM);rw[e1,e2,<-show _=dM 11 n xs ys from (Gv o)];exact ⟨_,_,zG,rfl,yG,a.f.2.1,a.f.1⟩)
         have yF:=eq_of_beq zE;refine lB 116 zE (lL a [.v qT,.c,.c,.v qT,.c] (lN (bH [(0,iV op),(2,qS A b.length e),(10,sZ),(11,iV 0),(12,nV (b.length-1)),(13,qS y x.length H),(17,iV ((xs.getD 0 0).num.sign)),(111,qT)] ?_)));refine ct (aa a dl (lN (kX ?_)));obtain rfl:op=11:=by omega
         exact a.ret [] (.tuple #[qS A b.length e,iV 0]) (by obtain ⟨e1,e2⟩:=fc (op:=11) (n:=n) (xs:=xs) (ys:=ys) (fB oM oM) (mP oM oM oM);rw[e1,e2,<-show _=dM 11 n xs ys from (CA o oM)];exact ⟨_,_,b,rfl,V,a.f.q.q.2.1,a.f.q.q.1⟩)
        have yA:=eq_of_beq zw;refine lB 88 zw (lL a ac (am (cQ (cR 7 [] mixed a ao ?_))));refine eV 0 89 (qS A b.length e) (eX 1 90 A b.length e 3 0 0 ((a.f.q.r.2.1).ok oM) ?_);obtain ⟨Z,cx,Dx,dx,ex,C,F,B,z⟩:=(a.f.q.r.1).at_ 0 oM;replace a:=a.aP B z;refine wk 2 91 (rA (b.getD 0 gQ)) a ((a.f.q.q.2.1).el 0 oM) ex (eV 3 92 (qS D d.length u) (eX 4 93 D d.length u 3 0 0 ((a.f.q.r.2.1).ok oM) ?_));obtain ⟨Ay,cy,Dy,dy,ey,L,U,O,S⟩:=(a.f.q.r.1).at_ 0 oM;replace a:=a.aP O S;refine wk 5 94 (rA (d.getD 0 gQ)) a ((a.f.q.q.2.1).el 0 oM) ey (au 6 95 a (fun _ _ a=>IM (xs.getD 0 0) Z cx Dx dx C F (nl (ha 0)) (nD (ha 0)) (ys.getD 0 0) Ay cy Dy dy L U (nl (Q 0)) (nD (Q 0)) _ _ a.g a.f.r.2.1 a.f.r.1 a.f.2.1 a.f.1) (fun _ _ a=>bU a (fun _ _ a=>tV 7 16 (iV (cZ (xs.getD 0 0) (ys.getD 0 0))) (tN (cQ (kZ (aa a ac ?_)))))));cases zd:((cZ (xs.getD 0 0) (ys.getD 0 0):Int) == (0:Int))
        .
         have ye:=aj zd;refine lB 98 zd (lL a ac (lN (bH [(0,iV op),(2,qS A b.length e),(3,qS D d.length u),(4,qT),(10,sZ),(11,iV 0),(12,nV (b.length-1)),(13,qS y x.length H),(16,iV (cZ (xs.getD 0 0) (ys.getD 0 0))),(96,qF)] ?_)));refine dD (aa a ac ?_);cases ze:(decide ((0:Int)<(cZ (xs.getD 0 0) (ys.getD 0 0):Int)))
         .
          have yf:=oF ze;refine lB 101 ze (lL a ac ?_);have zH:((op:Int) == (12:Int))=false:=eU oM;have bq:=aj zH;exact lB 103 zH (lL a [.v qT,.c] (am (aa a dl (ae a [] (.tuple #[qS A b.length e,iV 0]) (by obtain ⟨e1,e2⟩:=fc (op:=op) (n:=n) (xs:=xs) (ys:=ys) (fB oM oM) (o3 oM oM);rw[e1,e2,<-show _=dM op n xs ys from (wW o oM oM)];exact ⟨_,_,b,rfl,V,a.f.q.q.r.2.1,a.f.q.q.r.1⟩)))))
         have yf:=oT ze;refine lB 101 ze (lL a ac ?_);have zI:((op:Int) == (12:Int))=false:=eU oM;have b6:=aj zI;exact lB 103 zI (lL a [.v qF,.c] (ah (cK (aa a dl (ae a [] (.tuple #[qS D d.length u,iV 0]) (by obtain ⟨e1,e2⟩:=fc (op:=op) (n:=n) (xs:=xs) (ys:=ys) (fB oM oM) (o3 oM oM);rw[e1,e2,<-show _=dM op n xs ys from (wK (Y oM) oM oM)];exact ⟨_,_,d,rfl,hcD,a.f.q.q.2.1,a.f.q.q.1⟩))))))
        have ye:=eq_of_beq zd;refine lB 98 zd (lL a ac (lN (bH [(0,iV op),(2,qS A b.length e),(3,qS D d.length u),(4,qT),(10,sZ),(11,iV 0),(12,nV (b.length-1)),(13,qS y x.length H),(16,iV (cZ (xs.getD 0 0) (ys.getD 0 0))),(96,qT)] ?_)));exact ct (aa a aD (ae a [] (.tuple #[sZ,iV 7]) (by obtain ⟨e1,e2⟩:=wR (op:=op) (n:=n) (xs:=xs) (ys:=ys) (fB oM oM) (Fk oM oM);rw[e1,e2];exact ⟨none,0,[],rfl,nR _,SlO.nil,RTs.nil⟩)))
       have yx:=eq_of_beq zv;refine lB 87 zv (lL a ac (am (cK (ct (cQ (cR 7 [] mixed a ao ?_))))));refine eV 0 89 (qS A b.length e) (eX 1 90 A b.length e 3 0 0 ((a.f.q.r.2.1).ok oM) ?_);obtain ⟨Z,cx,Dx,dx,ex,C,F,B,z⟩:=(a.f.q.r.1).at_ 0 oM;replace a:=a.aP B z;refine wk 2 91 (rA (b.getD 0 gQ)) a ((a.f.q.q.2.1).el 0 oM) ex (eV 3 92 (qS D d.length u) (eX 4 93 D d.length u 3 0 0 ((a.f.q.r.2.1).ok oM) ?_));obtain ⟨Ay,cy,Dy,dy,ey,L,U,O,S⟩:=(a.f.q.r.1).at_ 0 oM;replace a:=a.aP O S;refine wk 5 94 (rA (d.getD 0 gQ)) a ((a.f.q.q.2.1).el 0 oM) ey (au 6 95 a (fun _ _ a=>IM (xs.getD 0 0) Z cx Dx dx C F (nl (ha 0)) (nD (ha 0)) (ys.getD 0 0) Ay cy Dy dy L U (nl (Q 0)) (nD (Q 0)) _ _ a.g a.f.r.2.1 a.f.r.1 a.f.2.1 a.f.1) (fun _ _ a=>bU a (fun _ _ a=>tV 7 16 (iV (cZ (xs.getD 0 0) (ys.getD 0 0))) (tN (cQ (kZ (aa a ac ?_)))))));cases zf:((cZ (xs.getD 0 0) (ys.getD 0 0):Int) == (0:Int))
       .
        have yg:=aj zf;refine lB 98 zf (lL a ac (lN (bH [(0,iV op),(2,qS A b.length e),(3,qS D d.length u),(4,qT),(10,sZ),(11,iV 0),(12,nV (b.length-1)),(13,qS y x.length H),(16,iV (cZ (xs.getD 0 0) (ys.getD 0 0))),(96,qF)] ?_)));refine dD (aa a ac ?_);cases zg:(decide ((0:Int)<(cZ (xs.getD 0 0) (ys.getD 0 0):Int)))
        .
         have yi:=oF zg;refine lB 101 zg (lL a ac ?_);have zJ:((op:Int) == (12:Int))=true:=sO oM;have b3:=eq_of_beq zJ;exact lB 103 zJ (lL a [.v qF,.c] (ah (cK (aa a dl (ae a [] (.tuple #[qS D d.length u,iV 0]) (by obtain ⟨e1,e2⟩:=fc (op:=op) (n:=n) (xs:=xs) (ys:=ys) (fB oM oM) (o3 oM oM);rw[e1,e2,<-show _=dM op n xs ys from (wK (Y oM) oM oM)];exact ⟨_,_,d,rfl,hcD,a.f.q.q.2.1,a.f.q.q.1⟩))))))
        have yi:=oT zg;refine lB 101 zg (lL a ac ?_);have zK:((op:Int) == (12:Int))=true:=sO oM;have b2:=eq_of_beq zK;exact lB 103 zK (lL a [.v qT,.c] (am (aa a dl (ae a [] (.tuple #[qS A b.length e,iV 0]) (by obtain ⟨e1,e2⟩:=fc (op:=op) (n:=n) (xs:=xs) (ys:=ys) (fB oM oM) (o3 oM oM);rw[e1,e2,<-show _=dM op n xs ys from (wW o oM oM)];exact ⟨_,_,b,rfl,V,a.f.q.q.r.2.1,a.f.q.q.r.1⟩)))))
       have yg:=eq_of_beq zf;refine lB 98 zf (lL a ac (lN (bH [(0,iV op),(2,qS A b.length e),(3,qS D d.length u),(4,qT),(10,sZ),(11,iV 0),(12,nV (b.length-1)),(13,qS y x.length H),(16,iV (cZ (xs.getD 0 0) (ys.getD 0 0))),(96,qT)] ?_)));exact ct (aa a aD (ae a [] (.tuple #[sZ,iV 7]) (by obtain ⟨e1,e2⟩:=wR (op:=op) (n:=n) (xs:=xs) (ys:=ys) (fB oM oM) (Fk oM oM);rw[e1,e2];exact ⟨none,0,[],rfl,nR _,SlO.nil,RTs.nil⟩)))
      have yw:=eq_of_beq zu;refine lB 58 zu (lL a ac (am (cQ (aa a ac ?_))));cases zi:(decide ((n:Int)<(0:Int)))
      .
       have yj:=oF zi;refine lB 60 zi (lL a ac (lG 62 ?_));refine lG 63 (lG 64 (lG 65 (lG 66 (lL a [.v qF] (ah (cK (aa a aD (ag (aa a ac (aZ ?_))))))))));replace a:=a.aT (a.f.1);replace a:=a.aS a.f.r.1;refine bH _ (CG.loop (fun μ_ Γ w_=>∃ (k:Nat)(J:Z9)(I:Nat)(p:List RT)(h_:Hp),μ_=n.natAbs-k/\Γ=[(0,iV op),(1,iV n),(2,qS A b.length e),(4,qT),(10,sZ),(11,iV 0),(12,nV (b.length-1)),(13,qS y x.length H),(15,nV k),(14,qS J p.length I)]/\SS w h w_ h_ [] [] [Sr J p,Rt p (g5 xs k),Rt x ([((1:Int):Rat),((0:Int):Rat)]),Sr y x,S3 A5 (lim ((1:Int):Rat).den),S3 A1 (lim (ab ((1:Int):Rat).num)),Rt d ys,Sr D d,Rt b xs,Sr A b]/\k<=n.natAbs/\p.length<=I) _ ⟨0,y,H,x,YO,rfl,rfl,a.to _ _,My _,zU⟩ ?_);rintro _ _ _ ⟨k,J,I,p,_,cj,rfl,a,hk,hcp⟩;have M:op=8:=by omega
       have hn8:=hn M;have hlp:=(a.f.2.1).len;rw[fk] at hlp
       refine cQ (aa a dl (lI 72 (0-n) ?_));refine lV 73 (iV (max (n:Int) (0-n:Int))) ?_ (hr:=aK (n:=(if (0-n:Int)>(n:Int) then (0-n:Int) else (n:Int))) kR (by simp only[pQ]));cases zj:(decide ((k:Int)<(max (n:Int) (0-n:Int):Int)))
       .
        have yk:=oF zj;refine lB 74 zj (ah (CG.exit ?_))
        show CG _ _ _ _ _ _ _ _
        refine cQ (aa a ac ?_);cases zk:(decide ((n:Int)<(0:Int)))
        .
         have yl:=oF zk;refine lB 81 zk (ah (cK (aa a dl (lN (kX ?_)))));obtain rfl:op=8:=by omega
         exact a.ret [] (.tuple #[qS J p.length I,iV 0]) (by obtain ⟨e1,e2⟩:=fc (op:=8) (n:=n) (xs:=xs) (ys:=ys) (uH (fun h0=>absurd h0 oM)) (mP oM oM oM);rw[e1,e2,<-show _=dM 8 n xs ys from (xR (m:=k) oM oM)];exact ⟨_,_,p,rfl,hcp,a.f.1,a.f.2.1⟩)
        have yl:=oT zk;refine lB 81 zk (am (kQ (lL a aD ?_)));have bb:[((1:Int):Rat),((0:Int):Rat)].length=2:=rfl;have br:(g5 xs k).length=2:=(fk xs k);refine lC 84 a (i9 y H [((1:Int):Rat),((0:Int):Rat)] x J I (g5 xs k) p 1 (12*K+l+3) oM oM oM (mn (K:=1) oM (LQ.lit kD) (LQ.lit kD)) (kT W oM X (ha 1)) oM (by rw[i8];exact i7 (fG oM) k) _ _ a.g a.f.r.2.1 a.f.r.1 a.f.1 a.f.2.1) ?_;rintro _ _ _ a ⟨Yg,Yi,zL,rfl,yJ,yK,yL⟩;replace a:=((a.aS yK).aT yL);refine lL a ac (aG (lL a dl (lN (kX ?_))));obtain rfl:op=8:=by omega
        exact a.ret [] (.tuple #[qS Yg zL.length Yi,iV 0]) (by obtain ⟨e1,e2⟩:=fc (op:=8) (n:=n) (xs:=xs) (ys:=ys) (uH (fun h0=>fG oM)) (mP oM oM oM);rw[e1,e2,<-show _=dM 8 n xs ys from (BW (m:=k) oM oM (fG oM))];exact ⟨_,_,zL,rfl,yJ,a.f.2.1,a.f.1⟩)
       have yk:=oT zj;refine lB 74 zj (am (cK (cQ (kZ (kQ (lL a aD ?_))))));have b1:(g5 xs k).length=2:=(fk xs k);have bt:xs.length=2:=o;refine lC 79 a (lJ J I (g5 xs k) p A e xs b (12*K+l+3) l oM oM (kT W oM X (ha 1)) ha oM _ _ a.g a.f.1 a.f.2.1 a.f.q.q.2.1 a.f.q.q.1) ?_;rintro _ _ Yj a ⟨Yk,Yl,yM,rfl,yN,yO,yP⟩;replace a:=((a.aS yO).aT yP);refine lL a ac (lN (kQ (lL a ac (bp 76 ((k:Nat)+1) (k+1) ?_))));refine lL a ac (lD ?_);intro a_ ka;replace a:=((a.tl.tl.tl.tl.aT a.f.1).aS a.f.2.1);refine ⟨_,_,?_,⟨k+1,Yk,Yl,yM,Yj,rfl,rfl,a.to _ _,oM,yN⟩,ka.to _ kR⟩
       omega
      have yj:=oT zi;refine lB 60 zi (lL a aD (lX 63 A b.length e 3 0 0 ((a.f.q.r.2.1).ok oM) ?_));obtain ⟨Z,cx,Dx,dx,ex,C,F,B,z⟩:=(a.f.q.r.1).at_ 0 oM;replace a:=a.aP B z;refine HT 64 (rA (b.getD 0 gQ)) a ((a.f.q.q.2.1).el 0 oM) ex (aq 65 a (BV (xs.getD 0 0) Z cx Dx dx C F (nl (ha 0)) (nD (ha 0)) _ _ a.g a.f.2.1 a.f.1) (fun _ Ym a=>?_));cases zl:(((xs.getD 0 0).num.sign:Int) == (0:Int))
      .
       have ym:=aj zl;refine lB 66 zl (lL a [.v qF] (ah (cK (aa a aD (ag (aa a ac (aZ ?_)))))));replace a:=a.aT (a.f.r.1);replace a:=a.aS a.f.q.1;refine bH _ (CG.loop (fun μ_ Γ w_=>∃ (k:Nat)(J:Z9)(I:Nat)(p:List RT)(h_:Hp),μ_=n.natAbs-k/\Γ=[(0,iV op),(1,iV n),(2,qS A b.length e),(4,qT),(10,sZ),(11,iV 0),(12,nV (b.length-1)),(13,qS y x.length H),(15,nV k),(14,qS J p.length I)]/\SS w h w_ h_ [] [] [Sr J p,Rt p (g5 xs k),S3 Dx (lim (xs.getD 0 0).den),S3 Z (lim (ab (xs.getD 0 0).num)),Rt x ([((1:Int):Rat),((0:Int):Rat)]),Sr y x,S3 A5 (lim ((1:Int):Rat).den),S3 A1 (lim (ab ((1:Int):Rat).num)),Rt d ys,Sr D d,Rt b xs,Sr A b]/\k<=n.natAbs/\p.length<=I) _ ⟨0,y,H,x,Ym,rfl,rfl,a.to _ _,My _,zU⟩ ?_);rintro _ _ _ ⟨k,J,I,p,_,cm,rfl,a,hk,hcp⟩;have M:op=8:=by omega
       have hn8:=hn M;have hlp:=(a.f.2.1).len;rw[fk] at hlp
       refine cQ (aa a dl (lI 72 (0-n) ?_));refine lV 73 (iV (max (n:Int) (0-n:Int))) ?_ (hr:=aK (n:=(if (0-n:Int)>(n:Int) then (0-n:Int) else (n:Int))) kR (by simp only[pQ]));cases zm:(decide ((k:Int)<(max (n:Int) (0-n:Int):Int)))
       .
        have yn:=oF zm;refine lB 74 zm (ah (CG.exit ?_))
        show CG _ _ _ _ _ _ _ _
        refine cQ (aa a ac ?_);cases zn:(decide ((n:Int)<(0:Int)))
        .
         have yo:=oF zn;refine lB 81 zn (ah (cK (aa a dl (lN (kX ?_)))));obtain rfl:op=8:=by omega
         exact a.ret [] (.tuple #[qS J p.length I,iV 0]) (by obtain ⟨e1,e2⟩:=fc (op:=8) (n:=n) (xs:=xs) (ys:=ys) (uH (fun h0=>absurd h0 oM)) (mP oM oM oM);rw[e1,e2,<-show _=dM 8 n xs ys from (xR (m:=k) oM oM)];exact ⟨_,_,p,rfl,hcp,a.f.1,a.f.2.1⟩)
        have yo:=oT zn;refine lB 81 zn (am (kQ (lL a aD ?_)));have bx:[((1:Int):Rat),((0:Int):Rat)].length=2:=rfl;have b7:(g5 xs k).length=2:=(fk xs k);refine lC 84 a (i9 y H [((1:Int):Rat),((0:Int):Rat)] x J I (g5 xs k) p 1 (12*K+l+3) oM oM oM (mn (K:=1) oM (LQ.lit kD) (LQ.lit kD)) (kT W oM X (ha 1)) oM (by rw[i8];exact i7 (fG oM) k) _ _ a.g a.f.q.2.1 a.f.q.1 a.f.1 a.f.2.1) ?_;rintro _ _ _ a ⟨Yn,Yo,zM,rfl,yQ,yR,yS⟩;replace a:=((a.aS yR).aT yS);refine lL a ac (aG (lL a dl (lN (kX ?_))));obtain rfl:op=8:=by omega
        exact a.ret [] (.tuple #[qS Yn zM.length Yo,iV 0]) (by obtain ⟨e1,e2⟩:=fc (op:=8) (n:=n) (xs:=xs) (ys:=ys) (uH (fun h0=>fG oM)) (mP oM oM oM);rw[e1,e2,<-show _=dM 8 n xs ys from (BW (m:=k) oM oM (fG oM))];exact ⟨_,_,zM,rfl,yQ,a.f.2.1,a.f.1⟩)
       have yn:=oT zm;refine lB 74 zm (am (cK (cQ (kZ (kQ (lL a aD ?_))))));have cb:(g5 xs k).length=2:=(fk xs k);have bd:xs.length=2:=o;refine lC 79 a (lJ J I (g5 xs k) p A e xs b (12*K+l+3) l oM oM (kT W oM X (ha 1)) ha oM _ _ a.g a.f.1 a.f.2.1 a.f.q.q.r.2.1 a.f.q.q.r.1) ?_;rintro _ _ Yp a ⟨Yq,Yr,yT,rfl,yU,yV,yW⟩;replace a:=((a.aS yV).aT yW);refine lL a ac (lN (kQ (lL a ac (bp 76 ((k:Nat)+1) (k+1) ?_))));refine lL a ac (lD ?_);intro a_ ka;replace a:=((a.tl.tl.tl.tl.aT a.f.1).aS a.f.2.1);refine ⟨_,_,?_,⟨k+1,Yq,Yr,yT,Yp,rfl,rfl,a.to _ _,oM,yU⟩,ka.to _ kR⟩
       omega
      have ym:=eq_of_beq zl;exact lB 66 zl (lL a [.v qT] (am (aa a aD (ae a [] (.tuple #[sZ,iV 6]) (by obtain ⟨e1,e2⟩:=E3 (op:=op) (n:=n) (xs:=xs) (ys:=ys) (xp oM oM oM);rw[e1,e2];exact ⟨none,0,[],rfl,nR _,SlO.nil,RTs.nil⟩)))))
     have yv:=eq_of_beq zt;refine lB 48 zt (lL a ac (am (cQ (aa a ac (lX 50 D d.length u 3 0 0 ((a.f.q.2.1).ok oM) ?_)))));obtain ⟨Ay,cy,Dy,dy,ey,L,U,O,S⟩:=(a.f.q.1).at_ 0 oM;replace a:=a.aP O S;refine HT 51 (rA (d.getD 0 gQ)) a ((a.f.q.r.2.1).el 0 oM) ey (aq 52 a (BV (ys.getD 0 0) Ay cy Dy dy L U (nl (Q 0)) (nD (Q 0)) _ _ a.g a.f.2.1 a.f.1) (fun _ _ a=>?_));cases zo:(((ys.getD 0 0).num.sign:Int) == (0:Int))
     .
      have yp:=aj zo;refine lB 53 zo (ah (cK (aa a aD ?_)));have bf:xs.length=2:=o;have bn:ys.length=2:=(Y oM);refine lC 56 a (i9 A e xs b D u ys d l l oM oM oM ha Q oM (fG oM) _ _ a.g a.f.q.q.2.1 a.f.q.q.1 a.f.q.r.2.1 a.f.q.r.1) ?_;rintro _ _ _ a ⟨Ys,Yt,zN,rfl,yX,Za,Zb⟩;replace a:=((a.aS Za).aT Zb);refine lL a aD (lN (kX ?_));obtain rfl:op=6:=by omega
      exact a.ret [] (.tuple #[qS Ys zN.length Yt,iV 0]) (by obtain ⟨e1,e2⟩:=fc (op:=6) (n:=n) (xs:=xs) (ys:=ys) (IS (fG oM)) (mP oM oM oM);rw[e1,e2,<-show _=dM 6 n xs ys from (JJ o (fG oM))];exact ⟨_,_,zN,rfl,yX,a.f.2.1,a.f.1⟩)
     have yp:=eq_of_beq zo;exact lB 53 zo (am (aa a aD (ae a [] (.tuple #[sZ,iV 6]) (by obtain ⟨e1,e2⟩:=E3 (op:=op) (n:=n) (xs:=xs) (ys:=ys) (BH oM oM);rw[e1,e2];exact ⟨none,0,[],rfl,nR _,SlO.nil,RTs.nil⟩))))
    have yu:=eq_of_beq zs;refine lB 43 zs (lL a ac (am (aa a aD ?_)));have b5:xs.length=2:=o;have b0:ys.length=2:=(Y oM);refine lC 46 a (lJ A e xs b D u ys d l l oM oM ha Q oM _ _ a.g a.f.q.r.2.1 a.f.q.r.1 a.f.q.2.1 a.f.q.1) ?_;rintro _ _ _ a ⟨Yu,Yv,zP,rfl,Zc,Zd,Ze⟩;replace a:=((a.aS Zd).aT Ze);refine lL a aD (lN (kX ?_));obtain rfl:op=5:=by omega
    exact a.ret [] (.tuple #[qS Yu zP.length Yv,iV 0]) (by obtain ⟨e1,e2⟩:=fc (op:=5) (n:=n) (xs:=xs) (ys:=ys) (fB oM oM) (mP oM oM oM);rw[e1,e2,<-show _=dM 5 n xs ys from (I4 o)];exact ⟨_,_,zP,rfl,Zc,a.f.2.1,a.f.1⟩)
   have yt:=eq_of_beq zr;refine lB 38 zr (lL a ac (am (aa a ac (lC 40 a (oH (-1) oM oM _ _ a.g) ?_))));rintro _ _ _ a ⟨Yw,Yx,YA,YB,rfl,Zf,Zg,Zi,Zj⟩;replace a:=a.aP Zi Zj;have cd:xs.length=2:=o;refine lC 41 a (oJ A e xs b ((-1:Int):Rat) Yw Yx YA YB Zf Zg l 1 oM oM ha (LQ.lit kD) _ _ a.g a.f.q.q.2.1 a.f.q.q.1 a.f.2.1 a.f.1) ?_;rintro _ _ _ a ⟨YC,YD,zQ,rfl,Zk,Zl,Zm⟩;replace a:=((a.aS Zl).aT Zm);refine lL a aD (lN (kX ?_));obtain rfl:op=7:=by omega
   exact a.ret [] (.tuple #[qS YC zQ.length YD,iV 0]) (by obtain ⟨e1,e2⟩:=fc (op:=7) (n:=n) (xs:=xs) (ys:=ys) (fB oM oM) (mP oM oM oM);rw[e1,e2,<-show _=dM 7 n xs ys from (Jp o)];exact ⟨_,_,zQ,rfl,Zk,a.f.2.1,a.f.1⟩)
  have yr:=eq_of_beq zq;refine lB 31 zq (lL a ac (am (aa a aD (lC 34 a (oH (-1) oM oM _ _ a.g) ?_))));rintro _ _ _ a ⟨YE,YF,YG,YH,rfl,Zn,Zo,Zp,Zq⟩;replace a:=a.aP Zp Zq;have cv:ys.length=2:=(Y oM);refine lC 35 a (oJ D u ys d ((-1:Int):Rat) YE YF YG YH Zn Zo l 1 oM oM Q (LQ.lit kD) _ _ a.g a.f.q.r.2.1 a.f.q.r.1 a.f.2.1 a.f.1) ?_;rintro _ _ _ a ⟨YI,YJ,Zr,rfl,cf,Zs,Zt⟩;replace a:=((a.aS Zs).aT Zt);have b4:xs.length=2:=o;have bk:((ov ys.length).map fun i=>ys.getD i 0*((-1:Int):Rat)).length=2:=(by rw[NH,NI];exact (Y oM));refine lC 36 a (wH A e xs b YI YJ ((ov ys.length).map fun i=>ys.getD i 0*((-1:Int):Rat)) Zr l (l+1) oM oM ha (m7 (K:=l+1) oM fun i=>(Q i).mul (LQ.lit kD)) oM _ _ a.g a.f.q.q.r.2.1 a.f.q.q.r.1 a.f.2.1 a.f.1) ?_;rintro _ _ _ a ⟨YK,YL,zR,rfl,Zu,Zv,Zw⟩;replace a:=((a.aS Zv).aT Zw);refine lL a aD (lN (kX ?_));obtain rfl:op=4:=by omega
  exact a.ret [] (.tuple #[qS YK zR.length YL,iV 0]) (by obtain ⟨e1,e2⟩:=fc (op:=4) (n:=n) (xs:=xs) (ys:=ys) (fB oM oM) (mP oM oM oM);rw[e1,e2,<-show _=dM 4 n xs ys from (I1 o (Y oM))];exact ⟨_,_,zR,rfl,Zu,a.f.2.1,a.f.1⟩)
 have yq:=eq_of_beq zp;refine lB 26 zp (lL a ac (am (aa a aD ?_)));have bz:xs.length=2:=o;have bm:ys.length=2:=(Y oM);refine lC 29 a (wH A e xs b D u ys d l l oM oM ha Q oM _ _ a.g a.f.q.r.2.1 a.f.q.r.1 a.f.q.2.1 a.f.q.1) ?_;rintro _ _ _ a ⟨YM,YN,zS,rfl,Zx,ZA,ZB⟩;replace a:=((a.aS ZA).aT ZB);refine lL a aD (lN (kX ?_));obtain rfl:op=3:=by omega
 exact a.ret [] (.tuple #[qS YM zS.length YN,iV 0]) (by obtain ⟨e1,e2⟩:=fc (op:=3) (n:=n) (xs:=xs) (ys:=ys) (fB oM oM) (mP oM oM oM);rw[e1,e2,<-show _=dM 3 n xs ys from (JG o)];exact ⟨_,_,zS,rfl,Zx,a.f.2.1,a.f.1⟩)
def tr (nm:Int->ByteArray)(l:List Stp)(i:Nat):Tm:=HV nm l (l.length+1) i
structure DpS (dp:Nat->Nat) (l:List Stp):Prop where
  one:∀ k,k<l.length->1<=dp k
  le:∀ k,k<l.length->dp k<=20
  a:∀ k,k<l.length->0<fu (l.getD k fe).op->dp (l.getD k fe).a.toNat<dp k
  b:∀ k,k<l.length->1<fu (l.getD k fe).op->dp (l.getD k fe).b.toNat<dp k
def eF:Nat->Tm->Nat
  | 0,_=>0
  | d+1,t=>1+dU (fun i=>eF d (t.ks.getD i cY)) t.ks.length
def fH:Nat->Tm->ByteArray->Prop
  | 0,_,_=>False
  | d+1,t,s=>(t.op=2/\s=t.s)\/∃ i,i<t.ks.length/\fH d (t.ks.getD i cY) s
def HasK (d:Nat)(ks:List Tm)(k:Nat)(s:ByteArray):Prop:=∃ i,i<k/\fH d (ks.getD i cY) s
theorem HasK.zero {d:Nat}{ks:List Tm}{s:ByteArray}:¬HasK d ks 0 s:=fun ⟨i,h,_⟩=>absurd h (NN i)
theorem HasK.succ {d:Nat}{ks:List Tm}{k:Nat}{s:ByteArray}:HasK d ks (k+1) s↔HasK d ks k s\/fH d (ks.getD k cY) s:=by
 constructor
 ·rintro ⟨i,hi,h⟩
  by_cases e:i=k
  ·subst e;exact .inr h
  ·exact .inl ⟨i,by omega,h⟩
 ·rintro (⟨i,hi,h⟩|h)
  ·exact ⟨i,by omega,h⟩
  ·exact ⟨k,by omega,h⟩
theorem WfT1.names {ok p:ByteArray->Prop}:∀ {d:Nat} {t:Tm},WfT1 ok d t->(∀ s,fH d t s->p s)->WfT1 (fun s=>ok s/\p s) d t
 | d+1,t,⟨h1,h2,h3,h4,h5,h6,h7,h8,h9⟩,h=>⟨h1,h2,h3,fun e=>⟨h4 e,h _ (.inl ⟨e,rfl⟩)⟩,h5,h6,h7,h8,fun i hi=>WfT1.names (h9 i hi) (fun s a=>h s (.inr ⟨i,hi,a⟩))⟩
theorem rQ {ok:ByteArray->Prop}:∀ {d:Nat} {t:Tm} {s:ByteArray},WfT1 ok d t->fH d t s->ok s
 | d+1,t,s,w,.inl ⟨h1,h2⟩=>by rw[h2];exact w.2.2.2.1 h1
 | d+1,t,s,w,.inr ⟨i,hi,h⟩=>rQ (w.2.2.2.2.2.2.2.2 i hi) h
theorem WfT1.imp {ok p:ByteArray->Prop}(f:∀ s,ok s->p s):∀ {d:Nat} {t:Tm},WfT1 ok d t->WfT1 p d t
 | d+1,t,⟨h1,h2,h3,h4,h5,h6,h7,h8,h9⟩=>⟨h1,h2,h3,fun e=>f _ (h4 e),h5,h6,h7,h8,fun i hi=>WfT1.imp f (h9 i hi)⟩
theorem WfT1.two {ok:ByteArray->Prop}{d:Nat}{t:Tm}(h:WfT1 ok (d+1) t):t.ks.length<=2:=by
 have:=h.1;have:=aE t.op
 omega
theorem uh {f:Nat->Nat}{b:Nat}:∀ n,(∀ i,i<n->f i<=b)->dU f n<=n*b
  | 0,_=>by simp[dU]
  | n+1,h=>by
    have h1:=uh n (fun i hi=>h i oM);have a:=h n (Nat.lt_succ_self n)
    show dU f n+f n<=_
    rw[Nat.succ_mul];omega
theorem sP {ok:ByteArray->Prop}:∀ {d:Nat} {t:Tm},WfT1 ok d t->eF d t+1<=2^d
  | d+1,t,w=>by
    have a:=w.two;have e:=uh (f:=fun i=>eF d (t.ks.getD i cY)) (b:=2^d-1) t.ks.length (fun i hi=>by have:=sP (w.2.2.2.2.2.2.2.2 i hi);show eF d _<=_;omega);have c:0<2^d:=Nat.two_pow_pos d;have h:t.ks.length*(2^d-1)<=2*(2^d-1):=y9 _ a
    show 1+dU _ _+1<=2^(d+1)
    rw[Nat.pow_succ];omega
structure RecOk (nm:Int->ByteArray) (inp:Int) (d:Nat) (l:List Stp) (l2:List Stp) (n:Nat) (t:Tm):Prop where
  lq:(∀ i,LQ 1 (l.getD i fe).q)->∀ i,LQ 1 (l2.getD i fe).q
  dps:∀ dp,DpS dp l->∃ dp',DpS dp' l2/\(∀ k,k<l.length->dp' k=dp k)/\dp' (l2.length-1)<=d
  pre:∃ m,l2=l++m
  len:l2.length=l.length+n
  pos:0<n
  fm:∀ k,k<l2.length->pg inp k (l2.getD k fe)
  tr:∀ f,l2.length<=f->HV nm l2 f (l2.length-1)=t
structure AllOk (nm:Int->ByteArray) (inp:Int) (d:Nat) (ts:List Tm) (k:Nat) (l:List Stp) (os:List Int) (c:Nat):Prop where
  len:l.length=c
  fm:∀ k,k<l.length->pg inp k (l.getD k fe)
  lq:∀ i,LQ 1 (l.getD i fe).q
  dps:∃ dp,DpS dp l
  out:∀ j,j<k->0<=os.getD j 0/\os.getD j 0<(l.length:Nat)/\HV nm l (l.length+1) (os.getD j 0).toNat=ts.getD j cY
theorem Iq {l:List ByteArray}{k:Nat}{s:ByteArray}(h:k<l.length)(e:l.getD k ⟨#[]⟩=s):s∈l:=by
 rw[<-e,LM,NO h];exact gp h
theorem Kb {l:List ByteArray}{s:ByteArray}(h:s∈l):∃ i,i<l.length/\l.getD i ⟨#[]⟩=s:=by
 obtain ⟨i,hi,e⟩:=List.mem_iff_getElem.1 h;exact ⟨i,hi,by rw[LM,NO hi];exact e⟩
theorem WfT.two {ok:ByteArray->Prop}{d:Nat}{t:Tm}(h:WfT ok (d+1) t):t.ks.length<=2:=by
 have:=h.1;have:=aE t.op
 omega
theorem x4 (b:Bool)(f:Z9)(i o:Nat)(a:Z9)(l j:Nat)(q:Rat)(w:World)(h:Hp)(g:G w h)(u:RZ h (b,.slice f i o,.slice a l j) q):Calls Tryz.prog 106 #[.agg #[.bool b,.slice f i o,.slice a l j]] w (Ret w h (fun v _=>v=.bool (decide (q.num=0)))):=by
 obtain ⟨has,⟨A,c,D,d,e,z,y,B,x⟩,hz⟩:=u;have e2:(Value.agg #[.bool b,qS f i o,qS a l j])=.agg #[.bool (af q.num),qS A (lim (ab q.num)).length c,qS D (lim (if has then q.den else 0)).length d]:=e;rw[e2];have p:=E8 q.num A c (if has then q.den else 0) D d z y w h g B x
 have C:decide ((if has=true then q.den else 0)=0\/q.num=0)=decide (q.num=0):=by
  cases has
  ·rw[decide_eq_true (.inl rfl),decide_eq_true];rw[hz rfl];rfl
  ·have:=q.den_nz
   by_cases e:q.num=0
   ·rw[decide_eq_true (.inr e),decide_eq_true e]
   ·rw[decide_eq_false (fun h=>h.elim this e),decide_eq_false e]
 rw[C] at p
 exact p
theorem te {op n:Int}{s:Nat}(h0:op≠8->n=0)(h1 : -12<=n)(b:n<=12):min (fv op n ((min s 1073741824:Nat):Int)) 1073741824=((min (dL op n*s) 1073741824:Nat):Int):=by
  unfold fv dL bG
  by_cases e11:op=11
  . rw[if_pos e11,if_pos e11];omega
  . rw[if_neg e11,if_neg e11]
    by_cases e8:op=8/\n≠0
    . rw[if_pos e8,if_pos e8.1]
      have e:(if n<0 then 0-n else n)=((if n.natAbs<=1 then 1 else n.natAbs:Nat):Int):=by have:=e8.2;split<;>split<;>omega
      rw[e]
      generalize hm:(if n.natAbs<=1 then 1 else n.natAbs)=m
      have a:1<=m:=by rw[<-hm];split<;>omega
      rw[<-Int.natCast_mul,HA]
      rcases MO s 1073741824 with h|h
      . rw[Lv h];omega
      . rw[LY h]
        have d:=MS 1073741824 a;have c:=ep h (MS s a)
        omega
    . rw[if_neg e8]
      by_cases e9:op=8
      . rw[if_pos e9]
        have:n=0:=by by_cases z:n=0;exact z;exact absurd ⟨e9,z⟩ e8
        rw[this,if_pos kD];omega
      . rw[if_neg e9];omega
theorem AK  (sm:ByteArray->Prop)(d:Nat)(X:∀ (r:RTm) (t:Tm) (w:World) (h:Hp),G w h->RmH d h r t->nW sm d t->d<=1000->Calls Tryz.prog 58 #[bK r] w (Ret w h (fun v _=>∃ m:Int,v=iV m/\1<=m/\m<=(d:Nat))))(op n:Int)(u:Bool)(x:Z9)(y B:Nat)(p:Z9)(C z:Nat)(q:Rat)(s:ByteArray)(A:Z9)(c:Nat)(b:List RTm)(ks:List Tm)(hc:b.length<=c)(Z:ks.length<=3)(L : -1000<=op/\op<=1000)(hn : -1000<=n/\n<=1000)(hq:LQ 3000 q)(hsm:sm s)(O:∀ i,i<ks.length->nW sm d (ks.getD i cY))(hd:d+1<=1000)(w:World)(h:Hp)(g:G w h)(M:RZ h (u,.slice x y B,.slice p C z) q)(U:SlO 7 bF bV h A b)(H:Rms d h b ks):CR 58 #[bK ⟨op,n,u,x,y,B,p,C,z,s,A,b.length,c⟩] w h (fun v _=>∃ m:Int,v=iV m/\1<=m/\m<=(d+1:Nat)):=by
 have a:=((((sS g).add (K:=fun e=>RZ e (u,qS x y B,qS p C z) q) M).aS U).add (K:=fun e=>Rms d e b ks) H);have W:=(a.f.1).len;refine go Tryz.func58 [(0,bK ⟨op,n,u,x,y,B,p,C,z,s,A,b.length,c⟩)] rfl (ax (lA 1 31 (bF ⟨op,n,u,x,y,B,p,C,z,s,A,b.length,c⟩) a (fun F w2 S a=>lL a ac (aG (lL a ac (ag (aa a ac (aZ ?_))))))));refine bH _ (CG.loop (fun I Γ J=>∃ (k:Nat)(j:Int)(e:Hp),I=b.length-k/\Γ=[(1,pB F),(2,iV 0),(4,nV k),(3,iV j)]/\SS w h J e [⟨F,31,bF ⟨op,n,u,x,y,B,p,C,z,s,A,b.length,c⟩⟩] [] [fun e=>Rms d e b ks,fun e=>SlO 7 bF bV e A b,fun e=>RZ e (u,qS x y B,qS p C z) q]/\k<=b.length/\0<=j/\j<=(d:Int)) _ ⟨0,0,S,rfl,rfl,a.to _ _,My _,⟨by omega,by omega⟩⟩ ?_);rintro _ _ w4 ⟨k,j,h5,V,rfl,a,hk,Q⟩;refine cQ (aa a [.c,.v (qP F 6),.o (qS A b.length c) 0 6 1,.v (nV b.length)] ?_);cases l:(decide ((k:Int)<(b.length:Int)))
 .
  have D:=oF l;refine lB 9 l (ah (CG.exit ?_))
  show CG _ _ _ _ _ _ _ _
  refine aa a ac (lI 21 (j+1) ?_);exact lL a ac (ae a [] (iV (j+1)) (⟨_,rfl,by omega,by omega⟩))
 have D:=oT l;refine lB 9 l (am (cK (cQ (kZ (kQ (lL a [.c,.v (qP F 6),.o (qS A b.length c) 0 6 1,.c] (lX 16 A b.length c 7 (k:Nat) k ((a.f.2.1).ok oM) ?_)))))));refine lH 17 (bK (b.getD k bV)) a ((a.f.2.1).el k oM) (lC 18 a (X (b.getD k bV) (ks.getD k cY) _ _ a.g ((a.f.1).at_ k oM) (O k oM) oM) ?_);rintro _ w8 h9 a ⟨mk,rfl,hm1,Y⟩;refine lV 19 (iV (max (j:Int) (mk:Int))) ?_ (hr:=aK (n:=(if (mk:Int)>(j:Int) then (mk:Int) else (j:Int))) kR (by simp only[pQ]));refine lL a ac (lN (kQ (lL a ac (bp 11 ((k:Nat)+1) (k+1) ?_))));refine lL a ac (lD ?_);intro a_ ka;refine ⟨_,_,?_,⟨k+1,max (j:Int) (mk:Int),h9,rfl,rfl,a.to _ _,oM,⟨by omega,by omega⟩⟩,ka.to _ kR⟩
 omega
theorem uq (sm:ByteArray->Prop):∀ (d:Nat) (r:RTm) (t:Tm) (w:World) (h:Hp),G w h->RmH d h r t->nW sm d t->d<=1000->Calls Tryz.prog 58 #[bK r] w (Ret w h (fun v _=>∃ m:Int,v=iV m/\1<=m/\m<=(d:Nat)))
  | 0,_,_,_,_,_,x,_,_=>x.elim
  | d+1,r,t,w,h,g,x,wf,hd=>by
    obtain ⟨op,n,b,u,y,F,l,H,B,q,s,A,c,j,ks,rfl,rfl,f,z,o,a⟩:=x.open;obtain ⟨C,e,I,D,i,p⟩:=wf;exact AK sm d (fun r t w h=>uq sm d r t w h) op n b u y F l H B q s A c j ks z C e I D i p hd w h g f o a
theorem wS  (isb:ByteArray->Bool)(sm:ByteArray->Prop)(nx:∀ s,sm s->∀ (w:World) (h:Hp),G w h->Calls Tryz.prog 62 #[.string s] w (Ret w h (fun v _=>∃ b,v=.bool b/\b=isb s)))(d:Nat)(ih:∀ (r:RTm) (t:Tm) (w:World) (h:Hp),G w h->RmH d h r t->nW sm d t ->  Calls Tryz.prog 59 #[bK r] w (Ret w h (fun v _=>∃ bb,v=.bool bb/\(bb=true↔WfT (fun s=>isb s=true) d t))))(op n:Int)(J:Bool)(L:Z9)(D I:Nat)(M:Z9)(F H:Nat)(q:Rat)(s:ByteArray)(A:Z9)(c:Nat)(x:List RTm)(ks:List Tm)(hc:x.length<=c)(hk3:ks.length<=3)(hop : -1000<=op/\op<=1000)(hn : -1000<=n/\n<=1000)(hq:LQ 3000 q)(hsm:sm s)(hW:∀ i,i<ks.length->nW sm d (ks.getD i cY))(w:World)(h:Hp)(g:G w h)(hZ:RZ h (J,.slice L D I,.slice M F H) q)(hK:SlO 7 bF bV h A x)(hKs:Rms d h x ks):CR 59 #[bK ⟨op,n,J,L,D,I,M,F,H,s,A,x.length,c⟩] w h (fun v _=>∃ bb,v=.bool bb/\(bb=true↔WfT (fun s=>isb s=true) (d+1) (.mk op n q s ks))):=by
 have a:=((((sS g).add (K:=fun e=>RZ e (J,qS L D I,qS M F H) q) hZ).aS hK).add (K:=fun e=>Rms d e x ks) hKs);have hln:=(a.f.1).len;refine go Tryz.func59 [(0,bK ⟨op,n,J,L,D,I,M,F,H,s,A,x.length,c⟩)] rfl (ax (lA 1 31 (bF ⟨op,n,J,L,D,I,M,F,H,s,A,x.length,c⟩) a (fun j w2 h3 a=>lL a ac (aG (lL a [.v (pB j),.o (iV op) 0 0 1] (aq 7 a (IK op _ _ a.g) (fun w4 h5 a=>?_)))))));refine lL a ac (ag (CG.join (fun Γ w_=>∃ (Y:Bool)(e:Hp),Γ=[(1,pB j),(2,qF),(68,.bool Y)]/\SS w h w_ e [⟨j,31,bF ⟨op,n,J,L,D,I,M,F,H,s,A,x.length,c⟩⟩] [] [fun e=>Rms d e x ks,fun e=>SlO 7 bF bV e A x,fun e=>RZ e (J,qS L D I,qS M F H) q]/\(Y=true->¬((0<=fu op/\(ks.length:Int)=fu op)/\((op=2->isb s=true)/\(op≠2->s=⟨#[]⟩))/\(op=1\/q.num=0)/\(op=8\/n=0) /\ -12<=n/\n<=12))/\(Y=false->((0<=fu op/\(ks.length:Int)=fu op)/\((op=2->isb s=true)/\(op≠2->s=⟨#[]⟩))/\(op=1\/q.num=0)/\(op=8\/n=0) /\ -12<=n/\n<=12))) ?_ ?_))
 .
  refine kQ (lL a ac ?_);cases S:(decide ((fu op:Int)<(0:Int)))
  .
   have X:=oF S;refine lB 9 S (lL a [.c,.v (qP j 6),.o (qS A x.length c) 0 6 1,.v (nV x.length),.c] ?_);cases Q:((x.length:Int) != (fu op:Int))
   .
    have bd:=aJ Q;refine lB 15 Q (lL a [.v qF,.c,.v (pB j),.o (iV op) 0 0 1] ?_);cases O:((op:Int) == (2:Int))
    .
     have V:=aj O;refine lB 20 O (lL a ac (lG 22 ?_));refine lG 23 (lG 24 (lG 25 (lL a [.v qF,.v qF,.c,.v (pB j),.o (iV op) 0 0 1] ?_)));have Z:((op:Int) != (2:Int))=true:=BA oM;have b5:=aI Z;refine lB 31 Z (lL a [.c,.v (qP j 5),.o (.string s) 0 5 1] ?_);cases zb:(lU s (⟨#[]⟩))
     .
      have zw:=o6 zb;refine lB 35 zb (lL a [.v qF,.v qF,.c,.v (pB j),.o (iV op) 0 0 1] ?_);cases zd:((op:Int) != (1:Int))
      .
       have zx:=aJ zd;refine lB 41 zd (lL a ac (lG 43 ?_));refine lG 44 (lG 45 (lG 46 (lL a [.v qF,.v qF,.c,.v (pB j),.o (iV op) 0 0 1] ?_)));have zp:((op:Int) != (8:Int))=true:=BA oM;have bm:=aI zp;refine lB 52 zp (lL a [.c,.v (qP j 1),.o (iV n) 0 1 1] ?_);cases ze:((n:Int) != (0:Int))
       .
        have zB:=aJ ze;refine lB 56 ze (lL a [.v qF,.v qF,.c,.v (qP j 1),.o (iV n) 0 1 1] ?_);have ⟨zM,bf⟩:=dF (p:=(n:Int)<(-12:Int)) oM;refine lB 62 zM (lL a [.v qF,.c,.v (qP j 1),.o (iV n) 0 1 1] ?_);have ⟨zN,b2⟩:=dF (p:=(12:Int)<(n:Int)) oM;refine lB 67 zN (lL a [.v qF] (lD ?_));intro B u;exact ⟨_,⟨false,h5,rfl,a.to _ _,(fun e=>absurd e kD),(fun _=>⟨by omega,⟨fun e=>by first|exact l.symm.trans aM|exact absurd e oM,fun e=>by first|assumption|exact absurd e oM⟩,by omega,by omega⟩)⟩,u.to _ kR⟩
       have zB:=aI ze;refine lB 56 ze (lL a [.v qT,.v qT,.c] (lG 60 ?_));refine lG 61 (lG 62 (lL a [.v qT,.c] (lG 65 ?_)));refine lG 66 (lG 67 (lL a [.v qT] (lD ?_)));intro B u;exact ⟨_,⟨true,h5,rfl,a.to _ _,(fun _ e=>by first|exact NS ((e.2.1.1 oM).symm.trans (l.symm.trans aM))|exact absurd (e.2.1.2 oM) aM|(have y:=e.1;have z:=e.2.2;omega)),(fun e=>absurd e kD)⟩,u.to _ kR⟩
      have zx:=aI zd;refine lB 41 zd (lL a [.c,.v (qP j 2),.o (.agg #[.bool J,qS L D I,qS M F H]) 0 2 3] (aq 45 a (x4 J L D I M F H q _ _ a.g a.f.r.1) (fun _ U a=>?_)));cases zq:(decide (q.num=0))
      .
       have zD:=oF zq;refine lL a [.v qT,.v qT,.v qT,.c] (lG 50 ?_);refine lG 51 (lG 52 (lG 53 (lG 54 (lG 55 (lG 56 (lG 57 (lL a [.v qT,.c] (lG 60 ?_))))))));refine lG 61 (lG 62 (lL a [.v qT,.c] (lG 65 ?_)));refine lG 66 (lG 67 (lL a [.v qT] (lD ?_)));intro B u;exact ⟨_,⟨true,U,rfl,a.to _ _,(fun _ e=>by first|exact NS ((e.2.1.1 oM).symm.trans (l.symm.trans aM))|exact absurd (e.2.1.2 oM) aM|(have y:=e.1;have z:=e.2.2;omega)),(fun e=>absurd e kD)⟩,u.to _ kR⟩
      have zD:=oT zq;refine lL a [.v qF,.v qF,.v qF,.c,.v (pB j),.o (iV op) 0 0 1] ?_;cases zf:((op:Int) != (8:Int))
      .
       have zE:=aJ zf;refine lB 52 zf (lL a ac (lG 54 ?_));refine lG 55 (lG 56 (lL a [.v qF,.v qF,.c,.v (qP j 1),.o (iV n) 0 1 1] ?_));cases zg:(decide ((n:Int)<(-12:Int)))
       .
        have zG:=oF zg;refine lB 62 zg (lL a [.v qF,.c,.v (qP j 1),.o (iV n) 0 1 1] ?_);cases zi:(decide ((12:Int)<(n:Int)))
        .
         have zH:=oF zi;refine lB 67 zi (lL a [.v qF] (lD ?_));intro B u;exact ⟨_,⟨false,U,rfl,a.to _ _,(fun e=>absurd e kD),(fun _=>⟨by omega,⟨fun e=>by first|exact l.symm.trans aM|exact absurd e oM,fun e=>by first|assumption|exact absurd e oM⟩,by omega,by omega⟩)⟩,u.to _ kR⟩
        have zH:=oT zi;refine lB 67 zi (lL a [.v qT] (lD ?_));intro B u;exact ⟨_,⟨true,U,rfl,a.to _ _,(fun _ e=>by first|exact NS ((e.2.1.1 oM).symm.trans (l.symm.trans aM))|exact absurd (e.2.1.2 oM) aM|(have y:=e.1;have z:=e.2.2;omega)),(fun e=>absurd e kD)⟩,u.to _ kR⟩
       have zG:=oT zg;refine lB 62 zg (lL a [.v qT,.c] (lG 65 ?_));refine lG 66 (lG 67 (lL a [.v qT] (lD ?_)));intro B u;exact ⟨_,⟨true,U,rfl,a.to _ _,(fun _ e=>by first|exact NS ((e.2.1.1 oM).symm.trans (l.symm.trans aM))|exact absurd (e.2.1.2 oM) aM|(have y:=e.1;have z:=e.2.2;omega)),(fun e=>absurd e kD)⟩,u.to _ kR⟩
      have zE:=aI zf;refine lB 52 zf (lL a [.c,.v (qP j 1),.o (iV n) 0 1 1] ?_);cases zj:((n:Int) != (0:Int))
      .
       have zI:=aJ zj;refine lB 56 zj (lL a [.v qF,.v qF,.c,.v (qP j 1),.o (iV n) 0 1 1] ?_);have ⟨zP,bx⟩:=dF (p:=(n:Int)<(-12:Int)) oM;refine lB 62 zP (lL a [.v qF,.c,.v (qP j 1),.o (iV n) 0 1 1] ?_);have ⟨zQ,bl⟩:=dF (p:=(12:Int)<(n:Int)) oM;refine lB 67 zQ (lL a [.v qF] (lD ?_));intro B u;exact ⟨_,⟨false,U,rfl,a.to _ _,(fun e=>absurd e kD),(fun _=>⟨by omega,⟨fun e=>by first|exact l.symm.trans aM|exact absurd e oM,fun e=>by first|assumption|exact absurd e oM⟩,by omega,by omega⟩)⟩,u.to _ kR⟩
      have zI:=aI zj;refine lB 56 zj (lL a [.v qT,.v qT,.c] (lG 60 ?_));refine lG 61 (lG 62 (lL a [.v qT,.c] (lG 65 ?_)));refine lG 66 (lG 67 (lL a [.v qT] (lD ?_)));intro B u;exact ⟨_,⟨true,U,rfl,a.to _ _,(fun _ e=>by first|exact NS ((e.2.1.1 oM).symm.trans (l.symm.trans aM))|exact absurd (e.2.1.2 oM) aM|(have y:=e.1;have z:=e.2.2;omega)),(fun e=>absurd e kD)⟩,u.to _ kR⟩
     have zw:=pj zb;refine lB 35 zb (lL a [.v qT,.v qT,.c] (lG 39 ?_));refine lG 40 (lG 41 (lG 42 (lG 43 (lG 44 (lG 45 (lG 46 (lG 47 (lL a [.v qT,.c] (lG 50 ?_)))))))));refine lG 51 (lG 52 (lG 53 (lG 54 (lG 55 (lG 56 (lG 57 (lL a [.v qT,.c] (lG 60 ?_))))))));refine lG 61 (lG 62 (lL a [.v qT,.c] (lG 65 ?_)));refine lG 66 (lG 67 (lL a [.v qT] (lD ?_)));intro B u;exact ⟨_,⟨true,h5,rfl,a.to _ _,(fun _ e=>by first|exact NS ((e.2.1.1 oM).symm.trans (l.symm.trans aM))|exact absurd (e.2.1.2 oM) aM|(have y:=e.1;have z:=e.2.2;omega)),(fun e=>absurd e kD)⟩,u.to _ kR⟩
    have V:=eq_of_beq O;refine lB 20 O (lL a [.c,.v (qP j 5),.o (.string s) 0 5 1] (lC 24 a (nx s hsm _ _ a.g) ?_));rintro _ _ zW a ⟨bi,rfl,l⟩;cases b3:(bi)
    .
     refine lL a [.v qT,.v qT,.v qT,.c] (lG 29 ?_);refine lG 30 (lG 31 (lG 32 (lG 33 (lG 34 (lG 35 (lG 36 (lL a [.v qT,.c] (lG 39 ?_))))))));refine lG 40 (lG 41 (lG 42 (lG 43 (lG 44 (lG 45 (lG 46 (lG 47 (lL a [.v qT,.c] (lG 50 ?_)))))))));refine lG 51 (lG 52 (lG 53 (lG 54 (lG 55 (lG 56 (lG 57 (lL a [.v qT,.c] (lG 60 ?_))))))));refine lG 61 (lG 62 (lL a [.v qT,.c] (lG 65 ?_)));refine lG 66 (lG 67 (lL a [.v qT] (lD ?_)));intro B u;exact ⟨_,⟨true,zW,rfl,a.to _ _,(fun _ e=>by first|exact NS ((e.2.1.1 oM).symm.trans (l.symm.trans aM))|exact absurd (e.2.1.2 oM) aM|(have y:=e.1;have z:=e.2.2;omega)),(fun e=>absurd e kD)⟩,u.to _ kR⟩
    refine lL a [.v qF,.v qF,.v qF,.c,.v (pB j),.o (iV op) 0 0 1] ?_;have zr:((op:Int) != (2:Int))=false:=Eo oM;have b0:=aJ zr;refine lB 31 zr (lL a ac (lG 33 ?_));refine lG 34 (lG 35 (lL a [.v qF,.v qF,.c,.v (pB j),.o (iV op) 0 0 1] ?_));have zs:((op:Int) != (1:Int))=true:=BA oM;have bn:=aI zs;refine lB 41 zs (lL a [.c,.v (qP j 2),.o (.agg #[.bool J,qS L D I,qS M F H]) 0 2 3] (aq 45 a (x4 J L D I M F H q _ _ a.g a.f.r.1) (fun _ zt a=>?_)));cases zu:(decide (q.num=0))
    .
     have zJ:=oF zu;refine lL a [.v qT,.v qT,.v qT,.c] (lG 50 ?_);refine lG 51 (lG 52 (lG 53 (lG 54 (lG 55 (lG 56 (lG 57 (lL a [.v qT,.c] (lG 60 ?_))))))));refine lG 61 (lG 62 (lL a [.v qT,.c] (lG 65 ?_)));refine lG 66 (lG 67 (lL a [.v qT] (lD ?_)));intro B u;exact ⟨_,⟨true,zt,rfl,a.to _ _,(fun _ e=>by first|exact NS ((e.2.1.1 oM).symm.trans (l.symm.trans aM))|exact absurd (e.2.1.2 oM) aM|(have y:=e.1;have z:=e.2.2;omega)),(fun e=>absurd e kD)⟩,u.to _ kR⟩
    have zJ:=oT zu;refine lL a [.v qF,.v qF,.v qF,.c,.v (pB j),.o (iV op) 0 0 1] ?_;have zv:((op:Int) != (8:Int))=true:=BA oM;have bz:=aI zv;refine lB 52 zv (lL a [.c,.v (qP j 1),.o (iV n) 0 1 1] ?_);cases zk:((n:Int) != (0:Int))
    .
     have zK:=aJ zk;refine lB 56 zk (lL a [.v qF,.v qF,.c,.v (qP j 1),.o (iV n) 0 1 1] ?_);have ⟨zR,br⟩:=dF (p:=(n:Int)<(-12:Int)) oM;refine lB 62 zR (lL a [.v qF,.c,.v (qP j 1),.o (iV n) 0 1 1] ?_);have ⟨zS,bt⟩:=dF (p:=(12:Int)<(n:Int)) oM;refine lB 67 zS (lL a [.v qF] (lD ?_));intro B u;exact ⟨_,⟨false,zt,rfl,a.to _ _,(fun e=>absurd e kD),(fun _=>⟨by omega,⟨fun e=>by first|exact l.symm.trans aM|exact absurd e oM,fun e=>by first|assumption|exact absurd e oM⟩,by omega,by omega⟩)⟩,u.to _ kR⟩
    have zK:=aI zk;refine lB 56 zk (lL a [.v qT,.v qT,.c] (lG 60 ?_));refine lG 61 (lG 62 (lL a [.v qT,.c] (lG 65 ?_)));refine lG 66 (lG 67 (lL a [.v qT] (lD ?_)));intro B u;exact ⟨_,⟨true,zt,rfl,a.to _ _,(fun _ e=>by first|exact NS ((e.2.1.1 oM).symm.trans (l.symm.trans aM))|exact absurd (e.2.1.2 oM) aM|(have y:=e.1;have z:=e.2.2;omega)),(fun e=>absurd e kD)⟩,u.to _ kR⟩
   have bd:=aI Q;refine lB 15 Q (lL a [.v qT,.c] (lG 18 ?_));refine lG 19 (lG 20 (lG 21 (lG 22 (lG 23 (lG 24 (lG 25 (lG 26 (lL a [.v qT,.c] (lG 29 ?_)))))))));refine lG 30 (lG 31 (lG 32 (lG 33 (lG 34 (lG 35 (lG 36 (lL a [.v qT,.c] (lG 39 ?_))))))));refine lG 40 (lG 41 (lG 42 (lG 43 (lG 44 (lG 45 (lG 46 (lG 47 (lL a [.v qT,.c] (lG 50 ?_)))))))));refine lG 51 (lG 52 (lG 53 (lG 54 (lG 55 (lG 56 (lG 57 (lL a [.v qT,.c] (lG 60 ?_))))))));refine lG 61 (lG 62 (lL a [.v qT,.c] (lG 65 ?_)));refine lG 66 (lG 67 (lL a [.v qT] (lD ?_)));intro B u;exact ⟨_,⟨true,h5,rfl,a.to _ _,(fun _ e=>by first|exact NS ((e.2.1.1 oM).symm.trans (l.symm.trans aM))|exact absurd (e.2.1.2 oM) aM|(have y:=e.1;have z:=e.2.2;omega)),(fun e=>absurd e kD)⟩,u.to _ kR⟩
  have X:=oT S;refine lB 9 S (lL a ac (lG 11 ?_));refine lG 12 (lG 13 (lG 14 (lG 15 (lL a [.v qT,.c] (lG 18 ?_)))));refine lG 19 (lG 20 (lG 21 (lG 22 (lG 23 (lG 24 (lG 25 (lG 26 (lL a [.v qT,.c] (lG 29 ?_)))))))));refine lG 30 (lG 31 (lG 32 (lG 33 (lG 34 (lG 35 (lG 36 (lL a [.v qT,.c] (lG 39 ?_))))))));refine lG 40 (lG 41 (lG 42 (lG 43 (lG 44 (lG 45 (lG 46 (lG 47 (lL a [.v qT,.c] (lG 50 ?_)))))))));refine lG 51 (lG 52 (lG 53 (lG 54 (lG 55 (lG 56 (lG 57 (lL a [.v qT,.c] (lG 60 ?_))))))));refine lG 61 (lG 62 (lL a [.v qT,.c] (lG 65 ?_)));refine lG 66 (lG 67 (lL a [.v qT] (lD ?_)));intro B u;exact ⟨_,⟨true,h5,rfl,a.to _ _,(fun _ e=>by first|exact NS ((e.2.1.1 oM).symm.trans (l.symm.trans aM))|exact absurd (e.2.1.2 oM) aM|(have y:=e.1;have z:=e.2.2;omega)),(fun e=>absurd e kD)⟩,u.to _ kR⟩
 rintro _ _ ⟨Y,zX,rfl,a,zU,C⟩;cases zl:(Y)
 .
  try rw[zl] at a
  try rw[zl]
  refine dD (cK (cQ (aa a ac (aZ ?_))));refine bH _ (CG.loop (fun μ_ Γ w_=>∃ (k:Nat)(e:Hp),μ_=x.length-k/\Γ=[(1,pB j),(4,nV k)]/\SS w h w_ e [⟨j,31,bF ⟨op,n,J,L,D,I,M,F,H,s,A,x.length,c⟩⟩] [] [fun e=>Rms d e x ks,fun e=>SlO 7 bF bV e A x,fun e=>RZ e (J,qS L D I,qS M F H) q]/\k<=x.length/\(∀ i,i<k->WfT (fun s=>isb s=true) d (ks.getD i cY))) _ ⟨0,zX,rfl,rfl,a.to _ _,My _,(fun i hi=>absurd hi (NN i))⟩ ?_);rintro _ _ _ ⟨k,_,b4,rfl,a,hk,hWk⟩;refine cQ (aa a [.c,.v (qP j 6),.o (qS A x.length c) 0 6 1,.v (nV x.length)] ?_);cases zm:(decide ((k:Int)<(x.length:Int)))
  .
   have zL:=oF zm;refine lB 73 zm (ah (CG.exit ?_))
   show CG _ _ _ _ _ _ _ _
   exact aa a ac (ae a [] qT (EP ⟨by have y:=(C aM).1;omega,(C aM).2.2.1,(C aM).2.1,(C aM).2.2.2⟩ hq (fun i hi=>hWk i oM)))
  have zL:=oT zm;refine lB 73 zm (am (cK (cQ (kZ (aa a [.v (qP j 6),.o (qS A x.length c) 0 6 1,.c] (lX 79 A x.length c 7 (k:Nat) k ((a.f.2.1).ok oM) ?_))))));refine lH 80 (bK (x.getD k bV)) a ((a.f.2.1).el k oM) (lC 81 a (ih (x.getD k bV) (ks.getD k cY) _ _ a.g ((a.f.1).at_ k oM) (hW k oM)) ?_);rintro _ _ ya a ⟨bk,rfl,W⟩;cases b6:(bk)
  .
   exact lL a [.v qT] (am (aa a ac (ae a [] qF (E9 (k:=k) oM aM W))))
  refine lL a [.v qF] (ah (cK (kQ (lL a ac (bp 75 ((k:Nat)+1) (k+1) ?_)))));refine lL a ac (lD ?_);intro B u;refine ⟨_,_,?_,⟨k+1,ya,rfl,rfl,a.to _ _,oM,(fun i hi=>by rcases NT.1 hi with e|rfl;exact hWk i e;exact W.1 aM)⟩,u.to _ kR⟩
  omega
 try rw[zl] at a
 try rw[zl]
 exact ct (aa a ac (ae a [] qF (qn (fun e=>zU aM ⟨by have y:=e.1;omega,e.2.2.1,e.2.1,e.2.2.2⟩))))
theorem rq (isb:ByteArray->Bool)(sm:ByteArray->Prop)(nx:∀ s,sm s->∀ (w:World) (h:Hp),G w h->Calls Tryz.prog 62 #[.string s] w (Ret w h (fun v _=>∃ b,v=.bool b/\b=isb s))):∀ (d:Nat) (r:RTm) (t:Tm) (w:World) (h:Hp),G w h->RmH d h r t->nW sm d t ->  Calls Tryz.prog 59 #[bK r] w (Ret w h (fun v _=>∃ e,v=.bool e/\(e=true↔WfT (fun s=>isb s=true) d t)))
  | 0,_,_,_,_,_,x,_=>x.elim
  | d+1,r,t,w,h,g,x,wf=>by
    obtain ⟨op,n,b,y,z,H,o,I,C,q,s,A,c,l,ks,rfl,rfl,i,B,p,a⟩:=x.open;obtain ⟨D,f,J,F,j,u⟩:=wf;exact wS isb sm nx d (fun r t w h=>rq isb sm nx d r t w h) op n b y z H o I C q s A c l ks B D f J F j u w h g i p a
theorem DX  (ok:ByteArray->Prop)(d:Nat)(ih:∀ (r:RTm) (t:Tm) (w:World) (h:Hp),G w h->RmH d h r t->WfT ok d t->Calls Tryz.prog 60 #[bK r] w (Ret w h (fun v _=>v=iV ((min (ce d t) 1073741824:Nat):Int))))(op n:Int)(x:Bool)(y:Z9)(z C:Nat)(p:Z9)(D B:Nat)(q:Rat)(s:ByteArray)(A:Z9)(c:Nat)(b:List RTm)(ks:List Tm)(hc:b.length<=c)(hk3:ks.length<=2)(V:fu op=(ks.length:Nat))(Z:op≠1->q=0)(hq:LQ 3000 q)(hok:op=2->ok s)(hs0:op≠2->s=⟨#[]⟩)(M:op≠8->n=0)(I : -12<=n)(J:n<=12)(hW:∀ i,i<ks.length->WfT ok d (ks.getD i cY))(w:World)(h:Hp)(g:G w h)(Y:RZ h (x,.slice y z C,.slice p D B) q)(hK:SlO 7 bF bV h A b)(O:Rms d h b ks):CV 60 #[bK ⟨op,n,x,y,z,C,p,D,B,s,A,b.length,c⟩] w h (iV ((min (ce (d+1) (.mk op n q s ks)) 1073741824:Nat):Int)):=by
 have a:=((((sS g).add (K:=fun e=>RZ e (x,qS y z C,qS p D B) q) Y).aS hK).add (K:=fun e=>Rms d e b ks) O);have hln:=(a.f.1).len;refine go Tryz.func60 [(0,bK ⟨op,n,x,y,z,C,p,D,B,s,A,b.length,c⟩)] rfl (ax (lA 1 31 (bF ⟨op,n,x,y,z,C,p,D,B,s,A,b.length,c⟩) a (fun u w2 h3 a=>lL a ac (ag (aa a [.v (qP u 6),.o (qS A b.length c) 0 6 1,.v (nV b.length)] ?_)))));cases j:((b.length:Int) == (0:Int))
 .
  have F:=aj j;refine lB 8 j (ah (cK (aa a ac (ag (aa a ac (aZ ?_))))));refine bH _ (CG.loop (fun Q Γ X=>∃ (k:Nat)(sm:Nat)(e:Hp),Q=b.length-k/\Γ=[(1,pB u),(2,iV 0),(4,nV k),(3,nV sm)]/\SS w h X e [⟨u,31,bF ⟨op,n,x,y,z,C,p,D,B,s,A,b.length,c⟩⟩] [] [fun e=>Rms d e b ks,fun e=>SlO 7 bF bV e A b,fun e=>RZ e (x,qS y z C,qS p D B) q]/\k<=b.length/\sm=min (dU (fun i=>ce d (ks.getD i cY)) k) 1073741824) _ ⟨0,0,h3,rfl,rfl,a.to _ _,My _,rfl⟩ ?_);rintro _ _ w5 ⟨k,sm,h6,hm7,rfl,a,hk,L⟩;have W:(dU (fun i=>ce d (ks.getD i cY)) (k+1))=(dU (fun i=>ce d (ks.getD i cY)) k)+ce d (ks.getD k cY):=rfl;refine cQ (aa a [.c,.v (qP u 6),.o (qS A b.length c) 0 6 1,.v (nV b.length)] ?_);cases l:(decide ((k:Int)<(b.length:Int)))
  .
   have H:=oF l;refine lB 13 l (ah (CG.exit ?_))
   show CG _ _ _ _ _ _ _ _
   refine aa a [.v (pB u),.o (iV op) 0 0 1,.v (qP u 1),.o (iV n) 0 1 1,.c] (aq 30 a (EB op n (sm:Nat) oM (fun _=>⟨I,J⟩) _ _ a.g) (fun w9 _ a=>lL a ac (lN (kX ?_))));have S:k=ks.length:=by omega
   have U:=j4 (d:=d) (op:=op) (n:=n) (q:=q) (s:=s) (ks:=ks) oM;rw[S] at L
   exact a.ret [] (iV (min (fv op n (sm:Nat)) 1073741824)) (congrArg (Value.int .i64) (by rw[U,L];exact te M I J))
  have H:=oT l;refine lB 13 l (am (cK (cQ (kZ (kQ (lL a [.c,.v (qP u 6),.o (qS A b.length c) 0 6 1,.c] (lX 20 A b.length c 7 (k:Nat) k ((a.f.2.1).ok oM) ?_)))))));refine lH 21 (bK (b.getD k bV)) a ((a.f.2.1).el k oM) (aq 22 a (ih (b.getD k bV) (ks.getD k cY) _ _ a.g ((a.f.1).at_ k oM) (hW k oM)) (fun _ za a=>lI 23 ((sm:Nat)+((min (ce d (ks.getD k cY)) 1073741824:Nat):Int)) (lV 24 (iV ((min (dU (fun i=>ce d (ks.getD i cY)) (k+1)) 1073741824:Nat):Int)) ?_ (hr:=aK (n:=if (1073741824:Int)<((sm:Nat)+((min (ce d (ks.getD k cY)) 1073741824:Nat):Int)) then (1073741824:Int) else ((sm:Nat)+((min (ce d (ks.getD k cY)) 1073741824:Nat):Int))) kR (by split<;>omega)))));refine lL a ac (lN (kQ (lL a ac (bp 15 ((k:Nat)+1) (k+1) ?_))));refine lL a ac (lD ?_);intro a_ ka;refine ⟨_,_,?_,⟨k+1,(min (dU (fun i=>ce d (ks.getD i cY)) (k+1)) 1073741824),za,rfl,rfl,a.to _ _,oM,rfl⟩,ka.to _ kR⟩
  omega
 have F:=eq_of_beq j;exact lB 8 j (am (aa a ac (ae a [] (iV 1) (congrArg (Value.int .i64) (by rw[uK oM];rfl)))))
theorem BL (ok:ByteArray->Prop):∀ (d:Nat) (r:RTm) (t:Tm) (w:World) (h:Hp),G w h->RmH d h r t->WfT ok d t->Calls Tryz.prog 60 #[bK r] w (Ret w h (fun v _=>v=iV ((min (ce d t) 1073741824:Nat):Int)))
  | 0,_,_,_,_,_,x,_=>x.elim
  | d+1,r,t,w,h,g,x,wf=>by
    obtain ⟨op,n,b,z,B,I,p,J,F,q,s,A,c,o,ks,rfl,rfl,j,D,y,e⟩:=x.open;have a:ks.length<=2:=wf.two;obtain ⟨w1,w2,w3,i,u,l,f,H,C⟩:=wf;exact DX ok d (fun r t w h=>BL ok d r t w h) op n b z B I p J F q s A c o ks D a w1 w2 w3 i u l f H C w h g j y e
theorem Ct  (isb:ByteArray->Bool)(sm:ByteArray->Prop)(nx:∀ s,sm s->∀ (w:World) (h:Hp),G w h->Calls Tryz.prog 62 #[.string s] w (Ret w h (fun v _=>∃ b,v=.bool b/\b=isb s)))(d:Nat)(r:RTm)(t:Tm)(L:d<=24)(w:World)(h:Hp)(g:G w h)(hR:RmH d h r t)(x:nW sm d t):CR 26 #[bK r] w h (fun v _=>∃ e:Int,v=iV e/\(e=0↔WfT (fun s=>isb s=true) d t/\ce d t<=1000)):=by
 have a:=((sS g).add (K:=fun i=>RmH d i r t) hR);refine go Tryz.func26 [(0,bK r)] rfl (ax (lA 1 31 (bF r) a (fun M w2 O a=>lL a ac (ag (kZ (aa a [.o (bK r) 0 0 7] (lC 5 a (uq sm d r t _ _ a.g a.f.1 x oM) ?_)))))));rintro _ I J a ⟨F,rfl,C,z⟩;cases j:(decide ((24:Int)<(F:Int)))
 .
  have p:=oF j;refine lB 6 j (lL a ac (ah (aa a [.o (bK r) 0 0 7] (lC 9 a (rq isb sm nx d r t _ _ a.g a.f.1 x) ?_))));rintro _ H Q a ⟨y,rfl,l⟩;cases B:(y)
  .
   exact lL a [.v qT,.c] (am (aa a ac (ae a [] (iV 2) (⟨_,rfl,fun i=>absurd i kD,fun i=>NS ((l.2 i.1).symm.trans aM)⟩))))
  refine lL a [.v qF,.c] (ah (aa a [.o (bK r) 0 0 7] (aq 13 a (BL (fun s=>isb s=true) d r t _ _ a.g a.f.1 (l.1 aM)) (fun _ _ a=>?_))));cases u:(decide ((1000:Int)<(((min (ce d t) 1073741824:Nat):Int):Int)))
  .
   have D:=oF u;exact lB 14 u (lL a ac (ah (cK (aa a ac (ae a [] (iV 0) (⟨_,rfl,fun _=>⟨l.1 aM,by omega⟩,fun _=>rfl⟩))))))
  have D:=oT u;exact lB 14 u (lL a ac (am (aa a ac (ae a [] (iV 18) (⟨_,rfl,fun i=>absurd i kD,fun i=>by have:=i.2;omega⟩)))))
 have p:=oT j;refine lB 6 j (lL a ac (am (aa a ac (lN (kX ?_)))))
 exfalso;omega
theorem tC (A:Z9)(c:Nat)(ns:List ByteArray)(s:ByteArray)(I:ns.length<=1000)(w:World)(h:Hp)(g:G w h)(F:SlO 1 bD ⟨#[]⟩ h A ns):CR 63 #[.slice A ns.length c,.string s] w h (fun v _=>∃ b,v=.bool b/\(b=true↔s∈ns)):=by
 have a:=((sS g).aS F);refine go Tryz.func63 [(0,qS A ns.length c),(1,.string s)] rfl (aa a ac (ag (aa a ac (aZ ?_))));refine bH _ (CG.loop (fun u Γ x=>∃ (k:Nat)(j:Hp),u=ns.length-k/\Γ=[(0,qS A ns.length c),(1,.string s),(5,nV k)]/\SS w h x j [] [] [fun j=>SlO 1 bD ⟨#[]⟩ j A ns]/\k<=ns.length/\(∀ i,i<k->¬ns.getD i ⟨#[]⟩=s)) _ ⟨0,h,rfl,rfl,a.to _ _,My _,(fun i hi=>absurd hi (NN i))⟩ ?_);rintro _ _ w1 ⟨k,z,C,rfl,a,hk,o⟩;refine cQ (aa a [.c,.c,.v (nV ns.length)] ?_);cases d:(decide ((k:Int)<(ns.length:Int)))
 .
  have l:=oF d;refine lB 9 d (ah (CG.exit ?_))
  show CG _ _ _ _ _ _ _ _
  exact aa a ac (ae a [] qF (⟨false,rfl,fun j=>(by cases j),fun j=>(by obtain ⟨D,B,y⟩:=Kb j;exact absurd y (o D oM))⟩))
 have l:=oT d;refine lB 9 d (am (cK (cQ (kZ (aa a aD (lX 14 A ns.length c 1 (k:Nat) k ((a.f.1).ok oM) ?_))))));refine lH 15 (.string (ns.getD k ⟨#[]⟩)) a ((a.f.1).el k oM) (lL a ac ?_);cases e:(kf (ns.getD k ⟨#[]⟩) s)
 .
  have p:=hJ e;refine lB 17 e (ah (cK (kQ (lL a ac (bp 11 ((k:Nat)+1) (k+1) ?_)))));refine lL a ac (lD ?_);intro J H;refine ⟨_,_,?_,⟨k+1,z,rfl,rfl,a.to _ _,oM,(fun i hi=>by rcases NT.1 hi with j|rfl;exact o i j;assumption)⟩,H.to _ kR⟩
  omega
 have p:=g8 e;exact lB 17 e (am (aa a ac (ae a [] qT (⟨true,rfl,fun _=>Iq (by omega:k<ns.length) aM,fun _=>rfl⟩))))
def J7 (s t:ByteArray):Bool:=Go.Op.bytesLess s.toList t.toList
section
variable {M:Ms}{P:Program}{n:Nat}{N R:Po}{X:Nat->Po}{ops:Array Oper}{k k0:Nat}{hr:Hp}{AL:List Al}{L:Array Bool}{Γ:cl}{w:World}{h:Hp}{w0:World}{h0:Hp}{B:List Bx}{Rs:List Rw}{F:List (Hp->Prop)}
theorem CZ {base:Nat}{e:TypeId}{sz:Nat}{A:Z9}{l c n:Nat}{xs:List Value}(o:w.ownsRow base e sz (.slice A l c) n xs):l<=c:=by
 rcases o with ⟨_,⟨e1,_⟩|⟨g,cap,cur,e1,_,_,h1,_⟩⟩
 ·cases e1;exact eb _
 ·cases e1;exact h1
theorem mJ {α:Type}{o:Oper}{ty:TypeId}{sz H c c2 j:Nat}{z:Value}{A p:Z9}{l:List α}{f:α->List Value}(s:SS w0 h0 w h B Rs F)(M:pr P (ev Γ) o=some (.slice A l.length c,.slice p 0 c2,ty,z,sz,H))(D:Rs.getD j default=⟨ty,sz,A,c,l.length,l.flatMap f⟩)(C:j<Rs.length) :
    (execOp (ev Γ) o).run P w=.ok (.value (.slice A l.length c)) w:=by
  obtain ⟨x,y,d,K,J,I,i,hi⟩:=jE M;have r:=s.ro _ (gp C);rw[eL D C] at r
  cases b:P.info? ty with
  | none=>rw[b] at hi;cases hi
  | some inf =>
    rw[b] at hi
    have L:Src P inf.size d (.slice p 0 c2) 0 [] w:=by
      cases p with
      | none=>exact Src.ofNil w i c2
      | some a=>exact Src.ofSlice w i a 0 c2 [] (by simp) (fun j u C=>by cases C) (fun u i=>by cases i)
    have e:=run_append_nothing (P:=P) w d d o.type ty inf i b A l.length c (CZ r.own) (.slice p 0 c2) L
    unfold execOp
    simp only[K,resolve,invoke,builtin,Sem.run_bind,Sem.run_pure,Result.andThen_ok,List.map_toArray,List.map_cons,List.map_nil,J,I,e]
theorem Ky {α:Type}(t j:Nat)(ty:TypeId)(sz c:Nat)(A:Z9)(l:List α)(f:α->List Value)(d:α)(i:Z9)(m:List α)(C c2 e:Nat)(z:Value)(s:SS w0 h0 w h B Rs F)(so:SlO sz f d h i m)
    (H:∀ A' c' w' h',SS w0 h0 w' h' B (Rs.set j ⟨ty,sz,A',c',(l++m).length,(l++m).flatMap f⟩) F->LG P n N R X ops (k+1) ((t,.slice A' (l++m).length c')::Γ) w')
    (p:cL ops Γ k t n=true:=by kernel_rfl)(u:pr P (ev Γ) (ak ops k)=some (.slice A l.length c,.slice i C c2,ty,z,sz,e):=by kernel_rfl)(hn:C=m.length:=by omega)(hf:∀ x,(f x).length=sz:=by intro _;rfl)(h1:∀ x,(f x).all (·.oneCell')=true:=by intro _;kernel_rfl)(o:z.cells.size=sz:=by kernel_rfl)(a:0<sz:=by decide)
    (hr:Rs.getD j default=⟨ty,sz,A,c,l.length,l.flatMap f⟩:=by kernel_rfl)(y:decide (j<Rs.length)=true:=by kernel_rfl)(L:l.length+m.length<=1099511627776:=by omega)(J:(l.length+m.length)*e<=140737488355328:=by omega):LG P n N R X ops k Γ w:=by
  subst hn;cases m with
  | nil =>
    have b:=oT y;have I:l++[]=l:=N2 l;rw[I] at H
    have K:Rs.set j ⟨ty,sz,A,c,l.length,l.flatMap f⟩=Rs:=by
      have:=eL hr b;rw[<-this,N3]
    have D:=s;rw[<-K] at D
    exact LG.val t _ w (bQ p).1 (bQ p).2 (mJ s u hr b) (H A c w h D)
  | cons x xs=>exact KW t j ty sz c A l f d i (x::xs) c2 e z s so (MB _) H p u hf h1 o a hr y L J
theorem tO (i t:Nat)(ps:List (Nat × Nat × Nat))(v:Value)(s:SS w0 h0 w h B Rs F)(H:AG M P n N R X ops k0 (L.setIfInBounds i true) ((t,v)::Γ) w)(a:cT n ops k0 L Γ i t=true:=by kernel_rfl)(b:cC B ps=true:=by kernel_rfl)(c:bS P (execOp (ev Γ) (ak ops i)) (dj B ps)=some (.value v,cc B ps):=by kernel_rfl):AG M P n N R X ops k0 L Γ w :=
 T.val i t v w (iA a).1 (iA a).2 (bR _ _ _ _ c (dh s.st.own ps b)) H
theorem DF {n:Nat}{a:Act}{Γ:cl}{b c:Nat}{f d:Value}(h:b≠c)(k:Kn n a ((b,f)::(c,d)::Γ)):Kn n a ((c,d)::(b,f)::Γ):=by
 have e:∀ s:Nat,((c,d)::(b,f)::Γ).lookup s=((b,f)::(c,d)::Γ).lookup s:=fun s=>by
  simp only[hP]
  by_cases e1:s=b
  ·subst e1
   have:(s == c)=false:=by simpa using h
   rw[this]
  ·have:(s == b)=false:=by simpa using e1
   rw[this]
 refine k.mono (fun s u i=>(e s)▸i) ?_
 unfold gk
 rw[e]
theorem sn {K b:Nat}{w w':World}{v:Value}(hz:M.z=some (K,[]))(c:K<=w.heap.size)(hv:∀ b,v.ownBlock=some b->K<=b)(a:w.grownBy w' v.ownBlock):Tl M w w':=fun d bs e=>by
 rw[hz] at e
 injection e with e
 injection e with e1 e2
 subst e1 e2;exact ⟨a.size,fun b f _=>a.block b oM (fun e=>by have:=hv b e.symm;omega)⟩
theorem Iz (i j z d:Nat)(H D:Value)(y u:World)
  (F:(Region.ready .any ops L == [i,j] && decide (i<ops.size) && decide (j<ops.size) && Region.noSelect ops && aY Γ (ak ops i) && aY Γ (ak ops j) && ((ak ops i).dst == some z) && ((ak ops j).dst == some d) && decide (z<n) && decide (d<n))=true)
  (h:bg ops Γ (ak ops i)=some true)(f:bg ops Γ (ak ops j)=some true)
  (e:(execOp (ev Γ) (ak ops i)).run P w=.ok (.value H) y)(o:Tl M w y)(Q:AG M P n N R X ops 0 (L.setIfInBounds i true) ((z,H)::Γ) y)
  (p:(execOp (ev Γ) (ak ops j)).run P w=.ok (.value D) u)(x:Tl M w u)(J:AG M P n N R X ops 0 (L.setIfInBounds j true) ((d,D)::Γ) u):AG M P n N R X ops 0 L Γ w:=by
 simp only[i3,decide_eq_true_eq,beq_iff_eq] at F
 obtain ⟨⟨⟨⟨⟨⟨⟨⟨⟨c1,c2⟩,B⟩,C⟩,U⟩,S⟩,O⟩,I⟩,K⟩,l⟩:=F;intro a b;refine A.intro (fun h0=>by rw[c1] at h0;cases h0) (fun k hk=>?_);rw[c1] at hk
 rcases g2.1 hk with rfl|hk
 ·refine OpR.wpOp (bv c2) (R:=fun v w'=>Tl M w w'/\A M P ops (iB N R X) 0 (L.setIfInBounds k true) (a.put (ak ops k).dst v) w') ⟨b.want h,?_⟩ (fun v w' c=>⟨Rl.tl (My _) c.1,c.2⟩)
  rw[b.exec (Region.noSelect_spec C k _ · · (bv c2)) U,O];exact .inl ⟨_,_,e,o,Q _ (b.put K _)⟩
 ·rw[sy] at hk
  subst hk;refine OpR.wpOp (bv B) (R:=fun v w'=>Tl M w w'/\A M P ops (iB N R X) 0 (L.setIfInBounds k true) (a.put (ak ops k).dst v) w') ⟨b.want f,?_⟩ (fun v w' c=>⟨Rl.tl (My _) c.1,c.2⟩);rw[b.exec (Region.noSelect_spec C k _ · · (bv B)) S,I];exact .inl ⟨_,_,p,x,J _ (b.put l _)⟩
theorem iM {K:Nat}(hz:M.z=some (K,[]))(o:Obj){W:World}(c:K<=W.heap.size):Tl M W (W.alloc o)/\K<=(W.alloc o).heap.size:=by
 have a:(W.alloc o).heap.size=W.heap.size+1:=Array.size_push _;refine ⟨fun d bs e=>?_,by omega⟩;rw[hz] at e
 injection e with e
 injection e with e1 e2
 subst e1 e2
 exact ⟨by omega,fun b f _=>by
  show (W.heap.push o)[b]?=W.heap[b]?
  rw[Array.getElem?_push,if_neg oM]⟩
theorem SS.new0 {α:Type}(f:α->List Value){sz:Nat}(s:SS w0 h0 w h B Rs F)(ty:TypeId)(hf:∀ x,(f x).length=sz):SS w0 h0 (w.alloc (.cells #[] ty (0,0))) (h.push be) B (⟨ty,sz,some ⟨w.heap.size,0,none⟩,0,0,[]⟩::Rs) F:=s.newr (l:=([]:List α)) (f:=f) ty hf (My _)
theorem SS.newS (s:SS w0 h0 w h B Rs F)(ty:TypeId)(cs:List Value):SS w0 h0 (w.alloc (.cells cs.toArray ty (0,0))) (h.push (.cells cs.toArray ty (0,0))) B Rs ((fun h=>Seg h w.heap.size 0 cs)::F):=by
 refine (s.step (Up.allocAny s.g _ _ (.inl rfl))).a_Seg ?_;have e:h.size=w.heap.size:=by have:=s.g.size;omega
 rw[<-e];exact Seg.new cs ty
theorem sJ {K:Nat}{α:Type}{o:Oper}{ty:TypeId}{sz:Nat}{f:α->List Value}{d:α}{I:Nat}{Y:Z9}{m:List α}{c2 X:Nat}{z:Value}(hz:M.z=some (K,[]))(J:K<=w.heap.size)(S:K<=I)(s:SS w0 h0 w h B (⟨ty,sz,some ⟨I,0,none⟩,0,0,[]⟩::Rs) F)(so:SlO sz f d h Y m)
    (V:pr P (ev Γ) o=some (.slice (some ⟨I,0,none⟩) 0 0,.slice Y m.length c2,ty,z,sz,X))(hf:∀ x,(f x).length=sz)(h1:∀ x,(f x).all (·.oneCell')=true)(U:z.cells.size=sz)(H:0<sz)(hm:m.length<=1099511627776)(hb:m.length*X<=140737488355328) :
    ∃ c c' w' L,(execOp (ev Γ) o).run P w=.ok (.value (.slice c m.length c')) w'/\Tl M w w'/\(∀ b,(Value.slice c m.length c').ownBlock=some b->K<=b)/\K<=w'.heap.size/\SS w0 h0 w' L B (⟨ty,sz,c,c',m.length,m.flatMap f⟩::Rs) F:=by
  cases m with
  | nil=>exact ⟨_,_,w,h,mJ (α:=α) (j:=0) (l:=[]) (f:=f) s V rfl (MB _),Tl.refl _ _,(fun b e=>by cases e;exact S),J,s⟩
  | cons x xs =>
    have D:0<(x::xs).length:=MB _;rw[so.ok D] at V
    obtain ⟨x',y,ty',ho,hx,Q,W,hi⟩:=jE V
    obtain ⟨v',w',C,ow,O,a⟩:=rp (P:=P) ho hx Q W hi U H s.st (bX hf (x::xs)) (gT s.g (so.flat hf)) (fun u W=>by
      obtain ⟨y,_,Q⟩:=Mm.1 W;exact (oi.1 (h1 y)) u Q) D hm hb
    have hv:∀ b,v'.ownBlock=some b->K<=b:=fun b e=>by
      rcases a with h1|h1
      . rw[h1] at e;cases e
      . rw[h1] at e;cases e;exact J
    obtain ⟨L,c,c',rfl,e2,Z⟩:=(s.nil ty sz).grown (j:=0) (by simp) (w':=w') (v':=v') (m2:=(x::xs).length) (news:=(x::xs).flatMap f) ow O a;have hT:Tl M w w':=sn (b:=0) hz J (v:=Value.slice none 0 0) (fun b e=>by cases e) O;have p:SS w0 h0 w' L B (⟨ty,sz,c,c',(x::xs).length,(x::xs).flatMap f⟩::⟨ty,sz,some ⟨I,0,none⟩,0,0,[]⟩::Rs) F:=by simpa using Z
    have i:(execOp (ev Γ) o).run P w=.ok (.value (.slice c (x::xs).length c')) w':=by rw[C];simp
    refine ⟨c,c',w',L,i,hT,(fun b e=>hv b (by simpa using e)),ep J O.size,⟨p.g0,p.st,fun r hr=>p.ro r ?_,?_,p.mo,p.f⟩⟩
    . rcases g2.1 hr with e|e
      . exact g2.2 (.inl e)
      . exact g2.2 (.inr (g2.2 (.inr e)))
    . exact List.Pairwise.sublist (List.Sublist.cons_cons _ (List.sublist_cons_self _ _)) p.ap
theorem BD {n:Nat}{a:Act}{Γ:cl}{j b c:Nat}{i f d:Value}(h:b≠c)(k:Kn n a ((j,i)::(b,f)::(c,d)::Γ)):Kn n a ((j,i)::(c,d)::(b,f)::Γ):=by
 have e:∀ s:Nat,((j,i)::(c,d)::(b,f)::Γ).lookup s=((j,i)::(b,f)::(c,d)::Γ).lookup s:=fun s=>by
  simp only[hP]
  by_cases e1:s=b
  ·subst e1
   have:(s == c)=false:=by simpa using h
   rw[this]
  ·have:(s == b)=false:=by simpa using e1
   rw[this]
 refine k.mono (fun s u l=>(e s)▸l) ?_
 unfold gk
 rw[e]
theorem KR {K:Nat}{α:Type}(i j k c e p:Nat)(l o:TypeId)(sz:Nat)(f:α->List Value)(d:α)(y:Nat)(cs:List Value)(A2:Z9)(m:List α)(n2 c2 bt:Nat)(z:Value)(hz:M.z=some (K,[]))(hK:K<=w.heap.size)(s:SS w0 h0 w h B Rs F)(so:∀ h,AllF F h->SlO sz f d h A2 m)
  (H:∀ b0 D c' b' w' h',(∀ b,(Value.slice D m.length c').ownBlock=some b->K<=b)->K<=w'.heap.size->SS w0 h0 w' h' B (⟨l,sz,D,c',m.length,m.flatMap f⟩::Rs) ((fun h=>Seg h b' 0 cs)::F) ->
   AG M P n N R X ops 0 (((L.setIfInBounds i true).setIfInBounds j true).setIfInBounds k true) ((p,.slice D m.length c')::(e,.slice (some ⟨b',0,none⟩) y y)::(c,.slice (some ⟨b0,0,none⟩) 0 0)::Γ) w')
  (hn:n2=m.length:=by omega)(hd:(decide (c≠e) && decide (e≠p) && decide (i≠j) && decide (j≠k))=true:=by kernel_rfl)
  (c1:(Region.ready .any ops L == [i,j] && decide (i<ops.size) && decide (j<ops.size) && Region.noSelect ops && aY Γ (ak ops i) && aY Γ (ak ops j) && ((ak ops i).dst == some c) && ((ak ops j).dst == some e) && decide (c<n) && decide (e<n))=true:=by kernel_rfl)
  (c2_:∀ u,(Region.ready .any ops (L.setIfInBounds i true) == [k,j] && decide (k<ops.size) && decide (j<ops.size) && Region.noSelect ops && aY ((c,u)::Γ) (ak ops k) && aY ((c,u)::Γ) (ak ops j) && ((ak ops k).dst == some p) && ((ak ops j).dst == some e) && decide (p<n) && decide (e<n))=true:=by intro _;kernel_rfl)
  (hwi:bg ops Γ (ak ops i)=some true:=by kernel_rfl)(hwj:bg ops Γ (ak ops j)=some true:=by kernel_rfl)(S:∀ u,bg ops ((c,u)::Γ) (ak ops j)=some true:=by intro _;kernel_rfl)(bd:∀ u,bg ops ((c,u)::Γ) (ak ops k)=some true:=by intro _;kernel_rfl)
  (ci:∀ u,(g6 ops 0 (L.setIfInBounds j true) i && aY ((e,u)::Γ) (ak ops i) && ((ak ops i).dst == some c) && decide (c<n))=true:=by intro _;kernel_rfl)(Y:∀ u,bg ops ((e,u)::Γ) (ak ops i)=some true:=by intro _;kernel_rfl)
  (cj:∀ u v,(g6 ops 0 ((L.setIfInBounds i true).setIfInBounds k true) j && aY ((p,v)::(c,u)::Γ) (ak ops j) && ((ak ops j).dst == some e) && decide (e<n))=true:=by intro _ _;kernel_rfl)(bf:∀ u v,bg ops ((p,v)::(c,u)::Γ) (ak ops j)=some true:=by intro _ _;kernel_rfl)
  (W:∀ u v,cT n ops 0 ((L.setIfInBounds i true).setIfInBounds j true) ((e,v)::(c,u)::Γ) k p=true:=by intro _ _;kernel_rfl)(ck2:∀ u v,cT n ops 0 ((L.setIfInBounds j true).setIfInBounds i true) ((c,u)::(e,v)::Γ) k p=true:=by intro _ _;kernel_rfl)
  (hri:∀ w,(execOp (ev Γ) (ak ops i)).run P w=.ok (.value (.slice (some ⟨w.heap.size,0,none⟩) 0 0)) (w.alloc (.cells #[] l (0,0))):=by intro _;kernel_rfl)(bb:∀ u w,(execOp (ev ((e,u)::Γ)) (ak ops i)).run P w=.ok (.value (.slice (some ⟨w.heap.size,0,none⟩) 0 0)) (w.alloc (.cells #[] l (0,0))):=by intro _ _;kernel_rfl)
  (hrj:∀ w,(execOp (ev Γ) (ak ops j)).run P w=.ok (.value (.slice (some ⟨w.heap.size,0,none⟩) y y)) (w.alloc (.cells cs.toArray o (0,0))):=by intro _;kernel_rfl)(Q:∀ u w,(execOp (ev ((c,u)::Γ)) (ak ops j)).run P w=.ok (.value (.slice (some ⟨w.heap.size,0,none⟩) y y)) (w.alloc (.cells cs.toArray o (0,0))):=by intro _ _;kernel_rfl)
  (O:∀ u v w,(execOp (ev ((p,v)::(c,u)::Γ)) (ak ops j)).run P w=.ok (.value (.slice (some ⟨w.heap.size,0,none⟩) y y)) (w.alloc (.cells cs.toArray o (0,0))):=by intro _ _ _;kernel_rfl)
  (e1:∀ b,pr P (ev ((c,.slice (some ⟨b,0,none⟩) 0 0)::Γ)) (ak ops k)=some (.slice (some ⟨b,0,none⟩) 0 0,.slice A2 n2 c2,l,z,sz,bt):=by intro _;kernel_rfl)
  (e2:∀ b v,pr P (ev ((e,v)::(c,.slice (some ⟨b,0,none⟩) 0 0)::Γ)) (ak ops k)=some (.slice (some ⟨b,0,none⟩) 0 0,.slice A2 n2 c2,l,z,sz,bt):=by intro _ _;kernel_rfl)
  (e3:∀ b v,pr P (ev ((c,.slice (some ⟨b,0,none⟩) 0 0)::(e,v)::Γ)) (ak ops k)=some (.slice (some ⟨b,0,none⟩) 0 0,.slice A2 n2 c2,l,z,sz,bt):=by intro _ _;kernel_rfl)
  (hf:∀ x,(f x).length=sz:=by intro _;rfl)(h1:∀ x,(f x).all (·.oneCell')=true:=by intro _;kernel_rfl)(I:z.cells.size=sz:=by kernel_rfl)(C:0<sz:=by decide)(hm:m.length<=1099511627776:=by omega)(hb:m.length*bt<=140737488355328:=by omega):AG M P n N R X ops 0 L Γ w:=by
 subst hn
 simp only[i3,decide_eq_true_eq] at hd
 obtain ⟨⟨⟨d1,d2⟩,d3⟩,d4⟩:=hd;have si:=s.new0 f l hf;have sj:=s.newS o cs;obtain ⟨x1,x2⟩:=iM (M:=M) hz (.cells #[] l (0,0)) hK;obtain ⟨y1,y2⟩:=iM (M:=M) hz (.cells cs.toArray o (0,0)) hK;refine Iz i j c e _ _ _ _ c1 hwi hwj (hri w) x1 ?_ (hrj w) y1 ?_
 ·obtain ⟨D,c',w',h',V,r2,J,r4,r5⟩:=sJ (M:=M) (Γ:=(c,.slice (some ⟨w.heap.size,0,none⟩) 0 0)::Γ) hz x2 hK si (so _ si.f) (e1 _) hf h1 I C hm hb
  obtain ⟨q1,q2⟩:=iM (M:=M) hz (.cells cs.toArray o (0,0)) x2;refine Iz k j p e _ _ _ _ (c2_ _) (bd _) (S _) V r2 ?_ (Q _ _) q1 ?_
  ·obtain ⟨p1,p2⟩:=iM (M:=M) hz (.cells cs.toArray o (0,0)) r4
   refine T.val j e _ _ (cj _ _) (bf _ _) (O _ _ _) ?_ p1;intro a ka;have hh:=H _ D c' _ _ _ J p2 (r5.newS o cs) a (DF d2 ka);rw[gq _ _ d4] at hh
   exact hh
  ·have U:=si.newS o cs
   obtain ⟨D,c',w',h',V,r2,J,r4,r5⟩:=sJ (M:=M) (Γ:=(e,.slice (some ⟨_,0,none⟩) y y)::(c,.slice (some ⟨w.heap.size,0,none⟩) 0 0)::Γ) hz q2 hK U (so _ U.f.2) (e2 _ _) hf h1 I C hm hb;exact T.val k p _ _ (iA (W _ _)).1 (iA (W _ _)).2 V (H _ D c' _ _ _ J r4 r5) r2
 ·obtain ⟨q1,q2⟩:=iM (M:=M) hz (.cells #[] l (0,0)) y2
  have Z:=sj.new0 f l hf;refine T.val i c _ _ (ci _) (Y _) (bb _ _) ?_ q1;obtain ⟨D,c',w',h',V,r2,J,r4,r5⟩:=sJ (M:=M) (Γ:=(c,.slice (some ⟨_,0,none⟩) 0 0)::(e,.slice (some ⟨w.heap.size,0,none⟩) y y)::Γ) hz q2 y2 Z (so _ Z.f.2) (e3 _ _) hf h1 I C hm hb;refine T.val k p _ _ (iA (ck2 _ _)).1 (iA (ck2 _ _)).2 V ?_ r2;intro a ka;have hh:=H _ D c' _ _ _ J r4 r5 a (BD d1 ka);rw[gq _ _ d3] at hh
  exact hh
theorem KP {K:Nat}{α:Type}(i t j:Nat)(ty:TypeId)(sz c:Nat)(A:Z9)(l:List α)(f:α->List Value)(x:α)(Z b:Nat)(z:Value)(hz:M.z=some (K,[]))(O:K<=w.heap.size)(hv:∀ b,(Value.slice A l.length c).ownBlock=some b->K<=b)(s:SS w0 h0 w h B Rs F)(sg:Seg h b 0 (f x))
  (H:∀ p c' w' U,(∀ b,(Value.slice p (l++[x]).length c').ownBlock=some b->K<=b)->K<=w'.heap.size->SS w0 h0 w' U B (Rs.set j ⟨ty,sz,p,c',(l++[x]).length,(l++[x]).flatMap f⟩) F->AG M P n N R X ops 0 (L.setIfInBounds i true) ((t,.slice p (l++[x]).length c')::Γ) w')
  (hc:cT n ops 0 L Γ i t=true:=by kernel_rfl)(he:pr P (ev Γ) (ak ops i)=some (.slice A l.length c,.slice (some ⟨b,0,none⟩) 1 1,ty,z,sz,Z):=by kernel_rfl)(S:z.cells.size=sz:=by kernel_rfl)(I:0<sz:=by decide)
  (W:Rs.getD j default=⟨ty,sz,A,c,l.length,l.flatMap f⟩:=by kernel_rfl)(hj:decide (j<Rs.length)=true:=by kernel_rfl)(h1:(f x).all (·.oneCell')=true:=by kernel_rfl)(hl:(f x).length=1*sz:=by kernel_rfl)(hm:l.length+1<=1099511627776:=by omega)(hb:(l.length+1)*Z<=140737488355328:=by omega):AG M P n N R X ops 0 L Γ w:=by
 have o:=oT hj;obtain ⟨x',y,ty',ho,hx,hy,V,hi⟩:=jE he;have r:=s.ro _ (gp o);have C:=eL W o;rw[C] at r
 obtain ⟨v',w',d,ow,J,a⟩:=k6 (P:=P) ho hx hy V hi S I s.st r hl (jU s.g sg) (fun u V=>(oi.1 h1) u V) hm hb
 have D:∀ b,v'.ownBlock=some b->K<=b:=fun b e=>by
  rcases a with h1|h1
  ·exact hv b (h1▸e)
  ·rw[h1] at e;cases e;exact O
 have hT:Tl M w w':=sn (b:=0) hz O hv J;have Y:=s.grown (j:=j) o (w':=w') (v':=v') (m2:=1) (news:=f x) (by rw[C];exact ow) (by rw[C];exact J) (by rw[C];exact a);rw[C] at Y
 obtain ⟨U,p,c',rfl,e2,Q⟩:=Y;have e1:l.length+1=(l++[x]).length:=by simp
 simp only[] at Q
 rw[m9,e1] at Q
 rw[e1] at d D
 exact T.val i t _ w' (iA hc).1 (iA hc).2 d (H p c' w' U D (ep O J.size) Q) hT
theorem KS {K:Nat}{α:Type}(i t j:Nat)(ty:TypeId)(sz c:Nat)(A:Z9)(l:List α)(f:α->List Value)(d:α)(A2:Z9)(m:List α)(n2 c2 bt:Nat)(z:Value)(hz:M.z=some (K,[]))(S:K<=w.heap.size)(hv:∀ b,(Value.slice A l.length c).ownBlock=some b->K<=b)(s:SS w0 h0 w h B Rs F)(so:SlO sz f d h A2 m)
    (H:∀ I c' w' Z,K<=w'.heap.size->SS w0 h0 w' Z B (Rs.set j ⟨ty,sz,I,c',(l++m).length,(l++m).flatMap f⟩) F->AG M P n N R X ops 0 (L.setIfInBounds i true) ((t,.slice I (l++m).length c')::Γ) w')
    (J:cT n ops 0 L Γ i t=true:=by kernel_rfl)(W:pr P (ev Γ) (ak ops i)=some (.slice A l.length c,.slice A2 n2 c2,ty,z,sz,bt):=by kernel_rfl)(hn:n2=m.length:=by omega)(hf:∀ x,(f x).length=sz:=by intro _;rfl)(h1:∀ x,(f x).all (·.oneCell')=true:=by intro _;kernel_rfl)(V:z.cells.size=sz:=by kernel_rfl)(D:0<sz:=by decide)
    (o:Rs.getD j default=⟨ty,sz,A,c,l.length,l.flatMap f⟩:=by kernel_rfl)(hj:decide (j<Rs.length)=true:=by kernel_rfl)(hm:l.length+m.length<=1099511627776:=by omega)(hb:(l.length+m.length)*bt<=140737488355328:=by omega):AG M P n N R X ops 0 L Γ w:=by
  subst hn;have a:=oT hj;cases m with
  | nil =>
    have e0:l++[]=l:=N2 l;rw[e0] at H
    have es:Rs.set j ⟨ty,sz,A,c,l.length,l.flatMap f⟩=Rs:=by
      have:=eL o a;rw[<-this,N3]
    have s1:=s;rw[<-es] at s1
    exact T.val i t _ w (iA J).1 (iA J).2 (mJ s W o a) (H A c w h S s1)
  | cons x xs =>
    have Y:0<(x::xs).length:=MB _;rw[so.ok Y] at W
    obtain ⟨x',y,ty',ho,hx,Q,hu,hi⟩:=jE W;have r:=s.ro _ (gp a);have C:=eL o a;rw[C] at r
    obtain ⟨v',w',e,ow,O,p⟩:=k6 (P:=P) ho hx Q hu hi V D s.st r (bX hf (x::xs)) (gT s.g (so.flat hf)) (fun u hu=>by
      obtain ⟨y,_,Q⟩:=Mm.1 hu;exact (oi.1 (h1 y)) u Q) hm hb
    have hT:Tl M w w':=sn (b:=0) hz S hv O;have hg:=s.grown (j:=j) a (w':=w') (v':=v') (m2:=(x::xs).length) (news:=(x::xs).flatMap f) (by rw[C];exact ow) (by rw[C];exact O) (by rw[C];exact p);rw[C] at hg
    obtain ⟨Z,I,c',rfl,e2,U⟩:=hg;have e1:l.length+(x::xs).length=(l++(x::xs)).length:=by simp
    simp only[] at U
    rw[qg,e1] at U
    rw[e1] at e
    exact T.val i t _ w' (iA J).1 (iA J).2 e (H I c' w' Z (ep S O.size) U) hT
theorem zT (i t:Nat)(A:Z9)(len a sz:Nat)(x:Int)(j:Nat)(H:AG M P n N R X ops 0 (L.setIfInBounds i true) ((t,.slice A j a)::Γ) w)(c:vy n ops L Γ i t=true:=by kernel_rfl)(d:B2 P (ev Γ) (ak ops i)=some (.slice A len a,none,some (.int .i64 x),sz):=by kernel_rfl)(hk:x=j:=by omega)(b:j<=a:=by omega):AG M P n N R X ops 0 L Γ w :=
 zV i t _ H c (sK j d hk b)
theorem zF (i t:Nat)(A:Z9)(len a sz:Nat)(x:Int)(j:Nat)(H:AG M P n N R X ops 0 (L.setIfInBounds i true) ((t,.slice (if a=j then A else A.map (·.add (j*sz))) (len-j) (a-j))::Γ) w)(c:vy n ops L Γ i t=true:=by kernel_rfl)(d:B2 P (ev Γ) (ak ops i)=some (.slice A len a,some (.int .i64 x),none,sz):=by kernel_rfl)(hk:x=j:=by omega)(b:j<=len:=by omega):AG M P n N R X ops 0 L Γ w :=
 zV i t _ H c (lr j d hk b)
end
theorem t7 {us:List ByteArray}{i:Nat}{s:ByteArray}{op:Int}(h:op=2)(x:ByteArray):x∈us.take i++[s]++us.drop i↔(x∈us\/(op=2/\x=s)):=by
 have e:x∈us↔x∈us.take i\/x∈us.drop i:=by rw[<-gs,LI]
 rw[e,gs,gs,sy]
 constructor
 ·rintro ((h1|h1)|h1)
  ·exact .inl (.inl h1)
  ·exact .inr ⟨h,h1⟩
  ·exact .inl (.inr h1)
 ·rintro ((h1|h1)|⟨_,h1⟩)
  ·exact .inl (.inl h1)
  ·exact .inr h1
  ·exact .inl (.inr h1)
theorem Er {us:List ByteArray}{i:Nat}{s:ByteArray}{op:Int}(hi:i<us.length)(a:us.getD i ⟨#[]⟩=s)(x:ByteArray):x∈us↔(x∈us\/(op=2/\x=s)):=by
 constructor
 ·exact .inl
 ·rintro (h1|⟨_,rfl⟩)
  ·exact h1
  ·rw[<-a];exact Iq hi rfl
theorem Cz {us:List ByteArray}{s:ByteArray}{op:Int}(h:op≠2)(x:ByteArray):x∈us↔(x∈us\/(op=2/\x=s)):=by
 constructor
 ·exact .inl
 ·rintro (h1|⟨a,_⟩)
  ·exact h1
  ·exact absurd a h
theorem KL {d:Nat}{ks:List Tm}{x:ByteArray}(a b:Prop):(a\/b)↔(a\/b\/HasK d ks 0 x):=by
 constructor
 ·rintro (h|h)
  ·exact .inl h
  ·exact .inr (.inl h)
 ·rintro (h|h|⟨i,hi,_⟩)
  ·exact .inl h
  ·exact .inr h
  ·exact absurd hi (NN i)
end Go.Proofs.YthfkmhgnndmblaaGreatDoor
