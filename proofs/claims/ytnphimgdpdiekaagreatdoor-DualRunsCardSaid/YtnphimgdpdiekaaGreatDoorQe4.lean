/- Laws of this claim, part 5. -/
import Derived.Test.YtnphimgdpdiekaaGreatDoorQe0
import Derived.Test.YtnphimgdpdiekaaGreatDoorQe1
import Derived.Test.YtnphimgdpdiekaaGreatDoorQe2
import Derived.Test.YtnphimgdpdiekaaGreatDoorQe3
set_option maxRecDepth 100000
set_option maxHeartbeats 4000000
namespace Go.Proofs.YtnphimgdpdiekaaGreatDoor
open _root_.Array renaming getElem?_push_size -> gg, getElem?_setIfInBounds_ne -> la, getElem?_setIfInBounds_self_of_lt -> FA, size_setIfInBounds -> Ok
open Bool renaming noConfusion -> Ob
open Int renaming mul_nonneg -> N0, sign_eq_neg_one_iff_neg -> Og, sign_eq_neg_one_of_neg -> Nm, sign_eq_one_of_pos -> Np, sign_eq_zero_iff_zero -> NZ, sign_trichotomy -> Oh
open List renaming getD_eq_getElem?_getD -> LH, getElem_mem -> gq, length_append -> zY, length_cons -> ub, length_map -> N2, length_nil -> Oe, length_range -> N3, length_replicate -> N6, length_set -> LB, length_singleton -> N9, map_append -> N5, map_congr_left -> Of, mem_cons -> g4, mem_map -> g1, mem_range -> po, mem_singleton -> te, range -> pa, range_succ -> N4, replicate -> As, toArray -> Nf
open Nat renaming add_mul -> LI, add_zero -> y5, le_add_right -> Oa, le_mul_of_pos_left -> Nc, le_mul_of_pos_right -> Oc, le_refl -> ep, le_trans -> e4, min_eq_right -> MA, mul_assoc -> L6, mul_comm -> LC, mul_le_mul -> MP, mul_le_mul_left -> LW, mul_le_mul_right -> Af, mul_left_comm -> Mv, not_lt_zero -> N8, pow_succ -> LR, succ_ne_zero -> Od, succ_pos -> MW, two_pow_pos -> Mc, zero_add -> Ab, zero_le -> MG
open Option renaming mem_toList -> N1
open Rat renaming intCast_neg -> N7, not_le -> Oi, num_eq_zero -> NT, num_nonneg -> Oj
open Go.RowKit
open Go.RowKit Go.Shelf
theorem DT (z:Int)(A:Option Addr)(c:Nat)(w:World)(h:Hp)(g:G w h)(l:S3 A (lim (ab z)) h):CV 135 #[.agg #[.bool (af z),.slice A ((lim (ab z)).length) c]] w h (iV z.sign):=by
 have a:=((sS g).aS l);have i:0<(lim (ab z)).length↔0<ab z:=bR
 unfold ab at i
 refine go Tryz.func135 [(0,.agg #[.bool (af z),qS A ((lim (ab z)).length) c])] rfl (ax (lA 1 26 ([.bool (af z),qS A ((lim (ab z)).length) c]) a (fun j w2 p a=>lL a ac (ah (kZ (aa a [.v (qP j 1),.o (qS A ((lim (ab z)).length) c) 0 1 1,.v (nV ((lim (ab z)).length))] ?_))))));cases d:((((lim (ab z)).length:Nat):Int) == (0:Int))
 .
  have f:=aj d;refine lB 7 d (lL a ac (ag (aa a [.v (pB j),.o (.bool (af z)) 0 0 1,.c] (lN ?_))));cases b:(af z)
  .
   try rw[b] at a
   try rw[b]
   have e:=a7 b;exact dr (cK (aa a ac (ae a [] (iV 1) (congrArg (Value.int .i64) (by first|(rw[show z=0 by (unfold ab at *;omega)];rfl)|exact (Nm oM).symm|exact (Np (by unfold ab at *;omega)).symm)))))
  try rw[b] at a
  try rw[b]
  have e:=bj b;exact co (aa a ac (ae a [] (iV (-1)) (congrArg (Value.int .i64) (by first|(rw[show z=0 by (unfold ab at *;omega)];rfl)|exact (Nm oM).symm|exact (Np (by unfold ab at *;omega)).symm))))
 have f:=eq_of_beq d;exact lB 7 d (lL a ac (ak (aa a ac (ae a [] (iV 0) (congrArg (Value.int .i64) (by first|(rw[show z=0 by (unfold ab at *;omega)];rfl)|exact (Nm oM).symm|exact (Np (by unfold ab at *;omega)).symm))))))
theorem KD (z:Int)(A:Option Addr)(c n:Nat)(D:Option Addr)(d:Nat)(u:(lim (ab z)).length<=c)(j:(lim n).length<=d)(w:World)(h:Hp)(g:G w h)(i:S3 A (lim (ab z)) h)(b:S3 D (lim n) h):CV 103 #[.agg #[.bool (af z),.slice A ((lim (ab z)).length) c,.slice D ((lim n).length) d]] w h (iV z.sign):=by
 have a:=(((sS g).aS i).aS b);exact go Tryz.func103 [(0,.agg #[.bool (af z),qS A ((lim (ab z)).length) c,qS D ((lim n).length) d])] rfl (ax (lA 1 28 ([.bool (af z),qS A ((lim (ab z)).length) c,qS D ((lim n).length) d]) a (fun e w2 l a=>lL a ac (aG (lL a [.v (pB e),.o (.agg #[.bool (af z),qS A ((lim (ab z)).length) c]) 0 0 2] (ar 5 a (DT z A c _ _ a.g a.f.2.1) (fun p x a=>lL a ac (ae a [] (iV z.sign) rfl))))))))
theorem ES (z:Int)(A:Option Addr)(c n:Nat)(D:Option Addr)(d:Nat)(B:(lim (ab z)).length<=c)(p:(lim n).length<=d)(w:World)(h:Hp)(g:G w h)(C:S3 A (lim (ab z)) h)(l:S3 D (lim n) h):CV 94 #[.agg #[.bool (af z),.slice A ((lim (ab z)).length) c,.slice D ((lim n).length) d]] w h (.bool (decide (n=0\/z=0))):=by
 have a:=(((sS g).aS C).aS l);have x:0<(lim n).length↔0<n:=bR;refine go Tryz.func94 [(0,.agg #[.bool (af z),qS A ((lim (ab z)).length) c,qS D ((lim n).length) d])] rfl (ax (lA 1 28 ([.bool (af z),qS A ((lim (ab z)).length) c,qS D ((lim n).length) d]) a (fun y w2 H a=>lL a ac (aG (lL a [.v (qP y 2),.o (qS D ((lim n).length) d) 0 2 1,.v (nV ((lim n).length))] ?_)))));cases e:((((lim n).length:Nat):Int) == (0:Int))
 .
  have i:=aj e;refine lB 6 e (lL a [.c,.o (.agg #[.bool (af z),qS A ((lim (ab z)).length) c,qS D ((lim n).length) d]) 0 0 3] (ar 9 a (KD z A c n D d B p _ _ a.g a.f.2.1 a.f.1) (fun I F a=>?_)));have u:z.sign=0↔z=0:=NZ;cases b:((z.sign:Int) == (0:Int))
  .
   have j:=aj b;exact lB 10 b (lL a [.v qF,.c] (ae a [] qF (congrArg Value.bool (decide_eq_false oM).symm)))
  have j:=eq_of_beq b;exact lB 10 b (lL a [.v qT,.c] (ae a [] qT (congrArg Value.bool (decide_eq_true oM).symm)))
 have i:=eq_of_beq e;refine lB 6 e (lL a ac (lG 8 ?_));exact lG 9 (lG 10 (lL a [.v qT,.c] (ae a [] qT (congrArg Value.bool (decide_eq_true oM).symm))))
def fB (op n sum:Int):Int:=if op=11 then 2*sum else if op=8/\n≠0 then sum*(if n<0 then 0-n else n) else sum
theorem Ip {a n:Int}(h:0<=a/\a<=1073741824)(hn : -12<=n/\n<=12) : -12884901888<=a*n/\a*n<=12884901888:=by
 have h1:(a*n).natAbs<=1073741824*12:=by rw[Int.natAbs_mul];exact MP oM oM
 omega
theorem Db (op n a:Int)(H:0<=a/\a<=1073741824)(hn:op=8 -> -12<=n/\n<=12)(w:World)(h:Hp)(g:G w h):CV 95 #[iV op,iV n,iV a] w h (iV (min (fB op n a) 1073741824)):=by
 have b:=sS g;have d:min (a:Int) (1073741824:Int)=a:=by omega
 have L:=fun h8:op=8=>Ip H (hn h8)
 have K:=fun h8:op=8=>Ip (n:=0-n) H (by have:=hn h8;omega)
 rw[<-d] at L K
 have Q:n<=0->(min (a:Int) (1073741824:Int))*n<=0/\0<=(min (a:Int) (1073741824:Int))*(0-n):=fun I=>⟨Int.mul_nonpos_of_nonneg_of_nonpos oM I,N0 oM oM⟩
 have O:0<=n->0<=(min (a:Int) (1073741824:Int))*n:=fun I=>N0 oM I
 refine go Tryz.func95 [(0,iV op),(1,iV n),(2,iV a)] rfl (aa b ac (ah (kZ (aa b ac ?_))));cases f:((op:Int) == (11:Int))
 .
  have x:=aj f;refine lB 9 f (lL b ac (ag (aa b ac ?_)));cases l:((op:Int) == (8:Int))
  .
   have y:=aj l;refine lB 14 l (lL b ac (lG 16 ?_));refine lG 17 (lL b [.v qF,.c] (ag (cK (aa b ac (lV 34 (iV (min (a:Int) (1073741824:Int))) ?_ (hr:=aI (n:=(if (1073741824:Int)<(a:Int) then (1073741824:Int) else (a:Int))) kR (by simp only[fD])))))));exact lL b ac (ae b [] (iV (min (a:Int) (1073741824:Int))) (congrArg (Value.int .i64) (by unfold fB;first|(rw[if_pos oM]<;>omega)|(rw[if_neg oM,if_pos oM,if_pos oM]<;>rw[d] at * <;> omega)|(rw[if_neg oM,if_pos oM,if_neg oM]<;>rw[d] at * <;> omega)|(rw[if_neg oM,if_neg oM]<;>omega))))
  have y:=eq_of_beq l;refine lB 14 l (lL b aD ?_);cases j:((n:Int) != (0:Int))
  .
   have z:=aW j;refine lB 17 j (lL b [.v qF,.c] (ag (cK (aa b ac (lV 34 (iV (min (a:Int) (1073741824:Int))) ?_ (hr:=aI (n:=(if (1073741824:Int)<(a:Int) then (1073741824:Int) else (a:Int))) kR (by simp only[fD])))))));exact lL b ac (ae b [] (iV (min (a:Int) (1073741824:Int))) (congrArg (Value.int .i64) (by unfold fB;first|(rw[if_pos oM]<;>omega)|(rw[if_neg oM,if_pos oM,if_pos oM]<;>rw[d] at * <;> omega)|(rw[if_neg oM,if_pos oM,if_neg oM]<;>rw[d] at * <;> omega)|(rw[if_neg oM,if_neg oM]<;>omega))))
  have z:=aN j;refine lB 17 j (lL b [.v qT,.c] (ak (cQ (aa b ac ?_))));cases u:(decide ((n:Int)<(0:Int)))
  .
   have B:=oF u;refine lB 20 u (ag (cK (cQ (aa b ac ?_))));have ⟨J,M⟩:=dF (p:=(n:Int)<(0:Int)) oM;refine lB 24 J (lL b aD ?_);cases e:(decide ((1073741824:Int)<(n:Int)))
   .
    have D:=oF e;refine lB 27 e (lL b [.v qF] (ag (cK (kQ (lL b ac (lV 30 (iV (min (a:Int) (1073741824:Int))) ?_ (hr:=aI (n:=(if (1073741824:Int)<(a:Int) then (1073741824:Int) else (a:Int))) kR (by simp only[fD]))))))));refine lL b ac (lI 32 ((min (a:Int) (1073741824:Int))*n) ?_);refine lL b ac (aG (lL b ac (lV 34 (iV (min ((min (a:Int) (1073741824:Int))*n:Int) (1073741824:Int))) ?_ (hr:=aI (n:=(if (1073741824:Int)<((min (a:Int) (1073741824:Int))*n:Int) then (1073741824:Int) else ((min (a:Int) (1073741824:Int))*n:Int))) kR (by simp only[fD])))));exact lL b ac (ae b [] (iV (min ((min (a:Int) (1073741824:Int))*n:Int) (1073741824:Int))) (congrArg (Value.int .i64) (by unfold fB;first|(rw[if_pos oM]<;>omega)|(rw[if_neg oM,if_pos oM,if_pos oM]<;>rw[d] at * <;> omega)|(rw[if_neg oM,if_pos oM,if_neg oM]<;>rw[d] at * <;> omega)|(rw[if_neg oM,if_neg oM]<;>omega))))
   have D:=oT e;refine lB 27 e (lL b [.v qT] (ak (kQ (lL b ac (lN (kQ (lL b ac (lV 30 (iV (min (a:Int) (1073741824:Int))) ?_ (hr:=aI (n:=(if (1073741824:Int)<(a:Int) then (1073741824:Int) else (a:Int))) kR (by simp only[fD]))))))))));refine lL b ac (lI 32 ((min (a:Int) (1073741824:Int))*1073741824) ?_);refine lL b ac (aG (lL b ac (lV 34 (iV (min ((min (a:Int) (1073741824:Int))*1073741824:Int) (1073741824:Int))) ?_ (hr:=aI (n:=(if (1073741824:Int)<((min (a:Int) (1073741824:Int))*1073741824:Int) then (1073741824:Int) else ((min (a:Int) (1073741824:Int))*1073741824:Int))) kR (by simp only[fD])))));exact lL b ac (ae b [] (iV (min ((min (a:Int) (1073741824:Int))*1073741824:Int) (1073741824:Int))) (congrArg (Value.int .i64) (by unfold fB;first|(rw[if_pos oM]<;>omega)|(rw[if_neg oM,if_pos oM,if_pos oM]<;>rw[d] at * <;> omega)|(rw[if_neg oM,if_pos oM,if_neg oM]<;>rw[d] at * <;> omega)|(rw[if_neg oM,if_neg oM]<;>omega))))
  have B:=oT u;refine lB 20 u (ak (kQ (lL b ac (lI 22 (0-n) ?_))));refine lL b ac (ah (aa b ac ?_));cases i:(decide ((0-n:Int)<(0:Int)))
  .
   have C:=oF i;refine lB 24 i (lL b aD ?_);cases o:(decide ((1073741824:Int)<(0-n:Int)))
   .
    have F:=oF o;refine lB 27 o (lL b [.v qF] (ag (cK (kQ (lL b ac (lV 30 (iV (min (a:Int) (1073741824:Int))) ?_ (hr:=aI (n:=(if (1073741824:Int)<(a:Int) then (1073741824:Int) else (a:Int))) kR (by simp only[fD]))))))));refine lL b ac (lI 32 ((min (a:Int) (1073741824:Int))*(0-n)) ?_);refine lL b ac (aG (lL b ac (lV 34 (iV (min ((min (a:Int) (1073741824:Int))*(0-n):Int) (1073741824:Int))) ?_ (hr:=aI (n:=(if (1073741824:Int)<((min (a:Int) (1073741824:Int))*(0-n):Int) then (1073741824:Int) else ((min (a:Int) (1073741824:Int))*(0-n):Int))) kR (by simp only[fD])))));exact lL b ac (ae b [] (iV (min ((min (a:Int) (1073741824:Int))*(0-n):Int) (1073741824:Int))) (congrArg (Value.int .i64) (by unfold fB;first|(rw[if_pos oM]<;>omega)|(rw[if_neg oM,if_pos oM,if_pos oM]<;>rw[d] at * <;> omega)|(rw[if_neg oM,if_pos oM,if_neg oM]<;>rw[d] at * <;> omega)|(rw[if_neg oM,if_neg oM]<;>omega))))
   have F:=oT o;refine lB 27 o (lL b [.v qT] (ak (kQ (lL b ac (lN (kQ (lL b ac (lV 30 (iV (min (a:Int) (1073741824:Int))) ?_ (hr:=aI (n:=(if (1073741824:Int)<(a:Int) then (1073741824:Int) else (a:Int))) kR (by simp only[fD]))))))))));refine lL b ac (lI 32 ((min (a:Int) (1073741824:Int))*1073741824) ?_);refine lL b ac (aG (lL b ac (lV 34 (iV (min ((min (a:Int) (1073741824:Int))*1073741824:Int) (1073741824:Int))) ?_ (hr:=aI (n:=(if (1073741824:Int)<((min (a:Int) (1073741824:Int))*1073741824:Int) then (1073741824:Int) else ((min (a:Int) (1073741824:Int))*1073741824:Int))) kR (by simp only[fD])))));exact lL b ac (ae b [] (iV (min ((min (a:Int) (1073741824:Int))*1073741824:Int) (1073741824:Int))) (congrArg (Value.int .i64) (by unfold fB;first|(rw[if_pos oM]<;>omega)|(rw[if_neg oM,if_pos oM,if_pos oM]<;>rw[d] at * <;> omega)|(rw[if_neg oM,if_pos oM,if_neg oM]<;>rw[d] at * <;> omega)|(rw[if_neg oM,if_neg oM]<;>omega))))
  have C:=oT i;refine lB 24 i (lL b ac (lG 26 ?_));refine lG 27 (lL b [.v qT] (ak (kQ (lL b ac (lN (kQ (lL b ac (lV 30 (iV (min (a:Int) (1073741824:Int))) ?_ (hr:=aI (n:=(if (1073741824:Int)<(a:Int) then (1073741824:Int) else (a:Int))) kR (by simp only[fD]))))))))));refine lL b ac (lI 32 ((min (a:Int) (1073741824:Int))*1073741824) ?_);refine lL b ac (aG (lL b ac (lV 34 (iV (min ((min (a:Int) (1073741824:Int))*1073741824:Int) (1073741824:Int))) ?_ (hr:=aI (n:=(if (1073741824:Int)<((min (a:Int) (1073741824:Int))*1073741824:Int) then (1073741824:Int) else ((min (a:Int) (1073741824:Int))*1073741824:Int))) kR (by simp only[fD])))));exact lL b ac (ae b [] (iV (min ((min (a:Int) (1073741824:Int))*1073741824:Int) (1073741824:Int))) (congrArg (Value.int .i64) (by unfold fB;first|(rw[if_pos oM]<;>omega)|(rw[if_neg oM,if_pos oM,if_pos oM]<;>rw[d] at * <;> omega)|(rw[if_neg oM,if_pos oM,if_neg oM]<;>rw[d] at * <;> omega)|(rw[if_neg oM,if_neg oM]<;>omega))))
 have x:=eq_of_beq f;refine lB 9 f (lL b ac (ak (kQ (lL b ac (lI 11 (2*a) ?_)))));refine lL b ac (aG (lL b ac (lV 34 (iV (min (2*a:Int) (1073741824:Int))) ?_ (hr:=aI (n:=(if (1073741824:Int)<(2*a:Int) then (1073741824:Int) else (2*a:Int))) kR (by simp only[fD])))));exact lL b ac (ae b [] (iV (min (2*a:Int) (1073741824:Int))) (congrArg (Value.int .i64) (by unfold fB;first|(rw[if_pos oM]<;>omega)|(rw[if_neg oM,if_pos oM,if_pos oM]<;>rw[d] at * <;> omega)|(rw[if_neg oM,if_pos oM,if_neg oM]<;>rw[d] at * <;> omega)|(rw[if_neg oM,if_neg oM]<;>omega))))
theorem vw {t:RT}{a b c:Value}(e:tU t=.agg #[a,b,c]):eJ t=[a,b,c]:=by
 unfold tU at e
 injection e with e
 simp only[Array.mk.injEq,List.cons.injEq,and_true] at e
 obtain ⟨e1,e2,d⟩:=e
 unfold eJ;rw[<-e1,<-e2,<-d]
theorem Ah {o:OSt}(hz:o.has=false->o.q=0)(h:oy o=0\/o.q.num=0):o.q=((0:Int):Rat):=by
 rcases h with h|h
 ·refine hz ?_
  have a:=CC (o:=o);rw[h,f5] at a
  cases b:o.has with
  | false=>rfl
  | true=>rw[b] at a;simp at a
 ·exact NT.1 h
theorem x9 {o:OSt}(hz:o.has=false->o.q=0)(h:¬(oy o=0\/o.q.num=0)):oy o=o.q.den:=by
 refine CK ?_;cases a:o.has with
 | true=>rfl
 | false=>exact absurd (.inr (by rw[hz a];rfl)) h
theorem oV {a:Rat}:0<a.num.sign↔0<a:=by
 rw[Rat.lt_iff]
 rcases Int.lt_trichotomy a.num 0 with h|h|h
 ·rw[Nm h];simp;omega
 ·rw[h];simp
 ·rw[Np h];simpa using h
theorem C4 (o:OSt)(A:Option Addr)(c:Nat)(D:Option Addr)(d:Nat)(u:(lim (ab o.q.num)).length<=c)(l:(lim (oy o)).length<=d)(hz:o.has=false->o.q=0)(w:World)(h:Hp)(g:G w h)(C:S3 A (lim (ab o.q.num)) h)(x:S3 D (lim (oy o)) h):CR 59 #[.agg #[.bool (af o.q.num),.slice A ((lim (ab o.q.num)).length) c,.slice D ((lim (oy o)).length) d]] w h (fun v h1=>RQ h1 v o.q):=by
 have a:=(((sS g).aS C).aS x);refine go Tryz.func59 [(0,.agg #[.bool (af o.q.num),qS A ((lim (ab o.q.num)).length) c,qS D ((lim (oy o)).length) d])] rfl (ax (lA 1 28 ([.bool (af o.q.num),qS A ((lim (ab o.q.num)).length) c,qS D ((lim (oy o)).length) d]) a (fun M w2 J a=>lA 2 28 cD a (fun L K I a=>ah (aa a [.o (.agg #[.bool (af o.q.num),qS A ((lim (ab o.q.num)).length) c,qS D ((lim (oy o)).length) d]) 1 0 3] (ar 4 a (ES o.q.num A c (oy o) D d u l _ _ a.g a.f.2.1 a.f.1) (fun H O a=>?_)))))));cases b:(decide (oy o=0\/o.q.num=0))
 .
  have e:=oF b;exact ag (cK (aa a [.o (.agg #[.bool (af o.q.num),qS A ((lim (ab o.q.num)).length) c,qS D ((lim (oy o)).length) d]) 1 0 3] (lP 0 0 ([.bool (af o.q.num),qS A ((lim (ab o.q.num)).length) c,qS D ((lim (oy o)).length) d]) a (fun _ a=>ae a [(0,0,3)] (.agg #[.bool (af o.q.num),qS A ((lim (ab o.q.num)).length) c,qS D ((lim (oy o)).length) d]) (by have i:=x9 hz (o:=o) oM;show RP _ _ o.q.num o.q.den;rw[<-i];exact ⟨A,c,D,d,rfl,u,l,a.f.2.1,a.f.1⟩)))))
 have e:=oT b;refine ak (ax (lC 5 a (pp 0 oM oM _ _ a.g) ?_));rintro _ _ _ a ⟨za,zb,j,p,rfl,y,F,B,z⟩;replace a:=a.aP B z;exact lP 0 0 (gY ((0:Int):Rat) za zb j p) a (fun _ a=>ae a [(0,0,3)] (rG ((0:Int):Rat) za zb j p) (RQ.eq ⟨_,_,_,_,rfl,y,F,a.f.2.1,a.f.1⟩ (Ah hz oM).symm))
section ro
variable {w0:World} {h0:Hp} {w:World} {h:Hp} {B:List Bx} {R:List Rw} {F:List (Hp->Prop)}
theorem SS.ro_jk (s:SS w0 h0 w h B R F)(j:Nat){ty:TypeId}{sz c m:Nat}{A:Option Addr}{cs:List Value}(hr:R.getD j default=⟨ty,sz,A,c,m,cs⟩:=by kernel_rfl)(e:decide (j<R.length)=true:=by kernel_rfl):∀ b∈(Value.slice A m c).ownBlock.toList,h[b]?=some bc:=fun b d=>by
 have a:=oT e;have r:=s.ro _ (gq a);rw[eN hr a] at r
 exact r.jk b (N1.1 d)
theorem SS.ro_lt (s:SS w0 h0 w h B R F)(j:Nat){ty:TypeId}{sz c m:Nat}{A:Option Addr}{cs:List Value}(hr:R.getD j default=⟨ty,sz,A,c,m,cs⟩:=by kernel_rfl)(e:decide (j<R.length)=true:=by kernel_rfl):∀ b∈(Value.slice A m c).ownBlock.toList,b<h.size:=fun b d=>by
 have a:=oT e;have r:=s.ro _ (gq a);rw[eN hr a] at r
 exact aJ (r.jk b (N1.1 d))
theorem SS.ro_ne (s:SS w0 h0 w h B R F)(q j:Nat){ty:TypeId}{sz c m:Nat}{A:Option Addr}{cs:List Value}(hq:decide (q<B.length)=true:=by kernel_rfl)(hr:R.getD j default=⟨ty,sz,A,c,m,cs⟩:=by kernel_rfl)(e:decide (j<R.length)=true:=by kernel_rfl):(av B q).b ∉ (Value.slice A m c).ownBlock.toList:=fun d=>by
 have a:=oT e;have r:=s.ro _ (gq a);rw[eN hr a] at r
 exact r.ap _ (N1.1 d) (g1.2 ⟨_,bp (oT hq),rfl⟩)
end ro
def eU (xs ys:List Rat)(i:Nat):Nat->Rat
  | 0=>((0:Int):Rat)
  | j+1=>eU xs ys i j+xs.getD j 0*ys.getD (i-j) 0
theorem vb {xs ys:List Rat}{K L i:Nat}(ha:∀ j,LQ K (xs.getD j 0))(a:∀ j,LQ L (ys.getD j 0)):∀ j,LQ (j*(K+L+1)+1) (eU xs ys i j)
 | 0=>LQ.mono (k:=1) (LQ.lit (z:=0) kD) oM
 | j+1=>((vb ha a j).add ((ha j).mul (a (i-j)))).mono (by rw[LI];omega)
def fg (xs ys os:List Rat)(i:Nat):Nat->Rat
  | 0=>xs.getD i 0
  | j+1=>fg xs ys os i j-os.getD j 0*ys.getD (i-j) 0
def dh (xs ys:List Rat):Nat->List Rat
  | 0=>[]
  | k+1=>dh xs ys k++[fg xs ys (dh xs ys k) k k/ys.getD 0 0]
theorem jR (xs ys:List Rat):∀ k,(dh xs ys k).length=k
 | 0=>rfl
 | k+1=>by show (dh xs ys k++[_]).length=_;rw[zY,jR xs ys k];rfl
theorem C5 {xs ys os:List Rat}{K L i:Nat}(ha:∀ j,LQ K (xs.getD j 0))(a:∀ j,LQ L (ys.getD j 0))(b:∀ j,LQ (K+L) (os.getD j 0))(hi:i<=1):∀ j,j<=i->LQ (2*K+2*L+2) (fg xs ys os i j)
 | 0,_=>(ha i).mono oM
 | 1,_=>((ha i).sub ((b 0).mul (a (i-0)))).mono oM
 | j+2,h=>absurd h oM
theorem D8 {xs ys:List Rat}{K L k:Nat}(hk:k<=1)(b:1<=K)(ha:∀ j,LQ K (xs.getD j 0))(a:∀ j,LQ L (ys.getD j 0)):∀ j,LQ (K+L) ((dh xs ys k).getD j 0):=by
 intro j
 rcases Nat.lt_or_ge 0 k with h|h
 ·obtain rfl:k=1:=by omega
  cases j with
  | zero=>exact (ha 0).div (a 0)
  | succ j=>show LQ _ (([]:List Rat).getD j 0);simp;exact jd oM
 ·obtain rfl:k=0:=by omega
  show LQ _ (([]:List Rat).getD j 0);simp;exact jd oM
theorem om (A:Option Addr)(B:Nat)(xs:List Rat)(d:List RT)(q:Rat)(x:Option Addr)(c1:Nat)(y:Option Addr)(z:Nat)(Y:(lim (ab q.num)).length<=c1)(S:(lim q.den).length<=z)(K L:Nat)(hK:3*K+3*L+10<=100000000)(hn:xs.length<=2)(ha:∀ j,LQ K (xs.getD j 0))(hq:LQ L q)(w:World)(h:Hp)(g:G w h)(hA:Sr A d h)(J:RTs h d xs)(M:S3 x (lim (ab q.num)) h)(I:S3 y (lim q.den) h):CR 101 #[.slice A d.length B,rG q x c1 y z] w h (fun v h1=>∃ A c H,v=.slice A (H:List RT).length c/\H.length<=c/\Sr A H h1/\RTs h1 H ((pa xs.length).map fun i=>xs.getD i 0*q)):=by
 have a:=(((((sS g).aS hA).aT J).aS M).aS I);have hla:=(a.f.r.1).len;refine go Tryz.func101 [(0,qS A d.length B),(1,rG q x c1 y z)] rfl (ax (lA 3 28 (gY q x c1 y z) a (fun b1 w2 h3 a=>lL a ac (aG (lL a ac (ah (aa a ac (aY ?_))))))));replace a:=a.nil 28 3;replace a:=a.aT (RTs.nil);refine bH _ (CG.loop (fun U Γ w_=>∃ (k:Nat) (o:Option Addr) (e:Nat) (tl:List RT) (h_:Hp),U=xs.length-k/\Γ=[(0,qS A d.length B),(3,pB b1),(4,sZ),(6,nV k),(5,qS o ((tl).length) e)]/\SS w h w_ h_ [⟨b1,28,gY q x c1 y z⟩] [⟨28,3,o,e,(tl).length,(tl).flatMap eJ⟩] [Rt tl ((pa k).map fun i=>xs.getD i 0*q),S3 y (lim q.den),S3 x (lim (ab q.num)),Rt d xs,Sr A d]/\k<=xs.length) _ ⟨0,none,0,[],h3,rfl,rfl,a.to _ _,MG _⟩ ?_);rintro _ _ w4 ⟨k,o,e,tl,h5,hm6,rfl,a,hk⟩;have X:=(a.f.1).len;rw[N2,N3] at X
 refine cQ (aa a [.c,.c,.v (nV d.length)] ?_);cases u:(decide ((k:Int)<(d.length:Int)))
 .
  have D:=oF u;refine lB 10 u (ag (CG.exit ?_))
  show CG _ _ _ _ _ _ _ _
  refine aa a aD (lN (kX ?_));obtain ⟨h8,a,V⟩:=a.pubr 0 (A:=o) (c:=e) (l:=tl) (f:=eJ) (ty:=28) (sz:=3) fz (fun _=>rfl);exact a.ret [] (qS o ((tl).length) e) (by rw[show xs.length=k by omega];exact ⟨_,_,tl,rfl,V,a.f.1,a.f.2.1⟩)
 have D:=oT u;refine lB 10 u (ak (cK (cQ (kZ (CG.region ⟨((Value.slice o ((tl).length) e).ownBlock.toList),none⟩ 9 [] mixed kR a.g ao (a.ro_lt 0 (ty:=28) (sz:=3) (A:=o) (c:=e) (m:=(tl).length) (cs:=(tl).flatMap eJ)) ?_)))));refine eV 0 13 (qS o ((tl).length) e) (eV 1 14 (qS A d.length B) (eV 2 15 (nV k) (eX 3 16 A d.length B 3 (k:Nat) k ((a.f.q.1).ok oM) ?_)));obtain ⟨Ax,cx,Dx,dx,ex,W,Z,O,Q⟩:=(a.f.r.2.1).at_ k oM;replace a:=a.aP O Q;refine vy 4 17 (rA (d.getD k fz)) a ((a.f.q.r.1).el k oM) ex ?_ (hM:=a.ro_jk 0 (ty:=28) (sz:=3) (A:=o) (c:=e) (m:=(tl).length) (cs:=(tl).flatMap eJ));refine eO 5 18 [(0,0,3)] (rG q x c1 y z) a ?_ (hM:=fun p hp=>by obtain rfl:=te.1 hp;exact a.ro_ne 0 0 (ty:=28) (sz:=3) (A:=o) (c:=e) (m:=(tl).length) (cs:=(tl).flatMap eJ));have bb:=LQ.mul (ha k) hq;refine eC 6 19 a (fun _ _ a=>FY (xs.getD k 0) Ax cx Dx dx W Z (nl (ha k)) (nD (ha k)) q x c1 y z Y S (nl hq) (nD hq) _ _ a.g a.f.2.1 a.f.1 a.f.q.1 a.f.r.2.1) ?_;rintro _ _ _ _ _ a ⟨za,zb,C,F,rfl,zg,zi,zj,zk⟩;replace a:=a.aP zj zk;refine eR 7 20 28 1 (gY ((xs.getD k 0)*q) za zb C F) a (fun zl _ _ a=>eY 8 21 0 28 3 e o tl eJ ((af ((xs.getD k 0)*q).num,qS za ((lim (ab ((xs.getD k 0)*q).num)).length) zb,qS C ((lim ((xs.getD k 0)*q).den).length) F):RT) 56 zl (.agg #[qF,sZ,sZ]) a (fun _ f_=>f_.1) (fun b hb=>N1.2 hb) (fun ze zf _ _ a=>bP a (fun _ zm a=>tV 9 5 (qS ze ((tl++[((af ((xs.getD k 0)*q).num,qS za ((lim (ab ((xs.getD k 0)*q).num)).length) zb,qS C ((lim ((xs.getD k 0)*q).den).length) F):RT)]).length) zf) (tN (kQ (lL a ac (bh 12 ((k:Nat)+1) (k+1) ?_)))))));refine lL a ac (lD ?_);intro a_ ka;replace a:=(a.tl.tl.tl.tl.tl.tl.add (K:=Rt (tl++[((af ((xs.getD k 0)*q).num,qS za ((lim (ab ((xs.getD k 0)*q).num)).length) zb,qS C ((lim ((xs.getD k 0)*q).den).length) F):RT)]) ((pa (k+1)).map fun i=>xs.getD i 0*q)) (by rw[N4,N5];exact (a.f.q.2.1).snoc (lp zg zi a.f.r.1 a.f.2.1)));refine ⟨_,_,?_,⟨k+1,ze,zf,tl++[((af ((xs.getD k 0)*q).num,qS za ((lim (ab ((xs.getD k 0)*q).num)).length) zb,qS C ((lim ((xs.getD k 0)*q).den).length) F):RT)],zm,rfl,rfl,a.to _ _,oM⟩,ka.to _ kR⟩
 omega
theorem xW (A:Option Addr)(x:Nat)(xs:List Rat)(e:List RT)(D:Option Addr)(F:Nat)(ys:List Rat)(d:List RT)(K L:Nat)(hK:3*K+3*L+10<=100000000)(hn:xs.length<=2)(ha:∀ j,LQ K (xs.getD j 0))(B:∀ j,LQ L (ys.getD j 0))(bb:xs.length<=ys.length)(w:World)(h:Hp)(g:G w h)(hA:Sr A e h)(M:RTs h e xs)(hD:Sr D d h)(I:RTs h d ys):CR 100 #[.slice A e.length x,.slice D d.length F] w h (fun v h1=>∃ A c H,v=.slice A (H:List RT).length c/\H.length<=c/\Sr A H h1/\RTs h1 H ((pa xs.length).map fun i=>xs.getD i 0+ys.getD i 0)):=by
 have a:=(((((sS g).aS hA).aT M).aS hD).aT I);have hla:=(a.f.r.1).len;have hlb:=(a.f.1).len;refine go Tryz.func100 [(0,qS A e.length x),(1,qS D d.length F)] rfl (aa a ac (aG (lL a ac (ah (aa a ac (aY ?_))))));replace a:=a.nil 28 3;replace a:=a.aT (RTs.nil);refine bH _ (CG.loop (fun U Γ w_=>∃ (k:Nat) (p:Option Addr) (o:Nat) (tl:List RT) (h_:Hp),U=xs.length-k/\Γ=[(0,qS A e.length x),(1,qS D d.length F),(4,sZ),(6,nV k),(5,qS p ((tl).length) o)]/\SS w h w_ h_ [] [⟨28,3,p,o,(tl).length,(tl).flatMap eJ⟩] [Rt tl ((pa k).map fun i=>xs.getD i 0+ys.getD i 0),Rt d ys,Sr D d,Rt e xs,Sr A e]/\k<=xs.length) _ ⟨0,none,0,[],h,rfl,rfl,a.to _ _,MG _⟩ ?_);rintro _ _ w1 ⟨k,p,o,tl,h2,hm3,rfl,a,hk⟩;have W:=(a.f.1).len;rw[N2,N3] at W
 refine cQ (aa a [.c,.c,.v (nV e.length)] ?_);cases u:(decide ((k:Int)<(e.length:Int)))
 .
  have z:=oF u;refine lB 10 u (ag (CG.exit ?_))
  show CG _ _ _ _ _ _ _ _
  refine aa a aD (lN (kX ?_));obtain ⟨h5,a,S⟩:=a.pubr 0 (A:=p) (c:=o) (l:=tl) (f:=eJ) (ty:=28) (sz:=3) fz (fun _=>rfl);exact a.ret [] (qS p ((tl).length) o) (by rw[show xs.length=k by omega];exact ⟨_,_,tl,rfl,S,a.f.1,a.f.2.1⟩)
 have z:=oT u;refine lB 10 u (ak (cK (cQ (kZ (CG.region ⟨((Value.slice p ((tl).length) o).ownBlock.toList),none⟩ 12 [] mixed kR a.g ao (a.ro_lt 0 (ty:=28) (sz:=3) (A:=p) (c:=o) (m:=(tl).length) (cs:=(tl).flatMap eJ)) ?_)))));refine eV 0 13 (qS p ((tl).length) o) (eV 1 14 (qS A e.length x) (eV 2 15 (nV k) (eX 3 16 A e.length x 3 (k:Nat) k ((a.f.q.1).ok oM) ?_)));obtain ⟨Ax,cx,Dx,dx,ex,V,Y,O,Q⟩:=(a.f.r.2.1).at_ k oM;replace a:=a.aP O Q;refine vy 4 17 (rA (e.getD k fz)) a ((a.f.q.r.1).el k oM) ex ?_ (hM:=a.ro_jk 0 (ty:=28) (sz:=3) (A:=p) (c:=o) (m:=(tl).length) (cs:=(tl).flatMap eJ));refine eV 5 18 (qS D d.length F) (eV 6 19 (nV k) (eX 7 20 D d.length F 3 (k:Nat) k ((a.f.q.1).ok oM) ?_));obtain ⟨Ay,cy,Dy,dy,ey,J,X,hAy,Z⟩:=(a.f.r.2.1).at_ k oM;replace a:=a.aP hAy Z;refine vy 8 21 (rA (d.getD k fz)) a ((a.f.q.r.1).el k oM) ey ?_ (hM:=a.ro_jk 0 (ty:=28) (sz:=3) (A:=p) (c:=o) (m:=(tl).length) (cs:=(tl).flatMap eJ));have hq8:=LQ.add (ha k) (B k);refine eC 9 22 a (fun _ _ a=>D7 (xs.getD k 0) Ax cx Dx dx V Y (nl (ha k)) (nD (ha k)) (ys.getD k 0) Ay cy Dy dy J X (nl (B k)) (nD (B k)) _ _ a.g a.f.r.2.1 a.f.r.1 a.f.2.1 a.f.1) ?_;rintro _ _ _ _ _ a ⟨C,za,zb,y,rfl,zf,zg,zi,zj⟩;replace a:=a.aP zi zj;refine eR 10 23 28 1 (gY ((xs.getD k 0)+(ys.getD k 0)) C za zb y) a (fun zk _ _ a=>eY 11 24 0 28 3 o p tl eJ ((af ((xs.getD k 0)+(ys.getD k 0)).num,qS C ((lim (ab ((xs.getD k 0)+(ys.getD k 0)).num)).length) za,qS zb ((lim ((xs.getD k 0)+(ys.getD k 0)).den).length) y):RT) 56 zk (.agg #[qF,sZ,sZ]) a (fun _ f_=>f_.1) (fun b B=>N1.2 B) (fun zd ze _ _ a=>bP a (fun _ zl a=>tV 12 5 (qS zd ((tl++[((af ((xs.getD k 0)+(ys.getD k 0)).num,qS C ((lim (ab ((xs.getD k 0)+(ys.getD k 0)).num)).length) za,qS zb ((lim ((xs.getD k 0)+(ys.getD k 0)).den).length) y):RT)]).length) ze) (tN (kQ (lL a ac (bh 12 ((k:Nat)+1) (k+1) ?_)))))));refine lL a ac (lD ?_);intro a_ ka;replace a:=(a.tl.tl.tl.tl.tl.tl.tl.tl.add (K:=Rt (tl++[((af ((xs.getD k 0)+(ys.getD k 0)).num,qS C ((lim (ab ((xs.getD k 0)+(ys.getD k 0)).num)).length) za,qS zb ((lim ((xs.getD k 0)+(ys.getD k 0)).den).length) y):RT)]) ((pa (k+1)).map fun i=>xs.getD i 0+ys.getD i 0)) (by rw[N4,N5];exact (a.f.q.r.2.1).snoc (lp zf zg a.f.r.1 a.f.2.1)));refine ⟨_,_,?_,⟨k+1,zd,ze,tl++[((af ((xs.getD k 0)+(ys.getD k 0)).num,qS C ((lim (ab ((xs.getD k 0)+(ys.getD k 0)).num)).length) za,qS zb ((lim ((xs.getD k 0)+(ys.getD k 0)).den).length) y):RT)],zl,rfl,rfl,a.to _ _,oM⟩,ka.to _ kR⟩
 omega
theorem mD (A:Option Addr)(C:Nat)(xs:List Rat)(d:List RT)(D:Option Addr)(F:Nat)(ys:List Rat)(b:List RT)(K L:Nat)(hK:3*K+3*L+10<=100000000)(hn:xs.length<=2)(ha:∀ j,LQ K (xs.getD j 0))(M:∀ j,LQ L (ys.getD j 0))(bf:xs.length<=ys.length)(w:World)(h:Hp)(g:G w h)(hA:Sr A d h)(V:RTs h d xs)(hD:Sr D b h)(Q:RTs h b ys):CR 102 #[.slice A d.length C,.slice D b.length F] w h (fun v h1=>∃ A c O,v=.slice A (O:List RT).length c/\O.length<=c/\Sr A O h1/\RTs h1 O ((pa xs.length).map fun i=>eU xs ys i (i+1))):=by
 have a:=(((((sS g).aS hA).aT V).aS hD).aT Q);have hla:=(a.f.r.1).len;have hlb:=(a.f.1).len;refine go Tryz.func102 [(0,qS A d.length C),(1,qS D b.length F)] rfl (aa a ac (aG (lL a ac (ah (aa a ac (aY ?_))))));replace a:=a.nil 28 3;replace a:=a.aT (RTs.nil);refine bH _ (CG.loop (fun B Γ w_=>∃ (k:Nat) (y:Option Addr) (x:Nat) (tl:List RT) (h_:Hp),B=xs.length-k/\Γ=[(0,qS A d.length C),(1,qS D b.length F),(4,sZ),(6,nV k),(5,qS y ((tl).length) x)]/\SS w h w_ h_ [] [⟨28,3,y,x,(tl).length,(tl).flatMap eJ⟩] [Rt tl ((pa k).map fun i=>eU xs ys i (i+1)),Rt b ys,Sr D b,Rt d xs,Sr A d]/\k<=xs.length) _ ⟨0,none,0,[],h,rfl,rfl,a.to _ _,MG _⟩ ?_);rintro _ _ w1 ⟨k,y,x,tl,h2,hm3,rfl,a,hk⟩;have hlT:=(a.f.1).len;rw[N2,N3] at hlT
 refine cQ (aa a [.c,.c,.v (nV d.length)] ?_);cases u:(decide ((k:Int)<(d.length:Int)))
 .
  have H:=oF u;refine lB 12 u (ag (CG.exit ?_))
  show CG _ _ _ _ _ _ _ _
  refine aa a aD (lN (kX ?_));obtain ⟨h5,a,Z⟩:=a.pubr 0 (A:=y) (c:=x) (l:=tl) (f:=eJ) (ty:=28) (sz:=3) fz (fun _=>rfl);exact a.ret [] (qS y ((tl).length) x) (by rw[show xs.length=k by omega];exact ⟨_,_,tl,rfl,Z,a.f.1,a.f.2.1⟩)
 have H:=oT u;refine lB 12 u (ak (cK (cQ (kZ (ax (lC 15 a (pp 0 oM oM _ _ a.g) ?_))))));rintro _ _ _ a ⟨A8,c9,Y,ze,rfl,zl,zm,zn,zo⟩;replace a:=a.aP zn zo;refine lA 7 28 cD a (fun zf _ zx a=>lP 0 0 (gY ((0:Int):Rat) A8 c9 Y ze) a (fun _ a=>ah (aa a ac (aY ?_))));replace a:=a.aS a.f.1;replace a:=a.aS a.f.r.1;refine bH _ (CG.loop (fun B Γ w_=>∃ (j:Nat) (e:Option Addr) (cS:Nat) (DS:Option Addr) (p:Nat) (h_:Hp),B=k+1-j/\Γ=[(0,qS A d.length C),(1,qS D b.length F),(4,sZ),(6,nV k),(5,qS y ((tl).length) x),(7,pB zf),(8,nV j)]/\SS w h w_ h_ [⟨zf,28,gY (eU xs ys k j) e cS DS p⟩] [⟨28,3,y,x,(tl).length,(tl).flatMap eJ⟩] [S3 e (lim (ab (eU xs ys k j).num)),S3 DS (lim (eU xs ys k j).den),S3 Y (lim ((0:Int):Rat).den),S3 A8 (lim (ab ((0:Int):Rat).num)),Rt tl ((pa k).map fun i=>eU xs ys i (i+1)),Rt b ys,Sr D b,Rt d xs,Sr A d]/\j<=k+1/\(lim (ab (eU xs ys k j).num)).length<=cS/\(lim (eU xs ys k j).den).length<=p) _ ⟨0,A8,c9,Y,ze,zx,rfl,rfl,a.to _ _,MG _,zl,zm⟩ ?_);rintro _ _ _ ⟨j,e,cS,DS,p,_,bd,rfl,a,hj,I,J⟩;have hjk:j*(K+L+1)<=2*(K+L+1):=Af _ oM;have z:LQ (2*K+2*L+4) (eU xs ys k j):=(vb ha M j).mono oM;refine cQ (aa a aD ?_);cases za:(decide ((j:Int)<=(k:Int)))
 .
  have zd:=oF za;refine lB 18 za (ag (CG.exit ?_))
  show CG _ _ _ _ _ _ _ _
  refine kQ (lL a [.c,.o (rG (eU xs ys k j) e cS DS p) 0 0 3] (lR 36 28 1 (gY (eU xs ys k j) e cS DS p) a (fun zA _ _ a=>lY 37 0 28 3 x y tl eJ ((af (eU xs ys k j).num,qS e ((lim (ab (eU xs ys k j).num)).length) cS,qS DS ((lim (eU xs ys k j).den).length) p):RT) 56 zA (.agg #[qF,sZ,sZ]) a a.f.1 (fun zB zD _ zE a=>lL a ac (lN (kQ (lL a ac (bh 14 ((k:Nat)+1) (k+1) ?_))))))));refine lL a ac (lD ?_);intro a_ U;replace a:=(a.tl.tl.tl.tl.tl.tl.add (K:=Rt (tl++[((af (eU xs ys k j).num,qS e ((lim (ab (eU xs ys k j).num)).length) cS,qS DS ((lim (eU xs ys k j).den).length) p):RT)]) ((pa (k+1)).map fun i=>eU xs ys i (i+1))) (by rw[N4,N5];exact (a.f.q.2.1).snoc (by show RQ _ _ (eU xs ys k (k+1));rw[show k+1=j by omega];exact ⟨_,_,_,_,rfl,I,J,a.f.2.1,a.f.r.1⟩)));replace a:=a.drop 1 0;refine ⟨_,_,?_,⟨k+1,zB,zD,tl++[((af (eU xs ys k j).num,qS e ((lim (ab (eU xs ys k j).num)).length) cS,qS DS ((lim (eU xs ys k j).den).length) p):RT)],zE,rfl,rfl,a.to _ _,oM⟩,U.to _ kR⟩
  omega
 have zd:=oT za;refine lB 18 za (ak (cK (cQ (kZ (cR 13 [] mixed a ao ?_)))));refine eO 0 21 [(0,0,3)] (rG (eU xs ys k j) e cS DS p) a (eV 1 22 (qS A d.length C) (eV 2 23 (nV j) (eX 3 24 A d.length C 3 (j:Nat) j ((a.f.q.q.1).ok oM) ?_)));obtain ⟨Ax,cx,Dx,dx,ex,hcx,hdx,W,X⟩:=(a.f.q.r.2.1).at_ j oM;replace a:=a.aP W X;refine vy 4 25 (rA (d.getD j fz)) a ((a.f.q.q.r.1).el j oM) ex (eV 5 26 (qS D b.length F) (eV 6 27 (nV k) (eV 7 28 (nV j) (jX 8 29 ((k:Nat)-(j:Nat)) (k-j) (eX 9 30 D b.length F 3 (k-j:Nat) (k-j) ((a.f.q.q.1).ok oM) ?_)))));obtain ⟨Ay,cy,Dy,dy,ey,S,hdy,hAy,hDy⟩:=(a.f.q.r.2.1).at_ (k-j) oM;replace a:=a.aP hAy hDy;refine vy 10 31 (rA (b.getD (k-j) fz)) a ((a.f.q.q.r.1).el (k-j) oM) ey ?_;have zb:=LQ.mul (ha j) (M (k-j));refine eC 11 32 a (fun _ _ a=>FY (xs.getD j 0) Ax cx Dx dx hcx hdx (nl (ha j)) (nD (ha j)) (ys.getD (k-j) 0) Ay cy Dy dy S hdy (nl (M (k-j))) (nD (M (k-j))) _ _ a.g a.f.r.2.1 a.f.r.1 a.f.2.1 a.f.1) ?_;rintro _ _ _ _ _ a ⟨zG,zH,zI,zJ,rfl,zp,zq,zr,zs⟩;replace a:=a.aP zr zs;have bb:=LQ.add z zb;refine eC 12 33 a (fun _ _ a=>D7 (eU xs ys k j) e cS DS p I J (nl z) (nD z) ((xs.getD j 0)*(ys.getD (k-j) 0)) zG zH zI zJ zp zq (nl zb) (nD zb) _ _ a.g a.f.q.r.1 a.f.q.r.2.1 a.f.2.1 a.f.1) ?_;rintro _ _ _ _ _ a ⟨zg,zi,zj,zk,rfl,zt,zu,zv,zw⟩;replace a:=a.aP zv zw;refine bP a (fun _ zK a=>tP 13 0 0 (gY ((eU xs ys k j)+((xs.getD j 0)*(ys.getD (k-j) 0))) zg zi zj zk) a (fun _ a=>tN (kQ (lL a ac (bh 20 ((j:Nat)+1) (j+1) ?_)))));refine lL a ac (lD ?_);intro a_ U;replace a:=((a.tl.tl.tl.tl.tl.tl.tl.tl.tl.tl.aS a.f.1).aS a.f.2.1);refine ⟨_,_,?_,⟨j+1,zg,zi,zj,zk,zK,rfl,rfl,a.to _ _,oM,zt,zu⟩,U.to _ kR⟩
 omega
theorem iY (A:Option Addr)(O:Nat)(xs:List Rat)(u:List RT)(D:Option Addr)(C:Nat)(ys:List Rat)(d:List RT)(K L:Nat)(hK1:1<=K)(hK:4*K+4*L+20<=100000000)(hn:xs.length<=2)(ha:∀ j,LQ K (xs.getD j 0))(y:∀ j,LQ L (ys.getD j 0))(bk:xs.length<=ys.length)(hb0:ys.getD 0 0≠0)(w:World)(h:Hp)(g:G w h)(hA:Sr A u h)(hTa:RTs h u xs)(hD:Sr D d h)(hTb:RTs h d ys):CR 104 #[.slice A u.length O,.slice D d.length C] w h (fun v h1=>∃ A c Z,v=.slice A (Z:List RT).length c/\Z.length<=c/\Sr A Z h1/\RTs h1 Z (dh xs ys xs.length)):=by
 have a:=(((((sS g).aS hA).aT hTa).aS hD).aT hTb);have hla:=(a.f.r.1).len;have hlb:=(a.f.1).len;have hbn:=Fw hb0;refine go Tryz.func104 [(0,qS A u.length O),(1,qS D d.length C)] rfl (aa a ac (aG (lL a ac (ah (aa a ac (aY ?_))))));replace a:=a.nil 28 3;replace a:=a.aT (RTs.nil);refine bH _ (CG.loop (fun H Γ w_=>∃ (k:Nat) (M:Option Addr) (J:Nat) (tl:List RT) (h_:Hp),H=xs.length-k/\Γ=[(0,qS A u.length O),(1,qS D d.length C),(4,sZ),(6,nV k),(5,qS M ((tl).length) J)]/\SS w h w_ h_ [] [⟨28,3,M,J,(tl).length,(tl).flatMap eJ⟩] [Rt tl (dh xs ys k),Rt d ys,Sr D d,Rt u xs,Sr A u]/\k<=xs.length) _ ⟨0,none,0,[],h,rfl,rfl,a.to _ _,MG _⟩ ?_);rintro _ _ w1 ⟨k,M,J,tl,h2,hm3,rfl,a,hk⟩;have hlT:=(a.f.1).len;rw[jR] at hlT
 have z:=fun h0:k<=1=>D8 (k:=k) h0 hK1 ha y
 refine cQ (aa a [.c,.c,.v (nV u.length)] ?_);cases B:(decide ((k:Int)<(u.length:Int)))
 .
  have V:=oF B;refine lB 12 B (ag (CG.exit ?_))
  show CG _ _ _ _ _ _ _ _
  refine aa a aD (lN (kX ?_));obtain ⟨h5,a,hc6⟩:=a.pubr 0 (A:=M) (c:=J) (l:=tl) (f:=eJ) (ty:=28) (sz:=3) fz (fun _=>rfl);exact a.ret [] (qS M ((tl).length) J) (by rw[show xs.length=k by omega];exact ⟨_,_,tl,rfl,hc6,a.f.1,a.f.2.1⟩)
 have V:=oT B;refine lB 12 B (ak (cK (cQ (kZ (aa a aD (lX 17 A u.length O 3 (k:Nat) k ((a.f.q.1).ok oM) ?_))))));obtain ⟨Ax,cx,Dx,dx,ex,hcx,hdx,hAx,hDx⟩:=(a.f.r.2.1).at_ k oM;replace a:=a.aP hAx hDx;refine Fo 18 (rA (u.getD k fz)) a ((a.f.q.r.1).el k oM) ex (lA 7 28 cD a (fun b8 w9 zG a=>lP 0 0 (gY (xs.getD k 0) Ax cx Dx dx) a (fun _ a=>ah (aa a ac (aY ?_)))));replace a:=a.aS a.f.1;replace a:=a.aS a.f.r.1;replace a:=a.aT (a.f.q.1);refine bH _ (CG.loop (fun H Γ w_=>∃ (j:Nat) (o:Option Addr) (e:Nat) (i:List RT) (F:Option Addr) (cS:Nat) (DS:Option Addr) (I:Nat) (h_:Hp),H=k-j/\Γ=[(0,qS A u.length O),(1,qS D d.length C),(4,sZ),(6,nV k),(5,qS o ((i).length) e),(7,pB b8),(8,nV j)]/\SS w h w_ h_ [⟨b8,28,gY (fg xs ys (dh xs ys k) k j) F cS DS I⟩] [⟨28,3,o,e,(i).length,(i).flatMap eJ⟩] [Rt i (dh xs ys k),S3 F (lim (ab (fg xs ys (dh xs ys k) k j).num)),S3 DS (lim (fg xs ys (dh xs ys k) k j).den),S3 Dx (lim (xs.getD k 0).den),S3 Ax (lim (ab (xs.getD k 0).num)),Rt tl (dh xs ys k),Rt d ys,Sr D d,Rt u xs,Sr A u]/\j<=k/\(lim (ab (fg xs ys (dh xs ys k) k j).num)).length<=cS/\(lim (fg xs ys (dh xs ys k) k j).den).length<=I) _ ⟨0,M,J,tl,Ax,cx,Dx,dx,zG,rfl,rfl,a.to _ _,MG _,hcx,hdx⟩ ?_);rintro _ _ _ ⟨j,o,e,i,F,cS,DS,I,_,bb,rfl,a,hj,X,Y⟩;have Q:=(a.f.1).len;rw[jR] at Q
 have x:LQ (2*K+2*L+2) (fg xs ys (dh xs ys k) k j):=C5 ha y (z oM) oM j oM;refine cQ (aa a aD ?_);cases za:(decide ((j:Int)<(k:Int)))
 .
  have zi:=oF za;refine lB 21 za (ag (CG.exit ?_))
  show CG _ _ _ _ _ _ _ _
  refine CG.region ⟨((Value.slice o ((i).length) e).ownBlock.toList),none⟩ 8 [] mixed kR a.g ao (a.ro_lt 0 (ty:=28) (sz:=3) (A:=o) (c:=e) (m:=(i).length) (cs:=(i).flatMap eJ)) (eV 0 37 (qS o ((i).length) e) (eO 1 38 [(0,0,3)] (rG (fg xs ys (dh xs ys k) k j) F cS DS I) a ?_ (hM:=fun p hp=>by obtain rfl:=te.1 hp;exact a.ro_ne 0 0 (ty:=28) (sz:=3) (A:=o) (c:=e) (m:=(i).length) (cs:=(i).flatMap eJ))));refine eV 2 39 (qS D d.length C) (eX 3 40 D d.length C 3 0 0 ((a.f.q.r.2.1).ok oM) ?_);obtain ⟨Az,cz,Dz,dz,ez,hcz,hdz,hAz,hDz⟩:=(a.f.q.r.1).at_ 0 oM;replace a:=a.aP hAz hDz;refine vy 4 41 (rA (d.getD 0 fz)) a ((a.f.q.q.2.1).el 0 oM) ez ?_ (hM:=a.ro_jk 0 (ty:=28) (sz:=3) (A:=o) (c:=e) (m:=(i).length) (cs:=(i).flatMap eJ));have bd:=LQ.div x (y 0);refine eC 5 42 a (fun _ _ a=>Kh (fg xs ys (dh xs ys k) k j) F cS DS I X Y (nl x) (nD x) (ys.getD 0 0) Az cz Dz dz hcz hdz (nl (y 0)) (nD (y 0)) hbn _ _ a.g a.f.r.2.1 a.f.q.1 a.f.2.1 a.f.1) ?_;rintro _ _ _ _ _ a ⟨zb,U,W,S,rfl,zq,zr,zs,zt⟩;replace a:=a.aP zs zt;refine eR 6 43 28 1 (gY ((fg xs ys (dh xs ys k) k j)/(ys.getD 0 0)) zb U W S) a (fun zH _ _ a=>eY 7 44 0 28 3 e o i eJ ((af ((fg xs ys (dh xs ys k) k j)/(ys.getD 0 0)).num,qS zb ((lim (ab ((fg xs ys (dh xs ys k) k j)/(ys.getD 0 0)).num)).length) U,qS W ((lim ((fg xs ys (dh xs ys k) k j)/(ys.getD 0 0)).den).length) S):RT) 56 zH (.agg #[qF,sZ,sZ]) a (fun _ f_=>f_.1) (fun b y=>N1.2 y) (fun zk zl _ _ a=>bP a (fun _ zI a=>tV 8 5 (qS zk ((i++[((af ((fg xs ys (dh xs ys k) k j)/(ys.getD 0 0)).num,qS zb ((lim (ab ((fg xs ys (dh xs ys k) k j)/(ys.getD 0 0)).num)).length) U,qS W ((lim ((fg xs ys (dh xs ys k) k j)/(ys.getD 0 0)).den).length) S):RT)]).length) zl) (tN (kQ (lL a ac (bh 14 ((k:Nat)+1) (k+1) ?_)))))));refine lL a ac (lD ?_);intro a_ ka;replace a:=(a.tl.tl.tl.tl.tl.tl.tl.tl.tl.tl.tl.add (K:=Rt (i++[((af ((fg xs ys (dh xs ys k) k j)/(ys.getD 0 0)).num,qS zb ((lim (ab ((fg xs ys (dh xs ys k) k j)/(ys.getD 0 0)).num)).length) U,qS W ((lim ((fg xs ys (dh xs ys k) k j)/(ys.getD 0 0)).den).length) S):RT)]) (dh xs ys (k+1))) ((a.f.q.2.1).snoc (RQ.eq (lp zq zr a.f.r.1 a.f.2.1) (by rw[show j=k by omega]))));replace a:=a.drop 1 0;refine ⟨_,_,?_,⟨k+1,zk,zl,i++[((af ((fg xs ys (dh xs ys k) k j)/(ys.getD 0 0)).num,qS zb ((lim (ab ((fg xs ys (dh xs ys k) k j)/(ys.getD 0 0)).num)).length) U,qS W ((lim ((fg xs ys (dh xs ys k) k j)/(ys.getD 0 0)).den).length) S):RT)],zI,rfl,rfl,a.to _ _,oM⟩,ka.to _ kR⟩
  omega
 have zi:=oT za;refine lB 21 za (ak (cK (cQ (kZ (cR 13 [] mixed a ao ?_)))));refine eO 0 24 [(0,0,3)] (rG (fg xs ys (dh xs ys k) k j) F cS DS I) a (eV 1 25 (qS o ((i).length) e) (eV 2 26 (nV j) ?_));obtain ⟨zf,zj⟩:=a.rowA 0 (A:=o) (c:=e) (m:=(i).length) (ty:=28) (sz:=3) (cs:=(i).flatMap eJ) oM;subst zj;refine eX 3 27 (sB zf) ((i).length) e 3 (j:Nat) j rfl ?_;obtain ⟨Av,cv,Dv,dv,ev,hcv,hdv,hAv,hDv⟩:=(a.f.1).at_ j (by rw[jR];omega);replace a:=a.aP hAv hDv;refine E2 (ty:=28) (sz:=3) (c:=e) (m:=(i).length) (b:=zf) (cs:=(i).flatMap eJ) 4 28 0 (rG ((dh xs ys k).getD j 0) Av cv Dv dv) (gY ((dh xs ys k).getD j 0) Av cv Dv dv) a ((fw (f:=eJ) (sz:=3) (fun _=>rfl) fz i j oM).trans (vw ev)) (eV 5 29 (qS D d.length C) (eV 6 30 (nV k) (eV 7 31 (nV j) (jX 8 32 ((k:Nat)-(j:Nat)) (k-j) (eX 9 33 D d.length C 3 (k-j:Nat) (k-j) ((a.f.q.q.2.1).ok oM) ?_)))));obtain ⟨Ay,cy,Dy,dy,ey,hcy,hdy,hAy,hDy⟩:=(a.f.q.q.1).at_ (k-j) oM;replace a:=a.aP hAy hDy;refine vy 10 34 (rA (d.getD (k-j) fz)) a ((a.f.q.q.r.2.1).el (k-j) oM) ey ?_;have zg:=LQ.mul (z oM j) (y (k-j));refine eC 11 35 a (fun _ _ a=>FY ((dh xs ys k).getD j 0) Av cv Dv dv hcv hdv (nl (z oM j)) (nD (z oM j)) (ys.getD (k-j) 0) Ay cy Dy dy hcy hdy (nl (y (k-j))) (nD (y (k-j))) _ _ a.g a.f.r.2.1 a.f.r.1 a.f.2.1 a.f.1) ?_;rintro _ _ _ _ _ a ⟨zJ,zK,zL,zM,rfl,zu,zv,zw,zx⟩;replace a:=a.aP zw zx;have bf:=LQ.sub x zg;refine eC 12 36 a (fun _ _ a=>Kj (fg xs ys (dh xs ys k) k j) F cS DS I X Y (nl x) (nD x) (((dh xs ys k).getD j 0)*(ys.getD (k-j) 0)) zJ zK zL zM zu zv (nl zg) (nD zg) _ _ a.g a.f.q.r.2.1 a.f.q.q.1 a.f.2.1 a.f.1) ?_;rintro _ _ _ _ _ a ⟨zm,zn,zo,zp,rfl,zA,zB,zD,zE⟩;replace a:=a.aP zD zE;refine bP a (fun _ zN a=>tP 13 0 0 (gY ((fg xs ys (dh xs ys k) k j)-(((dh xs ys k).getD j 0)*(ys.getD (k-j) 0))) zm zn zo zp) a (fun _ a=>tN (kQ (lL a ac (bh 23 ((j:Nat)+1) (j+1) ?_)))));refine lL a ac (lD ?_);intro a_ ka;replace a:=(((a.tl.tl.tl.tl.tl.tl.tl.tl.tl.tl.tl.aS a.f.1).aS a.f.2.1).aT a.f.q.q.1);refine ⟨_,_,?_,⟨j+1,sB zf,e,i,zm,zn,zo,zp,zN,rfl,rfl,a.to _ _,oM,zA,zB⟩,ka.to _ kR⟩
 omega
theorem n3 (q:Rat)(d:Option Addr)(c1:Nat)(b:Option Addr)(e:Nat)(F:(lim (ab q.num)).length<=c1)(C:(lim q.den).length<=e)(n:Nat)(hn:n<=1000)(w:World)(h:Hp)(g:G w h)(z:S3 d (lim (ab q.num)) h)(B:S3 b (lim q.den) h):CR 58 #[rG q d c1 b e,nV n] w h (fun v h1=>∃ A c y,v=.slice A (y:List RT).length c/\y.length<=c/\Sr A y h1/\RTs h1 y (q::As n ((0:Int):Rat))):=by
 have a:=(((sS g).aS z).aS B);refine go Tryz.func58 [(0,rG q d c1 b e),(1,nV n)] rfl (ax (lA 2 28 (gY q d c1 b e) a (fun Z w2 h3 a=>lL a ac (aG (lL a [.o (rG q d c1 b e) 0 0 3] (HW 7 28 3 eJ ([((af q.num,qS d ((lim (ab q.num)).length) c1,qS b ((lim q.den).length) e):RT)]:List RT) a (fun W w5 Q a=>lL a ac (ah (kZ ?_)))))))));replace a:=a.aT ((RTs.snoc RTs.nil (lp F C a.f.2.1 a.f.1)));refine bH _ (CG.loop (fun H Γ L=>∃ (m:Nat) (j:Option Addr) (i:Nat) (tl:List RT) (h_:Hp),H=n-m/\Γ=[(1,nV n),(4,sZ),(5,qS j ((tl).length) i)]/\SS w h L h_ [⟨Z,28,gY q d c1 b e⟩] [⟨28,3,j,i,(tl).length,(tl).flatMap eJ⟩] [Rt tl (q::As m ((0:Int):Rat)),S3 b (lim q.den),S3 d (lim (ab q.num))]/\m<=n) _ ⟨0,sB W,(([((af q.num,qS d ((lim (ab q.num)).length) c1,qS b ((lim q.den).length) e):RT)]:List RT)).length,([((af q.num,qS d ((lim (ab q.num)).length) c1,qS b ((lim q.den).length) e):RT)]:List RT),Q,rfl,rfl,a.to _ _,MG _⟩ ?_);rintro _ _ w9 ⟨m,j,i,tl,_,I,rfl,a,hm⟩;have D:=(a.f.1).len;rw[ub,N6] at D
 refine cQ (aa a [.c,.v (nV ((tl).length)),.c] ?_);cases za:(decide ((((tl).length:Nat):Int)<=(n:Int)))
 .
  have zf:=oF za;refine lB 11 za (ag (CG.exit ?_))
  show CG _ _ _ _ _ _ _ _
  refine aa a aD (lN (kX ?_));obtain ⟨_,a,V⟩:=a.pubr 0 (A:=j) (c:=i) (l:=tl) (f:=eJ) (ty:=28) (sz:=3) fz (fun _=>rfl);exact a.ret [] (qS j ((tl).length) i) (by rw[show n=m by omega];exact ⟨_,_,tl,rfl,V,a.f.1,a.f.2.1⟩)
 have zf:=oT za;refine lB 11 za (ak (cK (kZ (kQ (lL a ac (lC 13 a (pp 0 oM oM _ _ a.g) ?_))))));rintro _ _ _ a ⟨zb,u,x,p,rfl,S,M,J,zl⟩;replace a:=a.aP J zl;refine lR 14 28 1 (gY ((0:Int):Rat) zb u x p) a (fun zm _ _ a=>lY 15 0 28 3 i j tl eJ ((af ((0:Int):Rat).num,qS zb ((lim (ab ((0:Int):Rat).num)).length) u,qS x ((lim ((0:Int):Rat).den).length) p):RT) 56 zm (.agg #[qF,sZ,sZ]) a a.f.1 (fun O U _ X a=>lL a ac (lD ?_)));intro a_ Y;replace a:=(a.tl.tl.tl.tl.add (K:=Rt (tl++[((af ((0:Int):Rat).num,qS zb ((lim (ab ((0:Int):Rat).num)).length) u,qS x ((lim ((0:Int):Rat).den).length) p):RT)]) (q::As (m+1) ((0:Int):Rat))) (by rw[List.replicate_succ',<-List.cons_append];exact (a.f.r.2.1).snoc (lp S M a.f.r.1 a.f.2.1)));refine ⟨_,_,?_,⟨m+1,O,U,tl++[((af ((0:Int):Rat).num,qS zb ((lim (ab ((0:Int):Rat).num)).length) u,qS x ((lim ((0:Int):Rat).den).length) p):RT)],X,rfl,rfl,a.to _ _,oM⟩,Y.to _ kR⟩
 omega
def bI (op n:Int)(a b:Rat):Int:=if rC op n a b then (if xD op a b then 7 else 0) else 6
def dJ (op n:Int)(xs ys:List Rat):List Rat:=[kT op n 0 (xs.getD 0 0) (ys.getD 0 0),Bo op n (xs.getD 0 0) (ys.getD 0 0)*xs.getD 1 0+BB op (xs.getD 0 0) (ys.getD 0 0)*ys.getD 1 0]
def iA (op n:Int)(xs ys:List Rat):List Rat:=if bI op n (xs.getD 0 0) (ys.getD 0 0)=0 then dJ op n xs ys else []
section
variable {op n:Int} {xs ys:List Rat}
theorem Ez (h:¬rC op n (xs.getD 0 0) (ys.getD 0 0)):bI op n (xs.getD 0 0) (ys.getD 0 0)=6/\iA op n xs ys=[]:=by
 have e:bI op n (xs.getD 0 0) (ys.getD 0 0)=6:=if_neg h;exact ⟨e,if_neg (by rw[e];decide)⟩
theorem AK (h:rC op n (xs.getD 0 0) (ys.getD 0 0))(k:xD op (xs.getD 0 0) (ys.getD 0 0)):bI op n (xs.getD 0 0) (ys.getD 0 0)=7/\iA op n xs ys=[]:=by
 have e:bI op n (xs.getD 0 0) (ys.getD 0 0)=7:=(if_pos h).trans (if_pos k);exact ⟨e,if_neg (by rw[e];decide)⟩
theorem fd (h:rC op n (xs.getD 0 0) (ys.getD 0 0))(k:¬xD op (xs.getD 0 0) (ys.getD 0 0)):bI op n (xs.getD 0 0) (ys.getD 0 0)=0/\iA op n xs ys=dJ op n xs ys:=by
 have e:bI op n (xs.getD 0 0) (ys.getD 0 0)=0:=(if_pos h).trans (if_neg k);exact ⟨e,if_pos e⟩
end
theorem fa {x y b a:Rat}(h:x=b)(c:y=a):[x,y]=[b,a]:=by rw[h,c]
theorem i1:((1:Int):Rat)=1:=rfl
theorem i0:((0:Int):Rat)=0:=rfl
theorem vq:((-1:Int):Rat) = -1:=rfl
theorem E8 {xs:List Rat}(h:xs.length=2):xs=[xs.getD 0 0,xs.getD 1 0]:=by
 match xs,h with
 | [a,b],_=>rfl
theorem j3 {op n:Int}{xs ys:List Rat}(b:xs.length=2)(h1:xs.getD 0 0=kT op n 0 (xs.getD 0 0) (ys.getD 0 0))(a:Bo op n (xs.getD 0 0) (ys.getD 0 0)=1)(c:BB op (xs.getD 0 0) (ys.getD 0 0)=0):xs=dJ op n xs ys:=by
 refine (E8 b).trans (fa h1 ?_);rw[a,c];grind
theorem nE {op n:Int}{xs ys:List Rat}(a:ys.length=2)(h1:ys.getD 0 0=kT op n 0 (xs.getD 0 0) (ys.getD 0 0))(b:Bo op n (xs.getD 0 0) (ys.getD 0 0)=0)(c:BB op (xs.getD 0 0) (ys.getD 0 0)=1):ys=dJ op n xs ys:=by
 refine (E8 a).trans (fa h1 ?_);rw[b,c];grind
section
variable {n:Int} {xs ys:List Rat}
theorem Je (a:xs.length=2):(pa xs.length).map (fun i=>xs.getD i 0+ys.getD i 0)=dJ 3 n xs ys:=by
 rw[a];refine fa rfl ?_
 show xs.getD 1 0+ys.getD 1 0=((1:Int):Rat)*xs.getD 1 0+((1:Int):Rat)*ys.getD 1 0
 rw[i1];grind
theorem Ik (a:xs.length=2)(b:ys.length=2):(pa xs.length).map (fun i=>xs.getD i 0+((pa ys.length).map fun i=>ys.getD i 0*((-1:Int):Rat)).getD i 0)=dJ 4 n xs ys:=by
 rw[a,b];refine fa ?_ ?_
 ·show xs.getD 0 0+ys.getD 0 0*((-1:Int):Rat)=xs.getD 0 0-ys.getD 0 0
  rw[vq];grind
 ·show xs.getD 1 0+ys.getD 1 0*((-1:Int):Rat)=((1:Int):Rat)*xs.getD 1 0 + -((1:Int):Rat)*ys.getD 1 0
  rw[i1,vq];grind
theorem Ix (a:xs.length=2):(pa xs.length).map (fun i=>eU xs ys i (i+1))=dJ 5 n xs ys:=by
 rw[a];refine fa ?_ ?_
 ·show ((0:Int):Rat)+xs.getD 0 0*ys.getD 0 0=xs.getD 0 0*ys.getD 0 0
  rw[i0];grind
 ·show ((0:Int):Rat)+xs.getD 0 0*ys.getD 1 0+xs.getD 1 0*ys.getD 0 0=ys.getD 0 0*xs.getD 1 0+xs.getD 0 0*ys.getD 1 0
  rw[i0];grind
theorem Jr (a:xs.length=2)(b:ys.getD 0 0≠0):dh xs ys xs.length=dJ 6 n xs ys:=by
 rw[a];refine fa rfl ?_
 show (xs.getD 1 0-xs.getD 0 0/ys.getD 0 0*ys.getD 1 0)/ys.getD 0 0=((1:Int):Rat)/ys.getD 0 0*xs.getD 1 0 + -(xs.getD 0 0*(((1:Int):Rat)/ys.getD 0 0)*(((1:Int):Rat)/ys.getD 0 0))*ys.getD 1 0
 rw[i1];grind
theorem Jd (a:xs.length=2):(pa xs.length).map (fun i=>xs.getD i 0*((-1:Int):Rat))=dJ 7 n xs ys:=by
 rw[a];refine fa ?_ ?_
 ·show xs.getD 0 0*((-1:Int):Rat) = -xs.getD 0 0
  rw[vq];grind
 ·show xs.getD 1 0*((-1:Int):Rat) = -((1:Int):Rat)*xs.getD 1 0+0*ys.getD 1 0
  rw[i1,vq];grind
end
def il (xs:List Rat):Nat->List Rat
  | 0=>[((1:Int):Rat),((0:Int):Rat)]
  | k+1=>(pa (il xs k).length).map fun i=>eU (il xs k) xs i (i+1)
theorem fl (xs:List Rat):∀ k,(il xs k).length=2
 | 0=>rfl
 | k+1=>by show ((pa (il xs k).length).map _).length=2;rw[N2,N3,fl xs k]
theorem iz (xs:List Rat):∀ k,il xs k=[cc (xs.getD 0 0) k,((k:Int):Rat)*cc (xs.getD 0 0) (k-1)*xs.getD 1 0]
  | 0=>fa rfl (by show ((0:Int):Rat)=((0:Int):Rat)*_*_;rw[i0];grind)
  | k + 1=>by
    show (pa (il xs k).length).map _=_
    rw[fl,iz xs k];refine fa ?_ ?_
    . show ((0:Int):Rat)+cc (xs.getD 0 0) k*xs.getD 0 0=cc (xs.getD 0 0) k*xs.getD 0 0
      rw[i0];grind
    . show ((0:Int):Rat)+cc (xs.getD 0 0) k*xs.getD 1 0+((k:Int):Rat)*cc (xs.getD 0 0) (k-1)*xs.getD 1 0*xs.getD 0 0=(((k+1:Nat):Int):Rat)*cc (xs.getD 0 0) k*xs.getD 1 0
      have e:(((k+1:Nat):Int):Rat)=((k:Int):Rat)+1:=by push_cast;rfl
      have e2:((k:Int):Rat)*cc (xs.getD 0 0) (k-1)*xs.getD 0 0=((k:Int):Rat)*cc (xs.getD 0 0) k:=by
        cases k with
        | zero=>show ((0:Int):Rat)*_*_=((0:Int):Rat)*_;rw[i0];grind
        | succ k=>show _*cc _ k*_=_*(cc _ k*_);grind
      rw[i0,e];grind
theorem mP {a b:Rat}{K:Nat}(d:1<=K)(ha:LQ K a)(c:LQ K b):∀ j,LQ K (([a,b]:List Rat).getD j 0)
 | 0=>ha
 | 1=>c
 | j+2=>by show LQ K (([]:List Rat).getD j 0);simp;exact jd d
theorem l9 {f:Nat->Rat}{K m:Nat}(a:1<=K)(h:∀ i,LQ K (f i))(j:Nat):LQ K (((pa m).map f).getD j 0):=by
 by_cases hj:j<m
 ·simp[hj];exact h j
 ·simp[hj];exact jd a
theorem kV {xs:List Rat}{K D k:Nat}(a:1<=K)(hk:k<=12)(h0:LQ K (xs.getD 0 0))(h1:LQ D (xs.getD 1 0)):∀ j,LQ (12*K+D+3) ((il xs k).getD j 0):=by
 rw[iz];have e1:k*K<=12*K:=Af _ hk;have e2:(k-1)*K<=11*K:=Af _ oM;exact mP oM ((ja h0 k).mono oM) ((((LQ.int (z:=(k:Int)) oM oM).mul (ja h0 (k-1))).mul h1).mono oM)
section
variable {n:Int} {xs ys:List Rat}
theorem xF {m:Nat}(hn:0<=n)(a:(m:Int)=n):il xs m=dJ 8 n xs ys:=by
 subst a;rw[iz];refine fa ?_ ?_
 ·show _=fk (xs.getD 0 0) m
  unfold fk;rw[if_pos oM];rfl
 ·show _=(if (m:Int)=0 then (0:Rat) else fk (xs.getD 0 0) ((m:Int)-1)*(((m:Int):Int):Rat))*xs.getD 1 0+0*ys.getD 1 0
  by_cases h0:m=0
  ·subst h0;rw[if_pos (show ((0:Nat):Int)=0 from rfl)];show ((0:Int):Rat)*_*_=_;rw[i0];grind
  ·rw[if_neg oM]
   have e:fk (xs.getD 0 0) ((m:Int)-1)=cc (xs.getD 0 0) (m-1):=by unfold fk;rw[if_pos oM,show ((m:Int)-1).natAbs=m-1 by omega]
   rw[e];grind
theorem xN {m:Nat}(hn:n<0)(a:(m:Int) = -n)(ha:xs.getD 0 0≠0):dh [((1:Int):Rat),((0:Int):Rat)] (il xs m) 2=dJ 8 n xs ys:=by
 obtain ⟨k,rfl⟩:∃ k,m=k+1:=⟨m-1,by omega⟩;have b:=iW ha k;rw[iz];refine fa ?_ ?_
 ·show ((1:Int):Rat)/cc (xs.getD 0 0) (k+1)=fk (xs.getD 0 0) n
  unfold fk;rw[if_neg oM,show n.natAbs=k+1 by omega]
 ·show (((0:Int):Rat)-((1:Int):Rat)/cc (xs.getD 0 0) (k+1)*((((k+1:Nat):Int):Rat)*cc (xs.getD 0 0) k*xs.getD 1 0))/cc (xs.getD 0 0) (k+1)=(if n=0 then (0:Rat) else fk (xs.getD 0 0) (n-1)*((n:Int):Rat))*xs.getD 1 0+0*ys.getD 1 0
  rw[if_neg oM]
  have e:fk (xs.getD 0 0) (n-1)=((1:Int):Rat)/(cc (xs.getD 0 0) k*xs.getD 0 0*xs.getD 0 0):=by
   unfold fk;rw[if_neg oM,show (n-1).natAbs=k+2 by omega];rfl
  have e2:((n:Int):Rat) = -(((k+1:Nat):Int):Rat):=by rw[a,N7];grind
  rw[e,e2,i0,i1]
  show (0-1/(cc (xs.getD 0 0) k*xs.getD 0 0)*_)/(cc (xs.getD 0 0) k*xs.getD 0 0)=_
  grind
end
theorem qN {b d:List Rat}{a:Nat}{y:Rat}(ha:a<b.length):∀ n,fc (b.set a y) d n=fc b d n+(if a<n then (y-b.getD a 0)*d.getD a 0 else 0)
  | 0=>by show (0:Rat)=0+_;rw[if_neg (N8 a)];grind
  | n+1=>by
    show fc (b.set a y) d n+(b.set a y).getD n 0*d.getD n 0=(fc b d n+b.getD n 0*d.getD n 0)+_
    rw[qN ha n,eo ha]
    rcases Nat.lt_trichotomy a n with h|h|h
    . rw[if_neg (by omega:¬n=a),if_pos h,if_pos oM];grind
    . subst h;rw[if_pos rfl,if_neg (Nat.lt_irrefl _),if_pos oM];grind
    . rw[if_neg oM,if_neg oM,if_neg oM];grind
theorem vr {b d:List Rat}{a n:Nat}{y x:Rat}(ha:a<b.length)(hn:a<n)(c:y=b.getD a 0+x):fc (b.set a y) d n=fc b d n+x*d.getD a 0:=by
 rw[qN ha,if_pos hn,c];grind
def KK (z:Nat)(l:List Stp):Prop:=∀ k,k<l.length->(l.getD k d9).op=8->(k=z -> -12<=(l.getD k d9).n/\(l.getD k d9).n<=12)/\(k≠z -> -1<=(l.getD k d9).n/\(l.getD k d9).n<=2)
theorem ke (a b:List Rat):∀ n,fc a b n=fc b a n
 | 0=>rfl
 | n+1=>by show fc a b n+_=fc b a n+_;rw[ke a b n,Rat.mul_comm]
theorem kh (m:Nat)(b:List Rat):∀ n,fc (As m 0) b n=0
 | 0=>rfl
 | n+1=>by show fc _ b n+_=_;rw[kh m b n,mU];grind
def fr (n j:Nat):List Rat:=(As n (0:Rat)).set j ((1:Int):Rat)
theorem nC {g:List Rat}{n j:Nat}(h:j<n):fc g (fr n j) n=g.getD j 0:=by
 rw[ke];unfold fr;rw[vr (x:=((1:Int):Rat)) (by simpa using h) h (by rw[mU];grind),kh,show ((1:Int):Rat)=1 from rfl];grind
theorem wJ {α:Type}{l:List α}{i:Nat}{d:α}(h:i<l.length):l.getD i d∈l:=by
 rw[LH,List.getElem?_eq_getElem h];exact gq h
theorem vO {α:Type}{l:List α}{i:Nat}{d:α}(h:l.length<=i):l.getD i d=d:=by
 rw[LH,List.getElem?_eq_none h];rfl
def bB (s:ByteArray):List Value:=[.string s]
inductive Tm where
  | mk (op n:Int) (q:Rat) (s:ByteArray) (ks:List Tm)
def Tm.op:Tm->Int|.mk op _ _ _ _=>op
def Tm.n:Tm->Int|.mk _ n _ _ _=>n
def Tm.q:Tm->Rat|.mk _ _ q _ _=>q
def Tm.s:Tm->ByteArray|.mk _ _ _ s _=>s
def Tm.ks:Tm->List Tm|.mk _ _ _ _ ks=>ks
def cV:Tm:=.mk 0 0 0 ⟨#[]⟩ []
structure PTm where
  op:Int
  n:Int
  q:Rat
  s:ByteArray
  A:Option Addr
  m:Nat
  c:Nat
abbrev pX (p:PTm):Value:=.agg #[iV p.op,iV p.n,.bool (af p.q.num),uV (lo (ab p.q.num)),.string (hi (ab p.q.num)),uV (lo (qd p.q)),.string (hi (qd p.q)),.string p.s,.slice p.A p.m p.c]
abbrev pC (p:PTm):List Value:=[iV p.op,iV p.n,.bool (af p.q.num),uV (lo (ab p.q.num)),.string (hi (ab p.q.num)),uV (lo (qd p.q)),.string (hi (qd p.q)),.string p.s,.slice p.A p.m p.c]
abbrev pW (o n:Int)(q:Rat)(s:ByteArray)(A:Option Addr)(m c:Nat):Value:=.agg #[iV o,iV n,.bool (af q.num),uV (lo (ab q.num)),.string (hi (ab q.num)),uV (lo (qd q)),.string (hi (qd q)),.string s,.slice A m c]
abbrev pG (o n:Int)(q:Rat)(s:ByteArray)(A:Option Addr)(m c:Nat):List Value:=[iV o,iV n,.bool (af q.num),uV (lo (ab q.num)),.string (hi (ab q.num)),uV (lo (qd q)),.string (hi (qd q)),.string s,.slice A m c]
def cH:PTm:=⟨0,0,0,⟨#[]⟩,none,0,0⟩
def cY (p:PTm):List Value:=[.int .i64 p.op,.int .i64 p.n,.bool (af p.q.num),.int .u64 (lo (ab p.q.num)),.string (hi (ab p.q.num)),.int .u64 (lo (qd p.q)),.string (hi (qd p.q)),.string p.s,.slice p.A p.m p.c]
def bS (p:PTm):Value:=.agg #[.int .i64 p.op,.int .i64 p.n,.bool (af p.q.num),.int .u64 (lo (ab p.q.num)),.string (hi (ab p.q.num)),.int .u64 (lo (qd p.q)),.string (hi (qd p.q)),.string p.s,.slice p.A p.m p.c]
def TmH:Nat->Hp->PTm->Tm->Prop
  | 0,_,_,_=>False
  | d+1,h,p,t=>p.op=t.op/\p.n=t.n/\p.q=t.q/\p.s=t.s/\p.m=t.ks.length/\p.m<=p.c/\∃ ps:List PTm,ps.length=t.ks.length/\SlO 9 cY cH h p.A ps/\∀ i,i<t.ks.length->TmH d h (ps.getD i cH) (t.ks.getD i cV)
theorem TmH.gw:∀ {d:Nat} {h h':Hp} {p:PTm} {t:Tm},TmH d h p t->Gw h h'->TmH d h' p t
 | 0,_,_,_,_,x,_=>x
 | d+1,_,_,_,_,⟨h1,h2,h3,h4,h5,h6,ps,h7,h8,h9⟩,u=>⟨h1,h2,h3,h4,h5,h6,ps,h7,h8.gw u,fun i hi=>TmH.gw (h9 i hi) u⟩
theorem TmH.mono {h:Hp}:∀ {d e:Nat} {p:PTm} {t:Tm},TmH d h p t->d<=e->TmH e h p t
 | d+1,e+1,_,_,⟨h1,h2,h3,h4,h5,h6,ps,h7,h8,h9⟩,u=>⟨h1,h2,h3,h4,h5,h6,ps,h7,h8,fun i hi=>TmH.mono (h9 i hi) oM⟩
structure RTm where
  op:Int
  n:Int
  neg:Bool
  zA:Option Addr
  zn:Nat
  zc:Nat
  dA:Option Addr
  dn:Nat
  dc:Nat
  s:ByteArray
  A:Option Addr
  m:Nat
  c:Nat
def RTm.t (r:RTm):RT:=(r.neg,.slice r.zA r.zn r.zc,.slice r.dA r.dn r.dc)
def bT:RTm:=⟨0,0,false,none,0,0,none,0,0,⟨#[]⟩,none,0,0⟩
def bD (r:RTm):List Value:=[.int .i64 r.op,.int .i64 r.n,.bool r.neg,.slice r.zA r.zn r.zc,.slice r.dA r.dn r.dc,.string r.s,.slice r.A r.m r.c]
def bJ (r:RTm):Value:=.agg #[.int .i64 r.op,.int .i64 r.n,.bool r.neg,.slice r.zA r.zn r.zc,.slice r.dA r.dn r.dc,.string r.s,.slice r.A r.m r.c]
def RZ (h:Hp)(t:RT)(q:Rat):Prop:=∃ has:Bool,RP h (tU t) q.num (if has then q.den else 0)/\(has=false->q=0)
theorem RZ.gw {h h':Hp}{t:RT}{q:Rat}(x:RZ h t q)(u:Gw h h'):RZ h' t q:=by
 obtain ⟨a,h1,b⟩:=x;exact ⟨a,h1.gw u,b⟩
def RmH:Nat->Hp->RTm->Tm->Prop
  | 0,_,_,_=>False
  | d+1,h,r,t=>r.op=t.op/\r.n=t.n/\RZ h r.t t.q/\r.s=t.s/\r.m=t.ks.length/\r.m<=r.c/\∃ rs:List RTm,rs.length=t.ks.length/\SlO 7 bD bT h r.A rs/\∀ i,i<t.ks.length->RmH d h (rs.getD i bT) (t.ks.getD i cV)
theorem FF {h:Hp}{b:Bool}{l u:Option Addr}{j i f y:Nat}{q:Rat}(x:RZ h (b,.slice l j i,.slice u f y) q)(p:0<f):RP h (.agg #[.bool b,.slice l j i,.slice u f y]) q.num q.den:=by
 obtain ⟨z,h1,C⟩:=x;cases z
 ·obtain ⟨A,c,D,d,e,H,F,I,B⟩:=h1
  injection e with e
  have o:=congrArg (fun a:Array Value=>a.toList) e
  simp at o
  have:f=(lim 0).length:=o.2.2.2.1;have h0:(lim 0).length=0:=by have:=@bR 0;omega
  omega
 ·exact h1
theorem Ji {h:Hp}{b:Bool}{o u:Option Addr}{l j y:Nat}{q:Rat}(x:RZ h (b,.slice o l j,.slice u 0 y) q):q=0:=by
 obtain ⟨p,h1,i⟩:=x;cases p
 ·exact i rfl
 ·obtain ⟨A,c,D,d,e,H,C,I,B⟩:=h1
  injection e with e
  have f:=congrArg (fun a:Array Value=>a.toList) e
  simp at f
  have F:0=(lim q.den).length:=f.2.2.2.1;have z:=(@bR q.den).2 q.den_pos
  omega
theorem RmH.gw:∀ {d:Nat} {h h':Hp} {r:RTm} {t:Tm},RmH d h r t->Gw h h'->RmH d h' r t
 | 0,_,_,_,_,x,_=>x
 | d+1,_,_,_,_,⟨h1,h2,h3,h4,h5,h6,ps,h7,h8,h9⟩,u=>⟨h1,h2,h3.gw u,h4,h5,h6,ps,h7,h8.gw u,fun i hi=>RmH.gw (h9 i hi) u⟩
structure Tms (d:Nat) (h:Hp) (ps:List PTm) (ts:List Tm):Prop where
  len:ps.length=ts.length
  at_:∀ i,i<ts.length->TmH d h (ps.getD i cH) (ts.getD i cV)
theorem Tms.gw {d:Nat}{h h':Hp}{ps:List PTm}{a:List Tm}(x:Tms d h ps a)(u:Gw h h'):Tms d h' ps a:=⟨x.len,fun i hi=>(x.at_ i hi).gw u⟩
structure Rms (d:Nat) (h:Hp) (rs:List RTm) (ts:List Tm):Prop where
  len:rs.length=ts.length
  at_:∀ i,i<ts.length->RmH d h (rs.getD i bT) (ts.getD i cV)
theorem Rms.gw {d:Nat}{h h':Hp}{b:List RTm}{a:List Tm}(x:Rms d h b a)(u:Gw h h'):Rms d h' b a:=⟨x.len,fun i hi=>(x.at_ i hi).gw u⟩
theorem Rms.nil {d:Nat}{h:Hp}:Rms d h [] []:=⟨rfl,fun i hi=>by simp at hi⟩
theorem Rms.snoc {d:Nat}{h:Hp}{b:List RTm}{a:List Tm}{r:RTm}{t:Tm}(x:Rms d h b a)(y:RmH d h r t):Rms d h (b++[r]) (a++[t]):=by
 refine ⟨by simp[x.len],fun i hi=>?_⟩;rw[zY,N9] at hi
 rw[eA,eA,x.len]
 by_cases e:i<a.length
 ·rw[if_pos e,if_pos e];exact x.at_ i e
 ·rw[if_neg e,if_neg e,if_pos oM,if_pos oM];exact y
theorem Tms.nil {d:Nat}{h:Hp}:Tms d h [] []:=⟨rfl,fun i hi=>by simp at hi⟩
theorem Tms.snoc {d:Nat}{h:Hp}{b:List PTm}{a:List Tm}{r:PTm}{t:Tm}(x:Tms d h b a)(y:TmH d h r t):Tms d h (b++[r]) (a++[t]):=by
 refine ⟨by simp[x.len],fun i hi=>?_⟩;rw[zY,N9] at hi
 rw[eA,eA,x.len]
 by_cases e:i<a.length
 ·rw[if_pos e,if_pos e];exact x.at_ i e
 ·rw[if_neg e,if_neg e,if_pos oM,if_pos oM];exact y
theorem TmH.mk {d:Nat}{h:Hp}{op n:Int}{q:Rat}{s:ByteArray}{A:Option Addr}{c:Nat}{ps:List PTm}{ks:List Tm}(x:Tms d h ps ks)(b:ps.length<=c)(a:SlO 9 cY cH h A ps):TmH (d+1) h ⟨op,n,q,s,A,ps.length,c⟩ (.mk op n q s ks) :=
 ⟨rfl,rfl,rfl,rfl,x.len,b,ps,x.len,a,x.at_⟩
theorem RmH.mk {d:Nat}{h:Hp}{op n:Int}{b:Bool}{f j:Option Addr}{e a i l:Nat}{q:Rat}{s:ByteArray}{A:Option Addr}{c:Nat}{ps:List RTm}{ks:List Tm}(z:RZ h (b,.slice f e a,.slice j i l) q)(x:Rms d h ps ks)(o:ps.length<=c)(p:SlO 7 bD bT h A ps):RmH (d+1) h ⟨op,n,b,f,e,a,j,i,l,s,A,ps.length,c⟩ (.mk op n q s ks) :=
 ⟨rfl,rfl,z,rfl,x.len,o,ps,x.len,p,x.at_⟩
theorem TmH.open {d:Nat}{h:Hp}{p:PTm}{t:Tm}(x:TmH (d+1) h p t):∃ op n q s A c,∃ ps:List PTm,∃ ks:List Tm,p=⟨op,n,q,s,A,ps.length,c⟩/\t=.mk op n q s ks/\ps.length<=c/\SlO 9 cY cH h A ps/\Tms d h ps ks:=by
  obtain ⟨op,n,q,s,A,m,c⟩:=p;cases t with
  | mk tG n2 q2 s2 ks =>
    obtain ⟨h1,e,j,b,o,i,ps,a,l,f⟩:=x;obtain rfl:op=tG:=h1;obtain rfl:n=n2:=e;obtain rfl:q=q2:=j;obtain rfl:s=s2:=b;obtain rfl:m=ps.length:=(show m=ks.length from o).trans a.symm;exact ⟨op,n,q,s,A,c,ps,ks,rfl,rfl,i,l,a,f⟩
theorem RmH.mono {h:Hp}{d e:Nat}{p:RTm}{t:Tm}(x:RmH d h p t)(u:d<=e):RmH e h p t:=by
  induction d generalizing e p t with
  | zero=>exact x.elim
  | succ d ih =>
    cases e with
    | zero=>omega
    | succ e =>
      obtain ⟨h1,b,j,a,o,f,ps,y,l,c⟩:=x;exact ⟨h1,b,j,a,o,f,ps,y,l,fun i hi=>ih (c i hi) oM⟩
theorem RmH.open {d:Nat}{h:Hp}{p:RTm}{t:Tm}(x:RmH (d+1) h p t):∃ op n b f e a j i l q s A c,∃ ps:List RTm,∃ ks:List Tm,p=⟨op,n,b,f,e,a,j,i,l,s,A,ps.length,c⟩/\t=.mk op n q s ks/\RZ h (b,.slice f e a,.slice j i l) q/\ps.length<=c/\SlO 7 bD bT h A ps/\Rms d h ps ks:=by
  obtain ⟨op,n,b,f,e,a,j,i,l,s,A,m,c⟩:=p;cases t with
  | mk tG n2 q2 s2 ks =>
    obtain ⟨h1,y,C,u,F,B,ps,o,D,z⟩:=x;obtain rfl:op=tG:=h1;obtain rfl:n=n2:=y;obtain rfl:s=s2:=u;obtain rfl:m=ps.length:=(show m=ks.length from F).trans o.symm;exact ⟨op,n,b,f,e,a,j,i,l,q2,s,A,c,ps,ks,rfl,rfl,C,B,D,o,z⟩
def dO (f:Nat->Nat):Nat->Nat
  | 0=>0
  | k+1=>dO f k+f k
def bE (n:Int):Nat:=if n.natAbs<=1 then 1 else n.natAbs
def bZ:Nat->Tm->Nat
  | 0,_=>0
  | d+1,t=>if t.ks.length=0 then 1 else (if t.op=11 then 2 else if t.op=8 then bE t.n else 1)*dO (fun i=>bZ d (t.ks.getD i cV)) t.ks.length
def WfT (ok:ByteArray->Prop):Nat->Tm->Prop
  | 0,_=>False
  | d+1,t=>fv t.op=t.ks.length/\(t.op≠1->t.q=0)/\LQ 3000 t.q/\(t.op=2->ok t.s)/\(t.op≠2->t.s=⟨#[]⟩)/\(t.op≠8->t.n=0) /\ -12<=t.n/\t.n<=12/\∀ i,i<t.ks.length->WfT ok d (t.ks.getD i cV)
theorem WfT.mono {ok:ByteArray->Prop}:∀ {d e:Nat} {t:Tm},WfT ok d t->d<=e->WfT ok e t
 | d+1,e+1,_,⟨h1,h2,h3,h4,h5,h6,h7,h8,h9⟩,u=>⟨h1,h2,h3,h4,h5,h6,h7,h8,fun i hi=>WfT.mono (h9 i hi) oM⟩
def nz (sm:ByteArray->Prop):Nat->Tm->Prop
  | 0,_=>False
  | d+1,t=>t.ks.length<=3/\(-1000<=t.op/\t.op<=1000)/\(-1000<=t.n/\t.n<=1000)/\LQ 3000 t.q/\sm t.s/\∀ i,i<t.ks.length->nz sm d (t.ks.getD i cV)
theorem WfT.sm {ok sm:ByteArray->Prop}(h:∀ s,ok s->sm s)(h0:sm ⟨#[]⟩):∀ {d:Nat} {t:Tm},WfT ok d t->nz sm d t
  | d+1,t,⟨h1,h2,h3,h4,h5,h6,h7,h8,h9⟩=>by
    have a:=aE t.op;refine ⟨by omega,⟨by omega,by omega⟩,⟨by omega,by omega⟩,h3,?_,fun i hi=>WfT.sm h h0 (h9 i hi)⟩
    by_cases e:t.op=2
    . exact h _ (h4 e)
    . rw[h5 e];exact h0
def WfT1 (ok:ByteArray->Prop):Nat->Tm->Prop
  | 0,_=>False
  | d+1,t=>fv t.op=t.ks.length/\(t.op≠1->t.q=0)/\LQ 1 t.q/\(t.op=2->ok t.s)/\(t.op≠2->t.s=⟨#[]⟩)/\(t.op≠8->t.n=0) /\ -12<=t.n/\t.n<=12/\∀ i,i<t.ks.length->WfT1 ok d (t.ks.getD i cV)
theorem WfT1.wf {ok:ByteArray->Prop}:∀ {d:Nat} {t:Tm},WfT1 ok d t->WfT ok d t
 | _+1,_,⟨h1,h2,h3,h4,h5,h6,h7,h8,h9⟩=>⟨h1,h2,h3.mono kD,h4,h5,h6,h7,h8,fun i hi=>WfT1.wf (h9 i hi)⟩
def SmT1 (sm:ByteArray->Prop):Nat->Tm->Prop
  | 0,_=>False
  | d+1,t=>t.ks.length<=3/\(-1000<=t.op/\t.op<=1000)/\(-1000<=t.n/\t.n<=1000)/\LQ 1 t.q/\sm t.s/\∀ i,i<t.ks.length->SmT1 sm d (t.ks.getD i cV)
theorem SmT1.mono {sm:ByteArray->Prop}:∀ {d e:Nat} {t:Tm},SmT1 sm d t->d<=e->SmT1 sm e t
 | d+1,e+1,_,⟨h1,h2,h3,h4,h5,h6⟩,u=>⟨h1,h2,h3,h4,h5,fun i hi=>SmT1.mono (h6 i hi) oM⟩
theorem SmT1.sm {sm:ByteArray->Prop}:∀ {d:Nat} {t:Tm},SmT1 sm d t->nz sm d t
 | _+1,_,⟨h1,h2,h3,h4,h5,h6⟩=>⟨h1,h2,h3,h4.mono kD,h5,fun i hi=>SmT1.sm (h6 i hi)⟩
theorem WfT1.sm {ok sm:ByteArray->Prop}(h:∀ s,ok s->sm s)(h0:sm ⟨#[]⟩):∀ {d:Nat} {t:Tm},WfT1 ok d t->SmT1 sm d t
  | d+1,t,⟨h1,h2,h3,h4,h5,h6,h7,h8,h9⟩=>by
    have a:=aE t.op;refine ⟨by omega,⟨by omega,by omega⟩,⟨by omega,by omega⟩,h3,?_,fun i hi=>WfT1.sm h h0 (h9 i hi)⟩
    by_cases e:t.op=2
    . exact h _ (h4 e)
    . rw[h5 e];exact h0
def KR (isb:ByteArray->Bool)(op n:Int)(q:Rat)(s:ByteArray)(m:Nat):Prop:=fv op=m/\(op=1\/q.num=0)/\((op=2->isb s=true)/\(op≠2->s=⟨#[]⟩))/\((op=8\/n=0) /\ -12<=n/\n<=12)
section
variable {isb:ByteArray->Bool} {d:Nat} {op n:Int} {q:Rat} {s:ByteArray} {ks:List Tm}
theorem Cu (w:WfT (fun s=>isb s=true) (d+1) (.mk op n q s ks)):KR isb op n q s ks.length:=by
 obtain ⟨h1,c,l,a,f,h,i,b,j⟩:=w;refine ⟨h1,?_,⟨a,f⟩,?_,i,b⟩
 ·by_cases e:op=1
  ·exact .inl e
  ·exact .inr (NT.2 (c e))
 ·by_cases e:op=8
  ·exact .inl e
  ·exact .inr (h e)
theorem rp (h:¬KR isb op n q s ks.length):∃ a,Value.bool false=.bool a/\(a=true↔WfT (fun s=>isb s=true) (d+1) (.mk op n q s ks)):=⟨false,rfl,fun b=>(by cases b),fun w=>absurd (Cu w) h⟩
theorem E5 {k:Nat}(hk:k<ks.length){c:Bool}(a:c=false)(h:c=true↔WfT (fun s=>isb s=true) d (ks.getD k cV)):∃ b,Value.bool false=.bool b/\(b=true↔WfT (fun s=>isb s=true) (d+1) (.mk op n q s ks)):=⟨false,rfl,fun f=>(by cases f),fun ⟨_,_,_,_,_,_,_,_,e⟩=>by rw[h.2 (e k hk)] at a;cases a⟩
theorem ET (h:KR isb op n q s ks.length)(hq:LQ 3000 q)(c:∀ i,i<ks.length->WfT (fun s=>isb s=true) d (ks.getD i cV)):∃ a,Value.bool true=.bool a/\(a=true↔WfT (fun s=>isb s=true) (d+1) (.mk op n q s ks)):=by
 obtain ⟨h1,j,⟨b,l⟩,o,p,f⟩:=h;refine ⟨true,rfl,fun _=>⟨h1,fun e=>NT.1 (j.resolve_left e),hq,b,l,fun e=>o.resolve_left e,p,f,c⟩,fun _=>rfl⟩
end
def HU (nm:Int->ByteArray)(l:List Stp):Nat->Nat->Tm
  | 0,_=>cV
  | f+1,i =>
    if (l.getD i d9).op=2 then .mk 2 0 0 (nm (l.getD i d9).n) []
    else if fv (l.getD i d9).op=1 then .mk (l.getD i d9).op (l.getD i d9).n 0 ⟨#[]⟩ [HU nm l f (l.getD i d9).a.toNat]
    else if fv (l.getD i d9).op=2 then .mk (l.getD i d9).op 0 0 ⟨#[]⟩ [HU nm l f (l.getD i d9).a.toNat,HU nm l f (l.getD i d9).b.toNat]
    else .mk (l.getD i d9).op 0 (l.getD i d9).q ⟨#[]⟩ []
structure MapJ (h0:Hp) (B:List Bx) (w:World) (h:Hp) (b:Nat) (es:List MapEntry) (clk:Nat):Prop where
  obj:w.heap[b]?=some (.map es.toArray clk)
  jk:h[b]?=some bc
  lo:h0.size<=b
  nb:∀ x∈B,x.b≠b
def MapS (h:Hp)(b:Nat)(es:List MapEntry):Prop:=∃ clk,h[b]?=some (.map es.toArray clk)
theorem MapS.gw {h h':Hp}{b:Nat}{a:List MapEntry}(x:MapS h b a)(u:Gw h h'):MapS h' b a:=by
 obtain ⟨c,e⟩:=x;refine ⟨c,?_⟩
 rcases u.blk b (aJ e) with k|k
 ·exact k.trans e
 ·rw[e] at k;cases k
theorem MapS.w {w:World}{h:Hp}{b:Nat}{d:List MapEntry}(x:MapS h b d)(g:G w h):∃ a,w.heap[b]?=some (.map d.toArray a):=by
 obtain ⟨c,e⟩:=x;refine ⟨c,?_⟩
 rcases g.blk b with k|k
 ·rw[<-k];exact e
 ·rw[e] at k;cases k
theorem uu {P:Program}(w:World){mty kt et:TypeId}{b a:Nat}{c:Array MapEntry}{s:ByteArray}{val:Value}(e:P.underlying mty=some (.map kt et))(hk:P.underlying kt=some .string)(d:w.heap[b]?=some (.map c a))(hf:Instr.findNow .string (.string s) c.toList 0=some none) :
  (Instr.mapUpdate mty (.map (some b)) (.string s) val).run P w=.ok () { w with heap:=w.heap.setIfInBounds b (.map (c.push { key:=.string s,val:=val,born:=a }) (a+1)) }:=by
 have f:(Instr.checkKey false 10000 kt (.string s)).run P w=.ok () w:=MapKept.run_checkKey (k:=.string s) hk (by simp[MapKept.IsKey]) false 9999
 simp[Instr.mapUpdate,run_underlying e,MapKept.run_getObj_map d,f,MapKept.run_findKey hk hf,MapKept.run_setObj_map _ d,Result.andThen]
theorem pI {P:Program}(w:World){mty kt et:TypeId}{b a i:Nat}{c:Array MapEntry}{s:ByteArray}{val f:Value}(o:P.underlying mty=some (.map kt et))(hk:P.underlying kt=some .string)(d:w.heap[b]?=some (.map c a))(hf:Instr.findNow .string (.string s) c.toList 0=some (some (i,f)))(j:((c[i]?).map (·.key)).getD (.string s)=.string s) :
  (Instr.mapUpdate mty (.map (some b)) (.string s) val).run P w=.ok () { w with heap:=w.heap.setIfInBounds b (.map (c.modify i fun e=>{ e with key:=.string s,val:=val }) a) }:=by
 have l:(Instr.checkKey false 10000 kt (.string s)).run P w=.ok () w:=MapKept.run_checkKey (k:=.string s) hk (by simp[MapKept.IsKey]) false 9999;have hq:(s == s)=true:=by first|exact beq_self_eq_true s|(show (s.data == s.data)=true;exact beq_self_eq_true _)|(cases s;rfl)
 have h:Instr.sameBits 10000 (.string s) (.string s)=true:=by simp[Instr.sameBits,hq]
 simp[Instr.mapUpdate,run_underlying o,MapKept.run_getObj_map d,l,MapKept.run_findKey hk hf,MapKept.run_setObj_map _ d,Result.andThen,j,Instr.keyThatStays,h]
theorem AW {P:Program}(w:World){mty kt et:TypeId}{b c:Nat}{a:Array MapEntry}{s:ByteArray}(ok:Bool){v:Value}{found:Bool}(e:P.underlying mty=some (.map kt et))(hk:P.underlying kt=some .string)(d:w.heap[b]?=some (.map a c))
  (hf:(∃ i,Instr.findNow .string (.string s) a.toList 0=some (some (i,v))/\found=true)\/(Instr.findNow .string (.string s) a.toList 0=some none/\found=false/\(zeroValue et).run P w=.ok v w)) :
  (Instr.lookup mty (.map (some b)) (.string s) ok).run P w=.ok (if ok then .tuple #[v,.bool found] else v) w:=by
 have f:(Instr.checkKey a.isEmpty 10000 kt (.string s)).run P w=.ok () w:=MapKept.run_checkKey (k:=.string s) hk (by simp[MapKept.IsKey]) _ 9999
 rcases hf with ⟨i,hf,rfl⟩|⟨hf,rfl,hz⟩
 ·simp[Instr.lookup,run_underlying e,MapKept.run_getObj_map d,f,MapKept.run_findKey hk hf,Result.andThen]
 ·simp[Instr.lookup,run_underlying e,MapKept.run_getObj_map d,f,MapKept.run_findKey hk hf,hz,Result.andThen]
theorem uD {w:World}{b:Nat}{o o':Obj}(d:w.heap[b]?=some o):Put b w { w with heap:=w.heap.setIfInBounds b o' }/\({ w with heap:=w.heap.setIfInBounds b o' }:World).heap[b]?=some o':=by
 have a:b<w.heap.size:=(Array.getElem?_eq_some_iff.1 d).1;refine ⟨⟨rfl,rfl,rfl,by simp,fun c e=>by show (w.heap.setIfInBounds b o')[c]?=_;rw[la (Ne.symm e)]⟩,?_⟩
 show (w.heap.setIfInBounds b o')[b]?=_
 rw[FA a]
section laws
variable {P:Program} {n:Nat} {N R:Po} {X:Nat->Po} {ops:Array Oper} {k:Nat} {Γ:bU} {w:World} {h:Hp} {w0:World} {h0:Hp} {B:List Bx} {Rs:List Rw} {F:List (Hp->Prop)}
theorem SS.pokeJ (s:SS w0 h0 w h B [] F){b:Nat}{w':World}(d:h[b]?=some bc)(c:h0.size<=b)(hn:∀ x∈B,x.b≠b)(p:Put b w w'):SS w0 h0 w' h B [] F :=
 ⟨s.g0,⟨s.st.up.put p d c s.g0.size,fun x a=>(p.blk _ (hn x a)).trans (s.st.own x a),s.st.jk,s.st.lo,s.st.nd⟩,fun _ a=>(by cases a),.nil,s.mo,s.f⟩
theorem HZ (t:Nat)(s:SS w0 h0 w h B Rs F)(H:∀ b w' h',SS w0 h0 w' h' B Rs F->MapJ h0 B w' h' b [] 0->LG P n N R X ops (k+1) ((t,.map (some b))::Γ) w')(a:cL ops Γ k t n=true:=by kernel_rfl)
  (hr:(execOp (ev Γ) (am ops k)).run P w=.ok (.value (.map (some w.heap.size))) (w.alloc (.map #[] 0)):=by kernel_rfl):LG P n N R X ops k Γ w:=by
 have u:Up w h (w.alloc (.map #[] 0)) (h.push bc):=Up.allocAny s.g _ _ (.inr rfl);refine LG.val t _ _ (bQ a).1 (bQ a).2 hr (H _ _ _ (s.step u) ⟨?_,?_,?_,fun x c e=>?_⟩)
 ·rw[heap_alloc];exact gg
 ·rw[s.g.size];exact gg
 ·rw[s.g.size];exact s.st.sz
 ·have:=aJ (s.st.jk x c)
  have:=s.g.size
  omega
theorem pr {b a:Nat}{c:List MapEntry}(mty kt et:TypeId)(ky:ByteArray)(val:Value)(s:SS w0 h0 w h B [] F)(m:MapJ h0 B w h b c a)(H:∀ w',SS w0 h0 w' h B [] F->MapJ h0 B w' h b (c++[⟨.string ky,val,a⟩]) (a+1)->LG P n N R X ops (k+1) Γ w')
  (d:cS ops Γ k=true:=by kernel_rfl)(f:execOp (ev Γ) (am ops k)=(do Instr.mapUpdate mty (.map (some b)) (.string ky) val;pure .skip):=by kernel_rfl)(e:P.underlying mty=some (.map kt et):=by kernel_rfl)(hk:P.underlying kt=some .string:=by kernel_rfl)(hf:Instr.findNow .string (.string ky) c 0=some none:=by kernel_rfl):LG P n N R X ops k Γ w:=by
 have hr:=uu w (val:=val) e hk m.obj hf;obtain ⟨p,i⟩:=uD (o':=.map (c.toArray.push { key:=.string ky,val:=val,born:=a }) (a+1)) m.obj;refine LG.store _ (iu d).1 (iu d).2 ?_ (H _ (s.pokeJ m.jk m.lo m.nb p) ⟨?_,m.jk,m.lo,m.nb⟩)
 ·rw[f];simp[hr,Result.andThen]
 ·rw[i];simp
theorem Ln {b a i:Nat}{c:List MapEntry}(mty kt et:TypeId)(ky:ByteArray)(val l:Value)(d:List MapEntry)(s:SS w0 h0 w h B [] F)(m:MapJ h0 B w h b c a)(H:∀ w',SS w0 h0 w' h B [] F->MapJ h0 B w' h b d a->LG P n N R X ops (k+1) Γ w')
  (f:cS ops Γ k=true:=by kernel_rfl)(x:execOp (ev Γ) (am ops k)=(do Instr.mapUpdate mty (.map (some b)) (.string ky) val;pure .skip):=by kernel_rfl)(o:P.underlying mty=some (.map kt et):=by kernel_rfl)(hk:P.underlying kt=some .string:=by kernel_rfl)(hf:Instr.findNow .string (.string ky) c 0=some (some (i,l)):=by kernel_rfl)
  (u:((c.toArray[i]?).map (·.key)).getD (.string ky)=.string ky:=by kernel_rfl)(j:c.toArray.modify i (fun e=>{ e with key:=.string ky,val:=val })=d.toArray:=by kernel_rfl):LG P n N R X ops k Γ w:=by
 have hr:=pI w (val:=val) o hk m.obj hf u;obtain ⟨p,y⟩:=uD (o':=.map (c.toArray.modify i fun e=>{ e with key:=.string ky,val:=val }) a) m.obj;refine LG.store _ (iu f).1 (iu f).2 ?_ (H _ (s.pokeJ m.jk m.lo m.nb p) ⟨?_,m.jk,m.lo,m.nb⟩)
 ·rw[x];simp[hr,Result.andThen]
 ·rw[y,j]
theorem IZ (t:Nat){b:Nat}{a:List MapEntry}(mty kt et:TypeId)(ky:ByteArray)(ok:Bool)(v:Value)(found:Bool)(s:SS w0 h0 w h B Rs F)(m:MapS h b a)(H:LG P n N R X ops (k+1) ((t,if ok then .tuple #[v,.bool found] else v)::Γ) w)(c:cL ops Γ k t n=true:=by kernel_rfl)
  (e:execOp (ev Γ) (am ops k)=(do pure (.value (<-Instr.lookup mty (.map (some b)) (.string ky) ok))):=by kernel_rfl)(d:P.underlying mty=some (.map kt et):=by kernel_rfl)(hk:P.underlying kt=some .string:=by kernel_rfl)
  (hf:(∃ i,Instr.findNow .string (.string ky) a 0=some (some (i,v))/\found=true)\/(Instr.findNow .string (.string ky) a 0=some none/\found=false/\∀ w,(zeroValue et).run P w=.ok v w)):LG P n N R X ops k Γ w:=by
 obtain ⟨f,j⟩:=m.w s.g;refine LG.val t _ w (bQ c).1 (bQ c).2 ?_ H;rw[e];have hr:=AW w ok (v:=v) (found:=found) d hk j (hf.imp id fun h=>⟨h.1,h.2.1,h.2.2 w⟩)
 simp[hr,Result.andThen]
theorem K9 (t:Nat){b:Nat}{a:List MapEntry}(mty ty kt et:TypeId)(s:SS w0 h0 w h B Rs F)(m:MapS h b a)(H:LG P n N R X ops (k+1) ((t,.int .i64 (a.length:Nat))::Γ) w)(c:cL ops Γ k t n=true:=by kernel_rfl)
  (e:execOp (ev Γ) (am ops k)=(do pure (.value (<-Builtin.len_ #[mty] ty #[.map (some b)]))):=by kernel_rfl)(i:P.underlying mty=some (.map kt et):=by kernel_rfl):LG P n N R X ops k Γ w:=by
 obtain ⟨d,f⟩:=m.w s.g;refine LG.val t _ w (bQ c).1 (bQ c).2 ?_ H;rw[e]
 have hr:(Builtin.len_ #[mty] ty #[.map (some b)]).run P w=.ok (goInt a.toArray.size) w:=by
  simp[Builtin.len_,run_underlying i,MapKept.run_getObj_map f,Result.andThen]
 simp[hr,Result.andThen,goInt]
theorem SS.pubMap {b a:Nat}{j:List MapEntry}(s:SS w0 h0 w h B [] F)(m:MapJ h0 B w h b j a):∃ h',SS w0 h0 w h' B [] F/\MapS h' b j:=by
 have d:=aJ m.jk;refine ⟨h.setIfInBounds b (.map j.toArray a),⟨s.g0,⟨⟨s.st.up.ext,⟨by simp;exact s.st.up.gr.size,fun c l=>?_⟩,⟨by simp;exact s.st.up.g.size,fun c=>?_⟩⟩,s.st.own,fun x i=>?_,s.st.lo,s.st.nd⟩,fun _ i=>(by cases i),.nil,s.mo,s.f.gw s.mo ⟨by simp,fun c _=>?_⟩⟩,a,?_⟩
 ·have:=m.lo
  rw[la oM];exact s.st.up.gr.blk c l
 ·by_cases e:b=c
  ·subst e;left;rw[FA d];exact m.obj.symm
  ·rw[la e];exact s.st.up.g.blk c
 ·rw[la (Ne.symm (m.nb x i))];exact s.st.jk x i
 ·by_cases e:b=c
  ·subst e;exact .inr m.jk
  ·left;rw[la e]
 ·rw[FA d]
end laws
theorem oe (f:Nat->Nat){a b:Nat}(h:a<=b):dO f a<=dO f b:=by
 induction h with
 | refl=>exact ep _
 | step _ ih=>exact e4 ih (Oa _ _)
def dI (op n:Int):Nat:=if op=11 then 2 else if op=8 then bE n else 1
theorem dl (op n:Int):1<=dI op n:=by
 unfold dI bE
 split
 ·omega
 ·split
  ·split<;>omega
  ·omega
theorem uM {d:Nat}{op n:Int}{q:Rat}{s:ByteArray}{ks:List Tm}(h:ks.length=0):bZ (d+1) (.mk op n q s ks)=1:=if_pos h
theorem jO {d:Nat}{op n:Int}{q:Rat}{s:ByteArray}{ks:List Tm}(h:ks.length≠0):bZ (d+1) (.mk op n q s ks)=dI op n*dO (fun i=>bZ d (ks.getD i cV)) ks.length:=if_neg h
theorem sv {d:Nat}{op n:Int}{q:Rat}{s:ByteArray}{ks:List Tm}(h:ks.length≠0):dO (fun i=>bZ d (ks.getD i cV)) ks.length<=bZ (d+1) (.mk op n q s ks):=by
 rw[jO h];exact Nc _ (dl op n)
theorem lZ {m s:Nat}(h:1<=m):min (m*min s 1001) 1001=min (m*s) 1001:=by
 rcases Nat.le_total s 1001 with e|e
 ·rw[Nat.min_eq_left e]
 ·rw[MA e,MA (e4 e (Nc _ h)),MA (Nc _ h)]
theorem DY (op:Int)(w:World)(h:Hp)(g:G w h):CV 118 #[iV op] w h (iV (fv op)):=by
 have a:=sS g;refine go Tryz.func118 [(0,iV op)] rfl (aa a ac (ah (aa a ac (aY (cQ (ax ?_))))));cases d:((op:Int) == (1:Int))
 .
  have p:=aj d;refine lB 5 d (lL a ac (ag (kQ ?_)));cases j:((op:Int) == (2:Int))
  .
   have u:=aj j;refine lB 6 j (lL a ac (ag (cQ (ax ?_))));cases f:((op:Int) == (7:Int))
   .
    have x:=aj f;refine lB 8 f (lL a ac (ag (ax ?_)));cases o:((op:Int) == (8:Int))
    .
     have y:=aj o;refine lB 9 o (lL a ac (ag (ax ?_)));cases c:((op:Int) == (9:Int))
     .
      have B:=aj c;refine lB 10 c (lL a ac (ag (ax ?_)));cases b:((op:Int) == (10:Int))
      .
       have D:=aj b;refine lB 11 b (lL a ac (ag (kQ ?_)));cases e:((op:Int) == (11:Int))
       .
        have z:=aj e;refine lB 12 e (lL a ac (ag (cQ (ax ?_))));cases l:((op:Int) == (3:Int))
        .
         have F:=aj l;refine lB 14 l (lL a ac (ag (ax ?_)));cases i:((op:Int) == (4:Int))
         .
          have C:=aj i;refine lB 15 i (lL a ac (ag (ax ?_)));cases za:((op:Int) == (5:Int))
          .
           have J:=aj za;refine lB 16 za (lL a ac (ag (ax ?_)));cases zb:((op:Int) == (6:Int))
           .
            have M:=aj zb;refine lB 17 zb (lL a ac (ag (ax ?_)));cases H:((op:Int) == (12:Int))
            .
             have L:=aj H;refine lB 18 H (lL a ac (ag (kQ ?_)));cases I:((op:Int) == (13:Int))
             .
              have K:=aj I;exact lB 19 I (lL a ac (ag (cK (aa a ac (ae a [] (iV (-1)) (congrArg (Value.int .i64) (by have:=aE op;omega)))))))
             have K:=eq_of_beq I;exact lB 19 I (lL a ac (ak (aa a ac (ae a [] (iV 2) (congrArg (Value.int .i64) (by have:=aE op;omega))))))
            have L:=eq_of_beq H;exact lB 18 H (lL a ac (ak (cK (co (aa a ac (ae a [] (iV 2) (congrArg (Value.int .i64) (by have:=aE op;omega))))))))
           have M:=eq_of_beq zb;exact lB 17 zb (lL a ac (ak (cK (co (aa a ac (ae a [] (iV 2) (congrArg (Value.int .i64) (by have:=aE op;omega))))))))
          have J:=eq_of_beq za;exact lB 16 za (lL a ac (ak (cK (co (aa a ac (ae a [] (iV 2) (congrArg (Value.int .i64) (by have:=aE op;omega))))))))
         have C:=eq_of_beq i;exact lB 15 i (lL a ac (ak (cK (co (aa a ac (ae a [] (iV 2) (congrArg (Value.int .i64) (by have:=aE op;omega))))))))
        have F:=eq_of_beq l;exact lB 14 l (lL a ac (ak (cK (co (aa a ac (ae a [] (iV 2) (congrArg (Value.int .i64) (by have:=aE op;omega))))))))
       have z:=eq_of_beq e;exact lB 12 e (lL a ac (ak (aa a ac (ae a [] (iV 1) (congrArg (Value.int .i64) (by have:=aE op;omega))))))
      have D:=eq_of_beq b;exact lB 11 b (lL a ac (ak (cK (co (aa a ac (ae a [] (iV 1) (congrArg (Value.int .i64) (by have:=aE op;omega))))))))
     have B:=eq_of_beq c;exact lB 10 c (lL a ac (ak (cK (co (aa a ac (ae a [] (iV 1) (congrArg (Value.int .i64) (by have:=aE op;omega))))))))
    have y:=eq_of_beq o;exact lB 9 o (lL a ac (ak (cK (co (aa a ac (ae a [] (iV 1) (congrArg (Value.int .i64) (by have:=aE op;omega))))))))
   have x:=eq_of_beq f;exact lB 8 f (lL a ac (ak (cK (co (aa a ac (ae a [] (iV 1) (congrArg (Value.int .i64) (by have:=aE op;omega))))))))
  have u:=eq_of_beq j;exact lB 6 j (lL a ac (ak (aa a ac (ae a [] (iV 0) (congrArg (Value.int .i64) (by have:=aE op;omega))))))
 have p:=eq_of_beq d;exact lB 5 d (lL a ac (ak (cK (co (aa a ac (ae a [] (iV 0) (congrArg (Value.int .i64) (by have:=aE op;omega))))))))
theorem FS (n:Int)(h0 : -12<=n)(h1:n<=12)(w:World)(h:Hp)(g:G w h):CV 119 #[iV n] w h (nV (bE n)):=by
 have a:=sS g;refine go Tryz.func119 [(0,iV n)] rfl (aa a ac (ah (aa a ac ?_)));cases b:(decide ((n:Int)<=(-1073741824:Int)))
 .
  have d:=oF b;refine lB 4 b (lL a aD ?_);cases c:(decide ((1073741824:Int)<=(n:Int)))
  .
   have e:=oF c;refine lB 7 c (lL a [.v qF] (ag (cK (aa a aD (lI 11 (0-n) ?_)))));refine lV 12 (iV (max (max (n:Int) (0-n:Int)) (1:Int))) ?_ (hr:=aI (n:=(if (1:Int)>(if (0-n:Int)>(n:Int) then (0-n:Int) else (n:Int)) then (1:Int) else (if (0-n:Int)>(n:Int) then (0-n:Int) else (n:Int)))) kR (by simp only[qk]));exact lL a ac (ae a [] (iV (max (max (n:Int) (0-n:Int)) (1:Int))) (congrArg (Value.int .i64) (by unfold bE;(repeat' split)<;>omega)))
  have e:=oT c;exact lB 7 c (lL a [.v qT] (ak (aa a ac (ae a [] (iV 1073741824) (congrArg (Value.int .i64) (by unfold bE;(repeat' split)<;>omega))))))
 have d:=oT b;refine lB 4 b (lL a ac (lG 6 ?_));exact lG 7 (lL a [.v qT] (ak (aa a ac (ae a [] (iV 1073741824) (congrArg (Value.int .i64) (by unfold bE;(repeat' split)<;>omega))))))
theorem BK  (sm:ByteArray->Prop)(d:Nat)(O:∀ (p:PTm) (t:Tm) (a:Int) (w:World) (h:Hp),G w h->TmH d h p t->nz sm d t->(d:Int)<=a->a<=1000->Calls Tryz.prog 74 #[bS p,iV a] w (Ret w h (fun v _=>v=.bool false)))(op n:Int)(q:Rat)(s:ByteArray)(A:Option Addr)(c:Nat)(ps:List PTm)(ks:List Tm)(hc:ps.length<=c)(C:ps.length<=3)(V:ks.length<=3)(S : -1000<=op/\op<=1000)(hn : -1000<=n/\n<=1000)(hq:LQ 3000 q)(U:sm s)(M:∀ i,i<ks.length->nz sm d (ks.getD i cV))(a:Int)(hm:((d+1:Nat):Int)<=a)(I:a<=1000)(w:World)(h:Hp)(g:G w h)(J:SlO 9 cY cH h A ps)(y:Tms d h ps ks):CV 74 #[bS ⟨op,n,q,s,A,ps.length,c⟩,iV a] w h (.bool false):=by
 have b:=(((sS g).aS J).add (K:=fun l=>Tms d l ps ks) y);have H:=(b.f.1).len;refine go Tryz.func74 [(0,bS ⟨op,n,q,s,A,ps.length,c⟩),(1,iV a)] rfl (ax (lA 2 53 (cY ⟨op,n,q,s,A,ps.length,c⟩) b (fun B w2 F b=>lL b ac (ah (aa b ac ?_)))));cases j:(decide ((a:Int)<(1:Int)))
 .
  have u:=oF j;refine lB 8 j (ag (cK (cQ (aa b [.v (qP B 8),.o (qS A ps.length c) 0 8 1,.v (nV ps.length),.c] (aY ?_)))));refine bH _ (CG.loop (fun z Γ D=>∃ (k:Nat) (l:Hp),z=ps.length-k/\Γ=[(1,iV a),(10,qS A ps.length c),(11,nV ps.length),(12,nV k)]/\SS w h D l [⟨B,53,cY ⟨op,n,q,s,A,ps.length,c⟩⟩] [] [fun l=>Tms d l ps ks,fun l=>SlO 9 cY cH l A ps]/\k<=ps.length) _ ⟨0,F,rfl,rfl,b.to _ _,MG _⟩ ?_);rintro _ _ Z ⟨k,X,Q,rfl,b,hk⟩;refine ax ?_;cases e:(decide ((k:Int)<(ps.length:Int)))
  .
   have x:=oF e;refine lB 13 e (ah (dr (CG.exit ?_)))
   show CG _ _ _ _ _ _ _ _
   exact aa b ac (ae b [] qF rfl)
  have x:=oT e;refine lB 13 e (ah (co (cK (cQ (kZ (ax (lX 14 A ps.length c 9 (k:Nat) k ((b.f.2.1).ok oM) ?_)))))));refine lH 15 (bS (ps.getD k cH)) b ((b.f.2.1).el k oM) (lA 6 53 ca b (fun Y _ _ b=>lP 0 0 (cY (ps.getD k cH)) b (fun _ b=>aG (lL b [.o (bS (ps.getD k cH)) 0 0 9,.c] (lI 18 (a-1) ?_)))));refine ar 19 b (O (ps.getD k cH) (ks.getD k cV) (a-1) _ _ b.g ((b.f.1).at_ k oM) (M k oM) oM oM) (fun _ za b=>ag (cK (kQ (bh 20 ((k:Nat)+1) (k+1) ?_))));refine lL b ac (lD ?_);intro W L;replace b:=b.drop 1 0;refine ⟨_,_,?_,⟨k+1,za,rfl,rfl,b.to _ _,oM⟩,L.to _ kR⟩
  omega
 have u:=oT j;refine lB 8 j (ak (aa b ac (lN (kX ?_))))
 exfalso;omega
theorem uw (sm:ByteArray->Prop):∀ (d:Nat) (p:PTm) (t:Tm) (a:Int) (w:World) (h:Hp),G w h->TmH d h p t->nz sm d t->(d:Int)<=a->a<=1000->Calls Tryz.prog 74 #[bS p,iV a] w (Ret w h (fun v _=>v=.bool false))
  | 0,_,_,_,_,_,_,x,_,_,_=>x.elim
  | d+1,p,t,a,w,h,g,x,wf,hm,hm2=>by
    obtain ⟨op,n,q,s,A,c,ps,ks,rfl,rfl,u,o,b⟩:=x.open;obtain ⟨e,l,j,y,z,f⟩:=wf;have i:ks.length<=3:=e;exact BK sm d (fun p t a w h=>uw sm d p t a w h) op n q s A c ps ks u (by have:=b.len;omega) e l j y z f a hm hm2 w h g o b
theorem xX  (isb:ByteArray->Bool)(sm:ByteArray->Prop)(oa:∀ s,sm s->∀ (w:World) (h:Hp),G w h->Calls Tryz.prog 44 #[.string s] w (Ret w h (fun v _=>∃ b,v=.bool b/\b=isb s)))(d:Nat)(ih:∀ (p:PTm) (t:Tm) (w:World) (h:Hp),G w h->TmH d h p t->nz sm d t ->  Calls Tryz.prog 75 #[bS p] w (Ret w h (fun v _=>∃ I,v=.bool I/\(I=true↔WfT (fun s=>isb s=true) d t))))(op n:Int)(q:Rat)(s:ByteArray)(A:Option Addr)(c:Nat)(ps:List PTm)(ks:List Tm)(hc:ps.length<=c)(hlp:ps.length<=3)(hk3:ks.length<=3)(hop : -1000<=op/\op<=1000)(hn : -1000<=n/\n<=1000)(hq:LQ 3000 q)(hsm:sm s)(hW:∀ i,i<ks.length->nz sm d (ks.getD i cV))(w:World)(h:Hp)(g:G w h)(hK:SlO 9 cY cH h A ps)(hKs:Tms d h ps ks):CR 75 #[bS ⟨op,n,q,s,A,ps.length,c⟩] w h (fun v _=>∃ I,v=.bool I/\(I=true↔WfT (fun s=>isb s=true) (d+1) (.mk op n q s ks))):=by
 have a:=(((sS g).aS hK).add (K:=fun e=>Tms d e ps ks) hKs);have hln:=(a.f.1).len;have hsg:q.num.sign=0↔q.num=0:=NZ;refine go Tryz.func75 [(0,bS ⟨op,n,q,s,A,ps.length,c⟩)] rfl (ax (lA 1 53 (cY ⟨op,n,q,s,A,ps.length,c⟩) a (fun l w2 h3 a=>lL a ac (ah (cQ (cR 7 [] mixed a ao ?_))))));refine eV 0 5 (pB l) (eO 1 6 [(0,0,1)] (iV op) a (eV 3 8 (qP l 8) (eO 4 9 [(0,8,1)] (qS A ps.length c) a (eV 5 10 (nV ps.length) (au 2 7 a (fun _ _ a=>DY op _ _ a.g) (fun w4 h5 a=>?_))))));cases z:((fv op:Int) != (ps.length:Int))
 .
  have S:=aW z;refine eB 6 11 z (bP a (fun w7 h8 a=>?_));refine tN (dr (cK (cQ (CG.join (fun Γ B=>∃ (O:Bool) (e:Hp),Γ=[(1,pB l),(2,qF),(20,.bool O)]/\SS w h B e [⟨l,53,cY ⟨op,n,q,s,A,ps.length,c⟩⟩] [] [fun e=>Tms d e ps ks,fun e=>SlO 9 cY cH e A ps]/\(O=true->¬(op=1\/q.num=0))/\(O=false->(op=1\/q.num=0))) ?_ ?_))))
  .
   refine kQ (lL a [.v (pB l),.o (iV op) 0 0 1] ?_);cases x:((op:Int) != (1:Int))
   .
    have U:=aW x;refine lB 14 x (lL a ac (lG 16 ?_));refine lG 17 (lG 18 (lG 19 (lL a [.v qF] (lD ?_))));intro u j;exact ⟨_,⟨false,h8,rfl,a.to _ _,(fun e=>absurd e kD),(fun _=>by omega)⟩,j.to _ kR⟩
   have U:=aN x;refine lB 14 x (lL a [.c,.v (qP l 2),.o (qv q) 0 2 5] (ar 18 a (jl q (hq.mono oM) _ _ a.g) (fun _ zD a=>?_)));cases za:((q.num.sign:Int) != (0:Int))
   .
    have zs:=aW za;refine lB 19 za (lL a [.v qF] (lD ?_));intro u j;exact ⟨_,⟨false,zD,rfl,a.to _ _,(fun e=>absurd e kD),(fun _=>by omega)⟩,j.to _ kR⟩
   have zs:=aN za;refine lB 19 za (lL a [.v qT] (lD ?_));intro u j;exact ⟨_,⟨true,zD,rfl,a.to _ _,(fun _=>by omega),(fun e=>absurd e kD)⟩,j.to _ kR⟩
  rintro _ _ ⟨O,zE,rfl,a,zH,L⟩;cases zb:(O)
  .
   try rw[zb] at a
   try rw[zb]
   refine dr (cK (cQ (CG.join (fun Γ B=>∃ (C:Bool) (e:Hp),Γ=[(1,pB l),(2,qF),(39,.bool C)]/\SS w h B e [⟨l,53,cY ⟨op,n,q,s,A,ps.length,c⟩⟩] [] [fun e=>Tms d e ps ks,fun e=>SlO 9 cY cH e A ps]/\(C=true->¬((op=2->isb s=true)/\(op≠2->s=⟨#[]⟩)))/\(C=false->((op=2->isb s=true)/\(op≠2->s=⟨#[]⟩)))) ?_ ?_)))
   .
    refine kQ (lL a [.v (pB l),.o (iV op) 0 0 1] ?_);cases X:((op:Int) == (2:Int))
    .
     have zt:=aj X;refine lB 23 X (lL a ac (lG 25 ?_));refine lG 26 (lG 27 (lG 28 (lL a [.v qF,.c,.v (pB l),.o (iV op) 0 0 1] ?_)));have zq:((op:Int) != (2:Int))=true:=AE oM;have bd:=aN zq;refine lB 33 zq (lL a [.c,.v (qP l 7),.o (.string s) 0 7 1] ?_);cases zd:(mh s (⟨#[]⟩))
     .
      have zu:=oH zd;refine lB 37 zd (lL a [.v qF,.v qF] (lD ?_));intro u j;exact ⟨_,⟨false,zE,rfl,a.to _ _,(fun e=>absurd e kD),(fun _=>⟨fun e=>by first|exact y.symm.trans aM|exact absurd e oM,fun e=>by first|assumption|exact absurd e oM⟩)⟩,j.to _ kR⟩
     have zu:=oG zd;refine lB 37 zd (lL a [.v qT,.v qT] (lD ?_));intro u j;exact ⟨_,⟨true,zE,rfl,a.to _ _,(fun _ e=>by first|exact Ob ((e.1 oM).symm.trans (y.symm.trans aM))|exact absurd (e.2 oM) aM),(fun e=>absurd e kD)⟩,j.to _ kR⟩
    have zt:=eq_of_beq X;refine lB 23 X (lL a [.c,.v (qP l 7),.o (.string s) 0 7 1] (lC 27 a (oa s hsm _ _ a.g) ?_));rintro _ _ zG a ⟨bi,rfl,y⟩;cases br:(bi)
    .
     refine lL a [.v qT,.v qT,.c] (lG 31 ?_);refine lG 32 (lG 33 (lG 34 (lG 35 (lG 36 (lG 37 (lG 38 (lL a [.v qT] (lD ?_))))))));intro u j;exact ⟨_,⟨true,zG,rfl,a.to _ _,(fun _ e=>by first|exact Ob ((e.1 oM).symm.trans (y.symm.trans aM))|exact absurd (e.2 oM) aM),(fun e=>absurd e kD)⟩,j.to _ kR⟩
    refine lL a [.v qF,.v qF,.c,.v (pB l),.o (iV op) 0 0 1] ?_;have zr:((op:Int) != (2:Int))=false:=JI oM;have bm:=aW zr;refine lB 33 zr (lL a ac (lG 35 ?_));refine lG 36 (lG 37 (lL a [.v qF,.v qF] (lD ?_)));intro u j;exact ⟨_,⟨false,zG,rfl,a.to _ _,(fun e=>absurd e kD),(fun _=>⟨fun e=>by first|exact y.symm.trans aM|exact absurd e oM,fun e=>by first|assumption|exact absurd e oM⟩)⟩,j.to _ kR⟩
   rintro _ _ ⟨C,D,rfl,a,zI,M⟩;cases W:(C)
   .
    try rw[W] at a
    try rw[W]
    refine dr (cK (cQ (CG.join (fun Γ B=>∃ (H:Bool) (e:Hp),Γ=[(1,pB l),(2,qF),(57,.bool H)]/\SS w h B e [⟨l,53,cY ⟨op,n,q,s,A,ps.length,c⟩⟩] [] [fun e=>Tms d e ps ks,fun e=>SlO 9 cY cH e A ps]/\(H=true->¬((op=8\/n=0) /\ -12<=n/\n<=12))/\(H=false->((op=8\/n=0) /\ -12<=n/\n<=12))) ?_ ?_)))
    .
     refine kQ (lL a [.v (pB l),.o (iV op) 0 0 1] ?_);cases Y:((op:Int) != (8:Int))
     .
      have zv:=aW Y;refine lB 42 Y (lL a ac (lG 44 ?_));refine lG 45 (lG 46 (lL a [.v qF,.c,.v (qP l 1),.o (iV n) 0 1 1] ?_));cases zg:(decide ((n:Int)<(-12:Int)))
      .
       have zw:=oF zg;refine lB 51 zg (lL a [.v qF,.c,.v (qP l 1),.o (iV n) 0 1 1] ?_);cases zi:(decide ((12:Int)<(n:Int)))
       .
        have zx:=oF zi;refine lB 56 zi (lL a [.v qF] (lD ?_));intro u j;exact ⟨_,⟨false,D,rfl,a.to _ _,(fun e=>absurd e kD),(fun _=>by omega)⟩,j.to _ kR⟩
       have zx:=oT zi;refine lB 56 zi (lL a [.v qT] (lD ?_));intro u j;exact ⟨_,⟨true,D,rfl,a.to _ _,(fun _=>by omega),(fun e=>absurd e kD)⟩,j.to _ kR⟩
      have zw:=oT zg;refine lB 51 zg (lL a [.v qT,.c] (lG 54 ?_));refine lG 55 (lG 56 (lL a [.v qT] (lD ?_)));intro u j;exact ⟨_,⟨true,D,rfl,a.to _ _,(fun _=>by omega),(fun e=>absurd e kD)⟩,j.to _ kR⟩
     have zv:=aN Y;refine lB 42 Y (lL a [.c,.v (qP l 1),.o (iV n) 0 1 1] ?_);cases Z:((n:Int) != (0:Int))
     .
      have zA:=aW Z;refine lB 46 Z (lL a [.v qF,.c,.v (qP l 1),.o (iV n) 0 1 1] ?_);have ⟨zJ,bf⟩:=dF (p:=(n:Int)<(-12:Int)) oM;refine lB 51 zJ (lL a [.v qF,.c,.v (qP l 1),.o (iV n) 0 1 1] ?_);have ⟨zK,bl⟩:=dF (p:=(12:Int)<(n:Int)) oM;refine lB 56 zK (lL a [.v qF] (lD ?_));intro u j;exact ⟨_,⟨false,D,rfl,a.to _ _,(fun e=>absurd e kD),(fun _=>by omega)⟩,j.to _ kR⟩
     have zA:=aN Z;refine lB 46 Z (lL a [.v qT,.c] (lG 49 ?_));refine lG 50 (lG 51 (lL a [.v qT,.c] (lG 54 ?_)));refine lG 55 (lG 56 (lL a [.v qT] (lD ?_)));intro u j;exact ⟨_,⟨true,D,rfl,a.to _ _,(fun _=>by omega),(fun e=>absurd e kD)⟩,j.to _ kR⟩
    rintro _ _ ⟨H,zM,rfl,a,zL,F⟩;cases V:(H)
    .
     try rw[V] at a
     try rw[V]
     refine dr (cK (cQ (aa a [.v (qP l 8),.o (qS A ps.length c) 0 8 1,.v (nV ps.length),.c] (aY ?_))));refine bH _ (CG.loop (fun μ_ Γ B=>∃ (k:Nat) (e:Hp),μ_=ps.length-k/\Γ=[(59,qS A ps.length c),(60,nV ps.length),(61,nV k)]/\SS w h B e [⟨l,53,cY ⟨op,n,q,s,A,ps.length,c⟩⟩] [] [fun e=>Tms d e ps ks,fun e=>SlO 9 cY cH e A ps]/\k<=ps.length/\(∀ i,i<k->WfT (fun s=>isb s=true) d (ks.getD i cV))) _ ⟨0,zM,rfl,rfl,a.to _ _,MG _,(fun i hi=>absurd hi (N8 i))⟩ ?_);rintro _ _ _ ⟨k,_,bq,rfl,a,hk,Q⟩;refine ax ?_;cases zl:(decide ((k:Int)<(ps.length:Int)))
     .
      have zB:=oF zl;refine lB 62 zl (ah (dr (CG.exit ?_)))
      show CG _ _ _ _ _ _ _ _
      exact aa a ac (ae a [] qT (ET ⟨by omega,L aM,M aM,F aM⟩ hq (fun i hi=>Q i oM)))
     have zB:=oT zl;refine lB 62 zl (ah (co (cK (cQ (kZ (ax (lX 63 A ps.length c 9 (k:Nat) k ((a.f.2.1).ok oM) ?_)))))));refine lH 64 (bS (ps.getD k cH)) a ((a.f.2.1).el k oM) (lA 4 53 ca a (fun b63 _ _ a=>lP 0 0 (cY (ps.getD k cH)) a (fun _ a=>aG (lL a [.o (bS (ps.getD k cH)) 0 0 9] (lC 66 a (ih (ps.getD k cH) (ks.getD k cV) _ _ a.g ((a.f.1).at_ k oM) (hW k oM)) ?_)))));rintro _ _ zN a ⟨bk,rfl,J⟩;cases bn:(bk)
     .
      exact lL a [.v qT] (ak (aa a ac (ae a [] qF (E5 (k:=k) oM aM J))))
     refine lL a [.v qF] (ag (cK (kQ (bh 68 ((k:Nat)+1) (k+1) ?_))));refine lL a ac (lD ?_);intro u j;replace a:=a.drop 1 0;refine ⟨_,_,?_,⟨k+1,zN,rfl,rfl,a.to _ _,oM,(fun i hi=>by rcases Nat.lt_succ_iff_lt_or_eq.1 hi with e|rfl;exact Q i e;exact J.1 aM)⟩,j.to _ kR⟩
     omega
    try rw[V] at a
    try rw[V]
    exact co (aa a ac (ae a [] qF (rp (fun e=>zL aM e.2.2.2))))
   try rw[W] at a
   try rw[W]
   exact co (aa a ac (ae a [] qF (rp (fun e=>zI aM e.2.2.1))))
  try rw[zb] at a
  try rw[zb]
  exact co (aa a ac (ae a [] qF (rp (fun e=>zH aM e.2.1))))
 have S:=aN z;exact eB 6 11 z (bP a (fun _ _ a=>tN (co (aa a ac (ae a [] qF (rp (fun e=>absurd e.1 oM)))))))
theorem qf (isb:ByteArray->Bool)(sm:ByteArray->Prop)(oa:∀ s,sm s->∀ (w:World) (h:Hp),G w h->Calls Tryz.prog 44 #[.string s] w (Ret w h (fun v _=>∃ b,v=.bool b/\b=isb s))):∀ (d:Nat) (p:PTm) (t:Tm) (w:World) (h:Hp),G w h->TmH d h p t->nz sm d t ->  Calls Tryz.prog 75 #[bS p] w (Ret w h (fun v _=>∃ f,v=.bool f/\(f=true↔WfT (fun s=>isb s=true) d t)))
  | 0,_,_,_,_,_,x,_=>x.elim
  | d+1,p,t,w,h,g,x,wf=>by
    obtain ⟨op,n,q,s,A,c,ps,ks,rfl,rfl,y,u,a⟩:=x.open;obtain ⟨e,o,l,z,B,i⟩:=wf;have j:ks.length<=3:=e;exact xX isb sm oa d (fun p t w h=>qf isb sm oa d p t w h) op n q s A c ps ks y (by have:=a.len;omega) e o l z B i w h g u a
theorem Bm  (ok:ByteArray->Prop)(d:Nat)(ih:∀ (p:PTm) (t:Tm) (w:World) (h:Hp),G w h->TmH d h p t->WfT ok d t ->  Calls Tryz.prog 76 #[bS p,iV 1001] w (Ret w h (fun v _=>v=iV ((min (bZ d t) 1001:Nat):Int))))(op n:Int)(q:Rat)(s:ByteArray)(A:Option Addr)(c:Nat)(ps:List PTm)(ks:List Tm)(hc:ps.length<=c)(O:ps.length<=2)(J:fv op=(ks.length:Nat))(hq0:op≠1->q=0)(hq:LQ 3000 q)(hok:op=2->ok s)(hs0:op≠2->s=⟨#[]⟩)(L:op≠8->n=0)(S : -12<=n)(hn2:n<=12)(hW:∀ i,i<ks.length->WfT ok d (ks.getD i cV))(w:World)(h:Hp)(g:G w h)(hK:SlO 9 cY cH h A ps)(H:Tms d h ps ks):CV 76 #[bS ⟨op,n,q,s,A,ps.length,c⟩,iV 1001] w h (iV ((min (bZ (d+1) (.mk op n q s ks)) 1001:Nat):Int)):=by
 have a:=(((sS g).aS hK).add (K:=fun y=>Tms d y ps ks) H);have Z:=(a.f.1).len;refine go Tryz.func76 [(0,bS ⟨op,n,q,s,A,ps.length,c⟩),(1,iV 1001)] rfl (ax (lA 2 53 (cY ⟨op,n,q,s,A,ps.length,c⟩) a (fun B w2 Y a=>lL a ac (ah (aa a [.v (qP B 8),.o (qS A ps.length c) 0 8 1,.v (nV ps.length)] ?_)))));cases x:((ps.length:Int) == (0:Int))
 .
  have C:=aj x;refine lB 11 x (ag (cK (aa a ac (ah (aa a [.v (qP B 8),.o (qS A ps.length c) 0 8 1,.v (nV ps.length),.c] (aY ?_))))));refine bH _ (CG.loop (fun I Γ V=>∃ (k:Nat) (sm:Nat) (y:Hp),I=ps.length-k/\Γ=[(1,iV 1001),(2,pB B),(15,qS A ps.length c),(16,nV ps.length),(17,nV k),(5,nV sm)]/\SS w h V y [⟨B,53,cY ⟨op,n,q,s,A,ps.length,c⟩⟩] [] [fun y=>Tms d y ps ks,fun y=>SlO 9 cY cH y A ps]/\k<=ps.length/\sm=min (dO (fun i=>bZ d (ks.getD i cV)) k) 1001) _ ⟨0,0,Y,rfl,rfl,a.to _ _,MG _,rfl⟩ ?_);rintro _ _ w5 ⟨k,sm,h6,hm7,rfl,a,hk,z⟩;have hs1:(dO (fun i=>bZ d (ks.getD i cV)) (k+1))=(dO (fun i=>bZ d (ks.getD i cV)) k)+bZ d (ks.getD k cV):=rfl;refine ax ?_;cases u:(decide ((k:Int)<(ps.length:Int)))
  .
   have F:=oF u;refine lB 18 u (ah (dr (CG.exit ?_)))
   show CG _ _ _ _ _ _ _ _
   refine cQ (aa a [.v (pB B),.o (iV op) 0 0 1] (aY (ax ?_)));cases l:((op:Int) == (11:Int))
   .
    have D:=aj l;refine lB 36 l (lL a ac (ag (ax ?_)));cases za:((op:Int) == (8:Int))
    .
     have Q:=aj za;refine lB 40 za (lL a ac (ag (cK (aa a aD (lV 48 (iV (min (sm:Int) (1001:Int))) ?_ (hr:=aI (n:=(if (1001:Int)<(sm:Int) then (1001:Int) else (sm:Int))) kR (by simp only[fD])))))));refine lL a ac (lN (kX ?_));have j:k=ks.length:=by omega
     have b:=jO (d:=d) (op:=op) (n:=n) (q:=q) (s:=s) (ks:=ks) oM;have e:=lZ (s:=(dO (fun i=>bZ d (ks.getD i cV)) k)) (dl op n);rw[<-j] at b
     rw[<-b,<-z] at e
     exact a.ret [] (iV (min (sm:Int) (1001:Int))) (congrArg (Value.int .i64) (by rw[<-e];unfold dI;first|(rw[if_pos oM];(repeat' split)<;>omega)|(rw[if_neg oM,if_pos oM,LC];(repeat' split)<;>omega)|(rw[if_neg oM,if_neg oM];(repeat' split)<;>omega)))
    have Q:=eq_of_beq za;refine lB 40 za (lL a ac (ak (kQ (lL a [.c,.v (qP B 1),.o (iV n) 0 1 1] (ar 44 a (FS n oM oM _ _ a.g) (fun _ _ a=>?_))))));have htm:bE n<=12/\1<=bE n:=by unfold bE;split<;>omega
    have hmb:sm*bE n<=1001*12:=MP oM oM;refine lI 45 ((sm:Nat)*(bE n:Nat)) (lL a ac (aG (lL a aD (lV 48 (iV (min ((sm:Nat)*(bE n:Nat):Int) (1001:Int))) ?_ (hr:=aI (n:=(if (1001:Int)<((sm:Nat)*(bE n:Nat):Int) then (1001:Int) else ((sm:Nat)*(bE n:Nat):Int))) kR (by simp only[fD]))))));refine lL a ac (lN (kX ?_));have j:k=ks.length:=by omega
    have b:=jO (d:=d) (op:=op) (n:=n) (q:=q) (s:=s) (ks:=ks) oM;have e:=lZ (s:=(dO (fun i=>bZ d (ks.getD i cV)) k)) (dl op n);rw[<-j] at b
    rw[<-b,<-z] at e
    exact a.ret [] (iV (min ((sm:Nat)*(bE n:Nat):Int) (1001:Int))) (congrArg (Value.int .i64) (by rw[<-e];unfold dI;first|(rw[if_pos oM];(repeat' split)<;>omega)|(rw[if_neg oM,if_pos oM,LC];(repeat' split)<;>omega)|(rw[if_neg oM,if_neg oM];(repeat' split)<;>omega)))
   have D:=eq_of_beq l;refine lB 36 l (lL a ac (ak (kQ (lL a ac (lI 38 ((sm:Nat)*2) ?_)))));refine lL a ac (aG (lL a aD (lV 48 (iV (min ((sm:Nat)*2:Int) (1001:Int))) ?_ (hr:=aI (n:=(if (1001:Int)<((sm:Nat)*2:Int) then (1001:Int) else ((sm:Nat)*2:Int))) kR (by simp only[fD])))));refine lL a ac (lN (kX ?_));have j:k=ks.length:=by omega
   have b:=jO (d:=d) (op:=op) (n:=n) (q:=q) (s:=s) (ks:=ks) oM;have e:=lZ (s:=(dO (fun i=>bZ d (ks.getD i cV)) k)) (dl op n);rw[<-j] at b
   rw[<-b,<-z] at e
   exact a.ret [] (iV (min ((sm:Nat)*2:Int) (1001:Int))) (congrArg (Value.int .i64) (by rw[<-e];unfold dI;first|(rw[if_pos oM];(repeat' split)<;>omega)|(rw[if_neg oM,if_pos oM,LC];(repeat' split)<;>omega)|(rw[if_neg oM,if_neg oM];(repeat' split)<;>omega)))
  have F:=oT u;refine lB 18 u (ah (co (cK (cQ (kZ (ax (lX 19 A ps.length c 9 (k:Nat) k ((a.f.2.1).ok oM) ?_)))))));refine lH 20 (bS (ps.getD k cH)) a ((a.f.2.1).el k oM) (lA 7 53 ca a (fun W _ _ a=>lP 0 0 (cY (ps.getD k cH)) a (fun _ a=>aG (lL a [.c,.o (bS (ps.getD k cH)) 0 0 9,.c] (ar 24 a (ih (ps.getD k cH) (ks.getD k cV) _ _ a.g ((a.f.1).at_ k oM) (hW k oM)) (fun _ M a=>lI 25 ((sm:Nat)+((min (bZ d (ks.getD k cV)) 1001:Nat):Int)) (lL a ac (lV 27 (iV ((min (dO (fun i=>bZ d (ks.getD i cV)) (k+1)) 1001:Nat):Int)) ?_ (hr:=aI (n:=if (1001:Int)<((sm:Nat)+((min (bZ d (ks.getD k cV)) 1001:Nat):Int)) then (1001:Int) else ((sm:Nat)+((min (bZ d (ks.getD k cV)) 1001:Nat):Int))) kR (by split<;>omega))))))))));refine lL a ac (aG (lL a aD ?_));cases zb:((((min (dO (fun i=>bZ d (ks.getD i cV)) (k+1)) 1001:Nat):Int):Int) == (1001:Int))
  .
   have X:=aj zb;refine lB 30 zb (ag (cK (kQ (bh 32 ((k:Nat)+1) (k+1) ?_))));refine lL a ac (lD ?_);intro a_ ka;replace a:=a.drop 1 0;refine ⟨_,_,?_,⟨k+1,(min (dO (fun i=>bZ d (ks.getD i cV)) (k+1)) 1001),M,rfl,rfl,a.to _ _,oM,rfl⟩,ka.to _ kR⟩
   omega
  have X:=eq_of_beq zb;exact lB 30 zb (ak (aa a aD (ae a [] (iV 1001) (congrArg (Value.int .i64) (by have h1_:=oe (fun i=>bZ d (ks.getD i cV)) (show k+1<=ks.length by omega);have U:=sv (d:=d) (op:=op) (n:=n) (q:=q) (s:=s) (ks:=ks) oM;omega)))))
 have C:=eq_of_beq x;exact lB 11 x (ak (aa a [.c,.v (iV 1),.c] (ae a [] (iV 1) (congrArg (Value.int .i64) (by rw[uM oM];first|rfl|omega)))))
theorem qM (ok:ByteArray->Prop):∀ (d:Nat) (p:PTm) (t:Tm) (w:World) (h:Hp),G w h->TmH d h p t->WfT ok d t ->  Calls Tryz.prog 76 #[bS p,iV 1001] w (Ret w h (fun v _=>v=iV ((min (bZ d t) 1001:Nat):Int)))
  | 0,_,_,_,_,_,x,_=>x.elim
  | d + 1,p,t,w,h,g,x,wf=>by
    obtain ⟨op,n,q,s,A,c,ps,ks,rfl,rfl,y,u,a⟩:=x.open;obtain ⟨w1,w2,w3,o,l,j,f,i,e⟩:=wf
    have b:ps.length<=2:=by
      have e1:fv op=ks.length:=w1;have:=aE op;have:=a.len
      omega
    exact Bm ok d (fun p t w h=>qM ok d p t w h) op n q s A c ps ks y b w1 w2 w3 o l j f i e w h g u a
structure PLt where
  s:ByteArray
  q:Rat
def IE:PLt:=⟨⟨#[]⟩,0⟩
structure RLt where
  s:ByteArray
  neg:Bool
  zA:Option Addr
  zn:Nat
  zc:Nat
  dA:Option Addr
  dn:Nat
  dc:Nat
def RLt.t (r:RLt):RT:=(r.neg,.slice r.zA r.zn r.zc,.slice r.dA r.dn r.dc)
def H5:RLt:=⟨⟨#[]⟩,false,none,0,0,none,0,0⟩
structure RLs (h:Hp) (rs:List RLt) (ps:List PLt):Prop where
  len:rs.length=ps.length
  at_:∀ i,i<ps.length->(rs.getD i H5).s=(ps.getD i IE).s/\RZ h (rs.getD i H5).t (ps.getD i IE).q
def JW (op n:Int)(q:Rat)(e1 e2:Int)(a b:Rat):Int × Rat :=
  if e1≠0 then (e1,0) else if e2≠0 then (e2,0) else if rC op n a b then (0,kT op n q a b) else (6,0)
section
variable {op n:Int} {q a b:Rat} {e1 e2:Int}
theorem GQ (h1:e1=0)(c:e2=0)(h:rC op n a b):JW op n q e1 e2 a b=(0,J5 op n q a b):=by unfold JW J5;rw[if_neg oM,if_neg oM,if_pos h,if_pos h]
end
theorem Bp {a:Rat}:fk a 1=a:=by
 have h1:((1:Int):Rat)=1:=rfl
 show ((1:Int):Rat)*a=a
 rw[h1];grind
theorem uy {a:Rat}{K:Nat}{n:Int}(c:1<=K)(h:LQ K a):LQ (bE n*(K+2)-2) (fk a n):=by
  unfold bE
  by_cases h1:n.natAbs<=1
  . rw[if_pos h1]
    have hn:n=0\/n=1\/n = -1:=by omega
    rcases hn with rfl|rfl|rfl
    . exact (LQ.lit (z:=1) kD).mono oM
    . rw[Bp];exact h.mono oM
    . have e:fk a (-1)=a⁻¹:=by
        have h1:((1:Int):Rat)=1:=rfl
        show ((1:Int):Rat)/(((1:Int):Rat)*a)=a⁻¹
        rw[h1];rw[Rat.one_mul,Rat.div_def,Rat.one_mul]
      rw[e];exact h.inv.mono oM
  . rw[if_neg h1]
    have b:=ja h n.natAbs;have d:n.natAbs*(K+2)=n.natAbs*K+n.natAbs*2:=Nat.mul_add _ _ _
    unfold fk
    split
    . exact b.mono oM
    . exact ((LQ.lit (z:=1) kD).div b).mono oM
theorem HK {op n:Int}{q a b:Rat}{e1 e2:Int}{wa wb c:Nat}(B:3<=c)(o:1<=wa)(ha:LQ (c*wa-2) a)(f:1<=wb->LQ (c*wb-2) b)(d:fv op=2->1<=wb)(hq:LQ 1 q)(y:3<=op/\op<=13) :
    LQ (c*(dI op n*(wa+wb))-2) (JW op n q e1 e2 a b).2:=by
  obtain ⟨M,hM⟩:∃ M,M=dI op n*(wa+wb):=⟨_,rfl⟩;have w1:=dl op n;have l:wa+wb<=dI op n*(wa+wb):=Nc _ w1;rw[<-hM] at l ⊢
  have h0:LQ 1 (0:Rat):=LQ.lit (z:=0) kD;have D:=o;have u:c*(wa+wb)<=c*M:=LW _ l;have m2:c*(wa+wb)=c*wa+c*wb:=Nat.mul_add _ _ _;have x:c<=c*wa:=Oc _ o;have hz:LQ (c*M-2) (0:Rat):=h0.mono oM
  suffices h:LQ (c*M-2) (kT op n q a b) by
    unfold JW
    split
    . exact hz
    . split
      . exact hz
      . split
        . exact h
        . exact hz
  unfold kT
  split
  . exact hq.mono oM
  split
  . rename_i h;have w2:=d (by rw[h];rfl);have i:c<=c*wb:=Oc _ w2;exact (ha.add (f w2)).mono oM
  split
  . rename_i h;have w2:=d (by rw[h];rfl);have i:c<=c*wb:=Oc _ w2;exact (ha.sub (f w2)).mono oM
  split
  . rename_i h;have w2:=d (by rw[h];rfl);have i:c<=c*wb:=Oc _ w2;exact (ha.mul (f w2)).mono oM
  split
  . rename_i h;have w2:=d (by rw[h];rfl);have i:c<=c*wb:=Oc _ w2;exact (ha.div (f w2)).mono oM
  split
  . exact ha.neg.mono oM
  split
  . rename_i p
    have e:dI op n=bE n:=by unfold dI;rw[if_neg oM,if_pos p]
    have d:=uy (n:=n) oM ha
    have e2:bE n*(c*wa-2+2)<=c*(bE n*(wa+wb)):=by
      rw[show c*wa-2+2=c*wa by omega,Mv];exact LW _ (LW _ (Oa _ _))
    rw[e] at hM
    rw[<-hM] at e2
    exact d.mono (Nat.sub_le_sub_right e2 2)
  split
  . exact ha.abs.mono oM
  split
  . exact (LQ.maxR ha (h0.mono (by omega:1<=c*wa-2))).mono oM
  split
  . rename_i j
    have e:dI op n=2:=by unfold dI;rw[if_pos j]
    rw[e] at hM
    have C:c*M=2*(c*(wa+wb)):=by rw[hM,Mv]
    exact (ha.div (ha.abs.add (LQ.lit (z:=1) kD))).mono oM
  split
  . rename_i h;have w2:=d (by rw[h];rfl);have i:c<=c*wb:=Oc _ w2
    unfold maxR;split
    . exact (f w2).mono oM
    . exact ha.mono oM
  . have w2 := d (by have:op=13:=by omega
                     rw[this];rfl)
    have i:c<=c*wb:=Oc _ w2
    unfold np;split
    . exact (f w2).mono oM
    . exact ha.mono oM
theorem j9 {ks:List Tm}{op:Int}(h:fv op=ks.length):ks=[]\/(∃ t,ks=[t])\/∃ t u,ks=[t,u]:=by
 have:=aE op
 rcases ks with _|⟨t,_|⟨u,_|⟨v,l⟩⟩⟩
 ·exact .inl rfl
 ·exact .inr (.inl ⟨t,rfl⟩)
 ·exact .inr (.inr ⟨t,u,rfl⟩)
 ·simp only[ub] at h;omega
theorem pT {d m:Nat}{op n:Int}{q:Rat}{s:ByteArray}{a:Tm}(h:bZ (d+1) (.mk op n q s [a])<=m):bZ d a<=m:=by
 have b:=sv (d:=d) (op:=op) (n:=n) (q:=q) (s:=s) (ks:=[a]) (Od _);have e:dO (fun i=>bZ d (([a]:List Tm).getD i cV)) ([a]:List Tm).length=0+bZ d a:=rfl
 omega
theorem q7 {d m:Nat}{op n:Int}{q:Rat}{s:ByteArray}{b a:Tm}(h:bZ (d+1) (.mk op n q s [b,a])<=m):bZ d b<=m/\bZ d a<=m:=by
 have c:=sv (d:=d) (op:=op) (n:=n) (q:=q) (s:=s) (ks:=[b,a]) (Od _);have e:dO (fun i=>bZ d (([b,a]:List Tm).getD i cV)) ([b,a]:List Tm).length=0+bZ d b+bZ d a:=rfl
 omega
theorem oZ {α:Type}:∀ {l:List α},l.length=2->∃ a b,l=[a,b]
 | [a,b],_=>⟨a,b,rfl⟩
 | [],h=>by simp only[Oe] at h;omega
 | [_],h=>by simp only[ub,Oe] at h;omega
 | _::_::_::_,h=>by simp only[ub] at h;omega
def qx (m:Nat)(op n:Int)(x y:Int × Rat × List Rat):Int × Rat × List Rat :=
  if x.1≠0 then (x.1,0,[]) else if y.1≠0 then (y.1,0,[]) else if bI op n x.2.1 y.2.1≠0 then (bI op n x.2.1 y.2.1,0,[])
  else (0,kT op n 0 x.2.1 y.2.1,(pa m).map fun i=>Bo op n x.2.1 y.2.1*x.2.2.getD i 0+BB op x.2.1 y.2.1*y.2.2.getD i 0)
def bF (ix:ByteArray->Nat)(at_:List Rat):Nat->Tm->Int × Rat × List Rat
  | 0,_=>(0,0,[])
  | d+1,t =>
    if t.op=1 then (0,t.q,As at_.length 0)
    else if t.op=2 then (0,at_.getD (ix t.s) 0,fr at_.length (ix t.s))
    else qx at_.length t.op t.n (if 0<t.ks.length then bF ix at_ d (t.ks.getD 0 cV) else (0,0,[])) (if 1<t.ks.length then bF ix at_ d (t.ks.getD 1 cV) else (0,0,[]))
def px (op n:Int)(x y:Int × List Rat):Int × List Rat :=
  if x.1≠0 then (x.1,[]) else if y.1≠0 then (y.1,[]) else (bI op n (x.2.getD 0 0) (y.2.getD 0 0),iA op n x.2 y.2)
def bY (ix:ByteArray->Nat)(at_ way:List Rat):Nat->Tm->Int × List Rat
  | 0,_=>(0,[])
  | d+1,t =>
    if t.op=1 then (0,[t.q,((0:Int):Rat)])
    else if t.op=2 then (0,[at_.getD (ix t.s) 0,way.getD (ix t.s) 0])
    else px t.op t.n (if 0<t.ks.length then bY ix at_ way d (t.ks.getD 0 cV) else (0,[])) (if 1<t.ks.length then bY ix at_ way d (t.ks.getD 1 cV) else (0,[]))
theorem pA (a b:Rat)(g h w:List Rat):∀ n m,n<=m->fc ((pa m).map fun i=>a*g.getD i 0+b*h.getD i 0) w n=a*fc g w n+b*fc h w n
  | 0,_,_=>by show (0:Rat)=a*0+b*0;grind
  | n+1,m,hm=>by
    show fc _ w n+((pa m).map fun i=>a*g.getD i 0+b*h.getD i 0).getD n 0*w.getD n 0=a*(fc g w n+g.getD n 0*w.getD n 0)+b*(fc h w n+h.getD n 0*w.getD n 0)
    rw[pA a b g h w n m oM];have e:((pa m).map fun i=>a*g.getD i 0+b*h.getD i 0).getD n 0=a*g.getD n 0+b*h.getD n 0:=by simp[show n<m by omega]
    rw[e];grind
theorem qu (w:List Rat):∀ n,fc [] w n=0
 | 0=>rfl
 | n+1=>by show fc [] w n+([]:List Rat).getD n 0*w.getD n 0=0;rw[qu w n];simp;grind
section
variable {ix:ByteArray->Nat} {at_ way:List Rat}
def JA (way:List Rat)(m:Nat)(x:Int × Rat × List Rat)(s:Int × List Rat):Prop:=s.1=x.1/\(x.1=0->s.2.getD 0 0=x.2.1/\s.2.getD 1 0=fc x.2.2 way m)
theorem n4 {m:Nat}{op n:Int}{x y:Int × Rat × List Rat}(h:x.1≠0):qx m op n x y=(x.1,0,[]):=if_pos h
theorem pR {m:Nat}{op n:Int}{x y:Int × Rat × List Rat}(h:x.1=0)(a:y.1≠0):qx m op n x y=(y.1,0,[]):=by unfold qx;rw[if_neg (fun k=>k h),if_pos a]
theorem nJ {m:Nat}{op n:Int}{x y:Int × Rat × List Rat}(h:x.1=0)(a:y.1=0)(b:bI op n x.2.1 y.2.1≠0):qx m op n x y=(bI op n x.2.1 y.2.1,0,[]):=by unfold qx;rw[if_neg (fun k=>k h),if_neg (fun k=>k a),if_pos b]
def kS (m:Nat)(op n:Int)(a b:Rat)(ga gb:List Rat):List Rat:=(pa m).map fun i=>Bo op n a b*ga.getD i 0+BB op a b*gb.getD i 0
theorem duG_len {m:Nat}{op n:Int}{a b:Rat}{ga gb:List Rat}:(kS m op n a b ga gb).length=m:=by unfold kS;simp
theorem kJ {m:Nat}{op n:Int}{x y:Int × Rat × List Rat}(h:x.1=0)(a:y.1=0)(b:bI op n x.2.1 y.2.1=0):qx m op n x y=(0,kT op n 0 x.2.1 y.2.1,kS m op n x.2.1 y.2.1 x.2.2 y.2.2):=by unfold qx;rw[if_neg (fun k=>k h),if_neg (fun k=>k a),if_neg (fun k=>k b)];rfl
theorem Gg {m:Nat}{op n:Int}{x y:Int × Rat × List Rat}{s t:Int × List Rat}(l:JA way m x s)(d:JA way m y t):JA way m (qx m op n x y) (px op n s t):=by
  obtain ⟨e1,h1⟩:=l;obtain ⟨e2,f⟩:=d
  by_cases c1:x.1=0
  . obtain ⟨b,i⟩:=h1 c1
    by_cases c2:y.1=0
    . obtain ⟨c,j⟩:=f c2
      have a:px op n s t=(bI op n x.2.1 y.2.1,iA op n s.2 t.2):=by
        unfold px
        rw[if_neg (fun k=>k (e1.trans c1)),if_neg (fun k=>k (e2.trans c2)),b,c]
      rw[a]
      by_cases c3:bI op n x.2.1 y.2.1=0
      . rw[kJ c1 c2 c3]
        refine ⟨c3,fun _=>?_⟩;have e:iA op n s.2 t.2=dJ op n s.2 t.2:=if_pos (by rw[b,c];exact c3)
        show (iA op n s.2 t.2).getD 0 0=_/\(iA op n s.2 t.2).getD 1 0=_
        rw[e];refine ⟨?_,?_⟩
        . show kT op n 0 (s.2.getD 0 0) (t.2.getD 0 0)=_
          rw[b,c]
        . show Bo op n (s.2.getD 0 0) (t.2.getD 0 0)*s.2.getD 1 0+BB op (s.2.getD 0 0) (t.2.getD 0 0)*t.2.getD 1 0=fc (kS _ _ _ _ _ _ _) way m
          unfold kS
          rw[b,c,i,j,pA _ _ _ _ _ _ _ (ep m)]
      . rw[nJ c1 c2 c3];exact ⟨rfl,fun h=>absurd h c3⟩
    . have a:px op n s t=(t.1,[]):=by
        unfold px
        rw[if_neg (fun k=>k (e1.trans c1)),if_pos (fun k=>c2 (e2.symm.trans k))]
      rw[a,pR c1 c2];exact ⟨e2,fun h=>absurd h c2⟩
  . have a:px op n s t=(s.1,[]):=if_pos (fun k=>c1 (e1.symm.trans k))
    rw[a,n4 c1];exact ⟨e1,fun h=>absurd h c1⟩
theorem Ak {ok:ByteArray->Prop}(a:∀ s,ok s->ix s<at_.length):∀ {d:Nat} {t:Tm},WfT ok d t->JA way at_.length (bF ix at_ d t) (bY ix at_ way d t)
  | 0,_,h=>h.elim
  | d + 1,t,h=>by
    unfold bF bY
    by_cases c1:t.op=1
    . rw[if_pos c1,if_pos c1]
      refine ⟨rfl,fun _=>⟨rfl,?_⟩⟩;rw[kh];rfl
    . rw[if_neg c1,if_neg c1]
      by_cases c2:t.op=2
      . rw[if_pos c2,if_pos c2]
        refine ⟨rfl,fun _=>⟨rfl,?_⟩⟩
        show way.getD (ix t.s) 0=fc (fr _ _) way _
        rw[ke,nC (a _ (h.2.2.2.1 c2))]
      . rw[if_neg c2,if_neg c2]
        have z:JA way at_.length (0,0,[]) (0,[]):=⟨rfl,fun _=>⟨rfl,by rw[qu];rfl⟩⟩;refine Gg ?_ ?_
        . split
          . rename_i hk;exact Ak a (h.2.2.2.2.2.2.2.2 0 hk)
          . exact z
        . split
          . rename_i hk;exact Ak a (h.2.2.2.2.2.2.2.2 1 hk)
          . exact z
end
structure Whole (lo:Nat) (h:Hp) (b:Nat) (ty:TypeId) (vs:List Value):Prop where
  lo:lo<=b
  ty0:(ty == 0)=false
  at_:h[b]?=some (.cells vs.toArray ty (0,0))
structure Poked (h h':Hp) (b:Nat):Prop where
  oth:∀ c,c≠b->c<h.size->h'[c]?=h[c]?
section laws
variable {M:Ms} {P:Program} {n:Nat} {N R:Po} {X:Nat->Po} {ops:Array Oper} {k k0:Nat} {hr:Hp} {AL:List Al} {L:Array Bool} {Γ:bU} {w:World} {h:Hp} {w0:World} {h0:Hp} {B:List Bx} {Rs:List Rw} {F:List (Hp->Prop)}
theorem Ba {α:Type}{f:α->List Value}{sz:Nat}(hf:∀ x,(f x).length=sz)(l:List α)(sp:List Value)(e:Nat)(x:α)(h:e<l.length):bW (l.flatMap f++sp) (0+e*sz) (f x)=(l.set e x).flatMap f++sp:=by
 obtain ⟨a,y,b,rfl,hle⟩:∃ a y b,l=a++y::b/\a.length=e:=⟨l.take e,l[e],l.drop (e+1),by rw[List.getElem_cons_drop,List.take_append_drop],by rw[List.length_take];omega⟩;subst hle;have h1:(a++y::b).flatMap f++sp=a.flatMap f++(f y++(b.flatMap f++sp)):=by simp
 have d:((a++y::b).set a.length x).flatMap f++sp=a.flatMap f++(f x++(b.flatMap f++sp)):=by simp
 rw[h1,d,Ab];have c:=fL (f x) (a.flatMap f) (f y++(b.flatMap f++sp)) 0;rw[bV hf,y5] at c
 rw[c,jb _ _ _ (by rw[hf,hf])]
theorem JX (t:Nat)(ty:TypeId)(vs:List Value)(s:SS w0 h0 w h B Rs F)(H:∀ b w' h',Up w h w' h'->h.size<=b->SS w0 h0 w' h' (⟨b,ty,vs⟩::B) Rs F->LG P n N R X ops (k+1) ((t,.pointer (some ⟨b,0,none⟩))::Γ) w')(c:cL ops Γ k t n=true:=by kernel_rfl)
  (hr:(execOp (ev Γ) (am ops k)).run P w=.ok (.value (.pointer (some ⟨w.heap.size,0,none⟩))) (w.alloc (.cells vs.toArray ty (0,0))):=by kernel_rfl):LG P n N R X ops k Γ w :=
 LG.var t ty vs s.st (bQ c).1 (bQ c).2 hr (fun b w' h' a u d=>H b w' h' u a (s.new u a d))
theorem UpM.put2 {M2:List Nat}{wa w':World}{ha:Hp}{b:Nat}(u:UpM M2 wa ha w h)(p:Put b w w')(f:ha.size<=b)(ga:G wa ha)(g:G w' h):UpM M2 wa ha w' h :=
 ⟨⟨p.os.trans u.mo.os,p.tape.trans u.mo.tape,p.output.trans u.mo.output,by rw[p.size];exact u.mo.size,fun c d a=>(p.blk c (fun e=>by subst e;have:=ga.size;omega)).trans (u.mo.blk c d a)⟩,u.gr,g⟩
end laws
theorem SS.takeL {w0:World}{h0:Hp}{w:World}{h:Hp}{B:List Bx}{F:List (Hp->Prop)}(s:SS w0 h0 w h B [] F){b:Nat}{ty:TypeId}{vs:List Value}(u:h0.size<=b)(f:h[b]?=some (.cells vs.toArray ty (0,0)))(i:(ty == 0)=false:=by kernel_rfl) :
  ∃ l,SS w0 h0 w l (⟨b,ty,vs⟩::B) [] []:=by
 have d:=aJ f
 have o:h[b]?≠some bc:=fun e=>by
  rw[e] at f
  injection f with f
  unfold bc at f
  injection f with h1 h2 h3
  rw[<-h2] at i
  cases i
 have p:G w (h.setIfInBounds b bc):=⟨by simp;exact s.g.size,fun c=>by
  by_cases e:b=c
  ·subst e;right;rw[FA d]
  ·rw[la e];exact s.g.blk c⟩
 have y:Gr h0 (h.setIfInBounds b bc):=⟨by simp;exact s.st.up.gr.size,fun c j=>by rw[la oM];exact s.st.up.gr.blk c j⟩
 have z:Own w b ty vs:=by
  rcases s.g.blk b with e|e
  ·exact e.symm.trans f
  ·exact absurd e o
 refine ⟨h.setIfInBounds b bc,s.g0,⟨⟨s.st.up.ext,y,p⟩,?_,?_,?_,?_⟩,fun _ a=>(by cases a),.nil,fun _ a=>(by cases a),trivial⟩
 ·intro x a
  rcases g4.1 a with rfl|a
  ·exact z
  ·exact s.st.own x a
 ·intro x a
  rcases g4.1 a with rfl|a
  ·exact FA d
  ·by_cases e:b=x.b
   ·rw[<-e];exact FA d
   ·rw[la e];exact s.st.jk x a
 ·intro x a
  rcases g4.1 a with rfl|a
  ·exact u
  ·exact s.st.lo x a
 ·show (b::B.map (·.b)).Nodup
  refine List.nodup_cons.2 ⟨fun C=>?_,s.st.nd⟩;obtain ⟨x,a,e⟩:=g1.1 C;exact o (e▸s.st.jk x a)
section laws
variable {M:Ms} {P:Program} {n:Nat} {N R:Po} {X:Nat->Po} {ops:Array Oper} {k k0:Nat} {hr:Hp} {AL:List Al} {L:Array Bool} {Γ:bU} {w:World} {h:Hp} {w0:World} {h0:Hp} {B:List Bx} {Rs:List Rw} {F:List (Hp->Prop)}
theorem Lm {α:Type}(j:Nat)(l:List α)(f:α->List Value)(sz e:Nat)(x:α)(sp:List Value)(s:SS w0 h0 w h B Rs F)(hk:e<l.length)(H:∀ w',SS w0 h0 w' h (gK B j ((l.set e x).flatMap f++sp)) Rs F->LG P n N R X ops (k+1) Γ w')(i:cS ops Γ k=true:=by kernel_rfl)
  (c:decide (j<B.length)=true:=by kernel_rfl)(hB:(av B j).vs=l.flatMap f++sp:=by kernel_rfl)(hf:∀ x,(f x).length=sz:=by intro _;rfl)
  (d:dK P (execOp (ev Γ) (am ops k))=some (.skip,lm (av B j).b (0+e*sz) (f x)):=by kernel_rfl):LG P n N R X ops k Γ w:=by
 refine lP j (0+e*sz) (f x) s (fun w' a=>H w' ?_) i ?_ d
 ·have e1:gJ B j (0+e*sz) (f x)=gK B j ((l.set e x).flatMap f++sp):=by
   unfold gJ gK
   rw[hB,Ba hf l sp e x hk]
  rw[<-e1];exact a
 ·rw[c,hB,Bool.true_and]
  refine decide_eq_true ?_;rw[hf,zY,bV hf];have:=Af sz (show e+1<=l.length from hk);rw[LI] at this
  omega
end laws
abbrev pq (q:Rat)(A:Option Addr)(m c:Nat):Value:=.agg #[.bool (af q.num),.int .u64 (lo (ab q.num)),.string (hi (ab q.num)),.int .u64 (lo (qd q)),.string (hi (qd q)),.slice A m c]
def dZ (f:Nat->Rat)(m k:Nat):List Rat:=(pa m).map fun i=>if i<k then f i else 0
theorem i6 (f:Nat->Rat)(m:Nat):As m (0:Rat)=dZ f m 0:=by
 unfold dZ
 refine iI (by simp) fun i=>?_
 by_cases hi:i<m
 ·simp[hi]
 ·rw[ct (by simp;omega),ct (by simp;omega)]
theorem fV {f:Nat->Rat}{m k:Nat}(hk:k<m):(dZ f m k).set k (f k)=dZ f m (k+1):=by
 unfold dZ
 refine iI (by simp) fun i=>?_
 by_cases hi:i<m
 ·rw[eo (by simpa using hk)]
  by_cases e:i=k
  ·subst e;simp[hi]
  ·rw[if_neg e];simp[hi]
   by_cases h2:i<k
   ·rw[if_pos h2,if_pos oM]
   ·rw[if_neg h2,if_neg oM]
 ·rw[ct (by simp;omega),ct (by simp;omega)]
theorem gQ (f:Nat->Rat)(m:Nat):((pa m).map fun i=>f i).length=m:=by simp
theorem xP (m i:Nat):(fr m i).length=m:=by unfold fr;simp
theorem fU (f:Nat->Rat)(m:Nat):dZ f m m=(pa m).map fun i=>f i:=by
 unfold dZ
 refine Of fun i hi=>?_
 rw[if_pos (po.1 hi)]
theorem j6 (c:Option Addr)(m p:Nat)(J:m<=1000)(q:Rat)(hk:Hp)(w:World)(h:Hp)(g:G w h)(hz:hk.size<=h.size):CR 292 #[.agg #[.slice c m p],qv q] w h (fun v h1=>∃ y,v=pq q (sB y) m m/\Nw hk.size h1 y 44 ((As m (0:Rat)).flatMap qc)):=by
 have a:=sS g;refine go Tryz.func292 [(0,.agg #[qS c m p]),(1,qv q)] rfl (ax (lA 2 75 ([qS c m p]) a (fun x w2 H a=>lA 3 44 (qc q) a (fun B I F a=>lA 4 47 ([qF,uV 0,eS,uV 0,eS,sZ]) a (fun z D C a=>ah (cR 6 [] mixed a ao ?_))))));refine eO 0 5 [(1,0,5)] (qv q) a (eV 1 6 (pB x) (eO 2 7 [(2,0,1)] (qS c m p) a (eV 3 8 (nV m) (eK 4 9 44 m 5 56 cA qc 0 a (fun za _ _ a=>?_)))));have u:(As m 0).length=m:=by simp
 refine eV 5 10 (qY q (sB za) m m) (bP a (fun _ _ a=>tP 6 1 0 (qZ q (sB za) m m) a (fun _ a=>tN (kX ?_))));obtain ⟨_,a,j,i,e⟩:=a.pub 0;replace a:=(a.to [⟨z,47,qZ q (sB za) m m⟩,⟨B,44,qc q⟩,⟨x,75,[qS c m p]⟩] []).aS (SlO.of_flat (sz:=5) (f:=qc) (d:=0) (b:=za) (o:=0) (l:=As m 0) (fun _=>rfl) j);exact a.ret [(0,0,6)] (qY q (sB za) m m) (⟨_,rfl,e4 hz i,by decide,e⟩)
theorem jQ (a:Option Addr)(m c:Nat)(j:m<=1000)(q:Rat)(w:World)(h:Hp)(g:G w h):Calls Tryz.prog 292 #[.agg #[.slice a m c],qv q] w (Ret w h (fun v h1=>∃ i,v=pq (q) (sB i) (As m (0:Rat)).length m/\Sq (sB i) (As m (0:Rat)) h1)) :=
 (j6 a m c j q h w h g (nR _)).mono fun e w' ⟨v,h',e1,u,b,e2,n⟩=>⟨v,h',e1,u,b,by rw[e2,N6],SlO.of_flat (sz:=5) (f:=qc) (d:=0) (b:=b) (o:=0) (l:=As m (0:Rat)) (fun _=>rfl) n.seg0⟩
theorem G3 (x:Option Addr)(m z:Nat)(hm:m<=1000)(K D:Nat)(hK1:1<=K)(hKD:K<=1000000)(hD:D<=20000000)(a:Rat)(ga:List Rat)(u:Option Addr)(y:Nat)(hla:ga.length=m)(ha:LQ K a)(O:∀ i,LQ D (ga.getD i 0))(b:Rat)(gb:List Rat)(p:Option Addr)(B:Nat)(hlb:gb.length=m)(hb:LQ K b)(S:∀ i,LQ D (gb.getD i 0))(w:World)(h:Hp)(g:G w h)(H:Sq u ga h)(I:Sq p gb h)(tb:Tab h):CR 287 #[.agg #[.slice x m z],qY a u ga.length y,qY b p gb.length B] w h (fun v h1=>∃ bk,v=pq (a+b) (sB bk) ((pa m).map fun i=>ga.getD i 0+gb.getD i 0).length m/\Sq (sB bk) ((pa m).map fun i=>ga.getD i 0+gb.getD i 0) h1):=by
 have e:=((((sS g).aS H).aS I).aB tb);refine go Tryz.func287 [(0,.agg #[qS x m z]),(1,qY a u ga.length y),(2,qY b p gb.length B)] rfl (ax (lA 3 75 ([qS x m z]) e (fun Q w2 h3 e=>lA 4 47 (qZ a u ga.length y) e (fun F w5 h6 e=>lA 5 47 (qZ b p gb.length B) e (fun C w8 h9 e=>lA 6 47 ([qF,uV 0,eS,uV 0,eS,sZ]) e (fun zb _ _ e=>ah ?_))))));have W:=e;refine cR 8 [⟨7,7,.cells (Nf [qF,uV 0,eS,uV 0,eS,sZ]) 47 (0,0)⟩] mixed e (bv (eg kR (fun _ _=>by kernel_rfl)) ao) (eO 0 9 [(3,0,1)] (.agg #[qS x m z]) e (eV 1 10 (pB F) (eO 2 11 [(2,0,5)] (qv a) e (eV 3 12 (pB C) (eO 4 13 [(1,0,5)] (qv b) e ?_)))));have bd:=LQ.add ha hb;refine au 5 14 e (fun _ _ e=>v8 a b (LQ.mono ha oM) (LQ.mono hb oM) _ _ e.g e.f.1) (fun _ _ e=>eC 6 15 e (fun _ _ e=>j6 x m z hm (a+b) h _ _ e.g e.st.sz) ?_);rintro _ _ _ _ _ e ⟨j,rfl,X⟩;replace e:=(e.add (K:=fun M=>Nw h.size M j 44 ((As m (0:Rat)).flatMap qc)) X);refine f0 [] W e 47 [qF,uV 0,eS,uV 0,eS,sZ] (fun _ _ za e=>tP 8 0 0 (qZ (a+b) (sB j) m m) e (fun _ e=>tN (cQ (ax ?_))));obtain ⟨zf,e⟩:=e.takeL (e.f.1).1 (e.f.1).2.2;replace e:=e.aS (H.gw e.st.up.gr.gw);replace e:=e.aS (I.gw e.st.up.gr.gw);replace e:=e.aB (tb.gw e.st.up.gr.gw);replace e:=e.to [⟨j,44,((As m 0)).flatMap qc⟩,⟨za,47,qZ (a+b) (sB j) m m⟩,⟨zb,47,[qF,uV 0,eS,uV 0,eS,sZ]⟩,⟨C,47,qZ b p gb.length B⟩,⟨F,47,qZ a u ga.length y⟩,⟨Q,75,[qS x m z]⟩] [];refine lL e [.v (qP za 5),.o (qS (sB j) m m) 1 5 1,.v (nV m),.c] (aY ?_);refine bH _ (CG.loop (fun Z Γ w_=>∃ (k:Nat) (L:List Rat) (M:Hp),Z=m-k/\Γ=[(4,pB F),(5,pB C),(6,pB zb),(7,pB za),(18,nV m),(19,nV k)]/\SS w h w_ M [⟨j,44,(L).flatMap qc⟩,⟨za,47,qZ (a+b) (sB j) m m⟩,⟨zb,47,[qF,uV 0,eS,uV 0,eS,sZ]⟩,⟨C,47,qZ b p gb.length B⟩,⟨F,47,qZ a u ga.length y⟩,⟨Q,75,[qS x m z]⟩] [] [fun M=>Tab M,Sq p gb,Sq u ga]/\k<=m/\L.length=m/\L=dZ (fun i=>ga.getD i 0+gb.getD i 0) m k) _ ⟨0,As m 0,zf,rfl,rfl,e.to _ _,MG _,N6,(i6 _ _)⟩ ?_);rintro _ _ _ ⟨k,L,_,bm,rfl,e,hk,hL1,Y⟩;refine ax ?_;cases U:(decide ((k:Int)<(m:Int)))
 .
  have zd:=oF U;refine lB 20 U (ah (dr (CG.exit ?_)))
  show CG _ _ _ _ _ _ _ _
  refine aa e [.o (qY (a+b) (sB j) m m) 1 0 6] (lP 2 0 (qZ (a+b) (sB j) m m) e (fun _ e=>lN (kX ?_)));have V:k=m:=by omega
  rw[V,fU] at Y
  subst Y;replace e:=e.to [⟨j,44,(((pa m).map fun i=>ga.getD i 0+gb.getD i 0)).flatMap qc⟩,⟨za,47,qZ (a+b) (sB j) m m⟩,⟨zb,47,qZ (a+b) (sB j) m m⟩,⟨C,47,qZ b p gb.length B⟩,⟨F,47,qZ a u ga.length y⟩,⟨Q,75,[qS x m z]⟩] [];obtain ⟨_,e,J,bb,bl⟩:=e.pub 0;replace e:=(e.to [⟨za,47,qZ (a+b) (sB j) m m⟩,⟨zb,47,qZ (a+b) (sB j) m m⟩,⟨C,47,qZ b p gb.length B⟩,⟨F,47,qZ a u ga.length y⟩,⟨Q,75,[qS x m z]⟩] []).aS (SlO.of_flat (sz:=5) (f:=qc) (d:=0) (b:=j) (o:=0) (l:=((pa m).map fun i=>ga.getD i 0+gb.getD i 0)) (fun _=>rfl) J);exact e.ret [(1,0,6)] (qY (a+b) (sB j) m m) (⟨_,by rw[gQ],e.f.1⟩)
 have zd:=oT U;refine lB 20 U (ah (co (cK (cQ (kZ (aa e aD (lN (cR 14 [] mixed e ao ?_))))))));refine eV 0 22 (qP za 5) (eO 1 23 [(1,5,1)] (qS (sB j) m m) e (eV 2 24 (nV k) (eV 3 25 (qP F 5) (eO 4 26 [(4,5,1)] (qS u ga.length y) e (eV 5 27 (nV k) (eX 6 28 u ga.length y 5 (k:Nat) k ((e.f.r.1).ok oM) (eH 7 29 (qv (ga.getD k 0)) e ((e.f.r.1).el k oM) (eV 8 30 (qP C 5) (eO 9 31 [(3,5,1)] (qS p gb.length B) e (eV 10 32 (nV k) (eX 11 33 p gb.length B 5 (k:Nat) k ((e.f.2.1).ok oM) (eH 12 34 (qv (gb.getD k 0)) e ((e.f.2.1).el k oM) ?_))))))))))));have bf:=LQ.add (O k) (S k);refine au 13 35 e (fun _ _ e=>v8 (ga.getD k 0) (gb.getD k 0) (LQ.mono (O k) oM) (LQ.mono (S k) oM) _ _ e.g e.f.1) (fun _ _ e=>bP e (fun _ zg e=>tX 14 36 (sB j) m m 5 (k:Nat) k rfl (tW 15 0 L qc 5 k ((ga.getD k 0)+(gb.getD k 0)) e oM (fun _ e=>?_))));have ze:((L).set k ((ga.getD k 0)+(gb.getD k 0))).length=m:=by rw[LB];exact hL1
 replace e:=e.to [⟨j,44,((L).set k ((ga.getD k 0)+(gb.getD k 0))).flatMap qc⟩,⟨za,47,qZ (a+b) (sB j) m m⟩,⟨zb,47,[qF,uV 0,eS,uV 0,eS,sZ]⟩,⟨C,47,qZ b p gb.length B⟩,⟨F,47,qZ a u ga.length y⟩,⟨Q,75,[qS x m z]⟩] [];refine tN (kQ (bh 37 ((k:Nat)+1) (k+1) ?_));refine lL e ac (lD ?_);intro a_ ka;refine ⟨_,_,?_,⟨k+1,(L).set k ((ga.getD k 0)+(gb.getD k 0)),zg,rfl,rfl,e.to _ _,oM,ze,(by rw[Y];exact fV oM)⟩,ka.to _ kR⟩
 omega
theorem Ds (x:Option Addr)(m z:Nat)(hm:m<=1000)(K D:Nat)(hK1:1<=K)(hKD:K<=1000000)(hD:D<=20000000)(a:Rat)(ga:List Rat)(u:Option Addr)(y:Nat)(hla:ga.length=m)(ha:LQ K a)(O:∀ i,LQ D (ga.getD i 0))(b:Rat)(gb:List Rat)(p:Option Addr)(B:Nat)(hlb:gb.length=m)(U:LQ K b)(S:∀ i,LQ D (gb.getD i 0))(w:World)(h:Hp)(g:G w h)(H:Sq u ga h)(I:Sq p gb h)(tb:Tab h):CR 291 #[.agg #[.slice x m z],qY a u ga.length y,qY b p gb.length B] w h (fun v h1=>∃ bk,v=pq (a*b) (sB bk) ((pa m).map fun i=>ga.getD i 0*b+a*gb.getD i 0).length m/\Sq (sB bk) ((pa m).map fun i=>ga.getD i 0*b+a*gb.getD i 0) h1):=by
 have e:=((((sS g).aS H).aS I).aB tb);refine go Tryz.func291 [(0,.agg #[qS x m z]),(1,qY a u ga.length y),(2,qY b p gb.length B)] rfl (ax (lA 3 75 ([qS x m z]) e (fun Q w2 h3 e=>lA 4 47 (qZ a u ga.length y) e (fun F w5 h6 e=>lA 5 47 (qZ b p gb.length B) e (fun C w8 h9 e=>lA 6 47 ([qF,uV 0,eS,uV 0,eS,sZ]) e (fun zb _ _ e=>ah ?_))))));have X:=e;refine cR 8 [⟨7,7,.cells (Nf [qF,uV 0,eS,uV 0,eS,sZ]) 47 (0,0)⟩] mixed e (bv (eg kR (fun _ _=>by kernel_rfl)) ao) (eO 0 9 [(3,0,1)] (.agg #[qS x m z]) e (eV 1 10 (pB F) (eO 2 11 [(2,0,5)] (qv a) e (eV 3 12 (pB C) (eO 4 13 [(1,0,5)] (qv b) e ?_)))));have bd:=LQ.mul ha U;refine au 5 14 e (fun _ _ e=>m8 a b (LQ.mono ha oM) (LQ.mono U oM) _ _ e.g e.f.1) (fun _ _ e=>eC 6 15 e (fun _ _ e=>j6 x m z hm (a*b) h _ _ e.g e.st.sz) ?_);rintro _ _ _ _ _ e ⟨j,rfl,Y⟩;replace e:=(e.add (K:=fun M=>Nw h.size M j 44 ((As m (0:Rat)).flatMap qc)) Y);refine f0 [] X e 47 [qF,uV 0,eS,uV 0,eS,sZ] (fun _ _ za e=>tP 8 0 0 (qZ (a*b) (sB j) m m) e (fun _ e=>tN (cQ (ax ?_))));obtain ⟨zi,e⟩:=e.takeL (e.f.1).1 (e.f.1).2.2;replace e:=e.aS (H.gw e.st.up.gr.gw);replace e:=e.aS (I.gw e.st.up.gr.gw);replace e:=e.aB (tb.gw e.st.up.gr.gw);replace e:=e.to [⟨j,44,((As m 0)).flatMap qc⟩,⟨za,47,qZ (a*b) (sB j) m m⟩,⟨zb,47,[qF,uV 0,eS,uV 0,eS,sZ]⟩,⟨C,47,qZ b p gb.length B⟩,⟨F,47,qZ a u ga.length y⟩,⟨Q,75,[qS x m z]⟩] [];refine lL e [.v (qP za 5),.o (qS (sB j) m m) 1 5 1,.v (nV m),.c] (aY ?_);refine bH _ (CG.loop (fun μ_ Γ w_=>∃ (k:Nat) (L:List Rat) (M:Hp),μ_=m-k/\Γ=[(4,pB F),(5,pB C),(6,pB zb),(7,pB za),(18,nV m),(19,nV k)]/\SS w h w_ M [⟨j,44,(L).flatMap qc⟩,⟨za,47,qZ (a*b) (sB j) m m⟩,⟨zb,47,[qF,uV 0,eS,uV 0,eS,sZ]⟩,⟨C,47,qZ b p gb.length B⟩,⟨F,47,qZ a u ga.length y⟩,⟨Q,75,[qS x m z]⟩] [] [fun M=>Tab M,Sq p gb,Sq u ga]/\k<=m/\L.length=m/\L=dZ (fun i=>ga.getD i 0*b+a*gb.getD i 0) m k) _ ⟨0,As m 0,zi,rfl,rfl,e.to _ _,MG _,N6,(i6 _ _)⟩ ?_);rintro _ _ _ ⟨k,L,_,bm,rfl,e,hk,hL1,Z⟩;refine ax ?_;cases V:(decide ((k:Int)<(m:Int)))
 .
  have zf:=oF V;refine lB 20 V (ah (dr (CG.exit ?_)))
  show CG _ _ _ _ _ _ _ _
  refine aa e [.o (qY (a*b) (sB j) m m) 1 0 6] (lP 2 0 (qZ (a*b) (sB j) m m) e (fun _ e=>lN (kX ?_)));have W:k=m:=by omega
  rw[W,fU] at Z
  subst Z;replace e:=e.to [⟨j,44,(((pa m).map fun i=>ga.getD i 0*b+a*gb.getD i 0)).flatMap qc⟩,⟨za,47,qZ (a*b) (sB j) m m⟩,⟨zb,47,qZ (a*b) (sB j) m m⟩,⟨C,47,qZ b p gb.length B⟩,⟨F,47,qZ a u ga.length y⟩,⟨Q,75,[qS x m z]⟩] [];obtain ⟨_,e,J,bb,bl⟩:=e.pub 0;replace e:=(e.to [⟨za,47,qZ (a*b) (sB j) m m⟩,⟨zb,47,qZ (a*b) (sB j) m m⟩,⟨C,47,qZ b p gb.length B⟩,⟨F,47,qZ a u ga.length y⟩,⟨Q,75,[qS x m z]⟩] []).aS (SlO.of_flat (sz:=5) (f:=qc) (d:=0) (b:=j) (o:=0) (l:=((pa m).map fun i=>ga.getD i 0*b+a*gb.getD i 0)) (fun _=>rfl) J);exact e.ret [(1,0,6)] (qY (a*b) (sB j) m m) (⟨_,by rw[gQ],e.f.1⟩)
 have zf:=oT V;refine lB 20 V (ah (co (cK (cQ (kZ (aa e aD (lN (cR 20 [] mixed e ao ?_))))))));refine eV 0 22 (qP za 5) (eO 1 23 [(1,5,1)] (qS (sB j) m m) e (eV 2 24 (nV k) (eV 3 25 (qP F 5) (eO 4 26 [(4,5,1)] (qS u ga.length y) e (eV 5 27 (nV k) (eX 6 28 u ga.length y 5 (k:Nat) k ((e.f.r.1).ok oM) (eH 7 29 (qv (ga.getD k 0)) e ((e.f.r.1).el k oM) (eV 8 30 (pB C) (eO 9 31 [(3,0,5)] (qv b) e (eV 11 33 (pB F) (eO 12 34 [(4,0,5)] (qv a) e (eV 13 35 (qP C 5) (eO 14 36 [(3,5,1)] (qS p gb.length B) e (eV 15 37 (nV k) (eX 16 38 p gb.length B 5 (k:Nat) k ((e.f.2.1).ok oM) (eH 17 39 (qv (gb.getD k 0)) e ((e.f.2.1).el k oM) ?_))))))))))))))));have zd:=LQ.mul (O k) U;refine au 10 32 e (fun _ _ e=>m8 (ga.getD k 0) b (LQ.mono (O k) oM) (LQ.mono U oM) _ _ e.g e.f.1) (fun _ _ e=>?_);have ze:=LQ.mul ha (S k);refine au 18 40 e (fun _ _ e=>m8 a (gb.getD k 0) (LQ.mono ha oM) (LQ.mono (S k) oM) _ _ e.g e.f.1) (fun _ _ e=>?_);have bf:=LQ.add zd ze;refine au 19 41 e (fun _ _ e=>v8 ((ga.getD k 0)*b) (a*(gb.getD k 0)) (LQ.mono zd oM) (LQ.mono ze oM) _ _ e.g e.f.1) (fun _ _ e=>bP e (fun _ zj e=>tX 20 42 (sB j) m m 5 (k:Nat) k rfl (tW 21 0 L qc 5 k (((ga.getD k 0)*b)+(a*(gb.getD k 0))) e oM (fun _ e=>?_))));have zg:((L).set k (((ga.getD k 0)*b)+(a*(gb.getD k 0)))).length=m:=by rw[LB];exact hL1
 replace e:=e.to [⟨j,44,((L).set k (((ga.getD k 0)*b)+(a*(gb.getD k 0)))).flatMap qc⟩,⟨za,47,qZ (a*b) (sB j) m m⟩,⟨zb,47,[qF,uV 0,eS,uV 0,eS,sZ]⟩,⟨C,47,qZ b p gb.length B⟩,⟨F,47,qZ a u ga.length y⟩,⟨Q,75,[qS x m z]⟩] [];refine tN (kQ (bh 43 ((k:Nat)+1) (k+1) ?_));refine lL e ac (lD ?_);intro a_ ka;refine ⟨_,_,?_,⟨k+1,(L).set k (((ga.getD k 0)*b)+(a*(gb.getD k 0))),zj,rfl,rfl,e.to _ _,oM,zg,(by rw[Z];exact fV oM)⟩,ka.to _ kR⟩
 omega
theorem wO (x:Option Addr)(m z:Nat)(hm:m<=1000)(K D:Nat)(hK1:1<=K)(hKD:K<=1000000)(hD:D<=20000000)(a:Rat)(ga:List Rat)(u:Option Addr)(y:Nat)(hla:ga.length=m)(ha:LQ K a)(O:∀ i,LQ D (ga.getD i 0))(j:Rat)(E:Nat)(hE:E<=10000000)(B:LQ E j)(w:World)(h:Hp)(g:G w h)(H:Sq u ga h)(tb:Tab h):CR 293 #[.agg #[.slice x m z],qY a u ga.length y,qv j] w h (fun v h1=>∃ bk,v=pq (a*j) (sB bk) ((pa m).map fun i=>ga.getD i 0*j).length m/\Sq (sB bk) ((pa m).map fun i=>ga.getD i 0*j) h1):=by
 have e:=(((sS g).aS H).aB tb);refine go Tryz.func293 [(0,.agg #[qS x m z]),(1,qY a u ga.length y),(2,qv j)] rfl (ax (lA 3 75 ([qS x m z]) e (fun M w2 h3 e=>lA 4 47 (qZ a u ga.length y) e (fun C w5 h6 e=>lA 5 44 (qc j) e (fun F w8 h9 e=>lA 6 47 ([qF,uV 0,eS,uV 0,eS,sZ]) e (fun zb _ _ e=>ah ?_))))));have U:=e;refine cR 7 [⟨6,7,.cells (Nf [qF,uV 0,eS,uV 0,eS,sZ]) 47 (0,0)⟩] mixed e (bv (eg kR (fun _ _=>by kernel_rfl)) ao) (eO 0 9 [(3,0,1)] (.agg #[qS x m z]) e (eV 1 10 (pB C) (eO 2 11 [(2,0,5)] (qv a) e (eO 3 12 [(1,0,5)] (qv j) e ?_))));have bb:=LQ.mul ha B;refine au 4 13 e (fun _ _ e=>m8 a j (LQ.mono ha oM) (LQ.mono B oM) _ _ e.g e.f.1) (fun _ _ e=>eC 5 14 e (fun _ _ e=>j6 x m z hm (a*j) h _ _ e.g e.st.sz) ?_);rintro _ _ _ _ _ e ⟨p,rfl,V⟩;replace e:=(e.add (K:=fun J=>Nw h.size J p 44 ((As m (0:Rat)).flatMap qc)) V);refine f0 [] U e 47 [qF,uV 0,eS,uV 0,eS,sZ] (fun _ _ za e=>tP 7 0 0 (qZ (a*j) (sB p) m m) e (fun _ e=>tN (cQ (ax ?_))));obtain ⟨zf,e⟩:=e.takeL (e.f.1).1 (e.f.1).2.2;replace e:=e.aS (H.gw e.st.up.gr.gw);replace e:=e.aB (tb.gw e.st.up.gr.gw);replace e:=e.to [⟨p,44,((As m 0)).flatMap qc⟩,⟨za,47,qZ (a*j) (sB p) m m⟩,⟨zb,47,[qF,uV 0,eS,uV 0,eS,sZ]⟩,⟨F,44,qc j⟩,⟨C,47,qZ a u ga.length y⟩,⟨M,75,[qS x m z]⟩] [];refine lL e [.v (qP za 5),.o (qS (sB p) m m) 1 5 1,.v (nV m),.c] (aY ?_);refine bH _ (CG.loop (fun X Γ w_=>∃ (k:Nat) (L:List Rat) (J:Hp),X=m-k/\Γ=[(4,pB C),(5,pB F),(6,pB zb),(7,pB za),(17,nV m),(18,nV k)]/\SS w h w_ J [⟨p,44,(L).flatMap qc⟩,⟨za,47,qZ (a*j) (sB p) m m⟩,⟨zb,47,[qF,uV 0,eS,uV 0,eS,sZ]⟩,⟨F,44,qc j⟩,⟨C,47,qZ a u ga.length y⟩,⟨M,75,[qS x m z]⟩] [] [fun J=>Tab J,Sq u ga]/\k<=m/\L.length=m/\L=dZ (fun i=>ga.getD i 0*j) m k) _ ⟨0,As m 0,zf,rfl,rfl,e.to _ _,MG _,N6,(i6 _ _)⟩ ?_);rintro _ _ _ ⟨k,L,_,bl,rfl,e,hk,Y,W⟩;refine ax ?_;cases Q:(decide ((k:Int)<(m:Int)))
 .
  have zd:=oF Q;refine lB 19 Q (ah (dr (CG.exit ?_)))
  show CG _ _ _ _ _ _ _ _
  refine aa e [.o (qY (a*j) (sB p) m m) 1 0 6] (lP 2 0 (qZ (a*j) (sB p) m m) e (fun _ e=>lN (kX ?_)));have S:k=m:=by omega
  rw[S,fU] at W
  subst W;replace e:=e.to [⟨p,44,(((pa m).map fun i=>ga.getD i 0*j)).flatMap qc⟩,⟨za,47,qZ (a*j) (sB p) m m⟩,⟨zb,47,qZ (a*j) (sB p) m m⟩,⟨F,44,qc j⟩,⟨C,47,qZ a u ga.length y⟩,⟨M,75,[qS x m z]⟩] [];obtain ⟨_,e,I,Z,bf⟩:=e.pub 0;replace e:=(e.to [⟨za,47,qZ (a*j) (sB p) m m⟩,⟨zb,47,qZ (a*j) (sB p) m m⟩,⟨F,44,qc j⟩,⟨C,47,qZ a u ga.length y⟩,⟨M,75,[qS x m z]⟩] []).aS (SlO.of_flat (sz:=5) (f:=qc) (d:=0) (b:=p) (o:=0) (l:=((pa m).map fun i=>ga.getD i 0*j)) (fun _=>rfl) I);exact e.ret [(1,0,6)] (qY (a*j) (sB p) m m) (⟨_,by rw[gQ],e.f.1⟩)
 have zd:=oT Q;refine lB 19 Q (ah (co (cK (cQ (kZ (aa e aD (lN (cR 10 [] mixed e ao ?_))))))));refine eV 0 21 (qP za 5) (eO 1 22 [(1,5,1)] (qS (sB p) m m) e (eV 2 23 (nV k) (eV 3 24 (qP C 5) (eO 4 25 [(4,5,1)] (qS u ga.length y) e (eV 5 26 (nV k) (eX 6 27 u ga.length y 5 (k:Nat) k ((e.f.2.1).ok oM) (eH 7 28 (qv (ga.getD k 0)) e ((e.f.2.1).el k oM) (eO 8 29 [(3,0,5)] (qv j) e ?_))))))));have bd:=LQ.mul (O k) B;refine au 9 30 e (fun _ _ e=>m8 (ga.getD k 0) j (LQ.mono (O k) oM) (LQ.mono B oM) _ _ e.g e.f.1) (fun _ _ e=>bP e (fun _ zg e=>tX 10 31 (sB p) m m 5 (k:Nat) k rfl (tW 11 0 L qc 5 k ((ga.getD k 0)*j) e oM (fun _ e=>?_))));have ze:((L).set k ((ga.getD k 0)*j)).length=m:=by rw[LB];exact Y
 replace e:=e.to [⟨p,44,((L).set k ((ga.getD k 0)*j)).flatMap qc⟩,⟨za,47,qZ (a*j) (sB p) m m⟩,⟨zb,47,[qF,uV 0,eS,uV 0,eS,sZ]⟩,⟨F,44,qc j⟩,⟨C,47,qZ a u ga.length y⟩,⟨M,75,[qS x m z]⟩] [];refine tN (kQ (bh 32 ((k:Nat)+1) (k+1) ?_));refine lL e ac (lD ?_);intro a_ ka;refine ⟨_,_,?_,⟨k+1,(L).set k ((ga.getD k 0)*j),zg,rfl,rfl,e.to _ _,oM,ze,(by rw[W];exact fV oM)⟩,ka.to _ kR⟩
 omega
theorem Gv (e:Option Addr)(m j:Nat)(M:m<=1000)(fs:List Rat)(I:fs.length=m)(i:Nat)(L:i<m)(w:World)(h:Hp)(g:G w h)(hF:Sq e fs h):CR 289 #[.agg #[.slice e m j],nV i] w h (fun v h1=>∃ H,v=pq (fs.getD i 0) (sB H) (fr m i).length m/\Sq (sB H) (fr m i) h1):=by
 have a:=((sS g).aS hF);have C:(As m (0:Rat)).length=m:=N6;refine go Tryz.func289 [(0,.agg #[qS e m j]),(1,nV i)] rfl (ax (lA 2 75 ([qS e m j]) a (fun p w2 U a=>lA 4 47 ([qF,uV 0,eS,uV 0,eS,sZ]) a (fun x V S a=>ah ?_))));have y:=a;refine cR 8 [⟨7,5,.cells (Nf [qF,uV 0,eS,uV 0,eS,sZ]) 47 (0,0)⟩] mixed a (bv (eg kR (fun _ _=>by kernel_rfl)) ao) (eO 0 6 [(1,0,1)] (.agg #[qS e m j]) a (eV 1 7 (pB p) (eO 2 8 [(1,0,1)] (qS e m j) a (eV 3 9 (nV i) (eX 4 10 e m j 5 (i:Nat) i ((a.f.1).ok oM) (eH 5 11 (qv (fs.getD i 0)) a ((a.f.1).el i oM) (eC 6 12 a (fun _ _ a=>j6 e m j M (fs.getD i 0) h _ _ a.g a.st.sz) ?_)))))));rintro _ _ _ Q W a ⟨c,rfl,z⟩;replace a:=(a.add (K:=fun J=>Nw h.size J c 44 ((As m (0:Rat)).flatMap qc)) z);refine f0 [] y a 47 [qF,uV 0,eS,uV 0,eS,sZ] (fun O _ za a=>tP 8 0 0 (qZ (fs.getD i 0) (sB c) m m) a (fun _ a=>tN (cQ ?_)));obtain ⟨_,a⟩:=a.takeL (a.f.1).1 (a.f.1).2.2;replace a:=a.aS (hF.gw a.st.up.gr.gw);replace a:=a.to [⟨c,44,((As m 0)).flatMap qc⟩,⟨za,47,qZ (fs.getD i 0) (sB c) m m⟩,⟨x,47,[qF,uV 0,eS,uV 0,eS,sZ]⟩,⟨p,75,[qS e m j]⟩] [];refine cR 4 [] mixed a ao (eV 0 13 (qP za 5) (eO 1 14 [(1,5,1)] (qS (sB c) m m) a (eV 2 15 (nV i) (au 3 16 a (fun _ _ a=>xO (1) kD kD _ _ a.g) (fun _ _ a=>bP a (fun _ _ a=>tX 4 17 (sB c) m m 5 (i:Nat) i rfl (tW 5 0 (As m 0) qc 5 i ((1:Int):Rat) a oM (fun _ a=>?_))))))));have B:(((As m 0)).set i ((1:Int):Rat)).length=m:=by rw[LB];exact N6
 replace a:=a.to [⟨c,44,(((As m 0)).set i ((1:Int):Rat)).flatMap qc⟩,⟨za,47,qZ (fs.getD i 0) (sB c) m m⟩,⟨x,47,[qF,uV 0,eS,uV 0,eS,sZ]⟩,⟨p,75,[qS e m j]⟩] [];refine rD (lL a [.o (qY (fs.getD i 0) (sB c) m m) 1 0 6] (lP 2 0 (qZ (fs.getD i 0) (sB c) m m) a (fun _ a=>lN (kX ?_))));replace a:=a.to [⟨c,44,(((As m 0)).set i ((1:Int):Rat)).flatMap qc⟩,⟨za,47,qZ (fs.getD i 0) (sB c) m m⟩,⟨x,47,qZ (fs.getD i 0) (sB c) m m⟩,⟨p,75,[qS e m j]⟩] [];obtain ⟨_,a,u,F,D⟩:=a.pub 0;replace a:=(a.to [⟨za,47,qZ (fs.getD i 0) (sB c) m m⟩,⟨x,47,qZ (fs.getD i 0) (sB c) m m⟩,⟨p,75,[qS e m j]⟩] []).aS (SlO.of_flat (sz:=5) (f:=qc) (d:=0) (b:=c) (o:=0) (l:=((As m 0)).set i ((1:Int):Rat)) (fun _=>rfl) u);exact a.ret [(1,0,6)] (qY (fs.getD i 0) (sB c) m m) (⟨_,by rw[xP],a.f.1⟩)
theorem Jy (c:Option Addr)(m i:Nat)(C:m<=1000)(a:Rat)(e:Option Addr)(f d:Nat)(w:World)(h:Hp)(g:G w h):CV 288 #[.agg #[.slice c m i],qY a e f d] w h (qv a):=by
 have b:=sS g;exact go Tryz.func288 [(0,.agg #[qS c m i]),(1,qY a e f d)] rfl (ax (lA 2 75 ([qS c m i]) b (fun B w2 y b=>lA 3 47 (qZ a e f d) b (fun j z x b=>lA 4 44 a6 b (fun u p l b=>aG (lL b [.v (pB j),.o (qX a) 1 0 5] (lP 0 0 (qC a) b (fun _ b=>ae b [(0,0,5)] (qX a) rfl))))))))
theorem pg (e:Option Addr)(m l:Nat)(S:m<=1000)(K D:Nat)(y:1<=K)(x:K<=1000000)(I:D<=20000000)(a:Rat)(ga:List Rat)(d:Option Addr)(j:Nat)(B:ga.length=m)(ha:LQ K a)(F:∀ i,LQ D (ga.getD i 0))(hz:a.num≠0)(w:World)(h:Hp)(g:G w h)(u:Sq d ga h)(L:Tab h):CR 290 #[.agg #[.slice e m l],qY a d ga.length j] w h (fun v h1=>∃ H,v=pq ((((1:Int):Rat)/a)) (sB H) ((pa m).map fun i=>ga.getD i 0*(-((((1:Int):Rat)/a)*(((1:Int):Rat)/a)))).length m/\Sq (sB H) ((pa m).map fun i=>ga.getD i 0*(-((((1:Int):Rat)/a)*(((1:Int):Rat)/a)))) h1):=by
 have b:=(((sS g).aS u).aB L);refine go Tryz.func290 [(0,.agg #[qS e m l]),(1,qY a d ga.length j)] rfl (ax (lA 2 75 ([qS e m l]) b (fun b1 w2 Y b=>lA 3 47 (qZ a d ga.length j) b (fun O Z X b=>lA 4 47 ([qF,uV 0,eS,uV 0,eS,sZ]) b (fun W V U b=>ah ?_)))));have c:=b;refine cR 8 [⟨7,5,.cells (Nf [qF,uV 0,eS,uV 0,eS]) 44 (0,0)⟩] mixed b (bv (eg kR (fun _ _=>by kernel_rfl)) ao) (eV 1 10 (pB O) (eO 2 11 [(1,0,5)] (qv a) b (au 0 9 b (fun _ _ b=>xO (1) kD kD _ _ b.g) (fun _ _ b=>?_))));have za:=LQ.div (LQ.lit (z:=1) kD) ha;refine au 3 12 b (fun _ _ b=>EQ ((1:Int):Rat) a (LQ.mono (LQ.lit (z:=1) kD) oM) (LQ.mono ha oM) hz _ _ b.g b.f.1) (fun _ _ b=>eV 4 8 (.tuple #[qv (((1:Int):Rat)/a),qT]) (eV 5 13 (qv (((1:Int):Rat)/a)) (eV 6 14 qT (f0 [] c b 44 [qF,uV 0,eS,uV 0,eS] (fun _ _ Q b=>tP 8 0 0 (qc (((1:Int):Rat)/a)) b (fun _ b=>tV 9 6 qT (tN (cQ ?_))))))));have c:=b;refine cR 8 [⟨7,7,.cells (Nf [qF,uV 0,eS,uV 0,eS,sZ]) 47 (0,0)⟩] mixed b (bv (eg kR (fun _ _=>by kernel_rfl)) ao) (eO 0 15 [(3,0,1)] (.agg #[qS e m l]) b (eO 1 16 [(2,0,6)] (qY a d ga.length j) b (eO 2 17 [(0,0,5)] (qv (((1:Int):Rat)/a)) b (eO 3 18 [(0,0,5)] (qv (((1:Int):Rat)/a)) b ?_))));have zb:=LQ.mul za za;refine au 4 19 b (fun _ _ b=>m8 (((1:Int):Rat)/a) (((1:Int):Rat)/a) (LQ.mono za oM) (LQ.mono za oM) _ _ b.g b.f.1) (fun _ _ b=>?_);have J:LQ ((1+K)+(1+K)) (-((((1:Int):Rat)/a)*(((1:Int):Rat)/a))):=LQ.neg zb;refine au 5 20 b (fun _ _ b=>IG ((((1:Int):Rat)/a)*(((1:Int):Rat)/a)) (LQ.mono zb oM) _ _ b.g) (fun _ _ b=>eC 6 21 b (fun _ _ b=>wO e m l S K D y x I a ga d j B ha F (-((((1:Int):Rat)/a)*(((1:Int):Rat)/a))) (2*K+2) oM (LQ.mono J oM) _ _ b.g b.f.2.1 b.f.1) ?_);rintro _ _ _ _ _ b ⟨p,rfl,C⟩;replace b:=b.aS C;exact f0 [] c b 47 [qF,uV 0,eS,uV 0,eS,sZ] (fun _ _ M b=>tP 8 0 0 (qZ (a*(-((((1:Int):Rat)/a)*(((1:Int):Rat)/a)))) (sB p) (((pa m).map fun i=>ga.getD i 0*(-((((1:Int):Rat)/a)*(((1:Int):Rat)/a)))).length) m) b (fun _ b=>rD (lL b [.o (qv (((1:Int):Rat)/a)) 1 0 5,.v (pB M)] (lP 0 0 (qc (((1:Int):Rat)/a)) b (fun _ b=>aG (lL b [.o (qY (((1:Int):Rat)/a) (sB p) (((pa m).map fun i=>ga.getD i 0*(-((((1:Int):Rat)/a)*(((1:Int):Rat)/a)))).length) m) 0 0 6] (lP 2 0 (qZ (((1:Int):Rat)/a) (sB p) (((pa m).map fun i=>ga.getD i 0*(-((((1:Int):Rat)/a)*(((1:Int):Rat)/a)))).length) m) b (fun _ b=>ae b [(2,0,6)] (qY (((1:Int):Rat)/a) (sB p) (((pa m).map fun i=>ga.getD i 0*(-((((1:Int):Rat)/a)*(((1:Int):Rat)/a)))).length) m) (⟨_,rfl,b.f.1⟩)))))))))
theorem jy {f:Nat->Rat}{m i:Nat}(h:i<m):((pa m).map fun i=>f i).getD i 0=f i:=by simp[h]
theorem Ge {f:Nat->Rat}{m i:Nat}(h:m<=i):((pa m).map fun i=>f i).getD i 0=0:=ct (by simp;exact h)
theorem ml {f:Nat->Rat}{m K:Nat}(h:∀ i,LQ K (f i))(a:1<=K)(j:Nat):LQ K (((pa m).map fun i=>f i).getD j 0):=l9 a h j
theorem dB (i:Nat):([]:List Rat).getD i 0=0:=by simp
theorem fA (m i:Nat):(As m (0:Rat)).getD i 0=0:=mU i
section
variable {m:Nat} {op n:Int} {a b:Rat} {ga gb:List Rat} {f:Nat->Rat}
theorem jH (h:∀ i,i<m->f i=Bo op n a b*ga.getD i 0+BB op a b*gb.getD i 0):((pa m).map fun i=>f i)=kS m op n a b ga gb:=by
 unfold kS
 exact Of fun i hi=>h i (po.1 hi)
theorem ii {G:List Rat}(c:G.length=m)(h:∀ i,i<m->G.getD i 0=Bo op n a b*ga.getD i 0+BB op a b*gb.getD i 0):G=kS m op n a b ga gb:=by
 refine iI (c.trans duG_len.symm) fun i=>?_
 by_cases hi:i<m
 ·rw[h i hi];unfold kS;rw[jy hi]
 ·rw[ct oM,ct (by rw[duG_len];omega)]
theorem eZ (h1:op=6->b≠0)(f:op=8->n<0->a≠0)(h:(op=9\/op=10)->a≠0)(e:(op=12\/op=13)->a≠b):bI op n a b=0:=by
 unfold bI
 rw[if_pos ⟨h1,f⟩,if_neg];rintro (⟨c,d⟩|⟨c,d⟩)
 ·exact h c d
 ·exact e c d
theorem Fe (h:(op=6/\b=0)\/(op=8/\n<0/\a=0)):bI op n a b=6:=if_neg (fun k=>by
 rcases h with ⟨h1,h2⟩|⟨h1,h2,h3⟩
 ·exact k.1 h1 h2
 ·exact k.2 h1 h2 h3)
theorem ER (h:(op=9\/op=10)/\a=0\/(op=12\/op=13)/\a=b):bI op n a b=7:=by
 unfold bI
 rw[if_pos ⟨fun e=>by omega,fun e=>by omega⟩,if_pos (show xD op a b from h)]
end
section
variable {m:Nat} {n:Int} {a:Rat} {ga:List Rat}
theorem K5:a*((-1:Int):Rat)=kT 7 n 0 a 0/\((pa m).map fun i=>ga.getD i 0*((-1:Int):Rat))=kS m 7 n a 0 ga []:=by
 refine ⟨?_,jH fun i _=>?_⟩
 ·show a*((-1:Int):Rat) = -a
  rw[vq];grind
 ·rw[dB]
  show ga.getD i 0*((-1:Int):Rat) = -((1:Int):Rat)*ga.getD i 0+0*0
  rw[vq,i1];grind
theorem KS {a:Rat}(h:0<a.num.sign):0<a:=oV.1 h
theorem KN {a:Rat}(h:a.num.sign<0):a<0:=by
 have:a.num<0:=Og.1 (by have:=Oh a.num;omega);rw[<-Oi,<-Oj];omega
theorem EA {a:Rat}(h:a.num.sign=0):a=0:=NT.1 (NZ.1 h)
theorem kL {a:Rat}(h:a.num.sign≠0):a≠0:=fun e=>h (by rw[e];rfl)
theorem uI {a:Rat}(h:a≠0):a.num≠0:=fun e=>h (NT.1 e)
theorem GP {a:Rat}(h:0<a.num.sign):a.num.sign=1:=by have:=Oh a.num;omega
theorem qy {a:Rat}(h:a.num.sign<0):a.num.sign = -1:=by have:=Oh a.num;omega
theorem KV {op:Int}(c:op=9\/op=10)(b:ga.length=m)(h:0<a.num.sign):a=kT op n 0 a 0/\ga=kS m op n a 0 ga []:=by
 have p:=KS h
 rcases c with rfl|rfl
 ·refine ⟨?_,ii b fun i _=>?_⟩
  ·show a=cI a
   unfold cI;rw[if_neg (by have:=GP h;have:=Int.sign_eq_one_iff_pos.1 this;omega)]
  ·rw[dB]
   show ga.getD i 0=((a.num.sign:Int):Rat)*ga.getD i 0+0*0
   rw[GP h,i1];grind
 ·refine ⟨?_,ii b fun i _=>?_⟩
  ·show a=maxR a 0
   unfold maxR;split
   ·grind
   ·rfl
  ·rw[dB]
   show ga.getD i 0=((max a.num.sign 0:Int):Rat)*ga.getD i 0+0*0
   rw[GP h,show max (1:Int) 0=1 from rfl,i1];grind
theorem Ls (h:a.num.sign<0):a*((-1:Int):Rat)=kT 9 n 0 a 0/\((pa m).map fun i=>ga.getD i 0*((-1:Int):Rat))=kS m 9 n a 0 ga []:=by
 refine ⟨?_,jH fun i _=>?_⟩
 ·show _=cI a
  unfold cI;rw[if_pos (by have:=Og.1 (qy h);omega),vq];grind
 ·rw[dB]
  show ga.getD i 0*((-1:Int):Rat)=((a.num.sign:Int):Rat)*ga.getD i 0+0*0
  rw[qy h,vq];grind
theorem KI (h:a.num.sign<0):(0:Rat)=kT 10 n 0 a 0/\As m (0:Rat)=kS m 10 n a 0 ga []:=by
 have p:=KN h;refine ⟨?_,ii N6 fun i _=>?_⟩
 ·show (0:Rat)=maxR a 0
  unfold maxR;split
  ·rfl
  ·grind
 ·rw[dB,fA]
  show (0:Rat)=((max a.num.sign 0:Int):Rat)*ga.getD i 0+0*0
  rw[qy h,show max (-1:Int) 0=0 from rfl,i0];grind
theorem Eo {x:Rat}{a b:List Rat}{k:Nat}(d:a.length=m)(c:∀ i,b.getD i 0=((k:Int):Rat)*cc x (k-1)*a.getD i 0)(i:Nat) :
  ((pa m).map fun i=>b.getD i 0*x+cc x k*a.getD i 0).getD i 0=(((k+1:Nat):Int):Rat)*cc x (k+1-1)*a.getD i 0:=by
 by_cases hi:i<m
 ·rw[jy hi,c i]
  have e:(((k+1:Nat):Int):Rat)=((k:Int):Rat)+1:=by push_cast;rfl
  have e2:((k:Int):Rat)*cc x (k-1)*x=((k:Int):Rat)*cc x k:=by
   cases k with
   | zero=>show ((0:Int):Rat)*_*_=((0:Int):Rat)*_;rw[i0];grind
   | succ k=>show _*cc _ k*_=_*(cc _ k*_);grind
  rw[e]
  show _=(((k:Int):Rat)+1)*cc x k*a.getD i 0
  grind
 ·rw[Ge oM,ct (show a.length<=i by omega)];grind
theorem KT (hn:0<=n){b:List Rat}{k:Nat}(hk:k=n.natAbs)(d:b.length=m)(c:∀ i,b.getD i 0=((k:Int):Rat)*cc a (k-1)*ga.getD i 0):cc a k=kT 8 n 0 a 0/\b=kS m 8 n a 0 ga []:=by
 refine ⟨?_,ii d fun i _=>?_⟩
 ·show _=fk a n
  unfold fk;rw[if_pos hn,hk]
 ·rw[dB,c i]
  show _=(if n=0 then (0:Rat) else fk a (n-1)*((n:Int):Rat))*ga.getD i 0+0*0
  by_cases h0:n=0
  ·subst h0;subst hk;rw[if_pos rfl];show ((0:Int):Rat)*_*_=_;rw[i0];grind
  ·rw[if_neg h0]
   have e:fk a (n-1)=cc a (k-1):=by unfold fk;rw[if_pos oM,show (n-1).natAbs=k-1 by omega]
   rw[e,show ((k:Nat):Int)=n by omega];grind
theorem BP {a:Rat}(h:a≠0):∀ k,cc (((1:Int):Rat)/a) k=((1:Int):Rat)/cc a k
  | 0=>by show ((1:Int):Rat)=((1:Int):Rat)/((1:Int):Rat);rw[i1];grind
  | k+1=>by
    show cc (((1:Int):Rat)/a) k*(((1:Int):Rat)/a)=((1:Int):Rat)/(cc a k*a)
    have:=iW h k;rw[BP h k,i1];grind
theorem Kg (hn:n<0)(ha:a≠0){c b:List Rat}{k:Nat}(hk:k=n.natAbs)(f:b.length=m)(h:c=(pa m).map fun i=>ga.getD i 0*(-((((1:Int):Rat)/a)*(((1:Int):Rat)/a))))(d:∀ i,b.getD i 0=((k:Int):Rat)*cc (((1:Int):Rat)/a) (k-1)*c.getD i 0):cc (((1:Int):Rat)/a) k=kT 8 n 0 a 0/\b=kS m 8 n a 0 ga []:=by
 obtain ⟨j,rfl⟩:∃ j,k=j+1:=⟨k-1,by omega⟩;have l:=iW ha j;refine ⟨?_,ii f fun i hi=>?_⟩
 ·show _=fk a n
  unfold fk;rw[if_neg oM,BP ha,hk]
 ·rw[dB,d i,h,jy hi]
  show _=(if n=0 then (0:Rat) else fk a (n-1)*((n:Int):Rat))*ga.getD i 0+0*0
  rw[if_neg oM]
  have e:fk a (n-1)=((1:Int):Rat)/(cc a j*a*a):=by
   unfold fk;rw[if_neg oM,show (n-1).natAbs=j+2 by omega];rfl
  have e2:((n:Int):Rat) = -(((j+1:Nat):Int):Rat):=by rw[show n = -((j+1:Nat):Int) by omega,N7]
  rw[e,e2,show j+1-1=j from rfl,BP ha,i1]
  grind
theorem Ko {s:Rat}{f:List Rat}(j:s=cI a)(l:∀ i,i<m->f.getD i 0=(if a.num.sign<0 then ga.getD i 0*((-1:Int):Rat) else ga.getD i 0)) :
  a*(((1:Int):Rat)/(s+((1:Int):Rat)))=kT 11 n 0 a 0/\((pa m).map fun i=>ga.getD i 0*(((1:Int):Rat)/(s+((1:Int):Rat)))+a*((pa m).map fun i=>((pa m).map fun i=>f.getD i 0+(As m (0:Rat)).getD i 0).getD i 0*(-((((1:Int):Rat)/(s+((1:Int):Rat)))*(((1:Int):Rat)/(s+((1:Int):Rat)))))).getD i 0)=kS m 11 n a 0 ga []:=by
 have hq:0<=cI a:=by
  unfold cI;split
  ·rename_i h
   have:a<0:=by rw[<-Oi,<-Oj];omega
   grind
  ·rename_i h;exact Oj.1 oM
 have b:cI a+1≠0:=by grind
 subst j;refine ⟨?_,jH fun i hi=>?_⟩
 ·show _=a/(cI a+((1:Int):Rat))
  rw[i1];grind
 ·rw[dB,jy hi,jy hi,fA,l i hi]
  show _=(((1:Int):Rat)/(((1:Int):Rat)+cI a))*(((1:Int):Rat)/(((1:Int):Rat)+cI a))*ga.getD i 0+0*0
  have e:((1:Int):Rat)+cI a=cI a+((1:Int):Rat):=Rat.add_comm _ _;rw[e]
  by_cases c:a.num.sign<0
  ·rw[if_pos c]
   have d:cI a = -a:=by unfold cI;rw[if_pos (by have:=Og.1 (qy c);omega)]
   rw[d] at b ⊢
   rw[i1,vq];grind
  ·rw[if_neg c]
   have d:cI a=a:=by unfold cI;rw[if_neg (fun h=>c (by have:=Og.2 h;omega))]
   rw[d] at b ⊢
   rw[i1];grind
end
section
variable {m:Nat} {n:Int} {a b:Rat} {ga gb:List Rat}
theorem Lq:((pa m).map fun i=>ga.getD i 0+gb.getD i 0)=kS m 3 n a b ga gb:=jH fun i _=>by
 show _=((1:Int):Rat)*ga.getD i 0+((1:Int):Rat)*gb.getD i 0
 rw[i1];grind
theorem Lb:a+b*((-1:Int):Rat)=kT 4 n 0 a b/\((pa m).map fun i=>ga.getD i 0+((pa m).map fun i=>gb.getD i 0*((-1:Int):Rat)).getD i 0)=kS m 4 n a b ga gb:=by
 refine ⟨?_,jH fun i hi=>?_⟩
 ·show _=a-b
  rw[vq];grind
 ·rw[jy hi]
  show _=((1:Int):Rat)*ga.getD i 0 + -((1:Int):Rat)*gb.getD i 0
  rw[i1,vq];grind
theorem K7:((pa m).map fun i=>ga.getD i 0*b+a*gb.getD i 0)=kS m 5 n a b ga gb:=jH fun i _=>by
 show _=b*ga.getD i 0+a*gb.getD i 0
 grind
theorem Li (h:b≠0):a*(((1:Int):Rat)/b)=kT 6 n 0 a b/\((pa m).map fun i=>ga.getD i 0*(((1:Int):Rat)/b)+a*((pa m).map fun i=>gb.getD i 0*(-((((1:Int):Rat)/b)*(((1:Int):Rat)/b)))).getD i 0)=kS m 6 n a b ga gb:=by
 refine ⟨?_,jH fun i hi=>?_⟩
 ·show _=a/b
  rw[i1];grind
 ·rw[jy hi]
  show _=((1:Int):Rat)/b*ga.getD i 0 + -(a*(((1:Int):Rat)/b)*(((1:Int):Rat)/b))*gb.getD i 0
  rw[i1];grind
theorem Fq {op:Int}(d:ga.length=m)(h:op=12/\b<a\/op=13/\a<b):a=kT op n 0 a b/\ga=kS m op n a b ga gb:=by
 rcases h with ⟨rfl,h⟩|⟨rfl,h⟩
 ·refine ⟨?_,ii d fun i _=>?_⟩
  ·show a=maxR a b
   unfold maxR;rw[if_neg (by grind)]
  ·show _=(if b<a then ((1:Int):Rat) else 0)*_+(if b<a then (0:Rat) else ((1:Int):Rat))*_
   rw[if_pos h,if_pos h,i1];grind
 ·have c:¬b<a:=by grind
  refine ⟨?_,ii d fun i _=>?_⟩
  ·show a=np a b
   unfold np;rw[if_neg c]
  ·show _=(if b<a then (0:Rat) else ((1:Int):Rat))*_+(if b<a then ((1:Int):Rat) else 0)*_
   rw[if_neg c,if_neg c,i1];grind
theorem Fh {op:Int}(c:gb.length=m)(h:op=12/\a<b\/op=13/\b<a):b=kT op n 0 a b/\gb=kS m op n a b ga gb:=by
 rcases h with ⟨rfl,h⟩|⟨rfl,h⟩
 ·have d:¬b<a:=by grind
  refine ⟨?_,ii c fun i _=>?_⟩
  ·show b=maxR a b
   unfold maxR;rw[if_pos h]
  ·show _=(if b<a then ((1:Int):Rat) else 0)*_+(if b<a then (0:Rat) else ((1:Int):Rat))*_
   rw[if_neg d,if_neg d,i1];grind
 ·refine ⟨?_,ii c fun i _=>?_⟩
  ·show b=np a b
   unfold np;rw[if_pos h]
  ·show _=(if b<a then (0:Rat) else ((1:Int):Rat))*_+(if b<a then ((1:Int):Rat) else 0)*_
   rw[if_pos h,if_pos h,i1];grind
end
section
variable {a:Rat}
theorem GM (h:¬a.num.sign<0):a=cI a:=by
 unfold cI;rw[if_neg (fun k=>h (by have:=Og.2 k;omega))]
theorem GC (h:a.num.sign<0):a*((-1:Int):Rat)=cI a:=by
 unfold cI;rw[if_pos (Og.1 (qy h)),vq];grind
theorem FT {s:Rat}(h:s=cI a):s+((1:Int):Rat)≠0:=by
 have hq:0<=cI a:=by
  unfold cI;split
  ·rename_i h
   have:a<0:=by rw[<-Oi,<-Oj];omega
   grind
  ·rename_i h;exact Oj.1 oM
 rw[h,i1];grind
theorem xb {op:Int}{a b:Rat}(h:op=12/\0<dg a b\/op=13/\dg a b<0):op=12/\b<a\/op=13/\a<b:=by
 rcases h with ⟨h1,h2⟩|⟨h1,h2⟩
 ·exact .inl ⟨h1,jc.1 h2⟩
 ·exact .inr ⟨h1,i4.1 h2⟩
theorem xT {op:Int}{a b:Rat}(h:op=12/\dg a b<0\/op=13/\0<dg a b):op=12/\a<b\/op=13/\b<a:=by
 rcases h with ⟨h1,h2⟩|⟨h1,h2⟩
 ·exact .inl ⟨h1,i4.1 h2⟩
 ·exact .inr ⟨h1,jc.1 h2⟩
end
theorem pe (d:Option Addr)(m j:Nat)(L:m<=1000)(K D:Nat)(x:1<=K)(u:K<=1000000)(H:D<=20000000)(B:Nat)(z:Bool)(a:Rat)(ga:List Rat)(l:Option Addr)(o:Nat)(y:ga.length=m)(ha:LQ K a)(C:∀ i,LQ D (ga.getD i 0))(w:World)(h:Hp)(g:G w h)(p:Sq l ga h)(I:Tab h):CR 84 #[.agg #[.iface 75 (.agg #[.slice d m j]),.map (some B),.bool z],qY a l ga.length o] w h (fun v h1=>∃ F,v=pq (a*((-1:Int):Rat)) (sB F) ((pa m).map fun i=>ga.getD i 0*((-1:Int):Rat)).length m/\Sq (sB F) ((pa m).map fun i=>ga.getD i 0*((-1:Int):Rat)) h1):=by
 have b:=(((sS g).aS p).aB I);refine go Tryz.func84 [(0,.agg #[.iface 75 (.agg #[qS d m j]),.map (some B),.bool z]),(1,qY a l ga.length o)] rfl (ax (lA 2 81 ([.iface 75 (.agg #[qS d m j]),.map (some B),.bool z]) b (fun J w2 U b=>lA 3 47 (qZ a l ga.length o) b (fun W V S b=>lA 4 47 ([qF,uV 0,eS,uV 0,eS,sZ]) b (fun Q O M b=>ah (cR 7 [] mixed b ao ?_))))));refine eV 0 5 (pB J) (eO 1 6 [(2,0,1)] (.iface 75 (.agg #[qS d m j])) b (eO 2 7 [(1,0,6)] (qY a l ga.length o) b (eV 4 9 (.iface 75 (.agg #[qS d m j])) (eV 5 10 (.iface 75 (.agg #[qS d m j])) (au 3 8 b (fun _ _ b=>xO (-1) kD kD _ _ b.g) (fun _ _ b=>eC 6 11 b (fun _ _ b=>wO d m j L K D x u H a ga l o y ha C ((-1:Int):Rat) 1 kD (LQ.int kD kD) _ _ b.g b.f.2.1 b.f.1) ?_))))));rintro _ _ _ _ _ b ⟨c,rfl,e⟩;replace b:=b.aS e;exact bP b (fun _ _ b=>tP 7 0 0 (qZ (a*((-1:Int):Rat)) (sB c) (((pa m).map fun i=>ga.getD i 0*((-1:Int):Rat)).length) m) b (fun _ b=>tN (kX (b.ret [(0,0,6)] (qY (a*((-1:Int):Rat)) (sB c) (((pa m).map fun i=>ga.getD i 0*((-1:Int):Rat)).length) m) (⟨_,rfl,b.f.1⟩)))))
theorem Cb (e:Option Addr)(m j:Nat)(V:m<=1000)(K D:Nat)(hK1:1<=K)(hKD:K<=60000)(hD:D<=10000000)(O:Nat)(op n:Int)(q:Rat)(s:ByteArray)(A:Option Addr)(kn c:Nat)(a:Rat)(ga:List Rat)(l:Option Addr)(p:Nat)(H:ga.length=m)(ha:LQ K a)(B:∀ i,LQ D (ga.getD i 0))(hop:7<=op/\op<=11)(hn:op=8 -> -12<=n/\n<=12)(w:World)(h:Hp)(g:G w h)(hSa:Sq l ga h)(tb:Tab h):CR 46 #[.agg #[.iface 75 (.agg #[.slice e m j]),.map (some O),.bool false],bS ⟨op,n,q,s,A,kn,c⟩,qY a l ga.length p] w h (fun v h1=>∃ (q_:Rat) (G_:List Rat) (A_:Option Addr) (c_:Nat),v=.tuple #[pq q_ A_ G_.length c_,iV (bI op n a 0)]/\Sq A_ G_ h1/\(bI op n a 0=0->q_=kT op n 0 a 0/\G_=kS m op n a 0 ga [])):=by
 have b:=(((sS g).aS hSa).aB tb);refine go Tryz.func46 [(0,.agg #[.iface 75 (.agg #[qS e m j]),.map (some O),qF]),(1,bS ⟨op,n,q,s,A,kn,c⟩),(2,qY a l ga.length p)] rfl (ax (lA 3 81 ([.iface 75 (.agg #[qS e m j]),.map (some O),qF]) b (fun y w2 h3 b=>lA 4 53 (cY ⟨op,n,q,s,A,kn,c⟩) b (fun I w5 h6 b=>lA 5 47 (qZ a l ga.length p) b (fun Z w8 h9 b=>lA 6 47 ([qF,uV 0,eS,uV 0,eS,sZ]) b (fun za _ _ b=>lL b ac (aG (lL b [.v (pB y),.o (.iface 75 (.agg #[qS e m j])) 3 0 1,.o (qY a l ga.length p) 1 0 6] (ar 14 b (Jy e m j V a l ga.length p _ _ b.g) (fun _ _ b=>ar 15 b (jl a (LQ.mono ha oM) _ _ b.g) (fun _ zn b=>?_)))))))))));have cq:=ij a.num;refine lL b ac (ah (aa b [.v (pB I),.o (iV op) 2 0 1] (aY (ax ?_))));cases zc:((op:Int) == (7:Int))
 .
  have zq:=aj zc;refine lB 19 zc (lL b ac (ag (ax ?_)));cases zd:((op:Int) == (8:Int))
  .
   have zr:=aj zd;refine lB 24 zd (lL b ac (ag (ax ?_)));cases ze:((op:Int) == (11:Int))
   .
    have zs:=aj ze;refine lB 62 ze (lL b ac (ag (cK (cQ (aa b ac ?_)))));cases zf:((a.num.sign:Int) == (0:Int))
    .
     have zt:=aj zf;refine lB 100 zf (ag (cK (cQ (aa b ac ?_))));cases zg:(decide ((0:Int)<(a.num.sign:Int)))
     .
      have zu:=oF zg;refine lB 103 zg (ag (cK (cQ (aa b [.v (pB I),.o (iV op) 2 0 1] ?_))));cases zi:((op:Int) == (9:Int))
      .
       have zv:=aj zi;refine lB 107 zi (ag (cK (aa b [.v (pB y),.o (.iface 75 (.agg #[qS e m j])) 3 0 1,.v (qv (0:Rat))] (lC 114 b (jQ e m j V (0:Rat) _ _ b.g) ?_))));rintro _ _ _ b ⟨br,rfl,b0⟩;replace b:=b.aS b0;refine lP 0 0 (qZ (0:Rat) (sB br) ((As m (0:Rat)).length) m) b (fun _ b=>lL b ac (lN (kX ?_)));obtain rfl:op=10:=by omega
       have C:bI 10 n a 0=0:=(eZ (fun d=>absurd d kD) (fun d=>absurd d kD) (fun _=>kL oM) (fun d=>absurd d kD));exact b.ret [(0,0,6)] (.tuple #[qY (0:Rat) (sB br) ((As m (0:Rat)).length) m,iV 0]) (⟨(0:Rat),(As m (0:Rat)),_,_,by rw[C],b.f.1,fun _=>(KI oM)⟩)
      have zv:=eq_of_beq zi;refine lB 107 zi (ak (aa b [.o (.agg #[.iface 75 (.agg #[qS e m j]),.map (some O),qF]) 3 0 3,.o (qY a l ga.length p) 1 0 6] (lC 110 b (pe e m j V (14*K+40) (D+40*K+100) oM oM oM O false a ga l p H (LQ.mono ha oM) (fun i=>LQ.mono (B i) oM) _ _ b.g b.f.2.1 b.f.1) ?_)));rintro _ _ _ b ⟨bn,rfl,b2⟩;replace b:=b.aS b2;refine lP 0 0 (qZ (a*((-1:Int):Rat)) (sB bn) (((pa m).map fun i=>ga.getD i 0*((-1:Int):Rat)).length) m) b (fun _ b=>lL b ac (lN (kX ?_)));obtain rfl:op=9:=by omega
      have C:bI 9 n a 0=0:=(eZ (fun d=>absurd d kD) (fun d=>absurd d kD) (fun _=>kL oM) (fun d=>absurd d kD));exact b.ret [(0,0,6)] (.tuple #[qY (a*((-1:Int):Rat)) (sB bn) (((pa m).map fun i=>ga.getD i 0*((-1:Int):Rat)).length) m,iV 0]) (⟨a*((-1:Int):Rat),((pa m).map fun i=>ga.getD i 0*((-1:Int):Rat)),_,_,by rw[C],b.f.1,fun _=>(Ls oM)⟩)
     have zu:=oT zg;refine lB 103 zg (ak (aa b [.o (qY a l ga.length p) 1 0 6] (lP 0 0 (qZ a l ga.length p) b (fun _ b=>lL b ac (lN (kX ?_))))));have C:bI op n a 0=0:=(eZ (fun d=>absurd d oM) (fun d=>absurd d oM) (fun _=>kL oM) (fun d=>absurd d oM));exact b.ret [(0,0,6)] (.tuple #[qY a l ga.length p,iV 0]) (⟨a,ga,_,_,by rw[C],b.f.2.1,fun _=>(KV oM H oM)⟩)
    have zt:=eq_of_beq zf;refine lB 100 zf (ak (aa b [.o (qY a l ga.length p) 1 0 6] (lP 0 0 (qZ a l ga.length p) b (fun _ b=>lL b ac (lN (kX ?_))))));have C:bI op n a 0=7:=(ER (.inl ⟨by omega,EA oM⟩));exact b.ret [(0,0,6)] (.tuple #[qY a l ga.length p,iV 7]) (⟨a,ga,_,_,by rw[C],b.f.2.1,fun d=>absurd d (by rw[C];decide)⟩)
   have zs:=eq_of_beq ze;refine lB 62 ze ?_;refine lL b ac (ak (CG.join (fun Γ w_=>∃  (d:Hp),Γ=[(3,pB y),(4,pB I),(5,pB Z),(6,pB za),(8,iV a.num.sign)]/\SS w h w_ d [⟨za,47,[qF,uV 0,eS,uV 0,eS,sZ]⟩,⟨Z,47,qZ a l ga.length p⟩,⟨I,53,cY ⟨op,n,q,s,A,kn,c⟩⟩,⟨y,81,[.iface 75 (.agg #[qS e m j]),.map (some O),qF]⟩] [] [fun d=>Tab d,Sq l ga]) ?_ ?_))
   .
    refine aa b [.v (qP y 2),.o qF 3 2 1,.c] (lG 66 ?_);refine lG 67 (lL b [.v qF] (ag (CG.skip ?_)));intro a_ J;exact ⟨_,⟨zn,rfl,b.to _ _⟩,J.to _ kR⟩
   rintro _ _ ⟨_,rfl,b⟩;refine aa b [.o (qY a l ga.length p) 1 0 6] (lA 10 47 ([qF,uV 0,eS,uV 0,eS,sZ]) b (fun zD _ zH b=>lP 0 0 (qZ a l ga.length p) b (fun _ b=>?_)));refine lN (CG.join (fun Γ w_=>∃ (x:Rat) (u:List Rat) (Q:Option Addr) (cx:Nat) (d:Hp),Γ=[(3,pB y),(4,pB I),(5,pB Z),(6,pB za),(8,iV a.num.sign),(10,pB zD)]/\SS w h w_ d [⟨zD,47,qZ x Q u.length cx⟩,⟨za,47,[qF,uV 0,eS,uV 0,eS,sZ]⟩,⟨Z,47,qZ a l ga.length p⟩,⟨I,53,cY ⟨op,n,q,s,A,kn,c⟩⟩,⟨y,81,[.iface 75 (.agg #[qS e m j]),.map (some O),qF]⟩] [] [Sq Q u,fun d=>Tab d,Sq l ga]/\x=cI a/\(∀ i,i<m->u.getD i 0=(if a.num.sign<0 then ga.getD i 0*((-1:Int):Rat) else ga.getD i 0))/\u.length=m/\LQ (K+1) x/\(∀ i,LQ (D+1) (u.getD i 0))) ?_ ?_)
   .
    refine aa b ac ?_;cases zj:(decide ((a.num.sign:Int)<(0:Int)))
    .
     have zw:=oF zj;refine lB 72 zj (ag (CG.skip ?_));intro a_ J;replace b:=b.aS b.f.2.1;exact ⟨_,⟨a,ga,l,p,zH,rfl,b.to _ _,(GM oM),(fun i_ _=>by rw[if_neg oM]),H,(ha.mono oM),(fun i=>(B i).mono oM)⟩,J.to _ kR⟩
    have zw:=oT zj;refine lB 72 zj (ak (kQ (lL b [.o (.agg #[.iface 75 (.agg #[qS e m j]),.map (some O),qF]) 4 0 3,.o (qY a l ga.length p) 2 0 6] (lC 75 b (pe e m j V (14*K+40) (D+40*K+100) oM oM oM O false a ga l p H (LQ.mono ha oM) (fun i=>LQ.mono (B i) oM) _ _ b.g b.f.2.1 b.f.1) ?_))));rintro _ _ zI b ⟨bq,rfl,b6⟩;replace b:=b.aS b6;refine lP 0 0 (qZ (a*((-1:Int):Rat)) (sB bq) (((pa m).map fun i=>ga.getD i 0*((-1:Int):Rat)).length) m) b (fun _ b=>lD ?_);intro a_ J;replace b:=(b.tl.aS b.f.1);exact ⟨_,⟨a*((-1:Int):Rat),((pa m).map fun i=>ga.getD i 0*((-1:Int):Rat)),sB bq,m,zI,rfl,b.to _ _,(GC oM),(fun i_ d=>by rw[if_pos oM,jy d]),(gQ _ _),(LQ.mono (ha.mul (LQ.int (z:=-1) kD kD)) oM),(ml (fun i=>LQ.mono ((B i).mul (LQ.int (z:=-1) kD kD)) oM) oM)⟩,J.to _ kR⟩
   rintro _ _ ⟨x,u,Q,cx,_,rfl,b,hxq,hxg,hlx,U,F⟩;refine cQ (cR 23 [] mixed b ao ?_);refine eV 0 76 (pB y) (eO 1 77 [(4,0,1)] (.iface 75 (.agg #[qS e m j])) b (eO 2 78 [(2,0,6)] (qY a l ga.length p) b (eV 3 79 (pB y) (eO 4 80 [(4,0,1)] (.iface 75 (.agg #[qS e m j])) b (eV 5 81 (pB y) (eO 6 82 [(4,0,1)] (.iface 75 (.agg #[qS e m j])) b (eO 7 83 [(0,0,6)] (qY x Q u.length cx) b (eV 8 84 (pB y) (eO 9 85 [(4,0,1)] (.iface 75 (.agg #[qS e m j])) b (eV 11 87 (.iface 75 (.agg #[qS e m j])) (eV 12 88 (.iface 75 (.agg #[qS e m j])) (eV 14 90 (.iface 75 (.agg #[qS e m j])) (eV 15 91 (.iface 75 (.agg #[qS e m j])) (eV 17 93 (.iface 75 (.agg #[qS e m j])) (eV 18 94 (.iface 75 (.agg #[qS e m j])) (eV 20 96 (.iface 75 (.agg #[qS e m j])) (eV 21 97 (.iface 75 (.agg #[qS e m j])) (au 10 86 b (fun _ _ b=>xO (1) kD kD _ _ b.g) (fun _ _ b=>eC 13 89 b (fun _ _ b=>jQ e m j V ((1:Int):Rat) _ _ b.g) ?_)))))))))))))))))));rintro _ _ _ _ _ b ⟨ch,rfl,b3⟩;replace b:=b.aS b3;have cj:=hxq;have M:LQ (K+3) (x+((1:Int):Rat)):=LQ.mono (LQ.add U (LQ.int (z:=1) kD kD)) oM;have W:∀ i,LQ (D+4) (((pa m).map fun i=>u.getD i 0+(As m (0:Rat)).getD i 0).getD i 0):=ml (fun i=>LQ.mono (LQ.add (F i) (by rw[fA];exact jd (nR 1))) oM) oM;refine eC 16 92 b (fun _ _ b=>G3 e m j V (14*K+40) (D+40*K+100) oM oM oM x u Q cx hlx (LQ.mono U oM) (fun i=>LQ.mono (F i) oM) ((1:Int):Rat) (As m (0:Rat)) (sB ch) m N6 (LQ.mono (LQ.int kD kD) oM) (fun i=>by rw[fA];exact jd oM) _ _ b.g b.f.2.1 b.f.1 b.f.r.1) ?_;rintro _ _ _ _ _ b ⟨cb,rfl,b5⟩;replace b:=b.aS b5;refine eC 19 95 b (fun _ _ b=>pg e m j V (14*K+40) (D+40*K+100) oM oM oM (x+((1:Int):Rat)) ((pa m).map fun i=>u.getD i 0+(As m (0:Rat)).getD i 0) (sB cb) m (gQ _ _) (LQ.mono M oM) (fun i=>LQ.mono (W i) oM) (uI (FT cj)) _ _ b.g b.f.1 b.f.r.2.1) ?_;rintro _ _ _ _ _ b ⟨cd,rfl,bx⟩;replace b:=b.aS bx;refine eC 22 98 b (fun _ _ b=>Ds e m j V (14*K+40) (D+40*K+100) oM oM oM a ga l p H (LQ.mono ha oM) (fun i=>LQ.mono (B i) oM) (((1:Int):Rat)/(x+((1:Int):Rat))) ((pa m).map fun i=>((pa m).map fun i=>u.getD i 0+(As m (0:Rat)).getD i 0).getD i 0*(-((((1:Int):Rat)/(x+((1:Int):Rat)))*(((1:Int):Rat)/(x+((1:Int):Rat)))))) (sB cd) m (gQ _ _) (LQ.mono (LQ.div (LQ.int (z:=1) kD kD) M) oM) (ml (fun i=>LQ.mono ((W i).mul ((LQ.div (LQ.int (z:=1) kD kD) M).mul (LQ.div (LQ.int (z:=1) kD kD) M)).neg) oM) oM) _ _ b.g b.f.q.2.1 b.f.1 b.f.q.1) ?_;rintro _ _ _ _ _ b ⟨bt,rfl,bz⟩;replace b:=b.aS bz;refine bP b (fun _ _ b=>tP 23 1 0 (qZ (a*(((1:Int):Rat)/(x+((1:Int):Rat)))) (sB bt) (((pa m).map fun i=>ga.getD i 0*(((1:Int):Rat)/(x+((1:Int):Rat)))+a*((pa m).map fun i=>((pa m).map fun i=>u.getD i 0+(As m (0:Rat)).getD i 0).getD i 0*(-((((1:Int):Rat)/(x+((1:Int):Rat)))*(((1:Int):Rat)/(x+((1:Int):Rat)))))).getD i 0).length) m) b (fun _ b=>tV 24 7 (iV 0) (tN (kX ?_))));obtain rfl:op=11:=by omega
   have C:bI 11 n a 0=0:=(eZ (fun d=>absurd d kD) (fun d=>absurd d kD) (fun d=>absurd d kD) (fun d=>absurd d kD));exact b.ret [(1,0,6)] (.tuple #[qY (a*(((1:Int):Rat)/(x+((1:Int):Rat)))) (sB bt) (((pa m).map fun i=>ga.getD i 0*(((1:Int):Rat)/(x+((1:Int):Rat)))+a*((pa m).map fun i=>((pa m).map fun i=>u.getD i 0+(As m (0:Rat)).getD i 0).getD i 0*(-((((1:Int):Rat)/(x+((1:Int):Rat)))*(((1:Int):Rat)/(x+((1:Int):Rat)))))).getD i 0).length) m,iV 0]) (⟨a*(((1:Int):Rat)/(x+((1:Int):Rat))),((pa m).map fun i=>ga.getD i 0*(((1:Int):Rat)/(x+((1:Int):Rat)))+a*((pa m).map fun i=>((pa m).map fun i=>u.getD i 0+(As m (0:Rat)).getD i 0).getD i 0*(-((((1:Int):Rat)/(x+((1:Int):Rat)))*(((1:Int):Rat)/(x+((1:Int):Rat)))))).getD i 0),_,_,by rw[C],b.f.1,fun _=>(Ko hxq hxg)⟩)
  have zr:=eq_of_beq zd;refine lB 24 zd ?_;refine lL b ac (ak (CG.join (fun Γ w_=>∃  (d:Hp),Γ=[(3,pB y),(4,pB I),(5,pB Z),(6,pB za),(8,iV a.num.sign)]/\SS w h w_ d [⟨za,47,[qF,uV 0,eS,uV 0,eS,sZ]⟩,⟨Z,47,qZ a l ga.length p⟩,⟨I,53,cY ⟨op,n,q,s,A,kn,c⟩⟩,⟨y,81,[.iface 75 (.agg #[qS e m j]),.map (some O),qF]⟩] [] [fun d=>Tab d,Sq l ga]/\(n<0->a.num.sign≠0)) ?_ ?_))
  .
   refine aa b [.v (qP I 1),.o (iV n) 2 1 1] ?_;cases zk:(decide ((n:Int)<(0:Int)))
   .
    have zx:=oF zk;refine lB 27 zk (lL b ac (lG 29 ?_));refine lG 30 (lL b [.v qF] (ag (CG.skip ?_)));intro a_ J;exact ⟨_,⟨zn,rfl,b.to _ _,(fun d=>by omega)⟩,J.to _ kR⟩
   have zx:=oT zk;refine lB 27 zk (lL b aD ?_);cases zl:((a.num.sign:Int) == (0:Int))
   .
    have zA:=aj zl;refine lB 30 zl (lL b [.v qF] (ag (CG.skip ?_)));intro a_ J;exact ⟨_,⟨zn,rfl,b.to _ _,(fun d=>by omega)⟩,J.to _ kR⟩
   have zA:=eq_of_beq zl;refine lB 30 zl (lL b [.v qT] (ak (aa b [.o (qY a l ga.length p) 1 0 6] (lP 0 0 (qZ a l ga.length p) b (fun _ b=>lL b ac (lN (kX ?_)))))));obtain rfl:op=8:=by omega
   have C:bI 8 n a 0=6:=(Fe (.inr ⟨rfl,by omega,EA oM⟩));exact b.ret [(0,0,6)] (.tuple #[qY a l ga.length p,iV 6]) (⟨a,ga,_,_,by rw[C],b.f.2.1,fun d=>absurd d (by rw[C];decide)⟩)
  rintro _ _ ⟨zJ,rfl,b,bk⟩;refine CG.join (fun Γ w_=>∃ (x:Rat) (u:List Rat) (Q:Option Addr) (cx:Nat) (d:Hp),Γ=[(3,pB y),(4,pB I),(5,pB Z),(6,pB za),(8,iV a.num.sign)]/\SS w h w_ d [⟨za,47,[qF,uV 0,eS,uV 0,eS,sZ]⟩,⟨Z,47,qZ x Q u.length cx⟩,⟨I,53,cY ⟨op,n,q,s,A,kn,c⟩⟩,⟨y,81,[.iface 75 (.agg #[qS e m j]),.map (some O),qF]⟩] [] [Sq Q u,fun d=>Tab d,Sq l ga]/\((0<=n/\x=a/\u=ga)\/(n<0/\a≠0/\x=(((1:Int):Rat)/a)/\u=((pa m).map fun i=>ga.getD i 0*(-((((1:Int):Rat)/a)*(((1:Int):Rat)/a))))))/\u.length=m/\LQ (1+K) x/\(∀ i,LQ (D+2*K+2) (u.getD i 0))) ?_ ?_
  .
   refine aa b [.v (qP I 1),.o (iV n) 2 1 1] ?_;cases zm:(decide ((n:Int)<(0:Int)))
   .
    have zB:=oF zm;refine lB 35 zm (ag (CG.skip ?_));intro a_ J;replace b:=b.aS b.f.2.1;exact ⟨_,⟨a,ga,l,p,zJ,rfl,b.to _ _,(.inl ⟨by omega,rfl,rfl⟩),H,(ha.mono oM),(fun i=>(B i).mono oM)⟩,J.to _ kR⟩
   have zB:=oT zm;refine lB 35 zm (ak (kQ (lL b [.v (pB y),.o (.iface 75 (.agg #[qS e m j])) 3 0 1,.o (qY a l ga.length p) 1 0 6] (lC 39 b (pg e m j V (14*K+40) (D+40*K+100) oM oM oM a ga l p H (LQ.mono ha oM) (fun i=>LQ.mono (B i) oM) (uI (kL (bk oM))) _ _ b.g b.f.2.1 b.f.1) ?_))));rintro _ _ zK b ⟨bl,rfl,b9⟩;replace b:=b.aS b9;refine lP 1 0 (qZ (((1:Int):Rat)/a) (sB bl) (((pa m).map fun i=>ga.getD i 0*(-((((1:Int):Rat)/a)*(((1:Int):Rat)/a)))).length) m) b (fun _ b=>lD ?_);intro a_ J;replace b:=(b.tl.aS b.f.1);exact ⟨_,⟨((1:Int):Rat)/a,((pa m).map fun i=>ga.getD i 0*(-((((1:Int):Rat)/a)*(((1:Int):Rat)/a)))),sB bl,m,zK,rfl,b.to _ _,(.inr ⟨by omega,kL (bk oM),rfl,rfl⟩),(gQ _ _),(LQ.div (LQ.int (z:=1) kD kD) ha),(ml (fun i=>LQ.mono ((B i).mul ((LQ.div (LQ.int (z:=1) kD kD) ha).mul (LQ.div (LQ.int (z:=1) kD kD) ha)).neg) (by omega:_<=D+2*K+2)) oM)⟩,J.to _ kR⟩
  rintro _ _ ⟨x,u,Q,cx,_,rfl,b,hxd,hlx,U,F⟩;refine cQ ?_;have hsr:=b;refine cR 7 [⟨6,9,.cells (Nf [qF,uV 0,eS,uV 0,eS,sZ]) 47 (0,0)⟩] mixed b (bv (eg kR (fun _ _=>by kernel_rfl)) ao) (eV 0 40 (pB y) (eO 1 41 [(3,0,1)] (.iface 75 (.agg #[qS e m j])) b (eV 3 43 (.iface 75 (.agg #[qS e m j])) (eV 4 44 (.iface 75 (.agg #[qS e m j])) (au 2 42 b (fun _ _ b=>xO (1) kD kD _ _ b.g) (fun _ _ b=>eC 5 45 b (fun _ _ b=>jQ e m j V ((1:Int):Rat) _ _ b.g) ?_))))));rintro _ _ _ _ _ b ⟨L,rfl,bf⟩;replace b:=b.aS bf;refine f0 [] hsr b 47 [qF,uV 0,eS,uV 0,eS,sZ] (fun _ zE zo b=>tP 7 0 0 (qZ ((1:Int):Rat) (sB L) ((As m (0:Rat)).length) m) b (fun _ b=>tN (cQ (aa b [.v (qP I 1),.o (iV n) 3 1 1,.v (qP I 1),.o (iV n) 3 1 1] (lI 50 (0-n) ?_)))));refine lV 51 (iV (max (n:Int) (0-n:Int))) ?_ (hr:=aI (n:=(if (0-n:Int)>(n:Int) then (0-n:Int) else (n:Int))) kR (by simp only[qk]));refine lL b ac (aY ?_);replace b:=b.aS b.f.1;refine bH _ (CG.loop (fun μ_ Γ w_=>∃ (k:Nat) (Ap:Option Addr) (cp:Nat) (S:List Rat) (d:Hp),μ_=n.natAbs-k/\Γ=[(3,pB y),(4,pB I),(5,pB Z),(6,pB za),(8,iV a.num.sign),(9,pB zo),(51,iV (max (n:Int) (0-n:Int))),(52,nV k)]/\SS w h w_ d [⟨zo,47,qZ (cc x k) Ap S.length cp⟩,⟨za,47,[qF,uV 0,eS,uV 0,eS,sZ]⟩,⟨Z,47,qZ x Q u.length cx⟩,⟨I,53,cY ⟨op,n,q,s,A,kn,c⟩⟩,⟨y,81,[.iface 75 (.agg #[qS e m j]),.map (some O),qF]⟩] [] [Sq Ap S,Sq (sB L) (As m (0:Rat)),Sq Q u,fun d=>Tab d,Sq l ga]/\k<=n.natAbs/\S.length=m/\(∀ i,S.getD i 0=((k:Int):Rat)*cc x (k-1)*u.getD i 0)) _ ⟨0,sB L,m,(As m (0:Rat)),zE,rfl,rfl,b.to _ _,MG _,N6,(fun i=>by rw[fA];show (0:Rat)=((0:Int):Rat)*_*_;rw[i0];grind)⟩ ?_);rintro _ _ _ ⟨k,Ap,cp,S,_,cm,rfl,b,hk,hlp,hgp⟩;refine ax ?_;cases zb:(decide ((k:Int)<(max (n:Int) (0-n:Int):Int)))
  .
   have zp:=oF zb;refine lB 53 zb (ah (dr (CG.exit ?_)))
   show CG _ _ _ _ _ _ _ _
   refine aa b [.o (qY (cc x k) Ap S.length cp) 0 0 6] (lP 1 0 (qZ (cc x k) Ap S.length cp) b (fun _ b=>lL b ac (lN (kX ?_))));obtain rfl:op=8:=by omega
   have C:bI 8 n a 0=0:=(eZ (fun d=>absurd d kD) (fun _ d=>by rcases hxd with ⟨h1_,_⟩|⟨_,h2_,_⟩;omega;exact h2_) (fun d=>absurd d kD) (fun d=>absurd d kD));exact b.ret [(1,0,6)] (.tuple #[qY (cc x k) Ap S.length cp,iV 0]) (⟨cc x k,S,_,_,by rw[C],b.f.1,fun _=>(by rcases hxd with ⟨h1_,e1_,e2_⟩|⟨h1_,h2_,e1_,e2_⟩;subst e1_ e2_;exact KT h1_ oM hlp hgp;subst e1_;exact Kg h1_ h2_ oM hlp e2_ hgp)⟩)
  have zp:=oT zb;refine lB 53 zb (ah (co (cK (cQ (kZ (kQ (lL b [.v (pB y),.o (.iface 75 (.agg #[qS e m j])) 4 0 1,.o (qY (cc x k) Ap S.length cp) 0 0 6,.o (qY x Q u.length cx) 2 0 6] (lC 58 b (Ds e m j V (14*K+40) (D+40*K+100) oM oM oM (cc x k) S Ap cp hlp (LQ.mono (ja U k) (by have:=Af (1+K) (show k<=12 by omega);omega)) (fun i=>by rw[hgp i];exact LQ.mono (((LQ.int (z:=(k:Int)) oM oM).mul (ja U (k-1))).mul (F i)) (by have:=Af (1+K) (show k-1<=12 by omega);omega)) x u Q cx hlx (LQ.mono U oM) (fun i=>LQ.mono (F i) oM) _ _ b.g b.f.1 b.f.r.1 b.f.r.2.1) ?_))))))));rintro _ _ zG b ⟨Y,rfl,bb⟩;replace b:=b.aS bb;refine lP 0 0 (qZ ((cc x k)*x) (sB Y) (((pa m).map fun i=>S.getD i 0*x+(cc x k)*u.getD i 0).length) m) b (fun _ b=>lN (kQ (bh 59 ((k:Nat)+1) (k+1) ?_)));refine lL b ac (lD ?_);intro a_ J;replace b:=(b.tl.tl.aS b.f.1);refine ⟨_,_,?_,⟨k+1,sB Y,m,((pa m).map fun i=>S.getD i 0*x+(cc x k)*u.getD i 0),zG,rfl,rfl,b.to _ _,oM,(gQ _ _),(Eo hlx hgp)⟩,J.to _ kR⟩
  omega
 have zq:=eq_of_beq zc;refine lB 19 zc (lL b ac (ak (aa b [.o (.agg #[.iface 75 (.agg #[qS e m j]),.map (some O),qF]) 3 0 3,.o (qY a l ga.length p) 1 0 6] (lC 22 b (pe e m j V (14*K+40) (D+40*K+100) oM oM oM O false a ga l p H (LQ.mono ha oM) (fun i=>LQ.mono (B i) oM) _ _ b.g b.f.2.1 b.f.1) ?_))));rintro _ _ _ b ⟨X,rfl,bd⟩;replace b:=b.aS bd;refine lP 0 0 (qZ (a*((-1:Int):Rat)) (sB X) (((pa m).map fun i=>ga.getD i 0*((-1:Int):Rat)).length) m) b (fun _ b=>lL b ac (lN (kX ?_)));obtain rfl:op=7:=by omega
 have C:bI 7 n a 0=0:=(eZ (fun d=>absurd d kD) (fun d=>absurd d kD) (fun d=>absurd d kD) (fun d=>absurd d kD));exact b.ret [(0,0,6)] (.tuple #[qY (a*((-1:Int):Rat)) (sB X) (((pa m).map fun i=>ga.getD i 0*((-1:Int):Rat)).length) m,iV 0]) (⟨a*((-1:Int):Rat),((pa m).map fun i=>ga.getD i 0*((-1:Int):Rat)),_,_,by rw[C],b.f.1,fun _=>K5⟩)
theorem DN (l:Option Addr)(m u:Nat)(J:m<=1000)(K D:Nat)(hK1:1<=K)(hKD:K<=60000)(hD:D<=10000000)(bm:Nat)(op n:Int)(q:Rat)(s:ByteArray)(A:Option Addr)(kn c:Nat)(a:Rat)(ga:List Rat)(j:Option Addr)(p:Nat)(H:ga.length=m)(ha:LQ K a)(L:∀ i,LQ D (ga.getD i 0))(b:Rat)(gb:List Rat)(x:Option Addr)(B:Nat)(F:gb.length=m)(I:LQ K b)(C:∀ i,LQ D (gb.getD i 0))(hop:3<=op/\op<=6\/12<=op/\op<=13)(w:World)(h:Hp)(g:G w h)(hSa:Sq j ga h)(hSb:Sq x gb h)(tb:Tab h):CR 47 #[.agg #[.iface 75 (.agg #[.slice l m u]),.map (some bm),.bool false],bS ⟨op,n,q,s,A,kn,c⟩,qY a j ga.length p,qY b x gb.length B] w h (fun v h1=>∃ (q_:Rat) (G_:List Rat) (A_:Option Addr) (c_:Nat),v=.tuple #[pq q_ A_ G_.length c_,iV (bI op n a b)]/\Sq A_ G_ h1/\(bI op n a b=0->q_=kT op n 0 a b/\G_=kS m op n a b ga gb)):=by
 have d:=((((sS g).aS hSa).aS hSb).aB tb);refine go Tryz.func47 [(0,.agg #[.iface 75 (.agg #[qS l m u]),.map (some bm),qF]),(1,bS ⟨op,n,q,s,A,kn,c⟩),(2,qY a j ga.length p),(3,qY b x gb.length B)] rfl (ax (lA 4 81 ([.iface 75 (.agg #[qS l m u]),.map (some bm),qF]) d (fun Q w2 h3 d=>lA 5 53 (cY ⟨op,n,q,s,A,kn,c⟩) d (fun b4 w5 h6 d=>lA 6 47 (qZ a j ga.length p) d (fun b7 w8 h9 d=>lA 7 47 (qZ b x gb.length B) d (fun b10 _ _ d=>lA 8 47 ([qF,uV 0,eS,uV 0,eS,sZ]) d (fun b13 _ _ d=>lL d ac (ah (aa d [.v (pB b4),.o (iV op) 3 0 1] (aY (ax ?_)))))))))));cases za:((op:Int) == (3:Int))
 .
  have zk:=aj za;refine lB 14 za (lL d ac (ag (ax ?_)));cases zb:((op:Int) == (4:Int))
  .
   have zl:=aj zb;refine lB 21 zb (lL d ac (ag (ax ?_)));cases zc:((op:Int) == (5:Int))
   .
    have zm:=aj zc;refine lB 32 zc (lL d ac (ag (ax ?_)));cases zd:((op:Int) == (6:Int))
    .
     have zn:=aj zd;refine lB 39 zd (lL d ac (ag (cK (cQ (cR 9 [] mixed d ao ?_)))));refine eV 0 57 (pB Q) (eO 1 58 [(4,0,1)] (.iface 75 (.agg #[qS l m u])) d (eO 2 59 [(2,0,6)] (qY a j ga.length p) d (eV 4 61 (pB Q) (eO 5 62 [(4,0,1)] (.iface 75 (.agg #[qS l m u])) d (eO 6 63 [(1,0,6)] (qY b x gb.length B) d (au 3 60 d (fun _ _ d=>Jy l m u J a j ga.length p _ _ d.g) (fun _ _ d=>au 7 64 d (fun _ _ d=>Jy l m u J b x gb.length B _ _ d.g) (fun _ _ d=>au 8 65 d (fun _ _ d=>J4 a b (LQ.mono ha oM) (LQ.mono I oM) _ _ d.g) (fun _ _ d=>bP d (fun _ _ d=>tV 9 10 (iV (dg a b)) (tN (cQ (aa d ac ?_)))))))))))));cases ze:((dg a b:Int) == (0:Int))
     .
      have zo:=aj ze;refine lB 67 ze (ag (cK (cQ (aa d ac ?_))));cases zf:(decide ((0:Int)<(dg a b:Int)))
      .
       have zp:=oF zf;refine lB 70 zf (lL d [.v (pB b4),.o (iV op) 3 0 1] ?_);cases zg:((op:Int) == (12:Int))
       .
        have zq:=aj zg;refine lB 73 zg (lL d [.v qT] (ak (aa d [.o (qY a j ga.length p) 2 0 6] (lP 0 0 (qZ a j ga.length p) d (fun _ d=>lL d ac (lN (kX ?_)))))));have y:bI op n a b=0:=(eZ (fun e=>absurd e oM) (fun e=>absurd e oM) (fun e=>absurd e oM) (fun _=>fun e_=>absurd (hJ.2 e_) oM));exact d.ret [(0,0,6)] (.tuple #[qY a j ga.length p,iV 0]) (⟨a,ga,_,_,by rw[y],d.f.r.1,fun _=>(Fq H (xb oM))⟩)
       have zq:=eq_of_beq zg;refine lB 73 zg (lL d [.v qF] (ag (cK (aa d [.o (qY b x gb.length B) 1 0 6] (lP 0 0 (qZ b x gb.length B) d (fun _ d=>lL d ac (lN (kX ?_))))))));have y:bI op n a b=0:=(eZ (fun e=>absurd e oM) (fun e=>absurd e oM) (fun e=>absurd e oM) (fun _=>fun e_=>absurd (hJ.2 e_) oM));exact d.ret [(0,0,6)] (.tuple #[qY b x gb.length B,iV 0]) (⟨b,gb,_,_,by rw[y],d.f.2.1,fun _=>(Fh F (xT oM))⟩)
      have zp:=oT zf;refine lB 70 zf (lL d [.v (pB b4),.o (iV op) 3 0 1] ?_);cases zi:((op:Int) == (12:Int))
      .
       have zr:=aj zi;refine lB 73 zi (lL d [.v qF] (ag (cK (aa d [.o (qY b x gb.length B) 1 0 6] (lP 0 0 (qZ b x gb.length B) d (fun _ d=>lL d ac (lN (kX ?_))))))));have y:bI op n a b=0:=(eZ (fun e=>absurd e oM) (fun e=>absurd e oM) (fun e=>absurd e oM) (fun _=>fun e_=>absurd (hJ.2 e_) oM));exact d.ret [(0,0,6)] (.tuple #[qY b x gb.length B,iV 0]) (⟨b,gb,_,_,by rw[y],d.f.2.1,fun _=>(Fh F (xT oM))⟩)
      have zr:=eq_of_beq zi;refine lB 73 zi (lL d [.v qT] (ak (aa d [.o (qY a j ga.length p) 2 0 6] (lP 0 0 (qZ a j ga.length p) d (fun _ d=>lL d ac (lN (kX ?_)))))));have y:bI op n a b=0:=(eZ (fun e=>absurd e oM) (fun e=>absurd e oM) (fun e=>absurd e oM) (fun _=>fun e_=>absurd (hJ.2 e_) oM));exact d.ret [(0,0,6)] (.tuple #[qY a j ga.length p,iV 0]) (⟨a,ga,_,_,by rw[y],d.f.r.1,fun _=>(Fq H (xb oM))⟩)
     have zo:=eq_of_beq ze;refine lB 67 ze (ak (aa d [.o (qY a j ga.length p) 2 0 6] (lP 0 0 (qZ a j ga.length p) d (fun _ d=>lL d ac (lN (kX ?_))))));have y:bI op n a b=7:=(ER (.inr ⟨by omega,hJ.1 oM⟩));exact d.ret [(0,0,6)] (.tuple #[qY a j ga.length p,iV 7]) (⟨a,ga,_,_,by rw[y],d.f.r.1,fun e=>absurd e (by rw[y];decide)⟩)
    have zn:=eq_of_beq zd;refine lB 39 zd (lL d ac (ak (cQ (aa d [.v (pB Q),.o (.iface 75 (.agg #[qS l m u])) 4 0 1,.o (qY b x gb.length B) 1 0 6] (ar 43 d (Jy l m u J b x gb.length B _ _ d.g) (fun _ _ d=>ar 44 d (jl b (LQ.mono I oM) _ _ d.g) (fun _ _ d=>?_)))))));have bk:=ij b.num;cases zj:((b.num.sign:Int) == (0:Int))
    .
     have zs:=aj zj;refine lB 45 zj (ag (cK (cQ (cR 10 [] mixed d ao ?_))));refine eV 0 47 (pB Q) (eO 1 48 [(4,0,1)] (.iface 75 (.agg #[qS l m u])) d (eO 2 49 [(2,0,6)] (qY a j ga.length p) d (eV 3 50 (pB Q) (eO 4 51 [(4,0,1)] (.iface 75 (.agg #[qS l m u])) d (eO 5 52 [(1,0,6)] (qY b x gb.length B) d (eV 7 54 (.iface 75 (.agg #[qS l m u])) (eV 8 55 (.iface 75 (.agg #[qS l m u])) (eC 6 53 d (fun _ _ d=>pg l m u J (14*K+40) (D+40*K+100) oM oM oM b gb x B F (LQ.mono I oM) (fun i=>LQ.mono (C i) oM) (uI (kL oM)) _ _ d.g d.f.2.1 d.f.1) ?_))))))));rintro _ _ _ _ _ d ⟨bf,rfl,Y⟩;replace d:=d.aS Y;refine eC 9 56 d (fun _ _ d=>Ds l m u J (14*K+40) (D+40*K+100) oM oM oM a ga j p H (LQ.mono ha oM) (fun i=>LQ.mono (L i) oM) (((1:Int):Rat)/b) ((pa m).map fun i=>gb.getD i 0*(-((((1:Int):Rat)/b)*(((1:Int):Rat)/b)))) (sB bf) m (gQ _ _) (LQ.mono (LQ.div (LQ.int (z:=1) kD kD) I) oM) (ml (fun i=>LQ.mono ((C i).mul ((LQ.div (LQ.int (z:=1) kD kD) I).mul (LQ.div (LQ.int (z:=1) kD kD) I)).neg) oM) oM) _ _ d.g d.f.r.2.1 d.f.1 d.f.2.1) ?_;rintro _ _ _ _ _ d ⟨O,rfl,Z⟩;replace d:=d.aS Z;refine bP d (fun _ _ d=>tP 10 0 0 (qZ (a*(((1:Int):Rat)/b)) (sB O) (((pa m).map fun i=>ga.getD i 0*(((1:Int):Rat)/b)+a*((pa m).map fun i=>gb.getD i 0*(-((((1:Int):Rat)/b)*(((1:Int):Rat)/b)))).getD i 0).length) m) d (fun _ d=>tV 11 9 (iV 0) (tN (kX ?_))));obtain rfl:op=6:=by omega
     have y:bI 6 n a b=0:=(eZ (fun _=>kL oM) (fun e=>absurd e kD) (fun e=>absurd e kD) (fun e=>absurd e kD));exact d.ret [(0,0,6)] (.tuple #[qY (a*(((1:Int):Rat)/b)) (sB O) (((pa m).map fun i=>ga.getD i 0*(((1:Int):Rat)/b)+a*((pa m).map fun i=>gb.getD i 0*(-((((1:Int):Rat)/b)*(((1:Int):Rat)/b)))).getD i 0).length) m,iV 0]) (⟨a*(((1:Int):Rat)/b),((pa m).map fun i=>ga.getD i 0*(((1:Int):Rat)/b)+a*((pa m).map fun i=>gb.getD i 0*(-((((1:Int):Rat)/b)*(((1:Int):Rat)/b)))).getD i 0),_,_,by rw[y],d.f.1,fun _=>(Li (kL oM))⟩)
    have zs:=eq_of_beq zj;refine lB 45 zj (ak (aa d [.o (qY a j ga.length p) 2 0 6] (lP 0 0 (qZ a j ga.length p) d (fun _ d=>lL d ac (lN (kX ?_))))));obtain rfl:op=6:=by omega
    have y:bI 6 n a b=6:=(Fe (.inl ⟨rfl,EA oM⟩));exact d.ret [(0,0,6)] (.tuple #[qY a j ga.length p,iV 6]) (⟨a,ga,_,_,by rw[y],d.f.r.1,fun e=>absurd e (by rw[y];decide)⟩)
   have zm:=eq_of_beq zc;refine lB 32 zc (lL d ac (ak (aa d [.v (pB Q),.o (.iface 75 (.agg #[qS l m u])) 4 0 1,.o (qY a j ga.length p) 2 0 6,.o (qY b x gb.length B) 1 0 6] (lC 37 d (Ds l m u J (14*K+40) (D+40*K+100) oM oM oM a ga j p H (LQ.mono ha oM) (fun i=>LQ.mono (L i) oM) b gb x B F (LQ.mono I oM) (fun i=>LQ.mono (C i) oM) _ _ d.g d.f.r.1 d.f.2.1 d.f.1) ?_))));rintro _ _ _ d ⟨M,rfl,X⟩;replace d:=d.aS X;refine lP 0 0 (qZ (a*b) (sB M) (((pa m).map fun i=>ga.getD i 0*b+a*gb.getD i 0).length) m) d (fun _ d=>lL d ac (lN (kX ?_)));obtain rfl:op=5:=by omega
   have y:bI 5 n a b=0:=(eZ (fun e=>absurd e kD) (fun e=>absurd e kD) (fun e=>absurd e kD) (fun e=>absurd e kD));exact d.ret [(0,0,6)] (.tuple #[qY (a*b) (sB M) (((pa m).map fun i=>ga.getD i 0*b+a*gb.getD i 0).length) m,iV 0]) (⟨a*b,((pa m).map fun i=>ga.getD i 0*b+a*gb.getD i 0),_,_,by rw[y],d.f.1,fun _=>⟨rfl,K7⟩⟩)
  have zl:=eq_of_beq zb;refine lB 21 zb (lL d ac (ak (cQ (cR 9 [] mixed d ao ?_))));refine eV 0 22 (pB Q) (eO 1 23 [(4,0,1)] (.iface 75 (.agg #[qS l m u])) d (eO 2 24 [(2,0,6)] (qY a j ga.length p) d (eO 3 25 [(4,0,3)] (.agg #[.iface 75 (.agg #[qS l m u]),.map (some bm),qF]) d (eO 4 26 [(1,0,6)] (qY b x gb.length B) d (eV 6 28 (.iface 75 (.agg #[qS l m u])) (eV 7 29 (.iface 75 (.agg #[qS l m u])) (eC 5 27 d (fun _ _ d=>pe l m u J (14*K+40) (D+40*K+100) oM oM oM bm false b gb x B F (LQ.mono I oM) (fun i=>LQ.mono (C i) oM) _ _ d.g d.f.2.1 d.f.1) ?_)))))));rintro _ _ _ _ _ d ⟨bd,rfl,W⟩;replace d:=d.aS W;refine eC 8 30 d (fun _ _ d=>G3 l m u J (14*K+40) (D+40*K+100) oM oM oM a ga j p H (LQ.mono ha oM) (fun i=>LQ.mono (L i) oM) (b*((-1:Int):Rat)) ((pa m).map fun i=>gb.getD i 0*((-1:Int):Rat)) (sB bd) m (gQ _ _) (LQ.mono (I.mul (LQ.int (z:=-1) kD kD)) oM) (ml (fun i=>((C i).mul (LQ.int (z:=-1) kD kD)).mono oM) oM) _ _ d.g d.f.r.2.1 d.f.1 d.f.2.1) ?_;rintro _ _ _ _ _ d ⟨S,rfl,V⟩;replace d:=d.aS V;refine bP d (fun _ _ d=>tP 9 0 0 (qZ (a+(b*((-1:Int):Rat))) (sB S) (((pa m).map fun i=>ga.getD i 0+((pa m).map fun i=>gb.getD i 0*((-1:Int):Rat)).getD i 0).length) m) d (fun _ d=>tV 10 9 (iV 0) (tN (kX ?_))));obtain rfl:op=4:=by omega
  have y:bI 4 n a b=0:=(eZ (fun e=>absurd e kD) (fun e=>absurd e kD) (fun e=>absurd e kD) (fun e=>absurd e kD));exact d.ret [(0,0,6)] (.tuple #[qY (a+(b*((-1:Int):Rat))) (sB S) (((pa m).map fun i=>ga.getD i 0+((pa m).map fun i=>gb.getD i 0*((-1:Int):Rat)).getD i 0).length) m,iV 0]) (⟨a+(b*((-1:Int):Rat)),((pa m).map fun i=>ga.getD i 0+((pa m).map fun i=>gb.getD i 0*((-1:Int):Rat)).getD i 0),_,_,by rw[y],d.f.1,fun _=>Lb⟩)
 have zk:=eq_of_beq za;refine lB 14 za (lL d ac (ak (aa d [.v (pB Q),.o (.iface 75 (.agg #[qS l m u])) 4 0 1,.o (qY a j ga.length p) 2 0 6,.o (qY b x gb.length B) 1 0 6] (lC 19 d (G3 l m u J (14*K+40) (D+40*K+100) oM oM oM a ga j p H (LQ.mono ha oM) (fun i=>LQ.mono (L i) oM) b gb x B F (LQ.mono I oM) (fun i=>LQ.mono (C i) oM) _ _ d.g d.f.r.1 d.f.2.1 d.f.1) ?_))));rintro _ _ _ d ⟨U,rfl,bb⟩;replace d:=d.aS bb;refine lP 0 0 (qZ (a+b) (sB U) (((pa m).map fun i=>ga.getD i 0+gb.getD i 0).length) m) d (fun _ d=>lL d ac (lN (kX ?_)));obtain rfl:op=3:=by omega
 have y:bI 3 n a b=0:=(eZ (fun e=>absurd e kD) (fun e=>absurd e kD) (fun e=>absurd e kD) (fun e=>absurd e kD));exact d.ret [(0,0,6)] (.tuple #[qY (a+b) (sB U) (((pa m).map fun i=>ga.getD i 0+gb.getD i 0).length) m,iV 0]) (⟨a+b,((pa m).map fun i=>ga.getD i 0+gb.getD i 0),_,_,by rw[y],d.f.1,fun _=>⟨rfl,Lq⟩⟩)
theorem xI (n:Int):bE (n-1)<=2*bE n:=by
 unfold bE
 split<;>split<;>omega
theorem GI {a:Rat}{K:Nat}(b:1<=K):LQ K ((a.num.sign:Int):Rat):=by
 have:=ij a.num;exact (LQ.int oM oM).mono b
section
variable {op n:Int} {a b:Rat} {wa wb:Nat}
theorem DW (o:1<=wa)(ha:LQ (3*wa-2) a)(c:LQ (3*wb+1) b)(hn : -12<=n/\n<=12):LQ (12*(dI op n*(wa+wb))) (Bo op n a b):=by
  obtain ⟨M,hM⟩:∃ M,M=dI op n*(wa+wb):=⟨_,rfl⟩;have w1:=dl op n;have f:wa+wb<=dI op n*(wa+wb):=Nc _ w1;rw[<-hM] at f ⊢
  have h1:LQ 1 (((1:Int):Rat)):=LQ.lit (z:=1) kD;have h0:LQ (12*M) (0:Rat):=jd oM
  unfold Bo
  split
  . exact h1.mono oM
  split
  . exact h1.mono oM
  split
  . exact c.mono oM
  split
  . exact (h1.div c).mono oM
  split
  . exact h1.neg.mono oM
  split
  . rename_i h
    split
    . exact h0
    . have e:dI op n=bE n:=by unfold dI;rw[if_neg oM,if_pos h]
      have i:=uy (n:=n-1) oM ha;have l:LQ 1 (((n:Int):Rat)):=LQ.int oM oM;have j:=xI n
      have k2:bE (n-1)*(3*wa-2+2)<=6*M:=by
        rw[show 3*wa-2+2=3*wa by omega,hM,e]
        calc bE (n-1)*(3*wa)<=2*bE n*(3*wa):=Af _ j
          _=6*(bE n*wa):=by rw[L6,Mv (bE n) 3 wa,<-L6]
          _<=6*(bE n*(wa+wb)):=LW _ (LW _ (Oa _ _))
      exact (i.mul l).mono oM
  split
  . exact GI oM
  split
  . have:=ij a.num
    exact (LQ.int oM oM).mono oM
  split
  . have d:=h1.add ha.abs
    exact ((h1.div d).mul (h1.div d)).mono oM
  split
  . split
    . exact h1.mono oM
    . exact h0
  split
  . split
    . exact h0
    . exact h1.mono oM
  . exact h0
theorem Dk (e:1<=wa)(ha:LQ (3*wa-2) a)(c:LQ (3*wb+1) b):LQ (12*(dI op n*(wa+wb))) (BB op a b):=by
 obtain ⟨M,hM⟩:∃ M,M=dI op n*(wa+wb):=⟨_,rfl⟩;have w1:=dl op n;have d:wa+wb<=dI op n*(wa+wb):=Nc _ w1;rw[<-hM] at d ⊢
 have h1:LQ 1 (((1:Int):Rat)):=LQ.lit (z:=1) kD;have h0:LQ (12*M) (0:Rat):=jd oM
 unfold BB
 split
 ·exact h1.mono oM
 split
 ·exact h1.neg.mono oM
 split
 ·exact ha.mono oM
 split
 ·exact ((ha.mul (h1.div c)).mul (h1.div c)).neg.mono oM
 split
 ·split
  ·exact h0
  ·exact h1.mono oM
 split
 ·split
  ·exact h1.mono oM
  ·exact h0
 ·exact h0
theorem Hw (f:1<=wa)(ha:LQ (3*wa-2) a)(d:1<=wb->LQ (3*wb-2) b)(e:fv op=2->1<=wb)(h:3<=op/\op<=13)(hk:rC op n a b):LQ (3*(dI op n*(wa+wb))-2) (kT op n 0 a b):=by
 have:=HK (op:=op) (n:=n) (q:=0) (a:=a) (b:=b) (e1:=0) (e2:=0) (wa:=wa) (wb:=wb) (c:=3) (ep 3) f ha d e (jd kD) h;rw[GQ rfl rfl hk] at this
 unfold J5 at this
 rw[if_pos hk] at this
 exact this
theorem D5 (h:bI op n a b=0):rC op n a b:=Decidable.byContradiction fun k=>by
 have:bI op n a b=6:=if_neg k
 omega
end
def B9 (W d:Nat)(x:Int × Rat × List Rat):Prop:=LQ (3*W-2) x.2.1/\∀ i,LQ (40*(W*d)) (x.2.2.getD i 0)
theorem xk {m:Nat}{op n:Int}{wa wb d:Nat}{x y:Int × Rat × List Rat}(f:1<=wa)(c:B9 wa d x)(a:1<=wb->B9 wb d y)(b:fv op=2->1<=wb)(h1:fv op=1->wb=0/\y.2.1=0/\y.2.2=[])(B:3<=op/\op<=13)(hn : -12<=n/\n<=12)(ha:fv op=1\/fv op=2):B9 (dI op n*(wa+wb)) (d+1) (qx m op n x y):=by
  have w1:=dl op n;have u:wa+wb<=dI op n*(wa+wb):=Nc _ w1
  have hz:B9 (dI op n*(wa+wb)) (d+1) ((0:Int),(0:Rat),([]:List Rat)):=⟨jd oM,fun i=>by
    rw[dB];exact jd (by have:1<=dI op n*(wa+wb)*(d+1):=Nat.mul_pos oM (MW d);omega)⟩
  by_cases c1:x.1=0
  . by_cases c2:y.1=0
    . by_cases c3:bI op n x.2.1 y.2.1=0
      . rw[kJ c1 c2 c3]
        have l:LQ (3*wb+1) y.2.1:=by
          rcases ha with h|h
          . obtain ⟨e1,e2,_⟩:=h1 h
            rw[e2];exact jd oM
          . exact (a (b h)).1.mono oM
        refine ⟨Hw f c.1 (fun h=>(a h).1) b B (D5 c3),fun i=>?_⟩;have p:=DW (op:=op) (n:=n) f c.1 l hn;have z:=Dk (op:=op) (n:=n) f c.1 l
        generalize hM:dI op n*(wa+wb)=M at *
        have o:LQ (40*(wb*d)+1) (y.2.2.getD i 0):=by
          by_cases h:1<=wb
          . exact ((a h).2 i).mono oM
          . rcases ha with k|k
            . rw[(h1 k).2.2,dB];exact jd oM
            . exact absurd (b k) h
        have D:(wa+wb)*d<=M*d:=Af _ u;have k2:(wa+wb)*d=wa*d+wb*d:=LI _ _ _;have C:M*(d+1)=M*d+M:=Nat.mul_succ _ _
        show LQ (40*(M*(d+1))) ((kS m op n x.2.1 y.2.1 x.2.2 y.2.2).getD i 0)
        unfold kS
        exact ml (K:=40*(M*(d+1))) (fun j=>by
          have e:=c.2 j
          have o:LQ (40*(wb*d)+1) (y.2.2.getD j 0):=by
            by_cases h:1<=wb
            . exact ((a h).2 j).mono oM
            . rcases ha with k|k
              . rw[(h1 k).2.2,dB];exact jd oM
              . exact absurd (b k) h
          exact ((p.mul e).add (z.mul o)).mono oM) oM i
      . rw[nJ c1 c2 c3];exact hz
    . rw[pR c1 c2];exact hz
  . rw[n4 c1];exact hz
section
variable {ok:ByteArray->Prop} {ix:ByteArray->Nat} {at_:List Rat}
theorem Df (m i j:Nat):LQ 1 ((fr m i).getD j 0):=by
 unfold fr
 by_cases h:i<m
 ·rw[eo (by simpa using h)]
  split
  ·exact LQ.lit (z:=1) kD
  ·rw[fA];exact jd kD
 ·rw[List.set_eq_of_length_le (by simp;omega),fA];exact jd kD
theorem ud {d:Nat}{op n:Int}{q:Rat}{s:ByteArray}{a:Tm}(h1:op≠1)(b:op≠2):bF ix at_ (d+1) (.mk op n q s [a])=qx at_.length op n (bF ix at_ d a) (0,0,[]):=by
 show (if op=1 then _ else if op=2 then _ else _)=_
 rw[if_neg h1,if_neg b];rfl
theorem pz {d:Nat}{op n:Int}{q:Rat}{s:ByteArray}{b a:Tm}(h1:op≠1)(c:op≠2):bF ix at_ (d+1) (.mk op n q s [b,a])=qx at_.length op n (bF ix at_ d b) (bF ix at_ d a):=by
 show (if op=1 then _ else if op=2 then _ else _)=_
 rw[if_neg h1,if_neg c];rfl
theorem pD (b:∀ i,LQ 1 (at_.getD i 0)):∀ {d:Nat} {t:Tm},WfT1 ok d t->1<=bZ d t/\B9 (bZ d t) d (bF ix at_ d t)
  | d + 1,.mk op n q s ks,⟨h1,h2,l,h4,h5,h6,f,c,h9⟩=>by
    have p:=aE op;replace h1:fv op=(ks.length:Nat):=h1;replace l:LQ 1 q:=l;replace f : -12<=n:=f;replace c:n<=12:=c
    rcases j9 h1 with rfl|⟨t,rfl⟩|⟨t,u,rfl⟩
    . have e:bZ (d+1) (.mk op n q s [])=1:=uM rfl
      rw[e];refine ⟨ep _,?_⟩
      simp only[Oe] at h1
      by_cases o1:op=1
      . have e2:bF ix at_ (d+1) (.mk op n q s [])=(0,q,As at_.length 0):=if_pos o1
        rw[e2];exact ⟨l,fun i=>by show LQ _ ((As _ _).getD i 0);rw[fA];exact jd oM⟩
      . have o:op=2:=by omega
        have e2:bF ix at_ (d+1) (.mk op n q s [])=(0,at_.getD (ix s) 0,fr at_.length (ix s)):=(if_neg o1).trans (if_pos o);rw[e2];exact ⟨b _,fun i=>(Df _ _ i).mono oM⟩
    . obtain ⟨i1,a⟩:=pD b (h9 0 (MW _))
      replace i1:1<=bZ d t:=i1;replace a:B9 (bZ d t) d (bF ix at_ d t):=a
      simp only[ub,Oe] at h1
      have e:bZ (d+1) (.mk op n q s [t])=dI op n*(bZ d t+0):=by rw[jO (show [t].length≠0 from Od _)];show _*(0+bZ d t)=_;rw[Ab,y5]
      have w1:=dl op n;rw[e,ud oM oM];exact ⟨e4 i1 (Nc _ w1),xk i1 a (fun h=>absurd h kD) oM (fun _=>⟨rfl,rfl,rfl⟩) oM ⟨f,c⟩ oM⟩
    . obtain ⟨i1,a⟩:=pD b (h9 0 (MW _))
      obtain ⟨j,j2⟩:=pD b (h9 1 (by show 1<2;decide));replace i1:1<=bZ d t:=i1;replace a:B9 (bZ d t) d (bF ix at_ d t):=a;replace j:1<=bZ d u:=j;replace j2:B9 (bZ d u) d (bF ix at_ d u):=j2
      simp only[ub,Oe] at h1
      have e:bZ (d+1) (.mk op n q s [t,u])=dI op n*(bZ d t+bZ d u):=by rw[jO (show [t,u].length≠0 from Od _)];show _*(0+bZ d t+bZ d u)=_;rw[Ab]
      have w1:=dl op n;rw[e,pz oM oM];exact ⟨e4 oM (Nc _ w1),xk i1 a (fun _=>j2) (fun _=>j) oM oM ⟨f,c⟩ oM⟩
theorem El {m:Nat}{op n:Int}{x y:Int × Rat × List Rat}(h:(qx m op n x y).1=0):(qx m op n x y).2.2.length=m:=by
 by_cases c1:x.1=0
 ·by_cases c2:y.1=0
  ·by_cases c3:bI op n x.2.1 y.2.1=0
   ·rw[kJ c1 c2 c3];exact duG_len
   ·rw[nJ c1 c2 c3] at h;exact absurd h c3
  ·rw[pR c1 c2] at h;exact absurd h c2
 ·rw[n4 c1] at h;exact absurd h c1
theorem jS:∀ {d:Nat} {t:Tm},WfT1 ok d t->(bF ix at_ d t).1=0->(bF ix at_ d t).2.2.length=at_.length
  | d + 1,t,_,h=>by
    by_cases o1:t.op=1
    . have e:bF ix at_ (d+1) t=(0,t.q,As at_.length 0):=if_pos o1
      rw[e];exact N6
    . by_cases o2:t.op=2
      . have e:bF ix at_ (d+1) t=(0,at_.getD (ix t.s) 0,fr at_.length (ix t.s)):=(if_neg o1).trans (if_pos o2)
        rw[e];unfold fr;simp
      . have e:bF ix at_ (d+1) t=qx at_.length t.op t.n _ _:=(if_neg o1).trans (if_neg o2)
        rw[e] at h ⊢;exact El h
end
open Go.RowKit Go.WideMaps
structure MapI (P:Program) (kt:TypeId) (Q:Value->Prop) (w1:World) (h1:Hp) (b:Nat):Prop where
  jk:h1[b]?=some bc
  ex:∃ es clk,w1.heap[b]?=some (.map es clk)/\∀ e∈es.toList,(∃ l,keyOf P kt e.key=some l)/\Q e.val
section laws
variable {P:Program} {n:Nat} {N R:Po} {X:Nat->Po} {ops:Array Oper} {k:Nat} {Γ:bU} {w:World} {h:Hp} {w0 w1:World} {h0 h1:Hp} {B:List Bx} {Rs:List Rw} {F:List (Hp->Prop)}
theorem SS.base (s:SS w1 h1 w h B Rs F){b:Nat}{o:Obj}(u:h1[b]?=some bc)(D:b<w1.heap.size) :
  SS { w1 with heap:=w1.heap.setIfInBounds b o } h1 { w with heap:=w.heap.setIfInBounds b o } h B Rs F/\G { w1 with heap:=w1.heap.setIfInBounds b o } h1:=by
 have y:b<h1.size:=aJ u;have i:h[b]?=some bc:=(s.st.up.gr.blk b y).trans u;have p:b<w.heap.size:=by rw[s.g.size];exact aJ i
 have set:∀ (w:World) c,c≠b->({ w with heap:=w.heap.setIfInBounds b o }:World).heap[c]?=w.heap[c]?:=fun w c d=>by show (w.heap.setIfInBounds b o)[c]?=_;rw[la (Ne.symm d)]
 have a:∀ (w:World),b<w.heap.size->({ w with heap:=w.heap.setIfInBounds b o }:World).heap[b]?=some o:=fun w H=>by show (w.heap.setIfInBounds b o)[b]?=_;rw[FA H]
 have z:∀ (w:World) (h:Hp),G w h->h[b]?=some bc->G { w with heap:=w.heap.setIfInBounds b o } h:=fun w h g j=>⟨by show (w.heap.setIfInBounds b o).size=_;rw[Ok];exact g.size,fun c=>by
  by_cases e:c=b
  ·subst e;exact .inr j
  ·rw[set w c e];exact g.blk c⟩
 have l:=z w1 h1 s.g0 u;refine ⟨⟨l,⟨⟨?_,s.st.up.gr,z w h s.g i⟩,fun x C=>?_,s.st.jk,s.st.lo,s.st.nd⟩,fun r hr=>?_,s.ap,s.mo,s.f⟩,l⟩
 ·have e:=s.st.up.ext
  refine ⟨e.os,e.tape,e.output,?_,fun c d=>?_⟩
  ·show (w1.heap.setIfInBounds b o).size<=(w.heap.setIfInBounds b o).size
   rw[Ok,Ok];exact e.size
  ·by_cases q:c=b
   ·subst q;rw[a w p,a w1 D]
   ·rw[set w c q,set w1 c q];exact e.block c (by have:c<(w1.heap.setIfInBounds b o).size:=d;rw[Ok] at this;exact this)
 ·have:x.b≠b:=fun e=>by have:=s.st.lo x C;omega
  exact (set w x.b this).trans (s.st.own x C)
 ·have q:=s.ro r hr
  refine ⟨em q.own (fun c d=>set w c (fun e=>?_)),q.jk,q.ap⟩;subst e
  rcases q.own with ⟨_,e2|⟨g,cap,cur,hv,hb',_⟩⟩
  ·rw[e2.1] at d;simp[Value.ownBlock] at d
  ·rw[hv] at d
   simp[Value.ownBlock] at d
   omega
end laws
theorem G9 (ok:ByteArray->Prop)(ix:ByteArray->Nat)(fs:List Rat)(b:Option Addr)(i:Nat)(D:fs.length<=1000)(e:Nat)(u:List MapEntry)(d:Nat)(n:Int)(q:Rat)(s:ByteArray)(A:Option Addr)(c:Nat)(ps:List PTm)(ks:List Tm)(w:World)(h:Hp)(g:G w h)(B:SlO 9 cY cH h A ps)(hF:Sq b fs h)(hM:MapS h e u):CR 24 #[.agg #[.iface 75 (.agg #[.slice b fs.length i]),.map (some e),.bool false],bS ⟨1,n,q,s,A,ps.length,c⟩] w h (fun v h1=>∃ (l:Option Addr) (c_:Nat),v=.tuple #[pq (bF ix fs (d+1) (.mk 1 n q s ks)).2.1 l (bF ix fs (d+1) (.mk 1 n q s ks)).2.2.length c_,iV (bF ix fs (d+1) (.mk 1 n q s ks)).1]/\Sq l (bF ix fs (d+1) (.mk 1 n q s ks)).2.2 h1):=by
 have a:=((((sS g).aS B).aS hF).add (K:=fun y=>MapS y e u) hM);refine go Tryz.func24 [(0,.agg #[.iface 75 (.agg #[qS b fs.length i]),.map (some e),qF]),(1,bS ⟨1,n,q,s,A,ps.length,c⟩)] rfl (ax (lA 2 81 ([.iface 75 (.agg #[qS b fs.length i]),.map (some e),qF]) a (fun C w2 L a=>lA 3 53 (cY ⟨1,n,q,s,A,ps.length,c⟩) a (fun x M J a=>lA 4 47 ([qF,uV 0,eS,uV 0,eS,sZ]) a (fun I H F a=>lL a ac (aG (lA 6 47 ([qF,uV 0,eS,uV 0,eS,sZ]) a (fun z _ _ a=>ah (aa a [.v (pB x),.o (iV 1) 2 0 1] (aY (aa a [.v qT,.c] (ak (aa a [.v (pB C),.o (.iface 75 (.agg #[qS b fs.length i])) 3 0 1,.v (qP x 2),.o (qv q) 2 2 5] (lC 19 a (jQ b fs.length i D q _ _ a.g) ?_))))))))))))));rintro _ _ _ a ⟨p,rfl,j⟩;replace a:=a.aS j;exact lP 1 0 (qZ q (sB p) ((As fs.length (0:Rat)).length) fs.length) a (fun _ a=>lL a ac (ae a [(1,0,6)] (.tuple #[qY q (sB p) ((As fs.length (0:Rat)).length) fs.length,iV 0]) (⟨_,_,rfl,a.f.1⟩)))
theorem FU (ok:ByteArray->Prop)(ix:ByteArray->Nat)(fs:List Rat)(b:Option Addr)(j:Nat)(L:fs.length<=1000)(e:Nat)(p:List MapEntry)(d:Nat)(n:Int)(q:Rat)(s:ByteArray)(A:Option Addr)(c:Nat)(ps:List PTm)(ks:List Tm)(x:ix s<fs.length)(l:∃ i,Instr.findNow .string (.string s) p 0=some (some (i,nV (ix s))))(w:World)(h:Hp)(g:G w h)(H:SlO 9 cY cH h A ps)(hF:Sq b fs h)(hM:MapS h e p):CR 24 #[.agg #[.iface 75 (.agg #[.slice b fs.length j]),.map (some e),.bool false],bS ⟨2,n,q,s,A,ps.length,c⟩] w h (fun v h1=>∃ (y:Option Addr) (c_:Nat),v=.tuple #[pq (bF ix fs (d+1) (.mk 2 n q s ks)).2.1 y (bF ix fs (d+1) (.mk 2 n q s ks)).2.2.length c_,iV (bF ix fs (d+1) (.mk 2 n q s ks)).1]/\Sq y (bF ix fs (d+1) (.mk 2 n q s ks)).2.2 h1):=by
 have a:=((((sS g).aS H).aS hF).add (K:=fun D=>MapS D e p) hM);refine go Tryz.func24 [(0,.agg #[.iface 75 (.agg #[qS b fs.length j]),.map (some e),qF]),(1,bS ⟨2,n,q,s,A,ps.length,c⟩)] rfl (ax (lA 2 81 ([.iface 75 (.agg #[qS b fs.length j]),.map (some e),qF]) a (fun C w2 U a=>lA 3 53 (cY ⟨2,n,q,s,A,ps.length,c⟩) a (fun B V S a=>lA 4 47 ([qF,uV 0,eS,uV 0,eS,sZ]) a (fun Q O M a=>lL a ac (aG (lA 6 47 ([qF,uV 0,eS,uV 0,eS,sZ]) a (fun F _ _ a=>ah (aa a [.v (pB B),.o (iV 2) 2 0 1] (aY (aa a [.v qF,.c] (ag (aa a [.v qT,.c] (ak (aa a [.v (pB C),.o (.iface 75 (.agg #[qS b fs.length j])) 3 0 1,.v (qP C 1),.o (.map (some e)) 3 1 1,.v (qP B 7),.o (.string s) 2 7 1] (IZ 28 76 9 3 (s) false (nV (ix s)) (true) a a.f.1 ?_ (hf:=(by obtain ⟨I,J⟩:=l;exact .inl ⟨I,J,rfl⟩))))))))))))))))));refine lC 29 a (Gv b fs.length j L fs rfl (ix s) x _ _ a.g a.f.2.1) ?_;rintro _ _ _ a ⟨z,rfl,u⟩;replace a:=a.aS u;exact lP 1 0 (qZ (fs.getD (ix s) 0) (sB z) ((fr fs.length (ix s)).length) fs.length) a (fun _ a=>lL a ac (ae a [(1,0,6)] (.tuple #[qY (fs.getD (ix s) 0) (sB z) ((fr fs.length (ix s)).length) fs.length,iV 0]) (⟨_,_,rfl,a.f.1⟩)))
theorem Hn  (ok:ByteArray->Prop)(ix:ByteArray->Nat)(fs:List Rat)(j:Option Addr)(l:Nat)(hm:fs.length<=1000)(e:Nat)(Q:List MapEntry)(d:Nat)(ih:∀ (p:PTm) (t:Tm) (w:World) (h:Hp),G w h->TmH d h p t->WfT1 ok d t->bZ d t<=1000->Sq j fs h->MapS h e Q->Tab h->Calls Tryz.prog 24 #[.agg #[.iface 75 (.agg #[.slice j fs.length l]),.map (some e),.bool false],bS p] w (Ret w h (fun v h1=>∃ (y:Option Addr) (c_:Nat),v=.tuple #[pq (bF ix fs d t).2.1 y (bF ix fs d t).2.2.length c_,iV (bF ix fs d t).1]/\Sq y (bF ix fs d t).2.2 h1)))(op n:Int)(q:Rat)(s:ByteArray)(A:Option Addr)(c:Nat)(u:PTm)(b:Tm)(D:WfT1 ok d b)(Z:bZ d b<=1000)(M:LQ 3000 (bF ix fs d b).2.1)(S:∀ i,LQ 1000000 ((bF ix fs d b).2.2.getD i 0))(hop:3<=op/\op<=13)(har:fv op=1)(hn : -12<=n/\n<=12)(w:World)(h:Hp)(g:G w h)(hK:SlO 9 cY cH h A ([u]:List PTm))(Y:TmH d h u b)(hF:Sq j fs h)(hM:MapS h e Q)(tb:Tab h):CR 24 #[.agg #[.iface 75 (.agg #[.slice j fs.length l]),.map (some e),.bool false],bS ⟨op,n,q,s,A,1,c⟩] w h (fun v h1=>∃ (y:Option Addr) (c_:Nat),v=.tuple #[pq (bF ix fs (d+1) (.mk op n q s ([b]:List Tm))).2.1 y (bF ix fs (d+1) (.mk op n q s ([b]:List Tm))).2.2.length c_,iV (bF ix fs (d+1) (.mk op n q s ([b]:List Tm))).1]/\Sq y (bF ix fs (d+1) (.mk op n q s ([b]:List Tm))).2.2 h1):=by
 have a:=((((((sS g).aS hK).add (K:=fun L=>TmH d L u b) Y).aS hF).add (K:=fun L=>MapS L e Q) hM).aB tb);have hln:([u]:List PTm).length=1:=rfl;have hac:=aE op;refine go Tryz.func24 [(0,.agg #[.iface 75 (.agg #[qS j fs.length l]),.map (some e),qF]),(1,bS ⟨op,n,q,s,A,1,c⟩)] rfl (ax (lA 2 81 ([.iface 75 (.agg #[qS j fs.length l]),.map (some e),qF]) a (fun b1 w2 h3 a=>lA 3 53 (cY ⟨op,n,q,s,A,1,c⟩) a (fun V w5 h6 a=>lA 4 47 ([qF,uV 0,eS,uV 0,eS,sZ]) a (fun b7 w8 h9 a=>lL a ac (aG (lA 6 47 ([qF,uV 0,eS,uV 0,eS,sZ]) a (fun b10 _ _ a=>ah (aa a [.v (pB V),.o (iV op) 2 0 1] (aY (ax ?_)))))))))));have zc:((op:Int) == (1:Int))=false:=eM oM;have I:=aj zc;refine lB 14 zc (lL a ac (ag (ax ?_)));have zd:((op:Int) == (2:Int))=false:=eM oM;have J:=aj zd;refine lB 21 zd (lL a ac (ag (cK (cQ ?_))));have U:=a;refine cR 10 [⟨9,7,.cells (Nf [qF,uV 0,eS,uV 0,eS,sZ]) 47 (0,0)⟩] mixed a (bv (eg kR (fun _ _=>by kernel_rfl)) ao) (eO 0 31 [(3,0,3)] (.agg #[.iface 75 (.agg #[qS j fs.length l]),.map (some e),qF]) a (eV 1 32 (qP V 8) (eO 2 33 [(2,8,1)] (qS A 1 c) a (eX 3 34 A 1 c 9 0 0 ((a.f.q.1).ok oM) (eH 4 35 (bS (([u]:List PTm).getD 0 cH)) a ((a.f.q.1).el 0 oM) (eC 5 36 a (fun _ _ a=>ih (([u]:List PTm).getD 0 cH) b _ _ a.g a.f.r.2.1 D Z a.f.r.1 a.f.2.1 a.f.1) ?_))))));rintro _ _ _ _ _ a ⟨B,c1,rfl,O⟩;replace a:=a.aS O;refine eV 6 30 (.tuple #[qY ((bF ix fs d b).2.1) B (((bF ix fs d b).2.2).length) c1,iV ((bF ix fs d b).1)]) (eV 7 37 (qY ((bF ix fs d b).2.1) B (((bF ix fs d b).2.2).length) c1) (eV 8 38 (iV ((bF ix fs d b).1)) (f0 [] U a 47 [qF,uV 0,eS,uV 0,eS,sZ] (fun _ _ zg a=>tP 10 0 0 (qZ ((bF ix fs d b).2.1) B (((bF ix fs d b).2.2).length) c1) a (fun _ a=>tV 11 8 (iV ((bF ix fs d b).1)) (tN (cQ (aa a ac ?_))))))));cases za:(((bF ix fs d b).1:Int) != (0:Int))
 .
  have ze:=aW za;refine lB 40 za (ag (cK (cQ (aa a [.v (qP V 8),.o (qS A 1 c) 3 8 1,.v (iV 1),.v qT] (ak (kQ (lL a [.o (.agg #[.iface 75 (.agg #[qS j fs.length l]),.map (some e),qF]) 4 0 3,.o (bS ⟨op,n,q,s,A,1,c⟩) 3 0 9,.o (qY ((bF ix fs d b).2.1) B (((bF ix fs d b).2.2).length) c1) 0 0 6] (lC 51 a (Cb j fs.length l hm 3000 1000000 kD kD kD e op n q s A 1 c (bF ix fs d b).2.1 (bF ix fs d b).2.2 B c1 (jS D oM) M S oM (fun _=>hn) _ _ a.g a.f.1 a.f.2.1) ?_))))))));rintro _ _ _ a ⟨z,Gr,C,x,rfl,X,W⟩;replace a:=a.aS X;refine lL a [.c,.v (qY z C Gr.length x),.v (iV (bI op n (bF ix fs d b).2.1 0))] (lP 0 0 (qZ z C Gr.length x) a (fun _ a=>lL a ac (ah (aa a ac ?_))));cases zb:(((bI op n (bF ix fs d b).2.1 0):Int) != (0:Int))
  .
   have zf:=aW zb;exact lB 76 zb (ag (cK (aa a [.o (qY z C Gr.length x) 0 0 6] (lP 2 0 (qZ z C Gr.length x) a (fun _ a=>lL a ac (ae a [(2,0,6)] (.tuple #[qY z C Gr.length x,iV 0]) (by obtain ⟨H,F⟩:=W oM;rw[ud oM oM,kJ oM rfl oM,H,F];exact ⟨_,_,rfl,by rw[<-F];exact a.f.1⟩)))))))
  have zf:=aN zb;refine lB 76 zb (ak (aa a [.o (.agg #[qF,uV 0,eS,uV 0,eS,sZ]) 1 0 6,.c] (lP 2 0 ([qF,uV 0,eS,uV 0,eS,sZ]) a (fun _ a=>lL a ac (lN (bH [(4,pB b7),(5,iV (bI op n (bF ix fs d b).2.1 0)),(7,pB zg)] ?_))))));exact kX (a.ret [(2,0,6)] (.tuple #[.agg #[qF,uV 0,eS,uV 0,eS,sZ],iV (bI op n (bF ix fs d b).2.1 0)]) (by rw[ud oM oM,nJ oM rfl oM];exact ⟨none,0,rfl,SlO.nil⟩))
 have ze:=aN za;exact lB 40 za (ak (aa a [.o (.agg #[qF,uV 0,eS,uV 0,eS,sZ]) 1 0 6,.c] (lP 2 0 ([qF,uV 0,eS,uV 0,eS,sZ]) a (fun _ a=>lL a ac (ae a [(2,0,6)] (.tuple #[.agg #[qF,uV 0,eS,uV 0,eS,sZ],iV ((bF ix fs d b).1)]) (by rw[ud oM oM,n4 oM];exact ⟨none,0,rfl,SlO.nil⟩))))))
theorem GO  (ok:ByteArray->Prop)(ix:ByteArray->Nat)(fs:List Rat)(l:Option Addr)(y:Nat)(hm:fs.length<=1000)(j:Nat)(es:List MapEntry)(d:Nat)(ih:∀ (p:PTm) (t:Tm) (w:World) (h:Hp),G w h->TmH d h p t->WfT1 ok d t->bZ d t<=1000->Sq l fs h->MapS h j es->Tab h->Calls Tryz.prog 24 #[.agg #[.iface 75 (.agg #[.slice l fs.length y]),.map (some j),.bool false],bS p] w (Ret w h (fun v h1=>∃ (D:Option Addr) (c_:Nat),v=.tuple #[pq (bF ix fs d t).2.1 D (bF ix fs d t).2.2.length c_,iV (bF ix fs d t).1]/\Sq D (bF ix fs d t).2.2 h1)))(op n:Int)(q:Rat)(s:ByteArray)(A:Option Addr)(c:Nat)(u:PTm)(e:Tm)(M:WfT1 ok d e)(hg1:bZ d e<=1000)(hv1:LQ 3000 (bF ix fs d e).2.1)(hG1:∀ i,LQ 1000000 ((bF ix fs d e).2.2.getD i 0))(x:PTm)(b:Tm)(B:WfT1 ok d b)(hg2:bZ d b<=1000)(W:LQ 3000 (bF ix fs d b).2.1)(hG2:∀ i,LQ 1000000 ((bF ix fs d b).2.2.getD i 0))(hop:3<=op/\op<=13)(har:fv op=2)(hn : -12<=n/\n<=12)(w:World)(h:Hp)(g:G w h)(hK:SlO 9 cY cH h A ([u,x]:List PTm))(hp1:TmH d h u e)(hp2:TmH d h x b)(hF:Sq l fs h)(hM:MapS h j es)(tb:Tab h):CR 24 #[.agg #[.iface 75 (.agg #[.slice l fs.length y]),.map (some j),.bool false],bS ⟨op,n,q,s,A,2,c⟩] w h (fun v h1=>∃ (D:Option Addr) (c_:Nat),v=.tuple #[pq (bF ix fs (d+1) (.mk op n q s ([e,b]:List Tm))).2.1 D (bF ix fs (d+1) (.mk op n q s ([e,b]:List Tm))).2.2.length c_,iV (bF ix fs (d+1) (.mk op n q s ([e,b]:List Tm))).1]/\Sq D (bF ix fs (d+1) (.mk op n q s ([e,b]:List Tm))).2.2 h1):=by
 have a:=(((((((sS g).aS hK).add (K:=fun H=>TmH d H u e) hp1).add (K:=fun H=>TmH d H x b) hp2).aS hF).add (K:=fun H=>MapS H j es) hM).aB tb);have hln:([u,x]:List PTm).length=2:=rfl;have hac:=aE op;refine go Tryz.func24 [(0,.agg #[.iface 75 (.agg #[qS l fs.length y]),.map (some j),qF]),(1,bS ⟨op,n,q,s,A,2,c⟩)] rfl (ax (lA 2 81 ([.iface 75 (.agg #[qS l fs.length y]),.map (some j),qF]) a (fun b1 w2 h3 a=>lA 3 53 (cY ⟨op,n,q,s,A,2,c⟩) a (fun F w5 h6 a=>lA 4 47 ([qF,uV 0,eS,uV 0,eS,sZ]) a (fun b7 w8 h9 a=>lL a ac (aG (lA 6 47 ([qF,uV 0,eS,uV 0,eS,sZ]) a (fun zj _ _ a=>ah (aa a [.v (pB F),.o (iV op) 2 0 1] (aY (ax ?_)))))))))));have zd:((op:Int) == (1:Int))=false:=eM oM;have Y:=aj zd;refine lB 14 zd (lL a ac (ag (ax ?_)));have ze:((op:Int) == (2:Int))=false:=eM oM;have bb:=aj ze;refine lB 21 ze (lL a ac (ag (cK (cQ ?_))));have z:=a;refine cR 10 [⟨9,7,.cells (Nf [qF,uV 0,eS,uV 0,eS,sZ]) 47 (0,0)⟩] mixed a (bv (eg kR (fun _ _=>by kernel_rfl)) ao) (eO 0 31 [(3,0,3)] (.agg #[.iface 75 (.agg #[qS l fs.length y]),.map (some j),qF]) a (eV 1 32 (qP F 8) (eO 2 33 [(2,8,1)] (qS A 2 c) a (eX 3 34 A 2 c 9 0 0 ((a.f.q.2.1).ok oM) (eH 4 35 (bS (([u,x]:List PTm).getD 0 cH)) a ((a.f.q.2.1).el 0 oM) (eC 5 36 a (fun _ _ a=>ih (([u,x]:List PTm).getD 0 cH) e _ _ a.g a.f.q.1 M hg1 a.f.r.1 a.f.2.1 a.f.1) ?_))))));rintro _ _ _ _ _ a ⟨I,c1,rfl,V⟩;replace a:=a.aS V;refine eV 6 30 (.tuple #[qY ((bF ix fs d e).2.1) I (((bF ix fs d e).2.2).length) c1,iV ((bF ix fs d e).1)]) (eV 7 37 (qY ((bF ix fs d e).2.1) I (((bF ix fs d e).2.2).length) c1) (eV 8 38 (iV ((bF ix fs d e).1)) (f0 [] z a 47 [qF,uV 0,eS,uV 0,eS,sZ] (fun _ _ zk a=>tP 10 0 0 (qZ ((bF ix fs d e).2.1) I (((bF ix fs d e).2.2).length) c1) a (fun _ a=>tV 11 8 (iV ((bF ix fs d e).1)) (tN (cQ (aa a ac ?_))))))));cases za:(((bF ix fs d e).1:Int) != (0:Int))
 .
  have zf:=aW za;refine lB 40 za (ag (cK (cQ (aa a [.v (qP F 8),.o (qS A 2 c) 3 8 1,.v (iV 2),.v qF] (ag (cQ ?_))))));have z:=a;refine cR 10 [⟨9,9,.cells (Nf [qF,uV 0,eS,uV 0,eS,sZ]) 47 (0,0)⟩] mixed a (bv (eg kR (fun _ _=>by kernel_rfl)) ao) (eO 0 55 [(4,0,3)] (.agg #[.iface 75 (.agg #[qS l fs.length y]),.map (some j),qF]) a (eV 1 56 (qP F 8) (eO 2 57 [(3,8,1)] (qS A 2 c) a (eX 3 58 A 2 c 9 1 1 ((a.f.q.r.1).ok oM) (eH 4 59 (bS (([u,x]:List PTm).getD 1 cH)) a ((a.f.q.r.1).el 1 oM) (eC 5 60 a (fun _ _ a=>ih (([u,x]:List PTm).getD 1 cH) b _ _ a.g a.f.q.1 B hg2 a.f.r.2.1 a.f.r.1 a.f.2.1) ?_))))));rintro _ _ _ _ _ a ⟨J,c2,rfl,Z⟩;replace a:=a.aS Z;refine eV 6 54 (.tuple #[qY ((bF ix fs d b).2.1) J (((bF ix fs d b).2.2).length) c2,iV ((bF ix fs d b).1)]) (eV 7 61 (qY ((bF ix fs d b).2.1) J (((bF ix fs d b).2.2).length) c2) (eV 8 62 (iV ((bF ix fs d b).1)) (f0 [] z a 47 [qF,uV 0,eS,uV 0,eS,sZ] (fun _ _ zl a=>tP 10 0 0 (qZ ((bF ix fs d b).2.1) J (((bF ix fs d b).2.2).length) c2) a (fun _ a=>tV 11 10 (iV ((bF ix fs d b).1)) (tN (bH [(2,pB b1),(3,pB F),(4,pB b7),(5,iV 0),(6,pB zj),(7,pB zk),(8,iV ((bF ix fs d e).1)),(9,pB zl),(10,iV ((bF ix fs d b).1))] ?_)))))));refine cQ (aa a ac ?_);cases zb:(((bF ix fs d b).1:Int) != (0:Int))
  .
   have zg:=aW zb;refine lB 64 zb (ag (cK (kQ (lL a [.o (.agg #[.iface 75 (.agg #[qS l fs.length y]),.map (some j),qF]) 5 0 3,.o (bS ⟨op,n,q,s,A,2,c⟩) 4 0 9,.o (qY ((bF ix fs d e).2.1) I (((bF ix fs d e).2.2).length) c1) 1 0 6,.o (qY ((bF ix fs d b).2.1) J (((bF ix fs d b).2.2).length) c2) 0 0 6] (lC 72 a (DN l fs.length y hm 3000 1000000 kD kD kD j op n q s A 2 c (bF ix fs d e).2.1 (bF ix fs d e).2.2 I c1 (jS M oM) hv1 hG1 (bF ix fs d b).2.1 (bF ix fs d b).2.2 J c2 (jS B oM) W hG2 oM _ _ a.g a.f.2.1 a.f.1 a.f.r.1) ?_)))));rintro _ _ _ a ⟨O,Gr,Q,C,rfl,X,hRr⟩;replace a:=a.aS X;refine lL a [.c,.v (qY O Q Gr.length C),.v (iV (bI op n (bF ix fs d e).2.1 (bF ix fs d b).2.1))] (lP 1 0 (qZ O Q Gr.length C) a (fun _ a=>lL a ac (ah (aa a ac ?_))));cases S:(((bI op n (bF ix fs d e).2.1 (bF ix fs d b).2.1):Int) != (0:Int))
   .
    have zi:=aW S;exact lB 76 S (ag (cK (aa a [.o (qY O Q Gr.length C) 1 0 6] (lP 3 0 (qZ O Q Gr.length C) a (fun _ a=>lL a ac (ae a [(3,0,6)] (.tuple #[qY O Q Gr.length C,iV 0]) (by obtain ⟨U,L⟩:=hRr oM;rw[pz oM oM,kJ oM oM oM,U,L];exact ⟨_,_,rfl,by rw[<-L];exact a.f.1⟩)))))))
   have zi:=aN S;exact lB 76 S (ak (aa a [.o (.agg #[qF,uV 0,eS,uV 0,eS,sZ]) 2 0 6,.c] (lP 3 0 ([qF,uV 0,eS,uV 0,eS,sZ]) a (fun _ a=>lL a ac (ae a [(3,0,6)] (.tuple #[.agg #[qF,uV 0,eS,uV 0,eS,sZ],iV (bI op n (bF ix fs d e).2.1 (bF ix fs d b).2.1)]) (by rw[pz oM oM,nJ oM oM oM];exact ⟨none,0,rfl,SlO.nil⟩))))))
  have zg:=aN zb;exact lB 64 zb (ak (aa a [.o (.agg #[qF,uV 0,eS,uV 0,eS,sZ]) 2 0 6,.c] (lP 3 0 ([qF,uV 0,eS,uV 0,eS,sZ]) a (fun _ a=>lL a ac (ae a [(3,0,6)] (.tuple #[.agg #[qF,uV 0,eS,uV 0,eS,sZ],iV ((bF ix fs d b).1)]) (by rw[pz oM oM,pR oM oM];exact ⟨none,0,rfl,SlO.nil⟩))))))
 have zf:=aN za;exact lB 40 za (ak (aa a [.o (.agg #[qF,uV 0,eS,uV 0,eS,sZ]) 1 0 6,.c] (lP 2 0 ([qF,uV 0,eS,uV 0,eS,sZ]) a (fun _ a=>lL a ac (ae a [(2,0,6)] (.tuple #[.agg #[qF,uV 0,eS,uV 0,eS,sZ],iV ((bF ix fs d e).1)]) (by rw[pz oM oM,n4 oM];exact ⟨none,0,rfl,SlO.nil⟩))))))
theorem EY (ok:ByteArray->Prop)(ix:ByteArray->Nat)(fs:List Rat)(b:Option Addr)(y:Nat)(B:fs.length<=1000)(o:Nat)(f:List MapEntry)(hq:∀ i,LQ 1 (fs.getD i 0))(j:∀ s,ok s->ix s<fs.length/\∃ i,Instr.findNow .string (.string s) f 0=some (some (i,nV (ix s)))):∀ (d:Nat) (p:PTm) (t:Tm) (w:World) (h:Hp),d<=24->G w h->TmH d h p t->WfT1 ok d t->bZ d t<=1000->Sq b fs h->MapS h o f->Tab h->Calls Tryz.prog 24 #[.agg #[.iface 75 (.agg #[.slice b fs.length y]),.map (some o),.bool false],bS p] w (Ret w h (fun v h1=>∃ (K:Option Addr) (c_:Nat),v=.tuple #[pq (bF ix fs d t).2.1 K (bF ix fs d t).2.2.length c_,iV (bF ix fs d t).1]/\Sq K (bF ix fs d t).2.2 h1))
  | 0,_,_,_,_,_,_,x,_,_,_,_,_=>x.elim
  | d + 1,p,t,w,h,hd,g,x,wf,hw,hF,hM,tb=>by
    obtain ⟨op,n,q,s,A,c,ps,ks,rfl,rfl,Y,F,a⟩:=x.open;obtain ⟨w1,w2,w3,L,X,W,C,D,z⟩:=wf;replace w1:fv op=(ks.length:Nat):=w1;replace C : -12<=n:=C;replace D:n<=12:=D;replace z:∀ i,i<ks.length->WfT1 ok d (ks.getD i cV):=z;have S:=aE op;have M:=fun p t w h=>EY ok ix fs b y B o f hq j d p t w h oM
    have u:∀ t,WfT1 ok d t->bZ d t<=1000->LQ 3000 (bF ix fs d t).2.1/\∀ i,LQ 1000000 ((bF ix fs d t).2.2.getD i 0):=fun t U k2=>by
      obtain ⟨_,O,Q⟩:=pD (ix:=ix) hq U;exact ⟨O.mono oM,fun i=>(Q i).mono (by have:=MP k2 (show d<=24 by omega);omega)⟩
    rcases j9 w1 with rfl|⟨t1,rfl⟩|⟨t1,t2,rfl⟩
    . simp only[Oe] at w1
      by_cases o1:op=1
      . subst o1;exact G9 ok ix fs b y B o f d n q s A c ps [] w h g F hF hM
      . obtain rfl:op=2:=by omega
        exact FU ok ix fs b y B o f d n q s A c ps [] (j s (L rfl)).1 (j s (L rfl)).2 w h g F hF hM
    . obtain ⟨H,rfl⟩:=List.length_eq_one_iff.1 (show ps.length=1 from a.len)
      simp only[ub,Oe] at w1
      have e:WfT1 ok d t1:=z 0 (MW _);have l:bZ d t1<=1000:=pT hw;exact Hn ok ix fs b y B o f d M op n q s A c H t1 e l (u t1 e l).1 (u t1 e l).2 oM oM ⟨C,D⟩ w h g F (a.at_ 0 (MW _)) hF hM tb
    . obtain ⟨H,V,rfl⟩:=oZ (show ps.length=2 from a.len)
      simp only[ub,Oe] at w1
      have e:WfT1 ok d t1:=z 0 (MW _);have I:WfT1 ok d t2:=z 1 (by show 1<2;decide);obtain ⟨l,J⟩:=q7 hw;exact GO ok ix fs b y B o f d M op n q s A c H t1 e l (u t1 e l).1 (u t1 e l).2 V t2 I J (u t2 I J).1 (u t2 I J).2 oM oM ⟨C,D⟩ w h g F (a.at_ 0 (MW _)) (a.at_ 1 (by show 1<2;decide)) hF hM tb
def tr (nm:Int->ByteArray)(l:List Stp)(i:Nat):Tm:=HU nm l (l.length+1) i
structure DpS (dp:Nat->Nat) (l:List Stp):Prop where
  one:∀ k,k<l.length->1<=dp k
  le:∀ k,k<l.length->dp k<=20
  a:∀ k,k<l.length->0<fv (l.getD k d9).op->dp (l.getD k d9).a.toNat<dp k
  b:∀ k,k<l.length->1<fv (l.getD k d9).op->dp (l.getD k d9).b.toNat<dp k
def eF:Nat->Tm->Nat
  | 0,_=>0
  | d+1,t=>1+dO (fun i=>eF d (t.ks.getD i cV)) t.ks.length
def gd:Nat->Tm->ByteArray->Prop
  | 0,_,_=>False
  | d+1,t,s=>(t.op=2/\s=t.s)\/∃ i,i<t.ks.length/\gd d (t.ks.getD i cV) s
def HasK (d:Nat)(ks:List Tm)(k:Nat)(s:ByteArray):Prop:=∃ i,i<k/\gd d (ks.getD i cV) s
theorem HasK.zero {d:Nat}{ks:List Tm}{s:ByteArray}:¬HasK d ks 0 s:=fun ⟨i,h,_⟩=>absurd h (N8 i)
theorem HasK.succ {d:Nat}{ks:List Tm}{k:Nat}{s:ByteArray}:HasK d ks (k+1) s↔HasK d ks k s\/gd d (ks.getD k cV) s:=by
 constructor
 ·rintro ⟨i,hi,h⟩
  by_cases e:i=k
  ·subst e;exact .inr h
  ·exact .inl ⟨i,by omega,h⟩
 ·rintro (⟨i,hi,h⟩|h)
  ·exact ⟨i,by omega,h⟩
  ·exact ⟨k,by omega,h⟩
theorem WfT1.names {ok p:ByteArray->Prop}:∀ {d:Nat} {t:Tm},WfT1 ok d t->(∀ s,gd d t s->p s)->WfT1 (fun s=>ok s/\p s) d t
 | d+1,t,⟨h1,h2,h3,h4,h5,h6,h7,h8,h9⟩,h=>⟨h1,h2,h3,fun e=>⟨h4 e,h _ (.inl ⟨e,rfl⟩)⟩,h5,h6,h7,h8,fun i hi=>WfT1.names (h9 i hi) (fun s a=>h s (.inr ⟨i,hi,a⟩))⟩
theorem sE {ok:ByteArray->Prop}:∀ {d:Nat} {t:Tm} {s:ByteArray},WfT1 ok d t->gd d t s->ok s
 | d+1,t,s,w,.inl ⟨h1,h2⟩=>by rw[h2];exact w.2.2.2.1 h1
 | d+1,t,s,w,.inr ⟨i,hi,h⟩=>sE (w.2.2.2.2.2.2.2.2 i hi) h
theorem WfT1.imp {ok p:ByteArray->Prop}(f:∀ s,ok s->p s):∀ {d:Nat} {t:Tm},WfT1 ok d t->WfT1 p d t
 | d+1,t,⟨h1,h2,h3,h4,h5,h6,h7,h8,h9⟩=>⟨h1,h2,h3,fun e=>f _ (h4 e),h5,h6,h7,h8,fun i hi=>WfT1.imp f (h9 i hi)⟩
theorem WfT1.two {ok:ByteArray->Prop}{d:Nat}{t:Tm}(h:WfT1 ok (d+1) t):t.ks.length<=2:=by
 have:=h.1;have:=aE t.op
 omega
theorem uv {f:Nat->Nat}{b:Nat}:∀ n,(∀ i,i<n->f i<=b)->dO f n<=n*b
  | 0,_=>by simp[dO]
  | n+1,h=>by
    have h1:=uv n (fun i hi=>h i oM);have a:=h n (Nat.lt_succ_self n)
    show dO f n+f n<=_
    rw[Nat.succ_mul];omega
theorem sO {ok:ByteArray->Prop}:∀ {d:Nat} {t:Tm},WfT1 ok d t->eF d t+1<=2^d
  | d+1,t,w=>by
    have a:=w.two;have c:=uv (f:=fun i=>eF d (t.ks.getD i cV)) (b:=2^d-1) t.ks.length (fun i hi=>by have:=sO (w.2.2.2.2.2.2.2.2 i hi);show eF d _<=_;omega);have e:0<2^d:=Mc d;have h:t.ks.length*(2^d-1)<=2*(2^d-1):=Af _ a
    show 1+dO _ _+1<=2^(d+1)
    rw[LR];omega
structure RecOk (nm:Int->ByteArray) (inp:Int) (d:Nat) (l:List Stp) (l2:List Stp) (n:Nat) (t:Tm):Prop where
  lq:(∀ i,LQ 1 (l.getD i d9).q)->∀ i,LQ 1 (l2.getD i d9).q
  dps:∀ dp,DpS dp l->∃ dp',DpS dp' l2/\(∀ k,k<l.length->dp' k=dp k)/\dp' (l2.length-1)<=d
  pre:∃ m,l2=l++m
  len:l2.length=l.length+n
  pos:0<n
  fm:∀ k,k<l2.length->jE inp k (l2.getD k d9)
  tr:∀ f,l2.length<=f->HU nm l2 f (l2.length-1)=t
structure AllOk (nm:Int->ByteArray) (inp:Int) (d:Nat) (ts:List Tm) (k:Nat) (l:List Stp) (os:List Int) (c:Nat):Prop where
  len:l.length=c
  fm:∀ k,k<l.length->jE inp k (l.getD k d9)
  lq:∀ i,LQ 1 (l.getD i d9).q
  dps:∃ dp,DpS dp l
  out:∀ j,j<k->0<=os.getD j 0/\os.getD j 0<(l.length:Nat)/\HU nm l (l.length+1) (os.getD j 0).toNat=ts.getD j cV
def EX (s:ByteArray):Prop:=s=⟨#[120]⟩\/s=⟨#[121]⟩\/s=⟨#[122]⟩
theorem HP:∀ {k:Nat},k<3->EX (dS.getD k ⟨#[]⟩)
 | 0,_=>.inl rfl
 | 1,_=>.inr (.inl rfl)
 | 2,_=>.inr (.inr rfl)
def GrT (d:Nat)(t:Tm):Prop:=WfT1 EX d t/\3*bZ d t<=3^d
theorem GrT.num {d:Nat}{q:Rat}(h:LQ 1 q):GrT (d+1) (.mk 1 0 q ⟨#[]⟩ []) :=
 ⟨⟨rfl,fun h=>absurd rfl h,h,fun h=>absurd (show (1:Int)=2 from h) kD,fun _=>rfl,fun _=>rfl,by show (-12:Int)<=0;decide,by show (0:Int)<=12;decide,fun i hi=>absurd hi (N8 i)⟩,by
  have:=Mc d;have:0<3^d:=Nat.pow_pos kD
  show 3*1<=3^(d+1)
  rw[LR];omega⟩
theorem GrT.name {d:Nat}{s:ByteArray}(h:EX s):GrT (d+1) (.mk 2 0 0 s []) :=
 ⟨⟨rfl,fun _=>rfl,jd kD,fun _=>h,fun h=>absurd rfl h,fun _=>rfl,by show (-12:Int)<=0;decide,by show (0:Int)<=12;decide,fun i hi=>absurd hi (N8 i)⟩,by
  have:0<3^d:=Nat.pow_pos kD
  show 3*1<=3^(d+1)
  rw[LR];omega⟩
theorem GrT.one {d:Nat}{op n:Int}{t:Tm}(x:GrT d t)(ha:fv op=1)(a:op≠8->n=0)(h1 : -3<=n)(b:n<=3):GrT (d+1) (.mk op n 0 ⟨#[]⟩ [t]):=by
 refine ⟨⟨ha,fun _=>rfl,jd kD,fun h=>?_,fun _=>rfl,a,by show (-12:Int)<=n;omega,by show n<=12;omega,fun i hi=>?_⟩,?_⟩
 ·have h:op=2:=h
  rw[h] at ha;exact absurd ha kD
 ·have:i=0:=by have:i<1:=hi;omega
  subst this;exact x.1
 ·show 3*((if op=11 then 2 else if op=8 then bE n else 1)*(0+bZ d t))<=3^(d+1)
  have hf:(if op=11 then 2 else if op=8 then bE n else 1)<=3:=by
   unfold bE
   repeat' split
   all_goals omega
  have:=MP hf x.2;rw[LR,Ab,Mv,LC (3^d)];exact this
theorem GrT.two {d:Nat}{op:Int}{t u:Tm}(x:GrT d t)(y:GrT d u)(ha:fv op=2):GrT (d+1) (.mk op 0 0 ⟨#[]⟩ [t,u]):=by
 have b:op≠8:=fun h=>by rw[h] at ha;exact absurd ha kD
 have a:op≠11:=fun h=>by rw[h] at ha;exact absurd ha kD
 refine ⟨⟨ha,fun _=>rfl,jd kD,fun h=>?_,fun _=>rfl,fun _=>rfl,by show (-12:Int)<=0;decide,by show (0:Int)<=12;decide,fun i hi=>?_⟩,?_⟩
 ·have h:op=2:=h
  rw[h] at ha;exact absurd ha kD
 ·have:i=0\/i=1:=by have:i<2:=hi;omega
  rcases this with rfl|rfl
  ·exact x.1
  ·exact y.1
 ·show 3*((if op=11 then 2 else if op=8 then bE 0 else 1)*(0+bZ d t+bZ d u))<=3^(d+1)
  rw[if_neg a,if_neg b,LR];have:=x.2;have:=y.2
  omega
end Go.Proofs.YtnphimgdpdiekaaGreatDoor
