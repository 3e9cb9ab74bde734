/- Laws of this claim, part 6. -/
import Derived.Test.YtjljjeiejbhegaaGreatDoorQk0
import Derived.Test.YtjljjeiejbhegaaGreatDoorQk1
import Derived.Test.YtjljjeiejbhegaaGreatDoorQk2
import Derived.Test.YtjljjeiejbhegaaGreatDoorQk3
import Derived.Test.YtjljjeiejbhegaaGreatDoorQk4
set_option maxRecDepth 100000
set_option maxHeartbeats 4000000
namespace Go.Proofs.YtjljjeiejbhegaaGreatDoor
open Bool renaming noConfusion -> O8, not_not -> PK
open List renaming ext_getElem -> O1, getD_eq_getElem?_getD -> Nc, getElem?_eq_getElem -> O5, getElem_mem -> gg, getElem_set -> PQ, length_cons -> uA, length_map -> PH, length_nil -> Pb, length_range -> PP, length_replicate -> O4, length_set -> NI, map_append -> PV, map_congr_left -> PO, mem_cons -> hC, mem_filter -> PT, mem_iff_getElem -> vj, mem_range -> pa, mem_singleton -> ti, nodup_range -> PS, perm_middle -> g4, range -> o2, range_succ -> PU, replicate -> Af
open Nat renaming add_zero -> y5, le_mul_of_pos_left -> Oh, le_of_ble_eq_true -> Hi, le_refl -> ek, le_trans -> ep, lt_irrefl -> PL, lt_or_ge -> ea, lt_succ_iff_lt_or_eq -> PJ, lt_succ_self -> Pe, mul_le_mul -> NF, mul_le_mul_left -> M5, mul_le_mul_right -> z7, mul_left_comm -> Pz, not_lt_zero -> O9, pow_le_pow_right -> M1, sub_self -> ue, succ_ne_zero -> Pa, succ_pos -> N0, zero_le -> NY
open Option renaming mem_toList -> O3
open Rat renaming add_comm -> PM, div_def -> PN, mul_comm -> PW
open Go.RowKit
open Go.RowKit Go.Shelf
open Go.RowKit Go.WideMaps
theorem rL (c)(o:c<256)(w h)(g:G w h):CV 88 #[.int .u8 (c:Nat)] w h (.bool (decide (qN (c)))):=by
 have a:=sS g;refine go Tryz.func88 [(0,.int .u8 (c:Nat))] rfl (aa a ac (aG (lL a ac (ar 4 a (nW c o _ _ a.g) (fun w1 p a=>?_)))));cases l:(decide (jl (c)))
 .
  have e:=oF l;refine lL a ax (ar 7 a (qk c o _ _ a.g) (fun u x a=>?_));cases j:(decide (48<=(c)/\(c)<=57))
  .
   have f:=oF j;refine lL a [.v qF,.c,.c] ?_;cases d:((c:Int) == (95:Int))
   .
    have i:=aj d;exact lB 11 d (lL a [.v qF,.c] (ae a [] qF (congrArg Value.bool (decide_eq_false (by unfold jl at *;unfold qN;omega)).symm)))
   have i:=eq_of_beq d;exact lB 11 d (lL a [.v qT,.c] (ae a [] qT (congrArg Value.bool (decide_eq_true (by unfold jl at *;unfold qN;omega)).symm)))
  have f:=oT j;refine lL a [.v qT,.c] (lG 10 ?_);exact lG 11 (lL a [.v qT,.c] (ae a [] qT (congrArg Value.bool (decide_eq_true (by unfold jl at *;unfold qN;omega)).symm)))
 have e:=oT l;refine lL a ac (lG 6 ?_);refine lG 7 (lL a [.v qT,.c] (lG 10 ?_));exact lG 11 (lL a [.v qT,.c] (ae a [] qT (congrArg Value.bool (decide_eq_true (by unfold jl at *;unfold qN;omega)).symm)))
theorem wq  (w h)(g:G w h):CR 89 #[] w h (fun v h1=>∃ b,v=.map (some b)/\MapS h1 b jW):=by
 have a:=sS g;refine go Tryz.func89 [] rfl (aa a ac (aG (Je 1 a (fun p w2 z a l=>qM 104 9 3 (⟨#[97,98,115]⟩) (iV 9) a l (fun B a o=>qM 104 9 3 (⟨#[114,97,109,112]⟩) (iV 10) a o (fun y a i=>qM 104 9 3 (⟨#[98,101,110,100]⟩) (iV 11) a i (fun x a d=>qM 104 9 3 (⟨#[109,97,120]⟩) (iV 12) a d (fun _ a c=>qM 104 9 3 (⟨#[109,105,110]⟩) (iV 13) a c (fun _ a e=>lL a ac ?_)))))))));obtain ⟨_,a,j⟩:=a.pubMap e;replace a:=a.to [] [];replace a:=a.add (K:=fun u=>MapS u p [⟨.string (⟨#[97,98,115]⟩),iV 9,0⟩,⟨.string (⟨#[114,97,109,112]⟩),iV 10,1⟩,⟨.string (⟨#[98,101,110,100]⟩),iV 11,2⟩,⟨.string (⟨#[109,97,120]⟩),iV 12,3⟩,⟨.string (⟨#[109,105,110]⟩),iV 13,4⟩]) j;exact lL a ac (ae a [] (.map (some p)) (⟨_,rfl,a.f.1⟩))
theorem H8 (s)(a:s.size<=1000000)(w h)(g:G w h):CV 46 #[.string s] w h (.bool (dq s)):=by
 have a:=sS g;refine go Tryz.func46 [(0,.string s)] rfl (aa a ac (ag (aa a [.c,.v (nV s.size)] ?_)));cases l:(decide ((s.size:Int)<(1:Int)))
 .
  have z:=oF l;refine lB 8 l (lL a [.c,.c,.v (nV s.size)] ?_);cases e:(decide ((20:Int)<(s.size:Int)))
  .
   have B:=oF e;refine lB 12 e (lL a [.v qF,.c,.c] (lV 16 (.int .u8 (ay s 0:Nat)) ?_ (hr:=eh (tx:=9) (x:=.tmp 15) (i:=.const (iV 0)) (k:=.i64) (s:=s) (n:=0) (j:=(0:Int)) kR kR kR kR oM oM _)));refine ar 17 a (nW ((ay s 0)) (cX _ _) _ _ a.g) (fun w3 O a=>?_);cases C:(decide (jl ((ay s 0))))
   .
    have H:=oF C;exact lL a [.v qT,.v qT] (ak (aa a ac (ae a [] qF (oH (fun d=>by have y:=d.1;have F:=d.2.1;first|omega|exact absurd d.2.2 aM)))))
   have H:=oT C;refine lL a [.v qF,.v qF] (ah (cK (cQ (aa a [.c,.v (nV s.size),.c] (aZ ?_)))));refine bH _ (CG.loop (fun J Γ V=>∃ (k:Nat)(d:Hp),J=s.size-k/\Γ=[(0,.string s),(21,nV s.size),(22,nV k)]/\SS w h V d [] [] []/\k<=s.size/\(∀ i,i<k->qN (ay s i))) _ ⟨0,O,rfl,rfl,a.to _ _,NY _,(fun i hi=>absurd hi (O9 i))⟩ ?_);rintro _ _ Z ⟨k,h7,X,rfl,a,hk,u⟩;refine aA ?_;cases o:(decide ((k:Int)<(s.size:Int)))
   .
    have D:=oF o;refine lB 23 o (ag (dE (CG.exit ?_)))
    show CG _ _ _ _ _ _ _ _
    refine aA (lC 32 a (wq _ _ a.g) ?_);rintro _ _ _ a ⟨W,rfl,I⟩;replace a:=(a.add (K:=fun d=>MapS d W jW) I);refine lL a ac (Kp 34 104 9 3 (s) true (iV (gM s)) ((eW s)) a a.f.1 ?_ (hf:=(by rcases wm s with ⟨i_,e1_,e2_⟩|⟨e1_,e2_,e3_⟩;exact .inl ⟨i_,e1_,e2_⟩;exact .inr ⟨e1_,e2_,fun _=>by rw[e3_];kernel_rfl⟩)));refine lL a [.c,.v (iV (gM s)),.v (.bool (eW s)),.c,.c] (aG (lL a ac ?_));cases L:(!(eW s))
    .
     refine lB 38 L (lL a ac (lN (kX ?_)));have p:=Fv (s:=s) ⟨by omega,by omega⟩ aM (fun i hi=>u i oM);exact a.ret [] qF (congrArg Value.bool (by rw[p];exact (by assumption:(!eW s)=false).symm))
    refine lB 38 L (lL a ac (lN (kX ?_)));have p:=Fv (s:=s) ⟨by omega,by omega⟩ aM (fun i hi=>u i oM);exact a.ret [] qT (congrArg Value.bool (by rw[p];exact (by assumption:(!eW s)=true).symm))
   have D:=oT o;refine lB 23 o (ag (ck (cK (cQ (kZ (aa a ax (aG (lL a ax (lV 27 (.int .u8 (ay s k:Nat)) ?_ (hr:=eh (tx:=9) (x:=.tmp 25) (i:=.tmp 26) (k:=.i64) (s:=s) (n:=k) (j:=(k:Int)) kR kR kR kR oM oM _))))))))));refine ar 28 a (rL ((ay s k)) (cX _ _) _ _ a.g) (fun _ S a=>?_);cases M:(decide (qN ((ay s k))))
   .
    have Q:=oF M;exact lL a [.v qT] (ak (aa a ac (ae a [] qF (F9 (i:=k) oM aM))))
   have Q:=oT M;refine lL a [.v qF] (ah (cK (kQ (bw 30 ((k:Nat)+1) (k+1) ?_))));refine lL a ac (lD ?_);intro Y U;refine ⟨_,_,?_,⟨k+1,S,rfl,rfl,a.to _ _,oM,(fun i hi=>by rcases PJ.1 hi with d|rfl;exact u i d;assumption)⟩,U.to _ kR⟩
   omega
  have B:=oT e;refine lB 12 e (lL a [.v qT,.c] (lG 15 ?_));exact lG 16 (lG 17 (lG 18 (lL a [.v qT] (ak (aa a ac (ae a [] qF (oH (fun d=>by have y:=d.1;have F:=d.2.1;first|omega|exact absurd d.2.2 aM))))))))
 have z:=oT l;refine lB 8 l (lL a ac (lG 10 ?_));refine lG 11 (lG 12 (lL a [.v qT,.c] (lG 15 ?_)));exact lG 16 (lG 17 (lG 18 (lL a [.v qT] (ak (aa a ac (ae a [] qF (oH (fun d=>by have y:=d.1;have F:=d.2.1;first|omega|exact absurd d.2.2 aM))))))))
theorem sN (c)(C:c<256)(w h)(g:G w h):CV 117 #[.int .u8 (c:Nat)] w h (.bool (decide (jl (c)))):=by
 have a:=sS g;refine go Tryz.func117 [(0,.int .u8 (c:Nat))] rfl (aa a ac (aG (lL a ac ?_)));cases e:(decide ((97:Int)<=(c:Int)))
 .
  have l:=oF e;refine lB 4 e (lL a ac (lG 6 ?_));refine lG 7 (lL a [.v qF,.c,.c] ?_);cases d:(decide ((65:Int)<=(c:Int)))
  .
   have o:=oF d;refine lB 11 d (lL a ac (lG 13 ?_));exact lG 14 (lL a [.v qF,.v qF,.c] (ae a [] qF (congrArg Value.bool (decide_eq_false (by unfold jl;omega)).symm)))
  have o:=oT d;refine lB 11 d (lL a ax ?_);cases f:(decide ((c:Int)<=(90:Int)))
  .
   have j:=oF f;exact lB 14 f (lL a [.v qF,.v qF,.c] (ae a [] qF (congrArg Value.bool (decide_eq_false (by unfold jl;omega)).symm)))
  have j:=oT f;exact lB 14 f (lL a [.v qT,.v qT,.c] (ae a [] qT (congrArg Value.bool (decide_eq_true (by unfold jl;omega)).symm)))
 have l:=oT e;refine lB 4 e (lL a ax ?_);cases i:(decide ((c:Int)<=(122:Int)))
 .
  have u:=oF i;refine lB 7 i (lL a [.v qF,.c,.c] ?_);have ⟨x,B⟩:=dT (p:=(65:Int)<=(c:Int)) oM;refine lB 11 x (lL a ax ?_);have ⟨y,z⟩:=dF (p:=(c:Int)<=(90:Int)) oM;exact lB 14 y (lL a [.v qF,.v qF,.c] (ae a [] qF (congrArg Value.bool (decide_eq_false (by unfold jl;omega)).symm)))
 have u:=oT i;refine lB 7 i (lL a [.v qT,.c] (lG 10 ?_));exact lG 11 (lG 12 (lG 13 (lG 14 (lG 15 (lL a [.v qT,.c] (ae a [] qT (congrArg Value.bool (decide_eq_true (by unfold jl;omega)).symm)))))))
theorem FN (c)(j:c<256)(w h)(g:G w h):CV 118 #[.int .u8 (c:Nat)] w h (.bool (decide (48<=(c)/\(c)<=57))):=by
 have a:=sS g;refine go Tryz.func118 [(0,.int .u8 (c:Nat))] rfl (aa a ac (aG (lL a ac ?_)));cases d:(decide ((48:Int)<=(c:Int)))
 .
  have f:=oF d;refine lB 4 d (lL a ac (lG 6 ?_));exact lG 7 (lL a [.v qF,.c] (ae a [] qF (congrArg Value.bool (decide_eq_false oM).symm)))
 have f:=oT d;refine lB 4 d (lL a ax ?_);cases e:(decide ((c:Int)<=(57:Int)))
 .
  have i:=oF e;exact lB 7 e (lL a [.v qF,.c] (ae a [] qF (congrArg Value.bool (decide_eq_false oM).symm)))
 have i:=oT e;exact lB 7 e (lL a [.v qT,.c] (ae a [] qT (congrArg Value.bool (decide_eq_true oM).symm)))
theorem IR (s w h)(g:G w h):CV 119 #[.string s] w h (.tuple #[iV (gM s),iV (AN s)]):=by
 have a:=sS g;refine go Tryz.func119 [(0,.string s)] rfl (aa a ax (ag (aa a ac (aZ (aA ?_)))));cases e:(kT s (⟨#[97,98,115]⟩))
 .
  have l:=iA e;refine lB 6 e (lL a ac (ah (aA ?_)));cases d:(kT s (⟨#[114,97,109,112]⟩))
  .
   have o:=iA d;refine lB 8 d (lL a ac (ah (aA ?_)));cases i:(kT s (⟨#[98,101,110,100]⟩))
   .
    have j:=iA i;refine lB 10 i (lL a ac (ah (aA ?_)));cases f:(kT s (⟨#[109,97,120]⟩))
    .
     have p:=iA f;refine lB 12 f (lL a ac (ah (aA ?_)));cases c:(kT s (⟨#[109,105,110]⟩))
     .
      have u:=iA c;refine lB 14 c (lL a ac (ah (cK (aa a ax (lN (kX ?_))))));have x:gM s=0:=by unfold gM;rw[if_neg (by assumption:¬s=⟨#[97,98,115]⟩),if_neg (by assumption:¬s=⟨#[114,97,109,112]⟩),if_neg (by assumption:¬s=⟨#[98,101,110,100]⟩),if_neg (by assumption:¬s=⟨#[109,97,120]⟩),if_neg (by assumption:¬s=⟨#[109,105,110]⟩)]
      exact a.ret [] (.tuple #[iV 0,iV 0]) (by unfold AN;rw[x];rfl)
     have u:=ik c;exact lB 14 c (lL a ac (ak (aa a ax (ae a [] (.tuple #[iV 13,iV 2]) (by rw[(by assumption:s=⟨#[109,105,110]⟩)];rfl)))))
    have p:=ik f;exact lB 12 f (lL a ac (ak (aa a ax (ae a [] (.tuple #[iV 12,iV 2]) (by rw[(by assumption:s=⟨#[109,97,120]⟩)];rfl)))))
   have j:=ik i;exact lB 10 i (lL a ac (ak (aa a ax (ae a [] (.tuple #[iV 11,iV 1]) (by rw[(by assumption:s=⟨#[98,101,110,100]⟩)];rfl)))))
  have o:=ik d;exact lB 8 d (lL a ac (ak (aa a ax (ae a [] (.tuple #[iV 10,iV 1]) (by rw[(by assumption:s=⟨#[114,97,109,112]⟩)];rfl)))))
 have l:=ik e;exact lB 6 e (lL a ac (ak (aa a ax (ae a [] (.tuple #[iV 9,iV 1]) (by rw[(by assumption:s=⟨#[97,98,115]⟩)];rfl)))))
theorem L7 (s)(a:s.size<=1000000)(w h)(g:G w h):CV 69 #[.string s] w h (.bool (dq s)):=by
 have a:=sS g;refine go Tryz.func69 [(0,.string s)] rfl (aa a ac (ag (aa a [.c,.v (nV s.size)] ?_)));cases l:(decide ((s.size:Int)<(1:Int)))
 .
  have z:=oF l;refine lB 8 l (lL a [.c,.c,.v (nV s.size)] ?_);cases f:(decide ((20:Int)<(s.size:Int)))
  .
   have B:=oF f;refine lB 12 f (lL a [.v qF,.c,.c] (lV 16 (.int .u8 (ay s 0:Nat)) ?_ (hr:=eh (tx:=9) (x:=.tmp 15) (i:=.const (iV 0)) (k:=.i64) (s:=s) (n:=0) (j:=(0:Int)) kR kR kR kR oM oM _)));refine ar 17 a (sN ((ay s 0)) (cX _ _) _ _ a.g) (fun w3 S a=>?_);cases C:(decide (jl ((ay s 0))))
   .
    have H:=oF C;exact lL a [.v qT,.v qT] (ak (aa a ac (ae a [] qF (oH (fun d=>by have u:=d.1;have F:=d.2.1;first|omega|exact absurd d.2.2 aM)))))
   have H:=oT C;refine lL a [.v qF,.v qF] (ah (cK (cQ (aa a ac (aZ ?_)))));refine bH _ (CG.loop (fun K Γ W=>∃ (k:Nat)(d:Hp),K=s.size-k/\Γ=[(0,.string s),(3,nV k)]/\SS w h W d [] [] []/\k<=s.size/\(∀ i,i<k->qN (ay s i))) _ ⟨0,S,rfl,rfl,a.to _ _,NY _,(fun i hi=>absurd hi (O9 i))⟩ ?_);rintro _ _ w6 ⟨k,h7,hm8,rfl,a,hk,e⟩;refine cQ (aa a [.c,.c,.v (nV s.size)] ?_);cases o:(decide ((k:Int)<(s.size:Int)))
   .
    have D:=oF o;refine lB 23 o (ah (CG.exit ?_))
    show CG _ _ _ _ _ _ _ _
    refine aa a ac (ar 46 a (IR s _ _ a.g) (fun _ _ a=>lL a [.c,.v (iV (gM s)),.v (iV (AN s)),.c,.c] (aG (lL a ac ?_))));cases I:(((gM s):Int) == (0:Int))
    .
     have U:=aj I;refine lB 50 I (lL a ac (lN (kX ?_)));have p:=Fv (s:=s) ⟨by omega,by omega⟩ aM (fun i hi=>e i oM);exact a.ret [] qF (congrArg Value.bool (by rw[p];unfold eW;simp only[ne_eq,decide_not,PK];exact (decide_eq_false oM).symm))
    have U:=eq_of_beq I;refine lB 50 I (lL a ac (lN (kX ?_)));have p:=Fv (s:=s) ⟨by omega,by omega⟩ aM (fun i hi=>e i oM);exact a.ret [] qT (congrArg Value.bool (by rw[p];unfold eW;simp only[ne_eq,decide_not,PK];exact (decide_eq_true oM).symm))
   have D:=oT o;refine lB 23 o (ak (cK (cQ (kZ (aa a ax (lV 28 (.int .u8 (ay s k:Nat)) ?_ (hr:=eh (tx:=9) (x:=.tmp 26) (i:=.tmp 27) (k:=.i64) (s:=s) (n:=k) (j:=(k:Int)) kR kR kR kR oM oM _)))))));refine ar 29 a (sN ((ay s k)) (cX _ _) _ _ a.g) (fun _ X a=>?_);cases L:(decide (jl ((ay s k))))
   .
    have Y:=oF L;refine lL a [.v qT,.c,.c,.c] (lV 34 (.int .u8 (ay s k:Nat)) ?_ (hr:=eh (tx:=9) (x:=.tmp 32) (i:=.tmp 33) (k:=.i64) (s:=s) (n:=k) (j:=(k:Int)) kR kR kR kR oM oM _));refine ar 35 a (FN ((ay s k)) (cX _ _) _ _ a.g) (fun _ Q a=>?_);cases O:(decide (48<=((ay s k))/\((ay s k))<=57))
    .
     have V:=oF O;refine lL a [.v qT,.v qT,.c,.c,.c] (lV 41 (.int .u8 (ay s k:Nat)) ?_ (hr:=eh (tx:=9) (x:=.tmp 39) (i:=.tmp 40) (k:=.i64) (s:=s) (n:=k) (j:=(k:Int)) kR kR kR kR oM oM _));cases J:(((ay s k:Nat):Int) != (95:Int))
     .
      have Z:=aU J;refine lB 42 J (lL a [.v qF] (ah (cK (kQ (lL a ac (bw 25 ((k:Nat)+1) (k+1) ?_))))));refine lL a ac (lD ?_);intro M y;refine ⟨_,_,?_,⟨k+1,Q,rfl,rfl,a.to _ _,oM,(fun i hi=>by rcases PJ.1 hi with d|rfl;exact e i d;unfold qN;unfold jl at *;omega)⟩,y.to _ kR⟩
      omega
     have Z:=aJ J;exact lB 42 J (lL a [.v qT] (ak (aa a ac (ae a [] qF (F9 (i:=k) oM (fun d=>by unfold qN at d;unfold jl at *;omega))))))
    have V:=oT O;refine lL a [.v qF,.v qF,.c] (lG 39 ?_);refine lG 40 (lG 41 (lG 42 (lL a [.v qF] (ah (cK (kQ (lL a ac (bw 25 ((k:Nat)+1) (k+1) ?_))))))));refine lL a ac (lD ?_);intro M y;refine ⟨_,_,?_,⟨k+1,Q,rfl,rfl,a.to _ _,oM,(fun i hi=>by rcases PJ.1 hi with d|rfl;exact e i d;unfold qN;unfold jl at *;omega)⟩,y.to _ kR⟩
    omega
   have Y:=oT L;refine lL a [.v qF,.c] (lG 32 ?_);refine lG 33 (lG 34 (lG 35 (lG 36 (lL a [.v qF,.c] (lG 39 ?_)))));refine lG 40 (lG 41 (lG 42 (lL a [.v qF] (ah (cK (kQ (lL a ac (bw 25 ((k:Nat)+1) (k+1) ?_))))))));refine lL a ac (lD ?_);intro M y;refine ⟨_,_,?_,⟨k+1,X,rfl,rfl,a.to _ _,oM,(fun i hi=>by rcases PJ.1 hi with d|rfl;exact e i d;unfold qN;unfold jl at *;omega)⟩,y.to _ kR⟩
   omega
  have B:=oT f;refine lB 12 f (lL a [.v qT,.c] (lG 15 ?_));exact lG 16 (lG 17 (lG 18 (lL a [.v qT] (ak (aa a ac (ae a [] qF (oH (fun d=>by have u:=d.1;have F:=d.2.1;first|omega|exact absurd d.2.2 aM))))))))
 have z:=oT l;refine lB 8 l (lL a ac (lG 10 ?_));refine lG 11 (lG 12 (lL a [.v qT,.c] (lG 15 ?_)));exact lG 16 (lG 17 (lG 18 (lL a [.v qT] (ak (aa a ac (ae a [] qF (oH (fun d=>by have u:=d.1;have F:=d.2.1;first|omega|exact absurd d.2.2 aM))))))))
theorem F4  (isb:ByteArray->Bool)(sm:ByteArray->Prop)(oW:∀ s,sm s->∀ (w:World) (h:Hp),G w h->Calls Tryz.prog 46 #[.string s] w (Ret w h (fun v _=>∃ b,v=.bool b/\b=isb s)))(d p t)(I:d<=24)(w h)(g:G w h)(u:TmH d h p t)(l:ph sm d t):CR 45 #[bW p] w h (fun v _=>∃ e:Int,v=iV e/\((WfT (fun s=>isb s=true) d t/\e=(if 1000<bL d t then 18 else 0))\/(¬WfT (fun s=>isb s=true) d t/\e=2))):=by
 have a:=((sS g).add (K:=fun j=>TmH d j p t) u);refine go Tryz.func45 [(0,bW p)] rfl (aA (lA 1 51 (dd p) a (fun J w2 F a=>lL a ac (ag (aa a [.o (bW p) 0 0 9] (ar 4 a (vL sm d p t 24 _ _ a.g a.f.1 l oM oM) (fun z H a=>ah (cK (cQ (aa a [.o (bW p) 0 0 9] (lC 6 a (rO isb sm oW d p t _ _ a.g a.f.1 l) ?_)))))))))));rintro _ C D a ⟨bf,rfl,c⟩;cases x:(bf)
 .
  exact lL a [.v qT] (ak (aa a ac (ae a [] (iV 2) (⟨_,rfl,.inr ⟨fun j=>O8 ((c.2 j).symm.trans aM),rfl⟩⟩))))
 refine lL a [.v qF] (ah (cK (cQ (aa a [.o (bW p) 0 0 9] (ar 9 a (rD (fun s=>isb s=true) d p t _ _ a.g a.f.1 (c.1 aM)) (fun B _ a=>?_))))));cases i:(decide ((1000:Int)<(((min (bL d t) 1001:Nat):Int):Int)))
 .
  have y:=oF i;exact lB 10 i (ah (cK (aa a ac (ae a [] (iV 0) (⟨_,rfl,.inl ⟨c.1 aM,by split<;>omega⟩⟩)))))
 have y:=oT i;exact lB 10 i (ak (aa a ac (ae a [] (iV 18) (⟨_,rfl,.inl ⟨c.1 aM,by split<;>omega⟩⟩))))
theorem Km (isb:ByteArray->Bool)(sm:ByteArray->Prop)(oW:∀ s,sm s->∀ (w:World) (h:Hp),G w h->Calls Tryz.prog 46 #[.string s] w (Ret w h (fun v _=>∃ b,v=.bool b/\b=isb s)))(c:∀ s,isb s=true->sm s)(h0:sm ⟨#[]⟩)(d p t)(o:d<=24)(w h)(g:G w h)(i:TmH d h p t)(f:WfT (fun s=>isb s=true) d t):Calls Tryz.prog 45 #[bW p] w (Ret w h (fun v _=>v=iV (if 1000<bL d t then 18 else 0))) :=
 (F4 isb sm oW d p t o w h g i (f.sm c h0)).mono fun e w' ⟨v,l,x,u,y,j,a⟩=>⟨v,l,x,u,by
  rcases a with ⟨_,a⟩|⟨a,_⟩
  ·rw[j,a]
  ·exact absurd f a⟩
theorem Bj (A c w h)(g:G w h)(o:SlO 1 bA ⟨#[]⟩ h A ([⟨#[120]⟩,⟨#[121]⟩]:List ByteArray)):CR 47 #[.slice A 2 c] w h (fun v h1=>∃ b,v=.map (some b)/\MapS h1 b [⟨.string (⟨#[120]⟩),iV 0,0⟩,⟨.string (⟨#[121]⟩),iV 1,1⟩]):=by
 have a:=((sS g).aS o);have p:([⟨#[120]⟩,⟨#[121]⟩]:List ByteArray).length=2:=rfl;refine go Tryz.func47 [(0,qS A 2 c)] rfl (aa a ac (aG (Je 6 a (fun d w2 z a j=>lL a ac (ag (aa a [.c,.v (iV 2),.c] (aZ (cU ?_))))))));refine cN (aa a [.v qT] (ag (ck (cK (cQ (kZ (aa a ac (lX 12 A 2 c 1 0 0 ((a.f.1).ok (Hi rfl)) ?_))))))));refine lH 13 (.string (⟨#[120]⟩)) a ((a.f.1).el 0 (Hi rfl)) (lL a ax (lN (kQ (lL a cG (qM 104 9 3 (⟨#[120]⟩) (iV 0) a j (fun B a l=>lN (kQ (lL a [.v (iV 1),.c] (lD (CL.to [(2,.map none),(3,.map (some d)),(7,qS A 2 c),(8,iV 2),(9,iV 1),(10,qT),(11,iV 0),(12,.pointer (some ⟨(aB A),aO A+0*1,none⟩)),(13,.string (⟨#[120]⟩)),(4,iV 0),(5,.string (⟨#[120]⟩)),(14,.map (some d)),(15,.string (⟨#[120]⟩)),(16,iV 0),(17,iV 1)] ?_))))))))));replace a:=a.to [] [];refine cN (aa a [.v qT] (ag (ck (cK (cQ (kZ (aa a ac (lX 12 A 2 c 1 1 1 ((a.f.1).ok (Hi rfl)) ?_))))))));refine lH 13 (.string (⟨#[121]⟩)) a ((a.f.1).el 1 (Hi rfl)) (lL a ax (lN (kQ (lL a cG (qM 104 9 3 (⟨#[121]⟩) (iV 1) a l (fun y a e=>lN (kQ (lL a [.v (iV 2),.c] (lD (CL.to [(2,.map none),(3,.map (some d)),(7,qS A 2 c),(8,iV 2),(9,iV 2),(10,qT),(11,iV 1),(12,.pointer (some ⟨(aB A),aO A+1*1,none⟩)),(13,.string (⟨#[121]⟩)),(4,iV 1),(5,.string (⟨#[121]⟩)),(14,.map (some d)),(15,.string (⟨#[121]⟩)),(16,iV 1),(17,iV 2)] ?_))))))))));replace a:=a.to [] [];refine cN (aa a [.v qF] (ag (dE (CG.exit ?_))))
 show CG _ _ _ _ _ _ _ _
 refine aa a ac ?_;obtain ⟨x,a,i⟩:=a.pubMap e;replace a:=a.to [] [];replace a:=a.add (K:=fun u=>MapS u d [⟨.string (⟨#[120]⟩),iV 0,0⟩,⟨.string (⟨#[121]⟩),iV 1,1⟩]) i;exact lL a ac (ae a [] (.map (some d)) (⟨_,rfl,a.f.1⟩))
theorem CX (A c w h)(g:G w h)(x:SlO 1 bA ⟨#[]⟩ h A ([⟨#[120]⟩,⟨#[121]⟩,⟨#[122]⟩,⟨#[120]⟩]:List ByteArray)):CR 47 #[.slice A 4 c] w h (fun v h1=>∃ b,v=.map (some b)/\MapS h1 b [⟨.string (⟨#[120]⟩),iV 3,0⟩,⟨.string (⟨#[121]⟩),iV 1,1⟩,⟨.string (⟨#[122]⟩),iV 2,2⟩]):=by
 have a:=((sS g).aS x);have y:([⟨#[120]⟩,⟨#[121]⟩,⟨#[122]⟩,⟨#[120]⟩]:List ByteArray).length=4:=rfl;refine go Tryz.func47 [(0,qS A 4 c)] rfl (aa a ac (aG (Je 6 a (fun d w2 D a p=>lL a ac (ag (aa a [.c,.v (iV 4),.c] (aZ (cU ?_))))))));refine cN (aa a [.v qT] (ag (ck (cK (cQ (kZ (aa a ac (lX 12 A 4 c 1 0 0 ((a.f.1).ok (Hi rfl)) ?_))))))));refine lH 13 (.string (⟨#[120]⟩)) a ((a.f.1).el 0 (Hi rfl)) (lL a ax (lN (kQ (lL a cG (qM 104 9 3 (⟨#[120]⟩) (iV 0) a p (fun F a u=>lN (kQ (lL a [.v (iV 1),.c] (lD (CL.to [(2,.map none),(3,.map (some d)),(7,qS A 4 c),(8,iV 4),(9,iV 1),(10,qT),(11,iV 0),(12,.pointer (some ⟨(aB A),aO A+0*1,none⟩)),(13,.string (⟨#[120]⟩)),(4,iV 0),(5,.string (⟨#[120]⟩)),(14,.map (some d)),(15,.string (⟨#[120]⟩)),(16,iV 0),(17,iV 1)] ?_))))))))));replace a:=a.to [] [];refine cN (aa a [.v qT] (ag (ck (cK (cQ (kZ (aa a ac (lX 12 A 4 c 1 1 1 ((a.f.1).ok (Hi rfl)) ?_))))))));refine lH 13 (.string (⟨#[121]⟩)) a ((a.f.1).el 1 (Hi rfl)) (lL a ax (lN (kQ (lL a cG (qM 104 9 3 (⟨#[121]⟩) (iV 1) a u (fun C a l=>lN (kQ (lL a [.v (iV 2),.c] (lD (CL.to [(2,.map none),(3,.map (some d)),(7,qS A 4 c),(8,iV 4),(9,iV 2),(10,qT),(11,iV 1),(12,.pointer (some ⟨(aB A),aO A+1*1,none⟩)),(13,.string (⟨#[121]⟩)),(4,iV 1),(5,.string (⟨#[121]⟩)),(14,.map (some d)),(15,.string (⟨#[121]⟩)),(16,iV 1),(17,iV 2)] ?_))))))))));replace a:=a.to [] [];refine cN (aa a [.v qT] (ag (ck (cK (cQ (kZ (aa a ac (lX 12 A 4 c 1 2 2 ((a.f.1).ok (Hi rfl)) ?_))))))));refine lH 13 (.string (⟨#[122]⟩)) a ((a.f.1).el 2 (Hi rfl)) (lL a ax (lN (kQ (lL a cG (qM 104 9 3 (⟨#[122]⟩) (iV 2) a l (fun B a j=>lN (kQ (lL a [.v (iV 3),.c] (lD (CL.to [(2,.map none),(3,.map (some d)),(7,qS A 4 c),(8,iV 4),(9,iV 3),(10,qT),(11,iV 2),(12,.pointer (some ⟨(aB A),aO A+2*1,none⟩)),(13,.string (⟨#[122]⟩)),(4,iV 2),(5,.string (⟨#[122]⟩)),(14,.map (some d)),(15,.string (⟨#[122]⟩)),(16,iV 2),(17,iV 3)] ?_))))))))));replace a:=a.to [] [];refine cN (aa a [.v qT] (ag (ck (cK (cQ (kZ (aa a ac (lX 12 A 4 c 1 3 3 ((a.f.1).ok (Hi rfl)) ?_))))))));refine lH 13 (.string (⟨#[120]⟩)) a ((a.f.1).el 3 (Hi rfl)) (lL a ax (lN (kQ (lL a cG (MA (i:=0) 104 9 3 (⟨#[120]⟩) (iV 3) (iV 0) [⟨.string (⟨#[120]⟩),iV 3,0⟩,⟨.string (⟨#[121]⟩),iV 1,1⟩,⟨.string (⟨#[122]⟩),iV 2,2⟩] a j (fun _ a e=>lN (kQ (lL a [.v (iV 4),.c] (lD (CL.to [(2,.map none),(3,.map (some d)),(7,qS A 4 c),(8,iV 4),(9,iV 4),(10,qT),(11,iV 3),(12,.pointer (some ⟨(aB A),aO A+3*1,none⟩)),(13,.string (⟨#[120]⟩)),(4,iV 3),(5,.string (⟨#[120]⟩)),(14,.map (some d)),(15,.string (⟨#[120]⟩)),(16,iV 3),(17,iV 4)] ?_))))))))));replace a:=a.to [] [];refine cN (aa a [.v qF] (ag (dE (CG.exit ?_))))
 show CG _ _ _ _ _ _ _ _
 refine aa a ac ?_;obtain ⟨_,a,o⟩:=a.pubMap e;replace a:=a.to [] [];replace a:=a.add (K:=fun z=>MapS z d [⟨.string (⟨#[120]⟩),iV 3,0⟩,⟨.string (⟨#[121]⟩),iV 1,1⟩,⟨.string (⟨#[122]⟩),iV 2,2⟩]) o;exact lL a ac (ae a [] (.map (some d)) (⟨_,rfl,a.f.1⟩))
theorem B5 (A c w h)(g:G w h)(u:SlO 1 bA ⟨#[]⟩ h A ([⟨#[122]⟩,⟨#[121]⟩,⟨#[120]⟩,⟨#[119]⟩]:List ByteArray)):CR 47 #[.slice A 4 c] w h (fun v h1=>∃ b,v=.map (some b)/\MapS h1 b [⟨.string (⟨#[122]⟩),iV 0,0⟩,⟨.string (⟨#[121]⟩),iV 1,1⟩,⟨.string (⟨#[120]⟩),iV 2,2⟩,⟨.string (⟨#[119]⟩),iV 3,3⟩]):=by
 have a:=((sS g).aS u);have x:([⟨#[122]⟩,⟨#[121]⟩,⟨#[120]⟩,⟨#[119]⟩]:List ByteArray).length=4:=rfl;refine go Tryz.func47 [(0,qS A 4 c)] rfl (aa a ac (aG (Je 6 a (fun d w2 C a o=>lL a ac (ag (aa a [.c,.v (iV 4),.c] (aZ (cU ?_))))))));refine cN (aa a [.v qT] (ag (ck (cK (cQ (kZ (aa a ac (lX 12 A 4 c 1 0 0 ((a.f.1).ok (Hi rfl)) ?_))))))));refine lH 13 (.string (⟨#[122]⟩)) a ((a.f.1).el 0 (Hi rfl)) (lL a ax (lN (kQ (lL a cG (qM 104 9 3 (⟨#[122]⟩) (iV 0) a o (fun D a p=>lN (kQ (lL a [.v (iV 1),.c] (lD (CL.to [(2,.map none),(3,.map (some d)),(7,qS A 4 c),(8,iV 4),(9,iV 1),(10,qT),(11,iV 0),(12,.pointer (some ⟨(aB A),aO A+0*1,none⟩)),(13,.string (⟨#[122]⟩)),(4,iV 0),(5,.string (⟨#[122]⟩)),(14,.map (some d)),(15,.string (⟨#[122]⟩)),(16,iV 0),(17,iV 1)] ?_))))))))));replace a:=a.to [] [];refine cN (aa a [.v qT] (ag (ck (cK (cQ (kZ (aa a ac (lX 12 A 4 c 1 1 1 ((a.f.1).ok (Hi rfl)) ?_))))))));refine lH 13 (.string (⟨#[121]⟩)) a ((a.f.1).el 1 (Hi rfl)) (lL a ax (lN (kQ (lL a cG (qM 104 9 3 (⟨#[121]⟩) (iV 1) a p (fun B a j=>lN (kQ (lL a [.v (iV 2),.c] (lD (CL.to [(2,.map none),(3,.map (some d)),(7,qS A 4 c),(8,iV 4),(9,iV 2),(10,qT),(11,iV 1),(12,.pointer (some ⟨(aB A),aO A+1*1,none⟩)),(13,.string (⟨#[121]⟩)),(4,iV 1),(5,.string (⟨#[121]⟩)),(14,.map (some d)),(15,.string (⟨#[121]⟩)),(16,iV 1),(17,iV 2)] ?_))))))))));replace a:=a.to [] [];refine cN (aa a [.v qT] (ag (ck (cK (cQ (kZ (aa a ac (lX 12 A 4 c 1 2 2 ((a.f.1).ok (Hi rfl)) ?_))))))));refine lH 13 (.string (⟨#[120]⟩)) a ((a.f.1).el 2 (Hi rfl)) (lL a ax (lN (kQ (lL a cG (qM 104 9 3 (⟨#[120]⟩) (iV 2) a j (fun z a i=>lN (kQ (lL a [.v (iV 3),.c] (lD (CL.to [(2,.map none),(3,.map (some d)),(7,qS A 4 c),(8,iV 4),(9,iV 3),(10,qT),(11,iV 2),(12,.pointer (some ⟨(aB A),aO A+2*1,none⟩)),(13,.string (⟨#[120]⟩)),(4,iV 2),(5,.string (⟨#[120]⟩)),(14,.map (some d)),(15,.string (⟨#[120]⟩)),(16,iV 2),(17,iV 3)] ?_))))))))));replace a:=a.to [] [];refine cN (aa a [.v qT] (ag (ck (cK (cQ (kZ (aa a ac (lX 12 A 4 c 1 3 3 ((a.f.1).ok (Hi rfl)) ?_))))))));refine lH 13 (.string (⟨#[119]⟩)) a ((a.f.1).el 3 (Hi rfl)) (lL a ax (lN (kQ (lL a cG (qM 104 9 3 (⟨#[119]⟩) (iV 3) a i (fun _ a e=>lN (kQ (lL a [.v (iV 4),.c] (lD (CL.to [(2,.map none),(3,.map (some d)),(7,qS A 4 c),(8,iV 4),(9,iV 4),(10,qT),(11,iV 3),(12,.pointer (some ⟨(aB A),aO A+3*1,none⟩)),(13,.string (⟨#[119]⟩)),(4,iV 3),(5,.string (⟨#[119]⟩)),(14,.map (some d)),(15,.string (⟨#[119]⟩)),(16,iV 3),(17,iV 4)] ?_))))))))));replace a:=a.to [] [];refine cN (aa a [.v qF] (ag (dE (CG.exit ?_))))
 show CG _ _ _ _ _ _ _ _
 refine aa a ac ?_;obtain ⟨_,a,l⟩:=a.pubMap e;replace a:=a.to [] [];replace a:=a.add (K:=fun y=>MapS y d [⟨.string (⟨#[122]⟩),iV 0,0⟩,⟨.string (⟨#[121]⟩),iV 1,1⟩,⟨.string (⟨#[120]⟩),iV 2,2⟩,⟨.string (⟨#[119]⟩),iV 3,3⟩]) l;exact lL a ac (ae a [] (.map (some d)) (⟨_,rfl,a.f.1⟩))
theorem xN (A c w h)(g:G w h)(p:SlO 1 bA ⟨#[]⟩ h A dS):CR 47 #[.slice A 3 c] w h (fun v h1=>∃ b,v=.map (some b)/\MapS h1 b [⟨.string (⟨#[120]⟩),iV 0,0⟩,⟨.string (⟨#[121]⟩),iV 1,1⟩,⟨.string (⟨#[122]⟩),iV 2,2⟩]):=by
 have a:=((sS g).aS p);have u:dS.length=3:=rfl;refine go Tryz.func47 [(0,qS A 3 c)] rfl (aa a ac (aG (Je 6 a (fun d w2 B a l=>lL a ac (ag (aa a [.c,.v (iV 3),.c] (aZ (cU ?_))))))));refine cN (aa a [.v qT] (ag (ck (cK (cQ (kZ (aa a ac (lX 12 A 3 c 1 0 0 ((a.f.1).ok (Hi rfl)) ?_))))))));refine lH 13 (.string (⟨#[120]⟩)) a ((a.f.1).el 0 (Hi rfl)) (lL a ax (lN (kQ (lL a cG (qM 104 9 3 (⟨#[120]⟩) (iV 0) a l (fun C a o=>lN (kQ (lL a [.v (iV 1),.c] (lD (CL.to [(2,.map none),(3,.map (some d)),(7,qS A 3 c),(8,iV 3),(9,iV 1),(10,qT),(11,iV 0),(12,.pointer (some ⟨(aB A),aO A+0*1,none⟩)),(13,.string (⟨#[120]⟩)),(4,iV 0),(5,.string (⟨#[120]⟩)),(14,.map (some d)),(15,.string (⟨#[120]⟩)),(16,iV 0),(17,iV 1)] ?_))))))))));replace a:=a.to [] [];refine cN (aa a [.v qT] (ag (ck (cK (cQ (kZ (aa a ac (lX 12 A 3 c 1 1 1 ((a.f.1).ok (Hi rfl)) ?_))))))));refine lH 13 (.string (⟨#[121]⟩)) a ((a.f.1).el 1 (Hi rfl)) (lL a ax (lN (kQ (lL a cG (qM 104 9 3 (⟨#[121]⟩) (iV 1) a o (fun z a i=>lN (kQ (lL a [.v (iV 2),.c] (lD (CL.to [(2,.map none),(3,.map (some d)),(7,qS A 3 c),(8,iV 3),(9,iV 2),(10,qT),(11,iV 1),(12,.pointer (some ⟨(aB A),aO A+1*1,none⟩)),(13,.string (⟨#[121]⟩)),(4,iV 1),(5,.string (⟨#[121]⟩)),(14,.map (some d)),(15,.string (⟨#[121]⟩)),(16,iV 1),(17,iV 2)] ?_))))))))));replace a:=a.to [] [];refine cN (aa a [.v qT] (ag (ck (cK (cQ (kZ (aa a ac (lX 12 A 3 c 1 2 2 ((a.f.1).ok (Hi rfl)) ?_))))))));refine lH 13 (.string (⟨#[122]⟩)) a ((a.f.1).el 2 (Hi rfl)) (lL a ax (lN (kQ (lL a cG (qM 104 9 3 (⟨#[122]⟩) (iV 2) a i (fun y a e=>lN (kQ (lL a [.v (iV 3),.c] (lD (CL.to [(2,.map none),(3,.map (some d)),(7,qS A 3 c),(8,iV 3),(9,iV 3),(10,qT),(11,iV 2),(12,.pointer (some ⟨(aB A),aO A+2*1,none⟩)),(13,.string (⟨#[122]⟩)),(4,iV 2),(5,.string (⟨#[122]⟩)),(14,.map (some d)),(15,.string (⟨#[122]⟩)),(16,iV 2),(17,iV 3)] ?_))))))))));replace a:=a.to [] [];refine cN (aa a [.v qF] (ag (dE (CG.exit ?_))))
 show CG _ _ _ _ _ _ _ _
 refine aa a ac ?_;obtain ⟨_,a,j⟩:=a.pubMap e;replace a:=a.to [] [];replace a:=a.add (K:=fun x=>MapS x d [⟨.string (⟨#[120]⟩),iV 0,0⟩,⟨.string (⟨#[121]⟩),iV 1,1⟩,⟨.string (⟨#[122]⟩),iV 2,2⟩]) j;exact lL a ac (ae a [] (.map (some d)) (⟨_,rfl,a.f.1⟩))
theorem AU (A c w h)(g:G w h)(l:SlO 1 bA ⟨#[]⟩ h A ([⟨#[120]⟩]:List ByteArray)):CR 47 #[.slice A 1 c] w h (fun v h1=>∃ b,v=.map (some b)/\MapS h1 b [⟨.string (⟨#[120]⟩),iV 0,0⟩]):=by
 have a:=((sS g).aS l);have o:([⟨#[120]⟩]:List ByteArray).length=1:=rfl;refine go Tryz.func47 [(0,qS A 1 c)] rfl (aa a ac (aG (Je 6 a (fun i w2 x a d=>lL a ac (ag (aa a [.c,.v (iV 1),.c] (aZ (cU ?_))))))));refine cN (aa a [.v qT] (ag (ck (cK (cQ (kZ (aa a ac (lX 12 A 1 c 1 0 0 ((a.f.1).ok (Hi rfl)) ?_))))))));refine lH 13 (.string (⟨#[120]⟩)) a ((a.f.1).el 0 (Hi rfl)) (lL a ax (lN (kQ (lL a cG (qM 104 9 3 (⟨#[120]⟩) (iV 0) a d (fun y a e=>lN (kQ (lL a [.v (iV 1),.c] (lD (CL.to [(2,.map none),(3,.map (some i)),(7,qS A 1 c),(8,iV 1),(9,iV 1),(10,qT),(11,iV 0),(12,.pointer (some ⟨(aB A),aO A+0*1,none⟩)),(13,.string (⟨#[120]⟩)),(4,iV 0),(5,.string (⟨#[120]⟩)),(14,.map (some i)),(15,.string (⟨#[120]⟩)),(16,iV 0),(17,iV 1)] ?_))))))))));replace a:=a.to [] [];refine cN (aa a [.v qF] (ag (dE (CG.exit ?_))))
 show CG _ _ _ _ _ _ _ _
 refine aa a ac ?_;obtain ⟨u,a,j⟩:=a.pubMap e;replace a:=a.to [] [];replace a:=a.add (K:=fun p=>MapS p i [⟨.string (⟨#[120]⟩),iV 0,0⟩]) j;exact lL a ac (ae a [] (.map (some i)) (⟨_,rfl,a.f.1⟩))
def ol (isb:ByteArray->Bool)(d:Nat)(t:Tm):Prop:=WfT1 (fun s=>isb s=true) d t/\bL d t<=1000
theorem Ko:∀ s,gG s->∀ (w:World) (h:Hp),G w h->Calls Tryz.prog 46 #[.string s] w (Ret w h (fun v _=>∃ b,v=.bool b/\b=dq s)):=fun s f w h g =>
 (H8 s (by unfold gG at f;omega) w h g).mono fun e w' ⟨v,a,c,u,d⟩=>⟨v,a,c,u,_,d,rfl⟩
theorem qI {s:ByteArray}(h:dq s=true):gG s:=by
 have:=oT h
 unfold gG;omega
theorem Fk {b:Bool}(h:(!b)=false):b=true:=by cases b<;>first|rfl|cases h
theorem Ie {b:Bool}(h:(!b)=true):b=false:=by cases b<;>first|rfl|cases h
theorem AV {l:List ByteArray}{k:Nat}(h:k<l.length):l.getD k ⟨#[]⟩∈l:=by
 rw[Nc,O5 h];exact gg h
theorem u6 {l:List ByteArray}{s:ByteArray}(h:s∈l):∃ i,i<l.length/\l.getD i ⟨#[]⟩=s:=by
 obtain ⟨i,hi,e⟩:=vj.1 h;exact ⟨i,hi,by rw[Nc,O5 hi];exact e⟩
theorem pS {ok sm:ByteArray->Prop}:∀ {d:Nat} {t:Tm},SmT1 sm d t->WfT ok d t->WfT1 ok d t
 | _+1,_,⟨_,_,_,s4,_,s6⟩,⟨h1,h2,_,h4,h5,h6,h7,h8,h9⟩=>⟨h1,h2,s4,h4,h5,h6,h7,h8,fun i hi=>pS (s6 i hi) (h9 i hi)⟩
theorem BH {isb:ByteArray->Bool}{sm:ByteArray->Prop}{d:Nat}{t:Tm}{e:Int}(a:SmT1 sm d t)(h:(WfT (fun s=>isb s=true) d t/\e=(if 1000<bL d t then 18 else 0))\/(¬WfT (fun s=>isb s=true) d t/\e=2))(z:e=0):WfT1 (fun s=>isb s=true) d t/\bL d t<=1000:=by
 rcases h with ⟨h1,h2⟩|⟨h1,h2⟩
 ·refine ⟨pS a h1,?_⟩
  split at h2<;>omega
 ·omega
theorem KE {isb:ByteArray->Bool}{d:Nat}{t:Tm}{e:Int}(h:(WfT (fun s=>isb s=true) d t/\e=(if 1000<bL d t then 18 else 0))\/(¬WfT (fun s=>isb s=true) d t/\e=2))(z:ol isb d t):e=0:=by
 rcases h with ⟨h1,h2⟩|⟨h1,h2⟩
 ·rw[h2,if_neg (by have:=z.2;omega)]
 ·exact absurd z.1.wf h1
def NsD (ns:List ByteArray):Prop:=ns=([⟨#[120]⟩,⟨#[121]⟩]:List ByteArray)\/ns=([⟨#[120]⟩,⟨#[121]⟩,⟨#[122]⟩,⟨#[120]⟩]:List ByteArray)\/ns=([⟨#[109,97,120]⟩,⟨#[120]⟩,⟨#[121]⟩,⟨#[122]⟩]:List ByteArray)\/ns=([⟨#[122]⟩,⟨#[121]⟩,⟨#[120]⟩,⟨#[119]⟩]:List ByteArray)\/ns=dS\/ns=([⟨#[120]⟩]:List ByteArray)
theorem NsD.len {ns:List ByteArray}(h:NsD ns):ns.length<=4/\1<=ns.length:=by
 rcases h with rfl|rfl|rfl|rfl|rfl|rfl<;>decide
theorem NsD.small {ns:List ByteArray}(h:NsD ns):∀ i,i<ns.length->gG (ns.getD i ⟨#[]⟩):=by
 unfold gG;rcases h with rfl|rfl|rfl|rfl|rfl|rfl<;>decide
def CM:List MapEntry:=[⟨.string ⟨#[120]⟩,.int .i64 3,0⟩,⟨.string ⟨#[121]⟩,.int .i64 1,1⟩,⟨.string ⟨#[122]⟩,.int .i64 2,2⟩]
def qp:List ByteArray:=([⟨#[120]⟩,⟨#[121]⟩,⟨#[122]⟩,⟨#[120]⟩]:List ByteArray)
def n9 (ns:List ByteArray):List MapEntry:=if ns=qp then CM else ux ns 0
def vN (ns:List ByteArray)(s:ByteArray):Int:=if ns=qp then (if s=⟨#[120]⟩ then 3 else if s=⟨#[121]⟩ then 1 else if s=⟨#[122]⟩ then 2 else 0) else K8 ns s
theorem IP (s):(∃ i,Instr.findNow .string (.string s) CM 0=some (some (i,.int .i64 (vN qp s)))/\decide (s∈qp)=true)\/(Instr.findNow .string (.string s) CM 0=some none/\decide (s∈qp)=false/\vN qp s=0):=by
 by_cases h1:s=⟨#[120]⟩
 ·subst h1;exact .inl ⟨0,by kernel_rfl,by decide⟩
 by_cases h2:s=⟨#[121]⟩
 ·subst h2;exact .inl ⟨1,by kernel_rfl,by decide⟩
 by_cases h3:s=⟨#[122]⟩
 ·subst h3;exact .inl ⟨2,by kernel_rfl,by decide⟩
 refine .inr ⟨?_,decide_eq_false (fun h=>?_),by unfold vN;rw[if_pos rfl,if_neg h1,if_neg h2,if_neg h3]⟩
 ·rcases MapKept.findNow_spec (d:=.string) (k:=.string s) (by simp[MapKept.IsKey]) CM 0 (fun x f=>by
   simp only[CM,hC,List.not_mem_nil,or_false] at f;rcases f with rfl|rfl|rfl<;>simp[MapKept.IsKey]) with ⟨a,_⟩|⟨j,e,a,b,c⟩
  ·exact a
  ·exfalso
   match j,b with
   | 0,b=>injection b with b;subst b;injection c with c;exact h1 c.symm
   | 1,b=>injection b with b;subst b;injection c with c;exact h2 c.symm
   | 2,b=>injection b with b;subst b;injection c with c;exact h3 c.symm
   | n+3,b=>cases b
 ·simp only[qp,hC,List.not_mem_nil,or_false] at h
  rcases h with h|h|h|h
  ·exact h1 h
  ·exact h2 h
  ·exact h3 h
  ·exact h1 h
theorem Mq {ns:List ByteArray}(a:NsD ns)(_:∀ i,i<ns.length->dq (ns.getD i ⟨#[]⟩)=true)(s):(∃ i,Instr.findNow .string (.string s) (n9 ns) 0=some (some (i,.int .i64 (vN ns s)))/\decide (s∈ns)=true)\/(Instr.findNow .string (.string s) (n9 ns) 0=some none/\decide (s∈ns)=false/\vN ns s=0):=by
 by_cases hd:ns=qp
 ·subst hd;unfold n9;rw[if_pos rfl];exact IP s
 ·unfold n9 vN;rw[if_neg hd,if_neg hd]
  refine Gm ?_ s
  rcases a with rfl|rfl|rfl|rfl|rfl|rfl
  ·decide
  ·exact absurd rfl hd
  ·decide
  ·decide
  ·decide
  ·decide
theorem B6 {ns:List ByteArray}(a:NsD ns):ns.Nodup↔(n9 ns).length=ns.length:=by
 rcases a with rfl|rfl|rfl|rfl|rfl|rfl<;>decide
theorem mX {ns:List ByteArray}(e:NsD ns)(d:∀ i,i<ns.length->dq (ns.getD i ⟨#[]⟩)=true)(A c w h)(g:G w h)(a:SlO 1 bA ⟨#[]⟩ h A ns):Calls Tryz.prog 47 #[.slice A ns.length c] w (Ret w h (fun v h1=>∃ b,v=.map (some b)/\MapS h1 b (n9 ns))):=by
 rcases e with rfl|rfl|rfl|rfl|rfl|rfl
 ·exact Bj A c w h g a
 ·exact CX A c w h g a
 ·exact absurd (d 0 kD) kD
 ·exact B5 A c w h g a
 ·exact xN A c w h g a
 ·exact AU A c w h g a
def DckR (d:Nat)(t:Tm)(ns:List ByteArray)(M:Prop)(e:Int):Prop :=
  (¬ol dq d t/\e=1)\/(ol dq d t/\((¬M/\e=5)\/(M/\((¬(∀ i,i<ns.length->dq (ns.getD i ⟨#[]⟩)=true)/\e=11)\/((∀ i,i<ns.length->dq (ns.getD i ⟨#[]⟩)=true)/\((¬(∀ s,fJ d t s->s∈ns)/\e=11)\/((∀ s,fJ d t s->s∈ns)/\((¬ns.Nodup/\e=8)\/(ns.Nodup/\e=0)))))))))
theorem DckR.uniq {d:Nat}{t:Tm}{ns:List ByteArray}{M:Prop}{e h:Int}(x:DckR d t ns M e)(y:DckR d t ns M h):e=h:=by
 rcases x with ⟨a,rfl⟩|⟨a,⟨b,rfl⟩|⟨b,⟨c,rfl⟩|⟨c,⟨f,rfl⟩|⟨f,⟨i,rfl⟩|⟨i,rfl⟩⟩⟩⟩⟩ <;>
 rcases y with ⟨a',rfl⟩|⟨a',⟨b',rfl⟩|⟨b',⟨c',rfl⟩|⟨c',⟨f',rfl⟩|⟨f',⟨i',rfl⟩|⟨i',rfl⟩⟩⟩⟩⟩ <;>
 first
 | rfl
 | exact absurd a' a
 | exact absurd a a'
 | exact absurd b' b
 | exact absurd b b'
 | exact absurd c' c
 | exact absurd c c'
 | exact absurd f' f
 | exact absurd f f'
 | exact absurd i' i
 | exact absurd i i'
theorem DckR.ok {d:Nat}{t:Tm}{ns:List ByteArray}{M:Prop}{e:Int}(x:DckR d t ns M e)(h:e=0):ol dq d t/\M/\(∀ i,i<ns.length->dq (ns.getD i ⟨#[]⟩)=true)/\(∀ s,fJ d t s->s∈ns)/\ns.Nodup:=by
 rcases x with ⟨a,rfl⟩|⟨a,⟨b,rfl⟩|⟨b,⟨c,rfl⟩|⟨c,⟨f,rfl⟩|⟨f,⟨i,rfl⟩|⟨i,rfl⟩⟩⟩⟩⟩
 ·cases h
 ·cases h
 ·cases h
 ·cases h
 ·cases h
 ·exact ⟨a,b,c,f,i⟩
theorem vw (d)(p:PTm)(t:Tm)(hd:d<=20)(D z)(ns:List ByteArray)(B:NsD ns)(U cu)(us:List Value)(V:List Nat)(bj:us.length<=10)(hus:∀ j,j<us.length->∃ A c,us.getD j undef=.slice A (V.getD j 0) c/\V.getD j 0<=1000000)(w h)(g:G w h)(hT:TmH d h p t)(hS:SmT1 gG d t)(hN:SlO 1 bA ⟨#[]⟩ h D ns)(hU:Sv U us h):CR 21 #[bW p,.slice D ns.length z,.slice U us.length cu] w h (fun v _=>∃ e:Int,v=iV e/\DckR d t ns (∀ j,j<us.length->V.getD j 0=ns.length) e):=by
 have a:=((((sS g).add (K:=fun l=>TmH d l p t) hT).aS hN).aS hU);have bl:=B.len;refine go Tryz.func21 [(0,bW p),(1,qS D ns.length z),(2,qS U us.length cu)] rfl (aA (lA 3 51 (dd p) a (fun Z w2 h3 a=>lL a ac (ag (aa a [.o (bW p) 0 0 9] (lC 17 a (F4 dq gG Ko d p t oM _ _ a.g a.f.r.1 hS.sm) ?_))))));rintro _ w4 h5 a ⟨ec,rfl,L⟩;cases M:((ec:Int) != (0:Int))
 .
  have Y:=aU M;refine lB 18 M (ah (cK (cQ (aa a [.c,.v (nV us.length),.c] (aZ ?_)))));refine bH _ (CG.loop (fun H Γ w_=>∃ (u:Nat)(l:Hp),H=us.length-u/\Γ=[(1,qS D ns.length z),(3,pB Z),(19,qS U us.length cu),(20,nV us.length),(21,nV u)]/\SS w h w_ l [⟨Z,51,dd p⟩] [] [Sv U us,fun l=>SlO 1 bA ⟨#[]⟩ l D ns,fun l=>TmH d l p t]/\u<=us.length/\(∀ i,i<u->V.getD i 0=ns.length)) _ ⟨0,h5,rfl,rfl,a.to _ _,NY _,(fun i hi=>absurd hi (O9 i))⟩ ?_);rintro _ _ w7 ⟨u,h8,hm9,rfl,a,hu,F⟩;refine aA ?_;cases za:(decide ((u:Int)<(us.length:Int)))
  .
   have zi:=oF za;refine lB 22 za (ag (dE (CG.exit ?_)))
   show CG _ _ _ _ _ _ _ _
   refine cQ (aa a [.c,.v (nV ns.length)] ?_);cases zb:(decide ((20:Int)<(ns.length:Int)))
   .
    have zj:=oF zb;refine lB 33 zb (ah (cK (cQ (aa a [.c,.v (nV ns.length),.c] (aZ ?_)))));refine bH _ (CG.loop (fun H Γ w_=>∃ (k:Nat)(l:Hp),H=ns.length-k/\Γ=[(1,qS D ns.length z),(3,pB Z),(34,qS D ns.length z),(35,nV ns.length),(36,nV k)]/\SS w h w_ l [⟨Z,51,dd p⟩] [] [Sv U us,fun l=>SlO 1 bA ⟨#[]⟩ l D ns,fun l=>TmH d l p t]/\k<=ns.length/\(∀ i,i<k->dq (ns.getD i ⟨#[]⟩)=true)) _ ⟨0,h8,rfl,rfl,a.to _ _,NY _,(fun i hi=>absurd hi (O9 i))⟩ ?_);rintro _ _ _ ⟨k,_,bk,rfl,a,hk,hal⟩;refine aA ?_;cases zc:(decide ((k:Int)<(ns.length:Int)))
    .
     have zk:=oF zc;refine lB 37 zc (ag (dE (CG.exit ?_)))
     show CG _ _ _ _ _ _ _ _
     have y:∀ i,i<ns.length->dq (ns.getD i ⟨#[]⟩)=true:=fun i hi=>hal i oM
     refine aa a ac (lC 45 a (mX B y D z _ _ a.g a.f.2.1) ?_);rintro _ _ _ a ⟨bm,rfl,hM⟩;replace a:=(a.add (K:=fun l=>MapS l bm (n9 ns)) hM);refine lL a ac (ag ?_);have C:=BH hS L oM;have bb:=C.1;refine aa a [.o (bW p) 0 0 9] (lC 47 a (HD (fun s=>dq s=true) (fun s_ l=>by have q_:=qI l;unfold gG at q_;omega) d hd p t _ _ a.g a.f.r.2.1 bb) ?_);rintro _ _ zo a ⟨nA,nc,x,rfl,hnc,hnl,hnS,Q⟩;replace a:=a.aS hnS;refine lL a [.v (nV x.length),.c] (aZ ?_);refine bH _ (CG.loop (fun H Γ w_=>∃ (j:Nat)(l:Hp),H=x.length-j/\Γ=[(1,qS D ns.length z),(11,.map (some bm)),(47,qS nA x.length nc),(48,nV x.length),(49,nV j)]/\SS w h w_ l [⟨Z,51,dd p⟩] [] [fun l=>SlO 1 bA ⟨#[]⟩ l nA x,fun l=>MapS l bm (n9 ns),Sv U us,fun l=>SlO 1 bA ⟨#[]⟩ l D ns,fun l=>TmH d l p t]/\j<=x.length/\(∀ i,i<j->x.getD i ⟨#[]⟩∈ns)) _ ⟨0,zo,rfl,rfl,a.to _ _,NY _,(fun i hi=>absurd hi (O9 i))⟩ ?_);rintro _ _ _ ⟨j,zp,bn,rfl,a,hj,S⟩;refine aA ?_;cases zd:(decide ((j:Int)<(x.length:Int)))
     .
      have zl:=oF zd;refine lB 50 zd (ag (dE (CG.exit ?_)))
      show CG _ _ _ _ _ _ _ _
      refine cQ ?_;have O:∀ s,fJ d t s->s∈ns:=fun s_ l=>by obtain ⟨I,J,e_⟩:=u6 ((Q s_).2 l);rw[<-e_];exact S I oM
      refine aa a ac (Mr 63 104 0 9 3 a a.f.2.1 ?_);refine lL a [.c,.v (nV ns.length)] ?_;cases ze:((((n9 ns).length:Nat):Int) != (ns.length:Int))
      .
       have zm:=aU ze;exact lB 66 ze (ah (cK (aa a ac (ae a [] (iV 0) (⟨_,rfl,.inr ⟨C,.inr ⟨(fun I J=>F I oM),.inr ⟨y,.inr ⟨O,.inr ⟨(B6 B).2 oM,rfl⟩⟩⟩⟩⟩⟩)))))
      have zm:=aJ ze;exact lB 66 ze (ak (aa a ac (ae a [] (iV 8) (⟨_,rfl,.inr ⟨C,.inr ⟨(fun I J=>F I oM),.inr ⟨y,.inr ⟨O,.inl ⟨fun l=>by have:=(B6 B).1 l;omega,rfl⟩⟩⟩⟩⟩⟩))))
     have zl:=oT zd;refine lB 50 zd (ag (ck (cK (cQ (kZ (aA (lX 51 nA x.length nc 1 (j:Nat) j ((a.f.1).ok oM) ?_)))))));refine lH 52 (.string (x.getD j ⟨#[]⟩)) a ((a.f.1).el j oM) (lL a ac (aG (lL a ax (Kp 56 104 9 3 (x.getD j ⟨#[]⟩) true (iV (vN ns (x.getD j ⟨#[]⟩))) ((decide (x.getD j ⟨#[]⟩∈ns))) a a.f.2.1 ?_ (hf:=(by rcases Mq B y (x.getD j ⟨#[]⟩) with ⟨I,e1_,e2_⟩|⟨e1_,e2_,e3_⟩;exact .inl ⟨I,e1_,e2_⟩;exact .inr ⟨e1_,e2_,fun _=>by rw[e3_];kernel_rfl⟩))))));refine lL a [.c,.v (iV (vN ns (x.getD j ⟨#[]⟩))),.v (.bool (decide (x.getD j ⟨#[]⟩∈ns))),.c,.c] (aG (lL a ac ?_));cases zg:(!(decide (x.getD j ⟨#[]⟩∈ns)))
     .
      refine lB 60 zg (ah (cK (kQ (bw 61 ((j:Nat)+1) (j+1) ?_))));refine lL a ac (lD ?_);intro a_ W;refine ⟨_,_,?_,⟨j+1,zp,rfl,rfl,a.to _ _,oM,(fun i hi=>by rcases PJ.1 hi with l|rfl;exact S i l;exact oT (by first|assumption|exact Fk aM))⟩,W.to _ kR⟩
      omega
     exact lB 60 zg (ak (aa a ac (ae a [] (iV 11) (⟨_,rfl,.inr ⟨C,.inr ⟨(fun I J=>F I oM),.inr ⟨y,.inl ⟨fun l=>oF (by first|assumption|exact Ie aM) (l _ ((Q _).1 (AV oM))),rfl⟩⟩⟩⟩⟩))))
    have zk:=oT zc;refine lB 37 zc (ag (ck (cK (cQ (kZ (aA (lX 38 D ns.length z 1 (k:Nat) k ((a.f.2.1).ok oM) ?_)))))));refine lH 39 (.string (ns.getD k ⟨#[]⟩)) a ((a.f.2.1).el k oM) (lL a ac (aG (lL a ac (lC 41 a (Ko (ns.getD k ⟨#[]⟩) (B.small k oM) _ _ a.g) ?_))));rintro _ _ zq a ⟨bi,rfl,hbi⟩;cases bd:(bi)
    .
     exact lL a [.v qT] (ak (aa a ac (ae a [] (iV 11) (⟨_,rfl,.inr ⟨BH hS L oM,.inr ⟨(fun I J=>F I oM),.inl ⟨(fun l=>by have q_:=l k oM;rw[<-hbi] at q_;have X:bi=false:=aM;rw[q_] at X;cases X),rfl⟩⟩⟩⟩))))
    refine lL a [.v qF] (ah (cK (kQ (bw 43 ((k:Nat)+1) (k+1) ?_))));refine lL a ac (lD ?_);intro a_ W;refine ⟨_,_,?_,⟨k+1,zq,rfl,rfl,a.to _ _,oM,(fun i hi=>by rcases PJ.1 hi with l|rfl;exact hal i l;rw[<-hbi];first|assumption|exact Fk aM)⟩,W.to _ kR⟩
    omega
   have zj:=oT zb;refine lB 33 zb (ak (aa a ac (lN (kX ?_))))
   exfalso;have:=B.len;omega
  have zi:=oT za;refine lB 22 za (ag (ck (cK (cQ (kZ (aA (lX 23 U us.length cu 1 (u:Nat) u ((a.f.1).ok oM) ?_)))))));obtain ⟨Uj,uj,huj,hmj⟩:=hus u oM;refine Jd 24 ((us.getD u undef)) a ((a.f.1).el u oM) huj (lL a ac (aG (lL a [.c,.v (nV (V.getD u 0)),.c,.v (nV ns.length)] ?_)));cases zf:((((V.getD u 0):Nat):Int) != (ns.length:Int))
  .
   have zn:=aU zf;refine lB 29 zf (ah (cK (kQ (bw 30 ((u:Nat)+1) (u+1) ?_))));refine lL a ac (lD ?_);intro a_ W;refine ⟨_,_,?_,⟨u+1,h8,rfl,rfl,a.to _ _,oM,(fun i hi=>by rcases PJ.1 hi with l|rfl;exact F i l;omega)⟩,W.to _ kR⟩
   omega
  have zn:=aJ zf;exact lB 29 zf (ak (aa a ac (ae a [] (iV 5) (⟨_,rfl,.inr ⟨BH hS L oM,.inl ⟨fun l=>by have:=l u oM;omega,rfl⟩⟩⟩))))
 have Y:=aJ M;exact lB 18 M (ak (aa a ac (ae a [] (iV 1) (⟨_,rfl,.inl ⟨fun l=>by have:=KE L ⟨l.1,l.2⟩;omega,rfl⟩⟩))))
theorem DckR.cg {d:Nat}{t:Tm}{ns:List ByteArray}{M M':Prop}{e:Int}(x:DckR d t ns M e)(h:M↔M'):DckR d t ns M' e:=propext h▸x
theorem pJ (d)(p:PTm)(t:Tm)(K:d<=20)(y c)(ns:List ByteArray)(l:NsD ns)(i B C a z)(f:a<=1000000)(w h)(g:G w h)(D:TmH d h p t)(M:SmT1 gG d t)(I:SlO 1 bA ⟨#[]⟩ h y ns)(H:Sv (i) ([.slice C a z]:List Value) h):Calls Tryz.prog 21 #[bW p,.slice y ns.length c,.slice i 1 B] w (Ret w h (fun v _=>∃ e:Int,v=iV e/\DckR d t ns (a=ns.length) e)) :=
 (vw d p t K y c ns l i B [.slice C a z] [a] (Hi rfl) (fun j o=>by match j,o with|0,_=>exact ⟨_,_,rfl,f⟩) w h g D M I H).mono fun e w' ⟨v,J,L,u,x,F,k⟩=>⟨v,J,L,u,x,F,k.cg ⟨fun h=>h 0 (N0 _),fun h j o=>by match j,o with|0,_=>exact h⟩⟩
theorem FF (d)(p:PTm)(t:Tm)(O:d<=20)(B f)(ns:List ByteArray)(y:NsD ns)(o F H c D C a u1)(l:c<=1000000)(i:a<=1000000)(w h)(g:G w h)(I:TmH d h p t)(S:SmT1 gG d t)(L:SlO 1 bA ⟨#[]⟩ h B ns)(K:Sv (o) ([.slice H c D,.slice C a u1]:List Value) h):Calls Tryz.prog 21 #[bW p,.slice B ns.length f,.slice o 2 F] w (Ret w h (fun v _=>∃ e:Int,v=iV e/\DckR d t ns (c=ns.length/\a=ns.length) e)) :=
 (vw d p t O B f ns y o F [.slice H c D,.slice C a u1] [c,a] (Hi rfl) (fun j z=>by match j,z with|0,_=>exact ⟨_,_,rfl,l⟩|1,_=>exact ⟨_,_,rfl,i⟩) w h g I S L K).mono fun e w' ⟨v,M,Q,u,x,J,k⟩=>⟨v,M,Q,u,x,J,k.cg ⟨fun h=>⟨h 0 (N0 _),h 1 (nR 2)⟩,fun h j z=>by match j,z with|0,_=>exact h.1|1,_=>exact h.2⟩⟩
theorem oz {d:Nat}{t:Tm}{ns:List ByteArray}{M:Prop}(h:ol dq d t/\M/\(∀ i,i<ns.length->dq (ns.getD i ⟨#[]⟩)=true)/\(∀ s,fJ d t s->s∈ns)/\ns.Nodup):WfT1 (fun s=>s∈ns) d t :=
 WfT1.imp (fun _ x=>x.2) (h.1.1.names h.2.2.2.1)
theorem Ki {ns:List ByteArray}{fs:List Rat}(h:NsD ns)(a:ns.Nodup)(f:fs.length=ns.length)(s)(c:s∈ns):aY ns s<fs.length/\∃ i,Instr.findNow .string (.string s) (n9 ns) 0=some (some (i,.int .i64 (aY ns s:Nat))):=by
 have d:ns≠qp:=fun e=>by subst e;exact absurd a kD
 refine ⟨by rw[f];exact (kA c).1,?_⟩
 unfold n9;rw[if_neg d];rcases Gm a s with ⟨i,e1,_⟩|⟨_,e2,_⟩
 ·exact ⟨i,by rw[e1,vS c]⟩
 ·exact absurd c (oF e2)
theorem GK {d k w:Nat}(a:d<=6)(h:k*w<=1000)(hk:k<=12):k*(2*(4*(2^d*w)-3)+2)+1<=1400000:=by
 have h1:2^d<=64:=M1 (n:=2) kD a;have e:k*(2*(4*(2^d*w)-3)+2)<=k*(8*(2^d*w)+2):=M5 k oM;have f:k*(8*(2^d*w)+2)=8*(2^d*(k*w))+k*2:=by rw[Nat.mul_add,Pz k 8,Pz k (2^d)]
 have c:2^d*(k*w)<=64*1000:=NF h1 h
 omega
theorem E5 (ok:ByteArray->Prop)(ix:ByteArray->Nat)(fs ws e l i j n)(hn:n<=12)(V:fs.length<=1000)(F:ws.length=fs.length)(p)(y:List MapEntry)(d z q s A c)(ps:List PTm)(ks:List Tm)(w h)(g:G w h)(C:SlO 9 dd cM h A ps)(H:Sq e fs h)(D:Sq i ws h)(hM:MapS h p y):CR 49 #[.agg #[.iface 109 (.agg #[.slice e fs.length l,.slice i ws.length j,nV n]),.map (some p),.bool true],bW ⟨1,z,q,s,A,ps.length,c⟩] w h (fun v h1=>∃ (B:Z9)(c_:Nat),v=.tuple #[.slice B (aR ix fs ws (n+1) (d+1) (.mk 1 z q s ks)).2.length c_,iV (aR ix fs ws (n+1) (d+1) (.mk 1 z q s ks)).1]/\Sq B (aR ix fs ws (n+1) (d+1) (.mk 1 z q s ks)).2 h1):=by
 have a:=(((((sS g).aS C).aS H).aS D).add (K:=fun L=>MapS L p y) hM);refine go Tryz.func49 [(0,.agg #[.iface 109 (.agg #[qS e fs.length l,qS i ws.length j,nV n]),.map (some p),qT]),(1,bW ⟨1,z,q,s,A,ps.length,c⟩)] rfl (aA (lA 2 113 ([.iface 109 (.agg #[qS e fs.length l,qS i ws.length j,nV n]),.map (some p),qT]) a (fun J w2 S a=>lA 3 51 (dd ⟨1,z,q,s,A,ps.length,c⟩) a (fun x U Q a=>lL a ax (aG (lL a ac (ag (aa a [.v (pB x),.o (iV 1) 0 0 1] (aZ (aa a [.v qT,.c] (ak (aa a [.v (pB J),.o (.iface 109 (.agg #[qS e fs.length l,qS i ws.length j,nV n])) 1 0 1,.v (qP x 2),.o (qv q) 0 2 5] (lC 19 a (gh e fs.length l i ws.length j n hn q _ _ a.g) ?_)))))))))))));rintro _ O M a ⟨I,rfl,u⟩;replace a:=a.aS u;exact lL a ax (ae a [] (.tuple #[qS (sB I) ((bB (n+1) q).length) (n+1),iV 0]) (⟨_,_,rfl,a.f.1⟩))
theorem EI (ok:ByteArray->Prop)(ix:ByteArray->Nat)(fs ws e u l p n)(hn:n<=12)(hm:fs.length<=1000)(M:ws.length=fs.length)(j)(x:List MapEntry)(d z q s A c)(ps:List PTm)(ks:List Tm)(B:ix s<fs.length)(C:∃ i,Instr.findNow .string (.string s) x 0=some (some (i,nV (ix s))))(w h)(g:G w h)(J:SlO 9 dd cM h A ps)(O:Sq e fs h)(L:Sq l ws h)(hM:MapS h j x):CR 49 #[.agg #[.iface 109 (.agg #[.slice e fs.length u,.slice l ws.length p,nV n]),.map (some j),.bool true],bW ⟨2,z,q,s,A,ps.length,c⟩] w h (fun v h1=>∃ (F:Z9)(c_:Nat),v=.tuple #[.slice F (aR ix fs ws (n+1) (d+1) (.mk 2 z q s ks)).2.length c_,iV (aR ix fs ws (n+1) (d+1) (.mk 2 z q s ks)).1]/\Sq F (aR ix fs ws (n+1) (d+1) (.mk 2 z q s ks)).2 h1):=by
 have a:=(((((sS g).aS J).aS O).aS L).add (K:=fun U=>MapS U j x) hM);refine go Tryz.func49 [(0,.agg #[.iface 109 (.agg #[qS e fs.length u,qS l ws.length p,nV n]),.map (some j),qT]),(1,bW ⟨2,z,q,s,A,ps.length,c⟩)] rfl (aA (lA 2 113 ([.iface 109 (.agg #[qS e fs.length u,qS l ws.length p,nV n]),.map (some j),qT]) a (fun H w2 Y a=>lA 3 51 (dd ⟨2,z,q,s,A,ps.length,c⟩) a (fun D Z X a=>lL a ax (aG (lL a ac (ag (aa a [.v (pB D),.o (iV 2) 0 0 1] (aZ (aa a [.v qF,.c] (ah (aa a [.v qT,.c] (ak (aa a [.v (pB H),.o (.iface 109 (.agg #[qS e fs.length u,qS l ws.length p,nV n])) 1 0 1,.v (qP H 1),.o (.map (some j)) 1 1 1,.v (qP D 7),.o (.string s) 0 7 1] (Kp 28 104 9 3 (s) false (nV (ix s)) (true) a a.f.1 ?_ (hf:=(by obtain ⟨Q,I⟩:=C;exact .inl ⟨Q,I,rfl⟩)))))))))))))))));refine lC 29 a (DU e fs.length u l ws.length p n hn fs ws rfl rfl (ix s) B oM _ _ a.g a.f.r.1 a.f.2.1) ?_;rintro _ W V a ⟨S,rfl,y⟩;replace a:=a.aS y;exact lL a ax (ae a [] (.tuple #[qS (sB S) ((ii (n+1) (fs.getD (ix s) 0) (ws.getD (ix s) 0)).length) (n+1),iV 0]) (⟨_,_,rfl,a.f.1⟩))
theorem Eo  (ok:ByteArray->Prop)(ix:ByteArray->Nat)(fs ws j y l x n)(hn:n<=12)(hm:fs.length<=1000)(hmw:ws.length=fs.length)(i)(Y:List MapEntry)(d)(ih:∀ (p:PTm) (t:Tm) (w:World) (h:Hp),G w h->TmH d h p t->WfT1 ok d t->bL d t<=1000->Sq j fs h->Sq l ws h->MapS h i Y->Tab h->Calls Tryz.prog 49 #[.agg #[.iface 109 (.agg #[.slice j fs.length y,.slice l ws.length x,nV n]),.map (some i),.bool true],bW p] w (Ret w h (fun v h1=>∃ (J:Z9)(c_:Nat),v=.tuple #[.slice J (aR ix fs ws (n+1) d t).2.length c_,iV (aR ix fs ws (n+1) d t).1]/\Sq J (aR ix fs ws (n+1) d t).2 h1)))(op z q s A c C e)(L:WfT1 ok d e)(M:bL d e<=1000)(hz1:1<=bL d e/\SzR (4*(2^d*bL d e)-3) (aR ix fs ws (n+1) d e).2)(H:d<=6)(hop:3<=op/\op<=13)(har:gQ op=1)(I : -12<=z/\z<=12)(hzg:op=8->z.natAbs*bL d e<=1000)(w h)(g:G w h)(hK:SlO 9 dd cM h A ([C]:List PTm))(X:TmH d h C e)(hF:Sq j fs h)(hV:Sq l ws h)(hM:MapS h i Y)(tb:Tab h):CR 49 #[.agg #[.iface 109 (.agg #[.slice j fs.length y,.slice l ws.length x,nV n]),.map (some i),.bool true],bW ⟨op,z,q,s,A,1,c⟩] w h (fun v h1=>∃ (J:Z9)(c_:Nat),v=.tuple #[.slice J (aR ix fs ws (n+1) (d+1) (.mk op z q s ([e]:List Tm))).2.length c_,iV (aR ix fs ws (n+1) (d+1) (.mk op z q s ([e]:List Tm))).1]/\Sq J (aR ix fs ws (n+1) (d+1) (.mk op z q s ([e]:List Tm))).2 h1):=by
 have a:=(((((((sS g).aS hK).add (K:=fun B=>TmH d B C e) X).aS hF).aS hV).add (K:=fun B=>MapS B i Y) hM).add (K:=fun B=>Tab B) tb);have hln:([C]:List PTm).length=1:=rfl;have hac:=aF op;have u:2^d*bL d e<=64000:=ep (NF (M1 kD H) M) kD;have F:op=8->z.natAbs*(2*(4*(2^d*bL d e)-3)+2)+1<=1400000:=fun B=>GK H (hzg B) oM
 refine go Tryz.func49 [(0,.agg #[.iface 109 (.agg #[qS j fs.length y,qS l ws.length x,nV n]),.map (some i),qT]),(1,bW ⟨op,z,q,s,A,1,c⟩)] rfl (aA (lA 2 113 ([.iface 109 (.agg #[qS j fs.length y,qS l ws.length x,nV n]),.map (some i),qT]) a (fun b1 w2 h3 a=>lA 3 51 (dd ⟨op,z,q,s,A,1,c⟩) a (fun W w5 h6 a=>lL a ax (aG (lL a ac (ag (aa a [.v (pB W),.o (iV op) 0 0 1] (aZ (aA ?_))))))))));have Q:((op:Int) == (1:Int))=false:=fB oM;have bb:=aj Q;refine lB 14 Q (lL a ac (ah (aA ?_)));have D:((op:Int) == (2:Int))=false:=fB oM;have bd:=aj D;refine lB 21 D (lL a ac (ah (cK (cQ (cR 9 [] mixed a ao ?_)))));refine eO 0 31 [(1,0,3)] (.agg #[.iface 109 (.agg #[qS j fs.length y,qS l ws.length x,nV n]),.map (some i),qT]) a (eV 1 32 (qP W 8) (eO 2 33 [(0,8,1)] (qS A 1 c) a (eX 3 34 A 1 c 9 0 0 ((a.f.q.2.1).ok oM) (eH 4 35 (bW (([C]:List PTm).getD 0 cM)) a ((a.f.q.2.1).el 0 oM) (eC 5 36 a (fun _ _ a=>ih (([C]:List PTm).getD 0 cM) e _ _ a.g a.f.q.1 L M a.f.r.2.1 a.f.r.1 a.f.2.1 a.f.1) ?_)))));rintro _ _ _ w9 _ a ⟨S,c1,rfl,hS1⟩;replace a:=a.aS hS1;refine eV 6 30 (.tuple #[qS S ((aR ix fs ws (n+1) d e).2.length) c1,iV ((aR ix fs ws (n+1) d e).1)]) (eV 7 37 (qS S ((aR ix fs ws (n+1) d e).2.length) c1) (eV 8 38 (iV ((aR ix fs ws (n+1) d e).1)) (bM a (fun _ _ a=>tV 9 7 (qS S ((aR ix fs ws (n+1) d e).2.length) c1) (tV 10 8 (iV ((aR ix fs ws (n+1) d e).1)) (tN (cQ (aa a ac ?_))))))));cases U:(((aR ix fs ws (n+1) d e).1:Int) != (0:Int))
 .
  have zc:=aU U;refine lB 40 U (ah (cK (cQ (aa a [.v (qP W 8),.o (qS A 1 c) 0 8 1,.v (iV 1),.v qT] (ak (kQ (lL a [.o (.agg #[.iface 109 (.agg #[qS j fs.length y,qS l ws.length x,nV n]),.map (some i),qT]) 1 0 3,.o (bW ⟨op,z,q,s,A,1,c⟩) 0 0 9,.c] (lC 51 a (BL j fs.length y l ws.length x n hn i op z q s A 1 c (aR ix fs ws (n+1) d e).2 S c1 (d7 L oM) (4*(2^d*bL d e)-3) (hz1).2 (by have:=u;omega) oM (fun _=>I) (by have:=u;omega) F _ _ a.g a.f.1 a.f.2.1) ?_))))))));rintro _ _ _ a ⟨Lr,Ar,Z,rfl,hSr,hRr⟩;replace a:=a.aS hSr;refine lL a [.c,.v (qS Ar Lr.length Z),.v (iV (dV op z ((aR ix fs ws (n+1) d e).2.getD 0 0) 0)),.c,.c] (ag (aa a ac ?_));cases V:(((dV op z ((aR ix fs ws (n+1) d e).2.getD 0 0) 0):Int) != (0:Int))
  .
   have zd:=aU V;exact lB 76 V (ah (cK (aa a cG (ae a [] (.tuple #[qS Ar Lr.length Z,iV 0]) (by have O:=hRr oM;rw[lJ oM oM,ke oM rfl (by show dV op z _ 0=0;omega),<-O];exact ⟨_,_,rfl,a.f.1⟩)))))
  have zd:=aJ V;refine lB 76 V (ak (aa a m4 (lN (bH [(4,sZ),(5,iV (dV op z ((aR ix fs ws (n+1) d e).2.getD 0 0) 0)),(7,qS Ar Lr.length Z)] ?_))));exact kX (a.ret [] (.tuple #[sZ,iV (dV op z ((aR ix fs ws (n+1) d e).2.getD 0 0) 0)]) (by rw[lJ oM oM,km oM rfl (by show dV op z _ 0≠0;omega)];exact ⟨none,0,rfl,SlO.nil⟩))
 have zc:=aJ U;exact lB 40 U (ak (aa a m4 (ae a [] (.tuple #[sZ,iV ((aR ix fs ws (n+1) d e).1)]) (by rw[lJ oM oM,jO oM];exact ⟨none,0,rfl,SlO.nil⟩))))
theorem FI  (ok:ByteArray->Prop)(ix:ByteArray->Nat)(fs ws l y u F n)(hn:n<=12)(hm:fs.length<=1000)(hmw:ws.length=fs.length)(j)(es:List MapEntry)(d)(ih:∀ (p:PTm) (t:Tm) (w:World) (h:Hp),G w h->TmH d h p t->WfT1 ok d t->bL d t<=1000->Sq l fs h->Sq u ws h->MapS h j es->Tab h->Calls Tryz.prog 49 #[.agg #[.iface 109 (.agg #[.slice l fs.length y,.slice u ws.length F,nV n]),.map (some j),.bool true],bW p] w (Ret w h (fun v h1=>∃ (Y:Z9)(c_:Nat),v=.tuple #[.slice Y (aR ix fs ws (n+1) d t).2.length c_,iV (aR ix fs ws (n+1) d t).1]/\Sq Y (aR ix fs ws (n+1) d t).2 h1)))(op z q s A c C i)(L:WfT1 ok d i)(U:bL d i<=1000)(hz1:1<=bL d i/\SzR (4*(2^d*bL d i)-3) (aR ix fs ws (n+1) d i).2)(D e)(Q:WfT1 ok d e)(J:bL d e<=1000)(hz2:1<=bL d e/\SzR (4*(2^d*bL d e)-3) (aR ix fs ws (n+1) d e).2)(W:d<=6)(hop:3<=op/\op<=13)(har:gQ op=2)(bb : -12<=z/\z<=12)(w h)(g:G w h)(hK:SlO 9 dd cM h A ([C,D]:List PTm))(hp1:TmH d h C i)(hp2:TmH d h D e)(hF:Sq l fs h)(hV:Sq u ws h)(hM:MapS h j es)(tb:Tab h):CR 49 #[.agg #[.iface 109 (.agg #[.slice l fs.length y,.slice u ws.length F,nV n]),.map (some j),.bool true],bW ⟨op,z,q,s,A,2,c⟩] w h (fun v h1=>∃ (Y:Z9)(c_:Nat),v=.tuple #[.slice Y (aR ix fs ws (n+1) (d+1) (.mk op z q s ([i,e]:List Tm))).2.length c_,iV (aR ix fs ws (n+1) (d+1) (.mk op z q s ([i,e]:List Tm))).1]/\Sq Y (aR ix fs ws (n+1) (d+1) (.mk op z q s ([i,e]:List Tm))).2 h1):=by
 have a:=((((((((sS g).aS hK).add (K:=fun H=>TmH d H C i) hp1).add (K:=fun H=>TmH d H D e) hp2).aS hF).aS hV).add (K:=fun H=>MapS H j es) hM).add (K:=fun H=>Tab H) tb);have hln:([C,D]:List PTm).length=2:=rfl;have hac:=aF op;have x:2^d*bL d i<=64000:=ep (NF (M1 kD W) U) kD;have B:2^d*bL d e<=64000:=ep (NF (M1 kD W) J) kD;refine go Tryz.func49 [(0,.agg #[.iface 109 (.agg #[qS l fs.length y,qS u ws.length F,nV n]),.map (some j),qT]),(1,bW ⟨op,z,q,s,A,2,c⟩)] rfl (aA (lA 2 113 ([.iface 109 (.agg #[qS l fs.length y,qS u ws.length F,nV n]),.map (some j),qT]) a (fun b1 w2 h3 a=>lA 3 51 (dd ⟨op,z,q,s,A,2,c⟩) a (fun V w5 h6 a=>lL a ax (aG (lL a ac (ag (aa a [.v (pB V),.o (iV op) 0 0 1] (aZ (aA ?_))))))))));have O:((op:Int) == (1:Int))=false:=fB oM;have bj:=aj O;refine lB 14 O (lL a ac (ah (aA ?_)));have X:((op:Int) == (2:Int))=false:=fB oM;have bd:=aj X;refine lB 21 X (lL a ac (ah (cK (cQ (cR 9 [] mixed a ao ?_)))));refine eO 0 31 [(1,0,3)] (.agg #[.iface 109 (.agg #[qS l fs.length y,qS u ws.length F,nV n]),.map (some j),qT]) a (eV 1 32 (qP V 8) (eO 2 33 [(0,8,1)] (qS A 2 c) a (eX 3 34 A 2 c 9 0 0 ((a.f.q.r.1).ok oM) (eH 4 35 (bW (([C,D]:List PTm).getD 0 cM)) a ((a.f.q.r.1).el 0 oM) (eC 5 36 a (fun _ _ a=>ih (([C,D]:List PTm).getD 0 cM) i _ _ a.g a.f.q.2.1 L U a.f.r.2.1 a.f.r.1 a.f.2.1 a.f.1) ?_)))));rintro _ _ _ w9 _ a ⟨S,c1,rfl,hS1⟩;replace a:=a.aS hS1;refine eV 6 30 (.tuple #[qS S ((aR ix fs ws (n+1) d i).2.length) c1,iV ((aR ix fs ws (n+1) d i).1)]) (eV 7 37 (qS S ((aR ix fs ws (n+1) d i).2.length) c1) (eV 8 38 (iV ((aR ix fs ws (n+1) d i).1)) (bM a (fun _ _ a=>tV 9 7 (qS S ((aR ix fs ws (n+1) d i).2.length) c1) (tV 10 8 (iV ((aR ix fs ws (n+1) d i).1)) (tN (cQ (aa a ac ?_))))))));cases Z:(((aR ix fs ws (n+1) d i).1:Int) != (0:Int))
 .
  have zd:=aU Z;refine lB 40 Z (ah (cK (cQ (aa a [.v (qP V 8),.o (qS A 2 c) 0 8 1,.v (iV 2),.v qF] (ah (cQ (cR 9 [] mixed a ao ?_)))))));refine eO 0 55 [(1,0,3)] (.agg #[.iface 109 (.agg #[qS l fs.length y,qS u ws.length F,nV n]),.map (some j),qT]) a (eV 1 56 (qP V 8) (eO 2 57 [(0,8,1)] (qS A 2 c) a (eX 3 58 A 2 c 9 1 1 ((a.f.q.r.2.1).ok oM) (eH 4 59 (bW (([C,D]:List PTm).getD 1 cM)) a ((a.f.q.r.2.1).el 1 oM) (eC 5 60 a (fun _ _ a=>ih (([C,D]:List PTm).getD 1 cM) e _ _ a.g a.f.q.2.1 Q J a.f.q.1 a.f.r.2.1 a.f.r.1 a.f.2.1) ?_)))));rintro _ _ _ _ _ a ⟨I,c2,rfl,hS2⟩;replace a:=a.aS hS2;refine eV 6 54 (.tuple #[qS I ((aR ix fs ws (n+1) d e).2.length) c2,iV ((aR ix fs ws (n+1) d e).1)]) (eV 7 61 (qS I ((aR ix fs ws (n+1) d e).2.length) c2) (eV 8 62 (iV ((aR ix fs ws (n+1) d e).1)) (bM a (fun _ _ a=>tV 9 9 (qS I ((aR ix fs ws (n+1) d e).2.length) c2) (tV 10 10 (iV ((aR ix fs ws (n+1) d e).1)) (tN (bH [(2,pB b1),(3,pB V),(4,sZ),(5,iV 0),(6,sZ),(7,qS S ((aR ix fs ws (n+1) d i).2.length) c1),(8,iV ((aR ix fs ws (n+1) d i).1)),(9,qS I ((aR ix fs ws (n+1) d e).2.length) c2),(10,iV ((aR ix fs ws (n+1) d e).1))] ?_)))))));refine cQ (aa a ac ?_);cases zb:(((aR ix fs ws (n+1) d e).1:Int) != (0:Int))
  .
   have ze:=aU zb;refine lB 64 zb (ah (cK (kQ (lL a [.o (.agg #[.iface 109 (.agg #[qS l fs.length y,qS u ws.length F,nV n]),.map (some j),qT]) 1 0 3,.o (bW ⟨op,z,q,s,A,2,c⟩) 0 0 9,.c,.c] (lC 72 a (Bv l fs.length y u ws.length F n hn j op z q s A 2 c (aR ix fs ws (n+1) d i).2 S c1 (d7 L oM) (4*(2^d*bL d i)-3) (hz1).2 (by have:=x;omega) (aR ix fs ws (n+1) d e).2 I c2 (d7 Q oM) (4*(2^d*bL d e)-3) (hz2).2 (by have:=B;omega) oM (by have:=x;omega) (by have:=B;omega) _ _ a.g a.f.2.1 a.f.1 a.f.r.1) ?_)))));rintro _ _ _ a ⟨Lr,Ar,cr,rfl,hSr,hRr⟩;replace a:=a.aS hSr;refine lL a [.c,.v (qS Ar Lr.length cr),.v (iV (dV op z ((aR ix fs ws (n+1) d i).2.getD 0 0) ((aR ix fs ws (n+1) d e).2.getD 0 0))),.c,.c] (ag (aa a ac ?_));cases zc:(((dV op z ((aR ix fs ws (n+1) d i).2.getD 0 0) ((aR ix fs ws (n+1) d e).2.getD 0 0)):Int) != (0:Int))
   .
    have zf:=aU zc;exact lB 76 zc (ah (cK (aa a cG (ae a [] (.tuple #[qS Ar Lr.length cr,iV 0]) (by have M:=hRr oM;rw[jL oM oM,ke oM oM oM,<-M];exact ⟨_,_,rfl,a.f.1⟩)))))
   have zf:=aJ zc;exact lB 76 zc (ak (aa a m4 (ae a [] (.tuple #[sZ,iV (dV op z ((aR ix fs ws (n+1) d i).2.getD 0 0) ((aR ix fs ws (n+1) d e).2.getD 0 0))]) (by rw[jL oM oM,km oM oM oM];exact ⟨none,0,rfl,SlO.nil⟩))))
  have ze:=aJ zb;exact lB 64 zb (ak (aa a m4 (ae a [] (.tuple #[sZ,iV ((aR ix fs ws (n+1) d e).1)]) (by rw[jL oM oM,o8 oM oM];exact ⟨none,0,rfl,SlO.nil⟩))))
 have zd:=aJ Z;exact lB 40 Z (ak (aa a m4 (ae a [] (.tuple #[sZ,iV ((aR ix fs ws (n+1) d i).1)]) (by rw[jL oM oM,jO oM];exact ⟨none,0,rfl,SlO.nil⟩))))
theorem CI (ok:ByteArray->Prop)(ix:ByteArray->Nat)(fs ws j C y B n)(hn:n<=12)(H:fs.length<=1000)(a:ws.length=fs.length)(o)(l:List MapEntry)(Y:∀ i,LQ 1 (fs.getD i 0))(I:∀ i,LQ 1 (ws.getD i 0))(u:∀ s,ok s->ix s<fs.length/\∃ i,Instr.findNow .string (.string s) l 0=some (some (i,nV (ix s)))):∀ (d:Nat) (p:PTm) (t:Tm) (w:World) (h:Hp),d<=7->G w h->TmH d h p t->WfT1 ok d t->bL d t<=1000->Sq j fs h->Sq y ws h->MapS h o l->Tab h->Calls Tryz.prog 49 #[.agg #[.iface 109 (.agg #[.slice j fs.length C,.slice y ws.length B,nV n]),.map (some o),.bool true],bW p] w (Ret w h (fun v h1=>∃ (X:Z9)(c_:Nat),v=.tuple #[.slice X (aR ix fs ws (n+1) d t).2.length c_,iV (aR ix fs ws (n+1) d t).1]/\Sq X (aR ix fs ws (n+1) d t).2 h1))
  | 0,_,_,_,_,_,_,x,_,_,_,_,_,_=>x.elim
  | d + 1,p,t,w,h,hd,g,x,wf,hw,hF,hV,hM,tb=>by
    obtain ⟨op,z,q,s,A,c,ps,ks,rfl,rfl,hc,J,f⟩:=x.open;obtain ⟨w1,w2,w3,U,w5,w6,L,K,D⟩:=wf;replace w1:gQ op=(ks.length:Nat):=w1;replace L : -12<=z:=L;replace K:z<=12:=K;replace D:∀ i,i<ks.length->WfT1 ok d (ks.getD i di):=D;have hac:=aF op;have V:=fun p t w h=>CI ok ix fs ws j C y B n hn H a o l Y I u d p t w h oM
    have O:∀ t,WfT1 ok d t->1<=bL d t/\SzR (4*(2^d*bL d t)-3) (aR ix fs ws (n+1) d t).2:=fun t k1=>oV (N0 n) Y I k1
    rcases iz w1 with rfl|⟨t1,rfl⟩|⟨t1,t2,rfl⟩
    . simp only[Pb] at w1
      by_cases o1:op=1
      . subst o1;exact E5 ok ix fs ws j C y B n hn H a o l d z q s A c ps [] w h g J hF hV hM
      . obtain rfl:op=2:=by omega
        exact EI ok ix fs ws j C y B n hn H a o l d z q s A c ps [] (u s (U rfl)).1 (u s (U rfl)).2 w h g J hF hV hM
    . obtain ⟨S,rfl⟩:=List.length_eq_one_iff.1 (show ps.length=1 from f.len)
      simp only[uA,Pb] at w1;have F:WfT1 ok d t1:=D 0 (N0 _);have Q:bL d t1<=1000:=rM hw
      have M:op=8->z.natAbs*bL d t1<=1000:=fun e8=>by
        have e:bL (d+1) (.mk op z q s [t1])=ia op z*(bL d t1+0):=by rw[kj (show [t1].length≠0 from Pa _)];show _*(0+bL d t1)=_;rw[Nat.zero_add,y5]
        have Z:ia op z=bP z:=by unfold ia;rw[if_neg oM,if_pos e8]
        rw[e,Z,y5] at hw;refine ep (z7 _ ?_) hw
        unfold bP;split<;>omega
      exact Eo ok ix fs ws j C y B n hn H a o l d V op z q s A c S t1 F Q (O t1 F) oM oM oM ⟨L,K⟩ M w h g J (f.at_ 0 (N0 _)) hF hV hM tb
    . obtain ⟨S,p2,rfl⟩:=pq (show ps.length=2 from f.len)
      simp only[uA,Pb] at w1;have F:WfT1 ok d t1:=D 0 (N0 _);have W:WfT1 ok d t2:=D 1 (by show 1<2;decide);obtain ⟨Q,g2⟩:=rX hw;exact FI ok ix fs ws j C y B n hn H a o l d V op z q s A c S t1 F Q (O t1 F) p2 t2 W g2 (O t2 W) oM oM oM ⟨L,K⟩ w h g J (f.at_ 0 (N0 _)) (f.at_ 1 (by show 1<2;decide)) hF hV hM tb
def Ge (d:Nat)(t:Tm)(ns:List ByteArray)(fs ws:List Rat)(n:Nat)(e:Int)(L_:List Rat):Prop :=
  ∃ ec,DckR d t ns (fs.length=ns.length/\ws.length=ns.length) ec/\((ec≠0/\e=ec/\L_=[])\/(ec=0/\(e,L_)=aR (aY ns) fs ws (n+1) d t))
theorem nH (d)(p:PTm)(t:Tm)(X:d<=7)(D y)(ns:List ByteArray)(B:NsD ns)(fs ws:List Rat)(j x l u n)(hn:n<=12)(Y:fs.length<=1000)(H:ws.length=fs.length)(V:∀ i,LQ 1 (fs.getD i 0))(I:∀ i,LQ 1 (ws.getD i 0))(e:ol dq d t/\(fs.length=ns.length/\ws.length=ns.length)/\(∀ i,i<ns.length->dq (ns.getD i ⟨#[]⟩)=true)/\(∀ s,fJ d t s->s∈ns)/\ns.Nodup)(w h)(g:G w h)(O:TmH d h p t)(S:SlO 1 bA ⟨#[]⟩ h D ns)(U:Sq j fs h)(Q:Sq l ws h)(W:Tab h):CR 22 #[bW p,.slice D ns.length y,.slice j fs.length x,.slice l ws.length u,nV n] w h (fun v h1=>∃ (J:Z9)(c_:Nat),v=.tuple #[.slice J (aR (aY ns) fs ws (n+1) d t).2.length c_,iV (aR (aY ns) fs ws (n+1) d t).1]/\Sq J (aR (aY ns) fs ws (n+1) d t).2 h1):=by
 have a:=((((((sS g).add (K:=fun C=>TmH d C p t) O).aS S).aS U).aS Q).add (K:=fun C=>Tab C) W);refine go Tryz.func22 [(0,bW p),(1,qS D ns.length y),(2,qS j fs.length x),(3,qS l ws.length u),(4,nV n)] rfl (aA (lA 5 51 (dd p) a (fun b1 w2 h3 a=>lL a ax (aG (lL a [.c,.c,.c,.v (.agg #[qS j fs.length x,qS l ws.length u,nV n]),.v (.iface 109 (.agg #[qS j fs.length x,qS l ws.length u,nV n])),.c] (lC 19 a (mX B e.2.2.1 D y _ _ a.g a.f.r.2.1) ?_))))));rintro _ Z h5 a ⟨z,rfl,hM⟩;replace a:=(a.add (K:=fun C=>MapS C z (n9 ns)) hM);refine lL a [.v (.agg #[.iface 109 (.agg #[qS j fs.length x,qS l ws.length u,nV n]),.map (some z),qT])] (lA 12 113 ([.nilIface,.map none,qF]) a (fun b6 w7 h8 a=>lP 0 0 ([.iface 109 (.agg #[qS j fs.length x,qS l ws.length u,nV n]),.map (some z),qT]) a (fun w9 a=>aG (lL a [.o (.agg #[.iface 109 (.agg #[qS j fs.length x,qS l ws.length u,nV n]),.map (some z),qT]) 0 0 3,.o (bW p) 1 0 9] (lC 23 a (CI (fun s=>s∈ns) (aY ns) fs ws j x l u n hn Y H z (n9 ns) V I (Ki B e.2.2.2.2 e.2.1.1) d p t _ _ X a.g a.f.q.2.1 (oz e) e.1.2 a.f.r.2.1 a.f.r.1 a.f.1 a.f.2.1) ?_)))));rintro _ _ _ a ⟨L,M,rfl,F⟩;replace a:=a.aS F;exact lL a [.v (qS L ((aR (aY ns) fs ws (n+1) d t).2.length) M),.v (iV ((aR (aY ns) fs ws (n+1) d t).1)),.c,.c] (ae a [] (.tuple #[qS L ((aR (aY ns) fs ws (n+1) d t).2.length) M,iV ((aR (aY ns) fs ws (n+1) d t).1)]) (⟨_,_,rfl,a.f.1⟩))
theorem wK (d p t)(hd:d<=7)(I y ns)(H:NsD ns)(fs ws B F C D n)(hn:n<=12)(hm:fs.length<=1000)(hmv:ws.length<=1000)(hq:∀ i,LQ 1 (fs.getD i 0))(V:∀ i,LQ 1 (ws.getD i 0))(w h)(g:G w h)(Z:TmH d h p t)(hS:SmT1 gG d t)(hN:SlO 1 bA ⟨#[]⟩ h I ns)(hF:Sq B fs h)(hV:Sq C ws h)(tb:Tab h):CR 35 #[bW p,.slice I ns.length y,.slice B fs.length F,.slice C ws.length D,nV n] w h (fun v h1=>∃ (e:Int)(A_:Z9)(c_:Nat)(L_:List Rat),v=.tuple #[.slice A_ L_.length c_,iV e]/\Sq A_ L_ h1/\Ge d t ns fs ws n e L_):=by
 have a:=((((((sS g).add (K:=fun U=>TmH d U p t) Z).aS hN).aS hF).aS hV).add (K:=fun U=>Tab U) tb);refine go Tryz.func35 [(0,bW p),(1,qS I ns.length y),(2,qS B fs.length F),(3,qS C ws.length D),(4,nV n)] rfl (aA (lA 5 51 (dd p) a (fun b1 w2 h3 a=>lL a ax (ag (aa a ac ?_)))));cases x:(decide ((n:Int)<(0:Int)))
 .
  have L:=oF x;refine lB 14 x (lL a ax ?_);cases z:(decide ((12:Int)<(n:Int)))
  .
   have M:=oF z;refine lB 17 z (lL a [.v qF] (ah (cK (cQ (aa a [.o (bW p) 0 0 9,.c,.c,.c] (lR 23 53 2 ([qS B fs.length F,qS C ws.length D]) a (fun Y w7 h8 a=>?_)))))));replace a:=a.aS (SlO.of_flat (sz:=1) (f:=vc) (d:=undef) (b:=Y) (o:=0) (l:=([qS B fs.length F,qS C ws.length D]:List Value)) (fun _=>rfl) a.f.1);refine lC 24 a (FF d p t oM I y ns H (sB Y) 2 B fs.length F C ws.length D oM oM _ _ a.g a.f.q.r.1 hS a.f.q.2.1 a.f.1) ?_;rintro _ _ _ a ⟨Q,rfl,u⟩;refine lL a ac (aG (lL a ac ?_));cases O:((Q:Int) != (0:Int))
   .
    have zb:=aU O;refine lB 26 O (ah (cK ?_));have j:=u.ok oM;have J:ws.length=fs.length:=j.2.1.2.trans j.2.1.1.symm;refine aa a [.o (bW p) 0 0 9,.c,.c,.c,.c] (lC 33 a (nH d p t hd I y ns H fs ws B F C D n hn hm J hq V (u.ok oM) _ _ a.g a.f.q.r.1 a.f.q.2.1 a.f.q.1 a.f.r.2.1 a.f.r.1) ?_);rintro _ _ _ a ⟨W,X,rfl,S⟩;replace a:=a.aS S;exact lL a [.v (qS W ((aR (aY ns) fs ws (n+1) d t).2.length) X),.v (iV ((aR (aY ns) fs ws (n+1) d t).1)),.c,.c] (ae a [] (.tuple #[qS W ((aR (aY ns) fs ws (n+1) d t).2.length) X,iV ((aR (aY ns) fs ws (n+1) d t).1)]) (⟨_,_,_,_,rfl,a.f.1,Q,u,.inr ⟨by omega,rfl⟩⟩))
   have zb:=aJ O;exact lB 26 O (ak (aa a cG (ae a [] (.tuple #[sZ,iV Q]) (⟨_,none,0,[],rfl,SlO.nil,Q,u,.inl ⟨by omega,rfl,rfl⟩⟩))))
  have M:=oT z;refine lB 17 z (lL a [.v qT] (ak (aa a ax (lN (kX ?_)))))
  exfalso;omega
 have L:=oT x;refine lB 14 x (lL a ac (lG 16 ?_));refine lG 17 (lL a [.v qT] (ak (aa a ax (lN (kX ?_)))))
 exfalso;omega
def Ds (p:Nat->Bool)(s:ByteArray):Nat->Nat->Nat
  | 0,a=>a
  | f+1,a=>if a<s.size/\p (ay s a)=true then Ds p s f (a+1) else a
def rn (p:Nat->Bool)(s:ByteArray)(a:Nat):Nat:=Ds p s (s.size-a) a
theorem xY (p:Nat->Bool)(s):∀ f a,a<=s.size->Ds p s f a<=s.size
  | 0,a,h=>h
  | f+1,a,h=>by
    unfold Ds;split
    . rename_i c;exact xY p s f (a+1) c.1
    . exact h
theorem Cg {p:Nat->Bool}{s:ByteArray}{a:Nat}(h:a<=s.size):rn p s a<=s.size:=xY p s _ a h
theorem CE {p:Nat->Bool}{s:ByteArray}{j:Nat}:∀ f a,s.size-a<=f->a<=j->j<=s.size->(∀ i,a<=i->i<j->p (ay s i)=true)->(j=s.size\/p (ay s j)=false)->Ds p s f a=j
  | 0,a,h1,h2,h3,_,_=>by show a=j;omega
  | f + 1,a,h1,h2,h3,h4,h5=>by
    unfold Ds;by_cases e:a=j
    . subst e
      rw[if_neg];rintro ⟨h,c⟩
      rcases h5 with h5|h5
      . omega
      . rw[h5] at c;cases c
    . rw[if_pos ⟨by omega,h4 a (ek a) oM⟩]
      exact CE f (a+1) oM oM h3 (fun i hi d=>h4 i oM d) h5
theorem q9 {p:Nat->Bool}{s:ByteArray}{a j:Nat}(d:a<=j)(f:j<=s.size)(c:∀ i,a<=i->i<j->p (ay s i)=true)(e:j=s.size\/p (ay s j)=false):rn p s a=j:=CE _ a (ek _) d f c e
theorem rz (p:Nat->Bool)(s):∀ f a,s.size-a<=f->Ds p s f a<s.size->p (ay s (Ds p s f a))=false
  | 0,a,h1,d=>by
    have d:a<s.size:=d
    omega
  | f + 1,a,h1,d=>by
    unfold Ds at d ⊢
    split
    . rename_i c;rw[if_pos c] at d;exact rz p s f (a+1) oM d
    . rename_i c;rw[if_neg c] at d
      cases h:p (ay s a) with
      | true=>exact absurd ⟨d,h⟩ c
      | false=>rfl
def Ez (c:Nat):Bool:=decide (c=32)
def nP (c:Nat):Bool:=decide ((48<=c/\c<=57)\/c=46)
def ir (c:Nat):Bool:=decide (qN c)
def sk (s:ByteArray)(a:Nat):Nat:=rn Ez s a
theorem np {s:ByteArray}{a:Nat}(h:a<=s.size):sk s a<=s.size:=Cg h
theorem JC (s a):sk s (sk s a)=sk s a:=by
 rcases ea (sk s a) s.size with h1|h1
 ·exact q9 (ek _) (Nat.le_of_lt h1) (fun i c d=>absurd c oM) (.inr (rz Ez s (s.size-a) a (ek _) h1))
 ·show Ds Ez s (s.size-sk s a) (sk s a)=sk s a
  rw[show s.size-sk s a=0 by omega];rfl
theorem vG {s:ByteArray}{a:Nat}(h:s.size<=a):ay s a=0:=by
 unfold ay;rw[Nc,List.getElem?_eq_none (by simpa using h)];rfl
theorem BD {s:ByteArray}{a:Nat}(h:ay s a≠0):a<s.size:=by
 rcases ea a s.size with h1|h1
 ·exact h1
 ·exact absurd (vG h1) h
inductive PR where
  | ok (t:Tm) (a:Nat)
  | err (b:Nat)
inductive PKd where
  | sum|prod|sign|pow|atom
  | more (lv:Bool) (t:Tm)
def jF (op:Int)(t u:Tm):Tm:=.mk op 0 0 ⟨#[]⟩ [t,u]
def sq (q:Rat):Tm:=.mk 1 0 q ⟨#[]⟩ []
def nN (s:ByteArray):Tm:=.mk 2 0 0 s []
def tH (x:Option PR)(f:Tm->Nat->Option PR):Option PR:=match x with
  | none=>none
  | some (.ok t a)=>f t a
  | some (.err b)=>some (.err b)
def c1 (lv:Bool):Nat:=if lv then 42 else 43
def c2 (lv:Bool):Nat:=if lv then 47 else 45
def Dt (lv:Bool):Int:=if lv then 5 else 3
def vB (lv:Bool):Int:=if lv then 6 else 4
def part (lv:Bool):PKd:=if lv then .sign else .prod
section
variable (nf:ByteArray->Option Rat)(s:ByteArray)
def gp:Nat->PKd->Nat->Option PR
  | 0,_,_=>none
  | n+1,.sum,a=>tH (gp n .prod a) fun t b=>gp n (.more false t) b
  | n+1,.prod,a=>tH (gp n .sign a) fun t b=>gp n (.more true t) b
  | n+1,.more lv t,a =>
    if ay s (sk s a)=c1 lv then tH (gp n (part lv) (sk s a+1)) fun u b=>gp n (.more lv (jF (Dt lv) t u)) b
    else if ay s (sk s a)=c2 lv then tH (gp n (part lv) (sk s a+1)) fun u b=>gp n (.more lv (jF (vB lv) t u)) b
    else some (.ok t (sk s a))
  | n+1,.sign,a=>if ay s (sk s a)=45 then none else gp n .pow (sk s a)
  | n+1,.pow,a=>tH (gp n .atom a) fun t b=>if ay s (sk s b)=94 then none else some (.ok t (sk s b))
  | n + 1,.atom,a =>
    if nP (ay s (sk s a))=true then match nf (s.extract (sk s a) (rn nP s (sk s a))) with
      | some q=>some (.ok (sq q) (rn nP s (sk s a)))
      | none=>some (.err (sk s a))
    else if jl (ay s (sk s a))\/ay s (sk s a)=95 then
      if eW (s.extract (sk s a) (rn ir s (sk s a)))=true then none
      else if dq (s.extract (sk s a) (rn ir s (sk s a)))=true then some (.ok (nN (s.extract (sk s a) (rn ir s (sk s a)))) (rn ir s (sk s a)))
      else some (.err (sk s a))
    else if ay s (sk s a)=40 then tH (gp n .sum (sk s a+1)) fun t b=>if ay s (sk s b)=41 then some (.ok t (sk s b+1)) else some (.err (sk s b))
    else some (.err (sk s a))
variable {nf s}
theorem kI {x:Option PR}{f:Tm->Nat->Option PR}{t:Tm}{b:Nat}(h:tH x f=some (.ok t b)):∃ u a,x=some (.ok u a)/\f u a=some (.ok t b):=by
 match x,h with
 | some (.ok u a),h=>exact ⟨u,a,rfl,h⟩
def xH (lv:Bool):PKd:=if lv then .prod else .sum
section
variable {n a b:Nat}{t u:Tm}{lv:Bool}{op:Int}
theorem Fh {k:PKd}{r:PR}(h:gp nf s n k a=some r):∃ m,n=m+1:=by
 cases n with
 | zero=>cases h
 | succ m=>exact ⟨m,rfl⟩
theorem FD (h:gp nf s (n+1) (xH lv) a=some (.ok t b)):∃ u c,gp nf s n (part lv) a=some (.ok u c)/\gp nf s n (.more lv u) c=some (.ok t b):=by
 cases lv<;>exact kI h
theorem xj (h:gp nf s (n+1) (.more lv u) a=some (.ok t b))(c:ay s (sk s a)=c1 lv):∃ v e,gp nf s n (part lv) (sk s a+1)=some (.ok v e)/\gp nf s n (.more lv (jF (Dt lv) u v)) e=some (.ok t b):=by
 unfold gp at h;rw[if_pos c] at h;exact kI h
theorem xw (h:gp nf s (n+1) (.more lv u) a=some (.ok t b))(d:ay s (sk s a)≠c1 lv)(c:ay s (sk s a)=c2 lv):∃ v e,gp nf s n (part lv) (sk s a+1)=some (.ok v e)/\gp nf s n (.more lv (jF (vB lv) u v)) e=some (.ok t b):=by
 unfold gp at h;rw[if_neg d,if_pos c] at h;exact kI h
theorem wO (h:gp nf s (n+1) (.more lv u) a=some (.ok t b))(d:ay s (sk s a)≠c1 lv)(c:ay s (sk s a)≠c2 lv):t=u/\b=sk s a:=by
 unfold gp at h;rw[if_neg d,if_neg c] at h;injection h with h;injection h with h1 h2;exact ⟨h1.symm,h2.symm⟩
theorem pe (h:gp nf s (n+1) .sign a=some (.ok t b)):ay s (sk s a)≠45/\gp nf s n .pow (sk s a)=some (.ok t b):=by
 unfold gp at h;split at h
 ·cases h
 ·rename_i c;exact ⟨c,h⟩
theorem FO (h:gp nf s (n+1) .pow a=some (.ok t b)):∃ e,gp nf s n .atom a=some (.ok t e)/\ay s (sk s e)≠94/\b=sk s e:=by
 unfold gp at h;obtain ⟨v,e,h1,d⟩:=kI h
 split at d
 ·cases d
 ·rename_i c;injection d with d;injection d with d h3;subst d;exact ⟨e,h1,c,h3.symm⟩
section
variable (h:gp nf s (n+1) .atom a=some (.ok t b))
include h
theorem Fu (c:nP (ay s (sk s a))=true):∃ q,nf (s.extract (sk s a) (rn nP s (sk s a)))=some q/\t=sq q/\b=rn nP s (sk s a):=by
 unfold gp at h;rw[if_pos c] at h;split at h
 ·rename_i q d;injection h with h;injection h with h1 h2;exact ⟨q,d,h1.symm,h2.symm⟩
 ·cases h
variable (c0:nP (ay s (sk s a))=false)
include c0
theorem Ex (c:jl (ay s (sk s a))\/ay s (sk s a)=95):eW (s.extract (sk s a) (rn ir s (sk s a)))=false/\dq (s.extract (sk s a) (rn ir s (sk s a)))=true/\t=nN (s.extract (sk s a) (rn ir s (sk s a)))/\b=rn ir s (sk s a):=by
 unfold gp at h;rw[if_neg (by rw[c0];decide),if_pos c] at h
 split at h
 ·cases h
 ·rename_i d
  split at h
  ·rename_i e;injection h with h;injection h with h1 h2;exact ⟨by simpa using d,e,h1.symm,h2.symm⟩
  ·cases h
variable (cL:¬(jl (ay s (sk s a))\/ay s (sk s a)=95))
include cL
theorem FJ:ay s (sk s a)=40/\∃ e,gp nf s n .sum (sk s a+1)=some (.ok t e)/\ay s (sk s e)=41/\b=sk s e+1:=by
 unfold gp at h;rw[if_neg (by rw[c0];decide),if_neg cL] at h
 split at h
 ·rename_i c
  obtain ⟨v,e,h1,f⟩:=kI h
  split at f
  ·rename_i d;injection f with f;injection f with f h3;subst f;exact ⟨c,e,h1,d,h3.symm⟩
  ·cases f
 ·cases h
end
end
end
def PtH (h:Hp)(p:PTm)(t:Tm):Prop:=∃ d,TmH d h p t
theorem PtH.gw {h a:Hp}{p:PTm}{t:Tm}(x:PtH h p t)(u:Gw h a):PtH a p t:=by obtain ⟨d,x⟩:=x;exact ⟨d,x.gw u⟩
theorem PtH.two {h:Hp}{op:Int}{p q:PTm}{t u:Tm}{b:Nat}(x:PtH h p t)(y:PtH h q u)(a:SlO 9 dd cM h (some ⟨b,0,none⟩) [p,q]):PtH h ⟨op,0,0,⟨#[]⟩,some ⟨b,0,none⟩,2,2⟩ (jF op t u):=by
 obtain ⟨d,x⟩:=x;obtain ⟨e,y⟩:=y
 exact ⟨max d e+1,TmH.mk (ps:=[p,q]) (ks:=[t,u]) ⟨rfl,fun i hi=>by
  have:i=0\/i=1:=by have:i<2:=hi;omega
  rcases this with rfl|rfl
  ·exact x.mono (Nat.le_max_left _ _)
  ·exact y.mono (Nat.le_max_right _ _)⟩ (ek _) a⟩
theorem PtH.num {h:Hp}{q:Rat}:PtH h ⟨1,0,q,⟨#[]⟩,none,0,0⟩ (sq q):=⟨1,TmH.mk (ps:=[]) (ks:=[]) Tms.nil (ek _) SlO.nil⟩
theorem PtH.nam {h:Hp}{s:ByteArray}:PtH h ⟨2,0,0,s,none,0,0⟩ (nN s):=⟨1,TmH.mk (ps:=[]) (ks:=[]) Tms.nil (ek _) SlO.nil⟩
section ops
variable {P:Program}{Γ:cC}{o:Oper}
theorem Dk {tx:TypeId}{x i e:Operand}{k k2:IntKind}{s:ByteArray}{n m:Nat}{j j2:Int}(c:o.op=.slice tx x (some i) (some e) none)(f:ev Γ x=.string s)(hi:ev Γ i=.int k j)(p:ev Γ e=.int k2 j2)(d:P.underlying tx=some .string)(h:j=(n:Int))(a:j2=(m:Int))(hn:n<=m)(l:m<=s.size)(w):
  (execOp (ev Γ) o).run P w=.ok (.value (.string (s.extract n m))) w:=by
 unfold execOp;simp only[c];subst h;subst a;have h0:(m:Int)<=(s.size:Int):=by omega
 simp[Instr.sliceAt,f,hi,p,Instr.slice,run_underlying d,Instr.sliceBounds,Instr.sliceBound,asIntOf,Result.andThen,h0,hn,l]
end ops
theorem Jf {q:Rat}(h:decide (ab q.num<(2^64)/\q.den<(2^64))=true):LQ 1 q:=by
 have h:=oT h;have k:∀ n,n<(2^64)->(wds n).length<=1:=fun n hn=>by
  rcases Nat.eq_zero_or_pos n with rfl|h0
  ·rw[nS];exact NY _
  ·rw[k9 h0 hn];exact ek _
 exact ⟨k _ h.1,k _ h.2⟩
section
variable {ok:ByteArray->Prop}{d:Nat}
theorem CF {q:Rat}(h:LQ 1 q):WfT1 ok (d+1) (sq q):=⟨rfl,fun h=>absurd rfl h,h,fun h=>absurd (show (1:Int)=2 from h) kD,fun _=>rfl,fun _=>rfl,by show (-12:Int)<=0;decide,by show (0:Int)<=12;decide,fun i hi=>absurd hi (O9 i)⟩
theorem sP {s:ByteArray}(h:ok s):WfT1 ok (d+1) (nN s):=⟨rfl,fun _=>rfl,o7 kD,fun _=>h,fun h=>absurd rfl h,fun _=>rfl,by show (-12:Int)<=0;decide,by show (0:Int)<=12;decide,fun i hi=>absurd hi (O9 i)⟩
theorem tJ {op:Int}{t u:Tm}(x:WfT1 ok d t)(y:WfT1 ok d u)(ha:gQ op=2)(a:op≠2):WfT1 ok (d+1) (jF op t u):=⟨ha,fun _=>rfl,o7 kD,fun h=>absurd (show op=2 from h) a,fun _=>rfl,fun _=>rfl,by show (-12:Int)<=0;decide,by show (0:Int)<=12;decide,fun i hi=>by
 have:i=0\/i=1:=by have:i<2:=hi;omega
 rcases this with rfl|rfl
 ·exact x
 ·exact y⟩
end
def xF:Tm:=jF 5 (nN ⟨#[120]⟩) (nN ⟨#[121]⟩)
def Dq:Tm:=jF 6 (sq ((1:Nat):Rat)) (jF 4 (sq ((1:Nat):Rat)) (nN ⟨#[120]⟩))
theorem vv {ok:ByteArray->Prop}(h:ok ⟨#[120]⟩)(a:ok ⟨#[121]⟩):WfT1 ok 2 xF:=tJ (sP h) (sP a) kD kD
theorem uZ {ok:ByteArray->Prop}(h:ok ⟨#[120]⟩):WfT1 ok 3 Dq:=tJ (CF (Jf kR)) (tJ (CF (Jf kR)) (sP h) kD kD) kD kD
theorem Gc:bL 2 xF<=1000:=oT kR
theorem F0:bL 3 Dq<=1000:=oT kR
theorem BT {a:Rat}(h:LQ 1 a)(i):LQ 1 ([a].getD i 0):=by
 match i with
 | 0=>exact h
 | _+1=>exact o7 kD
theorem Do {a b:Rat}(h:LQ 1 a)(c:LQ 1 b)(i):LQ 1 ([a,b].getD i 0):=by
 match i with
 | 0=>exact h
 | 1=>exact c
 | _+2=>exact o7 kD
theorem HR {d:Nat}{t:Tm}{ns:List ByteArray}{M:Prop}(w:WfT1 (fun s=>dq s=true) d t)(g:bL d t<=1000)(hM:M)(hn:∀ i,i<ns.length->dq (ns.getD i ⟨#[]⟩)=true)(w2:WfT1 (fun s=>s∈ns) d t)(a:ns.Nodup):DckR d t ns M 0 :=
 .inr ⟨⟨w,g⟩,.inr ⟨hM,.inr ⟨hn,.inr ⟨fun s c=>un w2 c,.inr ⟨a,rfl⟩⟩⟩⟩⟩
def cZ (g:Nat->Rat)(w:List Rat):Nat->Rat
  | 0=>0
  | m+1=>cZ g w m+g m*w.getD m 0
def eg (B:Nat->Nat->Rat)(w:List Rat)(m:Nat):Rat:=cZ (fun i=>cZ (B i) w m) w m
theorem fF (a b)(g h:Nat->Rat)(w):∀ m,cZ (fun i=>a*g i+b*h i) w m=a*cZ g w m+b*cZ h w m
  | 0=>by show (0:Rat)=a*0+b*0;grind
  | m+1=>by
    show cZ _ w m+(a*g m+b*h m)*w.getD m 0=a*(cZ g w m+g m*w.getD m 0)+b*(cZ h w m+h m*w.getD m 0)
    rw[fF a b g h w m];grind
theorem j7 (w):∀ m,cZ (fun _=>0) w m=0
 | 0=>rfl
 | m+1=>by show cZ _ w m+0*w.getD m 0=0;rw[j7 w m];grind
theorem jC {g h:Nat->Rat}{w:List Rat}:∀ {m:Nat},(∀ i,i<m->g i=h i)->cZ g w m=cZ h w m
 | 0,_=>rfl
 | m+1,e=>by show cZ g w m+g m*_=cZ h w m+h m*_;rw[jC fun i hi=>e i oM,e m (Pe m)]
theorem rV {k:Nat}(w):∀ m,cZ (fun i=>if i=k then 1 else 0) w m=if k<m then w.getD k 0 else 0
  | 0=>by rw[if_neg (O9 k)];rfl
  | m + 1=>by
    show cZ _ w m+(if m=k then (1:Rat) else 0)*w.getD m 0=_
    rw[rV w m];by_cases h:m=k
    . subst h;rw[if_neg (PL m),if_pos rfl,if_pos (Pe m)];grind
    . rw[if_neg h]
      by_cases h2:k<m
      . rw[if_pos h2,if_pos oM];grind
      . rw[if_neg h2,if_neg oM];grind
theorem nE (c)(g:Nat->Rat)(w):∀ m,cZ (fun i=>g i*c) w m=cZ g w m*c
  | 0=>by show (0:Rat)=0*c;grind
  | m+1=>by
    show cZ _ w m+g m*c*w.getD m 0=(cZ g w m+g m*w.getD m 0)*c
    rw[nE c g w m];grind
theorem i8 (a b)(B C:Nat->Nat->Rat)(w m):eg (fun i j=>a*B i j+b*C i j) w m=a*eg B w m+b*eg C w m:=by
 unfold eg;rw[<-fF];exact jC fun i _=>fF a b (B i) (C i) w m
def og (g h:Nat->Rat)(i j:Nat):Rat:=(g i*h j+g j*h i)/2
theorem uF (g h:Nat->Rat)(i j):og g h i j=og g h j i:=by unfold og;rw[PM]
theorem rE (g h:Nat->Rat)(w m):eg (og g h) w m=cZ g w m*cZ h w m:=by
 have a:eg (og g h) w m=cZ (fun i=>(1/2)*(g i*cZ h w m)+(1/2)*(h i*cZ g w m)) w m:=by
  refine jC fun i _=>?_
  have:(fun j=>og g h i j)=fun j=>(g i/2)*h j+(h i/2)*g j:=by
   funext j;unfold og;rw[PN,PN,PN];grind
  show cZ (fun j=>og g h i j) w m=_
  rw[this,fF,PN,PN,PN];grind
 rw[a,fF,nE,nE,PN];grind
def Q3 (m:Nat)(F:List Rat->List Rat):Prop:=∃ (v:Rat)(g:Nat->Rat)(B:Nat->Nat->Rat),(∀ i j,B i j=B j i)/\∀ w,F w=[v,cZ g w m,eg B w m]
theorem oR (w m):eg (fun _ _=>0) w m=0:=by
 unfold eg;rw[jC (h:=fun _=>0) fun i _=>j7 w m];exact j7 w m
theorem Q3.num (m q):Q3 m (fun _=>bB 3 q):=⟨q,fun _=>0,fun _ _=>0,fun _ _=>rfl,fun w=>by
 dsimp only;rw[j7,oR];rfl⟩
theorem Q3.inp {m k:Nat}(hk:k<m)(x):Q3 m (fun w=>ii 3 x (w.getD k 0)):=⟨x,fun i=>if i=k then 1 else 0,fun _ _=>0,fun _ _=>rfl,fun w=>by
 dsimp only;rw[rV,if_pos hk,oR];rfl⟩
theorem Q3.add {m:Nat}{F G:List Rat->List Rat}(x:Q3 m F)(y:Q3 m G):Q3 m (fun w=>dh 3 (F w) (G w)):=by
 obtain ⟨v,g,B,s,e⟩:=x;obtain ⟨c,d,a,f,h⟩:=y;refine ⟨v+c,fun i=>1*g i+1*d i,fun i j=>1*B i j+1*a i j,fun i j=>by dsimp only;rw[s i j,f i j],fun w=>?_⟩
 dsimp only;rw[fF,i8,e,h];show [v+c,cZ g w m+cZ d w m,eg B w m+eg a w m]=_
 simp[Rat.one_mul]
theorem Q3.scl {m:Nat}{F:List Rat->List Rat}(x:Q3 m F)(k):Q3 m (fun w=>dD 3 (F w) k):=by
 obtain ⟨v,g,B,s,e⟩:=x;refine ⟨v*k,fun i=>k*g i+0*g i,fun i j=>k*B i j+0*B i j,fun i j=>by dsimp only;rw[s i j],fun w=>?_⟩
 dsimp only;rw[fF,i8,e];show [v*k,cZ g w m*k,eg B w m*k]=_
 simp only[List.cons.injEq,and_true,true_and];exact ⟨by grind,by grind⟩
theorem Q3.mul {m:Nat}{F G:List Rat->List Rat}(x:Q3 m F)(y:Q3 m G):Q3 m (fun w=>dB 3 (F w) (G w)):=by
 obtain ⟨v,g,B,s,e⟩:=x;obtain ⟨a,c,d,f,h⟩:=y;refine ⟨v*a,fun i=>v*c i+a*g i,fun i j=>1*(v*d i j+a*B i j)+1*og g c i j,fun i j=>by dsimp only;rw[s i j,f i j,uF g c i j],fun w=>?_⟩
 dsimp only;rw[fF,i8,i8,rE,e,h];show [0+v*a,0+v*cZ c w m+cZ g w m*a,0+v*eg d w m+cZ g w m*cZ c w m+eg B w m*a]=_
 simp only[List.cons.injEq,and_true];exact ⟨by grind,by grind,by grind⟩
theorem qf (a b c):bI 3 [a,b,c]=[1/a,-(1/a*b*(1/a)),-((1/a*c + -(1/a*b*(1/a))*b)*(1/a))]:=by
 show [1/a,-((0+1/a*b)*(1/a)),-((0+1/a*c + -((0+1/a*b)*(1/a))*b)*(1/a))]=_
 simp only[Rat.zero_add]
theorem Q3.inv {m:Nat}{F:List Rat->List Rat}(x:Q3 m F):Q3 m (fun w=>bI 3 (F w)):=by
 obtain ⟨v,g,B,s,e⟩:=x;refine ⟨1/v,fun i=>-(1/v*(1/v))*g i+0*g i,fun i j=>-(1/v*(1/v))*B i j+(1/v*(1/v)*(1/v))*og g g i j,fun i j=>by dsimp only;rw[s i j,uF g g i j],fun w=>?_⟩
 dsimp only;rw[fF,i8,rE,e,qf];generalize cZ g w m=y
 generalize eg B w m=z
 generalize 1/v=u
 simp only[List.cons.injEq,and_true,true_and];exact ⟨by grind,by grind⟩
theorem Q3.pow_ {m:Nat}{F:List Rat->List Rat}(x:Q3 m F):∀ k,Q3 m (fun w=>dJ 3 (F w) k)
 | 0=>Q3.num m _
 | k+1=>(Q3.pow_ x k).mul x
theorem Q3.fst {m:Nat}{F:List Rat->List Rat}(x:Q3 m F):∃ v,∀ w,(F w).getD 0 0=v:=by
 obtain ⟨v,g,B,s,e⟩:=x;exact ⟨v,fun w=>by rw[e];rfl⟩
theorem Q3.abs_ {m:Nat}{F:List Rat->List Rat}(x:Q3 m F):Q3 m (fun w=>fC 3 (F w)):=by
 obtain ⟨v,hv⟩:=x.fst
 unfold fC;simp only[hv];by_cases h:v.num.sign<0
 ·simp only[if_pos h];exact x.scl _
 ·simp only[if_neg h];exact x
theorem Q3.pxq {m:Nat}{F:List Rat->List Rat}(x:Q3 m F)(n):Q3 m (fun w=>px n 3 (F w)):=by
 unfold px;by_cases h:n<0
 ·simp only[if_pos h];exact x.inv
 ·simp only[if_neg h];exact x
theorem Q3.node {m:Nat}{F G:List Rat->List Rat}(op n)(c:3<=op/\op<=13)(x:Q3 m F)(y:(op=3\/op=4\/op=5\/op=6\/op=12\/op=13)->Q3 m G):Q3 m (fun w=>gy op n 3 (F w) (G w)):=by
 obtain ⟨v,hv⟩:=x.fst
 rcases uk c with rfl|rfl|rfl|rfl|rfl|rfl|rfl|rfl|rfl|rfl|rfl
 ·simp only[Cq];exact x.add (y kD)
 ·simp only[Cw];exact x.add ((y kD).scl _)
 ·simp only[By];exact x.mul (y kD)
 ·simp only[BP];exact x.mul (y kD).inv
 ·simp only[CH];exact x.scl _
 ·simp only[kJ];exact (x.pxq n).pow_ _
 ·simp only[sd];exact x.abs_
 ·simp only[jY,hv]
  by_cases h:0<v.num.sign
  ·simp only[if_pos h];exact x
  ·simp only[if_neg h];exact Q3.num m 0
 ·simp only[nY];exact x.mul (x.abs_.add (Q3.num m _)).inv
 ·have z:=y kD
  obtain ⟨u,a⟩:=z.fst
  simp only[jR,hv,a];by_cases h:u<v
  ·simp only[if_pos h];exact x
  ·simp only[if_neg h];exact z
 ·have z:=y kD
  obtain ⟨u,a⟩:=z.fst
  simp only[jT,hv,a];by_cases h:u<v
  ·simp only[if_pos h];exact z
  ·simp only[if_neg h];exact x
section
variable {ix:ByteArray->Nat}{fs:List Rat}{ok:ByteArray->Prop}
theorem Q3.two {m:Nat}{op n:Int}{x y:List Rat->Int × List Rat}(u:3<=op/\op<=13)(z:∃ e,(∀ w,(x w).1=e)/\(e=0->Q3 m fun w=>(x w).2))(B:∃ e,(∀ w,(y w).1=e)/\(e=0->(op=3\/op=4\/op=5\/op=6\/op=12\/op=13)->Q3 m fun w=>(y w).2))(i:∃ b,∀ w,(x w).1=0->(y w).1=0->(y w).2.getD 0 0=b):
    ∃ e,(∀ w,(oo 3 op n (x w) (y w)).1=e)/\(e=0->Q3 m fun w=>(oo 3 op n (x w) (y w)).2):=by
  obtain ⟨l,c,p⟩:=z;obtain ⟨j,d,o⟩:=B;obtain ⟨b,f⟩:=i
  by_cases c1:l=0
  . subst c1
    by_cases c2:j=0
    . subst c2
      have q:=p rfl;obtain ⟨a,ha⟩:=q.fst
      by_cases c3:dV op n a b=0
      . have e:∀ w,oo 3 op n (x w) (y w)=(0,gy op n 3 (x w).2 (y w).2):=fun w=>ke (c w) (d w) (by rw[ha w,f w (c w) (d w)];exact c3)
        simp only[e];exact ⟨0,fun _=>rfl,fun _=>q.node op n u (o rfl)⟩
      . have e:∀ w,oo 3 op n (x w) (y w)=(dV op n a b,[]):=fun w=>by
          rw[km (c w) (d w) (by rw[ha w,f w (c w) (d w)];exact c3),ha w,f w (c w) (d w)]
        simp only[e];exact ⟨_,fun _=>rfl,fun h=>absurd h c3⟩
    . have e:∀ w,oo 3 op n (x w) (y w)=(j,[]):=fun w=>by rw[o8 (c w) (by rw[d w];exact c2),d w]
      simp only[e];exact ⟨_,fun _=>rfl,fun h=>absurd h c2⟩
  . have e:∀ w,oo 3 op n (x w) (y w)=(l,[]):=fun w=>by rw[jO (by rw[c w];exact c1),c w]
    simp only[e];exact ⟨_,fun _=>rfl,fun h=>absurd h c1⟩
theorem r7 (a:∀ s,ok s->ix s<fs.length):∀ {d:Nat} {t:Tm},WfT1 ok d t->∃ e,(∀ w,(aR ix fs w 3 d t).1=e)/\(e=0->Q3 fs.length fun w=>(aR ix fs w 3 d t).2)
  | d + 1,.mk op n q s ks,⟨h1,h2,h3,h4,h5,h6,h7,h8,h9⟩=>by
    have o:=aF op;replace h1:gQ op=(ks.length:Nat):=h1
    rcases iz h1 with rfl|⟨t,rfl⟩|⟨t,u,rfl⟩
    . simp only[Pb] at h1
      by_cases o1:op=1
      . have e:∀ w,aR ix fs w 3 (d+1) (.mk op n q s [])=(0,bB 3 q):=fun w=>if_pos o1
        simp only[e];exact ⟨0,fun _=>rfl,fun _=>Q3.num _ q⟩
      . have f:op=2:=by omega
        have e:∀ w,aR ix fs w 3 (d+1) (.mk op n q s [])=(0,ii 3 (fs.getD (ix s) 0) (w.getD (ix s) 0)):=fun w=>(if_neg o1).trans (if_pos f)
        simp only[e];exact ⟨0,fun _=>rfl,fun _=>Q3.inp (a s (h4 f)) _⟩
    . simp only[uA,Pb] at h1
      have e:∀ w,aR ix fs w 3 (d+1) (.mk op n q s [t])=oo 3 op n (aR ix fs w 3 d t) (0,[]):=fun w=>lJ oM oM
      simp only[e];exact Q3.two oM (r7 a (h9 0 (N0 _))) ⟨0,fun _=>rfl,fun _ h=>by omega⟩ ⟨0,fun _ _ _=>rfl⟩
    . simp only[uA,Pb] at h1
      have e:∀ w,aR ix fs w 3 (d+1) (.mk op n q s [t,u])=oo 3 op n (aR ix fs w 3 d t) (aR ix fs w 3 d u):=fun w=>jL oM oM
      simp only[e];obtain ⟨i,j,k2⟩:=r7 a (h9 1 (by show 1<2;decide));refine Q3.two oM (r7 a (h9 0 (N0 _))) ⟨i,j,fun h _=>k2 h⟩ ?_
      by_cases c:i=0
      . obtain ⟨b,l⟩:=(k2 c).fst
        exact ⟨b,fun w _ _=>l w⟩
      . exact ⟨0,fun w _ h=>absurd ((j w).symm.trans h) c⟩
end
theorem qt (g:Nat->Rat){w u v:List Rat}:∀ {m:Nat},(∀ a,a<m->w.getD a 0=u.getD a 0+v.getD a 0)->cZ g w m=cZ g u m+cZ g v m
  | 0,_=>by show (0:Rat)=0+0;grind
  | m+1,h=>by
    show cZ g w m+g m*w.getD m 0=cZ g u m+g m*u.getD m 0+(cZ g v m+g m*v.getD m 0)
    rw[qt g fun a ha=>h a oM,h m (Pe m)];grind
theorem pM (g:Nat->Rat){w:List Rat}{k:Nat}:∀ {m:Nat},(∀ a,a<m->w.getD a 0=if a=k then 1 else 0)->cZ g w m=if k<m then g k else 0
  | 0,_=>by rw[if_neg (O9 k)];rfl
  | m + 1,h=>by
    show cZ g w m+g m*w.getD m 0=_
    rw[pM g fun a ha=>h a oM,h m (Pe m)]
    by_cases e:m=k
    . subst e;rw[if_neg (PL m),if_pos rfl,if_pos (Pe m)];grind
    . rw[if_neg e]
      by_cases h2:k<m
      . rw[if_pos h2,if_pos oM];grind
      . rw[if_neg h2,if_neg oM];grind
def oA (B:Nat->Nat->Rat)(u v:List Rat)(m:Nat):Rat:=cZ (fun i=>cZ (B i) v m) u m
theorem KX (B:Nat->Nat->Rat){w u v z:List Rat}{m:Nat}(h:∀ a,a<m->w.getD a 0=u.getD a 0+v.getD a 0):oA B w z m=oA B u z m+oA B v z m:=qt _ h
theorem GC (B:Nat->Nat->Rat){w u v z:List Rat}{m:Nat}(h:∀ a,a<m->w.getD a 0=u.getD a 0+v.getD a 0):oA B z w m=oA B z u m+oA B z v m:=by
 unfold oA;have e:(fun i=>cZ (B i) w m)=fun i=>1*cZ (B i) u m+1*cZ (B i) v m:=by funext i;rw[qt (B i) h];grind
 rw[e,fF];grind
theorem nt (B:Nat->Nat->Rat){u v:List Rat}{i k m:Nat}(hi:i<m)(hk:k<m)(c:∀ a,a<m->u.getD a 0=if a=i then 1 else 0)(hv:∀ a,a<m->v.getD a 0=if a=k then 1 else 0):oA B u v m=B i k:=by
 unfold oA;rw[pM _ c,if_pos hi,pM _ hv,if_pos hk]
theorem rq {B:Nat->Nat->Rat}(s:∀ i j,B i j=B j i){w u v:List Rat}{i k m:Nat}(hi:i<m)(hk:k<m)(h:∀ a,a<m->w.getD a 0=u.getD a 0+v.getD a 0)(c:∀ a,a<m->u.getD a 0=if a=i then 1 else 0)(hv:∀ a,a<m->v.getD a 0=if a=k then 1 else 0):eg B w m=B i i+B k k+2*B i k:=by
 show oA B w w m=_
 rw[KX B h,GC B h,GC B h,nt B hi hi c c,nt B hi hk c hv,nt B hk hi hv c,nt B hk hk hv hv,s k i];grind
theorem mT {B:Nat->Nat->Rat}{u:List Rat}{i m:Nat}(hi:i<m)(c:∀ a,a<m->u.getD a 0=if a=i then 1 else 0):eg B u m=B i i:=nt B hi hi c c
def fD (n i j:Nat):List Rat:=((Af n (0:Rat)).set i ((1:Int):Rat)).set j ((1:Int):Rat)
theorem jg (n i j):(fD n i j).length=n:=by unfold fD;rw[NI,NI,O4]
theorem qG {n i j a:Nat}(ha:a<n):(fD n i j).getD a 0=if a=i\/a=j then 1 else 0:=by
 unfold fD;simp only[Nc,List.getElem?_set,NI,O4];by_cases e:j=a
 ·subst e;rw[if_pos rfl,if_pos ha,if_pos (.inr rfl)];rfl
 ·rw[if_neg e]
  by_cases e2:i=a
  ·subst e2;rw[if_pos rfl,if_pos ha,if_pos (.inl rfl)];rfl
  ·rw[if_neg e2,if_neg (fun x=>x.elim (fun y=>e2 y.symm) fun y=>e y.symm)];simp[ha]
def dg (b:Nat->Nat->Rat)(i j a c:Nat):Rat:=if a=c then b a a else if max a c<i\/(max a c=i/\min a c<j) then b (max a c) (min a c)-b (max a c) (max a c)-b (min a c) (min a c) else 0
def dI (b:Nat->Nat->Rat)(N k a c:Nat):Rat:=if a=c then (if a<k then b a a*((2:Int):Rat) else b a a) else dg b N 0 a c
def bE (N:Nat)(f:Nat->Rat):List Rat:=(o2 N).map f
theorem eM (N)(f:Nat->Rat):(bE N f).length=N:=by simp[bE]
theorem fT {N a:Nat}(f:Nat->Rat)(h:a<N):(bE N f).getD a 0=f a:=by simp[bE,h]
theorem kF {N:Nat}{f g:Nat->Rat}(h:∀ c,c<N->f c=g c):bE N f=bE N g:=PO fun c a=>h c (pa.1 a)
theorem mq {N k:Nat}{f g:Nat->Rat}{x:Rat}(j:x=g k)(h:∀ c,c<N->c≠k->f c=g c):(bE N f).set k x=bE N g:=by
 refine O1 (by simp[bE]) fun a h1 d=>?_
 simp only[bE,NI,PH,PP] at h1 d;rw[PQ];split
 ·rename_i e;subst e;simp[bE,j]
 ·rename_i e;simp[bE];exact h a d fun i=>e i.symm
section
variable {b:Nat->Nat->Rat}{N i j k a:Nat}
theorem fv (b:Nat->Nat->Rat)(i j a):dg b i j a a=b a a:=if_pos rfl
theorem iJ {c:Nat}(h:a≠c):dg b i j a c=if max a c<i\/(max a c=i/\min a c<j) then b (max a c) (min a c)-b (max a c) (max a c)-b (min a c) (min a c) else 0:=if_neg h
theorem row_0:(Af N (0:Rat)).set k (b k k)=bE N (dg b 0 0 k):=by
 have e:Af N (0:Rat)=bE N fun _=>0:=by
  refine O1 (by simp[bE]) fun a h1 f=>by simp[bE]
 rw[e];refine mq (fv b 0 0 k).symm fun c _ d=>?_
 rw[iJ (fun e=>d e.symm),if_neg oM]
theorem JG (d:j<i):(bE N (dg b i j i)).set j (b i j-b i i-b j j)=bE N (dg b i (j+1) i):=by
 refine mq ?_ fun c _ a=>?_
 ·rw[iJ oM,if_pos oM,show max i j=i by omega,show min i j=j by omega]
 ·by_cases e:i=c
  ·subst e;rw[fv,fv]
  ·rw[iJ e,iJ e]
   by_cases h:max i c<i\/(max i c=i/\min i c<j)
   ·rw[if_pos h,if_pos oM]
   ·rw[if_neg h,if_neg oM]
theorem Kb (d:j<i):(bE N (dg b i j j)).set i (b i j-b i i-b j j)=bE N (dg b i (j+1) j):=by
 refine mq ?_ fun c _ a=>?_
 ·rw[iJ oM,if_pos oM,show max j i=i by omega,show min j i=j by omega]
 ·by_cases e:j=c
  ·subst e;rw[fv,fv]
  ·rw[iJ e,iJ e]
   by_cases h:max j c<i\/(max j c=i/\min j c<j)
   ·rw[if_pos h,if_pos oM]
   ·rw[if_neg h,if_neg oM]
theorem KR (ha:a≠i)(d:a≠j):bE N (dg b i j a)=bE N (dg b i (j+1) a):=kF fun c _=>by
 by_cases e:a=c
 ·subst e;rw[fv,fv]
 ·rw[iJ e,iJ e]
  by_cases h:max a c<i\/(max a c=i/\min a c<j)
  ·rw[if_pos h,if_pos oM]
  ·rw[if_neg h,if_neg oM]
theorem Jz (h:j=i):bE N (dg b i j a)=bE N (dg b (i+1) 0 a):=kF fun c _=>by
 subst h;by_cases e:a=c
 ·subst e;rw[fv,fv]
 ·rw[iJ e,iJ e]
  by_cases h:max a c<j\/(max a c=j/\min a c<j)
  ·rw[if_pos h,if_pos oM]
  ·rw[if_neg h,if_neg oM]
theorem Kq:bE N (dg b N 0 a)=bE N (dI b N 0 a):=kF fun c _=>by
 unfold dI;by_cases e:a=c
 ·rw[if_pos e,if_neg (O9 a)];subst e;exact fv _ _ _ _
 ·rw[if_neg e]
theorem row_k:(bE N (dI b N k k)).set k (b k k*((2:Int):Rat))=bE N (dI b N (k+1) k):=by
 refine mq ?_ fun c _ hc=>?_
 ·unfold dI;rw[if_pos rfl,if_pos (Pe k)]
 ·unfold dI;rw[if_neg (fun e=>hc e.symm),if_neg (fun e=>hc e.symm)]
theorem Ju (h:a≠k):bE N (dI b N k a)=bE N (dI b N (k+1) a):=kF fun c _=>by
 unfold dI;by_cases e:a=c
 ·rw[if_pos e,if_pos e]
  by_cases h2:a<k
  ·rw[if_pos h2,if_pos oM]
  ·rw[if_neg h2,if_neg oM]
 ·rw[if_neg e,if_neg e]
theorem qB:dI b N k k k=b k k:=by unfold dI;rw[if_pos rfl,if_neg (PL k)]
end
theorem Ix {n:Nat}{F:List Rat->List Rat}(x:Q3 n F){U:Nat->Nat->List Rat}{V:Nat->List Rat}(o:∀ i k a,i<n->k<n->a<n->(U i k).getD a 0=(V i).getD a 0+(V k).getD a 0)(d:∀ i a,a<n->(V i).getD a 0=if a=i then 1 else 0){a c:Nat}(ha:a<n)(f:c<n):
  dI (fun i j=>(F (fD n i j)).getD 2 0) n n a c=(F (U a c)).getD 2 0-(F (V a)).getD 2 0-(F (V c)).getD 2 0:=by
 obtain ⟨v,g,B,s,e⟩:=x;have w:∀ z,(F z).getD 2 0=eg B z n:=fun z=>by rw[e];rfl
 have w1:∀ i,i<n->eg B (fD n i i) n=B i i:=fun i hi=>mT hi fun a ha=>by
  rw[qG ha];by_cases h:a=i
  ·rw[if_pos (.inl h),if_pos h]
  ·rw[if_neg (fun x=>x.elim h h),if_neg h]
 have w2:∀ i j,i<n->j<n->i≠j->eg B (fD n i j) n=B i i+B j j+2*B i j:=fun i j hi l hn=>rq s hi l (u:=V i) (v:=V j) (fun a ha=>by
  rw[qG ha,d i a ha,d j a ha];by_cases h:a=i
  ·rw[if_pos (.inl h),if_pos h,if_neg oM];grind
  ·by_cases h2:a=j
   ·rw[if_pos (.inr h2),if_neg h,if_pos h2];grind
   ·rw[if_neg (fun x=>x.elim h h2),if_neg h,if_neg h2];grind) (d i) (d j)
 have r:(F (U a c)).getD 2 0-(F (V a)).getD 2 0-(F (V c)).getD 2 0=2*B a c:=by
  rw[w,w,w,rq s ha f (o a c · ha f) (d a) (d c),mT ha (d a),mT f (d c)];grind
 rw[r];have p:∀ i j,j<i->i<n->eg B (fD n i j) n-eg B (fD n i i) n-eg B (fD n j j) n=2*B i j:=fun i j l hi=>by
  rw[w2 i j hi oM oM,w1 i hi,w1 j oM];grind
 unfold dI;by_cases h:a=c
 ·subst h
  rw[if_pos rfl,if_pos ha];show (F (fD n a a)).getD 2 0*((2:Int):Rat)=_
  rw[w,w1 a ha];show B a a*(2:Rat)=_;grind
 ·rw[if_neg h,iJ h,if_pos (.inl oM)]
  show (F (fD n _ _)).getD 2 0-(F (fD n _ _)).getD 2 0-(F (fD n _ _)).getD 2 0=_
  rw[w,w,w];by_cases hlt:a<c
  ·rw[show max a c=c by omega,show min a c=a by omega,p c a hlt f,s c a]
  ·rw[show max a c=a by omega,show min a c=c by omega,p a c oM ha]
def FX (bf:Nat->Nat)(M:Nat->List Rat)(a:Nat):Bx:=⟨bf a,48,(M a).flatMap qc⟩
def iS (n:Nat)(ks:List Nat)(bf:Nat->Nat)(M:Nat->List Rat):List Bx:=((o2 n).filter fun a=>decide (a ∉ ks)).map (FX bf M)
theorem vI {n i:Nat}{ks:List Nat}(hi:i<n)(hk:i ∉ ks):((o2 n).filter fun a=>decide (a ∉ ks)).Perm (i::(o2 n).filter fun a=>decide (a ∉ i::ks)):=by
 refine (List.perm_ext_iff_of_nodup (PS.filter _) (List.nodup_cons.2 ⟨by simp,PS.filter _⟩)).2 fun a=>?_
 simp only[PT,pa,hC,decide_eq_true_eq,not_or];constructor
 ·intro ⟨h1,c⟩
  by_cases e:a=i
  ·exact .inl e
  ·exact .inr ⟨h1,e,c⟩
 ·rintro (rfl|⟨h1,_,c⟩)
  ·exact ⟨hi,hk⟩
  ·exact ⟨h1,c⟩
theorem lh {n:Nat}{ks:List Nat}{bf bg:Nat->Nat}{M M':Nat->List Rat}(h:∀ a,a<n->a ∉ ks->bf a=bg a/\M a=M' a):iS n ks bf M=iS n ks bg M':=by
 unfold iS;refine PO fun a ha=>?_
 obtain ⟨h1,c⟩:=PT.1 ha;obtain ⟨d,e⟩:=h a (pa.1 h1) (oT c)
 unfold FX;rw[d,e]
section
variable {w0:World}{h0:Hp}{w:World}{h:Hp}{P:List Bx}{R:List Rw}{F:List (Hp->Prop)}{n:Nat}{ks:List Nat}{bf:Nat->Nat}{M:Nat->List Rat}
theorem SS.outR (s:SS w0 h0 w h (P++iS n ks bf M) R F)(i)(hi:i<n)(hk:i ∉ ks):SS w0 h0 w h (⟨bf i,48,(M i).flatMap qc⟩::(P++iS n (i::ks) bf M)) R F :=
 s.permBR ((List.Perm.append_left P ((vI hi hk).map (FX bf M))).trans g4) (List.Perm.refl R)
theorem SS.innR {i b:Nat}{l:List Rat}(s:SS w0 h0 w h (⟨b,48,l.flatMap qc⟩::(P++iS n (i::ks) bf M)) R F)(d:bf i=b)(hi:i<n)(hk:i ∉ ks)(M':Nat->List Rat)(h1:M' i=l)(c:∀ a,a<n->a ∉ i::ks->M a=M' a):SS w0 h0 w h (P++iS n ks bf M') R F:=by
 subst d h1;rw[lh (bg:=bf) (M':=M') fun a ha hk=>⟨rfl,c a ha hk⟩] at s
 exact s.permBR ((List.Perm.append_left P ((vI hi hk).map (FX bf M'))).trans g4).symm (List.Perm.refl R)
theorem SS.pushR {k b:Nat}{l:List Rat}(s:SS w0 h0 w h (⟨b,48,l.flatMap qc⟩::(P++iS k [] bf M)) R F)(bg:Nat->Nat)(f:bg k=b)(c:∀ a,a<k->bf a=bg a)(M':Nat->List Rat)(h1:M' k=l)(d:∀ a,a<k->M a=M' a):SS w0 h0 w h (P++iS (k+1) [] bg M') R F:=by
 subst f h1;rw[lh (bg:=bg) (M':=M') fun a ha _=>⟨c a ha,d a ha⟩] at s
 have e:iS (k+1) [] bg M'=iS k [] bg M'++[⟨bg k,48,(M' k).flatMap qc⟩]:=by
  unfold iS;rw[PU,List.filter_append,PV];rfl
 rw[e,<-List.append_assoc];exact s.permBR (List.perm_append_singleton _ _).symm (List.Perm.refl R)
theorem SS.cgT (s:SS w0 h0 w h (P++iS n [] bf M) R F)(M':Nat->List Rat)(c:∀ a,a<n->M a=M' a):SS w0 h0 w h (P++iS n [] bf M') R F:=by
 rw[<-lh (bf:=bf) (M:=M) (M':=M') (ks:=[]) fun a ha _=>⟨rfl,c a ha⟩];exact s
def RowsP (h:Hp)(n:Nat)(bf:Nat->Nat)(M:Nat->List Rat):Prop:=∀ a,a<n->SlO 5 qc 0 h (some ⟨bf a,0,none⟩) (M a)
theorem RowsP.gw {h c:Hp}{n:Nat}{bf:Nat->Nat}{M:Nat->List Rat}(x:RowsP h n bf M)(u:Gw h c):RowsP c n bf M:=fun a ha=>(x a ha).gw u
theorem SS.pubL:∀ {c:List Nat} {h:Hp} {F:List (Hp->Prop)},SS w0 h0 w h (P++c.map (FX bf M)) R F->∃ h',SS w0 h0 w h' P R ((fun h=>∀ a,a∈c->SlO 5 qc 0 h (some ⟨bf a,0,none⟩) (M a))::F)
  | [],h,F,s=>⟨h,(show SS w0 h0 w h P R F by rw[<-List.append_nil P];exact s).add (K:=fun h=>∀ a,a∈([]:List Nat)->SlO 5 qc 0 h (some ⟨bf a,0,none⟩) (M a)) (fun a ha=>absurd ha (by simp)) (fun _ _ _ _ a ha=>absurd ha (by simp))⟩
  | a::c,h,F,s=>by
    have z:SS w0 h0 w h (FX bf M a::(P++c.map (FX bf M))) R F:=s.permBR g4 (List.Perm.refl R);obtain ⟨h1,i,j,_,_⟩:=z.pub 0 rfl;replace i:SS w0 h0 w h1 (P++c.map (FX bf M)) R F:=i;replace j:Seg h1 (bf a) 0 ((M a).flatMap qc):=j;obtain ⟨y,p⟩:=SS.pubL (i.a_SlO (SlO.of_flat (sz:=5) (f:=qc) (d:=0) (b:=bf a) (o:=0) (l:=M a) (fun _=>rfl) j));refine ⟨y,p.tl.tl.add (K:=fun h=>∀ x,x∈a::c->SlO 5 qc 0 h (some ⟨bf x,0,none⟩) (M x)) (fun x e=>?_) (fun _ _ u k x e=>(k x e).gw u)⟩
    rcases hC.1 e with rfl|e
    . exact p.f.2.1
    . exact p.f.1 x e
theorem SS.pubT (s:SS w0 h0 w h (P++iS n [] bf M) R F):∃ c,SS w0 h0 w c P R ((fun h=>RowsP h n bf M)::F):=by
 obtain ⟨c,k⟩:=SS.pubL s;refine ⟨c,k.tl.add (K:=fun h=>RowsP h n bf M) (fun a ha=>k.f.1 a (PT.2 ⟨pa.2 ha,decide_eq_true (by simp)⟩))⟩
end
def eD (bf:Nat->Nat)(N k:Nat):List Value:=(o2 N).map fun a=>if a<k then .slice (some ⟨bf a,0,none⟩) N N else .slice none 0 0
theorem jq (bf:Nat->Nat)(N k):(eD bf N k).length=N:=by simp[eD]
theorem K3 (bf:Nat->Nat)(N):Af N (.slice none 0 0:Value)=eD bf N 0:=by
 refine O1 (by simp[eD]) fun a h1 c=>by simp[eD]
theorem iw {bf:Nat->Nat}{N k a:Nat}(h:a<k)(hk:k<=N):(eD bf N k).getD a undef=.slice (some ⟨bf a,0,none⟩) N N:=by
 have:a<N:=by omega
 simp[eD,this,h]
theorem Ee {bf bg:Nat->Nat}{N k b:Nat}(c:bg k=b)(h:∀ a,a<k->bf a=bg a):(eD bf N k).set k (.slice (some ⟨b,0,none⟩) N N)=eD bg N (k+1):=by
 subst c;refine O1 (by simp[eD]) fun a h1 d=>?_
 rw[PQ];split
 ·rename_i e;subst e;simp[eD]
 ·rename_i e
  simp only[eD,List.getElem_map,List.getElem_range];by_cases h3:a<k
  ·rw[if_pos h3,if_pos oM,h a h3]
  ·rw[if_neg h3,if_neg oM]
def HW (bf:Nat->Nat)(k b a:Nat):Nat:=if a=k then b else bf a
theorem GZ (bf:Nat->Nat)(k b):HW bf k b k=b:=if_pos rfl
theorem IK {bf:Nat->Nat}{k b a:Nat}(h:a<k):bf a=HW bf k b a:=(if_neg oM).symm
section
variable {ix:ByteArray->Nat}{fs ws:List Rat}{m:Nat}
theorem DV {op n:Int}{x y:Int × List Rat}(h:(oo m op n x y).1≠0):(oo m op n x y).2=[]:=by
 by_cases c1:x.1=0
 ·by_cases c2:y.1=0
  ·by_cases c3:dV op n (x.2.getD 0 0) (y.2.getD 0 0)=0
   ·rw[ke c1 c2 c3] at h;exact absurd rfl h
   ·rw[km c1 c2 c3]
  ·rw[o8 c1 c2]
 ·rw[jO c1]
theorem EZ:∀ {d:Nat} {t:Tm},(aR ix fs ws m d t).1≠0->(aR ix fs ws m d t).2=[]
  | 0,_,_=>rfl
  | d + 1,t,h=>by
    unfold aR at h ⊢
    split
    . rename_i k;rw[if_pos k] at h;exact absurd rfl h
    . rename_i k;rw[if_neg k] at h
      split
      . rename_i k2;rw[if_pos k2] at h;exact absurd rfl h
      . rename_i k2;rw[if_neg k2] at h;exact DV h
end
theorem vx (n i j k):LQ 1 ((fD n i j).getD k 0):=by
 by_cases h:k<n
 ·rw[qG h];split
  ·exact LQ.int (z:=1) kD kD
  ·exact o7 (ek 1)
 ·rw[dX (by rw[jg];omega)];exact o7 (ek 1)
theorem Lw {n:Nat}(i):LQ 1 ((Af n (0:Rat)).getD i 0):=by rw[iU];exact o7 (ek 1)
def AK (ns:List ByteArray)(fs:List Rat)(d:Nat)(t:Tm)(i j:Nat):Rat:=(aR (aY ns) fs (fD ns.length i j) 3 d t).2.getD 2 0
structure SecN (h:Hp) (e:Int) (A:Z9) (n N:Nat) (b:Nat->Nat->Rat):Prop where
  z:e≠0->n=0
  s:e=0->n=N
  get:e=0->∃ bf,SlO 1 vc undef h A (eD bf N N)/\RowsP h N bf (fun a=>bE N (dI b N N a))
theorem SecN.bad {h:Hp}{e:Int}{A:Z9}{N:Nat}{b:Nat->Nat->Rat}(k:e≠0):SecN h e A 0 N b:=⟨fun _=>rfl,fun j=>absurd j k,fun j=>absurd j k⟩
theorem SecN.good {h:Hp}{e:Int}{A:Z9}{N:Nat}{b:Nat->Nat->Rat}(k:e=0)(x:∃ bf,SlO 1 vc undef h A (eD bf N N)/\RowsP h N bf (fun a=>bE N (dI b N N a))):SecN h e A N N b:=⟨fun j=>absurd k j,fun _=>rfl,fun _=>x⟩
theorem CS (d p t)(hd:d<=7)(D x ns)(y:NsD ns)(fs)(B:fs.length=ns.length)(C O)(hq:∀ i,LQ 1 (fs.getD i 0))(e:ol dq d t/\(∀ i,i<ns.length->dq (ns.getD i ⟨#[]⟩)=true)/\(∀ s,fJ d t s->s∈ns)/\ns.Nodup)(b:Nat->Nat->Rat)(U:b=AK ns fs d t)(W kt ks L i j)(hi_:i<ns.length)(hj_:j<ns.length)(hz:(aR (aY ns) fs (fD ns.length i j) 3 d t).1=0)(w h)(g:G w h)(hT:TmH d h p t)(hN:SlO 1 bA ⟨#[]⟩ h D ns)(hF:Sq C fs h)(tb:Tab h)(J:Seg h W 0 ([nV ns.length]))(Q:Seg h kt 0 (pC p))(S:Seg h ks 0 ([.slice D ns.length x]))(I:Seg h L 0 ([.slice C fs.length O])):CV 23 #[nV i,nV j,pB W,pB kt,pB ks,pB L] w h (qv (b i j)):=by
 have a:=(((((((((sS g).add (K:=fun V=>TmH d V p t) hT).aS hN).aS hF).add (K:=fun V=>Tab V) tb).a_Seg J).a_Seg Q).a_Seg S).a_Seg I);have bb:=y.len;have Z:=jg ns.length i j;have bd:(aR (aY ns) fs (fD ns.length i j) (2+1) d t).2.length=3:=d7 (oz (M:=True) ⟨e.1,trivial,e.2⟩) hz;refine go Tryz.func23 [(0,nV i),(1,nV j),(2,pB W),(3,pB kt),(4,pB ks),(5,pB L)] rfl (aA (lA 8 48 a6 a (fun F w2 h3 a=>aG (lH 12 (nV ns.length) a a.f.r.2.1 ?_))));refine lK 13 48 ns.length 5 56 cA qc 0 a (fun u w5 h6 a=>?_);have X:(Af ns.length (0:Rat)).length=ns.length:=by simp
 refine lL a ac (aG (lL a ax (ar 16 a (vh (1) kD kD _ _ a.g) (fun w8 h9 a=>lX 17 (sB u) ns.length ns.length 5 (i:Nat) i rfl (lW 0 (Af ns.length (0:Rat)) qc 5 i ((1:Int):Rat) a oM (fun _ a=>?_))))));have za:((Af ns.length (0:Rat)).set i ((1:Int):Rat)).length=ns.length:=by rw[NI];exact X
 replace a:=a.to [⟨u,48,((Af ns.length (0:Rat)).set i ((1:Int):Rat)).flatMap qc⟩,⟨F,48,[qF,uV 0,eS,uV 0,eS]⟩] [];refine aG (lL a ax (ar 20 a (vh (1) kD kD _ _ a.g) (fun _ _ a=>lX 21 (sB u) ns.length ns.length 5 (j:Nat) j rfl (lW 0 ((Af ns.length (0:Rat)).set i ((1:Int):Rat)) qc 5 j ((1:Int):Rat) a oM (fun _ a=>?_)))));have bl:(((Af ns.length (0:Rat)).set i ((1:Int):Rat)).set j ((1:Int):Rat)).length=ns.length:=by rw[NI];exact za
 replace a:=a.to [⟨u,48,(((Af ns.length (0:Rat)).set i ((1:Int):Rat)).set j ((1:Int):Rat)).flatMap qc⟩,⟨F,48,[qF,uV 0,eS,uV 0,eS]⟩] [];refine lN ?_;replace a:=a.to [⟨u,48,((fD ns.length i j)).flatMap qc⟩,⟨F,48,[qF,uV 0,eS,uV 0,eS]⟩] [];obtain ⟨_,a,z,bj,bk⟩:=a.pub 0;replace a:=(a.to [⟨F,48,[qF,uV 0,eS,uV 0,eS]⟩] []).aS (SlO.of_flat (sz:=5) (f:=qc) (d:=0) (b:=u) (o:=0) (l:=(fD ns.length i j)) (fun _=>rfl) z);refine aA (lH 23 (bW p) a a.f.r.2.1 ?_);refine lH 24 (qS D ns.length x) a a.f.r.1 (lH 25 (qS C fs.length O) a a.f.2.1 (lL a ac (lC 27 a ((by have Y:=nH d p t hd D x ns y fs (fD ns.length i j) C O (sB u) ns.length 2 kD oM (Eq.trans (jg _ i j) B.symm) hq (vx _ i j) ⟨e.1,⟨B,(jg _ i j)⟩,e.2⟩ _ _ a.g a.f.q.q.1 a.f.q.r.2.1 a.f.q.r.1 a.f.1 (a.f.q.2.1);rw[jg] at Y;exact Y)) ?_)));rintro _ _ _ a ⟨Ax,cx,rfl,H⟩;replace a:=a.aS H;refine lL a [.c,.v (qS Ax ((aR (aY ns) fs (fD ns.length i j) (2+1) d t).2.length) cx),.v (iV ((aR (aY ns) fs (fD ns.length i j) (2+1) d t).1)),.c,.c] (aG (lL a ac (lX 31 Ax ((aR (aY ns) fs (fD ns.length i j) (2+1) d t).2.length) cx 5 2 2 ((a.f.1).ok oM) ?_)));exact lH 32 (qv (((aR (aY ns) fs (fD ns.length i j) (2+1) d t).2).getD 2 0)) a ((a.f.1).el 2 oM) (lP 0 0 (qc (((aR (aY ns) fs (fD ns.length i j) (2+1) d t).2).getD 2 0)) a (fun _ a=>ae a [(0,0,5)] (qv (((aR (aY ns) fs (fD ns.length i j) (2+1) d t).2).getD 2 0)) (by rw[U];rfl)))
theorem BK (d p t)(hd:d<=7)(I C ns)(Y:NsD ns)(fs)(X:fs.length=ns.length)(F H)(hq:∀ i,LQ 1 (fs.getD i 0))(D:ol dq d t/\(∀ i,i<ns.length->dq (ns.getD i ⟨#[]⟩)=true)/\(∀ s,fJ d t s->s∈ns)/\ns.Nodup)(b:Nat->Nat->Rat)(hb_:b=AK ns fs d t)(e0)(L:∀ ws,(aR (aY ns) fs ws (2+1) d t).1=e0)(O:∀ i j,LQ 15000000 (b i j))(w h)(g:G w h)(hT:TmH d h p t)(hS:SmT1 gG d t)(hN:SlO 1 bA ⟨#[]⟩ h I ns)(hF:Sq F fs h)(tb:Tab h):CR 8 #[bW p,.slice I ns.length C,.slice F fs.length H] w h (fun v h1=>∃ (A_:Z9)(n_ c_:Nat),v=.tuple #[.slice A_ n_ c_,iV e0]/\SecN h1 e0 A_ n_ ns.length (b)):=by
 have u:=(((((sS g).add (K:=fun y=>TmH d y p t) hT).aS hN).aS hF).add (K:=fun y=>Tab y) tb);have c4:=Y.len;have bk:DckR d t ns (fs.length=ns.length) 0:=HR D.1.1 D.1.2 X D.2.1 (oz (M:=True) ⟨D.1,trivial,D.2⟩) D.2.2.2;refine go Tryz.func8 [(0,bW p),(1,qS I ns.length C),(2,qS F fs.length H)] rfl (aA (lA 3 51 (dd p) u (fun U w2 h3 u=>lA 4 34 ([qS I ns.length C]) u (fun S w5 h6 u=>lA 5 53 ([qS F fs.length H]) u (fun Q w8 h9 u=>lL u ax (ag (aa u [.o (bW p) 2 0 9,.o (qS I ns.length C) 1 0 1,.o (qS F fs.length H) 0 0 1] (lR 21 53 1 ([qS F fs.length H]) u (fun zc _ _ u=>?_)))))))));replace u:=u.aS (SlO.of_flat (sz:=1) (f:=vc) (d:=undef) (b:=zc) (o:=0) (l:=([qS F fs.length H]:List Value)) (fun _=>rfl) u.f.1);refine lC 22 u (pJ d p t oM I C ns Y (sB zc) 1 F fs.length H oM _ _ u.g u.f.q.2.1 hS u.f.q.1 u.f.1) ?_;rintro _ _ _ u ⟨ec,rfl,hec⟩;have cp:ec=0:=hec.uniq bk;refine lL u ac (aG (lL u ac ?_));cases zf:((ec:Int) != (0:Int))
 .
  have zn:=aU zf;refine lB 24 zf (ah (cK (aa u [.o (qS I ns.length C) 1 0 1,.v (nV ns.length)] (lA 9 3 ([iV 0]) u (fun J _ _ u=>lP 0 0 ([nV ns.length]) u (fun _ u=>ag (cQ (cR 9 [] mixed u ao ?_))))))));refine eO 0 29 [(3,0,9)] (bW p) u (eO 1 30 [(2,0,1)] (qS I ns.length C) u (eO 2 31 [(1,0,1)] (qS F fs.length H) u (eO 3 32 [(0,0,1)] (nV ns.length) u (eR 4 33 48 ns.length ((Af ns.length (0:Rat)).flatMap qc) u (fun Z _ _ u=>?_) (hv:=qJ (z:=.agg #[qF,uV 0,eS,uV 0,eS]) (sz:=5) (bt:=56) (f:=qc) (x0:=(0:Rat)) (m:=ns.length) kR kR kR kD oM oM)))));replace u:=u.aS (SlO.of_flat (sz:=5) (f:=qc) (d:=0) (b:=Z) (o:=0) (l:=(Af ns.length (0:Rat))) (fun _=>rfl) u.f.1);refine eC 5 34 u (fun _ _ u=>(by have q_:=nH d p t hd I C ns Y fs (Af ns.length (0:Rat)) F H (sB Z) ns.length 2 kD oM (Eq.trans (O4) X.symm) hq Lw ⟨D.1,⟨X,(O4)⟩,D.2⟩ _ _ u.g u.f.q.r.2.1 u.f.q.r.1 u.f.q.2.1 u.f.1 (u.f.q.1);rw[O4] at q_;exact q_)) ?_;rintro _ _ _ _ _ u ⟨Ax,cx,rfl,hSx⟩;replace u:=u.aS hSx;refine eV 6 28 (.tuple #[qS Ax ((aR (aY ns) fs (Af ns.length (0:Rat)) (2+1) d t).2.length) cx,iV ((aR (aY ns) fs (Af ns.length (0:Rat)) (2+1) d t).1)]) (eV 7 35 (qS Ax ((aR (aY ns) fs (Af ns.length (0:Rat)) (2+1) d t).2.length) cx) (eV 8 36 (iV ((aR (aY ns) fs (Af ns.length (0:Rat)) (2+1) d t).1)) (bM u (fun _ _ u=>tV 9 10 (qS Ax ((aR (aY ns) fs (Af ns.length (0:Rat)) (2+1) d t).2.length) cx) (tV 10 11 (iV ((aR (aY ns) fs (Af ns.length (0:Rat)) (2+1) d t).1)) (rm (lL u ac ?_)))))));cases zg:(((aR (aY ns) fs (Af ns.length (0:Rat)) (2+1) d t).1:Int) != (0:Int))
  .
   have zo:=aU zg;refine lB 38 zg (ah (cK (aA ?_)));have W:e0=0:=by rw[<-L (Af ns.length (0:Rat))];omega
   obtain ⟨zw,u,b5,-,-⟩:=u.pub 0;replace u:=u.to [⟨Q,53,[qS F fs.length H]⟩,⟨S,34,[qS I ns.length C]⟩,⟨U,51,dd p⟩] [];have bn:Seg zw J 0 ([nV ns.length]):=b5;replace u:=u.a_Seg bn;obtain ⟨zx,u,cd,-,-⟩:=u.pub 2;replace u:=u.to [⟨Q,53,[qS F fs.length H]⟩,⟨S,34,[qS I ns.length C]⟩] [];have b3:Seg zx U 0 (dd p):=cd;replace u:=u.a_Seg b3;obtain ⟨zA,u,b6,-,-⟩:=u.pub 1;replace u:=u.to [⟨Q,53,[qS F fs.length H]⟩] [];have bq:Seg zA S 0 ([qS I ns.length C]):=b6;replace u:=u.a_Seg bq;obtain ⟨zB,u,b9,-,-⟩:=u.pub 0;replace u:=u.to [] [];have b2:Seg zB Q 0 ([qS F fs.length H]):=b9;replace u:=u.a_Seg b2;refine lL u [.v (.func (.func 23) #[] #[pB J,pB U,pB S,pB Q]),.c] (aG (lH 41 (nV ns.length) u u.f.r.2.1 ?_));refine lK 42 53 ns.length 1 24 (sZ) vc (sZ:Value) u (fun B _ zD u=>?_);have df:(Af ns.length (sZ:Value)).length=ns.length:=by simp
   refine lL u ac (ag ?_);rw[K3 (fun _=>0)] at u
   replace u:=u.to ([⟨B,53,((eD (fun _=>0) ns.length 0)).flatMap vc⟩]++iS 0 [] (fun _=>0) (fun a=>bE ns.length (dg b 0 0 a))) [];refine aA (lH 43 (nV ns.length) u u.f.r.2.1 ?_);refine lL u ac (aZ ?_);refine bH _ (CG.loop (fun V Γ w_=>∃ (k:Nat)(bf:Nat->Nat)(y:Hp),V=ns.length-k/\Γ=[(6,sZ),(7,iV 0),(9,pB J),(12,.func (.func 23) #[] #[pB J,pB U,pB S,pB Q]),(13,qS (sB B) ns.length ns.length),(43,nV ns.length),(44,nV k)]/\SS w h w_ y ([⟨B,53,((eD bf ns.length k)).flatMap vc⟩]++iS k [] bf (fun a=>bE ns.length (dg b 0 0 a))) [] [fun y=>Seg y Q 0 ([qS F fs.length H]),fun y=>Seg y S 0 ([qS I ns.length C]),fun y=>Seg y U 0 (dd p),fun y=>Seg y J 0 ([nV ns.length]),Sq Ax (aR (aY ns) fs (Af ns.length (0:Rat)) (2+1) d t).2,Sq (sB Z) (Af ns.length (0:Rat)),fun y=>Seg y Z 0 ((Af ns.length (0:Rat)).flatMap qc),Sv (sB zc) ([qS F fs.length H]:List Value),fun y=>Seg y zc 0 ([qS F fs.length H]),fun y=>Tab y,Sq F fs,fun y=>SlO 1 bA ⟨#[]⟩ y I ns,fun y=>TmH d y p t]/\k<=ns.length) _ ⟨0,(fun _=>0),zD,rfl,rfl,u.to _ _,NY _⟩ ?_);rintro _ _ _ ⟨k,bf,zE,dc,rfl,u,hk⟩;have c5:=jq bf ns.length k;refine aA ?_;cases zi:(decide ((k:Int)<(ns.length:Int)))
   .
    have zp:=oF zi;refine lB 45 zi (ag (dE (CG.exit ?_)))
    show CG _ _ _ _ _ _ _ _
    refine cQ ?_;have hkN:k=ns.length:=by omega
    rw[hkN] at u;replace u:=u.to ([⟨B,53,((eD bf ns.length ns.length)).flatMap vc⟩]++iS ns.length [] bf (fun a=>bE ns.length (dg b 0 0 a))) [];have c8:=jq bf ns.length ns.length;refine aA (lH 63 (nV ns.length) u u.f.r.2.1 ?_);refine lL u ac (aZ ?_);refine bH _ (CG.loop (fun V Γ w_=>∃ (i:Nat)(y:Hp),V=ns.length-i/\Γ=[(6,sZ),(7,iV 0),(9,pB J),(12,.func (.func 23) #[] #[pB J,pB U,pB S,pB Q]),(13,qS (sB B) ns.length ns.length),(63,nV ns.length),(64,nV i)]/\SS w h w_ y ([⟨B,53,((eD bf ns.length ns.length)).flatMap vc⟩]++iS ns.length [] bf (fun a=>bE ns.length (dg b i 0 a))) [] [fun y=>Seg y Q 0 ([qS F fs.length H]),fun y=>Seg y S 0 ([qS I ns.length C]),fun y=>Seg y U 0 (dd p),fun y=>Seg y J 0 ([nV ns.length]),Sq Ax (aR (aY ns) fs (Af ns.length (0:Rat)) (2+1) d t).2,Sq (sB Z) (Af ns.length (0:Rat)),fun y=>Seg y Z 0 ((Af ns.length (0:Rat)).flatMap qc),Sv (sB zc) ([qS F fs.length H]:List Value),fun y=>Seg y zc 0 ([qS F fs.length H]),fun y=>Tab y,Sq F fs,fun y=>SlO 1 bA ⟨#[]⟩ y I ns,fun y=>TmH d y p t]/\i<=ns.length) _ ⟨0,zE,rfl,rfl,u.to _ _,NY _⟩ ?_);rintro _ _ _ ⟨i,zu,dp,rfl,u,hi_⟩;refine aA ?_;cases zj:(decide ((i:Int)<(ns.length:Int)))
    .
     have zq:=oF zj;refine lB 65 zj (ag (dE (CG.exit ?_)))
     show CG _ _ _ _ _ _ _ _
     refine cQ ?_;have br:i=ns.length:=by omega
     replace u:=SS.cgT (P:=[⟨B,53,((eD bf ns.length ns.length)).flatMap vc⟩]) (n:=ns.length) (bf:=bf) (M:=(fun a=>bE ns.length (dg b i 0 a))) (by exact u) (fun a=>bE ns.length (dI b ns.length 0 a)) (fun _ _=>by show bE _ _=_;rw[br];exact Kq);replace u:=u.to ([⟨B,53,((eD bf ns.length ns.length)).flatMap vc⟩]++iS ns.length [] bf (fun a=>bE ns.length (dI b ns.length 0 a))) [];refine aA (lH 112 (nV ns.length) u u.f.r.2.1 ?_);refine lL u ac (aZ ?_);refine bH _ (CG.loop (fun V Γ w_=>∃ (m:Nat)(y:Hp),V=ns.length-m/\Γ=[(6,sZ),(7,iV 0),(13,qS (sB B) ns.length ns.length),(112,nV ns.length),(113,nV m)]/\SS w h w_ y ([⟨B,53,((eD bf ns.length ns.length)).flatMap vc⟩]++iS ns.length [] bf (fun a=>bE ns.length (dI b ns.length m a))) [] [fun y=>Seg y Q 0 ([qS F fs.length H]),fun y=>Seg y S 0 ([qS I ns.length C]),fun y=>Seg y U 0 (dd p),fun y=>Seg y J 0 ([nV ns.length]),Sq Ax (aR (aY ns) fs (Af ns.length (0:Rat)) (2+1) d t).2,Sq (sB Z) (Af ns.length (0:Rat)),fun y=>Seg y Z 0 ((Af ns.length (0:Rat)).flatMap qc),Sv (sB zc) ([qS F fs.length H]:List Value),fun y=>Seg y zc 0 ([qS F fs.length H]),fun y=>Tab y,Sq F fs,fun y=>SlO 1 bA ⟨#[]⟩ y I ns,fun y=>TmH d y p t]/\m<=ns.length) _ ⟨0,zu,rfl,rfl,u.to _ _,NY _⟩ ?_);rintro _ _ _ ⟨m,_,dm,rfl,u,hm_⟩;refine aA ?_;cases zk:(decide ((m:Int)<(ns.length:Int)))
     .
      have zr:=oF zk;refine lB 114 zk (ag (dE (CG.exit ?_)))
      show CG _ _ _ _ _ _ _ _
      refine aa u cG (lN (kX ?_));have b0:m=ns.length:=by omega
      rw[b0] at u;obtain ⟨_,u⟩:=SS.pubT (P:=[⟨B,53,((eD bf ns.length ns.length)).flatMap vc⟩]) (n:=ns.length) (bf:=bf) (M:=(fun a=>bE ns.length (dI b ns.length ns.length a))) (by exact u);replace u:=u.to [⟨B,53,((eD bf ns.length ns.length)).flatMap vc⟩] [];obtain ⟨_,u,bz,dn,cy⟩:=u.pub 0;replace u:=(u.to [] []).aS (SlO.of_flat (sz:=1) (f:=vc) (d:=undef) (b:=B) (o:=0) (l:=(eD bf ns.length ns.length)) (fun _=>rfl) bz);exact u.ret [] (.tuple #[qS (sB B) ns.length ns.length,iV 0]) (⟨_,_,_,by rw[W],.good W ⟨bf,u.f.1,u.f.2.1⟩⟩)
     have zr:=oT zk;refine lB 114 zk (ag (ck (cK (cQ (kZ (aa u ax (lN ?_)))))));have bb:m<ns.length:=by omega
     replace u:=SS.outR (P:=[⟨B,53,((eD bf ns.length ns.length)).flatMap vc⟩]) (n:=ns.length) (ks:=[]) (bf:=bf) (M:=(fun a=>bE ns.length (dI b ns.length m a))) (by exact u) m oM (by simp);obtain ⟨bm,hbm⟩:∃ x,bf m=x:=⟨_,rfl⟩;rw[hbm] at u
     have ds:=eM ns.length (dI b ns.length m m);replace u:=u.to ([⟨bm,48,(bE ns.length (dI b ns.length m m)).flatMap qc⟩,⟨B,53,((eD bf ns.length ns.length)).flatMap vc⟩]++iS ns.length [m] bf (fun a=>bE ns.length (dI b ns.length m a))) [];refine cR 14 [] mixed u ao (eV 0 116 (qS (sB B) ns.length ns.length) (eV 1 117 (nV m) (eX 2 118 (sB B) ns.length ns.length 1 (m:Nat) m rfl (eQ 3 119 1 (eD bf ns.length ns.length) vc 1 undef m ((eD bf ns.length ns.length).getD m undef) u oM ?_))));rw[iw (bf:=bf) (N:=ns.length) (k:=ns.length) (a:=m) oM oM,hbm];refine eV 4 120 (nV m) (eV 5 121 (qS (sB B) ns.length ns.length) (eV 6 122 (nV m) (eX 7 123 (sB B) ns.length ns.length 1 (m:Nat) m rfl (eQ 8 124 1 (eD bf ns.length ns.length) vc 1 undef m ((eD bf ns.length ns.length).getD m undef) u oM ?_))));rw[iw (bf:=bf) (N:=ns.length) (k:=ns.length) (a:=m) oM oM,hbm];refine eV 9 125 (nV m) (eX 10 126 (sB bm) ns.length ns.length 5 (m:Nat) m rfl (eQ 11 127 0 (bE ns.length (dI b ns.length m m)) qc 5 0 m (qv ((bE ns.length (dI b ns.length m m)).getD m 0)) u oM (au 12 128 u (fun _ _ u=>vh (2) kD kD _ _ u.g) (fun _ _ u=>?_))));have cw:=LQ.mul (show LQ 15000000 ((bE ns.length (dI b ns.length m m)).getD m 0) by rw[fT _ oM,qB];exact O m m) (LQ.lit (z:=2) kD);refine au 13 129 u (fun _ _ u=>qH ((bE ns.length (dI b ns.length m m)).getD m 0) ((2:Int):Rat) (LQ.mono (show LQ 15000000 ((bE ns.length (dI b ns.length m m)).getD m 0) by rw[fT _ oM,qB];exact O m m) oM) (LQ.mono (LQ.lit (z:=2) kD) oM) _ _ u.g u.f.q.q.2.1) (fun _ _ u=>bM u (fun _ zG u=>tX 14 130 (sB bm) ns.length ns.length 5 (m:Nat) m rfl (tW 15 0 (bE ns.length (dI b ns.length m m)) qc 5 m (((bE ns.length (dI b ns.length m m)).getD m 0)*((2:Int):Rat)) u oM (fun _ u=>?_))));have cq:((bE ns.length (dI b ns.length m m)).set m (((bE ns.length (dI b ns.length m m)).getD m 0)*((2:Int):Rat))).length=ns.length:=by rw[NI];exact (eM _ _)
     replace u:=u.to ([⟨bm,48,((bE ns.length (dI b ns.length m m)).set m (((bE ns.length (dI b ns.length m m)).getD m 0)*((2:Int):Rat))).flatMap qc⟩,⟨B,53,((eD bf ns.length ns.length)).flatMap vc⟩]++iS ns.length [m] bf (fun a=>bE ns.length (dI b ns.length m a))) [];refine tN ?_;replace u:=SS.innR (P:=[⟨B,53,((eD bf ns.length ns.length)).flatMap vc⟩]) (n:=ns.length) (ks:=[]) (bf:=bf) (M:=(fun a=>bE ns.length (dI b ns.length m a))) (by exact u) hbm bb (by simp) (fun a=>bE ns.length (dI b ns.length (m+1) a)) (by show bE _ _=_;rw[fT _ bb,qB];exact row_k.symm) (fun a _ hk_=>Ju (fun e=>hk_ (by simp[e])));replace u:=u.to ([⟨B,53,((eD bf ns.length ns.length)).flatMap vc⟩]++iS ns.length [] bf (fun a=>bE ns.length (dI b ns.length (m+1) a))) [];refine kQ (bw 131 ((m:Nat)+1) (m+1) ?_);refine lL u ac (lD ?_);intro a_ ka;refine ⟨_,_,?_,⟨m+1,zG,rfl,rfl,u.to _ _,oM⟩,ka.to _ kR⟩
     omega
    have zq:=oT zj;refine lB 65 zj (ag (ck (cK (cQ (kZ (aa u ax (aG (lL u ax (aZ ?_)))))))));refine bH _ (CG.loop (fun V Γ w_=>∃ (j:Nat)(y:Hp),V=i-j/\Γ=[(6,sZ),(7,iV 0),(9,pB J),(12,.func (.func 23) #[] #[pB J,pB U,pB S,pB Q]),(13,qS (sB B) ns.length ns.length),(63,nV ns.length),(64,nV i),(15,nV i),(67,nV i),(68,nV j)]/\SS w h w_ y ([⟨B,53,((eD bf ns.length ns.length)).flatMap vc⟩]++iS ns.length [] bf (fun a=>bE ns.length (dg b i j a))) [] [fun y=>Seg y Q 0 ([qS F fs.length H]),fun y=>Seg y S 0 ([qS I ns.length C]),fun y=>Seg y U 0 (dd p),fun y=>Seg y J 0 ([nV ns.length]),Sq Ax (aR (aY ns) fs (Af ns.length (0:Rat)) (2+1) d t).2,Sq (sB Z) (Af ns.length (0:Rat)),fun y=>Seg y Z 0 ((Af ns.length (0:Rat)).flatMap qc),Sv (sB zc) ([qS F fs.length H]:List Value),fun y=>Seg y zc 0 ([qS F fs.length H]),fun y=>Tab y,Sq F fs,fun y=>SlO 1 bA ⟨#[]⟩ y I ns,fun y=>TmH d y p t]/\j<=i) _ ⟨0,zu,rfl,rfl,u.to _ _,NY _⟩ ?_);rintro _ _ _ ⟨j,zH,c9,rfl,u,hj_⟩;refine aA ?_;cases zl:(decide ((j:Int)<(i:Int)))
    .
     have zs:=oF zl;refine lB 69 zl (ag (dE (CG.exit ?_)))
     show CG _ _ _ _ _ _ _ _
     have bl:j=i:=by omega
     replace u:=SS.cgT (P:=[⟨B,53,((eD bf ns.length ns.length)).flatMap vc⟩]) (n:=ns.length) (bf:=bf) (M:=(fun a=>bE ns.length (dg b i j a))) (by exact u) (fun a=>bE ns.length (dg b (i+1) 0 a)) (fun _ _=>Jz bl);replace u:=u.to ([⟨B,53,((eD bf ns.length ns.length)).flatMap vc⟩]++iS ns.length [] bf (fun a=>bE ns.length (dg b (i+1) 0 a))) [];refine kQ (bw 111 ((i:Nat)+1) (i+1) ?_);refine lL u ac (lD ?_);intro a_ ka;refine ⟨_,_,?_,⟨i+1,zH,rfl,rfl,u.to _ _,oM⟩,ka.to _ kR⟩
     omega
    have zs:=oT zl;refine lB 69 zl (ag (ck (cK (cQ (kZ (aa u ax (ag ?_)))))));have bd:j<i:=by omega
    replace u:=SS.outR (P:=[⟨B,53,((eD bf ns.length ns.length)).flatMap vc⟩]) (n:=ns.length) (ks:=[]) (bf:=bf) (M:=(fun a=>bE ns.length (dg b i j a))) (by exact u) i oM (by simp);obtain ⟨bi,hbi⟩:∃ x,bf i=x:=⟨_,rfl⟩;rw[hbi] at u
    have cr:=eM ns.length (dg b i j i);replace u:=u.to ([⟨bi,48,(bE ns.length (dg b i j i)).flatMap qc⟩,⟨B,53,((eD bf ns.length ns.length)).flatMap vc⟩]++iS ns.length [i] bf (fun a=>bE ns.length (dg b i j a))) [];replace u:=SS.outR (P:=[⟨bi,48,(bE ns.length (dg b i j i)).flatMap qc⟩,⟨B,53,((eD bf ns.length ns.length)).flatMap vc⟩]) (n:=ns.length) (ks:=[i]) (bf:=bf) (M:=(fun a=>bE ns.length (dg b i j a))) (by exact u) j oM (by simp;omega);obtain ⟨bj,hbj⟩:∃ x,bf j=x:=⟨_,rfl⟩;rw[hbj] at u
    have c3:=eM ns.length (dg b i j j);replace u:=u.to ([⟨bj,48,(bE ns.length (dg b i j j)).flatMap qc⟩,⟨bi,48,(bE ns.length (dg b i j i)).flatMap qc⟩,⟨B,53,((eD bf ns.length ns.length)).flatMap vc⟩]++iS ns.length [j,i] bf (fun a=>bE ns.length (dg b i j a))) [];refine cR 25 [] mixed u ao (eV 0 71 (qS (sB B) ns.length ns.length) (eV 1 72 (nV i) (eX 2 73 (sB B) ns.length ns.length 1 (i:Nat) i rfl (eQ 3 74 2 (eD bf ns.length ns.length) vc 1 undef i ((eD bf ns.length ns.length).getD i undef) u oM ?_))));rw[iw (bf:=bf) (N:=ns.length) (k:=ns.length) (a:=i) oM oM,hbi];refine eV 4 75 (nV j) (eV 5 76 (.func (.func 23) #[] #[pB J,pB U,pB S,pB Q]) (eV 6 77 (nV i) (eV 7 78 (nV j) (eV 9 80 (qS (sB B) ns.length ns.length) (eV 10 81 (nV i) (eX 11 82 (sB B) ns.length ns.length 1 (i:Nat) i rfl (eQ 12 83 2 (eD bf ns.length ns.length) vc 1 undef i ((eD bf ns.length ns.length).getD i undef) u oM ?_)))))));rw[iw (bf:=bf) (N:=ns.length) (k:=ns.length) (a:=i) oM oM,hbi];refine eV 13 84 (nV i) (eX 14 85 (sB bi) ns.length ns.length 5 (i:Nat) i rfl (eQ 15 86 1 (bE ns.length (dg b i j i)) qc 5 0 i (qv ((bE ns.length (dg b i j i)).getD i 0)) u oM (eV 17 88 (qS (sB B) ns.length ns.length) (eV 18 89 (nV j) (eX 19 90 (sB B) ns.length ns.length 1 (j:Nat) j rfl (eQ 20 91 2 (eD bf ns.length ns.length) vc 1 undef j ((eD bf ns.length ns.length).getD j undef) u oM ?_))))));rw[iw (bf:=bf) (N:=ns.length) (k:=ns.length) (a:=j) oM oM,hbj];refine eV 21 92 (nV j) (eX 22 93 (sB bj) ns.length ns.length 5 (j:Nat) j rfl (eQ 23 94 0 (bE ns.length (dg b i j j)) qc 5 0 j (qv ((bE ns.length (dg b i j j)).getD j 0)) u oM (au 8 79 u (fun _ _ u=>CS d p t hd I C ns Y fs X F H hq D b hb_ J U S Q i j oM oM (by rw[L];exact W) _ _ u.g u.f.q.q.q.1 u.f.q.q.r.2.1 u.f.q.q.r.1 u.f.q.q.2.1 u.f.r.2.1 u.f.r.1 u.f.2.1 u.f.1) (fun _ _ u=>?_))));have zm:=LQ.sub (O i j) (show LQ 15000000 ((bE ns.length (dg b i j i)).getD i 0) by rw[fT _ oM,fv];exact O i i);refine au 16 87 u (fun _ _ u=>KU (b i j) ((bE ns.length (dg b i j i)).getD i 0) (LQ.mono (O i j) oM) (LQ.mono (show LQ 15000000 ((bE ns.length (dg b i j i)).getD i 0) by rw[fT _ oM,fv];exact O i i) oM) _ _ u.g u.f.q.q.2.1) (fun _ _ u=>?_);have cz:=LQ.sub zm (show LQ 15000000 ((bE ns.length (dg b i j j)).getD j 0) by rw[fT _ oM,fv];exact O j j);refine au 24 95 u (fun _ _ u=>KU ((b i j)-((bE ns.length (dg b i j i)).getD i 0)) ((bE ns.length (dg b i j j)).getD j 0) (LQ.mono zm oM) (LQ.mono (show LQ 15000000 ((bE ns.length (dg b i j j)).getD j 0) by rw[fT _ oM,fv];exact O j j) oM) _ _ u.g u.f.q.q.2.1) (fun _ _ u=>bM u (fun _ _ u=>tX 25 96 (sB bi) ns.length ns.length 5 (j:Nat) j rfl (tW 26 1 (bE ns.length (dg b i j i)) qc 5 j (((b i j)-((bE ns.length (dg b i j i)).getD i 0))-((bE ns.length (dg b i j j)).getD j 0)) u oM (fun _ u=>?_))));have c6:((bE ns.length (dg b i j i)).set j (((b i j)-((bE ns.length (dg b i j i)).getD i 0))-((bE ns.length (dg b i j j)).getD j 0))).length=ns.length:=by rw[NI];exact (eM _ _)
    replace u:=u.to ([⟨bj,48,(bE ns.length (dg b i j j)).flatMap qc⟩,⟨bi,48,((bE ns.length (dg b i j i)).set j (((b i j)-((bE ns.length (dg b i j i)).getD i 0))-((bE ns.length (dg b i j j)).getD j 0))).flatMap qc⟩,⟨B,53,((eD bf ns.length ns.length)).flatMap vc⟩]++iS ns.length [j,i] bf (fun a=>bE ns.length (dg b i j a))) [];refine tN (cR 12 [] mixed u ao ?_);refine eV 0 97 (qS (sB B) ns.length ns.length) (eV 1 98 (nV j) (eX 2 99 (sB B) ns.length ns.length 1 (j:Nat) j rfl (eQ 3 100 2 (eD bf ns.length ns.length) vc 1 undef j ((eD bf ns.length ns.length).getD j undef) u oM ?_)));rw[iw (bf:=bf) (N:=ns.length) (k:=ns.length) (a:=j) oM oM,hbj];refine eV 4 101 (nV i) (eV 5 102 (qS (sB B) ns.length ns.length) (eV 6 103 (nV i) (eX 7 104 (sB B) ns.length ns.length 1 (i:Nat) i rfl (eQ 8 105 2 (eD bf ns.length ns.length) vc 1 undef i ((eD bf ns.length ns.length).getD i undef) u oM ?_))));rw[iw (bf:=bf) (N:=ns.length) (k:=ns.length) (a:=i) oM oM,hbi];refine eV 9 106 (nV j) (eX 10 107 (sB bi) ns.length ns.length 5 (j:Nat) j rfl (eQ 11 108 1 ((bE ns.length (dg b i j i)).set j (((b i j)-((bE ns.length (dg b i j i)).getD i 0))-((bE ns.length (dg b i j j)).getD j 0))) qc 5 0 j (qv (((bE ns.length (dg b i j i)).set j (((b i j)-((bE ns.length (dg b i j i)).getD i 0))-((bE ns.length (dg b i j j)).getD j 0))).getD j 0)) u oM (bM u (fun _ zI u=>tX 12 109 (sB bj) ns.length ns.length 5 (i:Nat) i rfl (tW 13 0 (bE ns.length (dg b i j j)) qc 5 i (((bE ns.length (dg b i j i)).set j (((b i j)-((bE ns.length (dg b i j i)).getD i 0))-((bE ns.length (dg b i j j)).getD j 0))).getD j 0) u oM (fun _ u=>?_))))));have c7:((bE ns.length (dg b i j j)).set i (((bE ns.length (dg b i j i)).set j (((b i j)-((bE ns.length (dg b i j i)).getD i 0))-((bE ns.length (dg b i j j)).getD j 0))).getD j 0)).length=ns.length:=by rw[NI];exact (eM _ _)
    replace u:=u.to ([⟨bj,48,((bE ns.length (dg b i j j)).set i (((bE ns.length (dg b i j i)).set j (((b i j)-((bE ns.length (dg b i j i)).getD i 0))-((bE ns.length (dg b i j j)).getD j 0))).getD j 0)).flatMap qc⟩,⟨bi,48,((bE ns.length (dg b i j i)).set j (((b i j)-((bE ns.length (dg b i j i)).getD i 0))-((bE ns.length (dg b i j j)).getD j 0))).flatMap qc⟩,⟨B,53,((eD bf ns.length ns.length)).flatMap vc⟩]++iS ns.length [j,i] bf (fun a=>bE ns.length (dg b i j a))) [];refine tN (bH [(6,sZ),(7,iV 0),(9,pB J),(12,.func (.func 23) #[] #[pB J,pB U,pB S,pB Q]),(13,qS (sB B) ns.length ns.length),(63,nV ns.length),(64,nV i),(15,nV i),(67,nV i),(68,nV j)] ?_);replace u:=SS.innR (P:=[⟨bi,48,((bE ns.length (dg b i j i)).set j (((b i j)-((bE ns.length (dg b i j i)).getD i 0))-((bE ns.length (dg b i j j)).getD j 0))).flatMap qc⟩,⟨B,53,((eD bf ns.length ns.length)).flatMap vc⟩]) (n:=ns.length) (ks:=[i]) (bf:=bf) (M:=(fun a=>bE ns.length (dg b i j a))) (by exact u) hbj oM (by simp;omega) (fun a=>bE ns.length (dg b i (j+1) a)) (by show bE _ _=_;rw[cH (by rw[eM];omega),if_pos rfl,fT _ (show i<ns.length by omega),fT _ (show j<ns.length by omega),fv,fv];exact (Kb bd).symm) (fun a _ hk_=>KR (fun e=>hk_ (by simp[e])) (fun e=>hk_ (by simp[e])));replace u:=u.to ([⟨bi,48,((bE ns.length (dg b i j i)).set j (((b i j)-((bE ns.length (dg b i j i)).getD i 0))-((bE ns.length (dg b i j j)).getD j 0))).flatMap qc⟩,⟨B,53,((eD bf ns.length ns.length)).flatMap vc⟩]++iS ns.length [i] bf (fun a=>bE ns.length (dg b i (j+1) a))) [];replace u:=SS.innR (P:=[⟨B,53,((eD bf ns.length ns.length)).flatMap vc⟩]) (n:=ns.length) (ks:=[]) (bf:=bf) (M:=(fun a=>bE ns.length (dg b i (j+1) a))) (by exact u) hbi oM (by simp) (fun a=>bE ns.length (dg b i (j+1) a)) (by show bE _ _=_;rw[fT _ (show i<ns.length by omega),fT _ (show j<ns.length by omega),fv,fv];exact (JG bd).symm) (fun _ _ _=>rfl);replace u:=u.to ([⟨B,53,((eD bf ns.length ns.length)).flatMap vc⟩]++iS ns.length [] bf (fun a=>bE ns.length (dg b i (j+1) a))) [];refine kQ (bw 110 ((j:Nat)+1) (j+1) ?_);refine lL u ac (lD ?_);intro a_ ka;refine ⟨_,_,?_,⟨j+1,zI,rfl,rfl,u.to _ _,oM⟩,ka.to _ kR⟩
    omega
   have zp:=oT zi;refine lB 45 zi (ag (ck (cK (cQ (kZ (aa u ax (aG (lL u ax (lH 49 (nV ns.length) u u.f.r.2.1 ?_)))))))));refine lK 50 48 ns.length 5 56 cA qc 0 u (fun ze _ _ u=>?_);have zt:(Af ns.length (0:Rat)).length=ns.length:=by simp
   refine lX 51 (sB B) ns.length ns.length 1 (k:Nat) k rfl (lW 1 (eD bf ns.length k) vc 1 k (qS (sB ze) ns.length ns.length:Value) u oM (fun _ u=>?_));have cj:(((eD bf ns.length k)).set k (qS (sB ze) ns.length ns.length:Value)).length=ns.length:=by rw[NI];exact (jq _ _ _)
   replace u:=u.to ([⟨ze,48,(Af ns.length (0:Rat)).flatMap qc⟩,⟨B,53,(((eD bf ns.length k)).set k (qS (sB ze) ns.length ns.length:Value)).flatMap vc⟩]++iS k [] bf (fun a=>bE ns.length (dg b 0 0 a))) [];refine lN ?_;obtain ⟨bg,hbg⟩:∃ f,f=HW bf k ze:=⟨_,rfl⟩;have hbk:bg k=ze:=by rw[hbg];exact GZ _ _ _
   have hbo:∀ a,a<k->bf a=bg a:=fun a ha=>by rw[hbg];exact IK ha
   rw[Ee hbk hbo] at u;have ch:=jq bg ns.length (k+1);replace u:=u.to ([⟨ze,48,(Af ns.length (0:Rat)).flatMap qc⟩,⟨B,53,((eD bg ns.length (k+1))).flatMap vc⟩]++iS k [] bf (fun a=>bE ns.length (dg b 0 0 a))) [];refine cR 9 [] mixed u ao (eV 0 52 (qS (sB B) ns.length ns.length) (eV 1 53 (nV k) (eX 2 54 (sB B) ns.length ns.length 1 (k:Nat) k rfl (eQ 3 55 1 (eD bg ns.length (k+1)) vc 1 undef k ((eD bg ns.length (k+1)).getD k undef) u oM ?_))));rw[iw (bf:=bg) (N:=ns.length) (k:=(k+1)) (a:=k) oM oM,hbk];refine eV 4 56 (nV k) (eV 5 57 (.func (.func 23) #[] #[pB J,pB U,pB S,pB Q]) (eV 6 58 (nV k) (eV 7 59 (nV k) (au 8 60 u (fun _ _ u=>CS d p t hd I C ns Y fs X F H hq D b hb_ J U S Q k k oM oM (by rw[L];exact W) _ _ u.g u.f.q.q.q.1 u.f.q.q.r.2.1 u.f.q.q.r.1 u.f.q.q.2.1 u.f.r.2.1 u.f.r.1 u.f.2.1 u.f.1) (fun _ _ u=>bM u (fun _ zv u=>tX 9 61 (sB ze) ns.length ns.length 5 (k:Nat) k rfl (tW 10 0 (Af ns.length (0:Rat)) qc 5 k (b k k) u oM (fun _ u=>?_))))))));have cm:((Af ns.length (0:Rat)).set k (b k k)).length=ns.length:=by rw[NI];exact zt
   replace u:=u.to ([⟨ze,48,((Af ns.length (0:Rat)).set k (b k k)).flatMap qc⟩,⟨B,53,((eD bg ns.length (k+1))).flatMap vc⟩]++iS k [] bf (fun a=>bE ns.length (dg b 0 0 a))) [];refine tN ?_;replace u:=SS.pushR (k:=k) (P:=[⟨B,53,((eD bg ns.length (k+1))).flatMap vc⟩]) (by exact u) bg hbk hbo (fun a=>bE ns.length (dg b 0 0 a)) row_0.symm (fun _ _=>rfl);replace u:=u.to ([⟨B,53,((eD bg ns.length (k+1))).flatMap vc⟩]++iS (k+1) [] bg (fun a=>bE ns.length (dg b 0 0 a))) [];refine kQ (bw 62 ((k:Nat)+1) (k+1) ?_);refine lL u ac (lD ?_);intro a_ ka;refine ⟨_,_,?_,⟨k+1,bg,zv,rfl,rfl,u.to _ _,oM⟩,ka.to _ kR⟩
   omega
  have zo:=aJ zg;exact lB 38 zg (ak (aa u cG (ae u [] (.tuple #[sZ,iV ((aR (aY ns) fs (Af ns.length (0:Rat)) (2+1) d t).1)]) (⟨_,0,0,by rw[<-L (Af ns.length (0:Rat))],.bad (by rw[<-L (Af ns.length (0:Rat))];omega)⟩))))
 have zn:=aJ zf;refine lB 24 zf (ak (aa u cG (lN (kX ?_))))
 exfalso;omega
def cv (f g:Nat->Rat):Nat->Rat
  | 0=>f 0*g 0
  | n+1=>f 0*g (n+1)+cv (fun i=>f (i+1)) g n
theorem fr {f g f' g':Nat->Rat}:∀ {n},(∀ i,i<=n->f i=f' i)->(∀ i,i<=n->g i=g' i)->cv f g n=cv f' g' n
  | 0,h,k=>by show f 0*g 0=f' 0*g' 0;rw[h 0 (ek 0),k 0 (ek 0)]
  | n+1,h,k=>by
    show f 0*g (n+1)+cv _ g n=f' 0*g' (n+1)+cv _ g' n
    rw[h 0 (NY _),k (n+1) (ek _),fr (fun i hi=>h (i+1) oM) fun i hi=>k i oM]
theorem Fn (f g:Nat->Rat):∀ n,cv f g (n+1)=f (n+1)*g 0+cv f (fun i=>g (i+1)) n:=by
  intro n;induction n generalizing f with
  | zero=>show f 0*g 1+f 1*g 0=f 1*g 0+f 0*g 1;grind
  | succ n ih =>
    show f 0*g (n+2)+cv (fun i=>f (i+1)) g (n+1)=f (n+2)*g 0+(f 0*g (n+2)+cv (fun i=>f (i+1)) (fun i=>g (i+1)) n)
    rw[ih];grind
theorem kG (f g:Nat->Rat):∀ n,cv f g n=cv g f n:=by
  intro n;induction n generalizing f g with
  | zero=>exact PW _ _
  | succ n ih =>
    rw[Fn g f n,<-ih (fun i=>f (i+1)) g]
    show f 0*g (n+1)+_=g (n+1)*f 0+_
    rw[PW]
theorem GW (a)(f g h:Nat->Rat):∀ n,cv (fun i=>a*f i+g i) h n=a*cv f h n+cv g h n:=by
  intro n;induction n generalizing f g with
  | zero=>show (a*f 0+g 0)*h 0=a*(f 0*h 0)+g 0*h 0;grind
  | succ n ih =>
    show (a*f 0+g 0)*h (n+1)+cv (fun i=>a*f (i+1)+g (i+1)) h n=a*(f 0*h (n+1)+cv (fun i=>f (i+1)) h n)+(g 0*h (n+1)+cv (fun i=>g (i+1)) h n)
    rw[ih (fun i=>f (i+1)) fun i=>g (i+1)];grind
theorem kd (f g h:Nat->Rat):∀ n,cv (cv f g) h n=cv f (cv g h) n:=by
  intro n;induction n generalizing f with
  | zero=>show f 0*g 0*h 0=f 0*(g 0*h 0);grind
  | succ n ih =>
    show f 0*g 0*h (n+1)+cv (fun i=>f 0*g (i+1)+cv (fun i=>f (i+1)) g i) h n=f 0*(g 0*h (n+1)+cv (fun i=>g (i+1)) h n)+cv (fun i=>f (i+1)) (cv g h) n
    rw[GW (f 0) (fun i=>g (i+1)) (cv (fun i=>f (i+1)) g) h n,ih];grind
def iW (i:Nat):Rat:=if i=0 then 1 else 0
theorem uL (g:Nat->Rat):∀ n,cv (fun _=>0) g n=0
 | 0=>by show (0:Rat)*g 0=0;grind
 | n+1=>by show (0:Rat)*g (n+1)+cv (fun _=>0) g n=0;rw[uL g n];grind
theorem qm (g:Nat->Rat):∀ n,cv iW g n=g n
  | 0=>by show iW 0*g 0=g 0;unfold iW;rw[if_pos rfl];grind
  | n+1=>by
    show iW 0*g (n+1)+cv (fun i=>iW (i+1)) g n=g (n+1)
    have e:(fun i=>iW (i+1))=fun _=>(0:Rat):=by funext i;exact if_neg (Pa i)
    rw[e,uL];unfold iW;rw[if_pos rfl];grind
theorem vC {f g b v:Nat->Rat}{m:Nat}(hv:∀ i,i<m->cv b v i=iW i)(h:∀ i,i<m->cv f b i=cv g b i){i:Nat}(hi:i<m):f i=g i:=by
 have e:∀ f:Nat->Rat,cv (cv f b) v i=f i:=fun f=>by
  rw[kd,fr (f':=f) (g':=iW) (fun _ _=>rfl) fun j a=>hv j oM,kG,qm]
 rw[<-e f,<-e g];exact fr (fun j a=>h j oM) fun _ _=>rfl
abbrev iQ (a:List Rat)(i:Nat):Rat:=a.getD i 0
theorem qR (a b i):∀ j,eE a b (i+1) (j+1)=a.getD 0 0*b.getD (i+1) 0+eE a.tail b i j
  | 0=>by show 0+a.getD 0 0*b.getD (i+1) 0=a.getD 0 0*b.getD (i+1) 0+0;grind
  | j+1=>by
    show eE a b (i+1) (j+1)+a.getD (j+1) 0*b.getD (i+1-(j+1)) 0=_+(eE a.tail b i j+a.tail.getD j 0*b.getD (i-j) 0)
    have e:a.tail.getD j 0=a.getD (j+1) 0:=by cases a<;>simp
    rw[qR a b i j,e,show i+1-(j+1)=i-j by omega];grind
theorem pI (b):∀ (i:Nat) (a:List Rat),eE a b i (i+1)=cv (iQ a) (iQ b) i
  | 0,a=>by show 0+a.getD 0 0*b.getD 0 0=a.getD 0 0*b.getD 0 0;grind
  | i+1,a=>by
    rw[qR,pI b i a.tail];show _=iQ a 0*iQ b (i+1)+cv (fun i=>iQ a (i+1)) (iQ b) i
    have e:iQ a.tail=fun i=>iQ a (i+1):=by funext j;show a.tail.getD j 0=a.getD (j+1) 0;cases a<;>simp
    rw[e]
section
variable {m:Nat}{a b:List Rat}
theorem uE {i:Nat}(h:i<m):iQ (dB m a b) i=cv (iQ a) (iQ b) i:=(pF a b h).trans (pI b i a)
theorem ui {i:Nat}(h:i<m):iQ (bB m ((1:Int):Rat)) i=iW i:=by
 unfold iW;by_cases e:i=0
 ·subst e;rw[if_pos rfl];exact (nM h _).trans i1
 ·rw[if_neg e];exact sQ _ e
theorem tF (h0:b.getD 0 0≠0){i:Nat}(h:i<m):cv (iQ (bI m b)) (iQ b) i=iW i:=by
 rw[<-pI];show eE (bI m b) b i i+(bI m b).getD i 0*b.getD (i-i) 0=iW i
 have c:=B8 (a:=b) (m:=m) oM;rw[ue]
 unfold iW;by_cases e:i=0
 ·subst e;rw[if_pos rfl,c,i1];show 0+_=_;grind
 ·rw[if_neg e,CA h oM,c,i1];grind
def fe (a b:List Rat):Nat->List Rat
  | 0=>[]
  | k+1=>fe a b k++[(a.getD k 0-eE (fe a b k) b k k)/b.getD 0 0]
theorem iZ (a b):∀ k,(fe a b k).length=k
 | 0=>rfl
 | k+1=>by show (fe a b k++[_]).length=_;rw[List.length_append,iZ a b k];rfl
theorem mm {k:Nat}:∀ {n i},k<=n->i<k->(fe a b n).getD i 0=(fe a b k).getD i 0
  | n,i,hn,hi=>by
    obtain ⟨e,rfl⟩:∃ e,n=k+e:=⟨n-k,by omega⟩
    induction e with
    | zero=>rfl
    | succ e ih =>
      rw[<-ih oM];show (fe a b (k+e)++[_]).getD i 0=_
      have:i<(fe a b (k+e)).length:=by rw[iZ];omega
      simp[List.getElem?_append_left this]
theorem Cy (h0:b.getD 0 0≠0){i:Nat}(h:i<m):cv (iQ (fe a b m)) (iQ b) i=iQ a i:=by
 rw[<-pI];show eE (fe a b m) b i i+(fe a b m).getD i 0*b.getD (i-i) 0=a.getD i 0
 rw[ue,jo i (c:=fe a b i) (fun t d=>mm oM d),mm (k:=i+1) oM (Pe i)]
 have e:(fe a b (i+1)).getD i 0=(a.getD i 0-eE (fe a b i) b i i)/b.getD 0 0:=by
  show (fe a b i++[_]).getD i 0=_
  have:(fe a b i).length=i:=iZ _ _ _
  simp[this]
 rw[e];grind
theorem tT {a b:List Rat}(ha:a.length=m)(d:b.length=m)(h:∀ i,i<m->iQ a i=iQ b i):a=b:=by
 refine O1 oM fun i h1 c=>?_
 have:=h i oM
 unfold iQ at this;simpa [h1,c] using this
theorem FG (h0:b.getD 0 0≠0){i:Nat}(h:i<m):cv (iQ b) (iQ (bI m b)) i=iW i:=by rw[kG];exact tF h0 h
theorem vF (h0:b.getD 0 0≠0):fe a b m=dB m a (bI m b):=by
 refine tT (iZ _ _ _) (fL _ _ _) fun i hi=>vC (b:=iQ b) (fun j c=>FG h0 c) (fun j c=>?_) hi
 rw[Cy h0 c,fr (fun t d=>uE (show t<m by omega)) (fun _ _=>rfl),kd,fr (fun _ _=>rfl) (fun t d=>tF h0 (show t<m by omega)),kG,qm]
theorem pL (h0:b.getD 0 0≠0):∀ k i,i<m->cv (iQ (dJ m (bI m b) k)) (iQ (dJ m b k)) i=iW i
  | 0,i,hi=>by
    show cv (iQ (bB m ((1:Int):Rat))) (iQ (bB m ((1:Int):Rat))) i=iW i
    rw[fr (fun t a=>ui (show t<m by omega)) (fun _ _=>rfl),qm];exact ui hi
  | k+1,i,hi=>by
    have d:∀ t,t<=i->iQ (dJ m (bI m b) (k+1)) t=cv (iQ (bI m b)) (iQ (dJ m (bI m b) k)) t:=fun t a=>(uE oM).trans (kG _ _ _)
    have c:∀ t,t<=i->iQ (dJ m b (k+1)) t=cv (iQ (dJ m b k)) (iQ b) t:=fun t a=>uE oM
    rw[fr d c,kd,fr (f':=iQ (bI m b)) (g':=iQ b) (fun _ _=>rfl) (fun t a=>?_)]
    . exact tF h0 hi
    . rw[<-kd,fr (fun s e=>pL h0 k s oM) (fun _ _=>rfl),qm]
theorem vK (h0:b.getD 0 0≠0)(a:0<m):∀ k,(dJ m b k).getD 0 0≠0
  | 0=>by show (bB m _).getD 0 0≠0;rw[nM a];decide
  | k+1=>by
    show (dB m (dJ m b k) b).getD 0 0≠0
    rw[pF _ _ a];show 0+(dJ m b k).getD 0 0*b.getD 0 0≠0
    have:=vK h0 a k
    grind
theorem vT (h0:b.getD 0 0≠0)(k):fe (bB m ((1:Int):Rat)) (dJ m b k) m=dJ m (bI m b) k:=by
 refine tT (iZ _ _ _) (cV _ _ _) fun i hi=>vC (b:=iQ (dJ m b k)) (v:=iQ (dJ m (bI m b) k)) (fun j a=>by rw[kG];exact pL h0 k j a) (fun j a=>?_) hi
 rw[Cy (vK h0 oM k) a,pL h0 k j a];exact ui a
end
section
variable {xs ys os:List Rat}
theorem nC (i):∀ j,fu xs ys i j=eE xs ys i j
 | 0=>i0
 | j+1=>by show fu xs ys i j+_=eE xs ys i j+_;rw[nC i j]
theorem BC (m):dB m xs ys=(o2 m).map fun i=>fu xs ys i (i+1):=by
 unfold dB;exact PO fun i _=>(nC i (i+1)).symm
theorem nI (i):∀ j,fg xs ys os i j=xs.getD i 0-eE os ys i j
 | 0=>by show xs.getD i 0=xs.getD i 0-0;grind
 | j+1=>by show fg xs ys os i j-_=xs.getD i 0-(eE os ys i j+_);rw[nI i j];grind
theorem j9:∀ k,fe xs ys k=dK xs ys k
  | 0=>rfl
  | k+1=>by
    show fe xs ys k++[_]=dK xs ys k++[_]
    rw[j9 k,nI]
theorem Ct {m k K:Nat}(a:1<=K)(hk:k<=m)(h:∀ j,LQ K ((fe xs ys m).getD j 0))(j):LQ K ((dK xs ys k).getD j 0):=by
 by_cases hj:j<k
 ·rw[<-j9,<-mm hk hj];exact h j
 ·rw[dX (by rw[iY];omega)];exact o7 a
theorem x6 {m k j K:Nat}(hk:k<m)(a:j<=k)(h:∀ i j,i<m->j<=i->LQ K (xs.getD i 0-eE (fe xs ys m) ys i j)):LQ K (fg xs ys (dK xs ys k) k j):=by
 rw[nI,<-j9,jo j (c:=fe xs ys m) (fun t d=>(mm oM oM).symm)];exact h k j hk a
end
theorem l5 (A C xs d q x c1 y z)(hc1:(lim (ab q.num)).length<=c1)(Y:(lim q.den).length<=z)(m)(hxm:xs.length=m)(bb:m<=1000)(ha:∀ j,LQ 39500000 (xs.getD j 0))(X:LQ 1 q)(w h)(g:G w h)(hA:Sr A d h)(Z:RTs h d xs)(V:S3 x (lim (ab q.num)) h)(U:S3 y (lim q.den) h):CR 121 #[.slice A d.length C,rG q x c1 y z] w h (fun v h1=>∃ A c J,v=.slice A (J:List RT).length c/\J.length<=c/\Sr A J h1/\RTs h1 J (dD m xs q)):=by
 have a:=(((((sS g).aS hA).aT Z).aS V).aS U);have hla:=(a.f.r.1).len;refine go Tryz.func121 [(0,qS A d.length C),(1,rG q x c1 y z)] rfl (aA (lA 3 28 (iT q x c1 y z) a (fun b1 w2 h3 a=>lL a ac (aG (lL a ac (ag (aa a ac (aZ ?_))))))));replace a:=a.nil 28 3;replace a:=a.aT (RTs.nil);refine bH _ (CG.loop (fun μ_ Γ w_=>∃ (k:Nat)(e:Z9)(o:Nat)(tl:List RT)(h_:Hp),μ_=xs.length-k/\Γ=[(0,qS A d.length C),(3,pB b1),(4,sZ),(6,nV k),(5,qS e ((tl).length) o)]/\SS w h w_ h_ [⟨b1,28,iT q x c1 y z⟩] [⟨28,3,e,o,(tl).length,(tl).flatMap eA⟩] [Rt tl ((o2 k).map fun i=>xs.getD i 0*q),S3 y (lim q.den),S3 x (lim (ab q.num)),Rt d xs,Sr A d]/\k<=xs.length) _ ⟨0,none,0,[],h3,rfl,rfl,a.to _ _,NY _⟩ ?_);rintro _ _ w4 ⟨k,e,o,tl,h5,hm6,rfl,a,hk⟩;have L:=(a.f.1).len;rw[PH,PP] at L
 refine cQ (aa a [.c,.c,.v (nV d.length)] ?_);cases u:(decide ((k:Int)<(d.length:Int)))
 .
  have H:=oF u;refine lB 10 u (ah (CG.exit ?_))
  show CG _ _ _ _ _ _ _ _
  refine aa a ax (lN (kX ?_));obtain ⟨h8,a,S⟩:=a.pubr 0 (A:=e) (c:=o) (l:=tl) (f:=eA) (ty:=28) (sz:=3) gV (fun _=>rfl);exact a.ret [] (qS e ((tl).length) o) (by rw[show m=k by omega];exact ⟨_,_,tl,rfl,S,a.f.1,a.f.2.1⟩)
 have H:=oT u;refine lB 10 u (ak (cK (cQ (kZ (CG.region ⟨((Value.slice e ((tl).length) o).ownBlock.toList),none⟩ 9 [] mixed kR a.g ao (a.ro_lt 0 (ty:=28) (sz:=3) (A:=e) (c:=o) (m:=(tl).length) (cs:=(tl).flatMap eA)) ?_)))));refine eV 0 13 (qS e ((tl).length) o) (eV 1 14 (qS A d.length C) (eV 2 15 (nV k) (eX 3 16 A d.length C 3 (k:Nat) k ((a.f.q.1).ok oM) ?_)));obtain ⟨Ax,cx,Dx,dx,ex,Q,M,W,O⟩:=(a.f.r.2.1).at_ k oM;replace a:=a.aP W O;refine qL 4 17 (rA (d.getD k gV)) a ((a.f.q.r.1).el k oM) ex ?_ (hM:=a.ro_jk 0 (ty:=28) (sz:=3) (A:=e) (c:=o) (m:=(tl).length) (cs:=(tl).flatMap eA));refine eO 5 18 [(0,0,3)] (rG q x c1 y z) a ?_ (hM:=fun p hp=>by obtain rfl:=ti.1 hp;exact a.ro_ne 0 0 (ty:=28) (sz:=3) (A:=e) (c:=o) (m:=(tl).length) (cs:=(tl).flatMap eA));have bd:=LQ.mul (ha k) X;refine eC 6 19 a (fun _ _ a=>Iu (xs.getD k 0) Ax cx Dx dx Q M (nl (ha k)) (nD (ha k)) q x c1 y z hc1 Y (nl X) (nD X) _ _ a.g a.f.2.1 a.f.1 a.f.q.1 a.f.r.2.1) ?_;rintro _ _ _ _ _ a ⟨D,F,I,B,rfl,zg,zi,zj,zk⟩;replace a:=a.aP zj zk;refine eR 7 20 28 1 (iT ((xs.getD k 0)*q) D F I B) a (fun zl _ _ a=>eY 8 21 0 28 3 o e tl eA ((af ((xs.getD k 0)*q).num,qS D ((lim (ab ((xs.getD k 0)*q).num)).length) F,qS I ((lim ((xs.getD k 0)*q).den).length) B):RT) 56 zl (.agg #[qF,sZ,sZ]) a (fun _ f_=>f_.1) (fun b hb=>O3.2 hb) (fun ze zf _ _ a=>bM a (fun _ zm a=>tV 9 5 (qS ze ((tl++[((af ((xs.getD k 0)*q).num,qS D ((lim (ab ((xs.getD k 0)*q).num)).length) F,qS I ((lim ((xs.getD k 0)*q).den).length) B):RT)]).length) zf) (tN (kQ (lL a ac (bw 12 ((k:Nat)+1) (k+1) ?_)))))));refine lL a ac (lD ?_);intro a_ ka;replace a:=(a.tl.tl.tl.tl.tl.tl.add (K:=Rt (tl++[((af ((xs.getD k 0)*q).num,qS D ((lim (ab ((xs.getD k 0)*q).num)).length) F,qS I ((lim ((xs.getD k 0)*q).den).length) B):RT)]) ((o2 (k+1)).map fun i=>xs.getD i 0*q)) (by rw[PU,PV];exact (a.f.q.2.1).snoc (lZ zg zi a.f.r.1 a.f.2.1)));refine ⟨_,_,?_,⟨k+1,ze,zf,tl++[((af ((xs.getD k 0)*q).num,qS D ((lim (ab ((xs.getD k 0)*q).num)).length) F,qS I ((lim ((xs.getD k 0)*q).den).length) B):RT)],zm,rfl,rfl,a.to _ _,oM⟩,ka.to _ kR⟩
 omega
theorem sT (A y xs e D x ys d m)(hxm:xs.length=m)(bb:m<=1000)(hym:ys.length=m)(ha:∀ j,LQ 39500000 (xs.getD j 0))(H:∀ j,LQ 39500000 (ys.getD j 0))(w h)(g:G w h)(hA:Sr A e h)(Y:RTs h e xs)(hD:Sr D d h)(V:RTs h d ys):CR 120 #[.slice A e.length y,.slice D d.length x] w h (fun v h1=>∃ A c J,v=.slice A (J:List RT).length c/\J.length<=c/\Sr A J h1/\RTs h1 J (dh m xs ys)):=by
 have a:=(((((sS g).aS hA).aT Y).aS hD).aT V);have hla:=(a.f.r.1).len;have hlb:=(a.f.1).len;refine go Tryz.func120 [(0,qS A e.length y),(1,qS D d.length x)] rfl (aa a ac (aG (lL a ac (ag (aa a ac (aZ ?_))))));replace a:=a.nil 28 3;replace a:=a.aT (RTs.nil);refine bH _ (CG.loop (fun Z Γ w_=>∃ (k:Nat)(o:Z9)(p:Nat)(tl:List RT)(h_:Hp),Z=xs.length-k/\Γ=[(0,qS A e.length y),(1,qS D d.length x),(4,sZ),(6,nV k),(5,qS o ((tl).length) p)]/\SS w h w_ h_ [] [⟨28,3,o,p,(tl).length,(tl).flatMap eA⟩] [Rt tl ((o2 k).map fun i=>xs.getD i 0+ys.getD i 0),Rt d ys,Sr D d,Rt e xs,Sr A e]/\k<=xs.length) _ ⟨0,none,0,[],h,rfl,rfl,a.to _ _,NY _⟩ ?_);rintro _ _ w1 ⟨k,o,p,tl,h2,hm3,rfl,a,hk⟩;have M:=(a.f.1).len;rw[PH,PP] at M
 refine cQ (aa a [.c,.c,.v (nV e.length)] ?_);cases u:(decide ((k:Int)<(e.length:Int)))
 .
  have C:=oF u;refine lB 10 u (ah (CG.exit ?_))
  show CG _ _ _ _ _ _ _ _
  refine aa a ax (lN (kX ?_));obtain ⟨h5,a,X⟩:=a.pubr 0 (A:=o) (c:=p) (l:=tl) (f:=eA) (ty:=28) (sz:=3) gV (fun _=>rfl);exact a.ret [] (qS o ((tl).length) p) (by rw[show m=k by omega];exact ⟨_,_,tl,rfl,X,a.f.1,a.f.2.1⟩)
 have C:=oT u;refine lB 10 u (ak (cK (cQ (kZ (CG.region ⟨((Value.slice o ((tl).length) p).ownBlock.toList),none⟩ 12 [] mixed kR a.g ao (a.ro_lt 0 (ty:=28) (sz:=3) (A:=o) (c:=p) (m:=(tl).length) (cs:=(tl).flatMap eA)) ?_)))));refine eV 0 13 (qS o ((tl).length) p) (eV 1 14 (qS A e.length y) (eV 2 15 (nV k) (eX 3 16 A e.length y 3 (k:Nat) k ((a.f.q.1).ok oM) ?_)));obtain ⟨Ax,cx,Dx,dx,ex,U,O,W,Q⟩:=(a.f.r.2.1).at_ k oM;replace a:=a.aP W Q;refine qL 4 17 (rA (e.getD k gV)) a ((a.f.q.r.1).el k oM) ex ?_ (hM:=a.ro_jk 0 (ty:=28) (sz:=3) (A:=o) (c:=p) (m:=(tl).length) (cs:=(tl).flatMap eA));refine eV 5 18 (qS D d.length x) (eV 6 19 (nV k) (eX 7 20 D d.length x 3 (k:Nat) k ((a.f.q.1).ok oM) ?_));obtain ⟨Ay,cy,Dy,dy,ey,hcy,hdy,S,L⟩:=(a.f.r.2.1).at_ k oM;replace a:=a.aP S L;refine qL 8 21 (rA (d.getD k gV)) a ((a.f.q.r.1).el k oM) ey ?_ (hM:=a.ro_jk 0 (ty:=28) (sz:=3) (A:=o) (c:=p) (m:=(tl).length) (cs:=(tl).flatMap eA));have hq8:=LQ.add (ha k) (H k);refine eC 9 22 a (fun _ _ a=>EQ (xs.getD k 0) Ax cx Dx dx U O (nl (ha k)) (nD (ha k)) (ys.getD k 0) Ay cy Dy dy hcy hdy (nl (H k)) (nD (H k)) _ _ a.g a.f.r.2.1 a.f.r.1 a.f.2.1 a.f.1) ?_;rintro _ _ _ _ _ a ⟨I,z,B,F,rfl,zf,zg,zi,zj⟩;replace a:=a.aP zi zj;refine eR 10 23 28 1 (iT ((xs.getD k 0)+(ys.getD k 0)) I z B F) a (fun zk _ _ a=>eY 11 24 0 28 3 p o tl eA ((af ((xs.getD k 0)+(ys.getD k 0)).num,qS I ((lim (ab ((xs.getD k 0)+(ys.getD k 0)).num)).length) z,qS B ((lim ((xs.getD k 0)+(ys.getD k 0)).den).length) F):RT) 56 zk (.agg #[qF,sZ,sZ]) a (fun _ f_=>f_.1) (fun b H=>O3.2 H) (fun zd ze _ _ a=>bM a (fun _ zl a=>tV 12 5 (qS zd ((tl++[((af ((xs.getD k 0)+(ys.getD k 0)).num,qS I ((lim (ab ((xs.getD k 0)+(ys.getD k 0)).num)).length) z,qS B ((lim ((xs.getD k 0)+(ys.getD k 0)).den).length) F):RT)]).length) ze) (tN (kQ (lL a ac (bw 12 ((k:Nat)+1) (k+1) ?_)))))));refine lL a ac (lD ?_);intro a_ ka;replace a:=(a.tl.tl.tl.tl.tl.tl.tl.tl.add (K:=Rt (tl++[((af ((xs.getD k 0)+(ys.getD k 0)).num,qS I ((lim (ab ((xs.getD k 0)+(ys.getD k 0)).num)).length) z,qS B ((lim ((xs.getD k 0)+(ys.getD k 0)).den).length) F):RT)]) ((o2 (k+1)).map fun i=>xs.getD i 0+ys.getD i 0)) (by rw[PU,PV];exact (a.f.q.r.2.1).snoc (lZ zf zg a.f.r.1 a.f.2.1)));refine ⟨_,_,?_,⟨k+1,zd,ze,tl++[((af ((xs.getD k 0)+(ys.getD k 0)).num,qS I ((lim (ab ((xs.getD k 0)+(ys.getD k 0)).num)).length) z,qS B ((lim ((xs.getD k 0)+(ys.getD k 0)).den).length) F):RT)],zl,rfl,rfl,a.to _ _,oM⟩,ka.to _ kR⟩
 omega
theorem lg (A H xs e D F ys d m)(hxm:xs.length=m)(bb:m<=1000)(hym:ys.length=m)(ha:∀ j,LQ 39500000 (xs.getD j 0))(hb:∀ j,LQ 39500000 (ys.getD j 0))(X:∀ i j,i<m->j<=i+1->LQ 39500000 (eE xs ys i j))(w h)(g:G w h)(hA:Sr A e h)(hTa:RTs h e xs)(hD:Sr D d h)(hTb:RTs h d ys):CR 122 #[.slice A e.length H,.slice D d.length F] w h (fun v h1=>∃ A c O,v=.slice A (O:List RT).length c/\O.length<=c/\Sr A O h1/\RTs h1 O (dB m xs ys)):=by
 have a:=(((((sS g).aS hA).aT hTa).aS hD).aT hTb);have hla:=(a.f.r.1).len;have hlb:=(a.f.1).len;refine go Tryz.func122 [(0,qS A e.length H),(1,qS D d.length F)] rfl (aa a ac (aG (lL a ac (ag (aa a ac (aZ ?_))))));replace a:=a.nil 28 3;replace a:=a.aT (RTs.nil);refine bH _ (CG.loop (fun C Γ w_=>∃ (k:Nat)(y:Z9)(z:Nat)(tl:List RT)(h_:Hp),C=xs.length-k/\Γ=[(0,qS A e.length H),(1,qS D d.length F),(4,sZ),(6,nV k),(5,qS y ((tl).length) z)]/\SS w h w_ h_ [] [⟨28,3,y,z,(tl).length,(tl).flatMap eA⟩] [Rt tl ((o2 k).map fun i=>fu xs ys i (i+1)),Rt d ys,Sr D d,Rt e xs,Sr A e]/\k<=xs.length) _ ⟨0,none,0,[],h,rfl,rfl,a.to _ _,NY _⟩ ?_);rintro _ _ w1 ⟨k,y,z,tl,h2,hm3,rfl,a,hk⟩;have S:=(a.f.1).len;rw[PH,PP] at S
 refine cQ (aa a [.c,.c,.v (nV e.length)] ?_);cases x:(decide ((k:Int)<(e.length:Int)))
 .
  have J:=oF x;refine lB 12 x (ah (CG.exit ?_))
  show CG _ _ _ _ _ _ _ _
  refine aa a ax (lN (kX ?_));obtain ⟨h5,a,hc6⟩:=a.pubr 0 (A:=y) (c:=z) (l:=tl) (f:=eA) (ty:=28) (sz:=3) gV (fun _=>rfl);exact a.ret [] (qS y ((tl).length) z) (by rw[show m=k by omega,BC];exact ⟨_,_,tl,rfl,hc6,a.f.1,a.f.2.1⟩)
 have J:=oT x;refine lB 12 x (ak (cK (cQ (kZ (aA (lC 15 a (ud 0 oM oM _ _ a.g) ?_))))));rintro _ _ _ a ⟨A8,c9,zc,ze,rfl,zl,zm,zn,zo⟩;replace a:=a.aP zn zo;refine lA 7 28 cD a (fun zf _ zx a=>lP 0 0 (iT ((0:Int):Rat) A8 c9 zc ze) a (fun _ a=>ag (aa a ac (aZ ?_))));replace a:=a.aS a.f.1;replace a:=a.aS a.f.r.1;refine bH _ (CG.loop (fun C Γ w_=>∃ (j:Nat)(p:Z9)(cS:Nat)(DS:Z9)(u:Nat)(h_:Hp),C=k+1-j/\Γ=[(0,qS A e.length H),(1,qS D d.length F),(4,sZ),(6,nV k),(5,qS y ((tl).length) z),(7,pB zf),(8,nV j)]/\SS w h w_ h_ [⟨zf,28,iT (fu xs ys k j) p cS DS u⟩] [⟨28,3,y,z,(tl).length,(tl).flatMap eA⟩] [S3 p (lim (ab (fu xs ys k j).num)),S3 DS (lim (fu xs ys k j).den),S3 zc (lim ((0:Int):Rat).den),S3 A8 (lim (ab ((0:Int):Rat).num)),Rt tl ((o2 k).map fun i=>fu xs ys i (i+1)),Rt d ys,Sr D d,Rt e xs,Sr A e]/\j<=k+1/\(lim (ab (fu xs ys k j).num)).length<=cS/\(lim (fu xs ys k j).den).length<=u) _ ⟨0,A8,c9,zc,ze,zx,rfl,rfl,a.to _ _,NY _,zl,zm⟩ ?_);rintro _ _ _ ⟨j,p,cS,DS,u,_,bd,rfl,a,hj,I,L⟩;have B:LQ 39500000 (fu xs ys k j):=by rw[nC];exact X k j oM hj
 refine cQ (aa a ax ?_);cases M:(decide ((j:Int)<=(k:Int)))
 .
  have zd:=oF M;refine lB 18 M (ah (CG.exit ?_))
  show CG _ _ _ _ _ _ _ _
  refine kQ (lL a [.c,.o (rG (fu xs ys k j) p cS DS u) 0 0 3] (lR 36 28 1 (iT (fu xs ys k j) p cS DS u) a (fun zA _ _ a=>lY 37 0 28 3 z y tl eA ((af (fu xs ys k j).num,qS p ((lim (ab (fu xs ys k j).num)).length) cS,qS DS ((lim (fu xs ys k j).den).length) u):RT) 56 zA (.agg #[qF,sZ,sZ]) a a.f.1 (fun zB zD _ zE a=>lL a ac (lN (kQ (lL a ac (bw 14 ((k:Nat)+1) (k+1) ?_))))))));refine lL a ac (lD ?_);intro a_ W;replace a:=(a.tl.tl.tl.tl.tl.tl.add (K:=Rt (tl++[((af (fu xs ys k j).num,qS p ((lim (ab (fu xs ys k j).num)).length) cS,qS DS ((lim (fu xs ys k j).den).length) u):RT)]) ((o2 (k+1)).map fun i=>fu xs ys i (i+1))) (by rw[PU,PV];exact (a.f.q.2.1).snoc (by show RQ _ _ (fu xs ys k (k+1));rw[show k+1=j by omega];exact ⟨_,_,_,_,rfl,I,L,a.f.2.1,a.f.r.1⟩)));replace a:=a.drop 1 0;refine ⟨_,_,?_,⟨k+1,zB,zD,tl++[((af (fu xs ys k j).num,qS p ((lim (ab (fu xs ys k j).num)).length) cS,qS DS ((lim (fu xs ys k j).den).length) u):RT)],zE,rfl,rfl,a.to _ _,oM⟩,W.to _ kR⟩
  omega
 have zd:=oT M;refine lB 18 M (ak (cK (cQ (kZ (cR 13 [] mixed a ao ?_)))));refine eO 0 21 [(0,0,3)] (rG (fu xs ys k j) p cS DS u) a (eV 1 22 (qS A e.length H) (eV 2 23 (nV j) (eX 3 24 A e.length H 3 (j:Nat) j ((a.f.q.q.1).ok oM) ?_)));obtain ⟨Ax,cx,Dx,dx,ex,Z,U,hAx,V⟩:=(a.f.q.r.2.1).at_ j oM;replace a:=a.aP hAx V;refine qL 4 25 (rA (e.getD j gV)) a ((a.f.q.q.r.1).el j oM) ex (eV 5 26 (qS D d.length F) (eV 6 27 (nV k) (eV 7 28 (nV j) (kL 8 29 ((k:Nat)-(j:Nat)) (k-j) (eX 9 30 D d.length F 3 (k-j:Nat) (k-j) ((a.f.q.q.1).ok oM) ?_)))));obtain ⟨Ay,cy,Dy,dy,ey,hcy,hdy,Y,Q⟩:=(a.f.q.r.2.1).at_ (k-j) oM;replace a:=a.aP Y Q;refine qL 10 31 (rA (d.getD (k-j) gV)) a ((a.f.q.q.r.1).el (k-j) oM) ey ?_;have zb:=LQ.mul (ha j) (hb (k-j));refine eC 11 32 a (fun _ _ a=>Iu (xs.getD j 0) Ax cx Dx dx Z U (nl (ha j)) (nD (ha j)) (ys.getD (k-j) 0) Ay cy Dy dy hcy hdy (nl (hb (k-j))) (nD (hb (k-j))) _ _ a.g a.f.r.2.1 a.f.r.1 a.f.2.1 a.f.1) ?_;rintro _ _ _ _ _ a ⟨zG,zH,zI,zJ,rfl,zp,zq,zr,zs⟩;replace a:=a.aP zr zs;have bj:=LQ.add B zb;refine eC 12 33 a (fun _ _ a=>EQ (fu xs ys k j) p cS DS u I L (nl B) (nD B) ((xs.getD j 0)*(ys.getD (k-j) 0)) zG zH zI zJ zp zq (nl zb) (nD zb) _ _ a.g a.f.q.r.1 a.f.q.r.2.1 a.f.2.1 a.f.1) ?_;rintro _ _ _ _ _ a ⟨zg,zi,zj,zk,rfl,zt,zu,zv,zw⟩;replace a:=a.aP zv zw;refine bM a (fun _ zK a=>tP 13 0 0 (iT ((fu xs ys k j)+((xs.getD j 0)*(ys.getD (k-j) 0))) zg zi zj zk) a (fun _ a=>tN (kQ (lL a ac (bw 20 ((j:Nat)+1) (j+1) ?_)))));refine lL a ac (lD ?_);intro a_ W;replace a:=((a.tl.tl.tl.tl.tl.tl.tl.tl.tl.tl.aS a.f.1).aS a.f.2.1);refine ⟨_,_,?_,⟨j+1,zg,zi,zj,zk,zK,rfl,rfl,a.to _ _,oM,zt,zu⟩,W.to _ kR⟩
 omega
theorem iD (A U xs y D B ys d m)(hxm:xs.length=m)(bd:m<=1000)(hym:ys.length=m)(ha:∀ j,LQ 39500000 (xs.getD j 0))(C:∀ j,LQ 39500000 (ys.getD j 0))(hqd:∀ j,LQ 39500000 ((fe xs ys m).getD j 0))(hqr:∀ i j,i<m->j<=i->LQ (10^8) (xs.getD i 0-eE (fe xs ys m) ys i j))(hb0:ys.getD 0 0≠0)(w h)(g:G w h)(hA:Sr A y h)(hTa:RTs h y xs)(hD:Sr D d h)(hTb:RTs h d ys):CR 124 #[.slice A y.length U,.slice D d.length B] w h (fun v h1=>∃ A c ts,v=.slice A (ts:List RT).length c/\ts.length<=c/\Sr A ts h1/\RTs h1 ts (fe xs ys m)):=by
 have a:=(((((sS g).aS hA).aT hTa).aS hD).aT hTb);have hla:=(a.f.r.1).len;have hlb:=(a.f.1).len;have hbn:=HE hb0;refine go Tryz.func124 [(0,qS A y.length U),(1,qS D d.length B)] rfl (aa a ac (aG (lL a ac (ag (aa a ac (aZ ?_))))));replace a:=a.nil 28 3;replace a:=a.aT (RTs.nil);refine bH _ (CG.loop (fun J Γ w_=>∃ (k:Nat)(L:Z9)(M:Nat)(tl:List RT)(h_:Hp),J=xs.length-k/\Γ=[(0,qS A y.length U),(1,qS D d.length B),(4,sZ),(6,nV k),(5,qS L ((tl).length) M)]/\SS w h w_ h_ [] [⟨28,3,L,M,(tl).length,(tl).flatMap eA⟩] [Rt tl (dK xs ys k),Rt d ys,Sr D d,Rt y xs,Sr A y]/\k<=xs.length) _ ⟨0,none,0,[],h,rfl,rfl,a.to _ _,NY _⟩ ?_);rintro _ _ w1 ⟨k,L,M,tl,h2,hm3,rfl,a,hk⟩;have hlT:=(a.f.1).len;rw[iY] at hlT
 have H:=Ct (xs:=xs) (ys:=ys) (k:=k) (m:=m) kD oM hqd;refine cQ (aa a [.c,.c,.v (nV y.length)] ?_);cases z:(decide ((k:Int)<(y.length:Int)))
 .
  have W:=oF z;refine lB 12 z (ah (CG.exit ?_))
  show CG _ _ _ _ _ _ _ _
  refine aa a ax (lN (kX ?_));obtain ⟨h5,a,hc6⟩:=a.pubr 0 (A:=L) (c:=M) (l:=tl) (f:=eA) (ty:=28) (sz:=3) gV (fun _=>rfl);exact a.ret [] (qS L ((tl).length) M) (by rw[show m=k by omega,j9];exact ⟨_,_,tl,rfl,hc6,a.f.1,a.f.2.1⟩)
 have W:=oT z;refine lB 12 z (ak (cK (cQ (kZ (aa a ax (lX 17 A y.length U 3 (k:Nat) k ((a.f.q.1).ok oM) ?_))))));obtain ⟨Ax,cx,Dx,dx,ex,hcx,hdx,hAx,hDx⟩:=(a.f.r.2.1).at_ k oM;replace a:=a.aP hAx hDx;refine Jd 18 (rA (y.getD k gV)) a ((a.f.q.r.1).el k oM) ex (lA 7 28 cD a (fun b8 w9 zG a=>lP 0 0 (iT (xs.getD k 0) Ax cx Dx dx) a (fun _ a=>ag (aa a ac (aZ ?_)))));replace a:=a.aS a.f.1;replace a:=a.aS a.f.r.1;replace a:=a.aT (a.f.q.1);refine bH _ (CG.loop (fun J Γ w_=>∃ (j:Nat)(u:Z9)(e:Nat)(o:List RT)(F:Z9)(cS:Nat)(DS:Z9)(I:Nat)(h_:Hp),J=k-j/\Γ=[(0,qS A y.length U),(1,qS D d.length B),(4,sZ),(6,nV k),(5,qS u ((o).length) e),(7,pB b8),(8,nV j)]/\SS w h w_ h_ [⟨b8,28,iT (fg xs ys (dK xs ys k) k j) F cS DS I⟩] [⟨28,3,u,e,(o).length,(o).flatMap eA⟩] [Rt o (dK xs ys k),S3 F (lim (ab (fg xs ys (dK xs ys k) k j).num)),S3 DS (lim (fg xs ys (dK xs ys k) k j).den),S3 Dx (lim (xs.getD k 0).den),S3 Ax (lim (ab (xs.getD k 0).num)),Rt tl (dK xs ys k),Rt d ys,Sr D d,Rt y xs,Sr A y]/\j<=k/\(lim (ab (fg xs ys (dK xs ys k) k j).num)).length<=cS/\(lim (fg xs ys (dK xs ys k) k j).den).length<=I) _ ⟨0,L,M,tl,Ax,cx,Dx,dx,zG,rfl,rfl,a.to _ _,NY _,hcx,hdx⟩ ?_);rintro _ _ _ ⟨j,u,e,o,F,cS,DS,I,_,bb,rfl,a,hj,Q,Y⟩;have X:=(a.f.1).len;rw[iY] at X
 have x:LQ (10^8) (fg xs ys (dK xs ys k) k j):=x6 (m:=m) oM hj hqr;refine cQ (aa a ax ?_);cases za:(decide ((j:Int)<(k:Int)))
 .
  have zi:=oF za;refine lB 21 za (ah (CG.exit ?_))
  show CG _ _ _ _ _ _ _ _
  refine CG.region ⟨((Value.slice u ((o).length) e).ownBlock.toList),none⟩ 8 [] mixed kR a.g ao (a.ro_lt 0 (ty:=28) (sz:=3) (A:=u) (c:=e) (m:=(o).length) (cs:=(o).flatMap eA)) (eV 0 37 (qS u ((o).length) e) (eO 1 38 [(0,0,3)] (rG (fg xs ys (dK xs ys k) k j) F cS DS I) a ?_ (hM:=fun p hp=>by obtain rfl:=ti.1 hp;exact a.ro_ne 0 0 (ty:=28) (sz:=3) (A:=u) (c:=e) (m:=(o).length) (cs:=(o).flatMap eA))));refine eV 2 39 (qS D d.length B) (eX 3 40 D d.length B 3 0 0 ((a.f.q.r.2.1).ok oM) ?_);obtain ⟨Az,cz,Dz,dz,ez,hcz,hdz,hAz,hDz⟩:=(a.f.q.r.1).at_ 0 oM;replace a:=a.aP hAz hDz;refine qL 4 41 (rA (d.getD 0 gV)) a ((a.f.q.q.2.1).el 0 oM) ez ?_ (hM:=a.ro_jk 0 (ty:=28) (sz:=3) (A:=u) (c:=e) (m:=(o).length) (cs:=(o).flatMap eA));have bk:=LQ.div x (C 0);refine eC 5 42 a (fun _ _ a=>LL (fg xs ys (dK xs ys k) k j) F cS DS I Q Y (nl x) (nD x) (ys.getD 0 0) Az cz Dz dz hcz hdz (nl (C 0)) (nD (C 0)) hbn _ _ a.g a.f.r.2.1 a.f.q.1 a.f.2.1 a.f.1) ?_;rintro _ _ _ _ _ a ⟨V,Z,O,S,rfl,zq,zr,zs,zt⟩;replace a:=a.aP zs zt;refine eR 6 43 28 1 (iT ((fg xs ys (dK xs ys k) k j)/(ys.getD 0 0)) V Z O S) a (fun zH _ _ a=>eY 7 44 0 28 3 e u o eA ((af ((fg xs ys (dK xs ys k) k j)/(ys.getD 0 0)).num,qS V ((lim (ab ((fg xs ys (dK xs ys k) k j)/(ys.getD 0 0)).num)).length) Z,qS O ((lim ((fg xs ys (dK xs ys k) k j)/(ys.getD 0 0)).den).length) S):RT) 56 zH (.agg #[qF,sZ,sZ]) a (fun _ f_=>f_.1) (fun b C=>O3.2 C) (fun zk zl _ _ a=>bM a (fun _ zI a=>tV 8 5 (qS zk ((o++[((af ((fg xs ys (dK xs ys k) k j)/(ys.getD 0 0)).num,qS V ((lim (ab ((fg xs ys (dK xs ys k) k j)/(ys.getD 0 0)).num)).length) Z,qS O ((lim ((fg xs ys (dK xs ys k) k j)/(ys.getD 0 0)).den).length) S):RT)]).length) zl) (tN (kQ (lL a ac (bw 14 ((k:Nat)+1) (k+1) ?_)))))));refine lL a ac (lD ?_);intro a_ ka;replace a:=(a.tl.tl.tl.tl.tl.tl.tl.tl.tl.tl.tl.add (K:=Rt (o++[((af ((fg xs ys (dK xs ys k) k j)/(ys.getD 0 0)).num,qS V ((lim (ab ((fg xs ys (dK xs ys k) k j)/(ys.getD 0 0)).num)).length) Z,qS O ((lim ((fg xs ys (dK xs ys k) k j)/(ys.getD 0 0)).den).length) S):RT)]) (dK xs ys (k+1))) ((a.f.q.2.1).snoc (RQ.eq (lZ zq zr a.f.r.1 a.f.2.1) (by rw[show j=k by omega]))));replace a:=a.drop 1 0;refine ⟨_,_,?_,⟨k+1,zk,zl,o++[((af ((fg xs ys (dK xs ys k) k j)/(ys.getD 0 0)).num,qS V ((lim (ab ((fg xs ys (dK xs ys k) k j)/(ys.getD 0 0)).num)).length) Z,qS O ((lim ((fg xs ys (dK xs ys k) k j)/(ys.getD 0 0)).den).length) S):RT)],zI,rfl,rfl,a.to _ _,oM⟩,ka.to _ kR⟩
  omega
 have zi:=oT za;refine lB 21 za (ak (cK (cQ (kZ (cR 13 [] mixed a ao ?_)))));refine eO 0 24 [(0,0,3)] (rG (fg xs ys (dK xs ys k) k j) F cS DS I) a (eV 1 25 (qS u ((o).length) e) (eV 2 26 (nV j) ?_));obtain ⟨zf,zj⟩:=a.rowA 0 (A:=u) (c:=e) (m:=(o).length) (ty:=28) (sz:=3) (cs:=(o).flatMap eA) oM;subst zj;refine eX 3 27 (sB zf) ((o).length) e 3 (j:Nat) j rfl ?_;obtain ⟨Av,cv,Dv,dv,ev,hcv,hdv,hAv,hDv⟩:=(a.f.1).at_ j (by rw[iY];omega);replace a:=a.aP hAv hDv;refine Gj (ty:=28) (sz:=3) (c:=e) (m:=(o).length) (b:=zf) (cs:=(o).flatMap eA) 4 28 0 (rG ((dK xs ys k).getD j 0) Av cv Dv dv) (iT ((dK xs ys k).getD j 0) Av cv Dv dv) a ((fR (f:=eA) (sz:=3) (fun _=>rfl) gV o j oM).trans (xo ev)) (eV 5 29 (qS D d.length B) (eV 6 30 (nV k) (eV 7 31 (nV j) (kL 8 32 ((k:Nat)-(j:Nat)) (k-j) (eX 9 33 D d.length B 3 (k-j:Nat) (k-j) ((a.f.q.q.2.1).ok oM) ?_)))));obtain ⟨Ay,cy,Dy,dy,ey,hcy,hdy,hAy,hDy⟩:=(a.f.q.q.1).at_ (k-j) oM;replace a:=a.aP hAy hDy;refine qL 10 34 (rA (d.getD (k-j) gV)) a ((a.f.q.q.r.2.1).el (k-j) oM) ey ?_;have zg:=LQ.mul (H j) (C (k-j));refine eC 11 35 a (fun _ _ a=>Iu ((dK xs ys k).getD j 0) Av cv Dv dv hcv hdv (nl (H j)) (nD (H j)) (ys.getD (k-j) 0) Ay cy Dy dy hcy hdy (nl (C (k-j))) (nD (C (k-j))) _ _ a.g a.f.r.2.1 a.f.r.1 a.f.2.1 a.f.1) ?_;rintro _ _ _ _ _ a ⟨zJ,zK,zL,zM,rfl,zu,zv,zw,zx⟩;replace a:=a.aP zw zx;have bj:=LQ.sub x zg;refine eC 12 36 a (fun _ _ a=>G1 (fg xs ys (dK xs ys k) k j) F cS DS I Q Y (nl x) (nD x) (((dK xs ys k).getD j 0)*(ys.getD (k-j) 0)) zJ zK zL zM zu zv (nl zg) (nD zg) _ _ a.g a.f.q.r.2.1 a.f.q.q.1 a.f.2.1 a.f.1) ?_;rintro _ _ _ _ _ a ⟨zm,zn,zo,zp,rfl,zA,zB,zD,zE⟩;replace a:=a.aP zD zE;refine bM a (fun _ zN a=>tP 13 0 0 (iT ((fg xs ys (dK xs ys k) k j)-(((dK xs ys k).getD j 0)*(ys.getD (k-j) 0))) zm zn zo zp) a (fun _ a=>tN (kQ (lL a ac (bw 23 ((j:Nat)+1) (j+1) ?_)))));refine lL a ac (lD ?_);intro a_ ka;replace a:=(((a.tl.tl.tl.tl.tl.tl.tl.tl.tl.tl.tl.aS a.f.1).aS a.f.2.1).aT a.f.q.q.1);refine ⟨_,_,?_,⟨j+1,sB zf,e,o,zm,zn,zo,zp,zN,rfl,rfl,a.to _ _,oM,zA,zB⟩,ka.to _ kR⟩
 omega
theorem dG {q:Rat}(h:q.num.sign≠0):q≠0:=fun e=>h (by rw[e];rfl)
theorem qj {q:Rat}(h:q.num.sign=0):q=0:=Rat.num_eq_zero.1 (Int.sign_eq_zero_iff_zero.1 h)
section
variable {op n:Int}{a b:Rat}{xs ys:List Rat}
theorem gC (h:op≠6)(c:op≠8):xn op n a b:=⟨fun e=>absurd e h,fun e=>absurd e c⟩
theorem KZ (h:b≠0):xn 6 n a b:=⟨fun _=>h,fun e=>absurd e kD⟩
theorem wt (h:n<0->a≠0):xn 8 n a b:=⟨fun e=>absurd e kD,fun _=>h⟩
theorem xS (h:op=6)(c:b.num.sign=0):¬xn op n a b:=fun x=>x.1 h (qj c)
theorem Di (h:op=8)(hn:n<0)(c:a.num.sign=0):¬xn op n a b:=fun x=>x.2 h hn (qj c)
theorem GG (h:op=12\/op=13)(c:dC a b=0):Dl op a b:=.inr ⟨h,iF.1 c⟩
theorem KQ (h:op=9\/op=10)(c:a.num.sign=0):Dl op a b:=.inl ⟨h,qj c⟩
theorem ox (h:op≠9)(c:op≠10)(d:op≠12/\op≠13):¬Dl op a b:=fun x=>by
 rcases x with ⟨x,_⟩|⟨x,_⟩<;>omega
theorem pi (h:op=12\/op=13)(c:dC a b≠0):¬Dl op a b:=fun x=>by
 rcases x with ⟨x,_⟩|⟨_,y⟩
 ·omega
 ·exact c (iF.2 y)
theorem th (h:op=9\/op=10)(c:a.num.sign≠0):¬Dl op a b:=fun x=>by
 rcases x with ⟨_,y⟩|⟨x,_⟩
 ·exact c (by rw[y];rfl)
 ·omega
end
section
variable {op n:Int}{m W V U:Nat}{xs ys:List Rat}
theorem SzR.b {a:List Rat}(h:SzR W a)(e:a.length=m)(c:m<=13)(d:W<=1519230)(i):LQ 39500000 (a.getD i 0):=(h.lq oM i).mono oM
theorem SzR.cb {a b:List Rat}(ha:SzR W a)(c:SzR V b)(e:m<=13)(f:W+V+1<=1519230)(i j)(hi:i<m)(d:j<=i+1):LQ 39500000 (eE a b i j):=(ha.lq_cnv c oM d).mono oM
theorem SzR.qb {a b q:List Rat}(ha:SzR W a)(e:SzR V b)(f:SzR U q)(h:m<=13)(o:W+U+V<=3800000)(i j)(hi:i<m)(l:j<=i):LQ (10^8) (a.getD i 0-eE q b i j):=by
 have d:LQ (26*W+4) (a.getD i 0):=by
  obtain ⟨D,A,h0,h1,c⟩:=ha;have:=M5 W (show i+1<=13 by omega);exact (qx h0 h1 (c i).1 (by rw[Nat.pow_mul];exact (c i).2)).mono oM
 exact (d.sub (f.lq_cnv e oM oM)).mono oM
theorem wo (a:xs.length=m)(h:(xs.getD 0 0).num.sign≠0):dD m xs (((xs.getD 0 0).num.sign:Int):Rat)=fC m xs:=by
 unfold fC;by_cases k:(xs.getD 0 0).num.sign<0
 ·rw[if_pos k,Fz k]
 ·rw[if_neg k,LD oM]
  refine tT (m:=m) (fO _ _ _) a fun i hi=>?_
  show (dD m xs _).getD i 0=xs.getD i 0
  rw[py _ _ hi,i1];grind
theorem xd:dh m xs ys=dh m ys xs:=by
 unfold dh;exact PO fun i _=>PM _ _
def F6 (op n:Int)(m:Nat)(a b:List Rat):List Rat:=if dV op n (a.getD 0 0) (b.getD 0 0)=0 then gy op n m a b else []
theorem K1 (h:¬xn op n (xs.getD 0 0) (ys.getD 0 0)):dV op n (xs.getD 0 0) (ys.getD 0 0)=6/\F6 op n m xs ys=[]:=by
 have c:op≠11:=fun e=>h ⟨fun a=>by omega,fun a=>by omega⟩
 have e:dV op n (xs.getD 0 0) (ys.getD 0 0)=6:=(ft c).trans (if_neg h);exact ⟨e,if_neg (by rw[e];decide)⟩
theorem JT (h:xn op n (xs.getD 0 0) (ys.getD 0 0))(k:Dl op (xs.getD 0 0) (ys.getD 0 0)):dV op n (xs.getD 0 0) (ys.getD 0 0)=7/\F6 op n m xs ys=[]:=by
 have e:dV op n (xs.getD 0 0) (ys.getD 0 0)=7:=by
  unfold dV;split
  ·rfl
  ·exact (if_pos h).trans (if_pos k)
 exact ⟨e,if_neg (by rw[e];decide)⟩
theorem F3 (h:op=9\/op=10\/op=11)(a:(xs.getD 0 0).num.sign=0):dV op n (xs.getD 0 0) (ys.getD 0 0)=7/\F6 op n m xs ys=[]:=by
  have e:dV op n (xs.getD 0 0) (ys.getD 0 0)=7:=by
    unfold dV;split
    . rfl
    . rename_i k
      have c:op=9\/op=10:=by
        rcases h with h|h|h
        . exact .inl h
        . exact .inr h
        . exact absurd ⟨h,qj a⟩ k
      exact (if_pos (gC oM oM)).trans (if_pos (KQ c a))
  exact ⟨e,if_neg (by rw[e];decide)⟩
theorem fM (h:xn op n (xs.getD 0 0) (ys.getD 0 0))(k:¬Dl op (xs.getD 0 0) (ys.getD 0 0))(a:op=11->xs.getD 0 0≠0):dV op n (xs.getD 0 0) (ys.getD 0 0)=0/\F6 op n m xs ys=gy op n m xs ys:=by
 have e:dV op n (xs.getD 0 0) (ys.getD 0 0)=0:=by
  unfold dV;rw[if_neg (fun x=>a x.1 x.2)]
  exact (if_pos h).trans (if_neg k)
 exact ⟨e,if_pos e⟩
theorem GL (h:op=12/\0<dC (xs.getD 0 0) (ys.getD 0 0)\/op=13/\¬0<dC (xs.getD 0 0) (ys.getD 0 0))(a:dC (xs.getD 0 0) (ys.getD 0 0)≠0):gy op n m xs ys=xs:=by
 rcases h with ⟨rfl,h⟩|⟨rfl,h⟩
 ·rw[jR,if_pos (jr.1 h)]
 ·have h1:=jn.1 (show dC (xs.getD 0 0) (ys.getD 0 0)<0 by omega)
  rw[jT,if_neg (by grind)]
theorem Gx (h:op=13/\0<dC (xs.getD 0 0) (ys.getD 0 0)\/op=12/\¬0<dC (xs.getD 0 0) (ys.getD 0 0))(a:dC (xs.getD 0 0) (ys.getD 0 0)≠0):gy op n m xs ys=ys:=by
 rcases h with ⟨rfl,h⟩|⟨rfl,h⟩
 ·rw[jT,if_pos (jr.1 h)]
 ·have h1:=jn.1 (show dC (xs.getD 0 0) (ys.getD 0 0)<0 by omega)
  rw[jR,if_neg (by grind)]
end
theorem xW (q f c1 o d)(j:(lim (ab q.num)).length<=c1)(i:(lim q.den).length<=d)(n k)(hn:n=k)(hk:k<=12)(w h)(g:G w h)(e:S3 f (lim (ab q.num)) h)(l:S3 o (lim q.den) h):CR 71 #[rG q f c1 o d,nV n] w h (fun v h1=>∃ A c a,v=.slice A (a:List RT).length c/\a.length<=c/\Sr A a h1/\RTs h1 a (bB (k+1) q)):=by
 subst hn;exact xe q f c1 o d j i n oM w h g e l
theorem nG (op n A y xs i D F ys e)(hcA:i.length<=y)(hcD:e.length<=F)(k)(d:k+1<=13)(Y Wy)(u:xs.length=k+1)(S:3<=op/\op<=6\/12<=op->ys.length=k+1)(p:SzR Y xs)(Q:SzR Wy ys)(hWx:Y<=256000)(hWy:Wy<=256000)(hzw:op=8->n.natAbs*(Y+1)<=700000)(hop:3<=op/\op<=13)(hn:op=8 -> -12<=n/\n<=12)(w h)(g:G w h)(hA:Sr A i h)(hTa:RTs h i xs)(hD:Sr D e h)(hTb:RTs h e ys):CR 73 #[iV op,iV n,.slice A i.length y,.slice D e.length F,.bool false] w h (fun v h1=>∃ A c ts,v=.tuple #[.slice A (ts:List RT).length c,iV (dV op n (xs.getD 0 0) (ys.getD 0 0))]/\ts.length<=c/\Sr A ts h1/\RTs h1 ts (F6 op n (k+1) xs ys)):=by
 have a:=(((((sS g).aS hA).aT hTa).aS hD).aT hTb);have hla:=(a.f.r.1).len;have hlb:=(a.f.1).len;have hsx:=l6 (xs.getD 0 0).num;have hsy:=l6 (ys.getD 0 0).num;refine go Tryz.func73 [(0,iV op),(1,iV n),(2,qS A i.length y),(3,qS D e.length F),(4,qF)] rfl (aa a ax (aG (lL a [.c,.v (nV i.length)] (bw 20 ((i.length:Nat)-1) (i.length-1) ?_))));refine lL a ac (aG (lC 21 a (ud 1 oM oM _ _ a.g) ?_));rintro _ w9 _ a ⟨A1,c2,A5,c6,rfl,hc3,hc7,hA4,hA8⟩;replace a:=a.aP hA4 hA8;refine lL a ac (lC 23 a (xW ((1:Int):Rat) A1 c2 A5 c6 hc3 hc7 ((i.length-1)) k oM oM _ _ a.g a.f.2.1 a.f.1) ?_);rintro _ _ YP a ⟨J,U,H,rfl,zW,ZD,ZE⟩;replace a:=((a.aS ZD).aT ZE);refine lL a ac (ag (aa a ac (aZ (aA ?_))));cases zp:((op:Int) == (3:Int))
 .
  have yr:=aj zp;refine lB 26 zp (lL a ac (ah (aA ?_)));cases zq:((op:Int) == (4:Int))
  .
   have yt:=aj zq;refine lB 31 zq (lL a ac (ah (aA ?_)));cases zr:((op:Int) == (7:Int))
   .
    have yu:=aj zr;refine lB 38 zr (lL a ac (ah (aA ?_)));cases zs:((op:Int) == (5:Int))
    .
     have yv:=aj zs;refine lB 43 zs (lL a ac (ah (aA ?_)));cases zt:((op:Int) == (6:Int))
     .
      have yw:=aj zt;refine lB 48 zt (lL a ac (ah (aA ?_)));cases zu:((op:Int) == (8:Int))
      .
       have yx:=aj zu;refine lB 58 zu (lL a ac (ah (cQ (aA ?_))));cases zv:((op:Int) == (12:Int))
       .
        have yA:=aj zv;refine lB 87 zv (lL a ac (ah (kQ ?_)));cases zw:((op:Int) == (13:Int))
        .
         have yB:=aj zw;refine lB 88 zw (lL a ac (ah (cK (aa a ac (lX 108 A i.length y 3 0 0 ((a.f.q.r.2.1).ok oM) ?_)))));obtain ⟨Ax,cx,Dx,dx,ex,M,K,O,L⟩:=(a.f.q.r.1).at_ 0 oM;replace a:=a.aP O L;refine Jd 109 (rA (i.getD 0 gV)) a ((a.f.q.q.2.1).el 0 oM) ex (ar 110 a (x8 (xs.getD 0 0) Ax cx Dx dx M K (nl (SzR.b p u d oM 0)) (nD (SzR.b p u d oM 0)) _ _ a.g a.f.2.1 a.f.1) (fun _ _ a=>lL a ac (ag (kZ (aa a ac ?_)))));cases zx:((op:Int) == (11:Int))
         .
          have yC:=aj zx;refine lB 113 zx (lL a ac (lG 115 ?_));refine lG 116 (lL a [.v qF,.c] (lG 119 ?_));refine lL a [.v qF,.c] (lN (bH [(0,iV op),(2,qS A i.length y),(10,sZ),(11,iV 0),(12,nV (i.length-1)),(13,qS J H.length U),(17,iV ((xs.getD 0 0).num.sign)),(111,qF)] ?_));refine dE (aa a ac ?_);cases zA:(((xs.getD 0 0).num.sign:Int) == (0:Int))
          .
           have yD:=aj zA;refine lB 124 zA (lL a ac (ah (aa a ac ?_)));cases zB:((op:Int) == (9:Int))
           .
            have yE:=aj zB;refine lB 127 zB (lL a ac (ah (aa a ac ?_)));have zX:((op:Int) == (11:Int))=false:=fB oM;have b2:=aj zX;refine lB 134 zX (lL a ac (ah (aa a ac ?_)));cases zD:(decide ((0:Int)<((xs.getD 0 0).num.sign:Int)))
            .
             have yF:=oF zD;refine lB 145 zD (lL a ac (ah (cK (aA (lC 147 a (ud 0 oM oM _ _ a.g) ?_)))));rintro _ _ _ a ⟨YQ,YR,YS,YT,rfl,ZF,ZG,ZH,ZI⟩;replace a:=a.aP ZH ZI;refine lL a ac (lC 149 a (xW ((0:Int):Rat) YQ YR YS YT ZF ZG ((i.length-1)) k oM oM _ _ a.g a.f.2.1 a.f.1) ?_);rintro _ _ _ a ⟨YU,YV,ya,rfl,ZJ,ZK,ZL⟩;replace a:=((a.aS ZK).aT ZL);refine lL a ax (lN (kX ?_));obtain rfl:op=10:=by omega
             exact a.ret [] (.tuple #[qS YU ya.length YV,iV 0]) (by obtain ⟨o,l⟩:=fM (op:=10) (n:=n) (m:=k+1) (xs:=xs) (ys:=ys) (gC oM oM) (th oM oM) (fun x=>absurd x oM);rw[o,l,show gy 10 n (k+1) xs ys=(bB (k+1) ((0:Int):Rat)) from (by rw[jY,if_neg oM];rfl)];exact ⟨_,_,ya,rfl,ZJ,a.f.2.1,a.f.1⟩)
            have yF:=oT zD;refine lB 145 zD (lL a ac (ak (aa a cG (lN (kX ?_)))));obtain rfl:op=10:=by omega
            exact a.ret [] (.tuple #[qS A i.length y,iV 0]) (by obtain ⟨o,l⟩:=fM (op:=10) (n:=n) (m:=k+1) (xs:=xs) (ys:=ys) (gC oM oM) (th oM oM) (fun x=>absurd x oM);rw[o,l,show gy 10 n (k+1) xs ys=xs from (by rw[jY,if_pos oM])];exact ⟨_,_,i,rfl,hcA,a.f.q.q.2.1,a.f.q.q.1⟩)
           have yE:=eq_of_beq zB;refine lB 127 zB (lL a ac (ak (aa a ax ?_)));have b7:LQ (1) ((((xs.getD 0 0).num.sign:Int):Rat)):=LQ.int oM oM;refine lC 130 a (ud ((xs.getD 0 0).num.sign) oM oM _ _ a.g) ?_;rintro _ _ _ a ⟨YW,YX,A56,c57,rfl,ZM,ZN,ZO,ZP⟩;replace a:=a.aP ZO ZP;refine lC 131 a ((by have B:=l5 A y xs i (((xs.getD 0 0).num.sign:Int):Rat) YW YX A56 c57 ZM ZN (k+1) u oM (SzR.b p u d oM) (LQ.int oM oM) _ _ a.g a.f.q.q.r.2.1 a.f.q.q.r.1 a.f.2.1 (a.f.1);rw[wo u oM] at B;exact B)) ?_;rintro _ _ _ a ⟨A63,c64,yb,rfl,ZQ,ZR,ZS⟩;replace a:=((a.aS ZR).aT ZS);refine lL a ax (lN (kX ?_));obtain rfl:op=9:=by omega
           exact a.ret [] (.tuple #[qS A63 yb.length c64,iV 0]) (by obtain ⟨o,l⟩:=fM (op:=9) (n:=n) (m:=k+1) (xs:=xs) (ys:=ys) (gC oM oM) (th oM oM) (fun x=>absurd x oM);rw[o,l,show gy 9 n (k+1) xs ys=(fC (k+1) xs) from rfl];exact ⟨_,_,yb,rfl,ZQ,a.f.2.1,a.f.1⟩)
          have yD:=eq_of_beq zA;exact lB 124 zA (lL a ac (ak (aa a ax (ae a [] (.tuple #[sZ,iV 7]) (by obtain ⟨o,l⟩:=F3 (op:=op) (n:=n) (m:=k+1) (xs:=xs) (ys:=ys) oM oM;rw[o,l];exact ⟨none,0,[],rfl,nR _,SlO.nil,RTs.nil⟩)))))
         have yC:=eq_of_beq zx;refine lB 113 zx (lL a ax ?_);cases zE:(((xs.getD 0 0).num.sign:Int) == (0:Int))
         .
          have yG:=aj zE;refine lB 116 zE (lL a [.v qF,.c] (lG 119 ?_));refine lL a [.v qF,.c] (lN (bH [(0,iV op),(2,qS A i.length y),(10,sZ),(11,iV 0),(12,nV (i.length-1)),(13,qS J H.length U),(17,iV ((xs.getD 0 0).num.sign)),(111,qF)] ?_));refine dE (aa a ac ?_);have yc:(((xs.getD 0 0).num.sign:Int) == (0:Int))=false:=fB oM;have b1:=aj yc;refine lB 124 yc (lL a ac (ah (aa a ac ?_)));have yd:((op:Int) == (9:Int))=false:=fB oM;have b0:=aj yd;refine lB 127 yd (lL a ac (ah (aa a ac ?_)));have ye:((op:Int) == (11:Int))=true:=sf oM;have bz:=eq_of_beq ye;refine lB 134 ye (lL a ac (ak (aa a m4 ?_)));have b6:LQ (1) ((((xs.getD 0 0).num.sign:Int):Rat)):=LQ.int oM oM;refine lC 139 a (ud ((xs.getD 0 0).num.sign) oM oM _ _ a.g) ?_;rintro _ _ _ a ⟨A75,c76,A79,c80,rfl,ZT,ZU,ZV,ZW⟩;replace a:=a.aP ZV ZW;refine lC 140 a ((by have B:=l5 A y xs i (((xs.getD 0 0).num.sign:Int):Rat) A75 c76 A79 c80 ZT ZU (k+1) u oM (SzR.b p u d oM) (LQ.int oM oM) _ _ a.g a.f.q.q.r.2.1 a.f.q.q.r.1 a.f.2.1 (a.f.1);rw[wo u oM] at B;exact B)) ?_;rintro _ _ _ a ⟨A86,c87,ZX,rfl,b5,Ya,Yb⟩;replace a:=((a.aS Ya).aT Yb);refine lC 141 a ((by have B:=sT J U (bB (k+1) ((1:Int):Rat)) H A86 c87 (fC (k+1) xs) ZX (k+1) (ct _ _) oM (na u) (SzR.b (SzR.num (LQ.int kD kD) (k+1) (N0 k)) (ct _ _) d oM) (SzR.b (p.abs (k+1)) (na u) d oM) _ _ a.g a.f.q.r.2.1 a.f.q.r.1 a.f.2.1 (a.f.1);rw[xd] at B;exact B)) ?_;rintro _ _ _ a ⟨A94,c95,Yc,rfl,b9,Yd,Ye⟩;replace a:=((a.aS Yd).aT Ye);refine lC 142 a ((by have z:=(vF (nr (N0 k) xs):fe xs (dh (k+1) (fC (k+1) xs) (bB (k+1) ((1:Int):Rat))) (k+1)=_);have B:=iD A y xs i A94 c95 (dh (k+1) (fC (k+1) xs) (bB (k+1) ((1:Int):Rat))) Yc (k+1) u oM (gn _ _ _) (SzR.b p u d oM) (SzR.b ((p.abs (k+1)).add (SzR.num (LQ.int kD kD) (k+1) (N0 k)) (k+1)) (gn _ _ _) d oM) (by rw[z];exact (SzR.b (p.mul (((p.abs (k+1)).add (SzR.num (LQ.int kD kD) (k+1) (N0 k)) (k+1)).inv (nr (N0 k) xs) (k+1)) (k+1)) (fL _ _ _) d oM)) (by rw[z];exact SzR.qb p ((p.abs (k+1)).add (SzR.num (LQ.int kD kD) (k+1) (N0 k)) (k+1)) (p.mul (((p.abs (k+1)).add (SzR.num (LQ.int kD kD) (k+1) (N0 k)) (k+1)).inv (nr (N0 k) xs) (k+1)) (k+1)) d oM) (nr (N0 k) xs) _ _ a.g a.f.q.q.q.r.2.1 a.f.q.q.q.r.1 a.f.2.1 (a.f.1);rw[z] at B;exact B)) ?_;rintro _ _ _ a ⟨Yf,Yg,zG,rfl,yH,yI,yJ⟩;replace a:=((a.aS yI).aT yJ);refine lL a ax (lN (kX ?_));obtain rfl:op=11:=by omega
          exact a.ret [] (.tuple #[qS Yf zG.length Yg,iV 0]) (by obtain ⟨o,l⟩:=fM (op:=11) (n:=n) (m:=k+1) (xs:=xs) (ys:=ys) (gC oM oM) (ox oM oM oM) (fun _=>dG oM);rw[o,l,show gy 11 n (k+1) xs ys=(dB (k+1) xs (bI (k+1) (dh (k+1) (fC (k+1) xs) (bB (k+1) ((1:Int):Rat))))) from rfl];exact ⟨_,_,zG,rfl,yH,a.f.2.1,a.f.1⟩)
         have yG:=eq_of_beq zE;refine lB 116 zE (lL a [.v qT,.c,.c,.v qF,.c] (lN (bH [(0,iV op),(2,qS A i.length y),(10,sZ),(11,iV 0),(12,nV (i.length-1)),(13,qS J H.length U),(17,iV ((xs.getD 0 0).num.sign)),(111,qF)] ?_)));refine dE (aa a ac ?_);have zH:(((xs.getD 0 0).num.sign:Int) == (0:Int))=true:=sf oM;have bq:=eq_of_beq zH;exact lB 124 zH (lL a ac (ak (aa a ax (ae a [] (.tuple #[sZ,iV 7]) (by obtain ⟨o,l⟩:=F3 (op:=op) (n:=n) (m:=k+1) (xs:=xs) (ys:=ys) oM oM;rw[o,l];exact ⟨none,0,[],rfl,nR _,SlO.nil,RTs.nil⟩)))))
        have yB:=eq_of_beq zw;refine lB 88 zw (lL a ac (ak (cQ (cR 7 [] mixed a ao ?_))));refine eV 0 89 (qS A i.length y) (eX 1 90 A i.length y 3 0 0 ((a.f.q.r.2.1).ok oM) ?_);obtain ⟨Ax,cx,Dx,dx,ex,M,K,O,L⟩:=(a.f.q.r.1).at_ 0 oM;replace a:=a.aP O L;refine qL 2 91 (rA (i.getD 0 gV)) a ((a.f.q.q.2.1).el 0 oM) ex (eV 3 92 (qS D e.length F) (eX 4 93 D e.length F 3 0 0 ((a.f.q.r.2.1).ok oM) ?_));obtain ⟨Ay,cy,Dy,dy,ey,hcy,hdy,Z,X⟩:=(a.f.q.r.1).at_ 0 oM;replace a:=a.aP Z X;refine qL 5 94 (rA (e.getD 0 gV)) a ((a.f.q.q.2.1).el 0 oM) ey (au 6 95 a (fun _ _ a=>Jl (xs.getD 0 0) Ax cx Dx dx M K (nl (SzR.b p u d oM 0)) (nD (SzR.b p u d oM 0)) (ys.getD 0 0) Ay cy Dy dy hcy hdy (nl (SzR.b Q (S oM) d oM 0)) (nD (SzR.b Q (S oM) d oM 0)) _ _ a.g a.f.r.2.1 a.f.r.1 a.f.2.1 a.f.1) (fun _ _ a=>bM a (fun _ _ a=>tV 7 16 (iV (dC (xs.getD 0 0) (ys.getD 0 0))) (tN (cQ (kZ (aa a ac ?_)))))));cases zd:((dC (xs.getD 0 0) (ys.getD 0 0):Int) == (0:Int))
        .
         have yf:=aj zd;refine lB 98 zd (lL a ac (lN (bH [(0,iV op),(2,qS A i.length y),(3,qS D e.length F),(4,qF),(10,sZ),(11,iV 0),(12,nV (i.length-1)),(13,qS J H.length U),(16,iV (dC (xs.getD 0 0) (ys.getD 0 0))),(96,qF)] ?_)));refine dE (aa a ac ?_);cases ze:(decide ((0:Int)<(dC (xs.getD 0 0) (ys.getD 0 0):Int)))
         .
          have yg:=oF ze;refine lB 101 ze (lL a ac ?_);have zI:((op:Int) == (12:Int))=false:=fB oM;have bn:=aj zI;exact lB 103 zI (lL a [.v qT,.c] (ak (aa a cG (ae a [] (.tuple #[qS A i.length y,iV 0]) (by obtain ⟨o,l⟩:=fM (op:=op) (n:=n) (m:=k+1) (xs:=xs) (ys:=ys) (gC oM oM) (pi oM oM) (fun x=>absurd x oM);rw[o,l,show gy op n (k+1) xs ys=xs from (GL oM oM)];exact ⟨_,_,i,rfl,hcA,a.f.q.q.r.2.1,a.f.q.q.r.1⟩)))))
         have yg:=oT ze;refine lB 101 ze (lL a ac ?_);have zJ:((op:Int) == (12:Int))=false:=fB oM;have bm:=aj zJ;exact lB 103 zJ (lL a [.v qF,.c] (ah (cK (aa a cG (ae a [] (.tuple #[qS D e.length F,iV 0]) (by obtain ⟨o,l⟩:=fM (op:=op) (n:=n) (m:=k+1) (xs:=xs) (ys:=ys) (gC oM oM) (pi oM oM) (fun x=>absurd x oM);rw[o,l,show gy op n (k+1) xs ys=ys from (Gx oM oM)];exact ⟨_,_,e,rfl,hcD,a.f.q.q.2.1,a.f.q.q.1⟩))))))
        have yf:=eq_of_beq zd;refine lB 98 zd (lL a ac (lN (bH [(0,iV op),(2,qS A i.length y),(3,qS D e.length F),(4,qF),(10,sZ),(11,iV 0),(12,nV (i.length-1)),(13,qS J H.length U),(16,iV (dC (xs.getD 0 0) (ys.getD 0 0))),(96,qT)] ?_)));exact ck (aa a ax (ae a [] (.tuple #[sZ,iV 7]) (by obtain ⟨o,l⟩:=JT (op:=op) (n:=n) (m:=k+1) (xs:=xs) (ys:=ys) (gC oM oM) (GG oM oM);rw[o,l];exact ⟨none,0,[],rfl,nR _,SlO.nil,RTs.nil⟩)))
       have yA:=eq_of_beq zv;refine lB 87 zv (lL a ac (ak (cK (ck (cQ (cR 7 [] mixed a ao ?_))))));refine eV 0 89 (qS A i.length y) (eX 1 90 A i.length y 3 0 0 ((a.f.q.r.2.1).ok oM) ?_);obtain ⟨Ax,cx,Dx,dx,ex,M,K,O,L⟩:=(a.f.q.r.1).at_ 0 oM;replace a:=a.aP O L;refine qL 2 91 (rA (i.getD 0 gV)) a ((a.f.q.q.2.1).el 0 oM) ex (eV 3 92 (qS D e.length F) (eX 4 93 D e.length F 3 0 0 ((a.f.q.r.2.1).ok oM) ?_));obtain ⟨Ay,cy,Dy,dy,ey,hcy,hdy,Z,X⟩:=(a.f.q.r.1).at_ 0 oM;replace a:=a.aP Z X;refine qL 5 94 (rA (e.getD 0 gV)) a ((a.f.q.q.2.1).el 0 oM) ey (au 6 95 a (fun _ _ a=>Jl (xs.getD 0 0) Ax cx Dx dx M K (nl (SzR.b p u d oM 0)) (nD (SzR.b p u d oM 0)) (ys.getD 0 0) Ay cy Dy dy hcy hdy (nl (SzR.b Q (S oM) d oM 0)) (nD (SzR.b Q (S oM) d oM 0)) _ _ a.g a.f.r.2.1 a.f.r.1 a.f.2.1 a.f.1) (fun _ _ a=>bM a (fun _ _ a=>tV 7 16 (iV (dC (xs.getD 0 0) (ys.getD 0 0))) (tN (cQ (kZ (aa a ac ?_)))))));cases zf:((dC (xs.getD 0 0) (ys.getD 0 0):Int) == (0:Int))
       .
        have yi:=aj zf;refine lB 98 zf (lL a ac (lN (bH [(0,iV op),(2,qS A i.length y),(3,qS D e.length F),(4,qF),(10,sZ),(11,iV 0),(12,nV (i.length-1)),(13,qS J H.length U),(16,iV (dC (xs.getD 0 0) (ys.getD 0 0))),(96,qF)] ?_)));refine dE (aa a ac ?_);cases zg:(decide ((0:Int)<(dC (xs.getD 0 0) (ys.getD 0 0):Int)))
        .
         have yj:=oF zg;refine lB 101 zg (lL a ac ?_);have zK:((op:Int) == (12:Int))=true:=sf oM;have bk:=eq_of_beq zK;exact lB 103 zK (lL a [.v qF,.c] (ah (cK (aa a cG (ae a [] (.tuple #[qS D e.length F,iV 0]) (by obtain ⟨o,l⟩:=fM (op:=op) (n:=n) (m:=k+1) (xs:=xs) (ys:=ys) (gC oM oM) (pi oM oM) (fun x=>absurd x oM);rw[o,l,show gy op n (k+1) xs ys=ys from (Gx oM oM)];exact ⟨_,_,e,rfl,hcD,a.f.q.q.2.1,a.f.q.q.1⟩))))))
        have yj:=oT zg;refine lB 101 zg (lL a ac ?_);have zL:((op:Int) == (12:Int))=true:=sf oM;have bl:=eq_of_beq zL;exact lB 103 zL (lL a [.v qT,.c] (ak (aa a cG (ae a [] (.tuple #[qS A i.length y,iV 0]) (by obtain ⟨o,l⟩:=fM (op:=op) (n:=n) (m:=k+1) (xs:=xs) (ys:=ys) (gC oM oM) (pi oM oM) (fun x=>absurd x oM);rw[o,l,show gy op n (k+1) xs ys=xs from (GL oM oM)];exact ⟨_,_,i,rfl,hcA,a.f.q.q.r.2.1,a.f.q.q.r.1⟩)))))
       have yi:=eq_of_beq zf;refine lB 98 zf (lL a ac (lN (bH [(0,iV op),(2,qS A i.length y),(3,qS D e.length F),(4,qF),(10,sZ),(11,iV 0),(12,nV (i.length-1)),(13,qS J H.length U),(16,iV (dC (xs.getD 0 0) (ys.getD 0 0))),(96,qT)] ?_)));exact ck (aa a ax (ae a [] (.tuple #[sZ,iV 7]) (by obtain ⟨o,l⟩:=JT (op:=op) (n:=n) (m:=k+1) (xs:=xs) (ys:=ys) (gC oM oM) (GG oM oM);rw[o,l];exact ⟨none,0,[],rfl,nR _,SlO.nil,RTs.nil⟩)))
      have yx:=eq_of_beq zu;refine lB 58 zu (lL a ac (ak (cQ (aa a ac ?_))));cases zi:(decide ((n:Int)<(0:Int)))
      .
       have yk:=oF zi;refine lB 60 zi (lL a ac (lG 62 ?_));refine lG 63 (lG 64 (lG 65 (lG 66 (lL a [.v qF] (ah (cK (aa a ax (ag (aa a ac (aZ ?_))))))))));replace a:=a.aT (a.f.1);replace a:=a.aS a.f.r.1;refine bH _ (CG.loop (fun μ_ Γ w_=>∃ (j:Nat)(V:Z9)(W:Nat)(C:List RT)(h_:Hp),μ_=n.natAbs-j/\Γ=[(0,iV op),(1,iV n),(2,qS A i.length y),(4,qF),(10,sZ),(11,iV 0),(12,nV (i.length-1)),(13,qS J H.length U),(15,nV j),(14,qS V C.length W)]/\SS w h w_ h_ [] [] [Sr V C,Rt C (dJ (k+1) xs j),Rt H (bB (k+1) ((1:Int):Rat)),Sr J H,S3 A5 (lim ((1:Int):Rat).den),S3 A1 (lim (ab ((1:Int):Rat).num)),Rt e ys,Sr D e,Rt i xs,Sr A i]/\j<=n.natAbs/\C.length<=W) _ ⟨0,J,U,H,YP,rfl,rfl,a.to _ _,NY _,zW⟩ ?_);rintro _ _ _ ⟨j,V,W,C,_,b4,rfl,a,hj,hcp⟩;have I:op=8:=by omega
       have hn8:=hn I;have bb:=hzw I;have bj:j*(Y+1)<=700000:=ep (z7 _ hj) bb;have bd:j*(2*Y+1+1)<=1400000:=by rw[show 2*Y+1+1=2*(Y+1) by omega,Pz];omega
       have hlp:=(a.f.2.1).len;rw[cV] at hlp
       refine cQ (aa a cG (lI 72 (0-n) ?_));refine lV 73 (iV (max (n:Int) (0-n:Int))) ?_ (hr:=aK (n:=(if (0-n:Int)>(n:Int) then (0-n:Int) else (n:Int))) kR (by simp only[pg]));cases zj:(decide ((j:Int)<(max (n:Int) (0-n:Int):Int)))
       .
        have yl:=oF zj;refine lB 74 zj (ah (CG.exit ?_))
        show CG _ _ _ _ _ _ _ _
        refine cQ (aa a ac ?_);cases zk:(decide ((n:Int)<(0:Int)))
        .
         have ym:=oF zk;refine lB 81 zk (ah (cK (aa a cG (lN (kX ?_)))));obtain rfl:op=8:=by omega
         exact a.ret [] (.tuple #[qS V C.length W,iV 0]) (by obtain ⟨o,l⟩:=fM (op:=8) (n:=n) (m:=k+1) (xs:=xs) (ys:=ys) (wt (fun h0=>absurd h0 oM)) (ox oM oM oM) (fun x=>absurd x oM);rw[o,l,show gy 8 n (k+1) xs ys=(dJ (k+1) xs j) from (by rw[kJ,show n.natAbs=j by omega];unfold px;rw[if_neg oM])];exact ⟨_,_,C,rfl,hcp,a.f.1,a.f.2.1⟩)
        have ym:=oT zk;refine lB 81 zk (ak (kQ (lL a ax (lC 84 a ((by have z:=(vT (dG oM) j:fe (bB (k+1) ((1:Int):Rat)) (dJ (k+1) xs j) (k+1)=_);have B:=iD J U (bB (k+1) ((1:Int):Rat)) H V W (dJ (k+1) xs j) C (k+1) (ct _ _) oM (cV _ _ _) (SzR.b (SzR.num (LQ.int kD kD) (k+1) (N0 k)) (ct _ _) d oM) (SzR.b (p.pow (N0 k) j) (cV _ _ _) d oM) (by rw[z];exact (SzR.b ((p.inv (dG oM) (k+1)).pow (N0 k) j) (cV _ _ _) d oM)) (by rw[z];exact SzR.qb (SzR.num (LQ.int kD kD) (k+1) (N0 k)) (p.pow (N0 k) j) ((p.inv (dG oM) (k+1)).pow (N0 k) j) d oM) (vK (dG oM) (N0 k) j) _ _ a.g a.f.r.2.1 a.f.r.1 a.f.1 (a.f.2.1);rw[z] at B;exact B)) ?_))));rintro _ _ _ a ⟨Yi,Yj,zM,rfl,yK,yL,yM⟩;replace a:=((a.aS yL).aT yM);refine lL a ac (aG (lL a cG (lN (kX ?_))));obtain rfl:op=8:=by omega
        exact a.ret [] (.tuple #[qS Yi zM.length Yj,iV 0]) (by obtain ⟨o,l⟩:=fM (op:=8) (n:=n) (m:=k+1) (xs:=xs) (ys:=ys) (wt (fun h0=>dG oM)) (ox oM oM oM) (fun x=>absurd x oM);rw[o,l,show gy 8 n (k+1) xs ys=(dJ (k+1) (bI (k+1) xs) j) from (by rw[kJ,show n.natAbs=j by omega];unfold px;rw[if_pos oM])];exact ⟨_,_,zM,rfl,yK,a.f.2.1,a.f.1⟩)
       have yl:=oT zj;refine lB 74 zj (ak (cK (cQ (kZ (kQ (lL a ax (lC 79 a (lg V W (dJ (k+1) xs j) C A y xs i (k+1) (cV _ _ _) oM u (SzR.b (p.pow (N0 k) j) (cV _ _ _) d oM) (SzR.b p u d oM) (SzR.cb (p.pow (N0 k) j) p d oM) _ _ a.g a.f.1 a.f.2.1 a.f.q.q.2.1 a.f.q.q.1) ?_)))))));rintro _ _ Yk a ⟨Yl,Ym,yN,rfl,yO,yP,yQ⟩;replace a:=((a.aS yP).aT yQ);refine lL a ac (lN (kQ (lL a ac (bw 76 ((j:Nat)+1) (j+1) ?_))));refine lL a ac (lD ?_);intro a_ ka;replace a:=((a.tl.tl.tl.tl.aT a.f.1).aS a.f.2.1);refine ⟨_,_,?_,⟨j+1,Yl,Ym,yN,Yk,rfl,rfl,a.to _ _,oM,yO⟩,ka.to _ kR⟩
       omega
      have yk:=oT zi;refine lB 60 zi (lL a ax (lX 63 A i.length y 3 0 0 ((a.f.q.r.2.1).ok oM) ?_));obtain ⟨Ax,cx,Dx,dx,ex,M,K,O,L⟩:=(a.f.q.r.1).at_ 0 oM;replace a:=a.aP O L;refine Jd 64 (rA (i.getD 0 gV)) a ((a.f.q.q.2.1).el 0 oM) ex (ar 65 a (x8 (xs.getD 0 0) Ax cx Dx dx M K (nl (SzR.b p u d oM 0)) (nD (SzR.b p u d oM 0)) _ _ a.g a.f.2.1 a.f.1) (fun _ Yn a=>?_));cases zl:(((xs.getD 0 0).num.sign:Int) == (0:Int))
      .
       have yn:=aj zl;refine lB 66 zl (lL a [.v qF] (ah (cK (aa a ax (ag (aa a ac (aZ ?_)))))));replace a:=a.aT (a.f.r.1);replace a:=a.aS a.f.q.1;refine bH _ (CG.loop (fun μ_ Γ w_=>∃ (j:Nat)(V:Z9)(W:Nat)(C:List RT)(h_:Hp),μ_=n.natAbs-j/\Γ=[(0,iV op),(1,iV n),(2,qS A i.length y),(4,qF),(10,sZ),(11,iV 0),(12,nV (i.length-1)),(13,qS J H.length U),(15,nV j),(14,qS V C.length W)]/\SS w h w_ h_ [] [] [Sr V C,Rt C (dJ (k+1) xs j),S3 Dx (lim (xs.getD 0 0).den),S3 Ax (lim (ab (xs.getD 0 0).num)),Rt H (bB (k+1) ((1:Int):Rat)),Sr J H,S3 A5 (lim ((1:Int):Rat).den),S3 A1 (lim (ab ((1:Int):Rat).num)),Rt e ys,Sr D e,Rt i xs,Sr A i]/\j<=n.natAbs/\C.length<=W) _ ⟨0,J,U,H,Yn,rfl,rfl,a.to _ _,NY _,zW⟩ ?_);rintro _ _ _ ⟨j,V,W,C,_,br,rfl,a,hj,hcp⟩;have I:op=8:=by omega
       have hn8:=hn I;have bb:=hzw I;have bj:j*(Y+1)<=700000:=ep (z7 _ hj) bb;have bd:j*(2*Y+1+1)<=1400000:=by rw[show 2*Y+1+1=2*(Y+1) by omega,Pz];omega
       have hlp:=(a.f.2.1).len;rw[cV] at hlp
       refine cQ (aa a cG (lI 72 (0-n) ?_));refine lV 73 (iV (max (n:Int) (0-n:Int))) ?_ (hr:=aK (n:=(if (0-n:Int)>(n:Int) then (0-n:Int) else (n:Int))) kR (by simp only[pg]));cases zm:(decide ((j:Int)<(max (n:Int) (0-n:Int):Int)))
       .
        have yo:=oF zm;refine lB 74 zm (ah (CG.exit ?_))
        show CG _ _ _ _ _ _ _ _
        refine cQ (aa a ac ?_);cases zn:(decide ((n:Int)<(0:Int)))
        .
         have yp:=oF zn;refine lB 81 zn (ah (cK (aa a cG (lN (kX ?_)))));obtain rfl:op=8:=by omega
         exact a.ret [] (.tuple #[qS V C.length W,iV 0]) (by obtain ⟨o,l⟩:=fM (op:=8) (n:=n) (m:=k+1) (xs:=xs) (ys:=ys) (wt (fun h0=>absurd h0 oM)) (ox oM oM oM) (fun x=>absurd x oM);rw[o,l,show gy 8 n (k+1) xs ys=(dJ (k+1) xs j) from (by rw[kJ,show n.natAbs=j by omega];unfold px;rw[if_neg oM])];exact ⟨_,_,C,rfl,hcp,a.f.1,a.f.2.1⟩)
        have yp:=oT zn;refine lB 81 zn (ak (kQ (lL a ax (lC 84 a ((by have z:=(vT (dG oM) j:fe (bB (k+1) ((1:Int):Rat)) (dJ (k+1) xs j) (k+1)=_);have B:=iD J U (bB (k+1) ((1:Int):Rat)) H V W (dJ (k+1) xs j) C (k+1) (ct _ _) oM (cV _ _ _) (SzR.b (SzR.num (LQ.int kD kD) (k+1) (N0 k)) (ct _ _) d oM) (SzR.b (p.pow (N0 k) j) (cV _ _ _) d oM) (by rw[z];exact (SzR.b ((p.inv (dG oM) (k+1)).pow (N0 k) j) (cV _ _ _) d oM)) (by rw[z];exact SzR.qb (SzR.num (LQ.int kD kD) (k+1) (N0 k)) (p.pow (N0 k) j) ((p.inv (dG oM) (k+1)).pow (N0 k) j) d oM) (vK (dG oM) (N0 k) j) _ _ a.g a.f.q.2.1 a.f.q.1 a.f.1 (a.f.2.1);rw[z] at B;exact B)) ?_))));rintro _ _ _ a ⟨Yo,Yp,zN,rfl,yR,yS,yT⟩;replace a:=((a.aS yS).aT yT);refine lL a ac (aG (lL a cG (lN (kX ?_))));obtain rfl:op=8:=by omega
        exact a.ret [] (.tuple #[qS Yo zN.length Yp,iV 0]) (by obtain ⟨o,l⟩:=fM (op:=8) (n:=n) (m:=k+1) (xs:=xs) (ys:=ys) (wt (fun h0=>dG oM)) (ox oM oM oM) (fun x=>absurd x oM);rw[o,l,show gy 8 n (k+1) xs ys=(dJ (k+1) (bI (k+1) xs) j) from (by rw[kJ,show n.natAbs=j by omega];unfold px;rw[if_pos oM])];exact ⟨_,_,zN,rfl,yR,a.f.2.1,a.f.1⟩)
       have yo:=oT zm;refine lB 74 zm (ak (cK (cQ (kZ (kQ (lL a ax (lC 79 a (lg V W (dJ (k+1) xs j) C A y xs i (k+1) (cV _ _ _) oM u (SzR.b (p.pow (N0 k) j) (cV _ _ _) d oM) (SzR.b p u d oM) (SzR.cb (p.pow (N0 k) j) p d oM) _ _ a.g a.f.1 a.f.2.1 a.f.q.q.r.2.1 a.f.q.q.r.1) ?_)))))));rintro _ _ Yq a ⟨Yr,Ys,yU,rfl,yV,yW,yX⟩;replace a:=((a.aS yW).aT yX);refine lL a ac (lN (kQ (lL a ac (bw 76 ((j:Nat)+1) (j+1) ?_))));refine lL a ac (lD ?_);intro a_ ka;replace a:=((a.tl.tl.tl.tl.aT a.f.1).aS a.f.2.1);refine ⟨_,_,?_,⟨j+1,Yr,Ys,yU,Yq,rfl,rfl,a.to _ _,oM,yV⟩,ka.to _ kR⟩
       omega
      have yn:=eq_of_beq zl;exact lB 66 zl (lL a [.v qT] (ak (aa a ax (ae a [] (.tuple #[sZ,iV 6]) (by obtain ⟨o,l⟩:=K1 (op:=op) (n:=n) (m:=k+1) (xs:=xs) (ys:=ys) (Di oM oM oM);rw[o,l];exact ⟨none,0,[],rfl,nR _,SlO.nil,RTs.nil⟩)))))
     have yw:=eq_of_beq zt;refine lB 48 zt (lL a ac (ak (cQ (aa a ac (lX 50 D e.length F 3 0 0 ((a.f.q.2.1).ok oM) ?_)))));obtain ⟨Ay,cy,Dy,dy,ey,hcy,hdy,Z,X⟩:=(a.f.q.1).at_ 0 oM;replace a:=a.aP Z X;refine Jd 51 (rA (e.getD 0 gV)) a ((a.f.q.r.2.1).el 0 oM) ey (ar 52 a (x8 (ys.getD 0 0) Ay cy Dy dy hcy hdy (nl (SzR.b Q (S oM) d oM 0)) (nD (SzR.b Q (S oM) d oM 0)) _ _ a.g a.f.2.1 a.f.1) (fun _ _ a=>?_));cases zo:(((ys.getD 0 0).num.sign:Int) == (0:Int))
     .
      have yq:=aj zo;refine lB 53 zo (ah (cK (aa a ax (lC 56 a ((by have z:=(vF (dG oM):fe xs ys (k+1)=_);have B:=iD A y xs i D F ys e (k+1) u oM (S oM) (SzR.b p u d oM) (SzR.b Q (S oM) d oM) (by rw[z];exact (SzR.b (p.mul (Q.inv (dG oM) (k+1)) (k+1)) (fL _ _ _) d oM)) (by rw[z];exact SzR.qb p Q (p.mul (Q.inv (dG oM) (k+1)) (k+1)) d oM) (dG oM) _ _ a.g a.f.q.q.2.1 a.f.q.q.1 a.f.q.r.2.1 (a.f.q.r.1);rw[z] at B;exact B)) ?_))));rintro _ _ _ a ⟨Yt,Yu,zP,rfl,Za,Zb,Zc⟩;replace a:=((a.aS Zb).aT Zc);refine lL a ax (lN (kX ?_));obtain rfl:op=6:=by omega
      exact a.ret [] (.tuple #[qS Yt zP.length Yu,iV 0]) (by obtain ⟨o,l⟩:=fM (op:=6) (n:=n) (m:=k+1) (xs:=xs) (ys:=ys) (KZ (dG oM)) (ox oM oM oM) (fun x=>absurd x oM);rw[o,l,show gy 6 n (k+1) xs ys=(dB (k+1) xs (bI (k+1) ys)) from rfl];exact ⟨_,_,zP,rfl,Za,a.f.2.1,a.f.1⟩)
     have yq:=eq_of_beq zo;exact lB 53 zo (ak (aa a ax (ae a [] (.tuple #[sZ,iV 6]) (by obtain ⟨o,l⟩:=K1 (op:=op) (n:=n) (m:=k+1) (xs:=xs) (ys:=ys) (xS oM oM);rw[o,l];exact ⟨none,0,[],rfl,nR _,SlO.nil,RTs.nil⟩))))
    have yv:=eq_of_beq zs;refine lB 43 zs (lL a ac (ak (aa a ax (lC 46 a (lg A y xs i D F ys e (k+1) u oM (S oM) (SzR.b p u d oM) (SzR.b Q (S oM) d oM) (SzR.cb p Q d oM) _ _ a.g a.f.q.r.2.1 a.f.q.r.1 a.f.q.2.1 a.f.q.1) ?_))));rintro _ _ _ a ⟨Yv,Yw,zQ,rfl,Zd,Ze,Zf⟩;replace a:=((a.aS Ze).aT Zf);refine lL a ax (lN (kX ?_));obtain rfl:op=5:=by omega
    exact a.ret [] (.tuple #[qS Yv zQ.length Yw,iV 0]) (by obtain ⟨o,l⟩:=fM (op:=5) (n:=n) (m:=k+1) (xs:=xs) (ys:=ys) (gC oM oM) (ox oM oM oM) (fun x=>absurd x oM);rw[o,l,show gy 5 n (k+1) xs ys=(dB (k+1) xs ys) from rfl];exact ⟨_,_,zQ,rfl,Zd,a.f.2.1,a.f.1⟩)
   have yu:=eq_of_beq zr;refine lB 38 zr (lL a ac (ak (aa a ac (lC 40 a (ud (-1) oM oM _ _ a.g) ?_))));rintro _ _ _ a ⟨Yx,YA,YB,YC,rfl,Zg,Zi,Zj,Zk⟩;replace a:=a.aP Zj Zk;refine lC 41 a (l5 A y xs i ((-1:Int):Rat) Yx YA YB YC Zg Zi (k+1) u oM (SzR.b p u d oM) (LQ.lit kD) _ _ a.g a.f.q.q.2.1 a.f.q.q.1 a.f.2.1 a.f.1) ?_;rintro _ _ _ a ⟨YD,YE,zR,rfl,Zl,Zm,Zn⟩;replace a:=((a.aS Zm).aT Zn);refine lL a ax (lN (kX ?_));obtain rfl:op=7:=by omega
   exact a.ret [] (.tuple #[qS YD zR.length YE,iV 0]) (by obtain ⟨o,l⟩:=fM (op:=7) (n:=n) (m:=k+1) (xs:=xs) (ys:=ys) (gC oM oM) (ox oM oM oM) (fun x=>absurd x oM);rw[o,l,show gy 7 n (k+1) xs ys=(dD (k+1) xs ((-1:Int):Rat)) from rfl];exact ⟨_,_,zR,rfl,Zl,a.f.2.1,a.f.1⟩)
  have yt:=eq_of_beq zq;refine lB 31 zq (lL a ac (ak (aa a ax (lC 34 a (ud (-1) oM oM _ _ a.g) ?_))));rintro _ _ _ a ⟨YF,YG,YH,YI,rfl,Zo,Zp,Zq,Zr⟩;replace a:=a.aP Zq Zr;refine lC 35 a (l5 D F ys e ((-1:Int):Rat) YF YG YH YI Zo Zp (k+1) (S oM) oM (SzR.b Q (S oM) d oM) (LQ.lit kD) _ _ a.g a.f.q.r.2.1 a.f.q.r.1 a.f.2.1 a.f.1) ?_;rintro _ _ _ a ⟨YJ,YK,Zs,rfl,b3,Zt,Zu⟩;replace a:=((a.aS Zt).aT Zu);refine lC 36 a (sT A y xs i YJ YK (dD (k+1) ys ((-1:Int):Rat)) Zs (k+1) u oM (fO _ _ _) (SzR.b p u d oM) (SzR.b (Q.neg (k+1)) (fO _ _ _) d oM) _ _ a.g a.f.q.q.r.2.1 a.f.q.q.r.1 a.f.2.1 a.f.1) ?_;rintro _ _ _ a ⟨YL,YM,zS,rfl,Zv,Zw,Zx⟩;replace a:=((a.aS Zw).aT Zx);refine lL a ax (lN (kX ?_));obtain rfl:op=4:=by omega
  exact a.ret [] (.tuple #[qS YL zS.length YM,iV 0]) (by obtain ⟨o,l⟩:=fM (op:=4) (n:=n) (m:=k+1) (xs:=xs) (ys:=ys) (gC oM oM) (ox oM oM oM) (fun x=>absurd x oM);rw[o,l,show gy 4 n (k+1) xs ys=(dh (k+1) xs (dD (k+1) ys ((-1:Int):Rat))) from rfl];exact ⟨_,_,zS,rfl,Zv,a.f.2.1,a.f.1⟩)
 have yr:=eq_of_beq zp;refine lB 26 zp (lL a ac (ak (aa a ax (lC 29 a (sT A y xs i D F ys e (k+1) u oM (S oM) (SzR.b p u d oM) (SzR.b Q (S oM) d oM) _ _ a.g a.f.q.r.2.1 a.f.q.r.1 a.f.q.2.1 a.f.q.1) ?_))));rintro _ _ _ a ⟨YN,YO,zU,rfl,ZA,ZB,ZC⟩;replace a:=((a.aS ZB).aT ZC);refine lL a ax (lN (kX ?_));obtain rfl:op=3:=by omega
 exact a.ret [] (.tuple #[qS YN zU.length YO,iV 0]) (by obtain ⟨o,l⟩:=fM (op:=3) (n:=n) (m:=k+1) (xs:=xs) (ys:=ys) (gC oM oM) (ox oM oM oM) (fun x=>absurd x oM);rw[o,l,show gy 3 n (k+1) xs ys=(dh (k+1) xs ys) from rfl];exact ⟨_,_,zU,rfl,ZA,a.f.2.1,a.f.1⟩)
theorem KC {l:List ByteArray}{k:Nat}{s:ByteArray}(h:k<l.length)(e:l.getD k ⟨#[]⟩=s):s∈l:=by
 rw[<-e,Nc,O5 h];exact gg h
theorem Lo {l:List ByteArray}{s:ByteArray}(h:s∈l):∃ i,i<l.length/\l.getD i ⟨#[]⟩=s:=by
 obtain ⟨i,hi,e⟩:=vj.1 h;exact ⟨i,hi,by rw[Nc,O5 hi];exact e⟩
theorem WfT.two {ok:ByteArray->Prop}{d:Nat}{t:Tm}(h:WfT ok (d+1) t):t.ks.length<=2:=by
 have:=h.1;have:=aF t.op
 omega
theorem xO (j:Bool)(p f a i o l q w h)(g:G w h)(H:RZ h (j,.slice p f a,.slice i o l) q):Calls Tryz.prog 114 #[.agg #[.bool j,.slice p f a,.slice i o l]] w (Ret w h (fun v _=>v=.bool (decide (q.num=0)))):=by
 obtain ⟨has,⟨A,c,D,d,e,z,C,B,F⟩,hz⟩:=H;have x:(Value.agg #[.bool j,qS p f a,qS i o l])=.agg #[.bool (af q.num),qS A (lim (ab q.num)).length c,qS D (lim (if has then q.den else 0)).length d]:=e;rw[x];have u:=GF q.num A c (if has then q.den else 0) D d z C w h g B F
 have y:decide ((if has=true then q.den else 0)=0\/q.num=0)=decide (q.num=0):=by
  cases has;·rw[decide_eq_true (.inl rfl),decide_eq_true];rw[hz rfl];rfl
  ·have:=q.den_nz
   by_cases e:q.num=0
   ·rw[decide_eq_true (.inr e),decide_eq_true e]
   ·rw[decide_eq_false (fun h=>h.elim this e),decide_eq_false e]
 rw[y] at u;exact u
theorem te {op n:Int}{s:Nat}(h0:op≠8->n=0)(h1 : -12<=n)(d:n<=12):min (fU op n ((min s (2^30):Nat):Int)) (2^30)=((min (ia op n*s) (2^30):Nat):Int):=by
  unfold fU ia bP;by_cases e11:op=11
  . rw[if_pos e11,if_pos e11];omega
  . rw[if_neg e11,if_neg e11]
    by_cases e8:op=8/\n≠0
    . rw[if_pos e8,if_pos e8.1]
      have e:(if n<0 then 0-n else n)=((if n.natAbs<=1 then 1 else n.natAbs:Nat):Int):=by have:=e8.2;split<;>split<;>omega
      rw[e];generalize hm:(if n.natAbs<=1 then 1 else n.natAbs)=m
      have a:1<=m:=by rw[<-hm];split<;>omega
      rw[<-Int.natCast_mul,Nat.mul_comm];rcases Nat.le_total s (2^30) with h|h
      . rw[Nat.min_eq_left h];omega
      . rw[Nat.min_eq_right h]
        have f:=Oh (2^30) a;have c:=ep h (Oh s a)
        omega
    . rw[if_neg e8]
      by_cases e9:op=8
      . rw[if_pos e9]
        have:n=0:=by by_cases z:n=0;exact z;exact absurd ⟨e9,z⟩ e8
        rw[this,if_pos kD];omega
      . rw[if_neg e9];omega
theorem Bp  (sm:ByteArray->Prop)(d)(U:∀ (r:RTm) (t:Tm) (w:World) (h:Hp),G w h->RmH d h r t->ph sm d t->d<=1000->Calls Tryz.prog 65 #[bO r] w (Ret w h (fun v _=>∃ m:Int,v=iV m/\1<=m/\m<=(d:Nat))))(op n)(z:Bool)(D x u y C B q s A c)(e:List RTm)(ks:List Tm)(hc:e.length<=c)(S:ks.length<=3)(hop : -1000<=op/\op<=1000)(hn : -1000<=n/\n<=1000)(hq:LQ 3000 q)(hsm:sm s)(Z:∀ i,i<ks.length->ph sm d (ks.getD i di))(hd:d+1<=1000)(w h)(g:G w h)(hZ:RZ h (z,.slice D x u,.slice y C B) q)(L:SlO 7 bJ bX h A e)(J:Rms d h e ks):CR 65 #[bO ⟨op,n,z,D,x,u,y,C,B,s,A,e.length,c⟩] w h (fun v _=>∃ m:Int,v=iV m/\1<=m/\m<=(d+1:Nat)):=by
 have a:=((((sS g).add (K:=fun j=>RZ j (z,qS D x u,qS y C B) q) hZ).aS L).add (K:=fun j=>Rms d j e ks) J);have hln:=(a.f.1).len;refine go Tryz.func65 [(0,bO ⟨op,n,z,D,x,u,y,C,B,s,A,e.length,c⟩)] rfl (aA (lA 1 31 (bJ ⟨op,n,z,D,x,u,y,C,B,s,A,e.length,c⟩) a (fun H w2 h3 a=>lL a ac (aG (lL a ac (ag (aa a ac (aZ ?_))))))));refine bH _ (CG.loop (fun I Γ X=>∃ (k:Nat)(l:Int)(j:Hp),I=e.length-k/\Γ=[(1,pB H),(2,iV 0),(4,nV k),(3,iV l)]/\SS w h X j [⟨H,31,bJ ⟨op,n,z,D,x,u,y,C,B,s,A,e.length,c⟩⟩] [] [fun j=>Rms d j e ks,fun j=>SlO 7 bJ bX j A e,fun j=>RZ j (z,qS D x u,qS y C B) q]/\k<=e.length/\0<=l/\l<=(d:Int)) _ ⟨0,0,h3,rfl,rfl,a.to _ _,NY _,⟨by omega,by omega⟩⟩ ?_);rintro _ _ w4 ⟨k,l,h5,Y,rfl,a,hk,Q⟩;refine cQ (aa a [.c,.v (qP H 6),.o (qS A e.length c) 0 6 1,.v (nV e.length)] ?_);cases p:(decide ((k:Int)<(e.length:Int)))
 .
  have F:=oF p;refine lB 9 p (ah (CG.exit ?_))
  show CG _ _ _ _ _ _ _ _
  refine aa a ac (lI 21 (l+1) ?_);exact lL a ac (ae a [] (iV (l+1)) (⟨_,rfl,by omega,by omega⟩))
 have F:=oT p;refine lB 9 p (ak (cK (cQ (kZ (kQ (lL a [.c,.v (qP H 6),.o (qS A e.length c) 0 6 1,.c] (lX 16 A e.length c 7 (k:Nat) k ((a.f.2.1).ok oM) ?_)))))));refine lH 17 (bO (e.getD k bX)) a ((a.f.2.1).el k oM) (lC 18 a (U (e.getD k bX) (ks.getD k di) _ _ a.g ((a.f.1).at_ k oM) (Z k oM) oM) ?_);rintro _ w8 O a ⟨mk,rfl,M,V⟩;refine lV 19 (iV (max (l:Int) (mk:Int))) ?_ (hr:=aK (n:=(if (mk:Int)>(l:Int) then (mk:Int) else (l:Int))) kR (by simp only[pg]));refine lL a ac (lN (kQ (lL a ac (bw 11 ((k:Nat)+1) (k+1) ?_))));refine lL a ac (lD ?_);intro a_ W;refine ⟨_,_,?_,⟨k+1,max (l:Int) (mk:Int),O,rfl,rfl,a.to _ _,oM,⟨by omega,by omega⟩⟩,W.to _ kR⟩
 omega
theorem uN (sm:ByteArray->Prop):∀ (d:Nat) (r:RTm) (t:Tm) (w:World) (h:Hp),G w h->RmH d h r t->ph sm d t->d<=1000->Calls Tryz.prog 65 #[bO r] w (Ret w h (fun v _=>∃ m:Int,v=iV m/\1<=m/\m<=(d:Nat)))
  | 0,_,_,_,_,_,x,_,_=>x.elim
  | d+1,r,t,w,h,g,x,wf,hd=>by
    obtain ⟨op,n,b,D,f,e,o,C,z,q,s,A,c,y,ks,rfl,rfl,H,p,j,a⟩:=x.open;obtain ⟨B,u,l,I,i,F⟩:=wf;exact Bp sm d (fun r t w h=>uN sm d r t w h) op n b D f e o C z q s A c y ks p B u l I i F hd w h g H j a
theorem BZ  (isb:ByteArray->Bool)(sm:ByteArray->Prop)(oW:∀ s,sm s->∀ (w:World) (h:Hp),G w h->Calls Tryz.prog 69 #[.string s] w (Ret w h (fun v _=>∃ b,v=.bool b/\b=isb s)))(d)(ih:∀ (r:RTm) (t:Tm) (w:World) (h:Hp),G w h->RmH d h r t->ph sm d t ->  Calls Tryz.prog 66 #[bO r] w (Ret w h (fun v _=>∃ bb,v=.bool bb/\(bb=true↔WfT (fun s=>isb s=true) d t))))(op n)(L:Bool)(H I M J F D q s A c)(x:List RTm)(ks:List Tm)(hc:x.length<=c)(hk3:ks.length<=3)(hop : -1000<=op/\op<=1000)(hn : -1000<=n/\n<=1000)(hq:LQ 3000 q)(hsm:sm s)(hW:∀ i,i<ks.length->ph sm d (ks.getD i di))(w h)(g:G w h)(hZ:RZ h (L,.slice H I M,.slice J F D) q)(hK:SlO 7 bJ bX h A x)(hKs:Rms d h x ks):CR 66 #[bO ⟨op,n,L,H,I,M,J,F,D,s,A,x.length,c⟩] w h (fun v _=>∃ bb,v=.bool bb/\(bb=true↔WfT (fun s=>isb s=true) (d+1) (.mk op n q s ks))):=by
 have a:=((((sS g).add (K:=fun e=>RZ e (L,qS H I M,qS J F D) q) hZ).aS hK).add (K:=fun e=>Rms d e x ks) hKs);have hln:=(a.f.1).len;refine go Tryz.func66 [(0,bO ⟨op,n,L,H,I,M,J,F,D,s,A,x.length,c⟩)] rfl (aA (lA 1 31 (bJ ⟨op,n,L,H,I,M,J,F,D,s,A,x.length,c⟩) a (fun l w2 h3 a=>lL a ac (aG (lL a [.v (pB l),.o (iV op) 0 0 1] (ar 7 a (J2 op _ _ a.g) (fun w4 h5 a=>?_)))))));refine lL a ac (ag (CG.join (fun Γ w_=>∃ (W:Bool)(e:Hp),Γ=[(1,pB l),(2,qF),(68,.bool W)]/\SS w h w_ e [⟨l,31,bJ ⟨op,n,L,H,I,M,J,F,D,s,A,x.length,c⟩⟩] [] [fun e=>Rms d e x ks,fun e=>SlO 7 bJ bX e A x,fun e=>RZ e (L,qS H I M,qS J F D) q]/\(W=true->¬((0<=gQ op/\(ks.length:Int)=gQ op)/\((op=2->isb s=true)/\(op≠2->s=⟨#[]⟩))/\(op=1\/q.num=0)/\(op=8\/n=0) /\ -12<=n/\n<=12))/\(W=false->((0<=gQ op/\(ks.length:Int)=gQ op)/\((op=2->isb s=true)/\(op≠2->s=⟨#[]⟩))/\(op=1\/q.num=0)/\(op=8\/n=0) /\ -12<=n/\n<=12))) ?_ ?_))
 .
  refine kQ (lL a ac ?_);cases S:(decide ((gQ op:Int)<(0:Int)))
  .
   have Y:=oF S;refine lB 9 S (lL a [.c,.v (qP l 6),.o (qS A x.length c) 0 6 1,.v (nV x.length),.c] ?_);cases O:((x.length:Int) != (gQ op:Int))
   .
    have Z:=aU O;refine lB 15 O (lL a [.v qF,.c,.v (pB l),.o (iV op) 0 0 1] ?_);cases Q:((op:Int) == (2:Int))
    .
     have X:=aj Q;refine lB 20 Q (lL a ac (lG 22 ?_));refine lG 23 (lG 24 (lG 25 (lL a [.v qF,.v qF,.c,.v (pB l),.o (iV op) 0 0 1] ?_)));have hb9:((op:Int) != (2:Int))=true:=Bq oM;have b7:=aJ hb9;refine lB 31 hb9 (lL a [.c,.v (qP l 5),.o (.string s) 0 5 1] ?_);cases zb:(nZ s (⟨#[]⟩))
     .
      have zw:=qo zb;refine lB 35 zb (lL a [.v qF,.v qF,.c,.v (pB l),.o (iV op) 0 0 1] ?_);cases zd:((op:Int) != (1:Int))
      .
       have zx:=aU zd;refine lB 41 zd (lL a ac (lG 43 ?_));refine lG 44 (lG 45 (lG 46 (lL a [.v qF,.v qF,.c,.v (pB l),.o (iV op) 0 0 1] ?_)));have zp:((op:Int) != (8:Int))=true:=Bq oM;have b3:=aJ zp;refine lB 52 zp (lL a [.c,.v (qP l 1),.o (iV n) 0 1 1] ?_);cases ze:((n:Int) != (0:Int))
       .
        have zB:=aU ze;refine lB 56 ze (lL a [.v qF,.v qF,.c,.v (qP l 1),.o (iV n) 0 1 1] ?_);have ⟨zM,b2⟩:=dF (p:=(n:Int)<(-12:Int)) oM;refine lB 62 zM (lL a [.v qF,.c,.v (qP l 1),.o (iV n) 0 1 1] ?_);have ⟨zN,br⟩:=dF (p:=(12:Int)<(n:Int)) oM;refine lB 67 zN (lL a [.v qF] (lD ?_));intro B j;exact ⟨_,⟨false,h5,rfl,a.to _ _,(fun e=>absurd e kD),(fun _=>⟨by omega,⟨fun e=>by first|exact u.symm.trans aM|exact absurd e oM,fun e=>by first|assumption|exact absurd e oM⟩,by omega,by omega⟩)⟩,j.to _ kR⟩
       have zB:=aJ ze;refine lB 56 ze (lL a [.v qT,.v qT,.c] (lG 60 ?_));refine lG 61 (lG 62 (lL a [.v qT,.c] (lG 65 ?_)));refine lG 66 (lG 67 (lL a [.v qT] (lD ?_)));intro B j;exact ⟨_,⟨true,h5,rfl,a.to _ _,(fun _ e=>by first|exact O8 ((e.2.1.1 oM).symm.trans (u.symm.trans aM))|exact absurd (e.2.1.2 oM) aM|(have y:=e.1;have z:=e.2.2;omega)),(fun e=>absurd e kD)⟩,j.to _ kR⟩
      have zx:=aJ zd;refine lB 41 zd (lL a [.c,.v (qP l 2),.o (.agg #[.bool L,qS H I M,qS J F D]) 0 2 3] (ar 45 a (xO L H I M J F D q _ _ a.g a.f.r.1) (fun _ U a=>?_)));cases zq:(decide (q.num=0))
      .
       have zD:=oF zq;refine lL a [.v qT,.v qT,.v qT,.c] (lG 50 ?_);refine lG 51 (lG 52 (lG 53 (lG 54 (lG 55 (lG 56 (lG 57 (lL a [.v qT,.c] (lG 60 ?_))))))));refine lG 61 (lG 62 (lL a [.v qT,.c] (lG 65 ?_)));refine lG 66 (lG 67 (lL a [.v qT] (lD ?_)));intro B j;exact ⟨_,⟨true,U,rfl,a.to _ _,(fun _ e=>by first|exact O8 ((e.2.1.1 oM).symm.trans (u.symm.trans aM))|exact absurd (e.2.1.2 oM) aM|(have y:=e.1;have z:=e.2.2;omega)),(fun e=>absurd e kD)⟩,j.to _ kR⟩
      have zD:=oT zq;refine lL a [.v qF,.v qF,.v qF,.c,.v (pB l),.o (iV op) 0 0 1] ?_;cases zf:((op:Int) != (8:Int))
      .
       have zE:=aU zf;refine lB 52 zf (lL a ac (lG 54 ?_));refine lG 55 (lG 56 (lL a [.v qF,.v qF,.c,.v (qP l 1),.o (iV n) 0 1 1] ?_));cases zg:(decide ((n:Int)<(-12:Int)))
       .
        have zG:=oF zg;refine lB 62 zg (lL a [.v qF,.c,.v (qP l 1),.o (iV n) 0 1 1] ?_);cases zi:(decide ((12:Int)<(n:Int)))
        .
         have zH:=oF zi;refine lB 67 zi (lL a [.v qF] (lD ?_));intro B j;exact ⟨_,⟨false,U,rfl,a.to _ _,(fun e=>absurd e kD),(fun _=>⟨by omega,⟨fun e=>by first|exact u.symm.trans aM|exact absurd e oM,fun e=>by first|assumption|exact absurd e oM⟩,by omega,by omega⟩)⟩,j.to _ kR⟩
        have zH:=oT zi;refine lB 67 zi (lL a [.v qT] (lD ?_));intro B j;exact ⟨_,⟨true,U,rfl,a.to _ _,(fun _ e=>by first|exact O8 ((e.2.1.1 oM).symm.trans (u.symm.trans aM))|exact absurd (e.2.1.2 oM) aM|(have y:=e.1;have z:=e.2.2;omega)),(fun e=>absurd e kD)⟩,j.to _ kR⟩
       have zG:=oT zg;refine lB 62 zg (lL a [.v qT,.c] (lG 65 ?_));refine lG 66 (lG 67 (lL a [.v qT] (lD ?_)));intro B j;exact ⟨_,⟨true,U,rfl,a.to _ _,(fun _ e=>by first|exact O8 ((e.2.1.1 oM).symm.trans (u.symm.trans aM))|exact absurd (e.2.1.2 oM) aM|(have y:=e.1;have z:=e.2.2;omega)),(fun e=>absurd e kD)⟩,j.to _ kR⟩
      have zE:=aJ zf;refine lB 52 zf (lL a [.c,.v (qP l 1),.o (iV n) 0 1 1] ?_);cases zj:((n:Int) != (0:Int))
      .
       have zI:=aU zj;refine lB 56 zj (lL a [.v qF,.v qF,.c,.v (qP l 1),.o (iV n) 0 1 1] ?_);have ⟨zP,bn⟩:=dF (p:=(n:Int)<(-12:Int)) oM;refine lB 62 zP (lL a [.v qF,.c,.v (qP l 1),.o (iV n) 0 1 1] ?_);have ⟨zQ,bm⟩:=dF (p:=(12:Int)<(n:Int)) oM;refine lB 67 zQ (lL a [.v qF] (lD ?_));intro B j;exact ⟨_,⟨false,U,rfl,a.to _ _,(fun e=>absurd e kD),(fun _=>⟨by omega,⟨fun e=>by first|exact u.symm.trans aM|exact absurd e oM,fun e=>by first|assumption|exact absurd e oM⟩,by omega,by omega⟩)⟩,j.to _ kR⟩
      have zI:=aJ zj;refine lB 56 zj (lL a [.v qT,.v qT,.c] (lG 60 ?_));refine lG 61 (lG 62 (lL a [.v qT,.c] (lG 65 ?_)));refine lG 66 (lG 67 (lL a [.v qT] (lD ?_)));intro B j;exact ⟨_,⟨true,U,rfl,a.to _ _,(fun _ e=>by first|exact O8 ((e.2.1.1 oM).symm.trans (u.symm.trans aM))|exact absurd (e.2.1.2 oM) aM|(have y:=e.1;have z:=e.2.2;omega)),(fun e=>absurd e kD)⟩,j.to _ kR⟩
     have zw:=pH zb;refine lB 35 zb (lL a [.v qT,.v qT,.c] (lG 39 ?_));refine lG 40 (lG 41 (lG 42 (lG 43 (lG 44 (lG 45 (lG 46 (lG 47 (lL a [.v qT,.c] (lG 50 ?_)))))))));refine lG 51 (lG 52 (lG 53 (lG 54 (lG 55 (lG 56 (lG 57 (lL a [.v qT,.c] (lG 60 ?_))))))));refine lG 61 (lG 62 (lL a [.v qT,.c] (lG 65 ?_)));refine lG 66 (lG 67 (lL a [.v qT] (lD ?_)));intro B j;exact ⟨_,⟨true,h5,rfl,a.to _ _,(fun _ e=>by first|exact O8 ((e.2.1.1 oM).symm.trans (u.symm.trans aM))|exact absurd (e.2.1.2 oM) aM|(have y:=e.1;have z:=e.2.2;omega)),(fun e=>absurd e kD)⟩,j.to _ kR⟩
    have X:=eq_of_beq Q;refine lB 20 Q (lL a [.c,.v (qP l 5),.o (.string s) 0 5 1] (lC 24 a (oW s hsm _ _ a.g) ?_));rintro _ _ zW a ⟨bi,rfl,u⟩;cases b6:(bi)
    .
     refine lL a [.v qT,.v qT,.v qT,.c] (lG 29 ?_);refine lG 30 (lG 31 (lG 32 (lG 33 (lG 34 (lG 35 (lG 36 (lL a [.v qT,.c] (lG 39 ?_))))))));refine lG 40 (lG 41 (lG 42 (lG 43 (lG 44 (lG 45 (lG 46 (lG 47 (lL a [.v qT,.c] (lG 50 ?_)))))))));refine lG 51 (lG 52 (lG 53 (lG 54 (lG 55 (lG 56 (lG 57 (lL a [.v qT,.c] (lG 60 ?_))))))));refine lG 61 (lG 62 (lL a [.v qT,.c] (lG 65 ?_)));refine lG 66 (lG 67 (lL a [.v qT] (lD ?_)));intro B j;exact ⟨_,⟨true,zW,rfl,a.to _ _,(fun _ e=>by first|exact O8 ((e.2.1.1 oM).symm.trans (u.symm.trans aM))|exact absurd (e.2.1.2 oM) aM|(have y:=e.1;have z:=e.2.2;omega)),(fun e=>absurd e kD)⟩,j.to _ kR⟩
    refine lL a [.v qF,.v qF,.v qF,.c,.v (pB l),.o (iV op) 0 0 1] ?_;have zr:((op:Int) != (2:Int))=false:=Ij oM;have bl:=aU zr;refine lB 31 zr (lL a ac (lG 33 ?_));refine lG 34 (lG 35 (lL a [.v qF,.v qF,.c,.v (pB l),.o (iV op) 0 0 1] ?_));have zs:((op:Int) != (1:Int))=true:=Bq oM;have bj:=aJ zs;refine lB 41 zs (lL a [.c,.v (qP l 2),.o (.agg #[.bool L,qS H I M,qS J F D]) 0 2 3] (ar 45 a (xO L H I M J F D q _ _ a.g a.f.r.1) (fun _ zt a=>?_)));cases zu:(decide (q.num=0))
    .
     have zJ:=oF zu;refine lL a [.v qT,.v qT,.v qT,.c] (lG 50 ?_);refine lG 51 (lG 52 (lG 53 (lG 54 (lG 55 (lG 56 (lG 57 (lL a [.v qT,.c] (lG 60 ?_))))))));refine lG 61 (lG 62 (lL a [.v qT,.c] (lG 65 ?_)));refine lG 66 (lG 67 (lL a [.v qT] (lD ?_)));intro B j;exact ⟨_,⟨true,zt,rfl,a.to _ _,(fun _ e=>by first|exact O8 ((e.2.1.1 oM).symm.trans (u.symm.trans aM))|exact absurd (e.2.1.2 oM) aM|(have y:=e.1;have z:=e.2.2;omega)),(fun e=>absurd e kD)⟩,j.to _ kR⟩
    have zJ:=oT zu;refine lL a [.v qF,.v qF,.v qF,.c,.v (pB l),.o (iV op) 0 0 1] ?_;have zv:((op:Int) != (8:Int))=true:=Bq oM;have bd:=aJ zv;refine lB 52 zv (lL a [.c,.v (qP l 1),.o (iV n) 0 1 1] ?_);cases zk:((n:Int) != (0:Int))
    .
     have zK:=aU zk;refine lB 56 zk (lL a [.v qF,.v qF,.c,.v (qP l 1),.o (iV n) 0 1 1] ?_);have ⟨zR,b0⟩:=dF (p:=(n:Int)<(-12:Int)) oM;refine lB 62 zR (lL a [.v qF,.c,.v (qP l 1),.o (iV n) 0 1 1] ?_);have ⟨zS,bz⟩:=dF (p:=(12:Int)<(n:Int)) oM;refine lB 67 zS (lL a [.v qF] (lD ?_));intro B j;exact ⟨_,⟨false,zt,rfl,a.to _ _,(fun e=>absurd e kD),(fun _=>⟨by omega,⟨fun e=>by first|exact u.symm.trans aM|exact absurd e oM,fun e=>by first|assumption|exact absurd e oM⟩,by omega,by omega⟩)⟩,j.to _ kR⟩
    have zK:=aJ zk;refine lB 56 zk (lL a [.v qT,.v qT,.c] (lG 60 ?_));refine lG 61 (lG 62 (lL a [.v qT,.c] (lG 65 ?_)));refine lG 66 (lG 67 (lL a [.v qT] (lD ?_)));intro B j;exact ⟨_,⟨true,zt,rfl,a.to _ _,(fun _ e=>by first|exact O8 ((e.2.1.1 oM).symm.trans (u.symm.trans aM))|exact absurd (e.2.1.2 oM) aM|(have y:=e.1;have z:=e.2.2;omega)),(fun e=>absurd e kD)⟩,j.to _ kR⟩
   have Z:=aJ O;refine lB 15 O (lL a [.v qT,.c] (lG 18 ?_));refine lG 19 (lG 20 (lG 21 (lG 22 (lG 23 (lG 24 (lG 25 (lG 26 (lL a [.v qT,.c] (lG 29 ?_)))))))));refine lG 30 (lG 31 (lG 32 (lG 33 (lG 34 (lG 35 (lG 36 (lL a [.v qT,.c] (lG 39 ?_))))))));refine lG 40 (lG 41 (lG 42 (lG 43 (lG 44 (lG 45 (lG 46 (lG 47 (lL a [.v qT,.c] (lG 50 ?_)))))))));refine lG 51 (lG 52 (lG 53 (lG 54 (lG 55 (lG 56 (lG 57 (lL a [.v qT,.c] (lG 60 ?_))))))));refine lG 61 (lG 62 (lL a [.v qT,.c] (lG 65 ?_)));refine lG 66 (lG 67 (lL a [.v qT] (lD ?_)));intro B j;exact ⟨_,⟨true,h5,rfl,a.to _ _,(fun _ e=>by first|exact O8 ((e.2.1.1 oM).symm.trans (u.symm.trans aM))|exact absurd (e.2.1.2 oM) aM|(have y:=e.1;have z:=e.2.2;omega)),(fun e=>absurd e kD)⟩,j.to _ kR⟩
  have Y:=oT S;refine lB 9 S (lL a ac (lG 11 ?_));refine lG 12 (lG 13 (lG 14 (lG 15 (lL a [.v qT,.c] (lG 18 ?_)))));refine lG 19 (lG 20 (lG 21 (lG 22 (lG 23 (lG 24 (lG 25 (lG 26 (lL a [.v qT,.c] (lG 29 ?_)))))))));refine lG 30 (lG 31 (lG 32 (lG 33 (lG 34 (lG 35 (lG 36 (lL a [.v qT,.c] (lG 39 ?_))))))));refine lG 40 (lG 41 (lG 42 (lG 43 (lG 44 (lG 45 (lG 46 (lG 47 (lL a [.v qT,.c] (lG 50 ?_)))))))));refine lG 51 (lG 52 (lG 53 (lG 54 (lG 55 (lG 56 (lG 57 (lL a [.v qT,.c] (lG 60 ?_))))))));refine lG 61 (lG 62 (lL a [.v qT,.c] (lG 65 ?_)));refine lG 66 (lG 67 (lL a [.v qT] (lD ?_)));intro B j;exact ⟨_,⟨true,h5,rfl,a.to _ _,(fun _ e=>by first|exact O8 ((e.2.1.1 oM).symm.trans (u.symm.trans aM))|exact absurd (e.2.1.2 oM) aM|(have y:=e.1;have z:=e.2.2;omega)),(fun e=>absurd e kD)⟩,j.to _ kR⟩
 rintro _ _ ⟨W,zX,rfl,a,zU,C⟩;cases zl:(W)
 .
  try rw[zl] at a
  try rw[zl]
  refine dE (cK (cQ (aa a ac (aZ ?_))));refine bH _ (CG.loop (fun μ_ Γ w_=>∃ (k:Nat)(e:Hp),μ_=x.length-k/\Γ=[(1,pB l),(4,nV k)]/\SS w h w_ e [⟨l,31,bJ ⟨op,n,L,H,I,M,J,F,D,s,A,x.length,c⟩⟩] [] [fun e=>Rms d e x ks,fun e=>SlO 7 bJ bX e A x,fun e=>RZ e (L,qS H I M,qS J F D) q]/\k<=x.length/\(∀ i,i<k->WfT (fun s=>isb s=true) d (ks.getD i di))) _ ⟨0,zX,rfl,rfl,a.to _ _,NY _,(fun i hi=>absurd hi (O9 i))⟩ ?_);rintro _ _ _ ⟨k,_,b5,rfl,a,hk,hWk⟩;refine cQ (aa a [.c,.v (qP l 6),.o (qS A x.length c) 0 6 1,.v (nV x.length)] ?_);cases zm:(decide ((k:Int)<(x.length:Int)))
  .
   have zL:=oF zm;refine lB 73 zm (ah (CG.exit ?_))
   show CG _ _ _ _ _ _ _ _
   exact aa a ac (ae a [] qT (F8 ⟨by have y:=(C aM).1;omega,(C aM).2.2.1,(C aM).2.1,(C aM).2.2.2⟩ hq (fun i hi=>hWk i oM)))
  have zL:=oT zm;refine lB 73 zm (ak (cK (cQ (kZ (aa a [.v (qP l 6),.o (qS A x.length c) 0 6 1,.c] (lX 79 A x.length c 7 (k:Nat) k ((a.f.2.1).ok oM) ?_))))));refine lH 80 (bO (x.getD k bX)) a ((a.f.2.1).el k oM) (lC 81 a (ih (x.getD k bX) (ks.getD k di) _ _ a.g ((a.f.1).at_ k oM) (hW k oM)) ?_);rintro _ _ ya a ⟨bk,rfl,V⟩;cases b4:(bk)
  .
   exact lL a [.v qT] (ak (aa a ac (ae a [] qF (Gi (k:=k) oM aM V))))
  refine lL a [.v qF] (ah (cK (kQ (lL a ac (bw 75 ((k:Nat)+1) (k+1) ?_)))));refine lL a ac (lD ?_);intro B j;refine ⟨_,_,?_,⟨k+1,ya,rfl,rfl,a.to _ _,oM,(fun i hi=>by rcases PJ.1 hi with e|rfl;exact hWk i e;exact V.1 aM)⟩,j.to _ kR⟩
  omega
 try rw[zl] at a
 try rw[zl]
 exact ck (aa a ac (ae a [] qF (qW (fun e=>zU aM ⟨by have y:=e.1;omega,e.2.2.1,e.2.1,e.2.2.2⟩))))
end Go.Proofs.YtjljjeiejbhegaaGreatDoor
