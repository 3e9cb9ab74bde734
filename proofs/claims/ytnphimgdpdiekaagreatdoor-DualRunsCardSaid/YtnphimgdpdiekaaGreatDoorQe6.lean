/- Laws of this claim, part 7. -/
import Derived.Test.YtnphimgdpdiekaaGreatDoorQe0
import Derived.Test.YtnphimgdpdiekaaGreatDoorQe1
import Derived.Test.YtnphimgdpdiekaaGreatDoorQe2
import Derived.Test.YtnphimgdpdiekaaGreatDoorQe3
import Derived.Test.YtnphimgdpdiekaaGreatDoorQe4
import Derived.Test.YtnphimgdpdiekaaGreatDoorQe5
set_option maxRecDepth 100000
set_option maxHeartbeats 4000000
namespace Go.Proofs.YtnphimgdpdiekaaGreatDoor
open _root_.Array renaming setIfInBounds_comm -> gs
open Bool renaming and_eq_true -> na, noConfusion -> Ob
open List renaming all_eq_true -> o0, append_nil -> Oy, getD_eq_getElem?_getD -> LH, getElem?_eq_getElem -> On, getElem?_eq_none -> tv, getElem_mem -> gq, length_append -> zY, length_cons -> ub, length_drop -> Mq, length_map -> N2, length_nil -> Oe, length_range -> N3, length_replicate -> N6, length_set -> LB, length_take -> LF, lookup_cons -> i3, mem_append -> gx, mem_cons -> g4, mem_flatMap -> LD, mem_iff_getElem -> vi, mem_singleton -> te, range -> pa, replicate -> As, set_getElem_self -> Oz, take_length -> y8
open Nat renaming le_mul_of_pos_left -> Nc, le_of_ble_eq_true -> Lz, le_of_eq -> M0, le_refl -> ep, le_trans -> e4, lt_succ_iff_lt_or_eq -> Ou, not_lt_zero -> N8, succ_ne_zero -> Od, succ_pos -> MW, zero_add -> Ab, zero_le -> MG
open Go.RowKit
open Go.RowKit Go.Shelf
open Go.RowKit Go.WideMaps
theorem nN (op n:Int)(A:Option Addr)(e:Nat)(xs:List Rat)(b:List RT)(D:Option Addr)(u:Nat)(ys:List Rat)(d:List RT)(V:b.length<=e)(hcD:d.length<=u)(K l:Nat)(S:1<=K)(hKD:K<=l)(hK:60*K+10*l+100<=100000000)(hop:3<=op/\op<=13)(hn:op=8 -> -12<=n/\n<=12)(o:xs.length=2)(W:3<=op/\op<=6\/12<=op->ys.length=2)(U:LQ K (xs.getD 0 0))(ha:∀ j,LQ l (xs.getD j 0))(J:∀ j,LQ l (ys.getD j 0))(w:World)(h:Hp)(g:G w h)(hA:Sr A b h)(hTa:RTs h b xs)(hD:Sr D d h)(hTb:RTs h d ys):CR 60 #[iV op,iV n,.slice A b.length e,.slice D d.length u,.bool true] w h (fun v h1=>∃ A c ts,v=.tuple #[.slice A (ts:List RT).length c,iV (bI op n (xs.getD 0 0) (ys.getD 0 0))]/\ts.length<=c/\Sr A ts h1/\RTs h1 ts (iA op n xs ys)):=by
 have a:=(((((sS g).aS hA).aT hTa).aS hD).aT hTb);have hla:=(a.f.r.1).len;have hlb:=(a.f.1).len;have hsx:=ij (xs.getD 0 0).num;have hsy:=ij (ys.getD 0 0).num;refine go Tryz.func60 [(0,iV op),(1,iV n),(2,qS A b.length e),(3,qS D d.length u),(4,qT)] rfl (aa a aD (aG (lL a [.c,.v (nV b.length)] (bh 20 ((b.length:Nat)-1) (b.length-1) ?_))));refine lL a ac (aG (lC 21 a (pp 1 oM oM _ _ a.g) ?_));rintro _ w9 _ a ⟨A1,c2,A5,c6,rfl,hc3,hc7,hA4,hA8⟩;replace a:=a.aP hA4 hA8;refine lL a ac (lC 23 a (qK ((1:Int):Rat) A1 c2 A5 c6 hc3 hc7 ((b.length-1)) oM _ _ a.g a.f.2.1 a.f.1) ?_);rintro _ _ YO a ⟨zb,C,za,rfl,zU,ZC,ZD⟩;replace a:=((a.aS ZC).aT ZD);refine lL a ac (ah (aa a ac (aY (ax ?_))));cases zp:((op:Int) == (3:Int))
 .
  have yq:=aj zp;refine lB 26 zp (lL a ac (ag (ax ?_)));cases zq:((op:Int) == (4:Int))
  .
   have yr:=aj zq;refine lB 31 zq (lL a ac (ag (ax ?_)));cases zr:((op:Int) == (7:Int))
   .
    have yt:=aj zr;refine lB 38 zr (lL a ac (ag (ax ?_)));cases zs:((op:Int) == (5:Int))
    .
     have yu:=aj zs;refine lB 43 zs (lL a ac (ag (ax ?_)));cases zt:((op:Int) == (6:Int))
     .
      have yv:=aj zt;refine lB 48 zt (lL a ac (ag (ax ?_)));cases zu:((op:Int) == (8:Int))
      .
       have yw:=aj zu;refine lB 58 zu (lL a ac (ag (cQ (ax ?_))));cases zv:((op:Int) == (12:Int))
       .
        have yx:=aj zv;refine lB 87 zv (lL a ac (ag (kQ ?_)));cases zw:((op:Int) == (13:Int))
        .
         have yA:=aj zw;refine lB 88 zw (lL a ac (ag (cK (aa a ac (lX 108 A b.length e 3 0 0 ((a.f.q.r.2.1).ok oM) ?_)))));obtain ⟨Y,cx,X,dx,Z,B,z,y,x⟩:=(a.f.q.r.1).at_ 0 oM;replace a:=a.aP y x;refine Fo 109 (rA (b.getD 0 fz)) a ((a.f.q.q.2.1).el 0 oM) Z (ar 110 a (xK (xs.getD 0 0) Y cx X dx B z (nl (ha 0)) (nD (ha 0)) _ _ a.g a.f.2.1 a.f.1) (fun _ _ a=>lL a ac (ah (kZ (aa a ac ?_)))));cases zx:((op:Int) == (11:Int))
         .
          have yB:=aj zx;refine lB 113 zx (lL a ac (lG 115 ?_));refine lG 116 (lL a [.v qF,.c] (lG 119 ?_));refine lL a [.v qF,.c] (lN (bH [(0,iV op),(2,qS A b.length e),(10,sZ),(11,iV 0),(12,nV (b.length-1)),(13,qS zb za.length C),(17,iV ((xs.getD 0 0).num.sign)),(111,qF)] ?_));refine dr (aa a ac ?_);cases zA:(((xs.getD 0 0).num.sign:Int) == (0:Int))
          .
           have yC:=aj zA;refine lB 124 zA (lL a ac (ag (aa a ac ?_)));cases zB:((op:Int) == (9:Int))
           .
            have yD:=aj zB;refine lB 127 zB (lL a ac (ag (aa a ac ?_)));have zW:((op:Int) == (11:Int))=false:=eM oM;have cz:=aj zW;refine lB 134 zW (lL a ac (ag (aa a ac ?_)));cases zD:(decide ((0:Int)<((xs.getD 0 0).num.sign:Int)))
            .
             have yE:=oF zD;refine lB 145 zD (lL a ac (ag (cK (ax (lC 147 a (pp 0 oM oM _ _ a.g) ?_)))));rintro _ _ _ a ⟨YP,YQ,YR,YS,rfl,ZE,ZF,ZG,ZH⟩;replace a:=a.aP ZG ZH;refine lL a ac (lC 149 a (qK ((0:Int):Rat) YP YQ YR YS ZE ZF ((b.length-1)) oM _ _ a.g a.f.2.1 a.f.1) ?_);rintro _ _ _ a ⟨YT,YU,zX,rfl,ZI,ZJ,ZK⟩;replace a:=((a.aS ZJ).aT ZK);refine lL a aD (lN (kX ?_));obtain rfl:op=10:=by omega
             exact a.ret [] (.tuple #[qS YT zX.length YU,iV 0]) (by obtain ⟨e1,e2⟩:=fd (op:=10) (n:=n) (xs:=xs) (ys:=ys) (fC oM oM) (r7 oM oM);rw[e1,e2,<-show _=dJ 10 n xs ys from (Cr oM)];exact ⟨_,_,zX,rfl,ZI,a.f.2.1,a.f.1⟩)
            have yE:=oT zD;refine lB 145 zD (lL a ac (ak (aa a di (lN (kX ?_)))));obtain rfl:op=10:=by omega
            exact a.ret [] (.tuple #[qS A b.length e,iV 0]) (by obtain ⟨e1,e2⟩:=fd (op:=10) (n:=n) (xs:=xs) (ys:=ys) (fC oM oM) (r7 oM oM);rw[e1,e2,<-show _=dJ 10 n xs ys from (D3 o oM)];exact ⟨_,_,b,rfl,V,a.f.q.q.2.1,a.f.q.q.1⟩)
           have yD:=eq_of_beq zB;refine lB 127 zB (lL a ac (ak (aa a aD ?_)));have dc:LQ (1) ((((xs.getD 0 0).num.sign:Int):Rat)):=LQ.int oM oM;refine lC 130 a (pp ((xs.getD 0 0).num.sign) oM oM _ _ a.g) ?_;rintro _ _ _ a ⟨YV,YW,YX,c57,rfl,ZL,ZM,ZN,ZO⟩;replace a:=a.aP ZN ZO;have c4:xs.length=2:=o;refine lC 131 a (om A e xs b (((xs.getD 0 0).num.sign:Int):Rat) YV YW YX c57 ZL ZM l 1 oM oM ha (LQ.int oM oM) _ _ a.g a.f.q.q.r.2.1 a.f.q.q.r.1 a.f.2.1 a.f.1) ?_;rintro _ _ _ a ⟨A63,c64,ya,rfl,ZP,ZQ,ZR⟩;replace a:=((a.aS ZQ).aT ZR);refine lL a aD (lN (kX ?_));obtain rfl:op=9:=by omega
           exact a.ret [] (.tuple #[qS A63 ya.length c64,iV 0]) (by obtain ⟨e1,e2⟩:=fd (op:=9) (n:=n) (xs:=xs) (ys:=ys) (fC oM oM) (r7 oM oM);rw[e1,e2,<-show _=dJ 9 n xs ys from (Ib o)];exact ⟨_,_,ya,rfl,ZP,a.f.2.1,a.f.1⟩)
          have yC:=eq_of_beq zA;exact lB 124 zA (lL a ac (ak (aa a aD (ae a [] (.tuple #[sZ,iV 7]) (by obtain ⟨e1,e2⟩:=AK (op:=op) (n:=n) (xs:=xs) (ys:=ys) (fC oM oM) (JQ oM oM);rw[e1,e2];exact ⟨none,0,[],rfl,nR _,SlO.nil,RTs.nil⟩)))))
         have yB:=eq_of_beq zx;refine lB 113 zx (lL a aD ?_);cases zE:(((xs.getD 0 0).num.sign:Int) == (0:Int))
         .
          have yF:=aj zE;refine lB 116 zE (lL a [.v qF,.c] (lG 119 ?_));refine lL a [.v qF,.c] (lN (bH [(0,iV op),(2,qS A b.length e),(10,sZ),(11,iV 0),(12,nV (b.length-1)),(13,qS zb za.length C),(17,iV ((xs.getD 0 0).num.sign)),(111,qF)] ?_));refine dr (aa a ac ?_);have yb:(((xs.getD 0 0).num.sign:Int) == (0:Int))=false:=eM oM;have c3:=aj yb;refine lB 124 yb (lL a ac (ag (aa a ac ?_)));have yc:((op:Int) == (9:Int))=false:=eM oM;have cf:=aj yc;refine lB 127 yc (lL a ac (ag (aa a ac ?_)));have yd:((op:Int) == (11:Int))=true:=sN oM;have cj:=eq_of_beq yd;refine lB 134 yd (lL a ac (ak (aa a pd ?_)));have c8:LQ (1) ((((xs.getD 0 0).num.sign:Int):Rat)):=LQ.int oM oM;refine lC 139 a (pp ((xs.getD 0 0).num.sign) oM oM _ _ a.g) ?_;rintro _ _ _ a ⟨A75,c76,A79,c80,rfl,ZS,ZT,ZU,ZV⟩;replace a:=a.aP ZU ZV;have c5:xs.length=2:=o;refine lC 140 a (om A e xs b (((xs.getD 0 0).num.sign:Int):Rat) A75 c76 A79 c80 ZS ZT l 1 oM oM ha (LQ.int oM oM) _ _ a.g a.f.q.q.r.2.1 a.f.q.q.r.1 a.f.2.1 a.f.1) ?_;rintro _ _ _ a ⟨A86,c87,ZW,rfl,c9,ZX,Ya⟩;replace a:=((a.aS ZX).aT Ya);have ch:[((1:Int):Rat),((0:Int):Rat)].length=2:=rfl;have cm:((pa xs.length).map fun i=>xs.getD i 0*(((xs.getD 0 0).num.sign:Int):Rat)).length=2:=(by rw[N2,N3];exact o);refine lC 141 a (xW zb C [((1:Int):Rat),((0:Int):Rat)] za A86 c87 ((pa xs.length).map fun i=>xs.getD i 0*(((xs.getD 0 0).num.sign:Int):Rat)) ZW 1 (l+1) oM oM (mP (K:=1) oM (LQ.lit kD) (LQ.lit kD)) (l9 (K:=l+1) oM fun i=>(ha i).mul (LQ.int oM oM)) oM _ _ a.g a.f.q.r.2.1 a.f.q.r.1 a.f.2.1 a.f.1) ?_;rintro _ _ _ a ⟨A94,c95,Yb,rfl,c7,Yc,Yd⟩;replace a:=((a.aS Yc).aT Yd);have bt:xs.length=2:=o;have b5:((pa [((1:Int):Rat),((0:Int):Rat)].length).map fun i=>[((1:Int):Rat),((0:Int):Rat)].getD i 0+((pa xs.length).map fun i=>xs.getD i 0*(((xs.getD 0 0).num.sign:Int):Rat)).getD i 0).length=2:=(by rw[N2,N3];exact rfl);refine lC 142 a (iY A e xs b A94 c95 ((pa [((1:Int):Rat),((0:Int):Rat)].length).map fun i=>[((1:Int):Rat),((0:Int):Rat)].getD i 0+((pa xs.length).map fun i=>xs.getD i 0*(((xs.getD 0 0).num.sign:Int):Rat)).getD i 0) Yb l (1+(l+1)+1) oM oM oM ha (l9 (K:=1+(l+1)+1) oM fun i=>((mP (K:=1) oM (LQ.lit kD) (LQ.lit kD)) i).add ((l9 (K:=l+1) oM fun i=>(ha i).mul (LQ.int oM oM)) i)) oM (FJ xs (by rw[o];rfl)) _ _ a.g a.f.q.q.q.r.2.1 a.f.q.q.q.r.1 a.f.2.1 a.f.1) ?_;rintro _ _ _ a ⟨Ye,Yf,zG,rfl,yG,yH,yI⟩;replace a:=((a.aS yH).aT yI);refine lL a aD (lN (kX ?_));obtain rfl:op=11:=by omega
          exact a.ret [] (.tuple #[qS Ye zG.length Yf,iV 0]) (by obtain ⟨e1,e2⟩:=fd (op:=11) (n:=n) (xs:=xs) (ys:=ys) (fC oM oM) (l8 oM oM oM);rw[e1,e2,<-show _=dJ 11 n xs ys from (HI o)];exact ⟨_,_,zG,rfl,yG,a.f.2.1,a.f.1⟩)
         have yF:=eq_of_beq zE;refine lB 116 zE (lL a [.v qT,.c,.c,.v qT,.c] (lN (bH [(0,iV op),(2,qS A b.length e),(10,sZ),(11,iV 0),(12,nV (b.length-1)),(13,qS zb za.length C),(17,iV ((xs.getD 0 0).num.sign)),(111,qT)] ?_)));refine co (aa a di (lN (kX ?_)));obtain rfl:op=11:=by omega
         exact a.ret [] (.tuple #[qS A b.length e,iV 0]) (by obtain ⟨e1,e2⟩:=fd (op:=11) (n:=n) (xs:=xs) (ys:=ys) (fC oM oM) (l8 oM oM oM);rw[e1,e2,<-show _=dJ 11 n xs ys from (De o oM)];exact ⟨_,_,b,rfl,V,a.f.q.q.2.1,a.f.q.q.1⟩)
        have yA:=eq_of_beq zw;refine lB 88 zw (lL a ac (ak (cQ (cR 7 [] mixed a ao ?_))));refine eV 0 89 (qS A b.length e) (eX 1 90 A b.length e 3 0 0 ((a.f.q.r.2.1).ok oM) ?_);obtain ⟨Y,cx,X,dx,Z,B,z,y,x⟩:=(a.f.q.r.1).at_ 0 oM;replace a:=a.aP y x;refine vy 2 91 (rA (b.getD 0 fz)) a ((a.f.q.q.2.1).el 0 oM) Z (eV 3 92 (qS D d.length u) (eX 4 93 D d.length u 3 0 0 ((a.f.q.r.2.1).ok oM) ?_));obtain ⟨Ay,cy,Dy,dy,ey,M,I,Q,O⟩:=(a.f.q.r.1).at_ 0 oM;replace a:=a.aP Q O;refine vy 5 94 (rA (d.getD 0 fz)) a ((a.f.q.q.2.1).el 0 oM) ey (au 6 95 a (fun _ _ a=>IC (xs.getD 0 0) Y cx X dx B z (nl (ha 0)) (nD (ha 0)) (ys.getD 0 0) Ay cy Dy dy M I (nl (J 0)) (nD (J 0)) _ _ a.g a.f.r.2.1 a.f.r.1 a.f.2.1 a.f.1) (fun _ _ a=>bP a (fun _ _ a=>tV 7 16 (iV (dg (xs.getD 0 0) (ys.getD 0 0))) (tN (cQ (kZ (aa a ac ?_)))))));cases zd:((dg (xs.getD 0 0) (ys.getD 0 0):Int) == (0:Int))
        .
         have ye:=aj zd;refine lB 98 zd (lL a ac (lN (bH [(0,iV op),(2,qS A b.length e),(3,qS D d.length u),(4,qT),(10,sZ),(11,iV 0),(12,nV (b.length-1)),(13,qS zb za.length C),(16,iV (dg (xs.getD 0 0) (ys.getD 0 0))),(96,qF)] ?_)));refine dr (aa a ac ?_);cases ze:(decide ((0:Int)<(dg (xs.getD 0 0) (ys.getD 0 0):Int)))
         .
          have yf:=oF ze;refine lB 101 ze (lL a ac ?_);have zH:((op:Int) == (12:Int))=false:=eM oM;have br:=aj zH;exact lB 103 zH (lL a [.v qT,.c] (ak (aa a di (ae a [] (.tuple #[qS A b.length e,iV 0]) (by obtain ⟨e1,e2⟩:=fd (op:=op) (n:=n) (xs:=xs) (ys:=ys) (fC oM oM) (oC oM oM);rw[e1,e2,<-show _=dJ op n xs ys from (xe o oM oM)];exact ⟨_,_,b,rfl,V,a.f.q.q.r.2.1,a.f.q.q.r.1⟩)))))
         have yf:=oT ze;refine lB 101 ze (lL a ac ?_);have zI:((op:Int) == (12:Int))=false:=eM oM;have b4:=aj zI;exact lB 103 zI (lL a [.v qF,.c] (ag (cK (aa a di (ae a [] (.tuple #[qS D d.length u,iV 0]) (by obtain ⟨e1,e2⟩:=fd (op:=op) (n:=n) (xs:=xs) (ys:=ys) (fC oM oM) (oC oM oM);rw[e1,e2,<-show _=dJ op n xs ys from (wU (W oM) oM oM)];exact ⟨_,_,d,rfl,hcD,a.f.q.q.2.1,a.f.q.q.1⟩))))))
        have ye:=eq_of_beq zd;refine lB 98 zd (lL a ac (lN (bH [(0,iV op),(2,qS A b.length e),(3,qS D d.length u),(4,qT),(10,sZ),(11,iV 0),(12,nV (b.length-1)),(13,qS zb za.length C),(16,iV (dg (xs.getD 0 0) (ys.getD 0 0))),(96,qT)] ?_)));exact co (aa a aD (ae a [] (.tuple #[sZ,iV 7]) (by obtain ⟨e1,e2⟩:=AK (op:=op) (n:=n) (xs:=xs) (ys:=ys) (fC oM oM) (EZ oM oM);rw[e1,e2];exact ⟨none,0,[],rfl,nR _,SlO.nil,RTs.nil⟩)))
       have yx:=eq_of_beq zv;refine lB 87 zv (lL a ac (ak (cK (co (cQ (cR 7 [] mixed a ao ?_))))));refine eV 0 89 (qS A b.length e) (eX 1 90 A b.length e 3 0 0 ((a.f.q.r.2.1).ok oM) ?_);obtain ⟨Y,cx,X,dx,Z,B,z,y,x⟩:=(a.f.q.r.1).at_ 0 oM;replace a:=a.aP y x;refine vy 2 91 (rA (b.getD 0 fz)) a ((a.f.q.q.2.1).el 0 oM) Z (eV 3 92 (qS D d.length u) (eX 4 93 D d.length u 3 0 0 ((a.f.q.r.2.1).ok oM) ?_));obtain ⟨Ay,cy,Dy,dy,ey,M,I,Q,O⟩:=(a.f.q.r.1).at_ 0 oM;replace a:=a.aP Q O;refine vy 5 94 (rA (d.getD 0 fz)) a ((a.f.q.q.2.1).el 0 oM) ey (au 6 95 a (fun _ _ a=>IC (xs.getD 0 0) Y cx X dx B z (nl (ha 0)) (nD (ha 0)) (ys.getD 0 0) Ay cy Dy dy M I (nl (J 0)) (nD (J 0)) _ _ a.g a.f.r.2.1 a.f.r.1 a.f.2.1 a.f.1) (fun _ _ a=>bP a (fun _ _ a=>tV 7 16 (iV (dg (xs.getD 0 0) (ys.getD 0 0))) (tN (cQ (kZ (aa a ac ?_)))))));cases zf:((dg (xs.getD 0 0) (ys.getD 0 0):Int) == (0:Int))
       .
        have yg:=aj zf;refine lB 98 zf (lL a ac (lN (bH [(0,iV op),(2,qS A b.length e),(3,qS D d.length u),(4,qT),(10,sZ),(11,iV 0),(12,nV (b.length-1)),(13,qS zb za.length C),(16,iV (dg (xs.getD 0 0) (ys.getD 0 0))),(96,qF)] ?_)));refine dr (aa a ac ?_);cases zg:(decide ((0:Int)<(dg (xs.getD 0 0) (ys.getD 0 0):Int)))
        .
         have yi:=oF zg;refine lB 101 zg (lL a ac ?_);have zJ:((op:Int) == (12:Int))=true:=sN oM;have b0:=eq_of_beq zJ;exact lB 103 zJ (lL a [.v qF,.c] (ag (cK (aa a di (ae a [] (.tuple #[qS D d.length u,iV 0]) (by obtain ⟨e1,e2⟩:=fd (op:=op) (n:=n) (xs:=xs) (ys:=ys) (fC oM oM) (oC oM oM);rw[e1,e2,<-show _=dJ op n xs ys from (wU (W oM) oM oM)];exact ⟨_,_,d,rfl,hcD,a.f.q.q.2.1,a.f.q.q.1⟩))))))
        have yi:=oT zg;refine lB 101 zg (lL a ac ?_);have zK:((op:Int) == (12:Int))=true:=sN oM;have bb:=eq_of_beq zK;exact lB 103 zK (lL a [.v qT,.c] (ak (aa a di (ae a [] (.tuple #[qS A b.length e,iV 0]) (by obtain ⟨e1,e2⟩:=fd (op:=op) (n:=n) (xs:=xs) (ys:=ys) (fC oM oM) (oC oM oM);rw[e1,e2,<-show _=dJ op n xs ys from (xe o oM oM)];exact ⟨_,_,b,rfl,V,a.f.q.q.r.2.1,a.f.q.q.r.1⟩)))))
       have yg:=eq_of_beq zf;refine lB 98 zf (lL a ac (lN (bH [(0,iV op),(2,qS A b.length e),(3,qS D d.length u),(4,qT),(10,sZ),(11,iV 0),(12,nV (b.length-1)),(13,qS zb za.length C),(16,iV (dg (xs.getD 0 0) (ys.getD 0 0))),(96,qT)] ?_)));exact co (aa a aD (ae a [] (.tuple #[sZ,iV 7]) (by obtain ⟨e1,e2⟩:=AK (op:=op) (n:=n) (xs:=xs) (ys:=ys) (fC oM oM) (EZ oM oM);rw[e1,e2];exact ⟨none,0,[],rfl,nR _,SlO.nil,RTs.nil⟩)))
      have yw:=eq_of_beq zu;refine lB 58 zu (lL a ac (ak (cQ (aa a ac ?_))));cases zi:(decide ((n:Int)<(0:Int)))
      .
       have yj:=oF zi;refine lB 60 zi (lL a ac (lG 62 ?_));refine lG 63 (lG 64 (lG 65 (lG 66 (lL a [.v qF] (ag (cK (aa a aD (ah (aa a ac (aY ?_))))))))));replace a:=a.aT (a.f.1);replace a:=a.aS a.f.r.1;refine bH _ (CG.loop (fun μ_ Γ w_=>∃ (k:Nat) (F:Option Addr) (H:Nat) (p:List RT) (h_:Hp),μ_=n.natAbs-k/\Γ=[(0,iV op),(1,iV n),(2,qS A b.length e),(4,qT),(10,sZ),(11,iV 0),(12,nV (b.length-1)),(13,qS zb za.length C),(15,nV k),(14,qS F p.length H)]/\SS w h w_ h_ [] [] [Sr F p,Rt p (il xs k),Rt za ([((1:Int):Rat),((0:Int):Rat)]),Sr zb za,S3 A5 (lim ((1:Int):Rat).den),S3 A1 (lim (ab ((1:Int):Rat).num)),Rt d ys,Sr D d,Rt b xs,Sr A b]/\k<=n.natAbs/\p.length<=H) _ ⟨0,zb,C,za,YO,rfl,rfl,a.to _ _,MG _,zU⟩ ?_);rintro _ _ _ ⟨k,F,H,p,_,cq,rfl,a,hk,hcp⟩;have L:op=8:=by omega
       have hn8:=hn L;have hlp:=(a.f.2.1).len;rw[fl] at hlp
       refine cQ (aa a di (lI 72 (0-n) ?_));refine lV 73 (iV (max (n:Int) (0-n:Int))) ?_ (hr:=aI (n:=(if (0-n:Int)>(n:Int) then (0-n:Int) else (n:Int))) kR (by simp only[qk]));cases zj:(decide ((k:Int)<(max (n:Int) (0-n:Int):Int)))
       .
        have yk:=oF zj;refine lB 74 zj (ag (CG.exit ?_))
        show CG _ _ _ _ _ _ _ _
        refine cQ (aa a ac ?_);cases zk:(decide ((n:Int)<(0:Int)))
        .
         have yl:=oF zk;refine lB 81 zk (ag (cK (aa a di (lN (kX ?_)))));obtain rfl:op=8:=by omega
         exact a.ret [] (.tuple #[qS F p.length H,iV 0]) (by obtain ⟨e1,e2⟩:=fd (op:=8) (n:=n) (xs:=xs) (ys:=ys) (tI (fun h0=>absurd h0 oM)) (l8 oM oM oM);rw[e1,e2,<-show _=dJ 8 n xs ys from (xF (m:=k) oM oM)];exact ⟨_,_,p,rfl,hcp,a.f.1,a.f.2.1⟩)
        have yl:=oT zk;refine lB 81 zk (ak (kQ (lL a aD ?_)));have bd:[((1:Int):Rat),((0:Int):Rat)].length=2:=rfl;have b7:(il xs k).length=2:=(fl xs k);refine lC 84 a (iY zb C [((1:Int):Rat),((0:Int):Rat)] za F H (il xs k) p 1 (12*K+l+3) oM oM oM (mP (K:=1) oM (LQ.lit kD) (LQ.lit kD)) (kV S oM U (ha 1)) oM (by rw[iz];exact iW (fG oM) k) _ _ a.g a.f.r.2.1 a.f.r.1 a.f.1 a.f.2.1) ?_;rintro _ _ _ a ⟨Yg,Yi,zL,rfl,yJ,yK,yL⟩;replace a:=((a.aS yK).aT yL);refine lL a ac (aG (lL a di (lN (kX ?_))));obtain rfl:op=8:=by omega
        exact a.ret [] (.tuple #[qS Yg zL.length Yi,iV 0]) (by obtain ⟨e1,e2⟩:=fd (op:=8) (n:=n) (xs:=xs) (ys:=ys) (tI (fun h0=>fG oM)) (l8 oM oM oM);rw[e1,e2,<-show _=dJ 8 n xs ys from (xN (m:=k) oM oM (fG oM))];exact ⟨_,_,zL,rfl,yJ,a.f.2.1,a.f.1⟩)
       have yk:=oT zj;refine lB 74 zj (ak (cK (cQ (kZ (kQ (lL a aD ?_))))));have bz:(il xs k).length=2:=(fl xs k);have bq:xs.length=2:=o;refine lC 79 a (mD F H (il xs k) p A e xs b (12*K+l+3) l oM oM (kV S oM U (ha 1)) ha oM _ _ a.g a.f.1 a.f.2.1 a.f.q.q.2.1 a.f.q.q.1) ?_;rintro _ _ Yj a ⟨Yk,Yl,yM,rfl,yN,yO,yP⟩;replace a:=((a.aS yO).aT yP);refine lL a ac (lN (kQ (lL a ac (bh 76 ((k:Nat)+1) (k+1) ?_))));refine lL a ac (lD ?_);intro a_ ka;replace a:=((a.tl.tl.tl.tl.aT a.f.1).aS a.f.2.1);refine ⟨_,_,?_,⟨k+1,Yk,Yl,yM,Yj,rfl,rfl,a.to _ _,oM,yN⟩,ka.to _ kR⟩
       omega
      have yj:=oT zi;refine lB 60 zi (lL a aD (lX 63 A b.length e 3 0 0 ((a.f.q.r.2.1).ok oM) ?_));obtain ⟨Y,cx,X,dx,Z,B,z,y,x⟩:=(a.f.q.r.1).at_ 0 oM;replace a:=a.aP y x;refine Fo 64 (rA (b.getD 0 fz)) a ((a.f.q.q.2.1).el 0 oM) Z (ar 65 a (xK (xs.getD 0 0) Y cx X dx B z (nl (ha 0)) (nD (ha 0)) _ _ a.g a.f.2.1 a.f.1) (fun _ Ym a=>?_));cases zl:(((xs.getD 0 0).num.sign:Int) == (0:Int))
      .
       have ym:=aj zl;refine lB 66 zl (lL a [.v qF] (ag (cK (aa a aD (ah (aa a ac (aY ?_)))))));replace a:=a.aT (a.f.r.1);replace a:=a.aS a.f.q.1;refine bH _ (CG.loop (fun μ_ Γ w_=>∃ (k:Nat) (F:Option Addr) (H:Nat) (p:List RT) (h_:Hp),μ_=n.natAbs-k/\Γ=[(0,iV op),(1,iV n),(2,qS A b.length e),(4,qT),(10,sZ),(11,iV 0),(12,nV (b.length-1)),(13,qS zb za.length C),(15,nV k),(14,qS F p.length H)]/\SS w h w_ h_ [] [] [Sr F p,Rt p (il xs k),S3 X (lim (xs.getD 0 0).den),S3 Y (lim (ab (xs.getD 0 0).num)),Rt za ([((1:Int):Rat),((0:Int):Rat)]),Sr zb za,S3 A5 (lim ((1:Int):Rat).den),S3 A1 (lim (ab ((1:Int):Rat).num)),Rt d ys,Sr D d,Rt b xs,Sr A b]/\k<=n.natAbs/\p.length<=H) _ ⟨0,zb,C,za,Ym,rfl,rfl,a.to _ _,MG _,zU⟩ ?_);rintro _ _ _ ⟨k,F,H,p,_,cd,rfl,a,hk,hcp⟩;have L:op=8:=by omega
       have hn8:=hn L;have hlp:=(a.f.2.1).len;rw[fl] at hlp
       refine cQ (aa a di (lI 72 (0-n) ?_));refine lV 73 (iV (max (n:Int) (0-n:Int))) ?_ (hr:=aI (n:=(if (0-n:Int)>(n:Int) then (0-n:Int) else (n:Int))) kR (by simp only[qk]));cases zm:(decide ((k:Int)<(max (n:Int) (0-n:Int):Int)))
       .
        have yn:=oF zm;refine lB 74 zm (ag (CG.exit ?_))
        show CG _ _ _ _ _ _ _ _
        refine cQ (aa a ac ?_);cases zn:(decide ((n:Int)<(0:Int)))
        .
         have yo:=oF zn;refine lB 81 zn (ag (cK (aa a di (lN (kX ?_)))));obtain rfl:op=8:=by omega
         exact a.ret [] (.tuple #[qS F p.length H,iV 0]) (by obtain ⟨e1,e2⟩:=fd (op:=8) (n:=n) (xs:=xs) (ys:=ys) (tI (fun h0=>absurd h0 oM)) (l8 oM oM oM);rw[e1,e2,<-show _=dJ 8 n xs ys from (xF (m:=k) oM oM)];exact ⟨_,_,p,rfl,hcp,a.f.1,a.f.2.1⟩)
        have yo:=oT zn;refine lB 81 zn (ak (kQ (lL a aD ?_)));have b6:[((1:Int):Rat),((0:Int):Rat)].length=2:=rfl;have bl:(il xs k).length=2:=(fl xs k);refine lC 84 a (iY zb C [((1:Int):Rat),((0:Int):Rat)] za F H (il xs k) p 1 (12*K+l+3) oM oM oM (mP (K:=1) oM (LQ.lit kD) (LQ.lit kD)) (kV S oM U (ha 1)) oM (by rw[iz];exact iW (fG oM) k) _ _ a.g a.f.q.2.1 a.f.q.1 a.f.1 a.f.2.1) ?_;rintro _ _ _ a ⟨Yn,Yo,zM,rfl,yQ,yR,yS⟩;replace a:=((a.aS yR).aT yS);refine lL a ac (aG (lL a di (lN (kX ?_))));obtain rfl:op=8:=by omega
        exact a.ret [] (.tuple #[qS Yn zM.length Yo,iV 0]) (by obtain ⟨e1,e2⟩:=fd (op:=8) (n:=n) (xs:=xs) (ys:=ys) (tI (fun h0=>fG oM)) (l8 oM oM oM);rw[e1,e2,<-show _=dJ 8 n xs ys from (xN (m:=k) oM oM (fG oM))];exact ⟨_,_,zM,rfl,yQ,a.f.2.1,a.f.1⟩)
       have yn:=oT zm;refine lB 74 zm (ak (cK (cQ (kZ (kQ (lL a aD ?_))))));have bn:(il xs k).length=2:=(fl xs k);have bm:xs.length=2:=o;refine lC 79 a (mD F H (il xs k) p A e xs b (12*K+l+3) l oM oM (kV S oM U (ha 1)) ha oM _ _ a.g a.f.1 a.f.2.1 a.f.q.q.r.2.1 a.f.q.q.r.1) ?_;rintro _ _ Yp a ⟨Yq,Yr,yT,rfl,yU,yV,yW⟩;replace a:=((a.aS yV).aT yW);refine lL a ac (lN (kQ (lL a ac (bh 76 ((k:Nat)+1) (k+1) ?_))));refine lL a ac (lD ?_);intro a_ ka;replace a:=((a.tl.tl.tl.tl.aT a.f.1).aS a.f.2.1);refine ⟨_,_,?_,⟨k+1,Yq,Yr,yT,Yp,rfl,rfl,a.to _ _,oM,yU⟩,ka.to _ kR⟩
       omega
      have ym:=eq_of_beq zl;exact lB 66 zl (lL a [.v qT] (ak (aa a aD (ae a [] (.tuple #[sZ,iV 6]) (by obtain ⟨e1,e2⟩:=Ez (op:=op) (n:=n) (xs:=xs) (ys:=ys) (Bv oM oM oM);rw[e1,e2];exact ⟨none,0,[],rfl,nR _,SlO.nil,RTs.nil⟩)))))
     have yv:=eq_of_beq zt;refine lB 48 zt (lL a ac (ak (cQ (aa a ac (lX 50 D d.length u 3 0 0 ((a.f.q.2.1).ok oM) ?_)))));obtain ⟨Ay,cy,Dy,dy,ey,M,I,Q,O⟩:=(a.f.q.1).at_ 0 oM;replace a:=a.aP Q O;refine Fo 51 (rA (d.getD 0 fz)) a ((a.f.q.r.2.1).el 0 oM) ey (ar 52 a (xK (ys.getD 0 0) Ay cy Dy dy M I (nl (J 0)) (nD (J 0)) _ _ a.g a.f.2.1 a.f.1) (fun _ _ a=>?_));cases zo:(((ys.getD 0 0).num.sign:Int) == (0:Int))
     .
      have yp:=aj zo;refine lB 53 zo (ag (cK (aa a aD ?_)));have b1:xs.length=2:=o;have cb:ys.length=2:=(W oM);refine lC 56 a (iY A e xs b D u ys d l l oM oM oM ha J oM (fG oM) _ _ a.g a.f.q.q.2.1 a.f.q.q.1 a.f.q.r.2.1 a.f.q.r.1) ?_;rintro _ _ _ a ⟨Ys,Yt,zN,rfl,yX,Za,Zb⟩;replace a:=((a.aS Za).aT Zb);refine lL a aD (lN (kX ?_));obtain rfl:op=6:=by omega
      exact a.ret [] (.tuple #[qS Ys zN.length Yt,iV 0]) (by obtain ⟨e1,e2⟩:=fd (op:=6) (n:=n) (xs:=xs) (ys:=ys) (JP (fG oM)) (l8 oM oM oM);rw[e1,e2,<-show _=dJ 6 n xs ys from (Jr o (fG oM))];exact ⟨_,_,zN,rfl,yX,a.f.2.1,a.f.1⟩)
     have yp:=eq_of_beq zo;exact lB 53 zo (ak (aa a aD (ae a [] (.tuple #[sZ,iV 6]) (by obtain ⟨e1,e2⟩:=Ez (op:=op) (n:=n) (xs:=xs) (ys:=ys) (wI oM oM);rw[e1,e2];exact ⟨none,0,[],rfl,nR _,SlO.nil,RTs.nil⟩))))
    have yu:=eq_of_beq zs;refine lB 43 zs (lL a ac (ak (aa a aD ?_)));have b9:xs.length=2:=o;have bx:ys.length=2:=(W oM);refine lC 46 a (mD A e xs b D u ys d l l oM oM ha J oM _ _ a.g a.f.q.r.2.1 a.f.q.r.1 a.f.q.2.1 a.f.q.1) ?_;rintro _ _ _ a ⟨Yu,Yv,zP,rfl,Zc,Zd,Ze⟩;replace a:=((a.aS Zd).aT Ze);refine lL a aD (lN (kX ?_));obtain rfl:op=5:=by omega
    exact a.ret [] (.tuple #[qS Yu zP.length Yv,iV 0]) (by obtain ⟨e1,e2⟩:=fd (op:=5) (n:=n) (xs:=xs) (ys:=ys) (fC oM oM) (l8 oM oM oM);rw[e1,e2,<-show _=dJ 5 n xs ys from (Ix o)];exact ⟨_,_,zP,rfl,Zc,a.f.2.1,a.f.1⟩)
   have yt:=eq_of_beq zr;refine lB 38 zr (lL a ac (ak (aa a ac (lC 40 a (pp (-1) oM oM _ _ a.g) ?_))));rintro _ _ _ a ⟨Yw,Yx,YA,YB,rfl,Zf,Zg,Zi,Zj⟩;replace a:=a.aP Zi Zj;have cw:xs.length=2:=o;refine lC 41 a (om A e xs b ((-1:Int):Rat) Yw Yx YA YB Zf Zg l 1 oM oM ha (LQ.lit kD) _ _ a.g a.f.q.q.2.1 a.f.q.q.1 a.f.2.1 a.f.1) ?_;rintro _ _ _ a ⟨YC,YD,zQ,rfl,Zk,Zl,Zm⟩;replace a:=((a.aS Zl).aT Zm);refine lL a aD (lN (kX ?_));obtain rfl:op=7:=by omega
   exact a.ret [] (.tuple #[qS YC zQ.length YD,iV 0]) (by obtain ⟨e1,e2⟩:=fd (op:=7) (n:=n) (xs:=xs) (ys:=ys) (fC oM oM) (l8 oM oM oM);rw[e1,e2,<-show _=dJ 7 n xs ys from (Jd o)];exact ⟨_,_,zQ,rfl,Zk,a.f.2.1,a.f.1⟩)
  have yr:=eq_of_beq zq;refine lB 31 zq (lL a ac (ak (aa a aD (lC 34 a (pp (-1) oM oM _ _ a.g) ?_))));rintro _ _ _ a ⟨YE,YF,YG,YH,rfl,Zn,Zo,Zp,Zq⟩;replace a:=a.aP Zp Zq;have cr:ys.length=2:=(W oM);refine lC 35 a (om D u ys d ((-1:Int):Rat) YE YF YG YH Zn Zo l 1 oM oM J (LQ.lit kD) _ _ a.g a.f.q.r.2.1 a.f.q.r.1 a.f.2.1 a.f.1) ?_;rintro _ _ _ a ⟨YI,YJ,Zr,rfl,cv,Zs,Zt⟩;replace a:=((a.aS Zs).aT Zt);have b3:xs.length=2:=o;have bf:((pa ys.length).map fun i=>ys.getD i 0*((-1:Int):Rat)).length=2:=(by rw[N2,N3];exact (W oM));refine lC 36 a (xW A e xs b YI YJ ((pa ys.length).map fun i=>ys.getD i 0*((-1:Int):Rat)) Zr l (l+1) oM oM ha (l9 (K:=l+1) oM fun i=>(J i).mul (LQ.lit kD)) oM _ _ a.g a.f.q.q.r.2.1 a.f.q.q.r.1 a.f.2.1 a.f.1) ?_;rintro _ _ _ a ⟨YK,YL,zR,rfl,Zu,Zv,Zw⟩;replace a:=((a.aS Zv).aT Zw);refine lL a aD (lN (kX ?_));obtain rfl:op=4:=by omega
  exact a.ret [] (.tuple #[qS YK zR.length YL,iV 0]) (by obtain ⟨e1,e2⟩:=fd (op:=4) (n:=n) (xs:=xs) (ys:=ys) (fC oM oM) (l8 oM oM oM);rw[e1,e2,<-show _=dJ 4 n xs ys from (Ik o (W oM))];exact ⟨_,_,zR,rfl,Zu,a.f.2.1,a.f.1⟩)
 have yq:=eq_of_beq zp;refine lB 26 zp (lL a ac (ak (aa a aD ?_)));have bk:xs.length=2:=o;have b2:ys.length=2:=(W oM);refine lC 29 a (xW A e xs b D u ys d l l oM oM ha J oM _ _ a.g a.f.q.r.2.1 a.f.q.r.1 a.f.q.2.1 a.f.q.1) ?_;rintro _ _ _ a ⟨YM,YN,zS,rfl,Zx,ZA,ZB⟩;replace a:=((a.aS ZA).aT ZB);refine lL a aD (lN (kX ?_));obtain rfl:op=3:=by omega
 exact a.ret [] (.tuple #[qS YM zS.length YN,iV 0]) (by obtain ⟨e1,e2⟩:=fd (op:=3) (n:=n) (xs:=xs) (ys:=ys) (fC oM oM) (l8 oM oM oM);rw[e1,e2,<-show _=dJ 3 n xs ys from (Je o)];exact ⟨_,_,zS,rfl,Zx,a.f.2.1,a.f.1⟩)
theorem IX {l:List ByteArray}{k:Nat}{s:ByteArray}(h:k<l.length)(e:l.getD k ⟨#[]⟩=s):s∈l:=by
 rw[<-e,LH,On h];exact gq h
theorem KL {l:List ByteArray}{s:ByteArray}(h:s∈l):∃ i,i<l.length/\l.getD i ⟨#[]⟩=s:=by
 obtain ⟨i,hi,e⟩:=vi.1 h;exact ⟨i,hi,by rw[LH,On hi];exact e⟩
theorem WfT.two {ok:ByteArray->Prop}{d:Nat}{t:Tm}(h:WfT ok (d+1) t):t.ks.length<=2:=by
 have:=h.1;have:=aE t.op
 omega
theorem Bn (j:Bool)(f:Option Addr)(b a:Nat)(l:Option Addr)(i o:Nat)(q:Rat)(w:World)(h:Hp)(g:G w h)(y:RZ h (j,.slice f b a,.slice l i o) q):Calls Tryz.prog 94 #[.agg #[.bool j,.slice f b a,.slice l i o]] w (Ret w h (fun v _=>v=.bool (decide (q.num=0)))):=by
 obtain ⟨has,⟨A,c,D,d,e,B,x,C,u⟩,hz⟩:=y;have e2:(Value.agg #[.bool j,qS f b a,qS l i o])=.agg #[.bool (af q.num),qS A (lim (ab q.num)).length c,qS D (lim (if has then q.den else 0)).length d]:=e;rw[e2];have p:=ES q.num A c (if has then q.den else 0) D d B x w h g C u
 have z:decide ((if has=true then q.den else 0)=0\/q.num=0)=decide (q.num=0):=by
  cases has
  ·rw[decide_eq_true (.inl rfl),decide_eq_true];rw[hz rfl];rfl
  ·have:=q.den_nz
   by_cases e:q.num=0
   ·rw[decide_eq_true (.inr e),decide_eq_true e]
   ·rw[decide_eq_false (fun h=>h.elim this e),decide_eq_false e]
 rw[z] at p
 exact p
theorem rF {op n:Int}{s:Nat}(h0:op≠8->n=0)(h1 : -12<=n)(b:n<=12):min (fB op n ((min s 1073741824:Nat):Int)) 1073741824=((min (dI op n*s) 1073741824:Nat):Int):=by
  unfold fB dI bE
  by_cases e11:op=11
  . rw[if_pos e11,if_pos e11];omega
  . rw[if_neg e11,if_neg e11]
    by_cases e8:op=8/\n≠0
    . rw[if_pos e8,if_pos e8.1]
      have e:(if n<0 then 0-n else n)=((if n.natAbs<=1 then 1 else n.natAbs:Nat):Int):=by have:=e8.2;split<;>split<;>omega
      rw[e]
      generalize hm:(if n.natAbs<=1 then 1 else n.natAbs)=m
      have a:1<=m:=by rw[<-hm];split<;>omega
      rw[<-Int.natCast_mul,Nat.mul_comm]
      rcases Nat.le_total s 1073741824 with h|h
      . rw[Nat.min_eq_left h];omega
      . rw[Nat.min_eq_right h]
        have c:=Nc 1073741824 a;have d:=e4 h (Nc s a)
        omega
    . rw[if_neg e8]
      by_cases e9:op=8
      . rw[if_pos e9]
        have:n=0:=by by_cases z:n=0;exact z;exact absurd ⟨e9,z⟩ e8
        rw[this,if_pos kD];omega
      . rw[if_neg e9];omega
theorem x5  (sm:ByteArray->Prop)(d:Nat)(Y:∀ (r:RTm) (t:Tm) (w:World) (h:Hp),G w h->RmH d h r t->nz sm d t->d<=1000->Calls Tryz.prog 52 #[bJ r] w (Ret w h (fun v _=>∃ m:Int,v=iV m/\1<=m/\m<=(d:Nat))))(op n:Int)(z:Bool)(x:Option Addr)(u p:Nat)(B:Option Addr)(y C:Nat)(q:Rat)(s:ByteArray)(A:Option Addr)(c:Nat)(b:List RTm)(ks:List Tm)(hc:b.length<=c)(hk3:ks.length<=3)(hop : -1000<=op/\op<=1000)(hn : -1000<=n/\n<=1000)(hq:LQ 3000 q)(hsm:sm s)(X:∀ i,i<ks.length->nz sm d (ks.getD i cV))(hd:d+1<=1000)(w:World)(h:Hp)(g:G w h)(O:RZ h (z,.slice x u p,.slice B y C) q)(V:SlO 7 bD bT h A b)(H:Rms d h b ks):CR 52 #[bJ ⟨op,n,z,x,u,p,B,y,C,s,A,b.length,c⟩] w h (fun v _=>∃ m:Int,v=iV m/\1<=m/\m<=(d+1:Nat)):=by
 have a:=((((sS g).add (K:=fun e=>RZ e (z,qS x u p,qS B y C) q) O).aS V).add (K:=fun e=>Rms d e b ks) H);have S:=(a.f.1).len;refine go Tryz.func52 [(0,bJ ⟨op,n,z,x,u,p,B,y,C,s,A,b.length,c⟩)] rfl (ax (lA 1 31 (bD ⟨op,n,z,x,u,p,B,y,C,s,A,b.length,c⟩) a (fun F w2 Q a=>lL a ac (aG (lL a ac (ah (aa a ac (aY ?_))))))));refine bH _ (CG.loop (fun I Γ L=>∃ (k:Nat) (j:Int) (e:Hp),I=b.length-k/\Γ=[(1,pB F),(2,iV 0),(4,nV k),(3,iV j)]/\SS w h L e [⟨F,31,bD ⟨op,n,z,x,u,p,B,y,C,s,A,b.length,c⟩⟩] [] [fun e=>Rms d e b ks,fun e=>SlO 7 bD bT e A b,fun e=>RZ e (z,qS x u p,qS B y C) q]/\k<=b.length/\0<=j/\j<=(d:Int)) _ ⟨0,0,Q,rfl,rfl,a.to _ _,MG _,⟨by omega,by omega⟩⟩ ?_);rintro _ _ w4 ⟨k,j,h5,M,rfl,a,hk,hd0⟩;refine cQ (aa a [.c,.v (qP F 6),.o (qS A b.length c) 0 6 1,.v (nV b.length)] ?_);cases l:(decide ((k:Int)<(b.length:Int)))
 .
  have D:=oF l;refine lB 9 l (ag (CG.exit ?_))
  show CG _ _ _ _ _ _ _ _
  refine aa a ac (lI 21 (j+1) ?_);exact lL a ac (ae a [] (iV (j+1)) (⟨_,rfl,by omega,by omega⟩))
 have D:=oT l;refine lB 9 l (ak (cK (cQ (kZ (kQ (lL a [.c,.v (qP F 6),.o (qS A b.length c) 0 6 1,.c] (lX 16 A b.length c 7 (k:Nat) k ((a.f.2.1).ok oM) ?_)))))));refine lH 17 (bJ (b.getD k bT)) a ((a.f.2.1).el k oM) (lC 18 a (Y (b.getD k bT) (ks.getD k cV) _ _ a.g ((a.f.1).at_ k oM) (X k oM) oM) ?_);rintro _ w8 J a ⟨mk,rfl,Z,U⟩;refine lV 19 (iV (max (j:Int) (mk:Int))) ?_ (hr:=aI (n:=(if (mk:Int)>(j:Int) then (mk:Int) else (j:Int))) kR (by simp only[qk]));refine lL a ac (lN (kQ (lL a ac (bh 11 ((k:Nat)+1) (k+1) ?_))));refine lL a ac (lD ?_);intro a_ W;refine ⟨_,_,?_,⟨k+1,max (j:Int) (mk:Int),J,rfl,rfl,a.to _ _,oM,⟨by omega,by omega⟩⟩,W.to _ kR⟩
 omega
theorem un (sm:ByteArray->Prop):∀ (d:Nat) (r:RTm) (t:Tm) (w:World) (h:Hp),G w h->RmH d h r t->nz sm d t->d<=1000->Calls Tryz.prog 52 #[bJ r] w (Ret w h (fun v _=>∃ m:Int,v=iV m/\1<=m/\m<=(d:Nat)))
  | 0,_,_,_,_,_,x,_,_=>x.elim
  | d+1,r,t,w,h,g,x,wf,hd=>by
    obtain ⟨op,n,b,p,l,f,H,u,F,q,s,A,c,y,ks,rfl,rfl,o,C,B,a⟩:=x.open;obtain ⟨j,z,i,D,I,e⟩:=wf;exact x5 sm d (fun r t w h=>un sm d r t w h) op n b p l f H u F q s A c y ks C j z i D I e hd w h g o B a
theorem wL  (isb:ByteArray->Bool)(sm:ByteArray->Prop)(oa:∀ s,sm s->∀ (w:World) (h:Hp),G w h->Calls Tryz.prog 56 #[.string s] w (Ret w h (fun v _=>∃ b,v=.bool b/\b=isb s)))(d:Nat)(ih:∀ (r:RTm) (t:Tm) (w:World) (h:Hp),G w h->RmH d h r t->nz sm d t ->  Calls Tryz.prog 53 #[bJ r] w (Ret w h (fun v _=>∃ X,v=.bool X/\(X=true↔WfT (fun s=>isb s=true) d t))))(op n:Int)(H:Bool)(J:Option Addr)(D F:Nat)(L:Option Addr)(M I:Nat)(q:Rat)(s:ByteArray)(A:Option Addr)(c:Nat)(y:List RTm)(ks:List Tm)(hc:y.length<=c)(hk3:ks.length<=3)(hop : -1000<=op/\op<=1000)(hn : -1000<=n/\n<=1000)(hq:LQ 3000 q)(hsm:sm s)(hW:∀ i,i<ks.length->nz sm d (ks.getD i cV))(w:World)(h:Hp)(g:G w h)(hZ:RZ h (H,.slice J D F,.slice L M I) q)(hK:SlO 7 bD bT h A y)(hKs:Rms d h y ks):CR 53 #[bJ ⟨op,n,H,J,D,F,L,M,I,s,A,y.length,c⟩] w h (fun v _=>∃ X,v=.bool X/\(X=true↔WfT (fun s=>isb s=true) (d+1) (.mk op n q s ks))):=by
 have a:=((((sS g).add (K:=fun e=>RZ e (H,qS J D F,qS L M I) q) hZ).aS hK).add (K:=fun e=>Rms d e y ks) hKs);have hln:=(a.f.1).len;refine go Tryz.func53 [(0,bJ ⟨op,n,H,J,D,F,L,M,I,s,A,y.length,c⟩)] rfl (ax (lA 1 31 (bD ⟨op,n,H,J,D,F,L,M,I,s,A,y.length,c⟩) a (fun l w2 h3 a=>lL a ac (aG (lL a [.v (pB l),.o (iV op) 0 0 1] (ar 7 a (H8 op _ _ a.g) (fun w4 Y a=>?_)))))));refine lL a ac (ah (CG.join (fun Γ w_=>∃ (U:Bool) (e:Hp),Γ=[(1,pB l),(2,qF),(68,.bool U)]/\SS w h w_ e [⟨l,31,bD ⟨op,n,H,J,D,F,L,M,I,s,A,y.length,c⟩⟩] [] [fun e=>Rms d e y ks,fun e=>SlO 7 bD bT e A y,fun e=>RZ e (H,qS J D F,qS L M I) q]/\(U=true->¬((0<=fv op/\(ks.length:Int)=fv op)/\((op=2->isb s=true)/\(op≠2->s=⟨#[]⟩))/\(op=1\/q.num=0)/\(op=8\/n=0) /\ -12<=n/\n<=12))/\(U=false->((0<=fv op/\(ks.length:Int)=fv op)/\((op=2->isb s=true)/\(op≠2->s=⟨#[]⟩))/\(op=1\/q.num=0)/\(op=8\/n=0) /\ -12<=n/\n<=12))) ?_ ?_))
 .
  refine kQ (lL a ac ?_);cases Q:(decide ((fv op:Int)<(0:Int)))
  .
   have bd:=oF Q;refine lB 9 Q (lL a [.c,.v (qP l 6),.o (qS A y.length c) 0 6 1,.v (nV y.length),.c] ?_);cases O:((y.length:Int) != (fv op:Int))
   .
    have W:=aW O;refine lB 15 O (lL a [.v qF,.c,.v (pB l),.o (iV op) 0 0 1] ?_);cases S:((op:Int) == (2:Int))
    .
     have bf:=aj S;refine lB 20 S (lL a ac (lG 22 ?_));refine lG 23 (lG 24 (lG 25 (lL a [.v qF,.v qF,.c,.v (pB l),.o (iV op) 0 0 1] ?_)));have V:((op:Int) != (2:Int))=true:=AE oM;have b7:=aN V;refine lB 31 V (lL a [.c,.v (qP l 5),.o (.string s) 0 5 1] ?_);cases zb:(mh s (⟨#[]⟩))
     .
      have zw:=oH zb;refine lB 35 zb (lL a [.v qF,.v qF,.c,.v (pB l),.o (iV op) 0 0 1] ?_);cases zd:((op:Int) != (1:Int))
      .
       have zx:=aW zd;refine lB 41 zd (lL a ac (lG 43 ?_));refine lG 44 (lG 45 (lG 46 (lL a [.v qF,.v qF,.c,.v (pB l),.o (iV op) 0 0 1] ?_)));have zp:((op:Int) != (8:Int))=true:=AE oM;have bl:=aN zp;refine lB 52 zp (lL a [.c,.v (qP l 1),.o (iV n) 0 1 1] ?_);cases ze:((n:Int) != (0:Int))
       .
        have zB:=aW ze;refine lB 56 ze (lL a [.v qF,.v qF,.c,.v (qP l 1),.o (iV n) 0 1 1] ?_);have ⟨zM,b2⟩:=dF (p:=(n:Int)<(-12:Int)) oM;refine lB 62 zM (lL a [.v qF,.c,.v (qP l 1),.o (iV n) 0 1 1] ?_);have ⟨zN,bn⟩:=dF (p:=(12:Int)<(n:Int)) oM;refine lB 67 zN (lL a [.v qF] (lD ?_));intro B j;exact ⟨_,⟨false,Y,rfl,a.to _ _,(fun e=>absurd e kD),(fun _=>⟨by omega,⟨fun e=>by first|exact u.symm.trans aM|exact absurd e oM,fun e=>by first|assumption|exact absurd e oM⟩,by omega,by omega⟩)⟩,j.to _ kR⟩
       have zB:=aN ze;refine lB 56 ze (lL a [.v qT,.v qT,.c] (lG 60 ?_));refine lG 61 (lG 62 (lL a [.v qT,.c] (lG 65 ?_)));refine lG 66 (lG 67 (lL a [.v qT] (lD ?_)));intro B j;exact ⟨_,⟨true,Y,rfl,a.to _ _,(fun _ e=>by first|exact Ob ((e.2.1.1 oM).symm.trans (u.symm.trans aM))|exact absurd (e.2.1.2 oM) aM|(have x:=e.1;have z:=e.2.2;omega)),(fun e=>absurd e kD)⟩,j.to _ kR⟩
      have zx:=aN zd;refine lB 41 zd (lL a [.c,.v (qP l 2),.o (.agg #[.bool H,qS J D F,qS L M I]) 0 2 3] (ar 45 a (Bn H J D F L M I q _ _ a.g a.f.r.1) (fun _ za a=>?_)));cases zq:(decide (q.num=0))
      .
       have zD:=oF zq;refine lL a [.v qT,.v qT,.v qT,.c] (lG 50 ?_);refine lG 51 (lG 52 (lG 53 (lG 54 (lG 55 (lG 56 (lG 57 (lL a [.v qT,.c] (lG 60 ?_))))))));refine lG 61 (lG 62 (lL a [.v qT,.c] (lG 65 ?_)));refine lG 66 (lG 67 (lL a [.v qT] (lD ?_)));intro B j;exact ⟨_,⟨true,za,rfl,a.to _ _,(fun _ e=>by first|exact Ob ((e.2.1.1 oM).symm.trans (u.symm.trans aM))|exact absurd (e.2.1.2 oM) aM|(have x:=e.1;have z:=e.2.2;omega)),(fun e=>absurd e kD)⟩,j.to _ kR⟩
      have zD:=oT zq;refine lL a [.v qF,.v qF,.v qF,.c,.v (pB l),.o (iV op) 0 0 1] ?_;cases zf:((op:Int) != (8:Int))
      .
       have zE:=aW zf;refine lB 52 zf (lL a ac (lG 54 ?_));refine lG 55 (lG 56 (lL a [.v qF,.v qF,.c,.v (qP l 1),.o (iV n) 0 1 1] ?_));cases zg:(decide ((n:Int)<(-12:Int)))
       .
        have zG:=oF zg;refine lB 62 zg (lL a [.v qF,.c,.v (qP l 1),.o (iV n) 0 1 1] ?_);cases zi:(decide ((12:Int)<(n:Int)))
        .
         have zH:=oF zi;refine lB 67 zi (lL a [.v qF] (lD ?_));intro B j;exact ⟨_,⟨false,za,rfl,a.to _ _,(fun e=>absurd e kD),(fun _=>⟨by omega,⟨fun e=>by first|exact u.symm.trans aM|exact absurd e oM,fun e=>by first|assumption|exact absurd e oM⟩,by omega,by omega⟩)⟩,j.to _ kR⟩
        have zH:=oT zi;refine lB 67 zi (lL a [.v qT] (lD ?_));intro B j;exact ⟨_,⟨true,za,rfl,a.to _ _,(fun _ e=>by first|exact Ob ((e.2.1.1 oM).symm.trans (u.symm.trans aM))|exact absurd (e.2.1.2 oM) aM|(have x:=e.1;have z:=e.2.2;omega)),(fun e=>absurd e kD)⟩,j.to _ kR⟩
       have zG:=oT zg;refine lB 62 zg (lL a [.v qT,.c] (lG 65 ?_));refine lG 66 (lG 67 (lL a [.v qT] (lD ?_)));intro B j;exact ⟨_,⟨true,za,rfl,a.to _ _,(fun _ e=>by first|exact Ob ((e.2.1.1 oM).symm.trans (u.symm.trans aM))|exact absurd (e.2.1.2 oM) aM|(have x:=e.1;have z:=e.2.2;omega)),(fun e=>absurd e kD)⟩,j.to _ kR⟩
      have zE:=aN zf;refine lB 52 zf (lL a [.c,.v (qP l 1),.o (iV n) 0 1 1] ?_);cases zj:((n:Int) != (0:Int))
      .
       have zI:=aW zj;refine lB 56 zj (lL a [.v qF,.v qF,.c,.v (qP l 1),.o (iV n) 0 1 1] ?_);have ⟨zP,bz⟩:=dF (p:=(n:Int)<(-12:Int)) oM;refine lB 62 zP (lL a [.v qF,.c,.v (qP l 1),.o (iV n) 0 1 1] ?_);have ⟨zQ,b3⟩:=dF (p:=(12:Int)<(n:Int)) oM;refine lB 67 zQ (lL a [.v qF] (lD ?_));intro B j;exact ⟨_,⟨false,za,rfl,a.to _ _,(fun e=>absurd e kD),(fun _=>⟨by omega,⟨fun e=>by first|exact u.symm.trans aM|exact absurd e oM,fun e=>by first|assumption|exact absurd e oM⟩,by omega,by omega⟩)⟩,j.to _ kR⟩
      have zI:=aN zj;refine lB 56 zj (lL a [.v qT,.v qT,.c] (lG 60 ?_));refine lG 61 (lG 62 (lL a [.v qT,.c] (lG 65 ?_)));refine lG 66 (lG 67 (lL a [.v qT] (lD ?_)));intro B j;exact ⟨_,⟨true,za,rfl,a.to _ _,(fun _ e=>by first|exact Ob ((e.2.1.1 oM).symm.trans (u.symm.trans aM))|exact absurd (e.2.1.2 oM) aM|(have x:=e.1;have z:=e.2.2;omega)),(fun e=>absurd e kD)⟩,j.to _ kR⟩
     have zw:=oG zb;refine lB 35 zb (lL a [.v qT,.v qT,.c] (lG 39 ?_));refine lG 40 (lG 41 (lG 42 (lG 43 (lG 44 (lG 45 (lG 46 (lG 47 (lL a [.v qT,.c] (lG 50 ?_)))))))));refine lG 51 (lG 52 (lG 53 (lG 54 (lG 55 (lG 56 (lG 57 (lL a [.v qT,.c] (lG 60 ?_))))))));refine lG 61 (lG 62 (lL a [.v qT,.c] (lG 65 ?_)));refine lG 66 (lG 67 (lL a [.v qT] (lD ?_)));intro B j;exact ⟨_,⟨true,Y,rfl,a.to _ _,(fun _ e=>by first|exact Ob ((e.2.1.1 oM).symm.trans (u.symm.trans aM))|exact absurd (e.2.1.2 oM) aM|(have x:=e.1;have z:=e.2.2;omega)),(fun e=>absurd e kD)⟩,j.to _ kR⟩
    have bf:=eq_of_beq S;refine lB 20 S (lL a [.c,.v (qP l 5),.o (.string s) 0 5 1] (lC 24 a (oa s hsm _ _ a.g) ?_));rintro _ _ zW a ⟨bi,rfl,u⟩;cases b6:(bi)
    .
     refine lL a [.v qT,.v qT,.v qT,.c] (lG 29 ?_);refine lG 30 (lG 31 (lG 32 (lG 33 (lG 34 (lG 35 (lG 36 (lL a [.v qT,.c] (lG 39 ?_))))))));refine lG 40 (lG 41 (lG 42 (lG 43 (lG 44 (lG 45 (lG 46 (lG 47 (lL a [.v qT,.c] (lG 50 ?_)))))))));refine lG 51 (lG 52 (lG 53 (lG 54 (lG 55 (lG 56 (lG 57 (lL a [.v qT,.c] (lG 60 ?_))))))));refine lG 61 (lG 62 (lL a [.v qT,.c] (lG 65 ?_)));refine lG 66 (lG 67 (lL a [.v qT] (lD ?_)));intro B j;exact ⟨_,⟨true,zW,rfl,a.to _ _,(fun _ e=>by first|exact Ob ((e.2.1.1 oM).symm.trans (u.symm.trans aM))|exact absurd (e.2.1.2 oM) aM|(have x:=e.1;have z:=e.2.2;omega)),(fun e=>absurd e kD)⟩,j.to _ kR⟩
    refine lL a [.v qF,.v qF,.v qF,.c,.v (pB l),.o (iV op) 0 0 1] ?_;have zr:((op:Int) != (2:Int))=false:=JI oM;have bt:=aW zr;refine lB 31 zr (lL a ac (lG 33 ?_));refine lG 34 (lG 35 (lL a [.v qF,.v qF,.c,.v (pB l),.o (iV op) 0 0 1] ?_));have zs:((op:Int) != (1:Int))=true:=AE oM;have b0:=aN zs;refine lB 41 zs (lL a [.c,.v (qP l 2),.o (.agg #[.bool H,qS J D F,qS L M I]) 0 2 3] (ar 45 a (Bn H J D F L M I q _ _ a.g a.f.r.1) (fun _ zt a=>?_)));cases zu:(decide (q.num=0))
    .
     have zJ:=oF zu;refine lL a [.v qT,.v qT,.v qT,.c] (lG 50 ?_);refine lG 51 (lG 52 (lG 53 (lG 54 (lG 55 (lG 56 (lG 57 (lL a [.v qT,.c] (lG 60 ?_))))))));refine lG 61 (lG 62 (lL a [.v qT,.c] (lG 65 ?_)));refine lG 66 (lG 67 (lL a [.v qT] (lD ?_)));intro B j;exact ⟨_,⟨true,zt,rfl,a.to _ _,(fun _ e=>by first|exact Ob ((e.2.1.1 oM).symm.trans (u.symm.trans aM))|exact absurd (e.2.1.2 oM) aM|(have x:=e.1;have z:=e.2.2;omega)),(fun e=>absurd e kD)⟩,j.to _ kR⟩
    have zJ:=oT zu;refine lL a [.v qF,.v qF,.v qF,.c,.v (pB l),.o (iV op) 0 0 1] ?_;have zv:((op:Int) != (8:Int))=true:=AE oM;have bx:=aN zv;refine lB 52 zv (lL a [.c,.v (qP l 1),.o (iV n) 0 1 1] ?_);cases zk:((n:Int) != (0:Int))
    .
     have zK:=aW zk;refine lB 56 zk (lL a [.v qF,.v qF,.c,.v (qP l 1),.o (iV n) 0 1 1] ?_);have ⟨zR,br⟩:=dF (p:=(n:Int)<(-12:Int)) oM;refine lB 62 zR (lL a [.v qF,.c,.v (qP l 1),.o (iV n) 0 1 1] ?_);have ⟨zS,bm⟩:=dF (p:=(12:Int)<(n:Int)) oM;refine lB 67 zS (lL a [.v qF] (lD ?_));intro B j;exact ⟨_,⟨false,zt,rfl,a.to _ _,(fun e=>absurd e kD),(fun _=>⟨by omega,⟨fun e=>by first|exact u.symm.trans aM|exact absurd e oM,fun e=>by first|assumption|exact absurd e oM⟩,by omega,by omega⟩)⟩,j.to _ kR⟩
    have zK:=aN zk;refine lB 56 zk (lL a [.v qT,.v qT,.c] (lG 60 ?_));refine lG 61 (lG 62 (lL a [.v qT,.c] (lG 65 ?_)));refine lG 66 (lG 67 (lL a [.v qT] (lD ?_)));intro B j;exact ⟨_,⟨true,zt,rfl,a.to _ _,(fun _ e=>by first|exact Ob ((e.2.1.1 oM).symm.trans (u.symm.trans aM))|exact absurd (e.2.1.2 oM) aM|(have x:=e.1;have z:=e.2.2;omega)),(fun e=>absurd e kD)⟩,j.to _ kR⟩
   have W:=aN O;refine lB 15 O (lL a [.v qT,.c] (lG 18 ?_));refine lG 19 (lG 20 (lG 21 (lG 22 (lG 23 (lG 24 (lG 25 (lG 26 (lL a [.v qT,.c] (lG 29 ?_)))))))));refine lG 30 (lG 31 (lG 32 (lG 33 (lG 34 (lG 35 (lG 36 (lL a [.v qT,.c] (lG 39 ?_))))))));refine lG 40 (lG 41 (lG 42 (lG 43 (lG 44 (lG 45 (lG 46 (lG 47 (lL a [.v qT,.c] (lG 50 ?_)))))))));refine lG 51 (lG 52 (lG 53 (lG 54 (lG 55 (lG 56 (lG 57 (lL a [.v qT,.c] (lG 60 ?_))))))));refine lG 61 (lG 62 (lL a [.v qT,.c] (lG 65 ?_)));refine lG 66 (lG 67 (lL a [.v qT] (lD ?_)));intro B j;exact ⟨_,⟨true,Y,rfl,a.to _ _,(fun _ e=>by first|exact Ob ((e.2.1.1 oM).symm.trans (u.symm.trans aM))|exact absurd (e.2.1.2 oM) aM|(have x:=e.1;have z:=e.2.2;omega)),(fun e=>absurd e kD)⟩,j.to _ kR⟩
  have bd:=oT Q;refine lB 9 Q (lL a ac (lG 11 ?_));refine lG 12 (lG 13 (lG 14 (lG 15 (lL a [.v qT,.c] (lG 18 ?_)))));refine lG 19 (lG 20 (lG 21 (lG 22 (lG 23 (lG 24 (lG 25 (lG 26 (lL a [.v qT,.c] (lG 29 ?_)))))))));refine lG 30 (lG 31 (lG 32 (lG 33 (lG 34 (lG 35 (lG 36 (lL a [.v qT,.c] (lG 39 ?_))))))));refine lG 40 (lG 41 (lG 42 (lG 43 (lG 44 (lG 45 (lG 46 (lG 47 (lL a [.v qT,.c] (lG 50 ?_)))))))));refine lG 51 (lG 52 (lG 53 (lG 54 (lG 55 (lG 56 (lG 57 (lL a [.v qT,.c] (lG 60 ?_))))))));refine lG 61 (lG 62 (lL a [.v qT,.c] (lG 65 ?_)));refine lG 66 (lG 67 (lL a [.v qT] (lD ?_)));intro B j;exact ⟨_,⟨true,Y,rfl,a.to _ _,(fun _ e=>by first|exact Ob ((e.2.1.1 oM).symm.trans (u.symm.trans aM))|exact absurd (e.2.1.2 oM) aM|(have x:=e.1;have z:=e.2.2;omega)),(fun e=>absurd e kD)⟩,j.to _ kR⟩
 rintro _ _ ⟨U,zX,rfl,a,zU,C⟩;cases zl:(U)
 .
  try rw[zl] at a
  try rw[zl]
  refine dr (cK (cQ (aa a ac (aY ?_))));refine bH _ (CG.loop (fun μ_ Γ w_=>∃ (k:Nat) (e:Hp),μ_=y.length-k/\Γ=[(1,pB l),(4,nV k)]/\SS w h w_ e [⟨l,31,bD ⟨op,n,H,J,D,F,L,M,I,s,A,y.length,c⟩⟩] [] [fun e=>Rms d e y ks,fun e=>SlO 7 bD bT e A y,fun e=>RZ e (H,qS J D F,qS L M I) q]/\k<=y.length/\(∀ i,i<k->WfT (fun s=>isb s=true) d (ks.getD i cV))) _ ⟨0,zX,rfl,rfl,a.to _ _,MG _,(fun i hi=>absurd hi (N8 i))⟩ ?_);rintro _ _ _ ⟨k,_,b5,rfl,a,hk,hWk⟩;refine cQ (aa a [.c,.v (qP l 6),.o (qS A y.length c) 0 6 1,.v (nV y.length)] ?_);cases zm:(decide ((k:Int)<(y.length:Int)))
  .
   have zL:=oF zm;refine lB 73 zm (ag (CG.exit ?_))
   show CG _ _ _ _ _ _ _ _
   exact aa a ac (ae a [] qT (ET ⟨by have x:=(C aM).1;omega,(C aM).2.2.1,(C aM).2.1,(C aM).2.2.2⟩ hq (fun i hi=>hWk i oM)))
  have zL:=oT zm;refine lB 73 zm (ak (cK (cQ (kZ (aa a [.v (qP l 6),.o (qS A y.length c) 0 6 1,.c] (lX 79 A y.length c 7 (k:Nat) k ((a.f.2.1).ok oM) ?_))))));refine lH 80 (bJ (y.getD k bT)) a ((a.f.2.1).el k oM) (lC 81 a (ih (y.getD k bT) (ks.getD k cV) _ _ a.g ((a.f.1).at_ k oM) (hW k oM)) ?_);rintro _ _ ya a ⟨bk,rfl,Z⟩;cases b4:(bk)
  .
   exact lL a [.v qT] (ak (aa a ac (ae a [] qF (E5 (k:=k) oM aM Z))))
  refine lL a [.v qF] (ag (cK (kQ (lL a ac (bh 75 ((k:Nat)+1) (k+1) ?_)))));refine lL a ac (lD ?_);intro B j;refine ⟨_,_,?_,⟨k+1,ya,rfl,rfl,a.to _ _,oM,(fun i hi=>by rcases Ou.1 hi with e|rfl;exact hWk i e;exact Z.1 aM)⟩,j.to _ kR⟩
  omega
 try rw[zl] at a
 try rw[zl]
 exact co (aa a ac (ae a [] qF (rp (fun e=>zU aM ⟨by have x:=e.1;omega,e.2.2.1,e.2.1,e.2.2.2⟩))))
theorem qw (isb:ByteArray->Bool)(sm:ByteArray->Prop)(oa:∀ s,sm s->∀ (w:World) (h:Hp),G w h->Calls Tryz.prog 56 #[.string s] w (Ret w h (fun v _=>∃ b,v=.bool b/\b=isb s))):∀ (d:Nat) (r:RTm) (t:Tm) (w:World) (h:Hp),G w h->RmH d h r t->nz sm d t ->  Calls Tryz.prog 53 #[bJ r] w (Ret w h (fun v _=>∃ e,v=.bool e/\(e=true↔WfT (fun s=>isb s=true) d t)))
  | 0,_,_,_,_,_,x,_=>x.elim
  | d+1,r,t,w,h,g,x,wf=>by
    obtain ⟨op,n,b,u,o,i,H,y,I,q,s,A,c,z,ks,rfl,rfl,p,D,C,a⟩:=x.open;obtain ⟨l,B,j,F,J,f⟩:=wf;exact wL isb sm oa d (fun r t w h=>qw isb sm oa d r t w h) op n b u o i H y I q s A c z ks D l B j F J f w h g p C a
theorem EO  (ok:ByteArray->Prop)(d:Nat)(ih:∀ (r:RTm) (t:Tm) (w:World) (h:Hp),G w h->RmH d h r t->WfT ok d t->Calls Tryz.prog 54 #[bJ r] w (Ret w h (fun v _=>v=iV ((min (bZ d t) 1073741824:Nat):Int))))(op n:Int)(B:Bool)(x:Option Addr)(u p:Nat)(C:Option Addr)(y D:Nat)(q:Rat)(s:ByteArray)(A:Option Addr)(c:Nat)(b:List RTm)(ks:List Tm)(hc:b.length<=c)(hk3:ks.length<=2)(V:fv op=(ks.length:Nat))(hq0:op≠1->q=0)(hq:LQ 3000 q)(hok:op=2->ok s)(hs0:op≠2->s=⟨#[]⟩)(M:op≠8->n=0)(F : -12<=n)(I:n<=12)(hW:∀ i,i<ks.length->WfT ok d (ks.getD i cV))(w:World)(h:Hp)(g:G w h)(X:RZ h (B,.slice x u p,.slice C y D) q)(hK:SlO 7 bD bT h A b)(O:Rms d h b ks):CV 54 #[bJ ⟨op,n,B,x,u,p,C,y,D,s,A,b.length,c⟩] w h (iV ((min (bZ (d+1) (.mk op n q s ks)) 1073741824:Nat):Int)):=by
 have a:=((((sS g).add (K:=fun e=>RZ e (B,qS x u p,qS C y D) q) X).aS hK).add (K:=fun e=>Rms d e b ks) O);have Z:=(a.f.1).len;refine go Tryz.func54 [(0,bJ ⟨op,n,B,x,u,p,C,y,D,s,A,b.length,c⟩)] rfl (ax (lA 1 31 (bD ⟨op,n,B,x,u,p,C,y,D,s,A,b.length,c⟩) a (fun z w2 Y a=>lL a ac (ah (aa a [.v (qP z 6),.o (qS A b.length c) 0 6 1,.v (nV b.length)] ?_)))));cases l:((b.length:Int) == (0:Int))
 .
  have H:=aj l;refine lB 8 l (ag (cK (aa a ac (ah (aa a ac (aY ?_))))));refine bH _ (CG.loop (fun S Γ W=>∃ (k:Nat) (sm:Nat) (e:Hp),S=b.length-k/\Γ=[(1,pB z),(2,iV 0),(4,nV k),(3,nV sm)]/\SS w h W e [⟨z,31,bD ⟨op,n,B,x,u,p,C,y,D,s,A,b.length,c⟩⟩] [] [fun e=>Rms d e b ks,fun e=>SlO 7 bD bT e A b,fun e=>RZ e (B,qS x u p,qS C y D) q]/\k<=b.length/\sm=min (dO (fun i=>bZ d (ks.getD i cV)) k) 1073741824) _ ⟨0,0,Y,rfl,rfl,a.to _ _,MG _,rfl⟩ ?_);rintro _ _ w5 ⟨k,sm,h6,hm7,rfl,a,hk,L⟩;have hs1:(dO (fun i=>bZ d (ks.getD i cV)) (k+1))=(dO (fun i=>bZ d (ks.getD i cV)) k)+bZ d (ks.getD k cV):=rfl;refine cQ (aa a [.c,.v (qP z 6),.o (qS A b.length c) 0 6 1,.v (nV b.length)] ?_);cases j:(decide ((k:Int)<(b.length:Int)))
  .
   have J:=oF j;refine lB 13 j (ag (CG.exit ?_))
   show CG _ _ _ _ _ _ _ _
   refine aa a [.v (pB z),.o (iV op) 0 0 1,.v (qP z 1),.o (iV n) 0 1 1,.c] (ar 30 a (Db op n (sm:Nat) oM (fun _=>⟨F,I⟩) _ _ a.g) (fun w9 _ a=>lL a ac (lN (kX ?_))));have U:k=ks.length:=by omega
   have Q:=jO (d:=d) (op:=op) (n:=n) (q:=q) (s:=s) (ks:=ks) oM;rw[U] at L
   exact a.ret [] (iV (min (fB op n (sm:Nat)) 1073741824)) (congrArg (Value.int .i64) (by rw[Q,L];exact rF M F I))
  have J:=oT j;refine lB 13 j (ak (cK (cQ (kZ (kQ (lL a [.c,.v (qP z 6),.o (qS A b.length c) 0 6 1,.c] (lX 20 A b.length c 7 (k:Nat) k ((a.f.2.1).ok oM) ?_)))))));refine lH 21 (bJ (b.getD k bT)) a ((a.f.2.1).el k oM) (ar 22 a (ih (b.getD k bT) (ks.getD k cV) _ _ a.g ((a.f.1).at_ k oM) (hW k oM)) (fun _ za a=>lI 23 ((sm:Nat)+((min (bZ d (ks.getD k cV)) 1073741824:Nat):Int)) (lV 24 (iV ((min (dO (fun i=>bZ d (ks.getD i cV)) (k+1)) 1073741824:Nat):Int)) ?_ (hr:=aI (n:=if (1073741824:Int)<((sm:Nat)+((min (bZ d (ks.getD k cV)) 1073741824:Nat):Int)) then (1073741824:Int) else ((sm:Nat)+((min (bZ d (ks.getD k cV)) 1073741824:Nat):Int))) kR (by split<;>omega)))));refine lL a ac (lN (kQ (lL a ac (bh 15 ((k:Nat)+1) (k+1) ?_))));refine lL a ac (lD ?_);intro a_ ka;refine ⟨_,_,?_,⟨k+1,(min (dO (fun i=>bZ d (ks.getD i cV)) (k+1)) 1073741824),za,rfl,rfl,a.to _ _,oM,rfl⟩,ka.to _ kR⟩
  omega
 have H:=eq_of_beq l;exact lB 8 l (ak (aa a ac (ae a [] (iV 1) (congrArg (Value.int .i64) (by rw[uM oM];rfl)))))
theorem wW (ok:ByteArray->Prop):∀ (d:Nat) (r:RTm) (t:Tm) (w:World) (h:Hp),G w h->RmH d h r t->WfT ok d t->Calls Tryz.prog 54 #[bJ r] w (Ret w h (fun v _=>v=iV ((min (bZ d t) 1073741824:Nat):Int)))
  | 0,_,_,_,_,_,x,_=>x.elim
  | d+1,r,t,w,h,g,x,wf=>by
    obtain ⟨op,n,b,u,o,j,I,y,J,q,s,A,c,C,ks,rfl,rfl,p,H,F,a⟩:=x.open;have e:ks.length<=2:=wf.two;obtain ⟨w1,w2,w3,D,B,z,i,l,f⟩:=wf;exact EO ok d (fun r t w h=>wW ok d r t w h) op n b u o j I y J q s A c C ks H e w1 w2 w3 D B z i l f w h g p F a
theorem Cj  (isb:ByteArray->Bool)(sm:ByteArray->Prop)(oa:∀ s,sm s->∀ (w:World) (h:Hp),G w h->Calls Tryz.prog 56 #[.string s] w (Ret w h (fun v _=>∃ b,v=.bool b/\b=isb s)))(d:Nat)(r:RTm)(t:Tm)(F:d<=24)(w:World)(h:Hp)(g:G w h)(hR:RmH d h r t)(u:nz sm d t):CR 26 #[bJ r] w h (fun v _=>∃ e:Int,v=iV e/\(e=0↔WfT (fun s=>isb s=true) d t/\bZ d t<=1000)):=by
 have a:=((sS g).add (K:=fun j=>RmH d j r t) hR);refine go Tryz.func26 [(0,bJ r)] rfl (ax (lA 1 31 (bD r) a (fun J w2 H a=>lL a ac (ah (kZ (aa a [.o (bJ r) 0 0 7] (lC 5 a (un sm d r t _ _ a.g a.f.1 u oM) ?_)))))));rintro _ I M a ⟨y,rfl,C,x⟩;cases i:(decide ((24:Int)<(y:Int)))
 .
  have p:=oF i;refine lB 6 i (lL a ac (ag (aa a [.o (bJ r) 0 0 7] (lC 9 a (qw isb sm oa d r t _ _ a.g a.f.1 u) ?_))));rintro _ D L a ⟨z,rfl,l⟩;cases B:(z)
  .
   exact lL a [.v qT,.c] (ak (aa a ac (ae a [] (iV 2) (⟨_,rfl,fun j=>absurd j kD,fun j=>Ob ((l.2 j.1).symm.trans aM)⟩))))
  refine lL a [.v qF,.c] (ag (aa a [.o (bJ r) 0 0 7] (ar 13 a (wW (fun s=>isb s=true) d r t _ _ a.g a.f.1 (l.1 aM)) (fun _ _ a=>?_))));cases za:(decide ((1000:Int)<(((min (bZ d t) 1073741824:Nat):Int):Int)))
  .
   have zb:=oF za;exact lB 14 za (lL a ac (ag (cK (aa a ac (ae a [] (iV 0) (⟨_,rfl,fun _=>⟨l.1 aM,by omega⟩,fun _=>rfl⟩))))))
  have zb:=oT za;exact lB 14 za (lL a ac (ak (aa a ac (ae a [] (iV 18) (⟨_,rfl,fun j=>absurd j kD,fun j=>by have:=j.2;omega⟩)))))
 have p:=oT i;refine lB 6 i (lL a ac (ak (aa a ac (lN (kX ?_)))))
 exfalso;omega
theorem uL (A:Option Addr)(c:Nat)(ns:List ByteArray)(s:ByteArray)(J:ns.length<=1000)(w:World)(h:Hp)(g:G w h)(H:SlO 1 bB ⟨#[]⟩ h A ns):CR 57 #[.slice A ns.length c,.string s] w h (fun v _=>∃ b,v=.bool b/\(b=true↔s∈ns)):=by
 have a:=((sS g).aS H);refine go Tryz.func57 [(0,qS A ns.length c),(1,.string s)] rfl (aa a ac (ah (aa a ac (aY ?_))));refine bH _ (CG.loop (fun u Γ B=>∃ (k:Nat) (d:Hp),u=ns.length-k/\Γ=[(0,qS A ns.length c),(1,.string s),(5,nV k)]/\SS w h B d [] [] [fun d=>SlO 1 bB ⟨#[]⟩ d A ns]/\k<=ns.length/\(∀ i,i<k->¬ns.getD i ⟨#[]⟩=s)) _ ⟨0,h,rfl,rfl,a.to _ _,MG _,(fun i hi=>absurd hi (N8 i))⟩ ?_);rintro _ _ w1 ⟨k,y,z,rfl,a,hk,p⟩;refine cQ (aa a [.c,.c,.v (nV ns.length)] ?_);cases j:(decide ((k:Int)<(ns.length:Int)))
 .
  have l:=oF j;refine lB 9 j (ag (CG.exit ?_))
  show CG _ _ _ _ _ _ _ _
  exact aa a ac (ae a [] qF (⟨false,rfl,fun d=>(by cases d),fun d=>(by obtain ⟨D,x,F⟩:=KL d;exact absurd F (p D oM))⟩))
 have l:=oT j;refine lB 9 j (ak (cK (cQ (kZ (aa a aD (lX 14 A ns.length c 1 (k:Nat) k ((a.f.1).ok oM) ?_))))));refine lH 15 (.string (ns.getD k ⟨#[]⟩)) a ((a.f.1).el k oM) (lL a ac ?_);cases e:(kj (ns.getD k ⟨#[]⟩) s)
 .
  have o:=g6 e;refine lB 17 e (ag (cK (kQ (lL a ac (bh 11 ((k:Nat)+1) (k+1) ?_)))));refine lL a ac (lD ?_);intro I C;refine ⟨_,_,?_,⟨k+1,y,rfl,rfl,a.to _ _,oM,(fun i hi=>by rcases Ou.1 hi with d|rfl;exact p i d;assumption)⟩,C.to _ kR⟩
  omega
 have o:=g5 e;exact lB 17 e (ak (aa a ac (ae a [] qT (⟨true,rfl,fun _=>IX (by omega:k<ns.length) aM,fun _=>rfl⟩))))
def Kq (s t:ByteArray):Bool:=Go.Op.bytesLess s.toList t.toList
section
variable {M:Ms} {P:Program} {n:Nat} {N R:Po} {X:Nat->Po} {ops:Array Oper} {k k0:Nat} {hr:Hp} {AL:List Al} {L:Array Bool} {Γ:bU} {w:World} {h:Hp} {w0:World} {h0:Hp} {B:List Bx} {Rs:List Rw} {F:List (Hp->Prop)}
theorem DK {base:Nat}{e:TypeId}{sz:Nat}{A:Option Addr}{l c n:Nat}{xs:List Value}(o:w.ownsRow base e sz (.slice A l c) n xs):l<=c:=by
 rcases o with ⟨_,⟨e1,_⟩|⟨g,cap,cur,e1,_,_,h1,_⟩⟩
 ·cases e1;exact ep _
 ·cases e1;exact h1
theorem mq {α:Type}{o:Oper}{ty:TypeId}{sz I c c2 j:Nat}{z:Value}{A C:Option Addr}{l:List α}{f:α->List Value}(s:SS w0 h0 w h B Rs F)(K:p8 P (ev Γ) o=some (.slice A l.length c,.slice C 0 c2,ty,z,sz,I))(D:Rs.getD j default=⟨ty,sz,A,c,l.length,l.flatMap f⟩)(p:j<Rs.length) :
    (execOp (ev Γ) o).run P w=.ok (.value (.slice A l.length c)) w:=by
  obtain ⟨x,y,d,M,L,H,e,hi⟩:=js K;have r:=s.ro _ (gq p);rw[eN D p] at r
  cases b:P.info? ty with
  | none=>rw[b] at hi;cases hi
  | some inf =>
    rw[b] at hi
    have J:Src P inf.size d (.slice C 0 c2) 0 [] w:=by
      cases C with
      | none=>exact Src.ofNil w e c2
      | some a=>exact Src.ofSlice w e a 0 c2 [] (by simp) (fun j u p=>by cases p) (fun u e=>by cases e)
    have i:=run_append_nothing (P:=P) w d d o.type ty inf e b A l.length c (DK r.own) (.slice C 0 c2) J
    unfold execOp
    simp only[M,resolve,invoke,builtin,Sem.run_bind,Sem.run_pure,Result.andThen_ok,List.map_toArray,List.map_cons,List.map_nil,L,H,i]
theorem K2 {α:Type}(t j:Nat)(ty:TypeId)(sz c:Nat)(A:Option Addr)(l:List α)(f:α->List Value)(d:α)(o:Option Addr)(m:List α)(C c2 i:Nat)(z:Value)(s:SS w0 h0 w h B Rs F)(so:SlO sz f d h o m)
    (H:∀ A' c' w' h',SS w0 h0 w' h' B (Rs.set j ⟨ty,sz,A',c',(l++m).length,(l++m).flatMap f⟩) F->LG P n N R X ops (k+1) ((t,.slice A' (l++m).length c')::Γ) w')
    (p:cL ops Γ k t n=true:=by kernel_rfl)(D:p8 P (ev Γ) (am ops k)=some (.slice A l.length c,.slice o C c2,ty,z,sz,i):=by kernel_rfl)(hn:C=m.length:=by omega)(hf:∀ x,(f x).length=sz:=by intro _;rfl)(h1:∀ x,(f x).all (·.oneCell')=true:=by intro _;kernel_rfl)(e:z.cells.size=sz:=by kernel_rfl)(a:0<sz:=by decide)
    (hr:Rs.getD j default=⟨ty,sz,A,c,l.length,l.flatMap f⟩:=by kernel_rfl)(y:decide (j<Rs.length)=true:=by kernel_rfl)(K:l.length+m.length<=1099511627776:=by omega)(J:(l.length+m.length)*i<=140737488355328:=by omega):LG P n N R X ops k Γ w:=by
  subst hn;cases m with
  | nil =>
    have b:=oT y;have e0:l++[]=l:=Oy l;rw[e0] at H
    have I:Rs.set j ⟨ty,sz,A,c,l.length,l.flatMap f⟩=Rs:=by
      have:=eN hr b;rw[<-this,Oz]
    have u:=s;rw[<-I] at u
    exact LG.val t _ w (bQ p).1 (bQ p).2 (mq s D hr b) (H A c w h u)
  | cons x xs=>exact KY t j ty sz c A l f d o (x::xs) c2 i z s so (MW _) H p D hf h1 e a hr y K J
theorem Cx {n:Nat}{a:Act}{Γ:bU}{b c:Nat}{d f:Value}(h:b≠c)(k:Kn n a ((b,d)::(c,f)::Γ)):Kn n a ((c,f)::(b,d)::Γ):=by
 have e:∀ s:Nat,((c,f)::(b,d)::Γ).lookup s=((b,d)::(c,f)::Γ).lookup s:=fun s=>by
  simp only[i3]
  by_cases e1:s=b
  ·subst e1
   have:(s == c)=false:=by simpa using h
   rw[this]
  ·have:(s == b)=false:=by simpa using e1
   rw[this]
 refine k.mono (fun s u i=>(e s)▸i) ?_
 unfold gk
 rw[e]
theorem sh {K b:Nat}{w w':World}{v:Value}(hz:M.z=some (K,[]))(f:K<=w.heap.size)(hv:∀ b,v.ownBlock=some b->K<=b)(a:w.grownBy w' v.ownBlock):Tl M w w':=fun d bs e=>by
 rw[hz] at e
 injection e with e
 injection e with e1 e2
 subst e1 e2;exact ⟨a.size,fun b c _=>a.block b oM (fun e=>by have:=hv b e.symm;omega)⟩
theorem I3 (i j c u:Nat)(y B:Value)(wi o:World)
  (C:(Region.ready .any ops L == [i,j] && decide (i<ops.size) && decide (j<ops.size) && Region.noSelect ops && aZ Γ (am ops i) && aZ Γ (am ops j) && ((am ops i).dst == some c) && ((am ops j).dst == some u) && decide (c<n) && decide (u<n))=true)
  (d:be ops Γ (am ops i)=some true)(x:be ops Γ (am ops j)=some true)
  (f:(execOp (ev Γ) (am ops i)).run P w=.ok (.value y) wi)(e:Tl M w wi)(O:AG M P n N R X ops 0 (L.setIfInBounds i true) ((c,y)::Γ) wi)
  (p:(execOp (ev Γ) (am ops j)).run P w=.ok (.value B) o)(l:Tl M w o)(H:AG M P n N R X ops 0 (L.setIfInBounds j true) ((u,B)::Γ) o):AG M P n N R X ops 0 L Γ w:=by
 simp only[na,decide_eq_true_eq,beq_iff_eq] at C
 obtain ⟨⟨⟨⟨⟨⟨⟨⟨⟨c1,c2⟩,z⟩,D⟩,F⟩,I⟩,Q⟩,J⟩,K⟩,h⟩:=C;intro a b;refine A.intro (fun h0=>by rw[c1] at h0;cases h0) (fun k hk=>?_);rw[c1] at hk
 rcases g4.1 hk with rfl|hk
 ·refine OpR.wpOp (bG c2) (R:=fun v w'=>Tl M w w'/\A M P ops (iG N R X) 0 (L.setIfInBounds k true) (a.put (am ops k).dst v) w') ⟨b.want d,?_⟩ (fun v w' hq=>⟨Rl.tl (MG _) hq.1,hq.2⟩)
  rw[b.exec (Region.noSelect_spec D k _ · · (bG c2)) F,Q];exact .inl ⟨_,_,f,e,O _ (b.put K _)⟩
 ·rw[te] at hk
  subst hk;refine OpR.wpOp (bG z) (R:=fun v w'=>Tl M w w'/\A M P ops (iG N R X) 0 (L.setIfInBounds k true) (a.put (am ops k).dst v) w') ⟨b.want x,?_⟩ (fun v w' hq=>⟨Rl.tl (MG _) hq.1,hq.2⟩);rw[b.exec (Region.noSelect_spec D k _ · · (bG z)) I,J];exact .inl ⟨_,_,p,l,H _ (b.put h _)⟩
theorem iD {K:Nat}(hz:M.z=some (K,[]))(o:Obj){W:World}(c:K<=W.heap.size):Tl M W (W.alloc o)/\K<=(W.alloc o).heap.size:=by
 have d:(W.alloc o).heap.size=W.heap.size+1:=Array.size_push _;refine ⟨fun f bs e=>?_,by omega⟩;rw[hz] at e
 injection e with e
 injection e with e1 e2
 subst e1 e2
 exact ⟨by omega,fun b a _=>by
  show (W.heap.push o)[b]?=W.heap[b]?
  rw[Array.getElem?_push,if_neg oM]⟩
theorem SS.new0 {α:Type}(f:α->List Value){sz:Nat}(s:SS w0 h0 w h B Rs F)(ty:TypeId)(hf:∀ x,(f x).length=sz):SS w0 h0 (w.alloc (.cells #[] ty (0,0))) (h.push bc) B (⟨ty,sz,some ⟨w.heap.size,0,none⟩,0,0,[]⟩::Rs) F:=s.newr (l:=([]:List α)) (f:=f) ty hf (MG _)
theorem SS.newS (s:SS w0 h0 w h B Rs F)(ty:TypeId)(cs:List Value):SS w0 h0 (w.alloc (.cells cs.toArray ty (0,0))) (h.push (.cells cs.toArray ty (0,0))) B Rs ((fun h=>Seg h w.heap.size 0 cs)::F):=by
 refine (s.step (Up.allocAny s.g _ _ (.inl rfl))).a_Seg ?_;have e:h.size=w.heap.size:=by have:=s.g.size;omega
 rw[<-e];exact Seg.new cs ty
theorem rR {K:Nat}{α:Type}{o:Oper}{ty:TypeId}{sz:Nat}{f:α->List Value}{d:α}{J:Nat}{X:Option Addr}{m:List α}{c2 W:Nat}{z:Value}(hz:M.z=some (K,[]))(I:K<=w.heap.size)(U:K<=J)(s:SS w0 h0 w h B (⟨ty,sz,some ⟨J,0,none⟩,0,0,[]⟩::Rs) F)(so:SlO sz f d h X m)
    (V:p8 P (ev Γ) o=some (.slice (some ⟨J,0,none⟩) 0 0,.slice X m.length c2,ty,z,sz,W))(hf:∀ x,(f x).length=sz)(h1:∀ x,(f x).all (·.oneCell')=true)(S:z.cells.size=sz)(D:0<sz)(hm:m.length<=1099511627776)(Y:m.length*W<=140737488355328) :
    ∃ i c' w' h',(execOp (ev Γ) o).run P w=.ok (.value (.slice i m.length c')) w'/\Tl M w w'/\(∀ b,(Value.slice i m.length c').ownBlock=some b->K<=b)/\K<=w'.heap.size/\SS w0 h0 w' h' B (⟨ty,sz,i,c',m.length,m.flatMap f⟩::Rs) F:=by
  cases m with
  | nil=>exact ⟨_,_,w,h,mq (α:=α) (j:=0) (l:=[]) (f:=f) s V rfl (MW _),Tl.refl _ _,(fun b e=>by cases e;exact U),I,s⟩
  | cons x xs =>
    have C:0<(x::xs).length:=MW _;rw[so.ok C] at V
    obtain ⟨x',y,ty',ho,hx,L,O,hi⟩:=js V
    obtain ⟨v',w',H,ow,Q,a⟩:=qO (P:=P) ho hx L O hi S D s.st (bV hf (x::xs)) (gW s.g (so.flat hf)) (fun u O=>by
      obtain ⟨y,_,L⟩:=LD.1 O;exact (o0.1 (h1 y)) u L) C hm Y
    have hv:∀ b,v'.ownBlock=some b->K<=b:=fun b e=>by
      rcases a with h1|h1
      . rw[h1] at e;cases e
      . rw[h1] at e;cases e;exact I
    obtain ⟨h',i,c',rfl,e2,Z⟩:=(s.nil ty sz).grown (j:=0) (by simp) (w':=w') (v':=v') (m2:=(x::xs).length) (news:=(x::xs).flatMap f) ow Q a;have hT:Tl M w w':=sh (b:=0) hz I (v:=Value.slice none 0 0) (fun b e=>by cases e) Q;have p:SS w0 h0 w' h' B (⟨ty,sz,i,c',(x::xs).length,(x::xs).flatMap f⟩::⟨ty,sz,some ⟨J,0,none⟩,0,0,[]⟩::Rs) F:=by simpa using Z
    have c:(execOp (ev Γ) o).run P w=.ok (.value (.slice i (x::xs).length c')) w':=by rw[H];simp
    refine ⟨i,c',w',h',c,hT,(fun b e=>hv b (by simpa using e)),e4 I Q.size,⟨p.g0,p.st,fun r hr=>p.ro r ?_,?_,p.mo,p.f⟩⟩
    . rcases g4.1 hr with e|e
      . exact g4.2 (.inl e)
      . exact g4.2 (.inr (g4.2 (.inr e)))
    . exact List.Pairwise.sublist (List.Sublist.cons_cons _ (List.sublist_cons_self _ _)) p.ap
theorem xu {n:Nat}{a:Act}{Γ:bU}{i b c:Nat}{j d f:Value}(h:b≠c)(k:Kn n a ((i,j)::(b,d)::(c,f)::Γ)):Kn n a ((i,j)::(c,f)::(b,d)::Γ):=by
 have e:∀ s:Nat,((i,j)::(c,f)::(b,d)::Γ).lookup s=((i,j)::(b,d)::(c,f)::Γ).lookup s:=fun s=>by
  simp only[i3]
  by_cases e1:s=b
  ·subst e1
   have:(s == c)=false:=by simpa using h
   rw[this]
  ·have:(s == b)=false:=by simpa using e1
   rw[this]
 refine k.mono (fun s u l=>(e s)▸l) ?_
 unfold gk
 rw[e]
theorem K4 {K:Nat}{α:Type}(i j k c e p:Nat)(l o:TypeId)(sz:Nat)(f:α->List Value)(d:α)(y:Nat)(cs:List Value)(A2:Option Addr)(m:List α)(n2 c2 bt:Nat)(z:Value)(hz:M.z=some (K,[]))(hK:K<=w.heap.size)(s:SS w0 h0 w h B Rs F)(so:∀ h,AllF F h->SlO sz f d h A2 m)
  (H:∀ b0 D c' b' w' h',(∀ b,(Value.slice D m.length c').ownBlock=some b->K<=b)->K<=w'.heap.size->SS w0 h0 w' h' B (⟨l,sz,D,c',m.length,m.flatMap f⟩::Rs) ((fun h=>Seg h b' 0 cs)::F) ->
   AG M P n N R X ops 0 (((L.setIfInBounds i true).setIfInBounds j true).setIfInBounds k true) ((p,.slice D m.length c')::(e,.slice (some ⟨b',0,none⟩) y y)::(c,.slice (some ⟨b0,0,none⟩) 0 0)::Γ) w')
  (hn:n2=m.length:=by omega)(hd:(decide (c≠e) && decide (e≠p) && decide (i≠j) && decide (j≠k))=true:=by kernel_rfl)
  (c1:(Region.ready .any ops L == [i,j] && decide (i<ops.size) && decide (j<ops.size) && Region.noSelect ops && aZ Γ (am ops i) && aZ Γ (am ops j) && ((am ops i).dst == some c) && ((am ops j).dst == some e) && decide (c<n) && decide (e<n))=true:=by kernel_rfl)
  (c2_:∀ u,(Region.ready .any ops (L.setIfInBounds i true) == [k,j] && decide (k<ops.size) && decide (j<ops.size) && Region.noSelect ops && aZ ((c,u)::Γ) (am ops k) && aZ ((c,u)::Γ) (am ops j) && ((am ops k).dst == some p) && ((am ops j).dst == some e) && decide (p<n) && decide (e<n))=true:=by intro _;kernel_rfl)
  (hwi:be ops Γ (am ops i)=some true:=by kernel_rfl)(hwj:be ops Γ (am ops j)=some true:=by kernel_rfl)(bd:∀ u,be ops ((c,u)::Γ) (am ops j)=some true:=by intro _;kernel_rfl)(bl:∀ u,be ops ((c,u)::Γ) (am ops k)=some true:=by intro _;kernel_rfl)
  (ci:∀ u,(g7 ops 0 (L.setIfInBounds j true) i && aZ ((e,u)::Γ) (am ops i) && ((am ops i).dst == some c) && decide (c<n))=true:=by intro _;kernel_rfl)(bf:∀ u,be ops ((e,u)::Γ) (am ops i)=some true:=by intro _;kernel_rfl)
  (cj:∀ u v,(g7 ops 0 ((L.setIfInBounds i true).setIfInBounds k true) j && aZ ((p,v)::(c,u)::Γ) (am ops j) && ((am ops j).dst == some e) && decide (e<n))=true:=by intro _ _;kernel_rfl)(bk:∀ u v,be ops ((p,v)::(c,u)::Γ) (am ops j)=some true:=by intro _ _;kernel_rfl)
  (Z:∀ u v,cT n ops 0 ((L.setIfInBounds i true).setIfInBounds j true) ((e,v)::(c,u)::Γ) k p=true:=by intro _ _;kernel_rfl)(ck2:∀ u v,cT n ops 0 ((L.setIfInBounds j true).setIfInBounds i true) ((c,u)::(e,v)::Γ) k p=true:=by intro _ _;kernel_rfl)
  (hri:∀ w,(execOp (ev Γ) (am ops i)).run P w=.ok (.value (.slice (some ⟨w.heap.size,0,none⟩) 0 0)) (w.alloc (.cells #[] l (0,0))):=by intro _;kernel_rfl)(bb:∀ u w,(execOp (ev ((e,u)::Γ)) (am ops i)).run P w=.ok (.value (.slice (some ⟨w.heap.size,0,none⟩) 0 0)) (w.alloc (.cells #[] l (0,0))):=by intro _ _;kernel_rfl)
  (hrj:∀ w,(execOp (ev Γ) (am ops j)).run P w=.ok (.value (.slice (some ⟨w.heap.size,0,none⟩) y y)) (w.alloc (.cells cs.toArray o (0,0))):=by intro _;kernel_rfl)(V:∀ u w,(execOp (ev ((c,u)::Γ)) (am ops j)).run P w=.ok (.value (.slice (some ⟨w.heap.size,0,none⟩) y y)) (w.alloc (.cells cs.toArray o (0,0))):=by intro _ _;kernel_rfl)
  (J:∀ u v w,(execOp (ev ((p,v)::(c,u)::Γ)) (am ops j)).run P w=.ok (.value (.slice (some ⟨w.heap.size,0,none⟩) y y)) (w.alloc (.cells cs.toArray o (0,0))):=by intro _ _ _;kernel_rfl)
  (e1:∀ b,p8 P (ev ((c,.slice (some ⟨b,0,none⟩) 0 0)::Γ)) (am ops k)=some (.slice (some ⟨b,0,none⟩) 0 0,.slice A2 n2 c2,l,z,sz,bt):=by intro _;kernel_rfl)
  (e2:∀ b v,p8 P (ev ((e,v)::(c,.slice (some ⟨b,0,none⟩) 0 0)::Γ)) (am ops k)=some (.slice (some ⟨b,0,none⟩) 0 0,.slice A2 n2 c2,l,z,sz,bt):=by intro _ _;kernel_rfl)
  (e3:∀ b v,p8 P (ev ((c,.slice (some ⟨b,0,none⟩) 0 0)::(e,v)::Γ)) (am ops k)=some (.slice (some ⟨b,0,none⟩) 0 0,.slice A2 n2 c2,l,z,sz,bt):=by intro _ _;kernel_rfl)
  (hf:∀ x,(f x).length=sz:=by intro _;rfl)(h1:∀ x,(f x).all (·.oneCell')=true:=by intro _;kernel_rfl)(I:z.cells.size=sz:=by kernel_rfl)(C:0<sz:=by decide)(hm:m.length<=1099511627776:=by omega)(hb:m.length*bt<=140737488355328:=by omega):AG M P n N R X ops 0 L Γ w:=by
 subst hn
 simp only[na,decide_eq_true_eq] at hd
 obtain ⟨⟨⟨d1,d2⟩,d3⟩,d4⟩:=hd;have si:=s.new0 f l hf;have sj:=s.newS o cs;obtain ⟨x1,x2⟩:=iD (M:=M) hz (.cells #[] l (0,0)) hK;obtain ⟨y1,y2⟩:=iD (M:=M) hz (.cells cs.toArray o (0,0)) hK;refine I3 i j c e _ _ _ _ c1 hwi hwj (hri w) x1 ?_ (hrj w) y1 ?_
 ·obtain ⟨D,c',w',h',O,U,r3,S,Y⟩:=rR (M:=M) (Γ:=(c,.slice (some ⟨w.heap.size,0,none⟩) 0 0)::Γ) hz x2 hK si (so _ si.f) (e1 _) hf h1 I C hm hb
  obtain ⟨q1,q2⟩:=iD (M:=M) hz (.cells cs.toArray o (0,0)) x2;refine I3 k j p e _ _ _ _ (c2_ _) (bl _) (bd _) O U ?_ (V _ _) q1 ?_
  ·obtain ⟨p1,p2⟩:=iD (M:=M) hz (.cells cs.toArray o (0,0)) S
   refine T.val j e _ _ (cj _ _) (bk _ _) (J _ _ _) ?_ p1;intro a ka;have hh:=H _ D c' _ _ _ r3 p2 (Y.newS o cs) a (Cx d2 ka);rw[gs _ _ d4] at hh
   exact hh
  ·have Q:=si.newS o cs
   obtain ⟨D,c',w',h',O,U,r3,S,Y⟩:=rR (M:=M) (Γ:=(e,.slice (some ⟨_,0,none⟩) y y)::(c,.slice (some ⟨w.heap.size,0,none⟩) 0 0)::Γ) hz q2 hK Q (so _ Q.f.2) (e2 _ _) hf h1 I C hm hb;exact T.val k p _ _ (jf (Z _ _)).1 (jf (Z _ _)).2 O (H _ D c' _ _ _ r3 S Y) U
 ·obtain ⟨q1,q2⟩:=iD (M:=M) hz (.cells #[] l (0,0)) y2
  have W:=sj.new0 f l hf;refine T.val i c _ _ (ci _) (bf _) (bb _ _) ?_ q1;obtain ⟨D,c',w',h',O,U,r3,S,Y⟩:=rR (M:=M) (Γ:=(c,.slice (some ⟨_,0,none⟩) 0 0)::(e,.slice (some ⟨w.heap.size,0,none⟩) y y)::Γ) hz q2 y2 W (so _ W.f.2) (e3 _ _) hf h1 I C hm hb;refine T.val k p _ _ (jf (ck2 _ _)).1 (jf (ck2 _ _)).2 O ?_ U;intro a ka;have hh:=H _ D c' _ _ _ r3 S Y a (xu d1 ka);rw[gs _ _ d3] at hh
  exact hh
theorem KX {K:Nat}{α:Type}(i t j:Nat)(ty:TypeId)(sz c:Nat)(A:Option Addr)(l:List α)(f:α->List Value)(x:α)(W b:Nat)(z:Value)(hz:M.z=some (K,[]))(V:K<=w.heap.size)(hv:∀ b,(Value.slice A l.length c).ownBlock=some b->K<=b)(s:SS w0 h0 w h B Rs F)(sg:Seg h b 0 (f x))
  (H:∀ I c' w' h',(∀ b,(Value.slice I (l++[x]).length c').ownBlock=some b->K<=b)->K<=w'.heap.size->SS w0 h0 w' h' B (Rs.set j ⟨ty,sz,I,c',(l++[x]).length,(l++[x]).flatMap f⟩) F->AG M P n N R X ops 0 (L.setIfInBounds i true) ((t,.slice I (l++[x]).length c')::Γ) w')
  (Z:cT n ops 0 L Γ i t=true:=by kernel_rfl)(he:p8 P (ev Γ) (am ops i)=some (.slice A l.length c,.slice (some ⟨b,0,none⟩) 1 1,ty,z,sz,W):=by kernel_rfl)(S:z.cells.size=sz:=by kernel_rfl)(D:0<sz:=by decide)
  (U:Rs.getD j default=⟨ty,sz,A,c,l.length,l.flatMap f⟩:=by kernel_rfl)(hj:decide (j<Rs.length)=true:=by kernel_rfl)(h1:(f x).all (·.oneCell')=true:=by kernel_rfl)(hl:(f x).length=1*sz:=by kernel_rfl)(hm:l.length+1<=1099511627776:=by omega)(hb:(l.length+1)*W<=140737488355328:=by omega):AG M P n N R X ops 0 L Γ w:=by
 have o:=oT hj;obtain ⟨x',y,ty',ho,hx,hy,Q,hi⟩:=js he;have r:=s.ro _ (gq o);have p:=eN U o;rw[p] at r
 obtain ⟨v',w',d,ow,O,a⟩:=lc (P:=P) ho hx hy Q hi S D s.st r hl (j5 s.g sg) (fun u Q=>(o0.1 h1) u Q) hm hb
 have C:∀ b,v'.ownBlock=some b->K<=b:=fun b e=>by
  rcases a with h1|h1
  ·exact hv b (h1▸e)
  ·rw[h1] at e;cases e;exact V
 have hT:Tl M w w':=sh (b:=0) hz V hv O;have Y:=s.grown (j:=j) o (w':=w') (v':=v') (m2:=1) (news:=f x) (by rw[p];exact ow) (by rw[p];exact O) (by rw[p];exact a);rw[p] at Y
 obtain ⟨h',I,c',rfl,e2,J⟩:=Y;have e1:l.length+1=(l++[x]).length:=by simp
 simp only[] at J
 rw[mB,e1] at J
 rw[e1] at d C
 exact T.val i t _ w' (jf Z).1 (jf Z).2 d (H I c' w' h' C (e4 V O.size) J) hT
theorem Kz {K:Nat}{α:Type}(i t j:Nat)(ty:TypeId)(sz c:Nat)(A:Option Addr)(l:List α)(f:α->List Value)(d:α)(A2:Option Addr)(m:List α)(n2 c2 bt:Nat)(z:Value)(hz:M.z=some (K,[]))(Y:K<=w.heap.size)(hv:∀ b,(Value.slice A l.length c).ownBlock=some b->K<=b)(s:SS w0 h0 w h B Rs F)(so:SlO sz f d h A2 m)
    (H:∀ J c' w' h',K<=w'.heap.size->SS w0 h0 w' h' B (Rs.set j ⟨ty,sz,J,c',(l++m).length,(l++m).flatMap f⟩) F->AG M P n N R X ops 0 (L.setIfInBounds i true) ((t,.slice J (l++m).length c')::Γ) w')
    (I:cT n ops 0 L Γ i t=true:=by kernel_rfl)(Z:p8 P (ev Γ) (am ops i)=some (.slice A l.length c,.slice A2 n2 c2,ty,z,sz,bt):=by kernel_rfl)(hn:n2=m.length:=by omega)(hf:∀ x,(f x).length=sz:=by intro _;rfl)(h1:∀ x,(f x).all (·.oneCell')=true:=by intro _;kernel_rfl)(V:z.cells.size=sz:=by kernel_rfl)(D:0<sz:=by decide)
    (o:Rs.getD j default=⟨ty,sz,A,c,l.length,l.flatMap f⟩:=by kernel_rfl)(hj:decide (j<Rs.length)=true:=by kernel_rfl)(hm:l.length+m.length<=1099511627776:=by omega)(hb:(l.length+m.length)*bt<=140737488355328:=by omega):AG M P n N R X ops 0 L Γ w:=by
  subst hn;have a:=oT hj;cases m with
  | nil =>
    have e0:l++[]=l:=Oy l;rw[e0] at H
    have es:Rs.set j ⟨ty,sz,A,c,l.length,l.flatMap f⟩=Rs:=by
      have:=eN o a;rw[<-this,Oz]
    have s1:=s;rw[<-es] at s1
    exact T.val i t _ w (jf I).1 (jf I).2 (mq s Z o a) (H A c w h Y s1)
  | cons x xs =>
    have W:0<(x::xs).length:=MW _;rw[so.ok W] at Z
    obtain ⟨x',y,ty',ho,hx,O,U,hi⟩:=js Z;have r:=s.ro _ (gq a);have p:=eN o a;rw[p] at r
    obtain ⟨v',w',e,ow,S,C⟩:=lc (P:=P) ho hx O U hi V D s.st r (bV hf (x::xs)) (gW s.g (so.flat hf)) (fun u U=>by
      obtain ⟨y,_,O⟩:=LD.1 U;exact (o0.1 (h1 y)) u O) hm hb
    have hT:Tl M w w':=sh (b:=0) hz Y hv S;have hg:=s.grown (j:=j) a (w':=w') (v':=v') (m2:=(x::xs).length) (news:=(x::xs).flatMap f) (by rw[p];exact ow) (by rw[p];exact S) (by rw[p];exact C);rw[p] at hg
    obtain ⟨h',J,c',rfl,e2,Q⟩:=hg;have e1:l.length+(x::xs).length=(l++(x::xs)).length:=by simp
    simp only[] at Q
    rw[qV,e1] at Q
    rw[e1] at e
    exact T.val i t _ w' (jf I).1 (jf I).2 e (H J c' w' h' (e4 Y S.size) Q) hT
theorem zT (i t:Nat)(A:Option Addr)(len a sz:Nat)(x:Int)(j:Nat)(H:AG M P n N R X ops 0 (L.setIfInBounds i true) ((t,.slice A j a)::Γ) w)(d:vH n ops L Γ i t=true:=by kernel_rfl)(c:Ca P (ev Γ) (am ops i)=some (.slice A len a,none,some (.int .i64 x),sz):=by kernel_rfl)(hk:x=j:=by omega)(b:j<=a:=by omega):AG M P n N R X ops 0 L Γ w :=
 zV i t _ H d (sl j c hk b)
theorem zF (i t:Nat)(A:Option Addr)(len a sz:Nat)(x:Int)(j:Nat)(H:AG M P n N R X ops 0 (L.setIfInBounds i true) ((t,.slice (if a=j then A else A.map (·.add (j*sz))) (len-j) (a-j))::Γ) w)(d:vH n ops L Γ i t=true:=by kernel_rfl)(c:Ca P (ev Γ) (am ops i)=some (.slice A len a,some (.int .i64 x),none,sz):=by kernel_rfl)(hk:x=j:=by omega)(b:j<=len:=by omega):AG M P n N R X ops 0 L Γ w :=
 zV i t _ H d (m7 j c hk b)
end
theorem s8 {us:List ByteArray}{i:Nat}{s:ByteArray}{op:Int}(h:op=2)(x:ByteArray):x∈us.take i++[s]++us.drop i↔(x∈us\/(op=2/\x=s)):=by
 have e:x∈us↔x∈us.take i\/x∈us.drop i:=by rw[<-gx,List.take_append_drop]
 rw[e,gx,gx,te]
 constructor
 ·rintro ((h1|h1)|h1)
  ·exact .inl (.inl h1)
  ·exact .inr ⟨h,h1⟩
  ·exact .inl (.inr h1)
 ·rintro ((h1|h1)|⟨_,h1⟩)
  ·exact .inl (.inl h1)
  ·exact .inr h1
  ·exact .inl (.inr h1)
theorem EJ {us:List ByteArray}{i:Nat}{s:ByteArray}{op:Int}(hi:i<us.length)(a:us.getD i ⟨#[]⟩=s)(x:ByteArray):x∈us↔(x∈us\/(op=2/\x=s)):=by
 constructor
 ·exact .inl
 ·rintro (h1|⟨_,rfl⟩)
  ·exact h1
  ·rw[<-a];exact IX hi rfl
theorem C8 {us:List ByteArray}{s:ByteArray}{op:Int}(h:op≠2)(x:ByteArray):x∈us↔(x∈us\/(op=2/\x=s)):=by
 constructor
 ·exact .inl
 ·rintro (h1|⟨a,_⟩)
  ·exact h1
  ·exact absurd a h
theorem Kc {d:Nat}{ks:List Tm}{x:ByteArray}(a b:Prop):(a\/b)↔(a\/b\/HasK d ks 0 x):=by
 constructor
 ·rintro (h|h)
  ·exact .inl h
  ·exact .inr (.inl h)
 ·rintro (h|h|⟨i,hi,_⟩)
  ·exact .inl h
  ·exact .inr h
  ·exact absurd hi (N8 i)
theorem Ku {d k:Nat}{ks:List Tm}{x:ByteArray}{n:Prop}{a b:Prop}(h:n↔(a\/b\/HasK d ks k x)):(n\/gd d (ks.getD k cV) x)↔(a\/b\/HasK d ks (k+1) x):=by
 rw[h]
 constructor
 ·rintro ((h1|h1|⟨i,hi,h1⟩)|h1)
  ·exact .inl h1
  ·exact .inr (.inl h1)
  ·exact .inr (.inr ⟨i,by omega,h1⟩)
  ·exact .inr (.inr ⟨k,by omega,h1⟩)
 ·rintro (h1|h1|⟨i,hi,h1⟩)
  ·exact .inl (.inl h1)
  ·exact .inl (.inr (.inl h1))
  ·rcases Ou.1 hi with h2|rfl
   ·exact .inl (.inr (.inr ⟨i,h2,h1⟩))
   ·exact .inr h1
theorem CO  (ok:ByteArray->Prop)(d:Nat)(ih:∀ (r:RTm) (t:Tm) (u:Option Addr) (y:Nat) (us:List ByteArray) (w:World) (h:Hp),G w h->RmH d h r t->WfT ok d t->us.length<=y->SlO 1 bB ⟨#[]⟩ h u us->us.length+eF d t<=1000000->Calls Tryz.prog 96 #[bJ r,.slice u us.length y] w (Ret w h (fun v h1=>∃ A_ c_,∃ e:List ByteArray,v=.slice A_ e.length c_/\e.length<=c_/\e.length<=us.length+eF d t/\SlO 1 bB ⟨#[]⟩ h1 A_ e/\∀ x,x∈e↔(x∈us\/gd d t x))))(op n:Int)(J:Bool)(M:Option Addr)(H I:Nat)(O:Option Addr)(Q L:Nat)(q:Rat)(s:ByteArray)(A:Option Addr)(c:Nat)(B:List RTm)(ks:List Tm)(hc:B.length<=c)(u:Option Addr)(y:Nat)(us:List ByteArray)(hk3:ks.length<=2)(hW:∀ i,i<ks.length->WfT ok d (ks.getD i cV))(Z:us.length<=y)(hb:us.length+(1+(dO (fun i=>eF d (ks.getD i cV)) ks.length))<=1000000)(w:World)(h:Hp)(g:G w h)(hZ:RZ h (J,.slice M H I,.slice O Q L) q)(hK:SlO 7 bD bT h A B)(hKs:Rms d h B ks)(hL:SlO 1 bB ⟨#[]⟩ h u us):CR 96 #[bJ ⟨op,n,J,M,H,I,O,Q,L,s,A,B.length,c⟩,.slice u us.length y] w h (fun v h1=>∃ A_ c_,∃ e:List ByteArray,v=.slice A_ e.length c_/\e.length<=c_/\e.length<=us.length+eF (d+1) (.mk op n q s ks)/\SlO 1 bB ⟨#[]⟩ h1 A_ e/\∀ x,x∈e↔(x∈us\/gd (d+1) (.mk op n q s ks) x)):=by
 have a:=(((((sS g).add (K:=fun b=>RZ b (J,qS M H I,qS O Q L) q) hZ).aS hK).add (K:=fun b=>Rms d b B ks) hKs).aS hL);have hln:=(a.f.2.1).len;refine go Tryz.func96 [(0,bJ ⟨op,n,J,M,H,I,O,Q,L,s,A,B.length,c⟩),(1,qS u us.length y)] rfl (ax (lA 2 31 (bD ⟨op,n,J,M,H,I,O,Q,L,s,A,B.length,c⟩) a (fun C w2 h3 a=>?_)));refine lL a ac (lN (CG.join (fun Γ w_=>∃ (mA:Option Addr) (mc:Nat) (Y:List ByteArray) (b:Hp),Γ=[(2,pB C),(4,sZ),(1,qS mA Y.length mc)]/\SS w h w_ b [⟨C,31,bD ⟨op,n,J,M,H,I,O,Q,L,s,A,B.length,c⟩⟩] [] [fun b=>SlO 1 bB ⟨#[]⟩ b mA Y,fun b=>SlO 1 bB ⟨#[]⟩ b u us,fun b=>Rms d b B ks,fun b=>SlO 7 bD bT b A B,fun b=>RZ b (J,qS M H I,qS O Q L) q]/\Y.length<=mc/\Y.length<=us.length+1/\(∀ x,x∈Y↔(x∈us\/(op=2/\x=s)))) ?_ ?_))
 .
  refine aa a [.v (pB C),.o (iV op) 0 0 1] ?_;cases hb4:((op:Int) == (2:Int))
  .
   have bl:=aj hb4;refine lB 9 hb4 (ag (CG.skip ?_));intro a_ D;replace a:=(a.add (K:=fun b=>SlO 1 bB ⟨#[]⟩ b u us) a.f.1);exact ⟨_,⟨u,y,us,h3,rfl,a.to _ _,Z,oM,(C8 oM)⟩,D.to _ kR⟩
  have bl:=eq_of_beq hb4;refine lB 9 hb4 ?_;refine ak (aa a ac (lN (CG.join (fun Γ w_=>∃ (j:Nat) (b:Hp),Γ=[(1,qS u us.length y),(2,pB C),(4,sZ),(5,nV j)]/\SS w h w_ b [⟨C,31,bD ⟨op,n,J,M,H,I,O,Q,L,s,A,B.length,c⟩⟩] [] [fun b=>SlO 1 bB ⟨#[]⟩ b u us,fun b=>Rms d b B ks,fun b=>SlO 7 bD bT b A B,fun b=>RZ b (J,qS M H I,qS O Q L) q]/\j<=us.length) ?_ ?_)))
  .
   refine kZ ?_;refine bH _ (CG.loop (fun μ_ Γ w_=>∃ (i:Nat) (b:Hp),μ_=us.length-i/\Γ=[(1,qS u us.length y),(2,pB C),(4,sZ),(5,nV i)]/\SS w h w_ b [⟨C,31,bD ⟨op,n,J,M,H,I,O,Q,L,s,A,B.length,c⟩⟩] [] [fun b=>SlO 1 bB ⟨#[]⟩ b u us,fun b=>Rms d b B ks,fun b=>SlO 7 bD bT b A B,fun b=>RZ b (J,qS M H I,qS O Q L) q]/\i<=us.length) _ ⟨0,h3,rfl,rfl,a.to _ _,MG _⟩ ?_);rintro _ _ w9 ⟨i,_,bn,rfl,a,hi⟩;refine cQ (cQ (cR 13 [] mixed a ao ?_));refine eV 0 10 (nV i) (eV 1 11 (qS u us.length y) (eV 2 12 (nV us.length) ?_));cases za:(decide ((i:Int)<(us.length:Int)))
   .
    have zl:=oF za;refine eB 3 13 za (eV 4 14 qF (eG 5 15 (eG 6 16 (eG 7 17 (eG 8 18 (eG 9 19 (eG 10 20 (eG 11 21 (eV 12 22 qF (bP a (fun _ zs a=>tN (dr (CG.exit ?_)))))))))))));intro a_ D;exact ⟨_,⟨i,zs,rfl,a.to _ _,oM⟩,D.to _ kR⟩
   have zl:=oT za;refine eB 3 13 za (eV 4 14 qT (eV 5 15 (qS u us.length y) (eV 6 16 (nV i) (eX 7 17 u us.length y 1 (i:Nat) i ((a.f.1).ok oM) (eH 8 18 (.string (us.getD i ⟨#[]⟩)) a ((a.f.1).el i oM) (eV 9 19 (qP C 5) (eO 10 20 [(0,5,1)] (.string s) a ?_)))))));cases zi:(Kq (us.getD i ⟨#[]⟩) s)
   .
    refine eB 11 21 zi (eV 12 22 qF (bP a (fun _ zt a=>tN (dr (CG.exit ?_)))));intro a_ D;exact ⟨_,⟨i,zt,rfl,a.to _ _,oM⟩,D.to _ kR⟩
   refine eB 11 21 zi (eV 12 22 qT (bP a (fun _ zu a=>tN (co (cK (kZ (kQ (lL a ac (bh 24 ((i:Nat)+1) (i+1) ?_)))))))));refine lL a ac (lD ?_);intro a_ D;refine ⟨_,_,?_,⟨i+1,zu,rfl,rfl,a.to _ _,oM⟩,D.to _ kR⟩
   omega
  rintro _ _ ⟨j,_,rfl,a,hj⟩;refine cQ (cR 13 [] mixed a ao ?_);refine eV 0 25 (nV j) (eV 1 26 (qS u us.length y) (eV 2 27 (nV us.length) ?_));cases zb:((j:Int) == (us.length:Int))
  .
   have zm:=aj zb;refine eB 3 28 zb (eV 4 29 qF (eV 5 30 (qS u us.length y) (eV 6 31 (nV j) (eX 7 32 u us.length y 1 (j:Nat) j ((a.f.1).ok oM) (eH 8 33 (.string (us.getD j ⟨#[]⟩)) a ((a.f.1).el j oM) (eV 9 34 (qP C 5) (eO 10 35 [(0,5,1)] (.string s) a ?_)))))));cases zd:(mh (us.getD j ⟨#[]⟩) s)
   .
    have zo:=oH zd;refine eB 11 36 zd (eV 12 37 qF (bP a (fun _ zv a=>tN (dr (CG.skip ?_)))));intro a_ D;replace a:=(a.add (K:=fun b=>SlO 1 bB ⟨#[]⟩ b u us) a.f.1);exact ⟨_,⟨u,y,us,zv,rfl,a.to _ _,Z,oM,(EJ (i:=j) oM aM)⟩,D.to _ kR⟩
   have zo:=oG zd;refine eB 11 36 zd (eV 12 37 qT (bP a (fun zw _ a=>tN (co ?_))));obtain ⟨X,hK_⟩:∃ X,X=zw.heap.size:=⟨_,rfl⟩;have F:C<X:=by rw[hK_];exact fe a 0
   refine wg ⟨[],some (X,[])⟩ 0 mixed ?_;have bm:=a.g.size;replace a:=a.drew;have z:=M0 hK_;refine zV 1 39 (qS u us.length y) (zV 2 40 (nV j) ?_);have W:(us.take j).length=j:=by rw[LF];omega
   have S:(us.drop j).length=us.length-j:=Mq;have V:(us.take j++[s]).length=j+1:=by rw[zY,W];rfl
   have U:(us.take j++[s]++us.drop j).length=us.length+1:=by rw[zY,V,S];omega
   refine zT 3 41 u us.length y 1 (j:Nat) j ?_;replace a:=a.aS ((a.f.1).take j);refine zV 5 43 (qP C 5) (zO 6 44 [(0,5,1)] (.string s) rfl z a (fun p hp=>by obtain rfl:=te.1 hp;exact F) (zV 9 47 (qS u us.length y) (zV 10 48 (nV j) (zF 11 49 u us.length y 1 (j:Nat) j ?_))));replace a:=a.aS ((a.f.2.1).drop j y Z);refine K4 0 7 4 38 45 42 9 9 1 bB ⟨#[]⟩ 1 ([.string s]) u (us.take j) j y 16 (eS) rfl z a (fun _ f_=>f_.2.1) (fun b35 zx zB zD _ _ bb z a=>?_) (hn:=by simp only[LF,Mq]<;>omega);refine KX 8 46 0 9 1 zB zx (us.take j) bB s 16 zD (eS) rfl z bb a a.f.1 (fun zE zG _ _ bd z a=>Kz 12 50 0 9 1 zG zE (us.take j++[s]) bB ⟨#[]⟩ (if y=j then u else u.map (·.add (j*1))) (us.drop j) (us.length-j) (y-j) 16 (eS) rfl z bd a a.f.2.1 (fun zf zj _ _ z a=>?_) (hn:=by simp only[LF,Mq]<;>omega));refine zV 13 1 (qS zf ((us.take j++[s]++(us.drop j)).length) zj) (tD ?_);obtain ⟨zH,a,zq⟩:=a.pubr 0 (A:=zf) (c:=zj) (l:=us.take j++[s]++(us.drop j)) (f:=bB) (ty:=9) (sz:=1) (⟨#[]⟩) (fun _=>rfl);intro a_ D;replace a:=(a.tl.tl.tl.tl.add (K:=fun b=>SlO 1 bB ⟨#[]⟩ b zf (us.take j++[s]++(us.drop j))) a.f.1);exact ⟨_,⟨zf,zj,us.take j++[s]++(us.drop j),zH,rfl,a.to _ _,zq,(by rw[U];omega),(s8 oM)⟩,D.to _ kR⟩
  have zm:=eq_of_beq zb;refine eB 3 28 zb (eV 4 29 qT (eG 5 30 (eG 6 31 (eG 7 32 (eG 8 33 (eG 9 34 (eG 10 35 (eG 11 36 (eV 12 37 qT (bP a (fun zI _ a=>tN (co ?_))))))))))));obtain ⟨X,hK_⟩:∃ X,X=zI.heap.size:=⟨_,rfl⟩;have F:C<X:=by rw[hK_];exact fe a 0
  refine wg ⟨[],some (X,[])⟩ 0 mixed ?_;have bm:=a.g.size;replace a:=a.drew;have z:=M0 hK_;refine zV 1 39 (qS u us.length y) (zV 2 40 (nV j) ?_);have W:(us.take j).length=j:=by rw[LF];omega
  have S:(us.drop j).length=us.length-j:=Mq;have V:(us.take j++[s]).length=j+1:=by rw[zY,W];rfl
  have U:(us.take j++[s]++us.drop j).length=us.length+1:=by rw[zY,V,S];omega
  refine zT 3 41 u us.length y 1 (j:Nat) j ?_;replace a:=a.aS ((a.f.1).take j);refine zV 5 43 (qP C 5) (zO 6 44 [(0,5,1)] (.string s) rfl z a (fun p hp=>by obtain rfl:=te.1 hp;exact F) (zV 9 47 (qS u us.length y) (zV 10 48 (nV j) (zF 11 49 u us.length y 1 (j:Nat) j ?_))));replace a:=a.aS ((a.f.2.1).drop j y Z);refine K4 0 7 4 38 45 42 9 9 1 bB ⟨#[]⟩ 1 ([.string s]) u (us.take j) j y 16 (eS) rfl z a (fun _ f_=>f_.2.1) (fun b64 zJ zK zL _ _ bf z a=>?_) (hn:=by simp only[LF,Mq]<;>omega);refine KX 8 46 0 9 1 zK zJ (us.take j) bB s 16 zL (eS) rfl z bf a a.f.1 (fun zM zN _ _ bk z a=>Kz 12 50 0 9 1 zN zM (us.take j++[s]) bB ⟨#[]⟩ (if y=j then u else u.map (·.add (j*1))) (us.drop j) (us.length-j) (y-j) 16 (eS) rfl z bk a a.f.2.1 (fun zg zk _ _ z a=>?_) (hn:=by simp only[LF,Mq]<;>omega));refine zV 13 1 (qS zg ((us.take j++[s]++(us.drop j)).length) zk) (tD ?_);obtain ⟨zP,a,zr⟩:=a.pubr 0 (A:=zg) (c:=zk) (l:=us.take j++[s]++(us.drop j)) (f:=bB) (ty:=9) (sz:=1) (⟨#[]⟩) (fun _=>rfl);intro a_ D;replace a:=(a.tl.tl.tl.tl.add (K:=fun b=>SlO 1 bB ⟨#[]⟩ b zg (us.take j++[s]++(us.drop j))) a.f.1);exact ⟨_,⟨zg,zk,us.take j++[s]++(us.drop j),zP,rfl,a.to _ _,zr,(by rw[U];omega),(s8 oM)⟩,D.to _ kR⟩
 rintro _ _ ⟨mA,mc,Y,zQ,rfl,a,hmc,hml,hmm⟩;refine cQ (aa a ac (aY ?_));replace a:=a.add (K:=fun b=>SlO 1 bB ⟨#[]⟩ b mA Y) (a.f.1);refine bH _ (CG.loop (fun μ_ Γ w_=>∃ (k:Nat) (nA:Option Addr) (nc:Nat) (e:List ByteArray) (b:Hp),μ_=ks.length-k/\Γ=[(2,pB C),(4,sZ),(6,nV k),(1,qS nA e.length nc)]/\SS w h w_ b [⟨C,31,bD ⟨op,n,J,M,H,I,O,Q,L,s,A,B.length,c⟩⟩] [] [fun b=>SlO 1 bB ⟨#[]⟩ b nA e,fun b=>SlO 1 bB ⟨#[]⟩ b mA Y,fun b=>SlO 1 bB ⟨#[]⟩ b u us,fun b=>Rms d b B ks,fun b=>SlO 7 bD bT b A B,fun b=>RZ b (J,qS M H I,qS O Q L) q]/\k<=ks.length/\e.length<=nc/\e.length<=us.length+1+(dO (fun i=>eF d (ks.getD i cV)) k)/\(∀ x,x∈e↔(x∈us\/(op=2/\x=s)\/HasK d ks k x))) _ ⟨0,mA,mc,Y,zQ,rfl,rfl,a.to _ _,MG _,hmc,hml,(fun x=>(hmm x).trans (Kc _ _))⟩ ?_);rintro _ _ _ ⟨k,nA,nc,e,_,bx,rfl,a,hk,hnc,hnl,hnm⟩;refine cQ (aa a [.c,.v (qP C 6),.o (qS A B.length c) 0 6 1,.v (nV B.length)] ?_);cases ze:(decide ((k:Int)<(B.length:Int)))
 .
  have zp:=oF ze;refine lB 55 ze (ag (CG.exit ?_))
  show CG _ _ _ _ _ _ _ _
  refine aa a aD (lN (kX ?_));have hkn:k=ks.length:=by omega
  rw[hkn] at hnm hnl
  exact a.ret [] (qS nA e.length nc) (⟨_,_,_,rfl,hnc,(by show _<=us.length+(1+(dO (fun i=>eF d (ks.getD i cV)) ks.length));omega),a.f.1,hnm⟩)
 have zp:=oT ze;refine lB 55 ze (ak (cK (cQ (kZ (kQ (lL a [.v (qP C 6),.o (qS A B.length c) 0 6 1,.c] (lX 61 A B.length c 7 (k:Nat) k ((a.f.q.1).ok oM) ?_)))))));refine lH 62 (bJ (B.getD k bT)) a ((a.f.q.1).el k oM) (lL a ac ?_);have br:=oe (fun i=>eF d (ks.getD i cV)) (show k+1<=ks.length by omega);have bt:(dO (fun i=>eF d (ks.getD i cV)) (k+1))=(dO (fun i=>eF d (ks.getD i cV)) k)+eF d (ks.getD k cV):=rfl;refine lC 64 a (ih (B.getD k bT) (ks.getD k cV) nA nc e _ _ a.g ((a.f.r.2.1).at_ k oM) (hW k oM) hnc a.f.1 oM) ?_;rintro _ _ zR a ⟨xA,xc,xss,rfl,hxc,hxl,hX,hxm⟩;replace a:=a.aS hX;refine lL a ac (lN (kQ (lL a ac (bh 57 ((k:Nat)+1) (k+1) ?_))));refine lL a ac (lD ?_);intro a_ D;replace a:=(a.tl.tl.add (K:=fun b=>SlO 1 bB ⟨#[]⟩ b xA xss) a.f.1);refine ⟨_,_,?_,⟨k+1,xA,xc,xss,zR,rfl,rfl,a.to _ _,oM,hxc,oM,(fun x=>(hxm x).trans (Ku (hnm x)))⟩,D.to _ kR⟩
 omega
theorem u5 (ok:ByteArray->Prop):∀ (d:Nat) (r:RTm) (t:Tm) (e:Option Addr) (f:Nat) (us:List ByteArray) (w:World) (h:Hp),G w h->RmH d h r t->WfT ok d t->us.length<=f->SlO 1 bB ⟨#[]⟩ h e us->us.length+eF d t<=1000000->Calls Tryz.prog 96 #[bJ r,.slice e us.length f] w (Ret w h (fun v h1=>∃ o l,∃ a:List ByteArray,v=.slice o a.length l/\a.length<=l/\a.length<=us.length+eF d t/\SlO 1 bB ⟨#[]⟩ h1 o a/\∀ x,x∈a↔(x∈us\/gd d t x)))
  | 0,_,_,_,_,_,_,_,_,x,_,_,_,_=>x.elim
  | d+1,r,t,e,f,us,w,h,g,x,wf,huc,hL,hb=>by
    obtain ⟨op,n,b,B,y,u,I,C,J,q,s,A,c,D,ks,rfl,rfl,z,H,F,i⟩:=x.open;have j:ks.length<=2:=wf.two;obtain ⟨w1,w2,w3,Q,O,M,K,L,p⟩:=wf;exact CO ok d (fun r t e f us w h=>u5 ok d r t e f us w h) op n b B y u I C J q s A c D ks H e f us j p huc hb w h g z F i hL
theorem vu (ok:ByteArray->Prop)(d:Nat)(r:RTm)(t:Tm)(wf:WfT ok d t)(C:eF d t<=1000000)(w:World)(h:Hp)(g:G w h)(hR:RmH d h r t):CR 55 #[bJ r] w h (fun v h1=>∃ p l,∃ b:List ByteArray,v=.slice p b.length l/\b.length<=l/\b.length<=eF d t/\SlO 1 bB ⟨#[]⟩ h1 p b/\∀ x,x∈b↔gd d t x):=by
 have a:=((sS g).add (K:=fun y=>RmH d y r t) hR);refine go Tryz.func55 [(0,bJ r)] rfl (ax (lA 1 31 (bD r) a (fun H w2 D a=>lL a ac (aG (lL a [.o (bJ r) 0 0 7] (lC 4 a (u5 ok d r t none 0 [] _ _ a.g a.f.1 wf (nR _) SlO.nil (by simpa using C)) ?_))))));rintro _ F I a ⟨z,u,j,rfl,e,i,B,c⟩;replace a:=a.aS B;exact lL a ac (ae a [] (qS z j.length u) (⟨_,_,_,rfl,e,by simpa using i,a.f.1,fun x=>by simpa using c x⟩))
section laws
variable {M:Ms} {P:Program} {ops:Array Oper} {Q:Exit->Act->World->Prop} {k0:Nat}
structure Waits (ops:Array Oper) (k0 i:Nat) (late:List Nat):Prop where
  ev:∀ u∈late,∃ ou,ops[u]?=some ou/\∃ e∈ou.after,Region.binds .any e=true/\(e.on=i\/e.on∈late)
  tl:∀ j oj,ops[j]?=some oj->k0<=j->j∈late
end laws
theorem BS (j:Bool)(f:Option Addr)(b a:Nat)(l:Option Addr)(i o:Nat)(q:Rat)(w:World)(h:Hp)(g:G w h)(x:RZ h (j,.slice f b a,.slice l i o) q):Calls Tryz.prog 59 #[.agg #[.bool j,.slice f b a,.slice l i o]] w (Ret w h (fun v h1=>RQ h1 v q)):=by
 obtain ⟨has,⟨A,c,D,d,e,y,u,z,p⟩,hz⟩:=x;have e2:(Value.agg #[.bool j,qS f b a,qS l i o])=.agg #[.bool (af q.num),qS A (lim (ab q.num)).length c,qS D (lim (if has then q.den else 0)).length d]:=e;rw[e2];exact C4 { Cc with q:=q,has:=has } A c D d y u hz w h g z p
theorem Seg.front {h:Hp}{b o:Nat}{cs a:List Value}(s:Seg h b o (cs++a)):Seg h b o cs:=fun i v hv=>by
 have hi:i<cs.length:=by
  rcases Nat.lt_or_ge i cs.length with hl|hl
  ·exact hl
  ·rw[tv hl] at hv;cases hv
 exact s i v (by rw[List.getElem?_append_left hi];exact hv)
theorem SlO.of_flatS {α:Type}{sz:Nat}{f:α->List Value}{d:α}{h:Hp}{b o:Nat}{l:List α}{sp:List Value}(hf:∀ x,(f x).length=sz)(s:Seg h b o (l.flatMap f++sp)):SlO sz f d h (some ⟨b,o,none⟩) l:=SlO.of_flat hf s.front
theorem JS {ix:ByteArray->Nat}{fs ws:List Rat}{d:Nat}{n:Int}{q:Rat}{s:ByteArray}{ks:List Tm}:bY ix fs ws (d+1) (.mk 2 n q s ks)=(0,[fs.getD (ix s) 0,ws.getD (ix s) 0]):=rfl
section
variable {ok:ByteArray->Prop} {ix:ByteArray->Nat} {fs ws:List Rat}
theorem Be {d:Nat}{op n:Int}{q:Rat}{s:ByteArray}{a:Tm}(h1:op≠1)(b:op≠2):bY ix fs ws (d+1) (.mk op n q s [a])=px op n (bY ix fs ws d a) (0,[]):=by
 show (if op=1 then _ else if op=2 then _ else _)=_
 rw[if_neg h1,if_neg b];rfl
theorem tO {d:Nat}{op n:Int}{q:Rat}{s:ByteArray}{b a:Tm}(h1:op≠1)(c:op≠2):bY ix fs ws (d+1) (.mk op n q s [b,a])=px op n (bY ix fs ws d b) (bY ix fs ws d a):=by
 show (if op=1 then _ else if op=2 then _ else _)=_
 rw[if_neg h1,if_neg c];rfl
theorem qj {op n:Int}{x y:Int × List Rat}(h:x.1≠0):px op n x y=(x.1,[]):=if_pos h
theorem tB {op n:Int}{x y:Int × List Rat}(h:x.1=0)(a:y.1≠0):px op n x y=(y.1,[]):=by unfold px;rw[if_neg (fun k=>k h),if_pos a]
theorem qE {op n:Int}{x y:Int × List Rat}(h:x.1=0)(a:y.1=0):px op n x y=(bI op n (x.2.getD 0 0) (y.2.getD 0 0),iA op n x.2 y.2):=by unfold px;rw[if_neg (fun k=>k h),if_neg (fun k=>k a)]
theorem k7:∀ {d:Nat} {t:Tm},WfT1 ok d t->(bY ix fs ws d t).1=0->(bY ix fs ws d t).2.length=2
  | d + 1,t,_,h=>by
    by_cases o1:t.op=1
    . have e:bY ix fs ws (d+1) t=(0,[t.q,((0:Int):Rat)]):=if_pos o1
      rw[e];rfl
    . by_cases o2:t.op=2
      . have e:bY ix fs ws (d+1) t=(0,[fs.getD (ix t.s) 0,ws.getD (ix t.s) 0]):=(if_neg o1).trans (if_pos o2)
        rw[e];rfl
      . have e:bY ix fs ws (d+1) t=px t.op t.n _ _:=(if_neg o1).trans (if_neg o2)
        rw[e] at h ⊢
        generalize (if 0<t.ks.length then bY ix fs ws d (t.ks.getD 0 cV) else (0,[]))=x at *
        generalize (if 1<t.ks.length then bY ix fs ws d (t.ks.getD 1 cV) else (0,[]))=y at *
        by_cases c1:x.1=0
        . by_cases c2:y.1=0
          . rw[qE c1 c2] at h ⊢
            show (iA _ _ _ _).length=2
            unfold iA;rw[if_pos h];rfl
          . rw[tB c1 c2] at h;exact absurd h c2
        . rw[qj c1] at h;exact absurd h c1
end
theorem Cp {h:Hp}{x y:RT}{a b:Rat}(d:RQ h (tU x) a)(c:RQ h (tU y) b):RTs h [x,y] [a,b]:=(RTs.nil.snoc d).snoc c
theorem IU (x:RT)(hk:Hp)(w:World)(h:Hp)(g:G w h)(hz:hk.size<=h.size):CR 58 #[.agg #[.bool ((x).1),(x).2.1,(x).2.2],iV 1] w h (fun v h1=>∃ (b c:Nat) (sp:List Value) (r0:RT),v=.slice (sB b) 2 c/\2<=c/\Nw hk.size h1 b 28 (([x,r0]:List RT).flatMap eJ++sp)):=by
 have a:=sS g;refine go Tryz.func58 [(0,.agg #[.bool ((x).1),(x).2.1,(x).2.2]),(1,iV 1)] rfl (ax (lA 2 28 ([.bool ((x).1),(x).2.1,(x).2.2]) a (fun K w2 M a=>lL a ac (aG (lL a [.o (.agg #[.bool ((x).1),(x).2.1,(x).2.2]) 0 0 3] (HW 7 28 3 eJ ([x]:List RT) a (fun y O L a=>lL a ac ?_)))))));have B:(([x]:List RT)).length=1:=rfl;refine ah (kZ (cU ?_));refine cN (cQ (aa a [.c,.v (iV 1),.c,.v qT] (ak (cK (kZ (kQ (lL a ac (lC 13 a (pp 0 oM oM _ _ a.g) ?_))))))));rintro _ _ _ a ⟨e,za,zb,d,rfl,D,C,J,I⟩;replace a:=a.aP J I;refine lR 14 28 1 (gY ((0:Int):Rat) e za zb d) a (fun H _ _ a=>lY 15 0 28 3 ((([x]:List RT)).length) (sB y) ([x]:List RT) eJ ((af ((0:Int):Rat).num,qS e ((lim (ab ((0:Int):Rat).num)).length) za,qS zb ((lim ((0:Int):Rat).den).length) d):RT) 56 H (.agg #[qF,sZ,sZ]) a a.f.1 (fun j i _ _ a=>lL a ac (lD (CL.to [(1,iV 1),(4,sZ),(5,qS j ((([x]:List RT)++[((af ((0:Int):Rat).num,qS e ((lim (ab ((0:Int):Rat).num)).length) za,qS zb ((lim ((0:Int):Rat).den).length) d):RT)]).length) i),(8,qS (sB y) ((([x]:List RT)).length) ((([x]:List RT)).length)),(9,iV 1),(10,iV 1),(11,qT),(12,qS (sB y) ((([x]:List RT)).length) ((([x]:List RT)).length)),(13,rG ((0:Int):Rat) e za zb d),(14,qS (sB H) 1 1),(15,qS j ((([x]:List RT)++[((af ((0:Int):Rat).num,qS e ((lim (ab ((0:Int):Rat).num)).length) za,qS zb ((lim ((0:Int):Rat).den).length) d):RT)]).length) i)] ?_))));replace a:=a.to [⟨K,28,[.bool ((x).1),(x).2.1,(x).2.2]⟩] [⟨28,3,j,i,(([x]:List RT)++[((af ((0:Int):Rat).num,qS e ((lim (ab ((0:Int):Rat).num)).length) za,qS zb ((lim ((0:Int):Rat).den).length) d):RT)]).length,(([x]:List RT)++[((af ((0:Int):Rat).num,qS e ((lim (ab ((0:Int):Rat).num)).length) za,qS zb ((lim ((0:Int):Rat).den).length) d):RT)]).flatMap eJ⟩];refine cN (cQ (aa a [.c,.v (iV 2),.c,.v qF] (ag (CG.exit ?_))))
 show CG _ _ _ _ _ _ _ _
 refine aa a aD (lN (kX ?_));obtain ⟨hq,F,u,a,z,p⟩:=a.pubn 0 (A:=j) (c:=i) (ty:=28) (sz:=3) (l:=([x]:List RT)++[((af ((0:Int):Rat).num,qS e ((lim (ab ((0:Int):Rat).num)).length) za,qS zb ((lim ((0:Int):Rat).den).length) d):RT)]) (f:=eJ) (by show 0<2;decide);subst z;exact a.ret [] (qS (sB F) 2 i) (⟨F,_,u,_,rfl,p,Nw.mono a.f.1 hz⟩)
theorem Ia (ok:ByteArray->Prop)(ix:ByteArray->Nat)(fs ws:List Rat)(J:Option Addr)(x:Nat)(ns:List ByteArray)(O:Option Addr)(U:Nat)(z:List RT)(I:Option Addr)(S:Nat)(y:List RT)(hfl:fs.length=ns.length)(hwl:ws.length=ns.length)(Y:ns.length<=1000)(d:Nat)(n:Int)(l:Bool)(i:Option Addr)(e b:Nat)(p:Option Addr)(j u:Nat)(q:Rat)(s:ByteArray)(A:Option Addr)(c:Nat)(w:World)(h:Hp)(g:G w h)(hZ:RZ h (l,.slice i e b,.slice p j u) q)(hN:SlO 1 bB ⟨#[]⟩ h J ns)(hF:Sr O z h)(L:RTs h z fs)(M:Sr I y h)(Q:RTs h y ws):CR 28 #[bJ ⟨1,n,l,i,e,b,p,j,u,s,A,0,c⟩,.slice J ns.length x,.slice O z.length U,.slice I y.length S,iV 1,.bool true] w h (fun v h1=>∃ (V:Option Addr) (c_:Nat) (ts_:List RT),v=.tuple #[.slice V ts_.length c_,iV (bY ix fs ws (d+1) (.mk 1 n q s [])).1]/\ts_.length<=c_/\Sr V ts_ h1/\RTs h1 ts_ (bY ix fs ws (d+1) (.mk 1 n q s [])).2):=by
 have a:=(((((((sS g).add (K:=fun h_=>RZ h_ (l,qS i e b,qS p j u) q) hZ).aS hN).aS hF).aT L).aS M).aT Q);refine go Tryz.func28 [(0,bJ ⟨1,n,l,i,e,b,p,j,u,s,A,0,c⟩),(1,qS J ns.length x),(2,qS O z.length U),(3,qS I y.length S),(4,iV 1),(5,qT)] rfl (ax (lA 6 31 (bD ⟨1,n,l,i,e,b,p,j,u,s,A,0,c⟩) a (fun X w2 h3 a=>lL a aD (ah (aa a [.v (pB X),.o (iV 1) 0 0 1] (aY (aa a [.v qT,.c] (ak (aa a [.v (qP X 2),.o (.agg #[.bool l,qS i e b,qS p j u]) 0 2 3] (lC 26 a (BS l i e b p j u q _ _ a.g a.f.q.2.1) ?_))))))))));rintro _ _ _ a ⟨A4,Z,A8,c9,rfl,H,za,F,zb⟩;replace a:=a.aP F zb;refine lL a ac (lC 28 a ((by have q_:=n3 q A4 Z A8 c9 H za 1 kD _ _ a.g a.f.2.1 (a.f.1);exact q_)) ?_);rintro _ _ _ a ⟨Az,cz,W,rfl,C,B,D⟩;replace a:=((a.aS B).aT D);exact lL a aD (ae a [] (.tuple #[qS Az W.length cz,iV 0]) (⟨_,_,W,rfl,C,a.f.2.1,a.f.1⟩))
theorem IS (ok:ByteArray->Prop)(ix:ByteArray->Nat)(fs ws:List Rat)(M:Option Addr)(p:Nat)(ns:List ByteArray)(S:Option Addr)(cF:Nat)(e:List RT)(V:Option Addr)(cW:Nat)(I:List RT)(hfl:fs.length=ns.length)(hwl:ws.length=ns.length)(hnl:ns.length<=1000)(d:Nat)(n:Int)(y:Bool)(B:Option Addr)(u x:Nat)(C:Option Addr)(D z:Nat)(q:Rat)(s:ByteArray)(A:Option Addr)(c:Nat)(Q:List RTm)(ks:List Tm)(hfx:∀ k,k<ns.length->ns.getD k ⟨#[]⟩=s->(∀ i,i<k->ns.getD i ⟨#[]⟩≠s)->ix s=k)(hfo:∃ i,i<ns.length/\ns.getD i ⟨#[]⟩=s)(w:World)(h:Hp)(g:G w h)(hZ:RZ h (y,.slice B u x,.slice C D z) q)(hN:SlO 1 bB ⟨#[]⟩ h M ns)(hF:Sr S e h)(hTf:RTs h e fs)(hW_:Sr V I h)(hTw:RTs h I ws):CR 28 #[bJ ⟨2,n,y,B,u,x,C,D,z,s,A,Q.length,c⟩,.slice M ns.length p,.slice S e.length cF,.slice V I.length cW,iV 1,.bool true] w h (fun v h1=>∃ (A_:Option Addr) (c_:Nat) (ts_:List RT),v=.tuple #[.slice A_ ts_.length c_,iV (bY ix fs ws (d+1) (.mk 2 n q s ks)).1]/\ts_.length<=c_/\Sr A_ ts_ h1/\RTs h1 ts_ (bY ix fs ws (d+1) (.mk 2 n q s ks)).2):=by
 have a:=(((((((sS g).add (K:=fun j=>RZ j (y,qS B u x,qS C D z) q) hZ).aS hN).aS hF).aT hTf).aS hW_).aT hTw);have bf:=(a.f.r.1).len;have bl:=(a.f.1).len;refine go Tryz.func28 [(0,bJ ⟨2,n,y,B,u,x,C,D,z,s,A,Q.length,c⟩),(1,qS M ns.length p),(2,qS S e.length cF),(3,qS V I.length cW),(4,iV 1),(5,qT)] rfl (ax (lA 6 31 (bD ⟨2,n,y,B,u,x,C,D,z,s,A,Q.length,c⟩) a (fun L w2 h3 a=>lL a aD (ah (aa a [.v (pB L),.o (iV 2) 0 0 1] (aY (aa a [.v qF,.c] (ag (aa a [.v qT,.c] (ak (cQ (aa a ac (aY ?_)))))))))))));refine bH _ (CG.loop (fun μ_ Γ w_=>∃ (k:Nat) (j:Hp),μ_=ns.length-k/\Γ=[(1,qS M ns.length p),(2,qS S e.length cF),(3,qS V I.length cW),(4,iV 1),(5,qT),(6,pB L),(14,nV k)]/\SS w h w_ j [⟨L,31,bD ⟨2,n,y,B,u,x,C,D,z,s,A,Q.length,c⟩⟩] [] [Rt I ws,Sr V I,Rt e fs,Sr S e,fun j=>SlO 1 bB ⟨#[]⟩ j M ns,fun j=>RZ j (y,qS B u x,qS C D z) q]/\k<=ns.length/\(∀ i,i<k->ns.getD i ⟨#[]⟩≠s)) _ ⟨0,h3,rfl,rfl,a.to _ _,MG _,(fun i hi=>absurd hi (N8 i))⟩ ?_);rintro _ _ w4 ⟨k,h5,hm6,rfl,a,hk,O⟩;refine cQ (aa a [.c,.c,.v (nV ns.length)] ?_);cases H:(decide ((k:Int)<(ns.length:Int)))
 .
  have Y:=oF H;refine lB 34 H (ag (CG.exit ?_))
  show CG _ _ _ _ _ _ _ _
  refine aa a aD (lN (kX ?_));exact absurd hfo (fun j=>by obtain ⟨i_,h1_,h2_⟩:=j;exact O i_ oM h2_)
 have Y:=oT H;refine lB 34 H (ak (cK (cQ (kZ (cQ (cR 7 [] mixed a ao ?_))))));refine eV 0 37 (qS M ns.length p) (eV 1 38 (nV k) (eX 2 39 M ns.length p 1 (k:Nat) k ((a.f.q.1).ok oM) (eH 3 40 (.string (ns.getD k ⟨#[]⟩)) a ((a.f.q.1).el k oM) (eV 4 41 (qP L 5) (eO 5 42 [(0,5,1)] (.string s) a ?_)))));cases J:(kj (ns.getD k ⟨#[]⟩) s)
 .
  have bb:=g6 J;refine eB 6 43 J (bP a (fun w9 za a=>tN (dr (cK (kQ (lL a ac (bh 36 ((k:Nat)+1) (k+1) ?_)))))));refine lL a ac (lD ?_);intro a_ ka;refine ⟨_,_,?_,⟨k+1,za,rfl,rfl,a.to _ _,oM,(fun i hi=>by rcases Ou.1 hi with j|rfl;exact O i j;assumption)⟩,ka.to _ kR⟩
  omega
 have bb:=g5 J;refine eB 6 43 J (bP a (fun _ _ a=>tN (co (aa a aD (lX 46 S e.length cF 3 (k:Nat) k ((a.f.r.2.1).ok oM) ?_)))));refine lH 47 (rA (e.getD k fz)) a ((a.f.r.2.1).el k oM) (lL a ac (kd 49 (IU (e.getD k fz) _ _ _ a.g (nR _)) ?_));rintro _ _ _ u17 ⟨bz,cz,F,U,rfl,hcz,hNz⟩;obtain ⟨_,a,-,-⟩:=a.take u17 hNz.1 hNz.2.2;replace a:=a.to [⟨bz,28,(([e.getD k fz,U]:List RT)).flatMap eJ++F⟩,⟨L,31,bD ⟨2,n,y,B,u,x,C,D,z,s,A,Q.length,c⟩⟩] [];have bd:([e.getD k fz,U]:List RT).length=2:=rfl;refine lL a ac (ah (aa a [.c,.v qT] (ak (kQ (lL a di (lX 55 V I.length cW 3 (k:Nat) k ((a.f.2.1).ok oM) ?_))))));obtain ⟨Aw,cw,Z,X,ew,hcw,hdw,hAw,hDw⟩:=(a.f.1).at_ k oM;replace a:=a.aP hAw hDw;refine Fo 56 (rA (I.getD k fz)) a ((a.f.r.2.1).el k oM) ew (lX 57 (sB bz) 2 cz 3 1 1 rfl (Lm 0 ([e.getD k fz,U]:List RT) eJ 3 1 ((af (ws.getD k 0).num,qS Aw ((lim (ab (ws.getD k 0).num)).length) cw,qS Z ((lim (ws.getD k 0).den).length) X):RT) F a oM (fun _ a=>?_)));have bm:((([e.getD k fz,U]:List RT)).set 1 ((af (ws.getD k 0).num,qS Aw ((lim (ab (ws.getD k 0).num)).length) cw,qS Z ((lim (ws.getD k 0).den).length) X):RT)).length=2:=by rw[LB];exact rfl
 replace a:=a.to [⟨bz,28,((([e.getD k fz,U]:List RT)).set 1 ((af (ws.getD k 0).num,qS Aw ((lim (ab (ws.getD k 0).num)).length) cw,qS Z ((lim (ws.getD k 0).den).length) X):RT)).flatMap eJ++F⟩,⟨L,31,bD ⟨2,n,y,B,u,x,C,D,z,s,A,Q.length,c⟩⟩] [];refine aG (lL a di (lN (kX ?_)));have hkx:ix s=k:=hfx k oM aM O;obtain ⟨_,a,W,bn,bk⟩:=a.pub 0;replace a:=(a.to [⟨L,31,bD ⟨2,n,y,B,u,x,C,D,z,s,A,Q.length,c⟩⟩] []).aS (SlO.of_flatS (sp:=F) (sz:=3) (f:=eJ) (d:=fz) (b:=bz) (o:=0) (l:=(([e.getD k fz,U]:List RT)).set 1 ((af (ws.getD k 0).num,qS Aw ((lim (ab (ws.getD k 0).num)).length) cw,qS Z ((lim (ws.getD k 0).den).length) X):RT)) (fun _=>rfl) W);exact a.ret [] (.tuple #[qS (sB bz) 2 cz,iV 0]) (by show ∃ _,_;exact ⟨_,_,([e.getD k fz,((af (ws.getD k 0).num,qS Aw ((lim (ab (ws.getD k 0).num)).length) cw,qS Z ((lim (ws.getD k 0).den).length) X):RT)]:List RT),rfl,hcz,a.f.1,by rw[JS,hkx];exact Cp ((a.f.q.2.1).at_ k oM) (lp hcw hdw a.f.r.1 a.f.2.1)⟩)
theorem IT  (ok:ByteArray->Prop)(ix:ByteArray->Nat)(fs ws:List Rat)(D:Option Addr)(x:Nat)(ns:List ByteArray)(C:Option Addr)(H:Nat)(z:List RT)(F:Option Addr)(M:Nat)(y:List RT)(hfl:fs.length=ns.length)(hwl:ws.length=ns.length)(hnl:ns.length<=1000)(d:Nat)(ih:∀ (r:RTm) (t:Tm) (w:World) (h:Hp),G w h->RmH d h r t->WfT1 ok d t->bZ d t<=1000->SlO 1 bB ⟨#[]⟩ h D ns->Sr C z h->RTs h z fs->Sr F y h->RTs h y ws->Calls Tryz.prog 28 #[bJ r,.slice D ns.length x,.slice C z.length H,.slice F y.length M,iV 1,.bool true] w (Ret w h (fun v h1=>∃ (I:Option Addr) (c_:Nat) (ts_:List RT),v=.tuple #[.slice I ts_.length c_,iV (bY ix fs ws d t).1]/\ts_.length<=c_/\Sr I ts_ h1/\RTs h1 ts_ (bY ix fs ws d t).2)))(op n:Int)(S:Bool)(V:Option Addr)(J O:Nat)(X:Option Addr)(Y U:Nat)(q:Rat)(s:ByteArray)(A:Option Addr)(c:Nat)(B:RTm)(j:Tm)(W:WfT1 ok d j)(hg1:bZ d j<=1000)(hv1:∀ i,LQ 1000000 ((bY ix fs ws d j).2.getD i 0))(hu1:LQ 3000 ((bY ix fs ws d j).2.getD 0 0))(hop:3<=op/\op<=13)(har:fv op=1)(hn : -12<=n/\n<=12)(w:World)(h:Hp)(g:G w h)(hK:SlO 7 bD bT h A ([B]:List RTm))(hr1:RmH d h B j)(hN:SlO 1 bB ⟨#[]⟩ h D ns)(hF:Sr C z h)(hTf:RTs h z fs)(hW_:Sr F y h)(hTw:RTs h y ws):CR 28 #[bJ ⟨op,n,S,V,J,O,X,Y,U,s,A,1,c⟩,.slice D ns.length x,.slice C z.length H,.slice F y.length M,iV 1,.bool true] w h (fun v h1=>∃ (I:Option Addr) (c_:Nat) (ts_:List RT),v=.tuple #[.slice I ts_.length c_,iV (bY ix fs ws (d+1) (.mk op n q s ([j]:List Tm))).1]/\ts_.length<=c_/\Sr I ts_ h1/\RTs h1 ts_ (bY ix fs ws (d+1) (.mk op n q s ([j]:List Tm))).2):=by
 have a:=((((((((sS g).aS hK).add (K:=fun h_=>RmH d h_ B j) hr1).aS hN).aS hF).aT hTf).aS hW_).aT hTw);have hln:([B]:List RTm).length=1:=rfl;have hac:=aE op;refine go Tryz.func28 [(0,bJ ⟨op,n,S,V,J,O,X,Y,U,s,A,1,c⟩),(1,qS D ns.length x),(2,qS C z.length H),(3,qS F y.length M),(4,iV 1),(5,qT)] rfl (ax (lA 6 31 (bD ⟨op,n,S,V,J,O,X,Y,U,s,A,1,c⟩) a (fun u w2 h3 a=>lL a aD (ah (aa a [.v (pB u),.o (iV op) 0 0 1] (aY (ax ?_)))))));have Z:((op:Int) == (1:Int))=false:=eM oM;have bf:=aj Z;refine lB 23 Z (lL a ac (ag (ax ?_)));have Q:((op:Int) == (2:Int))=false:=eM oM;have bk:=aj Q;refine lB 30 Q (lL a ac (ag (cK (ax (HW 59 36 1 vc ([(sZ:Value),(sZ:Value)]:List Value) a (fun p w7 h8 a=>lL a ac ?_))))));have bd:(([(sZ:Value),(sZ:Value)]:List Value)).length=2:=rfl;refine ah (aa a ac (aY (cU ?_)));refine cN (cQ (aa a [.c,.v (qP u 6),.o (qS A 1 c) 0 6 1,.v (iV 1),.v qT] (ak (cK (cQ (kZ (aa a [.v (qP u 6),.o (qS A 1 c) 0 6 1,.c] (lX 71 A 1 c 7 0 0 ((a.f.q.r.1).ok oM) ?_))))))));refine lH 72 (bJ (([B]:List RTm).getD 0 bT)) a ((a.f.q.r.1).el 0 oM) (lL a Jp (lC 78 a (ih (([B]:List RTm).getD 0 bT) j _ _ a.g a.f.q.2.1 W hg1 a.f.q.1 a.f.r.2.1 a.f.r.1 a.f.2.1 a.f.1) ?_));rintro _ _ _ a ⟨l,c1,e,rfl,L,hS1,hT1⟩;replace a:=((a.aS hS1).aT hT1);refine lL a [.c,.v (qS l e.length c1),.v (iV ((bY ix fs ws d j).1)),.c,.c] (ah (aa a ac ?_));cases za:(((bY ix fs ws d j).1:Int) != (0:Int))
 .
  have zb:=aW za;refine lB 82 za (ag (cK (kQ (lL a di (lX 87 (sB p) ((([(sZ:Value),(sZ:Value)]:List Value)).length) ((([(sZ:Value),(sZ:Value)]:List Value)).length) 1 0 0 rfl ?_)))));refine Hm (ty:=36) (c:=(([(sZ:Value),(sZ:Value)]:List Value)).length) (b:=p) 0 0 0 ([qS l e.length c1]) ([(sZ:Value),(sZ:Value)]:List Value) vc 1 undef (qS l e.length c1:Value) a oM (fun _ a=>?_);replace a:=a.to [⟨u,31,bD ⟨op,n,S,V,J,O,X,Y,U,s,A,1,c⟩⟩] [⟨36,1,sB p,(([(sZ:Value),(sZ:Value)]:List Value)).length,(([(sZ:Value),(sZ:Value)]:List Value)).length,(([(sZ:Value),(sZ:Value)]:List Value).set 0 (qS l e.length c1:Value)).flatMap vc⟩];have bb:(([(sZ:Value),(sZ:Value)]:List Value).set 0 (qS l e.length c1:Value)).length=2:=rfl;refine lN (kQ (lL a [.c,.v (iV 1),.c] (lD (CL.to [(1,qS D ns.length x),(2,qS C z.length H),(3,qS F y.length M),(4,iV 1),(5,qT),(6,pB u),(12,sZ),(13,iV 0),(16,qS (sB p) ((([(sZ:Value),(sZ:Value)]:List Value)).length) ((([(sZ:Value),(sZ:Value)]:List Value)).length)),(17,iV 1),(60,iV 0),(61,qP u 6),(62,qS A 1 c),(63,iV 1),(64,qT),(68,qP u 6),(69,qS A 1 c),(70,iV 0),(71,.pointer (some ⟨(aB A),aO A+0*7,none⟩)),(72,bJ (([B]:List RTm).getD 0 bT)),(73,qS D ns.length x),(74,qS C z.length H),(75,qS F y.length M),(76,iV 1),(77,qT),(78,.tuple #[qS l e.length c1,iV ((bY ix fs ws d j).1)]),(67,.tuple #[qS l e.length c1,iV ((bY ix fs ws d j).1)]),(79,qS l e.length c1),(80,iV ((bY ix fs ws d j).1)),(18,qS l e.length c1),(19,iV ((bY ix fs ws d j).1)),(81,iV ((bY ix fs ws d j).1)),(82,qF),(84,qS (sB p) ((([(sZ:Value),(sZ:Value)]:List Value)).length) ((([(sZ:Value),(sZ:Value)]:List Value)).length)),(85,iV 0),(86,qS l e.length c1),(87,qP p (0+0*1)),(65,iV 0),(66,iV 1)] ?_))));replace a:=a.to [⟨u,31,bD ⟨op,n,S,V,J,O,X,Y,U,s,A,1,c⟩⟩] [⟨36,1,sB p,(([(sZ:Value),(sZ:Value)]:List Value)).length,(([(sZ:Value),(sZ:Value)]:List Value)).length,(([(sZ:Value),(sZ:Value)]:List Value).set 0 (qS l e.length c1:Value)).flatMap vc⟩];refine cN (cQ (aa a [.c,.v (qP u 6),.o (qS A 1 c) 0 6 1,.v (iV 1),.v qF] (ag (CG.exit ?_))))
  show CG _ _ _ _ _ _ _ _
  refine cQ (cR 14 [] mixed a ao ?_);refine eV 0 88 (pB u) (eO 1 89 [(0,0,1)] (iV op) a (eV 2 90 (qP u 1) (eO 3 91 [(0,1,1)] (iV n) a (eV 4 92 (qS (sB p) ((([(sZ:Value),(sZ:Value)]:List Value)).length) ((([(sZ:Value),(sZ:Value)]:List Value)).length)) (eX 5 93 (sB p) ((([(sZ:Value),(sZ:Value)]:List Value)).length) ((([(sZ:Value),(sZ:Value)]:List Value)).length) 1 0 0 rfl (E2 (ty:=36) (sz:=1) (c:=(([(sZ:Value),(sZ:Value)]:List Value)).length) (m:=(([(sZ:Value),(sZ:Value)]:List Value)).length) (b:=p) (cs:=(([(sZ:Value),(sZ:Value)]:List Value).set 0 (qS l e.length c1:Value)).flatMap vc) 6 94 0 (qS l e.length c1) ([qS l e.length c1]) a (fw (f:=vc) (sz:=1) (fun _=>rfl) undef (([(sZ:Value),(sZ:Value)]:List Value).set 0 (qS l e.length c1:Value)) 0 oM) (eV 7 95 (qS (sB p) ((([(sZ:Value),(sZ:Value)]:List Value)).length) ((([(sZ:Value),(sZ:Value)]:List Value)).length)) (eX 8 96 (sB p) ((([(sZ:Value),(sZ:Value)]:List Value)).length) ((([(sZ:Value),(sZ:Value)]:List Value)).length) 1 1 1 rfl (E2 (ty:=36) (sz:=1) (c:=(([(sZ:Value),(sZ:Value)]:List Value)).length) (m:=(([(sZ:Value),(sZ:Value)]:List Value)).length) (b:=p) (cs:=(([(sZ:Value),(sZ:Value)]:List Value).set 0 (qS l e.length c1:Value)).flatMap vc) 9 97 0 (sZ) ([sZ]) a (fw (f:=vc) (sz:=1) (fun _=>rfl) undef (([(sZ:Value),(sZ:Value)]:List Value).set 0 (qS l e.length c1:Value)) 1 oM) (eV 10 98 qT (eC 11 99 a (fun _ _ a=>nN op n l c1 (bY ix fs ws d j).2 e none 0 [] [] L (nR _) 3000 1000000 kD kD kD hop (fun _=>hn) (k7 W oM) (fun h_=>absurd h_ oM) hu1 hv1 (fun i=>by rw[dB];exact jd kD) _ _ a.g a.f.2.1 a.f.1 SlO.nil RTs.nil) ?_)))))))))));rintro _ _ _ _ _ a ⟨Ar,cr,tr,rfl,hcr,hAr,hTr⟩;replace a:=((a.aS hAr).aT hTr);refine eV 12 100 (qS Ar tr.length cr) (eV 13 101 (iV (bI op n ((bY ix fs ws d j).2.getD 0 0) (([]:List Rat).getD 0 0))) (bP a (fun _ _ a=>tV 14 12 (qS Ar tr.length cr) (tV 15 13 (iV (bI op n ((bY ix fs ws d j).2.getD 0 0) (([]:List Rat).getD 0 0))) (tN (bH [(12,qS Ar tr.length cr),(13,iV (bI op n ((bY ix fs ws d j).2.getD 0 0) (([]:List Rat).getD 0 0)))] ?_))))));exact kX (a.ret [] (.tuple #[qS Ar tr.length cr,iV (bI op n ((bY ix fs ws d j).2.getD 0 0) (([]:List Rat).getD 0 0))]) (by rw[Be oM oM,qE oM rfl];exact ⟨_,_,tr,rfl,hcr,a.f.2.1,a.f.1⟩))
 have zb:=aN za;exact lB 82 za (ak (aa a di (ae a [] (.tuple #[sZ,iV ((bY ix fs ws d j).1)]) (by rw[Be oM oM,qj oM];exact ⟨none,0,[],rfl,nR _,SlO.nil,RTs.nil⟩))))
theorem Jv  (ok:ByteArray->Prop)(ix:ByteArray->Nat)(fs ws:List Rat)(J:Option Addr)(B:Nat)(ns:List ByteArray)(I:Option Addr)(M:Nat)(D:List RT)(L:Option Addr)(Q:Nat)(C:List RT)(hfl:fs.length=ns.length)(hwl:ws.length=ns.length)(hnl:ns.length<=1000)(d:Nat)(ih:∀ (r:RTm) (t:Tm) (w:World) (h:Hp),G w h->RmH d h r t->WfT1 ok d t->bZ d t<=1000->SlO 1 bB ⟨#[]⟩ h J ns->Sr I D h->RTs h D fs->Sr L C h->RTs h C ws->Calls Tryz.prog 28 #[bJ r,.slice J ns.length B,.slice I D.length M,.slice L C.length Q,iV 1,.bool true] w (Ret w h (fun v h1=>∃ (A_:Option Addr) (c_:Nat) (ts_:List RT),v=.tuple #[.slice A_ ts_.length c_,iV (bY ix fs ws d t).1]/\ts_.length<=c_/\Sr A_ ts_ h1/\RTs h1 ts_ (bY ix fs ws d t).2)))(op n:Int)(U:Bool)(W:Option Addr)(O S:Nat)(X:Option Addr)(Y V:Nat)(q:Rat)(s:ByteArray)(A:Option Addr)(c:Nat)(F:RTm)(u:Tm)(hw1:WfT1 ok d u)(hg1:bZ d u<=1000)(hv1:∀ i,LQ 1000000 ((bY ix fs ws d u).2.getD i 0))(hu1:LQ 3000 ((bY ix fs ws d u).2.getD 0 0))(H:RTm)(l:Tm)(Z:WfT1 ok d l)(hg2:bZ d l<=1000)(hv2:∀ i,LQ 1000000 ((bY ix fs ws d l).2.getD i 0))(hu2:LQ 3000 ((bY ix fs ws d l).2.getD 0 0))(hop:3<=op/\op<=13)(har:fv op=2)(hn : -12<=n/\n<=12)(w:World)(h:Hp)(g:G w h)(hK:SlO 7 bD bT h A ([F,H]:List RTm))(hr1:RmH d h F u)(hr2:RmH d h H l)(hN:SlO 1 bB ⟨#[]⟩ h J ns)(hF:Sr I D h)(hTf:RTs h D fs)(hW_:Sr L C h)(hTw:RTs h C ws):CR 28 #[bJ ⟨op,n,U,W,O,S,X,Y,V,s,A,2,c⟩,.slice J ns.length B,.slice I D.length M,.slice L C.length Q,iV 1,.bool true] w h (fun v h1=>∃ (A_:Option Addr) (c_:Nat) (ts_:List RT),v=.tuple #[.slice A_ ts_.length c_,iV (bY ix fs ws (d+1) (.mk op n q s ([u,l]:List Tm))).1]/\ts_.length<=c_/\Sr A_ ts_ h1/\RTs h1 ts_ (bY ix fs ws (d+1) (.mk op n q s ([u,l]:List Tm))).2):=by
 have a:=(((((((((sS g).aS hK).add (K:=fun h_=>RmH d h_ F u) hr1).add (K:=fun h_=>RmH d h_ H l) hr2).aS hN).aS hF).aT hTf).aS hW_).aT hTw);have hln:([F,H]:List RTm).length=2:=rfl;have hac:=aE op;refine go Tryz.func28 [(0,bJ ⟨op,n,U,W,O,S,X,Y,V,s,A,2,c⟩),(1,qS J ns.length B),(2,qS I D.length M),(3,qS L C.length Q),(4,iV 1),(5,qT)] rfl (ax (lA 6 31 (bD ⟨op,n,U,W,O,S,X,Y,V,s,A,2,c⟩) a (fun y w2 h3 a=>lL a aD (ah (aa a [.v (pB y),.o (iV op) 0 0 1] (aY (ax ?_)))))));have hb4:((op:Int) == (1:Int))=false:=eM oM;have bl:=aj hb4;refine lB 23 hb4 (lL a ac (ag (ax ?_)));have hb5:((op:Int) == (2:Int))=false:=eM oM;have bm:=aj hb5;refine lB 30 hb5 (lL a ac (ag (cK (ax (HW 59 36 1 vc ([(sZ:Value),(sZ:Value)]:List Value) a (fun x w7 h8 a=>lL a ac ?_))))));have bk:(([(sZ:Value),(sZ:Value)]:List Value)).length=2:=rfl;refine ah (aa a ac (aY (cU ?_)));refine cN (cQ (aa a [.c,.v (qP y 6),.o (qS A 2 c) 0 6 1,.v (iV 2),.v qT] (ak (cK (cQ (kZ (aa a [.v (qP y 6),.o (qS A 2 c) 0 6 1,.c] (lX 71 A 2 c 7 0 0 ((a.f.q.r.2.1).ok oM) ?_))))))));refine lH 72 (bJ (([F,H]:List RTm).getD 0 bT)) a ((a.f.q.r.2.1).el 0 oM) (lL a Jp (lC 78 a (ih (([F,H]:List RTm).getD 0 bT) u _ _ a.g a.f.q.r.1 hw1 hg1 a.f.q.1 a.f.r.2.1 a.f.r.1 a.f.2.1 a.f.1) ?_));rintro _ _ _ a ⟨p,c1,e,rfl,bd,hS1,hT1⟩;replace a:=((a.aS hS1).aT hT1);refine lL a [.c,.v (qS p e.length c1),.v (iV ((bY ix fs ws d u).1)),.c,.c] (ah (aa a ac ?_));cases za:(((bY ix fs ws d u).1:Int) != (0:Int))
 .
  have zd:=aW za;refine lB 82 za (ag (cK (kQ (lL a di (lX 87 (sB x) ((([(sZ:Value),(sZ:Value)]:List Value)).length) ((([(sZ:Value),(sZ:Value)]:List Value)).length) 1 0 0 rfl ?_)))));refine Hm (ty:=36) (c:=(([(sZ:Value),(sZ:Value)]:List Value)).length) (b:=x) 0 0 0 ([qS p e.length c1]) ([(sZ:Value),(sZ:Value)]:List Value) vc 1 undef (qS p e.length c1:Value) a oM (fun _ a=>?_);replace a:=a.to [⟨y,31,bD ⟨op,n,U,W,O,S,X,Y,V,s,A,2,c⟩⟩] [⟨36,1,sB x,(([(sZ:Value),(sZ:Value)]:List Value)).length,(([(sZ:Value),(sZ:Value)]:List Value)).length,(([(sZ:Value),(sZ:Value)]:List Value).set 0 (qS p e.length c1:Value)).flatMap vc⟩];have bf:(([(sZ:Value),(sZ:Value)]:List Value).set 0 (qS p e.length c1:Value)).length=2:=rfl;refine lN (kQ (lL a [.c,.v (iV 1),.c] (lD (CL.to [(1,qS J ns.length B),(2,qS I D.length M),(3,qS L C.length Q),(4,iV 1),(5,qT),(6,pB y),(12,sZ),(13,iV 0),(16,qS (sB x) ((([(sZ:Value),(sZ:Value)]:List Value)).length) ((([(sZ:Value),(sZ:Value)]:List Value)).length)),(17,iV 1),(60,iV 0),(61,qP y 6),(62,qS A 2 c),(63,iV 2),(64,qT),(68,qP y 6),(69,qS A 2 c),(70,iV 0),(71,.pointer (some ⟨(aB A),aO A+0*7,none⟩)),(72,bJ (([F,H]:List RTm).getD 0 bT)),(73,qS J ns.length B),(74,qS I D.length M),(75,qS L C.length Q),(76,iV 1),(77,qT),(78,.tuple #[qS p e.length c1,iV ((bY ix fs ws d u).1)]),(67,.tuple #[qS p e.length c1,iV ((bY ix fs ws d u).1)]),(79,qS p e.length c1),(80,iV ((bY ix fs ws d u).1)),(18,qS p e.length c1),(19,iV ((bY ix fs ws d u).1)),(81,iV ((bY ix fs ws d u).1)),(82,qF),(84,qS (sB x) ((([(sZ:Value),(sZ:Value)]:List Value)).length) ((([(sZ:Value),(sZ:Value)]:List Value)).length)),(85,iV 0),(86,qS p e.length c1),(87,qP x (0+0*1)),(65,iV 0),(66,iV 1)] ?_))));replace a:=a.to [⟨y,31,bD ⟨op,n,U,W,O,S,X,Y,V,s,A,2,c⟩⟩] [⟨36,1,sB x,(([(sZ:Value),(sZ:Value)]:List Value)).length,(([(sZ:Value),(sZ:Value)]:List Value)).length,(([(sZ:Value),(sZ:Value)]:List Value).set 0 (qS p e.length c1:Value)).flatMap vc⟩];refine cN (cQ (aa a [.c,.v (qP y 6),.o (qS A 2 c) 0 6 1,.v (iV 2),.v qT] (ak (cK (cQ (kZ (aa a [.v (qP y 6),.o (qS A 2 c) 0 6 1,.c] (lX 71 A 2 c 7 1 1 ((a.f.q.q.2.1).ok oM) ?_))))))));refine lH 72 (bJ (([F,H]:List RTm).getD 1 bT)) a ((a.f.q.q.2.1).el 1 oM) (lL a Jp (lC 78 a (ih (([F,H]:List RTm).getD 1 bT) l _ _ a.g a.f.q.r.2.1 Z hg2 a.f.q.r.1 a.f.q.2.1 a.f.q.1 a.f.r.2.1 a.f.r.1) ?_));rintro _ _ _ a ⟨z,c2,j,rfl,bb,hS2,hT2⟩;replace a:=((a.aS hS2).aT hT2);refine lL a [.c,.v (qS z j.length c2),.v (iV ((bY ix fs ws d l).1)),.c,.c] (ah (aa a ac ?_));cases zb:(((bY ix fs ws d l).1:Int) != (0:Int))
  .
   have ze:=aW zb;refine lB 82 zb (ag (cK (kQ (lL a di (lX 87 (sB x) ((([(sZ:Value),(sZ:Value)]:List Value)).length) ((([(sZ:Value),(sZ:Value)]:List Value)).length) 1 1 1 rfl ?_)))));refine Hm (ty:=36) (c:=(([(sZ:Value),(sZ:Value)]:List Value)).length) (b:=x) 0 1 0 ([qS z j.length c2]) (([(sZ:Value),(sZ:Value)]:List Value).set 0 (qS p e.length c1:Value)) vc 1 undef (qS z j.length c2:Value) a oM (fun _ a=>?_);replace a:=a.to [⟨y,31,bD ⟨op,n,U,W,O,S,X,Y,V,s,A,2,c⟩⟩] [⟨36,1,sB x,(([(sZ:Value),(sZ:Value)]:List Value)).length,(([(sZ:Value),(sZ:Value)]:List Value)).length,((([(sZ:Value),(sZ:Value)]:List Value).set 0 (qS p e.length c1:Value)).set 1 (qS z j.length c2:Value)).flatMap vc⟩];have bn:((([(sZ:Value),(sZ:Value)]:List Value).set 0 (qS p e.length c1:Value)).set 1 (qS z j.length c2:Value)).length=2:=rfl;refine lN (kQ (lL a [.c,.v (iV 2),.c] (lD (CL.to [(1,qS J ns.length B),(2,qS I D.length M),(3,qS L C.length Q),(4,iV 1),(5,qT),(6,pB y),(12,sZ),(13,iV 0),(16,qS (sB x) ((([(sZ:Value),(sZ:Value)]:List Value)).length) ((([(sZ:Value),(sZ:Value)]:List Value)).length)),(17,iV 2),(60,iV 1),(61,qP y 6),(62,qS A 2 c),(63,iV 2),(64,qT),(68,qP y 6),(69,qS A 2 c),(70,iV 1),(71,.pointer (some ⟨(aB A),aO A+1*7,none⟩)),(72,bJ (([F,H]:List RTm).getD 1 bT)),(73,qS J ns.length B),(74,qS I D.length M),(75,qS L C.length Q),(76,iV 1),(77,qT),(78,.tuple #[qS z j.length c2,iV ((bY ix fs ws d l).1)]),(67,.tuple #[qS z j.length c2,iV ((bY ix fs ws d l).1)]),(79,qS z j.length c2),(80,iV ((bY ix fs ws d l).1)),(18,qS z j.length c2),(19,iV ((bY ix fs ws d l).1)),(81,iV ((bY ix fs ws d l).1)),(82,qF),(84,qS (sB x) ((([(sZ:Value),(sZ:Value)]:List Value)).length) ((([(sZ:Value),(sZ:Value)]:List Value)).length)),(85,iV 1),(86,qS z j.length c2),(87,qP x (0+1*1)),(65,iV 1),(66,iV 2)] ?_))));replace a:=a.to [⟨y,31,bD ⟨op,n,U,W,O,S,X,Y,V,s,A,2,c⟩⟩] [⟨36,1,sB x,(([(sZ:Value),(sZ:Value)]:List Value)).length,(([(sZ:Value),(sZ:Value)]:List Value)).length,((([(sZ:Value),(sZ:Value)]:List Value).set 0 (qS p e.length c1:Value)).set 1 (qS z j.length c2:Value)).flatMap vc⟩];refine cN (cQ (aa a [.c,.v (qP y 6),.o (qS A 2 c) 0 6 1,.v (iV 2),.v qF] (ag (CG.exit ?_))))
   show CG _ _ _ _ _ _ _ _
   refine cQ (cR 14 [] mixed a ao ?_);refine eV 0 88 (pB y) (eO 1 89 [(0,0,1)] (iV op) a (eV 2 90 (qP y 1) (eO 3 91 [(0,1,1)] (iV n) a (eV 4 92 (qS (sB x) ((([(sZ:Value),(sZ:Value)]:List Value)).length) ((([(sZ:Value),(sZ:Value)]:List Value)).length)) (eX 5 93 (sB x) ((([(sZ:Value),(sZ:Value)]:List Value)).length) ((([(sZ:Value),(sZ:Value)]:List Value)).length) 1 0 0 rfl (E2 (ty:=36) (sz:=1) (c:=(([(sZ:Value),(sZ:Value)]:List Value)).length) (m:=(([(sZ:Value),(sZ:Value)]:List Value)).length) (b:=x) (cs:=((([(sZ:Value),(sZ:Value)]:List Value).set 0 (qS p e.length c1:Value)).set 1 (qS z j.length c2:Value)).flatMap vc) 6 94 0 (qS p e.length c1) ([qS p e.length c1]) a (fw (f:=vc) (sz:=1) (fun _=>rfl) undef ((([(sZ:Value),(sZ:Value)]:List Value).set 0 (qS p e.length c1:Value)).set 1 (qS z j.length c2:Value)) 0 oM) (eV 7 95 (qS (sB x) ((([(sZ:Value),(sZ:Value)]:List Value)).length) ((([(sZ:Value),(sZ:Value)]:List Value)).length)) (eX 8 96 (sB x) ((([(sZ:Value),(sZ:Value)]:List Value)).length) ((([(sZ:Value),(sZ:Value)]:List Value)).length) 1 1 1 rfl (E2 (ty:=36) (sz:=1) (c:=(([(sZ:Value),(sZ:Value)]:List Value)).length) (m:=(([(sZ:Value),(sZ:Value)]:List Value)).length) (b:=x) (cs:=((([(sZ:Value),(sZ:Value)]:List Value).set 0 (qS p e.length c1:Value)).set 1 (qS z j.length c2:Value)).flatMap vc) 9 97 0 (qS z j.length c2) ([qS z j.length c2]) a (fw (f:=vc) (sz:=1) (fun _=>rfl) undef ((([(sZ:Value),(sZ:Value)]:List Value).set 0 (qS p e.length c1:Value)).set 1 (qS z j.length c2:Value)) 1 oM) (eV 10 98 qT (eC 11 99 a (fun _ _ a=>nN op n p c1 (bY ix fs ws d u).2 e z c2 (bY ix fs ws d l).2 j bd bb 3000 1000000 kD kD kD hop (fun _=>hn) (k7 hw1 oM) (fun _=>k7 Z oM) hu1 hv1 hv2 _ _ a.g a.f.r.2.1 a.f.r.1 a.f.2.1 a.f.1) ?_)))))))))));rintro _ _ _ _ _ a ⟨Ar,cr,tr,rfl,hcr,hAr,hTr⟩;replace a:=((a.aS hAr).aT hTr);refine eV 12 100 (qS Ar tr.length cr) (eV 13 101 (iV (bI op n ((bY ix fs ws d u).2.getD 0 0) ((bY ix fs ws d l).2.getD 0 0))) (bP a (fun _ _ a=>tV 14 12 (qS Ar tr.length cr) (tV 15 13 (iV (bI op n ((bY ix fs ws d u).2.getD 0 0) ((bY ix fs ws d l).2.getD 0 0))) (tN (bH [(12,qS Ar tr.length cr),(13,iV (bI op n ((bY ix fs ws d u).2.getD 0 0) ((bY ix fs ws d l).2.getD 0 0)))] ?_))))));exact kX (a.ret [] (.tuple #[qS Ar tr.length cr,iV (bI op n ((bY ix fs ws d u).2.getD 0 0) ((bY ix fs ws d l).2.getD 0 0))]) (by rw[tO oM oM,qE oM oM];exact ⟨_,_,tr,rfl,hcr,a.f.2.1,a.f.1⟩))
  have ze:=aN zb;exact lB 82 zb (ak (aa a di (ae a [] (.tuple #[sZ,iV ((bY ix fs ws d l).1)]) (by rw[tO oM oM,tB oM oM];exact ⟨none,0,[],rfl,nR _,SlO.nil,RTs.nil⟩))))
 have zd:=aN za;exact lB 82 za (ak (aa a di (ae a [] (.tuple #[sZ,iV ((bY ix fs ws d u).1)]) (by rw[tO oM oM,qj oM];exact ⟨none,0,[],rfl,nR _,SlO.nil,RTs.nil⟩))))
def SeB (W d:Nat)(x:Int × List Rat):Prop:=LQ (3*W-2) (x.2.getD 0 0)/\LQ (40*(W*d)) (x.2.getD 1 0)
theorem SeB.du {W d:Nat}{x:Int × List Rat}(h:SeB W d x)(a:1<=W)(b:1<=d):B9 W d (x.1,x.2.getD 0 0,[x.2.getD 1 0]):=⟨h.1,fun i=>by
 match i with
 | 0=>exact h.2
 | i+1=>show LQ _ (([]:List Rat).getD i 0);rw[dB];exact jd (by have:1<=W*d:=Nat.mul_pos a b;omega)⟩
theorem Fs {op n:Int}{wa wb d:Nat}{x y:Int × List Rat}(i:1<=wa)(f:1<=d)(p:SeB wa d x)(j:1<=wb->SeB wb d y)(l:fv op=2->1<=wb)(h1:fv op=1->wb=0/\y=(0,[]))(u:3<=op/\op<=13)(hn : -12<=n/\n<=12)(ha:fv op=1\/fv op=2):SeB (dI op n*(wa+wb)) (d+1) (px op n x y):=by
  have w1:=dl op n;have B:wa+wb<=dI op n*(wa+wb):=Nc _ w1;have hz:∀ e:Int,SeB (dI op n*(wa+wb)) (d+1) (e,([]:List Rat)):=fun e=>⟨by show LQ _ (([]:List Rat).getD 0 0);rw[dB];exact jd oM,by show LQ _ (([]:List Rat).getD 1 0);rw[dB];exact jd (by have:1<=dI op n*(wa+wb)*(d+1):=Nat.mul_pos oM (MW d);omega)⟩
  by_cases c1:x.1=0
  . by_cases c2:y.1=0
    . rw[qE c1 c2]
      by_cases c3:bI op n (x.2.getD 0 0) (y.2.getD 0 0)=0
      . have k:B9 (dI op n*(wa+wb)) (d+1) (qx 1 op n (x.1,x.2.getD 0 0,[x.2.getD 1 0]) (if fv op=1 then (0,0,[]) else (y.1,y.2.getD 0 0,[y.2.getD 1 0]))):=by
          refine xk i (p.du i f) (fun h=>?_) l (fun h=>⟨(h1 h).1,by rw[if_pos h],by rw[if_pos h]⟩) u hn ha;rw[if_neg (fun e=>by have:=(h1 e).1;omega)];exact (j h).du h f
        have e:iA op n x.2 y.2=dJ op n x.2 y.2:=if_pos c3
        show SeB _ _ (_,iA op n x.2 y.2)
        rw[e]
        rcases ha with h|h
        . rw[if_pos h] at k
          obtain ⟨_,a⟩:=h1 h;have b:y.2.getD 0 0=0:=by rw[a];rfl
          have o:y.2.getD 1 0=0:=by rw[a];rfl
          have z:bI op n (x.2.getD 0 0) 0=0:=by have c:=c3;rw[b] at c;exact c
          rw[kJ (x:=(x.1,x.2.getD 0 0,[x.2.getD 1 0])) (y:=((0:Int),(0:Rat),([]:List Rat))) c1 rfl z] at k
          refine ⟨?_,?_⟩
          . show LQ _ (kT op n 0 (x.2.getD 0 0) (y.2.getD 0 0));rw[b];exact k.1
          . show LQ _ (Bo op n (x.2.getD 0 0) (y.2.getD 0 0)*x.2.getD 1 0+BB op (x.2.getD 0 0) (y.2.getD 0 0)*y.2.getD 1 0)
            rw[b,o];exact k.2 0
        . rw[if_neg oM,kJ c1 c2 c3] at k
          exact ⟨k.1,k.2 0⟩
      . have e:iA op n x.2 y.2=[]:=if_neg c3
        rw[e];exact hz _
    . rw[tB c1 c2];exact hz _
  . rw[qj c1];exact hz _
section
variable {ok:ByteArray->Prop} {ix:ByteArray->Nat} {fs ws:List Rat}
theorem uN (b:∀ i,LQ 1 (fs.getD i 0))(c:∀ i,LQ 1 (ws.getD i 0)):∀ {d:Nat} {t:Tm},WfT1 ok d t->1<=bZ d t/\SeB (bZ d t) d (bY ix fs ws d t)
  | d + 1,.mk op n q s ks,⟨h1,h2,o,h4,h5,h6,j,f,h9⟩=>by
    have B:=aE op;replace h1:fv op=(ks.length:Nat):=h1;replace o:LQ 1 q:=o;replace j : -12<=n:=j;replace f:n<=12:=f
    have dp:∀ t:Tm,WfT1 ok d t->1<=d:=fun t x=>by
      cases d with
      | zero=>exact x.elim
      | succ d=>exact MW d
    rcases j9 h1 with rfl|⟨t,rfl⟩|⟨t,u,rfl⟩
    . have e:bZ (d+1) (.mk op n q s [])=1:=uM rfl
      rw[e];refine ⟨ep _,?_⟩
      simp only[Oe] at h1
      by_cases o1:op=1
      . have e2:bY ix fs ws (d+1) (.mk op n q s [])=(0,[q,((0:Int):Rat)]):=if_pos o1
        rw[e2];exact ⟨o,by show LQ _ ((0:Int):Rat);exact (LQ.lit (z:=0) kD).mono oM⟩
      . have y:op=2:=by omega
        have e2:bY ix fs ws (d+1) (.mk op n q s [])=(0,[fs.getD (ix s) 0,ws.getD (ix s) 0]):=(if_neg o1).trans (if_pos y);rw[e2];exact ⟨b _,(c _).mono oM⟩
    . obtain ⟨i1,a⟩:=uN b c (h9 0 (MW _))
      have l:=dp _ (h9 0 (MW _));replace i1:1<=bZ d t:=i1;replace a:SeB (bZ d t) d (bY ix fs ws d t):=a
      simp only[ub,Oe] at h1
      have e:bZ (d+1) (.mk op n q s [t])=dI op n*(bZ d t+0):=by rw[jO (show [t].length≠0 from Od _)];show _*(0+bZ d t)=_;rw[Ab,Nat.add_zero]
      have w1:=dl op n;rw[e,Be oM oM];exact ⟨e4 i1 (Nc _ w1),Fs i1 l a (fun h=>absurd h kD) oM (fun _=>⟨rfl,rfl⟩) oM ⟨j,f⟩ oM⟩
    . obtain ⟨i1,a⟩:=uN b c (h9 0 (MW _))
      obtain ⟨p,j2⟩:=uN b c (h9 1 (by show 1<2;decide));have l:=dp _ (h9 0 (MW _));replace i1:1<=bZ d t:=i1;replace a:SeB (bZ d t) d (bY ix fs ws d t):=a;replace p:1<=bZ d u:=p;replace j2:SeB (bZ d u) d (bY ix fs ws d u):=j2
      simp only[ub,Oe] at h1
      have e:bZ (d+1) (.mk op n q s [t,u])=dI op n*(bZ d t+bZ d u):=by rw[jO (show [t,u].length≠0 from Od _)];show _*(0+bZ d t+bZ d u)=_;rw[Ab]
      have w1:=dl op n;rw[e,tO oM oM];exact ⟨e4 oM (Nc _ w1),Fs i1 l a (fun _=>j2) (fun _=>p) oM oM ⟨j,f⟩ oM⟩
theorem GT:∀ {d:Nat} {t:Tm},WfT1 ok d t->∀ i,2<=i->(bY ix fs ws d t).2.getD i 0=0
  | d + 1,t,_,i,hi=>by
    by_cases o1:t.op=1
    . have e:bY ix fs ws (d+1) t=(0,[t.q,((0:Int):Rat)]):=if_pos o1
      rw[e];exact ct (show 2<=i from hi)
    . by_cases o2:t.op=2
      . have e:bY ix fs ws (d+1) t=(0,[fs.getD (ix t.s) 0,ws.getD (ix t.s) 0]):=(if_neg o1).trans (if_pos o2)
        rw[e];exact ct (show 2<=i from hi)
      . have e:bY ix fs ws (d+1) t=px t.op t.n _ _:=(if_neg o1).trans (if_neg o2)
        rw[e]
        generalize (if 0<t.ks.length then bY ix fs ws d (t.ks.getD 0 cV) else (0,[]))=x
        generalize (if 1<t.ks.length then bY ix fs ws d (t.ks.getD 1 cV) else (0,[]))=y
        by_cases c1:x.1=0
        . by_cases c2:y.1=0
          . rw[qE c1 c2]
            show (iA _ _ _ _).getD i 0=0
            unfold iA;split
            . exact ct (show 2<=i from hi)
            . exact dB i
          . rw[tB c1 c2];exact dB i
        . rw[qj c1];exact dB i
end
theorem G4 (ok:ByteArray->Prop)(ix:ByteArray->Nat)(fs ws:List Rat)(D:Option Addr)(e:Nat)(ns:List ByteArray)(F:Option Addr)(I:Nat)(u:List RT)(B:Option Addr)(H:Nat)(o:List RT)(l:fs.length=ns.length)(j:ws.length=ns.length)(f:ns.length<=1000)(hq:∀ i,LQ 1 (fs.getD i 0))(L:∀ i,LQ 1 (ws.getD i 0))(z:∀ s,ok s->(∃ i,i<ns.length/\ns.getD i ⟨#[]⟩=s)/\∀ k,k<ns.length->ns.getD k ⟨#[]⟩=s->(∀ i,i<k->ns.getD i ⟨#[]⟩≠s)->ix s=k):∀ (d:Nat) (r:RTm) (t:Tm) (w:World) (h:Hp),d<=24->G w h->RmH d h r t->WfT1 ok d t->bZ d t<=1000->SlO 1 bB ⟨#[]⟩ h D ns->Sr F u h->RTs h u fs->Sr B o h->RTs h o ws->Calls Tryz.prog 28 #[bJ r,.slice D ns.length e,.slice F u.length I,.slice B o.length H,iV 1,.bool true] w (Ret w h (fun v h1=>∃ (A_:Option Addr) (c_:Nat) (ts_:List RT),v=.tuple #[.slice A_ ts_.length c_,iV (bY ix fs ws d t).1]/\ts_.length<=c_/\Sr A_ ts_ h1/\RTs h1 ts_ (bY ix fs ws d t).2))
  | 0,_,_,_,_,_,_,x,_,_,_,_,_,_,_=>x.elim
  | d + 1,p,t,w,h,hd,g,x,wf,hw,k1,k2,k3,k4,k5=>by
    obtain ⟨op,n,b,U,S,O,W,V,X,q,s,A,c,ps,ks,rfl,rfl,hZ,hc,hK,a⟩:=x.open;obtain ⟨w1,w2,w3,w4,w5,w6,M,Q,K⟩:=wf;replace w1:fv op=(ks.length:Nat):=w1;replace M : -12<=n:=M;replace Q:n<=12:=Q;replace K:∀ i,i<ks.length->WfT1 ok d (ks.getD i cV):=K;have hac:=aE op;have ih:=fun p t w h=>G4 ok ix fs ws D e ns F I u B H o l j f hq L z d p t w h oM
    have J:∀ t,WfT1 ok d t->bZ d t<=1000->(∀ i,LQ 1000000 ((bY ix fs ws d t).2.getD i 0))/\LQ 3000 ((bY ix fs ws d t).2.getD 0 0):=fun t q1 q2=>by
      obtain ⟨_,q3,q4⟩:=uN (ix:=ix) hq L q1;have q5:=Nat.mul_le_mul q2 (show d<=24 by omega);refine ⟨fun i=>?_,q3.mono oM⟩
      match i with
      | 0=>exact q3.mono oM
      | 1=>exact q4.mono oM
      | i+2=>rw[GT q1 (i+2) oM];exact jd kD
    rcases j9 w1 with rfl|⟨t1,rfl⟩|⟨t1,t2,rfl⟩
    . simp only[Oe] at w1
      by_cases o1:op=1
      . subst o1
        have e0:ps=[]:=List.eq_nil_of_length_eq_zero a.len;subst e0;exact Ia ok ix fs ws D e ns F I u B H o l j f d n b U S O W V X q s A c w h g hZ k1 k2 k3 k4 k5
      . obtain rfl:op=2:=by omega
        exact IS ok ix fs ws D e ns F I u B H o l j f d n b U S O W V X q s A c ps [] (z s (w4 rfl)).2 (z s (w4 rfl)).1 w h g hZ k1 k2 k3 k4 k5
    . obtain ⟨Y,rfl⟩:=List.length_eq_one_iff.1 (show ps.length=1 from a.len)
      simp only[ub,Oe] at w1
      have y:WfT1 ok d t1:=K 0 (MW _);have C:bZ d t1<=1000:=pT hw;exact IT ok ix fs ws D e ns F I u B H o l j f d ih op n b U S O W V X q s A c Y t1 y C (J t1 y C).1 (J t1 y C).2 oM oM ⟨M,Q⟩ w h g hK (a.at_ 0 (MW _)) k1 k2 k3 k4 k5
    . obtain ⟨Y,p2,rfl⟩:=oZ (show ps.length=2 from a.len)
      simp only[ub,Oe] at w1
      have y:WfT1 ok d t1:=K 0 (MW _);have Z:WfT1 ok d t2:=K 1 (by show 1<2;decide);obtain ⟨C,g2⟩:=q7 hw;exact Jv ok ix fs ws D e ns F I u B H o l j f d ih op n b U S O W V X q s A c Y t1 y C (J t1 y C).1 (J t1 y C).2 p2 t2 Z g2 (J t2 Z g2).1 (J t2 Z g2).2 oM oM ⟨M,Q⟩ w h g hK (a.at_ 0 (MW _)) (a.at_ 1 (by show 1<2;decide)) k1 k2 k3 k4 k5
def B8 (n:Nat):List Value:=[.int .i64 (n:Nat)]
theorem Jc:∀ s,gm s->∀ (w:World) (h:Hp),G w h->Calls Tryz.prog 56 #[.string s] w (Ret w h (fun v _=>∃ b,v=.bool b/\b=dC s)):=fun s a w h g =>
 (J8 s (by unfold gm at a;omega) w h g).mono fun e w' ⟨v,h',e1,u,e2⟩=>⟨v,h',e1,u,_,e2,rfl⟩
theorem tF {α:Type}{l:List α}{i j:Nat}{x d:α}:(l.set i x).getD j d=if i=j/\i<l.length then x else l.getD j d:=by
 rw[LH,LH,List.getElem?_set]
 by_cases e:i=j
 ·subst e
  by_cases h:i<l.length
  ·rw[if_pos rfl,if_pos h,if_pos ⟨rfl,h⟩];rfl
  ·rw[if_pos rfl,if_neg h,if_neg (fun x=>h x.2),tv oM]
 ·rw[if_neg e,if_neg (fun x=>e x.1)]
def bA (n:Nat)(ks:List Nat):Nat->List Rat
  | 0=>As n ((0:Int):Rat)
  | j+1=>(bA n ks j).set (ks.getD j 0) ((bA n ks j).getD (ks.getD j 0) 0+((1:Int):Rat))
theorem kp (n:Nat)(ks:List Nat):∀ j,(bA n ks j).length=n
 | 0=>by unfold bA;simp
 | j+1=>by unfold bA;rw[LB];exact kp n ks j
theorem kA (n:Nat)(ks:List Nat):∀ j i,∃ z:Int,(bA n ks j).getD i 0=(z:Rat)/\0<=z/\z<=j
  | 0,i=>⟨0,by unfold bA;rw[show ((0:Int):Rat)=0 from rfl,fA],by omega,by omega⟩
  | j + 1,i=>by
    unfold bA
    rw[tF]
    split
    . obtain ⟨z,e,h0,h1⟩:=kA n ks j (ks.getD j 0)
      exact ⟨z+1,by rw[e];exact (Rat.intCast_add z 1).symm,by omega,by omega⟩
    . obtain ⟨z,e,h0,h1⟩:=kA n ks j i
      exact ⟨z,e,h0,by omega⟩
theorem iO (n:Nat)(ks:List Nat){j:Nat}(a:j<=1000)(i:Nat):LQ 1 ((bA n ks j).getD i 0):=by
 obtain ⟨z,e,h0,h1⟩:=kA n ks j i;rw[e];exact LQ.int oM oM
theorem DE (n k:Nat)(hk:k<n):bA n [k] 1=fr n k:=by
 show (As n ((0:Int):Rat)).set k ((As n ((0:Int):Rat)).getD k 0+((1:Int):Rat))=(As n (0:Rat)).set k ((1:Int):Rat)
 rw[show ((0:Int):Rat)=0 from rfl,fA,Rat.zero_add]
def RQk (h:Hp)(ts:List RT)(k:Nat)(q:Rat):Prop:=∀ i,i<k->RQ h (tU (ts.getD i fz)) q
theorem RQk.gw {h h':Hp}{a:List RT}{k:Nat}{q:Rat}(x:RQk h a k q)(u:Gw h h'):RQk h' a k q:=fun i hi=>(x i hi).gw u
theorem RQk.nil {h:Hp}{a:List RT}{q:Rat}:RQk h a 0 q:=fun i hi=>absurd hi (N8 i)
theorem Ho {h:Hp}{a:List RT}{n k:Nat}{t:RT}{q:Rat}(b:a.length=n)(hk:k<n)(c:RQk h a k q)(hq:RQ h (tU t) q):RQk h (a.set k t) (k+1) q:=fun i hi=>by
 rw[tF,b]
 by_cases e:k=i
 ·rw[if_pos ⟨e,hk⟩];exact hq
 ·rw[if_neg (fun x=>e x.1)];exact c i oM
theorem Dd {h:Hp}{a:List RT}{n:Nat}(x:RQk h a n 0)(b:a.length=n):RTs h a (As n ((0:Int):Rat)):=⟨by rw[N6];exact b,fun i hi=>by
 rw[N6] at hi
 have e:(As n ((0:Int):Rat)).getD i 0=0:=fA n i;rw[e];exact x i hi⟩
theorem EN {h:Hp}{a:List RT}{b:List Rat}(r:RTs h a b)(i:Nat){t:RT}{q:Rat}(hq:RQ h (tU t) q):RTs h (a.set i t) (b.set i q):=⟨by rw[LB,LB];exact r.len,fun j c=>by
 rw[LB] at c
 rw[tF,tF,r.len]
 split
 ·exact hq
 ·exact r.at_ j c⟩
theorem E1 (n:Nat)(hn:n<=1000)(L:Option Addr)(cL:Nat)(ks:List Nat)(hkl:ks.length<=10)(hks:∀ j,j<ks.length->ks.getD j 0<n)(w:World)(h:Hp)(g:G w h)(hL:SlO 1 B8 0 h L ks):CR 29 #[nV n,.slice L ks.length cL] w h (fun v h1=>∃ A c,∃ e:List RT,v=.slice A e.length c/\e.length<=c/\Sr A e h1/\RTs h1 e (bA n ks ks.length)):=by
 have a:=((sS g).aS hL);refine go Tryz.func29 [(0,nV n),(1,qS L ks.length cL)] rfl (aa a ac (aG (lL a ac (lK 9 28 n 3 56 (.agg #[qF,sZ,sZ]) eJ ((false,sZ,sZ):RT) a (fun p w2 h3 a=>?_)))));have hl4:(As n ((false,sZ,sZ):RT)).length=n:=by simp
 refine lL a ac (ah (aa a ac (aY ?_)));replace a:=a.add (K:=fun i=>RQk i (As n ((false,sZ,sZ):RT)) 0 0) (RQk.nil);refine bH _ (CG.loop (fun B Γ Z=>∃ (k:Nat) (e:List RT) (i:Hp),B=n-k/\Γ=[(0,nV n),(1,qS L ks.length cL),(4,sZ),(5,qS (sB p) n n),(6,nV k)]/\SS w h Z i [⟨p,28,(e).flatMap eJ⟩] [] [fun i=>RQk i e k 0,fun i=>SlO 1 B8 0 i L ks]/\k<=n/\e.length=n) _ ⟨0,As n ((false,sZ,sZ):RT),h3,rfl,rfl,a.to _ _,MG _,(by simp)⟩ ?_);rintro _ _ w5 ⟨k,e,h6,hm7,rfl,a,hk,u⟩;refine cQ (aa a aD ?_);cases x:(decide ((k:Int)<(n:Int)))
 .
  have I:=oF x;refine lB 12 x (ag (CG.exit ?_))
  show CG _ _ _ _ _ _ _ _
  refine cQ (aa a ac (aY ?_));have X:k=n:=by omega
  replace a:=a.aT ((Dd (X▸(a.f.1)) u));refine bH _ (CG.loop (fun B Γ Z=>∃ (j:Nat) (us:List RT) (i:Hp),B=ks.length-j/\Γ=[(1,qS L ks.length cL),(4,sZ),(5,qS (sB p) n n),(7,nV j)]/\SS w h Z i [⟨p,28,(us).flatMap eJ⟩] [] [Rt us (bA n ks j),fun i=>RQk i e k 0,fun i=>SlO 1 B8 0 i L ks]/\j<=ks.length/\us.length=n) _ ⟨0,e,h6,rfl,rfl,a.to _ _,MG _,u⟩ ?_);rintro _ _ w9 ⟨j,us,_,bb,rfl,a,hj,y⟩;have bk:=(a.f.1).len;refine cQ (aa a [.c,.c,.v (nV ks.length)] ?_);cases za:(decide ((j:Int)<(ks.length:Int)))
  .
   have zk:=oF za;refine lB 22 za (ag (CG.exit ?_))
   show CG _ _ _ _ _ _ _ _
   refine aa a aD (lN (kX ?_));have U:j=ks.length:=by omega
   obtain ⟨_,a,F,bf,bl⟩:=a.pub 0;replace a:=(a.to [] []).aS (SlO.of_flat (sz:=3) (f:=eJ) (d:=fz) (b:=p) (o:=0) (l:=us) (fun _=>rfl) F);exact a.ret [] (qS (sB p) n n) (⟨_,n,us,by rw[y],M0 y,a.f.1,(by rw[<-U];exact a.f.2.1)⟩)
  have zk:=oT za;refine lB 22 za (ak (cK (cQ (kZ (cR 14 [] mixed a ao ?_)))));have bd:=hks j oM;refine eV 0 25 (qS (sB p) n n) (eV 1 26 (qS L ks.length cL) (eV 2 27 (nV j) (eX 3 28 L ks.length cL 1 (j:Nat) j ((a.f.r.1).ok oM) (eH 4 29 (nV (ks.getD j 0)) a ((a.f.r.1).el j oM) (eV 5 30 (qS (sB p) n n) (eV 6 31 (qS L ks.length cL) (eV 7 32 (nV j) (eX 8 33 L ks.length cL 1 (j:Nat) j ((a.f.r.1).ok oM) (eH 9 34 (nV (ks.getD j 0)) a ((a.f.r.1).el j oM) (eX 10 35 (sB p) n n 3 (ks.getD j 0:Nat) (ks.getD j 0) rfl ?_))))))))));obtain ⟨Au,cu,Du,du,eu,Y,S,hAu,V⟩:=(a.f.1).at_ (ks.getD j 0) oM;replace a:=a.aP hAu V;refine eQ 11 36 0 us eJ 3 fz (ks.getD j 0) (tU (us.getD (ks.getD j 0) fz)) a oM ?_;rw[eu];refine eC 12 37 a (fun _ _ a=>pp 1 oM oM _ _ a.g) ?_;rintro _ _ _ _ _ a ⟨zB,zD,zE,zG,rfl,zl,zm,zn,zo⟩;replace a:=a.aP zn zo;have bm:=LQ.add (iO n ks (show j<=1000 by omega) (ks.getD j 0)) (LQ.lit (z:=1) kD);refine eC 13 38 a (fun _ _ a=>D7 ((bA n ks j).getD (ks.getD j 0) 0) Au cu Du du Y S (nl (iO n ks (show j<=1000 by omega) (ks.getD j 0))) (nD (iO n ks (show j<=1000 by omega) (ks.getD j 0))) ((1:Int):Rat) zB zD zE zG zl zm (nl (LQ.lit (z:=1) kD)) (nD (LQ.lit (z:=1) kD)) _ _ a.g a.f.r.2.1 a.f.r.1 a.f.2.1 a.f.1) ?_;rintro _ _ _ _ _ a ⟨J,Q,O,M,rfl,zp,zq,zr,zs⟩;replace a:=a.aP zr zs;refine bP a (fun _ zH a=>tX 14 39 (sB p) n n 3 (ks.getD j 0:Nat) (ks.getD j 0) rfl (tW 15 0 us eJ 3 (ks.getD j 0) ((af (((bA n ks j).getD (ks.getD j 0) 0)+((1:Int):Rat)).num,qS J ((lim (ab (((bA n ks j).getD (ks.getD j 0) 0)+((1:Int):Rat)).num)).length) Q,qS O ((lim (((bA n ks j).getD (ks.getD j 0) 0)+((1:Int):Rat)).den).length) M):RT) a oM (fun _ a=>?_)));have zt:((us).set (ks.getD j 0) ((af (((bA n ks j).getD (ks.getD j 0) 0)+((1:Int):Rat)).num,qS J ((lim (ab (((bA n ks j).getD (ks.getD j 0) 0)+((1:Int):Rat)).num)).length) Q,qS O ((lim (((bA n ks j).getD (ks.getD j 0) 0)+((1:Int):Rat)).den).length) M):RT)).length=n:=by rw[LB];exact y
  replace a:=a.to [⟨p,28,((us).set (ks.getD j 0) ((af (((bA n ks j).getD (ks.getD j 0) 0)+((1:Int):Rat)).num,qS J ((lim (ab (((bA n ks j).getD (ks.getD j 0) 0)+((1:Int):Rat)).num)).length) Q,qS O ((lim (((bA n ks j).getD (ks.getD j 0) 0)+((1:Int):Rat)).den).length) M):RT)).flatMap eJ⟩] [];refine tN (kQ (lL a ac (bh 24 ((j:Nat)+1) (j+1) ?_)));refine lL a ac (lD ?_);intro a_ W;replace a:=(a.tl.tl.tl.tl.tl.tl.tl.aT (EN a.f.q.r.1 (ks.getD j 0) (lp zp zq a.f.2.1 a.f.1)));refine ⟨_,_,?_,⟨j+1,(us).set (ks.getD j 0) ((af (((bA n ks j).getD (ks.getD j 0) 0)+((1:Int):Rat)).num,qS J ((lim (ab (((bA n ks j).getD (ks.getD j 0) 0)+((1:Int):Rat)).num)).length) Q,qS O ((lim (((bA n ks j).getD (ks.getD j 0) 0)+((1:Int):Rat)).den).length) M):RT),zH,rfl,rfl,a.to _ _,oM,zt⟩,W.to _ kR⟩
  omega
 have I:=oT x;refine lB 12 x (ak (cK (cQ (kZ (kQ (lL a aD (lC 17 a (pp 0 oM oM _ _ a.g) ?_)))))));rintro _ _ zI a ⟨zb,D,H,C,rfl,zu,zv,zw,zx⟩;replace a:=a.aP zw zx;refine lX 18 (sB p) n n 3 (k:Nat) k rfl (lW 0 e eJ 3 k ((af ((0:Int):Rat).num,qS zb ((lim (ab ((0:Int):Rat).num)).length) D,qS H ((lim ((0:Int):Rat).den).length) C):RT) a oM (fun _ a=>?_));have zA:((e).set k ((af ((0:Int):Rat).num,qS zb ((lim (ab ((0:Int):Rat).num)).length) D,qS H ((lim ((0:Int):Rat).den).length) C):RT)).length=n:=by rw[LB];exact u
 replace a:=a.to [⟨p,28,((e).set k ((af ((0:Int):Rat).num,qS zb ((lim (ab ((0:Int):Rat).num)).length) D,qS H ((lim ((0:Int):Rat).den).length) C):RT)).flatMap eJ⟩] [];refine lN (kQ (lL a ac (bh 14 ((k:Nat)+1) (k+1) ?_)));refine lL a ac (lD ?_);intro a_ W;replace a:=(a.tl.tl.tl.add (K:=fun i=>RQk i ((e).set k ((af ((0:Int):Rat).num,qS zb ((lim (ab ((0:Int):Rat).num)).length) D,qS H ((lim ((0:Int):Rat).den).length) C):RT)) (k+1) 0) (Ho u oM a.f.r.1 (RQ.eq (lp zu zv a.f.2.1 a.f.1) rfl)));refine ⟨_,_,?_,⟨k+1,(e).set k ((af ((0:Int):Rat).num,qS zb ((lim (ab ((0:Int):Rat).num)).length) D,qS H ((lim ((0:Int):Rat).den).length) C):RT),zI,rfl,rfl,a.to _ _,oM,zA⟩,W.to _ kR⟩
 omega
theorem Hk {ok:ByteArray->Prop}{d:Nat}{t:Tm}(h:WfT1 ok d t)(a:d<=12):eF d t<=1000000:=by
 have:=sO h;have:=Nat.pow_le_pow_right (show 0<2 by decide) a;have e:(2:Nat)^12=4096:=by decide
 omega
theorem Ce {l:List ByteArray}{i:Nat}(h:l.Nodup)(hi:i<l.length):¬l.getD i ⟨#[]⟩∈l.take i:=fun a=>by
 obtain ⟨j,b,e⟩:=vi.1 a;rw[LF] at b
 rw[List.getElem_take,LH,On hi] at e
 exact (List.pairwise_iff_getElem.1 h j i oM hi oM) e
theorem DG {l:List ByteArray}(h:∀ i,i<l.length->l.getD i ⟨#[]⟩ ∉ l.take i):l.Nodup:=by
  have key:∀ k,k<=l.length->(l.take k).Nodup:=fun k=>by
    induction k with
    | zero=>intro _;simp
    | succ k ih =>
      intro hk;have e:=h k oM;rw[LH,On oM] at e
      rw[List.take_add_one,On oM];refine List.nodup_append.2 ⟨ih oM,by simp,fun a ha b c e2=>?_⟩;rw[Option.toList_some,te] at c
      subst c;subst e2;exact e ha
  have:=key l.length (ep _)
  rwa [y8] at this
theorem AX (d:Nat)(p:RTm)(t:Tm)(hd:d<=12)(y:Option Addr)(l:Nat)(ns:List ByteArray)(M:NsD ns)(hcN:ns.length<=l)(B:Option Addr)(O:Nat)(D:Nat)(hm0:D<=1000)(x:rJ dC d t)(w:World)(h:Hp)(g:G w h)(hT:RmH d h p t)(hN:SlO 1 bB ⟨#[]⟩ h y ns)(hU:SlO 1 B8 0 h B ([D]:List Nat)):CR 27 #[bJ p,.slice y ns.length l,.slice B 1 O] w h (fun v _=>∃ e:Int,v=iV e/\DckR d t ns (D=ns.length) e):=by
 have a:=((((sS g).add (K:=fun b=>RmH d b p t) hT).aS hN).aS hU);have bx:=M.len;have W:(([D]:List Nat):List Nat).length=1:=rfl;have bb:eF d t<=1000000:=Hk x.1 hd;refine go Tryz.func27 [(0,bJ p),(1,qS y ns.length l),(2,qS B 1 O)] rfl (ax (lA 3 31 (bD p) a (fun V w2 h3 a=>lL a ac (ah (aa a ac (aY (cU ?_)))))));refine cN (cQ (aa a [.c,.c,.v (iV 1),.v qT] (ak (cK (cQ (kZ (aa a aD (lX 20 B 1 O 1 0 0 ((a.f.1).ok oM) ?_))))))));refine lH 21 (nV D) a ((a.f.1).el 0 (by rw[W];decide)) (lL a [.c,.v (nV ns.length)] ?_);cases H:((D:Int) != (ns.length:Int))
 .
  have Y:=aW H;refine lB 24 H (ag (cK (kQ (lL a [.c,.v (iV 1),.c] (lD (CL.to [(1,qS y ns.length l),(2,qS B 1 O),(3,pB V),(6,iV 0),(7,iV 1),(12,iV 0),(13,qS B 1 O),(14,iV 1),(15,qT),(18,qS B 1 O),(19,iV 0),(20,.pointer (some ⟨(aB B),aO B+0*1,none⟩)),(21,nV D),(22,qS y ns.length l),(23,nV ns.length),(24,qF),(16,iV 0),(17,iV 1)] ?_))))));replace a:=a.to [⟨V,31,bD p⟩] [];refine cN (cQ (aa a [.c,.c,.v (iV 1),.v qF] (ag (CG.exit ?_))))
  show CG _ _ _ _ _ _ _ _
  refine cQ (aa a [.c,.v (nV ns.length)] ?_);cases F:(decide ((20:Int)<(ns.length:Int)))
  .
   have bf:=oF F;refine lB 27 F (ag (cK (aa a [.o (bJ p) 0 0 7] (lC 29 a (vu (fun s=>dC s=true) d p t x.1.wf bb _ _ a.g a.f.r.1) ?_))));rintro _ w6 h7 a ⟨Q,nc,u,rfl,hnc,hnl,hnS,I⟩;replace a:=a.aS hnS;refine lL a ac (ah (aa a ac (aY ?_)));refine bH _ (CG.loop (fun C Γ w_=>∃ (k:Nat) (b:Hp),C=ns.length-k/\Γ=[(1,qS y ns.length l),(8,qS Q u.length nc),(9,nV k)]/\SS w h w_ b [⟨V,31,bD p⟩] [] [fun b=>SlO 1 bB ⟨#[]⟩ b Q u,fun b=>SlO 1 B8 0 b B ([D]:List Nat),fun b=>SlO 1 bB ⟨#[]⟩ b y ns,fun b=>RmH d b p t]/\k<=ns.length/\(∀ i,i<k->dC (ns.getD i ⟨#[]⟩)=true)) _ ⟨0,h7,rfl,rfl,a.to _ _,MG _,(fun i hi=>absurd hi (N8 i))⟩ ?_);rintro _ _ w8 ⟨k,h9,br,rfl,a,hk,Z⟩;refine cQ (aa a [.c,.c,.v (nV ns.length)] ?_);cases za:(decide ((k:Int)<(ns.length:Int)))
   .
    have zd:=oF za;refine lB 33 za (ag (CG.exit ?_))
    show CG _ _ _ _ _ _ _ _
    refine cQ ?_;have z:∀ i,i<ns.length->dC (ns.getD i ⟨#[]⟩)=true:=fun i hi=>Z i oM
    refine aa a ac (aY ?_);refine bH _ (CG.loop (fun C Γ w_=>∃ (j:Nat) (b:Hp),C=u.length-j/\Γ=[(1,qS y ns.length l),(8,qS Q u.length nc),(10,nV j)]/\SS w h w_ b [⟨V,31,bD p⟩] [] [fun b=>SlO 1 bB ⟨#[]⟩ b Q u,fun b=>SlO 1 B8 0 b B ([D]:List Nat),fun b=>SlO 1 bB ⟨#[]⟩ b y ns,fun b=>RmH d b p t]/\j<=u.length/\(∀ i,i<j->u.getD i ⟨#[]⟩∈ns)) _ ⟨0,h9,rfl,rfl,a.to _ _,MG _,(fun i hi=>absurd hi (N8 i))⟩ ?_);rintro _ _ _ ⟨j,zg,bl,rfl,a,hj,J⟩;refine cQ (aa a [.c,.c,.v (nV u.length)] ?_);cases zb:(decide ((j:Int)<(u.length:Int)))
    .
     have ze:=oF zb;refine lB 45 zb (ag (CG.exit ?_))
     show CG _ _ _ _ _ _ _ _
     refine cQ ?_;have L:∀ s,gd d t s->s∈ns:=fun s_ b=>by obtain ⟨i_,hi_,e_⟩:=tQ ((I s_).2 b);rw[<-e_];exact J i_ oM
     refine aa a ac (aY ?_);refine bH _ (CG.loop (fun C Γ w_=>∃ (i:Nat) (b:Hp),C=ns.length-i/\Γ=[(1,qS y ns.length l),(11,nV i)]/\SS w h w_ b [⟨V,31,bD p⟩] [] [fun b=>SlO 1 bB ⟨#[]⟩ b Q u,fun b=>SlO 1 B8 0 b B ([D]:List Nat),fun b=>SlO 1 bB ⟨#[]⟩ b y ns,fun b=>RmH d b p t]/\i<=ns.length/\(∀ m,m<i->ns.getD m ⟨#[]⟩ ∉ ns.take m)) _ ⟨0,zg,rfl,rfl,a.to _ _,MG _,(fun i hi=>absurd hi (N8 i))⟩ ?_);rintro _ _ _ ⟨i,_,bt,rfl,a,hi,S⟩;refine cQ (aa a [.c,.c,.v (nV ns.length)] ?_);cases zc:(decide ((i:Int)<(ns.length:Int)))
     .
      have zf:=oF zc;refine lB 58 zc (ag (CG.exit ?_))
      show CG _ _ _ _ _ _ _ _
      exact aa a ac (ae a [] (iV 0) (⟨_,rfl,.inr ⟨x,.inr ⟨by omega,.inr ⟨z,.inr ⟨L,.inr ⟨DG (fun m hm=>S m oM),rfl⟩⟩⟩⟩⟩⟩))
     have zf:=oT zc;refine lB 58 zc (ak (cK (cQ (kZ (cQ (cR 8 [] mixed a ao ?_))))));refine eV 0 61 (qS y ns.length l) (eV 1 62 (nV i) ?_);have bk:(ns.take i).length=i:=by rw[LF];omega
     refine eT 2 63 y ns.length l 1 (i:Nat) i ?_;replace a:=a.aS ((a.f.r.1).take i);refine eV 3 64 (qS y ns.length l) (eV 4 65 (nV i) (eX 5 66 y ns.length l 1 (i:Nat) i ((a.f.r.2.1).ok oM) (eH 6 67 (.string (ns.getD i ⟨#[]⟩)) a ((a.f.r.2.1).el i oM) (eC 7 68 a (fun _ _ a=>(by have q_:=uL y l (ns.take i) (ns.getD i ⟨#[]⟩) oM _ _ a.g (a.f.1);rw[bk] at q_;exact q_)) ?_))));rintro _ _ _ _ _ a ⟨bd,rfl,hbd⟩;cases bn:(bd)
     .
      refine bP a (fun _ zi a=>tN (dr (cK (kQ (lL a ac (bh 60 ((i:Nat)+1) (i+1) ?_))))));refine lL a ac (lD ?_);intro a_ U;replace a:=a.tl;refine ⟨_,_,?_,⟨i+1,zi,rfl,rfl,a.to _ _,oM,(fun m hm=>by rcases Ou.1 hm with b|rfl;exact S m b;exact fun b=>Ob ((hbd.2 b).symm.trans aM))⟩,U.to _ kR⟩
      omega
     exact bP a (fun _ _ a=>tN (co (aa a ac (ae a [] (iV 8) (⟨_,rfl,.inr ⟨x,.inr ⟨by omega,.inr ⟨z,.inr ⟨L,.inl ⟨fun b=>Ce b oM (hbd.1 aM),rfl⟩⟩⟩⟩⟩⟩)))))
    have ze:=oT zb;refine lB 45 zb (ak (cK (cQ (kZ (aa a di (lX 51 Q u.length nc 1 (j:Nat) j ((a.f.1).ok oM) ?_))))));refine lH 52 (.string (u.getD j ⟨#[]⟩)) a ((a.f.1).el j oM) (lC 53 a (uL y l ns (u.getD j ⟨#[]⟩) oM _ _ a.g a.f.r.1) ?_);rintro _ _ zj a ⟨ba,rfl,hba⟩;cases bq:(ba)
    .
     exact lL a [.v qT] (ak (aa a ac (ae a [] (iV 11) (⟨_,rfl,.inr ⟨x,.inr ⟨by omega,.inr ⟨z,.inl ⟨fun b=>Ob ((hba.2 (b _ ((I _).1 (Bz oM)))).symm.trans (by first|assumption|exact HF aM)),rfl⟩⟩⟩⟩⟩))))
    refine lL a [.v qF] (ag (cK (kQ (lL a ac (bh 47 ((j:Nat)+1) (j+1) ?_)))));refine lL a ac (lD ?_);intro a_ U;refine ⟨_,_,?_,⟨j+1,zj,rfl,rfl,a.to _ _,oM,(fun i hi=>by rcases Ou.1 hi with b|rfl;exact J i b;exact hba.1 (by first|assumption|exact DO aM))⟩,U.to _ kR⟩
    omega
   have zd:=oT za;refine lB 33 za (ak (cK (cQ (kZ (aa a aD (lX 38 y ns.length l 1 (k:Nat) k ((a.f.r.1).ok oM) ?_))))));refine lH 39 (.string (ns.getD k ⟨#[]⟩)) a ((a.f.r.1).el k oM) (lC 40 a (Jc (ns.getD k ⟨#[]⟩) (M.small k oM) _ _ a.g) ?_);rintro _ _ zk a ⟨bi,rfl,hbi⟩;cases bm:(bi)
   .
    exact lL a [.v qT] (ak (aa a ac (ae a [] (iV 11) (⟨_,rfl,.inr ⟨x,.inr ⟨by omega,.inl ⟨(fun b=>by have q_:=b k oM;rw[<-hbi] at q_;have X:bi=false:=(by first|assumption|exact HF aM);rw[q_] at X;cases X),rfl⟩⟩⟩⟩))))
   refine lL a [.v qF] (ag (cK (kQ (lL a ac (bh 35 ((k:Nat)+1) (k+1) ?_)))));refine lL a ac (lD ?_);intro a_ U;refine ⟨_,_,?_,⟨k+1,zk,rfl,rfl,a.to _ _,oM,(fun i hi=>by rcases Ou.1 hi with b|rfl;exact Z i b;rw[<-hbi];first|assumption|exact DO aM)⟩,U.to _ kR⟩
   omega
  have bf:=oT F;refine lB 27 F (ak (aa a ac (lN (kX ?_))))
  exfalso;have:=M.len;omega
 have Y:=aN H;exact lB 24 H (ak (aa a ac (ae a [] (iV 5) (⟨_,rfl,.inr ⟨x,.inl ⟨fun b=>by omega,rfl⟩⟩⟩))))
theorem wh {ix:ByteArray->Nat}{fs:List Rat}:∀ {d:Nat} {t:Tm},(bF ix fs d t).1≠0->bF ix fs d t=((bF ix fs d t).1,0,[])
  | 0,_,h=>absurd rfl h
  | d + 1,t,h=>by
    by_cases o1:t.op=1
    . have e:bF ix fs (d+1) t=(0,t.q,As fs.length 0):=if_pos o1
      rw[e] at h;exact absurd rfl h
    . by_cases o2:t.op=2
      . have e:bF ix fs (d+1) t=(0,fs.getD (ix t.s) 0,fr fs.length (ix t.s)):=(if_neg o1).trans (if_pos o2)
        rw[e] at h;exact absurd rfl h
      . have e:bF ix fs (d+1) t=qx fs.length t.op t.n _ _:=(if_neg o1).trans (if_neg o2)
        rw[e] at h ⊢
        generalize (if 0<t.ks.length then bF ix fs d (t.ks.getD 0 cV) else (0,0,[]))=x at *
        generalize (if 1<t.ks.length then bF ix fs d (t.ks.getD 1 cV) else (0,0,[]))=y at *
        by_cases c1:x.1=0
        . by_cases c2:y.1=0
          . by_cases c3:bI t.op t.n x.2.1 y.2.1=0
            . rw[kJ c1 c2 c3] at h;exact absurd rfl h
            . rw[nJ c1 c2 c3]
          . rw[pR c1 c2]
        . rw[n4 c1]
def qg (G_:List Rat)(k:Nat):List Rat:=(pa k).map fun i=>G_.getD i 0
theorem pE (a:List Rat)(k:Nat):(qg a k).length=k:=by simp[qg]
theorem Hq {h:Hp}{b:List RT}{a:List Rat}{k:Nat}(x:RTs h b (qg a k)){t:RT}(hq:RQ h (tU t) (a.getD k 0)):RTs h (b++[t]) (qg a (k+1)):=by
 unfold qg
 rw[List.range_succ,List.map_append];exact x.snoc hq
theorem By {a:List Rat}{k:Nat}(h:a.length=k):qg a k=a:=by
 refine iI (by rw[pE,h]) fun i=>?_
 unfold qg
 by_cases hi:i<k
 ·simp[hi]
 ·rw[ct (by simp;omega),ct oM]
theorem wn (ns:List ByteArray)(s:ByteArray)(b:s∈ns):(∃ i,i<ns.length/\ns.getD i ⟨#[]⟩=s)/\∀ k,k<ns.length->ns.getD k ⟨#[]⟩=s->(∀ i,i<k->ns.getD i ⟨#[]⟩≠s)->bO ns s=k :=
 ⟨⟨_,lj b⟩,fun k hk e a=>pj a hk e⟩
theorem wH {ns:List ByteArray}{fs:List Rat}{d:Nat}{t:Tm}(a:fs.length=ns.length)(wf:WfT1 (fun s=>s∈ns) d t)(ws:List Rat):(bY (bO ns) fs ws d t).1=(bF (bO ns) fs d t).1/\((bF (bO ns) fs d t).1=0->(bY (bO ns) fs ws d t).2.length=2/\(bY (bO ns) fs ws d t).2.getD 0 0=(bF (bO ns) fs d t).2.1/\(bY (bO ns) fs ws d t).2.getD 1 0=fc (bF (bO ns) fs d t).2.2 ws fs.length):=by
 obtain ⟨e1,e2⟩:=Ak (at_:=fs) (way:=ws) (fun s (hs:s∈ns)=>by rw[a];exact (lj hs).1) wf.wf;exact ⟨e1,fun h=>⟨k7 wf (e1.trans h),e2 h⟩⟩
theorem JE {ns:List ByteArray}{fs:List Rat}{d:Nat}{t:Tm}(a:fs.length=ns.length)(wf:WfT1 (fun s=>s∈ns) d t)(hz:(bF (bO ns) fs d t).1=0){k:Nat}(hk:k<ns.length):(bY (bO ns) fs (bA ns.length [k] 1) d t).2.getD 1 0=(bF (bO ns) fs d t).2.2.getD k 0:=by
 rw[((wH a wf _).2 hz).2.2,DE _ _ hk,a,nC hk]
theorem Jo (d:Nat)(p:RTm)(t:Tm)(hd:d<=12)(L:Option Addr)(u:Nat)(ns:List ByteArray)(hns:NsD ns)(hcN:ns.length<=u)(fs:List Rat)(V:Option Addr)(cF:Nat)(B:List RT)(hm:fs.length<=1000)(hq:∀ i,LQ 1 (fs.getD i 0))(w:World)(h:Hp)(g:G w h)(hT:RmH d h p t)(hS:SmT1 gm d t)(hN:SlO 1 bB ⟨#[]⟩ h L ns)(hF:Sr V B h)(hTf:RTs h B fs):CR 11 #[bJ p,.slice L ns.length u,.slice V B.length cF] w h (fun v h1=>∃ (x:Value) (e:Int) (q:Rat) (A_:Option Addr) (c_:Nat) (ts_:List RT) (G_:List Rat),v=.tuple #[x,.slice A_ ts_.length c_,iV e]/\RQ h1 x q/\ts_.length<=c_/\Sr A_ ts_ h1/\RTs h1 ts_ G_/\DrunR d t ns fs e q G_):=by
 have a:=(((((sS g).add (K:=fun F=>RmH d F p t) hT).aS hN).aS hF).aT hTf);have b9:=hns.len;have bd:1<=ns.length/\ns.length<=1000:=⟨by omega,by omega⟩;have cm:=(a.f.1).len;refine go Tryz.func11 [(0,bJ p),(1,qS L ns.length u),(2,qS V B.length cF)] rfl (ax (lA 3 31 (bD p) a (fun b1 w2 h3 a=>lA 6 28 cD a (fun b4 w5 h6 a=>lL a aD (ah (aa a [.o (bJ p) 1 0 7] (lC 17 a (Cj dC gm Jc d p t oM _ _ a.g a.f.r.2.1 hS.sm) ?_)))))));rintro _ w7 h8 a ⟨ec,rfl,hec⟩;cases U:((ec:Int) != (0:Int))
 .
  have b7:=aW U;refine lB 18 U (ag (cK (cQ ?_)));have M:rJ dC d t:=⟨oO hS (hec.1 oM).1,(hec.1 oM).2⟩;refine aa a [.o (bJ p) 1 0 7,.c,.c,.v (nV B.length)] (lR 24 3 1 ([nV B.length]) a (fun zd _ _ a=>?_));replace a:=a.aS (SlO.of_flat (sz:=1) (f:=B8) (d:=0) (b:=zd) (o:=0) (l:=([B.length]:List Nat)) (fun _=>rfl) a.f.1);refine lC 25 a (AX d p t hd L u ns hns hcN (sB zd) 1 B.length oM M _ _ a.g a.f.q.2.1 a.f.q.1 a.f.1) ?_;rintro _ _ _ a ⟨en,rfl,X⟩;refine lL a ac (aG (lL a ac ?_));cases za:((en:Int) != (0:Int))
  .
   have ze:=aW za;refine lB 27 za (ag (cK (cQ (cR 10 [] mixed a ao ?_))));refine eO 0 31 [(1,0,7)] (bJ p) a ?_;have D:en=0:=by omega
   have Z:=X.ok D;have C:fs.length=ns.length:=by rw[<-(a.f.r.1).len];exact Z.2.1
   have z:=xV Z;have Q:=fun ws=>wH C z ws
   have bb:=(Q (bA ns.length [] 0)).1;refine eV 1 32 (qS L ns.length u) (eV 2 33 (qS V B.length cF) (eV 3 34 (qS L ns.length u) (eV 4 35 (nV ns.length) (eC 5 36 a (fun _ _ a=>E1 ns.length oM none 0 [] (Lz rfl) (fun j hj=>absurd hj (N8 j)) _ _ a.g SlO.nil) ?_))));rintro _ _ _ _ _ a ⟨Atu,ctu,tu,rfl,ch,b0,bm⟩;replace a:=((a.aS b0).aT bm);refine eC 6 37 a (fun _ _ a=>G4 (fun s=>s∈ns) (bO ns) fs (bA ns.length [] 0) L u ns V cF B Atu ctu tu C (kp _ _ _) bd.2 hq (iO _ _ kD) (wn ns) d p t _ _ oM a.g a.f.q.r.2.1 z M.2 a.f.q.r.1 a.f.q.2.1 a.f.q.1 a.f.2.1 a.f.1) ?_;rintro _ _ _ _ _ a ⟨J,O,tx,rfl,cd,bx,b5⟩;replace a:=((a.aS bx).aT b5);refine eV 7 30 (.tuple #[qS J tx.length O,iV ((bY (bO ns) fs (bA ns.length [] 0) d t).1)]) (eV 8 38 (qS J tx.length O) (eV 9 39 (iV ((bY (bO ns) fs (bA ns.length [] 0) d t).1)) (bP a (fun _ zM a=>tV 10 10 (qS J tx.length O) (tV 11 11 (iV ((bY (bO ns) fs (bA ns.length [] 0) d t).1)) (tN (cQ (aa a ac ?_))))))));cases zb:(((bY (bO ns) fs (bA ns.length [] 0) d t).1:Int) != (0:Int))
   .
    have zf:=aW zb;refine lB 41 zb (ag (cK ?_));have y:(bF (bO ns) fs d t).1=0:=by omega
    obtain ⟨bq,bl,cj⟩:=(Q (bA ns.length [] 0)).2 y;have b6:=(a.f.1).len;rw[bq] at b6
    refine aa a ac (ah (aa a ac (aY ?_)));replace a:=a.nil 28 3;replace a:=a.aT (RTs.nil);refine bH _ (CG.loop (fun μ_ Γ w_=>∃ (k:Nat) (H:Option Addr) (I:Nat) (S:List RT) (F:Hp),μ_=ns.length-k/\Γ=[(1,qS L ns.length u),(2,qS V B.length cF),(3,pB b1),(6,pB b4),(7,sZ),(8,iV 0),(10,qS J tx.length O),(13,nV k),(12,qS H ((S).length) I)]/\SS w h w_ F [⟨b4,28,[qF,sZ,sZ]⟩,⟨b1,31,bD p⟩] [⟨28,3,H,I,(S).length,(S).flatMap eJ⟩] [Rt S (qg (bF (bO ns) fs d t).2.2 k),Rt tx (bY (bO ns) fs (bA ns.length [] 0) d t).2,Sr J tx,Rt tu (bA ns.length [] 0),Sr Atu tu,fun F=>SlO 1 B8 0 F (sB zd) ([B.length]:List Nat),fun F=>Seg F zd 0 ([nV B.length]),Rt B fs,Sr V B,fun F=>SlO 1 bB ⟨#[]⟩ F L ns,fun F=>RmH d F p t]/\k<=ns.length) _ ⟨0,none,0,[],zM,rfl,rfl,a.to _ _,MG _⟩ ?_);rintro _ _ _ ⟨k,H,I,S,_,cf,rfl,a,hk⟩;have b3:=(a.f.1).len;rw[pE] at b3
    refine cQ (aa a [.c,.c,.v (nV ns.length)] ?_);cases zc:(decide ((k:Int)<(ns.length:Int)))
    .
     have zg:=oF zc;refine lB 47 zc (ag (CG.exit ?_))
     show CG _ _ _ _ _ _ _ _
     refine aa a ac (lX 69 J tx.length O 3 0 0 ((a.f.r.1).ok oM) ?_);obtain ⟨Ax,cx,Dx,dx,ex,hcx,hdx,hAx,hDx⟩:=(a.f.2.1).at_ 0 oM;replace a:=a.aP hAx hDx;refine Fo 70 (rA (tx.getD 0 fz)) a ((a.f.q.1).el 0 oM) ex (lL a ac (lP 0 0 (gY (((bY (bO ns) fs (bA ns.length [] 0) d t).2).getD 0 0) Ax cx Dx dx) a (fun _ a=>lL a aD (lN (kX ?_)))));have hkn:k=ns.length:=by omega
     obtain ⟨_,a,zv⟩:=a.pubr 0 (A:=H) (c:=I) (l:=S) (f:=eJ) (ty:=28) (sz:=3) fz (fun _=>rfl);exact a.ret [(0,0,3)] (.tuple #[rG (((bY (bO ns) fs (bA ns.length [] 0) d t).2).getD 0 0) Ax cx Dx dx,qS H ((S).length) I,iV 0]) (⟨_,_,(bF (bO ns) fs d t).2.1,_,_,S,(bF (bO ns) fs d t).2.2,rfl,RQ.eq ⟨_,_,_,_,rfl,hcx,hdx,a.f.r.1,a.f.2.1⟩ bl,zv,a.f.1,(by have q_:=(a.f.r.2.1);rw[hkn,By (by rw[jS z y];exact C)] at q_;exact q_),⟨0,by have:=X;rw[D] at this;exact (a.f.q.q.r.1).len▸this,.inr ⟨rfl,by rw[<-y]⟩⟩⟩)
    have zg:=oT zc;refine lB 47 zc (ak (cK (cQ (kZ (cQ (cR 12 [] mixed a ao ?_))))));refine eO 0 51 [(1,0,7)] (bJ p) a (eV 1 52 (qS L ns.length u) (eV 2 53 (qS V B.length cF) ?_));have bf:∀ j,j<([k]:List Nat).length->([k]:List Nat).getD j 0<ns.length:=fun j hj=>by have:j=0:=(by simp at hj;omega);subst this;show k<_;omega
    have cp:k<fs.length:=by omega
    refine eV 3 54 (qS L ns.length u) (eV 4 55 (nV ns.length) (eV 5 56 (nV k) (eR 6 57 3 1 ([nV k]) a (fun zi _ _ a=>?_))));replace a:=a.aS (SlO.of_flat (sz:=1) (f:=B8) (d:=0) (b:=zi) (o:=0) (l:=([k]:List Nat)) (fun _=>rfl) a.f.1);refine eC 7 58 a (fun _ _ a=>E1 ns.length oM (sB zi) 1 [k] (Lz rfl) bf _ _ a.g a.f.1) ?_;rintro _ _ _ _ _ a ⟨Atk,ctk,tk,rfl,cq,bz,bk⟩;replace a:=((a.aS bz).aT bk);refine eC 8 59 a (fun _ _ a=>G4 (fun s=>s∈ns) (bO ns) fs (bA ns.length [k] 1) L u ns V cF B Atk ctk tk C (kp _ _ _) bd.2 hq (iO _ _ kD) (wn ns) d p t _ _ oM a.g a.f.q.q.q.r.1 z M.2 a.f.q.q.q.2.1 a.f.q.q.q.1 a.f.q.q.r.2.1 a.f.2.1 a.f.1) ?_;rintro _ _ _ _ _ a ⟨Y,W,ty,rfl,cb,bn,br⟩;replace a:=((a.aS bn).aT br);refine eV 9 50 (.tuple #[qS Y ty.length W,iV ((bY (bO ns) fs (bA ns.length [k] 1) d t).1)]) (eV 10 60 (qS Y ty.length W) (eV 11 61 (iV ((bY (bO ns) fs (bA ns.length [k] 1) d t).1)) (bP a (fun _ _ a=>tV 12 14 (qS Y ty.length W) (tV 13 15 (iV ((bY (bO ns) fs (bA ns.length [k] 1) d t).1)) (tN (kQ (lL a aD ?_))))))));have b2:=((Q (bA ns.length [k] 1)).2 y).1;have bt:=(a.f.1).len;rw[b2] at bt
    refine lX 64 Y ty.length W 3 1 1 ((a.f.2.1).ok oM) ?_;obtain ⟨Ay,cy,Dy,dy,ey,hcy,hdy,hAy,hDy⟩:=(a.f.1).at_ 1 oM;replace a:=a.aP hAy hDy;refine Fo 65 (rA (ty.getD 1 fz)) a ((a.f.r.2.1).el 1 oM) ey (lR 66 28 1 (gY (((bY (bO ns) fs (bA ns.length [k] 1) d t).2).getD 1 0) Ay cy Dy dy) a (fun zN _ _ a=>lY 67 0 28 3 I H S eJ ((af (((bY (bO ns) fs (bA ns.length [k] 1) d t).2).getD 1 0).num,qS Ay ((lim (ab (((bY (bO ns) fs (bA ns.length [k] 1) d t).2).getD 1 0).num)).length) cy,qS Dy ((lim (((bY (bO ns) fs (bA ns.length [k] 1) d t).2).getD 1 0).den).length) dy):RT) 56 zN (.agg #[qF,sZ,sZ]) a a.f.1 (fun zP zQ _ zR a=>lL a ac (lN (kQ (lL a ac (bh 49 ((k:Nat)+1) (k+1) ?_)))))));refine lL a ac (lD ?_);intro a_ ka;replace a:=(a.tl.tl.tl.tl.tl.tl.tl.tl.tl.tl.aT (Hq a.f.q.q.2.1 (RQ.eq (lp hcy hdy a.f.r.1 a.f.2.1) (JE C z y oM))));refine ⟨_,_,?_,⟨k+1,zP,zQ,S++[((af (((bY (bO ns) fs (bA ns.length [k] 1) d t).2).getD 1 0).num,qS Ay ((lim (ab (((bY (bO ns) fs (bA ns.length [k] 1) d t).2).getD 1 0).num)).length) cy,qS Dy ((lim (((bY (bO ns) fs (bA ns.length [k] 1) d t).2).getD 1 0).den).length) dy):RT)],zR,rfl,rfl,a.to _ _,oM⟩,ka.to _ kR⟩
    omega
   have zf:=aN zb;refine lB 41 zb (ak (ax (lC 42 a (pp 0 oM oM _ _ a.g) ?_)));rintro _ _ _ a ⟨zj,zk,zl,zm,rfl,zw,zx,zA,zB⟩;replace a:=a.aP zA zB;exact lL a ac (lP 0 0 (gY ((0:Int):Rat) zj zk zl zm) a (fun _ a=>lL a aD (ae a [(0,0,3)] (.tuple #[rG ((0:Int):Rat) zj zk zl zm,sZ,iV ((bY (bO ns) fs (bA ns.length [] 0) d t).1)]) (⟨_,_,0,none,0,[],[],rfl,RQ.eq ⟨_,_,_,_,rfl,zw,zx,a.f.2.1,a.f.1⟩ rfl,nR _,SlO.nil,RTs.nil,⟨0,by have:=X;rw[D] at this;exact (a.f.q.q.1).len▸this,.inr ⟨rfl,by rw[bb];exact (wh (by have:=bb;omega)).symm⟩⟩⟩))))
  have ze:=aN za;refine lB 27 za (ak (ax (lC 28 a (pp 0 oM oM _ _ a.g) ?_)));rintro _ _ _ a ⟨zn,zo,zp,zq,rfl,zD,zE,zG,zH⟩;replace a:=a.aP zG zH;exact lL a ac (lP 0 0 (gY ((0:Int):Rat) zn zo zp zq) a (fun _ a=>lL a aD (ae a [(0,0,3)] (.tuple #[rG ((0:Int):Rat) zn zo zp zq,sZ,iV en]) (⟨_,_,0,none,0,[],[],rfl,RQ.eq ⟨_,_,_,_,rfl,zD,zE,a.f.2.1,a.f.1⟩ rfl,nR _,SlO.nil,RTs.nil,⟨en,((a.f.q.1).len▸X),.inl ⟨by omega,rfl,rfl,rfl⟩⟩⟩))))
 have b7:=aN U;refine lB 18 U (ak (ax (lC 19 a (pp 0 oM oM _ _ a.g) ?_)));rintro _ _ _ a ⟨zr,zs,zt,zu,rfl,zI,zJ,zK,zL⟩;replace a:=a.aP zK zL;exact lP 0 0 (gY ((0:Int):Rat) zr zs zt zu) a (fun _ a=>lL a aD (ae a [(0,0,3)] (.tuple #[rG ((0:Int):Rat) zr zs zt zu,sZ,iV 1]) (⟨_,_,0,none,0,[],[],rfl,RQ.eq ⟨_,_,_,_,rfl,zI,zJ,a.f.2.1,a.f.1⟩ rfl,nR _,SlO.nil,RTs.nil,⟨1,.inl ⟨fun F=>by have:=hec.2 ⟨F.1.wf,F.2⟩;omega,rfl⟩,.inl ⟨by omega,rfl,rfl,rfl⟩⟩⟩)))
theorem Ke (b:Bool)(i:Option Addr)(e f:Nat)(c:Option Addr)(j d:Nat)(w:World)(h:Hp)(g:G w h):CV 38 #[.agg #[.bool b,.slice i e f,.slice c j d]] w h (bJ ⟨1,0,b,i,e,f,c,j,d,⟨#[]⟩,none,0,0⟩):=by
 have a:=sS g;exact go Tryz.func38 [(0,.agg #[.bool b,qS i e f,qS c j d])] rfl (ax (lA 1 28 ([.bool b,qS i e f,qS c j d]) a (fun y w2 z a=>lA 2 31 (bD ⟨0,0,false,none,0,0,none,0,0,⟨#[]⟩,none,0,0⟩) a (fun u l x a=>aG (lL a [.o (.agg #[.bool b,qS i e f,qS c j d]) 1 0 3,.v (bJ ⟨1,0,b,i,e,f,c,j,d,⟨#[]⟩,none,0,0⟩)] (lP 0 0 (bD ⟨1,0,b,i,e,f,c,j,d,⟨#[]⟩,none,0,0⟩) a (fun p a=>ae a [(0,0,7)] (bJ ⟨1,0,b,i,e,f,c,j,d,⟨#[]⟩,none,0,0⟩) rfl)))))))
theorem Jn (op:Int)(a rb:RTm)(w:World)(h:Hp)(g:G w h):CR 41 #[iV op,bJ a,bJ rb] w h (fun v h1=>∃ b,v=bJ ⟨op,0,false,none,0,0,none,0,0,⟨#[]⟩,sB b,2,2⟩/\SlO 7 bD bT h1 (sB b) [a,rb]):=by
 have e:=sS g;refine go Tryz.func41 [(0,iV op),(1,bJ a),(2,bJ rb)] rfl (ax (lA 4 31 (bD a) e (fun B w2 x e=>lA 5 31 (bD rb) e (fun z y u e=>lA 6 31 (bD ⟨0,0,false,none,0,0,none,0,0,⟨#[]⟩,none,0,0⟩) e (fun p j i e=>aG (lL e [.c,.o (bJ a) 2 0 7,.o (bJ rb) 1 0 7] (lR 10 31 2 ([iV a.op,iV a.n,.bool a.neg,qS a.zA a.zn a.zc,qS a.dA a.dn a.dc,.string a.s,qS a.A a.m a.c,iV rb.op,iV rb.n,.bool rb.neg,qS rb.zA rb.zn rb.zc,qS rb.dA rb.dn rb.dc,.string rb.s,qS rb.A rb.m rb.c]) e (fun za _ _ e=>?_))))))));replace e:=e.aS (SlO.of_flat (sz:=7) (f:=bD) (d:=bT) (b:=za) (o:=0) (l:=([(⟨a.op,a.n,a.neg,a.zA,a.zn,a.zc,a.dA,a.dn,a.dc,a.s,a.A,a.m,a.c⟩:RTm),(⟨rb.op,rb.n,rb.neg,rb.zA,rb.zn,rb.zc,rb.dA,rb.dn,rb.dc,rb.s,rb.A,rb.m,rb.c⟩:RTm)]:List RTm)) (fun _=>rfl) e.f.1);exact lL e [.v (bJ ⟨op,0,false,none,0,0,none,0,0,⟨#[]⟩,sB za,2,2⟩)] (lP 0 0 (bD ⟨op,0,false,none,0,0,none,0,0,⟨#[]⟩,sB za,2,2⟩) e (fun _ e=>ae e [(0,0,7)] (bJ ⟨op,0,false,none,0,0,none,0,0,⟨#[]⟩,sB za,2,2⟩) (⟨_,rfl,e.f.1⟩)))
theorem AD  (w:World)(h:Hp)(g:G w h):CR 20 #[] w h (fun v h1=>∃ b,v=.slice (sB b) 3 3/\SlO 1 bB ⟨#[]⟩ h1 (sB b) dS):=by
 have a:=sS g;refine go Tryz.func20 [] rfl (aa a ac (aG (lR 1 9 3 ([.string (⟨#[120]⟩),.string (⟨#[121]⟩),.string (⟨#[122]⟩)]) a (fun c w2 e a=>?_))));replace a:=a.aS (SlO.of_flat (sz:=1) (f:=bB) (d:=⟨#[]⟩) (b:=c) (o:=0) (l:=dS) (fun _=>rfl) a.f.1);exact lL a ac (ae a [] (qS (sB c) 3 3) (⟨_,rfl,a.f.1⟩))
theorem JD (op:Int)(a:RTm)(w:World)(h:Hp)(g:G w h):CR 42 #[iV op,bJ a] w h (fun v h1=>∃ b,v=bJ ⟨op,0,false,none,0,0,none,0,0,⟨#[]⟩,sB b,1,1⟩/\SlO 7 bD bT h1 (sB b) [a]):=by
 have e:=sS g;refine go Tryz.func42 [(0,iV op),(1,bJ a)] rfl (ax (lA 3 31 (bD a) e (fun y w2 B e=>lA 4 31 (bD ⟨0,0,false,none,0,0,none,0,0,⟨#[]⟩,none,0,0⟩) e (fun p j u e=>aG (lL e [.c,.o (bJ a) 1 0 7] (lR 7 31 1 ([iV a.op,iV a.n,.bool a.neg,qS a.zA a.zn a.zc,qS a.dA a.dn a.dc,.string a.s,qS a.A a.m a.c]) e (fun i z x e=>?_)))))));replace e:=e.aS (SlO.of_flat (sz:=7) (f:=bD) (d:=bT) (b:=i) (o:=0) (l:=([(⟨a.op,a.n,a.neg,a.zA,a.zn,a.zc,a.dA,a.dn,a.dc,a.s,a.A,a.m,a.c⟩:RTm)]:List RTm)) (fun _=>rfl) e.f.1);exact lL e [.v (bJ ⟨op,0,false,none,0,0,none,0,0,⟨#[]⟩,sB i,1,1⟩)] (lP 0 0 (bD ⟨op,0,false,none,0,0,none,0,0,⟨#[]⟩,sB i,1,1⟩) e (fun _ e=>ae e [(0,0,7)] (bJ ⟨op,0,false,none,0,0,none,0,0,⟨#[]⟩,sB i,1,1⟩) (⟨_,rfl,e.f.1⟩)))
theorem IF (a:RTm)(nn:Int)(w:World)(h:Hp)(g:G w h):CR 18 #[bJ a,iV nn] w h (fun v h1=>∃ b,v=bJ ⟨8,nn,false,none,0,0,none,0,0,⟨#[]⟩,sB b,1,1⟩/\SlO 7 bD bT h1 (sB b) [a]):=by
 have e:=sS g;refine go Tryz.func18 [(0,bJ a),(1,iV nn)] rfl (ax (lA 2 31 (bD a) e (fun x w2 B e=>lA 4 31 (bD ⟨0,0,false,none,0,0,none,0,0,⟨#[]⟩,none,0,0⟩) e (fun p j u e=>aG (lL e [.c,.o (bJ a) 1 0 7] (lR 7 31 1 ([iV a.op,iV a.n,.bool a.neg,qS a.zA a.zn a.zc,qS a.dA a.dn a.dc,.string a.s,qS a.A a.m a.c]) e (fun i z y e=>?_)))))));replace e:=e.aS (SlO.of_flat (sz:=7) (f:=bD) (d:=bT) (b:=i) (o:=0) (l:=([(⟨a.op,a.n,a.neg,a.zA,a.zn,a.zc,a.dA,a.dn,a.dc,a.s,a.A,a.m,a.c⟩:RTm)]:List RTm)) (fun _=>rfl) e.f.1);exact lL e [.v (bJ ⟨8,nn,false,none,0,0,none,0,0,⟨#[]⟩,sB i,1,1⟩)] (lP 0 0 (bD ⟨8,nn,false,none,0,0,none,0,0,⟨#[]⟩,sB i,1,1⟩) e (fun _ e=>ae e [(0,0,7)] (bJ ⟨8,nn,false,none,0,0,none,0,0,⟨#[]⟩,sB i,1,1⟩) (⟨_,rfl,e.f.1⟩)))
section
variable {d:Nat}
theorem H9 (b:Bool)(f:Option Addr)(c a:Nat)(j:Option Addr)(i l:Nat){q:Rat}(w:World)(h:Hp)(g:G w h)(hz:RZ h (b,.slice f c a,.slice j i l) q):CR 38 #[.agg #[.bool b,.slice f c a,.slice j i l]] w h (fun v h1=>∃ r,v=bJ r/\RmH (d+1) h1 r (.mk 1 0 q ⟨#[]⟩ [])) :=
 (Ke b f c a j i l w h g).mono fun e w' ⟨v,h',e1,u,e2⟩=>⟨v,h',e1,u,_,e2,FK (hz.gw u.gr.gw)⟩
theorem nG (op:Int)(a rb:RTm)(t u:Tm)(w:World)(h:Hp)(g:G w h)(x:RmH d h a t)(y:RmH d h rb u):CR 41 #[iV op,bJ a,bJ rb] w h (fun v h1=>∃ r,v=bJ r/\RmH (d+1) h1 r (.mk op 0 0 ⟨#[]⟩ [t,u])) :=
 (Jn op a rb w h g).mono fun e w' ⟨v,h',e1,up,b,e2,c⟩=>⟨v,h',e1,up,_,e2,F0 (x.gw up.gr.gw) (y.gw up.gr.gw) c⟩
theorem uF (op:Int)(a:RTm)(t:Tm)(w:World)(h:Hp)(g:G w h)(x:RmH d h a t):CR 42 #[iV op,bJ a] w h (fun v h1=>∃ r,v=bJ r/\RmH (d+1) h1 r (.mk op 0 0 ⟨#[]⟩ [t])) :=
 (JD op a w h g).mono fun e w' ⟨v,h',e1,up,b,e2,c⟩=>⟨v,h',e1,up,_,e2,xY (x.gw up.gr.gw) c⟩
theorem uB (a:RTm)(t:Tm)(nn:Int)(w:World)(h:Hp)(g:G w h)(x:RmH d h a t):CR 18 #[bJ a,iV nn] w h (fun v h1=>∃ r,v=bJ r/\RmH (d+1) h1 r (.mk 8 nn 0 ⟨#[]⟩ [t])) :=
 (IF a nn w h g).mono fun e w' ⟨v,h',e1,up,b,e2,c⟩=>⟨v,h',e1,up,_,e2,xY (x.gw up.gr.gw) c⟩
end
theorem wK (e:Nat)(A:Option Addr)(p:Nat)(u:List Int)(hl:u.length<=9223372036854775807)(hz:oQ u)(dp:Nat)(hdp:dp<=1000)(S:∀ z:Int,z+1=(dp:Nat)->0<=z->∀ at_:Nat,at_<=u.length->∀ (w:World) (h:Hp),G w h->Own w e 69 [.slice A u.length p,nV at_]->h[e]?=some bc->Si A u h->Calls Tryz.prog 19 #[pB e,iV z,.bool false] w (eP e w h (fun v w' h'=>∃ (r:RTm) (t:Tm) (at2:Nat),v=bJ r/\at2<=u.length/\Own w' e 69 [.slice A u.length p,nV at2]/\RmH dp h' r t/\GrT dp t)))(at_:Nat)(ha:at_<=u.length)(w:World)(h:Hp)(g:G w h)(ho:Own w e 69 [.slice A u.length p,nV at_])(hj:h[e]?=some bc)(hA:Si A u h):Calls Tryz.prog 19 #[pB e,nV dp,.bool false] w (eP e w h (fun v w' h'=>∃ (r:RTm) (t:Tm) (at2:Nat),v=bJ r/\at2<=u.length/\Own w' e 69 [.slice A u.length p,nV at2]/\RmH (dp+1) h' r t/\GrT (dp+1) t)):=by
 have b:UpM [e] w h w h:=UpM.refl g;obtain ⟨wz,rf,a⟩:=SS.at_ g ho hj;replace a:=a.aS hA;refine go Tryz.func19 [(0,pB e),(1,nV dp),(2,qF)] rfl (ax (JX 6 31 (bD ⟨0,0,false,none,0,0,none,0,0,⟨#[]⟩,none,0,0⟩) a (fun y w2 h3 u4 i a=>?_)));replace i:=e4 b.gr.size i;replace b:=b.trans (u4.m _);refine aG (lL a ac (gi 11 (Ao A p u hl hz e at_ oM _ _ a.g (a.own 1) (a.jk 1) a.f.1) ?_));rintro _ w6 h7 u8 ⟨C,o,rfl,s0,ly,rl⟩;replace a:=(a.stepM 1 u8 rl).to [⟨y,31,bD ⟨0,0,false,none,0,0,none,0,0,⟨#[]⟩,none,0,0⟩⟩,⟨e,69,[qS A u.length p,nV o]⟩] [];replace b:=b.trans u8;have r9:=ly.1;have sb:=ly.2;refine kd 12 (eL (C) 19 oM oM _ _ a.g) ?_;rintro _ _ zr u12 rfl;replace b:=b.trans (u12.m _);replace a:=a.step u12;have lp9:=cO (C) 19 oM;refine lL a ac (ah (aa a aD (lG 15 ?_)));refine lG 16 ?_;refine lL a [.v qF] (ag (cK (cQ (kZ (CG.join (fun Γ w_=>∃ (zq:Bool) (j:Hp),Γ=[(0,pB e),(1,nV dp),(2,qF),(6,pB y),(7,nV (aU (C) 19)),(20,.bool zq)]/\SS wz rf w_ j [⟨y,31,bD ⟨0,0,false,none,0,0,none,0,0,⟨#[]⟩,none,0,0⟩⟩,⟨e,69,[qS A u.length p,nV o]⟩] [] [Si A u]/\(zq=true->¬(1<=dp/\2<=(aU (C) 19)/\(aU (C) 19)<17))/\(zq=false->(1<=dp/\2<=(aU (C) 19)/\(aU (C) 19)<17))/\UpM [e] w h w_ j) ?_ ?_)))))
 .
  refine kQ (lL a ac ?_);cases zb:(decide ((dp:Int)<(1:Int)))
  .
   have zu:=oF zb;refine lB 22 zb (lL a aD ?_);cases zc:(decide (((aU (C) 19:Nat):Int)<(2:Int)))
   .
    have zv:=oF zc;refine lB 25 zc (lL a [.v qF,.c,.c] ?_);cases zd:(decide ((17:Int)<=((aU (C) 19:Nat):Int)))
    .
     have zw:=oF zd;refine lB 29 zd (lL a [.v qF,.c] (lD ?_));intro a_ ka;exact ⟨_,⟨false,zr,rfl,a.to _ _,(fun j=>absurd j kD),(fun _=>by omega),b⟩,ka.to _ kR⟩
    have zw:=oT zd;refine lB 29 zd (lL a [.v qT,.c] (lD ?_));intro a_ ka;exact ⟨_,⟨true,zr,rfl,a.to _ _,(fun _=>by omega),(fun j=>absurd j kD),b⟩,ka.to _ kR⟩
   have zv:=oT zc;refine lB 25 zc (lL a [.v qT,.c] (lG 28 ?_));refine lG 29 (lL a [.v qT,.c] (lD ?_));intro a_ ka;exact ⟨_,⟨true,zr,rfl,a.to _ _,(fun _=>by omega),(fun j=>absurd j kD),b⟩,ka.to _ kR⟩
  have zu:=oT zb;refine lB 22 zb (lL a ac (lG 24 ?_));refine lG 25 (lL a [.v qT,.c] (lG 28 ?_));refine lG 29 (lL a [.v qT,.c] (lD ?_));intro a_ ka;exact ⟨_,⟨true,zr,rfl,a.to _ _,(fun _=>by omega),(fun j=>absurd j kD),b⟩,ka.to _ kR⟩
 rintro _ _ ⟨zq,_,rfl,a,st,rk,b⟩;cases ze:(zq)
 .
  try rw[ze] at a
  try rw[ze]
  refine dr (ax ?_);have r6:=rk aM;refine lL a ac ?_;cases zf:(decide (((aU (C) 19:Nat):Int)<(4:Int)))
  .
   have zx:=oF zf;refine lB 49 zf (lL a ac (ag (aa a ac ?_)));cases zg:(decide (((aU (C) 19:Nat):Int)<(5:Int)))
   .
    have zA:=oF zg;refine lB 63 zg (lL a ac (ag (aa a ac ?_)));cases zi:(decide (((aU (C) 19:Nat):Int)<(7:Int)))
    .
     have zB:=oF zi;refine lB 77 zi (lL a ac (ag (aa a ac ?_)));cases zj:(decide (((aU (C) 19:Nat):Int)<(8:Int)))
     .
      have zD:=oF zj;refine lB 91 zj (lL a ac (ag (aa a ac ?_)));cases zk:(decide (((aU (C) 19:Nat):Int)<(9:Int)))
      .
       have zE:=oF zk;refine lB 100 zk (lL a ac (ag (aa a ac ?_)));cases zl:(decide (((aU (C) 19:Nat):Int)<(11:Int)))
       .
        have zG:=oF zl;refine lB 117 zl (lL a ac (ag (aa a ac ?_)));cases zm:(decide (((aU (C) 19:Nat):Int)<(12:Int)))
        .
         have zH:=oF zm;refine lB 131 zm (lL a ac (ag (aa a ac ?_)));cases zn:(decide (((aU (C) 19:Nat):Int)<(13:Int)))
         .
          have zI:=oF zn;refine lB 140 zn (lL a ac (ag (aa a ac ?_)));cases zo:(decide (((aU (C) 19:Nat):Int)<(15:Int)))
          .
           have zJ:=oF zo;refine lB 149 zo (lL a ac (ag (aa a ac ?_)));cases zp:(decide (((aU (C) 19:Nat):Int)<(16:Int)))
           .
            have zK:=oF zp;refine lB 158 zp (lL a ac (ag (cK (aa a aD (lI 172 ((dp:Nat)-1) ?_)))));refine lL a ac (gi 174 (S ((dp:Nat)-1) oM oM o oM _ _ a.g (a.own 1) (a.jk 1) a.f.1) ?_);rintro _ _ _ u44 ⟨md,cz,bt,rfl,r5,q2,pw,nd⟩;replace a:=(a.stepM 1 u44 q2).to [⟨y,31,bD ⟨0,0,false,none,0,0,none,0,0,⟨#[]⟩,none,0,0⟩⟩,⟨e,69,[qS A u.length p,nV bt]⟩] [];replace b:=b.trans u44;replace a:=(a.add (K:=fun j=>RmH dp j md cz) pw);refine lL a aD (lI 177 ((dp:Nat)-1) ?_);refine lL a ac (gi 179 (S ((dp:Nat)-1) oM oM bt oM _ _ a.g (a.own 1) (a.jk 1) a.f.2.1) ?_);rintro _ _ _ u48 ⟨l4,c3,bz,rfl,q3,n1,q5,m1⟩;replace a:=(a.stepM 1 u48 n1).to [⟨y,31,bD ⟨0,0,false,none,0,0,none,0,0,⟨#[]⟩,none,0,0⟩⟩,⟨e,69,[qS A u.length p,nV bz]⟩] [];replace b:=b.trans u48;replace a:=(a.add (K:=fun j=>RmH dp j l4 c3) q5);refine kd 180 (nG 13 md l4 cz c3 _ _ a.g a.f.2.1 a.f.1) ?_;rintro _ _ _ u52 ⟨r49,rfl,p4⟩;replace b:=b.trans (u52.m _);replace a:=a.step u52;replace a:=(a.add (K:=fun j=>RmH (dp+1) j r49 (.mk 13 0 0 ⟨#[]⟩ [cz,c3])) p4);refine nP 0 0 (bD r49) a (fun _ x a=>?_);replace b:=b.put2 x i g a.g;refine lN (bH [(6,pB y)] ?_);exact kX (a.retM b [(0,0,7)] (bJ r49) ⟨_,_,bz,rfl,q3,a.own 1,a.f.1,nd.two m1 rfl⟩)
           have zK:=oT zp;refine lB 158 zp (lL a ac (ak (aa a aD (lI 161 ((dp:Nat)-1) ?_))));refine lL a ac (gi 163 (S ((dp:Nat)-1) oM oM o oM _ _ a.g (a.own 1) (a.jk 1) a.f.1) ?_);rintro _ _ _ u57 ⟨ms,c6,bl,rfl,sr,n7,p6,pk⟩;replace a:=(a.stepM 1 u57 n7).to [⟨y,31,bD ⟨0,0,false,none,0,0,none,0,0,⟨#[]⟩,none,0,0⟩⟩,⟨e,69,[qS A u.length p,nV bl]⟩] [];replace b:=b.trans u57;replace a:=(a.add (K:=fun j=>RmH dp j ms c6) p6);refine lL a aD (lI 166 ((dp:Nat)-1) ?_);refine lL a ac (gi 168 (S ((dp:Nat)-1) oM oM bl oM _ _ a.g (a.own 1) (a.jk 1) a.f.2.1) ?_);rintro _ _ _ u61 ⟨mb,c8,bk,rfl,pv,qr,p0,nq⟩;replace a:=(a.stepM 1 u61 qr).to [⟨y,31,bD ⟨0,0,false,none,0,0,none,0,0,⟨#[]⟩,none,0,0⟩⟩,⟨e,69,[qS A u.length p,nV bk]⟩] [];replace b:=b.trans u61;replace a:=(a.add (K:=fun j=>RmH dp j mb c8) p0);refine kd 169 (nG 12 ms mb c6 c8 _ _ a.g a.f.2.1 a.f.1) ?_;rintro _ _ _ u65 ⟨r62,rfl,n2⟩;replace b:=b.trans (u65.m _);replace a:=a.step u65;replace a:=(a.add (K:=fun j=>RmH (dp+1) j r62 (.mk 12 0 0 ⟨#[]⟩ [c6,c8])) n2);refine nP 0 0 (bD r62) a (fun _ x a=>?_);replace b:=b.put2 x i g a.g;refine lN (bH [(0,pB e),(1,nV dp),(2,qF),(6,pB y)] ?_);exact kX (a.retM b [(0,0,7)] (bJ r62) ⟨_,_,bk,rfl,pv,a.own 1,a.f.1,pk.two nq rfl⟩)
          have zJ:=oT zo;refine lB 149 zo (lL a ac (ak (aa a aD (lI 152 ((dp:Nat)-1) ?_))));refine lL a ac (gi 154 (S ((dp:Nat)-1) oM oM o oM _ _ a.g (a.own 1) (a.jk 1) a.f.1) ?_);rintro _ _ _ u70 ⟨h6,b9,b3,rfl,qb,pb,p1,ql⟩;replace a:=(a.stepM 1 u70 pb).to [⟨y,31,bD ⟨0,0,false,none,0,0,none,0,0,⟨#[]⟩,none,0,0⟩⟩,⟨e,69,[qS A u.length p,nV b3]⟩] [];replace b:=b.trans u70;replace a:=(a.add (K:=fun j=>RmH dp j h6 b9) p1);refine kd 155 (uF 11 h6 b9 _ _ a.g a.f.1) ?_;rintro _ _ _ u74 ⟨r71,rfl,m3⟩;replace b:=b.trans (u74.m _);replace a:=a.step u74;replace a:=(a.add (K:=fun j=>RmH (dp+1) j r71 (.mk 11 0 0 ⟨#[]⟩ [b9])) m3);refine nP 0 0 (bD r71) a (fun _ x a=>?_);replace b:=b.put2 x i g a.g;exact lN (kX (a.retM b [(0,0,7)] (bJ r71) ⟨_,_,b3,rfl,qb,a.own 1,a.f.1,ql.one rfl (fun _=>rfl) kD kD⟩))
         have zI:=oT zn;refine lB 140 zn (lL a ac (ak (aa a aD (lI 143 ((dp:Nat)-1) ?_))));refine lL a ac (gi 145 (S ((dp:Nat)-1) oM oM o oM _ _ a.g (a.own 1) (a.jk 1) a.f.1) ?_);rintro _ _ _ u79 ⟨kx,cj,bn,rfl,nj,q0,p5,q8⟩;replace a:=(a.stepM 1 u79 q0).to [⟨y,31,bD ⟨0,0,false,none,0,0,none,0,0,⟨#[]⟩,none,0,0⟩⟩,⟨e,69,[qS A u.length p,nV bn]⟩] [];replace b:=b.trans u79;replace a:=(a.add (K:=fun j=>RmH dp j kx cj) p5);refine kd 146 (uF 10 kx cj _ _ a.g a.f.1) ?_;rintro _ _ _ u83 ⟨r80,rfl,q4⟩;replace b:=b.trans (u83.m _);replace a:=a.step u83;replace a:=(a.add (K:=fun j=>RmH (dp+1) j r80 (.mk 10 0 0 ⟨#[]⟩ [cj])) q4);refine nP 0 0 (bD r80) a (fun _ x a=>?_);replace b:=b.put2 x i g a.g;exact lN (kX (a.retM b [(0,0,7)] (bJ r80) ⟨_,_,bn,rfl,nj,a.own 1,a.f.1,q8.one rfl (fun _=>rfl) kD kD⟩))
        have zH:=oT zm;refine lB 131 zm (lL a ac (ak (aa a aD (lI 134 ((dp:Nat)-1) ?_))));refine lL a ac (gi 136 (S ((dp:Nat)-1) oM oM o oM _ _ a.g (a.own 1) (a.jk 1) a.f.1) ?_);rintro _ _ _ u88 ⟨lb,cy,bq,rfl,qq,m4,qs,p3⟩;replace a:=(a.stepM 1 u88 m4).to [⟨y,31,bD ⟨0,0,false,none,0,0,none,0,0,⟨#[]⟩,none,0,0⟩⟩,⟨e,69,[qS A u.length p,nV bq]⟩] [];replace b:=b.trans u88;replace a:=(a.add (K:=fun j=>RmH dp j lb cy) qs);refine kd 137 (uF 9 lb cy _ _ a.g a.f.1) ?_;rintro _ _ _ u92 ⟨r89,rfl,pc⟩;replace b:=b.trans (u92.m _);replace a:=a.step u92;replace a:=(a.add (K:=fun j=>RmH (dp+1) j r89 (.mk 9 0 0 ⟨#[]⟩ [cy])) pc);refine nP 0 0 (bD r89) a (fun _ x a=>?_);replace b:=b.put2 x i g a.g;exact lN (kX (a.retM b [(0,0,7)] (bJ r89) ⟨_,_,bq,rfl,qq,a.own 1,a.f.1,p3.one rfl (fun _=>rfl) kD kD⟩))
       have zG:=oT zl;refine lB 117 zl (lL a ac (ak (aa a aD (lI 120 ((dp:Nat)-1) ?_))));refine lL a ac (gi 122 (S ((dp:Nat)-1) oM oM o oM _ _ a.g (a.own 1) (a.jk 1) a.f.1) ?_);rintro _ _ _ u97 ⟨h5,cv,bm,rfl,sj,n6,q6,m5⟩;replace a:=(a.stepM 1 u97 n6).to [⟨y,31,bD ⟨0,0,false,none,0,0,none,0,0,⟨#[]⟩,none,0,0⟩⟩,⟨e,69,[qS A u.length p,nV bm]⟩] [];replace b:=b.trans u97;replace a:=(a.add (K:=fun j=>RmH dp j h5 cv) q6);refine lL a aD (lI 125 ((dp:Nat)-1) ?_);refine lL a ac (gi 127 (S ((dp:Nat)-1) oM oM bm oM _ _ a.g (a.own 1) (a.jk 1) a.f.2.1) ?_);rintro _ _ _ lx ⟨my,cd,bx,rfl,p2,q1,m0,rc⟩;replace a:=(a.stepM 1 lx q1).to [⟨y,31,bD ⟨0,0,false,none,0,0,none,0,0,⟨#[]⟩,none,0,0⟩⟩,⟨e,69,[qS A u.length p,nV bx]⟩] [];replace b:=b.trans lx;replace a:=(a.add (K:=fun j=>RmH dp j my cd) m0);refine kd 128 (nG 6 h5 my cv cd _ _ a.g a.f.2.1 a.f.1) ?_;rintro _ _ _ mw ⟨cp,rfl,dn⟩;replace b:=b.trans (mw.m _);replace a:=a.step mw;replace a:=(a.add (K:=fun j=>RmH (dp+1) j cp (.mk 6 0 0 ⟨#[]⟩ [cv,cd])) dn);refine nP 0 0 (bD cp) a (fun _ x a=>?_);replace b:=b.put2 x i g a.g;exact lN (kX (a.retM b [(0,0,7)] (bJ cp) ⟨_,_,bx,rfl,p2,a.own 1,a.f.1,m5.two rc rfl⟩))
      have zE:=oT zk;refine lB 100 zk (lL a ac (ak (aa a ac (gi 102 (Ao A p u hl hz e o oM _ _ a.g (a.own 1) (a.jk 1) a.f.1) ?_))));rintro _ _ _ mp ⟨F,H,rfl,r1,br,dw⟩;replace a:=(a.stepM 1 mp dw).to [⟨y,31,bD ⟨0,0,false,none,0,0,none,0,0,⟨#[]⟩,none,0,0⟩⟩,⟨e,69,[qS A u.length p,nV H]⟩] [];replace b:=b.trans mp;have rd:=br.1;have rh:=br.2;refine kd 103 (eL (F) 6 oM oM _ _ a.g) ?_;rintro _ _ _ j1 rfl;replace b:=b.trans (j1.m _);replace a:=a.step j1;have r4:=cO (F) 6 oM;refine lI 104 ((aU (F) 6:Nat)-2) (lL a ac (ah (aa a ac (ag (cK (aa a aD (lI 110 ((dp:Nat)-1) ?_)))))));refine lL a ac (gi 112 (S ((dp:Nat)-1) oM oM H oM _ _ a.g (a.own 1) (a.jk 1) a.f.1) ?_);rintro _ _ _ mf ⟨b6,bf,Q,rfl,dc,d4,d1,fp⟩;replace a:=(a.stepM 1 mf d4).to [⟨y,31,bD ⟨0,0,false,none,0,0,none,0,0,⟨#[]⟩,none,0,0⟩⟩,⟨e,69,[qS A u.length p,nV Q]⟩] [];replace b:=b.trans mf;replace a:=(a.add (K:=fun j=>RmH dp j b6 bf) d1);refine lL a ac (kd 114 (uB b6 bf ((aU (F) 6:Nat)-2) _ _ a.g a.f.1) ?_);rintro _ _ _ kr ⟨b4,rfl,d5⟩;replace b:=b.trans (kr.m _);replace a:=a.step kr;replace a:=(a.add (K:=fun j=>RmH (dp+1) j b4 (.mk 8 ((aU (F) 6:Nat)-2) 0 ⟨#[]⟩ [bf])) d5);refine nP 0 0 (bD b4) a (fun _ x a=>?_);replace b:=b.put2 x i g a.g;exact lN (kX (a.retM b [(0,0,7)] (bJ b4) ⟨_,_,Q,rfl,dc,a.own 1,a.f.1,fp.one rfl (fun j=>absurd rfl j) oM oM⟩))
     have zD:=oT zj;refine lB 91 zj (lL a ac (ak (aa a aD (lI 94 ((dp:Nat)-1) ?_))));refine lL a ac (gi 96 (S ((dp:Nat)-1) oM oM o oM _ _ a.g (a.own 1) (a.jk 1) a.f.1) ?_);rintro _ _ _ k5 ⟨cf,Z,O,rfl,hd,hy,dy,hp⟩;replace a:=(a.stepM 1 k5 hy).to [⟨y,31,bD ⟨0,0,false,none,0,0,none,0,0,⟨#[]⟩,none,0,0⟩⟩,⟨e,69,[qS A u.length p,nV O]⟩] [];replace b:=b.trans k5;replace a:=(a.add (K:=fun j=>RmH dp j cf Z) dy);refine kd 97 (uF 7 cf Z _ _ a.g a.f.1) ?_;rintro _ _ _ ls ⟨c7,rfl,fn⟩;replace b:=b.trans (ls.m _);replace a:=a.step ls;replace a:=(a.add (K:=fun j=>RmH (dp+1) j c7 (.mk 7 0 0 ⟨#[]⟩ [Z])) fn);refine nP 0 0 (bD c7) a (fun _ x a=>?_);replace b:=b.put2 x i g a.g;exact lN (kX (a.retM b [(0,0,7)] (bJ c7) ⟨_,_,O,rfl,hd,a.own 1,a.f.1,hp.one rfl (fun _=>rfl) kD kD⟩))
    have zB:=oT zi;refine lB 77 zi (lL a ac (ak (aa a aD (lI 80 ((dp:Nat)-1) ?_))));refine lL a ac (gi 82 (S ((dp:Nat)-1) oM oM o oM _ _ a.g (a.own 1) (a.jk 1) a.f.1) ?_);rintro _ _ _ k4 ⟨cx,X,L,rfl,r0,f3,hb,fm⟩;replace a:=(a.stepM 1 k4 f3).to [⟨y,31,bD ⟨0,0,false,none,0,0,none,0,0,⟨#[]⟩,none,0,0⟩⟩,⟨e,69,[qS A u.length p,nV L]⟩] [];replace b:=b.trans k4;replace a:=(a.add (K:=fun j=>RmH dp j cx X) hb);refine lL a aD (lI 85 ((dp:Nat)-1) ?_);refine lL a ac (gi 87 (S ((dp:Nat)-1) oM oM L oM _ _ a.g (a.own 1) (a.jk 1) a.f.2.1) ?_);rintro _ _ _ mj ⟨cm,bb,M,rfl,hw,f9,df,ds⟩;replace a:=(a.stepM 1 mj f9).to [⟨y,31,bD ⟨0,0,false,none,0,0,none,0,0,⟨#[]⟩,none,0,0⟩⟩,⟨e,69,[qS A u.length p,nV M]⟩] [];replace b:=b.trans mj;replace a:=(a.add (K:=fun j=>RmH dp j cm bb) df);refine kd 88 (nG 5 cx cm X bb _ _ a.g a.f.2.1 a.f.1) ?_;rintro _ _ _ k1 ⟨cr,rfl,d6⟩;replace b:=b.trans (k1.m _);replace a:=a.step k1;replace a:=(a.add (K:=fun j=>RmH (dp+1) j cr (.mk 5 0 0 ⟨#[]⟩ [X,bb])) d6);refine nP 0 0 (bD cr) a (fun _ x a=>?_);replace b:=b.put2 x i g a.g;exact lN (kX (a.retM b [(0,0,7)] (bJ cr) ⟨_,_,M,rfl,hw,a.own 1,a.f.1,fm.two ds rfl⟩))
   have zA:=oT zg;refine lB 63 zg (lL a ac (ak (aa a aD (lI 66 ((dp:Nat)-1) ?_))));refine lL a ac (gi 68 (S ((dp:Nat)-1) oM oM o oM _ _ a.g (a.own 1) (a.jk 1) a.f.1) ?_);rintro _ _ _ l0 ⟨ch,bd,J,rfl,r2,f8,hh,hx⟩;replace a:=(a.stepM 1 l0 f8).to [⟨y,31,bD ⟨0,0,false,none,0,0,none,0,0,⟨#[]⟩,none,0,0⟩⟩,⟨e,69,[qS A u.length p,nV J]⟩] [];replace b:=b.trans l0;replace a:=(a.add (K:=fun j=>RmH dp j ch bd) hh);refine lL a aD (lI 71 ((dp:Nat)-1) ?_);refine lL a ac (gi 73 (S ((dp:Nat)-1) oM oM J oM _ _ a.g (a.own 1) (a.jk 1) a.f.2.1) ?_);rintro _ _ _ mx ⟨b5,W,U,rfl,d0,f1,d3,dz⟩;replace a:=(a.stepM 1 mx f1).to [⟨y,31,bD ⟨0,0,false,none,0,0,none,0,0,⟨#[]⟩,none,0,0⟩⟩,⟨e,69,[qS A u.length p,nV U]⟩] [];replace b:=b.trans mx;replace a:=(a.add (K:=fun j=>RmH dp j b5 W) d3);refine kd 74 (nG 4 ch b5 bd W _ _ a.g a.f.2.1 a.f.1) ?_;rintro _ _ _ h4 ⟨cb,rfl,hc⟩;replace b:=b.trans (h4.m _);replace a:=a.step h4;replace a:=(a.add (K:=fun j=>RmH (dp+1) j cb (.mk 4 0 0 ⟨#[]⟩ [bd,W])) hc);refine nP 0 0 (bD cb) a (fun _ x a=>?_);replace b:=b.put2 x i g a.g;exact lN (kX (a.retM b [(0,0,7)] (bJ cb) ⟨_,_,U,rfl,d0,a.own 1,a.f.1,hx.two dz rfl⟩))
  have zx:=oT zf;refine lB 49 zf (lL a ac (ak (aa a aD (lI 52 ((dp:Nat)-1) ?_))));refine lL a ac (gi 54 (S ((dp:Nat)-1) oM oM o oM _ _ a.g (a.own 1) (a.jk 1) a.f.1) ?_);rintro _ _ _ h8 ⟨c9,Y,I,rfl,rs,f7,f6,dx⟩;replace a:=(a.stepM 1 h8 f7).to [⟨y,31,bD ⟨0,0,false,none,0,0,none,0,0,⟨#[]⟩,none,0,0⟩⟩,⟨e,69,[qS A u.length p,nV I]⟩] [];replace b:=b.trans h8;replace a:=(a.add (K:=fun j=>RmH dp j c9 Y) f6);refine lL a aD (lI 57 ((dp:Nat)-1) ?_);refine lL a ac (gi 59 (S ((dp:Nat)-1) oM oM I oM _ _ a.g (a.own 1) (a.jk 1) a.f.2.1) ?_);rintro _ _ _ mv ⟨cq,V,D,rfl,dm,d2,dd,hm⟩;replace a:=(a.stepM 1 mv d2).to [⟨y,31,bD ⟨0,0,false,none,0,0,none,0,0,⟨#[]⟩,none,0,0⟩⟩,⟨e,69,[qS A u.length p,nV D]⟩] [];replace b:=b.trans mv;replace a:=(a.add (K:=fun j=>RmH dp j cq V) dd);refine kd 60 (nG 3 c9 cq Y V _ _ a.g a.f.2.1 a.f.1) ?_;rintro _ _ _ h9 ⟨b7,rfl,h2⟩;replace b:=b.trans (h9.m _);replace a:=a.step h9;replace a:=(a.add (K:=fun j=>RmH (dp+1) j b7 (.mk 3 0 0 ⟨#[]⟩ [Y,V])) h2);refine nP 0 0 (bD b7) a (fun _ x a=>?_);replace b:=b.put2 x i g a.g;exact lN (kX (a.retM b [(0,0,7)] (bJ b7) ⟨_,_,D,rfl,dm,a.own 1,a.f.1,dx.two hm rfl⟩))
 try rw[ze] at a
 try rw[ze]
 refine co (aa a ac (gi 32 (Ao A p u hl hz e o oM _ _ a.g (a.own 1) (a.jk 1) a.f.1) ?_));rintro _ _ _ k3 ⟨l,B,rfl,b0,b2,f2⟩;replace a:=(a.stepM 1 k3 f2).to [⟨y,31,bD ⟨0,0,false,none,0,0,none,0,0,⟨#[]⟩,none,0,0⟩⟩,⟨e,69,[qS A u.length p,nV B]⟩] [];replace b:=b.trans k3;have c5:=b2.1;have c4:=b2.2;have sy:=uZ l 3 oM c5 c4;refine lL a ac (ah (aa a ac (kd 34 (eL (l) 3 oM oM _ _ a.g) ?_)));rintro _ _ _ mc rfl;replace b:=b.trans (mc.m _);replace a:=a.step mc;have sc:=cO (l) 3 oM;cases za:(((aU (l) 3:Nat):Int) == (0:Int))
 .
  have zt:=aj za;refine lB 35 za (ag (cK (ax (kd 40 (AD _ _ a.g) ?_))));rintro _ _ _ l1 ⟨bN,rfl,hN0⟩;replace b:=b.trans (l1.m _);replace a:=a.step l1;replace a:=a.aS hN0;have ss:dS.length=3:=rfl;refine lL a ac (lV 42 (iV ((l).tdiv 3)) ?_ (hr:=rS (((l).tdiv 3)) kR (oE oM oM)));refine kd 43 (eL ((l).tdiv 3) 3 oM oM _ _ a.g) ?_;rintro _ _ _ mz rfl;replace b:=b.trans (mz.m _);replace a:=a.step mz;have r3:=cO ((l).tdiv 3) 3 oM;refine lX 44 (sB bN) 3 3 1 (aU ((l).tdiv 3) 3:Nat) (aU ((l).tdiv 3) 3:Nat) ((a.f.1).ok oM) (lH 45 (.string (dS.getD (aU ((l).tdiv 3) 3:Nat) ⟨#[]⟩)) a ((a.f.1).el (aU ((l).tdiv 3) 3:Nat) oM) (lL a [.v (bJ ⟨2,0,false,none,0,0,none,0,0,dS.getD (aU ((l).tdiv 3) 3:Nat) ⟨#[]⟩,none,0,0⟩)] (nP 0 0 (bD ⟨2,0,false,none,0,0,none,0,0,dS.getD (aU ((l).tdiv 3) 3:Nat) ⟨#[]⟩,none,0,0⟩) a (fun _ x a=>?_))));replace b:=b.put2 x i g a.g;exact lN (kX (a.retM b [(0,0,7)] (bJ ⟨2,0,false,none,0,0,none,0,0,dS.getD (aU ((l).tdiv 3) 3:Nat) ⟨#[]⟩,none,0,0⟩) ⟨⟨2,0,false,none,0,0,none,0,0,dS.getD (aU ((l).tdiv 3) 3:Nat) ⟨#[]⟩,none,0,0⟩,_,B,rfl,b0,a.own 1,Di,GrT.name (HP oM)⟩))
 have zt:=eq_of_beq za;refine lB 35 za (ak (aa a ac (lV 37 (iV ((l).tdiv 3)) ?_ (hr:=rS (((l).tdiv 3)) kR (oE oM oM)))));refine kd 38 (hR ((l).tdiv 3) oM oM _ _ a.g) ?_;rintro _ _ _ kq ⟨zQ,zR,zS,zU,rfl,zL,zM,zN,zP⟩;replace b:=b.trans (kq.m _);replace a:=a.step kq;replace a:=a.aP zN zP;refine kd 39 (H9 (d:=dp) (af (dN ((l).tdiv 3)).num) zQ ((lim (ab (dN ((l).tdiv 3)).num)).length) zR zS ((lim (dN ((l).tdiv 3)).den).length) zU _ _ a.g ⟨true,⟨_,_,_,_,rfl,zL,zM,a.f.2.1,a.f.1⟩,fun j=>(by cases j)⟩) ?_;rintro _ _ _ kn ⟨cw,rfl,dv⟩;replace b:=b.trans (kn.m _);replace a:=a.step kn;replace a:=(a.add (K:=fun j=>RmH (dp+1) j cw (.mk 1 0 (dN ((l).tdiv 3)) ⟨#[]⟩ [])) dv);refine nP 0 0 (bD cw) a (fun _ x a=>?_);replace b:=b.put2 x i g a.g;exact lN (kX (a.retM b [(0,0,7)] (bJ cw) ⟨_,_,B,rfl,b0,a.own 1,a.f.1,GrT.num (LQ.hand _)⟩))
theorem E3 (a:Nat):∀ (k:Nat) {z:Int},z=(k:Nat)->∀ (A:Option Addr) (cap:Nat) (zs:List Int) (hl:zs.length<=9223372036854775807) (hz:oQ zs) (dp:Nat),dp=k->dp<=1000->∀ (at_:Nat),at_<=zs.length->∀ (w:World) (h:Hp),G w h->Own w a 69 [.slice A zs.length cap,nV at_]->h[a]?=some bc->Si A zs h->Calls Tryz.prog 19 #[pB a,iV z,.bool false] w (eP a w h (fun v w' h'=>∃ (r:RTm) (t:Tm) (at2:Nat),v=bJ r/\at2<=zs.length/\Own w' a 69 [.slice A zs.length cap,nV at2]/\RmH (dp+1) h' r t/\GrT (dp+1) t))
  | 0,z,e,A,cap,zs,hl,hz,dp,ed,hd,at_,ha,w,h,g,ho,hj,hA=>by
    subst ed e;exact wK a A cap zs hl hz 0 hd (fun z h1 b=>by omega) at_ ha w h g ho hj hA
  | k+1,z,e,A,cap,zs,hl,hz,dp,ed,hd,at_,ha,w,h,g,ho,hj,hA=>by
    subst ed e;exact wK a A cap zs hl hz (k+1) hd (fun z h1 b=>E3 a k (z:=z) oM A cap zs hl hz k rfl oM) at_ ha w h g ho hj hA
theorem C3 (z:Int)(h0 : -9223372036854775808<=z)(h1:z<=9223372036854775807)(w:World)(h:Hp)(g:G w h):CR 17 #[iV z] w h (fun v h1=>∃ r,v=bJ r/\RmH 1 h1 r (.mk 1 0 ((z:Int):Rat) ⟨#[]⟩ [])):=by
 have a:=sS g;refine go Tryz.func17 [(0,iV z)] rfl (ax (lA 2 31 (bD ⟨0,0,false,none,0,0,none,0,0,⟨#[]⟩,none,0,0⟩) a (fun y w2 x a=>aG (lL a ac (lC 4 a (pp z h0 oM _ _ a.g) ?_)))));rintro _ _ _ a ⟨u,l,o,p,rfl,j,za,i,zb⟩;replace a:=a.aP i zb;refine lC 5 a (H9 (d:=0) (af ((z:Int):Rat).num) u ((lim (ab ((z:Int):Rat).num)).length) l o ((lim ((z:Int):Rat).den).length) p _ _ a.g ⟨true,⟨_,_,_,_,rfl,j,za,a.f.2.1,a.f.1⟩,fun e=>(by cases e)⟩) ?_;rintro _ _ _ a ⟨b,rfl,c⟩;replace a:=(a.add (K:=fun e=>RmH 1 e b (.mk 1 0 ((z:Int):Rat) ⟨#[]⟩ [])) c);exact lP 0 0 (bD b) a (fun _ a=>ae a [(0,0,7)] (bJ b) (⟨b,rfl,a.f.1⟩))
theorem CB (z:Int)(h0 : -9223372036854775808<=z)(h1:z<=9223372036854775807)(w:World)(h:Hp)(g:G w h):CR 17 #[iV z] w h (fun v h1=>∃ r,v=bJ r/\RmH 1 h1 r (.mk 1 0 ((z:Int):Rat) ⟨#[]⟩ [])):=C3 z h0 h1 w h g
theorem KP {d:Nat}:SmT1 gm (d+1) (.mk 1 0 ((1:Int):Rat) ⟨#[]⟩ []):=⟨by show 0<=3;decide,by show (-1000:Int)<=1/\(1:Int)<=1000;decide,by show (-1000:Int)<=0/\(0:Int)<=1000;decide,LQ.int kD kD,Ew,fun i hi=>absurd hi (N8 i)⟩
theorem xQ  (d:Nat)(ih:∀ (r:RTm) (t:Tm) (way at_ by_:Int) (w:World) (h:Hp),G w h->RmH d h r t->WfT1 EX d t->Calls Tryz.prog 4 #[bJ r,iV way,iV at_,iV by_] w (Ret w h (fun v h1=>∃ L V,v=bJ L/\SpO d h1 L V)))(op n:Int)(y:Bool)(B:Option Addr)(u x:Nat)(C:Option Addr)(D z:Nat)(q:Rat)(s:ByteArray)(A:Option Addr)(c:Nat)(e:List RTm)(ks:List Tm)(S:e.length<=c)(way at_ by_:Int)(hl2:ks.length<=2)(br:fv op=(ks.length:Nat))(hn1 : -12<=n)(hn2:n<=12)(hq:LQ 1 q)(I:gm s)(M:∀ i,i<ks.length->WfT1 EX d (ks.getD i cV))(w:World)(h:Hp)(g:G w h)(hZ:RZ h (y,.slice B u x,.slice C D z) q)(hK:SlO 7 bD bT h A e)(hKs:Rms d h e ks):CR 4 #[bJ ⟨op,n,y,B,u,x,C,D,z,s,A,e.length,c⟩,iV way,iV at_,iV by_] w h (fun v h1=>∃ L V,v=bJ L/\SpO (d+1) h1 L V):=by
 have a:=((((sS g).add (K:=fun j=>RZ j (y,qS B u x,qS C D z) q) hZ).aS hK).add (K:=fun j=>Rms d j e ks) hKs);have hln:=(a.f.1).len;have hac:=aE op;have bl:([]:List RTm).length=0:=rfl;have bb:(([]:List RTm)++e).length=e.length:=rfl;refine go Tryz.func4 [(0,bJ ⟨op,n,y,B,u,x,C,D,z,s,A,e.length,c⟩),(1,iV way),(2,iV at_),(3,iV by_)] rfl (ax (lA 4 31 (bD ⟨op,n,y,B,u,x,C,D,z,s,A,e.length,c⟩) a (fun H w2 h3 a=>lA 8 31 (bD ⟨0,0,false,none,0,0,none,0,0,⟨#[]⟩,none,0,0⟩) a (fun b4 w5 h6 a=>aG (lL a ac (ar 12 a (eL (at_) 4 oM oM _ _ a.g) (fun w8 h9 a=>?_)))))));have lp7:=cO (at_) 4 oM;refine lL a ac (ah (CG.join (fun Γ w_=>∃ (zp:Bool) (j:Hp),Γ=[(1,iV way),(2,nV (aU (at_) 4)),(3,iV by_),(4,pB H),(8,pB b4),(20,.bool zp)]/\SS w h w_ j [⟨b4,31,bD ⟨0,0,false,none,0,0,none,0,0,⟨#[]⟩,none,0,0⟩⟩,⟨H,31,bD ⟨op,n,y,B,u,x,C,D,z,s,A,e.length,c⟩⟩] [] [fun j=>Rms d j e ks,fun j=>SlO 7 bD bT j A e,fun j=>RZ j (y,qS B u x,qS C D z) q]/\(zp=true->¬(aU at_ 4=0\/e.length=0))/\(zp=false->(aU at_ 4=0\/e.length=0))) ?_ ?_))
 .
  refine kQ (lL a ac ?_);cases zd:(decide ((0:Int)<((aU (at_) 4:Nat):Int)))
  .
   have zD:=oF zd;refine lB 14 zd (lL a ac (lG 16 ?_));refine lG 17 (lG 18 (lG 19 (lL a [.v qF] (lD ?_))));intro J F;exact ⟨_,⟨false,h9,rfl,a.to _ _,(fun j=>absurd j kD),(fun _=>by omega)⟩,F.to _ kR⟩
  have zD:=oT zd;refine lB 14 zd (lL a [.c,.v (qP H 6),.o (qS A e.length c) 1 6 1,.v (nV e.length)] ?_);cases ze:(decide ((0:Int)<(e.length:Int)))
  .
   have zE:=oF ze;refine lB 19 ze (lL a [.v qF] (lD ?_));intro J F;exact ⟨_,⟨false,h9,rfl,a.to _ _,(fun j=>absurd j kD),(fun _=>by omega)⟩,F.to _ kR⟩
  have zE:=oT ze;refine lB 19 ze (lL a [.v qT] (lD ?_));intro J F;exact ⟨_,⟨true,h9,rfl,a.to _ _,(fun _=>by omega),(fun j=>absurd j kD)⟩,F.to _ kR⟩
 rintro _ _ ⟨zp,_,rfl,a,zR,bt⟩;cases zf:(zp)
 .
  try rw[zf] at a
  try rw[zf]
  refine dr (cK (CG.join (fun Γ w_=>∃ (L:RTm) (V:Tm) (j:Hp),Γ=[(4,pB H),(8,pB b4)]/\SS w h w_ j [⟨b4,31,bD ⟨0,0,false,none,0,0,none,0,0,⟨#[]⟩,none,0,0⟩⟩,⟨H,31,bD L⟩] [] [fun j=>SpO (d+1) j L V,fun j=>Rms d j e ks,fun j=>SlO 7 bD bT j A e,fun j=>RZ j (y,qS B u x,qS C D z) q]) ?_ ?_))
  .
   refine aa a ac (ar 48 a (eL (way) 9 oM oM _ _ a.g) (fun _ zP a=>?_));have bn:=cO (way) 9 oM;refine aY (ax ?_);cases zg:(((aU (way) 9:Nat):Int) == (0:Int))
   .
    have zG:=aj zg;refine lB 50 zg (lL a ac (ag (ax ?_)));cases zi:(((aU (way) 9:Nat):Int) == (1:Int))
    .
     have zH:=aj zi;refine lB 56 zi (lL a ac (ag (ax ?_)));cases zj:(((aU (way) 9:Nat):Int) == (2:Int))
     .
      have zI:=aj zj;refine lB 62 zj (lL a ac (ag (ax ?_)));cases zk:(((aU (way) 9:Nat):Int) == (3:Int))
      .
       have zJ:=aj zk;refine lB 69 zk (lL a ac (ag (ax ?_)));cases zl:(((aU (way) 9:Nat):Int) == (4:Int))
       .
        have zK:=aj zl;refine lB 75 zl (lL a ac (ag (ax ?_)));cases zm:(((aU (way) 9:Nat):Int) == (5:Int))
        .
         have zL:=aj zm;refine lB 85 zm (lL a ac (ag (ax ?_)));cases zo:(((aU (way) 9:Nat):Int) == (6:Int))
         .
          have zM:=aj zo;refine lB 88 zo (lL a ac (ag (CG.skip ?_)));intro J F;replace a:=(a.add (K:=fun j=>SpO (d+1) j (⟨op,n,y,B,u,x,C,D,z,s,A,e.length,c⟩:RTm) (.mk (op) (n) q (s) ks)) ⟨(RmH.mk a.f.r.1 a.f.1 S a.f.2.1).mono oM,iq oM (by omega:(-1000:Int)<=op/\(op:Int)<=1000) (by omega:(-1000:Int)<=n/\(n:Int)<=1000) hq I (fun i hi=>(fx (M i hi)).mono oM)⟩);exact ⟨_,⟨(⟨op,n,y,B,u,x,C,D,z,s,A,e.length,c⟩:RTm),(.mk (op) (n) q (s) ks),zP,rfl,a.to _ _⟩,F.to _ kR⟩
         have zM:=eq_of_beq zo;refine lB 88 zo (lL a ac (ak (kQ (lL a [.o (bJ ⟨op,n,y,B,u,x,C,D,z,s,A,e.length,c⟩) 1 0 7] (lC 90 a (uB (d:=d+1) ⟨op,n,y,B,u,x,C,D,z,s,A,e.length,c⟩ (.mk op n q s ks) (12) _ _ a.g (RmH.mk a.f.r.1 a.f.1 S a.f.2.1)) ?_)))));rintro _ _ _ a ⟨Z,rfl,U⟩;replace a:=(a.add (K:=fun j=>RmH (d+2) j Z (.mk 8 (12) 0 ⟨#[]⟩ [(.mk op n q s ks)])) U);refine lL a ac (ar 92 a (eL (by_) 20 oM oM _ _ a.g) (fun _ _ a=>?_));have bx:=cO (by_) 20 oM;refine lI 93 ((aU (by_) 20:Nat)-10) (lC 94 a (uB (d:=d+2) Z (.mk 8 (12) 0 ⟨#[]⟩ [(.mk op n q s ks)]) ((aU (by_) 20:Nat)-10) _ _ a.g a.f.1) ?_);rintro _ _ _ a ⟨r38,rfl,W⟩;replace a:=(a.add (K:=fun j=>RmH (d+3) j r38 (.mk 8 ((aU (by_) 20:Nat)-10) 0 ⟨#[]⟩ [(.mk 8 (12) 0 ⟨#[]⟩ [(.mk op n q s ks)])])) W);refine lC 95 a (uB (d:=d+3) r38 (.mk 8 ((aU (by_) 20:Nat)-10) 0 ⟨#[]⟩ [(.mk 8 (12) 0 ⟨#[]⟩ [(.mk op n q s ks)])]) (9) _ _ a.g a.f.1) ?_;rintro _ _ yf a ⟨Q,rfl,X⟩;replace a:=(a.add (K:=fun j=>RmH (d+4) j Q (.mk 8 (9) 0 ⟨#[]⟩ [(.mk 8 ((aU (by_) 20:Nat)-10) 0 ⟨#[]⟩ [(.mk 8 (12) 0 ⟨#[]⟩ [(.mk op n q s ks)])])])) X);refine lP 1 0 (bD Q) a (fun _ a=>lD ?_);intro J F;replace a:=(a.tl.tl.tl.add (K:=fun j=>SpO (d+1) j Q (.mk 8 (9) 0 ⟨#[]⟩ [(.mk 8 ((aU (by_) 20:Nat)-10) 0 ⟨#[]⟩ [(.mk 8 (12) 0 ⟨#[]⟩ [(.mk op n q s ks)])])])) ⟨a.f.1,sI oM (sI oM (sI oM ((iq oM (by omega:(-1000:Int)<=op/\(op:Int)<=1000) (by omega:(-1000:Int)<=n/\(n:Int)<=1000) hq I (fun i hi=>(fx (M i hi)).mono oM)))))⟩);exact ⟨_,⟨Q,(.mk 8 (9) 0 ⟨#[]⟩ [(.mk 8 ((aU (by_) 20:Nat)-10) 0 ⟨#[]⟩ [(.mk 8 (12) 0 ⟨#[]⟩ [(.mk op n q s ks)])])]),yf,rfl,a.to _ _⟩,F.to _ kR⟩
        have zL:=eq_of_beq zm;refine lB 85 zm (lL a ac (ak (kQ (lL a [.v (qP H 6)] (lP 1 6 ([sZ]) a (fun _ a=>lD ?_))))));intro J F;replace a:=(a.add (K:=fun j=>SpO (d+1) j (⟨op,n,y,B,u,x,C,D,z,s,none,0,0⟩:RTm) (.mk op n q s [])) ⟨RmH.mk (ps:=[]) a.f.r.1 Rms.nil (nR _) SlO.nil,iq (by show 0<=3;decide) (by omega:(-1000:Int)<=op/\(op:Int)<=1000) (by omega:(-1000:Int)<=n/\(n:Int)<=1000) hq I (fun i hi=>absurd hi (N8 i))⟩);exact ⟨_,⟨(⟨op,n,y,B,u,x,C,D,z,s,none,0,0⟩:RTm),(.mk op n q s []),zP,rfl,a.to _ _⟩,F.to _ kR⟩
       have zK:=eq_of_beq zl;refine lB 75 zl (lL a ac (ak (kQ (HW 76 31 7 bD ([]:List RTm) a (fun yg _ _ a=>lL a [.v (qP H 6),.o (qS A e.length c) 1 6 1] (K2 79 0 31 7 ((([]:List RTm)).length) (sB yg) ([]:List RTm) bD bT A e e.length c 112 (bJ ⟨0,0,false,none,0,0,none,0,0,⟨#[]⟩,none,0,0⟩) a a.f.2.1 (fun yi yj _ _ a=>lC 80 a (CB 1 kD kD _ _ a.g) ?_)))))));rintro _ _ _ a ⟨p,rfl,hrw⟩;replace a:=(a.add (K:=fun j=>RmH 1 j p (.mk 1 0 (((1:Int)):Rat) ⟨#[]⟩ [])) hrw);refine lR 81 31 1 ([iV p.op,iV p.n,.bool p.neg,qS p.zA p.zn p.zc,qS p.dA p.dn p.dc,.string p.s,qS p.A p.m p.c]) a (fun zQ _ _ a=>?_);replace a:=a.aS (SlO.of_flat (sz:=7) (f:=bD) (d:=bT) (b:=zQ) (o:=0) (l:=([p]:List RTm)) (fun _=>rfl) a.f.1);refine lY 82 0 31 7 yj yi (([]:List RTm)++e) bD p 112 zQ (bJ ⟨0,0,false,none,0,0,none,0,0,⟨#[]⟩,none,0,0⟩) a a.f.2.1 (fun zs zt _ _ a=>lL a [.v (qP H 6)] (lP 1 6 ([qS zs ((([]:List RTm)++e++[p]).length) zt]) a (fun _ a=>lD ?_)));obtain ⟨yk,a,zS⟩:=a.pubr 0 (A:=zs) (c:=zt) (l:=([]:List RTm)++e++[p]) (f:=bD) (ty:=31) (sz:=7) bT (fun _=>rfl);intro J F;replace a:=(a.tl.tl.tl.tl.add (K:=fun j=>SpO (d+1) j (⟨op,n,y,B,u,x,C,D,z,s,zs,(([]:List RTm)++e++[p]).length,zt⟩:RTm) (.mk op n q s (ks++[.mk 1 0 (((1:Int)):Rat) ⟨#[]⟩ []]))) ⟨(RmH.mk a.f.q.r.1 (((a.f.q.1).mono (show d<=d+3 by omega)).snoc ((a.f.r.2.1).mono oM)) zS a.f.1),iq (by rw[zY,List.length_singleton];omega) (by omega:(-1000:Int)<=op/\(op:Int)<=1000) (by omega:(-1000:Int)<=n/\(n:Int)<=1000) hq I (fun i hi=>rW (SmT1 gm (d+3)) (fun i hi=>(fx (M i hi)).mono oM) KP hi)⟩);exact ⟨_,⟨(⟨op,n,y,B,u,x,C,D,z,s,zs,(([]:List RTm)++e++[p]).length,zt⟩:RTm),(.mk op n q s (ks++[.mk 1 0 (((1:Int)):Rat) ⟨#[]⟩ []])),yk,rfl,a.to _ _⟩,F.to _ kR⟩
      have zJ:=eq_of_beq zk;refine lB 69 zk (lL a ac (ak (kQ (lL a ac (ar 71 a (eL (by_) 3 oM oM _ _ a.g) (fun _ _ a=>?_))))));have bz:=cO (by_) 3 oM;refine lC 72 a (pp (aU (by_) 3:Nat) oM oM _ _ a.g) ?_;rintro _ _ yl a ⟨zu,zv,zw,zx,rfl,zU,zW,zX,ya⟩;replace a:=a.aP zX ya;refine lL a [.v (qP H 2)] (lP 1 2 (gY (((aU (by_) 3:Nat):Int):Rat) zu zv zw zx) a (fun _ a=>lD ?_));intro J F;replace a:=(a.tl.tl.add (K:=fun j=>SpO (d+1) j (⟨op,n,af (((aU (by_) 3:Nat):Int):Rat).num,zu,(lim (ab (((aU (by_) 3:Nat):Int):Rat).num)).length,zv,zw,(lim (((aU (by_) 3:Nat):Int):Rat).den).length,zx,s,A,e.length,c⟩:RTm) (.mk (op) (n) ((((aU (by_) 3:Nat):Int):Rat)) (s) ks)) ⟨(RmH.mk ⟨true,⟨_,_,_,_,rfl,zU,zW,a.f.2.1,a.f.1⟩,fun j=>(by cases j)⟩ a.f.r.1 S a.f.r.2.1).mono oM,iq oM (by omega:(-1000:Int)<=op/\(op:Int)<=1000) (by omega:(-1000:Int)<=n/\(n:Int)<=1000) (LQ.int oM oM) I (fun i hi=>(fx (M i hi)).mono oM)⟩);exact ⟨_,⟨(⟨op,n,af (((aU (by_) 3:Nat):Int):Rat).num,zu,(lim (ab (((aU (by_) 3:Nat):Int):Rat).num)).length,zv,zw,(lim (((aU (by_) 3:Nat):Int):Rat).den).length,zx,s,A,e.length,c⟩:RTm),(.mk (op) (n) ((((aU (by_) 3:Nat):Int):Rat)) (s) ks),yl,rfl,a.to _ _⟩,F.to _ kR⟩
     have zI:=eq_of_beq zj;refine lB 62 zj (lL a ac (ak (kQ (lL a [.v (.agg #[eS,.string (⟨#[109,97,120]⟩),.string (⟨#[120,95,49]⟩),.string (⟨#[49,120]⟩)]),.c] ?_))))
     rcases H7 by_ with hq0|hq1|hq2|hq3
     .
      refine ar 65 a ((by have O:=eL by_ 4 oM oM _ _ a.g;rw[hq0] at O;exact O)) (fun _ ym a=>lL a [.v (eS),.v (qP H 5)] (lP 1 5 ([eS]) a (fun _ a=>lD ?_)));intro J F;replace a:=(a.add (K:=fun j=>SpO (d+1) j (⟨op,n,y,B,u,x,C,D,z,⟨#[]⟩,A,e.length,c⟩:RTm) (.mk (op) (n) q (⟨#[]⟩) ks)) ⟨(RmH.mk a.f.r.1 a.f.1 S a.f.2.1).mono oM,iq oM (by omega:(-1000:Int)<=op/\(op:Int)<=1000) (by omega:(-1000:Int)<=n/\(n:Int)<=1000) hq (by unfold gm;decide) (fun i hi=>(fx (M i hi)).mono oM)⟩);exact ⟨_,⟨(⟨op,n,y,B,u,x,C,D,z,⟨#[]⟩,A,e.length,c⟩:RTm),(.mk (op) (n) q (⟨#[]⟩) ks),ym,rfl,a.to _ _⟩,F.to _ kR⟩
     .
      refine ar 65 a ((by have O:=eL by_ 4 oM oM _ _ a.g;rw[hq1] at O;exact O)) (fun _ yn a=>lL a [.v (.string (⟨#[109,97,120]⟩)),.v (qP H 5)] (lP 1 5 ([.string (⟨#[109,97,120]⟩)]) a (fun _ a=>lD ?_)));intro J F;replace a:=(a.add (K:=fun j=>SpO (d+1) j (⟨op,n,y,B,u,x,C,D,z,⟨#[109,97,120]⟩,A,e.length,c⟩:RTm) (.mk (op) (n) q (⟨#[109,97,120]⟩) ks)) ⟨(RmH.mk a.f.r.1 a.f.1 S a.f.2.1).mono oM,iq oM (by omega:(-1000:Int)<=op/\(op:Int)<=1000) (by omega:(-1000:Int)<=n/\(n:Int)<=1000) hq (by unfold gm;decide) (fun i hi=>(fx (M i hi)).mono oM)⟩);exact ⟨_,⟨(⟨op,n,y,B,u,x,C,D,z,⟨#[109,97,120]⟩,A,e.length,c⟩:RTm),(.mk (op) (n) q (⟨#[109,97,120]⟩) ks),yn,rfl,a.to _ _⟩,F.to _ kR⟩
     .
      refine ar 65 a ((by have O:=eL by_ 4 oM oM _ _ a.g;rw[hq2] at O;exact O)) (fun _ yo a=>lL a [.v (.string (⟨#[120,95,49]⟩)),.v (qP H 5)] (lP 1 5 ([.string (⟨#[120,95,49]⟩)]) a (fun _ a=>lD ?_)));intro J F;replace a:=(a.add (K:=fun j=>SpO (d+1) j (⟨op,n,y,B,u,x,C,D,z,⟨#[120,95,49]⟩,A,e.length,c⟩:RTm) (.mk (op) (n) q (⟨#[120,95,49]⟩) ks)) ⟨(RmH.mk a.f.r.1 a.f.1 S a.f.2.1).mono oM,iq oM (by omega:(-1000:Int)<=op/\(op:Int)<=1000) (by omega:(-1000:Int)<=n/\(n:Int)<=1000) hq (by unfold gm;decide) (fun i hi=>(fx (M i hi)).mono oM)⟩);exact ⟨_,⟨(⟨op,n,y,B,u,x,C,D,z,⟨#[120,95,49]⟩,A,e.length,c⟩:RTm),(.mk (op) (n) q (⟨#[120,95,49]⟩) ks),yo,rfl,a.to _ _⟩,F.to _ kR⟩
     refine ar 65 a ((by have O:=eL by_ 4 oM oM _ _ a.g;rw[hq3] at O;exact O)) (fun _ yb a=>lL a [.v (.string (⟨#[49,120]⟩)),.v (qP H 5)] (lP 1 5 ([.string (⟨#[49,120]⟩)]) a (fun _ a=>lD ?_)));intro J F;replace a:=(a.add (K:=fun j=>SpO (d+1) j (⟨op,n,y,B,u,x,C,D,z,⟨#[49,120]⟩,A,e.length,c⟩:RTm) (.mk (op) (n) q (⟨#[49,120]⟩) ks)) ⟨(RmH.mk a.f.r.1 a.f.1 S a.f.2.1).mono oM,iq oM (by omega:(-1000:Int)<=op/\(op:Int)<=1000) (by omega:(-1000:Int)<=n/\(n:Int)<=1000) hq (by unfold gm;decide) (fun i hi=>(fx (M i hi)).mono oM)⟩);exact ⟨_,⟨(⟨op,n,y,B,u,x,C,D,z,⟨#[49,120]⟩,A,e.length,c⟩:RTm),(.mk (op) (n) q (⟨#[49,120]⟩) ks),yb,rfl,a.to _ _⟩,F.to _ kR⟩
    have zH:=eq_of_beq zi;refine lB 56 zi (lL a ac (ak (kQ (lL a ac (ar 58 a (eL (by_) 30 oM oM _ _ a.g) (fun _ yc a=>?_))))));have bf:=cO (by_) 30 oM;refine lI 59 ((aU (by_) 30:Nat)-15) (lL a [.v (qP H 1)] (lP 1 1 ([iV ((aU (by_) 30:Nat)-15)]) a (fun _ a=>lD ?_)));intro J F;replace a:=(a.add (K:=fun j=>SpO (d+1) j (⟨op,(aU (by_) 30:Nat)-15,y,B,u,x,C,D,z,s,A,e.length,c⟩:RTm) (.mk (op) ((aU (by_) 30:Nat)-15) q (s) ks)) ⟨(RmH.mk a.f.r.1 a.f.1 S a.f.2.1).mono oM,iq oM (by omega:(-1000:Int)<=op/\(op:Int)<=1000) (by omega:(-1000:Int)<=(aU (by_) 30:Nat)-15/\((aU (by_) 30:Nat)-15:Int)<=1000) hq I (fun i hi=>(fx (M i hi)).mono oM)⟩);exact ⟨_,⟨(⟨op,(aU (by_) 30:Nat)-15,y,B,u,x,C,D,z,s,A,e.length,c⟩:RTm),(.mk (op) ((aU (by_) 30:Nat)-15) q (s) ks),yc,rfl,a.to _ _⟩,F.to _ kR⟩
   have zG:=eq_of_beq zg;refine lB 50 zg (lL a ac (ak (kQ (lL a ac (ar 52 a (eL (by_) 16 oM oM _ _ a.g) (fun _ yd a=>?_))))));have bd:=cO (by_) 16 oM;refine lI 53 ((aU (by_) 16:Nat)-1) (lL a [.v (pB H)] (lP 1 0 ([iV ((aU (by_) 16:Nat)-1)]) a (fun _ a=>lD ?_)));intro J F;replace a:=(a.add (K:=fun j=>SpO (d+1) j (⟨(aU (by_) 16:Nat)-1,n,y,B,u,x,C,D,z,s,A,e.length,c⟩:RTm) (.mk ((aU (by_) 16:Nat)-1) (n) q (s) ks)) ⟨(RmH.mk a.f.r.1 a.f.1 S a.f.2.1).mono oM,iq oM (by omega:(-1000:Int)<=(aU (by_) 16:Nat)-1/\((aU (by_) 16:Nat)-1:Int)<=1000) (by omega:(-1000:Int)<=n/\(n:Int)<=1000) hq I (fun i hi=>(fx (M i hi)).mono oM)⟩);exact ⟨_,⟨(⟨(aU (by_) 16:Nat)-1,n,y,B,u,x,C,D,z,s,A,e.length,c⟩:RTm),(.mk ((aU (by_) 16:Nat)-1) (n) q (s) ks),yd,rfl,a.to _ _⟩,F.to _ kR⟩
  rintro _ _ ⟨L,V,_,rfl,a⟩;exact aa a [.o (bJ L) 1 0 7] (lP 0 0 (bD L) a (fun _ a=>ae a [(0,0,7)] (bJ L) (⟨L,V,rfl,a.f.1⟩)))
 try rw[zf] at a
 try rw[zf]
 refine co (ax ?_);have bk:=zR aM;refine lL a [.c,.v (qP H 6),.o (qS A e.length c) 1 6 1,.v (nV e.length)] (ar 25 a (eL (by_) e.length oM oM _ _ a.g) (fun _ _ a=>?_));have bm:=cO (by_) e.length oM;refine lL a ac (aG (lL a [.o (bJ ⟨op,n,y,B,u,x,C,D,z,s,A,e.length,c⟩) 1 0 7] (lA 10 31 (bD ⟨0,0,false,none,0,0,none,0,0,⟨#[]⟩,none,0,0⟩) a (fun zq _ _ a=>lP 0 0 (bD ⟨op,n,y,B,u,x,C,D,z,s,A,e.length,c⟩) a (fun _ a=>aG (HW 27 31 7 bD ([]:List RTm) a (fun ye _ _ a=>lL a [.v (qP H 6),.o (qS A e.length c) 2 6 1] (K2 30 0 31 7 ((([]:List RTm)).length) (sB ye) ([]:List RTm) bD bT A e e.length c 112 (bJ ⟨0,0,false,none,0,0,none,0,0,⟨#[]⟩,none,0,0⟩) a a.f.2.1 (fun zr za _ _ a=>lL a [.v (qP zq 6)] (lP 0 6 ([qS zr ((([]:List RTm)++e).length) za]) a (fun _ a=>ah (cR 13 [] mixed a ao ?_))))))))))));refine eV 0 32 (qP zq 6) (eO 1 33 [(0,6,1)] (qS zr ((([]:List RTm)++e).length) za) a (eV 2 34 (nV (aU (by_) e.length)) (eV 3 35 (qP H 6) (eO 4 36 [(2,6,1)] (qS A e.length c) a (eV 5 37 (nV (aU (by_) e.length)) (eX 6 38 A e.length c 7 (aU (by_) e.length:Nat) (aU (by_) e.length) ((a.f.2.1).ok oM) (eH 7 39 (bJ (e.getD (aU (by_) e.length) bT)) a ((a.f.2.1).el (aU (by_) e.length) oM) (eV 8 40 (iV way) (eV 9 41 (nV (aU (at_) 4)) (eI 10 42 ((aU (at_) 4:Nat)-1) (eV 11 43 (iV by_) (eC 12 44 a (fun _ _ a=>ih (e.getD (aU by_ e.length) bT) (ks.getD (aU by_ e.length) cV) way ((aU (at_) 4:Nat)-1) by_ _ _ a.g ((a.f.1).at_ (aU by_ e.length) oM) (M (aU by_ e.length) oM)) ?_))))))))))));rintro _ _ _ _ _ a ⟨Y,tk,rfl,hrk⟩;replace a:=(a.add (K:=fun j=>SpO d j Y tk) hrk);refine bP a (fun _ _ a=>?_);obtain ⟨zb,zB⟩:=a.rowA 0 (A:=zr) (c:=za) (m:=(([]:List RTm)++e).length) (ty:=31) (sz:=7) (cs:=(([]:List RTm)++e).flatMap bD) oM;subst zB;refine tX 13 45 (sB zb) ((([]:List RTm)++e).length) za 7 (aU (by_) e.length:Nat) (aU (by_) e.length) rfl (K8 14 (ty:=31) (c:=za) (b:=zb) 0 (aU (by_) e.length) 0 (bD Y) (([]:List RTm)++e) bD 7 bT Y a oM (fun _ a=>?_));replace a:=a.to [⟨zq,31,[iV op,iV n,.bool y,qS B u x,qS C D z,.string s,qS (sB zb) ((([]:List RTm)++e).length) za]⟩,⟨b4,31,bD ⟨0,0,false,none,0,0,none,0,0,⟨#[]⟩,none,0,0⟩⟩,⟨H,31,bD ⟨op,n,y,B,u,x,C,D,z,s,A,e.length,c⟩⟩] [⟨31,7,sB zb,za,(([]:List RTm)++e).length,((([]:List RTm)++e).set (aU (by_) e.length) Y).flatMap bD⟩];refine rD ?_;replace a:=a.rown [⟨31,7,sB zb,za,((([]:List RTm)++e).set (aU (by_) e.length) Y).length,((([]:List RTm)++e).set (aU (by_) e.length) Y).flatMap bD⟩] (by simp only[LB]);obtain ⟨_,a,zN⟩:=a.pubr 0 (A:=sB zb) (c:=za) (l:=(([]:List RTm)++e).set (aU (by_) e.length) Y) (f:=bD) (ty:=31) (sz:=7) bT (fun _=>rfl);exact lL a [.o (bJ ⟨op,n,y,B,u,x,C,D,z,s,sB zb,(([]:List RTm)++e).length,za⟩) 0 0 7] (lP 1 0 (bD ⟨op,n,y,B,u,x,C,D,z,s,sB zb,(([]:List RTm)++e).length,za⟩) a (fun _ a=>ae a [(1,0,7)] (bJ ⟨op,n,y,B,u,x,C,D,z,s,sB zb,(([]:List RTm)++e).length,za⟩) (⟨(⟨op,n,y,B,u,x,C,D,z,s,sB zb,(([]:List RTm)++e).length,za⟩:RTm),(.mk op n q s (ks.set (aU by_ e.length) tk)),rfl,(by have j:=RmH.mk (op:=op) (n:=n) (s:=s) a.f.q.1 (((a.f.r.1).mono (show d<=d+3 by omega)).set (aU by_ e.length) (a.f.2.1).1) zN (a.f.1);rw[LB] at j;exact j),iq (by rw[LB];omega) oM oM hq I (fun i hi=>vS (SmT1 gm (d+3)) (fun i hi=>(fx (M i hi)).mono oM) (a.f.2.1).2 hi)⟩)))
theorem qR:∀ (d:Nat) (r:RTm) (t:Tm) (way at_ by_:Int) (w:World) (h:Hp),G w h->RmH d h r t->WfT1 EX d t->Calls Tryz.prog 4 #[bJ r,iV way,iV at_,iV by_] w (Ret w h (fun v h1=>∃ r1 t1,v=bJ r1/\SpO d h1 r1 t1))
  | 0,_,_,_,_,_,_,_,_,x,_=>x.elim
  | d+1,r,t,way,at_,by_,w,h,g,x,wf=>by
    obtain ⟨op,n,b,zA,zn,zc,dA,dn,dc,q,s,A,c,rs,ks,rfl,rfl,hZ,hc,hK,hKs⟩:=x.open;have e:ks.length<=2:=wf.two;have a:gm s:=(fx wf).2.2.2.2.1;obtain ⟨w1,w2,w3,p,o,l,i,j,f⟩:=wf;exact xQ d (fun r t way at_ by_ w h=>qR d r t way at_ by_ w h) op n b zA zn zc dA dn dc q s A c rs ks hc way at_ by_ e w1 i j w3 a f w h g hZ hK hKs
theorem HJ {h:Hp}{b:Bool}{j c:Option Addr}{d i a f:Nat}{q:Rat}(x:RZ h (b,.slice j d i,.slice c a f) q)(e:a=0):q=0:=by subst e;exact Ji x
theorem Ai  (sm:ByteArray->Prop)(d:Nat)(ih:∀ (r:RTm) (t:Tm) (w:World) (h:Hp),G w h->RmH d h r t->nz sm d t->Tab h->Calls Tryz.prog 9 #[bJ r] w (Ret w h (fun v h1=>∃ p,v=bS p/\TmH d h1 p t)))(op n:Int)(I:Bool)(J:Option Addr)(F H:Nat)(D:Option Addr)(z C:Nat)(q:Rat)(s:ByteArray)(A:Option Addr)(c:Nat)(y:List RTm)(ks:List Tm)(hc:y.length<=c)(hk3:ks.length<=3)(hop : -1000<=op/\op<=1000)(hn : -1000<=n/\n<=1000)(hq:LQ 3000 q)(hsm:sm s)(hW:∀ i,i<ks.length->nz sm d (ks.getD i cV))(w:World)(h:Hp)(g:G w h)(hZ:RZ h (I,.slice J F H,.slice D z C) q)(hK:SlO 7 bD bT h A y)(U:Rms d h y ks)(tb:Tab h):CR 9 #[bJ ⟨op,n,I,J,F,H,D,z,C,s,A,y.length,c⟩] w h (fun v h1=>∃ p,v=bS p/\TmH (d+1) h1 p (.mk op n q s ks)):=by
 have a:=(((((sS g).add (K:=fun e=>RZ e (I,qS J F H,qS D z C) q) hZ).aS hK).add (K:=fun e=>Rms d e y ks) U).aB tb);have hln:=(a.f.2.1).len;refine go Tryz.func9 [(0,bJ ⟨op,n,I,J,F,H,D,z,C,s,A,y.length,c⟩)] rfl (ax (lA 1 31 (bD ⟨op,n,I,J,F,H,D,z,C,s,A,y.length,c⟩) a (fun B w2 h3 a=>lA 2 53 ca a (fun S w5 h6 a=>aG (lL a [.v (pB B),.o (iV op) 1 0 1,.v (qP B 1),.o (iV n) 1 1 1,.v (qP B 5),.o (.string s) 1 5 1,.v (.agg #[iV op,iV n,qF,uV 0,eS,uV 0,eS,.string s,sZ])] (lA 3 53 ca a (fun M w8 h9 a=>lP 0 0 ([iV op,iV n,qF,uV 0,eS,uV 0,eS,.string s,sZ]) a (fun _ a=>?_))))))));refine lN (CG.join (fun Γ w_=>∃ (L:Rat) (e:Hp),Γ=[(1,pB B),(2,pB S),(3,pB M)]/\SS w h w_ e [⟨M,53,cY ⟨op,n,L,s,none,0,0⟩⟩,⟨S,53,[iV 0,iV 0,qF,uV 0,eS,uV 0,eS,eS,sZ]⟩,⟨B,31,bD ⟨op,n,I,J,F,H,D,z,C,s,A,y.length,c⟩⟩] [] [fun e=>Tab e,fun e=>Rms d e y ks,fun e=>SlO 7 bD bT e A y,fun e=>RZ e (I,qS J F H,qS D z C) q]/\L=q) ?_ ?_)
 .
  refine aa a [.v (qP B 2),.v (qP B 4),.o (qS D z C) 2 4 1,.v (nV z)] ?_;cases za:(decide ((0:Int)<(z:Int)))
  .
   have zd:=oF za;refine lB 16 za (ag (CG.skip ?_));intro a_ Q;exact ⟨_,⟨0,h9,rfl,a.to _ _,((HJ a.f.r.2.1 oM).symm)⟩,Q.to _ kR⟩
  have zd:=oT za;refine lB 16 za (ak (kQ (lL a [.v (qP B 2),.o (.agg #[.bool I,qS J F H,qS D z C]) 2 2 3] (ar 19 a (II (.agg #[.bool I,qS J F H,qS D z C]) q (hq.mono oM) _ _ a.g (FF a.f.r.2.1 oM) a.f.1) (fun _ zj a=>lL a [.v (qP M 2)] (lP 0 2 (qc q) a (fun _ a=>lD ?_)))))));intro a_ Q;exact ⟨_,⟨q,zj,rfl,a.to _ _,rfl⟩,Q.to _ kR⟩
 rintro _ _ ⟨L,zk,rfl,a,Z⟩;refine cQ (aa a ac (aY ?_));replace a:=a.nil 53 9;replace a:=a.add (K:=fun e=>Tms d e ([]) (ks.take 0)) (Tms.nil);refine bH _ (CG.loop (fun V Γ w_=>∃ (k:Nat) (u:Option Addr) (j:Nat) (x:List PTm) (e:Hp),V=y.length-k/\Γ=[(1,pB B),(2,pB S),(3,pB M),(4,nV k)]/\SS w h w_ e [⟨M,53,pG op n L s u ((x).length) j⟩,⟨S,53,[iV 0,iV 0,qF,uV 0,eS,uV 0,eS,eS,sZ]⟩,⟨B,31,bD ⟨op,n,I,J,F,H,D,z,C,s,A,y.length,c⟩⟩] [⟨53,9,u,j,(x).length,(x).flatMap cY⟩] [fun e=>Tms d e x (ks.take k),fun e=>Tab e,fun e=>Rms d e y ks,fun e=>SlO 7 bD bT e A y,fun e=>RZ e (I,qS J F H,qS D z C) q]/\k<=y.length) _ ⟨0,none,0,[],zk,rfl,rfl,a.to _ _,MG _⟩ ?_);rintro _ _ _ ⟨k,u,j,x,_,bb,rfl,a,hk⟩;have Y:=(a.f.1).len;rw[LF] at Y
 refine cQ (aa a [.c,.v (qP B 6),.o (qS A y.length c) 2 6 1,.v (nV y.length)] ?_);cases zb:(decide ((k:Int)<(y.length:Int)))
 .
  have ze:=oF zb;refine lB 25 zb (ag (CG.exit ?_))
  show CG _ _ _ _ _ _ _ _
  refine ax ?_;have hkl:k=ks.length:=by omega
  obtain ⟨_,a,zi⟩:=a.pubr 0 (A:=u) (c:=j) (l:=x) (f:=cY) (ty:=53) (sz:=9) cH (fun _=>rfl);exact lL a [.o (bS ⟨op,n,L,s,u,(x).length,j⟩) 0 0 9] (lP 1 0 (cY ⟨op,n,L,s,u,(x).length,j⟩) a (fun _ a=>ae a [(1,0,9)] (bS ⟨op,n,L,s,u,(x).length,j⟩) (⟨⟨op,n,L,s,u,x.length,j⟩,rfl,by subst Z;exact TmH.mk (by have x_:=(a.f.2.1);rw[hkl,y8] at x_;exact x_) zi a.f.1⟩)))
 have ze:=oT zb;refine lB 25 zb (ak (cK (cQ (kZ (CG.region ⟨((Value.slice u ((x).length) j).ownBlock.toList),none⟩ 10 [] mixed kR a.g ao (a.ro_lt 0 (ty:=53) (sz:=9) (A:=u) (c:=j) (m:=(x).length) (cs:=(x).flatMap cY)) ?_)))));refine eV 0 28 (qP M 8) (eO 1 29 [(0,8,1)] (qS u ((x).length) j) a ?_ (hM:=fun p W=>by obtain rfl:=te.1 W;exact a.ro_ne 0 0 (ty:=53) (sz:=9) (A:=u) (c:=j) (m:=(x).length) (cs:=(x).flatMap cY)));refine eV 2 30 (qP B 6) (eO 3 31 [(2,6,1)] (qS A y.length c) a ?_ (hM:=fun p W=>by obtain rfl:=te.1 W;exact a.ro_ne 2 0 (ty:=53) (sz:=9) (A:=u) (c:=j) (m:=(x).length) (cs:=(x).flatMap cY)));refine eV 4 32 (nV k) (eX 5 33 A y.length c 7 (k:Nat) k ((a.f.r.2.1).ok oM) (eH 6 34 (bJ (y.getD k bT)) a ((a.f.r.2.1).el k oM) ?_ (hM:=a.ro_jk 0 (ty:=53) (sz:=9) (A:=u) (c:=j) (m:=(x).length) (cs:=(x).flatMap cY))));refine eC 7 35 a (fun _ _ a=>ih (y.getD k bT) (ks.getD k cV) _ _ a.g ((a.f.r.1).at_ k oM) (hW k oM) a.f.2.1) ?_;rintro _ _ _ _ _ a ⟨O,rfl,X⟩;replace a:=(a.add (K:=fun e=>TmH d e O (ks.getD k cV)) X);refine eR 8 36 53 1 (pC O) a (fun zl _ _ a=>eY 9 37 0 53 9 j u x cY O 112 zl (.agg #[iV 0,iV 0,qF,uV 0,eS,uV 0,eS,eS,sZ]) a (fun _ f_=>f_.1) (fun b hb=>Option.mem_toList.2 hb) (fun zf zg _ _ a=>bP a (fun _ zm a=>tV 10 38 (qP M 8) (tP 11 0 8 ([qS zf ((x++[O]).length) zg]) a (fun _ a=>tN (kQ (lL a ac (bh 27 ((k:Nat)+1) (k+1) ?_))))))));refine lL a ac (lD ?_);intro a_ Q;replace a:=(a.tl.tl.tl.add (K:=fun e=>Tms d e (x++[O]) (ks.take (k+1))) (by rw[lu cV oM];exact (a.f.r.1).snoc a.f.2.1));refine ⟨_,_,?_,⟨k+1,zf,zg,x++[O],zm,rfl,rfl,a.to _ _,oM⟩,Q.to _ kR⟩
 omega
theorem tK (sm:ByteArray->Prop):∀ (d:Nat) (r:RTm) (t:Tm) (w:World) (h:Hp),G w h->RmH d h r t->nz sm d t->Tab h->Calls Tryz.prog 9 #[bJ r] w (Ret w h (fun v h1=>∃ p,v=bS p/\TmH d h1 p t))
  | 0,_,_,_,_,_,x,_,_=>x.elim
  | d+1,r,t,w,h,g,x,wf,tb=>by
    obtain ⟨op,n,b,u,l,f,H,y,I,q,s,A,c,z,ks,rfl,rfl,o,D,C,a⟩:=x.open;obtain ⟨j,B,i,F,J,e⟩:=wf;exact Ai sm d (fun r t w h=>tK sm d r t w h) op n b u l f H y I q s A c z ks D j B i F J e w h g o C a tb
end Go.Proofs.YtnphimgdpdiekaaGreatDoor
