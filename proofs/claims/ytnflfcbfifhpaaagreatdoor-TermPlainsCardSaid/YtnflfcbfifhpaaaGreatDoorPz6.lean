/- Laws and contracts that the card of this claim stands on, part 7. No condition of ours. -/
import Derived.Test.YtnflfcbfifhpaaaGreatDoorPz0
import Derived.Test.YtnflfcbfifhpaaaGreatDoorPz1
import Derived.Test.YtnflfcbfifhpaaaGreatDoorPz2
import Derived.Test.YtnflfcbfifhpaaaGreatDoorPz3
import Derived.Test.YtnflfcbfifhpaaaGreatDoorPz4
import Derived.Test.YtnflfcbfifhpaaaGreatDoorPz5
set_option maxRecDepth 100000
set_option maxHeartbeats 4000000
open Bool renaming noConfusion → Mj
open Go.Value renaming bool → Mg, slice → Dx
open List renaming eq_nil_of_length_eq_zero → z1, length_append → zY, length_cons → un, length_drop → Kx, length_eq_one_iff → Mt, length_map → MI, length_nil → Mq, length_set → KP, length_take → J4, mem_singleton → pa, replicate → Am, take_length → zy
open Nat renaming add_le_add → MJ, le_mul_of_pos_left → Ls, le_refl → ey, le_succ → MK, le_trans → ez, lt_one_iff → MH, mul_le_mul_left → Ke, not_lt_zero → Mk, succ_ne_zero → Mr, succ_pos → K9, zero_add → z6, zero_le → K7
open Option renaming mem_toList → Mu
open Rat renaming num_eq_zero → Ma
namespace Go.Proofs.YtnflfcbfifhpaaaGreatDoor
open Go.RowKit
open Go.RowKit Go.Shelf
open Go.RowKit Go.WideMaps
theorem Dj (a:Nat):∀ (k:Nat) {z:Int},z=(k:Nat)→∀ (A:Option Addr) (cap:Nat) (zs:List Int) (hl:zs.length≤9223372036854775807) (hz:kM zs) (dp:Nat),dp=k→dp≤1000→∀ (at_:Nat),at_≤zs.length→∀ (w:World) (h:Hp),G w h→Own w a 68 [.slice A zs.length cap,nV at_]→h[a]?=some junk→Si A zs h→Calls Tryz.prog 19 #[pB a,iV z,.bool false] w (ef a w h (fun v w' h'=>∃ (r:RTm) (t:Tm) (at2:Nat),v=bE r∧at2≤zs.length∧Own w' a 68 [.slice A zs.length cap,nV at2]∧RmH (dp+1) h' r t∧GrT (dp+1) t))
  | 0,z,e,A,cap,zs,hl,hz,dp,ed,hd,at_,ha,w,h,g,ho,hj,hA=>by
    subst ed e;exact xT a A cap zs hl hz 0 hd (fun z h1 b=>by omega) at_ ha w h g ho hj hA
  | k+1,z,e,A,cap,zs,hl,hz,dp,ed,hd,at_,ha,w,h,g,ho,hj,hA=>by
    subst ed e;exact xT a A cap zs hl hz (k+1) hd (fun z h1 b=>Dj a k (z:=z) oM A cap zs hl hz k rfl oM) at_ ha w h g ho hj hA
theorem x8 (z:Int)(h0 : -9223372036854775808≤z)(h1:z≤9223372036854775807)(w:World)(h:Hp)(g:G w h):CR 17 #[iV z] w h (fun v h1=>∃ r,v=bE r∧RmH 1 h1 r (.mk 1 0 ((z:Int):Rat) ⟨#[]⟩ [])):=by
 have a:=sS g;refine go Tryz.func17 [(0,iV z)] rfl (av (lA 2 31 ea a (fun p w2 u a=>aI (lL a [.m 3 0] (lC 4 a (mr z h0 oM _ _ a.g) ?_)))));rintro _ _ _ a ⟨k,l,o,c9,rfl,e,za,c,zb⟩;replace a:=a.aP c zb;refine lC 5 a (Fu (d:=0) (ai ((z:Int):Rat).num) k ((lim (ab ((z:Int):Rat).num)).length) l o ((lim ((z:Int):Rat).den).length) c9 _ _ a.g ⟨true,⟨_,_,_,_,rfl,e,za,a.f.2.1,a.f.1⟩,fun j=>(by cases j)⟩) ?_;rintro _ _ _ a ⟨b,rfl,i⟩;replace a:=(a.add (K:=fun j=>RmH 1 j b (.mk 1 0 ((z:Int):Rat) ⟨#[]⟩ [])) i);exact lP 0 0 (bU b) a (fun _ a=>ac a [(0,0,7)] (bE b) (⟨b,rfl,a.f.1⟩))
theorem kH (z:Int)(h0 : -9223372036854775808≤z)(h1:z≤9223372036854775807)(w:World)(h:Hp)(g:G w h):CR 17 #[iV z] w h (fun v h1=>∃ r,v=bE r∧RmH 1 h1 r (.mk 1 0 ((z:Int):Rat) ⟨#[]⟩ [])):=x8 z h0 h1 w h g
theorem IE {d:Nat}:SmT1 fi (d+1) (.mk 1 0 ((1:Int):Rat) ⟨#[]⟩ []):=⟨by show 0≤3;decide,by show (-1000:Int)≤1∧(1:Int)≤1000;decide,by show (-1000:Int)≤0∧(0:Int)≤1000;decide,LQ.int kD kD,oA,fun i hi=>MO hi (Mk i)⟩
theorem vx  (d:Nat)(ih:∀ (r:RTm) (t:Tm) (F at_ e:Int) (w:World) (h:Hp),G w h→RmH d h r t→WfT1 Dh d t→Calls Tryz.prog 4 #[bE r,iV F,iV at_,iV e] w (Ret w h (fun v h1=>∃ M X,v=bE M∧SpO d h1 M X)))(op n:Int)(y:Bool)(z:Option Addr)(u B:Nat)(x:Option Addr)(D C:Nat)(q:Rat)(s:ByteArray)(A:Option Addr)(c:Nat)(j:List RTm)(ks:List Tm)(U:j.length≤c)(F at_ e:Int)(hl2:ks.length≤2)(b3:d8 op=(ks.length:Nat))(hn1 : -12≤n)(hn2:n≤12)(S:LQ 1 q)(J:fi s)(O:∀ i,i<ks.length→WfT1 Dh d (ks.getD i bv))(w:World)(h:Hp)(g:G w h)(hZ:RZ h (y,.slice z u B,.slice x D C) q)(hK:SlO 7 bU aN h A j)(hKs:Rms d h j ks):CR 4 #[.agg #[iV op,iV n,.bool y,.slice z u B,.slice x D C,.string s,.slice A j.length c],iV F,iV at_,iV e] w h (fun v h1=>∃ M X,v=bE M∧SpO (d+1) h1 M X):=by
 have a:=((((sS g).add (K:=fun k=>RZ k (y,qS z u B,qS x D C) q) hZ).aS hK).add (K:=fun k=>Rms d k j ks) hKs);have hln:=(a.f.1).len;have hac:=aE op;have bn:([]:List RTm).length=0:=rfl;have bd:(([]:List RTm)++j).length=j.length:=rfl;refine go Tryz.func4 [(0,.agg #[iV op,iV n,.bool y,qS z u B,qS x D C,.string s,qS A j.length c]),(1,iV F),(2,iV at_),(3,iV e)] rfl (av (lA 4 31 ([iV op,iV n,.bool y,qS z u B,qS x D C,.string s,qS A j.length c]) a (fun I w2 h3 a=>lA 8 31 ea a (fun b4 w5 h6 a=>aI (lL a [.m 11 2] (ag 12 a (en (at_) 4 oM oM _ _ a.g) (fun w8 h9 a=>?_)))))));have lp7:=cH (at_) 4 oM;refine lL a [.m 2 12] (ah (CG.join (fun Γ w_=>∃ (zp:Bool) (k:Hp),Γ=[(1,iV F),(2,nV (aY (at_) 4)),(3,iV e),(4,pB I),(8,pB b4),(20,.bool zp)]∧SS w h w_ k [⟨b4,31,[iV 0,iV 0,qF,sZ,sZ,eS,sZ]⟩,⟨I,31,[iV op,iV n,.bool y,qS z u B,qS x D C,.string s,qS A j.length c]⟩] [] [fun k=>Rms d k j ks,fun k=>SlO 7 bU aN k A j,fun k=>RZ k (y,qS z u B,qS x D C) q]∧(zp=true→¬(aY at_ 4=0∨j.length=0))∧(zp=false→(aY at_ 4=0∨j.length=0))) ?_ ?_))
 ·
  refine kQ (lL a [.m 13 2] ?_);cases zd:(decide ((0:Int)<((aY (at_) 4:Nat):Int)))
  ·
   have zD:=oF zd;refine lB 14 zd (lL a [.m 15 14] (lG 16 ?_));refine lG 17 (lG 18 (lG 19 (lL a [.v 20 qF] (lD ?_))));intro L H;exact ⟨_,⟨false,h9,rfl,a.to _ _,(fun k=>MO k kD),(fun _=>by omega)⟩,H.to _ kR⟩
  have zD:=oT zd;refine lB 14 zd (lL a [.m 15 14,.v 16 (qP I 6),.o 17 (qS A j.length c) 1 6 1,.v 18 (nV j.length)] ?_);cases ze:(decide ((0:Int)<(j.length:Int)))
  ·
   have zE:=oF ze;refine lB 19 ze (lL a [.v 20 qF] (lD ?_));intro L H;exact ⟨_,⟨false,h9,rfl,a.to _ _,(fun k=>MO k kD),(fun _=>by omega)⟩,H.to _ kR⟩
  have zE:=oT ze;refine lB 19 ze (lL a [.v 20 qT] (lD ?_));intro L H;exact ⟨_,⟨true,h9,rfl,a.to _ _,(fun _=>by omega),(fun k=>MO k kD)⟩,H.to _ kR⟩
 rintro _ _ ⟨zp,_,rfl,a,zR,bt⟩;cases zf:(zp)
 ·
  try rw[zf] at a
  try rw[zf]
  refine cv (cK (CG.join (fun Γ w_=>∃ (M:RTm) (X:Tm) (k:Hp),Γ=[(4,pB I),(8,pB b4)]∧SS w h w_ k [⟨b4,31,[iV 0,iV 0,qF,sZ,sZ,eS,sZ]⟩,⟨I,31,bU M⟩] [] [fun k=>SpO (d+1) k M X,fun k=>Rms d k j ks,fun k=>SlO 7 bU aN k A j,fun k=>RZ k (y,qS z u B,qS x D C) q]) ?_ ?_))
  ·
   refine aa a [.m 47 1] (ag 48 a (en (F) 9 oM oM _ _ a.g) (fun _ zP a=>?_));have b2:=cH (F) 9 oM;refine a8 (av ?_);cases zg:(((aY (F) 9:Nat):Int) == (0:Int))
   ·
    have zG:=ae zg;refine lB 50 zg (lL a [.m 49 50] (af (av ?_)));cases zi:(((aY (F) 9:Nat):Int) == (1:Int))
    ·
     have zH:=ae zi;refine lB 56 zi (lL a [.m 55 56] (af (av ?_)));cases zj:(((aY (F) 9:Nat):Int) == (2:Int))
     ·
      have zI:=ae zj;refine lB 62 zj (lL a [.m 61 62] (af (av ?_)));cases zk:(((aY (F) 9:Nat):Int) == (3:Int))
      ·
       have zJ:=ae zk;refine lB 69 zk (lL a [.m 68 69] (af (av ?_)));cases zl:(((aY (F) 9:Nat):Int) == (4:Int))
       ·
        have zK:=ae zl;refine lB 75 zl (lL a [.m 74 75] (af (av ?_)));cases zm:(((aY (F) 9:Nat):Int) == (5:Int))
        ·
         have zL:=ae zm;refine lB 85 zm (lL a [.m 84 85] (af (av ?_)));cases zo:(((aY (F) 9:Nat):Int) == (6:Int))
         ·
          have zM:=ae zo;refine lB 88 zo (lL a [.m 87 88] (af (CG.skip ?_)));intro L H;replace a:=(a.add (K:=fun k=>SpO (d+1) k (⟨op,n,y,z,u,B,x,D,C,s,A,j.length,c⟩:RTm) (.mk (op) (n) q (s) ks)) ⟨(RmH.mk a.f.r.1 a.f.1 U a.f.2.1).mono oM,gp oM (by omega:(-1000:Int)≤op∧(op:Int)≤1000) (by omega:(-1000:Int)≤n∧(n:Int)≤1000) S J (fun i hi=>(eJ (O i hi)).mono oM)⟩);exact ⟨_,⟨(⟨op,n,y,z,u,B,x,D,C,s,A,j.length,c⟩:RTm),(.mk (op) (n) q (s) ks),zP,rfl,a.to _ _⟩,H.to _ kR⟩
         have zM:=ML zo;refine lB 88 zo (lL a [.m 87 88] (ak (kQ (lL a [.o 89 (.agg #[iV op,iV n,.bool y,qS z u B,qS x D C,.string s,qS A j.length c]) 1 0 7] (lC 90 a (qy (d:=d+1) ⟨op,n,y,z,u,B,x,D,C,s,A,j.length,c⟩ (.mk op n q s ks) (12) _ _ a.g (RmH.mk a.f.r.1 a.f.1 U a.f.2.1)) ?_)))));rintro _ _ _ a ⟨r32,rfl,Z⟩;replace a:=(a.add (K:=fun k=>RmH (d+2) k r32 (.mk 8 (12) 0 ⟨#[]⟩ [(.mk op n q s ks)])) Z);refine lL a [.m 91 3] (ag 92 a (en (e) 20 oM oM _ _ a.g) (fun _ _ a=>?_));have b0:=cH (e) 20 oM;refine lI 93 ((aY (e) 20:Nat)-10) (lC 94 a (qy (d:=d+2) r32 (.mk 8 (12) 0 ⟨#[]⟩ [(.mk op n q s ks)]) ((aY (e) 20:Nat)-10) _ _ a.g a.f.1) ?_);rintro _ _ _ a ⟨r38,rfl,W⟩;replace a:=(a.add (K:=fun k=>RmH (d+3) k r38 (.mk 8 ((aY (e) 20:Nat)-10) 0 ⟨#[]⟩ [(.mk 8 (12) 0 ⟨#[]⟩ [(.mk op n q s ks)])])) W);refine lC 95 a (qy (d:=d+3) r38 (.mk 8 ((aY (e) 20:Nat)-10) 0 ⟨#[]⟩ [(.mk 8 (12) 0 ⟨#[]⟩ [(.mk op n q s ks)])]) (9) _ _ a.g a.f.1) ?_;rintro _ _ yf a ⟨V,rfl,bb⟩;replace a:=(a.add (K:=fun k=>RmH (d+4) k V (.mk 8 (9) 0 ⟨#[]⟩ [(.mk 8 ((aY (e) 20:Nat)-10) 0 ⟨#[]⟩ [(.mk 8 (12) 0 ⟨#[]⟩ [(.mk op n q s ks)])])])) bb);refine lP 1 0 (bU V) a (fun _ a=>lD ?_);intro L H;replace a:=(a.tl.tl.tl.add (K:=fun k=>SpO (d+1) k V (.mk 8 (9) 0 ⟨#[]⟩ [(.mk 8 ((aY (e) 20:Nat)-10) 0 ⟨#[]⟩ [(.mk 8 (12) 0 ⟨#[]⟩ [(.mk op n q s ks)])])])) ⟨a.f.1,pR oM (pR oM (pR oM ((gp oM (by omega:(-1000:Int)≤op∧(op:Int)≤1000) (by omega:(-1000:Int)≤n∧(n:Int)≤1000) S J (fun i hi=>(eJ (O i hi)).mono oM)))))⟩);exact ⟨_,⟨V,(.mk 8 (9) 0 ⟨#[]⟩ [(.mk 8 ((aY (e) 20:Nat)-10) 0 ⟨#[]⟩ [(.mk 8 (12) 0 ⟨#[]⟩ [(.mk op n q s ks)])])]),yf,rfl,a.to _ _⟩,H.to _ kR⟩
        have zL:=ML zm;refine lB 85 zm (lL a [.m 84 85] (ak (kQ (lL a [.v 86 (qP I 6)] (lP 1 6 ([sZ]) a (fun _ a=>lD ?_))))));intro L H;replace a:=(a.add (K:=fun k=>SpO (d+1) k (⟨op,n,y,z,u,B,x,D,C,s,none,0,0⟩:RTm) (.mk op n q s [])) ⟨RmH.mk (ps:=[]) a.f.r.1 Rms.nil (nR _) SlO.nil,gp (by show 0≤3;decide) (by omega:(-1000:Int)≤op∧(op:Int)≤1000) (by omega:(-1000:Int)≤n∧(n:Int)≤1000) S J (fun i hi=>MO hi (Mk i))⟩);exact ⟨_,⟨(⟨op,n,y,z,u,B,x,D,C,s,none,0,0⟩:RTm),(.mk op n q s []),zP,rfl,a.to _ _⟩,H.to _ kR⟩
       have zK:=ML zl;refine lB 75 zl (lL a [.m 74 75] (ak (kQ (HZ 76 31 7 bU ([]:List RTm) a (fun yg _ _ a=>lL a [.v 77 (qP I 6),.o 78 (qS A j.length c) 1 6 1] (Jl 79 0 31 7 ((([]:List RTm)).length) (sB yg) ([]:List RTm) bU aN A j j.length c 112 (.agg #[iV 0,iV 0,qF,sZ,sZ,eS,sZ]) a a.f.2.1 (fun yi yj _ _ a=>lC 80 a (kH 1 kD kD _ _ a.g) ?_)))))));rintro _ _ _ a ⟨p,rfl,hrw⟩;replace a:=(a.add (K:=fun k=>RmH 1 k p (.mk 1 0 (((1:Int)):Rat) ⟨#[]⟩ [])) hrw);refine lR 81 31 1 ([iV p.op,iV p.n,.bool p.neg,qS p.zA p.zn p.zc,qS p.dA p.dn p.dc,.string p.s,qS p.A p.m p.c]) a (fun zQ _ _ a=>?_);replace a:=a.aS (SlO.of_flat (sz:=7) (f:=bU) (d:=aN) (b:=zQ) (o:=0) (l:=([p]:List RTm)) (fun _=>rfl) a.f.1);refine lY 82 0 31 7 yj yi (([]:List RTm)++j) bU p 112 zQ (.agg #[iV 0,iV 0,qF,sZ,sZ,eS,sZ]) a a.f.2.1 (fun zs zt _ _ a=>lL a [.v 83 (qP I 6)] (lP 1 6 ([qS zs ((([]:List RTm)++j++[p]).length) zt]) a (fun _ a=>lD ?_)));obtain ⟨yk,a,zS⟩:=a.pubr 0 (A:=zs) (c:=zt) (l:=([]:List RTm)++j++[p]) (f:=bU) (ty:=31) (sz:=7) aN (fun _=>rfl);intro L H;replace a:=(a.tl.tl.tl.tl.add (K:=fun k=>SpO (d+1) k (⟨op,n,y,z,u,B,x,D,C,s,zs,(([]:List RTm)++j++[p]).length,zt⟩:RTm) (.mk op n q s (ks++[.mk 1 0 (((1:Int)):Rat) ⟨#[]⟩ []]))) ⟨(RmH.mk a.f.q.r.1 (((a.f.q.1).mono (show d≤d+3 by omega)).snoc ((a.f.r.2.1).mono oM)) zS a.f.1),gp (by rw[zY,List.length_singleton];omega) (by omega:(-1000:Int)≤op∧(op:Int)≤1000) (by omega:(-1000:Int)≤n∧(n:Int)≤1000) S J (fun i hi=>p9 (SmT1 fi (d+3)) (fun i hi=>(eJ (O i hi)).mono oM) IE hi)⟩);exact ⟨_,⟨(⟨op,n,y,z,u,B,x,D,C,s,zs,(([]:List RTm)++j++[p]).length,zt⟩:RTm),(.mk op n q s (ks++[.mk 1 0 (((1:Int)):Rat) ⟨#[]⟩ []])),yk,rfl,a.to _ _⟩,H.to _ kR⟩
      have zJ:=ML zk;refine lB 69 zk (lL a [.m 68 69] (ak (kQ (lL a [.m 70 3] (ag 71 a (en (e) 3 oM oM _ _ a.g) (fun _ _ a=>?_))))));have bw:=cH (e) 3 oM;refine lC 72 a (mr (aY (e) 3:Nat) oM oM _ _ a.g) ?_;rintro _ _ yl a ⟨zu,zv,zw,zx,rfl,zU,zW,zX,ya⟩;replace a:=a.aP zX ya;refine lL a [.v 73 (qP I 2)] (lP 1 2 (cW (((aY (e) 3:Nat):Int):Rat) zu zv zw zx) a (fun _ a=>lD ?_));intro L H;replace a:=(a.tl.tl.add (K:=fun k=>SpO (d+1) k (⟨op,n,ai (((aY (e) 3:Nat):Int):Rat).num,zu,(lim (ab (((aY (e) 3:Nat):Int):Rat).num)).length,zv,zw,(lim (((aY (e) 3:Nat):Int):Rat).den).length,zx,s,A,j.length,c⟩:RTm) (.mk (op) (n) ((((aY (e) 3:Nat):Int):Rat)) (s) ks)) ⟨(RmH.mk ⟨true,⟨_,_,_,_,rfl,zU,zW,a.f.2.1,a.f.1⟩,fun k=>(by cases k)⟩ a.f.r.1 U a.f.r.2.1).mono oM,gp oM (by omega:(-1000:Int)≤op∧(op:Int)≤1000) (by omega:(-1000:Int)≤n∧(n:Int)≤1000) (LQ.int oM oM) J (fun i hi=>(eJ (O i hi)).mono oM)⟩);exact ⟨_,⟨(⟨op,n,ai (((aY (e) 3:Nat):Int):Rat).num,zu,(lim (ab (((aY (e) 3:Nat):Int):Rat).num)).length,zv,zw,(lim (((aY (e) 3:Nat):Int):Rat).den).length,zx,s,A,j.length,c⟩:RTm),(.mk (op) (n) ((((aY (e) 3:Nat):Int):Rat)) (s) ks),yl,rfl,a.to _ _⟩,H.to _ kR⟩
     have zI:=ML zj;refine lB 62 zj (lL a [.m 61 62] (ak (kQ (lL a [.v 63 (.agg #[eS,.string (⟨#[109,97,120]⟩),.string (⟨#[120,95,49]⟩),.string (⟨#[49,120]⟩)]),.m 64 3] ?_))))
     rcases He e with hq0|hq1|hq2|hq3
     ·
      refine ag 65 a ((by have Q:=en e 4 oM oM _ _ a.g;rw[hq0] at Q;exact Q)) (fun _ ym a=>lL a [.v 66 (eS),.v 67 (qP I 5)] (lP 1 5 ([eS]) a (fun _ a=>lD ?_)));intro L H;replace a:=(a.add (K:=fun k=>SpO (d+1) k (⟨op,n,y,z,u,B,x,D,C,⟨#[]⟩,A,j.length,c⟩:RTm) (.mk (op) (n) q (⟨#[]⟩) ks)) ⟨(RmH.mk a.f.r.1 a.f.1 U a.f.2.1).mono oM,gp oM (by omega:(-1000:Int)≤op∧(op:Int)≤1000) (by omega:(-1000:Int)≤n∧(n:Int)≤1000) S (by unfold fi;decide) (fun i hi=>(eJ (O i hi)).mono oM)⟩);exact ⟨_,⟨(⟨op,n,y,z,u,B,x,D,C,⟨#[]⟩,A,j.length,c⟩:RTm),(.mk (op) (n) q (⟨#[]⟩) ks),ym,rfl,a.to _ _⟩,H.to _ kR⟩
     ·
      refine ag 65 a ((by have Q:=en e 4 oM oM _ _ a.g;rw[hq1] at Q;exact Q)) (fun _ yn a=>lL a [.v 66 (.string (⟨#[109,97,120]⟩)),.v 67 (qP I 5)] (lP 1 5 ([.string (⟨#[109,97,120]⟩)]) a (fun _ a=>lD ?_)));intro L H;replace a:=(a.add (K:=fun k=>SpO (d+1) k (⟨op,n,y,z,u,B,x,D,C,⟨#[109,97,120]⟩,A,j.length,c⟩:RTm) (.mk (op) (n) q (⟨#[109,97,120]⟩) ks)) ⟨(RmH.mk a.f.r.1 a.f.1 U a.f.2.1).mono oM,gp oM (by omega:(-1000:Int)≤op∧(op:Int)≤1000) (by omega:(-1000:Int)≤n∧(n:Int)≤1000) S (by unfold fi;decide) (fun i hi=>(eJ (O i hi)).mono oM)⟩);exact ⟨_,⟨(⟨op,n,y,z,u,B,x,D,C,⟨#[109,97,120]⟩,A,j.length,c⟩:RTm),(.mk (op) (n) q (⟨#[109,97,120]⟩) ks),yn,rfl,a.to _ _⟩,H.to _ kR⟩
     ·
      refine ag 65 a ((by have Q:=en e 4 oM oM _ _ a.g;rw[hq2] at Q;exact Q)) (fun _ yo a=>lL a [.v 66 (.string (⟨#[120,95,49]⟩)),.v 67 (qP I 5)] (lP 1 5 ([.string (⟨#[120,95,49]⟩)]) a (fun _ a=>lD ?_)));intro L H;replace a:=(a.add (K:=fun k=>SpO (d+1) k (⟨op,n,y,z,u,B,x,D,C,⟨#[120,95,49]⟩,A,j.length,c⟩:RTm) (.mk (op) (n) q (⟨#[120,95,49]⟩) ks)) ⟨(RmH.mk a.f.r.1 a.f.1 U a.f.2.1).mono oM,gp oM (by omega:(-1000:Int)≤op∧(op:Int)≤1000) (by omega:(-1000:Int)≤n∧(n:Int)≤1000) S (by unfold fi;decide) (fun i hi=>(eJ (O i hi)).mono oM)⟩);exact ⟨_,⟨(⟨op,n,y,z,u,B,x,D,C,⟨#[120,95,49]⟩,A,j.length,c⟩:RTm),(.mk (op) (n) q (⟨#[120,95,49]⟩) ks),yo,rfl,a.to _ _⟩,H.to _ kR⟩
     refine ag 65 a ((by have Q:=en e 4 oM oM _ _ a.g;rw[hq3] at Q;exact Q)) (fun _ yb a=>lL a [.v 66 (.string (⟨#[49,120]⟩)),.v 67 (qP I 5)] (lP 1 5 ([.string (⟨#[49,120]⟩)]) a (fun _ a=>lD ?_)));intro L H;replace a:=(a.add (K:=fun k=>SpO (d+1) k (⟨op,n,y,z,u,B,x,D,C,⟨#[49,120]⟩,A,j.length,c⟩:RTm) (.mk (op) (n) q (⟨#[49,120]⟩) ks)) ⟨(RmH.mk a.f.r.1 a.f.1 U a.f.2.1).mono oM,gp oM (by omega:(-1000:Int)≤op∧(op:Int)≤1000) (by omega:(-1000:Int)≤n∧(n:Int)≤1000) S (by unfold fi;decide) (fun i hi=>(eJ (O i hi)).mono oM)⟩);exact ⟨_,⟨(⟨op,n,y,z,u,B,x,D,C,⟨#[49,120]⟩,A,j.length,c⟩:RTm),(.mk (op) (n) q (⟨#[49,120]⟩) ks),yb,rfl,a.to _ _⟩,H.to _ kR⟩
    have zH:=ML zi;refine lB 56 zi (lL a [.m 55 56] (ak (kQ (lL a [.m 57 3] (ag 58 a (en (e) 30 oM oM _ _ a.g) (fun _ yc a=>?_))))));have br:=cH (e) 30 oM;refine lI 59 ((aY (e) 30:Nat)-15) (lL a [.v 60 (qP I 1)] (lP 1 1 ([iV ((aY (e) 30:Nat)-15)]) a (fun _ a=>lD ?_)));intro L H;replace a:=(a.add (K:=fun k=>SpO (d+1) k (⟨op,(aY (e) 30:Nat)-15,y,z,u,B,x,D,C,s,A,j.length,c⟩:RTm) (.mk (op) ((aY (e) 30:Nat)-15) q (s) ks)) ⟨(RmH.mk a.f.r.1 a.f.1 U a.f.2.1).mono oM,gp oM (by omega:(-1000:Int)≤op∧(op:Int)≤1000) (by omega:(-1000:Int)≤(aY (e) 30:Nat)-15∧((aY (e) 30:Nat)-15:Int)≤1000) S J (fun i hi=>(eJ (O i hi)).mono oM)⟩);exact ⟨_,⟨(⟨op,(aY (e) 30:Nat)-15,y,z,u,B,x,D,C,s,A,j.length,c⟩:RTm),(.mk (op) ((aY (e) 30:Nat)-15) q (s) ks),yc,rfl,a.to _ _⟩,H.to _ kR⟩
   have zG:=ML zg;refine lB 50 zg (lL a [.m 49 50] (ak (kQ (lL a [.m 51 3] (ag 52 a (en (e) 16 oM oM _ _ a.g) (fun _ yd a=>?_))))));have bk:=cH (e) 16 oM;refine lI 53 ((aY (e) 16:Nat)-1) (lL a [.v 54 (pB I)] (lP 1 0 ([iV ((aY (e) 16:Nat)-1)]) a (fun _ a=>lD ?_)));intro L H;replace a:=(a.add (K:=fun k=>SpO (d+1) k (⟨(aY (e) 16:Nat)-1,n,y,z,u,B,x,D,C,s,A,j.length,c⟩:RTm) (.mk ((aY (e) 16:Nat)-1) (n) q (s) ks)) ⟨(RmH.mk a.f.r.1 a.f.1 U a.f.2.1).mono oM,gp oM (by omega:(-1000:Int)≤(aY (e) 16:Nat)-1∧((aY (e) 16:Nat)-1:Int)≤1000) (by omega:(-1000:Int)≤n∧(n:Int)≤1000) S J (fun i hi=>(eJ (O i hi)).mono oM)⟩);exact ⟨_,⟨(⟨(aY (e) 16:Nat)-1,n,y,z,u,B,x,D,C,s,A,j.length,c⟩:RTm),(.mk ((aY (e) 16:Nat)-1) (n) q (s) ks),yd,rfl,a.to _ _⟩,H.to _ kR⟩
  rintro _ _ ⟨M,X,_,rfl,a⟩;exact aa a [.o 96 (bE M) 1 0 7] (lP 0 0 (bU M) a (fun _ a=>ac a [(0,0,7)] (bE M) (⟨M,X,rfl,a.f.1⟩)))
 try rw[zf] at a
 try rw[zf]
 refine ce (av ?_);have bl:=zR aM;refine lL a [.m 21 3,.v 22 (qP I 6),.o 23 (qS A j.length c) 1 6 1,.v 24 (nV j.length)] (ag 25 a (en (e) j.length oM oM _ _ a.g) (fun _ _ a=>?_));have bm:=cH (e) j.length oM;refine lL a [.m 9 25] (aI (lL a [.o 26 (.agg #[iV op,iV n,.bool y,qS z u B,qS x D C,.string s,qS A j.length c]) 1 0 7] (lA 10 31 ea a (fun zq _ _ a=>lP 0 0 ([iV op,iV n,.bool y,qS z u B,qS x D C,.string s,qS A j.length c]) a (fun _ a=>aI (HZ 27 31 7 bU ([]:List RTm) a (fun ye _ _ a=>lL a [.v 28 (qP I 6),.o 29 (qS A j.length c) 2 6 1] (Jl 30 0 31 7 ((([]:List RTm)).length) (sB ye) ([]:List RTm) bU aN A j j.length c 112 (.agg #[iV 0,iV 0,qF,sZ,sZ,eS,sZ]) a a.f.2.1 (fun zr za _ _ a=>lL a [.v 31 (qP zq 6)] (lP 0 6 ([qS zr ((([]:List RTm)++j).length) za]) a (fun _ a=>ah (cR 13 [] mixed a ar ?_))))))))))));refine eV 0 32 (qP zq 6) (eO 1 33 [(0,6,1)] (qS zr ((([]:List RTm)++j).length) za) a (eV 2 34 (nV (aY (e) j.length)) (eV 3 35 (qP I 6) (eO 4 36 [(2,6,1)] (qS A j.length c) a (eV 5 37 (nV (aY (e) j.length)) (eX 6 38 A j.length c 7 (aY (e) j.length:Nat) (aY (e) j.length) ((a.f.2.1).ok oM) (eH 7 39 (bE (j.getD (aY (e) j.length) aN)) a ((a.f.2.1).el (aY (e) j.length) oM) (eV 8 40 (iV F) (eV 9 41 (nV (aY (at_) 4)) (eI 10 42 ((aY (at_) 4:Nat)-1) (eV 11 43 (iV e) (eC 12 44 a (fun _ _ a=>ih (j.getD (aY e j.length) aN) (ks.getD (aY e j.length) bv) F ((aY (at_) 4:Nat)-1) e _ _ a.g ((a.f.1).at_ (aY e j.length) oM) (O (aY e j.length) oM)) ?_))))))))))));rintro _ _ _ _ _ a ⟨Y,tk,rfl,hrk⟩;replace a:=(a.add (K:=fun k=>SpO d k Y tk) hrk);refine ck a (fun _ _ a=>?_);obtain ⟨zb,zB⟩:=a.rowA 0 (A:=zr) (c:=za) (m:=(([]:List RTm)++j).length) (ty:=31) (sz:=7) (cs:=(([]:List RTm)++j).flatMap bU) oM;subst zB;refine tX 13 45 (sB zb) ((([]:List RTm)++j).length) za 7 (aY (e) j.length:Nat) (aY (e) j.length) rfl (JD 14 (ty:=31) (c:=za) (b:=zb) 0 (aY (e) j.length) 0 (bU Y) (([]:List RTm)++j) bU 7 aN Y a oM (fun _ a=>?_));replace a:=a.to [⟨zq,31,[iV op,iV n,.bool y,qS z u B,qS x D C,.string s,qS (sB zb) ((([]:List RTm)++j).length) za]⟩,⟨b4,31,[iV 0,iV 0,qF,sZ,sZ,eS,sZ]⟩,⟨I,31,[iV op,iV n,.bool y,qS z u B,qS x D C,.string s,qS A j.length c]⟩] [⟨31,7,sB zb,za,(([]:List RTm)++j).length,((([]:List RTm)++j).set (aY (e) j.length) Y).flatMap bU⟩];refine th ?_;replace a:=a.rown [⟨31,7,sB zb,za,((([]:List RTm)++j).set (aY (e) j.length) Y).length,((([]:List RTm)++j).set (aY (e) j.length) Y).flatMap bU⟩] (by simp only[KP]);obtain ⟨_,a,zN⟩:=a.pubr 0 (A:=sB zb) (c:=za) (l:=(([]:List RTm)++j).set (aY (e) j.length) Y) (f:=bU) (ty:=31) (sz:=7) aN (fun _=>rfl);exact lL a [.o 46 (.agg #[iV op,iV n,.bool y,qS z u B,qS x D C,.string s,qS (sB zb) ((([]:List RTm)++j).length) za]) 0 0 7] (lP 1 0 ([iV op,iV n,.bool y,qS z u B,qS x D C,.string s,qS (sB zb) ((([]:List RTm)++j).length) za]) a (fun _ a=>ac a [(1,0,7)] (.agg #[iV op,iV n,.bool y,qS z u B,qS x D C,.string s,qS (sB zb) ((([]:List RTm)++j).length) za]) (⟨(⟨op,n,y,z,u,B,x,D,C,s,sB zb,(([]:List RTm)++j).length,za⟩:RTm),(.mk op n q s (ks.set (aY e j.length) tk)),rfl,(by have k:=RmH.mk (op:=op) (n:=n) (s:=s) a.f.q.1 (((a.f.r.1).mono (show d≤d+3 by omega)).set (aY e j.length) (a.f.2.1).1) zN (a.f.1);rw[KP] at k;exact k),gp (by rw[KP];omega) oM oM S J (fun i hi=>sY (SmT1 fi (d+3)) (fun i hi=>(eJ (O i hi)).mono oM) (a.f.2.1).2 hi)⟩)))
theorem oH:∀ (d:Nat) (r:RTm) (t:Tm) (e at_ a:Int) (w:World) (h:Hp),G w h→RmH d h r t→WfT1 Dh d t→Calls Tryz.prog 4 #[bE r,iV e,iV at_,iV a] w (Ret w h (fun v h1=>∃ r1 t1,v=bE r1∧SpO d h1 r1 t1))
  | 0,_,_,_,_,_,_,_,_,x,_=>x.elim
  | d+1,r,t,e,at_,a,w,h,g,x,wf=>by
    obtain ⟨op,n,b,zA,zn,zc,dA,dn,dc,q,s,A,c,rs,ks,rfl,rfl,hZ,hc,hK,hKs⟩:=x.open;have f:ks.length≤2:=wf.two;have i:fi s:=(eJ wf).2.2.2.2.1;obtain ⟨w1,w2,w3,o,u,p,l,j,k⟩:=wf;exact vx d (fun r t e at_ a w h=>oH d r t e at_ a w h) op n b zA zn zc dA dn dc q s A c rs ks hc e at_ a f w1 l j w3 i k w h g hZ hK hKs
theorem FU {h:Hp}{b:Bool}{f d:Option Addr}{c i a j:Nat}{q:Rat}(x:RZ h (b,.slice f c i,.slice d a j) q)(e:a=0):q=0:=by subst e;exact HO x
theorem xP  (sm:ByteArray→Prop)(d:Nat)(ih:∀ (r:RTm) (t:Tm) (w:World) (h:Hp),G w h→RmH d h r t→iF sm d t→Tab h→Calls Tryz.prog 7 #[bE r] w (Ret w h (fun v h1=>∃ p,v=az p∧TmH d h1 p t)))(op n:Int)(I:Bool)(J:Option Addr)(H L:Nat)(C:Option Addr)(z D:Nat)(q:Rat)(s:ByteArray)(A:Option Addr)(c:Nat)(y:List RTm)(ks:List Tm)(hc:y.length≤c)(hk3:ks.length≤3)(hop : -1000≤op∧op≤1000)(hn : -1000≤n∧n≤1000)(hq:LQ 3000 q)(hsm:sm s)(hW:∀ i,i<ks.length→iF sm d (ks.getD i bv))(w:World)(h:Hp)(g:G w h)(hZ:RZ h (I,.slice J H L,.slice C z D) q)(hK:SlO 7 bU aN h A y)(V:Rms d h y ks)(tb:Tab h):CR 7 #[.agg #[iV op,iV n,.bool I,.slice J H L,.slice C z D,.string s,.slice A y.length c]] w h (fun v h1=>∃ p,v=az p∧TmH (d+1) h1 p (.mk op n q s ks)):=by
 have a:=(((((sS g).add (K:=fun j=>RZ j (I,qS J H L,qS C z D) q) hZ).aS hK).add (K:=fun j=>Rms d j y ks) V).aB tb);have hln:=(a.f.2.1).len;refine go Tryz.func7 [(0,.agg #[iV op,iV n,.bool I,qS J H L,qS C z D,.string s,qS A y.length c])] rfl (av (lA 1 31 ([iV op,iV n,.bool I,qS J H L,qS C z D,.string s,qS A y.length c]) a (fun B w2 h3 a=>lA 2 43 dS a (fun S w5 h6 a=>aI (lL a [.v 5 (pB B),.o 6 (iV op) 1 0 1,.v 7 (qP B 1),.o 8 (iV n) 1 1 1,.v 9 (qP B 5),.o 10 (.string s) 1 5 1,.v 11 (.agg #[iV op,iV n,qF,uV 0,eS,uV 0,eS,.string s,sZ])] (lA 3 43 dS a (fun M w8 h9 a=>lP 0 0 ([iV op,iV n,qF,uV 0,eS,uV 0,eS,.string s,sZ]) a (fun _ a=>?_))))))));refine lN (CG.join (fun Γ X=>∃ (F:Rat) (j:Hp),Γ=[(1,pB B),(2,pB S),(3,pB M)]∧SS w h X j [⟨M,43,[iV op,iV n,.bool (ai F.num),uV (lo (ab F.num)),.string (hi (ab F.num)),uV (lo (qd F)),.string (hi (qd F)),.string s,sZ]⟩,⟨S,43,[iV 0,iV 0,qF,uV 0,eS,uV 0,eS,eS,sZ]⟩,⟨B,31,[iV op,iV n,.bool I,qS J H L,qS C z D,.string s,qS A y.length c]⟩] [] [fun j=>Tab j,fun j=>Rms d j y ks,fun j=>SlO 7 bU aN j A y,fun j=>RZ j (I,qS J H L,qS C z D) q]∧F=q) ?_ ?_)
 ·
  refine aa a [.v 12 (qP B 2),.v 13 (qP B 4),.o 14 (qS C z D) 2 4 1,.v 15 (nV z)] ?_;cases za:(decide ((0:Int)<(z:Int)))
  ·
   have zd:=oF za;refine lB 16 za (af (CG.skip ?_));intro a_ Q;exact ⟨_,⟨0,h9,rfl,a.to _ _,((FU a.f.r.2.1 oM).symm)⟩,Q.to _ kR⟩
  have zd:=oT za;refine lB 16 za (ak (kQ (lL a [.v 17 (qP B 2),.o 18 (.agg #[.bool I,qS J H L,qS C z D]) 2 2 3] (ag 19 a (I5 (.agg #[.bool I,qS J H L,qS C z D]) q (hq.mono oM) _ _ a.g (Ey a.f.r.2.1 oM) a.f.1) (fun _ zj a=>lL a [.v 20 (qP M 2)] (lP 0 2 (qc q) a (fun _ a=>lD ?_)))))));intro a_ Q;exact ⟨_,⟨q,zj,rfl,a.to _ _,rfl⟩,Q.to _ kR⟩
 rintro _ _ ⟨F,zk,rfl,a,Z⟩;refine cQ (aa a [.v 4 (iV 0)] (a8 ?_));replace a:=a.nil 43 9;refine bH [(1,pB B),(2,pB S),(3,pB M),(4,iV 0)] ?_;replace a:=a.add (K:=fun j=>Tms d j ([]) (ks.take 0)) (Tms.nil);refine CG.loop (fun μ_ Γ X=>∃ (k:Nat) (e:Option Addr) (u:Nat) (x:List PTm) (j:Hp),μ_=y.length-k∧Γ=[(1,pB B),(2,pB S),(3,pB M),(4,nV k)]∧SS w h X j [⟨M,43,pG op n F s e ((x).length) u⟩,⟨S,43,[iV 0,iV 0,qF,uV 0,eS,uV 0,eS,eS,sZ]⟩,⟨B,31,[iV op,iV n,.bool I,qS J H L,qS C z D,.string s,qS A y.length c]⟩] [⟨43,9,e,u,(x).length,(x).flatMap bg⟩] [fun j=>Tms d j x (ks.take k),fun j=>Tab j,fun j=>Rms d j y ks,fun j=>SlO 7 bU aN j A y,fun j=>RZ j (I,qS J H L,qS C z D) q]∧k≤y.length) _ ⟨0,none,0,[],zk,rfl,rfl,a.to _ _,K7 _⟩ ?_;rintro _ _ _ ⟨k,e,u,x,_,bb,rfl,a,hk⟩;have W:=(a.f.1).len;rw[J4] at W
 refine cQ (aa a [.m 21 4,.v 22 (qP B 6),.o 23 (qS A y.length c) 2 6 1,.v 24 (nV y.length)] ?_);cases zb:(decide ((k:Int)<(y.length:Int)))
 ·
  have ze:=oF zb;refine lB 25 zb (af (CG.exit ?_))
  show CG _ _ _ _ _ _ _ _
  refine av ?_;have U:k=ks.length:=by omega
  obtain ⟨_,a,zi⟩:=a.pubr 0 (A:=e) (c:=u) (l:=x) (f:=bg) (ty:=43) (sz:=9) au (fun _=>rfl);exact lL a [.o 39 (pW op n F s e ((x).length) u) 0 0 9] (lP 1 0 (pG op n F s e ((x).length) u) a (fun _ a=>ac a [(1,0,9)] (pW op n F s e ((x).length) u) (⟨⟨op,n,F,s,e,x.length,u⟩,rfl,by subst Z;exact TmH.mk (by have x_:=(a.f.2.1);rw[U,zy] at x_;exact x_) zi a.f.1⟩)))
 have ze:=oT zb;refine lB 25 zb (ak (cK (cQ (kZ (CG.region ⟨((Dx e ((x).length) u).ownBlock.toList),none⟩ 10 [] mixed kR a.g ar (a.ro_lt 0 (ty:=43) (sz:=9) (A:=e) (c:=u) (m:=(x).length) (cs:=(x).flatMap bg)) ?_)))));refine eV 0 28 (qP M 8) (eO 1 29 [(0,8,1)] (qS e ((x).length) u) a ?_ (hM:=fun p Y=>by obtain rfl:=pa.1 Y;exact a.ro_ne 0 0 (ty:=43) (sz:=9) (A:=e) (c:=u) (m:=(x).length) (cs:=(x).flatMap bg)));refine eV 2 30 (qP B 6) (eO 3 31 [(2,6,1)] (qS A y.length c) a ?_ (hM:=fun p Y=>by obtain rfl:=pa.1 Y;exact a.ro_ne 2 0 (ty:=43) (sz:=9) (A:=e) (c:=u) (m:=(x).length) (cs:=(x).flatMap bg)));refine eV 4 32 (nV k) (eX 5 33 A y.length c 7 (k:Nat) k ((a.f.r.2.1).ok oM) (eH 6 34 (bE (y.getD k aN)) a ((a.f.r.2.1).el k oM) ?_ (hM:=a.ro_jk 0 (ty:=43) (sz:=9) (A:=e) (c:=u) (m:=(x).length) (cs:=(x).flatMap bg))));refine eC 7 35 a (fun _ _ a=>ih (y.getD k aN) (ks.getD k bv) _ _ a.g ((a.f.r.1).at_ k oM) (hW k oM) a.f.2.1) ?_;rintro _ _ _ _ _ a ⟨O,rfl,hpk⟩;replace a:=(a.add (K:=fun j=>TmH d j O (ks.getD k bv)) hpk);refine eR 8 36 43 1 (pC O) a (fun zl _ _ a=>eY 9 37 0 43 9 u e x bg O 112 zl (.agg #[iV 0,iV 0,qF,uV 0,eS,uV 0,eS,eS,sZ]) a (fun _ f_=>f_.1) (fun b hb=>Mu.2 hb) (fun zf zg _ _ a=>ck a (fun _ zm a=>tV 10 38 (qP M 8) (tP 11 0 8 ([qS zf ((x++[O]).length) zg]) a (fun _ a=>tN (kQ (lL a [.m 26 4] (bD 27 ((k:Nat)+1) (k+1) ?_))))))));refine lL a [.m 4 27] (lD ?_);intro a_ Q;replace a:=(a.tl.tl.tl.add (K:=fun j=>Tms d j (x++[O]) (ks.take (k+1))) (by rw[iM bv oM];exact (a.f.r.1).snoc a.f.2.1));refine ⟨_,_,?_,⟨k+1,zf,zg,x++[O],zm,rfl,rfl,a.to _ _,oM⟩,Q.to _ kR⟩
 omega
theorem nF (sm:ByteArray→Prop):∀ (d:Nat) (r:RTm) (t:Tm) (w:World) (h:Hp),G w h→RmH d h r t→iF sm d t→Tab h→Calls Tryz.prog 7 #[bE r] w (Ret w h (fun v h1=>∃ p,v=az p∧TmH d h1 p t))
  | 0,_,_,_,_,_,x,_,_=>x.elim
  | d+1,r,t,w,h,g,x,wf,tb=>by
    obtain ⟨op,n,b,F,o,k,j,y,l,q,s,A,c,e,ks,rfl,rfl,I,C,D,a⟩:=x.open;obtain ⟨u,H,i,f,z,B⟩:=wf;exact xP sm d (fun r t w h=>nF sm d r t w h) op n b F o k j y l q s A c e ks C u H i f z B w h g I D a tb
theorem uh {a:List Int}(h:kM a)(n:Nat):kM (a.drop n):=fun k=>by rw[qH];exact h _
def mD (zs:List Int):Nat→List PLt
  | 0=>[]
  | k+1=>mD zs k++[⟨ek.getD (k%3) ⟨#[]⟩,((cg (zs.drop (min zs.length k)) 1).getD 0 0)⟩]
theorem jB (a:List Int):∀ k,(mD a k).length=k
 | 0=>rfl
 | k+1=>by show (mD a k++[_]).length=_;rw[zY,jB a k];rfl
theorem rQ (a:List Int):∀ k i,LQ 1 ((mD a k).getD i ca).q
  | 0,i=>LQ.lit (z:=0) kD
  | k + 1,i=>by
    show LQ 1 (((mD a k)++[_]).getD i ca).q
    rw[cO]
    split
    · exact rQ a k i
    · split
      · exact ny _ 1 0
      · exact LQ.lit (z:=0) kD
theorem Hs (A:Option Addr)(c:Nat)(d:List Int)(hc:d.length≤c)(n:Nat)(hn:n≤1000)(hl:d.length≤9223372036854775807)(hz:kM d)(w:World)(h:Hp)(g:G w h)(hA:Si A d h)(tb:Tab h):CR 10 #[.slice A d.length c,nV n] w h (fun v h1=>∃ LA cL RA W,∃ L:List PLt,∃ i:List RLt,v=.tuple #[.slice LA L.length cL,.slice RA i.length W]∧L.length≤cL∧i.length≤W∧L=mD d n∧SlO 6 pd ca h1 LA L∧SlO 4 qu dz h1 RA i∧RLs h1 i L):=by
 have e:=(((sS g).aS hA).aB tb);have hn3:ek.length=3:=rfl;refine go Tryz.func10 [(0,qS A d.length c),(1,nV n)] rfl (aa e [.v 4 (sZ),.v 5 (sZ)] (aI (lL e [.v 6 (sZ)] (aI (lL e [.v 7 (sZ)] (ah (aa e [.v 8 (iV 0)] (a8 ?_))))))));replace e:=e.nil 89 4;replace e:=e.nil 87 6;refine bH [(0,qS A d.length c),(1,nV n),(4,sZ),(5,sZ),(8,iV 0),(6,sZ),(7,sZ)] ?_;replace e:=e.add (K:=fun J=>RLs J ([]) (mD d 0)) (RLs.nil);refine CG.loop (fun μ_ Γ w_=>∃ (k:Nat) (o:Option Addr) (B:Nat) (C:List PLt) (z:Option Addr) (j:Nat) (i:List RLt) (J:Hp),μ_=n-k∧Γ=[(0,qS A d.length c),(1,nV n),(4,sZ),(5,sZ),(8,nV k),(6,qS o ((C).length) B),(7,qS z ((i).length) j)]∧SS w h w_ J [] [⟨87,6,o,B,(C).length,(C).flatMap pd⟩,⟨89,4,z,j,(i).length,(i).flatMap qu⟩] [fun J=>RLs J i (mD d k),fun J=>Tab J,Si A d]∧k≤n∧C=mD d k) _ ⟨0,none,0,[],none,0,[],h,rfl,rfl,e.to _ _,K7 _,rfl⟩ ?_;rintro _ _ w1 ⟨k,o,B,C,z,j,i,h2,hm3,rfl,e,hk,O⟩;have hlb:=(e.f.1).len;have hla:C.length=k:=by rw[O];exact jB _ _
 rw[jB] at hlb
 refine cQ (aa e [.m 10 8,.m 11 1] ?_);cases M:(decide ((k:Int)<(n:Int)))
 ·
  have X:=oF M;refine lB 12 M (af (CG.exit ?_))
  show CG _ _ _ _ _ _ _ _
  refine aa e [.m 45 6,.m 46 7,.m 4 45,.m 5 46] (lN (kX ?_));have hkq:k=n:=by omega
  subst hkq;obtain ⟨h5,e,hc6⟩:=e.pubr 0 (A:=o) (c:=B) (l:=C) (f:=pd) (ty:=87) (sz:=6) ca (fun _=>rfl);obtain ⟨h8,e,Z⟩:=e.pubr 0 (A:=z) (c:=j) (l:=i) (f:=qu) (ty:=89) (sz:=4) dz (fun _=>rfl);exact e.ret [] (.tuple #[qS o ((C).length) B,qS z ((i).length) j]) (⟨_,_,_,_,C,i,rfl,hc6,Z,O,e.f.2.1,e.f.1,O▸(e.f.r.1)⟩)
 have X:=oT M;refine lB 12 M (ak (cK (cQ (kZ (aa e [.m 15 0,.m 16 0,.v 17 (nV d.length),.m 18 8] (lV 19 (iV (min (d.length:Int) (k:Int))) ?_ (hr:=aK (n:=(if (k:Int)<(d.length:Int) then (k:Int) else (d.length:Int))) kR (by simp only[em]))))))));refine lF 20 A d.length c 1 (min (d.length:Int) (k:Int)) (min d.length k) (lC 21 e ((by have q_:=IU (if c=(min d.length k) then A else A.map (·.add ((min d.length k)*1))) (c-(min d.length k)) (d.drop ((min d.length k))) 1 oM (by rw[Kx];omega) (uh hz _) _ _ e.g ((e.f.r.1).drop ((min d.length k)) c hc);rw[Kx] at q_;exact q_)) ?_);rintro _ _ _ e ⟨Ar,cr,tr,rfl,hcr,hAr,hTr⟩;replace e:=((e.aS hAr).aT hTr);have S:=(e.f.1).len;rw[lE] at S
 have bb:(cg (d.drop (min d.length k)) 1).length=1:=lE _ _;refine lX 22 Ar tr.length cr 3 0 0 ((e.f.2.1).ok oM) ?_;obtain ⟨H,D,I,F,ex,V,Q,hAx,hDx⟩:=(e.f.1).at_ 0 oM;replace e:=e.aP hAx hDx;refine Ja 23 (rA (tr.getD 0 sv)) e ((e.f.r.2.1).el 0 oM) ex (lA 9 28 ec e (fun b13 _ _ e=>lP 0 0 (cW ((cg (d.drop (min d.length k)) 1).getD 0 0) H D I F) e (fun _ e=>ah (CG.region ⟨((Dx o ((C).length) B).ownBlock.toList),none⟩ 11 [] mixed kR e.g ar (e.ro_lt 0 (ty:=87) (sz:=6) (A:=o) (c:=B) (m:=(C).length) (cs:=(C).flatMap pd)) ?_))));refine eV 0 24 (qS o ((C).length) B) (eV 2 26 (nV k) (eV 3 27 (nV (k%3)) ?_ (hv:=fun _=>aK (dU (t:=3) (u:=3) (x:=.tmp 26) (y:=.const (iV 3)) (k:=.i64) (a:=(k:Int)) (b:=(3:Int)) kR kR kR oM _) (cp k 3))));refine eO 6 30 [(0,0,3)] (rG ((cg (d.drop (min d.length k)) 1).getD 0 0) H D I F) e ?_ (hM:=fun p hp=>by obtain rfl:=pa.1 hp;exact e.ro_ne 0 0 (ty:=87) (sz:=6) (A:=o) (c:=B) (m:=(C).length) (cs:=(C).flatMap pd));refine eC 1 25 e (fun _ _ e=>pU _ _ e.g) ?_;rintro _ _ _ _ _ e ⟨bn1,rfl,Y⟩;replace e:=e.aS Y;refine eX 4 28 (sB bn1) 3 3 1 (k%3:Nat) (k%3) ((e.f.1).ok oM) (eH 5 29 (.string (ek.getD (k%3) ⟨#[]⟩)) e ((e.f.1).el (k%3) oM) ?_ (hM:=e.ro_jk 0 (ty:=87) (sz:=6) (A:=o) (c:=B) (m:=(C).length) (cs:=(C).flatMap pd)));refine aq 7 31 e (fun _ _ e=>Jj ((cg (d.drop (min d.length k)) 1).getD 0 0) H D I F V Q ((ny _ 1 0).mono oM) _ _ e.g e.f.r.1 e.f.2.1 e.f.q.r.1) (fun _ _ e=>eV 8 32 (.agg #[.string (ek.getD (k%3) ⟨#[]⟩),.bool (ai ((cg (d.drop (min d.length k)) 1).getD 0 0).num),uV (lo (ab ((cg (d.drop (min d.length k)) 1).getD 0 0).num)),.string (hi (ab ((cg (d.drop (min d.length k)) 1).getD 0 0).num)),uV (lo (qd ((cg (d.drop (min d.length k)) 1).getD 0 0))),.string (hi (qd ((cg (d.drop (min d.length k)) 1).getD 0 0)))]) (eR 9 33 87 1 ([.string (ek.getD (k%3) ⟨#[]⟩),.bool (ai ((cg (d.drop (min d.length k)) 1).getD 0 0).num),uV (lo (ab ((cg (d.drop (min d.length k)) 1).getD 0 0).num)),.string (hi (ab ((cg (d.drop (min d.length k)) 1).getD 0 0).num)),uV (lo (qd ((cg (d.drop (min d.length k)) 1).getD 0 0))),.string (hi (qd ((cg (d.drop (min d.length k)) 1).getD 0 0)))]) e (fun ze _ _ e=>eY 10 34 0 87 6 B o C pd (⟨ek.getD (k%3) ⟨#[]⟩,((cg (d.drop (min d.length k)) 1).getD 0 0)⟩:PLt) 72 ze (.agg #[eS,qF,uV 0,eS,uV 0,eS]) e (fun _ f_=>f_.1) (fun b hb=>Mu.2 hb) (fun za zb _ _ e=>ck e (fun _ _ e=>tV 11 6 (qS za ((C++[(⟨ek.getD (k%3) ⟨#[]⟩,((cg (d.drop (min d.length k)) 1).getD 0 0)⟩:PLt)]).length) zb) (tN (CG.region ⟨((Dx z ((i).length) j).ownBlock.toList),none⟩ 10 [] mixed kR e.g ar (e.ro_lt 1 (ty:=89) (sz:=4) (A:=z) (c:=j) (m:=(i).length) (cs:=(i).flatMap qu)) ?_)))))));refine eV 0 35 (qS z ((i).length) j) (eV 2 37 (nV k) (eV 3 38 (nV (k%3)) ?_ (hv:=fun _=>aK (dU (t:=3) (u:=3) (x:=.tmp 37) (y:=.const (iV 3)) (k:=.i64) (a:=(k:Int)) (b:=(3:Int)) kR kR kR oM _) (cp k 3))));refine eO 6 41 [(0,0,3)] (rG ((cg (d.drop (min d.length k)) 1).getD 0 0) H D I F) e ?_ (hM:=fun p hp=>by obtain rfl:=pa.1 hp;exact e.ro_ne 0 1 (ty:=89) (sz:=4) (A:=z) (c:=j) (m:=(i).length) (cs:=(i).flatMap qu));refine eC 1 36 e (fun _ _ e=>pU _ _ e.g) ?_;rintro _ _ _ _ _ e ⟨bn2,rfl,U⟩;replace e:=e.aS U;refine eX 4 39 (sB bn2) 3 3 1 (k%3:Nat) (k%3) ((e.f.1).ok oM) (eH 5 40 (.string (ek.getD (k%3) ⟨#[]⟩)) e ((e.f.1).el (k%3) oM) ?_ (hM:=e.ro_jk 1 (ty:=89) (sz:=4) (A:=z) (c:=j) (m:=(i).length) (cs:=(i).flatMap qu)));refine eV 7 42 (.agg #[.string (ek.getD (k%3) ⟨#[]⟩),.bool (ai ((cg (d.drop (min d.length k)) 1).getD 0 0).num),qS H ((lim (ab ((cg (d.drop (min d.length k)) 1).getD 0 0).num)).length) D,qS I ((lim ((cg (d.drop (min d.length k)) 1).getD 0 0).den).length) F]) (eR 8 43 89 1 ([.string (ek.getD (k%3) ⟨#[]⟩),.bool (ai ((cg (d.drop (min d.length k)) 1).getD 0 0).num),qS H ((lim (ab ((cg (d.drop (min d.length k)) 1).getD 0 0).num)).length) D,qS I ((lim ((cg (d.drop (min d.length k)) 1).getD 0 0).den).length) F]) e (fun zf _ _ e=>eY 9 44 1 89 4 j z i qu (⟨ek.getD (k%3) ⟨#[]⟩,ai ((cg (d.drop (min d.length k)) 1).getD 0 0).num,H,((lim (ab ((cg (d.drop (min d.length k)) 1).getD 0 0).num)).length),D,I,((lim ((cg (d.drop (min d.length k)) 1).getD 0 0).den).length),F⟩:RLt) 72 zf (.agg #[eS,qF,sZ,sZ]) e (fun _ f_=>f_.1) (fun b hb=>Mu.2 hb) (fun zc zd _ _ e=>ck e (fun _ zg e=>tV 10 7 (qS zc ((i++[(⟨ek.getD (k%3) ⟨#[]⟩,ai ((cg (d.drop (min d.length k)) 1).getD 0 0).num,H,((lim (ab ((cg (d.drop (min d.length k)) 1).getD 0 0).num)).length),D,I,((lim ((cg (d.drop (min d.length k)) 1).getD 0 0).den).length),F⟩:RLt)]).length) zd) (tN (bH [(0,qS A d.length c),(1,nV n),(4,sZ),(5,sZ),(8,nV k),(6,qS za ((C++[(⟨ek.getD (k%3) ⟨#[]⟩,((cg (d.drop (min d.length k)) 1).getD 0 0)⟩:PLt)]).length) zb),(7,qS zc ((i++[(⟨ek.getD (k%3) ⟨#[]⟩,ai ((cg (d.drop (min d.length k)) 1).getD 0 0).num,H,((lim (ab ((cg (d.drop (min d.length k)) 1).getD 0 0).num)).length),D,I,((lim ((cg (d.drop (min d.length k)) 1).getD 0 0).den).length),F⟩:RLt)]).length) zd)] ?_))))));refine kQ (lL e [.m 13 8] (bD 14 ((k:Nat)+1) (k+1) ?_));refine lL e [.m 8 14] (lD ?_);intro a_ ka;replace e:=(e.tl.tl.tl.tl.tl.tl.tl.tl.tl.add (K:=fun J=>RLs J (i++[(⟨ek.getD (k%3) ⟨#[]⟩,ai ((cg (d.drop (min d.length k)) 1).getD 0 0).num,H,((lim (ab ((cg (d.drop (min d.length k)) 1).getD 0 0).num)).length),D,I,((lim ((cg (d.drop (min d.length k)) 1).getD 0 0).den).length),F⟩:RLt)]) (mD d (k+1))) ((e.f.q.q.1).snoc rfl ⟨true,⟨_,_,_,_,rfl,V,Q,e.f.q.2.1,e.f.q.1⟩,fun J=>MO J kD⟩));replace e:=e.drop 1 0;refine ⟨_,_,?_,⟨k+1,za,zb,C++[(⟨ek.getD (k%3) ⟨#[]⟩,((cg (d.drop (min d.length k)) 1).getD 0 0)⟩:PLt)],zc,zd,i++[(⟨ek.getD (k%3) ⟨#[]⟩,ai ((cg (d.drop (min d.length k)) 1).getD 0 0).num,H,((lim (ab ((cg (d.drop (min d.length k)) 1).getD 0 0).num)).length),D,I,((lim ((cg (d.drop (min d.length k)) 1).getD 0 0).den).length),F⟩:RLt)],zg,rfl,rfl,e.to _ _,oM,(by rw[O];rfl)⟩,ka.to _ kR⟩
 omega
theorem FF (A:Option Addr)(b:Nat)(c:List Int)(x:c.length≤9223372036854775807)(hz:kM c)(dp:Nat)(hdp:dp≤1000)(w:World)(h:Hp)(g:G w h)(p:Si A c h):CR 5 #[.slice A c.length b,nV dp] w h (fun v h1=>∃ (r:RTm) (t:Tm),v=bE r∧RmH (dp+1) h1 r t∧GrT (dp+1) t):=by
 have a:=((sS g).aS p);refine go Tryz.func5 [(0,qS A c.length b),(1,nV dp)] rfl (av (lA 4 31 ea a (fun o w2 B a=>aI (lL a [.m 5 0,.v 6 (.agg #[qS A c.length b,iV 0])] (lA 7 68 ([qS A c.length b,iV 0]) a (fun e C y a=>lL a [.m 8 1] (d6 9 (Dj e dp rfl A b c x hz dp rfl hdp 0 (K7 _) _ _ a.g (a.own 0) (a.jk 0) a.f.1) ?_)))))));rintro _ z D l ⟨r,t,d,rfl,i,j,hR,u⟩;replace a:=(a.stepM 0 l j).to [⟨e,68,[qS A c.length b,nV d]⟩,⟨o,31,[iV 0,iV 0,qF,sZ,sZ,eS,sZ]⟩] [];replace a:=(a.add (K:=fun k=>RmH (dp+1) k r t) hR);exact lP 1 0 (bU r) a (fun _ a=>ac a [(1,0,7)] (bE r) (⟨r,t,rfl,a.f.1,u⟩))
theorem jG {α β:Type}{f:α→β}{l:List α}{i:Nat}{a:α}{b:β}(h:i<l.length):(l.map f).getD i b=f (l.getD i a):=by
 simp[List.getD_eq_getElem?_getD,h]
section
variable {ok:ByteArray→Prop} {nm:ByteArray} {d e:Nat} {t u:Tm}
theorem EvR.get {L:List PLt}{x:Int}{y:Rat}(h:EvR ok L d t x y)(f:WfT ok d t∧bp d t≤1000):aF L d t=(x,y):=by
 rcases h with ⟨h1,h2,h3,h4⟩|⟨h1,h2,h3⟩
 ·rw[h3,h4]
 ·exact MO f h1
end
def eU (q:Rat):Tm:=.mk 1 0 q ⟨#[]⟩ []
def isN (t:Tm)(z:Rat):Prop:=t.op=1∧t.q=z
instance (t:Tm) (z:Rat):Decidable (isN t z):=by unfold isN;infer_instance
def km (b:Tm):Tm:=if b.op=7 then b.ks.getD 0 bv else .mk 7 0 0 ⟨#[]⟩ [b]
def dq (t a b:Tm):Tm :=
  if t.op=3 then (if isN a 0 then b else if isN b 0 then a else t)
  else if t.op=4 then (if isN b 0 then a else if isN a 0 then km b else t)
  else if t.op=5 then (if isN a 0∨isN b 0 then eU ((0:Int):Rat) else if isN a 1 then b else if isN b 1 then a else t)
  else if t.op=6 then (if isN b 1 then a else t)
  else if t.op=7 then (if a.op=7 then a.ks.getD 0 bv else t)
  else if t.op=8 then (if t.n=0 then eU ((1:Int):Rat) else if t.n=1 then a else t)
  else t
def a6 (t:Tm):Tm:=dq t (t.ks.getD 0 bv) (t.ks.getD 1 bv)
def oC (t:Tm):Prop:=t.ks.length≠0∧(t.ks.getD 0 bv).op=1∧(1<t.ks.length→(t.ks.getD 1 bv).op=1)
instance (t:Tm):Decidable (oC t):=by unfold oC;infer_instance
def d7 (t:Tm):Prop:=oC t∧(aF [] 2 t).1=0
instance (t:Tm):Decidable (d7 t):=by unfold d7;infer_instance
def dE (t:Tm):Tm:=if d7 t then eU (aF [] 2 t).2 else a6 t
def aw:Nat→Tm→Tm
  | 0,t=>t
  | d+1,t=>dE (.mk t.op t.n t.q t.s (t.ks.map (aw d)))
def WfQ (c:Nat)(ok:ByteArray→Prop):Nat→Tm→Prop
  | 0,_=>False
  | d+1,t=>d8 t.op=t.ks.length∧(t.op≠1→t.q=0)∧LQ c t.q∧(t.op=2→ok t.s)∧(t.op≠2→t.s=⟨#[]⟩)∧(t.op≠8→t.n=0) ∧ -12≤t.n∧t.n≤12∧∀ i,i<t.ks.length→WfQ c ok d (t.ks.getD i bv)
theorem WfQ.mono {ok:ByteArray→Prop}{c c2:Nat}(a:c≤c2):∀ {d e:Nat} {t:Tm},WfQ c ok d t→d≤e→WfQ c2 ok e t
 | d+1,e+1,_,⟨h1,h2,h3,h4,h5,h6,h7,h8,h9⟩,u=>⟨h1,h2,h3.mono a,h4,h5,h6,h7,h8,fun i hi=>WfQ.mono a (h9 i hi) oM⟩
theorem WfQ.wf {ok:ByteArray→Prop}:∀ {d:Nat} {t:Tm},WfQ 3000 ok d t→WfT ok d t
 | _+1,_,⟨h1,h2,h3,h4,h5,h6,h7,h8,h9⟩=>⟨h1,h2,h3,h4,h5,h6,h7,h8,fun i hi=>WfQ.wf (h9 i hi)⟩
theorem WfT.wfq {ok:ByteArray→Prop}:∀ {d:Nat} {t:Tm},WfT ok d t→WfQ 3000 ok d t
 | _+1,_,⟨h1,h2,h3,h4,h5,h6,h7,h8,h9⟩=>⟨h1,h2,h3,h4,h5,h6,h7,h8,fun i hi=>WfT.wfq (h9 i hi)⟩
theorem io {ok sm:ByteArray→Prop}:∀ {d:Nat} {t:Tm},WfT ok d t→SmT1 sm d t→WfQ 1 ok d t
 | _+1,_,⟨h1,h2,_,h4,h5,h6,h7,h8,h9⟩,⟨_,_,_,s4,_,s6⟩=>⟨h1,h2,s4,h4,h5,h6,h7,h8,fun i hi=>io (h9 i hi) (s6 i hi)⟩
theorem gN {d:Nat}{op n:Int}{q:Rat}{s:ByteArray}{a:Tm}:bp (d+1) (.mk op n q s [a])=f9 op n*bp d a:=by
 rw[je (show [a].length≠0 from Mr _)];show _*(0+bp d a)=_;rw[z6]
theorem jA {d:Nat}{op n:Int}{q:Rat}{s:ByteArray}{a b:Tm}:bp (d+1) (.mk op n q s [a,b])=f9 op n*(bp d a+bp d b):=by
 rw[je (show [a,b].length≠0 from Mr _)];show _*(0+bp d a+bp d b)=_;rw[z6]
section
variable {ok:ByteArray→Prop} {c:Nat}
theorem WfQ.split {d:Nat}{op n:Int}{q:Rat}{s:ByteArray}{ks:List Tm}(w:WfQ c ok (d+1) (.mk op n q s ks)):(ks=[]∧(op=1∨op=2))∨(∃ a,ks=[a]∧(op=7∨op=8∨op=9∨op=10∨op=11)∧WfQ c ok d a)∨(∃ a b,ks=[a,b]∧(op=3∨op=4∨op=5∨op=6∨op=12∨op=13)∧WfQ c ok d a∧WfQ c ok d b):=by
 obtain ⟨h1,i,o,j,h,f,k,p,e⟩:=w;replace h1:d8 op=(ks.length:Nat):=h1;have l:=aE op
 rcases jj h1 with rfl|⟨a,rfl⟩|⟨a,b,rfl⟩
 ·simp only[Mq] at h1;exact .inl ⟨rfl,by omega⟩
 ·simp only[un,Mq] at h1;exact .inr (.inl ⟨a,rfl,by omega,e 0 (K9 _)⟩)
 ·simp only[un,Mq] at h1;exact .inr (.inr ⟨a,b,rfl,by omega,e 0 (K9 _),e 1 (by show 1<2;decide)⟩)
theorem WfQ.pos {d:Nat}{t:Tm}(w:WfQ c ok d t):1≤d:=by
 cases d with
 | zero=>exact w.elim
 | succ d=>omega
theorem fN:∀ {d:Nat} {t:Tm},WfQ c ok d t→1≤bp d t
  | d+1,.mk op n q s ks,w=>by
    have w1:=cV op n
    rcases w.split with ⟨rfl,_⟩|⟨a,rfl,_,ha⟩|⟨a,b,rfl,_,ha,hb⟩
    · rw[ml rfl];exact ey _
    · rw[gN];exact ez (fN ha) (Ls _ w1)
    · rw[jA];have:=fN ha;exact ez (by omega:1≤bp d a+bp d b) (Ls _ w1)
theorem i7:∀ {d e:Nat} {t:Tm},WfQ c ok d t→d≤e→bp e t=bp d t
  | d+1,e+1,.mk op n q s ks,w,he=>by
    rcases w.split with ⟨rfl,_⟩|⟨a,rfl,_,ha⟩|⟨a,b,rfl,_,ha,hb⟩
    · rw[ml rfl,ml rfl]
    · rw[gN,gN,i7 ha (show d≤e by omega)]
    · rw[jA,jA,i7 ha (show d≤e by omega),i7 hb (show d≤e by omega)]
def Fit (c:Nat)(ok:ByteArray→Prop)(d m:Nat)(t:Tm):Prop:=WfQ c ok d t∧bp d t≤m
theorem Fit.mono {c2 d e m m2:Nat}{t:Tm}(f:Fit c ok d m t)(b:c≤c2)(a:d≤e)(h:m≤m2):Fit c2 ok e m2 t :=
 ⟨f.1.mono b a,by rw[i7 f.1 a];exact ez f.2 h⟩
theorem jq {d m:Nat}{q:Rat}(h:LQ c q)(b:1≤m):Fit c ok (d+1) m (eU q) :=
 ⟨⟨rfl,fun a=>MO rfl a,h,fun a=>MO (show (1:Int)=2 from a) kD,fun _=>rfl,fun _=>rfl,(by show (-12:Int)≤0;decide),(by show (0:Int)≤12;decide),fun i hi=>MO hi (Mk _)⟩,by show bp (d+1) (.mk 1 0 q ⟨#[]⟩ [])≤m;rw[ml rfl];exact b⟩
theorem WfQ.leaf {d:Nat}{t:Tm}(w:WfQ c ok d t)(h:t.op=1):t=eU t.q∧LQ c t.q:=by
  cases d with
  | zero=>exact w.elim
  | succ d =>
    obtain ⟨op,n,q,s,ks⟩:=t;obtain rfl:op=1:=h
    rcases w.split with ⟨rfl,_⟩|⟨a,rfl,ho,_⟩|⟨a,b,rfl,ho,_⟩
    · obtain ⟨h1,k,f,o,i,e,p,l,j⟩:=w
      obtain rfl:s=⟨#[]⟩:=i (by show (1:Int)≠2;decide);obtain rfl:n=0:=e (by show (1:Int)≠8;decide);exact ⟨rfl,f⟩
    · exact MO ho kD
    · exact MO ho kD
theorem kF {L:List PLt}{d:Nat}{q:Rat}:aF L (d+1) (eU q)=(0,q):=by
 show aF L (d+1) (.mk 1 0 q ⟨#[]⟩ [])=_
 rw[md kD,gn rfl rfl ⟨fun h=>MO h kD,fun h=>MO h kD⟩]
 unfold gC;rw[MN ⟨fun h=>MO h kD,fun h=>MO h kD⟩];rfl
theorem WfQ.ev {L:List PLt}{d:Nat}{t:Tm}(w:WfQ c ok d t)(h:t.op=1):aF L d t=(0,t.q):=by
 have b:=w.pos;obtain ⟨e,rfl⟩:∃ e,d=e+1:=⟨d-1,by omega⟩;have a:=(w.leaf h).1;rw[a,kF];rfl
theorem WfQ.kid7 {d:Nat}{t:Tm}(w:WfQ c ok (d+1) t)(h:t.op=7):WfQ c ok d (t.ks.getD 0 bv)∧bp d (t.ks.getD 0 bv)≤bp (d+1) t∧(∀ L,aF L (d+1) t=mP 7 t.n t.q (aF L d (t.ks.getD 0 bv)).1 0 (aF L d (t.ks.getD 0 bv)).2 0):=by
 obtain ⟨op,n,q,s,ks⟩:=t;obtain rfl:op=7:=h
 rcases w.split with ⟨rfl,ho⟩|⟨a,rfl,ho,ha⟩|⟨a,b,rfl,ho,_⟩
 ·exact MO ho kD
 ·refine ⟨ha,?_,fun L=>?_⟩
  ·rw[gN];exact Ls _ (cV _ _)
  ·exact fJ kD
 ·exact MO ho kD
theorem BQ {d m:Nat}{b:Tm}(a:1≤c)(f:Fit c ok d m b):Fit c ok (d+1) m (km b):=by
 have l:=f.1.pos;obtain ⟨e,rfl⟩:∃ e,d=e+1:=⟨d-1,by omega⟩
 unfold km
 split
 ·rename_i h
  obtain ⟨h1,j,_⟩:=f.1.kid7 h;exact Fit.mono ⟨h1,ez j f.2⟩ (ey _) oM (ey _)
 ·refine ⟨⟨rfl,fun _=>rfl,(LQ.lit (z:=0) kD).mono a,fun k=>MO (show (7:Int)=2 from k) kD,fun _=>rfl,fun _=>rfl,(by show (-12:Int)≤0;decide),(by show (0:Int)≤12;decide),fun i hi=>?_⟩,?_⟩
  ·obtain rfl:i=0:=MH.1 hi
   exact f.1
  ·rw[gN];show 1*_≤m;rw[Nat.one_mul];exact f.2
theorem wW {d:Nat}{t:Tm}(i:1≤c)(w:WfQ c ok (d+1) t):Fit c ok (d+1) (bp (d+1) t) (a6 t):=by
  have h:Fit c ok (d+1) (bp (d+1) t) t:=⟨w,ey _⟩;have j:=fN w;have u:Fit c ok (d+1) (bp (d+1) t) (eU ((0:Int):Rat)):=jq ((LQ.lit (z:=0) kD).mono i) j;have l:Fit c ok (d+1) (bp (d+1) t) (eU ((1:Int):Rat)):=jq ((LQ.lit (z:=1) kD).mono i) j;obtain ⟨op,n,q,s,ks⟩:=t;have w1:=cV op n
  rcases w.split with ⟨rfl,ho⟩|⟨a,rfl,ho,ha⟩|⟨a,b,rfl,ho,ha,hb⟩
  · have e:a6 (.mk op n q s [])=.mk op n q s []:=by
      show dq (.mk op n q s []) bv bv=_
      unfold dq
      show (if op=3 then _ else if op=4 then _ else if op=5 then _ else if op=6 then _ else if op=7 then _ else if op=8 then _ else _)=_
      rw[MM oM,MM oM,MM oM,MM oM,MM oM,MM oM]
    rw[e];exact h
  · have f:Fit c ok (d+1) (bp (d+1) (.mk op n q s [a])) a:=Fit.mono ⟨ha,ey _⟩ (ey _) oM (by rw[gN];exact Ls _ w1)
    show Fit c ok (d+1) _ (dq (.mk op n q s [a]) a bv)
    unfold dq
    show Fit c ok (d+1) _ (if op=3 then _ else if op=4 then _ else if op=5 then _ else if op=6 then _ else if op=7 then _ else if op=8 then _ else _)
    rw[MM oM,MM oM,MM oM,MM oM]
    split
    · split
      · rename_i p
        have B:=f.1.pos;obtain ⟨h1,o,_⟩:=f.1.kid7 p;exact Fit.mono ⟨h1,ez o f.2⟩ (ey _) oM (ey _)
      · exact h
    · split
      · split
        · exact l
        · split
          · exact f
          · exact h
      · exact h
  · have y:bp d a+bp d b≤bp (d+1) (.mk op n q s [a,b]):=by rw[jA];exact Ls _ w1
    have f:Fit c ok (d+1) (bp (d+1) (.mk op n q s [a,b])) a:=Fit.mono ⟨ha,ey _⟩ (ey _) oM oM;have k:Fit c ok (d+1) (bp (d+1) (.mk op n q s [a,b])) b:=Fit.mono ⟨hb,ey _⟩ (ey _) oM oM;have x:Fit c ok (d+1) (bp (d+1) (.mk op n q s [a,b])) (km b):=(BQ i (d:=d) (m:=bp d b) ⟨hb,ey _⟩).mono (ey _) (ey _) oM
    show Fit c ok (d+1) _ (dq (.mk op n q s [a,b]) a b)
    unfold dq
    show Fit c ok (d+1) _ (if op=3 then _ else if op=4 then _ else if op=5 then _ else if op=6 then _ else if op=7 then _ else if op=8 then _ else _)
    split
    · split
      · exact k
      · split
        · exact f
        · exact h
    split
    · split
      · exact f
      · split
        · exact x
        · exact h
    split
    · split
      · exact u
      · split
        · exact k
        · split
          · exact f
          · exact h
    split
    · split
      · exact f
      · exact h
    rw[MM oM,MM oM];exact h
theorem fu {d:Nat}{L:List PLt}{op n:Int}{q:Rat}{s:ByteArray}{a:Tm}(h:op≠2)(ha:WfQ c ok d a)(h1:a.op=1):aF L (d+1) (.mk op n q s [a])=mP op n q 0 0 a.q 0:=by
 rw[fJ h,ha.ev h1]
theorem d5 {c2 d:Nat}{L:List PLt}{op n:Int}{q:Rat}{s:ByteArray}{a b:Tm}(h:op≠2)(ha:WfQ c ok d a)(h1:a.op=1)(e:WfQ c2 ok d b)(f:b.op=1):aF L (d+1) (.mk op n q s [a,b])=mP op n q 0 0 a.q b.q:=by
 rw[fw h,ha.ev h1,e.ev f]
theorem WfQ.leaf1 {d:Nat}{t:Tm}(w:WfQ c ok d t)(h:t.op=1):WfQ c ok 1 t:=by
 obtain ⟨e,l⟩:=w.leaf h;rw[e];exact (jq (d:=0) (m:=1) l (ey _)).1
theorem jz {d:Nat}{t:Tm}(w:WfQ c ok (d+1) t)(h:oC t):aF [] (d+1) t=aF [] 2 t:=by
 obtain ⟨op,n,q,s,ks⟩:=t
 rcases w.split with ⟨rfl,ho⟩|⟨a,rfl,ho,ha⟩|⟨a,b,rfl,ho,ha,hb⟩
 ·exact MO rfl h.1
 ·have e:a.op=1:=h.2.1
  rw[fu oM ha e,fu oM (ha.leaf1 e) e]
 ·have e:a.op=1:=h.2.1
  have f:b.op=1:=h.2.2 (by show 1<2;decide);rw[d5 oM ha e hb f,d5 oM (ha.leaf1 e) e (hb.leaf1 f) f]
theorem vP {d:Nat}{op n:Int}{q:Rat}{s:ByteArray}{ks:List Tm}{f:Tm→Tm}(w:WfQ c ok (d+1) (.mk op n q s (ks.map f))):oC (.mk op n q s (ks.map f))↔(0<ks.length∧∀ i,i<ks.length→(f (ks.getD i bv)).op=1):=by
 have y:(ks.map f).length=ks.length:=MI ..;have e:∀ i,i<ks.length→(ks.map f).getD i bv=f (ks.getD i bv):=fun i hi=>jG (a:=bv) hi
 have u:ks.length≤2:=by
  have p:d8 op=((ks.map f).length:Nat):=w.1;have z:=aE op
  omega
 constructor
 ·rintro ⟨h1,b,o⟩
  have l:(ks.map f).length≠0:=h1;have k:((ks.map f).getD 0 bv).op=1:=b;have j:1<(ks.map f).length→((ks.map f).getD 1 bv).op=1:=o;refine ⟨by omega,fun i hi=>?_⟩
  rcases (by omega:i=0∨i=1) with rfl|rfl
  ·rw[←e 0 hi];exact k
  ·rw[←e 1 hi];exact j oM
 ·rintro ⟨h1,b⟩
  refine ⟨by show (ks.map f).length≠0;omega,?_,fun h=>?_⟩
  ·show ((ks.map f).getD 0 bv).op=1;rw[e 0 h1];exact b 0 h1
  ·have h':1<ks.length:=by have x:1<(ks.map f).length:=h;omega
   show ((ks.map f).getD 1 bv).op=1;rw[e 1 h'];exact b 1 h'
theorem gd {t:Tm}(h:d7 t):dE t=eU (aF [] 2 t).2:=MN h
theorem bZ {t:Tm}(h:¬d7 t):dE t=a6 t:=MM h
theorem eg:∀ {d:Nat} {t:Tm},WfQ 1 ok d t→Fit (3*bp d t-2) ok d (bp d t) (aw d t)
  | d + 1,.mk op n q s ks,w=>by
    have w1:=cV op n;have k:=fN w;obtain ⟨h1,D,j,F,C,B,H,I,M⟩:=id w;replace j:LQ 1 q:=j
    have nm:∀ {t2:Tm},¬d7 t2→WfQ (3*bp (d+1) (.mk op n q s ks)-2) ok (d+1) t2→bp (d+1) t2≤bp (d+1) (.mk op n q s ks)→Fit (3*bp (d+1) (.mk op n q s ks)-2) ok (d+1) (bp (d+1) (.mk op n q s ks)) (dE t2):=fun J x p=>by
      rw[bZ J];exact (wW oM x).mono (ey _) (ey _) p
    rcases w.split with ⟨rfl,ho⟩|⟨a,rfl,ho,ha⟩|⟨a,b,rfl,ho,ha,hb⟩
    · show Fit _ ok (d+1) _ (dE (.mk op n q s []))
      exact nm (fun h=>h.1.1 rfl) (w.mono oM (ey _)) (ey _)
    · have c:=eg ha
      have y:=fN ha;have e:=gN (d:=d) (op:=op) (n:=n) (q:=q) (s:=s) (a:=a);have p:bp d a≤bp (d+1) (.mk op n q s [a]):=by rw[e];exact Ls _ w1
      have u:WfQ (3*bp (d+1) (.mk op n q s [a])-2) ok (d+1) (.mk op n q s [aw d a]):=⟨h1,D,j.mono oM,F,C,B,H,I,fun i hi=>by
        obtain rfl:i=0:=MH.1 hi;exact c.1.mono oM (ey _)⟩
      show Fit _ ok (d+1) _ (dE (.mk op n q s [aw d a]))
      by_cases hf:d7 (.mk op n q s [aw d a])
      · rw[gd hf]
        have f:(aw d a).op=1:=hf.1.2.1;refine jq ?_ k;rw[fu oM (c.1.leaf1 f) f];have:=n5 (op:=op) (n:=n) (e1:=0) (e2:=0) (b:=0) (ey 3) y (c.1.leaf f).2 (wb:=0) (fun o=>MO o kD) (fun o=>MO (o.symm.trans h1) (by show (2:Int)≠((1:Nat):Int);decide)) j oM;rw[Nat.add_zero,←e] at this
        exact this
      · exact nm hf u (by rw[gN,e];exact Ke _ c.2)
    · have c:=eg ha
      have l:=eg hb;have y:=fN ha;have L:=fN hb;have e:=jA (d:=d) (op:=op) (n:=n) (q:=q) (s:=s) (a:=a) (b:=b);have p:bp d a+bp d b≤bp (d+1) (.mk op n q s [a,b]):=by rw[e];exact Ls _ w1
      have u:WfQ (3*bp (d+1) (.mk op n q s [a,b])-2) ok (d+1) (.mk op n q s [aw d a,aw d b]):=⟨h1,D,j.mono oM,F,C,B,H,I,fun i hi=>by
        have K:i<2:=hi
        rcases (by omega:i=0∨i=1) with rfl|rfl
        · exact c.1.mono oM (ey _)
        · exact l.1.mono oM (ey _)⟩
      show Fit _ ok (d+1) _ (dE (.mk op n q s [aw d a,aw d b]))
      by_cases hf:d7 (.mk op n q s [aw d a,aw d b])
      · rw[gd hf]
        have f:(aw d a).op=1:=hf.1.2.1;have z:(aw d b).op=1:=hf.1.2.2 (by show 1<2;decide);refine jq ?_ k;rw[d5 oM (c.1.leaf1 f) f (l.1.leaf1 z) z];have:=n5 (op:=op) (n:=n) (e1:=0) (e2:=0) (ey 3) y (c.1.leaf f).2 (wb:=bp d b) (fun _=>(l.1.leaf z).2) (fun _=>L) j oM;rw[←e] at this
        exact this
      · exact nm hf u (by rw[jA,e];exact Ke _ (MJ c.2 l.2))
theorem lM {d:Nat}{op n:Int}{q:Rat}{s:ByteArray}{ks:List Tm}(w:WfQ 1 ok (d+1) (.mk op n q s ks)):Fit (3*bp (d+1) (.mk op n q s ks)-2) ok (d+1) (bp (d+1) (.mk op n q s ks)) (.mk op n q s (ks.map (aw d))):=by
 have w1:=cV op n;have z:=fN w;obtain ⟨h1,k,f,l,j,h,o,u,B⟩:=id w;replace f:LQ 1 q:=f
 rcases w.split with ⟨rfl,ho⟩|⟨a,rfl,ho,ha⟩|⟨a,b,rfl,ho,ha,hb⟩
 ·exact Fit.mono ⟨w,ey _⟩ oM (ey _) (ey _)
 ·have c:=eg ha
  have e:=gN (d:=d) (op:=op) (n:=n) (q:=q) (s:=s) (a:=a);have y:bp d a≤bp (d+1) (.mk op n q s [a]):=by rw[e];exact Ls _ w1
  refine ⟨⟨h1,k,f.mono oM,l,j,h,o,u,fun i hi=>?_⟩,?_⟩
  ·obtain rfl:i=0:=MH.1 hi
   exact c.1.mono oM (ey _)
  ·show bp (d+1) (.mk op n q s [aw d a])≤_
   rw[gN,e];exact Ke _ c.2
 ·have c:=eg ha
  have p:=eg hb;have e:=jA (d:=d) (op:=op) (n:=n) (q:=q) (s:=s) (a:=a) (b:=b);have y:bp d a+bp d b≤bp (d+1) (.mk op n q s [a,b]):=by rw[e];exact Ls _ w1
  refine ⟨⟨h1,k,f.mono oM,l,j,h,o,u,fun i hi=>?_⟩,?_⟩
  ·have x:i<2:=hi
   rcases (by omega:i=0∨i=1) with rfl|rfl
   ·exact c.1.mono oM (ey _)
   ·exact p.1.mono oM (ey _)
  ·show bp (d+1) (.mk op n q s [aw d a,aw d b])≤_
   rw[jA,e];exact Ke _ (MJ c.2 p.2)
theorem eo {L:List PLt}:∀ {d e:Nat} {t:Tm},WfQ c ok d t→d≤e→aF L e t=aF L d t
  | d + 1,e+1,.mk op n q s ks,w,he=>by
    by_cases o2:op=2
    · cases e2:uq L s with
      | none=>rw[k7 o2 e2,k7 o2 e2]
      | some v=>rw[l7 o2 e2,l7 o2 e2]
    · rcases w.split with ⟨rfl,ho⟩|⟨a,rfl,ho,ha⟩|⟨a,b,rfl,ho,ha,hb⟩
      · rw[md o2,md o2]
      · rw[fJ o2,fJ o2,eo ha (show d≤e by omega)]
      · rw[fw o2,fw o2,eo ha (show d≤e by omega),eo hb (show d≤e by omega)]
theorem ii {op n:Int}{q a b v:Rat}{e1 e2:Int}(h:mP op n q e1 e2 a b=(0,v)):e1=0∧e2=0∧i5 op n a b∧v=mB op n q a b:=by
 unfold mP at h
 split at h
 ·rename_i h1;injection h with c _;exact MO c h1
 ·rename_i h1
  split at h
  ·rename_i c;injection h with d _;exact MO d c
  ·rename_i c
   split at h
   ·rename_i d;injection h with _ h4;exact ⟨by omega,by omega,d,h4.symm⟩
   ·injection h with h4 _;exact MO h4 kD
theorem IG {n:Int}{q a b:Rat}:mB 3 n q a b=a+b:=rfl
theorem IS {n:Int}{q a b:Rat}:mB 4 n q a b=a-b:=rfl
theorem ID {n:Int}{q a b:Rat}:mB 5 n q a b=a*b:=rfl
theorem Ic {n:Int}{q a b:Rat}:mB 6 n q a b=a/b:=rfl
theorem Hr {n:Int}{q a b:Rat}:mB 7 n q a b = -a:=rfl
theorem IA {n:Int}{q a b:Rat}:mB 8 n q a b=fB a n:=rfl
theorem IY {n:Int}{a b:Rat}:i5 7 n a b:=⟨fun h=>MO h kD,fun h=>MO h kD⟩
theorem BT {L:List PLt}{d:Nat}{b:Tm}{y:Rat}(w:WfQ c ok d b)(h:aF L d b=(0,y)):aF L (d+1) (km b)=(0,-y):=by
 have l:=w.pos;obtain ⟨e,rfl⟩:∃ e,d=e+1:=⟨d-1,by omega⟩
 unfold km
 split
 ·rename_i k
  obtain ⟨j,_,i⟩:=w.kid7 k;rw[i L] at h
  obtain ⟨f,_,_,a⟩:=ii h;rw[Hr] at a
  rw[eo j (show e≤e+1+1 by omega),a,Rat.neg_neg];exact Prod.ext f rfl
 ·rw[fJ kD,h]
  exact gn rfl rfl IY
theorem isN.ev {L:List PLt}{d:Nat}{t:Tm}{z:Rat}(i:isN t z)(w:WfQ c ok d t):aF L d t=(0,z):=by rw[w.ev i.1,i.2]
theorem xW {L:List PLt}{d:Nat}{t:Tm}{v:Rat}(w:WfQ c ok (d+1) t)(h:aF L (d+1) t=(0,v)):aF L (d+1) (a6 t)=(0,v):=by
  obtain ⟨op,n,q,s,ks⟩:=t;have y:((0:Int):Rat)=0:=rfl;have S:((1:Int):Rat)=1:=rfl
  rcases w.split with ⟨rfl,ho⟩|⟨a,rfl,ho,ha⟩|⟨a,b,rfl,ho,ha,hb⟩
  · have e:a6 (.mk op n q s [])=.mk op n q s []:=by
      show dq (.mk op n q s []) bv bv=_
      unfold dq
      show (if op=3 then _ else if op=4 then _ else if op=5 then _ else if op=6 then _ else if op=7 then _ else if op=8 then _ else _)=_
      rw[MM oM,MM oM,MM oM,MM oM,MM oM,MM oM]
    rw[e];exact h
  · have h' := h
    rw[fJ oM] at h'
    obtain ⟨u,_,_,f⟩:=ii h';have p:aF L d a=(0,(aF L d a).2):=Prod.ext u rfl;have j:aF L (d+1) a=(0,(aF L d a).2):=(eo ha (MK d)).trans p
    show aF L (d+1) (dq (.mk op n q s [a]) a bv)=_
    unfold dq
    show aF L (d+1) (if op=3 then _ else if op=4 then _ else if op=5 then _ else if op=6 then _ else if op=7 then _ else if op=8 then _ else _)=_
    rw[MM oM,MM oM,MM oM,MM oM]
    split
    · rename_i F
      subst F
      split
      · rename_i M
        have U:=ha.pos;obtain ⟨e,rfl⟩:∃ e,d=e+1:=⟨d-1,by omega⟩;obtain ⟨I,_,H⟩:=ha.kid7 M;obtain ⟨J,_,_,x⟩:=ii ((H L).symm.trans p);rw[Hr] at f x
        rw[eo I (show e≤e+1+1 by omega),f,x,Rat.neg_neg];exact Prod.ext J rfl
      · exact h
    · split
      · rename_i Q
        subst Q;rw[IA] at f
        split
        · rename_i K
          rw[kF,f,show n=0 from K];rfl
        · split
          · rename_i D
            rw[j,f,show n=1 from D,ol]
          · exact h
      · exact h
  · have h':=h
    rw[fw oM] at h'
    obtain ⟨u,O,_,f⟩:=ii h';have p:aF L d a=(0,(aF L d a).2):=Prod.ext u rfl;have j:aF L (d+1) a=(0,(aF L d a).2):=(eo ha (MK d)).trans p;have B:aF L d b=(0,(aF L d b).2):=Prod.ext O rfl;have C:aF L (d+1) b=(0,(aF L d b).2):=(eo hb (MK d)).trans B;have l:∀ {z:Rat},isN a z→(aF L d a).2=z:=fun i=>by rw[i.ev ha]
    have k:∀ {z:Rat},isN b z→(aF L d b).2=z:=fun i=>by rw[i.ev hb]
    show aF L (d+1) (dq (.mk op n q s [a,b]) a b)=_
    unfold dq
    show aF L (d+1) (if op=3 then _ else if op=4 then _ else if op=5 then _ else if op=6 then _ else if op=7 then _ else if op=8 then _ else _)=_
    split
    · rename_i o;subst o;rw[IG] at f
      split
      · rename_i i;rw[C,f,l i,Rat.zero_add]
      · split
        · rename_i i;rw[j,f,k i,Rat.add_zero]
        · exact h
    split
    · rename_i o;subst o;rw[IS] at f
      split
      · rename_i i;rw[j,f,k i];congr 1;grind
      · split
        · rename_i i;rw[BT hb B,f,l i];congr 1;grind
        · exact h
    split
    · rename_i o;subst o;rw[ID] at f
      split
      · rename_i i
        rw[kF,f]
        rcases i with i|i
        · rw[l i,y,Rat.zero_mul]
        · rw[k i,y,Rat.mul_zero]
      · split
        · rename_i i;rw[C,f,l i,Rat.one_mul]
        · split
          · rename_i i;rw[j,f,k i,Rat.mul_one]
          · exact h
    split
    · rename_i o;subst o;rw[Ic] at f
      split
      · rename_i i;rw[j,f,k i];congr 1;grind
      · exact h
    rw[MM oM,MM oM];exact h
theorem lu {L:List PLt}{d:Nat}{t:Tm}{v:Rat}(w:WfQ c ok (d+1) t)(h:aF L (d+1) t=(0,v)):aF L (d+1) (dE t)=(0,v):=by
 by_cases hf:d7 t
 ·rw[gd hf,kF]
  obtain ⟨op,n,q,s,ks⟩:=t
  rcases w.split with ⟨rfl,ho⟩|⟨a,rfl,ho,ha⟩|⟨a,b,rfl,ho,ha,hb⟩
  ·exact MO rfl hf.1.1
  ·have e:a.op=1:=hf.1.2.1
   rw[fu oM ha e] at h
   rw[fu oM (ha.leaf1 e) e,h]
  ·have e:a.op=1:=hf.1.2.1
   have f:b.op=1:=hf.1.2.2 (by show 1<2;decide);rw[d5 oM ha e hb f] at h
   rw[d5 oM (ha.leaf1 e) e (hb.leaf1 f) f,h]
 ·rw[bZ hf];exact xW w h
theorem il {L:List PLt}:∀ {d:Nat} {t:Tm} {v:Rat},WfQ 1 ok d t→aF L d t=(0,v)→aF L d (aw d t)=(0,v)
  | d + 1,.mk op n q s ks,v,w,h=>by
    have f:=(lM w).1
    rcases w.split with ⟨rfl,ho⟩|⟨a,rfl,ho,ha⟩|⟨a,b,rfl,ho,ha,hb⟩
    · exact lu f h
    · have h':=h
      rw[fJ oM] at h'
      obtain ⟨c,_,_,_⟩:=ii h';have e:=il ha (show aF L d a=(0,(aF L d a).2) from Prod.ext c rfl);refine lu f ?_
      show aF L (d+1) (.mk op n q s [aw d a])=_
      rw[fJ oM,e,←h',c]
    · have h':=h
      rw[fw oM] at h'
      obtain ⟨c,i,_,_⟩:=ii h';have e:=il ha (show aF L d a=(0,(aF L d a).2) from Prod.ext c rfl);have j:=il hb (show aF L d b=(0,(aF L d b).2) from Prod.ext i rfl);refine lu f ?_
      show aF L (d+1) (.mk op n q s [aw d a,aw d b])=_
      rw[fw oM,e,j,←h',c,i]
def mw:Nat→Tm→Prop
  | 0,_=>False
  | d+1,t=>¬d7 t∧a6 t=t∧∀ i,i<t.ks.length→mw d (t.ks.getD i bv)
theorem gT:∀ {d e:Nat} {t:Tm},mw d t→d≤e→mw e t
 | d+1,e+1,_,⟨h1,h2,h3⟩,u=>⟨h1,h2,fun i hi=>gT (h3 i hi) oM⟩
theorem p8 {d:Nat}{q:Rat}:mw (d+1) (eU q):=⟨fun h=>h.1.1 rfl,rfl,fun i hi=>MO hi (Mk _)⟩
theorem r7 {d:Nat}{t:Tm}(w:WfQ c ok d t)(h:t.op=7)(f:mw d t):mw d (t.ks.getD 0 bv):=by
 have i:=w.pos;obtain ⟨e,rfl⟩:∃ e,d=e+1:=⟨d-1,by omega⟩;obtain ⟨op,n,q,s,ks⟩:=t;obtain rfl:op=7:=h
 rcases w.split with ⟨rfl,ho⟩|⟨a,rfl,ho,ha⟩|⟨a,b,rfl,ho,_⟩
 ·exact MO ho kD
 ·exact gT (f.2.2 0 (K9 _)) oM
 ·exact MO ho kD
theorem Fw {d:Nat}{b:Tm}(w:WfQ c ok d b)(h1:b.op≠1)(f:mw d b):mw (d+1) (km b):=by
 unfold km
 split
 ·rename_i h;exact gT (r7 w h f) oM
 ·rename_i h
  refine ⟨fun hf=>h1 hf.1.2.1,?_,fun i hi=>?_⟩
  ·show (if b.op=7 then _ else _)=_
   exact MM h
  ·obtain rfl:i=0:=MH.1 hi
   exact f
theorem CO {d:Nat}{t:Tm}(w:WfQ c ok (d+1) t)(hf:¬d7 t)(k:∀ i,i<t.ks.length→mw d (t.ks.getD i bv)):a6 t=t∨mw (d+1) (a6 t):=by
  obtain ⟨op,n,q,s,ks⟩:=t
  rcases w.split with ⟨rfl,ho⟩|⟨a,rfl,ho,ha⟩|⟨a,b,rfl,ho,ha,hb⟩
  · left
    show dq (.mk op n q s []) bv bv=_
    unfold dq
    show (if op=3 then _ else if op=4 then _ else if op=5 then _ else if op=6 then _ else if op=7 then _ else if op=8 then _ else _)=_
    rw[MM oM,MM oM,MM oM,MM oM,MM oM,MM oM]
  · have f:mw d a:=k 0 (K9 _)
    show dq (.mk op n q s [a]) a bv=_∨mw (d+1) (dq (.mk op n q s [a]) a bv)
    have e:dq (.mk op n q s [a]) a bv=(if op=7 then (if a.op=7 then a.ks.getD 0 bv else .mk op n q s [a]) else if op=8 then (if n=0 then eU ((1:Int):Rat) else if n=1 then a else .mk op n q s [a]) else .mk op n q s [a]):=by
      unfold dq
      show (if op=3 then _ else if op=4 then _ else if op=5 then _ else if op=6 then _ else if op=7 then _ else if op=8 then _ else _)=_
      rw[MM oM,MM oM,MM oM,MM oM];rfl
    rw[e]
    split
    · split
      · rename_i p;exact .inr (gT (r7 ha p f) oM)
      · exact .inl rfl
    · split
      · split
        · exact .inr p8
        · split
          · exact .inr (gT f oM)
          · exact .inl rfl
      · exact .inl rfl
  · have f:mw d a:=k 0 (K9 _)
    have j:mw d b:=k 1 (by show 1<2;decide)
    show dq (.mk op n q s [a,b]) a b=_∨mw (d+1) (dq (.mk op n q s [a,b]) a b)
    have e:dq (.mk op n q s [a,b]) a b=(if op=3 then (if isN a 0 then b else if isN b 0 then a else .mk op n q s [a,b])
      else if op=4 then (if isN b 0 then a else if isN a 0 then km b else .mk op n q s [a,b])
      else if op=5 then (if isN a 0∨isN b 0 then eU ((0:Int):Rat) else if isN a 1 then b else if isN b 1 then a else .mk op n q s [a,b])
      else if op=6 then (if isN b 1 then a else .mk op n q s [a,b]) else .mk op n q s [a,b]):=by
      have l:(if op=7 then (if a.op=7 then a.ks.getD 0 bv else .mk op n q s [a,b]) else if op=8 then (if n=0 then eU ((1:Int):Rat) else if n=1 then a else .mk op n q s [a,b]) else .mk op n q s [a,b])=Tm.mk op n q s [a,b]:=by
        rw[MM oM,MM oM]
      show (if op=3 then _ else if op=4 then _ else if op=5 then _ else if op=6 then _ else _)=_
      exact congrArg (fun x=>if op=3 then (if isN a 0 then b else if isN b 0 then a else Tm.mk op n q s [a,b])
        else if op=4 then (if isN b 0 then a else if isN a 0 then km b else .mk op n q s [a,b])
        else if op=5 then (if isN a 0∨isN b 0 then eU ((0:Int):Rat) else if isN a 1 then b else if isN b 1 then a else .mk op n q s [a,b])
        else if op=6 then (if isN b 1 then a else .mk op n q s [a,b]) else x) l
    rw[e]
    split
    · split
      · exact .inr (gT j oM)
      · split
        · exact .inr (gT f oM)
        · exact .inl rfl
    split
    · rename_i o;subst o
      split
      · exact .inr (gT f oM)
      · split
        · rename_i i
          refine .inr (Fw hb (fun h1=>hf ⟨⟨Mr _,i.1,fun _=>h1⟩,?_⟩) j);rw[d5 kD (ha.leaf1 i.1) i.1 (hb.leaf1 h1) h1,gn rfl rfl ⟨fun h=>MO h kD,fun h=>MO h kD⟩]
        · exact .inl rfl
    split
    · split
      · exact .inr p8
      · split
        · exact .inr (gT j oM)
        · split
          · exact .inr (gT f oM)
          · exact .inl rfl
    split
    · split
      · exact .inr (gT f oM)
      · exact .inl rfl
    exact .inl rfl
theorem AP {d:Nat}{t:Tm}(w:WfQ c ok (d+1) t)(a:∀ i,i<t.ks.length→mw d (t.ks.getD i bv)):mw (d+1) (dE t):=by
 by_cases hf:d7 t
 ·rw[gd hf];exact p8
 ·rw[bZ hf]
  rcases CO w hf a with e|h
  ·rw[e];exact ⟨hf,e,a⟩
  ·exact h
theorem lr:∀ {d:Nat} {t:Tm},WfQ 1 ok d t→mw d (aw d t)
  | d+1,.mk op n q s ks,w=>by
    refine AP (lM w).1 (fun i hi=>?_);have hi2:i<(ks.map (aw d)).length:=hi;rw[MI] at hi2
    show mw d ((ks.map (aw d)).getD i bv)
    rw[jG (a:=bv) hi2];exact lr (w.2.2.2.2.2.2.2.2 i hi2)
theorem lz {α:Type}{f:α→α}{a:α}:∀ {l:List α},(∀ i,i<l.length→f (l.getD i a)=l.getD i a)→l.map f=l
  | [],_=>rfl
  | x::l,h=>by
    rw[List.map_cons,show f x=x from h 0 (K9 _),lz (fun i hi=>h (i+1) (Nat.succ_lt_succ hi))]
theorem mn:∀ {d:Nat} {t:Tm},mw d t→aw d t=t
  | d+1,.mk op n q s ks,⟨h1,h2,h3⟩=>by
    have e:ks.map (aw d)=ks:=lz (a:=bv) (fun i hi=>mn (h3 i hi))
    show dE (.mk op n q s (ks.map (aw d)))=_
    rw[e,bZ h1,h2]
end
def t6 (ok:ByteArray→Prop):Nat→Tm→Prop
  | 0,_=>False
  | d+1,t=>WfT ok (d+1) (.mk t.op t.n t.q t.s (t.ks.map (aw d)))∧bp (d+1) (.mk t.op t.n t.q t.s (t.ks.map (aw d)))≤1000∧∀ i,i<t.ks.length→t6 ok d (t.ks.getD i bv)
theorem rg {ok:ByteArray→Prop}{c d m:Nat}{op n:Int}{q:Rat}{s:ByteArray}{ks:List Tm}(w:WfQ c ok (d+1) (.mk op n q s ks))(h:bp (d+1) (.mk op n q s ks)≤m)(i:Nat)(hi:i<ks.length):bp d (ks.getD i bv)≤m:=by
 rcases w.split with ⟨rfl,_⟩|⟨a,rfl,_,ha⟩|⟨a,b,rfl,_,ha,hb⟩
 ·exact MO hi (Mk _)
 ·obtain rfl:i=0:=MH.1 hi
  exact kW h
 ·have f:i<2:=hi
  have e:=mh h
  rcases (by omega:i=0∨i=1) with rfl|rfl
  ·exact e.1
  ·exact e.2
theorem wK {ok:ByteArray→Prop}:∀ {d:Nat} {t:Tm},WfQ 1 ok d t→bp d t≤1000→t6 ok d t
  | d+1,.mk op n q s ks,w,hw=>by
    have f:=lM w;exact ⟨(f.1.mono (show _≤3000 by omega) (ey _)).wf,ez f.2 hw,fun i hi=>wK (w.2.2.2.2.2.2.2.2 i hi) (rg w hw i hi)⟩
theorem vn {ok:ByteArray→Prop}{c:Nat}(b:c≤3000):∀ {d:Nat} {t:Tm},WfQ c ok d t→bp d t≤1000→mw d t→t6 ok d t
  | d + 1,.mk op n q s ks,w,hw,f=>by
    have e:ks.map (aw d)=ks:=lz (a:=bv) (fun i hi=>mn (f.2.2 i hi));refine ⟨?_,?_,fun i hi=>vn b (w.2.2.2.2.2.2.2.2 i hi) (rg w hw i hi) (f.2.2 i hi)⟩
    · show WfT ok (d+1) (.mk op n q s (ks.map (aw d)))
      rw[e];exact (w.mono b (ey _)).wf
    · show bp (d+1) (.mk op n q s (ks.map (aw d)))≤1000
      rw[e];exact hw
theorem BU  (ok:ByteArray→Prop)(d:Nat)(Y:∀ (p:PTm) (t:Tm) (w:World) (h:Hp),G w h→TmH d h p t→WfT ok d t →  Calls Tryz.prog 21 #[az p] w (Ret w h (fun v h1=>∃ B,v=az B∧TmH d h1 B t)))(op n:Int)(q:Rat)(s:ByteArray)(A:Option Addr)(c:Nat)(ps:List PTm)(ks:List Tm)(hc:ps.length≤c)(U:ps.length≤2)(Q:d8 op=(ks.length:Nat))(hq0:op≠1→q=0)(hq:LQ 3000 q)(hok:op=2→ok s)(hs0:op≠2→s=⟨#[]⟩)(hn0:op≠8→n=0)(hn1 : -12≤n)(V:n≤12)(Z:∀ i,i<ks.length→WfT ok d (ks.getD i bv))(w:World)(h:Hp)(g:G w h)(hK:SlO 9 bg au h A ps)(I:Tms d h ps ks):CR 21 #[pW op n q s A ps.length c] w h (fun v h1=>∃ B,v=az B∧TmH (d+1) h1 B (.mk op n q s ks)):=by
 have a:=(((sS g).aS hK).add (K:=fun e=>Tms d e ps ks) I);have W:=(a.f.1).len;refine go Tryz.func21 [(0,pW op n q s A ps.length c)] rfl (av (lA 1 43 (pG op n q s A ps.length c) a (fun j w2 h3 a=>lA 2 43 dS a (fun D w5 h6 a=>ah (aa a [.v 6 (qP j 8),.o 7 (qS A ps.length c) 1 8 1,.v 8 (nV ps.length)] ?_)))));cases u:((ps.length:Int) == (0:Int))
 ·
  have y:=ae u;refine lB 9 u (af (cK (aa a [.v 12 (qP j 8),.o 13 (qS A ps.length c) 1 8 1,.v 14 (nV ps.length)] (lK 15 43 ps.length 9 112 (.agg #[iV 0,iV 0,qF,uV 0,eS,uV 0,eS,eS,sZ]) bg au a (fun b8 w9 zd a=>?_)))));have O:(Am ps.length au).length=ps.length:=by simp
  refine lL a [.m 3 15] (ah (aa a [.v 16 (qP j 8),.o 17 (qS A ps.length c) 2 8 1,.v 18 (nV ps.length),.v 19 (iV 0)] (a8 ?_)));replace a:=a.add (K:=fun e=>TmsU d e 0 (Am ps.length au) ks) ((fun i hi=>MO hi (Mk i)));refine bH _ (CG.loop (fun H Γ w_=>∃ (k:Nat) (L:List PTm) (e:Hp),H=ps.length-k∧Γ=[(1,pB j),(2,pB D),(3,qS (sB b8) ps.length ps.length),(17,qS A ps.length c),(18,nV ps.length),(19,nV k)]∧SS w h w_ e [⟨b8,43,(L).flatMap bg⟩,⟨D,43,[iV 0,iV 0,qF,uV 0,eS,uV 0,eS,eS,sZ]⟩,⟨j,43,pG op n q s A ps.length c⟩] [] [fun e=>TmsU d e k L ks,fun e=>Tms d e ps ks,fun e=>SlO 9 bg au e A ps]∧k≤ps.length∧L.length=ps.length) _ ⟨0,Am ps.length au,zd,rfl,rfl,a.to _ _,K7 _,(by simp)⟩ ?_);rintro _ _ _ ⟨k,L,_,J,rfl,a,hk,z⟩;refine av ?_;cases za:(decide ((k:Int)<(ps.length:Int)))
  ·
   have zb:=oF za;refine lB 20 za (ah (cv (CG.exit ?_)))
   show CG _ _ _ _ _ _ _ _
   refine av ?_;have hkn:k=ps.length:=by omega
   obtain ⟨_,a,C,S,M⟩:=a.pub 0;replace a:=(a.to [⟨D,43,[iV 0,iV 0,qF,uV 0,eS,uV 0,eS,eS,sZ]⟩,⟨j,43,pG op n q s A ps.length c⟩] []).aS (SlO.of_flat (sz:=9) (f:=bg) (d:=au) (b:=b8) (o:=0) (l:=L) (fun _=>rfl) C);exact lL a [.m 30 3,.v 31 (qP j 8)] (lP 1 8 ([qS (sB b8) ps.length ps.length]) a (fun _ a=>aI (lL a [.o 32 (pW op n q s (sB b8) ps.length ps.length) 1 0 9] (lP 0 0 (pG op n q s (sB b8) ps.length ps.length) a (fun _ a=>ac a [(0,0,9)] (pW op n q s (sB b8) ps.length ps.length) (⟨⟨op,n,q,s,sB b8,ps.length,ps.length⟩,rfl,by have e:=TmH.mk (op:=op) (n:=n) (q:=q) (s:=s) (c:=L.length) (Tms.of_u oM oM a.f.2.1) (nR _) (a.f.1);rw[z] at e;exact e⟩))))))
  have zb:=oT za;refine lB 20 za (ah (ce (cK (cQ (kZ (aa a [.m 21 19] (lX 22 A ps.length c 9 (k:Nat) k ((a.f.r.1).ok oM) ?_)))))));refine lH 23 (az (ps.getD k au)) a ((a.f.r.1).el k oM) (lA 5 43 dS a (fun ze _ _ a=>lL a [.m 4 21] (lP 0 0 (bg (ps.getD k au)) a (fun _ a=>lN (kQ (lL a [.m 24 3,.m 25 4,.o 26 (az (ps.getD k au)) 0 0 9] (lC 27 a (Y (ps.getD k au) (ks.getD k bv) _ _ a.g ((a.f.2.1).at_ k oM) (Z k oM)) ?_)))))));rintro _ _ zf a ⟨x,rfl,F⟩;replace a:=(a.add (K:=fun e=>TmH d e x (ks.getD k bv)) F);refine lX 28 (sB b8) ps.length ps.length 9 (k:Nat) k rfl (lW 1 L bg 9 k x a oM (fun _ a=>?_));have X:((L).set k x).length=ps.length:=by rw[KP];exact z
  replace a:=a.to [⟨ze,43,bg (ps.getD k au)⟩,⟨b8,43,((L).set k x).flatMap bg⟩,⟨D,43,[iV 0,iV 0,qF,uV 0,eS,uV 0,eS,eS,sZ]⟩,⟨j,43,pG op n q s A ps.length c⟩] [];refine lN (kQ (bD 29 ((k:Nat)+1) (k+1) ?_));refine lL a [.m 19 29] (lD ?_);intro a_ ka;replace a:=(a.tl.tl.add (K:=fun e=>TmsU d e (k+1) ((L).set k x) ks) ((a.f.2.1).set oM a.f.1));replace a:=a.drop 1 0;refine ⟨_,_,?_,⟨k+1,(L).set k x,zf,rfl,rfl,a.to _ _,oM,X⟩,ka.to _ kR⟩
  omega
 have y:=ML u;exact lB 9 u (ak (aa a [.v 10 (qP j 8)] (lP 1 8 ([sZ]) a (fun _ a=>aI (lL a [.o 11 (.agg #[iV op,iV n,.bool (ai q.num),uV (lo (ab q.num)),.string (hi (ab q.num)),uV (lo (qd q)),.string (hi (qd q)),.string s,sZ]) 1 0 9] (lP 0 0 ([iV op,iV n,.bool (ai q.num),uV (lo (ab q.num)),.string (hi (ab q.num)),uV (lo (qd q)),.string (hi (qd q)),.string s,sZ]) a (fun _ a=>ac a [(0,0,9)] (.agg #[iV op,iV n,.bool (ai q.num),uV (lo (ab q.num)),.string (hi (ab q.num)),uV (lo (qd q)),.string (hi (qd q)),.string s,sZ]) (⟨⟨op,n,q,s,none,0,0⟩,rfl,by obtain rfl:ks=[]:=z1 oM;exact TmH.mk (op:=op) (n:=n) (q:=q) (s:=s) (c:=0) Tms.nil (nR _) SlO.nil⟩))))))))
theorem xX (ok:ByteArray→Prop):∀ (d:Nat) (p:PTm) (t:Tm) (w:World) (h:Hp),G w h→TmH d h p t→WfT ok d t →  Calls Tryz.prog 21 #[az p] w (Ret w h (fun v h1=>∃ e,v=az e∧TmH d h1 e t))
  | 0,_,_,_,_,_,x,_=>x.elim
  | d + 1,p,t,w,h,g,x,wf=>by
    obtain ⟨op,n,q,s,A,c,ps,ks,rfl,rfl,l,u,a⟩:=x.open;obtain ⟨w1,w2,w3,i,o,j,k,f,y⟩:=wf
    have b:ps.length≤2:=by
      have e1:d8 op=ks.length:=w1;have:=aE op;have:=a.len
      omega
    exact BU ok d (fun p t w h=>xX ok d p t w h) op n q s A c ps ks l b w1 w2 w3 i o j k f y w h g u a
structure K7T (d:Nat) (h:Hp) (p:PTm) (t:Tm):Prop where
  get:p.op=7→p.m=1∧∃ pk,SlO 9 bg au h p.A [pk]∧TmH d h pk (t.ks.getD 0 bv)
theorem K7T.gw {d:Nat}{h h':Hp}{p:PTm}{t:Tm}(x:K7T d h p t)(u:Gw h h'):K7T d h' p t:=⟨fun e=>by
 obtain ⟨h1,c,b,a⟩:=x.get e;exact ⟨h1,c,b.gw u,a.gw u⟩⟩
theorem GI {ok:ByteArray→Prop}{d:Nat}{h:Hp}{p:PTm}{t:Tm}(B:p.op=t.op)(c:WfT ok d t)(x:TmH d h p t):K7T d h p t:=⟨fun e=>by
  cases d with
  | zero=>exact x.elim
  | succ d =>
    obtain ⟨y,o,z,D,b,F,f,i,j,k⟩:=x
    have a:t.ks.length=1:=by
      have u:d8 t.op=(t.ks.length:Nat):=c.1;have C:=aE t.op
      omega
    obtain ⟨l,rfl⟩:=Mt.1 (i.trans a);exact ⟨b.trans a,l,j,TmH.mono (k 0 oM) (MK d)⟩⟩
theorem sD {c d:Nat}{ok:ByteArray→Prop}{op n:Int}{q:Rat}{s:ByteArray}{e:Tm}{l e1:Int}{f:Rat}{b:Bool}(k:op≠2)(w1:WfQ c ok d e)(j:l=e.op)(h1:l=1)(o:aF [] (d+1) (.mk op n q s [e])=(e1,f))(i:(e1 == 0)=b):(b=true↔d7 (.mk op n q s [e]))∧(b=true→f=(aF [] 2 (.mk op n q s [e])).2):=by
 have a:e.op=1:=j▸h1;rw[fu k w1 a] at o
 have e2:aF [] 2 (.mk op n q s [e])=(e1,f):=by rw[fu k (w1.leaf1 a) a];exact o
 refine ⟨⟨fun h=>⟨⟨Mr _,a,fun p=>MO p (by show ¬1<1;decide)⟩,?_⟩,fun h=>?_⟩,fun _=>by rw[e2]⟩
 ·rw[e2];rw[h] at i;exact ML i
 ·have:=h.2;rw[e2] at this;rw[←i];exact fg this
theorem ru {c d:Nat}{ok:ByteArray→Prop}{op n:Int}{q:Rat}{s:ByteArray}{i f:Tm}{x p e1:Int}{j:Rat}{b:Bool}(u:op≠2)(w1:WfQ c ok d i)(w2:WfQ c ok d f)(o:x=i.op)(h1:x=1)(k:p=f.op)(z:p=1)(y:aF [] (d+1) (.mk op n q s [i,f])=(e1,j))(l:(e1 == 0)=b):(b=true↔d7 (.mk op n q s [i,f]))∧(b=true→j=(aF [] 2 (.mk op n q s [i,f])).2):=by
 have e:i.op=1:=o▸h1;have a:f.op=1:=k▸z;rw[d5 u w1 e w2 a] at y
 have e2:aF [] 2 (.mk op n q s [i,f])=(e1,j):=by rw[d5 u (w1.leaf1 e) e (w2.leaf1 a) a];exact y
 refine ⟨⟨fun h=>⟨⟨Mr _,e,fun _=>a⟩,?_⟩,fun h=>?_⟩,fun _=>by rw[e2]⟩
 ·rw[e2];rw[h] at l;exact ML l
 ·have:=h.2;rw[e2] at this;rw[←l];exact fg this
theorem jP {d:Nat}{t:Tm}(w:WfT (fun s=>bI s=true) d t):iF fi d t:=w.sm (sm:=fi) (fun _ h=>mi h) oA
theorem fW {ok:ByteArray→Prop}{d:Nat}{t:Tm}(w:WfT ok d t):LQ 3000 t.q:=by
 cases d with
 | zero=>exact w.elim
 | succ d=>exact w.2.2.1
theorem qk {d:Nat}{h:Hp}{p:PTm}{t:Tm}(x:TmH d h p t):p.op=t.op:=by
 cases d with
 | zero=>exact x.elim
 | succ d=>exact x.1
theorem wA {d:Nat}{h:Hp}{p:PTm}{t:Tm}(x:TmH d h p t):p.q=t.q:=by
 cases d with
 | zero=>exact x.elim
 | succ d=>exact x.2.2.1
theorem DF {p:PTm}{t:Tm}{z:Rat}(a:p.op=t.op)(b:p.q=t.q):(p.op=1→(cX p.q z == 0)=decide (isN t z))∧(p.op≠1→decide (isN t z)=false):=by
 refine ⟨fun h=>?_,fun h=>decide_eq_false (fun x=>h (a.trans x.1))⟩
 by_cases e:t.q=z
 ·rw[decide_eq_true (show isN t z from ⟨a.symm.trans h,e⟩),b,e];exact fg (gk.2 rfl)
 ·rw[decide_eq_false (fun x=>e x.2),b];exact bJ (fun x=>e (gk.1 x))
theorem nX (p:PTm)(t:Tm)(z:Int)(hz : -1000≤z∧z≤1000){d:Nat}(a:p.op=t.op)(hv:p.q=t.q)(b:WfT (fun s=>bI s=true) d t)(w:World)(h:Hp)(g:G w h):CV 83 #[az p,iV z] w h (.bool (decide (isN t ((z:Int):Rat)))) :=
 GL p z _ hz.1 hz.2 (by rw[hv];exact (fW b).mono kD) (DF a hv).1 (DF a hv).2 w h g
theorem B8 {ok:ByteArray→Prop}{d:Nat}{t:Tm}(w:WfT ok d t):WfT ok (d+1) (.mk 7 0 0 ⟨#[]⟩ [t]):=⟨rfl,fun _=>rfl,uk kD,fun h=>MO (show (7:Int)=2 from h) kD,fun _=>rfl,fun _=>rfl,by show (-12:Int)≤0;decide,by show (0:Int)≤12;decide,fun i hi=>by
 have:i=0:=by have:i<1:=hi;omega
 subst this;exact w⟩
theorem Ae {d m:Nat}{t:Tm}(h:bp d t≤m):bp (d+1) (.mk 7 0 0 ⟨#[]⟩ [t])≤m:=by rw[gN];show 1*_≤m;rw[Nat.one_mul];exact h
theorem Bf {d:Nat}{op n:Int}{q:Rat}{s:ByteArray}{a b:Tm}:bp d b≤bp (d+1) (.mk op n q s [a,b]):=by
 rw[jA];exact ez (Nat.le_add_left _ _) (Ls _ (cV op n))
section
variable {op n:Int} {q:Rat} {s:ByteArray} {a b:Tm}
theorem xk:a6 (.mk op n q s [a,b])=dq (.mk op n q s [a,b]) a b:=rfl
theorem EU:a6 (.mk op n q s [a])=dq (.mk op n q s [a]) a bv:=rfl
abbrev dZ (a:Tm)(b:Bool):Prop:=decide (isN a ((0:Int):Rat))=b
abbrev dI (a:Tm)(b:Bool):Prop:=decide (isN a ((1:Int):Rat))=b
theorem xZ {a:Tm}(h:dZ a true):isN a 0:=oT h
theorem BL {a:Tm}(h:dZ a false):¬isN a 0:=oF h
theorem II {a:Tm}(h:dI a true):isN a 1:=oT h
theorem H3 {a:Tm}(h:dI a false):¬isN a 1:=oF h
theorem Ig (h:op=3):a6 (.mk op n q s [a,b])=if isN a 0 then b else if isN b 0 then a else .mk op n q s [a,b]:=by rw[xk];exact MN h
theorem Gv (h:op=3)(x:dZ a true):a6 (.mk op n q s [a,b])=b:=by rw[Ig h,MN (xZ x)]
theorem DT (h:op=3)(x:dZ a false)(y:dZ b true):a6 (.mk op n q s [a,b])=a:=by rw[Ig h,MM (BL x),MN (xZ y)]
theorem sU (h:op=3)(x:dZ a false)(y:dZ b false):a6 (.mk op n q s [a,b])=.mk op n q s [a,b]:=by rw[Ig h,MM (BL x),MM (BL y)]
theorem Hz (h:op=4):a6 (.mk op n q s [a,b])=if isN b 0 then a else if isN a 0 then km b else .mk op n q s [a,b]:=by rw[xk];subst h;rfl
theorem EQ (h:op=4)(y:dZ b true):a6 (.mk op n q s [a,b])=a:=by rw[Hz h,MN (xZ y)]
theorem tB (h:op=4)(y:dZ b false)(x:dZ a false):a6 (.mk op n q s [a,b])=.mk op n q s [a,b]:=by rw[Hz h,MM (BL y),MM (BL x)]
theorem vu {b:Tm}(h:b.op≠1):dE (.mk 7 0 0 ⟨#[]⟩ [b])=km b:=by
 rw[bZ (t:=.mk 7 0 0 ⟨#[]⟩ [b]) (fun f=>h f.1.2.1)];rfl
theorem I6 {c d:Nat}{ok:ByteArray→Prop}(h:op=4)(y:dZ b false)(x:dZ a true)(hf:¬d7 (.mk op n q s [a,b]))(wb:WfQ c ok d b)(wa:WfQ c ok d a):a6 (.mk op n q s [a,b])=dE (.mk 7 0 0 ⟨#[]⟩ [b]):=by
 have e:b.op≠1:=fun h1=>hf ⟨⟨Mr _,(xZ x).1,fun _=>h1⟩,by
  rw[d5 oM (wa.leaf1 (xZ x).1) (xZ x).1 (wb.leaf1 h1) h1,gn rfl rfl ⟨fun h=>MO h oM,fun h=>MO h oM⟩]⟩
 rw[Hz h,MM (BL y),MN (xZ x),vu e]
theorem H5 (h:op=5):a6 (.mk op n q s [a,b])=if isN a 0∨isN b 0 then eU ((0:Int):Rat) else if isN a 1 then b else if isN b 1 then a else .mk op n q s [a,b]:=by rw[xk];subst h;rfl
theorem oN (h:op=5)(x:dZ a true∨dZ b true):a6 (.mk op n q s [a,b])=eU ((0:Int):Rat):=by rw[H5 h,MN (x.imp xZ xZ)]
theorem Iv (x:dZ a false)(y:dZ b false):¬(isN a 0∨isN b 0):=fun h=>h.elim (BL x) (BL y)
theorem Hl (h:op=5)(x:dZ a false)(y:dZ b false)(z:dI a true):a6 (.mk op n q s [a,b])=b:=by rw[H5 h,MM (Iv x y),MN (II z)]
theorem Ez (h:op=5)(x:dZ a false)(y:dZ b false)(z:dI a false)(u:dI b true):a6 (.mk op n q s [a,b])=a:=by rw[H5 h,MM (Iv x y),MM (H3 z),MN (II u)]
theorem tZ (h:op=5)(x:dZ a false)(y:dZ b false)(z:dI a false)(u:dI b false):a6 (.mk op n q s [a,b])=.mk op n q s [a,b]:=by rw[H5 h,MM (Iv x y),MM (H3 z),MM (H3 u)]
theorem G0 (h:op=6):a6 (.mk op n q s [a,b])=if isN b 1 then a else .mk op n q s [a,b]:=by rw[xk];subst h;rfl
theorem H8 (h:op=6)(u:dI b true):a6 (.mk op n q s [a,b])=a:=by rw[G0 h,MN (II u)]
theorem tS (h:op=6)(u:dI b false):a6 (.mk op n q s [a,b])=.mk op n q s [a,b]:=by rw[G0 h,MM (H3 u)]
theorem tQ (h:op=12∨op=13):a6 (.mk op n q s [a,b])=.mk op n q s [a,b]:=by rw[xk];rcases h with rfl|rfl<;>rfl
theorem Gm (h:op=7):a6 (.mk op n q s [a])=if a.op=7 then a.ks.getD 0 bv else .mk op n q s [a]:=by rw[EU];subst h;rfl
theorem Jg (h:op=7)(x:a.op=7):a6 (.mk op n q s [a])=a.ks.getD 0 bv:=by rw[Gm h,MN x]
theorem Bb (h:op=7)(x:a.op≠7):a6 (.mk op n q s [a])=.mk op n q s [a]:=by rw[Gm h,MM x]
theorem E1 (h:op=8):a6 (.mk op n q s [a])=if n=0 then eU ((1:Int):Rat) else if n=1 then a else .mk op n q s [a]:=by rw[EU];subst h;rfl
theorem G2 (h:op=8)(x:n=0):a6 (.mk op n q s [a])=eU ((1:Int):Rat):=by rw[E1 h,MN x]
theorem G4 (h:op=8)(x:n=1):a6 (.mk op n q s [a])=a:=by rw[E1 h,MM oM,MN x]
theorem CX (h:op=8)(x:n≠0)(y:n≠1):a6 (.mk op n q s [a])=.mk op n q s [a]:=by rw[E1 h,MM x,MM y]
theorem Jf (h:op=1∨op=2):a6 (.mk op n q s [])=.mk op n q s []:=by rcases h with rfl|rfl<;>rfl
theorem H0 (h:op=9∨op=10∨op=11):a6 (.mk op n q s [a])=.mk op n q s [a]:=by rw[EU];rcases h with rfl|rfl|rfl<;>rfl
end
theorem EC (d:Nat)(op n:Int)(q:Rat)(s:ByteArray)(A:Option Addr)(c:Nat)(e:PTm)(i:Tm)(p:e.op=i.op)(W:e.q=i.q)(y:WfT (fun s=>bI s=true) d i)(S:d+1≤24)(u:WfT (fun s=>bI s=true) (d+1) (.mk op n q s ([i]:List Tm):Tm))(D:bp (d+1) (.mk op n q s ([i]:List Tm):Tm)≤1000)(V:op=7∨op=8∨op=9∨op=10∨op=11)(w:World)(h:Hp)(g:G w h)(X:SlO 9 bg au h A ([e]:List PTm))(Q:TmH (d+1) h (⟨op,n,q,s,A,1,c⟩:PTm) (.mk op n q s ([i]:List Tm):Tm))(H:TmH d h e i)(U:Tab h):CR 81 #[pW op n q s A 1 c] w h (fun v _=>∃ x b,v=.tuple #[qv x,.bool b]∧(b=true↔d7 (.mk op n q s ([i]:List Tm):Tm))∧(b=true→x=(aF [] 2 (.mk op n q s ([i]:List Tm):Tm)).2)):=by
 have a:=(((((sS g).aS X).add (K:=fun j=>TmH (d+1) j (⟨op,n,q,s,A,1,c⟩:PTm) (.mk op n q s ([i]:List Tm):Tm)) Q).add (K:=fun j=>TmH d j e i) H).aB U);have L:([e]:List PTm).length=1:=rfl;refine go Tryz.func81 [(0,pW op n q s A 1 c)] rfl (av (lA 1 43 (pG op n q s A 1 c) a (fun B w2 h3 a=>lA 2 40 da a (fun J w5 h6 a=>lL a [.v 3 qF] (ah (aa a [.v 8 (qP B 8),.o 9 (qS A 1 c) 1 8 1,.v 10 (iV 1),.v 11 qF] (af (cK (cQ (aa a [.v 13 (qP B 8),.o 14 (qS A 1 c) 1 8 1,.v 15 (iV 1),.v 16 (iV 0)] (a8 (cU ?_))))))))))));refine cN (aa a [.v 17 qT] (ah (ce (cK (cQ (kZ (av (lX 18 A 1 c 9 0 0 ((a.f.r.2.1).ok oM) ?_))))))));refine lH 19 (az (([e]:List PTm).getD 0 au)) a ((a.f.r.2.1).el 0 oM) (lA 5 43 dS a (fun C Z h9 a=>lP 0 0 (bg (([e]:List PTm).getD 0 au)) a (fun _ a=>aI (lL a [.v 20 (pB C),.o 21 (iV ((([e]:List PTm).getD 0 au).op)) 0 0 1] ?_))));cases za:(((([e]:List PTm).getD 0 au).op:Int) != (1:Int))
 ·
  have M:=aJ za;refine lB 22 za (af (cK (kQ (lL a [.v 24 (iV 1),.m 16 24] (lD (CL.to [(1,pB B),(2,pB J),(3,qF),(14,qS A 1 c),(15,iV 1),(16,iV 1),(17,qT),(18,.pointer (some ⟨(aB A),aO A+0*9,none⟩)),(19,az (([e]:List PTm).getD 0 au)),(5,pB C),(20,pB C),(21,iV ((([e]:List PTm).getD 0 au).op)),(22,qF),(24,iV 1)] ?_))))));replace a:=a.to [⟨C,43,bg (([e]:List PTm).getD 0 au)⟩,⟨J,40,[qF,uV 0,eS,uV 0,eS]⟩,⟨B,43,pG op n q s A 1 c⟩] [];refine cN (aa a [.v 17 qF] (ah (cv (CG.exit ?_))))
  show CG _ _ _ _ _ _ _ _
  refine aa a [.o 26 (pW op n q s A 1 c) 2 0 9] (lC 27 a (sH bI fi wm none 0 [] kD 3002 kD kD (fun _=>(LQ.lit (z:=0) kD).mono kD) (d+1) (⟨op,n,q,s,A,1,c⟩:PTm) (.mk op n q s ([i]:List Tm):Tm) S _ _ a.g a.f.r.1 (jP u) SlO.nil a.f.1) ?_);rintro _ _ _ a ⟨e1,l,rfl,I⟩;have k:=I.get ⟨u,D⟩;refine lL a [.m 25 27,.v 28 (qv l),.v 29 (iV e1)] (lA 6 40 da a (fun Y _ _ a=>lP 0 0 (qc l) a (fun _ a=>lL a [.m 7 29] (aI (lL a [.o 30 (qv l) 0 0 5,.m 31 7] ?_)))));cases zb:((e1:Int) == (0:Int))
  ·
   have O:=ae zb;exact lB 32 zb (lP 2 0 (qc l) a (fun _ a=>lL a [.m 3 32] (ac a [(2,0,5)] (.tuple #[qv l,qF]) (⟨_,_,rfl,sD oM y.wfq p aM k aM⟩))))
  have O:=ML zb;exact lB 32 zb (lP 2 0 (qc l) a (fun _ a=>lL a [.m 3 32] (ac a [(2,0,5)] (.tuple #[qv l,qT]) (⟨_,_,rfl,sD oM y.wfq p aM k aM⟩))))
 have M:=aW za;exact lB 22 za (ak (aa a [.v 23 eb] (lP 1 0 da a (fun _ a=>lL a [.v 3 qF] (ac a [(1,0,5)] (.tuple #[.agg #[qF,uV 0,eS,uV 0,eS],qF]) (⟨0,false,rfl,⟨fun j=>MO j kD,fun j=>(by have F:=j.1.2.1;first|exact MO (p.trans F) aM|exact MO (ho2.trans (j.1.2.2 (by show 1<2;decide))) aM)⟩,fun j=>MO j kD⟩))))))
theorem FD (d:Nat)(op n:Int)(q:Rat)(s:ByteArray)(A:Option Addr)(c:Nat)(e:PTm)(l:Tm)(u:e.op=l.op)(hv1:e.q=l.q)(H:WfT (fun s=>bI s=true) d l)(i:PTm)(k:Tm)(p:i.op=k.op)(hv2:i.q=k.q)(I:WfT (fun s=>bI s=true) d k)(hd:d+1≤24)(F:WfT (fun s=>bI s=true) (d+1) (.mk op n q s ([l,k]:List Tm):Tm))(Q:bp (d+1) (.mk op n q s ([l,k]:List Tm):Tm)≤1000)(hop:op=3∨op=4∨op=5∨op=6∨op=12∨op=13)(w:World)(h:Hp)(g:G w h)(hK:SlO 9 bg au h A ([e,i]:List PTm))(hT:TmH (d+1) h (⟨op,n,q,s,A,2,c⟩:PTm) (.mk op n q s ([l,k]:List Tm):Tm))(S:TmH d h e l)(U:TmH d h i k)(tb:Tab h):CR 81 #[pW op n q s A 2 c] w h (fun v _=>∃ x b,v=.tuple #[qv x,.bool b]∧(b=true↔d7 (.mk op n q s ([l,k]:List Tm):Tm))∧(b=true→x=(aF [] 2 (.mk op n q s ([l,k]:List Tm):Tm)).2)):=by
 have a:=((((((sS g).aS hK).add (K:=fun j=>TmH (d+1) j (⟨op,n,q,s,A,2,c⟩:PTm) (.mk op n q s ([l,k]:List Tm):Tm)) hT).add (K:=fun j=>TmH d j e l) S).add (K:=fun j=>TmH d j i k) U).aB tb);have W:([e,i]:List PTm).length=2:=rfl;refine go Tryz.func81 [(0,pW op n q s A 2 c)] rfl (av (lA 1 43 (pG op n q s A 2 c) a (fun D w2 h3 a=>lA 2 40 da a (fun O w5 h6 a=>lL a [.v 3 qF] (ah (aa a [.v 8 (qP D 8),.o 9 (qS A 2 c) 1 8 1,.v 10 (iV 2),.v 11 qF] (af (cK (cQ (aa a [.v 13 (qP D 8),.o 14 (qS A 2 c) 1 8 1,.v 15 (iV 2),.v 16 (iV 0)] (a8 (cU ?_))))))))))));refine cN (aa a [.v 17 qT] (ah (ce (cK (cQ (kZ (av (lX 18 A 2 c 9 0 0 ((a.f.q.1).ok oM) ?_))))))));refine lH 19 (az (([e,i]:List PTm).getD 0 au)) a ((a.f.q.1).el 0 oM) (lA 5 43 dS a (fun J w8 h9 a=>lP 0 0 (bg (([e,i]:List PTm).getD 0 au)) a (fun _ a=>aI (lL a [.v 20 (pB J),.o 21 (iV ((([e,i]:List PTm).getD 0 au).op)) 0 0 1] ?_))));cases za:(((([e,i]:List PTm).getD 0 au).op:Int) != (1:Int))
 ·
  have ze:=aJ za;refine lB 22 za (af (cK (kQ (lL a [.v 24 (iV 1),.m 16 24] (lD (CL.to [(1,pB D),(2,pB O),(3,qF),(14,qS A 2 c),(15,iV 2),(16,iV 1),(17,qT),(18,.pointer (some ⟨(aB A),aO A+0*9,none⟩)),(19,az (([e,i]:List PTm).getD 0 au)),(5,pB J),(20,pB J),(21,iV ((([e,i]:List PTm).getD 0 au).op)),(22,qF),(24,iV 1)] ?_))))));replace a:=a.to [⟨J,43,bg (([e,i]:List PTm).getD 0 au)⟩,⟨O,40,[qF,uV 0,eS,uV 0,eS]⟩,⟨D,43,pG op n q s A 2 c⟩] [];refine cN (aa a [.v 17 qT] (ah (ce (cK (cQ (kZ (av (lX 18 A 2 c 9 1 1 ((a.f.q.1).ok oM) ?_))))))));refine lH 19 (az (([e,i]:List PTm).getD 1 au)) a ((a.f.q.1).el 1 oM) (lA 5 43 dS a (fun M _ _ a=>lP 0 0 (bg (([e,i]:List PTm).getD 1 au)) a (fun _ a=>aI (lL a [.v 20 (pB M),.o 21 (iV ((([e,i]:List PTm).getD 1 au).op)) 0 0 1] ?_))));cases zb:(((([e,i]:List PTm).getD 1 au).op:Int) != (1:Int))
  ·
   have Y:=aJ zb;refine lB 22 zb (af (cK (kQ (lL a [.v 24 (iV 2),.m 16 24] (lD (CL.to [(1,pB D),(2,pB O),(3,qF),(14,qS A 2 c),(15,iV 2),(16,iV 2),(17,qT),(18,.pointer (some ⟨(aB A),aO A+1*9,none⟩)),(19,az (([e,i]:List PTm).getD 1 au)),(5,pB M),(20,pB M),(21,iV ((([e,i]:List PTm).getD 1 au).op)),(22,qF),(24,iV 2)] ?_))))));replace a:=a.to [⟨M,43,bg (([e,i]:List PTm).getD 1 au)⟩,⟨J,43,bg (([e,i]:List PTm).getD 0 au)⟩,⟨O,40,[qF,uV 0,eS,uV 0,eS]⟩,⟨D,43,pG op n q s A 2 c⟩] [];refine cN (aa a [.v 17 qF] (ah (cv (CG.exit ?_))))
   show CG _ _ _ _ _ _ _ _
   refine aa a [.o 26 (pW op n q s A 2 c) 3 0 9] (lC 27 a (sH bI fi wm none 0 [] kD 3002 kD kD (fun _=>(LQ.lit (z:=0) kD).mono kD) (d+1) (⟨op,n,q,s,A,2,c⟩:PTm) (.mk op n q s ([l,k]:List Tm):Tm) hd _ _ a.g a.f.r.2.1 (jP F) SlO.nil a.f.1) ?_);rintro _ _ _ a ⟨e1,C,rfl,V⟩;have y:=V.get ⟨F,Q⟩;refine lL a [.m 25 27,.v 28 (qv C),.v 29 (iV e1)] (lA 6 40 da a (fun X _ _ a=>lP 0 0 (qc C) a (fun _ a=>lL a [.m 7 29] (aI (lL a [.o 30 (qv C) 0 0 5,.m 31 7] ?_)))));cases L:((e1:Int) == (0:Int))
   ·
    have Z:=ae L;exact lB 32 L (lP 3 0 (qc C) a (fun _ a=>lL a [.m 3 32] (ac a [(3,0,5)] (.tuple #[qv C,qF]) (⟨_,_,rfl,ru oM H.wfq I.wfq u aM p aM y aM⟩))))
   have Z:=ML L;exact lB 32 L (lP 3 0 (qc C) a (fun _ a=>lL a [.m 3 32] (ac a [(3,0,5)] (.tuple #[qv C,qT]) (⟨_,_,rfl,ru oM H.wfq I.wfq u aM p aM y aM⟩))))
  have Y:=aW zb;exact lB 22 zb (ak (aa a [.v 23 eb] (lP 2 0 da a (fun _ a=>lL a [.v 3 qF] (ac a [(2,0,5)] (.tuple #[.agg #[qF,uV 0,eS,uV 0,eS],qF]) (⟨0,false,rfl,⟨fun j=>MO j kD,fun j=>(by have B:=j.1.2.1;first|exact MO (u.trans B) aM|exact MO (p.trans (j.1.2.2 (by show 1<2;decide))) aM)⟩,fun j=>MO j kD⟩))))))
 have ze:=aW za;exact lB 22 za (ak (aa a [.v 23 eb] (lP 1 0 da a (fun _ a=>lL a [.v 3 qF] (ac a [(1,0,5)] (.tuple #[.agg #[qF,uV 0,eS,uV 0,eS],qF]) (⟨0,false,rfl,⟨fun j=>MO j kD,fun j=>(by have B:=j.1.2.1;first|exact MO (u.trans B) aM|exact MO (p.trans (j.1.2.2 (by show 1<2;decide))) aM)⟩,fun j=>MO j kD⟩))))))
theorem tG (d:Nat)(op n:Int)(q:Rat)(s:ByteArray)(A:Option Addr)(c:Nat)(e:PTm)(i:Tm)(p:e.op=i.op)(Y:e.q=i.q)(U:WfT (fun s=>bI s=true) d i)(hd:d+1≤24)(H:WfT (fun s=>bI s=true) (d+1) (.mk op n q s ([i]:List Tm):Tm))(J:bp (d+1) (.mk op n q s ([i]:List Tm):Tm)≤1000)(Z:op=7∨op=8∨op=9∨op=10∨op=11)(w:World)(h:Hp)(g:G w h)(hK:SlO 9 bg au h A ([e]:List PTm))(hT:TmH (d+1) h (⟨op,n,q,s,A,1,c⟩:PTm) (.mk op n q s ([i]:List Tm):Tm))(M:TmH d h e i)(V:K7T d h e i)(tb:Tab h):CR 50 #[pW op n q s A 1 c] w h (fun v h1=>∃ pr,v=az pr∧TmH (d+1) h1 pr (dE (.mk op n q s ([i]:List Tm):Tm))):=by
 have a:=((((((sS g).aS hK).add (K:=fun b=>TmH (d+1) b (⟨op,n,q,s,A,1,c⟩:PTm) (.mk op n q s ([i]:List Tm):Tm)) hT).add (K:=fun b=>TmH d b e i) M).add (K:=fun b=>K7T d b e i) V).aB tb);have hln:([e]:List PTm).length=1:=rfl;have bd:(([e]:List PTm).getD 0 au).op=e.op:=rfl;refine go Tryz.func50 [(0,pW op n q s A 1 c)] rfl (av (lA 1 43 (pG op n q s A 1 c) a (fun k w2 h3 a=>lA 2 43 dS a (fun b4 w5 h6 a=>ah (aa a [.o 6 (pW op n q s A 1 c) 1 0 9] (lC 7 a (EC d op n q s A c e i p Y U hd H J Z _ _ a.g a.f.q.1 a.f.r.2.1 a.f.r.1 a.f.1) ?_))))));rintro _ w7 h8 a ⟨l,bf,rfl,j,X⟩;refine lL a [.m 5 7,.v 8 (qv l),.v 9 (.bool bf)] (lA 3 40 da a (fun b9 _ Q a=>lP 0 0 (qc l) a (fun _ a=>lL a [.m 4 9] (aI (lL a [.m 10 4] (lN ?_))))));cases za:(bf)
 ·
  try rw[za] at a
  try rw[za]
  refine cv (cK (CG.join (fun Γ w_=>∃  (b:Hp),Γ=[(1,pB k),(2,pB b4)]∧SS w h w_ b [⟨b9,40,qc l⟩,⟨b4,43,[iV 0,iV 0,qF,uV 0,eS,uV 0,eS,eS,sZ]⟩,⟨k,43,pG op n q s A 1 c⟩] [] [fun b=>Tab b,fun b=>K7T d b e i,fun b=>TmH d b e i,fun b=>TmH (d+1) b (⟨op,n,q,s,A,1,c⟩:PTm) (.mk op n q s ([i]:List Tm):Tm),fun b=>SlO 9 bg au b A ([e]:List PTm)]∧a6 (.mk op n q s ([i]:List Tm):Tm)=(.mk op n q s ([i]:List Tm):Tm)) ?_ ?_))
  ·
   refine aa a [.v 13 (pB k),.o 14 (iV op) 2 0 1] (a8 (av ?_));have zi:((op:Int) == (3:Int))=false:=bJ oM;have O:=ae zi;refine lB 16 zi (lL a [.m 15 16] (af (av ?_)));have zj:((op:Int) == (4:Int))=false:=bJ oM;have S:=ae zj;refine lB 36 zj (lL a [.m 35 36] (af (av ?_)));have zk:((op:Int) == (5:Int))=false:=bJ oM;have bb:=ae zk;refine lB 58 zk (lL a [.m 57 58] (af (av ?_)));have zl:((op:Int) == (6:Int))=false:=bJ oM;have F:=ae zl;refine lB 91 zl (lL a [.m 90 91] (af (av ?_)));cases zb:((op:Int) == (7:Int))
   ·
    have zm:=ae zb;refine lB 102 zb (lL a [.m 101 102] (af (av ?_)));cases y:((op:Int) == (8:Int))
    ·
     have zn:=ae y;refine lB 117 y (lL a [.m 116 117] (af (CG.skip ?_)));intro a_ x;exact ⟨_,⟨Q,rfl,a.to _ _,(H0 oM)⟩,x.to _ kR⟩
    have zn:=ML y;refine lB 117 y (lL a [.m 116 117] (ak (cQ (aa a [.v 118 (qP k 1),.o 119 (iV n) 2 1 1] ?_))));cases B:((n:Int) == (0:Int))
    ·
     have zo:=ae B;refine lB 120 B (af (cK (aa a [.v 122 (qP k 1),.o 123 (iV n) 2 1 1] ?_)));cases C:((n:Int) == (1:Int))
     ·
      have zp:=ae C;refine lB 124 C (af (CG.skip ?_));intro a_ x;exact ⟨_,⟨Q,rfl,a.to _ _,(CX oM oM oM)⟩,x.to _ kR⟩
     have zp:=ML C;refine lB 124 C (ak (aa a [.v 125 (qP k 8),.o 126 (qS A 1 c) 2 8 1] (lX 127 A 1 c 9 0 0 ((a.f.q.1).ok oM) ?_)));exact lH 128 (az (([e]:List PTm).getD 0 au)) a ((a.f.q.1).el 0 oM) (lP 1 0 (bg (([e]:List PTm).getD 0 au)) a (fun _ a=>ac a [(1,0,9)] (az (([e]:List PTm).getD 0 au)) (⟨_,rfl,by rw[bZ (fun b=>Mj ((j.2 b).symm.trans aM)),show a6 (.mk op n q s ([i]:List Tm):Tm)=_ from G4 oM oM];exact (a.f.r.1).mono (MK d)⟩)))
    have zo:=ML B;exact lB 120 B (ak (av (ag 121 a (jR (1) kD kD _ _ a.g) (fun _ _ a=>lP 1 0 (bg (⟨1,0,(((1):Int):Rat),⟨#[]⟩,none,0,0⟩:PTm)) a (fun _ a=>ac a [(1,0,9)] (az (⟨1,0,(((1):Int):Rat),⟨#[]⟩,none,0,0⟩:PTm)) (⟨_,rfl,by rw[bZ (fun b=>Mj ((j.2 b).symm.trans aM)),show a6 (.mk op n q s ([i]:List Tm):Tm)=eU ((1:Int):Rat) from G2 oM oM];exact (TmH.mk (op:=1) (n:=0) (s:=⟨#[]⟩) (c:=0) Tms.nil (nR _) SlO.nil)⟩))))))
   have zm:=ML zb;refine lB 102 zb (lL a [.m 101 102] (ak (aa a [.v 103 (qP k 8),.o 104 (qS A 1 c) 2 8 1] (lX 105 A 1 c 9 0 0 ((a.f.q.1).ok oM) ?_))));refine lL a [.v 106 (.pointer (some ⟨(aB A),aO A+0*9,none⟩))] (lH 107 (iV ((([e]:List PTm).getD 0 au).op)) a (((a.f.q.1).el 0 oM).part 0 1) ?_);cases z:(((([e]:List PTm).getD 0 au).op:Int) == (7:Int))
   ·
    have zq:=ae z;refine lB 108 z (af (CG.skip ?_));intro a_ x;exact ⟨_,⟨Q,rfl,a.to _ _,(Bb oM (fun b=>MO (p.trans b) oM))⟩,x.to _ kR⟩
   have zq:=ML z;refine lB 108 z (ak ?_);obtain ⟨W,D,u,I⟩:=(a.f.2.1).get oM;have hlk:([D]:List PTm).length=1:=rfl;refine aa a [.v 109 (qP k 8),.o 110 (qS A 1 c) 2 8 1] (lX 111 A 1 c 9 0 0 ((a.f.q.1).ok oM) ?_);refine lL a [.v 112 (.pointer (some ⟨(aB A),aO A+0*9+8,none⟩))] (Ja 113 (qS e.A e.m e.c) a (((a.f.q.1).el 0 (K9 _)).part 8 1) (by rw[W]) ?_);exact lX 114 e.A 1 e.c 9 0 0 (u.ok oM) (lH 115 (az (([D]).getD 0 au)) a (u.el 0 oM) (lP 1 0 (bg (([D]).getD 0 au)) a (fun _ a=>ac a [(1,0,9)] (az (([D]).getD 0 au)) (⟨_,rfl,by rw[bZ (fun b=>Mj ((j.2 b).symm.trans aM)),show a6 (.mk op n q s ([i]:List Tm):Tm)=_ from Jg oM (p.symm.trans oM)];exact I.mono (MK d)⟩))))
  rintro _ _ ⟨_,rfl,a,L⟩;exact aa a [.o 129 (pW op n q s A 1 c) 2 0 9] (lP 1 0 (pG op n q s A 1 c) a (fun _ a=>ac a [(1,0,9)] (pW op n q s A 1 c) (⟨_,rfl,by rw[bZ (fun b=>Mj ((j.2 b).symm.trans aM)),L];exact a.f.r.2.1⟩)))
 try rw[za] at a
 try rw[za]
 exact ce (aa a [.o 11 (qv l) 0 0 5] (ag 12 a (jt l _ _ a.g) (fun _ _ a=>lP 1 0 (bg (⟨1,0,l,⟨#[]⟩,none,0,0⟩:PTm)) a (fun _ a=>ac a [(1,0,9)] (az (⟨1,0,l,⟨#[]⟩,none,0,0⟩:PTm)) (⟨_,rfl,by rw[gd (j.1 aM),←X aM];exact TmH.mk (op:=1) (n:=0) (s:=⟨#[]⟩) (c:=0) Tms.nil (nR _) SlO.nil⟩)))))
theorem oL (d:Nat)(op n:Int)(q:Rat)(s:ByteArray)(A:Option Addr)(c:Nat)(e:PTm)(a:Tm)(j:e.op=a.op)(o:e.q=a.q)(f:WfT (fun s=>bI s=true) d a)(C:d+1≤24)(k:WfT (fun s=>bI s=true) (d+1) (.mk op n q s ([a]:List Tm):Tm))(l:bp (d+1) (.mk op n q s ([a]:List Tm):Tm)≤1000)(p:op=7∨op=8∨op=9∨op=10∨op=11)(y:1≤c)(w:World)(h:Hp)(g:G w h)(x:SlO 9 bg au h A [e])(b:TmH d h e a)(B:Tab h):Calls Tryz.prog 50 #[az (⟨op,n,q,s,A,1,c⟩:PTm)] w (Ret w h (fun v h1=>∃ u,v=az u∧TmH (d+1) h1 u (dE (.mk op n q s ([a]:List Tm):Tm)))):=by
 have z:TmH (d+1) h (⟨op,n,q,s,A,1,c⟩:PTm) (.mk op n q s ([a]:List Tm):Tm):=TmH.mk (ps:=[e]) ⟨rfl,fun i hi=>by
  have:i=0:=by have:i<1:=hi;omega
  subst this;exact b⟩ y x
 exact tG d op n q s A c e a j o f C k l p w h g x z b (GI j f b) B
theorem vo (d:Nat)(op n:Int)(q:Rat)(s:ByteArray)(A:Option Addr)(c:Nat)(j:PTm)(p:Tm)(D:j.op=p.op)(F:j.q=p.q)(C:WfT (fun s=>bI s=true) d p)(i:PTm)(l:Tm)(B:i.op=l.op)(z:i.q=l.q)(y:WfT (fun s=>bI s=true) d l)(hd:d+1≤24)(V:WfT (fun s=>bI s=true) (d+1) (.mk op n q s ([p,l]:List Tm):Tm))(L:bp (d+1) (.mk op n q s ([p,l]:List Tm):Tm)≤1000)(hop:op=3∨op=4∨op=5∨op=6∨op=12∨op=13)(w:World)(h:Hp)(g:G w h)(hK:SlO 9 bg au h A ([j,i]:List PTm))(hT:TmH (d+1) h (⟨op,n,q,s,A,2,c⟩:PTm) (.mk op n q s ([p,l]:List Tm):Tm))(hp1:TmH d h j p)(hp2:TmH d h i l)(tb:Tab h):CR 50 #[pW op n q s A 2 c] w h (fun v h1=>∃ J,v=az J∧TmH (d+1) h1 J (dE (.mk op n q s ([p,l]:List Tm):Tm))):=by
 have e:=((((((sS g).aS hK).add (K:=fun k=>TmH (d+1) k (⟨op,n,q,s,A,2,c⟩:PTm) (.mk op n q s ([p,l]:List Tm):Tm)) hT).add (K:=fun k=>TmH d k j p) hp1).add (K:=fun k=>TmH d k i l) hp2).aB tb);have hln:([j,i]:List PTm).length=2:=rfl;refine go Tryz.func50 [(0,pW op n q s A 2 c)] rfl (av (lA 1 43 (pG op n q s A 2 c) e (fun x w2 h3 e=>lA 2 43 dS e (fun M w5 h6 e=>ah (aa e [.o 6 (pW op n q s A 2 c) 1 0 9] (lC 7 e (FD d op n q s A c j p D F C i l B z y hd V L hop _ _ e.g e.f.q.1 e.f.r.2.1 e.f.r.1 e.f.2.1 e.f.1) ?_))))));rintro _ w7 h8 e ⟨I,bf,rfl,u,hfx⟩;refine lL e [.m 5 7,.v 8 (qv I),.v 9 (.bool bf)] (lA 3 40 da e (fun b9 _ zm e=>lP 0 0 (qc I) e (fun _ e=>lL e [.m 4 9] (aI (lL e [.m 10 4] (lN ?_))))));cases za:(bf)
 ·
  try rw[za] at e
  try rw[za]
  refine cv (cK (CG.join (fun Γ w_=>∃  (k:Hp),Γ=[(1,pB x),(2,pB M)]∧SS w h w_ k [⟨b9,40,qc I⟩,⟨M,43,[iV 0,iV 0,qF,uV 0,eS,uV 0,eS,eS,sZ]⟩,⟨x,43,pG op n q s A 2 c⟩] [] [fun k=>Tab k,fun k=>TmH d k i l,fun k=>TmH d k j p,fun k=>TmH (d+1) k (⟨op,n,q,s,A,2,c⟩:PTm) (.mk op n q s ([p,l]:List Tm):Tm),fun k=>SlO 9 bg au k A ([j,i]:List PTm)]∧a6 (.mk op n q s ([p,l]:List Tm):Tm)=(.mk op n q s ([p,l]:List Tm):Tm)) ?_ ?_))
  ·
   refine aa e [.v 13 (pB x),.o 14 (iV op) 2 0 1] (a8 (av ?_));cases zb:((op:Int) == (3:Int))
   ·
    have zi:=ae zb;refine lB 16 zb (lL e [.m 15 16] (af (av ?_)));cases U:((op:Int) == (4:Int))
    ·
     have zj:=ae U;refine lB 36 U (lL e [.m 35 36] (af (av ?_)));cases Q:((op:Int) == (5:Int))
     ·
      have zk:=ae Q;refine lB 58 Q (lL e [.m 57 58] (af (av ?_)));cases S:((op:Int) == (6:Int))
      ·
       have zl:=ae S;refine lB 91 S (lL e [.m 90 91] (af (av ?_)));have zf:((op:Int) == (7:Int))=false:=bJ oM;have X:=ae zf;refine lB 102 zf (lL e [.m 101 102] (af (av ?_)));have zg:((op:Int) == (8:Int))=false:=bJ oM;have Z:=ae zg;refine lB 117 zg (lL e [.m 116 117] (af (CG.skip ?_)));intro O H;exact ⟨_,⟨zm,rfl,e.to _ _,(tQ oM)⟩,H.to _ kR⟩
      have zl:=ML S;refine lB 91 S (lL e [.m 90 91] (ak (aa e [.v 92 (qP x 8),.o 93 (qS A 2 c) 2 8 1] (lX 94 A 2 c 9 1 1 ((e.f.q.1).ok oM) ?_))));refine lH 95 (az (([j,i]:List PTm).getD 1 au)) e ((e.f.q.1).el 1 oM) (ag 96 e (nX i l 1 kD B z y _ _ e.g) (fun _ zn e=>?_));cases bb:((decide (isN l ((1:Int):Rat))))
      ·
       refine af (CG.skip ?_);intro O H;exact ⟨_,⟨zn,rfl,e.to _ _,(tS oM aM)⟩,H.to _ kR⟩
      refine ak (aa e [.v 97 (qP x 8),.o 98 (qS A 2 c) 2 8 1] (lX 99 A 2 c 9 0 0 ((e.f.q.1).ok oM) ?_));exact lH 100 (az (([j,i]:List PTm).getD 0 au)) e ((e.f.q.1).el 0 oM) (lP 1 0 (bg (([j,i]:List PTm).getD 0 au)) e (fun _ e=>ac e [(1,0,9)] (az (([j,i]:List PTm).getD 0 au)) (⟨_,rfl,by rw[bZ (fun k=>Mj ((u.2 k).symm.trans aM)),show a6 (.mk op n q s ([p,l]:List Tm):Tm)=_ from H8 oM aM];exact (e.f.r.1).mono (MK d)⟩)))
     have zk:=ML Q;refine lB 58 Q (lL e [.m 57 58] (ak (cQ (aa e [.v 59 (qP x 8),.o 60 (qS A 2 c) 2 8 1] (lX 61 A 2 c 9 0 0 ((e.f.q.1).ok oM) ?_)))));refine lH 62 (az (([j,i]:List PTm).getD 0 au)) e ((e.f.q.1).el 0 oM) (ag 63 e (nX j p 0 kD D F C _ _ e.g) (fun _ _ e=>?_));cases bm:((decide (isN p ((0:Int):Rat))))
     ·
      refine lL e [.m 64 63,.v 65 (qP x 8),.o 66 (qS A 2 c) 2 8 1] (lX 67 A 2 c 9 1 1 ((e.f.q.1).ok oM) ?_);refine lH 68 (az (([j,i]:List PTm).getD 1 au)) e ((e.f.q.1).el 1 oM) (ag 69 e (nX i l 0 kD B z y _ _ e.g) (fun _ _ e=>?_));cases bl:((decide (isN l ((0:Int):Rat))))
      ·
       refine lL e [.v 70 qF] (af (cK (cQ (aa e [.v 72 (qP x 8),.o 73 (qS A 2 c) 2 8 1] (lX 74 A 2 c 9 0 0 ((e.f.q.1).ok oM) ?_)))));refine lH 75 (az (([j,i]:List PTm).getD 0 au)) e ((e.f.q.1).el 0 oM) (ag 76 e (nX j p 1 kD D F C _ _ e.g) (fun _ _ e=>?_));cases bk:((decide (isN p ((1:Int):Rat))))
       ·
        refine af (cK (aa e [.v 81 (qP x 8),.o 82 (qS A 2 c) 2 8 1] (lX 83 A 2 c 9 1 1 ((e.f.q.1).ok oM) ?_)));refine lH 84 (az (([j,i]:List PTm).getD 1 au)) e ((e.f.q.1).el 1 oM) (ag 85 e (nX i l 1 kD B z y _ _ e.g) (fun _ zo e=>?_));cases br:((decide (isN l ((1:Int):Rat))))
        ·
         refine lN (bH [(1,pB x),(2,pB M),(85,qF)] ?_);refine cv (CG.skip ?_);intro O H;exact ⟨_,⟨zo,rfl,e.to _ _,(tZ oM aM aM aM aM)⟩,H.to _ kR⟩
        refine lN (bH [(1,pB x),(2,pB M),(85,qT)] ?_);refine ce (aa e [.v 86 (qP x 8),.o 87 (qS A 2 c) 2 8 1] (lX 88 A 2 c 9 0 0 ((e.f.q.1).ok oM) ?_));exact lH 89 (az (([j,i]:List PTm).getD 0 au)) e ((e.f.q.1).el 0 oM) (lP 1 0 (bg (([j,i]:List PTm).getD 0 au)) e (fun _ e=>ac e [(1,0,9)] (az (([j,i]:List PTm).getD 0 au)) (⟨_,rfl,by rw[bZ (fun k=>Mj ((u.2 k).symm.trans aM)),show a6 (.mk op n q s ([p,l]:List Tm):Tm)=_ from Ez oM aM aM aM aM];exact (e.f.r.1).mono (MK d)⟩)))
       refine ak (aa e [.v 77 (qP x 8),.o 78 (qS A 2 c) 2 8 1] (lX 79 A 2 c 9 1 1 ((e.f.q.1).ok oM) ?_));exact lH 80 (az (([j,i]:List PTm).getD 1 au)) e ((e.f.q.1).el 1 oM) (lP 1 0 (bg (([j,i]:List PTm).getD 1 au)) e (fun _ e=>ac e [(1,0,9)] (az (([j,i]:List PTm).getD 1 au)) (⟨_,rfl,by rw[bZ (fun k=>Mj ((u.2 k).symm.trans aM)),show a6 (.mk op n q s ([p,l]:List Tm):Tm)=_ from Hl oM aM aM aM];exact (e.f.2.1).mono (MK d)⟩)))
      exact lL e [.v 70 qT] (ak (av (ag 71 e (jR (0) kD kD _ _ e.g) (fun _ _ e=>lP 1 0 (bg (⟨1,0,(((0):Int):Rat),⟨#[]⟩,none,0,0⟩:PTm)) e (fun _ e=>ac e [(1,0,9)] (az (⟨1,0,(((0):Int):Rat),⟨#[]⟩,none,0,0⟩:PTm)) (⟨_,rfl,by rw[bZ (fun k=>Mj ((u.2 k).symm.trans aM)),show a6 (.mk op n q s ([p,l]:List Tm):Tm)=eU ((0:Int):Rat) from by first|exact oN oM (.inl aM)|exact oN oM (.inr aM)];exact (TmH.mk (op:=1) (n:=0) (s:=⟨#[]⟩) (c:=0) Tms.nil (nR _) SlO.nil)⟩))))))
     refine lL e [.m 64 63] (lG 65 ?_);exact lG 66 (lG 67 (lG 68 (lG 69 (lL e [.v 70 qT] (ak (av (ag 71 e (jR (0) kD kD _ _ e.g) (fun _ _ e=>lP 1 0 (bg (⟨1,0,(((0):Int):Rat),⟨#[]⟩,none,0,0⟩:PTm)) e (fun _ e=>ac e [(1,0,9)] (az (⟨1,0,(((0):Int):Rat),⟨#[]⟩,none,0,0⟩:PTm)) (⟨_,rfl,by rw[bZ (fun k=>Mj ((u.2 k).symm.trans aM)),show a6 (.mk op n q s ([p,l]:List Tm):Tm)=eU ((0:Int):Rat) from by first|exact oN oM (.inl aM)|exact oN oM (.inr aM)];exact (TmH.mk (op:=1) (n:=0) (s:=⟨#[]⟩) (c:=0) Tms.nil (nR _) SlO.nil)⟩))))))))))
    have zj:=ML U;refine lB 36 U (lL e [.m 35 36] (ak (cQ (aa e [.v 37 (qP x 8),.o 38 (qS A 2 c) 2 8 1] (lX 39 A 2 c 9 1 1 ((e.f.q.1).ok oM) ?_)))));refine lH 40 (az (([j,i]:List PTm).getD 1 au)) e ((e.f.q.1).el 1 oM) (ag 41 e (nX i l 0 kD B z y _ _ e.g) (fun _ _ e=>?_));cases bd:((decide (isN l ((0:Int):Rat))))
    ·
     refine af (cK (aa e [.v 46 (qP x 8),.o 47 (qS A 2 c) 2 8 1] (lX 48 A 2 c 9 0 0 ((e.f.q.1).ok oM) ?_)));refine lH 49 (az (([j,i]:List PTm).getD 0 au)) e ((e.f.q.1).el 0 oM) (ag 50 e (nX j p 0 kD D F C _ _ e.g) (fun _ zp e=>?_));cases bq:((decide (isN p ((0:Int):Rat))))
     ·
      refine af (CG.skip ?_);intro O H;exact ⟨_,⟨zp,rfl,e.to _ _,(tB oM aM aM)⟩,H.to _ kR⟩
     refine ak (aa e [.v 51 (qP x 8),.o 52 (qS A 2 c) 2 8 1] (lX 53 A 2 c 9 1 1 ((e.f.q.1).ok oM) ?_));refine lH 54 (az (([j,i]:List PTm).getD 1 au)) e ((e.f.q.1).el 1 oM) (lC 55 e (xe 7 i _ _ e.g) ?_);rintro _ _ _ e ⟨bo,rfl,Y⟩;replace e:=e.aS Y;refine lC 56 e (oL d 7 0 0 ⟨#[]⟩ (sB bo) 1 i l B z y hd (B8 y) (Ae (ez (Bf (d:=d) (op:=op) (n:=n) (q:=q) (s:=s) (a:=p) (b:=l)) L)) (.inl rfl) (nR _) _ _ e.g e.f.1 e.f.r.1 e.f.2.1) ?_;rintro _ _ _ e ⟨J,rfl,hpr⟩;replace e:=(e.add (K:=fun k=>TmH (d+1) k J (dE (.mk 7 0 0 ⟨#[]⟩ [l]))) hpr);exact lP 1 0 (bg J) e (fun _ e=>ac e [(1,0,9)] (az J) (⟨_,rfl,by rw[bZ (fun k=>Mj ((u.2 k).symm.trans aM)),show a6 (.mk op n q s ([p,l]:List Tm):Tm)=_ from I6 oM aM aM (fun k=>Mj ((u.2 k).symm.trans aM)) y.wfq C.wfq];exact e.f.1⟩))
    refine ak (aa e [.v 42 (qP x 8),.o 43 (qS A 2 c) 2 8 1] (lX 44 A 2 c 9 0 0 ((e.f.q.1).ok oM) ?_));exact lH 45 (az (([j,i]:List PTm).getD 0 au)) e ((e.f.q.1).el 0 oM) (lP 1 0 (bg (([j,i]:List PTm).getD 0 au)) e (fun _ e=>ac e [(1,0,9)] (az (([j,i]:List PTm).getD 0 au)) (⟨_,rfl,by rw[bZ (fun k=>Mj ((u.2 k).symm.trans aM)),show a6 (.mk op n q s ([p,l]:List Tm):Tm)=_ from EQ oM aM];exact (e.f.r.1).mono (MK d)⟩)))
   have zi:=ML zb;refine lB 16 zb (lL e [.m 15 16] (ak (cQ (aa e [.v 17 (qP x 8),.o 18 (qS A 2 c) 2 8 1] (lX 19 A 2 c 9 0 0 ((e.f.q.1).ok oM) ?_)))));refine lH 20 (az (([j,i]:List PTm).getD 0 au)) e ((e.f.q.1).el 0 oM) (ag 21 e (nX j p 0 kD D F C _ _ e.g) (fun _ _ e=>?_));cases bt:((decide (isN p ((0:Int):Rat))))
   ·
    refine af (cK (aa e [.v 26 (qP x 8),.o 27 (qS A 2 c) 2 8 1] (lX 28 A 2 c 9 1 1 ((e.f.q.1).ok oM) ?_)));refine lH 29 (az (([j,i]:List PTm).getD 1 au)) e ((e.f.q.1).el 1 oM) (ag 30 e (nX i l 0 kD B z y _ _ e.g) (fun _ zq e=>?_));cases bn:((decide (isN l ((0:Int):Rat))))
    ·
     refine af (CG.skip ?_);intro O H;exact ⟨_,⟨zq,rfl,e.to _ _,(sU oM aM aM)⟩,H.to _ kR⟩
    refine ak (aa e [.v 31 (qP x 8),.o 32 (qS A 2 c) 2 8 1] (lX 33 A 2 c 9 0 0 ((e.f.q.1).ok oM) ?_));exact lH 34 (az (([j,i]:List PTm).getD 0 au)) e ((e.f.q.1).el 0 oM) (lP 1 0 (bg (([j,i]:List PTm).getD 0 au)) e (fun _ e=>ac e [(1,0,9)] (az (([j,i]:List PTm).getD 0 au)) (⟨_,rfl,by rw[bZ (fun k=>Mj ((u.2 k).symm.trans aM)),show a6 (.mk op n q s ([p,l]:List Tm):Tm)=_ from DT oM aM aM];exact (e.f.r.1).mono (MK d)⟩)))
   refine ak (aa e [.v 22 (qP x 8),.o 23 (qS A 2 c) 2 8 1] (lX 24 A 2 c 9 1 1 ((e.f.q.1).ok oM) ?_));exact lH 25 (az (([j,i]:List PTm).getD 1 au)) e ((e.f.q.1).el 1 oM) (lP 1 0 (bg (([j,i]:List PTm).getD 1 au)) e (fun _ e=>ac e [(1,0,9)] (az (([j,i]:List PTm).getD 1 au)) (⟨_,rfl,by rw[bZ (fun k=>Mj ((u.2 k).symm.trans aM)),show a6 (.mk op n q s ([p,l]:List Tm):Tm)=_ from Gv oM aM];exact (e.f.2.1).mono (MK d)⟩)))
  rintro _ _ ⟨_,rfl,e,W⟩;exact aa e [.o 129 (pW op n q s A 2 c) 2 0 9] (lP 1 0 (pG op n q s A 2 c) e (fun _ e=>ac e [(1,0,9)] (pW op n q s A 2 c) (⟨_,rfl,by rw[bZ (fun k=>Mj ((u.2 k).symm.trans aM)),W];exact e.f.r.2.1⟩)))
 try rw[za] at e
 try rw[za]
 exact ce (aa e [.o 11 (qv I) 0 0 5] (ag 12 e (jt I _ _ e.g) (fun _ _ e=>lP 1 0 (bg (⟨1,0,I,⟨#[]⟩,none,0,0⟩:PTm)) e (fun _ e=>ac e [(1,0,9)] (az (⟨1,0,I,⟨#[]⟩,none,0,0⟩:PTm)) (⟨_,rfl,by rw[gd (u.1 aM),←hfx aM];exact TmH.mk (op:=1) (n:=0) (s:=⟨#[]⟩) (c:=0) Tms.nil (nR _) SlO.nil⟩)))))
def PlE (ok:ByteArray→Prop)(d:Nat)(t:Tm)(er:Int):Prop:=((WfT ok d t∧bp d t≤1000)∧er=0)∨(¬(WfT ok d t∧bp d t≤1000)∧er=1)
theorem PlE.uniq {ok:ByteArray→Prop}{d:Nat}{t:Tm}{a b:Int}(x:PlE ok d t a)(y:PlE ok d t b):a=b:=by
 rcases x with ⟨x1,rfl⟩|⟨x1,rfl⟩<;>rcases y with ⟨y1,rfl⟩|⟨y1,rfl⟩
 ·rfl
 ·exact MO x1 y1
 ·exact MO y1 x1
 ·rfl
theorem PlE.ok {ok:ByteArray→Prop}{d:Nat}{t:Tm}{a:Int}(x:PlE ok d t a)(h:a=0):WfT ok d t∧bp d t≤1000:=by
 rcases x with ⟨x1,rfl⟩|⟨x1,rfl⟩
 ·exact x1
 ·exact MO h kD
theorem DQ (d:Nat)(op n:Int)(q:Rat)(s:ByteArray)(A:Option Addr)(c:Nat)(w:World)(h:Hp)(g:G w h):CR 81 #[pW op n q s A 0 c] w h (fun v _=>∃ x b,v=.tuple #[qv x,.bool b]∧(b=true↔d7 (.mk op n q s []:Tm))∧(b=true→x=(aF [] 2 (.mk op n q s []:Tm)).2)):=by
 have a:=sS g;exact go Tryz.func81 [(0,pW op n q s A 0 c)] rfl (av (lA 1 43 (pG op n q s A 0 c) a (fun f w2 k a=>lA 2 40 da a (fun p l i a=>lL a [.v 3 qF] (ah (aa a [.v 8 (qP f 8),.o 9 (qS A 0 c) 1 8 1,.v 10 (iV 0),.v 11 qT] (ak (aa a [.v 12 eb] (lP 0 0 da a (fun j a=>lL a [.v 3 qF] (ac a [(0,0,5)] (.tuple #[.agg #[qF,uV 0,eS,uV 0,eS],qF]) (⟨0,false,rfl,⟨fun e=>MO e kD,fun e=>MO rfl e.1.1⟩,fun e=>MO e kD⟩))))))))))))
theorem vp (d:Nat)(op n:Int)(q:Rat)(s:ByteArray)(A:Option Addr)(c:Nat)(x:op=1∨op=2)(w:World)(h:Hp)(g:G w h)(J:TmH (d+1) h (⟨op,n,q,s,A,0,c⟩:PTm) (.mk op n q s [])):CR 50 #[pW op n q s A 0 c] w h (fun v h1=>∃ C,v=az C∧TmH (d+1) h1 C (dE (.mk op n q s []))):=by
 have a:=((sS g).add (K:=fun i=>TmH (d+1) i (⟨op,n,q,s,A,0,c⟩:PTm) (.mk op n q s [])) J);refine go Tryz.func50 [(0,pW op n q s A 0 c)] rfl (av (lA 1 43 (pG op n q s A 0 c) a (fun I w2 S a=>lA 2 43 dS a (fun V U M a=>ah (aa a [.o 6 (pW op n q s A 0 c) 1 0 9] (lC 7 a (DQ d op n q s A c _ _ a.g) ?_))))));rintro _ O W a ⟨b,bf,rfl,e,L⟩;refine lL a [.m 5 7,.v 8 (qv b),.v 9 (.bool bf)] (lA 3 40 da a (fun Q _ _ a=>lP 0 0 (qc b) a (fun _ a=>lL a [.m 4 9] (aI (lL a [.m 10 4] (lN ?_))))));cases za:(bf)
 ·
  try rw[za] at a
  try rw[za]
  refine cv (cK (cQ (aa a [.v 13 (pB I),.o 14 (iV op) 2 0 1] (a8 (av ?_)))));have zb:((op:Int) == (3:Int))=false:=bJ oM;have j:=ae zb;refine lB 16 zb (lL a [.m 15 16] (af (av ?_)));have B:((op:Int) == (4:Int))=false:=bJ oM;have l:=ae B;refine lB 36 B (lL a [.m 35 36] (af (av ?_)));have F:((op:Int) == (5:Int))=false:=bJ oM;have y:=ae F;refine lB 58 F (lL a [.m 57 58] (af (av ?_)));have z:((op:Int) == (6:Int))=false:=bJ oM;have p:=ae z;refine lB 91 z (lL a [.m 90 91] (af (av ?_)));have D:((op:Int) == (7:Int))=false:=bJ oM;have k:=ae D;refine lB 102 D (lL a [.m 101 102] (af (av ?_)));have H:((op:Int) == (8:Int))=false:=bJ oM;have u:=ae H;exact lB 117 H (lL a [.m 116 117] (af (cK (aa a [.o 129 (pW op n q s A 0 c) 2 0 9] (lP 1 0 (pG op n q s A 0 c) a (fun _ a=>ac a [(1,0,9)] (pW op n q s A 0 c) (⟨_,rfl,by rw[bZ (fun i=>Mj ((e.2 i).symm.trans aM)),show a6 (.mk op n q s [])=.mk op n q s [] from Jf x];exact a.f.1⟩)))))))
 try rw[za] at a
 try rw[za]
 exact ce (aa a [.o 11 (qv b) 0 0 5] (ag 12 a (jt b _ _ a.g) (fun _ _ a=>lP 1 0 (bg (⟨1,0,b,⟨#[]⟩,none,0,0⟩:PTm)) a (fun _ a=>ac a [(1,0,9)] (az (⟨1,0,b,⟨#[]⟩,none,0,0⟩:PTm)) (⟨_,rfl,MO rfl (e.1 aM).1.1⟩)))))
theorem Cw (d:Nat)(p:PTm)(t:Tm)(u:d+1≤24)(w:World)(h:Hp)(g:G w h)(x:TmH (d+1) h p t)(f:WfT (fun s=>bI s=true) (d+1) t)(j:bp (d+1) t≤1000)(y:Tab h):Calls Tryz.prog 50 #[az p] w (Ret w h (fun v h1=>∃ l,v=az l∧TmH (d+1) h1 l (dE t))):=by
 have o:=x;obtain ⟨op,n,q,s,A,c,ps,ks,rfl,rfl,C,B,e⟩:=x.open
 rcases f.wfq.split with ⟨rfl,ho⟩|⟨a,rfl,ho,ha⟩|⟨a,b,rfl,ho,ha,hb⟩
 ·have e0:ps=[]:=z1 e.len
  subst e0;exact vp d op n q s A c ho w h g o
 ·obtain ⟨i,rfl⟩:=Mt.1 (show ps.length=1 from e.len)
  have h1:TmH d h i a:=e.at_ 0 (K9 _);exact oL d op n q s A c i a (qk h1) (wA h1) ha.wf u f j ho C w h g B h1 y
 ·obtain ⟨i,z,rfl⟩:=kJ (show ps.length=2 from e.len)
  have h1:TmH d h i a:=e.at_ 0 (K9 _);have k:TmH d h z b:=e.at_ 1 (by show 1<2;decide);exact vo d op n q s A c i a (qk h1) (wA h1) ha.wf z b (qk k) (wA k) hb.wf u f j ho w h g B o h1 k y
theorem Cu  (d:Nat)(hd:d+1≤24)(ih:∀ (p:PTm) (t:Tm) (w:World) (h:Hp),G w h→TmH d h p t→t6 (fun s=>bI s=true) d t→Tab h→Calls Tryz.prog 22 #[az p] w (Ret w h (fun v h1=>∃ C,v=az C∧TmH d h1 C (aw d t))))(op n:Int)(q:Rat)(s:ByteArray)(A:Option Addr)(c:Nat)(ps:List PTm)(ks:List Tm)(hc:ps.length≤c)(Y:ps.length≤3)(S:∀ i,i<ks.length→t6 (fun s=>bI s=true) d (ks.getD i bv))(H:WfT (fun s=>bI s=true) (d+1) (.mk op n q s (ks.map (aw d)):Tm))(M:bp (d+1) (.mk op n q s (ks.map (aw d)):Tm)≤1000)(w:World)(h:Hp)(g:G w h)(hK:SlO 9 bg au h A ps)(O:Tms d h ps ks)(tb:Tab h):CR 22 #[pW op n q s A ps.length c] w h (fun v h1=>∃ C,v=az C∧TmH (d+1) h1 C (aw (d+1) (.mk op n q s ks))):=by
 have e:=((((sS g).aS hK).add (K:=fun j=>Tms d j ps ks) O).aB tb);have Z:=(e.f.2.1).len;refine go Tryz.func22 [(0,pW op n q s A ps.length c)] rfl (av (lA 1 43 (pG op n q s A ps.length c) e (fun x w2 h3 e=>lA 2 43 dS e (fun F w5 h6 e=>aI (lL e [.v 6 (qP x 8),.o 7 (qS A ps.length c) 1 8 1,.v 8 (nV ps.length)] (lK 9 43 ps.length 9 112 (.agg #[iV 0,iV 0,qF,uV 0,eS,uV 0,eS,eS,sZ]) bg au e (fun u w8 h9 e=>?_)))))));have X:(Am ps.length au).length=ps.length:=by simp
 refine lL e [.m 3 9] (ah (aa e [.v 10 (qP x 8),.o 11 (qS A ps.length c) 2 8 1,.v 12 (nV ps.length),.v 13 (iV 0)] (a8 ?_)));replace e:=e.add (K:=fun j=>TmsU d j 0 (Am ps.length au) (ks.map (aw d))) ((fun i hi=>MO hi (Mk i)));refine bH _ (CG.loop (fun J Γ w_=>∃ (k:Nat) (L:List PTm) (j:Hp),J=ps.length-k∧Γ=[(1,pB x),(2,pB F),(3,qS (sB u) ps.length ps.length),(11,qS A ps.length c),(12,nV ps.length),(13,nV k)]∧SS w h w_ j [⟨u,43,(L).flatMap bg⟩,⟨F,43,[iV 0,iV 0,qF,uV 0,eS,uV 0,eS,eS,sZ]⟩,⟨x,43,pG op n q s A ps.length c⟩] [] [fun j=>TmsU d j k L (ks.map (aw d)),fun j=>Tab j,fun j=>Tms d j ps ks,fun j=>SlO 9 bg au j A ps]∧k≤ps.length∧L.length=ps.length) _ ⟨0,Am ps.length au,h9,rfl,rfl,e.to _ _,K7 _,(by simp)⟩ ?_);rintro _ _ _ ⟨k,L,_,V,rfl,e,hk,B⟩;refine av ?_;cases za:(decide ((k:Int)<(ps.length:Int)))
 ·
  have zb:=oF za;refine lB 14 za (ah (cv (CG.exit ?_)))
  show CG _ _ _ _ _ _ _ _
  refine av ?_;have hkn:k=ps.length:=by omega
  obtain ⟨_,e,z,U,W⟩:=e.pub 0;replace e:=(e.to [⟨F,43,[iV 0,iV 0,qF,uV 0,eS,uV 0,eS,eS,sZ]⟩,⟨x,43,pG op n q s A ps.length c⟩] []).aS (SlO.of_flat (sz:=9) (f:=bg) (d:=au) (b:=u) (o:=0) (l:=L) (fun _=>rfl) z);refine lL e [.m 24 3,.v 25 (qP x 8)] (lP 1 8 ([qS (sB u) ps.length ps.length]) e (fun _ e=>lN ?_));replace e:=e.add (K:=fun j=>TmH (d+1) j (⟨op,n,q,s,sB u,ps.length,ps.length⟩:PTm) (.mk op n q s (ks.map (aw d)):Tm)) (by have j:=TmH.mk (op:=op) (n:=n) (q:=q) (s:=s) (c:=L.length) (Tms.of_u (by rw[MI];omega) (by rw[MI];omega) e.f.2.1) (nR _) (e.f.1);rw[B] at j;exact j);refine aa e [.o 26 (pW op n q s (sB u) ps.length ps.length) 1 0 9] (lC 27 e (Cw d (⟨op,n,q,s,sB u,ps.length,ps.length⟩:PTm) (.mk op n q s (ks.map (aw d)):Tm) hd _ _ e.g e.f.1 H M e.f.r.2.1) ?_);rintro _ _ _ e ⟨D,rfl,Q⟩;replace e:=(e.add (K:=fun j=>TmH (d+1) j D (dE (.mk op n q s (ks.map (aw d)):Tm))) Q);exact lP 0 0 (bg D) e (fun _ e=>ac e [(0,0,9)] (az D) (⟨D,rfl,e.f.1⟩))
 have zb:=oT za;refine lB 14 za (ah (ce (cK (cQ (kZ (aa e [.m 15 13] (lX 16 A ps.length c 9 (k:Nat) k ((e.f.r.2.1).ok oM) ?_)))))));refine lH 17 (az (ps.getD k au)) e ((e.f.r.2.1).el k oM) (lA 5 43 dS e (fun zd _ _ e=>lL e [.m 4 15] (lP 0 0 (bg (ps.getD k au)) e (fun _ e=>lN (kQ (lL e [.m 18 3,.m 19 4,.o 20 (az (ps.getD k au)) 0 0 9] (lC 21 e (ih (ps.getD k au) (ks.getD k bv) _ _ e.g ((e.f.r.1).at_ k oM) (S k oM) e.f.2.1) ?_)))))));rintro _ _ ze e ⟨y,rfl,I⟩;replace e:=(e.add (K:=fun j=>TmH d j y (aw d (ks.getD k bv))) I);refine lX 22 (sB u) ps.length ps.length 9 (k:Nat) k rfl (lW 1 L bg 9 k y e oM (fun _ e=>?_));have zc:((L).set k y).length=ps.length:=by rw[KP];exact B
 replace e:=e.to [⟨zd,43,bg (ps.getD k au)⟩,⟨u,43,((L).set k y).flatMap bg⟩,⟨F,43,[iV 0,iV 0,qF,uV 0,eS,uV 0,eS,eS,sZ]⟩,⟨x,43,pG op n q s A ps.length c⟩] [];refine lN (kQ (bD 23 ((k:Nat)+1) (k+1) ?_));refine lL e [.m 13 23] (lD ?_);intro a_ ka;replace e:=(e.tl.tl.add (K:=fun j=>TmsU d j (k+1) ((L).set k y) (ks.map (aw d))) ((e.f.2.1).set oM (by rw[jG (a:=bv) oM];exact e.f.1)));replace e:=e.drop 1 0;refine ⟨_,_,?_,⟨k+1,(L).set k y,ze,rfl,rfl,e.to _ _,oM,zc⟩,ka.to _ kR⟩
 omega
theorem xn:∀ (d:Nat),d≤24→∀ (p:PTm) (t:Tm) (w:World) (h:Hp),G w h→TmH d h p t→t6 (fun s=>bI s=true) d t→Tab h→Calls Tryz.prog 22 #[az p] w (Ret w h (fun v h1=>∃ p2,v=az p2∧TmH d h1 p2 (aw d t)))
  | 0,_,_,_,_,_,_,x,_,_=>x.elim
  | d+1,hd,p,t,w,h,g,x,wf,tb=>by
    obtain ⟨op,n,q,s,A,c,ps,ks,rfl,rfl,hc,hK,hKs⟩:=x.open;obtain ⟨b,f,e⟩:=wf;have a:d8 op=((ks.map (aw d)).length:Nat):=b.1;have i:=aE op;rw[MI] at a
    exact Cu d hd (fun p t w h=>xn d oM p t w h) op n q s A c ps ks hc (by have:=hKs.len;omega) e b f w h g hK hKs tb
theorem rC (d:Nat)(p:PTm)(t:Tm)(y:d≤24)(j:WfT (fun s=>bI s=true) d t∧bp d t≤1000→t6 (fun s=>bI s=true) d t∧WfT (fun s=>bI s=true) d (aw d t))(w:World)(h:Hp)(g:G w h)(C:TmH d h p t)(B:iF fi d t)(D:Tab h):CR 6 #[az p] w h (fun v h1=>∃ (u:PTm) (er:Int),v=.tuple #[az u,iV er]∧PlE (fun s=>bI s=true) d t er∧(er=0→TmH d h1 u (aw d t))∧(er≠0→u=au)):=by
 have a:=(((sS g).add (K:=fun c=>TmH d c p t) C).aB D);refine go Tryz.func6 [(0,az p)] rfl (av (lA 1 43 (bg p) a (fun J w2 L a=>lA 2 43 dS a (fun O M H a=>lL a [.v 3 (iV 0)] (ah (aa a [.o 4 (az p) 1 0 9] (lC 5 a (uw bI fi wm d p t y _ _ a.g a.f.2.1 B) ?_)))))));rintro _ I Q a ⟨F,rfl,b⟩;cases e:((F:Int) != (0:Int))
 ·
  have i:=aJ e;refine lB 6 e (af (cK (aa a [.o 8 (az p) 1 0 9] (lC 9 a (xn d y p t _ _ a.g a.f.2.1 (j (f7 b oM)).1 a.f.1) ?_))));rintro _ _ _ a ⟨z,rfl,x⟩;replace a:=(a.add (K:=fun c=>TmH d c z (aw d t)) x);refine lC 10 a (xX (fun s=>bI s=true) d z (aw d t) _ _ a.g a.f.1 (j (f7 b oM)).2) ?_;rintro _ _ _ a ⟨k,rfl,l⟩;replace a:=(a.add (K:=fun c=>TmH d c k (aw d t)) l);exact lP 0 0 (bg k) a (fun _ a=>lL a [.v 3 (iV 0)] (ac a [(0,0,9)] (.tuple #[az k,iV 0]) (⟨k,_,rfl,.inl ⟨f7 b oM,rfl⟩,(fun _=>(a.f.1)),(fun c=>MO rfl c)⟩)))
 have i:=aW e;exact lB 6 e (ak (aa a [.v 7 (.agg #[iV 0,iV 0,qF,uV 0,eS,uV 0,eS,eS,sZ])] (lP 0 0 dS a (fun _ a=>lL a [.v 3 (iV 1)] (ac a [(0,0,9)] (.tuple #[.agg #[iV 0,iV 0,qF,uV 0,eS,uV 0,eS,eS,sZ],iV 1]) (⟨au,_,rfl,.inr ⟨qe b oM,rfl⟩,(fun c=>MO c kD),(fun _=>rfl)⟩))))))
structure K7R (d:Nat) (h:Hp) (p:RTm) (t:Tm):Prop where
  get:p.op=7→p.m=1∧∃ pk,SlO 7 bU aN h p.A [pk]∧RmH d h pk (t.ks.getD 0 bv)
theorem K7R.gw {d:Nat}{h h':Hp}{p:RTm}{t:Tm}(x:K7R d h p t)(u:Gw h h'):K7R d h' p t:=⟨fun e=>by
 obtain ⟨h1,c,b,a⟩:=x.get e;exact ⟨h1,c,b.gw u,a.gw u⟩⟩
theorem FS {ok:ByteArray→Prop}{d:Nat}{h:Hp}{p:RTm}{t:Tm}(B:p.op=t.op)(c:WfT ok d t)(x:RmH d h p t):K7R d h p t:=⟨fun e=>by
  cases d with
  | zero=>exact x.elim
  | succ d =>
    obtain ⟨y,o,z,D,b,F,f,i,j,k⟩:=x
    have a:t.ks.length=1:=by
      have u:d8 t.op=(t.ks.length:Nat):=c.1;have C:=aE t.op
      omega
    obtain ⟨l,rfl⟩:=Mt.1 (i.trans a);exact ⟨b.trans a,l,j,RmH.mono (k 0 oM) (MK d)⟩⟩
theorem nS {d:Nat}{h:Hp}{p:RTm}{t:Tm}(x:RmH d h p t):p.op=t.op:=by
 cases d with
 | zero=>exact x.elim
 | succ d=>exact x.1
theorem vY {d:Nat}{h:Hp}{p:RTm}{t:Tm}(x:RmH d h p t):RZ h p.t t.q:=by
 cases d with
 | zero=>exact x.elim
 | succ d=>exact x.2.2.1
theorem Il {op n:Int}{q:Rat}{s:ByteArray}{a b:Tm}(h:op=4)(y:dZ b false)(x:dZ a true):a6 (.mk op n q s [a,b])=a6 (.mk 7 0 0 ⟨#[]⟩ [b]):=by
 rw[Hz h,MM (BL y),MN (xZ x)];rfl
theorem Cb {d b:Bool}{k m:Nat}{f:Nat→Prop}(a:d=true↔(0<m∧∀ i,i<k→f i))(j:b=true→(d=true∧f k))(hF:b=false→¬(d=true∧f k)):b=true↔(0<m∧∀ i,i<k+1→f i):=by
 constructor
 ·intro h
  obtain ⟨h1,c⟩:=j h;refine ⟨(a.1 h1).1,fun i hi=>?_⟩
  rcases Nat.lt_succ_iff_lt_or_eq.1 hi with h3|rfl
  ·exact (a.1 h1).2 i h3
  ·exact c
 ·rintro ⟨h1,c⟩
  cases e:b with
  | true=>rfl
  | false=>exact MO ⟨a.2 ⟨h1,fun i hi=>c i (Nat.lt_succ_of_lt hi)⟩,c k (Nat.lt_succ_self k)⟩ (hF e)
theorem n4 (r:RTm)(t:Tm)(z:Int)(h0 : -1000≤z)(h1:z≤1000)(i:r.op=t.op)(j:LQ 3000 t.q)(w:World)(h:Hp)(g:G w h)(W:RZ h r.t t.q):CV 96 #[bE r,iV z] w h (.bool (decide (isN t ((z:Int):Rat)))):=by
 have a:=((sS g).add (K:=fun H=>RZ H r.t t.q) W);refine go Tryz.func96 [(0,bE r),(1,iV z)] rfl (av (lA 2 31 (bU r) a (fun k w2 X a=>lL a [.v 4 qF] (aI (lL a [.v 5 (pB k),.o 6 (iV r.op) 0 0 1] ?_)))));cases b:((r.op:Int) == (1:Int))
 ·
  have c:=ae b;refine lB 7 b (lL a [.m 8 7] (lG 9 ?_));exact lG 10 (lG 11 (lG 12 (lG 13 (lG 14 (lG 15 (lL a [.v 16 qF,.m 4 16] (ac a [] qF (congrArg Mg (decide_eq_false (fun x=>by have F:=i.trans x.1;have y:=gk.2 x.2;omega)).symm))))))))
 have c:=ML b;refine lB 7 b (lL a [.m 8 7,.v 9 (qP k 2),.o 10 (.agg #[.bool r.neg,qS r.zA r.zn r.zc,qS r.dA r.dn r.dc]) 0 2 3] (lC 11 a (lb r.neg r.zA r.zn r.zc r.dA r.dn r.dc t.q _ _ a.g a.f.1) ?_));rintro _ _ _ a ⟨O,l,Q,B,rfl,d,V,e,I⟩;replace a:=a.aP e I;refine lL a [.m 12 1] ?_;have zb:LQ (1) (((z:Int):Rat)):=LQ.int oM oM;refine lC 13 a (mr z oM oM _ _ a.g) ?_;rintro _ _ _ a ⟨C,p,u,U,rfl,J,S,M,D⟩;replace a:=a.aP M D;refine ag 14 a (Cc t.q O l Q B d V (nl j) (nD j) ((z:Int):Rat) C p u U J S (nl zb) (nD zb) _ _ a.g a.f.r.2.1 a.f.r.1 a.f.2.1 a.f.1) (fun _ _ a=>?_);cases za:((cX t.q ((z:Int):Rat):Int) == (0:Int))
 ·
  have L:=ae za;exact lB 15 za (lL a [.v 16 qF,.m 4 16] (ac a [] qF (congrArg Mg (decide_eq_false (fun x=>by have F:=i.trans x.1;have y:=gk.2 x.2;omega)).symm)))
 have L:=ML za;exact lB 15 za (lL a [.v 16 qT,.m 4 16] (ac a [] qT (congrArg Mg (decide_eq_true (show isN t ((z:Int):Rat) from ⟨i.symm.trans oM,gk.1 oM⟩)).symm)))
theorem BO (d:Nat)(op n:Int)(l:Bool)(p:Option Addr)(j e:Nat)(b:Option Addr)(k i:Nat)(q:Rat)(s:ByteArray)(A:Option Addr)(c:Nat)(u:op=1∨op=2)(w:World)(h:Hp)(g:G w h)(z:RmH (d+1) h (⟨op,n,l,p,j,e,b,k,i,s,A,0,c⟩:RTm) (.mk op n q s ([]:List Tm):Tm)):CR 59 #[.agg #[iV op,iV n,.bool l,.slice p j e,.slice b k i,.string s,.slice A 0 c]] w h (fun v h1=>∃ r,v=bE r∧RmH (d+1) h1 r (a6 (.mk op n q s ([]:List Tm):Tm))):=by
 have a:=((sS g).add (K:=fun x=>RmH (d+1) x (⟨op,n,l,p,j,e,b,k,i,s,A,0,c⟩:RTm) (.mk op n q s ([]:List Tm):Tm)) z);exact go Tryz.func59 [(0,.agg #[iV op,iV n,.bool l,qS p j e,qS b k i,.string s,qS A 0 c])] rfl (av (lA 1 31 ([iV op,iV n,.bool l,qS p j e,qS b k i,.string s,qS A 0 c]) a (fun y w2 D a=>lA 2 31 ea a (fun H F B a=>ah (aa a [.v 5 (qP y 6),.o 6 (qS A 0 c) 1 6 1,.v 7 (iV 0),.v 8 qT] (ak (aa a [.o 9 (.agg #[iV op,iV n,.bool l,qS p j e,qS b k i,.string s,qS A 0 c]) 1 0 7] (lP 0 0 ([iV op,iV n,.bool l,qS p j e,qS b k i,.string s,qS A 0 c]) a (fun C a=>ac a [(0,0,7)] (.agg #[iV op,iV n,.bool l,qS p j e,qS b k i,.string s,qS A 0 c]) (⟨_,rfl,by rw[Jf u];exact a.f.1⟩))))))))))
theorem vI (d:Nat)(op n:Int)(y:Bool)(z:Option Addr)(u l:Nat)(k:Option Addr)(x p:Nat)(q:Rat)(s:ByteArray)(A:Option Addr)(c:Nat)(b:RTm)(i:Tm)(B:b.op=i.op)(hw1:WfT (fun s=>bI s=true) d i)(hop:op=7∨op=8∨op=9∨op=10∨op=11)(w:World)(h:Hp)(g:G w h)(hK:SlO 7 bU aN h A ([b]:List RTm))(hT:RmH (d+1) h (⟨op,n,y,z,u,l,k,x,p,s,A,1,c⟩:RTm) (.mk op n q s ([i]:List Tm):Tm))(Q:RmH d h b i)(hz1:RZ h b.t i.q)(X:K7R d h b i):CR 59 #[.agg #[iV op,iV n,.bool y,.slice z u l,.slice k x p,.string s,.slice A 1 c]] w h (fun v h1=>∃ r,v=bE r∧RmH (d+1) h1 r (a6 (.mk op n q s ([i]:List Tm):Tm))):=by
 have a:=((((((sS g).aS hK).add (K:=fun e=>RmH (d+1) e (⟨op,n,y,z,u,l,k,x,p,s,A,1,c⟩:RTm) (.mk op n q s ([i]:List Tm):Tm)) hT).add (K:=fun e=>RmH d e b i) Q).add (K:=fun e=>RZ e b.t i.q) hz1).add (K:=fun e=>K7R d e b i) X);have hln:([b]:List RTm).length=1:=rfl;have bl:(([b]:List RTm).getD 0 aN).op=b.op:=rfl;refine go Tryz.func59 [(0,.agg #[iV op,iV n,.bool y,qS z u l,qS k x p,.string s,qS A 1 c])] rfl (av (lA 1 31 ([iV op,iV n,.bool y,qS z u l,qS k x p,.string s,qS A 1 c]) a (fun j w2 h3 a=>lA 2 31 ea a (fun F w5 h6 a=>ah (aa a [.v 5 (qP j 6),.o 6 (qS A 1 c) 1 6 1,.v 7 (iV 1),.v 8 qF] (af (cK (aa a [.v 10 (qP j 6),.o 11 (qS A 1 c) 1 6 1] (lX 12 A 1 c 7 0 0 ((a.f.q.1).ok oM) ?_)))))))));refine lH 13 (bE (([b]:List RTm).getD 0 aN)) a ((a.f.q.1).el 0 oM) (lA 3 31 ea a (fun C w8 h9 a=>lP 0 0 (bU (([b]:List RTm).getD 0 aN)) a (fun _ a=>?_)));refine ah (aa a [.v 14 (qP j 6),.o 15 (qS A 1 c) 2 6 1,.v 16 (iV 1),.v 17 qT] (ak (CG.join (fun Γ w_=>∃  (e:Hp),Γ=[(1,pB j),(2,pB F),(3,pB C)]∧SS w h w_ e [⟨C,31,bU (([b]:List RTm).getD 0 aN)⟩,⟨F,31,[iV 0,iV 0,qF,sZ,sZ,eS,sZ]⟩,⟨j,31,[iV op,iV n,.bool y,qS z u l,qS k x p,.string s,qS A 1 c]⟩] [] [fun e=>K7R d e b i,fun e=>RZ e b.t i.q,fun e=>RmH d e b i,fun e=>RmH (d+1) e (⟨op,n,y,z,u,l,k,x,p,s,A,1,c⟩:RTm) (.mk op n q s ([i]:List Tm):Tm),fun e=>SlO 7 bU aN e A ([b]:List RTm)]∧a6 (.mk op n q s ([i]:List Tm):Tm)=(.mk op n q s ([i]:List Tm):Tm)) ?_ ?_)))
 ·
  refine kZ (aa a [.v 19 (pB j),.o 20 (iV op) 2 0 1] ?_);cases za:((op:Int) == (7:Int))
  ·
   have zl:=ae za;refine lB 21 za (lL a [.m 22 21] (lG 23 ?_));refine lG 24 (lG 25 (lL a [.v 26 qF,.m 18 26] (af (aa a [.v 32 (pB j),.o 33 (iV op) 2 0 1] ?_))));cases zb:((op:Int) == (8:Int))
   ·
    have zm:=ae zb;refine lB 34 zb (lL a [.m 35 34] (lG 36 ?_));refine lG 37 (lG 38 (lL a [.v 39 qF,.m 31 39] (af (aa a [.v 42 (pB j),.o 43 (iV op) 2 0 1] ?_))));have zg:((op:Int) == (8:Int))=false:=bJ oM;have Z:=ae zg;refine lB 44 zg (lL a [.m 45 44] (lG 46 ?_));refine lG 47 (lG 48 (lL a [.v 49 qF,.m 41 49] (lN (bH [(1,pB j),(2,pB F),(3,pB C),(41,qF)] ?_))));refine cv (CG.skip ?_);intro a_ H;exact ⟨_,⟨h9,rfl,a.to _ _,(by first|exact Bb oM (fun e=>MO (B.trans e) oM)|exact CX oM oM oM|exact H0 oM)⟩,H.to _ kR⟩
   have zm:=ML zb;refine lB 34 zb (lL a [.m 35 34,.v 36 (qP j 1),.o 37 (iV n) 2 1 1] ?_);cases L:((n:Int) == (0:Int))
   ·
    have zo:=ae L;refine lB 38 L (lL a [.v 39 qF,.m 31 39] (af (aa a [.v 42 (pB j),.o 43 (iV op) 2 0 1] ?_)));have zi:((op:Int) == (8:Int))=true:=fg oM;have bd:=ML zi;refine lB 44 zi (lL a [.m 45 44,.v 46 (qP j 1),.o 47 (iV n) 2 1 1] ?_);cases O:((n:Int) == (1:Int))
    ·
     have zp:=ae O;refine lB 48 O (lL a [.v 49 qF,.m 41 49] (lN (bH [(1,pB j),(2,pB F),(3,pB C),(41,qF)] ?_)));refine cv (CG.skip ?_);intro a_ H;exact ⟨_,⟨h9,rfl,a.to _ _,(by first|exact Bb oM (fun e=>MO (B.trans e) oM)|exact CX oM oM oM|exact H0 oM)⟩,H.to _ kR⟩
    have zp:=ML O;refine lB 48 O (lL a [.v 49 qT,.m 41 49] (lN (bH [(1,pB j),(2,pB F),(3,pB C),(41,qT)] ?_)));exact ce (aa a [.o 50 (bE (([b]:List RTm).getD 0 aN)) 0 0 7] (lP 1 0 (bU (([b]:List RTm).getD 0 aN)) a (fun _ a=>ac a [(1,0,7)] (bE (([b]:List RTm).getD 0 aN)) (⟨_,rfl,by rw[show a6 (.mk op n q s ([i]:List Tm):Tm)=_ from G4 oM oM];exact (a.f.r.1).mono (MK d)⟩))))
   have zo:=ML L;refine lB 38 L (lL a [.v 39 qT,.m 31 39] (ak (av (lC 40 a (kH (1) kD kD _ _ a.g) ?_))));rintro _ _ _ a ⟨D,rfl,W⟩;replace a:=(a.add (K:=fun e=>RmH 1 e D (.mk 1 0 (((1):Int):Rat) ⟨#[]⟩ [])) W);exact lP 1 0 (bU D) a (fun _ a=>ac a [(1,0,7)] (bE D) (⟨_,rfl,by rw[show a6 (.mk op n q s ([i]:List Tm):Tm)=eU ((1:Int):Rat) from G2 oM oM];exact (a.f.1).mono oM⟩))
  have zl:=ML za;refine lB 21 za (lL a [.m 22 21,.v 23 (pB C),.o 24 (iV ((([b]:List RTm).getD 0 aN).op)) 0 0 1] ?_);cases J:(((([b]:List RTm).getD 0 aN).op:Int) == (7:Int))
  ·
   have zq:=ae J;refine lB 25 J (lL a [.v 26 qF,.m 18 26] (af (aa a [.v 32 (pB j),.o 33 (iV op) 2 0 1] ?_)));have zj:((op:Int) == (8:Int))=false:=bJ oM;have S:=ae zj;refine lB 34 zj (lL a [.m 35 34] (lG 36 ?_));refine lG 37 (lG 38 (lL a [.v 39 qF,.m 31 39] (af (aa a [.v 42 (pB j),.o 43 (iV op) 2 0 1] ?_))));have zk:((op:Int) == (8:Int))=false:=bJ oM;have bb:=ae zk;refine lB 44 zk (lL a [.m 45 44] (lG 46 ?_));refine lG 47 (lG 48 (lL a [.v 49 qF,.m 41 49] (lN (bH [(1,pB j),(2,pB F),(3,pB C),(41,qF)] ?_))));refine cv (CG.skip ?_);intro a_ H;exact ⟨_,⟨h9,rfl,a.to _ _,(by first|exact Bb oM (fun e=>MO (B.trans e) oM)|exact CX oM oM oM|exact H0 oM)⟩,H.to _ kR⟩
  have zq:=ML J;refine lB 25 J (lL a [.v 26 qT,.m 18 26] (ak ?_));obtain ⟨Y,M,I,U⟩:=(a.f.1).get oM;have hlk:([M]:List RTm).length=1:=rfl;have bk:(([b]:List RTm).getD 0 aN).m=1:=Y;refine aa a [.v 27 (qP C 6),.o 28 (qS ((([b]:List RTm).getD 0 aN).A) ((([b]:List RTm).getD 0 aN).m) ((([b]:List RTm).getD 0 aN).c)) 0 6 1] (lX 29 ((([b]:List RTm).getD 0 aN).A) ((([b]:List RTm).getD 0 aN).m) ((([b]:List RTm).getD 0 aN).c) 7 0 0 (I.ok oM) ?_);exact lH 30 (bE (([M]).getD 0 aN)) a (I.el 0 oM) (lP 1 0 (bU (([M]).getD 0 aN)) a (fun _ a=>ac a [(1,0,7)] (bE (([M]).getD 0 aN)) (⟨_,rfl,by rw[show a6 (.mk op n q s ([i]:List Tm):Tm)=_ from Jg oM (B.symm.trans oM)];exact U.mono (MK d)⟩)))
 rintro _ _ ⟨_,rfl,a,V⟩;exact aa a [.o 51 (.agg #[iV op,iV n,.bool y,qS z u l,qS k x p,.string s,qS A 1 c]) 2 0 7] (lP 1 0 ([iV op,iV n,.bool y,qS z u l,qS k x p,.string s,qS A 1 c]) a (fun _ a=>ac a [(1,0,7)] (.agg #[iV op,iV n,.bool y,qS z u l,qS k x p,.string s,qS A 1 c]) (⟨_,rfl,by rw[V];exact a.f.r.2.1⟩)))
theorem rH (d:Nat)(op n:Int)(x:Bool)(y:Option Addr)(p l:Nat)(k:Option Addr)(u o:Nat)(q:Rat)(s:ByteArray)(A:Option Addr)(c:Nat)(e:RTm)(b:Tm)(j:e.op=b.op)(f:WfT (fun s=>bI s=true) d b)(z:op=7∨op=8∨op=9∨op=10∨op=11)(C:1≤c)(w:World)(h:Hp)(g:G w h)(F:RZ h (x,.slice y p l,.slice k u o) q)(B:SlO 7 bU aN h A [e])(a:RmH d h e b):Calls Tryz.prog 59 #[bE (⟨op,n,x,y,p,l,k,u,o,s,A,1,c⟩:RTm)] w (Ret w h (fun v h1=>∃ r,v=bE r∧RmH (d+1) h1 r (a6 (.mk op n q s ([b]:List Tm):Tm)))):=by
 have D:RmH (d+1) h (⟨op,n,x,y,p,l,k,u,o,s,A,1,c⟩:RTm) (.mk op n q s ([b]:List Tm):Tm):=RmH.mk (ps:=[e]) F ⟨rfl,fun i hi=>by
  have:i=0:=by have:i<1:=hi;omega
  subst this;exact a⟩ C B
 exact vI d op n x y p l k u o q s A c e b j f z w h g B D a (vY a) (FS j f a)
theorem Ct (d:Nat)(op n:Int)(D:Bool)(F:Option Addr)(B H:Nat)(C:Option Addr)(J I:Nat)(q:Rat)(s:ByteArray)(A:Option Addr)(c:Nat)(e:RTm)(j:Tm)(M:e.op=j.op)(O:WfT (fun s=>bI s=true) d j)(b:RTm)(k:Tm)(z:b.op=k.op)(x:WfT (fun s=>bI s=true) d k)(hop:op=3∨op=4∨op=5∨op=6∨op=12∨op=13)(w:World)(h:Hp)(g:G w h)(hK:SlO 7 bU aN h A ([e,b]:List RTm))(hT:RmH (d+1) h (⟨op,n,D,F,B,H,C,J,I,s,A,2,c⟩:RTm) (.mk op n q s ([j,k]:List Tm):Tm))(hr1:RmH d h e j)(hz1:RZ h e.t j.q)(hr2:RmH d h b k)(hz2:RZ h b.t k.q):CR 59 #[.agg #[iV op,iV n,.bool D,.slice F B H,.slice C J I,.string s,.slice A 2 c]] w h (fun v h1=>∃ r,v=bE r∧RmH (d+1) h1 r (a6 (.mk op n q s ([j,k]:List Tm):Tm))):=by
 have a:=(((((((sS g).aS hK).add (K:=fun l=>RmH (d+1) l (⟨op,n,D,F,B,H,C,J,I,s,A,2,c⟩:RTm) (.mk op n q s ([j,k]:List Tm):Tm)) hT).add (K:=fun l=>RmH d l e j) hr1).add (K:=fun l=>RZ l e.t j.q) hz1).add (K:=fun l=>RmH d l b k) hr2).add (K:=fun l=>RZ l b.t k.q) hz2);have hln:([e,b]:List RTm).length=2:=rfl;refine go Tryz.func59 [(0,.agg #[iV op,iV n,.bool D,qS F B H,qS C J I,.string s,qS A 2 c])] rfl (av (lA 1 31 ([iV op,iV n,.bool D,qS F B H,qS C J I,.string s,qS A 2 c]) a (fun i w2 h3 a=>lA 2 31 ea a (fun u w5 h6 a=>ah (aa a [.v 5 (qP i 6),.o 6 (qS A 2 c) 1 6 1,.v 7 (iV 2),.v 8 qF] (af (cK (aa a [.v 10 (qP i 6),.o 11 (qS A 2 c) 1 6 1] (lX 12 A 2 c 7 0 0 ((a.f.q.2.1).ok oM) ?_)))))))));refine lH 13 (bE (([e,b]:List RTm).getD 0 aN)) a ((a.f.q.2.1).el 0 oM) (lA 3 31 ea a (fun y w8 h9 a=>lP 0 0 (bU (([e,b]:List RTm).getD 0 aN)) a (fun _ a=>ah (aa a [.v 14 (qP i 6),.o 15 (qS A 2 c) 2 6 1,.v 16 (iV 2),.v 17 qF] (af (cK (aa a [.v 52 (qP i 6),.o 53 (qS A 2 c) 2 6 1] (lX 54 A 2 c 7 1 1 ((a.f.q.2.1).ok oM) ?_))))))));refine lH 55 (bE (([e,b]:List RTm).getD 1 aN)) a ((a.f.q.2.1).el 1 oM) (lA 4 31 ea a (fun za _ zI a=>lP 0 0 (bU (([e,b]:List RTm).getD 1 aN)) a (fun _ a=>?_)));refine lN (CG.join (fun Γ w_=>∃  (l:Hp),Γ=[(1,pB i),(2,pB u)]∧SS w h w_ l [⟨za,31,bU (([e,b]:List RTm).getD 1 aN)⟩,⟨y,31,bU (([e,b]:List RTm).getD 0 aN)⟩,⟨u,31,[iV 0,iV 0,qF,sZ,sZ,eS,sZ]⟩,⟨i,31,[iV op,iV n,.bool D,qS F B H,qS C J I,.string s,qS A 2 c]⟩] [] [fun l=>RZ l b.t k.q,fun l=>RmH d l b k,fun l=>RZ l e.t j.q,fun l=>RmH d l e j,fun l=>RmH (d+1) l (⟨op,n,D,F,B,H,C,J,I,s,A,2,c⟩:RTm) (.mk op n q s ([j,k]:List Tm):Tm),fun l=>SlO 7 bU aN l A ([e,b]:List RTm)]∧a6 (.mk op n q s ([j,k]:List Tm):Tm)=(.mk op n q s ([j,k]:List Tm):Tm)) ?_ ?_)
 ·
  refine kZ (aa a [.v 57 (pB i),.o 58 (iV op) 3 0 1] ?_);cases zb:((op:Int) == (3:Int))
  ·
   have zD:=ae zb;refine lB 59 zb (lL a [.m 60 59] (lG 61 ?_));refine lG 62 (lL a [.v 63 qF,.m 56 63] (af (aa a [.v 66 (pB i),.o 67 (iV op) 3 0 1] ?_)));have zg:((op:Int) == (3:Int))=false:=bJ oM;have br:=ae zg;refine lB 68 zg (lL a [.m 69 68,.v 70 (pB i),.o 71 (iV op) 3 0 1] ?_);cases V:((op:Int) == (4:Int))
   ·
    have zE:=ae V;refine lB 72 V (lL a [.v 73 qF,.m 74 73] (lG 75 ?_));refine lG 76 (lL a [.v 77 qF,.m 65 77] (lN (bH [(1,pB i),(2,pB u),(3,pB y),(4,pB za),(65,qF)] ?_)));refine cv (aa a [.v 80 (pB i),.o 81 (iV op) 3 0 1] ?_);have zi:((op:Int) == (4:Int))=false:=bJ oM;have bm:=ae zi;refine lB 82 zi (lL a [.m 83 82] (lG 84 ?_));refine lG 85 (lL a [.v 86 qF,.m 79 86] (af (aa a [.v 91 (pB i),.o 92 (iV op) 3 0 1] ?_)));cases W:((op:Int) == (5:Int))
    ·
     have zG:=ae W;refine lB 93 W (lL a [.m 94 93] (lG 95 ?_));refine lG 96 (lG 97 (lG 98 (lG 99 (lG 100 (lL a [.v 101 qF,.m 90 101] (af (aa a [.v 104 (pB i),.o 105 (iV op) 3 0 1] ?_)))))));have zj:((op:Int) == (5:Int))=false:=bJ oM;have bl:=ae zj;refine lB 106 zj (lL a [.m 107 106] (lG 108 ?_));refine lG 109 (lL a [.v 110 qF,.m 103 110] (af (aa a [.v 113 (pB i),.o 114 (iV op) 3 0 1] ?_)));have zk:((op:Int) == (5:Int))=false:=bJ oM;have bb:=ae zk;refine lB 115 zk (lL a [.m 116 115,.v 117 (pB i),.o 118 (iV op) 3 0 1] ?_);cases U:((op:Int) == (6:Int))
     ·
      have zH:=ae U;refine lB 119 U (lL a [.v 120 qF,.m 121 120] (lG 122 ?_));refine lG 123 (lL a [.v 124 qF,.m 112 124] (lN (bH [(1,pB i),(2,pB u),(3,pB y),(112,qF)] ?_)));refine cv (CG.skip ?_);intro S L;exact ⟨_,⟨zI,rfl,a.to _ _,(by first|exact sU oM aM aM|exact tB oM aM aM|exact tZ oM aM aM aM aM|exact tS oM aM|exact tQ oM)⟩,L.to _ kR⟩
     have zH:=ML U;refine lB 119 U (lL a [.v 120 qT,.m 121 120,.o 122 (bE (([e,b]:List RTm).getD 1 aN)) 0 0 7] (ag 123 a (n4 b k 1 kD kD z (fW x) _ _ a.g a.f.1) (fun _ zJ a=>?_)));cases cy:((decide (isN k ((1:Int):Rat))))
     ·
      refine lL a [.v 124 qF,.m 112 124] (lN (bH [(1,pB i),(2,pB u),(3,pB y),(112,qF)] ?_));refine cv (CG.skip ?_);intro S L;exact ⟨_,⟨zJ,rfl,a.to _ _,(by first|exact sU oM aM aM|exact tB oM aM aM|exact tZ oM aM aM aM aM|exact tS oM aM|exact tQ oM)⟩,L.to _ kR⟩
     refine lL a [.v 124 qT,.m 112 124] (lN (bH [(1,pB i),(2,pB u),(3,pB y),(112,qT)] ?_));exact ce (aa a [.o 125 (bE (([e,b]:List RTm).getD 0 aN)) 1 0 7] (lP 2 0 (bU (([e,b]:List RTm).getD 0 aN)) a (fun _ a=>ac a [(2,0,7)] (bE (([e,b]:List RTm).getD 0 aN)) (⟨_,rfl,by rw[show a6 (.mk op n q s ([j,k]:List Tm):Tm)=j from by first|exact Ez oM aM aM aM aM|exact H8 oM aM];exact (a.f.r.2.1).mono (MK d)⟩))))
    have zG:=ML W;refine lB 93 W (lL a [.m 94 93,.o 95 (bE (([e,b]:List RTm).getD 0 aN)) 1 0 7] (ag 96 a (n4 e j 0 kD kD M (fW O) _ _ a.g a.f.r.1) (fun _ _ a=>?_)));cases cm:((decide (isN j ((0:Int):Rat))))
    ·
     refine lL a [.m 97 96,.o 98 (bE (([e,b]:List RTm).getD 1 aN)) 0 0 7] (ag 99 a (n4 b k 0 kD kD z (fW x) _ _ a.g a.f.1) (fun _ _ a=>?_));cases ch:((decide (isN k ((0:Int):Rat))))
     ·
      refine lL a [.v 100 qF,.v 101 qF,.m 90 101] (af (aa a [.v 104 (pB i),.o 105 (iV op) 3 0 1] ?_));have zl:((op:Int) == (5:Int))=true:=fg oM;have bw:=ML zl;refine lB 106 zl (lL a [.m 107 106,.o 108 (bE (([e,b]:List RTm).getD 0 aN)) 1 0 7] (ag 109 a (n4 e j 1 kD kD M (fW O) _ _ a.g a.f.r.1) (fun _ _ a=>?_)));cases b9:((decide (isN j ((1:Int):Rat))))
      ·
       refine lL a [.v 110 qF,.m 103 110] (af (aa a [.v 113 (pB i),.o 114 (iV op) 3 0 1] ?_));have zm:((op:Int) == (5:Int))=true:=fg oM;have X:=ML zm;refine lB 115 zm (lL a [.m 116 115] (lG 117 ?_));refine lG 118 (lG 119 (lL a [.v 120 qT,.m 121 120,.o 122 (bE (([e,b]:List RTm).getD 1 aN)) 0 0 7] (ag 123 a (n4 b k 1 kD kD z (fW x) _ _ a.g a.f.1) (fun _ zK a=>?_))));cases cx:((decide (isN k ((1:Int):Rat))))
       ·
        refine lL a [.v 124 qF,.m 112 124] (lN (bH [(1,pB i),(2,pB u),(3,pB y),(112,qF)] ?_));refine cv (CG.skip ?_);intro S L;exact ⟨_,⟨zK,rfl,a.to _ _,(by first|exact sU oM aM aM|exact tB oM aM aM|exact tZ oM aM aM aM aM|exact tS oM aM|exact tQ oM)⟩,L.to _ kR⟩
       refine lL a [.v 124 qT,.m 112 124] (lN (bH [(1,pB i),(2,pB u),(3,pB y),(112,qT)] ?_));exact ce (aa a [.o 125 (bE (([e,b]:List RTm).getD 0 aN)) 1 0 7] (lP 2 0 (bU (([e,b]:List RTm).getD 0 aN)) a (fun _ a=>ac a [(2,0,7)] (bE (([e,b]:List RTm).getD 0 aN)) (⟨_,rfl,by rw[show a6 (.mk op n q s ([j,k]:List Tm):Tm)=j from by first|exact Ez oM aM aM aM aM|exact H8 oM aM];exact (a.f.r.2.1).mono (MK d)⟩))))
      exact lL a [.v 110 qT,.m 103 110] (ak (aa a [.o 111 (bE (([e,b]:List RTm).getD 1 aN)) 0 0 7] (lP 2 0 (bU (([e,b]:List RTm).getD 1 aN)) a (fun _ a=>ac a [(2,0,7)] (bE (([e,b]:List RTm).getD 1 aN)) (⟨_,rfl,by rw[show a6 (.mk op n q s ([j,k]:List Tm):Tm)=_ from Hl oM aM aM aM];exact (a.f.2.1).mono (MK d)⟩)))))
     refine lL a [.v 100 qT,.v 101 qT,.m 90 101] (ak (av (lC 102 a (kH (0) kD kD _ _ a.g) ?_)));rintro _ _ _ a ⟨p,rfl,Q⟩;replace a:=(a.add (K:=fun l=>RmH 1 l p (.mk 1 0 (((0):Int):Rat) ⟨#[]⟩ [])) Q);exact lP 2 0 (bU p) a (fun _ a=>ac a [(2,0,7)] (bE p) (⟨_,rfl,by rw[show a6 (.mk op n q s ([j,k]:List Tm):Tm)=eU ((0:Int):Rat) from by first|exact oN oM (.inl aM)|exact oN oM (.inr aM)];exact (a.f.1).mono oM⟩))
    refine lL a [.m 97 96] (lG 98 ?_);refine lG 99 (lL a [.v 100 qT,.v 101 qT,.m 90 101] (ak (av (lC 102 a (kH (0) kD kD _ _ a.g) ?_))));rintro _ _ _ a ⟨p,rfl,Q⟩;replace a:=(a.add (K:=fun l=>RmH 1 l p (.mk 1 0 (((0):Int):Rat) ⟨#[]⟩ [])) Q);exact lP 2 0 (bU p) a (fun _ a=>ac a [(2,0,7)] (bE p) (⟨_,rfl,by rw[show a6 (.mk op n q s ([j,k]:List Tm):Tm)=eU ((0:Int):Rat) from by first|exact oN oM (.inl aM)|exact oN oM (.inr aM)];exact (a.f.1).mono oM⟩))
   have zE:=ML V;refine lB 72 V (lL a [.v 73 qT,.m 74 73,.o 75 (bE (([e,b]:List RTm).getD 1 aN)) 0 0 7] (ag 76 a (n4 b k 0 kD kD z (fW x) _ _ a.g a.f.1) (fun _ _ a=>?_)));cases cc:((decide (isN k ((0:Int):Rat))))
   ·
    refine lL a [.v 77 qF,.m 65 77] (lN (bH [(1,pB i),(2,pB u),(3,pB y),(4,pB za),(65,qF)] ?_));refine cv (aa a [.v 80 (pB i),.o 81 (iV op) 3 0 1] ?_);have zo:((op:Int) == (4:Int))=true:=fg oM;have b3:=ML zo;refine lB 82 zo (lL a [.m 83 82,.o 84 (bE (([e,b]:List RTm).getD 0 aN)) 1 0 7] (ag 85 a (n4 e j 0 kD kD M (fW O) _ _ a.g a.f.r.1) (fun _ zL a=>?_)));cases cq:((decide (isN j ((0:Int):Rat))))
    ·
     refine lL a [.v 86 qF,.m 79 86] (af (aa a [.v 91 (pB i),.o 92 (iV op) 3 0 1] ?_));have zp:((op:Int) == (5:Int))=false:=bJ oM;have bd:=ae zp;refine lB 93 zp (lL a [.m 94 93] (lG 95 ?_));refine lG 96 (lG 97 (lG 98 (lG 99 (lG 100 (lL a [.v 101 qF,.m 90 101] (af (aa a [.v 104 (pB i),.o 105 (iV op) 3 0 1] ?_)))))));have zq:((op:Int) == (5:Int))=false:=bJ oM;have bk:=ae zq;refine lB 106 zq (lL a [.m 107 106] (lG 108 ?_));refine lG 109 (lL a [.v 110 qF,.m 103 110] (af (aa a [.v 113 (pB i),.o 114 (iV op) 3 0 1] ?_)));have zr:((op:Int) == (5:Int))=false:=bJ oM;have bn:=ae zr;refine lB 115 zr (lL a [.m 116 115,.v 117 (pB i),.o 118 (iV op) 3 0 1] ?_);have zs:((op:Int) == (6:Int))=false:=bJ oM;have b2:=ae zs;refine lB 119 zs (lL a [.v 120 qF,.m 121 120] (lG 122 ?_));refine lG 123 (lL a [.v 124 qF,.m 112 124] (lN (bH [(1,pB i),(2,pB u),(3,pB y),(112,qF)] ?_)));refine cv (CG.skip ?_);intro S L;exact ⟨_,⟨zL,rfl,a.to _ _,(by first|exact sU oM aM aM|exact tB oM aM aM|exact tZ oM aM aM aM aM|exact tS oM aM|exact tQ oM)⟩,L.to _ kR⟩
    refine lL a [.v 86 qT,.m 79 86] (ak (aa a [.o 87 (bE (([e,b]:List RTm).getD 1 aN)) 0 0 7] (lC 88 a (DK 7 b _ _ a.g) ?_)));rintro _ _ _ a ⟨bo,rfl,hbo⟩;replace a:=a.aS hbo;refine lC 89 a (rH d 7 0 false none 0 0 none 0 0 0 ⟨#[]⟩ (sB bo) 1 b k z x (.inl rfl) (nR _) _ _ a.g nq a.f.1 a.f.r.1) ?_;rintro _ _ _ a ⟨pr,rfl,hpr⟩;replace a:=(a.add (K:=fun l=>RmH (d+1) l pr (a6 (.mk 7 0 0 ⟨#[]⟩ [k]))) hpr);exact lP 2 0 (bU pr) a (fun _ a=>ac a [(2,0,7)] (bE pr) (⟨_,rfl,by rw[show a6 (.mk op n q s ([j,k]:List Tm):Tm)=_ from (Il oM aM aM)];exact a.f.1⟩))
   refine lL a [.v 77 qT,.m 65 77] (lN (bH [(1,pB i),(2,pB u),(3,pB y),(4,pB za),(65,qT)] ?_));exact ce (aa a [.o 78 (bE (([e,b]:List RTm).getD 0 aN)) 1 0 7] (lP 2 0 (bU (([e,b]:List RTm).getD 0 aN)) a (fun _ a=>ac a [(2,0,7)] (bE (([e,b]:List RTm).getD 0 aN)) (⟨_,rfl,by rw[show a6 (.mk op n q s ([j,k]:List Tm):Tm)=j from by first|exact DT oM aM aM|exact EQ oM aM];exact (a.f.r.2.1).mono (MK d)⟩))))
  have zD:=ML zb;refine lB 59 zb (lL a [.m 60 59,.o 61 (bE (([e,b]:List RTm).getD 0 aN)) 1 0 7] (ag 62 a (n4 e j 0 kD kD M (fW O) _ _ a.g a.f.r.1) (fun _ _ a=>?_)));cases cz:((decide (isN j ((0:Int):Rat))))
  ·
   refine lL a [.v 63 qF,.m 56 63] (af (aa a [.v 66 (pB i),.o 67 (iV op) 3 0 1] ?_));have zt:((op:Int) == (3:Int))=true:=fg oM;have b6:=ML zt;refine lB 68 zt (lL a [.m 69 68] (lG 70 ?_));refine lG 71 (lG 72 (lL a [.v 73 qT,.m 74 73,.o 75 (bE (([e,b]:List RTm).getD 1 aN)) 0 0 7] (ag 76 a (n4 b k 0 kD kD z (fW x) _ _ a.g a.f.1) (fun _ zM a=>?_))));cases cr:((decide (isN k ((0:Int):Rat))))
   ·
    refine lL a [.v 77 qF,.m 65 77] (lN (bH [(1,pB i),(2,pB u),(3,pB y),(4,pB za),(65,qF)] ?_));refine cv (aa a [.v 80 (pB i),.o 81 (iV op) 3 0 1] ?_);have zu:((op:Int) == (4:Int))=false:=bJ oM;have b5:=ae zu;refine lB 82 zu (lL a [.m 83 82] (lG 84 ?_));refine lG 85 (lL a [.v 86 qF,.m 79 86] (af (aa a [.v 91 (pB i),.o 92 (iV op) 3 0 1] ?_)));have zv:((op:Int) == (5:Int))=false:=bJ oM;have b0:=ae zv;refine lB 93 zv (lL a [.m 94 93] (lG 95 ?_));refine lG 96 (lG 97 (lG 98 (lG 99 (lG 100 (lL a [.v 101 qF,.m 90 101] (af (aa a [.v 104 (pB i),.o 105 (iV op) 3 0 1] ?_)))))));have zw:((op:Int) == (5:Int))=false:=bJ oM;have bt:=ae zw;refine lB 106 zw (lL a [.m 107 106] (lG 108 ?_));refine lG 109 (lL a [.v 110 qF,.m 103 110] (af (aa a [.v 113 (pB i),.o 114 (iV op) 3 0 1] ?_)));have zx:((op:Int) == (5:Int))=false:=bJ oM;have Y:=ae zx;refine lB 115 zx (lL a [.m 116 115,.v 117 (pB i),.o 118 (iV op) 3 0 1] ?_);have zB:((op:Int) == (6:Int))=false:=bJ oM;have Z:=ae zB;refine lB 119 zB (lL a [.v 120 qF,.m 121 120] (lG 122 ?_));refine lG 123 (lL a [.v 124 qF,.m 112 124] (lN (bH [(1,pB i),(2,pB u),(3,pB y),(112,qF)] ?_)));refine cv (CG.skip ?_);intro S L;exact ⟨_,⟨zM,rfl,a.to _ _,(by first|exact sU oM aM aM|exact tB oM aM aM|exact tZ oM aM aM aM aM|exact tS oM aM|exact tQ oM)⟩,L.to _ kR⟩
   refine lL a [.v 77 qT,.m 65 77] (lN (bH [(1,pB i),(2,pB u),(3,pB y),(4,pB za),(65,qT)] ?_));exact ce (aa a [.o 78 (bE (([e,b]:List RTm).getD 0 aN)) 1 0 7] (lP 2 0 (bU (([e,b]:List RTm).getD 0 aN)) a (fun _ a=>ac a [(2,0,7)] (bE (([e,b]:List RTm).getD 0 aN)) (⟨_,rfl,by rw[show a6 (.mk op n q s ([j,k]:List Tm):Tm)=j from by first|exact DT oM aM aM|exact EQ oM aM];exact (a.f.r.2.1).mono (MK d)⟩))))
  exact lL a [.v 63 qT,.m 56 63] (ak (aa a [.o 64 (bE (([e,b]:List RTm).getD 1 aN)) 0 0 7] (lP 2 0 (bU (([e,b]:List RTm).getD 1 aN)) a (fun _ a=>ac a [(2,0,7)] (bE (([e,b]:List RTm).getD 1 aN)) (⟨_,rfl,by rw[show a6 (.mk op n q s ([j,k]:List Tm):Tm)=_ from Gv oM aM];exact (a.f.2.1).mono (MK d)⟩)))))
 rintro _ _ ⟨_,rfl,a,hru⟩;exact aa a [.o 126 (.agg #[iV op,iV n,.bool D,qS F B H,qS C J I,.string s,qS A 2 c]) 3 0 7] (lP 2 0 ([iV op,iV n,.bool D,qS F B H,qS C J I,.string s,qS A 2 c]) a (fun _ a=>ac a [(2,0,7)] (.agg #[iV op,iV n,.bool D,qS F B H,qS C J I,.string s,qS A 2 c]) (⟨_,rfl,by rw[hru];exact a.f.q.1⟩)))
theorem xR (d:Nat)(r:RTm)(t:Tm)(w:World)(h:Hp)(g:G w h)(x:RmH (d+1) h r t)(p:WfT (fun s=>bI s=true) (d+1) t):Calls Tryz.prog 59 #[bE r] w (Ret w h (fun v h1=>∃ f,v=bE f∧RmH (d+1) h1 f (a6 t))):=by
 have D:=x;obtain ⟨op,n,B,C,u,l,k,z,o,q,s,A,c,j,ks,rfl,rfl,I,H,F,e⟩:=x.open
 rcases p.wfq.split with ⟨rfl,ho⟩|⟨a,rfl,ho,ha⟩|⟨a,b,rfl,ho,ha,hb⟩
 ·have e0:j=[]:=z1 e.len
  subst e0;exact BO d op n B C u l k z o q s A c ho w h g D
 ·obtain ⟨i,rfl⟩:=Mt.1 (show j.length=1 from e.len)
  have h1:RmH d h i a:=e.at_ 0 (K9 _);exact rH d op n B C u l k z o q s A c i a (nS h1) ha.wf ho H w h g I F h1
 ·obtain ⟨i,f,rfl⟩:=kJ (show j.length=2 from e.len)
  have h1:RmH d h i a:=e.at_ 0 (K9 _);have y:RmH d h f b:=e.at_ 1 (by show 1<2;decide);exact Ct d op n B C u l k z o q s A c i a (nS h1) ha.wf f b (nS y) hb.wf ho w h g F D h1 (vY h1) y (vY y)
theorem vU  (d:Nat)(hd:d+1≤24)(ih:∀ (r:RTm) (t:Tm) (w:World) (h:Hp),G w h→RmH d h r t→t6 (fun s=>bI s=true) d t→Calls Tryz.prog 25 #[bE r] w (Ret w h (fun v h1=>∃ r2,v=bE r2∧RmH d h1 r2 (aw d t))))(op n:Int)(y:Bool)(B:Option Addr)(u C:Nat)(x:Option Addr)(F D:Nat)(q:Rat)(s:ByteArray)(A:Option Addr)(c:Nat)(e:List RTm)(ks:List Tm)(hc:e.length≤c)(hkd:∀ i,i<ks.length→t6 (fun s=>bI s=true) d (ks.getD i bv))(J:WfT (fun s=>bI s=true) (d+1) (.mk op n q s (ks.map (aw d)):Tm))(hwg:bp (d+1) (.mk op n q s (ks.map (aw d)):Tm)≤1000)(w:World)(h:Hp)(g:G w h)(hZ:RZ h (y,.slice B u C,.slice x F D) q)(hK:SlO 7 bU aN h A e)(hKs:Rms d h e ks):CR 25 #[.agg #[iV op,iV n,.bool y,.slice B u C,.slice x F D,.string s,.slice A e.length c]] w h (fun v h1=>∃ r2,v=bE r2∧RmH (d+1) h1 r2 (aw (d+1) (.mk op n q s ks))):=by
 have a:=((((sS g).add (K:=fun b=>RZ b (y,qS B u C,qS x F D) q) hZ).aS hK).add (K:=fun b=>Rms d b e ks) hKs);have hln:=(a.f.1).len;have hk2:ks.length≤2:=by have a1:d8 op=((ks.map (aw d)).length:Nat):=J.1;have a2:=aE op;rw[MI] at a1;omega
 refine go Tryz.func25 [(0,.agg #[iV op,iV n,.bool y,qS B u C,qS x F D,.string s,qS A e.length c])] rfl (av (lA 1 31 ([iV op,iV n,.bool y,qS B u C,qS x F D,.string s,qS A e.length c]) a (fun U w2 h3 a=>lA 2 31 ea a (fun W w5 h6 a=>aI (lL a [.o 9 (.agg #[iV op,iV n,.bool y,qS B u C,qS x F D,.string s,qS A e.length c]) 1 0 7] (lA 3 31 ea a (fun O w8 h9 a=>lP 0 0 ([iV op,iV n,.bool y,qS B u C,qS x F D,.string s,qS A e.length c]) a (fun _ a=>aI (lL a [.v 10 (qP O 6)] (lP 0 6 ([sZ]) a (fun _ a=>?_)))))))))));refine lN (CG.join (fun Γ w_=>∃ (V:Bool) (b:Hp),Γ=[(1,pB U),(2,pB W),(3,pB O),(4,.bool V)]∧SS w h w_ b [⟨O,31,[iV op,iV n,.bool y,qS B u C,qS x F D,.string s,sZ]⟩,⟨W,31,[iV 0,iV 0,qF,sZ,sZ,eS,sZ]⟩,⟨U,31,[iV op,iV n,.bool y,qS B u C,qS x F D,.string s,qS A e.length c]⟩] [] [fun b=>Rms d b e ks,fun b=>SlO 7 bU aN b A e,fun b=>RZ b (y,qS B u C,qS x F D) q]∧(V=true→¬e.length=0)∧(V=false→e.length=0)) ?_ ?_)
 ·
  refine kQ (lL a [.v 11 (qP U 6),.o 12 (qS A e.length c) 2 6 1,.v 13 (nV e.length)] ?_);cases za:(decide ((0:Int)<(e.length:Int)))
  ·
   have zp:=oF za;refine lB 14 za (lL a [.m 4 14] (lD ?_));intro a_ M;exact ⟨_,⟨false,h9,rfl,a.to _ _,(fun b=>MO b kD),(fun _=>by omega)⟩,M.to _ kR⟩
  have zp:=oT za;refine lB 14 za (lL a [.m 4 14] (lD ?_));intro a_ M;exact ⟨_,⟨true,h9,rfl,a.to _ _,(fun _=>by omega),(fun b=>MO b kD)⟩,M.to _ kR⟩
 rintro _ _ ⟨V,zE,rfl,a,hTz,hFz⟩;refine cQ (aa a [.v 5 (iV 0)] (a8 ?_));replace a:=a.nil 31 7;refine bH [(1,pB U),(2,pB W),(3,pB O),(5,iV 0),(4,.bool V)] ?_;replace a:=a.add (K:=fun b=>Rms d b ([]) ((ks.take 0).map (aw d))) (Rms.nil);refine CG.loop (fun μ_ Γ w_=>∃ (k:Nat) (bn:Bool) (j:Option Addr) (p:Nat) (I:List RTm) (b:Hp),μ_=e.length-k∧Γ=[(1,pB U),(2,pB W),(3,pB O),(5,nV k),(4,.bool bn)]∧SS w h w_ b [⟨O,31,[iV op,iV n,.bool y,qS B u C,qS x F D,.string s,qS j ((I).length) p]⟩,⟨W,31,[iV 0,iV 0,qF,sZ,sZ,eS,sZ]⟩,⟨U,31,[iV op,iV n,.bool y,qS B u C,qS x F D,.string s,qS A e.length c]⟩] [⟨31,7,j,p,(I).length,(I).flatMap bU⟩] [fun b=>Rms d b I ((ks.take k).map (aw d)),fun b=>Rms d b e ks,fun b=>SlO 7 bU aN b A e,fun b=>RZ b (y,qS B u C,qS x F D) q]∧k≤e.length∧(bn=true↔(0<ks.length∧∀ i,i<k→(fun i=>(aw d (ks.getD i bv)).op=1) i))) _ ⟨0,V,none,0,[],zE,rfl,rfl,a.to _ _,K7 _,(by rw[←hln];exact ⟨fun b=>⟨by have:=hTz b;omega,fun i hi=>MO hi (Mk i)⟩,fun b=>by first|exact (xB V).elim (fun L=>by have:=hFz L;have:=b.1;omega) id|exact (xB V).elim id (fun L=>by have:=hFz L;have:=b.1;omega)⟩)⟩ ?_;rintro _ _ _ ⟨k,bn,j,p,I,_,bb,rfl,a,hk,Q⟩;have hla:=(a.f.1).len;rw[MI,J4] at hla
 refine cQ (aa a [.m 15 5,.v 16 (qP U 6),.o 17 (qS A e.length c) 2 6 1,.v 18 (nV e.length)] ?_);cases zb:(decide ((k:Int)<(e.length:Int)))
 ·
  have zq:=oF zb;refine lB 19 zb (af (CG.exit ?_))
  show CG _ _ _ _ _ _ _ _
  refine cQ (av ?_);have hkn:k=ks.length:=by omega
  obtain ⟨_,a,zv⟩:=a.pubr 0 (A:=j) (c:=p) (l:=I) (f:=bU) (ty:=31) (sz:=7) aN (fun _=>rfl);replace a:=a.to [⟨O,31,[iV op,iV n,.bool y,qS B u C,qS x F D,.string s,qS j ((I).length) p]⟩,⟨W,31,[iV 0,iV 0,qF,sZ,sZ,eS,sZ]⟩,⟨U,31,[iV op,iV n,.bool y,qS B u C,qS x F D,.string s,qS A e.length c]⟩] [];replace a:=a.add (K:=fun b=>RmH (d+1) b (⟨op,n,y,B,u,C,x,F,D,s,j,I.length,p⟩:RTm) (.mk op n q s (ks.map (aw d)):Tm)) (by have L:ks.take k=ks:=(by rw[hkn,zy]);exact RmH.mk a.f.q.1 (L▸(a.f.2.1)) zv a.f.1);have X:=vP J.wfq;rw[hkn] at Q
  refine lL a [.m 40 4] (lN ?_);cases zd:(bn)
  ·
   try rw[zd] at a
   try rw[zd]
   refine cv (cK (aa a [.o 50 (.agg #[iV op,iV n,.bool y,qS B u C,qS x F D,.string s,qS j ((I).length) p]) 0 0 7] (lC 51 a (xR d (⟨op,n,y,B,u,C,x,F,D,s,j,I.length,p⟩:RTm) (.mk op n q s (ks.map (aw d)):Tm) _ _ a.g a.f.1 J) ?_)));rintro _ _ _ a ⟨S,rfl,hpr⟩;replace a:=(a.add (K:=fun b=>RmH (d+1) b S (a6 (.mk op n q s (ks.map (aw d)):Tm))) hpr);exact lP 1 0 (bU S) a (fun _ a=>ac a [(1,0,7)] (bE S) (⟨S,rfl,by show RmH (d+1) _ S (dE (.mk op n q s (ks.map (aw d)):Tm));rw[bZ (fun Y=>by first|exact Mj ((Q.2 (X.1 Y.1)).symm.trans aM)|(have L:=jz J.wfq Y.1;have e2_:=Y.2;rw[←L] at e2_;omega))];exact a.f.1⟩))
  try rw[zd] at a
  try rw[zd]
  refine ce (aa a [.o 42 (.agg #[iV op,iV n,.bool y,qS B u C,qS x F D,.string s,qS j ((I).length) p]) 0 0 7] (lC 43 a (HE (fun s=>bI s=true) none 0 [] [] kD 3002 kD kD (fun _=>(LQ.lit (z:=0) kD).mono kD) (d+1) (⟨op,n,y,B,u,C,x,F,D,s,j,I.length,p⟩:RTm) (.mk op n q s (ks.map (aw d)):Tm) _ _ a.g a.f.1 J hwg SlO.nil RLs.nil) ?_));rintro _ _ _ a ⟨_,rfl,zi,zj,zk,zl,rfl,zw,zx,zB,zD⟩;replace a:=a.aP zB zD;refine lL a [.m 41 43,.v 44 (rG ((aF [] (d+1) (.mk op n q s (ks.map (aw d)):Tm)).2) zi zj zk zl),.v 45 (iV ((aF [] (d+1) (.mk op n q s (ks.map (aw d)):Tm)).1))] (lA 7 28 ec a (fun b40 _ _ a=>lP 0 0 (cW ((aF [] (d+1) (.mk op n q s (ks.map (aw d)):Tm)).2) zi zj zk zl) a (fun _ a=>lL a [.m 8 45] (aI (lL a [.m 46 8] ?_)))));cases ze:(((aF [] (d+1) (.mk op n q s (ks.map (aw d)):Tm)).1:Int) == (0:Int))
  ·
   have zr:=ae ze;refine lB 47 ze (af (cK (aa a [.o 50 (.agg #[iV op,iV n,.bool y,qS B u C,qS x F D,.string s,qS j ((I).length) p]) 1 0 7] (lC 51 a (xR d (⟨op,n,y,B,u,C,x,F,D,s,j,I.length,p⟩:RTm) (.mk op n q s (ks.map (aw d)):Tm) _ _ a.g a.f.r.1 J) ?_))));rintro _ _ _ a ⟨S,rfl,hpr⟩;replace a:=(a.add (K:=fun b=>RmH (d+1) b S (a6 (.mk op n q s (ks.map (aw d)):Tm))) hpr);exact lP 2 0 (bU S) a (fun _ a=>ac a [(2,0,7)] (bE S) (⟨S,rfl,by show RmH (d+1) _ S (dE (.mk op n q s (ks.map (aw d)):Tm));rw[bZ (fun Y=>by first|exact Mj ((Q.2 (X.1 Y.1)).symm.trans aM)|(have L:=jz J.wfq Y.1;have e2_:=Y.2;rw[←L] at e2_;omega))];exact a.f.1⟩))
  have zr:=ML ze;refine lB 47 ze (ak (aa a [.o 48 (rG ((aF [] (d+1) (.mk op n q s (ks.map (aw d)):Tm)).2) zi zj zk zl) 0 0 3] (lC 49 a (Fu (d:=d) (ai ((aF [] (d+1) (.mk op n q s (ks.map (aw d)):Tm)).2).num) zi ((lim (ab ((aF [] (d+1) (.mk op n q s (ks.map (aw d)):Tm)).2).num)).length) zj zk ((lim ((aF [] (d+1) (.mk op n q s (ks.map (aw d)):Tm)).2).den).length) zl _ _ a.g ⟨true,⟨_,_,_,_,rfl,zw,zx,a.f.2.1,a.f.1⟩,fun b=>(by cases b)⟩) ?_)));rintro _ _ _ a ⟨rn,rfl,hrn⟩;replace a:=(a.add (K:=fun b=>RmH (d+1) b rn (.mk 1 0 (aF [] (d+1) (.mk op n q s (ks.map (aw d)):Tm)).2 ⟨#[]⟩ [])) hrn);exact lP 2 0 (bU rn) a (fun _ a=>ac a [(2,0,7)] (bE rn) (⟨rn,rfl,by show RmH (d+1) _ rn (dE (.mk op n q s (ks.map (aw d)):Tm));have hn_:=X.2 (Q.1 aM);have L:=jz J.wfq hn_;rw[gd ⟨hn_,by rw[←L];omega⟩,←L];exact a.f.1⟩))
 have zq:=oT zb;refine lB 19 zb (ak (cK (cQ (kZ (aa a [.v 22 (qP U 6),.o 23 (qS A e.length c) 2 6 1,.m 24 5] (lX 25 A e.length c 7 (k:Nat) k ((a.f.r.1).ok oM) ?_))))));refine lH 26 (bE (e.getD k aN)) a ((a.f.r.1).el k oM) (lC 27 a (ih (e.getD k aN) (ks.getD k bv) _ _ a.g ((a.f.2.1).at_ k oM) (hkd k oM)) ?_);rintro _ _ _ a ⟨H,rfl,hrk⟩;replace a:=(a.add (K:=fun b=>RmH d b H (aw d (ks.getD k bv))) hrk);have Z:=nS a.f.1;refine lA 6 31 ea a (fun zm _ zo a=>lP 0 0 (bU H) a (fun _ a=>?_));refine lN (CG.join (fun Γ w_=>∃ (fy:Bool) (b:Hp),Γ=[(1,pB U),(2,pB W),(3,pB O),(5,nV k),(6,pB zm),(4,.bool fy)]∧SS w h w_ b [⟨zm,31,bU H⟩,⟨O,31,[iV op,iV n,.bool y,qS B u C,qS x F D,.string s,qS j ((I).length) p]⟩,⟨W,31,[iV 0,iV 0,qF,sZ,sZ,eS,sZ]⟩,⟨U,31,[iV op,iV n,.bool y,qS B u C,qS x F D,.string s,qS A e.length c]⟩] [⟨31,7,j,p,(I).length,(I).flatMap bU⟩] [fun b=>RmH d b H (aw d (ks.getD k bv)),fun b=>Rms d b I ((ks.take k).map (aw d)),fun b=>Rms d b e ks,fun b=>SlO 7 bU aN b A e,fun b=>RZ b (y,qS B u C,qS x F D) q]∧(fy=true→(bn=true∧(fun i=>(aw d (ks.getD i bv)).op=1) k))∧(fy=false→¬(bn=true∧(fun i=>(aw d (ks.getD i bv)).op=1) k))) ?_ ?_)
 ·
  refine kQ ?_
  rcases xB (bn) with zg|zg
  ·
   refine lB 28 zg (lL a [.m 29 28] (lG 30 ?_));refine lG 31 (lG 32 (lL a [.v 33 qF,.m 4 33] (lD ?_)));intro a_ M;exact ⟨_,⟨false,zo,rfl,a.to _ _,(fun b=>MO b kD),(fun _ b=>by first|exact Mj (b.1.symm.trans aM)|exact MO (Z.trans b.2) oM)⟩,M.to _ kR⟩
  refine lB 28 zg (lL a [.m 29 28,.v 30 (pB zm),.o 31 (iV H.op) 0 0 1] ?_);cases zf:((H.op:Int) == (1:Int))
  ·
   have zs:=ae zf;refine lB 32 zf (lL a [.v 33 qF,.m 4 33] (lD ?_));intro a_ M;exact ⟨_,⟨false,zo,rfl,a.to _ _,(fun b=>MO b kD),(fun _ b=>by first|exact Mj (b.1.symm.trans aM)|exact MO (Z.trans b.2) oM)⟩,M.to _ kR⟩
  have zs:=ML zf;refine lB 32 zf (lL a [.v 33 qT,.m 4 33] (lD ?_));intro a_ M;exact ⟨_,⟨true,zo,rfl,a.to _ _,(fun _=>⟨by assumption,Z.symm.trans oM⟩),(fun b=>MO b kD)⟩,M.to _ kR⟩
 rintro _ _ ⟨fy,_,rfl,a,hTy,hFy⟩;refine kQ (lL a [.v 34 (qP O 6),.o 35 (qS j ((I).length) p) 1 6 1,.o 36 (bE H) 0 0 7] (lR 37 31 1 ([iV H.op,iV H.n,.bool H.neg,qS H.zA H.zn H.zc,qS H.dA H.dn H.dc,.string H.s,qS H.A H.m H.c]) a (fun zG _ _ a=>lY 38 0 31 7 p j I bU H 112 zG (.agg #[iV 0,iV 0,qF,sZ,sZ,eS,sZ]) a a.f.1 (fun zt zu _ zH a=>lL a [.v 39 (qP O 6)] (lP 1 6 ([qS zt ((I++[H]).length) zu]) a (fun _ a=>lN (kQ (lL a [.m 20 5] (bD 21 ((k:Nat)+1) (k+1) ?_)))))))));refine lL a [.m 5 21] (lD ?_);intro a_ M;replace a:=(a.tl.tl.tl.add (K:=fun b=>Rms d b (I++[H]) ((ks.take (k+1)).map (aw d))) (by rw[iM bv oM,List.map_append];exact (a.f.r.1).snoc a.f.2.1));replace a:=a.drop 1 0;refine ⟨_,_,?_,⟨k+1,fy,zt,zu,I++[H],zH,rfl,rfl,a.to _ _,oM,(Cb Q hTy hFy)⟩,M.to _ kR⟩
 omega
theorem q5:∀ (d:Nat),d≤24→∀ (r:RTm) (t:Tm) (w:World) (h:Hp),G w h→RmH d h r t→t6 (fun s=>bI s=true) d t→Calls Tryz.prog 25 #[bE r] w (Ret w h (fun v h1=>∃ r2,v=bE r2∧RmH d h1 r2 (aw d t)))
  | 0,_,_,_,_,_,_,x,_=>x.elim
  | d+1,hd,p,t,w,h,g,x,wf=>by
    obtain ⟨op,n,b,zA,zn,zc,dA,dn,dc,q,s,A,c,rs,ks,rfl,rfl,hZ,hc,hK,hKs⟩:=x.open;obtain ⟨f,e,a⟩:=wf;exact vU d hd (fun p t w h=>q5 d oM p t w h) op n b zA zn zc dA dn dc q s A c rs ks hc a f e w h g hZ hK hKs
theorem Cd (d:Nat)(r:RTm)(t:Tm)(u:d≤24)(l:WfT (fun s=>bI s=true) d t∧bp d t≤1000→t6 (fun s=>bI s=true) d t)(w:World)(h:Hp)(g:G w h)(hR:RmH d h r t)(x:iF fi d t):CR 8 #[bE r] w h (fun v h1=>∃ (p:RTm) (er:Int),v=.tuple #[bE p,iV er]∧PlE (fun s=>bI s=true) d t er∧(er=0→RmH d h1 p (aw d t))):=by
 have a:=((sS g).add (K:=fun e=>RmH d e r t) hR);refine go Tryz.func8 [(0,bE r)] rfl (av (lA 1 31 (bU r) a (fun C w2 D a=>lA 2 31 ea a (fun H F z a=>lL a [.v 3 (iV 0)] (ah (aa a [.o 4 (bE r) 1 0 7] (lC 5 a (AI bI fi H6 d r t u _ _ a.g a.f.1 x) ?_)))))));rintro _ B I a ⟨y,rfl,c⟩;cases b:((y:Int) != (0:Int))
 ·
  have i:=aJ b;refine lB 6 b (af (cK (aa a [.o 8 (bE r) 1 0 7] (lC 9 a (q5 d u r t _ _ a.g a.f.1 (l (f7 c oM))) ?_))));rintro _ _ _ a ⟨j,rfl,k⟩;replace a:=(a.add (K:=fun e=>RmH d e j (aw d t)) k);exact lP 0 0 (bU j) a (fun _ a=>lL a [.v 3 (iV 0)] (ac a [(0,0,7)] (.tuple #[bE j,iV 0]) (⟨j,_,rfl,.inl ⟨f7 c oM,rfl⟩,(fun _=>(a.f.1))⟩)))
 have i:=aW b;exact lB 6 b (ak (aa a [.v 7 (.agg #[iV 0,iV 0,qF,sZ,sZ,eS,sZ])] (lP 0 0 ea a (fun _ a=>lL a [.v 3 (iV 1)] (ac a [(0,0,7)] (.tuple #[.agg #[iV 0,iV 0,qF,sZ,sZ,eS,sZ],iV 1]) (⟨aN,_,rfl,.inr ⟨qe c oM,rfl⟩,(fun e=>MO e kD)⟩))))))
theorem sT  (ok:ByteArray→Prop)(d:Nat)(ih:∀ (p:PTm) (t:Tm) (w:World) (h:Hp),G w h→TmH d h p t→WfT ok d t →  Calls Tryz.prog 33 #[az p] w (Ret w h (fun v h1=>∃ r,v=bE r∧RmH d h1 r t)))(op n:Int)(q:Rat)(s:ByteArray)(A:Option Addr)(c:Nat)(ps:List PTm)(ks:List Tm)(hc:ps.length≤c)(hlp:ps.length≤2)(Z:d8 op=(ks.length:Nat))(hq0:op≠1→q=0)(hq:LQ 3000 q)(hok:op=2→ok s)(hs0:op≠2→s=⟨#[]⟩)(hn0:op≠8→n=0)(hn1 : -12≤n)(hn2:n≤12)(hW:∀ i,i<ks.length→WfT ok d (ks.getD i bv))(w:World)(h:Hp)(g:G w h)(hK:SlO 9 bg au h A ps)(L:Tms d h ps ks):CR 33 #[pW op n q s A ps.length c] w h (fun v h1=>∃ r,v=bE r∧RmH (d+1) h1 r (.mk op n q s ks)):=by
 have a:=(((sS g).aS hK).add (K:=fun y=>Tms d y ps ks) L);have hln:=(a.f.1).len;refine go Tryz.func33 [(0,pW op n q s A ps.length c)] rfl (av (lA 1 43 (pG op n q s A ps.length c) a (fun z w2 h3 a=>lA 2 31 ea a (fun O w5 h6 a=>ah ?_))));have H:=a;refine cR 11 [⟨10,3,.cells (List.toArray [iV 0,iV 0,qF,sZ,sZ,eS,sZ]) 31 (0,0)⟩] mixed a (bW (fA kR (fun _ _=>by kernel_rfl)) ar) (eV 0 5 (pB z) (eO 1 6 [(1,0,1)] (iV op) a (eV 2 7 (qP z 1) (eO 3 8 [(1,1,1)] (iV n) a (eV 4 9 (qP z 7) (eO 5 10 [(1,7,1)] (.string s) a (eV 6 11 (qP z 2) (eO 7 12 [(1,2,5)] (qv q) a (eC 8 13 a (fun _ _ a=>IM q (hq.mono oM) _ _ a.g) ?_)))))))));rintro _ _ _ _ _ a ⟨B,C,za,zb,rfl,I,zj,zk,zl⟩;replace a:=a.aP zk zl;refine eV 9 14 (.agg #[iV op,iV n,.bool (ai q.num),qS B ((lim (ab q.num)).length) C,qS za ((lim q.den).length) zb,.string s,sZ]) (iL [] H a 31 [iV 0,iV 0,qF,sZ,sZ,eS,sZ] (fun _ zo D a=>tP 11 0 0 ([iV op,iV n,.bool (ai q.num),qS B ((lim (ab q.num)).length) C,qS za ((lim q.den).length) zb,.string s,sZ]) a (fun _ a=>tN (cQ (aa a [.v 4 (iV 0)] (a8 ?_))))));replace a:=a.nil 31 7;refine bH [(1,pB z),(2,pB O),(3,pB D),(4,iV 0)] ?_;replace a:=a.add (K:=fun y=>Rms d y ([]) (ks.take 0)) (Rms.nil);refine CG.loop (fun S Γ w_=>∃ (k:Nat) (e:Option Addr) (j:Nat) (u:List RTm) (y:Hp),S=ps.length-k∧Γ=[(1,pB z),(2,pB O),(3,pB D),(4,nV k)]∧SS w h w_ y [⟨D,31,[iV op,iV n,.bool (ai q.num),qS B ((lim (ab q.num)).length) C,qS za ((lim q.den).length) zb,.string s,qS e ((u).length) j]⟩,⟨O,31,[iV 0,iV 0,qF,sZ,sZ,eS,sZ]⟩,⟨z,43,pG op n q s A ps.length c⟩] [⟨31,7,e,j,(u).length,(u).flatMap bU⟩] [fun y=>Rms d y u (ks.take k),S3 za (lim q.den),S3 B (lim (ab q.num)),fun y=>Tms d y ps ks,fun y=>SlO 9 bg au y A ps]∧k≤ps.length) _ ⟨0,none,0,[],zo,rfl,rfl,a.to _ _,K7 _⟩ ?_;rintro _ _ _ ⟨k,e,j,u,_,V,rfl,a,hk⟩;have M:=(a.f.1).len;rw[J4] at M
 refine cQ (aa a [.m 15 4,.v 16 (qP z 8),.o 17 (qS A ps.length c) 2 8 1,.v 18 (nV ps.length)] ?_);cases F:(decide ((k:Int)<(ps.length:Int)))
 ·
  have zf:=oF F;refine lB 19 F (af (CG.exit ?_))
  show CG _ _ _ _ _ _ _ _
  refine av ?_;have J:k=ks.length:=by omega
  obtain ⟨_,a,zm⟩:=a.pubr 0 (A:=e) (c:=j) (l:=u) (f:=bU) (ty:=31) (sz:=7) aN (fun _=>rfl);exact lL a [.o 33 (.agg #[iV op,iV n,.bool (ai q.num),qS B ((lim (ab q.num)).length) C,qS za ((lim q.den).length) zb,.string s,qS e ((u).length) j]) 0 0 7] (lP 1 0 ([iV op,iV n,.bool (ai q.num),qS B ((lim (ab q.num)).length) C,qS za ((lim q.den).length) zb,.string s,qS e ((u).length) j]) a (fun _ a=>ac a [(1,0,7)] (.agg #[iV op,iV n,.bool (ai q.num),qS B ((lim (ab q.num)).length) C,qS za ((lim q.den).length) zb,.string s,qS e ((u).length) j]) (⟨⟨op,n,ai q.num,B,(lim (ab q.num)).length,C,za,(lim q.den).length,zb,s,e,u.length,j⟩,rfl,RmH.mk ⟨true,⟨_,_,_,_,rfl,I,zj,a.f.r.2.1,a.f.r.1⟩,fun y=>(by cases y)⟩ (by have X:=(a.f.2.1);rw[J,zy] at X;exact X) zm a.f.1⟩)))
 have zf:=oT F;refine lB 19 F (ak (cK (cQ (kZ (CG.region ⟨((Dx e ((u).length) j).ownBlock.toList),none⟩ 10 [] mixed kR a.g ar (a.ro_lt 0 (ty:=31) (sz:=7) (A:=e) (c:=j) (m:=(u).length) (cs:=(u).flatMap bU)) ?_)))));refine eV 0 22 (qP D 6) (eO 1 23 [(0,6,1)] (qS e ((u).length) j) a ?_ (hM:=fun p Q=>by obtain rfl:=pa.1 Q;exact a.ro_ne 0 0 (ty:=31) (sz:=7) (A:=e) (c:=j) (m:=(u).length) (cs:=(u).flatMap bU)));refine eV 2 24 (qP z 8) (eO 3 25 [(2,8,1)] (qS A ps.length c) a ?_ (hM:=fun p Q=>by obtain rfl:=pa.1 Q;exact a.ro_ne 2 0 (ty:=31) (sz:=7) (A:=e) (c:=j) (m:=(u).length) (cs:=(u).flatMap bU)));refine eV 4 26 (nV k) (eX 5 27 A ps.length c 9 (k:Nat) k ((a.f.q.1).ok oM) (eH 6 28 (az (ps.getD k au)) a ((a.f.q.1).el k oM) ?_ (hM:=a.ro_jk 0 (ty:=31) (sz:=7) (A:=e) (c:=j) (m:=(u).length) (cs:=(u).flatMap bU))));refine eC 7 29 a (fun _ _ a=>ih (ps.getD k au) (ks.getD k bv) _ _ a.g ((a.f.r.2.1).at_ k oM) (hW k oM)) ?_;rintro _ _ _ _ _ a ⟨x,rfl,U⟩;replace a:=(a.add (K:=fun y=>RmH d y x (ks.getD k bv)) U);refine eR 8 30 31 1 ([iV x.op,iV x.n,.bool x.neg,qS x.zA x.zn x.zc,qS x.dA x.dn x.dc,.string x.s,qS x.A x.m x.c]) a (fun zp _ _ a=>eY 9 31 0 31 7 j e u bU x 112 zp (.agg #[iV 0,iV 0,qF,sZ,sZ,eS,sZ]) a (fun _ f_=>f_.1) (fun b hb=>Mu.2 hb) (fun Y W _ _ a=>ck a (fun _ zq a=>tV 10 32 (qP D 6) (tP 11 0 6 ([qS Y ((u++[x]).length) W]) a (fun _ a=>tN (kQ (lL a [.m 20 4] (bD 21 ((k:Nat)+1) (k+1) ?_))))))));refine lL a [.m 4 21] (lD ?_);intro a_ ka;replace a:=(a.tl.tl.tl.add (K:=fun y=>Rms d y (u++[x]) (ks.take (k+1))) (by rw[iM bv oM];exact (a.f.r.1).snoc a.f.2.1));refine ⟨_,_,?_,⟨k+1,Y,W,u++[x],zq,rfl,rfl,a.to _ _,oM⟩,ka.to _ kR⟩
 omega
theorem oS (ok:ByteArray→Prop):∀ (d:Nat) (p:PTm) (t:Tm) (w:World) (h:Hp),G w h→TmH d h p t→WfT ok d t →  Calls Tryz.prog 33 #[az p] w (Ret w h (fun v h1=>∃ r,v=bE r∧RmH d h1 r t))
  | 0,_,_,_,_,_,x,_=>x.elim
  | d + 1,p,t,w,h,g,x,wf=>by
    obtain ⟨op,n,q,s,A,c,ps,ks,rfl,rfl,k,o,a⟩:=x.open;obtain ⟨w1,w2,w3,f,l,i,j,e,u⟩:=wf
    have b:ps.length≤2:=by
      have e1:d8 op=ks.length:=w1;have:=aE op;have:=a.len
      omega
    exact sT ok d (fun p t w h=>oS ok d p t w h) op n q s A c ps ks k b w1 w2 w3 f l i j e u w h g o a
theorem Ao  (ok:ByteArray→Prop)(d:Nat)(ih:∀ (r1 r2:RTm) (t:Tm) (w:World) (h:Hp),G w h→RmH d h r1 t→RmH d h r2 t→WfT ok d t→Calls Tryz.prog 32 #[bE r1,bE r2] w (Ret w h (fun v _=>v=.bool true)))(op n:Int)(q:Rat)(s:ByteArray)(ks:List Tm)(hq:LQ 3000 q)(p:Option Addr)(c1 j:Nat)(u:Option Addr)(y:Nat)(S:(lim (ab q.num)).length≤c1)(J:(lim j).length≤y)(x:Option Addr)(e1:Nat)(b:List RTm)(F:Option Addr)(c2 B:Nat)(H:Option Addr)(I:Nat)(U:(lim (ab q.num)).length≤c2)(hd2:(lim B).length≤I)(z:Option Addr)(e2:Nat)(c:List RTm)(hz:q.num=0)(hkl:ks.length≤2)(hW:∀ i,i<ks.length→WfT ok d (ks.getD i bv))(w:World)(h:Hp)(g:G w h)(hA1:S3 p (lim (ab q.num)) h)(hD1:S3 u (lim j) h)(V:SlO 7 bU aN h x b)(X:Rms d h b ks)(hA2:S3 F (lim (ab q.num)) h)(W:S3 H (lim B) h)(hK2:SlO 7 bU aN h z c)(Z:Rms d h c ks):CV 32 #[.agg #[iV op,iV n,.bool (ai q.num),.slice p ((lim (ab q.num)).length) c1,.slice u ((lim j).length) y,.string s,.slice x b.length e1],.agg #[iV op,iV n,.bool (ai q.num),.slice F ((lim (ab q.num)).length) c2,.slice H ((lim B).length) I,.string s,.slice z c.length e2]] w h (.bool true):=by
 have a:=(((((((((sS g).aS hA1).aS hD1).aS V).add (K:=fun e=>Rms d e b ks) X).aS hA2).aS W).aS hK2).add (K:=fun e=>Rms d e c ks) Z);have hl1:=(a.f.q.1).len;have hl2:=(a.f.1).len;have L:LQ 100000000 q:=hq.mono oM;have hq1:=LQ.ln L;have hq2:=LQ.ld L;refine go Tryz.func32 [(0,.agg #[iV op,iV n,.bool (ai q.num),qS p ((lim (ab q.num)).length) c1,qS u ((lim j).length) y,.string s,qS x b.length e1]),(1,.agg #[iV op,iV n,.bool (ai q.num),qS F ((lim (ab q.num)).length) c2,qS H ((lim B).length) I,.string s,qS z c.length e2])] rfl (av (lA 2 31 ([iV op,iV n,.bool (ai q.num),qS p ((lim (ab q.num)).length) c1,qS u ((lim j).length) y,.string s,qS x b.length e1]) a (fun l w2 h3 a=>lA 3 31 ([iV op,iV n,.bool (ai q.num),qS F ((lim (ab q.num)).length) c2,qS H ((lim B).length) I,.string s,qS z c.length e2]) a (fun C w5 h6 a=>lL a [.v 4 qF] (ah (cQ (cR 51 [] mixed a ar ?_)))))));refine eV 0 6 (pB l) (eO 1 7 [(1,0,1)] (iV op) a (eV 2 8 (pB C) (eO 3 9 [(0,0,1)] (iV op) a ?_)));have O:((op:Int) != (op:Int))=false:=mE rfl;have bd:=aJ O;refine eB 4 10 O (eV 5 11 qF (eV 6 12 (qP l 1) (eO 7 13 [(1,1,1)] (iV n) a (eV 8 14 (qP C 1) (eO 9 15 [(0,1,1)] (iV n) a ?_)))));have Q:((n:Int) != (n:Int))=false:=mE rfl;have bl:=aJ Q;refine eB 10 16 Q (eV 11 17 qF (eV 12 18 qF (eV 13 19 (qP l 5) (eO 14 20 [(1,5,1)] (.string s) a (eV 15 21 (qP C 5) (eO 16 22 [(0,5,1)] (.string s) a (eV 17 23 qF ?_ (hv:=fun _=>rb kR (Dr s)))))))));refine eV 18 24 qF (eV 19 25 qF (eV 20 26 (qP l 6) (eO 21 27 [(1,6,1)] (qS x b.length e1) a (eV 22 28 (nV b.length) (eV 23 29 (qP C 6) (eO 24 30 [(0,6,1)] (qS z c.length e2) a (eV 25 31 (nV c.length) ?_)))))));have M:((b.length:Int) != (c.length:Int))=false:=mE oM;have bk:=aJ M;refine eB 26 32 M (eV 27 33 qF (eV 28 34 qF (eV 29 35 (qP l 2) (eO 30 36 [(1,2,3)] (.agg #[.bool (ai q.num),qS p ((lim (ab q.num)).length) c1,qS u ((lim j).length) y]) a (eV 32 38 (qP C 2) (eO 33 39 [(0,2,3)] (.agg #[.bool (ai q.num),qS F ((lim (ab q.num)).length) c2,qS H ((lim B).length) I]) a (aq 31 37 a (fun _ _ a=>(by have D:=j7 q.num p c1 j u y S J _ _ a.g a.f.q.r.2.1 (a.f.q.r.1);rw[decide_eq_true (.inr hz)] at D;exact D)) (fun _ _ a=>aq 34 40 a (fun _ _ a=>(by have D:=j7 q.num F c2 B H I U hd2 _ _ a.g a.f.r.2.1 (a.f.r.1);rw[decide_eq_true (.inr hz)] at D;exact D)) (fun _ _ a=>eV 35 41 qF (eV 36 42 qF (eV 37 43 qF (eV 38 44 (qP l 2) (eO 39 45 [(1,2,3)] (.agg #[.bool (ai q.num),qS p ((lim (ab q.num)).length) c1,qS u ((lim j).length) y]) a (aq 40 46 a (fun _ _ a=>(by have D:=j7 q.num p c1 j u y S J _ _ a.g a.f.q.r.2.1 (a.f.q.r.1);rw[decide_eq_true (.inr hz)] at D;exact D)) (fun _ _ a=>eV 41 47 qF (eV 42 48 qF (eG 43 49 (eG 44 50 (eG 45 51 (eG 46 52 (eG 47 53 (eG 48 54 (eV 49 55 qF (eV 50 56 qF (ck a (fun _ zc a=>tN (bH [(2,pB l),(3,pB C),(4,qF),(56,qF)] ?_)))))))))))))))))))))))))));refine cv (cK (cQ (aa a [.v 5 (iV 0)] (a8 ?_))));refine bH _ (CG.loop (fun Y Γ w_=>∃ (k:Nat) (e:Hp),Y=b.length-k∧Γ=[(2,pB l),(3,pB C),(5,nV k)]∧SS w h w_ e [⟨C,31,[iV op,iV n,.bool (ai q.num),qS F ((lim (ab q.num)).length) c2,qS H ((lim B).length) I,.string s,qS z c.length e2]⟩,⟨l,31,[iV op,iV n,.bool (ai q.num),qS p ((lim (ab q.num)).length) c1,qS u ((lim j).length) y,.string s,qS x b.length e1]⟩] [] [fun e=>Rms d e c ks,fun e=>SlO 7 bU aN e z c,S3 H (lim B),S3 F (lim (ab q.num)),fun e=>Rms d e b ks,fun e=>SlO 7 bU aN e x b,S3 u (lim j),S3 p (lim (ab q.num))]∧k≤b.length) _ ⟨0,zc,rfl,rfl,a.to _ _,K7 _⟩ ?_);rintro _ _ _ ⟨k,_,bb,rfl,a,hk⟩;refine cQ (aa a [.m 57 5,.v 58 (qP l 6),.o 59 (qS x b.length e1) 1 6 1,.v 60 (nV b.length)] ?_);cases za:(decide ((k:Int)<(b.length:Int)))
 ·
  have zb:=oF za;refine lB 61 za (af (CG.exit ?_))
  show CG _ _ _ _ _ _ _ _
  exact aa a [.v 4 qT] (ac a [] qT rfl)
 have zb:=oT za;refine lB 61 za (ak (cK (cQ (kZ (cQ (cR 12 [] mixed a ar ?_))))));refine eV 0 64 (qP l 6) (eO 1 65 [(1,6,1)] (qS x b.length e1) a (eV 2 66 (nV k) (eX 3 67 x b.length e1 7 (k:Nat) k ((a.f.q.2.1).ok oM) (eH 4 68 (bE (b.getD k aN)) a ((a.f.q.2.1).el k oM) (eV 5 69 (qP C 6) (eO 6 70 [(0,6,1)] (qS z c.length e2) a (eV 7 71 (nV k) (eX 8 72 z c.length e2 7 (k:Nat) k ((a.f.2.1).ok oM) (eH 9 73 (bE (c.getD k aN)) a ((a.f.2.1).el k oM) (aq 10 74 a (fun _ _ a=>ih (b.getD k aN) (c.getD k aN) (ks.getD k bv) _ _ a.g ((a.f.q.1).at_ k oM) ((a.f.1).at_ k oM) (hW k oM)) (fun _ _ a=>eV 11 75 qF (ck a (fun _ zd a=>tN (cv (cK (kQ (lL a [.m 62 5] (bD 63 ((k:Nat)+1) (k+1) ?_))))))))))))))))));refine lL a [.m 5 63] (lD ?_);intro a_ ka;refine ⟨_,_,?_,⟨k+1,zd,rfl,rfl,a.to _ _,oM⟩,ka.to _ kR⟩
 omega
theorem Ca  (ok:ByteArray→Prop)(d:Nat)(ih:∀ (r1 r2:RTm) (t:Tm) (w:World) (h:Hp),G w h→RmH d h r1 t→RmH d h r2 t→WfT ok d t→Calls Tryz.prog 32 #[bE r1,bE r2] w (Ret w h (fun v _=>v=.bool true)))(op n:Int)(q:Rat)(s:ByteArray)(ks:List Tm)(hq:LQ 3000 q)(j:Option Addr)(c1:Nat)(l:Option Addr)(u:Nat)(I:(lim (ab q.num)).length≤c1)(H:(lim q.den).length≤u)(x:Option Addr)(e1:Nat)(b:List RTm)(y:Option Addr)(c2:Nat)(z:Option Addr)(D:Nat)(L:(lim (ab q.num)).length≤c2)(S:(lim q.den).length≤D)(C:Option Addr)(e2:Nat)(c:List RTm)(hz:¬q.num=0)(hkl:ks.length≤2)(hW:∀ i,i<ks.length→WfT ok d (ks.getD i bv))(w:World)(h:Hp)(g:G w h)(hA1:S3 j (lim (ab q.num)) h)(hD1:S3 l (lim q.den) h)(V:SlO 7 bU aN h x b)(X:Rms d h b ks)(hA2:S3 y (lim (ab q.num)) h)(W:S3 z (lim q.den) h)(hK2:SlO 7 bU aN h C c)(Z:Rms d h c ks):CV 32 #[.agg #[iV op,iV n,.bool (ai q.num),.slice j ((lim (ab q.num)).length) c1,.slice l ((lim q.den).length) u,.string s,.slice x b.length e1],.agg #[iV op,iV n,.bool (ai q.num),.slice y ((lim (ab q.num)).length) c2,.slice z ((lim q.den).length) D,.string s,.slice C c.length e2]] w h (.bool true):=by
 have a:=(((((((((sS g).aS hA1).aS hD1).aS V).add (K:=fun e=>Rms d e b ks) X).aS hA2).aS W).aS hK2).add (K:=fun e=>Rms d e c ks) Z);have hl1:=(a.f.q.1).len;have hl2:=(a.f.1).len;have M:LQ 100000000 q:=hq.mono oM;have hq1:=LQ.ln M;have hq2:=LQ.ld M;refine go Tryz.func32 [(0,.agg #[iV op,iV n,.bool (ai q.num),qS j ((lim (ab q.num)).length) c1,qS l ((lim q.den).length) u,.string s,qS x b.length e1]),(1,.agg #[iV op,iV n,.bool (ai q.num),qS y ((lim (ab q.num)).length) c2,qS z ((lim q.den).length) D,.string s,qS C c.length e2])] rfl (av (lA 2 31 ([iV op,iV n,.bool (ai q.num),qS j ((lim (ab q.num)).length) c1,qS l ((lim q.den).length) u,.string s,qS x b.length e1]) a (fun p w2 h3 a=>lA 3 31 ([iV op,iV n,.bool (ai q.num),qS y ((lim (ab q.num)).length) c2,qS z ((lim q.den).length) D,.string s,qS C c.length e2]) a (fun B w5 h6 a=>lL a [.v 4 qF] (ah (cQ (cR 51 [] mixed a ar ?_)))))));refine eV 0 6 (pB p) (eO 1 7 [(1,0,1)] (iV op) a (eV 2 8 (pB B) (eO 3 9 [(0,0,1)] (iV op) a ?_)));have Q:((op:Int) != (op:Int))=false:=mE rfl;have bk:=aJ Q;refine eB 4 10 Q (eV 5 11 qF (eV 6 12 (qP p 1) (eO 7 13 [(1,1,1)] (iV n) a (eV 8 14 (qP B 1) (eO 9 15 [(0,1,1)] (iV n) a ?_)))));have U:((n:Int) != (n:Int))=false:=mE rfl;have bm:=aJ U;refine eB 10 16 U (eV 11 17 qF (eV 12 18 qF (eV 13 19 (qP p 5) (eO 14 20 [(1,5,1)] (.string s) a (eV 15 21 (qP B 5) (eO 16 22 [(0,5,1)] (.string s) a (eV 17 23 qF ?_ (hv:=fun _=>rb kR (Dr s)))))))));refine eV 18 24 qF (eV 19 25 qF (eV 20 26 (qP p 6) (eO 21 27 [(1,6,1)] (qS x b.length e1) a (eV 22 28 (nV b.length) (eV 23 29 (qP B 6) (eO 24 30 [(0,6,1)] (qS C c.length e2) a (eV 25 31 (nV c.length) ?_)))))));have O:((b.length:Int) != (c.length:Int))=false:=mE oM;have bl:=aJ O;refine eB 26 32 O (eV 27 33 qF (eV 28 34 qF (eV 29 35 (qP p 2) (eO 30 36 [(1,2,3)] (rG q j c1 l u) a (eV 32 38 (qP B 2) (eO 33 39 [(0,2,3)] (rG q y c2 z D) a (aq 31 37 a (fun _ _ a=>(by have F:=j7 q.num j c1 q.den l u I H _ _ a.g a.f.q.r.2.1 (a.f.q.r.1);rw[decide_eq_false (fun e=>e.elim (fun J=>q.den_nz J) hz)] at F;exact F)) (fun _ _ a=>aq 34 40 a (fun _ _ a=>(by have F:=j7 q.num y c2 q.den z D L S _ _ a.g a.f.r.2.1 (a.f.r.1);rw[decide_eq_false (fun e=>e.elim (fun J=>q.den_nz J) hz)] at F;exact F)) (fun _ _ a=>eV 35 41 qF (eV 36 42 qF (eV 37 43 qF (eV 38 44 (qP p 2) (eO 39 45 [(1,2,3)] (rG q j c1 l u) a (aq 40 46 a (fun _ _ a=>(by have F:=j7 q.num j c1 q.den l u I H _ _ a.g a.f.q.r.2.1 (a.f.q.r.1);rw[decide_eq_false (fun e=>e.elim (fun J=>q.den_nz J) hz)] at F;exact F)) (fun _ _ a=>eV 41 47 qT (eV 42 48 qT (eV 43 49 (qP p 2) (eO 44 50 [(1,2,3)] (rG q j c1 l u) a (eV 45 51 (qP B 2) (eO 46 52 [(0,2,3)] (rG q y c2 z D) a (aq 47 53 a (fun _ _ a=>Cc q j c1 l u I H oM oM q y c2 z D L S oM oM _ _ a.g a.f.q.r.2.1 a.f.q.r.1 a.f.r.2.1 a.f.r.1) (fun _ _ a=>?_))))))))))))))))))))));have zb:((cX q q:Int) != (0:Int))=false:=mE (s7 _);have bb:=aJ zb;refine eB 48 54 zb (eV 49 55 qF (eV 50 56 qF (ck a (fun _ zd a=>tN (bH [(2,pB p),(3,pB B),(4,qF),(56,qF)] ?_)))));refine cv (cK (cQ (aa a [.v 5 (iV 0)] (a8 ?_))));refine bH _ (CG.loop (fun Y Γ w_=>∃ (k:Nat) (e:Hp),Y=b.length-k∧Γ=[(2,pB p),(3,pB B),(5,nV k)]∧SS w h w_ e [⟨B,31,[iV op,iV n,.bool (ai q.num),qS y ((lim (ab q.num)).length) c2,qS z ((lim q.den).length) D,.string s,qS C c.length e2]⟩,⟨p,31,[iV op,iV n,.bool (ai q.num),qS j ((lim (ab q.num)).length) c1,qS l ((lim q.den).length) u,.string s,qS x b.length e1]⟩] [] [fun e=>Rms d e c ks,fun e=>SlO 7 bU aN e C c,S3 z (lim q.den),S3 y (lim (ab q.num)),fun e=>Rms d e b ks,fun e=>SlO 7 bU aN e x b,S3 l (lim q.den),S3 j (lim (ab q.num))]∧k≤b.length) _ ⟨0,zd,rfl,rfl,a.to _ _,K7 _⟩ ?_);rintro _ _ _ ⟨k,_,bd,rfl,a,hk⟩;refine cQ (aa a [.m 57 5,.v 58 (qP p 6),.o 59 (qS x b.length e1) 1 6 1,.v 60 (nV b.length)] ?_);cases za:(decide ((k:Int)<(b.length:Int)))
 ·
  have zc:=oF za;refine lB 61 za (af (CG.exit ?_))
  show CG _ _ _ _ _ _ _ _
  exact aa a [.v 4 qT] (ac a [] qT rfl)
 have zc:=oT za;refine lB 61 za (ak (cK (cQ (kZ (cQ (cR 12 [] mixed a ar ?_))))));refine eV 0 64 (qP p 6) (eO 1 65 [(1,6,1)] (qS x b.length e1) a (eV 2 66 (nV k) (eX 3 67 x b.length e1 7 (k:Nat) k ((a.f.q.2.1).ok oM) (eH 4 68 (bE (b.getD k aN)) a ((a.f.q.2.1).el k oM) (eV 5 69 (qP B 6) (eO 6 70 [(0,6,1)] (qS C c.length e2) a (eV 7 71 (nV k) (eX 8 72 C c.length e2 7 (k:Nat) k ((a.f.2.1).ok oM) (eH 9 73 (bE (c.getD k aN)) a ((a.f.2.1).el k oM) (aq 10 74 a (fun _ _ a=>ih (b.getD k aN) (c.getD k aN) (ks.getD k bv) _ _ a.g ((a.f.q.1).at_ k oM) ((a.f.1).at_ k oM) (hW k oM)) (fun _ _ a=>eV 11 75 qF (ck a (fun _ ze a=>tN (cv (cK (kQ (lL a [.m 62 5] (bD 63 ((k:Nat)+1) (k+1) ?_))))))))))))))))));refine lL a [.m 5 63] (lD ?_);intro a_ ka;refine ⟨_,_,?_,⟨k+1,ze,rfl,rfl,a.to _ _,oM⟩,ka.to _ kR⟩
 omega
theorem qj (ok:ByteArray→Prop):∀ (d:Nat) (e c:RTm) (t:Tm) (w:World) (h:Hp),G w h→RmH d h e t→RmH d h c t→WfT ok d t→Calls Tryz.prog 32 #[bE e,bE c] w (Ret w h (fun v _=>v=.bool true))
  | 0,_,_,_,_,_,_,x,_,_=>x.elim
  | d + 1,e,c,t,w,h,g,x,y,wf=>by
    obtain ⟨op,n,b1,H,zn1,I,O,dn1,o,q,s,Z,e1,L,ks,rfl,rfl,⟨b,⟨A1,c1,D1,d1,q1,p,D,U,j⟩,V⟩,bd,f,J⟩:=x.open;obtain ⟨op',n',b2,B,zn2,l,M,dn2,Q,q',s',X,e2,u,ks',rfl,ht,⟨a,⟨A2,c2,D2,d2,q2,z,F,C,i⟩,W⟩,bb,k,K⟩:=y.open
    injection ht with t1 t2 t3 t4 t5
    subst t1 t2 t3 t4 t5;cases q1
    cases q2
    obtain ⟨w1,w2,w3,w4,w5,w6,w7,w8,Y⟩:=wf
    have S:ks.length≤2:=by
      have e1:d8 op=ks.length:=w1;have:=aE op
      omega
    by_cases hz:q.num=0
    · exact Ao ok d (fun e c t w h=>qj ok d e c t w h) op n q s ks w3 H I _ O o p D Z e1 L B l _ M Q z F X e2 u hz S Y w h g U j f J C i k K
    · have h1:b=true:=by
        cases b
        · exact MO (Ma.2 (V rfl)) hz
        · rfl
      have h2:a=true:=by
        cases a
        · exact MO (Ma.2 (W rfl)) hz
        · rfl
      subst h1 h2;exact Ca ok d (fun e c t w h=>qj ok d e c t w h) op n q s ks w3 H I O o p D Z e1 L B l M Q z F X e2 u hz S Y w h g U j f J C i k K
theorem tj  (ok:ByteArray→Prop)(d:Nat)(p:PTm)(t:Tm)(r:RTm)(i:WfT ok d t)(w:World)(h:Hp)(g:G w h)(j:TmH d h p t)(hR:RmH d h r t):CV 12 #[az p,bE r] w h (.bool true):=by
 have a:=(((sS g).add (K:=fun b=>TmH d b p t) j).add (K:=fun b=>RmH d b r t) hR);refine go Tryz.func12 [(0,az p),(1,bE r)] rfl (av (lA 2 43 (bg p) a (fun o w2 u a=>lA 3 31 (bU r) a (fun y x k a=>lL a [.v 4 qF] (ah (cR 4 [] mixed a ar ?_))))));refine eO 0 5 [(1,0,9)] (az p) a (eO 2 7 [(0,0,7)] (bE r) a (eC 1 6 a (fun _ _ a=>oS ok d p t _ _ a.g a.f.2.1 i) ?_));rintro _ _ _ l z a ⟨e,rfl,c⟩;replace a:=(a.add (K:=fun b=>RmH d b e t) c);exact aq 3 8 a (fun _ _ a=>qj ok d e r t _ _ a.g a.f.1 a.f.2.1 i) (fun B _ a=>ck a (fun _ _ a=>tV 4 4 qT (tN (kX (a.ret [] qT rfl)))))
structure PtJ (er:Int) (h:Hp) (p:PTm) (t:Tm):Prop where
  get:er=0→TmH 8 h p t
theorem PtJ.gw {a:Int}{h h':Hp}{p:PTm}{t:Tm}(x:PtJ a h p t)(u:Gw h h'):PtJ a h' p t:=⟨fun e=>(x.get e).gw u⟩
structure RtJ (er:Int) (h:Hp) (p:RTm) (t:Tm):Prop where
  get:er=0→RmH 8 h p t
theorem RtJ.gw {a:Int}{h h':Hp}{p:RTm}{t:Tm}(x:RtJ a h p t)(u:Gw h h'):RtJ a h' p t:=⟨fun e=>(x.get e).gw u⟩
section
variable {sm ok:ByteArray→Prop} {d:Nat} {t:Tm}
theorem fQ (a:SmT1 sm d t)(x:WfT ok d t∧bp d t≤1000):WfT ok d (aw d t)∧bp d (aw d t)≤1000:=by
 have f:=eg (io x.1 a);exact ⟨(f.1.mono (show _≤3000 by have:=x.2;omega) (ey _)).wf,ez f.2 x.2⟩
theorem xj (a:SmT1 sm d t)(x:WfT ok d t∧bp d t≤1000):t6 ok d t∧WfT ok d (aw d t):=⟨wK (io x.1 a) x.2,(fQ a x).1⟩
theorem nQ (a:SmT1 sm d t)(x:WfT ok d t∧bp d t≤1000):aw d (aw d t)=aw d t:=mn (lr (io x.1 a))
theorem CD (a:SmT1 sm d t)(x:WfT ok d t∧bp d t≤1000)(y:WfT ok d (aw d t)∧bp d (aw d t)≤1000):t6 ok d (aw d t)∧WfT ok d (aw d (aw d t)) :=
 ⟨vn (ey _) y.1.wfq y.2 (lr (io x.1 a)),by rw[nQ a x];exact y.1⟩
theorem sJ {L:List PLt}{e1 e2:Int}{e i:Rat}(c:SmT1 sm d t)(x:WfT ok d t∧bp d t≤1000)(a:EvR ok L d t e1 e)(b:EvR ok L d (aw d t) e2 i)(h:e1=0):e2=0∧e=i:=by
 have f:=a.get x;rw[h] at f
 have v:=il (io x.1 c) f;rw[b.get (fQ c x)] at v
 injection v with v1 v2
 exact ⟨v1,v2.symm⟩
theorem PlE.zero {a:Int}(x:PlE ok d t a)(h:WfT ok d t∧bp d t≤1000):a=0:=by
 rcases x with ⟨x1,rfl⟩|⟨x1,rfl⟩
 ·rfl
 ·exact MO h x1
end
theorem HN  (sm:ByteArray→Prop)(d:Nat)(M:∀ (p1 p2:PTm) (t:Tm) (w:World) (h:Hp),G w h→TmH d h p1 t→TmH d h p2 t→iF sm d t→Calls Tryz.prog 14 #[az p1,az p2] w (Ret w h (fun v _=>v=.bool true)))(p u:Option Addr)(c1 c2:Nat)(a c:List PTm)(ks:List Tm)(L:ks.length≤3)(Q:∀ i,i<ks.length→iF sm d (ks.getD i bv))(w:World)(h:Hp)(g:G w h)(C:SlO 9 bg au h p a)(F:SlO 9 bg au h u c)(B:Tms d h a ks)(x:Tms d h c ks):CV 39 #[.slice p a.length c1,.slice u c.length c2,.func (.func 14) #[] #[]] w h (.bool true):=by
 have b:=(((((sS g).aS C).aS F).add (K:=fun e=>Tms d e a ks) B).add (K:=fun e=>Tms d e c ks) x);have I:=(b.f.2.1).len;have H:=(b.f.1).len;refine go Tryz.func39 [(0,qS p a.length c1),(1,qS u c.length c2),(2,.func (.func 14) #[] #[])] rfl (aa b [.v 6 qF] (ah (aa b [.m 10 0,.v 11 (nV a.length),.m 12 1,.v 13 (nV c.length)] ?_)));cases l:((a.length:Int) != (c.length:Int))
 ·
  have y:=aJ l;refine lB 14 l (af (cK (cQ (aa b [.m 15 0,.v 16 (nV a.length),.v 17 (iV 0)] (a8 ?_)))));refine bH _ (CG.loop (fun D Γ U=>∃ (k:Nat) (e:Hp),D=a.length-k∧Γ=[(1,qS u c.length c2),(2,.func (.func 14) #[] #[]),(15,qS p a.length c1),(16,nV a.length),(17,nV k)]∧SS w h U e [] [] [fun e=>Tms d e c ks,fun e=>Tms d e a ks,fun e=>SlO 9 bg au e u c,fun e=>SlO 9 bg au e p a]∧k≤a.length) _ ⟨0,h,rfl,rfl,b.to _ _,K7 _⟩ ?_);rintro _ _ w2 ⟨k,X,O,rfl,b,Y⟩;refine av ?_;cases j:(decide ((k:Int)<(a.length:Int)))
  ·
   have z:=oF j;refine lB 18 j (ah (cv (CG.exit ?_)))
   show CG _ _ _ _ _ _ _ _
   exact aa b [.v 6 qT] (ac b [] qT rfl)
  have z:=oT j;refine lB 18 j (ah (ce (cK (cQ (kZ (aa b [.m 19 17] (lX 20 p a.length c1 9 (k:Nat) k ((b.f.r.2.1).ok oM) ?_)))))));refine lH 21 (az (a.getD k au)) b ((b.f.r.2.1).el k oM) (lA 8 43 dS b (fun Z W h8 b=>lL b [.m 7 19] (lP 0 0 (bg (a.getD k au)) b (fun w9 b=>aI (lL b [.m 22 1,.m 23 7] (lX 24 u c.length c2 9 (k:Nat) k ((b.f.r.1).ok oM) ?_))))));refine lH 25 (az (c.getD k au)) b ((b.f.r.1).el k oM) (lA 9 43 dS b (fun J _ _ b=>lP 0 0 (bg (c.getD k au)) b (fun _ b=>aI (lL b [.m 26 2,.o 27 (az (a.getD k au)) 1 0 9,.o 28 (az (c.getD k au)) 0 0 9] (ag 29 b (M (a.getD k au) (c.getD k au) (ks.getD k bv) _ _ b.g ((b.f.2.1).at_ k oM) ((b.f.1).at_ k oM) (Q k oM)) (fun _ za b=>lL b [.v 30 qF] (af (cK (kQ (bD 31 ((k:Nat)+1) (k+1) ?_))))))))));refine lL b [.m 17 31] (lD ?_);intro V S;replace b:=b.drop 2 0;refine ⟨_,_,?_,⟨k+1,za,rfl,rfl,b.to _ _,oM⟩,S.to _ kR⟩
  omega
 have y:=aW l;refine lB 14 l (ak (aa b [.v 6 qF] (lN (kX ?_))))
 exfalso;omega
theorem CC  (sm:ByteArray→Prop)(d:Nat)(M:∀ (p1 p2:PTm) (t:Tm) (w:World) (h:Hp),G w h→TmH d h p1 t→TmH d h p2 t→iF sm d t→Calls Tryz.prog 14 #[az p1,az p2] w (Ret w h (fun v _=>v=.bool true)))(op n:Int)(q:Rat)(s:ByteArray)(k l:Option Addr)(c1 c2:Nat)(c b:List PTm)(ks:List Tm)(Q:ks.length≤3)(U : -1000≤op∧op≤1000)(W : -1000≤n∧n≤1000)(I:LQ 3000 q)(S:sm s)(O:∀ i,i<ks.length→iF sm d (ks.getD i bv))(w:World)(h:Hp)(g:G w h)(C:SlO 9 bg au h k c)(F:SlO 9 bg au h l b)(y:Tms d h c ks)(p:Tms d h b ks):CV 14 #[pW op n q s k c.length c1,pW op n q s l b.length c2] w h (.bool true):=by
 have a:=(((((sS g).aS C).aS F).add (K:=fun D=>Tms d D c ks) y).add (K:=fun D=>Tms d D b ks) p);have L:=(a.f.2.1).len;have J:=(a.f.1).len;refine go Tryz.func14 [(0,pW op n q s k c.length c1),(1,pW op n q s l b.length c2)] rfl (av (lA 2 43 (pG op n q s k c.length c1) a (fun x w2 X a=>lA 3 43 (pG op n q s l b.length c2) a (fun B Y V a=>lL a [.v 4 qF] (aI (lL a [.v 5 (pB x),.o 6 (iV op) 1 0 1,.v 7 (pB B),.o 8 (iV op) 0 0 1] ?_))))));cases e:((op:Int) == (op:Int))
 ·
  have u:=ae e;refine lB 9 e (lL a [.m 10 9] (lG 11 ?_));refine lG 12 (lG 13 (lG 14 (lG 15 (lL a [.v 16 qF,.m 17 16] (lG 18 ?_)))));refine lG 19 (lG 20 (lG 21 (lG 22 (lL a [.v 23 qF,.m 24 23] (lG 25 ?_)))));refine lG 26 (lG 27 (lG 28 (lG 29 (lG 30 (lL a [.v 31 qF,.m 32 31] (lG 33 ?_))))));refine lG 34 (lG 35 (lG 36 (lG 37 (lL a [.v 38 qF,.m 4 38] (lN (kX ?_))))))
  exfalso;omega
 have u:=ML e;refine lB 9 e (lL a [.m 10 9,.v 11 (qP x 1),.o 12 (iV n) 1 1 1,.v 13 (qP B 1),.o 14 (iV n) 0 1 1] ?_);cases j:((n:Int) == (n:Int))
 ·
  have z:=ae j;refine lB 15 j (lL a [.v 16 qF,.m 17 16] (lG 18 ?_));refine lG 19 (lG 20 (lG 21 (lG 22 (lL a [.v 23 qF,.m 24 23] (lG 25 ?_)))));refine lG 26 (lG 27 (lG 28 (lG 29 (lG 30 (lL a [.v 31 qF,.m 32 31] (lG 33 ?_))))));refine lG 34 (lG 35 (lG 36 (lG 37 (lL a [.v 38 qF,.m 4 38] (lN (kX ?_))))))
  exfalso;omega
 have z:=ML j;refine lB 15 j (lL a [.v 16 qT,.m 17 16,.v 18 (qP x 7),.o 19 (.string s) 1 7 1,.v 20 (qP B 7),.o 21 (.string s) 0 7 1] (lV 22 qT ?_ (hr:=rb kR (E9 s))));exact lL a [.v 23 qT,.m 24 23,.v 25 (qP x 2),.o 26 (qv q) 1 2 5,.v 27 (qP B 2),.o 28 (qv q) 0 2 5] (ag 29 a ((by have H:=uE q q (I.mono oM) (I.mono oM) _ _ a.g;rw[gk.2 rfl] at H;exact H)) (fun Z _ a=>lL a [.v 30 qT,.v 31 qT,.m 32 31,.v 33 (qP x 8),.o 34 (qS k c.length c1) 1 8 1,.v 35 (qP B 8),.o 36 (qS l b.length c2) 0 8 1] (ag 37 a (HN sm d M k l c1 c2 c b ks oM O _ _ a.g a.f.r.2.1 a.f.r.1 a.f.2.1 a.f.1) (fun _ _ a=>lL a [.v 38 qT,.m 4 38] (ac a [] qT rfl)))))
theorem qK (sm:ByteArray→Prop):∀ (d:Nat) (b f:PTm) (t:Tm) (w:World) (h:Hp),G w h→TmH d h b t→TmH d h f t→iF sm d t→Calls Tryz.prog 14 #[az b,az f] w (Ret w h (fun v _=>v=.bool true))
  | 0,_,_,_,_,_,_,x,_,_=>x.elim
  | d+1,b,f,t,w,h,g,x,y,wf=>by
    obtain ⟨op,n,q,s,B,c1,k,ks,rfl,rfl,L,j,c⟩:=x.open;obtain ⟨o,O,M,K,D,c2,i,J,rfl,e,u,l,a⟩:=y.open
    injection e with e1 e2 e3 e4 e5
    subst e1 e2 e3 e4 e5;obtain ⟨C,I,z,p,F,H⟩:=wf;exact CC sm d (fun b f t w h=>qK sm d b f t w h) op n q s B D c1 c2 k i ks C I z p F H w h g j l c a
theorem pi (A0:Option Addr)(c0:Nat)(M:List Int)(A1:Option Addr)(c1:Nat)(H:List Int)(hc1:H.length≤c1)(I at_ F:Int)(hl0:M.length≤9223372036854775807)(hz0:kM M)(hl1:H.length≤9223372036854775807)(hz1:kM H)(w:World)(h:Hp)(g:G w h)(hA0:Si A0 M h)(hA1:Si A1 H h)(tb:Tab h):CV 3 #[.slice A0 M.length c0,.slice A1 H.length c1,iV I,iV at_,iV F] w h (.bool true):=by
 have a:=((((sS g).aS hA0).aS hA1).aB tb);refine go Tryz.func3 [(0,qS A0 M.length c0),(1,qS A1 H.length c1),(2,iV I),(3,iV at_),(4,iV F)] rfl (aa a [.v 10 qF] (aI (lL a [.m 24 0] (lC 25 a (FF A0 c0 M hl0 hz0 4 kD _ _ a.g a.f.r.1) ?_))));rintro _ w1 h2 a ⟨r0,t0,rfl,hR,hG0⟩;replace a:=(a.add (K:=fun j=>RmH 5 j r0 t0) hR);refine lL a [.m 26 2,.m 27 3,.m 28 4] (lC 29 a (oH 5 r0 t0 I at_ F _ _ a.g a.f.1 hG0.1) ?_);rintro _ w3 h4 a ⟨C,d,rfl,hrk⟩;replace a:=(a.add (K:=fun j=>SpO 5 j C d) hrk);have b:SmT1 fi 8 d:=(a.f.1).2;refine lA 11 31 ea a (fun b5 w6 h7 a=>lP 0 0 (bU C) a (fun w8 a=>aI (lL a [.o 31 (bE C) 0 0 7] (lC 32 a (nF fi 8 C d _ _ a.g (a.f.1).1 b.sm a.f.r.1) ?_))));rintro _ w9 _ a ⟨Z,rfl,V⟩;replace a:=(a.add (K:=fun j=>TmH 8 j Z d) V);refine lC 33 a (rC 8 Z d kD (xj b) _ _ a.g a.f.1 b.sm a.f.r.2.1) ?_;rintro _ _ _ a ⟨e,er,rfl,c,W,hp0⟩;have hpt:PtJ er _ e (aw 8 d):=⟨W⟩;replace a:=(a.add (K:=fun j=>PtJ er j e (aw 8 d)) hpt);refine lL a [.m 30 33,.v 34 (az e),.v 35 (iV er)] (lA 12 43 dS a (fun zm _ _ a=>lP 0 0 (bg e) a (fun _ a=>lL a [.m 13 35] (aI (lL a [.o 37 (bE C) 1 0 7] (lC 38 a (Cd 8 C d kD (fun x=>(xj b x).1) _ _ a.g (a.f.r.1).1 b.sm) ?_))))));rintro _ _ _ a ⟨J,u,rfl,S,bk⟩;have hrt:RtJ u _ J (aw 8 d):=⟨bk⟩;replace a:=(a.add (K:=fun j=>RtJ u j J (aw 8 d)) hrt);have hee:=c.uniq S;refine lL a [.m 36 38,.v 39 (bE J),.v 40 (iV u)] (lA 14 31 ea a (fun zn _ _ a=>lP 0 0 (bU J) a (fun _ a=>lL a [.m 15 40] (ah (av (ag 41 a (uO _ _ a.g) (fun _ _ a=>lL a [.v 42 qF,.m 43 42,.m 44 13,.m 45 15] ?_)))))));have zc:((er:Int) != (u:Int))=false:=mE hee;have bq:=aJ zc;refine lB 46 zc (lL a [.v 47 qF] (af (cK (cQ (aa a [.m 48 15] ?_)))));cases za:((u:Int) != (0:Int))
 ·
  have zj:=aJ za;refine lB 49 za (af (cK (aa a [.m 54 1] (lC 55 a (Hs A1 c1 H hc1 3 oM hl1 hz1 _ _ a.g a.f.q.r.1 a.f.q.2.1) ?_))));rintro _ _ _ a ⟨LA,cL,RA,cQ_,L,bl,rfl,hcL,hcQ,Y,hL,hLr,hRL⟩;replace a:=(((a.aS hL).aS hLr).add (K:=fun j=>RLs j bl L) hRL);have hLl:L.length=3:=by rw[Y,jB]
  have k:∀ i,LQ (3002-2) (L.getD i ca).q:=fun i=>by rw[Y];exact (rQ _ _ i).mono kD
  refine lL a [.m 53 55,.v 56 (qS LA L.length cL),.v 57 (qS RA bl.length cQ_),.m 16 56,.m 17 57] (lN (bH [(10,qF),(11,pB b5),(12,pB zm),(14,pB zn),(16,qS LA L.length cL)] ?_));refine aa a [.o 59 (bE C) 2 0 7] (lC 60 a (nF fi 8 C d _ _ a.g (a.f.q.r.1).1 b.sm a.f.q.q.1) ?_);rintro _ _ _ a ⟨O,rfl,bd⟩;replace a:=(a.add (K:=fun j=>TmH 8 j O d) bd);refine lL a [.m 61 16] (lC 62 a (sH bI fi wm LA cL L oM 3002 kD kD k 8 O d kD _ _ a.g a.f.1 b.sm a.f.r.2.1 a.f.q.q.2.1) ?_);rintro _ _ _ a ⟨e1,X,rfl,p⟩;refine lL a [.m 58 62,.v 63 (qv X),.v 64 (iV e1)] (lA 18 40 da a (fun b33 _ _ a=>lP 0 0 (qc X) a (fun _ a=>lL a [.m 19 64] (aI (lL a [.o 66 (az e) 2 0 9,.m 67 16] (lC 68 a (sH bI fi wm LA cL L oM 3002 kD kD k 8 e (aw 8 d) kD _ _ a.g ((a.f.q.2.1).get oM) (jP (fQ b (c.ok oM)).1) a.f.r.2.1 a.f.q.q.2.1) ?_))))));rintro _ _ _ a ⟨e2,x2,rfl,y⟩;refine lL a [.m 65 68,.v 69 (qv x2),.v 70 (iV e2)] (lA 20 40 da a (fun b39 _ _ a=>lP 0 0 (qc x2) a (fun _ a=>lL a [.m 21 70] (aI (lL a [.o 72 (az e) 3 0 9] (lC 73 a (rC 8 e (aw 8 d) kD (CD b (c.ok oM)) _ _ a.g ((a.f.q.2.1).get oM) (jP (fQ b (c.ok oM)).1) a.f.q.q.2.1) ?_))))));rintro _ _ _ a ⟨B,l,rfl,Q,D,b0⟩;have bb:PtJ l _ B (aw 8 (aw 8 d)):=⟨D⟩;replace a:=(a.add (K:=fun j=>PtJ l j B (aw 8 (aw 8 d))) bb);have z:l=0:=Q.zero (fQ b (c.ok oM));refine lL a [.m 71 73,.v 74 (az B),.v 75 (iV l)] (lA 22 43 dS a (fun b45 _ _ a=>lP 0 0 (bg B) a (fun _ a=>lL a [.m 23 75] (aI (lL a [.o 76 (az e) 4 0 9,.o 77 (bE J) 3 0 7] (ag 78 a (tj (fun s=>bI s=true) 8 e (aw 8 d) J (fQ b (c.ok oM)).1 _ _ a.g ((a.f.q.r.1).get oM) ((a.f.q.2.1).get oM)) (fun _ _ a=>lL a [.m 79 78,.m 80 19] ?_)))))));cases zb:((e1:Int) != (0:Int))
  ·
   have zk:=aJ zb;refine lB 81 zb (lL a [.m 82 81,.m 83 21] ?_);have zd:((e2:Int) == (0:Int))=true:=fg (sJ b (c.ok oM) p y oM).1;have br:=ML zd;refine lB 84 zd (lL a [.m 85 84,.o 86 (qv X) 2 0 5,.o 87 (qv x2) 1 0 5] (ag 88 a (uE X x2 ((p.lq kD k).mono kD) ((y.lq kD k).mono kD) _ _ a.g) (fun _ _ a=>?_)));have ze:((cX X x2:Int) == (0:Int))=true:=fg (gk.2 (sJ b (c.ok oM) p y oM).2);have bw:=ML ze;refine lB 89 ze (lL a [.v 90 qT,.v 91 qT,.v 92 qT,.m 93 92,.m 94 23] ?_);have zf:((l:Int) == (0:Int))=true:=fg z;have bm:=ML zf;refine lB 95 zf (lL a [.v 96 qT,.m 97 96,.o 98 (az B) 0 0 9,.o 99 (az e) 4 0 9] (ag 100 a (qK fi 8 B e (aw 8 d) _ _ a.g (by have U:=(a.f.1).get z;rw[nQ b (c.ok oM)] at U;exact U) ((a.f.q.r.1).get oM) (jP (fQ b (c.ok oM)).1)) (fun _ _ a=>lL a [.v 101 qT,.m 10 101] (lN (bH [(10,qT)] ?_)))));exact kX (a.ret [] qT rfl)
  have zk:=aW zb;refine lB 81 zb (lL a [.m 82 81] (lG 83 ?_));refine lG 84 (lG 85 (lG 86 (lG 87 (lG 88 (lG 89 (lG 90 (lL a [.v 91 qT,.v 92 qT,.m 93 92,.m 94 23] ?_)))))));have zg:((l:Int) == (0:Int))=true:=fg z;have bn:=ML zg;refine lB 95 zg (lL a [.v 96 qT,.m 97 96,.o 98 (az B) 0 0 9,.o 99 (az e) 4 0 9] (ag 100 a (qK fi 8 B e (aw 8 d) _ _ a.g (by have U:=(a.f.1).get z;rw[nQ b (c.ok oM)] at U;exact U) ((a.f.q.r.1).get oM) (jP (fQ b (c.ok oM)).1)) (fun _ _ a=>lL a [.v 101 qT,.m 10 101] (lN (bH [(10,qT)] ?_)))));exact kX (a.ret [] qT rfl)
 have zj:=aW za;refine lB 49 za (ak (aa a [.v 50 (pB zm),.o 51 (iV e.op) 1 0 1] ?_));have zi:((e.op:Int) == (0:Int))=true:=fg (by rw[hp0 oM];rfl);have bt:=ML zi;exact lB 52 zi (lL a [.m 10 52] (ac a [] qT rfl))
end Go.Proofs.YtnflfcbfifhpaaaGreatDoor
