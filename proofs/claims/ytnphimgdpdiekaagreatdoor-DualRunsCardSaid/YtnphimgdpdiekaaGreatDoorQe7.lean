/- Laws of this claim, part 8. -/
import Derived.Test.YtnphimgdpdiekaaGreatDoorQe0
import Derived.Test.YtnphimgdpdiekaaGreatDoorQe1
import Derived.Test.YtnphimgdpdiekaaGreatDoorQe2
import Derived.Test.YtnphimgdpdiekaaGreatDoorQe3
import Derived.Test.YtnphimgdpdiekaaGreatDoorQe4
import Derived.Test.YtnphimgdpdiekaaGreatDoorQe5
import Derived.Test.YtnphimgdpdiekaaGreatDoorQe6
set_option maxRecDepth 100000
set_option maxHeartbeats 4000000
namespace Go.Proofs.YtnphimgdpdiekaaGreatDoor
open Nat renaming zero_le -> MG
open Go.RowKit
open Go.RowKit Go.Shelf
open Go.RowKit Go.WideMaps
theorem DrunR.uniq {d:Nat}{t:Tm}{ns:List ByteArray}{fs:List Rat}{e l:Int}{q j:Rat}{f i:List Rat}(x:DrunR d t ns fs e q f)(y:DrunR d t ns fs l j i):e=l/\q=j/\f=i:=by
 obtain ⟨c,c1,c2⟩:=x;obtain ⟨c',o,h⟩:=y;obtain rfl:=c1.uniq o
 rcases c2 with ⟨h0,a1,a2,a3⟩|⟨h0,a⟩
 ·rcases h with ⟨_,b1,b2,b3⟩|⟨h1,_⟩
  ·exact ⟨a1.trans b1.symm,a2.trans b2.symm,a3.trans b3.symm⟩
  ·exact absurd h1 h0
 ·rcases h with ⟨h1,_⟩|⟨_,b⟩
  ·exact absurd h0 h1
  ·have:=a.trans b.symm
   injection this with p1 p2
   injection p2 with p2 p3
   exact ⟨p1,p2,p3⟩
theorem DrunR.lq {d:Nat}{t:Tm}{ns:List ByteArray}{fs:List Rat}{e:Int}{q:Rat}{f:List Rat}(x:DrunR d t ns fs e q f)(hq:∀ i,LQ 1 (fs.getD i 0))(h:d<=20):LQ 3000 q/\(∀ i,LQ 1000000 (f.getD i 0))/\f.length<=fs.length:=by
 obtain ⟨c,c1,⟨_,_,rfl,rfl⟩|⟨h0,a⟩⟩:=x
 ·exact ⟨jd kD,fun i=>by rw[dB];exact jd kD,MG _⟩
 ·have b:=c1.ok h0
  have wf:=xV b;obtain ⟨_,j,k2⟩:=pD (ix:=bO ns) hq wf;have g:=b.1.2;have e1:q=(bF (bO ns) fs d t).2.1:=congrArg (·.2.1) a;have e2:f=(bF (bO ns) fs d t).2.2:=congrArg (·.2.2) a;rw[e1,e2];refine ⟨j.mono oM,fun i=>(k2 i).mono (by have:=Nat.mul_le_mul g h;omega),?_⟩
  by_cases z:(bF (bO ns) fs d t).1=0
  ·rw[jS wf z];exact Nat.le_refl _
  ·rw[wh z];exact MG _
theorem AQ (way:Int)(w:World)(h:Hp)(g:G w h):CR 6 #[iV way] w h (fun v h1=>∃ (C:Option Addr) (c_:Nat) (ns:List ByteArray),v=.slice C ns.length c_/\ns.length<=c_/\NsD ns/\SlO 1 bB ⟨#[]⟩ h1 C ns):=by
 have a:=sS g;refine go Tryz.func6 [(0,iV way)] rfl (aa a ac (ah (aa a ac (ar 4 a (eL (way) 9 oM oM _ _ a.g) (fun w2 K a=>?_)))));have F:=cO (way) 9 oM;refine aY (ax ?_);cases j:(((aU (way) 9:Nat):Int) == (0:Int))
 .
  have p:=aj j;refine lB 6 j (lL a ac (ag (ax ?_)));cases e:(((aU (way) 9:Nat):Int) == (1:Int))
  .
   have x:=aj e;refine lB 9 e (lL a ac (ag (ax ?_)));cases c:(((aU (way) 9:Nat):Int) == (2:Int))
   .
    have y:=aj c;refine lB 12 c (lL a ac (ag (ax ?_)));cases i:(((aU (way) 9:Nat):Int) == (3:Int))
    .
     have u:=aj i;refine lB 15 i (lL a ac (ag (cK (ax (lC 17 a (AD _ _ a.g) ?_)))));rintro _ J I a ⟨H,rfl,z⟩;replace a:=a.aS z;exact lL a ac (ae a [] (qS (sB H) 3 3) (⟨_,_,dS,rfl,by decide,.inr (.inr (.inr (.inr (.inl rfl)))),a.f.1⟩))
    have u:=eq_of_beq i;refine lB 15 i (lL a ac (ak (ax (lR 16 9 4 ([.string (⟨#[122]⟩),.string (⟨#[121]⟩),.string (⟨#[120]⟩),.string (⟨#[119]⟩)]) a (fun za _ _ a=>?_)))));replace a:=a.aS (SlO.of_flat (sz:=1) (f:=bB) (d:=⟨#[]⟩) (b:=za) (o:=0) (l:=([⟨#[122]⟩,⟨#[121]⟩,⟨#[120]⟩,⟨#[119]⟩]:List ByteArray)) (fun _=>rfl) a.f.1);exact lL a ac (ae a [] (qS (sB za) 4 4) (⟨_,_,([⟨#[122]⟩,⟨#[121]⟩,⟨#[120]⟩,⟨#[119]⟩]:List ByteArray),rfl,by decide,.inr (.inr (.inr (.inl rfl))),a.f.1⟩))
   have y:=eq_of_beq c;refine lB 12 c (lL a ac (ak (ax (lR 13 9 4 ([.string (⟨#[109,97,120]⟩),.string (⟨#[120]⟩),.string (⟨#[121]⟩),.string (⟨#[122]⟩)]) a (fun zb _ _ a=>?_)))));replace a:=a.aS (SlO.of_flat (sz:=1) (f:=bB) (d:=⟨#[]⟩) (b:=zb) (o:=0) (l:=([⟨#[109,97,120]⟩,⟨#[120]⟩,⟨#[121]⟩,⟨#[122]⟩]:List ByteArray)) (fun _=>rfl) a.f.1);exact lL a ac (ae a [] (qS (sB zb) 4 4) (⟨_,_,([⟨#[109,97,120]⟩,⟨#[120]⟩,⟨#[121]⟩,⟨#[122]⟩]:List ByteArray),rfl,by decide,.inr (.inr (.inl rfl)),a.f.1⟩))
  have x:=eq_of_beq e;refine lB 9 e (lL a ac (ak (ax (lR 10 9 4 ([.string (⟨#[120]⟩),.string (⟨#[121]⟩),.string (⟨#[122]⟩),.string (⟨#[120]⟩)]) a (fun B _ _ a=>?_)))));replace a:=a.aS (SlO.of_flat (sz:=1) (f:=bB) (d:=⟨#[]⟩) (b:=B) (o:=0) (l:=([⟨#[120]⟩,⟨#[121]⟩,⟨#[122]⟩,⟨#[120]⟩]:List ByteArray)) (fun _=>rfl) a.f.1);exact lL a ac (ae a [] (qS (sB B) 4 4) (⟨_,_,([⟨#[120]⟩,⟨#[121]⟩,⟨#[122]⟩,⟨#[120]⟩]:List ByteArray),rfl,by decide,.inr (.inl rfl),a.f.1⟩))
 have p:=eq_of_beq j;refine lB 6 j (lL a ac (ak (ax (lR 7 9 2 ([.string (⟨#[120]⟩),.string (⟨#[121]⟩)]) a (fun D _ _ a=>?_)))));replace a:=a.aS (SlO.of_flat (sz:=1) (f:=bB) (d:=⟨#[]⟩) (b:=D) (o:=0) (l:=([⟨#[120]⟩,⟨#[121]⟩]:List ByteArray)) (fun _=>rfl) a.f.1);exact lL a ac (ae a [] (qS (sB D) 2 2) (⟨_,_,([⟨#[120]⟩,⟨#[121]⟩]:List ByteArray),rfl,by decide,.inl rfl,a.f.1⟩))
theorem xZ (A:Option Addr)(c:Nat)(d:List Int)(n:Nat)(way:Int)(hn:n<=100)(y:d.length<=9223372036854775807)(hz:oQ d)(w:World)(h:Hp)(g:G w h)(B:Si A d h):CR 7 #[.slice A d.length c,nV n,iV way] w h (fun v h1=>∃ (x:Option Addr) (c_:Nat) (ts:List RT) (fs:List Rat),v=.slice x ts.length c_/\ts.length<=c_/\Sr x ts h1/\RTs h1 ts fs/\(∀ i,LQ 1 (fs.getD i 0))/\fs.length<=n+1):=by
 have a:=((sS g).aS B);refine go Tryz.func7 [(0,qS A d.length c),(1,nV n),(2,iV way)] rfl (aa a ac (ah (aa a ac (ar 8 a (eL (way) 11 oM oM _ _ a.g) (fun w2 F a=>?_)))));have z:=cO (way) 11 oM;cases b:(((aU (way) 11:Nat):Int) == (10:Int))
 .
  have o:=aj b;refine lB 9 b (ag (cK (aa a aD (lC 14 a (Jx A c d n oM y hz _ _ a.g a.f.1) ?_))));rintro _ H D a ⟨u,p,tr,rfl,e,l,j⟩;replace a:=((a.aS l).aT j);exact lL a ac (ae a [] (qS u tr.length p) (⟨_,_,tr,_,rfl,e,a.f.2.1,a.f.1,oo _ _,by rw[lJ];omega⟩))
 have o:=eq_of_beq b;refine lB 9 b (ak (kQ (lL a ac (bh 11 ((n:Nat)+1) (n+1) ?_))));refine lL a ac (aG (lL a aD (lC 14 a (Jx A c d (n+1) oM y hz _ _ a.g a.f.1) ?_)));rintro _ C I a ⟨u,p,tr,rfl,e,l,j⟩;replace a:=((a.aS l).aT j);exact lL a ac (ae a [] (qS u tr.length p) (⟨_,_,tr,_,rfl,e,a.f.2.1,a.f.1,oo _ _,by rw[lJ];omega⟩))
theorem Gz (A:Option Addr)(b:Nat)(d:List Int)(y:d.length<=9223372036854775807)(hz:oQ d)(dp:Nat)(hdp:dp<=1000)(w:World)(h:Hp)(g:G w h)(z:Si A d h):CR 5 #[.slice A d.length b,nV dp] w h (fun v h1=>∃ (r:RTm) (t:Tm),v=bJ r/\RmH (dp+1) h1 r t/\GrT (dp+1) t):=by
 have a:=((sS g).aS z);refine go Tryz.func5 [(0,qS A d.length b),(1,nV dp)] rfl (ax (lA 4 31 (bD ⟨0,0,false,none,0,0,none,0,0,⟨#[]⟩,none,0,0⟩) a (fun x w2 D a=>aG (lL a [.c,.v (.agg #[qS A d.length b,iV 0])] (lA 7 69 ([qS A d.length b,iV 0]) a (fun i F C a=>lL a ac (gi 9 (E3 i dp rfl A b d y hz dp rfl hdp 0 (MG _) _ _ a.g (a.own 0) (a.jk 0) a.f.1) ?_)))))));rintro _ B H u ⟨r,t,e,rfl,j,l,hR,p⟩;replace a:=(a.stepM 0 u l).to [⟨i,69,[qS A d.length b,nV e]⟩,⟨x,31,bD ⟨0,0,false,none,0,0,none,0,0,⟨#[]⟩,none,0,0⟩⟩] [];replace a:=(a.add (K:=fun o=>RmH (dp+1) o r t) hR);exact lP 1 0 (bD r) a (fun _ a=>ae a [(1,0,7)] (bJ r) (⟨r,t,rfl,a.f.1,p⟩))
theorem vo (Q:Option Addr)(c0:Nat)(p:List Int)(O:Option Addr)(c1:Nat)(l:List Int)(way at_ by_ d j:Int)(hl0:p.length<=9223372036854775807)(X:oQ p)(hl1:l.length<=9223372036854775807)(hz1:oQ l)(w:World)(h:Hp)(g:G w h)(hA0:Si Q p h)(hA1:Si O l h)(tb:Tab h):CV 3 #[.slice Q p.length c0,.slice O l.length c1,iV way,iV at_,iV by_,iV d,iV j] w h (.bool true):=by
 have a:=((((sS g).aS hA0).aS hA1).aB tb);refine go Tryz.func3 [(0,qS Q p.length c0),(1,qS O l.length c1),(2,iV way),(3,iV at_),(4,iV by_),(5,iV d),(6,iV j)] rfl (aa a ac (aG (lL a ac (lC 24 a (Gz Q c0 p hl0 X 4 kD _ _ a.g a.f.r.1) ?_))));rintro _ w1 h2 a ⟨r0,t0,rfl,hR,hG0⟩;replace a:=(a.add (K:=fun C=>RmH 5 C r0 t0) hR);refine lL a di (lC 28 a (qR 5 r0 t0 way at_ by_ _ _ a.g a.f.1 hG0.1) ?_);rintro _ w3 h4 a ⟨u,z,rfl,hrk⟩;replace a:=(a.add (K:=fun C=>SpO 5 C u z) hrk);refine lA 15 31 (bD ⟨0,0,false,none,0,0,none,0,0,⟨#[]⟩,none,0,0⟩) a (fun b5 w6 h7 a=>lP 0 0 (bD u) a (fun w8 a=>aG (lL a ac (lC 30 a (AQ d _ _ a.g) ?_))));rintro _ w9 _ a ⟨NA,cN,ns,rfl,hcN,e,hN⟩;replace a:=a.aS hN;have bl:=e.len;refine lL a ac (aG (lL a [.c,.c,.v (nV ns.length),.c] (lC 35 a (xZ O c1 l ns.length j oM hl1 hz1 _ _ a.g a.f.q.1) ?_)));rintro _ _ _ a ⟨Ap,cp,tp,fs,rfl,hcp,hAp,Z,b,hfl⟩;replace a:=((a.aS hAp).aT Z);refine lL a ac (aG (lL a [.o (bJ u) 0 0 7] (lC 38 a (tK gm 8 u z _ _ a.g (a.f.r.2.1).1 (SmT1.sm (a.f.r.2.1).2) a.f.q.2.1) ?_)));rintro _ _ _ a ⟨pk,rfl,hpk⟩;replace a:=(a.add (K:=fun C=>TmH 8 C pk z) hpk);refine lL a aD (lC 41 a (GD Ap cp tp fs oM (fun i _=>(b i).mono oM) _ _ a.g a.f.r.1 a.f.2.1 a.f.q.r.1) ?_);rintro _ _ _ a ⟨Ax,cx,rfl,hcx,hAx⟩;replace a:=a.aS hAx;refine lC 42 a (IL 8 pk z kD NA cN ns e fs Ax cx oM b _ _ a.g a.f.2.1 (a.f.q.2.1).2 a.f.q.1 a.f.1 a.f.q.r.2.1) ?_;rintro _ _ _ a ⟨e1,I,U,cg,y,rfl,hSg,x⟩;replace a:=a.aS hSg;obtain ⟨L,D,bk⟩:=x.lq b oM;refine lL a [.c,.v (qY I U y.length cg),.v (iV e1)] (lA 18 47 ([qF,uV 0,eS,uV 0,eS,sZ]) a (fun ze _ _ a=>lP 0 0 (qZ I U y.length cg) a (fun _ a=>lL a ac (aG (lL a [.o (bJ u) 1 0 7,.c,.c] (lC 49 a (Jo 8 u z kD NA cN ns e hcN fs Ap cp tp oM b _ _ a.g (a.f.q.r.1).1 (a.f.q.r.1).2 a.f.q.2.1 a.f.q.1 a.f.r.2.1) ?_))))));rintro _ _ _ a ⟨_,e2,H,Ae,ce,V,G2,rfl,⟨za,zb,M,S,rfl,zi,zj,zk,zm⟩,hce,hAe,Y,B⟩;replace a:=((((a.aS zk).aS zm).aS hAe).aT Y);obtain ⟨J,F,bf⟩:=B.lq b oM;have W:=x.uniq B;refine lL a [.c,.v (rG H za zb M S),.v (qS Ae V.length ce),.v (iV e2)] (lA 20 28 cD a (fun zo _ _ a=>lP 0 0 (gY H za zb M S) a (fun _ a=>lL a aD (lN (bH [(14,qF),(18,pB ze),(19,iV e1),(20,pB zo),(21,qS Ae V.length ce),(22,iV e2)] ?_)))));refine ax (ar 53 a (xo _ _ a.g a.f.q.q.q.1) (fun _ _ a=>lL a di ?_));have zf:((e1:Int) == (e2:Int))=true:=sN W.1;have bb:=eq_of_beq zf;refine lB 57 zf (lL a [.v qT,.c,.v (pB ze),.o (qv I) 1 0 5,.o (rG H za zb M S) 0 0 3] (ar 63 a (xt I H (L.mono oM) (J.mono oM) za zb M S zi zj _ _ a.g a.f.r.2.1 a.f.r.1) (fun _ _ a=>?_)));have zn:(gB I H)=true:=decide_eq_true W.2.1;rw[zn];refine lL a [.v qT,.c,.v (qP ze 5),.o (qS U y.length cg) 1 5 1,.c] (ar 69 a (xz U cg y G2 Ae ce V oM oM (fun i _=>(D i).mono oM) (fun i _=>(F i).mono oM) _ _ a.g a.f.q.1 a.f.2.1 a.f.1) (fun _ _ a=>?_));have zg:(decide (y=G2))=true:=decide_eq_true W.2.2;rw[zg];have bd:=oT zg;exact lL a [.v qT,.c] (ae a [] qT rfl)
end Go.Proofs.YtnphimgdpdiekaaGreatDoor
