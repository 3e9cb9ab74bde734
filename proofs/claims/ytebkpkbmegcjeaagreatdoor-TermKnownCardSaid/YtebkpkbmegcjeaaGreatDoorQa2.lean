/- Laws and contracts that the card of this claim stands on, part 3. No condition of ours. -/
import Derived.Test.YtebkpkbmegcjeaaGreatDoorQa0
import Derived.Test.YtebkpkbmegcjeaaGreatDoorQa1
set_option maxRecDepth 100000
set_option maxHeartbeats 4000000
namespace Go.Proofs.YtebkpkbmegcjeaaGreatDoor
open Go.RowKit
open Go.RowKit Go.Shelf
theorem Ad (b:Nat)(hl:(wds b).length≤1000000000)(hbs:18446744073709551616≤b)(w:World)(h:Hp)(g:G w h):CV 120 #[nv 0,nv b] w h (nv (0+b)):=by
 have hs:=sS g;have h2l:=cG hbs;refine go Tryz.func120 [(0,nv 0),(1,nv b)] rfl (aE (lA 2 24 (nc 0) hs (fun b1 w2 h3 hs=>lA 3 24 (nc b) hs (fun b4 w5 h6 hs=>lA 4 24 ([uV 0,eS]) hs (fun b7 w8 h9 hs=>af (aa hs [.v 12 (qP b1 1),.o 13 (.string (hi 0)) 2 1 1] (lV 14 qT ?_ (hr:=rb kR (f9 rfl)))))))));refine lL hs [.m 15 14,.v 16 (qP b4 1),.o 17 (.string (hi b)) 1 1 1] (lV 18 qF ?_ (hr:=rb kR (fS (dC hbs))));refine lL hs [.v 19 qF] (ah (cK (cQ ?_)));obtain ⟨K_,hK_⟩:∃ K_,K_=w8.heap.size:=⟨_,rfl⟩;have hk_b7:b7<K_:=by rw[hK_];exact dw hs 0
 have hk_b4:b4<K_:=by rw[hK_];exact dw hs 1
 have hk_b1:b1<K_:=by rw[hK_];exact dw hs 2
 refine rL ⟨[],some (K_,[])⟩ 0 mixed ?_;have hszK:=hs.g.size;replace hs:=hs.drew;have hKl:=Nat.le_of_eq hK_;refine zO 0 36 [(2,0,2)] (nv 0) rfl hKl hs (fun p hp=>by obtain rfl:=List.mem_singleton.1 hp;exact hk_b1) (zO 2 38 [(1,0,2)] (nv b) rfl hKl hs (fun p hp=>by obtain rfl:=List.mem_singleton.1 hp;exact hk_b4) (nu 1 37 (gB _ _ hs.g) rfl hKl ?_));rintro _ _ _ u12 hKl rfl;replace hs:=hs.step u12;refine nu 3 39 (du b oM oM _ _ hs.g) rfl hKl ?_;rintro _ _ _ u15 hKl ⟨bw1,rfl,hlo1,hbc1,hsl1⟩;obtain ⟨zj,hs,-,-⟩:=hs.take u15 hlo1 hbc1;replace hs:=hs.to [⟨bw1,22,(wds b).flatMap aj⟩,⟨b7,24,[uV 0,eS]⟩,⟨b4,24,nc b⟩,⟨b1,24,nc 0⟩] [];refine zV 4 7 (sZ) (zV 5 8 (qS (sB bw1) ((wds b).length) ((wds b).length)) (tN (cQ (aa hs [.m 40 7,.v 41 (iV 0),.m 42 8,.v 43 (nV ((wds b).length))] ?_))));have ⟨zf,phb17⟩:=dT (p:=(0:Int)<(((wds b).length:Nat):Int)) oM;refine lB 44 zf (ao (kQ (lL hs [.m 45 8,.m 46 7,.m 7 45,.m 8 46] (aG (lL hs [.v 9 (uV 0)] (af (aa hs [.m 47 7,.v 48 (nV ((wds b).length)),.v 49 (iV 0)] (bn ?_))))))));refine bQ _ (CG.loop (fun μ_ Γ w_=>∃ (i:Nat) (l:List Nat) (cy:Nat) (h_:Hp),μ_=(wds b).length-i∧Γ=[(4,pB b7),(7,qS (sB bw1) ((wds b).length) ((wds b).length)),(8,sZ),(48,nV ((wds b).length)),(49,nV i),(9,mV cy)]∧SS w h w_ h_ [⟨bw1,22,(l).flatMap aj⟩,⟨b7,24,[uV 0,eS]⟩,⟨b4,24,nc b⟩,⟨b1,24,nc 0⟩] [] []∧i≤(wds b).length∧l.length=(wds b).length∧Wd l∧cy≤1∧ak 18446744073709551616 l+18446744073709551616^i*cy=b+ak 18446744073709551616 (([]:List Nat).take i)) _ ⟨0,wds b,0,zj,rfl,rfl,hs.to _ _,Nat.zero_le _,rfl,Wd.wds _,oM,(by have hx_:ak 18446744073709551616 (wds b)=b:=aI _;rw[hx_];simp[ak])⟩ ?_);rintro _ _ _ ⟨i,l,cy,zk,hm20,rfl,hs,hi,hll,hW,hcy,inv⟩;have hlk:=hW.get i;have hyk:=Wd.get (l:=[]) Dg.nil i;refine aE ?_;cases za:(decide ((i:Int)<(((wds b).length:Nat):Int)))
 ·
  have zd:=oF za;refine lB 50 za (af (cw (CG.exit ?_)))
  show CG _ _ _ _ _ _ _ _
  refine cQ (aE ?_);have hE:=inv;rw[List.take_of_length_le (show ([]).length≤i by first|omega|(simp;done)|(simp;omega))] at hE
  rw[show i=l.length by omega] at hE
  have hE_:([]:List Nat)=[]:=rfl;replace hE:ak 18446744073709551616 l+18446744073709551616^l.length*cy=(0+b):=by rw[hE];simp[ak]
  refine lL hs [.m 74 9] ?_;cases zb:((cy:Int) != (0:Int))
  ·
   have ze:=az zb;refine lB 75 zb (ah (cK (aE ?_)));obtain ⟨_,hs,sg24,lo25,bc26⟩:=hs.pub 0;replace hs:=(hs.to [⟨b7,24,[uV 0,eS]⟩,⟨b4,24,nc b⟩,⟨b1,24,nc 0⟩] []).aS (SlO.of_flat (sz:=1) (f:=aj) (d:=0) (b:=bw1) (o:=0) (l:=l) (fun _=>rfl) sg24);exact lL hs [.m 80 7] (ag 81 hs (bR (sB bw1) ((wds b).length) (l) ((wds b).length) ((0+b)) (by first|rfl|assumption|(simp;done)|(simp;omega)|omega) (hW) (by rw[show cy=0 by omega,Nat.mul_zero,Nat.add_zero] at hE;exact hE) sM sM _ _ hs.g hs.f.1) (fun _ _ hs=>lP 0 0 (nc (0+b)) hs (fun _ hs=>ac hs [(0,0,2)] (nv (0+b)) rfl)))
  have ze:=aY zb;refine lB 75 zb (ao (kQ (lL hs [.m 76 7,.m 77 9] (lR 78 22 1 ([mV cy]) hs (fun zl _ _ hs=>BP 79 0 ((wds b).length) zl l aj 0 cy 8 (uV 0) hs hs.f.1 oM oM (fun zm zn _ _ hs hcc40=>?_))))));replace hs:=hs.to [⟨b7,24,[uV 0,eS]⟩,⟨b4,24,nc b⟩,⟨b1,24,nc 0⟩] [];exact lL hs [.m 7 79] (aG (lL hs [.m 80 7] (ag 81 hs (bR zm zn (l++[cy]) ((wds b).length+1) ((0+b)) (by first|rfl|assumption|(simp;done)|(simp;omega)|omega) (Dg.append hW (Dg.one oM)) (by show ak _ (l++[cy])=_;rw[co];show _+_*(cy+_*0)=_;rw[Nat.mul_zero,Nat.add_zero];exact hE) sM sM _ _ hs.g hs.f.1) (fun _ _ hs=>lP 0 0 (nc (0+b)) hs (fun _ hs=>ac hs [(0,0,2)] (nv (0+b)) rfl)))))
 have zd:=oT za;refine lB 50 za (af (ce (cK (cQ (kZ (aa hs [.m 51 49,.m 10 51] (aG (lL hs [.v 11 (uV 0)] (af (aa hs [.m 52 10,.m 53 8,.v 54 (iV 0)] ?_))))))))));have ⟨zg,phb44⟩:=dF (p:=(i:Int)<(0:Int)) oM;refine lB 55 zg (ah (cK (kQ (lL hs [.m 61 7,.m 62 10,.m 63 7,.m 64 10] (lX 65 (sB bw1) ((wds b).length) ((wds b).length) 1 (i:Nat) i rfl ?_)))));refine lQ 66 0 l aj 1 0 i (mV ((l).getD i 0)) hs oM (lL hs [.m 67 11,.m 68 9] ?_);obtain ⟨s45,zc,he47,hl48,hm49,hr50⟩:=cf ((l).getD i 0) 0 cy wM wM oM;refine lV 69 (.tuple #[mV s45,mV zc]) ?_ (hr:=ck kR (hr50 _));refine lL hs [.m 60 69,.v 70 (mV s45),.v 71 (mV zc)] (lX 72 (sB bw1) ((wds b).length) ((wds b).length) 1 (i:Nat) i rfl ?_);refine lW 0 l aj 1 i s45 hs oM (fun _ hs=>?_);have zi:((l).set i s45).length=(wds b).length:=by rw[List.length_set];exact hll
 replace hs:=hs.to [⟨bw1,22,((l).set i s45).flatMap aj⟩,⟨b7,24,[uV 0,eS]⟩,⟨b4,24,nc b⟩,⟨b1,24,nc 0⟩] [];refine lL hs [.m 9 71] (lN (kQ (bH 73 ((i:Nat)+1) (i+1) ?_)));refine lL hs [.m 49 73] (lD ?_);intro a_ ka;refine ⟨_,_,?_,⟨i+1,(l).set i s45,zc,zk,rfl,rfl,hs.to _ _,oM,zi,(hW.set _ oM),oM,(cO oM inv (by first|omega|(have hy0:=bC (l:=([]:List Nat)) (k:=i) (by first|omega|(simp;done));omega)))⟩,ka.to _ kR⟩
 omega
theorem AU (a:Nat)(hl:(wds a).length≤1000000000)(has:18446744073709551616≤a)(w:World)(h:Hp)(g:G w h):CV 120 #[nv a,nv 0] w h (nv (a+0)):=by
 have hs:=sS g;have h2l:=cG has;refine go Tryz.func120 [(0,nv a),(1,nv 0)] rfl (aE (lA 2 24 (nc a) hs (fun b1 w2 h3 hs=>lA 3 24 (nc 0) hs (fun b4 w5 h6 hs=>lA 4 24 ([uV 0,eS]) hs (fun b7 w8 h9 hs=>af (aa hs [.v 12 (qP b1 1),.o 13 (.string (hi a)) 2 1 1] (lV 14 qF ?_ (hr:=rb kR (fS (dC has))))))))));refine lL hs [.m 15 14] (lG 16 ?_);refine lG 17 (lG 18 (lL hs [.v 19 qF] (ah (cK (cQ ?_)))));obtain ⟨K_,hK_⟩:∃ K_,K_=w8.heap.size:=⟨_,rfl⟩;have hk_b7:b7<K_:=by rw[hK_];exact dw hs 0
 have hk_b4:b4<K_:=by rw[hK_];exact dw hs 1
 have hk_b1:b1<K_:=by rw[hK_];exact dw hs 2
 refine rL ⟨[],some (K_,[])⟩ 0 mixed ?_;have hszK:=hs.g.size;replace hs:=hs.drew;have hKl:=Nat.le_of_eq hK_;refine zO 0 36 [(2,0,2)] (nv a) rfl hKl hs (fun p hp=>by obtain rfl:=List.mem_singleton.1 hp;exact hk_b1) (zO 2 38 [(1,0,2)] (nv 0) rfl hKl hs (fun p hp=>by obtain rfl:=List.mem_singleton.1 hp;exact hk_b4) (nu 1 37 (du a oM oM _ _ hs.g) rfl hKl ?_));rintro _ _ _ u12 hKl ⟨bw1,rfl,hlo1,hbc1,hsl1⟩;obtain ⟨_,hs,-,-⟩:=hs.take u12 hlo1 hbc1;replace hs:=hs.to [⟨bw1,22,(wds a).flatMap aj⟩,⟨b7,24,[uV 0,eS]⟩,⟨b4,24,nc 0⟩,⟨b1,24,nc a⟩] [];refine nu 3 39 (gB _ _ hs.g) rfl hKl ?_;rintro _ _ zj u16 hKl rfl;replace hs:=hs.step u16;refine zV 4 7 (qS (sB bw1) ((wds a).length) ((wds a).length)) (zV 5 8 (sZ) (tN (cQ (aa hs [.m 40 7,.v 41 (nV ((wds a).length)),.m 42 8,.v 43 (iV 0)] ?_))));have ⟨zf,phb17⟩:=dF (p:=(((wds a).length:Nat):Int)<(0:Int)) oM;refine lB 44 zf (ah (cK (aa hs [.v 9 (uV 0)] (af (aa hs [.m 47 7,.v 48 (nV ((wds a).length)),.v 49 (iV 0)] (bn ?_))))));refine bQ _ (CG.loop (fun μ_ Γ w_=>∃ (i:Nat) (l:List Nat) (cy:Nat) (h_:Hp),μ_=(wds a).length-i∧Γ=[(4,pB b7),(7,qS (sB bw1) ((wds a).length) ((wds a).length)),(8,sZ),(48,nV ((wds a).length)),(49,nV i),(9,mV cy)]∧SS w h w_ h_ [⟨bw1,22,(l).flatMap aj⟩,⟨b7,24,[uV 0,eS]⟩,⟨b4,24,nc 0⟩,⟨b1,24,nc a⟩] [] []∧i≤(wds a).length∧l.length=(wds a).length∧Wd l∧cy≤1∧ak 18446744073709551616 l+18446744073709551616^i*cy=a+ak 18446744073709551616 (([]:List Nat).take i)) _ ⟨0,wds a,0,zj,rfl,rfl,hs.to _ _,Nat.zero_le _,rfl,Wd.wds _,oM,(by have hx_:ak 18446744073709551616 (wds a)=a:=aI _;rw[hx_];simp[ak])⟩ ?_);rintro _ _ _ ⟨i,l,cy,zk,hm20,rfl,hs,hi,hll,hW,hcy,inv⟩;have hlk:=hW.get i;have hyk:=Wd.get (l:=[]) Dg.nil i;refine aE ?_;cases za:(decide ((i:Int)<(((wds a).length:Nat):Int)))
 ·
  have zd:=oF za;refine lB 50 za (af (cw (CG.exit ?_)))
  show CG _ _ _ _ _ _ _ _
  refine cQ (aE ?_);have hE:=inv;rw[List.take_of_length_le (show ([]).length≤i by first|omega|(simp;done)|(simp;omega))] at hE
  rw[show i=l.length by omega] at hE
  have hE_:([]:List Nat)=[]:=rfl;replace hE:ak 18446744073709551616 l+18446744073709551616^l.length*cy=(a+0):=by rw[hE];simp[ak]
  refine lL hs [.m 74 9] ?_;cases zb:((cy:Int) != (0:Int))
  ·
   have ze:=az zb;refine lB 75 zb (ah (cK (aE ?_)));obtain ⟨_,hs,sg24,lo25,bc26⟩:=hs.pub 0;replace hs:=(hs.to [⟨b7,24,[uV 0,eS]⟩,⟨b4,24,nc 0⟩,⟨b1,24,nc a⟩] []).aS (SlO.of_flat (sz:=1) (f:=aj) (d:=0) (b:=bw1) (o:=0) (l:=l) (fun _=>rfl) sg24);exact lL hs [.m 80 7] (ag 81 hs (bR (sB bw1) ((wds a).length) (l) ((wds a).length) ((a+0)) (by first|rfl|assumption|(simp;done)|(simp;omega)|omega) (hW) (by rw[show cy=0 by omega,Nat.mul_zero,Nat.add_zero] at hE;exact hE) sM sM _ _ hs.g hs.f.1) (fun _ _ hs=>lP 0 0 (nc (a+0)) hs (fun _ hs=>ac hs [(0,0,2)] (nv (a+0)) rfl)))
  have ze:=aY zb;refine lB 75 zb (ao (kQ (lL hs [.m 76 7,.m 77 9] (lR 78 22 1 ([mV cy]) hs (fun zl _ _ hs=>BP 79 0 ((wds a).length) zl l aj 0 cy 8 (uV 0) hs hs.f.1 oM oM (fun zm zn _ _ hs hcc40=>?_))))));replace hs:=hs.to [⟨b7,24,[uV 0,eS]⟩,⟨b4,24,nc 0⟩,⟨b1,24,nc a⟩] [];exact lL hs [.m 7 79] (aG (lL hs [.m 80 7] (ag 81 hs (bR zm zn (l++[cy]) ((wds a).length+1) ((a+0)) (by first|rfl|assumption|(simp;done)|(simp;omega)|omega) (Dg.append hW (Dg.one oM)) (by show ak _ (l++[cy])=_;rw[co];show _+_*(cy+_*0)=_;rw[Nat.mul_zero,Nat.add_zero];exact hE) sM sM _ _ hs.g hs.f.1) (fun _ _ hs=>lP 0 0 (nc (a+0)) hs (fun _ hs=>ac hs [(0,0,2)] (nv (a+0)) rfl)))))
 have zd:=oT za;refine lB 50 za (af (ce (cK (cQ (kZ (aa hs [.m 51 49,.m 10 51] (aG (lL hs [.v 11 (uV 0)] (af (aa hs [.m 52 10,.m 53 8,.v 54 (iV 0)] ?_))))))))));have ⟨zg,phb44⟩:=dF (p:=(i:Int)<(0:Int)) oM;refine lB 55 zg (ah (cK (kQ (lL hs [.m 61 7,.m 62 10,.m 63 7,.m 64 10] (lX 65 (sB bw1) ((wds a).length) ((wds a).length) 1 (i:Nat) i rfl ?_)))));refine lQ 66 0 l aj 1 0 i (mV ((l).getD i 0)) hs oM (lL hs [.m 67 11,.m 68 9] ?_);obtain ⟨s45,zc,he47,hl48,hm49,hr50⟩:=cf ((l).getD i 0) 0 cy wM wM oM;refine lV 69 (.tuple #[mV s45,mV zc]) ?_ (hr:=ck kR (hr50 _));refine lL hs [.m 60 69,.v 70 (mV s45),.v 71 (mV zc)] (lX 72 (sB bw1) ((wds a).length) ((wds a).length) 1 (i:Nat) i rfl ?_);refine lW 0 l aj 1 i s45 hs oM (fun _ hs=>?_);have zi:((l).set i s45).length=(wds a).length:=by rw[List.length_set];exact hll
 replace hs:=hs.to [⟨bw1,22,((l).set i s45).flatMap aj⟩,⟨b7,24,[uV 0,eS]⟩,⟨b4,24,nc 0⟩,⟨b1,24,nc a⟩] [];refine lL hs [.m 9 71] (lN (kQ (bH 73 ((i:Nat)+1) (i+1) ?_)));refine lL hs [.m 49 73] (lD ?_);intro a_ ka;refine ⟨_,_,?_,⟨i+1,(l).set i s45,zc,zk,rfl,rfl,hs.to _ _,oM,zi,(hW.set _ oM),oM,(cO oM inv (by first|omega|(have hy0:=bC (l:=([]:List Nat)) (k:=i) (by first|omega|(simp;done));omega)))⟩,ka.to _ kR⟩
 omega
theorem BC (a b:Nat)(hla:(wds a).length≤1000000000)(hlb:(wds b).length≤1000000000)(w:World)(h:Hp)(g:G w h):CV 120 #[nv a,nv b] w h (nv (a+b)):=by
 rcases Nat.lt_or_ge a 18446744073709551616 with h1|h1
 ·rcases Nat.lt_or_ge b 18446744073709551616 with h2|h2
  ·exact B4 a b hla hlb h1 h2 w h g
  ·rcases Nat.eq_zero_or_pos a with h3|h3
   ·subst h3;exact Ad b hlb h2 w h g
   ·exact B5 a b hla hlb h1 h3 h2 w h g
 ·rcases Nat.eq_zero_or_pos b with h3|h3
  ·subst h3;exact AU a hla h1 w h g
  ·exact Da a b hla hlb h1 h3 w h g
theorem kB {l:List Nat}{a b bo:Nat}(hW:Wd l)(inv:ak 18446744073709551616 l+b=a+18446744073709551616^l.length*bo)(hab:b≤a)(hbo:bo≤1):aA l=a-b:=by
 have h1:=bM hW
 have:bo=0:=by
  rcases Nat.eq_zero_or_pos bo with h|h
  ·exact h
  ·have:bo=1:=by omega
   subst this;rw[Nat.mul_one] at inv
   omega
 subst this;rw[Nat.mul_zero,Nat.add_zero] at inv
 show ak _ l=_
 omega
theorem u5 {a b q r:Nat}(h:a=b*q+r)(hr:r<b):q=a/b∧r=a%b:=by
 subst h;rw[Nat.mul_add_div oM,Nat.div_eq_of_lt hr,Nat.mul_add_mod,Nat.mod_eq_of_lt hr];simp
theorem d9 (n:Nat)(hl:(wds n).length≤1000000000)(w:World)(h:Hp)(g:G w h):CR 104 #[nv n] w h (fun v h1=>∃ A c,v=.slice A (wds n).length c∧(wds n).length≤c∧SlO 1 aj 0 h1 A (wds n)):=by
 rcases Nat.eq_zero_or_pos n with h0|h0
 ·subst h0
  refine (gB w h g).mono ?_;rintro _ w' ⟨_,h',rfl,u,rfl⟩;exact ⟨_,h',rfl,u,none,0,rfl,nR _,SlO.nil⟩
 ·refine (du n h0 hl w h g).mono ?_
  rintro _ w' ⟨_,h',rfl,u,b,rfl,_,_,hs⟩;exact ⟨_,h',rfl,u,_,_,rfl,nR _,hs⟩
theorem xc (a b:Nat)(hab:a<b)(hla:(wds a).length≤1000000000)(hlb:(wds b).length≤1000000000)(w:World)(h:Hp)(g:G w h):CV 121 #[nv a,nv b] w h (.tuple #[nv 0,.bool false]):=by
 have hs:=sS g;have hcl:=cH hab;refine go Tryz.func121 [(0,nv a),(1,nv b)] rfl (aE (lA 2 24 (nc a) hs (fun b1 w2 h3 hs=>lA 3 24 (nc b) hs (fun b4 w5 h6 hs=>lA 4 24 ([uV 0,eS]) hs (fun b7 w8 h9 hs=>lL hs [.v 5 qF] (af (aa hs [.o 11 (nv a) 2 0 2,.o 12 (nv b) 1 0 2] (ag 13 hs (jC a b hla hlb _ _ hs.g) (fun _ _ hs=>?_)))))))));have ⟨za,phb12⟩:=dT (p:=(bK a b:Int)<(0:Int)) oM;exact lB 14 za (ao (aa hs [.v 15 (.agg #[uV 0,eS])] (lP 0 0 ([uV 0,eS]) hs (fun _ hs=>lL hs [.v 5 qF] (ac hs [(0,0,2)] (.tuple #[.agg #[uV 0,eS],qF]) rfl)))))
theorem B8 (a b:Nat)(hla:(wds a).length≤1000000000)(hlb:(wds b).length≤1000000000)(hab:b≤a)(has:a<18446744073709551616)(w:World)(h:Hp)(g:G w h):CV 121 #[nv a,nv b] w h (.tuple #[nv (a-b),.bool true]):=by
 have hs:=sS g;have hcl:=d4 hab;refine go Tryz.func121 [(0,nv a),(1,nv b)] rfl (aE (lA 2 24 (nc a) hs (fun b1 w2 h3 hs=>lA 3 24 (nc b) hs (fun b4 w5 h6 hs=>lA 4 24 ([uV 0,eS]) hs (fun b7 w8 h9 hs=>lL hs [.v 5 qF] (af (aa hs [.o 11 (nv a) 2 0 2,.o 12 (nv b) 1 0 2] (ag 13 hs (jC a b hla hlb _ _ hs.g) (fun _ _ hs=>?_)))))))));have ⟨za,phb12⟩:=dF (p:=(bK a b:Int)<(0:Int)) oM;refine lB 14 za (ah (cK (cQ (aa hs [.v 16 (qP b1 1),.o 17 (.string (hi a)) 2 1 1] (lV 18 qT ?_ (hr:=rb kR (f9 (de has))))))));refine ao (aa hs [.v 19 (pB b1),.o 20 (mV (a%18446744073709551616)) 2 0 1,.v 21 (pB b4),.o 22 (mV (b%18446744073709551616)) 1 0 1] (lV 23 (mV ((a%18446744073709551616)-(b%18446744073709551616))) ?_ (hr:=rU ((((a%18446744073709551616:Nat):Int)-((b%18446744073709551616:Nat):Int))) kR (dV (a%18446744073709551616) (b%18446744073709551616) oM oM))));exact lL hs [.v 24 (.agg #[mV ((a%18446744073709551616)-(b%18446744073709551616)),eS])] (lP 0 0 ([mV ((a%18446744073709551616)-(b%18446744073709551616)),eS]) hs (fun _ hs=>lL hs [.v 5 qT] (ac hs [(0,0,2)] (.tuple #[.agg #[mV ((a%18446744073709551616)-(b%18446744073709551616)),eS],qT]) (by rw[Nat.mod_eq_of_lt has,Nat.mod_eq_of_lt (show b<18446744073709551616 by omega),gf oM]))))
theorem Cm (a b:Nat)(hla:(wds a).length≤1000000000)(hlb:(wds b).length≤1000000000)(hab:b≤a)(has:18446744073709551616≤a)(hb0:0<b)(w:World)(h:Hp)(g:G w h):CV 121 #[nv a,nv b] w h (.tuple #[nv (a-b),.bool true]):=by
 have hs:=sS g;have hcl:=d4 hab;have hlm:=bZ hab;refine go Tryz.func121 [(0,nv a),(1,nv b)] rfl (aE (lA 2 24 (nc a) hs (fun b1 w2 h3 hs=>lA 3 24 (nc b) hs (fun b4 w5 h6 hs=>lA 4 24 ([uV 0,eS]) hs (fun b7 w8 h9 hs=>lL hs [.v 5 qF] (af (aa hs [.o 11 (nv a) 2 0 2,.o 12 (nv b) 1 0 2] (ag 13 hs (jC a b hla hlb _ _ hs.g) (fun zl _ hs=>?_)))))))));have ⟨zi,phb12⟩:=dF (p:=(bK a b:Int)<(0:Int)) oM;refine lB 14 zi (ah (cK (cQ (aa hs [.v 16 (qP b1 1),.o 17 (.string (hi a)) 2 1 1] (lV 18 qF ?_ (hr:=rb kR (fS (dC has))))))));refine ah (cK (cQ ?_));obtain ⟨K_,hK_⟩:∃ K_,K_=zl.heap.size:=⟨_,rfl⟩;have hk_b7:b7<K_:=by rw[hK_];exact dw hs 0
 have hk_b4:b4<K_:=by rw[hK_];exact dw hs 1
 have hk_b1:b1<K_:=by rw[hK_];exact dw hs 2
 refine rL ⟨[],some (K_,[])⟩ 0 mixed ?_;have hszK:=hs.g.size;replace hs:=hs.drew;have hKl:=Nat.le_of_eq hK_;refine zO 0 25 [(2,0,2)] (nv a) rfl hKl hs (fun p hp=>by obtain rfl:=List.mem_singleton.1 hp;exact hk_b1) (zO 2 27 [(1,0,2)] (nv b) rfl hKl hs (fun p hp=>by obtain rfl:=List.mem_singleton.1 hp;exact hk_b4) (nu 1 26 (du a oM oM _ _ hs.g) rfl hKl ?_));rintro _ _ _ u15 hKl ⟨bw1,rfl,hlo1,hbc1,hsl1⟩;obtain ⟨_,hs,-,-⟩:=hs.take u15 hlo1 hbc1;replace hs:=hs.to [⟨bw1,22,(wds a).flatMap aj⟩,⟨b7,24,[uV 0,eS]⟩,⟨b4,24,nc b⟩,⟨b1,24,nc a⟩] [];refine nu 3 28 (du b oM oM _ _ hs.g) rfl hKl ?_;rintro _ _ _ u19 hKl ⟨bw2,rfl,hlo2,hbc2,hsl2⟩;obtain ⟨zm,hs,-,-⟩:=hs.take u19 hlo2 hbc2;replace hs:=hs.to [⟨bw2,22,(wds b).flatMap aj⟩,⟨bw1,22,(wds a).flatMap aj⟩,⟨b7,24,[uV 0,eS]⟩,⟨b4,24,nc b⟩,⟨b1,24,nc a⟩] [];refine zV 4 6 (qS (sB bw1) ((wds a).length) ((wds a).length)) (zV 5 7 (qS (sB bw2) ((wds b).length) ((wds b).length)) (xi (lL hs [.v 8 (uV 0)] (af (aa hs [.m 29 6,.v 30 (nV ((wds a).length)),.v 31 (iV 0)] (bn ?_))))));refine bQ _ (CG.loop (fun μ_ Γ w_=>∃ (i:Nat) (l:List Nat) (bo:Nat) (h_:Hp),μ_=(wds a).length-i∧Γ=[(4,pB b7),(5,qF),(6,qS (sB bw1) ((wds a).length) ((wds a).length)),(7,qS (sB bw2) ((wds b).length) ((wds b).length)),(30,nV ((wds a).length)),(31,nV i),(8,mV bo)]∧SS w h w_ h_ [⟨bw2,22,(wds b).flatMap aj⟩,⟨bw1,22,(l).flatMap aj⟩,⟨b7,24,[uV 0,eS]⟩,⟨b4,24,nc b⟩,⟨b1,24,nc a⟩] [] []∧i≤(wds a).length∧l.length=(wds a).length∧Wd l∧bo≤1∧ak 18446744073709551616 l+ak 18446744073709551616 ((wds b:List Nat).take i)=a+18446744073709551616^i*bo) _ ⟨0,wds a,0,zm,rfl,rfl,hs.to _ _,Nat.zero_le _,rfl,Wd.wds _,oM,(by have hx_:ak 18446744073709551616 (wds a)=a:=aI _;rw[hx_];simp[ak])⟩ ?_);rintro _ _ _ ⟨i,l,bo,zg,hm23,rfl,hs,hi,hll,hW,hbo,inv⟩;have hlk:=hW.get i;have hyk:=(Wd.wds b).get i;refine aE ?_;cases za:(decide ((i:Int)<(((wds a).length:Nat):Int)))
 ·
  have ze:=oF za;refine lB 32 za (af (cw (CG.exit ?_)))
  show CG _ _ _ _ _ _ _ _
  refine aE ?_;rw[List.take_of_length_le (show (wds b).length≤i by first|omega|(simp;done)|(simp;omega)),show i=l.length by omega] at inv
  have hE:aA l=a-b:=kB hW (by have hb_:ak 18446744073709551616 (wds b)=b:=aI b;rw[←hb_];exact inv) oM hbo;obtain ⟨_,hs,sg26,lo27,bc28⟩:=hs.pub 1;replace hs:=(hs.to [⟨bw2,22,(wds b).flatMap aj⟩,⟨b7,24,[uV 0,eS]⟩,⟨b4,24,nc b⟩,⟨b1,24,nc a⟩] []).aS (SlO.of_flat (sz:=1) (f:=aj) (d:=0) (b:=bw1) (o:=0) (l:=l) (fun _=>rfl) sg26);exact lL hs [.m 56 6] (ag 57 hs (bR (sB bw1) ((wds a).length) (l) ((wds a).length) ((a-b)) (by first|rfl|assumption|(simp;done)|(simp;omega)|omega) (hW) (hE) sM sM _ _ hs.g hs.f.1) (fun _ _ hs=>lP 1 0 (nc (a-b)) hs (fun _ hs=>lL hs [.v 5 qT] (ac hs [(1,0,2)] (.tuple #[nv (a-b),qT]) rfl))))
 have ze:=oT za;refine lB 32 za (af (ce (cK (cQ (kZ (aa hs [.m 33 31,.m 9 33] (aG (lL hs [.v 10 (uV 0)] (af (aa hs [.m 34 9,.m 35 7,.v 36 (nV ((wds b).length))] ?_))))))))));cases zb:(decide ((i:Int)<(((wds b).length:Nat):Int)))
 ·
  have zf:=oF zb;refine lB 37 zb (ah (cK (kQ (lL hs [.m 43 6,.m 44 9,.m 45 6,.m 46 9] (lX 47 (sB bw1) ((wds a).length) ((wds a).length) 1 (i:Nat) i rfl ?_)))));refine lQ 48 1 l aj 1 0 i (mV ((l).getD i 0)) hs oM (lL hs [.m 49 10,.m 50 8] ?_);obtain ⟨s34,zc,he36,hl37,hm38,hr39⟩:=f5 ((l).getD i 0) 0 bo wM wM oM;refine lV 51 (.tuple #[mV s34,mV zc]) ?_ (hr:=ck kR (hr39 _));refine lL hs [.m 42 51,.v 52 (mV s34),.v 53 (mV zc)] (lX 54 (sB bw1) ((wds a).length) ((wds a).length) 1 (i:Nat) i rfl ?_);refine lW 1 l aj 1 i s34 hs oM (fun _ hs=>?_);have zj:((l).set i s34).length=(wds a).length:=by rw[List.length_set];exact hll
  replace hs:=hs.to [⟨bw2,22,(wds b).flatMap aj⟩,⟨bw1,22,((l).set i s34).flatMap aj⟩,⟨b7,24,[uV 0,eS]⟩,⟨b4,24,nc b⟩,⟨b1,24,nc a⟩] [];refine lL hs [.m 8 53] (lN (kQ (bH 55 ((i:Nat)+1) (i+1) ?_)));refine lL hs [.m 31 55] (lD ?_);intro a_ ka;refine ⟨_,_,?_,⟨i+1,(l).set i s34,zc,zg,rfl,rfl,hs.to _ _,oM,zj,(hW.set _ oM),oM,(fA oM inv (by first|omega|(have hy0:=bC (l:=(wds b:List Nat)) (k:=i) (by first|omega|(simp;done));omega)))⟩,ka.to _ kR⟩
  omega
 have zf:=oT zb;refine lB 37 zb (ao (kQ (lL hs [.m 38 7,.m 39 9] (lX 40 (sB bw2) ((wds b).length) ((wds b).length) 1 (i:Nat) i rfl ?_))));refine lQ 41 0 (wds b) aj 1 0 i (mV ((wds b).getD i 0)) hs oM (lL hs [.m 10 41] (lN (kQ (lL hs [.m 43 6,.m 44 9,.m 45 6,.m 46 9] (lX 47 (sB bw1) ((wds a).length) ((wds a).length) 1 (i:Nat) i rfl ?_)))));refine lQ 48 1 l aj 1 0 i (mV ((l).getD i 0)) hs oM (lL hs [.m 49 10,.m 50 8] ?_);obtain ⟨s47,zd,he49,hl50,hm51,hr52⟩:=f5 ((l).getD i 0) ((wds b).getD i 0) bo wM wM oM;refine lV 51 (.tuple #[mV s47,mV zd]) ?_ (hr:=ck kR (hr52 _));refine lL hs [.m 42 51,.v 52 (mV s47),.v 53 (mV zd)] (lX 54 (sB bw1) ((wds a).length) ((wds a).length) 1 (i:Nat) i rfl ?_);refine lW 1 l aj 1 i s47 hs oM (fun _ hs=>?_);have zk:((l).set i s47).length=(wds a).length:=by rw[List.length_set];exact hll
 replace hs:=hs.to [⟨bw2,22,(wds b).flatMap aj⟩,⟨bw1,22,((l).set i s47).flatMap aj⟩,⟨b7,24,[uV 0,eS]⟩,⟨b4,24,nc b⟩,⟨b1,24,nc a⟩] [];refine lL hs [.m 8 53] (lN (kQ (bH 55 ((i:Nat)+1) (i+1) ?_)));refine lL hs [.m 31 55] (lD ?_);intro a_ ka;refine ⟨_,_,?_,⟨i+1,(l).set i s47,zd,zg,rfl,rfl,hs.to _ _,oM,zk,(hW.set _ oM),oM,(fA oM inv (by first|omega|(have hy0:=bC (l:=(wds b:List Nat)) (k:=i) (by first|omega|(simp;done));omega)))⟩,ka.to _ kR⟩
 omega
theorem By (a:Nat)(hla:(wds a).length≤1000000000)(has:18446744073709551616≤a)(w:World)(h:Hp)(g:G w h):CV 121 #[nv a,nv 0] w h (.tuple #[nv a,.bool true]):=by
 have hs:=sS g;have hcl:=d4 (show 0≤a by omega);refine go Tryz.func121 [(0,nv a),(1,nv 0)] rfl (aE (lA 2 24 (nc a) hs (fun b1 w2 h3 hs=>lA 3 24 (nc 0) hs (fun b4 w5 h6 hs=>lA 4 24 ([uV 0,eS]) hs (fun b7 w8 h9 hs=>lL hs [.v 5 qF] (af (aa hs [.o 11 (nv a) 2 0 2,.o 12 (nv 0) 1 0 2] (ag 13 hs (jC a 0 hla (by simp[gA]) _ _ hs.g) (fun zg _ hs=>?_)))))))));have ⟨zd,phb12⟩:=dF (p:=(bK a 0:Int)<(0:Int)) oM;refine lB 14 zd (ah (cK (cQ (aa hs [.v 16 (qP b1 1),.o 17 (.string (hi a)) 2 1 1] (lV 18 qF ?_ (hr:=rb kR (fS (dC has))))))));refine ah (cK (cQ ?_));obtain ⟨K_,hK_⟩:∃ K_,K_=zg.heap.size:=⟨_,rfl⟩;have hk_b7:b7<K_:=by rw[hK_];exact dw hs 0
 have hk_b4:b4<K_:=by rw[hK_];exact dw hs 1
 have hk_b1:b1<K_:=by rw[hK_];exact dw hs 2
 refine rL ⟨[],some (K_,[])⟩ 0 mixed ?_;have hszK:=hs.g.size;replace hs:=hs.drew;have hKl:=Nat.le_of_eq hK_;refine zO 0 25 [(2,0,2)] (nv a) rfl hKl hs (fun p hp=>by obtain rfl:=List.mem_singleton.1 hp;exact hk_b1) (zO 2 27 [(1,0,2)] (nv 0) rfl hKl hs (fun p hp=>by obtain rfl:=List.mem_singleton.1 hp;exact hk_b4) (nu 1 26 (du a oM oM _ _ hs.g) rfl hKl ?_));rintro _ _ _ u15 hKl ⟨bw1,rfl,hlo1,hbc1,hsl1⟩;obtain ⟨_,hs,-,-⟩:=hs.take u15 hlo1 hbc1;replace hs:=hs.to [⟨bw1,22,(wds a).flatMap aj⟩,⟨b7,24,[uV 0,eS]⟩,⟨b4,24,nc 0⟩,⟨b1,24,nc a⟩] [];refine nu 3 28 (gB _ _ hs.g) rfl hKl ?_;rintro _ _ zi u19 hKl rfl;replace hs:=hs.step u19;refine zV 4 6 (qS (sB bw1) ((wds a).length) ((wds a).length)) (zV 5 7 (sZ) (xi (lL hs [.v 8 (uV 0)] (af (aa hs [.m 29 6,.v 30 (nV ((wds a).length)),.v 31 (iV 0)] (bn ?_))))));refine bQ _ (CG.loop (fun μ_ Γ w_=>∃ (i:Nat) (l:List Nat) (bo:Nat) (h_:Hp),μ_=(wds a).length-i∧Γ=[(4,pB b7),(5,qF),(6,qS (sB bw1) ((wds a).length) ((wds a).length)),(7,sZ),(30,nV ((wds a).length)),(31,nV i),(8,mV bo)]∧SS w h w_ h_ [⟨bw1,22,(l).flatMap aj⟩,⟨b7,24,[uV 0,eS]⟩,⟨b4,24,nc 0⟩,⟨b1,24,nc a⟩] [] []∧i≤(wds a).length∧l.length=(wds a).length∧Wd l∧bo≤1∧ak 18446744073709551616 l+ak 18446744073709551616 (([]:List Nat).take i)=a+18446744073709551616^i*bo) _ ⟨0,wds a,0,zi,rfl,rfl,hs.to _ _,Nat.zero_le _,rfl,Wd.wds _,oM,(by have hx_:ak 18446744073709551616 (wds a)=a:=aI _;rw[hx_];simp[ak])⟩ ?_);rintro _ _ _ ⟨i,l,bo,zj,hm22,rfl,hs,hi,hll,hW,hbo,inv⟩;have hlk:=hW.get i;have hyk:=Wd.get (l:=[]) Dg.nil i;refine aE ?_;cases za:(decide ((i:Int)<(((wds a).length:Nat):Int)))
 ·
  have zc:=oF za;refine lB 32 za (af (cw (CG.exit ?_)))
  show CG _ _ _ _ _ _ _ _
  refine aE ?_;rw[List.take_nil,show i=l.length by omega] at inv
  have hE:aA l=a:=kB (b:=0) hW inv oM hbo;obtain ⟨_,hs,sg25,lo26,bc27⟩:=hs.pub 0;replace hs:=(hs.to [⟨b7,24,[uV 0,eS]⟩,⟨b4,24,nc 0⟩,⟨b1,24,nc a⟩] []).aS (SlO.of_flat (sz:=1) (f:=aj) (d:=0) (b:=bw1) (o:=0) (l:=l) (fun _=>rfl) sg25);exact lL hs [.m 56 6] (ag 57 hs (bR (sB bw1) ((wds a).length) (l) ((wds a).length) (a) (by first|rfl|assumption|(simp;done)|(simp;omega)|omega) (hW) (hE) sM sM _ _ hs.g hs.f.1) (fun _ _ hs=>lP 0 0 (nc a) hs (fun _ hs=>lL hs [.v 5 qT] (ac hs [(0,0,2)] (.tuple #[nv a,qT]) rfl))))
 have zc:=oT za;refine lB 32 za (af (ce (cK (cQ (kZ (aa hs [.m 33 31,.m 9 33] (aG (lL hs [.v 10 (uV 0)] (af (aa hs [.m 34 9,.m 35 7,.v 36 (iV 0)] ?_))))))))));have ⟨ze,phb32⟩:=dF (p:=(i:Int)<(0:Int)) oM;refine lB 37 ze (ah (cK (kQ (lL hs [.m 43 6,.m 44 9,.m 45 6,.m 46 9] (lX 47 (sB bw1) ((wds a).length) ((wds a).length) 1 (i:Nat) i rfl ?_)))));refine lQ 48 0 l aj 1 0 i (mV ((l).getD i 0)) hs oM (lL hs [.m 49 10,.m 50 8] ?_);obtain ⟨s33,zb,he35,hl36,hm37,hr38⟩:=f5 ((l).getD i 0) 0 bo wM wM oM;refine lV 51 (.tuple #[mV s33,mV zb]) ?_ (hr:=ck kR (hr38 _));refine lL hs [.m 42 51,.v 52 (mV s33),.v 53 (mV zb)] (lX 54 (sB bw1) ((wds a).length) ((wds a).length) 1 (i:Nat) i rfl ?_);refine lW 0 l aj 1 i s33 hs oM (fun _ hs=>?_);have zf:((l).set i s33).length=(wds a).length:=by rw[List.length_set];exact hll
 replace hs:=hs.to [⟨bw1,22,((l).set i s33).flatMap aj⟩,⟨b7,24,[uV 0,eS]⟩,⟨b4,24,nc 0⟩,⟨b1,24,nc a⟩] [];refine lL hs [.m 8 53] (lN (kQ (bH 55 ((i:Nat)+1) (i+1) ?_)));refine lL hs [.m 31 55] (lD ?_);intro a_ ka;refine ⟨_,_,?_,⟨i+1,(l).set i s33,zb,zj,rfl,rfl,hs.to _ _,oM,zf,(hW.set _ oM),oM,(fA oM inv (by first|omega|(have hy0:=bC (l:=([]:List Nat)) (k:=i) (by first|omega|(simp;done));omega)))⟩,ka.to _ kR⟩
 omega
theorem uJ (a b:Nat)(hab:b≤a)(hla:(wds a).length≤1000000000)(hlb:(wds b).length≤1000000000)(w:World)(h:Hp)(g:G w h):CV 121 #[nv a,nv b] w h (.tuple #[nv (a-b),.bool true]):=by
 rcases Nat.lt_or_ge a 18446744073709551616 with h1|h1
 ·exact B8 a b hla hlb hab h1 w h g
 ·rcases Nat.eq_zero_or_pos b with h3|h3
  ·subst h3;exact By a hla h1 w h g
  ·exact Cm a b hla hlb hab h1 h3 w h g
theorem Cw (a b:Nat)(hla:(wds a).length≤1000000000)(hlb:(wds b).length≤1000000000)(has:a<18446744073709551616)(hbs:b<18446744073709551616)(w:World)(h:Hp)(g:G w h):CV 97 #[nv a,nv b] w h (nv (a*b)):=by
 have hs:=sS g;have ham:=Nat.mod_eq_of_lt has;have hbm:=Nat.mod_eq_of_lt hbs;refine go Tryz.func97 [(0,nv a),(1,nv b)] rfl (aE (lA 2 24 (nc a) hs (fun b1 w2 h3 hs=>lA 3 24 (nc b) hs (fun b4 w5 h6 hs=>lA 4 24 ([uV 0,eS]) hs (fun b7 w8 h9 hs=>af (aa hs [.v 7 (qP b1 1),.o 8 (.string (hi a)) 2 1 1] (lV 9 qT ?_ (hr:=rb kR (f9 (de has))))))))));refine lL hs [.m 10 9,.v 11 (qP b4 1),.o 12 (.string (hi b)) 1 1 1] (lV 13 qT ?_ (hr:=rb kR (f9 (de hbs))));refine lL hs [.v 14 qT] (ao (aa hs [.v 16 (pB b1),.o 17 (mV (a%18446744073709551616)) 2 0 1,.v 18 (pB b4),.o 19 (mV (b%18446744073709551616)) 1 0 1] (lC 20 hs (ju (a%18446744073709551616) (b%18446744073709551616) wM wM _ _ hs.g) ?_)));rintro _ _ _ hs ⟨s10,za,rfl,he12,hl13,hm14,hn15⟩;have hxhe12:=fF (a:=(a%18446744073709551616)) (b:=(b%18446744073709551616)) wM wM;refine lL hs [.m 15 20,.v 21 (mV s10),.v 22 (mV za),.m 5 21,.m 6 22] (af (aE ?_));rw[ham,hbm] at he12
 refine lL hs [.m 23 5] ?_;cases zb:((s10:Int) == (0:Int))
 ·
  have zc:=ai zb;refine lB 24 zb (ah (cK (aa hs [.m 27 6,.m 28 5] (lR 29 22 2 ([mV za,mV s10]) hs (fun zd _ _ hs=>?_)))));replace hs:=hs.aS (SlO.of_flat (sz:=1) (f:=aj) (d:=0) (l:=[za,s10]) (fun _=>rfl) hs.f.1);exact ag 30 hs (bR (sB zd) 2 ([za,s10]) 2 ((a*b)) (by first|rfl|assumption|(simp;done)|(simp;omega)|omega) (Dg.cons oM (Dg.one oM)) (by show za+18446744073709551616*(s10+18446744073709551616*0)=a*b;omega) sM sM _ _ hs.g hs.f.1) (fun _ _ hs=>lP 0 0 (nc (a*b)) hs (fun _ hs=>ac hs [(0,0,2)] (nv (a*b)) rfl))
 have zc:=eq_of_beq zb;exact lB 24 zb (ao (aa hs [.m 25 6,.v 26 (.agg #[mV za,eS])] (lP 0 0 ([mV za,eS]) hs (fun _ hs=>ac hs [(0,0,2)] (.agg #[mV za,eS]) (by rw[show za=a*b by omega];exact gf oM)))))
theorem CC (a b:Nat)(hla:(wds a).length≤1000000000)(hlb:(wds b).length≤1000000000)(has:18446744073709551616≤a)(w:World)(h:Hp)(g:G w h):CV 97 #[nv a,nv b] w h (nv (a*b)):=by
 have hs:=sS g;refine go Tryz.func97 [(0,nv a),(1,nv b)] rfl (aE (lA 2 24 (nc a) hs (fun b1 w2 h3 hs=>lA 3 24 (nc b) hs (fun b4 w5 h6 hs=>lA 4 24 ([uV 0,eS]) hs (fun b7 w8 h9 hs=>af (aa hs [.v 7 (qP b1 1),.o 8 (.string (hi a)) 2 1 1] (lV 9 qF ?_ (hr:=rb kR (fS (dC has))))))))));refine lL hs [.m 10 9] (lG 11 ?_);refine lG 12 (lG 13 (lL hs [.v 14 qF] (ah (cK (cQ (cR 6 [] mixed hs av ?_))))));refine eO 0 31 [(2,0,2)] (nv a) hs (eO 2 33 [(1,0,2)] (nv b) hs (eC 1 32 hs (fun _ _ hs=>d9 a oM _ _ hs.g) ?_));rintro _ _ _ _ _ hs ⟨Aw1,cw1,rfl,hcw1,hw1⟩;replace hs:=hs.aS hw1;refine eC 3 34 hs (fun _ _ hs=>d9 b oM _ _ hs.g) ?_;rintro _ _ _ _ _ hs ⟨Aw2,cw2,rfl,hcw2,hw2⟩;replace hs:=hs.aS hw2;refine eC 4 35 hs (fun _ _ hs=>xb Aw1 cw1 (wds a) Aw2 cw2 (wds b) (Wd.wds a) (Wd.wds b) oM oM _ _ hs.g hs.f.2.1 hs.f.1) ?_;rintro _ _ _ _ _ hs ⟨Am,cm,zm,rfl,hcm,hlm,hWm,hVm,hm⟩;replace hs:=hs.aS hm;exact aq 5 36 hs (fun _ _ hs=>bR Am cm (zm) zm.length ((a*b)) (by first|rfl|assumption|(simp;done)|(simp;omega)|omega) (hWm) (hVm.trans (by rw[aI,aI])) sM sM _ _ hs.g hs.f.1) (fun _ _ hs=>cC hs (fun _ _ hs=>tP 6 0 0 (nc (a*b)) hs (fun _ hs=>tN (kX (hs.ret [(0,0,2)] (nv (a*b)) rfl)))))
theorem Co (a b:Nat)(hla:(wds a).length≤1000000000)(hlb:(wds b).length≤1000000000)(has:a<18446744073709551616)(hbs:18446744073709551616≤b)(w:World)(h:Hp)(g:G w h):CV 97 #[nv a,nv b] w h (nv (a*b)):=by
 have hs:=sS g;refine go Tryz.func97 [(0,nv a),(1,nv b)] rfl (aE (lA 2 24 (nc a) hs (fun b1 w2 h3 hs=>lA 3 24 (nc b) hs (fun b4 w5 h6 hs=>lA 4 24 ([uV 0,eS]) hs (fun b7 w8 h9 hs=>af (aa hs [.v 7 (qP b1 1),.o 8 (.string (hi a)) 2 1 1] (lV 9 qT ?_ (hr:=rb kR (f9 (de has))))))))));refine lL hs [.m 10 9,.v 11 (qP b4 1),.o 12 (.string (hi b)) 1 1 1] (lV 13 qF ?_ (hr:=rb kR (fS (dC hbs))));refine lL hs [.v 14 qF] (ah (cK (cQ (cR 6 [] mixed hs av ?_))));refine eO 0 31 [(2,0,2)] (nv a) hs (eO 2 33 [(1,0,2)] (nv b) hs (eC 1 32 hs (fun _ _ hs=>d9 a oM _ _ hs.g) ?_));rintro _ _ _ _ _ hs ⟨Aw1,cw1,rfl,hcw1,hw1⟩;replace hs:=hs.aS hw1;refine eC 3 34 hs (fun _ _ hs=>d9 b oM _ _ hs.g) ?_;rintro _ _ _ _ _ hs ⟨Aw2,cw2,rfl,hcw2,hw2⟩;replace hs:=hs.aS hw2;refine eC 4 35 hs (fun _ _ hs=>xb Aw1 cw1 (wds a) Aw2 cw2 (wds b) (Wd.wds a) (Wd.wds b) oM oM _ _ hs.g hs.f.2.1 hs.f.1) ?_;rintro _ _ _ _ _ hs ⟨Am,cm,zm,rfl,hcm,hlm,hWm,hVm,hm⟩;replace hs:=hs.aS hm;exact aq 5 36 hs (fun _ _ hs=>bR Am cm (zm) zm.length ((a*b)) (by first|rfl|assumption|(simp;done)|(simp;omega)|omega) (hWm) (hVm.trans (by rw[aI,aI])) sM sM _ _ hs.g hs.f.1) (fun _ _ hs=>cC hs (fun _ _ hs=>tP 6 0 0 (nc (a*b)) hs (fun _ hs=>tN (kX (hs.ret [(0,0,2)] (nv (a*b)) rfl)))))
theorem jB (a b:Nat)(hla:(wds a).length≤1000000000)(hlb:(wds b).length≤1000000000)(w:World)(h:Hp)(g:G w h):CV 97 #[nv a,nv b] w h (nv (a*b)):=by
 rcases Nat.lt_or_ge a 18446744073709551616 with h1|h1
 ·rcases Nat.lt_or_ge b 18446744073709551616 with h2|h2
  ·exact Cw a b hla hlb h1 h2 w h g
  ·exact Co a b hla hlb h1 h2 w h g
 ·exact CC a b hla hlb h1 w h g
theorem wH (a b:Nat)(hb:0<b)(hla:(wds a).length≤1000000000)(hlb:(wds b).length≤1000000000)(has:a<18446744073709551616)(hbs:b<18446744073709551616)(w:World)(h:Hp)(g:G w h):CV 123 #[nv a,nv b] w h (.tuple #[nv (a/b),nv (a%b),.bool true]):=by
 have hs:=sS g;have hnb0:=(bX hb).2.2;have hbm0:=Nat.mod_eq_of_lt hbs;refine go Tryz.func123 [(0,nv a),(1,nv b)] rfl (aE (lA 2 24 (nc a) hs (fun b1 w2 h3 hs=>lA 3 24 (nc b) hs (fun b4 w5 h6 hs=>lA 4 24 ([uV 0,eS]) hs (fun b7 w8 h9 hs=>lA 5 24 ([uV 0,eS]) hs (fun zb _ _ hs=>lL hs [.v 6 qF] (af (aa hs [.o 11 (nv b) 2 0 2] (ag 12 hs (dm b hlb _ _ hs.g) (fun _ _ hs=>?_))))))))));have za:(((nb b:Nat):Int) == (0:Int))=false:=cv oM;have phb15:=ai za;refine lB 13 za (ah (cK (cQ (aa hs [.v 16 (qP b1 1),.o 17 (.string (hi a)) 3 1 1] (lV 18 qT ?_ (hr:=rb kR (f9 (de has))))))));refine lL hs [.m 19 18,.v 20 (qP b4 1),.o 21 (.string (hi b)) 2 1 1] (lV 22 qT ?_ (hr:=rb kR (f9 (de hbs))));refine lL hs [.v 23 qT] (ao (cQ ?_));have hsr:=hs;refine tw 12 [] [b7,zb] mixed hs av (eV 0 24 (pB b1) (eO 1 25 [(3,0,1)] (mV (a%18446744073709551616)) hs (eV 2 26 (pB b4) (eO 3 27 [(2,0,1)] (mV (b%18446744073709551616)) hs (eV 4 28 (mV ((a%18446744073709551616)/(b%18446744073709551616))) ?_ (hv:=fun _=>aU (cZ (t:=22) (u:=22) (x:=.tmp 25) (y:=.tmp 27) (k:=.u64) (a:=((a%18446744073709551616:Nat):Int)) (b:=((b%18446744073709551616:Nat):Int)) kR kR kR oM _) (i7 (a%18446744073709551616) (b%18446744073709551616) oM)))))));refine eV 5 29 (.agg #[mV ((a%18446744073709551616)/(b%18446744073709551616)),eS]) (eV 6 30 (pB b1) (ph 7 31 [(3,0,1)] (mV (a%18446744073709551616)) hsr hs ?_ (hM:=fun p hp=>by obtain rfl:=List.mem_singleton.1 hp;exact fun hm=>by rcases List.mem_cons.1 hm with e|hm;exact dj hs.st (i:=3) (j:=1) kR kR kR e;rcases List.mem_cons.1 hm with e|hm;exact dj hs.st (i:=3) (j:=0) kR kR kR e;cases hm)));refine eV 8 32 (pB b4) (ph 9 33 [(2,0,1)] (mV (b%18446744073709551616)) hsr hs ?_ (hM:=fun p hp=>by obtain rfl:=List.mem_singleton.1 hp;exact fun hm=>by rcases List.mem_cons.1 hm with e|hm;exact dj hs.st (i:=2) (j:=1) kR kR kR e;rcases List.mem_cons.1 hm with e|hm;exact dj hs.st (i:=2) (j:=0) kR kR kR e;cases hm));refine eV 10 34 (mV ((a%18446744073709551616)%(b%18446744073709551616))) ?_ (hv:=fun _=>aU (eE (t:=22) (u:=22) (x:=.tmp 31) (y:=.tmp 33) (k:=.u64) (a:=((a%18446744073709551616:Nat):Int)) (b:=((b%18446744073709551616:Nat):Int)) kR kR kR oM _) (cJ (a%18446744073709551616) (b%18446744073709551616)));refine eV 11 35 (.agg #[mV ((a%18446744073709551616)%(b%18446744073709551616)),eS]) (cC hs (fun _ _ hs=>tP 12 1 0 ([mV ((a%18446744073709551616)/(b%18446744073709551616)),eS]) hs (fun _ hs=>?_) (hz:=cW (List.mem_cons_self))));refine tP 13 0 0 ([mV ((a%18446744073709551616)%(b%18446744073709551616)),eS]) hs (fun _ hs=>?_) (hz:=cW (List.mem_cons_of_mem _<|List.mem_cons_self));exact tV 14 6 qT (tN (kX (hs.ret [(1,0,2),(0,0,2)] (.tuple #[.agg #[mV ((a%18446744073709551616)/(b%18446744073709551616)),eS],.agg #[mV ((a%18446744073709551616)%(b%18446744073709551616)),eS],qT]) (by rw[Nat.mod_eq_of_lt has,Nat.mod_eq_of_lt hbs,gf (show a/b<18446744073709551616 by have:=Nat.div_le_self a b;omega),gf (show a%b<18446744073709551616 by have:=Nat.mod_lt a hb;omega)]))))
theorem Cq (a b:Nat)(hb:0<b)(hla:(wds a).length≤1000000000)(hlb:(wds b).length≤1000000000)(has:18446744073709551616≤a)(hbs:b<18446744073709551616)(w:World)(h:Hp)(g:G w h):CV 123 #[nv a,nv b] w h (.tuple #[nv (a/b),nv (a%b),.bool true]):=by
 have hs:=sS g;have hnb0:=(bX hb).2.2;have hbm0:=Nat.mod_eq_of_lt hbs;have hcl:=d4 (show b≤a by omega);refine go Tryz.func123 [(0,nv a),(1,nv b)] rfl (aE (lA 2 24 (nc a) hs (fun b1 w2 h3 hs=>lA 3 24 (nc b) hs (fun b4 w5 h6 hs=>lA 4 24 ([uV 0,eS]) hs (fun b7 w8 h9 hs=>lA 5 24 ([uV 0,eS]) hs (fun za _ _ hs=>lL hs [.v 6 qF] (af (aa hs [.o 11 (nv b) 2 0 2] (ag 12 hs (dm b hlb _ _ hs.g) (fun _ _ hs=>?_))))))))));have zb:(((nb b:Nat):Int) == (0:Int))=false:=cv oM;have phb15:=ai zb;refine lB 13 zb (ah (cK (cQ (aa hs [.v 16 (qP b1 1),.o 17 (.string (hi a)) 3 1 1] (lV 18 qF ?_ (hr:=rb kR (fS (dC has))))))));refine lL hs [.m 19 18] (lG 20 ?_);refine lG 21 (lG 22 (lL hs [.v 23 qF] (ah (cK (cQ (aa hs [.o 36 (nv a) 3 0 2,.o 37 (nv b) 2 0 2] (ag 38 hs (jC a b hla hlb _ _ hs.g) (fun zd _ hs=>?_))))))));have ⟨zc,phb18⟩:=dF (p:=(bK a b:Int)<(0:Int)) oM;refine lB 39 zc (ah (cK (cQ (aa hs [.v 42 (qP b4 1),.o 43 (.string (hi b)) 2 1 1] (lV 44 qT ?_ (hr:=rb kR (f9 (de hbs))))))));refine ao (cQ ?_);obtain ⟨K_,hK_⟩:∃ K_,K_=zd.heap.size:=⟨_,rfl⟩;have hk_b10:za<K_:=by rw[hK_];exact dw hs 0
 have hk_b7:b7<K_:=by rw[hK_];exact dw hs 1
 have hk_b4:b4<K_:=by rw[hK_];exact dw hs 2
 have hk_b1:b1<K_:=by rw[hK_];exact dw hs 3
 refine rL ⟨[],some (K_,[])⟩ 0 mixed ?_;have hszK:=hs.g.size;replace hs:=hs.drew;have hKl:=Nat.le_of_eq hK_;refine zO 0 46 [(3,0,2)] (nv a) rfl hKl hs (fun p hp=>by obtain rfl:=List.mem_singleton.1 hp;exact hk_b1) (zV 2 48 (pB b4) (zO 3 49 [(2,0,1)] (mV (b%18446744073709551616)) rfl hKl hs (fun p hp=>by obtain rfl:=List.mem_singleton.1 hp;exact hk_b4) (nu 1 47 (du a oM oM _ _ hs.g) rfl hKl ?_)));rintro _ _ _ u21 hKl ⟨bw1,rfl,hlo1,hbc1,hsl1⟩;obtain ⟨_,hs,-,-⟩:=hs.take u21 hlo1 hbc1;replace hs:=hs.to [⟨bw1,22,(wds a).flatMap aj⟩,⟨za,24,[uV 0,eS]⟩,⟨b7,24,[uV 0,eS]⟩,⟨b4,24,nc b⟩,⟨b1,24,nc a⟩] [];refine EW 4 50 (Cc bw1 (wds a) (wds a).length (b%18446744073709551616) oM oM (Wd.wds a) hla (nR _) _ _ hs.g (hs.own 0) (hs.jk 0)) rfl hKl oM ?_;rintro _ _ _ u25 hKl ⟨z,r,rfl,hzl,hWz,hVz,hrb,hOz⟩;replace hs:=(hs.stepM 0 u25 hOz).to [⟨bw1,22,(z).flatMap aj⟩,⟨za,24,[uV 0,eS]⟩,⟨b7,24,[uV 0,eS]⟩,⟨b4,24,nc b⟩,⟨b1,24,nc a⟩] [];refine zV 5 45 (.tuple #[qS (sB bw1) (tl z z.length) ((wds a).length),mV r]) (zV 6 51 (qS (sB bw1) (tl z z.length) ((wds a).length)) (zV 7 52 (mV r) (zV 8 7 (qS (sB bw1) (tl z z.length) ((wds a).length)) (zV 9 8 (mV r) (xi ?_)))));have hbm:=Nat.mod_eq_of_lt hbs;rw[aI,hbm] at hVz
 rw[hbm] at hrb
 obtain ⟨hq1,hq2⟩:=u5 hVz hrb;have htz:=fZ z z.length;have hQ:aA (z.take (tl z z.length))=a/b:=by have e:=gH 18446744073709551616 z z.length (nR _);rw[List.take_length] at e;exact e.trans hq1
 obtain ⟨_,hs,sg27,lo28,bc29⟩:=hs.pub 0;replace hs:=(hs.to [⟨za,24,[uV 0,eS]⟩,⟨b7,24,[uV 0,eS]⟩,⟨b4,24,nc b⟩,⟨b1,24,nc a⟩] []).aS (SlO.of_flat (sz:=1) (f:=aj) (d:=0) (b:=bw1) (o:=0) (l:=z) (fun _=>rfl) sg27);exact lL hs [.m 53 7] (ag 54 hs (bR (sB bw1) ((wds a).length) (z.take (tl z z.length)) (tl z z.length) ((a/b)) (by first|rfl|assumption|(simp;done)|(simp;omega)|omega) (Dg.take hWz _) (hQ) sM sM _ _ hs.g ((hs.f.1).take _)) (fun _ _ hs=>lL hs [.m 55 8,.v 56 (.agg #[mV r,eS])] (lP 1 0 (nc (a/b)) hs (fun _ hs=>lP 0 0 ([mV r,eS]) hs (fun _ hs=>lL hs [.v 6 qT] (ac hs [(1,0,2),(0,0,2)] (.tuple #[nv (a/b),.agg #[mV r,eS],qT]) (by rw[hq2,gf (by have:=Nat.mod_lt a hb;omega)])))))))
theorem C3 (a b:Nat)(hb:0<b)(hla:(wds a).length≤1000000000)(hlb:(wds b).length≤1000000000)(hab:b≤a)(has:18446744073709551616≤a)(hbs:18446744073709551616≤b)(w:World)(h:Hp)(g:G w h):CV 123 #[nv a,nv b] w h (.tuple #[nv (a/b),nv (a%b),.bool true]):=by
 have hs:=sS g;have hnb0:=(bX hb).2.2;have hcl:=d4 hab;have hlm:=bZ hab;have hl2:=cG hbs;refine go Tryz.func123 [(0,nv a),(1,nv b)] rfl (aE (lA 2 24 (nc a) hs (fun b1 w2 h3 hs=>lA 3 24 (nc b) hs (fun b4 w5 h6 hs=>lA 4 24 ([uV 0,eS]) hs (fun b7 w8 h9 hs=>lA 5 24 ([uV 0,eS]) hs (fun b10 _ _ hs=>lL hs [.v 6 qF] (af (aa hs [.o 11 (nv b) 2 0 2] (ag 12 hs (dm b hlb _ _ hs.g) (fun _ _ hs=>?_))))))))));have za:(((nb b:Nat):Int) == (0:Int))=false:=cv oM;have phb15:=ai za;refine lB 13 za (ah (cK (cQ (aa hs [.v 16 (qP b1 1),.o 17 (.string (hi a)) 3 1 1] (lV 18 qF ?_ (hr:=rb kR (fS (dC has))))))));refine lL hs [.m 19 18] (lG 20 ?_);refine lG 21 (lG 22 (lL hs [.v 23 qF] (ah (cK (cQ (aa hs [.o 36 (nv a) 3 0 2,.o 37 (nv b) 2 0 2] (ag 38 hs (jC a b hla hlb _ _ hs.g) (fun _ _ hs=>?_))))))));have ⟨zb,phb18⟩:=dF (p:=(bK a b:Int)<(0:Int)) oM;refine lB 39 zb (ah (cK (cQ (aa hs [.v 42 (qP b4 1),.o 43 (.string (hi b)) 2 1 1] (lV 44 qF ?_ (hr:=rb kR (fS (dC hbs))))))));refine ah (cK (cQ (cR 8 [] mixed hs av ?_)));refine eO 0 58 [(3,0,2)] (nv a) hs (eO 2 60 [(2,0,2)] (nv b) hs (eC 1 59 hs (fun _ _ hs=>d9 a oM _ _ hs.g) ?_));rintro _ _ _ _ _ hs ⟨Aw1,cw1,rfl,hcw1,hw1⟩;replace hs:=hs.aS hw1;refine eC 3 61 hs (fun _ _ hs=>d9 b oM _ _ hs.g) ?_;rintro _ _ _ _ _ hs ⟨Aw2,cw2,rfl,hcw2,hw2⟩;replace hs:=hs.aS hw2;refine eC 4 62 hs (fun _ _ hs=>AN Aw1 cw1 (wds a) Aw2 cw2 (wds b) (Wd.wds a) (Wd.wds b) hla oM oM (jl hb) _ _ hs.g hs.f.2.1 hs.f.1) ?_;rintro _ _ _ _ _ hs ⟨Aq,cq,q,Ar,cr,r,rfl,hcq,hcr,hWq,hWr,hVq,hVr,hlq,hlr,hFq,hFr⟩;replace hs:=hs.aP hFq hFr;exact eV 5 57 (.tuple #[qS Aq q.length cq,qS Ar r.length cr]) (eV 6 63 (qS Aq q.length cq) (eV 7 64 (qS Ar r.length cr) (cC hs (fun _ _ hs=>tV 8 9 (qS Aq q.length cq) (tV 9 10 (qS Ar r.length cr) (xi (lL hs [.m 65 9] (ag 66 hs (bR Aq cq (q) q.length ((a/b)) (by first|rfl|assumption|(simp;done)|(simp;omega)|omega) (hWq) (hVq.trans (by rw[aI,aI])) sM sM _ _ hs.g hs.f.2.1) (fun _ _ hs=>lL hs [.m 67 10] (ag 68 hs (bR Ar cr (r) r.length ((a%b)) (by first|rfl|assumption|(simp;done)|(simp;omega)|omega) (hWr) (hVr.trans (by rw[aI,aI])) sM sM _ _ hs.g hs.f.1) (fun _ _ hs=>lP 1 0 (nc (a/b)) hs (fun _ hs=>lP 0 0 (nc (a%b)) hs (fun _ hs=>lL hs [.v 6 qT] (ac hs [(1,0,2),(0,0,2)] (.tuple #[nv (a/b),nv (a%b),qT]) rfl))))))))))))))
theorem CB (a b:Nat)(hb:0<b)(hla:(wds a).length≤1000000000)(hlb:(wds b).length≤1000000000)(hab:a<b)(has:a<18446744073709551616)(hbs:18446744073709551616≤b)(w:World)(h:Hp)(g:G w h):CV 123 #[nv a,nv b] w h (.tuple #[nv (a/b),nv (a%b),.bool true]):=by
 have hs:=sS g;have hnb0:=(bX hb).2.2;have hcl:=cH hab;refine go Tryz.func123 [(0,nv a),(1,nv b)] rfl (aE (lA 2 24 (nc a) hs (fun b1 w2 h3 hs=>lA 3 24 (nc b) hs (fun b4 w5 h6 hs=>lA 4 24 ([uV 0,eS]) hs (fun b7 w8 h9 hs=>lA 5 24 ([uV 0,eS]) hs (fun zc _ _ hs=>lL hs [.v 6 qF] (af (aa hs [.o 11 (nv b) 2 0 2] (ag 12 hs (dm b hlb _ _ hs.g) (fun _ _ hs=>?_))))))))));have za:(((nb b:Nat):Int) == (0:Int))=false:=cv oM;have phb15:=ai za;refine lB 13 za (ah (cK (cQ (aa hs [.v 16 (qP b1 1),.o 17 (.string (hi a)) 3 1 1] (lV 18 qT ?_ (hr:=rb kR (f9 (de has))))))));refine lL hs [.m 19 18,.v 20 (qP b4 1),.o 21 (.string (hi b)) 2 1 1] (lV 22 qF ?_ (hr:=rb kR (fS (dC hbs))));refine lL hs [.v 23 qF] (ah (cK (cQ (aa hs [.o 36 (nv a) 3 0 2,.o 37 (nv b) 2 0 2] (ag 38 hs (jC a b hla hlb _ _ hs.g) (fun _ _ hs=>?_))))));have ⟨zb,phb18⟩:=dT (p:=(bK a b:Int)<(0:Int)) oM;refine lB 39 zb (ao (cQ ?_));have hsr:=hs;refine tw 2 [] [b7,zc] mixed hs av (eV 0 40 (.agg #[uV 0,eS]) (ph 1 41 [(3,0,2)] (nv a) hsr hs ?_ (hM:=fun p hp=>by obtain rfl:=List.mem_singleton.1 hp;exact fun hm=>by rcases List.mem_cons.1 hm with e|hm;exact dj hs.st (i:=3) (j:=1) kR kR kR e;rcases List.mem_cons.1 hm with e|hm;exact dj hs.st (i:=3) (j:=0) kR kR kR e;cases hm)));refine cC hs (fun _ _ hs=>tP 2 1 0 ([uV 0,eS]) hs (fun _ hs=>?_) (hz:=cW (List.mem_cons_self)));refine tP 3 0 0 (nc a) hs (fun _ hs=>?_) (hz:=cW (List.mem_cons_of_mem _<|List.mem_cons_self));exact tV 4 6 qT (tN (kX (hs.ret [(1,0,2),(0,0,2)] (.tuple #[.agg #[uV 0,eS],nv a,qT]) (by have hab:a<b:=(by rcases Nat.lt_or_ge a b with h_|h_;exact h_;rcases d4 h_ with e|e<;>omega);rw[Nat.div_eq_of_lt hab,Nat.mod_eq_of_lt hab];rfl))))
theorem De (a b:Nat)(hb:0<b)(hla:(wds a).length≤1000000000)(hlb:(wds b).length≤1000000000)(hab:a<b)(has:18446744073709551616≤a)(w:World)(h:Hp)(g:G w h):CV 123 #[nv a,nv b] w h (.tuple #[nv (a/b),nv (a%b),.bool true]):=by
 have hs:=sS g;have hnb0:=(bX hb).2.2;have hcl:=cH hab;refine go Tryz.func123 [(0,nv a),(1,nv b)] rfl (aE (lA 2 24 (nc a) hs (fun b1 w2 h3 hs=>lA 3 24 (nc b) hs (fun b4 w5 h6 hs=>lA 4 24 ([uV 0,eS]) hs (fun b7 w8 h9 hs=>lA 5 24 ([uV 0,eS]) hs (fun zc _ _ hs=>lL hs [.v 6 qF] (af (aa hs [.o 11 (nv b) 2 0 2] (ag 12 hs (dm b hlb _ _ hs.g) (fun _ _ hs=>?_))))))))));have za:(((nb b:Nat):Int) == (0:Int))=false:=cv oM;have phb15:=ai za;refine lB 13 za (ah (cK (cQ (aa hs [.v 16 (qP b1 1),.o 17 (.string (hi a)) 3 1 1] (lV 18 qF ?_ (hr:=rb kR (fS (dC has))))))));refine lL hs [.m 19 18] (lG 20 ?_);refine lG 21 (lG 22 (lL hs [.v 23 qF] (ah (cK (cQ (aa hs [.o 36 (nv a) 3 0 2,.o 37 (nv b) 2 0 2] (ag 38 hs (jC a b hla hlb _ _ hs.g) (fun _ _ hs=>?_))))))));have ⟨zb,phb18⟩:=dT (p:=(bK a b:Int)<(0:Int)) oM;refine lB 39 zb (ao (cQ ?_));have hsr:=hs;refine tw 2 [] [b7,zc] mixed hs av (eV 0 40 (.agg #[uV 0,eS]) (ph 1 41 [(3,0,2)] (nv a) hsr hs ?_ (hM:=fun p hp=>by obtain rfl:=List.mem_singleton.1 hp;exact fun hm=>by rcases List.mem_cons.1 hm with e|hm;exact dj hs.st (i:=3) (j:=1) kR kR kR e;rcases List.mem_cons.1 hm with e|hm;exact dj hs.st (i:=3) (j:=0) kR kR kR e;cases hm)));refine cC hs (fun _ _ hs=>tP 2 1 0 ([uV 0,eS]) hs (fun _ hs=>?_) (hz:=cW (List.mem_cons_self)));refine tP 3 0 0 (nc a) hs (fun _ hs=>?_) (hz:=cW (List.mem_cons_of_mem _<|List.mem_cons_self));exact tV 4 6 qT (tN (kX (hs.ret [(1,0,2),(0,0,2)] (.tuple #[.agg #[uV 0,eS],nv a,qT]) (by have hab:a<b:=(by rcases Nat.lt_or_ge a b with h_|h_;exact h_;rcases d4 h_ with e|e<;>omega);rw[Nat.div_eq_of_lt hab,Nat.mod_eq_of_lt hab];rfl))))
theorem AV (a b:Nat)(hb:0<b)(hla:(wds a).length≤1000000000)(hlb:(wds b).length≤1000000000)(w:World)(h:Hp)(g:G w h):CV 123 #[nv a,nv b] w h (.tuple #[nv (a/b),nv (a%b),.bool true]):=by
 rcases Nat.lt_or_ge a b with hab|hab
 ·rcases Nat.lt_or_ge a 18446744073709551616 with h1|h1
  ·rcases Nat.lt_or_ge b 18446744073709551616 with h2|h2
   ·exact wH a b hb hla hlb h1 h2 w h g
   ·exact CB a b hb hla hlb hab h1 h2 w h g
  ·exact De a b hb hla hlb hab h1 w h g
 ·rcases Nat.lt_or_ge b 18446744073709551616 with h2|h2
  ·rcases Nat.lt_or_ge a 18446744073709551616 with h1|h1
   ·exact wH a b hb hla hlb h1 h2 w h g
   ·exact Cq a b hb hla hlb h1 h2 w h g
  ·exact C3 a b hb hla hlb hab oM h2 w h g
theorem iu {z:Int}{b:Bool}{n:Nat}(hb:aD z=b)(hn:ab z=n):Value.agg #[.bool b,.int .u64 (lo n),.string (hi n)]=iv z:=by subst hb hn;rfl
theorem gK {z:Int}{b:Bool}(hb:aD z=b):iv z=Value.agg #[.bool b,.int .u64 (lo (ab z)),.string (hi (ab z))]:=(iu hb rfl).symm
theorem lf (x y:Int):cb (aD x != aD y) (ab x*ab y)=x*y:=by
 rcases hx:aD x with _|_<;>rcases hy:aD y with _|_
 ·have h1:=a7 hx
  have h2:=a7 hy;obtain ⟨a,rfl⟩:=Int.eq_ofNat_of_zero_le h1;obtain ⟨b,rfl⟩:=Int.eq_ofNat_of_zero_le h2
  simp[cb,ab,Int.mul_neg,Int.neg_mul,Int.neg_neg]
 ·have h1:=a7 hx
  have h2:=bh hy;obtain ⟨a,rfl⟩:=Int.eq_ofNat_of_zero_le h1;obtain ⟨b,hb⟩:=Int.eq_ofNat_of_zero_le (a:=-y) oM;obtain rfl:y = -b:=by omega
  simp[cb,ab,Int.mul_neg,Int.neg_mul,Int.neg_neg]
 ·have h1:=bh hx
  have h2:=a7 hy;obtain ⟨b,rfl⟩:=Int.eq_ofNat_of_zero_le h2;obtain ⟨a,ha⟩:=Int.eq_ofNat_of_zero_le (a:=-x) oM;obtain rfl:x = -a:=by omega
  simp[cb,ab,Int.mul_neg,Int.neg_mul,Int.neg_neg]
 ·have h1:=bh hx
  have h2:=bh hy;obtain ⟨a,ha⟩:=Int.eq_ofNat_of_zero_le (a:=-x) oM;obtain ⟨b,hb⟩:=Int.eq_ofNat_of_zero_le (a:=-y) oM;obtain rfl:x = -a:=by omega
  obtain rfl:y = -b:=by omega
  simp[cb,ab,Int.mul_neg,Int.neg_mul,Int.neg_neg]
theorem iF {a b:Nat}:(wds (a+b)).length≤(wds a).length+(wds b).length+1:=by
 refine eT kD ?_;have h1:=cu a;have h2:=cu b;have h3:18446744073709551616^(wds a).length≤18446744073709551616^((wds a).length+(wds b).length):=Nat.pow_le_pow_right kD oM;have h4:18446744073709551616^(wds b).length≤18446744073709551616^((wds a).length+(wds b).length):=Nat.pow_le_pow_right kD oM;rw[Nat.pow_succ]
 omega
theorem mm {a b k:Nat}(ha:(wds a).length≤k)(hb:(wds b).length≤k):(wds (a+b)).length≤k+1:=by
 refine eT kD ?_;have h1:=cu a;have h2:=cu b;have h3:18446744073709551616^(wds a).length≤18446744073709551616^k:=Nat.pow_le_pow_right kD ha;have h4:18446744073709551616^(wds b).length≤18446744073709551616^k:=Nat.pow_le_pow_right kD hb;rw[Nat.pow_succ]
 omega
theorem cn {a b:Nat}:(wds (a*b)).length≤(wds a).length+(wds b).length:=by
 refine eT kD ?_;rw[Nat.pow_add];have h1:=cu a;have h2:=cu b;exact Nat.lt_of_lt_of_le (Nat.mul_lt_mul'' h1 h2) (Nat.le_refl _)
theorem au {a b k:Nat}(h:a≤b)(hb:(wds b).length≤k):(wds a).length≤k:=Nat.le_trans (bZ h) hb
theorem sY (a:Nat)(w:World)(h:Hp)(g:G w h):CV 92 #[.bool false,nv a] w h (iv (cb false a)):=by
 have hs:=sS g;refine go Tryz.func92 [(0,qF),(1,nv a)] rfl (aE (lA 3 24 (nc a) hs (fun b1 w2 h3 hs=>lA 4 26 ([qF,uV 0,eS]) hs (fun b4 w5 h6 hs=>af (cR 8 [] mixed hs av ?_)))));exact eV 0 5 qF (eV 1 6 qF (eG 2 7 (eG 3 8 (eG 4 9 (eV 5 10 qF (eO 6 11 [(1,0,2)] (nv a) hs (eV 7 12 (wX qF a) (cC hs (fun w7 h8 hs=>tP 8 0 0 (wC qF a) hs (fun w9 hs=>tN (kX (hs.ret [(0,0,3)] (wX qF a) (iu (by rw[gW];rfl) (dt _ _))))))))))))))
theorem Ai (hl:(wds 0).length≤1000000000)(w:World)(h:Hp)(g:G w h):CV 92 #[.bool true,nv 0] w h (iv (cb true 0)):=by
 have hs:=sS g;have hn0:nb 0=0:=rfl;refine go Tryz.func92 [(0,qT),(1,nv 0)] rfl (aE (lA 3 24 (nc 0) hs (fun b1 w2 h3 hs=>lA 4 26 ([qF,uV 0,eS]) hs (fun b4 w5 h6 hs=>af (cR 8 [] mixed hs av ?_)))));refine eV 0 5 qT (eV 1 6 qT (eO 2 7 [(1,0,2)] (nv 0) hs (eO 6 11 [(1,0,2)] (nv 0) hs (aq 3 8 hs (fun _ _ hs=>dm 0 aM _ _ hs.g) (fun w7 h8 hs=>eV 4 9 qF ?_ (hv:=fun _=>rb (e:=decide ((0:Int)<((nb 0:Nat):Int))) kR (decide_eq_false oM)))))));exact eV 5 10 qF (eV 7 12 (wX qF 0) (cC hs (fun w9 _ hs=>tP 8 0 0 (wC qF 0) hs (fun _ hs=>tN (kX (hs.ret [(0,0,3)] (wX qF 0) (iu (by rw[gW];rfl) (dt _ _))))))))
theorem Bi (a:Nat)(ha:0<a)(hl:(wds a).length≤1000000000)(w:World)(h:Hp)(g:G w h):CV 92 #[.bool true,nv a] w h (iv (cb true a)):=by
 have hs:=sS g;have hn0:=(bX ha).2.2;refine go Tryz.func92 [(0,qT),(1,nv a)] rfl (aE (lA 3 24 (nc a) hs (fun b1 w2 h3 hs=>lA 4 26 ([qF,uV 0,eS]) hs (fun b4 w5 h6 hs=>af (cR 8 [] mixed hs av ?_)))));refine eV 0 5 qT (eV 1 6 qT (eO 2 7 [(1,0,2)] (nv a) hs (eO 6 11 [(1,0,2)] (nv a) hs (aq 3 8 hs (fun _ _ hs=>dm a aM _ _ hs.g) (fun w7 h8 hs=>eV 4 9 qT ?_ (hv:=fun _=>rb (e:=decide ((0:Int)<((nb a:Nat):Int))) kR (decide_eq_true oM)))))));exact eV 5 10 qT (eV 7 12 (wX qT a) (cC hs (fun w9 _ hs=>tP 8 0 0 (wC qT a) hs (fun _ hs=>tN (kX (hs.ret [(0,0,3)] (wX qT a) (iu (by rw[gW];simpa using ha) (dt _ _))))))))
theorem ee (b:Bool)(a:Nat)(hl:(wds a).length≤1000000000)(w:World)(h:Hp)(g:G w h):CV 92 #[.bool b,nv a] w h (iv (cb b a)):=by
 cases b
 ·exact sY a w h g
 ·rcases Nat.eq_zero_or_pos a with h0|h0
  ·subst h0;exact Ai hl w h g
  ·exact Bi a h0 hl w h g
theorem DK (z:Int)(h0 : -9223372036854775808≤z)(hz:z<0)(w:World)(h:Hp)(g:G w h):CV 17 #[iV z] w h (iv z):=by
 have hs:=sS g;have hia:ab z≤9223372036854775808:=by unfold ab;omega
 refine go Tryz.func17 [(0,iV z)] rfl (aE (lA 2 26 ([qF,uV 0,eS]) hs (fun b1 w2 h3 hs=>af (aa hs [.m 3 0] ?_))));have ⟨hb4,phb4⟩:=dT (p:=(z:Int)<(0:Int)) oM;refine lB 4 hb4 (ao (aa hs [.m 5 0] (lV 6 (mV (18446744073709551616-ab z)) ?_ (hr:=rU (z) kR (by rw[IntKind.wrap_u64];unfold ab;omega)))));refine lV 7 (mV (ab z)) ?_ (hr:=rU ((0-((18446744073709551616-ab z:Nat):Int))) kR (by rw[IntKind.wrap_u64];omega));exact ag 8 hs (xG (ab z) oM _ _ hs.g) (fun w5 h6 hs=>lL hs [.v 9 (wX qT (ab z))] (lP 0 0 (wC qT (ab z)) hs (fun w7 hs=>ac hs [(0,0,3)] (wX qT (ab z)) (iu (by simp[aD,hz]) rfl))))
theorem Dz (n:Nat)(h1:n<9223372036854775808)(w:World)(h:Hp)(g:G w h):CV 17 #[nV n] w h (iv (n:Int)):=by
 have hs:=sS g;refine go Tryz.func17 [(0,nV n)] rfl (aE (lA 2 26 ([qF,uV 0,eS]) hs (fun b1 w2 h3 hs=>af (aa hs [.m 3 0] ?_))));have ⟨hb4,phb4⟩:=dF (p:=(n:Int)<(0:Int)) oM;refine lB 4 hb4 (ah (cK (aa hs [.m 10 0] (lV 11 (mV n) ?_ (hr:=rU ((n:Int)) kR (bx oM oM))))));exact ag 12 hs (xG n oM _ _ hs.g) (fun w5 h6 hs=>lL hs [.v 13 (wX qF n)] (lP 0 0 (wC qF n) hs (fun w7 hs=>ac hs [(0,0,3)] (wX qF n) (iu (by simp[aD]) (by simp[ab])))))
theorem Ey (z:Int)(h0 : -9223372036854775808≤z)(h1:z≤9223372036854775807)(w:World)(h:Hp)(g:G w h):CV 17 #[iV z] w h (iv z):=by
 rcases Int.lt_or_le z 0 with hz|hz
 ·exact DK z h0 hz w h g
 ·obtain ⟨n,rfl⟩:=Int.eq_ofNat_of_zero_le hz
  exact Dz n oM w h g
def dr(x y:Int):Int:=if x<y then -1 else if y<x then 1 else 0
theorem u6 {x y:Int}(h:x<y):dr x y = -1:=by simp[dr,h]
theorem wo {x y:Int}(h:y<x):dr x y=1:=by unfold dr;rw[if_neg oM,if_pos h]
theorem uG {x y:Int}(hx:0≤x)(hy:0≤y):dr x y=bK (ab x) (ab y):=by
 unfold dr bK ab
 have e1:(x<y)=(x.natAbs<y.natAbs):=by apply propext;omega
 have e2:(y<x)=(y.natAbs<x.natAbs):=by apply propext;omega
 simp only[e1,e2]
theorem wd {x y:Int}(hx:x<0)(hy:y<0):dr x y=bK (ab y) (ab x):=by
 unfold dr bK ab
 have e1:(x<y)=(y.natAbs<x.natAbs):=by apply propext;omega
 have e2:(y<x)=(x.natAbs<y.natAbs):=by apply propext;omega
 simp only[e1,e2]
theorem rr (z:Int)(w:World)(h:Hp)(g:G w h):CV 99 #[iv z] w h (nv (ab z)):=by
 have hs:=sS g;exact go Tryz.func99 [(0,iv z)] rfl (aE (lA 1 26 (ic z) hs (fun b1 w2 h3 hs=>lA 2 24 ([uV 0,eS]) hs (fun b4 w5 h6 hs=>aG (lL hs [.v 3 (qP b1 1),.o 4 (nv (ab z)) 1 1 2] (lP 0 0 (nc (ab z)) hs (fun w7 hs=>ac hs [(0,0,2)] (nv (ab z)) rfl)))))))
theorem AH (z:Int)(hz:aD z=true)(w:World)(h:Hp)(g:G w h):CV 74 #[wX (.bool true) (ab z)] w h (iV z.sign):=by
 have hs:=sS g;exact go Tryz.func74 [(0,wX qT (ab z))] rfl (aE (lA 1 26 (wC qT (ab z)) hs (fun b1 w2 h3 hs=>lL hs [.v 2 (iV 0)] (af (kZ (aa hs [.v 4 (pB b1),.o 5 qT 0 0 1,.m 3 5] (ao (aa hs [.v 2 (iV (-1))] (ac hs [] (iV (-1)) (by rw[Int.sign_eq_neg_one_of_neg (bh hz)]))))))))))
theorem xz (z:Int)(hl:(wds (ab z)).length≤1000000000)(hz:aD z=false)(h0:0<ab z)(w:World)(h:Hp)(g:G w h):CV 74 #[wX (.bool false) (ab z)] w h (iV z.sign):=by
 have hs:=sS g;have hn0:=(bX h0).2.2;refine go Tryz.func74 [(0,wX qF (ab z))] rfl (aE (lA 1 26 (wC qF (ab z)) hs (fun b1 w2 h3 hs=>lL hs [.v 2 (iV 0)] (af (kZ (aa hs [.v 4 (pB b1),.o 5 qF 0 0 1,.m 3 5] (ah (aa hs [.v 7 (qP b1 1),.o 8 (nv (ab z)) 0 1 2] (ag 9 hs (dm (ab z) aM _ _ hs.g) (fun w4 h5 hs=>?_))))))))));have ⟨hb6,phb6⟩:=dT (p:=(0:Int)<((nb (ab z):Nat):Int)) oM;exact lB 10 hb6 (lL hs [.m 6 10] (ao (aa hs [.v 2 (iV 1)] (ac hs [] (iV 1) (by rw[Int.sign_eq_one_of_pos (by have:=a7 hz;unfold ab at h0;omega)])))))
theorem An (hl:(wds (ab 0)).length≤1000000000)(w:World)(h:Hp)(g:G w h):CV 74 #[wX (.bool false) (ab 0)] w h (iV 0):=by
 have hs:=sS g;have hn0:nb (ab 0)=0:=rfl;refine go Tryz.func74 [(0,wX qF (ab 0))] rfl (aE (lA 1 26 (wC qF (ab 0)) hs (fun b1 w2 h3 hs=>lL hs [.v 2 (iV 0)] (af (kZ (aa hs [.v 4 (pB b1),.o 5 qF 0 0 1,.m 3 5] (ah (aa hs [.v 7 (qP b1 1),.o 8 (nv (ab 0)) 0 1 2] (ag 9 hs (dm (ab 0) aM _ _ hs.g) (fun w4 h5 hs=>?_))))))))));have ⟨hb6,phb6⟩:=dF (p:=(0:Int)<((nb (ab 0):Nat):Int)) oM;exact lB 10 hb6 (lL hs [.m 6 10] (ah (cK (aa hs [.v 2 (iV 0)] (ac hs [] (iV 0) rfl)))))
theorem lz (z:Int)(hl:(wds (ab z)).length≤1000000000)(w:World)(h:Hp)(g:G w h):CV 74 #[iv z] w h (iV z.sign):=by
 rcases hz:aD z with _|_
 ·rw[gK hz]
  rcases Nat.eq_zero_or_pos (ab z) with h0|h0
  ·have:z=0:=by unfold ab at h0;omega
   subst this;exact An hl w h g
  ·exact xz z hl hz h0 w h g
 ·rw[gK hz];exact AH z hz w h g
theorem B9 (z:Int)(hl:(wds (ab z)).length≤1000000000)(hz:aD z=false)(w:World)(h:Hp)(g:G w h):CV 100 #[wX (.bool false) (ab z)] w h (iv (-z)):=by
 have hs:=sS g;exact go Tryz.func100 [(0,wX qF (ab z))] rfl (aE (lA 1 26 (wC qF (ab z)) hs (fun b1 w2 h3 hs=>lA 2 26 ([qF,uV 0,eS]) hs (fun b4 w5 h6 hs=>aG (lL hs [.v 3 (pB b1),.o 4 qF 1 0 1,.v 5 qT,.v 6 (qP b1 1),.o 7 (nv (ab z)) 1 1 2] (ag 8 hs (ee true (ab z) aM _ _ hs.g) (fun w7 h8 hs=>lP 0 0 (ic (cb true (ab z))) hs (fun w9 hs=>ac hs [(0,0,3)] (iv (cb true (ab z))) (by have e:=om z;rw[hz] at e;exact congrArg iv e)))))))))
theorem Df (z:Int)(hl:(wds (ab z)).length≤1000000000)(hz:aD z=true)(w:World)(h:Hp)(g:G w h):CV 100 #[wX (.bool true) (ab z)] w h (iv (-z)):=by
 have hs:=sS g;exact go Tryz.func100 [(0,wX qT (ab z))] rfl (aE (lA 1 26 (wC qT (ab z)) hs (fun b1 w2 h3 hs=>lA 2 26 ([qF,uV 0,eS]) hs (fun b4 w5 h6 hs=>aG (lL hs [.v 3 (pB b1),.o 4 qT 1 0 1,.v 5 qF,.v 6 (qP b1 1),.o 7 (nv (ab z)) 1 1 2] (ag 8 hs (ee false (ab z) aM _ _ hs.g) (fun w7 h8 hs=>lP 0 0 (ic (cb false (ab z))) hs (fun w9 hs=>ac hs [(0,0,3)] (iv (cb false (ab z))) (by have e:=om z;rw[hz] at e;exact congrArg iv e)))))))))
theorem Ej (z:Int)(hl:(wds (ab z)).length≤1000000000)(w:World)(h:Hp)(g:G w h):CV 100 #[iv z] w h (iv (-z)):=by
 rcases hz:aD z with _|_<;>rw[gK hz]
 ·exact B9 z hl hz w h g
 ·exact Df z hl hz w h g
theorem AI (x y:Int)(hlx:(wds (ab x)).length≤1000000000)(hly:(wds (ab y)).length≤1000000000)(hx:aD x=false)(hy:aD y=false)(w:World)(h:Hp)(g:G w h):CV 128 #[wX (.bool false) (ab x),wX (.bool false) (ab y)] w h (iV (dr x y)):=by
 have hs:=sS g;refine go Tryz.func128 [(0,wX qF (ab x)),(1,wX qF (ab y))] rfl (aE (lA 2 26 (wC qF (ab x)) hs (fun b1 w2 h3 hs=>lA 3 26 (wC qF (ab y)) hs (fun b4 w5 h6 hs=>lL hs [.v 4 (iV 0)] (af (kZ (aa hs [.v 6 (pB b1),.o 7 qF 1 0 1,.m 8 7] (lG 9 ?_))))))));exact lG 10 (lL hs [.v 11 qF,.m 5 11] (ah (aa hs [.v 18 (pB b1),.o 19 qF 1 0 1,.m 17 19] (ah (aa hs [.v 21 (pB b4),.o 22 qF 0 0 1,.m 20 22] (ah (cK (aa hs [.v 23 (qP b1 1),.o 24 (nv (ab x)) 1 1 2,.v 25 (qP b4 1),.o 26 (nv (ab y)) 0 1 2] (ag 27 hs (jC (ab x) (ab y) aM aM _ _ hs.g) (fun w7 h8 hs=>lL hs [.m 4 27] (ac hs [] (iV (bK (ab x) (ab y))) (by rw[uG (a7 hx) (a7 hy)]))))))))))))
theorem x8 (x y:Int)(hlx:(wds (ab x)).length≤1000000000)(hly:(wds (ab y)).length≤1000000000)(hx:aD x=false)(hy:aD y=true)(w:World)(h:Hp)(g:G w h):CV 128 #[wX (.bool false) (ab x),wX (.bool true) (ab y)] w h (iV (dr x y)):=by
 have hs:=sS g;refine go Tryz.func128 [(0,wX qF (ab x)),(1,wX qT (ab y))] rfl (aE (lA 2 26 (wC qF (ab x)) hs (fun b1 w2 h3 hs=>lA 3 26 (wC qT (ab y)) hs (fun b4 w5 h6 hs=>lL hs [.v 4 (iV 0)] (af (kZ (aa hs [.v 6 (pB b1),.o 7 qF 1 0 1,.m 8 7] (lG 9 ?_))))))));exact lG 10 (lL hs [.v 11 qF,.m 5 11] (ah (aa hs [.v 18 (pB b1),.o 19 qF 1 0 1,.m 17 19] (ah (aa hs [.v 21 (pB b4),.o 22 qT 0 0 1,.m 20 22] (ao (aa hs [.v 4 (iV 1)] (ac hs [] (iV 1) (by rw[wo (by have:=a7 hx;have:=bh hy;omega)])))))))))
theorem BD (x y:Int)(hlx:(wds (ab x)).length≤1000000000)(hly:(wds (ab y)).length≤1000000000)(hx:aD x=true)(hy:aD y=false)(w:World)(h:Hp)(g:G w h):CV 128 #[wX (.bool true) (ab x),wX (.bool false) (ab y)] w h (iV (dr x y)):=by
 have hs:=sS g;exact go Tryz.func128 [(0,wX qT (ab x)),(1,wX qF (ab y))] rfl (aE (lA 2 26 (wC qT (ab x)) hs (fun b1 w2 h3 hs=>lA 3 26 (wC qF (ab y)) hs (fun b4 w5 h6 hs=>lL hs [.v 4 (iV 0)] (af (kZ (aa hs [.v 6 (pB b1),.o 7 qT 1 0 1,.m 8 7,.v 9 (pB b4),.o 10 qF 0 0 1,.v 11 qF,.m 5 11] (ah (aa hs [.v 18 (pB b1),.o 19 qT 1 0 1,.m 17 19] (ao (aa hs [.v 4 (iV (-1))] (ac hs [] (iV (-1)) (by rw[u6 (by have:=bh hx;have:=a7 hy;omega)])))))))))))))
theorem AQ (x y:Int)(hlx:(wds (ab x)).length≤1000000000)(hly:(wds (ab y)).length≤1000000000)(hx:aD x=true)(hy:aD y=true)(w:World)(h:Hp)(g:G w h):CV 128 #[wX (.bool true) (ab x),wX (.bool true) (ab y)] w h (iV (dr x y)):=by
 have hs:=sS g;exact go Tryz.func128 [(0,wX qT (ab x)),(1,wX qT (ab y))] rfl (aE (lA 2 26 (wC qT (ab x)) hs (fun b1 w2 h3 hs=>lA 3 26 (wC qT (ab y)) hs (fun b4 w5 h6 hs=>lL hs [.v 4 (iV 0)] (af (kZ (aa hs [.v 6 (pB b1),.o 7 qT 1 0 1,.m 8 7,.v 9 (pB b4),.o 10 qT 0 0 1,.v 11 qT,.m 5 11] (ao (aa hs [.v 12 (qP b4 1),.o 13 (nv (ab y)) 0 1 2,.v 14 (qP b1 1),.o 15 (nv (ab x)) 1 1 2] (ag 16 hs (jC (ab y) (ab x) aM aM _ _ hs.g) (fun w7 h8 hs=>lL hs [.m 4 16] (ac hs [] (iV (bK (ab y) (ab x))) (by rw[wd (bh hx) (bh hy)])))))))))))))
theorem qz (x y:Int)(hlx:(wds (ab x)).length≤1000000000)(hly:(wds (ab y)).length≤1000000000)(w:World)(h:Hp)(g:G w h):CV 128 #[iv x,iv y] w h (iV (dr x y)):=by
 rcases hx:aD x with _|_<;>rcases hy:aD y with _|_<;>rw[gK hx,gK hy]
 ·exact AI x y hlx hly hx hy w h g
 ·exact x8 x y hlx hly hx hy w h g
 ·exact BD x y hlx hly hx hy w h g
 ·exact AQ x y hlx hly hx hy w h g
theorem xB (x y:Int)(hlx:(wds (ab x)).length≤1000000000)(hly:(wds (ab y)).length≤1000000000)(hls:(wds (ab x+ab y)).length≤1000000000)(hx:aD x=false)(hy:aD y=false)(w:World)(h:Hp)(g:G w h):CV 90 #[wX (.bool false) (ab x),wX (.bool false) (ab y)] w h (iv (x+y)):=by
 have hs:=sS g;have hx_:=a7 hx;have hy_:=a7 hy;refine go Tryz.func90 [(0,wX qF (ab x)),(1,wX qF (ab y))] rfl (aE (lA 2 26 (wC qF (ab x)) hs (fun b1 w2 h3 hs=>lA 3 26 (wC qF (ab y)) hs (fun b4 w5 h6 hs=>lA 4 26 ([qF,uV 0,eS]) hs (fun b7 w8 h9 hs=>af (aa hs [.v 9 (pB b1),.o 10 qF 2 0 1,.v 11 (pB b4),.o 12 qF 1 0 1,.v 13 qT] (ao (cQ (cR 8 [] mixed hs av ?_)))))))));exact eV 0 14 (pB b1) (eO 1 15 [(2,0,1)] qF hs (eV 2 16 (qP b1 1) (eO 3 17 [(2,1,2)] (nv (ab x)) hs (eV 4 18 (qP b4 1) (eO 5 19 [(1,1,2)] (nv (ab y)) hs (aq 6 20 hs (fun _ _ hs=>BC (ab x) (ab y) aM aM _ _ hs.g) (fun _ _ hs=>aq 7 21 hs (fun _ _ hs=>ee false ((ab x)+(ab y)) (by first|assumption|exact au (Nat.sub_le _ _) aM) _ _ hs.g) (fun _ _ hs=>cC hs (fun _ _ hs=>tP 8 0 0 (ic (cb false ((ab x)+(ab y)))) hs (fun _ hs=>tN (kX (hs.ret [(0,0,3)] (iv (cb false ((ab x)+(ab y)))) (congrArg iv (by unfold cb ab at *;simp;omega))))))))))))))
theorem tU (x y:Int)(hlx:(wds (ab x)).length≤1000000000)(hly:(wds (ab y)).length≤1000000000)(hls:(wds (ab x+ab y)).length≤1000000000)(hx:aD x=false)(hy:aD y=true)(hge:ab y≤ab x)(w:World)(h:Hp)(g:G w h):CV 90 #[wX (.bool false) (ab x),wX (.bool true) (ab y)] w h (iv (x+y)):=by
 have hs:=sS g;have hx_:=a7 hx;have hy_:=bh hy;exact go Tryz.func90 [(0,wX qF (ab x)),(1,wX qT (ab y))] rfl (aE (lA 2 26 (wC qF (ab x)) hs (fun b1 w2 h3 hs=>lA 3 26 (wC qT (ab y)) hs (fun b4 w5 h6 hs=>lA 4 26 ([qF,uV 0,eS]) hs (fun b7 w8 h9 hs=>af (aa hs [.v 9 (pB b1),.o 10 qF 2 0 1,.v 11 (pB b4),.o 12 qT 1 0 1,.v 13 qF] (ah (cK (cQ (aa hs [.v 23 (qP b1 1),.o 24 (nv (ab x)) 2 1 2,.v 25 (qP b4 1),.o 26 (nv (ab y)) 1 1 2] (ag 27 hs (uJ (ab x) (ab y) oM aM aM _ _ hs.g) (fun _ _ hs=>lL hs [.m 22 27,.v 28 (nv ((ab x)-(ab y))),.v 29 qT] (lA 5 24 ([uV 0,eS]) hs (fun b12 _ _ hs=>lP 0 0 (nc ((ab x)-(ab y))) hs (fun _ hs=>lL hs [.m 6 29] (aG (lL hs [.m 30 6] (ao (aa hs [.v 31 (pB b1),.o 32 qF 3 0 1,.o 33 (nv ((ab x)-(ab y))) 0 0 2] (ag 34 hs (ee false ((ab x)-(ab y)) (by first|assumption|exact au (Nat.sub_le _ _) aM) _ _ hs.g) (fun _ _ hs=>lP 1 0 (ic (cb false ((ab x)-(ab y)))) hs (fun _ hs=>ac hs [(1,0,3)] (iv (cb false ((ab x)-(ab y)))) (congrArg iv (by unfold cb ab at *;simp;omega))))))))))))))))))))))))
theorem v7 (x y:Int)(hlx:(wds (ab x)).length≤1000000000)(hly:(wds (ab y)).length≤1000000000)(hls:(wds (ab x+ab y)).length≤1000000000)(hx:aD x=false)(hy:aD y=true)(hlt:ab x<ab y)(w:World)(h:Hp)(g:G w h):CV 90 #[wX (.bool false) (ab x),wX (.bool true) (ab y)] w h (iv (x+y)):=by
 have hs:=sS g;have hx_:=a7 hx;have hy_:=bh hy;exact go Tryz.func90 [(0,wX qF (ab x)),(1,wX qT (ab y))] rfl (aE (lA 2 26 (wC qF (ab x)) hs (fun b1 w2 h3 hs=>lA 3 26 (wC qT (ab y)) hs (fun b4 w5 h6 hs=>lA 4 26 ([qF,uV 0,eS]) hs (fun b7 w8 h9 hs=>af (aa hs [.v 9 (pB b1),.o 10 qF 2 0 1,.v 11 (pB b4),.o 12 qT 1 0 1,.v 13 qF] (ah (cK (cQ (aa hs [.v 23 (qP b1 1),.o 24 (nv (ab x)) 2 1 2,.v 25 (qP b4 1),.o 26 (nv (ab y)) 1 1 2] (ag 27 hs (xc (ab x) (ab y) oM aM aM _ _ hs.g) (fun _ _ hs=>lL hs [.m 22 27,.v 28 (nv 0),.v 29 qF] (lA 5 24 ([uV 0,eS]) hs (fun b12 _ _ hs=>lP 0 0 (nc 0) hs (fun _ hs=>lL hs [.m 6 29] (aG (lL hs [.m 30 6] (ah (cK (aa hs [.v 36 (qP b4 1),.o 37 (nv (ab y)) 2 1 2,.v 38 (qP b1 1),.o 39 (nv (ab x)) 3 1 2] (ag 40 hs (uJ (ab y) (ab x) oM aM aM _ _ hs.g) (fun _ _ hs=>lL hs [.m 35 40,.v 41 (nv ((ab y)-(ab x))),.v 42 qT] (lA 7 24 ([uV 0,eS]) hs (fun b18 _ _ hs=>lP 0 0 (nc ((ab y)-(ab x))) hs (fun _ hs=>lL hs [.m 8 42] (aG (lL hs [.v 43 (pB b4),.o 44 qT 3 0 1,.o 45 (nv ((ab y)-(ab x))) 0 0 2] (ag 46 hs (ee true ((ab y)-(ab x)) (by first|assumption|exact au (Nat.sub_le _ _) aM) _ _ hs.g) (fun _ _ hs=>lP 2 0 (ic (cb true ((ab y)-(ab x)))) hs (fun _ hs=>ac hs [(2,0,3)] (iv (cb true ((ab y)-(ab x)))) (congrArg iv (by unfold cb ab at *;simp;omega))))))))))))))))))))))))))))))))
theorem tK (x y:Int)(hlx:(wds (ab x)).length≤1000000000)(hly:(wds (ab y)).length≤1000000000)(hls:(wds (ab x+ab y)).length≤1000000000)(hx:aD x=true)(hy:aD y=false)(hge:ab y≤ab x)(w:World)(h:Hp)(g:G w h):CV 90 #[wX (.bool true) (ab x),wX (.bool false) (ab y)] w h (iv (x+y)):=by
 have hs:=sS g;have hx_:=bh hx;have hy_:=a7 hy;exact go Tryz.func90 [(0,wX qT (ab x)),(1,wX qF (ab y))] rfl (aE (lA 2 26 (wC qT (ab x)) hs (fun b1 w2 h3 hs=>lA 3 26 (wC qF (ab y)) hs (fun b4 w5 h6 hs=>lA 4 26 ([qF,uV 0,eS]) hs (fun b7 w8 h9 hs=>af (aa hs [.v 9 (pB b1),.o 10 qT 2 0 1,.v 11 (pB b4),.o 12 qF 1 0 1,.v 13 qF] (ah (cK (cQ (aa hs [.v 23 (qP b1 1),.o 24 (nv (ab x)) 2 1 2,.v 25 (qP b4 1),.o 26 (nv (ab y)) 1 1 2] (ag 27 hs (uJ (ab x) (ab y) oM aM aM _ _ hs.g) (fun _ _ hs=>lL hs [.m 22 27,.v 28 (nv ((ab x)-(ab y))),.v 29 qT] (lA 5 24 ([uV 0,eS]) hs (fun b12 _ _ hs=>lP 0 0 (nc ((ab x)-(ab y))) hs (fun _ hs=>lL hs [.m 6 29] (aG (lL hs [.m 30 6] (ao (aa hs [.v 31 (pB b1),.o 32 qT 3 0 1,.o 33 (nv ((ab x)-(ab y))) 0 0 2] (ag 34 hs (ee true ((ab x)-(ab y)) (by first|assumption|exact au (Nat.sub_le _ _) aM) _ _ hs.g) (fun _ _ hs=>lP 1 0 (ic (cb true ((ab x)-(ab y)))) hs (fun _ hs=>ac hs [(1,0,3)] (iv (cb true ((ab x)-(ab y)))) (congrArg iv (by unfold cb ab at *;simp;omega))))))))))))))))))))))))
theorem uz (x y:Int)(hlx:(wds (ab x)).length≤1000000000)(hly:(wds (ab y)).length≤1000000000)(hls:(wds (ab x+ab y)).length≤1000000000)(hx:aD x=true)(hy:aD y=false)(hlt:ab x<ab y)(w:World)(h:Hp)(g:G w h):CV 90 #[wX (.bool true) (ab x),wX (.bool false) (ab y)] w h (iv (x+y)):=by
 have hs:=sS g;have hx_:=bh hx;have hy_:=a7 hy;exact go Tryz.func90 [(0,wX qT (ab x)),(1,wX qF (ab y))] rfl (aE (lA 2 26 (wC qT (ab x)) hs (fun b1 w2 h3 hs=>lA 3 26 (wC qF (ab y)) hs (fun b4 w5 h6 hs=>lA 4 26 ([qF,uV 0,eS]) hs (fun b7 w8 h9 hs=>af (aa hs [.v 9 (pB b1),.o 10 qT 2 0 1,.v 11 (pB b4),.o 12 qF 1 0 1,.v 13 qF] (ah (cK (cQ (aa hs [.v 23 (qP b1 1),.o 24 (nv (ab x)) 2 1 2,.v 25 (qP b4 1),.o 26 (nv (ab y)) 1 1 2] (ag 27 hs (xc (ab x) (ab y) oM aM aM _ _ hs.g) (fun _ _ hs=>lL hs [.m 22 27,.v 28 (nv 0),.v 29 qF] (lA 5 24 ([uV 0,eS]) hs (fun b12 _ _ hs=>lP 0 0 (nc 0) hs (fun _ hs=>lL hs [.m 6 29] (aG (lL hs [.m 30 6] (ah (cK (aa hs [.v 36 (qP b4 1),.o 37 (nv (ab y)) 2 1 2,.v 38 (qP b1 1),.o 39 (nv (ab x)) 3 1 2] (ag 40 hs (uJ (ab y) (ab x) oM aM aM _ _ hs.g) (fun _ _ hs=>lL hs [.m 35 40,.v 41 (nv ((ab y)-(ab x))),.v 42 qT] (lA 7 24 ([uV 0,eS]) hs (fun b18 _ _ hs=>lP 0 0 (nc ((ab y)-(ab x))) hs (fun _ hs=>lL hs [.m 8 42] (aG (lL hs [.v 43 (pB b4),.o 44 qF 3 0 1,.o 45 (nv ((ab y)-(ab x))) 0 0 2] (ag 46 hs (ee false ((ab y)-(ab x)) (by first|assumption|exact au (Nat.sub_le _ _) aM) _ _ hs.g) (fun _ _ hs=>lP 2 0 (ic (cb false ((ab y)-(ab x)))) hs (fun _ hs=>ac hs [(2,0,3)] (iv (cb false ((ab y)-(ab x)))) (congrArg iv (by unfold cb ab at *;simp;omega))))))))))))))))))))))))))))))))
theorem AT (x y:Int)(hlx:(wds (ab x)).length≤1000000000)(hly:(wds (ab y)).length≤1000000000)(hls:(wds (ab x+ab y)).length≤1000000000)(hx:aD x=true)(hy:aD y=true)(w:World)(h:Hp)(g:G w h):CV 90 #[wX (.bool true) (ab x),wX (.bool true) (ab y)] w h (iv (x+y)):=by
 have hs:=sS g;have hx_:=bh hx;have hy_:=bh hy;refine go Tryz.func90 [(0,wX qT (ab x)),(1,wX qT (ab y))] rfl (aE (lA 2 26 (wC qT (ab x)) hs (fun b1 w2 h3 hs=>lA 3 26 (wC qT (ab y)) hs (fun b4 w5 h6 hs=>lA 4 26 ([qF,uV 0,eS]) hs (fun b7 w8 h9 hs=>af (aa hs [.v 9 (pB b1),.o 10 qT 2 0 1,.v 11 (pB b4),.o 12 qT 1 0 1,.v 13 qT] (ao (cQ (cR 8 [] mixed hs av ?_)))))))));exact eV 0 14 (pB b1) (eO 1 15 [(2,0,1)] qT hs (eV 2 16 (qP b1 1) (eO 3 17 [(2,1,2)] (nv (ab x)) hs (eV 4 18 (qP b4 1) (eO 5 19 [(1,1,2)] (nv (ab y)) hs (aq 6 20 hs (fun _ _ hs=>BC (ab x) (ab y) aM aM _ _ hs.g) (fun _ _ hs=>aq 7 21 hs (fun _ _ hs=>ee true ((ab x)+(ab y)) (by first|assumption|exact au (Nat.sub_le _ _) aM) _ _ hs.g) (fun _ _ hs=>cC hs (fun _ _ hs=>tP 8 0 0 (ic (cb true ((ab x)+(ab y)))) hs (fun _ hs=>tN (kX (hs.ret [(0,0,3)] (iv (cb true ((ab x)+(ab y)))) (congrArg iv (by unfold cb ab at *;simp;omega))))))))))))))
theorem xO (x y:Int)(hlx:(wds (ab x)).length≤1000000000)(hly:(wds (ab y)).length≤1000000000)(hls:(wds (ab x*ab y)).length≤1000000000)(hx:aD x=false)(hy:aD y=false)(w:World)(h:Hp)(g:G w h):CV 98 #[wX (.bool false) (ab x),wX (.bool false) (ab y)] w h (iv (x*y)):=by
 have hs:=sS g;have hx_:=a7 hx;have hy_:=a7 hy;refine go Tryz.func98 [(0,wX qF (ab x)),(1,wX qF (ab y))] rfl (aE (lA 2 26 (wC qF (ab x)) hs (fun b1 w2 h3 hs=>lA 3 26 (wC qF (ab y)) hs (fun b4 w5 h6 hs=>lA 4 26 ([qF,uV 0,eS]) hs (fun b7 w8 h9 hs=>af (cR 11 [] mixed hs av ?_))))));exact eV 0 5 (pB b1) (eO 1 6 [(2,0,1)] qF hs (eV 2 7 (pB b4) (eO 3 8 [(1,0,1)] qF hs (eV 4 9 qF (eV 5 10 (qP b1 1) (eO 6 11 [(2,1,2)] (nv (ab x)) hs (eV 7 12 (qP b4 1) (eO 8 13 [(1,1,2)] (nv (ab y)) hs (aq 9 14 hs (fun _ _ hs=>jB (ab x) (ab y) aM aM _ _ hs.g) (fun _ _ hs=>aq 10 15 hs (fun _ _ hs=>ee false ((ab x)*(ab y)) aM _ _ hs.g) (fun _ _ hs=>cC hs (fun _ _ hs=>tP 11 0 0 (ic (cb false ((ab x)*(ab y)))) hs (fun _ hs=>tN (kX (hs.ret [(0,0,3)] (iv (cb false ((ab x)*(ab y)))) (by rw[←lf x y,hx,hy];rfl))))))))))))))))
theorem x7 (x y:Int)(hlx:(wds (ab x)).length≤1000000000)(hly:(wds (ab y)).length≤1000000000)(hls:(wds (ab x*ab y)).length≤1000000000)(hx:aD x=false)(hy:aD y=true)(w:World)(h:Hp)(g:G w h):CV 98 #[wX (.bool false) (ab x),wX (.bool true) (ab y)] w h (iv (x*y)):=by
 have hs:=sS g;have hx_:=a7 hx;have hy_:=bh hy;refine go Tryz.func98 [(0,wX qF (ab x)),(1,wX qT (ab y))] rfl (aE (lA 2 26 (wC qF (ab x)) hs (fun b1 w2 h3 hs=>lA 3 26 (wC qT (ab y)) hs (fun b4 w5 h6 hs=>lA 4 26 ([qF,uV 0,eS]) hs (fun b7 w8 h9 hs=>af (cR 11 [] mixed hs av ?_))))));exact eV 0 5 (pB b1) (eO 1 6 [(2,0,1)] qF hs (eV 2 7 (pB b4) (eO 3 8 [(1,0,1)] qT hs (eV 4 9 qT (eV 5 10 (qP b1 1) (eO 6 11 [(2,1,2)] (nv (ab x)) hs (eV 7 12 (qP b4 1) (eO 8 13 [(1,1,2)] (nv (ab y)) hs (aq 9 14 hs (fun _ _ hs=>jB (ab x) (ab y) aM aM _ _ hs.g) (fun _ _ hs=>aq 10 15 hs (fun _ _ hs=>ee true ((ab x)*(ab y)) aM _ _ hs.g) (fun _ _ hs=>cC hs (fun _ _ hs=>tP 11 0 0 (ic (cb true ((ab x)*(ab y)))) hs (fun _ hs=>tN (kX (hs.ret [(0,0,3)] (iv (cb true ((ab x)*(ab y)))) (by rw[←lf x y,hx,hy];rfl))))))))))))))))
theorem x6 (x y:Int)(hlx:(wds (ab x)).length≤1000000000)(hly:(wds (ab y)).length≤1000000000)(hls:(wds (ab x*ab y)).length≤1000000000)(hx:aD x=true)(hy:aD y=false)(w:World)(h:Hp)(g:G w h):CV 98 #[wX (.bool true) (ab x),wX (.bool false) (ab y)] w h (iv (x*y)):=by
 have hs:=sS g;have hx_:=bh hx;have hy_:=a7 hy;refine go Tryz.func98 [(0,wX qT (ab x)),(1,wX qF (ab y))] rfl (aE (lA 2 26 (wC qT (ab x)) hs (fun b1 w2 h3 hs=>lA 3 26 (wC qF (ab y)) hs (fun b4 w5 h6 hs=>lA 4 26 ([qF,uV 0,eS]) hs (fun b7 w8 h9 hs=>af (cR 11 [] mixed hs av ?_))))));exact eV 0 5 (pB b1) (eO 1 6 [(2,0,1)] qT hs (eV 2 7 (pB b4) (eO 3 8 [(1,0,1)] qF hs (eV 4 9 qT (eV 5 10 (qP b1 1) (eO 6 11 [(2,1,2)] (nv (ab x)) hs (eV 7 12 (qP b4 1) (eO 8 13 [(1,1,2)] (nv (ab y)) hs (aq 9 14 hs (fun _ _ hs=>jB (ab x) (ab y) aM aM _ _ hs.g) (fun _ _ hs=>aq 10 15 hs (fun _ _ hs=>ee true ((ab x)*(ab y)) aM _ _ hs.g) (fun _ _ hs=>cC hs (fun _ _ hs=>tP 11 0 0 (ic (cb true ((ab x)*(ab y)))) hs (fun _ hs=>tN (kX (hs.ret [(0,0,3)] (iv (cb true ((ab x)*(ab y)))) (by rw[←lf x y,hx,hy];rfl))))))))))))))))
theorem xC (x y:Int)(hlx:(wds (ab x)).length≤1000000000)(hly:(wds (ab y)).length≤1000000000)(hls:(wds (ab x*ab y)).length≤1000000000)(hx:aD x=true)(hy:aD y=true)(w:World)(h:Hp)(g:G w h):CV 98 #[wX (.bool true) (ab x),wX (.bool true) (ab y)] w h (iv (x*y)):=by
 have hs:=sS g;have hx_:=bh hx;have hy_:=bh hy;refine go Tryz.func98 [(0,wX qT (ab x)),(1,wX qT (ab y))] rfl (aE (lA 2 26 (wC qT (ab x)) hs (fun b1 w2 h3 hs=>lA 3 26 (wC qT (ab y)) hs (fun b4 w5 h6 hs=>lA 4 26 ([qF,uV 0,eS]) hs (fun b7 w8 h9 hs=>af (cR 11 [] mixed hs av ?_))))));exact eV 0 5 (pB b1) (eO 1 6 [(2,0,1)] qT hs (eV 2 7 (pB b4) (eO 3 8 [(1,0,1)] qT hs (eV 4 9 qF (eV 5 10 (qP b1 1) (eO 6 11 [(2,1,2)] (nv (ab x)) hs (eV 7 12 (qP b4 1) (eO 8 13 [(1,1,2)] (nv (ab y)) hs (aq 9 14 hs (fun _ _ hs=>jB (ab x) (ab y) aM aM _ _ hs.g) (fun _ _ hs=>aq 10 15 hs (fun _ _ hs=>ee false ((ab x)*(ab y)) aM _ _ hs.g) (fun _ _ hs=>cC hs (fun _ _ hs=>tP 11 0 0 (ic (cb false ((ab x)*(ab y)))) hs (fun _ hs=>tN (kX (hs.ret [(0,0,3)] (iv (cb false ((ab x)*(ab y)))) (by rw[←lf x y,hx,hy];rfl))))))))))))))))
theorem B6 (x y:Int)(hl:(wds (ab x)).length+(wds (ab y)).length≤999999999)(w:World)(h:Hp)(g:G w h):CV 90 #[iv x,iv y] w h (iv (x+y)):=by
 have hls:(wds (ab x+ab y)).length≤1000000000:=Nat.le_trans iF oM
 rcases hx:aD x with _|_<;>rcases hy:aD y with _|_<;>rw[gK hx,gK hy]
 ·exact xB x y oM oM hls hx hy w h g
 ·rcases Nat.lt_or_ge (ab x) (ab y) with hc|hc
  ·exact v7 x y oM oM hls hx hy hc w h g
  ·exact tU x y oM oM hls hx hy hc w h g
 ·rcases Nat.lt_or_ge (ab x) (ab y) with hc|hc
  ·exact uz x y oM oM hls hx hy hc w h g
  ·exact tK x y oM oM hls hx hy hc w h g
 ·exact AT x y oM oM hls hx hy w h g
theorem ut (x y:Int)(hl:(wds (ab x)).length+(wds (ab y)).length≤1000000000)(w:World)(h:Hp)(g:G w h):CV 98 #[iv x,iv y] w h (iv (x*y)):=by
 have hls:(wds (ab x*ab y)).length≤1000000000:=Nat.le_trans cn oM
 rcases hx:aD x with _|_<;>rcases hy:aD y with _|_<;>rw[gK hx,gK hy]
 ·exact xO x y oM oM hls hx hy w h g
 ·exact x7 x y oM oM hls hx hy w h g
 ·exact x6 x y oM oM hls hx hy w h g
 ·exact xC x y oM oM hls hx hy w h g
theorem sU (n:Nat)(hl:(wds n).length≤1000000000)(w:World)(h:Hp)(g:G w h):CR 111 #[nv n] w h (fun v h1=>∃ A,v=.slice A ((nb n+7)/8) ((nb n+7)/8)∧SlO 1 mN 0 h1 A (d6 n ((nb n+7)/8))):=by
 have hs:=sS g;have hnb:=jf n;have hwl:=jo n;refine go Tryz.func111 [(0,nv n)] rfl (aE (lA 1 24 (nc n) hs (fun b1 w2 h3 hs=>lL hs [.v 2 (sZ)] (aG (lL hs [.o 7 (nv n) 0 0 2] (ag 8 hs (dm n hl _ _ hs.g) (fun w4 h5 hs=>bH 9 ((nb n:Nat)+7) ((nb n)+7) (lV 10 (nV (((nb n)+7)/8)) ?_ (hr:=aU (cZ (t:=3) (u:=3) (x:=.tmp 9) (y:=.const (iV 8)) (k:=.i64) (a:=(((nb n)+7:Nat):Int)) (b:=(8:Int)) kR kR kR oM _) (cX ((nb n)+7) 8 oM))))))))));refine lL hs [.m 3 10] (aG (lL hs [.m 11 3] (lK 12 5 (((nb n)+7)/8:Nat) 1 1 (.int .u8 0) mN 0 hs (fun b6 w7 h8 hs=>?_))));have hl9:(List.replicate (((nb n)+7)/8:Nat) 0).length=(((nb n)+7)/8:Nat):=by simp
 refine lL hs [.m 4 12] (aG (lL hs [.o 13 (nv n) 1 0 2] (lC 14 hs (d9 n oM _ _ hs.g) ?_)));rintro _ _ zd hs ⟨Aw1,cw1,rfl,hcw1,hw1⟩;replace hs:=hs.aS hw1;refine lL hs [.m 5 14] (af (aa hs [.m 15 3,.v 16 (iV 0)] (bn ?_)));refine bQ _ (CG.loop (fun μ_ Γ w_=>∃ (i:Nat) (l:List Nat) (h_:Hp),μ_=((nb n+7)/8)-i∧Γ=[(2,sZ),(3,nV (((nb n)+7)/8)),(4,qS (sB b6) (((nb n)+7)/8:Nat) (((nb n)+7)/8:Nat)),(5,qS Aw1 ((wds n).length) cw1),(15,nV (((nb n)+7)/8)),(16,nV i)]∧SS w h w_ h_ [⟨b6,5,(l).flatMap mN⟩,⟨b1,24,nc n⟩] [] [fun h_=>SlO 1 aj 0 h_ Aw1 (wds n)]∧i≤((nb n+7)/8)∧l.length=((nb n+7)/8)∧(∀ j,j<i→l.getD (((nb n+7)/8)-1-j) 0=n/256^j%256)) _ ⟨0,List.replicate (((nb n)+7)/8:Nat) 0,zd,rfl,rfl,hs.to _ _,Nat.zero_le _,hl9,(fun j hj=>absurd hj oM)⟩ ?_);rintro _ _ _ ⟨i,l,ze,hm14,rfl,hs,hi,hll,hg⟩;have hwi:=ku n (i/8);refine aE ?_;cases za:(decide ((i:Int)<((((nb n)+7)/8:Nat):Int)))
 ·
  have zb:=oF za;refine lB 17 za (af (cw (CG.exit ?_)))
  show CG _ _ _ _ _ _ _ _
  refine aa hs [.m 36 4,.m 2 36] (lN (kX ?_));have him:i=((nb n+7)/8):=by omega
  have hlb:l=d6 n ((nb n+7)/8):=sf hll (fun j hj=>hg j oM);rw[hlb] at hs
  obtain ⟨_,hs,sg17,lo18,bc19⟩:=hs.pub 0;replace hs:=(hs.to [⟨b1,24,nc n⟩] []).aS (SlO.of_flat (sz:=1) (f:=mN) (d:=0) (b:=b6) (o:=0) (l:=d6 n ((nb n+7)/8)) (fun _=>rfl) sg17);exact hs.ret [] (qS (sB b6) (((nb n)+7)/8:Nat) (((nb n)+7)/8:Nat)) (⟨sB b6,rfl,hs.f.1⟩)
 have zb:=oT za;refine lB 17 za (af (ce (cK (cQ (kZ (aa hs [.m 18 16,.m 6 18] (lN (kQ (lL hs [.m 19 4,.m 20 3] (bH 21 ((((nb n)+7)/8:Nat)-1) ((((nb n)+7)/8:Nat)-1) ?_))))))))));refine lL hs [.m 22 6] (bH 23 (((((nb n)+7)/8:Nat)-1:Nat)-(i:Nat)) (((((nb n)+7)/8:Nat)-1:Nat)-i) ?_);refine lL hs [.m 24 5,.m 25 6] (lV 26 (nV (i/8)) ?_ (hr:=aU (cZ (t:=3) (u:=3) (x:=.tmp 25) (y:=.const (iV 8)) (k:=.i64) (a:=(i:Int)) (b:=(8:Int)) kR kR kR oM _) (cX i 8 oM)));refine lX 27 Aw1 ((wds n).length) cw1 1 (i/8:Nat) (i/8) ((hs.f.1).ok oM) (lH 28 (mV ((wds n).getD (i/8) 0)) hs ((hs.f.1).el (i/8) oM) (lL hs [.m 29 6] (lV 30 (nV (i%8)) ?_ (hr:=aU (eE (t:=3) (u:=3) (x:=.tmp 29) (y:=.const (iV 8)) (k:=.i64) (a:=(i:Int)) (b:=(8:Int)) kR kR kR oM _) (cJ i 8)))));refine bH 31 (8*(i%8:Nat)) (8*(i%8)) (lV 32 (mV (((wds n).getD (i/8) 0)/2^(8*(i%8)))) ?_ (hr:=eP (t:=22) (u:=3) (x:=.tmp 28) (y:=.tmp 31) (ky:=.i64) (a:=((wds n).getD (i/8) 0)) (n:=(8*(i%8))) kR kR kR oM _));refine lV 33 (.int .u8 ((wds n).getD (i/8) 0/2^(8*(i%8))%256:Nat)) ?_ (hr:=aU (n:=IntKind.wrap .u8 (((wds n).getD (i/8) 0/2^(8*(i%8)):Nat):Int)) kR (BF _));refine lX 34 (sB b6) (((nb n)+7)/8:Nat) (((nb n)+7)/8:Nat) 1 (((((nb n)+7)/8:Nat)-1:Nat)-i:Nat) (((((nb n)+7)/8:Nat)-1:Nat)-i:Nat) rfl (lW 0 l mN 1 (((((nb n)+7)/8:Nat)-1:Nat)-i:Nat) ((wds n).getD (i/8) 0/2^(8*(i%8))%256:Nat) hs oM (fun _ hs=>?_));have zc:((l).set (((((nb n)+7)/8:Nat)-1:Nat)-i:Nat) ((wds n).getD (i/8) 0/2^(8*(i%8))%256:Nat)).length=(((nb n)+7)/8:Nat):=by rw[List.length_set];exact hll
 replace hs:=hs.to [⟨b6,5,((l).set (((((nb n)+7)/8:Nat)-1:Nat)-i:Nat) ((wds n).getD (i/8) 0/2^(8*(i%8))%256:Nat)).flatMap mN⟩,⟨b1,24,nc n⟩] [];refine lN (kQ (bH 35 ((i:Nat)+1) (i+1) ?_));refine lL hs [.m 16 35] (lD ?_);intro a_ ka;refine ⟨_,_,?_,⟨i+1,(l).set (((((nb n)+7)/8:Nat)-1:Nat)-i:Nat) ((wds n).getD (i/8) 0/2^(8*(i%8))%256:Nat),ze,rfl,rfl,hs.to _ _,oM,zc,(gR hll oM hg (qw n i))⟩,ka.to _ kR⟩
 omega
theorem xw (n m:Nat)(A:Option Addr)(c:Nat)(hc:m≤c)(hm:m≤10000000000)(hn:n<256^m)(w:World)(h:Hp)(g:G w h)(hA:SlO 1 mN 0 h A (d6 n m)):CV 184 #[.slice A m c] w h (nv n):=by
 have hs:=((sS g).aS hA);have hbl:=gp n m;refine go Tryz.func184 [(0,qS A m c)] rfl (aE (lA 2 24 ([uV 0,eS]) hs (fun b1 w2 h3 hs=>aG (lL hs [.m 5 0,.v 6 (nV m)] (bH 7 ((m:Nat)+7) (m+7) ?_)))));refine lV 8 (nV ((m+7)/8)) ?_ (hr:=aU (cZ (t:=3) (u:=3) (x:=.tmp 7) (y:=.const (iV 8)) (k:=.i64) (a:=((m+7:Nat):Int)) (b:=(8:Int)) kR kR kR oM _) (cX (m+7) 8 oM));refine lK 9 22 ((m+7)/8) 1 8 (uV 0) aj 0 hs (fun b4 w5 h6 hs=>?_);have hl7:(List.replicate ((m+7)/8) 0).length=((m+7)/8):=by simp
 refine lL hs [.m 3 9] (af (aa hs [.m 10 0,.v 11 (nV m),.v 12 (iV 0)] (bn ?_)));refine bQ _ (CG.loop (fun μ_ Γ w_=>∃ (i:Nat) (l:List Nat) (h_:Hp),μ_=m-i∧Γ=[(0,qS A m c),(2,pB b1),(3,qS (sB b4) ((m+7)/8) ((m+7)/8)),(11,nV m),(12,nV i)]∧SS w h w_ h_ [⟨b4,22,(l).flatMap aj⟩,⟨b1,24,[uV 0,eS]⟩] [] [fun h_=>SlO 1 mN 0 h_ A (d6 n m)]∧i≤m∧l.length=(m+7)/8∧Wd l∧aA l=n%256^i) _ ⟨0,List.replicate ((m+7)/8) 0,h6,rfl,rfl,hs.to _ _,Nat.zero_le _,hl7,Wd.rep _,(by show ak _ _=_;rw[dz,Nat.pow_zero,Nat.mod_one])⟩ ?_);rintro _ _ w8 ⟨i,l,h9,hm10,rfl,hs,hi,hll,hW,inv⟩;have hbi:=iJ n m (m-1-i);refine aE ?_;cases za:(decide ((i:Int)<(m:Int)))
 ·
  have zb:=oF za;refine lB 13 za (af (cw (CG.exit ?_)))
  show CG _ _ _ _ _ _ _ _
  refine aE ?_;have him:i=m:=by omega
  have hE:aA l=n:=by rw[inv,him];exact Nat.mod_eq_of_lt hn
  obtain ⟨_,hs,sg13,lo14,bc15⟩:=hs.pub 0;replace hs:=(hs.to [⟨b1,24,[uV 0,eS]⟩] []).aS (SlO.of_flat (sz:=1) (f:=aj) (d:=0) (b:=b4) (o:=0) (l:=l) (fun _=>rfl) sg13);exact lL hs [.m 36 3] (ag 37 hs (bR (sB b4) ((m+7)/8) (l) ((m+7)/8) (n) (by first|rfl|assumption|(simp;done)|(simp;omega)|omega) (hW) (hE) sM sM _ _ hs.g hs.f.1) (fun _ _ hs=>lP 0 0 (nc n) hs (fun _ hs=>ac hs [(0,0,2)] (nv n) rfl)))
 have zb:=oT za;refine lB 13 za (af (ce (cK (cQ (kZ (aa hs [.m 14 12,.m 4 14] (lN (cR 19 [] mixed hs av ?_))))))));refine eV 0 15 (qS (sB b4) ((m+7)/8) ((m+7)/8)) (eV 1 16 (nV i) (eV 2 17 (nV (i/8)) ?_ (hv:=fun _=>aU (cZ (t:=3) (u:=3) (x:=.tmp 16) (y:=.const (iV 8)) (k:=.i64) (a:=(i:Int)) (b:=(8:Int)) kR kR kR oM _) (cX i 8 oM))));refine eX 3 18 (sB b4) ((m+7)/8) ((m+7)/8) 1 (i/8:Nat) (i/8) rfl (eQ 4 19 0 l aj 1 0 (i/8) (mV ((l).getD (i/8) 0)) hs oM (eV 5 20 (qS A m c) (eV 6 21 (qS A m c) (eV 7 22 (nV m) (jO 8 23 ((m:Nat)-1) (m-1) (eV 9 24 (nV i) (jO 10 25 ((m-1:Nat)-(i:Nat)) ((m-1)-i) (eX 11 26 A m c 1 ((m-1)-i:Nat) ((m-1)-i) ((hs.f.1).ok oM) (eH 12 27 (.int .u8 ((d6 n m).getD ((m-1)-i) 0:Nat)) hs ((hs.f.1).el ((m-1)-i) oM) (eV 13 28 (mV ((d6 n m).getD ((m-1)-i) 0)) ?_ (hv:=fun _=>rU ((((d6 n m).getD ((m-1)-i) 0:Nat):Int)) kR (bx oM oM))))))))))));refine eV 14 29 (nV i) (eV 15 30 (nV (i%8)) ?_ (hv:=fun _=>aU (eE (t:=3) (u:=3) (x:=.tmp 29) (y:=.const (iV 8)) (k:=.i64) (a:=(i:Int)) (b:=(8:Int)) kR kR kR oM _) (cJ i 8)));refine jO 16 31 (8*(i%8:Nat)) (8*(i%8)) (eV 17 32 (mV (((d6 n m).getD ((m-1)-i) 0:Nat)*2^(8*(i%8))%18446744073709551616)) ?_ (hv:=fun _=>fx (t:=22) (u:=3) (x:=.tmp 28) (y:=.tmp 31) (ky:=.i64) (a:=((d6 n m).getD ((m-1)-i) 0:Nat)) (n:=(8*(i%8))) kR kR kR _));obtain ⟨hS1,hS2,hS3⟩:=oX oM inv (show (d6 n m).getD (m-1-i) 0=n/256^i%256 by rw[fP n m _ oM,show m-1-(m-1-i)=i by omega]);have hlg:=hW.get (i/8);refine eV 18 33 (mV (l.getD (i/8) 0+(d6 n m).getD (m-1-i) 0*2^(8*(i%8)))) ?_ (hv:=fun _=>aU (gT (t:=22) (u:=22) (x:=.tmp 19) (y:=.tmp 32) (a:=((l).getD (i/8) 0)) (b:=(((d6 n m).getD ((m-1)-i) 0:Nat)*2^(8*(i%8))%18446744073709551616:Nat)) kR kR kR oM oM _) (by rw[hS1]));refine cC hs (fun _ zd hs=>tX 19 34 (sB b4) ((m+7)/8) ((m+7)/8) 1 (i/8:Nat) (i/8) rfl (tW 20 0 l aj 1 (i/8) (l.getD (i/8) 0+(d6 n m).getD (m-1-i) 0*2^(8*(i%8)):Nat) hs oM (fun _ hs=>?_)));have zc:((l).set (i/8) (l.getD (i/8) 0+(d6 n m).getD (m-1-i) 0*2^(8*(i%8)):Nat)).length=((m+7)/8):=by rw[List.length_set];exact hll
 replace hs:=hs.to [⟨b4,22,((l).set (i/8) (l.getD (i/8) 0+(d6 n m).getD (m-1-i) 0*2^(8*(i%8)):Nat)).flatMap aj⟩,⟨b1,24,[uV 0,eS]⟩] [];refine tN (kQ (bH 35 ((i:Nat)+1) (i+1) ?_));refine lL hs [.m 12 35] (lD ?_);intro a_ ka;refine ⟨_,_,?_,⟨i+1,(l).set (i/8) (l.getD (i/8) 0+(d6 n m).getD (m-1-i) 0*2^(8*(i%8)):Nat),zd,rfl,rfl,hs.to _ _,oM,zc,(hW.set _ hS2),hS3⟩,ka.to _ kR⟩
 omega
theorem Ba (n k:Nat)(hl:(wds n).length≤1000000000)(hk:k≤65536)(w:World)(h:Hp)(g:G w h):CV 162 #[nv n,nV k] w h (nv (n*2^k)):=by
 have hs:=sS g;refine go Tryz.func162 [(0,nv n),(1,nV k)] rfl (aE (lA 2 24 (nc n) hs (fun b1 w2 h3 hs=>lA 4 24 ([uV 0,eS]) hs (fun b4 w5 h6 hs=>aG (lL hs [.m 5 1] (lV 6 (nV k) ?_ (hr:=aU (n:=if (65536:Int)<(k:Int) then (65536:Int) else (k:Int)) kR (if_neg oM))))))));refine lV 7 (nV k) ?_ (hr:=aU (n:=if (k:Int)>(-65536:Int) then (k:Int) else (-65536:Int)) kR (if_pos oM));refine lL hs [.m 1 7] (af (aa hs [.m 8 1] ?_));have ⟨hb7,phb7⟩:=dF (p:=(k:Int)<(0:Int)) oM;refine lB 9 hb7 (ah (cK (aa hs [.o 16 (nv n) 1 0 2] (lC 17 hs (d9 n oM _ _ hs.g) ?_))));rintro _ w8 h9 hs ⟨Aw1,cw1,rfl,hcw1,hw1⟩;replace hs:=hs.aS hw1;refine lL hs [.m 18 1] (lC 19 hs (sL Aw1 cw1 (wds n) (Wd.wds n) hl k oM _ _ hs.g hs.f.1) ?_);rintro _ _ _ hs ⟨Az,cz,z,rfl,hcz,hlz,hWz,hVz,hz⟩;replace hs:=hs.aS hz;exact ag 20 hs (bR Az cz (z) z.length ((n*2^k)) (by first|rfl|assumption|(simp;done)|(simp;omega)|omega) (hWz) (by rw[hVz,aI]) sM sM _ _ hs.g hs.f.1) (fun _ _ hs=>lP 0 0 (nc (n*2^k)) hs (fun _ hs=>ac hs [(0,0,2)] (nv (n*2^k)) rfl))
section
variable {P:Program} {Γ:bI} {o:Oper}
theorem BX {t e:TypeId}{x ix:Operand}{b off sz len:Nat}{i:Int}{kk:IntKind}(k:Nat)(ho:o.op=.indexAddr t x ix)(hx:ev Γ x=.pointer (some ⟨b,off,none⟩))(hi:ev Γ ix=.int kk i)
    (hu:P.underlying t=some (.array len e))(hs:(P.info? e).map (·.size)=some sz)(hk:i=k)(hlt:k<len)(w:World) :
    (execOp (ev Γ) o).run P w=.ok (.value (.pointer (some ⟨b,off+k*sz,none⟩))) w:=by
  subst hk
  unfold execOp
  simp only[ho]
  rw[hx,hi];have hel:P.elem t=e:=by unfold Program.elem;rw[hu]
  have hln:P.arrayLen t=len:=by unfold Program.arrayLen;rw[hu]
  have h1:=run_indexAt_array (P:=P) w t ⟨b,off,none⟩ kk (k:Int) (by rw[hel,hln];exact hu);rw[hln,if_pos ⟨by omega,by omega⟩,hel] at h1
  have h2:(sizeOf e).run P w=.ok sz w:=by
    cases hi2:P.info? e with
    | none=>rw[hi2] at hs;cases hs
    | some i =>
      rw[hi2] at hs
      simp at hs
      simp[sizeOf,typeInfo,hi2,hs]
  rw[h2] at h1
  simp[h1,Result.andThen,Addr.add]
end
def Tz (n k m:Nat):Prop:=n=2^k*m∧m%2=1
theorem Bn {x:Nat}(h0:x≠0)(h:x<18446744073709551616):∃ m,Tz x (Lib.ctz 64 x) m∧Lib.ctz 64 x<64:=by
 unfold Lib.ctz
 rw[if_neg h0];obtain ⟨m,e,hl⟩:=Lib.ctzFrom_spec 64 x oM h;exact ⟨2*m+1,⟨e,by omega⟩,hl⟩
theorem Tz.odd_pos {n k m:Nat}(h:Tz n k m):0<m:=by have:=h.2;omega
theorem Tz.word {n i x k m r:Nat}(e:n=18446744073709551616^i*(x+18446744073709551616*r))(t:Tz x k m)(hk:k<64):Tz n (64*i+k) (m+2^(64-k)*r):=by
 obtain ⟨t1,t2⟩:=t;refine ⟨?_,?_⟩
 ·have e64:(18446744073709551616:Nat)=2^k*2^(64-k):=by rw[←Nat.pow_add,show k+(64-k)=64 by omega]
  have e1:(18446744073709551616:Nat)^i=2^(64*i):=by rw[Nat.pow_mul]
  rw[e,e1,t1]
  conv=>lhs;rw[e64]
  rw[Nat.pow_add,Nat.mul_assoc (2^k),←Nat.mul_add,←Nat.mul_assoc]
 ·obtain ⟨j,hj⟩:∃ j,64-k=j+1:=⟨63-k,by omega⟩
  rw[hj,Nat.pow_succ,Nat.mul_comm (2^j) 2,Nat.mul_assoc]
  omega
theorem Tz.uniq {n k m k' m':Nat}(a:Tz n k m)(b:Tz n k' m'):k=k'∧m=m':=by
 obtain ⟨a1,a2⟩:=a;obtain ⟨b1,b2⟩:=b
 have key:∀ {k m k' m':Nat},2^k*m=2^k'*m'→m%2=1→k'≤k:=fun {k m k' m'} e hm'=>by
  rcases Nat.lt_or_ge k k' with h|h
  ·exfalso
   obtain ⟨d,rfl⟩:∃ d,k'=k+(d+1):=⟨k'-k-1,by omega⟩;rw[Nat.pow_add,Nat.mul_assoc] at e
   have e2:=Nat.eq_of_mul_eq_mul_left (Nat.two_pow_pos k) e;rw[Nat.pow_succ,Nat.mul_comm (2^d) 2,Nat.mul_assoc] at e2
   omega
  ·exact h
 have h1:=key (a1.symm.trans b1) a2;have h2:=key (b1.symm.trans a1) b2;have h3:k=k':=by omega
 subst h3;exact ⟨rfl,Nat.eq_of_mul_eq_mul_left (Nat.two_pow_pos k) (a1.symm.trans b1)⟩
theorem kW {x y:Nat}(hy:y%2=1):Nat.gcd (2*x) y=Nat.gcd x y:=by
 have hc:Nat.Coprime 2 y:=by
  unfold Nat.Coprime
  rw[Nat.gcd_rec,hy];rfl
 exact hc.gcd_mul_left_cancel x
theorem dM {x y:Nat}(hy:y%2=1):∀ k,Nat.gcd (2^k*x) y=Nat.gcd x y
  | 0=>by simp
  | k+1=>by
    rw[Nat.pow_succ,Nat.mul_comm (2^k) 2,Nat.mul_assoc,kW hy];exact dM hy k
theorem p8 {x y k l m n:Nat}(a:Tz x k m)(b:Tz y l n):Nat.gcd x y=Nat.gcd m n*2^min k l:=by
 obtain ⟨a1,a2⟩:=a;obtain ⟨b1,b2⟩:=b;subst a1 b1
 rcases Nat.le_total k l with h|h
 ·rw[Nat.min_eq_left h]
  obtain ⟨d,rfl⟩:∃ d,l=k+d:=⟨l-k,by omega⟩;rw[Nat.pow_add,Nat.mul_assoc,Nat.gcd_mul_left,Nat.gcd_comm m,dM a2,Nat.gcd_comm n,Nat.mul_comm]
 ·rw[Nat.min_eq_right h]
  obtain ⟨d,rfl⟩:∃ d,k=l+d:=⟨k-l,by omega⟩;rw[Nat.pow_add,Nat.mul_assoc,Nat.gcd_mul_left,dM b2,Nat.mul_comm]
theorem oo {x y k m:Nat}(hxy:y<x)(hy:y%2=1)(t:Tz (x-y) k m):Nat.gcd m y=Nat.gcd x y:=by
 rw[←dM hy k,←t.1];have e:=Nat.gcd_add_self_left (m:=y) (n:=x-y);rw[show x-y+y=x by omega] at e
 exact e.symm
theorem SlO.win {α:Type}{f:α→List Value}{d:α}{h:Hp}{b:Nat}{l:List α}(hf:∀ x,(f x).length=1)(sg:Seg h b 0 (l.flatMap f))(o n:Nat):SlO 1 f d h (some ⟨b,o,none⟩) ((l.drop o).take n):=by
  have hp:=sg.part o ((l.drop o).take n).length;rw[Nat.zero_add] at hp
  have e:∀ (l:List α) (o n:Nat),((l.flatMap f).drop o).take ((l.drop o).take n).length=((l.drop o).take n).flatMap f:=by
    have e1:∀ (l:List α),(l.flatMap f).length=l.length:=fun l=>by
      induction l with
      | nil=>rfl
      | cons x l ih=>rw[List.flatMap_cons,List.length_append,hf,ih,List.length_cons];omega
    have ed:∀ (l:List α) (o:Nat),(l.flatMap f).drop o=(l.drop o).flatMap f:=fun l=>by
      induction l with
      | nil=>intro o;simp
      | cons x l ih =>
        intro o;cases o with
        | zero=>rfl
        | succ o =>
          rw[List.flatMap_cons,List.drop_append,hf,List.drop_eq_nil_of_le (by rw[hf];omega),List.nil_append,List.drop_succ_cons,Nat.add_sub_cancel];exact ih o
    have et:∀ (l:List α) (n:Nat),(l.flatMap f).take n=(l.take n).flatMap f:=fun l=>by
      induction l with
      | nil=>intro n;simp
      | cons x l ih =>
        intro n;cases n with
        | zero=>rfl
        | succ n =>
          rw[List.flatMap_cons,List.take_append,hf,List.take_of_length_le (by rw[hf];omega),List.take_succ_cons,List.flatMap_cons,Nat.add_sub_cancel,ih n]
    intro l o n;rw[ed,et,List.length_take]
    congr 1
    rcases Nat.le_total n (l.drop o).length with h|h
    · rw[Nat.min_eq_left h]
    · rw[Nat.min_eq_right h,List.take_length,List.take_of_length_le h]
  rw[e] at hp
  exact SlO.of_flat hf hp
def Tab (h:Hp):Prop:=Seg h 4 0 (Lib.deBruijn64tab.map fun k=>Value.int .u8 ((k:Nat):Int))
theorem Tab.gw {h h':Hp}(t:Tab h)(u:Gw h h'):Tab h':=Seg.gw t u
theorem SS.aB {w0 w:World}{h0 h:Hp}{B:List Bx}{R:List Rw}{F:List (Hp→Prop)}(s:SS w0 h0 w h B R F)(p:Tab h):SS w0 h0 w h B R ((fun h=>Tab h)::F):=s.add (K:=fun h=>Tab h) p
theorem Tab.at {h:Hp}(t:Tab h){k i:Nat}(e:i<64∧Lib.deBruijn64tab.getD i 0=k):Seg h 4 i [.int .u8 ((k:Nat):Int)]:=by
 have hp:=Seg.part t i 1;obtain ⟨hi,rfl⟩:=e;rw[Nat.zero_add] at hp
 have hl:i<Lib.deBruijn64tab.length:=by show i<64;exact hi
 have e1:((Lib.deBruijn64tab.map fun k=>Value.int .u8 ((k:Nat):Int)).drop i).take 1=[.int .u8 ((Lib.deBruijn64tab.getD i 0:Nat):Int)]:=by
  rw[List.drop_eq_getElem_cons (by simpa using hl)]
  simp[hl]
 rw[e1] at hp
 exact hp
theorem EB {s:Result Next}{b z:Nat}{w:World}(h:s=.ok (.value (.pointer (some ⟨b,0+z*1,none⟩))) w):s=.ok (.value (.pointer (some ⟨b,z,none⟩))) w:=by rw[h,Nat.mul_one,Nat.zero_add]
theorem sQ {l:List Nat}(hW:Wd l)(hl:l.length≤(wds (aA l)).length):wds (aA l)=l:=by
 have e:=kU hW;have h1:(wds (aA l)).length=min (tl l l.length) l.length:=by rw[e,List.length_take]
 have h2:=fZ l l.length;rw[e,List.take_of_length_le oM]
theorem Eo {l:List Nat}(hW:Wd l):aA l<256^(8*l.length):=by
 have:=bM hW;rw[Nat.pow_mul];exact this
theorem BL {a b:Nat}(h:wds a=wds b):a=b:=by rw[←aI a,←aI b,h]
theorem r7 {l:List Nat}{i:Nat}(h:i<l.length)(h0:l.getD i 0=0){n:Nat}(inv:n=18446744073709551616^i*ak 18446744073709551616 (l.drop i)):n=18446744073709551616^(i+1)*ak 18446744073709551616 (l.drop (i+1)):=by
 rw[inv,dO _ h,h0,Nat.zero_add,Nat.pow_succ,Nat.mul_assoc]
theorem CM (x:Nat)(hx0:x≠0)(hx:x<18446744073709551616)(w:World)(h:Hp)(g:G w h)(tb:Tab h):CV 182 #[mV x] w h (nV (Lib.ctz 64 x)):=by
 have hs:=((sS g).aB tb);obtain ⟨hlow,hk⟩:=Lib.lowest_bit 64 x hx0 hx;have htz:=Lib.deBruijn64_at _ hk
 generalize Lib.ctz 64 x=k at *
 generalize hp:2^k=p at *
 obtain ⟨y,hy⟩:∃ y,p*285870213051353865%18446744073709551616=y:=⟨_,rfl⟩;rw[hy] at htz
 obtain ⟨z,hz⟩:∃ z,y/288230376151711744=z:=⟨_,rfl⟩;rw[hz] at htz
 refine go Tryz.func182 [(0,mV x)] rfl (aa hs [.v 2 (iV 0)] (af (aa hs [.m 3 0] ?_)));have hb1:((x:Int) == (0:Int))=false:=cv oM;have phb1:=ai hb1;refine lB 4 hb1 (ah (cK (aa hs [.m 5 0,.m 6 0] (lV 7 (mV (18446744073709551616-x)) ?_ (hr:=rU ((0-(x:Int))) kR (by rw[IntKind.wrap_u64];omega))))));refine lV 8 (mV p) ?_ (hr:=aU (n:=bits .and .u64 (x:Int) ((18446744073709551616-x:Nat):Int)) kR (by rw[bits_and_u64_nat _ _ hx oM];exact congrArg _ hlow));refine lV 9 (mV y) ?_ (hr:=rU (((p:Int)*285870213051353865)) kR ((jG p 285870213051353865).trans (congrArg _ hy)));refine lV 10 (mV z) ?_ (hr:=aU (eP (t:=22) (u:=148) (x:=.tmp 9) (y:=.const (uV 58)) (ky:=.u64) (a:=y) (n:=58) kR kR kR oM _) (congrArg _ (by rw[show (2:Nat)^58=288230376151711744 from rfl];exact hz)));refine lV 11 (qP 4 z) ?_ (hr:=EB (BX (t:=213) (e:=5) (x:=.global 4) (ix:=.tmp 10) (b:=4) (off:=0) (sz:=1) (len:=64) (kk:=.u64) (i:=(z:Int)) z kR kR kR kR kR rfl htz.1 _));refine lH 12 (.int .u8 (k:Int)) hs (Tab.at hs.f.1 htz) (lV 13 (nV k) ?_ (hr:=rS ((k:Int)) kR (lc oM oM)));exact lL hs [.m 2 13] (ac hs [] (nV k) rfl)
theorem m8 (A:Option Addr)(c:Nat)(l:List Nat)(n:Nat)(hn:l.length=n)(hW:Wd l)(hp:0<aA l)(hl:l.length≤1000000000)(w:World)(h:Hp)(g:G w h)(tb:Tab h)(hA:SlO 1 aj 0 h A l):CR 157 #[.slice A n c] w h (fun v _=>∃ k m:Nat,v=nV k∧Tz (aA l) k m∧k/64<l.length):=by
 have hs:=(((sS g).aB tb).aS hA);refine go Tryz.func157 [(0,qS A n c)] rfl (aa hs [.v 2 (iV 0)] (aG (lL hs [.v 3 (iV 0)] (af (kZ ?_)))));refine bQ _ (CG.loop (fun μ_ Γ w_=>∃ (i:Nat) (h_:Hp),μ_=l.length-i∧Γ=[(0,qS A n c),(2,iV 0),(3,nV i)]∧SS w h w_ h_ [] [] [fun h_=>SlO 1 aj 0 h_ A l,fun h_=>Tab h_]∧i≤l.length∧aA l=18446744073709551616^i*ak 18446744073709551616 (l.drop i)) _ ⟨0,h,rfl,rfl,hs.to _ _,Nat.zero_le _,(by show ak _ _=_;rw[Nat.pow_zero,Nat.one_mul,List.drop_zero])⟩ ?_);rintro _ _ w1 ⟨i,h2,hm3,rfl,hs,hi,inv⟩;have hil:i<l.length:=by rcases Nat.lt_or_ge i l.length with h_|h_;exact h_;rw[List.drop_eq_nil_of_le h_] at inv;simp[ak] at inv;omega
 refine cQ (aa hs [.m 4 0,.m 5 3] (lX 6 A n c 1 (i:Nat) i ((hs.f.1).ok oM) ?_));refine lH 7 (mV (l.getD i 0)) hs ((hs.f.1).el i oM) ?_;cases hb4:(((l.getD i 0:Nat):Int) == (0:Int))
 ·
  have phb4:=ai hb4;refine lB 8 hb4 (ah (CG.exit ?_))
  show CG _ _ _ _ _ _ _ _
  refine aa hs [.m 11 3] (lI 12 (64*(i:Nat)) ?_);refine lL hs [.m 13 0,.m 14 3] (lX 15 A n c 1 (i:Nat) i ((hs.f.1).ok oM) ?_);refine lH 16 (mV (l.getD i 0)) hs ((hs.f.1).el i oM) (ag 17 hs (CM (l.getD i 0) oM (hW.get i) _ _ hs.g hs.f.2.1) (fun w5 h6 hs=>?_));obtain ⟨mz,htz,hz64⟩:=Bn (x:=l.getD i 0) oM (hW.get i);exact lI 18 ((64*(i:Nat))+(Lib.ctz 64 (l.getD i 0):Nat)) (lL hs [.m 2 18] (ac hs [] (iV ((64*(i:Nat))+(Lib.ctz 64 (l.getD i 0):Nat))) (⟨_,_,rfl,Tz.word (by rw[inv,dO _ hil]) htz hz64,by omega⟩)))
 have phb4:=eq_of_beq hb4;refine lB 8 hb4 (ao (cK (kZ (kQ (lL hs [.m 9 3] (bH 10 ((i:Nat)+1) (i+1) ?_))))));refine lL hs [.m 3 10] (lD ?_);intro a_ ka;refine ⟨_,_,?_,⟨i+1,h2,rfl,rfl,hs.to _ _,oM,(r7 hil oM inv)⟩,ka.to _ kR⟩
 omega
theorem xk (A:Option Addr)(c:Nat)(l:List Nat)(n:Nat)(hn:l.length=n)(hl:l.length≤1099511627776)(hc:l.length≤c)(w:World)(h:Hp)(g:G w h)(hA:SlO 1 aj 0 h A l):CV 183 #[.slice A n c] w h (.slice A (tl l n) c):=by
 have hs:=((sS g).aS hA);refine go Tryz.func183 [(0,qS A n c)] rfl (aa hs [.v 2 (sZ)] (af (kZ ?_)));refine bQ _ (CG.loop (fun μ_ Γ w_=>∃ (m:Nat) (h_:Hp),μ_=m∧Γ=[(2,sZ),(0,qS A m c)]∧SS w h w_ h_ [] [] [fun h_=>SlO 1 aj 0 h_ A l]∧m≤n∧tl l n=tl l m) _ ⟨n,h,rfl,rfl,hs.to _ _,nR _,rfl⟩ ?_);rintro _ _ w1 ⟨m,h2,hm3,rfl,hs,hm,ht⟩;refine cQ (aa hs [.m 3 0,.v 4 (nV m)] ?_);cases hb4:(decide ((0:Int)<(m:Int)))
 ·
  have phb4:=oF hb4;refine lB 5 hb4 (lL hs [.m 6 5] (lG 7 ?_));refine lG 8 (lG 9 (lG 10 (lG 11 (lG 12 (lG 13 (lL hs [.v 14 qF] (ah (CG.exit ?_))))))))
  show CG _ _ _ _ _ _ _ _
  exact aa hs [.m 20 0,.m 2 20] (ac hs [] (qS A m c) (by rw[ht,jY oM]))
 have phb4:=oT hb4;refine lB 5 hb4 (lL hs [.m 6 5,.m 7 0,.m 8 0,.v 9 (nV m)] (bH 10 ((m:Nat)-1) (m-1) ?_));refine lX 11 A m c 1 (m-1:Nat) (m-1) ((hs.f.1).ok oM) (lH 12 (mV (l.getD (m-1) 0)) hs ((hs.f.1).el (m-1) oM) ?_);cases hb5:(((l.getD (m-1) 0:Nat):Int) == (0:Int))
 ·
  have phb5:=ai hb5;refine lB 13 hb5 (lL hs [.v 14 qF] (ah (CG.exit ?_)))
  show CG _ _ _ _ _ _ _ _
  exact aa hs [.m 20 0,.m 2 20] (ac hs [] (qS A m c) (by rw[ht,jY oM]))
 have phb5:=eq_of_beq hb5;refine lB 13 hb5 (lL hs [.v 14 qT] (ao (cK (kZ (kQ (lL hs [.m 15 0,.m 16 0,.v 17 (nV m)] (bH 18 ((m:Nat)-1) (m-1) ?_)))))));refine lT 19 A m c 1 (m-1:Nat) (m-1) (lL hs [.m 0 19] (lD ?_));intro a_ ka;refine ⟨_,_,?_,⟨m-1,h2,rfl,rfl,hs.to _ _,oM,(by rw[ht];exact sE oM oM)⟩,ka.to _ kR⟩
 omega
theorem r6 (A:Option Addr)(c:Nat)(D:Option Addr)(d:Nat)(x y n m_:Nat)(hn:(wds x).length=n)(hm_:(wds y).length=m_)(hlx:(wds x).length≤1000000000)(hly:(wds y).length≤1000000000)(w:World)(h:Hp)(g:G w h)(hA:SlO 1 aj 0 h A (wds x))(hD:SlO 1 aj 0 h D (wds y)):CV 159 #[.slice A n c,.slice D m_ d] w h (iV (bK x y)):=by
 have hs:=(((sS g).aS hA).aS hD);refine go Tryz.func159 [(0,qS A n c),(1,qS D m_ d)] rfl (aa hs [.v 4 (iV 0)] (af (aa hs [.m 6 0,.v 7 (nV n),.m 8 1,.v 9 (nV m_)] ?_)));cases hb1:((n:Int) != (m_:Int))
 ·
  have phb1:=az hb1;refine lB 10 hb1 (ah (cK (cQ (aa hs [.m 16 0,.v 17 (nV n)] (lV 18 (iV ((n:Int)-1)) ?_ (hr:=rS (((n:Nat)-1)) kR ((eW oM oM).trans oM)))))));refine lL hs [.m 5 18] (bn ?_);refine bQ _ (CG.loop (fun μ_ Γ w_=>∃ (m:Nat) (h_:Hp),μ_=m∧Γ=[(0,qS A n c),(1,qS D m_ d),(5,iV ((m:Int)-1))]∧SS w h w_ h_ [] [] [fun h_=>SlO 1 aj 0 h_ D (wds y),fun h_=>SlO 1 aj 0 h_ A (wds x)]∧m≤n∧(wds x).length=(wds y).length∧(wds x).drop m=(wds y).drop m) _ ⟨n,h,rfl,rfl,hs.to _ _,nR _,oM,(by rw[List.drop_eq_nil_of_le oM,List.drop_eq_nil_of_le oM])⟩ ?_);rintro _ _ w2 ⟨m,h3,hm4,rfl,hs,hm,hlen,hdr⟩;refine cQ (aa hs [.m 19 5] ?_);cases hb5:(decide ((0:Int)≤((m:Int)-1:Int)))
  ·
   have phb5:=oF hb5;refine lB 20 hb5 (ah (CG.exit ?_))
   show CG _ _ _ _ _ _ _ _
   exact aa hs [.v 4 (iV 0)] (ac hs [] (iV 0) (by rw[fK (BL (by rw[show m=0 by omega] at hdr;simpa using hdr))]))
  have phb5:=oT hb5;refine lB 20 hb5 (ao (cK (cQ (kZ (cQ (cR 9 [] mixed hs av ?_))))));refine eV 0 23 (qS A n c) (eV 1 24 (iV ((m:Int)-1)) (eX 2 25 A n c 1 ((m:Int)-1) (m-1) ((hs.f.2.1).ok oM) (eH 3 26 (mV ((wds x).getD (m-1) 0)) hs ((hs.f.2.1).el (m-1) oM) (eV 4 27 (qS D m_ d) (eV 5 28 (iV ((m:Int)-1)) (eX 6 29 D m_ d 1 ((m:Int)-1) (m-1) ((hs.f.1).ok oM) (eH 7 30 (mV ((wds y).getD (m-1) 0)) hs ((hs.f.1).el (m-1) oM) ?_)))))));cases hb6:((((wds x).getD (m-1) 0:Nat):Int) != (((wds y).getD (m-1) 0:Nat):Int))
  ·
   have phb6:=az hb6;refine eB 8 31 hb6 (cC hs (fun w7 h8 hs=>tN (cw (cK (kQ (lL hs [.m 21 5] (lV 22 (iV (((m-1:Nat):Int)-1)) ?_ (hr:=rS ((((m:Int)-1)-1)) kR ((eW oM oM).trans oM)))))))));refine lL hs [.m 5 22] (lD ?_);intro a_ ka;refine ⟨_,_,?_,⟨m-1,h8,rfl,rfl,hs.to _ _,oM,hlen,(dK (k:=m-1) hlen oM (by rw[show m-1+1=m by omega];exact hdr) oM)⟩,ka.to _ kR⟩
   omega
  have phb6:=aY hb6;refine eB 8 31 hb6 (cC hs (fun _ _ hs=>tN (ce (cQ (cQ (cR 9 [] mixed hs av ?_))))));refine eV 0 32 (qS A n c) (eV 1 33 (iV ((m:Int)-1)) (eX 2 34 A n c 1 ((m:Int)-1) (m-1) ((hs.f.2.1).ok oM) (eH 3 35 (mV ((wds x).getD (m-1) 0)) hs ((hs.f.2.1).el (m-1) oM) (eV 4 36 (qS D m_ d) (eV 5 37 (iV ((m:Int)-1)) (eX 6 38 D m_ d 1 ((m:Int)-1) (m-1) ((hs.f.1).ok oM) (eH 7 39 (mV ((wds y).getD (m-1) 0)) hs ((hs.f.1).el (m-1) oM) ?_)))))));cases za:(decide ((((wds x).getD (m-1) 0:Nat):Int)<(((wds y).getD (m-1) 0:Nat):Int)))
  ·
   have zc:=oF za;exact eB 8 40 za (cC hs (fun _ _ hs=>tN (cw (cK (aa hs [.v 4 (iV 1)] (ac hs [] (iV 1) (by rw[←iZ (k:=m-1) hlen oM (by rw[show m-1+1=m by omega];exact hdr) oM,dG oM])))))))
  have zc:=oT za;exact eB 8 40 za (cC hs (fun _ _ hs=>tN (ce (aa hs [.v 4 (iV (-1))] (ac hs [] (iV (-1)) (by rw[←iZ (k:=m-1) hlen oM (by rw[show m-1+1=m by omega];exact hdr) oM,cH oM]))))))
 have phb1:=aY hb1;refine lB 10 hb1 (ao (cQ (aa hs [.m 11 0,.v 12 (nV n),.m 13 1,.v 14 (nV m_)] ?_)));cases zb:(decide ((n:Int)<(m_:Int)))
 ·
  have zd:=oF zb;exact lB 15 zb (ah (cK (aa hs [.v 4 (iV 1)] (ac hs [] (iV 1) (by rw[dG (d3 oM)])))))
 have zd:=oT zb;exact lB 15 zb (ao (aa hs [.v 4 (iV (-1))] (ac hs [] (iV (-1)) (by rw[cH (d3 oM)]))))
theorem sj (n:Nat)(hn:0<n)(hl:(wds n).length≤1000000000)(w:World)(h:Hp)(g:G w h):CR 156 #[nv n] w h (fun v h1=>uF h h1 v (wds n)):=by
 have hs:=sS g;have hnb:=jf n;have hwl:=jo n;have hbl:=gp n ((nb n+7)/8);have hnb0:=(bX hn).2.2;refine go Tryz.func156 [(0,nv n)] rfl (aE (lA 1 24 (nc n) hs (fun b1 w2 h3 hs=>lL hs [.v 2 (sZ)] (aG (lL hs [.o 6 (nv n) 0 0 2] (lC 7 hs (sU n hl _ _ hs.g) ?_))))));rintro _ w4 h5 hs ⟨Ab,rfl,hb⟩;replace hs:=hs.aS hb;refine lL hs [.m 3 7] (aG (lL hs [.m 8 3,.v 9 (nV ((nb n+7)/8))] (bH 10 ((((nb n+7)/8):Nat)+7) ((((nb n+7)/8):Nat)+7) ?_)));refine lV 11 (nV (((((nb n+7)/8):Nat)+7:Nat)/8)) ?_ (hr:=aU (cZ (t:=3) (u:=3) (x:=.tmp 10) (y:=.const (iV 8)) (k:=.i64) (a:=(((((nb n+7)/8):Nat)+7:Nat):Int)) (b:=(8:Int)) kR kR kR oM _) (cX ((((nb n+7)/8):Nat)+7:Nat) 8 oM));refine lK 12 22 (((((nb n+7)/8):Nat)+7:Nat)/8:Nat) 1 8 (uV 0) aj 0 hs (fun b6 w7 h8 hs=>?_);have hl9:(List.replicate (((((nb n+7)/8):Nat)+7:Nat)/8:Nat) 0).length=(((((nb n+7)/8):Nat)+7:Nat)/8:Nat):=by simp
 refine lL hs [.m 4 12] (af (aa hs [.m 13 3,.v 14 (nV ((nb n+7)/8)),.v 15 (iV 0)] (bn ?_)));refine bQ _ (CG.loop (fun μ_ Γ w_=>∃ (i:Nat) (l:List Nat) (h_:Hp),μ_=((nb n+7)/8)-i∧Γ=[(2,sZ),(3,qS Ab ((nb n+7)/8) ((nb n+7)/8)),(4,qS (sB b6) (((((nb n+7)/8):Nat)+7:Nat)/8:Nat) (((((nb n+7)/8):Nat)+7:Nat)/8:Nat)),(14,nV ((nb n+7)/8)),(15,nV i)]∧SS w h w_ h_ [⟨b6,22,(l).flatMap aj⟩,⟨b1,24,nc n⟩] [] [fun h_=>SlO 1 mN 0 h_ Ab (d6 n ((nb n+7)/8))]∧i≤((nb n+7)/8)∧l.length=(((nb n+7)/8)+7)/8∧Wd l∧aA l=n%256^i) _ ⟨0,List.replicate (((((nb n+7)/8):Nat)+7:Nat)/8:Nat) 0,h8,rfl,rfl,hs.to _ _,Nat.zero_le _,hl9,Wd.rep _,(by show ak _ _=_;rw[dz,Nat.pow_zero,Nat.mod_one])⟩ ?_);rintro _ _ _ ⟨i,l,_,hm12,rfl,hs,hi,hll,hW,inv⟩;have hbi:=iJ n ((nb n+7)/8) (((nb n+7)/8)-1-i);refine aE ?_;cases za:(decide ((i:Int)<((((nb n+7)/8):Nat):Int)))
 ·
  have zb:=oF za;refine lB 16 za (af (cw (CG.exit ?_)))
  show CG _ _ _ _ _ _ _ _
  refine aa hs [.m 39 4,.m 2 39] (lN (kX ?_));have him:i=((nb n+7)/8):=by omega
  have hE:aA l=n:=by rw[inv,him];exact Nat.mod_eq_of_lt (wI n)
  have hlw:l=wds n:=by rw[←hE];exact (sQ hW (by rw[hll,hE];omega)).symm
  rw[hlw] at hs
  obtain ⟨_,hs,sg15,lo16,bc17⟩:=hs.pub 0;replace hs:=(hs.to [⟨b1,24,nc n⟩] []).aS (SlO.of_flat (sz:=1) (f:=aj) (d:=0) (b:=b6) (o:=0) (l:=wds n) (fun _=>rfl) sg15);exact hs.ret [] (qS (sB b6) (((((nb n+7)/8):Nat)+7:Nat)/8:Nat) (((((nb n+7)/8):Nat)+7:Nat)/8:Nat)) (⟨b6,(by rw[show (((nb n+7)/8)+7)/8=(wds n).length by omega]),lo16,bc17,hs.f.1⟩)
 have zb:=oT za;refine lB 16 za (af (ce (cK (cQ (kZ (aa hs [.m 17 15,.m 5 17] (lN (cR 19 [] mixed hs av ?_))))))));refine eV 0 18 (qS (sB b6) (((((nb n+7)/8):Nat)+7:Nat)/8:Nat) (((((nb n+7)/8):Nat)+7:Nat)/8:Nat)) (eV 1 19 (nV i) (eV 2 20 (nV (i/8)) ?_ (hv:=fun _=>aU (cZ (t:=3) (u:=3) (x:=.tmp 19) (y:=.const (iV 8)) (k:=.i64) (a:=(i:Int)) (b:=(8:Int)) kR kR kR oM _) (cX i 8 oM))));refine eX 3 21 (sB b6) (((((nb n+7)/8):Nat)+7:Nat)/8:Nat) (((((nb n+7)/8):Nat)+7:Nat)/8:Nat) 1 (i/8:Nat) (i/8) rfl (eQ 4 22 0 l aj 1 0 (i/8) (mV ((l).getD (i/8) 0)) hs oM (eV 5 23 (qS Ab ((nb n+7)/8) ((nb n+7)/8)) (eV 6 24 (qS Ab ((nb n+7)/8) ((nb n+7)/8)) (eV 7 25 (nV ((nb n+7)/8)) (jO 8 26 ((((nb n+7)/8):Nat)-1) ((((nb n+7)/8):Nat)-1) (eV 9 27 (nV i) (jO 10 28 (((((nb n+7)/8):Nat)-1:Nat)-(i:Nat)) (((((nb n+7)/8):Nat)-1:Nat)-i) (eX 11 29 Ab ((nb n+7)/8) ((nb n+7)/8) 1 (((((nb n+7)/8):Nat)-1:Nat)-i:Nat) (((((nb n+7)/8):Nat)-1:Nat)-i:Nat) ((hs.f.1).ok oM) (eH 12 30 (.int .u8 ((d6 n ((nb n+7)/8)).getD (((((nb n+7)/8):Nat)-1:Nat)-i:Nat) 0:Nat)) hs ((hs.f.1).el (((((nb n+7)/8):Nat)-1:Nat)-i:Nat) oM) (eV 13 31 (mV ((d6 n ((nb n+7)/8)).getD (((((nb n+7)/8):Nat)-1:Nat)-i:Nat) 0)) ?_ (hv:=fun _=>rU ((((d6 n ((nb n+7)/8)).getD (((((nb n+7)/8):Nat)-1:Nat)-i:Nat) 0:Nat):Int)) kR (bx oM oM))))))))))));refine eV 14 32 (nV i) (eV 15 33 (nV (i%8)) ?_ (hv:=fun _=>aU (eE (t:=3) (u:=3) (x:=.tmp 32) (y:=.const (iV 8)) (k:=.i64) (a:=(i:Int)) (b:=(8:Int)) kR kR kR oM _) (cJ i 8)));refine jO 16 34 (8*(i%8:Nat)) (8*(i%8)) (eV 17 35 (mV (((d6 n ((nb n+7)/8)).getD (((((nb n+7)/8):Nat)-1:Nat)-i:Nat) 0:Nat)*2^(8*(i%8))%18446744073709551616)) ?_ (hv:=fun _=>fx (t:=22) (u:=3) (x:=.tmp 31) (y:=.tmp 34) (ky:=.i64) (a:=((d6 n ((nb n+7)/8)).getD (((((nb n+7)/8):Nat)-1:Nat)-i:Nat) 0:Nat)) (n:=(8*(i%8))) kR kR kR _));obtain ⟨hS1,hS2,hS3⟩:=oX oM inv (show (d6 n ((nb n+7)/8)).getD (((nb n+7)/8)-1-i) 0=n/256^i%256 by rw[fP n ((nb n+7)/8) _ oM,show ((nb n+7)/8)-1-(((nb n+7)/8)-1-i)=i by omega]);have hlg:=hW.get (i/8);refine eV 18 36 (mV (l.getD (i/8) 0+(d6 n ((nb n+7)/8)).getD (((nb n+7)/8)-1-i) 0*2^(8*(i%8)))) ?_ (hv:=fun _=>aU (gT (t:=22) (u:=22) (x:=.tmp 22) (y:=.tmp 35) (a:=((l).getD (i/8) 0)) (b:=(((d6 n ((nb n+7)/8)).getD (((((nb n+7)/8):Nat)-1:Nat)-i:Nat) 0:Nat)*2^(8*(i%8))%18446744073709551616:Nat)) kR kR kR oM oM _) (by rw[hS1]));refine cC hs (fun _ zd hs=>tX 19 37 (sB b6) (((((nb n+7)/8):Nat)+7:Nat)/8:Nat) (((((nb n+7)/8):Nat)+7:Nat)/8:Nat) 1 (i/8:Nat) (i/8) rfl (tW 20 0 l aj 1 (i/8) (l.getD (i/8) 0+(d6 n ((nb n+7)/8)).getD (((nb n+7)/8)-1-i) 0*2^(8*(i%8)):Nat) hs oM (fun _ hs=>?_)));have zc:((l).set (i/8) (l.getD (i/8) 0+(d6 n ((nb n+7)/8)).getD (((nb n+7)/8)-1-i) 0*2^(8*(i%8)):Nat)).length=(((((nb n+7)/8):Nat)+7:Nat)/8:Nat):=by rw[List.length_set];exact hll
 replace hs:=hs.to [⟨b6,22,((l).set (i/8) (l.getD (i/8) 0+(d6 n ((nb n+7)/8)).getD (((nb n+7)/8)-1-i) 0*2^(8*(i%8)):Nat)).flatMap aj⟩,⟨b1,24,nc n⟩] [];refine tN (kQ (bH 38 ((i:Nat)+1) (i+1) ?_));refine lL hs [.m 15 38] (lD ?_);intro a_ ka;refine ⟨_,_,?_,⟨i+1,(l).set (i/8) (l.getD (i/8) 0+(d6 n ((nb n+7)/8)).getD (((nb n+7)/8)-1-i) 0*2^(8*(i%8)):Nat),zd,rfl,rfl,hs.to _ _,oM,zc,(hW.set _ hS2),hS3⟩,ka.to _ kR⟩
 omega
theorem vi (A:Option Addr)(c:Nat)(l:List Nat)(n:Nat)(hn:l.length=n)(hW:Wd l)(hl:l.length≤1000000000)(w:World)(h:Hp)(g:G w h)(hA:SlO 1 aj 0 h A l):CV 161 #[.slice A n c] w h (nv (aA l)):=by
 have hs:=((sS g).aS hA);refine go Tryz.func161 [(0,qS A n c)] rfl (aE (lA 2 24 ([uV 0,eS]) hs (fun b1 w2 h3 hs=>aG (lL hs [.m 5 0,.v 6 (nV n)] (bH 7 (8*(n:Nat)) (8*n) ?_)))));refine lK 8 5 (8*n) 1 1 (.int .u8 0) mN 0 hs (fun b4 w5 h6 hs=>?_);have hl7:(List.replicate (8*n) 0).length=(8*n):=by simp
 refine lL hs [.m 3 8] (af (aa hs [.m 9 3,.v 10 (nV (8*n)),.v 11 (iV 0)] (bn ?_)));refine bQ _ (CG.loop (fun μ_ Γ w_=>∃ (i:Nat) (z:List Nat) (h_:Hp),μ_=8*n-i∧Γ=[(0,qS A n c),(2,pB b1),(3,qS (sB b4) (8*n) (8*n)),(10,nV (8*n)),(11,nV i)]∧SS w h w_ h_ [⟨b4,5,(z).flatMap mN⟩,⟨b1,24,[uV 0,eS]⟩] [] [fun h_=>SlO 1 aj 0 h_ A l]∧i≤8*n∧z.length=8*n∧(∀ j,j<i→z.getD (8*n-1-j) 0=aA l/256^j%256)) _ ⟨0,List.replicate (8*n) 0,h6,rfl,rfl,hs.to _ _,Nat.zero_le _,hl7,(fun j hj=>absurd hj oM)⟩ ?_);rintro _ _ w8 ⟨i,z,h9,hm10,rfl,hs,hi,hzl,hg⟩;have hwi:=hW.get (i/8);refine aE ?_;cases za:(decide ((i:Int)<(((8*n):Nat):Int)))
 ·
  have zb:=oF za;refine lB 12 za (af (cw (CG.exit ?_)))
  show CG _ _ _ _ _ _ _ _
  refine aa hs [.m 32 3] ?_;have him:i=8*n:=by omega
  have hlb:z=d6 (aA l) (8*n):=sf hzl (fun j hj=>hg j oM);rw[hlb] at hs
  obtain ⟨_,hs,sg13,lo14,bc15⟩:=hs.pub 0;replace hs:=(hs.to [⟨b1,24,[uV 0,eS]⟩] []).aS (SlO.of_flat (sz:=1) (f:=mN) (d:=0) (b:=b4) (o:=0) (l:=d6 (aA l) (8*n)) (fun _=>rfl) sg13);exact ag 33 hs (xw (aA l) (8*n) (sB b4) (8*n) oM oM (by have:=Eo hW;rwa [hn] at this) _ _ hs.g hs.f.1) (fun _ _ hs=>lP 0 0 (nc (aA l)) hs (fun _ hs=>ac hs [(0,0,2)] (nv (aA l)) rfl))
 have zb:=oT za;refine lB 12 za (af (ce (cK (cQ (kZ (aa hs [.m 13 11,.m 4 13] (lN (kQ (lL hs [.m 14 3,.m 15 3,.v 16 (nV (8*n))] (bH 17 (((8*n):Nat)-1) ((8*n)-1) ?_))))))))));refine lL hs [.m 18 4] (bH 19 (((8*n)-1:Nat)-(i:Nat)) (((8*n)-1)-i) ?_);refine lL hs [.m 20 0,.m 21 4] (lV 22 (nV (i/8)) ?_ (hr:=aU (cZ (t:=3) (u:=3) (x:=.tmp 21) (y:=.const (iV 8)) (k:=.i64) (a:=(i:Int)) (b:=(8:Int)) kR kR kR oM _) (cX i 8 oM)));refine lX 23 A n c 1 (i/8:Nat) (i/8) ((hs.f.1).ok oM) (lH 24 (mV (l.getD (i/8) 0)) hs ((hs.f.1).el (i/8) oM) (lL hs [.m 25 4] (lV 26 (nV (i%8)) ?_ (hr:=aU (eE (t:=3) (u:=3) (x:=.tmp 25) (y:=.const (iV 8)) (k:=.i64) (a:=(i:Int)) (b:=(8:Int)) kR kR kR oM _) (cJ i 8)))));refine bH 27 (8*(i%8:Nat)) (8*(i%8)) (lV 28 (mV ((l.getD (i/8) 0)/2^(8*(i%8)))) ?_ (hr:=eP (t:=22) (u:=3) (x:=.tmp 24) (y:=.tmp 27) (ky:=.i64) (a:=(l.getD (i/8) 0)) (n:=(8*(i%8))) kR kR kR oM _));refine lV 29 (.int .u8 (l.getD (i/8) 0/2^(8*(i%8))%256:Nat)) ?_ (hr:=aU (n:=IntKind.wrap .u8 ((l.getD (i/8) 0/2^(8*(i%8)):Nat):Int)) kR (BF _));refine lX 30 (sB b4) (8*n) (8*n) 1 (((8*n)-1)-i:Nat) (((8*n)-1)-i:Nat) rfl (lW 0 z mN 1 (((8*n)-1)-i:Nat) (l.getD (i/8) 0/2^(8*(i%8))%256:Nat) hs oM (fun _ hs=>?_));have zc:((z).set (((8*n)-1)-i:Nat) (l.getD (i/8) 0/2^(8*(i%8))%256:Nat)).length=(8*n):=by rw[List.length_set];exact hzl
 replace hs:=hs.to [⟨b4,5,((z).set (((8*n)-1)-i:Nat) (l.getD (i/8) 0/2^(8*(i%8))%256:Nat)).flatMap mN⟩,⟨b1,24,[uV 0,eS]⟩] [];refine lN (kQ (bH 31 ((i:Nat)+1) (i+1) ?_));refine lL hs [.m 11 31] (lD ?_);intro a_ ka;refine ⟨_,_,?_,⟨i+1,(z).set (((8*n)-1)-i:Nat) (l.getD (i/8) 0/2^(8*(i%8))%256:Nat),h9,rfl,rfl,hs.to _ _,oM,zc,(gR hzl oM hg (l8 hW i))⟩,ka.to _ kR⟩
 omega
def win (l:List Nat)(o n:Nat):List Nat:=(l.drop o).take n
theorem br {l:List Nat}{o n:Nat}(h:o+n≤l.length):(win l o n).length=n:=by unfold win;rw[List.length_take,List.length_drop];omega
theorem oa {l:List Nat}{o n j:Nat}(h:j<n):(win l o n).getD j 0=l.getD (o+j) 0:=by unfold win;rw[gi h,bp]
theorem iY {l:List Nat}{o n i x:Nat}(hi:i<n):win (l.set (o+i) x) o n=(win l o n).set i x:=by
 unfold win
 rw[List.drop_set,if_neg oM,List.take_set,show o+i-o=i by omega]
theorem qH {l:List Nat}{o n q:Nat}:(win l o n).drop q=win l (o+q) (n-q):=by
 unfold win;rw[List.drop_take,List.drop_drop]
theorem lm {l:List Nat}{o n m:Nat}(h:m≤n):(win l o n).take m=win l o m:=by
 unfold win;rw[List.take_take,Nat.min_eq_left h]
theorem oV (l:List Nat)(n:Nat)(h:l.length≤n):win l 0 n=l:=by unfold win;rw[List.drop_zero,List.take_of_length_le h]
theorem Wd.win {l:List Nat}(h:Wd l)(o n:Nat):Wd (win l o n):=Dg.take (Dg.drop h o) n
theorem og {Z W:List Nat}{i p d r0:Nat}(hi:i<Z.length)(inv:2^p*ak 18446744073709551616 (Z.take i)+r0=ak 18446744073709551616 (W.take i)+18446744073709551616^i*(W.getD i 0%2^p))
  (hd:2^p*d+W.getD i 0%2^p=W.getD i 0+18446744073709551616*(W.getD (i+1) 0%2^p)) :
  2^p*ak 18446744073709551616 ((Z.set i d).take (i+1))+r0=ak 18446744073709551616 (W.take (i+1))+18446744073709551616^(i+1)*(W.getD (i+1) 0%2^p):=by
 have e1:=aR 18446744073709551616 (Z.set i d) i;have e2:(Z.set i d).take i=Z.take i:=by rw[List.take_set,List.set_eq_of_length_le];rw[List.length_take];omega
 rw[e2,bq hi,if_pos rfl] at e1
 have e3:=aR 18446744073709551616 W i;have e4:=congrArg (18446744073709551616^i * ·) hd
 simp only[Nat.mul_add] at e4
 rw[e1,e3,Nat.pow_succ,Nat.mul_add];have e5:2^p*(18446744073709551616^i*d)=18446744073709551616^i*(2^p*d):=by ac_rfl
 have e6:18446744073709551616^i*18446744073709551616*(W.getD (i+1) 0%2^p)=18446744073709551616^i*(18446744073709551616*(W.getD (i+1) 0%2^p)):=by ac_rfl
 rw[e5,e6]
 omega
theorem qj {X:List Nat}(hX:Wd X){k m:Nat}(t:Tz (aA X) k m)(hk:k/64<X.length):aA (X.drop (k/64))=2^(k%64)*m∧(X.drop (k/64)).getD 0 0%2^(k%64)=0:=by
 have h1:aA (X.drop (k/64))=2^(k%64)*m:=by
  rw[kf hX oM,t.1,r8 k,Nat.mul_assoc,Nat.mul_div_cancel_left _ (Nat.pow_pos kD)]
 refine ⟨h1,?_⟩
 have h2:aA (X.drop (k/64))=(X.drop (k/64)).getD 0 0+18446744073709551616*ak 18446744073709551616 ((X.drop (k/64)).drop 1):=by
  have:=dO 18446744073709551616 (l:=X.drop (k/64)) (k:=0) (by rw[List.length_drop];omega)
  rwa [List.drop_zero] at this
 have e64:(18446744073709551616:Nat)=2^(k%64)*2^(64-k%64):=by rw[←Nat.pow_add,show k%64+(64-k%64)=64 by omega]
 rw[h1] at h2
 have h3:(2^(k%64)*m)%2^(k%64)=0:=Nat.mul_mod_right _ _;rw[h2] at h3
 conv at h3=>lhs;rw[e64]
 rw[Nat.mul_assoc,Nat.add_mul_mod_self_left] at h3
 exact h3
theorem xW {Z W:List Nat}{p m:Nat}(hl:W.length≤Z.length)(inv:2^p*ak 18446744073709551616 (Z.take Z.length)+0=ak 18446744073709551616 (W.take Z.length)+18446744073709551616^Z.length*(W.getD Z.length 0%2^p))(e:aA W=2^p*m):aA Z=m:=by
 rw[List.take_length,List.take_of_length_le hl,bC hl,Nat.zero_mod,Nat.mul_zero,Nat.add_zero,Nat.add_zero] at inv
 have e2:ak 18446744073709551616 W=2^p*m:=e;rw[e2] at inv
 exact Nat.eq_of_mul_eq_mul_left (Nat.two_pow_pos p) inv
theorem me {l X:List Nat}{q i x N:Nat}(hl:q+i<l.length)(h:∀ j,i≤j→j<N→l.getD (q+j) 0=X.getD j 0):∀ j,i+1≤j→j<N→(l.set (q+i) x).getD (q+j) 0=X.getD j 0:=fun j h1 h2=>by
 rw[bq hl,if_neg oM];exact h j oM h2
theorem n6 (rb:Nat)(l0:List Nat)(o n c x:Nat)(hx:0<x)(hl0:l0.length≤1000000000)(hon:o+n≤l0.length)(hnc:n≤c)(hW0:Wd l0)(hwin:win l0 o n=wds x)(w:World)(h:Hp)(g:G w h)(ho:Own w rb 22 (l0.flatMap aj))(hj:h[rb]?=some junk)(tb:Tab h):Calls Tryz.prog 158 #[.slice (some ⟨rb,o,none⟩) n c] w (cA rb w h fun v w' _=>∃ z:List Nat,∃ o' n' c':Nat,v=.slice (some ⟨rb,o',none⟩) n' c'∧z.length=l0.length∧Wd z∧o'+n'≤z.length∧n'≤c'∧(∃ k m:Nat,Tz x k m∧win z o' n'=wds m)∧Own w' rb 22 (z.flatMap aj)):=by
 have hmo:UpM [rb] w h w h:=UpM.refl g;obtain ⟨wz,hz,hs⟩:=SS.at_ g ho hj;have hl0_:l0.length=l0.length:=rfl;replace hs:=(hs.aB tb);refine go Tryz.func158 [(0,qS (some ⟨rb,o,none⟩) n c)] rfl (aa hs [.v 2 (sZ)] (aG (lL hs [.m 6 0] (uU 7 0 hs (fun _ g_ f_ sg_=>m8 (some ⟨rb,o,none⟩) c (win l0 o n) n (br hon) (hW0.win _ _) (by rw[hwin,aI];exact hx) (by rw[br hon];omega) _ _ g_ (f_.1) (SlO.win (f:=aj) (d:=0) (b:=rb) (l:=l0) (fun _=>rfl) sg_ o n)) ?_))));rintro _ w1 h2 u3 hs ⟨k,m,rfl,htz,hkn⟩;replace hmo:=hmo.trans (u3.m _);rw[br hon] at hkn
 have hX:=hW0.win o n;obtain ⟨hE0,hr0⟩:=qj hX htz (by rw[br hon];omega);rw[qH] at hE0 hr0
 obtain ⟨X,hXd⟩:∃ X,X=win l0 (o+k/64) (n-k/64):=⟨_,rfl⟩;rw[←hXd] at hE0 hr0
 have hXl:X.length=n-k/64:=by rw[hXd];exact br oM
 have hXW:Wd X:=by rw[hXd];exact hW0.win _ _
 have hXg:∀ j,j<n-k/64→X.getD j 0=l0.getD (o+k/64+j) 0:=fun j hj=>by rw[hXd];exact oa hj
 refine lL hs [.m 3 7] (aG (lL hs [.m 8 0,.m 9 3] (lV 10 (nV (k/64)) ?_ (hr:=aU (cZ (t:=3) (u:=3) (x:=.tmp 9) (y:=.const (iV 64)) (k:=.i64) (a:=(k:Int)) (b:=(64:Int)) kR kR kR oM _) (cX k 64 oM)))));refine EZ 11 rb o n c 1 (k/64:Nat) (k/64) (o+(k/64)) (lL hs [.m 0 11] (aG (lL hs [.m 12 3] (lV 13 (nV (k%64)) ?_ (hr:=aU (eE (t:=3) (u:=3) (x:=.tmp 12) (y:=.const (iV 64)) (k:=.i64) (a:=(k:Int)) (b:=(64:Int)) kR kR kR oM _) (cJ k 64))))));refine lL hs [.m 4 13] (af (aa hs [.m 14 0,.v 15 (nV (n-(k/64))),.v 16 (iV 0)] (bn ?_)));refine bQ _ (CG.loop (fun μ_ Γ w_=>∃ (i:Nat) (l:List Nat) (h_:Hp),μ_=(n-k/64)-i∧Γ=[(0,qS (some ⟨rb,(o+(k/64)),none⟩) (n-(k/64)) (c-(k/64))),(2,sZ),(4,nV (k%64)),(15,nV (n-(k/64))),(16,nV i)]∧SS wz hz w_ h_ [⟨rb,22,(l).flatMap aj⟩] [] [fun h_=>Tab h_]∧i≤n-k/64∧l.length=l0.length∧Wd l∧2^(k%64)*ak 18446744073709551616 ((win l (o+k/64) (n-k/64)).take i)+0=ak 18446744073709551616 (X.take i)+18446744073709551616^i*(X.getD i 0%2^(k%64))∧(∀ j,i≤j→j<n-k/64→l.getD (o+k/64+j) 0=X.getD j 0)∧UpM [rb] w h w_ h_) _ ⟨0,l0,h2,rfl,rfl,hs.to _ _,Nat.zero_le _,rfl,hW0,(by rw[hr0];simp[ak]),(fun j _ hj=>(hXg j hj).symm),hmo⟩ ?_);rintro _ _ w4 ⟨i,l,h5,hm6,rfl,hs,hi,hll,hW,inv,hun,hmo⟩;refine aE ?_;cases hb7:(decide ((i:Int)<((n-(k/64):Nat):Int)))
 ·
  have phb7:=oF hb7;refine lB 17 hb7 (af (cw (CG.exit ?_)))
  show CG _ _ _ _ _ _ _ _
  refine aa hs [.m 46 0] (uU 47 0 hs (fun _ g_ f_ sg_=>xk (some ⟨rb,(o+k/64),none⟩) (c-(k/64)) (win l (o+k/64) (n-k/64)) (n-k/64) (br oM) (by rw[br oM];omega) (by rw[br oM];omega) _ _ g_ (SlO.win (f:=aj) (d:=0) (b:=rb) (l:=l) (fun _=>rfl) sg_ (o+k/64) (n-k/64))) ?_);rintro _ w8 h9 u10 hs rfl;replace hmo:=hmo.trans (u10.m _);refine lL hs [.m 2 47] (lN (kX ?_));have hiN:i=n-k/64:=by omega
  have hZl:(win l (o+k/64) (n-k/64)).length=n-k/64:=br oM;have hE:=xW (Z:=win l (o+k/64) (n-k/64)) oM (by rw[hZl,←hiN];rw[←hiN] at inv;exact inv) hE0;have hZW:Wd (win l (o+k/64) (n-k/64)):=hW.win _ _;have hwm:=kU hZW;rw[hE,hZl] at hwm
  have htl:=fZ (win l (o+k/64) (n-k/64)) (n-k/64);exact hs.retM hmo [] (qS (some ⟨rb,(o+k/64),none⟩) (tl (win l (o+k/64) (n-k/64)) (n-k/64)) (c-(k/64))) ⟨l,(o+k/64),_,_,rfl,hll,hW,by omega,by omega,⟨k,m,by rw[hwin,aI] at htz;exact htz,by rw[hwm];exact (lm htl).symm⟩,hs.own 0⟩
 have phb7:=oT hb7;refine lB 17 hb7 (af (ce (cK (cQ (kZ (aa hs [.m 18 16,.m 5 18] (aG (lL hs [.m 19 0,.m 20 5] (BR 21 rb (o+(k/64)) (n-(k/64)) (c-(k/64)) 1 (i:Nat) i ((o+(k/64))+i) ?_)))))))));refine lQ 22 0 l aj 1 0 ((o+(k/64))+i) (mV ((l).getD ((o+(k/64))+i) 0)) hs oM (lL hs [.m 23 4] ?_);have hXi:X.getD i 0=l.getD (o+k/64+i) 0:=(hun i (nR _) oM).symm;have hxi:=hW.get (o+k/64+i);have hdv:=Nat.div_le_self (l.getD (o+k/64+i) 0) (2^(k%64));refine lV 24 (mV (((l).getD ((o+(k/64))+i) 0:Nat)/2^(k%64))) ?_ (hr:=eP (t:=22) (u:=3) (x:=.tmp 22) (y:=.tmp 23) (ky:=.i64) (a:=((l).getD ((o+(k/64))+i) 0:Nat)) (n:=(k%64)) kR kR kR oM _);refine BR 25 rb (o+(k/64)) (n-(k/64)) (c-(k/64)) 1 (i:Nat) i ((o+(k/64))+i) (DB 0 l aj 1 ((o+(k/64))+i) (((l).getD ((o+(k/64))+i) 0:Nat)/2^(k%64):Nat) hs oM (fun _ pu hs=>?_));replace hmo:=hmo.put pu (List.mem_singleton.2 rfl) hs.g;have zb:((l).set ((o+(k/64))+i) (((l).getD ((o+(k/64))+i) 0:Nat)/2^(k%64):Nat)).length=l0.length:=by rw[List.length_set];exact hll
 replace hs:=hs.to [⟨rb,22,((l).set ((o+(k/64))+i) (((l).getD ((o+(k/64))+i) 0:Nat)/2^(k%64):Nat)).flatMap aj⟩] [];refine aG (lL hs [.m 26 5] (bH 27 ((i:Nat)+1) (i+1) ?_));refine lL hs [.m 28 0,.v 29 (nV (n-(k/64)))] ?_;cases za:(decide (((i+1:Nat):Int)<((n-(k/64):Nat):Int)))
 ·
  have zc:=oF za;refine lB 30 za (ah (cK (kQ (bH 45 ((i:Nat)+1) (i+1) ?_))));refine lL hs [.m 16 45] (lD ?_);intro a_ ka;refine ⟨_,_,?_,⟨i+1,(l).set ((o+(k/64))+i) (((l).getD ((o+(k/64))+i) 0:Nat)/2^(k%64):Nat),h5,rfl,rfl,hs.to _ _,oM,zb,(hW.set _ oM),(by rw[iY oM];exact og (by rw[br oM];omega) inv (by rw[hXi,bC (l:=X) (show X.length≤i+1 by omega),Nat.zero_mod,Nat.mul_zero,Nat.add_zero];exact Nat.div_add_mod _ _)),(me oM hun),hmo⟩,ka.to _ kR⟩
  omega
 have zc:=oT za;refine lB 30 za (ao (rL ⟨[],none⟩ 13 mixed ?_));replace hmo:=hmo.trans ((Up.drew (Up.refl hs.g)).m _);replace hs:=hs.drew;refine aV 0 31 (qS (some ⟨rb,(o+(k/64)),none⟩) (n-(k/64)) (c-(k/64))) (aV 1 32 (nV i) (ET 2 33 rb (o+(k/64)) (n-(k/64)) (c-(k/64)) 1 (i:Nat) i ((o+(k/64))+i) (aQ 3 34 0 ((l).set ((o+(k/64))+i) (((l).getD ((o+(k/64))+i) 0:Nat)/2^(k%64):Nat)) aj 1 0 ((o+(k/64))+i) (mV (((l).set ((o+(k/64))+i) (((l).getD ((o+(k/64))+i) 0:Nat)/2^(k%64):Nat)).getD ((o+(k/64))+i) 0)) hs oM (aV 4 35 (qS (some ⟨rb,(o+(k/64)),none⟩) (n-(k/64)) (c-(k/64))) (aV 5 36 (nV i) (aV 6 37 (nV (i+1)) ?_ (hv:=fun _=>rS (((i:Nat)+1)) kR ((eW oM oM).trans oM))))))));refine ET 7 38 rb (o+(k/64)) (n-(k/64)) (c-(k/64)) 1 (i+1:Nat) (i+1) ((o+(k/64))+(i+1)) (aQ 8 39 0 ((l).set ((o+(k/64))+i) (((l).getD ((o+(k/64))+i) 0:Nat)/2^(k%64):Nat)) aj 1 0 ((o+(k/64))+(i+1)) (mV (((l).set ((o+(k/64))+i) (((l).getD ((o+(k/64))+i) 0:Nat)/2^(k%64):Nat)).getD ((o+(k/64))+(i+1)) 0)) hs oM (aV 9 40 (nV (k%64)) (aV 10 41 (nV (64-(k%64))) ?_ (hv:=fun _=>rS ((64-(k%64:Nat))) kR ((eW oM oM).trans oM)))));refine aV 11 42 (mV ((((l).set ((o+(k/64))+i) (((l).getD ((o+(k/64))+i) 0:Nat)/2^(k%64):Nat)).getD ((o+(k/64))+(i+1)) 0:Nat)*2^(64-(k%64))%18446744073709551616)) ?_ (hv:=fun _=>fx (t:=22) (u:=3) (x:=.tmp 39) (y:=.tmp 41) (ky:=.i64) (a:=(((l).set ((o+(k/64))+i) (((l).getD ((o+(k/64))+i) 0:Nat)/2^(k%64):Nat)).getD ((o+(k/64))+(i+1)) 0:Nat)) (n:=(64-(k%64))) kR kR kR _);have hXn:X.getD (i+1) 0=l.getD (o+k/64+(i+1)) 0:=(hun (i+1) oM oM).symm;obtain ⟨hS1,hS2,hS3⟩:=lJ (x:=l.getD (o+k/64+i) 0) (y:=l.getD (o+k/64+(i+1)) 0) (p:=k%64) oM hxi;have hgs:=bq (l:=l) (k:=o+k/64+i) (j:=o+k/64+i) (x:=l.getD (o+k/64+i) 0/2^(k%64)) oM;rw[if_pos rfl] at hgs
 have hgn:=bq (l:=l) (k:=o+k/64+i) (j:=o+k/64+(i+1)) (x:=l.getD (o+k/64+i) 0/2^(k%64)) oM;rw[if_neg oM] at hgn
 refine aV 12 43 (mV (l.getD (o+k/64+i) 0/2^(k%64)+l.getD (o+k/64+(i+1)) 0*2^(64-k%64)%18446744073709551616)) ?_ (hv:=fun _=>aU (gT (t:=22) (u:=22) (x:=.tmp 34) (y:=.tmp 42) (a:=(((l).set ((o+(k/64))+i) (((l).getD ((o+(k/64))+i) 0:Nat)/2^(k%64):Nat)).getD ((o+(k/64))+i) 0:Nat)) (b:=((((l).set ((o+(k/64))+i) (((l).getD ((o+(k/64))+i) 0:Nat)/2^(k%64):Nat)).getD ((o+(k/64))+(i+1)) 0:Nat)*2^(64-(k%64))%18446744073709551616:Nat)) kR kR kR oM oM _) (by rw[hgs,hgn,hS1]));refine E1 13 44 rb (o+(k/64)) (n-(k/64)) (c-(k/64)) 1 (i:Nat) i ((o+(k/64))+i) (E0 14 0 ((l).set ((o+(k/64))+i) (((l).getD ((o+(k/64))+i) 0:Nat)/2^(k%64):Nat)) aj 1 ((o+(k/64))+i) (l.getD (o+k/64+i) 0/2^(k%64)+l.getD (o+k/64+(i+1)) 0*2^(64-k%64)%18446744073709551616:Nat) hs oM (fun _ pu hs=>?_));replace hmo:=hmo.put pu (List.mem_singleton.2 rfl) hs.g;have zd:(((l).set ((o+(k/64))+i) (((l).getD ((o+(k/64))+i) 0:Nat)/2^(k%64):Nat)).set ((o+(k/64))+i) (l.getD (o+k/64+i) 0/2^(k%64)+l.getD (o+k/64+(i+1)) 0*2^(64-k%64)%18446744073709551616:Nat)).length=l0.length:=by rw[List.length_set];exact zb
 replace hs:=hs.to [⟨rb,22,(((l).set ((o+(k/64))+i) (((l).getD ((o+(k/64))+i) 0:Nat)/2^(k%64):Nat)).set ((o+(k/64))+i) (l.getD (o+k/64+i) 0/2^(k%64)+l.getD (o+k/64+(i+1)) 0*2^(64-k%64)%18446744073709551616:Nat)).flatMap aj⟩] [];refine tN (kQ (bH 45 ((i:Nat)+1) (i+1) ?_));refine lL hs [.m 16 45] (lD ?_);intro a_ ka;refine ⟨_,_,?_,⟨i+1,((l).set ((o+(k/64))+i) (((l).getD ((o+(k/64))+i) 0:Nat)/2^(k%64):Nat)).set ((o+(k/64))+i) (l.getD (o+k/64+i) 0/2^(k%64)+l.getD (o+k/64+(i+1)) 0*2^(64-k%64)%18446744073709551616:Nat),h5,rfl,rfl,hs.to _ _,oM,zd,((hW.set _ oM).set _ hS2),(by rw[List.set_set,iY oM];exact og (by rw[br oM];omega) inv (by rw[hXi,hXn];exact hS3)),(by rw[List.set_set];exact me oM hun),hmo⟩,ka.to _ kR⟩
 omega
theorem CF (rb:Nat)(l0:List Nat)(o n c x:Nat)(hl0:l0.length≤1000000000)(hon:o+n≤l0.length)(hnc:n≤c)(hW0:Wd l0)(hwin:win l0 o n=wds x)(D:Option Addr)(d y m:Nat)(hm:(wds y).length=m)(hmd:m≤d)(hyx:y≤x)(w:World)(h:Hp)(g:G w h)(ho:Own w rb 22 (l0.flatMap aj))(hj:h[rb]?=some junk)(hD:SlO 1 aj 0 h D (wds y)):Calls Tryz.prog 160 #[.slice (some ⟨rb,o,none⟩) n c,.slice D m d] w (cA rb w h fun v w' _=>∃ z:List Nat,∃ o' n' c':Nat,v=.slice (some ⟨rb,o',none⟩) n' c'∧z.length=l0.length∧Wd z∧o'+n'≤z.length∧n'≤c'∧win z o' n'=wds (x-y)∧Own w' rb 22 (z.flatMap aj)):=by
 have hmo:UpM [rb] w h w h:=UpM.refl g;obtain ⟨wz,hz,hs⟩:=SS.at_ g ho hj;have hl0_:l0.length=l0.length:=rfl;replace hs:=hs.aS hD;have hwn:n=(wds x).length:=by rw[←hwin,br hon]
 have hlm:=bZ hyx;refine go Tryz.func160 [(0,qS (some ⟨rb,o,none⟩) n c),(1,qS D m d)] rfl (aa hs [.v 4 (sZ)] (aG (lL hs [.v 5 (uV 0)] (af (aa hs [.m 8 0,.v 9 (nV n),.v 10 (iV 0)] (bn ?_))))));refine bQ _ (CG.loop (fun μ_ Γ w_=>∃ (i:Nat) (l:List Nat) (bo:Nat) (h_:Hp),μ_=n-i∧Γ=[(0,qS (some ⟨rb,o,none⟩) n c),(1,qS D m d),(4,sZ),(9,nV n),(10,nV i),(5,mV bo)]∧SS wz hz w_ h_ [⟨rb,22,(l).flatMap aj⟩] [] [fun h_=>SlO 1 aj 0 h_ D (wds y)]∧i≤n∧l.length=l0.length∧Wd l∧bo≤1∧ak 18446744073709551616 (win l o n)+ak 18446744073709551616 ((wds y).take i)=x+18446744073709551616^i*bo∧UpM [rb] w h w_ h_) _ ⟨0,l0,0,h,rfl,rfl,hs.to _ _,Nat.zero_le _,rfl,hW0,oM,(by have hx_:ak 18446744073709551616 (wds x)=x:=aI x;rw[hwin,hx_];simp[ak]),hmo⟩ ?_);rintro _ _ w1 ⟨i,l,bo,h2,hm3,rfl,hs,hi,hll,hW,hbo,inv,hmo⟩;have hlk:=hW.get (o+i);have hyk:=(Wd.wds y).get i;have hwg:=oa (l:=l) (o:=o) (n:=n) (j:=i);refine aE ?_;cases hb4:(decide ((i:Int)<(n:Int)))
 ·
  have phb4:=oF hb4;refine lB 11 hb4 (af (cw (CG.exit ?_)))
  show CG _ _ _ _ _ _ _ _
  refine aa hs [.m 35 0] (uU 36 0 hs (fun _ g_ f_ sg_=>xk (some ⟨rb,o,none⟩) c (win l o n) n (br oM) (by rw[br oM];omega) (by rw[br oM];omega) _ _ g_ (SlO.win (f:=aj) (d:=0) (b:=rb) (l:=l) (fun _=>rfl) sg_ o n)) ?_);rintro _ w5 h6 u7 hs rfl;replace hmo:=hmo.trans (u7.m _);refine lL hs [.m 4 36] (lN (kX ?_));have hiN:i=n:=by omega
  have hZl:(win l o n).length=n:=br oM;rw[List.take_of_length_le (show (wds y).length≤i by omega),hiN] at inv
  have hZW:Wd (win l o n):=hW.win _ _;have hE:aA (win l o n)=x-y:=kB hZW (by rw[hZl];have hb_:ak 18446744073709551616 (wds y)=y:=aI y;rw[hb_] at inv;exact inv) oM hbo;have hwm:=kU hZW;rw[hE,hZl] at hwm
  have htl:=fZ (win l o n) n;exact hs.retM hmo [] (qS (some ⟨rb,o,none⟩) (tl (win l o n) n) c) ⟨l,o,_,_,rfl,hll,hW,by omega,by omega,(by rw[hwm];exact (lm htl).symm),hs.own 0⟩
 have phb4:=oT hb4;refine lB 11 hb4 (af (ce (cK (cQ (kZ (aa hs [.m 12 10,.m 6 12] (aG (lL hs [.v 7 (uV 0)] (af (aa hs [.m 13 6,.m 14 1,.v 15 (nV m)] ?_))))))))));cases hb8:(decide ((i:Int)<(m:Int)))
 ·
  have phb8:=oF hb8;refine lB 16 hb8 (ah (cK (kQ (lL hs [.m 22 0,.m 23 6,.m 24 0,.m 25 6] (BR 26 rb o n c 1 (i:Nat) i (o+i) ?_)))));refine lQ 27 0 l aj 1 0 (o+i) (mV ((l).getD (o+i) 0)) hs oM (lL hs [.m 28 7,.m 29 5] ?_);obtain ⟨s9,za,he11,hl12,hm13,hr14⟩:=f5 ((l).getD (o+i) 0) 0 bo wM wM oM;refine lV 30 (.tuple #[mV s9,mV za]) ?_ (hr:=ck kR (hr14 _));refine lL hs [.m 21 30,.v 31 (mV s9),.v 32 (mV za)] (BR 33 rb o n c 1 (i:Nat) i (o+i) ?_);refine DB 0 l aj 1 (o+i) s9 hs oM (fun _ pu hs=>?_);replace hmo:=hmo.put pu (List.mem_singleton.2 rfl) hs.g;have zc:((l).set (o+i) s9).length=l0.length:=by rw[List.length_set];exact hll
  replace hs:=hs.to [⟨rb,22,((l).set (o+i) s9).flatMap aj⟩] [];refine lL hs [.m 5 32] (lN (kQ (bH 34 ((i:Nat)+1) (i+1) ?_)));refine lL hs [.m 10 34] (lD ?_);intro a_ ka;refine ⟨_,_,?_,⟨i+1,(l).set (o+i) s9,za,h2,rfl,rfl,hs.to _ _,oM,zc,(hW.set _ oM),oM,(by rw[iY oM];exact fA (by rw[br oM];omega) inv (by rw[hwg oM];first|omega|(have hy0:=bC (l:=wds y) (k:=i) oM;omega))),hmo⟩,ka.to _ kR⟩
  omega
 have phb8:=oT hb8;refine lB 16 hb8 (ao (kQ (lL hs [.m 17 1,.m 18 6] (lX 19 D m d 1 (i:Nat) i ((hs.f.1).ok oM) ?_))));refine lH 20 (mV ((wds y).getD i 0)) hs ((hs.f.1).el i oM) (lL hs [.m 7 20] (lN (kQ (lL hs [.m 22 0,.m 23 6,.m 24 0,.m 25 6] (BR 26 rb o n c 1 (i:Nat) i (o+i) ?_)))));refine lQ 27 0 l aj 1 0 (o+i) (mV ((l).getD (o+i) 0)) hs oM (lL hs [.m 28 7,.m 29 5] ?_);obtain ⟨s23,zb,he25,hl26,hm27,hr28⟩:=f5 ((l).getD (o+i) 0) ((wds y).getD i 0) bo wM wM oM;refine lV 30 (.tuple #[mV s23,mV zb]) ?_ (hr:=ck kR (hr28 _));refine lL hs [.m 21 30,.v 31 (mV s23),.v 32 (mV zb)] (BR 33 rb o n c 1 (i:Nat) i (o+i) ?_);refine DB 0 l aj 1 (o+i) s23 hs oM (fun _ pu hs=>?_);replace hmo:=hmo.put pu (List.mem_singleton.2 rfl) hs.g;have zd:((l).set (o+i) s23).length=l0.length:=by rw[List.length_set];exact hll
 replace hs:=hs.to [⟨rb,22,((l).set (o+i) s23).flatMap aj⟩] [];refine lL hs [.m 5 32] (lN (kQ (bH 34 ((i:Nat)+1) (i+1) ?_)));refine lL hs [.m 10 34] (lD ?_);intro a_ ka;refine ⟨_,_,?_,⟨i+1,(l).set (o+i) s23,zb,h2,rfl,rfl,hs.to _ _,oM,zd,(hW.set _ oM),oM,(by rw[iY oM];exact fA (by rw[br oM];omega) inv (by rw[hwg oM];first|omega|(have hy0:=bC (l:=wds y) (k:=i) oM;omega))),hmo⟩,ka.to _ kR⟩
 omega
theorem Tz.le {n k m:Nat}(t:Tz n k m):m≤n:=by rw[t.1];exact Nat.le_mul_of_pos_left m (Nat.two_pow_pos k)
theorem jJ (a b:Nat):(bK a b=0∧a=b)∨(bK a b = -1∧a<b)∨(bK a b=1∧b<a):=by
 rcases Nat.lt_trichotomy a b with h|h|h
 ·exact .inr (.inl ⟨cH h,h⟩)
 ·exact .inl ⟨fK h,h⟩
 ·exact .inr (.inr ⟨dG h,h⟩)
theorem pe (A:Option Addr)(c:Nat)(D:Option Addr)(d:Nat)(x y n m_:Nat)(lx ly:List Nat)(ex:lx=wds x)(ey:ly=wds y)(hn:lx.length=n)(hm_:ly.length=m_)(hlx:n≤1000000000)(hly:m_≤1000000000)(w:World)(h:Hp)(g:G w h)(hA:SlO 1 aj 0 h A lx)(hD:SlO 1 aj 0 h D ly):CV 159 #[.slice A n c,.slice D m_ d] w h (iV (bK x y)):=by
 subst ex ey;exact r6 A c D d x y n m_ hn hm_ oM oM w h g hA hD
theorem Db (A:Option Addr)(c:Nat)(l:List Nat)(n x:Nat)(ex:l=wds x)(hn:l.length=n)(hl:n≤1000000000)(w:World)(h:Hp)(g:G w h)(hA:SlO 1 aj 0 h A l):CV 161 #[.slice A n c] w h (nv x):=by
 subst ex;have:=vi A c (wds x) n hn (Wd.wds x) oM w h g hA
 rwa [aI] at this
theorem qL (rb:Nat)(l0:List Nat)(o n c x:Nat)(hl0:l0.length≤1000000000)(hon:o+n≤l0.length)(hnc:n≤c)(hW0:Wd l0)(hwin:win l0 o n=wds x)(D:Option Addr)(d y m:Nat)(ly:List Nat)(ey:ly=wds y)(hm:ly.length=m)(hmd:m≤d)(hyx:y≤x)(w:World)(h:Hp)(g:G w h)(ho:Own w rb 22 (l0.flatMap aj))(hj:h[rb]?=some junk)(hD:SlO 1 aj 0 h D ly):Calls Tryz.prog 160 #[.slice (some ⟨rb,o,none⟩) n c,.slice D m d] w (cA rb w h fun v w' _=>∃ z:List Nat,∃ o' n' c':Nat,v=.slice (some ⟨rb,o',none⟩) n' c'∧z.length=l0.length∧Wd z∧o'+n'≤z.length∧n'≤c'∧win z o' n'=wds (x-y)∧Own w' rb 22 (z.flatMap aj)):=by
 subst ey;exact CF rb l0 o n c x hl0 hon hnc hW0 hwin D d y m hm hmd hyx w h g ho hj hD
theorem n0 (x y:Nat)(hx:0<x)(hy:0<y)(hlx:(wds x).length≤1000000000)(hly:(wds y).length≤1000000000)(w:World)(h:Hp)(g:G w h)(tb:Tab h):CV 124 #[nv x,nv y] w h (nv (Nat.gcd x y)):=by
 have hs:=((sS g).aB tb);have hpx:=hx;have hpy:=hy;refine go Tryz.func124 [(0,nv x),(1,nv y)] rfl (aE (lA 2 24 (nc x) hs (fun b1 w2 h3 hs=>lA 3 24 (nc y) hs (fun b4 w5 h6 hs=>lA 4 24 ([uV 0,eS]) hs (fun b7 w8 h9 hs=>af ?_)))));obtain ⟨K_,hK_⟩:∃ K_,K_=w8.heap.size:=⟨_,rfl⟩;have hk_b7:b7<K_:=by rw[hK_];exact dw hs 0
 have hk_b4:b4<K_:=by rw[hK_];exact dw hs 1
 have hk_b1:b1<K_:=by rw[hK_];exact dw hs 2
 refine rL ⟨[],some (K_,[])⟩ 0 mixed ?_;have hszK:=hs.g.size;replace hs:=hs.drew;have hKl:=Nat.le_of_eq hK_;refine zO 0 10 [(2,0,2)] (nv x) rfl hKl hs (fun p hp=>by obtain rfl:=List.mem_singleton.1 hp;exact hk_b1) (zO 2 12 [(1,0,2)] (nv y) rfl hKl hs (fun p hp=>by obtain rfl:=List.mem_singleton.1 hp;exact hk_b4) (nu 1 11 (sj x oM oM _ _ hs.g) rfl hKl ?_));rintro _ _ _ u12 hKl ⟨bwx,rfl,hlox,hbcx,hslx⟩;obtain ⟨_,hs,-,-⟩:=hs.take u12 hlox hbcx;replace hs:=hs.to [⟨bwx,22,(wds x).flatMap aj⟩,⟨b7,24,[uV 0,eS]⟩,⟨b4,24,nc y⟩,⟨b1,24,nc x⟩] [];refine nu 3 13 (sj y oM oM _ _ hs.g) rfl hKl ?_;rintro _ _ _ u16 hKl ⟨bwy,rfl,hloy,hbcy,hsly⟩;obtain ⟨_,hs,-,-⟩:=hs.take u16 hloy hbcy;replace hs:=hs.to [⟨bwy,22,(wds y).flatMap aj⟩,⟨bwx,22,(wds x).flatMap aj⟩,⟨b7,24,[uV 0,eS]⟩,⟨b4,24,nc y⟩,⟨b1,24,nc x⟩] [];refine zV 4 5 (qS (sB bwx) ((wds x).length) ((wds x).length)) (zV 5 6 (qS (sB bwy) ((wds y).length) ((wds y).length)) (xi (lL hs [.m 14 5] (D6 15 1 hs (fun _ g_ f_ sg_=>m8 (sB bwx) (wds x).length (wds x) (wds x).length rfl (Wd.wds x) (by rw[aI];omega) oM _ _ g_ (f_.1) (SlO.of_flat (sz:=1) (f:=aj) (d:=0) (b:=bwx) (o:=0) (l:=wds x) (fun _=>rfl) sg_)) ?_))));rintro _ _ _ hs ⟨kx,mx,rfl,htx,hkx⟩;rw[aI] at htx
 refine lL hs [.m 16 6] (D6 17 0 hs (fun _ g_ f_ sg_=>m8 (sB bwy) (wds y).length (wds y) (wds y).length rfl (Wd.wds y) (by rw[aI];omega) oM _ _ g_ (f_.1) (SlO.of_flat (sz:=1) (f:=aj) (d:=0) (b:=bwy) (o:=0) (l:=wds y) (fun _=>rfl) sg_)) ?_);rintro _ _ _ hs ⟨ky,my,rfl,hty,hky⟩;rw[aI] at hty
 refine lV 18 (nV (min kx ky)) ?_ (hr:=aU (n:=if (ky:Int)<(kx:Int) then (ky:Int) else (kx:Int)) kR (by split<;>omega));refine lL hs [.m 7 18] (aG (lL hs [.m 19 5] (cY 20 (n6 bwx (wds x) 0 ((wds x).length) ((wds x).length) x hpx oM oM (nR _) (Wd.wds x) (oV _ _ (nR _)) _ _ hs.g (hs.own 1) (hs.jk 1) hs.f.1) ?_)));rintro _ _ _ u27 ⟨z24,o24,n24,zl,rfl,hzl24,hzW24,hzo24,hzc24,⟨kk24,mm24,htt24,hzw24⟩,hO24⟩;replace hs:=(hs.stepM 1 u27 hO24).to [⟨bwy,22,(wds y).flatMap aj⟩,⟨bwx,22,(z24).flatMap aj⟩,⟨b7,24,[uV 0,eS]⟩,⟨b4,24,nc y⟩,⟨b1,24,nc x⟩] [];have hmp24:=htt24.odd_pos;have hle24:=htt24.le;refine lL hs [.m 21 6] (cY 22 (n6 bwy (wds y) 0 ((wds y).length) ((wds y).length) y hpy oM oM (nR _) (Wd.wds y) (oV _ _ (nR _)) _ _ hs.g (hs.own 0) (hs.jk 0) hs.f.1) ?_);rintro _ _ zm u31 ⟨z28,o28,n28,zn,rfl,hzl28,hzW28,hzo28,hzc28,⟨kk28,mm28,htt28,hzw28⟩,hO28⟩;replace hs:=(hs.stepM 0 u31 hO28).to [⟨bwy,22,(z28).flatMap aj⟩,⟨bwx,22,(z24).flatMap aj⟩,⟨b7,24,[uV 0,eS]⟩,⟨b4,24,nc y⟩,⟨b1,24,nc x⟩] [];have hmp28:=htt28.odd_pos;have hle28:=htt28.le;refine lL hs [.m 5 20,.m 6 22] (af (kZ ?_));refine bQ _ (CG.loop (fun μ_ Γ w_=>∃ (pv:Nat) (l1:List Nat) (o1:Nat) (n1:Nat) (c1:Nat) (pw:Nat) (l2:List Nat) (o2:Nat) (n2:Nat) (c2:Nat) (x1:Nat) (y1:Nat) (h_:Hp),μ_=x1+y1∧Γ=[(4,pB b7),(7,nV (min kx ky)),(5,qS (some ⟨pv,o1,none⟩) n1 c1),(6,qS (some ⟨pw,o2,none⟩) n2 c2)]∧SS w h w_ h_ [⟨pw,22,(l2).flatMap aj⟩,⟨pv,22,(l1).flatMap aj⟩,⟨b7,24,[uV 0,eS]⟩,⟨b4,24,nc y⟩,⟨b1,24,nc x⟩] [] [fun h_=>Tab h_]∧l1.length≤1000000000∧Wd l1∧o1+n1≤l1.length∧n1≤c1∧win l1 o1 n1=wds x1∧0<x1∧l2.length≤1000000000∧Wd l2∧o2+n2≤l2.length∧n2≤c2∧win l2 o2 n2=wds y1∧0<y1∧x1%2=1∧y1%2=1∧Nat.gcd x1 y1*2^min kx ky=Nat.gcd x y) _ ⟨bwx,z24,o24,n24,zl,bwy,z28,o28,n28,zn,mm24,mm28,zm,rfl,rfl,hs.to _ _,oM,hzW24,hzo24,hzc24,hzw24,hmp24,oM,hzW28,hzo28,hzc28,hzw28,hmp28,htt24.2,htt28.2,(by rw[(htx.uniq htt24).1,(hty.uniq htt28).1];exact (p8 htt24 htt28).symm)⟩ ?_);rintro _ _ _ ⟨pv,l1,o1,n1,c1,pw,l2,o2,n2,c2,x1,y1,_,hm34,rfl,hs,hl1,hW1,hon1,hnc1,hwin1,hx1,hl2,hW2,hon2,hnc2,hwin2,hy1,hxo,hyo,hG⟩;have hcmp:=jJ x1 y1;have hwl1:=congrArg List.length hwin1;rw[br hon1] at hwl1
 have hwl2:=congrArg List.length hwin2;rw[br hon2] at hwl2
 refine kZ (aa hs [.m 23 5,.m 24 6] (Eh 25 1 0 hs (fun _ g_ f_ sg_ sh_=>pe (some ⟨pv,o1,none⟩) c1 (some ⟨pw,o2,none⟩) c2 x1 y1 n1 n2 (win l1 o1 n1) (win l2 o2 n2) hwin1 hwin2 (br hon1) (br hon2) oM oM _ _ g_ (SlO.win (f:=aj) (d:=0) (b:=pv) (l:=l1) (fun _=>rfl) sg_ o1 n1) (SlO.win (f:=aj) (d:=0) (b:=pw) (l:=l2) (fun _=>rfl) sh_ o2 n2)) ?_));rintro _ _ _ hs rfl;refine lL hs [.m 8 25] (af (aa hs [.m 26 8] ?_));cases za:((bK x1 y1:Int) == (0:Int))
 ·
  have zd:=ai za;refine lB 27 za (ah (cK (cQ (aa hs [.m 28 8] ?_))));cases zb:(decide ((bK x1 y1:Int)<(0:Int)))
  ·
   have ze:=oF zb;refine lB 29 zb (ah (cK (kQ (lL hs [.m 32 5,.m 33 6] (CJ 34 1 0 hs (fun _ g_ f_ hj_ sh_=>qL pv l1 o1 n1 c1 x1 oM hon1 hnc1 hW1 hwin1 (some ⟨pw,o2,none⟩) c2 y1 n2 (win l2 o2 n2) hwin2 (br hon2) hnc2 oM _ _ g_ (hs.own 1) hj_ (SlO.win (f:=aj) (d:=0) (b:=pw) (l:=l2) (fun _=>rfl) sh_ o2 n2)) ?_)))));rintro _ _ _ u44 ⟨s41,so41,sn41,sc41,rfl,hsl41,hsW41,hso41,hsc41,hsw41,zi⟩;replace hs:=(hs.stepM 1 u44 zi).to [⟨pw,22,(l2).flatMap aj⟩,⟨pv,22,(s41).flatMap aj⟩,⟨b7,24,[uV 0,eS]⟩,⟨b4,24,nc y⟩,⟨b1,24,nc x⟩] [];refine cY 35 (n6 pv s41 so41 sn41 sc41 (x1-y1) oM oM hso41 hsc41 hsW41 hsw41 _ _ hs.g (hs.own 1) (hs.jk 1) hs.f.1) ?_;rintro _ _ zo u48 ⟨z45,o45,n45,zp,rfl,hzl45,hzW45,hzo45,hzc45,⟨kk45,mm45,htt45,hzw45⟩,hO45⟩;replace hs:=(hs.stepM 1 u48 hO45).to [⟨pw,22,(l2).flatMap aj⟩,⟨pv,22,(z45).flatMap aj⟩,⟨b7,24,[uV 0,eS]⟩,⟨b4,24,nc y⟩,⟨b1,24,nc x⟩] [];have hmp45:=htt45.odd_pos;have hle45:=htt45.le;refine lL hs [.m 5 35] (lD ?_);intro a_ ka;refine ⟨_,_,?_,⟨pv,z45,o45,n45,zp,pw,l2,o2,n2,c2,mm45,y1,zo,rfl,rfl,hs.to _ _,oM,hzW45,hzo45,hzc45,hzw45,hmp45,oM,hW2,hon2,hnc2,hwin2,hy1,htt45.2,hyo,(by rw[oo oM hyo htt45];exact hG)⟩,ka.to _ kR⟩
   omega
  have ze:=oT zb;refine lB 29 zb (ao (kQ (lL hs [.m 30 6,.m 31 5,.m 5 30,.m 6 31] (lN (kQ (lL hs [.m 32 5,.m 33 6] (CJ 34 0 1 hs (fun _ g_ f_ hj_ sh_=>qL pw l2 o2 n2 c2 y1 oM hon2 hnc2 hW2 hwin2 (some ⟨pv,o1,none⟩) c1 x1 n1 (win l1 o1 n1) hwin1 (br hon1) hnc1 oM _ _ g_ (hs.own 0) hj_ (SlO.win (f:=aj) (d:=0) (b:=pv) (l:=l1) (fun _=>rfl) sh_ o1 n1)) ?_)))))));rintro _ _ _ u67 ⟨s64,so64,sn64,sc64,rfl,hsl64,hsW64,hso64,hsc64,hsw64,zj⟩;replace hs:=(hs.stepM 0 u67 zj).to [⟨pw,22,(s64).flatMap aj⟩,⟨pv,22,(l1).flatMap aj⟩,⟨b7,24,[uV 0,eS]⟩,⟨b4,24,nc y⟩,⟨b1,24,nc x⟩] [];refine cY 35 (n6 pw s64 so64 sn64 sc64 (y1-x1) oM oM hso64 hsc64 hsW64 hsw64 _ _ hs.g (hs.own 0) (hs.jk 0) hs.f.1) ?_;rintro _ _ zq u71 ⟨z68,o68,n68,zr,rfl,hzl68,hzW68,hzo68,hzc68,⟨kk68,mm68,htt68,hzw68⟩,hO68⟩;replace hs:=(hs.stepM 0 u71 hO68).to [⟨pw,22,(z68).flatMap aj⟩,⟨pv,22,(l1).flatMap aj⟩,⟨b7,24,[uV 0,eS]⟩,⟨b4,24,nc y⟩,⟨b1,24,nc x⟩] [];have hmp68:=htt68.odd_pos;have hle68:=htt68.le;refine lL hs [.m 5 35] (lD ?_);replace hs:=hs.perm (List.Perm.swap _ _ _);intro a_ ka;refine ⟨_,_,?_,⟨pw,z68,o68,n68,zr,pv,l1,o1,n1,c1,mm68,x1,zq,rfl,rfl,hs.to _ _,oM,hzW68,hzo68,hzc68,hzw68,hmp68,oM,hW1,hon1,hnc1,hwin1,hx1,htt68.2,hxo,(by rw[oo oM hxo htt68,Nat.gcd_comm];exact hG)⟩,ka.to _ kR⟩
  omega
 have zd:=eq_of_beq za;refine lB 27 za (ao (CG.exit ?_))
 show CG _ _ _ _ _ _ _ _
 refine aa hs [.m 36 5] (D6 37 1 hs (fun _ g_ f_ sg_=>Db (some ⟨pv,o1,none⟩) c1 (win l1 o1 n1) n1 x1 hwin1 (br hon1) oM _ _ g_ (SlO.win (f:=aj) (d:=0) (b:=pv) (l:=l1) (fun _=>rfl) sg_ o1 n1)) ?_);rintro _ _ _ hs rfl;refine lA 9 24 ([uV 0,eS]) hs (fun zg _ zs hs=>lP 0 0 (nc x1) hs (fun _ hs=>af (kZ ?_)));refine bQ _ (CG.loop (fun μ_ Γ w_=>∃ (z:Int) (a:Nat) (h_:Hp),μ_=z.toNat∧Γ=[(4,pB b7),(9,pB zg),(7,iV z)]∧SS w h w_ h_ [⟨zg,24,nc a⟩,⟨pw,22,(l2).flatMap aj⟩,⟨pv,22,(l1).flatMap aj⟩,⟨b7,24,[uV 0,eS]⟩,⟨b4,24,nc y⟩,⟨b1,24,nc x⟩] [] [fun h_=>Tab h_]∧z≤64000000000∧a*2^z.toNat=Nat.gcd x y) _ ⟨((min kx ky:Nat):Int),x1,zs,rfl,rfl,hs.to _ _,oM,(by rw[show x1=y1 by omega,Nat.gcd_self] at hG;rw[show x1=y1 by omega];rw[show (((min kx ky:Nat):Int)).toNat=min kx ky by omega];exact hG)⟩ ?_);rintro _ _ _ ⟨z,a,_,hm97,rfl,hs,hz,ha⟩;refine cQ (aa hs [.m 38 7] ?_);cases zc:(decide ((0:Int)<(z:Int)))
 ·
  have zf:=oF zc;refine lB 39 zc (ah (CG.exit ?_))
  show CG _ _ _ _ _ _ _ _
  exact aa hs [.o 46 (nv a) 0 0 2] (lP 3 0 (nc a) hs (fun _ hs=>ac hs [(3,0,2)] (nv a) (by rw[show z.toNat=0 by omega,Nat.pow_zero,Nat.mul_one] at ha;rw[ha])))
 have zf:=oT zc;refine lB 39 zc (ao (cK (cQ (kZ (kQ (lL hs [.o 42 (nv a) 0 0 2,.m 43 7] (lV 44 (nV (min z.toNat 65536)) ?_ (hr:=aU (n:=if (65536:Int)<z then (65536:Int) else z) kR (by split<;>omega)))))))));refine ag 45 hs (Ba a (min z.toNat 65536) (by have:=bZ (show a≤x by exact Nat.le_trans (Nat.le_mul_of_pos_right a (Nat.two_pow_pos z.toNat)) (by rw[ha];exact Nat.gcd_le_left y hx));omega) oM _ _ hs.g) (fun _ zk hs=>lP 0 0 (nc (a*2^min z.toNat 65536)) hs (fun _ hs=>lN (kQ (lL hs [.m 40 7] (lI 41 (z-65536) ?_)))));refine lL hs [.m 7 41] (lD ?_);intro a_ ka;refine ⟨_,_,?_,⟨z-65536,a*2^min z.toNat 65536,zk,rfl,rfl,hs.to _ _,oM,(by rw[Nat.mul_assoc,←Nat.pow_add,show min z.toNat 65536+(z-65536).toNat=z.toNat by omega];exact ha)⟩,ka.to _ kR⟩
 omega
theorem fs (n:Nat):(n=0∧nb n=0)∨(0<n∧0<nb n):=by
 rcases Nat.eq_zero_or_pos n with h|h
 ·subst h;exact .inl ⟨rfl,rfl⟩
 ·exact .inr ⟨h,(bX h).2.2⟩
theorem dN (x y:Nat):Nat.gcd y (x%y)=Nat.gcd x y:=by rw[Nat.gcd_comm y,←Nat.gcd_rec,Nat.gcd_comm]
theorem qe (n:Nat)(w:World)(h:Hp)(g:G w h):CR 119 #[nv n] w h (fun v _=>∃ s:Nat,∃ ok:Bool,v=.tuple #[mV s,.bool ok]∧(ok=true→s=n∧n<18446744073709551616)):=by
 rcases Nat.lt_or_ge n 18446744073709551616 with hn|hn
 ·refine (gY n hn w h g).mono ?_
  rintro _ w' ⟨_,h',rfl,u,rfl⟩;exact ⟨_,h',rfl,u,n,true,rfl,fun _=>⟨rfl,hn⟩⟩
 ·refine (vB n hn w h g).mono ?_
  rintro _ w' ⟨_,h',rfl,u,rfl⟩;exact ⟨_,h',rfl,u,0,false,rfl,fun e=>by cases e⟩
theorem EJ (a b:Int)(hla:(wds (ab a)).length≤1000000000)(hlb:(wds (ab b)).length≤1000000000)(w:World)(h:Hp)(g:G w h)(tb:Tab h):CV 91 #[iv a,iv b] w h (nv (Nat.gcd (ab a) (ab b))):=by
 have hs:=((sS g).aB tb);refine go Tryz.func91 [(0,iv a),(1,iv b)] rfl (aE (lA 2 26 (ic a) hs (fun b1 w2 h3 hs=>lA 3 26 (ic b) hs (fun b4 w5 h6 hs=>lA 4 24 ([uV 0,eS]) hs (fun b7 w8 h9 hs=>af ?_)))));have hsr:=hs;refine tw 6 [⟨4,5,.cells (List.toArray [uV 0,eS]) 24 (0,0)⟩,⟨5,6,.cells (List.toArray [uV 0,eS]) 24 (0,0)⟩] [] mixed hs (bG (dY kR (fun _ _=>by kernel_rfl)) (bG (dY kR (fun _ _=>by kernel_rfl)) av)) (eV 0 14 (qP b1 1) (eO 1 15 [(2,1,2)] (nv (ab a)) hs (eV 2 16 (qP b4 1) (ph 3 17 [(1,1,2)] (nv (ab b)) hsr hs (xS hsr hs 24 [uV 0,eS] 24 [uV 0,eS] (fun _ _ za zb hz14 hz15 hs=>tP 6 0 0 (nc (ab a)) hs (fun _ hs=>?_) (hz:=fI hz14)))))));refine tP 7 1 0 (nc (ab b)) hs (fun _ hs=>?_) (hz:=fI hz15);refine tN (cQ (aa hs [.o 18 (nv (ab a)) 0 0 2,.o 19 (nv (ab b)) 1 0 2] (ag 20 hs (jC (ab a) (ab b) aM aM _ _ hs.g) (fun _ _ hs=>?_))));have hcm:=jJ (ab a) (ab b);cases zc:(decide ((bK (ab a) (ab b):Int)<(0:Int)))
 ·
  have zm:=oF zc;refine lB 21 zc (ah (cK (cQ (aE ?_))));have hgc:Nat.gcd (ab a) (ab b)=Nat.gcd (ab a) (ab b):=by first|rfl|exact Nat.gcd_comm _ _
  refine lL hs [.o 24 (nv (ab b)) 1 0 2] (ag 25 hs (dm (ab b) (by first|assumption|exact au (Nat.le_of_lt (Nat.mod_lt _ oM)) aM) _ _ hs.g) (fun _ _ hs=>?_));have hnb4:=fs (ab b);cases zd:(((nb (ab b):Nat):Int) == (0:Int))
  ·
   have zn:=ai zd;refine lB 26 zd (ah (cK (aa hs [.o 29 (nv (ab a)) 0 0 2,.o 30 (nv (ab b)) 1 0 2] (ag 31 hs (AV (ab a) (ab b) oM aM aM _ _ hs.g) (fun _ _ hs=>?_)))));have hmd:=Nat.mod_lt (ab a) (show 0<(ab b) by omega);refine lL hs [.m 28 31,.v 32 (nv ((ab a)/(ab b))),.v 33 (nv ((ab a)%(ab b))),.v 34 qT] (lA 7 24 ([uV 0,eS]) hs (fun zu _ _ hs=>lA 8 24 ([uV 0,eS]) hs (fun zv _ _ hs=>lP 1 0 (nc ((ab a)/(ab b))) hs (fun _ hs=>lP 0 0 (nc ((ab a)%(ab b))) hs (fun _ hs=>lL hs [.m 9 34] (af ?_))))));have hsr:=hs;refine tw 2 [] [za,zb] mixed hs av (eO 0 35 [(3,0,2)] (nv (ab b)) hs (ph 1 36 [(0,0,2)] (nv ((ab a)%(ab b))) hsr hs ?_ (hM:=fun p hp=>by obtain rfl:=List.mem_singleton.1 hp;exact fun hm=>by rcases List.mem_cons.1 hm with e|hm;exact dj hs.st (i:=0) (j:=2) kR kR kR e;rcases List.mem_cons.1 hm with e|hm;exact dj hs.st (i:=0) (j:=3) kR kR kR e;cases hm)));refine cC hs (fun _ _ hs=>tP 2 2 0 (nc (ab b)) hs (fun _ hs=>?_) (hz:=cW (List.mem_cons_self)));refine tP 3 3 0 (nc ((ab a)%(ab b))) hs (fun _ hs=>?_) (hz:=cW (List.mem_cons_of_mem _<|List.mem_cons_self));refine tN (cQ (aE ?_));have hg2:Nat.gcd (ab b) ((ab a)%(ab b))=Nat.gcd (ab a) (ab b):=by rw[←hgc];exact dN _ _
   refine lL hs [.o 37 (nv ((ab a)%(ab b))) 3 0 2] (ag 38 hs (dm ((ab a)%(ab b)) (by first|assumption|exact au (Nat.le_of_lt (Nat.mod_lt _ oM)) aM) _ _ hs.g) (fun _ _ hs=>?_));have hnb8:=fs ((ab a)%(ab b));cases ze:(((nb ((ab a)%(ab b)):Nat):Int) == (0:Int))
   ·
    have zo:=ai ze;refine lB 39 ze (ah (cK (cQ (aa hs [.o 42 (nv (ab b)) 2 0 2] (lC 43 hs (qe (ab b) _ _ hs.g) ?_)))));rintro _ _ _ hs ⟨sp,ok,rfl,hok⟩;refine lL hs [.m 41 43,.v 44 (mV sp),.v 45 (.bool ok),.m 10 44,.m 11 45] (aG (lL hs [.m 46 11] (lN (bQ [(4,pB b7),(6,pB zb),(5,pB za),(10,mV sp),(46,.bool ok)] ?_))));cases zf:(ok)
    ·
     try rw[zf] at hs
     try rw[zf]
     exact cw (cK (aa hs [.o 60 (nv (ab b)) 2 0 2,.o 61 (nv ((ab a)%(ab b))) 3 0 2] (ag 62 hs (n0 (ab b) ((ab a)%(ab b)) oM oM (by first|assumption|exact au (Nat.le_of_lt (Nat.mod_lt _ oM)) aM) (by first|assumption|exact au (Nat.le_of_lt (Nat.mod_lt _ oM)) aM) _ _ hs.g hs.f.1) (fun _ _ hs=>lP 4 0 (nc (Nat.gcd (ab b) ((ab a)%(ab b)))) hs (fun _ hs=>ac hs [(4,0,2)] (nv (Nat.gcd (ab b) ((ab a)%(ab b)))) (congrArg nv hg2))))))
    try rw[zf] at hs
    try rw[zf]
    refine ce (aa hs [.o 48 (nv ((ab a)%(ab b))) 3 0 2] (ag 49 hs (gY ((ab a)%(ab b)) (by have hok_:=hok aM;omega) _ _ hs.g) (fun _ zw hs=>lL hs [.m 47 49,.v 50 (mV ((ab a)%(ab b))),.v 51 qT,.m 12 50,.m 13 51] (af (kZ ?_)))));refine bQ _ (CG.loop (fun μ_ Γ w_=>∃ (p:Nat) (q:Nat) (h_:Hp),μ_=q∧Γ=[(4,pB b7),(6,pB zb),(5,pB za),(10,mV p),(12,mV q)]∧SS w h w_ h_ [⟨zv,24,nc ((ab a)%(ab b))⟩,⟨zu,24,nc ((ab a)/(ab b))⟩,⟨za,24,nc (ab b)⟩,⟨zb,24,nc ((ab a)%(ab b))⟩,⟨b7,24,[uV 0,eS]⟩,⟨b4,26,ic b⟩,⟨b1,26,ic a⟩] [] [fun h_=>Tab h_]∧p<18446744073709551616∧q<18446744073709551616∧Nat.gcd p q=Nat.gcd (ab a) (ab b)) _ ⟨sp,((ab a)%(ab b)),zw,rfl,rfl,hs.to _ _,(by have hok_:=hok aM;omega),(by have hok_:=hok aM;omega),(by rw[(hok aM).1];exact hg2)⟩ ?_);rintro _ _ _ ⟨p,q,_,hm51,rfl,hs,hp,hq,hG⟩;refine cQ (aa hs [.m 52 12] ?_);cases zg:(decide ((0:Int)<(q:Int)))
    ·
     have zp:=oF zg;refine lB 53 zg (ah (CG.exit ?_))
     show CG _ _ _ _ _ _ _ _
     exact aa hs [.m 58 10] (ag 59 hs (xG p hp _ _ hs.g) (fun _ _ hs=>lP 4 0 (nc p) hs (fun _ hs=>ac hs [(4,0,2)] (nv p) (congrArg nv (by rw[←hG,show q=0 by omega,Nat.gcd_zero_right])))))
    have zp:=oT zg;refine lB 53 zg (ao (cK (kZ (cR 4 [] mixed hs av ?_))));refine eV 0 54 (mV q) (eV 1 55 (mV p) (eV 2 56 (mV q) (eV 3 57 (mV (p%q)) ?_ (hv:=fun _=>aU (eE (t:=22) (u:=22) (x:=.tmp 55) (y:=.tmp 56) (k:=.u64) (a:=(p:Int)) (b:=(q:Int)) kR kR kR oM _) (cJ p q)))));refine cC hs (fun _ zx hs=>tV 4 10 (mV q) (tV 5 12 (mV (p%q)) (tD ?_)));intro a_ ka;refine ⟨_,_,?_,⟨q,p%q,zx,rfl,rfl,hs.to _ _,hq,(by have:=Nat.mod_lt p (show 0<q by omega);omega),(by rw[dN];exact hG)⟩,ka.to _ kR⟩;have hmq_:=Nat.mod_lt p (show 0<q by omega)
    omega
   have zo:=eq_of_beq ze;exact lB 39 ze (ao (aa hs [.o 40 (nv (ab b)) 2 0 2] (lP 4 0 (nc (ab b)) hs (fun _ hs=>ac hs [(4,0,2)] (nv (ab b)) (congrArg nv (by rw[←hg2,show ((ab a)%(ab b))=0 by omega,Nat.gcd_zero_right]))))))
  have zn:=eq_of_beq zd;exact lB 26 zd (ao (aa hs [.o 27 (nv (ab a)) 0 0 2] (lP 2 0 (nc (ab a)) hs (fun _ hs=>ac hs [(2,0,2)] (nv (ab a)) (congrArg nv (by rw[←hgc,show (ab b)=0 by omega,Nat.gcd_zero_right]))))))
 have zm:=oT zc;refine lB 21 zc (ao (kQ (lL hs [.o 22 (nv (ab b)) 1 0 2,.o 23 (nv (ab a)) 0 0 2] (lP 0 0 (nc (ab b)) hs (fun _ hs=>lP 1 0 (nc (ab a)) hs (fun _ hs=>af (aE ?_)))))));have hgc:Nat.gcd (ab b) (ab a)=Nat.gcd (ab a) (ab b):=by first|rfl|exact Nat.gcd_comm _ _
 refine lL hs [.o 24 (nv (ab a)) 1 0 2] (ag 25 hs (dm (ab a) (by first|assumption|exact au (Nat.le_of_lt (Nat.mod_lt _ oM)) aM) _ _ hs.g) (fun _ _ hs=>?_));have hnb4:=fs (ab a);cases zi:(((nb (ab a):Nat):Int) == (0:Int))
 ·
  have zq:=ai zi;refine lB 26 zi (ah (cK (aa hs [.o 29 (nv (ab b)) 0 0 2,.o 30 (nv (ab a)) 1 0 2] (ag 31 hs (AV (ab b) (ab a) oM aM aM _ _ hs.g) (fun _ _ hs=>?_)))));have hmd:=Nat.mod_lt (ab b) (show 0<(ab a) by omega);refine lL hs [.m 28 31,.v 32 (nv ((ab b)/(ab a))),.v 33 (nv ((ab b)%(ab a))),.v 34 qT] (lA 7 24 ([uV 0,eS]) hs (fun zA _ _ hs=>lA 8 24 ([uV 0,eS]) hs (fun zB _ _ hs=>lP 1 0 (nc ((ab b)/(ab a))) hs (fun _ hs=>lP 0 0 (nc ((ab b)%(ab a))) hs (fun _ hs=>lL hs [.m 9 34] (af ?_))))));have hsr:=hs;refine tw 2 [] [za,zb] mixed hs av (eO 0 35 [(3,0,2)] (nv (ab a)) hs (ph 1 36 [(0,0,2)] (nv ((ab b)%(ab a))) hsr hs ?_ (hM:=fun p hp=>by obtain rfl:=List.mem_singleton.1 hp;exact fun hm=>by rcases List.mem_cons.1 hm with e|hm;exact dj hs.st (i:=0) (j:=2) kR kR kR e;rcases List.mem_cons.1 hm with e|hm;exact dj hs.st (i:=0) (j:=3) kR kR kR e;cases hm)));refine cC hs (fun _ _ hs=>tP 2 2 0 (nc (ab a)) hs (fun _ hs=>?_) (hz:=cW (List.mem_cons_self)));refine tP 3 3 0 (nc ((ab b)%(ab a))) hs (fun _ hs=>?_) (hz:=cW (List.mem_cons_of_mem _<|List.mem_cons_self));refine tN (cQ (aE ?_));have hg2:Nat.gcd (ab a) ((ab b)%(ab a))=Nat.gcd (ab a) (ab b):=by rw[←hgc];exact dN _ _
  refine lL hs [.o 37 (nv ((ab b)%(ab a))) 3 0 2] (ag 38 hs (dm ((ab b)%(ab a)) (by first|assumption|exact au (Nat.le_of_lt (Nat.mod_lt _ oM)) aM) _ _ hs.g) (fun _ _ hs=>?_));have hnb8:=fs ((ab b)%(ab a));cases zj:(((nb ((ab b)%(ab a)):Nat):Int) == (0:Int))
  ·
   have zr:=ai zj;refine lB 39 zj (ah (cK (cQ (aa hs [.o 42 (nv (ab a)) 2 0 2] (lC 43 hs (qe (ab a) _ _ hs.g) ?_)))));rintro _ _ _ hs ⟨sp,ok,rfl,hok⟩;refine lL hs [.m 41 43,.v 44 (mV sp),.v 45 (.bool ok),.m 10 44,.m 11 45] (lN (bQ [(4,pB b7),(6,pB zb),(5,pB za),(10,mV sp),(11,.bool ok)] ?_));refine aa hs [.m 46 11] (lN ?_);cases zk:(ok)
   ·
    try rw[zk] at hs
    try rw[zk]
    exact cw (cK (aa hs [.o 60 (nv (ab a)) 2 0 2,.o 61 (nv ((ab b)%(ab a))) 3 0 2] (ag 62 hs (n0 (ab a) ((ab b)%(ab a)) oM oM (by first|assumption|exact au (Nat.le_of_lt (Nat.mod_lt _ oM)) aM) (by first|assumption|exact au (Nat.le_of_lt (Nat.mod_lt _ oM)) aM) _ _ hs.g hs.f.1) (fun _ _ hs=>lP 4 0 (nc (Nat.gcd (ab a) ((ab b)%(ab a)))) hs (fun _ hs=>ac hs [(4,0,2)] (nv (Nat.gcd (ab a) ((ab b)%(ab a)))) (congrArg nv hg2))))))
   try rw[zk] at hs
   try rw[zk]
   refine ce (aa hs [.o 48 (nv ((ab b)%(ab a))) 3 0 2] (ag 49 hs (gY ((ab b)%(ab a)) (by have hok_:=hok aM;omega) _ _ hs.g) (fun _ zD hs=>lL hs [.m 47 49,.v 50 (mV ((ab b)%(ab a))),.v 51 qT,.m 12 50,.m 13 51] (af (kZ ?_)))));refine bQ _ (CG.loop (fun μ_ Γ w_=>∃ (p:Nat) (q:Nat) (h_:Hp),μ_=q∧Γ=[(4,pB b7),(6,pB zb),(5,pB za),(10,mV p),(12,mV q)]∧SS w h w_ h_ [⟨zB,24,nc ((ab b)%(ab a))⟩,⟨zA,24,nc ((ab b)/(ab a))⟩,⟨za,24,nc (ab a)⟩,⟨zb,24,nc ((ab b)%(ab a))⟩,⟨b7,24,[uV 0,eS]⟩,⟨b4,26,ic b⟩,⟨b1,26,ic a⟩] [] [fun h_=>Tab h_]∧p<18446744073709551616∧q<18446744073709551616∧Nat.gcd p q=Nat.gcd (ab a) (ab b)) _ ⟨sp,((ab b)%(ab a)),zD,rfl,rfl,hs.to _ _,(by have hok_:=hok aM;omega),(by have hok_:=hok aM;omega),(by rw[(hok aM).1];exact hg2)⟩ ?_);rintro _ _ _ ⟨p,q,_,hm95,rfl,hs,hp,hq,hG⟩;refine cQ (aa hs [.m 52 12] ?_);cases zl:(decide ((0:Int)<(q:Int)))
   ·
    have zs:=oF zl;refine lB 53 zl (ah (CG.exit ?_))
    show CG _ _ _ _ _ _ _ _
    exact aa hs [.m 58 10] (ag 59 hs (xG p hp _ _ hs.g) (fun _ _ hs=>lP 4 0 (nc p) hs (fun _ hs=>ac hs [(4,0,2)] (nv p) (congrArg nv (by rw[←hG,show q=0 by omega,Nat.gcd_zero_right])))))
   have zs:=oT zl;refine lB 53 zl (ao (cK (kZ (cR 4 [] mixed hs av ?_))));refine eV 0 54 (mV q) (eV 1 55 (mV p) (eV 2 56 (mV q) (eV 3 57 (mV (p%q)) ?_ (hv:=fun _=>aU (eE (t:=22) (u:=22) (x:=.tmp 55) (y:=.tmp 56) (k:=.u64) (a:=(p:Int)) (b:=(q:Int)) kR kR kR oM _) (cJ p q)))));refine cC hs (fun _ zt hs=>tV 4 10 (mV q) (tV 5 12 (mV (p%q)) (tD ?_)));intro a_ ka;refine ⟨_,_,?_,⟨q,p%q,zt,rfl,rfl,hs.to _ _,hq,(by have:=Nat.mod_lt p (show 0<q by omega);omega),(by rw[dN];exact hG)⟩,ka.to _ kR⟩;have hmq_:=Nat.mod_lt p (show 0<q by omega)
   omega
  have zr:=eq_of_beq zj;exact lB 39 zj (ao (aa hs [.o 40 (nv (ab a)) 2 0 2] (lP 4 0 (nc (ab a)) hs (fun _ hs=>ac hs [(4,0,2)] (nv (ab a)) (congrArg nv (by rw[←hg2,show ((ab b)%(ab a))=0 by omega,Nat.gcd_zero_right]))))))
 have zq:=eq_of_beq zi;exact lB 26 zi (ao (aa hs [.o 27 (nv (ab b)) 0 0 2] (lP 2 0 (nc (ab b)) hs (fun _ hs=>ac hs [(2,0,2)] (nv (ab b)) (congrArg nv (by rw[←hgc,show (ab a)=0 by omega,Nat.gcd_zero_right]))))))
theorem lE (z:Int)(b:Nat)(hd:(b:Int)∣z):cb (decide (z.sign<0)) (ab z/b)=z/b:=by
 obtain ⟨k,rfl⟩:=hd
 rcases Nat.eq_zero_or_pos b with hb|hb
 ·subst hb;simp[cb,ab]
 have e1:ab ((b:Int)*k)/b=k.natAbs:=by
  unfold ab
  rw[Int.natAbs_mul,Int.natAbs_natCast,Nat.mul_div_cancel_left _ hb]
 have e2:((b:Int)*k)/b=k:=Int.mul_ediv_cancel_left _ oM;have e3:((b:Int)*k).sign=k.sign:=by rw[Int.sign_mul,Int.sign_natCast_of_ne_zero oM,Int.one_mul]
 rw[e1,e2,e3]
 unfold cb
 rcases Int.lt_trichotomy k 0 with h|h|h
 ·rw[Int.sign_eq_neg_one_of_neg h];simp;omega
 ·subst h;simp
 ·rw[Int.sign_eq_one_of_pos h];simp;omega
theorem iW (a b:Rat):∀ g h:Nat,∀ up:Int,g=Nat.gcd a.den b.den→up=a.num*((b.den/g:Nat):Int)+b.num*((a.den/g:Nat):Int)→h=Nat.gcd (ab up) g →
    (a+b).num=up/h∧(a+b).den=(a.den/g)*(b.den/h)∧(h:Int)∣up∧h∣b.den∧0<h∧0<g:=by
  intro g h up hg hup hh;have hgp:0<g:=by rw[hg];exact Nat.gcd_pos_of_pos_left _ a.den_pos
  have hhp:0<h:=by rw[hh];exact Nat.gcd_pos_of_pos_right _ hgp
  have hga:g∣a.den:=by rw[hg];exact Nat.gcd_dvd_left _ _
  have hgb:g∣b.den:=by rw[hg];exact Nat.gcd_dvd_right _ _
  have hhg:h∣g:=by rw[hh];exact Nat.gcd_dvd_right _ _
  have hhu:(h:Int)∣up:=by
    have h1:h∣up.natAbs:=by rw[hh];exact Nat.gcd_dvd_left _ _
    exact Int.dvd_trans (Int.natCast_dvd_natCast.2 h1) (Int.natAbs_dvd.2 (Int.dvd_refl _))
  have hhb:h∣b.den:=Nat.dvd_trans hhg hgb;refine ⟨?_,?_,hhu,hhb,hhp,hgp⟩
  · show (Rat.add a b).num=_
    delta Rat.add
    dsimp only
    split
    · rename_i h1
      have g1:g=1:=by rw[hg];exact h1
      dsimp only
      clear h1 hg
      subst g1;have hh1:h=1:=by rw[hh];simp
      rw[hh1,hup];simp
    · subst hg hup hh
      dsimp only[Rat.maybeNormalize]
      split
      · rename_i h1
        dsimp only
        unfold ab
        rw[h1];simp
      · dsimp only
        rw[Int.divExact_eq_ediv]
        rfl
  · show (Rat.add a b).den=_
    delta Rat.add
    dsimp only
    split
    · rename_i h1
      have g1:g=1:=by rw[hg];exact h1
      dsimp only
      clear h1 hg
      subst g1;have hh1:h=1:=by rw[hh];simp
      rw[hh1];simp
    · subst hg hup hh
      dsimp only[Rat.maybeNormalize]
      split
      · rename_i h1
        dsimp only
        unfold ab
        rw[h1];simp
      · dsimp only
        rw[Nat.divExact_eq_div]
        unfold ab at *
        rw[Nat.mul_div_assoc _ hhb]
theorem iT (a b:Rat):∀ g h:Nat,g=Nat.gcd (ab a.num) b.den→h=Nat.gcd (ab b.num) a.den →
  (a*b).num=(a.num/g)*(b.num/h)∧(a*b).den=(a.den/h)*(b.den/g)∧(g:Int)∣a.num∧(h:Int)∣b.num∧0<g∧0<h:=by
 intro g h hg hh;have hgp:0<g:=by rw[hg];exact Nat.gcd_pos_of_pos_right _ b.den_pos
 have hhp:0<h:=by rw[hh];exact Nat.gcd_pos_of_pos_right _ a.den_pos
 have d1:(g:Int)∣a.num:=by
  have h1:g∣a.num.natAbs:=by rw[hg];exact Nat.gcd_dvd_left _ _
  exact Int.dvd_trans (Int.natCast_dvd_natCast.2 h1) (Int.natAbs_dvd.2 (Int.dvd_refl _))
 have d2:(h:Int)∣b.num:=by
  have h1:h∣b.num.natAbs:=by rw[hh];exact Nat.gcd_dvd_left _ _
  exact Int.dvd_trans (Int.natCast_dvd_natCast.2 h1) (Int.natAbs_dvd.2 (Int.dvd_refl _))
 refine ⟨?_,?_,d1,d2,hgp,hhp⟩
 ·show (Rat.mul a b).num=_
  delta Rat.mul
  dsimp only
  rw[Int.divExact_eq_ediv,Int.divExact_eq_ediv,hg,hh];rfl
 ·show (Rat.mul a b).den=_
  delta Rat.mul
  dsimp only
  rw[Nat.divExact_eq_div,Nat.divExact_eq_div,hg,hh];rfl
theorem fd (n:Int)(d:Nat)(hd:0<d):(mkRat n d).num=n/(Nat.gcd (ab n) d:Nat)∧(mkRat n d).den=d/Nat.gcd (ab n) d∧((Nat.gcd (ab n) d:Nat):Int)∣n∧0<Nat.gcd (ab n) d:=by
 have d1:((Nat.gcd (ab n) d:Nat):Int)∣n:=by
  have h1:Nat.gcd (ab n) d∣n.natAbs:=Nat.gcd_dvd_left _ _;exact Int.dvd_trans (Int.natCast_dvd_natCast.2 h1) (Int.natAbs_dvd.2 (Int.dvd_refl _))
 unfold mkRat
 rw[dif_neg oM,Rat.normalize_eq];exact ⟨rfl,rfl,d1,Nat.gcd_pos_of_pos_right _ hd⟩
theorem oS (b:Rat)(h:b.num≠0):(b⁻¹).num=cb (decide (b.num.sign<0)) b.den∧(b⁻¹).den=ab b.num:=by
 have e:b⁻¹=Rat.inv b:=rfl;rw[e]
 delta Rat.inv
 split
 ·rename_i h1
  rw[Int.sign_eq_neg_one_of_neg h1];simp[cb,ab]
 ·split
  ·rename_i h1
   rw[Int.sign_eq_one_of_pos h1];simp[cb,ab]
  ·omega
def LQ (k:Nat)(q:Rat):Prop:=(wds (ab q.num)).length≤k∧(wds q.den).length≤k
theorem cM (n:Nat)(w:World)(h:Hp)(g:G w h):CV 92 #[.bool false,nv n] w h (iv (n:Int)):=sY n w h g
theorem gx (x y:Int)(d:Nat)(hd:d=Nat.gcd (ab x) (ab y))(hla:(wds (ab x)).length≤1000000000)(hlb:(wds (ab y)).length≤1000000000)(w:World)(h:Hp)(g:G w h)(tb:Tab h):CV 91 #[iv x,iv y] w h (nv d):=by
 subst hd;exact EJ x y hla hlb w h g tb
theorem qI {n:Nat}:nb n=1↔n=1:=by
 rcases Nat.eq_zero_or_pos n with h|h
 ·subst h;simp[nb]
 ·have h1:=bX h
  constructor
  ·intro e;rw[e] at h1;omega
  ·intro e;subst e;rfl
theorem mG {n:Nat}:nb n=0↔n=0:=by
 rcases fs n with ⟨h1,h2⟩|⟨h1,h2⟩<;>omega
theorem jv {q:Rat}(h:q.den=1):qd q=0:=by unfold qd;rw[if_pos h]
theorem wG {q:Rat}(h:q.den≠1):qd q=q.den:=by unfold qd;rw[if_neg h]
theorem uf {q:Rat}:qd q=0↔q.den=1:=by
 unfold qd
 have:=q.den_pos
 split<;>omega
theorem EX (q:Rat):(((nb (qd q):Nat):Int) == (0:Int))=decide (q.den=1):=by
 rw[Bool.eq_iff_iff]
 simp only[beq_iff_eq,decide_eq_true_eq]
 rw[←uf,←mG]
 omega
theorem fi {q:Rat}{z:Int}{d:Nat}(hz:q.num=z)(hd:qd q=d):Value.agg #[.bool (aD z),.int .u64 (lo (ab z)),.string (hi (ab z)),.int .u64 (lo d),.string (hi d)]=qv q:=by subst hz hd;rfl
theorem LQ.qd {k:Nat}{q:Rat}(h:LQ k q):(wds (qd q)).length≤k:=by
 unfold Go.Proofs.YtebkpkbmegcjeaaGreatDoor.qd
 split
 ·exact Nat.zero_le _
 ·exact h.2
theorem Dk (a:Rat)(ha:LQ 1000000000 a)(w:World)(h:Hp)(g:G w h):CV 95 #[iv a.num,nv a.den] w h (qv a):=by
 have hs:=sS g;obtain ⟨ha1,ha2⟩:=ha;have hn1:=@qI a.den;refine go Tryz.func95 [(0,iv a.num),(1,nv a.den)] rfl (aE (lA 2 26 (ic a.num) hs (fun b1 w2 h3 hs=>lA 3 24 (nc a.den) hs (fun b4 w5 h6 hs=>lA 4 28 ([qF,uV 0,eS,uV 0,eS]) hs (fun b7 w8 h9 hs=>af (aa hs [.o 5 (nv a.den) 1 0 2] (ag 6 hs (dm a.den bz _ _ hs.g) (fun _ _ hs=>?_))))))));cases za:(((nb a.den:Nat):Int) == (1:Int))
 ·
  have zb:=ai za;exact lB 7 za (ah (cK (aa hs [.o 10 (iv a.num) 2 0 3,.o 11 (nv a.den) 1 0 2,.v 12 (.agg #[.bool (aD a.num),uV (lo (ab a.num)),.string (hi (ab a.num)),uV (lo a.den),.string (hi a.den)])] (lP 0 0 ([.bool (aD a.num),uV (lo (ab a.num)),.string (hi (ab a.num)),uV (lo a.den),.string (hi a.den)]) hs (fun _ hs=>ac hs [(0,0,5)] (.agg #[.bool (aD a.num),uV (lo (ab a.num)),.string (hi (ab a.num)),uV (lo a.den),.string (hi a.den)]) (fi (q:=a) (d:=a.den) rfl (wG oM)))))))
 have zb:=eq_of_beq za;exact lB 7 za (ao (aa hs [.o 8 (iv a.num) 2 0 3,.v 9 (.agg #[.bool (aD a.num),uV (lo (ab a.num)),.string (hi (ab a.num)),uV 0,eS])] (lP 0 0 ([.bool (aD a.num),uV (lo (ab a.num)),.string (hi (ab a.num)),uV 0,eS]) hs (fun _ hs=>ac hs [(0,0,5)] (.agg #[.bool (aD a.num),uV (lo (ab a.num)),.string (hi (ab a.num)),uV 0,eS]) (fi (q:=a) (d:=0) rfl (jv oM))))))
theorem ik (q:Rat)(z:Int)(d:Nat)(hz:q.num=z)(hd:d=q.den)(hq:LQ 1000000000 q)(w:World)(h:Hp)(g:G w h):CV 95 #[iv z,nv d] w h (qv q):=by
 subst hz hd;exact Dk q hq w h g
theorem bL (z:Int)(g:Nat)(hd:(g:Int)∣z):ab (z/g)≤ab z:=by
 unfold ab
 rcases Nat.eq_zero_or_pos g with h|h
 ·subst h;simp
 ·obtain ⟨k,rfl⟩:=hd
  rw[Int.mul_ediv_cancel_left _ oM,Int.natAbs_mul,Int.natAbs_natCast];exact Nat.le_mul_of_pos_left _ h
theorem e8 (a b:Nat)(hb:0<b)(hla:(wds a).length≤1000000000)(hlb:(wds b).length≤1000000000)(w:World)(h:Hp)(g:G w h):CV 93 #[nv a,nv b] w h (nv (a/b)):=by
 have hs:=sS g;have hn1:=@qI b;refine go Tryz.func93 [(0,nv a),(1,nv b)] rfl (aE (lA 2 24 (nc a) hs (fun b1 w2 h3 hs=>lA 3 24 (nc b) hs (fun b4 w5 h6 hs=>lA 4 24 ([uV 0,eS]) hs (fun b7 w8 h9 hs=>af (aa hs [.o 8 (nv b) 1 0 2] (ag 9 hs (dm b bz _ _ hs.g) (fun _ _ hs=>?_))))))));cases za:(((nb b:Nat):Int) == (1:Int))
 ·
  have zb:=ai za;exact lB 10 za (ah (cK (aa hs [.o 13 (nv a) 2 0 2,.o 14 (nv b) 1 0 2] (ag 15 hs (AV a b oM aM aM _ _ hs.g) (fun _ _ hs=>lL hs [.m 12 15,.v 16 (nv (a/b)),.v 17 (nv (a%b)),.v 18 qT] (lA 5 24 ([uV 0,eS]) hs (fun b15 _ _ hs=>lA 6 24 ([uV 0,eS]) hs (fun b18 _ _ hs=>lP 1 0 (nc (a/b)) hs (fun _ hs=>lP 0 0 (nc (a%b)) hs (fun _ hs=>lL hs [.m 7 18] (aG (lL hs [.o 19 (nv (a/b)) 1 0 2] (lP 2 0 (nc (a/b)) hs (fun _ hs=>ac hs [(2,0,2)] (nv (a/b)) rfl))))))))))))))
 have zb:=eq_of_beq za;exact lB 10 za (ao (aa hs [.o 11 (nv a) 2 0 2] (lP 0 0 (nc a) hs (fun _ hs=>ac hs [(0,0,2)] (nv a) (by rw[show b=1 by omega,Nat.div_one])))))
theorem jj (z:Int)(b:Nat)(hb:0<b)(hd:(b:Int)∣z)(hla:(wds (ab z)).length≤1000000000)(hlb:(wds b).length≤1000000000)(w:World)(h:Hp)(g:G w h):CV 96 #[iv z,nv b] w h (iv (z/b)):=by
 have hs:=sS g;have hdl:(wds (ab z/b)).length≤1000000000:=au (Nat.div_le_self _ _) hla;refine go Tryz.func96 [(0,iv z),(1,nv b)] rfl (aE (lA 2 26 (ic z) hs (fun b1 w2 h3 hs=>lA 3 24 (nc b) hs (fun b4 w5 h6 hs=>lA 4 26 ([qF,uV 0,eS]) hs (fun b7 w8 h9 hs=>af (cR 8 [] mixed hs av ?_))))));exact eO 0 5 [(2,0,3)] (iv z) hs (eO 3 8 [(2,0,3)] (iv z) hs (eO 5 10 [(1,0,2)] (nv b) hs (aq 1 6 hs (fun _ _ hs=>lz z bz _ _ hs.g) (fun _ _ hs=>eV 2 7 (.bool (decide (((z).sign:Int)<(0:Int)))) (aq 4 9 hs (fun _ _ hs=>rr z _ _ hs.g) (fun _ _ hs=>aq 6 11 hs (fun _ _ hs=>e8 (ab z) b aM bz bz _ _ hs.g) (fun _ _ hs=>aq 7 12 hs (fun _ _ hs=>ee (decide (((z).sign:Int)<(0:Int))) ((ab z)/b) bz _ _ hs.g) (fun _ _ hs=>cC hs (fun _ _ hs=>tP 8 0 0 (ic (cb (decide (((z).sign:Int)<(0:Int))) ((ab z)/b))) hs (fun _ hs=>tN (kX (hs.ret [(0,0,3)] (iv (cb (decide (((z).sign:Int)<(0:Int))) ((ab z)/b))) (congrArg iv (lE z b hd))))))))))))))
theorem fg (z:Int)(d:Nat)(hl:(wds (ab z)).length+(wds d).length≤1000000000)(w:World)(h:Hp)(g:G w h):CV 94 #[iv z,nv d] w h (iv (z*d)):=by
 have hs:=sS g;refine go Tryz.func94 [(0,iv z),(1,nv d)] rfl (aE (lA 2 26 (ic z) hs (fun b1 w2 h3 hs=>lA 3 24 (nc d) hs (fun b4 w5 h6 hs=>lA 4 26 ([qF,uV 0,eS]) hs (fun b7 w8 h9 hs=>af (cR 4 [] mixed hs av ?_))))));exact eO 0 5 [(2,0,3)] (iv z) hs (eO 1 6 [(1,0,2)] (nv d) hs (aq 2 7 hs (fun _ _ hs=>cM d _ _ hs.g) (fun _ _ hs=>aq 3 8 hs (fun _ _ hs=>ut z (d:Int) bz _ _ hs.g) (fun _ _ hs=>cC hs (fun _ _ hs=>tP 4 0 0 (ic (z*(d:Int))) hs (fun _ hs=>tN (kX (hs.ret [(0,0,3)] (iv (z*(d:Int))) rfl))))))))
theorem fe (a:Rat)(ha:LQ 100000000 a)(w:World)(h:Hp)(g:G w h):CV 71 #[qv a] w h (.bool (decide (a.den=1))):=by
 have hs:=sS g;have hqd:=ha.qd;exact go Tryz.func71 [(0,qv a)] rfl (aE (lA 1 28 (qc a) hs (fun b1 w2 h3 hs=>lL hs [.v 2 qF] (aG (lL hs [.v 3 (qP b1 3),.o 4 (nv (qd a)) 0 3 2] (ag 5 hs (dm (qd a) bz _ _ hs.g) (fun w4 h5 hs=>lL hs [.v 6 (.bool (((nb (qd a):Nat):Int) == (0:Int))),.m 2 6] (ac hs [] (.bool (((nb (qd a):Nat):Int) == (0:Int))) (congrArg Value.bool (EX a))))))))))
theorem dD (a:Rat)(ha:LQ 100000000 a)(w:World)(h:Hp)(g:G w h):CV 84 #[qv a] w h (nv a.den):=by
 have hs:=sS g;refine go Tryz.func84 [(0,qv a)] rfl (aE (lA 1 28 (qc a) hs (fun b1 w2 h3 hs=>lA 2 24 ([uV 0,eS]) hs (fun b4 w5 h6 hs=>af (aa hs [.o 3 (qv a) 1 0 5] (ag 4 hs (fe a aM _ _ hs.g) (fun w7 h8 hs=>?_)))))));cases hb9:(decide (a.den=1))
 ·
  have phb9:=oF hb9;exact ah (cK (aa hs [.v 6 (qP b1 3),.o 7 (nv (qd a)) 1 3 2] (lP 0 0 (nc (qd a)) hs (fun _ hs=>ac hs [(0,0,2)] (nv (qd a)) (by rw[wG (by simpa using (by assumption:decide (a.den=1)=false))])))))
 have phb9:=oT hb9;exact ao (aE (ag 5 hs (xG 1 oM _ _ hs.g) (fun _ _ hs=>lP 0 0 (nc 1) hs (fun _ hs=>ac hs [(0,0,2)] (nv 1) (by rw[show a.den=1 by simpa using (by assumption:decide (a.den=1)=true)])))))
theorem DQ (a:Rat)(w:World)(h:Hp)(g:G w h):CV 82 #[qv a] w h (iv a.num):=by
 have hs:=sS g;exact go Tryz.func82 [(0,qv a)] rfl (aE (lA 1 28 (qc a) hs (fun b1 w2 h3 hs=>lA 2 26 ([qF,uV 0,eS]) hs (fun b4 w5 h6 hs=>aG (lL hs [.v 3 (pB b1),.o 4 (iv a.num) 1 0 3] (lP 0 0 (ic a.num) hs (fun w7 hs=>ac hs [(0,0,3)] (iv a.num) rfl)))))))
theorem gQ (a:Rat)(ha:LQ 100000000 a)(w:World)(h:Hp)(g:G w h):CV 39 #[qv a] w h (iV a.num.sign):=by
 have hs:=sS g;obtain ⟨ha1,ha2⟩:=ha;exact go Tryz.func39 [(0,qv a)] rfl (aE (lA 1 28 (qc a) hs (fun b1 w2 h3 hs=>lL hs [.v 2 (iV 0)] (aG (lL hs [.v 3 (pB b1),.o 4 (iv a.num) 0 0 3] (ag 5 hs (lz a.num bz _ _ hs.g) (fun w4 h5 hs=>lL hs [.m 2 5] (ac hs [] (iV ((a.num).sign)) rfl))))))))
theorem tA (z:Int)(h0 : -9223372036854775808≤z)(h1:z≤9223372036854775807)(w:World)(h:Hp)(g:G w h):CV 6 #[iV z] w h (qv (z:Rat)):=by
 have hs:=sS g;exact go Tryz.func6 [(0,iV z)] rfl (aE (lA 2 28 ([qF,uV 0,eS,uV 0,eS]) hs (fun b1 w2 h3 hs=>aG (lL hs [.m 3 0] (ag 4 hs (Ey z oM oM _ _ hs.g) (fun w4 h5 hs=>lL hs [.v 5 (.agg #[.bool (aD z),uV (lo (ab z)),.string (hi (ab z)),uV 0,eS])] (lP 0 0 ([.bool (aD z),uV (lo (ab z)),.string (hi (ab z)),uV 0,eS]) hs (fun w6 hs=>ac hs [(0,0,5)] (.agg #[.bool (aD z),uV (lo (ab z)),.string (hi (ab z)),uV 0,eS]) (fi (d:=0) (Rat.num_intCast z) (jv (Rat.den_intCast z)))))))))))
theorem Dl (a:Rat)(ha:LQ 100000000 a)(w:World)(h:Hp)(g:G w h):CV 60 #[qv a] w h (qv (-a)):=by
 have hs:=sS g;obtain ⟨ha1,ha2⟩:=ha;refine go Tryz.func60 [(0,qv a)] rfl (aE (lA 1 28 (qc a) hs (fun b1 w2 h3 hs=>lA 2 28 ([qF,uV 0,eS,uV 0,eS]) hs (fun b4 w5 h6 hs=>af (cR 6 [] mixed hs av ?_)))));exact eV 0 3 (pB b1) (eO 1 4 [(1,0,3)] (iv a.num) hs (eV 3 6 (qP b1 3) (eO 4 7 [(1,3,2)] (nv (qd a)) hs (aq 2 5 hs (fun _ _ hs=>Ej a.num bz _ _ hs.g) (fun w7 h8 hs=>eV 5 8 (.agg #[.bool (aD (-a.num)),uV (lo (ab (-a.num))),.string (hi (ab (-a.num))),uV (lo (qd a)),.string (hi (qd a))]) (cC hs (fun w9 _ hs=>tP 6 0 0 ([.bool (aD (-a.num)),uV (lo (ab (-a.num))),.string (hi (ab (-a.num))),uV (lo (qd a)),.string (hi (qd a))]) hs (fun _ hs=>tN (kX (hs.ret [(0,0,5)] (.agg #[.bool (aD (-a.num)),uV (lo (ab (-a.num))),.string (hi (ab (-a.num))),uV (lo (qd a)),.string (hi (qd a))]) (fi (Rat.neg_num a) (by unfold qd;rw[Rat.neg_den]))))))))))))
theorem nY (z:Int)(d:Nat)(hd:0<d)(hla:(wds (ab z)).length≤1000000000)(hlb:(wds d).length≤1000000000)(w:World)(h:Hp)(g:G w h)(tb:Tab h):CV 192 #[iv z,nv d] w h (qv (mkRat z d)):=by
 have hs:=((sS g).aB tb);obtain ⟨hm1,hm2,hm3,hm4⟩:=fd z d hd;obtain ⟨q,hq⟩:∃ q,q=Nat.gcd (ab z) d:=⟨_,rfl⟩;rw[←hq] at hm1 hm2 hm3 hm4
 have hql:(wds q).length≤1000000000:=au (by rw[hq];exact Nat.gcd_le_right _ hd) hlb;have hLQ:LQ 1000000000 (mkRat z d):=⟨by rw[hm1];exact au (bL z q hm3) hla,by rw[hm2];exact au (Nat.div_le_self _ _) hlb⟩;refine go Tryz.func192 [(0,iv z),(1,nv d)] rfl (aE (lA 2 26 (ic z) hs (fun b1 w2 h3 hs=>lA 3 24 (nc d) hs (fun b4 w5 h6 hs=>lA 4 28 ([qF,uV 0,eS,uV 0,eS]) hs (fun b7 w8 h9 hs=>af ?_)))));have hsr:=hs;refine cR 5 [⟨4,5,.cells (List.toArray [uV 0,eS]) 24 (0,0)⟩] mixed hs (bG (dY kR (fun _ _=>by kernel_rfl)) av) (eO 0 6 [(2,0,3)] (iv z) hs (eO 1 7 [(1,0,2)] (nv d) hs (aq 2 8 hs (fun _ _ hs=>cM d _ _ hs.g) (fun _ _ hs=>aq 3 9 hs (fun _ _ hs=>gx z (d:Int) q (by first|assumption|exact hq) bz (show (wds d).length≤1000000000 by first|assumption|omega) _ _ hs.g hs.f.1) (fun _ _ hs=>iO [] hsr hs 24 [uV 0,eS] (fun _ _ b16 hs=>tP 5 0 0 (nc q) hs (fun _ hs=>tN (cQ (cR 7 [] mixed hs av ?_)))))))));exact eO 0 10 [(3,0,3)] (iv z) hs (eO 1 11 [(0,0,2)] (nv q) hs (eO 3 13 [(2,0,2)] (nv d) hs (eO 4 14 [(0,0,2)] (nv q) hs (aq 2 12 hs (fun _ _ hs=>jj z q aM aM bz bz _ _ hs.g) (fun _ _ hs=>aq 5 15 hs (fun _ _ hs=>e8 d q aM bz bz _ _ hs.g) (fun _ _ hs=>aq 6 16 hs (fun _ _ hs=>ik (mkRat z d) (z/(q:Int)) (d/q) (by first|assumption|exact hm1|exact (hm1).symm) (by first|assumption|exact hm2.symm) aM _ _ hs.g) (fun _ _ hs=>cC hs (fun _ _ hs=>tP 7 1 0 (qc (mkRat z d)) hs (fun _ hs=>tN (kX (hs.ret [(1,0,5)] (qv (mkRat z d)) rfl)))))))))))
theorem cI (a:Rat)(ha:LQ 100000000 a)(h1:a.den=1)(w:World)(h:Hp)(g:G w h):CV 71 #[qv a] w h (.bool true):=by
 have:=fe a ha w h g;rwa [decide_eq_true h1] at this
theorem dP (a:Rat)(ha:LQ 100000000 a)(h1:a.den≠1)(w:World)(h:Hp)(g:G w h):CV 71 #[qv a] w h (.bool false):=by
 have:=fe a ha w h g;rwa [decide_eq_false h1] at this
theorem xa (x y z:Int)(e:z=x+y)(hl:(wds (ab x)).length+(wds (ab y)).length≤999999999)(w:World)(h:Hp)(g:G w h):CV 90 #[iv x,iv y] w h (iv z):=by
 subst e;exact B6 x y hl w h g
theorem fH (x y:Int):(wds (ab (x*y))).length≤(wds (ab x)).length+(wds (ab y)).length:=by
 have:ab (x*y)=ab x*ab y:=Int.natAbs_mul x y;rw[this];exact cn
theorem cB (x:Int)(d:Nat):(wds (ab (x*((d:Nat):Int)))).length≤(wds (ab x)).length+(wds d).length:=fH x (d:Int)
theorem ms (x y:Int):(wds (ab (x+y))).length≤(wds (ab x)).length+(wds (ab y)).length+1 :=
 Nat.le_trans (bZ (show ab (x+y)≤ab x+ab y from Int.natAbs_add_le x y)) iF
theorem fX {a b:Rat}(ha:a.den=1)(hb:b.den=1):(a+b).num=a.num+b.num∧(a+b).den=1:=by
 obtain ⟨e1,e2,e3,e4,e5,e6⟩:=iW a b 1 1 (a.num+b.num) (by rw[ha,hb];rfl) (by rw[ha,hb];simp) (by simp);rw[ha,hb] at e2
 exact ⟨by simpa using e1,by simpa using e2⟩
theorem fY {a b:Rat}(ha:a.den=1)(hb:b.den=1):(a*b).num=a.num*b.num∧(a*b).den=1:=by
 obtain ⟨e1,e2,e3,e4,e5,e6⟩:=iT a b 1 1 (by rw[hb];simp) (by rw[ha];simp);rw[ha,hb] at e2
 exact ⟨by simpa using e1,by simpa using e2⟩
theorem Bc (a b:Rat)(ha:LQ 100000000 a)(hb:LQ 100000000 b)(hwa:a.den=1)(hwb:b.den=1)(w:World)(h:Hp)(g:G w h)(tb:Tab h):CV 56 #[qv a,qv b] w h (qv (a+b)):=by
 have hs:=((sS g).aB tb);have ha_:=ha;have hb_:=hb;obtain ⟨ha1,ha2⟩:=ha_;obtain ⟨hb1,hb2⟩:=hb_;exact go Tryz.func56 [(0,qv a),(1,qv b)] rfl (aE (lA 2 28 (qc a) hs (fun b1 w2 h3 hs=>lA 3 28 (qc b) hs (fun b4 w5 h6 hs=>lA 4 28 ([qF,uV 0,eS,uV 0,eS]) hs (fun b7 w8 h9 hs=>af (aa hs [.o 10 (qv a) 2 0 5] (ag 11 hs (cI a aM aM _ _ hs.g) (fun _ _ hs=>lL hs [.m 12 11,.o 13 (qv b) 1 0 5] (ag 14 hs (cI b aM aM _ _ hs.g) (fun _ _ hs=>lL hs [.v 15 qT] (ao (aa hs [.v 16 (pB b1),.o 17 (iv a.num) 2 0 3,.v 18 (pB b4),.o 19 (iv b.num) 1 0 3] (ag 20 hs (B6 a.num b.num bz _ _ hs.g) (fun _ _ hs=>lL hs [.v 21 (.agg #[.bool (aD (a.num+b.num)),uV (lo (ab (a.num+b.num))),.string (hi (ab (a.num+b.num))),uV 0,eS])] (lP 0 0 ([.bool (aD (a.num+b.num)),uV (lo (ab (a.num+b.num))),.string (hi (ab (a.num+b.num))),uV 0,eS]) hs (fun _ hs=>ac hs [(0,0,5)] (.agg #[.bool (aD (a.num+b.num)),uV (lo (ab (a.num+b.num))),.string (hi (ab (a.num+b.num))),uV 0,eS]) (fi (d:=0) (fX hwa hwb).1 (jv (fX hwa hwb).2))))))))))))))))))
theorem BI (a b:Rat)(ha:LQ 100000000 a)(hb:LQ 100000000 b)(hwa:a.den≠1)(w:World)(h:Hp)(g:G w h)(tb:Tab h):CV 56 #[qv a,qv b] w h (qv (a+b)):=by
 have hs:=((sS g).aB tb);have ha_:=ha;have hb_:=hb;obtain ⟨ha1,ha2⟩:=ha;obtain ⟨hb1,hb2⟩:=hb;obtain ⟨q,hq⟩:∃ q,q=Nat.gcd a.den b.den:=⟨_,rfl⟩;obtain ⟨up,hup⟩:∃ up,up=a.num*((b.den/q:Nat):Int)+b.num*((a.den/q:Nat):Int):=⟨_,rfl⟩;obtain ⟨r,hr⟩:∃ r,r=Nat.gcd (ab up) q:=⟨_,rfl⟩;obtain ⟨hm1,hm2,hd1,hd2,hr0,hq0⟩:=iW a b q r up hq hup hr;have hql:(wds q).length≤100000000:=au (by rw[hq];exact Nat.gcd_le_left _ a.den_pos) ha2;have hrl:(wds r).length≤100000000:=au (by rw[hr];exact Nat.gcd_le_right _ hq0) hql;have haq:(wds (a.den/q)).length≤100000000:=au (Nat.div_le_self _ _) ha2;have hbq:(wds (b.den/q)).length≤100000000:=au (Nat.div_le_self _ _) hb2;have hbr:(wds (b.den/r)).length≤100000000:=au (Nat.div_le_self _ _) hb2;have hx1:=cB a.num (b.den/q);have hx2:=cB b.num (a.den/q);have hul:(wds (ab up)).length≤999999999:=Nat.le_trans (by rw[hup];exact ms _ _) oM;have hdl:=@cn (a.den/q) (b.den/r);have hLQ:LQ 1000000000 (a+b):=⟨by rw[hm1];exact au (bL up r hd1) oM,by rw[hm2];omega⟩;have ha:=ha_;have hb:=hb_;refine go Tryz.func56 [(0,qv a),(1,qv b)] rfl (aE (lA 2 28 (qc a) hs (fun b1 w2 h3 hs=>lA 3 28 (qc b) hs (fun b4 w5 h6 hs=>lA 4 28 ([qF,uV 0,eS,uV 0,eS]) hs (fun b7 w8 h9 hs=>af (aa hs [.o 10 (qv a) 2 0 5] (ag 11 hs (dP a aM aM _ _ hs.g) (fun _ _ hs=>lL hs [.m 12 11] (lG 13 ?_)))))))));refine lG 14 (lL hs [.v 15 qF] (ah (cK (cQ ?_))));have hsr:=hs;refine cR 8 [⟨7,5,.cells (List.toArray [uV 0,eS]) 24 (0,0)⟩] mixed hs (bG (dY kR (fun _ _=>by kernel_rfl)) av) (eO 0 22 [(2,0,5)] (qv a) hs (eO 3 25 [(1,0,5)] (qv b) hs (aq 1 23 hs (fun _ _ hs=>dD a aM _ _ hs.g) (fun _ _ hs=>aq 2 24 hs (fun _ _ hs=>cM a.den _ _ hs.g) (fun _ _ hs=>aq 4 26 hs (fun _ _ hs=>dD b aM _ _ hs.g) (fun _ _ hs=>aq 5 27 hs (fun _ _ hs=>cM b.den _ _ hs.g) (fun _ _ hs=>aq 6 28 hs (fun _ _ hs=>gx (a.den:Int) (b.den:Int) q (by first|assumption|exact hq) (show (wds a.den).length≤1000000000 by first|assumption|omega) (show (wds b.den).length≤1000000000 by first|assumption|omega) _ _ hs.g hs.f.1) (fun _ _ hs=>iO [] hsr hs 24 [uV 0,eS] (fun _ _ b24 hs=>tP 8 0 0 (nc q) hs (fun _ hs=>tN (cQ ?_)))))))))));have hsr:=hs;refine tw 10 [⟨8,6,.cells (List.toArray [uV 0,eS]) 24 (0,0)⟩,⟨9,7,.cells (List.toArray [uV 0,eS]) 24 (0,0)⟩] [] mixed hs (bG (dY kR (fun _ _=>by kernel_rfl)) (bG (dY kR (fun _ _=>by kernel_rfl)) av)) (eO 0 29 [(3,0,5)] (qv a) hs (eO 2 31 [(0,0,2)] (nv q) hs (ph 4 33 [(2,0,5)] (qv b) hsr hs (ph 6 35 [(0,0,2)] (nv q) hsr hs (aq 1 30 hs (fun _ _ hs=>dD a aM _ _ hs.g) (fun _ _ hs=>aq 3 32 hs (fun _ _ hs=>e8 a.den q aM bz bz _ _ hs.g) (fun _ _ hs=>aq 5 34 hs (fun _ _ hs=>dD b aM _ _ hs.g) (fun _ _ hs=>aq 7 36 hs (fun _ _ hs=>e8 b.den q aM bz bz _ _ hs.g) (fun _ _ hs=>xS hsr hs 24 [uV 0,eS] 24 [uV 0,eS] (fun _ _ za b37 hz38 hz39 hs=>tP 10 0 0 (nc (a.den/q)) hs (fun _ hs=>?_) (hz:=fI hz38)))))))))));refine tP 11 1 0 (nc (b.den/q)) hs (fun _ hs=>?_) (hz:=fI hz39);refine tN (cQ ?_);have hsr:=hs;refine cR 10 [⟨9,8,.cells (List.toArray [qF,uV 0,eS]) 26 (0,0)⟩] mixed hs (bG (dY kR (fun _ _=>by kernel_rfl)) av) (eV 0 37 (pB b1) (eO 1 38 [(5,0,3)] (iv a.num) hs (eO 2 39 [(1,0,2)] (nv (b.den/q)) hs (eV 4 41 (pB b4) (eO 5 42 [(4,0,3)] (iv b.num) hs (eO 6 43 [(0,0,2)] (nv (a.den/q)) hs (aq 3 40 hs (fun _ _ hs=>fg a.num (b.den/q) bz _ _ hs.g) (fun _ _ hs=>aq 7 44 hs (fun _ _ hs=>fg b.num (a.den/q) bz _ _ hs.g) (fun _ _ hs=>aq 8 45 hs (fun _ _ hs=>xa (a.num*(((b.den/q):Nat):Int)) (b.num*(((a.den/q):Nat):Int)) up hup oM _ _ hs.g) (fun _ _ hs=>iO [] hsr hs 26 [qF,uV 0,eS] (fun _ _ zb hs=>tP 10 0 0 (ic up) hs (fun _ hs=>tN (cQ ?_)))))))))))));have hsr:=hs;refine cR 5 [⟨4,9,.cells (List.toArray [uV 0,eS]) 24 (0,0)⟩] mixed hs (bG (dY kR (fun _ _=>by kernel_rfl)) av) (eO 0 46 [(0,0,3)] (iv up) hs (eO 1 47 [(3,0,2)] (nv q) hs (aq 2 48 hs (fun _ _ hs=>cM q _ _ hs.g) (fun _ _ hs=>aq 3 49 hs (fun _ _ hs=>gx up (q:Int) r (by first|assumption|exact hr) bz (show (wds q).length≤1000000000 by first|assumption|omega) _ _ hs.g hs.f.1) (fun _ _ hs=>iO [] hsr hs 24 [uV 0,eS] (fun _ _ zc hs=>tP 5 0 0 (nc r) hs (fun _ hs=>tN (bQ [(3,pB b4),(4,pB b7),(6,pB za),(8,pB zb),(9,pB zc)] ?_))))))));refine cQ (cR 10 [] mixed hs av ?_);exact eO 0 50 [(1,0,3)] (iv up) hs (eO 1 51 [(0,0,2)] (nv r) hs (eO 3 53 [(2,0,2)] (nv (a.den/q)) hs (eO 4 54 [(6,0,5)] (qv b) hs (eO 6 56 [(0,0,2)] (nv r) hs (aq 2 52 hs (fun _ _ hs=>jj up r aM aM bz bz _ _ hs.g) (fun _ _ hs=>aq 5 55 hs (fun _ _ hs=>dD b aM _ _ hs.g) (fun _ _ hs=>aq 7 57 hs (fun _ _ hs=>e8 b.den r aM bz bz _ _ hs.g) (fun _ _ hs=>aq 8 58 hs (fun _ _ hs=>jB (a.den/q) (b.den/r) bz bz _ _ hs.g) (fun _ _ hs=>aq 9 59 hs (fun _ _ hs=>ik (a+b) (up/(r:Int)) ((a.den/q)*(b.den/r)) (by first|assumption|exact hm1|exact (hm1).symm) (by first|assumption|exact hm2.symm) aM _ _ hs.g) (fun _ _ hs=>cC hs (fun _ _ hs=>tP 10 5 0 (qc (a+b)) hs (fun _ hs=>tN (kX (hs.ret [(5,0,5)] (qv (a+b)) rfl))))))))))))))
theorem Bt (a b:Rat)(ha:LQ 100000000 a)(hb:LQ 100000000 b)(hwa:a.den=1)(hwb:b.den≠1)(w:World)(h:Hp)(g:G w h)(tb:Tab h):CV 56 #[qv a,qv b] w h (qv (a+b)):=by
 have hs:=((sS g).aB tb);have ha_:=ha;have hb_:=hb;obtain ⟨ha1,ha2⟩:=ha;obtain ⟨hb1,hb2⟩:=hb;obtain ⟨q,hq⟩:∃ q,q=Nat.gcd a.den b.den:=⟨_,rfl⟩;obtain ⟨up,hup⟩:∃ up,up=a.num*((b.den/q:Nat):Int)+b.num*((a.den/q:Nat):Int):=⟨_,rfl⟩;obtain ⟨r,hr⟩:∃ r,r=Nat.gcd (ab up) q:=⟨_,rfl⟩;obtain ⟨hm1,hm2,hd1,hd2,hr0,hq0⟩:=iW a b q r up hq hup hr;have hql:(wds q).length≤100000000:=au (by rw[hq];exact Nat.gcd_le_left _ a.den_pos) ha2;have hrl:(wds r).length≤100000000:=au (by rw[hr];exact Nat.gcd_le_right _ hq0) hql;have haq:(wds (a.den/q)).length≤100000000:=au (Nat.div_le_self _ _) ha2;have hbq:(wds (b.den/q)).length≤100000000:=au (Nat.div_le_self _ _) hb2;have hbr:(wds (b.den/r)).length≤100000000:=au (Nat.div_le_self _ _) hb2;have hx1:=cB a.num (b.den/q);have hx2:=cB b.num (a.den/q);have hul:(wds (ab up)).length≤999999999:=Nat.le_trans (by rw[hup];exact ms _ _) oM;have hdl:=@cn (a.den/q) (b.den/r);have hLQ:LQ 1000000000 (a+b):=⟨by rw[hm1];exact au (bL up r hd1) oM,by rw[hm2];omega⟩;have ha:=ha_;have hb:=hb_;refine go Tryz.func56 [(0,qv a),(1,qv b)] rfl (aE (lA 2 28 (qc a) hs (fun b1 w2 h3 hs=>lA 3 28 (qc b) hs (fun b4 w5 h6 hs=>lA 4 28 ([qF,uV 0,eS,uV 0,eS]) hs (fun b7 w8 h9 hs=>af (aa hs [.o 10 (qv a) 2 0 5] (ag 11 hs (cI a aM aM _ _ hs.g) (fun _ _ hs=>lL hs [.m 12 11,.o 13 (qv b) 1 0 5] (ag 14 hs (dP b aM aM _ _ hs.g) (fun _ _ hs=>lL hs [.v 15 qF] (ah (cK (cQ ?_)))))))))))));have hsr:=hs;refine cR 8 [⟨7,5,.cells (List.toArray [uV 0,eS]) 24 (0,0)⟩] mixed hs (bG (dY kR (fun _ _=>by kernel_rfl)) av) (eO 0 22 [(2,0,5)] (qv a) hs (eO 3 25 [(1,0,5)] (qv b) hs (aq 1 23 hs (fun _ _ hs=>dD a aM _ _ hs.g) (fun _ _ hs=>aq 2 24 hs (fun _ _ hs=>cM a.den _ _ hs.g) (fun _ _ hs=>aq 4 26 hs (fun _ _ hs=>dD b aM _ _ hs.g) (fun _ _ hs=>aq 5 27 hs (fun _ _ hs=>cM b.den _ _ hs.g) (fun _ _ hs=>aq 6 28 hs (fun _ _ hs=>gx (a.den:Int) (b.den:Int) q (by first|assumption|exact hq) (show (wds a.den).length≤1000000000 by first|assumption|omega) (show (wds b.den).length≤1000000000 by first|assumption|omega) _ _ hs.g hs.f.1) (fun _ _ hs=>iO [] hsr hs 24 [uV 0,eS] (fun _ _ b26 hs=>tP 8 0 0 (nc q) hs (fun _ hs=>tN (cQ ?_)))))))))));have hsr:=hs;refine tw 10 [⟨8,6,.cells (List.toArray [uV 0,eS]) 24 (0,0)⟩,⟨9,7,.cells (List.toArray [uV 0,eS]) 24 (0,0)⟩] [] mixed hs (bG (dY kR (fun _ _=>by kernel_rfl)) (bG (dY kR (fun _ _=>by kernel_rfl)) av)) (eO 0 29 [(3,0,5)] (qv a) hs (eO 2 31 [(0,0,2)] (nv q) hs (ph 4 33 [(2,0,5)] (qv b) hsr hs (ph 6 35 [(0,0,2)] (nv q) hsr hs (aq 1 30 hs (fun _ _ hs=>dD a aM _ _ hs.g) (fun _ _ hs=>aq 3 32 hs (fun _ _ hs=>e8 a.den q aM bz bz _ _ hs.g) (fun _ _ hs=>aq 5 34 hs (fun _ _ hs=>dD b aM _ _ hs.g) (fun _ _ hs=>aq 7 36 hs (fun _ _ hs=>e8 b.den q aM bz bz _ _ hs.g) (fun _ _ hs=>xS hsr hs 24 [uV 0,eS] 24 [uV 0,eS] (fun _ _ za b39 hz40 hz41 hs=>tP 10 0 0 (nc (a.den/q)) hs (fun _ hs=>?_) (hz:=fI hz40)))))))))));refine tP 11 1 0 (nc (b.den/q)) hs (fun _ hs=>?_) (hz:=fI hz41);refine tN (cQ ?_);have hsr:=hs;refine cR 10 [⟨9,8,.cells (List.toArray [qF,uV 0,eS]) 26 (0,0)⟩] mixed hs (bG (dY kR (fun _ _=>by kernel_rfl)) av) (eV 0 37 (pB b1) (eO 1 38 [(5,0,3)] (iv a.num) hs (eO 2 39 [(1,0,2)] (nv (b.den/q)) hs (eV 4 41 (pB b4) (eO 5 42 [(4,0,3)] (iv b.num) hs (eO 6 43 [(0,0,2)] (nv (a.den/q)) hs (aq 3 40 hs (fun _ _ hs=>fg a.num (b.den/q) bz _ _ hs.g) (fun _ _ hs=>aq 7 44 hs (fun _ _ hs=>fg b.num (a.den/q) bz _ _ hs.g) (fun _ _ hs=>aq 8 45 hs (fun _ _ hs=>xa (a.num*(((b.den/q):Nat):Int)) (b.num*(((a.den/q):Nat):Int)) up hup oM _ _ hs.g) (fun _ _ hs=>iO [] hsr hs 26 [qF,uV 0,eS] (fun _ _ zb hs=>tP 10 0 0 (ic up) hs (fun _ hs=>tN (cQ ?_)))))))))))));have hsr:=hs;refine cR 5 [⟨4,9,.cells (List.toArray [uV 0,eS]) 24 (0,0)⟩] mixed hs (bG (dY kR (fun _ _=>by kernel_rfl)) av) (eO 0 46 [(0,0,3)] (iv up) hs (eO 1 47 [(3,0,2)] (nv q) hs (aq 2 48 hs (fun _ _ hs=>cM q _ _ hs.g) (fun _ _ hs=>aq 3 49 hs (fun _ _ hs=>gx up (q:Int) r (by first|assumption|exact hr) bz (show (wds q).length≤1000000000 by first|assumption|omega) _ _ hs.g hs.f.1) (fun _ _ hs=>iO [] hsr hs 24 [uV 0,eS] (fun _ _ zc hs=>tP 5 0 0 (nc r) hs (fun _ hs=>tN (bQ [(3,pB b4),(4,pB b7),(6,pB za),(8,pB zb),(9,pB zc)] ?_))))))));refine cQ (cR 10 [] mixed hs av ?_);exact eO 0 50 [(1,0,3)] (iv up) hs (eO 1 51 [(0,0,2)] (nv r) hs (eO 3 53 [(2,0,2)] (nv (a.den/q)) hs (eO 4 54 [(6,0,5)] (qv b) hs (eO 6 56 [(0,0,2)] (nv r) hs (aq 2 52 hs (fun _ _ hs=>jj up r aM aM bz bz _ _ hs.g) (fun _ _ hs=>aq 5 55 hs (fun _ _ hs=>dD b aM _ _ hs.g) (fun _ _ hs=>aq 7 57 hs (fun _ _ hs=>e8 b.den r aM bz bz _ _ hs.g) (fun _ _ hs=>aq 8 58 hs (fun _ _ hs=>jB (a.den/q) (b.den/r) bz bz _ _ hs.g) (fun _ _ hs=>aq 9 59 hs (fun _ _ hs=>ik (a+b) (up/(r:Int)) ((a.den/q)*(b.den/r)) (by first|assumption|exact hm1|exact (hm1).symm) (by first|assumption|exact hm2.symm) aM _ _ hs.g) (fun _ _ hs=>cC hs (fun _ _ hs=>tP 10 5 0 (qc (a+b)) hs (fun _ hs=>tN (kX (hs.ret [(5,0,5)] (qv (a+b)) rfl))))))))))))))
theorem AR (a b:Rat)(ha:LQ 100000000 a)(hb:LQ 100000000 b)(w:World)(h:Hp)(g:G w h)(tb:Tab h):CV 56 #[qv a,qv b] w h (qv (a+b)):=by
 by_cases h1:a.den=1
 ·by_cases h2:b.den=1
  ·exact Bc a b ha hb h1 h2 w h g tb
  ·exact Bt a b ha hb h1 h2 w h g tb
 ·exact BI a b ha hb h1 w h g tb
theorem Bv (a b:Rat)(ha:LQ 100000000 a)(hb:LQ 100000000 b)(hwa:a.den=1)(hwb:b.den=1)(w:World)(h:Hp)(g:G w h)(tb:Tab h):CV 58 #[qv a,qv b] w h (qv (a*b)):=by
 have hs:=((sS g).aB tb);have ha_:=ha;have hb_:=hb;obtain ⟨ha1,ha2⟩:=ha_;obtain ⟨hb1,hb2⟩:=hb_;exact go Tryz.func58 [(0,qv a),(1,qv b)] rfl (aE (lA 2 28 (qc a) hs (fun b1 w2 h3 hs=>lA 3 28 (qc b) hs (fun b4 w5 h6 hs=>lA 4 28 ([qF,uV 0,eS,uV 0,eS]) hs (fun b7 w8 h9 hs=>af (aa hs [.o 7 (qv a) 2 0 5] (ag 8 hs (cI a aM aM _ _ hs.g) (fun _ _ hs=>lL hs [.m 9 8,.o 10 (qv b) 1 0 5] (ag 11 hs (cI b aM aM _ _ hs.g) (fun _ _ hs=>lL hs [.v 12 qT] (ao (aa hs [.v 13 (pB b1),.o 14 (iv a.num) 2 0 3,.v 15 (pB b4),.o 16 (iv b.num) 1 0 3] (ag 17 hs (ut a.num b.num bz _ _ hs.g) (fun _ _ hs=>lL hs [.v 18 (.agg #[.bool (aD (a.num*b.num)),uV (lo (ab (a.num*b.num))),.string (hi (ab (a.num*b.num))),uV 0,eS])] (lP 0 0 ([.bool (aD (a.num*b.num)),uV (lo (ab (a.num*b.num))),.string (hi (ab (a.num*b.num))),uV 0,eS]) hs (fun _ hs=>ac hs [(0,0,5)] (.agg #[.bool (aD (a.num*b.num)),uV (lo (ab (a.num*b.num))),.string (hi (ab (a.num*b.num))),uV 0,eS]) (fi (d:=0) (fY hwa hwb).1 (jv (fY hwa hwb).2))))))))))))))))))
theorem Av (a b:Rat)(ha:LQ 100000000 a)(hb:LQ 100000000 b)(hwa:a.den≠1)(w:World)(h:Hp)(g:G w h)(tb:Tab h):CV 58 #[qv a,qv b] w h (qv (a*b)):=by
 have hs:=((sS g).aB tb);have ha_:=ha;have hb_:=hb;obtain ⟨ha1,ha2⟩:=ha;obtain ⟨hb1,hb2⟩:=hb;obtain ⟨q,hq⟩:∃ q,q=Nat.gcd (ab a.num) b.den:=⟨_,rfl⟩;obtain ⟨r,hr⟩:∃ r,r=Nat.gcd (ab b.num) a.den:=⟨_,rfl⟩;obtain ⟨hm1,hm2,hd1,hd2,hq0,hr0⟩:=iT a b q r hq hr;have hql:(wds q).length≤100000000:=au (by rw[hq];exact Nat.gcd_le_right _ b.den_pos) hb2;have hrl:(wds r).length≤100000000:=au (by rw[hr];exact Nat.gcd_le_right _ a.den_pos) ha2;have haq:(wds (ab (a.num/(q:Int)))).length≤100000000:=au (bL _ _ hd1) ha1;have hbr:(wds (ab (b.num/(r:Int)))).length≤100000000:=au (bL _ _ hd2) hb1;have har:(wds (a.den/r)).length≤100000000:=au (Nat.div_le_self _ _) ha2;have hbq:(wds (b.den/q)).length≤100000000:=au (Nat.div_le_self _ _) hb2;have hdl:=@cn (a.den/r) (b.den/q);have hnl:=fH (a.num/(q:Int)) (b.num/(r:Int));have hLQ:LQ 1000000000 (a*b):=⟨by rw[hm1];omega,by rw[hm2];omega⟩;have ha:=ha_;have hb:=hb_;refine go Tryz.func58 [(0,qv a),(1,qv b)] rfl (aE (lA 2 28 (qc a) hs (fun b1 w2 h3 hs=>lA 3 28 (qc b) hs (fun b4 w5 h6 hs=>lA 4 28 ([qF,uV 0,eS,uV 0,eS]) hs (fun b7 w8 h9 hs=>af (aa hs [.o 7 (qv a) 2 0 5] (ag 8 hs (dP a aM aM _ _ hs.g) (fun _ _ hs=>lL hs [.m 9 8] (lG 10 ?_)))))))));refine lG 11 (lL hs [.v 12 qF] (ah (cK (cQ ?_))));have hsr:=hs;refine cR 7 [⟨6,5,.cells (List.toArray [uV 0,eS]) 24 (0,0)⟩] mixed hs (bG (dY kR (fun _ _=>by kernel_rfl)) av) (eV 0 19 (pB b1) (eO 1 20 [(2,0,3)] (iv a.num) hs (eO 2 21 [(1,0,5)] (qv b) hs (aq 3 22 hs (fun _ _ hs=>dD b aM _ _ hs.g) (fun _ _ hs=>aq 4 23 hs (fun _ _ hs=>cM b.den _ _ hs.g) (fun _ _ hs=>aq 5 24 hs (fun _ _ hs=>gx a.num (b.den:Int) q (by first|assumption|exact hq) bz (show (wds b.den).length≤1000000000 by first|assumption|omega) _ _ hs.g hs.f.1) (fun _ _ hs=>iO [] hsr hs 24 [uV 0,eS] (fun _ _ b20 hs=>tP 7 0 0 (nc q) hs (fun _ hs=>tN (cQ ?_))))))))));have hsr:=hs;refine cR 7 [⟨6,6,.cells (List.toArray [uV 0,eS]) 24 (0,0)⟩] mixed hs (bG (dY kR (fun _ _=>by kernel_rfl)) av) (eV 0 25 (pB b4) (eO 1 26 [(2,0,3)] (iv b.num) hs (eO 2 27 [(3,0,5)] (qv a) hs (aq 3 28 hs (fun _ _ hs=>dD a aM _ _ hs.g) (fun _ _ hs=>aq 4 29 hs (fun _ _ hs=>cM a.den _ _ hs.g) (fun _ _ hs=>aq 5 30 hs (fun _ _ hs=>gx b.num (a.den:Int) r (by first|assumption|exact hr) bz (show (wds a.den).length≤1000000000 by first|assumption|omega) _ _ hs.g hs.f.1) (fun _ _ hs=>iO [] hsr hs 24 [uV 0,eS] (fun _ _ b30 hs=>tP 7 0 0 (nc r) hs (fun _ hs=>tN (cQ (cR 19 [] mixed hs av ?_)))))))))));refine eV 0 31 (pB b1) (eO 1 32 [(4,0,3)] (iv a.num) hs (eO 2 33 [(1,0,2)] (nv q) hs (eV 4 35 (pB b4) (eO 5 36 [(3,0,3)] (iv b.num) hs (eO 6 37 [(0,0,2)] (nv r) hs (eO 9 40 [(4,0,5)] (qv a) hs (eO 11 42 [(0,0,2)] (nv r) hs (eO 13 44 [(3,0,5)] (qv b) hs (eO 15 46 [(1,0,2)] (nv q) hs (aq 3 34 hs (fun _ _ hs=>jj a.num q aM aM bz bz _ _ hs.g) (fun _ _ hs=>aq 7 38 hs (fun _ _ hs=>jj b.num r aM aM bz bz _ _ hs.g) (fun _ _ hs=>aq 8 39 hs (fun _ _ hs=>ut (a.num/(q:Int)) (b.num/(r:Int)) bz _ _ hs.g) (fun _ _ hs=>aq 10 41 hs (fun _ _ hs=>dD a aM _ _ hs.g) (fun _ _ hs=>aq 12 43 hs (fun _ _ hs=>e8 a.den r aM bz bz _ _ hs.g) (fun _ _ hs=>aq 14 45 hs (fun _ _ hs=>dD b aM _ _ hs.g) (fun _ _ hs=>aq 16 47 hs (fun _ _ hs=>e8 b.den q aM bz bz _ _ hs.g) (fun _ _ hs=>aq 17 48 hs (fun _ _ hs=>jB (a.den/r) (b.den/q) bz bz _ _ hs.g) (fun _ _ hs=>aq 18 49 hs (fun _ _ hs=>ik (a*b) ((a.num/(q:Int))*(b.num/(r:Int))) ((a.den/r)*(b.den/q)) (by first|assumption|exact hm1|exact (hm1).symm) (by first|assumption|exact hm2.symm) aM _ _ hs.g) (fun _ _ hs=>cC hs (fun _ _ hs=>tP 19 2 0 (qc (a*b)) hs (fun _ hs=>tN (bQ [(4,pB b7)] ?_))))))))))))))))))))));exact kX (hs.ret [(2,0,5)] (qv (a*b)) rfl)
theorem Aa (a b:Rat)(ha:LQ 100000000 a)(hb:LQ 100000000 b)(hwa:a.den=1)(hwb:b.den≠1)(w:World)(h:Hp)(g:G w h)(tb:Tab h):CV 58 #[qv a,qv b] w h (qv (a*b)):=by
 have hs:=((sS g).aB tb);have ha_:=ha;have hb_:=hb;obtain ⟨ha1,ha2⟩:=ha;obtain ⟨hb1,hb2⟩:=hb;obtain ⟨q,hq⟩:∃ q,q=Nat.gcd (ab a.num) b.den:=⟨_,rfl⟩;obtain ⟨r,hr⟩:∃ r,r=Nat.gcd (ab b.num) a.den:=⟨_,rfl⟩;obtain ⟨hm1,hm2,hd1,hd2,hq0,hr0⟩:=iT a b q r hq hr;have hql:(wds q).length≤100000000:=au (by rw[hq];exact Nat.gcd_le_right _ b.den_pos) hb2;have hrl:(wds r).length≤100000000:=au (by rw[hr];exact Nat.gcd_le_right _ a.den_pos) ha2;have haq:(wds (ab (a.num/(q:Int)))).length≤100000000:=au (bL _ _ hd1) ha1;have hbr:(wds (ab (b.num/(r:Int)))).length≤100000000:=au (bL _ _ hd2) hb1;have har:(wds (a.den/r)).length≤100000000:=au (Nat.div_le_self _ _) ha2;have hbq:(wds (b.den/q)).length≤100000000:=au (Nat.div_le_self _ _) hb2;have hdl:=@cn (a.den/r) (b.den/q);have hnl:=fH (a.num/(q:Int)) (b.num/(r:Int));have hLQ:LQ 1000000000 (a*b):=⟨by rw[hm1];omega,by rw[hm2];omega⟩;have ha:=ha_;have hb:=hb_;refine go Tryz.func58 [(0,qv a),(1,qv b)] rfl (aE (lA 2 28 (qc a) hs (fun b1 w2 h3 hs=>lA 3 28 (qc b) hs (fun b4 w5 h6 hs=>lA 4 28 ([qF,uV 0,eS,uV 0,eS]) hs (fun b7 w8 h9 hs=>af (aa hs [.o 7 (qv a) 2 0 5] (ag 8 hs (cI a aM aM _ _ hs.g) (fun _ _ hs=>lL hs [.m 9 8,.o 10 (qv b) 1 0 5] (ag 11 hs (dP b aM aM _ _ hs.g) (fun _ _ hs=>lL hs [.v 12 qF] (ah (cK (cQ ?_)))))))))))));have hsr:=hs;refine cR 7 [⟨6,5,.cells (List.toArray [uV 0,eS]) 24 (0,0)⟩] mixed hs (bG (dY kR (fun _ _=>by kernel_rfl)) av) (eV 0 19 (pB b1) (eO 1 20 [(2,0,3)] (iv a.num) hs (eO 2 21 [(1,0,5)] (qv b) hs (aq 3 22 hs (fun _ _ hs=>dD b aM _ _ hs.g) (fun _ _ hs=>aq 4 23 hs (fun _ _ hs=>cM b.den _ _ hs.g) (fun _ _ hs=>aq 5 24 hs (fun _ _ hs=>gx a.num (b.den:Int) q (by first|assumption|exact hq) bz (show (wds b.den).length≤1000000000 by first|assumption|omega) _ _ hs.g hs.f.1) (fun _ _ hs=>iO [] hsr hs 24 [uV 0,eS] (fun _ _ b22 hs=>tP 7 0 0 (nc q) hs (fun _ hs=>tN (cQ ?_))))))))));have hsr:=hs;refine cR 7 [⟨6,6,.cells (List.toArray [uV 0,eS]) 24 (0,0)⟩] mixed hs (bG (dY kR (fun _ _=>by kernel_rfl)) av) (eV 0 25 (pB b4) (eO 1 26 [(2,0,3)] (iv b.num) hs (eO 2 27 [(3,0,5)] (qv a) hs (aq 3 28 hs (fun _ _ hs=>dD a aM _ _ hs.g) (fun _ _ hs=>aq 4 29 hs (fun _ _ hs=>cM a.den _ _ hs.g) (fun _ _ hs=>aq 5 30 hs (fun _ _ hs=>gx b.num (a.den:Int) r (by first|assumption|exact hr) bz (show (wds a.den).length≤1000000000 by first|assumption|omega) _ _ hs.g hs.f.1) (fun _ _ hs=>iO [] hsr hs 24 [uV 0,eS] (fun _ _ b32 hs=>tP 7 0 0 (nc r) hs (fun _ hs=>tN (cQ (cR 19 [] mixed hs av ?_)))))))))));refine eV 0 31 (pB b1) (eO 1 32 [(4,0,3)] (iv a.num) hs (eO 2 33 [(1,0,2)] (nv q) hs (eV 4 35 (pB b4) (eO 5 36 [(3,0,3)] (iv b.num) hs (eO 6 37 [(0,0,2)] (nv r) hs (eO 9 40 [(4,0,5)] (qv a) hs (eO 11 42 [(0,0,2)] (nv r) hs (eO 13 44 [(3,0,5)] (qv b) hs (eO 15 46 [(1,0,2)] (nv q) hs (aq 3 34 hs (fun _ _ hs=>jj a.num q aM aM bz bz _ _ hs.g) (fun _ _ hs=>aq 7 38 hs (fun _ _ hs=>jj b.num r aM aM bz bz _ _ hs.g) (fun _ _ hs=>aq 8 39 hs (fun _ _ hs=>ut (a.num/(q:Int)) (b.num/(r:Int)) bz _ _ hs.g) (fun _ _ hs=>aq 10 41 hs (fun _ _ hs=>dD a aM _ _ hs.g) (fun _ _ hs=>aq 12 43 hs (fun _ _ hs=>e8 a.den r aM bz bz _ _ hs.g) (fun _ _ hs=>aq 14 45 hs (fun _ _ hs=>dD b aM _ _ hs.g) (fun _ _ hs=>aq 16 47 hs (fun _ _ hs=>e8 b.den q aM bz bz _ _ hs.g) (fun _ _ hs=>aq 17 48 hs (fun _ _ hs=>jB (a.den/r) (b.den/q) bz bz _ _ hs.g) (fun _ _ hs=>aq 18 49 hs (fun _ _ hs=>ik (a*b) ((a.num/(q:Int))*(b.num/(r:Int))) ((a.den/r)*(b.den/q)) (by first|assumption|exact hm1|exact (hm1).symm) (by first|assumption|exact hm2.symm) aM _ _ hs.g) (fun _ _ hs=>cC hs (fun _ _ hs=>tP 19 2 0 (qc (a*b)) hs (fun _ hs=>tN (bQ [(4,pB b7)] ?_))))))))))))))))))))));exact kX (hs.ret [(2,0,5)] (qv (a*b)) rfl)
theorem sv (a b:Rat)(ha:LQ 100000000 a)(hb:LQ 100000000 b)(w:World)(h:Hp)(g:G w h)(tb:Tab h):CV 58 #[qv a,qv b] w h (qv (a*b)):=by
 by_cases h1:a.den=1
 ·by_cases h2:b.den=1
  ·exact Bv a b ha hb h1 h2 w h g tb
  ·exact Aa a b ha hb h1 h2 w h g tb
 ·exact Av a b ha hb h1 w h g tb
theorem LQ.neg {k:Nat}{a:Rat}(h:LQ k a):LQ k (-a):=⟨by rw[Rat.neg_num];unfold ab;rw[Int.natAbs_neg];exact h.1,by rw[Rat.neg_den];exact h.2⟩
theorem Ea (a b:Rat)(ha:LQ 100000000 a)(hb:LQ 100000000 b)(w:World)(h:Hp)(g:G w h)(tb:Tab h):CV 57 #[qv a,qv b] w h (qv (a-b)):=by
 have hs:=((sS g).aB tb);have hnb:=hb.neg;refine go Tryz.func57 [(0,qv a),(1,qv b)] rfl (aE (lA 2 28 (qc a) hs (fun b1 w2 h3 hs=>lA 3 28 (qc b) hs (fun b4 w5 h6 hs=>lA 4 28 ([qF,uV 0,eS,uV 0,eS]) hs (fun b7 w8 h9 hs=>af (cR 4 [] mixed hs av ?_))))));exact eO 0 5 [(2,0,5)] (qv a) hs (eO 1 6 [(1,0,5)] (qv b) hs (aq 2 7 hs (fun _ _ hs=>Dl b aM _ _ hs.g) (fun _ _ hs=>aq 3 8 hs (fun _ _ hs=>AR a (-b) aM aM _ _ hs.g hs.f.1) (fun _ _ hs=>cC hs (fun _ _ hs=>tP 4 0 0 (qc (a+(-b))) hs (fun _ hs=>tN (kX (hs.ret [(0,0,5)] (qv (a+(-b))) (by rw[Rat.sub_eq_add_neg])))))))))
theorem LQ.add {k l:Nat}{a b:Rat}(ha:LQ k a)(hb:LQ l b):LQ (k+l+1) (a+b):=by
 obtain ⟨ha1,ha2⟩:=ha;obtain ⟨hb1,hb2⟩:=hb;obtain ⟨q,hq⟩:∃ q,q=Nat.gcd a.den b.den:=⟨_,rfl⟩;obtain ⟨up,hup⟩:∃ up,up=a.num*((b.den/q:Nat):Int)+b.num*((a.den/q:Nat):Int):=⟨_,rfl⟩;obtain ⟨r,hr⟩:∃ r,r=Nat.gcd (ab up) q:=⟨_,rfl⟩;obtain ⟨hm1,hm2,hd1,hd2,hr0,hq0⟩:=iW a b q r up hq hup hr;have haq:=au (Nat.div_le_self a.den q) ha2;have hbq:=au (Nat.div_le_self b.den q) hb2;have hbr:=au (Nat.div_le_self b.den r) hb2;have hx1:=cB a.num (b.den/q);have hx2:=cB b.num (a.den/q);have hdl:=@cn (a.den/q) (b.den/r);refine ⟨?_,by rw[hm2];omega⟩;rw[hm1];refine au (bL up r hd1) ?_;rw[hup];exact Nat.le_trans (bZ (show ab _≤ab _+ab _ from Int.natAbs_add_le _ _)) (mm oM oM)
theorem LQ.mul {k l:Nat}{a b:Rat}(ha:LQ k a)(hb:LQ l b):LQ (k+l) (a*b):=by
 obtain ⟨ha1,ha2⟩:=ha;obtain ⟨hb1,hb2⟩:=hb;obtain ⟨hm1,hm2,hd1,hd2,hq0,hr0⟩:=iT a b _ _ rfl rfl;refine ⟨?_,?_⟩
 ·rw[hm1]
  have h1:=au (bL _ _ hd1) ha1;have h2:=au (bL _ _ hd2) hb1;exact Nat.le_trans (fH _ _) oM
 ·rw[hm2]
  have h1:=au (Nat.div_le_self a.den (Nat.gcd (ab b.num) a.den)) ha2;have h2:=au (Nat.div_le_self b.den (Nat.gcd (ab a.num) b.den)) hb2;exact Nat.le_trans cn oM
theorem LQ.mono {k l:Nat}{a:Rat}(h:LQ k a)(hkl:k≤l):LQ l a:=⟨Nat.le_trans h.1 hkl,Nat.le_trans h.2 hkl⟩
def di (a b:Rat):Int:=dr (a.num*b.den) (b.num*a.den)
theorem dU {a b:Rat}(h1:a.den=1)(h2:b.den=1):dr a.num b.num=di a b:=by unfold di;rw[h1,h2];simp
theorem en {a b:Rat}(h:(a.num.sign != b.num.sign)=true):dr a.num b.num=di a b:=by
 have h:a.num.sign≠b.num.sign:=by simpa using h
 have ha:=a.den_pos;have hb:=b.den_pos
 unfold di dr
 rcases Int.lt_trichotomy a.num 0 with p|p|p<;>rcases Int.lt_trichotomy b.num 0 with q|q|q
 ·exact absurd (by rw[Int.sign_eq_neg_one_of_neg p,Int.sign_eq_neg_one_of_neg q]) h
 ·have:a.num*(b.den:Int)<0:=Int.mul_neg_of_neg_of_pos p oM
  rw[q];simp;rw[if_pos p,if_pos this]
 ·have t1:a.num*(b.den:Int)<0:=Int.mul_neg_of_neg_of_pos p oM
  have t2:0<b.num*(a.den:Int):=Int.mul_pos q oM;rw[if_pos oM,if_pos oM]
 ·have:b.num*(a.den:Int)<0:=Int.mul_neg_of_neg_of_pos q oM
  rw[p];simp;rw[if_neg oM,if_pos q,if_neg oM,if_pos this]
 ·exact absurd (by rw[p,q]) h
 ·have:0<b.num*(a.den:Int):=Int.mul_pos q oM
  rw[p];simp;rw[if_pos q,if_pos this]
 ·have t1:0<a.num*(b.den:Int):=Int.mul_pos p oM
  have t2:b.num*(a.den:Int)<0:=Int.mul_neg_of_neg_of_pos q oM;rw[if_neg oM,if_pos oM,if_neg oM,if_pos oM]
 ·have:0<a.num*(b.den:Int):=Int.mul_pos p oM
  rw[q];simp;rw[if_neg oM,if_pos p,if_neg oM,if_pos this]
 ·exact absurd (by rw[Int.sign_eq_one_of_pos p,Int.sign_eq_one_of_pos q]) h
theorem AF (a b:Rat)(ha:LQ 100000000 a)(hb:LQ 100000000 b)(hwa:a.den=1)(hwb:b.den=1)(w:World)(h:Hp)(g:G w h):CV 101 #[qv a,qv b] w h (iV (di a b)):=by
 have hs:=sS g;have ha_:=ha;have hb_:=hb;obtain ⟨ha1,ha2⟩:=ha_;obtain ⟨hb1,hb2⟩:=hb_;have hx1:=cB a.num b.den;have hx2:=cB b.num a.den;refine go Tryz.func101 [(0,qv a),(1,qv b)] rfl (aE (lA 2 28 (qc a) hs (fun b1 w2 h3 hs=>lA 3 28 (qc b) hs (fun b4 w5 h6 hs=>lL hs [.v 4 (iV 0)] (af (cQ (cR 13 [] mixed hs av ?_)))))));exact eO 0 5 [(1,0,5)] (qv a) hs (aq 1 6 hs (fun _ _ hs=>cI a aM aM _ _ hs.g) (fun w7 h8 hs=>eV 2 7 qT (eO 3 8 [(0,0,5)] (qv b) hs (aq 4 9 hs (fun _ _ hs=>cI b aM aM _ _ hs.g) (fun w9 _ hs=>eV 5 10 qT (eV 6 11 qT (eG 7 12 (eG 8 13 (eG 9 14 (eG 10 15 (eG 11 16 (eV 12 17 qT (cC hs (fun _ _ hs=>tN (ce (aa hs [.v 18 (pB b1),.o 19 (iv a.num) 1 0 3,.v 20 (pB b4),.o 21 (iv b.num) 0 0 3] (ag 22 hs (qz a.num b.num bz bz _ _ hs.g) (fun _ _ hs=>lL hs [.m 4 22] (ac hs [] (iV (dr a.num b.num)) (congrArg (Value.int .i64) (by first|rfl|exact dU hwa hwb|exact en ‹_›)))))))))))))))))))))
theorem xZ (a b:Rat)(ha:LQ 100000000 a)(hb:LQ 100000000 b)(hwa:a.den≠1)(w:World)(h:Hp)(g:G w h):CV 101 #[qv a,qv b] w h (iV (di a b)):=by
 have hs:=sS g;have ha_:=ha;have hb_:=hb;obtain ⟨ha1,ha2⟩:=ha_;obtain ⟨hb1,hb2⟩:=hb_;have hx1:=cB a.num b.den;have hx2:=cB b.num a.den;refine go Tryz.func101 [(0,qv a),(1,qv b)] rfl (aE (lA 2 28 (qc a) hs (fun b1 w2 h3 hs=>lA 3 28 (qc b) hs (fun b4 w5 h6 hs=>lL hs [.v 4 (iV 0)] (af (cQ (cR 13 [] mixed hs av ?_)))))));refine eO 0 5 [(1,0,5)] (qv a) hs (aq 1 6 hs (fun _ _ hs=>dP a aM aM _ _ hs.g) (fun w7 h8 hs=>eV 2 7 qF (eG 3 8 (eG 4 9 (eV 5 10 qF (eV 6 11 qF (eO 7 12 [(1,0,5)] (qv a) hs (eO 9 14 [(0,0,5)] (qv b) hs (aq 8 13 hs (fun _ _ hs=>gQ a aM _ _ hs.g) (fun w9 _ hs=>aq 10 15 hs (fun _ _ hs=>gQ b aM _ _ hs.g) (fun _ _ hs=>?_)))))))))));cases za:(((a.num).sign:Int) != ((b.num).sign:Int))
 ·
  have zb:=az za;refine eB 11 16 za (eV 12 17 qF (cC hs (fun _ _ hs=>tN (cw (cK (cQ (cR 11 [] mixed hs av ?_)))))));exact eV 0 23 (pB b1) (eO 1 24 [(1,0,3)] (iv a.num) hs (eO 2 25 [(0,0,5)] (qv b) hs (eV 5 28 (pB b4) (eO 6 29 [(0,0,3)] (iv b.num) hs (eO 7 30 [(1,0,5)] (qv a) hs (aq 3 26 hs (fun _ _ hs=>dD b aM _ _ hs.g) (fun _ _ hs=>aq 4 27 hs (fun _ _ hs=>fg a.num b.den bz _ _ hs.g) (fun _ _ hs=>aq 8 31 hs (fun _ _ hs=>dD a aM _ _ hs.g) (fun _ _ hs=>aq 9 32 hs (fun _ _ hs=>fg b.num a.den bz _ _ hs.g) (fun _ _ hs=>aq 10 33 hs (fun _ _ hs=>qz (a.num*(b.den:Int)) (b.num*(a.den:Int)) bz bz _ _ hs.g) (fun _ _ hs=>cC hs (fun _ _ hs=>tV 11 4 (iV (dr (a.num*(b.den:Int)) (b.num*(a.den:Int)))) (tN (kX (hs.ret [] (iV (dr (a.num*(b.den:Int)) (b.num*(a.den:Int)))) (congrArg (Value.int .i64) (by first|rfl|exact dU hwa hwb|exact en ‹_›)))))))))))))))))
 have zb:=aY za;exact eB 11 16 za (eV 12 17 qT (cC hs (fun _ _ hs=>tN (ce (aa hs [.v 18 (pB b1),.o 19 (iv a.num) 1 0 3,.v 20 (pB b4),.o 21 (iv b.num) 0 0 3] (ag 22 hs (qz a.num b.num bz bz _ _ hs.g) (fun _ _ hs=>lL hs [.m 4 22] (ac hs [] (iV (dr a.num b.num)) (congrArg (Value.int .i64) (by first|rfl|exact dU hwa hwb|exact en ‹_›))))))))))
theorem At (a b:Rat)(ha:LQ 100000000 a)(hb:LQ 100000000 b)(hwa:a.den=1)(hwb:b.den≠1)(w:World)(h:Hp)(g:G w h):CV 101 #[qv a,qv b] w h (iV (di a b)):=by
 have hs:=sS g;have ha_:=ha;have hb_:=hb;obtain ⟨ha1,ha2⟩:=ha_;obtain ⟨hb1,hb2⟩:=hb_;have hx1:=cB a.num b.den;have hx2:=cB b.num a.den;refine go Tryz.func101 [(0,qv a),(1,qv b)] rfl (aE (lA 2 28 (qc a) hs (fun b1 w2 h3 hs=>lA 3 28 (qc b) hs (fun b4 w5 h6 hs=>lL hs [.v 4 (iV 0)] (af (cQ (cR 13 [] mixed hs av ?_)))))));refine eO 0 5 [(1,0,5)] (qv a) hs (aq 1 6 hs (fun _ _ hs=>cI a aM aM _ _ hs.g) (fun w7 h8 hs=>eV 2 7 qT (eO 3 8 [(0,0,5)] (qv b) hs (aq 4 9 hs (fun _ _ hs=>dP b aM aM _ _ hs.g) (fun w9 _ hs=>eV 5 10 qF (eV 6 11 qF (eO 7 12 [(1,0,5)] (qv a) hs (eO 9 14 [(0,0,5)] (qv b) hs (aq 8 13 hs (fun _ _ hs=>gQ a aM _ _ hs.g) (fun _ _ hs=>aq 10 15 hs (fun _ _ hs=>gQ b aM _ _ hs.g) (fun _ _ hs=>?_)))))))))));cases za:(((a.num).sign:Int) != ((b.num).sign:Int))
 ·
  have zb:=az za;refine eB 11 16 za (eV 12 17 qF (cC hs (fun _ _ hs=>tN (cw (cK (cQ (cR 11 [] mixed hs av ?_)))))));exact eV 0 23 (pB b1) (eO 1 24 [(1,0,3)] (iv a.num) hs (eO 2 25 [(0,0,5)] (qv b) hs (eV 5 28 (pB b4) (eO 6 29 [(0,0,3)] (iv b.num) hs (eO 7 30 [(1,0,5)] (qv a) hs (aq 3 26 hs (fun _ _ hs=>dD b aM _ _ hs.g) (fun _ _ hs=>aq 4 27 hs (fun _ _ hs=>fg a.num b.den bz _ _ hs.g) (fun _ _ hs=>aq 8 31 hs (fun _ _ hs=>dD a aM _ _ hs.g) (fun _ _ hs=>aq 9 32 hs (fun _ _ hs=>fg b.num a.den bz _ _ hs.g) (fun _ _ hs=>aq 10 33 hs (fun _ _ hs=>qz (a.num*(b.den:Int)) (b.num*(a.den:Int)) bz bz _ _ hs.g) (fun _ _ hs=>cC hs (fun _ _ hs=>tV 11 4 (iV (dr (a.num*(b.den:Int)) (b.num*(a.den:Int)))) (tN (kX (hs.ret [] (iV (dr (a.num*(b.den:Int)) (b.num*(a.den:Int)))) (congrArg (Value.int .i64) (by first|rfl|exact dU hwa hwb|exact en ‹_›)))))))))))))))))
 have zb:=aY za;exact eB 11 16 za (eV 12 17 qT (cC hs (fun _ _ hs=>tN (ce (aa hs [.v 18 (pB b1),.o 19 (iv a.num) 1 0 3,.v 20 (pB b4),.o 21 (iv b.num) 0 0 3] (ag 22 hs (qz a.num b.num bz bz _ _ hs.g) (fun _ _ hs=>lL hs [.m 4 22] (ac hs [] (iV (dr a.num b.num)) (congrArg (Value.int .i64) (by first|rfl|exact dU hwa hwb|exact en ‹_›))))))))))
theorem x9 (a b:Rat)(ha:LQ 100000000 a)(hb:LQ 100000000 b)(w:World)(h:Hp)(g:G w h):CV 101 #[qv a,qv b] w h (iV (di a b)):=by
 by_cases h1:a.den=1
 ·by_cases h2:b.den=1
  ·exact AF a b ha hb h1 h2 w h g
  ·exact At a b ha hb h1 h2 w h g
 ·exact xZ a b ha hb h1 w h g
theorem iR {a b:Rat}:di a b<0↔a<b:=by
 unfold di dr
 rw[Rat.lt_iff]
 split
 ·simp;assumption
 ·split<;>simp<;>omega
theorem i5 {a b:Rat}:di a b>0↔b<a:=by
 unfold di dr
 rw[Rat.lt_iff]
 split
 ·simp;omega
 ·split<;>simp<;>omega
def mkR (n d:Int):Rat:=mkRat (if d<0 then -n else n) (ab d)
theorem C0 (a b:Rat)(ha:LQ 100000000 a)(hb:LQ 100000000 b)(w:World)(h:Hp)(g:G w h):CV 63 #[qv a,qv b] w h (qv (if a<b then b else a)):=by
 have hs:=sS g;refine go Tryz.func63 [(0,qv a),(1,qv b)] rfl (aE (lA 2 28 (qc a) hs (fun b1 w2 h3 hs=>lA 3 28 (qc b) hs (fun b4 w5 h6 hs=>lA 4 28 ([qF,uV 0,eS,uV 0,eS]) hs (fun b7 w8 h9 hs=>af (aa hs [.o 5 (qv b) 1 0 5,.o 6 (qv a) 2 0 5] (ag 7 hs (x9 b a aM aM _ _ hs.g) (fun _ _ hs=>?_))))))));cases za:(decide ((0:Int)<(di b a:Int)))
 ·
  have zb:=oF za;exact lB 8 za (ah (cK (aa hs [.o 10 (qv a) 2 0 5] (lP 0 0 (qc a) hs (fun _ hs=>ac hs [(0,0,5)] (qv a) (by rw[if_neg (fun h_=>by have:=i5.2 h_;omega)]))))))
 have zb:=oT za;exact lB 8 za (ao (aa hs [.o 9 (qv b) 1 0 5] (lP 0 0 (qc b) hs (fun _ hs=>ac hs [(0,0,5)] (qv b) (by rw[if_pos (i5.1 oM)])))))
theorem AA (n d:Int)(hd:0<d)(hla:(wds (ab n)).length≤1000000000)(hlb:(wds (ab d)).length≤1000000000)(w:World)(h:Hp)(g:G w h)(tb:Tab h):CV 188 #[iv n,iv d] w h (.tuple #[qv (mkR n d),.bool true]):=by
 have hs:=((sS g).aB tb);have hds:=Int.sign_eq_one_of_pos hd;have hd0:0<ab d:=by unfold ab;omega
 refine go Tryz.func188 [(0,iv n),(1,iv d)] rfl (aE (lA 2 26 (ic n) hs (fun b1 w2 h3 hs=>lA 3 26 (ic d) hs (fun b4 w5 h6 hs=>lA 4 28 ([qF,uV 0,eS,uV 0,eS]) hs (fun b7 w8 h9 hs=>lL hs [.v 5 qF] (af (aa hs [.o 6 (iv d) 1 0 3] (ag 7 hs (lz d bz _ _ hs.g) (fun _ _ hs=>?_)))))))));have za:(((d).sign:Int) == (0:Int))=false:=cv oM;have phb12:=ai za;refine lB 8 za (ah (cK (cQ (aa hs [.o 10 (iv d) 1 0 3] (ag 11 hs (lz d bz _ _ hs.g) (fun _ _ hs=>?_))))));have ⟨zb,phb15⟩:=dF (p:=((d).sign:Int)<(0:Int)) oM;refine lB 12 zb (ah (cK (cQ (cR 4 [] mixed hs av ?_))));exact eO 0 15 [(2,0,3)] (iv n) hs (eO 1 16 [(1,0,3)] (iv d) hs (aq 2 17 hs (fun _ _ hs=>rr d _ _ hs.g) (fun _ _ hs=>aq 3 18 hs (fun _ _ hs=>nY n (ab d) bz bz bz _ _ hs.g hs.f.1) (fun _ _ hs=>cC hs (fun _ _ hs=>tP 4 0 0 (qc (mkRat n (ab d))) hs (fun _ hs=>tV 5 5 qT (tN (kX (hs.ret [(0,0,5)] (.tuple #[qv (mkRat n (ab d)),qT]) (by unfold mkR;rw[if_neg oM]))))))))))
theorem ti (a b:Rat)(ha:LQ 100000000 a)(hb:LQ 100000000 b)(hz:b.num≠0)(w:World)(h:Hp)(g:G w h)(tb:Tab h):CV 59 #[qv a,qv b] w h (.tuple #[qv (a/b),.bool true]):=by
 have hs:=((sS g).aB tb);have ha_:=ha;have hb_:=hb;obtain ⟨ha1,ha2⟩:=ha_;obtain ⟨hb1,hb2⟩:=hb_;have hzs:((b.num).sign == (0:Int))=false:=by simpa using hz
 obtain ⟨hi1,hi2⟩:=oS b hz;have hsl:(wds (ab (cb (decide ((b.num).sign<(0:Int))) b.den))).length≤100000000:=by rw[dt];exact hb2
 have hli:LQ 100000000 b⁻¹:=⟨by rw[hi1];exact hsl,by rw[hi2];exact hb1⟩;have hli2:LQ 1000000000 b⁻¹:=hli.mono oM;refine go Tryz.func59 [(0,qv a),(1,qv b)] rfl (aE (lA 2 28 (qc a) hs (fun b1 w2 h3 hs=>lA 3 28 (qc b) hs (fun b4 w5 h6 hs=>lA 4 28 ([qF,uV 0,eS,uV 0,eS]) hs (fun b7 w8 h9 hs=>lL hs [.v 5 qF] (af (aa hs [.o 6 (qv b) 1 0 5] (ag 7 hs (gQ b aM _ _ hs.g) (fun _ _ hs=>lV 8 qF ?_ (hr:=rb (e:=((b.num).sign == (0:Int))) kR hzs))))))))));refine ah (cK (cQ (cR 12 [] mixed hs av ?_)));exact eO 0 10 [(2,0,5)] (qv a) hs (eO 1 11 [(1,0,5)] (qv b) hs (eO 4 14 [(1,0,5)] (qv b) hs (eV 7 17 (pB b4) (eO 8 18 [(1,0,3)] (iv b.num) hs (aq 2 12 hs (fun _ _ hs=>gQ b aM _ _ hs.g) (fun _ _ hs=>eV 3 13 (.bool (decide (((b.num).sign:Int)<(0:Int)))) (aq 5 15 hs (fun _ _ hs=>dD b aM _ _ hs.g) (fun _ _ hs=>aq 6 16 hs (fun _ _ hs=>ee (decide (((b.num).sign:Int)<(0:Int))) b.den bz _ _ hs.g) (fun _ _ hs=>aq 9 19 hs (fun _ _ hs=>rr b.num _ _ hs.g) (fun _ _ hs=>aq 10 20 hs (fun _ _ hs=>ik b⁻¹ (cb (decide (((b.num).sign:Int)<(0:Int))) b.den) (ab b.num) hi1 hi2.symm aM _ _ hs.g) (fun _ _ hs=>aq 11 21 hs (fun _ _ hs=>sv a (b⁻¹) aM aM _ _ hs.g hs.f.1) (fun _ _ hs=>cC hs (fun _ _ hs=>tP 12 0 0 (qc (a*(b⁻¹))) hs (fun _ hs=>tV 13 5 qT (tN (kX (hs.ret [(0,0,5)] (.tuple #[qv (a*(b⁻¹)),qT]) (by rw[Rat.div_def]))))))))))))))))))
theorem BW (a:Rat)(hb:LQ 100000000 (0:Rat))(w:World)(h:Hp)(g:G w h):CV 59 #[qv a,qv (0:Rat)] w h (.tuple #[qv 0,.bool false]):=by
 have hs:=sS g;have hzs:((0:Rat).num).sign=0:=rfl;refine go Tryz.func59 [(0,qv a),(1,qv (0:Rat))] rfl (aE (lA 2 28 (qc a) hs (fun b1 w2 h3 hs=>lA 3 28 (qc (0:Rat)) hs (fun b4 w5 h6 hs=>lA 4 28 ([qF,uV 0,eS,uV 0,eS]) hs (fun b7 w8 h9 hs=>lL hs [.v 5 qF] (af (aa hs [.o 6 (qv (0:Rat)) 1 0 5] (ag 7 hs (gQ (0:Rat) aM _ _ hs.g) (fun _ _ hs=>?_)))))))));have za:((((0:Rat).num).sign:Int) == (0:Int))=true:=jR oM;have phb12:=eq_of_beq za;exact lB 8 za (ao (aa hs [.v 9 (.agg #[qF,uV 0,eS,uV 0,eS])] (lP 0 0 ([qF,uV 0,eS,uV 0,eS]) hs (fun _ hs=>lL hs [.v 5 qF] (ac hs [(0,0,5)] (.tuple #[.agg #[qF,uV 0,eS,uV 0,eS],qF]) rfl)))))
theorem pI (n d:Int)(hd:d≠0):(mkR n d).num=cb (aD n != aD d) (ab n/Nat.gcd (ab n) (ab d))∧(mkR n d).den=ab d/Nat.gcd (ab n) (ab d)∧0<Nat.gcd (ab n) (ab d):=by
  have hd0:0<ab d:=by unfold ab;omega
  have hz:ab (if d<0 then -n else n)=ab n:=by unfold ab;split<;>omega
  obtain ⟨h1,h2,h3,h4⟩:=fd (if d<0 then -n else n) (ab d) hd0;rw[hz] at h1 h2 h3 h4
  refine ⟨?_,h2,h4⟩;have hs:=lE _ _ h3;rw[hz] at hs
  show (mkRat _ _).num=_
  rw[h1,←hs]
  by_cases hn:n=0
  · have hk:ab n/Nat.gcd (ab n) (ab d)=0:=by rw[hn];exact Nat.zero_div _
    rw[hk]
    unfold cb
    simp
  · have e:decide ((if d<0 then -n else n).sign<0)=(aD n != aD d):=by
      unfold aD
      rcases Int.lt_trichotomy n 0 with a|a|a
      · rcases Int.lt_trichotomy d 0 with b|b|b
        · rw[if_pos b,Int.sign_eq_one_of_pos oM];simp[a,b]
        · exact absurd b hd
        · rw[if_neg oM,Int.sign_eq_neg_one_of_neg a];simp[a,show ¬d<0 by omega]
      · exact absurd a hn
      · rcases Int.lt_trichotomy d 0 with b|b|b
        · rw[if_pos b,Int.sign_eq_neg_one_of_neg oM];simp[show ¬n<0 by omega,b]
        · exact absurd b hd
        · rw[if_neg oM,Int.sign_eq_one_of_pos a];simp[show ¬n<0 by omega,show ¬d<0 by omega]
    rw[e]
theorem o9 {z:Int}(h0 : -9223372036854775808≤z)(h1:z<9223372036854775808):(lim (ab z)).length≤2:=eJ (by unfold ab;omega)
theorem rj {P:Program}{Γ:bI}{o:Oper}{t u:TypeId}{x y:Operand}{ky:IntKind}{a n:Nat}(ho:o.op=.binOp .shl t x y u)(hx:ev Γ x=.int .u32 (a:Int))(hy:ev Γ y=.int ky (n:Int))(hn:n≤32)(hf:a*2^n<4294967296)(w:World) :
  (execOp (ev Γ) o).run P w=.ok (.value (.int .u32 ((a*2^n:Nat):Int))) w:=by
 have:=Cf (P:=P) ho hx hy hn w;rw[show ((a:Int)*2^n)=((a*2^n:Nat):Int) by simp,C5 hf] at this
 exact this
theorem pJ {n m:Nat}(h:n<256^m):∀ j,j<(m+3)/4→(List.replicate ((m+3)/4) 0).getD j 0=dJ n (m-0) j:=fun j hj=>by
 rw[Nat.sub_zero,sx h];simp[hj]
theorem pM {l:List Nat}{n m i x:Nat}(hi:i<m)(hl:l.length=(m+3)/4)(hv:∀ j,j<(m+3)/4→l.getD j 0=dJ n (m-i) j)(hx:x=dJ n (m-1-i) ((m-1-i)/4)) :
  ∀ j,j<(m+3)/4→(l.set ((m-1-i)/4) x).getD j 0=dJ n (m-(i+1)) j:=by
 intro j hj;rw[show m-(i+1)=m-1-i by omega]
 by_cases e:j=(m-1-i)/4
 ·subst e
  have:(m-1-i)/4<l.length:=by omega
  simp[this,hx]
 ·rw[j0,if_neg e,show m-1-i+1=m-i by omega,←hv j hj]
  simp only[List.getD_eq_getElem?_getD]
  rw[List.getElem?_set_ne (Ne.symm e)]
theorem n4 {n k:Nat}:dJ n (k+1) (k/4) ||| (n/256^k%256)*2^(8*(k%4))=dJ n k (k/4):=by rw[j0 n k (k/4),if_pos rfl]
theorem kb {b k:Nat}(hb:b<256):b*2^(8*(k%4))<4294967296:=by
 have:k%4=0∨k%4=1∨k%4=2∨k%4=3:=by omega
 rcases this with e|e|e|e<;>rw[e]<;>omega
theorem rq {l:List Nat}{n m:Nat}(hn:n<256^m)(hl:l.length=(m+3)/4)(hv:∀ j,j<(m+3)/4→l.getD j 0=dJ n (m-m) j):ak 4294967296 l=n∧Ld l:=by
 constructor
 ·rw[←im]
  refine fq l n (fun j hj=>by rw[hv j oM,Nat.sub_self,pf]) ?_;refine Nat.lt_of_lt_of_le hn ?_;rw[hl,show (256:Nat)=2^8 by rfl,show (4294967296:Nat)=2^32 by rfl,←Nat.pow_mul,←Nat.pow_mul];exact Nat.pow_le_pow_right oM oM
 ·intro x hx
  obtain ⟨j,hj,rfl⟩:=List.mem_iff_getElem.1 hx;have:=hv j oM;have e:l[j]=l.getD j 0:=by simp[hj]
  rw[e,this];exact kL _ _ _
theorem rp (n m:Nat)(A:Option Addr)(cap:Nat)(hc:m≤cap)(hm:m≤1099511627776)(hn:n<256^m)(w:World)(h:Hp)(g:G w h)(hA:SlO 1 mN 0 h A (d6 n m)):CR 110 #[.slice A m cap] w h (fun v h1=>RN h1 v n):=by
 have hs:=((sS g).aS hA);have hbl:=gp n m;refine go Tryz.func110 [(0,qS A m cap)] rfl (aa hs [.v 2 (sZ)] (aG (lL hs [.m 6 0,.v 7 (nV m)] (bH 8 ((m:Nat)+3) (m+3) ?_))));refine lV 9 (nV ((m+3)/4)) ?_ (hr:=aU (cZ (t:=3) (u:=3) (x:=.tmp 8) (y:=.const (iV 4)) (k:=.i64) (a:=((m+3:Nat):Int)) (b:=(4:Int)) kR kR kR oM _) (cX (m+3) 4 oM));refine lK 10 123 ((m+3)/4) 1 4 (uW 0) ew 0 hs (fun b1 w2 h3 hs=>?_);have hl4:(List.replicate ((m+3)/4) 0).length=((m+3)/4):=by simp
 refine lL hs [.m 3 10] (af (aa hs [.v 4 (iV 0)] (bn ?_)));refine bQ _ (CG.loop (fun μ_ Γ w_=>∃ (i:Nat) (l:List Nat) (h_:Hp),μ_=m-i∧Γ=[(0,qS A m cap),(2,sZ),(3,qS (sB b1) ((m+3)/4) ((m+3)/4)),(4,nV i)]∧SS w h w_ h_ [⟨b1,123,(l).flatMap ew⟩] [] [fun h_=>SlO 1 mN 0 h_ A (d6 n m)]∧i≤m∧l.length=(m+3)/4∧(∀ j,j<(m+3)/4→l.getD j 0=dJ n (m-i) j)) _ ⟨0,List.replicate ((m+3)/4) 0,h3,rfl,rfl,hs.to _ _,Nat.zero_le _,hl4,(pJ hn)⟩ ?_);rintro _ _ w5 ⟨i,l,h6,hm7,rfl,hs,hi,hll,hv⟩;refine cQ (aa hs [.m 11 4,.m 12 0,.v 13 (nV m)] ?_);cases hb8:(decide ((i:Int)<(m:Int)))
 ·
  have phb8:=oF hb8;refine lB 14 hb8 (ah (CG.exit ?_))
  show CG _ _ _ _ _ _ _ _
  refine aa hs [.m 42 3] ?_;have him:i=m:=by omega
  rw[him] at hv
  obtain ⟨hf1,hf2⟩:=rq hn hll hv;obtain ⟨h9,hs,sg10,lo11,bc12⟩:=hs.pub 0;replace hs:=(hs.to [] []).aS (SlO.of_flat (sz:=1) (f:=ew) (d:=0) (b:=b1) (o:=0) (l:=l) (fun _=>rfl) sg10);exact ag 43 hs (qf (sB b1) ((m+3)/4) l ((m+3)/4) hll oM oM _ _ hs.g hs.f.1) (fun _ _ hs=>lL hs [.m 2 43] (ac hs [] (qS (sB b1) (tl l ((m+3)/4)) ((m+3)/4)) (RN.trim hf2 hf1 hll oM hs.f.1)))
 have phb8:=oT hb8;refine lB 14 hb8 (ao (cK (cQ (kZ (aa hs [.m 17 0,.v 18 (nV m)] (bH 19 ((m:Nat)-1) (m-1) ?_))))));refine lL hs [.m 20 4] (bH 21 ((m-1:Nat)-(i:Nat)) ((m-1)-i) ?_);refine lL hs [.m 5 21] (lN (cR 19 [] mixed hs av ?_));refine eV 0 22 (qS (sB b1) ((m+3)/4) ((m+3)/4)) (eV 1 23 (nV ((m-1)-i)) (eV 2 24 (nV (((m-1)-i)/4)) ?_ (hv:=fun _=>aU (cZ (t:=3) (u:=3) (x:=.tmp 23) (y:=.const (iV 4)) (k:=.i64) (a:=(((m-1)-i:Nat):Int)) (b:=(4:Int)) kR kR kR oM _) (cX ((m-1)-i) 4 oM))));refine eV 3 25 (qS (sB b1) ((m+3)/4) ((m+3)/4)) (eV 4 26 (nV ((m-1)-i)) (eV 5 27 (nV (((m-1)-i)/4)) ?_ (hv:=fun _=>aU (cZ (t:=3) (u:=3) (x:=.tmp 26) (y:=.const (iV 4)) (k:=.i64) (a:=(((m-1)-i:Nat):Int)) (b:=(4:Int)) kR kR kR oM _) (cX ((m-1)-i) 4 oM))));refine eX 6 28 (sB b1) ((m+3)/4) ((m+3)/4) 1 (((m-1)-i)/4:Nat) (((m-1)-i)/4:Nat) rfl (eQ 7 29 0 l ew 1 0 (((m-1)-i)/4:Nat) (mW ((l).getD (((m-1)-i)/4:Nat) 0)) hs oM (eV 8 30 (qS A m cap) (eV 9 31 (nV i) (eX 10 32 A m cap 1 (i:Nat) i ((hs.f.1).ok oM) ?_))));have hvk:=hv ((m-1-i)/4) oM;have hor:l.getD ((m-1-i)/4) 0 ||| (n/256^(m-1-i)%256)*2^(8*((m-1-i)%4))=dJ n (m-1-i) ((m-1-i)/4):=by rw[hvk,show m-i=m-1-i+1 by omega];exact n4
 have hlt:l.getD ((m-1-i)/4) 0<4294967296:=by rw[hvk];exact kL _ _ _
 have hvk:=hv ((m-1-i)/4) oM;have hor:l.getD ((m-1-i)/4) 0 ||| (n/256^(m-1-i)%256)*2^(8*((m-1-i)%4))=dJ n (m-1-i) ((m-1-i)/4):=by rw[hvk,show m-i=m-1-i+1 by omega];exact n4
 have hlt:l.getD ((m-1-i)/4) 0<4294967296:=by rw[hvk];exact kL _ _ _
 refine E7 11 33 (.int .u8 ((d6 n m).getD i 0:Nat)) hs ((hs.f.1).el i oM) (by rw[fP n m _ oM]) (eV 12 34 (mW (n/256^(m-1-i)%256)) ?_ (hv:=fun _=>rT (((n/256^(m-1-i)%256:Nat):Int)) kR (mY oM oM)));refine eV 13 35 (nV ((m-1)-i)) (eV 14 36 (nV (((m-1)-i)%4)) ?_ (hv:=fun _=>aU (eE (t:=3) (u:=3) (x:=.tmp 35) (y:=.const (iV 4)) (k:=.i64) (a:=(((m-1)-i:Nat):Int)) (b:=(4:Int)) kR kR kR oM _) (cJ ((m-1)-i) 4)));refine jO 15 37 (8*(((m-1)-i)%4:Nat)) (8*(((m-1)-i)%4:Nat)) (eV 16 38 (mV (8*(((m-1)-i)%4:Nat))) ?_ (hv:=fun _=>rU (((8*(((m-1)-i)%4:Nat):Nat):Int)) kR (bx oM oM)));refine eV 17 39 (mW ((n/256^(m-1-i)%256)*2^(8*((m-1-i)%4)))) ?_ (hv:=fun _=>rj (t:=123) (u:=148) (x:=.tmp 34) (y:=.tmp 38) (ky:=.u64) (a:=n/256^(m-1-i)%256) (n:=8*((m-1-i)%4)) kR kR kR oM (kb oM) _);refine eV 18 40 (mW (dJ n (m-1-i) ((m-1-i)/4))) ?_ (hv:=fun _=>aU (xr (t:=123) (u:=123) (x:=.tmp 29) (y:=.tmp 39) (a:=l.getD ((m-1-i)/4) 0) (b:=(n/256^(m-1-i)%256)*2^(8*((m-1-i)%4))) kR kR kR hlt (kb oM) _) (congrArg Int.ofNat hor));refine cC hs (fun _ zb hs=>tX 19 41 (sB b1) ((m+3)/4) ((m+3)/4) 1 (((m-1)-i)/4:Nat) (((m-1)-i)/4:Nat) rfl (tW 20 0 l ew 1 (((m-1)-i)/4:Nat) (dJ n (m-1-i) ((m-1-i)/4):Nat) hs oM (fun _ hs=>?_)));have za:((l).set (((m-1)-i)/4:Nat) (dJ n (m-1-i) ((m-1-i)/4):Nat)).length=((m+3)/4):=by rw[List.length_set];exact hll
 replace hs:=hs.to [⟨b1,123,((l).set (((m-1)-i)/4:Nat) (dJ n (m-1-i) ((m-1-i)/4):Nat)).flatMap ew⟩] [];refine tN (kQ (lL hs [.m 15 4] (bH 16 ((i:Nat)+1) (i+1) ?_)));refine lL hs [.m 4 16] (lD ?_);intro a_ ka;refine ⟨_,_,?_,⟨i+1,(l).set (((m-1)-i)/4:Nat) (dJ n (m-1-i) ((m-1-i)/4):Nat),zb,rfl,rfl,hs.to _ _,oM,za,(pM oM hll hv rfl)⟩,ka.to _ kR⟩
 omega
def dR (q:Rat):Rat:=if q.num<0 then -q else q
theorem jc (q:Rat):(dR q).num=((ab q.num:Nat):Int):=by
 unfold dR ab;split
 ·rw[Rat.neg_num];omega
 ·omega
theorem mq (q:Rat):(dR q).den=q.den:=by
 unfold dR;split
 ·rw[Rat.neg_den]
 ·rfl
theorem LQ.ln {q:Rat}(h:LQ 100000000 q):(lim (ab q.num)).length≤300000000:=Nat.le_trans (nW _) (by have:=h.1;omega)
theorem LQ.ld {q:Rat}(h:LQ 100000000 q):(lim q.den).length≤300000000:=Nat.le_trans (nW _) (by have:=h.2;omega)
theorem nl {k:Nat}{q:Rat}(h:LQ k q)(hk:k≤100000000:=by omega):(lim (ab q.num)).length≤300000000:=LQ.ln (h.mono hk)
theorem nD {k:Nat}{q:Rat}(h:LQ k q)(hk:k≤100000000:=by omega):(lim q.den).length≤300000000:=LQ.ld (h.mono hk)
theorem LQ.abs {k:Nat}{q:Rat}(h:LQ k q):LQ k (dR q):=⟨by rw[jc];exact h.1,by rw[mq];exact h.2⟩
theorem LQ.sub {k l:Nat}{a b:Rat}(ha:LQ k a)(hb:LQ l b):LQ (k+l+1) (a-b):=by rw[Rat.sub_eq_add_neg];exact ha.add hb.neg
theorem LQ.inv {k:Nat}{q:Rat}(h:LQ k q):LQ k q⁻¹:=by
 by_cases hz:q.num=0
 ·have:q=0:=by rw[←Rat.num_eq_zero];exact hz
  subst this;rw[Rat.inv_zero];exact h
 ·obtain ⟨h1,h2⟩:=oS q hz
  exact ⟨by rw[h1,dt];exact h.2,by rw[h2];exact h.1⟩
theorem LQ.div {k l:Nat}{a b:Rat}(ha:LQ k a)(hb:LQ l b):LQ (k+l) (a/b):=by rw[Rat.div_def];exact ha.mul hb.inv
theorem LQ.int {z:Int}(h0 : -9223372036854775808≤z)(h1:z≤9223372036854775807):LQ 1 (z:Rat):=⟨by rw[Rat.num_intCast];exact eg.2 (by unfold ab;omega),by rw[Rat.den_intCast];exact eg.2 oM⟩
theorem LQ.lit {z:Int}(h : -9223372036854775808≤z∧z≤9223372036854775807):LQ 1 (z:Rat):=LQ.int h.1 h.2
def AS (a b:List Rat):Nat→Rat
  | 0=>0
  | k+1=>AS a b k+a.getD k 0*b.getD k 0
theorem i9 (a:Nat)(A:Option Addr)(c:Nat)(hc:(lim a).length≤c)(b:Nat)(D:Option Addr)(d:Nat)(hd:(lim b).length≤d)(hLa:(lim a).length≤3000000000)(hLb:(lim b).length≤1)(hb:0<b)(w:World)(h:Hp)(g:G w h)(hA:S3 A (lim a) h)(hD:S3 D (lim b) h):CR 87 #[.slice A (lim a).length c,.slice D (lim b).length d] w h (fun v h1=>∃ v1 v2,v=.tuple #[v1,v2]∧RN h1 v1 (a/b)∧RN h1 v2 (a%b)):=by
 have hp:=eU.2 hb
 rcases Nat.lt_or_ge a b with h1|h1
 ·exact p0 a A c hc b D d hd hLa oM h1 w h g hA hD
 ·exact m6 a A c hc b D d hd hLa oM h1 oM w h g hA hD
theorem r4 (a:Nat)(A:Option Addr)(c:Nat)(hc:(lim a).length≤c)(b:Nat)(D:Option Addr)(d:Nat)(hd:(lim b).length≤d)(hLa:(lim a).length≤3000000000)(hLb:(lim b).length≤1)(w:World)(h:Hp)(g:G w h)(hA:S3 A (lim a) h)(hD:S3 D (lim b) h):CR 86 #[.slice A ((lim a).length) c,.slice D ((lim b).length) d] w h (fun v h1=>RN h1 v (Nat.gcd a b)):=by
 have hs:=(((sS g).aS hA).aS hD);refine go Tryz.func86 [(0,qS A ((lim a).length) c),(1,qS D ((lim b).length) d)] rfl (aa hs [.v 4 (sZ)] (af (kZ ?_)));replace hs:=hs.aS hs.f.1;replace hs:=hs.aS hs.f.r.1;refine bQ _ (CG.loop (fun μ_ Γ w_=>∃ (x:Nat) (A1:Option Addr) (c1:Nat) (y:Nat) (A2:Option Addr) (c2:Nat) (h_:Hp),μ_=y∧Γ=[(4,sZ),(0,qS A1 ((lim x).length) c1),(1,qS A2 ((lim y).length) c2)]∧SS w h w_ h_ [] [] [S3 A1 (lim x),S3 A2 (lim y),S3 D (lim b),S3 A (lim a)]∧(lim x).length≤c1∧(lim y).length≤c2∧(lim x).length≤3000000000∧(lim y).length≤1∧Nat.gcd x y=Nat.gcd a b) _ ⟨a,A,c,b,D,d,h,rfl,rfl,hs.to _ _,hc,hd,hLa,hLb,rfl⟩ ?_);rintro _ _ w1 ⟨x,A1,c1,y,A2,c2,h2,hm3,rfl,hs,hc1,hc2,hl1,hl2,hG⟩;refine cQ (aa hs [.m 7 1,.v 8 (nV ((lim y).length))] ?_);cases hb4:(decide ((0:Int)<(((lim y).length:Nat):Int)))
 ·
  have phb4:=oF hb4;refine lB 9 hb4 (ah (CG.exit ?_))
  show CG _ _ _ _ _ _ _ _
  refine aa hs [.m 18 0,.m 4 18] (lN (kX ?_));have hy0:y=0:=Nat.eq_zero_of_not_pos (fun h_=>by have:=eU.2 h_;omega);exact hs.ret [] (qS A1 ((lim x).length) c1) (by rw[←hG,hy0,Nat.gcd_zero_right];exact ⟨A1,c1,rfl,hc1,hs.f.1⟩)
 have phb4:=oT hb4;refine lB 9 hb4 (ao (cK (kZ (aa hs [.m 11 0,.m 12 1] (lC 13 hs (i9 x A1 c1 hc1 y A2 c2 hc2 oM oM (eU.1 oM) _ _ hs.g hs.f.1 hs.f.2.1) ?_)))));rintro _ w5 h6 hs ⟨_,_,rfl,⟨Aq,cq,rfl,hcq,hq⟩,⟨Ar,cr,rfl,hcr,hr⟩⟩;replace hs:=hs.aS hr;have hmd:=Nat.mod_lt x (eU.1 (show 0<(lim y).length by omega));have hml:=eY (show x%y≤y by omega);refine lL hs [.m 10 13,.v 14 (qS Aq (lim (x/y)).length cq),.v 15 (qS Ar ((lim (x%y)).length) cr),.m 5 14,.m 6 15] (aG (lL hs [.m 16 1,.m 0 16] (lN (kQ (lL hs [.m 17 6,.m 1 17] (lD ?_))))));intro a_ ka;replace hs:=((hs.tl.tl.tl.aS hs.f.1).aS hs.f.r.1);refine ⟨_,_,?_,⟨y,A2,c2,x%y,Ar,cr,h6,rfl,rfl,hs.to _ _,hc2,hcr,oM,oM,(by rw[jS];exact hG)⟩,ka.to _ kR⟩
 omega
theorem pO (a:Nat)(A:Option Addr)(c:Nat)(hc:(lim a).length≤c)(b:Nat)(D:Option Addr)(d:Nat)(hd:(lim b).length≤d)(q:Nat)(hq:q=Nat.gcd a b)(hLa:(lim a).length≤3000000000)(hLb:(lim b).length≤1)(w:World)(h:Hp)(g:G w h)(hA:S3 A (lim a) h)(hD:S3 D (lim b) h):CR 86 #[.slice A (lim a).length c,.slice D (lim b).length d] w h (fun v h1=>RN h1 v q):=by
 subst hq;exact r4 a A c hc b D d hd hLa hLb w h g hA hD
theorem nC {z:Int}(h0 : -4294967296<z)(h1:z<4294967296):(lim (ab z)).length≤1:=eJ (by unfold ab;omega)
theorem Aj (x:Int)(A:Option Addr)(c:Nat)(hc:(lim (ab x)).length≤c)(hLx:(lim (ab x)).length≤2000000000)(y:Int)(D:Option Addr)(d:Nat)(hd:(lim (ab y)).length≤d)(hLy:(lim (ab y)).length≤1)(hd0:y≠0)(w:World)(h:Hp)(g:G w h)(hA:S3 A (lim (ab x)) h)(hD:S3 D (lim (ab y)) h):CR 48 #[.agg #[.bool (aD x),.slice A ((lim (ab x)).length) c],.agg #[.bool (aD y),.slice D ((lim (ab y)).length) d]] w h (fun v h1=>RQ h1 v (mkR x y)):=by
 have hs:=(((sS g).aS hA).aS hD);obtain ⟨hm1,hm2,hq0⟩:=pI x y hd0;obtain ⟨q,hq⟩:∃ q,q=Nat.gcd (ab x) (ab y):=⟨_,rfl⟩;rw[←hq] at hm1 hm2 hq0
 have hql:(lim q).length≤1:=mt (by rw[hq];exact Nat.gcd_le_right _ (by unfold ab;omega)) hLy;refine go Tryz.func48 [(0,.agg #[.bool (aD x),qS A ((lim (ab x)).length) c]),(1,.agg #[.bool (aD y),qS D ((lim (ab y)).length) d])] rfl (aE (lA 2 71 ([.bool (aD x),qS A ((lim (ab x)).length) c]) hs (fun b1 w2 h3 hs=>lA 3 71 ([.bool (aD y),qS D ((lim (ab y)).length) d]) hs (fun b4 w5 h6 hs=>lA 4 73 ([qF,sZ,sZ]) hs (fun b7 w8 h9 hs=>aG (lL hs [.v 10 (qP b1 1),.o 11 (qS A ((lim (ab x)).length) c) 2 1 1,.v 12 (qP b4 1),.o 13 (qS D ((lim (ab y)).length) d) 1 1 1] (lC 14 hs (pO (ab x) A c hc (ab y) D d hd q hq oM oM _ _ hs.g hs.f.2.1 hs.f.1) ?_)))))));rintro _ _ _ hs ⟨zf,zg,rfl,zc,zk⟩;replace hs:=hs.aS zk;refine lL hs [.m 5 14] (aG (lL hs [.v 16 (qP b1 1),.o 17 (qS A ((lim (ab x)).length) c) 2 1 1,.m 18 5] (lC 19 hs (i9 (ab x) A c hc q zf zg zc oM oM hq0 _ _ hs.g hs.f.r.1 hs.f.1) ?_)));rintro _ _ _ hs ⟨_,v2_A16,rfl,⟨zi,zj,rfl,zl,zm⟩,-⟩;replace hs:=hs.aS zm;refine lL hs [.m 15 19,.v 20 (qS zi ((lim ((ab x)/q)).length) zj),.v 21 v2_A16,.m 6 20,.m 7 21] (aG (lL hs [.v 23 (qP b4 1),.o 24 (qS D ((lim (ab y)).length) d) 1 1 1,.m 25 5] (lC 26 hs (i9 (ab y) D d hd q zf zg zc oM oM hq0 _ _ hs.g hs.f.r.1 hs.f.2.1) ?_)));rintro _ _ _ hs ⟨_,v2_A22,rfl,⟨za,zb,rfl,zn,zo⟩,-⟩;replace hs:=hs.aS zo;refine lL hs [.m 22 26,.v 27 (qS za ((lim ((ab y)/q)).length) zb),.v 28 v2_A22,.m 8 27,.m 9 28] (aG (lL hs [.v 29 (pB b1),.o 30 (.bool (aD x)) 2 0 1,.v 31 (pB b4),.o 32 (.bool (aD y)) 1 0 1,.v 33 (.bool ((aD x) != (aD y))),.m 34 6] (lC 35 hs (rI ((aD x) != (aD y)) ((ab x)/q) zi zj zl _ _ hs.g hs.f.2.1) ?_)));rintro _ _ _ hs ⟨zd,ze,rfl,zp,zq⟩;replace hs:=hs.aS zq;exact lL hs [.m 36 8,.v 37 (.agg #[.bool (aD (cb ((aD x) != (aD y)) ((ab x)/q))),qS zd ((lim (ab (cb ((aD x) != (aD y)) ((ab x)/q)))).length) ze,qS za ((lim ((ab y)/q)).length) zb])] (lP 0 0 ([.bool (aD (cb ((aD x) != (aD y)) ((ab x)/q))),qS zd ((lim (ab (cb ((aD x) != (aD y)) ((ab x)/q)))).length) ze,qS za ((lim ((ab y)/q)).length) zb]) hs (fun _ hs=>ac hs [(0,0,3)] (.agg #[.bool (aD (cb ((aD x) != (aD y)) ((ab x)/q))),qS zd ((lim (ab (cb ((aD x) != (aD y)) ((ab x)/q)))).length) ze,qS za ((lim ((ab y)/q)).length) zb]) (by unfold RQ;rw[hm1,hm2];exact ⟨_,_,_,_,rfl,zp,zn,hs.f.1,hs.f.2.1⟩)))
theorem Ac (x y:Int)(hy0:y≠0)(h0 : -9223372036854775808≤x)(h1:x<9223372036854775808)(h2 : -4294967296<y)(h3:y<4294967296)(w:World)(h:Hp)(g:G w h):CR 24 #[iV x,iV y] w h (fun v h1=>RQ h1 v (mkR x y)):=by
 have hs:=sS g;have hx_:=o9 h0 h1;have hy_:=nC h2 h3;refine go Tryz.func24 [(0,iV x),(1,iV y)] rfl (aE (lA 4 73 ([qF,sZ,sZ]) hs (fun b1 w2 h3 hs=>aG (lL hs [.m 5 0] (lC 6 hs (sn x oM oM _ _ hs.g) ?_)))));rintro _ w8 h9 hs ⟨A4,c5,rfl,hc6,hA7⟩;replace hs:=hs.aS hA7;refine lL hs [.m 7 1] (lC 8 hs (sn y oM oM _ _ hs.g) ?_);rintro _ _ _ hs ⟨zl,zm,rfl,ze,zf⟩;replace hs:=hs.aS zf;refine lC 9 hs (Aj x A4 c5 hc6 oM y zl zm ze oM hy0 _ _ hs.g hs.f.2.1 hs.f.1) ?_;rintro _ _ _ hs ⟨za,zb,zc,zd,rfl,zg,zi,zj,zk⟩;replace hs:=hs.aP zj zk;exact lP 0 0 (DD (mkR x y) za zb zc zd) hs (fun _ hs=>ac hs [(0,0,3)] (rG (mkR x y) za zb zc zd) (by skip;exact ⟨_,_,_,_,rfl,zg,zi,hs.f.2.1,hs.f.1⟩))
theorem oz (n:Nat)(hl:(wds n).length≤100000000)(w:World)(h:Hp)(g:G w h):CR 83 #[nv n] w h (fun v h1=>RN h1 v n):=by
 have hs:=sS g;have hnb:=jf n;refine go Tryz.func83 [(0,nv n)] rfl (aE (lA 1 24 (nc n) hs (fun b1 w2 h3 hs=>lL hs [.v 2 (sZ)] (aG (lL hs [.o 3 (nv n) 0 0 2] (lC 4 hs (sU n oM _ _ hs.g) ?_))))));rintro _ w6 h7 hs ⟨A4,rfl,hA5⟩;replace hs:=hs.aS hA5;refine lC 5 hs (rp n ((nb n+7)/8) A4 ((nb n+7)/8) (nR _) oM (wI n) _ _ hs.g hs.f.1) ?_;rintro _ _ _ hs ⟨A8,c9,rfl,za,zb⟩;replace hs:=hs.aS zb;exact lL hs [.m 2 5] (ac hs [] (qS A8 ((lim n).length) c9) (⟨_,_,rfl,za,hs.f.1⟩))
theorem wh (z:Int):cb (decide (z.sign<(0:Int))) (ab z)=z:=by
 rcases Int.lt_trichotomy z 0 with h|h|h
 ·rw[Int.sign_eq_neg_one_of_neg h];unfold cb ab;simp;omega
 ·subst h;rfl
 ·rw[Int.sign_eq_one_of_pos h];unfold cb ab;simp;omega
theorem vN (z:Int)(hl:(wds (ab z)).length≤100000000)(w:World)(h:Hp)(g:G w h):CR 81 #[iv z] w h (fun v h1=>RI h1 v z):=by
 have hs:=sS g;refine go Tryz.func81 [(0,iv z)] rfl (aE (lA 1 26 (ic z) hs (fun b1 w2 h3 hs=>lA 2 71 ([qF,sZ]) hs (fun b4 w5 h6 hs=>af (cR 7 [] mixed hs av ?_)))));refine eO 0 3 [(1,0,3)] (iv z) hs (eO 3 6 [(1,0,3)] (iv z) hs (aq 1 4 hs (fun _ _ hs=>lz z oM _ _ hs.g) (fun w7 h8 hs=>eV 2 5 (.bool (decide ((z.sign:Int)<(0:Int)))) (aq 4 7 hs (fun _ _ hs=>rr z _ _ hs.g) (fun w9 _ hs=>eC 5 8 hs (fun _ _ hs=>oz (ab z) (by first|exact hq.2|omega) _ _ hs.g) ?_)))));rintro _ _ _ _ _ hs ⟨zg,zi,rfl,zc,zd⟩;replace hs:=hs.aS zd;refine eC 6 9 hs (fun _ _ hs=>rI (decide ((z.sign:Int)<(0:Int))) (ab z) zg zi zc _ _ hs.g hs.f.1) ?_;rintro _ _ _ _ _ hs ⟨za,zb,rfl,ze,zf⟩;replace hs:=hs.aS zf;exact cC hs (fun _ _ hs=>tP 7 0 0 ([.bool (aD (cb (decide ((z.sign:Int)<(0:Int))) (ab z))),qS za ((lim (ab (cb (decide ((z.sign:Int)<(0:Int))) (ab z)))).length) zb]) hs (fun _ hs=>tN (kX (hs.ret [(0,0,2)] (.agg #[.bool (aD (cb (decide ((z.sign:Int)<(0:Int))) (ab z))),qS za ((lim (ab (cb (decide ((z.sign:Int)<(0:Int))) (ab z)))).length) zb]) (by rw[wh] at *;exact ⟨_,_,rfl,ze,hs.f.1⟩)))))
theorem Em (q:Rat)(hq:LQ 100000000 q)(w:World)(h:Hp)(g:G w h):CR 45 #[qv q] w h (fun v h1=>RQ h1 v q):=by
 have hs:=sS g;refine go Tryz.func45 [(0,qv q)] rfl (aE (lA 1 28 (qc q) hs (fun b1 w2 h3 hs=>lA 2 73 ([qF,sZ,sZ]) hs (fun b4 w5 h6 hs=>af (cR 7 [] mixed hs av ?_)))));refine eO 0 3 [(1,0,5)] (qv q) hs (eO 3 6 [(1,0,5)] (qv q) hs (aq 1 4 hs (fun _ _ hs=>DQ q _ _ hs.g) (fun w7 h8 hs=>eC 2 5 hs (fun _ _ hs=>vN q.num hq.1 _ _ hs.g) ?_)));rintro _ _ _ _ _ hs ⟨A9,za,rfl,zd,ze⟩;replace hs:=hs.aS ze;refine aq 4 7 hs (fun _ _ hs=>dD q hq _ _ hs.g) (fun _ _ hs=>eC 5 8 hs (fun _ _ hs=>oz q.den (by first|exact hq.2|omega) _ _ hs.g) ?_);rintro _ _ _ _ _ hs ⟨zb,zc,rfl,zf,zg⟩;replace hs:=hs.aS zg;exact eV 6 9 (rG q A9 za zb zc) (cC hs (fun _ _ hs=>tP 7 0 0 (DD q A9 za zb zc) hs (fun _ hs=>tN (kX (hs.ret [(0,0,3)] (rG q A9 za zb zc) (⟨_,_,_,_,rfl,zd,zf,hs.f.2.1,hs.f.1⟩))))))
end Go.Proofs.YtebkpkbmegcjeaaGreatDoor
