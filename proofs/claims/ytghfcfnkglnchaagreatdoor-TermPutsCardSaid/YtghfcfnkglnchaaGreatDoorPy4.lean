/- Laws and contracts that the card of this claim stands on, part 5. No condition of ours. -/
import Derived.Test.YtghfcfnkglnchaaGreatDoorPy0
import Derived.Test.YtghfcfnkglnchaaGreatDoorPy1
import Derived.Test.YtghfcfnkglnchaaGreatDoorPy2
import Derived.Test.YtghfcfnkglnchaaGreatDoorPy3
set_option maxRecDepth 100000
set_option maxHeartbeats 4000000
namespace Go.Proofs.YtghfcfnkglnchaaGreatDoor
open Go.RowKit
open Go.RowKit Go.Shelf
theorem jI (z:Int)(A:Option Addr)(c n:Nat)(D:Option Addr)(d:Nat)(hc:(lim (aa z)).length≤c)(hd:(lim n).length≤d)(w:World)(h:Hp)(g:G w h)(hA:S3 A (lim (aa z)) h)(hD:S3 D (lim n) h):CV 62 #[.agg #[.bool (ai z),.slice A ((lim (aa z)).length) c,.slice D ((lim n).length) d]] w h (.bool (decide (n=0∨z=0))):=by
 have hs:=(((sS g).aS hA).aS hD);have hln:0<(lim n).length↔0<n:=ck;refine go Tryz.func62 [(0,.agg #[.bool (ai z),qS A ((lim (aa z)).length) c,qS D ((lim n).length) d])] rfl (aA (lA 1 28 ([.bool (ai z),qS A ((lim (aa z)).length) c,qS D ((lim n).length) d]) hs (fun b1 w2 h3 hs=>lL hs [.v 2 qF] (aJ (lL hs [.v 3 (qP b1 2),.o 4 (qS D ((lim n).length) d) 0 2 1,.v 5 (nV ((lim n).length))] ?_)))));cases hb4:((((lim n).length:Nat):Int) == (0:Int))
 ·
  have phb4:=ag hb4;refine lB 6 hb4 (lL hs [.m 7 6,.o 8 (.agg #[.bool (ai z),qS A ((lim (aa z)).length) c,qS D ((lim n).length) d]) 0 0 3] (ah 9 hs (Fa z A c n D d hc hd _ _ hs.g hs.f.2.1 hs.f.1) (fun w5 h6 hs=>?_)));have hsg:z.sign=0↔z=0:=Int.sign_eq_zero_iff_zero;cases hb7:((z.sign:Int) == (0:Int))
  ·
   have phb7:=ag hb7;exact lB 10 hb7 (lL hs [.v 11 qF,.m 2 11] (ac hs [] qF (congrArg Value.bool (decide_eq_false oM).symm)))
  have phb7:=eq_of_beq hb7;exact lB 10 hb7 (lL hs [.v 11 qT,.m 2 11] (ac hs [] qT (congrArg Value.bool (decide_eq_true oM).symm)))
 have phb4:=eq_of_beq hb4;refine lB 6 hb4 (lL hs [.m 7 6] (lG 8 ?_));exact lG 9 (lG 10 (lL hs [.v 11 qT,.m 2 11] (ac hs [] qT (congrArg Value.bool (decide_eq_true oM).symm))))
def dz (op n sum:Int):Int:=if op=11 then 2*sum else if op=8∧n≠0 then sum*(if n<0 then 0-n else n) else sum
theorem WfT.two {ok:ByteArray→Prop}{d:Nat}{t:Tm}(h:WfT ok (d+1) t):t.ks.length≤2:=by
 have:=h.1;have:=aG t.op
 omega
structure RecOk (nm:Int→ByteArray) (inp:Int) (d:Nat) (l:List Stp) (l2:List Stp) (n:Nat) (t:Tm):Prop where
  lq:(∀ i,LQ 1 (l.getD i dU).q)→∀ i,LQ 1 (l2.getD i dU).q
  dps:∀ dp,DpS dp l→∃ dp',DpS dp' l2∧(∀ k,k<l.length→dp' k=dp k)∧dp' (l2.length-1)≤d
  pre:∃ m,l2=l++m
  len:l2.length=l.length+n
  pos:0<n
  fm:∀ k,k<l2.length→gB inp k (l2.getD k dU)
  tr:∀ f,l2.length≤f→CN nm l2 f (l2.length-1)=t
structure AllOk (nm:Int→ByteArray) (inp:Int) (d:Nat) (ts:List Tm) (k:Nat) (l:List Stp) (os:List Int) (c:Nat):Prop where
  len:l.length=c
  fm:∀ k,k<l.length→gB inp k (l.getD k dU)
  lq:∀ i,LQ 1 (l.getD i dU).q
  dps:∃ dp,DpS dp l
  out:∀ j,j<k→0≤os.getD j 0∧os.getD j 0<(l.length:Nat)∧CN nm l (l.length+1) (os.getD j 0).toNat=ts.getD j bE
theorem rt (bq:Bool)(zA:Option Addr)(zn zc:Nat)(dA:Option Addr)(dn dc:Nat)(q:Rat)(w:World)(h:Hp)(g:G w h)(hZ:RZ h (bq,.slice zA zn zc,.slice dA dn dc) q):Calls Tryz.prog 62 #[.agg #[.bool bq,.slice zA zn zc,.slice dA dn dc]] w (Ret w h (fun v _=>v=.bool (decide (q.num=0)))):=by
 obtain ⟨has,⟨A,c,D,d,e,hc,hd,hA,hD⟩,hz⟩:=hZ;have e2:(Value.agg #[.bool bq,qS zA zn zc,qS dA dn dc])=.agg #[.bool (ai q.num),qS A (lim (aa q.num)).length c,qS D (lim (if has then q.den else 0)).length d]:=e;rw[e2];have q_:=jI q.num A c (if has then q.den else 0) D d hc hd w h g hA hD
 have e3:decide ((if has=true then q.den else 0)=0∨q.num=0)=decide (q.num=0):=by
  cases has
  ·rw[decide_eq_true (.inl rfl),decide_eq_true];rw[hz rfl];rfl
  ·have:=q.den_nz
   by_cases e:q.num=0
   ·rw[decide_eq_true (.inr e),decide_eq_true e]
   ·rw[decide_eq_false (fun h=>h.elim this e),decide_eq_false e]
 rw[e3] at q_
 exact q_
theorem uE  (isb:ByteArray→Bool)(sm:ByteArray→Prop)(hIs:∀ s,sm s→∀ (w:World) (h:Hp),G w h→Calls Tryz.prog 82 #[.string s] w (Ret w h (fun v _=>∃ b,v=.bool b∧b=isb s)))(d:Nat)(ih:∀ (r:RTm) (t:Tm) (w:World) (h:Hp),G w h→RmH d h r t→SmT sm d t →  Calls Tryz.prog 53 #[dB r] w (Ret w h (fun v _=>∃ bb,v=.bool bb∧(bb=true↔WfT (fun s=>isb s=true) d t))))(op n:Int)(bq:Bool)(zA:Option Addr)(zn zc:Nat)(dA:Option Addr)(dn dc:Nat)(q:Rat)(s:ByteArray)(A:Option Addr)(c:Nat)(rs:List RTm)(ks:List Tm)(hc:rs.length≤c)(hk3:ks.length≤3)(hop : -1000≤op∧op≤1000)(hn : -1000≤n∧n≤1000)(hq:LQ 1 q)(hsm:sm s)(hW:∀ i,i<ks.length→SmT sm d (ks.getD i bE))(w:World)(h:Hp)(g:G w h)(hZ:RZ h (bq,.slice zA zn zc,.slice dA dn dc) q)(hK:SlO 7 dt aw h A rs)(hKs:Rms d h rs ks):CR 53 #[.agg #[iV op,iV n,.bool bq,.slice zA zn zc,.slice dA dn dc,.string s,.slice A rs.length c]] w h (fun v _=>∃ bb,v=.bool bb∧(bb=true↔WfT (fun s=>isb s=true) (d+1) (.mk op n q s ks))):=by
 have hs:=((((sS g).add (K:=fun h_=>RZ h_ (bq,qS zA zn zc,qS dA dn dc) q) hZ).aS hK).add (K:=fun h_=>Rms d h_ rs ks) hKs);have hln:=(hs.f.1).len;refine go Tryz.func53 [(0,.agg #[iV op,iV n,.bool bq,qS zA zn zc,qS dA dn dc,.string s,qS A rs.length c])] rfl (aA (lA 1 31 ([iV op,iV n,.bool bq,qS zA zn zc,qS dA dn dc,.string s,qS A rs.length c]) hs (fun b1 w2 h3 hs=>lL hs [.v 2 qF] (aJ (lL hs [.v 5 (pB b1),.o 6 (iV op) 0 0 1] (ah 7 hs (Ej op _ _ hs.g) (fun w4 h5 hs=>?_)))))));refine lL hs [.m 3 7] (ae (CG.join (fun Γ w_=>∃ (zo:Bool) (h_:Hp),Γ=[(1,pB b1),(2,qF),(68,.bool zo)]∧SS w h w_ h_ [⟨b1,31,[iV op,iV n,.bool bq,qS zA zn zc,qS dA dn dc,.string s,qS A rs.length c]⟩] [] [fun h_=>Rms d h_ rs ks,fun h_=>SlO 7 dt aw h_ A rs,fun h_=>RZ h_ (bq,qS zA zn zc,qS dA dn dc) q]∧(zo=true→¬((0≤eg op∧(ks.length:Int)=eg op)∧((op=2→isb s=true)∧(op≠2→s=⟨#[]⟩))∧(op=1∨q.num=0)∧(op=8∨n=0) ∧ -12≤n∧n≤12))∧(zo=false→((0≤eg op∧(ks.length:Int)=eg op)∧((op=2→isb s=true)∧(op≠2→s=⟨#[]⟩))∧(op=1∨q.num=0)∧(op=8∨n=0) ∧ -12≤n∧n≤12))) ?_ ?_))
 ·
  refine kQ (lL hs [.m 8 3] ?_);cases hb6:(decide ((eg op:Int)<(0:Int)))
  ·
   have phb6:=oF hb6;refine lB 9 hb6 (lL hs [.m 10 9,.v 11 (qP b1 6),.o 12 (qS A rs.length c) 0 6 1,.v 13 (nV rs.length),.m 14 3] ?_);cases hb7:((rs.length:Int) != (eg op:Int))
   ·
    have phb7:=aI hb7;refine lB 15 hb7 (lL hs [.v 16 qF,.m 17 16,.v 18 (pB b1),.o 19 (iV op) 0 0 1] ?_);cases hb8:((op:Int) == (2:Int))
    ·
     have phb8:=ag hb8;refine lB 20 hb8 (lL hs [.m 21 20] (lG 22 ?_));refine lG 23 (lG 24 (lG 25 (lL hs [.v 26 qF,.v 27 qF,.m 28 27,.v 29 (pB b1),.o 30 (iV op) 0 0 1] ?_)));have hb9:((op:Int) != (2:Int))=true:=uk oM;have phb9:=aR hb9;refine lB 31 hb9 (lL hs [.m 32 31,.v 33 (qP b1 5),.o 34 (.string s) 0 5 1] ?_);cases zb:(kJ s (⟨#[]⟩))
     ·
      have zw:=oX zb;refine lB 35 zb (lL hs [.v 36 qF,.v 37 qF,.m 38 37,.v 39 (pB b1),.o 40 (iV op) 0 0 1] ?_);cases zd:((op:Int) != (1:Int))
      ·
       have zx:=aI zd;refine lB 41 zd (lL hs [.m 42 41] (lG 43 ?_));refine lG 44 (lG 45 (lG 46 (lL hs [.v 47 qF,.v 48 qF,.m 49 48,.v 50 (pB b1),.o 51 (iV op) 0 0 1] ?_)));have zp:((op:Int) != (8:Int))=true:=uk oM;have phb12:=aR zp;refine lB 52 zp (lL hs [.m 53 52,.v 54 (qP b1 1),.o 55 (iV n) 0 1 1] ?_);cases ze:((n:Int) != (0:Int))
       ·
        have zB:=aI ze;refine lB 56 ze (lL hs [.v 57 qF,.v 58 qF,.m 59 58,.v 60 (qP b1 1),.o 61 (iV n) 0 1 1] ?_);have ⟨zM,phb14⟩:=dF (p:=(n:Int)<(-12:Int)) oM;refine lB 62 zM (lL hs [.v 63 qF,.m 64 63,.v 65 (qP b1 1),.o 66 (iV n) 0 1 1] ?_);have ⟨zN,phb15⟩:=dF (p:=(12:Int)<(n:Int)) oM;refine lB 67 zN (lL hs [.v 68 qF] (lD ?_));intro a_ ka;exact ⟨_,⟨false,h5,rfl,hs.to _ _,(fun h_=>absurd h_ kD),(fun _=>⟨by omega,⟨fun h_=>by first|exact hbi.symm.trans aM|exact absurd h_ oM,fun h_=>by first|assumption|exact absurd h_ oM⟩,by omega,by omega⟩)⟩,ka.to _ kR⟩
       have zB:=aR ze;refine lB 56 ze (lL hs [.v 57 qT,.v 58 qT,.m 59 58] (lG 60 ?_));refine lG 61 (lG 62 (lL hs [.v 63 qT,.m 64 63] (lG 65 ?_)));refine lG 66 (lG 67 (lL hs [.v 68 qT] (lD ?_)));intro a_ ka;exact ⟨_,⟨true,h5,rfl,hs.to _ _,(fun _ h_=>by first|exact Bool.noConfusion ((h_.2.1.1 oM).symm.trans (hbi.symm.trans aM))|exact absurd (h_.2.1.2 oM) aM|(have h1_:=h_.1;have h2_:=h_.2.2;omega)),(fun h_=>absurd h_ kD)⟩,ka.to _ kR⟩
      have zx:=aR zd;refine lB 41 zd (lL hs [.m 42 41,.v 43 (qP b1 2),.o 44 (.agg #[.bool bq,qS zA zn zc,qS dA dn dc]) 0 2 3] (ah 45 hs (rt bq zA zn zc dA dn dc q _ _ hs.g hs.f.r.1) (fun _ za hs=>?_)));cases zq:(decide (q.num=0))
      ·
       have zD:=oF zq;refine lL hs [.v 46 qT,.v 47 qT,.v 48 qT,.m 49 48] (lG 50 ?_);refine lG 51 (lG 52 (lG 53 (lG 54 (lG 55 (lG 56 (lG 57 (lL hs [.v 58 qT,.m 59 58] (lG 60 ?_))))))));refine lG 61 (lG 62 (lL hs [.v 63 qT,.m 64 63] (lG 65 ?_)));refine lG 66 (lG 67 (lL hs [.v 68 qT] (lD ?_)));intro a_ ka;exact ⟨_,⟨true,za,rfl,hs.to _ _,(fun _ h_=>by first|exact Bool.noConfusion ((h_.2.1.1 oM).symm.trans (hbi.symm.trans aM))|exact absurd (h_.2.1.2 oM) aM|(have h1_:=h_.1;have h2_:=h_.2.2;omega)),(fun h_=>absurd h_ kD)⟩,ka.to _ kR⟩
      have zD:=oT zq;refine lL hs [.v 46 qF,.v 47 qF,.v 48 qF,.m 49 48,.v 50 (pB b1),.o 51 (iV op) 0 0 1] ?_;cases zf:((op:Int) != (8:Int))
      ·
       have zE:=aI zf;refine lB 52 zf (lL hs [.m 53 52] (lG 54 ?_));refine lG 55 (lG 56 (lL hs [.v 57 qF,.v 58 qF,.m 59 58,.v 60 (qP b1 1),.o 61 (iV n) 0 1 1] ?_));cases zg:(decide ((n:Int)<(-12:Int)))
       ·
        have zG:=oF zg;refine lB 62 zg (lL hs [.v 63 qF,.m 64 63,.v 65 (qP b1 1),.o 66 (iV n) 0 1 1] ?_);cases zi:(decide ((12:Int)<(n:Int)))
        ·
         have zH:=oF zi;refine lB 67 zi (lL hs [.v 68 qF] (lD ?_));intro a_ ka;exact ⟨_,⟨false,za,rfl,hs.to _ _,(fun h_=>absurd h_ kD),(fun _=>⟨by omega,⟨fun h_=>by first|exact hbi.symm.trans aM|exact absurd h_ oM,fun h_=>by first|assumption|exact absurd h_ oM⟩,by omega,by omega⟩)⟩,ka.to _ kR⟩
        have zH:=oT zi;refine lB 67 zi (lL hs [.v 68 qT] (lD ?_));intro a_ ka;exact ⟨_,⟨true,za,rfl,hs.to _ _,(fun _ h_=>by first|exact Bool.noConfusion ((h_.2.1.1 oM).symm.trans (hbi.symm.trans aM))|exact absurd (h_.2.1.2 oM) aM|(have h1_:=h_.1;have h2_:=h_.2.2;omega)),(fun h_=>absurd h_ kD)⟩,ka.to _ kR⟩
       have zG:=oT zg;refine lB 62 zg (lL hs [.v 63 qT,.m 64 63] (lG 65 ?_));refine lG 66 (lG 67 (lL hs [.v 68 qT] (lD ?_)));intro a_ ka;exact ⟨_,⟨true,za,rfl,hs.to _ _,(fun _ h_=>by first|exact Bool.noConfusion ((h_.2.1.1 oM).symm.trans (hbi.symm.trans aM))|exact absurd (h_.2.1.2 oM) aM|(have h1_:=h_.1;have h2_:=h_.2.2;omega)),(fun h_=>absurd h_ kD)⟩,ka.to _ kR⟩
      have zE:=aR zf;refine lB 52 zf (lL hs [.m 53 52,.v 54 (qP b1 1),.o 55 (iV n) 0 1 1] ?_);cases zj:((n:Int) != (0:Int))
      ·
       have zI:=aI zj;refine lB 56 zj (lL hs [.v 57 qF,.v 58 qF,.m 59 58,.v 60 (qP b1 1),.o 61 (iV n) 0 1 1] ?_);have ⟨zP,phb35⟩:=dF (p:=(n:Int)<(-12:Int)) oM;refine lB 62 zP (lL hs [.v 63 qF,.m 64 63,.v 65 (qP b1 1),.o 66 (iV n) 0 1 1] ?_);have ⟨zQ,phb36⟩:=dF (p:=(12:Int)<(n:Int)) oM;refine lB 67 zQ (lL hs [.v 68 qF] (lD ?_));intro a_ ka;exact ⟨_,⟨false,za,rfl,hs.to _ _,(fun h_=>absurd h_ kD),(fun _=>⟨by omega,⟨fun h_=>by first|exact hbi.symm.trans aM|exact absurd h_ oM,fun h_=>by first|assumption|exact absurd h_ oM⟩,by omega,by omega⟩)⟩,ka.to _ kR⟩
      have zI:=aR zj;refine lB 56 zj (lL hs [.v 57 qT,.v 58 qT,.m 59 58] (lG 60 ?_));refine lG 61 (lG 62 (lL hs [.v 63 qT,.m 64 63] (lG 65 ?_)));refine lG 66 (lG 67 (lL hs [.v 68 qT] (lD ?_)));intro a_ ka;exact ⟨_,⟨true,za,rfl,hs.to _ _,(fun _ h_=>by first|exact Bool.noConfusion ((h_.2.1.1 oM).symm.trans (hbi.symm.trans aM))|exact absurd (h_.2.1.2 oM) aM|(have h1_:=h_.1;have h2_:=h_.2.2;omega)),(fun h_=>absurd h_ kD)⟩,ka.to _ kR⟩
     have zw:=pd zb;refine lB 35 zb (lL hs [.v 36 qT,.v 37 qT,.m 38 37] (lG 39 ?_));refine lG 40 (lG 41 (lG 42 (lG 43 (lG 44 (lG 45 (lG 46 (lG 47 (lL hs [.v 48 qT,.m 49 48] (lG 50 ?_)))))))));refine lG 51 (lG 52 (lG 53 (lG 54 (lG 55 (lG 56 (lG 57 (lL hs [.v 58 qT,.m 59 58] (lG 60 ?_))))))));refine lG 61 (lG 62 (lL hs [.v 63 qT,.m 64 63] (lG 65 ?_)));refine lG 66 (lG 67 (lL hs [.v 68 qT] (lD ?_)));intro a_ ka;exact ⟨_,⟨true,h5,rfl,hs.to _ _,(fun _ h_=>by first|exact Bool.noConfusion ((h_.2.1.1 oM).symm.trans (hbi.symm.trans aM))|exact absurd (h_.2.1.2 oM) aM|(have h1_:=h_.1;have h2_:=h_.2.2;omega)),(fun h_=>absurd h_ kD)⟩,ka.to _ kR⟩
    have phb8:=eq_of_beq hb8;refine lB 20 hb8 (lL hs [.m 21 20,.v 22 (qP b1 5),.o 23 (.string s) 0 5 1] (lC 24 hs (hIs s hsm _ _ hs.g) ?_));rintro _ _ zW hs ⟨bi,rfl,hbi⟩;cases hb45:(bi)
    ·
     refine lL hs [.v 25 qT,.v 26 qT,.v 27 qT,.m 28 27] (lG 29 ?_);refine lG 30 (lG 31 (lG 32 (lG 33 (lG 34 (lG 35 (lG 36 (lL hs [.v 37 qT,.m 38 37] (lG 39 ?_))))))));refine lG 40 (lG 41 (lG 42 (lG 43 (lG 44 (lG 45 (lG 46 (lG 47 (lL hs [.v 48 qT,.m 49 48] (lG 50 ?_)))))))));refine lG 51 (lG 52 (lG 53 (lG 54 (lG 55 (lG 56 (lG 57 (lL hs [.v 58 qT,.m 59 58] (lG 60 ?_))))))));refine lG 61 (lG 62 (lL hs [.v 63 qT,.m 64 63] (lG 65 ?_)));refine lG 66 (lG 67 (lL hs [.v 68 qT] (lD ?_)));intro a_ ka;exact ⟨_,⟨true,zW,rfl,hs.to _ _,(fun _ h_=>by first|exact Bool.noConfusion ((h_.2.1.1 oM).symm.trans (hbi.symm.trans aM))|exact absurd (h_.2.1.2 oM) aM|(have h1_:=h_.1;have h2_:=h_.2.2;omega)),(fun h_=>absurd h_ kD)⟩,ka.to _ kR⟩
    refine lL hs [.v 25 qF,.v 26 qF,.v 27 qF,.m 28 27,.v 29 (pB b1),.o 30 (iV op) 0 0 1] ?_;have zr:((op:Int) != (2:Int))=false:=kg oM;have phb48:=aI zr;refine lB 31 zr (lL hs [.m 32 31] (lG 33 ?_));refine lG 34 (lG 35 (lL hs [.v 36 qF,.v 37 qF,.m 38 37,.v 39 (pB b1),.o 40 (iV op) 0 0 1] ?_));have zs:((op:Int) != (1:Int))=true:=uk oM;have phb49:=aR zs;refine lB 41 zs (lL hs [.m 42 41,.v 43 (qP b1 2),.o 44 (.agg #[.bool bq,qS zA zn zc,qS dA dn dc]) 0 2 3] (ah 45 hs (rt bq zA zn zc dA dn dc q _ _ hs.g hs.f.r.1) (fun _ zt hs=>?_)));cases zu:(decide (q.num=0))
    ·
     have zJ:=oF zu;refine lL hs [.v 46 qT,.v 47 qT,.v 48 qT,.m 49 48] (lG 50 ?_);refine lG 51 (lG 52 (lG 53 (lG 54 (lG 55 (lG 56 (lG 57 (lL hs [.v 58 qT,.m 59 58] (lG 60 ?_))))))));refine lG 61 (lG 62 (lL hs [.v 63 qT,.m 64 63] (lG 65 ?_)));refine lG 66 (lG 67 (lL hs [.v 68 qT] (lD ?_)));intro a_ ka;exact ⟨_,⟨true,zt,rfl,hs.to _ _,(fun _ h_=>by first|exact Bool.noConfusion ((h_.2.1.1 oM).symm.trans (hbi.symm.trans aM))|exact absurd (h_.2.1.2 oM) aM|(have h1_:=h_.1;have h2_:=h_.2.2;omega)),(fun h_=>absurd h_ kD)⟩,ka.to _ kR⟩
    have zJ:=oT zu;refine lL hs [.v 46 qF,.v 47 qF,.v 48 qF,.m 49 48,.v 50 (pB b1),.o 51 (iV op) 0 0 1] ?_;have zv:((op:Int) != (8:Int))=true:=uk oM;have phb55:=aR zv;refine lB 52 zv (lL hs [.m 53 52,.v 54 (qP b1 1),.o 55 (iV n) 0 1 1] ?_);cases zk:((n:Int) != (0:Int))
    ·
     have zK:=aI zk;refine lB 56 zk (lL hs [.v 57 qF,.v 58 qF,.m 59 58,.v 60 (qP b1 1),.o 61 (iV n) 0 1 1] ?_);have ⟨zR,phb57⟩:=dF (p:=(n:Int)<(-12:Int)) oM;refine lB 62 zR (lL hs [.v 63 qF,.m 64 63,.v 65 (qP b1 1),.o 66 (iV n) 0 1 1] ?_);have ⟨zS,phb58⟩:=dF (p:=(12:Int)<(n:Int)) oM;refine lB 67 zS (lL hs [.v 68 qF] (lD ?_));intro a_ ka;exact ⟨_,⟨false,zt,rfl,hs.to _ _,(fun h_=>absurd h_ kD),(fun _=>⟨by omega,⟨fun h_=>by first|exact hbi.symm.trans aM|exact absurd h_ oM,fun h_=>by first|assumption|exact absurd h_ oM⟩,by omega,by omega⟩)⟩,ka.to _ kR⟩
    have zK:=aR zk;refine lB 56 zk (lL hs [.v 57 qT,.v 58 qT,.m 59 58] (lG 60 ?_));refine lG 61 (lG 62 (lL hs [.v 63 qT,.m 64 63] (lG 65 ?_)));refine lG 66 (lG 67 (lL hs [.v 68 qT] (lD ?_)));intro a_ ka;exact ⟨_,⟨true,zt,rfl,hs.to _ _,(fun _ h_=>by first|exact Bool.noConfusion ((h_.2.1.1 oM).symm.trans (hbi.symm.trans aM))|exact absurd (h_.2.1.2 oM) aM|(have h1_:=h_.1;have h2_:=h_.2.2;omega)),(fun h_=>absurd h_ kD)⟩,ka.to _ kR⟩
   have phb7:=aR hb7;refine lB 15 hb7 (lL hs [.v 16 qT,.m 17 16] (lG 18 ?_));refine lG 19 (lG 20 (lG 21 (lG 22 (lG 23 (lG 24 (lG 25 (lG 26 (lL hs [.v 27 qT,.m 28 27] (lG 29 ?_)))))))));refine lG 30 (lG 31 (lG 32 (lG 33 (lG 34 (lG 35 (lG 36 (lL hs [.v 37 qT,.m 38 37] (lG 39 ?_))))))));refine lG 40 (lG 41 (lG 42 (lG 43 (lG 44 (lG 45 (lG 46 (lG 47 (lL hs [.v 48 qT,.m 49 48] (lG 50 ?_)))))))));refine lG 51 (lG 52 (lG 53 (lG 54 (lG 55 (lG 56 (lG 57 (lL hs [.v 58 qT,.m 59 58] (lG 60 ?_))))))));refine lG 61 (lG 62 (lL hs [.v 63 qT,.m 64 63] (lG 65 ?_)));refine lG 66 (lG 67 (lL hs [.v 68 qT] (lD ?_)));intro a_ ka;exact ⟨_,⟨true,h5,rfl,hs.to _ _,(fun _ h_=>by first|exact Bool.noConfusion ((h_.2.1.1 oM).symm.trans (hbi.symm.trans aM))|exact absurd (h_.2.1.2 oM) aM|(have h1_:=h_.1;have h2_:=h_.2.2;omega)),(fun h_=>absurd h_ kD)⟩,ka.to _ kR⟩
  have phb6:=oT hb6;refine lB 9 hb6 (lL hs [.m 10 9] (lG 11 ?_));refine lG 12 (lG 13 (lG 14 (lG 15 (lL hs [.v 16 qT,.m 17 16] (lG 18 ?_)))));refine lG 19 (lG 20 (lG 21 (lG 22 (lG 23 (lG 24 (lG 25 (lG 26 (lL hs [.v 27 qT,.m 28 27] (lG 29 ?_)))))))));refine lG 30 (lG 31 (lG 32 (lG 33 (lG 34 (lG 35 (lG 36 (lL hs [.v 37 qT,.m 38 37] (lG 39 ?_))))))));refine lG 40 (lG 41 (lG 42 (lG 43 (lG 44 (lG 45 (lG 46 (lG 47 (lL hs [.v 48 qT,.m 49 48] (lG 50 ?_)))))))));refine lG 51 (lG 52 (lG 53 (lG 54 (lG 55 (lG 56 (lG 57 (lL hs [.v 58 qT,.m 59 58] (lG 60 ?_))))))));refine lG 61 (lG 62 (lL hs [.v 63 qT,.m 64 63] (lG 65 ?_)));refine lG 66 (lG 67 (lL hs [.v 68 qT] (lD ?_)));intro a_ ka;exact ⟨_,⟨true,h5,rfl,hs.to _ _,(fun _ h_=>by first|exact Bool.noConfusion ((h_.2.1.1 oM).symm.trans (hbi.symm.trans aM))|exact absurd (h_.2.1.2 oM) aM|(have h1_:=h_.1;have h2_:=h_.2.2;omega)),(fun h_=>absurd h_ kD)⟩,ka.to _ kR⟩
 rintro _ _ ⟨zo,zX,rfl,hs,zU,hF68⟩;cases zl:(zo)
 ·
  try rw[zl] at hs
  try rw[zl]
  refine cF (cK (cQ (ab hs [.v 4 (iV 0)] (bc ?_))));refine bJ _ (CG.loop (fun μ_ Γ w_=>∃ (k:Nat) (h_:Hp),μ_=rs.length-k∧Γ=[(1,pB b1),(4,nV k)]∧SS w h w_ h_ [⟨b1,31,[iV op,iV n,.bool bq,qS zA zn zc,qS dA dn dc,.string s,qS A rs.length c]⟩] [] [fun h_=>Rms d h_ rs ks,fun h_=>SlO 7 dt aw h_ A rs,fun h_=>RZ h_ (bq,qS zA zn zc,qS dA dn dc) q]∧k≤rs.length∧(∀ i,i<k→WfT (fun s=>isb s=true) d (ks.getD i bE))) _ ⟨0,zX,rfl,rfl,hs.to _ _,Nat.zero_le _,(fun i hi=>absurd hi (Nat.not_lt_zero i))⟩ ?_);rintro _ _ _ ⟨k,_,hm72,rfl,hs,hk,hWk⟩;refine cQ (ab hs [.m 69 4,.v 70 (qP b1 6),.o 71 (qS A rs.length c) 0 6 1,.v 72 (nV rs.length)] ?_);cases zm:(decide ((k:Int)<(rs.length:Int)))
  ·
   have zL:=oF zm;refine lB 73 zm (af (CG.exit ?_))
   show CG _ _ _ _ _ _ _ _
   exact ab hs [.v 2 qT] (ac hs [] qT (At ⟨by have h1_:=(hF68 aM).1;omega,(hF68 aM).2.2.1,(hF68 aM).2.1,(hF68 aM).2.2.2⟩ hq (fun i hi=>hWk i oM)))
  have zL:=oT zm;refine lB 73 zm (am (cK (cQ (kZ (ab hs [.v 76 (qP b1 6),.o 77 (qS A rs.length c) 0 6 1,.m 78 4] (lX 79 A rs.length c 7 (k:Nat) k ((hs.f.2.1).ok oM) ?_))))));refine lH 80 (.agg #[iV ((rs.getD k aw).op),iV ((rs.getD k aw).n),.bool ((rs.getD k aw).neg),qS ((rs.getD k aw).zA) ((rs.getD k aw).zn) ((rs.getD k aw).zc),qS ((rs.getD k aw).dA) ((rs.getD k aw).dn) ((rs.getD k aw).dc),.string ((rs.getD k aw).s),qS ((rs.getD k aw).A) ((rs.getD k aw).m) ((rs.getD k aw).c)]) hs ((hs.f.2.1).el k oM) (lC 81 hs (ih (rs.getD k aw) (ks.getD k bE) _ _ hs.g ((hs.f.1).at_ k oM) (hW k oM)) ?_);rintro _ _ ya hs ⟨bk,rfl,hbk⟩;cases hb76:(bk)
  ·
   exact lL hs [.v 82 qT] (am (ab hs [.v 2 qF] (ac hs [] qF (An (k:=k) oM aM hbk))))
  refine lL hs [.v 82 qF] (af (cK (kQ (lL hs [.m 74 4] (bu 75 ((k:Nat)+1) (k+1) ?_)))));refine lL hs [.m 4 75] (lD ?_);intro a_ ka;refine ⟨_,_,?_,⟨k+1,ya,rfl,rfl,hs.to _ _,oM,(fun i hi=>by rcases Nat.lt_succ_iff_lt_or_eq.1 hi with h_|rfl;exact hWk i h_;exact hbk.1 aM)⟩,ka.to _ kR⟩
  omega
 try rw[zl] at hs
 try rw[zl]
 exact cf (ab hs [.v 2 qF] (ac hs [] qF (mU (fun h_=>zU aM ⟨by have h1_:=h_.1;omega,h_.2.2.1,h_.2.1,h_.2.2.2⟩))))
theorem nw (isb:ByteArray→Bool)(sm:ByteArray→Prop)(hIs:∀ s,sm s→∀ (w:World) (h:Hp),G w h→Calls Tryz.prog 82 #[.string s] w (Ret w h (fun v _=>∃ b,v=.bool b∧b=isb s))):∀ (d:Nat) (r:RTm) (t:Tm) (w:World) (h:Hp),G w h→RmH d h r t→SmT sm d t →  Calls Tryz.prog 53 #[dB r] w (Ret w h (fun v _=>∃ bb,v=.bool bb∧(bb=true↔WfT (fun s=>isb s=true) d t)))
  | 0,_,_,_,_,_,x,_=>x.elim
  | d+1,r,t,w,h,g,x,wf=>by
    obtain ⟨op,n,b,zA,zn,zc,dA,dn,dc,q,s,A,c,rs,ks,rfl,rfl,hZ,hc,hK,hKs⟩:=x.open;obtain ⟨s1,s2,s3,s4,s5,s6⟩:=wf;exact uE isb sm hIs d (fun r t w h=>nw isb sm hIs d r t w h) op n b zA zn zc dA dn dc q s A c rs ks hc s1 s2 s3 s4 s5 s6 w h g hZ hK hKs
section
variable {M:Ms} {P:Program} {n:Nat} {N R:Po} {X:Nat→Po} {ops:Array Oper} {k k0:Nat} {hr:Hp} {AL:List Al} {L:Array Bool} {Γ:bG} {w:World} {h:Hp} {w0:World} {h0:Hp} {B:List Bx} {Rs:List Rw} {F:List (Hp→Prop)}
theorem wk {base:Nat}{e:TypeId}{sz:Nat}{A:Option Addr}{l c n:Nat}{xs:List Value}(o:w.ownsRow base e sz (.slice A l c) n xs):l≤c:=by
 rcases o with ⟨_,⟨e1,_⟩|⟨g,cap,cur,e1,_,_,h1,_⟩⟩
 ·cases e1;exact Nat.le_refl _
 ·cases e1;exact h1
theorem tI {α:Type}{o:Oper}{ty:TypeId}{sz bt c c2 j:Nat}{z:Value}{A A2:Option Addr}{l:List α}{f:α→List Value}(s:SS w0 h0 w h B Rs F)(he:s8 P (ev Γ) o=some (.slice A l.length c,.slice A2 0 c2,ty,z,sz,bt))(hr':Rs.getD j default=⟨ty,sz,A,c,l.length,l.flatMap f⟩)(hj:j<Rs.length) :
    (execOp (ev Γ) o).run P w=.ok (.value (.slice A l.length c)) w:=by
  obtain ⟨x,y,ty',ho,hx,hy,hu,hi⟩:=l5 he;have r:=s.ro _ (List.getElem_mem hj);rw[eZ hr' hj] at r
  cases hinf:P.info? ty with
  | none=>rw[hinf] at hi;cases hi
  | some inf =>
    rw[hinf] at hi
    have hs:Src P inf.size ty' (.slice A2 0 c2) 0 [] w:=by
      cases A2 with
      | none=>exact Src.ofNil w hu c2
      | some a=>exact Src.ofSlice w hu a 0 c2 [] (by simp) (fun j u hj=>by cases hj) (fun u hu=>by cases hu)
    have hrun:=run_append_nothing (P:=P) w ty' ty' o.type ty inf hu hinf A l.length c (wk r.own) (.slice A2 0 c2) hs
    unfold execOp
    simp only[ho,resolve,invoke,builtin,Sem.run_bind,Sem.run_pure,Result.andThen_ok,List.map_toArray,List.map_cons,List.map_nil,hx,hy,hrun]
theorem Fj {α:Type}(t j:Nat)(ty:TypeId)(sz c:Nat)(A:Option Addr)(l:List α)(f:α→List Value)(d:α)(A2:Option Addr)(m:List α)(n2 c2 bt:Nat)(z:Value)(s:SS w0 h0 w h B Rs F)(so:SlO sz f d h A2 m)
    (H:∀ A' c' w' h',SS w0 h0 w' h' B (Rs.set j ⟨ty,sz,A',c',(l++m).length,(l++m).flatMap f⟩) F→LG P n N R X ops (k+1) ((t,.slice A' (l++m).length c')::Γ) w')
    (hc:cL ops Γ k t n=true:=by kernel_rfl)(he:s8 P (ev Γ) (ao ops k)=some (.slice A l.length c,.slice A2 n2 c2,ty,z,sz,bt):=by kernel_rfl)(hn:n2=m.length:=by omega)(hf:∀ x,(f x).length=sz:=by intro _;rfl)(h1:∀ x,(f x).all (·.oneCell')=true:=by intro _;kernel_rfl)(hzs:z.cells.size=sz:=by kernel_rfl)(hpos:0<sz:=by decide)
    (hr:Rs.getD j default=⟨ty,sz,A,c,l.length,l.flatMap f⟩:=by kernel_rfl)(hj:decide (j<Rs.length)=true:=by kernel_rfl)(hm:l.length+m.length≤1099511627776:=by omega)(hb:(l.length+m.length)*bt≤140737488355328:=by omega):LG P n N R X ops k Γ w:=by
  subst hn;cases m with
  | nil =>
    have hj':=oT hj;have e0:l++[]=l:=List.append_nil l;rw[e0] at H
    have es:Rs.set j ⟨ty,sz,A,c,l.length,l.flatMap f⟩=Rs:=by
      have:=eZ hr hj';rw[←this,List.set_getElem_self]
    have s1:=s;rw[←es] at s1
    exact LG.val t _ w (bC hc).1 (bC hc).2 (tI s he hr hj') (H A c w h s1)
  | cons x xs=>exact FC t j ty sz c A l f d A2 (x::xs) c2 bt z s so (Nat.succ_pos _) H hc he hf h1 hzs hpos hr hj hm hb
theorem tO (i t:Nat)(ps:List (Nat × Nat × Nat))(v:Value)(s:SS w0 h0 w h B Rs F)(H:AG M P n N R X ops k0 (L.setIfInBounds i true) ((t,v)::Γ) w)(hc:cT n ops k0 L Γ i t=true:=by kernel_rfl)(hp:bI B ps=true:=by kernel_rfl)(he:bH P (execOp (ev Γ) (ao ops i)) (bz B ps)=some (.value v,bD B ps):=by kernel_rfl):AG M P n N R X ops k0 L Γ w :=
 T.val i t v w (na hc).1 (na hc).2 (bB _ _ _ _ he (bU s.st.own ps hp)) H
end
def iG (f:Nat→Nat):Nat→Nat
  | 0=>0
  | n+1=>max (iG f n) (f n)
def k9:Nat→Tm→Nat
  | 0,_=>0
  | d+1,t=>iG (fun i=>k9 d (t.ks.getD i bE)) t.ks.length+1
theorem li {f:Nat→Nat}{b:Nat}:∀ n,(∀ i,i<n→f i≤b)→iG f n≤b
 | 0,_=>Nat.zero_le _
 | n+1,h=>Nat.max_le.2 ⟨li n (fun i hi=>h i oM),h n (Nat.lt_succ_self n)⟩
theorem lz:∀ (d:Nat) (t:Tm),k9 d t≤d
 | 0,_=>Nat.le_refl _
 | d+1,t=>Nat.succ_le_succ (li _ (fun i _=>lz d _))
open Go.RowKit Go.WideMaps
structure MapI (P:Program) (kt:TypeId) (Q:Value→Prop) (w1:World) (h1:Hp) (b:Nat):Prop where
  jk:h1[b]?=some junk
  ex:∃ es clk,w1.heap[b]?=some (.map es clk)∧∀ e∈es.toList,(∃ l,keyOf P kt e.key=some l)∧Q e.val
section laws
variable {P:Program} {n:Nat} {N R:Po} {X:Nat→Po} {ops:Array Oper} {k:Nat} {Γ:bG} {w:World} {h:Hp} {w0 w1:World} {h0 h1:Hp} {B:List Bx} {Rs:List Rw} {F:List (Hp→Prop)}
end laws
structure Dif (M:List Nat) (w w0:World):Prop where
  mo:Mo M w w0
  sz:w0.heap.size=w.heap.size
section frn
variable {w0 w w' wi:World} {h0 h h':Hp} {B:List Bx} {R:List Rw} {F:List (Hp→Prop)} {M:List Nat}
end frn
section get
variable {P:Program} {n:Nat} {N R:Po} {X:Nat→Po} {ops:Array Oper} {k:Nat} {Γ:bG} {w:World} {h:Hp} {w0:World} {h0:Hp} {B:List Bx} {Rs:List Rw} {F:List (Hp→Prop)}
end get
section gete
variable {M:Ms} {P:Program} {n:Nat} {N R:Po} {X:Nat→Po} {ops:Array Oper} {k0:Nat} {hr:Hp} {AL:List Al} {L:Array Bool} {Γ:bG} {w:World} {h:Hp} {w0:World} {h0:Hp} {B:List Bx} {Rs:List Rw} {F:List (Hp→Prop)}
end gete
section ops
variable {P:Program} {Γ:bG} {o:Oper}
end ops
section laws
variable {M:Ms} {P:Program} {n:Nat} {N R:Po} {X:Nat→Po} {ops:Array Oper} {k k0:Nat} {hr:Hp} {AL:List Al} {L:Array Bool} {Γ:bG} {w:World} {h:Hp} {w0 wi:World} {h0:Hp} {B:List Bx} {Rs:List Rw} {F:List (Hp→Prop)} {Ml:List Nat}
end laws
section zone
variable {w0 w w':World} {h0 h h':Hp} {B:List Bx} {R:List Rw} {F:List (Hp→Prop)}
end zone
section ret
variable {P:Program} {n:Nat} {Γ:bG} {w:World} {h:Hp} {w0 wz:World} {h0 hz:Hp} {B:List Bx} {Rs:List Rw} {F:List (Hp→Prop)}
end ret
section call
variable {M:Ms} {P:Program} {n:Nat} {N R:Po} {X:Nat→Po} {ops:Array Oper} {k0:Nat} {hr:Hp} {AL:List Al} {L:Array Bool} {Γ:bG} {w:World} {h:Hp} {w0:World} {h0:Hp} {B:List Bx} {Rs:List Rw} {F:List (Hp→Prop)}
end call
section perm
variable {w0:World} {h0:Hp} {w:World} {h:Hp} {B B':List Bx} {R R':List Rw} {F:List (Hp→Prop)}
end perm
section ret
variable {P:Program} {n:Nat} {Γ:bG} {w:World} {h:Hp} {w0:World} {h0:Hp} {B:List Bx} {Rs:List Rw} {F:List (Hp→Prop)}
end ret
section call
variable {P:Program} {n:Nat} {N R:Po} {X:Nat→Po} {ops:Array Oper} {k:Nat} {Γ:bG} {w:World}
end call
def FI (ss:List ByteArray):List MapEntry:=ss.zipIdx.map fun p=>⟨.string p.1,.bool true,p.2⟩
structure MapK (w:World) (h:Hp) (b:Nat) (ss:List ByteArray):Prop where
  jk:h[b]?=some junk
  ob:w.heap[b]?=some (.map (FI ss).toArray ss.length)
  nd:ss.Nodup
section laws
variable {P:Program} {n:Nat} {N R:Po} {X:Nat→Po} {ops:Array Oper} {k:Nat} {Γ:bG} {w:World} {h:Hp} {w1:World} {h1:Hp} {B:List Bx} {Rs:List Rw} {F:List (Hp→Prop)}
end laws
section ro
variable {w0:World} {h0:Hp} {w:World} {h:Hp} {B:List Bx} {R:List Rw} {F:List (Hp→Prop)}
theorem SS.ro_jk (s:SS w0 h0 w h B R F)(j:Nat){ty:TypeId}{sz c m:Nat}{A:Option Addr}{cs:List Value}(hr:R.getD j default=⟨ty,sz,A,c,m,cs⟩:=by kernel_rfl)(hj:decide (j<R.length)=true:=by kernel_rfl):∀ b∈(Value.slice A m c).ownBlock.toList,h[b]?=some junk:=fun b hb=>by
 have hj':=oT hj;have r:=s.ro _ (List.getElem_mem hj');rw[eZ hr hj'] at r
 exact r.jk b (Option.mem_toList.1 hb)
theorem SS.ro_lt (s:SS w0 h0 w h B R F)(j:Nat){ty:TypeId}{sz c m:Nat}{A:Option Addr}{cs:List Value}(hr:R.getD j default=⟨ty,sz,A,c,m,cs⟩:=by kernel_rfl)(hj:decide (j<R.length)=true:=by kernel_rfl):∀ b∈(Value.slice A m c).ownBlock.toList,b<h.size:=fun b hb=>by
 have hj':=oT hj;have r:=s.ro _ (List.getElem_mem hj');rw[eZ hr hj'] at r
 exact aW (r.jk b (Option.mem_toList.1 hb))
theorem SS.ro_ne (s:SS w0 h0 w h B R F)(q j:Nat){ty:TypeId}{sz c m:Nat}{A:Option Addr}{cs:List Value}(hq:decide (q<B.length)=true:=by kernel_rfl)(hr:R.getD j default=⟨ty,sz,A,c,m,cs⟩:=by kernel_rfl)(hj:decide (j<R.length)=true:=by kernel_rfl):(av B q).b ∉ (Value.slice A m c).ownBlock.toList:=fun hb=>by
 have hj':=oT hj;have r:=s.ro _ (List.getElem_mem hj');rw[eZ hr hj'] at r
 exact r.ap _ (Option.mem_toList.1 hb) (List.mem_map.2 ⟨_,a8 (oT hq),rfl⟩)
end ro
section
variable {pl:ByteArray→Int} {d k:Nat} {l tl:List Stp} {ks:List Tm} {za zb:Int}
end
section laws
variable {M:Ms} {P:Program} {ops:Array Oper} {Q:Exit→Act→World→Prop} {k0:Nat}
structure Waits (ops:Array Oper) (k0 i:Nat) (late:List Nat):Prop where
  ev:∀ u∈late,∃ ou,ops[u]?=some ou∧∃ e∈ou.after,Region.binds .any e=true∧(e.on=i∨e.on∈late)
  tl:∀ j oj,ops[j]?=some oj→k0≤j→j∈late
theorem md {i:Nat}{oi:Oper}{v:Value}{S:World→Prop}{late:List Nat}(hi:ops[i]?=some oi)(hsel:∀ (j:Nat) (o:Oper) cs b,ops[j]?=some o→o.op≠.select cs b)
    (hQ:∀ c a w,Q (.panic c) (a.put oi.dst v) w→Q (.panic c) a w)(hcl:∀ w w',S w→Mo M.l w w'→S w')(hw:Waits ops k0 i late) :
    ∀ (n:Nat) (L:Array Bool) (a:Act) (w:World),
      (∀ j oj,ops[j]?=some oj→j≠i→L.getD j true=false→(∀ e∈oj.after,Region.binds .any e=true→e.on≠i)→oi.apart ops oj=true) →
      (∀ u∈late,L.getD u true=false) →
      i∈Region.ready .any ops L→YieldsIf P ops S oi v a→S w →
      lc M P ops Q k0 n (L.setIfInBounds i true) (a.put oi.dst v) w→lc M P ops Q k0 (n+1) L a w:=by
  intro n
  induction n with
  | zero =>
    intro L a w _ _ hr hy hS H;refine ⟨fun h=>(by rw[h] at hr;cases hr),fun j hj=>?_⟩
    by_cases hji:j=i
    · subst hji;exact hy.wpOp hi hS ⟨Rl.refl _ _ _ _,H⟩
    · have:=ready_mono hj hji
      rw[H.1] at this
      cases this
  | succ n ih =>
    intro L a w hfree hund hr hy hS H;refine ⟨fun h=>(by rw[h] at hr;cases hr),fun j hj=>?_⟩
    by_cases hji:j=i
    · subst hji;exact hy.wpOp hi hS ⟨Rl.refl _ _ _ _,H⟩
    · have h1:=H.2 j (ready_mono hj hji)
      obtain ⟨hjun,oj,hoj,hall⟩:=mem_ready.1 hj
      have hwait:∀ x,L.getD x true=false→∀ e∈oj.after,Region.binds .any e=true→e.on≠x:=fun x h0 e he hb heq=>by
        have h1:=hall e he hb;rw[heq] at h1
        obtain ⟨hl,h0'⟩:=Bl h0
        simp[Array.getD,hl,h0'] at h1
      have hnot:=hwait i (mem_ready.1 hr).1
      have hnl:j ∉ late:=fun hm=>by
        obtain ⟨ou,ho,e,he,hb,h2⟩:=hw.ev j hm;obtain rfl:oj=ou:=Option.some.inj (hoj.symm.trans ho)
        rcases h2 with h2|h2
        · exact hnot e he hb h2
        · exact hwait e.on (hund _ h2) e he hb rfl
      have hlt:j<k0:=by
        rcases Nat.lt_or_ge j k0 with hl|hl
        · exact hl
        · exact absurd (hw.tl j oj hoj hl) hnl
      have h2:=wpOp_putIf hoj (hfree j oj hoj hji hjun hnot) (fun cs b=>hsel i oi cs b hi) (fun cs b=>hsel j oj cs b hoj) hQ hy h1
      have hfree':∀ k ok,ops[k]?=some ok→k≠i→(L.setIfInBounds j true).getD k true=false →
          (∀ e∈ok.after,Region.binds .any e=true→e.on≠i)→oi.apart ops ok=true:=fun k ok hk hki hun hno=>by
        refine hfree k ok hk hki ?_ hno
        by_cases hjk:j=k
        · subst hjk;exact hjun
        · rw[getD_set_ne true hjk] at hun;exact hun
      refine wpOp_mono (fun a' w' h3=>⟨h3.2.1,ih (L.setIfInBounds j true) a' w' hfree' (fun u hu=>?_) (ready_mono hr (Ne.symm hji)) h3.1 (hcl _ _ hS (h3.2.1.1 hlt)) ?_⟩) h2
      · rw[getD_set_ne true (fun e=>hnl (by rw[e];exact hu))];exact hund u hu
      · rw[Array.setIfInBounds_comm _ _ hji]
        exact h3.2.2
theorem E.take0U {h0:Hp}{AL:List Al}{L:Array Bool}{a:Act}{w:World}{h:Hp}{i:Nat}{o:Oper}{v:Value}{S:World→Prop}{late:List Nat}
  (hi:ops[i]?=some o)(hsel:Region.noSelect ops=true)(hf:Region.free .any ops L i=true)(hr:i∈Region.ready .any ops L)
  (hal:∀ x∈AL,x.i≠i∧x.t ∉ o.looksAt ops∧o.dst≠some x.t)(hQ:∀ c a w,¬Q (.panic c) a w)
  (hcl:∀ w w',S w→Mo M.l w w'→S w')(hS:∀ w',Mo M.l w w'→S w')(hy:YieldsIf P ops S o v a)
  (hw:Waits ops k0 i late)(hund:∀ u∈late,L.getD u true=false∧∀ x∈AL,x.i≠u)
  (H:E M P ops Q k0 h0 AL (L.setIfInBounds i true) (a.put o.dst v) w h):E M P ops Q k0 h0 AL L a w h:=by
 intro w' h' u S' T hp hb hn;have hS':∀ s∈S',s.1.i≠i∧s.1.t ∉ o.looksAt ops∧o.dst≠some s.1.t:=fun s hs=>hal _ (dS hp hs)
 have H1:=H w' h' u S' T hp hb hn;rw[fZ L S' i (fun s hs=>(hS' s hs).1),f8 a S' o.dst v (fun s hs=>(hS' s hs).2.2)] at H1
 have hr':=jD (fun s hs=>(hS' s hs).1) hr;obtain ⟨e1,e2⟩:=iT (ops:=ops) (Region.noSelect_spec hsel i o · · hi) a S' (fun s hs=>(hS' s hs).2.1)
 unfold A at *
 rw[dJ hr']
 exact md hi (Region.noSelect_spec hsel) (fun c a w hq=>absurd hq (hQ _ _ _)) hcl hw _ _ _ _
  (fun j oj hj hji hun=>Region.free_spec hi hf j oj hj hji (fj hun))
  (fun x hx=>by rw[fB true (fun s hs=>(hund x hx).2 _ (dS hp hs))];exact (hund x hx).1) hr' (hy.of_same e1 e2) (hS _ (u.m M.l).mo) H1
end laws
section steps
variable {M:Ms} {P:Program} {n:Nat} {N R:Po} {X:Nat→Po} {ops:Array Oper} {k0:Nat} {hr:Hp} {AL:List Al} {L:Array Bool} {Γ:bG} {w:World} {h:Hp} {w0:World} {h0:Hp} {B:List Bx} {Rs:List Rw} {F:List (Hp→Prop)}
def lp (ops:Array Oper)(k0:Nat)(AL:List Al)(L:Array Bool)(i:Nat)(late:List Nat):Bool :=
  (late.all fun u=>decide (u<ops.size) && !(L.getD u true) && (AL.all fun x=>x.i != u) && ((ao ops u).after.any fun e=>Region.binds .any e && (e.on == i || late.contains e.on))) && ((List.range ops.size).all fun j=>decide (j<k0) || late.contains j)
theorem lf {i:Nat}{late:List Nat}(hc:lp ops k0 AL L i late=true):Waits ops k0 i late∧∀ u∈late,L.getD u true=false∧∀ x∈AL,x.i≠u:=by
 unfold lp at hc
 rw[Bool.and_eq_true] at hc
 obtain ⟨h1,h2⟩:=hc;have h1':=fun u hu=>(List.all_eq_true.1 h1) u hu
 refine ⟨⟨fun u hu=>?_,fun j oj hj hk=>?_⟩,fun u hu=>?_⟩
 ·have q:=h1' u hu
  simp only[Bool.and_eq_true,decide_eq_true_eq,Array.any_eq_true,Bool.or_eq_true,beq_iff_eq,List.contains_eq_mem] at q
  obtain ⟨⟨⟨q1,_⟩,_⟩,x,hx,q2,q3⟩:=q;exact ⟨_,bj q1,_,Array.getElem_mem hx,q2,q3⟩
 ·have hlt:=(Array.getElem?_eq_some_iff.1 hj).1
  have q:=(List.all_eq_true.1 h2) j (List.mem_range.2 hlt)
  simp only[Bool.or_eq_true,decide_eq_true_eq,List.contains_eq_mem] at q
  rcases q with q|q
  ·omega
  ·exact q
 ·have q:=h1' u hu
  simp only[Bool.and_eq_true,Bool.not_eq_true',List.all_eq_true,bne_iff_ne,ne_eq] at q
  exact ⟨q.1.1.2,fun x hx=>q.1.2 x hx⟩
def Bz (n:Nat)(ops:Array Oper)(k0:Nat)(AL:List Al)(L:Array Bool)(Γ:bG)(i t:Nat)(late:List Nat):Bool:=cJ n ops k0 AL L i t && aY Γ (ao ops i) && lp ops k0 AL L i late && (aZ ops Γ (ao ops i) == some true)
theorem Rg.loadU (i t:Nat)(late:List Nat)(v:Value)(hc:Bz n ops k0 AL L Γ i t late=true)
  (hr:∀ w',Mo M.l w w'→(execOp (ev Γ) (ao ops i)).run P w'=.ok (.value v) w')
  (k:EG M P n N R X ops k0 h0 AL (L.setIfInBounds i true) ((t,v)::Γ) w h):EG M P n N R X ops k0 h0 AL L Γ w h:=by
 unfold Bz at hc
 simp only[Bool.and_eq_true] at hc
 obtain ⟨⟨⟨hc,hkn⟩,hl⟩,hw⟩:=hc;have hw:aZ ops Γ (ao ops i)=some true:=by simpa using hw
 have c:=cA hc;obtain ⟨l1,l2⟩:=lf hl;intro oks hM g hsz a ka;have e1:=ka.exec (Region.noSelect_spec c.sel i _ · · c.get) hkn;refine E.take0U (v:=v) (S:=fun w'=>Mo M.l w w') c.get c.sel c.free c.ready c.al (fun _ _ _ hq=>hq) (fun _ _ h1 h2=>h1.trans h2) (fun _ hx=>hx) (.inl ⟨ka.want hw,fun w' hx=>by rw[e1];exact hr w' hx⟩) l1 l2 ?_;rw[c.dst];exact k oks hM g hsz _ (ka.put c.tn v)
theorem Ep (i t:Nat)(late:List Nat)(ps:List (Nat × Nat × Nat))(v:Value)(s:SS w0 h0 w h B Rs F)(H:EG ⟨[],none⟩ P n N R X ops k0 hr AL (L.setIfInBounds i true) ((t,v)::Γ) w h)(hc:Bz n ops k0 AL L Γ i t late=true:=by kernel_rfl)(hp:bI B ps=true:=by kernel_rfl)(he:bH P (execOp (ev Γ) (ao ops i)) (bz B ps)=some (.value v,bD B ps):=by kernel_rfl):EG ⟨[],none⟩ P n N R X ops k0 hr AL L Γ w h :=
 Rg.loadU i t late v hc (fun w' hx=>bB _ _ _ _ he (ek (fun _ _=>List.not_mem_nil) (fun x hm _=>(hx.blk x.b (by rw[s.g.size];exact aW (s.st.jk x hm)) List.not_mem_nil).trans (s.st.own x hm)) ps (fun _ h=>h) hp)) H
end steps
theorem Ee (s:ByteArray):(s.toList == s.toList)=true:=beq_self_eq_true _
theorem x6 (s:ByteArray):(!(s.toList == s.toList))=false:=by rw[Ee];rfl
theorem xV {a n:Int}(h:0≤a∧a≤1073741824)(hn : -1000≤n∧n≤1000) : -1073741824000≤a*n∧a*n≤1073741824000:=by
 have h1:(a*n).natAbs≤1073741824*1000:=by rw[Int.natAbs_mul];exact Nat.mul_le_mul oM oM
 omega
theorem mG {op n:Int}{s:Nat}:min (dz op n ((min s 1073741824:Nat):Int)) 1073741824=((min (f6 op n*s) 1073741824:Nat):Int):=by
  unfold dz f6 bP
  by_cases e11:op=11
  · rw[if_pos e11,if_pos e11];omega
  · rw[if_neg e11,if_neg e11]
    by_cases e8:op=8∧n≠0
    · rw[if_pos e8,if_pos e8.1]
      have e:(if n<0 then 0-n else n)=((if n.natAbs≤1 then 1 else n.natAbs:Nat):Int):=by have:=e8.2;split<;>split<;>omega
      rw[e]
      generalize hm:(if n.natAbs≤1 then 1 else n.natAbs)=m
      have hm1:1≤m:=by rw[←hm];split<;>omega
      rw[←Int.natCast_mul,Nat.mul_comm]
      rcases Nat.le_total s 1073741824 with h|h
      · rw[Nat.min_eq_left h];omega
      · rw[Nat.min_eq_right h]
        have a1:=Nat.le_mul_of_pos_left 1073741824 hm1;have a2:=Nat.le_trans h (Nat.le_mul_of_pos_left s hm1)
        omega
    · rw[if_neg e8]
      by_cases e9:op=8
      · rw[if_pos e9]
        have:n=0:=by by_cases z:n=0;exact z;exact absurd ⟨e9,z⟩ e8
        rw[this,if_pos kD];omega
      · rw[if_neg e9];omega
theorem xD  (sm:ByteArray→Prop)(d:Nat)(ih:∀ (r:RTm) (t:Tm) (w:World) (h:Hp),G w h→RmH d h r t→SmT sm d t→d≤1000→Calls Tryz.prog 52 #[dB r] w (Ret w h (fun v _=>v=nV (k9 d t))))(op n:Int)(bq:Bool)(zA:Option Addr)(zn zc:Nat)(dA:Option Addr)(dn dc:Nat)(q:Rat)(s:ByteArray)(A:Option Addr)(c:Nat)(rs:List RTm)(ks:List Tm)(hc:rs.length≤c)(hk3:ks.length≤3)(hop : -1000≤op∧op≤1000)(hn : -1000≤n∧n≤1000)(hq:LQ 1 q)(hsm:sm s)(hW:∀ i,i<ks.length→SmT sm d (ks.getD i bE))(hd:d+1≤1000)(w:World)(h:Hp)(g:G w h)(hZ:RZ h (bq,.slice zA zn zc,.slice dA dn dc) q)(hK:SlO 7 dt aw h A rs)(hKs:Rms d h rs ks):CV 52 #[.agg #[iV op,iV n,.bool bq,.slice zA zn zc,.slice dA dn dc,.string s,.slice A rs.length c]] w h (nV (k9 (d+1) (.mk op n q s ks))):=by
 have hs:=((((sS g).add (K:=fun h_=>RZ h_ (bq,qS zA zn zc,qS dA dn dc) q) hZ).aS hK).add (K:=fun h_=>Rms d h_ rs ks) hKs);have hln:=(hs.f.1).len;have hdb:∀ k,k≤ks.length→(iG (fun i=>k9 d (ks.getD i bE)) k)≤d:=fun k hk=>li k (fun i _=>lz d _)
 have hdb2:=fun i=>lz d (ks.getD i bE)
 refine go Tryz.func52 [(0,.agg #[iV op,iV n,.bool bq,qS zA zn zc,qS dA dn dc,.string s,qS A rs.length c])] rfl (aA (lA 1 31 ([iV op,iV n,.bool bq,qS zA zn zc,qS dA dn dc,.string s,qS A rs.length c]) hs (fun b1 w2 h3 hs=>lL hs [.v 2 (iV 0)] (aJ (lL hs [.v 3 (iV 0)] (ae (ab hs [.v 4 (iV 0)] (bc ?_))))))));refine bJ _ (CG.loop (fun μ_ Γ w_=>∃ (k:Nat) (h_:Hp),μ_=rs.length-k∧Γ=[(1,pB b1),(2,iV 0),(4,nV k),(3,nV (iG (fun i=>k9 d (ks.getD i bE)) k))]∧SS w h w_ h_ [⟨b1,31,[iV op,iV n,.bool bq,qS zA zn zc,qS dA dn dc,.string s,qS A rs.length c]⟩] [] [fun h_=>Rms d h_ rs ks,fun h_=>SlO 7 dt aw h_ A rs,fun h_=>RZ h_ (bq,qS zA zn zc,qS dA dn dc) q]∧k≤rs.length) _ ⟨0,h3,rfl,rfl,hs.to _ _,Nat.zero_le _⟩ ?_);rintro _ _ w4 ⟨k,h5,hm6,rfl,hs,hk⟩;have hmx:(iG (fun i=>k9 d (ks.getD i bE)) (k+1))=max (iG (fun i=>k9 d (ks.getD i bE)) k) (k9 d (ks.getD k bE)):=rfl;refine cQ (ab hs [.m 5 4,.v 6 (qP b1 6),.o 7 (qS A rs.length c) 0 6 1,.v 8 (nV rs.length)] ?_);cases hb7:(decide ((k:Int)<(rs.length:Int)))
 ·
  have phb7:=oF hb7;refine lB 9 hb7 (af (CG.exit ?_))
  show CG _ _ _ _ _ _ _ _
  refine ab hs [.m 20 3] ?_;have hb1_:=hdb k oM;exact bu 21 (((iG (fun i=>k9 d (ks.getD i bE)) k):Nat)+1) (((iG (fun i=>k9 d (ks.getD i bE)) k):Nat)+1) (lL hs [.m 2 21] (ac hs [] (nV (((iG (fun i=>k9 d (ks.getD i bE)) k):Nat)+1)) (congrArg (fun n:Nat=>Value.int .i64 (n:Int)) (by rw[show k=ks.length by omega];rfl))))
 have phb7:=oT hb7;refine lB 9 hb7 (am (cK (cQ (kZ (kQ (lL hs [.m 12 3,.v 13 (qP b1 6),.o 14 (qS A rs.length c) 0 6 1,.m 15 4] (lX 16 A rs.length c 7 (k:Nat) k ((hs.f.2.1).ok oM) ?_)))))));refine lH 17 (.agg #[iV ((rs.getD k aw).op),iV ((rs.getD k aw).n),.bool ((rs.getD k aw).neg),qS ((rs.getD k aw).zA) ((rs.getD k aw).zn) ((rs.getD k aw).zc),qS ((rs.getD k aw).dA) ((rs.getD k aw).dn) ((rs.getD k aw).dc),.string ((rs.getD k aw).s),qS ((rs.getD k aw).A) ((rs.getD k aw).m) ((rs.getD k aw).c)]) hs ((hs.f.2.1).el k oM) (ah 18 hs (ih (rs.getD k aw) (ks.getD k bE) _ _ hs.g ((hs.f.1).at_ k oM) (hW k oM) oM) (fun w8 h9 hs=>?_));have hb1_:=hdb k oM;have hb2_:=hdb2 k;refine lV 19 (nV (iG (fun i=>k9 d (ks.getD i bE)) (k+1))) ?_ (hr:=aU (n:=if (k9 d (ks.getD k bE):Int)>((iG (fun i=>k9 d (ks.getD i bE)) k):Int) then (k9 d (ks.getD k bE):Int) else ((iG (fun i=>k9 d (ks.getD i bE)) k):Int)) kR (by split<;>omega));refine lL hs [.m 3 19] (lN (kQ (lL hs [.m 10 4] (bu 11 ((k:Nat)+1) (k+1) ?_))));refine lL hs [.m 4 11] (lD ?_);intro a_ ka;refine ⟨_,_,?_,⟨k+1,h9,rfl,rfl,hs.to _ _,oM⟩,ka.to _ kR⟩
 omega
theorem t8 (sm:ByteArray→Prop):∀ (d:Nat) (r:RTm) (t:Tm) (w:World) (h:Hp),G w h→RmH d h r t→SmT sm d t→d≤1000→Calls Tryz.prog 52 #[dB r] w (Ret w h (fun v _=>v=nV (k9 d t)))
  | 0,_,_,_,_,_,x,_,_=>x.elim
  | d+1,r,t,w,h,g,x,wf,hd=>by
    obtain ⟨op,n,b,zA,zn,zc,dA,dn,dc,q,s,A,c,rs,ks,rfl,rfl,hZ,hc,hK,hKs⟩:=x.open;obtain ⟨s1,s2,s3,s4,s5,s6⟩:=wf;exact xD sm d (fun r t w h=>t8 sm d r t w h) op n b zA zn zc dA dn dc q s A c rs ks hc s1 s2 s3 s4 s5 s6 hd w h g hZ hK hKs
theorem vY (op n sum:Int)(hs0:0≤sum∧sum≤1073741824)(hn:op=8 → -1000≤n∧n≤1000)(w:World)(h:Hp)(g:G w h):CV 83 #[iV op,iV n,iV sum] w h (iV (min (dz op n sum) 1073741824)):=by
 have hs:=sS g;have hmn:min (sum:Int) (1073741824:Int)=sum:=by omega
 have hq1:=fun h8:op=8=>xV hs0 (hn h8)
 have hq2:=fun h8:op=8=>xV (n:=0-n) hs0 (by have:=hn h8;omega)
 rw[←hmn] at hq1 hq2
 have hq3:n≤0→(min (sum:Int) (1073741824:Int))*n≤0∧0≤(min (sum:Int) (1073741824:Int))*(0-n):=fun h_=>⟨Int.mul_nonpos_of_nonneg_of_nonpos oM h_,Int.mul_nonneg oM oM⟩
 have hq4:0≤n→0≤(min (sum:Int) (1073741824:Int))*n:=fun h_=>Int.mul_nonneg oM h_
 refine go Tryz.func83 [(0,iV op),(1,iV n),(2,iV sum)] rfl (ab hs [.v 6 (iV 0)] (ae (kZ (ab hs [.m 8 0] ?_))));cases hb1:((op:Int) == (11:Int))
 ·
  have phb1:=ag hb1;refine lB 9 hb1 (lL hs [.m 7 9] (af (ab hs [.m 13 0] ?_)));cases hb2:((op:Int) == (8:Int))
  ·
   have phb2:=ag hb2;refine lB 14 hb2 (lL hs [.m 15 14] (lG 16 ?_));refine lG 17 (lL hs [.v 18 qF,.m 12 18] (af (cK (ab hs [.m 33 2] (lV 34 (iV (min (sum:Int) (1073741824:Int))) ?_ (hr:=aU (n:=(if (1073741824:Int)<(sum:Int) then (1073741824:Int) else (sum:Int))) kR (by simp only[dP])))))));exact lL hs [.m 6 34] (ac hs [] (iV (min (sum:Int) (1073741824:Int))) (congrArg (Value.int .i64) (by unfold dz;first|(rw[if_pos oM]<;>omega)|(rw[if_neg oM,if_pos oM,if_pos oM]<;>rw[hmn] at * <;> omega)|(rw[if_neg oM,if_pos oM,if_neg oM]<;>rw[hmn] at * <;> omega)|(rw[if_neg oM,if_neg oM]<;>omega))))
  have phb2:=eq_of_beq hb2;refine lB 14 hb2 (lL hs [.m 15 14,.m 16 1] ?_);cases hb3:((n:Int) != (0:Int))
  ·
   have phb3:=aI hb3;refine lB 17 hb3 (lL hs [.v 18 qF,.m 12 18] (af (cK (ab hs [.m 33 2] (lV 34 (iV (min (sum:Int) (1073741824:Int))) ?_ (hr:=aU (n:=(if (1073741824:Int)<(sum:Int) then (1073741824:Int) else (sum:Int))) kR (by simp only[dP])))))));exact lL hs [.m 6 34] (ac hs [] (iV (min (sum:Int) (1073741824:Int))) (congrArg (Value.int .i64) (by unfold dz;first|(rw[if_pos oM]<;>omega)|(rw[if_neg oM,if_pos oM,if_pos oM]<;>rw[hmn] at * <;> omega)|(rw[if_neg oM,if_pos oM,if_neg oM]<;>rw[hmn] at * <;> omega)|(rw[if_neg oM,if_neg oM]<;>omega))))
  have phb3:=aR hb3;refine lB 17 hb3 (lL hs [.v 18 qT,.m 12 18] (am (cQ (ab hs [.m 19 1] ?_))));cases hb4:(decide ((n:Int)<(0:Int)))
  ·
   have phb4:=oF hb4;refine lB 20 hb4 (af (cK (cQ (ab hs [.m 23 1] ?_))));have ⟨hb5,phb5⟩:=dF (p:=(n:Int)<(0:Int)) oM;refine lB 24 hb5 (lL hs [.m 25 24,.m 26 1] ?_);cases hb6:(decide ((1073741824:Int)<(n:Int)))
   ·
    have phb6:=oF hb6;refine lB 27 hb6 (lL hs [.v 28 qF] (af (cK (kQ (lL hs [.m 29 2] (lV 30 (iV (min (sum:Int) (1073741824:Int))) ?_ (hr:=aU (n:=(if (1073741824:Int)<(sum:Int) then (1073741824:Int) else (sum:Int))) kR (by simp only[dP]))))))));refine lL hs [.m 31 1] (lI 32 ((min (sum:Int) (1073741824:Int))*n) ?_);refine lL hs [.m 2 32] (aJ (lL hs [.m 33 2] (lV 34 (iV (min ((min (sum:Int) (1073741824:Int))*n:Int) (1073741824:Int))) ?_ (hr:=aU (n:=(if (1073741824:Int)<((min (sum:Int) (1073741824:Int))*n:Int) then (1073741824:Int) else ((min (sum:Int) (1073741824:Int))*n:Int))) kR (by simp only[dP])))));exact lL hs [.m 6 34] (ac hs [] (iV (min ((min (sum:Int) (1073741824:Int))*n:Int) (1073741824:Int))) (congrArg (Value.int .i64) (by unfold dz;first|(rw[if_pos oM]<;>omega)|(rw[if_neg oM,if_pos oM,if_pos oM]<;>rw[hmn] at * <;> omega)|(rw[if_neg oM,if_pos oM,if_neg oM]<;>rw[hmn] at * <;> omega)|(rw[if_neg oM,if_neg oM]<;>omega))))
   have phb6:=oT hb6;refine lB 27 hb6 (lL hs [.v 28 qT] (am (kQ (lL hs [.v 1 (iV 1073741824)] (lN (kQ (lL hs [.m 29 2] (lV 30 (iV (min (sum:Int) (1073741824:Int))) ?_ (hr:=aU (n:=(if (1073741824:Int)<(sum:Int) then (1073741824:Int) else (sum:Int))) kR (by simp only[dP]))))))))));refine lL hs [.m 31 1] (lI 32 ((min (sum:Int) (1073741824:Int))*1073741824) ?_);refine lL hs [.m 2 32] (aJ (lL hs [.m 33 2] (lV 34 (iV (min ((min (sum:Int) (1073741824:Int))*1073741824:Int) (1073741824:Int))) ?_ (hr:=aU (n:=(if (1073741824:Int)<((min (sum:Int) (1073741824:Int))*1073741824:Int) then (1073741824:Int) else ((min (sum:Int) (1073741824:Int))*1073741824:Int))) kR (by simp only[dP])))));exact lL hs [.m 6 34] (ac hs [] (iV (min ((min (sum:Int) (1073741824:Int))*1073741824:Int) (1073741824:Int))) (congrArg (Value.int .i64) (by unfold dz;first|(rw[if_pos oM]<;>omega)|(rw[if_neg oM,if_pos oM,if_pos oM]<;>rw[hmn] at * <;> omega)|(rw[if_neg oM,if_pos oM,if_neg oM]<;>rw[hmn] at * <;> omega)|(rw[if_neg oM,if_neg oM]<;>omega))))
  have phb4:=oT hb4;refine lB 20 hb4 (am (kQ (lL hs [.m 21 1] (lI 22 (0-n) ?_))));refine lL hs [.m 1 22] (ae (ab hs [.m 23 1] ?_));cases hb7:(decide ((0-n:Int)<(0:Int)))
  ·
   have phb7:=oF hb7;refine lB 24 hb7 (lL hs [.m 25 24,.m 26 1] ?_);cases hb8:(decide ((1073741824:Int)<(0-n:Int)))
   ·
    have phb8:=oF hb8;refine lB 27 hb8 (lL hs [.v 28 qF] (af (cK (kQ (lL hs [.m 29 2] (lV 30 (iV (min (sum:Int) (1073741824:Int))) ?_ (hr:=aU (n:=(if (1073741824:Int)<(sum:Int) then (1073741824:Int) else (sum:Int))) kR (by simp only[dP]))))))));refine lL hs [.m 31 1] (lI 32 ((min (sum:Int) (1073741824:Int))*(0-n)) ?_);refine lL hs [.m 2 32] (aJ (lL hs [.m 33 2] (lV 34 (iV (min ((min (sum:Int) (1073741824:Int))*(0-n):Int) (1073741824:Int))) ?_ (hr:=aU (n:=(if (1073741824:Int)<((min (sum:Int) (1073741824:Int))*(0-n):Int) then (1073741824:Int) else ((min (sum:Int) (1073741824:Int))*(0-n):Int))) kR (by simp only[dP])))));exact lL hs [.m 6 34] (ac hs [] (iV (min ((min (sum:Int) (1073741824:Int))*(0-n):Int) (1073741824:Int))) (congrArg (Value.int .i64) (by unfold dz;first|(rw[if_pos oM]<;>omega)|(rw[if_neg oM,if_pos oM,if_pos oM]<;>rw[hmn] at * <;> omega)|(rw[if_neg oM,if_pos oM,if_neg oM]<;>rw[hmn] at * <;> omega)|(rw[if_neg oM,if_neg oM]<;>omega))))
   have phb8:=oT hb8;refine lB 27 hb8 (lL hs [.v 28 qT] (am (kQ (lL hs [.v 1 (iV 1073741824)] (lN (kQ (lL hs [.m 29 2] (lV 30 (iV (min (sum:Int) (1073741824:Int))) ?_ (hr:=aU (n:=(if (1073741824:Int)<(sum:Int) then (1073741824:Int) else (sum:Int))) kR (by simp only[dP]))))))))));refine lL hs [.m 31 1] (lI 32 ((min (sum:Int) (1073741824:Int))*1073741824) ?_);refine lL hs [.m 2 32] (aJ (lL hs [.m 33 2] (lV 34 (iV (min ((min (sum:Int) (1073741824:Int))*1073741824:Int) (1073741824:Int))) ?_ (hr:=aU (n:=(if (1073741824:Int)<((min (sum:Int) (1073741824:Int))*1073741824:Int) then (1073741824:Int) else ((min (sum:Int) (1073741824:Int))*1073741824:Int))) kR (by simp only[dP])))));exact lL hs [.m 6 34] (ac hs [] (iV (min ((min (sum:Int) (1073741824:Int))*1073741824:Int) (1073741824:Int))) (congrArg (Value.int .i64) (by unfold dz;first|(rw[if_pos oM]<;>omega)|(rw[if_neg oM,if_pos oM,if_pos oM]<;>rw[hmn] at * <;> omega)|(rw[if_neg oM,if_pos oM,if_neg oM]<;>rw[hmn] at * <;> omega)|(rw[if_neg oM,if_neg oM]<;>omega))))
  have phb7:=oT hb7;refine lB 24 hb7 (lL hs [.m 25 24] (lG 26 ?_));refine lG 27 (lL hs [.v 28 qT] (am (kQ (lL hs [.v 1 (iV 1073741824)] (lN (kQ (lL hs [.m 29 2] (lV 30 (iV (min (sum:Int) (1073741824:Int))) ?_ (hr:=aU (n:=(if (1073741824:Int)<(sum:Int) then (1073741824:Int) else (sum:Int))) kR (by simp only[dP]))))))))));refine lL hs [.m 31 1] (lI 32 ((min (sum:Int) (1073741824:Int))*1073741824) ?_);refine lL hs [.m 2 32] (aJ (lL hs [.m 33 2] (lV 34 (iV (min ((min (sum:Int) (1073741824:Int))*1073741824:Int) (1073741824:Int))) ?_ (hr:=aU (n:=(if (1073741824:Int)<((min (sum:Int) (1073741824:Int))*1073741824:Int) then (1073741824:Int) else ((min (sum:Int) (1073741824:Int))*1073741824:Int))) kR (by simp only[dP])))));exact lL hs [.m 6 34] (ac hs [] (iV (min ((min (sum:Int) (1073741824:Int))*1073741824:Int) (1073741824:Int))) (congrArg (Value.int .i64) (by unfold dz;first|(rw[if_pos oM]<;>omega)|(rw[if_neg oM,if_pos oM,if_pos oM]<;>rw[hmn] at * <;> omega)|(rw[if_neg oM,if_pos oM,if_neg oM]<;>rw[hmn] at * <;> omega)|(rw[if_neg oM,if_neg oM]<;>omega))))
 have phb1:=eq_of_beq hb1;refine lB 9 hb1 (lL hs [.m 7 9] (am (kQ (lL hs [.m 10 2] (lI 11 (2*sum) ?_)))));refine lL hs [.m 2 11] (aJ (lL hs [.m 33 2] (lV 34 (iV (min (2*sum:Int) (1073741824:Int))) ?_ (hr:=aU (n:=(if (1073741824:Int)<(2*sum:Int) then (1073741824:Int) else (2*sum:Int))) kR (by simp only[dP])))));exact lL hs [.m 6 34] (ac hs [] (iV (min (2*sum:Int) (1073741824:Int))) (congrArg (Value.int .i64) (by unfold dz;first|(rw[if_pos oM]<;>omega)|(rw[if_neg oM,if_pos oM,if_pos oM]<;>rw[hmn] at * <;> omega)|(rw[if_neg oM,if_pos oM,if_neg oM]<;>rw[hmn] at * <;> omega)|(rw[if_neg oM,if_neg oM]<;>omega))))
theorem uB  (sm:ByteArray→Prop)(d:Nat)(ih:∀ (r:RTm) (t:Tm) (w:World) (h:Hp),G w h→RmH d h r t→SmT sm d t →  Calls Tryz.prog 54 #[dB r] w (Ret w h (fun v _=>v=iV ((min (bV d t) 1073741824:Nat):Int))))(op n:Int)(bq:Bool)(zA:Option Addr)(zn zc:Nat)(dA:Option Addr)(dn dc:Nat)(q:Rat)(s:ByteArray)(A:Option Addr)(c:Nat)(rs:List RTm)(ks:List Tm)(hc:rs.length≤c)(hk3:ks.length≤3)(hop : -1000≤op∧op≤1000)(hn : -1000≤n∧n≤1000)(hq:LQ 1 q)(hsm:sm s)(hW:∀ i,i<ks.length→SmT sm d (ks.getD i bE))(w:World)(h:Hp)(g:G w h)(hZ:RZ h (bq,.slice zA zn zc,.slice dA dn dc) q)(hK:SlO 7 dt aw h A rs)(hKs:Rms d h rs ks):CV 54 #[.agg #[iV op,iV n,.bool bq,.slice zA zn zc,.slice dA dn dc,.string s,.slice A rs.length c]] w h (iV ((min (bV (d+1) (.mk op n q s ks)) 1073741824:Nat):Int)):=by
 have hs:=((((sS g).add (K:=fun h_=>RZ h_ (bq,qS zA zn zc,qS dA dn dc) q) hZ).aS hK).add (K:=fun h_=>Rms d h_ rs ks) hKs);have hln:=(hs.f.1).len;refine go Tryz.func54 [(0,.agg #[iV op,iV n,.bool bq,qS zA zn zc,qS dA dn dc,.string s,qS A rs.length c])] rfl (aA (lA 1 31 ([iV op,iV n,.bool bq,qS zA zn zc,qS dA dn dc,.string s,qS A rs.length c]) hs (fun b1 w2 h3 hs=>lL hs [.v 2 (iV 0)] (ae (ab hs [.v 5 (qP b1 6),.o 6 (qS A rs.length c) 0 6 1,.v 7 (nV rs.length)] ?_)))));cases hb4:((rs.length:Int) == (0:Int))
 ·
  have phb4:=ag hb4;refine lB 8 hb4 (af (cK (ab hs [.v 3 (iV 0)] (ae (ab hs [.v 4 (iV 0)] (bc ?_))))));refine bJ _ (CG.loop (fun μ_ Γ w_=>∃ (k:Nat) (sw:Nat) (h_:Hp),μ_=rs.length-k∧Γ=[(1,pB b1),(2,iV 0),(4,nV k),(3,nV sw)]∧SS w h w_ h_ [⟨b1,31,[iV op,iV n,.bool bq,qS zA zn zc,qS dA dn dc,.string s,qS A rs.length c]⟩] [] [fun h_=>Rms d h_ rs ks,fun h_=>SlO 7 dt aw h_ A rs,fun h_=>RZ h_ (bq,qS zA zn zc,qS dA dn dc) q]∧k≤rs.length∧sw=min (e7 (fun i=>bV d (ks.getD i bE)) k) 1073741824) _ ⟨0,0,h3,rfl,rfl,hs.to _ _,Nat.zero_le _,rfl⟩ ?_);rintro _ _ w5 ⟨k,sw,h6,hm7,rfl,hs,hk,hsw_⟩;have hs1:(e7 (fun i=>bV d (ks.getD i bE)) (k+1))=(e7 (fun i=>bV d (ks.getD i bE)) k)+bV d (ks.getD k bE):=rfl;refine cQ (ab hs [.m 9 4,.v 10 (qP b1 6),.o 11 (qS A rs.length c) 0 6 1,.v 12 (nV rs.length)] ?_);cases hb8:(decide ((k:Int)<(rs.length:Int)))
  ·
   have phb8:=oF hb8;refine lB 13 hb8 (af (CG.exit ?_))
   show CG _ _ _ _ _ _ _ _
   refine ab hs [.v 25 (pB b1),.o 26 (iV op) 0 0 1,.v 27 (qP b1 1),.o 28 (iV n) 0 1 1,.m 29 3] (ah 30 hs (vY op n (sw:Nat) oM (fun _=>hn) _ _ hs.g) (fun w9 _ hs=>lL hs [.m 2 30] (lN (kX ?_))));have hkn:k=ks.length:=by omega
   have hw_:=jV (d:=d) (op:=op) (n:=n) (q:=q) (s:=s) (ks:=ks) oM;rw[hkn] at hsw_
   exact hs.ret [] (iV (min (dz op n (sw:Nat)) 1073741824)) (congrArg (Value.int .i64) (by rw[hw_,hsw_];exact mG))
  have phb8:=oT hb8;refine lB 13 hb8 (am (cK (cQ (kZ (kQ (lL hs [.m 16 3,.v 17 (qP b1 6),.o 18 (qS A rs.length c) 0 6 1,.m 19 4] (lX 20 A rs.length c 7 (k:Nat) k ((hs.f.2.1).ok oM) ?_)))))));refine lH 21 (.agg #[iV ((rs.getD k aw).op),iV ((rs.getD k aw).n),.bool ((rs.getD k aw).neg),qS ((rs.getD k aw).zA) ((rs.getD k aw).zn) ((rs.getD k aw).zc),qS ((rs.getD k aw).dA) ((rs.getD k aw).dn) ((rs.getD k aw).dc),.string ((rs.getD k aw).s),qS ((rs.getD k aw).A) ((rs.getD k aw).m) ((rs.getD k aw).c)]) hs ((hs.f.2.1).el k oM) (ah 22 hs (ih (rs.getD k aw) (ks.getD k bE) _ _ hs.g ((hs.f.1).at_ k oM) (hW k oM)) (fun _ za hs=>lI 23 ((sw:Nat)+((min (bV d (ks.getD k bE)) 1073741824:Nat):Int)) (lV 24 (iV ((min (e7 (fun i=>bV d (ks.getD i bE)) (k+1)) 1073741824:Nat):Int)) ?_ (hr:=aU (n:=if (1073741824:Int)<((sw:Nat)+((min (bV d (ks.getD k bE)) 1073741824:Nat):Int)) then (1073741824:Int) else ((sw:Nat)+((min (bV d (ks.getD k bE)) 1073741824:Nat):Int))) kR (by split<;>omega)))));refine lL hs [.m 3 24] (lN (kQ (lL hs [.m 14 4] (bu 15 ((k:Nat)+1) (k+1) ?_))));refine lL hs [.m 4 15] (lD ?_);intro a_ ka;refine ⟨_,_,?_,⟨k+1,(min (e7 (fun i=>bV d (ks.getD i bE)) (k+1)) 1073741824),za,rfl,rfl,hs.to _ _,oM,rfl⟩,ka.to _ kR⟩
  omega
 have phb4:=eq_of_beq hb4;exact lB 8 hb4 (am (ab hs [.v 2 (iV 1)] (ac hs [] (iV 1) (congrArg (Value.int .i64) (by rw[rJ oM];rfl)))))
theorem pJ (sm:ByteArray→Prop):∀ (d:Nat) (r:RTm) (t:Tm) (w:World) (h:Hp),G w h→RmH d h r t→SmT sm d t →  Calls Tryz.prog 54 #[dB r] w (Ret w h (fun v _=>v=iV ((min (bV d t) 1073741824:Nat):Int)))
  | 0,_,_,_,_,_,x,_=>x.elim
  | d+1,r,t,w,h,g,x,wf=>by
    obtain ⟨op,n,b,zA,zn,zc,dA,dn,dc,q,s,A,c,rs,ks,rfl,rfl,hZ,hc,hK,hKs⟩:=x.open;obtain ⟨s1,s2,s3,s4,s5,s6⟩:=wf;exact uB sm d (fun r t w h=>pJ sm d r t w h) op n b zA zn zc dA dn dc q s A c rs ks hc s1 s2 s3 s4 s5 s6 w h g hZ hK hKs
theorem lM  (isb:ByteArray→Bool)(sm:ByteArray→Prop)(hIs:∀ s,sm s→∀ (w:World) (h:Hp),G w h→Calls Tryz.prog 82 #[.string s] w (Ret w h (fun v _=>∃ b,v=.bool b∧b=isb s)))(d:Nat)(r:RTm)(t:Tm)(hd:d≤24)(w:World)(h:Hp)(g:G w h)(hR:RmH d h r t)(hS:SmT sm d t):CR 24 #[.agg #[iV r.op,iV r.n,.bool r.neg,.slice r.zA r.zn r.zc,.slice r.dA r.dn r.dc,.string r.s,.slice r.A r.m r.c]] w h (fun v _=>∃ e:Int,v=iV e∧((WfT (fun s=>isb s=true) d t∧e=(if 1000<bV d t then 18 else 0))∨(¬WfT (fun s=>isb s=true) d t∧e=2))):=by
 have hs:=((sS g).add (K:=fun h_=>RmH d h_ r t) hR);refine go Tryz.func24 [(0,.agg #[iV r.op,iV r.n,.bool r.neg,qS r.zA r.zn r.zc,qS r.dA r.dn r.dc,.string r.s,qS r.A r.m r.c])] rfl (aA (lA 1 31 ([iV r.op,iV r.n,.bool r.neg,qS r.zA r.zn r.zc,qS r.dA r.dn r.dc,.string r.s,qS r.A r.m r.c]) hs (fun b1 w2 h3 hs=>lL hs [.v 2 (iV 0)] (ae (kZ (ab hs [.o 4 (.agg #[iV r.op,iV r.n,.bool r.neg,qS r.zA r.zn r.zc,qS r.dA r.dn r.dc,.string r.s,qS r.A r.m r.c]) 0 0 7] (ah 5 hs (t8 sm d r t _ _ hs.g hs.f.1 hS oM) (fun w4 h5 hs=>?_))))))));have hdl_:=lz d t;cases hb6:(decide ((24:Int)<((k9 d t:Nat):Int)))
 ·
  have phb6:=oF hb6;refine lB 6 hb6 (lL hs [.m 3 6] (af (ab hs [.o 8 (.agg #[iV r.op,iV r.n,.bool r.neg,qS r.zA r.zn r.zc,qS r.dA r.dn r.dc,.string r.s,qS r.A r.m r.c]) 0 0 7] (lC 9 hs (nw isb sm hIs d r t _ _ hs.g hs.f.1 hS) ?_))));rintro _ w7 h8 hs ⟨bf,rfl,hbf⟩;cases hb9:(bf)
  ·
   exact lL hs [.v 10 qT,.m 7 10] (am (ab hs [.v 2 (iV 2)] (ac hs [] (iV 2) (⟨_,rfl,.inr ⟨fun h_=>Bool.noConfusion ((hbf.2 h_).symm.trans aM),rfl⟩⟩))))
  refine lL hs [.v 10 qF,.m 7 10] (af (ab hs [.o 12 (.agg #[iV r.op,iV r.n,.bool r.neg,qS r.zA r.zn r.zc,qS r.dA r.dn r.dc,.string r.s,qS r.A r.m r.c]) 0 0 7] (ah 13 hs (pJ sm d r t _ _ hs.g hs.f.1 hS) (fun _ _ hs=>?_))));cases za:(decide ((1000:Int)<(((min (bV d t) 1073741824:Nat):Int):Int)))
  ·
   have zb:=oF za;exact lB 14 za (lL hs [.m 11 14] (af (cK (ab hs [.v 2 (iV 0)] (ac hs [] (iV 0) (⟨_,rfl,.inl ⟨hbf.1 aM,(if_neg oM).symm⟩⟩))))))
  have zb:=oT za;exact lB 14 za (lL hs [.m 11 14] (am (ab hs [.v 2 (iV 18)] (ac hs [] (iV 18) (⟨_,rfl,.inl ⟨hbf.1 aM,(if_pos oM).symm⟩⟩)))))
 have phb6:=oT hb6;refine lB 6 hb6 (lL hs [.m 3 6] (am (ab hs [.v 2 (iV 19)] (lN (kX ?_)))))
 exfalso;omega
def fN (c:Nat):Prop:=(97≤c∧c≤122)∨(65≤c∧c≤90)
def mc (c:Nat):Prop:=((97≤c∧c≤122)∨(65≤c∧c≤90))∨(48≤c∧c≤57)∨c=95
instance (c:Nat):Decidable (fN c):=by unfold fN;infer_instance
instance (c:Nat):Decidable (mc c):=by unfold mc;infer_instance
def da (s:ByteArray):Int:=if s=⟨#[97,98,115]⟩ then 9 else if s=⟨#[114,97,109,112]⟩ then 10 else if s=⟨#[98,101,110,100]⟩ then 11 else if s=⟨#[109,97,120]⟩ then 12 else if s=⟨#[109,105,110]⟩ then 13 else 0
def sx (s:ByteArray):Int:=if da s=0 then 0 else if da s≤11 then 1 else 2
def cn (s:ByteArray):Bool:=decide (da s≠0)
def db (s:ByteArray):Bool:=decide (1≤s.size∧s.size≤20∧fN (aD s 0)∧(∀ i,i<s.size→mc (aD s i))∧cn s=false)
theorem kM {s:ByteArray}(h:¬(1≤s.size∧s.size≤20∧fN (aD s 0))):Value.bool false=.bool (db s):=congrArg Value.bool (decide_eq_false fun x=>h ⟨x.1,x.2.1,x.2.2.1⟩).symm
theorem xW {s:ByteArray}{i:Nat}(h:i<s.size)(h2:¬mc (aD s i)):Value.bool false=.bool (db s):=congrArg Value.bool (decide_eq_false fun x=>h2 (x.2.2.2.1 i h)).symm
theorem vA {s:ByteArray}(h1:1≤s.size∧s.size≤20)(h2:fN (aD s 0))(h3:∀ i,i<s.size→mc (aD s i)):db s = !cn s:=by
 unfold db
 cases h:cn s
 ·exact decide_eq_true ⟨h1.1,h1.2,h2,h3,rfl⟩
 ·exact decide_eq_false fun x=>by cases x.2.2.2.2
def gJ:List MapEntry:=[⟨.string ⟨#[97,98,115]⟩,.int .i64 9,0⟩,⟨.string ⟨#[114,97,109,112]⟩,.int .i64 10,1⟩,⟨.string ⟨#[98,101,110,100]⟩,.int .i64 11,2⟩,⟨.string ⟨#[109,97,120]⟩,.int .i64 12,3⟩,⟨.string ⟨#[109,105,110]⟩,.int .i64 13,4⟩]
theorem pF (s:ByteArray):(∃ i,Instr.findNow .string (.string s) gJ 0=some (some (i,.int .i64 (da s)))∧cn s=true)∨(Instr.findNow .string (.string s) gJ 0=some none∧cn s=false∧da s=0):=by
 by_cases h1:s=⟨#[97,98,115]⟩
 ·subst h1;exact .inl ⟨0,by kernel_rfl,by decide⟩
 by_cases h2:s=⟨#[114,97,109,112]⟩
 ·subst h2;exact .inl ⟨1,by kernel_rfl,by decide⟩
 by_cases h3:s=⟨#[98,101,110,100]⟩
 ·subst h3;exact .inl ⟨2,by kernel_rfl,by decide⟩
 by_cases h4:s=⟨#[109,97,120]⟩
 ·subst h4;exact .inl ⟨3,by kernel_rfl,by decide⟩
 by_cases h5:s=⟨#[109,105,110]⟩
 ·subst h5;exact .inl ⟨4,by kernel_rfl,by decide⟩
 have hc:da s=0:=by unfold da;rw[if_neg h1,if_neg h2,if_neg h3,if_neg h4,if_neg h5]
 refine .inr ⟨?_,by unfold cn;rw[hc];rfl,hc⟩
 rcases MapKept.findNow_spec (d:=.string) (k:=.string s) (by simp[MapKept.IsKey]) gJ 0 (fun x hx=>by
  simp only[gJ,List.mem_cons,List.not_mem_nil,or_false] at hx
  rcases hx with rfl|rfl|rfl|rfl|rfl<;>simp[MapKept.IsKey]) with ⟨a,_⟩|⟨j,e,a,b,c⟩
 ·exact a
 ·exfalso
  match j,b with
  | 0,b=>injection b with b;subst b;injection c with c;exact h1 c.symm
  | 1,b=>injection b with b;subst b;injection c with c;exact h2 c.symm
  | 2,b=>injection b with b;subst b;injection c with c;exact h3 c.symm
  | 3,b=>injection b with b;subst b;injection c with c;exact h4 c.symm
  | 4,b=>injection b with b;subst b;injection c with c;exact h5 c.symm
  | n+5,b=>cases b
def q7 (p:Nat→Bool)(s:ByteArray):Nat→Nat→Nat
  | 0,a=>a
  | f+1,a=>if a<s.size∧p (aD s a)=true then q7 p s f (a+1) else a
def rn (p:Nat→Bool)(s:ByteArray)(a:Nat):Nat:=q7 p s (s.size-a) a
theorem rK (p:Nat→Bool)(s:ByteArray):∀ f a,a≤q7 p s f a
  | 0,a=>Nat.le_refl a
  | f+1,a=>by
    unfold q7;split
    · exact Nat.le_trans (Nat.le_succ a) (rK p s f (a+1))
    · exact Nat.le_refl a
theorem uh (p:Nat→Bool)(s:ByteArray):∀ f a,a≤s.size→q7 p s f a≤s.size
  | 0,a,h=>h
  | f+1,a,h=>by
    unfold q7;split
    · rename_i c;exact uh p s f (a+1) c.1
    · exact h
theorem Ah (p:Nat→Bool)(s:ByteArray)(a:Nat):a≤rn p s a:=rK p s _ a
theorem nC {p:Nat→Bool}{s:ByteArray}{a:Nat}(h:a≤s.size):rn p s a≤s.size:=uh p s _ a h
theorem sj {p:Nat→Bool}{s:ByteArray}{j:Nat}:∀ f a,s.size-a≤f→a≤j→j≤s.size→(∀ i,a≤i→i<j→p (aD s i)=true)→(j=s.size∨p (aD s j)=false)→q7 p s f a=j
  | 0,a,h1,h2,h3,_,_=>by show a=j;omega
  | f + 1,a,h1,h2,h3,h4,h5=>by
    unfold q7
    by_cases e:a=j
    · subst e
      rw[if_neg];rintro ⟨h6,h7⟩
      rcases h5 with h5|h5
      · omega
      · rw[h5] at h7;cases h7
    · rw[if_pos ⟨by omega,h4 a (Nat.le_refl a) oM⟩]
      exact sj f (a+1) oM oM h3 (fun i hi hj=>h4 i oM hj) h5
theorem mY {p:Nat→Bool}{s:ByteArray}{a j:Nat}(h2:a≤j)(h3:j≤s.size)(h4:∀ i,a≤i→i<j→p (aD s i)=true)(h5:j=s.size∨p (aD s j)=false):rn p s a=j:=sj _ a (Nat.le_refl _) h2 h3 h4 h5
theorem nh (p:Nat→Bool)(s:ByteArray):∀ f a,s.size-a≤f→q7 p s f a<s.size→p (aD s (q7 p s f a))=false
  | 0,a,h1,h2=>by
    have h2:a<s.size:=h2
    omega
  | f + 1,a,h1,h2=>by
    unfold q7 at h2 ⊢
    split
    · rename_i c;rw[if_pos c] at h2;exact nh p s f (a+1) oM h2
    · rename_i c;rw[if_neg c] at h2
      cases h:p (aD s a) with
      | true=>exact absurd ⟨h2,h⟩ c
      | false=>rfl
def uz (c:Nat):Bool:=decide (c=32)
def i9 (c:Nat):Bool:=decide (48≤c∧c≤57)
def j4 (c:Nat):Bool:=decide ((48≤c∧c≤57)∨c=46)
def dm (c:Nat):Bool:=decide (mc c)
def qy (c:Nat):Bool:=decide (c≠93)
def sk (s:ByteArray)(a:Nat):Nat:=rn uz s a
theorem gn {s:ByteArray}{a:Nat}(h:a≤s.size):sk s a≤s.size:=nC h
theorem CU (s:ByteArray)(a:Nat):sk s (sk s a)=sk s a:=by
 rcases Nat.lt_or_ge (sk s a) s.size with h1|h1
 ·exact mY (Nat.le_refl _) (Nat.le_of_lt h1) (fun i h2 h3=>absurd h2 oM) (.inr (nh uz s (s.size-a) a (Nat.le_refl _) h1))
 ·show q7 uz s (s.size-sk s a) (sk s a)=sk s a
  rw[show s.size-sk s a=0 by omega];rfl
theorem pI {s:ByteArray}{a:Nat}(h:s.size≤a):aD s a=0:=by
 unfold aD
 rw[List.getD_eq_getElem?_getD,List.getElem?_eq_none (by simpa using h)];rfl
theorem sN {s:ByteArray}{a:Nat}(h:aD s a≠0):a<s.size:=by
 rcases Nat.lt_or_ge a s.size with h1|h1
 ·exact h1
 ·exact absurd (pI h1) h
inductive PR where
  | ok (t:Tm) (a:Nat)
  | err (b:Nat)
inductive PKd where
  | sum|prod|sign|pow|atom
  | call (op:Int)
  | more (lv:Bool) (t:Tm)
def ll (op:Int)(t:Tm):Tm:=.mk op 0 0 ⟨#[]⟩ [t]
def dd (op:Int)(t u:Tm):Tm:=.mk op 0 0 ⟨#[]⟩ [t,u]
def eL (q:Rat):Tm:=.mk 1 0 q ⟨#[]⟩ []
def du (s:ByteArray):Tm:=.mk 2 0 0 s []
def kl (x:Option PR)(f:Tm→Nat→Option PR):Option PR:=match x with
  | none=>none
  | some (.ok t a)=>f t a
  | some (.err b)=>some (.err b)
def dv (s:ByteArray):Nat→Nat
  | 0=>0
  | n+1=>dv s n*10+(aD s n-48)
def i8 (s:ByteArray):Option Nat:=if s.size=0∨(1<s.size∧aD s 0=48)∨¬(∀ i,i<s.size→i9 (aD s i)=true) then none else some (dv s s.size)
theorem ge {x:ByteArray}{k:Nat}(h:i8 x=some k):1≤x.size∧(1<x.size→aD x 0≠48)∧(∀ i,i<x.size→48≤aD x i∧aD x i≤57)∧k=dv x x.size:=by
 unfold i8 at h
 by_cases c:x.size=0∨(1<x.size∧aD x 0=48)∨¬(∀ i,i<x.size→i9 (aD x i)=true)
 ·rw[if_pos c] at h;cases h
 ·rw[if_neg c] at h;injection h with h
  refine ⟨by omega,fun h1 h2=>c (.inr (.inl ⟨h1,h2⟩)),fun i hi=>?_,h.symm⟩;exact oT (Decidable.byContradiction fun h2=>c (.inr (.inr (fun h3=>h2 (h3 i hi)))))
theorem oI {x:ByteArray}:∀ n,(∀ i,i<n→48≤aD x i∧aD x i≤57)→dv x n<10^n
  | 0,_=>Nat.one_pos
  | n+1,h=>by
    have h1:=oI n (fun i hi=>h i oM);have h2:=h n oM
    show dv x n*10+(aD x n-48)<10^(n+1)
    rw[Nat.pow_succ];omega
theorem oR {x:ByteArray}{k:Nat}(h:i8 x=some k)(h3:x.size≤3):k≤999:=by
 obtain ⟨h1,_,h2,rfl⟩:=ge h;have h4:=oI x.size h2;have h5:10^x.size≤10^3:=Nat.pow_le_pow_right kD h3
 omega
def c1 (lv:Bool):Nat:=if lv then 42 else 43
def c2 (lv:Bool):Nat:=if lv then 47 else 45
def uQ (lv:Bool):Int:=if lv then 5 else 3
def o3 (lv:Bool):Int:=if lv then 6 else 4
def part (lv:Bool):PKd:=if lv then .sign else .prod
def xr (s:ByteArray)(t:Tm)(a:Nat):PR :=
  let m:Bool:=decide (aD s (sk s a)=45)
  let b:=sk s (if m then sk s a+1 else sk s a)
  let e:=rn i9 s b
  if 3<e-b then .err b else match i8 (s.extract b e) with
    | none=>.err b
    | some k=>.ok (.mk 8 (if m then -(k:Int) else k) 0 ⟨#[]⟩ [t]) e
section
variable (nf bf:ByteArray→Option Rat) (s:ByteArray)
def dl : Nat→PKd→Nat→Option PR
  | 0,_,_=>none
  | n+1,.sum,a=>kl (dl n .prod a) fun t b=>dl n (.more false t) b
  | n+1,.prod,a=>kl (dl n .sign a) fun t b=>dl n (.more true t) b
  | n+1,.more lv t,a =>
    if aD s (sk s a)=c1 lv then kl (dl n (part lv) (sk s a+1)) fun u b=>dl n (.more lv (dd (uQ lv) t u)) b
    else if aD s (sk s a)=c2 lv then kl (dl n (part lv) (sk s a+1)) fun u b=>dl n (.more lv (dd (o3 lv) t u)) b
    else some (.ok t (sk s a))
  | n+1,.sign,a=>if aD s (sk s a)=45 then kl (dl n .sign (sk s a+1)) fun t b=>some (.ok (ll 7 t) b) else dl n .pow (sk s a)
  | n+1,.pow,a=>kl (dl n .atom a) fun t b=>if aD s (sk s b)=94 then some (xr s t (sk s b+1)) else some (.ok t (sk s b))
  | n + 1,.atom,a =>
    if j4 (aD s (sk s a))=true then match nf (s.extract (sk s a) (rn j4 s (sk s a))) with
      | some q=>some (.ok (eL q) (rn j4 s (sk s a)))
      | none=>some (.err (sk s a))
    else if fN (aD s (sk s a))∨aD s (sk s a)=95 then
      if cn (s.extract (sk s a) (rn dm s (sk s a)))=true then dl n (.call (da (s.extract (sk s a) (rn dm s (sk s a))))) (rn dm s (sk s a))
      else if db (s.extract (sk s a) (rn dm s (sk s a)))=true then some (.ok (du (s.extract (sk s a) (rn dm s (sk s a)))) (rn dm s (sk s a)))
      else some (.err (sk s a))
    else if aD s (sk s a)=91 then
      if rn qy s (sk s a+1)=s.size then some (.err (sk s a)) else match bf (s.extract (sk s a+1) (rn qy s (sk s a+1))) with
      | some q=>some (.ok (eL q) (rn qy s (sk s a+1)+1))
      | none=>some (.err (sk s a))
    else if aD s (sk s a)=40 then kl (dl n .sum (sk s a+1)) fun t b=>if aD s (sk s b)=41 then some (.ok t (sk s b+1)) else some (.err (sk s b))
    else some (.err (sk s a))
  | n + 1,.call op,a =>
    if aD s (sk s a)=40 then kl (dl n .sum (sk s a+1)) fun t b =>
      if op=12∨op=13 then
        if aD s (sk s b)=44 then kl (dl n .sum (sk s b+1)) fun u c=>if aD s (sk s c)=41 then some (.ok (dd op t u) (sk s c+1)) else some (.err (sk s c))
        else some (.err (sk s b))
      else if aD s (sk s b)=41 then some (.ok (ll op t) (sk s b+1)) else some (.err (sk s b))
    else some (.err (sk s a))
variable {nf bf s}
theorem fe {x:Option PR}{f:Tm→Nat→Option PR}{t:Tm}{b:Nat}(h:kl x f=some (.ok t b)):∃ u a,x=some (.ok u a)∧f u a=some (.ok t b):=by
 match x,h with
 | some (.ok u a),h=>exact ⟨u,a,rfl,h⟩
def q9 (lv:Bool):PKd:=if lv then .prod else .sum
section
variable {n a b:Nat} {t u:Tm} {lv:Bool} {op:Int}
theorem wn {k:PKd}{r:PR}(h:dl nf bf s n k a=some r):∃ m,n=m+1:=by
 cases n with
 | zero=>cases h
 | succ m=>exact ⟨m,rfl⟩
theorem vT (h:dl nf bf s (n+1) (q9 lv) a=some (.ok t b)):∃ u c,dl nf bf s n (part lv) a=some (.ok u c)∧dl nf bf s n (.more lv u) c=some (.ok t b):=by
 cases lv<;>exact fe h
theorem qf (h:dl nf bf s (n+1) (.more lv u) a=some (.ok t b))(c:aD s (sk s a)=c1 lv):∃ v e,dl nf bf s n (part lv) (sk s a+1)=some (.ok v e)∧dl nf bf s n (.more lv (dd (uQ lv) u v)) e=some (.ok t b):=by
 unfold dl at h;rw[if_pos c] at h;exact fe h
theorem qu (h:dl nf bf s (n+1) (.more lv u) a=some (.ok t b))(d:aD s (sk s a)≠c1 lv)(c:aD s (sk s a)=c2 lv):∃ v e,dl nf bf s n (part lv) (sk s a+1)=some (.ok v e)∧dl nf bf s n (.more lv (dd (o3 lv) u v)) e=some (.ok t b):=by
 unfold dl at h;rw[if_neg d,if_pos c] at h;exact fe h
theorem qB (h:dl nf bf s (n+1) (.more lv u) a=some (.ok t b))(d:aD s (sk s a)≠c1 lv)(c:aD s (sk s a)≠c2 lv):t=u∧b=sk s a:=by
 unfold dl at h;rw[if_neg d,if_neg c] at h;injection h with h;injection h with h1 h2;exact ⟨h1.symm,h2.symm⟩
theorem xd (h:dl nf bf s (n+1) .sign a=some (.ok t b))(c:aD s (sk s a)=45):∃ v,dl nf bf s n .sign (sk s a+1)=some (.ok v b)∧t=ll 7 v:=by
 unfold dl at h;rw[if_pos c] at h
 obtain ⟨v,e,h1,h2⟩:=fe h
 injection h2 with h2;injection h2 with h2 h3;subst h3;exact ⟨v,h1,h2.symm⟩
theorem qw (h:dl nf bf s (n+1) .sign a=some (.ok t b))(c:aD s (sk s a)≠45):dl nf bf s n .pow (sk s a)=some (.ok t b):=by
 unfold dl at h;rw[if_neg c] at h;exact h
theorem vM (h:dl nf bf s (n+1) .pow a=some (.ok t b)):∃ v e,dl nf bf s n .atom a=some (.ok v e)∧(aD s (sk s e)≠94→t=v∧b=sk s e)∧(aD s (sk s e)=94→xr s v (sk s e+1)=.ok t b):=by
 unfold dl at h
 obtain ⟨v,e,h1,h2⟩:=fe h;refine ⟨v,e,h1,fun c=>?_,fun c=>?_⟩
 ·rw[if_neg c] at h2;injection h2 with h2;injection h2 with h2 h3;exact ⟨h2.symm,h3.symm⟩
 ·rw[if_pos c] at h2;injection h2
theorem vm {v:Tm}(h:xr s v a=.ok t b):∃ k,i8 (s.extract (sk s (if aD s (sk s a)=45 then sk s a+1 else sk s a)) b)=some k∧b=rn i9 s (sk s (if aD s (sk s a)=45 then sk s a+1 else sk s a))∧b-sk s (if aD s (sk s a)=45 then sk s a+1 else sk s a)≤3∧t=.mk 8 (if aD s (sk s a)=45 then -(k:Int) else k) 0 ⟨#[]⟩ [v]:=by
  have e1:∀ x y:Nat,(if decide (aD s (sk s a)=45)=true then x else y)=if aD s (sk s a)=45 then x else y:=fun x y=>by by_cases c:aD s (sk s a)=45<;>simp[c]
  have e2:∀ x y:Int,(if decide (aD s (sk s a)=45)=true then x else y)=if aD s (sk s a)=45 then x else y:=fun x y=>by by_cases c:aD s (sk s a)=45<;>simp[c]
  unfold xr at h
  dsimp only at h
  rw[e1] at h
  generalize sk s (if aD s (sk s a)=45 then sk s a+1 else sk s a)=B at h ⊢
  by_cases c:3<rn i9 s B-B
  · rw[if_pos c] at h;cases h
  · rw[if_neg c] at h
    revert h
    cases hk:i8 (s.extract B (rn i9 s B)) with
    | none=>intro h;cases h
    | some k =>
      intro h
      injection h with h1 h2
      subst h2;rw[e2] at h1
      exact ⟨k,hk,rfl,by omega,h1.symm⟩
section
variable (h:dl nf bf s (n+1) .atom a=some (.ok t b))
include h
theorem uZ (c:j4 (aD s (sk s a))=true):∃ q,nf (s.extract (sk s a) (rn j4 s (sk s a)))=some q∧t=eL q∧b=rn j4 s (sk s a):=by
 unfold dl at h;rw[if_pos c] at h
 split at h
 ·rename_i q hq;injection h with h;injection h with h1 h2;exact ⟨q,hq,h1.symm,h2.symm⟩
 ·cases h
variable (c0:j4 (aD s (sk s a))=false)
include c0
theorem Bd (c:fN (aD s (sk s a))∨aD s (sk s a)=95)(d:cn (s.extract (sk s a) (rn dm s (sk s a)))=true):dl nf bf s n (.call (da (s.extract (sk s a) (rn dm s (sk s a))))) (rn dm s (sk s a))=some (.ok t b):=by
 unfold dl at h;rw[if_neg (by rw[c0];decide),if_pos c,if_pos d] at h;exact h
theorem wU (c:fN (aD s (sk s a))∨aD s (sk s a)=95)(d:cn (s.extract (sk s a) (rn dm s (sk s a)))=false):db (s.extract (sk s a) (rn dm s (sk s a)))=true∧t=du (s.extract (sk s a) (rn dm s (sk s a)))∧b=rn dm s (sk s a):=by
 unfold dl at h;rw[if_neg (by rw[c0];decide),if_pos c,if_neg (by rw[d];decide)] at h
 split at h
 ·rename_i e;injection h with h;injection h with h1 h2;exact ⟨e,h1.symm,h2.symm⟩
 ·cases h
variable (cL:¬(fN (aD s (sk s a))∨aD s (sk s a)=95))
include cL
theorem Cg (c:aD s (sk s a)=91):rn qy s (sk s a+1)≠s.size∧∃ q,bf (s.extract (sk s a+1) (rn qy s (sk s a+1)))=some q∧t=eL q∧b=rn qy s (sk s a+1)+1:=by
 unfold dl at h;rw[if_neg (by rw[c0];decide),if_neg cL,if_pos c] at h
 split at h
 ·cases h
 ·rename_i d
  split at h
  ·rename_i q hq;injection h with h;injection h with h1 h2;exact ⟨d,q,hq,h1.symm,h2.symm⟩
  ·cases h
variable (c9:aD s (sk s a)≠91)
include c9
theorem wI (c:aD s (sk s a)=40):∃ e,dl nf bf s n .sum (sk s a+1)=some (.ok t e)∧aD s (sk s e)=41∧b=sk s e+1:=by
 unfold dl at h;rw[if_neg (by rw[c0];decide),if_neg cL,if_neg c9,if_pos c] at h
 obtain ⟨v,e,h1,h2⟩:=fe h
 split at h2
 ·rename_i d;injection h2 with h2;injection h2 with h2 h3;subst h2;exact ⟨e,h1,d,h3.symm⟩
 ·cases h2
theorem Bk (c:aD s (sk s a)≠40):False:=by
 unfold dl at h;rw[if_neg (by rw[c0];decide),if_neg cL,if_neg c9,if_neg c] at h;cases h
end
theorem sU (h:dl nf bf s (n+1) (.call op) a=some (.ok t b)):aD s (sk s a)=40∧∃ u e,dl nf bf s n .sum (sk s a+1)=some (.ok u e)∧((op=12∨op=13)→aD s (sk s e)=44∧∃ v f,dl nf bf s n .sum (sk s e+1)=some (.ok v f)∧aD s (sk s f)=41∧t=dd op u v∧b=sk s f+1)∧(¬(op=12∨op=13)→aD s (sk s e)=41∧t=ll op u∧b=sk s e+1):=by
  unfold dl at h
  split at h
  · rename_i c
    obtain ⟨u,e,h1,h2⟩:=fe h;refine ⟨c,u,e,h1,fun ho=>?_,fun ho=>?_⟩
    · rw[if_pos ho] at h2
      split at h2
      · rename_i d
        obtain ⟨v,f,h3,h4⟩:=fe h2
        split at h4
        · rename_i g;injection h4 with h4;injection h4 with h4 h5;exact ⟨d,v,f,h3,g,h4.symm,h5.symm⟩
        · cases h4
      · cases h2
    · rw[if_neg ho] at h2
      split at h2
      · rename_i d;injection h2 with h2;injection h2 with h2 h3;exact ⟨d,h2.symm,h3.symm⟩
      · cases h2
  · cases h
end
end
def PtH (h:Hp)(p:PTm)(t:Tm):Prop:=∃ d,TmH d h p t
theorem PtH.gw {h h':Hp}{p:PTm}{t:Tm}(x:PtH h p t)(u:Gw h h'):PtH h' p t:=by obtain ⟨d,x⟩:=x;exact ⟨d,x.gw u⟩
theorem PtH.one {h:Hp}{op n:Int}{p:PTm}{t:Tm}{b:Nat}(x:PtH h p t)(hA:SlO 9 cj aE h (some ⟨b,0,none⟩) [p]):PtH h ⟨op,n,0,⟨#[]⟩,some ⟨b,0,none⟩,1,1⟩ (.mk op n 0 ⟨#[]⟩ [t]):=by
 obtain ⟨d,x⟩:=x
 exact ⟨d+1,TmH.mk (ps:=[p]) (ks:=[t]) ⟨rfl,fun i hi=>by
  have:i=0:=by have:i<1:=hi;omega
  subst this;exact x⟩ (Nat.le_refl _) hA⟩
theorem PtH.two {h:Hp}{op:Int}{p q:PTm}{t u:Tm}{b:Nat}(x:PtH h p t)(y:PtH h q u)(hA:SlO 9 cj aE h (some ⟨b,0,none⟩) [p,q]):PtH h ⟨op,0,0,⟨#[]⟩,some ⟨b,0,none⟩,2,2⟩ (dd op t u):=by
 obtain ⟨d,x⟩:=x;obtain ⟨e,y⟩:=y
 exact ⟨max d e+1,TmH.mk (ps:=[p,q]) (ks:=[t,u]) ⟨rfl,fun i hi=>by
  have:i=0∨i=1:=by have:i<2:=hi;omega
  rcases this with rfl|rfl
  ·exact x.mono (Nat.le_max_left _ _)
  ·exact y.mono (Nat.le_max_right _ _)⟩ (Nat.le_refl _) hA⟩
theorem PtH.num {h:Hp}{q:Rat}:PtH h ⟨1,0,q,⟨#[]⟩,none,0,0⟩ (eL q):=⟨1,TmH.mk (ps:=[]) (ks:=[]) Tms.nil (Nat.le_refl _) SlO.nil⟩
theorem PtH.nam {h:Hp}{s:ByteArray}:PtH h ⟨2,0,0,s,none,0,0⟩ (du s):=⟨1,TmH.mk (ps:=[]) (ks:=[]) Tms.nil (Nat.le_refl _) SlO.nil⟩
section ops
variable {P:Program} {Γ:bG} {o:Oper}
theorem sI {tx:TypeId}{x i e:Operand}{k k2:IntKind}{s:ByteArray}{n m:Nat}{j j2:Int}(ho:o.op=.slice tx x (some i) (some e) none)(hx:ev Γ x=.string s)(hi:ev Γ i=.int k j)(he:ev Γ e=.int k2 j2)(hu:P.underlying tx=some .string)(hj:j=(n:Int))(hj2:j2=(m:Int))(hn:n≤m)(hm:m≤s.size)(w:World) :
  (execOp (ev Γ) o).run P w=.ok (.value (.string (s.extract n m))) w:=by
 unfold execOp;simp only[ho]
 subst hj;subst hj2;have h0:(m:Int)≤(s.size:Int):=by omega
 simp[Instr.sliceAt,hx,hi,he,Instr.slice,run_underlying hu,Instr.sliceBounds,Instr.sliceBound,asIntOf,Result.andThen,h0,hn,hm]
end ops
structure Whole (lo:Nat) (h:Hp) (b:Nat) (ty:TypeId) (vs:List Value):Prop where
  lo:lo≤b
  ty0:(ty == 0)=false
  at_:h[b]?=some (.cells vs.toArray ty (0,0))
section ss
variable {w0:World} {h0:Hp} {w:World} {h:Hp} {B:List Bx} {R:List Rw} {F:List (Hp→Prop)}
end ss
structure Poked (h h':Hp) (b:Nat):Prop where
  oth:∀ c,c≠b→c<h.size→h'[c]?=h[c]?
section ss
variable {w0:World} {h0:Hp} {w:World} {h:Hp} {B:List Bx} {R:List Rw} {F:List (Hp→Prop)}
end ss
section laws
variable {M:Ms} {P:Program} {n:Nat} {N R:Po} {X:Nat→Po} {ops:Array Oper} {k k0:Nat} {hr:Hp} {AL:List Al} {L:Array Bool} {Γ:bG} {w:World} {h:Hp} {w0:World} {h0:Hp} {B:List Bx} {Rs:List Rw} {F:List (Hp→Prop)}
theorem tC (i t:Nat){f:FuncId}{args:Array Value}(c:Calls P f args w fun e w'=>∃ v,e=.returned v∧Tl M w w'∧AG M P n N R X ops k0 (L.setIfInBounds i true) ((t,v)::Γ) w')(hc:(ft ops k0 L i && aY Γ (ao ops i) && ((ao ops i).dst == some t) && decide (t<n))=true:=by kernel_rfl)(hw:aZ ops Γ (ao ops i)=some true:=by kernel_rfl)
  (hr:(execOp (ev Γ) (ao ops i)).run P w=.ok (.enter f args) w:=by kernel_rfl):AG M P n N R X ops k0 L Γ w:=by
 simp only[Bool.and_eq_true,decide_eq_true_eq,beq_iff_eq] at hc
 obtain ⟨⟨⟨h1,h2⟩,h3⟩,h4⟩:=hc;obtain ⟨hg,hs⟩:=ip h1;intro a ka;refine A.one h1 hg (R':=fun v w'=>Tl M w w'∧AG M P n N R X ops k0 (L.setIfInBounds i true) ((t,v)::Γ) w') ⟨ka.want hw,.inr (.inr ⟨f,args,?_,c⟩)⟩ (fun v w' hq=>hq.1) (fun v w' hq=>?_)
 ·rw[ka.exec (Region.noSelect_spec hs i _ · · hg) h2];exact hr
 ·rw[h3];exact hq.2 _ (ka.put h4 v)
theorem uS (t:Nat)(ty:TypeId)(vs:List Value)(s:SS w0 h0 w h B Rs F)(H:∀ b w' h',Up w h w' h'→h.size≤b→SS w0 h0 w' h' (⟨b,ty,vs⟩::B) Rs F→LG P n N R X ops (k+1) ((t,.pointer (some ⟨b,0,none⟩))::Γ) w')(hc:cL ops Γ k t n=true:=by kernel_rfl)
  (hr:(execOp (ev Γ) (ao ops k)).run P w=.ok (.value (.pointer (some ⟨w.heap.size,0,none⟩))) (w.alloc (.cells vs.toArray ty (0,0))):=by kernel_rfl):LG P n N R X ops k Γ w :=
 LG.var t ty vs s.st (bC hc).1 (bC hc).2 hr (fun b w' h' hb u s'=>H b w' h' u hb (s.new u hb s'))
theorem UpM.put2 {M2:List Nat}{wa w':World}{ha:Hp}{b:Nat}(u:UpM M2 wa ha w h)(p:Put b w w')(hb:ha.size≤b)(ga:G wa ha)(g:G w' h):UpM M2 wa ha w' h :=
 ⟨⟨p.os.trans u.mo.os,p.tape.trans u.mo.tape,p.output.trans u.mo.output,by rw[p.size];exact u.mo.size,fun c hc hm=>(p.blk c (fun e=>by subst e;have:=ga.size;omega)).trans (u.mo.blk c hc hm)⟩,u.gr,g⟩
end laws
section
variable {M:Ms} {P:Program} {n:Nat} {N R:Po} {X:Nat→Po} {ops:Array Oper} {k0:Nat} {hr:Hp} {AL:List Al} {L:Array Bool} {Γ:bG} {w:World} {h:Hp} {w0:World} {h0:Hp} {B:List Bx} {Rs:List Rw} {F:List (Hp→Prop)} {M2:List Nat} {wa:World} {ha:Hp}
theorem SS.pubM (s:SS w0 h0 w h B Rs F)(u:UpM M2 wa ha w h)(j:Nat)(hlo:ha.size≤(av B j).b)(hj:decide (j<B.length)=true:=by kernel_rfl):∃ h',SS w0 h0 w h' (B.eraseIdx j) Rs F∧UpM M2 wa ha w h'∧Seg h' (av B j).b 0 (av B j).vs:=by
 have hj':=oT hj;obtain ⟨h',s',gw,sg,hc,oth⟩:=s.st.pubX j hj';have hm:=a8 hj';refine ⟨h',⟨s.g0,s',fun r hr=>((s.ro r hr).out (List.mem_map.2 ⟨_,hm,rfl⟩) oth).sub _ (fun b hb=>?_),s.ap,s.mo,s.f.gw s.mo gw⟩,⟨u.mo,⟨Nat.le_trans u.gr.size gw.size,fun b hb=>?_⟩,s'.up.g⟩,sg⟩
 ·obtain ⟨x,hx,e⟩:=List.mem_map.1 hb
  exact List.mem_map.2 ⟨x,List.mem_of_mem_eraseIdx hx,e⟩
 ·exact (oth b (fun e=>by subst e;omega)).trans (u.gr.blk b hb)
theorem CJ (i t:Nat){f:FuncId}{args:Array Value}{Φ:World→Hp→Value→Hp→Prop}(s:SS w0 h0 w h B Rs F)(m:UpM M2 wa ha w h)(c:∀ w1 h1,SS w0 h0 w1 h1 B Rs F→Calls P f args w1 (Ret w1 h1 (Φ w1 h1)))(H:∀ w1 h1 v w' h',UpM M2 wa ha w' h'→SS w0 h0 w' h' B Rs F→Φ w1 h1 v h'→EG M P n N R X ops k0 hr AL (L.setIfInBounds i true) ((t,v)::Γ) w' h')(hc:uP n ops k0 AL L Γ i t=true:=by kernel_rfl)(hv:∀ w,(execOp (ev Γ) (ao ops i)).run P w=.ok (.enter f args) w:=by intro _;kernel_rfl):EG M P n N R X ops k0 hr AL L Γ w h :=
 Rg.call i t f args (gu hc).1 (gu hc).2 hv (fun w1 h1 u=>(c w1 h1 (s.step u)).mono fun e w' ⟨v,h',he,u2,hΦ⟩=>⟨v,h',he,u2.m M.l,H w1 h1 v w' h' (m.trans ((u.m _).trans (u2.m _))) ((s.step u).step u2) hΦ⟩)
theorem C1 {F1:List (Hp→Prop)}{wr:World}{x:Al}(pre:List Bx)(sr:SS w0 h0 wr hr B Rs F1)(s:SS w0 h0 w h (pre++B) Rs F)(m:UpM M2 wa ha w h)(hs:ha.size≤hr.size)(t:TypeId)(vs:List Value)(H:∀ w' h' b,UpM M2 wa ha w' h'→ha.size≤b→SS w0 h0 w' h' (⟨b,t,vs⟩::(pre++B)) Rs F→AG M P n N R X ops k0 (L.setIfInBounds x.i true) ((x.t,.pointer (some ⟨b,0,none⟩))::Γ) w')(hc:(eE ops [x] L && decide (x.t<n))=true:=by kernel_rfl)(ho:x.o=.cells vs.toArray t (0,0):=by kernel_rfl)(hp:pre.all (fun y=>y.t != t)=true:=by kernel_rfl):EG M P n N R X ops k0 hr [x] L Γ w h :=
 Rg.fin1 hc (fun w' h' b u k=>H w' h' b (m.trans (u.m _)) (Nat.le_trans hs k.2.2) (SS.blkp pre sr (s.step u) k t vs ho hp))
theorem EF (i j o:Nat)(cs:List Value)(s:SS w0 h0 w h B Rs F)(H:∀ w',Put (av B j).b w w'→SS w0 h0 w' h (fh B j o cs) Rs F→AG M P n N R X ops k0 (L.setIfInBounds i true) Γ w')(hc:CK ops k0 L Γ i=true:=by kernel_rfl)
  (hj:(decide (j<B.length) && decide (o+cs.length≤(av B j).vs.length))=true:=by kernel_rfl)(he:cW P (execOp (ev Γ) (ao ops i))=some (.skip,ke (av B j).b o cs):=by kernel_rfl)(hz:∀ K bs,M.z=some (K,bs)→K≤(av B j).b∨(av B j).b∈bs:=by intro _ _ e;cases e):AG M P n N R X ops k0 L Γ w :=
 T.put i j o cs s.st s.g0 (i4 hc).1 (i4 hc).2 hj he (fun w' p s'=>H w' p (s.put0 (oT (Bool.and_eq_true _ _▸hj).1) p s' (jR (oT (Bool.and_eq_true _ _▸hj).1)))) hz
end
theorem jN (c:Nat)(hc:c<256)(w:World)(h:Hp)(g:G w h):CV 121 #[.int .u8 (c:Nat)] w h (.bool (decide (fN (c)))):=by
 have hs:=sS g;refine go Tryz.func121 [(0,.int .u8 (c:Nat))] rfl (ab hs [.v 2 qF] (aJ (lL hs [.m 3 0] ?_)));cases hb1:(decide ((97:Int)≤(c:Int)))
 ·
  have phb1:=oF hb1;refine lB 4 hb1 (lL hs [.m 5 4] (lG 6 ?_));refine lG 7 (lL hs [.v 8 qF,.m 9 8,.m 10 0] ?_);cases hb2:(decide ((65:Int)≤(c:Int)))
  ·
   have phb2:=oF hb2;refine lB 11 hb2 (lL hs [.m 12 11] (lG 13 ?_));exact lG 14 (lL hs [.v 15 qF,.v 16 qF,.m 2 16] (ac hs [] qF (congrArg Value.bool (decide_eq_false (by unfold fN;omega)).symm)))
  have phb2:=oT hb2;refine lB 11 hb2 (lL hs [.m 12 11,.m 13 0] ?_);cases hb3:(decide ((c:Int)≤(90:Int)))
  ·
   have phb3:=oF hb3;exact lB 14 hb3 (lL hs [.v 15 qF,.v 16 qF,.m 2 16] (ac hs [] qF (congrArg Value.bool (decide_eq_false (by unfold fN;omega)).symm)))
  have phb3:=oT hb3;exact lB 14 hb3 (lL hs [.v 15 qT,.v 16 qT,.m 2 16] (ac hs [] qT (congrArg Value.bool (decide_eq_true (by unfold fN;omega)).symm)))
 have phb1:=oT hb1;refine lB 4 hb1 (lL hs [.m 5 4,.m 6 0] ?_);cases hb4:(decide ((c:Int)≤(122:Int)))
 ·
  have phb4:=oF hb4;refine lB 7 hb4 (lL hs [.v 8 qF,.m 9 8,.m 10 0] ?_);have ⟨hb5,phb5⟩:=dT (p:=(65:Int)≤(c:Int)) oM;refine lB 11 hb5 (lL hs [.m 12 11,.m 13 0] ?_);have ⟨hb6,phb6⟩:=dF (p:=(c:Int)≤(90:Int)) oM;exact lB 14 hb6 (lL hs [.v 15 qF,.v 16 qF,.m 2 16] (ac hs [] qF (congrArg Value.bool (decide_eq_false (by unfold fN;omega)).symm)))
 have phb4:=oT hb4;refine lB 7 hb4 (lL hs [.v 8 qT,.m 9 8] (lG 10 ?_));exact lG 11 (lG 12 (lG 13 (lG 14 (lG 15 (lL hs [.v 16 qT,.m 2 16] (ac hs [] qT (congrArg Value.bool (decide_eq_true (by unfold fN;omega)).symm)))))))
theorem ik (c:Nat)(hc:c<256)(w:World)(h:Hp)(g:G w h):CV 157 #[.int .u8 (c:Nat)] w h (.bool (decide (48≤(c)∧(c)≤57))):=by
 have hs:=sS g;refine go Tryz.func157 [(0,.int .u8 (c:Nat))] rfl (ab hs [.v 2 qF] (aJ (lL hs [.m 3 0] ?_)));cases hb1:(decide ((48:Int)≤(c:Int)))
 ·
  have phb1:=oF hb1;refine lB 4 hb1 (lL hs [.m 5 4] (lG 6 ?_));exact lG 7 (lL hs [.v 8 qF,.m 2 8] (ac hs [] qF (congrArg Value.bool (decide_eq_false oM).symm)))
 have phb1:=oT hb1;refine lB 4 hb1 (lL hs [.m 5 4,.m 6 0] ?_);cases hb2:(decide ((c:Int)≤(57:Int)))
 ·
  have phb2:=oF hb2;exact lB 7 hb2 (lL hs [.v 8 qF,.m 2 8] (ac hs [] qF (congrArg Value.bool (decide_eq_false oM).symm)))
 have phb2:=oT hb2;exact lB 7 hb2 (lL hs [.v 8 qT,.m 2 8] (ac hs [] qT (congrArg Value.bool (decide_eq_true oM).symm)))
theorem ng (c:Nat)(hc:c<256)(w:World)(h:Hp)(g:G w h):CV 122 #[.int .u8 (c:Nat)] w h (.bool (decide (mc (c)))):=by
 have hs:=sS g;refine go Tryz.func122 [(0,.int .u8 (c:Nat))] rfl (ab hs [.v 2 qF] (aJ (lL hs [.m 3 0] (ah 4 hs (jN c hc _ _ hs.g) (fun w1 h2 hs=>?_)))));cases hb3:(decide (fN (c)))
 ·
  have phb3:=oF hb3;refine lL hs [.m 5 4,.m 6 0] (ah 7 hs (ik c hc _ _ hs.g) (fun w4 h5 hs=>?_));cases hb6:(decide (48≤(c)∧(c)≤57))
  ·
   have phb6:=oF hb6;refine lL hs [.v 8 qF,.m 9 8,.m 10 0] ?_;cases hb7:((c:Int) == (95:Int))
   ·
    have phb7:=ag hb7;exact lB 11 hb7 (lL hs [.v 12 qF,.m 2 12] (ac hs [] qF (congrArg Value.bool (decide_eq_false (by unfold fN at *;unfold mc;omega)).symm)))
   have phb7:=eq_of_beq hb7;exact lB 11 hb7 (lL hs [.v 12 qT,.m 2 12] (ac hs [] qT (congrArg Value.bool (decide_eq_true (by unfold fN at *;unfold mc;omega)).symm)))
  have phb6:=oT hb6;refine lL hs [.v 8 qT,.m 9 8] (lG 10 ?_);exact lG 11 (lL hs [.v 12 qT,.m 2 12] (ac hs [] qT (congrArg Value.bool (decide_eq_true (by unfold fN at *;unfold mc;omega)).symm)))
 have phb3:=oT hb3;refine lL hs [.m 5 4] (lG 6 ?_);refine lG 7 (lL hs [.v 8 qT,.m 9 8] (lG 10 ?_));exact lG 11 (lL hs [.v 12 qT,.m 2 12] (ac hs [] qT (congrArg Value.bool (decide_eq_true (by unfold fN at *;unfold mc;omega)).symm)))
theorem oZ  (w:World)(h:Hp)(g:G w h):CR 123 #[] w h (fun v h1=>∃ b,v=.map (some b)∧MapS h1 b gJ):=by
 have hs:=sS g;refine go Tryz.func123 [] rfl (ab hs [.v 0 (.map none)] (aJ (FF 1 hs (fun b1 w2 h3 hs hmp4=>C7 180 9 3 (⟨#[97,98,115]⟩) (iV 9) hs hmp4 (fun w5 hs hmp6=>C7 180 9 3 (⟨#[114,97,109,112]⟩) (iV 10) hs hmp6 (fun w7 hs hmp8=>C7 180 9 3 (⟨#[98,101,110,100]⟩) (iV 11) hs hmp8 (fun w9 hs hmp10=>C7 180 9 3 (⟨#[109,97,120]⟩) (iV 12) hs hmp10 (fun _ hs hmp12=>C7 180 9 3 (⟨#[109,105,110]⟩) (iV 13) hs hmp12 (fun _ hs hmp14=>lL hs [.m 2 1] ?_)))))))));obtain ⟨_,hs,sg16⟩:=hs.pubMap hmp14;replace hs:=hs.to [] [];replace hs:=hs.add (K:=fun h_=>MapS h_ b1 [⟨.string (⟨#[97,98,115]⟩),iV 9,0⟩,⟨.string (⟨#[114,97,109,112]⟩),iV 10,1⟩,⟨.string (⟨#[98,101,110,100]⟩),iV 11,2⟩,⟨.string (⟨#[109,97,120]⟩),iV 12,3⟩,⟨.string (⟨#[109,105,110]⟩),iV 13,4⟩]) sg16;exact lL hs [.m 0 2] (ac hs [] (.map (some b1)) (⟨_,rfl,hs.f.1⟩))
theorem AO (s:ByteArray)(hs:s.size≤1000000)(w:World)(h:Hp)(g:G w h):CV 74 #[.string s] w h (.bool (db s)):=by
 have hs:=sS g;refine go Tryz.func74 [(0,.string s)] rfl (ab hs [.v 2 qF] (ae (ab hs [.m 6 0,.v 7 (nV s.size)] ?_)));cases hb1:(decide ((s.size:Int)<(1:Int)))
 ·
  have phb1:=oF hb1;refine lB 8 hb1 (lL hs [.m 9 8,.m 10 0,.v 11 (nV s.size)] ?_);cases hb2:(decide ((20:Int)<(s.size:Int)))
  ·
   have phb2:=oF hb2;refine lB 12 hb2 (lL hs [.v 13 qF,.m 14 13,.m 15 0] (lV 16 (.int .u8 (aD s 0:Nat)) ?_ (hr:=bT (tx:=9) (x:=.tmp 15) (i:=.const (iV 0)) (k:=.i64) (s:=s) (n:=0) (j:=(0:Int)) kR kR kR kR oM oM _)));refine ah 17 hs (jN ((aD s 0)) (bS _ _) _ _ hs.g) (fun w3 h4 hs=>?_);cases hb5:(decide (fN ((aD s 0))))
   ·
    have phb5:=oF hb5;exact lL hs [.v 18 qT,.v 19 qT] (am (ab hs [.v 2 qF] (ac hs [] qF (kM (fun h_=>by have h1_:=h_.1;have h2_:=h_.2.1;first|omega|exact absurd h_.2.2 aM)))))
   have phb5:=oT hb5;refine lL hs [.v 18 qF,.v 19 qF] (af (cK (cQ (ab hs [.m 20 0,.v 21 (nV s.size),.v 22 (iV 0)] (bc ?_)))));refine bJ _ (CG.loop (fun μ_ Γ w_=>∃ (k:Nat) (h_:Hp),μ_=s.size-k∧Γ=[(0,.string s),(21,nV s.size),(22,nV k)]∧SS w h w_ h_ [] [] []∧k≤s.size∧(∀ i,i<k→mc (aD s i))) _ ⟨0,h4,rfl,rfl,hs.to _ _,Nat.zero_le _,(fun i hi=>absurd hi (Nat.not_lt_zero i))⟩ ?_);rintro _ _ w6 ⟨k,h7,hm8,rfl,hs,hk,hin⟩;refine aA ?_;cases hb9:(decide ((k:Int)<(s.size:Int)))
   ·
    have phb9:=oF hb9;refine lB 23 hb9 (ae (cF (CG.exit ?_)))
    show CG _ _ _ _ _ _ _ _
    refine aA (lC 32 hs (oZ _ _ hs.g) ?_);rintro _ _ _ hs ⟨bm,rfl,hcm⟩;replace hs:=(hs.add (K:=fun h_=>MapS h_ bm gJ) hcm);refine lL hs [.m 33 0] (Ff 34 180 9 3 (s) true (iV (da s)) ((cn s)) hs hs.f.1 ?_ (hf:=(by rcases pF s with ⟨i_,e1_,e2_⟩|⟨e1_,e2_,e3_⟩;exact .inl ⟨i_,e1_,e2_⟩;exact .inr ⟨e1_,e2_,fun _=>by rw[e3_];kernel_rfl⟩)));refine lL hs [.m 31 34,.v 35 (iV (da s)),.v 36 (.bool (cn s)),.m 4 35,.m 5 36] (aJ (lL hs [.m 37 5] ?_));cases za:(!(cn s))
    ·
     refine lB 38 za (lL hs [.m 2 38] (lN (kX ?_)));have hq_:=vA (s:=s) ⟨by omega,by omega⟩ aM (fun i hi=>hin i oM);exact hs.ret [] qF (congrArg Value.bool (by rw[hq_];exact (by assumption:(!cn s)=false).symm))
    refine lB 38 za (lL hs [.m 2 38] (lN (kX ?_)));have hq_:=vA (s:=s) ⟨by omega,by omega⟩ aM (fun i hi=>hin i oM);exact hs.ret [] qT (congrArg Value.bool (by rw[hq_];exact (by assumption:(!cn s)=true).symm))
   have phb9:=oT hb9;refine lB 23 hb9 (ae (cf (cK (cQ (kZ (ab hs [.m 24 22,.m 3 24] (aJ (lL hs [.m 25 0,.m 26 3] (lV 27 (.int .u8 (aD s k:Nat)) ?_ (hr:=bT (tx:=9) (x:=.tmp 25) (i:=.tmp 26) (k:=.i64) (s:=s) (n:=k) (j:=(k:Int)) kR kR kR kR oM oM _))))))))));refine ah 28 hs (ng ((aD s k)) (bS _ _) _ _ hs.g) (fun _ zd hs=>?_);cases zb:(decide (mc ((aD s k))))
   ·
    have zc:=oF zb;exact lL hs [.v 29 qT] (am (ab hs [.v 2 qF] (ac hs [] qF (xW (i:=k) oM aM))))
   have zc:=oT zb;refine lL hs [.v 29 qF] (af (cK (kQ (bu 30 ((k:Nat)+1) (k+1) ?_))));refine lL hs [.m 22 30] (lD ?_);intro a_ ka;refine ⟨_,_,?_,⟨k+1,zd,rfl,rfl,hs.to _ _,oM,(fun i hi=>by rcases Nat.lt_succ_iff_lt_or_eq.1 hi with h_|rfl;exact hin i h_;assumption)⟩,ka.to _ kR⟩
   omega
  have phb2:=oT hb2;refine lB 12 hb2 (lL hs [.v 13 qT,.m 14 13] (lG 15 ?_));exact lG 16 (lG 17 (lG 18 (lL hs [.v 19 qT] (am (ab hs [.v 2 qF] (ac hs [] qF (kM (fun h_=>by have h1_:=h_.1;have h2_:=h_.2.1;first|omega|exact absurd h_.2.2 aM))))))))
 have phb1:=oT hb1;refine lB 8 hb1 (lL hs [.m 9 8] (lG 10 ?_));refine lG 11 (lG 12 (lL hs [.v 13 qT,.m 14 13] (lG 15 ?_)));exact lG 16 (lG 17 (lG 18 (lL hs [.v 19 qT] (am (ab hs [.v 2 qF] (ac hs [] qF (kM (fun h_=>by have h1_:=h_.1;have h2_:=h_.2.1;first|omega|exact absurd h_.2.2 aM))))))))
theorem nr (c:Nat)(hc:c<256)(w:World)(h:Hp)(g:G w h):CV 130 #[.int .u8 (c:Nat)] w h (.bool (decide (fN (c)))):=by
 have hs:=sS g;refine go Tryz.func130 [(0,.int .u8 (c:Nat))] rfl (ab hs [.v 2 qF] (aJ (lL hs [.m 3 0] ?_)));cases hb1:(decide ((97:Int)≤(c:Int)))
 ·
  have phb1:=oF hb1;refine lB 4 hb1 (lL hs [.m 5 4] (lG 6 ?_));refine lG 7 (lL hs [.v 8 qF,.m 9 8,.m 10 0] ?_);cases hb2:(decide ((65:Int)≤(c:Int)))
  ·
   have phb2:=oF hb2;refine lB 11 hb2 (lL hs [.m 12 11] (lG 13 ?_));exact lG 14 (lL hs [.v 15 qF,.v 16 qF,.m 2 16] (ac hs [] qF (congrArg Value.bool (decide_eq_false (by unfold fN;omega)).symm)))
  have phb2:=oT hb2;refine lB 11 hb2 (lL hs [.m 12 11,.m 13 0] ?_);cases hb3:(decide ((c:Int)≤(90:Int)))
  ·
   have phb3:=oF hb3;exact lB 14 hb3 (lL hs [.v 15 qF,.v 16 qF,.m 2 16] (ac hs [] qF (congrArg Value.bool (decide_eq_false (by unfold fN;omega)).symm)))
  have phb3:=oT hb3;exact lB 14 hb3 (lL hs [.v 15 qT,.v 16 qT,.m 2 16] (ac hs [] qT (congrArg Value.bool (decide_eq_true (by unfold fN;omega)).symm)))
 have phb1:=oT hb1;refine lB 4 hb1 (lL hs [.m 5 4,.m 6 0] ?_);cases hb4:(decide ((c:Int)≤(122:Int)))
 ·
  have phb4:=oF hb4;refine lB 7 hb4 (lL hs [.v 8 qF,.m 9 8,.m 10 0] ?_);have ⟨hb5,phb5⟩:=dT (p:=(65:Int)≤(c:Int)) oM;refine lB 11 hb5 (lL hs [.m 12 11,.m 13 0] ?_);have ⟨hb6,phb6⟩:=dF (p:=(c:Int)≤(90:Int)) oM;exact lB 14 hb6 (lL hs [.v 15 qF,.v 16 qF,.m 2 16] (ac hs [] qF (congrArg Value.bool (decide_eq_false (by unfold fN;omega)).symm)))
 have phb4:=oT hb4;refine lB 7 hb4 (lL hs [.v 8 qT,.m 9 8] (lG 10 ?_));exact lG 11 (lG 12 (lG 13 (lG 14 (lG 15 (lL hs [.v 16 qT,.m 2 16] (ac hs [] qT (congrArg Value.bool (decide_eq_true (by unfold fN;omega)).symm)))))))
theorem vb (c:Nat)(hc:c<256)(w:World)(h:Hp)(g:G w h):CV 131 #[.int .u8 (c:Nat)] w h (.bool (decide (48≤(c)∧(c)≤57))):=by
 have hs:=sS g;refine go Tryz.func131 [(0,.int .u8 (c:Nat))] rfl (ab hs [.v 2 qF] (aJ (lL hs [.m 3 0] ?_)));cases hb1:(decide ((48:Int)≤(c:Int)))
 ·
  have phb1:=oF hb1;refine lB 4 hb1 (lL hs [.m 5 4] (lG 6 ?_));exact lG 7 (lL hs [.v 8 qF,.m 2 8] (ac hs [] qF (congrArg Value.bool (decide_eq_false oM).symm)))
 have phb1:=oT hb1;refine lB 4 hb1 (lL hs [.m 5 4,.m 6 0] ?_);cases hb2:(decide ((c:Int)≤(57:Int)))
 ·
  have phb2:=oF hb2;exact lB 7 hb2 (lL hs [.v 8 qF,.m 2 8] (ac hs [] qF (congrArg Value.bool (decide_eq_false oM).symm)))
 have phb2:=oT hb2;exact lB 7 hb2 (lL hs [.v 8 qT,.m 2 8] (ac hs [] qT (congrArg Value.bool (decide_eq_true oM).symm)))
theorem AD (s:ByteArray)(w:World)(h:Hp)(g:G w h):CV 132 #[.string s] w h (.tuple #[iV (da s),iV (sx s)]):=by
 have hs:=sS g;refine go Tryz.func132 [(0,.string s)] rfl (ab hs [.v 2 (iV 0),.v 3 (iV 0)] (ae (ab hs [.m 4 0] (bc (aA ?_)))));cases hb1:(iI s (⟨#[97,98,115]⟩))
 ·
  have phb1:=fA hb1;refine lB 6 hb1 (lL hs [.m 5 6] (af (aA ?_)));cases hb2:(iI s (⟨#[114,97,109,112]⟩))
  ·
   have phb2:=fA hb2;refine lB 8 hb2 (lL hs [.m 7 8] (af (aA ?_)));cases hb3:(iI s (⟨#[98,101,110,100]⟩))
   ·
    have phb3:=fA hb3;refine lB 10 hb3 (lL hs [.m 9 10] (af (aA ?_)));cases hb4:(iI s (⟨#[109,97,120]⟩))
    ·
     have phb4:=fA hb4;refine lB 12 hb4 (lL hs [.m 11 12] (af (aA ?_)));cases hb5:(iI s (⟨#[109,105,110]⟩))
     ·
      have phb5:=fA hb5;refine lB 14 hb5 (lL hs [.m 13 14] (af (cK (ab hs [.v 2 (iV 0),.v 3 (iV 0)] (lN (kX ?_))))));have hc_:da s=0:=by unfold da;rw[if_neg (by assumption:¬s=⟨#[97,98,115]⟩),if_neg (by assumption:¬s=⟨#[114,97,109,112]⟩),if_neg (by assumption:¬s=⟨#[98,101,110,100]⟩),if_neg (by assumption:¬s=⟨#[109,97,120]⟩),if_neg (by assumption:¬s=⟨#[109,105,110]⟩)]
      exact hs.ret [] (.tuple #[iV 0,iV 0]) (by unfold sx;rw[hc_];rfl)
     have phb5:=fD hb5;exact lB 14 hb5 (lL hs [.m 13 14] (am (ab hs [.v 2 (iV 13),.v 3 (iV 2)] (ac hs [] (.tuple #[iV 13,iV 2]) (by rw[(by assumption:s=⟨#[109,105,110]⟩)];rfl)))))
    have phb4:=fD hb4;exact lB 12 hb4 (lL hs [.m 11 12] (am (ab hs [.v 2 (iV 12),.v 3 (iV 2)] (ac hs [] (.tuple #[iV 12,iV 2]) (by rw[(by assumption:s=⟨#[109,97,120]⟩)];rfl)))))
   have phb3:=fD hb3;exact lB 10 hb3 (lL hs [.m 9 10] (am (ab hs [.v 2 (iV 11),.v 3 (iV 1)] (ac hs [] (.tuple #[iV 11,iV 1]) (by rw[(by assumption:s=⟨#[98,101,110,100]⟩)];rfl)))))
  have phb2:=fD hb2;exact lB 8 hb2 (lL hs [.m 7 8] (am (ab hs [.v 2 (iV 10),.v 3 (iV 1)] (ac hs [] (.tuple #[iV 10,iV 1]) (by rw[(by assumption:s=⟨#[114,97,109,112]⟩)];rfl)))))
 have phb1:=fD hb1;exact lB 6 hb1 (lL hs [.m 5 6] (am (ab hs [.v 2 (iV 9),.v 3 (iV 1)] (ac hs [] (.tuple #[iV 9,iV 1]) (by rw[(by assumption:s=⟨#[97,98,115]⟩)];rfl)))))
theorem Es (s:ByteArray)(hs:s.size≤1000000)(w:World)(h:Hp)(g:G w h):CV 82 #[.string s] w h (.bool (db s)):=by
 have hs:=sS g;refine go Tryz.func82 [(0,.string s)] rfl (ab hs [.v 2 qF] (ae (ab hs [.m 6 0,.v 7 (nV s.size)] ?_)));cases hb1:(decide ((s.size:Int)<(1:Int)))
 ·
  have phb1:=oF hb1;refine lB 8 hb1 (lL hs [.m 9 8,.m 10 0,.v 11 (nV s.size)] ?_);cases hb2:(decide ((20:Int)<(s.size:Int)))
  ·
   have phb2:=oF hb2;refine lB 12 hb2 (lL hs [.v 13 qF,.m 14 13,.m 15 0] (lV 16 (.int .u8 (aD s 0:Nat)) ?_ (hr:=bT (tx:=9) (x:=.tmp 15) (i:=.const (iV 0)) (k:=.i64) (s:=s) (n:=0) (j:=(0:Int)) kR kR kR kR oM oM _)));refine ah 17 hs (nr ((aD s 0)) (bS _ _) _ _ hs.g) (fun w3 h4 hs=>?_);cases hb5:(decide (fN ((aD s 0))))
   ·
    have phb5:=oF hb5;exact lL hs [.v 18 qT,.v 19 qT] (am (ab hs [.v 2 qF] (ac hs [] qF (kM (fun h_=>by have h1_:=h_.1;have h2_:=h_.2.1;first|omega|exact absurd h_.2.2 aM)))))
   have phb5:=oT hb5;refine lL hs [.v 18 qF,.v 19 qF] (af (cK (cQ (ab hs [.v 3 (iV 0)] (bc ?_)))));refine bJ _ (CG.loop (fun μ_ Γ w_=>∃ (k:Nat) (h_:Hp),μ_=s.size-k∧Γ=[(0,.string s),(3,nV k)]∧SS w h w_ h_ [] [] []∧k≤s.size∧(∀ i,i<k→mc (aD s i))) _ ⟨0,h4,rfl,rfl,hs.to _ _,Nat.zero_le _,(fun i hi=>absurd hi (Nat.not_lt_zero i))⟩ ?_);rintro _ _ w6 ⟨k,h7,hm8,rfl,hs,hk,hin⟩;refine cQ (ab hs [.m 20 3,.m 21 0,.v 22 (nV s.size)] ?_);cases hb9:(decide ((k:Int)<(s.size:Int)))
   ·
    have phb9:=oF hb9;refine lB 23 hb9 (af (CG.exit ?_))
    show CG _ _ _ _ _ _ _ _
    refine ab hs [.m 45 0] (ah 46 hs (AD s _ _ hs.g) (fun _ _ hs=>lL hs [.m 44 46,.v 47 (iV (da s)),.v 48 (iV (sx s)),.m 4 47,.m 5 48] (aJ (lL hs [.m 49 4] ?_))));cases za:(((da s):Int) == (0:Int))
    ·
     have ze:=ag za;refine lB 50 za (lL hs [.m 2 50] (lN (kX ?_)));have hq_:=vA (s:=s) ⟨by omega,by omega⟩ aM (fun i hi=>hin i oM);exact hs.ret [] qF (congrArg Value.bool (by rw[hq_];unfold cn;simp only[ne_eq,decide_not,Bool.not_not];exact (decide_eq_false oM).symm))
    have ze:=eq_of_beq za;refine lB 50 za (lL hs [.m 2 50] (lN (kX ?_)));have hq_:=vA (s:=s) ⟨by omega,by omega⟩ aM (fun i hi=>hin i oM);exact hs.ret [] qT (congrArg Value.bool (by rw[hq_];unfold cn;simp only[ne_eq,decide_not,Bool.not_not];exact (decide_eq_true oM).symm))
   have phb9:=oT hb9;refine lB 23 hb9 (am (cK (cQ (kZ (ab hs [.m 26 0,.m 27 3] (lV 28 (.int .u8 (aD s k:Nat)) ?_ (hr:=bT (tx:=9) (x:=.tmp 26) (i:=.tmp 27) (k:=.i64) (s:=s) (n:=k) (j:=(k:Int)) kR kR kR kR oM oM _)))))));refine ah 29 hs (nr ((aD s k)) (bS _ _) _ _ hs.g) (fun _ zk hs=>?_);cases zc:(decide (fN ((aD s k))))
   ·
    have zf:=oF zc;refine lL hs [.v 30 qT,.m 31 30,.m 32 0,.m 33 3] (lV 34 (.int .u8 (aD s k:Nat)) ?_ (hr:=bT (tx:=9) (x:=.tmp 32) (i:=.tmp 33) (k:=.i64) (s:=s) (n:=k) (j:=(k:Int)) kR kR kR kR oM oM _));refine ah 35 hs (vb ((aD s k)) (bS _ _) _ _ hs.g) (fun _ zj hs=>?_);cases zd:(decide (48≤((aD s k))∧((aD s k))≤57))
    ·
     have zg:=oF zd;refine lL hs [.v 36 qT,.v 37 qT,.m 38 37,.m 39 0,.m 40 3] (lV 41 (.int .u8 (aD s k:Nat)) ?_ (hr:=bT (tx:=9) (x:=.tmp 39) (i:=.tmp 40) (k:=.i64) (s:=s) (n:=k) (j:=(k:Int)) kR kR kR kR oM oM _));cases zb:(((aD s k:Nat):Int) != (95:Int))
     ·
      have zi:=aI zb;refine lB 42 zb (lL hs [.v 43 qF] (af (cK (kQ (lL hs [.m 24 3] (bu 25 ((k:Nat)+1) (k+1) ?_))))));refine lL hs [.m 3 25] (lD ?_);intro a_ ka;refine ⟨_,_,?_,⟨k+1,zj,rfl,rfl,hs.to _ _,oM,(fun i hi=>by rcases Nat.lt_succ_iff_lt_or_eq.1 hi with h_|rfl;exact hin i h_;unfold mc;unfold fN at *;omega)⟩,ka.to _ kR⟩
      omega
     have zi:=aR zb;exact lB 42 zb (lL hs [.v 43 qT] (am (ab hs [.v 2 qF] (ac hs [] qF (xW (i:=k) oM (fun h_=>by unfold mc at h_;unfold fN at *;omega))))))
    have zg:=oT zd;refine lL hs [.v 36 qF,.v 37 qF,.m 38 37] (lG 39 ?_);refine lG 40 (lG 41 (lG 42 (lL hs [.v 43 qF] (af (cK (kQ (lL hs [.m 24 3] (bu 25 ((k:Nat)+1) (k+1) ?_))))))));refine lL hs [.m 3 25] (lD ?_);intro a_ ka;refine ⟨_,_,?_,⟨k+1,zj,rfl,rfl,hs.to _ _,oM,(fun i hi=>by rcases Nat.lt_succ_iff_lt_or_eq.1 hi with h_|rfl;exact hin i h_;unfold mc;unfold fN at *;omega)⟩,ka.to _ kR⟩
    omega
   have zf:=oT zc;refine lL hs [.v 30 qF,.m 31 30] (lG 32 ?_);refine lG 33 (lG 34 (lG 35 (lG 36 (lL hs [.v 37 qF,.m 38 37] (lG 39 ?_)))));refine lG 40 (lG 41 (lG 42 (lL hs [.v 43 qF] (af (cK (kQ (lL hs [.m 24 3] (bu 25 ((k:Nat)+1) (k+1) ?_))))))));refine lL hs [.m 3 25] (lD ?_);intro a_ ka;refine ⟨_,_,?_,⟨k+1,zk,rfl,rfl,hs.to _ _,oM,(fun i hi=>by rcases Nat.lt_succ_iff_lt_or_eq.1 hi with h_|rfl;exact hin i h_;unfold mc;unfold fN at *;omega)⟩,ka.to _ kR⟩
   omega
  have phb2:=oT hb2;refine lB 12 hb2 (lL hs [.v 13 qT,.m 14 13] (lG 15 ?_));exact lG 16 (lG 17 (lG 18 (lL hs [.v 19 qT] (am (ab hs [.v 2 qF] (ac hs [] qF (kM (fun h_=>by have h1_:=h_.1;have h2_:=h_.2.1;first|omega|exact absurd h_.2.2 aM))))))))
 have phb1:=oT hb1;refine lB 8 hb1 (lL hs [.m 9 8] (lG 10 ?_));refine lG 11 (lG 12 (lL hs [.v 13 qT,.m 14 13] (lG 15 ?_)));exact lG 16 (lG 17 (lG 18 (lL hs [.v 19 qT] (am (ab hs [.v 2 qF] (ac hs [] qF (kM (fun h_=>by have h1_:=h_.1;have h2_:=h_.2.1;first|omega|exact absurd h_.2.2 aM))))))))
def wZ (pb:Nat)(s:ByteArray)(t:Tm)(b:Nat)(bd:Int):Value→World→Hp→Prop:=fun v w' h'=>∃ (tb:Nat) (p:PTm),v=.pointer (some ⟨tb,0,none⟩)∧b≤s.size∧Own w' pb 113 [.string s,.int .i64 (b:Nat),.int .i64 bd]∧Seg h' tb 0 (cj p)∧PtH h' p t
def PC (nf bf:ByteArray→Option Rat)(f:FuncId)(n:Nat)(k:PKd):Prop:=∀ (pb:Nat) (s:ByteArray),s.size≤1000000→∀ (a:Nat),a≤s.size→∀ (bd:Int) (t:Tm) (b:Nat),dl nf bf s n k a=some (.ok t b)→∀ (w:World) (h:Hp),G w h→Own w pb 113 [.string s,nV a,iV bd]→h[pb]?=some junk→Calls Tryz.prog f #[pB pb] w (dL pb w h (wZ pb s t b bd))
theorem mQ  (pb:Nat)(s:ByteArray)(hsz:s.size≤1000000)(a:Nat)(ha:a≤s.size)(bd:Int)(w:World)(h:Hp)(g:G w h)(ho:Own w pb 113 [.string s,nV a,iV bd])(hj:h[pb]?=some junk):Calls Tryz.prog 56 #[pB pb] w (dL pb w h fun v w' _=>v=.int .u8 (aD s (sk s a):Nat)∧Own w' pb 113 [.string s,nV (sk s a),iV bd]):=by
 have hmo:UpM [pb] w h w h:=UpM.refl g;obtain ⟨wz,hz0_,hs⟩:=SS.at_ g ho hj;refine go Tryz.func56 [(0,pB pb)] rfl (ab hs [.v 2 (.int .u8 0)] (ae (kZ ?_)));refine bJ _ (CG.loop (fun μ_ Γ w_=>∃ (k:Nat) (h_:Hp),μ_=s.size-k∧Γ=[(0,pB pb),(2,.int .u8 0)]∧SS wz hz0_ w_ h_ [⟨pb,113,[.string s,nV k,iV bd]⟩] [] []∧a≤k∧k≤s.size∧UpM [pb] w h w_ h_∧(∀ i,a≤i→i<k→uz (aD s i)=true)) _ ⟨a,h,rfl,rfl,hs.to _ _,nR _,ha,hmo,(fun i h1 h2=>absurd h1 oM)⟩ ?_);rintro _ _ w1 ⟨k,h2,hm3,rfl,hs,hk1,hk2,hmo,hkb⟩;refine cQ (cQ (cR 22 [] mixed hs ar ?_));refine eV 0 3 (pB pb) (eV 1 4 (pB pb) (eV 2 5 (qP pb 1) (eO 3 6 [(0,1,1)] (nV k) hs (eV 4 7 (pB pb) (eV 5 8 (pB pb) (eV 6 9 (pB pb) (eO 7 10 [(0,0,1)] (.string s) hs (eV 8 11 (nV s.size) ?_))))))));cases hb4:(decide ((k:Int)<(s.size:Int)))
 ·
  have phb4:=oF hb4;refine eB 9 12 hb4 (eV 10 13 qF (eG 11 14 (eG 12 15 (eG 13 16 (eG 14 17 (eG 15 18 (eG 16 19 (eG 17 20 (eG 18 21 (eG 19 22 (eG 20 23 (eV 21 24 qF (gQ hs (fun w5 h6 u7 hs=>?_))))))))))))));replace hmo:=hmo.trans (u7.m _);refine tN (cF (CG.exit ?_))
  show CG _ _ _ _ _ _ _ _
  refine cQ (cQ (cR 10 [] mixed hs ar ?_));refine eV 0 32 (pB pb) (eV 1 33 (pB pb) (eV 2 34 (qP pb 1) (eO 3 35 [(0,1,1)] (nV k) hs (eV 4 36 (pB pb) (eV 5 37 (pB pb) (eV 6 38 (pB pb) (eO 7 39 [(0,0,1)] (.string s) hs (eV 8 40 (nV s.size) ?_))))))));have ⟨hb8,phb8⟩:=dF (p:=(k:Int)<(s.size:Int)) oM;refine eB 9 41 hb8 (gQ hs (fun w9 _ u11 hs=>?_));replace hmo:=hmo.trans (u11.m _);refine tN (cF (cK (ab hs [.v 2 (.int .u8 0)] (lN (kX ?_)))));have hk_:sk s a=k:=mY hk1 hk2 hkb (by first|exact .inl oM|exact .inr (decide_eq_false oM));exact hs.retM hmo [] (.int .u8 0) (by rw[hk_,pI oM];exact ⟨rfl,hs.own 0⟩)
 have phb4:=oT hb4;refine eB 9 12 hb4 (eV 10 13 qT (eV 11 14 (pB pb) (eV 12 15 (pB pb) (eV 13 16 (pB pb) (eO 14 17 [(0,0,1)] (.string s) hs (eV 15 18 (pB pb) (eV 16 19 (pB pb) (eV 17 20 (qP pb 1) (eO 18 21 [(0,1,1)] (nV k) hs (eV 19 22 (.int .u8 (aD s k:Nat)) ?_ (hv:=fun _=>bT (tx:=9) (x:=.tmp 17) (i:=.tmp 21) (k:=.i64) (s:=s) (n:=k) (j:=(k:Int)) kR kR kR kR oM oM _)))))))))));cases za:(((aD s k:Nat):Int) == (32:Int))
 ·
  have zb:=ag za;refine eB 20 23 za (eV 21 24 qF (gQ hs (fun _ _ u15 hs=>?_)));replace hmo:=hmo.trans (u15.m _);refine tN (cF (CG.exit ?_))
  show CG _ _ _ _ _ _ _ _
  refine cQ (cQ (cR 10 [] mixed hs ar ?_));refine eV 0 32 (pB pb) (eV 1 33 (pB pb) (eV 2 34 (qP pb 1) (eO 3 35 [(0,1,1)] (nV k) hs (eV 4 36 (pB pb) (eV 5 37 (pB pb) (eV 6 38 (pB pb) (eO 7 39 [(0,0,1)] (.string s) hs (eV 8 40 (nV s.size) ?_))))))));have ⟨zc,phb16⟩:=dT (p:=(k:Int)<(s.size:Int)) oM;refine eB 9 41 zc (gQ hs (fun _ _ u19 hs=>?_));replace hmo:=hmo.trans (u19.m _);refine tN (cf (cQ (cR 9 [] mixed hs ar ?_)));refine eV 0 42 (pB pb) (eV 1 43 (pB pb) (eV 2 44 (pB pb) (eO 3 45 [(0,0,1)] (.string s) hs (eV 4 46 (pB pb) (eV 5 47 (pB pb) (eV 6 48 (qP pb 1) (eO 7 49 [(0,1,1)] (nV k) hs (eV 8 50 (.int .u8 (aD s k:Nat)) ?_ (hv:=fun _=>bT (tx:=9) (x:=.tmp 45) (i:=.tmp 49) (k:=.i64) (s:=s) (n:=k) (j:=(k:Int)) kR kR kR kR oM oM _)))))))));refine gQ hs (fun _ _ u22 hs=>?_);replace hmo:=hmo.trans (u22.m _);refine tV 9 2 (.int .u8 (aD s k:Nat)) (tN (bJ [(2,.int .u8 (aD s k:Nat))] ?_));refine kX ?_;have hk_:sk s a=k:=mY hk1 hk2 hkb (by first|exact .inl oM|exact .inr (decide_eq_false oM));exact hs.retM hmo [] (.int .u8 (aD s k:Nat)) (by rw[hk_];exact ⟨rfl,hs.own 0⟩)
 have zb:=eq_of_beq za;refine eB 20 23 za (eV 21 24 qT (gQ hs (fun _ zd u25 hs=>?_)));replace hmo:=hmo.trans (u25.m _);refine tN (cf (cK (kZ (kQ (lL hs [.m 25 0,.v 26 (pB pb),.v 27 (qP pb 1),.o 28 (nV k) 0 1 1] (bu 29 ((k:Nat)+1) (k+1) ?_))))));refine lL hs [.v 30 (pB pb),.v 31 (qP pb 1)] (hJ 0 1 ([nV (k+1)]) hs (fun _ pu hs=>?_));replace hmo:=hmo.put pu (List.mem_singleton.2 rfl) hs.g;refine lD ?_;intro a_ ka;refine ⟨_,_,?_,⟨k+1,zd,rfl,rfl,hs.to _ _,oM,oM,hmo,(fun i h1 h2=>by rcases Nat.lt_succ_iff_lt_or_eq.1 h2 with h_|rfl;exact hkb i h1 h_;exact decide_eq_true oM)⟩,ka.to _ kR⟩
 omega
theorem kF  (pb:Nat)(s:ByteArray)(hsz:s.size≤1000000)(a:Nat)(ha:a≤s.size)(bd:Int)(c:Nat)(hc:c≠0)(w:World)(h:Hp)(g:G w h)(ho:Own w pb 113 [.string s,nV a,iV bd])(hj:h[pb]?=some junk):Calls Tryz.prog 133 #[pB pb,.int .u8 (c:Nat)] w (dL pb w h fun v w' _=>(v=.bool true∧aD s (sk s a)=c∧sk s a<s.size∧Own w' pb 113 [.string s,nV (sk s a+1),iV bd])∨(v=.bool false∧aD s (sk s a)≠c∧Own w' pb 113 [.string s,nV (sk s a),iV bd])):=by
 have hmo:UpM [pb] w h w h:=UpM.refl g;obtain ⟨wz,hz0_,hs⟩:=SS.at_ g ho hj;refine go Tryz.func133 [(0,pB pb),(1,.int .u8 (c:Nat))] rfl (ab hs [.v 4 qF] (ae (ab hs [.m 5 0] ?_)));have hskq1:=gn (s:=s) (a:=a) oM;refine dH 6 (mQ pb s hsz a ha bd _ _ hs.g (hs.own 0) (hs.jk 0)) ?_;rintro _ w2 h3 u4 ⟨rfl,hOq1⟩;replace hs:=(hs.stepM 0 u4 hOq1).to [⟨pb,113,[.string s,nV (sk s a),iV bd]⟩] [];replace hmo:=hmo.trans u4;refine lL hs [.m 7 1] ?_;cases hb5:(((aD s (sk s a):Nat):Int) != (c:Int))
 ·
  have phb5:=aI hb5;refine lB 8 hb5 (af (cK (ab hs [.m 9 0,.v 10 (pB pb),.v 11 (qP pb 1),.o 12 (nV (sk s a)) 0 1 1] (bu 13 ((sk s a:Nat)+1) ((sk s a)+1) ?_))));refine lL hs [.v 14 (pB pb),.v 15 (qP pb 1)] (hJ 0 1 ([nV ((sk s a)+1)]) hs (fun w6 pu hs=>?_));replace hmo:=hmo.put pu (List.mem_singleton.2 rfl) hs.g;refine aJ (lL hs [.v 4 qT] (lN (kX ?_)));have hin_:=sN (s:=s) (a:=sk s a) oM;exact hs.retM hmo [] qT (.inl ⟨rfl,by omega,by omega,hs.own 0⟩)
 have phb5:=aR hb5;exact lB 8 hb5 (am (ab hs [.v 4 qF] (lN (kX (hs.retM hmo [] qF (.inr ⟨rfl,by omega,hs.own 0⟩))))))
theorem Cv (pb:Nat)(s:ByteArray)(hsz:s.size≤1000000)(a:Nat)(ha:a≤s.size)(bd:Int)(c:Nat)(hc:c≠0)(hka:sk s a=a)(w:World)(h:Hp)(g:G w h)(ho:Own w pb 113 [.string s,nV a,iV bd])(hj:h[pb]?=some junk):Calls Tryz.prog 133 #[pB pb,.int .u8 (c:Nat)] w (dL pb w h fun v w' _=>(v=.bool true∧aD s a=c∧a<s.size∧Own w' pb 113 [.string s,nV (a+1),iV bd])∨(v=.bool false∧aD s a≠c∧Own w' pb 113 [.string s,nV a,iV bd])):=by
 have q:=kF pb s hsz a ha bd c hc w h g ho hj;rw[hka] at q;exact q
theorem jP (pb:Nat)(s:ByteArray)(hsz:s.size≤1000000)(a:Nat)(ha:a≤s.size)(bd:Int)(c:Nat)(hc:c≠0)(hka:aD s (sk s a)=c)(w:World)(h:Hp)(g:G w h)(ho:Own w pb 113 [.string s,nV a,iV bd])(hj:h[pb]?=some junk):Calls Tryz.prog 133 #[pB pb,.int .u8 (c:Nat)] w (dL pb w h fun v w' _=>v=.bool true∧sk s a<s.size∧Own w' pb 113 [.string s,nV (sk s a+1),iV bd]) :=
 (kF pb s hsz a ha bd c hc w h g ho hj).mono fun e w' ⟨v,h',he,u,hΦ⟩=>⟨v,h',he,u,by
  rcases hΦ with ⟨h1,h2,h3,h4⟩|⟨h1,h2,h3⟩
  ·exact ⟨h1,h3,h4⟩
  ·exact absurd hka h2⟩
theorem xc  (fo:FuncId)(p:Nat→Bool)(hen:∀ (args:Array Value) (w:World),(callFunc fo args).run Tryz.prog w=.ok (.enter fo args) w)(hfo:∀ c,c<256→∀ (w:World) (h:Hp),G w h→Calls Tryz.prog fo #[.int .u8 (c:Nat)] w (Ret w h fun v _=>v=.bool (p c)))(pb:Nat)(s:ByteArray)(hsz:s.size≤1000000)(a:Nat)(ha:a≤s.size)(bd:Int)(w:World)(h:Hp)(g:G w h)(ho:Own w pb 113 [.string s,nV a,iV bd])(hj:h[pb]?=some junk):Calls Tryz.prog 189 #[pB pb,.func (.func fo) #[] #[]] w (dL pb w h fun v w' _=>v=.string (s.extract a (rn p s a))∧Own w' pb 113 [.string s,nV (rn p s a),iV bd]):=by
 have hmo:UpM [pb] w h w h:=UpM.refl g;obtain ⟨wz,hz0_,hs⟩:=SS.at_ g ho hj;refine go Tryz.func189 [(0,pB pb),(1,.func (.func fo) #[] #[])] rfl (ab hs [.v 4 (eS)] (aJ (lL hs [.m 6 0,.v 7 (pB pb),.v 8 (qP pb 1),.o 9 (nV a) 0 1 1,.m 5 9] (ae (kZ ?_)))));refine bJ _ (CG.loop (fun μ_ Γ w_=>∃ (k:Nat) (h_:Hp),μ_=s.size-k∧Γ=[(0,pB pb),(1,.func (.func fo) #[] #[]),(4,eS),(5,nV a)]∧SS wz hz0_ w_ h_ [⟨pb,113,[.string s,nV k,iV bd]⟩] [] []∧a≤k∧k≤s.size∧UpM [pb] w h w_ h_∧(∀ i,a≤i→i<k→p (aD s i)=true)) _ ⟨a,h,rfl,rfl,hs.to _ _,nR _,ha,hmo,(fun i h1 h2=>absurd h1 oM)⟩ ?_);rintro _ _ w1 ⟨k,h2,hm3,rfl,hs,hk1,hk2,hmo,hkb⟩;refine cQ (cQ (cR 23 [] mixed hs ar ?_));refine eV 0 10 (pB pb) (eV 1 11 (pB pb) (eV 2 12 (qP pb 1) (eO 3 13 [(0,1,1)] (nV k) hs (eV 4 14 (pB pb) (eV 5 15 (pB pb) (eV 6 16 (pB pb) (eO 7 17 [(0,0,1)] (.string s) hs (eV 8 18 (nV s.size) ?_))))))));cases hb4:(decide ((k:Int)<(s.size:Int)))
 ·
  have phb4:=oF hb4;refine eB 9 19 hb4 (eV 10 20 qF (eG 11 21 (eG 12 22 (eG 13 23 (eG 14 24 (eG 15 25 (eG 16 26 (eG 17 27 (eG 18 28 (eG 19 29 (eG 20 30 (eG 21 31 (eV 22 32 qF (gQ hs (fun w5 h6 u7 hs=>?_)))))))))))))));replace hmo:=hmo.trans (u7.m _);refine tN (cF (CG.exit ?_))
  show CG _ _ _ _ _ _ _ _
  refine cQ (cR 10 [] mixed hs ar ?_);refine eV 0 40 (pB pb) (eV 1 41 (pB pb) (eV 2 42 (pB pb) (eO 3 43 [(0,0,1)] (.string s) hs (eV 4 44 (nV a) (eV 5 45 (pB pb) (eV 6 46 (pB pb) (eV 7 47 (qP pb 1) (eO 8 48 [(0,1,1)] (nV k) hs (eV 9 49 (.string (s.extract a k)) ?_ (hv:=fun _=>sI (tx:=9) (x:=.tmp 43) (i:=.tmp 44) (e:=.tmp 48) (k:=.i64) (k2:=.i64) (s:=s) (n:=a) (m:=k) (j:=(a:Int)) (j2:=(k:Int)) kR kR kR kR kR oM oM oM oM _))))))))));refine gQ hs (fun w8 h9 u10 hs=>?_);replace hmo:=hmo.trans (u10.m _);refine tV 10 4 (.string (s.extract a k)) (tN (kX ?_));have hk_:rn p s a=k:=mY hk1 hk2 hkb (by first|exact .inl oM|exact .inr aM);exact hs.retM hmo [] (.string (s.extract a k)) (by rw[hk_];exact ⟨rfl,hs.own 0⟩)
 have phb4:=oT hb4;refine eB 9 19 hb4 (eV 10 20 qT (eV 11 21 (.func (.func fo) #[] #[]) (eV 12 22 (pB pb) (eV 13 23 (pB pb) (eV 14 24 (pB pb) (eO 15 25 [(0,0,1)] (.string s) hs (eV 16 26 (pB pb) (eV 17 27 (pB pb) (eV 18 28 (qP pb 1) (eO 19 29 [(0,1,1)] (nV k) hs (eV 20 30 (.int .u8 (aD s k:Nat)) ?_ (hv:=fun _=>bT (tx:=9) (x:=.tmp 25) (i:=.tmp 29) (k:=.i64) (s:=s) (n:=k) (j:=(k:Int)) kR kR kR kR oM oM _))))))))))));refine CJ 21 31 hs hmo (fun _ _ hs=>hfo ((aD s k)) (bS _ _) _ _ hs.g) ?_ (hv:=fun _=>Eq.trans kR (hen _ _));rintro _ _ _ _ _ hmo hs rfl;cases hb13:(p ((aD s k)))
 ·
  refine eV 22 32 qF (gQ hs (fun _ _ u16 hs=>?_));replace hmo:=hmo.trans (u16.m _);refine tN (cF (CG.exit ?_))
  show CG _ _ _ _ _ _ _ _
  refine cQ (cR 10 [] mixed hs ar ?_);refine eV 0 40 (pB pb) (eV 1 41 (pB pb) (eV 2 42 (pB pb) (eO 3 43 [(0,0,1)] (.string s) hs (eV 4 44 (nV a) (eV 5 45 (pB pb) (eV 6 46 (pB pb) (eV 7 47 (qP pb 1) (eO 8 48 [(0,1,1)] (nV k) hs (eV 9 49 (.string (s.extract a k)) ?_ (hv:=fun _=>sI (tx:=9) (x:=.tmp 43) (i:=.tmp 44) (e:=.tmp 48) (k:=.i64) (k2:=.i64) (s:=s) (n:=a) (m:=k) (j:=(a:Int)) (j2:=(k:Int)) kR kR kR kR kR oM oM oM oM _))))))))));refine gQ hs (fun _ _ u19 hs=>?_);replace hmo:=hmo.trans (u19.m _);refine tV 10 4 (.string (s.extract a k)) (tN (kX ?_));have hk_:rn p s a=k:=mY hk1 hk2 hkb (by first|exact .inl oM|exact .inr aM);exact hs.retM hmo [] (.string (s.extract a k)) (by rw[hk_];exact ⟨rfl,hs.own 0⟩)
 refine eV 22 32 qT (gQ hs (fun _ za u22 hs=>?_));replace hmo:=hmo.trans (u22.m _);refine tN (cf (cK (kZ (kQ (lL hs [.m 33 0,.v 34 (pB pb),.v 35 (qP pb 1),.o 36 (nV k) 0 1 1] (bu 37 ((k:Nat)+1) (k+1) ?_))))));refine lL hs [.v 38 (pB pb),.v 39 (qP pb 1)] (hJ 0 1 ([nV (k+1)]) hs (fun _ pu hs=>?_));replace hmo:=hmo.put pu (List.mem_singleton.2 rfl) hs.g;refine lD ?_;intro a_ ka;refine ⟨_,_,?_,⟨k+1,za,rfl,rfl,hs.to _ _,oM,oM,hmo,(fun i h1 h2=>by rcases Nat.lt_succ_iff_lt_or_eq.1 h2 with h_|rfl;exact hkb i h1 h_;exact aM)⟩,ka.to _ kR⟩
 omega
theorem x5 (op:Int)(pa pc:PTm)(w:World)(h:Hp)(g:G w h):CR 134 #[iV op,pX pa,pX pc] w h (fun v h1=>∃ b,v=dC ⟨op,0,0,⟨#[]⟩,sB b,2,2⟩∧SlO 9 cj aE h1 (sB b) [pa,pc]):=by
 have hs:=sS g;refine go Tryz.func134 [(0,iV op),(1,pX pa),(2,pX pc)] rfl (aA (lA 4 46 (pC pa) hs (fun b1 w2 h3 hs=>lA 5 46 (pC pc) hs (fun b4 w5 h6 hs=>lA 6 46 ([iV 0,iV 0,qF,uV 0,eS,uV 0,eS,eS,sZ]) hs (fun b7 w8 h9 hs=>aJ (lL hs [.m 7 0,.o 8 (pX pa) 2 0 9,.o 9 (pX pc) 1 0 9] (lR 10 46 2 ([iV pa.op,iV pa.n,.bool (ai pa.q.num),uV (lo (aa pa.q.num)),.string (hi (aa pa.q.num)),uV (lo (qd pa.q)),.string (hi (qd pa.q)),.string pa.s,qS pa.A pa.m pa.c,iV pc.op,iV pc.n,.bool (ai pc.q.num),uV (lo (aa pc.q.num)),.string (hi (aa pc.q.num)),uV (lo (qd pc.q)),.string (hi (qd pc.q)),.string pc.s,qS pc.A pc.m pc.c]) hs (fun za _ _ hs=>?_))))))));replace hs:=hs.aS (SlO.of_flat (sz:=9) (f:=cj) (d:=aE) (b:=za) (o:=0) (l:=([pa,pc]:List PTm)) (fun _=>rfl) hs.f.1);exact lL hs [.v 11 (.agg #[iV op,iV 0,qF,uV 0,eS,uV 0,eS,eS,qS (sB za) 2 2])] (lP 0 0 ([iV op,iV 0,qF,uV 0,eS,uV 0,eS,eS,qS (sB za) 2 2]) hs (fun _ hs=>ac hs [(0,0,9)] (.agg #[iV op,iV 0,qF,uV 0,eS,uV 0,eS,eS,qS (sB za) 2 2]) (⟨_,rfl,hs.f.1⟩)))
theorem xP (op:Int)(pa:PTm)(w:World)(h:Hp)(g:G w h):CR 144 #[iV op,pX pa] w h (fun v h1=>∃ b,v=dC ⟨op,0,0,⟨#[]⟩,sB b,1,1⟩∧SlO 9 cj aE h1 (sB b) [pa]):=by
 have hs:=sS g;refine go Tryz.func144 [(0,iV op),(1,pX pa)] rfl (aA (lA 3 46 (pC pa) hs (fun b1 w2 h3 hs=>lA 4 46 ([iV 0,iV 0,qF,uV 0,eS,uV 0,eS,eS,sZ]) hs (fun b4 w5 h6 hs=>aJ (lL hs [.m 5 0,.o 6 (pX pa) 1 0 9] (lR 7 46 1 (pC pa) hs (fun b7 w8 h9 hs=>?_)))))));replace hs:=hs.aS (SlO.of_flat (sz:=9) (f:=cj) (d:=aE) (b:=b7) (o:=0) (l:=([pa]:List PTm)) (fun _=>rfl) hs.f.1);exact lL hs [.v 8 (.agg #[iV op,iV 0,qF,uV 0,eS,uV 0,eS,eS,qS (sB b7) 1 1])] (lP 0 0 ([iV op,iV 0,qF,uV 0,eS,uV 0,eS,eS,qS (sB b7) 1 1]) hs (fun _ hs=>ac hs [(0,0,9)] (.agg #[iV op,iV 0,qF,uV 0,eS,uV 0,eS,eS,qS (sB b7) 1 1]) (⟨_,rfl,hs.f.1⟩)))
theorem wN (q:Rat)(w:World)(h:Hp)(g:G w h):CR 141 #[qv q] w h (fun v h1=>∃ p,v=dC p∧PtH h1 p (eL q)):=by
 have hs:=sS g;exact go Tryz.func141 [(0,qv q)] rfl (aA (lA 1 43 (qc q) hs (fun b1 w2 h3 hs=>lA 2 46 ([iV 0,iV 0,qF,uV 0,eS,uV 0,eS,eS,sZ]) hs (fun b4 w5 h6 hs=>aJ (lL hs [.o 3 (qv q) 1 0 5,.v 4 (.agg #[iV 1,iV 0,.bool (ai q.num),uV (lo (aa q.num)),.string (hi (aa q.num)),uV (lo (qd q)),.string (hi (qd q)),eS,sZ])] (lP 0 0 ([iV 1,iV 0,.bool (ai q.num),uV (lo (aa q.num)),.string (hi (aa q.num)),uV (lo (qd q)),.string (hi (qd q)),eS,sZ]) hs (fun w7 hs=>ac hs [(0,0,9)] (.agg #[iV 1,iV 0,.bool (ai q.num),uV (lo (aa q.num)),.string (hi (aa q.num)),uV (lo (qd q)),.string (hi (qd q)),eS,sZ]) (⟨⟨1,0,q,⟨#[]⟩,none,0,0⟩,rfl,PtH.num⟩))))))))
theorem By (op:Int)(pa pc:PTm)(t u:Tm)(w:World)(h:Hp)(g:G w h)(x:PtH h pa t)(y:PtH h pc u):CR 134 #[iV op,dC pa,dC pc] w h (fun v h1=>∃ p,v=dC p∧PtH h1 p (dd op t u)) :=
 (x5 op pa pc w h g).mono fun e w' ⟨v,h',e1,up,b,e2,e3⟩=>⟨v,h',e1,up,_,e2,(x.gw up.gr.gw).two (y.gw up.gr.gw) e3⟩
theorem xB (op:Int)(pa:PTm)(t:Tm)(w:World)(h:Hp)(g:G w h)(x:PtH h pa t):CR 144 #[iV op,dC pa] w h (fun v h1=>∃ p,v=dC p∧PtH h1 p (ll op t)) :=
 (xP op pa w h g).mono fun e w' ⟨v,h',e1,up,b,e2,e3⟩=>⟨v,h',e1,up,_,e2,(x.gw up.gr.gw).one e3⟩
section
variable {nf bf:ByteArray→Option Rat} (n:Nat)
theorem uq  (lv:Bool)(fp:FuncId)(hen:∀ (args:Array Value) (w:World),(callFunc fp args).run Tryz.prog w=.ok (.enter fp args) w)(hp:∀ m,m≤n→PC nf bf fp m (part lv))(pb:Nat)(s:ByteArray)(hsz:s.size≤1000000)(a:Nat)(ha:a≤s.size)(bd:Int)(t:Tm)(b:Nat)(hq:dl nf bf s (n+1) (q9 lv) a=some (.ok t b))(w:World)(h:Hp)(g:G w h)(ho:Own w pb 113 [.string s,nV a,iV bd])(hj:h[pb]?=some junk):Calls Tryz.prog 84 #[pB pb,.func (.func fp) #[pB pb] #[],.int .u8 (c1 lv:Nat),iV (uQ lv),.int .u8 (c2 lv:Nat),iV (o3 lv)] w (dL pb w h (wZ pb s t b bd)):=by
 have hmo:UpM [pb] w h w h:=UpM.refl g;obtain ⟨wz,hz0_,hs⟩:=SS.at_ g ho hj;obtain ⟨t1,b1,hq1,hq2⟩:=vT hq;have hc1_:c1 lv≠0:=by cases lv<;>decide
 have hc2_:c2 lv≠0:=by cases lv<;>decide
 refine go Tryz.func84 [(0,pB pb),(1,.func (.func fp) #[pB pb] #[]),(2,.int .u8 (c1 lv:Nat)),(3,iV (uQ lv)),(4,.int .u8 (c2 lv:Nat)),(5,iV (o3 lv))] rfl (ab hs [.v 12 (.pointer none)] (aJ (lL hs [.m 17 1] (dH 18 (hp n (nR _) pb s hsz a ha bd t1 b1 hq1 _ _ hs.g (hs.own 0) (hs.jk 0)) ?_ (hr:=Eq.trans kR (hen _ _))))));rintro _ w2 h3 u4 ⟨tbq1,pq1,rfl,hbq1,hOq1,hSq1,hTq1⟩;replace hs:=(hs.stepM 0 u4 hOq1).to [⟨pb,113,[.string s,nV b1,iV bd]⟩] [];replace hmo:=hmo.trans u4;replace hs:=((hs.a_Seg hSq1).add (K:=fun h_=>PtH h_ pq1 t1) hTq1);refine lL hs [.m 13 18] (ae (kZ ?_));replace hs:=hs.add (K:=fun h_=>PtH h_ pq1 t1) (hs.f.1);replace hs:=hs.add (K:=fun h_=>Seg h_ tbq1 0 (cj pq1)) (hs.f.r.1);refine bJ _ (CG.loop (fun μ_ Γ w_=>∃ (m:Nat) (tb:Nat) (p:PTm) (u:Tm) (k:Nat) (h_:Hp),μ_=m∧Γ=[(0,pB pb),(1,.func (.func fp) #[pB pb] #[]),(2,.int .u8 (c1 lv:Nat)),(3,iV (uQ lv)),(4,.int .u8 (c2 lv:Nat)),(5,iV (o3 lv)),(13,pB tb)]∧SS wz hz0_ w_ h_ [⟨pb,113,[.string s,nV k,iV bd]⟩] [] [fun h_=>Seg h_ tb 0 (cj p),fun h_=>PtH h_ p u,fun h_=>PtH h_ pq1 t1,fun h_=>Seg h_ tbq1 0 (cj pq1)]∧m≤n∧k≤s.size∧UpM [pb] w h w_ h_∧dl nf bf s m (.more lv u) k=some (.ok t b)) _ ⟨n,tbq1,pq1,t1,b1,h3,rfl,rfl,hs.to _ _,nR _,hbq1,hmo,hq2⟩ ?_);rintro _ _ w5 ⟨m,tb,p,u,k,h6,hm7,rfl,hs,hm,hk,hmo,hq⟩;obtain ⟨m1,rfl⟩:=wn hq;have hskk:=gn (s:=s) (a:=k) hk;refine cQ (ab hs [.m 19 13,.v 20 qT] (am (cK (kZ (ab hs [.v 14 (iV 0)] (ae (ab hs [.m 21 0,.m 22 2] ?_)))))));have hskq8:=gn (s:=s) (a:=k) oM;refine dH 23 (kF pb s hsz k oM bd (c1 lv) hc1_ _ _ hs.g (hs.own 0) (hs.jk 0)) ?_;rintro _ w9 _ u11 (⟨rfl,hcq8,hlq8,hOq8⟩|⟨rfl,hcq8,hOq8⟩)
 ·
  replace hs:=(hs.stepM 0 u11 hOq8).to [⟨pb,113,[.string s,nV (sk s k+1),iV bd]⟩] [];replace hmo:=hmo.trans u11;obtain ⟨vq8,eq8,hvq8,hwq8⟩:=qf hq hcq8;refine am (kQ (lL hs [.m 24 3,.m 14 24] (aJ (lL hs [.m 30 1] (dH 31 (hp m1 oM pb s hsz (sk s k+1) oM bd vq8 eq8 hvq8 _ _ hs.g (hs.own 0) (hs.jk 0)) ?_ (hr:=Eq.trans kR (hen _ _)))))));rintro _ _ _ u15 ⟨tbq12,pq12,rfl,hbq12,hOq12,hSq12,hTq12⟩;replace hs:=(hs.stepM 0 u15 hOq12).to [⟨pb,113,[.string s,nV eq8,iV bd]⟩] [];replace hmo:=hmo.trans u15;replace hs:=((hs.a_Seg hSq12).add (K:=fun h_=>PtH h_ pq12 vq8) hTq12);refine lL hs [.m 15 31] (ae (ab hs [.m 32 15,.v 33 qF] (af (cK (cQ ?_)))));have hsr:=hs;have hge_:=hmo.gr.size;refine cR 9 [⟨8,16,.cells (List.toArray [iV 0,iV 0,qF,uV 0,eS,uV 0,eS,eS,sZ]) 46 (0,0)⟩] mixed hs (bF (eP kR (fun _ _=>by kernel_rfl)) ar) (eV 0 34 (iV (uQ lv)) (eV 1 35 (pB tb) (eV 2 36 (pB tb) (eH 3 37 (pX p) hs hs.f.r.1 (eV 4 38 (pB tbq12) (eV 5 39 (pB tbq12) (eH 6 40 (pX pq12) hs hs.f.2.1 (CJ 7 41 hs hmo (fun _ _ hs=>By (uQ lv) p pq12 u vq8 _ _ hs.g hs.f.r.2.1 hs.f.1) ?_))))))));rintro _ _ _ _ _ hmo hs ⟨pq16,rfl,hTq16⟩;replace hs:=(hs.add (K:=fun h_=>PtH h_ pq16 (dd (uQ lv) u vq8)) hTq16);refine C1 [] hsr hs hmo hge_ 46 [iV 0,iV 0,qF,uV 0,eS,uV 0,eS,eS,sZ] (fun _ _ za hmo hlo_b21 hs=>EF 9 0 0 (pC pq16) hs (fun _ pu hs=>?_));replace hmo:=hmo.put2 pu hlo_b21 g hs.g;refine tN ?_;obtain ⟨zc,hs,hmo,sg24⟩:=hs.pubM hmo 0 hlo_b21;replace hs:=hs.to [⟨pb,113,[.string s,nV eq8,iV bd]⟩] [];have sg26:Seg zc za 0 (cj pq16):=sg24;replace hs:=hs.a_Seg sg26;refine kQ (lL hs [.m 13 16] (lD ?_));intro a_ ka;replace hs:=((hs.tl.tl.tl.tl.tl.tl.add (K:=fun h_=>PtH h_ pq16 (dd (uQ lv) u vq8)) hs.f.2.1).add (K:=fun h_=>Seg h_ za 0 (cj pq16)) hs.f.1);refine ⟨_,_,?_,⟨m1,za,pq16,dd (uQ lv) u vq8,eq8,zc,rfl,rfl,hs.to _ _,oM,hbq12,hmo,hwq8⟩,ka.to _ kR⟩
  omega
 replace hs:=(hs.stepM 0 u11 hOq8).to [⟨pb,113,[.string s,nV (sk s k),iV bd]⟩] [];replace hmo:=hmo.trans u11;have hcF:=hcq8;refine af (ab hs [.m 25 0,.m 26 4] ?_);have hskq33:=gn (s:=s) (a:=(sk s k)) oM;refine dH 27 (Cv pb s hsz (sk s k) oM bd (c2 lv) hc2_ (CU _ _) _ _ hs.g (hs.own 0) (hs.jk 0)) ?_;rintro _ _ _ u36 (⟨rfl,hcq33,hlq33,hOq33⟩|⟨rfl,hcq33,hOq33⟩)
 ·
  replace hs:=(hs.stepM 0 u36 hOq33).to [⟨pb,113,[.string s,nV ((sk s k)+1),iV bd]⟩] [];replace hmo:=hmo.trans u36;obtain ⟨vq33,eq33,hvq33,hwq33⟩:=qu hq hcF hcq33;refine am (kQ (lL hs [.m 28 5,.m 14 28] (aJ (lL hs [.m 30 1] (dH 31 (hp m1 oM pb s hsz ((sk s k)+1) oM bd vq33 eq33 hvq33 _ _ hs.g (hs.own 0) (hs.jk 0)) ?_ (hr:=Eq.trans kR (hen _ _)))))));rintro _ _ _ u40 ⟨tbq37,pq37,rfl,hbq37,hOq37,hSq37,hTq37⟩;replace hs:=(hs.stepM 0 u40 hOq37).to [⟨pb,113,[.string s,nV eq33,iV bd]⟩] [];replace hmo:=hmo.trans u40;replace hs:=((hs.a_Seg hSq37).add (K:=fun h_=>PtH h_ pq37 vq33) hTq37);refine lL hs [.m 15 31] (ae (ab hs [.m 32 15,.v 33 qF] (af (cK (cQ ?_)))));have hsr:=hs;have hge_:=hmo.gr.size;refine cR 9 [⟨8,16,.cells (List.toArray [iV 0,iV 0,qF,uV 0,eS,uV 0,eS,eS,sZ]) 46 (0,0)⟩] mixed hs (bF (eP kR (fun _ _=>by kernel_rfl)) ar) (eV 0 34 (iV (o3 lv)) (eV 1 35 (pB tb) (eV 2 36 (pB tb) (eH 3 37 (pX p) hs hs.f.r.1 (eV 4 38 (pB tbq37) (eV 5 39 (pB tbq37) (eH 6 40 (pX pq37) hs hs.f.2.1 (CJ 7 41 hs hmo (fun _ _ hs=>By (o3 lv) p pq37 u vq33 _ _ hs.g hs.f.r.2.1 hs.f.1) ?_))))))));rintro _ _ _ _ _ hmo hs ⟨pq41,rfl,hTq41⟩;replace hs:=(hs.add (K:=fun h_=>PtH h_ pq41 (dd (o3 lv) u vq33)) hTq41);refine C1 [] hsr hs hmo hge_ 46 [iV 0,iV 0,qF,uV 0,eS,uV 0,eS,eS,sZ] (fun _ _ zb hmo hlo_b46 hs=>EF 9 0 0 (pC pq41) hs (fun _ pu hs=>?_));replace hmo:=hmo.put2 pu hlo_b46 g hs.g;refine tN ?_;obtain ⟨zd,hs,hmo,sg49⟩:=hs.pubM hmo 0 hlo_b46;replace hs:=hs.to [⟨pb,113,[.string s,nV eq33,iV bd]⟩] [];have sg51:Seg zd zb 0 (cj pq41):=sg49;replace hs:=hs.a_Seg sg51;refine kQ (lL hs [.m 13 16] (lD ?_));intro a_ ka;replace hs:=((hs.tl.tl.tl.tl.tl.tl.add (K:=fun h_=>PtH h_ pq41 (dd (o3 lv) u vq33)) hs.f.2.1).add (K:=fun h_=>Seg h_ zb 0 (cj pq41)) hs.f.1);refine ⟨_,_,?_,⟨m1,zb,pq41,dd (o3 lv) u vq33,eq33,zd,rfl,rfl,hs.to _ _,oM,hbq37,hmo,hwq33⟩,ka.to _ kR⟩
  omega
 replace hs:=(hs.stepM 0 u36 hOq33).to [⟨pb,113,[.string s,nV (sk s k),iV bd]⟩] [];replace hmo:=hmo.trans u36;have hcF2:=hcq33;refine af (ab hs [.m 29 13,.m 12 29] (lN (kX ?_)));obtain ⟨ht_,hb_⟩:=qB hq hcF hcF2;exact hs.retM hmo [] (pB tb) (by rw[ht_];rw[hb_];exact ⟨tb,p,rfl,by first|assumption|omega,hs.own 0,hs.f.1,hs.f.2.1⟩)
theorem Ew  (hp:∀ m,m≤n→PC nf bf 85 m .prod)(pb:Nat)(s:ByteArray)(hsz:s.size≤1000000)(a:Nat)(ha:a≤s.size)(bd:Int)(t:Tm)(b:Nat)(hq:dl nf bf s (n+1) .sum a=some (.ok t b))(w:World)(h:Hp)(g:G w h)(ho:Own w pb 113 [.string s,nV a,iV bd])(hj:h[pb]?=some junk):Calls Tryz.prog 55 #[pB pb] w (dL pb w h (wZ pb s t b bd)):=by
 have hmo:UpM [pb] w h w h:=UpM.refl g;obtain ⟨wz,hz0_,hs⟩:=SS.at_ g ho hj;refine go Tryz.func55 [(0,pB pb)] rfl (ab hs [.v 2 (.pointer none)] (aJ (lL hs [.m 3 0,.m 4 0,.v 5 (.func (.func 85) #[pB pb] #[])] (dH 6 (uq n false 85 (fun _ _=>by kernel_rfl) hp pb s hsz a ha bd t b hq _ _ hs.g (hs.own 0) (hs.jk 0)) ?_))));rintro _ w2 h3 u4 ⟨tbq1,pq1,rfl,hbq1,hOq1,hSq1,hTq1⟩;replace hs:=(hs.stepM 0 u4 hOq1).to [⟨pb,113,[.string s,nV b,iV bd]⟩] [];replace hmo:=hmo.trans u4;replace hs:=((hs.a_Seg hSq1).add (K:=fun h_=>PtH h_ pq1 t) hTq1);exact lL hs [.m 2 6] (lN (kX (hs.retM hmo [] (pB tbq1) (by exact ⟨tbq1,pq1,rfl,by first|assumption|omega,hs.own 0,hs.f.2.1,hs.f.1⟩))))
theorem sP  (hp:∀ m,m≤n→PC nf bf 135 m .sign)(pb:Nat)(s:ByteArray)(hsz:s.size≤1000000)(a:Nat)(ha:a≤s.size)(bd:Int)(t:Tm)(b:Nat)(hq:dl nf bf s (n+1) .prod a=some (.ok t b))(w:World)(h:Hp)(g:G w h)(ho:Own w pb 113 [.string s,nV a,iV bd])(hj:h[pb]?=some junk):Calls Tryz.prog 85 #[pB pb] w (dL pb w h (wZ pb s t b bd)):=by
 have hmo:UpM [pb] w h w h:=UpM.refl g;obtain ⟨wz,hz0_,hs⟩:=SS.at_ g ho hj;refine go Tryz.func85 [(0,pB pb)] rfl (ab hs [.v 2 (.pointer none)] (aJ (lL hs [.m 3 0,.m 4 0,.v 5 (.func (.func 135) #[pB pb] #[])] (dH 6 (uq n true 135 (fun _ _=>by kernel_rfl) hp pb s hsz a ha bd t b hq _ _ hs.g (hs.own 0) (hs.jk 0)) ?_))));rintro _ w2 h3 u4 ⟨tbq1,pq1,rfl,hbq1,hOq1,hSq1,hTq1⟩;replace hs:=(hs.stepM 0 u4 hOq1).to [⟨pb,113,[.string s,nV b,iV bd]⟩] [];replace hmo:=hmo.trans u4;replace hs:=((hs.a_Seg hSq1).add (K:=fun h_=>PtH h_ pq1 t) hTq1);exact lL hs [.m 2 6] (lN (kX (hs.retM hmo [] (pB tbq1) (by exact ⟨tbq1,pq1,rfl,by first|assumption|omega,hs.own 0,hs.f.2.1,hs.f.1⟩))))
theorem vt  (ihs:PC nf bf 135 n .sign)(ihp:PC nf bf 164 n .pow)(pb:Nat)(s:ByteArray)(hsz:s.size≤1000000)(a:Nat)(ha:a≤s.size)(bd:Int)(t:Tm)(b:Nat)(hq:dl nf bf s (n+1) .sign a=some (.ok t b))(w:World)(h:Hp)(g:G w h)(ho:Own w pb 113 [.string s,nV a,iV bd])(hj:h[pb]?=some junk):Calls Tryz.prog 135 #[pB pb] w (dL pb w h (wZ pb s t b bd)):=by
 have hmo:UpM [pb] w h w h:=UpM.refl g;obtain ⟨wz,hz0_,hs⟩:=SS.at_ g ho hj;refine go Tryz.func135 [(0,pB pb)] rfl (ab hs [.v 2 (.pointer none)] (ae (ab hs [.m 5 0] ?_)));have hskq1:=gn (s:=s) (a:=a) oM;refine dH 6 (kF pb s hsz a ha bd 45 kD _ _ hs.g (hs.own 0) (hs.jk 0)) ?_;rintro _ w2 h3 u4 (⟨rfl,hcq1,hlq1,hOq1⟩|⟨rfl,hcq1,hOq1⟩)
 ·
  replace hs:=(hs.stepM 0 u4 hOq1).to [⟨pb,113,[.string s,nV (sk s a+1),iV bd]⟩] [];replace hmo:=hmo.trans u4;obtain ⟨v1,hv1,ht_⟩:=xd hq hcq1;refine lL hs [.v 7 qF] (af (cK (ab hs [.m 10 0] (dH 11 (ihs pb s hsz (sk s a+1) oM bd v1 b hv1 _ _ hs.g (hs.own 0) (hs.jk 0)) ?_))));rintro _ w6 h7 u8 ⟨tbq5,pq5,rfl,hbq5,hOq5,hSq5,hTq5⟩;replace hs:=(hs.stepM 0 u8 hOq5).to [⟨pb,113,[.string s,nV b,iV bd]⟩] [];replace hmo:=hmo.trans u8;replace hs:=((hs.a_Seg hSq5).add (K:=fun h_=>PtH h_ pq5 v1) hTq5);refine lL hs [.m 3 11] (ae (ab hs [.m 12 3,.v 13 qF] (af (cK (ab hs [.m 14 3,.v 15 (pB tbq5)] (lH 16 (pX pq5) hs hs.f.2.1 ?_))))));refine fU 17 (xB 7 pq5 v1 _ _ hs.g hs.f.1) ?_;rintro _ _ _ u12 ⟨pq9,rfl,hTq9⟩;replace hmo:=hmo.trans (u12.m _);replace hs:=hs.step u12;replace hs:=(hs.add (K:=fun h_=>PtH h_ pq9 (ll 7 v1)) hTq9);refine uS 4 46 ([iV 0,iV 0,qF,uV 0,eS,uV 0,eS,eS,sZ]) hs (fun za _ _ u16 hlo_b13 hs=>?_);replace hlo_b13:=Nat.le_trans hmo.gr.size hlo_b13;replace hmo:=hmo.trans (u16.m _);refine hJ 0 0 (pC pq9) hs (fun _ pu hs=>?_);replace hmo:=hmo.put2 pu hlo_b13 g hs.g;refine aJ (lL hs [.m 2 4] (lN (kX ?_)));obtain ⟨zb,hs,hmo,sg19⟩:=hs.pubM hmo 0 hlo_b13;replace hs:=hs.to [⟨pb,113,[.string s,nV b,iV bd]⟩] [];have sg21:Seg zb za 0 (cj pq9):=sg19;replace hs:=hs.a_Seg sg21;exact hs.retM hmo [] (pB za) (by rw[ht_];exact ⟨za,pq9,rfl,by first|assumption|omega,hs.own 0,hs.f.1,hs.f.2.1⟩)
 replace hs:=(hs.stepM 0 u4 hOq1).to [⟨pb,113,[.string s,nV (sk s a),iV bd]⟩] [];replace hmo:=hmo.trans u4;have hcF:=hcq1;refine lL hs [.v 7 qT] (am (ab hs [.m 8 0] (dH 9 (ihp pb s hsz (sk s a) oM bd t b (qw hq hcF) _ _ hs.g (hs.own 0) (hs.jk 0)) ?_)));rintro _ _ _ u25 ⟨tbq22,pq22,rfl,hbq22,hOq22,hSq22,hTq22⟩;replace hs:=(hs.stepM 0 u25 hOq22).to [⟨pb,113,[.string s,nV b,iV bd]⟩] [];replace hmo:=hmo.trans u25;replace hs:=((hs.a_Seg hSq22).add (K:=fun h_=>PtH h_ pq22 t) hTq22);exact lL hs [.m 2 9] (lN (kX (hs.retM hmo [] (pB tbq22) (by exact ⟨tbq22,pq22,rfl,by first|assumption|omega,hs.own 0,hs.f.2.1,hs.f.1⟩))))
end
theorem E9 (c:Nat)(hc:c<256)(w:World)(h:Hp)(g:G w h):CV 216 #[.int .u8 (c:Nat)] w h (.bool (j4 c)):=by
 have hs:=sS g;refine go Tryz.func216 [(0,.int .u8 (c:Nat))] rfl (ab hs [.v 2 qF] (aJ (lL hs [.m 3 0] (ah 4 hs (ik c hc _ _ hs.g) (fun w1 h2 hs=>?_)))));cases hb3:(decide (48≤c∧c≤57))
 ·
  have phb3:=oF hb3;refine lL hs [.m 5 4,.m 6 0] ?_;cases hb4:((c:Int) == (46:Int))
  ·
   have phb4:=ag hb4;exact lB 7 hb4 (lL hs [.v 8 qF,.m 2 8] (ac hs [] qF (congrArg Value.bool (decide_eq_false oM).symm)))
  have phb4:=eq_of_beq hb4;exact lB 7 hb4 (lL hs [.v 8 qT,.m 2 8] (ac hs [] qT (congrArg Value.bool (decide_eq_true oM).symm)))
 have phb3:=oT hb3;refine lL hs [.m 5 4] (lG 6 ?_);exact lG 7 (lL hs [.v 8 qT,.m 2 8] (ac hs [] qT (congrArg Value.bool (decide_eq_true oM).symm)))
theorem PtH.setN {h:Hp}{p:PTm}{op n:Int}{q:Rat}{s:ByteArray}{ks:List Tm}(x:PtH h p (.mk op n q s ks))(m:Int):PtH h ⟨p.op,m,p.q,p.s,p.A,p.m,p.c⟩ (.mk op m q s ks):=by
 obtain ⟨d,x⟩:=x
 match d,x with
 | d+1,⟨h1,_,h3,h4,h5,h6,h7⟩=>exact ⟨d+1,h1,rfl,h3,h4,h5,h6,h7⟩
theorem rP {x:ByteArray}(h:cn x=true):9≤da x∧da x≤13:=by
 have h:=oT h
 revert h
 unfold da
 repeat' split
 all_goals intro h;first|(constructor<;>decide)|exact absurd rfl h
theorem vV {op:Int}(h:9≤op∧op≤13):((op=12∨op=13)∧eg op=2)∨(¬(op=12∨op=13)∧eg op=1):=by
 have:=aG op
 omega
def Fh (nf bf:ByteArray→Option Rat)(n:Nat):Prop:=∀ (op:Int),9≤op∧op≤13→∀ (pb:Nat) (s:ByteArray),s.size≤1000000→∀ (a:Nat),a≤s.size→∀ (bd:Int) (t:Tm) (b:Nat),dl nf bf s n (.call op) a=some (.ok t b)→∀ (w:World) (h:Hp),G w h→Own w pb 113 [.string s,nV a,iV bd]→h[pb]?=some junk→Calls Tryz.prog 217 #[pB pb,iV op] w (dL pb w h (wZ pb s t b bd))
def Cd (nf:ByteArray→Option Rat):Prop:=∀ x q,nf x=some q→∀ (w:World) (h:Hp),G w h→CV 215 #[.string x] w h (.tuple #[qv q,.bool true])
def AH:Prop:=∀ (x:ByteArray) (k:Nat),x.size≤3→i8 x=some k→∀ (w:World) (h:Hp),G w h→CV 190 #[.string x] w h (.tuple #[nv k,.bool true])
section
variable {nf bf:ByteArray→Option Rat} (n:Nat)
theorem B4  (hnp:AH)(iha:PC nf bf 188 n .atom)(pb:Nat)(s:ByteArray)(hsz:s.size≤1000000)(a:Nat)(ha:a≤s.size)(bd:Int)(t:Tm)(b:Nat)(hq:dl nf bf s (n+1) .pow a=some (.ok t b))(w:World)(h:Hp)(g:G w h)(ho:Own w pb 113 [.string s,nV a,iV bd])(hj:h[pb]?=some junk):Calls Tryz.prog 164 #[pB pb] w (dL pb w h (wZ pb s t b bd)):=by
 have hmo:UpM [pb] w h w h:=UpM.refl g;obtain ⟨wz,hz0_,hs⟩:=SS.at_ g ho hj;obtain ⟨v1,e1,hv1,hP0,hP1⟩:=vM hq;refine go Tryz.func164 [(0,pB pb)] rfl (ab hs [.v 2 (.pointer none)] (aJ (lL hs [.m 12 0] (dH 13 (iha pb s hsz a ha bd v1 e1 hv1 _ _ hs.g (hs.own 0) (hs.jk 0)) ?_))));rintro _ w2 h3 u4 ⟨tbq1,pq1,rfl,hbq1,hOq1,hSq1,hTq1⟩;replace hs:=(hs.stepM 0 u4 hOq1).to [⟨pb,113,[.string s,nV e1,iV bd]⟩] [];replace hmo:=hmo.trans u4;replace hs:=((hs.a_Seg hSq1).add (K:=fun h_=>PtH h_ pq1 v1) hTq1);refine lL hs [.m 3 13] (ae (ab hs [.m 14 3,.v 15 qF,.m 16 15,.m 17 0] ?_));have hskq5:=gn (s:=s) (a:=e1) oM;refine dH 18 (kF pb s hsz e1 oM bd 94 kD _ _ hs.g (hs.own 0) (hs.jk 0)) ?_;rintro _ w6 h7 u8 (⟨rfl,hcq5,hlq5,hOq5⟩|⟨rfl,hcq5,hOq5⟩)
 ·
  replace hs:=(hs.stepM 0 u8 hOq5).to [⟨pb,113,[.string s,nV (sk s e1+1),iV bd]⟩] [];replace hmo:=hmo.trans u8;have zb:=hcq5;obtain ⟨k,hnat,hbe_,hb3_,ht_⟩:=vm (hP1 zb);refine lL hs [.v 19 qF,.v 20 qF] (af (cK (ab hs [.m 22 0] ?_)));have hskq9:=gn (s:=s) (a:=(sk s e1+1)) oM;refine dH 23 (kF pb s hsz (sk s e1+1) oM bd 45 kD _ _ hs.g (hs.own 0) (hs.jk 0)) ?_;rintro _ _ _ u12 (⟨rfl,hcq9,hlq9,hOq9⟩|⟨rfl,hcq9,hOq9⟩)
  ·
   replace hs:=(hs.stepM 0 u12 hOq9).to [⟨pb,113,[.string s,nV (sk s (sk s e1+1)+1),iV bd]⟩] [];replace hmo:=hmo.trans u12;rw[if_pos hcq9] at hnat hbe_ hb3_ ht_
   generalize hB1:sk s (sk s (sk s e1+1)+1)=B at hnat hbe_ hb3_ ht_
   rw[←Int.zero_sub] at ht_
   refine lL hs [.m 4 23] (aJ (lL hs [.m 24 0] ?_));have hskB:=gn (s:=s) (a:=(sk s (sk s e1+1)+1)) oM;refine dH 25 (mQ pb s hsz (sk s (sk s e1+1)+1) oM bd _ _ hs.g (hs.own 0) (hs.jk 0)) ?_;rintro _ _ _ u15 ⟨rfl,hOp⟩;rw[hB1] at hOp hskB
   rw[hB1];replace hs:=(hs.stepM 0 u15 hOp).to [⟨pb,113,[.string s,nV B,iV bd]⟩] [];replace hmo:=hmo.trans u15;have hdge:=Ah i9 s B;have hdgl:=nC (p:=i9) (s:=s) (a:=B) hskB;rw[←hbe_] at hdge hdgl
   have hxs:(s.extract B b).size=b-B:=by rw[ByteArray.size_extract];omega
   have hk9:=oR hnat oM;refine aJ (lL hs [.m 26 0,.v 27 (pB pb),.v 28 (qP pb 1),.o 29 (nV B) 0 1 1,.m 5 29] (aJ (lL hs [.m 30 0] (dH 31 (xc 157 i9 (fun _ _=>by kernel_rfl) (fun c hc w h g=>ik c hc w h g) pb s hsz B oM bd _ _ hs.g (hs.own 0) (hs.jk 0)) ?_))));rintro _ _ _ u18 ⟨rfl,hOr⟩;rw[←hbe_] at hOr
   rw[←hbe_];replace hs:=(hs.stepM 0 u18 hOr).to [⟨pb,113,[.string s,nV b,iV bd]⟩] [];replace hmo:=hmo.trans u18;refine lL hs [.m 6 31] (ae (ab hs [.m 32 6,.v 33 (nV ((s.extract B b).size))] ?_));have zd:(decide ((3:Int)<(((s.extract B b).size:Nat):Int)))=false:=decide_eq_false oM;refine lB 34 zd (af (cK (ab hs [.m 39 6] (fU 40 (hnp (s.extract B b) k oM hnat _ _ hs.g) ?_))));rintro _ _ _ u22 rfl;replace hmo:=hmo.trans (u22.m _);replace hs:=hs.step u22;refine lL hs [.m 38 40,.v 41 (nv k),.v 42 qT] (uS 7 39 ([uV 0,eS]) hs (fun zf _ _ u26 hlo_b23 hs=>?_));replace hlo_b23:=Nat.le_trans hmo.gr.size hlo_b23;replace hmo:=hmo.trans (u26.m _);refine hJ 0 0 (nc k) hs (fun _ pu hs=>?_);replace hmo:=hmo.put2 pu hlo_b23 g hs.g;refine lL hs [.m 8 42] (ae (ab hs [.m 43 8,.v 44 qF] (af (cK (ab hs [.o 49 (nv k) 0 0 2] (fU 50 (hC k oM _ _ hs.g) ?_))))));rintro _ _ _ u30 rfl;replace hmo:=hmo.trans (u30.m _);replace hs:=hs.step u30;refine lL hs [.m 48 50,.v 51 (mV k),.v 52 qT,.m 9 51,.m 10 52] (lN (bJ [(2,.pointer none),(3,pB tbq1),(4,qT),(9,mV k)] ?_));refine ab hs [.m 53 3,.v 54 (pB tbq1)] (lH 55 (pX pq1) hs hs.f.2.1 ?_);refine fU 56 (xB 8 pq1 v1 _ _ hs.g hs.f.1) ?_;rintro _ _ _ u34 ⟨pq31,rfl,hTq31⟩;replace hmo:=hmo.trans (u34.m _);replace hs:=hs.step u34;replace hs:=(hs.add (K:=fun h_=>PtH h_ pq31 (ll 8 v1)) hTq31);refine uS 11 46 ([iV 0,iV 0,qF,uV 0,eS,uV 0,eS,eS,sZ]) hs (fun za _ _ u38 hlo_b35 hs=>?_);replace hlo_b35:=Nat.le_trans hmo.gr.size hlo_b35;replace hmo:=hmo.trans (u38.m _);refine hJ 0 0 (pC pq31) hs (fun _ pu hs=>?_);replace hmo:=hmo.put2 pu hlo_b35 g hs.g;refine aJ (lL hs [.m 57 9] (lV 58 (nV k) ?_ (hr:=rS ((k:Int)) kR (gA oM oM))));refine lL hs [.v 59 (qP za 1)] (hJ 0 1 ([nV k]) hs (fun _ pu hs=>?_));replace hmo:=hmo.put2 pu hlo_b35 g hs.g;refine ae (ab hs [.m 60 4] (am (kQ (lL hs [.v 61 (qP za 1),.o 62 (nV k) 0 1 1] (lI 63 (0-(k:Nat)) ?_)))));refine lL hs [.v 64 (qP za 1)] (hJ 0 1 ([iV (0-(k:Nat))]) hs (fun _ pu hs=>?_));replace hmo:=hmo.put2 pu hlo_b35 g hs.g;refine aJ (lL hs [.m 2 11] (lN (kX ?_)));obtain ⟨zg,hs,hmo,sg43⟩:=hs.pubM hmo 0 hlo_b35;replace hs:=hs.to [⟨zf,39,nc k⟩,⟨pb,113,[.string s,nV b,iV bd]⟩] [];have sg45:Seg zg za 0 (cj ⟨pq31.op,0-(k:Nat),pq31.q,pq31.s,pq31.A,pq31.m,pq31.c⟩):=sg43;replace hs:=hs.a_Seg sg45;exact hs.retM hmo [] (pB za) (by rw[ht_];exact ⟨za,⟨pq31.op,0-(k:Nat),pq31.q,pq31.s,pq31.A,pq31.m,pq31.c⟩,rfl,by first|assumption|omega,hs.own 1,hs.f.1,(PtH.setN hs.f.2.1 _)⟩)
  replace hs:=(hs.stepM 0 u12 hOq9).to [⟨pb,113,[.string s,nV (sk s (sk s e1+1)),iV bd]⟩] [];replace hmo:=hmo.trans u12;rw[if_neg hcq9] at hnat hbe_ hb3_ ht_
  generalize hB1:sk s (sk s (sk s e1+1))=B at hnat hbe_ hb3_ ht_
  refine lL hs [.m 4 23] (aJ (lL hs [.m 24 0] ?_));have hskB:=gn (s:=s) (a:=(sk s (sk s e1+1))) oM;refine dH 25 (mQ pb s hsz (sk s (sk s e1+1)) oM bd _ _ hs.g (hs.own 0) (hs.jk 0)) ?_;rintro _ _ _ u48 ⟨rfl,hOp⟩;rw[hB1] at hOp hskB
  rw[hB1];replace hs:=(hs.stepM 0 u48 hOp).to [⟨pb,113,[.string s,nV B,iV bd]⟩] [];replace hmo:=hmo.trans u48;have hdge:=Ah i9 s B;have hdgl:=nC (p:=i9) (s:=s) (a:=B) hskB;rw[←hbe_] at hdge hdgl
  have hxs:(s.extract B b).size=b-B:=by rw[ByteArray.size_extract];omega
  have hk9:=oR hnat oM;refine aJ (lL hs [.m 26 0,.v 27 (pB pb),.v 28 (qP pb 1),.o 29 (nV B) 0 1 1,.m 5 29] (aJ (lL hs [.m 30 0] (dH 31 (xc 157 i9 (fun _ _=>by kernel_rfl) (fun c hc w h g=>ik c hc w h g) pb s hsz B oM bd _ _ hs.g (hs.own 0) (hs.jk 0)) ?_))));rintro _ _ _ u51 ⟨rfl,hOr⟩;rw[←hbe_] at hOr
  rw[←hbe_];replace hs:=(hs.stepM 0 u51 hOr).to [⟨pb,113,[.string s,nV b,iV bd]⟩] [];replace hmo:=hmo.trans u51;refine lL hs [.m 6 31] (ae (ab hs [.m 32 6,.v 33 (nV ((s.extract B b).size))] ?_));have ze:(decide ((3:Int)<(((s.extract B b).size:Nat):Int)))=false:=decide_eq_false oM;refine lB 34 ze (af (cK (ab hs [.m 39 6] (fU 40 (hnp (s.extract B b) k oM hnat _ _ hs.g) ?_))));rintro _ _ _ u55 rfl;replace hmo:=hmo.trans (u55.m _);replace hs:=hs.step u55;refine lL hs [.m 38 40,.v 41 (nv k),.v 42 qT] (uS 7 39 ([uV 0,eS]) hs (fun zi _ _ u59 hlo_b56 hs=>?_));replace hlo_b56:=Nat.le_trans hmo.gr.size hlo_b56;replace hmo:=hmo.trans (u59.m _);refine hJ 0 0 (nc k) hs (fun _ pu hs=>?_);replace hmo:=hmo.put2 pu hlo_b56 g hs.g;refine lL hs [.m 8 42] (ae (ab hs [.m 43 8,.v 44 qF] (af (cK (ab hs [.o 49 (nv k) 0 0 2] (fU 50 (hC k oM _ _ hs.g) ?_))))));rintro _ _ _ u63 rfl;replace hmo:=hmo.trans (u63.m _);replace hs:=hs.step u63;refine lL hs [.m 48 50,.v 51 (mV k),.v 52 qT,.m 9 51,.m 10 52] (lN (bJ [(2,.pointer none),(3,pB tbq1),(4,qF),(9,mV k)] ?_));refine ab hs [.m 53 3,.v 54 (pB tbq1)] (lH 55 (pX pq1) hs hs.f.2.1 ?_);refine fU 56 (xB 8 pq1 v1 _ _ hs.g hs.f.1) ?_;rintro _ _ _ u67 ⟨pq64,rfl,hTq64⟩;replace hmo:=hmo.trans (u67.m _);replace hs:=hs.step u67;replace hs:=(hs.add (K:=fun h_=>PtH h_ pq64 (ll 8 v1)) hTq64);refine uS 11 46 ([iV 0,iV 0,qF,uV 0,eS,uV 0,eS,eS,sZ]) hs (fun zc _ _ u71 hlo_b68 hs=>?_);replace hlo_b68:=Nat.le_trans hmo.gr.size hlo_b68;replace hmo:=hmo.trans (u71.m _);refine hJ 0 0 (pC pq64) hs (fun _ pu hs=>?_);replace hmo:=hmo.put2 pu hlo_b68 g hs.g;refine aJ (lL hs [.m 57 9] (lV 58 (nV k) ?_ (hr:=rS ((k:Int)) kR (gA oM oM))));refine lL hs [.v 59 (qP zc 1)] (hJ 0 1 ([nV k]) hs (fun _ pu hs=>?_));replace hmo:=hmo.put2 pu hlo_b68 g hs.g;refine ae (ab hs [.m 60 4] (af (cK (ab hs [.m 2 11] (lN (kX ?_))))));obtain ⟨zj,hs,hmo,sg75⟩:=hs.pubM hmo 0 hlo_b68;replace hs:=hs.to [⟨zi,39,nc k⟩,⟨pb,113,[.string s,nV b,iV bd]⟩] [];have sg77:Seg zj zc 0 (cj ⟨pq64.op,(k:Nat),pq64.q,pq64.s,pq64.A,pq64.m,pq64.c⟩):=sg75;replace hs:=hs.a_Seg sg77;exact hs.retM hmo [] (pB zc) (by rw[ht_];exact ⟨zc,⟨pq64.op,(k:Nat),pq64.q,pq64.s,pq64.A,pq64.m,pq64.c⟩,rfl,by first|assumption|omega,hs.own 1,hs.f.1,(PtH.setN hs.f.2.1 _)⟩)
 replace hs:=(hs.stepM 0 u8 hOq5).to [⟨pb,113,[.string s,nV (sk s e1),iV bd]⟩] [];replace hmo:=hmo.trans u8;have zb:=hcq5;refine lL hs [.v 19 qT,.v 20 qT] (am (ab hs [.m 21 3,.m 2 21] (lN (kX ?_))));obtain ⟨ht_,hb_⟩:=hP0 zb;exact hs.retM hmo [] (pB tbq1) (by rw[ht_];rw[hb_];exact ⟨tbq1,pq1,rfl,by first|assumption|omega,hs.own 0,hs.f.2.1,hs.f.1⟩)
theorem DV  (hnf:Cd nf)(ihc:Fh nf (fun _=>none) n)(ihs:PC nf (fun _=>none) 55 n .sum)(pb:Nat)(s:ByteArray)(hsz:s.size≤1000000)(a:Nat)(ha:a≤s.size)(bd:Int)(t:Tm)(b:Nat)(hq:dl nf (fun _=>none) s (n+1) .atom a=some (.ok t b))(w:World)(h:Hp)(g:G w h)(ho:Own w pb 113 [.string s,nV a,iV bd])(hj:h[pb]?=some junk):Calls Tryz.prog 188 #[pB pb] w (dL pb w h (wZ pb s t b bd)):=by
 have hmo:UpM [pb] w h w h:=UpM.refl g;obtain ⟨wz,hz0_,hs⟩:=SS.at_ g ho hj;refine go Tryz.func188 [(0,pB pb)] rfl (ab hs [.v 2 (.pointer none)] (aJ (lL hs [.m 12 0] ?_)));have hskq1:=gn (s:=s) (a:=a) oM;refine dH 13 (mQ pb s hsz a ha bd _ _ hs.g (hs.own 0) (hs.jk 0)) ?_;rintro _ w2 h3 u4 ⟨rfl,hOq1⟩;replace hs:=(hs.stepM 0 u4 hOq1).to [⟨pb,113,[.string s,nV (sk s a),iV bd]⟩] [];replace hmo:=hmo.trans u4;refine lL hs [.m 3 13] (aJ (lL hs [.m 14 0,.v 15 (pB pb),.v 16 (qP pb 1),.o 17 (nV (sk s a)) 0 1 1,.m 4 17] (ae (kZ (CG.join (fun Γ w_=>∃ (ze:Bool) (h_:Hp),Γ=[(0,pB pb),(2,.pointer none),(3,.int .u8 (aD s (sk s a):Nat)),(4,nV (sk s a)),(18,.bool ze)]∧SS wz hz0_ w_ h_ [⟨pb,113,[.string s,nV (sk s a),iV bd]⟩] [] []∧(ze=true→¬¬((48≤aD s (sk s a)∧aD s (sk s a)≤57)∨aD s (sk s a)=46))∧(ze=false→j4 (aD s (sk s a))=false)∧UpM [pb] w h w_ h_) ?_ ?_)))))
 ·
  refine kQ (lL hs [.m 19 3] (fU 20 (ik (aD s (sk s a)) (bS _ _) _ _ hs.g) ?_));rintro _ w5 h6 u7 rfl;replace hmo:=hmo.trans (u7.m _);replace hs:=hs.step u7;cases hb8:(decide (48≤aD s (sk s a)∧aD s (sk s a)≤57))
  ·
   have phb8:=oF hb8;refine lL hs [.m 21 20,.m 22 3] ?_;cases hb9:(((aD s (sk s a):Nat):Int) == (46:Int))
   ·
    have phb9:=ag hb9;refine lB 23 hb9 (lL hs [.v 24 qF,.m 18 24] (lD ?_));intro a_ ka;exact ⟨_,⟨false,h6,rfl,hs.to _ _,(fun h_=>absurd h_ kD),(fun _=>decide_eq_false oM),hmo⟩,ka.to _ kR⟩
   have phb9:=eq_of_beq hb9;refine lB 23 hb9 (lL hs [.v 24 qT,.m 18 24] (lD ?_));intro a_ ka;exact ⟨_,⟨true,h6,rfl,hs.to _ _,(fun _=>by omega),(fun h_=>absurd h_ kD),hmo⟩,ka.to _ kR⟩
  have phb8:=oT hb8;refine lL hs [.m 21 20] (lG 22 ?_);refine lG 23 (lL hs [.v 24 qT,.m 18 24] (lD ?_));intro a_ ka;exact ⟨_,⟨true,h6,rfl,hs.to _ _,(fun _=>by omega),(fun h_=>absurd h_ kD),hmo⟩,ka.to _ kR⟩
 rintro _ _ ⟨ze,_,rfl,hs,zo,hD18,hmo⟩;cases za:(ze)
 ·
  try rw[za] at hs
  try rw[za]
  refine cF (CG.join (fun Γ w_=>∃ (zf:Bool) (h_:Hp),Γ=[(0,pB pb),(2,.pointer none),(3,.int .u8 (aD s (sk s a):Nat)),(4,nV (sk s a)),(38,.bool zf)]∧SS wz hz0_ w_ h_ [⟨pb,113,[.string s,nV (sk s a),iV bd]⟩] [] []∧(zf=true→fN (aD s (sk s a))∨aD s (sk s a)=95)∧(zf=false→¬(fN (aD s (sk s a))∨aD s (sk s a)=95))∧UpM [pb] w h w_ h_) ?_ ?_)
  ·
   refine kQ (lL hs [.m 39 3] (fU 40 (jN (aD s (sk s a)) (bS _ _) _ _ hs.g) ?_));rintro _ _ zg u24 rfl;replace hmo:=hmo.trans (u24.m _);replace hs:=hs.step u24;cases zi:(decide (fN (aD s (sk s a))))
   ·
    have zl:=oF zi;refine lL hs [.m 41 40,.m 42 3] ?_;cases zb:(((aD s (sk s a):Nat):Int) == (95:Int))
    ·
     have zm:=ag zb;refine lB 43 zb (lL hs [.v 44 qF,.m 38 44] (lD ?_));intro a_ ka;exact ⟨_,⟨false,zg,rfl,hs.to _ _,(fun h_=>absurd h_ kD),(fun _ h_=>by rcases h_ with h_|h_;exact absurd h_ aM;omega),hmo⟩,ka.to _ kR⟩
    have zm:=eq_of_beq zb;refine lB 43 zb (lL hs [.v 44 qT,.m 38 44] (lD ?_));intro a_ ka;exact ⟨_,⟨true,zg,rfl,hs.to _ _,(fun _=>by first|exact .inl aM|exact .inr oM),(fun h_=>absurd h_ kD),hmo⟩,ka.to _ kR⟩
   have zl:=oT zi;refine lL hs [.m 41 40] (lG 42 ?_);refine lG 43 (lL hs [.v 44 qT,.m 38 44] (lD ?_));intro a_ ka;exact ⟨_,⟨true,zg,rfl,hs.to _ _,(fun _=>by first|exact .inl aM|exact .inr oM),(fun h_=>absurd h_ kD),hmo⟩,ka.to _ kR⟩
  rintro _ _ ⟨zf,_,rfl,hs,hW38,hN38,hmo⟩;cases zc:(zf)
  ·
   try rw[zc] at hs
   try rw[zc]
   refine cF (ab hs [.m 67 3] ?_);have zn:aD s (sk s a)≠91:=fun e_=>by obtain ⟨_,q_,h_,_⟩:=Cg hq (hD18 aM) (hN38 aM) e_;cases h_
   have zp:(((aD s (sk s a):Nat):Int) == (91:Int))=false:=dM oM;refine lB 68 zp (lL hs [.m 66 68] (af (ab hs [.m 72 3] ?_)));have zr:aD s (sk s a)=40:=Decidable.byContradiction fun e_=>Bk hq (hD18 aM) (hN38 aM) zn e_
   obtain ⟨e1,hq1,hd1,hbe_⟩:=wI hq (hD18 aM) (hN38 aM) zn zr;have hin_:=sN (s:=s) (a:=sk s a) oM;have zq:(((aD s (sk s a):Nat):Int) == (40:Int))=true:=jF oM;refine lB 73 zq (lL hs [.m 71 73] (am (ab hs [.m 74 0,.v 75 (pB pb),.v 76 (qP pb 1),.o 77 (nV (sk s a)) 0 1 1] (bu 78 ((sk s a:Nat)+1) ((sk s a)+1) ?_))));refine lL hs [.v 79 (pB pb),.v 80 (qP pb 1)] (hJ 0 1 ([nV ((sk s a)+1)]) hs (fun _ pu hs=>?_));replace hmo:=hmo.put pu (List.mem_singleton.2 rfl) hs.g;refine aJ (lL hs [.m 81 0] (dH 82 (ihs pb s hsz ((sk s a)+1) oM bd t e1 hq1 _ _ hs.g (hs.own 0) (hs.jk 0)) ?_));rintro _ _ _ u45 ⟨tbq42,pq42,rfl,hbq42,hOq42,hSq42,hTq42⟩;replace hs:=(hs.stepM 0 u45 hOq42).to [⟨pb,113,[.string s,nV e1,iV bd]⟩] [];replace hmo:=hmo.trans u45;replace hs:=((hs.a_Seg hSq42).add (K:=fun h_=>PtH h_ pq42 t) hTq42);refine lL hs [.m 11 82] (ae (ab hs [.m 83 11,.v 84 qT,.m 85 84,.m 86 0] (dH 87 (jP pb s hsz e1 oM bd 41 kD hd1 _ _ hs.g (hs.own 0) (hs.jk 0)) ?_)));rintro _ _ _ u49 ⟨rfl,hlq46,hOq46⟩;replace hs:=(hs.stepM 0 u49 hOq46).to [⟨pb,113,[.string s,nV (sk s e1+1),iV bd]⟩] [];replace hmo:=hmo.trans u49;exact lL hs [.v 88 qF,.v 89 qF] (af (cK (ab hs [.m 96 11,.m 2 96] (lN (kX (hs.retM hmo [] (pB tbq42) (by rw[hbe_];exact ⟨tbq42,pq42,rfl,by first|assumption|omega,hs.own 0,hs.f.2.1,hs.f.1⟩)))))))
  try rw[zc] at hs
  try rw[zc]
  refine cf (ab hs [.m 45 0] ?_);have hcW:=hW38 aM;have hbl_:=nC (p:=dm) (s:=s) (a:=sk s a) oM;refine dH 46 (xc 122 dm (fun _ _=>by kernel_rfl) (fun c hc w h g=>ng c hc w h g) pb s hsz (sk s a) oM bd _ _ hs.g (hs.own 0) (hs.jk 0)) ?_;rintro _ _ _ u52 ⟨rfl,hOr⟩;replace hs:=(hs.stepM 0 u52 hOr).to [⟨pb,113,[.string s,nV (rn dm s (sk s a)),iV bd]⟩] [];replace hmo:=hmo.trans u52;refine lL hs [.m 8 46] (ae (aA (fU 48 (oZ _ _ hs.g) ?_)));rintro _ _ _ u55 ⟨bm,rfl,hcm⟩;replace hmo:=hmo.trans (u55.m _);replace hs:=hs.step u55;replace hs:=(hs.add (K:=fun h_=>MapS h_ bm gJ) hcm);refine lL hs [.m 49 8] (Ff 50 180 9 3 (s.extract (sk s a) (rn dm s (sk s a))) true (iV (da (s.extract (sk s a) (rn dm s (sk s a))))) ((cn (s.extract (sk s a) (rn dm s (sk s a))))) hs hs.f.1 ?_ (hf:=(by rcases pF (s.extract (sk s a) (rn dm s (sk s a))) with ⟨i_,e1_,e2_⟩|⟨e1_,e2_,e3_⟩;exact .inl ⟨i_,e1_,e2_⟩;exact .inr ⟨e1_,e2_,fun _=>by rw[e3_];kernel_rfl⟩)));refine lL hs [.m 47 50,.v 51 (iV (da (s.extract (sk s a) (rn dm s (sk s a))))),.v 52 (.bool (cn (s.extract (sk s a) (rn dm s (sk s a))))),.m 9 51,.m 10 52] (aJ (lL hs [.m 53 10] (lN ?_)));cases zd:((cn (s.extract (sk s a) (rn dm s (sk s a)))))
  ·
   try rw[zd] at hs
   try rw[zd]
   refine cF (cK (cQ (ab hs [.m 57 8] ?_)));obtain ⟨hnm,ht_,hbe_⟩:=wU hq (hD18 aM) hcW aM;refine fU 58 ((by have q_:=AO (s.extract (sk s a) (rn dm s (sk s a))) (by rw[ByteArray.size_extract];omega) _ _ hs.g;rw[hnm] at q_;exact q_)) ?_;rintro _ _ _ u59 rfl;replace hmo:=hmo.trans (u59.m _);replace hs:=hs.step u59;refine lL hs [.v 59 qF] (af (cK (ab hs [.m 63 8,.v 64 (.agg #[iV 2,iV 0,qF,uV 0,eS,uV 0,eS,.string (s.extract (sk s a) (rn dm s (sk s a))),sZ])] (uS 65 46 ([iV 2,iV 0,qF,uV 0,eS,uV 0,eS,.string (s.extract (sk s a) (rn dm s (sk s a))),sZ]) hs (fun zj _ _ u63 hlo_b60 hs=>?_)))));replace hlo_b60:=Nat.le_trans hmo.gr.size hlo_b60;replace hmo:=hmo.trans (u63.m _);refine lL hs [.m 2 65] (lN (kX ?_));obtain ⟨zs,hs,hmo,sg65⟩:=hs.pubM hmo 0 hlo_b60;replace hs:=hs.to [⟨pb,113,[.string s,nV (rn dm s (sk s a)),iV bd]⟩] [];have sg67:Seg zs zj 0 (cj ⟨2,0,0,(s.extract (sk s a) (rn dm s (sk s a))),none,0,0⟩):=sg65;replace hs:=hs.a_Seg sg67;exact hs.retM hmo [] (pB zj) (by rw[ht_];rw[hbe_];exact ⟨zj,⟨2,0,0,(s.extract (sk s a) (rn dm s (sk s a))),none,0,0⟩,rfl,by first|assumption|omega,hs.own 0,hs.f.1,PtH.nam⟩)
  try rw[zd] at hs
  try rw[zd]
  refine cf (ab hs [.m 54 0,.m 55 9] (dH 56 (ihc (da (s.extract (sk s a) (rn dm s (sk s a)))) (rP aM) pb s hsz (rn dm s (sk s a)) oM bd t b (Bd hq (hD18 aM) hcW aM) _ _ hs.g (hs.own 0) (hs.jk 0)) ?_));rintro _ _ _ u71 ⟨tbq68,pq68,rfl,hbq68,hOq68,hSq68,hTq68⟩;replace hs:=(hs.stepM 0 u71 hOq68).to [⟨pb,113,[.string s,nV b,iV bd]⟩] [];replace hmo:=hmo.trans u71;replace hs:=((hs.a_Seg hSq68).add (K:=fun h_=>PtH h_ pq68 t) hTq68);exact lL hs [.m 2 56] (lN (kX (hs.retM hmo [] (pB tbq68) (by exact ⟨tbq68,pq68,rfl,by first|assumption|omega,hs.own 0,hs.f.2.1,hs.f.1⟩))))
 try rw[za] at hs
 try rw[za]
 refine cf (ab hs [.m 26 0] ?_);obtain ⟨q,hnq,ht_,hbe_⟩:=uZ hq (decide_eq_true (Decidable.byContradiction fun h_=>zo aM h_));have hbl_:=nC (p:=j4) (s:=s) (a:=sk s a) oM;refine dH 27 (xc 216 j4 (fun _ _=>by kernel_rfl) (fun c hc w h g=>E9 c hc w h g) pb s hsz (sk s a) oM bd _ _ hs.g (hs.own 0) (hs.jk 0)) ?_;rintro _ _ _ u74 ⟨rfl,hOr⟩;rw[←hbe_] at hOr hbl_
 replace hs:=(hs.stepM 0 u74 hOr).to [⟨pb,113,[.string s,nV b,iV bd]⟩] [];replace hmo:=hmo.trans u74;refine fU 28 (hnf _ _ hnq _ _ hs.g) ?_;rintro _ _ _ u77 rfl;replace hmo:=hmo.trans (u77.m _);replace hs:=hs.step u77;refine lL hs [.m 25 28,.v 29 (qv q),.v 30 qT] (uS 5 43 ([qF,uV 0,eS,uV 0,eS]) hs (fun zt _ _ u81 hlo_b78 hs=>?_));replace hlo_b78:=Nat.le_trans hmo.gr.size hlo_b78;replace hmo:=hmo.trans (u81.m _);refine hJ 0 0 (qc q) hs (fun _ pu hs=>?_);replace hmo:=hmo.put2 pu hlo_b78 g hs.g;refine lL hs [.m 6 30] (ae (ab hs [.m 31 6,.v 32 qF] (af (cK (ab hs [.o 36 (qv q) 0 0 5] (fU 37 (wN q _ _ hs.g) ?_))))));rintro _ _ _ u86 ⟨pq83,rfl,hTq83⟩;replace hmo:=hmo.trans (u86.m _);replace hs:=hs.step u86;replace hs:=(hs.add (K:=fun h_=>PtH h_ pq83 (eL q)) hTq83);refine uS 7 46 ([iV 0,iV 0,qF,uV 0,eS,uV 0,eS,eS,sZ]) hs (fun zk _ _ u90 hlo_b87 hs=>?_);replace hlo_b87:=Nat.le_trans hmo.gr.size hlo_b87;replace hmo:=hmo.trans (u90.m _);refine hJ 0 0 (pC pq83) hs (fun _ pu hs=>?_);replace hmo:=hmo.put2 pu hlo_b87 g hs.g;refine aJ (lL hs [.m 2 7] (lN (kX ?_)));obtain ⟨zu,hs,hmo,sg93⟩:=hs.pubM hmo 0 hlo_b87;replace hs:=hs.to [⟨zt,43,qc q⟩,⟨pb,113,[.string s,nV b,iV bd]⟩] [];have sg95:Seg zu zk 0 (cj pq83):=sg93;replace hs:=hs.a_Seg sg95;exact hs.retM hmo [] (pB zk) (by rw[ht_];exact ⟨zk,pq83,rfl,by first|assumption|omega,hs.own 1,hs.f.1,hs.f.2.1⟩)
theorem CQ  (op:Int)(hop:9≤op∧op≤13)(ihs:PC nf bf 55 n .sum)(pb:Nat)(s:ByteArray)(hsz:s.size≤1000000)(a:Nat)(ha:a≤s.size)(bd:Int)(t:Tm)(b:Nat)(hq:dl nf bf s (n+1) (.call op) a=some (.ok t b))(w:World)(h:Hp)(g:G w h)(ho:Own w pb 113 [.string s,nV a,iV bd])(hj:h[pb]?=some junk):Calls Tryz.prog 217 #[pB pb,iV op] w (dL pb w h (wZ pb s t b bd)):=by
 have hmo:UpM [pb] w h w h:=UpM.refl g;obtain ⟨wz,hz0_,hs⟩:=SS.at_ g ho hj;obtain ⟨zb,u1,e1,hq1,hA,hB⟩:=sU hq;refine go Tryz.func217 [(0,pB pb),(1,iV op)] rfl (ab hs [.v 4 (.pointer none)] (ae (ab hs [.m 8 0] (dH 9 (jP pb s hsz a ha bd 40 kD zb _ _ hs.g (hs.own 0) (hs.jk 0)) ?_))));rintro _ w2 h3 u4 ⟨rfl,hlq1,hOq1⟩;replace hs:=(hs.stepM 0 u4 hOq1).to [⟨pb,113,[.string s,nV (sk s a+1),iV bd]⟩] [];replace hmo:=hmo.trans u4;refine lL hs [.v 10 qF] (af (cK (ab hs [.m 17 0] (dH 18 (ihs pb s hsz (sk s a+1) oM bd u1 e1 hq1 _ _ hs.g (hs.own 0) (hs.jk 0)) ?_))));rintro _ w6 h7 u8 ⟨tbq5,pq5,rfl,hbq5,hOq5,hSq5,hTq5⟩;replace hs:=(hs.stepM 0 u8 hOq5).to [⟨pb,113,[.string s,nV e1,iV bd]⟩] [];replace hmo:=hmo.trans u8;replace hs:=((hs.a_Seg hSq5).add (K:=fun h_=>PtH h_ pq5 u1) hTq5);refine lL hs [.m 5 18] (ae (ab hs [.m 19 5,.v 20 qF] (af (cK (ab hs [.m 21 1,.m 22 5,.v 23 (pB tbq5)] (lH 24 (pX pq5) hs hs.f.2.1 ?_))))));refine fU 25 (xB op pq5 u1 _ _ hs.g hs.f.1) ?_;rintro _ _ _ u12 ⟨pq9,rfl,hTq9⟩;replace hmo:=hmo.trans (u12.m _);replace hs:=hs.step u12;replace hs:=(hs.add (K:=fun h_=>PtH h_ pq9 (ll op u1)) hTq9);refine uS 6 46 ([iV 0,iV 0,qF,uV 0,eS,uV 0,eS,eS,sZ]) hs (fun za _ _ u16 hlo_b13 hs=>?_);replace hlo_b13:=Nat.le_trans hmo.gr.size hlo_b13;replace hmo:=hmo.trans (u16.m _);refine hJ 0 0 (pC pq9) hs (fun _ pu hs=>?_);replace hmo:=hmo.put2 pu hlo_b13 g hs.g;refine ae (ab hs [.m 26 1] (fU 27 (oN op _ _ hs.g) ?_));rintro _ _ _ u20 rfl;replace hmo:=hmo.trans (u20.m _);replace hs:=hs.step u20
 rcases vV hop with ⟨ho2,har⟩|⟨ho2,har⟩
 ·
  have zc:((eg op:Int) == (2:Int))=true:=by rw[har];rfl
  refine lB 28 zc ?_;obtain ⟨hA1,v1,f1,hA2,hA3,hA4,hA5⟩:=hA ho2;refine am (cQ (ab hs [.m 29 0] (dH 30 (jP pb s hsz e1 oM bd 44 kD hA1 _ _ hs.g (hs.own 1) (hs.jk 1)) ?_)));rintro _ _ _ u25 ⟨rfl,hlq22,hOq22⟩;replace hs:=(hs.stepM 1 u25 hOq22).to [⟨za,46,pC pq9⟩,⟨pb,113,[.string s,nV (sk s e1+1),iV bd]⟩] [];replace hmo:=hmo.trans u25;refine lL hs [.v 31 qF] (af (cK (ab hs [.m 38 0] (dH 39 (ihs pb s hsz (sk s e1+1) oM bd v1 f1 hA2 _ _ hs.g (hs.own 1) (hs.jk 1)) ?_))));rintro _ _ _ u29 ⟨tbq26,pq26,rfl,hbq26,hOq26,hSq26,hTq26⟩;replace hs:=(hs.stepM 1 u29 hOq26).to [⟨za,46,pC pq9⟩,⟨pb,113,[.string s,nV f1,iV bd]⟩] [];replace hmo:=hmo.trans u29;replace hs:=((hs.a_Seg hSq26).add (K:=fun h_=>PtH h_ pq26 v1) hTq26);refine lL hs [.m 7 39] (ae (ab hs [.m 40 7,.v 41 qF] (af (cK (cR 8 [] mixed hs ar ?_)))));refine eV 0 42 (iV op) (eV 1 43 (pB tbq5) (eV 2 44 (pB tbq5) (eH 3 45 (pX pq5) hs hs.f.q.1 (eV 4 46 (pB tbq26) (eV 5 47 (pB tbq26) (eH 6 48 (pX pq26) hs hs.f.2.1 (CJ 7 49 hs hmo (fun _ _ hs=>By op pq5 pq26 u1 v1 _ _ hs.g hs.f.r.2.1 hs.f.1) ?_)))))));rintro _ _ _ _ _ hmo hs ⟨pq30,rfl,hTq30⟩;replace hs:=(hs.add (K:=fun h_=>PtH h_ pq30 (dd op u1 v1)) hTq30);refine gQ hs (fun _ _ u35 hs=>?_);replace hmo:=hmo.trans (u35.m _);refine EF 8 0 0 (pC pq30) hs (fun _ pu hs=>?_);replace hmo:=hmo.put2 pu hlo_b13 g hs.g;refine tN (cQ (ab hs [.m 50 0] (dH 51 (jP pb s hsz f1 oM bd 41 kD hA3 _ _ hs.g (hs.own 1) (hs.jk 1)) ?_)));rintro _ _ _ u40 ⟨rfl,hlq37,hOq37⟩;replace hs:=(hs.stepM 1 u40 hOq37).to [⟨za,46,pC pq30⟩,⟨pb,113,[.string s,nV (sk s f1+1),iV bd]⟩] [];replace hmo:=hmo.trans u40;refine lL hs [.v 52 qF] (af (cK (ab hs [.m 4 6] (lN (kX ?_)))));obtain ⟨ze,hs,hmo,sg42⟩:=hs.pubM hmo 0 hlo_b13;replace hs:=hs.to [⟨pb,113,[.string s,nV (sk s f1+1),iV bd]⟩] [];have sg44:Seg ze za 0 (cj pq30):=sg42;replace hs:=hs.a_Seg sg44;exact hs.retM hmo [] (pB za) (by rw[hA4];rw[hA5];exact ⟨za,pq30,rfl,by first|assumption|omega,hs.own 0,hs.f.1,hs.f.2.1⟩)
 have zd:((eg op:Int) == (2:Int))=false:=by rw[har];rfl
 refine lB 28 zd ?_;obtain ⟨hB1,hB2,hB3⟩:=hB ho2;refine af (cK (cQ (ab hs [.m 50 0] (dH 51 (jP pb s hsz e1 oM bd 41 kD hB1 _ _ hs.g (hs.own 1) (hs.jk 1)) ?_))));rintro _ _ _ u49 ⟨rfl,hlq46,hOq46⟩;replace hs:=(hs.stepM 1 u49 hOq46).to [⟨za,46,pC pq9⟩,⟨pb,113,[.string s,nV (sk s e1+1),iV bd]⟩] [];replace hmo:=hmo.trans u49;refine lL hs [.v 52 qF] (af (cK (ab hs [.m 4 6] (lN (kX ?_)))));obtain ⟨zf,hs,hmo,sg51⟩:=hs.pubM hmo 0 hlo_b13;replace hs:=hs.to [⟨pb,113,[.string s,nV (sk s e1+1),iV bd]⟩] [];have sg53:Seg zf za 0 (cj pq9):=sg51;replace hs:=hs.a_Seg sg53;exact hs.retM hmo [] (pB za) (by rw[hB2];rw[hB3];exact ⟨za,pq9,rfl,by first|assumption|omega,hs.own 0,hs.f.1,hs.f.2.1⟩)
end
section
variable {nf:ByteArray→Option Rat} (hnf:Cd nf) (hnp:AH)
include hnf hnp
def Fb (nf:ByteArray→Option Rat)(n:Nat):Prop:=PC nf (fun _=>none) 55 n .sum∧PC nf (fun _=>none) 85 n .prod∧PC nf (fun _=>none) 135 n .sign∧PC nf (fun _=>none) 164 n .pow∧PC nf (fun _=>none) 188 n .atom∧Fh nf (fun _=>none) n
theorem Et (n:Nat):Fb nf n:=by
  induction n using Nat.strongRecOn with
  | ind n ih =>
    cases n with
    | zero=>exact ⟨fun _ _ _ _ _ _ _ _ h=>(by cases h),fun _ _ _ _ _ _ _ _ h=>(by cases h),fun _ _ _ _ _ _ _ _ h=>(by cases h),fun _ _ _ _ _ _ _ _ h=>(by cases h),fun _ _ _ _ _ _ _ _ h=>(by cases h),fun _ _ _ _ _ _ _ _ _ _ h=>(by cases h)⟩
    | succ n =>
      have i:=ih n (Nat.lt_succ_self n);refine ⟨?_,?_,?_,?_,?_,?_⟩
      · exact fun pb s h1 a h2 bd t b hq w h g ho hj=>Ew n (fun m hm=>(ih m oM).2.1) pb s h1 a h2 bd t b hq w h g ho hj
      · exact fun pb s h1 a h2 bd t b hq w h g ho hj=>sP n (fun m hm=>(ih m oM).2.2.1) pb s h1 a h2 bd t b hq w h g ho hj
      · exact fun pb s h1 a h2 bd t b hq w h g ho hj=>vt n i.2.2.1 i.2.2.2.1 pb s h1 a h2 bd t b hq w h g ho hj
      · exact fun pb s h1 a h2 bd t b hq w h g ho hj=>B4 n hnp i.2.2.2.2.1 pb s h1 a h2 bd t b hq w h g ho hj
      · exact fun pb s h1 a h2 bd t b hq w h g ho hj=>DV n hnf i.2.2.2.2.2 i.1 pb s h1 a h2 bd t b hq w h g ho hj
      · exact fun op hop pb s h1 a h2 bd t b hq w h g ho hj=>CQ n op hop i.1 pb s h1 a h2 bd t b hq w h g ho hj
end
theorem Db (a b:Nat)(h1:b≤a)(h2:a<256):IntKind.wrap .u8 ((a:Int)-(b:Int))=((a-b:Nat):Int):=by
 rw[show (a:Int)-(b:Int)=((a-b:Nat):Int) by omega];exact Da oM oM
theorem lr {a:Nat}(h:a<18446744073709551616):Wd (if a=0 then [] else [a]):=by
 split
 ·exact Dg.nil
 ·intro x hx
  rw[List.mem_singleton] at hx;rw[hx];exact h
theorem im (a:Nat):ax (if a=0 then [] else [a])=a:=by
 split
 ·rename_i e;rw[e];rfl
 ·show a+18446744073709551616*0=a;omega
theorem nI {c:UInt8}:∀ (l:List UInt8),(∀ b∈l,b≠c)→Lib.indexByte l c = -1
  | [],_=>rfl
  | b::l,h=>by
    have h1:(b == c)=false:=by simpa using h b List.mem_cons_self
    unfold Lib.indexByte
    rw[h1,nI l (fun b hb=>h b (List.mem_cons_of_mem _ hb))];rfl
theorem vr {s:ByteArray}{b:UInt8}(h:b∈s.data.toList):∃ i,i<s.size∧aD s i=b.toNat:=by
 obtain ⟨i,hi,e⟩:=List.mem_iff_getElem.1 h;refine ⟨i,by simpa using hi,?_⟩
 unfold aD
 rw[List.getD_eq_getElem?_getD,List.getElem?_eq_getElem hi,e];rfl
theorem xM (x:ByteArray)(c:UInt8)(hn:∀ i,i<x.size→aD x i≠c.toNat)(w:World)(h:Hp)(g:G w h):CV 169 #[.string x,.string ⟨#[c]⟩] w h (iV (-1)):=by
 have q:=Ret.of_same g (Tryz.stringslite_Index_one x c w)
 rw[nI _ (fun b hb e=>by
  obtain ⟨i,hi,h1⟩:=vr hb;exact hn i hi (by rw[h1,e]))] at q
 exact q
theorem AF {x:ByteArray}{c:UInt8}(h:aD x 0≠c.toNat):Lib.hasPrefix x.data.toList [c]=false:=by
  unfold Lib.hasPrefix
  unfold aD at h
  cases e:x.data.toList with
  | nil=>rfl
  | cons b l =>
    rw[e] at h
    have:b≠c:=fun e2=>h (by rw[e2];rfl)
    simp[List.isPrefixOf,Ne.symm this]
theorem m6 (x:ByteArray)(c:UInt8)(hn:aD x 0≠c.toNat)(w:World)(h:Hp)(g:G w h):CV 235 #[.string x,.string ⟨#[c]⟩] w h (.tuple #[.string x,.bool false]):=by
 have q:=Ret.of_same g (Tryz.strings_CutPrefix x ⟨#[c]⟩ w);have e:Lib.hasPrefix x.data.toList [c]=false:=AF hn;have e2:(⟨(Lib.trimPrefix x.data.toList [c]).toArray⟩:ByteArray)=x:=by unfold Lib.trimPrefix;rw[e];simp
 have q2:CV 235 #[.string x,.string ⟨#[c]⟩] w h (.tuple #[.string ⟨(Lib.trimPrefix x.data.toList [c]).toArray⟩,.bool (Lib.hasPrefix x.data.toList [c])]):=q;rw[e,e2] at q2;exact q2
theorem pp (m a:Nat)(ha:a<18446744073709551616)(w:World)(h:Hp)(g:G w h):CR 219 #[.slice none ((([]:List Nat)).length) 0,mV m,mV a] w h (fun v h1=>∃ (A:Option Addr) (c:Nat) (l:List Nat),v=.slice A l.length c∧l.length≤c∧SlO 1 ak 0 h1 A l∧l=if a=0 then [] else [a]):=by
 have hs:=(sS g).nil 37 1;have hnil:([]:List Nat).length=0:=rfl;refine go Tryz.func219 [(0,qS none ((([]:List Nat)).length) 0),(1,mV m),(2,mV a)] rfl (ab hs [.v 6 (sZ)] (aJ (lL hs [.m 13 2,.m 7 13] (ae (ab hs [.m 14 0,.v 15 (iV 0),.v 16 (iV 0)] (bc (cU ?_)))))));refine cN (ab hs [.v 17 qF] (ae (cF (CG.exit ?_))))
 show CG _ _ _ _ _ _ _ _
 refine cQ (ab hs [.m 42 7] ?_);cases hb1:((a:Int) != (0:Int))
 ·
  have phb1:=aI hb1;exact lB 43 hb1 (af (cK (ab hs [.m 48 0,.m 6 48] (ac hs [] (qS none ((([]:List Nat)).length) 0) (⟨none,0,[],rfl,nR _,SlO.nil,by rw[if_pos oM]⟩)))))
 have phb1:=aR hb1;refine lB 43 hb1 (am (kQ (lL hs [.m 44 0,.m 45 7] (lR 46 37 1 ([mV a]) hs (fun b2 w3 h4 hs=>lY 47 0 37 1 0 none ([]:List Nat) ak a 8 b2 (uV 0) hs hs.f.1 (fun A6 c7 w8 h9 hs=>lL hs [.m 0 47] (aJ (lL hs [.m 48 0,.m 6 48] (lN (kX ?_))))))))));obtain ⟨_,hs,za⟩:=hs.pubr 0 (A:=A6) (c:=c7) (l:=([]:List Nat)++[a]) (f:=ak) (ty:=37) (sz:=1) 0 (fun _=>rfl);have hfin:=(hs.f.1);exact hs.ret [] (qS A6 ((([]:List Nat)++[a]).length) c7) (⟨_,_,_,rfl,za,hfin,by rw[if_neg oM];rfl⟩)
theorem pN (x:ByteArray)(k:Nat)(hx:x.size≤18)(hk_:i8 x=some k)(w:World)(h:Hp)(g:G w h):CV 190 #[.string x] w h (.tuple #[nv k,.bool true]):=by
 have hs:=sS g;obtain ⟨h1,h0,hdg,hkd⟩:=ge hk_;refine go Tryz.func190 [(0,.string x)] rfl (aA (lA 2 39 ([uV 0,eS]) hs (fun b1 w2 h3 hs=>lL hs [.v 3 qF] (ae (ab hs [.m 8 0,.v 9 (nV x.size)] ?_)))));cases hb4:((x.size:Int) == (0:Int))
 ·
  have phb4:=ag hb4;refine lB 10 hb4 (lL hs [.m 11 10,.m 12 0,.v 13 (nV x.size)] ?_);cases hb5:(decide ((200:Int)<(x.size:Int)))
  ·
   have phb5:=oF hb5;refine lB 14 hb5 (lL hs [.v 15 qF,.m 16 15,.m 17 0,.v 18 (nV x.size)] ?_);cases hb6:(decide ((1:Int)<(x.size:Int)))
   ·
    have phb6:=oF hb6;refine lB 19 hb6 (lL hs [.m 20 19] (lG 21 ?_));refine lG 22 (lG 23 (lL hs [.v 24 qF,.v 25 qF] (af (cK (ab hs [.v 4 (sZ)] (aJ (lL hs [.v 5 (uV 0),.v 6 (uV 1)] (ae (ab hs [.m 27 0,.v 28 (nV x.size),.v 29 (iV 0)] (bc ?_))))))))));replace hs:=hs.add (K:=fun h_=>SlO 1 ak 0 h_ none ([])) (SlO.nil);refine bJ _ (CG.loop (fun μ_ Γ w_=>∃ (j:Nat) (A:Option Addr) (c:Nat) (l:List Nat) (pt:Nat) (un:Nat) (h_:Hp),μ_=x.size-j∧Γ=[(0,.string x),(2,pB b1),(28,nV x.size),(29,nV j),(4,qS A l.length c),(5,mV pt),(6,mV un)]∧SS w h w_ h_ [⟨b1,39,[uV 0,eS]⟩] [] [fun h_=>SlO 1 ak 0 h_ A l]∧j≤x.size∧l.length≤c∧(j<x.size→A=none∧c=0∧l=[]∧pt=dv x j∧un=10^j)∧(j=x.size→l.length≤1)∧(j=x.size→Wd l)∧(j=x.size→ax l=dv x j)) _ ⟨0,none,0,[],0,1,h3,rfl,rfl,hs.to _ _,Nat.zero_le _,nR _,(fun _=>⟨rfl,rfl,rfl,rfl,rfl⟩),(fun _=>Nat.zero_le _),(fun _=>Dg.nil),(fun h_=>absurd h_ oM)⟩ ?_);rintro _ _ w7 ⟨j,A,c,l,pt,un,h8,hm9,rfl,hs,hk,hcl,hI,hL,hW,hV⟩;have hd_:=hdg j;have hb_:=oI (x:=x) j (fun i hi=>hdg i oM);have hp_:10^j≤10^18:=Nat.pow_le_pow_right kD oM;have hs_:dv x (j+1)=dv x j*10+(aD x j-48):=rfl;have ht_:10^(j+1)=10^j*10:=Nat.pow_succ ..;refine aA ?_;cases za:(decide ((j:Int)<(x.size:Int)))
    ·
     have zm:=oF za;refine lB 30 za (ae (cF (CG.exit ?_)))
     show CG _ _ _ _ _ _ _ _
     exact ab hs [.m 67 4] (ah 68 hs (rL A c l (hW oM) (by have:=hL oM;omega) hcl _ _ hs.g hs.f.1) (fun _ _ hs=>lP 0 0 (nc (ax l)) hs (fun _ hs=>lL hs [.v 3 qT] (ac hs [(0,0,2)] (.tuple #[nv (ax l),qT]) (by rw[hV oM,show j=x.size by omega,←hkd])))))
    have zm:=oT za;refine lB 30 za (ae (cf (cK (cQ (kZ ?_)))));obtain ⟨hA0,hc0,hl0,hpt,hun⟩:=hI oM;have hd2_:=hd_ oM;have hp2_:10^(j+1)≤10^18:=Nat.pow_le_pow_right kD oM;refine ab hs [.m 31 29,.m 7 31] (ae (ab hs [.m 32 0,.m 33 7] (lV 34 (.int .u8 (aD x j:Nat)) ?_ (hr:=bT (tx:=9) (x:=.tmp 32) (i:=.tmp 33) (k:=.i64) (s:=x) (n:=j) (j:=(j:Int)) kR kR kR kR oM oM _))));cases zb:(decide (((aD x j:Nat):Int)<(48:Int)))
    ·
     have zn:=oF zb;refine lB 35 zb (lL hs [.m 36 35,.m 37 0,.m 38 7] (lV 39 (.int .u8 (aD x j:Nat)) ?_ (hr:=bT (tx:=9) (x:=.tmp 37) (i:=.tmp 38) (k:=.i64) (s:=x) (n:=j) (j:=(j:Int)) kR kR kR kR oM oM _)));cases zc:(decide ((57:Int)<((aD x j:Nat):Int)))
     ·
      have zo:=oF zc;refine lB 40 zc (lL hs [.v 41 qF] (af (cK (ab hs [.m 43 5] (lV 44 (mV (pt*10)) ?_ (hr:=rU (((pt:Int)*(10:Int))) kR (fJ pt 10 oM)))))));refine lL hs [.m 45 0,.m 46 7] (lV 47 (.int .u8 (aD x j:Nat)) ?_ (hr:=bT (tx:=9) (x:=.tmp 45) (i:=.tmp 46) (k:=.i64) (s:=x) (n:=j) (j:=(j:Int)) kR kR kR kR oM oM _));refine lV 48 (.int .u8 ((aD x j)-48:Nat)) ?_ (hr:=aU (n:=IntKind.wrap .u8 (((aD x j:Nat):Int)-(48:Int))) kR (Db (aD x j) 48 oM oM));refine lV 49 (mV ((aD x j)-48)) ?_ (hr:=rU ((((aD x j)-48:Nat):Int)) kR (bg oM oM));refine lV 50 (mV ((pt*10)+((aD x j)-48))) ?_ (hr:=rU ((((pt*10:Nat):Int)+(((aD x j)-48:Nat):Int))) kR (d7 (pt*10) ((aD x j)-48) oM));refine lL hs [.m 51 6] (lV 52 (mV (un*10)) ?_ (hr:=rU (((un:Int)*(10:Int))) kR (fJ un 10 oM)));refine lL hs [.m 5 50,.m 6 52] (aJ (lL hs [.m 53 6] ?_));cases zd:(((un*10:Nat):Int) == (10000000000000000000:Int))
      ·
       have zp:=ag zd;refine lB 54 zd (lL hs [.m 55 54,.m 56 7,.m 57 0,.v 58 (nV x.size)] (lI 59 ((x.size:Nat)-1) ?_));cases ze:((j:Int) == ((x.size:Nat)-1:Int))
       ·
        have zq:=ag ze;refine lB 60 ze (lL hs [.v 61 qF] (af (cK (kQ (bu 66 ((j:Nat)+1) (j+1) ?_)))));refine lL hs [.m 29 66] (lD ?_);intro a_ ka;replace hs:=(hs.tl.add (K:=fun h_=>SlO 1 ak 0 h_ A l) hs.f.1);refine ⟨_,_,?_,⟨j+1,A,c,l,((pt*10)+((aD x j)-48):Nat),(un*10),h8,rfl,rfl,hs.to _ _,oM,hcl,(fun _=>⟨hA0,hc0,hl0,by omega,by omega⟩),(fun h_=>absurd h_ oM),(fun h_=>absurd h_ oM),(fun h_=>absurd h_ oM)⟩,ka.to _ kR⟩
        omega
       have zq:=eq_of_beq ze;refine lB 60 ze (lL hs [.v 61 qT] (am ?_));subst hA0 hc0 hl0;refine ab hs [.m 62 4,.m 63 6,.m 64 5] (lC 65 hs (pp ((un*10)) (((pt*10)+((aD x j)-48):Nat)) oM _ _ hs.g) ?_);rintro _ _ zx hs ⟨A2,c2,l2,rfl,hc2,hA2,hl2⟩;replace hs:=hs.aS hA2;refine lL hs [.m 4 65] (lN (bJ [(0,.string x),(2,pB b1),(28,nV x.size),(29,nV j),(4,qS A2 l2.length c2),(5,mV ((pt*10)+((aD x j)-48))),(6,mV (un*10))] ?_));refine kQ (lL hs [.v 5 (uV 0),.v 6 (uV 1)] (lN (kQ (bu 66 ((j:Nat)+1) (j+1) ?_))));refine lL hs [.m 29 66] (lD ?_);intro a_ ka;replace hs:=(hs.tl.tl.add (K:=fun h_=>SlO 1 ak 0 h_ A2 l2) hs.f.1);refine ⟨_,_,?_,⟨j+1,A2,c2,l2,0,1,zx,rfl,rfl,hs.to _ _,oM,hc2,(fun h_=>absurd h_ oM),(fun _=>by rw[hl2];split<;>simp),(fun _=>by rw[hl2];exact lr oM),(fun _=>by rw[hl2,im];omega)⟩,ka.to _ kR⟩
       omega
      have zp:=eq_of_beq zd;refine lB 54 zd (lL hs [.m 55 54] (lG 56 ?_));refine lG 57 (lG 58 (lG 59 (lG 60 (lL hs [.v 61 qT] (am ?_)))));subst hA0 hc0 hl0;refine ab hs [.m 62 4,.m 63 6,.m 64 5] (lC 65 hs (pp ((un*10)) (((pt*10)+((aD x j)-48):Nat)) oM _ _ hs.g) ?_);rintro _ _ zA hs ⟨A2,c2,l2,rfl,hc2,hA2,hl2⟩;replace hs:=hs.aS hA2;refine lL hs [.m 4 65] (lN (bJ [(0,.string x),(2,pB b1),(28,nV x.size),(29,nV j),(4,qS A2 l2.length c2),(5,mV ((pt*10)+((aD x j)-48))),(6,mV (un*10))] ?_));refine kQ (lL hs [.v 5 (uV 0),.v 6 (uV 1)] (lN (kQ (bu 66 ((j:Nat)+1) (j+1) ?_))));refine lL hs [.m 29 66] (lD ?_);intro a_ ka;replace hs:=(hs.tl.tl.add (K:=fun h_=>SlO 1 ak 0 h_ A2 l2) hs.f.1);refine ⟨_,_,?_,⟨j+1,A2,c2,l2,0,1,zA,rfl,rfl,hs.to _ _,oM,hc2,(fun h_=>absurd h_ oM),(fun _=>by rw[hl2];split<;>simp),(fun _=>by rw[hl2];exact lr oM),(fun _=>by rw[hl2,im];omega)⟩,ka.to _ kR⟩
      omega
     have zo:=oT zc;refine lB 40 zc (lL hs [.v 41 qT] (am (ab hs [.v 42 (.agg #[uV 0,eS])] (lP 0 0 ([uV 0,eS]) hs (fun _ hs=>lL hs [.v 3 qF] (lN (kX ?_)))))))
     exfalso
     omega
    have zn:=oT zb;refine lB 35 zb (lL hs [.m 36 35] (lG 37 ?_));refine lG 38 (lG 39 (lG 40 (lL hs [.v 41 qT] (am (ab hs [.v 42 (.agg #[uV 0,eS])] (lP 0 0 ([uV 0,eS]) hs (fun _ hs=>lL hs [.v 3 qF] (lN (kX ?_)))))))))
    exfalso
    omega
   have phb6:=oT hb6;refine lB 19 hb6 (lL hs [.m 20 19,.m 21 0] (lV 22 (.int .u8 (aD x 0:Nat)) ?_ (hr:=bT (tx:=9) (x:=.tmp 21) (i:=.const (iV 0)) (k:=.i64) (s:=x) (n:=0) (j:=(0:Int)) kR kR kR kR oM oM _)));cases zf:(((aD x 0:Nat):Int) == (48:Int))
   ·
    have zr:=ag zf;refine lB 23 zf (lL hs [.v 24 qF,.v 25 qF] (af (cK (ab hs [.v 4 (sZ)] (aJ (lL hs [.v 5 (uV 0),.v 6 (uV 1)] (ae (ab hs [.m 27 0,.v 28 (nV x.size),.v 29 (iV 0)] (bc ?_)))))))));replace hs:=hs.add (K:=fun h_=>SlO 1 ak 0 h_ none ([])) (SlO.nil);refine bJ _ (CG.loop (fun μ_ Γ w_=>∃ (j:Nat) (A:Option Addr) (c:Nat) (l:List Nat) (pt:Nat) (un:Nat) (h_:Hp),μ_=x.size-j∧Γ=[(0,.string x),(2,pB b1),(28,nV x.size),(29,nV j),(4,qS A l.length c),(5,mV pt),(6,mV un)]∧SS w h w_ h_ [⟨b1,39,[uV 0,eS]⟩] [] [fun h_=>SlO 1 ak 0 h_ A l]∧j≤x.size∧l.length≤c∧(j<x.size→A=none∧c=0∧l=[]∧pt=dv x j∧un=10^j)∧(j=x.size→l.length≤1)∧(j=x.size→Wd l)∧(j=x.size→ax l=dv x j)) _ ⟨0,none,0,[],0,1,h3,rfl,rfl,hs.to _ _,Nat.zero_le _,nR _,(fun _=>⟨rfl,rfl,rfl,rfl,rfl⟩),(fun _=>Nat.zero_le _),(fun _=>Dg.nil),(fun h_=>absurd h_ oM)⟩ ?_);rintro _ _ _ ⟨j,A,c,l,pt,un,zB,hm48,rfl,hs,hk,hcl,hI,hL,hW,hV⟩;have hd_:=hdg j;have hb_:=oI (x:=x) j (fun i hi=>hdg i oM);have hp_:10^j≤10^18:=Nat.pow_le_pow_right kD oM;have hs_:dv x (j+1)=dv x j*10+(aD x j-48):=rfl;have ht_:10^(j+1)=10^j*10:=Nat.pow_succ ..;refine aA ?_;cases zg:(decide ((j:Int)<(x.size:Int)))
    ·
     have zs:=oF zg;refine lB 30 zg (ae (cF (CG.exit ?_)))
     show CG _ _ _ _ _ _ _ _
     exact ab hs [.m 67 4] (ah 68 hs (rL A c l (hW oM) (by have:=hL oM;omega) hcl _ _ hs.g hs.f.1) (fun _ _ hs=>lP 0 0 (nc (ax l)) hs (fun _ hs=>lL hs [.v 3 qT] (ac hs [(0,0,2)] (.tuple #[nv (ax l),qT]) (by rw[hV oM,show j=x.size by omega,←hkd])))))
    have zs:=oT zg;refine lB 30 zg (ae (cf (cK (cQ (kZ ?_)))));obtain ⟨hA0,hc0,hl0,hpt,hun⟩:=hI oM;have hd2_:=hd_ oM;have hp2_:10^(j+1)≤10^18:=Nat.pow_le_pow_right kD oM;refine ab hs [.m 31 29,.m 7 31] (ae (ab hs [.m 32 0,.m 33 7] (lV 34 (.int .u8 (aD x j:Nat)) ?_ (hr:=bT (tx:=9) (x:=.tmp 32) (i:=.tmp 33) (k:=.i64) (s:=x) (n:=j) (j:=(j:Int)) kR kR kR kR oM oM _))));cases zi:(decide (((aD x j:Nat):Int)<(48:Int)))
    ·
     have zt:=oF zi;refine lB 35 zi (lL hs [.m 36 35,.m 37 0,.m 38 7] (lV 39 (.int .u8 (aD x j:Nat)) ?_ (hr:=bT (tx:=9) (x:=.tmp 37) (i:=.tmp 38) (k:=.i64) (s:=x) (n:=j) (j:=(j:Int)) kR kR kR kR oM oM _)));cases zj:(decide ((57:Int)<((aD x j:Nat):Int)))
     ·
      have zu:=oF zj;refine lB 40 zj (lL hs [.v 41 qF] (af (cK (ab hs [.m 43 5] (lV 44 (mV (pt*10)) ?_ (hr:=rU (((pt:Int)*(10:Int))) kR (fJ pt 10 oM)))))));refine lL hs [.m 45 0,.m 46 7] (lV 47 (.int .u8 (aD x j:Nat)) ?_ (hr:=bT (tx:=9) (x:=.tmp 45) (i:=.tmp 46) (k:=.i64) (s:=x) (n:=j) (j:=(j:Int)) kR kR kR kR oM oM _));refine lV 48 (.int .u8 ((aD x j)-48:Nat)) ?_ (hr:=aU (n:=IntKind.wrap .u8 (((aD x j:Nat):Int)-(48:Int))) kR (Db (aD x j) 48 oM oM));refine lV 49 (mV ((aD x j)-48)) ?_ (hr:=rU ((((aD x j)-48:Nat):Int)) kR (bg oM oM));refine lV 50 (mV ((pt*10)+((aD x j)-48))) ?_ (hr:=rU ((((pt*10:Nat):Int)+(((aD x j)-48:Nat):Int))) kR (d7 (pt*10) ((aD x j)-48) oM));refine lL hs [.m 51 6] (lV 52 (mV (un*10)) ?_ (hr:=rU (((un:Int)*(10:Int))) kR (fJ un 10 oM)));refine lL hs [.m 5 50,.m 6 52] (aJ (lL hs [.m 53 6] ?_));cases zk:(((un*10:Nat):Int) == (10000000000000000000:Int))
      ·
       have zv:=ag zk;refine lB 54 zk (lL hs [.m 55 54,.m 56 7,.m 57 0,.v 58 (nV x.size)] (lI 59 ((x.size:Nat)-1) ?_));cases zl:((j:Int) == ((x.size:Nat)-1:Int))
       ·
        have zw:=ag zl;refine lB 60 zl (lL hs [.v 61 qF] (af (cK (kQ (bu 66 ((j:Nat)+1) (j+1) ?_)))));refine lL hs [.m 29 66] (lD ?_);intro a_ ka;replace hs:=(hs.tl.add (K:=fun h_=>SlO 1 ak 0 h_ A l) hs.f.1);refine ⟨_,_,?_,⟨j+1,A,c,l,((pt*10)+((aD x j)-48):Nat),(un*10),zB,rfl,rfl,hs.to _ _,oM,hcl,(fun _=>⟨hA0,hc0,hl0,by omega,by omega⟩),(fun h_=>absurd h_ oM),(fun h_=>absurd h_ oM),(fun h_=>absurd h_ oM)⟩,ka.to _ kR⟩
        omega
       have zw:=eq_of_beq zl;refine lB 60 zl (lL hs [.v 61 qT] (am ?_));subst hA0 hc0 hl0;refine ab hs [.m 62 4,.m 63 6,.m 64 5] (lC 65 hs (pp ((un*10)) (((pt*10)+((aD x j)-48):Nat)) oM _ _ hs.g) ?_);rintro _ _ zD hs ⟨A2,c2,l2,rfl,hc2,hA2,hl2⟩;replace hs:=hs.aS hA2;refine lL hs [.m 4 65] (lN (bJ [(0,.string x),(2,pB b1),(28,nV x.size),(29,nV j),(4,qS A2 l2.length c2),(5,mV ((pt*10)+((aD x j)-48))),(6,mV (un*10))] ?_));refine kQ (lL hs [.v 5 (uV 0),.v 6 (uV 1)] (lN (kQ (bu 66 ((j:Nat)+1) (j+1) ?_))));refine lL hs [.m 29 66] (lD ?_);intro a_ ka;replace hs:=(hs.tl.tl.add (K:=fun h_=>SlO 1 ak 0 h_ A2 l2) hs.f.1);refine ⟨_,_,?_,⟨j+1,A2,c2,l2,0,1,zD,rfl,rfl,hs.to _ _,oM,hc2,(fun h_=>absurd h_ oM),(fun _=>by rw[hl2];split<;>simp),(fun _=>by rw[hl2];exact lr oM),(fun _=>by rw[hl2,im];omega)⟩,ka.to _ kR⟩
       omega
      have zv:=eq_of_beq zk;refine lB 54 zk (lL hs [.m 55 54] (lG 56 ?_));refine lG 57 (lG 58 (lG 59 (lG 60 (lL hs [.v 61 qT] (am ?_)))));subst hA0 hc0 hl0;refine ab hs [.m 62 4,.m 63 6,.m 64 5] (lC 65 hs (pp ((un*10)) (((pt*10)+((aD x j)-48):Nat)) oM _ _ hs.g) ?_);rintro _ _ zE hs ⟨A2,c2,l2,rfl,hc2,hA2,hl2⟩;replace hs:=hs.aS hA2;refine lL hs [.m 4 65] (lN (bJ [(0,.string x),(2,pB b1),(28,nV x.size),(29,nV j),(4,qS A2 l2.length c2),(5,mV ((pt*10)+((aD x j)-48))),(6,mV (un*10))] ?_));refine kQ (lL hs [.v 5 (uV 0),.v 6 (uV 1)] (lN (kQ (bu 66 ((j:Nat)+1) (j+1) ?_))));refine lL hs [.m 29 66] (lD ?_);intro a_ ka;replace hs:=(hs.tl.tl.add (K:=fun h_=>SlO 1 ak 0 h_ A2 l2) hs.f.1);refine ⟨_,_,?_,⟨j+1,A2,c2,l2,0,1,zE,rfl,rfl,hs.to _ _,oM,hc2,(fun h_=>absurd h_ oM),(fun _=>by rw[hl2];split<;>simp),(fun _=>by rw[hl2];exact lr oM),(fun _=>by rw[hl2,im];omega)⟩,ka.to _ kR⟩
      omega
     have zu:=oT zj;refine lB 40 zj (lL hs [.v 41 qT] (am (ab hs [.v 42 (.agg #[uV 0,eS])] (lP 0 0 ([uV 0,eS]) hs (fun _ hs=>lL hs [.v 3 qF] (lN (kX ?_)))))))
     exfalso
     omega
    have zt:=oT zi;refine lB 35 zi (lL hs [.m 36 35] (lG 37 ?_));refine lG 38 (lG 39 (lG 40 (lL hs [.v 41 qT] (am (ab hs [.v 42 (.agg #[uV 0,eS])] (lP 0 0 ([uV 0,eS]) hs (fun _ hs=>lL hs [.v 3 qF] (lN (kX ?_)))))))))
    exfalso
    omega
   have zr:=eq_of_beq zf;refine lB 23 zf (lL hs [.v 24 qT,.v 25 qT] (am (ab hs [.v 26 (.agg #[uV 0,eS])] (lP 0 0 ([uV 0,eS]) hs (fun _ hs=>lL hs [.v 3 qF] (lN (kX ?_)))))))
   exfalso
   first|omega|exact h0 oM oM
  have phb5:=oT hb5;refine lB 14 hb5 (lL hs [.v 15 qT,.m 16 15] (lG 17 ?_));refine lG 18 (lG 19 (lG 20 (lG 21 (lG 22 (lG 23 (lG 24 (lL hs [.v 25 qT] (am (ab hs [.v 26 (.agg #[uV 0,eS])] (lP 0 0 ([uV 0,eS]) hs (fun _ hs=>lL hs [.v 3 qF] (lN (kX ?_)))))))))))))
  exfalso
  first|omega|exact h0 oM oM
 have phb4:=eq_of_beq hb4;refine lB 10 hb4 (lL hs [.m 11 10] (lG 12 ?_));refine lG 13 (lG 14 (lL hs [.v 15 qT,.m 16 15] (lG 17 ?_)));refine lG 18 (lG 19 (lG 20 (lG 21 (lG 22 (lG 23 (lG 24 (lL hs [.v 25 qT] (am (ab hs [.v 26 (.agg #[uV 0,eS])] (lP 0 0 ([uV 0,eS]) hs (fun _ hs=>lL hs [.v 3 qF] (lN (kX ?_)))))))))))))
 exfalso
 first|omega|exact h0 oM oM
theorem DY (x:ByteArray)(c:UInt8)(hn:∀ i,i<x.size→aD x i≠c.toNat)(w:World)(h:Hp)(g:G w h):CV 234 #[.string x,.string (⟨#[c]⟩)] w h (.tuple #[.string x,eS,.bool false]):=by
 have hs:=sS g;exact go Tryz.func234 [(0,.string x),(1,.string (⟨#[c]⟩))] rfl (ab hs [.v 4 (eS),.v 5 (eS),.v 6 qF] (ae (ab hs [.m 8 0,.m 9 1] (ah 10 hs (xM x c hn _ _ hs.g) (fun w1 h2 hs=>lL hs [.m 7 10] (aJ (lL hs [.m 11 7,.v 12 qF] (af (cK (ab hs [.m 22 0,.m 4 22,.v 5 (eS),.v 6 qF] (ac hs [] (.tuple #[.string x,eS,qF]) rfl)))))))))))
theorem xR (x:ByteArray)(c:UInt8)(hn:∀ i,i<x.size→aD x i≠c.toNat)(w:World)(h:Hp)(g:G w h):CV 228 #[.string x,.string (⟨#[c]⟩)] w h (.tuple #[.string x,eS,.bool false]):=by
 have hs:=sS g;exact go Tryz.func228 [(0,.string x),(1,.string (⟨#[c]⟩))] rfl (ab hs [.v 4 (eS),.v 5 (eS),.v 6 qF] (aJ (lL hs [.m 7 0,.m 8 1] (ah 9 hs (DY x c hn _ _ hs.g) (fun w1 h2 hs=>lL hs [.v 10 (.string x),.v 11 (eS),.v 12 qF,.m 4 10,.m 5 11,.m 6 12] (ac hs [] (.tuple #[.string x,eS,qF]) rfl))))))
theorem vk (x:ByteArray)(k:Nat)(hx:x.size≤18)(hk_:i8 x=some k)(w:World)(h:Hp)(g:G w h):CV 231 #[.string x] w h (.tuple #[iv (k:Int),.bool true]):=by
 have hs:=sS g;obtain ⟨h1,h0,hdg,hkd⟩:=ge hk_;refine go Tryz.func231 [(0,.string x)] rfl (aA (lA 2 41 ([qF,uV 0,eS]) hs (fun b1 w2 h3 hs=>lL hs [.v 3 qF] (aJ (lL hs [.m 9 0] (ah 10 hs (m6 x 45 (by have:=hdg 0 oM;show aD x 0≠45;omega) _ _ hs.g) (fun w4 h5 hs=>lL hs [.m 8 10,.v 11 (.string x),.v 12 qF,.m 4 11,.m 5 12] (aJ (lL hs [.m 14 4] (ah 15 hs (pN x k hx hk_ _ _ hs.g) (fun w6 h7 hs=>lL hs [.m 13 15,.v 16 (nv k),.v 17 qT] (lA 6 39 ([uV 0,eS]) hs (fun b8 w9 _ hs=>lP 0 0 (nc k) hs (fun _ hs=>lL hs [.m 7 17] (ae (ab hs [.m 18 7,.v 19 qF,.m 20 19,.m 21 5,.m 22 21] (lG 23 ?_)))))))))))))))));exact lG 24 (lG 25 (lL hs [.v 26 qF,.v 27 qF] (af (cK (ab hs [.m 29 5,.o 30 (nv k) 0 0 2] (ah 31 hs (dr k _ _ hs.g) (fun _ _ hs=>lP 1 0 (ic (k:Int)) hs (fun _ hs=>lL hs [.v 3 qT] (ac hs [(1,0,3)] (.tuple #[iv (k:Int),qT]) rfl)))))))))
theorem xL (x:ByteArray)(k:Nat)(hx:x.size≤18)(hk_:i8 x=some k)(w:World)(h:Hp)(g:G w h):CV 215 #[.string x] w h (.tuple #[qv ((k:Nat):Rat),.bool true]):=by
 have hs:=sS g;obtain ⟨h1,h0,hdg,hkd⟩:=ge hk_;exact go Tryz.func215 [(0,.string x)] rfl (aA (lA 2 43 ([qF,uV 0,eS,uV 0,eS]) hs (fun b1 w2 h3 hs=>lL hs [.v 3 qF] (ae (ab hs [.m 13 0] (ah 14 hs (xR x 47 (fun i hi=>by have:=hdg i hi;show aD x i≠47;omega) _ _ hs.g) (fun w4 h5 hs=>lL hs [.m 12 14,.v 15 (.string x),.v 16 (eS),.v 17 qF,.m 4 15,.m 5 16,.m 6 17] (aJ (lL hs [.m 18 6] (af (cK (cQ (ab hs [.m 25 0] (ah 26 hs (xR x 46 (fun i hi=>by have:=hdg i hi;show aD x i≠46;omega) _ _ hs.g) (fun w6 h7 hs=>lL hs [.m 24 26,.v 27 (.string x),.v 28 (eS),.v 29 qF,.m 7 27,.m 8 28,.m 9 29] (aJ (lL hs [.m 30 9] (af (cK (ab hs [.m 37 0] (ah 38 hs (vk x k hx hk_ _ _ hs.g) (fun w8 h9 hs=>lL hs [.m 36 38,.v 39 (iv (k:Int)),.v 40 qT] (lA 10 41 ([qF,uV 0,eS]) hs (fun b10 _ _ hs=>lP 0 0 (ic (k:Int)) hs (fun _ hs=>lL hs [.m 11 40] (aJ (lL hs [.o 41 (iv (k:Int)) 0 0 3,.v 42 (.agg #[.bool (ai (k:Int)),uV (lo (aa (k:Int))),.string (hi (aa (k:Int))),uV 0,eS]),.m 43 11] (lP 1 0 ([.bool (ai (k:Int)),uV (lo (aa (k:Int))),.string (hi (aa (k:Int))),uV 0,eS]) hs (fun _ hs=>lL hs [.m 3 43] (ac hs [(1,0,5)] (.tuple #[.agg #[.bool (ai (k:Int)),uV (lo (aa (k:Int))),.string (hi (aa (k:Int))),uV 0,eS],qT]) (congrArg (fun v_=>Value.tuple #[v_,qT]) (fT (d:=0) (Rat.num_natCast k) (jr (Rat.den_natCast k))))))))))))))))))))))))))))))))))
def Dn (x:ByteArray):Option Rat:=if x.size≤18 then (i8 x).map (fun k=>((k:Nat):Rat)) else none
theorem AC:Cd Dn:=fun x q h w hh g=>by
  unfold Dn at h
  split at h
  · rename_i hx
    cases hk:i8 x with
    | none=>rw[hk] at h;cases h
    | some k =>
      rw[hk] at h;injection h with h;subst h
      exact xL x k hx hk w hh g
  · cases h
theorem AX:AH:=fun x k hx hk w h g=>pN x k oM hk w h g
def xS (s:ByteArray):Prop:=s=⟨#[120]⟩∨s=⟨#[121]⟩∨s=⟨#[122]⟩
theorem B6:∀ {k:Nat},k<3→xS (([⟨#[120]⟩,⟨#[121]⟩,⟨#[122]⟩]:List ByteArray).getD k ⟨#[]⟩)
 | 0,_=>.inl rfl
 | 1,_=>.inr (.inl rfl)
 | 2,_=>.inr (.inr rfl)
def GrT (d:Nat)(t:Tm):Prop:=WfT xS d t∧3*bV d t≤3^d
theorem GrT.num {d:Nat}{q:Rat}(h:LQ 1 q):GrT (d+1) (.mk 1 0 q ⟨#[]⟩ []) :=
 ⟨⟨rfl,fun h=>absurd rfl h,h,fun h=>absurd (show (1:Int)=2 from h) kD,fun _=>rfl,fun _=>rfl,by show (-12:Int)≤0;decide,by show (0:Int)≤12;decide,fun i hi=>absurd hi (Nat.not_lt_zero i)⟩,by
  have:=Nat.two_pow_pos d;have:0<3^d:=Nat.pow_pos kD
  show 3*1≤3^(d+1)
  rw[Nat.pow_succ];omega⟩
theorem GrT.name {d:Nat}{s:ByteArray}(h:xS s):GrT (d+1) (.mk 2 0 0 s []) :=
 ⟨⟨rfl,fun _=>rfl,qz kD,fun _=>h,fun h=>absurd rfl h,fun _=>rfl,by show (-12:Int)≤0;decide,by show (0:Int)≤12;decide,fun i hi=>absurd hi (Nat.not_lt_zero i)⟩,by
  have:0<3^d:=Nat.pow_pos kD
  show 3*1≤3^(d+1)
  rw[Nat.pow_succ];omega⟩
theorem GrT.one {d:Nat}{op n:Int}{t:Tm}(x:GrT d t)(ha:eg op=1)(h8:op≠8→n=0)(h1 : -3≤n)(h2:n≤3):GrT (d+1) (.mk op n 0 ⟨#[]⟩ [t]):=by
 refine ⟨⟨ha,fun _=>rfl,qz kD,fun h=>?_,fun _=>rfl,h8,by show (-12:Int)≤n;omega,by show n≤12;omega,fun i hi=>?_⟩,?_⟩
 ·have h:op=2:=h
  rw[h] at ha;exact absurd ha kD
 ·have:i=0:=by have:i<1:=hi;omega
  subst this;exact x.1
 ·show 3*((if op=11 then 2 else if op=8 then bP n else 1)*(0+bV d t))≤3^(d+1)
  have hf:(if op=11 then 2 else if op=8 then bP n else 1)≤3:=by
   unfold bP
   repeat' split
   all_goals omega
  have:=Nat.mul_le_mul hf x.2;rw[Nat.pow_succ,Nat.zero_add,Nat.mul_left_comm,Nat.mul_comm (3^d)];exact this
theorem GrT.two {d:Nat}{op:Int}{t u:Tm}(x:GrT d t)(y:GrT d u)(ha:eg op=2):GrT (d+1) (.mk op 0 0 ⟨#[]⟩ [t,u]):=by
 have h8:op≠8:=fun h=>by rw[h] at ha;exact absurd ha kD
 have h11:op≠11:=fun h=>by rw[h] at ha;exact absurd ha kD
 refine ⟨⟨ha,fun _=>rfl,qz kD,fun h=>?_,fun _=>rfl,fun _=>rfl,by show (-12:Int)≤0;decide,by show (0:Int)≤12;decide,fun i hi=>?_⟩,?_⟩
 ·have h:op=2:=h
  rw[h] at ha;exact absurd ha kD
 ·have:i=0∨i=1:=by have:i<2:=hi;omega
  rcases this with rfl|rfl
  ·exact x.1
  ·exact y.1
 ·show 3*((if op=11 then 2 else if op=8 then bP 0 else 1)*(0+bV d t+bV d u))≤3^(d+1)
  rw[if_neg h11,if_neg h8,Nat.pow_succ];have:=x.2;have:=y.2
  omega
section
variable {d:Nat} {h:Hp}
theorem nF:RZ h (false,.slice none 0 0,.slice none 0 0) 0:=⟨false,⟨none,0,none,0,rfl,Nat.le_refl _,Nat.le_refl _,SlO.nil,SlO.nil⟩,fun _=>rfl⟩
theorem Bw {b:Bool}{zA dA:Option Addr}{zn zc dn dc:Nat}{q:Rat}(hz:RZ h (b,.slice zA zn zc,.slice dA dn dc) q):RmH (d+1) h ⟨1,0,b,zA,zn,zc,dA,dn,dc,⟨#[]⟩,none,0,0⟩ (.mk 1 0 q ⟨#[]⟩ []) :=
 ⟨rfl,rfl,hz,rfl,rfl,Nat.le_refl _,[],rfl,SlO.nil,fun i hi=>absurd hi (Nat.not_lt_zero i)⟩
theorem u6 {s:ByteArray}:RmH (d+1) h ⟨2,0,false,none,0,0,none,0,0,s,none,0,0⟩ (.mk 2 0 0 s []) :=
 ⟨rfl,rfl,nF,rfl,rfl,Nat.le_refl _,[],rfl,SlO.nil,fun i hi=>absurd hi (Nat.not_lt_zero i)⟩
theorem sH {op n:Int}{p:RTm}{t:Tm}{b:Nat}(x:RmH d h p t)(hA:SlO 7 dt aw h (some ⟨b,0,none⟩) [p]):RmH (d+1) h ⟨op,n,false,none,0,0,none,0,0,⟨#[]⟩,some ⟨b,0,none⟩,1,1⟩ (.mk op n 0 ⟨#[]⟩ [t]) :=
 ⟨rfl,rfl,nF,rfl,rfl,Nat.le_refl _,[p],rfl,hA,fun i hi=>by
  have:i=0:=by have:i<1:=hi;omega
  subst this;exact x⟩
theorem Co {op:Int}{p q:RTm}{t u:Tm}{b:Nat}(x:RmH d h p t)(y:RmH d h q u)(hA:SlO 7 dt aw h (some ⟨b,0,none⟩) [p,q]):RmH (d+1) h ⟨op,0,false,none,0,0,none,0,0,⟨#[]⟩,some ⟨b,0,none⟩,2,2⟩ (.mk op 0 0 ⟨#[]⟩ [t,u]) :=
 ⟨rfl,rfl,nF,rfl,rfl,Nat.le_refl _,[p,q],rfl,hA,fun i hi=>by
  have:i=0∨i=1:=by have:i<2:=hi;omega
  rcases this with rfl|rfl
  ·exact x
  ·exact y⟩
end
theorem Rms.mono {d e:Nat}{h:Hp}{rs:List RTm}{ts:List Tm}(x:Rms d h rs ts)(u:d≤e):Rms e h rs ts:=⟨x.len,fun i hi=>(x.at_ i hi).mono u⟩
theorem Rms.set {d:Nat}{h:Hp}{rs:List RTm}{ts:List Tm}{r:RTm}{t:Tm}(x:Rms d h rs ts)(k:Nat)(y:RmH d h r t):Rms d h (rs.set k r) (ts.set k t):=by
 refine ⟨by simp[x.len],fun i hi=>?_⟩;rw[List.length_set] at hi
 rw[List.getD_eq_getElem?_getD,List.getD_eq_getElem?_getD,List.getElem?_set,List.getElem?_set,x.len]
 by_cases e:k=i
 ·subst e
  rw[if_pos rfl,if_pos rfl,if_pos hi,if_pos hi];exact y
 ·rw[if_neg e,if_neg e,←List.getD_eq_getElem?_getD,←List.getD_eq_getElem?_getD];exact x.at_ i hi
def fg (s:ByteArray):Prop:=s.size≤1000
theorem wL {s:ByteArray}(h:xS s):fg s:=by
 rcases h with rfl|rfl|rfl<;>(unfold fg;decide)
theorem nH:fg ⟨#[]⟩:=by unfold fg;decide
def SpO (d:Nat)(h:Hp)(r:RTm)(t:Tm):Prop:=RmH (d+3) h r t∧SmT fg (d+3) t
theorem SpO.gw {d:Nat}{h h':Hp}{r:RTm}{t:Tm}(x:SpO d h r t)(u:Gw h h'):SpO d h' r t:=⟨x.1.gw u,x.2⟩
theorem cH {d:Nat}{t:Tm}(w:WfT xS d t):SmT fg d t:=w.sm (sm:=fg) (fun _ h=>wL h) nH
theorem p7 {α:Type}{l:List α}{k i:Nat}{x d:α}(p:α→Prop)(h:∀ i,i<l.length→p (l.getD i d))(hx:p x)(hi:i<(l.set k x).length):p ((l.set k x).getD i d):=by
 rw[List.length_set] at hi
 rw[List.getD_eq_getElem?_getD,List.getElem?_set]
 by_cases e:k=i
 ·subst e
  rw[if_pos rfl,if_pos hi];exact hx
 ·rw[if_neg e,←List.getD_eq_getElem?_getD];exact h i hi
theorem nZ {α:Type}{l:List α}{i:Nat}{x d:α}(p:α→Prop)(h:∀ i,i<l.length→p (l.getD i d))(hx:p x)(hi:i<(l++[x]).length):p ((l++[x]).getD i d):=by
 rw[List.length_append,List.length_singleton] at hi
 rw[cp]
 by_cases e:i<l.length
 ·rw[if_pos e];exact h i e
 ·rw[if_neg e,if_pos oM];exact hx
theorem fK {d:Nat}{op n:Int}{q:Rat}{s:ByteArray}{ks:List Tm}(hk:ks.length≤3)(ho : -1000≤op∧op≤1000)(hn : -1000≤n∧n≤1000)(hq:LQ 1 q)(hs:fg s)(hW:∀ i,i<ks.length→SmT fg d (ks.getD i bE)):SmT fg (d+1) (.mk op n q s ks):=⟨hk,ho,hn,hq,hs,hW⟩
theorem oA {d:Nat}{n:Int}{t:Tm}(hn : -1000≤n∧n≤1000)(h:SmT fg d t):SmT fg (d+1) (.mk 8 n 0 ⟨#[]⟩ [t]) :=
 ⟨by show 1≤3;decide,by show (-1000:Int)≤8∧(8:Int)≤1000;decide,hn,qz kD,nH,fun i hi=>by
  have:i=0:=by have:i<1:=hi;omega
  subst this;exact h⟩
theorem DJ (e:Int):aF e 4=0∨aF e 4=1∨aF e 4=2∨aF e 4=3:=by have:=cb e 4 oM;omega
theorem l7 {s:ByteArray}(h:db s=true):fg s:=by
 have:=oT h
 unfold fg;omega
theorem wV:∀ s,fg s→∀ (w:World) (h:Hp),G w h→Calls Tryz.prog 74 #[.string s] w (Ret w h (fun v _=>∃ b,v=.bool b∧b=db s)):=fun s hs w h g=>(AO s (by unfold fg at hs;omega) w h g).mono fun e w' ⟨v,h',e1,u,e2⟩=>⟨v,h',e1,u,_,e2,rfl⟩
theorem TmH.cut {ok:ByteArray→Prop}{h:Hp}:∀ {e d:Nat} {p:PTm} {t:Tm},TmH e h p t→WfT ok d t→TmH d h p t
 | _,0,_,_,_,x=>x.elim
 | 0,_,_,_,x,_=>x.elim
 | e+1,d+1,p,t,⟨h1,h2,h3,h4,h5,h6,ps,h7,h8,h9⟩,⟨_,_,_,_,_,_,_,_,k⟩=>⟨h1,h2,h3,h4,h5,h6,ps,h7,h8,fun i hi=>(h9 i hi).cut (k i hi)⟩
theorem PtH.cut {ok:ByteArray→Prop}{h:Hp}{d:Nat}{p:PTm}{t:Tm}(x:PtH h p t)(y:WfT ok d t):TmH d h p t:=by obtain ⟨e,x⟩:=x;exact x.cut y
theorem tg (s:ByteArray)(hsz:s.size≤65536)(n:Nat)(t:Tm)(b:Nat)(hq:dl Dn (fun _=>none) s n .sum 0=some (.ok t b))(hb:sk s b=s.size)(d:Nat)(hd:d≤24)(hW:WfT (fun s=>db s=true) d t)(hw:bV d t≤1000)(w:World)(h:Hp)(g:G w h):CR 26 #[.string s] w h (fun v h1=>∃ p,v=.tuple #[dC p,.agg #[iV 0,iV 0,iV 0]]∧TmH d h1 p t):=by
 have hs:=sS g;refine go Tryz.func26 [(0,.string s)] rfl (aA (lA 2 46 ([iV 0,iV 0,qF,uV 0,eS,uV 0,eS,eS,sZ]) hs (fun b1 w2 h3 hs=>lA 3 80 ([iV 0,iV 0,iV 0]) hs (fun b4 w5 h6 hs=>ae (ab hs [.m 7 0,.v 8 (nV s.size)] ?_)))));have hb7:(decide ((65536:Int)<(s.size:Int)))=false:=decide_eq_false oM;refine lB 9 hb7 (af (cK (ab hs [.m 12 0,.v 13 (.agg #[.string s,iV 0,iV 0])] (lA 14 113 ([.string s,iV 0,iV 0]) hs (fun b8 w9 _ hs=>lL hs [.m 4 14] (aJ (lL hs [.m 15 4] (dH 16 ((Et AC AX n).1 b8 s oM 0 (Nat.zero_le _) 0 t b hq _ _ hs.g (hs.own 0) (hs.jk 0)) ?_))))))));rintro _ _ _ u13 ⟨tb,p,rfl,hbl,hO,hS,hT⟩;replace hs:=(hs.stepM 0 u13 hO).to [⟨b8,113,[.string s,nV b,iV 0]⟩,⟨b4,80,[iV 0,iV 0,iV 0]⟩,⟨b1,46,[iV 0,iV 0,qF,uV 0,eS,uV 0,eS,eS,sZ]⟩] [];replace hs:=((hs.a_Seg hS).add (K:=fun h_=>PtH h_ p t) hT);refine lL hs [.m 5 16] (ae (ab hs [.m 17 5,.v 18 qT] (am (ab hs [.m 19 4] (dH 20 (mQ b8 s oM b hbl 0 _ _ hs.g (hs.own 0) (hs.jk 0)) ?_)))));rintro _ _ _ u16 ⟨rfl,hO2⟩;rw[hb] at hO2
 rw[hb];replace hs:=(hs.stepM 0 u16 hO2).to [⟨b8,113,[.string s,nV s.size,iV 0]⟩,⟨b4,80,[iV 0,iV 0,iV 0]⟩,⟨b1,46,[iV 0,iV 0,qF,uV 0,eS,uV 0,eS,eS,sZ]⟩] [];refine aJ (lL hs [.m 21 4,.v 22 (pB b8),.v 23 (qP b8 1),.o 24 (nV s.size) 0 1 1,.m 25 0,.v 26 (nV s.size)] ?_);have za:(decide ((s.size:Int)<(s.size:Int)))=false:=decide_eq_false oM;refine lB 27 za (af (cK (cQ (ab hs [.m 34 5,.v 35 qF] (af (cK (cQ (ab hs [.m 42 5,.v 43 (pB tb)] (lH 44 (pX p) hs hs.f.2.1 ?_)))))))));refine ah 45 hs ((by have q_:=oJ db fg wV (fun s h_=>l7 h_) nH d p t hd _ _ hs.g ((hs.f.1).cut hW) hW;rw[if_neg oM] at q_;exact q_)) (fun _ _ hs=>lL hs [.m 6 45] (aJ (lL hs [.m 46 6,.v 47 qF] (af (cK (ab hs [.m 51 5,.v 52 (pB tb)] (lH 53 (pX p) hs hs.f.2.1 ?_)))))));exact lL hs [.v 54 (.agg #[iV 0,iV 0,iV 0])] (lP 2 0 (pC p) hs (fun _ hs=>lP 1 0 ([iV 0,iV 0,iV 0]) hs (fun _ hs=>ac hs [(2,0,9),(1,0,3)] (.tuple #[pX p,.agg #[iV 0,iV 0,iV 0]]) (⟨p,rfl,(hs.f.1).cut hW⟩))))
theorem sq (q:Rat)(w:World)(h:Hp)(g:G w h):CV 141 #[qv q] w h (dC ⟨1,0,q,⟨#[]⟩,none,0,0⟩):=by
 have hs:=sS g;exact go Tryz.func141 [(0,qv q)] rfl (aA (lA 1 43 (qc q) hs (fun b1 w2 h3 hs=>lA 2 46 ([iV 0,iV 0,qF,uV 0,eS,uV 0,eS,eS,sZ]) hs (fun b4 w5 h6 hs=>aJ (lL hs [.o 3 (qv q) 1 0 5,.v 4 (.agg #[iV 1,iV 0,.bool (ai q.num),uV (lo (aa q.num)),.string (hi (aa q.num)),uV (lo (qd q)),.string (hi (qd q)),eS,sZ])] (lP 0 0 ([iV 1,iV 0,.bool (ai q.num),uV (lo (aa q.num)),.string (hi (aa q.num)),uV (lo (qd q)),.string (hi (qd q)),eS,sZ]) hs (fun w7 hs=>ac hs [(0,0,9)] (.agg #[iV 1,iV 0,.bool (ai q.num),uV (lo (aa q.num)),.string (hi (aa q.num)),uV (lo (qd q)),.string (hi (qd q)),eS,sZ]) rfl)))))))
theorem nN (n:Int)(h0 : -1000≤n)(h1:n≤1000)(w:World)(h:Hp)(g:G w h):CV 93 #[iV n] w h (dC ⟨1,0,((n:Int):Rat),⟨#[]⟩,none,0,0⟩):=by
 have hs:=sS g;exact go Tryz.func93 [(0,iV n)] rfl (aA (lA 2 46 ([iV 0,iV 0,qF,uV 0,eS,uV 0,eS,eS,sZ]) hs (fun b1 w2 h3 hs=>aJ (lL hs [.m 3 0] (ah 4 hs (xX (n) oM oM _ _ hs.g) (fun w4 h5 hs=>ah 5 hs (sq (((n:Int):Rat)) _ _ hs.g) (fun w6 h7 hs=>lP 0 0 (pC (⟨1,0,((n:Int):Rat),⟨#[]⟩,none,0,0⟩:PTm)) hs (fun w8 hs=>ac hs [(0,0,9)] (pX (⟨1,0,((n:Int):Rat),⟨#[]⟩,none,0,0⟩:PTm)) rfl))))))))
theorem Em (p:PTm)(n:Int)(e:Bool)(h0 : -1000≤n)(h1:n≤1000)(hlq:LQ 100000000 p.q)(he:p.op=1→(di p.q ((n:Int):Rat) == 0)=e)(he2:p.op≠1→e=false)(w:World)(h:Hp)(g:G w h):CV 143 #[pX p,iV n] w h (.bool e):=by
 have hs:=sS g;refine go Tryz.func143 [(0,pX p),(1,iV n)] rfl (aA (lA 2 46 (pC p) hs (fun b1 w2 h3 hs=>lL hs [.v 4 qF] (ae (cR 11 [] mixed hs ar ?_)))));refine eV 0 5 (pB b1) (eO 1 6 [(0,0,1)] (iV p.op) hs ?_);cases hb4:((p.op:Int) == (1:Int))
 ·
  have phb4:=ag hb4;exact eB 2 7 hb4 (eV 3 8 qF (eG 4 9 (eG 5 10 (eG 6 11 (eG 7 12 (eG 8 13 (eG 9 14 (eV 10 15 qF (cg hs (fun w5 h6 hs=>tV 11 4 qF (tN (kX (hs.ret [] qF (congrArg Value.bool (by first|exact (he2 oM).symm|(rw[←he oM];exact (by assumption:(_ == _)=_).symm))))))))))))))))
 have phb4:=eq_of_beq hb4;refine eB 2 7 hb4 (eV 3 8 qT (eV 4 9 (qP b1 2) (eO 5 10 [(0,2,5)] (qv p.q) hs (eV 6 11 (iV n) (aq 7 12 hs (fun _ _ hs=>xX (n) oM oM _ _ hs.g) (fun w7 h8 hs=>aq 8 13 hs (fun _ _ hs=>wu p.q ((n:Int):Rat) hlq ((LQ.int oM oM).mono oM) _ _ hs.g) (fun w9 _ hs=>?_)))))));cases za:((di p.q ((n:Int):Rat):Int) == (0:Int))
 ·
  have zb:=ag za;exact eB 9 14 za (eV 10 15 qF (cg hs (fun _ _ hs=>tV 11 4 qF (tN (kX (hs.ret [] qF (congrArg Value.bool (by first|exact (he2 oM).symm|(rw[←he oM];exact (by assumption:(_ == _)=_).symm)))))))))
 have zb:=eq_of_beq za;exact eB 9 14 za (eV 10 15 qT (cg hs (fun _ _ hs=>tV 11 4 qT (tN (kX (hs.ret [] qT (congrArg Value.bool (by first|exact (he2 oM).symm|(rw[←he oM];exact (by assumption:(_ == _)=_).symm)))))))))
theorem rD (op n:Int)(q:Rat)(s:ByteArray)(A:Option Addr)(c:Nat)(ps:List PTm)(hlp:ps.length≤2)(hnf:∃ i,i<ps.length∧(ps.getD i aE).op≠1)(w:World)(h:Hp)(g:G w h)(hA:SlO 9 cj aE h A ps):CV 142 #[pW op n q s A ps.length c] w h (.tuple #[.agg #[.bool false,uV 0,eS,uV 0,eS],.bool false]):=by
 have hs:=((sS g).aS hA);refine go Tryz.func142 [(0,pW op n q s A ps.length c)] rfl (aA (lA 1 46 (pG op n q s A ps.length c) hs (fun b1 w2 h3 hs=>lA 2 43 ([qF,uV 0,eS,uV 0,eS]) hs (fun b4 w5 h6 hs=>lL hs [.v 3 qF] (ae (ab hs [.v 8 (qP b1 8),.o 9 (qS A ps.length c) 1 8 1,.v 10 (nV ps.length)] ?_))))));cases hb7:((ps.length:Int) == (0:Int))
 ·
  have phb7:=ag hb7;refine lB 11 hb7 (af (cK (cQ (ab hs [.v 13 (qP b1 8),.o 14 (qS A ps.length c) 1 8 1,.v 15 (nV ps.length),.v 16 (iV 0)] (bc ?_)))));refine bJ _ (CG.loop (fun μ_ Γ w_=>∃ (k:Nat) (h_:Hp),μ_=ps.length-k∧Γ=[(1,pB b1),(2,pB b4),(14,qS A ps.length c),(15,nV ps.length),(16,nV k)]∧SS w h w_ h_ [⟨b4,43,[qF,uV 0,eS,uV 0,eS]⟩,⟨b1,46,pG op n q s A ps.length c⟩] [] [fun h_=>SlO 9 cj aE h_ A ps]∧k≤ps.length∧(∀ i,i<k→(ps.getD i aE).op=1)) _ ⟨0,h6,rfl,rfl,hs.to _ _,Nat.zero_le _,(fun i hi=>absurd hi (Nat.not_lt_zero i))⟩ ?_);rintro _ _ w8 ⟨k,h9,hm10,rfl,hs,hk,hal⟩;refine aA ?_;cases za:(decide ((k:Int)<(ps.length:Int)))
  ·
   have zc:=oF za;refine lB 17 za (ae (cF (CG.exit ?_)))
   show CG _ _ _ _ _ _ _ _
   refine aA ?_
   exfalso
   obtain ⟨i,hi,hop⟩:=hnf;exact hop (hal i oM)
  have zc:=oT za;refine lB 17 za (ae (cf (cK (cQ (kZ (aA (lX 18 A ps.length c 9 (k:Nat) k ((hs.f.1).ok oM) ?_)))))));refine lH 19 (pX (ps.getD k aE)) hs ((hs.f.1).el k oM) (lA 5 46 ([iV 0,iV 0,qF,uV 0,eS,uV 0,eS,eS,sZ]) hs (fun ze _ zf hs=>lP 0 0 (pC (ps.getD k aE)) hs (fun _ hs=>aJ (lL hs [.v 20 (pB ze),.o 21 (iV ((ps.getD k aE).op)) 0 0 1] ?_))));cases zb:(((ps.getD k aE).op:Int) != (1:Int))
  ·
   have zd:=aI zb;refine lB 22 zb (af (cK (kQ (bu 24 ((k:Nat)+1) (k+1) ?_))));refine lL hs [.m 16 24] (lD ?_);intro a_ ka;replace hs:=hs.drop 1 0;refine ⟨_,_,?_,⟨k+1,zf,rfl,rfl,hs.to _ _,oM,(fun i hi=>by rcases Nat.lt_succ_iff_lt_or_eq.1 hi with h_|rfl;exact hal i h_;omega)⟩,ka.to _ kR⟩
   omega
  have zd:=aR zb;exact lB 22 zb (am (ab hs [.v 23 (.agg #[qF,uV 0,eS,uV 0,eS])] (lP 1 0 ([qF,uV 0,eS,uV 0,eS]) hs (fun _ hs=>lL hs [.v 3 qF] (ac hs [(1,0,5)] (.tuple #[.agg #[qF,uV 0,eS,uV 0,eS],qF]) rfl)))))
 have phb7:=eq_of_beq hb7;exact lB 11 hb7 (am (ab hs [.v 12 (.agg #[qF,uV 0,eS,uV 0,eS])] (lP 0 0 ([qF,uV 0,eS,uV 0,eS]) hs (fun _ hs=>lL hs [.v 3 qF] (ac hs [(0,0,5)] (.tuple #[.agg #[qF,uV 0,eS,uV 0,eS],qF]) rfl)))))
theorem uG (n:Int)(q:Rat)(s:ByteArray)(A:Option Addr)(c:Nat)(pa pc:PTm)(hnf:∃ i,i<([pa,pc]:List PTm).length∧(([pa,pc]:List PTm).getD i aE).op≠1)(e:Bool)(hl0:LQ 100000000 pa.q)(hl1:LQ 100000000 pc.q)(hi1_:(((pa):PTm).op=1→(di ((pa):PTm).q ((0:Int):Rat) == 0)=false)∧(((pa):PTm).op≠1→false=false))(hi2_:(((pc):PTm).op=1→(di ((pc):PTm).q ((0:Int):Rat) == 0)=false)∧(((pc):PTm).op≠1→false=false))(hi3_:(((pa):PTm).op=1→(di ((pa):PTm).q ((1:Int):Rat) == 0)=false)∧(((pa):PTm).op≠1→false=false))(hi4_:(((pc):PTm).op=1→(di ((pc):PTm).q ((1:Int):Rat) == 0)=e)∧(((pc):PTm).op≠1→e=false))  (w:World)(h:Hp)(g:G w h)(hA:SlO 9 cj aE h A ([pa,pc]:List PTm)):CV 94 #[pW 5 n q s A 2 c] w h (dC (if e=true then pa else ⟨5,n,q,s,A,2,c⟩)):=by
 have hs:=((sS g).aS hA);have hln:([pa,pc]:List PTm).length=2:=rfl;refine go Tryz.func94 [(0,pW 5 n q s A 2 c)] rfl (aA (lA 1 46 (pG 5 n q s A 2 c) hs (fun b1 w2 h3 hs=>lA 2 46 ([iV 0,iV 0,qF,uV 0,eS,uV 0,eS,eS,sZ]) hs (fun b4 w5 h6 hs=>ae (ab hs [.o 6 (pW 5 n q s A 2 c) 1 0 9] (ah 7 hs (rD 5 n q s A c ([pa,pc]:List PTm) (by rw[hln];omega) hnf _ _ hs.g hs.f.1) (fun w7 h8 hs=>lL hs [.m 5 7,.v 8 (.agg #[qF,uV 0,eS,uV 0,eS]),.v 9 qF] (lA 3 43 ([qF,uV 0,eS,uV 0,eS]) hs (fun b9 _ _ hs=>lP 0 0 ([qF,uV 0,eS,uV 0,eS]) hs (fun _ hs=>lL hs [.m 4 9] (aJ (lL hs [.m 10 4] (af (cK (cQ (ab hs [.v 13 (pB b1),.o 14 (iV 5) 2 0 1] (bc (ab hs [.v 16 qF,.m 15 16] (af (ab hs [.v 36 qF,.m 35 36] (af (ab hs [.v 58 qT,.m 57 58] (am (cQ (ab hs [.v 59 (qP b1 8),.o 60 (qS A 2 c) 2 8 1] (lX 61 A 2 c 9 0 0 ((hs.f.1).ok oM) ?_))))))))))))))))))))))))));refine lH 62 (pX (([pa,pc]:List PTm).getD 0 aE)) hs ((hs.f.1).el 0 oM) (ah 63 hs (Em (([pa,pc]:List PTm).getD 0 aE) 0 false kD kD hl0 hi1_.1 hi1_.2 _ _ hs.g) (fun _ _ hs=>lL hs [.m 64 63,.v 65 (qP b1 8),.o 66 (qS A 2 c) 2 8 1] (lX 67 A 2 c 9 1 1 ((hs.f.1).ok oM) ?_)));refine lH 68 (pX (([pa,pc]:List PTm).getD 1 aE)) hs ((hs.f.1).el 1 oM) (ah 69 hs (Em (([pa,pc]:List PTm).getD 1 aE) 0 false kD kD hl1 hi2_.1 hi2_.2 _ _ hs.g) (fun _ _ hs=>lL hs [.v 70 qF] (af (cK (cQ (ab hs [.v 72 (qP b1 8),.o 73 (qS A 2 c) 2 8 1] (lX 74 A 2 c 9 0 0 ((hs.f.1).ok oM) ?_)))))));refine lH 75 (pX (([pa,pc]:List PTm).getD 0 aE)) hs ((hs.f.1).el 0 oM) (ah 76 hs (Em (([pa,pc]:List PTm).getD 0 aE) 1 false kD kD hl0 hi3_.1 hi3_.2 _ _ hs.g) (fun _ _ hs=>af (cK (ab hs [.v 81 (qP b1 8),.o 82 (qS A 2 c) 2 8 1] (lX 83 A 2 c 9 1 1 ((hs.f.1).ok oM) ?_)))));refine lH 84 (pX (([pa,pc]:List PTm).getD 1 aE)) hs ((hs.f.1).el 1 oM) (ah 85 hs (Em (([pa,pc]:List PTm).getD 1 aE) 1 e kD kD hl1 hi4_.1 hi4_.2 _ _ hs.g) (fun _ _ hs=>?_));cases hb21:(e)
 ·
  refine lN (bJ [(1,pB b1),(2,pB b4),(85,qF)] ?_);exact cF (cK (ab hs [.o 129 (pW 5 n q s A 2 c) 2 0 9] (lP 1 0 (pG 5 n q s A 2 c) hs (fun _ hs=>ac hs [(1,0,9)] (pW 5 n q s A 2 c) (by first|rfl|(rw[(by assumption:e=false)];rfl))))))
 refine lN (bJ [(1,pB b1),(2,pB b4),(85,qT)] ?_);refine cf (ab hs [.v 86 (qP b1 8),.o 87 (qS A 2 c) 2 8 1] (lX 88 A 2 c 9 0 0 ((hs.f.1).ok oM) ?_));exact lH 89 (pX (([pa,pc]:List PTm).getD 0 aE)) hs ((hs.f.1).el 0 oM) (lP 1 0 (pC (([pa,pc]:List PTm).getD 0 aE)) hs (fun _ hs=>ac hs [(1,0,9)] (pX (([pa,pc]:List PTm).getD 0 aE)) (by first|rfl|(rw[(by assumption:e=true)];rfl))))
theorem nj (n:Int)(q:Rat)(s:ByteArray)(A:Option Addr)(c:Nat)(pa:PTm)(hnf:∃ i,i<([pa]:List PTm).length∧(([pa]:List PTm).getD i aE).op≠1)(hn0:n≠0)(w:World)(h:Hp)(g:G w h)(hA:SlO 9 cj aE h A ([pa]:List PTm)):CV 94 #[pW 8 n q s A 1 c] w h (dC (if n=1 then pa else ⟨8,n,q,s,A,1,c⟩)):=by
 have hs:=((sS g).aS hA);have hln:([pa]:List PTm).length=1:=rfl;refine go Tryz.func94 [(0,pW 8 n q s A 1 c)] rfl (aA (lA 1 46 (pG 8 n q s A 1 c) hs (fun b1 w2 h3 hs=>lA 2 46 ([iV 0,iV 0,qF,uV 0,eS,uV 0,eS,eS,sZ]) hs (fun b4 w5 h6 hs=>ae (ab hs [.o 6 (pW 8 n q s A 1 c) 1 0 9] (ah 7 hs (rD 8 n q s A c ([pa]:List PTm) (by rw[hln];omega) hnf _ _ hs.g hs.f.1) (fun w7 h8 hs=>lL hs [.m 5 7,.v 8 (.agg #[qF,uV 0,eS,uV 0,eS]),.v 9 qF] (lA 3 43 ([qF,uV 0,eS,uV 0,eS]) hs (fun b9 _ _ hs=>lP 0 0 ([qF,uV 0,eS,uV 0,eS]) hs (fun _ hs=>lL hs [.m 4 9] (aJ (lL hs [.m 10 4] (af (cK (cQ (ab hs [.v 13 (pB b1),.o 14 (iV 8) 2 0 1] (bc (ab hs [.v 16 qF,.m 15 16] (af (ab hs [.v 36 qF,.m 35 36] (af (ab hs [.v 58 qF,.m 57 58] (af (ab hs [.v 91 qF,.m 90 91] (af (ab hs [.v 102 qF,.m 101 102] (af (ab hs [.v 117 qT,.m 116 117] (am (cQ (ab hs [.v 118 (qP b1 1),.o 119 (iV n) 2 1 1] ?_)))))))))))))))))))))))))))))));have zc:((n:Int) == (0:Int))=false:=dM oM;refine lB 120 zc (af (cK (ab hs [.v 122 (qP b1 1),.o 123 (iV n) 2 1 1] ?_)));cases za:((n:Int) == (1:Int))
 ·
  have zb:=ag za;exact lB 124 za (af (cK (ab hs [.o 129 (pW 8 n q s A 1 c) 2 0 9] (lP 1 0 (pG 8 n q s A 1 c) hs (fun _ hs=>ac hs [(1,0,9)] (pW 8 n q s A 1 c) (by rw[if_neg oM];rfl))))))
 have zb:=eq_of_beq za;refine lB 124 za (am (ab hs [.v 125 (qP b1 8),.o 126 (qS A 1 c) 2 8 1] (lX 127 A 1 c 9 0 0 ((hs.f.1).ok oM) ?_)));exact lH 128 (pX (([pa]:List PTm).getD 0 aE)) hs ((hs.f.1).el 0 oM) (lP 1 0 (pC (([pa]:List PTm).getD 0 aE)) hs (fun _ hs=>ac hs [(1,0,9)] (pX (([pa]:List PTm).getD 0 aE)) (by rw[if_pos oM];rfl)))
section
variable {M:Ms} {P:Program} {n:Nat} {N R:Po} {X:Nat→Po} {ops:Array Oper} {k0:Nat} {L:Array Bool} {Γ:bG} {w:World} {h:Hp} {w0:World} {h0:Hp} {B:List Bx} {Rs:List Rw} {F:List (Hp→Prop)}
def pD (ops:Array Oper)(k0:Nat)(L:Array Bool)(i j:Nat):Bool :=
  decide (i<ops.size) && decide (j<ops.size) && decide (k0≤i) && decide (k0≤j) && Region.noSelect ops && (Region.ready .any ops L == [i,j])
theorem A.two {a:Act}{i j:Nat}(hc:pD ops k0 L i j=true){Q:Exit→Act→World→Prop}{R1 R2:Value→World→Prop}(h1:OpR P ops (ao ops i) a w R1)(h2:OpR P ops (ao ops j) a w R2)(hT1:∀ v w',R1 v w'→Tl M w w')(hT2:∀ v w',R2 v w'→Tl M w w')
  (hK1:∀ v w',R1 v w'→A M P ops Q k0 (L.setIfInBounds i true) (a.put (ao ops i).dst v) w')(hK2:∀ v w',R2 v w'→A M P ops Q k0 (L.setIfInBounds j true) (a.put (ao ops j).dst v) w'):A M P ops Q k0 L a w:=by
 unfold pD at hc
 simp only[Bool.and_eq_true,decide_eq_true_eq,beq_iff_eq] at hc
 obtain ⟨⟨⟨⟨⟨c1,c2⟩,c3⟩,c4⟩,_⟩,c6⟩:=hc;refine A.intro (fun h0=>by rw[c6] at h0;cases h0) (fun q hq=>?_);rw[c6] at hq
 rcases List.mem_cons.1 hq with rfl|hq
 ·exact OpR.wpOp (bj c1) h1 (fun v w' hr=>⟨Rl.tl c3 (hT1 v w' hr),hK1 v w' hr⟩)
 ·rw[List.mem_singleton] at hq
  subst hq;exact OpR.wpOp (bj c2) h2 (fun v w' hr=>⟨Rl.tl c4 (hT2 v w' hr),hK2 v w' hr⟩)
def DA (n:Nat)(ops:Array Oper)(Γ:bG)(i t:Nat):Bool:=Region.noSelect ops && decide (i<ops.size) && aY Γ (ao ops i) && ((ao ops i).dst == some t) && decide (t<n) && (aZ ops Γ (ao ops i) == some true)
theorem ox {i t:Nat}{v:Value}(hc:DA n ops Γ i t=true)(hr:(execOp (ev Γ) (ao ops i)).run P w=.ok (.value v) w){a:Act}(ka:Kn n a Γ):OpR P ops (ao ops i) a w (fun u w1=>u=v∧w1=w)∧(ao ops i).dst=some t∧t<n:=by
 unfold DA at hc
 simp only[Bool.and_eq_true,decide_eq_true_eq,beq_iff_eq] at hc
 obtain ⟨⟨⟨⟨⟨hs,h0⟩,h2⟩,h3⟩,h4⟩,h5⟩:=hc;exact ⟨⟨ka.want h5,.inl ⟨v,w,by rw[ka.exec (Region.noSelect_spec hs i _ · · (bj h0)) h2];exact hr,rfl,rfl⟩⟩,h3,h4⟩
def E1 (ops:Array Oper)(Γ:bG)(i:Nat):Bool:=Region.noSelect ops && decide (i<ops.size) && aY Γ (ao ops i) && ((ao ops i).dst == none) && (aZ ops Γ (ao ops i) == some true)
theorem BM {i:Nat}{w':World}(hc:E1 ops Γ i=true)(hr:(execOp (ev Γ) (ao ops i)).run P w=.ok .skip w'){a:Act}(ka:Kn n a Γ):OpR P ops (ao ops i) a w (fun u w1=>u=undef∧w1=w')∧(ao ops i).dst=none:=by
 unfold E1 at hc
 simp only[Bool.and_eq_true,decide_eq_true_eq,beq_iff_eq] at hc
 obtain ⟨⟨⟨⟨hs,h0⟩,h2⟩,h3⟩,h5⟩:=hc;exact ⟨⟨ka.want h5,.inr (.inl ⟨w',by rw[ka.exec (Region.noSelect_spec hs i _ · · (bj h0)) h2];exact hr,rfl,rfl⟩)⟩,h3⟩
theorem Fw (i t:Nat)(ps:List (Nat × Nat × Nat))(v:Value)(j t2:Nat)(ps2:List (Nat × Nat × Nat))(v2:Value)(s:SS w0 h0 w h B Rs F)(H1:AG M P n N R X ops k0 (L.setIfInBounds i true) ((t,v)::Γ) w)(H2:AG M P n N R X ops k0 (L.setIfInBounds j true) ((t2,v2)::Γ) w)
  (hc:(pD ops k0 L i j && DA n ops Γ i t && DA n ops Γ j t2)=true:=by kernel_rfl)(hp:(bI B ps && bI B ps2)=true:=by kernel_rfl)(he:bH P (execOp (ev Γ) (ao ops i)) (bz B ps)=some (.value v,bD B ps):=by kernel_rfl)(he2:bH P (execOp (ev Γ) (ao ops j)) (bz B ps2)=some (.value v2,bD B ps2):=by kernel_rfl):AG M P n N R X ops k0 L Γ w:=by
 simp only[Bool.and_eq_true] at hc hp
 intro a ka;obtain ⟨o1,d1,l1⟩:=ox hc.1.2 (bB _ _ _ _ he (bU s.st.own ps hp.1)) ka;obtain ⟨o2,d2,l2⟩:=ox hc.2 (bB _ _ _ _ he2 (bU s.st.own ps2 hp.2)) ka;refine A.two hc.1.1 o1 o2 (fun _ _ e=>e.2▸Tl.refl _ _) (fun _ _ e=>e.2▸Tl.refl _ _) ?_ ?_
 ·rintro _ _ ⟨rfl,rfl⟩;rw[d1];exact H1 _ (ka.put l1 _)
 ·rintro _ _ ⟨rfl,rfl⟩;rw[d2];exact H2 _ (ka.put l2 _)
theorem Fv (i t:Nat)(ps:List (Nat × Nat × Nat))(v:Value)(q j o:Nat)(cs:List Value)(s:SS w0 h0 w h B Rs F)(H1:AG M P n N R X ops k0 (L.setIfInBounds i true) ((t,v)::Γ) w)(H2:∀ w',SS w0 h0 w' h (fh B j o cs) Rs F→AG M P n N R X ops k0 (L.setIfInBounds q true) Γ w')
  (hc:(pD ops k0 L i q && DA n ops Γ i t && E1 ops Γ q)=true:=by kernel_rfl)(hp:bI B ps=true:=by kernel_rfl)(he:bH P (execOp (ev Γ) (ao ops i)) (bz B ps)=some (.value v,bD B ps):=by kernel_rfl)
  (hj:(decide (j<B.length) && decide (o+cs.length≤(av B j).vs.length))=true:=by kernel_rfl)(he2:cW P (execOp (ev Γ) (ao ops q))=some (.skip,ke (av B j).b o cs):=by kernel_rfl)(hz:M.z=none:=by rfl):AG M P n N R X ops k0 L Γ w:=by
 simp only[Bool.and_eq_true] at hc
 have hj2:=hj
 simp only[Bool.and_eq_true,decide_eq_true_eq] at hj2
 intro a ka;obtain ⟨o1,d1,l1⟩:=ox hc.1.2 (bB _ _ _ _ he (bU s.st.own ps hp)) ka;obtain ⟨w',hrun,hput,hown⟩:=eA _ _ _ _ _ w he2 (s.st.own _ (a8 hj2.1)) hj2.2;obtain ⟨o2,d2⟩:=BM hc.2 hrun ka;refine A.two hc.1.1 o1 o2 (fun _ _ e=>e.2▸Tl.refl _ _) (fun _ _ _=>Tl.none hz _ _) ?_ ?_
 ·rintro _ _ ⟨rfl,rfl⟩;rw[d1];exact H1 _ (ka.put l1 _)
 ·rintro _ _ ⟨rfl,rfl⟩
  rw[d2];exact H2 _ (s.put0 hj2.1 hput (s.st.put s.g0 hj2.1 hput hown) (jR hj2.1)) _ ka
end
theorem CP (pa pc:PTm)(hnf:∃ i,i<([pa,pc]:List PTm).length∧(([pa,pc]:List PTm).getD i aE).op≠1)(e:Bool)(hl0:LQ 100000000 pa.q)(hl1:LQ 100000000 pc.q)(hi1_:(((pa):PTm).op=1→(di ((pa):PTm).q ((0:Int):Rat) == 0)=false)∧(((pa):PTm).op≠1→false=false))(hi2_:(((pc):PTm).op=1→(di ((pc):PTm).q ((0:Int):Rat) == 0)=false)∧(((pc):PTm).op≠1→false=false))(hi3_:(((pa):PTm).op=1→(di ((pa):PTm).q ((1:Int):Rat) == 0)=false)∧(((pa):PTm).op≠1→false=false))(hi4_:(((pc):PTm).op=1→(di ((pc):PTm).q ((1:Int):Rat) == 0)=e)∧(((pc):PTm).op≠1→e=false))  (w:World)(h:Hp)(g:G w h):CR 95 #[iV 5,pX pa,pX pc] w h (fun v h1=>∃ b,v=dC (if e=true then pa else ⟨5,0,0,⟨#[]⟩,sB b,2,2⟩)∧SlO 9 cj aE h1 (sB b) ([pa,pc]:List PTm)):=by
 have hs:=sS g;refine go Tryz.func95 [(0,iV 5),(1,pX pa),(2,pX pc)] rfl (aA (lA 4 46 (pC pa) hs (fun b1 w2 h3 hs=>lA 5 46 (pC pc) hs (fun b4 w5 h6 hs=>lA 6 46 ([iV 0,iV 0,qF,uV 0,eS,uV 0,eS,eS,sZ]) hs (fun b7 w8 h9 hs=>aJ (lL hs [.m 7 0,.o 8 (pX pa) 2 0 9,.o 9 (pX pc) 1 0 9] (lC 10 hs (x5 5 pa pc _ _ hs.g) ?_)))))));rintro _ _ _ hs ⟨b2,rfl,hA2⟩;replace hs:=hs.aS hA2;exact ah 11 hs (uG 0 0 ⟨#[]⟩ (sB b2) 2 pa pc hnf e hl0 hl1 hi1_ hi2_ hi3_ hi4_ _ _ hs.g hs.f.1) (fun _ _ hs=>lP 0 0 (pC (if e=true then pa else ⟨5,0,0,⟨#[]⟩,sB b2,2,2⟩)) hs (fun _ hs=>ac hs [(0,0,9)] (pX (if e=true then pa else ⟨5,0,0,⟨#[]⟩,sB b2,2,2⟩)) (⟨b2,rfl,hs.f.1⟩)))
theorem ww (pa:PTm)(hpa:pa.op≠1)(w:World)(h:Hp)(g:G w h):CV 96 #[pX pa,iV 1] w h (dC pa):=by
 have hs:=sS g;refine go Tryz.func96 [(0,pX pa),(1,iV 1)] rfl (aA (lA 2 46 (pC pa) hs (fun b1 w2 h3 hs=>lA 4 46 ([iV 0,iV 0,qF,uV 0,eS,uV 0,eS,eS,sZ]) hs (fun b4 w5 h6 hs=>aJ (lL hs [.o 6 (pX pa) 1 0 9] (lC 7 hs (xP 8 pa _ _ hs.g) ?_))))));rintro _ w7 h8 hs ⟨b1,rfl,hA1⟩;replace hs:=hs.aS hA1;exact lA 5 46 ([iV 0,iV 0,qF,uV 0,eS,uV 0,eS,eS,sZ]) hs (fun b9 _ _ hs=>lP 0 0 (pC (⟨8,0,0,⟨#[]⟩,sB b1,1,1⟩:PTm)) hs (fun _ hs=>aJ (lL hs [.m 8 1,.v 9 (qP b9 1)] (lP 0 1 ([iV 1]) hs (fun _ hs=>aJ (lL hs [.o 10 (pW ((⟨8,0,0,⟨#[]⟩,sB b1,1,1⟩:PTm).op) 1 ((⟨8,0,0,⟨#[]⟩,sB b1,1,1⟩:PTm).q) ((⟨8,0,0,⟨#[]⟩,sB b1,1,1⟩:PTm).s) ((⟨8,0,0,⟨#[]⟩,sB b1,1,1⟩:PTm).A) ((⟨8,0,0,⟨#[]⟩,sB b1,1,1⟩:PTm).m) ((⟨8,0,0,⟨#[]⟩,sB b1,1,1⟩:PTm).c)) 0 0 9] (ah 11 hs (nj 1 0 ⟨#[]⟩ (sB b1) 1 pa ⟨0,Nat.one_pos,hpa⟩ kD _ _ hs.g hs.f.1) (fun _ _ hs=>lP 1 0 (pC pa) hs (fun _ hs=>ac hs [(1,0,9)] (pX pa) rfl)))))))))
theorem vF (s:ByteArray)(Ax:Option Addr)(cx:Nat)(w:World)(h:Hp)(g:G w h):CV 60 #[.agg #[iV 2,iV 0,.bool false,uV 0,eS,uV 0,eS,.string s,.slice Ax 0 cx],.string s] w h (.tuple #[.agg #[iV 2,iV 0,.bool false,uV 0,eS,uV 0,eS,.string s,.slice Ax 0 cx],dC (⟨1,0,((1:Int):Rat),⟨#[]⟩,none,0,0⟩:PTm)]):=by
 have hs:=sS g;refine go Tryz.func60 [(0,.agg #[iV 2,iV 0,qF,uV 0,eS,uV 0,eS,.string s,qS Ax 0 cx]),(1,.string s)] rfl (aA (lA 2 46 ([iV 2,iV 0,qF,uV 0,eS,uV 0,eS,.string s,qS Ax 0 cx]) hs (fun b1 w2 h3 hs=>lA 4 46 ([iV 0,iV 0,qF,uV 0,eS,uV 0,eS,eS,sZ]) hs (fun b4 w5 h6 hs=>lA 5 46 ([iV 0,iV 0,qF,uV 0,eS,uV 0,eS,eS,sZ]) hs (fun b7 w8 h9 hs=>ae (ab hs [.v 12 (qP b1 8),.o 13 (qS Ax 0 cx) 2 8 1,.v 14 (iV 0),.v 15 qT] (am (cQ (ab hs [.v 16 (pB b1),.o 17 (iV 2) 2 0 1,.v 18 qT,.m 19 18,.v 20 (qP b1 7),.o 21 (.string s) 2 7 1,.m 22 1] (lV 23 qT ?_ (hr:=rb kR (Ee s))))))))))));refine lL hs [.v 24 qT] (am (cQ (cR 2 [] mixed hs ar ?_)));exact eO 0 25 [(2,0,9)] (.agg #[iV 2,iV 0,qF,uV 0,eS,uV 0,eS,.string s,qS Ax 0 cx]) hs (aq 1 26 hs (fun _ _ hs=>nN 1 kD kD _ _ hs.g) (fun _ _ hs=>cg hs (fun _ _ hs=>tP 2 1 0 ([iV 2,iV 0,qF,uV 0,eS,uV 0,eS,.string s,qS Ax 0 cx]) hs (fun _ hs=>tP 3 0 0 (pC (⟨1,0,((1:Int):Rat),⟨#[]⟩,none,0,0⟩:PTm)) hs (fun _ hs=>tN (kX (hs.ret [(1,0,9),(0,0,9)] (.tuple #[.agg #[iV 2,iV 0,qF,uV 0,eS,uV 0,eS,.string s,qS Ax 0 cx],pX (⟨1,0,((1:Int):Rat),⟨#[]⟩,none,0,0⟩:PTm)]) rfl)))))))
theorem Eg:LQ 100000000 (0:Rat):=qz kD
theorem E2:LQ 100000000 (((1:Int)):Rat):=(LQ.int kD kD).mono kD
theorem EV:LQ 100000000 (((2:Int)):Rat):=(LQ.int kD kD).mono kD
theorem vN (s:ByteArray)(Ax:Option Addr)(cx:Nat)(A:Option Addr)(c:Nat)(w:World)(h:Hp)(g:G w h)(hA:SlO 9 cj aE h A ([(⟨2,0,0,s,Ax,0,cx⟩:PTm)]:List PTm)):CR 60 #[.agg #[iV 8,iV 2,.bool false,uV 0,eS,uV 0,eS,eS,.slice A 1 c],.string s] w h (fun v h1=>∃ b0 b,v=.tuple #[dC ⟨8,2,0,⟨#[]⟩,sB b0,1,1⟩,dC ⟨5,0,0,⟨#[]⟩,sB b,2,2⟩]∧SlO 9 cj aE h1 (sB b) [(⟨1,0,((2:Int):Rat),⟨#[]⟩,none,0,0⟩:PTm),(⟨2,0,0,s,Ax,0,cx⟩:PTm)]):=by
 have hs:=((sS g).aS hA);have hln:([(⟨2,0,0,s,Ax,0,cx⟩:PTm)]:List PTm).length=1:=rfl;refine go Tryz.func60 [(0,.agg #[iV 8,iV 2,qF,uV 0,eS,uV 0,eS,eS,qS A 1 c]),(1,.string s)] rfl (aA (lA 2 46 ([iV 8,iV 2,qF,uV 0,eS,uV 0,eS,eS,qS A 1 c]) hs (fun b1 w2 h3 hs=>lA 4 46 ([iV 0,iV 0,qF,uV 0,eS,uV 0,eS,eS,sZ]) hs (fun b4 w5 h6 hs=>lA 5 46 ([iV 0,iV 0,qF,uV 0,eS,uV 0,eS,eS,sZ]) hs (fun b7 w8 h9 hs=>ae (ab hs [.v 12 (qP b1 8),.o 13 (qS A 1 c) 2 8 1,.v 14 (iV 1),.v 15 qF] (af (cK (ab hs [.v 30 (qP b1 8),.o 31 (qS A 1 c) 2 8 1] (lX 32 A 1 c 9 0 0 ((hs.f.1).ok oM) ?_))))))))));refine lH 33 (pX (([(⟨2,0,0,s,Ax,0,cx⟩:PTm)]:List PTm).getD 0 aE)) hs ((hs.f.1).el 0 oM) (lL hs [.m 34 1] (ah 35 hs (vF s Ax cx _ _ hs.g) (fun _ _ hs=>lL hs [.m 29 35,.v 36 (.agg #[iV 2,iV 0,qF,uV 0,eS,uV 0,eS,.string s,qS Ax 0 cx]),.v 37 (pX (⟨1,0,((1:Int):Rat),⟨#[]⟩,none,0,0⟩:PTm))] (lA 6 46 ([iV 0,iV 0,qF,uV 0,eS,uV 0,eS,eS,sZ]) hs (fun zb _ _ hs=>lA 7 46 ([iV 0,iV 0,qF,uV 0,eS,uV 0,eS,eS,sZ]) hs (fun zc _ _ hs=>lP 1 0 ([iV 2,iV 0,qF,uV 0,eS,uV 0,eS,.string s,qS Ax 0 cx]) hs (fun _ hs=>lP 0 0 (pC (⟨1,0,((1:Int):Rat),⟨#[]⟩,none,0,0⟩:PTm)) hs (fun _ hs=>aJ (lL hs [.o 38 (.agg #[iV 2,iV 0,qF,uV 0,eS,uV 0,eS,.string s,qS Ax 0 cx]) 1 0 9] (lR 39 46 1 ([iV 2,iV 0,qF,uV 0,eS,uV 0,eS,.string s,qS Ax 0 cx]) hs (fun za _ _ hs=>?_)))))))))));replace hs:=hs.aS (SlO.of_flat (sz:=9) (f:=cj) (d:=aE) (b:=za) (o:=0) (l:=([(⟨2,0,0,s,Ax,0,cx⟩:PTm)]:List PTm)) (fun _=>rfl) hs.f.1);refine lL hs [.m 8 39] (aJ (lL hs [.v 40 (.agg #[iV 0,iV 0,qF,uV 0,eS,uV 0,eS,eS,sZ]),.v 41 (.agg #[iV 0,iV 0,qF,uV 0,eS,uV 0,eS,eS,sZ])] (lA 9 46 ([iV 0,iV 0,qF,uV 0,eS,uV 0,eS,eS,sZ]) hs (fun zd _ _ hs=>lA 10 46 ([iV 0,iV 0,qF,uV 0,eS,uV 0,eS,eS,sZ]) hs (fun ze _ _ hs=>lP 1 0 ([iV 0,iV 0,qF,uV 0,eS,uV 0,eS,eS,sZ]) hs (fun _ hs=>lP 0 0 ([iV 0,iV 0,qF,uV 0,eS,uV 0,eS,eS,sZ]) hs (fun _ hs=>ae (ab hs [.v 42 (qP b1 8),.o 43 (qS A 1 c) 6 8 1,.v 44 (iV 1),.v 45 qF] (af (cK (ab hs [.v 59 (pB b1),.o 60 (iV 8) 6 0 1,.v 61 (qP b1 1),.o 62 (iV 2) 6 1 1,.m 63 8,.v 64 (.agg #[iV 8,iV 2,qF,uV 0,eS,uV 0,eS,eS,qS (sB za) 1 1])] (ah 65 hs (nj 2 0 ⟨#[]⟩ (sB za) 1 (⟨2,0,0,s,Ax,0,cx⟩:PTm) ⟨0,Nat.one_pos,by show ¬(2:Int)=1;decide⟩ kD _ _ hs.g hs.f.1) (fun _ _ hs=>lP 5 0 (pC (⟨8,2,0,⟨#[]⟩,sB za,1,1⟩:PTm)) hs (fun _ hs=>ae (ab hs [.v 66 (pB b1),.o 67 (iV 8) 6 0 1] (bc (cQ (ab hs [.v 69 qF,.m 68 69] (lN (bJ [(2,pB b1),(4,pB b4),(5,pB b7),(6,pB zb),(7,pB zc),(9,pB zd),(10,pB ze),(67,iV 8),(68,qF)] ?_))))))))))))))))))));refine cF (kQ (lL hs [.v 70 qF,.m 68 70] (af (ab hs [.v 77 qF,.m 76 77] (af (ab hs [.v 86 qF,.m 85 86] (af (ab hs [.v 98 qF,.m 97 98] (af (ab hs [.v 102 qT,.m 101 102] (am (aA (ah 103 hs (nN 0 kD kD _ _ hs.g) (fun _ _ hs=>lP 4 0 (pC (⟨1,0,((0:Int):Rat),⟨#[]⟩,none,0,0⟩:PTm)) hs (fun _ hs=>aJ (lL hs [.v 104 (qP b1 1),.o 105 (iV 2) 6 1 1,.v 106 qT] (am (cR 11 [] mixed hs ar ?_))))))))))))))))));refine eV 0 107 (qP b1 1) (eO 1 108 [(6,1,1)] (iV 2) hs (eO 3 110 [(3,0,9)] (.agg #[iV 2,iV 0,qF,uV 0,eS,uV 0,eS,.string s,qS Ax 0 cx]) hs (eV 4 111 (qP b1 1) (eO 5 112 [(6,1,1)] (iV 2) hs (eV 6 113 (iV 1) (eO 9 116 [(2,0,9)] (pX (⟨1,0,((1:Int):Rat),⟨#[]⟩,none,0,0⟩:PTm)) hs (aq 2 109 hs (fun _ _ hs=>nN 2 kD kD _ _ hs.g) (fun _ _ hs=>aq 7 114 hs (fun _ _ hs=>ww (⟨2,0,0,s,Ax,0,cx⟩:PTm) (by show ¬(2:Int)=1;decide) _ _ hs.g) (fun _ _ hs=>eC 8 115 hs (fun _ _ hs=>CP (⟨1,0,((2:Int):Rat),⟨#[]⟩,none,0,0⟩:PTm) (⟨2,0,0,s,Ax,0,cx⟩:PTm) ⟨1,Nat.one_lt_two,by show ¬(2:Int)=1;decide⟩ false EV Eg ⟨fun _=>by decide +kernel,fun h_=>absurd rfl h_⟩ ⟨fun h_=>absurd h_ (by show ¬(2:Int)=1;decide),fun _=>rfl⟩ ⟨fun _=>by decide +kernel,fun h_=>absurd rfl h_⟩ ⟨fun h_=>absurd h_ (by show ¬(2:Int)=1;decide),fun _=>rfl⟩ _ _ hs.g) ?_)))))))));rintro _ _ _ _ _ hs ⟨bm,rfl,hAm⟩;replace hs:=hs.aS hAm;refine eC 10 117 hs (fun _ _ hs=>CP (⟨5,0,0,⟨#[]⟩,sB bm,2,2⟩:PTm) (⟨1,0,((1:Int):Rat),⟨#[]⟩,none,0,0⟩:PTm) ⟨0,Nat.zero_lt_two,by show ¬(5:Int)=1;decide⟩ true Eg E2 ⟨fun h_=>absurd h_ (by show ¬(5:Int)=1;decide),fun _=>rfl⟩ ⟨fun _=>by decide +kernel,fun h_=>absurd rfl h_⟩ ⟨fun h_=>absurd h_ (by show ¬(5:Int)=1;decide),fun _=>rfl⟩ ⟨fun _=>by decide +kernel,fun h_=>absurd rfl h_⟩ _ _ hs.g) ?_;rintro _ _ _ _ _ hs ⟨_,rfl,-⟩;refine cg hs (fun _ _ hs=>tP 11 4 0 (pC (⟨5,0,0,⟨#[]⟩,sB bm,2,2⟩:PTm)) hs (fun _ hs=>tN (cQ (t7 ⟨[],none⟩ 0 mixed ?_))));replace hs:=hs.drew;refine Fw 0 182 [(5,0,9)] (pX (⟨8,2,0,⟨#[]⟩,sB za,1,1⟩:PTm)) 1 183 [(4,0,9)] (pX (⟨5,0,0,⟨#[]⟩,sB bm,2,2⟩:PTm)) hs ?_ ?_
 ·
  refine Fv 1 183 [(4,0,9)] (pX (⟨5,0,0,⟨#[]⟩,sB bm,2,2⟩:PTm)) 2 5 0 (pC (⟨8,2,0,⟨#[]⟩,sB za,1,1⟩:PTm)) hs ?_ (fun _ hs=>?_)
  ·
   exact tP 2 5 0 (pC (⟨8,2,0,⟨#[]⟩,sB za,1,1⟩:PTm)) hs (fun _ hs=>tP 3 4 0 (pC (⟨5,0,0,⟨#[]⟩,sB bm,2,2⟩:PTm)) hs (fun _ hs=>tN (kX (hs.ret [(5,0,9),(4,0,9)] (.tuple #[pX (⟨8,2,0,⟨#[]⟩,sB za,1,1⟩:PTm),pX (⟨5,0,0,⟨#[]⟩,sB bm,2,2⟩:PTm)]) (⟨za,bm,rfl,hs.f.1⟩)))))
  exact tO 1 183 [(4,0,9)] (pX (⟨5,0,0,⟨#[]⟩,sB bm,2,2⟩:PTm)) hs (tP 3 4 0 (pC (⟨5,0,0,⟨#[]⟩,sB bm,2,2⟩:PTm)) hs (fun _ hs=>tN (kX (hs.ret [(5,0,9),(4,0,9)] (.tuple #[pX (⟨8,2,0,⟨#[]⟩,sB za,1,1⟩:PTm),pX (⟨5,0,0,⟨#[]⟩,sB bm,2,2⟩:PTm)]) (⟨za,bm,rfl,hs.f.1⟩)))))
 exact tO 0 182 [(5,0,9)] (pX (⟨8,2,0,⟨#[]⟩,sB za,1,1⟩:PTm)) hs (tP 2 5 0 (pC (⟨8,2,0,⟨#[]⟩,sB za,1,1⟩:PTm)) hs (fun _ hs=>tP 3 4 0 (pC (⟨5,0,0,⟨#[]⟩,sB bm,2,2⟩:PTm)) hs (fun _ hs=>tN (kX (hs.ret [(5,0,9),(4,0,9)] (.tuple #[pX (⟨8,2,0,⟨#[]⟩,sB za,1,1⟩:PTm),pX (⟨5,0,0,⟨#[]⟩,sB bm,2,2⟩:PTm)]) (⟨za,bm,rfl,hs.f.1⟩))))))
theorem tq  (ok:ByteArray→Prop)(d:Nat)(ih:∀ (p:PTm) (t:Tm) (w:World) (h:Hp),G w h→TmH d h p t→WfT ok d t →  Calls Tryz.prog 22 #[dC p] w (Ret w h (fun v h1=>∃ p2,v=dC p2∧TmH d h1 p2 t)))(op n:Int)(q:Rat)(s:ByteArray)(A:Option Addr)(c:Nat)(ps:List PTm)(ks:List Tm)(hc:ps.length≤c)(hlp:ps.length≤2)(hari:eg op=(ks.length:Nat))(hq0:op≠1→q=0)(hq:LQ 1 q)(hok:op=2→ok s)(hs0:op≠2→s=⟨#[]⟩)(hn0:op≠8→n=0)(hn1 : -12≤n)(hn2:n≤12)(hW:∀ i,i<ks.length→WfT ok d (ks.getD i bE))(w:World)(h:Hp)(g:G w h)(hK:SlO 9 cj aE h A ps)(hKs:Tms d h ps ks):CR 22 #[pW op n q s A ps.length c] w h (fun v h1=>∃ p2,v=dC p2∧TmH (d+1) h1 p2 (.mk op n q s ks)):=by
 have hs:=(((sS g).aS hK).add (K:=fun h_=>Tms d h_ ps ks) hKs);have hln:=(hs.f.1).len;refine go Tryz.func22 [(0,pW op n q s A ps.length c)] rfl (aA (lA 1 46 (pG op n q s A ps.length c) hs (fun b1 w2 h3 hs=>lA 2 46 ([iV 0,iV 0,qF,uV 0,eS,uV 0,eS,eS,sZ]) hs (fun b4 w5 h6 hs=>ae (ab hs [.v 6 (qP b1 8),.o 7 (qS A ps.length c) 1 8 1,.v 8 (nV ps.length)] ?_)))));cases hb7:((ps.length:Int) == (0:Int))
 ·
  have phb7:=ag hb7;refine lB 9 hb7 (af (cK (ab hs [.v 12 (qP b1 8),.o 13 (qS A ps.length c) 1 8 1,.v 14 (nV ps.length)] (lK 15 46 ps.length 9 112 (.agg #[iV 0,iV 0,qF,uV 0,eS,uV 0,eS,eS,sZ]) cj aE hs (fun b8 w9 zd hs=>?_)))));have hl11:(List.replicate ps.length aE).length=ps.length:=by simp
  refine lL hs [.m 3 15] (ae (ab hs [.v 16 (qP b1 8),.o 17 (qS A ps.length c) 2 8 1,.v 18 (nV ps.length),.v 19 (iV 0)] (bc ?_)));replace hs:=hs.add (K:=fun h_=>TmsU d h_ 0 (List.replicate ps.length aE) ks) ((fun i hi=>absurd hi (Nat.not_lt_zero i)));refine bJ _ (CG.loop (fun μ_ Γ w_=>∃ (k:Nat) (L:List PTm) (h_:Hp),μ_=ps.length-k∧Γ=[(1,pB b1),(2,pB b4),(3,qS (sB b8) ps.length ps.length),(17,qS A ps.length c),(18,nV ps.length),(19,nV k)]∧SS w h w_ h_ [⟨b8,46,(L).flatMap cj⟩,⟨b4,46,[iV 0,iV 0,qF,uV 0,eS,uV 0,eS,eS,sZ]⟩,⟨b1,46,pG op n q s A ps.length c⟩] [] [fun h_=>TmsU d h_ k L ks,fun h_=>Tms d h_ ps ks,fun h_=>SlO 9 cj aE h_ A ps]∧k≤ps.length∧L.length=ps.length) _ ⟨0,List.replicate ps.length aE,zd,rfl,rfl,hs.to _ _,Nat.zero_le _,(by simp)⟩ ?_);rintro _ _ _ ⟨k,L,_,hm14,rfl,hs,hk,hLl⟩;refine aA ?_;cases za:(decide ((k:Int)<(ps.length:Int)))
  ·
   have zb:=oF za;refine lB 20 za (ae (cF (CG.exit ?_)))
   show CG _ _ _ _ _ _ _ _
   refine ab hs [.m 30 3,.v 31 (qP b1 8)] (lP 2 8 ([qS (sB b8) ps.length ps.length]) hs (fun _ hs=>aJ ?_));have hkn:k=ps.length:=by omega
   obtain ⟨_,hs,sg18,lo19,bc20⟩:=hs.pub 0;replace hs:=(hs.to [⟨b4,46,[iV 0,iV 0,qF,uV 0,eS,uV 0,eS,eS,sZ]⟩,⟨b1,46,pG op n q s (sB b8) ps.length ps.length⟩] []).aS (SlO.of_flat (sz:=9) (f:=cj) (d:=aE) (b:=b8) (o:=0) (l:=L) (fun _=>rfl) sg18);replace hs:=hs.to [⟨b4,46,[iV 0,iV 0,qF,uV 0,eS,uV 0,eS,eS,sZ]⟩,⟨b1,46,pG op n q s (sB b8) ps.length ps.length⟩] [];exact lL hs [.o 32 (pW op n q s (sB b8) ps.length ps.length) 1 0 9] (lP 0 0 (pG op n q s (sB b8) ps.length ps.length) hs (fun _ hs=>ac hs [(0,0,9)] (pW op n q s (sB b8) ps.length ps.length) (⟨⟨op,n,q,s,sB b8,ps.length,ps.length⟩,rfl,by have h_:=TmH.mk (op:=op) (n:=n) (q:=q) (s:=s) (c:=L.length) (Tms.of_u oM oM hs.f.2.1) (nR _) (hs.f.1);rw[hLl] at h_;exact h_⟩)))
  have zb:=oT za;refine lB 20 za (ae (cf (cK (cQ (kZ (ab hs [.m 21 19] (lX 22 A ps.length c 9 (k:Nat) k ((hs.f.r.1).ok oM) ?_)))))));refine lH 23 (pX (ps.getD k aE)) hs ((hs.f.r.1).el k oM) (lA 5 46 ([iV 0,iV 0,qF,uV 0,eS,uV 0,eS,eS,sZ]) hs (fun ze _ _ hs=>lL hs [.m 4 21] (lP 0 0 (pC (ps.getD k aE)) hs (fun _ hs=>lN (kQ (lL hs [.m 24 3,.m 25 4,.o 26 (pX (ps.getD k aE)) 0 0 9] (lC 27 hs (ih (ps.getD k aE) (ks.getD k bE) _ _ hs.g ((hs.f.2.1).at_ k oM) (hW k oM)) ?_)))))));rintro _ _ zf hs ⟨pk,rfl,hpk⟩;replace hs:=(hs.add (K:=fun h_=>TmH d h_ pk (ks.getD k bE)) hpk);refine lX 28 (sB b8) ps.length ps.length 9 (k:Nat) k rfl (lW 1 L cj 9 k pk hs oM (fun _ hs=>?_));have zc:((L).set k pk).length=ps.length:=by rw[List.length_set];exact hLl
  replace hs:=hs.to [⟨ze,46,pC (ps.getD k aE)⟩,⟨b8,46,((L).set k pk).flatMap cj⟩,⟨b4,46,[iV 0,iV 0,qF,uV 0,eS,uV 0,eS,eS,sZ]⟩,⟨b1,46,pG op n q s A ps.length c⟩] [];refine lN (kQ (bu 29 ((k:Nat)+1) (k+1) ?_));refine lL hs [.m 19 29] (lD ?_);intro a_ ka;replace hs:=(hs.tl.tl.add (K:=fun h_=>TmsU d h_ (k+1) ((L).set k pk) ks) ((hs.f.2.1).set oM hs.f.1));replace hs:=hs.drop 1 0;refine ⟨_,_,?_,⟨k+1,(L).set k pk,zf,rfl,rfl,hs.to _ _,oM,zc⟩,ka.to _ kR⟩
  omega
 have phb7:=eq_of_beq hb7;exact lB 9 hb7 (am (ab hs [.v 10 (qP b1 8)] (lP 1 8 ([sZ]) hs (fun _ hs=>aJ (lL hs [.o 11 (.agg #[iV op,iV n,.bool (ai q.num),uV (lo (aa q.num)),.string (hi (aa q.num)),uV (lo (qd q)),.string (hi (qd q)),.string s,sZ]) 1 0 9] (lP 0 0 ([iV op,iV n,.bool (ai q.num),uV (lo (aa q.num)),.string (hi (aa q.num)),uV (lo (qd q)),.string (hi (qd q)),.string s,sZ]) hs (fun _ hs=>ac hs [(0,0,9)] (.agg #[iV op,iV n,.bool (ai q.num),uV (lo (aa q.num)),.string (hi (aa q.num)),uV (lo (qd q)),.string (hi (qd q)),.string s,sZ]) (⟨⟨op,n,q,s,none,0,0⟩,rfl,by have h_:ks=[]:=List.length_eq_zero_iff.1 oM;subst h_;exact TmH.mk (ps:=[]) Tms.nil (nR _) SlO.nil⟩))))))))
theorem pA (ok:ByteArray→Prop):∀ (d:Nat) (p:PTm) (t:Tm) (w:World) (h:Hp),G w h→TmH d h p t→WfT ok d t →  Calls Tryz.prog 22 #[dC p] w (Ret w h (fun v h1=>∃ p2,v=dC p2∧TmH d h1 p2 t))
  | 0,_,_,_,_,_,x,_=>x.elim
  | d + 1,p,t,w,h,g,x,wf=>by
    obtain ⟨op,n,q,s,A,c,ps,ks,rfl,rfl,hc,hK,hKs⟩:=x.open;obtain ⟨w1,w2,w3,w4,w5,w6,w7,w8,w9⟩:=wf
    have hl2:ps.length≤2:=by
      have e1:eg op=ks.length:=w1;have:=aG op;have:=hKs.len
      omega
    exact tq ok d (fun p t w h=>pA ok d p t w h) op n q s A c ps ks hc hl2 w1 w2 w3 w4 w5 w6 w7 w8 w9 w h g hK hKs
theorem xx (n:Nat)(hn:n<100)(w:World)(h:Hp)(g:G w h):Calls Tryz.prog 200 #[nV n] w (Ret w h (fun v _=>v=.string ⟨(Lib.decDigits n).toArray⟩)):=Ret.of_same g (Tryz.internal_strconv_small n hn w)
theorem BC (n:Nat)(hn:n<100)(w:World)(h:Hp)(g:G w h):Calls Tryz.prog 91 #[nV n] w (Ret w h (fun v _=>v=.string ⟨(Lib.decDigits n).toArray⟩)):=Ret.of_same g (Tryz.strconv_Itoa_small n hn w)
theorem BQ (z:Int)(n:Nat)(hz:z=(n:Nat))(hn:n<100)(w:World)(h:Hp)(g:G w h):Calls Tryz.prog 91 #[iV z] w (Ret w h (fun v _=>v=.string ⟨(Lib.decDigits n).toArray⟩)):=by
 subst hz;exact BC n hn w h g
theorem CD (n:Nat)(hn:n<100)(w:World)(h:Hp)(g:G w h):CV 191 #[mV n,iV 10] w h (.string ⟨(Lib.decDigits n).toArray⟩):=by
 have hs:=sS g;refine go Tryz.func191 [(0,mV n),(1,iV 10)] rfl (ab hs [.v 4 (eS)] (ae (ab hs [.m 9 1,.v 10 qT] (am (cQ (ab hs [.m 11 0] ?_))))));have ⟨hb1,phb1⟩:=dT (p:=(n:Int)<(100:Int)) oM;refine lB 12 hb1 (am (ab hs [.m 13 0] (lV 14 (nV n) ?_ (hr:=rS ((n:Int)) kR (gA oM oM)))));exact ah 15 hs (xx n hn _ _ hs.g) (fun w2 h3 hs=>lL hs [.m 4 15] (ac hs [] (.string (⟨(Lib.decDigits n).toArray⟩)) rfl))
theorem D0 (n:Nat)(hn:n<100)(w:World)(h:Hp)(g:G w h):CV 166 #[mV n,iV 10] w h (.string ⟨(Lib.decDigits n).toArray⟩):=by
 have hs:=sS g;exact go Tryz.func166 [(0,mV n),(1,iV 10)] rfl (ab hs [.v 4 (eS)] (aJ (lL hs [.m 5 0,.m 6 1] (ah 7 hs (CD n hn _ _ hs.g) (fun w1 h2 hs=>lL hs [.m 4 7] (ac hs [] (.string (⟨(Lib.decDigits n).toArray⟩)) rfl))))))
theorem uu (z:Int)(n:Nat)(hz:z=(n:Nat))(hn:n<100)(w:World)(h:Hp)(g:G w h):Calls Tryz.prog 166 #[uV z,iV 10] w (Ret w h (fun v _=>v=.string ⟨(Lib.decDigits n).toArray⟩)):=by
 subst hz;exact D0 n hn w h g
theorem vQ (n:Nat)(h0:0<n)(hn:n<100)(w:World)(h:Hp)(g:G w h):CV 138 #[nv n] w h (.string ⟨(Lib.decDigits n).toArray⟩):=by
 have hs:=sS g;have hlo_:=il (show n<18446744073709551616 by omega);have hwl:=congrArg List.length (iL h0 (show n<18446744073709551616 by omega))
 simp only[List.length_singleton] at hwl
 refine go Tryz.func138 [(0,nv n)] rfl (aA (lA 1 39 (nc n) hs (fun b1 w2 h3 hs=>lL hs [.v 2 (eS)] (aJ (lL hs [.o 9 (nv n) 0 0 2] (lC 10 hs (dX n oM oM _ _ hs.g) ?_))))));rintro _ w4 h5 hs ⟨bw,rfl,hbw_,hbc_,hbs_⟩;replace hs:=hs.aS hbs_;refine lL hs [.m 3 10] (ae (ab hs [.m 11 3,.v 12 (nV ((wds n).length))] ?_));have ⟨hb6,phb6⟩:=dT (p:=(((wds n).length:Nat):Int)≤(1:Int)) oM;exact lB 13 hb6 (am (ab hs [.v 14 (pB b1),.o 15 (mV (n%18446744073709551616)) 0 0 1] (ah 16 hs (uu _ n hlo_ hn _ _ hs.g) (fun w7 h8 hs=>lL hs [.m 2 16] (ac hs [] (.string (⟨(Lib.decDigits n).toArray⟩)) rfl)))))
theorem wO (n:Nat)(hn:n<100)(hlo_:(0:Int)=(n:Nat))(w:World)(h:Hp)(g:G w h):CV 138 #[nv 0] w h (.string ⟨(Lib.decDigits n).toArray⟩):=by
 have hs:=sS g;exact go Tryz.func138 [(0,nv 0)] rfl (aA (lA 1 39 ([uV 0,eS]) hs (fun b1 w2 h3 hs=>lL hs [.v 2 (eS)] (aJ (lL hs [.o 9 (.agg #[uV 0,eS]) 0 0 2] (ah 10 hs (ii _ _ hs.g) (fun w4 h5 hs=>lL hs [.m 3 10] (ae (ab hs [.m 11 3,.v 12 (iV 0),.v 13 qT] (am (ab hs [.v 14 (pB b1),.o 15 (uV 0) 0 0 1] (ah 16 hs (uu _ n hlo_ hn _ _ hs.g) (fun w6 h7 hs=>lL hs [.m 2 16] (ac hs [] (.string (⟨(Lib.decDigits n).toArray⟩)) rfl))))))))))))))
theorem BX (n:Nat)(hn:n<100)(w:World)(h:Hp)(g:G w h):Calls Tryz.prog 138 #[nv n] w (Ret w h (fun v _=>v=.string ⟨(Lib.decDigits n).toArray⟩)):=by
 rcases Nat.eq_zero_or_pos n with rfl|h0
 ·exact wO 0 hn rfl w h g
 ·exact vQ n h0 hn w h g
theorem AJ (n:Nat)(hn:n<100)(w:World)(h:Hp)(g:G w h):CV 137 #[wX (.bool false) n] w h (.string ⟨(Lib.decDigits n).toArray⟩):=by
 have hs:=sS g;exact go Tryz.func137 [(0,wX qF n)] rfl (aA (lA 1 41 (wC qF n) hs (fun b1 w2 h3 hs=>lL hs [.v 2 (eS)] (ae (ab hs [.v 3 (pB b1),.o 4 qF 0 0 1] (af (cK (ab hs [.v 9 (qP b1 1),.o 10 (.agg #[uV (lo n),.string (hi n)]) 0 1 2] (ah 11 hs (BX n hn _ _ hs.g) (fun w4 h5 hs=>lL hs [.m 2 11] (ac hs [] (.string (⟨(Lib.decDigits n).toArray⟩)) rfl)))))))))))
theorem AV (z:Int)(n:Nat)(hz:z=(n:Nat))(hn:n<100)(w:World)(h:Hp)(g:G w h):Calls Tryz.prog 137 #[iv z] w (Ret w h (fun v _=>v=.string ⟨(Lib.decDigits n).toArray⟩)):=by
 subst hz;exact AJ n hn w h g
theorem Be (n:Nat)(hn:n<100)(w:World)(h:Hp)(g:G w h):CV 88 #[qv ((n:Nat):Rat)] w h (.string ⟨(Lib.decDigits n).toArray⟩):=by
 have hs:=sS g;have hl:LQ 100000000 ((n:Nat):Rat):=(by have q_:=LQ.int (z:=(n:Int)) oM oM;exact (q_.mono oM));exact go Tryz.func88 [(0,qv ((n:Nat):Rat))] rfl (aA (lA 1 43 (qc ((n:Nat):Rat)) hs (fun b1 w2 h3 hs=>lL hs [.v 2 (eS)] (ae (ab hs [.o 3 (qv ((n:Nat):Rat)) 0 0 5] (ah 4 hs ((by have q_:=gz ((n:Nat):Rat) hl _ _ hs.g;rw[decide_eq_true (Rat.den_natCast n)] at q_;exact q_)) (fun w4 h5 hs=>am (ab hs [.v 5 (pB b1),.o 6 (iv (((n:Nat):Rat).num)) 0 0 3] (ah 7 hs (AV ((n:Nat):Rat).num n (Rat.num_natCast n) hn _ _ hs.g) (fun w6 h7 hs=>lL hs [.m 2 7] (ac hs [] (.string (⟨(Lib.decDigits n).toArray⟩)) rfl)))))))))))
section tcs
variable {M:Ms} {P:Program} {n:Nat} {N R:Po} {X:Nat→Po} {ops:Array Oper} {k0:Nat} {L:Array Bool} {Γ:bG} {w:World}
variable {h:Hp} {w0:World} {h0 hr:Hp} {AL:List Al} {B:List Bx} {Rs:List Rw} {F:List (Hp→Prop)}
end tcs
section
variable {T8 TB:TypeId} {K b:Nat}
def J8 (T8:TypeId)(K b:Nat)(h:Hp):Prop:=∀ c o,K≤c→h[c]?=some o→o=junk∨(c≠b∧∀ cs fz,o≠.cells cs T8 fz)
theorem n8 {base:Nat}{ty:TypeId}{sz n:Nat}{v:Value}{cs:List Value}{w w':World}(o:w.ownsRowF base ty sz v n cs)(hb:∀ b,v.ownBlock=some b→w'.heap[b]?=w.heap[b]?):w'.ownsRowF base ty sz v n cs:=by
 rcases o with ⟨h1,h2|⟨g,cap,cur,fz,hv,hb',hg,rest⟩⟩
 ·exact ⟨h1,.inl h2⟩
 ·exact ⟨h1,.inr ⟨g,cap,cur,fz,hv,hb',(hb g (by rw[hv];rfl)).trans hg,rest⟩⟩
theorem qo {bs:List Value}{w w1:World}(h:Lib.IsBuilderF TB T8 K b bs w)(x:Ext w w1):Lib.IsBuilderF TB T8 K b bs w1:=by
 have key:∀ p,Lib.BuilderAtF TB T8 K b p bs w→Lib.BuilderAtF TB T8 K b p bs w1:=by
  intro p hp;have hlt:=hp.lt;obtain ⟨h1,v,h2,h3,h4⟩:=hp;exact ⟨h1,v,(Below.block x b hlt).trans h2,n8 h3 (fun c hc=>Below.block x c (h3.lt c hc).2),h4⟩
 rcases h with h|h
 ·exact .inl (key _ h)
 ·exact .inr (key _ h)
theorem wl {bs:List Value}{w:World}(h:Lib.IsBuilderF TB T8 K b bs w):K≤b∧b<w.heap.size:=by
 rcases h with h|h
 ·exact ⟨h.1,h.lt⟩
 ·exact ⟨h.1,h.lt⟩
theorem wR {w w':World}(x:Ext w w'):Lib.OthersKept T8 (some b) w w':=fun k o hk _ _=>by
 have hlt:k<w.heap.size:=(Array.getElem?_eq_some_iff.1 hk).1;exact (Below.block x k hlt).trans hk
theorem qO {w w':World}(x:Ext w w')(hK:K≤w.heap.size):Below K w w':=⟨x.os,x.tape,x.output,x.size,fun k hk=>Below.block x k oM⟩
structure BSt (TB T8:TypeId) (K b:Nat) (wa:World) (l:List UInt8) (w:World) (h:Hp):Prop where
  hK:K≤w.heap.size
  j8:J8 T8 K b h
  ib:Lib.IsBuilderF TB T8 K b (Lib.byteCells l) w
  be:Below K wa w
  ok:Lib.OthersKept T8 (some b) wa w
def k8 (TB T8:TypeId)(K b:Nat)(V:Value)(l out:List UInt8)(w:World):Ending→World→Prop:=fun e w'=>e=.returned V∧(Lib.IsBuilderF TB T8 K b (Lib.byteCells (l++out)) w'∧Below K w w'∧Lib.OthersKept T8 (some b) w w')
def AllNe (T8:TypeId)(b:Nat):List Bx→Prop
  | []=>True
  | x::B=>(x.b≠b∧(x.t != T8)=true)∧AllNe T8 b B
theorem AllNe.mem {B:List Bx}(h:AllNe T8 b B):∀ x∈B,x.b≠b∧x.t≠T8:=by
  induction B with
  | nil=>intro x hx;cases hx
  | cons y B ih =>
    intro x hx
    rcases List.mem_cons.1 hx with rfl|hx
    · exact ⟨h.1.1,by simpa using h.1.2⟩
    · exact ih h.2 x hx
variable {wz w w' wa:World} {hz h:Hp} {B:List Bx} {F:List (Hp→Prop)} {l:List UInt8}
theorem BSt.start (hK:K≤w.heap.size)(j:J8 T8 K b h)(ib:Lib.IsBuilderF TB T8 K b (Lib.byteCells l) w):BSt TB T8 K b w l w h:=⟨hK,j,ib,Below.refl _ _,Lib.OthersKept.refl _ _ _⟩
theorem BSt.ext (s:BSt TB T8 K b wa l w h)(x:Ext w w'){h':Hp}(j:J8 T8 K b h'):BSt TB T8 K b wa l w' h':=⟨Nat.le_trans s.hK x.size,j,qo s.ib x,s.be.trans (qO x s.hK),s.ok.trans (wR x)⟩
theorem SS.atKb (g:G w h)(hK:K≤w.heap.size):∃ w0 h0,SS w0 h0 w h [] [] []∧h0.size=K:=by
 have hsz:=g.size;refine ⟨{ w with heap:=w.heap.extract 0 K },h.extract 0 K,⟨⟨by simp;omega,fun c=>?_⟩,⟨⟨⟨rfl,rfl,rfl,by simp;omega,fun c hc=>?_⟩,⟨by simp;omega,fun c hc=>?_⟩,g⟩,fun _ hx=>(by cases hx),fun _ hx=>(by cases hx),fun _ hx=>(by cases hx),by simp⟩,fun _ hx=>(by cases hx),.nil,fun _ hx=>(by cases hx),trivial⟩,by simp;omega⟩
 ·show (h.extract 0 K)[c]?=(w.heap.extract 0 K)[c]?∨_
  rw[Array.getElem?_extract,Array.getElem?_extract]
  by_cases hb:c<K
  ·rw[if_pos oM,if_pos oM];simpa using g.blk c
  ·rw[if_neg oM,if_neg oM];exact .inl rfl
 ·have hb':c<K:=by have:c<(w.heap.extract 0 K).size:=hc;simp at this;omega
  show w.heap[c]?=(w.heap.extract 0 K)[c]?
  rw[Array.getElem?_extract,if_pos oM];simp
 ·have hb':c<K:=by simp at hc;omega
  rw[Array.getElem?_extract,if_pos oM];simp
def jx (h:Hp)(n:Nat):Hp:=h++Array.replicate (n-h.size) junk
theorem kG {n c:Nat}(hc:c<h.size):(jx h n)[c]?=h[c]?:=Array.getElem?_append_left hc
theorem pi {n c:Nat}(h1:h.size≤c)(h2:c<n):(jx h n)[c]?=some junk:=by
 unfold jx
 rw[Array.getElem?_append_right h1,Array.getElem?_replicate,if_pos oM]
theorem iC {n:Nat}(hn:h.size≤n):(jx h n).size=n:=by unfold jx;simp;omega
theorem xZ {n:Nat}(hn:h.size≤n):Gr h (jx h n):=⟨by rw[iC hn];exact hn,fun c hc=>kG hc⟩
theorem Aa {n:Nat}(j:J8 T8 K b h):J8 T8 K b (jx h n):=by
 intro c o hc e
 rcases Nat.lt_or_ge c h.size with h1|h1
 ·rw[kG h1] at e;exact j c o hc e
 ·rcases Nat.lt_or_ge c n with h2|h2
  ·rw[pi h1 h2] at e;injection e with e;exact .inl e.symm
  ·unfold jx at e
   rw[Array.getElem?_append_right h1,Array.getElem?_replicate,if_neg oM] at e;cases e
theorem SS.junk (s:SS wz hz w h B [] F)(j:J8 T8 K b h){h':Hp}{B':List Bx}(u:Up w h w' h')(s':St wz hz w' h' B'):∃ h'',SS wz hz w' h'' B' [] F∧J8 T8 K b h''∧Up w h w' h'':=by
  have e0:=s.g.size;have e1:=u.g.size;have hx:=u.ext.size;have hn:h.size≤w'.heap.size:=by omega
  have gr:=xZ hn
  have g':G w' (jx h w'.heap.size):=⟨(iC hn).symm,fun c=>by
    rcases Nat.lt_or_ge c h.size with h1|h1
    · rw[kG h1]
      rcases s.g.blk c with h2|h2
      · exact .inl (h2.trans (Below.block u.ext c oM).symm)
      · exact .inr h2
    · rcases Nat.lt_or_ge c w'.heap.size with h2|h2
      · exact .inr (pi h1 h2)
      · left
        rw[Array.getElem?_eq_none (by rw[iC hn];exact h2),Array.getElem?_eq_none h2]⟩
  refine ⟨jx h w'.heap.size,⟨s.g0,⟨⟨s'.up.ext,s.st.up.gr.trans gr,g'⟩,s'.own,fun x hx2=>?_,s'.lo,s'.nd⟩,fun _ hr=>(by cases hr),.nil,s.mo,s.f.gw s.mo gr.gw⟩,Aa j,⟨u.ext,gr,g'⟩⟩;have h1:=s'.jk x hx2
  rcases Nat.lt_or_ge x.b h.size with h2|h2
  · rw[kG h2,←u.gr.blk _ h2];exact h1
  · exact pi h2 (by have:=aW h1;omega)
theorem SS.oth (s:SS wz hz w h B [] F)(hK:hz.size=K)(j:J8 T8 K b h)(be:Below K w w')(ok:Lib.OthersKept T8 (some b) w w')(hB:AllNe T8 b B):∃ h',SS wz hz w' h' B [] F∧J8 T8 K b h':=by
  have e0:=s.g.size;have ez:=s.g0.size;have hx:=be.size;have hn:h.size≤w'.heap.size:=by omega
  have gr:=xZ hn
  have g' : G w' (jx h w'.heap.size):=⟨(iC hn).symm,fun c=>by
    rcases Nat.lt_or_ge c h.size with h1|h1
    · rw[kG h1]
      rcases s.g.blk c with h2|h2
      · rcases Nat.lt_or_ge c K with h3|h3
        · exact .inl (h2.trans (be.block c h3).symm)
        · cases ho:h[c]? with
          | none=>rw[Array.getElem?_eq_none_iff] at ho;omega
          | some o =>
            rcases j c o h3 ho with rfl|⟨h4,h5⟩
            · exact .inr rfl
            · left;exact (ok c o (h2.symm.trans ho) (fun e=>h4 (Option.some.inj e)) h5).symm
      · exact .inr h2
    · rcases Nat.lt_or_ge c w'.heap.size with h2|h2
      · exact .inr (pi h1 h2)
      · left
        rw[Array.getElem?_eq_none (by rw[iC hn];exact h2),Array.getElem?_eq_none h2]⟩
  have hx2:Ext wz w':=⟨be.os.trans s.st.up.ext.os,be.tape.trans s.st.up.ext.tape,be.output.trans s.st.up.ext.output,Nat.le_trans s.st.up.ext.size be.size,fun c hc=>(be.block c oM).trans (Below.block s.st.up.ext c hc)⟩;refine ⟨jx h w'.heap.size,⟨s.g0,⟨⟨hx2,s.st.up.gr.trans gr,g'⟩,fun x hx3=>?_,fun x hx3=>?_,s.st.lo,s.st.nd⟩,fun _ hr=>(by cases hr),.nil,s.mo,s.f.gw s.mo gr.gw⟩,Aa j⟩
  · have h1:=s.st.own x hx3
    have h2:=hB.mem x hx3;exact ok x.b _ h1 (fun e=>h2.1 (Option.some.inj e)) (fun cs fz e=>by injection e with _ e2;exact h2.2 e2)
  · have h1:=s.st.jk x hx3
    rw[kG (aW h1)];exact h1
end
end Go.Proofs.YtghfcfnkglnchaaGreatDoor
