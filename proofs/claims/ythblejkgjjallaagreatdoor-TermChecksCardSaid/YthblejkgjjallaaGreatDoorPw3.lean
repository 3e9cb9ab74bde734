/- Laws and contracts that the card of this claim stands on, part 4. No condition of ours. -/
import Derived.Test.YthblejkgjjallaaGreatDoorPw0
import Derived.Test.YthblejkgjjallaaGreatDoorPw1
import Derived.Test.YthblejkgjjallaaGreatDoorPw2
set_option maxRecDepth 100000
set_option maxHeartbeats 4000000
namespace Go.Proofs.YthblejkgjjallaaGreatDoor
open Go.RowKit
open Go.RowKit Go.Shelf
def weighS (op n sum:Int):Int:=if op=11 then 2*sum else if op=8∧n≠0 then sum*(if n<0 then 0-n else n) else sum
theorem memG {l:List ByteArray}{k:Nat}{s:ByteArray}(h:k<l.length)(e:l.getD k ⟨#[]⟩=s):s∈l:=by
  rw[←e,List.getD_eq_getElem?_getD,List.getElem?_eq_getElem h];exact List.getElem_mem h
theorem rZeroZ (bq:Bool)(zA:Option Addr)(zn zc:Nat)(dA:Option Addr)(dn dc:Nat)(q:Rat)(w:World)(h:Hp)(g:G w h)(hZ:RZ h (bq,.slice zA zn zc,.slice dA dn dc) q):Calls Tryz.prog 65 #[.agg #[.bool bq,.slice zA zn zc,.slice dA dn dc]] w (Ret w h (fun v _=>v=.bool (decide (q.num=0)))):=by
  obtain ⟨has,⟨A,c,D,d,e,hc,hd,hA,hD⟩,hz⟩:=hZ;have e2:(Value.agg #[.bool bq,qS zA zn zc,qS dA dn dc])=.agg #[.bool (ineg q.num),qS A (lim (iabs q.num)).length c,qS D (lim (if has then q.den else 0)).length d]:=e;rw[e2];have q_:=rZero q.num A c (if has then q.den else 0) D d hc hd w h g hA hD
  have e3:decide ((if has=true then q.den else 0)=0∨q.num=0)=decide (q.num=0):=by
    cases has
    · rw[decide_eq_true (.inl rfl),decide_eq_true];rw[hz rfl];rfl
    · have:=q.den_nz
      by_cases e:q.num=0
      · rw[decide_eq_true (.inr e),decide_eq_true e]
      · rw[decide_eq_false (fun h=>h.elim this e),decide_eq_false e]
  rw[e3] at q_
  exact q_
theorem rFormedS  (isb:ByteArray→Bool)(sm:ByteArray→Prop)(hIs:∀ s,sm s→∀ (w:World) (h:Hp),G w h→Calls Tryz.prog 64 #[.string s] w (Ret w h (fun v _=>∃ b,v=.bool b∧b=isb s)))(d:Nat)(ih:∀ (r:RTm) (t:Tm) (w:World) (h:Hp),G w h→RmH d h r t→SmT sm d t →  Calls Tryz.prog 33 #[rmv r] w (Ret w h (fun v _=>∃ bb,v=.bool bb∧(bb=true↔WfT (fun s=>isb s=true) d t))))(op n:Int)(bq:Bool)(zA:Option Addr)(zn zc:Nat)(dA:Option Addr)(dn dc:Nat)(q:Rat)(s:ByteArray)(A:Option Addr)(c:Nat)(rs:List RTm)(ks:List Tm)(hc:rs.length≤c)(hk3:ks.length≤3)(hop : -1000≤op∧op≤1000)(hn : -1000≤n∧n≤1000)(hq:LQ 1 q)(hsm:sm s)(hW:∀ i,i<ks.length→SmT sm d (ks.getD i tm0))(w:World)(h:Hp)(g:G w h)(hZ:RZ h (bq,.slice zA zn zc,.slice dA dn dc) q)(hK:SlO 7 rmc rtm0 h A rs)(hKs:Rms d h rs ks):CR 33 #[.agg #[iV op,iV n,.bool bq,.slice zA zn zc,.slice dA dn dc,.string s,.slice A rs.length c]] w h (fun v _=>∃ bb,v=.bool bb∧(bb=true↔WfT (fun s=>isb s=true) (d+1) (.mk op n q s ks))):=by
 have hs:=((((sS g).add (K:=fun h_=>RZ h_ (bq,qS zA zn zc,qS dA dn dc) q) hZ).aS hK).add (K:=fun h_=>Rms d h_ rs ks) hKs);have hln:=(hs.f.1).len;refine go Tryz.func33 [(0,.agg #[iV op,iV n,.bool bq,qS zA zn zc,qS dA dn dc,.string s,qS A rs.length c])] rfl (cSL (lA 1 31 ([iV op,iV n,.bool bq,qS zA zn zc,qS dA dn dc,.string s,qS A rs.length c]) hs (fun b1 w2 h3 hs=>lL hs [.v 2 qF] (lNS (lL hs [.v 5 (pB b1),.o 6 (iV op) 0 0 1] (lCval 7 hs (rKids op _ _ hs.g) (fun w4 h5 hs=>?_)))))));refine lL hs [.m 3 7] (lNcQ (CG.join (fun Γ w_=>∃ (zo:Bool) (h_:Hp),Γ=[(1,pB b1),(2,qF),(68,.bool zo)]∧SS w h w_ h_ [⟨b1,31,[iV op,iV n,.bool bq,qS zA zn zc,qS dA dn dc,.string s,qS A rs.length c]⟩] [] [fun h_=>Rms d h_ rs ks,fun h_=>SlO 7 rmc rtm0 h_ A rs,fun h_=>RZ h_ (bq,qS zA zn zc,qS dA dn dc) q]∧(zo=true→¬((0≤ari op∧(ks.length:Int)=ari op)∧((op=2→isb s=true)∧(op≠2→s=⟨#[]⟩))∧(op=1∨q.num=0)∧(op=8∨n=0) ∧ -12≤n∧n≤12))∧(zo=false→((0≤ari op∧(ks.length:Int)=ari op)∧((op=2→isb s=true)∧(op≠2→s=⟨#[]⟩))∧(op=1∨q.num=0)∧(op=8∨n=0) ∧ -12≤n∧n≤12))) ?_ ?_))
 ·
  refine kQ (lL hs [.m 8 3] ?_);cases hb6:(decide ((ari op:Int)<(0:Int)))
  ·
   have phb6:=oF hb6;refine lB 9 hb6 (lL hs [.m 10 9,.v 11 (qP b1 6),.o 12 (qS A rs.length c) 0 6 1,.v 13 (nV rs.length),.m 14 3] ?_);cases hb7:((rs.length:Int) != (ari op:Int))
   ·
    have phb7:=eqOfBne hb7;refine lB 15 hb7 (lL hs [.v 16 qF,.m 17 16,.v 18 (pB b1),.o 19 (iV op) 0 0 1] ?_);cases hb8:((op:Int) == (2:Int))
    ·
     have phb8:=neOfBeq hb8;refine lB 20 hb8 (lL hs [.m 21 20] (lG 22 ?_));refine lG 23 (lG 24 (lG 25 (lL hs [.v 26 qF,.v 27 qF,.m 28 27,.v 29 (pB b1),.o 30 (iV op) 0 0 1] ?_)));have hb9:((op:Int) != (2:Int))=true:=bneT oM;have phb9:=neOfBne hb9;refine lB 31 hb9 (lL hs [.m 32 31,.v 33 (qP b1 5),.o 34 (.string s) 0 5 1] ?_);cases zb:(strQn s (⟨#[]⟩))
     ·
      have zw:=strQn_f zb;refine lB 35 zb (lL hs [.v 36 qF,.v 37 qF,.m 38 37,.v 39 (pB b1),.o 40 (iV op) 0 0 1] ?_);cases zd:((op:Int) != (1:Int))
      ·
       have zx:=eqOfBne zd;refine lB 41 zd (lL hs [.m 42 41] (lG 43 ?_));refine lG 44 (lG 45 (lG 46 (lL hs [.v 47 qF,.v 48 qF,.m 49 48,.v 50 (pB b1),.o 51 (iV op) 0 0 1] ?_)));have zp:((op:Int) != (8:Int))=true:=bneT oM;have phb12:=neOfBne zp;refine lB 52 zp (lL hs [.m 53 52,.v 54 (qP b1 1),.o 55 (iV n) 0 1 1] ?_);cases ze:((n:Int) != (0:Int))
       ·
        have zB:=eqOfBne ze;refine lB 56 ze (lL hs [.v 57 qF,.v 58 qF,.m 59 58,.v 60 (qP b1 1),.o 61 (iV n) 0 1 1] ?_);have ⟨zM,phb14⟩:=dF (p:=(n:Int)<(-12:Int)) oM;refine lB 62 zM (lL hs [.v 63 qF,.m 64 63,.v 65 (qP b1 1),.o 66 (iV n) 0 1 1] ?_);have ⟨zN,phb15⟩:=dF (p:=(12:Int)<(n:Int)) oM;refine lB 67 zN (lL hs [.v 68 qF] (lD ?_));intro a_ ka;exact ⟨_,⟨false,h5,rfl,hs.to _ _,(fun h_=>absurd h_ kD),(fun _=>⟨by omega,⟨fun h_=>by first|exact hbi.symm.trans aM|exact absurd h_ oM,fun h_=>by first|assumption|exact absurd h_ oM⟩,by omega,by omega⟩)⟩,ka.to _ kR⟩
       have zB:=neOfBne ze;refine lB 56 ze (lL hs [.v 57 qT,.v 58 qT,.m 59 58] (lG 60 ?_));refine lG 61 (lG 62 (lL hs [.v 63 qT,.m 64 63] (lG 65 ?_)));refine lG 66 (lG 67 (lL hs [.v 68 qT] (lD ?_)));intro a_ ka;exact ⟨_,⟨true,h5,rfl,hs.to _ _,(fun _ h_=>by first|exact Bool.noConfusion ((h_.2.1.1 oM).symm.trans (hbi.symm.trans aM))|exact absurd (h_.2.1.2 oM) aM|(have h1_:=h_.1;have h2_:=h_.2.2;omega)),(fun h_=>absurd h_ kD)⟩,ka.to _ kR⟩
      have zx:=neOfBne zd;refine lB 41 zd (lL hs [.m 42 41,.v 43 (qP b1 2),.o 44 (.agg #[.bool bq,qS zA zn zc,qS dA dn dc]) 0 2 3] (lCval 45 hs (rZeroZ bq zA zn zc dA dn dc q _ _ hs.g hs.f.r.1) (fun _ za hs=>?_)));cases zq:(decide (q.num=0))
      ·
       have zD:=oF zq;refine lL hs [.v 46 qT,.v 47 qT,.v 48 qT,.m 49 48] (lG 50 ?_);refine lG 51 (lG 52 (lG 53 (lG 54 (lG 55 (lG 56 (lG 57 (lL hs [.v 58 qT,.m 59 58] (lG 60 ?_))))))));refine lG 61 (lG 62 (lL hs [.v 63 qT,.m 64 63] (lG 65 ?_)));refine lG 66 (lG 67 (lL hs [.v 68 qT] (lD ?_)));intro a_ ka;exact ⟨_,⟨true,za,rfl,hs.to _ _,(fun _ h_=>by first|exact Bool.noConfusion ((h_.2.1.1 oM).symm.trans (hbi.symm.trans aM))|exact absurd (h_.2.1.2 oM) aM|(have h1_:=h_.1;have h2_:=h_.2.2;omega)),(fun h_=>absurd h_ kD)⟩,ka.to _ kR⟩
      have zD:=oT zq;refine lL hs [.v 46 qF,.v 47 qF,.v 48 qF,.m 49 48,.v 50 (pB b1),.o 51 (iV op) 0 0 1] ?_;cases zf:((op:Int) != (8:Int))
      ·
       have zE:=eqOfBne zf;refine lB 52 zf (lL hs [.m 53 52] (lG 54 ?_));refine lG 55 (lG 56 (lL hs [.v 57 qF,.v 58 qF,.m 59 58,.v 60 (qP b1 1),.o 61 (iV n) 0 1 1] ?_));cases zg:(decide ((n:Int)<(-12:Int)))
       ·
        have zG:=oF zg;refine lB 62 zg (lL hs [.v 63 qF,.m 64 63,.v 65 (qP b1 1),.o 66 (iV n) 0 1 1] ?_);cases zi:(decide ((12:Int)<(n:Int)))
        ·
         have zH:=oF zi;refine lB 67 zi (lL hs [.v 68 qF] (lD ?_));intro a_ ka;exact ⟨_,⟨false,za,rfl,hs.to _ _,(fun h_=>absurd h_ kD),(fun _=>⟨by omega,⟨fun h_=>by first|exact hbi.symm.trans aM|exact absurd h_ oM,fun h_=>by first|assumption|exact absurd h_ oM⟩,by omega,by omega⟩)⟩,ka.to _ kR⟩
        have zH:=oT zi;refine lB 67 zi (lL hs [.v 68 qT] (lD ?_));intro a_ ka;exact ⟨_,⟨true,za,rfl,hs.to _ _,(fun _ h_=>by first|exact Bool.noConfusion ((h_.2.1.1 oM).symm.trans (hbi.symm.trans aM))|exact absurd (h_.2.1.2 oM) aM|(have h1_:=h_.1;have h2_:=h_.2.2;omega)),(fun h_=>absurd h_ kD)⟩,ka.to _ kR⟩
       have zG:=oT zg;refine lB 62 zg (lL hs [.v 63 qT,.m 64 63] (lG 65 ?_));refine lG 66 (lG 67 (lL hs [.v 68 qT] (lD ?_)));intro a_ ka;exact ⟨_,⟨true,za,rfl,hs.to _ _,(fun _ h_=>by first|exact Bool.noConfusion ((h_.2.1.1 oM).symm.trans (hbi.symm.trans aM))|exact absurd (h_.2.1.2 oM) aM|(have h1_:=h_.1;have h2_:=h_.2.2;omega)),(fun h_=>absurd h_ kD)⟩,ka.to _ kR⟩
      have zE:=neOfBne zf;refine lB 52 zf (lL hs [.m 53 52,.v 54 (qP b1 1),.o 55 (iV n) 0 1 1] ?_);cases zj:((n:Int) != (0:Int))
      ·
       have zI:=eqOfBne zj;refine lB 56 zj (lL hs [.v 57 qF,.v 58 qF,.m 59 58,.v 60 (qP b1 1),.o 61 (iV n) 0 1 1] ?_);have ⟨zP,phb35⟩:=dF (p:=(n:Int)<(-12:Int)) oM;refine lB 62 zP (lL hs [.v 63 qF,.m 64 63,.v 65 (qP b1 1),.o 66 (iV n) 0 1 1] ?_);have ⟨zQ,phb36⟩:=dF (p:=(12:Int)<(n:Int)) oM;refine lB 67 zQ (lL hs [.v 68 qF] (lD ?_));intro a_ ka;exact ⟨_,⟨false,za,rfl,hs.to _ _,(fun h_=>absurd h_ kD),(fun _=>⟨by omega,⟨fun h_=>by first|exact hbi.symm.trans aM|exact absurd h_ oM,fun h_=>by first|assumption|exact absurd h_ oM⟩,by omega,by omega⟩)⟩,ka.to _ kR⟩
      have zI:=neOfBne zj;refine lB 56 zj (lL hs [.v 57 qT,.v 58 qT,.m 59 58] (lG 60 ?_));refine lG 61 (lG 62 (lL hs [.v 63 qT,.m 64 63] (lG 65 ?_)));refine lG 66 (lG 67 (lL hs [.v 68 qT] (lD ?_)));intro a_ ka;exact ⟨_,⟨true,za,rfl,hs.to _ _,(fun _ h_=>by first|exact Bool.noConfusion ((h_.2.1.1 oM).symm.trans (hbi.symm.trans aM))|exact absurd (h_.2.1.2 oM) aM|(have h1_:=h_.1;have h2_:=h_.2.2;omega)),(fun h_=>absurd h_ kD)⟩,ka.to _ kR⟩
     have zw:=strQn_t zb;refine lB 35 zb (lL hs [.v 36 qT,.v 37 qT,.m 38 37] (lG 39 ?_));refine lG 40 (lG 41 (lG 42 (lG 43 (lG 44 (lG 45 (lG 46 (lG 47 (lL hs [.v 48 qT,.m 49 48] (lG 50 ?_)))))))));refine lG 51 (lG 52 (lG 53 (lG 54 (lG 55 (lG 56 (lG 57 (lL hs [.v 58 qT,.m 59 58] (lG 60 ?_))))))));refine lG 61 (lG 62 (lL hs [.v 63 qT,.m 64 63] (lG 65 ?_)));refine lG 66 (lG 67 (lL hs [.v 68 qT] (lD ?_)));intro a_ ka;exact ⟨_,⟨true,h5,rfl,hs.to _ _,(fun _ h_=>by first|exact Bool.noConfusion ((h_.2.1.1 oM).symm.trans (hbi.symm.trans aM))|exact absurd (h_.2.1.2 oM) aM|(have h1_:=h_.1;have h2_:=h_.2.2;omega)),(fun h_=>absurd h_ kD)⟩,ka.to _ kR⟩
    have phb8:=eq_of_beq hb8;refine lB 20 hb8 (lL hs [.m 21 20,.v 22 (qP b1 5),.o 23 (.string s) 0 5 1] (lC 24 hs (hIs s hsm _ _ hs.g) ?_));rintro _ _ zW hs ⟨bi,rfl,hbi⟩;cases hb45:(bi)
    ·
     refine lL hs [.v 25 qT,.v 26 qT,.v 27 qT,.m 28 27] (lG 29 ?_);refine lG 30 (lG 31 (lG 32 (lG 33 (lG 34 (lG 35 (lG 36 (lL hs [.v 37 qT,.m 38 37] (lG 39 ?_))))))));refine lG 40 (lG 41 (lG 42 (lG 43 (lG 44 (lG 45 (lG 46 (lG 47 (lL hs [.v 48 qT,.m 49 48] (lG 50 ?_)))))))));refine lG 51 (lG 52 (lG 53 (lG 54 (lG 55 (lG 56 (lG 57 (lL hs [.v 58 qT,.m 59 58] (lG 60 ?_))))))));refine lG 61 (lG 62 (lL hs [.v 63 qT,.m 64 63] (lG 65 ?_)));refine lG 66 (lG 67 (lL hs [.v 68 qT] (lD ?_)));intro a_ ka;exact ⟨_,⟨true,zW,rfl,hs.to _ _,(fun _ h_=>by first|exact Bool.noConfusion ((h_.2.1.1 oM).symm.trans (hbi.symm.trans aM))|exact absurd (h_.2.1.2 oM) aM|(have h1_:=h_.1;have h2_:=h_.2.2;omega)),(fun h_=>absurd h_ kD)⟩,ka.to _ kR⟩
    refine lL hs [.v 25 qF,.v 26 qF,.v 27 qF,.m 28 27,.v 29 (pB b1),.o 30 (iV op) 0 0 1] ?_;have zr:((op:Int) != (2:Int))=false:=bneF oM;have phb48:=eqOfBne zr;refine lB 31 zr (lL hs [.m 32 31] (lG 33 ?_));refine lG 34 (lG 35 (lL hs [.v 36 qF,.v 37 qF,.m 38 37,.v 39 (pB b1),.o 40 (iV op) 0 0 1] ?_));have zs:((op:Int) != (1:Int))=true:=bneT oM;have phb49:=neOfBne zs;refine lB 41 zs (lL hs [.m 42 41,.v 43 (qP b1 2),.o 44 (.agg #[.bool bq,qS zA zn zc,qS dA dn dc]) 0 2 3] (lCval 45 hs (rZeroZ bq zA zn zc dA dn dc q _ _ hs.g hs.f.r.1) (fun _ zt hs=>?_)));cases zu:(decide (q.num=0))
    ·
     have zJ:=oF zu;refine lL hs [.v 46 qT,.v 47 qT,.v 48 qT,.m 49 48] (lG 50 ?_);refine lG 51 (lG 52 (lG 53 (lG 54 (lG 55 (lG 56 (lG 57 (lL hs [.v 58 qT,.m 59 58] (lG 60 ?_))))))));refine lG 61 (lG 62 (lL hs [.v 63 qT,.m 64 63] (lG 65 ?_)));refine lG 66 (lG 67 (lL hs [.v 68 qT] (lD ?_)));intro a_ ka;exact ⟨_,⟨true,zt,rfl,hs.to _ _,(fun _ h_=>by first|exact Bool.noConfusion ((h_.2.1.1 oM).symm.trans (hbi.symm.trans aM))|exact absurd (h_.2.1.2 oM) aM|(have h1_:=h_.1;have h2_:=h_.2.2;omega)),(fun h_=>absurd h_ kD)⟩,ka.to _ kR⟩
    have zJ:=oT zu;refine lL hs [.v 46 qF,.v 47 qF,.v 48 qF,.m 49 48,.v 50 (pB b1),.o 51 (iV op) 0 0 1] ?_;have zv:((op:Int) != (8:Int))=true:=bneT oM;have phb55:=neOfBne zv;refine lB 52 zv (lL hs [.m 53 52,.v 54 (qP b1 1),.o 55 (iV n) 0 1 1] ?_);cases zk:((n:Int) != (0:Int))
    ·
     have zK:=eqOfBne zk;refine lB 56 zk (lL hs [.v 57 qF,.v 58 qF,.m 59 58,.v 60 (qP b1 1),.o 61 (iV n) 0 1 1] ?_);have ⟨zR,phb57⟩:=dF (p:=(n:Int)<(-12:Int)) oM;refine lB 62 zR (lL hs [.v 63 qF,.m 64 63,.v 65 (qP b1 1),.o 66 (iV n) 0 1 1] ?_);have ⟨zS,phb58⟩:=dF (p:=(12:Int)<(n:Int)) oM;refine lB 67 zS (lL hs [.v 68 qF] (lD ?_));intro a_ ka;exact ⟨_,⟨false,zt,rfl,hs.to _ _,(fun h_=>absurd h_ kD),(fun _=>⟨by omega,⟨fun h_=>by first|exact hbi.symm.trans aM|exact absurd h_ oM,fun h_=>by first|assumption|exact absurd h_ oM⟩,by omega,by omega⟩)⟩,ka.to _ kR⟩
    have zK:=neOfBne zk;refine lB 56 zk (lL hs [.v 57 qT,.v 58 qT,.m 59 58] (lG 60 ?_));refine lG 61 (lG 62 (lL hs [.v 63 qT,.m 64 63] (lG 65 ?_)));refine lG 66 (lG 67 (lL hs [.v 68 qT] (lD ?_)));intro a_ ka;exact ⟨_,⟨true,zt,rfl,hs.to _ _,(fun _ h_=>by first|exact Bool.noConfusion ((h_.2.1.1 oM).symm.trans (hbi.symm.trans aM))|exact absurd (h_.2.1.2 oM) aM|(have h1_:=h_.1;have h2_:=h_.2.2;omega)),(fun h_=>absurd h_ kD)⟩,ka.to _ kR⟩
   have phb7:=neOfBne hb7;refine lB 15 hb7 (lL hs [.v 16 qT,.m 17 16] (lG 18 ?_));refine lG 19 (lG 20 (lG 21 (lG 22 (lG 23 (lG 24 (lG 25 (lG 26 (lL hs [.v 27 qT,.m 28 27] (lG 29 ?_)))))))));refine lG 30 (lG 31 (lG 32 (lG 33 (lG 34 (lG 35 (lG 36 (lL hs [.v 37 qT,.m 38 37] (lG 39 ?_))))))));refine lG 40 (lG 41 (lG 42 (lG 43 (lG 44 (lG 45 (lG 46 (lG 47 (lL hs [.v 48 qT,.m 49 48] (lG 50 ?_)))))))));refine lG 51 (lG 52 (lG 53 (lG 54 (lG 55 (lG 56 (lG 57 (lL hs [.v 58 qT,.m 59 58] (lG 60 ?_))))))));refine lG 61 (lG 62 (lL hs [.v 63 qT,.m 64 63] (lG 65 ?_)));refine lG 66 (lG 67 (lL hs [.v 68 qT] (lD ?_)));intro a_ ka;exact ⟨_,⟨true,h5,rfl,hs.to _ _,(fun _ h_=>by first|exact Bool.noConfusion ((h_.2.1.1 oM).symm.trans (hbi.symm.trans aM))|exact absurd (h_.2.1.2 oM) aM|(have h1_:=h_.1;have h2_:=h_.2.2;omega)),(fun h_=>absurd h_ kD)⟩,ka.to _ kR⟩
  have phb6:=oT hb6;refine lB 9 hb6 (lL hs [.m 10 9] (lG 11 ?_));refine lG 12 (lG 13 (lG 14 (lG 15 (lL hs [.v 16 qT,.m 17 16] (lG 18 ?_)))));refine lG 19 (lG 20 (lG 21 (lG 22 (lG 23 (lG 24 (lG 25 (lG 26 (lL hs [.v 27 qT,.m 28 27] (lG 29 ?_)))))))));refine lG 30 (lG 31 (lG 32 (lG 33 (lG 34 (lG 35 (lG 36 (lL hs [.v 37 qT,.m 38 37] (lG 39 ?_))))))));refine lG 40 (lG 41 (lG 42 (lG 43 (lG 44 (lG 45 (lG 46 (lG 47 (lL hs [.v 48 qT,.m 49 48] (lG 50 ?_)))))))));refine lG 51 (lG 52 (lG 53 (lG 54 (lG 55 (lG 56 (lG 57 (lL hs [.v 58 qT,.m 59 58] (lG 60 ?_))))))));refine lG 61 (lG 62 (lL hs [.v 63 qT,.m 64 63] (lG 65 ?_)));refine lG 66 (lG 67 (lL hs [.v 68 qT] (lD ?_)));intro a_ ka;exact ⟨_,⟨true,h5,rfl,hs.to _ _,(fun _ h_=>by first|exact Bool.noConfusion ((h_.2.1.1 oM).symm.trans (hbi.symm.trans aM))|exact absurd (h_.2.1.2 oM) aM|(have h1_:=h_.1;have h2_:=h_.2.2;omega)),(fun h_=>absurd h_ kD)⟩,ka.to _ kR⟩
 rintro _ _ ⟨zo,zX,rfl,hs,zU,hF68⟩;cases zl:(zo)
 ·
  try rw[zl] at hs
  try rw[zl]
  refine cIF (cK (cQ (cSLlL hs [.v 4 (iV 0)] (lNkZ ?_))));refine cTo _ (CG.loop (fun μ_ Γ w_=>∃ (k:Nat) (h_:Hp),μ_=rs.length-k∧Γ=[(1,pB b1),(4,nV k)]∧SS w h w_ h_ [⟨b1,31,[iV op,iV n,.bool bq,qS zA zn zc,qS dA dn dc,.string s,qS A rs.length c]⟩] [] [fun h_=>Rms d h_ rs ks,fun h_=>SlO 7 rmc rtm0 h_ A rs,fun h_=>RZ h_ (bq,qS zA zn zc,qS dA dn dc) q]∧k≤rs.length∧(∀ i,i<k→WfT (fun s=>isb s=true) d (ks.getD i tm0))) _ ⟨0,zX,rfl,rfl,hs.to _ _,Nat.zero_le _,(fun i hi=>absurd hi (Nat.not_lt_zero i))⟩ ?_);rintro _ _ _ ⟨k,_,hm72,rfl,hs,hk,hWk⟩;refine cQ (cSLlL hs [.m 69 4,.v 70 (qP b1 6),.o 71 (qS A rs.length c) 0 6 1,.v 72 (nV rs.length)] ?_);cases zm:(decide ((k:Int)<(rs.length:Int)))
  ·
   have zL:=oF zm;refine lB 73 zm (lNIF (CG.exit ?_))
   show CG _ _ _ _ _ _ _ _
   exact cSLlL hs [.v 2 qT] (lNkXr hs [] qT (wf_tt ⟨by have h1_:=(hF68 aM).1;omega,(hF68 aM).2.2.1,(hF68 aM).2.1,(hF68 aM).2.2.2⟩ hq (fun i hi=>hWk i oM)))
  have zL:=oT zm;refine lB 73 zm (lNIT (cK (cQ (kZ (cSLlL hs [.v 76 (qP b1 6),.o 77 (qS A rs.length c) 0 6 1,.m 78 4] (lX 79 A rs.length c 7 (k:Nat) k ((hs.f.2.1).ok oM) ?_))))));refine lH 80 (.agg #[iV ((rs.getD k rtm0).op),iV ((rs.getD k rtm0).n),.bool ((rs.getD k rtm0).neg),qS ((rs.getD k rtm0).zA) ((rs.getD k rtm0).zn) ((rs.getD k rtm0).zc),qS ((rs.getD k rtm0).dA) ((rs.getD k rtm0).dn) ((rs.getD k rtm0).dc),.string ((rs.getD k rtm0).s),qS ((rs.getD k rtm0).A) ((rs.getD k rtm0).m) ((rs.getD k rtm0).c)]) hs ((hs.f.2.1).el k oM) (lC 81 hs (ih (rs.getD k rtm0) (ks.getD k tm0) _ _ hs.g ((hs.f.1).at_ k oM) (hW k oM)) ?_);rintro _ _ ya hs ⟨bk,rfl,hbk⟩;cases hb76:(bk)
  ·
   exact lL hs [.v 82 qT] (lNIT (cSLlL hs [.v 2 qF] (lNkXr hs [] qF (wf_fk (k:=k) oM aM hbk))))
  refine lL hs [.v 82 qF] (lNIF (cK (kQ (lL hs [.m 74 4] (lIn 75 ((k:Nat)+1) (k+1) ?_)))));refine lL hs [.m 4 75] (lD ?_);intro a_ ka;refine ⟨_,_,?_,⟨k+1,ya,rfl,rfl,hs.to _ _,oM,(fun i hi=>by rcases Nat.lt_succ_iff_lt_or_eq.1 hi with h_|rfl;exact hWk i h_;exact hbk.1 aM)⟩,ka.to _ kR⟩
  omega
 try rw[zl] at hs
 try rw[zl]
 exact cIT (cSLlL hs [.v 2 qF] (lNkXr hs [] qF (wf_ff (fun h_=>zU aM ⟨by have h1_:=h_.1;omega,h_.2.2.1,h_.2.1,h_.2.2.2⟩))))
theorem rFormedT (isb:ByteArray→Bool)(sm:ByteArray→Prop)(hIs:∀ s,sm s→∀ (w:World) (h:Hp),G w h→Calls Tryz.prog 64 #[.string s] w (Ret w h (fun v _=>∃ b,v=.bool b∧b=isb s))):∀ (d:Nat) (r:RTm) (t:Tm) (w:World) (h:Hp),G w h→RmH d h r t→SmT sm d t →  Calls Tryz.prog 33 #[rmv r] w (Ret w h (fun v _=>∃ bb,v=.bool bb∧(bb=true↔WfT (fun s=>isb s=true) d t)))
  | 0,_,_,_,_,_,x,_=>x.elim
  | d+1,r,t,w,h,g,x,wf=>by
    obtain ⟨op,n,b,zA,zn,zc,dA,dn,dc,q,s,A,c,rs,ks,rfl,rfl,hZ,hc,hK,hKs⟩:=x.open;obtain ⟨s1,s2,s3,s4,s5,s6⟩:=wf;exact rFormedS isb sm hIs d (fun r t w h=>rFormedT isb sm hIs d r t w h) op n b zA zn zc dA dn dc q s A c rs ks hc s1 s2 s3 s4 s5 s6 w h g hZ hK hKs
def strL (s t:ByteArray):Bool:=Go.Op.bytesLess s.toList t.toList
section
variable {M:Ms} {P:Program} {n:Nat} {N R:Po} {X:Nat→Po} {ops:Array Oper} {k k0:Nat} {hr:Hp} {AL:List Al} {L:Array Bool} {Γ:Env} {w:World} {h:Hp} {w0:World} {h0:Hp} {B:List Bx} {Rs:List Rw} {F:List (Hp→Prop)}
theorem own_cap {base:Nat}{e:TypeId}{sz:Nat}{A:Option Addr}{l c n:Nat}{xs:List Value}(o:w.ownsRow base e sz (.slice A l c) n xs):l≤c:=by
  rcases o with ⟨_,⟨e1,_⟩|⟨g,cap,cur,e1,_,_,h1,_⟩⟩
  · cases e1;exact Nat.le_refl _
  · cases e1;exact h1
theorem app_none {α:Type}{o:Oper}{ty:TypeId}{sz bt c c2 j:Nat}{z:Value}{A A2:Option Addr}{l:List α}{f:α→List Value}(s:SS w0 h0 w h B Rs F)(he:apE P (ev Γ) o=some (.slice A l.length c,.slice A2 0 c2,ty,z,sz,bt))(hr':Rs.getD j default=⟨ty,sz,A,c,l.length,l.flatMap f⟩)(hj:j<Rs.length) :
    (execOp (ev Γ) o).run P w=.ok (.value (.slice A l.length c)) w:=by
  obtain ⟨x,y,ty',ho,hx,hy,hu,hi⟩:=apE_op he;have r:=s.ro _ (List.getElem_mem hj);rw[rw_get hr' hj] at r
  cases hinf:P.info? ty with
  | none=>rw[hinf] at hi;cases hi
  | some inf =>
    rw[hinf] at hi
    have hs:Src P inf.size ty' (.slice A2 0 c2) 0 [] w:=by
      cases A2 with
      | none=>exact Src.ofNil w hu c2
      | some a=>exact Src.ofSlice w hu a 0 c2 [] (by simp) (fun j u hj=>by cases hj) (fun u hu=>by cases hu)
    have hrun:=run_append_nothing (P:=P) w ty' ty' o.type ty inf hu hinf A l.length c (own_cap r.own) (.slice A2 0 c2) hs
    unfold execOp
    simp only[ho,resolve,invoke,builtin,Sem.run_bind,Sem.run_pure,Result.andThen_ok,List.map_toArray,List.map_cons,List.map_nil,hx,hy,hrun]
theorem lYa {α:Type}(t j:Nat)(ty:TypeId)(sz c:Nat)(A:Option Addr)(l:List α)(f:α→List Value)(d:α)(A2:Option Addr)(m:List α)(n2 c2 bt:Nat)(z:Value)(s:SS w0 h0 w h B Rs F)(so:SlO sz f d h A2 m)
    (H:∀ A' c' w' h',SS w0 h0 w' h' B (Rs.set j ⟨ty,sz,A',c',(l++m).length,(l++m).flatMap f⟩) F→LG P n N R X ops (k+1) ((t,.slice A' (l++m).length c')::Γ) w')
    (hc:cL ops Γ k t n=true:=by kernel_rfl)(he:apE P (ev Γ) (opAt ops k)=some (.slice A l.length c,.slice A2 n2 c2,ty,z,sz,bt):=by kernel_rfl)(hn:n2=m.length:=by omega)(hf:∀ x,(f x).length=sz:=by intro _;rfl)(h1:∀ x,(f x).all (·.oneCell')=true:=by intro _;kernel_rfl)(hzs:z.cells.size=sz:=by kernel_rfl)(hpos:0<sz:=by decide)
    (hr:Rs.getD j default=⟨ty,sz,A,c,l.length,l.flatMap f⟩:=by kernel_rfl)(hj:decide (j<Rs.length)=true:=by kernel_rfl)(hm:l.length+m.length≤1099511627776:=by omega)(hb:(l.length+m.length)*bt≤140737488355328:=by omega):LG P n N R X ops k Γ w:=by
  subst hn;cases m with
  | nil =>
    have hj':=oT hj;have e0:l++[]=l:=List.append_nil l;rw[e0] at H
    have es:Rs.set j ⟨ty,sz,A,c,l.length,l.flatMap f⟩=Rs:=by
      have:=rw_get hr hj';rw[←this,List.set_getElem_self]
    have s1:=s;rw[←es] at s1
    exact LG.val t _ w (cL_1 hc).1 (cL_1 hc).2 (app_none s he hr hj') (H A c w h s1)
  | cons x xs=>exact lYs t j ty sz c A l f d A2 (x::xs) c2 bt z s so (Nat.succ_pos _) H hc he hf h1 hzs hpos hr hj hm hb
theorem tO (i t:Nat)(ps:List (Nat × Nat × Nat))(v:Value)(s:SS w0 h0 w h B Rs F)(H:AG M P n N R X ops k0 (L.setIfInBounds i true) ((t,v)::Γ) w)(hc:cT n ops k0 L Γ i t=true:=by kernel_rfl)(hp:partsOk B ps=true:=by kernel_rfl)(he:evalL P (execOp (ev Γ) (opAt ops i)) (partsV B ps)=some (.value v,partsA B ps):=by kernel_rfl):AG M P n N R X ops k0 L Γ w :=
  T.val i t v w (cT_1 hc).1 (cT_1 hc).2 (evalL_run _ _ _ _ he (parts_cells s.st.own ps hp)) H
theorem kn_swap {n:Nat}{a:Act}{Γ:Env}{t1 t2:Nat}{v1 v2:Value}(h:t1≠t2)(k:Kn n a ((t1,v1)::(t2,v2)::Γ)):Kn n a ((t2,v2)::(t1,v1)::Γ):=by
  have e:∀ s:Nat,((t2,v2)::(t1,v1)::Γ).lookup s=((t1,v1)::(t2,v2)::Γ).lookup s:=fun s=>by
    simp only[List.lookup_cons]
    by_cases e1:s=t1
    · subst e1
      have:(s == t2)=false:=by simpa using h
      rw[this]
    · have:(s == t1)=false:=by simpa using e1
      rw[this]
  refine k.mono (fun s u hu=>(e s)▸hu) ?_
  unfold dfOf
  rw[e]
theorem tl_own {K b:Nat}{w w':World}{v:Value}(hz:M.z=some (K,[]))(hK:K≤w.heap.size)(hv:∀ b,v.ownBlock=some b→K≤b)(gr:w.grownBy w' v.ownBlock):Tl M w w':=fun K' bs e=>by
  rw[hz] at e
  injection e with e
  injection e with e1 e2
  subst e1 e2;exact ⟨gr.size,fun b hb _=>gr.block b oM (fun e=>by have:=hv b e.symm;omega)⟩
theorem zTwo (i j ti tj:Nat)(vi vj:Value)(wi wj:World)
    (hc:(Region.ready .any ops L == [i,j] && decide (i<ops.size) && decide (j<ops.size) && Region.noSelect ops && knownOp Γ (opAt ops i) && knownOp Γ (opAt ops j) && ((opAt ops i).dst == some ti) && ((opAt ops j).dst == some tj) && decide (ti<n) && decide (tj<n))=true)
    (hwi:wantE ops Γ (opAt ops i)=some true)(hwj:wantE ops Γ (opAt ops j)=some true)
    (hri:(execOp (ev Γ) (opAt ops i)).run P w=.ok (.value vi) wi)(hTi:Tl M w wi)(Hi:AG M P n N R X ops 0 (L.setIfInBounds i true) ((ti,vi)::Γ) wi)
    (hrj:(execOp (ev Γ) (opAt ops j)).run P w=.ok (.value vj) wj)(hTj:Tl M w wj)(Hj:AG M P n N R X ops 0 (L.setIfInBounds j true) ((tj,vj)::Γ) wj):AG M P n N R X ops 0 L Γ w:=by
  simp only[Bool.and_eq_true,decide_eq_true_eq,beq_iff_eq] at hc
  obtain ⟨⟨⟨⟨⟨⟨⟨⟨⟨c1,c2⟩,c3⟩,c4⟩,c5⟩,c6⟩,c7⟩,c8⟩,c9⟩,c10⟩:=hc;intro a ka;refine A.intro (fun h0=>by rw[c1] at h0;cases h0) (fun k hk=>?_);rw[c1] at hk
  rcases List.mem_cons.1 hk with rfl|hk
  · refine OpR.wpOp (opAt_get c2) (R:=fun v w'=>Tl M w w'∧A M P ops (mkQ N R X) 0 (L.setIfInBounds k true) (a.put (opAt ops k).dst v) w') ⟨ka.want hwi,?_⟩ (fun v w' hq=>⟨Rl.tl (Nat.zero_le _) hq.1,hq.2⟩)
    rw[ka.exec (Region.noSelect_spec c4 k _ · · (opAt_get c2)) c5,c7];exact .inl ⟨_,_,hri,hTi,Hi _ (ka.put c9 _)⟩
  · rw[List.mem_singleton] at hk
    subst hk;refine OpR.wpOp (opAt_get c3) (R:=fun v w'=>Tl M w w'∧A M P ops (mkQ N R X) 0 (L.setIfInBounds k true) (a.put (opAt ops k).dst v) w') ⟨ka.want hwj,?_⟩ (fun v w' hq=>⟨Rl.tl (Nat.zero_le _) hq.1,hq.2⟩);rw[ka.exec (Region.noSelect_spec c4 k _ · · (opAt_get c3)) c6,c8];exact .inl ⟨_,_,hrj,hTj,Hj _ (ka.put c10 _)⟩
theorem tl_alloc {K:Nat}(hz:M.z=some (K,[]))(o:Obj){W:World}(hW:K≤W.heap.size):Tl M W (W.alloc o)∧K≤(W.alloc o).heap.size:=by
  have hs:(W.alloc o).heap.size=W.heap.size+1:=Array.size_push _;refine ⟨fun K' bs e=>?_,by omega⟩;rw[hz] at e
  injection e with e
  injection e with e1 e2
  subst e1 e2
  exact ⟨by omega,fun b hb _=>by
    show (W.heap.push o)[b]?=W.heap[b]?
    rw[Array.getElem?_push,if_neg oM]⟩
theorem SS.new0 {α:Type}(f:α→List Value){sz:Nat}(s:SS w0 h0 w h B Rs F)(ty:TypeId)(hf:∀ x,(f x).length=sz):SS w0 h0 (w.alloc (.cells #[] ty (0,0))) (h.push junk) B (⟨ty,sz,some ⟨w.heap.size,0,none⟩,0,0,[]⟩::Rs) F:=s.newr (l:=([]:List α)) (f:=f) ty hf (Nat.zero_le _)
theorem SS.newS (s:SS w0 h0 w h B Rs F)(ty:TypeId)(cs:List Value):SS w0 h0 (w.alloc (.cells cs.toArray ty (0,0))) (h.push (.cells cs.toArray ty (0,0))) B Rs ((fun h=>Seg h w.heap.size 0 cs)::F):=by
  refine (s.step (Up.allocAny s.g _ _ (.inl rfl))).a_Seg ?_;have e:h.size=w.heap.size:=by have:=s.g.size;omega
  rw[←e];exact Seg.new cs ty
theorem y0_run {K:Nat}{α:Type}{o:Oper}{ty:TypeId}{sz:Nat}{f:α→List Value}{d:α}{b0:Nat}{A2:Option Addr}{m:List α}{c2 bt:Nat}{z:Value}(hz:M.z=some (K,[]))(hK:K≤w.heap.size)(hb0:K≤b0)(s:SS w0 h0 w h B (⟨ty,sz,some ⟨b0,0,none⟩,0,0,[]⟩::Rs) F)(so:SlO sz f d h A2 m)
    (he:apE P (ev Γ) o=some (.slice (some ⟨b0,0,none⟩) 0 0,.slice A2 m.length c2,ty,z,sz,bt))(hf:∀ x,(f x).length=sz)(h1:∀ x,(f x).all (·.oneCell')=true)(hzs:z.cells.size=sz)(hpos:0<sz)(hm:m.length≤1099511627776)(hb:m.length*bt≤140737488355328) :
    ∃ A' c' w' h',(execOp (ev Γ) o).run P w=.ok (.value (.slice A' m.length c')) w'∧Tl M w w'∧(∀ b,(Value.slice A' m.length c').ownBlock=some b→K≤b)∧K≤w'.heap.size∧SS w0 h0 w' h' B (⟨ty,sz,A',c',m.length,m.flatMap f⟩::Rs) F:=by
  cases m with
  | nil=>exact ⟨_,_,w,h,app_none (α:=α) (j:=0) (l:=[]) (f:=f) s he rfl (Nat.succ_pos _),Tl.refl _ _,(fun b e=>by cases e;exact hb0),hK,s⟩
  | cons x xs =>
    have hm0:0<(x::xs).length:=Nat.succ_pos _;rw[so.ok hm0] at he
    obtain ⟨x',y,ty',ho,hx,hy,hu,hi⟩:=apE_op he
    obtain ⟨v',w',hrun,ow,gr,hloc⟩:=app_runE (P:=P) ho hx hy hu hi hzs hpos s.st (len_flat hf (x::xs)) (seg_newsO s.g (so.flat hf)) (fun u hu=>by
      obtain ⟨y,_,hy⟩:=List.mem_flatMap.1 hu;exact (List.all_eq_true.1 (h1 y)) u hy) hm0 hm hb
    have hv:∀ b,v'.ownBlock=some b→K≤b:=fun b e=>by
      rcases hloc with h1|h1
      · rw[h1] at e;cases e
      · rw[h1] at e;cases e;exact hK
    obtain ⟨h',A',c',rfl,e2,s2⟩:=(s.nil ty sz).grown (j:=0) (by simp) (w':=w') (v':=v') (m2:=(x::xs).length) (news:=(x::xs).flatMap f) ow gr hloc;have hT:Tl M w w':=tl_own (b:=0) hz hK (v:=Value.slice none 0 0) (fun b e=>by cases e) gr;have s3:SS w0 h0 w' h' B (⟨ty,sz,A',c',(x::xs).length,(x::xs).flatMap f⟩::⟨ty,sz,some ⟨b0,0,none⟩,0,0,[]⟩::Rs) F:=by simpa using s2
    have hrun':(execOp (ev Γ) o).run P w=.ok (.value (.slice A' (x::xs).length c')) w':=by rw[hrun];simp
    refine ⟨A',c',w',h',hrun',hT,(fun b e=>hv b (by simpa using e)),Nat.le_trans hK gr.size,⟨s3.g0,s3.st,fun r hr=>s3.ro r ?_,?_,s3.mo,s3.f⟩⟩
    · rcases List.mem_cons.1 hr with e|e
      · exact List.mem_cons.2 (.inl e)
      · exact List.mem_cons.2 (.inr (List.mem_cons.2 (.inr e)))
    · exact List.Pairwise.sublist (List.Sublist.cons_cons _ (List.sublist_cons_self _ _)) s3.ap
theorem kn_swap2 {n:Nat}{a:Act}{Γ:Env}{t0 t1 t2:Nat}{v0 v1 v2:Value}(h:t1≠t2)(k:Kn n a ((t0,v0)::(t1,v1)::(t2,v2)::Γ)):Kn n a ((t0,v0)::(t2,v2)::(t1,v1)::Γ):=by
  have e:∀ s:Nat,((t0,v0)::(t2,v2)::(t1,v1)::Γ).lookup s=((t0,v0)::(t1,v1)::(t2,v2)::Γ).lookup s:=fun s=>by
    simp only[List.lookup_cons]
    by_cases e1:s=t1
    · subst e1
      have:(s == t2)=false:=by simpa using h
      rw[this]
    · have:(s == t1)=false:=by simpa using e1
      rw[this]
  refine k.mono (fun s u hu=>(e s)▸hu) ?_
  unfold dfOf
  rw[e]
theorem zR3 {K:Nat}{α:Type}(i j k ti tj tk:Nat)(tyi tyj:TypeId)(sz:Nat)(f:α→List Value)(d:α)(mj:Nat)(cs:List Value)(A2:Option Addr)(m:List α)(n2 c2 bt:Nat)(z:Value)(hz:M.z=some (K,[]))(hK:K≤w.heap.size)(s:SS w0 h0 w h B Rs F)(so:∀ h,AllF F h→SlO sz f d h A2 m)
    (H:∀ b0 A' c' b' w' h',(∀ b,(Value.slice A' m.length c').ownBlock=some b→K≤b)→K≤w'.heap.size→SS w0 h0 w' h' B (⟨tyi,sz,A',c',m.length,m.flatMap f⟩::Rs) ((fun h=>Seg h b' 0 cs)::F) →
      AG M P n N R X ops 0 (((L.setIfInBounds i true).setIfInBounds j true).setIfInBounds k true) ((tk,.slice A' m.length c')::(tj,.slice (some ⟨b',0,none⟩) mj mj)::(ti,.slice (some ⟨b0,0,none⟩) 0 0)::Γ) w')
    (hn:n2=m.length:=by omega)(hd:(decide (ti≠tj) && decide (tj≠tk) && decide (i≠j) && decide (j≠k))=true:=by kernel_rfl)
    (c1:(Region.ready .any ops L == [i,j] && decide (i<ops.size) && decide (j<ops.size) && Region.noSelect ops && knownOp Γ (opAt ops i) && knownOp Γ (opAt ops j) && ((opAt ops i).dst == some ti) && ((opAt ops j).dst == some tj) && decide (ti<n) && decide (tj<n))=true:=by kernel_rfl)
    (c2_:∀ u,(Region.ready .any ops (L.setIfInBounds i true) == [k,j] && decide (k<ops.size) && decide (j<ops.size) && Region.noSelect ops && knownOp ((ti,u)::Γ) (opAt ops k) && knownOp ((ti,u)::Γ) (opAt ops j) && ((opAt ops k).dst == some tk) && ((opAt ops j).dst == some tj) && decide (tk<n) && decide (tj<n))=true:=by intro _;kernel_rfl)
    (hwi:wantE ops Γ (opAt ops i)=some true:=by kernel_rfl)(hwj:wantE ops Γ (opAt ops j)=some true:=by kernel_rfl)(hwj2:∀ u,wantE ops ((ti,u)::Γ) (opAt ops j)=some true:=by intro _;kernel_rfl)(hwk2:∀ u,wantE ops ((ti,u)::Γ) (opAt ops k)=some true:=by intro _;kernel_rfl)
    (ci:∀ u,(chkT ops 0 (L.setIfInBounds j true) i && knownOp ((tj,u)::Γ) (opAt ops i) && ((opAt ops i).dst == some ti) && decide (ti<n))=true:=by intro _;kernel_rfl)(hwi2:∀ u,wantE ops ((tj,u)::Γ) (opAt ops i)=some true:=by intro _;kernel_rfl)
    (cj:∀ u v,(chkT ops 0 ((L.setIfInBounds i true).setIfInBounds k true) j && knownOp ((tk,v)::(ti,u)::Γ) (opAt ops j) && ((opAt ops j).dst == some tj) && decide (tj<n))=true:=by intro _ _;kernel_rfl)(hwj3:∀ u v,wantE ops ((tk,v)::(ti,u)::Γ) (opAt ops j)=some true:=by intro _ _;kernel_rfl)
    (ck1:∀ u v,cT n ops 0 ((L.setIfInBounds i true).setIfInBounds j true) ((tj,v)::(ti,u)::Γ) k tk=true:=by intro _ _;kernel_rfl)(ck2:∀ u v,cT n ops 0 ((L.setIfInBounds j true).setIfInBounds i true) ((ti,u)::(tj,v)::Γ) k tk=true:=by intro _ _;kernel_rfl)
    (hri:∀ w,(execOp (ev Γ) (opAt ops i)).run P w=.ok (.value (.slice (some ⟨w.heap.size,0,none⟩) 0 0)) (w.alloc (.cells #[] tyi (0,0))):=by intro _;kernel_rfl)(hri2:∀ u w,(execOp (ev ((tj,u)::Γ)) (opAt ops i)).run P w=.ok (.value (.slice (some ⟨w.heap.size,0,none⟩) 0 0)) (w.alloc (.cells #[] tyi (0,0))):=by intro _ _;kernel_rfl)
    (hrj:∀ w,(execOp (ev Γ) (opAt ops j)).run P w=.ok (.value (.slice (some ⟨w.heap.size,0,none⟩) mj mj)) (w.alloc (.cells cs.toArray tyj (0,0))):=by intro _;kernel_rfl)(hrj2:∀ u w,(execOp (ev ((ti,u)::Γ)) (opAt ops j)).run P w=.ok (.value (.slice (some ⟨w.heap.size,0,none⟩) mj mj)) (w.alloc (.cells cs.toArray tyj (0,0))):=by intro _ _;kernel_rfl)
    (hrj3:∀ u v w,(execOp (ev ((tk,v)::(ti,u)::Γ)) (opAt ops j)).run P w=.ok (.value (.slice (some ⟨w.heap.size,0,none⟩) mj mj)) (w.alloc (.cells cs.toArray tyj (0,0))):=by intro _ _ _;kernel_rfl)
    (e1:∀ b,apE P (ev ((ti,.slice (some ⟨b,0,none⟩) 0 0)::Γ)) (opAt ops k)=some (.slice (some ⟨b,0,none⟩) 0 0,.slice A2 n2 c2,tyi,z,sz,bt):=by intro _;kernel_rfl)
    (e2:∀ b v,apE P (ev ((tj,v)::(ti,.slice (some ⟨b,0,none⟩) 0 0)::Γ)) (opAt ops k)=some (.slice (some ⟨b,0,none⟩) 0 0,.slice A2 n2 c2,tyi,z,sz,bt):=by intro _ _;kernel_rfl)
    (e3:∀ b v,apE P (ev ((ti,.slice (some ⟨b,0,none⟩) 0 0)::(tj,v)::Γ)) (opAt ops k)=some (.slice (some ⟨b,0,none⟩) 0 0,.slice A2 n2 c2,tyi,z,sz,bt):=by intro _ _;kernel_rfl)
    (hf:∀ x,(f x).length=sz:=by intro _;rfl)(h1:∀ x,(f x).all (·.oneCell')=true:=by intro _;kernel_rfl)(hzs:z.cells.size=sz:=by kernel_rfl)(hpos:0<sz:=by decide)(hm:m.length≤1099511627776:=by omega)(hb:m.length*bt≤140737488355328:=by omega):AG M P n N R X ops 0 L Γ w:=by
  subst hn
  simp only[Bool.and_eq_true,decide_eq_true_eq] at hd
  obtain ⟨⟨⟨d1,d2⟩,d3⟩,d4⟩:=hd;have si:=s.new0 f tyi hf;have sj:=s.newS tyj cs;obtain ⟨x1,x2⟩:=tl_alloc (M:=M) hz (.cells #[] tyi (0,0)) hK;obtain ⟨y1,y2⟩:=tl_alloc (M:=M) hz (.cells cs.toArray tyj (0,0)) hK;refine zTwo i j ti tj _ _ _ _ c1 hwi hwj (hri w) x1 ?_ (hrj w) y1 ?_
  · obtain ⟨A',c',w',h',r1,r2,r3,r4,r5⟩:=y0_run (M:=M) (Γ:=(ti,.slice (some ⟨w.heap.size,0,none⟩) 0 0)::Γ) hz x2 hK si (so _ si.f) (e1 _) hf h1 hzs hpos hm hb
    obtain ⟨q1,q2⟩:=tl_alloc (M:=M) hz (.cells cs.toArray tyj (0,0)) x2;refine zTwo k j tk tj _ _ _ _ (c2_ _) (hwk2 _) (hwj2 _) r1 r2 ?_ (hrj2 _ _) q1 ?_
    · obtain ⟨p1,p2⟩:=tl_alloc (M:=M) hz (.cells cs.toArray tyj (0,0)) r4
      refine T.val j tj _ _ (cj _ _) (hwj3 _ _) (hrj3 _ _ _) ?_ p1;intro a ka;have hh:=H _ A' c' _ _ _ r3 p2 (r5.newS tyj cs) a (kn_swap d2 ka);rw[Array.setIfInBounds_comm _ _ d4] at hh
      exact hh
    · have sij:=si.newS tyj cs
      obtain ⟨A',c',w',h',r1,r2,r3,r4,r5⟩:=y0_run (M:=M) (Γ:=(tj,.slice (some ⟨_,0,none⟩) mj mj)::(ti,.slice (some ⟨w.heap.size,0,none⟩) 0 0)::Γ) hz q2 hK sij (so _ sij.f.2) (e2 _ _) hf h1 hzs hpos hm hb;exact T.val k tk _ _ (cT_1 (ck1 _ _)).1 (cT_1 (ck1 _ _)).2 r1 (H _ A' c' _ _ _ r3 r4 r5) r2
  · obtain ⟨q1,q2⟩:=tl_alloc (M:=M) hz (.cells #[] tyi (0,0)) y2
    have sji:=sj.new0 f tyi hf;refine T.val i ti _ _ (ci _) (hwi2 _) (hri2 _ _) ?_ q1;obtain ⟨A',c',w',h',r1,r2,r3,r4,r5⟩:=y0_run (M:=M) (Γ:=(ti,.slice (some ⟨_,0,none⟩) 0 0)::(tj,.slice (some ⟨w.heap.size,0,none⟩) mj mj)::Γ) hz q2 y2 sji (so _ sji.f.2) (e3 _ _) hf h1 hzs hpos hm hb;refine T.val k tk _ _ (cT_1 (ck2 _ _)).1 (cT_1 (ck2 _ _)).2 r1 ?_ r2;intro a ka;have hh:=H _ A' c' _ _ _ r3 r4 r5 a (kn_swap2 d1 ka);rw[Array.setIfInBounds_comm _ _ d3] at hh
    exact hh
theorem zY1 {K:Nat}{α:Type}(i t j:Nat)(ty:TypeId)(sz c:Nat)(A:Option Addr)(l:List α)(f:α→List Value)(x:α)(bt b:Nat)(z:Value)(hz:M.z=some (K,[]))(hK:K≤w.heap.size)(hv:∀ b,(Value.slice A l.length c).ownBlock=some b→K≤b)(s:SS w0 h0 w h B Rs F)(sg:Seg h b 0 (f x))
    (H:∀ A' c' w' h',(∀ b,(Value.slice A' (l++[x]).length c').ownBlock=some b→K≤b)→K≤w'.heap.size→SS w0 h0 w' h' B (Rs.set j ⟨ty,sz,A',c',(l++[x]).length,(l++[x]).flatMap f⟩) F→AG M P n N R X ops 0 (L.setIfInBounds i true) ((t,.slice A' (l++[x]).length c')::Γ) w')
    (hc:cT n ops 0 L Γ i t=true:=by kernel_rfl)(he:apE P (ev Γ) (opAt ops i)=some (.slice A l.length c,.slice (some ⟨b,0,none⟩) 1 1,ty,z,sz,bt):=by kernel_rfl)(hzs:z.cells.size=sz:=by kernel_rfl)(hpos:0<sz:=by decide)
    (hr':Rs.getD j default=⟨ty,sz,A,c,l.length,l.flatMap f⟩:=by kernel_rfl)(hj:decide (j<Rs.length)=true:=by kernel_rfl)(h1:(f x).all (·.oneCell')=true:=by kernel_rfl)(hl:(f x).length=1*sz:=by kernel_rfl)(hm:l.length+1≤1099511627776:=by omega)(hb:(l.length+1)*bt≤140737488355328:=by omega):AG M P n N R X ops 0 L Γ w:=by
  have hj':=oT hj;obtain ⟨x',y,ty',ho,hx,hy,hu,hi⟩:=apE_op he;have r:=s.ro _ (List.getElem_mem hj');have er:=rw_get hr' hj';rw[er] at r
  obtain ⟨v',w',hrun,ow,gr,hloc⟩:=app_run (P:=P) ho hx hy hu hi hzs hpos s.st r hl (seg_news s.g sg) (fun u hu=>(List.all_eq_true.1 h1) u hu) hm hb
  have hv':∀ b,v'.ownBlock=some b→K≤b:=fun b e=>by
    rcases hloc with h1|h1
    · exact hv b (h1▸e)
    · rw[h1] at e;cases e;exact hK
  have hT:Tl M w w':=tl_own (b:=0) hz hK hv gr;have hg:=s.grown (j:=j) hj' (w':=w') (v':=v') (m2:=1) (news:=f x) (by rw[er];exact ow) (by rw[er];exact gr) (by rw[er];exact hloc);rw[er] at hg
  obtain ⟨h',A',c',rfl,e2,s'⟩:=hg;have e1:l.length+1=(l++[x]).length:=by simp
  simp only[] at s'
  rw[snoc_row,e1] at s'
  rw[e1] at hrun hv'
  exact T.val i t _ w' (cT_1 hc).1 (cT_1 hc).2 hrun (H A' c' w' h' hv' (Nat.le_trans hK gr.size) s') hT
theorem zYa {K:Nat}{α:Type}(i t j:Nat)(ty:TypeId)(sz c:Nat)(A:Option Addr)(l:List α)(f:α→List Value)(d:α)(A2:Option Addr)(m:List α)(n2 c2 bt:Nat)(z:Value)(hz:M.z=some (K,[]))(hK:K≤w.heap.size)(hv:∀ b,(Value.slice A l.length c).ownBlock=some b→K≤b)(s:SS w0 h0 w h B Rs F)(so:SlO sz f d h A2 m)
    (H:∀ A' c' w' h',K≤w'.heap.size→SS w0 h0 w' h' B (Rs.set j ⟨ty,sz,A',c',(l++m).length,(l++m).flatMap f⟩) F→AG M P n N R X ops 0 (L.setIfInBounds i true) ((t,.slice A' (l++m).length c')::Γ) w')
    (hc:cT n ops 0 L Γ i t=true:=by kernel_rfl)(he:apE P (ev Γ) (opAt ops i)=some (.slice A l.length c,.slice A2 n2 c2,ty,z,sz,bt):=by kernel_rfl)(hn:n2=m.length:=by omega)(hf:∀ x,(f x).length=sz:=by intro _;rfl)(h1:∀ x,(f x).all (·.oneCell')=true:=by intro _;kernel_rfl)(hzs:z.cells.size=sz:=by kernel_rfl)(hpos:0<sz:=by decide)
    (hr':Rs.getD j default=⟨ty,sz,A,c,l.length,l.flatMap f⟩:=by kernel_rfl)(hj:decide (j<Rs.length)=true:=by kernel_rfl)(hm:l.length+m.length≤1099511627776:=by omega)(hb:(l.length+m.length)*bt≤140737488355328:=by omega):AG M P n N R X ops 0 L Γ w:=by
  subst hn;have hj':=oT hj;cases m with
  | nil =>
    have e0:l++[]=l:=List.append_nil l;rw[e0] at H
    have es:Rs.set j ⟨ty,sz,A,c,l.length,l.flatMap f⟩=Rs:=by
      have:=rw_get hr' hj';rw[←this,List.set_getElem_self]
    have s1:=s;rw[←es] at s1
    exact T.val i t _ w (cT_1 hc).1 (cT_1 hc).2 (app_none s he hr' hj') (H A c w h hK s1)
  | cons x xs =>
    have hm0:0<(x::xs).length:=Nat.succ_pos _;rw[so.ok hm0] at he
    obtain ⟨x',y,ty',ho,hx,hy,hu,hi⟩:=apE_op he;have r:=s.ro _ (List.getElem_mem hj');have er:=rw_get hr' hj';rw[er] at r
    obtain ⟨v',w',hrun,ow,gr,hloc⟩:=app_run (P:=P) ho hx hy hu hi hzs hpos s.st r (len_flat hf (x::xs)) (seg_newsO s.g (so.flat hf)) (fun u hu=>by
      obtain ⟨y,_,hy⟩:=List.mem_flatMap.1 hu;exact (List.all_eq_true.1 (h1 y)) u hy) hm hb
    have hT:Tl M w w':=tl_own (b:=0) hz hK hv gr;have hg:=s.grown (j:=j) hj' (w':=w') (v':=v') (m2:=(x::xs).length) (news:=(x::xs).flatMap f) (by rw[er];exact ow) (by rw[er];exact gr) (by rw[er];exact hloc);rw[er] at hg
    obtain ⟨h',A',c',rfl,e2,s'⟩:=hg;have e1:l.length+(x::xs).length=(l++(x::xs)).length:=by simp
    simp only[] at s'
    rw[flat_row,e1] at s'
    rw[e1] at hrun
    exact T.val i t _ w' (cT_1 hc).1 (cT_1 hc).2 hrun (H A' c' w' h' (Nat.le_trans hK gr.size) s') hT
theorem zT (i t:Nat)(A:Option Addr)(len cap sz:Nat)(x:Int)(j:Nat)(H:AG M P n N R X ops 0 (L.setIfInBounds i true) ((t,.slice A j cap)::Γ) w)(hc:chkZ n ops L Γ i t=true:=by kernel_rfl)(he:slE P (ev Γ) (opAt ops i)=some (.slice A len cap,none,some (.int .i64 x),sz):=by kernel_rfl)(hk:x=j:=by omega)(hlt:j≤cap:=by omega):AG M P n N R X ops 0 L Γ w :=
  zV i t _ H hc (slE_to j he hk hlt)
theorem zF (i t:Nat)(A:Option Addr)(len cap sz:Nat)(x:Int)(j:Nat)(H:AG M P n N R X ops 0 (L.setIfInBounds i true) ((t,.slice (if cap=j then A else A.map (·.add (j*sz))) (len-j) (cap-j))::Γ) w)(hc:chkZ n ops L Γ i t=true:=by kernel_rfl)(he:slE P (ev Γ) (opAt ops i)=some (.slice A len cap,some (.int .i64 x),none,sz):=by kernel_rfl)(hk:x=j:=by omega)(hlt:j≤len:=by omega):AG M P n N R X ops 0 L Γ w :=
  zV i t _ H hc (slE_from j he hk hlt)
end
theorem mem_ins {us:List ByteArray}{i:Nat}{s:ByteArray}{op:Int}(h:op=2)(x:ByteArray):x∈us.take i++[s]++us.drop i↔(x∈us∨(op=2∧x=s)):=by
  have e:x∈us↔x∈us.take i∨x∈us.drop i:=by rw[←List.mem_append,List.take_append_drop]
  rw[e,List.mem_append,List.mem_append,List.mem_singleton]
  constructor
  · rintro ((h1|h1)|h1)
    · exact .inl (.inl h1)
    · exact .inr ⟨h,h1⟩
    · exact .inl (.inr h1)
  · rintro ((h1|h1)|⟨_,h1⟩)
    · exact .inl (.inl h1)
    · exact .inr h1
    · exact .inl (.inr h1)
theorem mem_fnd {us:List ByteArray}{i:Nat}{s:ByteArray}{op:Int}(hi:i<us.length)(he:us.getD i ⟨#[]⟩=s)(x:ByteArray):x∈us↔(x∈us∨(op=2∧x=s)):=by
  constructor
  · exact .inl
  · rintro (h1|⟨_,rfl⟩)
    · exact h1
    · rw[←he];exact memG hi rfl
theorem mem_not {us:List ByteArray}{s:ByteArray}{op:Int}(h:op≠2)(x:ByteArray):x∈us↔(x∈us∨(op=2∧x=s)):=by
  constructor
  · exact .inl
  · rintro (h1|⟨h2,_⟩)
    · exact h1
    · exact absurd h2 h
theorem has0 {d:Nat}{ks:List Tm}{x:ByteArray}(a b:Prop):(a∨b)↔(a∨b∨HasK d ks 0 x):=by
  constructor
  · rintro (h|h)
    · exact .inl h
    · exact .inr (.inl h)
  · rintro (h|h|⟨i,hi,_⟩)
    · exact .inl h
    · exact .inr h
    · exact absurd hi (Nat.not_lt_zero i)
theorem has1 {d k:Nat}{ks:List Tm}{x:ByteArray}{n:Prop}{a b:Prop}(h:n↔(a∨b∨HasK d ks k x)):(n∨HasN d (ks.getD k tm0) x)↔(a∨b∨HasK d ks (k+1) x):=by
  rw[h]
  constructor
  · rintro ((h1|h1|⟨i,hi,h1⟩)|h1)
    · exact .inl h1
    · exact .inr (.inl h1)
    · exact .inr (.inr ⟨i,by omega,h1⟩)
    · exact .inr (.inr ⟨k,by omega,h1⟩)
  · rintro (h1|h1|⟨i,hi,h1⟩)
    · exact .inl (.inl h1)
    · exact .inl (.inr (.inl h1))
    · rcases Nat.lt_succ_iff_lt_or_eq.1 hi with h2|rfl
      · exact .inl (.inr (.inr ⟨i,h2,h1⟩))
      · exact .inr h1
def maxN (f:Nat→Nat):Nat→Nat
  | 0=>0
  | n+1=>max (maxN f n) (f n)
def dpt:Nat→Tm→Nat
  | 0,_=>0
  | d+1,t=>maxN (fun i=>dpt d (t.ks.getD i tm0)) t.ks.length+1
theorem maxN_le {f:Nat→Nat}{b:Nat}:∀ n,(∀ i,i<n→f i≤b)→maxN f n≤b
  | 0,_=>Nat.zero_le _
  | n+1,h=>Nat.max_le.2 ⟨maxN_le n (fun i hi=>h i oM),h n (Nat.lt_succ_self n)⟩
theorem dpt_le:∀ (d:Nat) (t:Tm),dpt d t≤d
  | 0,_=>Nat.le_refl _
  | d+1,t=>Nat.succ_le_succ (maxN_le _ (fun i _=>dpt_le d _))
theorem sm_has {sm:ByteArray→Prop}:∀ {d:Nat} {t:Tm} {s:ByteArray},SmT sm d t→HasN d t s→sm s
  | d+1,t,s,w,.inl ⟨h1,h2⟩=>by rw[h2];exact w.2.2.2.2.1
  | d+1,t,s,w,.inr ⟨i,hi,h⟩=>sm_has (w.2.2.2.2.2 i hi) h
theorem cnt_leM {sm:ByteArray→Prop}:∀ {d:Nat} {t:Tm},SmT sm d t→cntT d t+1≤4^d
  | d+1,t,w=>by
    have h2:=w.1;have hs:=sumN_le (f:=fun i=>cntT d (t.ks.getD i tm0)) (b:=4^d-1) t.ks.length (fun i hi=>by have:=cnt_leM (w.2.2.2.2.2 i hi);show cntT d _≤_;omega);have hp:0<4^d:=Nat.pow_pos kD;have hm:t.ks.length*(4^d-1)≤3*(4^d-1):=Nat.mul_le_mul_right _ h2
    show 1+sumN _ _+1≤4^(d+1)
    rw[Nat.pow_succ];omega
def sLt (a b:ByteArray):Prop:=a.data.toList<b.data.toList
theorem strL_iff {a b:ByteArray}:strL a b=true↔sLt a b:=by
  unfold strL sLt
  rw[bytesLess_eq,Lib.toList_data,Lib.toList_data];exact decide_eq_true_iff
theorem sLt_irrefl (a:ByteArray):¬sLt a a:=List.lt_irrefl _
theorem sLt_trans {a b c:ByteArray}(h:sLt a b)(k:sLt b c):sLt a c:=List.lt_trans h k
theorem sLt_or {a b:ByteArray}(h:¬sLt a b)(k:a≠b):sLt b a:=by
  have h1:=List.not_lt.1 h
  rcases List.le_iff_lt_or_eq.1 h1 with h2|h2
  · exact h2
  · exact absurd (show a=b by cases a;cases b;rename_i x y;congr 1;exact (Array.toList_inj.1 h2).symm) k
def RisN (l:List ByteArray):Prop:=l.Pairwise sLt
theorem RisN.nil:RisN []:=List.Pairwise.nil
theorem ris_uniq:∀ {l m:List ByteArray},RisN l→RisN m→(∀ x,x∈l↔x∈m)→l=m
  | [],[],_,_,_=>rfl
  | [],b::m,_,_,h=>absurd ((h b).2 List.mem_cons_self) (by simp)
  | a::l,[],_,_,h=>absurd ((h a).1 List.mem_cons_self) (by simp)
  | a :: l,b::m,x,y,h=>by
    obtain ⟨x1,x2⟩:=List.pairwise_cons.1 x;obtain ⟨y1,y2⟩:=List.pairwise_cons.1 y
    have e:a=b:=by
      rcases List.mem_cons.1 ((h a).1 List.mem_cons_self) with e|h1
      · exact e
      · rcases List.mem_cons.1 ((h b).2 List.mem_cons_self) with e|h2
        · exact e.symm
        · exact absurd (sLt_trans (y1 a h1) (x1 b h2)) (sLt_irrefl _)
    subst e
    congr 1
    refine ris_uniq x2 y2 (fun z=>⟨fun hz=>?_,fun hz=>?_⟩)
    · rcases List.mem_cons.1 ((h z).1 (List.mem_cons_of_mem _ hz)) with rfl|h1
      · exact absurd (x1 z hz) (sLt_irrefl _)
      · exact h1
    · rcases List.mem_cons.1 ((h z).2 (List.mem_cons_of_mem _ hz)) with rfl|h1
      · exact absurd (y1 z hz) (sLt_irrefl _)
      · exact h1
theorem ris_ins {us:List ByteArray}{k:Nat}{s:ByteArray}(h:RisN us)(h1:∀ i,i<k→strL (us.getD i ⟨#[]⟩) s=true)(hk:k≤us.length)(h2:k=us.length∨(strL (us.getD k ⟨#[]⟩) s=false∧us.getD k ⟨#[]⟩≠s)):RisN (us.take k++[s]++us.drop k):=by
  have hd:us=us.take k++us.drop k:=(List.take_append_drop k us).symm;have hp:=h;rw[hd] at hp
  obtain ⟨p1,p2,p3⟩:=List.pairwise_append.1 hp
  have hlo:∀ a∈us.take k,sLt a s:=fun a ha=>by
    obtain ⟨i,hi,e⟩:=List.mem_iff_getElem.1 ha;rw[List.length_take] at hi
    have:=strL_iff.1 (h1 i oM);rw[List.getD_eq_getElem?_getD,List.getElem?_eq_getElem oM] at this
    rw[←e,List.getElem_take];exact this
  have hhi:∀ a∈us.drop k,sLt s a:=fun a ha=>by
    rcases h2 with h2|⟨h3,h4⟩
    · rw[h2,List.drop_length] at ha;cases ha
    · have h5:sLt s (us.getD k ⟨#[]⟩):=sLt_or (fun x=>by rw[strL_iff.2 x] at h3;cases h3) h4
      obtain ⟨i,hi,e⟩:=List.mem_iff_getElem.1 ha;rw[List.length_drop] at hi
      rw[List.getD_eq_getElem?_getD,List.getElem?_eq_getElem (show k<us.length by omega)] at h5
      have h5:sLt s us[k]:=h5;rw[List.getElem_drop] at e
      cases i with
      | zero=>rw[←e];simpa using h5
      | succ j =>
        have h6:=List.pairwise_iff_getElem.1 h k (k+(j+1)) oM oM oM;rw[←e];exact sLt_trans h5 h6
  refine List.pairwise_append.2 ⟨List.pairwise_append.2 ⟨p1,List.pairwise_singleton _ _,fun a ha b hb=>?_⟩,p2,fun a ha b hb=>?_⟩
  · rw[List.mem_singleton] at hb;subst hb;exact hlo a ha
  · rcases List.mem_append.1 ha with ha|ha
    · exact p3 a ha b hb
    · rw[List.mem_singleton] at ha;subst ha;exact hhi b hb
theorem ris_sort {zs:List (List UInt8)}(hn:zs.Nodup):RisN ((zs.mergeSort fun x y=>decide (x≤y)).map fun z=>(⟨z.toArray⟩:ByteArray)):=by
  have h1:(zs.mergeSort fun x y=>decide (x≤y)).Pairwise (fun x y=>decide (x≤y)=true):=List.pairwise_mergeSort (fun a b c h k=>by simp only[decide_eq_true_eq] at *;exact List.le_trans h k) (fun a b=>by simpa using List.le_total a b) zs;have h2:(zs.mergeSort fun x y=>decide (x≤y)).Nodup:=(List.mergeSort_perm zs _).nodup_iff.2 hn
  unfold RisN
  rw[List.pairwise_map];refine (List.pairwise_and_iff.2 ⟨h1,h2⟩).imp ?_;rintro a b ⟨h3,h4⟩
  show a<b
  rcases List.le_iff_lt_or_eq.1 (oT h3) with h5|h5
  · exact h5
  · exact absurd h5 h4
open Go.RowKit Go.WideMaps
structure MapI (P:Program) (kt:TypeId) (Q:Value→Prop) (w1:World) (h1:Hp) (b:Nat):Prop where
  jk:h1[b]?=some junk
  ex:∃ es clk,w1.heap[b]?=some (.map es clk)∧∀ e∈es.toList,(∃ l,keyOf P kt e.key=some l)∧Q e.val
section laws
variable {P:Program} {n:Nat} {N R:Po} {X:Nat→Po} {ops:Array Oper} {k:Nat} {Γ:Env} {w:World} {h:Hp} {w0 w1:World} {h0 h1:Hp} {B:List Bx} {Rs:List Rw} {F:List (Hp→Prop)}
theorem SS.base (s:SS w1 h1 w h B Rs F){b:Nat}{o:Obj}(hj:h1[b]?=some junk)(hb:b<w1.heap.size) :
    SS { w1 with heap:=w1.heap.setIfInBounds b o } h1 { w with heap:=w.heap.setIfInBounds b o } h B Rs F∧G { w1 with heap:=w1.heap.setIfInBounds b o } h1:=by
  have hlt:b<h1.size:=lt_of_some hj;have hj2:h[b]?=some junk:=(s.st.up.gr.blk b hlt).trans hj;have hbw:b<w.heap.size:=by rw[s.g.size];exact lt_of_some hj2
  have set:∀ (w:World) c,c≠b→({ w with heap:=w.heap.setIfInBounds b o }:World).heap[c]?=w.heap[c]?:=fun w c hc=>by show (w.heap.setIfInBounds b o)[c]?=_;rw[Array.getElem?_setIfInBounds_ne (Ne.symm hc)]
  have selfs:∀ (w:World),b<w.heap.size→({ w with heap:=w.heap.setIfInBounds b o }:World).heap[b]?=some o:=fun w hw=>by show (w.heap.setIfInBounds b o)[b]?=_;rw[Array.getElem?_setIfInBounds_self_of_lt hw]
  have gg:∀ (w:World) (h:Hp),G w h→h[b]?=some junk→G { w with heap:=w.heap.setIfInBounds b o } h:=fun w h g j=>⟨by show (w.heap.setIfInBounds b o).size=_;rw[Array.size_setIfInBounds];exact g.size,fun c=>by
    by_cases e:c=b
    · subst e;exact .inr j
    · rw[set w c e];exact g.blk c⟩
  have g0':=gg w1 h1 s.g0 hj;refine ⟨⟨g0',⟨⟨?_,s.st.up.gr,gg w h s.g hj2⟩,fun x hx=>?_,s.st.jk,s.st.lo,s.st.nd⟩,fun r hr=>?_,s.ap,s.mo,s.f⟩,g0'⟩
  · have e:=s.st.up.ext
    refine ⟨e.os,e.tape,e.output,?_,fun c hc=>?_⟩
    · show (w1.heap.setIfInBounds b o).size≤(w.heap.setIfInBounds b o).size
      rw[Array.size_setIfInBounds,Array.size_setIfInBounds];exact e.size
    · by_cases q:c=b
      · subst q;rw[selfs w hbw,selfs w1 hb]
      · rw[set w c q,set w1 c q];exact e.block c (by have:c<(w1.heap.setIfInBounds b o).size:=hc;rw[Array.size_setIfInBounds] at this;exact this)
  · have:x.b≠b:=fun e=>by have:=s.st.lo x hx;omega
    exact (set w x.b this).trans (s.st.own x hx)
  · have q:=s.ro r hr
    refine ⟨own_block q.own (fun c hc=>set w c (fun e=>?_)),q.jk,q.ap⟩;subst e
    rcases q.own with ⟨_,e2|⟨g,cap,cur,hv,hb',_⟩⟩
    · rw[e2.1] at hc;simp[Value.ownBlock] at hc
    · rw[hv] at hc
      simp[Value.ownBlock] at hc
      omega
end laws
structure Dif (M:List Nat) (w w0:World):Prop where
  mo:Mo M w w0
  sz:w0.heap.size=w.heap.size
section frn
variable {w0 w w' wi:World} {h0 h h':Hp} {B:List Bx} {R:List Rw} {F:List (Hp→Prop)} {M:List Nat}
end frn
section get
variable {P:Program} {n:Nat} {N R:Po} {X:Nat→Po} {ops:Array Oper} {k:Nat} {Γ:Env} {w:World} {h:Hp} {w0:World} {h0:Hp} {B:List Bx} {Rs:List Rw} {F:List (Hp→Prop)}
end get
section gete
variable {M:Ms} {P:Program} {n:Nat} {N R:Po} {X:Nat→Po} {ops:Array Oper} {k0:Nat} {hr:Hp} {AL:List Al} {L:Array Bool} {Γ:Env} {w:World} {h:Hp} {w0:World} {h0:Hp} {B:List Bx} {Rs:List Rw} {F:List (Hp→Prop)}
end gete
section ops
variable {P:Program} {Γ:Env} {o:Oper}
end ops
section laws
variable {M:Ms} {P:Program} {n:Nat} {N R:Po} {X:Nat→Po} {ops:Array Oper} {k k0:Nat} {hr:Hp} {AL:List Al} {L:Array Bool} {Γ:Env} {w:World} {h:Hp} {w0 wi:World} {h0:Hp} {B:List Bx} {Rs:List Rw} {F:List (Hp→Prop)} {Ml:List Nat}
end laws
section zone
variable {w0 w w':World} {h0 h h':Hp} {B:List Bx} {R:List Rw} {F:List (Hp→Prop)}
end zone
section ret
variable {P:Program} {n:Nat} {Γ:Env} {w:World} {h:Hp} {w0 wz:World} {h0 hz:Hp} {B:List Bx} {Rs:List Rw} {F:List (Hp→Prop)}
end ret
section call
variable {M:Ms} {P:Program} {n:Nat} {N R:Po} {X:Nat→Po} {ops:Array Oper} {k0:Nat} {hr:Hp} {AL:List Al} {L:Array Bool} {Γ:Env} {w:World} {h:Hp} {w0:World} {h0:Hp} {B:List Bx} {Rs:List Rw} {F:List (Hp→Prop)}
end call
section perm
variable {w0:World} {h0:Hp} {w:World} {h:Hp} {B B':List Bx} {R R':List Rw} {F:List (Hp→Prop)}
end perm
section ret
variable {P:Program} {n:Nat} {Γ:Env} {w:World} {h:Hp} {w0:World} {h0:Hp} {B:List Bx} {Rs:List Rw} {F:List (Hp→Prop)}
end ret
section call
variable {P:Program} {n:Nat} {N R:Po} {X:Nat→Po} {ops:Array Oper} {k:Nat} {Γ:Env} {w:World}
end call
def kes (ss:List ByteArray):List MapEntry:=ss.zipIdx.map fun p=>⟨.string p.1,.bool true,p.2⟩
theorem kes_snoc (ss:List ByteArray)(s:ByteArray):kes (ss++[s])=kes ss++[⟨.string s,.bool true,ss.length⟩]:=by
  unfold kes;rw[List.zipIdx_append,List.map_append];simp
theorem kes_at {ss:List ByteArray}{j:Nat}{e:MapEntry}(h:(kes ss)[j]?=some e):∃ s,ss[j]?=some s∧e=⟨.string s,.bool true,j⟩:=by
  unfold kes at h
  rw[List.getElem?_map,List.getElem?_zipIdx] at h
  cases hs:ss[j]? with
  | none=>rw[hs] at h;simp at h
  | some s=>rw[hs] at h;simp at h;exact ⟨s,rfl,h.symm⟩
theorem kes_mem {ss:List ByteArray}{e:MapEntry}(h:e∈kes ss):∃ j s,ss[j]?=some s∧e=⟨.string s,.bool true,j⟩:=by
  obtain ⟨j,hj⟩:=List.mem_iff_getElem?.1 h;obtain ⟨s,h1,h2⟩:=kes_at hj;exact ⟨j,s,h1,h2⟩
theorem kes_has {ss:List ByteArray}{s:ByteArray}(h:s∈ss):∃ e∈kes ss,e.key=.string s:=by
  obtain ⟨j,hj⟩:=List.mem_iff_getElem?.1 h;refine ⟨⟨.string s,.bool true,j⟩,?_,rfl⟩
  unfold kes
  refine List.mem_map.2 ⟨(s,j),?_,rfl⟩;rw[List.mem_iff_getElem?];exact ⟨j,by rw[List.getElem?_zipIdx,hj];simp⟩
theorem kes_find (ss:List ByteArray)(s:ByteArray):(Instr.findNow .string (.string s) (kes ss) 0=some none∧s ∉ ss)∨∃ j,Instr.findNow .string (.string s) (kes ss) 0=some (some (j,.bool true))∧ss[j]?=some s:=by
  rcases MapKept.findNow_spec (d:=.string) (k:=.string s) (by simp[MapKept.IsKey]) (kes ss) 0 (fun x hx=>by obtain ⟨_,_,_,rfl⟩:=kes_mem hx;simp[MapKept.IsKey]) with ⟨h1,h2⟩|⟨j,e,h1,h2,h3⟩
  · refine .inl ⟨h1,fun hm=>?_⟩
    obtain ⟨e,he,hk⟩:=kes_has hm;exact h2 e he hk
  · obtain ⟨s',hs,rfl⟩:=kes_at h2
    injection h3 with h3
    subst h3;exact .inr ⟨j,by rw[h1,Nat.zero_add],hs⟩
structure MapK (w:World) (h:Hp) (b:Nat) (ss:List ByteArray):Prop where
  jk:h[b]?=some junk
  ob:w.heap[b]?=some (.map (kes ss).toArray ss.length)
  nd:ss.Nodup
section laws
variable {P:Program} {n:Nat} {N R:Po} {X:Nat→Po} {ops:Array Oper} {k:Nat} {Γ:Env} {w:World} {h:Hp} {w1:World} {h1:Hp} {B:List Bx} {Rs:List Rw} {F:List (Hp→Prop)}
theorem SS.atK (s:SS w1 h1 w h B Rs F){b:Nat}{ss:List ByteArray}(m:MapK w1 h1 b ss):w.heap[b]?=some (.map (kes ss).toArray ss.length) :=
  (s.st.up.ext.block b (by rw[s.g0.size];exact lt_of_some m.jk)).trans m.ob
theorem um_base {b:Nat}{o:Obj}(g1:G { w1 with heap:=w1.heap.setIfInBounds b o } h1):UpM [b] w1 h1 { w1 with heap:=w1.heap.setIfInBounds b o } h1 :=
  ⟨⟨rfl,rfl,rfl,by show _≤(w1.heap.setIfInBounds b o).size;rw[Array.size_setIfInBounds];exact Nat.le_refl _,fun c _ hn=>by
    show (w1.heap.setIfInBounds b o)[c]?=_
    rw[Array.getElem?_setIfInBounds_ne (fun e=>hn (List.mem_singleton.2 e.symm))]⟩,Gr.refl _,g1⟩
theorem lMuK {mty kt et:TypeId}{b:Nat}{ss:List ByteArray}(ky:ByteArray)(s:SS w1 h1 w h B Rs F)(m:MapK w1 h1 b ss)
    (H:∀ w1' w' ss2,SS w1' h1 w' h B Rs F→MapK w1' h1 b ss2→(∀ x,x∈ss2↔x∈ss∨x=ky)→ss2.length≤ss.length+1→UpM [b] w1 h1 w1' h1→LG P n N R X ops (k+1) Γ w')
    (hc:cS ops Γ k=true:=by kernel_rfl)(hx:execOp (ev Γ) (opAt ops k)=(do Instr.mapUpdate mty (.map (some b)) (.string ky) (.bool true);pure .skip):=by kernel_rfl)(hu:P.underlying mty=some (.map kt et):=by kernel_rfl)(hk:P.underlying kt=some .string:=by kernel_rfl):LG P n N R X ops k Γ w:=by
  have hw:=s.atK m;have hlt:b<w1.heap.size:=(Array.getElem?_eq_some_iff.1 m.ob).1
  rcases kes_find ss ky with ⟨hf,hn⟩|⟨j,hf,hj⟩
  · have hr:=run_upd w (val:=.bool true) hu hk hw hf
    obtain ⟨s2,g2⟩:=s.base (o:=.map ((kes ss).toArray.push ⟨.string ky,.bool true,ss.length⟩) (ss.length+1)) m.jk hlt;refine LG.store _ (cS_1 hc).1 (cS_1 hc).2 ?_ (H _ _ (ss++[ky]) s2 ⟨m.jk,?_,?_⟩ (fun x=>by simp) (by simp) (um_base g2))
    · rw[hx];simp[hr,Result.andThen]
    · show (w1.heap.setIfInBounds b _)[b]?=_
      rw[Array.getElem?_setIfInBounds_self_of_lt hlt,kes_snoc];simp
    · exact List.nodup_append.2 ⟨m.nd,by simp,fun a ha c hc e=>hn (by rw[List.mem_singleton] at hc;rw[←hc,←e];exact ha)⟩
  · have hjl:j<ss.length:=(List.getElem?_eq_some_iff.1 hj).1
    have hkj:(kes ss)[j]?=some ⟨.string ky,.bool true,j⟩:=by
      unfold kes;rw[List.getElem?_map,List.getElem?_zipIdx,hj];simp
    have hr:=run_updo w (val:=.bool true) hu hk hw hf (by simp[hkj])
    have he:((kes ss).toArray.modify j fun e=>{ e with key:=.string ky,val:=.bool true })=(kes ss).toArray:=by
      apply Array.ext_getElem?
      intro i;rw[Array.getElem?_modify]
      by_cases e:j=i
      · subst e
        rw[if_pos rfl]
        simp[hkj]
      · rw[if_neg e]
    rw[he] at hr
    obtain ⟨s2,g2⟩:=s.base (o:=.map (kes ss).toArray ss.length) m.jk hlt;refine LG.store _ (cS_1 hc).1 (cS_1 hc).2 ?_ (H _ _ ss s2 ⟨m.jk,?_,m.nd⟩ (fun x=>⟨.inl,fun h=>h.elim id fun e=>by rw[e];exact List.mem_iff_getElem?.2 ⟨j,hj⟩⟩) (Nat.le_succ _) (um_base g2))
    · rw[hx];simp[hr,Result.andThen]
    · show (w1.heap.setIfInBounds b _)[b]?=_
      rw[Array.getElem?_setIfInBounds_self_of_lt hlt]
theorem SS.baseK (s:SS w1 h1 w h B Rs F){b:Nat}{ss ss2:List ByteArray}(m:MapK w1 h1 b ss){w':World}{h':Hp}(u:UpM [b] w h w' h')(ho:w'.heap[b]?=some (.map (kes ss2).toArray ss2.length))(nd:ss2.Nodup):∃ w1',SS w1' h1 w' h' B Rs F∧MapK w1' h1 b ss2∧UpM [b] w1 h1 w1' h1:=by
  have hlt:b<w1.heap.size:=(Array.getElem?_eq_some_iff.1 m.ob).1;have hb1:=lt_of_some m.jk;obtain ⟨s2,g2⟩:=s.base (o:=.map (kes ss2).toArray ss2.length) m.jk hlt;have hsz:({ w1 with heap:=w1.heap.setIfInBounds b (.map (kes ss2).toArray ss2.length) }:World).heap.size=w1.heap.size:=by simp
  have blk:∀ c,c<w.heap.size→c≠b→w'.heap[c]?=w.heap[c]?:=fun c hc hn=>u.mo.blk c hc (fun hm=>hn (List.mem_singleton.1 hm))
  have e:=s.st.up.ext;have hnb:∀ x∈B,x.b≠b:=fun x hx e=>by have:=s.st.lo x hx;omega
  refine ⟨_,⟨g2,⟨⟨⟨u.mo.os.trans e.os,u.mo.tape.trans e.tape,u.mo.output.trans e.output,by rw[hsz];exact Nat.le_trans e.size u.mo.size,fun c hc=>?_⟩,s.st.up.gr.trans u.gr,u.g⟩,fun x hx=>?_,fun x hx=>?_,s.st.lo,s.st.nd⟩,fun r hr=>⟨own_block (s.ro r hr).own (fun c hc=>?_),fun c hc=>(u.gr.blk c ((s.ro r hr).lt hc)).trans ((s.ro r hr).jk c hc),(s.ro r hr).ap⟩,s.ap,s.mo,s.f.gw s.mo u.gr.gw⟩,⟨m.jk,by show (w1.heap.setIfInBounds b _)[b]?=_;rw[Array.getElem?_setIfInBounds_self_of_lt hlt],nd⟩,um_base g2⟩
  · rw[hsz] at hc
    by_cases q:c=b
    · subst q
      rw[ho]
      show _=(w1.heap.setIfInBounds c _)[c]?
      rw[Array.getElem?_setIfInBounds_self_of_lt hlt]
    · rw[blk c (Nat.lt_of_lt_of_le hc e.size) q]
      show _=(w1.heap.setIfInBounds b _)[c]?
      rw[Array.getElem?_setIfInBounds_ne (Ne.symm q)];exact e.block c hc
  · have hO:=s.st.own x hx
    exact (blk x.b hO.lt (hnb x hx)).trans hO
  · rw[u.gr.blk _ (lt_of_some (s.st.jk x hx))];exact s.st.jk x hx
  · refine blk c (own_lt (s.ro r hr).own hc) (fun e=>?_)
    subst e;have q:=(s.ro r hr).own
    rcases q with ⟨_,e2|⟨g,cap,cur,hv,hb',_⟩⟩
    · rw[e2.1] at hc;simp[Value.ownBlock] at hc
    · rw[hv] at hc;simp[Value.ownBlock] at hc;omega
end laws
section ro
variable {w0:World} {h0:Hp} {w:World} {h:Hp} {B:List Bx} {R:List Rw} {F:List (Hp→Prop)}
theorem SS.ro_jk (s:SS w0 h0 w h B R F)(j:Nat){ty:TypeId}{sz c m:Nat}{A:Option Addr}{cs:List Value}(hr:R.getD j default=⟨ty,sz,A,c,m,cs⟩:=by kernel_rfl)(hj:decide (j<R.length)=true:=by kernel_rfl):∀ b∈(Value.slice A m c).ownBlock.toList,h[b]?=some junk:=fun b hb=>by
  have hj':=oT hj;have r:=s.ro _ (List.getElem_mem hj');rw[rw_get hr hj'] at r
  exact r.jk b (Option.mem_toList.1 hb)
theorem SS.ro_lt (s:SS w0 h0 w h B R F)(j:Nat){ty:TypeId}{sz c m:Nat}{A:Option Addr}{cs:List Value}(hr:R.getD j default=⟨ty,sz,A,c,m,cs⟩:=by kernel_rfl)(hj:decide (j<R.length)=true:=by kernel_rfl):∀ b∈(Value.slice A m c).ownBlock.toList,b<h.size:=fun b hb=>by
  have hj':=oT hj;have r:=s.ro _ (List.getElem_mem hj');rw[rw_get hr hj'] at r
  exact lt_of_some (r.jk b (Option.mem_toList.1 hb))
theorem SS.ro_ne (s:SS w0 h0 w h B R F)(q j:Nat){ty:TypeId}{sz c m:Nat}{A:Option Addr}{cs:List Value}(hq:decide (q<B.length)=true:=by kernel_rfl)(hr:R.getD j default=⟨ty,sz,A,c,m,cs⟩:=by kernel_rfl)(hj:decide (j<R.length)=true:=by kernel_rfl):(bxAt B q).b ∉ (Value.slice A m c).ownBlock.toList:=fun hb=>by
  have hj':=oT hj;have r:=s.ro _ (List.getElem_mem hj');rw[rw_get hr hj'] at r
  exact r.ap _ (Option.mem_toList.1 hb) (List.mem_map.2 ⟨_,bxAt_mem (oT hq),rfl⟩)
end ro
section
variable {pl:ByteArray→Int} {d k:Nat} {l tl:List Stp} {ks:List Tm} {za zb:Int}
end
section laws
variable {M:Ms} {P:Program} {ops:Array Oper} {Q:Exit→Act→World→Prop} {k0:Nat}
structure Waits (ops:Array Oper) (k0 i:Nat) (late:List Nat):Prop where
  ev:∀ u∈late,∃ ou,ops[u]?=some ou∧∃ e∈ou.after,Region.binds .any e=true∧(e.on=i∨e.on∈late)
  tl:∀ j oj,ops[j]?=some oj→k0≤j→j∈late
theorem anyR_firstU {i:Nat}{oi:Oper}{v:Value}{S:World→Prop}{late:List Nat}(hi:ops[i]?=some oi)(hsel:∀ (j:Nat) (o:Oper) cs b,ops[j]?=some o→o.op≠.select cs b)
    (hQ:∀ c a w,Q (.panic c) (a.put oi.dst v) w→Q (.panic c) a w)(hcl:∀ w w',S w→Mo M.l w w'→S w')(hw:Waits ops k0 i late) :
    ∀ (n:Nat) (L:Array Bool) (a:Act) (w:World),
      (∀ j oj,ops[j]?=some oj→j≠i→L.getD j true=false→(∀ e∈oj.after,Region.binds .any e=true→e.on≠i)→oi.apart ops oj=true) →
      (∀ u∈late,L.getD u true=false) →
      i∈Region.ready .any ops L→YieldsIf P ops S oi v a→S w →
      anyR M P ops Q k0 n (L.setIfInBounds i true) (a.put oi.dst v) w→anyR M P ops Q k0 (n+1) L a w:=by
  intro n
  induction n with
  | zero =>
    intro L a w _ _ hr hy hS H;refine ⟨fun h=>(by rw[h] at hr;cases hr),fun j hj=>?_⟩
    by_cases hji:j=i
    · subst hji;exact hy.wpOp hi hS ⟨Rl.refl _ _ _ _,H⟩
    · have:=ready_mono hj hji
      rw[H.1] at this
      cases this
  | succ n ih =>
    intro L a w hfree hund hr hy hS H;refine ⟨fun h=>(by rw[h] at hr;cases hr),fun j hj=>?_⟩
    by_cases hji:j=i
    · subst hji;exact hy.wpOp hi hS ⟨Rl.refl _ _ _ _,H⟩
    · have h1:=H.2 j (ready_mono hj hji)
      obtain ⟨hjun,oj,hoj,hall⟩:=mem_ready.1 hj
      have hwait:∀ x,L.getD x true=false→∀ e∈oj.after,Region.binds .any e=true→e.on≠x:=fun x h0 e he hb heq=>by
        have h1:=hall e he hb;rw[heq] at h1
        obtain ⟨hl,h0'⟩:=unl h0
        simp[Array.getD,hl,h0'] at h1
      have hnot:=hwait i (mem_ready.1 hr).1
      have hnl:j ∉ late:=fun hm=>by
        obtain ⟨ou,ho,e,he,hb,h2⟩:=hw.ev j hm;obtain rfl:oj=ou:=Option.some.inj (hoj.symm.trans ho)
        rcases h2 with h2|h2
        · exact hnot e he hb h2
        · exact hwait e.on (hund _ h2) e he hb rfl
      have hlt:j<k0:=by
        rcases Nat.lt_or_ge j k0 with hl|hl
        · exact hl
        · exact absurd (hw.tl j oj hoj hl) hnl
      have h2:=wpOp_putIf hoj (hfree j oj hoj hji hjun hnot) (fun cs b=>hsel i oi cs b hi) (fun cs b=>hsel j oj cs b hoj) hQ hy h1
      have hfree':∀ k ok,ops[k]?=some ok→k≠i→(L.setIfInBounds j true).getD k true=false →
          (∀ e∈ok.after,Region.binds .any e=true→e.on≠i)→oi.apart ops ok=true:=fun k ok hk hki hun hno=>by
        refine hfree k ok hk hki ?_ hno
        by_cases hjk:j=k
        · subst hjk;exact hjun
        · rw[getD_set_ne true hjk] at hun;exact hun
      refine wpOp_mono (fun a' w' h3=>⟨h3.2.1,ih (L.setIfInBounds j true) a' w' hfree' (fun u hu=>?_) (ready_mono hr (Ne.symm hji)) h3.1 (hcl _ _ hS (h3.2.1.1 hlt)) ?_⟩) h2
      · rw[getD_set_ne true (fun e=>hnl (by rw[e];exact hu))];exact hund u hu
      · rw[Array.setIfInBounds_comm _ _ hji]
        exact h3.2.2
theorem E.take0U {h0:Hp}{AL:List Al}{L:Array Bool}{a:Act}{w:World}{h:Hp}{i:Nat}{o:Oper}{v:Value}{S:World→Prop}{late:List Nat}
    (hi:ops[i]?=some o)(hsel:Region.noSelect ops=true)(hf:Region.free .any ops L i=true)(hr:i∈Region.ready .any ops L)
    (hal:∀ x∈AL,x.i≠i∧x.t ∉ o.looksAt ops∧o.dst≠some x.t)(hQ:∀ c a w,¬Q (.panic c) a w)
    (hcl:∀ w w',S w→Mo M.l w w'→S w')(hS:∀ w',Mo M.l w w'→S w')(hy:YieldsIf P ops S o v a)
    (hw:Waits ops k0 i late)(hund:∀ u∈late,L.getD u true=false∧∀ x∈AL,x.i≠u)
    (H:E M P ops Q k0 h0 AL (L.setIfInBounds i true) (a.put o.dst v) w h):E M P ops Q k0 h0 AL L a w h:=by
  intro w' h' u S' T hp hb hn;have hS':∀ s∈S',s.1.i≠i∧s.1.t ∉ o.looksAt ops∧o.dst≠some s.1.t:=fun s hs=>hal _ (mem_perm hp hs)
  have H1:=H w' h' u S' T hp hb hn;rw[addL_set L S' i (fun s hs=>(hS' s hs).1),addA_put a S' o.dst v (fun s hs=>(hS' s hs).2.2)] at H1
  have hr':=addL_ready (fun s hs=>(hS' s hs).1) hr;obtain ⟨e1,e2⟩:=exec_addA (ops:=ops) (Region.noSelect_spec hsel i o · · hi) a S' (fun s hs=>(hS' s hs).2.1)
  unfold A at *
  rw[rem_ready hr']
  exact anyR_firstU hi (Region.noSelect_spec hsel) (fun c a w hq=>absurd hq (hQ _ _ _)) hcl hw _ _ _ _
    (fun j oj hj hji hun=>Region.free_spec hi hf j oj hj hji (addL_getD hun))
    (fun x hx=>by rw[addL_ne true (fun s hs=>(hund x hx).2 _ (mem_perm hp hs))];exact (hund x hx).1) hr' (hy.of_same e1 e2) (hS _ (u.m M.l).mo) H1
end laws
section steps
variable {M:Ms} {P:Program} {n:Nat} {N R:Po} {X:Nat→Po} {ops:Array Oper} {k0:Nat} {hr:Hp} {AL:List Al} {L:Array Bool} {Γ:Env} {w:World} {h:Hp} {w0:World} {h0:Hp} {B:List Bx} {Rs:List Rw} {F:List (Hp→Prop)}
def chkLate (ops:Array Oper)(k0:Nat)(AL:List Al)(L:Array Bool)(i:Nat)(late:List Nat):Bool :=
  (late.all fun u=>decide (u<ops.size) && !(L.getD u true) && (AL.all fun x=>x.i != u) && ((opAt ops u).after.any fun e=>Region.binds .any e && (e.on == i || late.contains e.on))) && ((List.range ops.size).all fun j=>decide (j<k0) || late.contains j)
theorem chkLate_spec {i:Nat}{late:List Nat}(hc:chkLate ops k0 AL L i late=true):Waits ops k0 i late∧∀ u∈late,L.getD u true=false∧∀ x∈AL,x.i≠u:=by
  unfold chkLate at hc
  rw[Bool.and_eq_true] at hc
  obtain ⟨h1,h2⟩:=hc;have h1':=fun u hu=>(List.all_eq_true.1 h1) u hu
  refine ⟨⟨fun u hu=>?_,fun j oj hj hk=>?_⟩,fun u hu=>?_⟩
  · have q:=h1' u hu
    simp only[Bool.and_eq_true,decide_eq_true_eq,Array.any_eq_true,Bool.or_eq_true,beq_iff_eq,List.contains_eq_mem] at q
    obtain ⟨⟨⟨q1,_⟩,_⟩,x,hx,q2,q3⟩:=q;exact ⟨_,opAt_get q1,_,Array.getElem_mem hx,q2,q3⟩
  · have hlt:=(Array.getElem?_eq_some_iff.1 hj).1
    have q:=(List.all_eq_true.1 h2) j (List.mem_range.2 hlt)
    simp only[Bool.or_eq_true,decide_eq_true_eq,List.contains_eq_mem] at q
    rcases q with q|q
    · omega
    · exact q
  · have q:=h1' u hu
    simp only[Bool.and_eq_true,Bool.not_eq_true',List.all_eq_true,bne_iff_ne,ne_eq] at q
    exact ⟨q.1.1.2,fun x hx=>q.1.2 x hx⟩
def cElU (n:Nat)(ops:Array Oper)(k0:Nat)(AL:List Al)(L:Array Bool)(Γ:Env)(i t:Nat)(late:List Nat):Bool:=chkTake n ops k0 AL L i t && knownOp Γ (opAt ops i) && chkLate ops k0 AL L i late && (wantE ops Γ (opAt ops i) == some true)
theorem Rg.loadU (i t:Nat)(late:List Nat)(v:Value)(hc:cElU n ops k0 AL L Γ i t late=true)
    (hr:∀ w',Mo M.l w w'→(execOp (ev Γ) (opAt ops i)).run P w'=.ok (.value v) w')
    (k:EG M P n N R X ops k0 h0 AL (L.setIfInBounds i true) ((t,v)::Γ) w h):EG M P n N R X ops k0 h0 AL L Γ w h:=by
  unfold cElU at hc
  simp only[Bool.and_eq_true] at hc
  obtain ⟨⟨⟨hc,hkn⟩,hl⟩,hw⟩:=hc;have hw:wantE ops Γ (opAt ops i)=some true:=by simpa using hw
  have c:=chkTake_spec hc;obtain ⟨l1,l2⟩:=chkLate_spec hl;intro oks hM g hsz a ka;have e1:=ka.exec (Region.noSelect_spec c.sel i _ · · c.get) hkn;refine E.take0U (v:=v) (S:=fun w'=>Mo M.l w w') c.get c.sel c.free c.ready c.al (fun _ _ _ hq=>hq) (fun _ _ h1 h2=>h1.trans h2) (fun _ hx=>hx) (.inl ⟨ka.want hw,fun w' hx=>by rw[e1];exact hr w' hx⟩) l1 l2 ?_;rw[c.dst];exact k oks hM g hsz _ (ka.put c.tn v)
theorem eOU (i t:Nat)(late:List Nat)(ps:List (Nat × Nat × Nat))(v:Value)(s:SS w0 h0 w h B Rs F)(H:EG ⟨[],none⟩ P n N R X ops k0 hr AL (L.setIfInBounds i true) ((t,v)::Γ) w h)(hc:cElU n ops k0 AL L Γ i t late=true:=by kernel_rfl)(hp:partsOk B ps=true:=by kernel_rfl)(he:evalL P (execOp (ev Γ) (opAt ops i)) (partsV B ps)=some (.value v,partsA B ps):=by kernel_rfl):EG ⟨[],none⟩ P n N R X ops k0 hr AL L Γ w h :=
  Rg.loadU i t late v hc (fun w' hx=>evalL_run _ _ _ _ he (parts_cellsM (fun _ _=>List.not_mem_nil) (fun x hm _=>(hx.blk x.b (by rw[s.g.size];exact lt_of_some (s.st.jk x hm)) List.not_mem_nil).trans (s.st.own x hm)) ps (fun _ h=>h) hp)) H
end steps
theorem strS (s:ByteArray):(s.toList == s.toList)=true:=beq_self_eq_true _
theorem strS2 (s:ByteArray):(!(s.toList == s.toList))=false:=by rw[strS];rfl
theorem tGatherMS  (sm:ByteArray→Prop)(d:Nat)(ih:∀ (p:PTm) (t:Tm) (b:Nat) (ss:List ByteArray) (w:World) (h:Hp),G w h→TmH d h p t→SmT sm d t→MapK w h b ss→Calls Tryz.prog 23 #[ptv p,.map (some b)] w (RetM b w h (fun v w1 _=>v=.tuple #[]∧∃ ss2:List ByteArray,w1.heap[b]?=some (.map (kes ss2).toArray ss2.length)∧ss2.Nodup∧(∀ x,x∈ss2↔x∈ss∨HasN d t x)∧ss2.length≤ss.length+cntT d t)))(op n:Int)(q:Rat)(s:ByteArray)(A:Option Addr)(c:Nat)(ps:List PTm)(ks:List Tm)(hc:ps.length≤c)(hlp:ps.length≤3)(hk3:ks.length≤3)(hop : -1000≤op∧op≤1000)(hn : -1000≤n∧n≤1000)(hq:LQ 1 q)(hsm:sm s)(hW:∀ i,i<ks.length→SmT sm d (ks.getD i tm0))(b:Nat)(ss:List ByteArray)(w:World)(h:Hp)(g:G w h)(hK:SlO 9 ptc ptm0 h A ps)(hKs:Tms d h ps ks)(hmk:MapK w h b ss):Calls Tryz.prog 23 #[pW op n q s A ps.length c,.map (some b)] w (RetM b w h (fun v w1 _=>v=.tuple #[]∧∃ ss2:List ByteArray,w1.heap[b]?=some (.map (kes ss2).toArray ss2.length)∧ss2.Nodup∧(∀ x,x∈ss2↔x∈ss∨HasN (d+1) (.mk op n q s ks) x)∧ss2.length≤ss.length+cntT (d+1) (.mk op n q s ks))):=by
 have hmu:UpM [b] w h w h:=UpM.refl g;have hs:SS w h w h [] [] []:=sS g;replace hs:=((hs.aS hK).add (K:=fun h_=>Tms d h_ ps ks) hKs);have hln:=(hs.f.1).len;refine go Tryz.func23 [(0,pW op n q s A ps.length c),(1,.map (some b))] rfl (cSL (lA 2 43 (pG op n q s A ps.length c) hs (fun b1 w2 h3 hs=>?_)));refine lN (CG.join (fun Γ w_=>∃ (w1_:World) (s1:List ByteArray) (h_:Hp),Γ=[(1,.map (some b)),(2,pB b1)]∧SS w1_ h w_ h_ [⟨b1,43,pG op n q s A ps.length c⟩] [] [fun h_=>Tms d h_ ps ks,fun h_=>SlO 9 ptc ptm0 h_ A ps]∧MapK w1_ h b s1∧UpM [b] w h w1_ h∧(∀ x,x∈s1↔x∈ss∨(op=2∧x=s))∧s1.length≤ss.length+1) ?_ ?_)
 ·
  refine cSLlL hs [.v 6 (pB b1),.o 7 (iV op) 0 0 1] ?_;cases hb4:((op:Int) == (2:Int))
  ·
   have phb4:=neOfBeq hb4;refine lB 8 hb4 (lNIF (CG.skip ?_));intro a_ ka;exact ⟨_,⟨w,ss,h3,rfl,hs.to _ _,hmk,hmu,(fun x=>⟨fun h_=>.inl h_,fun h_=>h_.elim id (fun e_=>absurd e_.1 oM)⟩),oM⟩,ka.to _ kR⟩
  have phb4:=eq_of_beq hb4;refine lB 8 hb4 (lNIT (kQ (lL hs [.m 9 1,.v 10 (qP b1 7),.o 11 (.string s) 0 7 1] (lMuK (mty:=65) (kt:=9) (et:=4) (s) hs hmk (fun w9 _ ss11 hs hmk hsq hsl2 u_=>?_)))));replace hmu:=hmu.trans u_
  clear u_
  refine lD ?_;intro a_ ka;exact ⟨_,⟨w9,ss11,h3,rfl,hs.to _ _,hmk,hmu,(fun x=>(hsq x).trans ⟨fun h_=>h_.imp id fun e_=>⟨by omega,e_⟩,fun h_=>h_.imp id fun e_=>e_.2⟩),oM⟩,ka.to _ kR⟩
 rintro _ _ ⟨w1_,s1,zc,rfl,hs,hmk,hmu,hs1,hl1⟩;refine cSLlL hs [.v 12 (qP b1 8),.o 13 (qS A ps.length c) 0 8 1,.v 14 (nV ps.length),.v 15 (iV 0)] (lNkZ ?_);refine cTo _ (CG.loop (fun μ_ Γ w_=>∃ (w1_:World) (k:Nat) (sk:List ByteArray) (h_:Hp),μ_=ps.length-k∧Γ=[(1,.map (some b)),(13,qS A ps.length c),(14,nV ps.length),(15,nV k)]∧SS w1_ h w_ h_ [⟨b1,43,pG op n q s A ps.length c⟩] [] [fun h_=>Tms d h_ ps ks,fun h_=>SlO 9 ptc ptm0 h_ A ps]∧MapK w1_ h b sk∧UpM [b] w h w1_ h∧k≤ps.length∧(∀ x,x∈sk↔x∈s1∨HasK d ks k x)∧sk.length≤s1.length+(sumN (fun i=>cntT d (ks.getD i tm0)) k)) _ ⟨w1_,0,s1,zc,rfl,rfl,hs.to _ _,hmk,hmu,Nat.zero_le _,(fun x=>⟨.inl,fun h_=>h_.elim id (fun h_=>absurd h_ HasK.zero)⟩),nR _⟩ ?_);rintro _ _ _ ⟨w1_,k,sk,_,hm20,rfl,hs,hmk,hmu,hk,hsk,hskl⟩;have hs1_:(sumN (fun i=>cntT d (ks.getD i tm0)) (k+1))=(sumN (fun i=>cntT d (ks.getD i tm0)) k)+cntT d (ks.getD k tm0):=rfl;refine cSL ?_;cases za:(decide ((k:Int)<(ps.length:Int)))
 ·
  have zb:=oF za;refine lB 16 za (lNcQ (cIF (CG.exit ?_)));have hkn:k=ks.length:=by omega
  have hcn:cntT (d+1) (.mk op n q s ks)=1+(sumN (fun i=>cntT d (ks.getD i tm0)) ks.length):=rfl;exact hs.retM (hmu.trans (hs.st.up.m _)) [] (.tuple #[]) ⟨rfl,sk,hs.atK hmk,hmk.nd,fun x=>by rw[hsk x,hs1 x,hkn,or_assoc];exact Iff.rfl,by rw[hcn,←hkn];omega⟩
 have zb:=oT za;refine lB 16 za (lNcQ (cIT (cK (cQ (kZ (cSL (lX 17 A ps.length c 9 (k:Nat) k ((hs.f.2.1).ok oM) ?_)))))));refine lH 18 (pX (ps.getD k ptm0)) hs ((hs.f.2.1).el k oM) (lA 5 43 ([iV 0,iV 0,qF,uV 0,eS,uV 0,eS,eS,sZ]) hs (fun b22 _ _ hs=>lP 0 0 (pC (ps.getD k ptm0)) hs (fun _ hs=>lN (kQ (lL hs [.o 19 (pX (ps.getD k ptm0)) 0 0 9,.m 20 1] (lCm 21 (ih (ps.getD k ptm0) (ks.getD k tm0) b sk _ _ hs.g ((hs.f.1).at_ k oM) (hW k oM) ⟨(hs.st.up.gr.blk _ (lt_of_some hmk.jk)).trans hmk.jk,hs.atK hmk,hmk.nd⟩) ?_))))));rintro _ _ zd u28 ⟨rfl,ss29,ho_,hd_,hsq,hsl2⟩;obtain ⟨ze,hs,hmk,u_⟩:=hs.baseK hmk u28 ho_ hd_;replace hmu:=hmu.trans u_
 clear u_ ho_ hd_
 refine lN (kQ (lIn 22 ((k:Nat)+1) (k+1) ?_));refine lL hs [.m 15 22] (lD ?_);intro a_ ka;replace hs:=hs.drop 1 0;refine ⟨_,_,?_,⟨ze,k+1,ss29,zd,rfl,rfl,hs.to _ _,hmk,hmu,oM,(fun x=>(hsq x).trans (by rw[hsk x,or_assoc,←HasK.succ])),oM⟩,ka.to _ kR⟩
 omega
theorem tGatherM (sm:ByteArray→Prop):∀ (d:Nat) (p:PTm) (t:Tm) (b:Nat) (ss:List ByteArray) (w:World) (h:Hp),G w h→TmH d h p t→SmT sm d t→MapK w h b ss→Calls Tryz.prog 23 #[ptv p,.map (some b)] w (RetM b w h (fun v w1 _=>v=.tuple #[]∧∃ ss2:List ByteArray,w1.heap[b]?=some (.map (kes ss2).toArray ss2.length)∧ss2.Nodup∧(∀ x,x∈ss2↔x∈ss∨HasN d t x)∧ss2.length≤ss.length+cntT d t))
  | 0,_,_,_,_,_,_,_,x,_,_=>x.elim
  | d+1,p,t,b,ss,w,h,g,x,wf,hmk=>by
    obtain ⟨op,n,q,s,A,c,ps,ks,rfl,rfl,hc,hK,hKs⟩:=x.open;obtain ⟨s1,s2,s3,s4,s5,s6⟩:=wf;have s1_:ks.length≤3:=s1;exact tGatherMS sm d (fun p t b ss w h=>tGatherM sm d p t b ss w h) op n q s A c ps ks hc (by have:=hKs.len;omega) s1 s2 s3 s4 s5 s6 b ss w h g hK hKs hmk
theorem cmpR_selfM (a:Rat):cmpR a a=0:=by unfold cmpR cmpI;rw[if_neg oM,if_neg oM]
theorem min_mulC {m s:Nat}(h:1≤m):min (m*min s 1073741824) 1073741824=min (m*s) 1073741824:=by
  rcases Nat.le_total s 1073741824 with e|e
  · rw[Nat.min_eq_left e]
  · rw[Nat.min_eq_right e,Nat.min_eq_right (Nat.le_trans e (Nat.le_mul_of_pos_left _ h)),Nat.min_eq_right (Nat.le_mul_of_pos_left _ h)]
theorem tDeepMS  (sm:ByteArray→Prop)(d:Nat)(ih:∀ (p:PTm) (t:Tm) (w:World) (h:Hp),G w h→TmH d h p t→SmT sm d t→d≤1000→Calls Tryz.prog 12 #[ptv p] w (Ret w h (fun v _=>v=nV (dpt d t))))(op n:Int)(q:Rat)(s:ByteArray)(A:Option Addr)(c:Nat)(ps:List PTm)(ks:List Tm)(hc:ps.length≤c)(hlp:ps.length≤3)(hk3:ks.length≤3)(hop : -1000≤op∧op≤1000)(hn : -1000≤n∧n≤1000)(hq:LQ 1 q)(hsm:sm s)(hW:∀ i,i<ks.length→SmT sm d (ks.getD i tm0))(hd:d+1≤1000)(w:World)(h:Hp)(g:G w h)(hK:SlO 9 ptc ptm0 h A ps)(hKs:Tms d h ps ks):CV 12 #[pW op n q s A ps.length c] w h (nV (dpt (d+1) (.mk op n q s ks))):=by
 have hs:=(((sS g).aS hK).add (K:=fun h_=>Tms d h_ ps ks) hKs);have hln:=(hs.f.1).len;have hdb:∀ k,k≤ks.length→(maxN (fun i=>dpt d (ks.getD i tm0)) k)≤d:=fun k hk=>maxN_le k (fun i _=>dpt_le d _)
 have hdb2:=fun i=>dpt_le d (ks.getD i tm0)
 refine go Tryz.func12 [(0,pW op n q s A ps.length c)] rfl (cSL (lA 1 43 (pG op n q s A ps.length c) hs (fun b1 w2 h3 hs=>lL hs [.v 2 (iV 0)] (lNS (lL hs [.v 3 (iV 0)] (lNcQ (cSLlL hs [.v 6 (qP b1 8),.o 7 (qS A ps.length c) 0 8 1,.v 8 (nV ps.length),.v 9 (iV 0)] (lNkZ ?_))))))));refine cTo _ (CG.loop (fun μ_ Γ w_=>∃ (k:Nat) (h_:Hp),μ_=ps.length-k∧Γ=[(2,iV 0),(7,qS A ps.length c),(8,nV ps.length),(9,nV k),(3,nV (maxN (fun i=>dpt d (ks.getD i tm0)) k))]∧SS w h w_ h_ [⟨b1,43,pG op n q s A ps.length c⟩] [] [fun h_=>Tms d h_ ps ks,fun h_=>SlO 9 ptc ptm0 h_ A ps]∧k≤ps.length) _ ⟨0,h3,rfl,rfl,hs.to _ _,Nat.zero_le _⟩ ?_);rintro _ _ w4 ⟨k,h5,hm6,rfl,hs,hk⟩;have hmx:(maxN (fun i=>dpt d (ks.getD i tm0)) (k+1))=max (maxN (fun i=>dpt d (ks.getD i tm0)) k) (dpt d (ks.getD k tm0)):=rfl;refine cSL ?_;cases hb7:(decide ((k:Int)<(ps.length:Int)))
 ·
  have phb7:=oF hb7;refine lB 10 hb7 (lNcQ (cIF (CG.exit ?_)))
  show CG _ _ _ _ _ _ _ _
  refine cSLlL hs [.m 18 3] ?_;have hb1_:=hdb k oM;exact lIn 19 (((maxN (fun i=>dpt d (ks.getD i tm0)) k):Nat)+1) (((maxN (fun i=>dpt d (ks.getD i tm0)) k):Nat)+1) (lL hs [.m 2 19] (lNkXr hs [] (nV (((maxN (fun i=>dpt d (ks.getD i tm0)) k):Nat)+1)) (congrArg (fun n:Nat=>Value.int .i64 (n:Int)) (by rw[show k=ks.length by omega];rfl))))
 have phb7:=oT hb7;refine lB 10 hb7 (lNcQ (cIT (cK (cQ (kZ (cSL (lX 11 A ps.length c 9 (k:Nat) k ((hs.f.2.1).ok oM) ?_)))))));refine lH 12 (pX (ps.getD k ptm0)) hs ((hs.f.2.1).el k oM) (lA 5 43 ([iV 0,iV 0,qF,uV 0,eS,uV 0,eS,eS,sZ]) hs (fun b8 w9 _ hs=>lP 0 0 (pC (ps.getD k ptm0)) hs (fun _ hs=>lN (kQ (lL hs [.m 13 3,.o 14 (pX (ps.getD k ptm0)) 0 0 9] (lCval 15 hs (ih (ps.getD k ptm0) (ks.getD k tm0) _ _ hs.g ((hs.f.1).at_ k oM) (hW k oM) oM) (fun _ za hs=>?_)))))));have hb1_:=hdb k oM;have hb2_:=hdb2 k;refine lV 16 (nV (maxN (fun i=>dpt d (ks.getD i tm0)) (k+1))) ?_ (hr:=rint (n:=if (dpt d (ks.getD k tm0):Int)>((maxN (fun i=>dpt d (ks.getD i tm0)) k):Int) then (dpt d (ks.getD k tm0):Int) else ((maxN (fun i=>dpt d (ks.getD i tm0)) k):Int)) kR (by split<;>omega));refine lL hs [.m 3 16] (lN (kQ (lIn 17 ((k:Nat)+1) (k+1) ?_)));refine lL hs [.m 9 17] (lD ?_);intro a_ ka;replace hs:=hs.drop 1 0;refine ⟨_,_,?_,⟨k+1,za,rfl,rfl,hs.to _ _,oM⟩,ka.to _ kR⟩
 omega
theorem tDeepM (sm:ByteArray→Prop):∀ (d:Nat) (p:PTm) (t:Tm) (w:World) (h:Hp),G w h→TmH d h p t→SmT sm d t→d≤1000→Calls Tryz.prog 12 #[ptv p] w (Ret w h (fun v _=>v=nV (dpt d t)))
  | 0,_,_,_,_,_,x,_,_=>x.elim
  | d+1,p,t,w,h,g,x,wf,hd=>by
    obtain ⟨op,n,q,s,A,c,ps,ks,rfl,rfl,hc,hK,hKs⟩:=x.open;obtain ⟨s1,s2,s3,s4,s5,s6⟩:=wf;have s1_:ks.length≤3:=s1;exact tDeepMS sm d (fun p t w h=>tDeepM sm d p t w h) op n q s A c ps ks hc (by have:=hKs.len;omega) s1 s2 s3 s4 s5 s6 hd w h g hK hKs
theorem tTimesM (n:Int)(h0 : -1000≤n)(h1:n≤1000)(w:World)(h:Hp)(g:G w h):CV 62 #[iV n] w h (nV (timesN n)):=by
 have hs:=sS g;refine go Tryz.func62 [(0,iV n)] rfl (cSLlL hs [.v 2 (iV 0)] (lNcQ (cSLlL hs [.m 3 0] ?_)));cases hb1:(decide ((n:Int)≤(-1073741824:Int)))
 ·
  have phb1:=oF hb1;refine lB 4 hb1 (lL hs [.m 5 4,.m 6 0] ?_);cases hb2:(decide ((1073741824:Int)≤(n:Int)))
  ·
   have phb2:=oF hb2;refine lB 7 hb2 (lL hs [.v 8 qF] (lNIF (cK (cSLlL hs [.m 9 0,.m 10 0] (lI 11 (0-n) ?_)))));refine lV 12 (iV (max (max (n:Int) (0-n:Int)) (1:Int))) ?_ (hr:=rint (n:=(if (1:Int)>(if (0-n:Int)>(n:Int) then (0-n:Int) else (n:Int)) then (1:Int) else (if (0-n:Int)>(n:Int) then (0-n:Int) else (n:Int)))) kR (by simp only[imax2]));exact lL hs [.m 2 12] (lNkXr hs [] (iV (max (max (n:Int) (0-n:Int)) (1:Int))) (congrArg (Value.int .i64) (by unfold timesN;(repeat' split)<;>omega)))
  have phb2:=oT hb2;exact lB 7 hb2 (lL hs [.v 8 qT] (lNIT (cSLlL hs [.v 2 (iV 1073741824)] (lNkXr hs [] (iV 1073741824) (congrArg (Value.int .i64) (by unfold timesN;(repeat' split)<;>omega))))))
 have phb1:=oT hb1;refine lB 4 hb1 (lL hs [.m 5 4] (lG 6 ?_));exact lG 7 (lL hs [.v 8 qT] (lNIT (cSLlL hs [.v 2 (iV 1073741824)] (lNkXr hs [] (iV 1073741824) (congrArg (Value.int .i64) (by unfold timesN;(repeat' split)<;>omega))))))
theorem tWeightMS  (sm:ByteArray→Prop)(d:Nat)(ih:∀ (p:PTm) (t:Tm) (w:World) (h:Hp),G w h→TmH d h p t→SmT sm d t →  Calls Tryz.prog 32 #[ptv p,iV 1073741824] w (Ret w h (fun v _=>v=iV ((min (wgt d t) 1073741824:Nat):Int))))(op n:Int)(q:Rat)(s:ByteArray)(A:Option Addr)(c:Nat)(ps:List PTm)(ks:List Tm)(hc:ps.length≤c)(hlp:ps.length≤3)(hk3:ks.length≤3)(hop : -1000≤op∧op≤1000)(hn : -1000≤n∧n≤1000)(hq:LQ 1 q)(hsm:sm s)(hW:∀ i,i<ks.length→SmT sm d (ks.getD i tm0))(w:World)(h:Hp)(g:G w h)(hK:SlO 9 ptc ptm0 h A ps)(hKs:Tms d h ps ks):CV 32 #[pW op n q s A ps.length c,iV 1073741824] w h (iV ((min (wgt (d+1) (.mk op n q s ks)) 1073741824:Nat):Int)):=by
 have hs:=(((sS g).aS hK).add (K:=fun h_=>Tms d h_ ps ks) hKs);have hln:=(hs.f.1).len;refine go Tryz.func32 [(0,pW op n q s A ps.length c),(1,iV 1073741824)] rfl (cSL (lA 2 43 (pG op n q s A ps.length c) hs (fun b1 w2 h3 hs=>lL hs [.v 4 (iV 0)] (lNcQ (cSLlL hs [.v 8 (qP b1 8),.o 9 (qS A ps.length c) 0 8 1,.v 10 (nV ps.length)] ?_)))));cases hb4:((ps.length:Int) == (0:Int))
 ·
  have phb4:=neOfBeq hb4;refine lB 11 hb4 (lNIF (cK (cSLlL hs [.v 5 (iV 0)] (lNcQ (cSLlL hs [.v 14 (qP b1 8),.o 15 (qS A ps.length c) 0 8 1,.v 16 (nV ps.length),.v 17 (iV 0)] (lNkZ ?_))))));refine cTo _ (CG.loop (fun μ_ Γ w_=>∃ (k:Nat) (sw:Nat) (h_:Hp),μ_=ps.length-k∧Γ=[(1,iV 1073741824),(2,pB b1),(15,qS A ps.length c),(16,nV ps.length),(17,nV k),(5,nV sw)]∧SS w h w_ h_ [⟨b1,43,pG op n q s A ps.length c⟩] [] [fun h_=>Tms d h_ ps ks,fun h_=>SlO 9 ptc ptm0 h_ A ps]∧k≤ps.length∧sw=min (sumN (fun i=>wgt d (ks.getD i tm0)) k) 1073741824) _ ⟨0,0,h3,rfl,rfl,hs.to _ _,Nat.zero_le _,rfl⟩ ?_);rintro _ _ w5 ⟨k,sw,h6,hm7,rfl,hs,hk,hsw_⟩;have hs1:(sumN (fun i=>wgt d (ks.getD i tm0)) (k+1))=(sumN (fun i=>wgt d (ks.getD i tm0)) k)+wgt d (ks.getD k tm0):=rfl;refine cSL ?_;cases hb8:(decide ((k:Int)<(ps.length:Int)))
  ·
   have phb8:=oF hb8;refine lB 18 hb8 (lNcQ (cIF (CG.exit ?_)))
   show CG _ _ _ _ _ _ _ _
   refine cQ (cSLlL hs [.v 33 (pB b1),.o 34 (iV op) 0 0 1] (lNkZ (cSL ?_)));cases hb9:((op:Int) == (11:Int))
   ·
    have phb9:=neOfBeq hb9;refine lB 36 hb9 (lL hs [.m 35 36] (lNIF (cSL ?_)));cases za:((op:Int) == (8:Int))
    ·
     have zc:=neOfBeq za;refine lB 40 za (lL hs [.m 39 40] (lNIF (cK (cSLlL hs [.m 46 5,.m 47 1] (lV 48 (iV (min (sw:Int) (1073741824:Int))) ?_ (hr:=rint (n:=(if (1073741824:Int)<(sw:Int) then (1073741824:Int) else (sw:Int))) kR (by simp only[imin2])))))));refine lL hs [.m 4 48] (lN (kX ?_));have hkn:k=ks.length:=by omega
     have hw_:=wgt_s (d:=d) (op:=op) (n:=n) (q:=q) (s:=s) (ks:=ks) oM;have hm_:=min_mulC (s:=(sumN (fun i=>wgt d (ks.getD i tm0)) k)) (wmul_pos op n);rw[←hkn] at hw_
     rw[←hw_,←hsw_] at hm_
     exact hs.ret [] (iV (min (sw:Int) (1073741824:Int))) (congrArg (Value.int .i64) (by rw[←hm_];unfold wmul;first|(rw[if_pos oM];(repeat' split)<;>omega)|(rw[if_neg oM,if_pos oM,Nat.mul_comm];(repeat' split)<;>omega)|(rw[if_neg oM,if_neg oM];(repeat' split)<;>omega)))
    have zc:=eq_of_beq za;refine lB 40 za (lL hs [.m 39 40] (lNIT (kQ (lL hs [.m 41 5,.v 42 (qP b1 1),.o 43 (iV n) 0 1 1] (lCval 44 hs (tTimesM n oM oM _ _ hs.g) (fun _ _ hs=>?_))))));have htm:timesN n≤1000∧1≤timesN n:=by unfold timesN;split<;>omega
    have hmb:sw*timesN n≤1073741824*1000:=Nat.mul_le_mul oM oM;refine lI 45 ((sw:Nat)*(timesN n:Nat)) (lL hs [.m 5 45] (lNS (lL hs [.m 46 5,.m 47 1] (lV 48 (iV (min ((sw:Nat)*(timesN n:Nat):Int) (1073741824:Int))) ?_ (hr:=rint (n:=(if (1073741824:Int)<((sw:Nat)*(timesN n:Nat):Int) then (1073741824:Int) else ((sw:Nat)*(timesN n:Nat):Int))) kR (by simp only[imin2]))))));refine lL hs [.m 4 48] (lN (kX ?_));have hkn:k=ks.length:=by omega
    have hw_:=wgt_s (d:=d) (op:=op) (n:=n) (q:=q) (s:=s) (ks:=ks) oM;have hm_:=min_mulC (s:=(sumN (fun i=>wgt d (ks.getD i tm0)) k)) (wmul_pos op n);rw[←hkn] at hw_
    rw[←hw_,←hsw_] at hm_
    exact hs.ret [] (iV (min ((sw:Nat)*(timesN n:Nat):Int) (1073741824:Int))) (congrArg (Value.int .i64) (by rw[←hm_];unfold wmul;first|(rw[if_pos oM];(repeat' split)<;>omega)|(rw[if_neg oM,if_pos oM,Nat.mul_comm];(repeat' split)<;>omega)|(rw[if_neg oM,if_neg oM];(repeat' split)<;>omega)))
   have phb9:=eq_of_beq hb9;refine lB 36 hb9 (lL hs [.m 35 36] (lNIT (kQ (lL hs [.m 37 5] (lI 38 ((sw:Nat)*2) ?_)))));refine lL hs [.m 5 38] (lNS (lL hs [.m 46 5,.m 47 1] (lV 48 (iV (min ((sw:Nat)*2:Int) (1073741824:Int))) ?_ (hr:=rint (n:=(if (1073741824:Int)<((sw:Nat)*2:Int) then (1073741824:Int) else ((sw:Nat)*2:Int))) kR (by simp only[imin2])))));refine lL hs [.m 4 48] (lN (kX ?_));have hkn:k=ks.length:=by omega
   have hw_:=wgt_s (d:=d) (op:=op) (n:=n) (q:=q) (s:=s) (ks:=ks) oM;have hm_:=min_mulC (s:=(sumN (fun i=>wgt d (ks.getD i tm0)) k)) (wmul_pos op n);rw[←hkn] at hw_
   rw[←hw_,←hsw_] at hm_
   exact hs.ret [] (iV (min ((sw:Nat)*2:Int) (1073741824:Int))) (congrArg (Value.int .i64) (by rw[←hm_];unfold wmul;first|(rw[if_pos oM];(repeat' split)<;>omega)|(rw[if_neg oM,if_pos oM,Nat.mul_comm];(repeat' split)<;>omega)|(rw[if_neg oM,if_neg oM];(repeat' split)<;>omega)))
  have phb8:=oT hb8;refine lB 18 hb8 (lNcQ (cIT (cK (cQ (kZ (cSL (lX 19 A ps.length c 9 (k:Nat) k ((hs.f.2.1).ok oM) ?_)))))));refine lH 20 (pX (ps.getD k ptm0)) hs ((hs.f.2.1).el k oM) (lA 7 43 ([iV 0,iV 0,qF,uV 0,eS,uV 0,eS,eS,sZ]) hs (fun b13 _ _ hs=>lP 0 0 (pC (ps.getD k ptm0)) hs (fun _ hs=>lNS (lL hs [.m 21 5,.o 22 (pX (ps.getD k ptm0)) 0 0 9,.m 23 1] (lCval 24 hs (ih (ps.getD k ptm0) (ks.getD k tm0) _ _ hs.g ((hs.f.1).at_ k oM) (hW k oM)) (fun _ ze hs=>lI 25 ((sw:Nat)+((min (wgt d (ks.getD k tm0)) 1073741824:Nat):Int)) (lL hs [.m 26 1] (lV 27 (iV ((min (sumN (fun i=>wgt d (ks.getD i tm0)) (k+1)) 1073741824:Nat):Int)) ?_ (hr:=rint (n:=if (1073741824:Int)<((sw:Nat)+((min (wgt d (ks.getD k tm0)) 1073741824:Nat):Int)) then (1073741824:Int) else ((sw:Nat)+((min (wgt d (ks.getD k tm0)) 1073741824:Nat):Int))) kR (by split<;>omega))))))))));refine lL hs [.m 5 27] (lNS (lL hs [.m 28 5,.m 29 1] ?_));cases zb:((((min (sumN (fun i=>wgt d (ks.getD i tm0)) (k+1)) 1073741824:Nat):Int):Int) == (1073741824:Int))
  ·
   have zd:=neOfBeq zb;refine lB 30 zb (lNIF (cK (kQ (lIn 32 ((k:Nat)+1) (k+1) ?_))));refine lL hs [.m 17 32] (lD ?_);intro a_ ka;replace hs:=hs.drop 1 0;refine ⟨_,_,?_,⟨k+1,(min (sumN (fun i=>wgt d (ks.getD i tm0)) (k+1)) 1073741824),ze,rfl,rfl,hs.to _ _,oM,rfl⟩,ka.to _ kR⟩
   omega
  have zd:=eq_of_beq zb;exact lB 30 zb (lNIT (cSLlL hs [.m 31 1,.m 4 31] (lNkXr hs [] (iV 1073741824) (congrArg (Value.int .i64) (by have h1_:=sumN_mono (fun i=>wgt d (ks.getD i tm0)) (show k+1≤ks.length by omega);have h2_:=wgt_ge (d:=d) (op:=op) (n:=n) (q:=q) (s:=s) (ks:=ks) oM;omega)))))
 have phb4:=eq_of_beq hb4;exact lB 11 hb4 (lNIT (cSLlL hs [.m 12 1,.v 13 (iV 1),.m 4 13] (lNkXr hs [] (iV 1) (congrArg (Value.int .i64) (by rw[wgt_0 oM];first|rfl|omega)))))
theorem tWeightM (sm:ByteArray→Prop):∀ (d:Nat) (p:PTm) (t:Tm) (w:World) (h:Hp),G w h→TmH d h p t→SmT sm d t →  Calls Tryz.prog 32 #[ptv p,iV 1073741824] w (Ret w h (fun v _=>v=iV ((min (wgt d t) 1073741824:Nat):Int)))
  | 0,_,_,_,_,_,x,_=>x.elim
  | d+1,p,t,w,h,g,x,wf=>by
    obtain ⟨op,n,q,s,A,c,ps,ks,rfl,rfl,hc,hK,hKs⟩:=x.open;obtain ⟨s1,s2,s3,s4,s5,s6⟩:=wf;have s1_:ks.length≤3:=s1;exact tWeightMS sm d (fun p t w h=>tWeightM sm d p t w h) op n q s A c ps ks hc (by have:=hKs.len;omega) s1 s2 s3 s4 s5 s6 w h g hK hKs
theorem tHeavyM  (sm:ByteArray→Prop)(d:Nat)(p:PTm)(t:Tm)(w:World)(h:Hp)(g:G w h)(hT:TmH d h p t)(hS:SmT sm d t):CV 14 #[pX p] w h (iV ((min (wgt d t) 1073741824:Nat):Int)):=by
 have hs:=((sS g).add (K:=fun h_=>TmH d h_ p t) hT);exact go Tryz.func14 [(0,pX p)] rfl (cSL (lA 1 43 (pC p) hs (fun b1 w2 h3 hs=>lL hs [.v 2 (iV 0)] (lNS (lL hs [.o 3 (pX p) 0 0 9] (lCval 4 hs (tWeightM sm d p t _ _ hs.g hs.f.1 hS) (fun w4 h5 hs=>lL hs [.m 2 4] (lNkXr hs [] (iV ((min (wgt d t) 1073741824:Nat):Int)) rfl))))))))
theorem tEqF  (sm:ByteArray→Prop)(d:Nat)(ih:∀ (p:PTm) (t:Tm) (w:World) (h:Hp),G w h→TmH d h p t→SmT sm d t→Calls Tryz.prog 16 #[ptv p,ptv p] w (Ret w h (fun v _=>v=.bool true)))(A:Option Addr)(c:Nat)(ps:List PTm)(ks:List Tm)(hlp:ps.length≤3)(hW:∀ i,i<ks.length→SmT sm d (ks.getD i tm0))(w:World)(h:Hp)(g:G w h)(hK:SlO 9 ptc ptm0 h A ps)(hKs:Tms d h ps ks):CV 36 #[.slice A ps.length c,.slice A ps.length c,.func (.func 16) #[] #[]] w h (.bool true):=by
 have hs:=(((sS g).aS hK).add (K:=fun h_=>Tms d h_ ps ks) hKs);have hln:=(hs.f.1).len;refine go Tryz.func36 [(0,qS A ps.length c),(1,qS A ps.length c),(2,.func (.func 16) #[] #[])] rfl (cSLlL hs [.v 6 qF] (lNcQ (cSLlL hs [.m 10 0,.v 11 (nV ps.length),.m 12 1,.v 13 (nV ps.length)] ?_)));cases hb1:((ps.length:Int) != (ps.length:Int))
 ·
  have phb1:=eqOfBne hb1;refine lB 14 hb1 (lNIF (cK (cQ (cSLlL hs [.m 15 0,.v 16 (nV ps.length),.v 17 (iV 0)] (lNkZ ?_)))));refine cTo _ (CG.loop (fun μ_ Γ w_=>∃ (k:Nat) (h_:Hp),μ_=ps.length-k∧Γ=[(1,qS A ps.length c),(2,.func (.func 16) #[] #[]),(15,qS A ps.length c),(16,nV ps.length),(17,nV k)]∧SS w h w_ h_ [] [] [fun h_=>Tms d h_ ps ks,fun h_=>SlO 9 ptc ptm0 h_ A ps]∧k≤ps.length) _ ⟨0,h,rfl,rfl,hs.to _ _,Nat.zero_le _⟩ ?_);rintro _ _ w2 ⟨k,h3,hm4,rfl,hs,hk⟩;refine cSL ?_;cases hb5:(decide ((k:Int)<(ps.length:Int)))
  ·
   have phb5:=oF hb5;refine lB 18 hb5 (lNcQ (cIF (CG.exit ?_)))
   show CG _ _ _ _ _ _ _ _
   exact cSLlL hs [.v 6 qT] (lNkXr hs [] qT rfl)
  have phb5:=oT hb5;refine lB 18 hb5 (lNcQ (cIT (cK (cQ (kZ (cSLlL hs [.m 19 17] (lX 20 A ps.length c 9 (k:Nat) k ((hs.f.2.1).ok oM) ?_)))))));refine lH 21 (pX (ps.getD k ptm0)) hs ((hs.f.2.1).el k oM) (lA 8 43 ([iV 0,iV 0,qF,uV 0,eS,uV 0,eS,eS,sZ]) hs (fun b6 w7 h8 hs=>lL hs [.m 7 19] (lP 0 0 (pC (ps.getD k ptm0)) hs (fun w9 hs=>lNS (lL hs [.m 22 1,.m 23 7] (lX 24 A ps.length c 9 (k:Nat) k ((hs.f.2.1).ok oM) ?_))))));refine lH 25 (pX (ps.getD k ptm0)) hs ((hs.f.2.1).el k oM) (lA 9 43 ([iV 0,iV 0,qF,uV 0,eS,uV 0,eS,eS,sZ]) hs (fun b10 _ _ hs=>lP 0 0 (pC (ps.getD k ptm0)) hs (fun _ hs=>lNS (lL hs [.m 26 2,.o 27 (pX (ps.getD k ptm0)) 1 0 9,.o 28 (pX (ps.getD k ptm0)) 0 0 9] (lCval 29 hs (ih (ps.getD k ptm0) (ks.getD k tm0) _ _ hs.g ((hs.f.1).at_ k oM) (hW k oM)) (fun _ za hs=>lL hs [.v 30 qF] (lNIF (cK (kQ (lIn 31 ((k:Nat)+1) (k+1) ?_))))))))));refine lL hs [.m 17 31] (lD ?_);intro a_ ka;replace hs:=hs.drop 2 0;refine ⟨_,_,?_,⟨k+1,za,rfl,rfl,hs.to _ _,oM⟩,ka.to _ kR⟩
  omega
 have phb1:=neOfBne hb1;refine lB 14 hb1 (lNIT (cSLlL hs [.v 6 qF] (lN (kX ?_))))
 exfalso;omega
theorem tSameMS  (sm:ByteArray→Prop)(d:Nat)(ih:∀ (p:PTm) (t:Tm) (w:World) (h:Hp),G w h→TmH d h p t→SmT sm d t→Calls Tryz.prog 16 #[ptv p,ptv p] w (Ret w h (fun v _=>v=.bool true)))(op n:Int)(q:Rat)(s:ByteArray)(A:Option Addr)(c:Nat)(ps:List PTm)(ks:List Tm)(hc:ps.length≤c)(hlp:ps.length≤3)(hk3:ks.length≤3)(hop : -1000≤op∧op≤1000)(hn : -1000≤n∧n≤1000)(hq:LQ 1 q)(hsm:sm s)(hW:∀ i,i<ks.length→SmT sm d (ks.getD i tm0))(w:World)(h:Hp)(g:G w h)(hK:SlO 9 ptc ptm0 h A ps)(hKs:Tms d h ps ks):CV 16 #[pW op n q s A ps.length c,pW op n q s A ps.length c] w h (.bool true):=by
 have hs:=(((sS g).aS hK).add (K:=fun h_=>Tms d h_ ps ks) hKs);have hln:=(hs.f.1).len;refine go Tryz.func16 [(0,pW op n q s A ps.length c),(1,pW op n q s A ps.length c)] rfl (cSL (lA 2 43 (pG op n q s A ps.length c) hs (fun b1 w2 h3 hs=>lA 3 43 (pG op n q s A ps.length c) hs (fun b4 w5 h6 hs=>lL hs [.v 4 qF] (lNS (lL hs [.v 5 (pB b1),.o 6 (iV op) 1 0 1,.v 7 (pB b4),.o 8 (iV op) 0 0 1] ?_))))));cases hb7:((op:Int) == (op:Int))
 ·
  have phb7:=neOfBeq hb7;refine lB 9 hb7 (lL hs [.m 10 9] (lG 11 ?_));refine lG 12 (lG 13 (lG 14 (lG 15 (lL hs [.v 16 qF,.m 17 16] (lG 18 ?_)))));refine lG 19 (lG 20 (lG 21 (lG 22 (lL hs [.v 23 qF,.m 24 23] (lG 25 ?_)))));refine lG 26 (lG 27 (lG 28 (lG 29 (lG 30 (lL hs [.v 31 qF,.m 32 31] (lG 33 ?_))))));refine lG 34 (lG 35 (lG 36 (lG 37 (lL hs [.v 38 qF,.m 4 38] (lN (kX ?_))))))
  exfalso;omega
 have phb7:=eq_of_beq hb7;refine lB 9 hb7 (lL hs [.m 10 9,.v 11 (qP b1 1),.o 12 (iV n) 1 1 1,.v 13 (qP b4 1),.o 14 (iV n) 0 1 1] ?_);cases hb8:((n:Int) == (n:Int))
 ·
  have phb8:=neOfBeq hb8;refine lB 15 hb8 (lL hs [.v 16 qF,.m 17 16] (lG 18 ?_));refine lG 19 (lG 20 (lG 21 (lG 22 (lL hs [.v 23 qF,.m 24 23] (lG 25 ?_)))));refine lG 26 (lG 27 (lG 28 (lG 29 (lG 30 (lL hs [.v 31 qF,.m 32 31] (lG 33 ?_))))));refine lG 34 (lG 35 (lG 36 (lG 37 (lL hs [.v 38 qF,.m 4 38] (lN (kX ?_))))))
  exfalso;omega
 have phb8:=eq_of_beq hb8;refine lB 15 hb8 (lL hs [.v 16 qT,.m 17 16,.v 18 (qP b1 7),.o 19 (.string s) 1 7 1,.v 20 (qP b4 7),.o 21 (.string s) 0 7 1] (lV 22 qT ?_ (hr:=rb kR (strS s))));exact lL hs [.v 23 qT,.m 24 23,.v 25 (qP b1 2),.o 26 (qv q) 1 2 5,.v 27 (qP b4 2),.o 28 (qv q) 0 2 5] (lCval 29 hs ((by have q_:=fCmp q q (hq.mono oM) (hq.mono oM) _ _ hs.g;rw[cmpR_selfM] at q_;exact q_)) (fun w9 _ hs=>lL hs [.v 30 qT,.v 31 qT,.m 32 31,.v 33 (qP b1 8),.o 34 (qS A ps.length c) 1 8 1,.v 35 (qP b4 8),.o 36 (qS A ps.length c) 0 8 1] (lCval 37 hs (tEqF sm d ih A c ps ks hlp hW _ _ hs.g hs.f.2.1 hs.f.1) (fun _ _ hs=>lL hs [.v 38 qT,.m 4 38] (lNkXr hs [] qT rfl)))))
theorem tSameM (sm:ByteArray→Prop):∀ (d:Nat) (p:PTm) (t:Tm) (w:World) (h:Hp),G w h→TmH d h p t→SmT sm d t→Calls Tryz.prog 16 #[ptv p,ptv p] w (Ret w h (fun v _=>v=.bool true))
  | 0,_,_,_,_,_,x,_=>x.elim
  | d+1,p,t,w,h,g,x,wf=>by
    obtain ⟨op,n,q,s,A,c,ps,ks,rfl,rfl,hc,hK,hKs⟩:=x.open;obtain ⟨s1,s2,s3,s4,s5,s6⟩:=wf;have s1_:ks.length≤3:=s1;exact tSameMS sm d (fun p t w h=>tSameM sm d p t w h) op n q s A c ps ks hc (by have:=hKs.len;omega) s1 s2 s3 s4 s5 s6 w h g hK hKs
theorem mulbM {a n:Int}(h:0≤a∧a≤1073741824)(hn : -1000≤n∧n≤1000) : -1073741824000≤a*n∧a*n≤1073741824000:=by
  have h1:(a*n).natAbs≤1073741824*1000:=by rw[Int.natAbs_mul];exact Nat.mul_le_mul oM oM
  omega
theorem weighS_minM {op n:Int}{s:Nat}:min (weighS op n ((min s 1073741824:Nat):Int)) 1073741824=((min (wmul op n*s) 1073741824:Nat):Int):=by
  unfold weighS wmul timesN
  by_cases e11:op=11
  · rw[if_pos e11,if_pos e11];omega
  · rw[if_neg e11,if_neg e11]
    by_cases e8:op=8∧n≠0
    · rw[if_pos e8,if_pos e8.1]
      have e:(if n<0 then 0-n else n)=((if n.natAbs≤1 then 1 else n.natAbs:Nat):Int):=by have:=e8.2;split<;>split<;>omega
      rw[e]
      generalize hm:(if n.natAbs≤1 then 1 else n.natAbs)=m
      have hm1:1≤m:=by rw[←hm];split<;>omega
      rw[←Int.natCast_mul,Nat.mul_comm]
      rcases Nat.le_total s 1073741824 with h|h
      · rw[Nat.min_eq_left h];omega
      · rw[Nat.min_eq_right h]
        have a1:=Nat.le_mul_of_pos_left 1073741824 hm1;have a2:=Nat.le_trans h (Nat.le_mul_of_pos_left s hm1)
        omega
    · rw[if_neg e8]
      by_cases e9:op=8
      · rw[if_pos e9]
        have:n=0:=by by_cases z:n=0;exact z;exact absurd ⟨e9,z⟩ e8
        rw[this,if_pos kD];omega
      · rw[if_neg e9];omega
theorem rDeepMS  (sm:ByteArray→Prop)(d:Nat)(ih:∀ (r:RTm) (t:Tm) (w:World) (h:Hp),G w h→RmH d h r t→SmT sm d t→d≤1000→Calls Tryz.prog 13 #[rmv r] w (Ret w h (fun v _=>v=nV (dpt d t))))(op n:Int)(bq:Bool)(zA:Option Addr)(zn zc:Nat)(dA:Option Addr)(dn dc:Nat)(q:Rat)(s:ByteArray)(A:Option Addr)(c:Nat)(rs:List RTm)(ks:List Tm)(hc:rs.length≤c)(hk3:ks.length≤3)(hop : -1000≤op∧op≤1000)(hn : -1000≤n∧n≤1000)(hq:LQ 1 q)(hsm:sm s)(hW:∀ i,i<ks.length→SmT sm d (ks.getD i tm0))(hd:d+1≤1000)(w:World)(h:Hp)(g:G w h)(hZ:RZ h (bq,.slice zA zn zc,.slice dA dn dc) q)(hK:SlO 7 rmc rtm0 h A rs)(hKs:Rms d h rs ks):CV 13 #[.agg #[iV op,iV n,.bool bq,.slice zA zn zc,.slice dA dn dc,.string s,.slice A rs.length c]] w h (nV (dpt (d+1) (.mk op n q s ks))):=by
 have hs:=((((sS g).add (K:=fun h_=>RZ h_ (bq,qS zA zn zc,qS dA dn dc) q) hZ).aS hK).add (K:=fun h_=>Rms d h_ rs ks) hKs);have hln:=(hs.f.1).len;have hdb:∀ k,k≤ks.length→(maxN (fun i=>dpt d (ks.getD i tm0)) k)≤d:=fun k hk=>maxN_le k (fun i _=>dpt_le d _)
 have hdb2:=fun i=>dpt_le d (ks.getD i tm0)
 refine go Tryz.func13 [(0,.agg #[iV op,iV n,.bool bq,qS zA zn zc,qS dA dn dc,.string s,qS A rs.length c])] rfl (cSL (lA 1 31 ([iV op,iV n,.bool bq,qS zA zn zc,qS dA dn dc,.string s,qS A rs.length c]) hs (fun b1 w2 h3 hs=>lL hs [.v 2 (iV 0)] (lNS (lL hs [.v 3 (iV 0)] (lNcQ (cSLlL hs [.v 4 (iV 0)] (lNkZ ?_))))))));refine cTo _ (CG.loop (fun μ_ Γ w_=>∃ (k:Nat) (h_:Hp),μ_=rs.length-k∧Γ=[(1,pB b1),(2,iV 0),(4,nV k),(3,nV (maxN (fun i=>dpt d (ks.getD i tm0)) k))]∧SS w h w_ h_ [⟨b1,31,[iV op,iV n,.bool bq,qS zA zn zc,qS dA dn dc,.string s,qS A rs.length c]⟩] [] [fun h_=>Rms d h_ rs ks,fun h_=>SlO 7 rmc rtm0 h_ A rs,fun h_=>RZ h_ (bq,qS zA zn zc,qS dA dn dc) q]∧k≤rs.length) _ ⟨0,h3,rfl,rfl,hs.to _ _,Nat.zero_le _⟩ ?_);rintro _ _ w4 ⟨k,h5,hm6,rfl,hs,hk⟩;have hmx:(maxN (fun i=>dpt d (ks.getD i tm0)) (k+1))=max (maxN (fun i=>dpt d (ks.getD i tm0)) k) (dpt d (ks.getD k tm0)):=rfl;refine cQ (cSLlL hs [.m 5 4,.v 6 (qP b1 6),.o 7 (qS A rs.length c) 0 6 1,.v 8 (nV rs.length)] ?_);cases hb7:(decide ((k:Int)<(rs.length:Int)))
 ·
  have phb7:=oF hb7;refine lB 9 hb7 (lNIF (CG.exit ?_))
  show CG _ _ _ _ _ _ _ _
  refine cSLlL hs [.m 20 3] ?_;have hb1_:=hdb k oM;exact lIn 21 (((maxN (fun i=>dpt d (ks.getD i tm0)) k):Nat)+1) (((maxN (fun i=>dpt d (ks.getD i tm0)) k):Nat)+1) (lL hs [.m 2 21] (lNkXr hs [] (nV (((maxN (fun i=>dpt d (ks.getD i tm0)) k):Nat)+1)) (congrArg (fun n:Nat=>Value.int .i64 (n:Int)) (by rw[show k=ks.length by omega];rfl))))
 have phb7:=oT hb7;refine lB 9 hb7 (lNIT (cK (cQ (kZ (kQ (lL hs [.m 12 3,.v 13 (qP b1 6),.o 14 (qS A rs.length c) 0 6 1,.m 15 4] (lX 16 A rs.length c 7 (k:Nat) k ((hs.f.2.1).ok oM) ?_)))))));refine lH 17 (.agg #[iV ((rs.getD k rtm0).op),iV ((rs.getD k rtm0).n),.bool ((rs.getD k rtm0).neg),qS ((rs.getD k rtm0).zA) ((rs.getD k rtm0).zn) ((rs.getD k rtm0).zc),qS ((rs.getD k rtm0).dA) ((rs.getD k rtm0).dn) ((rs.getD k rtm0).dc),.string ((rs.getD k rtm0).s),qS ((rs.getD k rtm0).A) ((rs.getD k rtm0).m) ((rs.getD k rtm0).c)]) hs ((hs.f.2.1).el k oM) (lCval 18 hs (ih (rs.getD k rtm0) (ks.getD k tm0) _ _ hs.g ((hs.f.1).at_ k oM) (hW k oM) oM) (fun w8 h9 hs=>?_));have hb1_:=hdb k oM;have hb2_:=hdb2 k;refine lV 19 (nV (maxN (fun i=>dpt d (ks.getD i tm0)) (k+1))) ?_ (hr:=rint (n:=if (dpt d (ks.getD k tm0):Int)>((maxN (fun i=>dpt d (ks.getD i tm0)) k):Int) then (dpt d (ks.getD k tm0):Int) else ((maxN (fun i=>dpt d (ks.getD i tm0)) k):Int)) kR (by split<;>omega));refine lL hs [.m 3 19] (lN (kQ (lL hs [.m 10 4] (lIn 11 ((k:Nat)+1) (k+1) ?_))));refine lL hs [.m 4 11] (lD ?_);intro a_ ka;refine ⟨_,_,?_,⟨k+1,h9,rfl,rfl,hs.to _ _,oM⟩,ka.to _ kR⟩
 omega
theorem rDeepM (sm:ByteArray→Prop):∀ (d:Nat) (r:RTm) (t:Tm) (w:World) (h:Hp),G w h→RmH d h r t→SmT sm d t→d≤1000→Calls Tryz.prog 13 #[rmv r] w (Ret w h (fun v _=>v=nV (dpt d t)))
  | 0,_,_,_,_,_,x,_,_=>x.elim
  | d+1,r,t,w,h,g,x,wf,hd=>by
    obtain ⟨op,n,b,zA,zn,zc,dA,dn,dc,q,s,A,c,rs,ks,rfl,rfl,hZ,hc,hK,hKs⟩:=x.open;obtain ⟨s1,s2,s3,s4,s5,s6⟩:=wf;exact rDeepMS sm d (fun r t w h=>rDeepM sm d r t w h) op n b zA zn zc dA dn dc q s A c rs ks hc s1 s2 s3 s4 s5 s6 hd w h g hZ hK hKs
theorem rWeighM (op n sum:Int)(hs0:0≤sum∧sum≤1073741824)(hn:op=8 → -1000≤n∧n≤1000)(w:World)(h:Hp)(g:G w h):CV 34 #[iV op,iV n,iV sum] w h (iV (min (weighS op n sum) 1073741824)):=by
 have hs:=sS g;have hmn:min (sum:Int) (1073741824:Int)=sum:=by omega
 have hq1:=fun h8:op=8=>mulbM hs0 (hn h8)
 have hq2:=fun h8:op=8=>mulbM (n:=0-n) hs0 (by have:=hn h8;omega)
 rw[←hmn] at hq1 hq2
 have hq3:n≤0→(min (sum:Int) (1073741824:Int))*n≤0∧0≤(min (sum:Int) (1073741824:Int))*(0-n):=fun h_=>⟨Int.mul_nonpos_of_nonneg_of_nonpos oM h_,Int.mul_nonneg oM oM⟩
 have hq4:0≤n→0≤(min (sum:Int) (1073741824:Int))*n:=fun h_=>Int.mul_nonneg oM h_
 refine go Tryz.func34 [(0,iV op),(1,iV n),(2,iV sum)] rfl (cSLlL hs [.v 6 (iV 0)] (lNcQ (kZ (cSLlL hs [.m 8 0] ?_))));cases hb1:((op:Int) == (11:Int))
 ·
  have phb1:=neOfBeq hb1;refine lB 9 hb1 (lL hs [.m 7 9] (lNIF (cSLlL hs [.m 13 0] ?_)));cases hb2:((op:Int) == (8:Int))
  ·
   have phb2:=neOfBeq hb2;refine lB 14 hb2 (lL hs [.m 15 14] (lG 16 ?_));refine lG 17 (lL hs [.v 18 qF,.m 12 18] (lNIF (cK (cSLlL hs [.m 33 2] (lV 34 (iV (min (sum:Int) (1073741824:Int))) ?_ (hr:=rint (n:=(if (1073741824:Int)<(sum:Int) then (1073741824:Int) else (sum:Int))) kR (by simp only[imin2])))))));exact lL hs [.m 6 34] (lNkXr hs [] (iV (min (sum:Int) (1073741824:Int))) (congrArg (Value.int .i64) (by unfold weighS;first|(rw[if_pos oM]<;>omega)|(rw[if_neg oM,if_pos oM,if_pos oM]<;>rw[hmn] at * <;> omega)|(rw[if_neg oM,if_pos oM,if_neg oM]<;>rw[hmn] at * <;> omega)|(rw[if_neg oM,if_neg oM]<;>omega))))
  have phb2:=eq_of_beq hb2;refine lB 14 hb2 (lL hs [.m 15 14,.m 16 1] ?_);cases hb3:((n:Int) != (0:Int))
  ·
   have phb3:=eqOfBne hb3;refine lB 17 hb3 (lL hs [.v 18 qF,.m 12 18] (lNIF (cK (cSLlL hs [.m 33 2] (lV 34 (iV (min (sum:Int) (1073741824:Int))) ?_ (hr:=rint (n:=(if (1073741824:Int)<(sum:Int) then (1073741824:Int) else (sum:Int))) kR (by simp only[imin2])))))));exact lL hs [.m 6 34] (lNkXr hs [] (iV (min (sum:Int) (1073741824:Int))) (congrArg (Value.int .i64) (by unfold weighS;first|(rw[if_pos oM]<;>omega)|(rw[if_neg oM,if_pos oM,if_pos oM]<;>rw[hmn] at * <;> omega)|(rw[if_neg oM,if_pos oM,if_neg oM]<;>rw[hmn] at * <;> omega)|(rw[if_neg oM,if_neg oM]<;>omega))))
  have phb3:=neOfBne hb3;refine lB 17 hb3 (lL hs [.v 18 qT,.m 12 18] (lNIT (cQ (cSLlL hs [.m 19 1] ?_))));cases hb4:(decide ((n:Int)<(0:Int)))
  ·
   have phb4:=oF hb4;refine lB 20 hb4 (lNIF (cK (cQ (cSLlL hs [.m 23 1] ?_))));have ⟨hb5,phb5⟩:=dF (p:=(n:Int)<(0:Int)) oM;refine lB 24 hb5 (lL hs [.m 25 24,.m 26 1] ?_);cases hb6:(decide ((1073741824:Int)<(n:Int)))
   ·
    have phb6:=oF hb6;refine lB 27 hb6 (lL hs [.v 28 qF] (lNIF (cK (kQ (lL hs [.m 29 2] (lV 30 (iV (min (sum:Int) (1073741824:Int))) ?_ (hr:=rint (n:=(if (1073741824:Int)<(sum:Int) then (1073741824:Int) else (sum:Int))) kR (by simp only[imin2]))))))));refine lL hs [.m 31 1] (lI 32 ((min (sum:Int) (1073741824:Int))*n) ?_);refine lL hs [.m 2 32] (lNS (lL hs [.m 33 2] (lV 34 (iV (min ((min (sum:Int) (1073741824:Int))*n:Int) (1073741824:Int))) ?_ (hr:=rint (n:=(if (1073741824:Int)<((min (sum:Int) (1073741824:Int))*n:Int) then (1073741824:Int) else ((min (sum:Int) (1073741824:Int))*n:Int))) kR (by simp only[imin2])))));exact lL hs [.m 6 34] (lNkXr hs [] (iV (min ((min (sum:Int) (1073741824:Int))*n:Int) (1073741824:Int))) (congrArg (Value.int .i64) (by unfold weighS;first|(rw[if_pos oM]<;>omega)|(rw[if_neg oM,if_pos oM,if_pos oM]<;>rw[hmn] at * <;> omega)|(rw[if_neg oM,if_pos oM,if_neg oM]<;>rw[hmn] at * <;> omega)|(rw[if_neg oM,if_neg oM]<;>omega))))
   have phb6:=oT hb6;refine lB 27 hb6 (lL hs [.v 28 qT] (lNIT (kQ (lL hs [.v 1 (iV 1073741824)] (lN (kQ (lL hs [.m 29 2] (lV 30 (iV (min (sum:Int) (1073741824:Int))) ?_ (hr:=rint (n:=(if (1073741824:Int)<(sum:Int) then (1073741824:Int) else (sum:Int))) kR (by simp only[imin2]))))))))));refine lL hs [.m 31 1] (lI 32 ((min (sum:Int) (1073741824:Int))*1073741824) ?_);refine lL hs [.m 2 32] (lNS (lL hs [.m 33 2] (lV 34 (iV (min ((min (sum:Int) (1073741824:Int))*1073741824:Int) (1073741824:Int))) ?_ (hr:=rint (n:=(if (1073741824:Int)<((min (sum:Int) (1073741824:Int))*1073741824:Int) then (1073741824:Int) else ((min (sum:Int) (1073741824:Int))*1073741824:Int))) kR (by simp only[imin2])))));exact lL hs [.m 6 34] (lNkXr hs [] (iV (min ((min (sum:Int) (1073741824:Int))*1073741824:Int) (1073741824:Int))) (congrArg (Value.int .i64) (by unfold weighS;first|(rw[if_pos oM]<;>omega)|(rw[if_neg oM,if_pos oM,if_pos oM]<;>rw[hmn] at * <;> omega)|(rw[if_neg oM,if_pos oM,if_neg oM]<;>rw[hmn] at * <;> omega)|(rw[if_neg oM,if_neg oM]<;>omega))))
  have phb4:=oT hb4;refine lB 20 hb4 (lNIT (kQ (lL hs [.m 21 1] (lI 22 (0-n) ?_))));refine lL hs [.m 1 22] (lNcQ (cSLlL hs [.m 23 1] ?_));cases hb7:(decide ((0-n:Int)<(0:Int)))
  ·
   have phb7:=oF hb7;refine lB 24 hb7 (lL hs [.m 25 24,.m 26 1] ?_);cases hb8:(decide ((1073741824:Int)<(0-n:Int)))
   ·
    have phb8:=oF hb8;refine lB 27 hb8 (lL hs [.v 28 qF] (lNIF (cK (kQ (lL hs [.m 29 2] (lV 30 (iV (min (sum:Int) (1073741824:Int))) ?_ (hr:=rint (n:=(if (1073741824:Int)<(sum:Int) then (1073741824:Int) else (sum:Int))) kR (by simp only[imin2]))))))));refine lL hs [.m 31 1] (lI 32 ((min (sum:Int) (1073741824:Int))*(0-n)) ?_);refine lL hs [.m 2 32] (lNS (lL hs [.m 33 2] (lV 34 (iV (min ((min (sum:Int) (1073741824:Int))*(0-n):Int) (1073741824:Int))) ?_ (hr:=rint (n:=(if (1073741824:Int)<((min (sum:Int) (1073741824:Int))*(0-n):Int) then (1073741824:Int) else ((min (sum:Int) (1073741824:Int))*(0-n):Int))) kR (by simp only[imin2])))));exact lL hs [.m 6 34] (lNkXr hs [] (iV (min ((min (sum:Int) (1073741824:Int))*(0-n):Int) (1073741824:Int))) (congrArg (Value.int .i64) (by unfold weighS;first|(rw[if_pos oM]<;>omega)|(rw[if_neg oM,if_pos oM,if_pos oM]<;>rw[hmn] at * <;> omega)|(rw[if_neg oM,if_pos oM,if_neg oM]<;>rw[hmn] at * <;> omega)|(rw[if_neg oM,if_neg oM]<;>omega))))
   have phb8:=oT hb8;refine lB 27 hb8 (lL hs [.v 28 qT] (lNIT (kQ (lL hs [.v 1 (iV 1073741824)] (lN (kQ (lL hs [.m 29 2] (lV 30 (iV (min (sum:Int) (1073741824:Int))) ?_ (hr:=rint (n:=(if (1073741824:Int)<(sum:Int) then (1073741824:Int) else (sum:Int))) kR (by simp only[imin2]))))))))));refine lL hs [.m 31 1] (lI 32 ((min (sum:Int) (1073741824:Int))*1073741824) ?_);refine lL hs [.m 2 32] (lNS (lL hs [.m 33 2] (lV 34 (iV (min ((min (sum:Int) (1073741824:Int))*1073741824:Int) (1073741824:Int))) ?_ (hr:=rint (n:=(if (1073741824:Int)<((min (sum:Int) (1073741824:Int))*1073741824:Int) then (1073741824:Int) else ((min (sum:Int) (1073741824:Int))*1073741824:Int))) kR (by simp only[imin2])))));exact lL hs [.m 6 34] (lNkXr hs [] (iV (min ((min (sum:Int) (1073741824:Int))*1073741824:Int) (1073741824:Int))) (congrArg (Value.int .i64) (by unfold weighS;first|(rw[if_pos oM]<;>omega)|(rw[if_neg oM,if_pos oM,if_pos oM]<;>rw[hmn] at * <;> omega)|(rw[if_neg oM,if_pos oM,if_neg oM]<;>rw[hmn] at * <;> omega)|(rw[if_neg oM,if_neg oM]<;>omega))))
  have phb7:=oT hb7;refine lB 24 hb7 (lL hs [.m 25 24] (lG 26 ?_));refine lG 27 (lL hs [.v 28 qT] (lNIT (kQ (lL hs [.v 1 (iV 1073741824)] (lN (kQ (lL hs [.m 29 2] (lV 30 (iV (min (sum:Int) (1073741824:Int))) ?_ (hr:=rint (n:=(if (1073741824:Int)<(sum:Int) then (1073741824:Int) else (sum:Int))) kR (by simp only[imin2]))))))))));refine lL hs [.m 31 1] (lI 32 ((min (sum:Int) (1073741824:Int))*1073741824) ?_);refine lL hs [.m 2 32] (lNS (lL hs [.m 33 2] (lV 34 (iV (min ((min (sum:Int) (1073741824:Int))*1073741824:Int) (1073741824:Int))) ?_ (hr:=rint (n:=(if (1073741824:Int)<((min (sum:Int) (1073741824:Int))*1073741824:Int) then (1073741824:Int) else ((min (sum:Int) (1073741824:Int))*1073741824:Int))) kR (by simp only[imin2])))));exact lL hs [.m 6 34] (lNkXr hs [] (iV (min ((min (sum:Int) (1073741824:Int))*1073741824:Int) (1073741824:Int))) (congrArg (Value.int .i64) (by unfold weighS;first|(rw[if_pos oM]<;>omega)|(rw[if_neg oM,if_pos oM,if_pos oM]<;>rw[hmn] at * <;> omega)|(rw[if_neg oM,if_pos oM,if_neg oM]<;>rw[hmn] at * <;> omega)|(rw[if_neg oM,if_neg oM]<;>omega))))
 have phb1:=eq_of_beq hb1;refine lB 9 hb1 (lL hs [.m 7 9] (lNIT (kQ (lL hs [.m 10 2] (lI 11 (2*sum) ?_)))));refine lL hs [.m 2 11] (lNS (lL hs [.m 33 2] (lV 34 (iV (min (2*sum:Int) (1073741824:Int))) ?_ (hr:=rint (n:=(if (1073741824:Int)<(2*sum:Int) then (1073741824:Int) else (2*sum:Int))) kR (by simp only[imin2])))));exact lL hs [.m 6 34] (lNkXr hs [] (iV (min (2*sum:Int) (1073741824:Int))) (congrArg (Value.int .i64) (by unfold weighS;first|(rw[if_pos oM]<;>omega)|(rw[if_neg oM,if_pos oM,if_pos oM]<;>rw[hmn] at * <;> omega)|(rw[if_neg oM,if_pos oM,if_neg oM]<;>rw[hmn] at * <;> omega)|(rw[if_neg oM,if_neg oM]<;>omega))))
theorem rHeavyMS  (sm:ByteArray→Prop)(d:Nat)(ih:∀ (r:RTm) (t:Tm) (w:World) (h:Hp),G w h→RmH d h r t→SmT sm d t →  Calls Tryz.prog 15 #[rmv r] w (Ret w h (fun v _=>v=iV ((min (wgt d t) 1073741824:Nat):Int))))(op n:Int)(bq:Bool)(zA:Option Addr)(zn zc:Nat)(dA:Option Addr)(dn dc:Nat)(q:Rat)(s:ByteArray)(A:Option Addr)(c:Nat)(rs:List RTm)(ks:List Tm)(hc:rs.length≤c)(hk3:ks.length≤3)(hop : -1000≤op∧op≤1000)(hn : -1000≤n∧n≤1000)(hq:LQ 1 q)(hsm:sm s)(hW:∀ i,i<ks.length→SmT sm d (ks.getD i tm0))(w:World)(h:Hp)(g:G w h)(hZ:RZ h (bq,.slice zA zn zc,.slice dA dn dc) q)(hK:SlO 7 rmc rtm0 h A rs)(hKs:Rms d h rs ks):CV 15 #[.agg #[iV op,iV n,.bool bq,.slice zA zn zc,.slice dA dn dc,.string s,.slice A rs.length c]] w h (iV ((min (wgt (d+1) (.mk op n q s ks)) 1073741824:Nat):Int)):=by
 have hs:=((((sS g).add (K:=fun h_=>RZ h_ (bq,qS zA zn zc,qS dA dn dc) q) hZ).aS hK).add (K:=fun h_=>Rms d h_ rs ks) hKs);have hln:=(hs.f.1).len;refine go Tryz.func15 [(0,.agg #[iV op,iV n,.bool bq,qS zA zn zc,qS dA dn dc,.string s,qS A rs.length c])] rfl (cSL (lA 1 31 ([iV op,iV n,.bool bq,qS zA zn zc,qS dA dn dc,.string s,qS A rs.length c]) hs (fun b1 w2 h3 hs=>lL hs [.v 2 (iV 0)] (lNcQ (cSLlL hs [.v 5 (qP b1 6),.o 6 (qS A rs.length c) 0 6 1,.v 7 (nV rs.length)] ?_)))));cases hb4:((rs.length:Int) == (0:Int))
 ·
  have phb4:=neOfBeq hb4;refine lB 8 hb4 (lNIF (cK (cSLlL hs [.v 3 (iV 0)] (lNcQ (cSLlL hs [.v 4 (iV 0)] (lNkZ ?_))))));refine cTo _ (CG.loop (fun μ_ Γ w_=>∃ (k:Nat) (sw:Nat) (h_:Hp),μ_=rs.length-k∧Γ=[(1,pB b1),(2,iV 0),(4,nV k),(3,nV sw)]∧SS w h w_ h_ [⟨b1,31,[iV op,iV n,.bool bq,qS zA zn zc,qS dA dn dc,.string s,qS A rs.length c]⟩] [] [fun h_=>Rms d h_ rs ks,fun h_=>SlO 7 rmc rtm0 h_ A rs,fun h_=>RZ h_ (bq,qS zA zn zc,qS dA dn dc) q]∧k≤rs.length∧sw=min (sumN (fun i=>wgt d (ks.getD i tm0)) k) 1073741824) _ ⟨0,0,h3,rfl,rfl,hs.to _ _,Nat.zero_le _,rfl⟩ ?_);rintro _ _ w5 ⟨k,sw,h6,hm7,rfl,hs,hk,hsw_⟩;have hs1:(sumN (fun i=>wgt d (ks.getD i tm0)) (k+1))=(sumN (fun i=>wgt d (ks.getD i tm0)) k)+wgt d (ks.getD k tm0):=rfl;refine cQ (cSLlL hs [.m 9 4,.v 10 (qP b1 6),.o 11 (qS A rs.length c) 0 6 1,.v 12 (nV rs.length)] ?_);cases hb8:(decide ((k:Int)<(rs.length:Int)))
  ·
   have phb8:=oF hb8;refine lB 13 hb8 (lNIF (CG.exit ?_))
   show CG _ _ _ _ _ _ _ _
   refine cSLlL hs [.v 25 (pB b1),.o 26 (iV op) 0 0 1,.v 27 (qP b1 1),.o 28 (iV n) 0 1 1,.m 29 3] (lCval 30 hs (rWeighM op n (sw:Nat) oM (fun _=>hn) _ _ hs.g) (fun w9 _ hs=>lL hs [.m 2 30] (lN (kX ?_))));have hkn:k=ks.length:=by omega
   have hw_:=wgt_s (d:=d) (op:=op) (n:=n) (q:=q) (s:=s) (ks:=ks) oM;rw[hkn] at hsw_
   exact hs.ret [] (iV (min (weighS op n (sw:Nat)) 1073741824)) (congrArg (Value.int .i64) (by rw[hw_,hsw_];exact weighS_minM))
  have phb8:=oT hb8;refine lB 13 hb8 (lNIT (cK (cQ (kZ (kQ (lL hs [.m 16 3,.v 17 (qP b1 6),.o 18 (qS A rs.length c) 0 6 1,.m 19 4] (lX 20 A rs.length c 7 (k:Nat) k ((hs.f.2.1).ok oM) ?_)))))));refine lH 21 (.agg #[iV ((rs.getD k rtm0).op),iV ((rs.getD k rtm0).n),.bool ((rs.getD k rtm0).neg),qS ((rs.getD k rtm0).zA) ((rs.getD k rtm0).zn) ((rs.getD k rtm0).zc),qS ((rs.getD k rtm0).dA) ((rs.getD k rtm0).dn) ((rs.getD k rtm0).dc),.string ((rs.getD k rtm0).s),qS ((rs.getD k rtm0).A) ((rs.getD k rtm0).m) ((rs.getD k rtm0).c)]) hs ((hs.f.2.1).el k oM) (lCval 22 hs (ih (rs.getD k rtm0) (ks.getD k tm0) _ _ hs.g ((hs.f.1).at_ k oM) (hW k oM)) (fun _ za hs=>lI 23 ((sw:Nat)+((min (wgt d (ks.getD k tm0)) 1073741824:Nat):Int)) (lV 24 (iV ((min (sumN (fun i=>wgt d (ks.getD i tm0)) (k+1)) 1073741824:Nat):Int)) ?_ (hr:=rint (n:=if (1073741824:Int)<((sw:Nat)+((min (wgt d (ks.getD k tm0)) 1073741824:Nat):Int)) then (1073741824:Int) else ((sw:Nat)+((min (wgt d (ks.getD k tm0)) 1073741824:Nat):Int))) kR (by split<;>omega)))));refine lL hs [.m 3 24] (lN (kQ (lL hs [.m 14 4] (lIn 15 ((k:Nat)+1) (k+1) ?_))));refine lL hs [.m 4 15] (lD ?_);intro a_ ka;refine ⟨_,_,?_,⟨k+1,(min (sumN (fun i=>wgt d (ks.getD i tm0)) (k+1)) 1073741824),za,rfl,rfl,hs.to _ _,oM,rfl⟩,ka.to _ kR⟩
  omega
 have phb4:=eq_of_beq hb4;exact lB 8 hb4 (lNIT (cSLlL hs [.v 2 (iV 1)] (lNkXr hs [] (iV 1) (congrArg (Value.int .i64) (by rw[wgt_0 oM];rfl)))))
theorem rHeavyM (sm:ByteArray→Prop):∀ (d:Nat) (r:RTm) (t:Tm) (w:World) (h:Hp),G w h→RmH d h r t→SmT sm d t →  Calls Tryz.prog 15 #[rmv r] w (Ret w h (fun v _=>v=iV ((min (wgt d t) 1073741824:Nat):Int)))
  | 0,_,_,_,_,_,x,_=>x.elim
  | d+1,r,t,w,h,g,x,wf=>by
    obtain ⟨op,n,b,zA,zn,zc,dA,dn,dc,q,s,A,c,rs,ks,rfl,rfl,hZ,hc,hK,hKs⟩:=x.open;obtain ⟨s1,s2,s3,s4,s5,s6⟩:=wf;exact rHeavyMS sm d (fun r t w h=>rHeavyM sm d r t w h) op n b zA zn zc dA dn dc q s A c rs ks hc s1 s2 s3 s4 s5 s6 w h g hZ hK hKs
theorem rNamesMS  (sm:ByteArray→Prop)(d:Nat)(ih:∀ (r:RTm) (t:Tm) (uA:Option Addr) (uc:Nat) (us:List ByteArray) (w:World) (h:Hp),G w h→RmH d h r t→SmT sm d t→us.length≤uc→SlO 1 strc ⟨#[]⟩ h uA us→RisN us→us.length+cntT d t≤1000000→Calls Tryz.prog 26 #[rmv r,.slice uA us.length uc] w (Ret w h (fun v h1=>∃ A_ c_,∃ nss:List ByteArray,v=.slice A_ nss.length c_∧nss.length≤c_∧nss.length≤us.length+cntT d t∧SlO 1 strc ⟨#[]⟩ h1 A_ nss∧(∀ x,x∈nss↔(x∈us∨HasN d t x))∧RisN nss)))(op n:Int)(bq:Bool)(zA:Option Addr)(zn zc:Nat)(dA:Option Addr)(dn dc:Nat)(q:Rat)(s:ByteArray)(A:Option Addr)(c:Nat)(rs:List RTm)(ks:List Tm)(hc:rs.length≤c)(uA:Option Addr)(uc:Nat)(us:List ByteArray)(hk3:ks.length≤3)(hW:∀ i,i<ks.length→SmT sm d (ks.getD i tm0))(huc:us.length≤uc)(hris:RisN us)(hb:us.length+(1+(sumN (fun i=>cntT d (ks.getD i tm0)) ks.length))≤1000000)(w:World)(h:Hp)(g:G w h)(hZ:RZ h (bq,.slice zA zn zc,.slice dA dn dc) q)(hK:SlO 7 rmc rtm0 h A rs)(hKs:Rms d h rs ks)(hL:SlO 1 strc ⟨#[]⟩ h uA us):CR 26 #[.agg #[iV op,iV n,.bool bq,.slice zA zn zc,.slice dA dn dc,.string s,.slice A rs.length c],.slice uA us.length uc] w h (fun v h1=>∃ A_ c_,∃ nss:List ByteArray,v=.slice A_ nss.length c_∧nss.length≤c_∧nss.length≤us.length+cntT (d+1) (.mk op n q s ks)∧SlO 1 strc ⟨#[]⟩ h1 A_ nss∧(∀ x,x∈nss↔(x∈us∨HasN (d+1) (.mk op n q s ks) x))∧RisN nss):=by
 have hs:=(((((sS g).add (K:=fun h_=>RZ h_ (bq,qS zA zn zc,qS dA dn dc) q) hZ).aS hK).add (K:=fun h_=>Rms d h_ rs ks) hKs).aS hL);have hln:=(hs.f.2.1).len;refine go Tryz.func26 [(0,.agg #[iV op,iV n,.bool bq,qS zA zn zc,qS dA dn dc,.string s,qS A rs.length c]),(1,qS uA us.length uc)] rfl (cSL (lA 2 31 ([iV op,iV n,.bool bq,qS zA zn zc,qS dA dn dc,.string s,qS A rs.length c]) hs (fun b1 w2 h3 hs=>?_)));refine lL hs [.v 4 (sZ)] (lN (CG.join (fun Γ w_=>∃ (mA:Option Addr) (mc:Nat) (ms:List ByteArray) (h_:Hp),Γ=[(2,pB b1),(4,sZ),(1,qS mA ms.length mc)]∧SS w h w_ h_ [⟨b1,31,[iV op,iV n,.bool bq,qS zA zn zc,qS dA dn dc,.string s,qS A rs.length c]⟩] [] [fun h_=>SlO 1 strc ⟨#[]⟩ h_ mA ms,fun h_=>SlO 1 strc ⟨#[]⟩ h_ uA us,fun h_=>Rms d h_ rs ks,fun h_=>SlO 7 rmc rtm0 h_ A rs,fun h_=>RZ h_ (bq,qS zA zn zc,qS dA dn dc) q]∧ms.length≤mc∧ms.length≤us.length+1∧(∀ x,x∈ms↔(x∈us∨(op=2∧x=s)))∧RisN ms) ?_ ?_))
 ·
  refine cSLlL hs [.v 7 (pB b1),.o 8 (iV op) 0 0 1] ?_;cases hb4:((op:Int) == (2:Int))
  ·
   have phb4:=neOfBeq hb4;refine lB 9 hb4 (lNIF (CG.skip ?_));intro a_ ka;replace hs:=(hs.add (K:=fun h_=>SlO 1 strc ⟨#[]⟩ h_ uA us) hs.f.1);exact ⟨_,⟨uA,uc,us,h3,rfl,hs.to _ _,huc,oM,(mem_not oM),hris⟩,ka.to _ kR⟩
  have phb4:=eq_of_beq hb4;refine lB 9 hb4 ?_;refine lNIT (cSLlL hs [.v 5 (iV 0)] (lN (CG.join (fun Γ w_=>∃ (j:Nat) (h_:Hp),Γ=[(1,qS uA us.length uc),(2,pB b1),(4,sZ),(5,nV j)]∧SS w h w_ h_ [⟨b1,31,[iV op,iV n,.bool bq,qS zA zn zc,qS dA dn dc,.string s,qS A rs.length c]⟩] [] [fun h_=>SlO 1 strc ⟨#[]⟩ h_ uA us,fun h_=>Rms d h_ rs ks,fun h_=>SlO 7 rmc rtm0 h_ A rs,fun h_=>RZ h_ (bq,qS zA zn zc,qS dA dn dc) q]∧j≤us.length∧(∀ i_,i_<j→strL (us.getD i_ ⟨#[]⟩) s=true)∧(j=us.length∨strL (us.getD j ⟨#[]⟩) s=false)) ?_ ?_)))
  ·
   refine kZ ?_;refine cTo _ (CG.loop (fun μ_ Γ w_=>∃ (i:Nat) (h_:Hp),μ_=us.length-i∧Γ=[(1,qS uA us.length uc),(2,pB b1),(4,sZ),(5,nV i)]∧SS w h w_ h_ [⟨b1,31,[iV op,iV n,.bool bq,qS zA zn zc,qS dA dn dc,.string s,qS A rs.length c]⟩] [] [fun h_=>SlO 1 strc ⟨#[]⟩ h_ uA us,fun h_=>Rms d h_ rs ks,fun h_=>SlO 7 rmc rtm0 h_ A rs,fun h_=>RZ h_ (bq,qS zA zn zc,qS dA dn dc) q]∧i≤us.length∧(∀ i_,i_<i→strL (us.getD i_ ⟨#[]⟩) s=true)) _ ⟨0,h3,rfl,rfl,hs.to _ _,Nat.zero_le _,(fun i_ h_=>absurd h_ (Nat.not_lt_zero i_))⟩ ?_);rintro _ _ _ ⟨i,_,hm12,rfl,hs,hi,hlt⟩;refine cQ (cQ (cR 13 [] mixed hs al_nil ?_));refine eV 0 10 (nV i) (eV 1 11 (qS uA us.length uc) (eV 2 12 (nV us.length) ?_));cases zb:(decide ((i:Int)<(us.length:Int)))
   ·
    have zm:=oF zb;refine eB 3 13 zb (eV 4 14 qF (eG 5 15 (eG 6 16 (eG 7 17 (eG 8 18 (eG 9 19 (eG 10 20 (eG 11 21 (eV 12 22 qF (eD0 hs (fun _ zu hs=>tN (cIF (CG.exit ?_)))))))))))));intro a_ ka;exact ⟨_,⟨i,zu,rfl,hs.to _ _,oM,hlt,(by first|exact .inl oM|exact .inr aM)⟩,ka.to _ kR⟩
   have zm:=oT zb;refine eB 3 13 zb (eV 4 14 qT (eV 5 15 (qS uA us.length uc) (eV 6 16 (nV i) (eX 7 17 uA us.length uc 1 (i:Nat) i ((hs.f.1).ok oM) (eH 8 18 (.string (us.getD i ⟨#[]⟩)) hs ((hs.f.1).el i oM) (eV 9 19 (qP b1 5) (eO 10 20 [(0,5,1)] (.string s) hs ?_)))))));cases zi:(strL (us.getD i ⟨#[]⟩) s)
   ·
    refine eB 11 21 zi (eV 12 22 qF (eD0 hs (fun _ zv hs=>tN (cIF (CG.exit ?_)))));intro a_ ka;exact ⟨_,⟨i,zv,rfl,hs.to _ _,oM,hlt,(by first|exact .inl oM|exact .inr aM)⟩,ka.to _ kR⟩
   refine eB 11 21 zi (eV 12 22 qT (eD0 hs (fun _ zw hs=>tN (cIT (cK (kZ (kQ (lL hs [.m 23 5] (lIn 24 ((i:Nat)+1) (i+1) ?_)))))))));refine lL hs [.m 5 24] (lD ?_);intro a_ ka;refine ⟨_,_,?_,⟨i+1,zw,rfl,rfl,hs.to _ _,oM,(fun i_ h_=>by rcases Nat.lt_succ_iff_lt_or_eq.1 h_ with h2_|rfl;exact hlt i_ h2_;assumption)⟩,ka.to _ kR⟩
   omega
  rintro _ _ ⟨j,_,rfl,hs,hj,hjl,hje⟩;refine cQ (cR 13 [] mixed hs al_nil ?_);refine eV 0 25 (nV j) (eV 1 26 (qS uA us.length uc) (eV 2 27 (nV us.length) ?_));cases zd:((j:Int) == (us.length:Int))
  ·
   have zo:=neOfBeq zd;refine eB 3 28 zd (eV 4 29 qF (eV 5 30 (qS uA us.length uc) (eV 6 31 (nV j) (eX 7 32 uA us.length uc 1 (j:Nat) j ((hs.f.1).ok oM) (eH 8 33 (.string (us.getD j ⟨#[]⟩)) hs ((hs.f.1).el j oM) (eV 9 34 (qP b1 5) (eO 10 35 [(0,5,1)] (.string s) hs ?_)))))));cases ze:(strQn (us.getD j ⟨#[]⟩) s)
   ·
    have zp:=strQn_f ze;refine eB 11 36 ze (eV 12 37 qF (eD0 hs (fun _ zx hs=>tN (cIF (CG.skip ?_)))));intro a_ ka;replace hs:=(hs.add (K:=fun h_=>SlO 1 strc ⟨#[]⟩ h_ uA us) hs.f.1);exact ⟨_,⟨uA,uc,us,zx,rfl,hs.to _ _,huc,oM,(mem_fnd (i:=j) oM aM),hris⟩,ka.to _ kR⟩
   have zp:=strQn_t ze;refine eB 11 36 ze (eV 12 37 qT (eD0 hs (fun zB _ hs=>tN (cIT ?_))));obtain ⟨K_,hK_⟩:∃ K_,K_=zB.heap.size:=⟨_,rfl⟩;have hk_b1:b1<K_:=by rw[hK_];exact zblk hs 0
   refine cRa ⟨[],some (K_,[])⟩ 0 mixed ?_;have hszK:=hs.g.size;replace hs:=hs.drew;have hKl:=Nat.le_of_eq hK_;refine zV 1 39 (qS uA us.length uc) (zV 2 40 (nV j) ?_);have hl1_:(us.take j).length=j:=by rw[List.length_take];omega
   have hl2_:(us.drop j).length=us.length-j:=List.length_drop;have hl3_:(us.take j++[s]).length=j+1:=by rw[List.length_append,hl1_];rfl
   have hl4_:(us.take j++[s]++us.drop j).length=us.length+1:=by rw[List.length_append,hl3_,hl2_];omega
   refine zT 3 41 uA us.length uc 1 (j:Nat) j ?_;replace hs:=hs.aS ((hs.f.1).take j);refine zV 5 43 (qP b1 5) (zO 6 44 [(0,5,1)] (.string s) rfl hKl hs (fun p hp=>by obtain rfl:=List.mem_singleton.1 hp;exact hk_b1) (zV 9 47 (qS uA us.length uc) (zV 10 48 (nV j) (zF 11 49 uA us.length uc 1 (j:Nat) j ?_))));replace hs:=hs.aS ((hs.f.2.1).drop j uc huc);refine zR3 0 7 4 38 45 42 9 9 1 strc ⟨#[]⟩ 1 ([.string s]) uA (us.take j) j uc 16 (eS) rfl hKl hs (fun _ f_=>f_.2.1) (fun b42 zD zE zG _ _ hKv49 hKl hs=>?_) (hn:=by simp only[List.length_take,List.length_drop]<;>omega);refine zY1 8 46 0 9 1 zE zD (us.take j) strc s 16 zG (eS) rfl hKl hKv49 hs hs.f.1 (fun zH zI _ _ hKv55 hKl hs=>zYa 12 50 0 9 1 zI zH (us.take j++[s]) strc ⟨#[]⟩ (if uc=j then uA else uA.map (·.add (j*1))) (us.drop j) (us.length-j) (uc-j) 16 (eS) rfl hKl hKv55 hs hs.f.2.1 (fun zf zj _ _ hKl hs=>?_) (hn:=by simp only[List.length_take,List.length_drop]<;>omega));refine zV 13 1 (qS zf ((us.take j++[s]++(us.drop j)).length) zj) (tD ?_);obtain ⟨zJ,hs,zq⟩:=hs.pubr 0 (A:=zf) (c:=zj) (l:=us.take j++[s]++(us.drop j)) (f:=strc) (ty:=9) (sz:=1) (⟨#[]⟩) (fun _=>rfl);intro a_ ka;replace hs:=(hs.tl.tl.tl.tl.add (K:=fun h_=>SlO 1 strc ⟨#[]⟩ h_ zf (us.take j++[s]++(us.drop j))) hs.f.1);exact ⟨_,⟨zf,zj,us.take j++[s]++(us.drop j),zJ,rfl,hs.to _ _,zq,(by rw[hl4_];omega),(mem_ins oM),(ris_ins hris hjl hj (by first|exact .inl oM|exact .inr ⟨hje.resolve_left oM,by assumption⟩))⟩,ka.to _ kR⟩
  have zo:=eq_of_beq zd;refine eB 3 28 zd (eV 4 29 qT (eG 5 30 (eG 6 31 (eG 7 32 (eG 8 33 (eG 9 34 (eG 10 35 (eG 11 36 (eV 12 37 qT (eD0 hs (fun zK _ hs=>tN (cIT ?_))))))))))));obtain ⟨K_,hK_⟩:∃ K_,K_=zK.heap.size:=⟨_,rfl⟩;have hk_b1:b1<K_:=by rw[hK_];exact zblk hs 0
  refine cRa ⟨[],some (K_,[])⟩ 0 mixed ?_;have hszK:=hs.g.size;replace hs:=hs.drew;have hKl:=Nat.le_of_eq hK_;refine zV 1 39 (qS uA us.length uc) (zV 2 40 (nV j) ?_);have hl1_:(us.take j).length=j:=by rw[List.length_take];omega
  have hl2_:(us.drop j).length=us.length-j:=List.length_drop;have hl3_:(us.take j++[s]).length=j+1:=by rw[List.length_append,hl1_];rfl
  have hl4_:(us.take j++[s]++us.drop j).length=us.length+1:=by rw[List.length_append,hl3_,hl2_];omega
  refine zT 3 41 uA us.length uc 1 (j:Nat) j ?_;replace hs:=hs.aS ((hs.f.1).take j);refine zV 5 43 (qP b1 5) (zO 6 44 [(0,5,1)] (.string s) rfl hKl hs (fun p hp=>by obtain rfl:=List.mem_singleton.1 hp;exact hk_b1) (zV 9 47 (qS uA us.length uc) (zV 10 48 (nV j) (zF 11 49 uA us.length uc 1 (j:Nat) j ?_))));replace hs:=hs.aS ((hs.f.2.1).drop j uc huc);refine zR3 0 7 4 38 45 42 9 9 1 strc ⟨#[]⟩ 1 ([.string s]) uA (us.take j) j uc 16 (eS) rfl hKl hs (fun _ f_=>f_.2.1) (fun b72 zL zM zN _ _ hKv79 hKl hs=>?_) (hn:=by simp only[List.length_take,List.length_drop]<;>omega);refine zY1 8 46 0 9 1 zM zL (us.take j) strc s 16 zN (eS) rfl hKl hKv79 hs hs.f.1 (fun zP zQ _ _ hKv85 hKl hs=>zYa 12 50 0 9 1 zQ zP (us.take j++[s]) strc ⟨#[]⟩ (if uc=j then uA else uA.map (·.add (j*1))) (us.drop j) (us.length-j) (uc-j) 16 (eS) rfl hKl hKv85 hs hs.f.2.1 (fun zg zk _ _ hKl hs=>?_) (hn:=by simp only[List.length_take,List.length_drop]<;>omega));refine zV 13 1 (qS zg ((us.take j++[s]++(us.drop j)).length) zk) (tD ?_);obtain ⟨zR,hs,zr⟩:=hs.pubr 0 (A:=zg) (c:=zk) (l:=us.take j++[s]++(us.drop j)) (f:=strc) (ty:=9) (sz:=1) (⟨#[]⟩) (fun _=>rfl);intro a_ ka;replace hs:=(hs.tl.tl.tl.tl.add (K:=fun h_=>SlO 1 strc ⟨#[]⟩ h_ zg (us.take j++[s]++(us.drop j))) hs.f.1);exact ⟨_,⟨zg,zk,us.take j++[s]++(us.drop j),zR,rfl,hs.to _ _,zr,(by rw[hl4_];omega),(mem_ins oM),(ris_ins hris hjl hj (by first|exact .inl oM|exact .inr ⟨hje.resolve_left oM,by assumption⟩))⟩,ka.to _ kR⟩
 rintro _ _ ⟨mA,mc,ms,zs,rfl,hs,hmc,hml,hmm,hmr⟩;refine cQ (cSLlL hs [.v 6 (iV 0)] (lNkZ ?_));replace hs:=hs.add (K:=fun h_=>SlO 1 strc ⟨#[]⟩ h_ mA ms) (hs.f.1);refine cTo _ (CG.loop (fun μ_ Γ w_=>∃ (k:Nat) (nA:Option Addr) (nc:Nat) (nss:List ByteArray) (h_:Hp),μ_=ks.length-k∧Γ=[(2,pB b1),(4,sZ),(6,nV k),(1,qS nA nss.length nc)]∧SS w h w_ h_ [⟨b1,31,[iV op,iV n,.bool bq,qS zA zn zc,qS dA dn dc,.string s,qS A rs.length c]⟩] [] [fun h_=>SlO 1 strc ⟨#[]⟩ h_ nA nss,fun h_=>SlO 1 strc ⟨#[]⟩ h_ mA ms,fun h_=>SlO 1 strc ⟨#[]⟩ h_ uA us,fun h_=>Rms d h_ rs ks,fun h_=>SlO 7 rmc rtm0 h_ A rs,fun h_=>RZ h_ (bq,qS zA zn zc,qS dA dn dc) q]∧k≤ks.length∧nss.length≤nc∧nss.length≤us.length+1+(sumN (fun i=>cntT d (ks.getD i tm0)) k)∧(∀ x,x∈nss↔(x∈us∨(op=2∧x=s)∨HasK d ks k x))∧RisN nss) _ ⟨0,mA,mc,ms,zs,rfl,rfl,hs.to _ _,Nat.zero_le _,hmc,hml,(fun x=>(hmm x).trans (has0 _ _)),hmr⟩ ?_);rintro _ _ _ ⟨k,nA,nc,nss,_,hm104,rfl,hs,hk,hnc,hnl,hnm,hnr⟩;refine cQ (cSLlL hs [.m 51 6,.v 52 (qP b1 6),.o 53 (qS A rs.length c) 0 6 1,.v 54 (nV rs.length)] ?_);cases za:(decide ((k:Int)<(rs.length:Int)))
 ·
  have zl:=oF za;refine lB 55 za (lNIF (CG.exit ?_))
  show CG _ _ _ _ _ _ _ _
  refine cSLlL hs [.m 65 1,.m 4 65] (lN (kX ?_));have hkn:k=ks.length:=by omega
  rw[hkn] at hnm hnl
  exact hs.ret [] (qS nA nss.length nc) (⟨_,_,_,rfl,hnc,(by show _≤us.length+(1+(sumN (fun i=>cntT d (ks.getD i tm0)) ks.length));omega),hs.f.1,hnm,hnr⟩)
 have zl:=oT za;refine lB 55 za (lNIT (cK (cQ (kZ (kQ (lL hs [.v 58 (qP b1 6),.o 59 (qS A rs.length c) 0 6 1,.m 60 6] (lX 61 A rs.length c 7 (k:Nat) k ((hs.f.q.1).ok oM) ?_)))))));refine lH 62 (.agg #[iV ((rs.getD k rtm0).op),iV ((rs.getD k rtm0).n),.bool ((rs.getD k rtm0).neg),qS ((rs.getD k rtm0).zA) ((rs.getD k rtm0).zn) ((rs.getD k rtm0).zc),qS ((rs.getD k rtm0).dA) ((rs.getD k rtm0).dn) ((rs.getD k rtm0).dc),.string ((rs.getD k rtm0).s),qS ((rs.getD k rtm0).A) ((rs.getD k rtm0).m) ((rs.getD k rtm0).c)]) hs ((hs.f.q.1).el k oM) (lL hs [.m 63 1] ?_);have hsm_:=sumN_mono (fun i=>cntT d (ks.getD i tm0)) (show k+1≤ks.length by omega);have hs1_:(sumN (fun i=>cntT d (ks.getD i tm0)) (k+1))=(sumN (fun i=>cntT d (ks.getD i tm0)) k)+cntT d (ks.getD k tm0):=rfl;refine lC 64 hs (ih (rs.getD k rtm0) (ks.getD k tm0) nA nc nss _ _ hs.g ((hs.f.r.2.1).at_ k oM) (hW k oM) hnc hs.f.1 hnr oM) ?_;rintro _ _ zt hs ⟨xA,xc,xss,rfl,hxc,hxl,hX,hxm,hxr⟩;replace hs:=hs.aS hX;refine lL hs [.m 1 64] (lN (kQ (lL hs [.m 56 6] (lIn 57 ((k:Nat)+1) (k+1) ?_))));refine lL hs [.m 6 57] (lD ?_);intro a_ ka;replace hs:=(hs.tl.tl.add (K:=fun h_=>SlO 1 strc ⟨#[]⟩ h_ xA xss) hs.f.1);refine ⟨_,_,?_,⟨k+1,xA,xc,xss,zt,rfl,rfl,hs.to _ _,oM,hxc,oM,(fun x=>(hxm x).trans (has1 (hnm x))),hxr⟩,ka.to _ kR⟩
 omega
theorem rNamesM (sm:ByteArray→Prop):∀ (d:Nat) (r:RTm) (t:Tm) (uA:Option Addr) (uc:Nat) (us:List ByteArray) (w:World) (h:Hp),G w h→RmH d h r t→SmT sm d t→us.length≤uc→SlO 1 strc ⟨#[]⟩ h uA us→RisN us→us.length+cntT d t≤1000000→Calls Tryz.prog 26 #[rmv r,.slice uA us.length uc] w (Ret w h (fun v h1=>∃ A_ c_,∃ nss:List ByteArray,v=.slice A_ nss.length c_∧nss.length≤c_∧nss.length≤us.length+cntT d t∧SlO 1 strc ⟨#[]⟩ h1 A_ nss∧(∀ x,x∈nss↔(x∈us∨HasN d t x))∧RisN nss))
  | 0,_,_,_,_,_,_,_,_,x,_,_,_,_,_=>x.elim
  | d+1,r,t,uA,uc,us,w,h,g,x,wf,huc,hL,hr,hb=>by
    obtain ⟨op,n,b,zA,zn,zc,dA,dn,dc,q,s,A,c,rs,ks,rfl,rfl,hZ,hc,hK,hKs⟩:=x.open;obtain ⟨s1,s2,s3,s4,s5,s6⟩:=wf;exact rNamesMS sm d (fun r t uA uc us w h=>rNamesM sm d r t uA uc us w h) op n b zA zn zc dA dn dc q s A c rs ks hc uA uc us s1 s6 huc hr hb w h g hZ hK hKs hL
theorem rNamesMA (sm:ByteArray→Prop)(d:Nat)(r:RTm)(t:Tm)(wf:SmT sm d t)(hb:cntT d t≤1000000)(w:World)(h:Hp)(g:G w h)(hR:RmH d h r t):CR 8 #[.agg #[iV r.op,iV r.n,.bool r.neg,.slice r.zA r.zn r.zc,.slice r.dA r.dn r.dc,.string r.s,.slice r.A r.m r.c]] w h (fun v h1=>∃ A_ c_,∃ nss:List ByteArray,v=.slice A_ nss.length c_∧nss.length≤c_∧nss.length≤cntT d t∧SlO 1 strc ⟨#[]⟩ h1 A_ nss∧(∀ x,x∈nss↔HasN d t x)∧RisN nss):=by
 have hs:=((sS g).add (K:=fun h_=>RmH d h_ r t) hR);refine go Tryz.func8 [(0,.agg #[iV r.op,iV r.n,.bool r.neg,qS r.zA r.zn r.zc,qS r.dA r.dn r.dc,.string r.s,qS r.A r.m r.c])] rfl (cSL (lA 1 31 ([iV r.op,iV r.n,.bool r.neg,qS r.zA r.zn r.zc,qS r.dA r.dn r.dc,.string r.s,qS r.A r.m r.c]) hs (fun b1 w2 h3 hs=>lL hs [.v 2 (sZ)] (lNS (lL hs [.o 3 (.agg #[iV r.op,iV r.n,.bool r.neg,qS r.zA r.zn r.zc,qS r.dA r.dn r.dc,.string r.s,qS r.A r.m r.c]) 0 0 7] (lC 4 hs (rNamesM sm d r t none 0 [] _ _ hs.g hs.f.1 wf (nR _) SlO.nil RisN.nil (by simpa using hb)) ?_))))));rintro _ w4 h5 hs ⟨xA,xc,xss,rfl,hxc,hxl,hX,hxm,hxr⟩;replace hs:=hs.aS hX;exact lL hs [.m 2 4] (lNkXr hs [] (qS xA xss.length xc) (⟨_,_,_,rfl,hxc,by simpa using hxl,hs.f.1,fun x=>by simpa using hxm x,hxr⟩))
section srt
open Go.RowKit Go.Maps Go.Sort Go.Shelf Go.WideShapes
def Tryz.keysZ_ren:Go.Shelf.Ren:=⟨fun|7=>25|10=>51|n=>n,fun|23=>65|26=>9|3=>4|28=>69|0=>0|27=>68|33=>101|4=>4|n=>n,fun|n=>n⟩
theorem Tryz.keysZ:Go.Proofs.SlLaysZ.n7 Tryz.prog Tryz.keysZ_ren:={
  mixed:=by kernel_rfl
  f7:=⟨Tryz.f25.name,by decide,Tryz.func25.trans (congrArg some kR)⟩
  f10:=⟨Tryz.f51.name,by decide,Tryz.func51.trans (congrArg some kR)⟩
  t0:=Tryz.underlying0
  a0:=Tryz.isAgg0
  z0:=Tryz.sizeOf0
  v0:=Tryz.zeroValue0
  t4:=Tryz.underlying4
  a4:=Tryz.isAgg4
  z4:=Tryz.sizeOf4
  v4:=Tryz.zeroValue4
  t23:=Tryz.underlying65
  a23:=Tryz.isAgg65
  z23:=Tryz.sizeOf65
  v23:=Tryz.zeroValue65
  t26:=Tryz.underlying9
  a26:=Tryz.isAgg9
  z26:=Tryz.sizeOf9
  v26:=Tryz.zeroValue9
  t27:=Tryz.underlying68
  a27:=Tryz.isAgg68
  z27:=Tryz.sizeOf68
  v27:=Tryz.zeroValue68
  t28:=Tryz.underlying69
  a28:=Tryz.isAgg69
  z28:=Tryz.sizeOf69
  v28:=Tryz.zeroValue69
  t33:=Tryz.underlying101
  a33:=Tryz.isAgg101
  z33:=Tryz.sizeOf101
  v33:=Tryz.zeroValue101 }
def Tryz.sortedZ_ren:Go.Shelf.Ren:=⟨fun|6=>24|8=>49|9=>50|11=>80|13=>82|12=>81|23=>126|24=>113|14=>117|15=>118|16=>119|17=>120|18=>121|19=>122|20=>123|21=>124|22=>125|25=>152|26=>153|27=>154|28=>155|29=>156|30=>157|31=>182|n=>n,fun|26=>9|28=>69|24=>45|0=>0|3=>3|37=>126|48=>125|50=>34|4=>4|40=>169|39=>168|45=>150|5=>5|9=>9|51=>193|55=>197|57=>223|58=>153|33=>101|n=>n,fun|n=>n⟩
theorem Tryz.sortedZ:Go.Proofs.SlLaysZ.n6 Tryz.prog Tryz.sortedZ_ren:={
  mixed:=by kernel_rfl
  f6:=⟨Tryz.f24.name,by decide,Tryz.func24.trans (congrArg some kR)⟩
  f8:=⟨Tryz.f49.name,by decide,Tryz.func49.trans (congrArg some kR)⟩
  f11:=⟨Tryz.f80.name,by decide,Tryz.func80.trans (congrArg some kR)⟩
  t0:=Tryz.underlying0
  a0:=Tryz.isAgg0
  z0:=Tryz.sizeOf0
  v0:=Tryz.zeroValue0
  t24:=Tryz.underlying45
  a24:=Tryz.isAgg45
  z24:=Tryz.sizeOf45
  v24:=Tryz.zeroValue45
  t26:=Tryz.underlying9
  a26:=Tryz.isAgg9
  z26:=Tryz.sizeOf9
  v26:=Tryz.zeroValue9
  t28:=Tryz.underlying69
  a28:=Tryz.isAgg69
  z28:=Tryz.sizeOf69
  v28:=Tryz.zeroValue69
  i26:=by kernel_rfl }
def Tryz.sortZ_ren:Go.Shelf.Ren:=⟨fun|6=>50|8=>82|9=>81|19=>126|20=>113|21=>117|22=>118|23=>119|24=>120|25=>121|26=>122|27=>123|28=>124|29=>125|36=>152|31=>153|32=>154|37=>155|38=>156|39=>157|41=>182|n=>n,fun|27=>45|29=>9|3=>3|32=>126|26=>45|0=>0|44=>125|46=>34|4=>4|36=>169|35=>168|41=>150|5=>5|9=>9|53=>193|57=>197|63=>223|64=>153|n=>n,fun|n=>n⟩
theorem Tryz.sortZ:Go.Proofs.SlLaysM.n6 Tryz.prog Tryz.sortZ_ren:={
  mixed:=by kernel_rfl
  f6:=⟨Tryz.f50.name,by decide,Tryz.func50.trans (congrArg some kR)⟩
  f8:=Tryz.func82.trans (congrArg some kR)
  f9:=⟨Tryz.f81.name,by decide,Tryz.func81.trans (congrArg some kR)⟩
  f19:=Tryz.func126.trans (congrArg some kR)
  f20:=Tryz.func113.trans (congrArg some kR)
  f21:=⟨Tryz.f117.name,by decide,Tryz.func117.trans (congrArg some kR)⟩
  f22:=⟨Tryz.f118.name,by decide,Tryz.func118.trans (congrArg some kR)⟩
  f23:=⟨Tryz.f119.name,by decide,Tryz.func119.trans (congrArg some kR)⟩
  f24:=⟨Tryz.f120.name,by decide,Tryz.func120.trans (congrArg some kR)⟩
  f25:=⟨Tryz.f121.name,by decide,Tryz.func121.trans (congrArg some kR)⟩
  f26:=⟨Tryz.f122.name,by decide,Tryz.func122.trans (congrArg some kR)⟩
  f27:=⟨Tryz.f123.name,by decide,Tryz.func123.trans (congrArg some kR)⟩
  f28:=⟨Tryz.f124.name,by decide,Tryz.func124.trans (congrArg some kR)⟩
  f29:=⟨Tryz.f125.name,by decide,Tryz.func125.trans (congrArg some kR)⟩
  f31:=Tryz.func153.trans (congrArg some kR)
  f32:=Tryz.func154.trans (congrArg some kR)
  f36:=⟨Tryz.f152.name,by decide,Tryz.func152.trans (congrArg some kR)⟩
  f37:=⟨Tryz.f155.name,by decide,Tryz.func155.trans (congrArg some kR)⟩
  f38:=⟨Tryz.f156.name,by decide,Tryz.func156.trans (congrArg some kR)⟩
  f39:=⟨Tryz.f157.name,by decide,Tryz.func157.trans (congrArg some kR)⟩
  f41:=⟨Tryz.f182.name,by decide,Tryz.func182.trans (congrArg some kR)⟩
  t0:=Tryz.underlying0
  a0:=Tryz.isAgg0
  z0:=Tryz.sizeOf0
  v0:=Tryz.zeroValue0
  t3:=Tryz.underlying3
  a3:=Tryz.isAgg3
  z3:=Tryz.sizeOf3
  v3:=Tryz.zeroValue3
  t4:=Tryz.underlying4
  a4:=Tryz.isAgg4
  z4:=Tryz.sizeOf4
  v4:=Tryz.zeroValue4
  t5:=Tryz.underlying5
  a5:=Tryz.isAgg5
  z5:=Tryz.sizeOf5
  v5:=Tryz.zeroValue5
  t9:=Tryz.underlying9
  a9:=Tryz.isAgg9
  z9:=Tryz.sizeOf9
  v9:=Tryz.zeroValue9
  t26:=Tryz.underlying45
  a26:=Tryz.isAgg45
  z26:=Tryz.sizeOf45
  v26:=Tryz.zeroValue45
  t27:=Tryz.underlying45
  a27:=Tryz.isAgg45
  z27:=Tryz.sizeOf45
  v27:=Tryz.zeroValue45
  t29:=Tryz.underlying9
  a29:=Tryz.isAgg9
  z29:=Tryz.sizeOf9
  v29:=Tryz.zeroValue9
  t32:=Tryz.underlying126
  a32:=Tryz.isAgg126
  z32:=Tryz.sizeOf126
  v32:=Tryz.zeroValue126
  t35:=Tryz.underlying168
  a35:=Tryz.isAgg168
  z35:=Tryz.sizeOf168
  v35:=Tryz.zeroValue168
  t36:=Tryz.underlying169
  a36:=Tryz.isAgg169
  z36:=Tryz.sizeOf169
  v36:=Tryz.zeroValue169
  t41:=Tryz.underlying150
  a41:=Tryz.isAgg150
  z41:=Tryz.sizeOf150
  v41:=Tryz.zeroValue150
  t44:=Tryz.underlying125
  a44:=Tryz.isAgg125
  z44:=Tryz.sizeOf125
  v44:=Tryz.zeroValue125
  t46:=Tryz.underlying34
  a46:=Tryz.isAgg34
  z46:=Tryz.sizeOf34
  v46:=Tryz.zeroValue34
  t53:=Tryz.underlying193
  a53:=Tryz.isAgg193
  z53:=Tryz.sizeOf193
  v53:=Tryz.zeroValue193
  t57:=Tryz.underlying197
  a57:=Tryz.isAgg197
  z57:=Tryz.sizeOf197
  v57:=Tryz.zeroValue197
  t63:=Tryz.underlying223
  a63:=Tryz.isAgg223
  z63:=Tryz.sizeOf223
  v63:=Tryz.zeroValue223
  t64:=Tryz.underlying153
  a64:=Tryz.isAgg153
  z64:=Tryz.sizeOf153
  v64:=Tryz.zeroValue153 }
theorem srt_sorts (m:Nat):AnyZ.SortsIn Tryz.prog Tryz.sortedZ_ren Fence.wide m :=
  ⟨fun blk off cap ss W hH hblk hsz=>callsIn_wide.2 (AnyM.slices_Sort_string Tryz.sortZ blk off cap ss W hH hblk hsz),fun p cap W=>callsIn_wide.2 (AnyM.slices_Sort_string_none Tryz.sortZ p cap W)⟩
theorem srt_keys (mb:Option Nat)(W:World):CallsIn Fence.wide 5 Tryz.prog 25 #[.map mb] W fun e w'=>e=.returned (.func (.func 51) #[] #[.pointer (some ⟨W.heap.size,0,none⟩)])∧w'=W.alloc (.cells #[.map mb] 65) :=
  AnyZ.keys_in Tryz.keysZ Fence.wide 5 trivial rfl mb W
theorem srt_sorted {H:Type}(b nn:Nat)(D0:DataW H)(R:Value→Option (DataW H × List MemPlace))(w:World)(hown:w.ownsMap Tryz.prog 9 R b nn D0)(hmax:Maps.size D0≤maxLen)(hbytes:Maps.size D0*16≤140737488355328) :
    CallsIn Fence.wide 5 Tryz.prog 24 #[.func (.func 51) #[] #[.pointer (some ⟨w.heap.size,0,none⟩)]] (w.alloc (.cells #[.map (some b)] 65)) fun e w'=>∃ (v:Value) (ss:List (List UInt8)),e=.returned v∧ss.Perm (strKeys D0) ∧
      w'.ownsRow (w.alloc (.cells #[.map (some b)] 65)).heap.size 9 1 v ss.length ((ss.mergeSort (fun x y=>decide (x≤y))).map encStr)∧(v=.slice none 0 0↔ss=[])∧Below (w.alloc (.cells #[.map (some b)] 65)).heap.size (w.alloc (.cells #[.map (some b)] 65)) w':=by
  have hbl:=hown.lt
  have hseq:SeqGives Fence.wide 2 Tryz.prog 51 #[.pointer (some ⟨w.heap.size,0,none⟩)] encStr (fun ss=>ss.Perm (strKeys D0)) (Maps.size D0) (w.alloc (.cells #[.map (some b)] 65)) :=
    AnyZ.keys_gives (ρ:=Tryz.keysZ_ren) { Tryz.keysZ with } Fence.wide _ trivial rfl oM w.heap.size b nn D0 _ (by simp) (by simp) (by
      obtain ⟨es,clock,hb,Ft,hs,hD⟩:=hown;exact ⟨es,clock,(Below.heap_alloc _ _ b hbl).trans hb,Ft,hs,hD⟩)
  exact AnyZ.sorted_in Tryz.sortedZ Fence.wide 5 trivial trivial trivial trivial rfl oM (srt_sorts _) (enters_of Tryz.func50 kR rfl) 51 #[.pointer (some ⟨w.heap.size,0,none⟩)] trivial (enters_of Tryz.func51 kR rfl) _ _ hmax hbytes _ hseq
section
variable {P:Program} {k:TypeId} (hk:P.underlying k=some .string)
def RU (_:Value):Option (DataW Unit × List MemPlace):=some (.nil,[])
theorem kes_rd (hk:P.underlying k=some .string){ss:List ByteArray}(hs:∀ s∈ss,s.size≤maxLen){e:MapEntry}(he:e∈kes ss):∃ s∈ss,WideElems.rd P k RU e=some (.string s.data.toList,.nil)∧e.key=.string s:=by
  obtain ⟨j,s,hj,rfl⟩:=kes_mem he;have hm:s∈ss:=List.mem_iff_getElem?.2 ⟨j,hj⟩;refine ⟨s,hm,?_,rfl⟩
  have h1:keyOf P k (.string s)=some (.string s.data.toList):=by
    have:=hs s hm
    simp[keyOf,hk,mapKey,this]
  unfold WideElems.rd
  rw[h1];rfl
theorem kes_stamped {ss:List ByteArray}(hn:ss.Nodup):MapKept.Stamped (kes ss).toArray ss.length:=by
  refine ⟨fun x hx=>?_,?_,?_⟩
  · obtain ⟨j,s,hj,rfl⟩:=kes_mem (by simpa using hx)
    exact (List.getElem?_eq_some_iff.1 hj).1
  · have e:(kes ss).map (·.born)=List.range ss.length:=by
      apply List.ext_getElem
      · simp[kes]
      · intro i h1 h2;simp[kes]
    show ((kes ss).map (·.born)).Nodup
    rw[e];exact List.nodup_range
  · have e:(kes ss).map (·.key)=ss.map Value.string:=by
      apply List.ext_getElem
      · simp[kes]
      · intro i h1 h2;simp[kes]
    show ((kes ss).map (·.key)).Nodup
    rw[e];exact List.Pairwise.map _ (fun a b h e=>h (Value.string.inj e)) hn
theorem kes_own (hk:P.underlying k=some .string){w:World}{b:Nat}{ss:List ByteArray}(hb:w.heap[b]?=some (.map (kes ss).toArray ss.length))(hn:ss.Nodup)(hs:∀ s∈ss,s.size≤maxLen)(hl:ss.length≤1048576) :
    ∃ D:DataW Unit,w.ownsMap P k RU b ss.length D∧(strKeys D).Perm (ss.map fun s=>s.data.toList)∧Maps.size D≤1048576:=by
  have hlen:(kes ss).length=ss.length:=by simp[kes]
  refine ⟨.map (((kes ss).map (WideElems.rg P k RU)).foldr DataW.insert []),⟨(kes ss).toArray,ss.length,hb,⟨?_,kes_stamped hn,fun x hx=>?_⟩,?_,rfl⟩,?_,?_⟩
  · show (kes ss).toArray.size≤maxLen
    rw[List.size_toArray,hlen];unfold maxLen;omega
  · obtain ⟨s,_,h,_⟩:=kes_rd (P:=P) hk hs (by simpa using hx)
    exact ⟨_,h⟩
  · rw[List.size_toArray,hlen];exact Nat.le_refl _
  · show ((((kes ss).map (WideElems.rg P k RU)).foldr DataW.insert []).map fun p=>strOf p.1).Perm _
    refine ((sorted_perm _).map _).trans (List.Perm.of_eq ?_);rw[List.map_map]
    apply List.ext_getElem
    · simp[hlen]
    · intro i h1 h2
      have hi:i<(kes ss).length:=by simpa using h1
      obtain ⟨s,hs2,hr,hkey⟩:=kes_rd (P:=P) hk hs (List.getElem_mem hi);obtain ⟨s',h3,h4⟩:=kes_at (List.getElem?_eq_getElem hi);rw[List.getElem_map,List.getElem_map];rw[h4] at hkey
      injection hkey with hkey
      subst hkey
      show strOf (((WideElems.rd P k RU (kes ss)[i]).getD (.bool false,.nil)).1)=_
      rw[hr]
      show s'.data.toList=_
      rw[List.getElem?_eq_getElem oM] at h3
      rw[Option.some.inj h3]
  · show Maps.size (.map _)≤_
    rw[Maps.size_eq,(sorted_perm _).length_eq,List.length_map,hlen];exact hl
end
theorem lift_new2 {w w':World}{h:Hp}(g:G w h)(x:Ext w w'):∃ h',Up w h w' h'∧∀ b,h.size≤b→h'[b]?=w'.heap[b]?:=by
  have hs:=x.size;have e0:=g.size
  have key:∀ b,h.size≤b→(h++w'.heap.extract h.size w'.heap.size)[b]?=w'.heap[b]?:=fun b hb=>by
    rw[Array.getElem?_append_right hb,Array.getElem?_extract]
    by_cases hl:b<w'.heap.size
    · rw[if_pos oM];congr 1;omega
    · rw[if_neg oM,Array.getElem?_eq_none oM]
  refine ⟨h++w'.heap.extract h.size w'.heap.size,⟨x,⟨by simp,fun b hb=>Array.getElem?_append_left hb⟩,⟨by simp;omega,fun b=>?_⟩⟩,key⟩
  rcases Nat.lt_or_ge b h.size with hb|hb
  · rw[Array.getElem?_append_left hb]
    have e:=Below.block x b oM
    rcases g.blk b with h1|h1
    · exact .inl (h1.trans e.symm)
    · exact .inr h1
  · exact .inl (key b hb)
end srt
section srt
open Go.RowKit Go.Maps Go.Sort Go.Shelf Go.WideShapes
theorem tNamesM (sm:ByteArray→Prop)(hsm:∀ s,sm s→s.size≤1000)(d:Nat)(hd:d≤10)(p:PTm)(t:Tm)(w:World)(h:Hp)(g:G w h)(hT:TmH d h p t)(hW:SmT sm d t):CR 7 #[ptv p] w h (fun v h1=>∃ (A:Option Addr) (c:Nat) (ss:List ByteArray),v=.slice A ss.length c∧ss.length≤c∧ss.length≤1048576∧SlO 1 strc ⟨#[]⟩ h1 A ss∧(∀ x,x∈ss↔HasN d t x)∧RisN ss):=by
  refine (callsIn_wide (n:=6)).1 (callsIn_of_wp Tryz.func7 rfl trivial ?_ rfl)
  simp only[Tryz.ntmps7,List.size_toArray,List.length_cons,List.length_nil,Nat.reduceAdd,Nat.reduceSub,Array.replicate_succ,Array.replicate_zero,List.push_toArray,List.append_toArray,List.nil_append,List.cons_append]
  unfold ptv
  have hfK:Fence.wide.fn 23:=trivial;have hf2:Fence.wide.fn 25:=trivial;have hf3:Fence.wide.fn 24:=trivial
  have hg2:∀ o:Obj,G ((w.alloc o).alloc (.map #[] 0)) ((h.push junk).push junk)∧MapK ((w.alloc o).alloc (.map #[] 0)) ((h.push junk).push junk) (w.heap.size+1) []∧TmH d ((h.push junk).push junk) p t:=fun o=>by
    have u1:Up w h (w.alloc o) (h.push junk):=Up.allocAny g o junk (.inr rfl);have u2:Up (w.alloc o) (h.push junk) ((w.alloc o).alloc (.map #[] 0)) ((h.push junk).push junk):=Up.allocAny u1.g _ _ (.inr rfl);refine ⟨u2.g,⟨?_,?_,List.nodup_nil⟩,(hT.gw u1.gr.gw).gw u2.gr.gw⟩
    · rw[show w.heap.size+1=(h.push junk).size by rw[Array.size_push,g.size]];exact Array.getElem?_push_size
    · rw[heap_alloc,show w.heap.size+1=(w.alloc o).heap.size by simp];exact Array.getElem?_push_size
  have hsz:∀ s,HasN d t s→s.size≤maxLen:=fun s hs=>by have:=hsm s (sm_has hW hs);unfold maxLen;omega
  have hcn:=cnt_leM hW;have hp2:4^d≤1048576:=Nat.le_trans (Nat.pow_le_pow_right oM hd) kD;have hmm:=@run_makeMap Tryz.prog
  gi_wp2
  gi_at_call 23
  generalize hW2:(w.alloc _).alloc (.map #[] 0)=W2
  have q:=hg2 (.cells #[iV p.op,iV p.n,.bool (ineg p.q.num),uV (lo (iabs p.q.num)),.string (hi (iabs p.q.num)),uV (lo (qd p.q)),.string (hi (qd p.q)),.string p.s,qS p.A p.m p.c] 43);rw[hW2] at q
  clear hg2
  have cg:=(callsIn_wide (n:=5)).2 (tGatherM sm d p t (w.heap.size+1) [] W2 _ q.1 q.2.2 hW q.2.1)
  unfold ptv at cg
  refine cg.mono ?_
  clear cg
  rintro e w' ⟨v,h3,rfl,um,rfl,ss,ho,hn,hss,hl⟩;have hss2:∀ x,x∈ss↔HasN d t x:=fun x=>by rw[hss x];simp
  have hl2:ss.length≤1048576:=by have:=(show ss.length≤0+cntT d t from hl);omega
  have hszw:w.heap.size+2=W2.heap.size:=by rw[←hW2];simp
  have hb2:Go.RowKit.Below w.heap.size w W2:=by rw[←hW2];exact ((Below.refl _ w).alloc (nR _) _).alloc (by simp) _
  have hb1:Go.RowKit.Below w.heap.size w w':=⟨um.mo.os.trans hb2.os,um.mo.tape.trans hb2.tape,um.mo.output.trans hb2.output,Nat.le_trans hb2.size um.mo.size,fun c hc=>(um.mo.blk c oM (fun hm=>by rw[List.mem_singleton] at hm;omega)).trans (hb2.block c hc)⟩
  clear hss hW2
  obtain ⟨D,hD1,hD2,hD3⟩:=kes_own (P:=Tryz.prog) (k:=9) Tryz.underlying9 ho hn (fun s h_=>hsz s ((hss2 s).1 h_)) hl2
  gi_wp2
  gi_at_call 25
  refine (srt_keys _ _).mono ?_;rintro e w'' ⟨rfl,rfl⟩
  gi_wp2
  gi_at_call 24
  refine (srt_sorted (w.heap.size+1) ss.length D RU w' hD1 (by unfold maxLen;omega) oM).mono ?_;rintro e w3 ⟨v,zs,rfl,hz1,hz2,-,hz3⟩;have hbw:=hb1.size;have hb3:Ext w w3:=(hb1.alloc hbw _).trans (hz3.mono (by simp;omega));obtain ⟨h',u,key⟩:=lift_new2 g hb3
  have hzl:∀ x:ByteArray,x∈((zs.mergeSort fun x y=>decide (x≤y)).map fun z=>(⟨z.toArray⟩:ByteArray))↔HasN d t x:=fun x=>by
    rw[←hss2 x,List.mem_map]
    constructor
    · rintro ⟨z,hz,rfl⟩
      have h1:=(hz1.trans hD2).mem_iff.1 ((List.mergeSort_perm zs _).mem_iff.1 hz);obtain ⟨s,hs,e⟩:=List.mem_map.1 h1;have:s=⟨z.toArray⟩:=by cases s;rename_i a;simp at e;subst e;rfl
      rw[←this];exact hs
    · intro hx
      refine ⟨x.data.toList,(List.mergeSort_perm zs _).mem_iff.2 ((hz1.trans hD2).mem_iff.2 (List.mem_map.2 ⟨x,hx,rfl⟩)),?_⟩;cases x;simp
  have hzn:((zs.mergeSort fun x y=>decide (x≤y)).map fun z=>(⟨z.toArray⟩:ByteArray)).length=zs.length:=by rw[List.length_map,(List.mergeSort_perm zs _).length_eq]
  have hzs:zs.length≤1048576:=by rw[(hz1.trans hD2).length_eq,List.length_map];exact hl2
  gi_wp2
  go_ret
  have hzr:=ris_sort (zs:=zs) ((hz1.trans hD2).nodup_iff.2 (List.pairwise_map.2 (hn.imp (fun {a b} h_ e_=>h_ (by cases a;cases b;rename_i x y;congr 1;exact Array.toList_inj.1 e_)))))
  generalize hzz:((zs.mergeSort fun x y=>decide (x≤y)).map fun z=>(⟨z.toArray⟩:ByteArray))=zz at hzl hzn hzr
  refine ⟨v,h',rfl,u,?_⟩
  rcases hz2 with ⟨-,⟨rfl,hz⟩|⟨gb,cap,cur,rfl,hbase,hgb,r1,-,-,r4⟩⟩
  · have:zz=[]:=List.eq_nil_of_length_eq_zero oM
    subst this;refine ⟨none,0,[],rfl,nR _,by simp,SlO.nil,fun x=>hzl x,hzr⟩
  · refine ⟨sB gb,cap,zz,by rw[hzn],by omega,by omega,SlO.of_flat (sz:=1) (f:=strc) (d:=⟨#[]⟩) (b:=gb) (o:=0) (fun _=>rfl) fun i v hv=>?_,hzl,hzr⟩
    have hf:zz.flatMap strc=(zs.mergeSort fun x y=>decide (x≤y)).map encStr:=by
      rw[←hzz]
      generalize (zs.mergeSort fun x y=>decide (x≤y))=q
      induction q with
      | nil=>rfl
      | cons a l ih=>rw[List.map_cons,List.map_cons,List.flatMap_cons,ih];rfl
    rw[hf,←r4,Nat.mul_one] at hv
    have hv2:cur.toList[i]?=some v:=by
      rw[List.getElem?_take] at hv
      split at hv
      · exact hv
      · cases hv
    have hgs:h.size≤gb:=by have:=g.size;simp at hbase;omega
    unfold hcell
    rw[key gb hgs,hgb,Nat.zero_add]
    show cur[i]?=some v
    rw[←Array.getElem?_toList];exact hv2
end srt
def chL (c:Nat):Prop:=(97≤c∧c≤122)∨(65≤c∧c≤90)
def chN (c:Nat):Prop:=((97≤c∧c≤122)∨(65≤c∧c≤90))∨(48≤c∧c≤57)∨c=95
instance (c:Nat):Decidable (chL c):=by unfold chL;infer_instance
instance (c:Nat):Decidable (chN c):=by unfold chN;infer_instance
def callN (s:ByteArray):Int:=if s=⟨#[97,98,115]⟩ then 9 else if s=⟨#[114,97,109,112]⟩ then 10 else if s=⟨#[98,101,110,100]⟩ then 11 else if s=⟨#[109,97,120]⟩ then 12 else if s=⟨#[109,105,110]⟩ then 13 else 0
def callK (s:ByteArray):Int:=if callN s=0 then 0 else if callN s≤11 then 1 else 2
def isCall (s:ByteArray):Bool:=decide (callN s≠0)
def isNm (s:ByteArray):Bool:=decide (1≤s.size∧s.size≤20∧chL (bAt s 0)∧(∀ i,i<s.size→chN (bAt s i))∧isCall s=false)
theorem nm_f1 {s:ByteArray}(h:¬(1≤s.size∧s.size≤20∧chL (bAt s 0))):Value.bool false=.bool (isNm s):=congrArg Value.bool (decide_eq_false fun x=>h ⟨x.1,x.2.1,x.2.2.1⟩).symm
theorem nm_f2 {s:ByteArray}{i:Nat}(h:i<s.size)(h2:¬chN (bAt s i)):Value.bool false=.bool (isNm s):=congrArg Value.bool (decide_eq_false fun x=>h2 (x.2.2.2.1 i h)).symm
theorem nm_t {s:ByteArray}(h1:1≤s.size∧s.size≤20)(h2:chL (bAt s 0))(h3:∀ i,i<s.size→chN (bAt s i)):isNm s = !isCall s:=by
  unfold isNm
  cases h:isCall s
  · exact decide_eq_true ⟨h1.1,h1.2,h2,h3,rfl⟩
  · exact decide_eq_false fun x=>by cases x.2.2.2.2
def callEs:List MapEntry:=[⟨.string ⟨#[97,98,115]⟩,.int .i64 9,0⟩,⟨.string ⟨#[114,97,109,112]⟩,.int .i64 10,1⟩,⟨.string ⟨#[98,101,110,100]⟩,.int .i64 11,2⟩,⟨.string ⟨#[109,97,120]⟩,.int .i64 12,3⟩,⟨.string ⟨#[109,105,110]⟩,.int .i64 13,4⟩]
theorem call_lk (s:ByteArray):(∃ i,Instr.findNow .string (.string s) callEs 0=some (some (i,.int .i64 (callN s)))∧isCall s=true)∨(Instr.findNow .string (.string s) callEs 0=some none∧isCall s=false∧callN s=0):=by
  by_cases h1:s=⟨#[97,98,115]⟩
  · subst h1;exact .inl ⟨0,by kernel_rfl,by decide⟩
  by_cases h2:s=⟨#[114,97,109,112]⟩
  · subst h2;exact .inl ⟨1,by kernel_rfl,by decide⟩
  by_cases h3:s=⟨#[98,101,110,100]⟩
  · subst h3;exact .inl ⟨2,by kernel_rfl,by decide⟩
  by_cases h4:s=⟨#[109,97,120]⟩
  · subst h4;exact .inl ⟨3,by kernel_rfl,by decide⟩
  by_cases h5:s=⟨#[109,105,110]⟩
  · subst h5;exact .inl ⟨4,by kernel_rfl,by decide⟩
  have hc:callN s=0:=by unfold callN;rw[if_neg h1,if_neg h2,if_neg h3,if_neg h4,if_neg h5]
  refine .inr ⟨?_,by unfold isCall;rw[hc];rfl,hc⟩
  rcases MapKept.findNow_spec (d:=.string) (k:=.string s) (by simp[MapKept.IsKey]) callEs 0 (fun x hx=>by
    simp only[callEs,List.mem_cons,List.not_mem_nil,or_false] at hx
    rcases hx with rfl|rfl|rfl|rfl|rfl<;>simp[MapKept.IsKey]) with ⟨a,_⟩|⟨j,e,a,b,c⟩
  · exact a
  · exfalso
    match j,b with
    | 0,b=>injection b with b;subst b;injection c with c;exact h1 c.symm
    | 1,b=>injection b with b;subst b;injection c with c;exact h2 c.symm
    | 2,b=>injection b with b;subst b;injection c with c;exact h3 c.symm
    | 3,b=>injection b with b;subst b;injection c with c;exact h4 c.symm
    | 4,b=>injection b with b;subst b;injection c with c;exact h5 c.symm
    | n+5,b=>cases b
def rnF (p:Nat→Bool)(s:ByteArray):Nat→Nat→Nat
  | 0,a=>a
  | f+1,a=>if a<s.size∧p (bAt s a)=true then rnF p s f (a+1) else a
def rn (p:Nat→Bool)(s:ByteArray)(a:Nat):Nat:=rnF p s (s.size-a) a
theorem rnF_ge (p:Nat→Bool)(s:ByteArray):∀ f a,a≤rnF p s f a
  | 0,a=>Nat.le_refl a
  | f+1,a=>by
    unfold rnF;split
    · exact Nat.le_trans (Nat.le_succ a) (rnF_ge p s f (a+1))
    · exact Nat.le_refl a
theorem rnF_le (p:Nat→Bool)(s:ByteArray):∀ f a,a≤s.size→rnF p s f a≤s.size
  | 0,a,h=>h
  | f+1,a,h=>by
    unfold rnF;split
    · rename_i c;exact rnF_le p s f (a+1) c.1
    · exact h
theorem rn_ge (p:Nat→Bool)(s:ByteArray)(a:Nat):a≤rn p s a:=rnF_ge p s _ a
theorem rn_le {p:Nat→Bool}{s:ByteArray}{a:Nat}(h:a≤s.size):rn p s a≤s.size:=rnF_le p s _ a h
theorem rnF_eq {p:Nat→Bool}{s:ByteArray}{j:Nat}:∀ f a,s.size-a≤f→a≤j→j≤s.size→(∀ i,a≤i→i<j→p (bAt s i)=true)→(j=s.size∨p (bAt s j)=false)→rnF p s f a=j
  | 0,a,h1,h2,h3,_,_=>by show a=j;omega
  | f + 1,a,h1,h2,h3,h4,h5=>by
    unfold rnF
    by_cases e:a=j
    · subst e
      rw[if_neg];rintro ⟨h6,h7⟩
      rcases h5 with h5|h5
      · omega
      · rw[h5] at h7;cases h7
    · rw[if_pos ⟨by omega,h4 a (Nat.le_refl a) oM⟩]
      exact rnF_eq f (a+1) oM oM h3 (fun i hi hj=>h4 i oM hj) h5
theorem rn_eq {p:Nat→Bool}{s:ByteArray}{a j:Nat}(h2:a≤j)(h3:j≤s.size)(h4:∀ i,a≤i→i<j→p (bAt s i)=true)(h5:j=s.size∨p (bAt s j)=false):rn p s a=j:=rnF_eq _ a (Nat.le_refl _) h2 h3 h4 h5
theorem rnF_stop (p:Nat→Bool)(s:ByteArray):∀ f a,s.size-a≤f→rnF p s f a<s.size→p (bAt s (rnF p s f a))=false
  | 0,a,h1,h2=>by
    have h2:a<s.size:=h2
    omega
  | f + 1,a,h1,h2=>by
    unfold rnF at h2 ⊢
    split
    · rename_i c;rw[if_pos c] at h2;exact rnF_stop p s f (a+1) oM h2
    · rename_i c;rw[if_neg c] at h2
      cases h:p (bAt s a) with
      | true=>exact absurd ⟨h2,h⟩ c
      | false=>rfl
def isBl (c:Nat):Bool:=decide (c=32)
def isDg (c:Nat):Bool:=decide (48≤c∧c≤57)
def isDd (c:Nat):Bool:=decide ((48≤c∧c≤57)∨c=46)
def isNn (c:Nat):Bool:=decide (chN c)
def isNb (c:Nat):Bool:=decide (c≠93)
def sk (s:ByteArray)(a:Nat):Nat:=rn isBl s a
theorem sk_le {s:ByteArray}{a:Nat}(h:a≤s.size):sk s a≤s.size:=rn_le h
theorem sk_sk (s:ByteArray)(a:Nat):sk s (sk s a)=sk s a:=by
  rcases Nat.lt_or_ge (sk s a) s.size with h1|h1
  · exact rn_eq (Nat.le_refl _) (Nat.le_of_lt h1) (fun i h2 h3=>absurd h2 oM) (.inr (rnF_stop isBl s (s.size-a) a (Nat.le_refl _) h1))
  · show rnF isBl s (s.size-sk s a) (sk s a)=sk s a
    rw[show s.size-sk s a=0 by omega];rfl
theorem bAt_out {s:ByteArray}{a:Nat}(h:s.size≤a):bAt s a=0:=by
  unfold bAt
  rw[List.getD_eq_getElem?_getD,List.getElem?_eq_none (by simpa using h)];rfl
theorem bAt_in {s:ByteArray}{a:Nat}(h:bAt s a≠0):a<s.size:=by
  rcases Nat.lt_or_ge a s.size with h1|h1
  · exact h1
  · exact absurd (bAt_out h1) h
inductive PR where
  | ok (t:Tm) (a:Nat)
  | err (b:Nat)
inductive PKd where
  | sum|prod|sign|pow|atom
  | call (op:Int)
  | more (lv:Bool) (t:Tm)
def tOne (op:Int)(t:Tm):Tm:=.mk op 0 0 ⟨#[]⟩ [t]
def tTwo (op:Int)(t u:Tm):Tm:=.mk op 0 0 ⟨#[]⟩ [t,u]
def tNum (q:Rat):Tm:=.mk 1 0 q ⟨#[]⟩ []
def tNam (s:ByteArray):Tm:=.mk 2 0 0 s []
def andT (x:Option PR)(f:Tm→Nat→Option PR):Option PR:=match x with
  | none=>none
  | some (.ok t a)=>f t a
  | some (.err b)=>some (.err b)
def dv (s:ByteArray):Nat→Nat
  | 0=>0
  | n+1=>dv s n*10+(bAt s n-48)
def natP (s:ByteArray):Option Nat:=if s.size=0∨(1<s.size∧bAt s 0=48)∨¬(∀ i,i<s.size→isDg (bAt s i)=true) then none else some (dv s s.size)
theorem natP_some {x:ByteArray}{k:Nat}(h:natP x=some k):1≤x.size∧(1<x.size→bAt x 0≠48)∧(∀ i,i<x.size→48≤bAt x i∧bAt x i≤57)∧k=dv x x.size:=by
  unfold natP at h
  by_cases c:x.size=0∨(1<x.size∧bAt x 0=48)∨¬(∀ i,i<x.size→isDg (bAt x i)=true)
  · rw[if_pos c] at h;cases h
  · rw[if_neg c] at h;injection h with h
    refine ⟨by omega,fun h1 h2=>c (.inr (.inl ⟨h1,h2⟩)),fun i hi=>?_,h.symm⟩;exact oT (Decidable.byContradiction fun h2=>c (.inr (.inr (fun h3=>h2 (h3 i hi)))))
theorem dv_lt {x:ByteArray}:∀ n,(∀ i,i<n→48≤bAt x i∧bAt x i≤57)→dv x n<10^n
  | 0,_=>Nat.one_pos
  | n+1,h=>by
    have h1:=dv_lt n (fun i hi=>h i oM);have h2:=h n oM
    show dv x n*10+(bAt x n-48)<10^(n+1)
    rw[Nat.pow_succ];omega
theorem natP_lt {x:ByteArray}{k:Nat}(h:natP x=some k)(h3:x.size≤3):k≤999:=by
  obtain ⟨h1,_,h2,rfl⟩:=natP_some h;have h4:=dv_lt x.size h2;have h5:10^x.size≤10^3:=Nat.pow_le_pow_right kD h3
  omega
def c1 (lv:Bool):Nat:=if lv then 42 else 43
def c2 (lv:Bool):Nat:=if lv then 47 else 45
def op1 (lv:Bool):Int:=if lv then 5 else 3
def op2 (lv:Bool):Int:=if lv then 6 else 4
def part (lv:Bool):PKd:=if lv then .sign else .prod
def pwrR (s:ByteArray)(t:Tm)(a:Nat):PR :=
  let m:Bool:=decide (bAt s (sk s a)=45)
  let b:=sk s (if m then sk s a+1 else sk s a)
  let e:=rn isDg s b
  if 3<e-b then .err b else match natP (s.extract b e) with
    | none=>.err b
    | some k=>.ok (.mk 8 (if m then -(k:Int) else k) 0 ⟨#[]⟩ [t]) e
section
variable (nf bf:ByteArray→Option Rat) (s:ByteArray)
def prs : Nat→PKd→Nat→Option PR
  | 0,_,_=>none
  | n+1,.sum,a=>andT (prs n .prod a) fun t b=>prs n (.more false t) b
  | n+1,.prod,a=>andT (prs n .sign a) fun t b=>prs n (.more true t) b
  | n+1,.more lv t,a =>
    if bAt s (sk s a)=c1 lv then andT (prs n (part lv) (sk s a+1)) fun u b=>prs n (.more lv (tTwo (op1 lv) t u)) b
    else if bAt s (sk s a)=c2 lv then andT (prs n (part lv) (sk s a+1)) fun u b=>prs n (.more lv (tTwo (op2 lv) t u)) b
    else some (.ok t (sk s a))
  | n+1,.sign,a=>if bAt s (sk s a)=45 then andT (prs n .sign (sk s a+1)) fun t b=>some (.ok (tOne 7 t) b) else prs n .pow (sk s a)
  | n+1,.pow,a=>andT (prs n .atom a) fun t b=>if bAt s (sk s b)=94 then some (pwrR s t (sk s b+1)) else some (.ok t (sk s b))
  | n + 1,.atom,a =>
    if isDd (bAt s (sk s a))=true then match nf (s.extract (sk s a) (rn isDd s (sk s a))) with
      | some q=>some (.ok (tNum q) (rn isDd s (sk s a)))
      | none=>some (.err (sk s a))
    else if chL (bAt s (sk s a))∨bAt s (sk s a)=95 then
      if isCall (s.extract (sk s a) (rn isNn s (sk s a)))=true then prs n (.call (callN (s.extract (sk s a) (rn isNn s (sk s a))))) (rn isNn s (sk s a))
      else if isNm (s.extract (sk s a) (rn isNn s (sk s a)))=true then some (.ok (tNam (s.extract (sk s a) (rn isNn s (sk s a)))) (rn isNn s (sk s a)))
      else some (.err (sk s a))
    else if bAt s (sk s a)=91 then
      if rn isNb s (sk s a+1)=s.size then some (.err (sk s a)) else match bf (s.extract (sk s a+1) (rn isNb s (sk s a+1))) with
      | some q=>some (.ok (tNum q) (rn isNb s (sk s a+1)+1))
      | none=>some (.err (sk s a))
    else if bAt s (sk s a)=40 then andT (prs n .sum (sk s a+1)) fun t b=>if bAt s (sk s b)=41 then some (.ok t (sk s b+1)) else some (.err (sk s b))
    else some (.err (sk s a))
  | n + 1,.call op,a =>
    if bAt s (sk s a)=40 then andT (prs n .sum (sk s a+1)) fun t b =>
      if op=12∨op=13 then
        if bAt s (sk s b)=44 then andT (prs n .sum (sk s b+1)) fun u c=>if bAt s (sk s c)=41 then some (.ok (tTwo op t u) (sk s c+1)) else some (.err (sk s c))
        else some (.err (sk s b))
      else if bAt s (sk s b)=41 then some (.ok (tOne op t) (sk s b+1)) else some (.err (sk s b))
    else some (.err (sk s a))
variable {nf bf s}
theorem andT_ok {x:Option PR}{f:Tm→Nat→Option PR}{t:Tm}{b:Nat}(h:andT x f=some (.ok t b)):∃ u a,x=some (.ok u a)∧f u a=some (.ok t b):=by
  match x,h with
  | some (.ok u a),h=>exact ⟨u,a,rfl,h⟩
def top (lv:Bool):PKd:=if lv then .prod else .sum
section
variable {n a b:Nat} {t u:Tm} {lv:Bool} {op:Int}
theorem prs_pos {k:PKd}{r:PR}(h:prs nf bf s n k a=some r):∃ m,n=m+1:=by
  cases n with
  | zero=>cases h
  | succ m=>exact ⟨m,rfl⟩
theorem prs_top (h:prs nf bf s (n+1) (top lv) a=some (.ok t b)):∃ u c,prs nf bf s n (part lv) a=some (.ok u c)∧prs nf bf s n (.more lv u) c=some (.ok t b):=by
  cases lv<;>exact andT_ok h
theorem prs_more1 (h:prs nf bf s (n+1) (.more lv u) a=some (.ok t b))(c:bAt s (sk s a)=c1 lv):∃ v e,prs nf bf s n (part lv) (sk s a+1)=some (.ok v e)∧prs nf bf s n (.more lv (tTwo (op1 lv) u v)) e=some (.ok t b):=by
  unfold prs at h;rw[if_pos c] at h;exact andT_ok h
theorem prs_more2 (h:prs nf bf s (n+1) (.more lv u) a=some (.ok t b))(d:bAt s (sk s a)≠c1 lv)(c:bAt s (sk s a)=c2 lv):∃ v e,prs nf bf s n (part lv) (sk s a+1)=some (.ok v e)∧prs nf bf s n (.more lv (tTwo (op2 lv) u v)) e=some (.ok t b):=by
  unfold prs at h;rw[if_neg d,if_pos c] at h;exact andT_ok h
theorem prs_more0 (h:prs nf bf s (n+1) (.more lv u) a=some (.ok t b))(d:bAt s (sk s a)≠c1 lv)(c:bAt s (sk s a)≠c2 lv):t=u∧b=sk s a:=by
  unfold prs at h;rw[if_neg d,if_neg c] at h;injection h with h;injection h with h1 h2;exact ⟨h1.symm,h2.symm⟩
theorem prs_neg (h:prs nf bf s (n+1) .sign a=some (.ok t b))(c:bAt s (sk s a)=45):∃ v,prs nf bf s n .sign (sk s a+1)=some (.ok v b)∧t=tOne 7 v:=by
  unfold prs at h;rw[if_pos c] at h
  obtain ⟨v,e,h1,h2⟩:=andT_ok h
  injection h2 with h2;injection h2 with h2 h3;subst h3;exact ⟨v,h1,h2.symm⟩
theorem prs_sign0 (h:prs nf bf s (n+1) .sign a=some (.ok t b))(c:bAt s (sk s a)≠45):prs nf bf s n .pow (sk s a)=some (.ok t b):=by
  unfold prs at h;rw[if_neg c] at h;exact h
theorem prs_pow (h:prs nf bf s (n+1) .pow a=some (.ok t b)):∃ v e,prs nf bf s n .atom a=some (.ok v e)∧(bAt s (sk s e)≠94→t=v∧b=sk s e)∧(bAt s (sk s e)=94→pwrR s v (sk s e+1)=.ok t b):=by
  unfold prs at h
  obtain ⟨v,e,h1,h2⟩:=andT_ok h;refine ⟨v,e,h1,fun c=>?_,fun c=>?_⟩
  · rw[if_neg c] at h2;injection h2 with h2;injection h2 with h2 h3;exact ⟨h2.symm,h3.symm⟩
  · rw[if_pos c] at h2;injection h2
theorem pwrR_ok {v:Tm}(h:pwrR s v a=.ok t b):∃ k,natP (s.extract (sk s (if bAt s (sk s a)=45 then sk s a+1 else sk s a)) b)=some k∧b=rn isDg s (sk s (if bAt s (sk s a)=45 then sk s a+1 else sk s a))∧b-sk s (if bAt s (sk s a)=45 then sk s a+1 else sk s a)≤3∧t=.mk 8 (if bAt s (sk s a)=45 then -(k:Int) else k) 0 ⟨#[]⟩ [v]:=by
  have e1:∀ x y:Nat,(if decide (bAt s (sk s a)=45)=true then x else y)=if bAt s (sk s a)=45 then x else y:=fun x y=>by by_cases c:bAt s (sk s a)=45<;>simp[c]
  have e2:∀ x y:Int,(if decide (bAt s (sk s a)=45)=true then x else y)=if bAt s (sk s a)=45 then x else y:=fun x y=>by by_cases c:bAt s (sk s a)=45<;>simp[c]
  unfold pwrR at h
  dsimp only at h
  rw[e1] at h
  generalize sk s (if bAt s (sk s a)=45 then sk s a+1 else sk s a)=B at h ⊢
  by_cases c:3<rn isDg s B-B
  · rw[if_pos c] at h;cases h
  · rw[if_neg c] at h
    revert h
    cases hk:natP (s.extract B (rn isDg s B)) with
    | none=>intro h;cases h
    | some k =>
      intro h
      injection h with h1 h2
      subst h2;rw[e2] at h1
      exact ⟨k,hk,rfl,by omega,h1.symm⟩
section
variable (h:prs nf bf s (n+1) .atom a=some (.ok t b))
include h
theorem prs_num (c:isDd (bAt s (sk s a))=true):∃ q,nf (s.extract (sk s a) (rn isDd s (sk s a)))=some q∧t=tNum q∧b=rn isDd s (sk s a):=by
  unfold prs at h;rw[if_pos c] at h
  split at h
  · rename_i q hq;injection h with h;injection h with h1 h2;exact ⟨q,hq,h1.symm,h2.symm⟩
  · cases h
variable (c0:isDd (bAt s (sk s a))=false)
include c0
theorem prs_fn (c:chL (bAt s (sk s a))∨bAt s (sk s a)=95)(d:isCall (s.extract (sk s a) (rn isNn s (sk s a)))=true):prs nf bf s n (.call (callN (s.extract (sk s a) (rn isNn s (sk s a))))) (rn isNn s (sk s a))=some (.ok t b):=by
  unfold prs at h;rw[if_neg (by rw[c0];decide),if_pos c,if_pos d] at h;exact h
theorem prs_nam (c:chL (bAt s (sk s a))∨bAt s (sk s a)=95)(d:isCall (s.extract (sk s a) (rn isNn s (sk s a)))=false):isNm (s.extract (sk s a) (rn isNn s (sk s a)))=true∧t=tNam (s.extract (sk s a) (rn isNn s (sk s a)))∧b=rn isNn s (sk s a):=by
  unfold prs at h;rw[if_neg (by rw[c0];decide),if_pos c,if_neg (by rw[d];decide)] at h
  split at h
  · rename_i e;injection h with h;injection h with h1 h2;exact ⟨e,h1.symm,h2.symm⟩
  · cases h
variable (cL:¬(chL (bAt s (sk s a))∨bAt s (sk s a)=95))
include cL
theorem prs_br (c:bAt s (sk s a)=91):rn isNb s (sk s a+1)≠s.size∧∃ q,bf (s.extract (sk s a+1) (rn isNb s (sk s a+1)))=some q∧t=tNum q∧b=rn isNb s (sk s a+1)+1:=by
  unfold prs at h;rw[if_neg (by rw[c0];decide),if_neg cL,if_pos c] at h
  split at h
  · cases h
  · rename_i d
    split at h
    · rename_i q hq;injection h with h;injection h with h1 h2;exact ⟨d,q,hq,h1.symm,h2.symm⟩
    · cases h
variable (c9:bAt s (sk s a)≠91)
include c9
theorem prs_par (c:bAt s (sk s a)=40):∃ e,prs nf bf s n .sum (sk s a+1)=some (.ok t e)∧bAt s (sk s e)=41∧b=sk s e+1:=by
  unfold prs at h;rw[if_neg (by rw[c0];decide),if_neg cL,if_neg c9,if_pos c] at h
  obtain ⟨v,e,h1,h2⟩:=andT_ok h
  split at h2
  · rename_i d;injection h2 with h2;injection h2 with h2 h3;subst h2;exact ⟨e,h1,d,h3.symm⟩
  · cases h2
theorem prs_no (c:bAt s (sk s a)≠40):False:=by
  unfold prs at h;rw[if_neg (by rw[c0];decide),if_neg cL,if_neg c9,if_neg c] at h;cases h
end
theorem prs_call (h:prs nf bf s (n+1) (.call op) a=some (.ok t b)):bAt s (sk s a)=40∧∃ u e,prs nf bf s n .sum (sk s a+1)=some (.ok u e)∧((op=12∨op=13)→bAt s (sk s e)=44∧∃ v f,prs nf bf s n .sum (sk s e+1)=some (.ok v f)∧bAt s (sk s f)=41∧t=tTwo op u v∧b=sk s f+1)∧(¬(op=12∨op=13)→bAt s (sk s e)=41∧t=tOne op u∧b=sk s e+1):=by
  unfold prs at h
  split at h
  · rename_i c
    obtain ⟨u,e,h1,h2⟩:=andT_ok h;refine ⟨c,u,e,h1,fun ho=>?_,fun ho=>?_⟩
    · rw[if_pos ho] at h2
      split at h2
      · rename_i d
        obtain ⟨v,f,h3,h4⟩:=andT_ok h2
        split at h4
        · rename_i g;injection h4 with h4;injection h4 with h4 h5;exact ⟨d,v,f,h3,g,h4.symm,h5.symm⟩
        · cases h4
      · cases h2
    · rw[if_neg ho] at h2
      split at h2
      · rename_i d;injection h2 with h2;injection h2 with h2 h3;exact ⟨d,h2.symm,h3.symm⟩
      · cases h2
  · cases h
end
end
def PtH (h:Hp)(p:PTm)(t:Tm):Prop:=∃ d,TmH d h p t
theorem PtH.gw {h h':Hp}{p:PTm}{t:Tm}(x:PtH h p t)(u:Gw h h'):PtH h' p t:=by obtain ⟨d,x⟩:=x;exact ⟨d,x.gw u⟩
theorem PtH.one {h:Hp}{op n:Int}{p:PTm}{t:Tm}{b:Nat}(x:PtH h p t)(hA:SlO 9 ptc ptm0 h (some ⟨b,0,none⟩) [p]):PtH h ⟨op,n,0,⟨#[]⟩,some ⟨b,0,none⟩,1,1⟩ (.mk op n 0 ⟨#[]⟩ [t]):=by
  obtain ⟨d,x⟩:=x
  exact ⟨d+1,TmH.mk (ps:=[p]) (ks:=[t]) ⟨rfl,fun i hi=>by
    have:i=0:=by have:i<1:=hi;omega
    subst this;exact x⟩ (Nat.le_refl _) hA⟩
theorem PtH.two {h:Hp}{op:Int}{p q:PTm}{t u:Tm}{b:Nat}(x:PtH h p t)(y:PtH h q u)(hA:SlO 9 ptc ptm0 h (some ⟨b,0,none⟩) [p,q]):PtH h ⟨op,0,0,⟨#[]⟩,some ⟨b,0,none⟩,2,2⟩ (tTwo op t u):=by
  obtain ⟨d,x⟩:=x;obtain ⟨e,y⟩:=y
  exact ⟨max d e+1,TmH.mk (ps:=[p,q]) (ks:=[t,u]) ⟨rfl,fun i hi=>by
    have:i=0∨i=1:=by have:i<2:=hi;omega
    rcases this with rfl|rfl
    · exact x.mono (Nat.le_max_left _ _)
    · exact y.mono (Nat.le_max_right _ _)⟩ (Nat.le_refl _) hA⟩
theorem PtH.num {h:Hp}{q:Rat}:PtH h ⟨1,0,q,⟨#[]⟩,none,0,0⟩ (tNum q):=⟨1,TmH.mk (ps:=[]) (ks:=[]) Tms.nil (Nat.le_refl _) SlO.nil⟩
theorem PtH.nam {h:Hp}{s:ByteArray}:PtH h ⟨2,0,0,s,none,0,0⟩ (tNam s):=⟨1,TmH.mk (ps:=[]) (ks:=[]) Tms.nil (Nat.le_refl _) SlO.nil⟩
section ops
variable {P:Program} {Γ:Env} {o:Oper}
theorem opSlS2 {tx:TypeId}{x i e:Operand}{k k2:IntKind}{s:ByteArray}{n m:Nat}{j j2:Int}(ho:o.op=.slice tx x (some i) (some e) none)(hx:ev Γ x=.string s)(hi:ev Γ i=.int k j)(he:ev Γ e=.int k2 j2)(hu:P.underlying tx=some .string)(hj:j=(n:Int))(hj2:j2=(m:Int))(hn:n≤m)(hm:m≤s.size)(w:World) :
    (execOp (ev Γ) o).run P w=.ok (.value (.string (s.extract n m))) w:=by
  unfold execOp;simp only[ho]
  subst hj;subst hj2;have h0:(m:Int)≤(s.size:Int):=by omega
  simp[Instr.sliceAt,hx,hi,he,Instr.slice,run_underlying hu,Instr.sliceBounds,Instr.sliceBound,asIntOf,Result.andThen,h0,hn,hm]
end ops
structure Whole (lo:Nat) (h:Hp) (b:Nat) (ty:TypeId) (vs:List Value):Prop where
  lo:lo≤b
  ty0:(ty == 0)=false
  at_:h[b]?=some (.cells vs.toArray ty (0,0))
section ss
variable {w0:World} {h0:Hp} {w:World} {h:Hp} {B:List Bx} {R:List Rw} {F:List (Hp→Prop)}
end ss
structure Poked (h h':Hp) (b:Nat):Prop where
  oth:∀ c,c≠b→c<h.size→h'[c]?=h[c]?
section ss
variable {w0:World} {h0:Hp} {w:World} {h:Hp} {B:List Bx} {R:List Rw} {F:List (Hp→Prop)}
end ss
section laws
variable {M:Ms} {P:Program} {n:Nat} {N R:Po} {X:Nat→Po} {ops:Array Oper} {k k0:Nat} {hr:Hp} {AL:List Al} {L:Array Bool} {Γ:Env} {w:World} {h:Hp} {w0:World} {h0:Hp} {B:List Bx} {Rs:List Rw} {F:List (Hp→Prop)}
theorem tC (i t:Nat){f:FuncId}{args:Array Value}(c:Calls P f args w fun e w'=>∃ v,e=.returned v∧Tl M w w'∧AG M P n N R X ops k0 (L.setIfInBounds i true) ((t,v)::Γ) w')(hc:(chkT ops k0 L i && knownOp Γ (opAt ops i) && ((opAt ops i).dst == some t) && decide (t<n))=true:=by kernel_rfl)(hw:wantE ops Γ (opAt ops i)=some true:=by kernel_rfl)
    (hr:(execOp (ev Γ) (opAt ops i)).run P w=.ok (.enter f args) w:=by kernel_rfl):AG M P n N R X ops k0 L Γ w:=by
  simp only[Bool.and_eq_true,decide_eq_true_eq,beq_iff_eq] at hc
  obtain ⟨⟨⟨h1,h2⟩,h3⟩,h4⟩:=hc;obtain ⟨hg,hs⟩:=chkT_get h1;intro a ka;refine A.one h1 hg (R':=fun v w'=>Tl M w w'∧AG M P n N R X ops k0 (L.setIfInBounds i true) ((t,v)::Γ) w') ⟨ka.want hw,.inr (.inr ⟨f,args,?_,c⟩)⟩ (fun v w' hq=>hq.1) (fun v w' hq=>?_)
  · rw[ka.exec (Region.noSelect_spec hs i _ · · hg) h2];exact hr
  · rw[h3];exact hq.2 _ (ka.put h4 v)
theorem lAu (t:Nat)(ty:TypeId)(vs:List Value)(s:SS w0 h0 w h B Rs F)(H:∀ b w' h',Up w h w' h'→h.size≤b→SS w0 h0 w' h' (⟨b,ty,vs⟩::B) Rs F→LG P n N R X ops (k+1) ((t,.pointer (some ⟨b,0,none⟩))::Γ) w')(hc:cL ops Γ k t n=true:=by kernel_rfl)
    (hr:(execOp (ev Γ) (opAt ops k)).run P w=.ok (.value (.pointer (some ⟨w.heap.size,0,none⟩))) (w.alloc (.cells vs.toArray ty (0,0))):=by kernel_rfl):LG P n N R X ops k Γ w :=
  LG.var t ty vs s.st (cL_1 hc).1 (cL_1 hc).2 hr (fun b w' h' hb u s'=>H b w' h' u hb (s.new u hb s'))
theorem UpM.put2 {M2:List Nat}{wa w':World}{ha:Hp}{b:Nat}(u:UpM M2 wa ha w h)(p:Put b w w')(hb:ha.size≤b)(ga:G wa ha)(g:G w' h):UpM M2 wa ha w' h :=
  ⟨⟨p.os.trans u.mo.os,p.tape.trans u.mo.tape,p.output.trans u.mo.output,by rw[p.size];exact u.mo.size,fun c hc hm=>(p.blk c (fun e=>by subst e;have:=ga.size;omega)).trans (u.mo.blk c hc hm)⟩,u.gr,g⟩
end laws
section
variable {M:Ms} {P:Program} {n:Nat} {N R:Po} {X:Nat→Po} {ops:Array Oper} {k0:Nat} {hr:Hp} {AL:List Al} {L:Array Bool} {Γ:Env} {w:World} {h:Hp} {w0:World} {h0:Hp} {B:List Bx} {Rs:List Rw} {F:List (Hp→Prop)} {M2:List Nat} {wa:World} {ha:Hp}
theorem SS.pubM (s:SS w0 h0 w h B Rs F)(u:UpM M2 wa ha w h)(j:Nat)(hlo:ha.size≤(bxAt B j).b)(hj:decide (j<B.length)=true:=by kernel_rfl):∃ h',SS w0 h0 w h' (B.eraseIdx j) Rs F∧UpM M2 wa ha w h'∧Seg h' (bxAt B j).b 0 (bxAt B j).vs:=by
  have hj':=oT hj;obtain ⟨h',s',gw,sg,hc,oth⟩:=s.st.pubX j hj';have hm:=bxAt_mem hj';refine ⟨h',⟨s.g0,s',fun r hr=>((s.ro r hr).out (List.mem_map.2 ⟨_,hm,rfl⟩) oth).sub _ (fun b hb=>?_),s.ap,s.mo,s.f.gw s.mo gw⟩,⟨u.mo,⟨Nat.le_trans u.gr.size gw.size,fun b hb=>?_⟩,s'.up.g⟩,sg⟩
  · obtain ⟨x,hx,e⟩:=List.mem_map.1 hb
    exact List.mem_map.2 ⟨x,List.mem_of_mem_eraseIdx hx,e⟩
  · exact (oth b (fun e=>by subst e;omega)).trans (u.gr.blk b hb)
theorem eCh (i t:Nat){f:FuncId}{args:Array Value}{Φ:World→Hp→Value→Hp→Prop}(s:SS w0 h0 w h B Rs F)(m:UpM M2 wa ha w h)(c:∀ w1 h1,SS w0 h0 w1 h1 B Rs F→Calls P f args w1 (Ret w1 h1 (Φ w1 h1)))(H:∀ w1 h1 v w' h',UpM M2 wa ha w' h'→SS w0 h0 w' h' B Rs F→Φ w1 h1 v h'→EG M P n N R X ops k0 hr AL (L.setIfInBounds i true) ((t,v)::Γ) w' h')(hc:cEv n ops k0 AL L Γ i t=true:=by kernel_rfl)(hv:∀ w,(execOp (ev Γ) (opAt ops i)).run P w=.ok (.enter f args) w:=by intro _;kernel_rfl):EG M P n N R X ops k0 hr AL L Γ w h :=
  Rg.call i t f args (cEv_1 hc).1 (cEv_1 hc).2 hv (fun w1 h1 u=>(c w1 h1 (s.step u)).mono fun e w' ⟨v,h',he,u2,hΦ⟩=>⟨v,h',he,u2.m M.l,H w1 h1 v w' h' (m.trans ((u.m _).trans (u2.m _))) ((s.step u).step u2) hΦ⟩)
theorem eD1h {F1:List (Hp→Prop)}{wr:World}{x:Al}(pre:List Bx)(sr:SS w0 h0 wr hr B Rs F1)(s:SS w0 h0 w h (pre++B) Rs F)(m:UpM M2 wa ha w h)(hs:ha.size≤hr.size)(t:TypeId)(vs:List Value)(H:∀ w' h' b,UpM M2 wa ha w' h'→ha.size≤b→SS w0 h0 w' h' (⟨b,t,vs⟩::(pre++B)) Rs F→AG M P n N R X ops k0 (L.setIfInBounds x.i true) ((x.t,.pointer (some ⟨b,0,none⟩))::Γ) w')(hc:(chkFin ops [x] L && decide (x.t<n))=true:=by kernel_rfl)(ho:x.o=.cells vs.toArray t (0,0):=by kernel_rfl)(hp:pre.all (fun y=>y.t != t)=true:=by kernel_rfl):EG M P n N R X ops k0 hr [x] L Γ w h :=
  Rg.fin1 hc (fun w' h' b u k=>H w' h' b (m.trans (u.m _)) (Nat.le_trans hs k.2.2) (SS.blkp pre sr (s.step u) k t vs ho hp))
theorem tPu (i j o:Nat)(cs:List Value)(s:SS w0 h0 w h B Rs F)(H:∀ w',Put (bxAt B j).b w w'→SS w0 h0 w' h (setB B j o cs) Rs F→AG M P n N R X ops k0 (L.setIfInBounds i true) Γ w')(hc:cTs ops k0 L Γ i=true:=by kernel_rfl)
    (hj:(decide (j<B.length) && decide (o+cs.length≤(bxAt B j).vs.length))=true:=by kernel_rfl)(he:evalW P (execOp (ev Γ) (opAt ops i))=some (.skip,mkl (bxAt B j).b o cs):=by kernel_rfl)(hz:∀ K bs,M.z=some (K,bs)→K≤(bxAt B j).b∨(bxAt B j).b∈bs:=by intro _ _ e;cases e):AG M P n N R X ops k0 L Γ w :=
  T.put i j o cs s.st s.g0 (cTs_1 hc).1 (cTs_1 hc).2 hj he (fun w' p s'=>H w' p (s.put0 (oT (Bool.and_eq_true _ _▸hj).1) p s' (setB_b (oT (Bool.and_eq_true _ _▸hj).1)))) hz
end
theorem tLetterA (c:Nat)(hc:c<256)(w:World)(h:Hp)(g:G w h):CV 98 #[.int .u8 (c:Nat)] w h (.bool (decide (chL (c)))):=by
 have hs:=sS g;refine go Tryz.func98 [(0,.int .u8 (c:Nat))] rfl (cSLlL hs [.v 2 qF] (lNS (lL hs [.m 3 0] ?_)));cases hb1:(decide ((97:Int)≤(c:Int)))
 ·
  have phb1:=oF hb1;refine lB 4 hb1 (lL hs [.m 5 4] (lG 6 ?_));refine lG 7 (lL hs [.v 8 qF,.m 9 8,.m 10 0] ?_);cases hb2:(decide ((65:Int)≤(c:Int)))
  ·
   have phb2:=oF hb2;refine lB 11 hb2 (lL hs [.m 12 11] (lG 13 ?_));exact lG 14 (lL hs [.v 15 qF,.v 16 qF,.m 2 16] (lNkXr hs [] qF (congrArg Value.bool (decide_eq_false (by unfold chL;omega)).symm)))
  have phb2:=oT hb2;refine lB 11 hb2 (lL hs [.m 12 11,.m 13 0] ?_);cases hb3:(decide ((c:Int)≤(90:Int)))
  ·
   have phb3:=oF hb3;exact lB 14 hb3 (lL hs [.v 15 qF,.v 16 qF,.m 2 16] (lNkXr hs [] qF (congrArg Value.bool (decide_eq_false (by unfold chL;omega)).symm)))
  have phb3:=oT hb3;exact lB 14 hb3 (lL hs [.v 15 qT,.v 16 qT,.m 2 16] (lNkXr hs [] qT (congrArg Value.bool (decide_eq_true (by unfold chL;omega)).symm)))
 have phb1:=oT hb1;refine lB 4 hb1 (lL hs [.m 5 4,.m 6 0] ?_);cases hb4:(decide ((c:Int)≤(122:Int)))
 ·
  have phb4:=oF hb4;refine lB 7 hb4 (lL hs [.v 8 qF,.m 9 8,.m 10 0] ?_);have ⟨hb5,phb5⟩:=dT (p:=(65:Int)≤(c:Int)) oM;refine lB 11 hb5 (lL hs [.m 12 11,.m 13 0] ?_);have ⟨hb6,phb6⟩:=dF (p:=(c:Int)≤(90:Int)) oM;exact lB 14 hb6 (lL hs [.v 15 qF,.v 16 qF,.m 2 16] (lNkXr hs [] qF (congrArg Value.bool (decide_eq_false (by unfold chL;omega)).symm)))
 have phb4:=oT hb4;refine lB 7 hb4 (lL hs [.v 8 qT,.m 9 8] (lG 10 ?_));exact lG 11 (lG 12 (lG 13 (lG 14 (lG 15 (lL hs [.v 16 qT,.m 2 16] (lNkXr hs [] qT (congrArg Value.bool (decide_eq_true (by unfold chL;omega)).symm)))))))
theorem tDigitA (c:Nat)(hc:c<256)(w:World)(h:Hp)(g:G w h):CV 140 #[.int .u8 (c:Nat)] w h (.bool (decide (48≤(c)∧(c)≤57))):=by
 have hs:=sS g;refine go Tryz.func140 [(0,.int .u8 (c:Nat))] rfl (cSLlL hs [.v 2 qF] (lNS (lL hs [.m 3 0] ?_)));cases hb1:(decide ((48:Int)≤(c:Int)))
 ·
  have phb1:=oF hb1;refine lB 4 hb1 (lL hs [.m 5 4] (lG 6 ?_));exact lG 7 (lL hs [.v 8 qF,.m 2 8] (lNkXr hs [] qF (congrArg Value.bool (decide_eq_false oM).symm)))
 have phb1:=oT hb1;refine lB 4 hb1 (lL hs [.m 5 4,.m 6 0] ?_);cases hb2:(decide ((c:Int)≤(57:Int)))
 ·
  have phb2:=oF hb2;exact lB 7 hb2 (lL hs [.v 8 qF,.m 2 8] (lNkXr hs [] qF (congrArg Value.bool (decide_eq_false oM).symm)))
 have phb2:=oT hb2;exact lB 7 hb2 (lL hs [.v 8 qT,.m 2 8] (lNkXr hs [] qT (congrArg Value.bool (decide_eq_true oM).symm)))
theorem tInnameA (c:Nat)(hc:c<256)(w:World)(h:Hp)(g:G w h):CV 99 #[.int .u8 (c:Nat)] w h (.bool (decide (chN (c)))):=by
 have hs:=sS g;refine go Tryz.func99 [(0,.int .u8 (c:Nat))] rfl (cSLlL hs [.v 2 qF] (lNS (lL hs [.m 3 0] (lCval 4 hs (tLetterA c hc _ _ hs.g) (fun w1 h2 hs=>?_)))));cases hb3:(decide (chL (c)))
 ·
  have phb3:=oF hb3;refine lL hs [.m 5 4,.m 6 0] (lCval 7 hs (tDigitA c hc _ _ hs.g) (fun w4 h5 hs=>?_));cases hb6:(decide (48≤(c)∧(c)≤57))
  ·
   have phb6:=oF hb6;refine lL hs [.v 8 qF,.m 9 8,.m 10 0] ?_;cases hb7:((c:Int) == (95:Int))
   ·
    have phb7:=neOfBeq hb7;exact lB 11 hb7 (lL hs [.v 12 qF,.m 2 12] (lNkXr hs [] qF (congrArg Value.bool (decide_eq_false (by unfold chL at *;unfold chN;omega)).symm)))
   have phb7:=eq_of_beq hb7;exact lB 11 hb7 (lL hs [.v 12 qT,.m 2 12] (lNkXr hs [] qT (congrArg Value.bool (decide_eq_true (by unfold chL at *;unfold chN;omega)).symm)))
  have phb6:=oT hb6;refine lL hs [.v 8 qT,.m 9 8] (lG 10 ?_);exact lG 11 (lL hs [.v 12 qT,.m 2 12] (lNkXr hs [] qT (congrArg Value.bool (decide_eq_true (by unfold chL at *;unfold chN;omega)).symm)))
 have phb3:=oT hb3;refine lL hs [.m 5 4] (lG 6 ?_);refine lG 7 (lL hs [.v 8 qT,.m 9 8] (lG 10 ?_));exact lG 11 (lL hs [.v 12 qT,.m 2 12] (lNkXr hs [] qT (congrArg Value.bool (decide_eq_true (by unfold chL at *;unfold chN;omega)).symm)))
theorem tCallsA  (w:World)(h:Hp)(g:G w h):CR 100 #[] w h (fun v h1=>∃ b,v=.map (some b)∧MapS h1 b callEs):=by
 have hs:=sS g;refine go Tryz.func100 [] rfl (cSLlL hs [.v 0 (.map none)] (lNS (lMk 1 hs (fun b1 w2 h3 hs hmp4=>lMu 151 9 3 (⟨#[97,98,115]⟩) (iV 9) hs hmp4 (fun w5 hs hmp6=>lMu 151 9 3 (⟨#[114,97,109,112]⟩) (iV 10) hs hmp6 (fun w7 hs hmp8=>lMu 151 9 3 (⟨#[98,101,110,100]⟩) (iV 11) hs hmp8 (fun w9 hs hmp10=>lMu 151 9 3 (⟨#[109,97,120]⟩) (iV 12) hs hmp10 (fun _ hs hmp12=>lMu 151 9 3 (⟨#[109,105,110]⟩) (iV 13) hs hmp12 (fun _ hs hmp14=>lL hs [.m 2 1] ?_)))))))));obtain ⟨_,hs,sg16⟩:=hs.pubMap hmp14;replace hs:=hs.to [] [];replace hs:=hs.add (K:=fun h_=>MapS h_ b1 [⟨.string (⟨#[97,98,115]⟩),iV 9,0⟩,⟨.string (⟨#[114,97,109,112]⟩),iV 10,1⟩,⟨.string (⟨#[98,101,110,100]⟩),iV 11,2⟩,⟨.string (⟨#[109,97,120]⟩),iV 12,3⟩,⟨.string (⟨#[109,105,110]⟩),iV 13,4⟩]) sg16;exact lL hs [.m 0 2] (lNkXr hs [] (.map (some b1)) (⟨_,rfl,hs.f.1⟩))
theorem tIsA (s:ByteArray)(hs:s.size≤1000000)(w:World)(h:Hp)(g:G w h):CV 61 #[.string s] w h (.bool (isNm s)):=by
 have hs:=sS g;refine go Tryz.func61 [(0,.string s)] rfl (cSLlL hs [.v 2 qF] (lNcQ (cSLlL hs [.m 6 0,.v 7 (nV s.size)] ?_)));cases hb1:(decide ((s.size:Int)<(1:Int)))
 ·
  have phb1:=oF hb1;refine lB 8 hb1 (lL hs [.m 9 8,.m 10 0,.v 11 (nV s.size)] ?_);cases hb2:(decide ((20:Int)<(s.size:Int)))
  ·
   have phb2:=oF hb2;refine lB 12 hb2 (lL hs [.v 13 qF,.m 14 13,.m 15 0] (lV 16 (.int .u8 (bAt s 0:Nat)) ?_ (hr:=opIdxS (tx:=9) (x:=.tmp 15) (i:=.const (iV 0)) (k:=.i64) (s:=s) (n:=0) (j:=(0:Int)) kR kR kR kR oM oM _)));refine lCval 17 hs (tLetterA ((bAt s 0)) (bAt_lt _ _) _ _ hs.g) (fun w3 h4 hs=>?_);cases hb5:(decide (chL ((bAt s 0))))
   ·
    have phb5:=oF hb5;exact lL hs [.v 18 qT,.v 19 qT] (lNIT (cSLlL hs [.v 2 qF] (lNkXr hs [] qF (nm_f1 (fun h_=>by have h1_:=h_.1;have h2_:=h_.2.1;first|omega|exact absurd h_.2.2 aM)))))
   have phb5:=oT hb5;refine lL hs [.v 18 qF,.v 19 qF] (lNIF (cK (cQ (cSLlL hs [.m 20 0,.v 21 (nV s.size),.v 22 (iV 0)] (lNkZ ?_)))));refine cTo _ (CG.loop (fun μ_ Γ w_=>∃ (k:Nat) (h_:Hp),μ_=s.size-k∧Γ=[(0,.string s),(21,nV s.size),(22,nV k)]∧SS w h w_ h_ [] [] []∧k≤s.size∧(∀ i,i<k→chN (bAt s i))) _ ⟨0,h4,rfl,rfl,hs.to _ _,Nat.zero_le _,(fun i hi=>absurd hi (Nat.not_lt_zero i))⟩ ?_);rintro _ _ w6 ⟨k,h7,hm8,rfl,hs,hk,hin⟩;refine cSL ?_;cases hb9:(decide ((k:Int)<(s.size:Int)))
   ·
    have phb9:=oF hb9;refine lB 23 hb9 (lNcQ (cIF (CG.exit ?_)))
    show CG _ _ _ _ _ _ _ _
    refine cSL (lC 32 hs (tCallsA _ _ hs.g) ?_);rintro _ _ _ hs ⟨bm,rfl,hcm⟩;replace hs:=(hs.add (K:=fun h_=>MapS h_ bm callEs) hcm);refine lL hs [.m 33 0] (lMr 34 151 9 3 (s) true (iV (callN s)) ((isCall s)) hs hs.f.1 ?_ (hf:=(by rcases call_lk s with ⟨i_,e1_,e2_⟩|⟨e1_,e2_,e3_⟩;exact .inl ⟨i_,e1_,e2_⟩;exact .inr ⟨e1_,e2_,fun _=>by rw[e3_];kernel_rfl⟩)));refine lL hs [.m 31 34,.v 35 (iV (callN s)),.v 36 (.bool (isCall s)),.m 4 35,.m 5 36] (lNS (lL hs [.m 37 5] ?_));cases za:(!(isCall s))
    ·
     refine lB 38 za (lL hs [.m 2 38] (lN (kX ?_)));have hq_:=nm_t (s:=s) ⟨by omega,by omega⟩ aM (fun i hi=>hin i oM);exact hs.ret [] qF (congrArg Value.bool (by rw[hq_];exact (by assumption:(!isCall s)=false).symm))
    refine lB 38 za (lL hs [.m 2 38] (lN (kX ?_)));have hq_:=nm_t (s:=s) ⟨by omega,by omega⟩ aM (fun i hi=>hin i oM);exact hs.ret [] qT (congrArg Value.bool (by rw[hq_];exact (by assumption:(!isCall s)=true).symm))
   have phb9:=oT hb9;refine lB 23 hb9 (lNcQ (cIT (cK (cQ (kZ (cSLlL hs [.m 24 22,.m 3 24] (lNS (lL hs [.m 25 0,.m 26 3] (lV 27 (.int .u8 (bAt s k:Nat)) ?_ (hr:=opIdxS (tx:=9) (x:=.tmp 25) (i:=.tmp 26) (k:=.i64) (s:=s) (n:=k) (j:=(k:Int)) kR kR kR kR oM oM _))))))))));refine lCval 28 hs (tInnameA ((bAt s k)) (bAt_lt _ _) _ _ hs.g) (fun _ zd hs=>?_);cases zb:(decide (chN ((bAt s k))))
   ·
    have zc:=oF zb;exact lL hs [.v 29 qT] (lNIT (cSLlL hs [.v 2 qF] (lNkXr hs [] qF (nm_f2 (i:=k) oM aM))))
   have zc:=oT zb;refine lL hs [.v 29 qF] (lNIF (cK (kQ (lIn 30 ((k:Nat)+1) (k+1) ?_))));refine lL hs [.m 22 30] (lD ?_);intro a_ ka;refine ⟨_,_,?_,⟨k+1,zd,rfl,rfl,hs.to _ _,oM,(fun i hi=>by rcases Nat.lt_succ_iff_lt_or_eq.1 hi with h_|rfl;exact hin i h_;assumption)⟩,ka.to _ kR⟩
   omega
  have phb2:=oT hb2;refine lB 12 hb2 (lL hs [.v 13 qT,.m 14 13] (lG 15 ?_));exact lG 16 (lG 17 (lG 18 (lL hs [.v 19 qT] (lNIT (cSLlL hs [.v 2 qF] (lNkXr hs [] qF (nm_f1 (fun h_=>by have h1_:=h_.1;have h2_:=h_.2.1;first|omega|exact absurd h_.2.2 aM))))))))
 have phb1:=oT hb1;refine lB 8 hb1 (lL hs [.m 9 8] (lG 10 ?_));refine lG 11 (lG 12 (lL hs [.v 13 qT,.m 14 13] (lG 15 ?_)));exact lG 16 (lG 17 (lG 18 (lL hs [.v 19 qT] (lNIT (cSLlL hs [.v 2 qF] (lNkXr hs [] qF (nm_f1 (fun h_=>by have h1_:=h_.1;have h2_:=h_.2.1;first|omega|exact absurd h_.2.2 aM))))))))
theorem rLetterA (c:Nat)(hc:c<256)(w:World)(h:Hp)(g:G w h):CV 101 #[.int .u8 (c:Nat)] w h (.bool (decide (chL (c)))):=by
 have hs:=sS g;refine go Tryz.func101 [(0,.int .u8 (c:Nat))] rfl (cSLlL hs [.v 2 qF] (lNS (lL hs [.m 3 0] ?_)));cases hb1:(decide ((97:Int)≤(c:Int)))
 ·
  have phb1:=oF hb1;refine lB 4 hb1 (lL hs [.m 5 4] (lG 6 ?_));refine lG 7 (lL hs [.v 8 qF,.m 9 8,.m 10 0] ?_);cases hb2:(decide ((65:Int)≤(c:Int)))
  ·
   have phb2:=oF hb2;refine lB 11 hb2 (lL hs [.m 12 11] (lG 13 ?_));exact lG 14 (lL hs [.v 15 qF,.v 16 qF,.m 2 16] (lNkXr hs [] qF (congrArg Value.bool (decide_eq_false (by unfold chL;omega)).symm)))
  have phb2:=oT hb2;refine lB 11 hb2 (lL hs [.m 12 11,.m 13 0] ?_);cases hb3:(decide ((c:Int)≤(90:Int)))
  ·
   have phb3:=oF hb3;exact lB 14 hb3 (lL hs [.v 15 qF,.v 16 qF,.m 2 16] (lNkXr hs [] qF (congrArg Value.bool (decide_eq_false (by unfold chL;omega)).symm)))
  have phb3:=oT hb3;exact lB 14 hb3 (lL hs [.v 15 qT,.v 16 qT,.m 2 16] (lNkXr hs [] qT (congrArg Value.bool (decide_eq_true (by unfold chL;omega)).symm)))
 have phb1:=oT hb1;refine lB 4 hb1 (lL hs [.m 5 4,.m 6 0] ?_);cases hb4:(decide ((c:Int)≤(122:Int)))
 ·
  have phb4:=oF hb4;refine lB 7 hb4 (lL hs [.v 8 qF,.m 9 8,.m 10 0] ?_);have ⟨hb5,phb5⟩:=dT (p:=(65:Int)≤(c:Int)) oM;refine lB 11 hb5 (lL hs [.m 12 11,.m 13 0] ?_);have ⟨hb6,phb6⟩:=dF (p:=(c:Int)≤(90:Int)) oM;exact lB 14 hb6 (lL hs [.v 15 qF,.v 16 qF,.m 2 16] (lNkXr hs [] qF (congrArg Value.bool (decide_eq_false (by unfold chL;omega)).symm)))
 have phb4:=oT hb4;refine lB 7 hb4 (lL hs [.v 8 qT,.m 9 8] (lG 10 ?_));exact lG 11 (lG 12 (lG 13 (lG 14 (lG 15 (lL hs [.v 16 qT,.m 2 16] (lNkXr hs [] qT (congrArg Value.bool (decide_eq_true (by unfold chL;omega)).symm)))))))
theorem rDigitA (c:Nat)(hc:c<256)(w:World)(h:Hp)(g:G w h):CV 102 #[.int .u8 (c:Nat)] w h (.bool (decide (48≤(c)∧(c)≤57))):=by
 have hs:=sS g;refine go Tryz.func102 [(0,.int .u8 (c:Nat))] rfl (cSLlL hs [.v 2 qF] (lNS (lL hs [.m 3 0] ?_)));cases hb1:(decide ((48:Int)≤(c:Int)))
 ·
  have phb1:=oF hb1;refine lB 4 hb1 (lL hs [.m 5 4] (lG 6 ?_));exact lG 7 (lL hs [.v 8 qF,.m 2 8] (lNkXr hs [] qF (congrArg Value.bool (decide_eq_false oM).symm)))
 have phb1:=oT hb1;refine lB 4 hb1 (lL hs [.m 5 4,.m 6 0] ?_);cases hb2:(decide ((c:Int)≤(57:Int)))
 ·
  have phb2:=oF hb2;exact lB 7 hb2 (lL hs [.v 8 qF,.m 2 8] (lNkXr hs [] qF (congrArg Value.bool (decide_eq_false oM).symm)))
 have phb2:=oT hb2;exact lB 7 hb2 (lL hs [.v 8 qT,.m 2 8] (lNkXr hs [] qT (congrArg Value.bool (decide_eq_true oM).symm)))
theorem rWordA (s:ByteArray)(w:World)(h:Hp)(g:G w h):CV 103 #[.string s] w h (.tuple #[iV (callN s),iV (callK s)]):=by
 have hs:=sS g;refine go Tryz.func103 [(0,.string s)] rfl (cSLlL hs [.v 2 (iV 0),.v 3 (iV 0)] (lNcQ (cSLlL hs [.m 4 0] (lNkZ (cSL ?_)))));cases hb1:(strQ s (⟨#[97,98,115]⟩))
 ·
  have phb1:=strQ_f hb1;refine lB 6 hb1 (lL hs [.m 5 6] (lNIF (cSL ?_)));cases hb2:(strQ s (⟨#[114,97,109,112]⟩))
  ·
   have phb2:=strQ_f hb2;refine lB 8 hb2 (lL hs [.m 7 8] (lNIF (cSL ?_)));cases hb3:(strQ s (⟨#[98,101,110,100]⟩))
   ·
    have phb3:=strQ_f hb3;refine lB 10 hb3 (lL hs [.m 9 10] (lNIF (cSL ?_)));cases hb4:(strQ s (⟨#[109,97,120]⟩))
    ·
     have phb4:=strQ_f hb4;refine lB 12 hb4 (lL hs [.m 11 12] (lNIF (cSL ?_)));cases hb5:(strQ s (⟨#[109,105,110]⟩))
     ·
      have phb5:=strQ_f hb5;refine lB 14 hb5 (lL hs [.m 13 14] (lNIF (cK (cSLlL hs [.v 2 (iV 0),.v 3 (iV 0)] (lN (kX ?_))))));have hc_:callN s=0:=by unfold callN;rw[if_neg (by assumption:¬s=⟨#[97,98,115]⟩),if_neg (by assumption:¬s=⟨#[114,97,109,112]⟩),if_neg (by assumption:¬s=⟨#[98,101,110,100]⟩),if_neg (by assumption:¬s=⟨#[109,97,120]⟩),if_neg (by assumption:¬s=⟨#[109,105,110]⟩)]
      exact hs.ret [] (.tuple #[iV 0,iV 0]) (by unfold callK;rw[hc_];rfl)
     have phb5:=strQ_t hb5;exact lB 14 hb5 (lL hs [.m 13 14] (lNIT (cSLlL hs [.v 2 (iV 13),.v 3 (iV 2)] (lNkXr hs [] (.tuple #[iV 13,iV 2]) (by rw[(by assumption:s=⟨#[109,105,110]⟩)];rfl)))))
    have phb4:=strQ_t hb4;exact lB 12 hb4 (lL hs [.m 11 12] (lNIT (cSLlL hs [.v 2 (iV 12),.v 3 (iV 2)] (lNkXr hs [] (.tuple #[iV 12,iV 2]) (by rw[(by assumption:s=⟨#[109,97,120]⟩)];rfl)))))
   have phb3:=strQ_t hb3;exact lB 10 hb3 (lL hs [.m 9 10] (lNIT (cSLlL hs [.v 2 (iV 11),.v 3 (iV 1)] (lNkXr hs [] (.tuple #[iV 11,iV 1]) (by rw[(by assumption:s=⟨#[98,101,110,100]⟩)];rfl)))))
  have phb2:=strQ_t hb2;exact lB 8 hb2 (lL hs [.m 7 8] (lNIT (cSLlL hs [.v 2 (iV 10),.v 3 (iV 1)] (lNkXr hs [] (.tuple #[iV 10,iV 1]) (by rw[(by assumption:s=⟨#[114,97,109,112]⟩)];rfl)))))
 have phb1:=strQ_t hb1;exact lB 6 hb1 (lL hs [.m 5 6] (lNIT (cSLlL hs [.v 2 (iV 9),.v 3 (iV 1)] (lNkXr hs [] (.tuple #[iV 9,iV 1]) (by rw[(by assumption:s=⟨#[97,98,115]⟩)];rfl)))))
theorem rIsA (s:ByteArray)(hs:s.size≤1000000)(w:World)(h:Hp)(g:G w h):CV 64 #[.string s] w h (.bool (isNm s)):=by
 have hs:=sS g;refine go Tryz.func64 [(0,.string s)] rfl (cSLlL hs [.v 2 qF] (lNcQ (cSLlL hs [.m 6 0,.v 7 (nV s.size)] ?_)));cases hb1:(decide ((s.size:Int)<(1:Int)))
 ·
  have phb1:=oF hb1;refine lB 8 hb1 (lL hs [.m 9 8,.m 10 0,.v 11 (nV s.size)] ?_);cases hb2:(decide ((20:Int)<(s.size:Int)))
  ·
   have phb2:=oF hb2;refine lB 12 hb2 (lL hs [.v 13 qF,.m 14 13,.m 15 0] (lV 16 (.int .u8 (bAt s 0:Nat)) ?_ (hr:=opIdxS (tx:=9) (x:=.tmp 15) (i:=.const (iV 0)) (k:=.i64) (s:=s) (n:=0) (j:=(0:Int)) kR kR kR kR oM oM _)));refine lCval 17 hs (rLetterA ((bAt s 0)) (bAt_lt _ _) _ _ hs.g) (fun w3 h4 hs=>?_);cases hb5:(decide (chL ((bAt s 0))))
   ·
    have phb5:=oF hb5;exact lL hs [.v 18 qT,.v 19 qT] (lNIT (cSLlL hs [.v 2 qF] (lNkXr hs [] qF (nm_f1 (fun h_=>by have h1_:=h_.1;have h2_:=h_.2.1;first|omega|exact absurd h_.2.2 aM)))))
   have phb5:=oT hb5;refine lL hs [.v 18 qF,.v 19 qF] (lNIF (cK (cQ (cSLlL hs [.v 3 (iV 0)] (lNkZ ?_)))));refine cTo _ (CG.loop (fun μ_ Γ w_=>∃ (k:Nat) (h_:Hp),μ_=s.size-k∧Γ=[(0,.string s),(3,nV k)]∧SS w h w_ h_ [] [] []∧k≤s.size∧(∀ i,i<k→chN (bAt s i))) _ ⟨0,h4,rfl,rfl,hs.to _ _,Nat.zero_le _,(fun i hi=>absurd hi (Nat.not_lt_zero i))⟩ ?_);rintro _ _ w6 ⟨k,h7,hm8,rfl,hs,hk,hin⟩;refine cQ (cSLlL hs [.m 20 3,.m 21 0,.v 22 (nV s.size)] ?_);cases hb9:(decide ((k:Int)<(s.size:Int)))
   ·
    have phb9:=oF hb9;refine lB 23 hb9 (lNIF (CG.exit ?_))
    show CG _ _ _ _ _ _ _ _
    refine cSLlL hs [.m 45 0] (lCval 46 hs (rWordA s _ _ hs.g) (fun _ _ hs=>lL hs [.m 44 46,.v 47 (iV (callN s)),.v 48 (iV (callK s)),.m 4 47,.m 5 48] (lNS (lL hs [.m 49 4] ?_))));cases za:(((callN s):Int) == (0:Int))
    ·
     have ze:=neOfBeq za;refine lB 50 za (lL hs [.m 2 50] (lN (kX ?_)));have hq_:=nm_t (s:=s) ⟨by omega,by omega⟩ aM (fun i hi=>hin i oM);exact hs.ret [] qF (congrArg Value.bool (by rw[hq_];unfold isCall;simp only[ne_eq,decide_not,Bool.not_not];exact (decide_eq_false oM).symm))
    have ze:=eq_of_beq za;refine lB 50 za (lL hs [.m 2 50] (lN (kX ?_)));have hq_:=nm_t (s:=s) ⟨by omega,by omega⟩ aM (fun i hi=>hin i oM);exact hs.ret [] qT (congrArg Value.bool (by rw[hq_];unfold isCall;simp only[ne_eq,decide_not,Bool.not_not];exact (decide_eq_true oM).symm))
   have phb9:=oT hb9;refine lB 23 hb9 (lNIT (cK (cQ (kZ (cSLlL hs [.m 26 0,.m 27 3] (lV 28 (.int .u8 (bAt s k:Nat)) ?_ (hr:=opIdxS (tx:=9) (x:=.tmp 26) (i:=.tmp 27) (k:=.i64) (s:=s) (n:=k) (j:=(k:Int)) kR kR kR kR oM oM _)))))));refine lCval 29 hs (rLetterA ((bAt s k)) (bAt_lt _ _) _ _ hs.g) (fun _ zk hs=>?_);cases zc:(decide (chL ((bAt s k))))
   ·
    have zf:=oF zc;refine lL hs [.v 30 qT,.m 31 30,.m 32 0,.m 33 3] (lV 34 (.int .u8 (bAt s k:Nat)) ?_ (hr:=opIdxS (tx:=9) (x:=.tmp 32) (i:=.tmp 33) (k:=.i64) (s:=s) (n:=k) (j:=(k:Int)) kR kR kR kR oM oM _));refine lCval 35 hs (rDigitA ((bAt s k)) (bAt_lt _ _) _ _ hs.g) (fun _ zj hs=>?_);cases zd:(decide (48≤((bAt s k))∧((bAt s k))≤57))
    ·
     have zg:=oF zd;refine lL hs [.v 36 qT,.v 37 qT,.m 38 37,.m 39 0,.m 40 3] (lV 41 (.int .u8 (bAt s k:Nat)) ?_ (hr:=opIdxS (tx:=9) (x:=.tmp 39) (i:=.tmp 40) (k:=.i64) (s:=s) (n:=k) (j:=(k:Int)) kR kR kR kR oM oM _));cases zb:(((bAt s k:Nat):Int) != (95:Int))
     ·
      have zi:=eqOfBne zb;refine lB 42 zb (lL hs [.v 43 qF] (lNIF (cK (kQ (lL hs [.m 24 3] (lIn 25 ((k:Nat)+1) (k+1) ?_))))));refine lL hs [.m 3 25] (lD ?_);intro a_ ka;refine ⟨_,_,?_,⟨k+1,zj,rfl,rfl,hs.to _ _,oM,(fun i hi=>by rcases Nat.lt_succ_iff_lt_or_eq.1 hi with h_|rfl;exact hin i h_;unfold chN;unfold chL at *;omega)⟩,ka.to _ kR⟩
      omega
     have zi:=neOfBne zb;exact lB 42 zb (lL hs [.v 43 qT] (lNIT (cSLlL hs [.v 2 qF] (lNkXr hs [] qF (nm_f2 (i:=k) oM (fun h_=>by unfold chN at h_;unfold chL at *;omega))))))
    have zg:=oT zd;refine lL hs [.v 36 qF,.v 37 qF,.m 38 37] (lG 39 ?_);refine lG 40 (lG 41 (lG 42 (lL hs [.v 43 qF] (lNIF (cK (kQ (lL hs [.m 24 3] (lIn 25 ((k:Nat)+1) (k+1) ?_))))))));refine lL hs [.m 3 25] (lD ?_);intro a_ ka;refine ⟨_,_,?_,⟨k+1,zj,rfl,rfl,hs.to _ _,oM,(fun i hi=>by rcases Nat.lt_succ_iff_lt_or_eq.1 hi with h_|rfl;exact hin i h_;unfold chN;unfold chL at *;omega)⟩,ka.to _ kR⟩
    omega
   have zf:=oT zc;refine lL hs [.v 30 qF,.m 31 30] (lG 32 ?_);refine lG 33 (lG 34 (lG 35 (lG 36 (lL hs [.v 37 qF,.m 38 37] (lG 39 ?_)))));refine lG 40 (lG 41 (lG 42 (lL hs [.v 43 qF] (lNIF (cK (kQ (lL hs [.m 24 3] (lIn 25 ((k:Nat)+1) (k+1) ?_))))))));refine lL hs [.m 3 25] (lD ?_);intro a_ ka;refine ⟨_,_,?_,⟨k+1,zk,rfl,rfl,hs.to _ _,oM,(fun i hi=>by rcases Nat.lt_succ_iff_lt_or_eq.1 hi with h_|rfl;exact hin i h_;unfold chN;unfold chL at *;omega)⟩,ka.to _ kR⟩
   omega
  have phb2:=oT hb2;refine lB 12 hb2 (lL hs [.v 13 qT,.m 14 13] (lG 15 ?_));exact lG 16 (lG 17 (lG 18 (lL hs [.v 19 qT] (lNIT (cSLlL hs [.v 2 qF] (lNkXr hs [] qF (nm_f1 (fun h_=>by have h1_:=h_.1;have h2_:=h_.2.1;first|omega|exact absurd h_.2.2 aM))))))))
 have phb1:=oT hb1;refine lB 8 hb1 (lL hs [.m 9 8] (lG 10 ?_));refine lG 11 (lG 12 (lL hs [.v 13 qT,.m 14 13] (lG 15 ?_)));exact lG 16 (lG 17 (lG 18 (lL hs [.v 19 qT] (lNIT (cSLlL hs [.v 2 qF] (lNkXr hs [] qF (nm_f1 (fun h_=>by have h1_:=h_.1;have h2_:=h_.2.1;first|omega|exact absurd h_.2.2 aM))))))))
def PPo (pb:Nat)(s:ByteArray)(t:Tm)(b:Nat)(bd:Int):Value→World→Hp→Prop:=fun v w' h'=>∃ (tb:Nat) (p:PTm),v=.pointer (some ⟨tb,0,none⟩)∧b≤s.size∧Own w' pb 104 [.string s,.int .i64 (b:Nat),.int .i64 bd]∧Seg h' tb 0 (ptc p)∧PtH h' p t
def PC (nf bf:ByteArray→Option Rat)(f:FuncId)(n:Nat)(k:PKd):Prop:=∀ (pb:Nat) (s:ByteArray),s.size≤1000000→∀ (a:Nat),a≤s.size→∀ (bd:Int) (t:Tm) (b:Nat),prs nf bf s n k a=some (.ok t b)→∀ (w:World) (h:Hp),G w h→Own w pb 104 [.string s,nV a,iV bd]→h[pb]?=some junk→Calls Tryz.prog f #[pB pb] w (RetM pb w h (PPo pb s t b bd))
theorem pPeek  (pb:Nat)(s:ByteArray)(hsz:s.size≤1000000)(a:Nat)(ha:a≤s.size)(bd:Int)(w:World)(h:Hp)(g:G w h)(ho:Own w pb 104 [.string s,nV a,iV bd])(hj:h[pb]?=some junk):Calls Tryz.prog 53 #[pB pb] w (RetM pb w h fun v w' _=>v=.int .u8 (bAt s (sk s a):Nat)∧Own w' pb 104 [.string s,nV (sk s a),iV bd]):=by
 have hmo:UpM [pb] w h w h:=UpM.refl g;obtain ⟨wz,hz0_,hs⟩:=SS.at_ g ho hj;refine go Tryz.func53 [(0,pB pb)] rfl (cSLlL hs [.v 2 (.int .u8 0)] (lNcQ (kZ ?_)));refine cTo _ (CG.loop (fun μ_ Γ w_=>∃ (k:Nat) (h_:Hp),μ_=s.size-k∧Γ=[(0,pB pb),(2,.int .u8 0)]∧SS wz hz0_ w_ h_ [⟨pb,104,[.string s,nV k,iV bd]⟩] [] []∧a≤k∧k≤s.size∧UpM [pb] w h w_ h_∧(∀ i,a≤i→i<k→isBl (bAt s i)=true)) _ ⟨a,h,rfl,rfl,hs.to _ _,nR _,ha,hmo,(fun i h1 h2=>absurd h1 oM)⟩ ?_);rintro _ _ w1 ⟨k,h2,hm3,rfl,hs,hk1,hk2,hmo,hkb⟩;refine cQ (cQ (cR 22 [] mixed hs al_nil ?_));refine eV 0 3 (pB pb) (eV 1 4 (pB pb) (eV 2 5 (qP pb 1) (eO 3 6 [(0,1,1)] (nV k) hs (eV 4 7 (pB pb) (eV 5 8 (pB pb) (eV 6 9 (pB pb) (eO 7 10 [(0,0,1)] (.string s) hs (eV 8 11 (nV s.size) ?_))))))));cases hb4:(decide ((k:Int)<(s.size:Int)))
 ·
  have phb4:=oF hb4;refine eB 9 12 hb4 (eV 10 13 qF (eG 11 14 (eG 12 15 (eG 13 16 (eG 14 17 (eG 15 18 (eG 16 19 (eG 17 20 (eG 18 21 (eG 19 22 (eG 20 23 (eV 21 24 qF (eD0u hs (fun w5 h6 u7 hs=>?_))))))))))))));replace hmo:=hmo.trans (u7.m _);refine tN (cIF (CG.exit ?_))
  show CG _ _ _ _ _ _ _ _
  refine cQ (cQ (cR 10 [] mixed hs al_nil ?_));refine eV 0 32 (pB pb) (eV 1 33 (pB pb) (eV 2 34 (qP pb 1) (eO 3 35 [(0,1,1)] (nV k) hs (eV 4 36 (pB pb) (eV 5 37 (pB pb) (eV 6 38 (pB pb) (eO 7 39 [(0,0,1)] (.string s) hs (eV 8 40 (nV s.size) ?_))))))));have ⟨hb8,phb8⟩:=dF (p:=(k:Int)<(s.size:Int)) oM;refine eB 9 41 hb8 (eD0u hs (fun w9 _ u11 hs=>?_));replace hmo:=hmo.trans (u11.m _);refine tN (cIF (cK (cSLlL hs [.v 2 (.int .u8 0)] (lN (kX ?_)))));have hk_:sk s a=k:=rn_eq hk1 hk2 hkb (by first|exact .inl oM|exact .inr (decide_eq_false oM));exact hs.retM hmo [] (.int .u8 0) (by rw[hk_,bAt_out oM];exact ⟨rfl,hs.own 0⟩)
 have phb4:=oT hb4;refine eB 9 12 hb4 (eV 10 13 qT (eV 11 14 (pB pb) (eV 12 15 (pB pb) (eV 13 16 (pB pb) (eO 14 17 [(0,0,1)] (.string s) hs (eV 15 18 (pB pb) (eV 16 19 (pB pb) (eV 17 20 (qP pb 1) (eO 18 21 [(0,1,1)] (nV k) hs (eV 19 22 (.int .u8 (bAt s k:Nat)) ?_ (hv:=fun _=>opIdxS (tx:=9) (x:=.tmp 17) (i:=.tmp 21) (k:=.i64) (s:=s) (n:=k) (j:=(k:Int)) kR kR kR kR oM oM _)))))))))));cases za:(((bAt s k:Nat):Int) == (32:Int))
 ·
  have zb:=neOfBeq za;refine eB 20 23 za (eV 21 24 qF (eD0u hs (fun _ _ u15 hs=>?_)));replace hmo:=hmo.trans (u15.m _);refine tN (cIF (CG.exit ?_))
  show CG _ _ _ _ _ _ _ _
  refine cQ (cQ (cR 10 [] mixed hs al_nil ?_));refine eV 0 32 (pB pb) (eV 1 33 (pB pb) (eV 2 34 (qP pb 1) (eO 3 35 [(0,1,1)] (nV k) hs (eV 4 36 (pB pb) (eV 5 37 (pB pb) (eV 6 38 (pB pb) (eO 7 39 [(0,0,1)] (.string s) hs (eV 8 40 (nV s.size) ?_))))))));have ⟨zc,phb16⟩:=dT (p:=(k:Int)<(s.size:Int)) oM;refine eB 9 41 zc (eD0u hs (fun _ _ u19 hs=>?_));replace hmo:=hmo.trans (u19.m _);refine tN (cIT (cQ (cR 9 [] mixed hs al_nil ?_)));refine eV 0 42 (pB pb) (eV 1 43 (pB pb) (eV 2 44 (pB pb) (eO 3 45 [(0,0,1)] (.string s) hs (eV 4 46 (pB pb) (eV 5 47 (pB pb) (eV 6 48 (qP pb 1) (eO 7 49 [(0,1,1)] (nV k) hs (eV 8 50 (.int .u8 (bAt s k:Nat)) ?_ (hv:=fun _=>opIdxS (tx:=9) (x:=.tmp 45) (i:=.tmp 49) (k:=.i64) (s:=s) (n:=k) (j:=(k:Int)) kR kR kR kR oM oM _)))))))));refine eD0u hs (fun _ _ u22 hs=>?_);replace hmo:=hmo.trans (u22.m _);refine tV 9 2 (.int .u8 (bAt s k:Nat)) (tN (cTo [(2,.int .u8 (bAt s k:Nat))] ?_));refine kX ?_;have hk_:sk s a=k:=rn_eq hk1 hk2 hkb (by first|exact .inl oM|exact .inr (decide_eq_false oM));exact hs.retM hmo [] (.int .u8 (bAt s k:Nat)) (by rw[hk_];exact ⟨rfl,hs.own 0⟩)
 have zb:=eq_of_beq za;refine eB 20 23 za (eV 21 24 qT (eD0u hs (fun _ zd u25 hs=>?_)));replace hmo:=hmo.trans (u25.m _);refine tN (cIT (cK (kZ (kQ (lL hs [.m 25 0,.v 26 (pB pb),.v 27 (qP pb 1),.o 28 (nV k) 0 1 1] (lIn 29 ((k:Nat)+1) (k+1) ?_))))));refine lL hs [.v 30 (pB pb),.v 31 (qP pb 1)] (lPu 0 1 ([nV (k+1)]) hs (fun _ pu hs=>?_));replace hmo:=hmo.put pu (List.mem_singleton.2 rfl) hs.g;refine lD ?_;intro a_ ka;refine ⟨_,_,?_,⟨k+1,zd,rfl,rfl,hs.to _ _,oM,oM,hmo,(fun i h1 h2=>by rcases Nat.lt_succ_iff_lt_or_eq.1 h2 with h_|rfl;exact hkb i h1 h_;exact decide_eq_true oM)⟩,ka.to _ kR⟩
 omega
theorem pTake  (pb:Nat)(s:ByteArray)(hsz:s.size≤1000000)(a:Nat)(ha:a≤s.size)(bd:Int)(c:Nat)(hc:c≠0)(w:World)(h:Hp)(g:G w h)(ho:Own w pb 104 [.string s,nV a,iV bd])(hj:h[pb]?=some junk):Calls Tryz.prog 127 #[pB pb,.int .u8 (c:Nat)] w (RetM pb w h fun v w' _=>(v=.bool true∧bAt s (sk s a)=c∧sk s a<s.size∧Own w' pb 104 [.string s,nV (sk s a+1),iV bd])∨(v=.bool false∧bAt s (sk s a)≠c∧Own w' pb 104 [.string s,nV (sk s a),iV bd])):=by
 have hmo:UpM [pb] w h w h:=UpM.refl g;obtain ⟨wz,hz0_,hs⟩:=SS.at_ g ho hj;refine go Tryz.func127 [(0,pB pb),(1,.int .u8 (c:Nat))] rfl (cSLlL hs [.v 4 qF] (lNcQ (cSLlL hs [.m 5 0] ?_)));have hskq1:=sk_le (s:=s) (a:=a) oM;refine lCm 6 (pPeek pb s hsz a ha bd _ _ hs.g (hs.own 0) (hs.jk 0)) ?_;rintro _ w2 h3 u4 ⟨rfl,hOq1⟩;replace hs:=(hs.stepM 0 u4 hOq1).to [⟨pb,104,[.string s,nV (sk s a),iV bd]⟩] [];replace hmo:=hmo.trans u4;refine lL hs [.m 7 1] ?_;cases hb5:(((bAt s (sk s a):Nat):Int) != (c:Int))
 ·
  have phb5:=eqOfBne hb5;refine lB 8 hb5 (lNIF (cK (cSLlL hs [.m 9 0,.v 10 (pB pb),.v 11 (qP pb 1),.o 12 (nV (sk s a)) 0 1 1] (lIn 13 ((sk s a:Nat)+1) ((sk s a)+1) ?_))));refine lL hs [.v 14 (pB pb),.v 15 (qP pb 1)] (lPu 0 1 ([nV ((sk s a)+1)]) hs (fun w6 pu hs=>?_));replace hmo:=hmo.put pu (List.mem_singleton.2 rfl) hs.g;refine lNS (lL hs [.v 4 qT] (lN (kX ?_)));have hin_:=bAt_in (s:=s) (a:=sk s a) oM;exact hs.retM hmo [] qT (.inl ⟨rfl,by omega,by omega,hs.own 0⟩)
 have phb5:=neOfBne hb5;exact lB 8 hb5 (lNIT (cSLlL hs [.v 4 qF] (lN (kX (hs.retM hmo [] qF (.inr ⟨rfl,by omega,hs.own 0⟩))))))
theorem pTakeK (pb:Nat)(s:ByteArray)(hsz:s.size≤1000000)(a:Nat)(ha:a≤s.size)(bd:Int)(c:Nat)(hc:c≠0)(hka:sk s a=a)(w:World)(h:Hp)(g:G w h)(ho:Own w pb 104 [.string s,nV a,iV bd])(hj:h[pb]?=some junk):Calls Tryz.prog 127 #[pB pb,.int .u8 (c:Nat)] w (RetM pb w h fun v w' _=>(v=.bool true∧bAt s a=c∧a<s.size∧Own w' pb 104 [.string s,nV (a+1),iV bd])∨(v=.bool false∧bAt s a≠c∧Own w' pb 104 [.string s,nV a,iV bd])):=by
  have q:=pTake pb s hsz a ha bd c hc w h g ho hj;rw[hka] at q;exact q
theorem pTakeT (pb:Nat)(s:ByteArray)(hsz:s.size≤1000000)(a:Nat)(ha:a≤s.size)(bd:Int)(c:Nat)(hc:c≠0)(hka:bAt s (sk s a)=c)(w:World)(h:Hp)(g:G w h)(ho:Own w pb 104 [.string s,nV a,iV bd])(hj:h[pb]?=some junk):Calls Tryz.prog 127 #[pB pb,.int .u8 (c:Nat)] w (RetM pb w h fun v w' _=>v=.bool true∧sk s a<s.size∧Own w' pb 104 [.string s,nV (sk s a+1),iV bd]) :=
  (pTake pb s hsz a ha bd c hc w h g ho hj).mono fun e w' ⟨v,h',he,u,hΦ⟩=>⟨v,h',he,u,by
    rcases hΦ with ⟨h1,h2,h3,h4⟩|⟨h1,h2,h3⟩
    · exact ⟨h1,h3,h4⟩
    · exact absurd hka h2⟩
theorem pRun  (fo:FuncId)(p:Nat→Bool)(hen:∀ (args:Array Value) (w:World),(callFunc fo args).run Tryz.prog w=.ok (.enter fo args) w)(hfo:∀ c,c<256→∀ (w:World) (h:Hp),G w h→Calls Tryz.prog fo #[.int .u8 (c:Nat)] w (Ret w h fun v _=>v=.bool (p c)))(pb:Nat)(s:ByteArray)(hsz:s.size≤1000000)(a:Nat)(ha:a≤s.size)(bd:Int)(w:World)(h:Hp)(g:G w h)(ho:Own w pb 104 [.string s,nV a,iV bd])(hj:h[pb]?=some junk):Calls Tryz.prog 184 #[pB pb,.func (.func fo) #[] #[]] w (RetM pb w h fun v w' _=>v=.string (s.extract a (rn p s a))∧Own w' pb 104 [.string s,nV (rn p s a),iV bd]):=by
 have hmo:UpM [pb] w h w h:=UpM.refl g;obtain ⟨wz,hz0_,hs⟩:=SS.at_ g ho hj;refine go Tryz.func184 [(0,pB pb),(1,.func (.func fo) #[] #[])] rfl (cSLlL hs [.v 4 (eS)] (lNS (lL hs [.m 6 0,.v 7 (pB pb),.v 8 (qP pb 1),.o 9 (nV a) 0 1 1,.m 5 9] (lNcQ (kZ ?_)))));refine cTo _ (CG.loop (fun μ_ Γ w_=>∃ (k:Nat) (h_:Hp),μ_=s.size-k∧Γ=[(0,pB pb),(1,.func (.func fo) #[] #[]),(4,eS),(5,nV a)]∧SS wz hz0_ w_ h_ [⟨pb,104,[.string s,nV k,iV bd]⟩] [] []∧a≤k∧k≤s.size∧UpM [pb] w h w_ h_∧(∀ i,a≤i→i<k→p (bAt s i)=true)) _ ⟨a,h,rfl,rfl,hs.to _ _,nR _,ha,hmo,(fun i h1 h2=>absurd h1 oM)⟩ ?_);rintro _ _ w1 ⟨k,h2,hm3,rfl,hs,hk1,hk2,hmo,hkb⟩;refine cQ (cQ (cR 23 [] mixed hs al_nil ?_));refine eV 0 10 (pB pb) (eV 1 11 (pB pb) (eV 2 12 (qP pb 1) (eO 3 13 [(0,1,1)] (nV k) hs (eV 4 14 (pB pb) (eV 5 15 (pB pb) (eV 6 16 (pB pb) (eO 7 17 [(0,0,1)] (.string s) hs (eV 8 18 (nV s.size) ?_))))))));cases hb4:(decide ((k:Int)<(s.size:Int)))
 ·
  have phb4:=oF hb4;refine eB 9 19 hb4 (eV 10 20 qF (eG 11 21 (eG 12 22 (eG 13 23 (eG 14 24 (eG 15 25 (eG 16 26 (eG 17 27 (eG 18 28 (eG 19 29 (eG 20 30 (eG 21 31 (eV 22 32 qF (eD0u hs (fun w5 h6 u7 hs=>?_)))))))))))))));replace hmo:=hmo.trans (u7.m _);refine tN (cIF (CG.exit ?_))
  show CG _ _ _ _ _ _ _ _
  refine cQ (cR 10 [] mixed hs al_nil ?_);refine eV 0 40 (pB pb) (eV 1 41 (pB pb) (eV 2 42 (pB pb) (eO 3 43 [(0,0,1)] (.string s) hs (eV 4 44 (nV a) (eV 5 45 (pB pb) (eV 6 46 (pB pb) (eV 7 47 (qP pb 1) (eO 8 48 [(0,1,1)] (nV k) hs (eV 9 49 (.string (s.extract a k)) ?_ (hv:=fun _=>opSlS2 (tx:=9) (x:=.tmp 43) (i:=.tmp 44) (e:=.tmp 48) (k:=.i64) (k2:=.i64) (s:=s) (n:=a) (m:=k) (j:=(a:Int)) (j2:=(k:Int)) kR kR kR kR kR oM oM oM oM _))))))))));refine eD0u hs (fun w8 h9 u10 hs=>?_);replace hmo:=hmo.trans (u10.m _);refine tV 10 4 (.string (s.extract a k)) (tN (kX ?_));have hk_:rn p s a=k:=rn_eq hk1 hk2 hkb (by first|exact .inl oM|exact .inr aM);exact hs.retM hmo [] (.string (s.extract a k)) (by rw[hk_];exact ⟨rfl,hs.own 0⟩)
 have phb4:=oT hb4;refine eB 9 19 hb4 (eV 10 20 qT (eV 11 21 (.func (.func fo) #[] #[]) (eV 12 22 (pB pb) (eV 13 23 (pB pb) (eV 14 24 (pB pb) (eO 15 25 [(0,0,1)] (.string s) hs (eV 16 26 (pB pb) (eV 17 27 (pB pb) (eV 18 28 (qP pb 1) (eO 19 29 [(0,1,1)] (nV k) hs (eV 20 30 (.int .u8 (bAt s k:Nat)) ?_ (hv:=fun _=>opIdxS (tx:=9) (x:=.tmp 25) (i:=.tmp 29) (k:=.i64) (s:=s) (n:=k) (j:=(k:Int)) kR kR kR kR oM oM _))))))))))));refine eCh 21 31 hs hmo (fun _ _ hs=>hfo ((bAt s k)) (bAt_lt _ _) _ _ hs.g) ?_ (hv:=fun _=>Eq.trans kR (hen _ _));rintro _ _ _ _ _ hmo hs rfl;cases hb13:(p ((bAt s k)))
 ·
  refine eV 22 32 qF (eD0u hs (fun _ _ u16 hs=>?_));replace hmo:=hmo.trans (u16.m _);refine tN (cIF (CG.exit ?_))
  show CG _ _ _ _ _ _ _ _
  refine cQ (cR 10 [] mixed hs al_nil ?_);refine eV 0 40 (pB pb) (eV 1 41 (pB pb) (eV 2 42 (pB pb) (eO 3 43 [(0,0,1)] (.string s) hs (eV 4 44 (nV a) (eV 5 45 (pB pb) (eV 6 46 (pB pb) (eV 7 47 (qP pb 1) (eO 8 48 [(0,1,1)] (nV k) hs (eV 9 49 (.string (s.extract a k)) ?_ (hv:=fun _=>opSlS2 (tx:=9) (x:=.tmp 43) (i:=.tmp 44) (e:=.tmp 48) (k:=.i64) (k2:=.i64) (s:=s) (n:=a) (m:=k) (j:=(a:Int)) (j2:=(k:Int)) kR kR kR kR kR oM oM oM oM _))))))))));refine eD0u hs (fun _ _ u19 hs=>?_);replace hmo:=hmo.trans (u19.m _);refine tV 10 4 (.string (s.extract a k)) (tN (kX ?_));have hk_:rn p s a=k:=rn_eq hk1 hk2 hkb (by first|exact .inl oM|exact .inr aM);exact hs.retM hmo [] (.string (s.extract a k)) (by rw[hk_];exact ⟨rfl,hs.own 0⟩)
 refine eV 22 32 qT (eD0u hs (fun _ za u22 hs=>?_));replace hmo:=hmo.trans (u22.m _);refine tN (cIT (cK (kZ (kQ (lL hs [.m 33 0,.v 34 (pB pb),.v 35 (qP pb 1),.o 36 (nV k) 0 1 1] (lIn 37 ((k:Nat)+1) (k+1) ?_))))));refine lL hs [.v 38 (pB pb),.v 39 (qP pb 1)] (lPu 0 1 ([nV (k+1)]) hs (fun _ pu hs=>?_));replace hmo:=hmo.put pu (List.mem_singleton.2 rfl) hs.g;refine lD ?_;intro a_ ka;refine ⟨_,_,?_,⟨k+1,za,rfl,rfl,hs.to _ _,oM,oM,hmo,(fun i h1 h2=>by rcases Nat.lt_succ_iff_lt_or_eq.1 h2 with h_|rfl;exact hkb i h1 h_;exact aM)⟩,ka.to _ kR⟩
 omega
theorem tTwoT (op:Int)(pa pc:PTm)(w:World)(h:Hp)(g:G w h):CR 128 #[iV op,pX pa,pX pc] w h (fun v h1=>∃ b,v=ptv ⟨op,0,0,⟨#[]⟩,sB b,2,2⟩∧SlO 9 ptc ptm0 h1 (sB b) [pa,pc]):=by
 have hs:=sS g;refine go Tryz.func128 [(0,iV op),(1,pX pa),(2,pX pc)] rfl (cSL (lA 4 43 (pC pa) hs (fun b1 w2 h3 hs=>lA 5 43 (pC pc) hs (fun b4 w5 h6 hs=>lA 6 43 ([iV 0,iV 0,qF,uV 0,eS,uV 0,eS,eS,sZ]) hs (fun b7 w8 h9 hs=>lNS (lL hs [.m 7 0,.o 8 (pX pa) 2 0 9,.o 9 (pX pc) 1 0 9] (lR 10 43 2 ([iV pa.op,iV pa.n,.bool (ineg pa.q.num),uV (lo (iabs pa.q.num)),.string (hi (iabs pa.q.num)),uV (lo (qd pa.q)),.string (hi (qd pa.q)),.string pa.s,qS pa.A pa.m pa.c,iV pc.op,iV pc.n,.bool (ineg pc.q.num),uV (lo (iabs pc.q.num)),.string (hi (iabs pc.q.num)),uV (lo (qd pc.q)),.string (hi (qd pc.q)),.string pc.s,qS pc.A pc.m pc.c]) hs (fun za _ _ hs=>?_))))))));replace hs:=hs.aS (SlO.of_flat (sz:=9) (f:=ptc) (d:=ptm0) (b:=za) (o:=0) (l:=([pa,pc]:List PTm)) (fun _=>rfl) hs.f.1);exact lL hs [.v 11 (.agg #[iV op,iV 0,qF,uV 0,eS,uV 0,eS,eS,qS (sB za) 2 2])] (lP 0 0 ([iV op,iV 0,qF,uV 0,eS,uV 0,eS,eS,qS (sB za) 2 2]) hs (fun _ hs=>lNkXr hs [(0,0,9)] (.agg #[iV op,iV 0,qF,uV 0,eS,uV 0,eS,eS,qS (sB za) 2 2]) (⟨_,rfl,hs.f.1⟩)))
theorem tOneT (op:Int)(pa:PTm)(w:World)(h:Hp)(g:G w h):CR 139 #[iV op,pX pa] w h (fun v h1=>∃ b,v=ptv ⟨op,0,0,⟨#[]⟩,sB b,1,1⟩∧SlO 9 ptc ptm0 h1 (sB b) [pa]):=by
 have hs:=sS g;refine go Tryz.func139 [(0,iV op),(1,pX pa)] rfl (cSL (lA 3 43 (pC pa) hs (fun b1 w2 h3 hs=>lA 4 43 ([iV 0,iV 0,qF,uV 0,eS,uV 0,eS,eS,sZ]) hs (fun b4 w5 h6 hs=>lNS (lL hs [.m 5 0,.o 6 (pX pa) 1 0 9] (lR 7 43 1 (pC pa) hs (fun b7 w8 h9 hs=>?_)))))));replace hs:=hs.aS (SlO.of_flat (sz:=9) (f:=ptc) (d:=ptm0) (b:=b7) (o:=0) (l:=([pa]:List PTm)) (fun _=>rfl) hs.f.1);exact lL hs [.v 8 (.agg #[iV op,iV 0,qF,uV 0,eS,uV 0,eS,eS,qS (sB b7) 1 1])] (lP 0 0 ([iV op,iV 0,qF,uV 0,eS,uV 0,eS,eS,qS (sB b7) 1 1]) hs (fun _ hs=>lNkXr hs [(0,0,9)] (.agg #[iV op,iV 0,qF,uV 0,eS,uV 0,eS,eS,qS (sB b7) 1 1]) (⟨_,rfl,hs.f.1⟩)))
theorem pNumber (q:Rat)(w:World)(h:Hp)(g:G w h):CR 135 #[qv q] w h (fun v h1=>∃ p,v=ptv p∧PtH h1 p (tNum q)):=by
 have hs:=sS g;exact go Tryz.func135 [(0,qv q)] rfl (cSL (lA 1 40 (qc q) hs (fun b1 w2 h3 hs=>lA 2 43 ([iV 0,iV 0,qF,uV 0,eS,uV 0,eS,eS,sZ]) hs (fun b4 w5 h6 hs=>lNS (lL hs [.o 3 (qv q) 1 0 5,.v 4 (.agg #[iV 1,iV 0,.bool (ineg q.num),uV (lo (iabs q.num)),.string (hi (iabs q.num)),uV (lo (qd q)),.string (hi (qd q)),eS,sZ])] (lP 0 0 ([iV 1,iV 0,.bool (ineg q.num),uV (lo (iabs q.num)),.string (hi (iabs q.num)),uV (lo (qd q)),.string (hi (qd q)),eS,sZ]) hs (fun w7 hs=>lNkXr hs [(0,0,9)] (.agg #[iV 1,iV 0,.bool (ineg q.num),uV (lo (iabs q.num)),.string (hi (iabs q.num)),uV (lo (qd q)),.string (hi (qd q)),eS,sZ]) (⟨⟨1,0,q,⟨#[]⟩,none,0,0⟩,rfl,PtH.num⟩))))))))
theorem pTwo (op:Int)(pa pc:PTm)(t u:Tm)(w:World)(h:Hp)(g:G w h)(x:PtH h pa t)(y:PtH h pc u):CR 128 #[iV op,ptv pa,ptv pc] w h (fun v h1=>∃ p,v=ptv p∧PtH h1 p (tTwo op t u)) :=
  (tTwoT op pa pc w h g).mono fun e w' ⟨v,h',e1,up,b,e2,e3⟩=>⟨v,h',e1,up,_,e2,(x.gw up.gr.gw).two (y.gw up.gr.gw) e3⟩
theorem pOne (op:Int)(pa:PTm)(t:Tm)(w:World)(h:Hp)(g:G w h)(x:PtH h pa t):CR 139 #[iV op,ptv pa] w h (fun v h1=>∃ p,v=ptv p∧PtH h1 p (tOne op t)) :=
  (tOneT op pa w h g).mono fun e w' ⟨v,h',e1,up,b,e2,e3⟩=>⟨v,h',e1,up,_,e2,(x.gw up.gr.gw).one e3⟩
section
variable {nf bf:ByteArray→Option Rat} (n:Nat)
theorem pChain  (lv:Bool)(fp:FuncId)(hen:∀ (args:Array Value) (w:World),(callFunc fp args).run Tryz.prog w=.ok (.enter fp args) w)(hp:∀ m,m≤n→PC nf bf fp m (part lv))(pb:Nat)(s:ByteArray)(hsz:s.size≤1000000)(a:Nat)(ha:a≤s.size)(bd:Int)(t:Tm)(b:Nat)(hq:prs nf bf s (n+1) (top lv) a=some (.ok t b))(w:World)(h:Hp)(g:G w h)(ho:Own w pb 104 [.string s,nV a,iV bd])(hj:h[pb]?=some junk):Calls Tryz.prog 83 #[pB pb,.func (.func fp) #[pB pb] #[],.int .u8 (c1 lv:Nat),iV (op1 lv),.int .u8 (c2 lv:Nat),iV (op2 lv)] w (RetM pb w h (PPo pb s t b bd)):=by
 have hmo:UpM [pb] w h w h:=UpM.refl g;obtain ⟨wz,hz0_,hs⟩:=SS.at_ g ho hj;obtain ⟨t1,b1,hq1,hq2⟩:=prs_top hq;have hc1_:c1 lv≠0:=by cases lv<;>decide
 have hc2_:c2 lv≠0:=by cases lv<;>decide
 refine go Tryz.func83 [(0,pB pb),(1,.func (.func fp) #[pB pb] #[]),(2,.int .u8 (c1 lv:Nat)),(3,iV (op1 lv)),(4,.int .u8 (c2 lv:Nat)),(5,iV (op2 lv))] rfl (cSLlL hs [.v 12 (.pointer none)] (lNS (lL hs [.m 17 1] (lCm 18 (hp n (nR _) pb s hsz a ha bd t1 b1 hq1 _ _ hs.g (hs.own 0) (hs.jk 0)) ?_ (hr:=Eq.trans kR (hen _ _))))));rintro _ w2 h3 u4 ⟨tbq1,pq1,rfl,hbq1,hOq1,hSq1,hTq1⟩;replace hs:=(hs.stepM 0 u4 hOq1).to [⟨pb,104,[.string s,nV b1,iV bd]⟩] [];replace hmo:=hmo.trans u4;replace hs:=((hs.a_Seg hSq1).add (K:=fun h_=>PtH h_ pq1 t1) hTq1);refine lL hs [.m 13 18] (lNcQ (kZ ?_));replace hs:=hs.add (K:=fun h_=>PtH h_ pq1 t1) (hs.f.1);replace hs:=hs.add (K:=fun h_=>Seg h_ tbq1 0 (ptc pq1)) (hs.f.r.1);refine cTo _ (CG.loop (fun μ_ Γ w_=>∃ (m:Nat) (tb:Nat) (p:PTm) (u:Tm) (k:Nat) (h_:Hp),μ_=m∧Γ=[(0,pB pb),(1,.func (.func fp) #[pB pb] #[]),(2,.int .u8 (c1 lv:Nat)),(3,iV (op1 lv)),(4,.int .u8 (c2 lv:Nat)),(5,iV (op2 lv)),(13,pB tb)]∧SS wz hz0_ w_ h_ [⟨pb,104,[.string s,nV k,iV bd]⟩] [] [fun h_=>Seg h_ tb 0 (ptc p),fun h_=>PtH h_ p u,fun h_=>PtH h_ pq1 t1,fun h_=>Seg h_ tbq1 0 (ptc pq1)]∧m≤n∧k≤s.size∧UpM [pb] w h w_ h_∧prs nf bf s m (.more lv u) k=some (.ok t b)) _ ⟨n,tbq1,pq1,t1,b1,h3,rfl,rfl,hs.to _ _,nR _,hbq1,hmo,hq2⟩ ?_);rintro _ _ w5 ⟨m,tb,p,u,k,h6,hm7,rfl,hs,hm,hk,hmo,hq⟩;obtain ⟨m1,rfl⟩:=prs_pos hq;have hskk:=sk_le (s:=s) (a:=k) hk;refine cQ (cSLlL hs [.m 19 13,.v 20 qT] (lNIT (cK (kZ (cSLlL hs [.v 14 (iV 0)] (lNcQ (cSLlL hs [.m 21 0,.m 22 2] ?_)))))));have hskq8:=sk_le (s:=s) (a:=k) oM;refine lCm 23 (pTake pb s hsz k oM bd (c1 lv) hc1_ _ _ hs.g (hs.own 0) (hs.jk 0)) ?_;rintro _ w9 _ u11 (⟨rfl,hcq8,hlq8,hOq8⟩|⟨rfl,hcq8,hOq8⟩)
 ·
  replace hs:=(hs.stepM 0 u11 hOq8).to [⟨pb,104,[.string s,nV (sk s k+1),iV bd]⟩] [];replace hmo:=hmo.trans u11;obtain ⟨vq8,eq8,hvq8,hwq8⟩:=prs_more1 hq hcq8;refine lNIT (kQ (lL hs [.m 24 3,.m 14 24] (lNS (lL hs [.m 30 1] (lCm 31 (hp m1 oM pb s hsz (sk s k+1) oM bd vq8 eq8 hvq8 _ _ hs.g (hs.own 0) (hs.jk 0)) ?_ (hr:=Eq.trans kR (hen _ _)))))));rintro _ _ _ u15 ⟨tbq12,pq12,rfl,hbq12,hOq12,hSq12,hTq12⟩;replace hs:=(hs.stepM 0 u15 hOq12).to [⟨pb,104,[.string s,nV eq8,iV bd]⟩] [];replace hmo:=hmo.trans u15;replace hs:=((hs.a_Seg hSq12).add (K:=fun h_=>PtH h_ pq12 vq8) hTq12);refine lL hs [.m 15 31] (lNcQ (cSLlL hs [.m 32 15,.v 33 qF] (lNIF (cK (cQ ?_)))));have hsr:=hs;have hge_:=hmo.gr.size;refine cR 9 [⟨8,16,.cells (List.toArray [iV 0,iV 0,qF,uV 0,eS,uV 0,eS,eS,sZ]) 43 (0,0)⟩] mixed hs (al_cons (alOk kR (fun _ _=>by kernel_rfl)) al_nil) (eV 0 34 (iV (op1 lv)) (eV 1 35 (pB tb) (eV 2 36 (pB tb) (eH 3 37 (pX p) hs hs.f.r.1 (eV 4 38 (pB tbq12) (eV 5 39 (pB tbq12) (eH 6 40 (pX pq12) hs hs.f.2.1 (eCh 7 41 hs hmo (fun _ _ hs=>pTwo (op1 lv) p pq12 u vq8 _ _ hs.g hs.f.r.2.1 hs.f.1) ?_))))))));rintro _ _ _ _ _ hmo hs ⟨pq16,rfl,hTq16⟩;replace hs:=(hs.add (K:=fun h_=>PtH h_ pq16 (tTwo (op1 lv) u vq8)) hTq16);refine eD1h [] hsr hs hmo hge_ 43 [iV 0,iV 0,qF,uV 0,eS,uV 0,eS,eS,sZ] (fun _ _ za hmo hlo_b21 hs=>tPu 9 0 0 (pC pq16) hs (fun _ pu hs=>?_));replace hmo:=hmo.put2 pu hlo_b21 g hs.g;refine tN ?_;obtain ⟨zc,hs,hmo,sg24⟩:=hs.pubM hmo 0 hlo_b21;replace hs:=hs.to [⟨pb,104,[.string s,nV eq8,iV bd]⟩] [];have sg26:Seg zc za 0 (ptc pq16):=sg24;replace hs:=hs.a_Seg sg26;refine kQ (lL hs [.m 13 16] (lD ?_));intro a_ ka;replace hs:=((hs.tl.tl.tl.tl.tl.tl.add (K:=fun h_=>PtH h_ pq16 (tTwo (op1 lv) u vq8)) hs.f.2.1).add (K:=fun h_=>Seg h_ za 0 (ptc pq16)) hs.f.1);refine ⟨_,_,?_,⟨m1,za,pq16,tTwo (op1 lv) u vq8,eq8,zc,rfl,rfl,hs.to _ _,oM,hbq12,hmo,hwq8⟩,ka.to _ kR⟩
  omega
 replace hs:=(hs.stepM 0 u11 hOq8).to [⟨pb,104,[.string s,nV (sk s k),iV bd]⟩] [];replace hmo:=hmo.trans u11;have hcF:=hcq8;refine lNIF (cSLlL hs [.m 25 0,.m 26 4] ?_);have hskq33:=sk_le (s:=s) (a:=(sk s k)) oM;refine lCm 27 (pTakeK pb s hsz (sk s k) oM bd (c2 lv) hc2_ (sk_sk _ _) _ _ hs.g (hs.own 0) (hs.jk 0)) ?_;rintro _ _ _ u36 (⟨rfl,hcq33,hlq33,hOq33⟩|⟨rfl,hcq33,hOq33⟩)
 ·
  replace hs:=(hs.stepM 0 u36 hOq33).to [⟨pb,104,[.string s,nV ((sk s k)+1),iV bd]⟩] [];replace hmo:=hmo.trans u36;obtain ⟨vq33,eq33,hvq33,hwq33⟩:=prs_more2 hq hcF hcq33;refine lNIT (kQ (lL hs [.m 28 5,.m 14 28] (lNS (lL hs [.m 30 1] (lCm 31 (hp m1 oM pb s hsz ((sk s k)+1) oM bd vq33 eq33 hvq33 _ _ hs.g (hs.own 0) (hs.jk 0)) ?_ (hr:=Eq.trans kR (hen _ _)))))));rintro _ _ _ u40 ⟨tbq37,pq37,rfl,hbq37,hOq37,hSq37,hTq37⟩;replace hs:=(hs.stepM 0 u40 hOq37).to [⟨pb,104,[.string s,nV eq33,iV bd]⟩] [];replace hmo:=hmo.trans u40;replace hs:=((hs.a_Seg hSq37).add (K:=fun h_=>PtH h_ pq37 vq33) hTq37);refine lL hs [.m 15 31] (lNcQ (cSLlL hs [.m 32 15,.v 33 qF] (lNIF (cK (cQ ?_)))));have hsr:=hs;have hge_:=hmo.gr.size;refine cR 9 [⟨8,16,.cells (List.toArray [iV 0,iV 0,qF,uV 0,eS,uV 0,eS,eS,sZ]) 43 (0,0)⟩] mixed hs (al_cons (alOk kR (fun _ _=>by kernel_rfl)) al_nil) (eV 0 34 (iV (op2 lv)) (eV 1 35 (pB tb) (eV 2 36 (pB tb) (eH 3 37 (pX p) hs hs.f.r.1 (eV 4 38 (pB tbq37) (eV 5 39 (pB tbq37) (eH 6 40 (pX pq37) hs hs.f.2.1 (eCh 7 41 hs hmo (fun _ _ hs=>pTwo (op2 lv) p pq37 u vq33 _ _ hs.g hs.f.r.2.1 hs.f.1) ?_))))))));rintro _ _ _ _ _ hmo hs ⟨pq41,rfl,hTq41⟩;replace hs:=(hs.add (K:=fun h_=>PtH h_ pq41 (tTwo (op2 lv) u vq33)) hTq41);refine eD1h [] hsr hs hmo hge_ 43 [iV 0,iV 0,qF,uV 0,eS,uV 0,eS,eS,sZ] (fun _ _ zb hmo hlo_b46 hs=>tPu 9 0 0 (pC pq41) hs (fun _ pu hs=>?_));replace hmo:=hmo.put2 pu hlo_b46 g hs.g;refine tN ?_;obtain ⟨zd,hs,hmo,sg49⟩:=hs.pubM hmo 0 hlo_b46;replace hs:=hs.to [⟨pb,104,[.string s,nV eq33,iV bd]⟩] [];have sg51:Seg zd zb 0 (ptc pq41):=sg49;replace hs:=hs.a_Seg sg51;refine kQ (lL hs [.m 13 16] (lD ?_));intro a_ ka;replace hs:=((hs.tl.tl.tl.tl.tl.tl.add (K:=fun h_=>PtH h_ pq41 (tTwo (op2 lv) u vq33)) hs.f.2.1).add (K:=fun h_=>Seg h_ zb 0 (ptc pq41)) hs.f.1);refine ⟨_,_,?_,⟨m1,zb,pq41,tTwo (op2 lv) u vq33,eq33,zd,rfl,rfl,hs.to _ _,oM,hbq37,hmo,hwq33⟩,ka.to _ kR⟩
  omega
 replace hs:=(hs.stepM 0 u36 hOq33).to [⟨pb,104,[.string s,nV (sk s k),iV bd]⟩] [];replace hmo:=hmo.trans u36;have hcF2:=hcq33;refine lNIF (cSLlL hs [.m 29 13,.m 12 29] (lN (kX ?_)));obtain ⟨ht_,hb_⟩:=prs_more0 hq hcF hcF2;exact hs.retM hmo [] (pB tb) (by rw[ht_];rw[hb_];exact ⟨tb,p,rfl,by first|assumption|omega,hs.own 0,hs.f.1,hs.f.2.1⟩)
theorem pSum  (hp:∀ m,m≤n→PC nf bf 84 m .prod)(pb:Nat)(s:ByteArray)(hsz:s.size≤1000000)(a:Nat)(ha:a≤s.size)(bd:Int)(t:Tm)(b:Nat)(hq:prs nf bf s (n+1) .sum a=some (.ok t b))(w:World)(h:Hp)(g:G w h)(ho:Own w pb 104 [.string s,nV a,iV bd])(hj:h[pb]?=some junk):Calls Tryz.prog 52 #[pB pb] w (RetM pb w h (PPo pb s t b bd)):=by
 have hmo:UpM [pb] w h w h:=UpM.refl g;obtain ⟨wz,hz0_,hs⟩:=SS.at_ g ho hj;refine go Tryz.func52 [(0,pB pb)] rfl (cSLlL hs [.v 2 (.pointer none)] (lNS (lL hs [.m 3 0,.m 4 0,.v 5 (.func (.func 84) #[pB pb] #[])] (lCm 6 (pChain n false 84 (fun _ _=>by kernel_rfl) hp pb s hsz a ha bd t b hq _ _ hs.g (hs.own 0) (hs.jk 0)) ?_))));rintro _ w2 h3 u4 ⟨tbq1,pq1,rfl,hbq1,hOq1,hSq1,hTq1⟩;replace hs:=(hs.stepM 0 u4 hOq1).to [⟨pb,104,[.string s,nV b,iV bd]⟩] [];replace hmo:=hmo.trans u4;replace hs:=((hs.a_Seg hSq1).add (K:=fun h_=>PtH h_ pq1 t) hTq1);exact lL hs [.m 2 6] (lN (kX (hs.retM hmo [] (pB tbq1) (by exact ⟨tbq1,pq1,rfl,by first|assumption|omega,hs.own 0,hs.f.2.1,hs.f.1⟩))))
theorem pProduct  (hp:∀ m,m≤n→PC nf bf 129 m .sign)(pb:Nat)(s:ByteArray)(hsz:s.size≤1000000)(a:Nat)(ha:a≤s.size)(bd:Int)(t:Tm)(b:Nat)(hq:prs nf bf s (n+1) .prod a=some (.ok t b))(w:World)(h:Hp)(g:G w h)(ho:Own w pb 104 [.string s,nV a,iV bd])(hj:h[pb]?=some junk):Calls Tryz.prog 84 #[pB pb] w (RetM pb w h (PPo pb s t b bd)):=by
 have hmo:UpM [pb] w h w h:=UpM.refl g;obtain ⟨wz,hz0_,hs⟩:=SS.at_ g ho hj;refine go Tryz.func84 [(0,pB pb)] rfl (cSLlL hs [.v 2 (.pointer none)] (lNS (lL hs [.m 3 0,.m 4 0,.v 5 (.func (.func 129) #[pB pb] #[])] (lCm 6 (pChain n true 129 (fun _ _=>by kernel_rfl) hp pb s hsz a ha bd t b hq _ _ hs.g (hs.own 0) (hs.jk 0)) ?_))));rintro _ w2 h3 u4 ⟨tbq1,pq1,rfl,hbq1,hOq1,hSq1,hTq1⟩;replace hs:=(hs.stepM 0 u4 hOq1).to [⟨pb,104,[.string s,nV b,iV bd]⟩] [];replace hmo:=hmo.trans u4;replace hs:=((hs.a_Seg hSq1).add (K:=fun h_=>PtH h_ pq1 t) hTq1);exact lL hs [.m 2 6] (lN (kX (hs.retM hmo [] (pB tbq1) (by exact ⟨tbq1,pq1,rfl,by first|assumption|omega,hs.own 0,hs.f.2.1,hs.f.1⟩))))
theorem pSigned  (ihs:PC nf bf 129 n .sign)(ihp:PC nf bf 158 n .pow)(pb:Nat)(s:ByteArray)(hsz:s.size≤1000000)(a:Nat)(ha:a≤s.size)(bd:Int)(t:Tm)(b:Nat)(hq:prs nf bf s (n+1) .sign a=some (.ok t b))(w:World)(h:Hp)(g:G w h)(ho:Own w pb 104 [.string s,nV a,iV bd])(hj:h[pb]?=some junk):Calls Tryz.prog 129 #[pB pb] w (RetM pb w h (PPo pb s t b bd)):=by
 have hmo:UpM [pb] w h w h:=UpM.refl g;obtain ⟨wz,hz0_,hs⟩:=SS.at_ g ho hj;refine go Tryz.func129 [(0,pB pb)] rfl (cSLlL hs [.v 2 (.pointer none)] (lNcQ (cSLlL hs [.m 5 0] ?_)));have hskq1:=sk_le (s:=s) (a:=a) oM;refine lCm 6 (pTake pb s hsz a ha bd 45 kD _ _ hs.g (hs.own 0) (hs.jk 0)) ?_;rintro _ w2 h3 u4 (⟨rfl,hcq1,hlq1,hOq1⟩|⟨rfl,hcq1,hOq1⟩)
 ·
  replace hs:=(hs.stepM 0 u4 hOq1).to [⟨pb,104,[.string s,nV (sk s a+1),iV bd]⟩] [];replace hmo:=hmo.trans u4;obtain ⟨v1,hv1,ht_⟩:=prs_neg hq hcq1;refine lL hs [.v 7 qF] (lNIF (cK (cSLlL hs [.m 10 0] (lCm 11 (ihs pb s hsz (sk s a+1) oM bd v1 b hv1 _ _ hs.g (hs.own 0) (hs.jk 0)) ?_))));rintro _ w6 h7 u8 ⟨tbq5,pq5,rfl,hbq5,hOq5,hSq5,hTq5⟩;replace hs:=(hs.stepM 0 u8 hOq5).to [⟨pb,104,[.string s,nV b,iV bd]⟩] [];replace hmo:=hmo.trans u8;replace hs:=((hs.a_Seg hSq5).add (K:=fun h_=>PtH h_ pq5 v1) hTq5);refine lL hs [.m 3 11] (lNcQ (cSLlL hs [.m 12 3,.v 13 qF] (lNIF (cK (cSLlL hs [.m 14 3,.v 15 (pB tbq5)] (lH 16 (pX pq5) hs hs.f.2.1 ?_))))));refine lCu 17 (pOne 7 pq5 v1 _ _ hs.g hs.f.1) ?_;rintro _ _ _ u12 ⟨pq9,rfl,hTq9⟩;replace hmo:=hmo.trans (u12.m _);replace hs:=hs.step u12;replace hs:=(hs.add (K:=fun h_=>PtH h_ pq9 (tOne 7 v1)) hTq9);refine lAu 4 43 ([iV 0,iV 0,qF,uV 0,eS,uV 0,eS,eS,sZ]) hs (fun za _ _ u16 hlo_b13 hs=>?_);replace hlo_b13:=Nat.le_trans hmo.gr.size hlo_b13;replace hmo:=hmo.trans (u16.m _);refine lPu 0 0 (pC pq9) hs (fun _ pu hs=>?_);replace hmo:=hmo.put2 pu hlo_b13 g hs.g;refine lNS (lL hs [.m 2 4] (lN (kX ?_)));obtain ⟨zb,hs,hmo,sg19⟩:=hs.pubM hmo 0 hlo_b13;replace hs:=hs.to [⟨pb,104,[.string s,nV b,iV bd]⟩] [];have sg21:Seg zb za 0 (ptc pq9):=sg19;replace hs:=hs.a_Seg sg21;exact hs.retM hmo [] (pB za) (by rw[ht_];exact ⟨za,pq9,rfl,by first|assumption|omega,hs.own 0,hs.f.1,hs.f.2.1⟩)
 replace hs:=(hs.stepM 0 u4 hOq1).to [⟨pb,104,[.string s,nV (sk s a),iV bd]⟩] [];replace hmo:=hmo.trans u4;have hcF:=hcq1;refine lL hs [.v 7 qT] (lNIT (cSLlL hs [.m 8 0] (lCm 9 (ihp pb s hsz (sk s a) oM bd t b (prs_sign0 hq hcF) _ _ hs.g (hs.own 0) (hs.jk 0)) ?_)));rintro _ _ _ u25 ⟨tbq22,pq22,rfl,hbq22,hOq22,hSq22,hTq22⟩;replace hs:=(hs.stepM 0 u25 hOq22).to [⟨pb,104,[.string s,nV b,iV bd]⟩] [];replace hmo:=hmo.trans u25;replace hs:=((hs.a_Seg hSq22).add (K:=fun h_=>PtH h_ pq22 t) hTq22);exact lL hs [.m 2 9] (lN (kX (hs.retM hmo [] (pB tbq22) (by exact ⟨tbq22,pq22,rfl,by first|assumption|omega,hs.own 0,hs.f.2.1,hs.f.1⟩))))
end
theorem tDdA (c:Nat)(hc:c<256)(w:World)(h:Hp)(g:G w h):CV 212 #[.int .u8 (c:Nat)] w h (.bool (isDd c)):=by
 have hs:=sS g;refine go Tryz.func212 [(0,.int .u8 (c:Nat))] rfl (cSLlL hs [.v 2 qF] (lNS (lL hs [.m 3 0] (lCval 4 hs (tDigitA c hc _ _ hs.g) (fun w1 h2 hs=>?_)))));cases hb3:(decide (48≤c∧c≤57))
 ·
  have phb3:=oF hb3;refine lL hs [.m 5 4,.m 6 0] ?_;cases hb4:((c:Int) == (46:Int))
  ·
   have phb4:=neOfBeq hb4;exact lB 7 hb4 (lL hs [.v 8 qF,.m 2 8] (lNkXr hs [] qF (congrArg Value.bool (decide_eq_false oM).symm)))
  have phb4:=eq_of_beq hb4;exact lB 7 hb4 (lL hs [.v 8 qT,.m 2 8] (lNkXr hs [] qT (congrArg Value.bool (decide_eq_true oM).symm)))
 have phb3:=oT hb3;refine lL hs [.m 5 4] (lG 6 ?_);exact lG 7 (lL hs [.v 8 qT,.m 2 8] (lNkXr hs [] qT (congrArg Value.bool (decide_eq_true oM).symm)))
theorem PtH.setN {h:Hp}{p:PTm}{op n:Int}{q:Rat}{s:ByteArray}{ks:List Tm}(x:PtH h p (.mk op n q s ks))(m:Int):PtH h ⟨p.op,m,p.q,p.s,p.A,p.m,p.c⟩ (.mk op m q s ks):=by
  obtain ⟨d,x⟩:=x
  match d,x with
  | d+1,⟨h1,_,h3,h4,h5,h6,h7⟩=>exact ⟨d+1,h1,rfl,h3,h4,h5,h6,h7⟩
theorem call_rng {x:ByteArray}(h:isCall x=true):9≤callN x∧callN x≤13:=by
  have h:=oT h
  revert h
  unfold callN
  repeat' split
  all_goals intro h;first|(constructor<;>decide)|exact absurd rfl h
theorem ari_two {op:Int}(h:9≤op∧op≤13):((op=12∨op=13)∧ari op=2)∨(¬(op=12∨op=13)∧ari op=1):=by
  have:=ari_cases op
  omega
def PCc (nf bf:ByteArray→Option Rat)(n:Nat):Prop:=∀ (op:Int),9≤op∧op≤13→∀ (pb:Nat) (s:ByteArray),s.size≤1000000→∀ (a:Nat),a≤s.size→∀ (bd:Int) (t:Tm) (b:Nat),prs nf bf s n (.call op) a=some (.ok t b)→∀ (w:World) (h:Hp),G w h→Own w pb 104 [.string s,nV a,iV bd]→h[pb]?=some junk→Calls Tryz.prog 213 #[pB pb,iV op] w (RetM pb w h (PPo pb s t b bd))
def NFok (nf:ByteArray→Option Rat):Prop:=∀ x q,nf x=some q→∀ (w:World) (h:Hp),G w h→CV 211 #[.string x] w h (.tuple #[qv q,.bool true])
def NPok:Prop:=∀ (x:ByteArray) (k:Nat),x.size≤3→natP x=some k→∀ (w:World) (h:Hp),G w h→CV 185 #[.string x] w h (.tuple #[nv k,.bool true])
section
variable {nf bf:ByteArray→Option Rat} (n:Nat)
theorem pPower  (hnp:NPok)(iha:PC nf bf 183 n .atom)(pb:Nat)(s:ByteArray)(hsz:s.size≤1000000)(a:Nat)(ha:a≤s.size)(bd:Int)(t:Tm)(b:Nat)(hq:prs nf bf s (n+1) .pow a=some (.ok t b))(w:World)(h:Hp)(g:G w h)(ho:Own w pb 104 [.string s,nV a,iV bd])(hj:h[pb]?=some junk):Calls Tryz.prog 158 #[pB pb] w (RetM pb w h (PPo pb s t b bd)):=by
 have hmo:UpM [pb] w h w h:=UpM.refl g;obtain ⟨wz,hz0_,hs⟩:=SS.at_ g ho hj;obtain ⟨v1,e1,hv1,hP0,hP1⟩:=prs_pow hq;refine go Tryz.func158 [(0,pB pb)] rfl (cSLlL hs [.v 2 (.pointer none)] (lNS (lL hs [.m 12 0] (lCm 13 (iha pb s hsz a ha bd v1 e1 hv1 _ _ hs.g (hs.own 0) (hs.jk 0)) ?_))));rintro _ w2 h3 u4 ⟨tbq1,pq1,rfl,hbq1,hOq1,hSq1,hTq1⟩;replace hs:=(hs.stepM 0 u4 hOq1).to [⟨pb,104,[.string s,nV e1,iV bd]⟩] [];replace hmo:=hmo.trans u4;replace hs:=((hs.a_Seg hSq1).add (K:=fun h_=>PtH h_ pq1 v1) hTq1);refine lL hs [.m 3 13] (lNcQ (cSLlL hs [.m 14 3,.v 15 qF,.m 16 15,.m 17 0] ?_));have hskq5:=sk_le (s:=s) (a:=e1) oM;refine lCm 18 (pTake pb s hsz e1 oM bd 94 kD _ _ hs.g (hs.own 0) (hs.jk 0)) ?_;rintro _ w6 h7 u8 (⟨rfl,hcq5,hlq5,hOq5⟩|⟨rfl,hcq5,hOq5⟩)
 ·
  replace hs:=(hs.stepM 0 u8 hOq5).to [⟨pb,104,[.string s,nV (sk s e1+1),iV bd]⟩] [];replace hmo:=hmo.trans u8;have zb:=hcq5;obtain ⟨k,hnat,hbe_,hb3_,ht_⟩:=pwrR_ok (hP1 zb);refine lL hs [.v 19 qF,.v 20 qF] (lNIF (cK (cSLlL hs [.m 22 0] ?_)));have hskq9:=sk_le (s:=s) (a:=(sk s e1+1)) oM;refine lCm 23 (pTake pb s hsz (sk s e1+1) oM bd 45 kD _ _ hs.g (hs.own 0) (hs.jk 0)) ?_;rintro _ _ _ u12 (⟨rfl,hcq9,hlq9,hOq9⟩|⟨rfl,hcq9,hOq9⟩)
  ·
   replace hs:=(hs.stepM 0 u12 hOq9).to [⟨pb,104,[.string s,nV (sk s (sk s e1+1)+1),iV bd]⟩] [];replace hmo:=hmo.trans u12;rw[if_pos hcq9] at hnat hbe_ hb3_ ht_
   generalize hB1:sk s (sk s (sk s e1+1)+1)=B at hnat hbe_ hb3_ ht_
   rw[←Int.zero_sub] at ht_
   refine lL hs [.m 4 23] (lNS (lL hs [.m 24 0] ?_));have hskB:=sk_le (s:=s) (a:=(sk s (sk s e1+1)+1)) oM;refine lCm 25 (pPeek pb s hsz (sk s (sk s e1+1)+1) oM bd _ _ hs.g (hs.own 0) (hs.jk 0)) ?_;rintro _ _ _ u15 ⟨rfl,hOp⟩;rw[hB1] at hOp hskB
   rw[hB1];replace hs:=(hs.stepM 0 u15 hOp).to [⟨pb,104,[.string s,nV B,iV bd]⟩] [];replace hmo:=hmo.trans u15;have hdge:=rn_ge isDg s B;have hdgl:=rn_le (p:=isDg) (s:=s) (a:=B) hskB;rw[←hbe_] at hdge hdgl
   have hxs:(s.extract B b).size=b-B:=by rw[ByteArray.size_extract];omega
   have hk9:=natP_lt hnat oM;refine lNS (lL hs [.m 26 0,.v 27 (pB pb),.v 28 (qP pb 1),.o 29 (nV B) 0 1 1,.m 5 29] (lNS (lL hs [.m 30 0] (lCm 31 (pRun 140 isDg (fun _ _=>by kernel_rfl) (fun c hc w h g=>tDigitA c hc w h g) pb s hsz B oM bd _ _ hs.g (hs.own 0) (hs.jk 0)) ?_))));rintro _ _ _ u18 ⟨rfl,hOr⟩;rw[←hbe_] at hOr
   rw[←hbe_];replace hs:=(hs.stepM 0 u18 hOr).to [⟨pb,104,[.string s,nV b,iV bd]⟩] [];replace hmo:=hmo.trans u18;refine lL hs [.m 6 31] (lNcQ (cSLlL hs [.m 32 6,.v 33 (nV ((s.extract B b).size))] ?_));have zd:(decide ((3:Int)<(((s.extract B b).size:Nat):Int)))=false:=decide_eq_false oM;refine lB 34 zd (lNIF (cK (cSLlL hs [.m 39 6] (lCu 40 (hnp (s.extract B b) k oM hnat _ _ hs.g) ?_))));rintro _ _ _ u22 rfl;replace hmo:=hmo.trans (u22.m _);replace hs:=hs.step u22;refine lL hs [.m 38 40,.v 41 (nv k),.v 42 qT] (lAu 7 36 ([uV 0,eS]) hs (fun zf _ _ u26 hlo_b23 hs=>?_));replace hlo_b23:=Nat.le_trans hmo.gr.size hlo_b23;replace hmo:=hmo.trans (u26.m _);refine lPu 0 0 (nc k) hs (fun _ pu hs=>?_);replace hmo:=hmo.put2 pu hlo_b23 g hs.g;refine lL hs [.m 8 42] (lNcQ (cSLlL hs [.m 43 8,.v 44 qF] (lNIF (cK (cSLlL hs [.o 49 (nv k) 0 0 2] (lCu 50 (nSmallS k oM _ _ hs.g) ?_))))));rintro _ _ _ u30 rfl;replace hmo:=hmo.trans (u30.m _);replace hs:=hs.step u30;refine lL hs [.m 48 50,.v 51 (mV k),.v 52 qT,.m 9 51,.m 10 52] (lN (cTo [(2,.pointer none),(3,pB tbq1),(4,qT),(9,mV k)] ?_));refine cSLlL hs [.m 53 3,.v 54 (pB tbq1)] (lH 55 (pX pq1) hs hs.f.2.1 ?_);refine lCu 56 (pOne 8 pq1 v1 _ _ hs.g hs.f.1) ?_;rintro _ _ _ u34 ⟨pq31,rfl,hTq31⟩;replace hmo:=hmo.trans (u34.m _);replace hs:=hs.step u34;replace hs:=(hs.add (K:=fun h_=>PtH h_ pq31 (tOne 8 v1)) hTq31);refine lAu 11 43 ([iV 0,iV 0,qF,uV 0,eS,uV 0,eS,eS,sZ]) hs (fun za _ _ u38 hlo_b35 hs=>?_);replace hlo_b35:=Nat.le_trans hmo.gr.size hlo_b35;replace hmo:=hmo.trans (u38.m _);refine lPu 0 0 (pC pq31) hs (fun _ pu hs=>?_);replace hmo:=hmo.put2 pu hlo_b35 g hs.g;refine lNS (lL hs [.m 57 9] (lV 58 (nV k) ?_ (hr:=rS ((k:Int)) kR (fitI64 oM oM))));refine lL hs [.v 59 (qP za 1)] (lPu 0 1 ([nV k]) hs (fun _ pu hs=>?_));replace hmo:=hmo.put2 pu hlo_b35 g hs.g;refine lNcQ (cSLlL hs [.m 60 4] (lNIT (kQ (lL hs [.v 61 (qP za 1),.o 62 (nV k) 0 1 1] (lI 63 (0-(k:Nat)) ?_)))));refine lL hs [.v 64 (qP za 1)] (lPu 0 1 ([iV (0-(k:Nat))]) hs (fun _ pu hs=>?_));replace hmo:=hmo.put2 pu hlo_b35 g hs.g;refine lNS (lL hs [.m 2 11] (lN (kX ?_)));obtain ⟨zg,hs,hmo,sg43⟩:=hs.pubM hmo 0 hlo_b35;replace hs:=hs.to [⟨zf,36,nc k⟩,⟨pb,104,[.string s,nV b,iV bd]⟩] [];have sg45:Seg zg za 0 (ptc ⟨pq31.op,0-(k:Nat),pq31.q,pq31.s,pq31.A,pq31.m,pq31.c⟩):=sg43;replace hs:=hs.a_Seg sg45;exact hs.retM hmo [] (pB za) (by rw[ht_];exact ⟨za,⟨pq31.op,0-(k:Nat),pq31.q,pq31.s,pq31.A,pq31.m,pq31.c⟩,rfl,by first|assumption|omega,hs.own 1,hs.f.1,(PtH.setN hs.f.2.1 _)⟩)
  replace hs:=(hs.stepM 0 u12 hOq9).to [⟨pb,104,[.string s,nV (sk s (sk s e1+1)),iV bd]⟩] [];replace hmo:=hmo.trans u12;rw[if_neg hcq9] at hnat hbe_ hb3_ ht_
  generalize hB1:sk s (sk s (sk s e1+1))=B at hnat hbe_ hb3_ ht_
  refine lL hs [.m 4 23] (lNS (lL hs [.m 24 0] ?_));have hskB:=sk_le (s:=s) (a:=(sk s (sk s e1+1))) oM;refine lCm 25 (pPeek pb s hsz (sk s (sk s e1+1)) oM bd _ _ hs.g (hs.own 0) (hs.jk 0)) ?_;rintro _ _ _ u48 ⟨rfl,hOp⟩;rw[hB1] at hOp hskB
  rw[hB1];replace hs:=(hs.stepM 0 u48 hOp).to [⟨pb,104,[.string s,nV B,iV bd]⟩] [];replace hmo:=hmo.trans u48;have hdge:=rn_ge isDg s B;have hdgl:=rn_le (p:=isDg) (s:=s) (a:=B) hskB;rw[←hbe_] at hdge hdgl
  have hxs:(s.extract B b).size=b-B:=by rw[ByteArray.size_extract];omega
  have hk9:=natP_lt hnat oM;refine lNS (lL hs [.m 26 0,.v 27 (pB pb),.v 28 (qP pb 1),.o 29 (nV B) 0 1 1,.m 5 29] (lNS (lL hs [.m 30 0] (lCm 31 (pRun 140 isDg (fun _ _=>by kernel_rfl) (fun c hc w h g=>tDigitA c hc w h g) pb s hsz B oM bd _ _ hs.g (hs.own 0) (hs.jk 0)) ?_))));rintro _ _ _ u51 ⟨rfl,hOr⟩;rw[←hbe_] at hOr
  rw[←hbe_];replace hs:=(hs.stepM 0 u51 hOr).to [⟨pb,104,[.string s,nV b,iV bd]⟩] [];replace hmo:=hmo.trans u51;refine lL hs [.m 6 31] (lNcQ (cSLlL hs [.m 32 6,.v 33 (nV ((s.extract B b).size))] ?_));have ze:(decide ((3:Int)<(((s.extract B b).size:Nat):Int)))=false:=decide_eq_false oM;refine lB 34 ze (lNIF (cK (cSLlL hs [.m 39 6] (lCu 40 (hnp (s.extract B b) k oM hnat _ _ hs.g) ?_))));rintro _ _ _ u55 rfl;replace hmo:=hmo.trans (u55.m _);replace hs:=hs.step u55;refine lL hs [.m 38 40,.v 41 (nv k),.v 42 qT] (lAu 7 36 ([uV 0,eS]) hs (fun zi _ _ u59 hlo_b56 hs=>?_));replace hlo_b56:=Nat.le_trans hmo.gr.size hlo_b56;replace hmo:=hmo.trans (u59.m _);refine lPu 0 0 (nc k) hs (fun _ pu hs=>?_);replace hmo:=hmo.put2 pu hlo_b56 g hs.g;refine lL hs [.m 8 42] (lNcQ (cSLlL hs [.m 43 8,.v 44 qF] (lNIF (cK (cSLlL hs [.o 49 (nv k) 0 0 2] (lCu 50 (nSmallS k oM _ _ hs.g) ?_))))));rintro _ _ _ u63 rfl;replace hmo:=hmo.trans (u63.m _);replace hs:=hs.step u63;refine lL hs [.m 48 50,.v 51 (mV k),.v 52 qT,.m 9 51,.m 10 52] (lN (cTo [(2,.pointer none),(3,pB tbq1),(4,qF),(9,mV k)] ?_));refine cSLlL hs [.m 53 3,.v 54 (pB tbq1)] (lH 55 (pX pq1) hs hs.f.2.1 ?_);refine lCu 56 (pOne 8 pq1 v1 _ _ hs.g hs.f.1) ?_;rintro _ _ _ u67 ⟨pq64,rfl,hTq64⟩;replace hmo:=hmo.trans (u67.m _);replace hs:=hs.step u67;replace hs:=(hs.add (K:=fun h_=>PtH h_ pq64 (tOne 8 v1)) hTq64);refine lAu 11 43 ([iV 0,iV 0,qF,uV 0,eS,uV 0,eS,eS,sZ]) hs (fun zc _ _ u71 hlo_b68 hs=>?_);replace hlo_b68:=Nat.le_trans hmo.gr.size hlo_b68;replace hmo:=hmo.trans (u71.m _);refine lPu 0 0 (pC pq64) hs (fun _ pu hs=>?_);replace hmo:=hmo.put2 pu hlo_b68 g hs.g;refine lNS (lL hs [.m 57 9] (lV 58 (nV k) ?_ (hr:=rS ((k:Int)) kR (fitI64 oM oM))));refine lL hs [.v 59 (qP zc 1)] (lPu 0 1 ([nV k]) hs (fun _ pu hs=>?_));replace hmo:=hmo.put2 pu hlo_b68 g hs.g;refine lNcQ (cSLlL hs [.m 60 4] (lNIF (cK (cSLlL hs [.m 2 11] (lN (kX ?_))))));obtain ⟨zj,hs,hmo,sg75⟩:=hs.pubM hmo 0 hlo_b68;replace hs:=hs.to [⟨zi,36,nc k⟩,⟨pb,104,[.string s,nV b,iV bd]⟩] [];have sg77:Seg zj zc 0 (ptc ⟨pq64.op,(k:Nat),pq64.q,pq64.s,pq64.A,pq64.m,pq64.c⟩):=sg75;replace hs:=hs.a_Seg sg77;exact hs.retM hmo [] (pB zc) (by rw[ht_];exact ⟨zc,⟨pq64.op,(k:Nat),pq64.q,pq64.s,pq64.A,pq64.m,pq64.c⟩,rfl,by first|assumption|omega,hs.own 1,hs.f.1,(PtH.setN hs.f.2.1 _)⟩)
 replace hs:=(hs.stepM 0 u8 hOq5).to [⟨pb,104,[.string s,nV (sk s e1),iV bd]⟩] [];replace hmo:=hmo.trans u8;have zb:=hcq5;refine lL hs [.v 19 qT,.v 20 qT] (lNIT (cSLlL hs [.m 21 3,.m 2 21] (lN (kX ?_))));obtain ⟨ht_,hb_⟩:=hP0 zb;exact hs.retM hmo [] (pB tbq1) (by rw[ht_];rw[hb_];exact ⟨tbq1,pq1,rfl,by first|assumption|omega,hs.own 0,hs.f.2.1,hs.f.1⟩)
theorem pAtom  (hnf:NFok nf)(ihc:PCc nf (fun _=>none) n)(ihs:PC nf (fun _=>none) 52 n .sum)(pb:Nat)(s:ByteArray)(hsz:s.size≤1000000)(a:Nat)(ha:a≤s.size)(bd:Int)(t:Tm)(b:Nat)(hq:prs nf (fun _=>none) s (n+1) .atom a=some (.ok t b))(w:World)(h:Hp)(g:G w h)(ho:Own w pb 104 [.string s,nV a,iV bd])(hj:h[pb]?=some junk):Calls Tryz.prog 183 #[pB pb] w (RetM pb w h (PPo pb s t b bd)):=by
 have hmo:UpM [pb] w h w h:=UpM.refl g;obtain ⟨wz,hz0_,hs⟩:=SS.at_ g ho hj;refine go Tryz.func183 [(0,pB pb)] rfl (cSLlL hs [.v 2 (.pointer none)] (lNS (lL hs [.m 12 0] ?_)));have hskq1:=sk_le (s:=s) (a:=a) oM;refine lCm 13 (pPeek pb s hsz a ha bd _ _ hs.g (hs.own 0) (hs.jk 0)) ?_;rintro _ w2 h3 u4 ⟨rfl,hOq1⟩;replace hs:=(hs.stepM 0 u4 hOq1).to [⟨pb,104,[.string s,nV (sk s a),iV bd]⟩] [];replace hmo:=hmo.trans u4;refine lL hs [.m 3 13] (lNS (lL hs [.m 14 0,.v 15 (pB pb),.v 16 (qP pb 1),.o 17 (nV (sk s a)) 0 1 1,.m 4 17] (lNcQ (kZ (CG.join (fun Γ w_=>∃ (ze:Bool) (h_:Hp),Γ=[(0,pB pb),(2,.pointer none),(3,.int .u8 (bAt s (sk s a):Nat)),(4,nV (sk s a)),(18,.bool ze)]∧SS wz hz0_ w_ h_ [⟨pb,104,[.string s,nV (sk s a),iV bd]⟩] [] []∧(ze=true→¬¬((48≤bAt s (sk s a)∧bAt s (sk s a)≤57)∨bAt s (sk s a)=46))∧(ze=false→isDd (bAt s (sk s a))=false)∧UpM [pb] w h w_ h_) ?_ ?_)))))
 ·
  refine kQ (lL hs [.m 19 3] (lCu 20 (tDigitA (bAt s (sk s a)) (bAt_lt _ _) _ _ hs.g) ?_));rintro _ w5 h6 u7 rfl;replace hmo:=hmo.trans (u7.m _);replace hs:=hs.step u7;cases hb8:(decide (48≤bAt s (sk s a)∧bAt s (sk s a)≤57))
  ·
   have phb8:=oF hb8;refine lL hs [.m 21 20,.m 22 3] ?_;cases hb9:(((bAt s (sk s a):Nat):Int) == (46:Int))
   ·
    have phb9:=neOfBeq hb9;refine lB 23 hb9 (lL hs [.v 24 qF,.m 18 24] (lD ?_));intro a_ ka;exact ⟨_,⟨false,h6,rfl,hs.to _ _,(fun h_=>absurd h_ kD),(fun _=>decide_eq_false oM),hmo⟩,ka.to _ kR⟩
   have phb9:=eq_of_beq hb9;refine lB 23 hb9 (lL hs [.v 24 qT,.m 18 24] (lD ?_));intro a_ ka;exact ⟨_,⟨true,h6,rfl,hs.to _ _,(fun _=>by omega),(fun h_=>absurd h_ kD),hmo⟩,ka.to _ kR⟩
  have phb8:=oT hb8;refine lL hs [.m 21 20] (lG 22 ?_);refine lG 23 (lL hs [.v 24 qT,.m 18 24] (lD ?_));intro a_ ka;exact ⟨_,⟨true,h6,rfl,hs.to _ _,(fun _=>by omega),(fun h_=>absurd h_ kD),hmo⟩,ka.to _ kR⟩
 rintro _ _ ⟨ze,_,rfl,hs,zo,hD18,hmo⟩;cases za:(ze)
 ·
  try rw[za] at hs
  try rw[za]
  refine cIF (CG.join (fun Γ w_=>∃ (zf:Bool) (h_:Hp),Γ=[(0,pB pb),(2,.pointer none),(3,.int .u8 (bAt s (sk s a):Nat)),(4,nV (sk s a)),(38,.bool zf)]∧SS wz hz0_ w_ h_ [⟨pb,104,[.string s,nV (sk s a),iV bd]⟩] [] []∧(zf=true→chL (bAt s (sk s a))∨bAt s (sk s a)=95)∧(zf=false→¬(chL (bAt s (sk s a))∨bAt s (sk s a)=95))∧UpM [pb] w h w_ h_) ?_ ?_)
  ·
   refine kQ (lL hs [.m 39 3] (lCu 40 (tLetterA (bAt s (sk s a)) (bAt_lt _ _) _ _ hs.g) ?_));rintro _ _ zg u24 rfl;replace hmo:=hmo.trans (u24.m _);replace hs:=hs.step u24;cases zi:(decide (chL (bAt s (sk s a))))
   ·
    have zl:=oF zi;refine lL hs [.m 41 40,.m 42 3] ?_;cases zb:(((bAt s (sk s a):Nat):Int) == (95:Int))
    ·
     have zm:=neOfBeq zb;refine lB 43 zb (lL hs [.v 44 qF,.m 38 44] (lD ?_));intro a_ ka;exact ⟨_,⟨false,zg,rfl,hs.to _ _,(fun h_=>absurd h_ kD),(fun _ h_=>by rcases h_ with h_|h_;exact absurd h_ aM;omega),hmo⟩,ka.to _ kR⟩
    have zm:=eq_of_beq zb;refine lB 43 zb (lL hs [.v 44 qT,.m 38 44] (lD ?_));intro a_ ka;exact ⟨_,⟨true,zg,rfl,hs.to _ _,(fun _=>by first|exact .inl aM|exact .inr oM),(fun h_=>absurd h_ kD),hmo⟩,ka.to _ kR⟩
   have zl:=oT zi;refine lL hs [.m 41 40] (lG 42 ?_);refine lG 43 (lL hs [.v 44 qT,.m 38 44] (lD ?_));intro a_ ka;exact ⟨_,⟨true,zg,rfl,hs.to _ _,(fun _=>by first|exact .inl aM|exact .inr oM),(fun h_=>absurd h_ kD),hmo⟩,ka.to _ kR⟩
  rintro _ _ ⟨zf,_,rfl,hs,hW38,hN38,hmo⟩;cases zc:(zf)
  ·
   try rw[zc] at hs
   try rw[zc]
   refine cIF (cSLlL hs [.m 67 3] ?_);have zn:bAt s (sk s a)≠91:=fun e_=>by obtain ⟨_,q_,h_,_⟩:=prs_br hq (hD18 aM) (hN38 aM) e_;cases h_
   have zp:(((bAt s (sk s a):Nat):Int) == (91:Int))=false:=beqF oM;refine lB 68 zp (lL hs [.m 66 68] (lNIF (cSLlL hs [.m 72 3] ?_)));have zr:bAt s (sk s a)=40:=Decidable.byContradiction fun e_=>prs_no hq (hD18 aM) (hN38 aM) zn e_
   obtain ⟨e1,hq1,hd1,hbe_⟩:=prs_par hq (hD18 aM) (hN38 aM) zn zr;have hin_:=bAt_in (s:=s) (a:=sk s a) oM;have zq:(((bAt s (sk s a):Nat):Int) == (40:Int))=true:=beqT oM;refine lB 73 zq (lL hs [.m 71 73] (lNIT (cSLlL hs [.m 74 0,.v 75 (pB pb),.v 76 (qP pb 1),.o 77 (nV (sk s a)) 0 1 1] (lIn 78 ((sk s a:Nat)+1) ((sk s a)+1) ?_))));refine lL hs [.v 79 (pB pb),.v 80 (qP pb 1)] (lPu 0 1 ([nV ((sk s a)+1)]) hs (fun _ pu hs=>?_));replace hmo:=hmo.put pu (List.mem_singleton.2 rfl) hs.g;refine lNS (lL hs [.m 81 0] (lCm 82 (ihs pb s hsz ((sk s a)+1) oM bd t e1 hq1 _ _ hs.g (hs.own 0) (hs.jk 0)) ?_));rintro _ _ _ u45 ⟨tbq42,pq42,rfl,hbq42,hOq42,hSq42,hTq42⟩;replace hs:=(hs.stepM 0 u45 hOq42).to [⟨pb,104,[.string s,nV e1,iV bd]⟩] [];replace hmo:=hmo.trans u45;replace hs:=((hs.a_Seg hSq42).add (K:=fun h_=>PtH h_ pq42 t) hTq42);refine lL hs [.m 11 82] (lNcQ (cSLlL hs [.m 83 11,.v 84 qT,.m 85 84,.m 86 0] (lCm 87 (pTakeT pb s hsz e1 oM bd 41 kD hd1 _ _ hs.g (hs.own 0) (hs.jk 0)) ?_)));rintro _ _ _ u49 ⟨rfl,hlq46,hOq46⟩;replace hs:=(hs.stepM 0 u49 hOq46).to [⟨pb,104,[.string s,nV (sk s e1+1),iV bd]⟩] [];replace hmo:=hmo.trans u49;exact lL hs [.v 88 qF,.v 89 qF] (lNIF (cK (cSLlL hs [.m 96 11,.m 2 96] (lN (kX (hs.retM hmo [] (pB tbq42) (by rw[hbe_];exact ⟨tbq42,pq42,rfl,by first|assumption|omega,hs.own 0,hs.f.2.1,hs.f.1⟩)))))))
  try rw[zc] at hs
  try rw[zc]
  refine cIT (cSLlL hs [.m 45 0] ?_);have hcW:=hW38 aM;have hbl_:=rn_le (p:=isNn) (s:=s) (a:=sk s a) oM;refine lCm 46 (pRun 99 isNn (fun _ _=>by kernel_rfl) (fun c hc w h g=>tInnameA c hc w h g) pb s hsz (sk s a) oM bd _ _ hs.g (hs.own 0) (hs.jk 0)) ?_;rintro _ _ _ u52 ⟨rfl,hOr⟩;replace hs:=(hs.stepM 0 u52 hOr).to [⟨pb,104,[.string s,nV (rn isNn s (sk s a)),iV bd]⟩] [];replace hmo:=hmo.trans u52;refine lL hs [.m 8 46] (lNcQ (cSL (lCu 48 (tCallsA _ _ hs.g) ?_)));rintro _ _ _ u55 ⟨bm,rfl,hcm⟩;replace hmo:=hmo.trans (u55.m _);replace hs:=hs.step u55;replace hs:=(hs.add (K:=fun h_=>MapS h_ bm callEs) hcm);refine lL hs [.m 49 8] (lMr 50 151 9 3 (s.extract (sk s a) (rn isNn s (sk s a))) true (iV (callN (s.extract (sk s a) (rn isNn s (sk s a))))) ((isCall (s.extract (sk s a) (rn isNn s (sk s a))))) hs hs.f.1 ?_ (hf:=(by rcases call_lk (s.extract (sk s a) (rn isNn s (sk s a))) with ⟨i_,e1_,e2_⟩|⟨e1_,e2_,e3_⟩;exact .inl ⟨i_,e1_,e2_⟩;exact .inr ⟨e1_,e2_,fun _=>by rw[e3_];kernel_rfl⟩)));refine lL hs [.m 47 50,.v 51 (iV (callN (s.extract (sk s a) (rn isNn s (sk s a))))),.v 52 (.bool (isCall (s.extract (sk s a) (rn isNn s (sk s a))))),.m 9 51,.m 10 52] (lNS (lL hs [.m 53 10] (lN ?_)));cases zd:((isCall (s.extract (sk s a) (rn isNn s (sk s a)))))
  ·
   try rw[zd] at hs
   try rw[zd]
   refine cIF (cK (cQ (cSLlL hs [.m 57 8] ?_)));obtain ⟨hnm,ht_,hbe_⟩:=prs_nam hq (hD18 aM) hcW aM;refine lCu 58 ((by have q_:=tIsA (s.extract (sk s a) (rn isNn s (sk s a))) (by rw[ByteArray.size_extract];omega) _ _ hs.g;rw[hnm] at q_;exact q_)) ?_;rintro _ _ _ u59 rfl;replace hmo:=hmo.trans (u59.m _);replace hs:=hs.step u59;refine lL hs [.v 59 qF] (lNIF (cK (cSLlL hs [.m 63 8,.v 64 (.agg #[iV 2,iV 0,qF,uV 0,eS,uV 0,eS,.string (s.extract (sk s a) (rn isNn s (sk s a))),sZ])] (lAu 65 43 ([iV 2,iV 0,qF,uV 0,eS,uV 0,eS,.string (s.extract (sk s a) (rn isNn s (sk s a))),sZ]) hs (fun zj _ _ u63 hlo_b60 hs=>?_)))));replace hlo_b60:=Nat.le_trans hmo.gr.size hlo_b60;replace hmo:=hmo.trans (u63.m _);refine lL hs [.m 2 65] (lN (kX ?_));obtain ⟨zs,hs,hmo,sg65⟩:=hs.pubM hmo 0 hlo_b60;replace hs:=hs.to [⟨pb,104,[.string s,nV (rn isNn s (sk s a)),iV bd]⟩] [];have sg67:Seg zs zj 0 (ptc ⟨2,0,0,(s.extract (sk s a) (rn isNn s (sk s a))),none,0,0⟩):=sg65;replace hs:=hs.a_Seg sg67;exact hs.retM hmo [] (pB zj) (by rw[ht_];rw[hbe_];exact ⟨zj,⟨2,0,0,(s.extract (sk s a) (rn isNn s (sk s a))),none,0,0⟩,rfl,by first|assumption|omega,hs.own 0,hs.f.1,PtH.nam⟩)
  try rw[zd] at hs
  try rw[zd]
  refine cIT (cSLlL hs [.m 54 0,.m 55 9] (lCm 56 (ihc (callN (s.extract (sk s a) (rn isNn s (sk s a)))) (call_rng aM) pb s hsz (rn isNn s (sk s a)) oM bd t b (prs_fn hq (hD18 aM) hcW aM) _ _ hs.g (hs.own 0) (hs.jk 0)) ?_));rintro _ _ _ u71 ⟨tbq68,pq68,rfl,hbq68,hOq68,hSq68,hTq68⟩;replace hs:=(hs.stepM 0 u71 hOq68).to [⟨pb,104,[.string s,nV b,iV bd]⟩] [];replace hmo:=hmo.trans u71;replace hs:=((hs.a_Seg hSq68).add (K:=fun h_=>PtH h_ pq68 t) hTq68);exact lL hs [.m 2 56] (lN (kX (hs.retM hmo [] (pB tbq68) (by exact ⟨tbq68,pq68,rfl,by first|assumption|omega,hs.own 0,hs.f.2.1,hs.f.1⟩))))
 try rw[za] at hs
 try rw[za]
 refine cIT (cSLlL hs [.m 26 0] ?_);obtain ⟨q,hnq,ht_,hbe_⟩:=prs_num hq (decide_eq_true (Decidable.byContradiction fun h_=>zo aM h_));have hbl_:=rn_le (p:=isDd) (s:=s) (a:=sk s a) oM;refine lCm 27 (pRun 212 isDd (fun _ _=>by kernel_rfl) (fun c hc w h g=>tDdA c hc w h g) pb s hsz (sk s a) oM bd _ _ hs.g (hs.own 0) (hs.jk 0)) ?_;rintro _ _ _ u74 ⟨rfl,hOr⟩;rw[←hbe_] at hOr hbl_
 replace hs:=(hs.stepM 0 u74 hOr).to [⟨pb,104,[.string s,nV b,iV bd]⟩] [];replace hmo:=hmo.trans u74;refine lCu 28 (hnf _ _ hnq _ _ hs.g) ?_;rintro _ _ _ u77 rfl;replace hmo:=hmo.trans (u77.m _);replace hs:=hs.step u77;refine lL hs [.m 25 28,.v 29 (qv q),.v 30 qT] (lAu 5 40 ([qF,uV 0,eS,uV 0,eS]) hs (fun zt _ _ u81 hlo_b78 hs=>?_));replace hlo_b78:=Nat.le_trans hmo.gr.size hlo_b78;replace hmo:=hmo.trans (u81.m _);refine lPu 0 0 (qc q) hs (fun _ pu hs=>?_);replace hmo:=hmo.put2 pu hlo_b78 g hs.g;refine lL hs [.m 6 30] (lNcQ (cSLlL hs [.m 31 6,.v 32 qF] (lNIF (cK (cSLlL hs [.o 36 (qv q) 0 0 5] (lCu 37 (pNumber q _ _ hs.g) ?_))))));rintro _ _ _ u86 ⟨pq83,rfl,hTq83⟩;replace hmo:=hmo.trans (u86.m _);replace hs:=hs.step u86;replace hs:=(hs.add (K:=fun h_=>PtH h_ pq83 (tNum q)) hTq83);refine lAu 7 43 ([iV 0,iV 0,qF,uV 0,eS,uV 0,eS,eS,sZ]) hs (fun zk _ _ u90 hlo_b87 hs=>?_);replace hlo_b87:=Nat.le_trans hmo.gr.size hlo_b87;replace hmo:=hmo.trans (u90.m _);refine lPu 0 0 (pC pq83) hs (fun _ pu hs=>?_);replace hmo:=hmo.put2 pu hlo_b87 g hs.g;refine lNS (lL hs [.m 2 7] (lN (kX ?_)));obtain ⟨zu,hs,hmo,sg93⟩:=hs.pubM hmo 0 hlo_b87;replace hs:=hs.to [⟨zt,40,qc q⟩,⟨pb,104,[.string s,nV b,iV bd]⟩] [];have sg95:Seg zu zk 0 (ptc pq83):=sg93;replace hs:=hs.a_Seg sg95;exact hs.retM hmo [] (pB zk) (by rw[ht_];exact ⟨zk,pq83,rfl,by first|assumption|omega,hs.own 1,hs.f.1,hs.f.2.1⟩)
theorem pCall  (op:Int)(hop:9≤op∧op≤13)(ihs:PC nf bf 52 n .sum)(pb:Nat)(s:ByteArray)(hsz:s.size≤1000000)(a:Nat)(ha:a≤s.size)(bd:Int)(t:Tm)(b:Nat)(hq:prs nf bf s (n+1) (.call op) a=some (.ok t b))(w:World)(h:Hp)(g:G w h)(ho:Own w pb 104 [.string s,nV a,iV bd])(hj:h[pb]?=some junk):Calls Tryz.prog 213 #[pB pb,iV op] w (RetM pb w h (PPo pb s t b bd)):=by
 have hmo:UpM [pb] w h w h:=UpM.refl g;obtain ⟨wz,hz0_,hs⟩:=SS.at_ g ho hj;obtain ⟨zb,u1,e1,hq1,hA,hB⟩:=prs_call hq;refine go Tryz.func213 [(0,pB pb),(1,iV op)] rfl (cSLlL hs [.v 4 (.pointer none)] (lNcQ (cSLlL hs [.m 8 0] (lCm 9 (pTakeT pb s hsz a ha bd 40 kD zb _ _ hs.g (hs.own 0) (hs.jk 0)) ?_))));rintro _ w2 h3 u4 ⟨rfl,hlq1,hOq1⟩;replace hs:=(hs.stepM 0 u4 hOq1).to [⟨pb,104,[.string s,nV (sk s a+1),iV bd]⟩] [];replace hmo:=hmo.trans u4;refine lL hs [.v 10 qF] (lNIF (cK (cSLlL hs [.m 17 0] (lCm 18 (ihs pb s hsz (sk s a+1) oM bd u1 e1 hq1 _ _ hs.g (hs.own 0) (hs.jk 0)) ?_))));rintro _ w6 h7 u8 ⟨tbq5,pq5,rfl,hbq5,hOq5,hSq5,hTq5⟩;replace hs:=(hs.stepM 0 u8 hOq5).to [⟨pb,104,[.string s,nV e1,iV bd]⟩] [];replace hmo:=hmo.trans u8;replace hs:=((hs.a_Seg hSq5).add (K:=fun h_=>PtH h_ pq5 u1) hTq5);refine lL hs [.m 5 18] (lNcQ (cSLlL hs [.m 19 5,.v 20 qF] (lNIF (cK (cSLlL hs [.m 21 1,.m 22 5,.v 23 (pB tbq5)] (lH 24 (pX pq5) hs hs.f.2.1 ?_))))));refine lCu 25 (pOne op pq5 u1 _ _ hs.g hs.f.1) ?_;rintro _ _ _ u12 ⟨pq9,rfl,hTq9⟩;replace hmo:=hmo.trans (u12.m _);replace hs:=hs.step u12;replace hs:=(hs.add (K:=fun h_=>PtH h_ pq9 (tOne op u1)) hTq9);refine lAu 6 43 ([iV 0,iV 0,qF,uV 0,eS,uV 0,eS,eS,sZ]) hs (fun za _ _ u16 hlo_b13 hs=>?_);replace hlo_b13:=Nat.le_trans hmo.gr.size hlo_b13;replace hmo:=hmo.trans (u16.m _);refine lPu 0 0 (pC pq9) hs (fun _ pu hs=>?_);replace hmo:=hmo.put2 pu hlo_b13 g hs.g;refine lNcQ (cSLlL hs [.m 26 1] (lCu 27 (tArity2 op _ _ hs.g) ?_));rintro _ _ _ u20 rfl;replace hmo:=hmo.trans (u20.m _);replace hs:=hs.step u20
 rcases ari_two hop with ⟨ho2,har⟩|⟨ho2,har⟩
 ·
  have zc:((ari op:Int) == (2:Int))=true:=by rw[har];rfl
  refine lB 28 zc ?_;obtain ⟨hA1,v1,f1,hA2,hA3,hA4,hA5⟩:=hA ho2;refine lNIT (cQ (cSLlL hs [.m 29 0] (lCm 30 (pTakeT pb s hsz e1 oM bd 44 kD hA1 _ _ hs.g (hs.own 1) (hs.jk 1)) ?_)));rintro _ _ _ u25 ⟨rfl,hlq22,hOq22⟩;replace hs:=(hs.stepM 1 u25 hOq22).to [⟨za,43,pC pq9⟩,⟨pb,104,[.string s,nV (sk s e1+1),iV bd]⟩] [];replace hmo:=hmo.trans u25;refine lL hs [.v 31 qF] (lNIF (cK (cSLlL hs [.m 38 0] (lCm 39 (ihs pb s hsz (sk s e1+1) oM bd v1 f1 hA2 _ _ hs.g (hs.own 1) (hs.jk 1)) ?_))));rintro _ _ _ u29 ⟨tbq26,pq26,rfl,hbq26,hOq26,hSq26,hTq26⟩;replace hs:=(hs.stepM 1 u29 hOq26).to [⟨za,43,pC pq9⟩,⟨pb,104,[.string s,nV f1,iV bd]⟩] [];replace hmo:=hmo.trans u29;replace hs:=((hs.a_Seg hSq26).add (K:=fun h_=>PtH h_ pq26 v1) hTq26);refine lL hs [.m 7 39] (lNcQ (cSLlL hs [.m 40 7,.v 41 qF] (lNIF (cK (cR 8 [] mixed hs al_nil ?_)))));refine eV 0 42 (iV op) (eV 1 43 (pB tbq5) (eV 2 44 (pB tbq5) (eH 3 45 (pX pq5) hs hs.f.q.1 (eV 4 46 (pB tbq26) (eV 5 47 (pB tbq26) (eH 6 48 (pX pq26) hs hs.f.2.1 (eCh 7 49 hs hmo (fun _ _ hs=>pTwo op pq5 pq26 u1 v1 _ _ hs.g hs.f.r.2.1 hs.f.1) ?_)))))));rintro _ _ _ _ _ hmo hs ⟨pq30,rfl,hTq30⟩;replace hs:=(hs.add (K:=fun h_=>PtH h_ pq30 (tTwo op u1 v1)) hTq30);refine eD0u hs (fun _ _ u35 hs=>?_);replace hmo:=hmo.trans (u35.m _);refine tPu 8 0 0 (pC pq30) hs (fun _ pu hs=>?_);replace hmo:=hmo.put2 pu hlo_b13 g hs.g;refine tN (cQ (cSLlL hs [.m 50 0] (lCm 51 (pTakeT pb s hsz f1 oM bd 41 kD hA3 _ _ hs.g (hs.own 1) (hs.jk 1)) ?_)));rintro _ _ _ u40 ⟨rfl,hlq37,hOq37⟩;replace hs:=(hs.stepM 1 u40 hOq37).to [⟨za,43,pC pq30⟩,⟨pb,104,[.string s,nV (sk s f1+1),iV bd]⟩] [];replace hmo:=hmo.trans u40;refine lL hs [.v 52 qF] (lNIF (cK (cSLlL hs [.m 4 6] (lN (kX ?_)))));obtain ⟨ze,hs,hmo,sg42⟩:=hs.pubM hmo 0 hlo_b13;replace hs:=hs.to [⟨pb,104,[.string s,nV (sk s f1+1),iV bd]⟩] [];have sg44:Seg ze za 0 (ptc pq30):=sg42;replace hs:=hs.a_Seg sg44;exact hs.retM hmo [] (pB za) (by rw[hA4];rw[hA5];exact ⟨za,pq30,rfl,by first|assumption|omega,hs.own 0,hs.f.1,hs.f.2.1⟩)
 have zd:((ari op:Int) == (2:Int))=false:=by rw[har];rfl
 refine lB 28 zd ?_;obtain ⟨hB1,hB2,hB3⟩:=hB ho2;refine lNIF (cK (cQ (cSLlL hs [.m 50 0] (lCm 51 (pTakeT pb s hsz e1 oM bd 41 kD hB1 _ _ hs.g (hs.own 1) (hs.jk 1)) ?_))));rintro _ _ _ u49 ⟨rfl,hlq46,hOq46⟩;replace hs:=(hs.stepM 1 u49 hOq46).to [⟨za,43,pC pq9⟩,⟨pb,104,[.string s,nV (sk s e1+1),iV bd]⟩] [];replace hmo:=hmo.trans u49;refine lL hs [.v 52 qF] (lNIF (cK (cSLlL hs [.m 4 6] (lN (kX ?_)))));obtain ⟨zf,hs,hmo,sg51⟩:=hs.pubM hmo 0 hlo_b13;replace hs:=hs.to [⟨pb,104,[.string s,nV (sk s e1+1),iV bd]⟩] [];have sg53:Seg zf za 0 (ptc pq9):=sg51;replace hs:=hs.a_Seg sg53;exact hs.retM hmo [] (pB za) (by rw[hB2];rw[hB3];exact ⟨za,pq9,rfl,by first|assumption|omega,hs.own 0,hs.f.1,hs.f.2.1⟩)
end
end Go.Proofs.YthblejkgjjallaaGreatDoor
