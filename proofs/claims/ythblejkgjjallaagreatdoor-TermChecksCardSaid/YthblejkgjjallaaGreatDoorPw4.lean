/- Laws and contracts that the card of this claim stands on, part 5. No condition of ours. -/
import Derived.Test.YthblejkgjjallaaGreatDoorPw0
import Derived.Test.YthblejkgjjallaaGreatDoorPw1
import Derived.Test.YthblejkgjjallaaGreatDoorPw2
import Derived.Test.YthblejkgjjallaaGreatDoorPw3
set_option maxRecDepth 100000
set_option maxHeartbeats 4000000
namespace Go.Proofs.YthblejkgjjallaaGreatDoor
open Go.RowKit
open Go.RowKit Go.Shelf
open Go.RowKit Go.WideMaps
section
variable {nf:ByteArray→Option Rat} (hnf:NFok nf) (hnp:NPok)
include hnf hnp
def PAll (nf:ByteArray→Option Rat)(n:Nat):Prop:=PC nf (fun _=>none) 52 n .sum∧PC nf (fun _=>none) 84 n .prod∧PC nf (fun _=>none) 129 n .sign∧PC nf (fun _=>none) 158 n .pow∧PC nf (fun _=>none) 183 n .atom∧PCc nf (fun _=>none) n
theorem pAll (n:Nat):PAll nf n:=by
  induction n using Nat.strongRecOn with
  | ind n ih =>
    cases n with
    | zero=>exact ⟨fun _ _ _ _ _ _ _ _ h=>(by cases h),fun _ _ _ _ _ _ _ _ h=>(by cases h),fun _ _ _ _ _ _ _ _ h=>(by cases h),fun _ _ _ _ _ _ _ _ h=>(by cases h),fun _ _ _ _ _ _ _ _ h=>(by cases h),fun _ _ _ _ _ _ _ _ _ _ h=>(by cases h)⟩
    | succ n =>
      have i:=ih n (Nat.lt_succ_self n);refine ⟨?_,?_,?_,?_,?_,?_⟩
      · exact fun pb s h1 a h2 bd t b hq w h g ho hj=>pSum n (fun m hm=>(ih m oM).2.1) pb s h1 a h2 bd t b hq w h g ho hj
      · exact fun pb s h1 a h2 bd t b hq w h g ho hj=>pProduct n (fun m hm=>(ih m oM).2.2.1) pb s h1 a h2 bd t b hq w h g ho hj
      · exact fun pb s h1 a h2 bd t b hq w h g ho hj=>pSigned n i.2.2.1 i.2.2.2.1 pb s h1 a h2 bd t b hq w h g ho hj
      · exact fun pb s h1 a h2 bd t b hq w h g ho hj=>pPower n hnp i.2.2.2.2.1 pb s h1 a h2 bd t b hq w h g ho hj
      · exact fun pb s h1 a h2 bd t b hq w h g ho hj=>pAtom n hnf i.2.2.2.2.2 i.1 pb s h1 a h2 bd t b hq w h g ho hj
      · exact fun op hop pb s h1 a h2 bd t b hq w h g ho hj=>pCall n op hop i.1 pb s h1 a h2 bd t b hq w h g ho hj
end
theorem fSU8 (a b:Nat)(h1:b≤a)(h2:a<256):IntKind.wrap .u8 ((a:Int)-(b:Int))=((a-b:Nat):Int):=by
  rw[show (a:Int)-(b:Int)=((a-b:Nat):Int) by omega];exact fitU8 oM oM
theorem wd_one {a:Nat}(h:a<18446744073709551616):Wd (if a=0 then [] else [a]):=by
  split
  · exact Dg.nil
  · intro x hx
    rw[List.mem_singleton] at hx;rw[hx];exact h
theorem wval_one (a:Nat):wval (if a=0 then [] else [a])=a:=by
  split
  · rename_i e;rw[e];rfl
  · show a+18446744073709551616*0=a;omega
theorem idx_no {c:UInt8}:∀ (l:List UInt8),(∀ b∈l,b≠c)→Lib.indexByte l c = -1
  | [],_=>rfl
  | b::l,h=>by
    have h1:(b == c)=false:=by simpa using h b List.mem_cons_self
    unfold Lib.indexByte
    rw[h1,idx_no l (fun b hb=>h b (List.mem_cons_of_mem _ hb))];rfl
theorem bAt_mem {s:ByteArray}{b:UInt8}(h:b∈s.data.toList):∃ i,i<s.size∧bAt s i=b.toNat:=by
  obtain ⟨i,hi,e⟩:=List.mem_iff_getElem.1 h;refine ⟨i,by simpa using hi,?_⟩
  unfold bAt
  rw[List.getD_eq_getElem?_getD,List.getElem?_eq_getElem hi,e];rfl
theorem sIndex0 (x:ByteArray)(c:UInt8)(hn:∀ i,i<x.size→bAt x i≠c.toNat)(w:World)(h:Hp)(g:G w h):CV 164 #[.string x,.string ⟨#[c]⟩] w h (iV (-1)):=by
  have q:=Ret.of_same g (Tryz.stringslite_Index_one x c w)
  rw[idx_no _ (fun b hb e=>by
    obtain ⟨i,hi,h1⟩:=bAt_mem hb;exact hn i hi (by rw[h1,e]))] at q
  exact q
theorem pre_no {x:ByteArray}{c:UInt8}(h:bAt x 0≠c.toNat):Lib.hasPrefix x.data.toList [c]=false:=by
  unfold Lib.hasPrefix
  unfold bAt at h
  cases e:x.data.toList with
  | nil=>rfl
  | cons b l =>
    rw[e] at h
    have:b≠c:=fun e2=>h (by rw[e2];rfl)
    simp[List.isPrefixOf,Ne.symm this]
theorem sCutPrefix0 (x:ByteArray)(c:UInt8)(hn:bAt x 0≠c.toNat)(w:World)(h:Hp)(g:G w h):CV 241 #[.string x,.string ⟨#[c]⟩] w h (.tuple #[.string x,.bool false]):=by
  have q:=Ret.of_same g (Tryz.strings_CutPrefix x ⟨#[c]⟩ w);have e:Lib.hasPrefix x.data.toList [c]=false:=pre_no hn;have e2:(⟨(Lib.trimPrefix x.data.toList [c]).toArray⟩:ByteArray)=x:=by unfold Lib.trimPrefix;rw[e];simp
  have q2:CV 241 #[.string x,.string ⟨#[c]⟩] w h (.tuple #[.string ⟨(Lib.trimPrefix x.data.toList [c]).toArray⟩,.bool (Lib.hasPrefix x.data.toList [c])]):=q;rw[e,e2] at q2;exact q2
theorem nMaw0 (m a:Nat)(ha:a<18446744073709551616)(w:World)(h:Hp)(g:G w h):CR 215 #[.slice none ((([]:List Nat)).length) 0,mV m,mV a] w h (fun v h1=>∃ (A:Option Addr) (c:Nat) (l:List Nat),v=.slice A l.length c∧l.length≤c∧SlO 1 u64c 0 h1 A l∧l=if a=0 then [] else [a]):=by
 have hs:=(sS g).nil 34 1;have hnil:([]:List Nat).length=0:=rfl;refine go Tryz.func215 [(0,qS none ((([]:List Nat)).length) 0),(1,mV m),(2,mV a)] rfl (cSLlL hs [.v 6 (sZ)] (lNS (lL hs [.m 13 2,.m 7 13] (lNcQ (cSLlL hs [.m 14 0,.v 15 (iV 0),.v 16 (iV 0)] (lNkZ (cU ?_)))))));refine cN (cSLlL hs [.v 17 qF] (lNcQ (cIF (CG.exit ?_))))
 show CG _ _ _ _ _ _ _ _
 refine cQ (cSLlL hs [.m 42 7] ?_);cases hb1:((a:Int) != (0:Int))
 ·
  have phb1:=eqOfBne hb1;exact lB 43 hb1 (lNIF (cK (cSLlL hs [.m 48 0,.m 6 48] (lNkXr hs [] (qS none ((([]:List Nat)).length) 0) (⟨none,0,[],rfl,nR _,SlO.nil,by rw[if_pos oM]⟩)))))
 have phb1:=neOfBne hb1;refine lB 43 hb1 (lNIT (kQ (lL hs [.m 44 0,.m 45 7] (lR 46 34 1 ([mV a]) hs (fun b2 w3 h4 hs=>lY 47 0 34 1 0 none ([]:List Nat) u64c a 8 b2 (uV 0) hs hs.f.1 (fun A6 c7 w8 h9 hs=>lL hs [.m 0 47] (lNS (lL hs [.m 48 0,.m 6 48] (lN (kX ?_))))))))));obtain ⟨_,hs,za⟩:=hs.pubr 0 (A:=A6) (c:=c7) (l:=([]:List Nat)++[a]) (f:=u64c) (ty:=34) (sz:=1) 0 (fun _=>rfl);have hfin:=(hs.f.1);exact hs.ret [] (qS A6 ((([]:List Nat)++[a]).length) c7) (⟨_,_,_,rfl,za,hfin,by rw[if_neg oM];rfl⟩)
theorem nParseS (x:ByteArray)(k:Nat)(hx:x.size≤18)(hk_:natP x=some k)(w:World)(h:Hp)(g:G w h):CV 185 #[.string x] w h (.tuple #[nv k,.bool true]):=by
 have hs:=sS g;obtain ⟨h1,h0,hdg,hkd⟩:=natP_some hk_;refine go Tryz.func185 [(0,.string x)] rfl (cSL (lA 2 36 ([uV 0,eS]) hs (fun b1 w2 h3 hs=>lL hs [.v 3 qF] (lNcQ (cSLlL hs [.m 8 0,.v 9 (nV x.size)] ?_)))));cases hb4:((x.size:Int) == (0:Int))
 ·
  have phb4:=neOfBeq hb4;refine lB 10 hb4 (lL hs [.m 11 10,.m 12 0,.v 13 (nV x.size)] ?_);cases hb5:(decide ((200:Int)<(x.size:Int)))
  ·
   have phb5:=oF hb5;refine lB 14 hb5 (lL hs [.v 15 qF,.m 16 15,.m 17 0,.v 18 (nV x.size)] ?_);cases hb6:(decide ((1:Int)<(x.size:Int)))
   ·
    have phb6:=oF hb6;refine lB 19 hb6 (lL hs [.m 20 19] (lG 21 ?_));refine lG 22 (lG 23 (lL hs [.v 24 qF,.v 25 qF] (lNIF (cK (cSLlL hs [.v 4 (sZ)] (lNS (lL hs [.v 5 (uV 0),.v 6 (uV 1)] (lNcQ (cSLlL hs [.m 27 0,.v 28 (nV x.size),.v 29 (iV 0)] (lNkZ ?_))))))))));replace hs:=hs.add (K:=fun h_=>SlO 1 u64c 0 h_ none ([])) (SlO.nil);refine cTo _ (CG.loop (fun μ_ Γ w_=>∃ (j:Nat) (A:Option Addr) (c:Nat) (l:List Nat) (pt:Nat) (un:Nat) (h_:Hp),μ_=x.size-j∧Γ=[(0,.string x),(2,pB b1),(28,nV x.size),(29,nV j),(4,qS A l.length c),(5,mV pt),(6,mV un)]∧SS w h w_ h_ [⟨b1,36,[uV 0,eS]⟩] [] [fun h_=>SlO 1 u64c 0 h_ A l]∧j≤x.size∧l.length≤c∧(j<x.size→A=none∧c=0∧l=[]∧pt=dv x j∧un=10^j)∧(j=x.size→l.length≤1)∧(j=x.size→Wd l)∧(j=x.size→wval l=dv x j)) _ ⟨0,none,0,[],0,1,h3,rfl,rfl,hs.to _ _,Nat.zero_le _,nR _,(fun _=>⟨rfl,rfl,rfl,rfl,rfl⟩),(fun _=>Nat.zero_le _),(fun _=>Dg.nil),(fun h_=>absurd h_ oM)⟩ ?_);rintro _ _ w7 ⟨j,A,c,l,pt,un,h8,hm9,rfl,hs,hk,hcl,hI,hL,hW,hV⟩;have hd_:=hdg j;have hb_:=dv_lt (x:=x) j (fun i hi=>hdg i oM);have hp_:10^j≤10^18:=Nat.pow_le_pow_right kD oM;have hs_:dv x (j+1)=dv x j*10+(bAt x j-48):=rfl;have ht_:10^(j+1)=10^j*10:=Nat.pow_succ ..;refine cSL ?_;cases za:(decide ((j:Int)<(x.size:Int)))
    ·
     have zm:=oF za;refine lB 30 za (lNcQ (cIF (CG.exit ?_)))
     show CG _ _ _ _ _ _ _ _
     exact cSLlL hs [.m 67 4] (lCval 68 hs (nFrom A c l (hW oM) (by have:=hL oM;omega) hcl _ _ hs.g hs.f.1) (fun _ _ hs=>lP 0 0 (nc (wval l)) hs (fun _ hs=>lL hs [.v 3 qT] (lNkXr hs [(0,0,2)] (.tuple #[nv (wval l),qT]) (by rw[hV oM,show j=x.size by omega,←hkd])))))
    have zm:=oT za;refine lB 30 za (lNcQ (cIT (cK (cQ (kZ ?_)))));obtain ⟨hA0,hc0,hl0,hpt,hun⟩:=hI oM;have hd2_:=hd_ oM;have hp2_:10^(j+1)≤10^18:=Nat.pow_le_pow_right kD oM;refine cSLlL hs [.m 31 29,.m 7 31] (lNcQ (cSLlL hs [.m 32 0,.m 33 7] (lV 34 (.int .u8 (bAt x j:Nat)) ?_ (hr:=opIdxS (tx:=9) (x:=.tmp 32) (i:=.tmp 33) (k:=.i64) (s:=x) (n:=j) (j:=(j:Int)) kR kR kR kR oM oM _))));cases zb:(decide (((bAt x j:Nat):Int)<(48:Int)))
    ·
     have zn:=oF zb;refine lB 35 zb (lL hs [.m 36 35,.m 37 0,.m 38 7] (lV 39 (.int .u8 (bAt x j:Nat)) ?_ (hr:=opIdxS (tx:=9) (x:=.tmp 37) (i:=.tmp 38) (k:=.i64) (s:=x) (n:=j) (j:=(j:Int)) kR kR kR kR oM oM _)));cases zc:(decide ((57:Int)<((bAt x j:Nat):Int)))
     ·
      have zo:=oF zc;refine lB 40 zc (lL hs [.v 41 qF] (lNIF (cK (cSLlL hs [.m 43 5] (lV 44 (mV (pt*10)) ?_ (hr:=rU (((pt:Int)*(10:Int))) kR (fMU64 pt 10 oM)))))));refine lL hs [.m 45 0,.m 46 7] (lV 47 (.int .u8 (bAt x j:Nat)) ?_ (hr:=opIdxS (tx:=9) (x:=.tmp 45) (i:=.tmp 46) (k:=.i64) (s:=x) (n:=j) (j:=(j:Int)) kR kR kR kR oM oM _));refine lV 48 (.int .u8 ((bAt x j)-48:Nat)) ?_ (hr:=rint (n:=IntKind.wrap .u8 (((bAt x j:Nat):Int)-(48:Int))) kR (fSU8 (bAt x j) 48 oM oM));refine lV 49 (mV ((bAt x j)-48)) ?_ (hr:=rU ((((bAt x j)-48:Nat):Int)) kR (fitU64 oM oM));refine lV 50 (mV ((pt*10)+((bAt x j)-48))) ?_ (hr:=rU ((((pt*10:Nat):Int)+(((bAt x j)-48:Nat):Int))) kR (fAU64 (pt*10) ((bAt x j)-48) oM));refine lL hs [.m 51 6] (lV 52 (mV (un*10)) ?_ (hr:=rU (((un:Int)*(10:Int))) kR (fMU64 un 10 oM)));refine lL hs [.m 5 50,.m 6 52] (lNS (lL hs [.m 53 6] ?_));cases zd:(((un*10:Nat):Int) == (10000000000000000000:Int))
      ·
       have zp:=neOfBeq zd;refine lB 54 zd (lL hs [.m 55 54,.m 56 7,.m 57 0,.v 58 (nV x.size)] (lI 59 ((x.size:Nat)-1) ?_));cases ze:((j:Int) == ((x.size:Nat)-1:Int))
       ·
        have zq:=neOfBeq ze;refine lB 60 ze (lL hs [.v 61 qF] (lNIF (cK (kQ (lIn 66 ((j:Nat)+1) (j+1) ?_)))));refine lL hs [.m 29 66] (lD ?_);intro a_ ka;replace hs:=(hs.tl.add (K:=fun h_=>SlO 1 u64c 0 h_ A l) hs.f.1);refine ⟨_,_,?_,⟨j+1,A,c,l,((pt*10)+((bAt x j)-48):Nat),(un*10),h8,rfl,rfl,hs.to _ _,oM,hcl,(fun _=>⟨hA0,hc0,hl0,by omega,by omega⟩),(fun h_=>absurd h_ oM),(fun h_=>absurd h_ oM),(fun h_=>absurd h_ oM)⟩,ka.to _ kR⟩
        omega
       have zq:=eq_of_beq ze;refine lB 60 ze (lL hs [.v 61 qT] (lNIT ?_));subst hA0 hc0 hl0;refine cSLlL hs [.m 62 4,.m 63 6,.m 64 5] (lC 65 hs (nMaw0 ((un*10)) (((pt*10)+((bAt x j)-48):Nat)) oM _ _ hs.g) ?_);rintro _ _ zx hs ⟨A2,c2,l2,rfl,hc2,hA2,hl2⟩;replace hs:=hs.aS hA2;refine lL hs [.m 4 65] (lN (cTo [(0,.string x),(2,pB b1),(28,nV x.size),(29,nV j),(4,qS A2 l2.length c2),(5,mV ((pt*10)+((bAt x j)-48))),(6,mV (un*10))] ?_));refine kQ (lL hs [.v 5 (uV 0),.v 6 (uV 1)] (lN (kQ (lIn 66 ((j:Nat)+1) (j+1) ?_))));refine lL hs [.m 29 66] (lD ?_);intro a_ ka;replace hs:=(hs.tl.tl.add (K:=fun h_=>SlO 1 u64c 0 h_ A2 l2) hs.f.1);refine ⟨_,_,?_,⟨j+1,A2,c2,l2,0,1,zx,rfl,rfl,hs.to _ _,oM,hc2,(fun h_=>absurd h_ oM),(fun _=>by rw[hl2];split<;>simp),(fun _=>by rw[hl2];exact wd_one oM),(fun _=>by rw[hl2,wval_one];omega)⟩,ka.to _ kR⟩
       omega
      have zp:=eq_of_beq zd;refine lB 54 zd (lL hs [.m 55 54] (lG 56 ?_));refine lG 57 (lG 58 (lG 59 (lG 60 (lL hs [.v 61 qT] (lNIT ?_)))));subst hA0 hc0 hl0;refine cSLlL hs [.m 62 4,.m 63 6,.m 64 5] (lC 65 hs (nMaw0 ((un*10)) (((pt*10)+((bAt x j)-48):Nat)) oM _ _ hs.g) ?_);rintro _ _ zA hs ⟨A2,c2,l2,rfl,hc2,hA2,hl2⟩;replace hs:=hs.aS hA2;refine lL hs [.m 4 65] (lN (cTo [(0,.string x),(2,pB b1),(28,nV x.size),(29,nV j),(4,qS A2 l2.length c2),(5,mV ((pt*10)+((bAt x j)-48))),(6,mV (un*10))] ?_));refine kQ (lL hs [.v 5 (uV 0),.v 6 (uV 1)] (lN (kQ (lIn 66 ((j:Nat)+1) (j+1) ?_))));refine lL hs [.m 29 66] (lD ?_);intro a_ ka;replace hs:=(hs.tl.tl.add (K:=fun h_=>SlO 1 u64c 0 h_ A2 l2) hs.f.1);refine ⟨_,_,?_,⟨j+1,A2,c2,l2,0,1,zA,rfl,rfl,hs.to _ _,oM,hc2,(fun h_=>absurd h_ oM),(fun _=>by rw[hl2];split<;>simp),(fun _=>by rw[hl2];exact wd_one oM),(fun _=>by rw[hl2,wval_one];omega)⟩,ka.to _ kR⟩
      omega
     have zo:=oT zc;refine lB 40 zc (lL hs [.v 41 qT] (lNIT (cSLlL hs [.v 42 (.agg #[uV 0,eS])] (lP 0 0 ([uV 0,eS]) hs (fun _ hs=>lL hs [.v 3 qF] (lN (kX ?_)))))))
     exfalso
     omega
    have zn:=oT zb;refine lB 35 zb (lL hs [.m 36 35] (lG 37 ?_));refine lG 38 (lG 39 (lG 40 (lL hs [.v 41 qT] (lNIT (cSLlL hs [.v 42 (.agg #[uV 0,eS])] (lP 0 0 ([uV 0,eS]) hs (fun _ hs=>lL hs [.v 3 qF] (lN (kX ?_)))))))))
    exfalso
    omega
   have phb6:=oT hb6;refine lB 19 hb6 (lL hs [.m 20 19,.m 21 0] (lV 22 (.int .u8 (bAt x 0:Nat)) ?_ (hr:=opIdxS (tx:=9) (x:=.tmp 21) (i:=.const (iV 0)) (k:=.i64) (s:=x) (n:=0) (j:=(0:Int)) kR kR kR kR oM oM _)));cases zf:(((bAt x 0:Nat):Int) == (48:Int))
   ·
    have zr:=neOfBeq zf;refine lB 23 zf (lL hs [.v 24 qF,.v 25 qF] (lNIF (cK (cSLlL hs [.v 4 (sZ)] (lNS (lL hs [.v 5 (uV 0),.v 6 (uV 1)] (lNcQ (cSLlL hs [.m 27 0,.v 28 (nV x.size),.v 29 (iV 0)] (lNkZ ?_)))))))));replace hs:=hs.add (K:=fun h_=>SlO 1 u64c 0 h_ none ([])) (SlO.nil);refine cTo _ (CG.loop (fun μ_ Γ w_=>∃ (j:Nat) (A:Option Addr) (c:Nat) (l:List Nat) (pt:Nat) (un:Nat) (h_:Hp),μ_=x.size-j∧Γ=[(0,.string x),(2,pB b1),(28,nV x.size),(29,nV j),(4,qS A l.length c),(5,mV pt),(6,mV un)]∧SS w h w_ h_ [⟨b1,36,[uV 0,eS]⟩] [] [fun h_=>SlO 1 u64c 0 h_ A l]∧j≤x.size∧l.length≤c∧(j<x.size→A=none∧c=0∧l=[]∧pt=dv x j∧un=10^j)∧(j=x.size→l.length≤1)∧(j=x.size→Wd l)∧(j=x.size→wval l=dv x j)) _ ⟨0,none,0,[],0,1,h3,rfl,rfl,hs.to _ _,Nat.zero_le _,nR _,(fun _=>⟨rfl,rfl,rfl,rfl,rfl⟩),(fun _=>Nat.zero_le _),(fun _=>Dg.nil),(fun h_=>absurd h_ oM)⟩ ?_);rintro _ _ _ ⟨j,A,c,l,pt,un,zB,hm48,rfl,hs,hk,hcl,hI,hL,hW,hV⟩;have hd_:=hdg j;have hb_:=dv_lt (x:=x) j (fun i hi=>hdg i oM);have hp_:10^j≤10^18:=Nat.pow_le_pow_right kD oM;have hs_:dv x (j+1)=dv x j*10+(bAt x j-48):=rfl;have ht_:10^(j+1)=10^j*10:=Nat.pow_succ ..;refine cSL ?_;cases zg:(decide ((j:Int)<(x.size:Int)))
    ·
     have zs:=oF zg;refine lB 30 zg (lNcQ (cIF (CG.exit ?_)))
     show CG _ _ _ _ _ _ _ _
     exact cSLlL hs [.m 67 4] (lCval 68 hs (nFrom A c l (hW oM) (by have:=hL oM;omega) hcl _ _ hs.g hs.f.1) (fun _ _ hs=>lP 0 0 (nc (wval l)) hs (fun _ hs=>lL hs [.v 3 qT] (lNkXr hs [(0,0,2)] (.tuple #[nv (wval l),qT]) (by rw[hV oM,show j=x.size by omega,←hkd])))))
    have zs:=oT zg;refine lB 30 zg (lNcQ (cIT (cK (cQ (kZ ?_)))));obtain ⟨hA0,hc0,hl0,hpt,hun⟩:=hI oM;have hd2_:=hd_ oM;have hp2_:10^(j+1)≤10^18:=Nat.pow_le_pow_right kD oM;refine cSLlL hs [.m 31 29,.m 7 31] (lNcQ (cSLlL hs [.m 32 0,.m 33 7] (lV 34 (.int .u8 (bAt x j:Nat)) ?_ (hr:=opIdxS (tx:=9) (x:=.tmp 32) (i:=.tmp 33) (k:=.i64) (s:=x) (n:=j) (j:=(j:Int)) kR kR kR kR oM oM _))));cases zi:(decide (((bAt x j:Nat):Int)<(48:Int)))
    ·
     have zt:=oF zi;refine lB 35 zi (lL hs [.m 36 35,.m 37 0,.m 38 7] (lV 39 (.int .u8 (bAt x j:Nat)) ?_ (hr:=opIdxS (tx:=9) (x:=.tmp 37) (i:=.tmp 38) (k:=.i64) (s:=x) (n:=j) (j:=(j:Int)) kR kR kR kR oM oM _)));cases zj:(decide ((57:Int)<((bAt x j:Nat):Int)))
     ·
      have zu:=oF zj;refine lB 40 zj (lL hs [.v 41 qF] (lNIF (cK (cSLlL hs [.m 43 5] (lV 44 (mV (pt*10)) ?_ (hr:=rU (((pt:Int)*(10:Int))) kR (fMU64 pt 10 oM)))))));refine lL hs [.m 45 0,.m 46 7] (lV 47 (.int .u8 (bAt x j:Nat)) ?_ (hr:=opIdxS (tx:=9) (x:=.tmp 45) (i:=.tmp 46) (k:=.i64) (s:=x) (n:=j) (j:=(j:Int)) kR kR kR kR oM oM _));refine lV 48 (.int .u8 ((bAt x j)-48:Nat)) ?_ (hr:=rint (n:=IntKind.wrap .u8 (((bAt x j:Nat):Int)-(48:Int))) kR (fSU8 (bAt x j) 48 oM oM));refine lV 49 (mV ((bAt x j)-48)) ?_ (hr:=rU ((((bAt x j)-48:Nat):Int)) kR (fitU64 oM oM));refine lV 50 (mV ((pt*10)+((bAt x j)-48))) ?_ (hr:=rU ((((pt*10:Nat):Int)+(((bAt x j)-48:Nat):Int))) kR (fAU64 (pt*10) ((bAt x j)-48) oM));refine lL hs [.m 51 6] (lV 52 (mV (un*10)) ?_ (hr:=rU (((un:Int)*(10:Int))) kR (fMU64 un 10 oM)));refine lL hs [.m 5 50,.m 6 52] (lNS (lL hs [.m 53 6] ?_));cases zk:(((un*10:Nat):Int) == (10000000000000000000:Int))
      ·
       have zv:=neOfBeq zk;refine lB 54 zk (lL hs [.m 55 54,.m 56 7,.m 57 0,.v 58 (nV x.size)] (lI 59 ((x.size:Nat)-1) ?_));cases zl:((j:Int) == ((x.size:Nat)-1:Int))
       ·
        have zw:=neOfBeq zl;refine lB 60 zl (lL hs [.v 61 qF] (lNIF (cK (kQ (lIn 66 ((j:Nat)+1) (j+1) ?_)))));refine lL hs [.m 29 66] (lD ?_);intro a_ ka;replace hs:=(hs.tl.add (K:=fun h_=>SlO 1 u64c 0 h_ A l) hs.f.1);refine ⟨_,_,?_,⟨j+1,A,c,l,((pt*10)+((bAt x j)-48):Nat),(un*10),zB,rfl,rfl,hs.to _ _,oM,hcl,(fun _=>⟨hA0,hc0,hl0,by omega,by omega⟩),(fun h_=>absurd h_ oM),(fun h_=>absurd h_ oM),(fun h_=>absurd h_ oM)⟩,ka.to _ kR⟩
        omega
       have zw:=eq_of_beq zl;refine lB 60 zl (lL hs [.v 61 qT] (lNIT ?_));subst hA0 hc0 hl0;refine cSLlL hs [.m 62 4,.m 63 6,.m 64 5] (lC 65 hs (nMaw0 ((un*10)) (((pt*10)+((bAt x j)-48):Nat)) oM _ _ hs.g) ?_);rintro _ _ zD hs ⟨A2,c2,l2,rfl,hc2,hA2,hl2⟩;replace hs:=hs.aS hA2;refine lL hs [.m 4 65] (lN (cTo [(0,.string x),(2,pB b1),(28,nV x.size),(29,nV j),(4,qS A2 l2.length c2),(5,mV ((pt*10)+((bAt x j)-48))),(6,mV (un*10))] ?_));refine kQ (lL hs [.v 5 (uV 0),.v 6 (uV 1)] (lN (kQ (lIn 66 ((j:Nat)+1) (j+1) ?_))));refine lL hs [.m 29 66] (lD ?_);intro a_ ka;replace hs:=(hs.tl.tl.add (K:=fun h_=>SlO 1 u64c 0 h_ A2 l2) hs.f.1);refine ⟨_,_,?_,⟨j+1,A2,c2,l2,0,1,zD,rfl,rfl,hs.to _ _,oM,hc2,(fun h_=>absurd h_ oM),(fun _=>by rw[hl2];split<;>simp),(fun _=>by rw[hl2];exact wd_one oM),(fun _=>by rw[hl2,wval_one];omega)⟩,ka.to _ kR⟩
       omega
      have zv:=eq_of_beq zk;refine lB 54 zk (lL hs [.m 55 54] (lG 56 ?_));refine lG 57 (lG 58 (lG 59 (lG 60 (lL hs [.v 61 qT] (lNIT ?_)))));subst hA0 hc0 hl0;refine cSLlL hs [.m 62 4,.m 63 6,.m 64 5] (lC 65 hs (nMaw0 ((un*10)) (((pt*10)+((bAt x j)-48):Nat)) oM _ _ hs.g) ?_);rintro _ _ zE hs ⟨A2,c2,l2,rfl,hc2,hA2,hl2⟩;replace hs:=hs.aS hA2;refine lL hs [.m 4 65] (lN (cTo [(0,.string x),(2,pB b1),(28,nV x.size),(29,nV j),(4,qS A2 l2.length c2),(5,mV ((pt*10)+((bAt x j)-48))),(6,mV (un*10))] ?_));refine kQ (lL hs [.v 5 (uV 0),.v 6 (uV 1)] (lN (kQ (lIn 66 ((j:Nat)+1) (j+1) ?_))));refine lL hs [.m 29 66] (lD ?_);intro a_ ka;replace hs:=(hs.tl.tl.add (K:=fun h_=>SlO 1 u64c 0 h_ A2 l2) hs.f.1);refine ⟨_,_,?_,⟨j+1,A2,c2,l2,0,1,zE,rfl,rfl,hs.to _ _,oM,hc2,(fun h_=>absurd h_ oM),(fun _=>by rw[hl2];split<;>simp),(fun _=>by rw[hl2];exact wd_one oM),(fun _=>by rw[hl2,wval_one];omega)⟩,ka.to _ kR⟩
      omega
     have zu:=oT zj;refine lB 40 zj (lL hs [.v 41 qT] (lNIT (cSLlL hs [.v 42 (.agg #[uV 0,eS])] (lP 0 0 ([uV 0,eS]) hs (fun _ hs=>lL hs [.v 3 qF] (lN (kX ?_)))))))
     exfalso
     omega
    have zt:=oT zi;refine lB 35 zi (lL hs [.m 36 35] (lG 37 ?_));refine lG 38 (lG 39 (lG 40 (lL hs [.v 41 qT] (lNIT (cSLlL hs [.v 42 (.agg #[uV 0,eS])] (lP 0 0 ([uV 0,eS]) hs (fun _ hs=>lL hs [.v 3 qF] (lN (kX ?_)))))))))
    exfalso
    omega
   have zr:=eq_of_beq zf;refine lB 23 zf (lL hs [.v 24 qT,.v 25 qT] (lNIT (cSLlL hs [.v 26 (.agg #[uV 0,eS])] (lP 0 0 ([uV 0,eS]) hs (fun _ hs=>lL hs [.v 3 qF] (lN (kX ?_)))))))
   exfalso
   first|omega|exact h0 oM oM
  have phb5:=oT hb5;refine lB 14 hb5 (lL hs [.v 15 qT,.m 16 15] (lG 17 ?_));refine lG 18 (lG 19 (lG 20 (lG 21 (lG 22 (lG 23 (lG 24 (lL hs [.v 25 qT] (lNIT (cSLlL hs [.v 26 (.agg #[uV 0,eS])] (lP 0 0 ([uV 0,eS]) hs (fun _ hs=>lL hs [.v 3 qF] (lN (kX ?_)))))))))))))
  exfalso
  first|omega|exact h0 oM oM
 have phb4:=eq_of_beq hb4;refine lB 10 hb4 (lL hs [.m 11 10] (lG 12 ?_));refine lG 13 (lG 14 (lL hs [.v 15 qT,.m 16 15] (lG 17 ?_)));refine lG 18 (lG 19 (lG 20 (lG 21 (lG 22 (lG 23 (lG 24 (lL hs [.v 25 qT] (lNIT (cSLlL hs [.v 26 (.agg #[uV 0,eS])] (lP 0 0 ([uV 0,eS]) hs (fun _ hs=>lL hs [.v 3 qF] (lN (kX ?_)))))))))))))
 exfalso
 first|omega|exact h0 oM oM
theorem sCutS (x:ByteArray)(c:UInt8)(hn:∀ i,i<x.size→bAt x i≠c.toNat)(w:World)(h:Hp)(g:G w h):CV 240 #[.string x,.string (⟨#[c]⟩)] w h (.tuple #[.string x,eS,.bool false]):=by
 have hs:=sS g;exact go Tryz.func240 [(0,.string x),(1,.string (⟨#[c]⟩))] rfl (cSLlL hs [.v 4 (eS),.v 5 (eS),.v 6 qF] (lNcQ (cSLlL hs [.m 8 0,.m 9 1] (lCval 10 hs (sIndex0 x c hn _ _ hs.g) (fun w1 h2 hs=>lL hs [.m 7 10] (lNS (lL hs [.m 11 7,.v 12 qF] (lNIF (cK (cSLlL hs [.m 22 0,.m 4 22,.v 5 (eS),.v 6 qF] (lNkXr hs [] (.tuple #[.string x,eS,qF]) rfl)))))))))))
theorem sCut0 (x:ByteArray)(c:UInt8)(hn:∀ i,i<x.size→bAt x i≠c.toNat)(w:World)(h:Hp)(g:G w h):CV 225 #[.string x,.string (⟨#[c]⟩)] w h (.tuple #[.string x,eS,.bool false]):=by
 have hs:=sS g;exact go Tryz.func225 [(0,.string x),(1,.string (⟨#[c]⟩))] rfl (cSLlL hs [.v 4 (eS),.v 5 (eS),.v 6 qF] (lNS (lL hs [.m 7 0,.m 8 1] (lCval 9 hs (sCutS x c hn _ _ hs.g) (fun w1 h2 hs=>lL hs [.v 10 (.string x),.v 11 (eS),.v 12 qF,.m 4 10,.m 5 11,.m 6 12] (lNkXr hs [] (.tuple #[.string x,eS,qF]) rfl))))))
theorem wParseS (x:ByteArray)(k:Nat)(hx:x.size≤18)(hk_:natP x=some k)(w:World)(h:Hp)(g:G w h):CV 228 #[.string x] w h (.tuple #[iv (k:Int),.bool true]):=by
 have hs:=sS g;obtain ⟨h1,h0,hdg,hkd⟩:=natP_some hk_;refine go Tryz.func228 [(0,.string x)] rfl (cSL (lA 2 38 ([qF,uV 0,eS]) hs (fun b1 w2 h3 hs=>lL hs [.v 3 qF] (lNS (lL hs [.m 9 0] (lCval 10 hs (sCutPrefix0 x 45 (by have:=hdg 0 oM;show bAt x 0≠45;omega) _ _ hs.g) (fun w4 h5 hs=>lL hs [.m 8 10,.v 11 (.string x),.v 12 qF,.m 4 11,.m 5 12] (lNS (lL hs [.m 14 4] (lCval 15 hs (nParseS x k hx hk_ _ _ hs.g) (fun w6 h7 hs=>lL hs [.m 13 15,.v 16 (nv k),.v 17 qT] (lA 6 36 ([uV 0,eS]) hs (fun b8 w9 _ hs=>lP 0 0 (nc k) hs (fun _ hs=>lL hs [.m 7 17] (lNcQ (cSLlL hs [.m 18 7,.v 19 qF,.m 20 19,.m 21 5,.m 22 21] (lG 23 ?_)))))))))))))))));exact lG 24 (lG 25 (lL hs [.v 26 qF,.v 27 qF] (lNIF (cK (cSLlL hs [.m 29 5,.o 30 (nv k) 0 0 2] (lCval 31 hs (wFromN k _ _ hs.g) (fun _ _ hs=>lP 1 0 (ic (k:Int)) hs (fun _ hs=>lL hs [.v 3 qT] (lNkXr hs [(1,0,3)] (.tuple #[iv (k:Int),qT]) rfl)))))))))
theorem fParseS (x:ByteArray)(k:Nat)(hx:x.size≤18)(hk_:natP x=some k)(w:World)(h:Hp)(g:G w h):CV 211 #[.string x] w h (.tuple #[qv ((k:Nat):Rat),.bool true]):=by
 have hs:=sS g;obtain ⟨h1,h0,hdg,hkd⟩:=natP_some hk_;exact go Tryz.func211 [(0,.string x)] rfl (cSL (lA 2 40 ([qF,uV 0,eS,uV 0,eS]) hs (fun b1 w2 h3 hs=>lL hs [.v 3 qF] (lNcQ (cSLlL hs [.m 13 0] (lCval 14 hs (sCut0 x 47 (fun i hi=>by have:=hdg i hi;show bAt x i≠47;omega) _ _ hs.g) (fun w4 h5 hs=>lL hs [.m 12 14,.v 15 (.string x),.v 16 (eS),.v 17 qF,.m 4 15,.m 5 16,.m 6 17] (lNS (lL hs [.m 18 6] (lNIF (cK (cQ (cSLlL hs [.m 25 0] (lCval 26 hs (sCut0 x 46 (fun i hi=>by have:=hdg i hi;show bAt x i≠46;omega) _ _ hs.g) (fun w6 h7 hs=>lL hs [.m 24 26,.v 27 (.string x),.v 28 (eS),.v 29 qF,.m 7 27,.m 8 28,.m 9 29] (lNS (lL hs [.m 30 9] (lNIF (cK (cSLlL hs [.m 37 0] (lCval 38 hs (wParseS x k hx hk_ _ _ hs.g) (fun w8 h9 hs=>lL hs [.m 36 38,.v 39 (iv (k:Int)),.v 40 qT] (lA 10 38 ([qF,uV 0,eS]) hs (fun b10 _ _ hs=>lP 0 0 (ic (k:Int)) hs (fun _ hs=>lL hs [.m 11 40] (lNS (lL hs [.o 41 (iv (k:Int)) 0 0 3,.v 42 (.agg #[.bool (ineg (k:Int)),uV (lo (iabs (k:Int))),.string (hi (iabs (k:Int))),uV 0,eS]),.m 43 11] (lP 1 0 ([.bool (ineg (k:Int)),uV (lo (iabs (k:Int))),.string (hi (iabs (k:Int))),uV 0,eS]) hs (fun _ hs=>lL hs [.m 3 43] (lNkXr hs [(1,0,5)] (.tuple #[.agg #[.bool (ineg (k:Int)),uV (lo (iabs (k:Int))),.string (hi (iabs (k:Int))),uV 0,eS],qT]) (congrArg (fun v_=>Value.tuple #[v_,qT]) (qv_lit (d:=0) (Rat.num_natCast k) (qd_one (Rat.den_natCast k))))))))))))))))))))))))))))))))))
def nfS (x:ByteArray):Option Rat:=if x.size≤18 then (natP x).map (fun k=>((k:Nat):Rat)) else none
theorem nfS_ok:NFok nfS:=fun x q h w hh g=>by
  unfold nfS at h
  split at h
  · rename_i hx
    cases hk:natP x with
    | none=>rw[hk] at h;cases h
    | some k =>
      rw[hk] at h;injection h with h;subst h
      exact fParseS x k hx hk w hh g
  · cases h
theorem npS_ok:NPok:=fun x k hx hk w h g=>nParseS x k oM hk w h g
section
variable {nm:Int→ByteArray} {l:List Stp} {inp:Int} {h:Hp} {k:Nat} {dp:Nat→Nat}
variable (hdp:DpS dp l) (hF:∀ k,k<l.length→Formed inp k (l.getD k stp0)) (hq0:∀ k,k<l.length→(l.getD k stp0).op≠1→(l.getD k stp0).q=0)
include hdp hF hq0
end
section
variable {dp:Nat→Nat} {inp:Int} {l:List Stp} {os:List Int} {out:Int} {nn:Nat} {e0:Int} {nm:Int→ByteArray}
end
theorem tChkG  (isb:ByteArray→Bool)(sm:ByteArray→Prop)(hIs:∀ s,sm s→∀ (w:World) (h:Hp),G w h→Calls Tryz.prog 61 #[.string s] w (Ret w h (fun v _=>∃ b,v=.bool b∧b=isb s)))(d:Nat)(p:PTm)(t:Tm)(hd:d≤24)(w:World)(h:Hp)(g:G w h)(hT:TmH d h p t)(hS:SmT sm d t):CR 10 #[pX p] w h (fun v _=>∃ e:Int,v=iV e∧((WfT (fun s=>isb s=true) d t∧e=(if 1000<wgt d t then 18 else 0))∨(¬WfT (fun s=>isb s=true) d t∧e=2))):=by
 have hs:=((sS g).add (K:=fun h_=>TmH d h_ p t) hT);refine go Tryz.func10 [(0,pX p)] rfl (cSL (lA 1 43 (pC p) hs (fun b1 w2 h3 hs=>lL hs [.v 2 (iV 0)] (lNcQ (cSLlL hs [.o 3 (pX p) 0 0 9] (lCval 4 hs (tDeeper sm d p t 24 _ _ hs.g hs.f.1 hS oM oM) (fun w4 h5 hs=>lNIF (cK (cQ (cSLlL hs [.o 5 (pX p) 0 0 9] (lC 6 hs (tFormedT isb sm hIs d p t _ _ hs.g hs.f.1 hS) ?_)))))))))));rintro _ w6 h7 hs ⟨bf,rfl,hbf⟩;cases hb8:(bf)
 ·
  exact lL hs [.v 7 qT] (lNIT (cSLlL hs [.v 2 (iV 2)] (lNkXr hs [] (iV 2) (⟨_,rfl,.inr ⟨fun h_=>Bool.noConfusion ((hbf.2 h_).symm.trans aM),rfl⟩⟩))))
 refine lL hs [.v 7 qF] (lNIF (cK (cQ (cSLlL hs [.o 8 (pX p) 0 0 9] (lCval 9 hs (tWeightT (fun s=>isb s=true) d p t _ _ hs.g hs.f.1 (hbf.1 aM)) (fun w9 _ hs=>?_))))));cases za:(decide ((1000:Int)<(((min (wgt d t) 1001:Nat):Int):Int)))
 ·
  have zb:=oF za;exact lB 10 za (lNIF (cK (cSLlL hs [.v 2 (iV 0)] (lNkXr hs [] (iV 0) (⟨_,rfl,.inl ⟨hbf.1 aM,by split<;>omega⟩⟩)))))
 have zb:=oT za;exact lB 10 za (lNIT (cSLlL hs [.v 2 (iV 18)] (lNkXr hs [] (iV 18) (⟨_,rfl,.inl ⟨hbf.1 aM,by split<;>omega⟩⟩))))
theorem tChkT (isb:ByteArray→Bool)(sm:ByteArray→Prop)(hIs:∀ s,sm s→∀ (w:World) (h:Hp),G w h→Calls Tryz.prog 61 #[.string s] w (Ret w h (fun v _=>∃ b,v=.bool b∧b=isb s)))(hsm:∀ s,isb s=true→sm s)(h0:sm ⟨#[]⟩)(d:Nat)(p:PTm)(t:Tm)(hd:d≤24)(w:World)(h:Hp)(g:G w h)(hT:TmH d h p t)(hW:WfT (fun s=>isb s=true) d t):Calls Tryz.prog 10 #[ptv p] w (Ret w h (fun v _=>v=iV (if 1000<wgt d t then 18 else 0))) :=
  (tChkG isb sm hIs d p t hd w h g hT (hW.sm hsm h0)).mono fun e w' ⟨v,h',e1,u,e2,e3,e4⟩=>⟨v,h',e1,u,by
    rcases e4 with ⟨_,e4⟩|⟨e4,_⟩
    · rw[e3,e4]
    · exact absurd hW e4⟩
def okx (s:ByteArray):Prop:=s=⟨#[120]⟩∨s=⟨#[121]⟩∨s=⟨#[122]⟩
theorem okx_at:∀ {k:Nat},k<3→okx (([⟨#[120]⟩,⟨#[121]⟩,⟨#[122]⟩]:List ByteArray).getD k ⟨#[]⟩)
  | 0,_=>.inl rfl
  | 1,_=>.inr (.inl rfl)
  | 2,_=>.inr (.inr rfl)
def GrT (d:Nat)(t:Tm):Prop:=WfT okx d t∧3*wgt d t≤3^d
theorem GrT.num {d:Nat}{q:Rat}(h:LQ 1 q):GrT (d+1) (.mk 1 0 q ⟨#[]⟩ []) :=
  ⟨⟨rfl,fun h=>absurd rfl h,h,fun h=>absurd (show (1:Int)=2 from h) kD,fun _=>rfl,fun _=>rfl,by show (-12:Int)≤0;decide,by show (0:Int)≤12;decide,fun i hi=>absurd hi (Nat.not_lt_zero i)⟩,by
    have:=Nat.two_pow_pos d;have:0<3^d:=Nat.pow_pos kD
    show 3*1≤3^(d+1)
    rw[Nat.pow_succ];omega⟩
theorem GrT.name {d:Nat}{s:ByteArray}(h:okx s):GrT (d+1) (.mk 2 0 0 s []) :=
  ⟨⟨rfl,fun _=>rfl,lq0 kD,fun _=>h,fun h=>absurd rfl h,fun _=>rfl,by show (-12:Int)≤0;decide,by show (0:Int)≤12;decide,fun i hi=>absurd hi (Nat.not_lt_zero i)⟩,by
    have:0<3^d:=Nat.pow_pos kD
    show 3*1≤3^(d+1)
    rw[Nat.pow_succ];omega⟩
theorem GrT.one {d:Nat}{op n:Int}{t:Tm}(x:GrT d t)(ha:ari op=1)(h8:op≠8→n=0)(h1 : -3≤n)(h2:n≤3):GrT (d+1) (.mk op n 0 ⟨#[]⟩ [t]):=by
  refine ⟨⟨ha,fun _=>rfl,lq0 kD,fun h=>?_,fun _=>rfl,h8,by show (-12:Int)≤n;omega,by show n≤12;omega,fun i hi=>?_⟩,?_⟩
  · have h:op=2:=h
    rw[h] at ha;exact absurd ha kD
  · have:i=0:=by have:i<1:=hi;omega
    subst this;exact x.1
  · show 3*((if op=11 then 2 else if op=8 then timesN n else 1)*(0+wgt d t))≤3^(d+1)
    have hf:(if op=11 then 2 else if op=8 then timesN n else 1)≤3:=by
      unfold timesN
      repeat' split
      all_goals omega
    have:=Nat.mul_le_mul hf x.2;rw[Nat.pow_succ,Nat.zero_add,Nat.mul_left_comm,Nat.mul_comm (3^d)];exact this
theorem GrT.two {d:Nat}{op:Int}{t u:Tm}(x:GrT d t)(y:GrT d u)(ha:ari op=2):GrT (d+1) (.mk op 0 0 ⟨#[]⟩ [t,u]):=by
  have h8:op≠8:=fun h=>by rw[h] at ha;exact absurd ha kD
  have h11:op≠11:=fun h=>by rw[h] at ha;exact absurd ha kD
  refine ⟨⟨ha,fun _=>rfl,lq0 kD,fun h=>?_,fun _=>rfl,fun _=>rfl,by show (-12:Int)≤0;decide,by show (0:Int)≤12;decide,fun i hi=>?_⟩,?_⟩
  · have h:op=2:=h
    rw[h] at ha;exact absurd ha kD
  · have:i=0∨i=1:=by have:i<2:=hi;omega
    rcases this with rfl|rfl
    · exact x.1
    · exact y.1
  · show 3*((if op=11 then 2 else if op=8 then timesN 0 else 1)*(0+wgt d t+wgt d u))≤3^(d+1)
    rw[if_neg h11,if_neg h8,Nat.pow_succ];have:=x.2;have:=y.2
    omega
section
variable {d:Nat} {h:Hp}
theorem rz_nil:RZ h (false,.slice none 0 0,.slice none 0 0) 0:=⟨false,⟨none,0,none,0,rfl,Nat.le_refl _,Nat.le_refl _,SlO.nil,SlO.nil⟩,fun _=>rfl⟩
theorem rm_num {b:Bool}{zA dA:Option Addr}{zn zc dn dc:Nat}{q:Rat}(hz:RZ h (b,.slice zA zn zc,.slice dA dn dc) q):RmH (d+1) h ⟨1,0,b,zA,zn,zc,dA,dn,dc,⟨#[]⟩,none,0,0⟩ (.mk 1 0 q ⟨#[]⟩ []) :=
  ⟨rfl,rfl,hz,rfl,rfl,Nat.le_refl _,[],rfl,SlO.nil,fun i hi=>absurd hi (Nat.not_lt_zero i)⟩
theorem rm_name {s:ByteArray}:RmH (d+1) h ⟨2,0,false,none,0,0,none,0,0,s,none,0,0⟩ (.mk 2 0 0 s []) :=
  ⟨rfl,rfl,rz_nil,rfl,rfl,Nat.le_refl _,[],rfl,SlO.nil,fun i hi=>absurd hi (Nat.not_lt_zero i)⟩
theorem rm_one {op n:Int}{p:RTm}{t:Tm}{b:Nat}(x:RmH d h p t)(hA:SlO 7 rmc rtm0 h (some ⟨b,0,none⟩) [p]):RmH (d+1) h ⟨op,n,false,none,0,0,none,0,0,⟨#[]⟩,some ⟨b,0,none⟩,1,1⟩ (.mk op n 0 ⟨#[]⟩ [t]) :=
  ⟨rfl,rfl,rz_nil,rfl,rfl,Nat.le_refl _,[p],rfl,hA,fun i hi=>by
    have:i=0:=by have:i<1:=hi;omega
    subst this;exact x⟩
theorem rm_two {op:Int}{p q:RTm}{t u:Tm}{b:Nat}(x:RmH d h p t)(y:RmH d h q u)(hA:SlO 7 rmc rtm0 h (some ⟨b,0,none⟩) [p,q]):RmH (d+1) h ⟨op,0,false,none,0,0,none,0,0,⟨#[]⟩,some ⟨b,0,none⟩,2,2⟩ (.mk op 0 0 ⟨#[]⟩ [t,u]) :=
  ⟨rfl,rfl,rz_nil,rfl,rfl,Nat.le_refl _,[p,q],rfl,hA,fun i hi=>by
    have:i=0∨i=1:=by have:i<2:=hi;omega
    rcases this with rfl|rfl
    · exact x
    · exact y⟩
end
theorem Rms.mono {d e:Nat}{h:Hp}{rs:List RTm}{ts:List Tm}(x:Rms d h rs ts)(u:d≤e):Rms e h rs ts:=⟨x.len,fun i hi=>(x.at_ i hi).mono u⟩
theorem Rms.set {d:Nat}{h:Hp}{rs:List RTm}{ts:List Tm}{r:RTm}{t:Tm}(x:Rms d h rs ts)(k:Nat)(y:RmH d h r t):Rms d h (rs.set k r) (ts.set k t):=by
  refine ⟨by simp[x.len],fun i hi=>?_⟩;rw[List.length_set] at hi
  rw[List.getD_eq_getElem?_getD,List.getD_eq_getElem?_getD,List.getElem?_set,List.getElem?_set,x.len]
  by_cases e:k=i
  · subst e
    rw[if_pos rfl,if_pos rfl,if_pos hi,if_pos hi];exact y
  · rw[if_neg e,if_neg e,←List.getD_eq_getElem?_getD,←List.getD_eq_getElem?_getD];exact x.at_ i hi
def smw (s:ByteArray):Prop:=s.size≤1000
theorem okx_smw {s:ByteArray}(h:okx s):smw s:=by
  rcases h with rfl|rfl|rfl<;>(unfold smw;decide)
theorem smw0:smw ⟨#[]⟩:=by unfold smw;decide
def SpO (d:Nat)(h:Hp)(r:RTm)(t:Tm):Prop:=RmH (d+3) h r t∧SmT smw (d+3) t
theorem SpO.gw {d:Nat}{h h':Hp}{r:RTm}{t:Tm}(x:SpO d h r t)(u:Gw h h'):SpO d h' r t:=⟨x.1.gw u,x.2⟩
theorem wf_smw {d:Nat}{t:Tm}(w:WfT okx d t):SmT smw d t:=w.sm (sm:=smw) (fun _ h=>okx_smw h) smw0
theorem getD_setE {α:Type}{l:List α}{k i:Nat}{x d:α}(p:α→Prop)(h:∀ i,i<l.length→p (l.getD i d))(hx:p x)(hi:i<(l.set k x).length):p ((l.set k x).getD i d):=by
  rw[List.length_set] at hi
  rw[List.getD_eq_getElem?_getD,List.getElem?_set]
  by_cases e:k=i
  · subst e
    rw[if_pos rfl,if_pos hi];exact hx
  · rw[if_neg e,←List.getD_eq_getElem?_getD];exact h i hi
theorem getD_snocE {α:Type}{l:List α}{i:Nat}{x d:α}(p:α→Prop)(h:∀ i,i<l.length→p (l.getD i d))(hx:p x)(hi:i<(l++[x]).length):p ((l++[x]).getD i d):=by
  rw[List.length_append,List.length_singleton] at hi
  rw[getD_snoc]
  by_cases e:i<l.length
  · rw[if_pos e];exact h i e
  · rw[if_neg e,if_pos oM];exact hx
theorem sm_mk {d:Nat}{op n:Int}{q:Rat}{s:ByteArray}{ks:List Tm}(hk:ks.length≤3)(ho : -1000≤op∧op≤1000)(hn : -1000≤n∧n≤1000)(hq:LQ 1 q)(hs:smw s)(hW:∀ i,i<ks.length→SmT smw d (ks.getD i tm0)):SmT smw (d+1) (.mk op n q s ks):=⟨hk,ho,hn,hq,hs,hW⟩
theorem sm_one {d:Nat}{n:Int}{t:Tm}(hn : -1000≤n∧n≤1000)(h:SmT smw d t):SmT smw (d+1) (.mk 8 n 0 ⟨#[]⟩ [t]) :=
  ⟨by show 1≤3;decide,by show (-1000:Int)≤8∧(8:Int)≤1000;decide,hn,lq0 kD,smw0,fun i hi=>by
    have:i=0:=by have:i<1:=hi;omega
    subst this;exact h⟩
theorem pick4 (e:Int):pick e 4=0∨pick e 4=1∨pick e 4=2∨pick e 4=3:=by have:=pick_lt e 4 oM;omega
theorem nm_smw {s:ByteArray}(h:isNm s=true):smw s:=by
  have:=oT h
  unfold smw;omega
theorem hIsN:∀ s,smw s→∀ (w:World) (h:Hp),G w h→Calls Tryz.prog 61 #[.string s] w (Ret w h (fun v _=>∃ b,v=.bool b∧b=isNm s)):=fun s hs w h g=>(tIsA s (by unfold smw at hs;omega) w h g).mono fun e w' ⟨v,h',e1,u,e2⟩=>⟨v,h',e1,u,_,e2,rfl⟩
theorem TmH.cut {ok:ByteArray→Prop}{h:Hp}:∀ {e d:Nat} {p:PTm} {t:Tm},TmH e h p t→WfT ok d t→TmH d h p t
  | _,0,_,_,_,x=>x.elim
  | 0,_,_,_,x,_=>x.elim
  | e+1,d+1,p,t,⟨h1,h2,h3,h4,h5,h6,ps,h7,h8,h9⟩,⟨_,_,_,_,_,_,_,_,k⟩=>⟨h1,h2,h3,h4,h5,h6,ps,h7,h8,fun i hi=>(h9 i hi).cut (k i hi)⟩
theorem PtH.cut {ok:ByteArray→Prop}{h:Hp}{d:Nat}{p:PTm}{t:Tm}(x:PtH h p t)(y:WfT ok d t):TmH d h p t:=by obtain ⟨e,x⟩:=x;exact x.cut y
theorem tParse (s:ByteArray)(hsz:s.size≤65536)(n:Nat)(t:Tm)(b:Nat)(hq:prs nfS (fun _=>none) s n .sum 0=some (.ok t b))(hb:sk s b=s.size)(d:Nat)(hd:d≤24)(hW:WfT (fun s=>isNm s=true) d t)(hw:wgt d t≤1000)(w:World)(h:Hp)(g:G w h):CR 27 #[.string s] w h (fun v h1=>∃ p,v=.tuple #[ptv p,.agg #[iV 0,iV 0,iV 0]]∧TmH d h1 p t):=by
 have hs:=sS g;refine go Tryz.func27 [(0,.string s)] rfl (cSL (lA 2 43 ([iV 0,iV 0,qF,uV 0,eS,uV 0,eS,eS,sZ]) hs (fun b1 w2 h3 hs=>lA 3 73 ([iV 0,iV 0,iV 0]) hs (fun b4 w5 h6 hs=>lNcQ (cSLlL hs [.m 7 0,.v 8 (nV s.size)] ?_)))));have hb7:(decide ((65536:Int)<(s.size:Int)))=false:=decide_eq_false oM;refine lB 9 hb7 (lNIF (cK (cSLlL hs [.m 12 0,.v 13 (.agg #[.string s,iV 0,iV 0])] (lA 14 104 ([.string s,iV 0,iV 0]) hs (fun b8 w9 _ hs=>lL hs [.m 4 14] (lNS (lL hs [.m 15 4] (lCm 16 ((pAll nfS_ok npS_ok n).1 b8 s oM 0 (Nat.zero_le _) 0 t b hq _ _ hs.g (hs.own 0) (hs.jk 0)) ?_))))))));rintro _ _ _ u13 ⟨tb,p,rfl,hbl,hO,hS,hT⟩;replace hs:=(hs.stepM 0 u13 hO).to [⟨b8,104,[.string s,nV b,iV 0]⟩,⟨b4,73,[iV 0,iV 0,iV 0]⟩,⟨b1,43,[iV 0,iV 0,qF,uV 0,eS,uV 0,eS,eS,sZ]⟩] [];replace hs:=((hs.a_Seg hS).add (K:=fun h_=>PtH h_ p t) hT);refine lL hs [.m 5 16] (lNcQ (cSLlL hs [.m 17 5,.v 18 qT] (lNIT (cSLlL hs [.m 19 4] (lCm 20 (pPeek b8 s oM b hbl 0 _ _ hs.g (hs.own 0) (hs.jk 0)) ?_)))));rintro _ _ _ u16 ⟨rfl,hO2⟩;rw[hb] at hO2
 rw[hb];replace hs:=(hs.stepM 0 u16 hO2).to [⟨b8,104,[.string s,nV s.size,iV 0]⟩,⟨b4,73,[iV 0,iV 0,iV 0]⟩,⟨b1,43,[iV 0,iV 0,qF,uV 0,eS,uV 0,eS,eS,sZ]⟩] [];refine lNS (lL hs [.m 21 4,.v 22 (pB b8),.v 23 (qP b8 1),.o 24 (nV s.size) 0 1 1,.m 25 0,.v 26 (nV s.size)] ?_);have za:(decide ((s.size:Int)<(s.size:Int)))=false:=decide_eq_false oM;refine lB 27 za (lNIF (cK (cQ (cSLlL hs [.m 34 5,.v 35 qF] (lNIF (cK (cQ (cSLlL hs [.m 42 5,.v 43 (pB tb)] (lH 44 (pX p) hs hs.f.2.1 ?_)))))))));refine lCval 45 hs ((by have q_:=tChkT isNm smw hIsN (fun s h_=>nm_smw h_) smw0 d p t hd _ _ hs.g ((hs.f.1).cut hW) hW;rw[if_neg oM] at q_;exact q_)) (fun _ _ hs=>lL hs [.m 6 45] (lNS (lL hs [.m 46 6,.v 47 qF] (lNIF (cK (cSLlL hs [.m 51 5,.v 52 (pB tb)] (lH 53 (pX p) hs hs.f.2.1 ?_)))))));exact lL hs [.v 54 (.agg #[iV 0,iV 0,iV 0])] (lP 2 0 (pC p) hs (fun _ hs=>lP 1 0 ([iV 0,iV 0,iV 0]) hs (fun _ hs=>lNkXr hs [(2,0,9),(1,0,3)] (.tuple #[pX p,.agg #[iV 0,iV 0,iV 0]]) (⟨p,rfl,(hs.f.1).cut hW⟩))))
theorem pNumberV (q:Rat)(w:World)(h:Hp)(g:G w h):CV 135 #[qv q] w h (ptv ⟨1,0,q,⟨#[]⟩,none,0,0⟩):=by
 have hs:=sS g;exact go Tryz.func135 [(0,qv q)] rfl (cSL (lA 1 40 (qc q) hs (fun b1 w2 h3 hs=>lA 2 43 ([iV 0,iV 0,qF,uV 0,eS,uV 0,eS,eS,sZ]) hs (fun b4 w5 h6 hs=>lNS (lL hs [.o 3 (qv q) 1 0 5,.v 4 (.agg #[iV 1,iV 0,.bool (ineg q.num),uV (lo (iabs q.num)),.string (hi (iabs q.num)),uV (lo (qd q)),.string (hi (qd q)),eS,sZ])] (lP 0 0 ([iV 1,iV 0,.bool (ineg q.num),uV (lo (iabs q.num)),.string (hi (iabs q.num)),uV (lo (qd q)),.string (hi (qd q)),eS,sZ]) hs (fun w7 hs=>lNkXr hs [(0,0,9)] (.agg #[iV 1,iV 0,.bool (ineg q.num),uV (lo (iabs q.num)),.string (hi (iabs q.num)),uV (lo (qd q)),.string (hi (qd q)),eS,sZ]) rfl)))))))
theorem tSmall (n:Int)(h0 : -1000≤n)(h1:n≤1000)(w:World)(h:Hp)(g:G w h):CV 92 #[iV n] w h (ptv ⟨1,0,((n:Int):Rat),⟨#[]⟩,none,0,0⟩):=by
 have hs:=sS g;exact go Tryz.func92 [(0,iV n)] rfl (cSL (lA 2 43 ([iV 0,iV 0,qF,uV 0,eS,uV 0,eS,eS,sZ]) hs (fun b1 w2 h3 hs=>lNS (lL hs [.m 3 0] (lCval 4 hs (fOf (n) oM oM _ _ hs.g) (fun w4 h5 hs=>lCval 5 hs (pNumberV (((n:Int):Rat)) _ _ hs.g) (fun w6 h7 hs=>lP 0 0 (pC (⟨1,0,((n:Int):Rat),⟨#[]⟩,none,0,0⟩:PTm)) hs (fun w8 hs=>lNkXr hs [(0,0,9)] (pX (⟨1,0,((n:Int):Rat),⟨#[]⟩,none,0,0⟩:PTm)) rfl))))))))
theorem tIs (p:PTm)(n:Int)(e:Bool)(h0 : -1000≤n)(h1:n≤1000)(hlq:LQ 100000000 p.q)(he:p.op=1→(cmpR p.q ((n:Int):Rat) == 0)=e)(he2:p.op≠1→e=false)(w:World)(h:Hp)(g:G w h):CV 138 #[pX p,iV n] w h (.bool e):=by
 have hs:=sS g;refine go Tryz.func138 [(0,pX p),(1,iV n)] rfl (cSL (lA 2 43 (pC p) hs (fun b1 w2 h3 hs=>lL hs [.v 4 qF] (lNcQ (cR 11 [] mixed hs al_nil ?_)))));refine eV 0 5 (pB b1) (eO 1 6 [(0,0,1)] (iV p.op) hs ?_);cases hb4:((p.op:Int) == (1:Int))
 ·
  have phb4:=neOfBeq hb4;exact eB 2 7 hb4 (eV 3 8 qF (eG 4 9 (eG 5 10 (eG 6 11 (eG 7 12 (eG 8 13 (eG 9 14 (eV 10 15 qF (eD0 hs (fun w5 h6 hs=>tV 11 4 qF (tN (kX (hs.ret [] qF (congrArg Value.bool (by first|exact (he2 oM).symm|(rw[←he oM];exact (by assumption:(_ == _)=_).symm))))))))))))))))
 have phb4:=eq_of_beq hb4;refine eB 2 7 hb4 (eV 3 8 qT (eV 4 9 (qP b1 2) (eO 5 10 [(0,2,5)] (qv p.q) hs (eV 6 11 (iV n) (eCval 7 12 hs (fun _ _ hs=>fOf (n) oM oM _ _ hs.g) (fun w7 h8 hs=>eCval 8 13 hs (fun _ _ hs=>fCmp p.q ((n:Int):Rat) hlq ((LQ.int oM oM).mono oM) _ _ hs.g) (fun w9 _ hs=>?_)))))));cases za:((cmpR p.q ((n:Int):Rat):Int) == (0:Int))
 ·
  have zb:=neOfBeq za;exact eB 9 14 za (eV 10 15 qF (eD0 hs (fun _ _ hs=>tV 11 4 qF (tN (kX (hs.ret [] qF (congrArg Value.bool (by first|exact (he2 oM).symm|(rw[←he oM];exact (by assumption:(_ == _)=_).symm)))))))))
 have zb:=eq_of_beq za;exact eB 9 14 za (eV 10 15 qT (eD0 hs (fun _ _ hs=>tV 11 4 qT (tN (kX (hs.ret [] qT (congrArg Value.bool (by first|exact (he2 oM).symm|(rw[←he oM];exact (by assumption:(_ == _)=_).symm)))))))))
theorem tFoldF (op n:Int)(q:Rat)(s:ByteArray)(A:Option Addr)(c:Nat)(ps:List PTm)(hlp:ps.length≤2)(hnf:∃ i,i<ps.length∧(ps.getD i ptm0).op≠1)(w:World)(h:Hp)(g:G w h)(hA:SlO 9 ptc ptm0 h A ps):CV 137 #[pW op n q s A ps.length c] w h (.tuple #[.agg #[.bool false,uV 0,eS,uV 0,eS],.bool false]):=by
 have hs:=((sS g).aS hA);refine go Tryz.func137 [(0,pW op n q s A ps.length c)] rfl (cSL (lA 1 43 (pG op n q s A ps.length c) hs (fun b1 w2 h3 hs=>lA 2 40 ([qF,uV 0,eS,uV 0,eS]) hs (fun b4 w5 h6 hs=>lL hs [.v 3 qF] (lNcQ (cSLlL hs [.v 8 (qP b1 8),.o 9 (qS A ps.length c) 1 8 1,.v 10 (nV ps.length)] ?_))))));cases hb7:((ps.length:Int) == (0:Int))
 ·
  have phb7:=neOfBeq hb7;refine lB 11 hb7 (lNIF (cK (cQ (cSLlL hs [.v 13 (qP b1 8),.o 14 (qS A ps.length c) 1 8 1,.v 15 (nV ps.length),.v 16 (iV 0)] (lNkZ ?_)))));refine cTo _ (CG.loop (fun μ_ Γ w_=>∃ (k:Nat) (h_:Hp),μ_=ps.length-k∧Γ=[(1,pB b1),(2,pB b4),(14,qS A ps.length c),(15,nV ps.length),(16,nV k)]∧SS w h w_ h_ [⟨b4,40,[qF,uV 0,eS,uV 0,eS]⟩,⟨b1,43,pG op n q s A ps.length c⟩] [] [fun h_=>SlO 9 ptc ptm0 h_ A ps]∧k≤ps.length∧(∀ i,i<k→(ps.getD i ptm0).op=1)) _ ⟨0,h6,rfl,rfl,hs.to _ _,Nat.zero_le _,(fun i hi=>absurd hi (Nat.not_lt_zero i))⟩ ?_);rintro _ _ w8 ⟨k,h9,hm10,rfl,hs,hk,hal⟩;refine cSL ?_;cases za:(decide ((k:Int)<(ps.length:Int)))
  ·
   have zc:=oF za;refine lB 17 za (lNcQ (cIF (CG.exit ?_)))
   show CG _ _ _ _ _ _ _ _
   refine cSL ?_
   exfalso
   obtain ⟨i,hi,hop⟩:=hnf;exact hop (hal i oM)
  have zc:=oT za;refine lB 17 za (lNcQ (cIT (cK (cQ (kZ (cSL (lX 18 A ps.length c 9 (k:Nat) k ((hs.f.1).ok oM) ?_)))))));refine lH 19 (pX (ps.getD k ptm0)) hs ((hs.f.1).el k oM) (lA 5 43 ([iV 0,iV 0,qF,uV 0,eS,uV 0,eS,eS,sZ]) hs (fun ze _ zf hs=>lP 0 0 (pC (ps.getD k ptm0)) hs (fun _ hs=>lNS (lL hs [.v 20 (pB ze),.o 21 (iV ((ps.getD k ptm0).op)) 0 0 1] ?_))));cases zb:(((ps.getD k ptm0).op:Int) != (1:Int))
  ·
   have zd:=eqOfBne zb;refine lB 22 zb (lNIF (cK (kQ (lIn 24 ((k:Nat)+1) (k+1) ?_))));refine lL hs [.m 16 24] (lD ?_);intro a_ ka;replace hs:=hs.drop 1 0;refine ⟨_,_,?_,⟨k+1,zf,rfl,rfl,hs.to _ _,oM,(fun i hi=>by rcases Nat.lt_succ_iff_lt_or_eq.1 hi with h_|rfl;exact hal i h_;omega)⟩,ka.to _ kR⟩
   omega
  have zd:=neOfBne zb;exact lB 22 zb (lNIT (cSLlL hs [.v 23 (.agg #[qF,uV 0,eS,uV 0,eS])] (lP 1 0 ([qF,uV 0,eS,uV 0,eS]) hs (fun _ hs=>lL hs [.v 3 qF] (lNkXr hs [(1,0,5)] (.tuple #[.agg #[qF,uV 0,eS,uV 0,eS],qF]) rfl)))))
 have phb7:=eq_of_beq hb7;exact lB 11 hb7 (lNIT (cSLlL hs [.v 12 (.agg #[qF,uV 0,eS,uV 0,eS])] (lP 0 0 ([qF,uV 0,eS,uV 0,eS]) hs (fun _ hs=>lL hs [.v 3 qF] (lNkXr hs [(0,0,5)] (.tuple #[.agg #[qF,uV 0,eS,uV 0,eS],qF]) rfl)))))
theorem tSettleM (n:Int)(q:Rat)(s:ByteArray)(A:Option Addr)(c:Nat)(pa pc:PTm)(hnf:∃ i,i<([pa,pc]:List PTm).length∧(([pa,pc]:List PTm).getD i ptm0).op≠1)(e:Bool)(hl0:LQ 100000000 pa.q)(hl1:LQ 100000000 pc.q)(hi1_:(((pa):PTm).op=1→(cmpR ((pa):PTm).q ((0:Int):Rat) == 0)=false)∧(((pa):PTm).op≠1→false=false))(hi2_:(((pc):PTm).op=1→(cmpR ((pc):PTm).q ((0:Int):Rat) == 0)=false)∧(((pc):PTm).op≠1→false=false))(hi3_:(((pa):PTm).op=1→(cmpR ((pa):PTm).q ((1:Int):Rat) == 0)=false)∧(((pa):PTm).op≠1→false=false))(hi4_:(((pc):PTm).op=1→(cmpR ((pc):PTm).q ((1:Int):Rat) == 0)=e)∧(((pc):PTm).op≠1→e=false))  (w:World)(h:Hp)(g:G w h)(hA:SlO 9 ptc ptm0 h A ([pa,pc]:List PTm)):CV 93 #[pW 5 n q s A 2 c] w h (ptv (if e=true then pa else ⟨5,n,q,s,A,2,c⟩)):=by
 have hs:=((sS g).aS hA);have hln:([pa,pc]:List PTm).length=2:=rfl;refine go Tryz.func93 [(0,pW 5 n q s A 2 c)] rfl (cSL (lA 1 43 (pG 5 n q s A 2 c) hs (fun b1 w2 h3 hs=>lA 2 43 ([iV 0,iV 0,qF,uV 0,eS,uV 0,eS,eS,sZ]) hs (fun b4 w5 h6 hs=>lNcQ (cSLlL hs [.o 6 (pW 5 n q s A 2 c) 1 0 9] (lCval 7 hs (tFoldF 5 n q s A c ([pa,pc]:List PTm) (by rw[hln];omega) hnf _ _ hs.g hs.f.1) (fun w7 h8 hs=>lL hs [.m 5 7,.v 8 (.agg #[qF,uV 0,eS,uV 0,eS]),.v 9 qF] (lA 3 40 ([qF,uV 0,eS,uV 0,eS]) hs (fun b9 _ _ hs=>lP 0 0 ([qF,uV 0,eS,uV 0,eS]) hs (fun _ hs=>lL hs [.m 4 9] (lNS (lL hs [.m 10 4] (lNIF (cK (cQ (cSLlL hs [.v 13 (pB b1),.o 14 (iV 5) 2 0 1] (lNkZ (cSLlL hs [.v 16 qF,.m 15 16] (lNIF (cSLlL hs [.v 36 qF,.m 35 36] (lNIF (cSLlL hs [.v 58 qT,.m 57 58] (lNIT (cQ (cSLlL hs [.v 59 (qP b1 8),.o 60 (qS A 2 c) 2 8 1] (lX 61 A 2 c 9 0 0 ((hs.f.1).ok oM) ?_))))))))))))))))))))))))));refine lH 62 (pX (([pa,pc]:List PTm).getD 0 ptm0)) hs ((hs.f.1).el 0 oM) (lCval 63 hs (tIs (([pa,pc]:List PTm).getD 0 ptm0) 0 false kD kD hl0 hi1_.1 hi1_.2 _ _ hs.g) (fun _ _ hs=>lL hs [.m 64 63,.v 65 (qP b1 8),.o 66 (qS A 2 c) 2 8 1] (lX 67 A 2 c 9 1 1 ((hs.f.1).ok oM) ?_)));refine lH 68 (pX (([pa,pc]:List PTm).getD 1 ptm0)) hs ((hs.f.1).el 1 oM) (lCval 69 hs (tIs (([pa,pc]:List PTm).getD 1 ptm0) 0 false kD kD hl1 hi2_.1 hi2_.2 _ _ hs.g) (fun _ _ hs=>lL hs [.v 70 qF] (lNIF (cK (cQ (cSLlL hs [.v 72 (qP b1 8),.o 73 (qS A 2 c) 2 8 1] (lX 74 A 2 c 9 0 0 ((hs.f.1).ok oM) ?_)))))));refine lH 75 (pX (([pa,pc]:List PTm).getD 0 ptm0)) hs ((hs.f.1).el 0 oM) (lCval 76 hs (tIs (([pa,pc]:List PTm).getD 0 ptm0) 1 false kD kD hl0 hi3_.1 hi3_.2 _ _ hs.g) (fun _ _ hs=>lNIF (cK (cSLlL hs [.v 81 (qP b1 8),.o 82 (qS A 2 c) 2 8 1] (lX 83 A 2 c 9 1 1 ((hs.f.1).ok oM) ?_)))));refine lH 84 (pX (([pa,pc]:List PTm).getD 1 ptm0)) hs ((hs.f.1).el 1 oM) (lCval 85 hs (tIs (([pa,pc]:List PTm).getD 1 ptm0) 1 e kD kD hl1 hi4_.1 hi4_.2 _ _ hs.g) (fun _ _ hs=>?_));cases hb21:(e)
 ·
  refine lN (cTo [(1,pB b1),(2,pB b4),(85,qF)] ?_);exact cIF (cK (cSLlL hs [.o 129 (pW 5 n q s A 2 c) 2 0 9] (lP 1 0 (pG 5 n q s A 2 c) hs (fun _ hs=>lNkXr hs [(1,0,9)] (pW 5 n q s A 2 c) (by first|rfl|(rw[(by assumption:e=false)];rfl))))))
 refine lN (cTo [(1,pB b1),(2,pB b4),(85,qT)] ?_);refine cIT (cSLlL hs [.v 86 (qP b1 8),.o 87 (qS A 2 c) 2 8 1] (lX 88 A 2 c 9 0 0 ((hs.f.1).ok oM) ?_));exact lH 89 (pX (([pa,pc]:List PTm).getD 0 ptm0)) hs ((hs.f.1).el 0 oM) (lP 1 0 (pC (([pa,pc]:List PTm).getD 0 ptm0)) hs (fun _ hs=>lNkXr hs [(1,0,9)] (pX (([pa,pc]:List PTm).getD 0 ptm0)) (by first|rfl|(rw[(by assumption:e=true)];rfl))))
theorem tSettleP (n:Int)(q:Rat)(s:ByteArray)(A:Option Addr)(c:Nat)(pa:PTm)(hnf:∃ i,i<([pa]:List PTm).length∧(([pa]:List PTm).getD i ptm0).op≠1)(hn0:n≠0)(w:World)(h:Hp)(g:G w h)(hA:SlO 9 ptc ptm0 h A ([pa]:List PTm)):CV 93 #[pW 8 n q s A 1 c] w h (ptv (if n=1 then pa else ⟨8,n,q,s,A,1,c⟩)):=by
 have hs:=((sS g).aS hA);have hln:([pa]:List PTm).length=1:=rfl;refine go Tryz.func93 [(0,pW 8 n q s A 1 c)] rfl (cSL (lA 1 43 (pG 8 n q s A 1 c) hs (fun b1 w2 h3 hs=>lA 2 43 ([iV 0,iV 0,qF,uV 0,eS,uV 0,eS,eS,sZ]) hs (fun b4 w5 h6 hs=>lNcQ (cSLlL hs [.o 6 (pW 8 n q s A 1 c) 1 0 9] (lCval 7 hs (tFoldF 8 n q s A c ([pa]:List PTm) (by rw[hln];omega) hnf _ _ hs.g hs.f.1) (fun w7 h8 hs=>lL hs [.m 5 7,.v 8 (.agg #[qF,uV 0,eS,uV 0,eS]),.v 9 qF] (lA 3 40 ([qF,uV 0,eS,uV 0,eS]) hs (fun b9 _ _ hs=>lP 0 0 ([qF,uV 0,eS,uV 0,eS]) hs (fun _ hs=>lL hs [.m 4 9] (lNS (lL hs [.m 10 4] (lNIF (cK (cQ (cSLlL hs [.v 13 (pB b1),.o 14 (iV 8) 2 0 1] (lNkZ (cSLlL hs [.v 16 qF,.m 15 16] (lNIF (cSLlL hs [.v 36 qF,.m 35 36] (lNIF (cSLlL hs [.v 58 qF,.m 57 58] (lNIF (cSLlL hs [.v 91 qF,.m 90 91] (lNIF (cSLlL hs [.v 102 qF,.m 101 102] (lNIF (cSLlL hs [.v 117 qT,.m 116 117] (lNIT (cQ (cSLlL hs [.v 118 (qP b1 1),.o 119 (iV n) 2 1 1] ?_)))))))))))))))))))))))))))))));have zc:((n:Int) == (0:Int))=false:=beqF oM;refine lB 120 zc (lNIF (cK (cSLlL hs [.v 122 (qP b1 1),.o 123 (iV n) 2 1 1] ?_)));cases za:((n:Int) == (1:Int))
 ·
  have zb:=neOfBeq za;exact lB 124 za (lNIF (cK (cSLlL hs [.o 129 (pW 8 n q s A 1 c) 2 0 9] (lP 1 0 (pG 8 n q s A 1 c) hs (fun _ hs=>lNkXr hs [(1,0,9)] (pW 8 n q s A 1 c) (by rw[if_neg oM];rfl))))))
 have zb:=eq_of_beq za;refine lB 124 za (lNIT (cSLlL hs [.v 125 (qP b1 8),.o 126 (qS A 1 c) 2 8 1] (lX 127 A 1 c 9 0 0 ((hs.f.1).ok oM) ?_)));exact lH 128 (pX (([pa]:List PTm).getD 0 ptm0)) hs ((hs.f.1).el 0 oM) (lP 1 0 (pC (([pa]:List PTm).getD 0 ptm0)) hs (fun _ hs=>lNkXr hs [(1,0,9)] (pX (([pa]:List PTm).getD 0 ptm0)) (by rw[if_pos oM];rfl)))
section
variable {M:Ms} {P:Program} {n:Nat} {N R:Po} {X:Nat→Po} {ops:Array Oper} {k0:Nat} {L:Array Bool} {Γ:Env} {w:World} {h:Hp} {w0:World} {h0:Hp} {B:List Bx} {Rs:List Rw} {F:List (Hp→Prop)}
def chkT2 (ops:Array Oper)(k0:Nat)(L:Array Bool)(i j:Nat):Bool :=
  decide (i<ops.size) && decide (j<ops.size) && decide (k0≤i) && decide (k0≤j) && Region.noSelect ops && (Region.ready .any ops L == [i,j])
theorem A.two {a:Act}{i j:Nat}(hc:chkT2 ops k0 L i j=true){Q:Exit→Act→World→Prop}{R1 R2:Value→World→Prop}(h1:OpR P ops (opAt ops i) a w R1)(h2:OpR P ops (opAt ops j) a w R2)(hT1:∀ v w',R1 v w'→Tl M w w')(hT2:∀ v w',R2 v w'→Tl M w w')
    (hK1:∀ v w',R1 v w'→A M P ops Q k0 (L.setIfInBounds i true) (a.put (opAt ops i).dst v) w')(hK2:∀ v w',R2 v w'→A M P ops Q k0 (L.setIfInBounds j true) (a.put (opAt ops j).dst v) w'):A M P ops Q k0 L a w:=by
  unfold chkT2 at hc
  simp only[Bool.and_eq_true,decide_eq_true_eq,beq_iff_eq] at hc
  obtain ⟨⟨⟨⟨⟨c1,c2⟩,c3⟩,c4⟩,_⟩,c6⟩:=hc;refine A.intro (fun h0=>by rw[c6] at h0;cases h0) (fun q hq=>?_);rw[c6] at hq
  rcases List.mem_cons.1 hq with rfl|hq
  · exact OpR.wpOp (opAt_get c1) h1 (fun v w' hr=>⟨Rl.tl c3 (hT1 v w' hr),hK1 v w' hr⟩)
  · rw[List.mem_singleton] at hq
    subst hq;exact OpR.wpOp (opAt_get c2) h2 (fun v w' hr=>⟨Rl.tl c4 (hT2 v w' hr),hK2 v w' hr⟩)
def c2V (n:Nat)(ops:Array Oper)(Γ:Env)(i t:Nat):Bool:=Region.noSelect ops && decide (i<ops.size) && knownOp Γ (opAt ops i) && ((opAt ops i).dst == some t) && decide (t<n) && (wantE ops Γ (opAt ops i) == some true)
theorem c2V_op {i t:Nat}{v:Value}(hc:c2V n ops Γ i t=true)(hr:(execOp (ev Γ) (opAt ops i)).run P w=.ok (.value v) w){a:Act}(ka:Kn n a Γ):OpR P ops (opAt ops i) a w (fun u w1=>u=v∧w1=w)∧(opAt ops i).dst=some t∧t<n:=by
  unfold c2V at hc
  simp only[Bool.and_eq_true,decide_eq_true_eq,beq_iff_eq] at hc
  obtain ⟨⟨⟨⟨⟨hs,h0⟩,h2⟩,h3⟩,h4⟩,h5⟩:=hc;exact ⟨⟨ka.want h5,.inl ⟨v,w,by rw[ka.exec (Region.noSelect_spec hs i _ · · (opAt_get h0)) h2];exact hr,rfl,rfl⟩⟩,h3,h4⟩
def c2S (ops:Array Oper)(Γ:Env)(i:Nat):Bool:=Region.noSelect ops && decide (i<ops.size) && knownOp Γ (opAt ops i) && ((opAt ops i).dst == none) && (wantE ops Γ (opAt ops i) == some true)
theorem c2S_op {i:Nat}{w':World}(hc:c2S ops Γ i=true)(hr:(execOp (ev Γ) (opAt ops i)).run P w=.ok .skip w'){a:Act}(ka:Kn n a Γ):OpR P ops (opAt ops i) a w (fun u w1=>u=undef∧w1=w')∧(opAt ops i).dst=none:=by
  unfold c2S at hc
  simp only[Bool.and_eq_true,decide_eq_true_eq,beq_iff_eq] at hc
  obtain ⟨⟨⟨⟨hs,h0⟩,h2⟩,h3⟩,h5⟩:=hc;exact ⟨⟨ka.want h5,.inr (.inl ⟨w',by rw[ka.exec (Region.noSelect_spec hs i _ · · (opAt_get h0)) h2];exact hr,rfl,rfl⟩)⟩,h3⟩
theorem tOO (i t:Nat)(ps:List (Nat × Nat × Nat))(v:Value)(j t2:Nat)(ps2:List (Nat × Nat × Nat))(v2:Value)(s:SS w0 h0 w h B Rs F)(H1:AG M P n N R X ops k0 (L.setIfInBounds i true) ((t,v)::Γ) w)(H2:AG M P n N R X ops k0 (L.setIfInBounds j true) ((t2,v2)::Γ) w)
    (hc:(chkT2 ops k0 L i j && c2V n ops Γ i t && c2V n ops Γ j t2)=true:=by kernel_rfl)(hp:(partsOk B ps && partsOk B ps2)=true:=by kernel_rfl)(he:evalL P (execOp (ev Γ) (opAt ops i)) (partsV B ps)=some (.value v,partsA B ps):=by kernel_rfl)(he2:evalL P (execOp (ev Γ) (opAt ops j)) (partsV B ps2)=some (.value v2,partsA B ps2):=by kernel_rfl):AG M P n N R X ops k0 L Γ w:=by
  simp only[Bool.and_eq_true] at hc hp
  intro a ka;obtain ⟨o1,d1,l1⟩:=c2V_op hc.1.2 (evalL_run _ _ _ _ he (parts_cells s.st.own ps hp.1)) ka;obtain ⟨o2,d2,l2⟩:=c2V_op hc.2 (evalL_run _ _ _ _ he2 (parts_cells s.st.own ps2 hp.2)) ka;refine A.two hc.1.1 o1 o2 (fun _ _ e=>e.2▸Tl.refl _ _) (fun _ _ e=>e.2▸Tl.refl _ _) ?_ ?_
  · rintro _ _ ⟨rfl,rfl⟩;rw[d1];exact H1 _ (ka.put l1 _)
  · rintro _ _ ⟨rfl,rfl⟩;rw[d2];exact H2 _ (ka.put l2 _)
theorem tOP (i t:Nat)(ps:List (Nat × Nat × Nat))(v:Value)(q j o:Nat)(cs:List Value)(s:SS w0 h0 w h B Rs F)(H1:AG M P n N R X ops k0 (L.setIfInBounds i true) ((t,v)::Γ) w)(H2:∀ w',SS w0 h0 w' h (setB B j o cs) Rs F→AG M P n N R X ops k0 (L.setIfInBounds q true) Γ w')
    (hc:(chkT2 ops k0 L i q && c2V n ops Γ i t && c2S ops Γ q)=true:=by kernel_rfl)(hp:partsOk B ps=true:=by kernel_rfl)(he:evalL P (execOp (ev Γ) (opAt ops i)) (partsV B ps)=some (.value v,partsA B ps):=by kernel_rfl)
    (hj:(decide (j<B.length) && decide (o+cs.length≤(bxAt B j).vs.length))=true:=by kernel_rfl)(he2:evalW P (execOp (ev Γ) (opAt ops q))=some (.skip,mkl (bxAt B j).b o cs):=by kernel_rfl)(hz:M.z=none:=by rfl):AG M P n N R X ops k0 L Γ w:=by
  simp only[Bool.and_eq_true] at hc
  have hj2:=hj
  simp only[Bool.and_eq_true,decide_eq_true_eq] at hj2
  intro a ka;obtain ⟨o1,d1,l1⟩:=c2V_op hc.1.2 (evalL_run _ _ _ _ he (parts_cells s.st.own ps hp)) ka;obtain ⟨w',hrun,hput,hown⟩:=evalW_run _ _ _ _ _ w he2 (s.st.own _ (bxAt_mem hj2.1)) hj2.2;obtain ⟨o2,d2⟩:=c2S_op hc.2 hrun ka;refine A.two hc.1.1 o1 o2 (fun _ _ e=>e.2▸Tl.refl _ _) (fun _ _ _=>Tl.none hz _ _) ?_ ?_
  · rintro _ _ ⟨rfl,rfl⟩;rw[d1];exact H1 _ (ka.put l1 _)
  · rintro _ _ ⟨rfl,rfl⟩
    rw[d2];exact H2 _ (s.put0 hj2.1 hput (s.st.put s.g0 hj2.1 hput hown) (setB_b hj2.1)) _ ka
end
theorem tOf2 (pa pc:PTm)(hnf:∃ i,i<([pa,pc]:List PTm).length∧(([pa,pc]:List PTm).getD i ptm0).op≠1)(e:Bool)(hl0:LQ 100000000 pa.q)(hl1:LQ 100000000 pc.q)(hi1_:(((pa):PTm).op=1→(cmpR ((pa):PTm).q ((0:Int):Rat) == 0)=false)∧(((pa):PTm).op≠1→false=false))(hi2_:(((pc):PTm).op=1→(cmpR ((pc):PTm).q ((0:Int):Rat) == 0)=false)∧(((pc):PTm).op≠1→false=false))(hi3_:(((pa):PTm).op=1→(cmpR ((pa):PTm).q ((1:Int):Rat) == 0)=false)∧(((pa):PTm).op≠1→false=false))(hi4_:(((pc):PTm).op=1→(cmpR ((pc):PTm).q ((1:Int):Rat) == 0)=e)∧(((pc):PTm).op≠1→e=false))  (w:World)(h:Hp)(g:G w h):CR 94 #[iV 5,pX pa,pX pc] w h (fun v h1=>∃ b,v=ptv (if e=true then pa else ⟨5,0,0,⟨#[]⟩,sB b,2,2⟩)∧SlO 9 ptc ptm0 h1 (sB b) ([pa,pc]:List PTm)):=by
 have hs:=sS g;refine go Tryz.func94 [(0,iV 5),(1,pX pa),(2,pX pc)] rfl (cSL (lA 4 43 (pC pa) hs (fun b1 w2 h3 hs=>lA 5 43 (pC pc) hs (fun b4 w5 h6 hs=>lA 6 43 ([iV 0,iV 0,qF,uV 0,eS,uV 0,eS,eS,sZ]) hs (fun b7 w8 h9 hs=>lNS (lL hs [.m 7 0,.o 8 (pX pa) 2 0 9,.o 9 (pX pc) 1 0 9] (lC 10 hs (tTwoT 5 pa pc _ _ hs.g) ?_)))))));rintro _ _ _ hs ⟨b2,rfl,hA2⟩;replace hs:=hs.aS hA2;exact lCval 11 hs (tSettleM 0 0 ⟨#[]⟩ (sB b2) 2 pa pc hnf e hl0 hl1 hi1_ hi2_ hi3_ hi4_ _ _ hs.g hs.f.1) (fun _ _ hs=>lP 0 0 (pC (if e=true then pa else ⟨5,0,0,⟨#[]⟩,sB b2,2,2⟩)) hs (fun _ hs=>lNkXr hs [(0,0,9)] (pX (if e=true then pa else ⟨5,0,0,⟨#[]⟩,sB b2,2,2⟩)) (⟨b2,rfl,hs.f.1⟩)))
theorem tOfPow1 (pa:PTm)(hpa:pa.op≠1)(w:World)(h:Hp)(g:G w h):CV 95 #[pX pa,iV 1] w h (ptv pa):=by
 have hs:=sS g;refine go Tryz.func95 [(0,pX pa),(1,iV 1)] rfl (cSL (lA 2 43 (pC pa) hs (fun b1 w2 h3 hs=>lA 4 43 ([iV 0,iV 0,qF,uV 0,eS,uV 0,eS,eS,sZ]) hs (fun b4 w5 h6 hs=>lNS (lL hs [.o 6 (pX pa) 1 0 9] (lC 7 hs (tOneT 8 pa _ _ hs.g) ?_))))));rintro _ w7 h8 hs ⟨b1,rfl,hA1⟩;replace hs:=hs.aS hA1;exact lA 5 43 ([iV 0,iV 0,qF,uV 0,eS,uV 0,eS,eS,sZ]) hs (fun b9 _ _ hs=>lP 0 0 (pC (⟨8,0,0,⟨#[]⟩,sB b1,1,1⟩:PTm)) hs (fun _ hs=>lNS (lL hs [.m 8 1,.v 9 (qP b9 1)] (lP 0 1 ([iV 1]) hs (fun _ hs=>lNS (lL hs [.o 10 (pW ((⟨8,0,0,⟨#[]⟩,sB b1,1,1⟩:PTm).op) 1 ((⟨8,0,0,⟨#[]⟩,sB b1,1,1⟩:PTm).q) ((⟨8,0,0,⟨#[]⟩,sB b1,1,1⟩:PTm).s) ((⟨8,0,0,⟨#[]⟩,sB b1,1,1⟩:PTm).A) ((⟨8,0,0,⟨#[]⟩,sB b1,1,1⟩:PTm).m) ((⟨8,0,0,⟨#[]⟩,sB b1,1,1⟩:PTm).c)) 0 0 9] (lCval 11 hs (tSettleP 1 0 ⟨#[]⟩ (sB b1) 1 pa ⟨0,Nat.one_pos,hpa⟩ kD _ _ hs.g hs.f.1) (fun _ _ hs=>lP 1 0 (pC pa) hs (fun _ hs=>lNkXr hs [(1,0,9)] (pX pa) rfl)))))))))
theorem tSlopeX (s:ByteArray)(Ax:Option Addr)(cx:Nat)(w:World)(h:Hp)(g:G w h):CV 57 #[.agg #[iV 2,iV 0,.bool false,uV 0,eS,uV 0,eS,.string s,.slice Ax 0 cx],.string s] w h (.tuple #[.agg #[iV 2,iV 0,.bool false,uV 0,eS,uV 0,eS,.string s,.slice Ax 0 cx],ptv (⟨1,0,((1:Int):Rat),⟨#[]⟩,none,0,0⟩:PTm)]):=by
 have hs:=sS g;refine go Tryz.func57 [(0,.agg #[iV 2,iV 0,qF,uV 0,eS,uV 0,eS,.string s,qS Ax 0 cx]),(1,.string s)] rfl (cSL (lA 2 43 ([iV 2,iV 0,qF,uV 0,eS,uV 0,eS,.string s,qS Ax 0 cx]) hs (fun b1 w2 h3 hs=>lA 4 43 ([iV 0,iV 0,qF,uV 0,eS,uV 0,eS,eS,sZ]) hs (fun b4 w5 h6 hs=>lA 5 43 ([iV 0,iV 0,qF,uV 0,eS,uV 0,eS,eS,sZ]) hs (fun b7 w8 h9 hs=>lNcQ (cSLlL hs [.v 12 (qP b1 8),.o 13 (qS Ax 0 cx) 2 8 1,.v 14 (iV 0),.v 15 qT] (lNIT (cQ (cSLlL hs [.v 16 (pB b1),.o 17 (iV 2) 2 0 1,.v 18 qT,.m 19 18,.v 20 (qP b1 7),.o 21 (.string s) 2 7 1,.m 22 1] (lV 23 qT ?_ (hr:=rb kR (strS s))))))))))));refine lL hs [.v 24 qT] (lNIT (cQ (cR 2 [] mixed hs al_nil ?_)));exact eO 0 25 [(2,0,9)] (.agg #[iV 2,iV 0,qF,uV 0,eS,uV 0,eS,.string s,qS Ax 0 cx]) hs (eCval 1 26 hs (fun _ _ hs=>tSmall 1 kD kD _ _ hs.g) (fun _ _ hs=>eD0 hs (fun _ _ hs=>tP 2 1 0 ([iV 2,iV 0,qF,uV 0,eS,uV 0,eS,.string s,qS Ax 0 cx]) hs (fun _ hs=>tP 3 0 0 (pC (⟨1,0,((1:Int):Rat),⟨#[]⟩,none,0,0⟩:PTm)) hs (fun _ hs=>tN (kX (hs.ret [(1,0,9),(0,0,9)] (.tuple #[.agg #[iV 2,iV 0,qF,uV 0,eS,uV 0,eS,.string s,qS Ax 0 cx],pX (⟨1,0,((1:Int):Rat),⟨#[]⟩,none,0,0⟩:PTm)]) rfl)))))))
theorem lq0_:LQ 100000000 (0:Rat):=lq0 kD
theorem lq1_:LQ 100000000 (((1:Int)):Rat):=(LQ.int kD kD).mono kD
theorem lq2_:LQ 100000000 (((2:Int)):Rat):=(LQ.int kD kD).mono kD
theorem tSlopeP (s:ByteArray)(Ax:Option Addr)(cx:Nat)(A:Option Addr)(c:Nat)(w:World)(h:Hp)(g:G w h)(hA:SlO 9 ptc ptm0 h A ([(⟨2,0,0,s,Ax,0,cx⟩:PTm)]:List PTm)):CR 57 #[.agg #[iV 8,iV 2,.bool false,uV 0,eS,uV 0,eS,eS,.slice A 1 c],.string s] w h (fun v h1=>∃ b0 b,v=.tuple #[ptv ⟨8,2,0,⟨#[]⟩,sB b0,1,1⟩,ptv ⟨5,0,0,⟨#[]⟩,sB b,2,2⟩]∧SlO 9 ptc ptm0 h1 (sB b) [(⟨1,0,((2:Int):Rat),⟨#[]⟩,none,0,0⟩:PTm),(⟨2,0,0,s,Ax,0,cx⟩:PTm)]):=by
 have hs:=((sS g).aS hA);have hln:([(⟨2,0,0,s,Ax,0,cx⟩:PTm)]:List PTm).length=1:=rfl;refine go Tryz.func57 [(0,.agg #[iV 8,iV 2,qF,uV 0,eS,uV 0,eS,eS,qS A 1 c]),(1,.string s)] rfl (cSL (lA 2 43 ([iV 8,iV 2,qF,uV 0,eS,uV 0,eS,eS,qS A 1 c]) hs (fun b1 w2 h3 hs=>lA 4 43 ([iV 0,iV 0,qF,uV 0,eS,uV 0,eS,eS,sZ]) hs (fun b4 w5 h6 hs=>lA 5 43 ([iV 0,iV 0,qF,uV 0,eS,uV 0,eS,eS,sZ]) hs (fun b7 w8 h9 hs=>lNcQ (cSLlL hs [.v 12 (qP b1 8),.o 13 (qS A 1 c) 2 8 1,.v 14 (iV 1),.v 15 qF] (lNIF (cK (cSLlL hs [.v 30 (qP b1 8),.o 31 (qS A 1 c) 2 8 1] (lX 32 A 1 c 9 0 0 ((hs.f.1).ok oM) ?_))))))))));refine lH 33 (pX (([(⟨2,0,0,s,Ax,0,cx⟩:PTm)]:List PTm).getD 0 ptm0)) hs ((hs.f.1).el 0 oM) (lL hs [.m 34 1] (lCval 35 hs (tSlopeX s Ax cx _ _ hs.g) (fun _ _ hs=>lL hs [.m 29 35,.v 36 (.agg #[iV 2,iV 0,qF,uV 0,eS,uV 0,eS,.string s,qS Ax 0 cx]),.v 37 (pX (⟨1,0,((1:Int):Rat),⟨#[]⟩,none,0,0⟩:PTm))] (lA 6 43 ([iV 0,iV 0,qF,uV 0,eS,uV 0,eS,eS,sZ]) hs (fun zb _ _ hs=>lA 7 43 ([iV 0,iV 0,qF,uV 0,eS,uV 0,eS,eS,sZ]) hs (fun zc _ _ hs=>lP 1 0 ([iV 2,iV 0,qF,uV 0,eS,uV 0,eS,.string s,qS Ax 0 cx]) hs (fun _ hs=>lP 0 0 (pC (⟨1,0,((1:Int):Rat),⟨#[]⟩,none,0,0⟩:PTm)) hs (fun _ hs=>lNS (lL hs [.o 38 (.agg #[iV 2,iV 0,qF,uV 0,eS,uV 0,eS,.string s,qS Ax 0 cx]) 1 0 9] (lR 39 43 1 ([iV 2,iV 0,qF,uV 0,eS,uV 0,eS,.string s,qS Ax 0 cx]) hs (fun za _ _ hs=>?_)))))))))));replace hs:=hs.aS (SlO.of_flat (sz:=9) (f:=ptc) (d:=ptm0) (b:=za) (o:=0) (l:=([(⟨2,0,0,s,Ax,0,cx⟩:PTm)]:List PTm)) (fun _=>rfl) hs.f.1);refine lL hs [.m 8 39] (lNS (lL hs [.v 40 (.agg #[iV 0,iV 0,qF,uV 0,eS,uV 0,eS,eS,sZ]),.v 41 (.agg #[iV 0,iV 0,qF,uV 0,eS,uV 0,eS,eS,sZ])] (lA 9 43 ([iV 0,iV 0,qF,uV 0,eS,uV 0,eS,eS,sZ]) hs (fun zd _ _ hs=>lA 10 43 ([iV 0,iV 0,qF,uV 0,eS,uV 0,eS,eS,sZ]) hs (fun ze _ _ hs=>lP 1 0 ([iV 0,iV 0,qF,uV 0,eS,uV 0,eS,eS,sZ]) hs (fun _ hs=>lP 0 0 ([iV 0,iV 0,qF,uV 0,eS,uV 0,eS,eS,sZ]) hs (fun _ hs=>lNcQ (cSLlL hs [.v 42 (qP b1 8),.o 43 (qS A 1 c) 6 8 1,.v 44 (iV 1),.v 45 qF] (lNIF (cK (cSLlL hs [.v 59 (pB b1),.o 60 (iV 8) 6 0 1,.v 61 (qP b1 1),.o 62 (iV 2) 6 1 1,.m 63 8,.v 64 (.agg #[iV 8,iV 2,qF,uV 0,eS,uV 0,eS,eS,qS (sB za) 1 1])] (lCval 65 hs (tSettleP 2 0 ⟨#[]⟩ (sB za) 1 (⟨2,0,0,s,Ax,0,cx⟩:PTm) ⟨0,Nat.one_pos,by show ¬(2:Int)=1;decide⟩ kD _ _ hs.g hs.f.1) (fun _ _ hs=>lP 5 0 (pC (⟨8,2,0,⟨#[]⟩,sB za,1,1⟩:PTm)) hs (fun _ hs=>lNcQ (cSLlL hs [.v 66 (pB b1),.o 67 (iV 8) 6 0 1] (lNkZ (cQ (cSLlL hs [.v 69 qF,.m 68 69] (lN (cTo [(2,pB b1),(4,pB b4),(5,pB b7),(6,pB zb),(7,pB zc),(9,pB zd),(10,pB ze),(67,iV 8),(68,qF)] ?_))))))))))))))))))));refine cIF (kQ (lL hs [.v 70 qF,.m 68 70] (lNIF (cSLlL hs [.v 77 qF,.m 76 77] (lNIF (cSLlL hs [.v 86 qF,.m 85 86] (lNIF (cSLlL hs [.v 98 qF,.m 97 98] (lNIF (cSLlL hs [.v 102 qT,.m 101 102] (lNIT (cSL (lCval 103 hs (tSmall 0 kD kD _ _ hs.g) (fun _ _ hs=>lP 4 0 (pC (⟨1,0,((0:Int):Rat),⟨#[]⟩,none,0,0⟩:PTm)) hs (fun _ hs=>lNS (lL hs [.v 104 (qP b1 1),.o 105 (iV 2) 6 1 1,.v 106 qT] (lNIT (cR 11 [] mixed hs al_nil ?_))))))))))))))))));refine eV 0 107 (qP b1 1) (eO 1 108 [(6,1,1)] (iV 2) hs (eO 3 110 [(3,0,9)] (.agg #[iV 2,iV 0,qF,uV 0,eS,uV 0,eS,.string s,qS Ax 0 cx]) hs (eV 4 111 (qP b1 1) (eO 5 112 [(6,1,1)] (iV 2) hs (eV 6 113 (iV 1) (eO 9 116 [(2,0,9)] (pX (⟨1,0,((1:Int):Rat),⟨#[]⟩,none,0,0⟩:PTm)) hs (eCval 2 109 hs (fun _ _ hs=>tSmall 2 kD kD _ _ hs.g) (fun _ _ hs=>eCval 7 114 hs (fun _ _ hs=>tOfPow1 (⟨2,0,0,s,Ax,0,cx⟩:PTm) (by show ¬(2:Int)=1;decide) _ _ hs.g) (fun _ _ hs=>eC 8 115 hs (fun _ _ hs=>tOf2 (⟨1,0,((2:Int):Rat),⟨#[]⟩,none,0,0⟩:PTm) (⟨2,0,0,s,Ax,0,cx⟩:PTm) ⟨1,Nat.one_lt_two,by show ¬(2:Int)=1;decide⟩ false lq2_ lq0_ ⟨fun _=>by decide +kernel,fun h_=>absurd rfl h_⟩ ⟨fun h_=>absurd h_ (by show ¬(2:Int)=1;decide),fun _=>rfl⟩ ⟨fun _=>by decide +kernel,fun h_=>absurd rfl h_⟩ ⟨fun h_=>absurd h_ (by show ¬(2:Int)=1;decide),fun _=>rfl⟩ _ _ hs.g) ?_)))))))));rintro _ _ _ _ _ hs ⟨bm,rfl,hAm⟩;replace hs:=hs.aS hAm;refine eC 10 117 hs (fun _ _ hs=>tOf2 (⟨5,0,0,⟨#[]⟩,sB bm,2,2⟩:PTm) (⟨1,0,((1:Int):Rat),⟨#[]⟩,none,0,0⟩:PTm) ⟨0,Nat.zero_lt_two,by show ¬(5:Int)=1;decide⟩ true lq0_ lq1_ ⟨fun h_=>absurd h_ (by show ¬(5:Int)=1;decide),fun _=>rfl⟩ ⟨fun _=>by decide +kernel,fun h_=>absurd rfl h_⟩ ⟨fun h_=>absurd h_ (by show ¬(5:Int)=1;decide),fun _=>rfl⟩ ⟨fun _=>by decide +kernel,fun h_=>absurd rfl h_⟩ _ _ hs.g) ?_;rintro _ _ _ _ _ hs ⟨_,rfl,-⟩;refine eD0 hs (fun _ _ hs=>tP 11 4 0 (pC (⟨5,0,0,⟨#[]⟩,sB bm,2,2⟩:PTm)) hs (fun _ hs=>tN (cQ (cRa ⟨[],none⟩ 0 mixed ?_))));replace hs:=hs.drew;refine tOO 0 182 [(5,0,9)] (pX (⟨8,2,0,⟨#[]⟩,sB za,1,1⟩:PTm)) 1 183 [(4,0,9)] (pX (⟨5,0,0,⟨#[]⟩,sB bm,2,2⟩:PTm)) hs ?_ ?_
 ·
  refine tOP 1 183 [(4,0,9)] (pX (⟨5,0,0,⟨#[]⟩,sB bm,2,2⟩:PTm)) 2 5 0 (pC (⟨8,2,0,⟨#[]⟩,sB za,1,1⟩:PTm)) hs ?_ (fun _ hs=>?_)
  ·
   exact tP 2 5 0 (pC (⟨8,2,0,⟨#[]⟩,sB za,1,1⟩:PTm)) hs (fun _ hs=>tP 3 4 0 (pC (⟨5,0,0,⟨#[]⟩,sB bm,2,2⟩:PTm)) hs (fun _ hs=>tN (kX (hs.ret [(5,0,9),(4,0,9)] (.tuple #[pX (⟨8,2,0,⟨#[]⟩,sB za,1,1⟩:PTm),pX (⟨5,0,0,⟨#[]⟩,sB bm,2,2⟩:PTm)]) (⟨za,bm,rfl,hs.f.1⟩)))))
  exact tO 1 183 [(4,0,9)] (pX (⟨5,0,0,⟨#[]⟩,sB bm,2,2⟩:PTm)) hs (tP 3 4 0 (pC (⟨5,0,0,⟨#[]⟩,sB bm,2,2⟩:PTm)) hs (fun _ hs=>tN (kX (hs.ret [(5,0,9),(4,0,9)] (.tuple #[pX (⟨8,2,0,⟨#[]⟩,sB za,1,1⟩:PTm),pX (⟨5,0,0,⟨#[]⟩,sB bm,2,2⟩:PTm)]) (⟨za,bm,rfl,hs.f.1⟩)))))
 exact tO 0 182 [(5,0,9)] (pX (⟨8,2,0,⟨#[]⟩,sB za,1,1⟩:PTm)) hs (tP 2 5 0 (pC (⟨8,2,0,⟨#[]⟩,sB za,1,1⟩:PTm)) hs (fun _ hs=>tP 3 4 0 (pC (⟨5,0,0,⟨#[]⟩,sB bm,2,2⟩:PTm)) hs (fun _ hs=>tN (kX (hs.ret [(5,0,9),(4,0,9)] (.tuple #[pX (⟨8,2,0,⟨#[]⟩,sB za,1,1⟩:PTm),pX (⟨5,0,0,⟨#[]⟩,sB bm,2,2⟩:PTm)]) (⟨za,bm,rfl,hs.f.1⟩))))))
theorem tClone2S  (ok:ByteArray→Prop)(d:Nat)(ih:∀ (p:PTm) (t:Tm) (w:World) (h:Hp),G w h→TmH d h p t→WfT ok d t →  Calls Tryz.prog 58 #[ptv p] w (Ret w h (fun v h1=>∃ p2,v=ptv p2∧TmH d h1 p2 t)))(op n:Int)(q:Rat)(s:ByteArray)(A:Option Addr)(c:Nat)(ps:List PTm)(ks:List Tm)(hc:ps.length≤c)(hlp:ps.length≤2)(hari:ari op=(ks.length:Nat))(hq0:op≠1→q=0)(hq:LQ 1 q)(hok:op=2→ok s)(hs0:op≠2→s=⟨#[]⟩)(hn0:op≠8→n=0)(hn1 : -12≤n)(hn2:n≤12)(hW:∀ i,i<ks.length→WfT ok d (ks.getD i tm0))(w:World)(h:Hp)(g:G w h)(hK:SlO 9 ptc ptm0 h A ps)(hKs:Tms d h ps ks):CR 58 #[pW op n q s A ps.length c] w h (fun v h1=>∃ p2,v=ptv p2∧TmH (d+1) h1 p2 (.mk op n q s ks)):=by
 have hs:=(((sS g).aS hK).add (K:=fun h_=>Tms d h_ ps ks) hKs);have hln:=(hs.f.1).len;refine go Tryz.func58 [(0,pW op n q s A ps.length c)] rfl (cSL (lA 1 43 (pG op n q s A ps.length c) hs (fun b1 w2 h3 hs=>lA 2 43 ([iV 0,iV 0,qF,uV 0,eS,uV 0,eS,eS,sZ]) hs (fun b4 w5 h6 hs=>lNcQ (cSLlL hs [.v 6 (qP b1 8),.o 7 (qS A ps.length c) 1 8 1,.v 8 (nV ps.length)] ?_)))));cases hb7:((ps.length:Int) == (0:Int))
 ·
  have phb7:=neOfBeq hb7;refine lB 9 hb7 (lNIF (cK (cSLlL hs [.v 12 (qP b1 8),.o 13 (qS A ps.length c) 1 8 1,.v 14 (nV ps.length)] (lK 15 43 ps.length 9 112 (.agg #[iV 0,iV 0,qF,uV 0,eS,uV 0,eS,eS,sZ]) ptc ptm0 hs (fun b8 w9 zd hs=>?_)))));have hl11:(List.replicate ps.length ptm0).length=ps.length:=by simp
  refine lL hs [.m 3 15] (lNcQ (cSLlL hs [.v 16 (qP b1 8),.o 17 (qS A ps.length c) 2 8 1,.v 18 (nV ps.length),.v 19 (iV 0)] (lNkZ ?_)));replace hs:=hs.add (K:=fun h_=>TmsU d h_ 0 (List.replicate ps.length ptm0) ks) ((fun i hi=>absurd hi (Nat.not_lt_zero i)));refine cTo _ (CG.loop (fun μ_ Γ w_=>∃ (k:Nat) (L:List PTm) (h_:Hp),μ_=ps.length-k∧Γ=[(1,pB b1),(2,pB b4),(3,qS (sB b8) ps.length ps.length),(17,qS A ps.length c),(18,nV ps.length),(19,nV k)]∧SS w h w_ h_ [⟨b8,43,(L).flatMap ptc⟩,⟨b4,43,[iV 0,iV 0,qF,uV 0,eS,uV 0,eS,eS,sZ]⟩,⟨b1,43,pG op n q s A ps.length c⟩] [] [fun h_=>TmsU d h_ k L ks,fun h_=>Tms d h_ ps ks,fun h_=>SlO 9 ptc ptm0 h_ A ps]∧k≤ps.length∧L.length=ps.length) _ ⟨0,List.replicate ps.length ptm0,zd,rfl,rfl,hs.to _ _,Nat.zero_le _,(by simp)⟩ ?_);rintro _ _ _ ⟨k,L,_,hm14,rfl,hs,hk,hLl⟩;refine cSL ?_;cases za:(decide ((k:Int)<(ps.length:Int)))
  ·
   have zb:=oF za;refine lB 20 za (lNcQ (cIF (CG.exit ?_)))
   show CG _ _ _ _ _ _ _ _
   refine cSLlL hs [.m 30 3,.v 31 (qP b1 8)] (lP 2 8 ([qS (sB b8) ps.length ps.length]) hs (fun _ hs=>lNS ?_));have hkn:k=ps.length:=by omega
   obtain ⟨_,hs,sg18,lo19,bc20⟩:=hs.pub 0;replace hs:=(hs.to [⟨b4,43,[iV 0,iV 0,qF,uV 0,eS,uV 0,eS,eS,sZ]⟩,⟨b1,43,pG op n q s (sB b8) ps.length ps.length⟩] []).aS (SlO.of_flat (sz:=9) (f:=ptc) (d:=ptm0) (b:=b8) (o:=0) (l:=L) (fun _=>rfl) sg18);replace hs:=hs.to [⟨b4,43,[iV 0,iV 0,qF,uV 0,eS,uV 0,eS,eS,sZ]⟩,⟨b1,43,pG op n q s (sB b8) ps.length ps.length⟩] [];exact lL hs [.o 32 (pW op n q s (sB b8) ps.length ps.length) 1 0 9] (lP 0 0 (pG op n q s (sB b8) ps.length ps.length) hs (fun _ hs=>lNkXr hs [(0,0,9)] (pW op n q s (sB b8) ps.length ps.length) (⟨⟨op,n,q,s,sB b8,ps.length,ps.length⟩,rfl,by have h_:=TmH.mk (op:=op) (n:=n) (q:=q) (s:=s) (c:=L.length) (Tms.of_u oM oM hs.f.2.1) (nR _) (hs.f.1);rw[hLl] at h_;exact h_⟩)))
  have zb:=oT za;refine lB 20 za (lNcQ (cIT (cK (cQ (kZ (cSLlL hs [.m 21 19] (lX 22 A ps.length c 9 (k:Nat) k ((hs.f.r.1).ok oM) ?_)))))));refine lH 23 (pX (ps.getD k ptm0)) hs ((hs.f.r.1).el k oM) (lA 5 43 ([iV 0,iV 0,qF,uV 0,eS,uV 0,eS,eS,sZ]) hs (fun ze _ _ hs=>lL hs [.m 4 21] (lP 0 0 (pC (ps.getD k ptm0)) hs (fun _ hs=>lN (kQ (lL hs [.m 24 3,.m 25 4,.o 26 (pX (ps.getD k ptm0)) 0 0 9] (lC 27 hs (ih (ps.getD k ptm0) (ks.getD k tm0) _ _ hs.g ((hs.f.2.1).at_ k oM) (hW k oM)) ?_)))))));rintro _ _ zf hs ⟨pk,rfl,hpk⟩;replace hs:=(hs.add (K:=fun h_=>TmH d h_ pk (ks.getD k tm0)) hpk);refine lX 28 (sB b8) ps.length ps.length 9 (k:Nat) k rfl (lW 1 L ptc 9 k pk hs oM (fun _ hs=>?_));have zc:((L).set k pk).length=ps.length:=by rw[List.length_set];exact hLl
  replace hs:=hs.to [⟨ze,43,pC (ps.getD k ptm0)⟩,⟨b8,43,((L).set k pk).flatMap ptc⟩,⟨b4,43,[iV 0,iV 0,qF,uV 0,eS,uV 0,eS,eS,sZ]⟩,⟨b1,43,pG op n q s A ps.length c⟩] [];refine lN (kQ (lIn 29 ((k:Nat)+1) (k+1) ?_));refine lL hs [.m 19 29] (lD ?_);intro a_ ka;replace hs:=(hs.tl.tl.add (K:=fun h_=>TmsU d h_ (k+1) ((L).set k pk) ks) ((hs.f.2.1).set oM hs.f.1));replace hs:=hs.drop 1 0;refine ⟨_,_,?_,⟨k+1,(L).set k pk,zf,rfl,rfl,hs.to _ _,oM,zc⟩,ka.to _ kR⟩
  omega
 have phb7:=eq_of_beq hb7;exact lB 9 hb7 (lNIT (cSLlL hs [.v 10 (qP b1 8)] (lP 1 8 ([sZ]) hs (fun _ hs=>lNS (lL hs [.o 11 (.agg #[iV op,iV n,.bool (ineg q.num),uV (lo (iabs q.num)),.string (hi (iabs q.num)),uV (lo (qd q)),.string (hi (qd q)),.string s,sZ]) 1 0 9] (lP 0 0 ([iV op,iV n,.bool (ineg q.num),uV (lo (iabs q.num)),.string (hi (iabs q.num)),uV (lo (qd q)),.string (hi (qd q)),.string s,sZ]) hs (fun _ hs=>lNkXr hs [(0,0,9)] (.agg #[iV op,iV n,.bool (ineg q.num),uV (lo (iabs q.num)),.string (hi (iabs q.num)),uV (lo (qd q)),.string (hi (qd q)),.string s,sZ]) (⟨⟨op,n,q,s,none,0,0⟩,rfl,by have h_:ks=[]:=List.length_eq_zero_iff.1 oM;subst h_;exact TmH.mk (ps:=[]) Tms.nil (nR _) SlO.nil⟩))))))))
theorem tClone2 (ok:ByteArray→Prop):∀ (d:Nat) (p:PTm) (t:Tm) (w:World) (h:Hp),G w h→TmH d h p t→WfT ok d t →  Calls Tryz.prog 58 #[ptv p] w (Ret w h (fun v h1=>∃ p2,v=ptv p2∧TmH d h1 p2 t))
  | 0,_,_,_,_,_,x,_=>x.elim
  | d + 1,p,t,w,h,g,x,wf=>by
    obtain ⟨op,n,q,s,A,c,ps,ks,rfl,rfl,hc,hK,hKs⟩:=x.open;obtain ⟨w1,w2,w3,w4,w5,w6,w7,w8,w9⟩:=wf
    have hl2:ps.length≤2:=by
      have e1:ari op=ks.length:=w1;have:=ari_cases op;have:=hKs.len
      omega
    exact tClone2S ok d (fun p t w h=>tClone2 ok d p t w h) op n q s A c ps ks hc hl2 w1 w2 w3 w4 w5 w6 w7 w8 w9 w h g hK hKs
theorem sSmallK (n:Nat)(hn:n<100)(w:World)(h:Hp)(g:G w h):Calls Tryz.prog 195 #[nV n] w (Ret w h (fun v _=>v=.string ⟨(Lib.decDigits n).toArray⟩)):=Ret.of_same g (Tryz.internal_strconv_small n hn w)
theorem sItoaK (n:Nat)(hn:n<100)(w:World)(h:Hp)(g:G w h):Calls Tryz.prog 90 #[nV n] w (Ret w h (fun v _=>v=.string ⟨(Lib.decDigits n).toArray⟩)):=Ret.of_same g (Tryz.strconv_Itoa_small n hn w)
theorem sFmtIK (n:Nat)(hn:n<100)(w:World)(h:Hp)(g:G w h):CV 186 #[mV n,iV 10] w h (.string ⟨(Lib.decDigits n).toArray⟩):=by
 have hs:=sS g;refine go Tryz.func186 [(0,mV n),(1,iV 10)] rfl (cSLlL hs [.v 4 (eS)] (lNcQ (cSLlL hs [.m 9 1,.v 10 qT] (lNIT (cQ (cSLlL hs [.m 11 0] ?_))))));have ⟨hb1,phb1⟩:=dT (p:=(n:Int)<(100:Int)) oM;refine lB 12 hb1 (lNIT (cSLlL hs [.m 13 0] (lV 14 (nV n) ?_ (hr:=rS ((n:Int)) kR (fitI64 oM oM)))));exact lCval 15 hs (sSmallK n hn _ _ hs.g) (fun w2 h3 hs=>lL hs [.m 4 15] (lNkXr hs [] (.string (⟨(Lib.decDigits n).toArray⟩)) rfl))
theorem sFmtK (n:Nat)(hn:n<100)(w:World)(h:Hp)(g:G w h):CV 161 #[mV n,iV 10] w h (.string ⟨(Lib.decDigits n).toArray⟩):=by
 have hs:=sS g;exact go Tryz.func161 [(0,mV n),(1,iV 10)] rfl (cSLlL hs [.v 4 (eS)] (lNS (lL hs [.m 5 0,.m 6 1] (lCval 7 hs (sFmtIK n hn _ _ hs.g) (fun w1 h2 hs=>lL hs [.m 4 7] (lNkXr hs [] (.string (⟨(Lib.decDigits n).toArray⟩)) rfl))))))
theorem sFmtZK (z:Int)(n:Nat)(hz:z=(n:Nat))(hn:n<100)(w:World)(h:Hp)(g:G w h):Calls Tryz.prog 161 #[uV z,iV 10] w (Ret w h (fun v _=>v=.string ⟨(Lib.decDigits n).toArray⟩)):=by
  subst hz;exact sFmtK n hn w h g
theorem nTextSK (n:Nat)(h0:0<n)(hn:n<100)(w:World)(h:Hp)(g:G w h):CV 132 #[nv n] w h (.string ⟨(Lib.decDigits n).toArray⟩):=by
 have hs:=sS g;have hlo_:=lo_small (show n<18446744073709551616 by omega);have hwl:=congrArg List.length (wds_small h0 (show n<18446744073709551616 by omega))
 simp only[List.length_singleton] at hwl
 refine go Tryz.func132 [(0,nv n)] rfl (cSL (lA 1 36 (nc n) hs (fun b1 w2 h3 hs=>lL hs [.v 2 (eS)] (lNS (lL hs [.o 9 (nv n) 0 0 2] (lC 10 hs (nWords n oM oM _ _ hs.g) ?_))))));rintro _ w4 h5 hs ⟨bw,rfl,hbw_,hbc_,hbs_⟩;replace hs:=hs.aS hbs_;refine lL hs [.m 3 10] (lNcQ (cSLlL hs [.m 11 3,.v 12 (nV ((wds n).length))] ?_));have ⟨hb6,phb6⟩:=dT (p:=(((wds n).length:Nat):Int)≤(1:Int)) oM;exact lB 13 hb6 (lNIT (cSLlL hs [.v 14 (pB b1),.o 15 (mV (n%18446744073709551616)) 0 0 1] (lCval 16 hs (sFmtZK _ n hlo_ hn _ _ hs.g) (fun w7 h8 hs=>lL hs [.m 2 16] (lNkXr hs [] (.string (⟨(Lib.decDigits n).toArray⟩)) rfl)))))
theorem nTextZK (n:Nat)(hn:n<100)(hlo_:(0:Int)=(n:Nat))(w:World)(h:Hp)(g:G w h):CV 132 #[nv 0] w h (.string ⟨(Lib.decDigits n).toArray⟩):=by
 have hs:=sS g;exact go Tryz.func132 [(0,nv 0)] rfl (cSL (lA 1 36 ([uV 0,eS]) hs (fun b1 w2 h3 hs=>lL hs [.v 2 (eS)] (lNS (lL hs [.o 9 (.agg #[uV 0,eS]) 0 0 2] (lCval 10 hs (nWords0 _ _ hs.g) (fun w4 h5 hs=>lL hs [.m 3 10] (lNcQ (cSLlL hs [.m 11 3,.v 12 (iV 0),.v 13 qT] (lNIT (cSLlL hs [.v 14 (pB b1),.o 15 (uV 0) 0 0 1] (lCval 16 hs (sFmtZK _ n hlo_ hn _ _ hs.g) (fun w6 h7 hs=>lL hs [.m 2 16] (lNkXr hs [] (.string (⟨(Lib.decDigits n).toArray⟩)) rfl))))))))))))))
theorem nTextK (n:Nat)(hn:n<100)(w:World)(h:Hp)(g:G w h):Calls Tryz.prog 132 #[nv n] w (Ret w h (fun v _=>v=.string ⟨(Lib.decDigits n).toArray⟩)):=by
  rcases Nat.eq_zero_or_pos n with rfl|h0
  · exact nTextZK 0 hn rfl w h g
  · exact nTextSK n h0 hn w h g
theorem wTextS (n:Nat)(hn:n<100)(w:World)(h:Hp)(g:G w h):CV 131 #[wX (.bool false) n] w h (.string ⟨(Lib.decDigits n).toArray⟩):=by
 have hs:=sS g;exact go Tryz.func131 [(0,wX qF n)] rfl (cSL (lA 1 38 (wC qF n) hs (fun b1 w2 h3 hs=>lL hs [.v 2 (eS)] (lNcQ (cSLlL hs [.v 3 (pB b1),.o 4 qF 0 0 1] (lNIF (cK (cSLlL hs [.v 9 (qP b1 1),.o 10 (.agg #[uV (lo n),.string (hi n)]) 0 1 2] (lCval 11 hs (nTextK n hn _ _ hs.g) (fun w4 h5 hs=>lL hs [.m 2 11] (lNkXr hs [] (.string (⟨(Lib.decDigits n).toArray⟩)) rfl)))))))))))
theorem wTextK (z:Int)(n:Nat)(hz:z=(n:Nat))(hn:n<100)(w:World)(h:Hp)(g:G w h):Calls Tryz.prog 131 #[iv z] w (Ret w h (fun v _=>v=.string ⟨(Lib.decDigits n).toArray⟩)):=by
  subst hz;exact wTextS n hn w h g
theorem qTextK (n:Nat)(hn:n<100)(w:World)(h:Hp)(g:G w h):CV 87 #[qv ((n:Nat):Rat)] w h (.string ⟨(Lib.decDigits n).toArray⟩):=by
 have hs:=sS g;have hl:LQ 100000000 ((n:Nat):Rat):=(by have q_:=LQ.int (z:=(n:Int)) oM oM;exact (q_.mono oM));exact go Tryz.func87 [(0,qv ((n:Nat):Rat))] rfl (cSL (lA 1 40 (qc ((n:Nat):Rat)) hs (fun b1 w2 h3 hs=>lL hs [.v 2 (eS)] (lNcQ (cSLlL hs [.o 3 (qv ((n:Nat):Rat)) 0 0 5] (lCval 4 hs ((by have q_:=fIsWhole ((n:Nat):Rat) hl _ _ hs.g;rw[decide_eq_true (Rat.den_natCast n)] at q_;exact q_)) (fun w4 h5 hs=>lNIT (cSLlL hs [.v 5 (pB b1),.o 6 (iv (((n:Nat):Rat).num)) 0 0 3] (lCval 7 hs (wTextK ((n:Nat):Rat).num n (Rat.num_natCast n) hn _ _ hs.g) (fun w6 h7 hs=>lL hs [.m 2 7] (lNkXr hs [] (.string (⟨(Lib.decDigits n).toArray⟩)) rfl)))))))))))
section tcs
variable {M:Ms} {P:Program} {n:Nat} {N R:Po} {X:Nat→Po} {ops:Array Oper} {k0:Nat} {L:Array Bool} {Γ:Env} {w:World}
variable {h:Hp} {w0:World} {h0 hr:Hp} {AL:List Al} {B:List Bx} {Rs:List Rw} {F:List (Hp→Prop)}
end tcs
section
variable {T8 TB:TypeId} {K b:Nat}
def J8 (T8:TypeId)(K b:Nat)(h:Hp):Prop:=∀ c o,K≤c→h[c]?=some o→o=junk∨(c≠b∧∀ cs fz,o≠.cells cs T8 fz)
theorem ownF_block {base:Nat}{ty:TypeId}{sz n:Nat}{v:Value}{cs:List Value}{w w':World}(o:w.ownsRowF base ty sz v n cs)(hb:∀ b,v.ownBlock=some b→w'.heap[b]?=w.heap[b]?):w'.ownsRowF base ty sz v n cs:=by
  rcases o with ⟨h1,h2|⟨g,cap,cur,fz,hv,hb',hg,rest⟩⟩
  · exact ⟨h1,.inl h2⟩
  · exact ⟨h1,.inr ⟨g,cap,cur,fz,hv,hb',(hb g (by rw[hv];rfl)).trans hg,rest⟩⟩
theorem bldF_kept {bs:List Value}{w w1:World}(h:Lib.IsBuilderF TB T8 K b bs w)(x:Ext w w1):Lib.IsBuilderF TB T8 K b bs w1:=by
  have key:∀ p,Lib.BuilderAtF TB T8 K b p bs w→Lib.BuilderAtF TB T8 K b p bs w1:=by
    intro p hp;have hlt:=hp.lt;obtain ⟨h1,v,h2,h3,h4⟩:=hp;exact ⟨h1,v,(Below.block x b hlt).trans h2,ownF_block h3 (fun c hc=>Below.block x c (h3.lt c hc).2),h4⟩
  rcases h with h|h
  · exact .inl (key _ h)
  · exact .inr (key _ h)
theorem bldF_lt {bs:List Value}{w:World}(h:Lib.IsBuilderF TB T8 K b bs w):K≤b∧b<w.heap.size:=by
  rcases h with h|h
  · exact ⟨h.1,h.lt⟩
  · exact ⟨h.1,h.lt⟩
theorem oth_ext {w w':World}(x:Ext w w'):Lib.OthersKept T8 (some b) w w':=fun k o hk _ _=>by
  have hlt:k<w.heap.size:=(Array.getElem?_eq_some_iff.1 hk).1;exact (Below.block x k hlt).trans hk
theorem below_ext {w w':World}(x:Ext w w')(hK:K≤w.heap.size):Below K w w':=⟨x.os,x.tape,x.output,x.size,fun k hk=>Below.block x k oM⟩
structure BSt (TB T8:TypeId) (K b:Nat) (wa:World) (l:List UInt8) (w:World) (h:Hp):Prop where
  hK:K≤w.heap.size
  j8:J8 T8 K b h
  ib:Lib.IsBuilderF TB T8 K b (Lib.byteCells l) w
  be:Below K wa w
  ok:Lib.OthersKept T8 (some b) wa w
def RetB (TB T8:TypeId)(K b:Nat)(V:Value)(l out:List UInt8)(w:World):Ending→World→Prop:=fun e w'=>e=.returned V∧(Lib.IsBuilderF TB T8 K b (Lib.byteCells (l++out)) w'∧Below K w w'∧Lib.OthersKept T8 (some b) w w')
def AllNe (T8:TypeId)(b:Nat):List Bx→Prop
  | []=>True
  | x::B=>(x.b≠b∧(x.t != T8)=true)∧AllNe T8 b B
theorem AllNe.mem {B:List Bx}(h:AllNe T8 b B):∀ x∈B,x.b≠b∧x.t≠T8:=by
  induction B with
  | nil=>intro x hx;cases hx
  | cons y B ih =>
    intro x hx
    rcases List.mem_cons.1 hx with rfl|hx
    · exact ⟨h.1.1,by simpa using h.1.2⟩
    · exact ih h.2 x hx
variable {wz w w' wa:World} {hz h:Hp} {B:List Bx} {F:List (Hp→Prop)} {l:List UInt8}
theorem BSt.start (hK:K≤w.heap.size)(j:J8 T8 K b h)(ib:Lib.IsBuilderF TB T8 K b (Lib.byteCells l) w):BSt TB T8 K b w l w h:=⟨hK,j,ib,Below.refl _ _,Lib.OthersKept.refl _ _ _⟩
theorem BSt.ext (s:BSt TB T8 K b wa l w h)(x:Ext w w'){h':Hp}(j:J8 T8 K b h'):BSt TB T8 K b wa l w' h':=⟨Nat.le_trans s.hK x.size,j,bldF_kept s.ib x,s.be.trans (below_ext x s.hK),s.ok.trans (oth_ext x)⟩
theorem SS.atKb (g:G w h)(hK:K≤w.heap.size):∃ w0 h0,SS w0 h0 w h [] [] []∧h0.size=K:=by
  have hsz:=g.size;refine ⟨{ w with heap:=w.heap.extract 0 K },h.extract 0 K,⟨⟨by simp;omega,fun c=>?_⟩,⟨⟨⟨rfl,rfl,rfl,by simp;omega,fun c hc=>?_⟩,⟨by simp;omega,fun c hc=>?_⟩,g⟩,fun _ hx=>(by cases hx),fun _ hx=>(by cases hx),fun _ hx=>(by cases hx),by simp⟩,fun _ hx=>(by cases hx),.nil,fun _ hx=>(by cases hx),trivial⟩,by simp;omega⟩
  · show (h.extract 0 K)[c]?=(w.heap.extract 0 K)[c]?∨_
    rw[Array.getElem?_extract,Array.getElem?_extract]
    by_cases hb:c<K
    · rw[if_pos oM,if_pos oM];simpa using g.blk c
    · rw[if_neg oM,if_neg oM];exact .inl rfl
  · have hb':c<K:=by have:c<(w.heap.extract 0 K).size:=hc;simp at this;omega
    show w.heap[c]?=(w.heap.extract 0 K)[c]?
    rw[Array.getElem?_extract,if_pos oM];simp
  · have hb':c<K:=by simp at hc;omega
    rw[Array.getElem?_extract,if_pos oM];simp
def jx (h:Hp)(n:Nat):Hp:=h++Array.replicate (n-h.size) junk
theorem jx_lo {n c:Nat}(hc:c<h.size):(jx h n)[c]?=h[c]?:=Array.getElem?_append_left hc
theorem jx_hi {n c:Nat}(h1:h.size≤c)(h2:c<n):(jx h n)[c]?=some junk:=by
  unfold jx
  rw[Array.getElem?_append_right h1,Array.getElem?_replicate,if_pos oM]
theorem jx_size {n:Nat}(hn:h.size≤n):(jx h n).size=n:=by unfold jx;simp;omega
theorem jx_gr {n:Nat}(hn:h.size≤n):Gr h (jx h n):=⟨by rw[jx_size hn];exact hn,fun c hc=>jx_lo hc⟩
theorem jx_j8 {n:Nat}(j:J8 T8 K b h):J8 T8 K b (jx h n):=by
  intro c o hc e
  rcases Nat.lt_or_ge c h.size with h1|h1
  · rw[jx_lo h1] at e;exact j c o hc e
  · rcases Nat.lt_or_ge c n with h2|h2
    · rw[jx_hi h1 h2] at e;injection e with e;exact .inl e.symm
    · unfold jx at e
      rw[Array.getElem?_append_right h1,Array.getElem?_replicate,if_neg oM] at e;cases e
theorem SS.junk (s:SS wz hz w h B [] F)(j:J8 T8 K b h){h':Hp}{B':List Bx}(u:Up w h w' h')(s':St wz hz w' h' B'):∃ h'',SS wz hz w' h'' B' [] F∧J8 T8 K b h''∧Up w h w' h'':=by
  have e0:=s.g.size;have e1:=u.g.size;have hx:=u.ext.size;have hn:h.size≤w'.heap.size:=by omega
  have gr:=jx_gr hn
  have g':G w' (jx h w'.heap.size):=⟨(jx_size hn).symm,fun c=>by
    rcases Nat.lt_or_ge c h.size with h1|h1
    · rw[jx_lo h1]
      rcases s.g.blk c with h2|h2
      · exact .inl (h2.trans (Below.block u.ext c oM).symm)
      · exact .inr h2
    · rcases Nat.lt_or_ge c w'.heap.size with h2|h2
      · exact .inr (jx_hi h1 h2)
      · left
        rw[Array.getElem?_eq_none (by rw[jx_size hn];exact h2),Array.getElem?_eq_none h2]⟩
  refine ⟨jx h w'.heap.size,⟨s.g0,⟨⟨s'.up.ext,s.st.up.gr.trans gr,g'⟩,s'.own,fun x hx2=>?_,s'.lo,s'.nd⟩,fun _ hr=>(by cases hr),.nil,s.mo,s.f.gw s.mo gr.gw⟩,jx_j8 j,⟨u.ext,gr,g'⟩⟩;have h1:=s'.jk x hx2
  rcases Nat.lt_or_ge x.b h.size with h2|h2
  · rw[jx_lo h2,←u.gr.blk _ h2];exact h1
  · exact jx_hi h2 (by have:=lt_of_some h1;omega)
theorem SS.oth (s:SS wz hz w h B [] F)(hK:hz.size=K)(j:J8 T8 K b h)(be:Below K w w')(ok:Lib.OthersKept T8 (some b) w w')(hB:AllNe T8 b B):∃ h',SS wz hz w' h' B [] F∧J8 T8 K b h':=by
  have e0:=s.g.size;have ez:=s.g0.size;have hx:=be.size;have hn:h.size≤w'.heap.size:=by omega
  have gr:=jx_gr hn
  have g' : G w' (jx h w'.heap.size):=⟨(jx_size hn).symm,fun c=>by
    rcases Nat.lt_or_ge c h.size with h1|h1
    · rw[jx_lo h1]
      rcases s.g.blk c with h2|h2
      · rcases Nat.lt_or_ge c K with h3|h3
        · exact .inl (h2.trans (be.block c h3).symm)
        · cases ho:h[c]? with
          | none=>rw[Array.getElem?_eq_none_iff] at ho;omega
          | some o =>
            rcases j c o h3 ho with rfl|⟨h4,h5⟩
            · exact .inr rfl
            · left;exact (ok c o (h2.symm.trans ho) (fun e=>h4 (Option.some.inj e)) h5).symm
      · exact .inr h2
    · rcases Nat.lt_or_ge c w'.heap.size with h2|h2
      · exact .inr (jx_hi h1 h2)
      · left
        rw[Array.getElem?_eq_none (by rw[jx_size hn];exact h2),Array.getElem?_eq_none h2]⟩
  have hx2:Ext wz w':=⟨be.os.trans s.st.up.ext.os,be.tape.trans s.st.up.ext.tape,be.output.trans s.st.up.ext.output,Nat.le_trans s.st.up.ext.size be.size,fun c hc=>(be.block c oM).trans (Below.block s.st.up.ext c hc)⟩;refine ⟨jx h w'.heap.size,⟨s.g0,⟨⟨hx2,s.st.up.gr.trans gr,g'⟩,fun x hx3=>?_,fun x hx3=>?_,s.st.lo,s.st.nd⟩,fun _ hr=>(by cases hr),.nil,s.mo,s.f.gw s.mo gr.gw⟩,jx_j8 j⟩
  · have h1:=s.st.own x hx3
    have h2:=hB.mem x hx3;exact ok x.b _ h1 (fun e=>h2.1 (Option.some.inj e)) (fun cs fz e=>by injection e with _ e2;exact h2.2 e2)
  · have h1:=s.st.jk x hx3
    rw[jx_lo (lt_of_some h1)];exact h1
end
section laws
variable {T8 TB:TypeId} {K b:Nat} {M:Ms} {P:Program} {n:Nat} {N R:Po} {X:Nat→Po} {ops:Array Oper} {k k0:Nat} {hr:Hp} {AL:List Al} {L:Array Bool} {Γ:Env} {wz w w' wa:World} {hz h:Hp} {B:List Bx} {F:List (Hp→Prop)} {l out:List UInt8}
theorem lCb (t:Nat){f:FuncId}{args:Array Value}{Φ:Value→Hp→Prop}(s:SS wz hz w h B [] F)(bs:BSt TB T8 K b wa l w h)(c:Calls P f args w (Ret w h Φ))(H:∀ v w' h' h2,SS wz hz w' h' B [] F→BSt TB T8 K b wa l w' h'→Φ v h2→LG P n N R X ops (k+1) ((t,v)::Γ) w')(hc:cL ops Γ k t n=true:=by kernel_rfl)(hr:(execOp (ev Γ) (opAt ops k)).run P w=.ok (.enter f args) w:=by kernel_rfl):LG P n N R X ops k Γ w :=
  LG.call t f args (cL_1 hc).1 (cL_1 hc).2 hr (c.mono fun e w' ⟨v,h',he,u,hΦ⟩=>by
    obtain ⟨h2,s2,j2,_⟩:=s.junk bs.j8 u (s.st.step u);exact ⟨v,he,H v w' h2 h' s2 (bs.ext u.ext j2) hΦ⟩)
theorem lAb (t:Nat)(ty:TypeId)(vs:List Value)(s:SS wz hz w h B [] F)(bs:BSt TB T8 K b wa l w h)(H:∀ c w' h',c≠b→SS wz hz w' h' (⟨c,ty,vs⟩::B) [] F→BSt TB T8 K b wa l w' h'→LG P n N R X ops (k+1) ((t,.pointer (some ⟨c,0,none⟩))::Γ) w')(hc:cL ops Γ k t n=true:=by kernel_rfl)
    (hr:(execOp (ev Γ) (opAt ops k)).run P w=.ok (.value (.pointer (some ⟨w.heap.size,0,none⟩))) (w.alloc (.cells vs.toArray ty (0,0))):=by kernel_rfl):LG P n N R X ops k Γ w :=
  LG.var t ty vs s.st (cL_1 hc).1 (cL_1 hc).2 hr (fun c w' h' hb u s'=>by
    obtain ⟨h2,s2,j2,_⟩:=s.junk bs.j8 u s';have hlt:=(bldF_lt bs.ib).2;have:=s.g.size;exact H c w' h2 oM s2 (bs.ext u.ext j2))
theorem lWb (t:Nat){f:FuncId}{args:Array Value}{V:Value}(s:SS wz hz w h B [] F)(bs:BSt TB T8 K b wa l w h)(hK:hz.size=K)(hB:AllNe T8 b B)(c:Calls P f args w (RetB TB T8 K b V l out w))(H:∀ w' h',SS wz hz w' h' B [] F→BSt TB T8 K b wa (l++out) w' h'→LG P n N R X ops (k+1) ((t,V)::Γ) w')(hc:cL ops Γ k t n=true:=by kernel_rfl)(hr:(execOp (ev Γ) (opAt ops k)).run P w=.ok (.enter f args) w:=by kernel_rfl):LG P n N R X ops k Γ w :=
  LG.call t f args (cL_1 hc).1 (cL_1 hc).2 hr (c.mono fun e w' ⟨he,ib,be,ok⟩=>by
    obtain ⟨h2,s2,j2⟩:=s.oth hK bs.j8 be ok hB;exact ⟨V,he,H w' h2 s2 ⟨Nat.le_trans bs.hK be.size,j2,ib,bs.be.trans be,bs.ok.trans ok⟩⟩)
theorem tWb (i t:Nat){f:FuncId}{args:Array Value}{V:Value}(s:SS wz hz w h B [] F)(bs:BSt TB T8 K b wa l w h)(hK:hz.size=K)(hB:AllNe T8 b B)(c:Calls P f args w (RetB TB T8 K b V l out w))(H:∀ w' h',SS wz hz w' h' B [] F→BSt TB T8 K b wa (l++out) w' h'→AG M P n N R X ops k0 (L.setIfInBounds i true) ((t,V)::Γ) w')(hc:(chkT ops k0 L i && knownOp Γ (opAt ops i) && ((opAt ops i).dst == some t) && decide (t<n))=true:=by kernel_rfl)(hw:wantE ops Γ (opAt ops i)=some true:=by kernel_rfl)
    (hr:(execOp (ev Γ) (opAt ops i)).run P w=.ok (.enter f args) w:=by kernel_rfl)(hz':M.z=none:=by rfl):AG M P n N R X ops k0 L Γ w :=
  tC i t (c.mono fun e w' ⟨he,ib,be,ok⟩=>by
    obtain ⟨h2,s2,j2⟩:=s.oth hK bs.j8 be ok hB;exact ⟨V,he,Tl.none hz' _ _,H w' h2 s2 ⟨Nat.le_trans bs.hK be.size,j2,ib,bs.be.trans be,bs.ok.trans ok⟩⟩) hc hw hr
theorem eD0h {wr:World}{hr2:Hp}(s:SS wz hz w h B [] F)(m:UpM [] wr hr2 w h)(H:∀ w' h',UpM [] wr hr2 w' h'→SS wz hz w' h' B [] F→AG M P n N R X ops k0 L Γ w')(hc:chkFin ops [] L=true:=by kernel_rfl):EG M P n N R X ops k0 hr [] L Γ w h:=Rg.fin0 hc (fun w' h' u=>H w' h' (m.trans (u.m _)) (s.step u))
theorem BSt.back {wr:World}{hr2:Hp}(bs:BSt TB T8 K b wa l wr hr2)(s:SS wz hz wr hr2 B [] F)(m:UpM [] wr hr2 w h):∃ h',SS wz hz w h' B [] F∧BSt TB T8 K b wa l w h':=by
  obtain ⟨h2,s2,j2,_⟩:=s.junk bs.j8 m.up (s.st.step m.up);exact ⟨h2,s2,bs.ext m.up.ext j2⟩
end laws
section ret
variable {T8 TB:TypeId} {K b:Nat} {P:Program} {n:Nat} {Γ:Env} {wz w wa:World} {hz h:Hp} {B:List Bx} {F:List (Hp→Prop)} {l l0 out:List UInt8}
theorem SS.retB {fn:Func}{V:Value}(s:SS wz hz w h B [] F)(bs:BSt TB T8 K b wa l w h)(ps:List (Nat × Nat × Nat))(hl:l=l0++out)(hk:(resK fn Γ && partsOk B ps)=true:=by kernel_rfl)(he:evalL P (resE fn Γ) (partsV B ps)=some (V,partsA B ps):=by kernel_rfl):∀ a,Kn n a Γ→RetP P fn (RetB TB T8 K b V l0 out wa) a w:=by
  intro a ka;rw[Bool.and_eq_true] at hk
  refine ⟨ka.df.trans (resK_df hk.1),V,?_,rfl,by rw[←hl];exact bs.ib,bs.be,bs.ok⟩;rw[results_env ka hk.1];exact evalL_run _ _ _ _ he (parts_cells s.st.own ps hk.2)
end ret
def lay166:Go.Shelf.Ren:=⟨fun|166=>86|240=>130|276=>159|n=>n,fun|0=>0|3=>3|4=>4|5=>5|9=>9|20=>20|37=>110|70=>109|72=>112|75=>138|164=>199|80=>114|n=>n,fun n=>n⟩
theorem laid166:Go.Proofs.Lays.n166 Tryz.prog lay166:={
  mixed:=by kernel_rfl
  f166:=Tryz.func86.trans (congrArg some kR)
  f240:=Tryz.func130.trans (congrArg some kR)
  f276:=Tryz.func159.trans (congrArg some kR)
  t0:=Tryz.underlying0
  a0:=Tryz.isAgg0
  z0:=Tryz.sizeOf0
  v0:=Tryz.zeroValue0
  t3:=Tryz.underlying3
  a3:=Tryz.isAgg3
  z3:=Tryz.sizeOf3
  v3:=Tryz.zeroValue3
  t4:=Tryz.underlying4
  a4:=Tryz.isAgg4
  z4:=Tryz.sizeOf4
  v4:=Tryz.zeroValue4
  t9:=Tryz.underlying9
  a9:=Tryz.isAgg9
  z9:=Tryz.sizeOf9
  v9:=Tryz.zeroValue9
  t20:=Tryz.underlying20
  a20:=Tryz.isAgg20
  z20:=Tryz.sizeOf20
  v20:=Tryz.zeroValue20
  t37:=Tryz.underlying110
  a37:=Tryz.isAgg110
  z37:=Tryz.sizeOf110
  v37:=Tryz.zeroValue110
  t70:=Tryz.underlying109
  a70:=Tryz.isAgg109
  z70:=Tryz.sizeOf109
  v70:=Tryz.zeroValue109
  t72:=Tryz.underlying112
  a72:=Tryz.isAgg112
  z72:=Tryz.sizeOf112
  v72:=Tryz.zeroValue112
  t75:=Tryz.underlying138
  a75:=Tryz.isAgg138
  z75:=Tryz.sizeOf138
  v75:=Tryz.zeroValue138
  t164:=Tryz.underlying199
  a164:=Tryz.isAgg199
  z164:=Tryz.sizeOf199
  v164:=Tryz.zeroValue199 }
theorem extra166:Builder.Extra Tryz.prog lay166:={
  sizeBuilder:=by kernel_rfl
  liesBuilder:=by kernel_rfl
  t5:=Tryz.underlying5
  a5:=Tryz.isAgg5
  z5:=Tryz.sizeOf5
  v5:=Tryz.zeroValue5
  infoByte:=by kernel_rfl
  cellsByte:=by kernel_rfl
  sizeByte:=by kernel_rfl
  neB5:=by decide }
theorem opAddS {P:Program}{Γ:Env}{o:Oper}{w:World}{a b:ByteArray}(h:execOp (ev Γ) o=(do pure (.value (←Op.stringOp .add a b))))(hs:a.size+b.size≤9223372036854775807):(execOp (ev Γ) o).run P w=.ok (.value (.string (a++b))) w:=by
  rw[h];simp[run_string_add_sum w a b hs,Result.andThen]
def rkT (op:Int):Int:=if op=3∨op=4 then 1 else if op=5∨op=6 then 2 else if op=7 then 3 else if op=8 then 4 else 5
theorem rk_cases (op:Int):((op=3∨op=4)∧rkT op=1)∨((op=5∨op=6)∧rkT op=2)∨(op=7∧rkT op=3)∨(op=8∧rkT op=4)∨((op<3∨8<op)∧rkT op=5):=by
  unfold rkT
  repeat' split
  all_goals omega
def sgT (op:Int):ByteArray:=if op=3 then ⟨#[32,43,32]⟩ else if op=4 then ⟨#[32,45,32]⟩ else if op=5 then ⟨#[32,42,32]⟩ else ⟨#[32,47,32]⟩
def nbT (n:Nat):ByteArray:=⟨(Lib.decDigits n).toArray⟩
def wrM (wr:Tm→Int→List UInt8):Tm→List UInt8
  | .mk op n q s ks=>if op=1 then (nbT q.num.toNat).data.toList else if op=2 then s.data.toList
    else if op=7 then (⟨#[45]⟩:ByteArray).data.toList++wr (ks.getD 0 tm0) 3
    else if op=8 then wr (ks.getD 0 tm0) 5++((⟨#[94]⟩:ByteArray)++nbT n.toNat).data.toList
    else wr (ks.getD 0 tm0) (rkT op)++(sgT op).data.toList++wr (ks.getD 1 tm0) (rkT op+1)
def wrT:Nat→Tm→Int→List UInt8
  | 0,_,_=>[]
  | d+1,t,l=>if rkT t.op<l then (⟨#[40]⟩:ByteArray).data.toList++wrM (wrT d) t++(⟨#[41]⟩:ByteArray).data.toList else wrM (wrT d) t
def TxK:Nat→Tm→Prop
  | 0,_=>False
  | d+1,.mk op n q _ ks=>ari op=ks.length∧(1≤op∧op≤8)∧(op=1→∃ k:Nat,k<100∧q=((k:Nat):Rat))∧(0≤n∧n<100)∧∀ i,i<ks.length→TxK d (ks.getD i tm0)
theorem dig_le3:∀ n,n<100→(nbT n).size≤3:=by decide +kernel
theorem dig_no:∀ n,n<100→(Lib.decDigits n).all (fun b=>b != 47)=true:=by decide +kernel
theorem sContains0 (k:Nat)(hk:k<100)(w:World)(h:Hp)(g:G w h):CV 88 #[.string (nbT k),.string ⟨#[47]⟩] w h (.bool false):=by
  have q:=Ret.of_same g (Tryz.strings_Contains_one (nbT k) 47 w)
  rw[idx_no (nbT k).data.toList (fun b hb=>by
    have h1:=List.all_eq_true.1 (dig_no k hk) b hb
    simpa using h1)] at q
  exact q
theorem sWS (K b:Nat)(l:List UInt8)(x:ByteArray)(w:World)(hib:Lib.IsBuilderF 112 5 K b (Lib.byteCells (l)) w)(hK:K≤w.heap.size)(hl:l.length+x.data.toList.length≤140737488355328):Calls Tryz.prog 86 #[pB b,.string x] w (RetB 112 5 K b (.tuple #[iV x.size,.nilIface]) l x.data.toList w) :=
  (Any.Builder_WriteString_k laid166 extra166 K b (Lib.byteCells l) x w hib (by rw[Lib.byteCells_length];exact hl) hK).mono fun e w' ⟨he,h1,h2,h3⟩=>⟨he,by
    have e2:Lib.byteCells (l++x.data.toList)=Lib.byteCells l++Lib.strCells x:=by unfold Lib.byteCells;rw[List.map_append];rfl
    rw[e2];exact .inr h1,h2,h3⟩
theorem tRank (p:PTm)(w:World)(h:Hp)(g:G w h):CV 85 #[pX p] w h (iV (rkT p.op)):=by
 have hs:=sS g;refine go Tryz.func85 [(0,pX p)] rfl (cSL (lA 1 43 (pC p) hs (fun b1 w2 h3 hs=>lL hs [.v 2 (iV 0)] (lNcQ (cSLlL hs [.v 3 (pB b1),.o 4 (iV p.op) 0 0 1] (lNkZ (cQ (cSL ?_))))))));cases hb4:((p.op:Int) == (3:Int))
 ·
  have phb4:=neOfBeq hb4;refine lB 6 hb4 (lL hs [.m 5 6] (lNIF (kQ ?_)));cases hb5:((p.op:Int) == (4:Int))
  ·
   have phb5:=neOfBeq hb5;refine lB 7 hb5 (lL hs [.m 5 7] (lNIF (cQ (cSL ?_))));cases hb6:((p.op:Int) == (5:Int))
   ·
    have phb6:=neOfBeq hb6;refine lB 9 hb6 (lL hs [.m 8 9] (lNIF (kQ ?_)));cases hb7:((p.op:Int) == (6:Int))
    ·
     have phb7:=neOfBeq hb7;refine lB 10 hb7 (lL hs [.m 8 10] (lNIF (cSL ?_)));cases hb8:((p.op:Int) == (7:Int))
     ·
      have phb8:=neOfBeq hb8;refine lB 12 hb8 (lL hs [.m 11 12] (lNIF (cSL ?_)));cases hb9:((p.op:Int) == (8:Int))
      ·
       have phb9:=neOfBeq hb9;exact lB 14 hb9 (lL hs [.m 13 14] (lNIF (cK (cSLlL hs [.v 2 (iV 5)] (lNkXr hs [] (iV 5) (congrArg (Value.int .i64) (by have:=rk_cases p.op;omega)))))))
      have phb9:=eq_of_beq hb9;exact lB 14 hb9 (lL hs [.m 13 14] (lNIT (cSLlL hs [.v 2 (iV 4)] (lNkXr hs [] (iV 4) (congrArg (Value.int .i64) (by have:=rk_cases p.op;omega))))))
     have phb8:=eq_of_beq hb8;exact lB 12 hb8 (lL hs [.m 11 12] (lNIT (cSLlL hs [.v 2 (iV 3)] (lNkXr hs [] (iV 3) (congrArg (Value.int .i64) (by have:=rk_cases p.op;omega))))))
    have phb7:=eq_of_beq hb7;exact lB 10 hb7 (lL hs [.m 8 10] (lNIT (cSLlL hs [.v 2 (iV 2)] (lNkXr hs [] (iV 2) (congrArg (Value.int .i64) (by have:=rk_cases p.op;omega))))))
   have phb6:=eq_of_beq hb6;exact lB 9 hb6 (lL hs [.m 8 9] (lNIT (cK (cIT (cSLlL hs [.v 2 (iV 2)] (lNkXr hs [] (iV 2) (congrArg (Value.int .i64) (by have:=rk_cases p.op;omega))))))))
  have phb5:=eq_of_beq hb5;exact lB 7 hb5 (lL hs [.m 5 7] (lNIT (cSLlL hs [.v 2 (iV 1)] (lNkXr hs [] (iV 1) (congrArg (Value.int .i64) (by have:=rk_cases p.op;omega))))))
 have phb4:=eq_of_beq hb4;exact lB 6 hb4 (lL hs [.m 5 6] (lNIT (cK (cIT (cSLlL hs [.v 2 (iV 1)] (lNkXr hs [] (iV 1) (congrArg (Value.int .i64) (by have:=rk_cases p.op;omega))))))))
theorem tSign (op:Int)(w:World)(h:Hp)(g:G w h):CV 89 #[iV op] w h (.string (sgT op)):=by
 have hs:=sS g;refine go Tryz.func89 [(0,iV op)] rfl (cSLlL hs [.v 2 (eS)] (lNcQ (cSLlL hs [.m 3 0] (lNkZ (cSL ?_)))));cases hb1:((op:Int) == (3:Int))
 ·
  have phb1:=neOfBeq hb1;refine lB 5 hb1 (lL hs [.m 4 5] (lNIF (cSL ?_)));cases hb2:((op:Int) == (4:Int))
  ·
   have phb2:=neOfBeq hb2;refine lB 7 hb2 (lL hs [.m 6 7] (lNIF (cSL ?_)));cases hb3:((op:Int) == (5:Int))
   ·
    have phb3:=neOfBeq hb3;exact lB 9 hb3 (lL hs [.m 8 9] (lNIF (cK (cSLlL hs [.v 2 (.string (⟨#[32,47,32]⟩))] (lNkXr hs [] (.string (⟨#[32,47,32]⟩)) (congrArg Value.string (by unfold sgT;repeat first|rw[if_pos oM]|rw[if_neg oM])))))))
   have phb3:=eq_of_beq hb3;exact lB 9 hb3 (lL hs [.m 8 9] (lNIT (cSLlL hs [.v 2 (.string (⟨#[32,42,32]⟩))] (lNkXr hs [] (.string (⟨#[32,42,32]⟩)) (congrArg Value.string (by unfold sgT;repeat first|rw[if_pos oM]|rw[if_neg oM]))))))
  have phb2:=eq_of_beq hb2;exact lB 7 hb2 (lL hs [.m 6 7] (lNIT (cSLlL hs [.v 2 (.string (⟨#[32,45,32]⟩))] (lNkXr hs [] (.string (⟨#[32,45,32]⟩)) (congrArg Value.string (by unfold sgT;repeat first|rw[if_pos oM]|rw[if_neg oM]))))))
 have phb1:=eq_of_beq hb1;exact lB 5 hb1 (lL hs [.m 4 5] (lNIT (cSLlL hs [.v 2 (.string (⟨#[32,43,32]⟩))] (lNkXr hs [] (.string (⟨#[32,43,32]⟩)) (congrArg Value.string (by unfold sgT;repeat first|rw[if_pos oM]|rw[if_neg oM]))))))
theorem tWriteA (d:Nat)(K b:Nat)(bs:List UInt8)(ih:∀ (K b:Nat) (bs:List UInt8) (p:PTm) (t:Tm) (least:Int) (w:World) (h:Hp),G w h→K≤w.heap.size→J8 5 K b h→Lib.IsBuilderF 112 5 K b (Lib.byteCells (bs)) w→TmH d h p t→TxK d t→bs.length+(wrT d t least).length≤100000000000→Calls Tryz.prog 55 #[pB b,ptv p,iV least] w (RetB 112 5 K b (.tuple #[]) bs (wrT d t least) w))(op n:Int)(q:Rat)(s:ByteArray)(A:Option Addr)(c:Nat)(ps:List PTm)(ks:List Tm)(hc:ps.length≤c)(hari:ari op=(ks.length:Nat))(hop:1≤op∧op≤8)(hq1:op=1→∃ k:Nat,k<100∧q=((k:Nat):Rat))(hn:0≤n∧n<100)(hW:∀ i,i<ks.length→TxK d (ks.getD i tm0))(least:Int)(hle:least≤rkT op)(hlen:bs.length+(wrM (wrT d) (.mk op n q s ks)).length≤100000000000)(w:World)(h:Hp)(g:G w h)(hKb:K≤w.heap.size)(hj8:J8 5 K b h)(hib:Lib.IsBuilderF 112 5 K b (Lib.byteCells (bs)) w)(hA:SlO 9 ptc ptm0 h A ps)(hT:Tms d h ps ks):Calls Tryz.prog 55 #[pB b,pW op n q s A ps.length c,iV least] w (RetB 112 5 K b (.tuple #[]) bs (wrM (wrT d) (.mk op n q s ks)) w):=by
 obtain ⟨wz,hz0_,hs,hzK⟩:=SS.atKb g hKb;have hbs:=BSt.start hKb hj8 hib;have hln:=hT.len;have hac:=ari_cases op;have hrk:=rk_cases op;replace hs:=((hs.aS hA).add (K:=fun h_=>Tms d h_ ps ks) hT);refine go Tryz.func55 [(0,pB b),(1,pW op n q s A ps.length c),(2,iV least)] rfl (cSL (lAb 4 43 (pG op n q s A ps.length c) hs hbs (fun b1 w2 h3 hnb_b1 hs hbs=>lNcQ (cSLlL hs [.o 9 (pW op n q s A ps.length c) 0 0 9] (lCb 10 hs hbs (tRank ⟨op,n,q,s,A,ps.length,c⟩ _ _ hs.g) ?_)))));rintro _ w4 h5 _ hs hbs rfl;refine lL hs [.m 11 2] ?_;have hb6:(decide ((rkT op:Int)<(least:Int)))=false:=decide_eq_false oM;refine lB 12 hb6 (lNIF (cK (cSLlL hs [.v 20 (pB b1),.o 21 (iV op) 0 0 1] (lNkZ (cSL ?_)))));cases hb7:((op:Int) == (1:Int))
 ·
  have phb7:=neOfBeq hb7;refine lB 47 hb7 (lL hs [.m 46 47] (lNIF (cSL ?_)));cases hb8:((op:Int) == (2:Int))
  ·
   have phb8:=neOfBeq hb8;refine lB 66 hb8 ?_;refine lL hs [.m 65 66] (lNIF (CG.join (fun Γ w_=>∃ (zf:Bool) (h_:Hp),Γ=[(0,pB b),(4,pB b1),(21,iV op),(71,.bool zf)]∧SS wz hz0_ w_ h_ [⟨b1,43,pG op n q s A ps.length c⟩] [] [fun h_=>Tms d h_ ps ks,fun h_=>SlO 9 ptc ptm0 h_ A ps]∧BSt 112 5 K b w bs w_ h_∧(zf=true→3≤op∧op≤6)∧(zf=false→7≤op)) ?_ ?_))
   ·
    refine cSL ?_;cases hb9:((op:Int) == (3:Int))
    ·
     have phb9:=neOfBeq hb9;refine lB 72 hb9 (lL hs [.m 71 72] (lNIF (cSL ?_)));cases za:((op:Int) == (4:Int))
     ·
      have zg:=neOfBeq za;refine lB 73 za (lL hs [.m 71 73] (lNIF (cSL ?_)));cases zb:((op:Int) == (5:Int))
      ·
       have zi:=neOfBeq zb;refine lB 74 zb (lL hs [.m 71 74] (lNIF (kQ ?_)));cases zc:((op:Int) == (6:Int))
       ·
        have zj:=neOfBeq zc;refine lB 75 zc (lL hs [.m 71 75] (lD ?_));intro a_ ka;exact ⟨_,⟨false,h5,rfl,hs.to _ _,hbs,(fun h_=>absurd h_ kD),(fun _=>by omega)⟩,ka.to _ kR⟩
       have zj:=eq_of_beq zc;refine lB 75 zc (lL hs [.m 71 75] (lD ?_));intro a_ ka;exact ⟨_,⟨true,h5,rfl,hs.to _ _,hbs,(fun _=>by omega),(fun h_=>absurd h_ kD)⟩,ka.to _ kR⟩
      have zi:=eq_of_beq zb;refine lB 74 zb (lL hs [.m 71 74] (lNIT (CG.skip ?_)));intro a_ ka;exact ⟨_,⟨true,h5,rfl,hs.to _ _,hbs,(fun _=>by omega),(fun h_=>absurd h_ kD)⟩,ka.to _ kR⟩
     have zg:=eq_of_beq za;refine lB 73 za (lL hs [.m 71 73] (lNIT (CG.skip ?_)));intro a_ ka;exact ⟨_,⟨true,h5,rfl,hs.to _ _,hbs,(fun _=>by omega),(fun h_=>absurd h_ kD)⟩,ka.to _ kR⟩
    have phb9:=eq_of_beq hb9;refine lB 72 hb9 (lL hs [.m 71 72] (lNIT (CG.skip ?_)));intro a_ ka;exact ⟨_,⟨true,h5,rfl,hs.to _ _,hbs,(fun _=>by omega),(fun h_=>absurd h_ kD)⟩,ka.to _ kR⟩
   rintro _ zl ⟨zf,zm,rfl,hs,hbs,zp,hF71⟩;cases zd:(zf)
   ·
    try rw[zd] at hs
    try rw[zd]
    refine cIF (cSL ?_);have hF_:=hF71 aM;cases ze:((op:Int) == (7:Int))
    ·
     have zk:=neOfBeq ze;refine lB 99 ze (lL hs [.m 98 99] (lNIF (cSL ?_)));have zq:((op:Int) == (8:Int))=true:=beqT oM;refine lB 109 zq (lL hs [.m 108 109] (lNIT ?_));have hwr:wrM (wrT d) (.mk op n q s ks)=wrT d (ks.getD 0 tm0) 5++((⟨#[94]⟩:ByteArray)++nbT n.toNat).data.toList:=by simp only[wrM];repeat first|rw[if_pos oM]|rw[if_neg oM]
     have hl_:=hlen;rw[hwr] at hl_
     try simp only[List.length_append] at hl_
     refine cSLlL hs [.m 110 0,.v 111 (qP b1 8),.o 112 (qS A ps.length c) 0 8 1] (lX 113 A ps.length c 9 0 0 ((hs.f.2.1).ok oM) ?_);refine lH 114 (pX (ps.getD 0 ptm0)) hs ((hs.f.2.1).el 0 oM) (lWb 115 hs hbs hzK ⟨⟨hnb_b1,rfl⟩,trivial⟩ (ih K b bs (ps.getD 0 ptm0) (ks.getD 0 tm0) (5) _ _ hs.g hbs.hK hbs.j8 hbs.ib ((hs.f.1).at_ 0 oM) (hW 0 oM) (by first|omega|(simp only[List.length_append];omega))) (fun _ _ hs hbs=>lN (kQ (lL hs [.m 116 0,.v 117 (qP b1 1),.o 118 (iV n) 0 1 1] (lCb 119 hs hbs ((by have q_:=sItoaK n.toNat oM _ _ hs.g;rw[show nV n.toNat=iV n from congrArg iV (by omega)] at q_;exact q_)) ?_)))));rintro _ _ _ _ hs hbs rfl;refine lV 120 (.string ((⟨#[94]⟩:ByteArray)++(nbT n.toNat))) ?_ (hr:=opAddS (a:=⟨#[94]⟩) (b:=(nbT n.toNat)) kR (by have h1_:=dig_le3 n.toNat oM;have h2_:(⟨#[94]⟩:ByteArray).size=1:=rfl;omega));exact lWb 121 hs hbs hzK ⟨⟨hnb_b1,rfl⟩,trivial⟩ (sWS K b (bs++(wrT d (ks.getD 0 tm0) (5))) ((⟨#[94]⟩:ByteArray)++(nbT n.toNat)) _ hbs.ib hbs.hK (by first|omega|(simp only[List.length_append];omega))) (fun _ _ hs hbs=>lD (hs.retB hbs [] (by rw[hwr];try simp only[List.append_assoc])))
    have zk:=eq_of_beq ze;refine lB 99 ze (lL hs [.m 98 99] (lNIT ?_));have hwr:wrM (wrT d) (.mk op n q s ks)=(⟨#[45]⟩:ByteArray).data.toList++wrT d (ks.getD 0 tm0) 3:=by simp only[wrM];repeat first|rw[if_pos oM]|rw[if_neg oM]
    have hl_:=hlen;rw[hwr] at hl_
    try simp only[List.length_append] at hl_
    refine cSLlL hs [.m 100 0] (lWb 101 hs hbs hzK ⟨⟨hnb_b1,rfl⟩,trivial⟩ (sWS K b bs (⟨#[45]⟩) _ hbs.ib hbs.hK (by first|omega|(simp only[List.length_append];omega))) (fun _ _ hs hbs=>lN (kQ (lL hs [.m 102 0,.v 103 (qP b1 8),.o 104 (qS A ps.length c) 0 8 1] (lX 105 A ps.length c 9 0 0 ((hs.f.2.1).ok oM) ?_)))));exact lH 106 (pX (ps.getD 0 ptm0)) hs ((hs.f.2.1).el 0 oM) (lWb 107 hs hbs hzK ⟨⟨hnb_b1,rfl⟩,trivial⟩ (ih K b (bs++((⟨#[45]⟩:ByteArray).data.toList)) (ps.getD 0 ptm0) (ks.getD 0 tm0) (3) _ _ hs.g hbs.hK hbs.j8 hbs.ib ((hs.f.1).at_ 0 oM) (hW 0 oM) (by first|omega|(simp only[List.length_append];omega))) (fun _ _ hs hbs=>lD (hs.retB hbs [] (by rw[hwr];try simp only[List.append_assoc]))))
   try rw[zd] at hs
   try rw[zd]
   refine cIT (cQ ?_);have hsr:=hs;have hup:UpM [] zl zm zl zm:=UpM.refl hs.g;have hT_:=zp aM;have hwr:wrM (wrT d) (.mk op n q s ks)=wrT d (ks.getD 0 tm0) (rkT op)++(sgT op).data.toList++wrT d (ks.getD 1 tm0) (rkT op+1):=by simp only[wrM];repeat first|rw[if_pos oM]|rw[if_neg oM]
   have hl_:=hlen;rw[hwr] at hl_
   try simp only[List.length_append] at hl_
   refine cR 7 [] mixed hs al_nil (eV 0 76 (pB b) (eV 1 77 (qP b1 8) (eOU 2 78 [3,4,7] [(0,8,1)] (qS A ps.length c) hs (eX 3 79 A ps.length c 9 0 0 ((hs.f.2.1).ok oM) (eH 4 80 (pX (ps.getD 0 ptm0)) hs ((hs.f.2.1).el 0 oM) (eOU 5 81 [6,7] [(0,0,9)] (pW op n q s A ps.length c) hs (eCh 6 82 hs hup (fun _ _ hs=>tRank ⟨op,n,q,s,A,ps.length,c⟩ _ _ hs.g) ?_)))))));rintro _ _ _ _ _ hup hs rfl;refine eD0h hs hup (fun _ _ hup hs=>?_);obtain ⟨_,hs,hbs⟩:=hbs.back hsr hup;refine tWb 7 83 hs hbs hzK ⟨⟨hnb_b1,rfl⟩,trivial⟩ (ih K b bs (ps.getD 0 ptm0) (ks.getD 0 tm0) (rkT op) _ _ hs.g hbs.hK hbs.j8 hbs.ib ((hs.f.1).at_ 0 oM) (hW 0 oM) (by first|omega|(simp only[List.length_append];omega))) (fun _ _ hs hbs=>tNS (lL hs [.m 84 0,.v 85 (pB b1),.o 86 (iV op) 0 0 1] (lCb 87 hs hbs (tSign op _ _ hs.g) ?_)));rintro _ _ _ _ hs hbs rfl;refine lWb 88 hs hbs hzK ⟨⟨hnb_b1,rfl⟩,trivial⟩ (sWS K b (bs++(wrT d (ks.getD 0 tm0) (rkT op))) (sgT op) _ hbs.ib hbs.hK (by first|omega|(simp only[List.length_append];omega))) (fun zn zo hs hbs=>lN ?_);have hsr:=hs;have hup:UpM [] zn zo zn zo:=UpM.refl hs.g;refine cR 8 [] mixed hs al_nil (eV 0 89 (pB b) (eV 1 90 (qP b1 8) (eOU 2 91 [3,4,8] [(0,8,1)] (qS A ps.length c) hs (eX 3 92 A ps.length c 9 1 1 ((hs.f.2.1).ok oM) (eH 4 93 (pX (ps.getD 1 ptm0)) hs ((hs.f.2.1).el 1 oM) (eOU 5 94 [6,7,8] [(0,0,9)] (pW op n q s A ps.length c) hs (eCh 6 95 hs hup (fun _ _ hs=>tRank ⟨op,n,q,s,A,ps.length,c⟩ _ _ hs.g) ?_)))))));rintro _ _ _ _ _ hup hs rfl;refine eI 7 96 ((rkT op)+1) (eD0h hs hup (fun _ _ hup hs=>?_));obtain ⟨_,hs,hbs⟩:=hbs.back hsr hup;exact tWb 8 97 hs hbs hzK ⟨⟨hnb_b1,rfl⟩,trivial⟩ (ih K b ((bs++(wrT d (ks.getD 0 tm0) (rkT op)))++((sgT op).data.toList)) (ps.getD 1 ptm0) (ks.getD 1 tm0) ((rkT op)+1) _ _ hs.g hbs.hK hbs.j8 hbs.ib ((hs.f.1).at_ 1 oM) (hW 1 oM) (by first|omega|(simp only[List.length_append];omega))) (fun _ _ hs hbs=>tD (hs.retB hbs [] (by rw[hwr];try simp only[List.append_assoc])))
  have phb8:=eq_of_beq hb8;refine lB 66 hb8 (lL hs [.m 65 66] (lNIT ?_));have hwr:wrM (wrT d) (.mk op n q s ks)=s.data.toList:=by simp only[wrM];repeat first|rw[if_pos oM]|rw[if_neg oM]
  have hl_:=hlen;rw[hwr] at hl_
  try simp only[List.length_append] at hl_
  exact kQ (lL hs [.m 67 0,.v 68 (qP b1 7),.o 69 (.string s) 0 7 1] (lWb 70 hs hbs hzK ⟨⟨hnb_b1,rfl⟩,trivial⟩ (sWS K b bs s _ hbs.ib hbs.hK (by first|omega|(simp only[List.length_append];omega))) (fun _ _ hs hbs=>lD (hs.retB hbs [] (by rw[hwr];try simp only[List.append_assoc])))))
 have phb7:=eq_of_beq hb7;refine lB 47 hb7 (lL hs [.m 46 47] (lNIT ?_));obtain ⟨k,hk9,hqk⟩:=hq1 oM;have hlq:LQ 100000000 q:=by rw[hqk];exact (LQ.int (z:=(k:Int)) oM oM).mono oM
 have hsg:0≤q.num.sign:=by rw[hqk];rw[Rat.num_natCast];cases k<;>simp[Int.sign]
 have hwr:wrM (wrT d) (.mk op n q s ks)=(nbT k).data.toList:=by simp only[wrM];rw[if_pos (show op=1 by omega),hqk];rfl
 have hl_:=hlen;rw[hwr] at hl_
 try simp only[List.length_append] at hl_
 refine cSLlL hs [.v 48 (qP b1 2),.o 49 (qv q) 0 2 5] (lCb 50 hs hbs ((by have q_:=qTextK k hk9 _ _ hs.g;rw[←hqk] at q_;exact q_)) ?_);rintro _ _ _ _ hs hbs rfl;refine lL hs [.m 6 50] (lNcQ (cSLlL hs [.v 51 (qP b1 2),.o 52 (qv q) 0 2 5] (lCb 53 hs hbs (fSign q hlq _ _ hs.g) ?_)));rintro _ _ _ _ hs hbs rfl;have zr:(decide ((q.num.sign:Int)<(0:Int)))=false:=decide_eq_false oM;refine lB 54 zr (lL hs [.m 55 54,.m 56 6] (lCb 57 hs hbs (sContains0 k hk9 _ _ hs.g) ?_));rintro _ _ _ _ hs hbs rfl;exact lL hs [.v 58 qF] (lNIF (cK (kQ (lL hs [.m 62 0,.m 63 6] (lWb 64 hs hbs hzK ⟨⟨hnb_b1,rfl⟩,trivial⟩ (sWS K b bs (nbT k) _ hbs.ib hbs.hK (by first|omega|(simp only[List.length_append];omega))) (fun _ _ hs hbs=>lD (hs.retB hbs [] (by rw[hwr];try simp only[List.append_assoc]))))))))
theorem tWriteB (d:Nat)(K b:Nat)(bs:List UInt8)(op n:Int)(q:Rat)(s:ByteArray)(A:Option Addr)(c:Nat)(ps:List PTm)(ks:List Tm)(hc:ps.length≤c)(hB:∀ (bs:List UInt8) (w:World) (h:Hp),G w h→K≤w.heap.size→J8 5 K b h→Lib.IsBuilderF 112 5 K b (Lib.byteCells (bs)) w→SlO 9 ptc ptm0 h A ps→Tms d h ps ks→bs.length+(wrM (wrT d) (.mk op n q s ks)).length≤100000000000→Calls Tryz.prog 55 #[pB b,ptv ⟨op,n,q,s,A,ps.length,c⟩,iV 0] w (RetB 112 5 K b (.tuple #[]) bs (wrM (wrT d) (.mk op n q s ks)) w))(least:Int)(hle:rkT op<least)(hlen:bs.length+((⟨#[40]⟩:ByteArray).data.toList++wrM (wrT d) (.mk op n q s ks)++(⟨#[41]⟩:ByteArray).data.toList).length≤100000000000)(w:World)(h:Hp)(g:G w h)(hKb:K≤w.heap.size)(hj8:J8 5 K b h)(hib:Lib.IsBuilderF 112 5 K b (Lib.byteCells (bs)) w)(hA:SlO 9 ptc ptm0 h A ps)(hT:Tms d h ps ks):Calls Tryz.prog 55 #[pB b,pW op n q s A ps.length c,iV least] w (RetB 112 5 K b (.tuple #[]) bs ((⟨#[40]⟩:ByteArray).data.toList++wrM (wrT d) (.mk op n q s ks)++(⟨#[41]⟩:ByteArray).data.toList) w):=by
 obtain ⟨wz,hz0_,hs,hzK⟩:=SS.atKb g hKb;have hbs:=BSt.start hKb hj8 hib;have hln:=hT.len;have hac:=ari_cases op;have hrk:=rk_cases op;replace hs:=((hs.aS hA).add (K:=fun h_=>Tms d h_ ps ks) hT);have hl_:=hlen
 simp only[List.length_append] at hl_
 refine go Tryz.func55 [(0,pB b),(1,pW op n q s A ps.length c),(2,iV least)] rfl (cSL (lAb 4 43 (pG op n q s A ps.length c) hs hbs (fun b1 w2 h3 hnb_b1 hs hbs=>lNcQ (cSLlL hs [.o 9 (pW op n q s A ps.length c) 0 0 9] (lCb 10 hs hbs (tRank ⟨op,n,q,s,A,ps.length,c⟩ _ _ hs.g) ?_)))));rintro _ w4 h5 _ hs hbs rfl;refine lL hs [.m 11 2] ?_;have hb6:(decide ((rkT op:Int)<(least:Int)))=true:=decide_eq_true oM;exact lB 12 hb6 (lNIT (cSLlL hs [.m 13 0] (lWb 14 hs hbs hzK ⟨⟨hnb_b1,rfl⟩,trivial⟩ (sWS K b bs (⟨#[40]⟩) _ hbs.ib hbs.hK (by first|omega|(simp only[List.length_append];omega))) (fun w7 h8 hs hbs=>lNS (lL hs [.m 15 0,.o 16 (pW op n q s A ps.length c) 0 0 9] (lWb 17 hs hbs hzK ⟨⟨hnb_b1,rfl⟩,trivial⟩ (hB (bs++((⟨#[40]⟩:ByteArray).data.toList)) _ _ hs.g hbs.hK hbs.j8 hbs.ib hs.f.2.1 hs.f.1 (by first|omega|(simp only[List.length_append];omega))) (fun w9 _ hs hbs=>lNS (lL hs [.m 18 0] (lWb 19 hs hbs hzK ⟨⟨hnb_b1,rfl⟩,trivial⟩ (sWS K b ((bs++((⟨#[40]⟩:ByteArray).data.toList))++(wrM (wrT d) (.mk op n q s ks))) (⟨#[41]⟩) _ hbs.ib hbs.hK (by first|omega|(simp only[List.length_append];omega))) (fun _ _ hs hbs=>lN (kX (hs.retB hbs [] (by simp only[List.append_assoc])))))))))))))
theorem wrT_b {d:Nat}{t:Tm}{l:Int}(h:rkT t.op<l):wrT (d+1) t l=(⟨#[40]⟩:ByteArray).data.toList++wrM (wrT d) t++(⟨#[41]⟩:ByteArray).data.toList:=if_pos h
theorem wrT_a {d:Nat}{t:Tm}{l:Int}(h:l≤rkT t.op):wrT (d+1) t l=wrM (wrT d) t:=if_neg oM
theorem tWrite:∀ d:Nat,∀ (K b:Nat) (bs:List UInt8) (p:PTm) (t:Tm) (least:Int) (w:World) (h:Hp),G w h→K≤w.heap.size→J8 5 K b h→Lib.IsBuilderF 112 5 K b (Lib.byteCells (bs)) w→TmH d h p t→TxK d t→bs.length+(wrT d t least).length≤100000000000→Calls Tryz.prog 55 #[pB b,ptv p,iV least] w (RetB 112 5 K b (.tuple #[]) bs (wrT d t least) w)
  | 0,_,_,_,_,_,_,_,_,_,_,_,_,x,_,_=>x.elim
  | d + 1,K,b,bs,p,t,least,w,h,g,hK,j8,ib,x,tx,hl=>by
    obtain ⟨op,n,q,s,A,c,ps,ks,rfl,rfl,hc,hA,hT⟩:=x.open;obtain ⟨t1,t2,t3,t4,t5⟩:=tx;have A0:=fun (bs:List UInt8) (least:Int) (hle:least≤rkT op) (w:World) (h:Hp) (g:G w h) (hK:K≤w.heap.size) (j8:J8 5 K b h) (ib:Lib.IsBuilderF 112 5 K b (Lib.byteCells (bs)) w) (hA:SlO 9 ptc ptm0 h A ps) (hT:Tms d h ps ks) (hl:bs.length+(wrM (wrT d) (.mk op n q s ks)).length≤100000000000)=>tWriteA d K b bs (tWrite d) op n q s A c ps ks hc t1 t2 t3 t4 t5 least hle hl w h g hK j8 ib hA hT
    by_cases hr:rkT op<least
    · rw[wrT_b (t:=(.mk op n q s ks)) hr] at hl ⊢
      exact tWriteB d K b bs op n q s A c ps ks hc (fun bs w h g hK j8 ib hA hT hl=>A0 bs 0 (by have:=rk_cases op;omega) w h g hK j8 ib hA hT hl) least hr hl w h g hK j8 ib hA hT
    · rw[wrT_a (t:=(.mk op n q s ks)) (by show least≤rkT op;omega)] at hl ⊢
      exact A0 bs least oM w h g hK j8 ib hA hT hl
theorem tText (d:Nat)(hd:d≤24)(p:PTm)(t:Tm)(hW:WfT (fun s=>isNm s=true) d t)(hw:wgt d t≤1000)(hTx:TxK d t)(hl:(wrT d t 0).length≤100000000000)(w:World)(h:Hp)(g:G w h)(hT:TmH d h p t):CV 28 #[pX p] w h (.tuple #[.string ⟨(wrT d t 0).toArray⟩,iV 0]):=by
 have hs:=((sS g).add (K:=fun h_=>TmH d h_ p t) hT);refine go Tryz.func28 [(0,pX p)] rfl (cSL (lA 1 43 (pC p) hs (fun b1 w2 h3 hs=>lL hs [.v 2 (eS),.v 3 (iV 0)] (lNcQ (cSLlL hs [.o 5 (pX p) 0 0 9] (lCval 6 hs ((by have q_:=tChkT isNm smw hIsN (fun s h_=>nm_smw h_) smw0 d p t hd _ _ hs.g hs.f.1 hW;rw[if_neg oM] at q_;exact q_)) (fun w4 h5 hs=>lL hs [.v 7 qF] (lNIF (cK (cSL ?_))))))))));have hsB:=hs;refine lBd 4 112 [.pointer none,sZ] hs (fun w6 hx hxs hbk=>?_);obtain ⟨h7,hs,hj⟩:=hsB.liftJ hx
 have hj8:J8 5 w4.heap.size w4.heap.size h7:=fun c o hc e=>by
   rcases Nat.lt_or_ge c w6.heap.size with h1|h1
   · rw[hj c hc h1] at e;injection e with e;exact .inl e.symm
   · rw[Array.getElem?_eq_none (by have:=hs.g.size;omega)] at e;cases e
 have hib:Lib.IsBuilderF 112 5 w4.heap.size w4.heap.size (Lib.byteCells []) w6:=.inl ⟨nR _,_,hbk,World.ownsRowF_nil _ _ _ _,by simp[Value.ownBlock]⟩;refine lNS (lL hs [.o 8 (pX p) 0 0 9] (lBc 9 hsB hx ((tWrite d w4.heap.size w4.heap.size [] p t 0 _ _ hs.g hxs hj8 hib hs.f.1 hTx (by simpa using hl)).mono fun _ _ h_=>⟨h_.1,h_.2.1,h_.2.2.1⟩) (fun w8 h9 hs hx_ hq_=>?_)))
 clear hx
 have hx:=hx_;clear hx_;have hib2:Lib.IsBuilderF 112 5 w4.heap.size w4.heap.size (Lib.byteCells (wrT d t 0)) _:=hq_;refine lNS (lBc 10 hsB hx ((Any.Builder_String_any_f Tryz.lays169 Tryz.Builder_Extra_169 w4.heap.size w4.heap.size (wrT d t 0) _ hib2 hx.size).mono fun _ _ h_=>⟨h_.1,True.intro,h_.2.2⟩) (fun _ _ hs hx_ hq_=>?_))
 clear hx
 have hx:=hx_;clear hx_;exact lL hs [.m 2 10,.v 3 (iV 0)] (lNkXr hs [] (.tuple #[.string (⟨(wrT d t 0).toArray⟩),iV 0]) rfl)
section
variable {ok:ByteArray→Prop} {d:Nat}
theorem wf_num {q:Rat}(h:LQ 1 q):WfT ok (d+1) (tNum q):=⟨rfl,fun h=>absurd rfl h,h,fun h=>absurd (show (1:Int)=2 from h) kD,fun _=>rfl,fun _=>rfl,by show (-12:Int)≤0;decide,by show (0:Int)≤12;decide,fun i hi=>absurd hi (Nat.not_lt_zero i)⟩
theorem wf_nam {s:ByteArray}(h:ok s):WfT ok (d+1) (tNam s):=⟨rfl,fun _=>rfl,lq0 kD,fun _=>h,fun h=>absurd rfl h,fun _=>rfl,by show (-12:Int)≤0;decide,by show (0:Int)≤12;decide,fun i hi=>absurd hi (Nat.not_lt_zero i)⟩
theorem wf_pow {n:Int}{t:Tm}(x:WfT ok d t)(h1 : -12≤n)(h2:n≤12):WfT ok (d+1) (.mk 8 n 0 ⟨#[]⟩ [t]):=⟨rfl,fun _=>rfl,lq0 kD,fun h=>absurd (show (8:Int)=2 from h) kD,fun _=>rfl,fun h=>absurd rfl h,h1,h2,fun i hi=>by
  have:i=0:=by have:i<1:=hi;omega
  subst this;exact x⟩
theorem wf_two {op:Int}{t u:Tm}(x:WfT ok d t)(y:WfT ok d u)(ha:ari op=2)(h2:op≠2):WfT ok (d+1) (tTwo op t u):=⟨ha,fun _=>rfl,lq0 kD,fun h=>absurd (show op=2 from h) h2,fun _=>rfl,fun _=>rfl,by show (-12:Int)≤0;decide,by show (0:Int)≤12;decide,fun i hi=>by
  have:i=0∨i=1:=by have:i<2:=hi;omega
  rcases this with rfl|rfl
  · exact x
  · exact y⟩
end
theorem wf_t2 {s:ByteArray}(h:isNm s=true):WfT (fun s=>isNm s=true) 2 (.mk 8 2 0 ⟨#[]⟩ [tNam s]):=wf_pow (wf_nam h) kD kD
theorem wf_t3 {s:ByteArray}(h:isNm s=true):WfT (fun s=>isNm s=true) 2 (tTwo 5 (tNum ((2:Int):Rat)) (tNam s)):=wf_two (wf_num (LQ.int kD kD)) (wf_nam h) kD kD
theorem wg_t2 {s:ByteArray}:wgt 2 (.mk 8 2 0 ⟨#[]⟩ [tNam s])=2:=rfl
theorem wg_t3 {s:ByteArray}:wgt 2 (tTwo 5 (tNum ((2:Int):Rat)) (tNam s))=2:=rfl
theorem d_tm {h:Hp}{b:Nat}{s:ByteArray}{Ax:Option Addr}{cx:Nat}(hA:SlO 9 ptc ptm0 h (some ⟨b,0,none⟩) [(⟨1,0,((2:Int):Rat),⟨#[]⟩,none,0,0⟩:PTm),(⟨2,0,0,s,Ax,0,cx⟩:PTm)]):TmH 2 h (⟨5,0,0,⟨#[]⟩,some ⟨b,0,none⟩,2,2⟩:PTm) (tTwo 5 (tNum ((2:Int):Rat)) (tNam s)) :=
  TmH.mk (ps:=[(⟨1,0,((2:Int):Rat),⟨#[]⟩,none,0,0⟩:PTm),(⟨2,0,0,s,Ax,0,cx⟩:PTm)]) (ks:=[_,_]) ⟨rfl,fun i hi=>by
    have:i=0∨i=1:=by have:i<2:=hi;omega
    rcases this with rfl|rfl
    · exact TmH.mk (ps:=[]) (ks:=[]) Tms.nil (Nat.le_refl _) SlO.nil
    · exact ⟨rfl,rfl,rfl,rfl,rfl,Nat.zero_le _,[],rfl,⟨fun hp=>absurd hp (Nat.lt_irrefl 0),fun i hi=>absurd hi (Nat.not_lt_zero i)⟩,fun i hi=>absurd hi (Nat.not_lt_zero i)⟩⟩ (Nat.le_refl _) hA
theorem pow_open {h:Hp}{p:PTm}{s:ByteArray}(x:TmH 2 h p (.mk 8 2 0 ⟨#[]⟩ [tNam s])):∃ (A:Option Addr) (c:Nat) (Ax:Option Addr) (cx:Nat),p=⟨8,2,0,⟨#[]⟩,A,1,c⟩∧SlO 9 ptc ptm0 h A [(⟨2,0,0,s,Ax,0,cx⟩:PTm)]:=by
  obtain ⟨h1,h2,h3,h4,h5,h6,ps,h7,h8,h9⟩:=x;obtain ⟨op,n,q,s',A,m,c⟩:=p;have k:=h9 0 (by show 0<1;decide)
  match ps,h7,h8,k with
  | [px],_,h8,k =>
    obtain ⟨k1,k2,k3,k4,k5,_⟩:=k;obtain ⟨op',n',q',s2,A',m',c'⟩:=px;refine ⟨A,c,A',c',?_,?_⟩
    · have e1:op=8:=h1
      have e2:n=2:=h2;have e3:q=0:=h3;have e4:s'=⟨#[]⟩:=h4;have e5:m=1:=h5;rw[e1,e2,e3,e4,e5]
    · have e1:op'=2:=k1
      have e2:n'=0:=k2;have e3:q'=0:=k3;have e4:s2=s:=k4;have e5:m'=0:=k5;rw[e1,e2,e3,e4,e5] at h8;exact h8
theorem tRuleS (s:ByteArray)(hs0:isNm s=true)(Ax:Option Addr)(cx:Nat)(A:Option Addr)(c:Nat)(w:World)(h:Hp)(g:G w h)(hA:SlO 9 ptc ptm0 h A ([(⟨2,0,0,s,Ax,0,cx⟩:PTm)]:List PTm))(hT:TmH 2 h ⟨8,2,0,⟨#[]⟩,A,1,c⟩ (.mk 8 2 0 ⟨#[]⟩ [tNam s])):CR 29 #[.agg #[iV 8,iV 2,.bool false,uV 0,eS,uV 0,eS,eS,.slice A 1 c],.string s] w h (fun v h1=>∃ p2,v=.tuple #[ptv p2,iV 0]∧TmH 2 h1 p2 (tTwo 5 (tNum ((2:Int):Rat)) (tNam s))):=by
 have hs:=(((sS g).aS hA).add (K:=fun h_=>TmH 2 h_ ⟨8,2,0,⟨#[]⟩,A,1,c⟩ (.mk 8 2 0 ⟨#[]⟩ [tNam s])) hT);refine go Tryz.func29 [(0,.agg #[iV 8,iV 2,qF,uV 0,eS,uV 0,eS,eS,qS A 1 c]),(1,.string s)] rfl (cSL (lA 2 43 ([iV 8,iV 2,qF,uV 0,eS,uV 0,eS,eS,qS A 1 c]) hs (fun b1 w2 h3 hs=>lA 4 43 ([iV 0,iV 0,qF,uV 0,eS,uV 0,eS,eS,sZ]) hs (fun b4 w5 h6 hs=>lL hs [.v 5 (iV 0)] (lNcQ (cSLlL hs [.o 9 (.agg #[iV 8,iV 2,qF,uV 0,eS,uV 0,eS,eS,qS A 1 c]) 1 0 9] (lCval 10 hs ((by have q_:=tChkT isNm smw hIsN (fun s h_=>nm_smw h_) smw0 2 ⟨8,2,0,⟨#[]⟩,A,1,c⟩ (.mk 8 2 0 ⟨#[]⟩ [tNam s]) oM _ _ hs.g hs.f.1 (wf_t2 hs0);rw[if_neg (by rw[wg_t2];omega)] at q_;exact q_)) (fun w7 h8 hs=>lL hs [.v 11 qF] (lNIF (cK (cSLlL hs [.o 14 (.agg #[iV 8,iV 2,qF,uV 0,eS,uV 0,eS,eS,qS A 1 c]) 1 0 9,.m 15 1] (lC 16 hs (tSlopeP s Ax cx A c _ _ hs.g hs.f.2.1) ?_))))))))))));rintro _ w9 _ hs ⟨b0,bd,rfl,hAd⟩;replace hs:=hs.aS hAd;refine lL hs [.m 13 16,.v 17 (pX (⟨8,2,0,⟨#[]⟩,sB b0,1,1⟩:PTm)),.v 18 (pX (⟨5,0,0,⟨#[]⟩,sB bd,2,2⟩:PTm))] (lA 6 43 ([iV 0,iV 0,qF,uV 0,eS,uV 0,eS,eS,sZ]) hs (fun b11 _ _ hs=>lA 7 43 ([iV 0,iV 0,qF,uV 0,eS,uV 0,eS,eS,sZ]) hs (fun b14 _ _ hs=>lP 1 0 (pC (⟨8,2,0,⟨#[]⟩,sB b0,1,1⟩:PTm)) hs (fun _ hs=>lP 0 0 (pC (⟨5,0,0,⟨#[]⟩,sB bd,2,2⟩:PTm)) hs (fun _ hs=>lNcQ ?_)))));replace hs:=hs.add (K:=fun h_=>TmH 2 h_ (⟨5,0,0,⟨#[]⟩,sB bd,2,2⟩:PTm) (tTwo 5 (tNum ((2:Int):Rat)) (tNam s))) (d_tm hs.f.1);refine cSLlL hs [.o 19 (pX (⟨5,0,0,⟨#[]⟩,sB bd,2,2⟩:PTm)) 0 0 9] (lCval 20 hs ((by have q_:=tChkT isNm smw hIsN (fun s h_=>nm_smw h_) smw0 2 (⟨5,0,0,⟨#[]⟩,sB bd,2,2⟩:PTm) (tTwo 5 (tNum ((2:Int):Rat)) (tNam s)) oM _ _ hs.g hs.f.1 (wf_t3 hs0);rw[if_neg (by rw[wg_t3];omega)] at q_;exact q_)) (fun _ _ hs=>lL hs [.m 8 20] (lNS (lL hs [.m 21 8,.v 22 qF] (lNIF (cK (cSLlL hs [.o 25 (pX (⟨5,0,0,⟨#[]⟩,sB bd,2,2⟩:PTm)) 0 0 9] (lC 26 hs (tClone2 (fun s=>isNm s=true) 2 (⟨5,0,0,⟨#[]⟩,sB bd,2,2⟩:PTm) (tTwo 5 (tNum ((2:Int):Rat)) (tNam s)) _ _ hs.g hs.f.1 (wf_t3 hs0)) ?_))))))));rintro _ _ _ hs ⟨p2,rfl,hP2⟩;replace hs:=(hs.add (K:=fun h_=>TmH 2 h_ p2 (tTwo 5 (tNum ((2:Int):Rat)) (tNam s))) hP2);exact lP 2 0 (pC p2) hs (fun _ hs=>lL hs [.v 5 (iV 0)] (lNkXr hs [(2,0,9)] (.tuple #[pX p2,iV 0]) (⟨p2,rfl,hs.f.1⟩)))
theorem tRule2 (s:ByteArray)(hs0:isNm s=true)(p:PTm)(w:World)(h:Hp)(g:G w h)(hT:TmH 2 h p (.mk 8 2 0 ⟨#[]⟩ [tNam s])):CR 29 #[ptv p,.string s] w h (fun v h1=>∃ p2,v=.tuple #[ptv p2,iV 0]∧TmH 2 h1 p2 (tTwo 5 (tNum ((2:Int):Rat)) (tNam s))):=by
  obtain ⟨A,c,Ax,cx,rfl,hA⟩:=pow_open hT;exact tRuleS s hs0 Ax cx A c w h g hA hT
def k26T1:Tm:=(tTwo 5 (tNam ⟨#[97]⟩) (.mk 8 2 0 ⟨#[]⟩ [tTwo 3 (tNam ⟨#[98]⟩) (tNum (((1:Nat):Rat)))]))
theorem k26p1:prs nfS (fun _=>none) ⟨#[97,42,40,98,43,49,41,94,50]⟩ 40 .sum 0=some (.ok k26T1 9):=by kernel_rfl
theorem k26p2:prs nfS (fun _=>none) ⟨#[120,94,50]⟩ 40 .sum 0=some (.ok (.mk 8 2 0 ⟨#[]⟩ [tNam ⟨#[120]⟩]) 3):=by kernel_rfl
theorem k26x:isNm ⟨#[120]⟩=true:=by decide +kernel
theorem wf_t1:WfT (fun s=>isNm s=true) 4 k26T1:=wf_two (wf_nam (by decide +kernel)) (wf_pow (wf_two (wf_nam (by decide +kernel)) (wf_num (LQ.int (z:=1) kD kD)) kD kD) kD kD) kD kD
theorem wg_t1:wgt 4 k26T1=5:=rfl
theorem k26w1:wrT 4 k26T1 0=[97,32,42,32,40,98,32,43,32,49,41,94,50]:=by decide +kernel
theorem k26w2:wrT 2 (tTwo 5 (tNum ((2:Int):Rat)) (tNam ⟨#[120]⟩)) 0=[50,32,42,32,120]:=by decide +kernel
section
variable {d:Nat}
theorem tx_num {k:Nat}(h:k<100):TxK (d+1) (tNum ((k:Nat):Rat)):=⟨rfl,⟨by decide,by decide⟩,fun _=>⟨k,h,rfl⟩,⟨by decide,by decide⟩,fun i hi=>absurd hi (Nat.not_lt_zero i)⟩
theorem tx_nam {s:ByteArray}:TxK (d+1) (tNam s):=⟨rfl,⟨by decide,by decide⟩,fun h=>absurd h kD,⟨by decide,by decide⟩,fun i hi=>absurd hi (Nat.not_lt_zero i)⟩
theorem tx_pow {n:Int}{t:Tm}(h:0≤n∧n<100)(x:TxK d t):TxK (d+1) (.mk 8 n 0 ⟨#[]⟩ [t]):=⟨rfl,⟨by decide,by decide⟩,fun h=>absurd h kD,h,fun i hi=>by
  have:i=0:=by have:i<1:=hi;omega
  subst this;exact x⟩
theorem tx_two {op:Int}{t u:Tm}(ho:1<op∧op≤8)(ha:ari op=2)(x:TxK d t)(y:TxK d u):TxK (d+1) (tTwo op t u):=⟨ha,⟨by omega,ho.2⟩,fun h=>by omega,⟨by decide,by decide⟩,fun i hi=>by
  have:i=0∨i=1:=by have:i<2:=hi;omega
  rcases this with rfl|rfl
  · exact x
  · exact y⟩
end
theorem tx_t1:TxK 4 k26T1:=tx_two kD kD tx_nam (tx_pow kD (tx_two kD kD tx_nam (tx_num kD)))
theorem tx_t3:TxK 2 (tTwo 5 (tNum ((2:Int):Rat)) (tNam ⟨#[120]⟩)):=tx_two kD kD (tx_num (k:=2) kD) tx_nam
theorem lKnown26  (w:World)(h:Hp)(g:G w h):CV 9 #[] w h (.bool true):=by
 have hs:=sS g;refine go Tryz.func9 [] rfl (cSLlL hs [.v 0 qF] (lNS (lC 12 hs (tParse ⟨#[97,42,40,98,43,49,41,94,50]⟩ kD 40 k26T1 9 k26p1 kD 4 kD wf_t1 (by rw[wg_t1];decide) _ _ hs.g) ?_)));rintro _ w1 h2 hs ⟨pk,rfl,hP1⟩;replace hs:=(hs.add (K:=fun h_=>TmH 4 h_ pk k26T1) hP1);refine lL hs [.m 11 12,.v 13 (pX pk),.v 14 (.agg #[iV 0,iV 0,iV 0])] (lA 1 43 ([iV 0,iV 0,qF,uV 0,eS,uV 0,eS,eS,sZ]) hs (fun b3 w4 h5 hs=>lA 2 73 ([iV 0,iV 0,iV 0]) hs (fun b6 w7 h8 hs=>lP 1 0 (pC pk) hs (fun w9 hs=>lP 0 0 ([iV 0,iV 0,iV 0]) hs (fun _ hs=>lNS (lL hs [.o 16 (pX pk) 1 0 9] (lCval 17 hs ((by have q_:=tText 4 kD pk k26T1 wf_t1 (by rw[wg_t1];decide) tx_t1 (by rw[k26w1];decide) _ _ hs.g (hs.f.1);rw[k26w1] at q_;exact q_)) (fun _ _ hs=>lL hs [.m 15 17,.v 18 (.string (⟨#[97,32,42,32,40,98,32,43,32,49,41,94,50]⟩)),.v 19 (iV 0),.m 3 18,.m 4 19] (lNS (lC 21 hs (tParse ⟨#[120,94,50]⟩ kD 40 (.mk 8 2 0 ⟨#[]⟩ [tNam ⟨#[120]⟩]) 3 k26p2 kD 2 kD (wf_t2 k26x) (by rw[wg_t2];decide) _ _ hs.g) ?_))))))))));rintro _ _ _ hs ⟨px,rfl,hP2⟩;replace hs:=(hs.add (K:=fun h_=>TmH 2 h_ px (.mk 8 2 0 ⟨#[]⟩ [tNam ⟨#[120]⟩])) hP2);refine lL hs [.m 20 21,.v 22 (pX px),.v 23 (.agg #[iV 0,iV 0,iV 0])] (lA 5 43 ([iV 0,iV 0,qF,uV 0,eS,uV 0,eS,eS,sZ]) hs (fun b15 _ _ hs=>lA 6 73 ([iV 0,iV 0,iV 0]) hs (fun b18 _ _ hs=>lP 1 0 (pC px) hs (fun _ hs=>lP 0 0 ([iV 0,iV 0,iV 0]) hs (fun _ hs=>lNS (lL hs [.o 25 (pX px) 1 0 9] (lC 26 hs (tRule2 ⟨#[120]⟩ k26x px _ _ hs.g hs.f.1) ?_)))))));rintro _ _ _ hs ⟨pr,rfl,hP3⟩;replace hs:=(hs.add (K:=fun h_=>TmH 2 h_ pr (tTwo 5 (tNum ((2:Int):Rat)) (tNam ⟨#[120]⟩))) hP3);refine lL hs [.m 24 26,.v 27 (pX pr),.v 28 (iV 0)] (lA 7 43 ([iV 0,iV 0,qF,uV 0,eS,uV 0,eS,eS,sZ]) hs (fun b25 _ _ hs=>lP 0 0 (pC pr) hs (fun _ hs=>lL hs [.m 8 28] (lNS (lL hs [.o 30 (pX pr) 0 0 9] (lCval 31 hs ((by have q_:=tText 2 kD pr (tTwo 5 (tNum ((2:Int):Rat)) (tNam ⟨#[120]⟩)) (wf_t3 k26x) (by rw[wg_t3];decide) tx_t3 (by rw[k26w2];decide) _ _ hs.g (hs.f.1);rw[k26w2] at q_;exact q_)) (fun _ _ hs=>lL hs [.m 29 31,.v 32 (.string (⟨#[50,32,42,32,120]⟩)),.v 33 (iV 0),.m 9 32,.m 10 33] (lNS (lL hs [.v 34 (pB b6),.o 35 (iV 0) 3 0 1,.v 36 qT,.m 37 36,.m 38 4,.v 39 qT,.v 40 qT,.m 41 40,.m 42 3,.v 43 qT,.v 44 qT,.m 45 44,.m 46 8,.v 47 qT,.v 48 qT,.m 49 48,.m 50 10,.v 51 qT,.v 52 qT,.m 53 52,.m 54 9,.v 55 qT,.v 56 qT,.m 0 56] (lN (cTo [(0,qT)] ?_)))))))))));exact kX (hs.ret [] qT rfl)
instance (s:ByteArray) (ns:List ByteArray):Decidable (s∈ns):=@List.instDecidableMemOfLawfulBEq ByteArray instBEqOfDecidableEq inferInstance s ns
structure LaidO (pl:ByteArray→Int) (d:Nat) (h:Hp) (rl:List RSt) (ss:List OSt) (l:List Stp):Prop where
  rs:RSs h rl ss
  mp:ss.map OSt.stp=l
  sm:OSms ss
section
variable {pl:ByteArray→Int} {d k:Nat} {l:List Stp} {ks:List Tm} {za zb:Int}
end
theorem rOfT (b:Bool)(zA:Option Addr)(zn zc:Nat)(dA:Option Addr)(dn dc:Nat)(w:World)(h:Hp)(g:G w h):CV 39 #[.agg #[.bool b,.slice zA zn zc,.slice dA dn dc]] w h (rmv ⟨1,0,b,zA,zn,zc,dA,dn,dc,⟨#[]⟩,none,0,0⟩):=by
 have hs:=sS g;exact go Tryz.func39 [(0,.agg #[.bool b,qS zA zn zc,qS dA dn dc])] rfl (cSL (lA 1 28 ([.bool b,qS zA zn zc,qS dA dn dc]) hs (fun b1 w2 h3 hs=>lA 2 31 ([iV 0,iV 0,qF,sZ,sZ,eS,sZ]) hs (fun b4 w5 h6 hs=>lNS (lL hs [.o 3 (.agg #[.bool b,qS zA zn zc,qS dA dn dc]) 1 0 3,.v 4 (.agg #[iV 1,iV 0,.bool b,qS zA zn zc,qS dA dn dc,eS,sZ])] (lP 0 0 ([iV 1,iV 0,.bool b,qS zA zn zc,qS dA dn dc,eS,sZ]) hs (fun w7 hs=>lNkXr hs [(0,0,7)] (.agg #[iV 1,iV 0,.bool b,qS zA zn zc,qS dA dn dc,eS,sZ]) rfl)))))))
theorem rTwoT (op:Int)(ra rb:RTm)(w:World)(h:Hp)(g:G w h):CR 43 #[iV op,.agg #[iV ra.op,iV ra.n,.bool ra.neg,.slice ra.zA ra.zn ra.zc,.slice ra.dA ra.dn ra.dc,.string ra.s,.slice ra.A ra.m ra.c],.agg #[iV rb.op,iV rb.n,.bool rb.neg,.slice rb.zA rb.zn rb.zc,.slice rb.dA rb.dn rb.dc,.string rb.s,.slice rb.A rb.m rb.c]] w h (fun v h1=>∃ b,v=rmv ⟨op,0,false,none,0,0,none,0,0,⟨#[]⟩,sB b,2,2⟩∧SlO 7 rmc rtm0 h1 (sB b) [ra,rb]):=by
 have hs:=sS g;refine go Tryz.func43 [(0,iV op),(1,.agg #[iV ra.op,iV ra.n,.bool ra.neg,qS ra.zA ra.zn ra.zc,qS ra.dA ra.dn ra.dc,.string ra.s,qS ra.A ra.m ra.c]),(2,.agg #[iV rb.op,iV rb.n,.bool rb.neg,qS rb.zA rb.zn rb.zc,qS rb.dA rb.dn rb.dc,.string rb.s,qS rb.A rb.m rb.c])] rfl (cSL (lA 4 31 ([iV ra.op,iV ra.n,.bool ra.neg,qS ra.zA ra.zn ra.zc,qS ra.dA ra.dn ra.dc,.string ra.s,qS ra.A ra.m ra.c]) hs (fun b1 w2 h3 hs=>lA 5 31 ([iV rb.op,iV rb.n,.bool rb.neg,qS rb.zA rb.zn rb.zc,qS rb.dA rb.dn rb.dc,.string rb.s,qS rb.A rb.m rb.c]) hs (fun b4 w5 h6 hs=>lA 6 31 ([iV 0,iV 0,qF,sZ,sZ,eS,sZ]) hs (fun b7 w8 h9 hs=>lNS (lL hs [.m 7 0,.o 8 (.agg #[iV ra.op,iV ra.n,.bool ra.neg,qS ra.zA ra.zn ra.zc,qS ra.dA ra.dn ra.dc,.string ra.s,qS ra.A ra.m ra.c]) 2 0 7,.o 9 (.agg #[iV rb.op,iV rb.n,.bool rb.neg,qS rb.zA rb.zn rb.zc,qS rb.dA rb.dn rb.dc,.string rb.s,qS rb.A rb.m rb.c]) 1 0 7] (lR 10 31 2 ([iV ra.op,iV ra.n,.bool ra.neg,qS ra.zA ra.zn ra.zc,qS ra.dA ra.dn ra.dc,.string ra.s,qS ra.A ra.m ra.c,iV rb.op,iV rb.n,.bool rb.neg,qS rb.zA rb.zn rb.zc,qS rb.dA rb.dn rb.dc,.string rb.s,qS rb.A rb.m rb.c]) hs (fun za _ _ hs=>?_))))))));replace hs:=hs.aS (SlO.of_flat (sz:=7) (f:=rmc) (d:=rtm0) (b:=za) (o:=0) (l:=([(⟨ra.op,ra.n,ra.neg,ra.zA,ra.zn,ra.zc,ra.dA,ra.dn,ra.dc,ra.s,ra.A,ra.m,ra.c⟩:RTm),(⟨rb.op,rb.n,rb.neg,rb.zA,rb.zn,rb.zc,rb.dA,rb.dn,rb.dc,rb.s,rb.A,rb.m,rb.c⟩:RTm)]:List RTm)) (fun _=>rfl) hs.f.1);exact lL hs [.v 11 (.agg #[iV op,iV 0,qF,sZ,sZ,eS,qS (sB za) 2 2])] (lP 0 0 ([iV op,iV 0,qF,sZ,sZ,eS,qS (sB za) 2 2]) hs (fun _ hs=>lNkXr hs [(0,0,7)] (.agg #[iV op,iV 0,qF,sZ,sZ,eS,qS (sB za) 2 2]) (⟨_,rfl,hs.f.1⟩)))
section
variable {nm:Int→ByteArray} {l:List Stp} {inp:Int} {h:Hp} {k:Nat} {dp:Nat→Nat}
variable (hdp:DpS dp l) (hF:∀ k,k<l.length→Formed inp k (l.getD k stp0))
include hdp hF
end
section
variable {okb amb:Nat→Bool} {n i:Nat}
end
theorem tIsW:∀ s,smw s→∀ (w:World) (h:Hp),G w h→Calls Tryz.prog 61 #[.string s] w (Ret w h (fun v _=>∃ b,v=.bool b∧b=isNm s)):=fun s hs w h g =>
  (tIsA s (by unfold smw at hs;omega) w h g).mono fun e w' ⟨v,h',e1,u,e2⟩=>⟨v,h',e1,u,_,e2,rfl⟩
theorem rIsW:∀ s,smw s→∀ (w:World) (h:Hp),G w h→Calls Tryz.prog 64 #[.string s] w (Ret w h (fun v _=>∃ b,v=.bool b∧b=isNm s)):=fun s hs w h g =>
  (rIsA s (by unfold smw at hs;omega) w h g).mono fun e w' ⟨v,h',e1,u,e2⟩=>⟨v,h',e1,u,_,e2,rfl⟩
theorem mNames  (w:World)(h:Hp)(g:G w h):CR 42 #[] w h (fun v h1=>∃ b,v=.slice (sB b) 3 3∧SlO 1 strc ⟨#[]⟩ h1 (sB b) ([⟨#[120]⟩,⟨#[121]⟩,⟨#[122]⟩]:List ByteArray)):=by
 have hs:=sS g;refine go Tryz.func42 [] rfl (cSLlL hs [.v 0 (sZ)] (lNS (lR 1 9 3 ([.string (⟨#[120]⟩),.string (⟨#[121]⟩),.string (⟨#[122]⟩)]) hs (fun b1 w2 h3 hs=>?_))));replace hs:=hs.aS (SlO.of_flat (sz:=1) (f:=strc) (d:=⟨#[]⟩) (b:=b1) (o:=0) (l:=([⟨#[120]⟩,⟨#[121]⟩,⟨#[122]⟩]:List ByteArray)) (fun _=>rfl) hs.f.1);exact lL hs [.m 0 1] (lNkXr hs [] (qS (sB b1) 3 3) (⟨_,rfl,hs.f.1⟩))
theorem rOneT (op:Int)(ra:RTm)(w:World)(h:Hp)(g:G w h):CR 44 #[iV op,.agg #[iV ra.op,iV ra.n,.bool ra.neg,.slice ra.zA ra.zn ra.zc,.slice ra.dA ra.dn ra.dc,.string ra.s,.slice ra.A ra.m ra.c]] w h (fun v h1=>∃ b,v=rmv ⟨op,0,false,none,0,0,none,0,0,⟨#[]⟩,sB b,1,1⟩∧SlO 7 rmc rtm0 h1 (sB b) [ra]):=by
 have hs:=sS g;refine go Tryz.func44 [(0,iV op),(1,.agg #[iV ra.op,iV ra.n,.bool ra.neg,qS ra.zA ra.zn ra.zc,qS ra.dA ra.dn ra.dc,.string ra.s,qS ra.A ra.m ra.c])] rfl (cSL (lA 3 31 ([iV ra.op,iV ra.n,.bool ra.neg,qS ra.zA ra.zn ra.zc,qS ra.dA ra.dn ra.dc,.string ra.s,qS ra.A ra.m ra.c]) hs (fun b1 w2 h3 hs=>lA 4 31 ([iV 0,iV 0,qF,sZ,sZ,eS,sZ]) hs (fun b4 w5 h6 hs=>lNS (lL hs [.m 5 0,.o 6 (.agg #[iV ra.op,iV ra.n,.bool ra.neg,qS ra.zA ra.zn ra.zc,qS ra.dA ra.dn ra.dc,.string ra.s,qS ra.A ra.m ra.c]) 1 0 7] (lR 7 31 1 ([iV ra.op,iV ra.n,.bool ra.neg,qS ra.zA ra.zn ra.zc,qS ra.dA ra.dn ra.dc,.string ra.s,qS ra.A ra.m ra.c]) hs (fun b7 w8 h9 hs=>?_)))))));replace hs:=hs.aS (SlO.of_flat (sz:=7) (f:=rmc) (d:=rtm0) (b:=b7) (o:=0) (l:=([(⟨ra.op,ra.n,ra.neg,ra.zA,ra.zn,ra.zc,ra.dA,ra.dn,ra.dc,ra.s,ra.A,ra.m,ra.c⟩:RTm)]:List RTm)) (fun _=>rfl) hs.f.1);exact lL hs [.v 8 (.agg #[iV op,iV 0,qF,sZ,sZ,eS,qS (sB b7) 1 1])] (lP 0 0 ([iV op,iV 0,qF,sZ,sZ,eS,qS (sB b7) 1 1]) hs (fun _ hs=>lNkXr hs [(0,0,7)] (.agg #[iV op,iV 0,qF,sZ,sZ,eS,qS (sB b7) 1 1]) (⟨_,rfl,hs.f.1⟩)))
theorem rPowT (ra:RTm)(nn:Int)(w:World)(h:Hp)(g:G w h):CR 20 #[.agg #[iV ra.op,iV ra.n,.bool ra.neg,.slice ra.zA ra.zn ra.zc,.slice ra.dA ra.dn ra.dc,.string ra.s,.slice ra.A ra.m ra.c],iV nn] w h (fun v h1=>∃ b,v=rmv ⟨8,nn,false,none,0,0,none,0,0,⟨#[]⟩,sB b,1,1⟩∧SlO 7 rmc rtm0 h1 (sB b) [ra]):=by
 have hs:=sS g;refine go Tryz.func20 [(0,.agg #[iV ra.op,iV ra.n,.bool ra.neg,qS ra.zA ra.zn ra.zc,qS ra.dA ra.dn ra.dc,.string ra.s,qS ra.A ra.m ra.c]),(1,iV nn)] rfl (cSL (lA 2 31 ([iV ra.op,iV ra.n,.bool ra.neg,qS ra.zA ra.zn ra.zc,qS ra.dA ra.dn ra.dc,.string ra.s,qS ra.A ra.m ra.c]) hs (fun b1 w2 h3 hs=>lA 4 31 ([iV 0,iV 0,qF,sZ,sZ,eS,sZ]) hs (fun b4 w5 h6 hs=>lNS (lL hs [.m 5 1,.o 6 (.agg #[iV ra.op,iV ra.n,.bool ra.neg,qS ra.zA ra.zn ra.zc,qS ra.dA ra.dn ra.dc,.string ra.s,qS ra.A ra.m ra.c]) 1 0 7] (lR 7 31 1 ([iV ra.op,iV ra.n,.bool ra.neg,qS ra.zA ra.zn ra.zc,qS ra.dA ra.dn ra.dc,.string ra.s,qS ra.A ra.m ra.c]) hs (fun b7 w8 h9 hs=>?_)))))));replace hs:=hs.aS (SlO.of_flat (sz:=7) (f:=rmc) (d:=rtm0) (b:=b7) (o:=0) (l:=([(⟨ra.op,ra.n,ra.neg,ra.zA,ra.zn,ra.zc,ra.dA,ra.dn,ra.dc,ra.s,ra.A,ra.m,ra.c⟩:RTm)]:List RTm)) (fun _=>rfl) hs.f.1);exact lL hs [.v 8 (.agg #[iV 8,iV nn,qF,sZ,sZ,eS,qS (sB b7) 1 1])] (lP 0 0 ([iV 8,iV nn,qF,sZ,sZ,eS,qS (sB b7) 1 1]) hs (fun _ hs=>lNkXr hs [(0,0,7)] (.agg #[iV 8,iV nn,qF,sZ,sZ,eS,qS (sB b7) 1 1]) (⟨_,rfl,hs.f.1⟩)))
section
variable {d:Nat}
theorem rOfH (b:Bool)(zA:Option Addr)(zn zc:Nat)(dA:Option Addr)(dn dc:Nat){q:Rat}(w:World)(h:Hp)(g:G w h)(hz:RZ h (b,.slice zA zn zc,.slice dA dn dc) q):CR 39 #[.agg #[.bool b,.slice zA zn zc,.slice dA dn dc]] w h (fun v h1=>∃ r,v=rmv r∧RmH (d+1) h1 r (.mk 1 0 q ⟨#[]⟩ [])) :=
  (rOfT b zA zn zc dA dn dc w h g).mono fun e w' ⟨v,h',e1,u,e2⟩=>⟨v,h',e1,u,_,e2,rm_num (hz.gw u.gr.gw)⟩
theorem rTwoH (op:Int)(ra rb:RTm)(t u:Tm)(w:World)(h:Hp)(g:G w h)(x:RmH d h ra t)(y:RmH d h rb u):CR 43 #[iV op,rmv ra,rmv rb] w h (fun v h1=>∃ r,v=rmv r∧RmH (d+1) h1 r (.mk op 0 0 ⟨#[]⟩ [t,u])) :=
  (rTwoT op ra rb w h g).mono fun e w' ⟨v,h',e1,up,b,e2,e3⟩=>⟨v,h',e1,up,_,e2,rm_two (x.gw up.gr.gw) (y.gw up.gr.gw) e3⟩
theorem rOneH (op:Int)(ra:RTm)(t:Tm)(w:World)(h:Hp)(g:G w h)(x:RmH d h ra t):CR 44 #[iV op,rmv ra] w h (fun v h1=>∃ r,v=rmv r∧RmH (d+1) h1 r (.mk op 0 0 ⟨#[]⟩ [t])) :=
  (rOneT op ra w h g).mono fun e w' ⟨v,h',e1,up,b,e2,e3⟩=>⟨v,h',e1,up,_,e2,rm_one (x.gw up.gr.gw) e3⟩
theorem rPowH (ra:RTm)(t:Tm)(nn:Int)(w:World)(h:Hp)(g:G w h)(x:RmH d h ra t):CR 20 #[rmv ra,iV nn] w h (fun v h1=>∃ r,v=rmv r∧RmH (d+1) h1 r (.mk 8 nn 0 ⟨#[]⟩ [t])) :=
  (rPowT ra nn w h g).mono fun e w' ⟨v,h',e1,up,b,e2,e3⟩=>⟨v,h',e1,up,_,e2,rm_one (x.gw up.gr.gw) e3⟩
end
theorem mGrowS (rbk:Nat)(A:Option Addr)(cap:Nat)(zs:List Int)(hl:zs.length≤9223372036854775807)(hz:I64s zs)(dp:Nat)(hdp:dp≤1000)(ih:∀ z:Int,z+1=(dp:Nat)→0≤z→∀ at_:Nat,at_≤zs.length→∀ (w:World) (h:Hp),G w h→Own w rbk 62 [.slice A zs.length cap,nV at_]→h[rbk]?=some junk→Si A zs h→Calls Tryz.prog 21 #[pB rbk,iV z,.bool false] w (RetM rbk w h (fun v w' h'=>∃ (r:RTm) (t:Tm) (at2:Nat),v=rmv r∧at2≤zs.length∧Own w' rbk 62 [.slice A zs.length cap,nV at2]∧RmH dp h' r t∧GrT dp t)))(at_:Nat)(ha:at_≤zs.length)(w:World)(h:Hp)(g:G w h)(ho:Own w rbk 62 [.slice A zs.length cap,nV at_])(hj:h[rbk]?=some junk)(hA:Si A zs h):Calls Tryz.prog 21 #[pB rbk,nV dp,.bool false] w (RetM rbk w h (fun v w' h'=>∃ (r:RTm) (t:Tm) (at2:Nat),v=rmv r∧at2≤zs.length∧Own w' rbk 62 [.slice A zs.length cap,nV at2]∧RmH (dp+1) h' r t∧GrT (dp+1) t)):=by
 have hmo:UpM [rbk] w h w h:=UpM.refl g;obtain ⟨wz,hz0_,hs⟩:=SS.at_ g ho hj;replace hs:=hs.aS hA;refine go Tryz.func21 [(0,pB rbk),(1,nV dp),(2,qF)] rfl (cSL (lAu 6 31 ([iV 0,iV 0,qF,sZ,sZ,eS,sZ]) hs (fun b1 w2 h3 u4 hlo_b1 hs=>?_)));replace hlo_b1:=Nat.le_trans hmo.gr.size hlo_b1;replace hmo:=hmo.trans (u4.m _);refine lNS (lL hs [.m 10 0] (lCm 11 (rNext A cap zs hl hz rbk at_ oM _ _ hs.g (hs.own 1) (hs.jk 1) hs.f.1) ?_));rintro _ w6 h7 u8 ⟨z5,at_z5,rfl,haz5,hzz5,hOz5⟩;replace hs:=(hs.stepM 1 u8 hOz5).to [⟨b1,31,[iV 0,iV 0,qF,sZ,sZ,eS,sZ]⟩,⟨rbk,62,[qS A zs.length cap,nV at_z5]⟩] [];replace hmo:=hmo.trans u8;have hzz51:=hzz5.1;have hzz52:=hzz5.2;refine lCu 12 (hPick (z5) 19 oM oM _ _ hs.g) ?_;rintro _ _ zu u12 rfl;replace hmo:=hmo.trans (u12.m _);replace hs:=hs.step u12;have lp9:=pick_lt (z5) 19 oM;refine lL hs [.m 7 12] (lNcQ (cSLlL hs [.m 13 2,.m 14 13] (lG 15 ?_)));refine lG 16 ?_;refine lL hs [.v 17 qF] (lNIF (cK (cQ (kZ (CG.join (fun Γ w_=>∃ (zt:Bool) (h_:Hp),Γ=[(0,pB rbk),(1,nV dp),(2,qF),(6,pB b1),(7,nV (pick (z5) 19)),(20,.bool zt)]∧SS wz hz0_ w_ h_ [⟨b1,31,[iV 0,iV 0,qF,sZ,sZ,eS,sZ]⟩,⟨rbk,62,[qS A zs.length cap,nV at_z5]⟩] [] [Si A zs]∧(zt=true→¬(1≤dp∧2≤(pick (z5) 19)∧(pick (z5) 19)<17))∧(zt=false→(1≤dp∧2≤(pick (z5) 19)∧(pick (z5) 19)<17))∧UpM [rbk] w h w_ h_) ?_ ?_)))))
 ·
  refine kQ (lL hs [.m 21 1] ?_);cases zb:(decide ((dp:Int)<(1:Int)))
  ·
   have zw:=oF zb;refine lB 22 zb (lL hs [.m 23 22,.m 24 7] ?_);cases zd:(decide (((pick (z5) 19:Nat):Int)<(2:Int)))
   ·
    have zx:=oF zd;refine lB 25 zd (lL hs [.v 26 qF,.m 27 26,.m 28 7] ?_);cases ze:(decide ((17:Int)≤((pick (z5) 19:Nat):Int)))
    ·
     have zB:=oF ze;refine lB 29 ze (lL hs [.v 30 qF,.m 20 30] (lD ?_));intro a_ ka;exact ⟨_,⟨false,zu,rfl,hs.to _ _,(fun h_=>absurd h_ kD),(fun _=>by omega),hmo⟩,ka.to _ kR⟩
    have zB:=oT ze;refine lB 29 ze (lL hs [.v 30 qT,.m 20 30] (lD ?_));intro a_ ka;exact ⟨_,⟨true,zu,rfl,hs.to _ _,(fun _=>by omega),(fun h_=>absurd h_ kD),hmo⟩,ka.to _ kR⟩
   have zx:=oT zd;refine lB 25 zd (lL hs [.v 26 qT,.m 27 26] (lG 28 ?_));refine lG 29 (lL hs [.v 30 qT,.m 20 30] (lD ?_));intro a_ ka;exact ⟨_,⟨true,zu,rfl,hs.to _ _,(fun _=>by omega),(fun h_=>absurd h_ kD),hmo⟩,ka.to _ kR⟩
  have zw:=oT zb;refine lB 22 zb (lL hs [.m 23 22] (lG 24 ?_));refine lG 25 (lL hs [.v 26 qT,.m 27 26] (lG 28 ?_));refine lG 29 (lL hs [.v 30 qT,.m 20 30] (lD ?_));intro a_ ka;exact ⟨_,⟨true,zu,rfl,hs.to _ _,(fun _=>by omega),(fun h_=>absurd h_ kD),hmo⟩,ka.to _ kR⟩
 rintro _ _ ⟨zt,_,rfl,hs,hT20,hF20,hmo⟩;cases zf:(zt)
 ·
  try rw[zf] at hs
  try rw[zf]
  refine cIF (cSL ?_);have hF20_:=hF20 aM;refine lL hs [.m 48 7] ?_;cases zg:(decide (((pick (z5) 19:Nat):Int)<(4:Int)))
  ·
   have zD:=oF zg;refine lB 49 zg (lL hs [.m 47 49] (lNIF (cSLlL hs [.m 62 7] ?_)));cases zi:(decide (((pick (z5) 19:Nat):Int)<(5:Int)))
   ·
    have zE:=oF zi;refine lB 63 zi (lL hs [.m 61 63] (lNIF (cSLlL hs [.m 76 7] ?_)));cases zj:(decide (((pick (z5) 19:Nat):Int)<(7:Int)))
    ·
     have zG:=oF zj;refine lB 77 zj (lL hs [.m 75 77] (lNIF (cSLlL hs [.m 90 7] ?_)));cases zk:(decide (((pick (z5) 19:Nat):Int)<(8:Int)))
     ·
      have zH:=oF zk;refine lB 91 zk (lL hs [.m 89 91] (lNIF (cSLlL hs [.m 99 7] ?_)));cases zl:(decide (((pick (z5) 19:Nat):Int)<(9:Int)))
      ·
       have zI:=oF zl;refine lB 100 zl (lL hs [.m 98 100] (lNIF (cSLlL hs [.m 116 7] ?_)));cases zm:(decide (((pick (z5) 19:Nat):Int)<(11:Int)))
       ·
        have zJ:=oF zm;refine lB 117 zm (lL hs [.m 115 117] (lNIF (cSLlL hs [.m 130 7] ?_)));cases zo:(decide (((pick (z5) 19:Nat):Int)<(12:Int)))
        ·
         have zK:=oF zo;refine lB 131 zo (lL hs [.m 129 131] (lNIF (cSLlL hs [.m 139 7] ?_)));cases zp:(decide (((pick (z5) 19:Nat):Int)<(13:Int)))
         ·
          have zL:=oF zp;refine lB 140 zp (lL hs [.m 138 140] (lNIF (cSLlL hs [.m 148 7] ?_)));cases zq:(decide (((pick (z5) 19:Nat):Int)<(15:Int)))
          ·
           have zM:=oF zq;refine lB 149 zq (lL hs [.m 147 149] (lNIF (cSLlL hs [.m 157 7] ?_)));cases zr:(decide (((pick (z5) 19:Nat):Int)<(16:Int)))
           ·
            have zN:=oF zr;refine lB 158 zr (lL hs [.m 156 158] (lNIF (cK (cSLlL hs [.m 170 0,.m 171 1] (lI 172 ((dp:Nat)-1) ?_)))));refine lL hs [.m 173 2] (lCm 174 (ih ((dp:Nat)-1) oM oM at_z5 oM _ _ hs.g (hs.own 1) (hs.jk 1) hs.f.1) ?_);rintro _ _ _ u44 ⟨rz41,tz41,at_z41,rfl,haz41,hOz41,hRz41,hGz41⟩;replace hs:=(hs.stepM 1 u44 hOz41).to [⟨b1,31,[iV 0,iV 0,qF,sZ,sZ,eS,sZ]⟩,⟨rbk,62,[qS A zs.length cap,nV at_z41]⟩] [];replace hmo:=hmo.trans u44;replace hs:=(hs.add (K:=fun h_=>RmH dp h_ rz41 tz41) hRz41);refine lL hs [.m 175 0,.m 176 1] (lI 177 ((dp:Nat)-1) ?_);refine lL hs [.m 178 2] (lCm 179 (ih ((dp:Nat)-1) oM oM at_z41 oM _ _ hs.g (hs.own 1) (hs.jk 1) hs.f.2.1) ?_);rintro _ _ _ u48 ⟨rz45,tz45,at_z45,rfl,haz45,hOz45,hRz45,hGz45⟩;replace hs:=(hs.stepM 1 u48 hOz45).to [⟨b1,31,[iV 0,iV 0,qF,sZ,sZ,eS,sZ]⟩,⟨rbk,62,[qS A zs.length cap,nV at_z45]⟩] [];replace hmo:=hmo.trans u48;replace hs:=(hs.add (K:=fun h_=>RmH dp h_ rz45 tz45) hRz45);refine lCu 180 (rTwoH 13 rz41 rz45 tz41 tz45 _ _ hs.g hs.f.2.1 hs.f.1) ?_;rintro _ _ _ u52 ⟨r49,rfl,hRr49⟩;replace hmo:=hmo.trans (u52.m _);replace hs:=hs.step u52;replace hs:=(hs.add (K:=fun h_=>RmH (dp+1) h_ r49 (.mk 13 0 0 ⟨#[]⟩ [tz41,tz45])) hRr49);refine lPu 0 0 ([iV r49.op,iV r49.n,.bool r49.neg,qS r49.zA r49.zn r49.zc,qS r49.dA r49.dn r49.dc,.string r49.s,qS r49.A r49.m r49.c]) hs (fun _ pu hs=>?_);replace hmo:=hmo.put2 pu hlo_b1 g hs.g;refine lN (cTo [(6,pB b1)] ?_);exact kX (hs.retM hmo [(0,0,7)] (rmv r49) ⟨_,_,at_z45,rfl,haz45,hs.own 1,hs.f.1,hGz41.two hGz45 rfl⟩)
           have zN:=oT zr;refine lB 158 zr (lL hs [.m 156 158] (lNIT (cSLlL hs [.m 159 0,.m 160 1] (lI 161 ((dp:Nat)-1) ?_))));refine lL hs [.m 162 2] (lCm 163 (ih ((dp:Nat)-1) oM oM at_z5 oM _ _ hs.g (hs.own 1) (hs.jk 1) hs.f.1) ?_);rintro _ _ _ u57 ⟨rz54,tz54,at_z54,rfl,haz54,hOz54,hRz54,hGz54⟩;replace hs:=(hs.stepM 1 u57 hOz54).to [⟨b1,31,[iV 0,iV 0,qF,sZ,sZ,eS,sZ]⟩,⟨rbk,62,[qS A zs.length cap,nV at_z54]⟩] [];replace hmo:=hmo.trans u57;replace hs:=(hs.add (K:=fun h_=>RmH dp h_ rz54 tz54) hRz54);refine lL hs [.m 164 0,.m 165 1] (lI 166 ((dp:Nat)-1) ?_);refine lL hs [.m 167 2] (lCm 168 (ih ((dp:Nat)-1) oM oM at_z54 oM _ _ hs.g (hs.own 1) (hs.jk 1) hs.f.2.1) ?_);rintro _ _ _ u61 ⟨rz58,tz58,at_z58,rfl,haz58,hOz58,hRz58,hGz58⟩;replace hs:=(hs.stepM 1 u61 hOz58).to [⟨b1,31,[iV 0,iV 0,qF,sZ,sZ,eS,sZ]⟩,⟨rbk,62,[qS A zs.length cap,nV at_z58]⟩] [];replace hmo:=hmo.trans u61;replace hs:=(hs.add (K:=fun h_=>RmH dp h_ rz58 tz58) hRz58);refine lCu 169 (rTwoH 12 rz54 rz58 tz54 tz58 _ _ hs.g hs.f.2.1 hs.f.1) ?_;rintro _ _ _ u65 ⟨r62,rfl,hRr62⟩;replace hmo:=hmo.trans (u65.m _);replace hs:=hs.step u65;replace hs:=(hs.add (K:=fun h_=>RmH (dp+1) h_ r62 (.mk 12 0 0 ⟨#[]⟩ [tz54,tz58])) hRr62);refine lPu 0 0 ([iV r62.op,iV r62.n,.bool r62.neg,qS r62.zA r62.zn r62.zc,qS r62.dA r62.dn r62.dc,.string r62.s,qS r62.A r62.m r62.c]) hs (fun _ pu hs=>?_);replace hmo:=hmo.put2 pu hlo_b1 g hs.g;refine lN (cTo [(0,pB rbk),(1,nV dp),(2,qF),(6,pB b1)] ?_);exact kX (hs.retM hmo [(0,0,7)] (rmv r62) ⟨_,_,at_z58,rfl,haz58,hs.own 1,hs.f.1,hGz54.two hGz58 rfl⟩)
          have zM:=oT zq;refine lB 149 zq (lL hs [.m 147 149] (lNIT (cSLlL hs [.m 150 0,.m 151 1] (lI 152 ((dp:Nat)-1) ?_))));refine lL hs [.m 153 2] (lCm 154 (ih ((dp:Nat)-1) oM oM at_z5 oM _ _ hs.g (hs.own 1) (hs.jk 1) hs.f.1) ?_);rintro _ _ _ u70 ⟨rz67,tz67,at_z67,rfl,haz67,hOz67,hRz67,hGz67⟩;replace hs:=(hs.stepM 1 u70 hOz67).to [⟨b1,31,[iV 0,iV 0,qF,sZ,sZ,eS,sZ]⟩,⟨rbk,62,[qS A zs.length cap,nV at_z67]⟩] [];replace hmo:=hmo.trans u70;replace hs:=(hs.add (K:=fun h_=>RmH dp h_ rz67 tz67) hRz67);refine lCu 155 (rOneH 11 rz67 tz67 _ _ hs.g hs.f.1) ?_;rintro _ _ _ u74 ⟨r71,rfl,hRr71⟩;replace hmo:=hmo.trans (u74.m _);replace hs:=hs.step u74;replace hs:=(hs.add (K:=fun h_=>RmH (dp+1) h_ r71 (.mk 11 0 0 ⟨#[]⟩ [tz67])) hRr71);refine lPu 0 0 ([iV r71.op,iV r71.n,.bool r71.neg,qS r71.zA r71.zn r71.zc,qS r71.dA r71.dn r71.dc,.string r71.s,qS r71.A r71.m r71.c]) hs (fun _ pu hs=>?_);replace hmo:=hmo.put2 pu hlo_b1 g hs.g;exact lN (kX (hs.retM hmo [(0,0,7)] (rmv r71) ⟨_,_,at_z67,rfl,haz67,hs.own 1,hs.f.1,hGz67.one rfl (fun _=>rfl) kD kD⟩))
         have zL:=oT zp;refine lB 140 zp (lL hs [.m 138 140] (lNIT (cSLlL hs [.m 141 0,.m 142 1] (lI 143 ((dp:Nat)-1) ?_))));refine lL hs [.m 144 2] (lCm 145 (ih ((dp:Nat)-1) oM oM at_z5 oM _ _ hs.g (hs.own 1) (hs.jk 1) hs.f.1) ?_);rintro _ _ _ u79 ⟨rz76,tz76,at_z76,rfl,haz76,hOz76,hRz76,hGz76⟩;replace hs:=(hs.stepM 1 u79 hOz76).to [⟨b1,31,[iV 0,iV 0,qF,sZ,sZ,eS,sZ]⟩,⟨rbk,62,[qS A zs.length cap,nV at_z76]⟩] [];replace hmo:=hmo.trans u79;replace hs:=(hs.add (K:=fun h_=>RmH dp h_ rz76 tz76) hRz76);refine lCu 146 (rOneH 10 rz76 tz76 _ _ hs.g hs.f.1) ?_;rintro _ _ _ u83 ⟨r80,rfl,hRr80⟩;replace hmo:=hmo.trans (u83.m _);replace hs:=hs.step u83;replace hs:=(hs.add (K:=fun h_=>RmH (dp+1) h_ r80 (.mk 10 0 0 ⟨#[]⟩ [tz76])) hRr80);refine lPu 0 0 ([iV r80.op,iV r80.n,.bool r80.neg,qS r80.zA r80.zn r80.zc,qS r80.dA r80.dn r80.dc,.string r80.s,qS r80.A r80.m r80.c]) hs (fun _ pu hs=>?_);replace hmo:=hmo.put2 pu hlo_b1 g hs.g;exact lN (kX (hs.retM hmo [(0,0,7)] (rmv r80) ⟨_,_,at_z76,rfl,haz76,hs.own 1,hs.f.1,hGz76.one rfl (fun _=>rfl) kD kD⟩))
        have zK:=oT zo;refine lB 131 zo (lL hs [.m 129 131] (lNIT (cSLlL hs [.m 132 0,.m 133 1] (lI 134 ((dp:Nat)-1) ?_))));refine lL hs [.m 135 2] (lCm 136 (ih ((dp:Nat)-1) oM oM at_z5 oM _ _ hs.g (hs.own 1) (hs.jk 1) hs.f.1) ?_);rintro _ _ _ u88 ⟨rz85,tz85,at_z85,rfl,haz85,hOz85,hRz85,hGz85⟩;replace hs:=(hs.stepM 1 u88 hOz85).to [⟨b1,31,[iV 0,iV 0,qF,sZ,sZ,eS,sZ]⟩,⟨rbk,62,[qS A zs.length cap,nV at_z85]⟩] [];replace hmo:=hmo.trans u88;replace hs:=(hs.add (K:=fun h_=>RmH dp h_ rz85 tz85) hRz85);refine lCu 137 (rOneH 9 rz85 tz85 _ _ hs.g hs.f.1) ?_;rintro _ _ _ u92 ⟨r89,rfl,hRr89⟩;replace hmo:=hmo.trans (u92.m _);replace hs:=hs.step u92;replace hs:=(hs.add (K:=fun h_=>RmH (dp+1) h_ r89 (.mk 9 0 0 ⟨#[]⟩ [tz85])) hRr89);refine lPu 0 0 ([iV r89.op,iV r89.n,.bool r89.neg,qS r89.zA r89.zn r89.zc,qS r89.dA r89.dn r89.dc,.string r89.s,qS r89.A r89.m r89.c]) hs (fun _ pu hs=>?_);replace hmo:=hmo.put2 pu hlo_b1 g hs.g;exact lN (kX (hs.retM hmo [(0,0,7)] (rmv r89) ⟨_,_,at_z85,rfl,haz85,hs.own 1,hs.f.1,hGz85.one rfl (fun _=>rfl) kD kD⟩))
       have zJ:=oT zm;refine lB 117 zm (lL hs [.m 115 117] (lNIT (cSLlL hs [.m 118 0,.m 119 1] (lI 120 ((dp:Nat)-1) ?_))));refine lL hs [.m 121 2] (lCm 122 (ih ((dp:Nat)-1) oM oM at_z5 oM _ _ hs.g (hs.own 1) (hs.jk 1) hs.f.1) ?_);rintro _ _ _ u97 ⟨rz94,tz94,at_z94,rfl,haz94,hOz94,hRz94,hGz94⟩;replace hs:=(hs.stepM 1 u97 hOz94).to [⟨b1,31,[iV 0,iV 0,qF,sZ,sZ,eS,sZ]⟩,⟨rbk,62,[qS A zs.length cap,nV at_z94]⟩] [];replace hmo:=hmo.trans u97;replace hs:=(hs.add (K:=fun h_=>RmH dp h_ rz94 tz94) hRz94);refine lL hs [.m 123 0,.m 124 1] (lI 125 ((dp:Nat)-1) ?_);refine lL hs [.m 126 2] (lCm 127 (ih ((dp:Nat)-1) oM oM at_z94 oM _ _ hs.g (hs.own 1) (hs.jk 1) hs.f.2.1) ?_);rintro _ _ _ u101 ⟨rz98,tz98,at_z98,rfl,haz98,hOz98,hRz98,hGz98⟩;replace hs:=(hs.stepM 1 u101 hOz98).to [⟨b1,31,[iV 0,iV 0,qF,sZ,sZ,eS,sZ]⟩,⟨rbk,62,[qS A zs.length cap,nV at_z98]⟩] [];replace hmo:=hmo.trans u101;replace hs:=(hs.add (K:=fun h_=>RmH dp h_ rz98 tz98) hRz98);refine lCu 128 (rTwoH 6 rz94 rz98 tz94 tz98 _ _ hs.g hs.f.2.1 hs.f.1) ?_;rintro _ _ _ u105 ⟨r102,rfl,hRr102⟩;replace hmo:=hmo.trans (u105.m _);replace hs:=hs.step u105;replace hs:=(hs.add (K:=fun h_=>RmH (dp+1) h_ r102 (.mk 6 0 0 ⟨#[]⟩ [tz94,tz98])) hRr102);refine lPu 0 0 ([iV r102.op,iV r102.n,.bool r102.neg,qS r102.zA r102.zn r102.zc,qS r102.dA r102.dn r102.dc,.string r102.s,qS r102.A r102.m r102.c]) hs (fun _ pu hs=>?_);replace hmo:=hmo.put2 pu hlo_b1 g hs.g;exact lN (kX (hs.retM hmo [(0,0,7)] (rmv r102) ⟨_,_,at_z98,rfl,haz98,hs.own 1,hs.f.1,hGz94.two hGz98 rfl⟩))
      have zI:=oT zl;refine lB 100 zl (lL hs [.m 98 100] (lNIT (cSLlL hs [.m 101 0] (lCm 102 (rNext A cap zs hl hz rbk at_z5 oM _ _ hs.g (hs.own 1) (hs.jk 1) hs.f.1) ?_))));rintro _ _ _ u110 ⟨z107,at_z107,rfl,haz107,hzz107,hOz107⟩;replace hs:=(hs.stepM 1 u110 hOz107).to [⟨b1,31,[iV 0,iV 0,qF,sZ,sZ,eS,sZ]⟩,⟨rbk,62,[qS A zs.length cap,nV at_z107]⟩] [];replace hmo:=hmo.trans u110;have hzz1071:=hzz107.1;have hzz1072:=hzz107.2;refine lCu 103 (hPick (z107) 6 oM oM _ _ hs.g) ?_;rintro _ _ _ u114 rfl;replace hmo:=hmo.trans (u114.m _);replace hs:=hs.step u114;have lp111:=pick_lt (z107) 6 oM;refine lI 104 ((pick (z107) 6:Nat)-2) (lL hs [.m 9 104] (lNcQ (cSLlL hs [.m 105 2] (lNIF (cK (cSLlL hs [.m 108 0,.m 109 1] (lI 110 ((dp:Nat)-1) ?_)))))));refine lL hs [.m 111 2] (lCm 112 (ih ((dp:Nat)-1) oM oM at_z107 oM _ _ hs.g (hs.own 1) (hs.jk 1) hs.f.1) ?_);rintro _ _ _ u118 ⟨rz115,tz115,at_z115,rfl,haz115,hOz115,hRz115,hGz115⟩;replace hs:=(hs.stepM 1 u118 hOz115).to [⟨b1,31,[iV 0,iV 0,qF,sZ,sZ,eS,sZ]⟩,⟨rbk,62,[qS A zs.length cap,nV at_z115]⟩] [];replace hmo:=hmo.trans u118;replace hs:=(hs.add (K:=fun h_=>RmH dp h_ rz115 tz115) hRz115);refine lL hs [.m 113 9] (lCu 114 (rPowH rz115 tz115 ((pick (z107) 6:Nat)-2) _ _ hs.g hs.f.1) ?_);rintro _ _ _ u122 ⟨r119,rfl,hRr119⟩;replace hmo:=hmo.trans (u122.m _);replace hs:=hs.step u122;replace hs:=(hs.add (K:=fun h_=>RmH (dp+1) h_ r119 (.mk 8 ((pick (z107) 6:Nat)-2) 0 ⟨#[]⟩ [tz115])) hRr119);refine lPu 0 0 ([iV r119.op,iV r119.n,.bool r119.neg,qS r119.zA r119.zn r119.zc,qS r119.dA r119.dn r119.dc,.string r119.s,qS r119.A r119.m r119.c]) hs (fun _ pu hs=>?_);replace hmo:=hmo.put2 pu hlo_b1 g hs.g;exact lN (kX (hs.retM hmo [(0,0,7)] (rmv r119) ⟨_,_,at_z115,rfl,haz115,hs.own 1,hs.f.1,hGz115.one rfl (fun h_=>absurd rfl h_) oM oM⟩))
     have zH:=oT zk;refine lB 91 zk (lL hs [.m 89 91] (lNIT (cSLlL hs [.m 92 0,.m 93 1] (lI 94 ((dp:Nat)-1) ?_))));refine lL hs [.m 95 2] (lCm 96 (ih ((dp:Nat)-1) oM oM at_z5 oM _ _ hs.g (hs.own 1) (hs.jk 1) hs.f.1) ?_);rintro _ _ _ u127 ⟨rz124,tz124,at_z124,rfl,haz124,hOz124,hRz124,hGz124⟩;replace hs:=(hs.stepM 1 u127 hOz124).to [⟨b1,31,[iV 0,iV 0,qF,sZ,sZ,eS,sZ]⟩,⟨rbk,62,[qS A zs.length cap,nV at_z124]⟩] [];replace hmo:=hmo.trans u127;replace hs:=(hs.add (K:=fun h_=>RmH dp h_ rz124 tz124) hRz124);refine lCu 97 (rOneH 7 rz124 tz124 _ _ hs.g hs.f.1) ?_;rintro _ _ _ u131 ⟨r128,rfl,hRr128⟩;replace hmo:=hmo.trans (u131.m _);replace hs:=hs.step u131;replace hs:=(hs.add (K:=fun h_=>RmH (dp+1) h_ r128 (.mk 7 0 0 ⟨#[]⟩ [tz124])) hRr128);refine lPu 0 0 ([iV r128.op,iV r128.n,.bool r128.neg,qS r128.zA r128.zn r128.zc,qS r128.dA r128.dn r128.dc,.string r128.s,qS r128.A r128.m r128.c]) hs (fun _ pu hs=>?_);replace hmo:=hmo.put2 pu hlo_b1 g hs.g;exact lN (kX (hs.retM hmo [(0,0,7)] (rmv r128) ⟨_,_,at_z124,rfl,haz124,hs.own 1,hs.f.1,hGz124.one rfl (fun _=>rfl) kD kD⟩))
    have zG:=oT zj;refine lB 77 zj (lL hs [.m 75 77] (lNIT (cSLlL hs [.m 78 0,.m 79 1] (lI 80 ((dp:Nat)-1) ?_))));refine lL hs [.m 81 2] (lCm 82 (ih ((dp:Nat)-1) oM oM at_z5 oM _ _ hs.g (hs.own 1) (hs.jk 1) hs.f.1) ?_);rintro _ _ _ u136 ⟨rz133,tz133,at_z133,rfl,haz133,hOz133,hRz133,hGz133⟩;replace hs:=(hs.stepM 1 u136 hOz133).to [⟨b1,31,[iV 0,iV 0,qF,sZ,sZ,eS,sZ]⟩,⟨rbk,62,[qS A zs.length cap,nV at_z133]⟩] [];replace hmo:=hmo.trans u136;replace hs:=(hs.add (K:=fun h_=>RmH dp h_ rz133 tz133) hRz133);refine lL hs [.m 83 0,.m 84 1] (lI 85 ((dp:Nat)-1) ?_);refine lL hs [.m 86 2] (lCm 87 (ih ((dp:Nat)-1) oM oM at_z133 oM _ _ hs.g (hs.own 1) (hs.jk 1) hs.f.2.1) ?_);rintro _ _ _ u140 ⟨rz137,tz137,at_z137,rfl,haz137,hOz137,hRz137,hGz137⟩;replace hs:=(hs.stepM 1 u140 hOz137).to [⟨b1,31,[iV 0,iV 0,qF,sZ,sZ,eS,sZ]⟩,⟨rbk,62,[qS A zs.length cap,nV at_z137]⟩] [];replace hmo:=hmo.trans u140;replace hs:=(hs.add (K:=fun h_=>RmH dp h_ rz137 tz137) hRz137);refine lCu 88 (rTwoH 5 rz133 rz137 tz133 tz137 _ _ hs.g hs.f.2.1 hs.f.1) ?_;rintro _ _ _ u144 ⟨r141,rfl,hRr141⟩;replace hmo:=hmo.trans (u144.m _);replace hs:=hs.step u144;replace hs:=(hs.add (K:=fun h_=>RmH (dp+1) h_ r141 (.mk 5 0 0 ⟨#[]⟩ [tz133,tz137])) hRr141);refine lPu 0 0 ([iV r141.op,iV r141.n,.bool r141.neg,qS r141.zA r141.zn r141.zc,qS r141.dA r141.dn r141.dc,.string r141.s,qS r141.A r141.m r141.c]) hs (fun _ pu hs=>?_);replace hmo:=hmo.put2 pu hlo_b1 g hs.g;exact lN (kX (hs.retM hmo [(0,0,7)] (rmv r141) ⟨_,_,at_z137,rfl,haz137,hs.own 1,hs.f.1,hGz133.two hGz137 rfl⟩))
   have zE:=oT zi;refine lB 63 zi (lL hs [.m 61 63] (lNIT (cSLlL hs [.m 64 0,.m 65 1] (lI 66 ((dp:Nat)-1) ?_))));refine lL hs [.m 67 2] (lCm 68 (ih ((dp:Nat)-1) oM oM at_z5 oM _ _ hs.g (hs.own 1) (hs.jk 1) hs.f.1) ?_);rintro _ _ _ u149 ⟨rz146,tz146,at_z146,rfl,haz146,hOz146,hRz146,hGz146⟩;replace hs:=(hs.stepM 1 u149 hOz146).to [⟨b1,31,[iV 0,iV 0,qF,sZ,sZ,eS,sZ]⟩,⟨rbk,62,[qS A zs.length cap,nV at_z146]⟩] [];replace hmo:=hmo.trans u149;replace hs:=(hs.add (K:=fun h_=>RmH dp h_ rz146 tz146) hRz146);refine lL hs [.m 69 0,.m 70 1] (lI 71 ((dp:Nat)-1) ?_);refine lL hs [.m 72 2] (lCm 73 (ih ((dp:Nat)-1) oM oM at_z146 oM _ _ hs.g (hs.own 1) (hs.jk 1) hs.f.2.1) ?_);rintro _ _ _ u153 ⟨rz150,tz150,at_z150,rfl,haz150,hOz150,hRz150,hGz150⟩;replace hs:=(hs.stepM 1 u153 hOz150).to [⟨b1,31,[iV 0,iV 0,qF,sZ,sZ,eS,sZ]⟩,⟨rbk,62,[qS A zs.length cap,nV at_z150]⟩] [];replace hmo:=hmo.trans u153;replace hs:=(hs.add (K:=fun h_=>RmH dp h_ rz150 tz150) hRz150);refine lCu 74 (rTwoH 4 rz146 rz150 tz146 tz150 _ _ hs.g hs.f.2.1 hs.f.1) ?_;rintro _ _ _ u157 ⟨r154,rfl,hRr154⟩;replace hmo:=hmo.trans (u157.m _);replace hs:=hs.step u157;replace hs:=(hs.add (K:=fun h_=>RmH (dp+1) h_ r154 (.mk 4 0 0 ⟨#[]⟩ [tz146,tz150])) hRr154);refine lPu 0 0 ([iV r154.op,iV r154.n,.bool r154.neg,qS r154.zA r154.zn r154.zc,qS r154.dA r154.dn r154.dc,.string r154.s,qS r154.A r154.m r154.c]) hs (fun _ pu hs=>?_);replace hmo:=hmo.put2 pu hlo_b1 g hs.g;exact lN (kX (hs.retM hmo [(0,0,7)] (rmv r154) ⟨_,_,at_z150,rfl,haz150,hs.own 1,hs.f.1,hGz146.two hGz150 rfl⟩))
  have zD:=oT zg;refine lB 49 zg (lL hs [.m 47 49] (lNIT (cSLlL hs [.m 50 0,.m 51 1] (lI 52 ((dp:Nat)-1) ?_))));refine lL hs [.m 53 2] (lCm 54 (ih ((dp:Nat)-1) oM oM at_z5 oM _ _ hs.g (hs.own 1) (hs.jk 1) hs.f.1) ?_);rintro _ _ _ u162 ⟨rz159,tz159,at_z159,rfl,haz159,hOz159,hRz159,hGz159⟩;replace hs:=(hs.stepM 1 u162 hOz159).to [⟨b1,31,[iV 0,iV 0,qF,sZ,sZ,eS,sZ]⟩,⟨rbk,62,[qS A zs.length cap,nV at_z159]⟩] [];replace hmo:=hmo.trans u162;replace hs:=(hs.add (K:=fun h_=>RmH dp h_ rz159 tz159) hRz159);refine lL hs [.m 55 0,.m 56 1] (lI 57 ((dp:Nat)-1) ?_);refine lL hs [.m 58 2] (lCm 59 (ih ((dp:Nat)-1) oM oM at_z159 oM _ _ hs.g (hs.own 1) (hs.jk 1) hs.f.2.1) ?_);rintro _ _ _ u166 ⟨rz163,tz163,at_z163,rfl,haz163,hOz163,hRz163,hGz163⟩;replace hs:=(hs.stepM 1 u166 hOz163).to [⟨b1,31,[iV 0,iV 0,qF,sZ,sZ,eS,sZ]⟩,⟨rbk,62,[qS A zs.length cap,nV at_z163]⟩] [];replace hmo:=hmo.trans u166;replace hs:=(hs.add (K:=fun h_=>RmH dp h_ rz163 tz163) hRz163);refine lCu 60 (rTwoH 3 rz159 rz163 tz159 tz163 _ _ hs.g hs.f.2.1 hs.f.1) ?_;rintro _ _ _ u170 ⟨r167,rfl,hRr167⟩;replace hmo:=hmo.trans (u170.m _);replace hs:=hs.step u170;replace hs:=(hs.add (K:=fun h_=>RmH (dp+1) h_ r167 (.mk 3 0 0 ⟨#[]⟩ [tz159,tz163])) hRr167);refine lPu 0 0 ([iV r167.op,iV r167.n,.bool r167.neg,qS r167.zA r167.zn r167.zc,qS r167.dA r167.dn r167.dc,.string r167.s,qS r167.A r167.m r167.c]) hs (fun _ pu hs=>?_);replace hmo:=hmo.put2 pu hlo_b1 g hs.g;exact lN (kX (hs.retM hmo [(0,0,7)] (rmv r167) ⟨_,_,at_z163,rfl,haz163,hs.own 1,hs.f.1,hGz159.two hGz163 rfl⟩))
 try rw[zf] at hs
 try rw[zf]
 refine cIT (cSLlL hs [.m 31 0] (lCm 32 (rNext A cap zs hl hz rbk at_z5 oM _ _ hs.g (hs.own 1) (hs.jk 1) hs.f.1) ?_));rintro _ _ _ u175 ⟨z172,at_z172,rfl,haz172,hzz172,hOz172⟩;replace hs:=(hs.stepM 1 u175 hOz172).to [⟨b1,31,[iV 0,iV 0,qF,sZ,sZ,eS,sZ]⟩,⟨rbk,62,[qS A zs.length cap,nV at_z172]⟩] [];replace hmo:=hmo.trans u175;have hzz1721:=hzz172.1;have hzz1722:=hzz172.2;have htd_:=tdiv_bd z172 3 oM hzz1721 hzz1722;refine lL hs [.m 8 32] (lNcQ (cSLlL hs [.m 33 8] (lCu 34 (hPick (z172) 3 oM oM _ _ hs.g) ?_)));rintro _ _ _ u179 rfl;replace hmo:=hmo.trans (u179.m _);replace hs:=hs.step u179;have lp176:=pick_lt (z172) 3 oM;cases za:(((pick (z172) 3:Nat):Int) == (0:Int))
 ·
  have zv:=neOfBeq za;refine lB 35 za (lNIF (cK (cSL (lCu 40 (mNames _ _ hs.g) ?_))));rintro _ _ _ u183 ⟨bN,rfl,hN0⟩;replace hmo:=hmo.trans (u183.m _);replace hs:=hs.step u183;replace hs:=hs.aS hN0;have hnl3:([⟨#[120]⟩,⟨#[121]⟩,⟨#[122]⟩]:List ByteArray).length=3:=rfl;refine lL hs [.m 41 8] (lV 42 (iV ((z172).tdiv 3)) ?_ (hr:=rS (((z172).tdiv 3)) kR (fitI64 oM oM)));refine lCu 43 (hPick ((z172).tdiv 3) 3 oM oM _ _ hs.g) ?_;rintro _ _ _ u187 rfl;replace hmo:=hmo.trans (u187.m _);replace hs:=hs.step u187;have lp184:=pick_lt ((z172).tdiv 3) 3 oM;refine lX 44 (sB bN) 3 3 1 (pick ((z172).tdiv 3) 3:Nat) (pick ((z172).tdiv 3) 3:Nat) ((hs.f.1).ok oM) (lH 45 (.string (([⟨#[120]⟩,⟨#[121]⟩,⟨#[122]⟩]:List ByteArray).getD (pick ((z172).tdiv 3) 3:Nat) ⟨#[]⟩)) hs ((hs.f.1).el (pick ((z172).tdiv 3) 3:Nat) oM) (lL hs [.v 46 (.agg #[iV 2,iV 0,qF,sZ,sZ,.string (([⟨#[120]⟩,⟨#[121]⟩,⟨#[122]⟩]:List ByteArray).getD (pick ((z172).tdiv 3) 3:Nat) ⟨#[]⟩),sZ])] (lPu 0 0 ([iV 2,iV 0,qF,sZ,sZ,.string (([⟨#[120]⟩,⟨#[121]⟩,⟨#[122]⟩]:List ByteArray).getD (pick ((z172).tdiv 3) 3:Nat) ⟨#[]⟩),sZ]) hs (fun _ pu hs=>?_))));replace hmo:=hmo.put2 pu hlo_b1 g hs.g;exact lN (kX (hs.retM hmo [(0,0,7)] (.agg #[iV 2,iV 0,qF,sZ,sZ,.string (([⟨#[120]⟩,⟨#[121]⟩,⟨#[122]⟩]:List ByteArray).getD (pick ((z172).tdiv 3) 3:Nat) ⟨#[]⟩),sZ]) ⟨⟨2,0,false,none,0,0,none,0,0,([⟨#[120]⟩,⟨#[121]⟩,⟨#[122]⟩]:List ByteArray).getD (pick ((z172).tdiv 3) 3:Nat) ⟨#[]⟩,none,0,0⟩,_,at_z172,rfl,haz172,hs.own 1,rm_name,GrT.name (okx_at oM)⟩))
 have zv:=eq_of_beq za;refine lB 35 za (lNIT (cSLlL hs [.m 36 8] (lV 37 (iV ((z172).tdiv 3)) ?_ (hr:=rS (((z172).tdiv 3)) kR (fitI64 oM oM)))));refine lCu 38 (hR ((z172).tdiv 3) oM oM _ _ hs.g) ?_;rintro _ _ _ u199 ⟨zU,zW,zX,ya,rfl,zP,zQ,zR,zS⟩;replace hmo:=hmo.trans (u199.m _);replace hs:=hs.step u199;replace hs:=hs.aP zR zS;refine lCu 39 (rOfH (d:=dp) (ineg (handRq ((z172).tdiv 3)).num) zU ((lim (iabs (handRq ((z172).tdiv 3)).num)).length) zW zX ((lim (handRq ((z172).tdiv 3)).den).length) ya _ _ hs.g ⟨true,⟨_,_,_,_,rfl,zP,zQ,hs.f.2.1,hs.f.1⟩,fun h_=>(by cases h_)⟩) ?_;rintro _ _ _ u203 ⟨r200,rfl,hRr200⟩;replace hmo:=hmo.trans (u203.m _);replace hs:=hs.step u203;replace hs:=(hs.add (K:=fun h_=>RmH (dp+1) h_ r200 (.mk 1 0 (handRq ((z172).tdiv 3)) ⟨#[]⟩ [])) hRr200);refine lPu 0 0 ([iV r200.op,iV r200.n,.bool r200.neg,qS r200.zA r200.zn r200.zc,qS r200.dA r200.dn r200.dc,.string r200.s,qS r200.A r200.m r200.c]) hs (fun _ pu hs=>?_);replace hmo:=hmo.put2 pu hlo_b1 g hs.g;exact lN (kX (hs.retM hmo [(0,0,7)] (rmv r200) ⟨_,_,at_z172,rfl,haz172,hs.own 1,hs.f.1,GrT.num (LQ.hand _)⟩))
theorem mGrow (rbk:Nat):∀ (k:Nat) {z:Int},z=(k:Nat)→∀ (A:Option Addr) (cap:Nat) (zs:List Int) (hl:zs.length≤9223372036854775807) (hz:I64s zs) (dp:Nat),dp=k→dp≤1000→∀ (at_:Nat),at_≤zs.length→∀ (w:World) (h:Hp),G w h→Own w rbk 62 [.slice A zs.length cap,nV at_]→h[rbk]?=some junk→Si A zs h→Calls Tryz.prog 21 #[pB rbk,iV z,.bool false] w (RetM rbk w h (fun v w' h'=>∃ (r:RTm) (t:Tm) (at2:Nat),v=rmv r∧at2≤zs.length∧Own w' rbk 62 [.slice A zs.length cap,nV at2]∧RmH (dp+1) h' r t∧GrT (dp+1) t))
  | 0,z,e,A,cap,zs,hl,hz,dp,ed,hd,at_,ha,w,h,g,ho,hj,hA=>by
    subst ed e;exact mGrowS rbk A cap zs hl hz 0 hd (fun z h1 h2=>by omega) at_ ha w h g ho hj hA
  | k+1,z,e,A,cap,zs,hl,hz,dp,ed,hd,at_,ha,w,h,g,ho,hj,hA=>by
    subst ed e;exact mGrowS rbk A cap zs hl hz (k+1) hd (fun z h1 h2=>mGrow rbk k (z:=z) oM A cap zs hl hz k rfl oM) at_ ha w h g ho hj hA
theorem rWholeT (z:Int)(h0 : -9223372036854775808≤z)(h1:z≤9223372036854775807)(w:World)(h:Hp)(g:G w h):CR 19 #[iV z] w h (fun v h1=>∃ r,v=rmv r∧RmH 1 h1 r (.mk 1 0 ((z:Int):Rat) ⟨#[]⟩ [])):=by
 have hs:=sS g;refine go Tryz.func19 [(0,iV z)] rfl (cSL (lA 2 31 ([iV 0,iV 0,qF,sZ,sZ,eS,sZ]) hs (fun b1 w2 h3 hs=>lNS (lL hs [.m 3 0] (lC 4 hs (rOf z h0 oM _ _ hs.g) ?_)))));rintro _ _ _ hs ⟨A4,c5,A8,c9,rfl,hc6,za,hA7,zb⟩;replace hs:=hs.aP hA7 zb;refine lC 5 hs (rOfH (d:=0) (ineg ((z:Int):Rat).num) A4 ((lim (iabs ((z:Int):Rat).num)).length) c5 A8 ((lim ((z:Int):Rat).den).length) c9 _ _ hs.g ⟨true,⟨_,_,_,_,rfl,hc6,za,hs.f.2.1,hs.f.1⟩,fun h_=>(by cases h_)⟩) ?_;rintro _ _ _ hs ⟨r0,rfl,hr0⟩;replace hs:=(hs.add (K:=fun h_=>RmH 1 h_ r0 (.mk 1 0 ((z:Int):Rat) ⟨#[]⟩ [])) hr0);exact lP 0 0 ([iV r0.op,iV r0.n,.bool r0.neg,qS r0.zA r0.zn r0.zc,qS r0.dA r0.dn r0.dc,.string r0.s,qS r0.A r0.m r0.c]) hs (fun _ hs=>lNkXr hs [(0,0,7)] (.agg #[iV r0.op,iV r0.n,.bool r0.neg,qS r0.zA r0.zn r0.zc,qS r0.dA r0.dn r0.dc,.string r0.s,qS r0.A r0.m r0.c]) (⟨r0,rfl,hs.f.1⟩))
theorem rWholeH (z:Int)(h0 : -9223372036854775808≤z)(h1:z≤9223372036854775807)(w:World)(h:Hp)(g:G w h):CR 19 #[iV z] w h (fun v h1=>∃ r,v=rmv r∧RmH 1 h1 r (.mk 1 0 ((z:Int):Rat) ⟨#[]⟩ [])):=rWholeT z h0 h1 w h g
theorem sm_w {d:Nat}:SmT smw (d+1) (.mk 1 0 ((1:Int):Rat) ⟨#[]⟩ []):=⟨by show 0≤3;decide,by show (-1000:Int)≤1∧(1:Int)≤1000;decide,by show (-1000:Int)≤0∧(0:Int)≤1000;decide,LQ.int kD kD,smw0,fun i hi=>absurd hi (Nat.not_lt_zero i)⟩
theorem mSpoiltS  (d:Nat)(ih:∀ (r:RTm) (t:Tm) (way at_ by_:Int) (w:World) (h:Hp),G w h→RmH d h r t→WfT okx d t→Calls Tryz.prog 4 #[rmv r,iV way,iV at_,iV by_] w (Ret w h (fun v h1=>∃ r1 t1,v=rmv r1∧SpO d h1 r1 t1)))(op n:Int)(bq:Bool)(zA:Option Addr)(zn zc:Nat)(dA:Option Addr)(dn dc:Nat)(q:Rat)(s:ByteArray)(A:Option Addr)(c:Nat)(rs:List RTm)(ks:List Tm)(hc:rs.length≤c)(way at_ by_:Int)(hl2:ks.length≤2)(hari:ari op=(ks.length:Nat))(hn1 : -12≤n)(hn2:n≤12)(hq:LQ 1 q)(hsw:smw s)(hW:∀ i,i<ks.length→WfT okx d (ks.getD i tm0))(w:World)(h:Hp)(g:G w h)(hZ:RZ h (bq,.slice zA zn zc,.slice dA dn dc) q)(hK:SlO 7 rmc rtm0 h A rs)(hKs:Rms d h rs ks):CR 4 #[.agg #[iV op,iV n,.bool bq,.slice zA zn zc,.slice dA dn dc,.string s,.slice A rs.length c],iV way,iV at_,iV by_] w h (fun v h1=>∃ r1 t1,v=rmv r1∧SpO (d+1) h1 r1 t1):=by
 have hs:=((((sS g).add (K:=fun h_=>RZ h_ (bq,qS zA zn zc,qS dA dn dc) q) hZ).aS hK).add (K:=fun h_=>Rms d h_ rs ks) hKs);have hln:=(hs.f.1).len;have hac:=ari_cases op;have hnl0_:([]:List RTm).length=0:=rfl;have hnl1_:(([]:List RTm)++rs).length=rs.length:=rfl;refine go Tryz.func4 [(0,.agg #[iV op,iV n,.bool bq,qS zA zn zc,qS dA dn dc,.string s,qS A rs.length c]),(1,iV way),(2,iV at_),(3,iV by_)] rfl (cSL (lA 4 31 ([iV op,iV n,.bool bq,qS zA zn zc,qS dA dn dc,.string s,qS A rs.length c]) hs (fun b1 w2 h3 hs=>lA 8 31 ([iV 0,iV 0,qF,sZ,sZ,eS,sZ]) hs (fun b4 w5 h6 hs=>lNS (lL hs [.m 11 2] (lCval 12 hs (hPick (at_) 4 oM oM _ _ hs.g) (fun w8 h9 hs=>?_)))))));have lp7:=pick_lt (at_) 4 oM;refine lL hs [.m 2 12] (lNcQ (CG.join (fun Γ w_=>∃ (zp:Bool) (h_:Hp),Γ=[(1,iV way),(2,nV (pick (at_) 4)),(3,iV by_),(4,pB b1),(8,pB b4),(20,.bool zp)]∧SS w h w_ h_ [⟨b4,31,[iV 0,iV 0,qF,sZ,sZ,eS,sZ]⟩,⟨b1,31,[iV op,iV n,.bool bq,qS zA zn zc,qS dA dn dc,.string s,qS A rs.length c]⟩] [] [fun h_=>Rms d h_ rs ks,fun h_=>SlO 7 rmc rtm0 h_ A rs,fun h_=>RZ h_ (bq,qS zA zn zc,qS dA dn dc) q]∧(zp=true→¬(pick at_ 4=0∨rs.length=0))∧(zp=false→(pick at_ 4=0∨rs.length=0))) ?_ ?_))
 ·
  refine kQ (lL hs [.m 13 2] ?_);cases zd:(decide ((0:Int)<((pick (at_) 4:Nat):Int)))
  ·
   have zD:=oF zd;refine lB 14 zd (lL hs [.m 15 14] (lG 16 ?_));refine lG 17 (lG 18 (lG 19 (lL hs [.v 20 qF] (lD ?_))));intro a_ ka;exact ⟨_,⟨false,h9,rfl,hs.to _ _,(fun h_=>absurd h_ kD),(fun _=>by omega)⟩,ka.to _ kR⟩
  have zD:=oT zd;refine lB 14 zd (lL hs [.m 15 14,.v 16 (qP b1 6),.o 17 (qS A rs.length c) 1 6 1,.v 18 (nV rs.length)] ?_);cases ze:(decide ((0:Int)<(rs.length:Int)))
  ·
   have zE:=oF ze;refine lB 19 ze (lL hs [.v 20 qF] (lD ?_));intro a_ ka;exact ⟨_,⟨false,h9,rfl,hs.to _ _,(fun h_=>absurd h_ kD),(fun _=>by omega)⟩,ka.to _ kR⟩
  have zE:=oT ze;refine lB 19 ze (lL hs [.v 20 qT] (lD ?_));intro a_ ka;exact ⟨_,⟨true,h9,rfl,hs.to _ _,(fun _=>by omega),(fun h_=>absurd h_ kD)⟩,ka.to _ kR⟩
 rintro _ _ ⟨zp,_,rfl,hs,zR,hF20⟩;cases zf:(zp)
 ·
  try rw[zf] at hs
  try rw[zf]
  refine cIF (cK (CG.join (fun Γ w_=>∃ (r1:RTm) (t1:Tm) (h_:Hp),Γ=[(4,pB b1),(8,pB b4)]∧SS w h w_ h_ [⟨b4,31,[iV 0,iV 0,qF,sZ,sZ,eS,sZ]⟩,⟨b1,31,[iV r1.op,iV r1.n,.bool r1.neg,qS r1.zA r1.zn r1.zc,qS r1.dA r1.dn r1.dc,.string r1.s,qS r1.A r1.m r1.c]⟩] [] [fun h_=>SpO (d+1) h_ r1 t1,fun h_=>Rms d h_ rs ks,fun h_=>SlO 7 rmc rtm0 h_ A rs,fun h_=>RZ h_ (bq,qS zA zn zc,qS dA dn dc) q]) ?_ ?_))
  ·
   refine cSLlL hs [.m 47 1] (lCval 48 hs (hPick (way) 9 oM oM _ _ hs.g) (fun _ zP hs=>?_));have lp21:=pick_lt (way) 9 oM;refine lNkZ (cSL ?_);cases zg:(((pick (way) 9:Nat):Int) == (0:Int))
   ·
    have zG:=neOfBeq zg;refine lB 50 zg (lL hs [.m 49 50] (lNIF (cSL ?_)));cases zi:(((pick (way) 9:Nat):Int) == (1:Int))
    ·
     have zH:=neOfBeq zi;refine lB 56 zi (lL hs [.m 55 56] (lNIF (cSL ?_)));cases zj:(((pick (way) 9:Nat):Int) == (2:Int))
     ·
      have zI:=neOfBeq zj;refine lB 62 zj (lL hs [.m 61 62] (lNIF (cSL ?_)));cases zk:(((pick (way) 9:Nat):Int) == (3:Int))
      ·
       have zJ:=neOfBeq zk;refine lB 69 zk (lL hs [.m 68 69] (lNIF (cSL ?_)));cases zl:(((pick (way) 9:Nat):Int) == (4:Int))
       ·
        have zK:=neOfBeq zl;refine lB 75 zl (lL hs [.m 74 75] (lNIF (cSL ?_)));cases zm:(((pick (way) 9:Nat):Int) == (5:Int))
        ·
         have zL:=neOfBeq zm;refine lB 85 zm (lL hs [.m 84 85] (lNIF (cSL ?_)));cases zo:(((pick (way) 9:Nat):Int) == (6:Int))
         ·
          have zM:=neOfBeq zo;refine lB 88 zo (lL hs [.m 87 88] (lNIF (CG.skip ?_)));intro a_ ka;replace hs:=(hs.add (K:=fun h_=>SpO (d+1) h_ (⟨op,n,bq,zA,zn,zc,dA,dn,dc,s,A,rs.length,c⟩:RTm) (.mk (op) (n) q (s) ks)) ⟨(RmH.mk hs.f.r.1 hs.f.1 hc hs.f.2.1).mono oM,sm_mk oM (by omega:(-1000:Int)≤op∧(op:Int)≤1000) (by omega:(-1000:Int)≤n∧(n:Int)≤1000) hq hsw (fun i hi=>(wf_smw (hW i hi)).mono oM)⟩);exact ⟨_,⟨(⟨op,n,bq,zA,zn,zc,dA,dn,dc,s,A,rs.length,c⟩:RTm),(.mk (op) (n) q (s) ks),zP,rfl,hs.to _ _⟩,ka.to _ kR⟩
         have zM:=eq_of_beq zo;refine lB 88 zo (lL hs [.m 87 88] (lNIT (kQ (lL hs [.o 89 (.agg #[iV op,iV n,.bool bq,qS zA zn zc,qS dA dn dc,.string s,qS A rs.length c]) 1 0 7] (lC 90 hs (rPowH (d:=d+1) ⟨op,n,bq,zA,zn,zc,dA,dn,dc,s,A,rs.length,c⟩ (.mk op n q s ks) (12) _ _ hs.g (RmH.mk hs.f.r.1 hs.f.1 hc hs.f.2.1)) ?_)))));rintro _ _ _ hs ⟨r32,rfl,hRr32⟩;replace hs:=(hs.add (K:=fun h_=>RmH (d+2) h_ r32 (.mk 8 (12) 0 ⟨#[]⟩ [(.mk op n q s ks)])) hRr32);refine lL hs [.m 91 3] (lCval 92 hs (hPick (by_) 20 oM oM _ _ hs.g) (fun _ _ hs=>?_));have lp35:=pick_lt (by_) 20 oM;refine lI 93 ((pick (by_) 20:Nat)-10) (lC 94 hs (rPowH (d:=d+2) r32 (.mk 8 (12) 0 ⟨#[]⟩ [(.mk op n q s ks)]) ((pick (by_) 20:Nat)-10) _ _ hs.g hs.f.1) ?_);rintro _ _ _ hs ⟨r38,rfl,hRr38⟩;replace hs:=(hs.add (K:=fun h_=>RmH (d+3) h_ r38 (.mk 8 ((pick (by_) 20:Nat)-10) 0 ⟨#[]⟩ [(.mk 8 (12) 0 ⟨#[]⟩ [(.mk op n q s ks)])])) hRr38);refine lC 95 hs (rPowH (d:=d+3) r38 (.mk 8 ((pick (by_) 20:Nat)-10) 0 ⟨#[]⟩ [(.mk 8 (12) 0 ⟨#[]⟩ [(.mk op n q s ks)])]) (9) _ _ hs.g hs.f.1) ?_;rintro _ _ yf hs ⟨r41,rfl,hRr41⟩;replace hs:=(hs.add (K:=fun h_=>RmH (d+4) h_ r41 (.mk 8 (9) 0 ⟨#[]⟩ [(.mk 8 ((pick (by_) 20:Nat)-10) 0 ⟨#[]⟩ [(.mk 8 (12) 0 ⟨#[]⟩ [(.mk op n q s ks)])])])) hRr41);refine lP 1 0 ([iV r41.op,iV r41.n,.bool r41.neg,qS r41.zA r41.zn r41.zc,qS r41.dA r41.dn r41.dc,.string r41.s,qS r41.A r41.m r41.c]) hs (fun _ hs=>lD ?_);intro a_ ka;replace hs:=(hs.tl.tl.tl.add (K:=fun h_=>SpO (d+1) h_ r41 (.mk 8 (9) 0 ⟨#[]⟩ [(.mk 8 ((pick (by_) 20:Nat)-10) 0 ⟨#[]⟩ [(.mk 8 (12) 0 ⟨#[]⟩ [(.mk op n q s ks)])])])) ⟨hs.f.1,sm_one oM (sm_one oM (sm_one oM ((sm_mk oM (by omega:(-1000:Int)≤op∧(op:Int)≤1000) (by omega:(-1000:Int)≤n∧(n:Int)≤1000) hq hsw (fun i hi=>(wf_smw (hW i hi)).mono oM)))))⟩);exact ⟨_,⟨r41,(.mk 8 (9) 0 ⟨#[]⟩ [(.mk 8 ((pick (by_) 20:Nat)-10) 0 ⟨#[]⟩ [(.mk 8 (12) 0 ⟨#[]⟩ [(.mk op n q s ks)])])]),yf,rfl,hs.to _ _⟩,ka.to _ kR⟩
        have zL:=eq_of_beq zm;refine lB 85 zm (lL hs [.m 84 85] (lNIT (kQ (lL hs [.v 86 (qP b1 6)] (lP 1 6 ([sZ]) hs (fun _ hs=>lD ?_))))));intro a_ ka;replace hs:=(hs.add (K:=fun h_=>SpO (d+1) h_ (⟨op,n,bq,zA,zn,zc,dA,dn,dc,s,none,0,0⟩:RTm) (.mk op n q s [])) ⟨RmH.mk (ps:=[]) hs.f.r.1 Rms.nil (nR _) SlO.nil,sm_mk (by show 0≤3;decide) (by omega:(-1000:Int)≤op∧(op:Int)≤1000) (by omega:(-1000:Int)≤n∧(n:Int)≤1000) hq hsw (fun i hi=>absurd hi (Nat.not_lt_zero i))⟩);exact ⟨_,⟨(⟨op,n,bq,zA,zn,zc,dA,dn,dc,s,none,0,0⟩:RTm),(.mk op n q s []),zP,rfl,hs.to _ _⟩,ka.to _ kR⟩
       have zK:=eq_of_beq zl;refine lB 75 zl (lL hs [.m 74 75] (lNIT (kQ (lRw 76 31 7 rmc ([]:List RTm) hs (fun yg _ _ hs=>lL hs [.v 77 (qP b1 6),.o 78 (qS A rs.length c) 1 6 1] (lYa 79 0 31 7 ((([]:List RTm)).length) (sB yg) ([]:List RTm) rmc rtm0 A rs rs.length c 112 (.agg #[iV 0,iV 0,qF,sZ,sZ,eS,sZ]) hs hs.f.2.1 (fun yi yj _ _ hs=>lC 80 hs (rWholeH 1 kD kD _ _ hs.g) ?_)))))));rintro _ _ _ hs ⟨rw_,rfl,hrw⟩;replace hs:=(hs.add (K:=fun h_=>RmH 1 h_ rw_ (.mk 1 0 (((1:Int)):Rat) ⟨#[]⟩ [])) hrw);refine lR 81 31 1 ([iV rw_.op,iV rw_.n,.bool rw_.neg,qS rw_.zA rw_.zn rw_.zc,qS rw_.dA rw_.dn rw_.dc,.string rw_.s,qS rw_.A rw_.m rw_.c]) hs (fun zQ _ _ hs=>?_);replace hs:=hs.aS (SlO.of_flat (sz:=7) (f:=rmc) (d:=rtm0) (b:=zQ) (o:=0) (l:=([rw_]:List RTm)) (fun _=>rfl) hs.f.1);refine lY 82 0 31 7 yj yi (([]:List RTm)++rs) rmc rw_ 112 zQ (.agg #[iV 0,iV 0,qF,sZ,sZ,eS,sZ]) hs hs.f.2.1 (fun zs zt _ _ hs=>lL hs [.v 83 (qP b1 6)] (lP 1 6 ([qS zs ((([]:List RTm)++rs++[rw_]).length) zt]) hs (fun _ hs=>lD ?_)));obtain ⟨yk,hs,zS⟩:=hs.pubr 0 (A:=zs) (c:=zt) (l:=([]:List RTm)++rs++[rw_]) (f:=rmc) (ty:=31) (sz:=7) rtm0 (fun _=>rfl);intro a_ ka;replace hs:=(hs.tl.tl.tl.tl.add (K:=fun h_=>SpO (d+1) h_ (⟨op,n,bq,zA,zn,zc,dA,dn,dc,s,zs,(([]:List RTm)++rs++[rw_]).length,zt⟩:RTm) (.mk op n q s (ks++[.mk 1 0 (((1:Int)):Rat) ⟨#[]⟩ []]))) ⟨(RmH.mk hs.f.q.r.1 (((hs.f.q.1).mono (show d≤d+3 by omega)).snoc ((hs.f.r.2.1).mono oM)) zS hs.f.1),sm_mk (by rw[List.length_append,List.length_singleton];omega) (by omega:(-1000:Int)≤op∧(op:Int)≤1000) (by omega:(-1000:Int)≤n∧(n:Int)≤1000) hq hsw (fun i hi=>getD_snocE (SmT smw (d+3)) (fun i hi=>(wf_smw (hW i hi)).mono oM) sm_w hi)⟩);exact ⟨_,⟨(⟨op,n,bq,zA,zn,zc,dA,dn,dc,s,zs,(([]:List RTm)++rs++[rw_]).length,zt⟩:RTm),(.mk op n q s (ks++[.mk 1 0 (((1:Int)):Rat) ⟨#[]⟩ []])),yk,rfl,hs.to _ _⟩,ka.to _ kR⟩
      have zJ:=eq_of_beq zk;refine lB 69 zk (lL hs [.m 68 69] (lNIT (kQ (lL hs [.m 70 3] (lCval 71 hs (hPick (by_) 3 oM oM _ _ hs.g) (fun _ _ hs=>?_))))));have lp75:=pick_lt (by_) 3 oM;refine lC 72 hs (rOf (pick (by_) 3:Nat) oM oM _ _ hs.g) ?_;rintro _ _ yl hs ⟨zu,zv,zw,zx,rfl,zU,zW,zX,ya⟩;replace hs:=hs.aP zX ya;refine lL hs [.v 73 (qP b1 2)] (lP 1 2 (rqx (((pick (by_) 3:Nat):Int):Rat) zu zv zw zx) hs (fun _ hs=>lD ?_));intro a_ ka;replace hs:=(hs.tl.tl.add (K:=fun h_=>SpO (d+1) h_ (⟨op,n,ineg (((pick (by_) 3:Nat):Int):Rat).num,zu,(lim (iabs (((pick (by_) 3:Nat):Int):Rat).num)).length,zv,zw,(lim (((pick (by_) 3:Nat):Int):Rat).den).length,zx,s,A,rs.length,c⟩:RTm) (.mk (op) (n) ((((pick (by_) 3:Nat):Int):Rat)) (s) ks)) ⟨(RmH.mk ⟨true,⟨_,_,_,_,rfl,zU,zW,hs.f.2.1,hs.f.1⟩,fun h_=>(by cases h_)⟩ hs.f.r.1 hc hs.f.r.2.1).mono oM,sm_mk oM (by omega:(-1000:Int)≤op∧(op:Int)≤1000) (by omega:(-1000:Int)≤n∧(n:Int)≤1000) (LQ.int oM oM) hsw (fun i hi=>(wf_smw (hW i hi)).mono oM)⟩);exact ⟨_,⟨(⟨op,n,ineg (((pick (by_) 3:Nat):Int):Rat).num,zu,(lim (iabs (((pick (by_) 3:Nat):Int):Rat).num)).length,zv,zw,(lim (((pick (by_) 3:Nat):Int):Rat).den).length,zx,s,A,rs.length,c⟩:RTm),(.mk (op) (n) ((((pick (by_) 3:Nat):Int):Rat)) (s) ks),yl,rfl,hs.to _ _⟩,ka.to _ kR⟩
     have zI:=eq_of_beq zj;refine lB 62 zj (lL hs [.m 61 62] (lNIT (kQ (lL hs [.v 63 (.agg #[eS,.string (⟨#[109,97,120]⟩),.string (⟨#[120,95,49]⟩),.string (⟨#[49,120]⟩)]),.m 64 3] ?_))))
     rcases pick4 by_ with hq0|hq1|hq2|hq3
     ·
      refine lCval 65 hs ((by have q_:=hPick by_ 4 oM oM _ _ hs.g;rw[hq0] at q_;exact q_)) (fun _ ym hs=>lL hs [.v 66 (eS),.v 67 (qP b1 5)] (lP 1 5 ([eS]) hs (fun _ hs=>lD ?_)));intro a_ ka;replace hs:=(hs.add (K:=fun h_=>SpO (d+1) h_ (⟨op,n,bq,zA,zn,zc,dA,dn,dc,⟨#[]⟩,A,rs.length,c⟩:RTm) (.mk (op) (n) q (⟨#[]⟩) ks)) ⟨(RmH.mk hs.f.r.1 hs.f.1 hc hs.f.2.1).mono oM,sm_mk oM (by omega:(-1000:Int)≤op∧(op:Int)≤1000) (by omega:(-1000:Int)≤n∧(n:Int)≤1000) hq (by unfold smw;decide) (fun i hi=>(wf_smw (hW i hi)).mono oM)⟩);exact ⟨_,⟨(⟨op,n,bq,zA,zn,zc,dA,dn,dc,⟨#[]⟩,A,rs.length,c⟩:RTm),(.mk (op) (n) q (⟨#[]⟩) ks),ym,rfl,hs.to _ _⟩,ka.to _ kR⟩
     ·
      refine lCval 65 hs ((by have q_:=hPick by_ 4 oM oM _ _ hs.g;rw[hq1] at q_;exact q_)) (fun _ yn hs=>lL hs [.v 66 (.string (⟨#[109,97,120]⟩)),.v 67 (qP b1 5)] (lP 1 5 ([.string (⟨#[109,97,120]⟩)]) hs (fun _ hs=>lD ?_)));intro a_ ka;replace hs:=(hs.add (K:=fun h_=>SpO (d+1) h_ (⟨op,n,bq,zA,zn,zc,dA,dn,dc,⟨#[109,97,120]⟩,A,rs.length,c⟩:RTm) (.mk (op) (n) q (⟨#[109,97,120]⟩) ks)) ⟨(RmH.mk hs.f.r.1 hs.f.1 hc hs.f.2.1).mono oM,sm_mk oM (by omega:(-1000:Int)≤op∧(op:Int)≤1000) (by omega:(-1000:Int)≤n∧(n:Int)≤1000) hq (by unfold smw;decide) (fun i hi=>(wf_smw (hW i hi)).mono oM)⟩);exact ⟨_,⟨(⟨op,n,bq,zA,zn,zc,dA,dn,dc,⟨#[109,97,120]⟩,A,rs.length,c⟩:RTm),(.mk (op) (n) q (⟨#[109,97,120]⟩) ks),yn,rfl,hs.to _ _⟩,ka.to _ kR⟩
     ·
      refine lCval 65 hs ((by have q_:=hPick by_ 4 oM oM _ _ hs.g;rw[hq2] at q_;exact q_)) (fun _ yo hs=>lL hs [.v 66 (.string (⟨#[120,95,49]⟩)),.v 67 (qP b1 5)] (lP 1 5 ([.string (⟨#[120,95,49]⟩)]) hs (fun _ hs=>lD ?_)));intro a_ ka;replace hs:=(hs.add (K:=fun h_=>SpO (d+1) h_ (⟨op,n,bq,zA,zn,zc,dA,dn,dc,⟨#[120,95,49]⟩,A,rs.length,c⟩:RTm) (.mk (op) (n) q (⟨#[120,95,49]⟩) ks)) ⟨(RmH.mk hs.f.r.1 hs.f.1 hc hs.f.2.1).mono oM,sm_mk oM (by omega:(-1000:Int)≤op∧(op:Int)≤1000) (by omega:(-1000:Int)≤n∧(n:Int)≤1000) hq (by unfold smw;decide) (fun i hi=>(wf_smw (hW i hi)).mono oM)⟩);exact ⟨_,⟨(⟨op,n,bq,zA,zn,zc,dA,dn,dc,⟨#[120,95,49]⟩,A,rs.length,c⟩:RTm),(.mk (op) (n) q (⟨#[120,95,49]⟩) ks),yo,rfl,hs.to _ _⟩,ka.to _ kR⟩
     refine lCval 65 hs ((by have q_:=hPick by_ 4 oM oM _ _ hs.g;rw[hq3] at q_;exact q_)) (fun _ yb hs=>lL hs [.v 66 (.string (⟨#[49,120]⟩)),.v 67 (qP b1 5)] (lP 1 5 ([.string (⟨#[49,120]⟩)]) hs (fun _ hs=>lD ?_)));intro a_ ka;replace hs:=(hs.add (K:=fun h_=>SpO (d+1) h_ (⟨op,n,bq,zA,zn,zc,dA,dn,dc,⟨#[49,120]⟩,A,rs.length,c⟩:RTm) (.mk (op) (n) q (⟨#[49,120]⟩) ks)) ⟨(RmH.mk hs.f.r.1 hs.f.1 hc hs.f.2.1).mono oM,sm_mk oM (by omega:(-1000:Int)≤op∧(op:Int)≤1000) (by omega:(-1000:Int)≤n∧(n:Int)≤1000) hq (by unfold smw;decide) (fun i hi=>(wf_smw (hW i hi)).mono oM)⟩);exact ⟨_,⟨(⟨op,n,bq,zA,zn,zc,dA,dn,dc,⟨#[49,120]⟩,A,rs.length,c⟩:RTm),(.mk (op) (n) q (⟨#[49,120]⟩) ks),yb,rfl,hs.to _ _⟩,ka.to _ kR⟩
    have zH:=eq_of_beq zi;refine lB 56 zi (lL hs [.m 55 56] (lNIT (kQ (lL hs [.m 57 3] (lCval 58 hs (hPick (by_) 30 oM oM _ _ hs.g) (fun _ yc hs=>?_))))));have lp106:=pick_lt (by_) 30 oM;refine lI 59 ((pick (by_) 30:Nat)-15) (lL hs [.v 60 (qP b1 1)] (lP 1 1 ([iV ((pick (by_) 30:Nat)-15)]) hs (fun _ hs=>lD ?_)));intro a_ ka;replace hs:=(hs.add (K:=fun h_=>SpO (d+1) h_ (⟨op,(pick (by_) 30:Nat)-15,bq,zA,zn,zc,dA,dn,dc,s,A,rs.length,c⟩:RTm) (.mk (op) ((pick (by_) 30:Nat)-15) q (s) ks)) ⟨(RmH.mk hs.f.r.1 hs.f.1 hc hs.f.2.1).mono oM,sm_mk oM (by omega:(-1000:Int)≤op∧(op:Int)≤1000) (by omega:(-1000:Int)≤(pick (by_) 30:Nat)-15∧((pick (by_) 30:Nat)-15:Int)≤1000) hq hsw (fun i hi=>(wf_smw (hW i hi)).mono oM)⟩);exact ⟨_,⟨(⟨op,(pick (by_) 30:Nat)-15,bq,zA,zn,zc,dA,dn,dc,s,A,rs.length,c⟩:RTm),(.mk (op) ((pick (by_) 30:Nat)-15) q (s) ks),yc,rfl,hs.to _ _⟩,ka.to _ kR⟩
   have zG:=eq_of_beq zg;refine lB 50 zg (lL hs [.m 49 50] (lNIT (kQ (lL hs [.m 51 3] (lCval 52 hs (hPick (by_) 16 oM oM _ _ hs.g) (fun _ yd hs=>?_))))));have lp111:=pick_lt (by_) 16 oM;refine lI 53 ((pick (by_) 16:Nat)-1) (lL hs [.v 54 (pB b1)] (lP 1 0 ([iV ((pick (by_) 16:Nat)-1)]) hs (fun _ hs=>lD ?_)));intro a_ ka;replace hs:=(hs.add (K:=fun h_=>SpO (d+1) h_ (⟨(pick (by_) 16:Nat)-1,n,bq,zA,zn,zc,dA,dn,dc,s,A,rs.length,c⟩:RTm) (.mk ((pick (by_) 16:Nat)-1) (n) q (s) ks)) ⟨(RmH.mk hs.f.r.1 hs.f.1 hc hs.f.2.1).mono oM,sm_mk oM (by omega:(-1000:Int)≤(pick (by_) 16:Nat)-1∧((pick (by_) 16:Nat)-1:Int)≤1000) (by omega:(-1000:Int)≤n∧(n:Int)≤1000) hq hsw (fun i hi=>(wf_smw (hW i hi)).mono oM)⟩);exact ⟨_,⟨(⟨(pick (by_) 16:Nat)-1,n,bq,zA,zn,zc,dA,dn,dc,s,A,rs.length,c⟩:RTm),(.mk ((pick (by_) 16:Nat)-1) (n) q (s) ks),yd,rfl,hs.to _ _⟩,ka.to _ kR⟩
  rintro _ _ ⟨r1,t1,_,rfl,hs⟩;exact cSLlL hs [.o 96 (.agg #[iV r1.op,iV r1.n,.bool r1.neg,qS r1.zA r1.zn r1.zc,qS r1.dA r1.dn r1.dc,.string r1.s,qS r1.A r1.m r1.c]) 1 0 7] (lP 0 0 ([iV r1.op,iV r1.n,.bool r1.neg,qS r1.zA r1.zn r1.zc,qS r1.dA r1.dn r1.dc,.string r1.s,qS r1.A r1.m r1.c]) hs (fun _ hs=>lNkXr hs [(0,0,7)] (.agg #[iV r1.op,iV r1.n,.bool r1.neg,qS r1.zA r1.zn r1.zc,qS r1.dA r1.dn r1.dc,.string r1.s,qS r1.A r1.m r1.c]) (⟨r1,t1,rfl,hs.f.1⟩)))
 try rw[zf] at hs
 try rw[zf]
 refine cIT (cSL ?_);have hT20_:=zR aM;refine lL hs [.m 21 3,.v 22 (qP b1 6),.o 23 (qS A rs.length c) 1 6 1,.v 24 (nV rs.length)] (lCval 25 hs (hPick (by_) rs.length oM oM _ _ hs.g) (fun _ _ hs=>?_));have lp119:=pick_lt (by_) rs.length oM;refine lL hs [.m 9 25] (lNS (lL hs [.o 26 (.agg #[iV op,iV n,.bool bq,qS zA zn zc,qS dA dn dc,.string s,qS A rs.length c]) 1 0 7] (lA 10 31 ([iV 0,iV 0,qF,sZ,sZ,eS,sZ]) hs (fun zq _ _ hs=>lP 0 0 ([iV op,iV n,.bool bq,qS zA zn zc,qS dA dn dc,.string s,qS A rs.length c]) hs (fun _ hs=>lNS (lRw 27 31 7 rmc ([]:List RTm) hs (fun ye _ _ hs=>lL hs [.v 28 (qP b1 6),.o 29 (qS A rs.length c) 2 6 1] (lYa 30 0 31 7 ((([]:List RTm)).length) (sB ye) ([]:List RTm) rmc rtm0 A rs rs.length c 112 (.agg #[iV 0,iV 0,qF,sZ,sZ,eS,sZ]) hs hs.f.2.1 (fun zr za _ _ hs=>lL hs [.v 31 (qP zq 6)] (lP 0 6 ([qS zr ((([]:List RTm)++rs).length) za]) hs (fun _ hs=>lNcQ (cR 13 [] mixed hs al_nil ?_))))))))))));refine eV 0 32 (qP zq 6) (eO 1 33 [(0,6,1)] (qS zr ((([]:List RTm)++rs).length) za) hs (eV 2 34 (nV (pick (by_) rs.length)) (eV 3 35 (qP b1 6) (eO 4 36 [(2,6,1)] (qS A rs.length c) hs (eV 5 37 (nV (pick (by_) rs.length)) (eX 6 38 A rs.length c 7 (pick (by_) rs.length:Nat) (pick (by_) rs.length) ((hs.f.2.1).ok oM) (eH 7 39 (.agg #[iV ((rs.getD (pick (by_) rs.length) rtm0).op),iV ((rs.getD (pick (by_) rs.length) rtm0).n),.bool ((rs.getD (pick (by_) rs.length) rtm0).neg),qS ((rs.getD (pick (by_) rs.length) rtm0).zA) ((rs.getD (pick (by_) rs.length) rtm0).zn) ((rs.getD (pick (by_) rs.length) rtm0).zc),qS ((rs.getD (pick (by_) rs.length) rtm0).dA) ((rs.getD (pick (by_) rs.length) rtm0).dn) ((rs.getD (pick (by_) rs.length) rtm0).dc),.string ((rs.getD (pick (by_) rs.length) rtm0).s),qS ((rs.getD (pick (by_) rs.length) rtm0).A) ((rs.getD (pick (by_) rs.length) rtm0).m) ((rs.getD (pick (by_) rs.length) rtm0).c)]) hs ((hs.f.2.1).el (pick (by_) rs.length) oM) (eV 8 40 (iV way) (eV 9 41 (nV (pick (at_) 4)) (eI 10 42 ((pick (at_) 4:Nat)-1) (eV 11 43 (iV by_) (eC 12 44 hs (fun _ _ hs=>ih (rs.getD (pick by_ rs.length) rtm0) (ks.getD (pick by_ rs.length) tm0) way ((pick (at_) 4:Nat)-1) by_ _ _ hs.g ((hs.f.1).at_ (pick by_ rs.length) oM) (hW (pick by_ rs.length) oM)) ?_))))))))))));rintro _ _ _ _ _ hs ⟨rk,tk,rfl,hrk⟩;replace hs:=(hs.add (K:=fun h_=>SpO d h_ rk tk) hrk);refine eD0 hs (fun _ _ hs=>?_);obtain ⟨zb,zB⟩:=hs.rowA 0 (A:=zr) (c:=za) (m:=(([]:List RTm)++rs).length) (ty:=31) (sz:=7) (cs:=(([]:List RTm)++rs).flatMap rmc) oM;subst zB;refine tX 13 45 (sB zb) ((([]:List RTm)++rs).length) za 7 (pick (by_) rs.length:Nat) (pick (by_) rs.length) rfl (tRs 14 (ty:=31) (c:=za) (b:=zb) 0 (pick (by_) rs.length) 0 ([iV rk.op,iV rk.n,.bool rk.neg,qS rk.zA rk.zn rk.zc,qS rk.dA rk.dn rk.dc,.string rk.s,qS rk.A rk.m rk.c]) (([]:List RTm)++rs) rmc 7 rtm0 rk hs oM (fun _ hs=>?_));replace hs:=hs.to [⟨zq,31,[iV op,iV n,.bool bq,qS zA zn zc,qS dA dn dc,.string s,qS (sB zb) ((([]:List RTm)++rs).length) za]⟩,⟨b4,31,[iV 0,iV 0,qF,sZ,sZ,eS,sZ]⟩,⟨b1,31,[iV op,iV n,.bool bq,qS zA zn zc,qS dA dn dc,.string s,qS A rs.length c]⟩] [⟨31,7,sB zb,za,(([]:List RTm)++rs).length,((([]:List RTm)++rs).set (pick (by_) rs.length) rk).flatMap rmc⟩];refine tNS ?_;replace hs:=hs.rown [⟨31,7,sB zb,za,((([]:List RTm)++rs).set (pick (by_) rs.length) rk).length,((([]:List RTm)++rs).set (pick (by_) rs.length) rk).flatMap rmc⟩] (by simp only[List.length_set]);obtain ⟨_,hs,zN⟩:=hs.pubr 0 (A:=sB zb) (c:=za) (l:=(([]:List RTm)++rs).set (pick (by_) rs.length) rk) (f:=rmc) (ty:=31) (sz:=7) rtm0 (fun _=>rfl);exact lL hs [.o 46 (.agg #[iV op,iV n,.bool bq,qS zA zn zc,qS dA dn dc,.string s,qS (sB zb) ((([]:List RTm)++rs).length) za]) 0 0 7] (lP 1 0 ([iV op,iV n,.bool bq,qS zA zn zc,qS dA dn dc,.string s,qS (sB zb) ((([]:List RTm)++rs).length) za]) hs (fun _ hs=>lNkXr hs [(1,0,7)] (.agg #[iV op,iV n,.bool bq,qS zA zn zc,qS dA dn dc,.string s,qS (sB zb) ((([]:List RTm)++rs).length) za]) (⟨(⟨op,n,bq,zA,zn,zc,dA,dn,dc,s,sB zb,(([]:List RTm)++rs).length,za⟩:RTm),(.mk op n q s (ks.set (pick by_ rs.length) tk)),rfl,(by have h_:=RmH.mk (op:=op) (n:=n) (s:=s) hs.f.q.1 (((hs.f.r.1).mono (show d≤d+3 by omega)).set (pick by_ rs.length) (hs.f.2.1).1) zN (hs.f.1);rw[List.length_set] at h_;exact h_),sm_mk (by rw[List.length_set];omega) oM oM hq hsw (fun i hi=>getD_setE (SmT smw (d+3)) (fun i hi=>(wf_smw (hW i hi)).mono oM) (hs.f.2.1).2 hi)⟩)))
theorem mSpoiltT:∀ (d:Nat) (r:RTm) (t:Tm) (way at_ by_:Int) (w:World) (h:Hp),G w h→RmH d h r t→WfT okx d t→Calls Tryz.prog 4 #[rmv r,iV way,iV at_,iV by_] w (Ret w h (fun v h1=>∃ r1 t1,v=rmv r1∧SpO d h1 r1 t1))
  | 0,_,_,_,_,_,_,_,_,x,_=>x.elim
  | d+1,r,t,way,at_,by_,w,h,g,x,wf=>by
    obtain ⟨op,n,b,zA,zn,zc,dA,dn,dc,q,s,A,c,rs,ks,rfl,rfl,hZ,hc,hK,hKs⟩:=x.open;have hl2:ks.length≤2:=wf.two;have hsw:smw s:=(wf_smw wf).2.2.2.2.1;obtain ⟨w1,w2,w3,w4,w5,w6,w7,w8,w9⟩:=wf;exact mSpoiltS d (fun r t way at_ by_ w h=>mSpoiltT d r t way at_ by_ w h) op n b zA zn zc dA dn dc q s A c rs ks hc way at_ by_ hl2 w1 w7 w8 w3 hsw w9 w h g hZ hK hKs
theorem rz_no_ {h:Hp}{b:Bool}{zA dA:Option Addr}{zn zc dn dc:Nat}{q:Rat}(x:RZ h (b,.slice zA zn zc,.slice dA dn dc) q)(e:dn=0):q=0:=by subst e;exact rz_no x
theorem mInTermS  (sm:ByteArray→Prop)(d:Nat)(ih:∀ (r:RTm) (t:Tm) (w:World) (h:Hp),G w h→RmH d h r t→SmT sm d t→Tab h→Calls Tryz.prog 6 #[rmv r] w (Ret w h (fun v h1=>∃ p,v=ptv p∧TmH d h1 p t)))(op n:Int)(bq:Bool)(zA:Option Addr)(zn zc:Nat)(dA:Option Addr)(dn dc:Nat)(q:Rat)(s:ByteArray)(A:Option Addr)(c:Nat)(rs:List RTm)(ks:List Tm)(hc:rs.length≤c)(hk3:ks.length≤3)(hop : -1000≤op∧op≤1000)(hn : -1000≤n∧n≤1000)(hq:LQ 1 q)(hsm:sm s)(hW:∀ i,i<ks.length→SmT sm d (ks.getD i tm0))(w:World)(h:Hp)(g:G w h)(hZ:RZ h (bq,.slice zA zn zc,.slice dA dn dc) q)(hK:SlO 7 rmc rtm0 h A rs)(hKs:Rms d h rs ks)(tb:Tab h):CR 6 #[.agg #[iV op,iV n,.bool bq,.slice zA zn zc,.slice dA dn dc,.string s,.slice A rs.length c]] w h (fun v h1=>∃ p,v=ptv p∧TmH (d+1) h1 p (.mk op n q s ks)):=by
 have hs:=(((((sS g).add (K:=fun h_=>RZ h_ (bq,qS zA zn zc,qS dA dn dc) q) hZ).aS hK).add (K:=fun h_=>Rms d h_ rs ks) hKs).aB tb);have hln:=(hs.f.2.1).len;refine go Tryz.func6 [(0,.agg #[iV op,iV n,.bool bq,qS zA zn zc,qS dA dn dc,.string s,qS A rs.length c])] rfl (cSL (lA 1 31 ([iV op,iV n,.bool bq,qS zA zn zc,qS dA dn dc,.string s,qS A rs.length c]) hs (fun b1 w2 h3 hs=>lA 2 43 ([iV 0,iV 0,qF,uV 0,eS,uV 0,eS,eS,sZ]) hs (fun b4 w5 h6 hs=>lNS (lL hs [.v 5 (pB b1),.o 6 (iV op) 1 0 1,.v 7 (qP b1 1),.o 8 (iV n) 1 1 1,.v 9 (qP b1 5),.o 10 (.string s) 1 5 1,.v 11 (.agg #[iV op,iV n,qF,uV 0,eS,uV 0,eS,.string s,sZ])] (lA 3 43 ([iV 0,iV 0,qF,uV 0,eS,uV 0,eS,eS,sZ]) hs (fun b7 w8 h9 hs=>lP 0 0 ([iV op,iV n,qF,uV 0,eS,uV 0,eS,.string s,sZ]) hs (fun _ hs=>?_))))))));refine lN (CG.join (fun Γ w_=>∃ (qq:Rat) (h_:Hp),Γ=[(1,pB b1),(2,pB b4),(3,pB b7)]∧SS w h w_ h_ [⟨b7,43,[iV op,iV n,.bool (ineg qq.num),uV (lo (iabs qq.num)),.string (hi (iabs qq.num)),uV (lo (qd qq)),.string (hi (qd qq)),.string s,sZ]⟩,⟨b4,43,[iV 0,iV 0,qF,uV 0,eS,uV 0,eS,eS,sZ]⟩,⟨b1,31,[iV op,iV n,.bool bq,qS zA zn zc,qS dA dn dc,.string s,qS A rs.length c]⟩] [] [fun h_=>Tab h_,fun h_=>Rms d h_ rs ks,fun h_=>SlO 7 rmc rtm0 h_ A rs,fun h_=>RZ h_ (bq,qS zA zn zc,qS dA dn dc) q]∧qq=q) ?_ ?_)
 ·
  refine cSLlL hs [.v 12 (qP b1 2),.v 13 (qP b1 4),.o 14 (qS dA dn dc) 2 4 1,.v 15 (nV dn)] ?_;cases za:(decide ((0:Int)<(dn:Int)))
  ·
   have zd:=oF za;refine lB 16 za (lNIF (CG.skip ?_));intro a_ ka;exact ⟨_,⟨0,h9,rfl,hs.to _ _,((rz_no_ hs.f.r.2.1 oM).symm)⟩,ka.to _ kR⟩
  have zd:=oT za;refine lB 16 za (lNIT (kQ (lL hs [.v 17 (qP b1 2),.o 18 (.agg #[.bool bq,qS zA zn zc,qS dA dn dc]) 2 2 3] (lCval 19 hs (hInV (.agg #[.bool bq,qS zA zn zc,qS dA dn dc]) q (hq.mono oM) _ _ hs.g (rz_has hs.f.r.2.1 oM) hs.f.1) (fun _ zj hs=>lL hs [.v 20 (qP b7 2)] (lP 0 2 (qc q) hs (fun _ hs=>lD ?_)))))));intro a_ ka;exact ⟨_,⟨q,zj,rfl,hs.to _ _,rfl⟩,ka.to _ kR⟩
 rintro _ _ ⟨qq,zk,rfl,hs,hqq⟩;refine cQ (cSLlL hs [.v 4 (iV 0)] (lNkZ ?_));replace hs:=hs.nil 43 9;refine cTo [(1,pB b1),(2,pB b4),(3,pB b7),(4,iV 0)] ?_;replace hs:=hs.add (K:=fun h_=>Tms d h_ ([]) (ks.take 0)) (Tms.nil);refine CG.loop (fun μ_ Γ w_=>∃ (k:Nat) (saA:Option Addr) (sac:Nat) (al:List PTm) (h_:Hp),μ_=rs.length-k∧Γ=[(1,pB b1),(2,pB b4),(3,pB b7),(4,nV k)]∧SS w h w_ h_ [⟨b7,43,pG op n qq s saA ((al).length) sac⟩,⟨b4,43,[iV 0,iV 0,qF,uV 0,eS,uV 0,eS,eS,sZ]⟩,⟨b1,31,[iV op,iV n,.bool bq,qS zA zn zc,qS dA dn dc,.string s,qS A rs.length c]⟩] [⟨43,9,saA,sac,(al).length,(al).flatMap ptc⟩] [fun h_=>Tms d h_ al (ks.take k),fun h_=>Tab h_,fun h_=>Rms d h_ rs ks,fun h_=>SlO 7 rmc rtm0 h_ A rs,fun h_=>RZ h_ (bq,qS zA zn zc,qS dA dn dc) q]∧k≤rs.length) _ ⟨0,none,0,[],zk,rfl,rfl,hs.to _ _,Nat.zero_le _⟩ ?_;rintro _ _ _ ⟨k,saA,sac,al,_,hm21,rfl,hs,hk⟩;have hlT:=(hs.f.1).len;rw[List.length_take] at hlT
 refine cQ (cSLlL hs [.m 21 4,.v 22 (qP b1 6),.o 23 (qS A rs.length c) 2 6 1,.v 24 (nV rs.length)] ?_);cases zb:(decide ((k:Int)<(rs.length:Int)))
 ·
  have ze:=oF zb;refine lB 25 zb (lNIF (CG.exit ?_))
  show CG _ _ _ _ _ _ _ _
  refine cSL ?_;have hkl:k=ks.length:=by omega
  obtain ⟨_,hs,zi⟩:=hs.pubr 0 (A:=saA) (c:=sac) (l:=al) (f:=ptc) (ty:=43) (sz:=9) ptm0 (fun _=>rfl);exact lL hs [.o 39 (pW op n qq s saA ((al).length) sac) 0 0 9] (lP 1 0 (pG op n qq s saA ((al).length) sac) hs (fun _ hs=>lNkXr hs [(1,0,9)] (pW op n qq s saA ((al).length) sac) (⟨⟨op,n,qq,s,saA,al.length,sac⟩,rfl,by subst hqq;exact TmH.mk (by have x_:=(hs.f.2.1);rw[hkl,List.take_length] at x_;exact x_) zi hs.f.1⟩)))
 have ze:=oT zb;refine lB 25 zb (lNIT (cK (cQ (kZ (CG.region ⟨((Value.slice saA ((al).length) sac).ownBlock.toList),none⟩ 10 [] mixed kR hs.g al_nil (hs.ro_lt 0 (ty:=43) (sz:=9) (A:=saA) (c:=sac) (m:=(al).length) (cs:=(al).flatMap ptc)) ?_)))));refine eV 0 28 (qP b7 8) (eO 1 29 [(0,8,1)] (qS saA ((al).length) sac) hs ?_ (hM:=fun p hp=>by obtain rfl:=List.mem_singleton.1 hp;exact hs.ro_ne 0 0 (ty:=43) (sz:=9) (A:=saA) (c:=sac) (m:=(al).length) (cs:=(al).flatMap ptc)));refine eV 2 30 (qP b1 6) (eO 3 31 [(2,6,1)] (qS A rs.length c) hs ?_ (hM:=fun p hp=>by obtain rfl:=List.mem_singleton.1 hp;exact hs.ro_ne 2 0 (ty:=43) (sz:=9) (A:=saA) (c:=sac) (m:=(al).length) (cs:=(al).flatMap ptc)));refine eV 4 32 (nV k) (eX 5 33 A rs.length c 7 (k:Nat) k ((hs.f.r.2.1).ok oM) (eH 6 34 (.agg #[iV ((rs.getD k rtm0).op),iV ((rs.getD k rtm0).n),.bool ((rs.getD k rtm0).neg),qS ((rs.getD k rtm0).zA) ((rs.getD k rtm0).zn) ((rs.getD k rtm0).zc),qS ((rs.getD k rtm0).dA) ((rs.getD k rtm0).dn) ((rs.getD k rtm0).dc),.string ((rs.getD k rtm0).s),qS ((rs.getD k rtm0).A) ((rs.getD k rtm0).m) ((rs.getD k rtm0).c)]) hs ((hs.f.r.2.1).el k oM) ?_ (hM:=hs.ro_jk 0 (ty:=43) (sz:=9) (A:=saA) (c:=sac) (m:=(al).length) (cs:=(al).flatMap ptc))));refine eC 7 35 hs (fun _ _ hs=>ih (rs.getD k rtm0) (ks.getD k tm0) _ _ hs.g ((hs.f.r.1).at_ k oM) (hW k oM) hs.f.2.1) ?_;rintro _ _ _ _ _ hs ⟨pk,rfl,hpk⟩;replace hs:=(hs.add (K:=fun h_=>TmH d h_ pk (ks.getD k tm0)) hpk);refine eR 8 36 43 1 (pC pk) hs (fun zl _ _ hs=>eY 9 37 0 43 9 sac saA al ptc pk 112 zl (.agg #[iV 0,iV 0,qF,uV 0,eS,uV 0,eS,eS,sZ]) hs (fun _ f_=>f_.1) (fun b hb=>Option.mem_toList.2 hb) (fun zf zg _ _ hs=>eD0 hs (fun _ zm hs=>tV 10 38 (qP b7 8) (tP 11 0 8 ([qS zf ((al++[pk]).length) zg]) hs (fun _ hs=>tN (kQ (lL hs [.m 26 4] (lIn 27 ((k:Nat)+1) (k+1) ?_))))))));refine lL hs [.m 4 27] (lD ?_);intro a_ ka;replace hs:=(hs.tl.tl.tl.add (K:=fun h_=>Tms d h_ (al++[pk]) (ks.take (k+1))) (by rw[take_snoc' tm0 oM];exact (hs.f.r.1).snoc hs.f.2.1));refine ⟨_,_,?_,⟨k+1,zf,zg,al++[pk],zm,rfl,rfl,hs.to _ _,oM⟩,ka.to _ kR⟩
 omega
theorem mInTerm (sm:ByteArray→Prop):∀ (d:Nat) (r:RTm) (t:Tm) (w:World) (h:Hp),G w h→RmH d h r t→SmT sm d t→Tab h→Calls Tryz.prog 6 #[rmv r] w (Ret w h (fun v h1=>∃ p,v=ptv p∧TmH d h1 p t))
  | 0,_,_,_,_,_,x,_,_=>x.elim
  | d+1,r,t,w,h,g,x,wf,tb=>by
    obtain ⟨op,n,b,zA,zn,zc,dA,dn,dc,q,s,A,c,rs,ks,rfl,rfl,hZ,hc,hK,hKs⟩:=x.open;obtain ⟨s1,s2,s3,s4,s5,s6⟩:=wf;exact mInTermS sm d (fun r t w h=>mInTerm sm d r t w h) op n b zA zn zc dA dn dc q s A c rs ks hc s1 s2 s3 s4 s5 s6 w h g hZ hK hKs tb
theorem rCheckM  (isb:ByteArray→Bool)(sm:ByteArray→Prop)(hIs:∀ s,sm s→∀ (w:World) (h:Hp),G w h→Calls Tryz.prog 64 #[.string s] w (Ret w h (fun v _=>∃ b,v=.bool b∧b=isb s)))(d:Nat)(r:RTm)(t:Tm)(hd:d≤24)(w:World)(h:Hp)(g:G w h)(hR:RmH d h r t)(hS:SmT sm d t):CR 11 #[.agg #[iV r.op,iV r.n,.bool r.neg,.slice r.zA r.zn r.zc,.slice r.dA r.dn r.dc,.string r.s,.slice r.A r.m r.c]] w h (fun v _=>∃ e:Int,v=iV e∧((WfT (fun s=>isb s=true) d t∧e=(if 1000<wgt d t then 18 else 0))∨(¬WfT (fun s=>isb s=true) d t∧e=2))):=by
 have hs:=((sS g).add (K:=fun h_=>RmH d h_ r t) hR);refine go Tryz.func11 [(0,.agg #[iV r.op,iV r.n,.bool r.neg,qS r.zA r.zn r.zc,qS r.dA r.dn r.dc,.string r.s,qS r.A r.m r.c])] rfl (cSL (lA 1 31 ([iV r.op,iV r.n,.bool r.neg,qS r.zA r.zn r.zc,qS r.dA r.dn r.dc,.string r.s,qS r.A r.m r.c]) hs (fun b1 w2 h3 hs=>lL hs [.v 2 (iV 0)] (lNcQ (kZ (cSLlL hs [.o 4 (.agg #[iV r.op,iV r.n,.bool r.neg,qS r.zA r.zn r.zc,qS r.dA r.dn r.dc,.string r.s,qS r.A r.m r.c]) 0 0 7] (lCval 5 hs (rDeepM sm d r t _ _ hs.g hs.f.1 hS oM) (fun w4 h5 hs=>?_))))))));have hdl_:=dpt_le d t;cases hb6:(decide ((24:Int)<((dpt d t:Nat):Int)))
 ·
  have phb6:=oF hb6;refine lB 6 hb6 (lL hs [.m 3 6] (lNIF (cSLlL hs [.o 8 (.agg #[iV r.op,iV r.n,.bool r.neg,qS r.zA r.zn r.zc,qS r.dA r.dn r.dc,.string r.s,qS r.A r.m r.c]) 0 0 7] (lC 9 hs (rFormedT isb sm hIs d r t _ _ hs.g hs.f.1 hS) ?_))));rintro _ w7 h8 hs ⟨bf,rfl,hbf⟩;cases hb9:(bf)
  ·
   exact lL hs [.v 10 qT,.m 7 10] (lNIT (cSLlL hs [.v 2 (iV 2)] (lNkXr hs [] (iV 2) (⟨_,rfl,.inr ⟨fun h_=>Bool.noConfusion ((hbf.2 h_).symm.trans aM),rfl⟩⟩))))
  refine lL hs [.v 10 qF,.m 7 10] (lNIF (cSLlL hs [.o 12 (.agg #[iV r.op,iV r.n,.bool r.neg,qS r.zA r.zn r.zc,qS r.dA r.dn r.dc,.string r.s,qS r.A r.m r.c]) 0 0 7] (lCval 13 hs (rHeavyM sm d r t _ _ hs.g hs.f.1 hS) (fun _ _ hs=>?_))));cases za:(decide ((1000:Int)<(((min (wgt d t) 1073741824:Nat):Int):Int)))
  ·
   have zb:=oF za;exact lB 14 za (lL hs [.m 11 14] (lNIF (cK (cSLlL hs [.v 2 (iV 0)] (lNkXr hs [] (iV 0) (⟨_,rfl,.inl ⟨hbf.1 aM,(if_neg oM).symm⟩⟩))))))
  have zb:=oT za;exact lB 14 za (lL hs [.m 11 14] (lNIT (cSLlL hs [.v 2 (iV 18)] (lNkXr hs [] (iV 18) (⟨_,rfl,.inl ⟨hbf.1 aM,(if_pos oM).symm⟩⟩)))))
 have phb6:=oT hb6;refine lB 6 hb6 (lL hs [.m 3 6] (lNIT (cSLlL hs [.v 2 (iV 19)] (lN (kX ?_)))))
 exfalso;omega
theorem mTermD (A:Option Addr)(cap:Nat)(zs:List Int)(hl:zs.length≤9223372036854775807)(hz:I64s zs)(dp:Nat)(hdp:dp≤1000)(w:World)(h:Hp)(g:G w h)(hA:Si A zs h):CR 5 #[.slice A zs.length cap,nV dp] w h (fun v h1=>∃ (r:RTm) (t:Tm),v=rmv r∧RmH (dp+1) h1 r t∧GrT (dp+1) t):=by
 have hs:=((sS g).aS hA);refine go Tryz.func5 [(0,qS A zs.length cap),(1,nV dp)] rfl (cSL (lA 4 31 ([iV 0,iV 0,qF,sZ,sZ,eS,sZ]) hs (fun b1 w2 h3 hs=>lNS (lL hs [.m 5 0,.v 6 (.agg #[qS A zs.length cap,iV 0])] (lA 7 62 ([qS A zs.length cap,iV 0]) hs (fun b4 w5 h6 hs=>lL hs [.m 8 1] (lCm 9 (mGrow b4 dp rfl A cap zs hl hz dp rfl hdp 0 (Nat.zero_le _) _ _ hs.g (hs.own 0) (hs.jk 0) hs.f.1) ?_)))))));rintro _ w7 h8 u9 ⟨r,t,at2,rfl,hat2,hO,hR,hG⟩;replace hs:=(hs.stepM 0 u9 hO).to [⟨b4,62,[qS A zs.length cap,nV at2]⟩,⟨b1,31,[iV 0,iV 0,qF,sZ,sZ,eS,sZ]⟩] [];replace hs:=(hs.add (K:=fun h_=>RmH (dp+1) h_ r t) hR);exact lP 1 0 ([iV r.op,iV r.n,.bool r.neg,qS r.zA r.zn r.zc,qS r.dA r.dn r.dc,.string r.s,qS r.A r.m r.c]) hs (fun _ hs=>lNkXr hs [(1,0,7)] (.agg #[iV r.op,iV r.n,.bool r.neg,qS r.zA r.zn r.zc,qS r.dA r.dn r.dc,.string r.s,qS r.A r.m r.c]) (⟨r,t,rfl,hs.f.1,hG⟩))
theorem lTermChecks (A0:Option Addr)(c0:Nat)(zl:List Int)(way at_ by_:Int)(hl0:zl.length≤9223372036854775807)(hz0:I64s zl)(w:World)(h:Hp)(g:G w h)(hA0:Si A0 zl h)(tb:Tab h):CV 3 #[.slice A0 zl.length c0,iV way,iV at_,iV by_] w h (.bool true):=by
 have hs:=(((sS g).aS hA0).aB tb);refine go Tryz.func3 [(0,qS A0 zl.length c0),(1,iV way),(2,iV at_),(3,iV by_)] rfl (cSLlL hs [.v 8 qF] (lNS (lL hs [.m 14 0] (lC 15 hs (mTermD A0 c0 zl hl0 hz0 4 kD _ _ hs.g hs.f.2.1) ?_))));rintro _ w1 h2 hs ⟨r0,t0,rfl,hR,hG0⟩;replace hs:=(hs.add (K:=fun h_=>RmH 5 h_ r0 t0) hR);refine lL hs [.m 16 1,.m 17 2,.m 18 3] (lC 19 hs (mSpoiltT 5 r0 t0 way at_ by_ _ _ hs.g hs.f.1 hG0.1) ?_);rintro _ w3 h4 hs ⟨rk,tk,rfl,hrk⟩;replace hs:=(hs.add (K:=fun h_=>SpO 5 h_ rk tk) hrk);refine lA 9 31 ([iV 0,iV 0,qF,sZ,sZ,eS,sZ]) hs (fun b5 w6 h7 hs=>lP 0 0 ([iV rk.op,iV rk.n,.bool rk.neg,qS rk.zA rk.zn rk.zc,qS rk.dA rk.dn rk.dc,.string rk.s,qS rk.A rk.m rk.c]) hs (fun w8 hs=>lNS (lL hs [.o 20 (.agg #[iV rk.op,iV rk.n,.bool rk.neg,qS rk.zA rk.zn rk.zc,qS rk.dA rk.dn rk.dc,.string rk.s,qS rk.A rk.m rk.c]) 0 0 7] (lC 21 hs (mInTerm smw 8 rk tk _ _ hs.g (hs.f.1).1 (hs.f.1).2 hs.f.r.1) ?_))));rintro _ w9 _ hs ⟨pk,rfl,hpk⟩;replace hs:=(hs.add (K:=fun h_=>TmH 8 h_ pk tk) hpk);refine lA 10 43 ([iV 0,iV 0,qF,uV 0,eS,uV 0,eS,eS,sZ]) hs (fun zi _ _ hs=>lP 0 0 (pC pk) hs (fun _ hs=>lNcQ ?_));have hsr:=hs;refine cRz 4 [] [] mixed hs al_nil (eO 0 22 [(0,0,9)] (pX pk) hs (eOz 2 24 [(1,0,7)] (.agg #[iV rk.op,iV rk.n,.bool rk.neg,qS rk.zA rk.zn rk.zc,qS rk.dA rk.dn rk.dc,.string rk.s,qS rk.A rk.m rk.c]) hsr hs (eC 1 23 hs (fun _ _ hs=>tNamesM smw (fun s h_=>h_) 8 kD pk tk _ _ hs.g hs.f.1 (hs.f.2.1).2) ?_)));rintro _ _ _ _ _ hs ⟨xA,xc,xss,rfl,hxc,hxl,hX,hxm,hxr⟩;replace hs:=hs.aS hX;refine eC 3 25 hs (fun _ _ hs=>rNamesMA smw 8 rk tk (hs.f.r.1).2 (Nat.le_trans (Nat.le_of_succ_le (cnt_leM (hs.f.r.1).2)) kD) _ _ hs.g (hs.f.r.1).1) ?_;rintro _ _ _ _ _ hs ⟨yA,yc,yss,rfl,hyc,hyl,hY,hym,hyr⟩;have hxy_:=ris_uniq hxr hyr (fun z=>(hxm z).trans (hym z).symm);subst hxy_;replace hs:=hs.aS hY;refine eD0 hs (fun _ zj hs=>tV 4 11 (qS xA xss.length xc) (tV 5 12 (qS yA xss.length yc) (tN (cQ (cSLlL hs [.m 26 11,.v 27 (nV xss.length),.m 28 12,.v 29 (nV xss.length)] ?_)))));have zb:((xss.length:Int) != (xss.length:Int))=false:=bneF rfl;have phb21:=eqOfBne zb;refine lB 30 zb (lNIF (cK (cQ (cSLlL hs [.v 13 (iV 0)] (lNkZ ?_)))));refine cTo _ (CG.loop (fun μ_ Γ w_=>∃ (k:Nat) (h_:Hp),μ_=xss.length-k∧Γ=[(9,pB b5),(10,pB zi),(11,qS xA xss.length xc),(12,qS yA xss.length yc),(13,nV k)]∧SS w h w_ h_ [⟨zi,43,pC pk⟩,⟨b5,31,[iV rk.op,iV rk.n,.bool rk.neg,qS rk.zA rk.zn rk.zc,qS rk.dA rk.dn rk.dc,.string rk.s,qS rk.A rk.m rk.c]⟩] [] [fun h_=>SlO 1 strc ⟨#[]⟩ h_ yA xss,fun h_=>SlO 1 strc ⟨#[]⟩ h_ xA xss,fun h_=>TmH 8 h_ pk tk,fun h_=>SpO 5 h_ rk tk,fun h_=>RmH 5 h_ r0 t0,fun h_=>Tab h_,Si A0 zl]∧k≤xss.length) _ ⟨0,zj,rfl,rfl,hs.to _ _,Nat.zero_le _⟩ ?_);rintro _ _ _ ⟨k,_,hm24,rfl,hs,hk⟩;refine cQ (cSLlL hs [.m 31 13,.m 32 11,.v 33 (nV xss.length)] ?_);cases za:(decide ((k:Int)<(xss.length:Int)))
 ·
  have zg:=oF za;refine lB 34 za (lNIF (CG.exit ?_))
  show CG _ _ _ _ _ _ _ _
  refine cQ (cR 27 [] mixed hs al_nil ?_);refine eCval 0 46 hs (fun _ _ hs=>lKnown26 _ _ hs.g) (fun _ _ hs=>eV 1 47 qT (eO 2 48 [(0,0,9)] (pX pk) hs (eO 4 50 [(1,0,7)] (.agg #[iV rk.op,iV rk.n,.bool rk.neg,qS rk.zA rk.zn rk.zc,qS rk.dA rk.dn rk.dc,.string rk.s,qS rk.A rk.m rk.c]) hs (eC 3 49 hs (fun _ _ hs=>tChkG isNm smw tIsW 8 pk tk kD _ _ hs.g hs.f.r.1 (hs.f.r.2.1).2) ?_))));rintro _ _ _ _ _ hs ⟨ek,rfl,hek⟩;refine eC 5 51 hs (fun _ _ hs=>rCheckM isNm smw rIsW 8 rk tk kD _ _ hs.g (hs.f.r.2.1).1 (hs.f.r.2.1).2) ?_;rintro _ _ _ _ _ hs ⟨er,rfl,her⟩;have zd:((ek:Int) == (er:Int))=true:=beqT (by rcases hek with ⟨a_,b_⟩|⟨a_,b_⟩<;>rcases her with ⟨c_,e_⟩|⟨c_,e_⟩<;>first|exact absurd a_ c_|exact absurd c_ a_|(rw[b_,e_]));have phb32:=eq_of_beq zd;refine eB 6 52 zd (eV 7 53 qT (eV 8 54 qT (eO 9 55 [(0,0,9)] (pX pk) hs (eO 11 57 [(1,0,7)] (.agg #[iV rk.op,iV rk.n,.bool rk.neg,qS rk.zA rk.zn rk.zc,qS rk.dA rk.dn rk.dc,.string rk.s,qS rk.A rk.m rk.c]) hs (eCval 10 56 hs (fun _ _ hs=>tDeepM smw 8 pk tk _ _ hs.g hs.f.r.1 (hs.f.r.2.1).2 kD) (fun _ _ hs=>eCval 12 58 hs (fun _ _ hs=>rDeepM smw 8 rk tk _ _ hs.g (hs.f.r.2.1).1 (hs.f.r.2.1).2 kD) (fun _ _ hs=>?_)))))));have ze:(((dpt 8 tk:Nat):Int) == ((dpt 8 tk:Nat):Int))=true:=beqT rfl;have phb37:=eq_of_beq ze;refine eB 13 59 ze (eV 14 60 qT (eV 15 61 qT (eO 16 62 [(0,0,9)] (pX pk) hs (eO 18 64 [(1,0,7)] (.agg #[iV rk.op,iV rk.n,.bool rk.neg,qS rk.zA rk.zn rk.zc,qS rk.dA rk.dn rk.dc,.string rk.s,qS rk.A rk.m rk.c]) hs (eCval 17 63 hs (fun _ _ hs=>tHeavyM smw 8 pk tk _ _ hs.g hs.f.r.1 (hs.f.r.2.1).2) (fun _ _ hs=>eCval 19 65 hs (fun _ _ hs=>rHeavyM smw 8 rk tk _ _ hs.g (hs.f.r.2.1).1 (hs.f.r.2.1).2) (fun _ _ hs=>?_)))))));have zf:((((min (wgt 8 tk) 1073741824:Nat):Int):Int) == (((min (wgt 8 tk) 1073741824:Nat):Int):Int))=true:=beqT rfl;have phb42:=eq_of_beq zf;exact eB 20 66 zf (eV 21 67 qT (eV 22 68 qT (eO 23 69 [(0,0,9)] (pX pk) hs (eO 24 70 [(0,0,9)] (pX pk) hs (eCval 25 71 hs (fun _ _ hs=>tSameM smw 8 pk tk _ _ hs.g hs.f.r.1 (hs.f.r.2.1).2) (fun _ _ hs=>eV 26 72 qT (eD0 hs (fun _ _ hs=>tV 27 8 qT (tN (kX (hs.ret [] qT rfl)))))))))))
 have zg:=oT za;refine lB 34 za (lNIT (cK (cQ (kZ (cQ (cR 9 [] mixed hs al_nil ?_))))));refine eV 0 37 (qS xA xss.length xc) (eV 1 38 (nV k) (eX 2 39 xA xss.length xc 1 (k:Nat) k ((hs.f.2.1).ok oM) (eH 3 40 (.string (xss.getD k ⟨#[]⟩)) hs ((hs.f.2.1).el k oM) (eV 4 41 (qS yA xss.length yc) (eV 5 42 (nV k) (eX 6 43 yA xss.length yc 1 (k:Nat) k ((hs.f.1).ok oM) (eH 7 44 (.string (xss.getD k ⟨#[]⟩)) hs ((hs.f.1).el k oM) (eV 8 45 qF ?_ (hv:=fun _=>rb kR (strS2 (xss.getD k ⟨#[]⟩)))))))))));refine eD0 hs (fun _ zk hs=>tN (cIF (cK (kQ (lL hs [.m 35 13] (lIn 36 ((k:Nat)+1) (k+1) ?_))))));refine lL hs [.m 13 36] (lD ?_);intro a_ ka;refine ⟨_,_,?_,⟨k+1,zk,rfl,rfl,hs.to _ _,oM⟩,ka.to _ kR⟩
 omega
end Go.Proofs.YthblejkgjjallaaGreatDoor
