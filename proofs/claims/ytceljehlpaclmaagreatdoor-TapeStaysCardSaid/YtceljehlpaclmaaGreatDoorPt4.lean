/- Laws and contracts that the card of this claim stands on, part 5. No condition of ours. -/
import Derived.Test.YtceljehlpaclmaaGreatDoorPt0
import Derived.Test.YtceljehlpaclmaaGreatDoorPt1
import Derived.Test.YtceljehlpaclmaaGreatDoorPt2
import Derived.Test.YtceljehlpaclmaaGreatDoorPt3
set_option maxRecDepth 100000
set_option maxHeartbeats 4000000
namespace Go.Proofs.YtceljehlpaclmaaGreatDoor
open Go.RowKit
open Go.RowKit Go.Shelf
theorem bcase:∀ b:Bool,b=false∨b=true
  | false=>.inl rfl
  | true=>.inr rfl
theorem terr_stopL {sm:Bool}{l:List Stp}{at_ L:List Rat}{k n:Nat}{e:Int}(h0:terr sm l at_ k=0)(hk:k<n)(hL:∀ j,L.getD j 0=(tvals l at_ k).getD j 0)(h:serr sm (l.getD k stp0) L=e)(he:e≠0):terr sm l at_ n=e:=by
  have e1:serr sm (l.getD k stp0) (tvals l at_ k)=e:=by rw[←h];unfold serr;rw[hL,hL]
  rw[terr_stop h0 hk (by rw[e1];exact he),e1]
theorem terr_next {sm:Bool}{l:List Stp}{at_ L:List Rat}{k:Nat}(h0:terr sm l at_ k=0)(hL:∀ j,L.getD j 0=(tvals l at_ k).getD j 0)(h:serr sm (l.getD k stp0) L=0):terr sm l at_ (k+1)=0:=by
  refine terr_step h0 ?_;rw[←h];unfold serr;rw[hL,hL]
theorem serr_2 {sm:Bool}{s:Stp}{v:List Rat}(h:s.op=2):serr sm s v=0:=if_pos h
theorem serr_0 {sm:Bool}{s:Stp}{v:List Rat}(h:okq s.op s.n (v.getD s.a.toNat 0) (v.getD s.b.toNat 0))(h2:¬(sm=true∧knk s.op (v.getD s.a.toNat 0) (v.getD s.b.toNat 0))):serr sm s v=0:=by
  by_cases e:s.op=2
  · exact if_pos e
  · unfold serr;rw[if_neg e,if_pos h,if_neg h2]
theorem serr_6 {sm:Bool}{s:Stp}{v:List Rat}(h2:s.op≠2)(h:¬okq s.op s.n (v.getD s.a.toNat 0) (v.getD s.b.toNat 0)):serr sm s v=6:=by
  unfold serr;rw[if_neg h2,if_neg h]
theorem serr_7 {s:Stp}{v:List Rat}(h2:s.op≠2)(h:okq s.op s.n (v.getD s.a.toNat 0) (v.getD s.b.toNat 0))(h3:knk s.op (v.getD s.a.toNat 0) (v.getD s.b.toNat 0)):serr true s v=7:=by
  unfold serr;rw[if_neg h2,if_pos h,if_pos ⟨rfl,h3⟩]
theorem serr_7s {sm:Bool}{s:Stp}{v:List Rat}(h2:s.op≠2)(h:okq s.op s.n (v.getD s.a.toNat 0) (v.getD s.b.toNat 0))(hs:sm=true)(h3:knk s.op (v.getD s.a.toNat 0) (v.getD s.b.toNat 0)):serr sm s v=7:=by subst hs;exact serr_7 h2 h h3
theorem vals_set {l:List Stp}{at_ L:List Rat}{k:Nat}{x:Rat}(hk:k<L.length)(hL:∀ j,L.getD j 0=(tvals l at_ k).getD j 0)(hx:x=sval (l.getD k stp0) at_ L):∀ j,(L.set k x).getD j 0=(tvals l at_ (k+1)).getD j 0:=fun j=>by
  have e1:sval (l.getD k stp0) at_ L=sval (l.getD k stp0) at_ (tvals l at_ k):=by unfold sval;rw[hL,hL]
  have hl:=tvals_len l at_ k
  show _=(tvals l at_ k++[_]).getD j 0
  rw[getD_set_ hk,getD_snoc,hl,←e1,←hx]
  by_cases e:j=k
  · rw[if_pos e,if_neg oM,if_pos e]
  · rw[if_neg e,hL j]
    by_cases h:j<k
    · rw[if_pos h]
    · rw[if_neg h,if_neg e,getD_outR oM]
theorem list_ext {a b:List Rat}(h:a.length=b.length)(hv:∀ j,a.getD j 0=b.getD j 0):a=b:=by
  refine List.ext_getElem h (fun i h1 h2=>?_);have:=hv i
  simpa [h1,h2] using this
def vlist (sm:Bool)(l:List Stp)(at_:List Rat):List Rat:=if terr sm l at_ l.length=0 then tvals l at_ l.length else []
theorem pick_of {vs R:List Rat}{os:List Int}(hl:R.length=os.length)(h:∀ j,j<os.length→R.getD j 0=vs.getD (os.getD j 0).toNat 0):R=pickL vs os:=by
  refine list_ext (by unfold pickL;rw[List.length_map];exact hl) (fun j=>?_)
  by_cases hj:j<os.length
  · rw[h j hj];unfold pickL
    have e:(os.map fun o=>vs.getD o.toNat 0).getD j 0=vs.getD (os.getD j 0).toNat 0:=by simp[List.getD_eq_getElem?_getD,hj]
    exact e.symm
  · rw[getD_outR oM,getD_outR (by unfold pickL;rw[List.length_map];omega)]
theorem goS_all {inp:Int}:∀ {l:List Stp} {hv:List Int},goS inp l hv=0→∀ j,j<l.length→Formed inp (hv.length+j) (l.getD j stp0)
  | [],_,_,j,hj=>by simp at hj
  | s :: r,hv,h,j,hj=>by
    unfold goS at h
    split at h
    · rename_i hf
      split at h
      · exact absurd h kD
      · cases j with
        | zero=>exact hf
        | succ j =>
          have:=goS_all h j (by simpa using hj);rw[List.length_append,List.length_singleton] at this
          rw[show hv.length+(j+1)=hv.length+1+j by omega];exact this
    · exact absurd h kD
theorem chk_formed {inp:Int}{l:List Stp}{os:List Int}(h:chkTp inp l os=0):(∀ k,k<l.length→Formed inp k (l.getD k stp0))∧OutsOk l.length os∧0≤inp∧inp≤1000∧l.length≤65536∧os.length≤300:=by
  unfold chkTp at h
  split at h
  · rename_i h1
    split at h
    · rename_i h2
      split at h
      · rename_i h3
        exact ⟨fun k hk=>by have:=goS_all h2 k hk;simpa using this,h3,h1⟩
      · exact absurd h kD
    · rename_i h2;exact absurd h h2
  · exact absurd h kD
section
variable {sm:Bool} {inp:Int} {l:List Stp} {os:List Int} {at_:List Rat}
end
theorem tValues (sm sb:Bool)(hsb:sb=sm)(inp:Int)(A:Option Addr)(c:Nat)(l:List Stp)(O:Option Addr)(d:Nat)(os:List Int)(at_:List Rat)(X:Option Addr)(cX:Nat)(hF:∀ k,k<l.length→Formed inp k (l.getD k stp0))(hl:l.length≤65536)(hat:(at_.length:Int)=inp)(hq:∀ i,LQ 1 (l.getD i stp0).q)(hB:∀ k,k≤l.length→terr sm l at_ k=0→∀ j,LQ 1000000 ((tvals l at_ k).getD j 0))(w:World)(h:Hp)(g:G w h)(hA:SlO 9 stc stp0 h A l)(hO:Si O os h)(hX:Sq X at_ h)(tb:Tab h):CR 34 #[.agg #[iV inp,.slice A ((l).length) c,.slice O ((os).length) d],.slice X at_.length cX,.bool sb] w h (fun v h1=>∃ A c,v=.tuple #[.slice A (vlist sm l at_).length c,iV (terr sm l at_ l.length)]∧(vlist sm l at_).length≤c∧Sq A (vlist sm l at_) h1):=by
 have hs:=(((((sS g).aS hA).aS hO).aS hX).aB tb);refine go Tryz.func34 [(0,.agg #[iV inp,qS A ((l).length) c,qS O ((os).length) d]),(1,qS X at_.length cX),(2,.bool sb)] rfl (cSL (lA 3 29 ([iV inp,qS A ((l).length) c,qS O ((os).length) d]) hs (fun b1 w2 h3 hs=>lL hs [.v 6 (sZ),.v 7 (iV 0)] (lNS (lL hs [.v 15 (qP b1 1),.o 16 (qS A ((l).length) c) 0 1 1,.v 17 (nV ((l).length))] (lK 18 41 ((l).length) 5 56 (.agg #[qF,uV 0,eS,uV 0,eS]) qc 0 hs (fun b4 w5 h6 hs=>?_)))))));have hl7:(List.replicate ((l).length) 0).length=((l).length):=by simp
 refine lL hs [.m 8 18] (lN (cQ (cSL (lL hs [.v 19 (qP b1 1),.o 20 (qS A ((l).length) c) 1 1 1,.v 21 (nV ((l).length)),.v 22 (iV 0)] (lN (kZ ?_))))));refine cTo _ (CG.loop (fun μ_ Γ w_=>∃ (k:Nat) (L:List Rat) (h_:Hp),μ_=l.length-k∧Γ=[(1,qS X at_.length cX),(2,.bool sb),(8,qS (sB b4) ((l).length) ((l).length)),(20,qS A ((l).length) c),(21,nV ((l).length)),(22,nV k)]∧SS w h w_ h_ [⟨b4,41,(L).flatMap qc⟩,⟨b1,29,[iV inp,qS A ((l).length) c,qS O ((os).length) d]⟩] [] [fun h_=>Tab h_,Sq X at_,Si O os,fun h_=>SlO 9 stc stp0 h_ A l]∧k≤l.length∧L.length=l.length∧(∀ j,L.getD j 0=(tvals l at_ k).getD j 0)∧terr sm l at_ k=0) _ ⟨0,List.replicate l.length (0:Rat),h6,rfl,rfl,hs.to _ _,Nat.zero_le _,(by simp),(fun j=>by rw[rep_zero];rfl),rfl⟩ ?_);rintro _ _ w8 ⟨k,L,h9,hm10,rfl,hs,hk,hLl,hLv,hter⟩;have hLb:∀ j,LQ 1000000 (L.getD j 0):=fun j=>by rw[hLv j];exact hB k hk hter j
 refine cSL ?_;cases zb:(decide ((k:Int)<(((l).length:Nat):Int)))
 ·
  have zi:=oF zb;refine lB 23 zb (lN (cQ (cIF (CG.exit ?_))))
  show CG _ _ _ _ _ _ _ _
  refine cSL (lL hs [.m 69 8,.m 6 69,.v 7 (iV 0)] (lN (kX ?_)));have hkn:k=l.length:=by omega
  rw[hkn] at hLv hter
  have hvl:vlist sm l at_=L:=by unfold vlist;rw[if_pos hter];exact (list_ext (by rw[tvals_len,hLl]) hLv).symm
  obtain ⟨_,hs,sg13,lo14,bc15⟩:=hs.pub 0;replace hs:=(hs.to [⟨b1,29,[iV inp,qS A ((l).length) c,qS O ((os).length) d]⟩] []).aS (SlO.of_flat (sz:=5) (f:=qc) (d:=0) (b:=b4) (o:=0) (l:=L) (fun _=>rfl) sg13);exact hs.ret [] (.tuple #[qS (sB b4) ((l).length) ((l).length),iV 0]) (by rw[hter,hvl,hLl];exact ⟨_,_,rfl,nR _,hs.f.1⟩)
 have zi:=oT zb;refine lB 23 zb (lN (cQ (cIT (cK (cQ (kZ (cSL (lL hs [.m 24 22] (lX 25 A ((l).length) c 9 (k:Nat) k ((hs.f.r.2.1).ok oM) ?_)))))))));refine lH 26 (.agg #[iV ((l.getD k stp0).op),iV ((l.getD k stp0).a),iV ((l.getD k stp0).b),iV ((l.getD k stp0).n),.bool (ineg ((l.getD k stp0).q).num),uV (lo (iabs ((l.getD k stp0).q).num)),.string (hi (iabs ((l.getD k stp0).q).num)),uV (lo (qd ((l.getD k stp0).q))),.string (hi (qd ((l.getD k stp0).q)))]) hs ((hs.f.r.2.1).el k oM) (lA 10 43 ([iV 0,iV 0,iV 0,iV 0,qF,uV 0,eS,uV 0,eS]) hs (fun za _ zq hs=>lL hs [.m 9 24] (lP 0 0 ([iV ((l.getD k stp0).op),iV ((l.getD k stp0).a),iV ((l.getD k stp0).b),iV ((l.getD k stp0).n),.bool (ineg ((l.getD k stp0).q).num),uV (lo (iabs ((l.getD k stp0).q).num)),.string (hi (iabs ((l.getD k stp0).q).num)),uV (lo (qd ((l.getD k stp0).q))),.string (hi (qd ((l.getD k stp0).q)))]) hs (fun _ hs=>lN (cQ (cSL ?_))))));have fk:=hF k oM;obtain ⟨f0,f1,f2,f3,f4,f5,f6⟩:=fk
 dsimp only[Refers] at f1 f2
 have hac:=ari_cases (l.getD k stp0).op;refine lL hs [.v 27 (pB za),.o 28 (iV ((l.getD k stp0).op)) 0 0 1] ?_;cases zc:(((l.getD k stp0).op:Int) == (2:Int))
 ·
  have zj:=neOfBeq zc;refine lB 29 zc (lN (cIF (cK (cQ ?_))));have hsr:=hs;refine cRz 12 [⟨10,11,.cells (List.toArray [qF,uV 0,eS,uV 0,eS]) 41 (0,0)⟩,⟨11,12,.cells (List.toArray [qF,uV 0,eS,uV 0,eS]) 41 (0,0)⟩] [] mixed hs (al_cons (alOk kR (fun _ _=>by kernel_rfl)) (al_cons (alOk kR (fun _ _=>by kernel_rfl)) al_nil)) (eV 0 38 (qS (sB b4) ((l).length) ((l).length)) (eV 1 39 (qP za 1) (eO 2 40 [(0,1,1)] (iV ((l.getD k stp0).a)) hs (eX 3 41 (sB b4) ((l).length) ((l).length) 5 ((l.getD k stp0).a) ((l.getD k stp0).a.toNat) rfl (eQz 4 42 1 L qc 5 0 ((l.getD k stp0).a.toNat) (qv ((L).getD ((l.getD k stp0).a.toNat) 0)) hsr hs oM (eV 5 43 (qS (sB b4) ((l).length) ((l).length)) (eV 6 44 (qP za 2) (eOz 7 45 [(0,2,1)] (iV ((l.getD k stp0).b)) hsr hs (eX 8 46 (sB b4) ((l).length) ((l).length) 5 ((l.getD k stp0).b) ((l.getD k stp0).b.toNat) rfl (eQz 9 47 1 L qc 5 0 ((l.getD k stp0).b.toNat) (qv ((L).getD ((l.getD k stp0).b.toNat) 0)) hsr hs oM (eD2z hsr hs 41 [qF,uV 0,eS,uV 0,eS] 41 [qF,uV 0,eS,uV 0,eS] (fun _ _ zl zm hz26 hz27 hs=>tP 12 0 0 (qc ((L).getD ((l.getD k stp0).a.toNat) 0)) hs (fun _ hs=>?_) (hz:=tlz_new hz26)))))))))))));refine tP 13 1 0 (qc ((L).getD ((l.getD k stp0).b.toNat) 0)) hs (fun _ hs=>?_) (hz:=tlz_new hz27);refine tNS (lL hs [.o 49 (.agg #[iV ((l.getD k stp0).op),iV ((l.getD k stp0).a),iV ((l.getD k stp0).b),iV ((l.getD k stp0).n),.bool (ineg ((l.getD k stp0).q).num),uV (lo (iabs ((l.getD k stp0).q).num)),.string (hi (iabs ((l.getD k stp0).q).num)),uV (lo (qd ((l.getD k stp0).q))),.string (hi (qd ((l.getD k stp0).q)))]) 2 0 9,.o 50 (qv ((L).getD ((l.getD k stp0).a.toNat) 0)) 0 0 5,.o 51 (qv ((L).getD ((l.getD k stp0).b.toNat) 0)) 1 0 5] (lC 52 hs (tApply (l.getD k stp0) (L.getD (l.getD k stp0).a.toNat 0) (L.getD (l.getD k stp0).b.toNat 0) 1000000 oM (hLb _) (hLb _) (hq k) oM oM oM _ _ hs.g hs.f.1) ?_));rintro _ _ _ hs rfl;refine lL hs [.m 48 52,.v 53 (qv (apv (l.getD k stp0).op (l.getD k stp0).n (l.getD k stp0).q (L.getD (l.getD k stp0).a.toNat 0) (L.getD (l.getD k stp0).b.toNat 0))),.v 54 (.bool (decide (okq (l.getD k stp0).op (l.getD k stp0).n (L.getD (l.getD k stp0).a.toNat 0) (L.getD (l.getD k stp0).b.toNat 0))))] (lA 13 41 ([qF,uV 0,eS,uV 0,eS]) hs (fun zd _ zr hs=>lP 0 0 (qc (apv (l.getD k stp0).op (l.getD k stp0).n (l.getD k stp0).q (L.getD (l.getD k stp0).a.toNat 0) (L.getD (l.getD k stp0).b.toNat 0))) hs (fun _ hs=>lL hs [.m 14 54] (lN (cQ (cSL (lL hs [.m 55 14] ?_)))))));cases zf:(!(decide (okq (l.getD k stp0).op (l.getD k stp0).n (L.getD (l.getD k stp0).a.toNat 0) (L.getD (l.getD k stp0).b.toNat 0))))
  ·
   refine lB 56 zf (lN (cIF (cK (cQ (cSL ?_)))));have hok_:okq (l.getD k stp0).op (l.getD k stp0).n (L.getD (l.getD k stp0).a.toNat 0) (L.getD (l.getD k stp0).b.toNat 0):=by simpa using ‹(!decide (okq (l.getD k stp0).op (l.getD k stp0).n (L.getD (l.getD k stp0).a.toNat 0) (L.getD (l.getD k stp0).b.toNat 0)))=false›
   rcases bcase (sb) with ze|ze
   ·
    refine lB 57 ze (lL hs [.m 58 57] (lG 59 ?_));refine lG 60 (lG 61 (lG 62 (lL hs [.v 63 qF] (lN (cTo [(1,qS X at_.length cX),(2,.bool sb),(8,qS (sB b4) ((l).length) ((l).length)),(20,qS A ((l).length) c),(21,nV ((l).length)),(22,nV k),(9,nV k),(13,pB zd),(63,qF)] ?_)))));refine cIF (cK (kQ ?_));have hnk_:¬(sm=true∧knk (l.getD k stp0).op (L.getD (l.getD k stp0).a.toNat 0) (L.getD (l.getD k stp0).b.toNat 0)):=by first|exact fun h_=>absurd h_.2 (oF ‹decide (knk (l.getD k stp0).op (L.getD (l.getD k stp0).a.toNat 0) (L.getD (l.getD k stp0).b.toNat 0))=false›)|exact fun h_=>absurd h_.1 (by rw[←hsb,‹sb=false›];decide)
    refine lL hs [.m 64 8,.m 65 9,.o 66 (qv (apv (l.getD k stp0).op (l.getD k stp0).n (l.getD k stp0).q (L.getD (l.getD k stp0).a.toNat 0) (L.getD (l.getD k stp0).b.toNat 0))) 0 0 5] (lX 67 (sB b4) ((l).length) ((l).length) 5 (k:Nat) k rfl ?_);refine lW 4 L qc 5 k (apv (l.getD k stp0).op (l.getD k stp0).n (l.getD k stp0).q (L.getD (l.getD k stp0).a.toNat 0) (L.getD (l.getD k stp0).b.toNat 0)) hs oM (fun _ hs=>?_);have zn:((L).set k (apv (l.getD k stp0).op (l.getD k stp0).n (l.getD k stp0).q (L.getD (l.getD k stp0).a.toNat 0) (L.getD (l.getD k stp0).b.toNat 0))).length=((l).length):=by rw[List.length_set];exact hLl
    replace hs:=hs.to [⟨zd,41,qc (apv (l.getD k stp0).op (l.getD k stp0).n (l.getD k stp0).q (L.getD (l.getD k stp0).a.toNat 0) (L.getD (l.getD k stp0).b.toNat 0))⟩,⟨zl,41,qc ((L).getD ((l.getD k stp0).a.toNat) 0)⟩,⟨zm,41,qc ((L).getD ((l.getD k stp0).b.toNat) 0)⟩,⟨za,43,[iV ((l.getD k stp0).op),iV ((l.getD k stp0).a),iV ((l.getD k stp0).b),iV ((l.getD k stp0).n),.bool (ineg ((l.getD k stp0).q).num),uV (lo (iabs ((l.getD k stp0).q).num)),.string (hi (iabs ((l.getD k stp0).q).num)),uV (lo (qd ((l.getD k stp0).q))),.string (hi (qd ((l.getD k stp0).q)))]⟩,⟨b4,41,((L).set k (apv (l.getD k stp0).op (l.getD k stp0).n (l.getD k stp0).q (L.getD (l.getD k stp0).a.toNat 0) (L.getD (l.getD k stp0).b.toNat 0))).flatMap qc⟩,⟨b1,29,[iV inp,qS A ((l).length) c,qS O ((os).length) d]⟩] [];refine lN (kQ (lIn 68 ((k:Nat)+1) (k+1) ?_));refine lL hs [.m 22 68] (lD ?_);intro a_ ka;replace hs:=hs.drop 4 0;refine ⟨_,_,?_,⟨k+1,(L).set k (apv (l.getD k stp0).op (l.getD k stp0).n (l.getD k stp0).q (L.getD (l.getD k stp0).a.toNat 0) (L.getD (l.getD k stp0).b.toNat 0)),zr,rfl,rfl,hs.to _ _,oM,zn,(vals_set oM hLv (by unfold sval apv;rw[if_neg (show ¬(l.getD k stp0).op=2 by omega),if_pos hok_])),(terr_next hter hLv (serr_0 hok_ hnk_))⟩,ka.to _ kR⟩
    omega
   refine lB 57 ze (lL hs [.m 58 57,.o 59 (.agg #[iV ((l.getD k stp0).op),iV ((l.getD k stp0).a),iV ((l.getD k stp0).b),iV ((l.getD k stp0).n),.bool (ineg ((l.getD k stp0).q).num),uV (lo (iabs ((l.getD k stp0).q).num)),.string (hi (iabs ((l.getD k stp0).q).num)),uV (lo (qd ((l.getD k stp0).q))),.string (hi (qd ((l.getD k stp0).q)))]) 3 0 9,.o 60 (qv ((L).getD ((l.getD k stp0).a.toNat) 0)) 1 0 5,.o 61 (qv ((L).getD ((l.getD k stp0).b.toNat) 0)) 2 0 5] (lC 62 hs (tKinked (l.getD k stp0) (L.getD (l.getD k stp0).a.toNat 0) (L.getD (l.getD k stp0).b.toNat 0) 1000000 oM (hLb _) (hLb _) _ _ hs.g) ?_));rintro _ _ zs hs rfl;cases zg:(decide (knk (l.getD k stp0).op (L.getD (l.getD k stp0).a.toNat 0) (L.getD (l.getD k stp0).b.toNat 0)))
   ·
    have zk:=oF zg;refine lL hs [.v 63 qF] (lN (cTo [(1,qS X at_.length cX),(2,.bool sb),(8,qS (sB b4) ((l).length) ((l).length)),(20,qS A ((l).length) c),(21,nV ((l).length)),(22,nV k),(9,nV k),(13,pB zd),(63,qF)] ?_));refine cIF (cK (kQ ?_));have hnk_:¬(sm=true∧knk (l.getD k stp0).op (L.getD (l.getD k stp0).a.toNat 0) (L.getD (l.getD k stp0).b.toNat 0)):=by first|exact fun h_=>absurd h_.2 (oF ‹decide (knk (l.getD k stp0).op (L.getD (l.getD k stp0).a.toNat 0) (L.getD (l.getD k stp0).b.toNat 0))=false›)|exact fun h_=>absurd h_.1 (by rw[←hsb,‹sb=false›];decide)
    refine lL hs [.m 64 8,.m 65 9,.o 66 (qv (apv (l.getD k stp0).op (l.getD k stp0).n (l.getD k stp0).q (L.getD (l.getD k stp0).a.toNat 0) (L.getD (l.getD k stp0).b.toNat 0))) 0 0 5] (lX 67 (sB b4) ((l).length) ((l).length) 5 (k:Nat) k rfl ?_);refine lW 4 L qc 5 k (apv (l.getD k stp0).op (l.getD k stp0).n (l.getD k stp0).q (L.getD (l.getD k stp0).a.toNat 0) (L.getD (l.getD k stp0).b.toNat 0)) hs oM (fun _ hs=>?_);have zo:((L).set k (apv (l.getD k stp0).op (l.getD k stp0).n (l.getD k stp0).q (L.getD (l.getD k stp0).a.toNat 0) (L.getD (l.getD k stp0).b.toNat 0))).length=((l).length):=by rw[List.length_set];exact hLl
    replace hs:=hs.to [⟨zd,41,qc (apv (l.getD k stp0).op (l.getD k stp0).n (l.getD k stp0).q (L.getD (l.getD k stp0).a.toNat 0) (L.getD (l.getD k stp0).b.toNat 0))⟩,⟨zl,41,qc ((L).getD ((l.getD k stp0).a.toNat) 0)⟩,⟨zm,41,qc ((L).getD ((l.getD k stp0).b.toNat) 0)⟩,⟨za,43,[iV ((l.getD k stp0).op),iV ((l.getD k stp0).a),iV ((l.getD k stp0).b),iV ((l.getD k stp0).n),.bool (ineg ((l.getD k stp0).q).num),uV (lo (iabs ((l.getD k stp0).q).num)),.string (hi (iabs ((l.getD k stp0).q).num)),uV (lo (qd ((l.getD k stp0).q))),.string (hi (qd ((l.getD k stp0).q)))]⟩,⟨b4,41,((L).set k (apv (l.getD k stp0).op (l.getD k stp0).n (l.getD k stp0).q (L.getD (l.getD k stp0).a.toNat 0) (L.getD (l.getD k stp0).b.toNat 0))).flatMap qc⟩,⟨b1,29,[iV inp,qS A ((l).length) c,qS O ((os).length) d]⟩] [];refine lN (kQ (lIn 68 ((k:Nat)+1) (k+1) ?_));refine lL hs [.m 22 68] (lD ?_);intro a_ ka;replace hs:=hs.drop 4 0;refine ⟨_,_,?_,⟨k+1,(L).set k (apv (l.getD k stp0).op (l.getD k stp0).n (l.getD k stp0).q (L.getD (l.getD k stp0).a.toNat 0) (L.getD (l.getD k stp0).b.toNat 0)),zs,rfl,rfl,hs.to _ _,oM,zo,(vals_set oM hLv (by unfold sval apv;rw[if_neg (show ¬(l.getD k stp0).op=2 by omega),if_pos hok_])),(terr_next hter hLv (serr_0 hok_ hnk_))⟩,ka.to _ kR⟩
    omega
   have zk:=oT zg;refine lL hs [.v 63 qT] (lN (cTo [(1,qS X at_.length cX),(2,.bool sb),(8,qS (sB b4) ((l).length) ((l).length)),(20,qS A ((l).length) c),(21,nV ((l).length)),(22,nV k),(9,nV k),(13,pB zd),(63,qT)] ?_));refine cIT (cSL ?_);have hsm_:sm=true:=by rw[←hsb];assumption
   have hkn_:knk (l.getD k stp0).op (L.getD (l.getD k stp0).a.toNat 0) (L.getD (l.getD k stp0).b.toNat 0):=oT ‹decide (knk (l.getD k stp0).op (L.getD (l.getD k stp0).a.toNat 0) (L.getD (l.getD k stp0).b.toNat 0))=true›;refine lL hs [.v 6 (sZ),.v 7 (iV 7)] (lN (kX ?_));have hend:terr sm l at_ l.length=7:=terr_stopL hter oM hLv (serr_7s oM hok_ hsm_ hkn_) kD;have hvl:vlist sm l at_=[]:=by unfold vlist;rw[if_neg (by rw[hend];decide)]
   exact hs.ret [] (.tuple #[sZ,iV 7]) (by rw[hend,hvl];exact ⟨none,0,rfl,nR _,SlO.nil⟩)
  refine lB 56 zf (lN (cIT (cSL ?_)));have hnok_:¬okq (l.getD k stp0).op (l.getD k stp0).n (L.getD (l.getD k stp0).a.toNat 0) (L.getD (l.getD k stp0).b.toNat 0):=by simpa using ‹(!decide (okq (l.getD k stp0).op (l.getD k stp0).n (L.getD (l.getD k stp0).a.toNat 0) (L.getD (l.getD k stp0).b.toNat 0)))=true›
  refine lL hs [.v 6 (sZ),.v 7 (iV 6)] (lN (kX ?_));have hend:terr sm l at_ l.length=6:=terr_stopL hter oM hLv (serr_6 oM hnok_) kD;have hvl:vlist sm l at_=[]:=by unfold vlist;rw[if_neg (by rw[hend];decide)]
  exact hs.ret [] (.tuple #[sZ,iV 6]) (by rw[hend,hvl];exact ⟨none,0,rfl,nR _,SlO.nil⟩)
 have zj:=eq_of_beq zc;refine lB 29 zc (lN (cIT (cSL (lL hs [.m 30 8,.m 31 9,.m 32 1,.v 33 (qP za 3),.o 34 (iV ((l.getD k stp0).n)) 0 3 1] (lX 35 X at_.length cX 5 ((l.getD k stp0).n) ((l.getD k stp0).n.toNat) ((hs.f.2.1).ok oM) ?_)))));refine lH 36 (qv (at_.getD ((l.getD k stp0).n.toNat) 0)) hs ((hs.f.2.1).el ((l.getD k stp0).n.toNat) oM) (lX 37 (sB b4) ((l).length) ((l).length) 5 (k:Nat) k rfl (lW 1 L qc 5 k (at_.getD ((l.getD k stp0).n.toNat) 0) hs oM (fun _ hs=>?_)));have zp:((L).set k (at_.getD ((l.getD k stp0).n.toNat) 0)).length=((l).length):=by rw[List.length_set];exact hLl
 replace hs:=hs.to [⟨za,43,[iV ((l.getD k stp0).op),iV ((l.getD k stp0).a),iV ((l.getD k stp0).b),iV ((l.getD k stp0).n),.bool (ineg ((l.getD k stp0).q).num),uV (lo (iabs ((l.getD k stp0).q).num)),.string (hi (iabs ((l.getD k stp0).q).num)),uV (lo (qd ((l.getD k stp0).q))),.string (hi (qd ((l.getD k stp0).q)))]⟩,⟨b4,41,((L).set k (at_.getD ((l.getD k stp0).n.toNat) 0)).flatMap qc⟩,⟨b1,29,[iV inp,qS A ((l).length) c,qS O ((os).length) d]⟩] [];refine lN (CG.exit ?_)
 show CG _ _ _ _ _ _ _ _
 refine kQ (lIn 68 ((k:Nat)+1) (k+1) ?_);refine lL hs [.m 22 68] (lD ?_);intro a_ ka;replace hs:=hs.drop 1 0;refine ⟨_,_,?_,⟨k+1,(L).set k (at_.getD ((l.getD k stp0).n.toNat) 0),zq,rfl,rfl,hs.to _ _,oM,zp,(vals_set oM hLv (by unfold sval;rw[if_pos (show (l.getD k stp0).op=2 by omega)])),(terr_next hter hLv (serr_2 oM))⟩,ka.to _ kR⟩
 omega
theorem tOuts (inp:Int)(A:Option Addr)(c:Nat)(l:List Stp)(O:Option Addr)(d:Nat)(os:List Int)(vs:List Rat)(V:Option Addr)(cV:Nat)(ho:os.length≤1000)(hO2:OutsOk vs.length os)(w:World)(h:Hp)(g:G w h)(hA:SlO 9 stc stp0 h A l)(hO:Si O os h)(hV:Sq V vs h):CR 39 #[.agg #[iV inp,.slice A ((l).length) c,.slice O ((os).length) d],.slice V vs.length cV] w h (fun v h1=>∃ A c,v=.slice A (pickL vs os).length c∧(pickL vs os).length≤c∧Sq A (pickL vs os) h1):=by
 have hs:=((((sS g).aS hA).aS hO).aS hV);refine go Tryz.func39 [(0,.agg #[iV inp,qS A ((l).length) c,qS O ((os).length) d]),(1,qS V vs.length cV)] rfl (cSL (lA 2 29 ([iV inp,qS A ((l).length) c,qS O ((os).length) d]) hs (fun b1 w2 h3 hs=>lL hs [.v 4 (sZ)] (lNS (lL hs [.v 8 (qP b1 2),.o 9 (qS O ((os).length) d) 0 2 1,.v 10 (nV ((os).length))] (lK 11 41 ((os).length) 5 56 (.agg #[qF,uV 0,eS,uV 0,eS]) qc 0 hs (fun b4 w5 h6 hs=>?_)))))));have hl7:(List.replicate ((os).length) 0).length=((os).length):=by simp
 refine lL hs [.m 5 11] (lN (cQ (cSL (lL hs [.v 12 (qP b1 2),.o 13 (qS O ((os).length) d) 1 2 1,.v 14 (nV ((os).length)),.v 15 (iV 0)] (lN (kZ ?_))))));refine cTo _ (CG.loop (fun μ_ Γ w_=>∃ (k:Nat) (R:List Rat) (h_:Hp),μ_=os.length-k∧Γ=[(1,qS V vs.length cV),(4,sZ),(5,qS (sB b4) ((os).length) ((os).length)),(13,qS O ((os).length) d),(14,nV ((os).length)),(15,nV k)]∧SS w h w_ h_ [⟨b4,41,(R).flatMap qc⟩,⟨b1,29,[iV inp,qS A ((l).length) c,qS O ((os).length) d]⟩] [] [Sq V vs,Si O os,fun h_=>SlO 9 stc stp0 h_ A l]∧k≤os.length∧R.length=os.length∧(∀ j,j<k→R.getD j 0=vs.getD (os.getD j 0).toNat 0)) _ ⟨0,List.replicate os.length (0:Rat),h6,rfl,rfl,hs.to _ _,Nat.zero_le _,(by simp),fun j hj=>absurd hj (Nat.not_lt_zero j)⟩ ?_);rintro _ _ w8 ⟨k,R,h9,hm10,rfl,hs,hk,hRl,hRv⟩;have hok:=fun h0=>hO2 k h0
 refine cSL ?_;cases za:(decide ((k:Int)<(((os).length:Nat):Int)))
 ·
  have zb:=oF za;refine lB 16 za (lN (cQ (cIF (CG.exit ?_))))
  show CG _ _ _ _ _ _ _ _
  refine cSL (lL hs [.m 28 5,.m 4 28] (lN (kX ?_)));have hkn:k=os.length:=by omega
  have hpl:pickL vs os=R:=(pick_of oM (fun j hj=>hRv j oM)).symm;obtain ⟨_,hs,sg13,lo14,bc15⟩:=hs.pub 0;replace hs:=(hs.to [⟨b1,29,[iV inp,qS A ((l).length) c,qS O ((os).length) d]⟩] []).aS (SlO.of_flat (sz:=5) (f:=qc) (d:=0) (b:=b4) (o:=0) (l:=R) (fun _=>rfl) sg13);exact hs.ret [] (qS (sB b4) ((os).length) ((os).length)) (by rw[hpl,hRl];exact ⟨_,_,rfl,nR _,hs.f.1⟩)
 have zb:=oT za;refine lB 16 za (lN (cQ (cIT (cK (cQ (kZ (cSL (lL hs [.m 17 15] (lX 18 O ((os).length) d 1 (k:Nat) k ((hs.f.2.1).ok oM) ?_)))))))));refine lH 19 (iV (os.getD k 0)) hs ((hs.f.2.1).el k oM) (lL hs [.m 6 17,.m 7 19] (lN (kQ (lL hs [.m 20 5,.m 21 6,.m 22 1,.m 23 7] (lX 24 V vs.length cV 5 (os.getD k 0) ((os.getD k 0).toNat) ((hs.f.1).ok oM) ?_)))));refine lH 25 (qv (vs.getD ((os.getD k 0).toNat) 0)) hs ((hs.f.1).el ((os.getD k 0).toNat) oM) (lX 26 (sB b4) ((os).length) ((os).length) 5 (k:Nat) k rfl (lW 0 R qc 5 k (vs.getD ((os.getD k 0).toNat) 0) hs oM (fun _ hs=>?_)));have zc:((R).set k (vs.getD ((os.getD k 0).toNat) 0)).length=((os).length):=by rw[List.length_set];exact hRl
 replace hs:=hs.to [⟨b4,41,((R).set k (vs.getD ((os.getD k 0).toNat) 0)).flatMap qc⟩,⟨b1,29,[iV inp,qS A ((l).length) c,qS O ((os).length) d]⟩] [];refine lN (kQ (lIn 27 ((k:Nat)+1) (k+1) ?_));refine lL hs [.m 15 27] (lD ?_);intro a_ ka;refine ⟨_,_,?_,⟨k+1,(R).set k (vs.getD ((os.getD k 0).toNat) 0),h9,rfl,rfl,hs.to _ _,oM,zc,(fun j hj=>by rw[getD_set_ oM];split;(rename_i e;rw[e]);exact hRv j oM)⟩,ka.to _ kR⟩
 omega
structure MapJ (h0:Hp) (B:List Bx) (w:World) (h:Hp) (b:Nat) (es:List MapEntry) (clk:Nat):Prop where
  obj:w.heap[b]?=some (.map es.toArray clk)
  jk:h[b]?=some junk
  lo:h0.size≤b
  nb:∀ x∈B,x.b≠b
section laws
variable {P:Program} {n:Nat} {N R:Po} {X:Nat→Po} {ops:Array Oper} {k:Nat} {Γ:Env} {w:World} {h:Hp} {w0:World} {h0:Hp} {B:List Bx} {Rs:List Rw} {F:List (Hp→Prop)}
end laws
open Go.RowKit Go.WideMaps
theorem kInt {d t:Nat}{P:Program}(hu:P.underlying t=some (.int .i64)){z:Int}(hz:(Lit.int .i64 z).wf=true):P.keyLits (d+1) t [.int .i64 z]=some [.int .i64 z]:=by
  unfold Program.keyLits;simp only[hu];rw[if_pos ⟨trivial,hz⟩]
theorem kStr {d t:Nat}{P:Program}(hu:P.underlying t=some .string){s:ByteArray}(hs:s.size≤maxLen):P.keyLits (d+1) t [.string s]=some [.string s.data.toList]:=by
  unfold Program.keyLits;simp only[hu];rw[if_pos hs]
theorem isKey5 {P:Program} {k i st:Nat} {f1 f2 f3 f4 f5:Field} (hu:P.underlying k=some (.struct #[f1,f2,f3,f4,f5])) (hi:P.underlying i=some (.int .i64)) (hst:P.underlying st=some .string) (hk:P.keyType k=true) (hc:P.cellsOf k=5)
    (h1 : f1.type = i ∧ f1.offset = 0 ∧ (f1.name != "_") = true) (h2 : f2.type = i ∧ f2.offset = 1 ∧ (f2.name != "_") = true) (h3 : f3.type = i ∧ f3.offset = 2 ∧ (f3.name != "_") = true) (h4 : f4.type = i ∧ f4.offset = 3 ∧ (f4.name != "_") = true) (h5 : f5.type = st ∧ f5.offset = 4 ∧ (f5.name != "_") = true) (ci : P.cellsOf i = 1) (cs : P.cellsOf st = 1) (hts : ∃ n, P.types.size = n + 1)
    {a b c d:Int} {s:ByteArray} (ha:(Lit.int .i64 a).wf=true) (hb:(Lit.int .i64 b).wf=true) (hc':(Lit.int .i64 c).wf=true) (hd:(Lit.int .i64 d).wf=true) (hs:s.size≤maxLen) :
    ∃ l,keyOf P k (.agg #[.int .i64 a,.int .i64 b,.int .i64 c,.int .i64 d,.string s])=some l:=by
  obtain ⟨m,hm⟩:=hts
  have hf:(Value.agg #[.int .i64 a,.int .i64 b,.int .i64 c,.int .i64 d,.string s]).formed P k=true:=by
    simp[Value.formed,hu,hc]
  have hl:P.keyLits (P.types.size+1) k [.int .i64 a,.int .i64 b,.int .i64 c,.int .i64 d,.string s]=some [.int .i64 a,.int .i64 b,.int .i64 c,.int .i64 d,.string s.data.toList]:=by
    rw[hm];have e1:=kInt (P:=P) (d:=m) hi ha;have e2:=kInt (P:=P) (d:=m) hi hb;have e3:=kInt (P:=P) (d:=m) hi hc';have e4:=kInt (P:=P) (d:=m) hi hd;have e5:=kStr (P:=P) (d:=m) hst hs
    conv=>lhs;unfold Program.keyLits
    simp only[hu]
    rw[if_pos ⟨by rw[hc];rfl,by simp[h1.2.2,h2.2.2,h3.2.2,h4.2.2,h5.2.2]⟩]
    simp[h1.1,h2.1,h3.1,h4.1,h5.1,h1.2.1,h2.2.1,h3.2.1,h4.2.1,h5.2.1,ci,cs,e1,e2,e3,e4,e5]
  refine ⟨.string (keyBytes [.int .i64 a,.int .i64 b,.int .i64 c,.int .i64 d,.string s.data.toList]),?_⟩
  unfold keyOf
  simp only[hu]
  rw[if_pos (by rw[hk,hf];rfl)]
  show Option.map _ (P.keyLits (P.types.size+1) k [.int .i64 a,.int .i64 b,.int .i64 c,.int .i64 d,.string s])=_
  rw[hl];rfl
structure MapI (P:Program) (kt:TypeId) (Q:Value→Prop) (w1:World) (h1:Hp) (b:Nat):Prop where
  jk:h1[b]?=some junk
  ex:∃ es clk,w1.heap[b]?=some (.map es clk)∧∀ e∈es.toList,(∃ l,keyOf P kt e.key=some l)∧Q e.val
theorem MapI.imp {P:Program}{kt:TypeId}{Q Q':Value→Prop}{w1:World}{h1:Hp}{b:Nat}(m:MapI P kt Q w1 h1 b)(f:∀ v,Q v→Q' v):MapI P kt Q' w1 h1 b:=by
  obtain ⟨es,clk,h,k⟩:=m.ex;exact ⟨m.jk,es,clk,h,fun e he=>⟨(k e he).1,f _ (k e he).2⟩⟩
section laws
variable {P:Program} {n:Nat} {N R:Po} {X:Nat→Po} {ops:Array Oper} {k:Nat} {Γ:Env} {w:World} {h:Hp} {w0 w1:World} {h0 h1:Hp} {B:List Bx} {Rs:List Rw} {F:List (Hp→Prop)}
theorem SS.from (s:SS w0 h0 w h B [] F):SS w h w h [] [] F:=⟨s.g,St.start s.g,fun _ hx=>(by cases hx),.nil,s.mo,s.f⟩
theorem SS.bare (s:SS w0 h0 w h B [] F):SS w0 h0 w h B [] []:=⟨s.g0,s.st,fun _ hx=>(by cases hx),.nil,fun _ hx=>(by cases hx),trivial⟩
theorem SS.back {B0:List Bx}(hz:SS w0 h0 w1 h1 B0 [] [])(s:SS w1 h1 w h B Rs F):SS w0 h0 w h (B++B0) Rs F:=by
  have hle:h0.size≤h1.size:=hz.st.up.gr.size;have hl0:∀ x∈B0,x.b<h1.size:=fun x hx=>lt_of_some (hz.st.jk x hx)
  refine ⟨hz.g0,⟨hz.st.up.trans s.st.up,fun x hx=>?_,fun x hx=>?_,fun x hx=>?_,?_⟩,fun r hr=>?_,s.ap,s.mo,s.f⟩
  · rcases List.mem_append.1 hx with hx|hx
    · exact s.st.own x hx
    · exact (s.st.up.ext.block x.b (by rw[s.g0.size];exact hl0 x hx)).trans (hz.st.own x hx)
  · rcases List.mem_append.1 hx with hx|hx
    · exact s.st.jk x hx
    · exact (s.st.up.gr.blk x.b (hl0 x hx)).trans (hz.st.jk x hx)
  · rcases List.mem_append.1 hx with hx|hx
    · exact Nat.le_trans hle (s.st.lo x hx)
    · exact hz.st.lo x hx
  · rw[List.map_append]
    refine List.nodup_append.2 ⟨s.st.nd,hz.st.nd,fun a ha b hb e=>?_⟩;obtain ⟨x,hx,rfl⟩:=List.mem_map.1 ha;obtain ⟨y,hy,rfl⟩:=List.mem_map.1 hb;have:=s.st.lo x hx;have:=hl0 y hy
    omega
  · have q:=s.ro r hr
    have hb:∀ b,r.v.ownBlock=some b→h1.size≤b:=fun c hc=>by
      rcases q.own with ⟨_,e2|⟨g,cap,cur,hv,hb',_⟩⟩
      · rw[e2.1] at hc;simp[Value.ownBlock] at hc
      · rw[hv] at hc
        simp[Value.ownBlock] at hc
        omega
    refine ⟨?_,q.jk,fun b hb'=>?_⟩
    · rcases q.own with ⟨a1,e2|⟨g,cap,cur,hv,hb',hg,hn,hm,hs,ht⟩⟩
      · exact ⟨a1,.inl e2⟩
      · exact ⟨a1,.inr ⟨g,cap,cur,hv,by omega,hg,hn,hm,hs,ht⟩⟩
    · rw[List.map_append,List.mem_append]
      rintro (h3|h3)
      · exact q.ap b hb' h3
      · obtain ⟨y,hy,e⟩:=List.mem_map.1 h3
        have:=hl0 y hy;have:=hb b hb'
        omega
theorem lMkI (kt:TypeId)(Q:Value→Prop)(t:Nat)(s:SS w0 h0 w h B [] F)(H:∀ b w' h',SS w0 h0 w' h' B [] []→h0.size≤b→(∀ x∈B,x.b≠b)→SS w' h' w' h' [] [] F→MapI P kt Q w' h' b→LG P n N R X ops (k+1) ((t,.map (some b))::Γ) w')(hc:cL ops Γ k t n=true:=by kernel_rfl)
    (hr:(execOp (ev Γ) (opAt ops k)).run P w=.ok (.value (.map (some w.heap.size))) (w.alloc (.map #[] 0)):=by kernel_rfl):LG P n N R X ops k Γ w:=by
  have u:Up w h (w.alloc (.map #[] 0)) (h.push junk):=Up.allocAny s.g _ _ (.inr rfl);refine LG.val t _ _ (cL_1 hc).1 (cL_1 hc).2 hr (H _ _ _ (s.step u).bare (by rw[s.g.size];exact s.st.up.gr.size) (fun x hx e=>by have:=lt_of_some (s.st.jk x hx);have:=s.g.size;omega) (s.step u).from ⟨?_,#[],0,?_,fun e he=>by simp at he⟩)
  · rw[s.g.size];exact Array.getElem?_push_size
  · rw[heap_alloc];exact Array.getElem?_push_size
theorem run_lookI {w:World}{mty kt et:TypeId}{b:Nat}{Q:Value→Prop}{key z:Value}(ok:Bool)(K:KeyLaw P kt)(hm:P.underlying mty=some (.map kt et))(hz:(zeroValue et).run P w=.ok z w)(hk:∃ l,keyOf P kt key=some l)
    (hb:∃ es clk,w.heap[b]?=some (.map es clk)∧∀ e∈es.toList,(∃ l,keyOf P kt e.key=some l)∧Q e.val):∃ v found,(Q v∨v=z)∧(Instr.lookup mty (.map (some b)) key ok).run P w=.ok (if ok then .tuple #[v,.bool found] else v) w:=by
  obtain ⟨es,clk,hb,hall⟩:=hb;obtain ⟨l,hk⟩:=hk
  rcases K.find w hk es.toList (fun e he=>(hall e he).1) with ⟨h1,_⟩|⟨j,e0,h1,h2,_⟩
  · exact ⟨z,false,.inr rfl,by simp[Instr.lookup,run_underlying hm,MapKept.run_getObj_map hb,K.check w _ hk,h1,hz,Result.andThen]⟩
  · exact ⟨e0.val,true,.inl (hall e0 (List.mem_of_getElem? h2)).2,by simp[Instr.lookup,run_underlying hm,MapKept.run_getObj_map hb,K.check w _ hk,h1,Result.andThen]⟩
theorem lMgI {mty kt et:TypeId}{b:Nat}{Q:Value→Prop}(t:Nat)(key z:Value)(ok:Bool)(s:SS w1 h1 w h B Rs F)(m:MapI P kt Q w1 h1 b)(K:KeyLaw P kt)(hk:∃ l,keyOf P kt key=some l)(H:∀ v found,(Q v∨v=z)→LG P n N R X ops (k+1) ((t,if ok then .tuple #[v,.bool found] else v)::Γ) w)(hc:cL ops Γ k t n=true:=by kernel_rfl)
    (hx:execOp (ev Γ) (opAt ops k)=(do pure (.value (←Instr.lookup mty (.map (some b)) key ok))):=by kernel_rfl)(hu:P.underlying mty=some (.map kt et):=by kernel_rfl)(hz:(zeroValue et).run P w=.ok z w:=by kernel_rfl):LG P n N R X ops k Γ w:=by
  obtain ⟨es,clk,hb,hall⟩:=m.ex;have hw:w.heap[b]?=some (.map es clk):=(s.st.up.ext.block b (by rw[s.g0.size];exact lt_of_some m.jk)).trans hb;obtain ⟨v,found,hq,hr⟩:=run_lookI ok K hu hz hk ⟨es,clk,hw,hall⟩;refine LG.val t _ w (cL_1 hc).1 (cL_1 hc).2 ?_ (H v found hq);rw[hx]
  simp[hr,Result.andThen]
theorem run_updI {w:World}{mty kt et:TypeId}{b:Nat}{Q:Value→Prop}{key val:Value}(K:KeyLaw P kt)(hm:P.underlying mty=some (.map kt et))(hk:∃ l,keyOf P kt key=some l)(hv:Q val)
    (hb:∃ es clk,w.heap[b]?=some (.map es clk)∧∀ e∈es.toList,(∃ l,keyOf P kt e.key=some l)∧Q e.val):∃ es2 clk2,(∀ e∈es2.toList,(∃ l,keyOf P kt e.key=some l)∧Q e.val)∧(Instr.mapUpdate mty (.map (some b)) key val).run P w=.ok () { w with heap:=w.heap.setIfInBounds b (.map es2 clk2) }:=by
  obtain ⟨es,clk,hb,hall⟩:=hb;obtain ⟨l,hk⟩:=hk
  rcases K.find w hk es.toList (fun e he=>(hall e he).1) with ⟨h1,_⟩|⟨j,e0,h1,h2,h3⟩
  · refine ⟨es.push ⟨key,val,clk⟩,clk+1,fun e he=>?_,by simp[Instr.mapUpdate,run_underlying hm,MapKept.run_getObj_map hb,K.check w false hk,h1,MapKept.run_setObj_map _ hb,Result.andThen]⟩
    simp only[Array.toList_push,List.mem_append,List.mem_singleton] at he
    rcases he with he|rfl
    · exact hall e he
    · exact ⟨⟨l,hk⟩,hv⟩
  · have hj:es[j]?=some e0:=by simpa using h2
    refine ⟨es.modify j (fun e'=>{ e' with key:=key,val:=val }),clk,fun e he=>?_,by simp[Instr.mapUpdate,run_underlying hm,MapKept.run_getObj_map hb,K.check w false hk,h1,hj,h3,K.stays w hk,MapKept.run_setObj_map _ hb,Result.andThen]⟩
    rcases MapFrom.mem_modify he with he|⟨e',_,rfl⟩
    · exact hall e he
    · exact ⟨⟨l,hk⟩,hv⟩
theorem SS.base (s:SS w1 h1 w h B Rs F){b:Nat}{o:Obj}(hj:h1[b]?=some junk)(hb:b<w1.heap.size) :
    SS { w1 with heap:=w1.heap.setIfInBounds b o } h1 { w with heap:=w.heap.setIfInBounds b o } h B Rs F∧G { w1 with heap:=w1.heap.setIfInBounds b o } h1:=by
  have hlt:b<h1.size:=lt_of_some hj;have hj2:h[b]?=some junk:=(s.st.up.gr.blk b hlt).trans hj;have hbw:b<w.heap.size:=by rw[s.g.size];exact lt_of_some hj2
  have set:∀ (w:World) c,c≠b→({ w with heap:=w.heap.setIfInBounds b o }:World).heap[c]?=w.heap[c]?:=fun w c hc=>by show (w.heap.setIfInBounds b o)[c]?=_;rw[Array.getElem?_setIfInBounds_ne (Ne.symm hc)]
  have selfs:∀ (w:World),b<w.heap.size→({ w with heap:=w.heap.setIfInBounds b o }:World).heap[b]?=some o:=fun w hw=>by show (w.heap.setIfInBounds b o)[b]?=_;rw[Array.getElem?_setIfInBounds_self_of_lt hw]
  have gg:∀ (w:World) (h:Hp),G w h→h[b]?=some junk→G { w with heap:=w.heap.setIfInBounds b o } h:=fun w h g j=>⟨by show (w.heap.setIfInBounds b o).size=_;rw[Array.size_setIfInBounds];exact g.size,fun c=>by
    by_cases e:c=b
    · subst e;exact .inr j
    · rw[set w c e];exact g.blk c⟩
  have g0':=gg w1 h1 s.g0 hj;refine ⟨⟨g0',⟨⟨?_,s.st.up.gr,gg w h s.g hj2⟩,fun x hx=>?_,s.st.jk,s.st.lo,s.st.nd⟩,fun r hr=>?_,s.ap,s.mo,s.f⟩,g0'⟩
  · have e:=s.st.up.ext
    refine ⟨e.os,e.tape,e.output,?_,fun c hc=>?_⟩
    · show (w1.heap.setIfInBounds b o).size≤(w.heap.setIfInBounds b o).size
      rw[Array.size_setIfInBounds,Array.size_setIfInBounds];exact e.size
    · by_cases q:c=b
      · subst q;rw[selfs w hbw,selfs w1 hb]
      · rw[set w c q,set w1 c q];exact e.block c (by have:c<(w1.heap.setIfInBounds b o).size:=hc;rw[Array.size_setIfInBounds] at this;exact this)
  · have:x.b≠b:=fun e=>by have:=s.st.lo x hx;omega
    exact (set w x.b this).trans (s.st.own x hx)
  · have q:=s.ro r hr
    refine ⟨own_block q.own (fun c hc=>set w c (fun e=>?_)),q.jk,q.ap⟩;subst e
    rcases q.own with ⟨_,e2|⟨g,cap,cur,hv,hb',_⟩⟩
    · rw[e2.1] at hc;simp[Value.ownBlock] at hc
    · rw[hv] at hc
      simp[Value.ownBlock] at hc
      omega
theorem Up.base {w1:World}{h1:Hp}(u:Up w0 h0 w1 h1)(g0:G w0 h0){b:Nat}{o:Obj}(hlo:h0.size≤b)(g1:G { w1 with heap:=w1.heap.setIfInBounds b o } h1):Up w0 h0 { w1 with heap:=w1.heap.setIfInBounds b o } h1 :=
  ⟨⟨u.ext.os,u.ext.tape,u.ext.output,by show _≤(w1.heap.setIfInBounds b o).size;rw[Array.size_setIfInBounds];exact u.ext.size,fun c hc=>by
    show (w1.heap.setIfInBounds b o)[c]?=_
    rw[Array.getElem?_setIfInBounds_ne (fun e=>by have:=g0.size;omega)];exact u.ext.block c hc⟩,u.gr,g1⟩
theorem lMuI {mty kt et:TypeId}{b:Nat}{Q:Value→Prop}(key val:Value)(s:SS w1 h1 w h B Rs F)(m:MapI P kt Q w1 h1 b)(K:KeyLaw P kt)(hk:∃ l,keyOf P kt key=some l)(hv:Q val){B0:List Bx}(hz:SS w0 h0 w1 h1 B0 [] [])(hlo:h0.size≤b)(hnb:∀ x∈B0,x.b≠b)
    (H:∀ w1' w',SS w1' h1 w' h B Rs F→MapI P kt Q w1' h1 b→SS w0 h0 w1' h1 B0 [] []→LG P n N R X ops (k+1) Γ w')
    (hc:cS ops Γ k=true:=by kernel_rfl)(hx:execOp (ev Γ) (opAt ops k)=(do Instr.mapUpdate mty (.map (some b)) key val;pure .skip):=by kernel_rfl)(hu:P.underlying mty=some (.map kt et):=by kernel_rfl):LG P n N R X ops k Γ w:=by
  obtain ⟨es,clk,hb,hall⟩:=m.ex;have hlt:b<w1.heap.size:=(Array.getElem?_eq_some_iff.1 hb).1;have hw:w.heap[b]?=some (.map es clk):=(s.st.up.ext.block b (by rw[s.g0.size];exact lt_of_some m.jk)).trans hb;obtain ⟨es2,clk2,h2,hr⟩:=run_updI K hu hk hv ⟨es,clk,hw,hall⟩;obtain ⟨s2,g2⟩:=s.base (o:=.map es2 clk2) m.jk hlt;refine LG.store _ (cS_1 hc).1 (cS_1 hc).2 ?_ (H _ _ s2 ⟨m.jk,es2,clk2,?_,h2⟩ ⟨hz.g0,⟨hz.st.up.base hz.g0 hlo g2,fun x hx=>?_,hz.st.jk,hz.st.lo,hz.st.nd⟩,fun _ hx=>(by cases hx),.nil,fun _ hx=>(by cases hx),trivial⟩)
  · rw[hx];simp[hr,Result.andThen]
  · show (w1.heap.setIfInBounds b _)[b]?=_
    rw[Array.getElem?_setIfInBounds_self_of_lt hlt]
  · refine Eq.trans ?_ (hz.st.own x hx)
    show (w1.heap.setIfInBounds b _)[x.b]?=_
    rw[Array.getElem?_setIfInBounds_ne (Ne.symm (hnb x hx))]
end laws
theorem hcell_some {h:Hp}{b i:Nat}{v:Value}(e:hcell h b i=some v):∃ c t g,h[b]?=some (.cells c t g)∧c[i]?=some v:=by
  unfold hcell at e
  cases hb:h[b]? with
  | none=>rw[hb] at e;cases e
  | some o =>
    rw[hb] at e
    cases o with
    | cells c t g=>exact ⟨c,t,g,rfl,e⟩
    | _=>cases e
theorem hcell_junk {h:Hp}{b i:Nat}(j:h[b]?=some junk):hcell h b i=none:=by
  unfold hcell;rw[j];simp[junk]
structure Whole (lo:Nat) (h:Hp) (b:Nat) (ty:TypeId) (vs:List Value):Prop where
  lo:lo≤b
  ty0:(ty == 0)=false
  at_:h[b]?=some (.cells vs.toArray ty (0,0))
theorem Whole.gw {lo:Nat}{h h':Hp}{b:Nat}{ty:TypeId}{vs:List Value}(x:Whole lo h b ty vs)(u:Gw h h'):Whole lo h' b ty vs:=by
  refine ⟨x.lo,x.ty0,?_⟩
  rcases u.blk b (lt_of_some x.at_) with e|e
  · rw[e];exact x.at_
  · have h1:=x.at_
    rw[e] at h1
    injection h1 with h1
    unfold junk at h1
    injection h1 with h2 h3 h4
    have:=x.ty0;rw[←h3] at this
    cases this
theorem Whole.nj {lo:Nat}{h:Hp}{b:Nat}{ty:TypeId}{vs:List Value}(x:Whole lo h b ty vs):h[b]?≠some junk:=fun e=>by
  have h1:=x.at_;rw[e] at h1
  injection h1 with h1
  unfold junk at h1
  injection h1 with h2 h3 h4
  have:=x.ty0;rw[←h3] at this
  cases this
section ss
variable {w0:World} {h0:Hp} {w:World} {h:Hp} {B:List Bx} {R:List Rw} {F:List (Hp→Prop)}
theorem SS.pubrS (s:SS w0 h0 w h B R F)(j:Nat){ty:TypeId}{sz c:Nat}{A:Option Addr}{α:Type}{f:α→List Value}{l:List α}(d:α)(hf:∀ x,(f x).length=sz)(hpos:0<l.length)(hsz:0<sz)(hr:R.getD j default=⟨ty,sz,A,c,l.length,l.flatMap f⟩:=by kernel_rfl)(hj:decide (j<R.length)=true:=by kernel_rfl)(hty:(ty == 0)=false:=by kernel_rfl) :
    ∃ h' b sp,A=some ⟨b,0,none⟩∧h[b]?=some junk∧SS w0 h0 w h' B (R.eraseIdx j) ((fun h=>Whole h0.size h b ty (l.flatMap f++sp))::(fun h=>SlO sz f d h A l)::F)∧l.length≤c:=by
  have hj':=oT hj;have e0:R[j]=⟨ty,sz,A,c,l.length,l.flatMap f⟩:=by rw[←hr];simp[hj']
  have r0:=s.ro _ (List.getElem_mem hj');rw[e0] at r0
  obtain ⟨h',s',hc⟩:=s.pubr j (A:=A) (c:=c) (l:=l) (f:=f) (ty:=ty) (sz:=sz) d hf hr hj
  rcases r0.own with ⟨h1,⟨e,e2⟩|⟨b,cap',cur,e,hbb,hg,hn,hm,hs,ht⟩⟩
  · have:l.length=0:=e2
    omega
  · have e':Value.slice A l.length c=.slice (some ⟨b,0,none⟩) l.length cap':=e
    injection e' with e1 e2 e3
    have hjk:=r0.jk b (by show (Value.slice A l.length c).ownBlock=some b;rw[e1];rfl);have hsl:=s'.f.1
    have hcell:hcell h' b 0≠none:=fun hn0=>by
      have h2:=hsl.el 0 hpos 0 ((f (l.getD 0 d)).get ⟨0,by rw[hf];exact hsz⟩) (by simp[hf,hsz]);rw[e1,show aO (some ⟨b,0,none⟩)+0*sz+0=0 from by rw[Nat.zero_mul];rfl] at h2
      exact absurd (hn0.symm.trans h2) (by simp)
    have hb':h'[b]?=w.heap[b]?:=by
      rcases s'.g.blk b with e4|e4
      · exact e4
      · exact absurd (hcell_junk e4) hcell
    refine ⟨h',b,cur.toList.drop (l.length*sz),e1,hjk,s'.add (K:=fun h=>Whole h0.size h b ty (l.flatMap f++cur.toList.drop (l.length*sz))) ⟨hbb,hty,?_⟩,hc⟩;rw[hb',hg]
    have:l.flatMap f++cur.toList.drop (l.length*sz)=cur.toList:=by
      have ht':cur.toList.take (l.length*sz)=l.flatMap f:=ht;rw[←ht'];exact List.take_append_drop _ _
    rw[this]
theorem SS.grab (s:SS w0 h0 w h B R F){b:Nat}{ty:TypeId}{vs:List Value}(x:Whole h0.size h b ty vs):SS w0 h0 w (h.setIfInBounds b junk) (⟨b,ty,vs⟩::B) R []:=by
  have hlt:=lt_of_some x.at_
  have hown:Own w b ty vs:=by
    rcases s.g.blk b with e|e
    · exact e.symm.trans x.at_
    · exact absurd e x.nj
  have hne:∀ c,h[c]?=some junk→c≠b:=fun c hc e=>x.nj (e▸hc)
  refine ⟨s.g0,⟨⟨s.st.up.ext,⟨by simp;exact s.st.up.gr.size,fun c hc=>?_⟩,⟨by simp;exact s.st.up.g.size,fun c=>?_⟩⟩,?_,?_,?_,?_⟩,fun r hr=>?_,s.ap,(fun p hp=>by cases hp),trivial⟩
  · have:=x.lo
    rw[Array.getElem?_setIfInBounds_ne oM];exact s.st.up.gr.blk c hc
  · by_cases e:b=c
    · subst e;right;rw[Array.getElem?_setIfInBounds_self_of_lt hlt]
    · rw[Array.getElem?_setIfInBounds_ne e];exact s.st.up.g.blk c
  · intro y hy
    rcases List.mem_cons.1 hy with rfl|hy
    · exact hown
    · exact s.st.own y hy
  · intro y hy
    rcases List.mem_cons.1 hy with rfl|hy
    · exact Array.getElem?_setIfInBounds_self_of_lt hlt
    · rw[Array.getElem?_setIfInBounds_ne (Ne.symm (hne _ (s.st.jk y hy)))];exact s.st.jk y hy
  · intro y hy
    rcases List.mem_cons.1 hy with rfl|hy
    · exact x.lo
    · exact s.st.lo y hy
  · refine List.nodup_cons.2 ⟨fun hm=>?_,s.st.nd⟩
    obtain ⟨y,hy,he⟩:=List.mem_map.1 hm;exact hne _ (s.st.jk y hy) he
  · have r0:=s.ro r hr
    refine ⟨r0.own,fun c hc=>?_,fun c hc hm=>?_⟩
    · rw[Array.getElem?_setIfInBounds_ne (Ne.symm (hne _ (r0.jk c hc)))];exact r0.jk c hc
    · rcases List.mem_cons.1 hm with e|hm
      · exact hne _ (r0.jk c hc) e
      · exact r0.ap c hc hm
end ss
structure Poked (h h':Hp) (b:Nat):Prop where
  oth:∀ c,c≠b→c<h.size→h'[c]?=h[c]?
section ss
variable {w0:World} {h0:Hp} {w:World} {h:Hp} {B:List Bx} {R:List Rw} {F:List (Hp→Prop)}
end ss
section ro
variable {w0:World} {h0:Hp} {w:World} {h:Hp} {B:List Bx} {R:List Rw} {F:List (Hp→Prop)}
theorem SS.ro_jk (s:SS w0 h0 w h B R F)(j:Nat){ty:TypeId}{sz c m:Nat}{A:Option Addr}{cs:List Value}(hr:R.getD j default=⟨ty,sz,A,c,m,cs⟩:=by kernel_rfl)(hj:decide (j<R.length)=true:=by kernel_rfl):∀ b∈(Value.slice A m c).ownBlock.toList,h[b]?=some junk:=fun b hb=>by
  have hj':=oT hj;have r:=s.ro _ (List.getElem_mem hj');rw[rw_get hr hj'] at r
  exact r.jk b (Option.mem_toList.1 hb)
theorem SS.ro_lt (s:SS w0 h0 w h B R F)(j:Nat){ty:TypeId}{sz c m:Nat}{A:Option Addr}{cs:List Value}(hr:R.getD j default=⟨ty,sz,A,c,m,cs⟩:=by kernel_rfl)(hj:decide (j<R.length)=true:=by kernel_rfl):∀ b∈(Value.slice A m c).ownBlock.toList,b<h.size:=fun b hb=>by
  have hj':=oT hj;have r:=s.ro _ (List.getElem_mem hj');rw[rw_get hr hj'] at r
  exact lt_of_some (r.jk b (Option.mem_toList.1 hb))
theorem SS.ro_ne (s:SS w0 h0 w h B R F)(q j:Nat){ty:TypeId}{sz c m:Nat}{A:Option Addr}{cs:List Value}(hq:decide (q<B.length)=true:=by kernel_rfl)(hr:R.getD j default=⟨ty,sz,A,c,m,cs⟩:=by kernel_rfl)(hj:decide (j<R.length)=true:=by kernel_rfl):(bxAt B q).b ∉ (Value.slice A m c).ownBlock.toList:=fun hb=>by
  have hj':=oT hj;have r:=s.ro _ (List.getElem_mem hj');rw[rw_get hr hj'] at r
  exact r.ap _ (Option.mem_toList.1 hb) (List.mem_map.2 ⟨_,bxAt_mem (oT hq),rfl⟩)
end ro
def NewS {α:Type}(lo:Nat)(h:Hp)(ty:TypeId)(f:α→List Value)(S:Option Addr)(n:Nat):Prop:=n≤1000∧(n=0∨∃ (b:Nat) (l:List α) (sp:List Value),S=some ⟨b,0,none⟩∧l.length=n∧Whole lo h b ty (l.flatMap f++sp))
theorem NewS.gw {α:Type}{lo:Nat}{h h':Hp}{ty:TypeId}{f:α→List Value}{S:Option Addr}{n:Nat}(x:NewS lo h ty f S n)(u:Gw h h'):NewS lo h' ty f S n:=by
  obtain ⟨x0,x⟩:=x;refine ⟨x0,?_⟩
  rcases x with x|⟨b,l,sp,e,hl,hw⟩
  · exact .inl x
  · exact .inr ⟨b,l,sp,e,hl,hw.gw u⟩
theorem NewS.le {α:Type}{lo lo':Nat}{h:Hp}{ty:TypeId}{f:α→List Value}{S:Option Addr}{n:Nat}(x:NewS lo h ty f S n)(u:lo'≤lo):NewS lo' h ty f S n:=by
  obtain ⟨x0,x⟩:=x;refine ⟨x0,?_⟩
  rcases x with x|⟨b,l,sp,e,hl,hw⟩
  · exact .inl x
  · exact .inr ⟨b,l,sp,e,hl,Nat.le_trans u hw.lo,hw.ty0,hw.at_⟩
def TapeN (lo:Nat)(h:Hp)(inp:Int)(v:Value):Prop:=∃ (S:Option Addr) (sn sc:Nat) (O:Option Addr) (on oc:Nat),v=.agg #[.int .i64 inp,.slice S sn sc,.slice O on oc]∧NewS lo h 43 stc S sn∧NewS lo h 3 i64c O on
def ByOk (k:Nat)(bl:List Int):Prop:=∀ j,j<k→0≤bl.getD j 0∧bl.getD j 0≤(j:Int)
def StOk (k:Nat)(sl:List Stp):Prop:=∀ j,j<k→(0<ari (sl.getD j stp0).op→0≤(sl.getD j stp0).a∧(sl.getD j stp0).a<(j:Int))∧(1<ari (sl.getD j stp0).op→0≤(sl.getD j stp0).b∧(sl.getD j stp0).b<(j:Int))
theorem ByOk.fin {k n:Nat}{bl:List Int}(x:ByOk k bl)(h:n≤k):ByOk n bl:=fun j hj=>x j oM
theorem StOk.fin {k n:Nat}{sl:List Stp}(x:StOk k sl)(h:n≤k):StOk n sl:=fun j hj=>x j oM
theorem getD_set0 {α:Type}{l:List α}{d x:α}{k i:Nat}(hk:k<l.length):(l.set k x).getD i d=if i=k then x else l.getD i d:=by
  rw[List.getD_eq_getElem?_getD,List.getElem?_set]
  by_cases e:k=i
  · subst e;rw[if_pos rfl,if_pos hk,if_pos rfl];rfl
  · rw[if_neg e,if_neg (fun h=>e h.symm),←List.getD_eq_getElem?_getD]
theorem ByOk.set {k:Nat}{bl:List Int}{v:Int}(x:ByOk k bl)(hk:k<bl.length)(h0:0≤v)(h1:v≤(k:Int)):ByOk (k+1) (bl.set k v):=fun j hj=>by
  rw[getD_set0 hk]
  by_cases e:j=k
  · subst e;rw[if_pos rfl];exact ⟨h0,h1⟩
  · rw[if_neg e];exact x j oM
theorem StOk.set {k:Nat}{sl:List Stp}{s:Stp}(x:StOk k sl)(hk:k<sl.length)(y:(0<ari s.op→0≤s.a∧s.a<(k:Int))∧(1<ari s.op→0≤s.b∧s.b<(k:Int))):StOk (k+1) (sl.set k s):=fun j hj=>by
  rw[getD_set0 hk]
  by_cases e:j=k
  · subst e;rw[if_pos rfl];exact y
  · rw[if_neg e];exact x j oM
def Qm (k:Nat)(v:Value):Prop:=∃ j:Nat,v=.int .i64 (j:Nat)∧j<k
theorem Qm_up {k:Nat}(v:Value)(x:Qm k v):Qm (k+1) v:=by
  obtain ⟨j,e,h⟩:=x;exact ⟨j,e,by omega⟩
theorem Qm_get {K:Nat}{v:Value}(x:Qm K v∨v=.int .i64 0)(h:0<K):∃ j:Nat,v=.int .i64 (j:Nat)∧j<K:=by
  rcases x with x|rfl
  · exact x
  · exact ⟨0,rfl,h⟩
theorem seen_law:WideMaps.KeyLaw Tryz.prog 66:=deep_law_gate kR (by decide +kernel) (by decide +kernel) kR kR
theorem isKey_seen {a b c d:Int}{s:ByteArray}(ha : -9223372036854775808≤a∧a≤9223372036854775807)(hb : -9223372036854775808≤b∧b≤9223372036854775807)(hc : -9223372036854775808≤c∧c≤9223372036854775807)(hd : -9223372036854775808≤d∧d≤9223372036854775807)(hs:s.size≤100):∃ l,keyOf Tryz.prog 66 (.agg #[.int .i64 a,.int .i64 b,.int .i64 c,.int .i64 d,.string s])=some l:=by
  have w:∀ z:Int,(-9223372036854775808≤z∧z≤9223372036854775807)→(Lit.int .i64 z).wf=true:=fun z hz=>by
    show (decide (IntKind.min .i64≤z) && decide (z≤IntKind.max .i64))=true
    rw[Bool.and_eq_true];exact ⟨decide_eq_true hz.1,decide_eq_true hz.2⟩
  exact isKey5 (P := Tryz.prog) (k := 66) (i := 3) (st := 9) (f1 := ⟨"op", 3, 0, false, "", "abaculus/tape", 0⟩) (f2 := ⟨"n", 3, 1, false, "", "abaculus/tape", 8⟩) (f3 := ⟨"a", 3, 2, false, "", "abaculus/tape", 16⟩) (f4 := ⟨"b", 3, 3, false, "", "abaculus/tape", 24⟩) (f5 := ⟨"q", 9, 4, false, "", "abaculus/tape", 32⟩) kR kR kR kR kR ⟨rfl, rfl, by decide⟩ ⟨rfl, rfl, by decide⟩ ⟨rfl, rfl, by decide⟩ ⟨rfl, rfl, by decide⟩ ⟨rfl, rfl, by decide⟩ kR kR ⟨Tryz.prog.types.size - 1, by kernel_rfl⟩ (w _ ha) (w _ hb) (w _ hc) (w _ hd) (by unfold maxLen; omega)
theorem tLean (inp:Int)(A:Option Addr)(c:Nat)(l:List Stp)(O:Option Addr)(d:Nat)(os:List Int)(hl:l.length≤20)(ho:os.length≤10)(hq:∀ i,LQ 1 (l.getD i stp0).q)(h100:∀ i,iabs (l.getD i stp0).q.num<100∧(l.getD i stp0).q.den<100)(hI:∀ i,(-1000≤(l.getD i stp0).op∧(l.getD i stp0).op≤1000)∧(-1000≤(l.getD i stp0).n∧(l.getD i stp0).n≤1000)∧(-1000≤(l.getD i stp0).a∧(l.getD i stp0).a≤1000) ∧ -1000≤(l.getD i stp0).b∧(l.getD i stp0).b≤1000)(hKept:chkTp inp l os=0→∀ (Sb:Nat) (sl:List Stp) (Bb:Option Addr) (bl:List Int),sl.length=l.length→bl.length=l.length→StOk l.length sl→ByOk l.length bl→∀ (w:World) (h:Hp),G w h→SlO 9 stc stp0 h A l→Si O os h→SlO 9 stc stp0 h (sB Sb) sl→Si Bb bl h→Calls Tryz.prog 16 #[.agg #[iV inp,.slice A l.length c,.slice O os.length d],.slice (sB Sb) l.length l.length,.slice Bb l.length l.length] w (Ret w h (fun v h1=>TapeN h.size h1 inp v)))(w:World)(h:Hp)(g:G w h)(hA:SlO 9 stc stp0 h A l)(hO:Si O os h):CR 6 #[.agg #[iV inp,.slice A ((l).length) c,.slice O ((os).length) d]] w h (fun v h1=>∃ (i_:Int) (S:Option Addr) (sn sc:Nat) (O:Option Addr) (on oc:Nat) (e:Int),v=.tuple #[.agg #[iV i_,.slice S sn sc,.slice O on oc],iV e]∧NewS h.size h1 43 stc S sn∧NewS h.size h1 3 i64c O on∧(e≠0→sn=0)):=by
 have hs:=(((sS g).aS hA).aS hO);refine go Tryz.func6 [(0,.agg #[iV inp,qS A ((l).length) c,qS O ((os).length) d])] rfl (cSL (lA 1 29 ([iV inp,qS A ((l).length) c,qS O ((os).length) d]) hs (fun b1 w2 h3 hs=>lA 2 29 ([iV 0,sZ,sZ]) hs (fun b4 w5 h6 hs=>lL hs [.v 3 (iV 0)] (lN (cQ (cSL (lL hs [.o 13 (.agg #[iV inp,qS A ((l).length) c,qS O ((os).length) d]) 1 0 3] (lC 14 hs (tCheck inp A c l O d os oM oM (fun i _=>hq i) _ _ hs.g hs.f.2.1 hs.f.1) ?_)))))))));rintro _ w7 h8 hs rfl;cases hb9:((chkTp inp l os:Int) != (0:Int))
 ·
  have phb9:=eqOfBne hb9;refine lB 15 hb9 (lN (cIF (cK (cSL ?_))));have hck:chkTp inp l os=0:=by omega
  have hF:=(chk_formed hck).1;obtain ⟨zW,hs,sg11,-,-⟩:=hs.pub 1;replace hs:=hs.to [⟨b4,29,[iV 0,sZ,sZ]⟩] [];have sg12:Seg zW b1 0 ([iV inp,qS A ((l).length) c,qS O ((os).length) d]):=sg11;replace hs:=hs.a_Seg sg12;refine lMkI 66 (Qm 0) 17 hs (fun zg zX zo hz16 hlo17 hnb18 hs hmp19=>lL hs [.m 4 17] (lNS (lL hs [.v 18 (qP b1 1)] (lH 19 (qS A l.length c) hs ((hs.f.1).part 1 1) ?_))));refine lL hs [.v 20 (nV l.length)] (lK 21 3 l.length 1 8 (iV 0) i64c (0:Int) hs (fun zb _ _ hs=>?_));have hl23:(List.replicate l.length (0:Int)).length=l.length:=by simp
  refine lL hs [.m 5 21] (lNS (lL hs [.v 22 (qP b1 1)] (lH 23 (qS A l.length c) hs ((hs.f.1).part 1 1) ?_)));refine lL hs [.v 24 (nV l.length)] (lK 25 43 l.length 9 88 (.agg #[iV 0,iV 0,iV 0,iV 0,qF,uV 0,eS,uV 0,eS]) stc stp0 hs (fun zc _ ya hs=>?_));have hl27:(List.replicate l.length stp0).length=l.length:=by simp
  refine lL hs [.m 6 25] (lN (cQ (cSL (lL hs [.v 26 (qP b1 1)] (lH 27 (qS A l.length c) hs ((hs.f.1).part 1 1) ?_)))));refine lL hs [.v 28 (nV l.length),.v 29 (iV 0)] (lN (kZ ?_));refine cTo _ (CG.loop (fun μ_ Γ w_=>∃ (w1_:World) (k:Nat) (bl:List Int) (sl:List Stp) (h_:Hp),μ_=l.length-k∧Γ=[(1,pB b1),(2,pB b4),(3,iV 0),(4,.map (some zg)),(5,qS (sB zb) l.length l.length),(6,qS (sB zc) l.length l.length),(27,qS A l.length c),(28,nV l.length),(29,nV k)]∧SS w1_ zo w_ h_ [⟨zc,43,(sl).flatMap stc⟩,⟨zb,3,(bl).flatMap i64c⟩] [] [fun h_=>Seg h_ b1 0 ([iV inp,qS A ((l).length) c,qS O ((os).length) d]),Si O os,fun h_=>SlO 9 stc stp0 h_ A l]∧SS (w) (h) w1_ zo [⟨b4,29,[iV 0,sZ,sZ]⟩] [] []∧MapI Tryz.prog 66 (Qm k) w1_ zo zg∧k≤l.length∧bl.length=l.length∧sl.length=l.length∧ByOk k bl∧StOk k sl) _ ⟨zX,0,List.replicate l.length 0,List.replicate l.length stp0,ya,rfl,rfl,hs.to _ _,hz16,hmp19,Nat.zero_le _,(by simp),(by simp),(fun i hi=>absurd hi (Nat.not_lt_zero i)),(fun i hi=>absurd hi (Nat.not_lt_zero i))⟩ ?_);rintro _ _ _ ⟨w1_,k,bl,sl,_,hm30,rfl,hs,hz_,hmp_,hk,hbl,hsl,hBy,hSt⟩;refine cSL ?_;cases ze:(decide ((k:Int)<(l.length:Int)))
  ·
   have zw:=oF ze;refine lB 30 ze (lN (cQ (cIF (CG.exit ?_))))
   show CG _ _ _ _ _ _ _ _
   refine cSL ?_;obtain ⟨_,hs,sg33,lo34,bc35⟩:=hs.pub 1;replace hs:=(hs.to [⟨zc,43,(sl).flatMap stc⟩] []).aS (SlO.of_flat (sz:=1) (f:=i64c) (d:=0) (b:=zb) (o:=0) (l:=bl) (fun _=>rfl) sg33);obtain ⟨zp,hs,sg38,lo39,bc40⟩:=hs.pub 0;replace hs:=(hs.to [] []).aS (SlO.of_flat (sz:=9) (f:=stc) (d:=stp0) (b:=zc) (o:=0) (l:=sl) (fun _=>rfl) sg38);replace hs:=hz_.back hs;have hle_:h.size≤zp.size:=hs.st.up.gr.size;replace hs:=hs.to [⟨b4,29,[iV 0,sZ,sZ]⟩] [];refine lH 87 (.agg #[iV inp,qS A ((l).length) c,qS O ((os).length) d]) hs ((hs.f.r.1).part 0 3) (lL hs [.m 88 6,.m 89 5] (lC 90 hs (hKept hck zc sl (sB zb) bl hsl hbl (hSt.fin oM) (hBy.fin oM) _ _ hs.g hs.f.q.1 hs.f.r.2.1 hs.f.1 hs.f.2.1) ?_));rintro _ _ _ hs ⟨S_,sn_,sc_,O_,on_,oc_,rfl,hS_,hO_⟩;replace hs:=((hs.add (K:=fun h_=>NewS zp.size h_ 43 stc S_ sn_) hS_).add (K:=fun h_=>NewS zp.size h_ 3 i64c O_ on_) hO_);exact lP 0 0 ([iV inp,qS S_ sn_ sc_,qS O_ on_ oc_]) hs (fun _ hs=>lL hs [.v 3 (iV 0)] (lN (kX (hs.ret [(0,0,3)] (.tuple #[.agg #[iV inp,qS S_ sn_ sc_,qS O_ on_ oc_],iV 0]) (⟨_,S_,sn_,sc_,O_,on_,oc_,0,rfl,(hs.f.2.1).le hle_,(hs.f.1).le hle_,fun h_=>absurd rfl h_⟩)))))
  have zw:=oT ze;refine lB 30 ze (lN (cQ (cIT (cK (cQ (kZ (cSL ?_)))))));have fk:=hF k oM;have hop:=fk.opr;obtain ⟨hx1,hx2,hx3,hx4⟩:=fk.ix;obtain ⟨hi1,hi2,hi3,hi4⟩:=hI k;refine lL hs [.m 31 29] (lX 32 A l.length c 9 (k:Nat) k ((hs.f.r.1).ok oM) ?_);refine lH 33 (.agg #[iV ((l.getD k stp0).op),iV ((l.getD k stp0).a),iV ((l.getD k stp0).b),iV ((l.getD k stp0).n),.bool (ineg ((l.getD k stp0).q).num),uV (lo (iabs ((l.getD k stp0).q).num)),.string (hi (iabs ((l.getD k stp0).q).num)),uV (lo (qd ((l.getD k stp0).q))),.string (hi (qd ((l.getD k stp0).q)))]) hs ((hs.f.r.1).el k oM) (lA 8 43 ([iV 0,iV 0,iV 0,iV 0,qF,uV 0,eS,uV 0,eS]) hs (fun za _ _ hs=>lL hs [.m 7 31] (lP 0 0 ([iV ((l.getD k stp0).op),iV ((l.getD k stp0).a),iV ((l.getD k stp0).b),iV ((l.getD k stp0).n),.bool (ineg ((l.getD k stp0).q).num),uV (lo (iabs ((l.getD k stp0).q).num)),.string (hi (iabs ((l.getD k stp0).q).num)),uV (lo (qd ((l.getD k stp0).q))),.string (hi (qd ((l.getD k stp0).q)))]) hs (fun _ hs=>lNS (lL hs [.v 34 (pB za),.o 35 (iV ((l.getD k stp0).op)) 0 0 1] (lC 36 hs (tArity (l.getD k stp0).op _ _ hs.g) ?_))))));rintro _ _ _ hs rfl;refine lL hs [.m 9 36] (lN (cQ (cSL (lL hs [.m 37 9] ?_))));cases zf:(decide ((0:Int)<(ari (l.getD k stp0).op:Int)))
  ·
   have zx:=oF zf;refine lB 38 zf (lN (cIF (cK (cQ (cSL (lL hs [.m 45 9] ?_))))));have ⟨zM,phb52⟩:=dF (p:=(1:Int)<(ari (l.getD k stp0).op:Int)) oM;refine lB 46 zM (lN (cIF (cK (cSL (lL hs [.m 53 6,.m 54 7,.o 55 (.agg #[iV ((l.getD k stp0).op),iV ((l.getD k stp0).a),iV ((l.getD k stp0).b),iV ((l.getD k stp0).n),.bool (ineg ((l.getD k stp0).q).num),uV (lo (iabs ((l.getD k stp0).q).num)),.string (hi (iabs ((l.getD k stp0).q).num)),uV (lo (qd ((l.getD k stp0).q))),.string (hi (qd ((l.getD k stp0).q)))]) 0 0 9] (lX 56 (sB zc) l.length l.length 9 (k:Nat) k rfl ?_))))));refine lW 1 sl stc 9 k (⟨(l.getD k stp0).op,(l.getD k stp0).a,(l.getD k stp0).b,(l.getD k stp0).n,(l.getD k stp0).q⟩:Stp) hs oM (fun _ hs=>?_);have zq:((sl).set k (⟨(l.getD k stp0).op,(l.getD k stp0).a,(l.getD k stp0).b,(l.getD k stp0).n,(l.getD k stp0).q⟩:Stp)).length=l.length:=by rw[List.length_set];exact hsl
   replace hs:=hs.to [⟨za,43,[iV ((l.getD k stp0).op),iV ((l.getD k stp0).a),iV ((l.getD k stp0).b),iV ((l.getD k stp0).n),.bool (ineg ((l.getD k stp0).q).num),uV (lo (iabs ((l.getD k stp0).q).num)),.string (hi (iabs ((l.getD k stp0).q).num)),uV (lo (qd ((l.getD k stp0).q))),.string (hi (qd ((l.getD k stp0).q)))]⟩,⟨zc,43,((sl).set k (⟨(l.getD k stp0).op,(l.getD k stp0).a,(l.getD k stp0).b,(l.getD k stp0).n,(l.getD k stp0).q⟩:Stp)).flatMap stc⟩,⟨zb,3,(bl).flatMap i64c⟩] [];refine lN (cQ ?_);have hsr:=hs;refine cR 13 [⟨12,10,.cells (List.toArray [iV 0,iV 0,iV 0,iV 0,eS]) 66 (0,0)⟩] mixed hs (al_cons (alOk kR (fun _ _=>by kernel_rfl)) al_nil) (eV 0 57 (pB za) (eO 1 58 [(0,0,1)] (iV ((l.getD k stp0).op)) hs (eV 2 59 (qP za 3) (eO 3 60 [(0,3,1)] (iV ((l.getD k stp0).n)) hs (eV 4 61 (qP za 1) (eO 5 62 [(0,1,1)] (iV ((l.getD k stp0).a)) hs (eV 6 63 (qP za 2) (eO 7 64 [(0,2,1)] (iV ((l.getD k stp0).b)) hs (eV 8 65 (qP za 4) (eO 9 66 [(0,4,5)] (qv ((l.getD k stp0).q)) hs (eC 10 67 hs (fun _ _ hs=>qText (l.getD k stp0).q ((hq k).mono oM) (h100 k).1 (h100 k).2 _ _ hs.g) ?_)))))))))));rintro _ _ _ _ _ hs ⟨s55,rfl,hs55⟩;refine eV 11 68 (.agg #[iV ((l.getD k stp0).op),iV ((l.getD k stp0).n),iV ((l.getD k stp0).a),iV ((l.getD k stp0).b),.string s55]) (eD1p [] hsr hs 66 [iV 0,iV 0,iV 0,iV 0,eS] (fun _ zL zr hs=>tP 13 0 0 ([iV ((l.getD k stp0).op),iV ((l.getD k stp0).n),iV ((l.getD k stp0).a),iV ((l.getD k stp0).b),.string s55]) hs (fun _ hs=>tN (cQ (cSL ?_)))));have hmp62:=hmp_.imp (Qm_up (k:=k));refine lL hs [.m 70 4,.o 71 (.agg #[iV ((l.getD k stp0).op),iV ((l.getD k stp0).n),iV ((l.getD k stp0).a),iV ((l.getD k stp0).b),.string s55]) 0 0 5] (lMgI (mty:=62) (kt:=66) (et:=3) 72 (.agg #[iV ((l.getD k stp0).op),iV ((l.getD k stp0).n),iV ((l.getD k stp0).a),iV ((l.getD k stp0).b),.string s55]) (iV 0) true hs hmp62 seen_law (isKey_seen oM oM oM oM oM) (fun v63 fd64 zN=>?_));obtain ⟨j66,rfl,hj67⟩:=Qm_get (K:=k+1) zN oM;refine lL hs [.m 69 72,.v 73 (nV j66),.v 74 (.bool fd64),.m 11 73,.m 12 74] (lN (cTo [(1,pB b1),(2,pB b4),(3,iV 0),(4,.map (some zg)),(5,qS (sB zb) l.length l.length),(6,qS (sB zc) l.length l.length),(27,qS A l.length c),(28,nV l.length),(29,nV k),(7,nV k),(10,pB zr),(12,.bool fd64)] ?_));refine cSL (lL hs [.m 75 12] ?_);cases zs:(!fd64)
   ·
    refine lB 76 zs (lN (cIF (cK (kQ (lL hs [.m 80 5,.m 81 7,.m 82 4,.o 83 (.agg #[iV ((l.getD k stp0).op),iV ((l.getD k stp0).n),iV ((l.getD k stp0).a),iV ((l.getD k stp0).b),.string s55]) 0 0 5] (lMgI (mty:=62) (kt:=66) (et:=3) 84 (.agg #[iV ((l.getD k stp0).op),iV ((l.getD k stp0).n),iV ((l.getD k stp0).a),iV ((l.getD k stp0).b),.string s55]) (iV 0) false hs hmp62 seen_law (isKey_seen oM oM oM oM oM) (fun v69 fd70 zP=>?_)))))));obtain ⟨j72,rfl,hj73⟩:=Qm_get (K:=k+1) zP oM;refine lX 85 (sB zb) l.length l.length 1 (k:Nat) k rfl (lW 3 bl i64c 1 k (j72:Nat) hs oM (fun _ hs=>?_));have zQ:((bl).set k (j72:Nat)).length=l.length:=by rw[List.length_set];exact hbl
    replace hs:=hs.to [⟨zr,66,[iV ((l.getD k stp0).op),iV ((l.getD k stp0).n),iV ((l.getD k stp0).a),iV ((l.getD k stp0).b),.string s55]⟩,⟨za,43,[iV ((l.getD k stp0).op),iV ((l.getD k stp0).a),iV ((l.getD k stp0).b),iV ((l.getD k stp0).n),.bool (ineg ((l.getD k stp0).q).num),uV (lo (iabs ((l.getD k stp0).q).num)),.string (hi (iabs ((l.getD k stp0).q).num)),uV (lo (qd ((l.getD k stp0).q))),.string (hi (qd ((l.getD k stp0).q)))]⟩,⟨zc,43,((sl).set k (⟨(l.getD k stp0).op,(l.getD k stp0).a,(l.getD k stp0).b,(l.getD k stp0).n,(l.getD k stp0).q⟩:Stp)).flatMap stc⟩,⟨zb,3,((bl).set k (j72:Nat)).flatMap i64c⟩] [];refine lN (kQ (lIn 86 ((k:Nat)+1) (k+1) ?_));refine lL hs [.m 29 86] (lD ?_);intro a_ ka;replace hs:=hs.drop 2 0;refine ⟨_,_,?_,⟨w1_,k+1,(bl).set k (j72:Nat),(sl).set k (⟨(l.getD k stp0).op,(l.getD k stp0).a,(l.getD k stp0).b,(l.getD k stp0).n,(l.getD k stp0).q⟩:Stp),zL,rfl,rfl,hs.to _ _,hz_,hmp62,oM,zQ,zq,(hBy.set oM oM oM),(hSt.set oM ⟨fun h_=>by first|exact absurd h_ aM|(dsimp only;omega)|omega,fun h_=>by first|exact absurd h_ aM|(dsimp only;omega)|omega⟩)⟩,ka.to _ kR⟩
    omega
   refine lB 76 zs (lN (cIT (kQ (lL hs [.m 77 4,.o 78 (.agg #[iV ((l.getD k stp0).op),iV ((l.getD k stp0).n),iV ((l.getD k stp0).a),iV ((l.getD k stp0).b),.string s55]) 0 0 5,.m 79 7] (lMuI (mty:=62) (kt:=66) (et:=3) (.agg #[iV ((l.getD k stp0).op),iV ((l.getD k stp0).n),iV ((l.getD k stp0).a),iV ((l.getD k stp0).b),.string s55]) (nV k) hs hmp62 seen_law (isKey_seen oM oM oM oM oM) ⟨k,rfl,Nat.lt_succ_self _⟩ hz_ hlo17 hnb18 (fun yb _ hs hmp85 hz86=>lN (kQ (lL hs [.m 80 5,.m 81 7,.m 82 4,.o 83 (.agg #[iV ((l.getD k stp0).op),iV ((l.getD k stp0).n),iV ((l.getD k stp0).a),iV ((l.getD k stp0).b),.string s55]) 0 0 5] (lMgI (mty:=62) (kt:=66) (et:=3) 84 (.agg #[iV ((l.getD k stp0).op),iV ((l.getD k stp0).n),iV ((l.getD k stp0).a),iV ((l.getD k stp0).b),.string s55]) (iV 0) false hs hmp85 seen_law (isKey_seen oM oM oM oM oM) (fun v87 fd88 zR=>?_))))))))));obtain ⟨j90,rfl,hj91⟩:=Qm_get (K:=k+1) zR oM;refine lX 85 (sB zb) l.length l.length 1 (k:Nat) k rfl (lW 3 bl i64c 1 k (j90:Nat) hs oM (fun _ hs=>?_));have zS:((bl).set k (j90:Nat)).length=l.length:=by rw[List.length_set];exact hbl
   replace hs:=hs.to [⟨zr,66,[iV ((l.getD k stp0).op),iV ((l.getD k stp0).n),iV ((l.getD k stp0).a),iV ((l.getD k stp0).b),.string s55]⟩,⟨za,43,[iV ((l.getD k stp0).op),iV ((l.getD k stp0).a),iV ((l.getD k stp0).b),iV ((l.getD k stp0).n),.bool (ineg ((l.getD k stp0).q).num),uV (lo (iabs ((l.getD k stp0).q).num)),.string (hi (iabs ((l.getD k stp0).q).num)),uV (lo (qd ((l.getD k stp0).q))),.string (hi (qd ((l.getD k stp0).q)))]⟩,⟨zc,43,((sl).set k (⟨(l.getD k stp0).op,(l.getD k stp0).a,(l.getD k stp0).b,(l.getD k stp0).n,(l.getD k stp0).q⟩:Stp)).flatMap stc⟩,⟨zb,3,((bl).set k (j90:Nat)).flatMap i64c⟩] [];refine lN (kQ (lIn 86 ((k:Nat)+1) (k+1) ?_));refine lL hs [.m 29 86] (lD ?_);intro a_ ka;replace hs:=hs.drop 2 0;refine ⟨_,_,?_,⟨yb,k+1,(bl).set k (j90:Nat),(sl).set k (⟨(l.getD k stp0).op,(l.getD k stp0).a,(l.getD k stp0).b,(l.getD k stp0).n,(l.getD k stp0).q⟩:Stp),zL,rfl,rfl,hs.to _ _,hz86,hmp85,oM,zS,zq,(hBy.set oM oM oM),(hSt.set oM ⟨fun h_=>by first|exact absurd h_ aM|(dsimp only;omega)|omega,fun h_=>by first|exact absurd h_ aM|(dsimp only;omega)|omega⟩)⟩,ka.to _ kR⟩
   omega
  have zx:=oT zf;refine lB 38 zf (lN (cIT (kQ ?_)));have hak:=hop.1 oM;have hbya:=hBy (l.getD k stp0).a.toNat oM;refine lL hs [.m 39 5,.v 40 (qP za 1),.o 41 (iV ((l.getD k stp0).a)) 0 1 1] (lX 42 (sB zb) l.length l.length 1 ((l.getD k stp0).a) ((l.getD k stp0).a.toNat) rfl ?_);refine lQ 43 2 bl i64c 1 0 ((l.getD k stp0).a.toNat) (iV ((bl).getD ((l.getD k stp0).a.toNat) 0)) hs oM (lL hs [.v 44 (qP za 1)] (lP 0 1 ([iV ((bl).getD ((l.getD k stp0).a.toNat) 0)]) hs (fun _ hs=>lN (cQ (cSL (lL hs [.m 45 9] ?_))))));cases zd:(decide ((1:Int)<(ari (l.getD k stp0).op:Int)))
  ·
   have zt:=oF zd;refine lB 46 zd (lN (cIF (cK (cSL (lL hs [.m 53 6,.m 54 7,.o 55 (.agg #[iV ((l.getD k stp0).op),iV ((bl).getD ((l.getD k stp0).a.toNat) 0),iV ((l.getD k stp0).b),iV ((l.getD k stp0).n),.bool (ineg ((l.getD k stp0).q).num),uV (lo (iabs ((l.getD k stp0).q).num)),.string (hi (iabs ((l.getD k stp0).q).num)),uV (lo (qd ((l.getD k stp0).q))),.string (hi (qd ((l.getD k stp0).q)))]) 0 0 9] (lX 56 (sB zc) l.length l.length 9 (k:Nat) k rfl ?_))))));refine lW 1 sl stc 9 k (⟨(l.getD k stp0).op,(bl).getD ((l.getD k stp0).a.toNat) 0,(l.getD k stp0).b,(l.getD k stp0).n,(l.getD k stp0).q⟩:Stp) hs oM (fun _ hs=>?_);have zk:((sl).set k (⟨(l.getD k stp0).op,(bl).getD ((l.getD k stp0).a.toNat) 0,(l.getD k stp0).b,(l.getD k stp0).n,(l.getD k stp0).q⟩:Stp)).length=l.length:=by rw[List.length_set];exact hsl
   replace hs:=hs.to [⟨za,43,[iV ((l.getD k stp0).op),iV ((bl).getD ((l.getD k stp0).a.toNat) 0),iV ((l.getD k stp0).b),iV ((l.getD k stp0).n),.bool (ineg ((l.getD k stp0).q).num),uV (lo (iabs ((l.getD k stp0).q).num)),.string (hi (iabs ((l.getD k stp0).q).num)),uV (lo (qd ((l.getD k stp0).q))),.string (hi (qd ((l.getD k stp0).q)))]⟩,⟨zc,43,((sl).set k (⟨(l.getD k stp0).op,(bl).getD ((l.getD k stp0).a.toNat) 0,(l.getD k stp0).b,(l.getD k stp0).n,(l.getD k stp0).q⟩:Stp)).flatMap stc⟩,⟨zb,3,(bl).flatMap i64c⟩] [];refine lN (cQ ?_);have hsr:=hs;refine cR 13 [⟨12,10,.cells (List.toArray [iV 0,iV 0,iV 0,iV 0,eS]) 66 (0,0)⟩] mixed hs (al_cons (alOk kR (fun _ _=>by kernel_rfl)) al_nil) (eV 0 57 (pB za) (eO 1 58 [(0,0,1)] (iV ((l.getD k stp0).op)) hs (eV 2 59 (qP za 3) (eO 3 60 [(0,3,1)] (iV ((l.getD k stp0).n)) hs (eV 4 61 (qP za 1) (eO 5 62 [(0,1,1)] (iV ((bl).getD ((l.getD k stp0).a.toNat) 0)) hs (eV 6 63 (qP za 2) (eO 7 64 [(0,2,1)] (iV ((l.getD k stp0).b)) hs (eV 8 65 (qP za 4) (eO 9 66 [(0,4,5)] (qv ((l.getD k stp0).q)) hs (eC 10 67 hs (fun _ _ hs=>qText (l.getD k stp0).q ((hq k).mono oM) (h100 k).1 (h100 k).2 _ _ hs.g) ?_)))))))))));rintro _ _ _ _ _ hs ⟨s105,rfl,hs105⟩;refine eV 11 68 (.agg #[iV ((l.getD k stp0).op),iV ((l.getD k stp0).n),iV ((bl).getD ((l.getD k stp0).a.toNat) 0),iV ((l.getD k stp0).b),.string s105]) (eD1p [] hsr hs 66 [iV 0,iV 0,iV 0,iV 0,eS] (fun _ zu zi hs=>tP 13 0 0 ([iV ((l.getD k stp0).op),iV ((l.getD k stp0).n),iV ((bl).getD ((l.getD k stp0).a.toNat) 0),iV ((l.getD k stp0).b),.string s105]) hs (fun _ hs=>tN (cTo [(1,pB b1),(2,pB b4),(3,iV 0),(4,.map (some zg)),(5,qS (sB zb) l.length l.length),(6,qS (sB zc) l.length l.length),(27,qS A l.length c),(28,nV l.length),(29,nV k),(7,nV k),(10,pB zi)] ?_))));refine cQ (cSL ?_);have hmp112:=hmp_.imp (Qm_up (k:=k));refine lL hs [.m 70 4,.o 71 (.agg #[iV ((l.getD k stp0).op),iV ((l.getD k stp0).n),iV ((bl).getD ((l.getD k stp0).a.toNat) 0),iV ((l.getD k stp0).b),.string s105]) 0 0 5] (lMgI (mty:=62) (kt:=66) (et:=3) 72 (.agg #[iV ((l.getD k stp0).op),iV ((l.getD k stp0).n),iV ((bl).getD ((l.getD k stp0).a.toNat) 0),iV ((l.getD k stp0).b),.string s105]) (iV 0) true hs hmp112 seen_law (isKey_seen oM oM oM oM oM) (fun v113 fd114 zA=>?_));obtain ⟨j116,rfl,hj117⟩:=Qm_get (K:=k+1) zA oM;refine lL hs [.m 69 72,.v 73 (nV j116),.v 74 (.bool fd114),.m 11 73,.m 12 74] (lNS (lL hs [.m 75 12] ?_));cases zl:(!fd114)
   ·
    refine lB 76 zl (lN (cIF (cK (kQ (lL hs [.m 80 5,.m 81 7,.m 82 4,.o 83 (.agg #[iV ((l.getD k stp0).op),iV ((l.getD k stp0).n),iV ((bl).getD ((l.getD k stp0).a.toNat) 0),iV ((l.getD k stp0).b),.string s105]) 0 0 5] (lMgI (mty:=62) (kt:=66) (et:=3) 84 (.agg #[iV ((l.getD k stp0).op),iV ((l.getD k stp0).n),iV ((bl).getD ((l.getD k stp0).a.toNat) 0),iV ((l.getD k stp0).b),.string s105]) (iV 0) false hs hmp112 seen_law (isKey_seen oM oM oM oM oM) (fun v119 fd120 zB=>?_)))))));obtain ⟨j122,rfl,hj123⟩:=Qm_get (K:=k+1) zB oM;refine lX 85 (sB zb) l.length l.length 1 (k:Nat) k rfl (lW 3 bl i64c 1 k (j122:Nat) hs oM (fun _ hs=>?_));have zD:((bl).set k (j122:Nat)).length=l.length:=by rw[List.length_set];exact hbl
    replace hs:=hs.to [⟨zi,66,[iV ((l.getD k stp0).op),iV ((l.getD k stp0).n),iV ((bl).getD ((l.getD k stp0).a.toNat) 0),iV ((l.getD k stp0).b),.string s105]⟩,⟨za,43,[iV ((l.getD k stp0).op),iV ((bl).getD ((l.getD k stp0).a.toNat) 0),iV ((l.getD k stp0).b),iV ((l.getD k stp0).n),.bool (ineg ((l.getD k stp0).q).num),uV (lo (iabs ((l.getD k stp0).q).num)),.string (hi (iabs ((l.getD k stp0).q).num)),uV (lo (qd ((l.getD k stp0).q))),.string (hi (qd ((l.getD k stp0).q)))]⟩,⟨zc,43,((sl).set k (⟨(l.getD k stp0).op,(bl).getD ((l.getD k stp0).a.toNat) 0,(l.getD k stp0).b,(l.getD k stp0).n,(l.getD k stp0).q⟩:Stp)).flatMap stc⟩,⟨zb,3,((bl).set k (j122:Nat)).flatMap i64c⟩] [];refine lN (kQ (lIn 86 ((k:Nat)+1) (k+1) ?_));refine lL hs [.m 29 86] (lD ?_);intro a_ ka;replace hs:=hs.drop 2 0;refine ⟨_,_,?_,⟨w1_,k+1,(bl).set k (j122:Nat),(sl).set k (⟨(l.getD k stp0).op,(bl).getD ((l.getD k stp0).a.toNat) 0,(l.getD k stp0).b,(l.getD k stp0).n,(l.getD k stp0).q⟩:Stp),zu,rfl,rfl,hs.to _ _,hz_,hmp112,oM,zD,zk,(hBy.set oM oM oM),(hSt.set oM ⟨fun h_=>by first|exact absurd h_ aM|(dsimp only;omega)|omega,fun h_=>by first|exact absurd h_ aM|(dsimp only;omega)|omega⟩)⟩,ka.to _ kR⟩
    omega
   refine lB 76 zl (lN (cIT (kQ (lL hs [.m 77 4,.o 78 (.agg #[iV ((l.getD k stp0).op),iV ((l.getD k stp0).n),iV ((bl).getD ((l.getD k stp0).a.toNat) 0),iV ((l.getD k stp0).b),.string s105]) 0 0 5,.m 79 7] (lMuI (mty:=62) (kt:=66) (et:=3) (.agg #[iV ((l.getD k stp0).op),iV ((l.getD k stp0).n),iV ((bl).getD ((l.getD k stp0).a.toNat) 0),iV ((l.getD k stp0).b),.string s105]) (nV k) hs hmp112 seen_law (isKey_seen oM oM oM oM oM) ⟨k,rfl,Nat.lt_succ_self _⟩ hz_ hlo17 hnb18 (fun zT _ hs hmp135 hz136=>lN (kQ (lL hs [.m 80 5,.m 81 7,.m 82 4,.o 83 (.agg #[iV ((l.getD k stp0).op),iV ((l.getD k stp0).n),iV ((bl).getD ((l.getD k stp0).a.toNat) 0),iV ((l.getD k stp0).b),.string s105]) 0 0 5] (lMgI (mty:=62) (kt:=66) (et:=3) 84 (.agg #[iV ((l.getD k stp0).op),iV ((l.getD k stp0).n),iV ((bl).getD ((l.getD k stp0).a.toNat) 0),iV ((l.getD k stp0).b),.string s105]) (iV 0) false hs hmp135 seen_law (isKey_seen oM oM oM oM oM) (fun v137 fd138 zE=>?_))))))))));obtain ⟨j140,rfl,hj141⟩:=Qm_get (K:=k+1) zE oM;refine lX 85 (sB zb) l.length l.length 1 (k:Nat) k rfl (lW 3 bl i64c 1 k (j140:Nat) hs oM (fun _ hs=>?_));have zF:((bl).set k (j140:Nat)).length=l.length:=by rw[List.length_set];exact hbl
   replace hs:=hs.to [⟨zi,66,[iV ((l.getD k stp0).op),iV ((l.getD k stp0).n),iV ((bl).getD ((l.getD k stp0).a.toNat) 0),iV ((l.getD k stp0).b),.string s105]⟩,⟨za,43,[iV ((l.getD k stp0).op),iV ((bl).getD ((l.getD k stp0).a.toNat) 0),iV ((l.getD k stp0).b),iV ((l.getD k stp0).n),.bool (ineg ((l.getD k stp0).q).num),uV (lo (iabs ((l.getD k stp0).q).num)),.string (hi (iabs ((l.getD k stp0).q).num)),uV (lo (qd ((l.getD k stp0).q))),.string (hi (qd ((l.getD k stp0).q)))]⟩,⟨zc,43,((sl).set k (⟨(l.getD k stp0).op,(bl).getD ((l.getD k stp0).a.toNat) 0,(l.getD k stp0).b,(l.getD k stp0).n,(l.getD k stp0).q⟩:Stp)).flatMap stc⟩,⟨zb,3,((bl).set k (j140:Nat)).flatMap i64c⟩] [];refine lN (kQ (lIn 86 ((k:Nat)+1) (k+1) ?_));refine lL hs [.m 29 86] (lD ?_);intro a_ ka;replace hs:=hs.drop 2 0;refine ⟨_,_,?_,⟨zT,k+1,(bl).set k (j140:Nat),(sl).set k (⟨(l.getD k stp0).op,(bl).getD ((l.getD k stp0).a.toNat) 0,(l.getD k stp0).b,(l.getD k stp0).n,(l.getD k stp0).q⟩:Stp),zu,rfl,rfl,hs.to _ _,hz136,hmp135,oM,zF,zk,(hBy.set oM oM oM),(hSt.set oM ⟨fun h_=>by first|exact absurd h_ aM|(dsimp only;omega)|omega,fun h_=>by first|exact absurd h_ aM|(dsimp only;omega)|omega⟩)⟩,ka.to _ kR⟩
   omega
  have zt:=oT zd;refine lB 46 zd (lN (cIT (kQ ?_)));have hbk:=hop.2.1 oM;have hbyb:=hBy (l.getD k stp0).b.toNat oM;refine lL hs [.m 47 5,.v 48 (qP za 2),.o 49 (iV ((l.getD k stp0).b)) 0 2 1] (lX 50 (sB zb) l.length l.length 1 ((l.getD k stp0).b) ((l.getD k stp0).b.toNat) rfl ?_);refine lQ 51 2 bl i64c 1 0 ((l.getD k stp0).b.toNat) (iV ((bl).getD ((l.getD k stp0).b.toNat) 0)) hs oM (lL hs [.v 52 (qP za 2)] (lP 0 2 ([iV ((bl).getD ((l.getD k stp0).b.toNat) 0)]) hs (fun _ hs=>lNS (lL hs [.m 53 6,.m 54 7,.o 55 (.agg #[iV ((l.getD k stp0).op),iV ((bl).getD ((l.getD k stp0).a.toNat) 0),iV ((bl).getD ((l.getD k stp0).b.toNat) 0),iV ((l.getD k stp0).n),.bool (ineg ((l.getD k stp0).q).num),uV (lo (iabs ((l.getD k stp0).q).num)),.string (hi (iabs ((l.getD k stp0).q).num)),uV (lo (qd ((l.getD k stp0).q))),.string (hi (qd ((l.getD k stp0).q)))]) 0 0 9] (lX 56 (sB zc) l.length l.length 9 (k:Nat) k rfl ?_)))));refine lW 1 sl stc 9 k (⟨(l.getD k stp0).op,(bl).getD ((l.getD k stp0).a.toNat) 0,(bl).getD ((l.getD k stp0).b.toNat) 0,(l.getD k stp0).n,(l.getD k stp0).q⟩:Stp) hs oM (fun _ hs=>?_);have zm:((sl).set k (⟨(l.getD k stp0).op,(bl).getD ((l.getD k stp0).a.toNat) 0,(bl).getD ((l.getD k stp0).b.toNat) 0,(l.getD k stp0).n,(l.getD k stp0).q⟩:Stp)).length=l.length:=by rw[List.length_set];exact hsl
  replace hs:=hs.to [⟨za,43,[iV ((l.getD k stp0).op),iV ((bl).getD ((l.getD k stp0).a.toNat) 0),iV ((bl).getD ((l.getD k stp0).b.toNat) 0),iV ((l.getD k stp0).n),.bool (ineg ((l.getD k stp0).q).num),uV (lo (iabs ((l.getD k stp0).q).num)),.string (hi (iabs ((l.getD k stp0).q).num)),uV (lo (qd ((l.getD k stp0).q))),.string (hi (qd ((l.getD k stp0).q)))]⟩,⟨zc,43,((sl).set k (⟨(l.getD k stp0).op,(bl).getD ((l.getD k stp0).a.toNat) 0,(bl).getD ((l.getD k stp0).b.toNat) 0,(l.getD k stp0).n,(l.getD k stp0).q⟩:Stp)).flatMap stc⟩,⟨zb,3,(bl).flatMap i64c⟩] [];refine lN (cQ ?_);have hsr:=hs;refine cR 13 [⟨12,10,.cells (List.toArray [iV 0,iV 0,iV 0,iV 0,eS]) 66 (0,0)⟩] mixed hs (al_cons (alOk kR (fun _ _=>by kernel_rfl)) al_nil) (eV 0 57 (pB za) (eO 1 58 [(0,0,1)] (iV ((l.getD k stp0).op)) hs (eV 2 59 (qP za 3) (eO 3 60 [(0,3,1)] (iV ((l.getD k stp0).n)) hs (eV 4 61 (qP za 1) (eO 5 62 [(0,1,1)] (iV ((bl).getD ((l.getD k stp0).a.toNat) 0)) hs (eV 6 63 (qP za 2) (eO 7 64 [(0,2,1)] (iV ((bl).getD ((l.getD k stp0).b.toNat) 0)) hs (eV 8 65 (qP za 4) (eO 9 66 [(0,4,5)] (qv ((l.getD k stp0).q)) hs (eC 10 67 hs (fun _ _ hs=>qText (l.getD k stp0).q ((hq k).mono oM) (h100 k).1 (h100 k).2 _ _ hs.g) ?_)))))))))));rintro _ _ _ _ _ hs ⟨s154,rfl,hs154⟩;refine eV 11 68 (.agg #[iV ((l.getD k stp0).op),iV ((l.getD k stp0).n),iV ((bl).getD ((l.getD k stp0).a.toNat) 0),iV ((bl).getD ((l.getD k stp0).b.toNat) 0),.string s154]) (eD1p [] hsr hs 66 [iV 0,iV 0,iV 0,iV 0,eS] (fun _ zv zj hs=>tP 13 0 0 ([iV ((l.getD k stp0).op),iV ((l.getD k stp0).n),iV ((bl).getD ((l.getD k stp0).a.toNat) 0),iV ((bl).getD ((l.getD k stp0).b.toNat) 0),.string s154]) hs (fun _ hs=>tN (cTo [(1,pB b1),(2,pB b4),(3,iV 0),(4,.map (some zg)),(5,qS (sB zb) l.length l.length),(6,qS (sB zc) l.length l.length),(27,qS A l.length c),(28,nV l.length),(29,nV k),(7,nV k),(10,pB zj)] ?_))));refine cQ (cSL ?_);have hmp161:=hmp_.imp (Qm_up (k:=k));refine lL hs [.m 70 4,.o 71 (.agg #[iV ((l.getD k stp0).op),iV ((l.getD k stp0).n),iV ((bl).getD ((l.getD k stp0).a.toNat) 0),iV ((bl).getD ((l.getD k stp0).b.toNat) 0),.string s154]) 0 0 5] (lMgI (mty:=62) (kt:=66) (et:=3) 72 (.agg #[iV ((l.getD k stp0).op),iV ((l.getD k stp0).n),iV ((bl).getD ((l.getD k stp0).a.toNat) 0),iV ((bl).getD ((l.getD k stp0).b.toNat) 0),.string s154]) (iV 0) true hs hmp161 seen_law (isKey_seen oM oM oM oM oM) (fun v162 fd163 zG=>?_));obtain ⟨j165,rfl,hj166⟩:=Qm_get (K:=k+1) zG oM;refine lL hs [.m 69 72,.v 73 (nV j165),.v 74 (.bool fd163),.m 11 73,.m 12 74] (lNS (lL hs [.m 75 12] ?_));cases zn:(!fd163)
  ·
   refine lB 76 zn (lN (cIF (cK (kQ (lL hs [.m 80 5,.m 81 7,.m 82 4,.o 83 (.agg #[iV ((l.getD k stp0).op),iV ((l.getD k stp0).n),iV ((bl).getD ((l.getD k stp0).a.toNat) 0),iV ((bl).getD ((l.getD k stp0).b.toNat) 0),.string s154]) 0 0 5] (lMgI (mty:=62) (kt:=66) (et:=3) 84 (.agg #[iV ((l.getD k stp0).op),iV ((l.getD k stp0).n),iV ((bl).getD ((l.getD k stp0).a.toNat) 0),iV ((bl).getD ((l.getD k stp0).b.toNat) 0),.string s154]) (iV 0) false hs hmp161 seen_law (isKey_seen oM oM oM oM oM) (fun v168 fd169 zH=>?_)))))));obtain ⟨j171,rfl,hj172⟩:=Qm_get (K:=k+1) zH oM;refine lX 85 (sB zb) l.length l.length 1 (k:Nat) k rfl (lW 3 bl i64c 1 k (j171:Nat) hs oM (fun _ hs=>?_));have zI:((bl).set k (j171:Nat)).length=l.length:=by rw[List.length_set];exact hbl
   replace hs:=hs.to [⟨zj,66,[iV ((l.getD k stp0).op),iV ((l.getD k stp0).n),iV ((bl).getD ((l.getD k stp0).a.toNat) 0),iV ((bl).getD ((l.getD k stp0).b.toNat) 0),.string s154]⟩,⟨za,43,[iV ((l.getD k stp0).op),iV ((bl).getD ((l.getD k stp0).a.toNat) 0),iV ((bl).getD ((l.getD k stp0).b.toNat) 0),iV ((l.getD k stp0).n),.bool (ineg ((l.getD k stp0).q).num),uV (lo (iabs ((l.getD k stp0).q).num)),.string (hi (iabs ((l.getD k stp0).q).num)),uV (lo (qd ((l.getD k stp0).q))),.string (hi (qd ((l.getD k stp0).q)))]⟩,⟨zc,43,((sl).set k (⟨(l.getD k stp0).op,(bl).getD ((l.getD k stp0).a.toNat) 0,(bl).getD ((l.getD k stp0).b.toNat) 0,(l.getD k stp0).n,(l.getD k stp0).q⟩:Stp)).flatMap stc⟩,⟨zb,3,((bl).set k (j171:Nat)).flatMap i64c⟩] [];refine lN (kQ (lIn 86 ((k:Nat)+1) (k+1) ?_));refine lL hs [.m 29 86] (lD ?_);intro a_ ka;replace hs:=hs.drop 2 0;refine ⟨_,_,?_,⟨w1_,k+1,(bl).set k (j171:Nat),(sl).set k (⟨(l.getD k stp0).op,(bl).getD ((l.getD k stp0).a.toNat) 0,(bl).getD ((l.getD k stp0).b.toNat) 0,(l.getD k stp0).n,(l.getD k stp0).q⟩:Stp),zv,rfl,rfl,hs.to _ _,hz_,hmp161,oM,zI,zm,(hBy.set oM oM oM),(hSt.set oM ⟨fun h_=>by first|exact absurd h_ aM|(dsimp only;omega)|omega,fun h_=>by first|exact absurd h_ aM|(dsimp only;omega)|omega⟩)⟩,ka.to _ kR⟩
   omega
  refine lB 76 zn (lN (cIT (kQ (lL hs [.m 77 4,.o 78 (.agg #[iV ((l.getD k stp0).op),iV ((l.getD k stp0).n),iV ((bl).getD ((l.getD k stp0).a.toNat) 0),iV ((bl).getD ((l.getD k stp0).b.toNat) 0),.string s154]) 0 0 5,.m 79 7] (lMuI (mty:=62) (kt:=66) (et:=3) (.agg #[iV ((l.getD k stp0).op),iV ((l.getD k stp0).n),iV ((bl).getD ((l.getD k stp0).a.toNat) 0),iV ((bl).getD ((l.getD k stp0).b.toNat) 0),.string s154]) (nV k) hs hmp161 seen_law (isKey_seen oM oM oM oM oM) ⟨k,rfl,Nat.lt_succ_self _⟩ hz_ hlo17 hnb18 (fun zU _ hs hmp184 hz185=>lN (kQ (lL hs [.m 80 5,.m 81 7,.m 82 4,.o 83 (.agg #[iV ((l.getD k stp0).op),iV ((l.getD k stp0).n),iV ((bl).getD ((l.getD k stp0).a.toNat) 0),iV ((bl).getD ((l.getD k stp0).b.toNat) 0),.string s154]) 0 0 5] (lMgI (mty:=62) (kt:=66) (et:=3) 84 (.agg #[iV ((l.getD k stp0).op),iV ((l.getD k stp0).n),iV ((bl).getD ((l.getD k stp0).a.toNat) 0),iV ((bl).getD ((l.getD k stp0).b.toNat) 0),.string s154]) (iV 0) false hs hmp184 seen_law (isKey_seen oM oM oM oM oM) (fun v186 fd187 zJ=>?_))))))))));obtain ⟨j189,rfl,hj190⟩:=Qm_get (K:=k+1) zJ oM;refine lX 85 (sB zb) l.length l.length 1 (k:Nat) k rfl (lW 3 bl i64c 1 k (j189:Nat) hs oM (fun _ hs=>?_));have zK:((bl).set k (j189:Nat)).length=l.length:=by rw[List.length_set];exact hbl
  replace hs:=hs.to [⟨zj,66,[iV ((l.getD k stp0).op),iV ((l.getD k stp0).n),iV ((bl).getD ((l.getD k stp0).a.toNat) 0),iV ((bl).getD ((l.getD k stp0).b.toNat) 0),.string s154]⟩,⟨za,43,[iV ((l.getD k stp0).op),iV ((bl).getD ((l.getD k stp0).a.toNat) 0),iV ((bl).getD ((l.getD k stp0).b.toNat) 0),iV ((l.getD k stp0).n),.bool (ineg ((l.getD k stp0).q).num),uV (lo (iabs ((l.getD k stp0).q).num)),.string (hi (iabs ((l.getD k stp0).q).num)),uV (lo (qd ((l.getD k stp0).q))),.string (hi (qd ((l.getD k stp0).q)))]⟩,⟨zc,43,((sl).set k (⟨(l.getD k stp0).op,(bl).getD ((l.getD k stp0).a.toNat) 0,(bl).getD ((l.getD k stp0).b.toNat) 0,(l.getD k stp0).n,(l.getD k stp0).q⟩:Stp)).flatMap stc⟩,⟨zb,3,((bl).set k (j189:Nat)).flatMap i64c⟩] [];refine lN (kQ (lIn 86 ((k:Nat)+1) (k+1) ?_));refine lL hs [.m 29 86] (lD ?_);intro a_ ka;replace hs:=hs.drop 2 0;refine ⟨_,_,?_,⟨zU,k+1,(bl).set k (j189:Nat),(sl).set k (⟨(l.getD k stp0).op,(bl).getD ((l.getD k stp0).a.toNat) 0,(bl).getD ((l.getD k stp0).b.toNat) 0,(l.getD k stp0).n,(l.getD k stp0).q⟩:Stp),zv,rfl,rfl,hs.to _ _,hz185,hmp184,oM,zK,zm,(hBy.set oM oM oM),(hSt.set oM ⟨fun h_=>by first|exact absurd h_ aM|(dsimp only;omega)|omega,fun h_=>by first|exact absurd h_ aM|(dsimp only;omega)|omega⟩)⟩,ka.to _ kR⟩
  omega
 have phb9:=neOfBne hb9;exact lB 15 hb9 (lN (cIT (cSL (lL hs [.v 16 (.agg #[iV 0,sZ,sZ])] (lP 0 0 ([iV 0,sZ,sZ]) hs (fun _ hs=>lL hs [.v 3 (iV 1)] (lN (kX (hs.ret [(0,0,3)] (.tuple #[.agg #[iV 0,sZ,sZ],iV 1]) (⟨0,none,0,0,none,0,0,1,rfl,⟨by omega,.inl rfl⟩,⟨by omega,.inl rfl⟩,fun _=>rfl⟩))))))))))
section code
variable {P:Program} {n:Nat} {N R:Po} {X:Nat→Po} {Γ:Env} {w:World} {l:Nat}
def CGr (l:Nat)(P:Program)(n:Nat)(N R:Po)(X:Nat→Po)(c:Code)(Γ:Env)(w:World):Prop:=∀ a,Kn n a Γ→c.wpIn (Fence.wide.inRound l) 6 P (mkQ N R X) a w
theorem CGr.seq {x y:Code}(H:CGr l P n (fun a w=>y.wpIn (Fence.wide.inRound l) 6 P (mkQ N R X) a w) R X x Γ w):CGr l P n N R X (.seq x y) Γ w:=by
  intro a ka;refine wpIn_seq (wpIn_mono (H a ka) ?_);intro e a w hq;cases e<;>exact hq
theorem CGr.cond {c:Operand}{x y:Code}(t:Bool)(hc:inEnv Γ c=true)(hv:ev Γ c=.bool t)(ht:t=true→CGr l P n N R X x Γ w)(hf:t=false→CGr l P n N R X y Γ w):CGr l P n N R X (.cond c x y) Γ w :=
  fun a ka=>wpIn_cond_split (by rw[ka.eval hc];exact hv) (fun e=>ht e a ka) (fun e=>hf e a ka)
theorem CGr.condT {c:Operand}{x y:Code}(hc:inEnv Γ c=true)(hv:ev Γ c=.bool true)(ht:CGr l P n N R X x Γ w):CGr l P n N R X (.cond c x y) Γ w:=CGr.cond true hc hv (fun _=>ht) (fun e=>by cases e)
theorem CGr.condF {c:Operand}{x y:Code}(hc:inEnv Γ c=true)(hv:ev Γ c=.bool false)(ht:CGr l P n N R X y Γ w):CGr l P n N R X (.cond c x y) Γ w:=CGr.cond false hc hv (fun e=>by cases e) (fun _=>ht)
theorem CGr.skip (H:∀ a,Kn n a Γ→N a w):CGr l P n N R X .skip Γ w:=fun a ka=>wpIn_skip (H a ka)
theorem CGr.block {id:Nat}{c:Code}(H:CGr l P n N R (fun i=>if i=id then N else X i) c Γ w):CGr l P n N R X (.block id c) Γ w:=by
  intro a ka;refine wpIn_block (wpIn_mono (H a ka) ?_);intro e a w hq;cases e<;>try exact hq
  rename_i i
  simp only[mkQ] at hq
  simp only[Exit.inBlock,mkQ]
  split
  · rename_i hid;rw[if_pos hid] at hq;exact hq
  · rename_i hid;rw[if_neg hid] at hq;exact hq
def isDefer (o:Oper):Bool:=match o.op with|.defer _=>true|_=>false
def chkR (ops:Array Oper):Bool:=(List.range ops.size).all fun i=>!(isDefer (opAt ops i))
def LGr (l:Nat)(P:Program)(n:Nat)(N R:Po)(X:Nat→Po)(ops:Array Oper)(k:Nat)(Γ:Env)(w:World):Prop :=
  chkR ops=true→∀ a,Kn n a Γ→wpOpsIn (Fence.wide.inRound l) 6 P ops (mkQ N R X) (List.range' k (ops.size-k)) a w
theorem CGr.listed {id:Nat}{ops:Array Oper}(H:LGr l P n N R X ops 0 Γ w)(hn:chkR ops=true:=by kernel_rfl):CGr l P n N R X (.region id ops false) Γ w :=
  fun a ka=>wpIn_region (by rw[List.range_eq_range'];exact H hn a ka)
theorem OpR.wpOpIn {Q:Exit→Act→World→Prop}{ops:Array Oper}{i:Nat}{o:Oper}{a:Act}{w:World}{R:Value→World→Prop}{K:Act→World→Prop}(hi:ops[i]?=some o)(hd:isDefer o=false)(h:OpR P ops o a w R)
    (hK:∀ v w',R v w'→K (a.put o.dst v) w'):wpOpIn (Fence.wide.inRound l) 6 P ops Q i K a w:=by
  obtain ⟨hw,h⟩:=h
  unfold Go.wpOpIn
  simp only[hi,hw,if_true]
  refine ⟨fun _ _=>trivial,?_⟩
  have e:(o.semAt (Fence.wide.inRound l).round a.eval)=execOp a.eval o:=by
    show o.semAt (some l) a.eval=_
    refine Oper.semAt_some l _ _ (fun c hc=>?_)
    unfold isDefer at hd;rw[hc] at hd;cases hd
  rw[e]
  rcases h with ⟨v,w',hr,hR⟩|⟨w',hr,hR⟩|⟨f,args,hr,hc⟩
  · rw[hr];exact hK _ _ hR
  · rw[hr];exact hK _ _ hR
  · rw[hr]
    refine ⟨fun h=>(by cases h),(CallsIn.inRound l (callsIn_wide.2 hc)).mono fun e w' he=>?_⟩;obtain ⟨v,rfl,hR⟩:=he;exact hK _ _ hR
section listed
variable {ops:Array Oper} {k:Nat}
theorem LGr.op (hc:chkL ops Γ k=true)(hw:wantE ops Γ (opAt ops k)=some true){R':Value→World→Prop}
    (h:∀ a,Kn n a Γ→OpR P ops (opAt ops k) a w R')(hK:∀ a v w',Kn n a Γ→R' v w'→chkR ops=true→wpOpsIn (Fence.wide.inRound l) 6 P ops (mkQ N R X) (List.range' (k+1) (ops.size-(k+1))) (a.put (opAt ops k).dst v) w'):LGr l P n N R X ops k Γ w:=by
  unfold chkL at hc
  simp only[Bool.and_eq_true,decide_eq_true_eq] at hc
  intro hn a ka;obtain ⟨m,hm⟩:∃ m,ops.size-k=m+1:=⟨ops.size-k-1,by omega⟩;rw[hm,List.range'_succ,wpOpsIn_cons];refine OpR.wpOpIn (opAt_get hc.1.1) (by have q:=(List.all_eq_true.1 hn) k (List.mem_range.2 hc.1.1);simpa using q) (h a ka) (fun v w' hr=>?_);have:=hK a v w' ka hr hn;rw[show ops.size-(k+1)=m by omega] at this
  exact this
theorem LGr.out (t:Nat)(hc:(decide (k<ops.size) && ((opAt ops k).dst == some t) && decide (t<n))=true)(hw:wantE ops Γ (opAt ops k)=some false)
    (H:LGr l P n N R X ops (k+1) ((t,undef)::Γ) w):LGr l P n N R X ops k Γ w:=by
  simp only[Bool.and_eq_true,decide_eq_true_eq,beq_iff_eq] at hc
  obtain ⟨⟨h1,h2⟩,h3⟩:=hc;intro hn a ka;obtain ⟨m,hm⟩:∃ m,ops.size-k=m+1:=⟨ops.size-k-1,by omega⟩;rw[hm,List.range'_succ,wpOpsIn_cons]
  unfold wpOpIn
  simp only[opAt_get h1,ka.want hw,Bool.false_eq_true,if_false]
  have:=H hn _ (ka.put h3 undef);rw[show ops.size-(k+1)=m by omega] at this
  rw[h2];exact ⟨fun _ _=>trivial,this⟩
theorem LGr.done (hc:(k == ops.size)=true)(H:∀ a,Kn n a Γ→N a w):LGr l P n N R X ops k Γ w:=by
  intro _ a ka;have:ops.size-k=0:=by have:=beq_iff_eq.1 hc;omega
  rw[this];exact H a ka
theorem LGr.next {y:Code}{N' R':Po}{X':Nat→Po}(hc:(k == ops.size)=true)(H:CGr l P n N' R' X' y Γ w):LGr l P n (fun a w=>y.wpIn (Fence.wide.inRound l) 6 P (mkQ N' R' X') a w) R X ops k Γ w:=LGr.done hc (fun a ka=>H a ka)
theorem CGr.skipN {y:Code}{N' R':Po}{X':Nat→Po}(H:CGr l P n N' R' X' y Γ w):CGr l P n (fun a w=>y.wpIn (Fence.wide.inRound l) 6 P (mkQ N' R' X') a w) R X .skip Γ w:=fun a ka=>wpIn_skip (H a ka)
end listed
end code
section laws
variable {l_:Nat} {P:Program} {n:Nat} {N R:Po} {X:Nat→Po} {ops:Array Oper} {k:Nat} {Γ:Env} {w:World} {h:Hp} {w0:World} {h0:Hp} {B:List Bx} {Rs:List Rw} {F:List (Hp→Prop)}
theorem LGr.val (t:Nat)(v:Value)(w':World)(hc:(chkL ops Γ k && ((opAt ops k).dst == some t) && decide (t<n))=true)(hw:wantE ops Γ (opAt ops k)=some true)
    (hr:(execOp (ev Γ) (opAt ops k)).run P w=.ok (.value v) w')(H:LGr l_ P n N R X ops (k+1) ((t,v)::Γ) w'):LGr l_ P n N R X ops k Γ w:=by
  simp only[Bool.and_eq_true,decide_eq_true_eq,beq_iff_eq] at hc
  obtain ⟨⟨h1,h2⟩,h3⟩:=hc;have h1':=h1
  unfold chkL at h1'
  simp only[Bool.and_eq_true,decide_eq_true_eq] at h1'
  refine LGr.op h1 hw (R':=fun u w1=>u=v∧w1=w') (fun a ka=>⟨ka.want hw,.inl ⟨v,w',?_,rfl,rfl⟩⟩) ?_
  · rw[ka.exec (Region.noSelect_spec h1'.1.2 k _ · · (opAt_get h1'.1.1)) h1'.2];exact hr
  · rintro a _ _ ka ⟨rfl,rfl⟩
    rw[h2];exact fun hn_=>H hn_ _ (ka.put h3 _)
theorem LGr.store (w':World)(hc:(chkL ops Γ k && ((opAt ops k).dst == none))=true)(hw:wantE ops Γ (opAt ops k)=some true)
    (hr:(execOp (ev Γ) (opAt ops k)).run P w=.ok .skip w')(H:LGr l_ P n N R X ops (k+1) Γ w'):LGr l_ P n N R X ops k Γ w:=by
  simp only[Bool.and_eq_true,beq_iff_eq] at hc
  obtain ⟨h1,h2⟩:=hc;have h1':=h1
  unfold chkL at h1'
  simp only[Bool.and_eq_true,decide_eq_true_eq] at h1'
  refine LGr.op h1 hw (R':=fun u w1=>w1=w') (fun a ka=>⟨ka.want hw,.inr (.inl ⟨w',?_,rfl⟩)⟩) ?_
  · rw[ka.exec (Region.noSelect_spec h1'.1.2 k _ · · (opAt_get h1'.1.1)) h1'.2];exact hr
  · rintro a _ _ ka rfl
    rw[h2];exact fun hn_=>H hn_ _ ka
theorem LGr.call (t f:Nat)(args:Array Value)(hc:(chkL ops Γ k && ((opAt ops k).dst == some t) && decide (t<n))=true)(hw:wantE ops Γ (opAt ops k)=some true)
    (hr:(execOp (ev Γ) (opAt ops k)).run P w=.ok (.enter f args) w)(H:Calls P f args w (fun e w'=>∃ v,e=.returned v∧LGr l_ P n N R X ops (k+1) ((t,v)::Γ) w')):LGr l_ P n N R X ops k Γ w:=by
  simp only[Bool.and_eq_true,decide_eq_true_eq,beq_iff_eq] at hc
  obtain ⟨⟨h1,h2⟩,h3⟩:=hc;have h1':=h1
  unfold chkL at h1'
  simp only[Bool.and_eq_true,decide_eq_true_eq] at h1'
  refine LGr.op h1 hw (R':=fun v w'=>LGr l_ P n N R X ops (k+1) ((t,v)::Γ) w') (fun a ka=>⟨ka.want hw,.inr (.inr ⟨f,args,?_,H⟩)⟩) ?_
  · rw[ka.exec (Region.noSelect_spec h1'.1.2 k _ · · (opAt_get h1'.1.1)) h1'.2];exact hr
  · rintro a v w' ka h
    rw[h2];exact fun hn_=>h hn_ _ (ka.put h3 _)
theorem LGr.own {k:Nat}(t:Nat)(ps:List (Nat × Nat × Nat))(v:Value)(s:St w0 h0 w h B)(hc:(chkL ops Γ k && ((opAt ops k).dst == some t) && decide (t<n))=true)(hw:wantE ops Γ (opAt ops k)=some true)
    (hp:partsOk B ps=true)(he:evalL P (execOp (ev Γ) (opAt ops k)) (partsV B ps)=some (.value v,partsA B ps))
    (H:LGr l_ P n N R X ops (k+1) ((t,v)::Γ) w):LGr l_ P n N R X ops k Γ w :=
  LGr.val t v w hc hw (evalL_run _ _ _ _ he (parts_cells s.own ps hp)) H
theorem LGr.put {k:Nat}(j o:Nat)(cs:List Value)(s:St w0 h0 w h B)(g0:G w0 h0)(hc:(chkL ops Γ k && ((opAt ops k).dst == none))=true)(hw:wantE ops Γ (opAt ops k)=some true)
    (hj:(decide (j<B.length) && decide (o+cs.length≤(bxAt B j).vs.length))=true)(he:evalW P (execOp (ev Γ) (opAt ops k))=some (.skip,mkl (bxAt B j).b o cs))
    (H:∀ w',Put (bxAt B j).b w w'→St w0 h0 w' h (setB B j o cs)→LGr l_ P n N R X ops (k+1) Γ w'):LGr l_ P n N R X ops k Γ w:=by
  simp only[Bool.and_eq_true,decide_eq_true_eq] at hj
  obtain ⟨w',hrun,hput,hown⟩:=evalW_run _ _ _ _ _ w he (s.own _ (bxAt_mem hj.1)) hj.2;exact LGr.store w' hc hw hrun (H w' hput (s.put g0 hj.1 hput hown))
theorem LGr.var {k:Nat}(t:Nat)(ty:TypeId)(vs:List Value)(s:St w0 h0 w h B)(hc:(chkL ops Γ k && ((opAt ops k).dst == some t) && decide (t<n))=true)(hw:wantE ops Γ (opAt ops k)=some true)
    (hr:(execOp (ev Γ) (opAt ops k)).run P w=.ok (.value (.pointer (some ⟨w.heap.size,0,none⟩))) (w.alloc (.cells vs.toArray ty (0,0))))
    (H:∀ b w' h',h.size≤b→Up w h w' h'→St w0 h0 w' h' (⟨b,ty,vs⟩::B)→LGr l_ P n N R X ops (k+1) ((t,.pointer (some ⟨b,0,none⟩))::Γ) w'):LGr l_ P n N R X ops k Γ w:=by
  have u:Up w h (w.alloc (.cells vs.toArray ty (0,0))) (h.push junk):=Up.allocAny s.g _ _ (.inr rfl);refine LGr.val t _ _ hc hw hr (H _ _ _ (by rw[s.g.size];exact Nat.le_refl _) u (St.new1 (x:=⟨0,0,.cells vs.toArray ty (0,0)⟩) s (s.step u) ⟨?_,?_,?_⟩ ty vs rfl))
  · rw[heap_alloc];exact Array.getElem?_push_size
  · rw[s.g.size];exact Array.getElem?_push_size
  · show h.size≤w.heap.size;rw[s.g.size];exact Nat.le_refl _
theorem LGr.ownA {w0:World}{h0:Hp}{B:List Bx}{α:Type}{k:Nat}(t j:Nat)(l:List α)(f:α→List Value)(sz:Nat)(d:α)(e:Nat)(v:Value)(s:St w0 h0 w h B)(hc:(chkL ops Γ k && ((opAt ops k).dst == some t) && decide (t<n))=true)(hw:wantE ops Γ (opAt ops k)=some true)
    (hj:decide (j<B.length)=true)(hB:(bxAt B j).vs=l.flatMap f)(hf:∀ x,(f x).length=sz)(hk:e<l.length)
    (he:evalL P (execOp (ev Γ) (opAt ops k)) (f (l.getD e d))=some (.value v,mka (bxAt B j).b (0+e*sz) (f (l.getD e d)).length))
    (H:LGr l_ P n N R X ops (k+1) ((t,v)::Γ) w):LGr l_ P n N R X ops k Γ w :=
  LGr.val t v w hc hw (evalL_run _ _ _ _ he (fun q a u ha hu=>by
    rw[mka_get _ _ _ _ _ ha,(s.own _ (bxAt_mem (oT hj))).cell,hB];rw[←drop_flat hf d l e hk] at hu
    have hq:q<sz:=by
      rcases Nat.lt_or_ge q sz with hl|hl
      · exact hl
      · rw[List.getElem?_eq_none (by simp;omega)] at hu;cases hu
    rw[List.getElem?_take_of_lt hq,List.getElem?_drop] at hu
    rw[Nat.zero_add];exact hu)) H
theorem LGr.putA {w0:World}{h0:Hp}{B:List Bx}{α:Type}{k:Nat}(j:Nat)(l:List α)(f:α→List Value)(sz e:Nat)(x:α)(s:St w0 h0 w h B)(g0:G w0 h0)(hc:(chkL ops Γ k && ((opAt ops k).dst == none))=true)(hw:wantE ops Γ (opAt ops k)=some true)
    (hj:decide (j<B.length)=true)(hB:(bxAt B j).vs=l.flatMap f)(hf:∀ x,(f x).length=sz)(hk:e<l.length)
    (he:evalW P (execOp (ev Γ) (opAt ops k))=some (.skip,mkl (bxAt B j).b (0+e*sz) (f x)))
    (H:∀ w',Put (bxAt B j).b w w'→St w0 h0 w' h (setV B j ((l.set e x).flatMap f))→LGr l_ P n N R X ops (k+1) Γ w'):LGr l_ P n N R X ops k Γ w:=by
  have hj':=oT hj
  have hle:(0+e*sz)+(f x).length≤(bxAt B j).vs.length:=by
    rw[hB,len_flat hf,hf,Nat.zero_add,←Nat.succ_mul];exact Nat.mul_le_mul_right _ hk
  obtain ⟨w',hrun,hput,hown⟩:=evalW_run _ _ _ _ _ w he (s.own _ (bxAt_mem hj')) hle;have hst:=s.put g0 hj' hput hown;refine LGr.store w' hc hw hrun (H w' hput ?_)
  unfold setB at hst
  rw[hB,Nat.zero_add,putAt_flat hf l e x hk] at hst
  exact hst
theorem lBr (t:Nat){e b:Bool}(hb:e=b)(H:LGr l_ P n N R X ops (k+1) ((t,.bool b)::Γ) w)(hc:cL ops Γ k t n=true:=by kernel_rfl)(hr:(execOp (ev Γ) (opAt ops k)).run P w=.ok (.value (.bool e)) w:=by kernel_rfl):LGr l_ P n N R X ops k Γ w :=
  LGr.val t _ w (cL_1 hc).1 (cL_1 hc).2 (hb▸hr) H
theorem lOr (t:Nat)(ps:List (Nat × Nat × Nat))(v:Value)(s:SS w0 h0 w h B Rs F)(H:LGr l_ P n N R X ops (k+1) ((t,v)::Γ) w)(hc:cL ops Γ k t n=true:=by kernel_rfl)(hp:partsOk B ps=true:=by kernel_rfl)(he:evalL P (execOp (ev Γ) (opAt ops k)) (partsV B ps)=some (.value v,partsA B ps):=by kernel_rfl):LGr l_ P n N R X ops k Γ w :=
  LGr.own t ps v s.st (cL_1 hc).1 (cL_1 hc).2 hp he H
theorem lSr (s:SS w0 h0 w h B Rs F)(l:List (Nat × Value × List (Nat × Nat × Nat)))(H:LGr l_ P n N R X ops (k+l.length) (pushS Γ l) w)(hc:ckS n ops B Γ k l=true:=by kernel_rfl)(he:evS P ops B Γ k l=l.map (fun x=>some (.value x.2.1,partsA B x.2.2)):=by kernel_rfl):LGr l_ P n N R X ops k Γ w:=by
  induction l generalizing Γ k with
  | nil=>exact H
  | cons x l ih =>
    unfold ckS at hc
    simp only[Bool.and_eq_true] at hc
    unfold evS at he
    rw[List.map_cons] at he
    injection he with e1 e2
    refine lOr x.1 x.2.2 x.2.1 s (ih ?_ hc.2 e2) hc.1.1 hc.1.2 e1;have:k+1+l.length=k+(x::l).length:=by simp;omega
    rw[this];exact H
theorem lLr (s:SS w0 h0 w h B Rs F)(l:List It)(H:LGr l_ P n N R X ops (k+l.length) (pushS Γ (toS Γ l)) w)(hc:ckS n ops B Γ k (toS Γ l)=true:=by kernel_rfl)(he:evS P ops B Γ k (toS Γ l)=(toS Γ l).map (fun x=>some (.value x.2.1,partsA B x.2.2)):=by kernel_rfl):LGr l_ P n N R X ops k Γ w :=
  lSr s (toS Γ l) (by rw[toS_len];exact H) hc he
theorem lPr (j o:Nat)(cs:List Value)(s:SS w0 h0 w h B Rs F)(H:∀ w',SS w0 h0 w' h (setB B j o cs) Rs F→LGr l_ P n N R X ops (k+1) Γ w')(hc:cS ops Γ k=true:=by kernel_rfl)
    (hj:(decide (j<B.length) && decide (o+cs.length≤(bxAt B j).vs.length))=true:=by kernel_rfl)(he:evalW P (execOp (ev Γ) (opAt ops k))=some (.skip,mkl (bxAt B j).b o cs):=by kernel_rfl):LGr l_ P n N R X ops k Γ w :=
  LGr.put j o cs s.st s.g0 (cS_1 hc).1 (cS_1 hc).2 hj he (fun w' p s'=>H w' (s.put0 (oT (Bool.and_eq_true _ _▸hj).1) p s' (setB_b (oT (Bool.and_eq_true _ _▸hj).1))))
theorem lCr (t:Nat){f:FuncId}{args:Array Value}{Φ:Value→Hp→Prop}(s:SS w0 h0 w h B Rs F)(c:Calls P f args w (Ret w h Φ))(H:∀ v w' h',SS w0 h0 w' h' B Rs F→Φ v h'→LGr l_ P n N R X ops (k+1) ((t,v)::Γ) w')(hc:cL ops Γ k t n=true:=by kernel_rfl)(hr:(execOp (ev Γ) (opAt ops k)).run P w=.ok (.enter f args) w:=by kernel_rfl):LGr l_ P n N R X ops k Γ w :=
  LGr.call t f args (cL_1 hc).1 (cL_1 hc).2 hr (c.mono fun e w' ⟨v,h',he,u,hΦ⟩=>⟨v,he,H v w' h' (s.step u) hΦ⟩)
theorem lXr (t:Nat)(A:Option Addr)(len cap sz:Nat)(i:Int)(j:Nat)(hA:A=some ⟨aB A,aO A,none⟩)(H:LGr l_ P n N R X ops (k+1) ((t,.pointer (some ⟨aB A,aO A+j*sz,none⟩))::Γ) w)(hc:cL ops Γ k t n=true:=by kernel_rfl)(he:ixE P (ev Γ) (opAt ops k)=some (.slice A len cap,.int .i64 i,sz):=by kernel_rfl)(hk:i=j:=by omega)(hlt:j<len:=by omega):LGr l_ P n N R X ops k Γ w :=
  LGr.val t _ w (cL_1 hc).1 (cL_1 hc).2 (ixE_run he hA hk hlt w) H
theorem lQr {α:Type}(t j:Nat)(l:List α)(f:α→List Value)(sz:Nat)(d:α)(e:Nat)(v:Value)(s:SS w0 h0 w h B Rs F)(hk:e<l.length)(H:LGr l_ P n N R X ops (k+1) ((t,v)::Γ) w)(hc:cL ops Γ k t n=true:=by kernel_rfl)
    (hj:decide (j<B.length)=true:=by kernel_rfl)(hB:(bxAt B j).vs=l.flatMap f:=by kernel_rfl)(hf:∀ x,(f x).length=sz:=by intro _;rfl)
    (he:evalL P (execOp (ev Γ) (opAt ops k)) (f (l.getD e d))=some (.value v,mka (bxAt B j).b (0+e*sz) (f (l.getD e d)).length):=by kernel_rfl):LGr l_ P n N R X ops k Γ w :=
  LGr.ownA t j l f sz d e v s.st (cL_1 hc).1 (cL_1 hc).2 hj hB hf hk he H
theorem lWr {α:Type}(j:Nat)(l:List α)(f:α→List Value)(sz e:Nat)(x:α)(s:SS w0 h0 w h B Rs F)(hk:e<l.length)(H:∀ w',SS w0 h0 w' h (setV B j ((l.set e x).flatMap f)) Rs F→LGr l_ P n N R X ops (k+1) Γ w')(hc:cS ops Γ k=true:=by kernel_rfl)
    (hj:decide (j<B.length)=true:=by kernel_rfl)(hB:(bxAt B j).vs=l.flatMap f:=by kernel_rfl)(hf:∀ x,(f x).length=sz:=by intro _;rfl)
    (he:evalW P (execOp (ev Γ) (opAt ops k))=some (.skip,mkl (bxAt B j).b (0+e*sz) (f x)):=by kernel_rfl):LGr l_ P n N R X ops k Γ w :=
  LGr.putA j l f sz e x s.st s.g0 (cS_1 hc).1 (cS_1 hc).2 hj hB hf hk he (fun w' p s'=>H w' (s.put0 (oT hj) p s' (setV_b (oT hj))))
theorem cSLr {id:Nat}{ops:Array Oper}{y:Code}(H:LGr l_ P n (fun a w=>y.wpIn (Fence.wide.inRound l_) 6 P (mkQ N R X) a w) R X ops 0 Γ w)(hn:chkR ops=true:=by kernel_rfl):CGr l_ P n N R X (.seq (.region id ops false) y) Γ w:=CGr.seq (CGr.listed H hn)
theorem cITr {c:Operand}{x y:Code}(ht:CGr l_ P n N R X x Γ w)(hc:inEnv Γ c=true:=by kernel_rfl)(hv:ev Γ c=.bool true:=by kernel_rfl):CGr l_ P n N R X (.cond c x y) Γ w:=CGr.condT hc hv ht
theorem cIFr {c:Operand}{x y:Code}(ht:CGr l_ P n N R X y Γ w)(hc:inEnv Γ c=true:=by kernel_rfl)(hv:ev Γ c=.bool false:=by kernel_rfl):CGr l_ P n N R X (.cond c x y) Γ w:=CGr.condF hc hv ht
theorem lNr {ops:Array Oper}{k:Nat}{y:Code}{N' R':Po}{X':Nat→Po}(H:CGr l_ P n N' R' X' y Γ w)(hc:(k == ops.size)=true:=by kernel_rfl):LGr l_ P n (fun a w=>y.wpIn (Fence.wide.inRound l_) 6 P (mkQ N' R' X') a w) R X ops k Γ w:=LGr.next hc H
theorem lDr {ops:Array Oper}{k:Nat}(H:∀ a,Kn n a Γ→N a w)(hc:(k == ops.size)=true:=by kernel_rfl):LGr l_ P n N R X ops k Γ w:=LGr.done hc H
theorem lGr {ops:Array Oper}{k:Nat}(t:Nat)(H:LGr l_ P n N R X ops (k+1) ((t,undef)::Γ) w)(hc:(decide (k<ops.size) && ((opAt ops k).dst == some t) && decide (t<n))=true:=by kernel_rfl)(hw:wantE ops Γ (opAt ops k)=some false:=by kernel_rfl):LGr l_ P n N R X ops k Γ w:=LGr.out t hc hw H
theorem lAur (t:Nat)(ty:TypeId)(vs:List Value)(s:SS w0 h0 w h B Rs F)(H:∀ b w' h',Up w h w' h'→h.size≤b→SS w0 h0 w' h' (⟨b,ty,vs⟩::B) Rs F→LGr l_ P n N R X ops (k+1) ((t,.pointer (some ⟨b,0,none⟩))::Γ) w')(hc:cL ops Γ k t n=true:=by kernel_rfl)
    (hr:(execOp (ev Γ) (opAt ops k)).run P w=.ok (.value (.pointer (some ⟨w.heap.size,0,none⟩))) (w.alloc (.cells vs.toArray ty (0,0))):=by kernel_rfl):LGr l_ P n N R X ops k Γ w :=
  LGr.var t ty vs s.st (cL_1 hc).1 (cL_1 hc).2 hr (fun b w' h' hb u s'=>H b w' h' u hb (s.new u hb s'))
end laws
def RetPM (P:Program)(fn:Func)(Ro:Ending→World→Prop):Po:=fun a w=>LeavesInM Fence.wide 9 P fn a.tmps Ro a.defers .returning w
section
variable {P:Program} {n:Nat} {Γ:Env} {w:World} {h:Hp} {w0:World} {h0:Hp} {B:List Bx} {Rs:List Rw} {F:List (Hp→Prop)}
theorem kn_enter {args:Array Value}{Γ0:Env}(hΓ:Γ0=envOf args.toList)(hs:args.size≤n)(hnb:n≤1000000):Kn n { tmps:=args++Array.replicate (n-args.size) undef,defers:=[] } Γ0:=by
  refine ⟨?_,?_,hnb,?_⟩
  · show []=dfOf Γ0
    unfold dfOf
    cases e:Γ0.lookup 1000000 with
    | none=>rfl
    | some v =>
      rw[hΓ] at e
      have h1:=envOf_lookup e;rw[List.getElem?_eq_none (by simp;omega)] at h1
      cases h1
  · simp;omega
  · intro t v _ hv
    rw[hΓ] at hv
    have h1:=envOf_lookup hv
    have hlt:t<args.size:=by
      rcases Nat.lt_or_ge t args.size with hl|hl
      · exact hl
      · rw[List.getElem?_eq_none (by simpa using hl)] at h1;cases h1
    show (args++Array.replicate (n-args.size) undef)[t]?=some v
    rw[Array.getElem?_append_left hlt]
    simpa using h1
theorem goM {f:FuncId}{fn:Func}{c:Code}{args:Array Value}{Ro:Ending→World→Prop}(hf:P.funcs[f]?=some fn)(Γ0:Env)(hb:fn.body=some c)(H:CG P fn.ntmps (RetPM P fn Ro) (RetPM P fn Ro) (fun _ _ _=>False) c Γ0 w)(hs:Nat.ble args.size fn.ntmps=true:=by kernel_rfl)(hΓ:Γ0=envOf args.toList:=by kernel_rfl)(hnb:Nat.ble fn.ntmps 1000000=true:=by kernel_rfl):Calls P f args w Ro:=by
  refine callsIn_wide.1 (callsIn_of_wp_marks (n:=9) hf hb trivial (wpIn_wide.2 (wp_mono (H _ (kn_enter hΓ (Nat.le_of_ble_eq_true hs) (Nat.le_of_ble_eq_true hnb))) ?_)));intro e a w hq;cases e with
  | normal=>exact hq
  | ret=>exact hq
  | exit i=>exact hq.elim
  | goto l=>exact hq.elim
  | panic ch=>exact hq.elim
  | outgrown=>exact hq.elim
theorem SS.retT {fn:Func}{Φ:Value→Hp→Prop}(s:SS w0 h0 w h B Rs F)(D:Nat)(hl:h0.size≤D)(hj:h[D]?=some (.deferred (some [])))(ps:List (Nat × Nat × Nat))(v:Value)(hΦ:Φ v (h.setIfInBounds D junk))(hd:dfOf Γ=[{ target:=.collected D,args:=#[] }]:=by rfl)(hk:(resR fn Γ && partsOk B ps)=true:=by kernel_rfl)(he:evalL P (resE fn Γ) (partsV B ps)=some (v,partsA B ps):=by kernel_rfl):∀ a,Kn n a Γ→RetPM P fn (Ret w0 h0 Φ) a w:=by
  intro a ka;rw[Bool.and_eq_true] at hk
  have hw:w.heap[D]?=some (.deferred (some [])):=by
    rcases s.g.blk D with e|e
    · exact e.symm.trans hj
    · rw[hj] at e;injection e with e;cases e
  have hn:∀ x∈B,x.b≠D:=fun x hx e=>by have q:=s.st.jk x hx;rw[e,hj] at q;injection q with q;cases q
  have hlt:=lt_of_some hj
  unfold RetPM
  rw[ka.df,hd];refine ⟨by simp,.inl ⟨D,_,rfl,run_takeDeferred hw,?_⟩⟩;have oth:∀ c,c≠D→(w.putObj D (.deferred none)).heap[c]?=w.heap[c]?:=fun c hc=>World.putObj_heap_other hc
  refine ⟨v,?_,v,_,rfl,⟨⟨s.st.up.ext.os,s.st.up.ext.tape,s.st.up.ext.output,?_,fun c hc=>?_⟩,⟨by rw[Array.size_setIfInBounds];exact s.st.up.gr.size,fun c hc=>by rw[Array.getElem?_setIfInBounds_ne oM];exact s.st.up.gr.blk c hc⟩,⟨?_,fun c=>?_⟩⟩,hΦ⟩
  · rw[results_envR ka hk.1]
    exact evalL_run _ _ _ _ he (parts_cells (fun x hx=>(oth x.b (hn x hx)).trans (s.st.own x hx)) ps hk.2)
  · rw[World.putObj_size];exact s.st.up.ext.size
  · rw[oth c (by have:=s.g0.size;omega)];exact s.st.up.ext.block c hc
  · rw[World.putObj_size,Array.size_setIfInBounds];exact s.g.size
  · by_cases e:c=D
    · subst e;right;rw[Array.getElem?_setIfInBounds_self_of_lt hlt]
    · rw[oth c e,Array.getElem?_setIfInBounds_ne (Ne.symm e)];exact s.g.blk c
end
structure KpL (ks:List Nat) (W W':World):Prop where
  size:W.heap.size≤W'.heap.size
  blk:∀ c∈ks,W'.heap[c]?=W.heap[c]?
theorem KpL.refl (ks:List Nat)(W:World):KpL ks W W:=⟨Nat.le_refl _,fun _ _=>rfl⟩
theorem KpL.trans {ks:List Nat}{A B C:World}(h:KpL ks A B)(k:KpL ks B C):KpL ks A C:=⟨Nat.le_trans h.size k.size,fun c h1=>(k.blk c h1).trans (h.blk c h1)⟩
theorem KpL.cell {ks:List Nat}{A B:World}(h:KpL ks A B){p:Addr}(hb:p.block∈ks):B.cell? p=A.cell? p:=by
  unfold World.cell?;rw[h.blk _ hb]
theorem KpL.put {ks:List Nat}(W:World)(l:Nat)(o:Obj)(h:∀ c∈ks,c<l):KpL ks W (W.putObj l o):=⟨by simp,fun c h1=>World.putObj_heap_other (by have:=h c h1;omega)⟩
def regh (h:Hp)(W:World):Hp:=h++W.heap.extract h.size W.heap.size
theorem regh_size {h:Hp}{W:World}(hle:h.size≤W.heap.size):(regh h W).size=W.heap.size:=by unfold regh;simp;omega
theorem regh_lt {h:Hp}{W:World}{c:Nat}(hc:c<h.size):(regh h W)[c]?=h[c]?:=by unfold regh;rw[Array.getElem?_append_left hc]
theorem regh_ge {h:Hp}{W:World}{c:Nat}(hc:h.size≤c):(regh h W)[c]?=W.heap[c]?:=by
  unfold regh
  rw[Array.getElem?_append_right hc,Array.getElem?_extract]
  by_cases e:c<W.heap.size
  · rw[if_pos oM];congr 1;omega
  · rw[if_neg oM,Array.getElem?_eq_none oM]
theorem regh_gr {h:Hp}{W:World}(hle:h.size≤W.heap.size):Gr h (regh h W):=⟨by rw[regh_size hle];exact hle,fun _ hc=>regh_lt hc⟩
section ss
variable {w0 w W W':World} {h0 h h':Hp} {B B':List Bx} {F F':List (Hp→Prop)}
theorem SS.reset (s:SS w0 h0 w h B [] F)(s':SS w0 h0 W h' B' [] F')(g:Gw h h')(hb:∀ x∈B',x.b<h.size)(same:∀ c,c<w.heap.size→W'.heap[c]?=W.heap[c]?)(sz:W.heap.size≤W'.heap.size)(e1:W'.os=W.os)(e2:W'.tape=W.tape)(e3:W'.output=W.output):SS w0 h0 W' (regh h W') B' [] F:=by
  have hsz:=s.g.size;have hle:h.size≤W'.heap.size:=by have:=s'.g.size;have:=g.size;omega
  have hw0:=s.st.up.ext.size;refine ⟨s.g0,⟨⟨⟨e1.trans s'.st.up.ext.os,e2.trans s'.st.up.ext.tape,e3.trans s'.st.up.ext.output,Nat.le_trans s'.st.up.ext.size sz,fun c hc=>(same c oM).trans (s'.st.up.ext.block c hc)⟩,s.st.up.gr.trans (regh_gr hle),⟨(regh_size hle).symm,fun c=>?_⟩⟩,fun x hx=>(same x.b (by rw[hsz];exact hb x hx)).trans (s'.st.own x hx),fun x hx=>?_,s'.st.lo,s'.st.nd⟩,fun _ hx=>(by cases hx),.nil,s.mo,s.f.gw s.mo (regh_gr hle).gw⟩
  · rcases Nat.lt_or_ge c h.size with hc|hc
    · rw[regh_lt hc,same c oM]
      rcases g.blk c hc with e|e
      · rw[←e];exact s'.g.blk c
      · exact .inr e
    · exact .inl (regh_ge hc)
  · rw[regh_lt (hb x hx)]
    rcases g.blk x.b (hb x hx) with e|e
    · rw[←e];exact s'.st.jk x hx
    · exact e
theorem told_keeps (s:SS w0 h0 W h B [] F)(s':SS w0 h0 W' h' B' [] F')(g:Gw h h'){c:Nat}(hc:c<h.size)(hj:h[c]?≠some junk):W'.heap[c]?=W.heap[c]?:=by
  have h1:h[c]?=W.heap[c]?:=(s.g.blk c).resolve_right hj;have h2:=s'.g.blk c;rw[(g.blk c hc).resolve_right hj] at h2
  exact (h2.resolve_right hj).symm.trans h1
end ss
section law
variable {P:Program} {n:Nat} {N R:Po} {X:Nat→Po} {Γ:Env} {w w0:World} {h h0:Hp} {B:List Bx} {F:List (Hp→Prop)} {α β:Type}
def RgI (w0:World)(h0:Hp)(w:World)(h:Hp)(Bof:β→List Bx)(Fx:List α→β→Prop)(pre:List α)(W:World):Prop :=
  w.heap.size≤W.heap.size∧∃ v h',SS w0 h0 W h' (Bof v) [] []∧Gw h h'∧(∀ x∈Bof v,x.b<h.size)∧Fx pre v
theorem RgI.from {Bof:β→List Bx}{Fx:List α→β→Prop}(s:SS w0 h0 w h B [] F):OwnFrom w.heap.size (RgI w0 h0 w h Bof Fx):=by
  rintro pre W W' row ⟨hsz,v,h',s',g,hb,fx⟩ gr hr;have same:∀ c,c<w.heap.size→W'.heap[c]?=W.heap[c]?:=fun c hc=>gr.block c oM (fun e=>by have:=(hr c e.symm).1;omega)
  have hle:h.size≤W'.heap.size:=by have:=s'.g.size;have:=g.size;have:=gr.size;omega
  exact ⟨Nat.le_trans hsz gr.size,v,regh h W',(s.reset s' g hb same gr.size gr.os gr.tape gr.output).bare,(regh_gr hle).gw,hb,fx⟩
theorem keeps_told {W W1:World}{hh hh1:Hp}{B1 B2:List Bx}{F1 F2:List (Hp→Prop)}{K:Nat}{ks:List Nat}(s1:SS w0 h0 W hh B1 [] F1)(s2:SS w0 h0 W1 hh1 B2 [] F2)(g:Gw hh hh1)(hK:∀ k o,K≤k→W.heap[k]?=some o→o.isCells=false→hh[k]?=some o)(hks:∀ c∈ks,c<hh.size∧hh[c]?≠some junk):KeepsFrom K W W1∧KpL ks W W1:=by
  have hsz:W.heap.size≤W1.heap.size:=by have:=s1.g.size;have:=s2.g.size;have:=g.size;omega
  refine ⟨⟨hsz,fun k o hk he ho=>?_⟩,⟨hsz,fun c hc=>told_keeps s1 s2 g (hks c hc).1 (hks c hc).2⟩⟩;have e1:=hK k o hk he ho;rw[told_keeps s1 s2 g (lt_of_some e1) (fun e=>by rw[e1] at e;injection e with e;subst e;cases ho),he]
theorem kn_two {a:Act}{p1 p2:Nat}{u1 u2:Value}(ka:Kn n a Γ)(hdf:dfOf Γ=[])(hp1:p1<n)(hp2:p2<n):Kn n { tmps:=((#[p1,p2]:Array Nat).zip #[u1,u2]).foldl (fun t (p,v)=>t.setIfInBounds p v) a.tmps,defers:=[] } ((p2,u2)::(p1,u1)::Γ):=by
  have k:=(ka.put hp1 u1).put hp2 u2
  have e:({ tmps:=((#[p1,p2]:Array Nat).zip #[u1,u2]).foldl (fun t (p,v)=>t.setIfInBounds p v) a.tmps,defers:=[] }:Act)=(a.put (some p1) u1).put (some p2) u2:=by
    have hd:a.defers=[]:=ka.df.trans hdf;cases a with
    | mk t d=>simp only at hd;subst hd;simp[Act.put]
  rw[e];exact k
theorem CG.rangeF {g:Operand}{p1 p2:Tmp}{assign body:Code}(s:SS w0 h0 w h B [] F){gf:Nat}{lb:Array Value}(eg:∀ args w,(callFunc gf args).run P w=.ok (.enter gf args) w)(hdf:dfOf Γ=[])
    {e1 e2:α→Value}{ks:List Nat}{S Sp:List α→Prop}{Nn:Nat}(hseq:SeqStopsK Fence.wide 7 P gf lb (fun x=>#[e1 x,e2 x]) (KpL ks) S Sp Nn w)(hks:∀ c∈ks,c<h.size∧h[c]?≠some junk)
    (Bof:β→List Bx)(Fx:List α→β→Prop)(v0:β)(hB0:Bof v0=B)(hF0:Fx [] v0)(hlt:∀ v,(Bof v).map (·.b)=B.map (·.b))(TX:TypeId)(hTX:(TX == 0)=false)(cs:α→List Value)(Γa:α→Nat→Env)
    (hA:∀ l pre x v W hh,Fx pre v→SS w0 h0 W hh (Bof v) [] F→CGr l P n (fun a1 W1=>∃ hh1 Bx,hh.size≤Bx∧SS w0 h0 W1 hh1 (⟨Bx,TX,cs x⟩::Bof v) [] F∧Gr hh hh1∧Kn n a1 (Γa x Bx)) (fun _ _=>False) (fun _ _ _=>False) assign ((p2,e2 x)::(p1,e1 x)::Γ) W)
    (hBd:∀ l pre x v W hh Bx,Fx pre v→pre.length<Nn→SS w0 h0 W hh (⟨Bx,TX,cs x⟩::Bof v) [] F→CGr l P n (fun _ W1=>∃ hh1 v1 B1 F1,SS w0 h0 W1 hh1 (B1++Bof v1) [] F1∧Gw hh hh1∧Fx (pre++[x]) v1) (fun _ _=>False) (fun _ _ _=>False) body (Γa x Bx) W)
    (H:∀ D xs v W hh,h.size≤D→S xs→Fx xs v→SS w0 h0 W hh (Bof v) [] F→Gr h hh→hh[D]?=some (.deferred (some []))→∀ a,Kn n a ((1000000,.int .i64 (D:Nat))::Γ)→N a W)
    (hin:inEnv Γ g=true:=by kernel_rfl)(hg:ev Γ g=.func (.func gf) #[] lb:=by kernel_rfl)(hp1:p1<n:=by decide)(hp2:p2<n:=by decide):CG P n N R X (.rangeFunc g #[p1,p2] assign body) Γ w:=by
  intro a ka;have hsz:=s.g.size
  have hbl:∀ v,∀ x∈Bof v,x.b<h.size:=fun v x hx=>by
    have:x.b∈(Bof v).map (·.b):=List.mem_map.2 ⟨x,hx,rfl⟩;rw[hlt v] at this
    obtain ⟨y,hy,e⟩:=List.mem_map.1 this;rw[←e];exact lt_of_some (s.st.jk y hy)
  refine (wpIn_wide (n:=8)).1 (wpIn_rangeFunc_ownH (F:=Fence.wide) rfl oM (gf:=gf) (lb:=lb) (by rw[ka.eval hin];exact hg) trivial eg hseq (fun h k=>h.trans k) (fun W l o o' hl _ _ _=>KpL.put W l o' (fun c hc=>by have:=(hks c hc).1;omega)) (Below.refl _ _) (fun _=>rfl)
    (RgI w0 h0 w h Bof Fx) (fun _ _ _=>False) (RgI.from s) (fun _ _ _ _ _ hs _ _=>hs) ⟨Nat.le_refl _,v0,h,by rw[hB0];exact s.bare,Gw.refl h,hbl v0,hF0⟩
    (fun x a' W=>∃ Bx,w.heap.size≤Bx∧W.heap[Bx]?=some (.cells (cs x).toArray TX (0,0))∧Kn n a' (Γa x Bx)) ?hax ?assign ?body ?done ?stop)
  case hax =>
    rintro x a' _ W W' row ⟨Bx,hx,hw,hk⟩ gr hr;refine ⟨Bx,hx,(gr.block Bx (Array.getElem?_eq_some_iff.1 hw).1 (fun e=>?_)).trans hw,hk⟩;obtain ⟨_,o,ho,hc⟩:=hr Bx e.symm;rw[hw] at ho;injection ho with ho;subst ho;cases hc
  case assign =>
    rintro l pre x W K ⟨hle,v,h',s',g',hb,fx⟩ hK;have hle2:h.size≤W.heap.size:=by omega
    have s1:=s.reset s' g' hb (fun _ _=>rfl) (Nat.le_refl _) rfl rfl rfl;refine wpIn_mono (hA l pre x v W _ fx s1 _ (kn_two ka hdf hp1 hp2)) ?_;intro e a1 W1 hq;cases e with
    | normal =>
      obtain ⟨hh1,Bx,hBx,s2,g2,kn⟩:=hq;obtain ⟨k1,k2⟩:=keeps_told (K:=w.heap.size) (ks:=ks) s1 s2 g2.gw (fun k o hk he _=>by rw[regh_ge oM];exact he) (fun c hc=>⟨by rw[regh_size hle2];have:=(hks c hc).1;omega,by rw[regh_lt (hks c hc).1];exact (hks c hc).2⟩);refine hK a1 W1 k1 k2 ⟨Nat.le_trans hle k1.size,v,hh1,(s2.drop 1 0).bare,((regh_gr hle2).trans g2).gw,hb,fx⟩ ⟨Bx,by rw[regh_size hle2] at hBx;omega,s2.st.own _ (List.mem_cons_self),kn⟩
    | ret=>exact hq.elim
    | exit i=>exact hq.elim
    | goto i=>exact hq.elim
    | panic c=>exact hq.elim
    | outgrown=>exact hq.elim
  case body =>
    rintro l pre x a' W hl hrec ⟨hle,v,h',s',g',hb,fx⟩ ⟨Bx,hx,hw,hk⟩ hlen;have hle2:h.size≤W.heap.size:=by omega
    have s1:=s.reset s' g' hb (fun _ _=>rfl) (Nat.le_refl _) rfl rfl rfl;have hBx:(regh h W)[Bx]?=some (.cells (cs x).toArray TX (0,0)):=by rw[regh_ge oM];exact hw
    have hh0:=s.st.up.gr.size;have s2:=s1.grab (b:=Bx) (ty:=TX) (vs:=cs x) ⟨by omega,hTX,hBx⟩;have gset:Gr h ((regh h W).setIfInBounds Bx junk):=⟨by rw[Array.size_setIfInBounds];exact (regh_gr hle2).size,fun c hc=>by rw[Array.getElem?_setIfInBounds_ne oM];exact regh_lt hc⟩;have s3:SS w0 h0 W ((regh h W).setIfInBounds Bx junk) (⟨Bx,TX,cs x⟩::Bof v) [] F:=⟨s2.g0,s2.st,s2.ro,s2.ap,s.mo,s.f.gw s.mo gset.gw⟩;refine wpIn_mono (hBd l pre x v W _ Bx fx hlen s3 a' hk) ?_;intro e a1 W1 hq;cases e with
    | normal =>
      obtain ⟨hh1,v1,B1,F1,s4,g4,fx1⟩:=hq
      obtain ⟨k1,k2⟩:=keeps_told (K:=w.heap.size) (ks:=ks) s3 s4 g4 (fun k o hk he ho=>by
        have hne:k≠Bx:=fun e=>by subst e;rw[hw] at he;injection he with he;subst he;cases ho
        rw[Array.getElem?_setIfInBounds_ne (Ne.symm hne),regh_ge oM];exact he) (fun c hc=>⟨by rw[Array.size_setIfInBounds,regh_size hle2];have:=(hks c hc).1;omega,by rw[gset.blk c (hks c hc).1];exact (hks c hc).2⟩)
      have s5:=s4.drop B1.length 0;rw[List.drop_left] at s5
      exact ⟨k1,k2,Nat.le_trans hle k1.size,v1,hh1,s5.bare,gset.gw.trans g4,hbl v1,fx1⟩
    | ret=>exact hq.elim
    | exit i=>exact hq.elim
    | goto i=>exact hq.elim
    | panic c=>exact hq.elim
    | outgrown=>exact hq.elim
  case done =>
    rintro D xs W hD hS ⟨hle,v,h',s',g',hb,fx⟩ hK;have hle2:h.size≤W.heap.size:=by omega
    have s1:=s.reset s' g' hb (fun _ _=>rfl) (Nat.le_refl _) rfl rfl rfl;refine H D xs v W _ oM hS fx s1 (regh_gr hle2) (by rw[regh_ge oM];exact hK) _ ⟨?_,ka.sz,ka.nb,fun t u ht hu=>?_⟩
    · show _::a.defers=dfOf _
      rw[ka.df,hdf];rfl
    · rw[List.lookup_cons,show (t == 1000000)=false by simpa using ht] at hu
      exact ka.has t u ht hu
  case stop =>
    rintro D c pre W _ _ hx _;exact hx.elim
theorem CG.run {c:Code}(H:CG P n N R X c Γ w):∀ a,Kn n a Γ→(fun a w=>c.wp P (mkQ N R X) a w) a w:=H
end law
attribute [local go_sem] Oper.semAt_some
def camk (n:Nat):Nat→List (Fin n)
  | 0=>[]
  | k+1=>camk n k++(if h:n-1-k<n then [⟨n-1-k,h⟩] else [])
def came (n r:Nat):List (Fin n):=camk n (n-r)
theorem came_step {n r:Nat}(h:r<n):came n r=came n (r+1)++[⟨r,h⟩]:=by
  have e:n-1-(n-(r+1))=r:=by omega
  unfold came
  rw[show n-r=(n-(r+1))+1 by omega]
  show camk n _++_=_
  rw[dif_pos oM]
  simp only[e]
theorem camk_len (n:Nat):∀ k,(camk n k).length≤k
  | 0=>Nat.le_refl _
  | k+1=>by
    have:=camk_len n k
    unfold camk
    rw[List.length_append]
    split<;>simp<;>omega
theorem came_len (n r:Nat):(came n r).length≤n-r:=camk_len n _
theorem back_in (n:Nat)(hn:1≤n)(l Bs b len cap:Nat)(ks:List Nat)(g0 g1 g2 g3 g4 g5 g6 g7 g8:Nat→Value)(hlen:len≤1000)(hb:0<len→b∈ks)(hBl:Bs∈ks)(J Jx:List (Fin len)→World→Prop)
    (hY:∀ pre x W,J pre W→pre.length<len→YieldAt Fence.wide (n-1) Tryz.prog l #[.int .i64 (x.1:Nat),.agg #[g0 x.1,g1 x.1,g2 x.1,g3 x.1,g4 x.1,g5 x.1,g6 x.1,g7 x.1,g8 x.1]] W fun e W' =>
      (e=.returned (.bool true)∧J (pre++[x]) W'∧KpL ks W W')∨(e=.returned (.bool false)∧Jx (pre++[x]) W'))
    (W:World)(hBs:W.cell? ⟨Bs,0,none⟩=some (.slice (some ⟨b,0,none⟩) len cap))(hc:∀ j,j<len→W.cell? ⟨b,j*9,none⟩=some (g0 j)∧W.cell? ⟨b,j*9+1,none⟩=some (g1 j)∧W.cell? ⟨b,j*9+2,none⟩=some (g2 j)∧W.cell? ⟨b,j*9+3,none⟩=some (g3 j)∧W.cell? ⟨b,j*9+4,none⟩=some (g4 j)∧W.cell? ⟨b,j*9+5,none⟩=some (g5 j)∧W.cell? ⟨b,j*9+6,none⟩=some (g6 j)∧W.cell? ⟨b,j*9+7,none⟩=some (g7 j)∧W.cell? ⟨b,j*9+8,none⟩=some (g8 j))(h0:J [] W) :
    CallsIn Fence.wide n Tryz.prog 63 #[.func (.yield l) #[] #[],.pointer (some ⟨Bs,0,none⟩)] W fun e W'=>(∃ v,e=.returned v) ∧
      ((∃ ys,ys=came len 0∧J ys W')∨(∃ pre,(∃ k,k≤len∧pre=came len k)∧Jx pre W')):=by
  refine callsIn_of_wp Tryz.func63 rfl trivial ?_ rfl
  simp only[Tryz.ntmps63,List.size_toArray,List.length_cons,List.length_nil,Nat.reduceAdd,Nat.reduceSub,Array.replicate_succ,Array.replicate_zero,List.push_toArray,List.append_toArray,List.nil_append,List.cons_append]
  gi_wp2
  gi_loopw [3] (fun i wr=>∃ k:Nat,k≤len∧i=.int .i64 ((k:Int)-1)∧J (came len k) wr∧KpL ks W wr)
    (fun i _=>(intOf i+1).toNat)
  case atStart=>exact ⟨len,Nat.le_refl _,by first|rfl|(simp;omega),by rw[show came len len=[] by unfold came;rw[Nat.sub_self];rfl];exact h0,KpL.refl _ _⟩
  case round =>
    obtain ⟨k,hk,rfl,hJs,hnx⟩:=hrel
    rcases k with _|k
    · gi_wp2
      go_end0
      exact ⟨⟨_,rfl⟩,.inl ⟨_,rfl,hJs⟩⟩
    · have hcx:=hc k oM
      obtain ⟨fn,tmps,assign,body,hy,hR⟩:=hY _ ⟨k,by omega⟩ wr hJs (by have:=came_len len (k+1);omega);have hBx:wr.cell? ⟨Bs,0,none⟩=some (.slice (some ⟨b,0,none⟩) len cap):=(hnx.cell (p:=⟨Bs,0,none⟩) hBl).trans hBs;have e_:((k+1:Nat):Int)-1=(k:Nat):=by omega
      rw[e_];obtain ⟨c0,c1,c2,c3,c4,c5,c6,c7,c8⟩:=hcx;replace c0:=(hnx.cell (p:=⟨b,k*9,none⟩) (hb oM)).trans c0;replace c1:=(hnx.cell (p:=⟨b,k*9+1,none⟩) (hb oM)).trans c1;replace c2:=(hnx.cell (p:=⟨b,k*9+2,none⟩) (hb oM)).trans c2;replace c3:=(hnx.cell (p:=⟨b,k*9+3,none⟩) (hb oM)).trans c3;replace c4:=(hnx.cell (p:=⟨b,k*9+4,none⟩) (hb oM)).trans c4;replace c5:=(hnx.cell (p:=⟨b,k*9+5,none⟩) (hb oM)).trans c5;replace c6:=(hnx.cell (p:=⟨b,k*9+6,none⟩) (hb oM)).trans c6;replace c7:=(hnx.cell (p:=⟨b,k*9+7,none⟩) (hb oM)).trans c7;replace c8:=(hnx.cell (p:=⟨b,k*9+8,none⟩) (hb oM)).trans c8
      gi_wp2
      refine hR.mono ?_;rintro e W3 (⟨rfl,hJ3,hk3⟩|⟨rfl,hJx3⟩)
      · gi_wp2
        go_roundw
        case rel=>exact ⟨k,by omega,by simp,by rw[came_step oM];exact hJ3,hnx.trans hk3⟩
        case measure=>simp[intOf]
      · gi_wp2
        refine bodyPost_ret (results_none rfl _ _ _) rfl ?_;exact ⟨⟨_,rfl⟩,.inr ⟨_,⟨k,by omega,(came_step oM).symm⟩,hJx3⟩⟩
theorem back_stops (n:Nat)(hn:1≤n)(Bs b len cap:Nat)(ks:List Nat)(g0 g1 g2 g3 g4 g5 g6 g7 g8:Nat→Value)(hlen:len≤1000)(hb:0<len→b∈ks)(hBl:Bs∈ks)(w:World)(hkw:∀ c∈ks,c<w.heap.size)
    (hBs:w.cell? ⟨Bs,0,none⟩=some (.slice (some ⟨b,0,none⟩) len cap))(hc:∀ j,j<len→w.cell? ⟨b,j*9,none⟩=some (g0 j)∧w.cell? ⟨b,j*9+1,none⟩=some (g1 j)∧w.cell? ⟨b,j*9+2,none⟩=some (g2 j)∧w.cell? ⟨b,j*9+3,none⟩=some (g3 j)∧w.cell? ⟨b,j*9+4,none⟩=some (g4 j)∧w.cell? ⟨b,j*9+5,none⟩=some (g5 j)∧w.cell? ⟨b,j*9+6,none⟩=some (g6 j)∧w.cell? ⟨b,j*9+7,none⟩=some (g7 j)∧w.cell? ⟨b,j*9+8,none⟩=some (g8 j)) :
    SeqStopsK Fence.wide n Tryz.prog 63 #[.pointer (some ⟨Bs,0,none⟩)] (fun x:Fin len=>#[.int .i64 (x.1:Nat),.agg #[g0 x.1,g1 x.1,g2 x.1,g3 x.1,g4 x.1,g5 x.1,g6 x.1,g7 x.1,g8 x.1]]) (KpL ks) (fun ys=>ys=came len 0) (fun pre=>∃ k,k≤len∧pre=came len k) len w:=fun l J Jx W hW _ _ hY h0 =>
  back_in n hn l Bs b len cap ks g0 g1 g2 g3 g4 g5 g6 g7 g8 hlen hb hBl J Jx hY W ((hW.cell (p:=⟨Bs,0,none⟩) (hkw _ hBl)).trans hBs) (fun j hj=>by
    obtain ⟨c0,c1,c2,c3,c4,c5,c6,c7,c8⟩:=hc j hj;exact ⟨(hW.cell (p:=⟨b,j*9,none⟩) (hkw _ (hb oM))).trans c0,(hW.cell (p:=⟨b,j*9+1,none⟩) (hkw _ (hb oM))).trans c1,(hW.cell (p:=⟨b,j*9+2,none⟩) (hkw _ (hb oM))).trans c2,(hW.cell (p:=⟨b,j*9+3,none⟩) (hkw _ (hb oM))).trans c3,(hW.cell (p:=⟨b,j*9+4,none⟩) (hkw _ (hb oM))).trans c4,(hW.cell (p:=⟨b,j*9+5,none⟩) (hkw _ (hb oM))).trans c5,(hW.cell (p:=⟨b,j*9+6,none⟩) (hkw _ (hb oM))).trans c6,(hW.cell (p:=⟨b,j*9+7,none⟩) (hkw _ (hb oM))).trans c7,(hW.cell (p:=⟨b,j*9+8,none⟩) (hkw _ (hb oM))).trans c8⟩) h0
theorem step_cells {h:Hp}{w:World}{sl:List Stp}{Sb:Nat}(g:G w h)(hS:SlO 9 stc stp0 h (some ⟨Sb,0,none⟩) sl)(j:Nat)(hj:j<sl.length):w.cell? ⟨Sb,j*9,none⟩=some (.int .i64 (sl.getD j stp0).op)∧w.cell? ⟨Sb,j*9+1,none⟩=some (.int .i64 (sl.getD j stp0).a)∧w.cell? ⟨Sb,j*9+2,none⟩=some (.int .i64 (sl.getD j stp0).b)∧w.cell? ⟨Sb,j*9+3,none⟩=some (.int .i64 (sl.getD j stp0).n)∧w.cell? ⟨Sb,j*9+4,none⟩=some (.bool (ineg (sl.getD j stp0).q.num))∧w.cell? ⟨Sb,j*9+5,none⟩=some (.int .u64 (lo (iabs (sl.getD j stp0).q.num)))∧w.cell? ⟨Sb,j*9+6,none⟩=some (.string (hi (iabs (sl.getD j stp0).q.num)))∧w.cell? ⟨Sb,j*9+7,none⟩=some (.int .u64 (lo (qd (sl.getD j stp0).q)))∧w.cell? ⟨Sb,j*9+8,none⟩=some (.string (hi (qd (sl.getD j stp0).q))):=by
  have e:∀ i v,(stc (sl.getD j stp0))[i]?=some v→w.cell? ⟨Sb,j*9+i,none⟩=some v:=fun i v hv=>by
    have q:=hcell_w g (hS.el j hj i v hv)
    simpa [aO,aB] using q
  exact ⟨e 0 _ rfl,e 1 _ rfl,e 2 _ rfl,e 3 _ rfl,e 4 _ rfl,e 5 _ rfl,e 6 _ rfl,e 7 _ rfl,e 8 _ rfl⟩
theorem sBackward (A:Option Addr)(m c:Nat)(w:World)(h:Hp)(g:G w h):CR 33 #[.slice A m c] w h (fun v h1=>∃ bv,v=.func (.func 63) #[] #[pB bv]∧Seg h1 bv 0 [.slice A m c]):=by
 have hs:=sS g;refine go Tryz.func33 [(0,qS A m c)] rfl (cSL (lA 1 27 ([qS A m c]) hs (fun b1 w2 h3 hs=>lL hs [.v 2 .nilFunc] (lNS ?_))));obtain ⟨h4,hs,sg5,-,-⟩:=hs.pub 0;replace hs:=hs.to [] [];have sg6:Seg h4 b1 0 ([qS A m c]):=sg5;replace hs:=hs.a_Seg sg6;exact lL hs [.v 3 (.func (.func 63) #[] #[pB b1]),.m 2 3] (lN (kX (hs.ret [] (.func (.func 63) #[] #[pB b1]) (⟨_,rfl,hs.f.1⟩))))
theorem told_seg {h:Hp}{b:Nat}{v:Value}{l:List Value}(x:Seg h b 0 (v::l)):b<h.size∧h[b]?≠some junk:=by
  have q:=x 0 v rfl;obtain ⟨c,t,g,e,_⟩:=hcell_some q;exact ⟨lt_of_some e,fun j=>by rw[hcell_junk j] at q;cases q⟩
theorem told_slo {h:Hp}{Sb:Nat}{sl:List Stp}(x:SlO 9 stc stp0 h (some ⟨Sb,0,none⟩) sl)(h0:0<sl.length):Sb<h.size∧h[Sb]?≠some junk:=by
  have q:=x.el 0 h0 0 _ rfl;obtain ⟨c,t,g,e,_⟩:=hcell_some q;exact ⟨lt_of_some e,fun j=>by rw[show aB (some (⟨Sb,0,none⟩:Addr))=Sb from rfl,hcell_junk j] at q;cases q⟩
theorem kept_seq {h:Hp}{w:World}{sl:List Stp}{Sb bv len:Nat}(g:G w h)(hS:SlO 9 stc stp0 h (some ⟨Sb,0,none⟩) sl)(hv:Seg h bv 0 [.slice (some ⟨Sb,0,none⟩) len len])(hl:sl.length=len)(hlen:len≤1000)(ks:List Nat)(hb:0<len→Sb∈ks)(hBl:bv∈ks)(hkw:∀ c∈ks,c<h.size) :
    SeqStopsK Fence.wide 7 Tryz.prog 63 #[.pointer (some ⟨bv,0,none⟩)] (fun x:Fin len=>#[.int .i64 (x.1:Nat),stv (sl.getD x.1 stp0)]) (KpL ks) (fun ys=>ys=came len 0) (fun pre=>∃ k,k≤len∧pre=came len k) len w :=
  back_stops 7 oM bv Sb len len ks (fun j=>.int .i64 (sl.getD j stp0).op) (fun j=>.int .i64 (sl.getD j stp0).a) (fun j=>.int .i64 (sl.getD j stp0).b) (fun j=>.int .i64 (sl.getD j stp0).n) (fun j=>.bool (ineg (sl.getD j stp0).q.num)) (fun j=>.int .u64 (lo (iabs (sl.getD j stp0).q.num))) (fun j=>.string (hi (iabs (sl.getD j stp0).q.num))) (fun j=>.int .u64 (lo (qd (sl.getD j stp0).q))) (fun j=>.string (hi (qd (sl.getD j stp0).q))) hlen hb hBl w (fun c hc=>by rw[g.size];exact hkw c hc) (hcell_w g (hv 0 _ rfl)) (fun j hj=>step_cells g hS j oM)
theorem rIntSgz (z:Int)(A:Option Addr)(c:Nat)(w:World)(h:Hp)(g:G w h)(hA:S3 A (lim (iabs z)) h):CV 142 #[.agg #[.bool (ineg z),.slice A ((lim (iabs z)).length) c]] w h (iV z.sign):=by
 have hs:=((sS g).aS hA);have hlz:0<(lim (iabs z)).length↔0<iabs z:=lim_pos
 unfold iabs at hlz
 refine go Tryz.func142 [(0,.agg #[.bool (ineg z),qS A ((lim (iabs z)).length) c])] rfl (cSL (lA 1 54 ([.bool (ineg z),qS A ((lim (iabs z)).length) c]) hs (fun b1 w2 h3 hs=>lL hs [.v 2 (iV 0)] (lN (cQ (kZ (cSL (lL hs [.v 4 (qP b1 1),.o 5 (qS A ((lim (iabs z)).length) c) 0 1 1,.v 6 (nV ((lim (iabs z)).length))] ?_))))))));cases hb4:((((lim (iabs z)).length:Nat):Int) == (0:Int))
 ·
  have phb4:=neOfBeq hb4;refine lB 7 hb4 (lL hs [.m 3 7] (lN (cIF (cSL (lL hs [.v 9 (pB b1),.o 10 (.bool (ineg z)) 0 0 1,.m 8 10] (lN ?_))))));cases hb5:(ineg z)
  ·
   try rw[hb5] at hs
   try rw[hb5]
   have phb5:=ineg_false hb5;exact cIF (cK (cSL (lL hs [.v 2 (iV 1)] (lN (kX (hs.ret [] (iV 1) (congrArg (Value.int .i64) (by first|(rw[show z=0 by (unfold iabs at *;omega)];rfl)|exact (Int.sign_eq_neg_one_of_neg oM).symm|exact (Int.sign_eq_one_of_pos (by unfold iabs at *;omega)).symm))))))))
  try rw[hb5] at hs
  try rw[hb5]
  have phb5:=ineg_true hb5;exact cIT (cSL (lL hs [.v 2 (iV (-1))] (lN (kX (hs.ret [] (iV (-1)) (congrArg (Value.int .i64) (by first|(rw[show z=0 by (unfold iabs at *;omega)];rfl)|exact (Int.sign_eq_neg_one_of_neg oM).symm|exact (Int.sign_eq_one_of_pos (by unfold iabs at *;omega)).symm)))))))
 have phb4:=eq_of_beq hb4;exact lB 7 hb4 (lL hs [.m 3 7] (lN (cIT (cSL (lL hs [.v 2 (iV 0)] (lN (kX (hs.ret [] (iV 0) (congrArg (Value.int .i64) (by first|(rw[show z=0 by (unfold iabs at *;omega)];rfl)|exact (Int.sign_eq_neg_one_of_neg oM).symm|exact (Int.sign_eq_one_of_pos (by unfold iabs at *;omega)).symm))))))))))
theorem rSgz (z:Int)(A:Option Addr)(c n:Nat)(D:Option Addr)(d:Nat)(hc:(lim (iabs z)).length≤c)(hd:(lim n).length≤d)(w:World)(h:Hp)(g:G w h)(hA:S3 A (lim (iabs z)) h)(hD:S3 D (lim n) h):CV 145 #[.agg #[.bool (ineg z),.slice A ((lim (iabs z)).length) c,.slice D ((lim n).length) d]] w h (iV z.sign):=by
 have hs:=(((sS g).aS hA).aS hD);refine go Tryz.func145 [(0,.agg #[.bool (ineg z),qS A ((lim (iabs z)).length) c,qS D ((lim n).length) d])] rfl (cSL (lA 1 56 ([.bool (ineg z),qS A ((lim (iabs z)).length) c,qS D ((lim n).length) d]) hs (fun b1 w2 h3 hs=>lL hs [.v 2 (iV 0)] (lNS (lL hs [.v 3 (pB b1),.o 4 (.agg #[.bool (ineg z),qS A ((lim (iabs z)).length) c]) 0 0 2] (lC 5 hs (rIntSgz z A c _ _ hs.g hs.f.2.1) ?_))))));rintro _ w4 h5 hs rfl;exact lL hs [.m 2 5] (lN (kX (hs.ret [] (iV z.sign) rfl)))
theorem rZero (z:Int)(A:Option Addr)(c n:Nat)(D:Option Addr)(d:Nat)(hc:(lim (iabs z)).length≤c)(hd:(lim n).length≤d)(w:World)(h:Hp)(g:G w h)(hA:S3 A (lim (iabs z)) h)(hD:S3 D (lim n) h):CV 118 #[.agg #[.bool (ineg z),.slice A ((lim (iabs z)).length) c,.slice D ((lim n).length) d]] w h (.bool (decide (n=0∨z=0))):=by
 have hs:=(((sS g).aS hA).aS hD);have hln:0<(lim n).length↔0<n:=lim_pos;refine go Tryz.func118 [(0,.agg #[.bool (ineg z),qS A ((lim (iabs z)).length) c,qS D ((lim n).length) d])] rfl (cSL (lA 1 56 ([.bool (ineg z),qS A ((lim (iabs z)).length) c,qS D ((lim n).length) d]) hs (fun b1 w2 h3 hs=>lL hs [.v 2 qF] (lNS (lL hs [.v 3 (qP b1 2),.o 4 (qS D ((lim n).length) d) 0 2 1,.v 5 (nV ((lim n).length))] ?_)))));cases hb4:((((lim n).length:Nat):Int) == (0:Int))
 ·
  have phb4:=neOfBeq hb4;refine lB 6 hb4 (lL hs [.m 7 6,.o 8 (.agg #[.bool (ineg z),qS A ((lim (iabs z)).length) c,qS D ((lim n).length) d]) 0 0 3] (lC 9 hs (rSgz z A c n D d hc hd _ _ hs.g hs.f.2.1 hs.f.1) ?_));rintro _ w5 h6 hs rfl;have hsg:z.sign=0↔z=0:=Int.sign_eq_zero_iff_zero;cases hb7:((z.sign:Int) == (0:Int))
  ·
   have phb7:=neOfBeq hb7;exact lB 10 hb7 (lL hs [.v 11 qF,.m 2 11] (lN (kX (hs.ret [] qF (congrArg Value.bool (decide_eq_false oM).symm)))))
  have phb7:=eq_of_beq hb7;exact lB 10 hb7 (lL hs [.v 11 qT,.m 2 11] (lN (kX (hs.ret [] qT (congrArg Value.bool (decide_eq_true oM).symm)))))
 have phb4:=eq_of_beq hb4;refine lB 6 hb4 (lL hs [.m 7 6] (lG 8 ?_));exact lG 9 (lG 10 (lL hs [.v 11 qT,.m 2 11] (lN (kX (hs.ret [] qT (congrArg Value.bool (decide_eq_true oM).symm))))))
theorem num_none {o:OSt}(hz:o.has=false→o.q=0)(h:odn o=0∨o.q.num=0):o.q=((0:Int):Rat):=by
  rcases h with h|h
  · refine hz ?_
    have h2:=odn_pos (o:=o);rw[h,lim_zero] at h2
    cases h3:o.has with
    | false=>rfl
    | true=>rw[h3] at h2;simp at h2
  · exact Rat.num_eq_zero.1 h
theorem odn_some {o:OSt}(hz:o.has=false→o.q=0)(h:¬(odn o=0∨o.q.num=0)):odn o=o.q.den:=by
  refine odn_has ?_;cases h3:o.has with
  | true=>rfl
  | false=>exact absurd (.inr (by rw[hz h3];rfl)) h
theorem rNumber (o:OSt)(A:Option Addr)(c:Nat)(D:Option Addr)(d:Nat)(hc:(lim (iabs o.q.num)).length≤c)(hd:(lim (odn o)).length≤d)(hz:o.has=false→o.q=0)(w:World)(h:Hp)(g:G w h)(hA:S3 A (lim (iabs o.q.num)) h)(hD:S3 D (lim (odn o)) h):CR 86 #[.agg #[.bool (ineg o.q.num),.slice A ((lim (iabs o.q.num)).length) c,.slice D ((lim (odn o)).length) d]] w h (fun v h1=>RQ h1 v o.q):=by
 have hs:=(((sS g).aS hA).aS hD);refine go Tryz.func86 [(0,.agg #[.bool (ineg o.q.num),qS A ((lim (iabs o.q.num)).length) c,qS D ((lim (odn o)).length) d])] rfl (cSL (lA 1 56 ([.bool (ineg o.q.num),qS A ((lim (iabs o.q.num)).length) c,qS D ((lim (odn o)).length) d]) hs (fun b1 w2 h3 hs=>lA 2 56 ([qF,sZ,sZ]) hs (fun b4 w5 h6 hs=>lN (cQ (cSL (lL hs [.o 3 (.agg #[.bool (ineg o.q.num),qS A ((lim (iabs o.q.num)).length) c,qS D ((lim (odn o)).length) d]) 1 0 3] (lC 4 hs (rZero o.q.num A c (odn o) D d hc hd _ _ hs.g hs.f.2.1 hs.f.1) ?_))))))));rintro _ w7 h8 hs rfl;cases hb9:(decide (odn o=0∨o.q.num=0))
 ·
  have phb9:=oF hb9;exact lN (cIF (cK (cSL (lL hs [.o 6 (.agg #[.bool (ineg o.q.num),qS A ((lim (iabs o.q.num)).length) c,qS D ((lim (odn o)).length) d]) 1 0 3] (lP 0 0 ([.bool (ineg o.q.num),qS A ((lim (iabs o.q.num)).length) c,qS D ((lim (odn o)).length) d]) hs (fun _ hs=>lN (kX (hs.ret [(0,0,3)] (.agg #[.bool (ineg o.q.num),qS A ((lim (iabs o.q.num)).length) c,qS D ((lim (odn o)).length) d]) (by have hod:=odn_some hz (o:=o) oM;show RP _ _ o.q.num o.q.den;rw[←hod];exact ⟨A,c,D,d,rfl,hc,hd,hs.f.2.1,hs.f.1⟩)))))))))
 have phb9:=oT hb9;refine lN (cIT (cSL (lC 5 hs (rOf 0 oM oM _ _ hs.g) ?_)));rintro _ _ _ hs ⟨za,zb,zc,zd,rfl,ze,zf,zg,zi⟩;replace hs:=hs.aP zg zi;exact lP 0 0 (rqx ((0:Int):Rat) za zb zc zd) hs (fun _ hs=>lN (kX (hs.ret [(0,0,3)] (rG ((0:Int):Rat) za zb zc zd) (RQ.eq ⟨_,_,_,_,rfl,ze,zf,hs.f.2.1,hs.f.1⟩ (num_none hz oM).symm))))
theorem rAlike (o1:OSt)(A1:Option Addr)(c1:Nat)(D1:Option Addr)(d1:Nat)(hc1:(lim (iabs o1.q.num)).length≤c1)(hd1:(lim (odn o1)).length≤d1)(hz1:o1.has=false→o1.q=0)(hq1:LQ 1 o1.q)(o2:OSt)(A2:Option Addr)(c2:Nat)(D2:Option Addr)(d2:Nat)(hc2:(lim (iabs o2.q.num)).length≤c2)(hd2:(lim (odn o2)).length≤d2)(hz2:o2.has=false→o2.q=0)(hq2:LQ 1 o2.q)(hst:o1.stp=o2.stp)(w:World)(h:Hp)(g:G w h)(hA1:S3 A1 (lim (iabs o1.q.num)) h)(hD1:S3 D1 (lim (odn o1)) h)(hA2:S3 A2 (lim (iabs o2.q.num)) h)(hD2:S3 D2 (lim (odn o2)) h):CV 46 #[.agg #[iV o1.op,iV o1.a,iV o1.b,iV o1.n,.bool (ineg o1.q.num),.slice A1 ((lim (iabs o1.q.num)).length) c1,.slice D1 ((lim (odn o1)).length) d1],.agg #[iV o2.op,iV o2.a,iV o2.b,iV o2.n,.bool (ineg o2.q.num),.slice A2 ((lim (iabs o2.q.num)).length) c2,.slice D2 ((lim (odn o2)).length) d2]] w h (.bool true):=by
 have hs:=(((((sS g).aS hA1).aS hD1).aS hA2).aS hD2);refine go Tryz.func46 [(0,.agg #[iV o1.op,iV o1.a,iV o1.b,iV o1.n,.bool (ineg o1.q.num),qS A1 ((lim (iabs o1.q.num)).length) c1,qS D1 ((lim (odn o1)).length) d1]),(1,.agg #[iV o2.op,iV o2.a,iV o2.b,iV o2.n,.bool (ineg o2.q.num),qS A2 ((lim (iabs o2.q.num)).length) c2,qS D2 ((lim (odn o2)).length) d2])] rfl (cSL (lA 2 58 ([iV o1.op,iV o1.a,iV o1.b,iV o1.n,.bool (ineg o1.q.num),qS A1 ((lim (iabs o1.q.num)).length) c1,qS D1 ((lim (odn o1)).length) d1]) hs (fun b1 w2 h3 hs=>lA 3 58 ([iV o2.op,iV o2.a,iV o2.b,iV o2.n,.bool (ineg o2.q.num),qS A2 ((lim (iabs o2.q.num)).length) c2,qS D2 ((lim (odn o2)).length) d2]) hs (fun b4 w5 h6 hs=>lL hs [.v 4 qF] (lN (cQ (cR 36 [] mixed hs al_nil ?_)))))));refine eV 0 5 (pB b1) (eO 1 6 [(1,0,1)] (iV o1.op) hs (eV 2 7 (pB b4) (eO 3 8 [(0,0,1)] (iV o2.op) hs ?_)));have hb7:((o1.op:Int) == (o2.op:Int))=true:=decide_eq_true (congrArg Stp.op hst);have phb7:=eq_of_beq hb7;refine eB 4 9 hb7 (eV 5 10 qT (eV 6 11 (qP b1 1) (eO 7 12 [(1,1,1)] (iV o1.a) hs (eV 8 13 (qP b4 1) (eO 9 14 [(0,1,1)] (iV o2.a) hs ?_)))));have hb8:((o1.a:Int) == (o2.a:Int))=true:=decide_eq_true (congrArg Stp.a hst);have phb8:=eq_of_beq hb8;refine eB 10 15 hb8 (eV 11 16 qT (eV 12 17 qT (eV 13 18 (qP b1 2) (eO 14 19 [(1,2,1)] (iV o1.b) hs (eV 15 20 (qP b4 2) (eO 16 21 [(0,2,1)] (iV o2.b) hs ?_))))));have hb9:((o1.b:Int) == (o2.b:Int))=true:=decide_eq_true (congrArg Stp.b hst);have phb9:=eq_of_beq hb9;refine eB 17 22 hb9 (eV 18 23 qT (eV 19 24 qT (eV 20 25 (qP b1 3) (eO 21 26 [(1,3,1)] (iV o1.n) hs (eV 22 27 (qP b4 3) (eO 23 28 [(0,3,1)] (iV o2.n) hs ?_))))));have za:((o1.n:Int) == (o2.n:Int))=true:=decide_eq_true (congrArg Stp.n hst);have phb10:=eq_of_beq za;refine eB 24 29 za (eV 25 30 qT (eV 26 31 qT (eV 27 32 (qP b1 4) (eO 28 33 [(1,4,3)] (.agg #[.bool (ineg o1.q.num),qS A1 ((lim (iabs o1.q.num)).length) c1,qS D1 ((lim (odn o1)).length) d1]) hs (eV 30 35 (qP b4 4) (eO 31 36 [(0,4,3)] (.agg #[.bool (ineg o2.q.num),qS A2 ((lim (iabs o2.q.num)).length) c2,qS D2 ((lim (odn o2)).length) d2]) hs (eC 29 34 hs (fun _ _ hs=>rNumber o1 A1 c1 D1 d1 hc1 hd1 hz1 _ _ hs.g hs.f.r.2.1 hs.f.r.1) ?_)))))));rintro _ _ _ _ _ hs ⟨zl,zm,zn,zo,rfl,zc,zd,ze,zf⟩;replace hs:=hs.aP ze zf;refine eC 32 37 hs (fun _ _ hs=>rNumber o2 A2 c2 D2 d2 hc2 hd2 hz2 _ _ hs.g hs.f.r.2.1 hs.f.r.1) ?_;rintro _ _ _ _ _ hs ⟨zp,zq,zr,zs,rfl,zg,zi,zj,zk⟩;replace hs:=hs.aP zj zk;refine eC 33 38 hs (fun _ _ hs=>rCmp o1.q zl zm zn zo zc zd (nl hq1) (nD hq1) o2.q zp zq zr zs zg zi (nl hq2) (nD hq2) _ _ hs.g hs.f.r.2.1 hs.f.r.1 hs.f.2.1 hs.f.1) ?_;rintro _ _ _ _ _ hs rfl;have zb:((cmpR o1.q o2.q:Int) == (0:Int))=true:=decide_eq_true (by rw[show o1.q=o2.q from congrArg Stp.q hst];exact cmpR_self _);have phb33:=eq_of_beq zb;refine eB 34 39 zb (eV 35 40 qT (eD0 hs (fun _ _ hs=>tV 36 4 qT (tN (cTo [(4,qT)] ?_)))));exact kX (hs.ret [] qT rfl)
theorem rSameTape (inp:Int)(A1:Option Addr)(c1:Nat)(ts1:List RSt)(ss1:List OSt)(O1:Option Addr)(d1:Nat)(os:List Int)(A2:Option Addr)(c2:Nat)(ts2:List RSt)(ss2:List OSt)(O2:Option Addr)(d2:Nat)(hl:ss1.length≤1000000)(ho:os.length≤1000000)(hln:ss1.length=ss2.length)(hE:∀ i,i<ss1.length→(ss1.getD i ost0).stp=(ss2.getD i ost0).stp)(hQ:∀ i,i<ss1.length→LQ 1 (ss1.getD i ost0).q)(w:World)(h:Hp)(g:G w h)(hA1:SlO 7 rsc rst0 h A1 ts1)(hT1:RSs h ts1 ss1)(hO1:Si O1 os h)(hA2:SlO 7 rsc rst0 h A2 ts2)(hT2:RSs h ts2 ss2)(hO2:Si O2 os h):CV 22 #[.agg #[iV inp,.slice A1 ts1.length c1,.slice O1 os.length d1],.agg #[iV inp,.slice A2 ts2.length c2,.slice O2 os.length d2]] w h (.bool true):=by
 have hs:=(((((((sS g).aS hA1).add (K:=fun h_=>RSs h_ ts1 ss1) hT1).aS hO1).aS hA2).add (K:=fun h_=>RSs h_ ts2 ss2) hT2).aS hO2);have hl1:=(hs.f.q.1).len;have hl2:=(hs.f.2.1).len;refine go Tryz.func22 [(0,.agg #[iV inp,qS A1 ts1.length c1,qS O1 os.length d1]),(1,.agg #[iV inp,qS A2 ts2.length c2,qS O2 os.length d2])] rfl (cSL (lA 2 25 ([iV inp,qS A1 ts1.length c1,qS O1 os.length d1]) hs (fun b1 w2 h3 hs=>lA 3 25 ([iV inp,qS A2 ts2.length c2,qS O2 os.length d2]) hs (fun b4 w5 h6 hs=>lL hs [.v 4 qF] (lN (cQ (cSL (lL hs [.v 7 (pB b1),.o 8 (iV inp) 1 0 1,.v 9 (pB b4),.o 10 (iV inp) 0 0 1] ?_))))))));have hb7:((inp:Int) != (inp:Int))=false:=bneF rfl;have phb7:=eqOfBne hb7;refine lB 11 hb7 (lL hs [.m 12 11,.v 13 (qP b1 1),.o 14 (qS A1 ts1.length c1) 1 1 1,.v 15 (nV ts1.length),.v 16 (qP b4 1),.o 17 (qS A2 ts2.length c2) 0 1 1,.v 18 (nV ts2.length)] ?_);have hb8:((ts1.length:Int) != (ts2.length:Int))=false:=bneF oM;have phb8:=eqOfBne hb8;refine lB 19 hb8 (lL hs [.v 20 qF,.m 21 20,.v 22 (qP b1 2),.o 23 (qS O1 os.length d1) 1 2 1,.v 24 (nV os.length),.v 25 (qP b4 2),.o 26 (qS O2 os.length d2) 0 2 1,.v 27 (nV os.length)] ?_);have hb9:((os.length:Int) != (os.length:Int))=false:=bneF rfl;have phb9:=eqOfBne hb9;refine lB 28 hb9 (lL hs [.v 29 qF] (lN (cIF (cK (cQ (cSL (lL hs [.v 5 (iV 0)] (lN (kZ ?_)))))))));refine cTo _ (CG.loop (fun μ_ Γ w_=>∃ (k:Nat) (h_:Hp),μ_=os.length-k∧Γ=[(2,pB b1),(3,pB b4),(5,nV k)]∧SS w h w_ h_ [⟨b4,25,[iV inp,qS A2 ts2.length c2,qS O2 os.length d2]⟩,⟨b1,25,[iV inp,qS A1 ts1.length c1,qS O1 os.length d1]⟩] [] [Si O2 os,fun h_=>RSs h_ ts2 ss2,fun h_=>SlO 7 rsc rst0 h_ A2 ts2,Si O1 os,fun h_=>RSs h_ ts1 ss1,fun h_=>SlO 7 rsc rst0 h_ A1 ts1]∧k≤os.length) _ ⟨0,h6,rfl,rfl,hs.to _ _,Nat.zero_le _⟩ ?_);rintro _ _ _ ⟨k,zf,hm12,rfl,hs,hk⟩;refine cQ (cSL (lL hs [.m 30 5,.v 31 (qP b1 2),.o 32 (qS O1 os.length d1) 1 2 1,.v 33 (nV os.length)] ?_));cases za:(decide ((k:Int)<(os.length:Int)))
 ·
  have zd:=oF za;refine lB 34 za (lN (cIF (CG.exit ?_)))
  show CG _ _ _ _ _ _ _ _
  refine cQ (cSL (lL hs [.v 6 (iV 0)] (lN (kZ ?_))));refine cTo _ (CG.loop (fun μ_ Γ w_=>∃ (k:Nat) (h_:Hp),μ_=ss1.length-k∧Γ=[(2,pB b1),(3,pB b4),(6,nV k)]∧SS w h w_ h_ [⟨b4,25,[iV inp,qS A2 ts2.length c2,qS O2 os.length d2]⟩,⟨b1,25,[iV inp,qS A1 ts1.length c1,qS O1 os.length d1]⟩] [] [Si O2 os,fun h_=>RSs h_ ts2 ss2,fun h_=>SlO 7 rsc rst0 h_ A2 ts2,Si O1 os,fun h_=>RSs h_ ts1 ss1,fun h_=>SlO 7 rsc rst0 h_ A1 ts1]∧k≤ss1.length) _ ⟨0,zf,rfl,rfl,hs.to _ _,Nat.zero_le _⟩ ?_);rintro _ _ _ ⟨k,_,hm16,rfl,hs,hk⟩;refine cQ (cSL (lL hs [.m 48 6,.v 49 (qP b1 1),.o 50 (qS A1 ts1.length c1) 1 1 1,.v 51 (nV ts1.length)] ?_));cases zb:(decide ((k:Int)<(ts1.length:Int)))
  ·
   have ze:=oF zb;refine lB 52 zb (lN (cIF (CG.exit ?_)))
   show CG _ _ _ _ _ _ _ _
   exact cSL (lL hs [.v 4 qT] (lN (kX (hs.ret [] qT rfl))))
  have ze:=oT zb;refine lB 52 zb (lN (cIT (cK (cQ (kZ (cQ (cR 12 [] mixed hs al_nil ?_)))))));refine eV 0 55 (qP b1 1) (eO 1 56 [(1,1,1)] (qS A1 ts1.length c1) hs (eV 2 57 (nV k) (eX 3 58 A1 ts1.length c1 7 (k:Nat) k ((hs.f.q.2.1).ok oM) ?_)));obtain ⟨Aqx,cqx,Dqx,dqx,eqx,hcqx,hdqx,hAqx,hDqx⟩:=((hs.f.q.1).at_ k oM).opn;replace hs:=hs.aP hAqx hDqx;refine eHe 4 59 (.agg #[iV ((ts1.getD k rst0).op),iV ((ts1.getD k rst0).a),iV ((ts1.getD k rst0).b),iV ((ts1.getD k rst0).n),.bool ((ts1.getD k rst0).t.1),(ts1.getD k rst0).t.2.1,(ts1.getD k rst0).t.2.2]) hs ((hs.f.q.r.2.1).el k oM) eqx (eV 5 60 (qP b4 1) (eO 6 61 [(0,1,1)] (qS A2 ts2.length c2) hs (eV 7 62 (nV k) (eX 8 63 A2 ts2.length c2 7 (k:Nat) k ((hs.f.q.1).ok oM) ?_))));obtain ⟨Aqy,cqy,Dqy,dqy,eqy,hcqy,hdqy,hAqy,hDqy⟩:=((hs.f.r.2.1).at_ k oM).opn;replace hs:=hs.aP hAqy hDqy;refine eHe 9 64 (.agg #[iV ((ts2.getD k rst0).op),iV ((ts2.getD k rst0).a),iV ((ts2.getD k rst0).b),iV ((ts2.getD k rst0).n),.bool ((ts2.getD k rst0).t.1),(ts2.getD k rst0).t.2.1,(ts2.getD k rst0).t.2.2]) hs ((hs.f.q.r.1).el k oM) eqy (eC 10 65 hs (fun _ _ hs=>rAlike (ss1.getD k ost0) Aqx cqx Dqx dqx hcqx hdqx ((hs.f.q.q.1).at_ k oM).z (hQ k oM) (ss2.getD k ost0) Aqy cqy Dqy dqy hcqy hdqy ((hs.f.q.2.1).at_ k oM).z (by have:=hQ k oM;rw[show (ss1.getD k ost0).q=(ss2.getD k ost0).q from congrArg Stp.q (hE k oM)] at this;exact this) (hE k oM) _ _ hs.g hs.f.r.2.1 hs.f.r.1 hs.f.2.1 hs.f.1) ?_);rintro _ _ _ _ _ hs rfl;refine eV 11 66 qF (eD0 hs (fun _ zg hs=>tN (cIF (cK (kQ (lL hs [.m 53 6] (lIn 54 ((k:Nat)+1) (k+1) ?_)))))));refine lL hs [.m 6 54] (lD ?_);intro a_ ka;replace hs:=hs.tl.tl.tl.tl;refine ⟨_,_,?_,⟨k+1,zg,rfl,rfl,hs.to _ _,oM⟩,ka.to _ kR⟩
  omega
 have zd:=oT za;refine lB 34 za (lN (cIT (cK (cQ (kZ (cQ (cR 11 [] mixed hs al_nil ?_)))))));refine eV 0 37 (qP b1 2) (eO 1 38 [(1,2,1)] (qS O1 os.length d1) hs (eV 2 39 (nV k) (eX 3 40 O1 os.length d1 1 (k:Nat) k ((hs.f.r.2.1).ok oM) (eH 4 41 (iV (os.getD k 0)) hs ((hs.f.r.2.1).el k oM) (eV 5 42 (qP b4 2) (eO 6 43 [(0,2,1)] (qS O2 os.length d2) hs (eV 7 44 (nV k) (eX 8 45 O2 os.length d2 1 (k:Nat) k ((hs.f.1).ok oM) (eH 9 46 (iV (os.getD k 0)) hs ((hs.f.1).el k oM) ?_)))))))));have zc:((os.getD k 0:Int) != (os.getD k 0:Int))=false:=bneF rfl;have phb23:=eqOfBne zc;refine eB 10 47 zc (eD0 hs (fun _ zi hs=>tN (cIF (cK (kQ (lL hs [.m 35 5] (lIn 36 ((k:Nat)+1) (k+1) ?_)))))));refine lL hs [.m 5 36] (lD ?_);intro a_ ka;refine ⟨_,_,?_,⟨k+1,zi,rfl,rfl,hs.to _ _,oM⟩,ka.to _ kR⟩
 omega
def toT (s:Stp):OSt:=⟨s.op,s.a,s.b,s.n,s.q,true⟩
theorem toT_at {l:List Stp}{i:Nat}(h:i<l.length):(l.map toT).getD i ost0=toT (l.getD i stp0):=by simp[h]
theorem toT_E2 {l:List Stp}{ss:List OSt}(hln:l.length=ss.length)(hE:∀ i,i<l.length→l.getD i stp0=(ss.getD i ost0).stp):∀ i,i<(l.map toT).length→((l.map toT).getD i ost0).stp=(ss.getD i ost0).stp:=fun i hi=>by
  rw[List.length_map] at hi
  rw[toT_at hi,←hE i hi];rfl
theorem toT_Q {l:List Stp}(h:∀ i,i<l.length→LQ 1 (l.getD i stp0).q):∀ i,i<(l.map toT).length→LQ 1 ((l.map toT).getD i ost0).q:=fun i hi=>by
  rw[List.length_map] at hi
  rw[toT_at hi];exact h i hi
theorem mSameTapeO (inp:Int)(A:Option Addr)(c:Nat)(l:List Stp)(O:Option Addr)(d:Nat)(os:List Int)(A2:Option Addr)(c2:Nat)(ts2:List RSt)(ss2:List OSt)(O2:Option Addr)(d2:Nat)(hl:l.length≤1000000)(ho:os.length≤1000000)(hQ:∀ i,i<l.length→LQ 1 (l.getD i stp0).q)(hln:l.length=ss2.length)(hE:∀ i,i<l.length→l.getD i stp0=(ss2.getD i ost0).stp)(w:World)(h:Hp)(g:G w h)(hA:SlO 9 stc stp0 h A l)(hO:Si O os h)(hA2:SlO 7 rsc rst0 h A2 ts2)(hT2:RSs h ts2 ss2)(hO2:Si O2 os h):CV 8 #[.agg #[iV inp,.slice A ((l).length) c,.slice O ((os).length) d],.agg #[iV inp,.slice A2 ts2.length c2,.slice O2 os.length d2]] w h (.bool true):=by
 have hs:=((((((sS g).aS hA).aS hO).aS hA2).add (K:=fun h_=>RSs h_ ts2 ss2) hT2).aS hO2);have hl2:=(hs.f.2.1).len;refine go Tryz.func8 [(0,.agg #[iV inp,qS A ((l).length) c,qS O ((os).length) d]),(1,.agg #[iV inp,qS A2 ts2.length c2,qS O2 os.length d2])] rfl (cSL (lA 2 29 ([iV inp,qS A ((l).length) c,qS O ((os).length) d]) hs (fun b1 w2 h3 hs=>lA 3 25 ([iV inp,qS A2 ts2.length c2,qS O2 os.length d2]) hs (fun b4 w5 h6 hs=>lL hs [.v 4 qF] (lNS (lL hs [.v 8 (pB b1),.o 9 (iV inp) 1 0 1,.v 10 (qP b1 2),.o 11 (qS O ((os).length) d) 1 2 1,.v 12 (.agg #[iV inp,sZ,qS O ((os).length) d])] (lA 5 25 ([iV 0,sZ,sZ]) hs (fun b7 w8 h9 hs=>lP 0 0 ([iV inp,sZ,qS O ((os).length) d]) hs (fun _ hs=>lN (cQ (cSL (lL hs [.v 6 (iV 0)] (lN (kZ ?_))))))))))))));replace hs:=hs.nil 58 7;refine cTo [(2,pB b1),(3,pB b4),(4,qF),(5,pB b7),(6,iV 0)] ?_;replace hs:=hs.add (K:=fun h_=>RSs h_ ([]) ((l.take 0).map toT)) (RSs.nil);refine CG.loop (fun μ_ Γ w_=>∃ (k:Nat) (saA:Option Addr) (sac:Nat) (al:List RSt) (h_:Hp),μ_=l.length-k∧Γ=[(2,pB b1),(3,pB b4),(4,qF),(5,pB b7),(6,nV k)]∧SS w h w_ h_ [⟨b7,25,[iV inp,qS saA ((al).length) sac,qS O ((os).length) d]⟩,⟨b4,25,[iV inp,qS A2 ts2.length c2,qS O2 os.length d2]⟩,⟨b1,29,[iV inp,qS A ((l).length) c,qS O ((os).length) d]⟩] [⟨58,7,saA,sac,(al).length,(al).flatMap rsc⟩] [fun h_=>RSs h_ al ((l.take k).map toT),Si O2 os,fun h_=>RSs h_ ts2 ss2,fun h_=>SlO 7 rsc rst0 h_ A2 ts2,Si O os,fun h_=>SlO 9 stc stp0 h_ A l]∧k≤l.length) _ ⟨0,none,0,[],h9,rfl,rfl,hs.to _ _,Nat.zero_le _⟩ ?_;rintro _ _ _ ⟨k,saA,sac,al,_,hm13,rfl,hs,hk⟩;have hlT:=(hs.f.1).len;rw[List.length_map,List.length_take] at hlT
 refine cQ (cSL (lL hs [.m 13 6,.v 14 (qP b1 1),.o 15 (qS A ((l).length) c) 2 1 1,.v 16 (nV ((l).length))] ?_));cases ze:(decide ((k:Int)<(((l).length:Nat):Int)))
 ·
  have zg:=oF ze;refine lB 17 ze (lN (cIF (CG.exit ?_)))
  show CG _ _ _ _ _ _ _ _
  refine cSL ?_;have hkl:k=l.length:=by omega
  obtain ⟨_,hs,hc16⟩:=hs.pubr 0 (A:=saA) (c:=sac) (l:=al) (f:=rsc) (ty:=58) (sz:=7) rst0 (fun _=>rfl);refine lL hs [.o 42 (.agg #[iV inp,qS saA ((al).length) sac,qS O ((os).length) d]) 0 0 3,.o 43 (.agg #[iV inp,qS A2 ts2.length c2,qS O2 os.length d2]) 1 0 3] (lC 44 hs (rSameTape inp saA sac al (l.map toT) O d os A2 c2 ts2 ss2 O2 d2 (by rw[List.length_map];exact hl) ho (by rw[List.length_map];exact hln) (toT_E2 hln hE) (toT_Q hQ) _ _ hs.g hs.f.1 (by have x_:=(hs.f.2.1);rw[hkl,List.take_length] at x_;exact x_) hs.f.q.2.1 hs.f.q.1 hs.f.r.2.1 hs.f.r.1) ?_);rintro _ _ _ hs rfl;exact lL hs [.m 4 44] (lN (kX (hs.ret [] qT rfl)))
 have zg:=oT ze;refine lB 17 ze (lN (cIT (cK (cQ (kZ (cSL (lL hs [.v 20 (qP b1 1),.o 21 (qS A ((l).length) c) 2 1 1,.m 22 6] (lX 23 A ((l).length) c 9 (k:Nat) k ((hs.f.q.2.1).ok oM) ?_))))))));refine lH 24 (.agg #[iV ((l.getD k stp0).op),iV ((l.getD k stp0).a),iV ((l.getD k stp0).b),iV ((l.getD k stp0).n),.bool (ineg ((l.getD k stp0).q).num),uV (lo (iabs ((l.getD k stp0).q).num)),.string (hi (iabs ((l.getD k stp0).q).num)),uV (lo (qd ((l.getD k stp0).q))),.string (hi (qd ((l.getD k stp0).q)))]) hs ((hs.f.q.2.1).el k oM) (lA 7 43 ([iV 0,iV 0,iV 0,iV 0,qF,uV 0,eS,uV 0,eS]) hs (fun zf _ _ hs=>lP 0 0 ([iV ((l.getD k stp0).op),iV ((l.getD k stp0).a),iV ((l.getD k stp0).b),iV ((l.getD k stp0).n),.bool (ineg ((l.getD k stp0).q).num),uV (lo (iabs ((l.getD k stp0).q).num)),.string (hi (iabs ((l.getD k stp0).q).num)),uV (lo (qd ((l.getD k stp0).q))),.string (hi (qd ((l.getD k stp0).q)))]) hs (fun _ hs=>lN (CG.region ⟨((Value.slice saA ((al).length) sac).ownBlock.toList),none⟩ 16 [] mixed kR hs.g al_nil (hs.ro_lt 0 (ty:=58) (sz:=7) (A:=saA) (c:=sac) (m:=(al).length) (cs:=(al).flatMap rsc)) ?_))));refine eV 0 25 (qP b7 1) (eO 1 26 [(1,1,1)] (qS saA ((al).length) sac) hs ?_ (hM:=fun p hp=>by obtain rfl:=List.mem_singleton.1 hp;exact hs.ro_ne 1 0 (ty:=58) (sz:=7) (A:=saA) (c:=sac) (m:=(al).length) (cs:=(al).flatMap rsc)));refine eV 2 27 (pB zf) (eO 3 28 [(0,0,1)] (iV ((l.getD k stp0).op)) hs ?_ (hM:=fun p hp=>by obtain rfl:=List.mem_singleton.1 hp;exact hs.ro_ne 0 0 (ty:=58) (sz:=7) (A:=saA) (c:=sac) (m:=(al).length) (cs:=(al).flatMap rsc)));refine eV 4 29 (qP zf 1) (eO 5 30 [(0,1,1)] (iV ((l.getD k stp0).a)) hs ?_ (hM:=fun p hp=>by obtain rfl:=List.mem_singleton.1 hp;exact hs.ro_ne 0 0 (ty:=58) (sz:=7) (A:=saA) (c:=sac) (m:=(al).length) (cs:=(al).flatMap rsc)));refine eV 6 31 (qP zf 2) (eO 7 32 [(0,2,1)] (iV ((l.getD k stp0).b)) hs ?_ (hM:=fun p hp=>by obtain rfl:=List.mem_singleton.1 hp;exact hs.ro_ne 0 0 (ty:=58) (sz:=7) (A:=saA) (c:=sac) (m:=(al).length) (cs:=(al).flatMap rsc)));refine eV 8 33 (qP zf 3) (eO 9 34 [(0,3,1)] (iV ((l.getD k stp0).n)) hs ?_ (hM:=fun p hp=>by obtain rfl:=List.mem_singleton.1 hp;exact hs.ro_ne 0 0 (ty:=58) (sz:=7) (A:=saA) (c:=sac) (m:=(al).length) (cs:=(al).flatMap rsc)));refine eV 10 35 (qP zf 4) (eO 11 36 [(0,4,5)] (qv ((l.getD k stp0).q)) hs ?_ (hM:=fun p hp=>by obtain rfl:=List.mem_singleton.1 hp;exact hs.ro_ne 0 0 (ty:=58) (sz:=7) (A:=saA) (c:=sac) (m:=(al).length) (cs:=(al).flatMap rsc)));refine eC 12 37 hs (fun _ _ hs=>hOut (l.getD k stp0).q ((hQ k oM).mono oM) _ _ hs.g) ?_;rintro _ _ _ _ _ hs ⟨za,zb,zc,zd,rfl,zk,zl,zm,zn⟩;replace hs:=hs.aP zm zn;refine eV 13 38 (.agg #[iV ((l.getD k stp0).op),iV ((l.getD k stp0).a),iV ((l.getD k stp0).b),iV ((l.getD k stp0).n),.bool (ineg ((l.getD k stp0).q).num),qS za ((lim (iabs ((l.getD k stp0).q).num)).length) zb,qS zc ((lim ((l.getD k stp0).q).den).length) zd]) (eR 14 39 58 1 ([iV ((l.getD k stp0).op),iV ((l.getD k stp0).a),iV ((l.getD k stp0).b),iV ((l.getD k stp0).n),.bool (ineg ((l.getD k stp0).q).num),qS za ((lim (iabs ((l.getD k stp0).q).num)).length) zb,qS zc ((lim ((l.getD k stp0).q).den).length) zd]) hs (fun zo _ _ hs=>eY 15 40 0 58 7 sac saA al rsc (⟨(l.getD k stp0).op,(l.getD k stp0).a,(l.getD k stp0).b,(l.getD k stp0).n,(ineg ((l.getD k stp0).q).num,qS za ((lim (iabs ((l.getD k stp0).q).num)).length) zb,qS zc ((lim ((l.getD k stp0).q).den).length) zd)⟩:RSt) 88 zo (.agg #[iV 0,iV 0,iV 0,iV 0,qF,sZ,sZ]) hs (fun _ f_=>f_.1) (fun b hb=>Option.mem_toList.2 hb) (fun zi zj _ _ hs=>eD0 hs (fun _ zp hs=>tV 16 41 (qP b7 1) (tP 17 1 1 ([qS zi ((al++[(⟨(l.getD k stp0).op,(l.getD k stp0).a,(l.getD k stp0).b,(l.getD k stp0).n,(ineg ((l.getD k stp0).q).num,qS za ((lim (iabs ((l.getD k stp0).q).num)).length) zb,qS zc ((lim ((l.getD k stp0).q).den).length) zd)⟩:RSt)]).length) zj]) hs (fun _ hs=>tN (kQ (lL hs [.m 18 6] (lIn 19 ((k:Nat)+1) (k+1) ?_)))))))));refine lL hs [.m 6 19] (lD ?_);intro a_ ka;replace hs:=(hs.tl.tl.tl.tl.add (K:=fun h_=>RSs h_ (al++[(⟨(l.getD k stp0).op,(l.getD k stp0).a,(l.getD k stp0).b,(l.getD k stp0).n,(ineg ((l.getD k stp0).q).num,qS za ((lim (iabs ((l.getD k stp0).q).num)).length) zb,qS zc ((lim ((l.getD k stp0).q).den).length) zd)⟩:RSt)]) ((l.take (k+1)).map toT)) (by rw[take_snoc' stp0 oM,List.map_append];exact (hs.f.r.2.1).snoc ⟨rfl,rfl,rfl,rfl,⟨_,_,_,_,rfl,zk,zl,hs.f.r.1,hs.f.2.1⟩,fun h_=>(by cases h_)⟩));replace hs:=hs.drop 1 0;refine ⟨_,_,?_,⟨k+1,zi,zj,al++[(⟨(l.getD k stp0).op,(l.getD k stp0).a,(l.getD k stp0).b,(l.getD k stp0).n,(ineg ((l.getD k stp0).q).num,qS za ((lim (iabs ((l.getD k stp0).q).num)).length) zb,qS zc ((lim ((l.getD k stp0).q).den).length) zd)⟩:RSt)],zp,rfl,rfl,hs.to _ _,oM⟩,ka.to _ kR⟩
 omega
def S9 (o:OSt):Prop:=iabs o.q.num<100∧o.q.den<100
def R9 (ss:List OSt):Prop:=∀ i,i<ss.length→S9 (ss.getD i ost0)
theorem R9.snoc {ss:List OSt}{o:OSt}(h:R9 ss)(ho:S9 o):R9 (ss++[o]):=fun i hi=>by
  rw[List.length_append,List.length_singleton] at hi
  rw[getD_snoc]
  by_cases e:i<ss.length
  · rw[if_pos e];exact h i e
  · rw[if_neg e,if_pos oM];exact ho
theorem s9_zero (op a b n:Int)(t:Bool):S9 (⟨op,a,b,n,0,t⟩:OSt):=by
  show iabs (0:Rat).num<100∧(0:Rat).den<100
  decide
theorem s9_mkR {n d:Int}(hd:d≠0)(h0:iabs n<100)(h1:iabs d<100):iabs (mkR n d).num<100∧(mkR n d).den<100:=by
  unfold Go.Proofs.YtceljehlpaclmaaGreatDoor.mkR
  have hp:0<iabs d:=by unfold iabs;omega
  obtain ⟨p1,p2,p3,p4⟩:=mkRat_parts (if d<0 then -n else n) (iabs d) hp;refine ⟨?_,?_⟩
  · rw[p1];refine Nat.lt_of_le_of_lt (iabs_div_le _ _ p3) ?_
    unfold iabs at *;split<;>omega
  · rw[p2];exact Nat.lt_of_le_of_lt (Nat.div_le_self _ _) h1
theorem dDen_le9 (k:Nat)(hk:k<6):0<dDen k∧dDen k≤4:=by
  have:k=0∨k=1∨k=2∨k=3∨k=4∨k=5:=by omega
  rcases this with rfl|rfl|rfl|rfl|rfl|rfl<;>decide
theorem s9_hand (op a b n:Int)(t:Bool)(z:Int):S9 (⟨op,a,b,n,handRq z,t⟩:OSt):=by
  have h1:=pick_lt z 41 oM;have h2:=dDen_le9 (pick (z.tdiv 41) 6) (pick_lt _ 6 oM)
  unfold S9 handRq
  exact s9_mkR oM (by unfold iabs;omega) (by unfold iabs;omega)
theorem outs_snoc {ol:List Int}{n:Int}{x:Int}(h:∀ i,i<ol.length→0≤ol.getD i 0∧ol.getD i 0<n)(hx:0≤x∧x<n):∀ i,i<(ol++[x]).length→0≤(ol++[x]).getD i 0∧(ol++[x]).getD i 0<n:=fun i hi=>by
  rw[List.length_append,List.length_singleton] at hi
  rw[getD_snoc]
  by_cases e:i<ol.length
  · rw[if_pos e];exact h i e
  · rw[if_neg e,if_pos oM];exact hx
theorem mTape (A0:Option Addr)(c0:Nat)(zs:List Int)(hl0:zs.length≤9223372036854775807)(hz0:I64s zs)(most:Nat)(hmost:most≤20)(w:World)(h:Hp)(g:G w h)(hA0:Si A0 zs h):CR 4 #[.slice A0 zs.length c0,nV most] w h (fun v h1=>∃ A c O d,∃ ts:List RSt,∃ ss:List OSt,∃ os:List Int,v=.agg #[iV 3,.slice A ts.length c,.slice O os.length d]∧ts.length≤c∧os.length≤d∧SlO 7 rsc rst0 h1 A ts∧RSs h1 ts ss∧Si O os h1∧OSms ss∧ss.length≤most∧os.length≤2∧(∀ i,i<os.length→0≤os.getD i 0∧os.getD i 0<ss.length)∧(ss=[]→A=none∧c=0∧O=none∧d=0∧os=[])∧(ss≠[]→os≠[])∧PwS ss∧R9 ss):=by
 have hs:=((sS g).aS hA0);refine go Tryz.func4 [(0,qS A0 zs.length c0),(1,nV most)] rfl (cSL (lA 4 25 ([iV 0,sZ,sZ]) hs (fun b1 w2 h3 hs=>lNS (lL hs [.m 11 0,.v 12 (.agg #[qS A0 zs.length c0,iV 0])] (lA 13 48 ([qS A0 zs.length c0,iV 0]) hs (fun b4 w5 h6 hs=>lL hs [.m 5 13] (lNS (lL hs [.v 14 (.agg #[iV 3,sZ,sZ])] (lA 6 25 ([iV 0,sZ,sZ]) hs (fun b7 w8 h9 hs=>lP 0 0 ([iV 3,sZ,sZ]) hs (fun _ hs=>lNS (lL hs [.m 15 5] (lCm 16 (rNext A0 c0 zs hl0 hz0 b4 0 oM _ _ hs.g (hs.own 1) (hs.jk 1) hs.f.1) ?_)))))))))))));rintro _ _ _ u14 ⟨z11,at_z11,rfl,haz11,hzz11,hOz11⟩;replace hs:=(hs.stepM 1 u14 hOz11).to [⟨b7,25,[iV 3,sZ,sZ]⟩,⟨b4,48,[qS A0 zs.length c0,nV at_z11]⟩,⟨b1,25,[iV 0,sZ,sZ]⟩] [];refine lL hs [.m 17 1] (lIn 18 ((most:Nat)+1) (most+1) ?_);refine lC 19 hs (hPick (z11) (most+1) oM oM _ _ hs.g) ?_;rintro _ _ yE hs rfl;have lp1:=pick_lt (z11) (most+1) oM;refine lL hs [.m 7 19] (lN (cQ (cSL (lL hs [.v 8 (iV 0)] (lN (kZ ?_))))));replace hs:=hs.nil 58 7;refine cTo [(4,pB b1),(5,pB b4),(6,pB b7),(7,nV (pick (z11) (most+1))),(8,iV 0)] ?_;replace hs:=hs.add (K:=fun h_=>RSs h_ ([]) ([])) (RSs.nil);refine CG.loop (fun μ_ Γ w_=>∃ (k:Nat) (saA:Option Addr) (sac:Nat) (al:List RSt) (ss:List OSt) (at1:Nat) (h_:Hp),μ_=(pick (z11) (most+1))-k∧Γ=[(4,pB b1),(5,pB b4),(6,pB b7),(7,nV (pick (z11) (most+1))),(8,nV k)]∧SS w h w_ h_ [⟨b7,25,[iV 3,qS saA ((al).length) sac,sZ]⟩,⟨b4,48,[qS A0 zs.length c0,nV at1]⟩,⟨b1,25,[iV 0,sZ,sZ]⟩] [⟨58,7,saA,sac,(al).length,(al).flatMap rsc⟩] [fun h_=>RSs h_ al ss,Si A0 zs]∧k≤(pick (z11) (most+1))∧at1≤zs.length∧ss.length=k∧(k=0→saA=none∧sac=0)∧OSms ss∧PwS ss∧R9 ss) _ ⟨0,none,0,[],[],at_z11,yE,rfl,rfl,hs.to _ _,Nat.zero_le _,haz11,rfl,fun _=>⟨rfl,rfl⟩,fun i hi=>by simp at hi,fun i hi=>by simp at hi,fun i hi=>by simp at hi⟩ ?_;rintro _ _ _ ⟨k,saA,sac,al,ss,at1,yF,hm19,rfl,hs,hk,hat1,hsl,hA1,hSm,hPw,hR9⟩;have hlT:=(hs.f.1).len;refine cQ (cSL (lL hs [.m 20 8,.m 21 7] ?_));cases zj:(decide ((k:Int)<((pick (z11) (most+1):Nat):Int)))
 ·
  have zM:=oF zj;refine lB 22 zj (lN (cIF (CG.exit ?_)))
  show CG _ _ _ _ _ _ _ _
  refine cQ (cSL (lL hs [.v 10 (iV 0)] (lN (kZ ?_))));replace hs:=hs.nil 3 1;refine cTo [(4,pB b1),(5,pB b4),(6,pB b7),(7,nV (pick (z11) (most+1))),(10,iV 0)] ?_;refine CG.loop (fun μ_ Γ w_=>∃ (m:Nat) (soA:Option Addr) (soc:Nat) (ol:List Int) (at2:Nat) (h_:Hp),μ_=2-m∧Γ=[(4,pB b1),(5,pB b4),(6,pB b7),(7,nV (pick (z11) (most+1))),(10,nV m)]∧SS w h w_ h_ [⟨b7,25,[iV 3,qS saA ((al).length) sac,qS soA ((ol).length) soc]⟩,⟨b4,48,[qS A0 zs.length c0,nV at2]⟩,⟨b1,25,[iV 0,sZ,sZ]⟩] [⟨3,1,soA,soc,(ol).length,(ol).flatMap i64c⟩,⟨58,7,saA,sac,(al).length,(al).flatMap rsc⟩] [fun h_=>RSs h_ al ss,Si A0 zs]∧m≤2∧at2≤zs.length∧ol.length=m∧(m=0→soA=none∧soc=0)∧(∀ i,i<ol.length→0≤ol.getD i 0∧ol.getD i 0<(pick (z11) (most+1)))∧(0<m→0<(pick (z11) (most+1)))) _ ⟨0,none,0,[],at1,yF,rfl,rfl,hs.to _ _,Nat.zero_le _,hat1,rfl,fun _=>⟨rfl,rfl⟩,fun i hi=>by simp at hi,fun h_=>absurd h_ (Nat.lt_irrefl 0)⟩ ?_;rintro _ _ _ ⟨m,soA,soc,ol,at2,_,hm23,rfl,hs,hm,hat2,hol,hO1,hob,hm0⟩;refine cQ (cSL (lL hs [.m 93 10] ?_));cases zk:(decide ((m:Int)<(2:Int)))
  ·
   have zN:=oF zk;refine lB 94 zk (lL hs [.m 95 94] (lG 96 ?_));refine lG 97 (lL hs [.v 98 qF] (lN (cIF (CG.exit ?_))))
   show CG _ _ _ _ _ _ _ _
   refine cSL ?_;obtain ⟨_,hs,yf⟩:=hs.pubr 1 (A:=saA) (c:=sac) (l:=al) (f:=rsc) (ty:=58) (sz:=7) rst0 (fun _=>rfl);obtain ⟨_,hs,yg⟩:=hs.pubr 0 (A:=soA) (c:=soc) (l:=ol) (f:=i64c) (ty:=3) (sz:=1) 0 (fun _=>rfl);exact lL hs [.o 113 (.agg #[iV 3,qS saA ((al).length) sac,qS soA ((ol).length) soc]) 0 0 3] (lP 2 0 ([iV 3,qS saA ((al).length) sac,qS soA ((ol).length) soc]) hs (fun _ hs=>lN (kX (hs.ret [(2,0,3)] (.agg #[iV 3,qS saA ((al).length) sac,qS soA ((ol).length) soc]) (⟨_,_,_,_,al,ss,ol,rfl,yf,yg,hs.f.2.1,hs.f.r.1,hs.f.1,hSm,by omega,by omega,fun i hi=>by have:=hob i hi;omega,fun h_=>by subst h_;have hk0:k=0:=hsl.symm;exact ⟨(hA1 hk0).1,(hA1 hk0).2,(hO1 oM).1,(hO1 oM).2,List.eq_nil_of_length_eq_zero oM⟩,fun h_ h2_=>by subst h2_;apply h_;apply List.eq_nil_of_length_eq_zero;have hm00:m=0:=hol.symm;omega,hPw,hR9⟩)))))
  have zN:=oT zk;refine lB 94 zk (lL hs [.m 95 94,.m 96 7] ?_);cases zl:(decide ((0:Int)<((pick (z11) (most+1):Nat):Int)))
  ·
   have zP:=oF zl;refine lB 97 zl (lL hs [.v 98 qF] (lN (cIF (CG.exit ?_))))
   show CG _ _ _ _ _ _ _ _
   refine cSL ?_;obtain ⟨_,hs,yi⟩:=hs.pubr 1 (A:=saA) (c:=sac) (l:=al) (f:=rsc) (ty:=58) (sz:=7) rst0 (fun _=>rfl);obtain ⟨_,hs,yj⟩:=hs.pubr 0 (A:=soA) (c:=soc) (l:=ol) (f:=i64c) (ty:=3) (sz:=1) 0 (fun _=>rfl);exact lL hs [.o 113 (.agg #[iV 3,qS saA ((al).length) sac,qS soA ((ol).length) soc]) 0 0 3] (lP 2 0 ([iV 3,qS saA ((al).length) sac,qS soA ((ol).length) soc]) hs (fun _ hs=>lN (kX (hs.ret [(2,0,3)] (.agg #[iV 3,qS saA ((al).length) sac,qS soA ((ol).length) soc]) (⟨_,_,_,_,al,ss,ol,rfl,yi,yj,hs.f.2.1,hs.f.r.1,hs.f.1,hSm,by omega,by omega,fun i hi=>by have:=hob i hi;omega,fun h_=>by subst h_;have hk0:k=0:=hsl.symm;exact ⟨(hA1 hk0).1,(hA1 hk0).2,(hO1 oM).1,(hO1 oM).2,List.eq_nil_of_length_eq_zero oM⟩,fun h_ h2_=>by subst h2_;apply h_;apply List.eq_nil_of_length_eq_zero;have hm00:m=0:=hol.symm;omega,hPw,hR9⟩)))))
  have zP:=oT zl;refine lB 97 zl (lL hs [.v 98 qT] (lN (cIT (cK (cQ (kZ (CG.region ⟨(b4::(Value.slice soA ((ol).length) soc).ownBlock.toList),none⟩ 11 [] mixed kR hs.g al_nil (hs.rb_lt 1 0 (rb:=b4) (ty:=3) (sz:=1) (A:=soA) (c:=soc) (m:=(ol).length) (cs:=(ol).flatMap i64c)) ?_)))))));refine eV 0 101 (qP b7 2) (eO 1 102 [(0,2,1)] (qS soA ((ol).length) soc) hs ?_ (hM:=fun p hp=>by obtain rfl:=List.mem_singleton.1 hp;exact hs.rb_ne 0 1 0 (rb:=b4) (ty:=3) (sz:=1) (A:=soA) (c:=soc) (m:=(ol).length) (cs:=(ol).flatMap i64c)));refine eV 2 103 (nV (pick (z11) (most+1))) (eI 3 104 ((pick (z11) (most+1):Nat)-1) (eV 4 105 (pB b4) (eV 6 107 (nV (pick (z11) (most+1))) (eCm 5 106 hs (List.mem_cons_self) (fun _ _ hs=>rNext A0 c0 zs hl0 hz0 b4 at2 oM _ _ hs.g (hs.own 1) (hs.jk 1) hs.f.2.1) ?_))));rintro _ _ _ _ _ hs u43 ⟨z40,at_z40,rfl,haz40,hzz40,hOz40⟩;replace hs:=(hs.stepM 1 u43 hOz40).to [⟨b7,25,[iV 3,qS saA ((al).length) sac,qS soA ((ol).length) soc]⟩,⟨b4,48,[qS A0 zs.length c0,nV at_z40]⟩,⟨b1,25,[iV 0,sZ,sZ]⟩] [⟨3,1,soA,soc,(ol).length,(ol).flatMap i64c⟩,⟨58,7,saA,sac,(al).length,(al).flatMap rsc⟩];refine eC 7 108 hs (fun _ _ hs=>hPick (z40) (pick (z11) (most+1)) oM oM _ _ hs.g) ?_;rintro _ _ _ _ _ hs rfl;have lp3:=pick_lt (z40) (pick (z11) (most+1)) oM;refine eI 8 109 (((pick (z11) (most+1):Nat)-1)-(pick (z40) (pick (z11) (most+1)):Nat)) (eR 9 110 3 1 ([iV (((pick (z11) (most+1):Nat)-1)-(pick (z40) (pick (z11) (most+1)):Nat))]) hs (fun yG _ _ hs=>eY 10 111 0 3 1 soc soA ol i64c (((pick (z11) (most+1):Nat)-1)-(pick (z40) (pick (z11) (most+1)):Nat):Int) 8 yG (iV 0) hs (fun _ f_=>f_.1) (fun b hb=>List.mem_cons_of_mem _ (Option.mem_toList.2 hb)) (fun ya yb _ _ hs=>eD0 hs (fun _ yH hs=>tV 11 112 (qP b7 2) (tP 12 0 2 ([qS ya ((ol++[(((pick (z11) (most+1):Nat)-1)-(pick (z40) (pick (z11) (most+1)):Nat):Int)]).length) yb]) hs (fun _ hs=>tN (kQ (lL hs [.m 99 10] (lIn 100 ((m:Nat)+1) (m+1) ?_)))))))));refine lL hs [.m 10 100] (lD ?_);intro a_ ka;replace hs:=hs.tl;refine ⟨_,_,?_,⟨m+1,ya,yb,ol++[(((pick (z11) (most+1):Nat)-1)-(pick (z40) (pick (z11) (most+1)):Nat):Int)],at_z40,yH,rfl,rfl,hs.to _ _,oM,haz40,(by simp;omega),(fun h_=>absurd h_ oM),(outs_snoc hob oM),(fun _=>by omega)⟩,ka.to _ kR⟩
  omega
 have zM:=oT zj;refine lB 22 zj (lN (cIT (cK (cQ (kZ (cSL (lL hs [.m 25 5] (lCm 26 (rNext A0 c0 zs hl0 hz0 b4 at1 oM _ _ hs.g (hs.own 1) (hs.jk 1) hs.f.2.1) ?_))))))));rintro _ _ _ u67 ⟨z64,at_z64,rfl,haz64,hzz64,hOz64⟩;replace hs:=(hs.stepM 1 u67 hOz64).to [⟨b7,25,[iV 3,qS saA ((al).length) sac,sZ]⟩,⟨b4,48,[qS A0 zs.length c0,nV at_z64]⟩,⟨b1,25,[iV 0,sZ,sZ]⟩] [⟨58,7,saA,sac,(al).length,(al).flatMap rsc⟩];refine lC 27 hs (hPick (z64) 15 oM oM _ _ hs.g) ?_;rintro _ _ _ hs rfl;have lp5:=pick_lt (z64) 15 oM;refine lL hs [.v 28 (.agg #[nV (pick (z64) 15),iV 0,iV 0,iV 0,qF,sZ,sZ])] (lA 9 58 ([iV 0,iV 0,iV 0,iV 0,qF,sZ,sZ]) hs (fun za _ zA hs=>lP 0 0 ([nV (pick (z64) 15),iV 0,iV 0,iV 0,qF,sZ,sZ]) hs (fun _ hs=>?_)));refine lN (CG.join (fun Γ w_=>∃ (o0:Int) (h_:Hp),Γ=[(4,pB b1),(5,pB b4),(6,pB b7),(7,nV (pick (z11) (most+1))),(8,nV k),(9,pB za)]∧SS w h w_ h_ [⟨za,58,[iV o0,iV 0,iV 0,iV 0,qF,sZ,sZ]⟩,⟨b7,25,[iV 3,qS saA ((al).length) sac,sZ]⟩,⟨b4,48,[qS A0 zs.length c0,nV at_z64]⟩,⟨b1,25,[iV 0,sZ,sZ]⟩] [⟨58,7,saA,sac,(al).length,(al).flatMap rsc⟩] [fun h_=>RSs h_ al ss,Si A0 zs]∧((0:Int)≤o0∧o0≤(13:Int))∧(o0≠(2:Int)→2≤k)) ?_ ?_)
 ·
  refine CG.join (fun Γ w_=>∃ (zr:Bool) (h_:Hp),Γ=[(4,pB b1),(5,pB b4),(6,pB b7),(7,nV (pick (z11) (most+1))),(8,nV k),(9,pB za),(35,.bool zr)]∧SS w h w_ h_ [⟨za,58,[nV (pick (z64) 15),iV 0,iV 0,iV 0,qF,sZ,sZ]⟩,⟨b7,25,[iV 3,qS saA ((al).length) sac,sZ]⟩,⟨b4,48,[qS A0 zs.length c0,nV at_z64]⟩,⟨b1,25,[iV 0,sZ,sZ]⟩] [⟨58,7,saA,sac,(al).length,(al).flatMap rsc⟩] [fun h_=>RSs h_ al ss,Si A0 zs]∧(zr=true→¬(2≤k∧(pick (z64) 15:Nat)<14))∧(zr=false→(2≤k∧(pick (z64) 15:Nat)<14))) ?_ ?_
  ·
   refine kQ (lL hs [.m 29 8] ?_);cases zm:(decide ((k:Int)<(2:Int)))
   ·
    have zQ:=oF zm;refine lB 30 zm (lL hs [.m 31 30,.v 32 (pB za),.o 33 (nV (pick (z64) 15)) 0 0 1] ?_);cases zn:(decide ((14:Int)≤((pick (z64) 15:Nat):Int)))
    ·
     have zR:=oF zn;refine lB 34 zn (lL hs [.v 35 qF] (lD ?_));intro a_ ka;exact ⟨_,⟨false,zA,rfl,hs.to _ _,(fun h_=>absurd h_ kD),(fun _=>by omega)⟩,ka.to _ kR⟩
    have zR:=oT zn;refine lB 34 zn (lL hs [.v 35 qT] (lD ?_));intro a_ ka;exact ⟨_,⟨true,zA,rfl,hs.to _ _,(fun _=>by omega),(fun h_=>absurd h_ kD)⟩,ka.to _ kR⟩
   have zQ:=oT zm;refine lB 30 zm (lL hs [.m 31 30] (lG 32 ?_));refine lG 33 (lG 34 (lL hs [.v 35 qT] (lD ?_)));intro a_ ka;exact ⟨_,⟨true,zA,rfl,hs.to _ _,(fun _=>by omega),(fun h_=>absurd h_ kD)⟩,ka.to _ kR⟩
  rintro _ _ ⟨zr,yc,rfl,hs,hT35,hF35⟩;cases zo:(zr)
  ·
   try rw[zo] at hs
   try rw[zo]
   refine cIF (CG.skip ?_);intro a_ ka;exact ⟨_,⟨(pick (z64) 15:Nat),yc,rfl,hs.to _ _,(by have:=hF35 aM;omega),(by have:=hF35 aM;omega)⟩,ka.to _ kR⟩
  try rw[zo] at hs
  try rw[zo]
  refine cIT (kQ (lL hs [.v 36 (pB za)] (lP 0 0 ([iV 2]) hs (fun _ hs=>lD ?_))));intro a_ ka;exact ⟨_,⟨2,yc,rfl,hs.to _ _,oM,oM⟩,ka.to _ kR⟩
 rintro _ _ ⟨o0,yd,rfl,hs,ho0,ho02⟩;refine CG.join (fun Γ w_=>∃ (o1:Int) (h_:Hp),Γ=[(4,pB b1),(5,pB b4),(6,pB b7),(7,nV (pick (z11) (most+1))),(8,nV k),(9,pB za)]∧SS w h w_ h_ [⟨za,58,[iV o1,iV 0,iV 0,iV 0,qF,sZ,sZ]⟩,⟨b7,25,[iV 3,qS saA ((al).length) sac,sZ]⟩,⟨b4,48,[qS A0 zs.length c0,nV at_z64]⟩,⟨b1,25,[iV 0,sZ,sZ]⟩] [⟨58,7,saA,sac,(al).length,(al).flatMap rsc⟩] [fun h_=>RSs h_ al ss,Si A0 zs]∧((1:Int)≤o1∧o1≤(13:Int))∧(o1≠(2:Int)→2≤k)) ?_ ?_
 ·
  refine CG.join (fun Γ w_=>∃ (zt:Bool) (h_:Hp),Γ=[(4,pB b1),(5,pB b4),(6,pB b7),(7,nV (pick (z11) (most+1))),(8,nV k),(9,pB za),(39,.bool zt)]∧SS w h w_ h_ [⟨za,58,[iV o0,iV 0,iV 0,iV 0,qF,sZ,sZ]⟩,⟨b7,25,[iV 3,qS saA ((al).length) sac,sZ]⟩,⟨b4,48,[qS A0 zs.length c0,nV at_z64]⟩,⟨b1,25,[iV 0,sZ,sZ]⟩] [⟨58,7,saA,sac,(al).length,(al).flatMap rsc⟩] [fun h_=>RSs h_ al ss,Si A0 zs]∧(zt=true→¬(o0≠0))∧(zt=false→(o0≠0))) ?_ ?_
  ·
   refine kQ (lL hs [.v 37 (pB za),.o 38 (iV o0) 0 0 1] ?_);cases zp:((o0:Int) == (0:Int))
   ·
    have zS:=neOfBeq zp;refine lB 39 zp (lD ?_);intro a_ ka;exact ⟨_,⟨false,yd,rfl,hs.to _ _,(fun h_=>absurd h_ kD),(fun _=>by omega)⟩,ka.to _ kR⟩
   have zS:=eq_of_beq zp;refine lB 39 zp (lD ?_);intro a_ ka;exact ⟨_,⟨true,yd,rfl,hs.to _ _,(fun _=>by omega),(fun h_=>absurd h_ kD)⟩,ka.to _ kR⟩
  rintro _ _ ⟨zt,ye,rfl,hs,zB,hF39⟩;cases zq:(zt)
  ·
   try rw[zq] at hs
   try rw[zq]
   refine cIF (CG.skip ?_);intro a_ ka;exact ⟨_,⟨o0,ye,rfl,hs.to _ _,(by have:=hF39 aM;omega),(by have:=hF39 aM;omega)⟩,ka.to _ kR⟩
  try rw[zq] at hs
  try rw[zq]
  refine cIT (kQ (lL hs [.v 40 (pB za)] (lP 0 0 ([iV 5]) hs (fun _ hs=>lD ?_))));intro a_ ka;exact ⟨_,⟨5,ye,rfl,hs.to _ _,(by have:=zB aM;omega),(by have:=zB aM;omega)⟩,ka.to _ kR⟩
 rintro _ _ ⟨o1,_,rfl,hs,ho1,ho2⟩;refine CG.join (fun Γ w_=>∃ (sa_:Int) (sb_:Int) (sn_:Int) (tb_:Bool) (tA_:Option Addr) (tn_:Nat) (tc_:Nat) (tD_:Option Addr) (tm_:Nat) (td_:Nat) (o_:OSt) (at3:Nat) (h_:Hp),Γ=[(4,pB b1),(5,pB b4),(6,pB b7),(7,nV (pick (z11) (most+1))),(8,nV k),(9,pB za)]∧SS w h w_ h_ [⟨za,58,[iV o1,iV sa_,iV sb_,iV sn_,.bool tb_,qS tA_ tn_ tc_,qS tD_ tm_ td_]⟩,⟨b7,25,[iV 3,qS saA ((al).length) sac,sZ]⟩,⟨b4,48,[qS A0 zs.length c0,nV at3]⟩,⟨b1,25,[iV 0,sZ,sZ]⟩] [⟨58,7,saA,sac,(al).length,(al).flatMap rsc⟩] [fun h_=>RS1 h_ (⟨o1,sa_,sb_,sn_,(tb_,qS tA_ tn_ tc_,qS tD_ tm_ td_)⟩:RSt) o_,fun h_=>RSs h_ al ss,Si A0 zs]∧OSm o_∧(-1≤o_.n∧o_.n≤2)∧S9 o_∧at3≤zs.length) ?_ ?_
 ·
  refine cSL (lL hs [.v 41 (pB za),.o 42 (iV o1) 0 0 1] (lN (kZ (cSL ?_))));cases zb:((o1:Int) == (1:Int))
  ·
   have zD:=neOfBeq zb;refine lB 54 zb (lL hs [.m 53 54] (lN (cIF (cSL ?_))));cases zc:((o1:Int) == (2:Int))
   ·
    have zE:=neOfBeq zc;refine lB 60 zc (lL hs [.m 59 60] (lN (cIF (cSL ?_))));cases zd:((o1:Int) == (8:Int))
    ·
     have zF:=neOfBeq zd;refine lB 66 zd (lL hs [.m 65 66] (lN (cIF (cQ (cSL ?_)))));cases ze:((o1:Int) == (7:Int))
     ·
      have zG:=neOfBeq ze;refine lB 78 ze (lL hs [.m 77 78] (lN (cIF (cSL ?_))));cases zf:((o1:Int) == (9:Int))
      ·
       have zH:=neOfBeq zf;refine lB 79 zf (lL hs [.m 77 79] (lN (cIF (cSL ?_))));cases zg:((o1:Int) == (10:Int))
       ·
        have zI:=neOfBeq zg;refine lB 80 zg (lL hs [.m 77 80] (lN (cIF (kQ ?_))));cases zi:((o1:Int) == (11:Int))
        ·
         have zJ:=neOfBeq zi;refine lB 81 zi (lL hs [.m 77 81] (lN (cIF (cSL (lL hs [.m 43 5] (lCm 44 (rNext A0 c0 zs hl0 hz0 b4 at_z64 oM _ _ hs.g (hs.own 2) (hs.jk 2) hs.f.2.1) ?_))))));rintro _ _ _ u117 ⟨z114,at_z114,rfl,haz114,hzz114,hOz114⟩;replace hs:=(hs.stepM 2 u117 hOz114).to [⟨za,58,[iV o1,iV 0,iV 0,iV 0,qF,sZ,sZ]⟩,⟨b7,25,[iV 3,qS saA ((al).length) sac,sZ]⟩,⟨b4,48,[qS A0 zs.length c0,nV at_z114]⟩,⟨b1,25,[iV 0,sZ,sZ]⟩] [⟨58,7,saA,sac,(al).length,(al).flatMap rsc⟩];refine lL hs [.m 45 8] (lC 46 hs (hPick (z114) k oM oM _ _ hs.g) ?_);rintro _ _ _ hs rfl;have lp7:=pick_lt (z114) k oM;refine lL hs [.v 47 (qP za 1)] (lP 0 1 ([nV (pick (z114) k)]) hs (fun _ hs=>lN (kQ (lL hs [.m 48 5] (lCm 49 (rNext A0 c0 zs hl0 hz0 b4 at_z114 oM _ _ hs.g (hs.own 2) (hs.jk 2) hs.f.2.1) ?_)))));rintro _ _ _ u124 ⟨z121,at_z121,rfl,haz121,hzz121,hOz121⟩;replace hs:=(hs.stepM 2 u124 hOz121).to [⟨za,58,[iV o1,nV (pick (z114) k),iV 0,iV 0,qF,sZ,sZ]⟩,⟨b7,25,[iV 3,qS saA ((al).length) sac,sZ]⟩,⟨b4,48,[qS A0 zs.length c0,nV at_z121]⟩,⟨b1,25,[iV 0,sZ,sZ]⟩] [⟨58,7,saA,sac,(al).length,(al).flatMap rsc⟩];refine lL hs [.m 50 8] (lC 51 hs (hPick (z121) k oM oM _ _ hs.g) ?_);rintro _ _ yk hs rfl;have lp9:=pick_lt (z121) k oM;refine lL hs [.v 52 (qP za 2)] (lP 0 2 ([nV (pick (z121) k)]) hs (fun _ hs=>lD ?_));intro a_ ka;have yl : -1≤(⟨o1,(pick (z114) k:Nat),(pick (z121) k:Nat),0,0,false⟩:OSt).n∧(⟨o1,(pick (z114) k:Nat),(pick (z121) k:Nat),0,0,false⟩:OSt).n≤2:=(by dsimp only;omega);replace hs:=(hs.add (K:=fun h_=>RS1 h_ (⟨o1,(pick (z114) k:Nat),(pick (z121) k:Nat),0,(false,sZ,sZ)⟩:RSt) (⟨o1,(pick (z114) k:Nat),(pick (z121) k:Nat),0,0,false⟩:OSt)) ⟨rfl,rfl,rfl,rfl,⟨none,0,none,0,rfl,nR _,nR _,SlO.nil,SlO.nil⟩,fun _=>rfl⟩);exact ⟨_,⟨(pick (z114) k:Nat),(pick (z121) k:Nat),0,false,none,0,0,none,0,0,(⟨o1,(pick (z114) k:Nat),(pick (z121) k:Nat),0,0,false⟩:OSt),at_z121,yk,rfl,hs.to _ _,⟨by dsimp only;omega,by dsimp only;omega,by dsimp only;omega,by dsimp only;omega,LQ.lit (z:=0) kD⟩,yl,(s9_zero _ _ _ _ _),haz121⟩,ka.to _ kR⟩
        have zJ:=eq_of_beq zi;refine lB 81 zi (lL hs [.m 77 81] (lN (cIT (kQ (lL hs [.m 82 5] (lCm 83 (rNext A0 c0 zs hl0 hz0 b4 at_z64 oM _ _ hs.g (hs.own 2) (hs.jk 2) hs.f.2.1) ?_))))));rintro _ _ _ u136 ⟨z133,at_z133,rfl,haz133,hzz133,hOz133⟩;replace hs:=(hs.stepM 2 u136 hOz133).to [⟨za,58,[iV o1,iV 0,iV 0,iV 0,qF,sZ,sZ]⟩,⟨b7,25,[iV 3,qS saA ((al).length) sac,sZ]⟩,⟨b4,48,[qS A0 zs.length c0,nV at_z133]⟩,⟨b1,25,[iV 0,sZ,sZ]⟩] [⟨58,7,saA,sac,(al).length,(al).flatMap rsc⟩];refine lL hs [.m 84 8] (lC 85 hs (hPick (z133) k oM oM _ _ hs.g) ?_);rintro _ _ ym hs rfl;have lp11:=pick_lt (z133) k oM;refine lL hs [.v 86 (qP za 1)] (lP 0 1 ([nV (pick (z133) k)]) hs (fun _ hs=>lD ?_));intro a_ ka;have yn : -1≤(⟨o1,(pick (z133) k:Nat),0,0,0,false⟩:OSt).n∧(⟨o1,(pick (z133) k:Nat),0,0,0,false⟩:OSt).n≤2:=(by dsimp only;omega);replace hs:=(hs.add (K:=fun h_=>RS1 h_ (⟨o1,(pick (z133) k:Nat),0,0,(false,sZ,sZ)⟩:RSt) (⟨o1,(pick (z133) k:Nat),0,0,0,false⟩:OSt)) ⟨rfl,rfl,rfl,rfl,⟨none,0,none,0,rfl,nR _,nR _,SlO.nil,SlO.nil⟩,fun _=>rfl⟩);exact ⟨_,⟨(pick (z133) k:Nat),0,0,false,none,0,0,none,0,0,(⟨o1,(pick (z133) k:Nat),0,0,0,false⟩:OSt),at_z133,ym,rfl,hs.to _ _,⟨by dsimp only;omega,by dsimp only;omega,by dsimp only;omega,by dsimp only;omega,LQ.lit (z:=0) kD⟩,yn,(s9_zero _ _ _ _ _),haz133⟩,ka.to _ kR⟩
       have zI:=eq_of_beq zg;refine lB 80 zg (lL hs [.m 77 80] (lN (cIT (cK (cIT (kQ (lL hs [.m 82 5] (lCm 83 (rNext A0 c0 zs hl0 hz0 b4 at_z64 oM _ _ hs.g (hs.own 2) (hs.jk 2) hs.f.2.1) ?_))))))));rintro _ _ _ u148 ⟨z145,at_z145,rfl,haz145,hzz145,hOz145⟩;replace hs:=(hs.stepM 2 u148 hOz145).to [⟨za,58,[iV o1,iV 0,iV 0,iV 0,qF,sZ,sZ]⟩,⟨b7,25,[iV 3,qS saA ((al).length) sac,sZ]⟩,⟨b4,48,[qS A0 zs.length c0,nV at_z145]⟩,⟨b1,25,[iV 0,sZ,sZ]⟩] [⟨58,7,saA,sac,(al).length,(al).flatMap rsc⟩];refine lL hs [.m 84 8] (lC 85 hs (hPick (z145) k oM oM _ _ hs.g) ?_);rintro _ _ yo hs rfl;have lp13:=pick_lt (z145) k oM;refine lL hs [.v 86 (qP za 1)] (lP 0 1 ([nV (pick (z145) k)]) hs (fun _ hs=>lD ?_));intro a_ ka;have yp : -1≤(⟨o1,(pick (z145) k:Nat),0,0,0,false⟩:OSt).n∧(⟨o1,(pick (z145) k:Nat),0,0,0,false⟩:OSt).n≤2:=(by dsimp only;omega);replace hs:=(hs.add (K:=fun h_=>RS1 h_ (⟨o1,(pick (z145) k:Nat),0,0,(false,sZ,sZ)⟩:RSt) (⟨o1,(pick (z145) k:Nat),0,0,0,false⟩:OSt)) ⟨rfl,rfl,rfl,rfl,⟨none,0,none,0,rfl,nR _,nR _,SlO.nil,SlO.nil⟩,fun _=>rfl⟩);exact ⟨_,⟨(pick (z145) k:Nat),0,0,false,none,0,0,none,0,0,(⟨o1,(pick (z145) k:Nat),0,0,0,false⟩:OSt),at_z145,yo,rfl,hs.to _ _,⟨by dsimp only;omega,by dsimp only;omega,by dsimp only;omega,by dsimp only;omega,LQ.lit (z:=0) kD⟩,yp,(s9_zero _ _ _ _ _),haz145⟩,ka.to _ kR⟩
      have zH:=eq_of_beq zf;refine lB 79 zf (lL hs [.m 77 79] (lN (cIT (cK (cIT (kQ (lL hs [.m 82 5] (lCm 83 (rNext A0 c0 zs hl0 hz0 b4 at_z64 oM _ _ hs.g (hs.own 2) (hs.jk 2) hs.f.2.1) ?_))))))));rintro _ _ _ u160 ⟨z157,at_z157,rfl,haz157,hzz157,hOz157⟩;replace hs:=(hs.stepM 2 u160 hOz157).to [⟨za,58,[iV o1,iV 0,iV 0,iV 0,qF,sZ,sZ]⟩,⟨b7,25,[iV 3,qS saA ((al).length) sac,sZ]⟩,⟨b4,48,[qS A0 zs.length c0,nV at_z157]⟩,⟨b1,25,[iV 0,sZ,sZ]⟩] [⟨58,7,saA,sac,(al).length,(al).flatMap rsc⟩];refine lL hs [.m 84 8] (lC 85 hs (hPick (z157) k oM oM _ _ hs.g) ?_);rintro _ _ yq hs rfl;have lp15:=pick_lt (z157) k oM;refine lL hs [.v 86 (qP za 1)] (lP 0 1 ([nV (pick (z157) k)]) hs (fun _ hs=>lD ?_));intro a_ ka;have yr : -1≤(⟨o1,(pick (z157) k:Nat),0,0,0,false⟩:OSt).n∧(⟨o1,(pick (z157) k:Nat),0,0,0,false⟩:OSt).n≤2:=(by dsimp only;omega);replace hs:=(hs.add (K:=fun h_=>RS1 h_ (⟨o1,(pick (z157) k:Nat),0,0,(false,sZ,sZ)⟩:RSt) (⟨o1,(pick (z157) k:Nat),0,0,0,false⟩:OSt)) ⟨rfl,rfl,rfl,rfl,⟨none,0,none,0,rfl,nR _,nR _,SlO.nil,SlO.nil⟩,fun _=>rfl⟩);exact ⟨_,⟨(pick (z157) k:Nat),0,0,false,none,0,0,none,0,0,(⟨o1,(pick (z157) k:Nat),0,0,0,false⟩:OSt),at_z157,yq,rfl,hs.to _ _,⟨by dsimp only;omega,by dsimp only;omega,by dsimp only;omega,by dsimp only;omega,LQ.lit (z:=0) kD⟩,yr,(s9_zero _ _ _ _ _),haz157⟩,ka.to _ kR⟩
     have zG:=eq_of_beq ze;refine lB 78 ze (lL hs [.m 77 78] (lN (cIT (cK (cIT (kQ (lL hs [.m 82 5] (lCm 83 (rNext A0 c0 zs hl0 hz0 b4 at_z64 oM _ _ hs.g (hs.own 2) (hs.jk 2) hs.f.2.1) ?_))))))));rintro _ _ _ u172 ⟨z169,at_z169,rfl,haz169,hzz169,hOz169⟩;replace hs:=(hs.stepM 2 u172 hOz169).to [⟨za,58,[iV o1,iV 0,iV 0,iV 0,qF,sZ,sZ]⟩,⟨b7,25,[iV 3,qS saA ((al).length) sac,sZ]⟩,⟨b4,48,[qS A0 zs.length c0,nV at_z169]⟩,⟨b1,25,[iV 0,sZ,sZ]⟩] [⟨58,7,saA,sac,(al).length,(al).flatMap rsc⟩];refine lL hs [.m 84 8] (lC 85 hs (hPick (z169) k oM oM _ _ hs.g) ?_);rintro _ _ ys hs rfl;have lp17:=pick_lt (z169) k oM;refine lL hs [.v 86 (qP za 1)] (lP 0 1 ([nV (pick (z169) k)]) hs (fun _ hs=>lD ?_));intro a_ ka;have yt : -1≤(⟨o1,(pick (z169) k:Nat),0,0,0,false⟩:OSt).n∧(⟨o1,(pick (z169) k:Nat),0,0,0,false⟩:OSt).n≤2:=(by dsimp only;omega);replace hs:=(hs.add (K:=fun h_=>RS1 h_ (⟨o1,(pick (z169) k:Nat),0,0,(false,sZ,sZ)⟩:RSt) (⟨o1,(pick (z169) k:Nat),0,0,0,false⟩:OSt)) ⟨rfl,rfl,rfl,rfl,⟨none,0,none,0,rfl,nR _,nR _,SlO.nil,SlO.nil⟩,fun _=>rfl⟩);exact ⟨_,⟨(pick (z169) k:Nat),0,0,false,none,0,0,none,0,0,(⟨o1,(pick (z169) k:Nat),0,0,0,false⟩:OSt),at_z169,ys,rfl,hs.to _ _,⟨by dsimp only;omega,by dsimp only;omega,by dsimp only;omega,by dsimp only;omega,LQ.lit (z:=0) kD⟩,yt,(s9_zero _ _ _ _ _),haz169⟩,ka.to _ kR⟩
    have zF:=eq_of_beq zd;refine lB 66 zd (lL hs [.m 65 66] (lN (cIT (cSL (lL hs [.m 67 5] (lCm 68 (rNext A0 c0 zs hl0 hz0 b4 at_z64 oM _ _ hs.g (hs.own 2) (hs.jk 2) hs.f.2.1) ?_))))));rintro _ _ _ u184 ⟨z181,at_z181,rfl,haz181,hzz181,hOz181⟩;replace hs:=(hs.stepM 2 u184 hOz181).to [⟨za,58,[iV o1,iV 0,iV 0,iV 0,qF,sZ,sZ]⟩,⟨b7,25,[iV 3,qS saA ((al).length) sac,sZ]⟩,⟨b4,48,[qS A0 zs.length c0,nV at_z181]⟩,⟨b1,25,[iV 0,sZ,sZ]⟩] [⟨58,7,saA,sac,(al).length,(al).flatMap rsc⟩];refine lL hs [.m 69 8] (lC 70 hs (hPick (z181) k oM oM _ _ hs.g) ?_);rintro _ _ _ hs rfl;have lp19:=pick_lt (z181) k oM;refine lL hs [.v 71 (qP za 1)] (lP 0 1 ([nV (pick (z181) k)]) hs (fun _ hs=>lN (kQ (lL hs [.m 72 5] (lCm 73 (rNext A0 c0 zs hl0 hz0 b4 at_z181 oM _ _ hs.g (hs.own 2) (hs.jk 2) hs.f.2.1) ?_)))));rintro _ _ _ u191 ⟨z188,at_z188,rfl,haz188,hzz188,hOz188⟩;replace hs:=(hs.stepM 2 u191 hOz188).to [⟨za,58,[iV o1,nV (pick (z181) k),iV 0,iV 0,qF,sZ,sZ]⟩,⟨b7,25,[iV 3,qS saA ((al).length) sac,sZ]⟩,⟨b4,48,[qS A0 zs.length c0,nV at_z188]⟩,⟨b1,25,[iV 0,sZ,sZ]⟩] [⟨58,7,saA,sac,(al).length,(al).flatMap rsc⟩];refine lC 74 hs (hPick (z188) 4 oM oM _ _ hs.g) ?_;rintro _ _ yu hs rfl;have lp21:=pick_lt (z188) 4 oM;refine lI 75 ((pick (z188) 4:Nat)-1) (lL hs [.v 76 (qP za 3)] (lP 0 3 ([iV ((pick (z188) 4:Nat)-1)]) hs (fun _ hs=>lD ?_)));intro a_ ka;have yv : -1≤(⟨o1,(pick (z181) k:Nat),0,(pick (z188) 4:Nat)-1,0,false⟩:OSt).n∧(⟨o1,(pick (z181) k:Nat),0,(pick (z188) 4:Nat)-1,0,false⟩:OSt).n≤2:=(by dsimp only;omega);replace hs:=(hs.add (K:=fun h_=>RS1 h_ (⟨o1,(pick (z181) k:Nat),0,((pick (z188) 4:Nat)-1),(false,sZ,sZ)⟩:RSt) (⟨o1,(pick (z181) k:Nat),0,(pick (z188) 4:Nat)-1,0,false⟩:OSt)) ⟨rfl,rfl,rfl,rfl,⟨none,0,none,0,rfl,nR _,nR _,SlO.nil,SlO.nil⟩,fun _=>rfl⟩);exact ⟨_,⟨(pick (z181) k:Nat),0,(pick (z188) 4:Nat)-1,false,none,0,0,none,0,0,(⟨o1,(pick (z181) k:Nat),0,(pick (z188) 4:Nat)-1,0,false⟩:OSt),at_z188,yu,rfl,hs.to _ _,⟨by dsimp only;omega,by dsimp only;omega,by dsimp only;omega,by dsimp only;omega,LQ.lit (z:=0) kD⟩,yv,(s9_zero _ _ _ _ _),haz188⟩,ka.to _ kR⟩
   have zE:=eq_of_beq zc;refine lB 60 zc (lL hs [.m 59 60] (lN (cIT (kQ (lL hs [.m 61 5] (lCm 62 (rNext A0 c0 zs hl0 hz0 b4 at_z64 oM _ _ hs.g (hs.own 2) (hs.jk 2) hs.f.2.1) ?_))))));rintro _ _ _ u203 ⟨z200,at_z200,rfl,haz200,hzz200,hOz200⟩;replace hs:=(hs.stepM 2 u203 hOz200).to [⟨za,58,[iV o1,iV 0,iV 0,iV 0,qF,sZ,sZ]⟩,⟨b7,25,[iV 3,qS saA ((al).length) sac,sZ]⟩,⟨b4,48,[qS A0 zs.length c0,nV at_z200]⟩,⟨b1,25,[iV 0,sZ,sZ]⟩] [⟨58,7,saA,sac,(al).length,(al).flatMap rsc⟩];refine lC 63 hs (hPick (z200) 3 oM oM _ _ hs.g) ?_;rintro _ _ yw hs rfl;have lp23:=pick_lt (z200) 3 oM;refine lL hs [.v 64 (qP za 3)] (lP 0 3 ([nV (pick (z200) 3)]) hs (fun _ hs=>lD ?_));intro a_ ka;have yx : -1≤(⟨o1,0,0,(pick (z200) 3:Nat),0,false⟩:OSt).n∧(⟨o1,0,0,(pick (z200) 3:Nat),0,false⟩:OSt).n≤2:=(by dsimp only;omega);replace hs:=(hs.add (K:=fun h_=>RS1 h_ (⟨o1,0,0,(pick (z200) 3:Nat),(false,sZ,sZ)⟩:RSt) (⟨o1,0,0,(pick (z200) 3:Nat),0,false⟩:OSt)) ⟨rfl,rfl,rfl,rfl,⟨none,0,none,0,rfl,nR _,nR _,SlO.nil,SlO.nil⟩,fun _=>rfl⟩);exact ⟨_,⟨0,0,(pick (z200) 3:Nat),false,none,0,0,none,0,0,(⟨o1,0,0,(pick (z200) 3:Nat),0,false⟩:OSt),at_z200,yw,rfl,hs.to _ _,⟨by dsimp only;omega,by dsimp only;omega,by dsimp only;omega,by dsimp only;omega,LQ.lit (z:=0) kD⟩,yx,(s9_zero _ _ _ _ _),haz200⟩,ka.to _ kR⟩
  have zD:=eq_of_beq zb;refine lB 54 zb (lL hs [.m 53 54] (lN (cIT (kQ (lL hs [.m 55 5] (lCm 56 (rNext A0 c0 zs hl0 hz0 b4 at_z64 oM _ _ hs.g (hs.own 2) (hs.jk 2) hs.f.2.1) ?_))))));rintro _ _ _ u215 ⟨z212,at_z212,rfl,haz212,hzz212,hOz212⟩;replace hs:=(hs.stepM 2 u215 hOz212).to [⟨za,58,[iV o1,iV 0,iV 0,iV 0,qF,sZ,sZ]⟩,⟨b7,25,[iV 3,qS saA ((al).length) sac,sZ]⟩,⟨b4,48,[qS A0 zs.length c0,nV at_z212]⟩,⟨b1,25,[iV 0,sZ,sZ]⟩] [⟨58,7,saA,sac,(al).length,(al).flatMap rsc⟩];refine lC 57 hs (hR z212 hzz212.1 hzz212.2 _ _ hs.g) ?_;rintro _ _ yA hs ⟨zu,zv,zw,zx,rfl,zT,zU,zW,zX⟩;replace hs:=hs.aP zW zX;refine lL hs [.v 58 (qP za 4)] (lP 0 4 (rqx (handRq z212) zu zv zw zx) hs (fun _ hs=>lD ?_));intro a_ ka;have yB : -1≤(⟨o1,0,0,0,handRq z212,true⟩:OSt).n∧(⟨o1,0,0,0,handRq z212,true⟩:OSt).n≤2:=(by dsimp only;omega);replace hs:=(hs.tl.tl.add (K:=fun h_=>RS1 h_ (⟨o1,0,0,0,((ineg (handRq z212).num),qS zu ((lim (iabs (handRq z212).num)).length) zv,qS zw ((lim (handRq z212).den).length) zx)⟩:RSt) (⟨o1,0,0,0,handRq z212,true⟩:OSt)) ⟨rfl,rfl,rfl,rfl,⟨_,_,_,_,rfl,zT,zU,hs.f.2.1,hs.f.1⟩,fun h_=>(by cases h_)⟩);exact ⟨_,⟨0,0,0,ineg (handRq z212).num,zu,(lim (iabs (handRq z212).num)).length,zv,zw,(lim (handRq z212).den).length,zx,(⟨o1,0,0,0,handRq z212,true⟩:OSt),at_z212,yA,rfl,hs.to _ _,⟨by dsimp only;omega,by dsimp only;omega,by dsimp only;omega,by dsimp only;omega,LQ.hand _⟩,yB,(s9_hand _ _ _ _ _ _),haz212⟩,ka.to _ kR⟩
 rintro _ _ ⟨sa_,sb_,sn_,tb_,tA_,tn_,tc_,tD_,tm_,td_,o_,at3,_,rfl,hs,hmo1,hpn,h9o,hat3⟩;refine kQ (lL hs [.v 87 (qP b7 1),.o 88 (qS saA ((al).length) sac) 1 1 1,.o 89 (.agg #[iV o1,iV sa_,iV sb_,iV sn_,.bool tb_,qS tA_ tn_ tc_,qS tD_ tm_ td_]) 0 0 7] (lR 90 58 1 ([iV o1,iV sa_,iV sb_,iV sn_,.bool tb_,qS tA_ tn_ tc_,qS tD_ tm_ td_]) hs (fun yC _ _ hs=>lY 91 0 58 7 sac saA al rsc (⟨o1,sa_,sb_,sn_,(tb_,qS tA_ tn_ tc_,qS tD_ tm_ td_)⟩:RSt) 88 yC (.agg #[iV 0,iV 0,iV 0,iV 0,qF,sZ,sZ]) hs hs.f.1 (fun zK zL _ yD hs=>lL hs [.v 92 (qP b7 1)] (lP 1 1 ([qS zK ((al++[(⟨o1,sa_,sb_,sn_,(tb_,qS tA_ tn_ tc_,qS tD_ tm_ td_)⟩:RSt)]).length) zL]) hs (fun _ hs=>lN (kQ (lL hs [.m 23 8] (lIn 24 ((k:Nat)+1) (k+1) ?_)))))))));refine lL hs [.m 8 24] (lD ?_);intro a_ ka;replace hs:=(hs.tl.tl.tl.add (K:=fun h_=>RSs h_ (al++[(⟨o1,sa_,sb_,sn_,(tb_,qS tA_ tn_ tc_,qS tD_ tm_ td_)⟩:RSt)]) (ss++[o_])) ((hs.f.r.1).snoc hs.f.2.1));replace hs:=hs.drop 1 0;refine ⟨_,_,?_,⟨k+1,zK,zL,al++[(⟨o1,sa_,sb_,sn_,(tb_,qS tA_ tn_ tc_,qS tD_ tm_ td_)⟩:RSt)],ss++[o_],at3,yD,rfl,rfl,hs.to _ _,oM,hat3,(by simp;omega),(fun h_=>absurd h_ oM),(hSm.snoc hmo1),(hPw.snoc hpn),(hR9.snoc h9o)⟩,ka.to _ kR⟩
 omega
theorem mInTape (inp:Int)(A:Option Addr)(c:Nat)(ts:List RSt)(ss:List OSt)(O:Option Addr)(d:Nat)(os:List Int)(hl:ss.length≤20)(ho0:0<os.length)(hol:os.length≤3)(hS:OSms ss)(w:World)(h:Hp)(g:G w h)(hA:SlO 7 rsc rst0 h A ts)(hT:RSs h ts ss)(hO:Si O os h)(tb:Tab h):CR 5 #[.agg #[iV inp,.slice A ts.length c,.slice O os.length d]] w h (fun v h1=>∃ A c O d,v=.agg #[iV inp,.slice A (ss.map OSt.stp).length c,.slice O os.length d]∧SlO 9 stc stp0 h1 A (ss.map OSt.stp)∧Si O os h1):=by
 have hs:=(((((sS g).aS hA).add (K:=fun h_=>RSs h_ ts ss) hT).aS hO).aB tb);have hlt:=(hs.f.r.1).len;refine go Tryz.func5 [(0,.agg #[iV inp,qS A ts.length c,qS O os.length d])] rfl (cSL (lA 1 25 ([iV inp,qS A ts.length c,qS O os.length d]) hs (fun b1 w2 h3 hs=>lA 2 29 ([iV 0,sZ,sZ]) hs (fun b4 w5 h6 hs=>lN (cQ ?_)))));have hsr:=hs;refine cR 8 [⟨7,3,.cells (List.toArray [iV 0,sZ,sZ]) 29 (0,0)⟩] mixed hs (al_cons (alOk kR (fun _ _=>by kernel_rfl)) al_nil) (eV 0 7 (pB b1) (eO 1 8 [(1,0,1)] (iV inp) hs (eV 3 10 (qP b1 2) (eO 4 11 [(1,2,1)] (qS O os.length d) hs (eR 2 9 3 0 ([]) hs (fun b7 w8 h9 hs=>eYz 5 12 3 1 i64c 0 b7 O os d 8 (iV 0) hs (fun _ f_=>f_.2.2.1) oM (fun _ _=>by kernel_rfl) (fun za zb _ _ hs=>eV 6 13 (.agg #[iV inp,sZ,qS za ((os).length) zb]) (eD1q [] [⟨3,1,za,zb,(os).length,(os).flatMap i64c⟩] hsr hs 29 [iV 0,sZ,sZ] (fun _ zn zc hs=>tP 8 0 0 ([iV inp,sZ,qS za ((os).length) zb]) hs (fun _ hs=>tN (cQ (cSL (lL hs [.v 4 (iV 0)] (lN (kZ ?_)))))))))))))));replace hs:=hs.nil 43 9;refine cTo [(1,pB b1),(2,pB b4),(3,pB zc),(4,iV 0)] ?_;refine CG.loop (fun μ_ Γ w_=>∃ (k:Nat) (saA:Option Addr) (sac:Nat) (al:List Stp) (h_:Hp),μ_=ss.length-k∧Γ=[(1,pB b1),(2,pB b4),(3,pB zc),(4,nV k)]∧SS w h w_ h_ [⟨zc,29,[iV inp,qS saA ((al).length) sac,qS za ((os).length) zb]⟩,⟨b4,29,[iV 0,sZ,sZ]⟩,⟨b1,25,[iV inp,qS A ts.length c,qS O os.length d]⟩] [⟨43,9,saA,sac,(al).length,(al).flatMap stc⟩,⟨3,1,za,zb,(os).length,(os).flatMap i64c⟩] [fun h_=>Seg h_ b7 0 ([]),fun h_=>Tab h_,Si O os,fun h_=>RSs h_ ts ss,fun h_=>SlO 7 rsc rst0 h_ A ts]∧k≤ss.length∧al=(ss.take k).map OSt.stp) _ ⟨0,none,0,[],zn,rfl,rfl,hs.to _ _,Nat.zero_le _,rfl⟩ ?_;rintro _ _ _ ⟨k,saA,sac,al,_,hm22,rfl,hs,hk,hal⟩;have hll:al.length=k:=by rw[hal];simp;omega
 have hz0:=fun h0=>((hs.f.r.2.1).at_ k h0).z
 have hop:=odn_pos (o:=(ss.getD k ost0));refine cQ (cSL (lL hs [.m 14 4,.v 15 (qP b1 1),.o 16 (qS A ts.length c) 2 1 1,.v 17 (nV ts.length)] ?_));cases ze:(decide ((k:Int)<(ts.length:Int)))
 ·
  have zg:=oF ze;refine lB 18 ze (lN (cIF (CG.exit ?_)))
  show CG _ _ _ _ _ _ _ _
  refine cSL ?_;obtain ⟨_,hs,hc25⟩:=hs.pubr 0 (A:=saA) (c:=sac) (l:=al) (f:=stc) (ty:=43) (sz:=9) stp0 (fun _=>rfl);obtain ⟨_,hs,hc28⟩:=hs.pubr 0 (A:=za) (c:=zb) (l:=os) (f:=i64c) (ty:=3) (sz:=1) 0 (fun _=>rfl);refine lL hs [.o 50 (.agg #[iV inp,qS saA ((al).length) sac,qS za ((os).length) zb]) 0 0 3] (lP 1 0 ([iV inp,qS saA ((al).length) sac,qS za ((os).length) zb]) hs (fun _ hs=>lN (kX ?_)));have hkn:k=ss.length:=by omega
  subst hkn;rw[List.take_length] at hal
  exact hs.ret [(1,0,3)] (.agg #[iV inp,qS saA ((al).length) sac,qS za ((os).length) zb]) (⟨saA,sac,za,zb,by rw[hal],by rw[←hal];exact hs.f.2.1,hs.f.1⟩)
 have zg:=oT ze;refine lB 18 ze (lN (cIT (cK (cQ (kZ (cSL (lL hs [.v 21 (qP b1 1),.o 22 (qS A ts.length c) 2 1 1,.m 23 4] (lX 24 A ts.length c 7 (k:Nat) k ((hs.f.q.1).ok oM) ?_))))))));obtain ⟨Aqx,cqx,Dqx,dqx,eqx,hcqx,hdqx,hAqx,hDqx⟩:=((hs.f.r.2.1).at_ k oM).opn;replace hs:=hs.aP hAqx hDqx;refine lHe 25 (.agg #[iV ((ts.getD k rst0).op),iV ((ts.getD k rst0).a),iV ((ts.getD k rst0).b),iV ((ts.getD k rst0).n),.bool ((ts.getD k rst0).t.1),(ts.getD k rst0).t.2.1,(ts.getD k rst0).t.2.2]) hs ((hs.f.q.r.1).el k oM) eqx (lA 5 58 ([iV 0,iV 0,iV 0,iV 0,qF,sZ,sZ]) hs (fun zd _ _ hs=>lP 0 0 ([iV ((ss.getD k ost0).op),iV ((ss.getD k ost0).a),iV ((ss.getD k ost0).b),iV ((ss.getD k ost0).n),.bool (ineg (ss.getD k ost0).q.num),qS Aqx ((lim (iabs (ss.getD k ost0).q.num)).length) cqx,qS Dqx ((lim (odn (ss.getD k ost0))).length) dqx]) hs (fun _ hs=>lNS (lL hs [.v 26 (pB zd),.o 27 (iV ((ss.getD k ost0).op)) 0 0 1,.v 28 (qP zd 1),.o 29 (iV ((ss.getD k ost0).a)) 0 1 1,.v 30 (qP zd 2),.o 31 (iV ((ss.getD k ost0).b)) 0 2 1,.v 32 (qP zd 3),.o 33 (iV ((ss.getD k ost0).n)) 0 3 1,.v 34 (.agg #[iV ((ss.getD k ost0).op),iV ((ss.getD k ost0).a),iV ((ss.getD k ost0).b),iV ((ss.getD k ost0).n),qF,uV 0,eS,uV 0,eS])] (lA 6 43 ([iV 0,iV 0,iV 0,iV 0,qF,uV 0,eS,uV 0,eS]) hs (fun zo _ _ hs=>lP 0 0 ([iV ((ss.getD k ost0).op),iV ((ss.getD k ost0).a),iV ((ss.getD k ost0).b),iV ((ss.getD k ost0).n),qF,uV 0,eS,uV 0,eS]) hs (fun _ hs=>lN (cQ (cSL (lL hs [.v 35 (qP zd 4),.v 36 (qP zd 6),.o 37 (qS Dqx ((lim (odn (ss.getD k ost0))).length) dqx) 1 6 1,.v 38 (nV ((lim (odn (ss.getD k ost0))).length))] ?_))))))))));cases zf:(decide ((0:Int)<(((lim (odn (ss.getD k ost0))).length:Nat):Int)))
 ·
  have zi:=oF zf;refine lB 39 zf (lN (cIF (cK (kQ (lL hs [.v 44 (qP zc 1),.o 45 (qS saA ((al).length) sac) 2 1 1,.o 46 (.agg #[iV ((ss.getD k ost0).op),iV ((ss.getD k ost0).a),iV ((ss.getD k ost0).b),iV ((ss.getD k ost0).n),qF,uV 0,eS,uV 0,eS]) 0 0 9] (lR 47 43 1 ([iV ((ss.getD k ost0).op),iV ((ss.getD k ost0).a),iV ((ss.getD k ost0).b),iV ((ss.getD k ost0).n),qF,uV 0,eS,uV 0,eS]) hs (fun zp _ _ hs=>lY 48 0 43 9 sac saA al stc (⟨(ss.getD k ost0).op,(ss.getD k ost0).a,(ss.getD k ost0).b,(ss.getD k ost0).n,0⟩:Stp) 88 zp (.agg #[iV 0,iV 0,iV 0,iV 0,qF,uV 0,eS,uV 0,eS]) hs hs.f.1 (fun zj zk _ zq hs=>lL hs [.v 49 (qP zc 1)] (lP 2 1 ([qS zj ((al++[(⟨(ss.getD k ost0).op,(ss.getD k ost0).a,(ss.getD k ost0).b,(ss.getD k ost0).n,0⟩:Stp)]).length) zk]) hs (fun _ hs=>lN (kQ (lL hs [.m 19 4] (lIn 20 ((k:Nat)+1) (k+1) ?_)))))))))))));refine lL hs [.m 4 20] (lD ?_);intro a_ ka;replace hs:=hs.tl.tl.tl;replace hs:=hs.drop 2 0;refine ⟨_,_,?_,⟨k+1,zj,zk,al++[(⟨(ss.getD k ost0).op,(ss.getD k ost0).a,(ss.getD k ost0).b,(ss.getD k ost0).n,0⟩:Stp)],zq,rfl,rfl,hs.to _ _,oM,(by rw[take_snoc' ost0 oM,List.map_append,hal];first|rfl|(have hq0:(ss.getD k ost0).q=0:=hz0 oM (by cases h_:(ss.getD k ost0).has;rfl;rw[h_] at hop;have:=hop.2 rfl;omega);show _=_++[_];unfold OSt.stp;rw[hq0]))⟩,ka.to _ kR⟩
  omega
 have zi:=oT zf;refine lB 39 zf (lN (cIT (kQ (lL hs [.v 40 (qP zd 4),.o 41 (.agg #[.bool (ineg (ss.getD k ost0).q.num),qS Aqx ((lim (iabs (ss.getD k ost0).q.num)).length) cqx,qS Dqx ((lim (odn (ss.getD k ost0))).length) dqx]) 1 4 3] ?_))));have hh:(ss.getD k ost0).has=true:=odn_pos.1 oM;refine lC 42 hs (hInV (.agg #[.bool (ineg (ss.getD k ost0).q.num),qS Aqx ((lim (iabs (ss.getD k ost0).q.num)).length) cqx,qS Dqx ((lim (odn (ss.getD k ost0))).length) dqx]) (ss.getD k ost0).q ((hS k oM).q.mono oM) _ _ hs.g ⟨Aqx,cqx,Dqx,dqx,by rw[odn_has hh],hcqx,by rw[←odn_has hh];exact hdqx,hs.f.2.1,by rw[←odn_has hh];exact hs.f.1⟩ hs.f.r.2.1) ?_;rintro _ _ _ hs rfl;refine lL hs [.v 43 (qP zo 4)] (lP 0 4 (qc ((ss.getD k ost0).q)) hs (fun _ hs=>lN (kQ (lL hs [.v 44 (qP zc 1),.o 45 (qS saA ((al).length) sac) 2 1 1,.o 46 (.agg #[iV ((ss.getD k ost0).op),iV ((ss.getD k ost0).a),iV ((ss.getD k ost0).b),iV ((ss.getD k ost0).n),.bool (ineg ((ss.getD k ost0).q).num),uV (lo (iabs ((ss.getD k ost0).q).num)),.string (hi (iabs ((ss.getD k ost0).q).num)),uV (lo (qd ((ss.getD k ost0).q))),.string (hi (qd ((ss.getD k ost0).q)))]) 0 0 9] (lR 47 43 1 ([iV ((ss.getD k ost0).op),iV ((ss.getD k ost0).a),iV ((ss.getD k ost0).b),iV ((ss.getD k ost0).n),.bool (ineg ((ss.getD k ost0).q).num),uV (lo (iabs ((ss.getD k ost0).q).num)),.string (hi (iabs ((ss.getD k ost0).q).num)),uV (lo (qd ((ss.getD k ost0).q))),.string (hi (qd ((ss.getD k ost0).q)))]) hs (fun zr _ _ hs=>lY 48 0 43 9 sac saA al stc (⟨(ss.getD k ost0).op,(ss.getD k ost0).a,(ss.getD k ost0).b,(ss.getD k ost0).n,(ss.getD k ost0).q⟩:Stp) 88 zr (.agg #[iV 0,iV 0,iV 0,iV 0,qF,uV 0,eS,uV 0,eS]) hs hs.f.1 (fun zl zm _ zs hs=>lL hs [.v 49 (qP zc 1)] (lP 2 1 ([qS zl ((al++[(⟨(ss.getD k ost0).op,(ss.getD k ost0).a,(ss.getD k ost0).b,(ss.getD k ost0).n,(ss.getD k ost0).q⟩:Stp)]).length) zm]) hs (fun _ hs=>lN (kQ (lL hs [.m 19 4] (lIn 20 ((k:Nat)+1) (k+1) ?_))))))))))));refine lL hs [.m 4 20] (lD ?_);intro a_ ka;replace hs:=hs.tl.tl.tl;replace hs:=hs.drop 2 0;refine ⟨_,_,?_,⟨k+1,zl,zm,al++[(⟨(ss.getD k ost0).op,(ss.getD k ost0).a,(ss.getD k ost0).b,(ss.getD k ost0).n,(ss.getD k ost0).q⟩:Stp)],zs,rfl,rfl,hs.to _ _,oM,(by rw[take_snoc' ost0 oM,List.map_append,hal];first|rfl|(have hq0:(ss.getD k ost0).q=0:=hz0 oM (by cases h_:(ss.getD k ost0).has;rfl;rw[h_] at hop;have:=hop.2 rfl;omega);show _=_++[_];unfold OSt.stp;rw[hq0]))⟩,ka.to _ kR⟩
 omega
def sqN:Stp:=⟨2,0,0,0,0⟩
def sqM:Stp:=⟨5,0,0,0,0⟩
theorem sq_any {P:Nat→Prop}(h0:P 0)(h1:P 1):∀ k,k<[sqN,sqM].length→P k
  | 0,_=>h0
  | 1,_=>h1
  | k+2,h=>absurd h (by show ¬k+2<2;omega)
theorem sqF:∀ k,k<[sqN,sqM].length→Formed 1 k ([sqN,sqM].getD k stp0):=sq_any (P:=fun k=>Formed 1 k ([sqN,sqM].getD k stp0)) (by decide +kernel) (by decide +kernel)
theorem lq_one {z:Int}(h : -9223372036854775808≤z∧z≤9223372036854775807):∀ j,LQ 1 (([(z:Rat)]:List Rat).getD j 0)
  | 0=>LQ.lit h
  | j+1=>by show LQ 1 (([]:List Rat).getD j 0);rw[getD_outR (by simp)];exact lq0 oM
theorem sqQ:∀ i,LQ 1 ([sqN,sqM].getD i stp0).q
  | 0=>lq0 oM
  | 1=>lq0 oM
  | i+2=>by show LQ 1 (([]:List Stp).getD i stp0).q;simp;exact lq0 oM
theorem sqB:∀ k,k≤[sqN,sqM].length→terr true [sqN,sqM] [((3:Int):Rat)] k=0→∀ j,LQ 1000000 ((tvals [sqN,sqM] [((3:Int):Rat)] k).getD j 0)
  | 0,_,_,j=>by show LQ _ (([]:List Rat).getD j 0);rw[getD_outR (by simp)];exact lq0 kD
  | 1,_,_,j=>by rw[show tvals [sqN,sqM] [((3:Int):Rat)] 1=[((3:Int):Rat)] from by decide +kernel];exact (lq_one kD j).mono kD
  | 2,_,_,j=>by
    rw[show tvals [sqN,sqM] [((3:Int):Rat)] 2=[((3:Int):Rat),((9:Int):Rat)] from by decide +kernel]
    match j with
    | 0=>exact (LQ.lit (z:=3) kD).mono kD
    | 1=>exact (LQ.lit (z:=9) kD).mono kD
    | j+2=>show LQ _ (([]:List Rat).getD j 0);rw[getD_outR (by simp)];exact lq0 kD
  | k+3,h,_,_=>absurd h (by show ¬k+3≤2;omega)
theorem tBackS (A:Option Addr)(c:Nat)(O:Option Addr)(d:Nat)(X:Option Addr)(cX:Nat)(Y:Option Addr)(cY:Nat)(w:World)(h:Hp)(g:G w h)(hA:SlO 9 stc stp0 h A [sqN,sqM])(hO:Si O [1] h)(hX:Sq X [((3:Int):Rat)] h)(hY:Sq Y [((1:Int):Rat)] h)(tb:Tab h):CR 17 #[.agg #[iV 1,.slice A 2 c,.slice O 1 d],.slice X 1 cX,.slice Y 1 cY] w h (fun v h1=>∃ A1 c1 A2 c2,v=.tuple #[.slice A1 1 c1,.slice A2 1 c2,iV 0]∧1≤c1∧1≤c2∧Sq A1 [((9:Int):Rat)] h1∧Sq A2 [((6:Int):Rat)] h1):=by
 have hs:=((((((sS g).aS hA).aS hO).aS hX).aS hY).aB tb);have hln:[sqN,sqM].length=2:=rfl;have hlo:[(1:Int)].length=1:=rfl;have hlx:[((3:Int):Rat)].length=1:=rfl;have hly:[((1:Int):Rat)].length=1:=rfl;refine go Tryz.func17 [(0,.agg #[iV 1,qS A 2 c,qS O 1 d]),(1,qS X 1 cX),(2,qS Y 1 cY)] rfl (cSL (lA 3 29 ([iV 1,qS A 2 c,qS O 1 d]) hs (fun b1 w2 h3 hs=>lL hs [.v 6 (sZ),.v 7 (sZ),.v 8 (iV 0)] (lN (cQ (cSL (lL hs [.o 17 (.agg #[iV 1,qS A 2 c,qS O 1 d]) 0 0 3] (lC 18 hs ((by have q_:=tCheck 1 A c [sqN,sqM] O d [1] kD kD (fun i _=>sqQ i) _ _ hs.g hs.f.q.1 (hs.f.r.2.1);rw[show chkTp 1 [sqN,sqM] [1]=0 from by decide +kernel] at q_;exact q_)) ?_))))))));rintro _ w4 h5 hs rfl;refine lL hs [.v 19 qF] (lN (cIF (cK (cQ (cSL (lL hs [.m 20 1,.v 21 (iV 1),.v 22 (pB b1),.o 23 (iV 1) 0 0 1,.v 24 qF,.m 25 24,.m 26 2,.v 27 (iV 1),.v 28 (qP b1 2),.o 29 (qS O 1 d) 0 2 1,.v 30 (iV 1),.v 31 qF,.v 32 qF] (lN (cIF (cK (cSL (lL hs [.o 34 (.agg #[iV 1,qS A 2 c,qS O 1 d]) 0 0 3,.m 35 1] (lC 36 hs ((by have q_:=tValues true true rfl 1 A c [sqN,sqM] O d [1] [((3:Int):Rat)] X cX sqF kD kD sqQ sqB _ _ hs.g hs.f.q.1 hs.f.r.2.1 hs.f.r.1 (hs.f.1);rw[show vlist true [sqN,sqM] [((3:Int):Rat)]=[((3:Int):Rat),((9:Int):Rat)] from by decide +kernel,show terr true [sqN,sqM] [((3:Int):Rat)] [sqN,sqM].length=0 from by decide +kernel] at q_;exact q_)) ?_))))))))))));rintro _ w6 h7 hs ⟨Av,cv,rfl,hcv,hAv⟩;replace hs:=hs.aS hAv;have hlv:[((3:Int):Rat),((9:Int):Rat)].length=2:=rfl;refine lL hs [.m 33 36,.v 37 (qS Av 2 cv),.v 38 (iV 0),.m 9 37,.m 8 38] (lN (cQ (cSL (lL hs [.m 39 8,.v 40 qF] (lN (cIF (cK (cSL (lL hs [.v 42 (pB b1),.o 43 (iV 1) 0 0 1] (lK 44 41 1 5 56 (.agg #[qF,uV 0,eS,uV 0,eS]) qc 0 hs (fun b8 w9 _ hs=>?_)))))))))));have hl11:(List.replicate 1 0).length=1:=by simp
 replace hs:=hs.to [⟨b8,41,(([0]:List Rat)).flatMap qc⟩,⟨b1,29,[iV 1,qS A 2 c,qS O 1 d]⟩] [];refine lL hs [.m 7 44] (lNS (lL hs [.v 45 (qP b1 1),.o 46 (qS A 2 c) 1 1 1,.v 47 (iV 2)] (lK 48 41 2 5 56 (.agg #[qF,uV 0,eS,uV 0,eS]) qc 0 hs (fun za _ _ hs=>?_))));have hl15:(List.replicate 2 0).length=2:=by simp
 replace hs:=hs.to [⟨za,41,(([0,0]:List Rat)).flatMap qc⟩,⟨b8,41,(([0]:List Rat)).flatMap qc⟩,⟨b1,29,[iV 1,qS A 2 c,qS O 1 d]⟩] [];refine lL hs [.m 10 48] (lN (cQ (cSL (lL hs [.v 49 (qP b1 2),.o 50 (qS O 1 d) 2 2 1,.v 51 (iV 1),.v 52 (iV 0)] (lN (cTo [(2,qS Y 1 cY),(3,pB b1),(6,sZ),(7,qS (sB b8) 1 1),(8,iV 0),(9,qS Av 2 cv),(10,qS (sB za) 2 2),(50,qS O 1 d),(51,iV 1),(52,iV 0)] ?_))))));refine kZ (cU ?_);refine cN (cSL (lL hs [.v 53 qT] (lN (cQ (cIT (cK (cQ (kZ (cSL (lL hs [.m 54 52] (lX 55 O 1 d 1 0 0 ((hs.f.q.1).ok oM) ?_)))))))))));refine lH 56 (iV 1) hs ((hs.f.q.1).el 0 oM) (lL hs [.m 11 54,.m 12 56] (lN (cR 11 [] mixed hs al_nil ?_)));refine eV 0 57 (qS (sB za) 2 2) (eV 1 58 (iV 1) (eV 2 59 (qS (sB za) 2 2) (eV 3 60 (iV 1) (eX 4 61 (sB za) 2 2 5 1 1 rfl (eQ 5 62 0 ([0,0]:List Rat) qc 5 0 1 (qv 0) hs kD (eV 6 63 (qS Y 1 cY) (eV 7 64 (iV 0) (eX 8 65 Y 1 cY 5 0 0 ((hs.f.r.1).ok oM) (eH 9 66 (qv ((1:Int):Rat)) hs ((hs.f.r.1).el 0 oM) (eC 10 67 hs (fun _ _ hs=>(by have q_:=fAdd (0) (((1:Int):Rat)) ⟨by decide +kernel,by decide +kernel⟩ ⟨by decide +kernel,by decide +kernel⟩ _ _ hs.g (hs.f.2.1);rw[show (0)+(((1:Int):Rat))=((1:Int):Rat) from by decide +kernel] at q_;exact q_)) ?_))))))))));rintro _ _ _ _ _ hs rfl;refine eD0 hs (fun _ _ hs=>tX 11 68 (sB za) 2 2 5 1 1 rfl (tW 12 0 ([0,0]:List Rat) qc 5 1 ((1:Int):Rat) hs kD (fun _ hs=>?_)));have hl21:(([0,((1:Int):Rat)]:List Rat)).length=2:=rfl;replace hs:=hs.to [⟨za,41,(([0,((1:Int):Rat)]:List Rat)).flatMap qc⟩,⟨b8,41,(([0]:List Rat)).flatMap qc⟩,⟨b1,29,[iV 1,qS A 2 c,qS O 1 d]⟩] [];refine tN (kQ (lL hs [.v 69 (iV 1),.m 52 69] (lD (CL.to [(2,qS Y 1 cY),(3,pB b1),(6,sZ),(7,qS (sB b8) 1 1),(8,iV 0),(9,qS Av 2 cv),(10,qS (sB za) 2 2),(50,qS O 1 d),(51,iV 1),(52,iV 1),(53,qT),(54,iV 0),(55,.pointer (some ⟨(aB O),aO O+0*1,none⟩)),(56,iV 1),(11,iV 0),(12,iV 1),(57,qS (sB za) 2 2),(58,iV 1),(59,qS (sB za) 2 2),(60,iV 1),(61,qP za (0+1*5)),(62,qv 0),(63,qS Y 1 cY),(64,iV 0),(65,.pointer (some ⟨(aB Y),aO Y+0*5,none⟩)),(66,qv ((1:Int):Rat)),(67,qv ((1:Int):Rat)),(68,qP za (0+1*5)),(69,iV 1)] ?_))));replace hs:=hs.to [⟨za,41,(([0,((1:Int):Rat)]:List Rat)).flatMap qc⟩,⟨b8,41,(([0]:List Rat)).flatMap qc⟩,⟨b1,29,[iV 1,qS A 2 c,qS O 1 d]⟩] [];refine cN (cSL (lL hs [.v 53 qF] (lN (cQ (cIF (CG.exit ?_))))))
 show CG _ _ _ _ _ _ _ _
 refine cQ (cSL (lL hs [.v 70 (qP b1 1),.o 71 (qS A 2 c) 2 1 1,.v 72 (iV 2),.v 73 (iV 1),.m 13 73] (lN (kZ (cU ?_)))));refine cN (cQ (cSL (lL hs [.m 74 13,.v 75 qT] (lN (cIT (cK (cQ (kZ (cSL (lL hs [.v 78 (qP b1 1),.o 79 (qS A 2 c) 2 1 1,.m 80 13] (lX 81 A 2 c 9 1 1 ((hs.f.q.2.1).ok oM) ?_)))))))))));refine lH 82 (.agg #[iV 5,iV 0,iV 0,iV 0,.bool (ineg (0:Rat).num),uV (lo (iabs (0:Rat).num)),.string (hi (iabs (0:Rat).num)),uV (lo (qd (0:Rat))),.string (hi (qd (0:Rat)))]) hs ((hs.f.q.2.1).el 1 oM) (lA 14 43 ([iV 0,iV 0,iV 0,iV 0,qF,uV 0,eS,uV 0,eS]) hs (fun zb _ _ hs=>lP 0 0 ([iV 5,iV 0,iV 0,iV 0,.bool (ineg (0:Rat).num),uV (lo (iabs (0:Rat).num)),.string (hi (iabs (0:Rat).num)),uV (lo (qd (0:Rat))),.string (hi (qd (0:Rat)))]) hs (fun _ hs=>lN (cTo [(3,pB b1),(6,sZ),(7,qS (sB b8) 1 1),(8,iV 0),(9,qS Av 2 cv),(10,qS (sB za) 2 2),(13,iV 1),(74,iV 1),(75,qT),(78,qP b1 1),(79,qS A 2 c),(80,iV 1),(81,.pointer (some ⟨(aB A),aO A+1*9,none⟩)),(82,.agg #[iV 5,iV 0,iV 0,iV 0,.bool (ineg (0:Rat).num),uV (lo (iabs (0:Rat).num)),.string (hi (iabs (0:Rat).num)),uV (lo (qd (0:Rat))),.string (hi (qd (0:Rat)))]),(14,pB zb)] ?_))));refine cQ (cSL (lL hs [.m 83 10,.m 84 13] (lX 85 (sB za) 2 2 5 1 1 rfl ?_)));refine lQ 86 1 ([0,((1:Int):Rat)]:List Rat) qc 5 0 1 (qv ((1:Int):Rat)) hs kD (lC 87 hs ((by have q_:=fSign (((1:Int):Rat)) ⟨by decide +kernel,by decide +kernel⟩ _ _ hs.g;rw[show (((1:Int):Rat):Rat).num.sign=1 from by decide +kernel] at q_;exact q_)) ?_);rintro _ _ _ hs rfl;refine lL hs [.v 88 qF] (lN (cIF (cK (cQ (cSL (lL hs [.v 89 (pB zb),.o 90 (iV 5) 0 0 1,.v 91 qF] (lN (cIF (cK (cQ ?_))))))))));have hsr:=hs;refine cR 17 [⟨15,15,.cells (List.toArray [qF,uV 0,eS,uV 0,eS]) 41 (0,0)⟩,⟨16,16,.cells (List.toArray [qF,uV 0,eS,uV 0,eS]) 41 (0,0)⟩] mixed hs (al_cons (alOk kR (fun _ _=>by kernel_rfl)) (al_cons (alOk kR (fun _ _=>by kernel_rfl)) al_nil)) (eO 0 107 [(0,0,9)] (.agg #[iV 5,iV 0,iV 0,iV 0,.bool (ineg (0:Rat).num),uV (lo (iabs (0:Rat).num)),.string (hi (iabs (0:Rat).num)),uV (lo (qd (0:Rat))),.string (hi (qd (0:Rat)))]) hs (eV 1 108 (qS Av 2 cv) (eV 2 109 (qP zb 1) (eO 3 110 [(0,1,1)] (iV 0) hs (eX 4 111 Av 2 cv 5 0 0 ((hs.f.1).ok oM) (eH 5 112 (qv ((3:Int):Rat)) hs ((hs.f.1).el 0 oM) (eV 6 113 (qS Av 2 cv) (eV 7 114 (qP zb 2) (eO 8 115 [(0,2,1)] (iV 0) hs (eX 9 116 Av 2 cv 5 0 0 ((hs.f.1).ok oM) (eH 10 117 (qv ((3:Int):Rat)) hs ((hs.f.1).el 0 oM) (eC 11 118 hs (fun _ _ hs=>(by have q_:=tSlopes sqM ((3:Int):Rat) ((3:Int):Rat) 1 kD ⟨by decide +kernel,by decide +kernel⟩ ⟨by decide +kernel,by decide +kernel⟩ (sqQ 1) kD kD kD kD kD _ _ hs.g (hs.f.2.1);rw[show sla sqM.op sqM.n ((3:Int):Rat) ((3:Int):Rat)=((3:Int):Rat) from by decide +kernel,show slb sqM.op ((3:Int):Rat) ((3:Int):Rat)=((3:Int):Rat) from by decide +kernel] at q_;exact q_)) ?_))))))))))));rintro _ _ _ _ _ hs rfl;refine eV 12 106 (.tuple #[qv ((3:Int):Rat),qv ((3:Int):Rat)]) (eV 13 119 (qv ((3:Int):Rat)) (eV 14 120 (qv ((3:Int):Rat)) (eD2 hsr hs 41 [qF,uV 0,eS,uV 0,eS] 41 [qF,uV 0,eS,uV 0,eS] (fun _ _ zd ze hs=>tP 17 0 0 (qc ((3:Int):Rat)) hs (fun _ hs=>tP 18 1 0 (qc ((3:Int):Rat)) hs (fun _ hs=>tN (cQ (cSL (lL hs [.v 121 (pB zb),.o 122 (iV 5) 2 0 1] (lC 123 hs ((by have q_:=tArity 5 _ _ hs.g;rw[show ari 5=2 from by decide +kernel] at q_;exact q_)) ?_))))))))));rintro _ _ _ hs rfl;refine lL hs [.v 124 qT] (lN (cIT (cR 15 [] mixed hs al_nil ?_)));refine eV 0 125 (qS (sB za) 2 2) (eV 1 126 (qP zb 1) (eO 2 127 [(2,1,1)] (iV 0) hs (eV 3 128 (qS (sB za) 2 2) (eV 4 129 (qP zb 1) (eO 5 130 [(2,1,1)] (iV 0) hs (eX 6 131 (sB za) 2 2 5 0 0 rfl (eQ 7 132 3 ([0,((1:Int):Rat)]:List Rat) qc 5 0 0 (qv 0) hs kD (eV 8 133 (qS (sB za) 2 2) (eV 9 134 (iV 1) (eX 10 135 (sB za) 2 2 5 1 1 rfl (eQ 11 136 3 ([0,((1:Int):Rat)]:List Rat) qc 5 0 1 (qv ((1:Int):Rat)) hs kD (eO 12 137 [(0,0,5)] (qv ((3:Int):Rat)) hs (eC 13 138 hs (fun _ _ hs=>(by have q_:=fMul (((1:Int):Rat)) (((3:Int):Rat)) ⟨by decide +kernel,by decide +kernel⟩ ⟨by decide +kernel,by decide +kernel⟩ _ _ hs.g (hs.f.2.1);rw[show (((1:Int):Rat))*(((3:Int):Rat))=((3:Int):Rat) from by decide +kernel] at q_;exact q_)) ?_)))))))))))));rintro _ _ _ _ _ hs rfl;refine eC 14 139 hs (fun _ _ hs=>(by have q_:=fAdd (0) (((3:Int):Rat)) ⟨by decide +kernel,by decide +kernel⟩ ⟨by decide +kernel,by decide +kernel⟩ _ _ hs.g (hs.f.2.1);rw[show (0)+(((3:Int):Rat))=((3:Int):Rat) from by decide +kernel] at q_;exact q_)) ?_;rintro _ _ _ _ _ hs rfl;refine eD0 hs (fun _ _ hs=>tX 15 140 (sB za) 2 2 5 0 0 rfl (tW 16 3 ([0,((1:Int):Rat)]:List Rat) qc 5 0 ((3:Int):Rat) hs kD (fun _ hs=>?_)));have hl45:(([((3:Int):Rat),((1:Int):Rat)]:List Rat)).length=2:=rfl;replace hs:=hs.to [⟨zd,41,qc ((3:Int):Rat)⟩,⟨ze,41,qc ((3:Int):Rat)⟩,⟨zb,43,[iV 5,iV 0,iV 0,iV 0,.bool (ineg (0:Rat).num),uV (lo (iabs (0:Rat).num)),.string (hi (iabs (0:Rat).num)),uV (lo (qd (0:Rat))),.string (hi (qd (0:Rat)))]⟩,⟨za,41,(([((3:Int):Rat),((1:Int):Rat)]:List Rat)).flatMap qc⟩,⟨b8,41,(([0]:List Rat)).flatMap qc⟩,⟨b1,29,[iV 1,qS A 2 c,qS O 1 d]⟩] [];refine tNS (lL hs [.v 141 (pB zb),.o 142 (iV 5) 2 0 1] (lC 143 hs ((by have q_:=tArity 5 _ _ hs.g;rw[show ari 5=2 from by decide +kernel] at q_;exact q_)) ?_));rintro _ _ _ hs rfl;refine lL hs [.v 144 qT] (lN (cIT (cR 15 [] mixed hs al_nil ?_)));refine eV 0 145 (qS (sB za) 2 2) (eV 1 146 (qP zb 2) (eO 2 147 [(2,2,1)] (iV 0) hs (eV 3 148 (qS (sB za) 2 2) (eV 4 149 (qP zb 2) (eO 5 150 [(2,2,1)] (iV 0) hs (eX 6 151 (sB za) 2 2 5 0 0 rfl (eQ 7 152 3 ([((3:Int):Rat),((1:Int):Rat)]:List Rat) qc 5 0 0 (qv ((3:Int):Rat)) hs kD (eV 8 153 (qS (sB za) 2 2) (eV 9 154 (iV 1) (eX 10 155 (sB za) 2 2 5 1 1 rfl (eQ 11 156 3 ([((3:Int):Rat),((1:Int):Rat)]:List Rat) qc 5 0 1 (qv ((1:Int):Rat)) hs kD (eO 12 157 [(1,0,5)] (qv ((3:Int):Rat)) hs (eC 13 158 hs (fun _ _ hs=>(by have q_:=fMul (((1:Int):Rat)) (((3:Int):Rat)) ⟨by decide +kernel,by decide +kernel⟩ ⟨by decide +kernel,by decide +kernel⟩ _ _ hs.g (hs.f.2.1);rw[show (((1:Int):Rat))*(((3:Int):Rat))=((3:Int):Rat) from by decide +kernel] at q_;exact q_)) ?_)))))))))))));rintro _ _ _ _ _ hs rfl;refine eC 14 159 hs (fun _ _ hs=>(by have q_:=fAdd (((3:Int):Rat)) (((3:Int):Rat)) ⟨by decide +kernel,by decide +kernel⟩ ⟨by decide +kernel,by decide +kernel⟩ _ _ hs.g (hs.f.2.1);rw[show (((3:Int):Rat))+(((3:Int):Rat))=((6:Int):Rat) from by decide +kernel] at q_;exact q_)) ?_;rintro _ _ _ _ _ hs rfl;refine eD0 hs (fun _ _ hs=>tX 15 160 (sB za) 2 2 5 0 0 rfl (tW 16 3 ([((3:Int):Rat),((1:Int):Rat)]:List Rat) qc 5 0 ((6:Int):Rat) hs kD (fun _ hs=>?_)));have hl55:(([((6:Int):Rat),((1:Int):Rat)]:List Rat)).length=2:=rfl;replace hs:=hs.to [⟨zd,41,qc ((3:Int):Rat)⟩,⟨ze,41,qc ((3:Int):Rat)⟩,⟨zb,43,[iV 5,iV 0,iV 0,iV 0,.bool (ineg (0:Rat).num),uV (lo (iabs (0:Rat).num)),.string (hi (iabs (0:Rat).num)),uV (lo (qd (0:Rat))),.string (hi (qd (0:Rat)))]⟩,⟨za,41,(([((6:Int):Rat),((1:Int):Rat)]:List Rat)).flatMap qc⟩,⟨b8,41,(([0]:List Rat)).flatMap qc⟩,⟨b1,29,[iV 1,qS A 2 c,qS O 1 d]⟩] [];refine tN (kQ (lL hs [.m 76 13,.v 77 (iV 0),.m 13 77] (lD (CL.to [(3,pB b1),(6,sZ),(7,qS (sB b8) 1 1),(8,iV 0),(9,qS Av 2 cv),(10,qS (sB za) 2 2),(13,iV 0),(74,iV 1),(75,qT),(78,qP b1 1),(79,qS A 2 c),(80,iV 1),(81,.pointer (some ⟨(aB A),aO A+1*9,none⟩)),(82,.agg #[iV 5,iV 0,iV 0,iV 0,.bool (ineg (0:Rat).num),uV (lo (iabs (0:Rat).num)),.string (hi (iabs (0:Rat).num)),uV (lo (qd (0:Rat))),.string (hi (qd (0:Rat)))]),(14,pB zb),(83,qS (sB za) 2 2),(84,iV 1),(85,qP za (0+1*5)),(86,qv ((1:Int):Rat)),(87,iV 1),(88,qF),(89,pB zb),(90,iV 5),(91,qF),(107,.agg #[iV 5,iV 0,iV 0,iV 0,.bool (ineg (0:Rat).num),uV (lo (iabs (0:Rat).num)),.string (hi (iabs (0:Rat).num)),uV (lo (qd (0:Rat))),.string (hi (qd (0:Rat)))]),(108,qS Av 2 cv),(109,qP zb 1),(110,iV 0),(111,.pointer (some ⟨(aB Av),aO Av+0*5,none⟩)),(112,qv ((3:Int):Rat)),(113,qS Av 2 cv),(114,qP zb 2),(115,iV 0),(116,.pointer (some ⟨(aB Av),aO Av+0*5,none⟩)),(117,qv ((3:Int):Rat)),(118,.tuple #[qv ((3:Int):Rat),qv ((3:Int):Rat)]),(106,.tuple #[qv ((3:Int):Rat),qv ((3:Int):Rat)]),(119,qv ((3:Int):Rat)),(120,qv ((3:Int):Rat)),(16,pB ze),(15,pB zd),(121,pB zb),(122,iV 5),(123,iV 2),(124,qT),(125,qS (sB za) 2 2),(126,qP zb 1),(127,iV 0),(128,qS (sB za) 2 2),(129,qP zb 1),(130,iV 0),(131,qP za (0+0*5)),(132,qv 0),(133,qS (sB za) 2 2),(134,iV 1),(135,qP za (0+1*5)),(136,qv ((1:Int):Rat)),(137,qv ((3:Int):Rat)),(138,qv ((3:Int):Rat)),(139,qv ((3:Int):Rat)),(140,qP za (0+0*5)),(141,pB zb),(142,iV 5),(143,iV 2),(144,qT),(145,qS (sB za) 2 2),(146,qP zb 2),(147,iV 0),(148,qS (sB za) 2 2),(149,qP zb 2),(150,iV 0),(151,qP za (0+0*5)),(152,qv ((3:Int):Rat)),(153,qS (sB za) 2 2),(154,iV 1),(155,qP za (0+1*5)),(156,qv ((1:Int):Rat)),(157,qv ((3:Int):Rat)),(158,qv ((3:Int):Rat)),(159,qv ((6:Int):Rat)),(160,qP za (0+0*5)),(76,iV 1),(77,iV 0)] ?_))));replace hs:=hs.to [⟨zd,41,qc ((3:Int):Rat)⟩,⟨ze,41,qc ((3:Int):Rat)⟩,⟨zb,43,[iV 5,iV 0,iV 0,iV 0,.bool (ineg (0:Rat).num),uV (lo (iabs (0:Rat).num)),.string (hi (iabs (0:Rat).num)),uV (lo (qd (0:Rat))),.string (hi (qd (0:Rat)))]⟩,⟨za,41,(([((6:Int):Rat),((1:Int):Rat)]:List Rat)).flatMap qc⟩,⟨b8,41,(([0]:List Rat)).flatMap qc⟩,⟨b1,29,[iV 1,qS A 2 c,qS O 1 d]⟩] [];refine cN (cQ (cSL (lL hs [.m 74 13,.v 75 qT] (lN (cIT (cK (cQ (kZ (cSL (lL hs [.v 78 (qP b1 1),.o 79 (qS A 2 c) 5 1 1,.m 80 13] (lX 81 A 2 c 9 0 0 ((hs.f.q.2.1).ok oM) ?_)))))))))));refine lH 82 (.agg #[iV 2,iV 0,iV 0,iV 0,.bool (ineg (0:Rat).num),uV (lo (iabs (0:Rat).num)),.string (hi (iabs (0:Rat).num)),uV (lo (qd (0:Rat))),.string (hi (qd (0:Rat)))]) hs ((hs.f.q.2.1).el 0 oM) (lA 14 43 ([iV 0,iV 0,iV 0,iV 0,qF,uV 0,eS,uV 0,eS]) hs (fun zc _ _ hs=>lP 0 0 ([iV 2,iV 0,iV 0,iV 0,.bool (ineg (0:Rat).num),uV (lo (iabs (0:Rat).num)),.string (hi (iabs (0:Rat).num)),uV (lo (qd (0:Rat))),.string (hi (qd (0:Rat)))]) hs (fun _ hs=>lN (cQ (cSL (lL hs [.m 83 10,.m 84 13] (lX 85 (sB za) 2 2 5 0 0 rfl ?_)))))));refine lQ 86 4 ([((6:Int):Rat),((1:Int):Rat)]:List Rat) qc 5 0 0 (qv ((6:Int):Rat)) hs kD (lC 87 hs ((by have q_:=fSign (((6:Int):Rat)) ⟨by decide +kernel,by decide +kernel⟩ _ _ hs.g;rw[show (((6:Int):Rat):Rat).num.sign=1 from by decide +kernel] at q_;exact q_)) ?_);rintro _ _ _ hs rfl;refine lL hs [.v 88 qF] (lN (cIF (cK (cQ (cSL (lL hs [.v 89 (pB zc),.o 90 (iV 2) 0 0 1,.v 91 qT] (lN (cIT (cQ (cR 13 [] mixed hs al_nil ?_))))))))));refine eV 0 92 (qS (sB b8) 1 1) (eV 1 93 (qP zc 3) (eO 2 94 [(0,3,1)] (iV 0) hs (eV 3 95 (qS (sB b8) 1 1) (eV 4 96 (qP zc 3) (eO 5 97 [(0,3,1)] (iV 0) hs (eX 6 98 (sB b8) 1 1 5 0 0 rfl (eQ 7 99 5 ([0]:List Rat) qc 5 0 0 (qv 0) hs kD (eV 8 100 (qS (sB za) 2 2) (eV 9 101 (iV 0) (eX 10 102 (sB za) 2 2 5 0 0 rfl (eQ 11 103 4 ([((6:Int):Rat),((1:Int):Rat)]:List Rat) qc 5 0 0 (qv ((6:Int):Rat)) hs kD (eC 12 104 hs (fun _ _ hs=>(by have q_:=fAdd (0) (((6:Int):Rat)) ⟨by decide +kernel,by decide +kernel⟩ ⟨by decide +kernel,by decide +kernel⟩ _ _ hs.g (hs.f.2.1);rw[show (0)+(((6:Int):Rat))=((6:Int):Rat) from by decide +kernel] at q_;exact q_)) ?_))))))))))));rintro _ _ _ _ _ hs rfl;refine eD0 hs (fun _ _ hs=>tX 13 105 (sB b8) 1 1 5 0 0 rfl (tW 14 5 ([0]:List Rat) qc 5 0 ((6:Int):Rat) hs kD (fun _ hs=>?_)));have hl67:(([((6:Int):Rat)]:List Rat)).length=1:=rfl;replace hs:=hs.to [⟨zc,43,[iV 2,iV 0,iV 0,iV 0,.bool (ineg (0:Rat).num),uV (lo (iabs (0:Rat).num)),.string (hi (iabs (0:Rat).num)),uV (lo (qd (0:Rat))),.string (hi (qd (0:Rat)))]⟩,⟨zd,41,qc ((3:Int):Rat)⟩,⟨ze,41,qc ((3:Int):Rat)⟩,⟨zb,43,[iV 5,iV 0,iV 0,iV 0,.bool (ineg (0:Rat).num),uV (lo (iabs (0:Rat).num)),.string (hi (iabs (0:Rat).num)),uV (lo (qd (0:Rat))),.string (hi (qd (0:Rat)))]⟩,⟨za,41,(([((6:Int):Rat),((1:Int):Rat)]:List Rat)).flatMap qc⟩,⟨b8,41,(([((6:Int):Rat)]:List Rat)).flatMap qc⟩,⟨b1,29,[iV 1,qS A 2 c,qS O 1 d]⟩] [];refine tN (CG.exit ?_)
 show CG _ _ _ _ _ _ _ _
 refine kQ (lL hs [.m 76 13,.v 77 (iV (-1)),.m 13 77] (lD (CL.to [(3,pB b1),(6,sZ),(7,qS (sB b8) 1 1),(8,iV 0),(9,qS Av 2 cv),(10,qS (sB za) 2 2),(13,iV (-1)),(74,iV 0),(75,qT),(78,qP b1 1),(79,qS A 2 c),(80,iV 0),(81,.pointer (some ⟨(aB A),aO A+0*9,none⟩)),(82,.agg #[iV 2,iV 0,iV 0,iV 0,.bool (ineg (0:Rat).num),uV (lo (iabs (0:Rat).num)),.string (hi (iabs (0:Rat).num)),uV (lo (qd (0:Rat))),.string (hi (qd (0:Rat)))]),(14,pB zc),(83,qS (sB za) 2 2),(84,iV 0),(85,qP za (0+0*5)),(86,qv ((6:Int):Rat)),(87,iV 1),(88,qF),(89,pB zc),(90,iV 2),(91,qT),(107,.agg #[iV 5,iV 0,iV 0,iV 0,.bool (ineg (0:Rat).num),uV (lo (iabs (0:Rat).num)),.string (hi (iabs (0:Rat).num)),uV (lo (qd (0:Rat))),.string (hi (qd (0:Rat)))]),(108,qS Av 2 cv),(109,qP zb 1),(110,iV 0),(111,.pointer (some ⟨(aB Av),aO Av+0*5,none⟩)),(112,qv ((3:Int):Rat)),(113,qS Av 2 cv),(114,qP zb 2),(115,iV 0),(116,.pointer (some ⟨(aB Av),aO Av+0*5,none⟩)),(117,qv ((3:Int):Rat)),(118,.tuple #[qv ((3:Int):Rat),qv ((3:Int):Rat)]),(106,.tuple #[qv ((3:Int):Rat),qv ((3:Int):Rat)]),(119,qv ((3:Int):Rat)),(120,qv ((3:Int):Rat)),(16,pB ze),(15,pB zd),(121,pB zb),(122,iV 5),(123,iV 2),(124,qT),(125,qS (sB za) 2 2),(126,qP zb 1),(127,iV 0),(128,qS (sB za) 2 2),(129,qP zb 1),(130,iV 0),(131,qP za (0+0*5)),(132,qv 0),(133,qS (sB za) 2 2),(134,iV 1),(135,qP za (0+1*5)),(136,qv ((1:Int):Rat)),(137,qv ((3:Int):Rat)),(138,qv ((3:Int):Rat)),(139,qv ((3:Int):Rat)),(140,qP za (0+0*5)),(141,pB zb),(142,iV 5),(143,iV 2),(144,qT),(145,qS (sB za) 2 2),(146,qP zb 2),(147,iV 0),(148,qS (sB za) 2 2),(149,qP zb 2),(150,iV 0),(151,qP za (0+0*5)),(152,qv ((3:Int):Rat)),(153,qS (sB za) 2 2),(154,iV 1),(155,qP za (0+1*5)),(156,qv ((1:Int):Rat)),(157,qv ((3:Int):Rat)),(158,qv ((3:Int):Rat)),(159,qv ((6:Int):Rat)),(160,qP za (0+0*5)),(76,iV 0),(77,iV (-1)),(92,qS (sB b8) 1 1),(93,qP zc 3),(94,iV 0),(95,qS (sB b8) 1 1),(96,qP zc 3),(97,iV 0),(98,qP b8 (0+0*5)),(99,qv 0),(100,qS (sB za) 2 2),(101,iV 0),(102,qP za (0+0*5)),(103,qv ((6:Int):Rat)),(104,qv ((6:Int):Rat)),(105,qP b8 (0+0*5))] ?_)));replace hs:=hs.to [⟨zc,43,[iV 2,iV 0,iV 0,iV 0,.bool (ineg (0:Rat).num),uV (lo (iabs (0:Rat).num)),.string (hi (iabs (0:Rat).num)),uV (lo (qd (0:Rat))),.string (hi (qd (0:Rat)))]⟩,⟨zd,41,qc ((3:Int):Rat)⟩,⟨ze,41,qc ((3:Int):Rat)⟩,⟨zb,43,[iV 5,iV 0,iV 0,iV 0,.bool (ineg (0:Rat).num),uV (lo (iabs (0:Rat).num)),.string (hi (iabs (0:Rat).num)),uV (lo (qd (0:Rat))),.string (hi (qd (0:Rat)))]⟩,⟨za,41,(([((6:Int):Rat),((1:Int):Rat)]:List Rat)).flatMap qc⟩,⟨b8,41,(([((6:Int):Rat)]:List Rat)).flatMap qc⟩,⟨b1,29,[iV 1,qS A 2 c,qS O 1 d]⟩] [];refine cN (cQ (cSL (lL hs [.m 74 13,.v 75 qF] (lN (cIF (CG.exit ?_))))))
 show CG _ _ _ _ _ _ _ _
 refine cTo [(3,pB b1),(6,sZ),(7,qS (sB b8) 1 1),(8,iV 0),(9,qS Av 2 cv)] (cSL (lL hs [.o 161 (.agg #[iV 1,qS A 2 c,qS O 1 d]) 6 0 3,.m 162 9] (lC 163 hs ((by have q_:=tOuts 1 A c [sqN,sqM] O d [1] [((3:Int):Rat),((9:Int):Rat)] Av cv kD (by decide +kernel) _ _ hs.g hs.f.q.2.1 hs.f.q.1 (hs.f.1);rw[show pickL [((3:Int):Rat),((9:Int):Rat)] [1]=[((9:Int):Rat)] from by decide +kernel] at q_;exact q_)) ?_)));rintro _ _ _ hs ⟨Ao,co,rfl,hco,hAo⟩;replace hs:=hs.aS hAo;refine lL hs [.m 164 7,.m 6 163,.m 7 164,.v 8 (iV 0)] (lN (kX ?_));have hle:(([((6:Int):Rat)]:List Rat):List Rat)=[((6:Int):Rat)]:=by decide +kernel
 obtain ⟨_,hs,sg71,lo72,bc73⟩:=hs.pub 5;replace hs:=(hs.to [⟨zc,43,[iV 2,iV 0,iV 0,iV 0,.bool (ineg (0:Rat).num),uV (lo (iabs (0:Rat).num)),.string (hi (iabs (0:Rat).num)),uV (lo (qd (0:Rat))),.string (hi (qd (0:Rat)))]⟩,⟨zd,41,qc ((3:Int):Rat)⟩,⟨ze,41,qc ((3:Int):Rat)⟩,⟨zb,43,[iV 5,iV 0,iV 0,iV 0,.bool (ineg (0:Rat).num),uV (lo (iabs (0:Rat).num)),.string (hi (iabs (0:Rat).num)),uV (lo (qd (0:Rat))),.string (hi (qd (0:Rat)))]⟩,⟨za,41,(([((6:Int):Rat),((1:Int):Rat)]:List Rat)).flatMap qc⟩,⟨b1,29,[iV 1,qS A 2 c,qS O 1 d]⟩] []).aS (SlO.of_flat (sz:=5) (f:=qc) (d:=0) (b:=b8) (o:=0) (l:=([((6:Int):Rat)]:List Rat)) (fun _=>rfl) sg71);have hfin:=(hs.f.1);rw[hle] at hfin
 exact hs.ret [] (.tuple #[qS Ao 1 co,qS (sB b8) 1 1,iV 0]) (⟨_,_,_,_,rfl,hco,nR _,hs.f.2.1,hfin⟩)
theorem lSquare  (w:World)(h:Hp)(g:G w h):CR 18 #[] w h (fun v h1=>∃ A O,v=.agg #[iV 1,.slice A 2 2,.slice O 1 1]∧SlO 9 stc stp0 h1 A [sqN,sqM]∧Si O [1] h1):=by
 have hs:=sS g;refine go Tryz.func18 [] rfl (cSL (lA 0 29 ([iV 0,sZ,sZ]) hs (fun b1 w2 h3 hs=>lNS (lL hs [.v 1 (.agg #[iV 2,iV 0,iV 0,iV 0,qF,uV 0,eS,uV 0,eS]),.v 2 (.agg #[iV 5,iV 0,iV 0,iV 0,qF,uV 0,eS,uV 0,eS])] (lR 3 43 2 ([iV 2,iV 0,iV 0,iV 0,qF,uV 0,eS,uV 0,eS,iV 5,iV 0,iV 0,iV 0,qF,uV 0,eS,uV 0,eS]) hs (fun b4 w5 h6 hs=>?_))))));replace hs:=hs.aS (SlO.of_flat (sz:=9) (f:=stc) (d:=stp0) (b:=b4) (o:=0) (l:=[sqN,sqM]) (fun _=>rfl) hs.f.1);refine lR 4 3 1 ([iV 1]) hs (fun b8 w9 _ hs=>?_);replace hs:=hs.aS (SlO.of_flat (sz:=1) (f:=i64c) (d:=0) (b:=b8) (o:=0) (l:=[(1:Int)]) (fun _=>rfl) hs.f.1);exact lL hs [.v 5 (.agg #[iV 1,qS (sB b4) 2 2,qS (sB b8) 1 1])] (lP 0 0 ([iV 1,qS (sB b4) 2 2,qS (sB b8) 1 1]) hs (fun _ hs=>lN (kX (hs.ret [(0,0,3)] (.agg #[iV 1,qS (sB b4) 2 2,qS (sB b8) 1 1]) (⟨_,_,rfl,hs.f.r.1,hs.f.1⟩)))))
theorem lKnown28  (w:World)(h:Hp)(g:G w h)(tb:Tab h):CV 7 #[] w h (.bool true):=by
 have hs:=((sS g).aB tb);refine go Tryz.func7 [] rfl (cSL (lL hs [.v 0 qF] (lNS (lC 5 hs (lSquare _ _ hs.g) ?_))));rintro _ w1 h2 hs ⟨A,O,rfl,hA,hO⟩;replace hs:=hs.aP hA hO;refine lC 6 hs (fOf 3 oM oM _ _ hs.g) ?_;rintro _ w3 h4 hs rfl;refine lR 7 41 1 (qc ((3:Int):Rat)) hs (fun b5 w6 h7 hs=>?_);replace hs:=hs.aS (SlO.of_flat (sz:=5) (f:=qc) (d:=0) (b:=b5) (o:=0) (l:=([((3:Int):Rat)]:List Rat)) (fun _=>rfl) hs.f.1);refine lC 8 hs (fOf 1 oM oM _ _ hs.g) ?_;rintro _ _ _ hs rfl;refine lR 9 41 1 (qc ((1:Int):Rat)) hs (fun za _ _ hs=>?_);replace hs:=hs.aS (SlO.of_flat (sz:=5) (f:=qc) (d:=0) (b:=za) (o:=0) (l:=([((1:Int):Rat)]:List Rat)) (fun _=>rfl) hs.f.1);refine lC 10 hs (tBackS A 2 O 1 (sB b5) 1 (sB za) 1 _ _ hs.g hs.f.q.2.1 hs.f.q.1 hs.f.r.1 hs.f.1 hs.f.q.r.1) ?_;rintro _ _ _ hs ⟨Bo,co,Bg,cg,rfl,hco,hcg,hBo,hBg⟩;replace hs:=hs.aP hBo hBg;have hlb9:[((9:Int):Rat)].length=1:=rfl;have hlb6:[((6:Int):Rat)].length=1:=rfl;refine lL hs [.m 4 10,.v 11 (qS Bo 1 co),.v 12 (qS Bg 1 cg),.v 13 (iV 0),.m 1 11,.m 2 12,.m 3 13] (lNS (lL hs [.m 14 3,.v 15 qT,.m 16 15,.m 17 1,.v 18 (iV 1),.v 19 qT,.v 20 qT,.m 21 20,.m 22 1] (lX 23 Bo 1 co 5 0 0 ((hs.f.2.1).ok oM) ?_)));refine lH 24 (qv (([((9:Int):Rat)]).getD 0 0)) hs ((hs.f.2.1).el 0 oM) (lC 25 hs (hIs (([((9:Int):Rat)]).getD 0 0) 9 1 ⟨by decide +kernel,by decide +kernel⟩ kD kD kD kD kD _ _ hs.g) ?_);rintro _ _ _ hs rfl;have zb:(sameQ (([((9:Int):Rat)]).getD 0 0) (mkR 9 1))=true:=by decide +kernel
 rw[zb];refine lL hs [.v 26 qT,.m 27 26,.m 28 2,.v 29 (iV 1),.v 30 qT,.v 31 qT,.m 32 31,.m 33 2] (lX 34 Bg 1 cg 5 0 0 ((hs.f.1).ok oM) ?_);refine lH 35 (qv (([((6:Int):Rat)]).getD 0 0)) hs ((hs.f.1).el 0 oM) (lC 36 hs (hIs (([((6:Int):Rat)]).getD 0 0) 6 1 ⟨by decide +kernel,by decide +kernel⟩ kD kD kD kD kD _ _ hs.g) ?_);rintro _ _ _ hs rfl;have zc:(sameQ (([((6:Int):Rat)]).getD 0 0) (mkR 6 1))=true:=by decide +kernel
 rw[zc];exact lL hs [.v 37 qT,.m 0 37] (lN (kX (hs.ret [] qT rfl)))
def Has (Y:List Bx)(S:Option Addr)(n:Nat):Prop:=n=0∨∃ y∈Y,S=some ⟨y.b,0,none⟩∧n≤y.vs.length
section laws
variable {P:Program} {n:Nat} {N R:Po} {X:Nat→Po} {ops:Array Oper} {k:Nat} {Γ:Env} {w:World} {h:Hp} {w0:World} {h0:Hp} {B Y:List Bx} {F:List (Hp→Prop)}
theorem setB_tail (i o:Nat)(cs:List Value):setB (B++Y) (B.length+i) o cs=B++setB Y i o cs:=by
  have e:bxAt (B++Y) (B.length+i)=bxAt Y i:=by
    unfold bxAt
    rw[List.getD_eq_getElem?_getD,List.getD_eq_getElem?_getD,List.getElem?_append_right oM]
    congr 2;omega
  unfold setB
  rw[e,List.set_append_right _ _ oM]
  congr 2;omega
theorem Has.set {S:Option Addr}{m i o:Nat}{v:Value}(hi:i<Y.length)(ho:o<(bxAt Y i).vs.length)(x:Has Y S m):Has (setB Y i o [v]) S m:=by
  rcases x with x|⟨y,hy,e,hl⟩
  · exact .inl x
  · obtain ⟨j,hj,rfl⟩:=List.mem_iff_getElem.1 hy
    by_cases q:j=i
    · subst q
      have e1:bxAt Y j=Y[j]:=by unfold bxAt;simp[hj]
      refine .inr ⟨{ bxAt Y j with vs:=putAt (bxAt Y j).vs o [v] },?_,by rw[e1];exact e,?_⟩
      · unfold setB;exact List.mem_iff_getElem.2 ⟨j,by simpa using hj,by simp⟩
      · show m≤((bxAt Y j).vs.set o v).length
        rw[List.length_set,e1];exact hl
    · refine .inr ⟨Y[j],?_,e,hl⟩
      unfold setB
      exact List.mem_iff_getElem.2 ⟨j,by simpa using hj,by rw[List.getElem_set_ne (Ne.symm q)]⟩
theorem lPy (b o:Nat)(v:Value)(s:SS w0 h0 w h (B++Y) [] F)(y:Bx)(hy:y∈Y)(hb:b=y.b)(ho:o<y.vs.length)(H:∀ Y' w',SS w0 h0 w' h (B++Y') [] F→(∀ S m,Has Y S m→Has Y' S m)→LG P n N R X ops (k+1) Γ w')
    (hc:cS ops Γ k=true:=by kernel_rfl)(he:evalW P (execOp (ev Γ) (opAt ops k))=some (.skip,mkl b o [v]):=by kernel_rfl):LG P n N R X ops k Γ w:=by
  obtain ⟨i,hi,rfl⟩:=List.mem_iff_getElem.1 hy
  have e0:bxAt (B++Y) (B.length+i)=Y[i]:=by
    unfold bxAt
    rw[List.getD_eq_getElem?_getD,List.getElem?_append_right oM,show B.length+i-B.length=i by omega];simp[hi]
  have e1:bxAt Y i=Y[i]:=by unfold bxAt;simp[hi]
  have hj:B.length+i<(B++Y).length:=by simp;omega
  refine LG.put (B.length+i) o [v] s.st s.g0 (cS_1 hc).1 (cS_1 hc).2 (by rw[e0,Bool.and_eq_true];exact ⟨decide_eq_true hj,decide_eq_true (by simp;omega)⟩) (by rw[e0,←hb];exact he) (fun w' p s'=>?_);have s2:=s.put0 hj p s' (setB_b hj);rw[setB_tail] at s2
  exact H _ w' s2 (fun S m x=>x.set hi (by rw[e1];exact ho))
end laws
theorem Has.of_new {α:Type}{lo:Nat}{h:Hp}{ty:TypeId}{f:α→List Value}{sz:Nat}{S:Option Addr}{n:Nat}{Y:List Bx}{T:List TypeId}(hf:∀ x,(f x).length=sz)(x:n=0∨∃ (b:Nat) (l:List α) (sp:List Value),S=some ⟨b,0,none⟩∧l.length=n∧Whole lo h b ty (l.flatMap f++sp))(hY:∀ b t vs,Nw lo h b t vs→t∈T→(⟨b,t,vs⟩:Bx)∈Y)(ht:ty∈T):Has Y S (n*sz):=by
  rcases x with rfl|⟨b,l,sp,e,hl,hw⟩
  · exact .inl (Nat.zero_mul _)
  · refine .inr ⟨⟨b,ty,l.flatMap f++sp⟩,hY b ty _ ⟨hw.lo,by have:=hw.ty0;simpa using this,hw.at_⟩ ht,e,?_⟩
    show n*sz≤(l.flatMap f++sp).length
    rw[List.length_append,len_flat hf,hl];omega
theorem mInTapeZ (inp:Int)(w:World)(h:Hp)(g:G w h):CR 5 #[.agg #[iV inp,sZ,sZ]] w h (fun v h1=>∃ b,v=.agg #[iV inp,sZ,.slice (sB b) 0 0]):=by
 have hs:=sS g;refine go Tryz.func5 [(0,.agg #[iV inp,sZ,sZ])] rfl (cSL (lA 1 25 ([iV inp,sZ,sZ]) hs (fun b1 w2 h3 hs=>lA 2 29 ([iV 0,sZ,sZ]) hs (fun b4 w5 h6 hs=>lN (cQ ?_)))));have hsr:=hs;refine cR 8 [⟨7,3,.cells (List.toArray [iV 0,sZ,sZ]) 29 (0,0)⟩] mixed hs (al_cons (alOk kR (fun _ _=>by kernel_rfl)) al_nil) (eV 0 7 (pB b1) (eO 1 8 [(1,0,1)] (iV inp) hs (eV 3 10 (qP b1 2) (eO 4 11 [(1,2,1)] (sZ) hs (eR 2 9 3 0 ([]) hs (fun b7 w8 h9 hs=>eVe 5 12 (qS (sB b7) 0 0) hs (fun _ _ hs=>eV 6 13 (.agg #[iV inp,sZ,qS (sB b7) 0 0]) (eD1p [] hsr hs 29 [iV 0,sZ,sZ] (fun _ _ b15 hs=>tP 8 0 0 ([iV inp,sZ,qS (sB b7) 0 0]) hs (fun _ hs=>tN (cQ (cSL (lL hs [.v 4 (iV 0)] (lN (kZ (cU ?_))))))))))))))));refine cN (cQ (cSL (lL hs [.m 14 4,.v 15 (qP b1 1),.o 16 (sZ) 2 1 1,.v 17 (iV 0),.v 18 qF] (lN (cIF (CG.exit ?_))))))
 show CG _ _ _ _ _ _ _ _
 exact cSL (lL hs [.o 50 (.agg #[iV inp,sZ,qS (sB b7) 0 0]) 0 0 3] (lP 1 0 ([iV inp,sZ,qS (sB b7) 0 0]) hs (fun _ hs=>lN (kX (hs.ret [(1,0,3)] (.agg #[iV inp,sZ,qS (sB b7) 0 0]) (⟨_,rfl⟩))))))
theorem mInM (inp:Int)(A:Option Addr)(c:Nat)(ts:List RSt)(ss:List OSt)(O:Option Addr)(d:Nat)(os:List Int)(hl:ss.length≤20)(hol:os.length≤2)(hS:OSms ss)(hE:ss=[]→A=none∧c=0∧O=none∧d=0∧os=[])(hN:ss≠[]→os≠[])(w:World)(h:Hp)(g:G w h)(hA:SlO 7 rsc rst0 h A ts)(hT:RSs h ts ss)(hO:Si O os h)(tb:Tab h):CR 5 #[.agg #[iV inp,.slice A ts.length c,.slice O os.length d]] w h (fun v h1=>∃ A c O d,v=.agg #[iV inp,.slice A (ss.map OSt.stp).length c,.slice O os.length d]∧SlO 9 stc stp0 h1 A (ss.map OSt.stp)∧Si O os h1):=by
  by_cases e:ss=[]
  · obtain ⟨e1,e2,e3,e4,e5⟩:=hE e
    have e6:ts=[]:=List.eq_nil_of_length_eq_zero (by rw[hT.len,e];rfl);subst e e1 e2 e3 e4 e5 e6;refine (mInTapeZ inp w h g).mono ?_;rintro _ w' ⟨_,h',rfl,u,b2,rfl⟩;exact ⟨_,h',rfl,u,none,0,sB b2,0,rfl,SlO.nil,SlO.nil⟩
  · exact mInTape inp A c ts ss O d os hl (List.length_pos_iff.2 (hN e)) oM hS w h g hA hT hO tb
def KeptOk:Prop:=∀ (inp:Int) (A:Option Addr) (c:Nat) (l:List Stp) (O:Option Addr) (d:Nat) (os:List Int),l.length≤20→os.length≤10→OutsOk l.length os→∀ (Sb:Nat) (sl:List Stp) (Bb:Option Addr) (bl:List Int),sl.length=l.length→bl.length=l.length→StOk l.length sl→ByOk l.length bl→∀ (w:World) (h:Hp),G w h→SlO 9 stc stp0 h A l→Si O os h→SlO 9 stc stp0 h (sB Sb) sl→Si Bb bl h→Calls Tryz.prog 16 #[.agg #[iV inp,.slice A l.length c,.slice O os.length d],.slice (sB Sb) l.length l.length,.slice Bb l.length l.length] w (Ret w h (fun v h1=>TapeN h.size h1 inp v))
theorem st_all {ss:List OSt}{p:Stp→Prop}(h0:p stp0)(h:∀ i,i<ss.length→p (ss.getD i ost0).stp)(i:Nat):p ((ss.map OSt.stp).getD i stp0):=by
  by_cases e:i<ss.length
  · rw[stp_getD e];exact h i e
  · rw[getD_outR (by rw[List.length_map];omega)];exact h0
theorem lTapeStaysK (hK:KeptOk)(A0:Option Addr)(c0:Nat)(zl:List Int)(hl0:zl.length≤9223372036854775807)(hz0:I64s zl)(w:World)(h:Hp)(g:G w h)(hA0:Si A0 zl h)(tb:Tab h):CV 3 #[.slice A0 zl.length c0] w h (.bool true):=by
 have hs:=(((sS g).aS hA0).aB tb);refine go Tryz.func3 [(0,qS A0 zl.length c0)] rfl (cSL (lL hs [.v 2 qF] (lNS (lL hs [.m 9 0] (lC 10 hs (mTape A0 c0 zl hl0 hz0 10 oM _ _ hs.g hs.f.2.1) ?_)))));rintro _ w1 h2 hs ⟨A1,c1,O1,d1,ts1,ss1,os1,rfl,hc1,hd1,hA1,hT1,hO1,hS1,hl1,hol1,hob1,hE1,hN1,hP1,hR1⟩;replace hs:=(((hs.aS hA1).add (K:=fun h_=>RSs h_ ts1 ss1) hT1).aS hO1);refine lA 3 25 ([iV 0,sZ,sZ]) hs (fun b3 w4 h5 hs=>lP 0 0 ([iV 3,qS A1 ts1.length c1,qS O1 os1.length d1]) hs (fun w6 hs=>lNS (lL hs [.o 11 (.agg #[iV 3,qS A1 ts1.length c1,qS O1 os1.length d1]) 0 0 3] (lC 12 hs (mInM 3 A1 c1 ts1 ss1 O1 d1 os1 oM hol1 hS1 hE1 hN1 _ _ hs.g hs.f.r.1 hs.f.2.1 hs.f.1 hs.f.r.2.1) ?_))));rintro _ w7 h8 hs ⟨Ai,ci,Oi,di,rfl,hAi,hOi⟩;replace hs:=hs.aP hAi hOi;have hll:(ss1.map OSt.stp).length=ss1.length:=List.length_map _;refine lA 4 29 ([iV 0,sZ,sZ]) hs (fun b9 _ zk hs=>lP 0 0 ([iV 3,qS Ai ((ss1.map OSt.stp).length) ci,qS Oi os1.length di]) hs (fun _ hs=>lNS (lL hs [.o 14 (.agg #[iV 3,qS Ai ((ss1.map OSt.stp).length) ci,qS Oi os1.length di]) 0 0 3] ?_)));have hF0:=hs.f;have hmo0:=hs.mo;have hle0:=hs.st.up.gr.size;refine lCu 15 (tLean 3 Ai ci (ss1.map OSt.stp) Oi di os1 oM oM (st_all (p:=fun s=>LQ 1 s.q) (lq0 kD) (fun i hi=>(hS1 i hi).q)) (st_all (p:=fun s=>iabs s.q.num<100∧s.q.den<100) kD (fun i hi=>hR1 i hi)) (st_all (p:=fun s=>(-1000≤s.op∧s.op≤1000)∧(-1000≤s.n∧s.n≤1000)∧(-1000≤s.a∧s.a≤1000) ∧ -1000≤s.b∧s.b≤1000) kD (fun i hi=>⟨(hS1 i hi).op,(hS1 i hi).n,(hS1 i hi).a,(hS1 i hi).b⟩)) (fun hck=>hK 3 Ai ci (ss1.map OSt.stp) Oi di os1 oM oM (chk_formed hck).2.1) _ _ hs.g hs.f.2.1 hs.f.1) ?_;rintro _ _ _ u15 ⟨i_,S_,sn_,sc_,O_,on_,oc_,e_,rfl,hS_,hO_,he_⟩;replace hs:=hs.step u15;obtain ⟨Y,_,hs,hY_,-⟩:=hs.retake zk [43,3] hF0 hmo0 u15.gr.gw hle0;have hHS:Has Y S_ (sn_*9):=Has.of_new (f:=stc) (fun _=>rfl) hS_.2 hY_ kD;have hbS:=hS_.1;have hbO:=hO_.1;have hHO:Has Y O_ (on_*1):=Has.of_new (f:=i64c) (fun _=>rfl) hO_.2 hY_ kD;replace hs:=hs.to ([⟨b9,29,[iV 3,qS Ai ((ss1.map OSt.stp).length) ci,qS Oi os1.length di]⟩,⟨b3,25,[iV 3,qS A1 ts1.length c1,qS O1 os1.length d1]⟩]++Y) [];refine lL hs [.m 13 15,.v 16 (.agg #[iV i_,qS S_ sn_ sc_,qS O_ on_ oc_]),.v 17 (iV e_)] (lA 5 29 ([iV 0,sZ,sZ]) hs (fun za _ zm hs=>lP 0 0 ([iV i_,qS S_ sn_ sc_,qS O_ on_ oc_]) hs (fun _ hs=>lL hs [.m 6 17] (lN (cQ (cSL (lL hs [.m 18 6] ?_)))))));cases zb:((e_:Int) != (0:Int))
 ·
  have zf:=eqOfBne zb;refine lB 19 zb (lN (cIF (cK (cQ (cSL (lL hs [.v 7 (iV 0)] (lN (kZ ?_))))))));refine cTo _ (CG.loop (fun μ_ Γ w_=>∃ (i_1:Nat) (Y:List Bx) (h_:Hp),μ_=sn_-i_1∧Γ=[(2,qF),(3,pB b3),(4,pB b9),(5,pB za),(7,nV i_1)]∧SS w h w_ h_ ([⟨za,29,[iV i_,qS S_ sn_ sc_,qS O_ on_ oc_]⟩,⟨b9,29,[iV 3,qS Ai ((ss1.map OSt.stp).length) ci,qS Oi os1.length di]⟩,⟨b3,25,[iV 3,qS A1 ts1.length c1,qS O1 os1.length d1]⟩]++Y) [] [Si Oi os1,fun h_=>SlO 9 stc stp0 h_ Ai (ss1.map OSt.stp),Si O1 os1,fun h_=>RSs h_ ts1 ss1,fun h_=>SlO 7 rsc rst0 h_ A1 ts1,fun h_=>Tab h_,Si A0 zl]∧i_1≤sn_∧Has Y S_ (sn_*9)∧Has Y O_ (on_*1)) _ ⟨0,Y,zm,rfl,rfl,hs.to _ _,Nat.zero_le _,hHS,hHO⟩ ?_);rintro _ _ _ ⟨i_1,Y,zj,hm24,rfl,hs,hi_1,hHS,hHO⟩;refine cQ (cSL (lL hs [.m 27 7,.v 28 (qP za 1),.o 29 (qS S_ sn_ sc_) 0 1 1,.v 30 (nV sn_)] ?_));cases zc:(decide ((i_1:Int)<(sn_:Int)))
  ·
   have zg:=oF zc;refine lB 31 zc (lN (cIF (CG.exit ?_)))
   show CG _ _ _ _ _ _ _ _
   refine cQ (cSL (lL hs [.v 8 (iV 0)] (lN (kZ ?_))));refine cTo _ (CG.loop (fun μ_ Γ w_=>∃ (i_2:Nat) (Y:List Bx) (h_:Hp),μ_=on_-i_2∧Γ=[(2,qF),(3,pB b3),(4,pB b9),(5,pB za),(8,nV i_2)]∧SS w h w_ h_ ([⟨za,29,[iV i_,qS S_ sn_ sc_,qS O_ on_ oc_]⟩,⟨b9,29,[iV 3,qS Ai ((ss1.map OSt.stp).length) ci,qS Oi os1.length di]⟩,⟨b3,25,[iV 3,qS A1 ts1.length c1,qS O1 os1.length d1]⟩]++Y) [] [Si Oi os1,fun h_=>SlO 9 stc stp0 h_ Ai (ss1.map OSt.stp),Si O1 os1,fun h_=>RSs h_ ts1 ss1,fun h_=>SlO 7 rsc rst0 h_ A1 ts1,fun h_=>Tab h_,Si A0 zl]∧i_2≤on_∧Has Y S_ (sn_*9)∧Has Y O_ (on_*1)) _ ⟨0,Y,zj,rfl,rfl,hs.to _ _,Nat.zero_le _,hHS,hHO⟩ ?_);rintro _ _ _ ⟨i_2,Y,zn,hm28,rfl,hs,hi_2,hHS,hHO⟩;refine cQ (cSL (lL hs [.m 39 8,.v 40 (qP za 2),.o 41 (qS O_ on_ oc_) 0 2 1,.v 42 (nV on_)] ?_));cases zd:(decide ((i_2:Int)<(on_:Int)))
   ·
    have zi:=oF zd;refine lB 43 zd (lN (cIF (CG.exit ?_)))
    show CG _ _ _ _ _ _ _ _
    refine cSL (lC 50 hs (lKnown28 _ _ hs.g hs.f.q.2.1) ?_);rintro _ _ _ hs rfl;refine lL hs [.m 51 50,.o 52 (.agg #[iV 3,qS Ai ((ss1.map OSt.stp).length) ci,qS Oi os1.length di]) 1 0 3,.o 53 (.agg #[iV 3,qS A1 ts1.length c1,qS O1 os1.length d1]) 2 0 3] (lC 54 hs (mSameTapeO 3 Ai ci (ss1.map OSt.stp) Oi di os1 A1 c1 ts1 ss1 O1 d1 oM oM (fun i hi=>st_all (p:=fun s=>LQ 1 s.q) (lq0 kD) (fun i hi=>(hS1 i hi).q) i) hll (fun i hi=>stp_getD oM) _ _ hs.g hs.f.2.1 hs.f.1 hs.f.q.1 hs.f.r.2.1 hs.f.r.1) ?_);rintro _ _ _ hs rfl;exact lL hs [.v 55 qT,.m 2 55] (lN (kX (hs.ret [] qT rfl)))
   have zi:=oT zd;refine lB 43 zd (lN (cIT (cK (cQ (kZ (kQ (lL hs [.v 46 (qP za 2),.o 47 (qS O_ on_ oc_) 0 2 1,.m 48 8] ?_)))))));obtain ⟨y_,hy_,ey_,hly_⟩:∃ y∈Y,O_=some ⟨y.b,0,none⟩∧on_*1≤y.vs.length:=by rcases hHO with h_|h_;(exfalso;omega);exact h_
   refine lX 49 O_ on_ oc_ 1 (i_2:Int) i_2 (by rw[ey_];rfl) (lPy (aB O_) (aO O_+i_2*1) (iV 77) hs y_ hy_ (by rw[ey_];rfl) (by rw[ey_];show 0+i_2*1<_;omega) (fun Y35 _ hs hmv_=>lN (kQ (lL hs [.m 44 8] (lIn 45 ((i_2:Nat)+1) (i_2+1) ?_)))));refine lL hs [.m 8 45] (lD ?_);intro a_ ka;refine ⟨_,_,?_,⟨i_2+1,Y35,zn,rfl,rfl,hs.to _ _,oM,(hmv_ _ _ hHS),(hmv_ _ _ hHO)⟩,ka.to _ kR⟩
   omega
  have zg:=oT zc;refine lB 31 zc (lN (cIT (cK (cQ (kZ (kQ (lL hs [.v 34 (qP za 1),.o 35 (qS S_ sn_ sc_) 0 1 1,.m 36 7] ?_)))))));obtain ⟨y_,hy_,ey_,hly_⟩:∃ y∈Y,S_=some ⟨y.b,0,none⟩∧sn_*9≤y.vs.length:=by rcases hHS with h_|h_;(exfalso;omega);exact h_
  refine lX 37 S_ sn_ sc_ 9 (i_1:Int) i_1 (by rw[ey_];rfl) (lL hs [.v 38 (.pointer (some ⟨aB S_,aO S_+i_1*9+0,none⟩))] (lPy (aB S_) (aO S_+i_1*9+0) (iV 99) hs y_ hy_ (by rw[ey_];rfl) (by rw[ey_];show 0+i_1*9+0<_;omega) (fun Y40 _ hs hmv_=>lN (kQ (lL hs [.m 32 7] (lIn 33 ((i_1:Nat)+1) (i_1+1) ?_))))));refine lL hs [.m 7 33] (lD ?_);intro a_ ka;refine ⟨_,_,?_,⟨i_1+1,Y40,zj,rfl,rfl,hs.to _ _,oM,(hmv_ _ _ hHS),(hmv_ _ _ hHO)⟩,ka.to _ kR⟩
  omega
 have zf:=neOfBne zb;refine lB 19 zb (lN (cIT (cSL (lC 20 hs (lKnown28 _ _ hs.g hs.f.q.2.1) ?_))));rintro _ _ _ hs rfl;refine lL hs [.m 21 20,.v 22 (qP za 1),.o 23 (qS S_ sn_ sc_) 0 1 1,.v 24 (nV sn_)] ?_;have ze:((sn_:Int) == (0:Int))=true:=beqT (by have:=he_ oM;omega);have phb46:=eq_of_beq ze;exact lB 25 ze (lL hs [.v 26 qT,.m 2 26] (lN (kX (hs.ret [] qT rfl))))
def boolc (b:Bool):List Value:=[.bool b]
theorem SS.pubN {w0 w:World}{h0 h:Hp}{B:List Bx}{R:List Rw}{F:List (Hp→Prop)}{α:Type}{f:α→List Value}{l:List α}(s:SS w0 h0 w h B R F)(j:Nat){ty:TypeId}{sz c:Nat}{A:Option Addr}(d:α)(hf:∀ x,(f x).length=sz)(hsz:0<sz)(hn:l.length≤1000)(hr:R.getD j default=⟨ty,sz,A,c,l.length,l.flatMap f⟩:=by kernel_rfl)(hj:decide (j<R.length)=true:=by kernel_rfl)(hty:(ty == 0)=false:=by kernel_rfl) :
    ∃ h',SS w0 h0 w h' B (R.eraseIdx j) ((fun h_=>NewS h0.size h_ ty f A l.length)::F):=by
  by_cases h1:0<l.length
  · obtain ⟨h',b,sp,e,_,s',_⟩:=s.pubrS j d hf h1 hsz hr hj hty
    have s2:SS w0 h0 w h' B (R.eraseIdx j) F:=⟨s'.g0,s'.st,s'.ro,s'.ap,fun p hp=>s'.mo p (by simp[hp]),s'.f.2.2⟩;exact ⟨h',s2.add (K:=fun h_=>NewS h0.size h_ ty f A l.length) ⟨hn,.inr ⟨b,l,sp,e,rfl,s'.f.1⟩⟩⟩
  · obtain ⟨h',s',_⟩:=s.pubr j d hf hr hj
    have s2:SS w0 h0 w h' B (R.eraseIdx j) F:=⟨s'.g0,s'.st,s'.ro,s'.ap,fun p hp=>s'.mo p (by simp[hp]),s'.f.2⟩;exact ⟨h',s2.add (K:=fun h_=>NewS h0.size h_ ty f A l.length) ⟨hn,.inl oM⟩⟩
theorem NewS.set {α:Type}{lo:Nat}{h:Hp}{ty:TypeId}{f:α→List Value}{S:Option Addr}{n D:Nat}(x:NewS lo h ty f S n)(hD:h[D]?=some (.deferred (some []))):NewS lo (h.setIfInBounds D junk) ty f S n:=by
  obtain ⟨x0,x⟩:=x;refine ⟨x0,?_⟩
  rcases x with x|⟨b,l,sp,e,hl,hw⟩
  · exact .inl x
  · refine .inr ⟨b,l,sp,e,hl,hw.lo,hw.ty0,?_⟩
    rw[Array.getElem?_setIfInBounds_ne (fun q=>by have k:=hw.at_;rw[←q,hD] at k;injection k with k;cases k)];exact hw.at_
theorem dfr_gw {h h':Hp}{D:Nat}(u:Gw h h')(x:h[D]?=some (.deferred (some []))):h'[D]?=some (.deferred (some [])):=by
  rcases u.blk D (lt_of_some x) with e|e
  · exact e.trans x
  · rw[x] at e;injection e with e;cases e
theorem tKept_ (inp:Int)(A:Option Addr)(c:Nat)(l:List Stp)(O:Option Addr)(d:Nat)(os:List Int)(hl:l.length≤20)(ho:os.length≤10)(hOk:OutsOk l.length os)(Sb:Nat)(sl:List Stp)(Bb:Option Addr)(bl:List Int)(hsl:sl.length=l.length)(hbl:bl.length=l.length)(hSt:StOk l.length sl)(hBy:ByOk l.length bl)(w:World)(h:Hp)(g:G w h)(hA:SlO 9 stc stp0 h A l)(hO:Si O os h)(hS:SlO 9 stc stp0 h (sB Sb) sl)(hB:Si Bb bl h):CR 16 #[.agg #[iV inp,.slice A ((l).length) c,.slice O ((os).length) d],.slice (sB Sb) l.length l.length,.slice Bb l.length l.length] w h (fun v h1=>TapeN h.size h1 inp v):=by
 have hs:=(((((sS g).aS hA).aS hO).aS hS).aS hB);refine goM Tryz.func16 [(0,.agg #[iV inp,qS A ((l).length) c,qS O ((os).length) d]),(1,qS (sB Sb) l.length l.length),(2,qS Bb l.length l.length)] rfl (cSL (lA 3 29 ([iV inp,qS A ((l).length) c,qS O ((os).length) d]) hs (fun b1 w2 h3 hs=>lA 6 29 ([iV 0,sZ,sZ]) hs (fun b4 w5 h6 hs=>lNS (lL hs [.m 18 1,.v 19 (nV l.length)] (lK 20 4 l.length 1 1 qF boolc false hs (fun b7 w8 h9 hs=>?_)))))));have hl10:(List.replicate l.length false).length=l.length:=by simp
 refine lA 7 86 ([sZ]) hs (fun za _ ye hs=>lP 0 0 ([qS (sB b7) l.length l.length]) hs (fun _ hs=>lN (cQ (cSL (lL hs [.v 21 (qP b1 2),.o 22 (qS O ((os).length) d) 3 2 1,.v 23 (nV ((os).length)),.v 24 (iV 0)] (lN (kZ ?_)))))));refine cTo _ (CG.loop (fun μ_ Γ w_=>∃ (i:Nat) (nl:List Bool) (h_:Hp),μ_=os.length-i∧Γ=[(1,qS (sB Sb) l.length l.length),(2,qS Bb l.length l.length),(3,pB b1),(6,pB b4),(7,pB za),(22,qS O ((os).length) d),(23,nV ((os).length)),(24,nV i)]∧SS w h w_ h_ [⟨za,86,[qS (sB b7) l.length l.length]⟩,⟨b7,4,(nl).flatMap boolc⟩,⟨b4,29,[iV 0,sZ,sZ]⟩,⟨b1,29,[iV inp,qS A ((l).length) c,qS O ((os).length) d]⟩] [] [Si Bb bl,fun h_=>SlO 9 stc stp0 h_ (sB Sb) sl,Si O os,fun h_=>SlO 9 stc stp0 h_ A l]∧i≤os.length∧nl.length=l.length) _ ⟨0,List.replicate l.length false,ye,rfl,rfl,hs.to _ _,Nat.zero_le _,(by simp)⟩ ?_);rintro _ _ _ ⟨i,nl,_,hm17,rfl,hs,hile,hnl⟩;refine cSL ?_;cases zf:(decide ((i:Int)<(((os).length:Nat):Int)))
 ·
  have zA:=oF zf;refine lB 25 zf (lN (cQ (cIF (CG.exit ?_))))
  show CG _ _ _ _ _ _ _ _
  refine cQ (cSL (lL hs [.m 35 1] (lC 36 hs (sBackward (sB Sb) l.length l.length _ _ hs.g) ?_)));rintro _ _ zL hs ⟨bv,rfl,hbv⟩;replace hs:=(hs.a_Seg hbv);refine lN (kZ ?_);have hs0_:=hs.st.up.gr.size;refine cTo [(1,qS (sB Sb) l.length l.length),(2,qS Bb l.length l.length),(3,pB b1),(6,pB b4),(7,pB za),(22,qS O ((os).length) d),(23,nV ((os).length)),(24,nV i),(25,qF),(35,qS (sB Sb) l.length l.length),(36,.func (.func 63) #[] #[pB bv])] ?_;obtain ⟨ks_,hkd_⟩:∃ ks_:List Nat,ks_=if 0<l.length then [bv,Sb] else [bv]:=⟨_,rfl⟩
  have hkm_:bv∈ks_:=by rw[hkd_];split<;>simp
  have hkn_:0<l.length→Sb∈ks_:=fun h_=>by rw[hkd_,if_pos h_];simp
  have hks_:∀ c∈ks_,c<zL.size∧zL[c]?≠some junk:=by
    have t1_:=told_seg hs.f.1;have t2_:=told_slo hs.f.r.1;intro c hc;rw[hkd_] at hc
    split at hc
    · rcases List.mem_cons.1 hc with rfl|hc
      · exact t1_
      · rcases List.mem_cons.1 hc with rfl|hc
        · exact t2_ oM
        · cases hc
    · rcases List.mem_cons.1 hc with rfl|hc
      · exact t1_
      · cases hc
  refine CG.rangeF (α:=Fin l.length) (β:=List Bool) (e1:=fun x=>nV x.1) (e2:=fun x=>stv (sl.getD x.1 stp0)) (ks:=ks_) hs (enters_of Tryz.func63 kR rfl) (by rfl) (kept_seq hs.g hs.f.r.1 hs.f.1 hsl oM ks_ hkn_ hkm_ (fun c hc=>(hks_ c hc).1)) hks_ (fun v_=>[⟨za,86,[qS (sB b7) l.length l.length]⟩,⟨b7,4,(v_).flatMap boolc⟩,⟨b4,29,[iV 0,sZ,sZ]⟩,⟨b1,29,[iV inp,qS A ((l).length) c,qS O ((os).length) d]⟩]) (fun _ v_=>v_.length=l.length) nl rfl hnl (fun _=>rfl) 43 rfl (fun x=>stc (sl.getD x.1 stp0)) (fun x Bx=>(11,pB Bx)::(10,nV x.1)::[(1,qS (sB Sb) l.length l.length),(2,qS Bb l.length l.length),(3,pB b1),(6,pB b4),(7,pB za),(22,qS O ((os).length) d),(23,nV ((os).length)),(24,nV i),(25,qF),(35,qS (sB Sb) l.length l.length),(36,.func (.func 63) #[] #[pB bv])]) ?asg_ ?bdy_ ?beh_
  case asg_ =>
    intro l_ pre_ x v_ W_ hh_ fx_ hs;refine cSLr (lLr hs [.m 10 37] (lNr (CGr.listed (lAur 11 43 [iV 0,iV 0,iV 0,iV 0,qF,uV 0,eS,uV 0,eS] hs (fun Bx W1 h1_ u_ hlo_ hs=>lPr 0 0 [iV ((sl.getD x.1 stp0).op),iV ((sl.getD x.1 stp0).a),iV ((sl.getD x.1 stp0).b),iV ((sl.getD x.1 stp0).n),.bool (ineg ((sl.getD x.1 stp0).q).num),uV (lo (iabs ((sl.getD x.1 stp0).q).num)),.string (hi (iabs ((sl.getD x.1 stp0).q).num)),uV (lo (qd ((sl.getD x.1 stp0).q))),.string (hi (qd ((sl.getD x.1 stp0).q)))] hs (fun W2 hs=>?_))))));replace hs:=hs.to (⟨Bx,43,stc (sl.getD x.1 stp0)⟩::[⟨za,86,[qS (sB b7) l.length l.length]⟩,⟨b7,4,(v_).flatMap boolc⟩,⟨b4,29,[iV 0,sZ,sZ]⟩,⟨b1,29,[iV inp,qS A ((l).length) c,qS O ((os).length) d]⟩]) [];refine lDr ?_;intro a_ ka;exact ⟨h1_,Bx,hlo_,hs,u_.gr,ka.to _ kR⟩
  case bdy_ =>
    intro l_ pre_ x v_ W_ hh_ Bx fx_ hlen_ hs;have hxl_:=x.2;have hst_:=hSt x.1 x.2;replace hs:=hs.add (K:=fun h_=>Gw hh_ h_) (Gw.refl _) (fun _ _ u x=>x.trans u);replace hs:=hs.to [⟨Bx,43,[iV ((sl.getD x.1 stp0).op),iV ((sl.getD x.1 stp0).a),iV ((sl.getD x.1 stp0).b),iV ((sl.getD x.1 stp0).n),.bool (ineg ((sl.getD x.1 stp0).q).num),uV (lo (iabs ((sl.getD x.1 stp0).q).num)),.string (hi (iabs ((sl.getD x.1 stp0).q).num)),uV (lo (qd ((sl.getD x.1 stp0).q))),.string (hi (qd ((sl.getD x.1 stp0).q)))]⟩,⟨za,86,[qS (sB b7) l.length l.length]⟩,⟨b7,4,(v_).flatMap boolc⟩,⟨b4,29,[iV 0,sZ,sZ]⟩,⟨b1,29,[iV inp,qS A ((l).length) c,qS O ((os).length) d]⟩] [];refine CGr.block (CGr.seq (cSLr (lLr hs [.o 39 (qS (sB b7) l.length l.length) 1 0 1,.m 40 10] (lXr 41 (sB b7) l.length l.length 1 (x.1:Nat) x.1 rfl (lQr 42 2 v_ boolc 1 false x.1 (.bool ((v_).getD x.1 false)) hs oM ?_)))))
    rcases bcase ((v_).getD x.1 false) with zn|zn
    ·
     refine lBr 43 zn (lGr 44 (lGr 45 (lGr 46 (lGr 47 (lLr hs [.v 48 qF] (lNr (cIFr (CGr.skipN (cSLr (lLr hs [.o 53 (qS (sB b7) l.length l.length) 1 0 1,.m 54 10] (lXr 55 (sB b7) l.length l.length 1 (x.1:Nat) x.1 rfl (lQr 56 2 v_ boolc 1 false x.1 (.bool ((v_).getD x.1 false)) hs oM ?_))))))))))))
     rcases bcase ((v_).getD x.1 false) with zo|zo
     ·
      refine lBr 57 zo (lGr 58 (lGr 59 (lGr 60 (lGr 61 (lLr hs [.v 62 qF] (lNr (cIFr (CGr.skip ?_))))))));intro a_ ka;exact ⟨_,v_,[⟨Bx,43,[iV ((sl.getD x.1 stp0).op),iV ((sl.getD x.1 stp0).a),iV ((sl.getD x.1 stp0).b),iV ((sl.getD x.1 stp0).n),.bool (ineg ((sl.getD x.1 stp0).q).num),uV (lo (iabs ((sl.getD x.1 stp0).q).num)),.string (hi (iabs ((sl.getD x.1 stp0).q).num)),uV (lo (qd ((sl.getD x.1 stp0).q))),.string (hi (qd ((sl.getD x.1 stp0).q)))]⟩],_,hs,hs.f.1,fx_⟩
     refine lBr 57 zo (lLr hs [.v 58 (pB Bx),.o 59 (iV ((sl.getD x.1 stp0).op)) 0 0 1] (lCr 60 hs (tArity ((sl.getD x.1 stp0).op) _ _ hs.g) ?_));rintro _ _ _ hs rfl;cases zg:(decide ((1:Int)<(ari ((sl.getD x.1 stp0).op):Int)))
     ·
      have zB:=oF zg;refine lBr 61 zg (lLr hs [.v 62 qF] (lNr (cIFr (CGr.skip ?_))));intro a_ ka;exact ⟨_,v_,[⟨Bx,43,[iV ((sl.getD x.1 stp0).op),iV ((sl.getD x.1 stp0).a),iV ((sl.getD x.1 stp0).b),iV ((sl.getD x.1 stp0).n),.bool (ineg ((sl.getD x.1 stp0).q).num),uV (lo (iabs ((sl.getD x.1 stp0).q).num)),.string (hi (iabs ((sl.getD x.1 stp0).q).num)),uV (lo (qd ((sl.getD x.1 stp0).q))),.string (hi (qd ((sl.getD x.1 stp0).q)))]⟩],_,hs,hs.f.1,fx_⟩
     have zB:=oT zg;refine lBr 61 zg (lLr hs [.v 62 qT] (lNr (cITr (CGr.listed (lLr hs [.o 63 (qS (sB b7) l.length l.length) 1 0 1,.v 64 (qP Bx 2),.o 65 (iV ((sl.getD x.1 stp0).b)) 0 2 1] (lXr 66 (sB b7) l.length l.length 1 ((sl.getD x.1 stp0).b) ((sl.getD x.1 stp0).b.toNat) rfl (lWr 2 v_ boolc 1 ((sl.getD x.1 stp0).b.toNat) true hs oM (fun _ hs=>?_))))))));have zR:((v_).set ((sl.getD x.1 stp0).b.toNat) true).length=l.length:=by rw[List.length_set];exact fx_
     replace hs:=hs.to [⟨Bx,43,[iV ((sl.getD x.1 stp0).op),iV ((sl.getD x.1 stp0).a),iV ((sl.getD x.1 stp0).b),iV ((sl.getD x.1 stp0).n),.bool (ineg ((sl.getD x.1 stp0).q).num),uV (lo (iabs ((sl.getD x.1 stp0).q).num)),.string (hi (iabs ((sl.getD x.1 stp0).q).num)),uV (lo (qd ((sl.getD x.1 stp0).q))),.string (hi (qd ((sl.getD x.1 stp0).q)))]⟩,⟨za,86,[qS (sB b7) l.length l.length]⟩,⟨b7,4,((v_).set ((sl.getD x.1 stp0).b.toNat) true).flatMap boolc⟩,⟨b4,29,[iV 0,sZ,sZ]⟩,⟨b1,29,[iV inp,qS A ((l).length) c,qS O ((os).length) d]⟩] [];refine lDr ?_;intro a_ ka;exact ⟨_,((v_).set ((sl.getD x.1 stp0).b.toNat) true),[⟨Bx,43,[iV ((sl.getD x.1 stp0).op),iV ((sl.getD x.1 stp0).a),iV ((sl.getD x.1 stp0).b),iV ((sl.getD x.1 stp0).n),.bool (ineg ((sl.getD x.1 stp0).q).num),uV (lo (iabs ((sl.getD x.1 stp0).q).num)),.string (hi (iabs ((sl.getD x.1 stp0).q).num)),uV (lo (qd ((sl.getD x.1 stp0).q))),.string (hi (qd ((sl.getD x.1 stp0).q)))]⟩],_,hs,hs.f.1,zR⟩
    refine lBr 43 zn (lLr hs [.v 44 (pB Bx),.o 45 (iV ((sl.getD x.1 stp0).op)) 0 0 1] (lCr 46 hs (tArity ((sl.getD x.1 stp0).op) _ _ hs.g) ?_));rintro _ _ _ hs rfl;cases zi:(decide ((0:Int)<(ari ((sl.getD x.1 stp0).op):Int)))
    ·
     have zD:=oF zi;refine lBr 47 zi (lLr hs [.v 48 qF] (lNr (cIFr (CGr.skipN (cSLr (lLr hs [.o 53 (qS (sB b7) l.length l.length) 1 0 1,.m 54 10] (lXr 55 (sB b7) l.length l.length 1 (x.1:Nat) x.1 rfl (lQr 56 2 v_ boolc 1 false x.1 (.bool ((v_).getD x.1 false)) hs oM ?_))))))))
     rcases bcase ((v_).getD x.1 false) with zp|zp
     ·
      refine lBr 57 zp (lGr 58 (lGr 59 (lGr 60 (lGr 61 (lLr hs [.v 62 qF] (lNr (cIFr (CGr.skip ?_))))))));intro a_ ka;exact ⟨_,v_,[⟨Bx,43,[iV ((sl.getD x.1 stp0).op),iV ((sl.getD x.1 stp0).a),iV ((sl.getD x.1 stp0).b),iV ((sl.getD x.1 stp0).n),.bool (ineg ((sl.getD x.1 stp0).q).num),uV (lo (iabs ((sl.getD x.1 stp0).q).num)),.string (hi (iabs ((sl.getD x.1 stp0).q).num)),uV (lo (qd ((sl.getD x.1 stp0).q))),.string (hi (qd ((sl.getD x.1 stp0).q)))]⟩],_,hs,hs.f.1,fx_⟩
     refine lBr 57 zp (lLr hs [.v 58 (pB Bx),.o 59 (iV ((sl.getD x.1 stp0).op)) 0 0 1] (lCr 60 hs (tArity ((sl.getD x.1 stp0).op) _ _ hs.g) ?_));rintro _ _ _ hs rfl;have ⟨zS,phb34⟩:=dF (p:=(1:Int)<(ari ((sl.getD x.1 stp0).op):Int)) oM;refine lBr 61 zS (lLr hs [.v 62 qF] (lNr (cIFr (CGr.skip ?_))));intro a_ ka;exact ⟨_,v_,[⟨Bx,43,[iV ((sl.getD x.1 stp0).op),iV ((sl.getD x.1 stp0).a),iV ((sl.getD x.1 stp0).b),iV ((sl.getD x.1 stp0).n),.bool (ineg ((sl.getD x.1 stp0).q).num),uV (lo (iabs ((sl.getD x.1 stp0).q).num)),.string (hi (iabs ((sl.getD x.1 stp0).q).num)),uV (lo (qd ((sl.getD x.1 stp0).q))),.string (hi (qd ((sl.getD x.1 stp0).q)))]⟩],_,hs,hs.f.1,fx_⟩
    have zD:=oT zi;refine lBr 47 zi (lLr hs [.v 48 qT] (lNr (cITr (CGr.listed (lLr hs [.o 49 (qS (sB b7) l.length l.length) 1 0 1,.v 50 (qP Bx 1),.o 51 (iV ((sl.getD x.1 stp0).a)) 0 1 1] (lXr 52 (sB b7) l.length l.length 1 ((sl.getD x.1 stp0).a) ((sl.getD x.1 stp0).a.toNat) rfl (lWr 2 v_ boolc 1 ((sl.getD x.1 stp0).a.toNat) true hs oM (fun _ hs=>?_))))))));have zq:((v_).set ((sl.getD x.1 stp0).a.toNat) true).length=l.length:=by rw[List.length_set];exact fx_
    replace hs:=hs.to [⟨Bx,43,[iV ((sl.getD x.1 stp0).op),iV ((sl.getD x.1 stp0).a),iV ((sl.getD x.1 stp0).b),iV ((sl.getD x.1 stp0).n),.bool (ineg ((sl.getD x.1 stp0).q).num),uV (lo (iabs ((sl.getD x.1 stp0).q).num)),.string (hi (iabs ((sl.getD x.1 stp0).q).num)),uV (lo (qd ((sl.getD x.1 stp0).q))),.string (hi (qd ((sl.getD x.1 stp0).q)))]⟩,⟨za,86,[qS (sB b7) l.length l.length]⟩,⟨b7,4,((v_).set ((sl.getD x.1 stp0).a.toNat) true).flatMap boolc⟩,⟨b4,29,[iV 0,sZ,sZ]⟩,⟨b1,29,[iV inp,qS A ((l).length) c,qS O ((os).length) d]⟩] [];refine lNr (cSLr (lLr hs [.o 53 (qS (sB b7) l.length l.length) 1 0 1,.m 54 10] (lXr 55 (sB b7) l.length l.length 1 (x.1:Nat) x.1 rfl (lQr 56 2 ((v_).set ((sl.getD x.1 stp0).a.toNat) true) boolc 1 false x.1 (.bool (((v_).set ((sl.getD x.1 stp0).a.toNat) true).getD x.1 false)) hs oM ?_))))
    rcases bcase (((v_).set ((sl.getD x.1 stp0).a.toNat) true).getD x.1 false) with zr|zr
    ·
     refine lBr 57 zr (lGr 58 (lGr 59 (lGr 60 (lGr 61 (lLr hs [.v 62 qF] (lNr (cIFr (CGr.skip ?_))))))));intro a_ ka;exact ⟨_,((v_).set ((sl.getD x.1 stp0).a.toNat) true),[⟨Bx,43,[iV ((sl.getD x.1 stp0).op),iV ((sl.getD x.1 stp0).a),iV ((sl.getD x.1 stp0).b),iV ((sl.getD x.1 stp0).n),.bool (ineg ((sl.getD x.1 stp0).q).num),uV (lo (iabs ((sl.getD x.1 stp0).q).num)),.string (hi (iabs ((sl.getD x.1 stp0).q).num)),uV (lo (qd ((sl.getD x.1 stp0).q))),.string (hi (qd ((sl.getD x.1 stp0).q)))]⟩],_,hs,hs.f.1,zq⟩
    refine lBr 57 zr (lLr hs [.v 58 (pB Bx),.o 59 (iV ((sl.getD x.1 stp0).op)) 0 0 1] (lCr 60 hs (tArity ((sl.getD x.1 stp0).op) _ _ hs.g) ?_));rintro _ _ _ hs rfl;cases zj:(decide ((1:Int)<(ari ((sl.getD x.1 stp0).op):Int)))
    ·
     have zE:=oF zj;refine lBr 61 zj (lLr hs [.v 62 qF] (lNr (cIFr (CGr.skip ?_))));intro a_ ka;exact ⟨_,((v_).set ((sl.getD x.1 stp0).a.toNat) true),[⟨Bx,43,[iV ((sl.getD x.1 stp0).op),iV ((sl.getD x.1 stp0).a),iV ((sl.getD x.1 stp0).b),iV ((sl.getD x.1 stp0).n),.bool (ineg ((sl.getD x.1 stp0).q).num),uV (lo (iabs ((sl.getD x.1 stp0).q).num)),.string (hi (iabs ((sl.getD x.1 stp0).q).num)),uV (lo (qd ((sl.getD x.1 stp0).q))),.string (hi (qd ((sl.getD x.1 stp0).q)))]⟩],_,hs,hs.f.1,zq⟩
    have zE:=oT zj;refine lBr 61 zj (lLr hs [.v 62 qT] (lNr (cITr (CGr.listed (lLr hs [.o 63 (qS (sB b7) l.length l.length) 1 0 1,.v 64 (qP Bx 2),.o 65 (iV ((sl.getD x.1 stp0).b)) 0 2 1] (lXr 66 (sB b7) l.length l.length 1 ((sl.getD x.1 stp0).b) ((sl.getD x.1 stp0).b.toNat) rfl (lWr 2 ((v_).set ((sl.getD x.1 stp0).a.toNat) true) boolc 1 ((sl.getD x.1 stp0).b.toNat) true hs oM (fun _ hs=>?_))))))));have zT:(((v_).set ((sl.getD x.1 stp0).a.toNat) true).set ((sl.getD x.1 stp0).b.toNat) true).length=l.length:=by rw[List.length_set];exact zq
    replace hs:=hs.to [⟨Bx,43,[iV ((sl.getD x.1 stp0).op),iV ((sl.getD x.1 stp0).a),iV ((sl.getD x.1 stp0).b),iV ((sl.getD x.1 stp0).n),.bool (ineg ((sl.getD x.1 stp0).q).num),uV (lo (iabs ((sl.getD x.1 stp0).q).num)),.string (hi (iabs ((sl.getD x.1 stp0).q).num)),uV (lo (qd ((sl.getD x.1 stp0).q))),.string (hi (qd ((sl.getD x.1 stp0).q)))]⟩,⟨za,86,[qS (sB b7) l.length l.length]⟩,⟨b7,4,(((v_).set ((sl.getD x.1 stp0).a.toNat) true).set ((sl.getD x.1 stp0).b.toNat) true).flatMap boolc⟩,⟨b4,29,[iV 0,sZ,sZ]⟩,⟨b1,29,[iV inp,qS A ((l).length) c,qS O ((os).length) d]⟩] [];refine lDr ?_;intro a_ ka;exact ⟨_,(((v_).set ((sl.getD x.1 stp0).a.toNat) true).set ((sl.getD x.1 stp0).b.toNat) true),[⟨Bx,43,[iV ((sl.getD x.1 stp0).op),iV ((sl.getD x.1 stp0).a),iV ((sl.getD x.1 stp0).b),iV ((sl.getD x.1 stp0).n),.bool (ineg ((sl.getD x.1 stp0).q).num),uV (lo (iabs ((sl.getD x.1 stp0).q).num)),.string (hi (iabs ((sl.getD x.1 stp0).q).num)),uV (lo (qd ((sl.getD x.1 stp0).q))),.string (hi (qd ((sl.getD x.1 stp0).q)))]⟩],_,hs,hs.f.1,zT⟩
  case beh_ =>
    intro D xs v_ W_ hh_ hD_ hS_ fx_ hs hgr_ hDm_;replace hs:=hs.add (K:=fun h_=>h_[D]?=some (.deferred (some []))) hDm_ (fun _ _ u x=>dfr_gw u x);replace hs:=hs.to [⟨za,86,[qS (sB b7) l.length l.length]⟩,⟨b7,4,(v_).flatMap boolc⟩,⟨b4,29,[iV 0,sZ,sZ]⟩,⟨b1,29,[iV inp,qS A ((l).length) c,qS O ((os).length) d]⟩] [];refine CG.run (cTo [(1000000,nV D),(1,qS (sB Sb) l.length l.length),(2,qS Bb l.length l.length),(3,pB b1),(6,pB b4),(7,pB za),(22,qS O ((os).length) d),(23,nV ((os).length)),(24,nV i),(25,qF),(35,qS (sB Sb) l.length l.length),(36,.func (.func 63) #[] #[pB bv])] (cSL (lL hs [.v 67 (pB b1),.o 68 (iV inp) 3 0 1,.v 69 (.agg #[iV inp,sZ,sZ])] (lA 12 29 ([iV 0,sZ,sZ]) hs (fun zb _ _ hs=>lP 0 0 ([iV inp,sZ,sZ]) hs (fun _ hs=>lNS (lL hs [.m 70 1,.v 71 (nV l.length)] (lK 72 3 l.length 1 8 (iV 0) i64c (0:Int) hs (fun zc _ yf hs=>?_)))))))));have hl50:(List.replicate l.length (0:Int)).length=l.length:=by simp
    refine lL hs [.m 13 72] (lN (cQ (cSL (lL hs [.m 73 1,.v 74 (nV l.length),.v 75 (iV 0)] (lN (kZ ?_))))));replace hs:=hs.nil 43 9;refine cTo [(2,qS Bb l.length l.length),(3,pB b1),(6,pB b4),(7,pB za),(1000000,nV D),(12,pB zb),(13,qS (sB zc) l.length l.length),(73,qS (sB Sb) l.length l.length),(74,nV l.length),(75,iV 0)] ?_;refine CG.loop (fun μ_ Γ w_=>∃ (k:Nat) (tl:List Int) (saA:Option Addr) (sac:Nat) (al:List Stp) (h_:Hp),μ_=l.length-k∧Γ=[(2,qS Bb l.length l.length),(3,pB b1),(6,pB b4),(7,pB za),(1000000,nV D),(12,pB zb),(13,qS (sB zc) l.length l.length),(73,qS (sB Sb) l.length l.length),(74,nV l.length),(75,nV k)]∧SS w h w_ h_ [⟨zc,3,(tl).flatMap i64c⟩,⟨zb,29,[iV inp,qS saA ((al).length) sac,sZ]⟩,⟨za,86,[qS (sB b7) l.length l.length]⟩,⟨b7,4,(v_).flatMap boolc⟩,⟨b4,29,[iV 0,sZ,sZ]⟩,⟨b1,29,[iV inp,qS A ((l).length) c,qS O ((os).length) d]⟩] [⟨43,9,saA,sac,(al).length,(al).flatMap stc⟩] [fun h_=>h_[D]?=some (.deferred (some [])),fun h_=>Seg h_ bv 0 [qS (sB Sb) l.length l.length],Si Bb bl,fun h_=>SlO 9 stc stp0 h_ (sB Sb) sl,Si O os,fun h_=>SlO 9 stc stp0 h_ A l]∧k≤l.length∧tl.length=l.length∧al.length≤k) _ ⟨0,List.replicate l.length 0,none,0,[],yf,rfl,rfl,hs.to _ _,Nat.zero_le _,(by simp),(by simp)⟩ ?_;rintro _ _ _ ⟨k,tl,saA,sac,al,yg,hm53,rfl,hs,hk,htl,hal⟩;refine cSL ?_;cases zk:(decide ((k:Int)<(l.length:Int)))
    ·
     have zF:=oF zk;refine lB 76 zk (lN (cQ (cIF (CG.exit ?_))))
     show CG _ _ _ _ _ _ _ _
     refine cQ (cSL (lL hs [.v 118 (qP b1 2),.o 119 (qS O ((os).length) d) 5 2 1,.v 120 (nV ((os).length)),.v 121 (iV 0)] (lN (kZ ?_))));replace hs:=hs.nil 3 1;refine cTo [(2,qS Bb l.length l.length),(6,pB b4),(1000000,nV D),(12,pB zb),(13,qS (sB zc) l.length l.length),(119,qS O ((os).length) d),(120,nV ((os).length)),(121,iV 0)] ?_;refine CG.loop (fun μ_ Γ w_=>∃ (m:Nat) (soA:Option Addr) (soc:Nat) (ol:List Int) (h_:Hp),μ_=os.length-m∧Γ=[(2,qS Bb l.length l.length),(6,pB b4),(1000000,nV D),(12,pB zb),(13,qS (sB zc) l.length l.length),(119,qS O ((os).length) d),(120,nV ((os).length)),(121,nV m)]∧SS w h w_ h_ [⟨zc,3,(tl).flatMap i64c⟩,⟨zb,29,[iV inp,qS saA ((al).length) sac,qS soA ((ol).length) soc]⟩,⟨za,86,[qS (sB b7) l.length l.length]⟩,⟨b7,4,(v_).flatMap boolc⟩,⟨b4,29,[iV 0,sZ,sZ]⟩,⟨b1,29,[iV inp,qS A ((l).length) c,qS O ((os).length) d]⟩] [⟨3,1,soA,soc,(ol).length,(ol).flatMap i64c⟩,⟨43,9,saA,sac,(al).length,(al).flatMap stc⟩] [fun h_=>h_[D]?=some (.deferred (some [])),fun h_=>Seg h_ bv 0 [qS (sB Sb) l.length l.length],Si Bb bl,fun h_=>SlO 9 stc stp0 h_ (sB Sb) sl,Si O os,fun h_=>SlO 9 stc stp0 h_ A l]∧m≤os.length∧ol.length≤m) _ ⟨0,none,0,[],yg,rfl,rfl,hs.to _ _,Nat.zero_le _,(by simp)⟩ ?_;rintro _ _ _ ⟨m,soA,soc,ol,_,hm57,rfl,hs,hm_,hol_⟩;refine cSL ?_;cases zl:(decide ((m:Int)<(((os).length:Nat):Int)))
     ·
      have zG:=oF zl;refine lB 122 zl (lN (cQ (cIF (CG.exit ?_))))
      show CG _ _ _ _ _ _ _ _
      refine cSL (lL hs [.o 138 (.agg #[iV inp,qS saA ((al).length) sac,qS soA ((ol).length) soc]) 1 0 3] (lP 4 0 ([iV inp,qS saA ((al).length) sac,qS soA ((ol).length) soc]) hs (fun _ hs=>lN (kX ?_))));obtain ⟨hx1_,hs⟩:=hs.pubN (l:=ol) (f:=i64c) (sz:=1) (ty:=3) (A:=soA) (c:=soc) 0 (0:Int) (fun _=>rfl) oM oM;obtain ⟨hx2_,hs⟩:=hs.pubN (l:=al) (f:=stc) (sz:=9) (ty:=43) (A:=saA) (c:=sac) 0 stp0 (fun _=>rfl) oM oM;have hdm_:=hs.f.r.1;have hlo_:=hgr_.size;exact hs.retT D (Nat.le_trans hs0_ hD_) hdm_ [(4,0,3)] (.agg #[iV inp,qS saA ((al).length) sac,qS soA ((ol).length) soc]) ⟨_,_,_,_,_,_,rfl,hs.f.1.set hdm_,hs.f.2.1.set hdm_⟩
     have zG:=oT zl;refine lB 122 zl (lN (cQ (cIT (cK (cQ (kZ (cSL (lX 123 O ((os).length) d 1 (m:Nat) m ((hs.f.q.1).ok oM) ?_))))))));refine lH 124 (iV (os.getD m 0)) hs ((hs.f.q.1).el m oM) (lL hs [.m 17 124] (lN (CG.region ⟨((Value.slice soA ((ol).length) soc).ownBlock.toList),none⟩ 11 [] mixed kR hs.g al_nil (hs.ro_lt 0 (ty:=3) (sz:=1) (A:=soA) (c:=soc) (m:=(ol).length) (cs:=(ol).flatMap i64c)) ?_)));have ho1_:=hOk m oM;have hb1_:=hBy (os.getD m 0).toNat oM;refine eV 0 125 (qP zb 2) (eO 1 126 [(1,2,1)] (qS soA ((ol).length) soc) hs ?_ (hM:=fun p hp=>by obtain rfl:=List.mem_singleton.1 hp;exact hs.ro_ne 1 0 (ty:=3) (sz:=1) (A:=soA) (c:=soc) (m:=(ol).length) (cs:=(ol).flatMap i64c)));refine eV 2 127 (qS (sB zc) l.length l.length) (eV 3 128 (qS Bb l.length l.length) (eV 4 129 (iV (os.getD m 0)) (eX 5 130 Bb l.length l.length 1 (os.getD m 0) ((os.getD m 0).toNat) ((hs.f.r.1).ok oM) (eH 6 131 (iV (bl.getD ((os.getD m 0).toNat) 0)) hs ((hs.f.r.1).el ((os.getD m 0).toNat) oM) ?_ (hM:=hs.ro_jk 0 (ty:=3) (sz:=1) (A:=soA) (c:=soc) (m:=(ol).length) (cs:=(ol).flatMap i64c))))));refine eX 7 132 (sB zc) l.length l.length 1 (bl.getD ((os.getD m 0).toNat) 0) ((bl.getD (os.getD m 0).toNat 0).toNat) rfl (eQ 8 133 0 tl i64c 1 0 ((bl.getD (os.getD m 0).toNat 0).toNat) (iV ((tl).getD ((bl.getD (os.getD m 0).toNat 0).toNat) 0)) hs oM ?_ (hM:=hs.ro_ne 0 0 (ty:=3) (sz:=1) (A:=soA) (c:=soc) (m:=(ol).length) (cs:=(ol).flatMap i64c)));refine eR 9 134 3 1 ([iV ((tl).getD ((bl.getD (os.getD m 0).toNat 0).toNat) 0)]) hs (fun yi _ _ hs=>eY 10 135 0 3 1 soc soA ol i64c ((tl).getD ((bl.getD (os.getD m 0).toNat 0).toNat) 0) 8 yi (iV 0) hs (fun _ f_=>f_.1) (fun b hb=>Option.mem_toList.2 hb) (fun zM zN _ _ hs=>eD0 hs (fun _ yj hs=>tV 11 136 (qP zb 2) (tP 12 1 2 ([qS zM ((ol++[(tl).getD ((bl.getD (os.getD m 0).toNat 0).toNat) 0]).length) zN]) hs (fun _ hs=>tN (kQ (lIn 137 ((m:Nat)+1) (m+1) ?_)))))));refine lL hs [.m 121 137] (lD ?_);intro a_ ka;replace hs:=hs.tl;refine ⟨_,_,?_,⟨m+1,zM,zN,ol++[(tl).getD ((bl.getD (os.getD m 0).toNat 0).toNat) 0],yj,rfl,rfl,hs.to _ _,oM,(by simp;omega)⟩,ka.to _ kR⟩
     omega
    have zF:=oT zk;refine lB 76 zk (lN (cQ (cIT (cK (cQ (kZ (cSL (lL hs [.m 77 75] (lX 78 (sB Sb) l.length l.length 9 (k:Nat) k ((hs.f.r.2.1).ok oM) ?_)))))))));refine lH 79 (.agg #[iV ((sl.getD k stp0).op),iV ((sl.getD k stp0).a),iV ((sl.getD k stp0).b),iV ((sl.getD k stp0).n),.bool (ineg ((sl.getD k stp0).q).num),uV (lo (iabs ((sl.getD k stp0).q).num)),.string (hi (iabs ((sl.getD k stp0).q).num)),uV (lo (qd ((sl.getD k stp0).q))),.string (hi (qd ((sl.getD k stp0).q)))]) hs ((hs.f.r.2.1).el k oM) (lA 15 43 ([iV 0,iV 0,iV 0,iV 0,qF,uV 0,eS,uV 0,eS]) hs (fun zd _ yk hs=>lL hs [.m 14 77] (lP 0 0 ([iV ((sl.getD k stp0).op),iV ((sl.getD k stp0).a),iV ((sl.getD k stp0).b),iV ((sl.getD k stp0).n),.bool (ineg ((sl.getD k stp0).q).num),uV (lo (iabs ((sl.getD k stp0).q).num)),.string (hi (iabs ((sl.getD k stp0).q).num)),uV (lo (qd ((sl.getD k stp0).q))),.string (hi (qd ((sl.getD k stp0).q)))]) hs (fun _ hs=>lN (cQ (cSL (lL hs [.o 80 (qS (sB b7) l.length l.length) 3 0 1,.m 81 14] (lX 82 (sB b7) l.length l.length 1 (k:Nat) k rfl ?_))))))));refine lQ 83 4 v_ boolc 1 false k (.bool ((v_).getD k false)) hs oM ?_;cases zs:(!((v_).getD k false))
    ·
     refine lB 84 zs (lN (cIF (cK (cQ (cSL (lL hs [.v 85 (pB zd),.o 86 (iV ((sl.getD k stp0).op)) 0 0 1] (lC 87 hs (tArity ((sl.getD k stp0).op) _ _ hs.g) ?_)))))));rintro _ _ _ hs rfl;cases zm:(decide ((0:Int)<(ari ((sl.getD k stp0).op):Int)))
     ·
      have zH:=oF zm;refine lB 88 zm (lN (cIF (cK (cQ (cSL (lL hs [.v 95 (pB zd),.o 96 (iV ((sl.getD k stp0).op)) 0 0 1] (lC 97 hs (tArity ((sl.getD k stp0).op) _ _ hs.g) ?_)))))));rintro _ _ _ hs rfl;have ⟨zU,phb84⟩:=dF (p:=(1:Int)<(ari ((sl.getD k stp0).op):Int)) oM;refine lB 98 zU (lN (cIF (cK (cSL (lL hs [.m 105 13,.m 106 14,.v 107 (qP zb 1),.o 108 (qS saA ((al).length) sac) 2 1 1,.v 109 (nV ((al).length))] (lX 110 (sB zc) l.length l.length 1 (k:Nat) k rfl ?_))))));refine lW 1 tl i64c 1 k ((al).length:Nat) hs oM (fun _ hs=>?_);have zW:((tl).set k ((al).length:Nat)).length=l.length:=by rw[List.length_set];exact htl
      replace hs:=hs.to [⟨zd,43,[iV ((sl.getD k stp0).op),iV ((sl.getD k stp0).a),iV ((sl.getD k stp0).b),iV ((sl.getD k stp0).n),.bool (ineg ((sl.getD k stp0).q).num),uV (lo (iabs ((sl.getD k stp0).q).num)),.string (hi (iabs ((sl.getD k stp0).q).num)),uV (lo (qd ((sl.getD k stp0).q))),.string (hi (qd ((sl.getD k stp0).q)))]⟩,⟨zc,3,((tl).set k ((al).length:Nat)).flatMap i64c⟩,⟨zb,29,[iV inp,qS saA ((al).length) sac,sZ]⟩,⟨za,86,[qS (sB b7) l.length l.length]⟩,⟨b7,4,(v_).flatMap boolc⟩,⟨b4,29,[iV 0,sZ,sZ]⟩,⟨b1,29,[iV inp,qS A ((l).length) c,qS O ((os).length) d]⟩] [⟨43,9,saA,sac,(al).length,(al).flatMap stc⟩];refine lN (kQ (lL hs [.v 111 (qP zb 1),.o 112 (qS saA ((al).length) sac) 2 1 1,.o 113 (.agg #[iV ((sl.getD k stp0).op),iV ((sl.getD k stp0).a),iV ((sl.getD k stp0).b),iV ((sl.getD k stp0).n),.bool (ineg ((sl.getD k stp0).q).num),uV (lo (iabs ((sl.getD k stp0).q).num)),.string (hi (iabs ((sl.getD k stp0).q).num)),uV (lo (qd ((sl.getD k stp0).q))),.string (hi (qd ((sl.getD k stp0).q)))]) 0 0 9] (lR 114 43 1 ([iV ((sl.getD k stp0).op),iV ((sl.getD k stp0).a),iV ((sl.getD k stp0).b),iV ((sl.getD k stp0).n),.bool (ineg ((sl.getD k stp0).q).num),uV (lo (iabs ((sl.getD k stp0).q).num)),.string (hi (iabs ((sl.getD k stp0).q).num)),uV (lo (qd ((sl.getD k stp0).q))),.string (hi (qd ((sl.getD k stp0).q)))]) hs (fun yl _ _ hs=>lY 115 0 43 9 sac saA al stc (⟨(sl.getD k stp0).op,(sl.getD k stp0).a,(sl.getD k stp0).b,(sl.getD k stp0).n,(sl.getD k stp0).q⟩:Stp) 88 yl (.agg #[iV 0,iV 0,iV 0,iV 0,qF,uV 0,eS,uV 0,eS]) hs hs.f.1 (fun zP zQ _ ym hs=>lL hs [.v 116 (qP zb 1)] (lP 2 1 ([qS zP ((al++[(⟨(sl.getD k stp0).op,(sl.getD k stp0).a,(sl.getD k stp0).b,(sl.getD k stp0).n,(sl.getD k stp0).q⟩:Stp)]).length) zQ]) hs (fun _ hs=>lN (cTo [(2,qS Bb l.length l.length),(3,pB b1),(6,pB b4),(7,pB za),(1000000,nV D),(12,pB zb),(13,qS (sB zc) l.length l.length),(73,qS (sB Sb) l.length l.length),(74,nV l.length),(75,nV k)] ?_))))))));refine kQ (lIn 117 ((k:Nat)+1) (k+1) ?_);refine lL hs [.m 75 117] (lD ?_);intro a_ ka;replace hs:=hs.tl;replace hs:=hs.drop 1 0;refine ⟨_,_,?_,⟨k+1,(tl).set k ((al).length:Nat),zP,zQ,al++[(⟨(sl.getD k stp0).op,(sl.getD k stp0).a,(sl.getD k stp0).b,(sl.getD k stp0).n,(sl.getD k stp0).q⟩:Stp)],ym,rfl,rfl,hs.to _ _,oM,zW,(by (try simp only[List.length_append,List.length_singleton]);omega)⟩,ka.to _ kR⟩
      omega
     have zH:=oT zm;refine lB 88 zm (lN (cIT (kQ ?_)));have hstk_:=hSt k oM;refine lL hs [.m 89 13,.v 90 (qP zd 1),.o 91 (iV ((sl.getD k stp0).a)) 0 1 1] (lX 92 (sB zc) l.length l.length 1 ((sl.getD k stp0).a) ((sl.getD k stp0).a.toNat) rfl ?_);refine lQ 93 1 tl i64c 1 0 ((sl.getD k stp0).a.toNat) (iV ((tl).getD ((sl.getD k stp0).a.toNat) 0)) hs oM (lL hs [.v 94 (qP zd 1)] (lP 0 1 ([iV ((tl).getD ((sl.getD k stp0).a.toNat) 0)]) hs (fun _ hs=>lN (cQ (cSL (lL hs [.v 95 (pB zd),.o 96 (iV ((sl.getD k stp0).op)) 0 0 1] (lC 97 hs (tArity ((sl.getD k stp0).op) _ _ hs.g) ?_)))))));rintro _ _ _ hs rfl;cases ze:(decide ((1:Int)<(ari ((sl.getD k stp0).op):Int)))
     ·
      have zt:=oF ze;refine lB 98 ze (lN (cIF (cK (cSL (lL hs [.m 105 13,.m 106 14,.v 107 (qP zb 1),.o 108 (qS saA ((al).length) sac) 2 1 1,.v 109 (nV ((al).length))] (lX 110 (sB zc) l.length l.length 1 (k:Nat) k rfl ?_))))));refine lW 1 tl i64c 1 k ((al).length:Nat) hs oM (fun _ hs=>?_);have zI:((tl).set k ((al).length:Nat)).length=l.length:=by rw[List.length_set];exact htl
      replace hs:=hs.to [⟨zd,43,[iV ((sl.getD k stp0).op),iV ((tl).getD ((sl.getD k stp0).a.toNat) 0),iV ((sl.getD k stp0).b),iV ((sl.getD k stp0).n),.bool (ineg ((sl.getD k stp0).q).num),uV (lo (iabs ((sl.getD k stp0).q).num)),.string (hi (iabs ((sl.getD k stp0).q).num)),uV (lo (qd ((sl.getD k stp0).q))),.string (hi (qd ((sl.getD k stp0).q)))]⟩,⟨zc,3,((tl).set k ((al).length:Nat)).flatMap i64c⟩,⟨zb,29,[iV inp,qS saA ((al).length) sac,sZ]⟩,⟨za,86,[qS (sB b7) l.length l.length]⟩,⟨b7,4,(v_).flatMap boolc⟩,⟨b4,29,[iV 0,sZ,sZ]⟩,⟨b1,29,[iV inp,qS A ((l).length) c,qS O ((os).length) d]⟩] [⟨43,9,saA,sac,(al).length,(al).flatMap stc⟩];refine lN (cTo [(2,qS Bb l.length l.length),(3,pB b1),(6,pB b4),(7,pB za),(1000000,nV D),(12,pB zb),(13,qS (sB zc) l.length l.length),(73,qS (sB Sb) l.length l.length),(74,nV l.length),(75,nV k),(15,pB zd)] ?_);refine kQ (lL hs [.v 111 (qP zb 1),.o 112 (qS saA ((al).length) sac) 2 1 1,.o 113 (.agg #[iV ((sl.getD k stp0).op),iV ((tl).getD ((sl.getD k stp0).a.toNat) 0),iV ((sl.getD k stp0).b),iV ((sl.getD k stp0).n),.bool (ineg ((sl.getD k stp0).q).num),uV (lo (iabs ((sl.getD k stp0).q).num)),.string (hi (iabs ((sl.getD k stp0).q).num)),uV (lo (qd ((sl.getD k stp0).q))),.string (hi (qd ((sl.getD k stp0).q)))]) 0 0 9] (lR 114 43 1 ([iV ((sl.getD k stp0).op),iV ((tl).getD ((sl.getD k stp0).a.toNat) 0),iV ((sl.getD k stp0).b),iV ((sl.getD k stp0).n),.bool (ineg ((sl.getD k stp0).q).num),uV (lo (iabs ((sl.getD k stp0).q).num)),.string (hi (iabs ((sl.getD k stp0).q).num)),uV (lo (qd ((sl.getD k stp0).q))),.string (hi (qd ((sl.getD k stp0).q)))]) hs (fun zX _ _ hs=>lY 115 0 43 9 sac saA al stc (⟨(sl.getD k stp0).op,(tl).getD ((sl.getD k stp0).a.toNat) 0,(sl.getD k stp0).b,(sl.getD k stp0).n,(sl.getD k stp0).q⟩:Stp) 88 zX (.agg #[iV 0,iV 0,iV 0,iV 0,qF,uV 0,eS,uV 0,eS]) hs hs.f.1 (fun zu zv _ ya hs=>lL hs [.v 116 (qP zb 1)] (lP 2 1 ([qS zu ((al++[(⟨(sl.getD k stp0).op,(tl).getD ((sl.getD k stp0).a.toNat) 0,(sl.getD k stp0).b,(sl.getD k stp0).n,(sl.getD k stp0).q⟩:Stp)]).length) zv]) hs (fun _ hs=>lN (kQ (lIn 117 ((k:Nat)+1) (k+1) ?_))))))));refine lL hs [.m 75 117] (lD ?_);intro a_ ka;replace hs:=hs.tl;replace hs:=hs.drop 1 0;refine ⟨_,_,?_,⟨k+1,(tl).set k ((al).length:Nat),zu,zv,al++[(⟨(sl.getD k stp0).op,(tl).getD ((sl.getD k stp0).a.toNat) 0,(sl.getD k stp0).b,(sl.getD k stp0).n,(sl.getD k stp0).q⟩:Stp)],ya,rfl,rfl,hs.to _ _,oM,zI,(by (try simp only[List.length_append,List.length_singleton]);omega)⟩,ka.to _ kR⟩
      omega
     have zt:=oT ze;refine lB 98 ze (lN (cIT (kQ ?_)));have hstk2_:=hSt k oM;refine lL hs [.m 99 13,.v 100 (qP zd 2),.o 101 (iV ((sl.getD k stp0).b)) 0 2 1] (lX 102 (sB zc) l.length l.length 1 ((sl.getD k stp0).b) ((sl.getD k stp0).b.toNat) rfl ?_);refine lQ 103 1 tl i64c 1 0 ((sl.getD k stp0).b.toNat) (iV ((tl).getD ((sl.getD k stp0).b.toNat) 0)) hs oM (lL hs [.v 104 (qP zd 2)] (lP 0 2 ([iV ((tl).getD ((sl.getD k stp0).b.toNat) 0)]) hs (fun _ hs=>lN (cTo [(2,qS Bb l.length l.length),(3,pB b1),(6,pB b4),(7,pB za),(1000000,nV D),(12,pB zb),(13,qS (sB zc) l.length l.length),(73,qS (sB Sb) l.length l.length),(74,nV l.length),(75,nV k),(15,pB zd),(14,nV k)] ?_))));refine cSL (lL hs [.m 105 13,.m 106 14,.v 107 (qP zb 1),.o 108 (qS saA ((al).length) sac) 2 1 1,.v 109 (nV ((al).length))] (lX 110 (sB zc) l.length l.length 1 (k:Nat) k rfl ?_));refine lW 1 tl i64c 1 k ((al).length:Nat) hs oM (fun _ hs=>?_);have zJ:((tl).set k ((al).length:Nat)).length=l.length:=by rw[List.length_set];exact htl
     replace hs:=hs.to [⟨zd,43,[iV ((sl.getD k stp0).op),iV ((tl).getD ((sl.getD k stp0).a.toNat) 0),iV ((tl).getD ((sl.getD k stp0).b.toNat) 0),iV ((sl.getD k stp0).n),.bool (ineg ((sl.getD k stp0).q).num),uV (lo (iabs ((sl.getD k stp0).q).num)),.string (hi (iabs ((sl.getD k stp0).q).num)),uV (lo (qd ((sl.getD k stp0).q))),.string (hi (qd ((sl.getD k stp0).q)))]⟩,⟨zc,3,((tl).set k ((al).length:Nat)).flatMap i64c⟩,⟨zb,29,[iV inp,qS saA ((al).length) sac,sZ]⟩,⟨za,86,[qS (sB b7) l.length l.length]⟩,⟨b7,4,(v_).flatMap boolc⟩,⟨b4,29,[iV 0,sZ,sZ]⟩,⟨b1,29,[iV inp,qS A ((l).length) c,qS O ((os).length) d]⟩] [⟨43,9,saA,sac,(al).length,(al).flatMap stc⟩];refine lN (kQ (lL hs [.v 111 (qP zb 1),.o 112 (qS saA ((al).length) sac) 2 1 1,.o 113 (.agg #[iV ((sl.getD k stp0).op),iV ((tl).getD ((sl.getD k stp0).a.toNat) 0),iV ((tl).getD ((sl.getD k stp0).b.toNat) 0),iV ((sl.getD k stp0).n),.bool (ineg ((sl.getD k stp0).q).num),uV (lo (iabs ((sl.getD k stp0).q).num)),.string (hi (iabs ((sl.getD k stp0).q).num)),uV (lo (qd ((sl.getD k stp0).q))),.string (hi (qd ((sl.getD k stp0).q)))]) 0 0 9] (lR 114 43 1 ([iV ((sl.getD k stp0).op),iV ((tl).getD ((sl.getD k stp0).a.toNat) 0),iV ((tl).getD ((sl.getD k stp0).b.toNat) 0),iV ((sl.getD k stp0).n),.bool (ineg ((sl.getD k stp0).q).num),uV (lo (iabs ((sl.getD k stp0).q).num)),.string (hi (iabs ((sl.getD k stp0).q).num)),uV (lo (qd ((sl.getD k stp0).q))),.string (hi (qd ((sl.getD k stp0).q)))]) hs (fun yb _ _ hs=>lY 115 0 43 9 sac saA al stc (⟨(sl.getD k stp0).op,(tl).getD ((sl.getD k stp0).a.toNat) 0,(tl).getD ((sl.getD k stp0).b.toNat) 0,(sl.getD k stp0).n,(sl.getD k stp0).q⟩:Stp) 88 yb (.agg #[iV 0,iV 0,iV 0,iV 0,qF,uV 0,eS,uV 0,eS]) hs hs.f.1 (fun zw zx _ yc hs=>lL hs [.v 116 (qP zb 1)] (lP 2 1 ([qS zw ((al++[(⟨(sl.getD k stp0).op,(tl).getD ((sl.getD k stp0).a.toNat) 0,(tl).getD ((sl.getD k stp0).b.toNat) 0,(sl.getD k stp0).n,(sl.getD k stp0).q⟩:Stp)]).length) zx]) hs (fun _ hs=>lN (kQ (lIn 117 ((k:Nat)+1) (k+1) ?_)))))))));refine lL hs [.m 75 117] (lD ?_);intro a_ ka;replace hs:=hs.tl;replace hs:=hs.drop 1 0;refine ⟨_,_,?_,⟨k+1,(tl).set k ((al).length:Nat),zw,zx,al++[(⟨(sl.getD k stp0).op,(tl).getD ((sl.getD k stp0).a.toNat) 0,(tl).getD ((sl.getD k stp0).b.toNat) 0,(sl.getD k stp0).n,(sl.getD k stp0).q⟩:Stp)],yc,rfl,rfl,hs.to _ _,oM,zJ,(by (try simp only[List.length_append,List.length_singleton]);omega)⟩,ka.to _ kR⟩
     omega
    refine lB 84 zs (lN (cIT (CG.exit ?_)))
    show CG _ _ _ _ _ _ _ _
    refine kQ (lIn 117 ((k:Nat)+1) (k+1) ?_);refine lL hs [.m 75 117] (lD ?_);intro a_ ka;replace hs:=hs.drop 1 0;refine ⟨_,_,?_,⟨k+1,tl,saA,sac,al,yk,rfl,rfl,hs.to _ _,oM,htl,(by (try simp only[List.length_append,List.length_singleton]);omega)⟩,ka.to _ kR⟩
    omega
 have zA:=oT zf;refine lB 25 zf (lN (cQ (cIT (cK (cQ (kZ (cSL (lX 26 O ((os).length) d 1 (i:Nat) i ((hs.f.r.1).ok oM) ?_))))))));refine lH 27 (iV (os.getD i 0)) hs ((hs.f.r.1).el i oM) (lL hs [.m 9 27] (lN (cR 5 [] mixed hs al_nil ?_)));have ho1_:=hOk i oM;have hb1_:=hBy (os.getD i 0).toNat oM;refine eO 0 28 [(0,0,1)] (qS (sB b7) l.length l.length) hs (eV 1 29 (qS Bb l.length l.length) (eV 2 30 (iV (os.getD i 0)) (eX 3 31 Bb l.length l.length 1 (os.getD i 0) ((os.getD i 0).toNat) ((hs.f.1).ok oM) (eH 4 32 (iV (bl.getD ((os.getD i 0).toNat) 0)) hs ((hs.f.1).el ((os.getD i 0).toNat) oM) (eD0 hs (fun _ yd hs=>tX 5 33 (sB b7) l.length l.length 1 (bl.getD ((os.getD i 0).toNat) 0) ((bl.getD (os.getD i 0).toNat 0).toNat) rfl (tW 6 1 nl boolc 1 ((bl.getD (os.getD i 0).toNat 0).toNat) true hs oM (fun _ hs=>?_))))))));have zK:((nl).set ((bl.getD (os.getD i 0).toNat 0).toNat) true).length=l.length:=by rw[List.length_set];exact hnl
 replace hs:=hs.to [⟨za,86,[qS (sB b7) l.length l.length]⟩,⟨b7,4,((nl).set ((bl.getD (os.getD i 0).toNat 0).toNat) true).flatMap boolc⟩,⟨b4,29,[iV 0,sZ,sZ]⟩,⟨b1,29,[iV inp,qS A ((l).length) c,qS O ((os).length) d]⟩] [];refine tN (kQ (lIn 34 ((i:Nat)+1) (i+1) ?_));refine lL hs [.m 24 34] (lD ?_);intro a_ ka;refine ⟨_,_,?_,⟨i+1,(nl).set ((bl.getD (os.getD i 0).toNat 0).toNat) true,yd,rfl,rfl,hs.to _ _,oM,zK⟩,ka.to _ kR⟩
 omega
end Go.Proofs.YtceljehlpaclmaaGreatDoor
