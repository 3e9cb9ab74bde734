/- Laws and contracts that the card of this claim stands on, part 5. No condition of ours. -/
import Derived.Test.YtmkcmnhnmajheaaGreatDoorPn0
import Derived.Test.YtmkcmnhnmajheaaGreatDoorPn1
import Derived.Test.YtmkcmnhnmajheaaGreatDoorPn2
import Derived.Test.YtmkcmnhnmajheaaGreatDoorPn3
set_option maxRecDepth 100000
set_option maxHeartbeats 4000000
namespace Go.Proofs.YtmkcmnhnmajheaaGreatDoor
open Go.RowKit
open Go.RowKit Go.Shelf
theorem bcase:∀ b:Bool,b=false∨b=true
  | false=>.inl rfl
  | true=>.inr rfl
theorem terr_stopL {sm:Bool}{l:List Stp}{at_ L:List Rat}{k n:Nat}{e:Int}(h0:terr sm l at_ k=0)(hk:k<n)(hL:∀ j,L.getD j 0=(tvals l at_ k).getD j 0)(h:serr sm (l.getD k stp0) L=e)(he:e≠0):terr sm l at_ n=e:=by
  have e1:serr sm (l.getD k stp0) (tvals l at_ k)=e:=by rw[←h];unfold serr;rw[hL,hL]
  rw[terr_stop h0 hk (by rw[e1];exact he),e1]
theorem terr_next {sm:Bool}{l:List Stp}{at_ L:List Rat}{k:Nat}(h0:terr sm l at_ k=0)(hL:∀ j,L.getD j 0=(tvals l at_ k).getD j 0)(h:serr sm (l.getD k stp0) L=0):terr sm l at_ (k+1)=0:=by
  refine terr_step h0 ?_;rw[←h];unfold serr;rw[hL,hL]
theorem serr_2 {sm:Bool}{s:Stp}{v:List Rat}(h:s.op=2):serr sm s v=0:=if_pos h
theorem serr_0 {sm:Bool}{s:Stp}{v:List Rat}(h:okq s.op s.n (v.getD s.a.toNat 0) (v.getD s.b.toNat 0))(h2:¬(sm=true∧knk s.op (v.getD s.a.toNat 0) (v.getD s.b.toNat 0))):serr sm s v=0:=by
  by_cases e:s.op=2
  · exact if_pos e
  · unfold serr;rw[if_neg e,if_pos h,if_neg h2]
theorem serr_6 {sm:Bool}{s:Stp}{v:List Rat}(h2:s.op≠2)(h:¬okq s.op s.n (v.getD s.a.toNat 0) (v.getD s.b.toNat 0)):serr sm s v=6:=by
  unfold serr;rw[if_neg h2,if_neg h]
theorem serr_7 {s:Stp}{v:List Rat}(h2:s.op≠2)(h:okq s.op s.n (v.getD s.a.toNat 0) (v.getD s.b.toNat 0))(h3:knk s.op (v.getD s.a.toNat 0) (v.getD s.b.toNat 0)):serr true s v=7:=by
  unfold serr;rw[if_neg h2,if_pos h,if_pos ⟨rfl,h3⟩]
theorem serr_7s {sm:Bool}{s:Stp}{v:List Rat}(h2:s.op≠2)(h:okq s.op s.n (v.getD s.a.toNat 0) (v.getD s.b.toNat 0))(hs:sm=true)(h3:knk s.op (v.getD s.a.toNat 0) (v.getD s.b.toNat 0)):serr sm s v=7:=by subst hs;exact serr_7 h2 h h3
theorem vals_set {l:List Stp}{at_ L:List Rat}{k:Nat}{x:Rat}(hk:k<L.length)(hL:∀ j,L.getD j 0=(tvals l at_ k).getD j 0)(hx:x=sval (l.getD k stp0) at_ L):∀ j,(L.set k x).getD j 0=(tvals l at_ (k+1)).getD j 0:=fun j=>by
  have e1:sval (l.getD k stp0) at_ L=sval (l.getD k stp0) at_ (tvals l at_ k):=by unfold sval;rw[hL,hL]
  have hl:=tvals_len l at_ k
  show _=(tvals l at_ k++[_]).getD j 0
  rw[getD_set_ hk,getD_snoc,hl,←e1,←hx]
  by_cases e:j=k
  · rw[if_pos e,if_neg oM,if_pos e]
  · rw[if_neg e,hL j]
    by_cases h:j<k
    · rw[if_pos h]
    · rw[if_neg h,if_neg e,getD_outR oM]
theorem list_ext {a b:List Rat}(h:a.length=b.length)(hv:∀ j,a.getD j 0=b.getD j 0):a=b:=by
  refine List.ext_getElem h (fun i h1 h2=>?_);have:=hv i
  simpa [h1,h2] using this
def vlist (sm:Bool)(l:List Stp)(at_:List Rat):List Rat:=if terr sm l at_ l.length=0 then tvals l at_ l.length else []
theorem pick_of {vs R:List Rat}{os:List Int}(hl:R.length=os.length)(h:∀ j,j<os.length→R.getD j 0=vs.getD (os.getD j 0).toNat 0):R=pickL vs os:=by
  refine list_ext (by unfold pickL;rw[List.length_map];exact hl) (fun j=>?_)
  by_cases hj:j<os.length
  · rw[h j hj];unfold pickL
    have e:(os.map fun o=>vs.getD o.toNat 0).getD j 0=vs.getD (os.getD j 0).toNat 0:=by simp[List.getD_eq_getElem?_getD,hj]
    exact e.symm
  · rw[getD_outR oM,getD_outR (by unfold pickL;rw[List.length_map];omega)]
theorem goS_all {inp:Int}:∀ {l:List Stp} {hv:List Int},goS inp l hv=0→∀ j,j<l.length→Formed inp (hv.length+j) (l.getD j stp0)
  | [],_,_,j,hj=>by simp at hj
  | s :: r,hv,h,j,hj=>by
    unfold goS at h
    split at h
    · rename_i hf
      split at h
      · exact absurd h kD
      · cases j with
        | zero=>exact hf
        | succ j =>
          have:=goS_all h j (by simpa using hj);rw[List.length_append,List.length_singleton] at this
          rw[show hv.length+(j+1)=hv.length+1+j by omega];exact this
    · exact absurd h kD
theorem chk_formed {inp:Int}{l:List Stp}{os:List Int}(h:chkTp inp l os=0):(∀ k,k<l.length→Formed inp k (l.getD k stp0))∧OutsOk l.length os∧0≤inp∧inp≤1000∧l.length≤65536∧os.length≤300:=by
  unfold chkTp at h
  split at h
  · rename_i h1
    split at h
    · rename_i h2
      split at h
      · rename_i h3
        exact ⟨fun k hk=>by have:=goS_all h2 k hk;simpa using this,h3,h1⟩
      · exact absurd h kD
    · rename_i h2;exact absurd h h2
  · exact absurd h kD
def runE (sm:Bool)(inp:Int)(l:List Stp)(os:List Int)(at_:List Rat):Int:=if chkTp inp l os=0 then (if (at_.length:Int)=inp then terr sm l at_ l.length else 5) else 1
def runL (sm:Bool)(inp:Int)(l:List Stp)(os:List Int)(at_:List Rat):List Rat:=if runE sm inp l os at_=0 then pickL (tvals l at_ l.length) os else []
section
variable {sm:Bool} {inp:Int} {l:List Stp} {os:List Int} {at_:List Rat}
theorem run_1 (h:chkTp inp l os≠0):runE sm inp l os at_=1∧runL sm inp l os at_=[]:=by
  have e:runE sm inp l os at_=1:=if_neg h;exact ⟨e,by unfold runL;rw[if_neg (by rw[e];decide)]⟩
theorem run_5 (h:chkTp inp l os=0)(h2:(at_.length:Int)≠inp):runE sm inp l os at_=5∧runL sm inp l os at_=[]:=by
  have e:runE sm inp l os at_=5:=by unfold runE;rw[if_pos h,if_neg h2]
  exact ⟨e,by unfold runL;rw[if_neg (by rw[e];decide)]⟩
theorem run_e (h:chkTp inp l os=0)(h2:(at_.length:Int)=inp)(h3:terr sm l at_ l.length≠0):runE sm inp l os at_=terr sm l at_ l.length∧runL sm inp l os at_=[]:=by
  have e:runE sm inp l os at_=terr sm l at_ l.length:=by unfold runE;rw[if_pos h,if_pos h2]
  exact ⟨e,by unfold runL;rw[if_neg (by rw[e];exact h3)]⟩
theorem run_0 (h:chkTp inp l os=0)(h2:(at_.length:Int)=inp)(h3:terr sm l at_ l.length=0):runE sm inp l os at_=0∧runL sm inp l os at_=pickL (vlist sm l at_) os:=by
  have e:runE sm inp l os at_=0:=by unfold runE;rw[if_pos h,if_pos h2,h3]
  exact ⟨e,by unfold runL vlist;rw[if_pos e,if_pos h3]⟩
end
theorem tValues (sm sb:Bool)(hsb:sb=sm)(inp:Int)(A:Option Addr)(c:Nat)(l:List Stp)(O:Option Addr)(d:Nat)(os:List Int)(at_:List Rat)(X:Option Addr)(cX:Nat)(hF:∀ k,k<l.length→Formed inp k (l.getD k stp0))(hl:l.length≤65536)(hat:(at_.length:Int)=inp)(hq:∀ i,LQ 1 (l.getD i stp0).q)(hB:∀ k,k≤l.length→terr sm l at_ k=0→∀ j,LQ 1000000 ((tvals l at_ k).getD j 0))(w:World)(h:Hp)(g:G w h)(hA:SlO 9 stc stp0 h A l)(hO:Si O os h)(hX:Sq X at_ h)(tb:Tab h):CR 45 #[.agg #[iV inp,.slice A ((l).length) c,.slice O ((os).length) d],.slice X at_.length cX,.bool sb] w h (fun v h1=>∃ A c,v=.tuple #[.slice A (vlist sm l at_).length c,iV (terr sm l at_ l.length)]∧(vlist sm l at_).length≤c∧Sq A (vlist sm l at_) h1):=by
 have hs:=(((((sS g).aS hA).aS hO).aS hX).aB tb);refine go Tryz.func45 [(0,.agg #[iV inp,qS A ((l).length) c,qS O ((os).length) d]),(1,qS X at_.length cX),(2,.bool sb)] rfl (cSL (lA 3 36 ([iV inp,qS A ((l).length) c,qS O ((os).length) d]) hs (fun b1 w2 h3 hs=>lL hs [.v 6 (sZ),.v 7 (iV 0)] (lNS (lL hs [.v 15 (qP b1 1),.o 16 (qS A ((l).length) c) 0 1 1,.v 17 (nV ((l).length))] (lK 18 55 ((l).length) 5 56 (.agg #[qF,uV 0,eS,uV 0,eS]) qc 0 hs (fun b4 w5 h6 hs=>?_)))))));have hl7:(List.replicate ((l).length) 0).length=((l).length):=by simp
 refine lL hs [.m 8 18] (lN (cQ (cSL (lL hs [.v 19 (qP b1 1),.o 20 (qS A ((l).length) c) 1 1 1,.v 21 (nV ((l).length)),.v 22 (iV 0)] (lN (kZ ?_))))));refine cTo _ (CG.loop (fun μ_ Γ w_=>∃ (k:Nat) (L:List Rat) (h_:Hp),μ_=l.length-k∧Γ=[(1,qS X at_.length cX),(2,.bool sb),(8,qS (sB b4) ((l).length) ((l).length)),(20,qS A ((l).length) c),(21,nV ((l).length)),(22,nV k)]∧SS w h w_ h_ [⟨b4,55,(L).flatMap qc⟩,⟨b1,36,[iV inp,qS A ((l).length) c,qS O ((os).length) d]⟩] [] [fun h_=>Tab h_,Sq X at_,Si O os,fun h_=>SlO 9 stc stp0 h_ A l]∧k≤l.length∧L.length=l.length∧(∀ j,L.getD j 0=(tvals l at_ k).getD j 0)∧terr sm l at_ k=0) _ ⟨0,List.replicate l.length (0:Rat),h6,rfl,rfl,hs.to _ _,Nat.zero_le _,(by simp),(fun j=>by rw[rep_zero];rfl),rfl⟩ ?_);rintro _ _ w8 ⟨k,L,h9,hm10,rfl,hs,hk,hLl,hLv,hter⟩;have hLb:∀ j,LQ 1000000 (L.getD j 0):=fun j=>by rw[hLv j];exact hB k hk hter j
 refine cSL ?_;cases zb:(decide ((k:Int)<(((l).length:Nat):Int)))
 ·
  have zi:=oF zb;refine lB 23 zb (lN (cQ (cIF (CG.exit ?_))))
  show CG _ _ _ _ _ _ _ _
  refine cSL (lL hs [.m 69 8,.m 6 69,.v 7 (iV 0)] (lN (kX ?_)));have hkn:k=l.length:=by omega
  rw[hkn] at hLv hter
  have hvl:vlist sm l at_=L:=by unfold vlist;rw[if_pos hter];exact (list_ext (by rw[tvals_len,hLl]) hLv).symm
  obtain ⟨_,hs,sg13,lo14,bc15⟩:=hs.pub 0;replace hs:=(hs.to [⟨b1,36,[iV inp,qS A ((l).length) c,qS O ((os).length) d]⟩] []).aS (SlO.of_flat (sz:=5) (f:=qc) (d:=0) (b:=b4) (o:=0) (l:=L) (fun _=>rfl) sg13);exact hs.ret [] (.tuple #[qS (sB b4) ((l).length) ((l).length),iV 0]) (by rw[hter,hvl,hLl];exact ⟨_,_,rfl,nR _,hs.f.1⟩)
 have zi:=oT zb;refine lB 23 zb (lN (cQ (cIT (cK (cQ (kZ (cSL (lL hs [.m 24 22] (lX 25 A ((l).length) c 9 (k:Nat) k ((hs.f.r.2.1).ok oM) ?_)))))))));refine lH 26 (.agg #[iV ((l.getD k stp0).op),iV ((l.getD k stp0).a),iV ((l.getD k stp0).b),iV ((l.getD k stp0).n),.bool (ineg ((l.getD k stp0).q).num),uV (lo (iabs ((l.getD k stp0).q).num)),.string (hi (iabs ((l.getD k stp0).q).num)),uV (lo (qd ((l.getD k stp0).q))),.string (hi (qd ((l.getD k stp0).q)))]) hs ((hs.f.r.2.1).el k oM) (lA 10 110 ([iV 0,iV 0,iV 0,iV 0,qF,uV 0,eS,uV 0,eS]) hs (fun za _ zq hs=>lL hs [.m 9 24] (lP 0 0 ([iV ((l.getD k stp0).op),iV ((l.getD k stp0).a),iV ((l.getD k stp0).b),iV ((l.getD k stp0).n),.bool (ineg ((l.getD k stp0).q).num),uV (lo (iabs ((l.getD k stp0).q).num)),.string (hi (iabs ((l.getD k stp0).q).num)),uV (lo (qd ((l.getD k stp0).q))),.string (hi (qd ((l.getD k stp0).q)))]) hs (fun _ hs=>lN (cQ (cSL ?_))))));have fk:=hF k oM;obtain ⟨f0,f1,f2,f3,f4,f5,f6⟩:=fk
 dsimp only[Refers] at f1 f2
 have hac:=ari_cases (l.getD k stp0).op;refine lL hs [.v 27 (pB za),.o 28 (iV ((l.getD k stp0).op)) 0 0 1] ?_;cases zc:(((l.getD k stp0).op:Int) == (2:Int))
 ·
  have zj:=neOfBeq zc;refine lB 29 zc (lN (cIF (cK (cQ ?_))));have hsr:=hs;refine cRz 12 [⟨10,11,.cells (List.toArray [qF,uV 0,eS,uV 0,eS]) 55 (0,0)⟩,⟨11,12,.cells (List.toArray [qF,uV 0,eS,uV 0,eS]) 55 (0,0)⟩] [] mixed hs (al_cons (alOk kR (fun _ _=>by kernel_rfl)) (al_cons (alOk kR (fun _ _=>by kernel_rfl)) al_nil)) (eV 0 38 (qS (sB b4) ((l).length) ((l).length)) (eV 1 39 (qP za 1) (eO 2 40 [(0,1,1)] (iV ((l.getD k stp0).a)) hs (eX 3 41 (sB b4) ((l).length) ((l).length) 5 ((l.getD k stp0).a) ((l.getD k stp0).a.toNat) rfl (eQz 4 42 1 L qc 5 0 ((l.getD k stp0).a.toNat) (qv ((L).getD ((l.getD k stp0).a.toNat) 0)) hsr hs oM (eV 5 43 (qS (sB b4) ((l).length) ((l).length)) (eV 6 44 (qP za 2) (eOz 7 45 [(0,2,1)] (iV ((l.getD k stp0).b)) hsr hs (eX 8 46 (sB b4) ((l).length) ((l).length) 5 ((l.getD k stp0).b) ((l.getD k stp0).b.toNat) rfl (eQz 9 47 1 L qc 5 0 ((l.getD k stp0).b.toNat) (qv ((L).getD ((l.getD k stp0).b.toNat) 0)) hsr hs oM (eD2z hsr hs 55 [qF,uV 0,eS,uV 0,eS] 55 [qF,uV 0,eS,uV 0,eS] (fun _ _ zl zm hz26 hz27 hs=>tP 12 0 0 (qc ((L).getD ((l.getD k stp0).a.toNat) 0)) hs (fun _ hs=>?_) (hz:=tlz_new hz26)))))))))))));refine tP 13 1 0 (qc ((L).getD ((l.getD k stp0).b.toNat) 0)) hs (fun _ hs=>?_) (hz:=tlz_new hz27);refine tNS (lL hs [.o 49 (.agg #[iV ((l.getD k stp0).op),iV ((l.getD k stp0).a),iV ((l.getD k stp0).b),iV ((l.getD k stp0).n),.bool (ineg ((l.getD k stp0).q).num),uV (lo (iabs ((l.getD k stp0).q).num)),.string (hi (iabs ((l.getD k stp0).q).num)),uV (lo (qd ((l.getD k stp0).q))),.string (hi (qd ((l.getD k stp0).q)))]) 2 0 9,.o 50 (qv ((L).getD ((l.getD k stp0).a.toNat) 0)) 0 0 5,.o 51 (qv ((L).getD ((l.getD k stp0).b.toNat) 0)) 1 0 5] (lC 52 hs (tApply (l.getD k stp0) (L.getD (l.getD k stp0).a.toNat 0) (L.getD (l.getD k stp0).b.toNat 0) 1000000 oM (hLb _) (hLb _) (hq k) oM oM oM _ _ hs.g hs.f.1) ?_));rintro _ _ _ hs rfl;refine lL hs [.m 48 52,.v 53 (qv (apv (l.getD k stp0).op (l.getD k stp0).n (l.getD k stp0).q (L.getD (l.getD k stp0).a.toNat 0) (L.getD (l.getD k stp0).b.toNat 0))),.v 54 (.bool (decide (okq (l.getD k stp0).op (l.getD k stp0).n (L.getD (l.getD k stp0).a.toNat 0) (L.getD (l.getD k stp0).b.toNat 0))))] (lA 13 55 ([qF,uV 0,eS,uV 0,eS]) hs (fun zd _ zr hs=>lP 0 0 (qc (apv (l.getD k stp0).op (l.getD k stp0).n (l.getD k stp0).q (L.getD (l.getD k stp0).a.toNat 0) (L.getD (l.getD k stp0).b.toNat 0))) hs (fun _ hs=>lL hs [.m 14 54] (lN (cQ (cSL (lL hs [.m 55 14] ?_)))))));cases zf:(!(decide (okq (l.getD k stp0).op (l.getD k stp0).n (L.getD (l.getD k stp0).a.toNat 0) (L.getD (l.getD k stp0).b.toNat 0))))
  ·
   refine lB 56 zf (lN (cIF (cK (cQ (cSL ?_)))));have hok_:okq (l.getD k stp0).op (l.getD k stp0).n (L.getD (l.getD k stp0).a.toNat 0) (L.getD (l.getD k stp0).b.toNat 0):=by simpa using ‹(!decide (okq (l.getD k stp0).op (l.getD k stp0).n (L.getD (l.getD k stp0).a.toNat 0) (L.getD (l.getD k stp0).b.toNat 0)))=false›
   rcases bcase (sb) with ze|ze
   ·
    refine lB 57 ze (lL hs [.m 58 57] (lG 59 ?_));refine lG 60 (lG 61 (lG 62 (lL hs [.v 63 qF] (lN (cTo [(1,qS X at_.length cX),(2,.bool sb),(8,qS (sB b4) ((l).length) ((l).length)),(20,qS A ((l).length) c),(21,nV ((l).length)),(22,nV k),(9,nV k),(13,pB zd),(63,qF)] ?_)))));refine cIF (cK (kQ ?_));have hnk_:¬(sm=true∧knk (l.getD k stp0).op (L.getD (l.getD k stp0).a.toNat 0) (L.getD (l.getD k stp0).b.toNat 0)):=by first|exact fun h_=>absurd h_.2 (oF ‹decide (knk (l.getD k stp0).op (L.getD (l.getD k stp0).a.toNat 0) (L.getD (l.getD k stp0).b.toNat 0))=false›)|exact fun h_=>absurd h_.1 (by rw[←hsb,‹sb=false›];decide)
    refine lL hs [.m 64 8,.m 65 9,.o 66 (qv (apv (l.getD k stp0).op (l.getD k stp0).n (l.getD k stp0).q (L.getD (l.getD k stp0).a.toNat 0) (L.getD (l.getD k stp0).b.toNat 0))) 0 0 5] (lX 67 (sB b4) ((l).length) ((l).length) 5 (k:Nat) k rfl ?_);refine lW 4 L qc 5 k (apv (l.getD k stp0).op (l.getD k stp0).n (l.getD k stp0).q (L.getD (l.getD k stp0).a.toNat 0) (L.getD (l.getD k stp0).b.toNat 0)) hs oM (fun _ hs=>?_);have zn:((L).set k (apv (l.getD k stp0).op (l.getD k stp0).n (l.getD k stp0).q (L.getD (l.getD k stp0).a.toNat 0) (L.getD (l.getD k stp0).b.toNat 0))).length=((l).length):=by rw[List.length_set];exact hLl
    replace hs:=hs.to [⟨zd,55,qc (apv (l.getD k stp0).op (l.getD k stp0).n (l.getD k stp0).q (L.getD (l.getD k stp0).a.toNat 0) (L.getD (l.getD k stp0).b.toNat 0))⟩,⟨zl,55,qc ((L).getD ((l.getD k stp0).a.toNat) 0)⟩,⟨zm,55,qc ((L).getD ((l.getD k stp0).b.toNat) 0)⟩,⟨za,110,[iV ((l.getD k stp0).op),iV ((l.getD k stp0).a),iV ((l.getD k stp0).b),iV ((l.getD k stp0).n),.bool (ineg ((l.getD k stp0).q).num),uV (lo (iabs ((l.getD k stp0).q).num)),.string (hi (iabs ((l.getD k stp0).q).num)),uV (lo (qd ((l.getD k stp0).q))),.string (hi (qd ((l.getD k stp0).q)))]⟩,⟨b4,55,((L).set k (apv (l.getD k stp0).op (l.getD k stp0).n (l.getD k stp0).q (L.getD (l.getD k stp0).a.toNat 0) (L.getD (l.getD k stp0).b.toNat 0))).flatMap qc⟩,⟨b1,36,[iV inp,qS A ((l).length) c,qS O ((os).length) d]⟩] [];refine lN (kQ (lIn 68 ((k:Nat)+1) (k+1) ?_));refine lL hs [.m 22 68] (lD ?_);intro a_ ka;replace hs:=hs.drop 4 0;refine ⟨_,_,?_,⟨k+1,(L).set k (apv (l.getD k stp0).op (l.getD k stp0).n (l.getD k stp0).q (L.getD (l.getD k stp0).a.toNat 0) (L.getD (l.getD k stp0).b.toNat 0)),zr,rfl,rfl,hs.to _ _,oM,zn,(vals_set oM hLv (by unfold sval apv;rw[if_neg (show ¬(l.getD k stp0).op=2 by omega),if_pos hok_])),(terr_next hter hLv (serr_0 hok_ hnk_))⟩,ka.to _ kR⟩
    omega
   refine lB 57 ze (lL hs [.m 58 57,.o 59 (.agg #[iV ((l.getD k stp0).op),iV ((l.getD k stp0).a),iV ((l.getD k stp0).b),iV ((l.getD k stp0).n),.bool (ineg ((l.getD k stp0).q).num),uV (lo (iabs ((l.getD k stp0).q).num)),.string (hi (iabs ((l.getD k stp0).q).num)),uV (lo (qd ((l.getD k stp0).q))),.string (hi (qd ((l.getD k stp0).q)))]) 3 0 9,.o 60 (qv ((L).getD ((l.getD k stp0).a.toNat) 0)) 1 0 5,.o 61 (qv ((L).getD ((l.getD k stp0).b.toNat) 0)) 2 0 5] (lC 62 hs (tKinked (l.getD k stp0) (L.getD (l.getD k stp0).a.toNat 0) (L.getD (l.getD k stp0).b.toNat 0) 1000000 oM (hLb _) (hLb _) _ _ hs.g) ?_));rintro _ _ zs hs rfl;cases zg:(decide (knk (l.getD k stp0).op (L.getD (l.getD k stp0).a.toNat 0) (L.getD (l.getD k stp0).b.toNat 0)))
   ·
    have zk:=oF zg;refine lL hs [.v 63 qF] (lN (cTo [(1,qS X at_.length cX),(2,.bool sb),(8,qS (sB b4) ((l).length) ((l).length)),(20,qS A ((l).length) c),(21,nV ((l).length)),(22,nV k),(9,nV k),(13,pB zd),(63,qF)] ?_));refine cIF (cK (kQ ?_));have hnk_:¬(sm=true∧knk (l.getD k stp0).op (L.getD (l.getD k stp0).a.toNat 0) (L.getD (l.getD k stp0).b.toNat 0)):=by first|exact fun h_=>absurd h_.2 (oF ‹decide (knk (l.getD k stp0).op (L.getD (l.getD k stp0).a.toNat 0) (L.getD (l.getD k stp0).b.toNat 0))=false›)|exact fun h_=>absurd h_.1 (by rw[←hsb,‹sb=false›];decide)
    refine lL hs [.m 64 8,.m 65 9,.o 66 (qv (apv (l.getD k stp0).op (l.getD k stp0).n (l.getD k stp0).q (L.getD (l.getD k stp0).a.toNat 0) (L.getD (l.getD k stp0).b.toNat 0))) 0 0 5] (lX 67 (sB b4) ((l).length) ((l).length) 5 (k:Nat) k rfl ?_);refine lW 4 L qc 5 k (apv (l.getD k stp0).op (l.getD k stp0).n (l.getD k stp0).q (L.getD (l.getD k stp0).a.toNat 0) (L.getD (l.getD k stp0).b.toNat 0)) hs oM (fun _ hs=>?_);have zo:((L).set k (apv (l.getD k stp0).op (l.getD k stp0).n (l.getD k stp0).q (L.getD (l.getD k stp0).a.toNat 0) (L.getD (l.getD k stp0).b.toNat 0))).length=((l).length):=by rw[List.length_set];exact hLl
    replace hs:=hs.to [⟨zd,55,qc (apv (l.getD k stp0).op (l.getD k stp0).n (l.getD k stp0).q (L.getD (l.getD k stp0).a.toNat 0) (L.getD (l.getD k stp0).b.toNat 0))⟩,⟨zl,55,qc ((L).getD ((l.getD k stp0).a.toNat) 0)⟩,⟨zm,55,qc ((L).getD ((l.getD k stp0).b.toNat) 0)⟩,⟨za,110,[iV ((l.getD k stp0).op),iV ((l.getD k stp0).a),iV ((l.getD k stp0).b),iV ((l.getD k stp0).n),.bool (ineg ((l.getD k stp0).q).num),uV (lo (iabs ((l.getD k stp0).q).num)),.string (hi (iabs ((l.getD k stp0).q).num)),uV (lo (qd ((l.getD k stp0).q))),.string (hi (qd ((l.getD k stp0).q)))]⟩,⟨b4,55,((L).set k (apv (l.getD k stp0).op (l.getD k stp0).n (l.getD k stp0).q (L.getD (l.getD k stp0).a.toNat 0) (L.getD (l.getD k stp0).b.toNat 0))).flatMap qc⟩,⟨b1,36,[iV inp,qS A ((l).length) c,qS O ((os).length) d]⟩] [];refine lN (kQ (lIn 68 ((k:Nat)+1) (k+1) ?_));refine lL hs [.m 22 68] (lD ?_);intro a_ ka;replace hs:=hs.drop 4 0;refine ⟨_,_,?_,⟨k+1,(L).set k (apv (l.getD k stp0).op (l.getD k stp0).n (l.getD k stp0).q (L.getD (l.getD k stp0).a.toNat 0) (L.getD (l.getD k stp0).b.toNat 0)),zs,rfl,rfl,hs.to _ _,oM,zo,(vals_set oM hLv (by unfold sval apv;rw[if_neg (show ¬(l.getD k stp0).op=2 by omega),if_pos hok_])),(terr_next hter hLv (serr_0 hok_ hnk_))⟩,ka.to _ kR⟩
    omega
   have zk:=oT zg;refine lL hs [.v 63 qT] (lN (cTo [(1,qS X at_.length cX),(2,.bool sb),(8,qS (sB b4) ((l).length) ((l).length)),(20,qS A ((l).length) c),(21,nV ((l).length)),(22,nV k),(9,nV k),(13,pB zd),(63,qT)] ?_));refine cIT (cSL ?_);have hsm_:sm=true:=by rw[←hsb];assumption
   have hkn_:knk (l.getD k stp0).op (L.getD (l.getD k stp0).a.toNat 0) (L.getD (l.getD k stp0).b.toNat 0):=oT ‹decide (knk (l.getD k stp0).op (L.getD (l.getD k stp0).a.toNat 0) (L.getD (l.getD k stp0).b.toNat 0))=true›;refine lL hs [.v 6 (sZ),.v 7 (iV 7)] (lN (kX ?_));have hend:terr sm l at_ l.length=7:=terr_stopL hter oM hLv (serr_7s oM hok_ hsm_ hkn_) kD;have hvl:vlist sm l at_=[]:=by unfold vlist;rw[if_neg (by rw[hend];decide)]
   exact hs.ret [] (.tuple #[sZ,iV 7]) (by rw[hend,hvl];exact ⟨none,0,rfl,nR _,SlO.nil⟩)
  refine lB 56 zf (lN (cIT (cSL ?_)));have hnok_:¬okq (l.getD k stp0).op (l.getD k stp0).n (L.getD (l.getD k stp0).a.toNat 0) (L.getD (l.getD k stp0).b.toNat 0):=by simpa using ‹(!decide (okq (l.getD k stp0).op (l.getD k stp0).n (L.getD (l.getD k stp0).a.toNat 0) (L.getD (l.getD k stp0).b.toNat 0)))=true›
  refine lL hs [.v 6 (sZ),.v 7 (iV 6)] (lN (kX ?_));have hend:terr sm l at_ l.length=6:=terr_stopL hter oM hLv (serr_6 oM hnok_) kD;have hvl:vlist sm l at_=[]:=by unfold vlist;rw[if_neg (by rw[hend];decide)]
  exact hs.ret [] (.tuple #[sZ,iV 6]) (by rw[hend,hvl];exact ⟨none,0,rfl,nR _,SlO.nil⟩)
 have zj:=eq_of_beq zc;refine lB 29 zc (lN (cIT (cSL (lL hs [.m 30 8,.m 31 9,.m 32 1,.v 33 (qP za 3),.o 34 (iV ((l.getD k stp0).n)) 0 3 1] (lX 35 X at_.length cX 5 ((l.getD k stp0).n) ((l.getD k stp0).n.toNat) ((hs.f.2.1).ok oM) ?_)))));refine lH 36 (qv (at_.getD ((l.getD k stp0).n.toNat) 0)) hs ((hs.f.2.1).el ((l.getD k stp0).n.toNat) oM) (lX 37 (sB b4) ((l).length) ((l).length) 5 (k:Nat) k rfl (lW 1 L qc 5 k (at_.getD ((l.getD k stp0).n.toNat) 0) hs oM (fun _ hs=>?_)));have zp:((L).set k (at_.getD ((l.getD k stp0).n.toNat) 0)).length=((l).length):=by rw[List.length_set];exact hLl
 replace hs:=hs.to [⟨za,110,[iV ((l.getD k stp0).op),iV ((l.getD k stp0).a),iV ((l.getD k stp0).b),iV ((l.getD k stp0).n),.bool (ineg ((l.getD k stp0).q).num),uV (lo (iabs ((l.getD k stp0).q).num)),.string (hi (iabs ((l.getD k stp0).q).num)),uV (lo (qd ((l.getD k stp0).q))),.string (hi (qd ((l.getD k stp0).q)))]⟩,⟨b4,55,((L).set k (at_.getD ((l.getD k stp0).n.toNat) 0)).flatMap qc⟩,⟨b1,36,[iV inp,qS A ((l).length) c,qS O ((os).length) d]⟩] [];refine lN (CG.exit ?_)
 show CG _ _ _ _ _ _ _ _
 refine kQ (lIn 68 ((k:Nat)+1) (k+1) ?_);refine lL hs [.m 22 68] (lD ?_);intro a_ ka;replace hs:=hs.drop 1 0;refine ⟨_,_,?_,⟨k+1,(L).set k (at_.getD ((l.getD k stp0).n.toNat) 0),zq,rfl,rfl,hs.to _ _,oM,zp,(vals_set oM hLv (by unfold sval;rw[if_pos (show (l.getD k stp0).op=2 by omega)])),(terr_next hter hLv (serr_2 oM))⟩,ka.to _ kR⟩
 omega
theorem tOuts (inp:Int)(A:Option Addr)(c:Nat)(l:List Stp)(O:Option Addr)(d:Nat)(os:List Int)(vs:List Rat)(V:Option Addr)(cV:Nat)(ho:os.length≤1000)(hO2:OutsOk vs.length os)(w:World)(h:Hp)(g:G w h)(hA:SlO 9 stc stp0 h A l)(hO:Si O os h)(hV:Sq V vs h):CR 46 #[.agg #[iV inp,.slice A ((l).length) c,.slice O ((os).length) d],.slice V vs.length cV] w h (fun v h1=>∃ A c,v=.slice A (pickL vs os).length c∧(pickL vs os).length≤c∧Sq A (pickL vs os) h1):=by
 have hs:=((((sS g).aS hA).aS hO).aS hV);refine go Tryz.func46 [(0,.agg #[iV inp,qS A ((l).length) c,qS O ((os).length) d]),(1,qS V vs.length cV)] rfl (cSL (lA 2 36 ([iV inp,qS A ((l).length) c,qS O ((os).length) d]) hs (fun b1 w2 h3 hs=>lL hs [.v 4 (sZ)] (lNS (lL hs [.v 8 (qP b1 2),.o 9 (qS O ((os).length) d) 0 2 1,.v 10 (nV ((os).length))] (lK 11 55 ((os).length) 5 56 (.agg #[qF,uV 0,eS,uV 0,eS]) qc 0 hs (fun b4 w5 h6 hs=>?_)))))));have hl7:(List.replicate ((os).length) 0).length=((os).length):=by simp
 refine lL hs [.m 5 11] (lN (cQ (cSL (lL hs [.v 12 (qP b1 2),.o 13 (qS O ((os).length) d) 1 2 1,.v 14 (nV ((os).length)),.v 15 (iV 0)] (lN (kZ ?_))))));refine cTo _ (CG.loop (fun μ_ Γ w_=>∃ (k:Nat) (R:List Rat) (h_:Hp),μ_=os.length-k∧Γ=[(1,qS V vs.length cV),(4,sZ),(5,qS (sB b4) ((os).length) ((os).length)),(13,qS O ((os).length) d),(14,nV ((os).length)),(15,nV k)]∧SS w h w_ h_ [⟨b4,55,(R).flatMap qc⟩,⟨b1,36,[iV inp,qS A ((l).length) c,qS O ((os).length) d]⟩] [] [Sq V vs,Si O os,fun h_=>SlO 9 stc stp0 h_ A l]∧k≤os.length∧R.length=os.length∧(∀ j,j<k→R.getD j 0=vs.getD (os.getD j 0).toNat 0)) _ ⟨0,List.replicate os.length (0:Rat),h6,rfl,rfl,hs.to _ _,Nat.zero_le _,(by simp),fun j hj=>absurd hj (Nat.not_lt_zero j)⟩ ?_);rintro _ _ w8 ⟨k,R,h9,hm10,rfl,hs,hk,hRl,hRv⟩;have hok:=fun h0=>hO2 k h0
 refine cSL ?_;cases za:(decide ((k:Int)<(((os).length:Nat):Int)))
 ·
  have zb:=oF za;refine lB 16 za (lN (cQ (cIF (CG.exit ?_))))
  show CG _ _ _ _ _ _ _ _
  refine cSL (lL hs [.m 28 5,.m 4 28] (lN (kX ?_)));have hkn:k=os.length:=by omega
  have hpl:pickL vs os=R:=(pick_of oM (fun j hj=>hRv j oM)).symm;obtain ⟨_,hs,sg13,lo14,bc15⟩:=hs.pub 0;replace hs:=(hs.to [⟨b1,36,[iV inp,qS A ((l).length) c,qS O ((os).length) d]⟩] []).aS (SlO.of_flat (sz:=5) (f:=qc) (d:=0) (b:=b4) (o:=0) (l:=R) (fun _=>rfl) sg13);exact hs.ret [] (qS (sB b4) ((os).length) ((os).length)) (by rw[hpl,hRl];exact ⟨_,_,rfl,nR _,hs.f.1⟩)
 have zb:=oT za;refine lB 16 za (lN (cQ (cIT (cK (cQ (kZ (cSL (lL hs [.m 17 15] (lX 18 O ((os).length) d 1 (k:Nat) k ((hs.f.2.1).ok oM) ?_)))))))));refine lH 19 (iV (os.getD k 0)) hs ((hs.f.2.1).el k oM) (lL hs [.m 6 17,.m 7 19] (lN (kQ (lL hs [.m 20 5,.m 21 6,.m 22 1,.m 23 7] (lX 24 V vs.length cV 5 (os.getD k 0) ((os.getD k 0).toNat) ((hs.f.1).ok oM) ?_)))));refine lH 25 (qv (vs.getD ((os.getD k 0).toNat) 0)) hs ((hs.f.1).el ((os.getD k 0).toNat) oM) (lX 26 (sB b4) ((os).length) ((os).length) 5 (k:Nat) k rfl (lW 0 R qc 5 k (vs.getD ((os.getD k 0).toNat) 0) hs oM (fun _ hs=>?_)));have zc:((R).set k (vs.getD ((os.getD k 0).toNat) 0)).length=((os).length):=by rw[List.length_set];exact hRl
 replace hs:=hs.to [⟨b4,55,((R).set k (vs.getD ((os.getD k 0).toNat) 0)).flatMap qc⟩,⟨b1,36,[iV inp,qS A ((l).length) c,qS O ((os).length) d]⟩] [];refine lN (kQ (lIn 27 ((k:Nat)+1) (k+1) ?_));refine lL hs [.m 15 27] (lD ?_);intro a_ ka;refine ⟨_,_,?_,⟨k+1,(R).set k (vs.getD ((os.getD k 0).toNat) 0),h9,rfl,rfl,hs.to _ _,oM,zc,(fun j hj=>by rw[getD_set_ oM];split;(rename_i e;rw[e]);exact hRv j oM)⟩,ka.to _ kR⟩
 omega
theorem tRun (inp:Int)(A:Option Addr)(c:Nat)(l:List Stp)(O:Option Addr)(d:Nat)(os:List Int)(at_:List Rat)(X:Option Addr)(cX:Nat)(hl:l.length≤65536)(ho:os.length≤300)(hat2:at_.length≤1000000)(hq:∀ i,LQ 1 (l.getD i stp0).q)(hB:chkTp inp l os=0→(at_.length:Int)=inp→∀ k,k≤l.length→terr false l at_ k=0→∀ j,LQ 1000000 ((tvals l at_ k).getD j 0))(w:World)(h:Hp)(g:G w h)(hA:SlO 9 stc stp0 h A l)(hO:Si O os h)(hX:Sq X at_ h)(tb:Tab h):CR 11 #[.agg #[iV inp,.slice A ((l).length) c,.slice O ((os).length) d],.slice X at_.length cX] w h (fun v h1=>∃ A c,v=.tuple #[.slice A (runL false inp l os at_).length c,iV (runE false inp l os at_)]∧(runL false inp l os at_).length≤c∧Sq A (runL false inp l os at_) h1):=by
 have hs:=(((((sS g).aS hA).aS hO).aS hX).aB tb);refine go Tryz.func11 [(0,.agg #[iV inp,qS A ((l).length) c,qS O ((os).length) d]),(1,qS X at_.length cX)] rfl (cSL (lA 2 36 ([iV inp,qS A ((l).length) c,qS O ((os).length) d]) hs (fun b1 w2 h3 hs=>lL hs [.v 4 (sZ),.v 5 (iV 0)] (lN (cQ (cSL (lL hs [.o 8 (.agg #[iV inp,qS A ((l).length) c,qS O ((os).length) d]) 0 0 3] (lC 9 hs (tCheck inp A c l O d os oM oM (fun i _=>hq i) _ _ hs.g hs.f.r.2.1 hs.f.r.1) ?_))))))));rintro _ w4 h5 hs rfl;cases hb6:((chkTp inp l os:Int) != (0:Int))
 ·
  have phb6:=eqOfBne hb6;refine lB 10 hb6 (lN (cIF (cK (cQ (cSL (lL hs [.m 11 1,.v 12 (nV at_.length),.v 13 (pB b1),.o 14 (iV inp) 0 0 1] ?_))))));cases hb7:((at_.length:Int) != (inp:Int))
  ·
   have phb7:=eqOfBne hb7;refine lB 15 hb7 (lN (cIF (cK (cSL (lL hs [.o 17 (.agg #[iV inp,qS A ((l).length) c,qS O ((os).length) d]) 0 0 3,.m 18 1] ?_)))));have hck:chkTp inp l os=0:=by omega
   refine lC 19 hs (tValues false false rfl inp A c l O d os at_ X cX (chk_formed hck).1 oM oM hq (hB hck oM) _ _ hs.g hs.f.r.2.1 hs.f.r.1 hs.f.2.1 hs.f.1) ?_;rintro _ w8 h9 hs ⟨Av,cv,rfl,hcv,hAv⟩;replace hs:=hs.aS hAv;refine lL hs [.m 16 19,.v 20 (qS Av ((vlist false l at_).length) cv),.v 21 (iV (terr false l at_ l.length)),.m 6 20,.m 7 21] (lN (cQ (cSL (lL hs [.m 22 7] ?_))));cases za:((terr false l at_ l.length:Int) != (0:Int))
   ·
    have zb:=eqOfBne za;refine lB 23 za (lN (cIF (cK (cSL (lL hs [.o 25 (.agg #[iV inp,qS A ((l).length) c,qS O ((os).length) d]) 0 0 3,.m 26 6] ?_)))));have hter:terr false l at_ l.length=0:=by omega
    have hvl:vlist false l at_=tvals l at_ l.length:=if_pos hter;refine lC 27 hs (tOuts inp A c l O d os (vlist false l at_) Av cv oM (by rw[hvl,tvals_len];exact (chk_formed hck).2.1) _ _ hs.g hs.f.q.1 hs.f.r.2.1 hs.f.1) ?_;rintro _ _ _ hs ⟨Ao,co,rfl,hco,hAo⟩;replace hs:=hs.aS hAo;exact lL hs [.m 4 27,.v 5 (iV 0)] (lN (kX (hs.ret [] (.tuple #[qS Ao ((pickL (vlist false l at_) os).length) co,iV 0]) (by obtain ⟨e1,e2⟩:=run_0 (sm:=false) (inp:=inp) (l:=l) (os:=os) (at_:=at_) hck oM hter;rw[e1,e2];exact ⟨_,_,rfl,hco,hs.f.1⟩))))
   have zb:=neOfBne za;exact lB 23 za (lN (cIT (cSL (lL hs [.m 24 7,.v 4 (sZ),.m 5 24] (lN (kX (hs.ret [] (.tuple #[sZ,iV (terr false l at_ l.length)]) (by obtain ⟨e1,e2⟩:=run_e (sm:=false) (inp:=inp) (l:=l) (os:=os) (at_:=at_) hck oM oM;rw[e1,e2];exact ⟨none,0,rfl,nR _,SlO.nil⟩))))))))
  have phb7:=neOfBne hb7;exact lB 15 hb7 (lN (cIT (cSL (lL hs [.v 4 (sZ),.v 5 (iV 5)] (lN (kX (hs.ret [] (.tuple #[sZ,iV 5]) (by obtain ⟨e1,e2⟩:=run_5 (sm:=false) (inp:=inp) (l:=l) (os:=os) (at_:=at_) oM oM;rw[e1,e2];exact ⟨none,0,rfl,nR _,SlO.nil⟩))))))))
 have phb6:=neOfBne hb6;exact lB 10 hb6 (lN (cIT (cSL (lL hs [.v 4 (sZ),.v 5 (iV 1)] (lN (kX (hs.ret [] (.tuple #[sZ,iV 1]) (by obtain ⟨e1,e2⟩:=run_1 (sm:=false) (inp:=inp) (l:=l) (os:=os) (at_:=at_) oM;rw[e1,e2];exact ⟨none,0,rfl,nR _,SlO.nil⟩))))))))
section ro
variable {w0:World} {h0:Hp} {w:World} {h:Hp} {B:List Bx} {R:List Rw} {F:List (Hp→Prop)}
theorem SS.ro_lt (s:SS w0 h0 w h B R F)(j:Nat){ty:TypeId}{sz c m:Nat}{A:Option Addr}{cs:List Value}(hr:R.getD j default=⟨ty,sz,A,c,m,cs⟩:=by kernel_rfl)(hj:decide (j<R.length)=true:=by kernel_rfl):∀ b∈(Value.slice A m c).ownBlock.toList,b<h.size:=fun b hb=>by
  have hj':=oT hj;have r:=s.ro _ (List.getElem_mem hj');rw[rw_get hr hj'] at r
  exact lt_of_some (r.jk b (Option.mem_toList.1 hb))
theorem SS.ro_ne (s:SS w0 h0 w h B R F)(q j:Nat){ty:TypeId}{sz c m:Nat}{A:Option Addr}{cs:List Value}(hq:decide (q<B.length)=true:=by kernel_rfl)(hr:R.getD j default=⟨ty,sz,A,c,m,cs⟩:=by kernel_rfl)(hj:decide (j<R.length)=true:=by kernel_rfl):(bxAt B q).b ∉ (Value.slice A m c).ownBlock.toList:=fun hb=>by
  have hj':=oT hj;have r:=s.ro _ (List.getElem_mem hj');rw[rw_get hr hj'] at r
  exact r.ap _ (Option.mem_toList.1 hb) (List.mem_map.2 ⟨_,bxAt_mem (oT hq),rfl⟩)
end ro
structure Dif (M:List Nat) (w w0:World):Prop where
  mo:Mo M w w0
  sz:w0.heap.size=w.heap.size
theorem Dif.refl (M:List Nat)(w:World):Dif M w w:=⟨Mo.refl M w,rfl⟩
section frn
variable {w0 w w' wi:World} {h0 h h':Hp} {B:List Bx} {R:List Rw} {F:List (Hp→Prop)} {M:List Nat}
theorem own_ge {base:Nat}{ty:TypeId}{sz n:Nat}{v:Value}{cs:List Value}(o:w.ownsRow base ty sz v n cs){b:Nat}(hb:v.ownBlock=some b):base≤b:=by
  rcases o with ⟨_,⟨rfl,_⟩|⟨g,cap,cur,rfl,hbb,_⟩⟩
  · simp[Value.ownBlock] at hb
  · simp[Value.ownBlock] at hb;omega
theorem SS.frn (s:SS w0 h0 w h B R F)(hd:Dif M wi w0)(hM:∀ c∈M,h0[c]?=some junk)(u:UpM M w h w' h') :
    ∃ w0',Dif M wi w0'∧(∀ c,c<h0.size→w0'.heap[c]?=w'.heap[c]?)∧SS w0' h0 w' h' B R F:=by
  have hsz:w0.heap.size≤w'.heap.size:=Nat.le_trans s.st.up.ext.size u.mo.size;have hs0:=s.g0.size;have hlt:∀ c∈M,c<h0.size:=fun c hc=>lt_of_some (hM c hc)
  have hget:∀ c,c<w0.heap.size→(w'.heap.extract 0 w0.heap.size)[c]?=w'.heap[c]?:=fun c hc=>by
    rw[Array.getElem?_extract,if_pos oM];simp
  have hsame:∀ c,c<w0.heap.size→c ∉ M→w'.heap[c]?=w0.heap[c]?:=fun c hc hn=>(u.mo.blk c (Nat.lt_of_lt_of_le hc s.st.up.ext.size) hn).trans (Below.block s.st.up.ext c hc)
  have hx:(w'.heap.extract 0 w0.heap.size).size=w0.heap.size:=by simp;omega
  refine ⟨{ w0 with heap:=w'.heap.extract 0 w0.heap.size },⟨⟨hd.mo.os,hd.mo.tape,hd.mo.output,by show _≤(w'.heap.extract 0 w0.heap.size).size;rw[hx];exact hd.mo.size,fun c hc hn=>?_⟩,hx.trans hd.sz⟩,fun c hc=>hget c oM,⟨⟨hx.trans hs0,fun c=>?_⟩,⟨⟨⟨?_,?_,?_,?_,fun c hc=>?_⟩,s.st.up.gr.trans u.gr,u.g⟩,fun x hx'=>?_,fun x hx'=>?_,s.st.lo,s.st.nd⟩,fun r hr=>?_,s.ap,s.mo,s.f.gw s.mo u.gr.gw⟩⟩
  · have hc0:c<w0.heap.size:=Nat.lt_of_lt_of_le hc hd.mo.size
    show (w'.heap.extract 0 w0.heap.size)[c]?=_
    rw[hget c hc0,hsame c hc0 hn];exact hd.mo.blk c hc hn
  · show h0[c]?=(w'.heap.extract 0 w0.heap.size)[c]?∨_
    by_cases hm:c∈M
    · exact .inr (hM c hm)
    · by_cases hc:c<w0.heap.size
      · rw[hget c hc,hsame c hc hm];exact s.g0.blk c
      · rw[Array.getElem?_eq_none oM,Array.getElem?_eq_none (by rw[hx];omega)];exact .inl rfl
  · exact u.mo.os.trans s.st.up.ext.os
  · exact u.mo.tape.trans s.st.up.ext.tape
  · exact u.mo.output.trans s.st.up.ext.output
  · show (w'.heap.extract 0 w0.heap.size).size≤_;rw[hx];exact hsz
  · have hc':c<w0.heap.size:=by rw[←hx];exact hc
    exact (hget c hc').symm
  · have hlo:=s.st.lo x hx'
    show w'.heap[x.b]?=_
    rw[u.mo.blk x.b (s.st.own x hx').lt (fun hm=>by have:=hlt _ hm;omega)];exact s.st.own x hx'
  · rw[u.gr.blk _ (lt_of_some (s.st.jk x hx'))];exact s.st.jk x hx'
  · have r0:=s.ro r hr
    exact ⟨own_block r0.own (fun c hc=>u.mo.blk c (own_lt r0.own hc) (fun hm=>by have h1:=hlt _ hm;have h2:=own_ge r0.own hc;omega)),fun c hc=>(u.gr.blk c (r0.lt hc)).trans (r0.jk c hc),r0.ap⟩
theorem SS.upF (s:SS w0 h0 w h B R F)(hd:Dif M wi w0):UpM M wi h0 w h:=⟨hd.mo.trans (s.st.up.ext.mo M),s.st.up.gr,s.st.up.g⟩
theorem SS.fown (s:SS w0 h0 w h B R F){b:Nat}{t:TypeId}{vs:List Value}(o:Own w0 b t vs):Own w b t vs:=o.ext s.st.up.ext
theorem SS.fjk (s:SS w0 h0 w h B R F){b:Nat}(hj:h0[b]?=some junk):h[b]?=some junk:=(s.st.up.gr.blk _ (lt_of_some hj)).trans hj
end frn
section get
variable {P:Program} {n:Nat} {N R:Po} {X:Nat→Po} {ops:Array Oper} {k:Nat} {Γ:Env} {w:World} {h:Hp} {w0:World} {h0:Hp} {B:List Bx} {Rs:List Rw} {F:List (Hp→Prop)}
end get
section gete
variable {M:Ms} {P:Program} {n:Nat} {N R:Po} {X:Nat→Po} {ops:Array Oper} {k0:Nat} {hr:Hp} {AL:List Al} {L:Array Bool} {Γ:Env} {w:World} {h:Hp} {w0:World} {h0:Hp} {B:List Bx} {Rs:List Rw} {F:List (Hp→Prop)}
end gete
section ops
variable {P:Program} {Γ:Env} {o:Oper}
end ops
section laws
variable {M:Ms} {P:Program} {n:Nat} {N R:Po} {X:Nat→Po} {ops:Array Oper} {k k0:Nat} {hr:Hp} {AL:List Al} {L:Array Bool} {Γ:Env} {w:World} {h:Hp} {w0 wi:World} {h0:Hp} {B:List Bx} {Rs:List Rw} {F:List (Hp→Prop)} {Ml:List Nat}
theorem eFg (i t:Nat)(v:Value)(cs:List Value){b o:Nat}{ty:TypeId}{vs:List Value}(s:SS w0 h0 w h B Rs F)(ho:Own w0 b ty vs)(hcs:(vs.drop o).take cs.length=cs)(H:EG M P n N R X ops k0 hr AL (L.setIfInBounds i true) ((t,v)::Γ) w h)(hM:b ∉ M.l:=by exact List.not_mem_nil)(hc:cEl n ops k0 AL L Γ i t=true:=by kernel_rfl)
    (he:evalL P (execOp (ev Γ) (opAt ops i)) cs=some (.value v,mka b o cs.length):=by kernel_rfl):EG M P n N R X ops k0 hr AL L Γ w h :=
  Rg.load i t v (cEl_1 hc).1 (cEl_1 hc).2 (fun w' hx=>evalL_run _ _ _ _ he (fun q a u ha hu=>by rw[mka_get _ _ _ _ _ ha,((s.fown ho).mo hx hM).cell];exact take_drop_get hcs q u hu)) H
theorem put_up {b:Nat}{w':World}(g:G w h)(p:Put b w w')(hb:b∈Ml)(hj:h[b]?=some junk):UpM Ml w h w' h :=
  (UpM.refl g).put p hb ⟨p.size.trans g.size,fun c=>by
    by_cases e:c=b
    · subst e;exact .inr hj
    · rw[p.blk c e];exact g.blk c⟩
theorem tFg (i o:Nat)(cs:List Value){b:Nat}{ty:TypeId}{vs:List Value}(s:SS w0 h0 w h B Rs F)(hd:Dif Ml wi w0)(hM:∀ c∈Ml,h0[c]?=some junk)(hb:b∈Ml)(ho:Own w0 b ty vs)(hl:o+cs.length≤vs.length)
    (H:∀ w' w0',Dif Ml wi w0'→Own w0' b ty (putAt vs o cs)→(∀ c t vs',c≠b→Own w0 c t vs'→Own w0' c t vs')→SS w0' h0 w' h B Rs F→AG M P n N R X ops k0 (L.setIfInBounds i true) Γ w')
    (hc:(chkT ops k0 L i && knownOp Γ (opAt ops i) && ((opAt ops i).dst == none))=true:=by kernel_rfl)(hw:wantE ops Γ (opAt ops i)=some true:=by kernel_rfl)
    (he:evalW P (execOp (ev Γ) (opAt ops i))=some (.skip,mkl b o cs):=by kernel_rfl)(hz:∀ K bs,M.z=some (K,bs)→K≤b∨b∈bs:=by intro _ _ e;cases e):AG M P n N R X ops k0 L Γ w:=by
  obtain ⟨w',hrun,hp,ho'⟩:=evalW_run _ _ o cs vs w he (s.fown ho) hl;refine T.store i w' hc hw hrun (hp.tl hz) ?_;obtain ⟨w0',hd',hc',s'⟩:=s.frn hd hM (put_up s.g hp hb (s.fjk (hM b hb)));have hs0:=s.g0.size;refine H w' w0' hd' ((hc' b (lt_of_some (hM b hb))).trans ho') (fun c t vs' hne o'=>?_) s';have hlt:c<h0.size:=by have:=o'.lt;omega
  exact ((hc' c hlt).trans (hp.blk c hne)).trans (s.fown o')
end laws
section zone
variable {w0 w w':World} {h0 h h':Hp} {B:List Bx} {R:List Rw} {F:List (Hp→Prop)}
theorem nd_bs {Y:List Bx}{f:Bx→Bx}(hf:∀ y,(f y).b=y.b):(Y.map f).map (·.b)=Y.map (·.b):=by
  rw[List.map_map];exact List.map_congr_left (fun y _=>hf y)
def cellsAt (w:World)(b:Nat):List Value:=match w.heap[b]? with
  | some (.cells cs _ _)=>cs.toList
  | _=>[]
theorem Own.at_ {b:Nat}{t:TypeId}{vs:List Value}(o:Own w b t vs):cellsAt w b=vs:=by unfold cellsAt;rw[show w.heap[b]?=_ from o]
def newY (w':World)(M:List Nat)(Y:List Bx):List Bx:=Y.map fun y=>if y.b∈M then ⟨y.b,y.t,cellsAt w' y.b⟩ else y
theorem SS.stepY {Y:List Bx}(s:SS w0 h0 w h (B++Y) R F){M:List Nat}(u:UpM M w h w' h')(hM:∀ c∈M,∃ y∈Y,y.b=c∧∃ vs,Own w' c y.t vs) :
    ∃ Y',SS w0 h0 w' h' (B++Y') R F∧(∀ y∈Y,y.b ∉ M→y∈Y')∧(∀ y∈Y,∀ vs,y.b∈M→Own w' y.b y.t vs→(⟨y.b,y.t,vs⟩:Bx)∈Y')∧Y'.map (·.t)=Y.map (·.t):=by
  have hnd:=s.st.nd;rw[List.map_append,List.nodup_append] at hnd
  have hfb:∀ y:Bx,(if y.b∈M then (⟨y.b,y.t,cellsAt w' y.b⟩:Bx) else y).b=y.b:=fun y=>by split<;>rfl
  have hyb:(newY w' M Y).map (·.b)=Y.map (·.b):=nd_bs hfb;have hmb:(B++newY w' M Y).map (·.b)=(B++Y).map (·.b):=by rw[List.map_append,List.map_append,hyb]
  have hlo:∀ c∈M,h0.size≤c:=fun c hc=>by
    obtain ⟨y,hy,e,_⟩:=hM c hc;rw[←e];exact s.st.lo y (List.mem_append_right _ hy)
  have hB:∀ x∈B,x.b ∉ M:=fun x hx hm=>by
    obtain ⟨y,hy,e,_⟩:=hM _ hm;exact hnd.2.2 x.b (List.mem_map.2 ⟨x,hx,rfl⟩) y.b (List.mem_map.2 ⟨y,hy,rfl⟩) e.symm
  have hs0:=s.g0.size;refine ⟨newY w' M Y,⟨s.g0,⟨⟨⟨u.mo.os.trans s.st.up.ext.os,u.mo.tape.trans s.st.up.ext.tape,u.mo.output.trans s.st.up.ext.output,Nat.le_trans s.st.up.ext.size u.mo.size,fun c hc=>?_⟩,s.st.up.gr.trans u.gr,u.g⟩,fun x hx=>?_,fun x hx=>?_,fun x hx=>?_,by rw[hmb];exact s.st.nd⟩,fun r hr=>?_,s.ap,s.mo,s.f.gw s.mo u.gr.gw⟩,fun y hy hn=>List.mem_map.2 ⟨y,hy,by simp[hn]⟩,fun y hy vs hm ho=>List.mem_map.2 ⟨y,hy,by simp[hm,ho.at_]⟩,by unfold newY;rw[List.map_map];exact List.map_congr_left (fun y _=>by simp only[Function.comp];split<;>rfl)⟩
  · rw[u.mo.blk c (Nat.lt_of_lt_of_le hc s.st.up.ext.size) (fun hm=>by have:=hlo c hm;omega)]
    exact Below.block s.st.up.ext c hc
  · rcases List.mem_append.1 hx with hx|hx
    · exact (s.st.own x (List.mem_append_left _ hx)).mo u.mo (hB x hx)
    · obtain ⟨y,hy,e⟩:=List.mem_map.1 hx
      split at e
      · rename_i hm
        obtain ⟨z,hz,ez,vs,ho⟩:=hM _ hm;have:z=y:=nd_eq hnd.2.1 hz hy ez;subst this;rw[←e]
        show Own w' z.b z.t (cellsAt w' z.b)
        rw[ho.at_];exact ho
      · rename_i hm
        rw[←e];exact (s.st.own y (List.mem_append_right _ hy)).mo u.mo hm
  · have:x.b∈(B++newY w' M Y).map (·.b):=List.mem_map.2 ⟨x,hx,rfl⟩
    rw[hmb] at this
    obtain ⟨z,hz,e⟩:=List.mem_map.1 this;rw[←e,u.gr.blk _ (lt_of_some (s.st.jk z hz))];exact s.st.jk z hz
  · have:x.b∈(B++newY w' M Y).map (·.b):=List.mem_map.2 ⟨x,hx,rfl⟩
    rw[hmb] at this
    obtain ⟨z,hz,e⟩:=List.mem_map.1 this;rw[←e];exact s.st.lo z hz
  · have r0:=s.ro r hr
    refine ⟨own_block r0.own (fun c hc=>u.mo.blk c (own_lt r0.own hc) (fun hm=>?_)),fun c hc=>(u.gr.blk c (r0.lt hc)).trans (r0.jk c hc),fun c hc hm=>r0.ap c hc (by rw[←hmb];exact hm)⟩;obtain ⟨y,hy,e,_⟩:=hM c hm;exact r0.ap c hc (by rw[←e];exact List.mem_map.2 ⟨y,List.mem_append_right _ hy,rfl⟩)
theorem SS.retake2 {F':List (Hp→Prop)}(s:SS w0 h0 w h B [] F')(h1:Hp)(T:List TypeId)(hF:AllF F h1)(mo:∀ p∈F,∀ h h',Gw h h'→p h→p h')(gw:Gw h1 h)(hlo:h0.size≤h1.size)(hT:T.all (· != 0)=true:=by kernel_rfl) :
    ∃ Y h'',SS w0 h0 w h'' (B++Y) [] F∧(∀ b t vs,Nw h1.size h b t vs→t∈T→(⟨b,t,vs⟩:Bx)∈Y)∧(Y.map (·.b)).Nodup∧(∀ b t vs,Nw h1.size h b t vs→t ∉ T→Nw h1.size h'' b t vs)∧(∀ y∈Y,y.t∈T):=by
  have hT':(0:TypeId) ∉ T:=fun hm=>by
    have:=(List.all_eq_true.1 hT) 0 hm
    simp at this
  have hz:∀ y∈zone h h1.size T,h1.size≤y.b∧y.t∈T∧h[y.b]?=some (.cells y.vs.toArray y.t (0,0)):=fun y hy=>zone_mem.1 hy
  have hzj:∀ y∈zone h h1.size T,h[y.b]?≠some junk:=fun y hy e=>by
    obtain ⟨_,h2,h3⟩:=hz y hy;rw[e] at h3
    injection h3 with h3
    unfold junk at h3
    injection h3 with _ h4
    exact hT' (h4▸h2)
  have hlt:∀ y∈zone h h1.size T,y.b<h.size:=fun y hy=>lt_of_some (hz y hy).2.2
  have hBne:∀ x∈B,∀ y∈zone h h1.size T,y.b≠x.b:=fun x hx y hy e=>hzj y hy (e▸s.st.jk x hx)
  have gw2:Gw h1 (unzone h (zone h h1.size T)):=⟨by rw[unzone_size];exact gw.size,fun b hb=>by
    rw[unzone_ne (fun y hy e=>by have:=(hz y hy).1;omega)];exact gw.blk b hb⟩
  refine ⟨zone h h1.size T,unzone h (zone h h1.size T),⟨s.g0,⟨⟨s.st.up.ext,⟨by rw[unzone_size];exact s.st.up.gr.size,fun b hb=>?_⟩,⟨by rw[unzone_size];exact s.st.up.g.size,fun b=>?_⟩⟩,?_,?_,?_,?_⟩,fun r hr=>(by cases hr),.nil,mo,hF.gw mo gw2⟩,?_,zone_nodup _ _ _,?_,fun y hy=>(hz y hy).2.1⟩
  · rw[unzone_ne (fun y hy e=>by have:=(hz y hy).1;omega)];exact s.st.up.gr.blk b hb
  · by_cases hm:∃ y∈zone h h1.size T,y.b=b
    · obtain ⟨y,hy,e⟩:=hm
      subst e;exact .inr (unzone_mem hy (hlt y hy))
    · rw[unzone_ne (fun y hy e=>hm ⟨y,hy,e⟩)];exact s.st.up.g.blk b
  · intro x hx
    rcases List.mem_append.1 hx with hx|hx
    · exact s.st.own x hx
    · rcases s.st.up.g.blk x.b with e|e
      · exact e.symm.trans (hz x hx).2.2
      · exact absurd e (hzj x hx)
  · intro x hx
    rcases List.mem_append.1 hx with hx|hx
    · rw[unzone_ne (hBne x hx)];exact s.st.jk x hx
    · exact unzone_mem hx (hlt x hx)
  · intro x hx
    rcases List.mem_append.1 hx with hx|hx
    · exact s.st.lo x hx
    · exact Nat.le_trans hlo (hz x hx).1
  · rw[List.map_append,List.nodup_append]
    refine ⟨s.st.nd,zone_nodup _ _ _,fun a ha c hc e=>?_⟩;obtain ⟨x,hx,e1⟩:=List.mem_map.1 ha;obtain ⟨y,hy,e2⟩:=List.mem_map.1 hc;have e1':x.b=a:=e1;have e2':y.b=c:=e2;exact hBne x hx y hy oM
  · intro b t vs n ht
    exact zone_mem.2 ⟨n.1,ht,n.2.2⟩
  · intro b t vs n ht
    refine ⟨n.1,n.2.1,?_⟩;rw[unzone_ne (fun y hy e=>?_)];exact n.2.2;obtain ⟨_,h2,h3⟩:=hz y hy;rw[e,n.2.2] at h3
    injection h3 with h3
    injection h3 with _ h4
    exact ht (h4▸h2)
end zone
def RetMs (M:List Nat)(w0:World)(h0:Hp)(Φ:Value→World→Hp→Prop):Ending→World→Prop:=fun e w'=>∃ v h',e=.returned v∧UpM M w0 h0 w' h'∧Φ v w' h'
section ret
variable {P:Program} {n:Nat} {Γ:Env} {w:World} {h:Hp} {w0 wz:World} {h0 hz:Hp} {B:List Bx} {Rs:List Rw} {F:List (Hp→Prop)}
theorem SS.retMs {fn:Func}{M:List Nat}{Φ:Value→World→Hp→Prop}(s:SS wz hz w h B Rs F)(um:UpM M w0 h0 w h)(ps:List (Nat × Nat × Nat))(v:Value)(hΦ:Φ v w h)(hk:(resK fn Γ && partsOk B ps)=true:=by kernel_rfl)(he:evalL P (resE fn Γ) (partsV B ps)=some (v,partsA B ps):=by kernel_rfl):∀ a,Kn n a Γ→RetP P fn (RetMs M w0 h0 Φ) a w:=by
  intro a ka;rw[Bool.and_eq_true] at hk
  refine ⟨ka.df,v,?_,v,h,rfl,um,hΦ⟩;rw[results_env ka hk.1];exact evalL_run _ _ _ _ he (parts_cells s.st.own ps hk.2)
end ret
section call
variable {M:Ms} {P:Program} {n:Nat} {N R:Po} {X:Nat→Po} {ops:Array Oper} {k0:Nat} {hr:Hp} {AL:List Al} {L:Array Bool} {Γ:Env} {w:World} {h:Hp} {w0:World} {h0:Hp} {B:List Bx} {Rs:List Rw} {F:List (Hp→Prop)}
theorem eCms (i t:Nat){f:FuncId}{args:Array Value}{Ml:List Nat}{Φ:World→Hp→Value→World→Hp→Prop}(s:SS w0 h0 w h B Rs F)(hMl:Ml=M.l)(c:∀ w1 h1,SS w0 h0 w1 h1 B Rs F→Calls P f args w1 (RetMs Ml w1 h1 (Φ w1 h1)))(H:∀ w1 h1 v w' h',SS w0 h0 w1 h1 B Rs F→UpM Ml w1 h1 w' h'→Φ w1 h1 v w' h'→EG M P n N R X ops k0 hr AL (L.setIfInBounds i true) ((t,v)::Γ) w' h')(hc:cEv n ops k0 AL L Γ i t=true:=by kernel_rfl)(hv:∀ w,(execOp (ev Γ) (opAt ops i)).run P w=.ok (.enter f args) w:=by intro _;kernel_rfl):EG M P n N R X ops k0 hr AL L Γ w h :=
  Rg.call i t f args (cEv_1 hc).1 (cEv_1 hc).2 hv (fun w1 h1 u=>(c w1 h1 (s.step u)).mono fun e w' ⟨v,h',he,u2,hΦ⟩=>⟨v,h',he,u2.weak (fun b hb=>by rw[←hMl];exact hb),H w1 h1 v w' h' (s.step u) u2 hΦ⟩)
theorem SS.tail_ne {Y:List Bx}{Ml:List Nat}(s:SS w0 h0 w h (B++Y) Rs F)(hM:∀ c∈Ml,∃ y∈Y,y.b=c)(j:Nat)(hj:decide (j<B.length)=true:=by kernel_rfl):(bxAt (B++Y) j).b ∉ Ml:=fun hm=>by
  obtain ⟨y,hy,e⟩:=hM _ hm;have hj':=oT hj;have hnd:=s.st.nd;rw[List.map_append,List.nodup_append] at hnd
  have e2:bxAt (B++Y) j=B[j]:=by unfold bxAt;simp[List.getElem?_append_left,hj']
  rw[e2] at e
  exact hnd.2.2 B[j].b (List.mem_map.2 ⟨_,List.getElem_mem hj',rfl⟩) y.b (List.mem_map.2 ⟨y,hy,rfl⟩) e.symm
theorem SS.tail_jk {Y:List Bx}{Ml:List Nat}(s:SS w0 h0 w h (B++Y) Rs F)(hM:∀ c∈Ml,∃ y∈Y,y.b=c):∀ c∈Ml,h[c]?=some junk:=fun c hc=>by
  obtain ⟨y,hy,e⟩:=hM c hc;rw[←e];exact s.st.jk y (List.mem_append_right _ hy)
end call
def RetS (Φ:Value→World→Hp→Prop):Ending→World→Prop:=fun e w'=>∃ v h',e=.returned v∧Φ v w' h'
section perm
variable {w0:World} {h0:Hp} {w:World} {h:Hp} {B B':List Bx} {R R':List Rw} {F:List (Hp→Prop)}
theorem SS.permBR (s:SS w0 h0 w h B R F)(pB:B.Perm B')(pR:R.Perm R'):SS w0 h0 w h B' R' F :=
  ⟨s.g0,⟨s.st.up,fun x hx=>s.st.own x (pB.mem_iff.2 hx),fun x hx=>s.st.jk x (pB.mem_iff.2 hx),fun x hx=>s.st.lo x (pB.mem_iff.2 hx),((pB.map (·.b)).nodup_iff).1 s.st.nd⟩,
   fun r hr=>⟨(s.ro r (pR.mem_iff.2 hr)).own,(s.ro r (pR.mem_iff.2 hr)).jk,fun b hb hm=>(s.ro r (pR.mem_iff.2 hr)).ap b hb ((pB.map (·.b)).mem_iff.2 hm)⟩,(pR.pairwise_iff (fun h=>h.symm)).1 s.ap,s.mo,s.f⟩
theorem SS.front (s:SS w0 h0 w h B R F)(p q:List Bx)(x:Bx)(p' q':List Rw)(y:Rw)(e:B=p++x::q:=by kernel_rfl)(e2:R=p'++y::q':=by kernel_rfl):SS w0 h0 w h (x::(p++q)) (y::(p'++q')) F:=by
  subst e e2;exact s.permBR List.perm_middle List.perm_middle
theorem SS.back (p q:List Bx)(x:Bx)(p' q':List Rw)(y:Rw)(s:SS w0 h0 w h (x::(p++q)) (y::(p'++q')) F):SS w0 h0 w h (p++x::q) (p'++y::q') F:=s.permBR List.perm_middle.symm List.perm_middle.symm
end perm
section ret
variable {P:Program} {n:Nat} {Γ:Env} {w:World} {h:Hp} {w0:World} {h0:Hp} {B:List Bx} {Rs:List Rw} {F:List (Hp→Prop)}
theorem SS.retS {fn:Func}{Φ:Value→World→Hp→Prop}(s:SS w0 h0 w h B Rs F)(ps:List (Nat × Nat × Nat))(v:Value)(hΦ:Φ v w h)(hk:(resK fn Γ && partsOk B ps)=true:=by kernel_rfl)(he:evalL P (resE fn Γ) (partsV B ps)=some (v,partsA B ps):=by kernel_rfl):∀ a,Kn n a Γ→RetP P fn (RetS Φ) a w:=by
  intro a ka;rw[Bool.and_eq_true] at hk
  refine ⟨ka.df,v,?_,v,h,rfl,hΦ⟩;rw[results_env ka hk.1];exact evalL_run _ _ _ _ he (parts_cells s.st.own ps hk.2)
end ret
section call
variable {P:Program} {n:Nat} {N R:Po} {X:Nat→Po} {ops:Array Oper} {k:Nat} {Γ:Env} {w:World}
theorem lCs (t:Nat){f:FuncId}{args:Array Value}{Φ:Value→World→Hp→Prop}(c:Calls P f args w (RetS Φ))(H:∀ v w' h',Φ v w' h'→LG P n N R X ops (k+1) ((t,v)::Γ) w')(hc:cL ops Γ k t n=true:=by kernel_rfl)(hr:(execOp (ev Γ) (opAt ops k)).run P w=.ok (.enter f args) w:=by kernel_rfl):LG P n N R X ops k Γ w :=
  LG.call t f args (cL_1 hc).1 (cL_1 hc).2 hr (c.mono fun e w' ⟨v,h',he,hΦ⟩=>⟨v,he,H v w' h' hΦ⟩)
end call
def numT (q:Rat):Stp:=⟨1,0,0,0,q⟩
theorem nAdd_ {w0:World}{h0:Hp}{B2:List Bx}{R2:List Rw}{F2:List (Hp→Prop)}(rb:Nat)(inp:Int)(A:Option Addr)(c:Nat)(l:List Stp)(ov:Value)(s:Stp)(hl:l.length≤1000000)(w:World)(h:Hp)(g:G w h)(hs:SS w0 h0 w h (⟨rb,140,[iV inp,.slice A (l).length c,ov]⟩::B2) (⟨110,9,A,c,(l).length,(l).flatMap stc⟩::R2) F2):Calls Tryz.prog 74 #[pB rb,.agg #[iV s.op,iV s.a,iV s.b,iV s.n,.bool (ineg s.q.num),uV (lo (iabs s.q.num)),.string (hi (iabs s.q.num)),uV (lo (qd s.q)),.string (hi (qd s.q))]] w (RetS fun v w1 h1=>∃ A1 c1,v=nV l.length∧SS w0 h0 w1 h1 (⟨rb,140,[iV inp,.slice A1 (l++[s]).length c1,ov]⟩::B2) (⟨110,9,A1,c1,(l++[s]).length,(l++[s]).flatMap stc⟩::R2) F2):=by
 replace hs:=hs.to ([⟨rb,140,[iV inp,qS A (l).length c,ov]⟩]++B2) ([⟨110,9,A,c,(l).length,(l).flatMap stc⟩]++R2);have hls:(l++[s]).length=l.length+1:=by simp
 refine go Tryz.func74 [(0,pB rb),(1,.agg #[iV s.op,iV s.a,iV s.b,iV s.n,.bool (ineg s.q.num),uV (lo (iabs s.q.num)),.string (hi (iabs s.q.num)),uV (lo (qd s.q)),.string (hi (qd s.q))])] rfl (cSL (lA 3 110 ([iV s.op,iV s.a,iV s.b,iV s.n,.bool (ineg s.q.num),uV (lo (iabs s.q.num)),.string (hi (iabs s.q.num)),uV (lo (qd s.q)),.string (hi (qd s.q))]) hs (fun b1 w2 h3 hs=>lL hs [.v 4 (iV 0)] (lN (cQ (CG.region ⟨((Value.slice A ((l).length) c).ownBlock.toList),none⟩ 9 [] mixed kR hs.g al_nil (hs.ro_lt 0 (ty:=110) (sz:=9) (A:=A) (c:=c) (m:=(l).length) (cs:=(l).flatMap stc)) ?_))))));refine eV 0 5 (pB rb) (eV 1 6 (pB rb) (eV 2 7 (pB rb) (eV 3 8 (pB rb) (eV 4 9 (qP rb 1) (eO 5 10 [(1,1,1)] (qS A ((l).length) c) hs ?_ (hM:=fun p hp=>by obtain rfl:=List.mem_singleton.1 hp;exact hs.ro_ne 1 0 (ty:=110) (sz:=9) (A:=A) (c:=c) (m:=(l).length) (cs:=(l).flatMap stc)))))));refine eO 6 11 [(0,0,9)] (.agg #[iV s.op,iV s.a,iV s.b,iV s.n,.bool (ineg s.q.num),uV (lo (iabs s.q.num)),.string (hi (iabs s.q.num)),uV (lo (qd s.q)),.string (hi (qd s.q))]) hs ?_ (hM:=fun p hp=>by obtain rfl:=List.mem_singleton.1 hp;exact hs.ro_ne 0 0 (ty:=110) (sz:=9) (A:=A) (c:=c) (m:=(l).length) (cs:=(l).flatMap stc));refine eR 7 12 110 1 ([iV s.op,iV s.a,iV s.b,iV s.n,.bool (ineg s.q.num),uV (lo (iabs s.q.num)),.string (hi (iabs s.q.num)),uV (lo (qd s.q)),.string (hi (qd s.q))]) hs (fun b4 w5 h6 hs=>eY 8 13 0 110 9 c A l stc s 88 b4 (.agg #[iV 0,iV 0,iV 0,iV 0,qF,uV 0,eS,uV 0,eS]) hs (fun _ f_=>f_.1) (fun b hb=>Option.mem_toList.2 hb) (fun A8 c9 _ _ hs=>eD0 hs (fun _ _ hs=>tV 9 14 (pB rb) (tV 10 15 (pB rb) (tV 11 16 (qP rb 1) (tP 12 1 1 ([qS A8 ((l++[s]).length) c9]) hs (fun _ hs=>tNS (lL hs [.m 17 0,.v 18 (pB rb),.v 19 (pB rb),.v 20 (qP rb 1),.o 21 (qS A8 ((l++[s]).length) c9) 1 1 1,.v 22 (nV ((l++[s]).length))] (lI 23 (((l++[s]).length:Nat)-1) ?_)))))))));exact lE (ik:=.i64) 4 (show (((l++[s]).length:Nat):Int)-1=(l.length:Int) by rw[List.length_append,List.length_singleton];omega) (lN (kX (hs.retS [] (nV l.length) ⟨A8,c9,rfl,(hs.tl.drop 1 0).to _ _⟩)))
theorem nNumbers {w0:World}{h0:Hp}{B2:List Bx}{R2:List Rw}{F2:List (Hp→Prop)}(rb:Nat)(inp:Int)(A:Option Addr)(c:Nat)(l:List Stp)(ov:Value)(xs:List Rat)(X:Option Addr)(cX:Nat)(hl:l.length+xs.length≤1000000)(w:World)(h:Hp)(g:G w h)(hX:Sq X xs h)(hs:SS w0 h0 w h (⟨rb,140,[iV inp,.slice A (l).length c,ov]⟩::B2) (⟨110,9,A,c,(l).length,(l).flatMap stc⟩::R2) F2):Calls Tryz.prog 75 #[pB rb,.slice X xs.length cX] w (RetS fun v w1 h1=>∃ A1 c1 N cN,v=.slice N xs.length cN∧Si N ((List.range xs.length).map fun j=>((l.length+j:Nat):Int)) h1∧SS w0 h0 w1 h1 (⟨rb,140,[iV inp,.slice A1 (l++xs.map numT).length c1,ov]⟩::B2) (⟨110,9,A1,c1,(l++xs.map numT).length,(l++xs.map numT).flatMap stc⟩::R2) F2):=by
 replace hs:=hs.to ([⟨rb,140,[iV inp,qS A (l).length c,ov]⟩]++B2) ([⟨110,9,A,c,(l).length,(l).flatMap stc⟩]++R2);replace hs:=hs.aS hX;refine go Tryz.func75 [(0,pB rb),(1,qS X xs.length cX)] rfl (cSL (lL hs [.v 4 (sZ)] (lNS (lL hs [.m 8 1,.v 9 (nV xs.length)] (lK 10 3 xs.length 1 8 (iV 0) i64c (0:Int) hs (fun b1 w2 h3 hs=>?_))))));have hl4:(List.replicate xs.length (0:Int)).length=xs.length:=by simp
 refine lL hs [.m 5 10] (lN (cQ (cSL (lL hs [.m 11 1,.v 12 (nV xs.length),.v 13 (iV 0)] (lN (kZ ?_))))));refine cTo _ (CG.loop (fun μ_ Γ w_=>∃ (k:Nat) (srA:Option Addr) (src:Nat) (tl:List Stp) (al:List Int) (h_:Hp),μ_=xs.length-k∧Γ=[(0,pB rb),(4,sZ),(5,qS (sB b1) xs.length xs.length),(11,qS X xs.length cX),(12,nV xs.length),(13,nV k)]∧SS w0 h0 w_ h_ ([⟨b1,3,(al).flatMap i64c⟩,⟨rb,140,[iV inp,qS srA ((tl).length) src,ov]⟩]++B2) ([⟨110,9,srA,src,(tl).length,(tl).flatMap stc⟩]++R2) ([Sq X xs]++F2)∧k≤xs.length∧al.length=xs.length∧tl=l++(xs.take k).map numT∧(al.take k=(List.range k).map fun j=>((l.length+j:Nat):Int))) _ ⟨0,A,c,l,List.replicate xs.length (0:Int),h3,rfl,rfl,hs.to _ _,Nat.zero_le _,(by simp),(by simp),(by simp)⟩ ?_);rintro _ _ w5 ⟨k,srA,src,tl,al,h6,hm7,rfl,hs,hk,hal,htl,hav⟩;have hll:tl.length=l.length+k:=by rw[htl];simp;omega
 refine cSL ?_;cases hb8:(decide ((k:Int)<(xs.length:Int)))
 ·
  have phb8:=oF hb8;refine lB 14 hb8 (lN (cQ (cIF (CG.exit ?_))))
  show CG _ _ _ _ _ _ _ _
  refine cSL (lL hs [.m 26 5,.m 4 26] (lN (kX ?_)));have hkn:k=xs.length:=by omega
  rw[hkn,List.take_length] at htl
  rw[hkn,List.take_of_length_le oM] at hav
  obtain ⟨h9,hs,sg10,lo11,bc12⟩:=hs.pub 0;replace hs:=(hs.to ([⟨rb,140,[iV inp,qS srA ((tl).length) src,ov]⟩]++B2) ([⟨110,9,srA,src,(tl).length,(tl).flatMap stc⟩]++R2)).aS (SlO.of_flat (sz:=1) (f:=i64c) (d:=0) (b:=b1) (o:=0) (l:=al) (fun _=>rfl) sg10);refine hs.retS [] (qS (sB b1) xs.length xs.length) ?_;rw[←htl,←hav];exact ⟨srA,src,(sB b1),_,rfl,hs.f.1,(hs.tl.tl.drop 0 0).to _ _⟩
 have phb8:=oT hb8;refine lB 14 hb8 (lN (cQ (cIT (cK (cQ (kZ (cSL (lL hs [.m 15 13] (lX 16 X xs.length cX 5 (k:Nat) k ((hs.f.1).ok oM) ?_)))))))));refine lH 17 (qv (xs.getD k 0)) hs ((hs.f.1).el k oM) (lA 7 55 ([qF,uV 0,eS,uV 0,eS]) hs (fun zc _ _ hs=>lL hs [.m 6 15] (lP 0 0 (qc (xs.getD k 0)) hs (fun _ hs=>lN (kQ (lL hs [.m 18 5,.m 19 6,.m 20 0,.o 21 (qv (xs.getD k 0)) 0 0 5,.v 22 (.agg #[iV 1,iV 0,iV 0,iV 0,.bool (ineg (xs.getD k 0).num),uV (lo (iabs (xs.getD k 0).num)),.string (hi (iabs (xs.getD k 0).num)),uV (lo (qd (xs.getD k 0))),.string (hi (qd (xs.getD k 0)))])] (lCs 23 (nAdd_ rb inp srA src tl ov (⟨1,0,0,0,xs.getD k 0⟩:Stp) oM _ _ hs.g (hs.front [⟨zc,55,qc (xs.getD k 0)⟩,⟨b1,3,(al).flatMap i64c⟩] ([]++B2) ⟨rb,140,[iV inp,qS srA ((tl).length) src,ov]⟩ [] ([]++R2) ⟨110,9,srA,src,(tl).length,(tl).flatMap stc⟩)) ?_)))))));rintro _ _ ze ⟨za,zb,rfl,hs⟩;replace hs:=(SS.back [⟨zc,55,qc (xs.getD k 0)⟩,⟨b1,3,(al).flatMap i64c⟩] ([]++B2) ⟨rb,140,[iV inp,qS za ((tl++[(⟨1,0,0,0,xs.getD k 0⟩:Stp)]).length) zb,ov]⟩ [] ([]++R2) ⟨110,9,za,zb,(tl++[(⟨1,0,0,0,xs.getD k 0⟩:Stp)]).length,(tl++[(⟨1,0,0,0,xs.getD k 0⟩:Stp)]).flatMap stc⟩ hs).to ([⟨zc,55,qc (xs.getD k 0)⟩,⟨b1,3,(al).flatMap i64c⟩,⟨rb,140,[iV inp,qS za ((tl++[(⟨1,0,0,0,xs.getD k 0⟩:Stp)]).length) zb,ov]⟩]++B2) ([⟨110,9,za,zb,(tl++[(⟨1,0,0,0,xs.getD k 0⟩:Stp)]).length,(tl++[(⟨1,0,0,0,xs.getD k 0⟩:Stp)]).flatMap stc⟩]++R2);refine lX 24 (sB b1) xs.length xs.length 1 (k:Nat) k rfl (lW 1 al i64c 1 k (tl.length:Nat) hs oM (fun _ hs=>?_));have zd:((al).set k (tl.length:Nat)).length=xs.length:=by rw[List.length_set];exact hal
 replace hs:=hs.to ([⟨zc,55,qc (xs.getD k 0)⟩,⟨b1,3,((al).set k (tl.length:Nat)).flatMap i64c⟩,⟨rb,140,[iV inp,qS za ((tl++[(⟨1,0,0,0,xs.getD k 0⟩:Stp)]).length) zb,ov]⟩]++B2) ([⟨110,9,za,zb,(tl++[(⟨1,0,0,0,xs.getD k 0⟩:Stp)]).length,(tl++[(⟨1,0,0,0,xs.getD k 0⟩:Stp)]).flatMap stc⟩]++R2);refine lN (kQ (lIn 25 ((k:Nat)+1) (k+1) ?_));refine lL hs [.m 13 25] (lD ?_);intro a_ ka;replace hs:=hs.drop 1 0;refine ⟨_,_,?_,⟨k+1,za,zb,tl++[(⟨1,0,0,0,xs.getD k 0⟩:Stp)],(al).set k (tl.length:Nat),ze,rfl,rfl,hs.to _ _,oM,zd,(by rw[take_snoc' 0 oM,List.map_append,htl,List.append_assoc];rfl),(by rw[take_set_snoc oM,hav,List.range_succ,List.map_append,hll];rfl)⟩,ka.to _ kR⟩
 omega
def sqStep (k:Nat)(o:Int)(y:Rat)(p:List Stp × Int):List Stp × Int :=
  if k=0 then (((p.1++[⟨1,0,0,0,y⟩])++[⟨4,o,((p.1.length:Nat):Int),0,0⟩])++[⟨8,(((p.1++[⟨1,0,0,0,y⟩]:List Stp).length:Nat):Int),0,2,0⟩],((((p.1++[⟨1,0,0,0,y⟩])++[⟨4,o,((p.1.length:Nat):Int),0,0⟩]:List Stp).length:Nat):Int))
  else ((((p.1++[⟨1,0,0,0,y⟩])++[⟨4,o,((p.1.length:Nat):Int),0,0⟩])++[⟨8,(((p.1++[⟨1,0,0,0,y⟩]:List Stp).length:Nat):Int),0,2,0⟩])++[⟨3,p.2,((((p.1++[⟨1,0,0,0,y⟩])++[⟨4,o,((p.1.length:Nat):Int),0,0⟩]:List Stp).length:Nat):Int),0,0⟩],
    (((((p.1++[⟨1,0,0,0,y⟩])++[⟨4,o,((p.1.length:Nat):Int),0,0⟩])++[⟨8,(((p.1++[⟨1,0,0,0,y⟩]:List Stp).length:Nat):Int),0,2,0⟩]:List Stp).length:Nat):Int))
def sqS (l:List Stp)(os:List Int)(ys:List Rat):Nat→List Stp × Int
  | 0=>(l,0)
  | k+1=>sqStep k (os.getD k 0) (ys.getD k 0) (sqS l os ys k)
theorem sqS_len (l:List Stp)(os:List Int)(ys:List Rat):∀ k,(sqS l os ys k).1.length≤l.length+4*k
  | 0=>Nat.le_refl _
  | k+1=>by
    have ih:=sqS_len l os ys k
    show (sqStep k _ _ (sqS l os ys k)).1.length≤_
    unfold sqStep
    split<;>simp<;>omega
section
variable {l tl:List Stp} {os:List Int} {ys:List Rat} {k:Nat} {sm:Int} (htl:tl=(sqS l os ys k).1) (hsm:sm=(sqS l os ys k).2)
include htl hsm
theorem sqS_at:sqS l os ys (k+1)=sqStep k (os.getD k 0) (ys.getD k 0) (tl,sm):=by
  show sqStep _ _ _ (sqS l os ys k)=_
  rw[htl,hsm]
theorem sqS_1 (h:k=0):((tl++[⟨1,0,0,0,ys.getD k 0⟩])++[⟨4,os.getD k 0,((tl.length:Nat):Int),0,0⟩])++[⟨8,(((tl++[⟨1,0,0,0,ys.getD k 0⟩]:List Stp).length:Nat):Int),0,2,0⟩]=(sqS l os ys (k+1)).1:=by
  rw[sqS_at htl hsm];unfold sqStep;rw[if_pos h]
theorem sqS_1s (h:k=0):((((tl++[⟨1,0,0,0,ys.getD k 0⟩])++[⟨4,os.getD k 0,((tl.length:Nat):Int),0,0⟩]:List Stp).length:Nat):Int)=(sqS l os ys (k+1)).2:=by
  rw[sqS_at htl hsm];unfold sqStep;rw[if_pos h]
theorem sqS_2 (h:k≠0):(((tl++[⟨1,0,0,0,ys.getD k 0⟩])++[⟨4,os.getD k 0,((tl.length:Nat):Int),0,0⟩])++[⟨8,(((tl++[⟨1,0,0,0,ys.getD k 0⟩]:List Stp).length:Nat):Int),0,2,0⟩])++[⟨3,sm,((((tl++[⟨1,0,0,0,ys.getD k 0⟩])++[⟨4,os.getD k 0,((tl.length:Nat):Int),0,0⟩]:List Stp).length:Nat):Int),0,0⟩]=(sqS l os ys (k+1)).1 ∧
    (((((tl++[⟨1,0,0,0,ys.getD k 0⟩])++[⟨4,os.getD k 0,((tl.length:Nat):Int),0,0⟩])++[⟨8,(((tl++[⟨1,0,0,0,ys.getD k 0⟩]:List Stp).length:Nat):Int),0,2,0⟩]:List Stp).length:Nat):Int)=(sqS l os ys (k+1)).2:=by
  rw[sqS_at htl hsm];unfold sqStep;rw[if_neg h];exact ⟨rfl,rfl⟩
end
theorem nSquares {w0:World}{h0:Hp}{B2:List Bx}{R2:List Rw}{F2:List (Hp→Prop)}(rb:Nat)(inp:Int)(A:Option Addr)(c:Nat)(l:List Stp)(ov:Value)(os:List Int)(N:Option Addr)(cN:Nat)(ys:List Rat)(Y:Option Addr)(cY:Nat)(hly:ys.length≤os.length)(hl:l.length+4*ys.length≤1000000)(w:World)(h:Hp)(g:G w h)(hN:Si N os h)(hY:Sq Y ys h)(hs:SS w0 h0 w h (⟨rb,140,[iV inp,.slice A (l).length c,ov]⟩::B2) (⟨110,9,A,c,(l).length,(l).flatMap stc⟩::R2) F2):Calls Tryz.prog 77 #[pB rb,.slice N os.length cN,.slice Y ys.length cY] w (RetS fun v w1 h1=>∃ A1 c1,v=iV (sqS l os ys ys.length).2∧SS w0 h0 w1 h1 (⟨rb,140,[iV inp,.slice A1 ((sqS l os ys ys.length).1).length c1,ov]⟩::B2) (⟨110,9,A1,c1,((sqS l os ys ys.length).1).length,((sqS l os ys ys.length).1).flatMap stc⟩::R2) F2):=by
 replace hs:=hs.to ([⟨rb,140,[iV inp,qS A (l).length c,ov]⟩]++B2) ([⟨110,9,A,c,(l).length,(l).flatMap stc⟩]++R2);replace hs:=hs.aP hN hY;refine go Tryz.func77 [(0,pB rb),(1,qS N os.length cN),(2,qS Y ys.length cY)] rfl (cSL (lL hs [.v 6 (iV 0)] (lNS (lL hs [.v 7 (iV 0)] (lN (cQ (cSL (lL hs [.m 13 2,.v 14 (nV ys.length),.v 15 (iV 0)] (lN (kZ ?_))))))))));refine cTo _ (CG.loop (fun μ_ Γ w_=>∃ (k:Nat) (srA:Option Addr) (src:Nat) (tl:List Stp) (sm:Int) (h_:Hp),μ_=ys.length-k∧Γ=[(0,pB rb),(1,qS N os.length cN),(6,iV 0),(13,qS Y ys.length cY),(14,nV ys.length),(15,nV k),(7,iV sm)]∧SS w0 h0 w_ h_ ([⟨rb,140,[iV inp,qS srA ((tl).length) src,ov]⟩]++B2) ([⟨110,9,srA,src,(tl).length,(tl).flatMap stc⟩]++R2) ([Sq Y ys,Si N os]++F2)∧k≤ys.length∧tl=(sqS l os ys k).1∧sm=(sqS l os ys k).2) _ ⟨0,A,c,l,0,h,rfl,rfl,hs.to _ _,Nat.zero_le _,rfl,rfl⟩ ?_);rintro _ _ w1 ⟨k,srA,src,tl,sm,h2,hm3,rfl,hs,hk,htl,hsm⟩;have hll:tl.length≤l.length+4*k:=by rw[htl];exact sqS_len l os ys k
 refine cSL ?_;cases hb4:(decide ((k:Int)<(ys.length:Int)))
 ·
  have phb4:=oF hb4;refine lB 16 hb4 (lN (cQ (cIF (CG.exit ?_))))
  show CG _ _ _ _ _ _ _ _
  refine cSL (lL hs [.m 45 7,.m 6 45] (lN (kX ?_)));have hkn:k=ys.length:=by omega
  rw[hkn] at htl hsm
  refine hs.retS [] (iV sm) ?_;rw[←htl,←hsm];exact ⟨srA,src,rfl,(hs.tl.tl.drop 0 0).to _ _⟩
 have phb4:=oT hb4;refine lB 16 hb4 (lN (cQ (cIT (cK (cQ (kZ (cSL (lL hs [.m 17 15] (lX 18 Y ys.length cY 5 (k:Nat) k ((hs.f.1).ok oM) ?_)))))))));refine lH 19 (qv (ys.getD k 0)) hs ((hs.f.1).el k oM) (lA 9 55 ([qF,uV 0,eS,uV 0,eS]) hs (fun b5 w6 h7 hs=>lL hs [.m 8 17] (lP 0 0 (qc (ys.getD k 0)) hs (fun w8 hs=>lNS (lL hs [.m 20 0,.o 21 (qv (ys.getD k 0)) 0 0 5,.v 22 (.agg #[iV 1,iV 0,iV 0,iV 0,.bool (ineg (ys.getD k 0).num),uV (lo (iabs (ys.getD k 0).num)),.string (hi (iabs (ys.getD k 0).num)),uV (lo (qd (ys.getD k 0))),.string (hi (qd (ys.getD k 0)))])] (lCs 23 (nAdd_ rb inp srA src tl ov (⟨1,0,0,0,ys.getD k 0⟩:Stp) oM _ _ hs.g (hs.front [⟨b5,55,qc (ys.getD k 0)⟩] ([]++B2) ⟨rb,140,[iV inp,qS srA ((tl).length) src,ov]⟩ [] ([]++R2) ⟨110,9,srA,src,(tl).length,(tl).flatMap stc⟩)) ?_))))));rintro _ _ _ ⟨A9,zc,rfl,hs⟩;replace hs:=(SS.back [⟨b5,55,qc (ys.getD k 0)⟩] ([]++B2) ⟨rb,140,[iV inp,qS A9 ((tl++[(⟨1,0,0,0,ys.getD k 0⟩:Stp)]).length) zc,ov]⟩ [] ([]++R2) ⟨110,9,A9,zc,(tl++[(⟨1,0,0,0,ys.getD k 0⟩:Stp)]).length,(tl++[(⟨1,0,0,0,ys.getD k 0⟩:Stp)]).flatMap stc⟩ hs).to ([⟨b5,55,qc (ys.getD k 0)⟩,⟨rb,140,[iV inp,qS A9 ((tl++[(⟨1,0,0,0,ys.getD k 0⟩:Stp)]).length) zc,ov]⟩]++B2) ([⟨110,9,A9,zc,(tl++[(⟨1,0,0,0,ys.getD k 0⟩:Stp)]).length,(tl++[(⟨1,0,0,0,ys.getD k 0⟩:Stp)]).flatMap stc⟩]++R2);have hl11:(tl++[(⟨1,0,0,0,ys.getD k 0⟩:Stp)]).length=(tl).length+1:=by rw[List.length_append];rfl
 refine lL hs [.m 10 23] (lNS (lL hs [.m 24 0,.m 25 1,.m 26 8] (lX 27 N os.length cN 1 (k:Nat) k ((hs.f.2.1).ok oM) ?_)));refine lH 28 (iV (os.getD k 0)) hs ((hs.f.2.1).el k oM) (lL hs [.m 29 10,.v 30 (.agg #[iV 4,iV (os.getD k 0),nV tl.length,iV 0,qF,uV 0,eS,uV 0,eS])] (lCs 31 (nAdd_ rb inp A9 zc (tl++[(⟨1,0,0,0,ys.getD k 0⟩:Stp)]) ov (⟨4,os.getD k 0,(tl.length:Nat),0,0⟩:Stp) oM _ _ hs.g (hs.front [⟨b5,55,qc (ys.getD k 0)⟩] ([]++B2) ⟨rb,140,[iV inp,qS A9 ((tl++[(⟨1,0,0,0,ys.getD k 0⟩:Stp)]).length) zc,ov]⟩ [] ([]++R2) ⟨110,9,A9,zc,(tl++[(⟨1,0,0,0,ys.getD k 0⟩:Stp)]).length,(tl++[(⟨1,0,0,0,ys.getD k 0⟩:Stp)]).flatMap stc⟩)) ?_));rintro _ _ _ ⟨zd,ze,rfl,hs⟩;replace hs:=(SS.back [⟨b5,55,qc (ys.getD k 0)⟩] ([]++B2) ⟨rb,140,[iV inp,qS zd (((tl++[(⟨1,0,0,0,ys.getD k 0⟩:Stp)])++[(⟨4,os.getD k 0,(tl.length:Nat),0,0⟩:Stp)]).length) ze,ov]⟩ [] ([]++R2) ⟨110,9,zd,ze,((tl++[(⟨1,0,0,0,ys.getD k 0⟩:Stp)])++[(⟨4,os.getD k 0,(tl.length:Nat),0,0⟩:Stp)]).length,((tl++[(⟨1,0,0,0,ys.getD k 0⟩:Stp)])++[(⟨4,os.getD k 0,(tl.length:Nat),0,0⟩:Stp)]).flatMap stc⟩ hs).to ([⟨b5,55,qc (ys.getD k 0)⟩,⟨rb,140,[iV inp,qS zd (((tl++[(⟨1,0,0,0,ys.getD k 0⟩:Stp)])++[(⟨4,os.getD k 0,(tl.length:Nat),0,0⟩:Stp)]).length) ze,ov]⟩]++B2) ([⟨110,9,zd,ze,((tl++[(⟨1,0,0,0,ys.getD k 0⟩:Stp)])++[(⟨4,os.getD k 0,(tl.length:Nat),0,0⟩:Stp)]).length,((tl++[(⟨1,0,0,0,ys.getD k 0⟩:Stp)])++[(⟨4,os.getD k 0,(tl.length:Nat),0,0⟩:Stp)]).flatMap stc⟩]++R2);have hl17:((tl++[(⟨1,0,0,0,ys.getD k 0⟩:Stp)])++[(⟨4,os.getD k 0,(tl.length:Nat),0,0⟩:Stp)]).length=(tl++[(⟨1,0,0,0,ys.getD k 0⟩:Stp)]).length+1:=by rw[List.length_append];rfl
 refine lL hs [.m 11 31] (lNS (lL hs [.m 32 0,.m 33 11,.v 34 (.agg #[iV 8,nV ((tl++[(⟨1,0,0,0,ys.getD k 0⟩:Stp)]).length),iV 0,iV 2,qF,uV 0,eS,uV 0,eS])] (lCs 35 (nAdd_ rb inp zd ze ((tl++[(⟨1,0,0,0,ys.getD k 0⟩:Stp)])++[(⟨4,os.getD k 0,(tl.length:Nat),0,0⟩:Stp)]) ov (⟨8,((tl++[(⟨1,0,0,0,ys.getD k 0⟩:Stp)]).length:Nat),0,2,0⟩:Stp) oM _ _ hs.g (hs.front [⟨b5,55,qc (ys.getD k 0)⟩] ([]++B2) ⟨rb,140,[iV inp,qS zd (((tl++[(⟨1,0,0,0,ys.getD k 0⟩:Stp)])++[(⟨4,os.getD k 0,(tl.length:Nat),0,0⟩:Stp)]).length) ze,ov]⟩ [] ([]++R2) ⟨110,9,zd,ze,((tl++[(⟨1,0,0,0,ys.getD k 0⟩:Stp)])++[(⟨4,os.getD k 0,(tl.length:Nat),0,0⟩:Stp)]).length,((tl++[(⟨1,0,0,0,ys.getD k 0⟩:Stp)])++[(⟨4,os.getD k 0,(tl.length:Nat),0,0⟩:Stp)]).flatMap stc⟩)) ?_)));rintro _ _ zk ⟨za,zb,rfl,hs⟩;replace hs:=(SS.back [⟨b5,55,qc (ys.getD k 0)⟩] ([]++B2) ⟨rb,140,[iV inp,qS za ((((tl++[(⟨1,0,0,0,ys.getD k 0⟩:Stp)])++[(⟨4,os.getD k 0,(tl.length:Nat),0,0⟩:Stp)])++[(⟨8,((tl++[(⟨1,0,0,0,ys.getD k 0⟩:Stp)]).length:Nat),0,2,0⟩:Stp)]).length) zb,ov]⟩ [] ([]++R2) ⟨110,9,za,zb,(((tl++[(⟨1,0,0,0,ys.getD k 0⟩:Stp)])++[(⟨4,os.getD k 0,(tl.length:Nat),0,0⟩:Stp)])++[(⟨8,((tl++[(⟨1,0,0,0,ys.getD k 0⟩:Stp)]).length:Nat),0,2,0⟩:Stp)]).length,(((tl++[(⟨1,0,0,0,ys.getD k 0⟩:Stp)])++[(⟨4,os.getD k 0,(tl.length:Nat),0,0⟩:Stp)])++[(⟨8,((tl++[(⟨1,0,0,0,ys.getD k 0⟩:Stp)]).length:Nat),0,2,0⟩:Stp)]).flatMap stc⟩ hs).to ([⟨b5,55,qc (ys.getD k 0)⟩,⟨rb,140,[iV inp,qS za ((((tl++[(⟨1,0,0,0,ys.getD k 0⟩:Stp)])++[(⟨4,os.getD k 0,(tl.length:Nat),0,0⟩:Stp)])++[(⟨8,((tl++[(⟨1,0,0,0,ys.getD k 0⟩:Stp)]).length:Nat),0,2,0⟩:Stp)]).length) zb,ov]⟩]++B2) ([⟨110,9,za,zb,(((tl++[(⟨1,0,0,0,ys.getD k 0⟩:Stp)])++[(⟨4,os.getD k 0,(tl.length:Nat),0,0⟩:Stp)])++[(⟨8,((tl++[(⟨1,0,0,0,ys.getD k 0⟩:Stp)]).length:Nat),0,2,0⟩:Stp)]).length,(((tl++[(⟨1,0,0,0,ys.getD k 0⟩:Stp)])++[(⟨4,os.getD k 0,(tl.length:Nat),0,0⟩:Stp)])++[(⟨8,((tl++[(⟨1,0,0,0,ys.getD k 0⟩:Stp)]).length:Nat),0,2,0⟩:Stp)]).flatMap stc⟩]++R2);have hl23:(((tl++[(⟨1,0,0,0,ys.getD k 0⟩:Stp)])++[(⟨4,os.getD k 0,(tl.length:Nat),0,0⟩:Stp)])++[(⟨8,((tl++[(⟨1,0,0,0,ys.getD k 0⟩:Stp)]).length:Nat),0,2,0⟩:Stp)]).length=((tl++[(⟨1,0,0,0,ys.getD k 0⟩:Stp)])++[(⟨4,os.getD k 0,(tl.length:Nat),0,0⟩:Stp)]).length+1:=by rw[List.length_append];rfl
 refine lL hs [.m 12 35] (lNS (lL hs [.m 36 8] ?_));cases zf:((k:Int) == (0:Int))
 ·
  have zj:=neOfBeq zf;refine lB 37 zf (lN (cIF (kQ (lL hs [.m 39 0,.m 40 7,.m 41 12,.v 42 (.agg #[iV 3,iV sm,nV (((tl++[(⟨1,0,0,0,ys.getD k 0⟩:Stp)])++[(⟨4,os.getD k 0,(tl.length:Nat),0,0⟩:Stp)]).length),iV 0,qF,uV 0,eS,uV 0,eS])] (lCs 43 (nAdd_ rb inp za zb (((tl++[(⟨1,0,0,0,ys.getD k 0⟩:Stp)])++[(⟨4,os.getD k 0,(tl.length:Nat),0,0⟩:Stp)])++[(⟨8,((tl++[(⟨1,0,0,0,ys.getD k 0⟩:Stp)]).length:Nat),0,2,0⟩:Stp)]) ov (⟨3,sm,(((tl++[(⟨1,0,0,0,ys.getD k 0⟩:Stp)])++[(⟨4,os.getD k 0,(tl.length:Nat),0,0⟩:Stp)]).length:Nat),0,0⟩:Stp) oM _ _ hs.g (hs.front [⟨b5,55,qc (ys.getD k 0)⟩] ([]++B2) ⟨rb,140,[iV inp,qS za ((((tl++[(⟨1,0,0,0,ys.getD k 0⟩:Stp)])++[(⟨4,os.getD k 0,(tl.length:Nat),0,0⟩:Stp)])++[(⟨8,((tl++[(⟨1,0,0,0,ys.getD k 0⟩:Stp)]).length:Nat),0,2,0⟩:Stp)]).length) zb,ov]⟩ [] ([]++R2) ⟨110,9,za,zb,(((tl++[(⟨1,0,0,0,ys.getD k 0⟩:Stp)])++[(⟨4,os.getD k 0,(tl.length:Nat),0,0⟩:Stp)])++[(⟨8,((tl++[(⟨1,0,0,0,ys.getD k 0⟩:Stp)]).length:Nat),0,2,0⟩:Stp)]).length,(((tl++[(⟨1,0,0,0,ys.getD k 0⟩:Stp)])++[(⟨4,os.getD k 0,(tl.length:Nat),0,0⟩:Stp)])++[(⟨8,((tl++[(⟨1,0,0,0,ys.getD k 0⟩:Stp)]).length:Nat),0,2,0⟩:Stp)]).flatMap stc⟩)) ?_)))));rintro _ _ zl ⟨zg,zi,rfl,hs⟩;replace hs:=(SS.back [⟨b5,55,qc (ys.getD k 0)⟩] ([]++B2) ⟨rb,140,[iV inp,qS zg (((((tl++[(⟨1,0,0,0,ys.getD k 0⟩:Stp)])++[(⟨4,os.getD k 0,(tl.length:Nat),0,0⟩:Stp)])++[(⟨8,((tl++[(⟨1,0,0,0,ys.getD k 0⟩:Stp)]).length:Nat),0,2,0⟩:Stp)])++[(⟨3,sm,(((tl++[(⟨1,0,0,0,ys.getD k 0⟩:Stp)])++[(⟨4,os.getD k 0,(tl.length:Nat),0,0⟩:Stp)]).length:Nat),0,0⟩:Stp)]).length) zi,ov]⟩ [] ([]++R2) ⟨110,9,zg,zi,((((tl++[(⟨1,0,0,0,ys.getD k 0⟩:Stp)])++[(⟨4,os.getD k 0,(tl.length:Nat),0,0⟩:Stp)])++[(⟨8,((tl++[(⟨1,0,0,0,ys.getD k 0⟩:Stp)]).length:Nat),0,2,0⟩:Stp)])++[(⟨3,sm,(((tl++[(⟨1,0,0,0,ys.getD k 0⟩:Stp)])++[(⟨4,os.getD k 0,(tl.length:Nat),0,0⟩:Stp)]).length:Nat),0,0⟩:Stp)]).length,((((tl++[(⟨1,0,0,0,ys.getD k 0⟩:Stp)])++[(⟨4,os.getD k 0,(tl.length:Nat),0,0⟩:Stp)])++[(⟨8,((tl++[(⟨1,0,0,0,ys.getD k 0⟩:Stp)]).length:Nat),0,2,0⟩:Stp)])++[(⟨3,sm,(((tl++[(⟨1,0,0,0,ys.getD k 0⟩:Stp)])++[(⟨4,os.getD k 0,(tl.length:Nat),0,0⟩:Stp)]).length:Nat),0,0⟩:Stp)]).flatMap stc⟩ hs).to ([⟨b5,55,qc (ys.getD k 0)⟩,⟨rb,140,[iV inp,qS zg (((((tl++[(⟨1,0,0,0,ys.getD k 0⟩:Stp)])++[(⟨4,os.getD k 0,(tl.length:Nat),0,0⟩:Stp)])++[(⟨8,((tl++[(⟨1,0,0,0,ys.getD k 0⟩:Stp)]).length:Nat),0,2,0⟩:Stp)])++[(⟨3,sm,(((tl++[(⟨1,0,0,0,ys.getD k 0⟩:Stp)])++[(⟨4,os.getD k 0,(tl.length:Nat),0,0⟩:Stp)]).length:Nat),0,0⟩:Stp)]).length) zi,ov]⟩]++B2) ([⟨110,9,zg,zi,((((tl++[(⟨1,0,0,0,ys.getD k 0⟩:Stp)])++[(⟨4,os.getD k 0,(tl.length:Nat),0,0⟩:Stp)])++[(⟨8,((tl++[(⟨1,0,0,0,ys.getD k 0⟩:Stp)]).length:Nat),0,2,0⟩:Stp)])++[(⟨3,sm,(((tl++[(⟨1,0,0,0,ys.getD k 0⟩:Stp)])++[(⟨4,os.getD k 0,(tl.length:Nat),0,0⟩:Stp)]).length:Nat),0,0⟩:Stp)]).length,((((tl++[(⟨1,0,0,0,ys.getD k 0⟩:Stp)])++[(⟨4,os.getD k 0,(tl.length:Nat),0,0⟩:Stp)])++[(⟨8,((tl++[(⟨1,0,0,0,ys.getD k 0⟩:Stp)]).length:Nat),0,2,0⟩:Stp)])++[(⟨3,sm,(((tl++[(⟨1,0,0,0,ys.getD k 0⟩:Stp)])++[(⟨4,os.getD k 0,(tl.length:Nat),0,0⟩:Stp)]).length:Nat),0,0⟩:Stp)]).flatMap stc⟩]++R2);have hl30:((((tl++[(⟨1,0,0,0,ys.getD k 0⟩:Stp)])++[(⟨4,os.getD k 0,(tl.length:Nat),0,0⟩:Stp)])++[(⟨8,((tl++[(⟨1,0,0,0,ys.getD k 0⟩:Stp)]).length:Nat),0,2,0⟩:Stp)])++[(⟨3,sm,(((tl++[(⟨1,0,0,0,ys.getD k 0⟩:Stp)])++[(⟨4,os.getD k 0,(tl.length:Nat),0,0⟩:Stp)]).length:Nat),0,0⟩:Stp)]).length=(((tl++[(⟨1,0,0,0,ys.getD k 0⟩:Stp)])++[(⟨4,os.getD k 0,(tl.length:Nat),0,0⟩:Stp)])++[(⟨8,((tl++[(⟨1,0,0,0,ys.getD k 0⟩:Stp)]).length:Nat),0,2,0⟩:Stp)]).length+1:=by rw[List.length_append];rfl
  refine lL hs [.m 7 43] (lN (kQ (lIn 44 ((k:Nat)+1) (k+1) ?_)));refine lL hs [.m 15 44] (lD ?_);intro a_ ka;replace hs:=hs.drop 1 0;refine ⟨_,_,?_,⟨k+1,zg,zi,(((tl++[(⟨1,0,0,0,ys.getD k 0⟩:Stp)])++[(⟨4,os.getD k 0,(tl.length:Nat),0,0⟩:Stp)])++[(⟨8,((tl++[(⟨1,0,0,0,ys.getD k 0⟩:Stp)]).length:Nat),0,2,0⟩:Stp)])++[(⟨3,sm,(((tl++[(⟨1,0,0,0,ys.getD k 0⟩:Stp)])++[(⟨4,os.getD k 0,(tl.length:Nat),0,0⟩:Stp)]).length:Nat),0,0⟩:Stp)],((((tl++[(⟨1,0,0,0,ys.getD k 0⟩:Stp)])++[(⟨4,os.getD k 0,(tl.length:Nat),0,0⟩:Stp)])++[(⟨8,((tl++[(⟨1,0,0,0,ys.getD k 0⟩:Stp)]).length:Nat),0,2,0⟩:Stp)]).length:Nat),zl,rfl,rfl,hs.to _ _,oM,((sqS_2 (k:=k) htl hsm oM).1),((sqS_2 (k:=k) htl hsm oM).2)⟩,ka.to _ kR⟩
  omega
 have zj:=eq_of_beq zf;refine lB 37 zf (lN (cIT (kQ (lL hs [.m 38 12,.m 7 38] (lN (kQ (lIn 44 ((k:Nat)+1) (k+1) ?_)))))));refine lL hs [.m 15 44] (lD ?_);intro a_ ka;replace hs:=hs.drop 1 0;refine ⟨_,_,?_,⟨k+1,za,zb,((tl++[(⟨1,0,0,0,ys.getD k 0⟩:Stp)])++[(⟨4,os.getD k 0,(tl.length:Nat),0,0⟩:Stp)])++[(⟨8,((tl++[(⟨1,0,0,0,ys.getD k 0⟩:Stp)]).length:Nat),0,2,0⟩:Stp)],(((tl++[(⟨1,0,0,0,ys.getD k 0⟩:Stp)])++[(⟨4,os.getD k 0,(tl.length:Nat),0,0⟩:Stp)]).length:Nat),zk,rfl,rfl,hs.to _ _,oM,(sqS_1 (k:=k) htl hsm oM),(sqS_1s (k:=k) htl hsm oM)⟩,ka.to _ kR⟩
 omega
def rowS (fr i C:Nat)(ix:List Int)(p0:List Stp × Int):Nat→List Stp × Int
  | 0=>p0
  | j+1=>(((rowS fr i C ix p0 j).1++[⟨5,((fr+i*C+j:Nat):Int),ix.getD j 0,0,0⟩])++[⟨3,(rowS fr i C ix p0 j).2,(((rowS fr i C ix p0 j).1.length:Nat):Int),0,0⟩],((((rowS fr i C ix p0 j).1++[⟨5,((fr+i*C+j:Nat):Int),ix.getD j 0,0,0⟩]:List Stp).length:Nat):Int))
def kindS (kd:Int)(p:List Stp × Int):List Stp × Int :=
  if kd=2 then (p.1++[⟨10,p.2,0,0,0⟩],((p.1.length:Nat):Int)) else if kd=3 then (p.1++[⟨11,p.2,0,0,0⟩],((p.1.length:Nat):Int)) else p
def layS (fr R C:Nat)(kd:Int)(ix:List Int)(l:List Stp):Nat→List Stp × List Int
  | 0=>(l,[])
  | i+1=>((kindS kd (rowS fr i C ix ((layS fr R C kd ix l i).1,((fr+R*C+i:Nat):Int)) C)).1,(layS fr R C kd ix l i).2++[(kindS kd (rowS fr i C ix ((layS fr R C kd ix l i).1,((fr+R*C+i:Nat):Int)) C)).2])
theorem rowS_len (fr i C:Nat)(ix:List Int)(p0:List Stp × Int):∀ j,(rowS fr i C ix p0 j).1.length=p0.1.length+2*j
  | 0=>rfl
  | j+1=>by
    have ih:=rowS_len fr i C ix p0 j
    unfold rowS;simp;omega
theorem kindS_len (kd:Int)(p:List Stp × Int):(kindS kd p).1.length≤p.1.length+1:=by
  unfold kindS;split
  · simp
  · split
    · simp
    · omega
theorem layS_len (fr R C:Nat)(kd:Int)(ix:List Int)(l:List Stp):∀ i,(layS fr R C kd ix l i).1.length≤l.length+i*(2*C+1)
  | 0=>by show l.length≤_;omega
  | i+1=>by
    have ih:=layS_len fr R C kd ix l i;have h1:=kindS_len kd (rowS fr i C ix ((layS fr R C kd ix l i).1,((fr+R*C+i:Nat):Int)) C);rw[rowS_len] at h1
    show (kindS kd _).1.length≤_
    rw[Nat.add_mul,Nat.one_mul]
    dsimp only at h1
    omega
section
variable {fr i C R j:Nat} {ix:List Int} {p0:List Stp × Int} {l tl tq:List Stp} {sm kd:Int}
theorem row_s (h1:tq=(rowS fr i C ix p0 j).1)(h2:sm=(rowS fr i C ix p0 j).2):(tq++[⟨5,((fr+i*C+j:Nat):Int),ix.getD j 0,0,0⟩])++[⟨3,sm,((tq.length:Nat):Int),0,0⟩]=(rowS fr i C ix p0 (j+1)).1∧(((tq++[⟨5,((fr+i*C+j:Nat):Int),ix.getD j 0,0,0⟩]:List Stp).length:Nat):Int)=(rowS fr i C ix p0 (j+1)).2:=by
  subst h1 h2;exact ⟨rfl,rfl⟩
section
variable (h0:tl=(layS fr R C kd ix l i).1) (h1:tq=(rowS fr i C ix (tl,((fr+R*C+i:Nat):Int)) j).1) (h2:sm=(rowS fr i C ix (tl,((fr+R*C+i:Nat):Int)) j).2) (hj:j=C)
include h0 h1 h2 hj
theorem lay_at:layS fr R C kd ix l (i+1)=((kindS kd (tq,sm)).1,(layS fr R C kd ix l i).2++[(kindS kd (tq,sm)).2]):=by
  subst hj;rw[show (tq,sm)=rowS fr i j ix (tl,((fr+R*j+i:Nat):Int)) j by rw[h1,h2],h0];rfl
theorem layA (h:kd=2):tq++[⟨10,sm,0,0,0⟩]=(layS fr R C kd ix l (i+1)).1∧(layS fr R C kd ix l i).2++[((tq.length:Nat):Int)]=(layS fr R C kd ix l (i+1)).2:=by
  rw[lay_at h0 h1 h2 hj,show kindS kd (tq,sm)=(tq++[⟨10,sm,0,0,0⟩],((tq.length:Nat):Int)) from if_pos h];exact ⟨rfl,rfl⟩
theorem layB (h:kd=3):tq++[⟨11,sm,0,0,0⟩]=(layS fr R C kd ix l (i+1)).1∧(layS fr R C kd ix l i).2++[((tq.length:Nat):Int)]=(layS fr R C kd ix l (i+1)).2:=by
  rw[lay_at h0 h1 h2 hj,show kindS kd (tq,sm)=(tq++[⟨11,sm,0,0,0⟩],((tq.length:Nat):Int)) from (if_neg oM).trans (if_pos h)];exact ⟨rfl,rfl⟩
theorem layC (h:kd≠2)(h':kd≠3):tq=(layS fr R C kd ix l (i+1)).1∧(layS fr R C kd ix l i).2++[sm]=(layS fr R C kd ix l (i+1)).2:=by
  rw[lay_at h0 h1 h2 hj,show kindS kd (tq,sm)=(tq,sm) from (if_neg h).trans (if_neg h')];exact ⟨rfl,rfl⟩
end
end
theorem nLayer {w0:World}{h0:Hp}{B2:List Bx}{R2:List Rw}{F2:List (Hp→Prop)}(rb:Nat)(inp:Int)(A:Option Addr)(c:Nat)(l:List Stp)(ov:Value)(kd:Int)(AW:Option Addr)(us:List Value)(cW:Nat)(Ws:List (List Rat))(BV:Value)(fr R C:Nat)(ix:List Int)(N:Option Addr)(cN:Nat)(hR:us.length=R)(hR2:R≤1000)(hC2:C≤1000)(hfr:fr≤1000000)(hWs:Ws.length=R)(hC:∀ i,i<R→(Ws.getD i []).length=C)(hix:C≤ix.length)(hl:l.length+R*(2*C+1)≤1000000)(w:World)(h:Hp)(g:G w h)(hA:Sv AW us h)(hU:QVs h us Ws)(hN:Si N ix h)(hs:SS w0 h0 w h (⟨rb,140,[iV inp,.slice A (l).length c,ov]⟩::B2) (⟨110,9,A,c,(l).length,(l).flatMap stc⟩::R2) F2):Calls Tryz.prog 76 #[pB rb,.agg #[iV kd,.slice AW us.length cW,BV],nV fr,.slice N ix.length cN] w (RetS fun v w1 h1=>∃ A1 c1 M cM,v=.slice M R cM∧Si M (layS fr R C kd ix l R).2 h1∧SS w0 h0 w1 h1 (⟨rb,140,[iV inp,.slice A1 ((layS fr R C kd ix l R).1).length c1,ov]⟩::B2) (⟨110,9,A1,c1,((layS fr R C kd ix l R).1).length,((layS fr R C kd ix l R).1).flatMap stc⟩::R2) F2):=by
 replace hs:=hs.to ([⟨rb,140,[iV inp,qS A (l).length c,ov]⟩]++B2) ([⟨110,9,A,c,(l).length,(l).flatMap stc⟩]++R2);replace hs:=(((hs.aS hA).aQ hU).aS hN);have hRC:R*C≤1000*1000:=Nat.mul_le_mul hR2 hC2;have hUC:us.length*C=R*C:=by rw[hR]
 have hUC2:(us.length:Int)*(C:Int)=((R*C:Nat):Int):=by rw[hR];exact (Int.natCast_mul R C).symm
 refine go Tryz.func76 [(0,pB rb),(1,.agg #[iV kd,qS AW us.length cW,BV]),(2,nV fr),(3,qS N ix.length cN)] rfl (cSL (lA 5 144 ([iV kd,qS AW us.length cW,BV]) hs (fun b1 w2 h3 hs=>lL hs [.v 8 (sZ)] (lNS (lL hs [.v 15 (qP b1 1),.o 16 (qS AW us.length cW) 0 1 1,.v 17 (nV us.length)] (lK 18 3 us.length 1 8 (iV 0) i64c (0:Int) hs (fun b4 w5 h6 hs=>?_)))))));have hl7:(List.replicate us.length (0:Int)).length=us.length:=by simp
 refine lL hs [.m 9 18] (lN (cQ (cSL (lL hs [.v 19 (qP b1 1),.o 20 (qS AW us.length cW) 1 1 1,.v 21 (nV us.length),.v 22 (iV 0)] (lN (kZ ?_))))));refine cTo _ (CG.loop (fun μ_ Γ w_=>∃ (i:Nat) (srA:Option Addr) (src:Nat) (tl:List Stp) (al:List Int) (h_:Hp),μ_=R-i∧Γ=[(0,pB rb),(2,nV fr),(3,qS N ix.length cN),(5,pB b1),(8,sZ),(9,qS (sB b4) us.length us.length),(20,qS AW us.length cW),(21,nV us.length),(22,nV i)]∧SS w0 h0 w_ h_ ([⟨b4,3,(al).flatMap i64c⟩,⟨b1,144,[iV kd,qS AW us.length cW,BV]⟩,⟨rb,140,[iV inp,qS srA ((tl).length) src,ov]⟩]++B2) ([⟨110,9,srA,src,(tl).length,(tl).flatMap stc⟩]++R2) ([Si N ix,Qu us Ws,Sv AW us]++F2)∧i≤R∧al.length=us.length∧tl=(layS fr R C kd ix l i).1∧al.take i=(layS fr R C kd ix l i).2) _ ⟨0,A,c,l,List.replicate us.length (0:Int),h6,rfl,rfl,hs.to _ _,Nat.zero_le _,(by simp),rfl,rfl⟩ ?_);rintro _ _ w8 ⟨i,srA,src,tl,al,h9,hm10,rfl,hs,hi,hal,htl,hav⟩;have hll:tl.length≤l.length+i*(2*C+1):=by rw[htl];exact layS_len fr R C kd ix l i
 have hiC:=Nat.mul_le_mul_right C hi;have hiC2:=Nat.mul_le_mul_right (2*C+1) hi;have hiC3:i<R→(i+1)*(2*C+1)≤R*(2*C+1):=fun h_=>Nat.mul_le_mul_right (2*C+1) h_
 have hiC4:(i+1)*(2*C+1)=i*(2*C+1)+(2*C+1):=by rw[Nat.add_mul,Nat.one_mul]
 refine cSL ?_;cases zg:(decide ((i:Int)<(us.length:Int)))
 ·
  have zn:=oF zg;refine lB 23 zg (lN (cQ (cIF (CG.exit ?_))))
  show CG _ _ _ _ _ _ _ _
  refine cSL (lL hs [.m 82 9,.m 8 82] (lN (kX ?_)));have hiR:i=R:=by omega
  rw[hiR,List.take_of_length_le oM] at hav
  rw[hiR] at htl
  obtain ⟨_,hs,sg13,lo14,bc15⟩:=hs.pub 0;replace hs:=(hs.to ([⟨b1,144,[iV kd,qS AW us.length cW,BV]⟩,⟨rb,140,[iV inp,qS srA ((tl).length) src,ov]⟩]++B2) ([⟨110,9,srA,src,(tl).length,(tl).flatMap stc⟩]++R2)).aS (SlO.of_flat (sz:=1) (f:=i64c) (d:=0) (b:=b4) (o:=0) (l:=al) (fun _=>rfl) sg13);refine hs.retS [] (qS (sB b4) us.length us.length) ?_;rw[←htl,←hav];exact ⟨srA,src,(sB b4),_,(by rw[hR]),hs.f.1,(hs.tl.tl.tl.tl.drop 1 0).to _ _⟩
 have zn:=oT zg;refine lB 23 zg (lN (cQ (cIT (cK (cQ (kZ (cSL (lL hs [.m 24 22] (lX 25 AW us.length cW 1 (i:Nat) i ((hs.f.r.1).ok oM) ?_)))))))));obtain ⟨Aq,cq,eq,hcq,hRq⟩:=(hs.f.2.1).at_ i oM;rw[hC i oM] at eq
 refine lHe 26 (us.getD i undef) hs ((hs.f.r.1).el i oM) eq (lL hs [.m 10 24,.m 11 26] (lNS (lL hs [.m 27 2,.v 28 (qP b1 1),.o 29 (qS AW us.length cW) 1 1 1,.v 30 (nV us.length),.m 31 11,.v 32 (nV C)] (lIn 33 ((us.length:Nat)*(C:Nat)) (R*C) ?_))));refine lIn 34 ((fr:Nat)+(R*C:Nat)) (fr+(R*C)) (lL hs [.m 35 10] (lIn 36 ((fr+(R*C):Nat)+(i:Nat)) (fr+R*C+i) ?_));refine lL hs [.m 12 36] (lN (cQ (cSL (lL hs [.m 37 11,.v 38 (nV C),.v 39 (iV 0)] (lN (kZ ?_))))));refine cTo _ (CG.loop (fun μ_ Γ w_=>∃ (j:Nat) (sqA:Option Addr) (sqc:Nat) (tq:List Stp) (sm:Int) (h_:Hp),μ_=C-j∧Γ=[(0,pB rb),(2,nV fr),(3,qS N ix.length cN),(5,pB b1),(8,sZ),(9,qS (sB b4) us.length us.length),(20,qS AW us.length cW),(21,nV us.length),(22,nV i),(10,nV i),(11,qS Aq C cq),(38,nV C),(39,nV j),(12,iV sm)]∧SS w0 h0 w_ h_ ([⟨b4,3,(al).flatMap i64c⟩,⟨b1,144,[iV kd,qS AW us.length cW,BV]⟩,⟨rb,140,[iV inp,qS sqA ((tq).length) sqc,ov]⟩]++B2) ([⟨110,9,sqA,sqc,(tq).length,(tq).flatMap stc⟩]++R2) ([Si N ix,Qu us Ws,Sv AW us]++F2)∧j≤C∧tq=(rowS fr i C ix (tl,((fr+R*C+i:Nat):Int)) j).1∧sm=(rowS fr i C ix (tl,((fr+R*C+i:Nat):Int)) j).2) _ ⟨0,srA,src,tl,((fr+R*C+i:Nat):Int),h9,rfl,rfl,hs.to _ _,Nat.zero_le _,rfl,rfl⟩ ?_);rintro _ _ _ ⟨j,sqA,sqc,tq,sm,zu,hm19,rfl,hs,hj,htl2,hsm2⟩;have hlq:tq.length=tl.length+2*j:=by rw[htl2];exact rowS_len fr i C ix _ j
 refine cSL ?_;cases zi:(decide ((j:Int)<(C:Int)))
 ·
  have zo:=oF zi;refine lB 40 zi (lN (cQ (cIF (CG.exit ?_))))
  show CG _ _ _ _ _ _ _ _
  refine cQ (cSL ?_);have hjC:j=C:=by omega
  refine lL hs [.v 63 (pB b1),.o 64 (iV kd) 1 0 1] (lN (kZ (cSL ?_)));cases zj:((kd:Int) == (2:Int))
  ·
   have zp:=neOfBeq zj;refine lB 66 zj (lL hs [.m 65 66] (lN (cIF (cSL ?_))));cases zk:((kd:Int) == (3:Int))
   ·
    have zq:=neOfBeq zk;refine lB 72 zk (lL hs [.m 71 72] (lN (cIF (cK (kQ (lL hs [.m 77 9,.m 78 10,.m 79 12] (lX 80 (sB b4) us.length us.length 1 (i:Nat) i rfl ?_)))))));refine lW 0 al i64c 1 i sm hs oM (fun _ hs=>?_);have zr:((al).set i sm).length=us.length:=by rw[List.length_set];exact hal
    replace hs:=hs.to ([⟨b4,3,((al).set i sm).flatMap i64c⟩,⟨b1,144,[iV kd,qS AW us.length cW,BV]⟩,⟨rb,140,[iV inp,qS sqA ((tq).length) sqc,ov]⟩]++B2) ([⟨110,9,sqA,sqc,(tq).length,(tq).flatMap stc⟩]++R2);refine lN (kQ (lIn 81 ((i:Nat)+1) (i+1) ?_));refine lL hs [.m 22 81] (lD ?_);intro a_ ka;refine ⟨_,_,?_,⟨i+1,sqA,sqc,tq,(al).set i sm,zu,rfl,rfl,hs.to _ _,oM,zr,((layC htl htl2 hsm2 hjC oM oM).1),(by rw[take_set_snoc oM,hav];exact (layC htl htl2 hsm2 hjC oM oM).2)⟩,ka.to _ kR⟩
    omega
   have zq:=eq_of_beq zk;refine lB 72 zk (lL hs [.m 71 72] (lN (cIT (kQ (lL hs [.m 73 0,.m 74 12,.v 75 (.agg #[iV 11,iV sm,iV 0,iV 0,qF,uV 0,eS,uV 0,eS])] (lCs 76 (nAdd_ rb inp sqA sqc tq ov (⟨11,sm,0,0,0⟩:Stp) oM _ _ hs.g (hs.front [⟨b4,3,(al).flatMap i64c⟩,⟨b1,144,[iV kd,qS AW us.length cW,BV]⟩] ([]++B2) ⟨rb,140,[iV inp,qS sqA ((tq).length) sqc,ov]⟩ [] ([]++R2) ⟨110,9,sqA,sqc,(tq).length,(tq).flatMap stc⟩)) ?_))))));rintro _ _ zv ⟨za,zb,rfl,hs⟩;replace hs:=(SS.back [⟨b4,3,(al).flatMap i64c⟩,⟨b1,144,[iV kd,qS AW us.length cW,BV]⟩] ([]++B2) ⟨rb,140,[iV inp,qS za ((tq++[(⟨11,sm,0,0,0⟩:Stp)]).length) zb,ov]⟩ [] ([]++R2) ⟨110,9,za,zb,(tq++[(⟨11,sm,0,0,0⟩:Stp)]).length,(tq++[(⟨11,sm,0,0,0⟩:Stp)]).flatMap stc⟩ hs).to ([⟨b4,3,(al).flatMap i64c⟩,⟨b1,144,[iV kd,qS AW us.length cW,BV]⟩,⟨rb,140,[iV inp,qS za ((tq++[(⟨11,sm,0,0,0⟩:Stp)]).length) zb,ov]⟩]++B2) ([⟨110,9,za,zb,(tq++[(⟨11,sm,0,0,0⟩:Stp)]).length,(tq++[(⟨11,sm,0,0,0⟩:Stp)]).flatMap stc⟩]++R2);have hl31:(tq++[(⟨11,sm,0,0,0⟩:Stp)]).length=(tq).length+1:=by rw[List.length_append];rfl
   refine lL hs [.m 12 76] (lN (kQ (lL hs [.m 77 9,.m 78 10,.m 79 12] (lX 80 (sB b4) us.length us.length 1 (i:Nat) i rfl ?_))));refine lW 0 al i64c 1 i (tq.length:Nat) hs oM (fun _ hs=>?_);have zs:((al).set i (tq.length:Nat)).length=us.length:=by rw[List.length_set];exact hal
   replace hs:=hs.to ([⟨b4,3,((al).set i (tq.length:Nat)).flatMap i64c⟩,⟨b1,144,[iV kd,qS AW us.length cW,BV]⟩,⟨rb,140,[iV inp,qS za ((tq++[(⟨11,sm,0,0,0⟩:Stp)]).length) zb,ov]⟩]++B2) ([⟨110,9,za,zb,(tq++[(⟨11,sm,0,0,0⟩:Stp)]).length,(tq++[(⟨11,sm,0,0,0⟩:Stp)]).flatMap stc⟩]++R2);refine lN (kQ (lIn 81 ((i:Nat)+1) (i+1) ?_));refine lL hs [.m 22 81] (lD ?_);intro a_ ka;refine ⟨_,_,?_,⟨i+1,za,zb,tq++[(⟨11,sm,0,0,0⟩:Stp)],(al).set i (tq.length:Nat),zv,rfl,rfl,hs.to _ _,oM,zs,((layB htl htl2 hsm2 hjC oM).1),(by rw[take_set_snoc oM,hav];exact (layB htl htl2 hsm2 hjC oM).2)⟩,ka.to _ kR⟩
   omega
  have zp:=eq_of_beq zj;refine lB 66 zj (lL hs [.m 65 66] (lN (cIT (kQ (lL hs [.m 67 0,.m 68 12,.v 69 (.agg #[iV 10,iV sm,iV 0,iV 0,qF,uV 0,eS,uV 0,eS])] (lCs 70 (nAdd_ rb inp sqA sqc tq ov (⟨10,sm,0,0,0⟩:Stp) oM _ _ hs.g (hs.front [⟨b4,3,(al).flatMap i64c⟩,⟨b1,144,[iV kd,qS AW us.length cW,BV]⟩] ([]++B2) ⟨rb,140,[iV inp,qS sqA ((tq).length) sqc,ov]⟩ [] ([]++R2) ⟨110,9,sqA,sqc,(tq).length,(tq).flatMap stc⟩)) ?_))))));rintro _ _ zw ⟨zc,zd,rfl,hs⟩;replace hs:=(SS.back [⟨b4,3,(al).flatMap i64c⟩,⟨b1,144,[iV kd,qS AW us.length cW,BV]⟩] ([]++B2) ⟨rb,140,[iV inp,qS zc ((tq++[(⟨10,sm,0,0,0⟩:Stp)]).length) zd,ov]⟩ [] ([]++R2) ⟨110,9,zc,zd,(tq++[(⟨10,sm,0,0,0⟩:Stp)]).length,(tq++[(⟨10,sm,0,0,0⟩:Stp)]).flatMap stc⟩ hs).to ([⟨b4,3,(al).flatMap i64c⟩,⟨b1,144,[iV kd,qS AW us.length cW,BV]⟩,⟨rb,140,[iV inp,qS zc ((tq++[(⟨10,sm,0,0,0⟩:Stp)]).length) zd,ov]⟩]++B2) ([⟨110,9,zc,zd,(tq++[(⟨10,sm,0,0,0⟩:Stp)]).length,(tq++[(⟨10,sm,0,0,0⟩:Stp)]).flatMap stc⟩]++R2);have hl43:(tq++[(⟨10,sm,0,0,0⟩:Stp)]).length=(tq).length+1:=by rw[List.length_append];rfl
  refine lL hs [.m 12 70] (lN (kQ (lL hs [.m 77 9,.m 78 10,.m 79 12] (lX 80 (sB b4) us.length us.length 1 (i:Nat) i rfl ?_))));refine lW 0 al i64c 1 i (tq.length:Nat) hs oM (fun _ hs=>?_);have zt:((al).set i (tq.length:Nat)).length=us.length:=by rw[List.length_set];exact hal
  replace hs:=hs.to ([⟨b4,3,((al).set i (tq.length:Nat)).flatMap i64c⟩,⟨b1,144,[iV kd,qS AW us.length cW,BV]⟩,⟨rb,140,[iV inp,qS zc ((tq++[(⟨10,sm,0,0,0⟩:Stp)]).length) zd,ov]⟩]++B2) ([⟨110,9,zc,zd,(tq++[(⟨10,sm,0,0,0⟩:Stp)]).length,(tq++[(⟨10,sm,0,0,0⟩:Stp)]).flatMap stc⟩]++R2);refine lN (kQ (lIn 81 ((i:Nat)+1) (i+1) ?_));refine lL hs [.m 22 81] (lD ?_);intro a_ ka;refine ⟨_,_,?_,⟨i+1,zc,zd,tq++[(⟨10,sm,0,0,0⟩:Stp)],(al).set i (tq.length:Nat),zw,rfl,rfl,hs.to _ _,oM,zt,((layA htl htl2 hsm2 hjC oM).1),(by rw[take_set_snoc oM,hav];exact (layA htl htl2 hsm2 hjC oM).2)⟩,ka.to _ kR⟩
  omega
 have zo:=oT zi;refine lB 40 zi (lN (cQ (cIT (cK (cQ (kZ (cSL (lL hs [.m 41 39,.m 13 41] (lNS (lL hs [.m 42 0,.m 43 2,.m 44 10,.m 45 11,.v 46 (nV C)] (lIn 47 ((i:Nat)*(C:Nat)) (i*C) ?_)))))))))));refine lIn 48 ((fr:Nat)+(i*C:Nat)) (fr+(i*C)) (lL hs [.m 49 13] (lIn 50 ((fr+(i*C):Nat)+(j:Nat)) ((fr+(i*C))+j) ?_));refine lL hs [.m 51 3,.m 52 13] (lX 53 N ix.length cN 1 (j:Nat) j ((hs.f.1).ok oM) ?_);refine lH 54 (iV (ix.getD j 0)) hs ((hs.f.1).el j oM) (lL hs [.v 55 (.agg #[iV 5,nV ((fr+(i*C))+j),iV (ix.getD j 0),iV 0,qF,uV 0,eS,uV 0,eS])] (lCs 56 (nAdd_ rb inp sqA sqc tq ov (⟨5,((fr+(i*C))+j:Nat),ix.getD j 0,0,0⟩:Stp) oM _ _ hs.g (hs.front [⟨b4,3,(al).flatMap i64c⟩,⟨b1,144,[iV kd,qS AW us.length cW,BV]⟩] ([]++B2) ⟨rb,140,[iV inp,qS sqA ((tq).length) sqc,ov]⟩ [] ([]++R2) ⟨110,9,sqA,sqc,(tq).length,(tq).flatMap stc⟩)) ?_));rintro _ _ _ ⟨ze,zf,rfl,hs⟩;replace hs:=(SS.back [⟨b4,3,(al).flatMap i64c⟩,⟨b1,144,[iV kd,qS AW us.length cW,BV]⟩] ([]++B2) ⟨rb,140,[iV inp,qS ze ((tq++[(⟨5,((fr+(i*C))+j:Nat),ix.getD j 0,0,0⟩:Stp)]).length) zf,ov]⟩ [] ([]++R2) ⟨110,9,ze,zf,(tq++[(⟨5,((fr+(i*C))+j:Nat),ix.getD j 0,0,0⟩:Stp)]).length,(tq++[(⟨5,((fr+(i*C))+j:Nat),ix.getD j 0,0,0⟩:Stp)]).flatMap stc⟩ hs).to ([⟨b4,3,(al).flatMap i64c⟩,⟨b1,144,[iV kd,qS AW us.length cW,BV]⟩,⟨rb,140,[iV inp,qS ze ((tq++[(⟨5,((fr+(i*C))+j:Nat),ix.getD j 0,0,0⟩:Stp)]).length) zf,ov]⟩]++B2) ([⟨110,9,ze,zf,(tq++[(⟨5,((fr+(i*C))+j:Nat),ix.getD j 0,0,0⟩:Stp)]).length,(tq++[(⟨5,((fr+(i*C))+j:Nat),ix.getD j 0,0,0⟩:Stp)]).flatMap stc⟩]++R2);have hl55:(tq++[(⟨5,((fr+(i*C))+j:Nat),ix.getD j 0,0,0⟩:Stp)]).length=(tq).length+1:=by rw[List.length_append];rfl
 refine lL hs [.m 14 56] (lN (kQ (lL hs [.m 57 0,.m 58 12,.m 59 14,.v 60 (.agg #[iV 3,iV sm,nV tq.length,iV 0,qF,uV 0,eS,uV 0,eS])] (lCs 61 (nAdd_ rb inp ze zf (tq++[(⟨5,((fr+(i*C))+j:Nat),ix.getD j 0,0,0⟩:Stp)]) ov (⟨3,sm,(tq.length:Nat),0,0⟩:Stp) oM _ _ hs.g (hs.front [⟨b4,3,(al).flatMap i64c⟩,⟨b1,144,[iV kd,qS AW us.length cW,BV]⟩] ([]++B2) ⟨rb,140,[iV inp,qS ze ((tq++[(⟨5,((fr+(i*C))+j:Nat),ix.getD j 0,0,0⟩:Stp)]).length) zf,ov]⟩ [] ([]++R2) ⟨110,9,ze,zf,(tq++[(⟨5,((fr+(i*C))+j:Nat),ix.getD j 0,0,0⟩:Stp)]).length,(tq++[(⟨5,((fr+(i*C))+j:Nat),ix.getD j 0,0,0⟩:Stp)]).flatMap stc⟩)) ?_))));rintro _ _ zx ⟨zl,zm,rfl,hs⟩;replace hs:=(SS.back [⟨b4,3,(al).flatMap i64c⟩,⟨b1,144,[iV kd,qS AW us.length cW,BV]⟩] ([]++B2) ⟨rb,140,[iV inp,qS zl (((tq++[(⟨5,((fr+(i*C))+j:Nat),ix.getD j 0,0,0⟩:Stp)])++[(⟨3,sm,(tq.length:Nat),0,0⟩:Stp)]).length) zm,ov]⟩ [] ([]++R2) ⟨110,9,zl,zm,((tq++[(⟨5,((fr+(i*C))+j:Nat),ix.getD j 0,0,0⟩:Stp)])++[(⟨3,sm,(tq.length:Nat),0,0⟩:Stp)]).length,((tq++[(⟨5,((fr+(i*C))+j:Nat),ix.getD j 0,0,0⟩:Stp)])++[(⟨3,sm,(tq.length:Nat),0,0⟩:Stp)]).flatMap stc⟩ hs).to ([⟨b4,3,(al).flatMap i64c⟩,⟨b1,144,[iV kd,qS AW us.length cW,BV]⟩,⟨rb,140,[iV inp,qS zl (((tq++[(⟨5,((fr+(i*C))+j:Nat),ix.getD j 0,0,0⟩:Stp)])++[(⟨3,sm,(tq.length:Nat),0,0⟩:Stp)]).length) zm,ov]⟩]++B2) ([⟨110,9,zl,zm,((tq++[(⟨5,((fr+(i*C))+j:Nat),ix.getD j 0,0,0⟩:Stp)])++[(⟨3,sm,(tq.length:Nat),0,0⟩:Stp)]).length,((tq++[(⟨5,((fr+(i*C))+j:Nat),ix.getD j 0,0,0⟩:Stp)])++[(⟨3,sm,(tq.length:Nat),0,0⟩:Stp)]).flatMap stc⟩]++R2);have hl61:((tq++[(⟨5,((fr+(i*C))+j:Nat),ix.getD j 0,0,0⟩:Stp)])++[(⟨3,sm,(tq.length:Nat),0,0⟩:Stp)]).length=(tq++[(⟨5,((fr+(i*C))+j:Nat),ix.getD j 0,0,0⟩:Stp)]).length+1:=by rw[List.length_append];rfl
 refine lL hs [.m 12 61] (lN (kQ (lIn 62 ((j:Nat)+1) (j+1) ?_)));refine lL hs [.m 39 62] (lD ?_);intro a_ ka;refine ⟨_,_,?_,⟨j+1,zl,zm,(tq++[(⟨5,((fr+(i*C))+j:Nat),ix.getD j 0,0,0⟩:Stp)])++[(⟨3,sm,(tq.length:Nat),0,0⟩:Stp)],((tq++[(⟨5,((fr+(i*C))+j:Nat),ix.getD j 0,0,0⟩:Stp)]).length:Nat),zx,rfl,rfl,hs.to _ _,oM,((row_s htl2 hsm2).1),((row_s htl2 hsm2).2)⟩,ka.to _ kR⟩
 omega
theorem sClone0 (b o c:Nat)(l:List Rat)(hpos:0<l.length)(hl:l.length≤1000000)(w:World)(h:Hp)(g:G w h)(hA:Sq (some ⟨b,o,none⟩) l h):CR 181 #[.slice (some ⟨b,o,none⟩) l.length c] w h (fun v h1=>SlN h.size 55 qc h1 v l):=by
 have hs:=((sS g).aS hA);have hnil:([]:List Rat).length=0:=rfl;refine go Tryz.func181 [(0,qS (some ⟨b,o,none⟩) l.length c)] rfl (cSL (lL hs [.v 2 (sZ)] (lN (cQ (cSL (lL hs [.m 3 0,.v 4 qF] (lN (cIF (cK (cSL (lRw 5 55 5 qc ([]:List Rat) hs (fun b1 w2 h3 hs=>lL hs [.m 6 0] (lYs 7 0 55 5 ((([]:List Rat)).length) (sB b1) ([]:List Rat) qc 0 (some ⟨b,o,none⟩) l c 56 (.agg #[qF,uV 0,eS,uV 0,eS]) hs hs.f.1 oM (fun A6 c7 w8 h9 hs=>lL hs [.m 2 7] (lN (kX ?_))))))))))))))));obtain ⟨hq,bq,spq,hs,hbq,hcq⟩:=hs.pubn 0 (A:=A6) (c:=c7) (ty:=55) (sz:=5) (l:=([]:List Rat)++l) (f:=qc) (by simpa using hpos);subst hbq;exact hs.ret [] (qS (sB bq) l.length c7) (⟨bq,_,spq,rfl,hcq,hs.f.1⟩)
theorem sClone (A:Option Addr)(n c:Nat)(l:List Rat)(hn:l.length=n)(hpos:0<n)(hl:n≤1000000)(w:World)(h:Hp)(g:G w h)(hA:Sq A l h):CR 181 #[.slice A n c] w h (fun v h1=>SlN h.size 55 qc h1 v l):=by
  subst hn;have e:=hA.ok hpos;rw[e] at hA ⊢
  exact sClone0 _ _ c l hpos hl w h g hA
theorem nNext (m rb c:Nat)(A:Option Addr)(l:List Rat)(hm0:0<m)(hm:m≤l.length)(hl:l.length≤1000000)(hc:l.length≤c)(w:World)(h:Hp)(g:G w h)(ho:Own w rb 30 [.slice A l.length c])(hj:h[rb]?=some junk)(hA:Sq A l h):Calls Tryz.prog 180 #[nV m,pB rb] w (RetM rb w h fun v w' h1=>SlN h.size 55 qc h1 v (l.take m)∧∃ A2 c2,Own w' rb 30 [.slice A2 (l.drop m).length c2]∧(l.drop m).length≤c2∧Sq A2 (l.drop m) h1):=by
 have hmo:UpM [rb] w h w h:=UpM.refl g;obtain ⟨wz,hz,hs⟩:=SS.at_ g ho hj;replace hs:=hs.aS hA;refine go Tryz.func180 [(0,nV m),(1,pB rb)] rfl (cSL (lL hs [.v 3 (sZ)] (lNS (lL hs [.o 5 (qS A l.length c) 0 0 1,.m 6 0] (lT 7 A l.length c 5 (m:Nat) m ?_)))));have hsz:=hmo.gr.size;refine lCu 8 (sClone A m c (l.take m) (by rw[List.length_take];omega) hm0 oM _ _ hs.g ((hs.f.1).take m)) ?_;rintro _ w1 h2 u3 ⟨bq,cq,spq,rfl,hcq,hNq⟩;replace hmo:=hmo.trans (u3.m _);replace hs:=hs.step u3;replace hNq:=hNq.mono hsz;replace hs:=(hs.add (K:=fun h_=>Nw h.size h_ bq 55 ((l.take m).flatMap qc++spq)) hNq);refine lL hs [.m 4 8] (lNS (lL hs [.o 9 (qS A l.length c) 0 0 1,.m 10 0] (lF 11 A l.length c 5 (m:Nat) m ?_)));refine lPu 0 0 ([qS (if c=m then A else A.map (·.add (m*5))) (l.length-m) (c-m)]) hs (fun w4 pu hs=>?_);replace hmo:=hmo.put pu (List.mem_singleton.2 rfl) hs.g;exact lNS (lL hs [.m 12 4,.m 3 12] (lN (kX (hs.retM hmo [] (qS (sB bq) ((l.take m).length) cq) ⟨⟨bq,cq,spq,rfl,hcq,hs.f.1⟩,_,_,by rw[List.length_drop];exact hs.own 0,by rw[List.length_drop];omega,(hs.f.2.1).drop m c hc⟩))))
def QNs (K:Nat)(h:Hp)(us:List Value)(W:List (List Rat)):Prop:=∀ j,j<W.length→SlN K 55 qc h (us.getD j undef) (W.getD j [])
def LNew (K:Nat)(h:Hp)(t:LV)(L:Lay):Prop:=t.1=L.k∧(∃ us,SlN K 30 vc h t.2.1 us∧us.length=L.W.length∧QNs K h us L.W)∧SlN K 55 qc h t.2.2 L.B
structure NNew (K:Nat) (h:Hp) (ts:List LV) (ls:List Lay):Prop where
  len:ts.length=ls.length
  at_:∀ i,i<ls.length→LNew K h (ts.getD i lvd) (ls.getD i lay0)
def nums (d:Nat→Nat):Nat→Nat
  | 0=>0
  | k+1=>nums d k+d (k+1)*d k+d (k+1)
theorem nums_mono (d:Nat→Nat){k n:Nat}(h:k≤n):nums d k≤nums d n:=by
  induction h with
  | refl=>exact Nat.le_refl _
  | step _ ih=>exact Nat.le_trans ih (by show nums d _≤nums d _+_+_;omega)
def Shp (d:Nat→Nat)(zs:List Lay):Prop:=∀ i,i<zs.length→Mat (zs.getD i lay0).W (d (i+1)) (d i)∧(zs.getD i lay0).B.length=d (i+1)
theorem net_shp {ls:List Lay}{d:Nat→Nat}(o:Net3 ls d):Shp d ls:=fun i hi=>⟨(o.lay i hi).1,(o.lay i hi).2.1⟩
theorem Shp.take {d:Nat→Nat}{zs:List Lay}(s:Shp d zs)(k:Nat)(hk:k≤zs.length):(flatq (zs.take k)).length=nums d k:=by
  induction k with
  | zero=>simp[flatq,nums]
  | succ k ih =>
    obtain ⟨m,hb⟩:=s k oM;rw[flatq_take oM,List.length_append,List.length_append,ih oM,flat_len m.mem,m.rows,hb];rfl
theorem Shp.size {d:Nat→Nat}{zs:List Lay}(s:Shp d zs):(flatq zs).length=nums d zs.length:=by
  have:=s.take zs.length (Nat.le_refl _)
  rwa [List.take_length] at this
theorem Shp.nil {d:Nat→Nat}:Shp d []:=fun i hi=>by simp at hi
theorem Shp.snoc {d:Nat→Nat}{zs:List Lay}{L:Lay}(s:Shp d zs)(m:Mat L.W (d (zs.length+1)) (d zs.length))(hb:L.B.length=d (zs.length+1)):Shp d (zs++[L]):=fun i hi=>by
  rw[List.length_append,List.length_singleton] at hi
  rw[getD_snoc]
  by_cases e:i<zs.length
  · rw[if_pos e];exact s i e
  · have:i=zs.length:=by omega
    subst this;rw[if_neg e,if_pos rfl];exact ⟨m,hb⟩
theorem fill_end {d:Nat→Nat}{zs:List Lay}{xs rs:List Rat}(s:Shp d zs)(h:flatq zs++rs=xs)(hx:xs.length=nums d zs.length):flatq zs=xs:=by
  have h1:=s.size;have h2:=congrArg List.length h;rw[List.length_append] at h2
  have:rs=[]:=List.eq_nil_of_length_eq_zero oM;rw[←h,this,List.append_nil]
theorem rest_len {d:Nat→Nat}{zs:List Lay}{W:List (List Rat)}{xs rs:List Rat}(s:Shp d zs)(hW:∀ r∈W,r.length=d zs.length)(h:flatq zs++W.flatten++rs=xs):rs.length+(nums d zs.length+W.length*d zs.length)=xs.length:=by
  have h1:=s.size;have h2:=congrArg List.length h;rw[List.length_append,List.length_append,flat_len hW] at h2
  omega
theorem mat_of {W:List (List Rat)}{r c:Nat}(h:W.length=r)(hr:0<r)(hc:0<c)(hW:∀ x∈W,x.length=c):Mat W r c:=⟨h,hr,hc,fun i hi=>hW _ (by
  rw[List.getD_eq_getElem?_getD,List.getElem?_eq_getElem oM];exact List.getElem_mem _)⟩
theorem rows_snoc' {W:List (List Rat)}{n:Nat}(h:∀ r∈W,r.length=n){q:List Rat}(hl:q.length=n):∀ r∈W++[q],r.length=n:=fun r hr=>by
  rcases List.mem_append.1 hr with hr|hr
  · exact h r hr
  · rw[List.mem_singleton.1 hr];exact hl
theorem kind_snoc {zs ls:List Lay}{L:Lay}(h:∀ i,i<zs.length→(zs.getD i lay0).k=(ls.getD i lay0).k)(hL:L.k=(ls.getD zs.length lay0).k):∀ i,i<(zs++[L]).length→((zs++[L]).getD i lay0).k=(ls.getD i lay0).k:=fun i hi=>by
  rw[List.length_append,List.length_singleton] at hi
  rw[getD_snoc]
  by_cases e:i<zs.length
  · rw[if_pos e];exact h i e
  · have:i=zs.length:=by omega
    subst this;rw[if_neg e,if_pos rfl];exact hL
theorem take_cut {a l:List Rat}{m:Nat}:a++l.take m++l.drop m=a++l:=by rw[List.append_assoc,List.take_append_drop]
def sumF (f:Nat→Rat):Nat→Rat
  | 0=>0
  | n+1=>sumF f n+f n
theorem sumF_congr {f g:Nat→Rat}{n:Nat}(h:∀ i,i<n→f i=g i):sumF f n=sumF g n:=by
  induction n with
  | zero=>rfl
  | succ n ih=>show sumF f n+f n=sumF g n+g n;rw[ih (fun i hi=>h i oM),h n oM]
theorem sumF_add (f g:Nat→Rat)(n:Nat):sumF (fun i=>f i+g i) n=sumF f n+sumF g n:=by
  induction n with
  | zero=>show (0:Rat)=0+0;rw[Rat.add_zero]
  | succ n ih=>show sumF (fun i=>f i+g i) n+(f n+g n)=(sumF f n+f n)+(sumF g n+g n);rw[ih];grind
theorem sumF_mul (c:Rat)(f:Nat→Rat)(n:Nat):sumF (fun i=>c*f i) n=c*sumF f n:=by
  induction n with
  | zero=>show (0:Rat)=c*0;rw[Rat.mul_zero]
  | succ n ih=>show sumF (fun i=>c*f i) n+c*f n=c*(sumF f n+f n);rw[ih];grind
theorem sumF_zero {f:Nat→Rat}{n:Nat}(h:∀ i,i<n→f i=0):sumF f n=0:=by
  induction n with
  | zero=>rfl
  | succ n ih=>show sumF f n+f n=0;rw[ih (fun i hi=>h i oM),h n oM,Rat.add_zero]
theorem sumF_swap (f:Nat→Nat→Rat)(m n:Nat):sumF (fun i=>sumF (f i) n) m=sumF (fun j=>sumF (fun i=>f i j) m) n:=by
  induction m with
  | zero=>exact (sumF_zero (fun _ _=>rfl)).symm
  | succ m ih =>
    show sumF (fun i=>sumF (f i) n) m+sumF (f m) n=_
    rw[ih,←sumF_add];rfl
theorem sumF_one {f:Nat→Rat}{n k:Nat}(hk:k<n)(h:∀ i,i<n→i≠k→f i=0):sumF f n=f k:=by
  induction n with
  | zero=>omega
  | succ n ih =>
    show sumF f n+f n=_
    by_cases e:k=n
    · subst e;rw[sumF_zero (fun i hi=>h i oM oM)];grind
    · rw[ih oM (fun i hi=>h i oM),h n oM (Ne.symm e),Rat.add_zero]
theorem dotq_sumF (a b:List Rat)(n:Nat):dotq a b n=sumF (fun i=>a.getD i 0*b.getD i 0) n:=by
  induction n with
  | zero=>rfl
  | succ n ih=>show dotq a b n+_=_;rw[ih];rfl
def slp (k:Int)(x:Rat):Rat:=if k=1 then 1 else if k=2 then (if 0<x then 1 else 0) else (((1:Int):Rat)/(((1:Int):Rat)+qabs x))*(((1:Int):Rat)/(((1:Int):Rat)+qabs x))
theorem one_abs_nz (x:Rat):((1:Int):Rat)+qabs x≠0:=fun e=>by
  have:=one_abs_pos x;rw[e] at this;exact absurd this kD
theorem slq_slp (k:Int)(x d:Rat):slq k x d=d*slp k x:=by
  unfold slq slp
  split
  · rw[Rat.mul_one]
  · split
    · split
      · rw[Rat.mul_one]
      · rw[Rat.mul_zero]
    · have h:=one_abs_nz x
      have h1:((1:Int):Rat)=1:=rfl;rw[h1] at h ⊢
      grind
theorem getD_mapR {α:Type}{n i:Nat}{f:Nat→α}{d:α}(h:i<n):((List.range n).map f).getD i d=f i:=by
  rw[List.getD_eq_getElem?_getD,List.getElem?_eq_getElem (by simpa using h)];simp
def inj (L:Lay)(x:List Rat)(q:Int)(r:Nat):Rat :=
  (if 0≤q-(r*x.length:Nat)∧q-(r*x.length:Nat)<(x.length:Nat) then x.getD (q-(r*x.length:Nat)).toNat 0 else 0)+(if q=(L.W.length*x.length+r:Nat) then 1 else 0)
def sumr (L:Lay)(x:List Rat)(r:Nat):Rat:=dotq (L.W.getD r []) x x.length+L.B.getD r 0
def tanl (L:Lay)(x dx:List Rat)(q:Int):List Rat:=(List.range L.W.length).map fun r=>slq L.k (sumr L x r) (dotq (L.W.getD r []) dx x.length+inj L x q r)
def atq (ls:List Lay)(xs:List Rat):Nat→Nat
  | 0=>0
  | k+1=>atq ls xs k+(ls.getD k lay0).W.length*(outq ls xs k).length+(ls.getD k lay0).W.length
def tanq (ls:List Lay)(xs:List Rat)(p:Int):Nat→List Rat
  | 0=>List.replicate xs.length 0
  | k+1=>tanl (ls.getD k lay0) (outq ls xs k) (tanq ls xs p k) (p-(atq ls xs k:Nat))
abbrev gT (ls:List Lay)(xs:List Rat)(p:Int)(k r:Nat):Rat:=dotq ((ls.getD k lay0).W.getD r []) (tanq ls xs p k) (outq ls xs k).length
def delq (L:Lay)(x bar:List Rat)(r:Nat):Rat:=bar.getD r 0*slp L.k (sumr L x r)
def downq (L:Lay)(x bar:List Rat):List Rat:=(List.range x.length).map fun j=>sumF (fun r=>delq L x bar r*(L.W.getD r []).getD j 0) L.W.length
def barq (ls:List Lay)(xs top:List Rat)(n:Nat):Nat→List Rat
  | 0=>top
  | t+1=>downq (ls.getD (n-1-t) lay0) (outq ls xs (n-1-t)) (barq ls xs top n t)
def conq (L:Lay)(x bar:List Rat)(q:Int):Rat:=sumF (fun r=>delq L x bar r*inj L x q r) L.W.length
theorem adj_step (L:Lay)(x dx bar:List Rat)(q:Int):dotq bar (tanl L x dx q) L.W.length=dotq (downq L x bar) dx x.length+conq L x bar q:=by
  have e1:dotq bar (tanl L x dx q) L.W.length=sumF (fun r=>sumF (fun c=>delq L x bar r*(L.W.getD r []).getD c 0*dx.getD c 0) x.length+delq L x bar r*inj L x q r) L.W.length:=by
    rw[dotq_sumF];refine sumF_congr (fun r hr=>?_)
    unfold tanl
    rw[getD_mapR hr,slq_slp,dotq_sumF];have:(fun c=>delq L x bar r*(L.W.getD r []).getD c 0*dx.getD c 0)=fun c=>delq L x bar r*((L.W.getD r []).getD c 0*dx.getD c 0):=by funext c;rw[Rat.mul_assoc]
    rw[this,sumF_mul]
    unfold delq;grind
  have e2:dotq (downq L x bar) dx x.length=sumF (fun c=>sumF (fun r=>delq L x bar r*(L.W.getD r []).getD c 0*dx.getD c 0) L.W.length) x.length:=by
    rw[dotq_sumF];refine sumF_congr (fun c hc=>?_)
    unfold downq
    rw[getD_mapR hc,Rat.mul_comm,←sumF_mul];exact sumF_congr (fun r _=>by grind)
  rw[e1,e2,sumF_add,sumF_swap];rfl
def conqs (ls:List Lay)(xs top:List Rat)(p:Int)(n:Nat)(t:Nat):Rat:=sumF (fun s=>conq (ls.getD (n-1-s) lay0) (outq ls xs (n-1-s)) (barq ls xs top n s) (p-(atq ls xs (n-1-s):Nat))) t
theorem adj_all {ls:List Lay}{d:Nat→Nat}(o:Net3 ls d){xs:List Rat}(hx:xs.length=d 0)(top:List Rat)(p:Int):∀ t,t≤ls.length →
    dotq top (tanq ls xs p ls.length) (d ls.length)=dotq (barq ls xs top ls.length t) (tanq ls xs p (ls.length-t)) (d (ls.length-t))+conqs ls xs top p ls.length t
  | 0,_=>by show _=dotq top _ _+0;rw[Rat.add_zero];rfl
  | t+1,ht=>by
    rw[adj_all o hx top p t oM];have e:ls.length-t=(ls.length-1-t)+1:=by omega
    have e2:ls.length-(t+1)=ls.length-1-t:=by omega
    obtain ⟨k,hk⟩:∃ k,k=ls.length-1-t:=⟨_,rfl⟩;have hkl:k<ls.length:=by omega
    have e3:=adj_step (ls.getD k lay0) (outq ls xs k) (tanq ls xs p k) (barq ls xs top ls.length t) (p-(atq ls xs k:Nat));rw[(o.lay k hkl).1.rows,outq_len o hx k oM] at e3
    rw[e,e2,←hk];have e4:tanq ls xs p (k+1)=tanl (ls.getD k lay0) (outq ls xs k) (tanq ls xs p k) (p-(atq ls xs k:Nat)):=rfl;rw[e4,e3];have e5:barq ls xs top ls.length (t+1)=downq (ls.getD k lay0) (outq ls xs k) (barq ls xs top ls.length t):=by rw[hk];rfl
    have e6:conqs ls xs top p ls.length (t+1)=conqs ls xs top p ls.length t+conq (ls.getD k lay0) (outq ls xs k) (barq ls xs top ls.length t) (p-(atq ls xs k:Nat)):=by rw[hk];rfl
    rw[e5,e6];grind
theorem dotq_rep (a:List Rat)(m n:Nat):dotq a (List.replicate m 0) n=0:=dotq_zero _ _ rep_zero _
theorem adj_row {ls:List Lay}{d:Nat→Nat}(o:Net3 ls d){xs:List Rat}(hx:xs.length=d 0)(top:List Rat)(p:Int):dotq top (tanq ls xs p ls.length) (d ls.length)=conqs ls xs top p ls.length ls.length:=by
  rw[adj_all o hx top p ls.length (Nat.le_refl _),Nat.sub_self]
  show dotq _ (List.replicate _ _) _+_=_
  rw[dotq_rep];grind
def accl (S L:Lay)(x bar:List Rat):Lay :=
  ⟨S.k,(List.range L.W.length).map fun r=>(List.range x.length).map fun c=>(S.W.getD r []).getD c 0+delq L x bar r*x.getD c 0,(List.range L.W.length).map fun r=>S.B.getD r 0+delq L x bar r⟩
theorem flat_getR {c:Nat}:∀ {W:List (List Rat)} {r:Nat},(∀ q∈W,q.length=c)→r<W.length→∀ j,j<c→W.flatten.getD (r*c+j) 0=(W.getD r []).getD j 0
  | [],r,_,hr,_,_=>by simp at hr
  | q::W,0,h,_,j,hj=>by
    rw[List.flatten_cons,Nat.zero_mul,Nat.zero_add,getD_app_,if_pos (by rw[h q (by simp)];exact hj)];rfl
  | q::W,r+1,h,hr,j,hj=>by
    have hq:=h q (by simp);rw[List.flatten_cons,getD_app_,if_neg (by rw[hq,Nat.add_mul];omega),hq,show (r+1)*c+j-c=r*c+j by rw[Nat.add_mul];omega];rw[flat_getR (fun x hx=>h x (by simp[hx])) (by simpa using hr) j hj];rfl
def layGet (L:Lay)(c:Nat)(q:Nat):Rat:=if q<L.W.length*c then (L.W.getD (q/c) []).getD (q%c) 0 else L.B.getD (q-L.W.length*c) 0
theorem flatL_get {L:Lay}{r c:Nat}(m:Mat L.W r c)(q:Nat):(flatL L).getD q 0=layGet L c q:=by
  unfold flatL layGet
  rw[getD_app_,flat_len m.mem]
  split
  · rename_i h
    have h1:q/c<L.W.length:=Nat.div_lt_of_lt_mul (by rw[Nat.mul_comm];exact h);have h2:q%c<c:=Nat.mod_lt _ m.cpos;have:=flat_getR m.mem h1 _ h2;rw[Nat.mul_comm,Nat.div_add_mod] at this
    exact this
  · rfl
theorem conq_in {S L:Lay}{x bar:List Rat}{r c:Nat}(m:Mat L.W r c)(hx:x.length=c)(q:Nat)(hq:q<r*c+r) :
    layGet (accl S L x bar) c q=layGet S c q+conq L x bar (q:Int)∨S.W.length≠r:=by
  by_cases hS:S.W.length=r
  · left
    have hr:=m.rows;have hc:=m.cpos
    unfold layGet accl
    simp only[List.length_map,List.length_range]
    rw[hr,hS]
    split
    · rename_i h
      have h1:q/c<r:=Nat.div_lt_of_lt_mul (by rw[Nat.mul_comm];exact h);have h2:q%c<c:=Nat.mod_lt _ hc;rw[getD_mapR h1,getD_mapR (by rw[hx];exact h2)]
      congr 1
      unfold conq
      rw[hr,sumF_one (k:=q/c) h1]
      · have e:(q:Int)-((q/c*x.length:Nat):Int)=((q%c:Nat):Int):=by
          rw[hx];have:=Nat.div_add_mod q c;rw[Nat.mul_comm] at this;omega
        unfold inj
        rw[e,hx,hr,if_pos ⟨by omega,by omega⟩,if_neg (fun e2=>by have e3:=Int.ofNat_inj.1 e2;have e4:=Nat.le_add_right (r*c) (q/c);omega),Rat.add_zero];rfl
      · intro i hi hne
        have e:¬(0≤(q:Int)-((i*x.length:Nat):Int)∧(q:Int)-((i*x.length:Nat):Int)<((x.length:Nat):Int)):=by
          rintro ⟨a,b⟩;rw[hx] at a b
          apply hne
          have a':i*c≤q:=by omega
          have b':q<(i+1)*c:=by rw[Nat.add_mul];omega
          exact (Nat.div_eq_of_lt_le a' b').symm
        unfold inj
        rw[if_neg e,hx,hr,if_neg (fun e2=>by have e3:=Int.ofNat_inj.1 e2;have e4:=Nat.le_add_right (r*c) i;omega),Rat.add_zero,Rat.mul_zero]
    · rename_i h
      have h1:q-r*c<r:=by omega
      rw[getD_mapR h1]
      congr 1
      unfold conq
      rw[hr,sumF_one (k:=q-r*c) h1]
      · unfold inj
        rw[hx,hr,if_neg (by
          rintro ⟨a,b⟩;have hle:((q-r*c)+1)*c≤r*c:=Nat.mul_le_mul_right _ oM;rw[Nat.add_mul] at hle
          omega),if_pos oM,Rat.zero_add,Rat.mul_one]
      · intro i hi hne
        unfold inj
        rw[hx,hr,if_neg (by
          rintro ⟨a,b⟩;have hle:(i+1)*c≤r*c:=Nat.mul_le_mul_right _ oM;rw[Nat.add_mul] at hle
          omega),if_neg oM,Rat.add_zero,Rat.mul_zero]
  · exact .inr hS
theorem conq_out {L:Lay}{x bar:List Rat}{r c:Nat}(m:Mat L.W r c)(hx:x.length=c)(q:Int)(hq:q<0∨((r*c+r:Nat):Int)≤q):conq L x bar q=0:=by
  have hr:=m.rows;refine sumF_zero (fun i hi=>?_);rw[hr] at hi
  have hle:(i+1)*c≤r*c:=Nat.mul_le_mul_right _ oM;rw[Nat.add_mul] at hle
  unfold inj
  rw[hx,hr,if_neg (by rintro ⟨a,b⟩;omega),if_neg oM,Rat.add_zero,Rat.mul_zero]
theorem sumF_succ' (f:Nat→Rat)(n:Nat):sumF f (n+1)=f 0+sumF (fun i=>f (i+1)) n:=by
  induction n with
  | zero=>show (0:Rat)+f 0=f 0+0;grind
  | succ n ih=>show sumF f (n+1)+f (n+1)=f 0+(sumF (fun i=>f (i+1)) n+f (n+1));rw[ih];grind
theorem sumF_rev (f:Nat→Rat)(n:Nat):sumF (fun s=>f (n-1-s)) n=sumF f n:=by
  induction n with
  | zero=>rfl
  | succ n ih =>
    rw[sumF_succ'];have e:sumF (fun i=>f (n+1-1-(i+1))) n=sumF (fun s=>f (n-1-s)) n:=sumF_congr (fun i hi=>by rw[show n+1-1-(i+1)=n-1-i by omega]);rw[e,ih]
    show f (n+1-1-0)+sumF f n=sumF f n+f n
    rw[show n+1-1-0=n by omega];grind
theorem flatq_get {zs:List Lay}{d:Nat→Nat}(s:Shp d zs)(p:Nat):∀ k,k≤zs.length→(flatq (zs.take k)).getD p 0=sumF (fun m=>if nums d m≤p∧p<nums d (m+1) then layGet (zs.getD m lay0) (d m) (p-nums d m) else 0) k
  | 0,_=>by simp[flatq];rfl
  | k + 1,hk=>by
    have ih:=flatq_get s p k oM;have hl:=s.take k oM;obtain ⟨m,hb⟩:=s k oM;have e:flatq (zs.take (k+1))=flatq (zs.take k)++flatL (zs.getD k lay0):=by rw[flatq_take oM,List.append_assoc];rfl
    show _=sumF _ k+(if nums d k≤p∧p<nums d (k+1) then layGet (zs.getD k lay0) (d k) (p-nums d k) else 0)
    rw[←ih,e,getD_app_,hl,flatL_get m];have hn:nums d (k+1)=nums d k+d (k+1)*d k+d (k+1):=rfl
    split
    · rename_i h
      rw[if_neg oM,Rat.add_zero]
    · rename_i h
      rw[getD_outR (l:=flatq (zs.take k)) oM]
      by_cases h2:p<nums d (k+1)
      · rw[if_pos ⟨by omega,h2⟩,Rat.zero_add]
      · rw[if_neg oM,Rat.add_zero]
        unfold layGet
        rw[m.rows,if_neg oM,getD_outR oM]
theorem atq_nums {ls:List Lay}{d:Nat→Nat}(o:Net3 ls d){xs:List Rat}(hx:xs.length=d 0):∀ k,k≤ls.length→atq ls xs k=nums d k
  | 0,_=>rfl
  | k+1,hk=>by
    show atq ls xs k+_*_+_=nums d k+_*_+_
    rw[atq_nums o hx k oM,outq_len o hx k oM,(o.lay k oM).1.rows]
def accn (ls zs:List Lay)(xs top:List Rat):List Lay:=(List.range ls.length).map fun m=>accl (zs.getD m lay0) (ls.getD m lay0) (outq ls xs m) (barq ls xs top ls.length (ls.length-1-m))
theorem accl_shp {S L:Lay}{x bar:List Rat}{r c:Nat}(m:Mat L.W r c)(hx:x.length=c):Mat (accl S L x bar).W r c∧(accl S L x bar).B.length=r:=by
  refine ⟨⟨by simp[accl,m.rows],m.rpos,m.cpos,fun i hi=>?_⟩,by simp[accl,m.rows]⟩
  show ((List.map _ _).getD i []).length=c
  rw[getD_mapR (by rw[m.rows];exact hi),List.length_map,List.length_range];exact hx
theorem accn_len {ls zs:List Lay}{xs top:List Rat}:(accn ls zs xs top).length=ls.length:=by simp[accn]
theorem accn_at {ls zs:List Lay}{xs top:List Rat}{m:Nat}(h:m<ls.length):(accn ls zs xs top).getD m lay0=accl (zs.getD m lay0) (ls.getD m lay0) (outq ls xs m) (barq ls xs top ls.length (ls.length-1-m)):=getD_mapR h
theorem accn_shp {ls zs:List Lay}{d:Nat→Nat}(o:Net3 ls d){xs:List Rat}(hx:xs.length=d 0)(top:List Rat):Shp d (accn ls zs xs top):=fun i hi=>by
  rw[accn_len] at hi
  rw[accn_at hi];exact accl_shp (o.lay i hi).1 (outq_len o hx i oM)
theorem accn_get {ls zs:List Lay}{d:Nat→Nat}(o:Net3 ls d){xs:List Rat}(hx:xs.length=d 0)(top:List Rat)(s:Shp d zs)(hz:zs.length=ls.length)(p:Nat) :
    (flatq (accn ls zs xs top)).getD p 0=(flatq zs).getD p 0+conqs ls xs top (p:Int) ls.length ls.length:=by
  have h1:=flatq_get (accn_shp (zs:=zs) o hx top) p ls.length (by rw[accn_len];omega);have h2:=flatq_get s p ls.length oM;rw[List.take_of_length_le (by rw[accn_len];omega)] at h1
  rw[List.take_of_length_le oM] at h2
  have h3:conqs ls xs top (p:Int) ls.length ls.length=sumF (fun m=>conq (ls.getD m lay0) (outq ls xs m) (barq ls xs top ls.length (ls.length-1-m)) ((p:Int)-(nums d m:Nat))) ls.length:=by
    unfold conqs
    rw[←sumF_rev (fun m=>conq (ls.getD m lay0) (outq ls xs m) (barq ls xs top ls.length (ls.length-1-m)) ((p:Int)-(nums d m:Nat)))];refine sumF_congr (fun i hi=>?_);rw[atq_nums o hx _ oM,show ls.length-1-(ls.length-1-i)=i by omega]
  rw[h1,h2,h3,←sumF_add];refine sumF_congr (fun m hm=>?_);have hn:nums d (m+1)=nums d m+d (m+1)*d m+d (m+1):=rfl;have hM:=(o.lay m hm).1;have hX:=outq_len o hx m oM
  by_cases hp:nums d m≤p∧p<nums d (m+1)
  · rw[if_pos hp,if_pos hp,accn_at hm]
    have e:(p:Int)-(nums d m:Nat)=((p-nums d m:Nat):Int):=by omega
    rw[e]
    rcases conq_in (S:=zs.getD m lay0) (bar:=barq ls xs top ls.length (ls.length-1-m)) hM hX (p-nums d m) oM with h|h
    · exact h
    · exact absurd (s m oM).1.rows h
  · rw[if_neg hp,if_neg hp,conq_out hM hX _ oM,Rat.add_zero]
def topq (z y:List Rat):List Rat:=(List.range z.length).map fun i=>(z.getD i 0-y.getD i 0)*((2:Int):Rat)
def gradN (ls z0:List Lay)(xss yss:List (List Rat)):Nat→List Lay
  | 0=>z0
  | r+1=>accn ls (gradN ls z0 xss yss r) (xss.getD r []) (topq (outq ls (xss.getD r []) ls.length) (yss.getD r []))
def gradP (ls:List Lay)(xss yss:List (List Rat))(p:Nat)(r:Nat):Rat :=
  sumF (fun i=>dotq (topq (outq ls (xss.getD i []) ls.length) (yss.getD i [])) (tanq ls (xss.getD i []) (p:Int) ls.length) (outq ls (xss.getD i []) ls.length).length) r
theorem gradN_shp {ls z0:List Lay}{d:Nat→Nat}(o:Net3 ls d){xss yss:List (List Rat)}(hx:∀ i,i<xss.length→(xss.getD i []).length=d 0)(s:Shp d z0)(hz:z0.length=ls.length):∀ r,r≤xss.length→Shp d (gradN ls z0 xss yss r)∧(gradN ls z0 xss yss r).length=ls.length
  | 0,_=>⟨s,hz⟩
  | r+1,h=>⟨accn_shp o (hx r oM) _,accn_len⟩
theorem gradN_get {ls z0:List Lay}{d:Nat→Nat}(o:Net3 ls d){xss yss:List (List Rat)}(hx:∀ i,i<xss.length→(xss.getD i []).length=d 0)(s:Shp d z0)(hz:z0.length=ls.length)(h0:∀ p,(flatq z0).getD p 0=0)(p:Nat) :
    ∀ r,r≤xss.length→(flatq (gradN ls z0 xss yss r)).getD p 0=gradP ls xss yss p r
  | 0,_=>h0 p
  | r+1,h=>by
    obtain ⟨h1,h2⟩:=gradN_shp (yss:=yss) o hx s hz r oM
    show (flatq (accn _ _ _ _)).getD p 0=_
    rw[accn_get o (hx r oM) _ h1 h2,gradN_get o hx s hz h0 p r oM]
    show _=gradP ls xss yss p r+dotq (topq (outq ls (xss.getD r []) ls.length) (yss.getD r [])) (tanq ls (xss.getD r []) (p:Int) ls.length) (outq ls (xss.getD r []) ls.length).length
    rw[outq_len o (hx r oM) _ (Nat.le_refl _),adj_row o (hx r oM)]
theorem gradN_flat {ls z0:List Lay}{d:Nat→Nat}(o:Net3 ls d){xss yss:List (List Rat)}(hx:∀ i,i<xss.length→(xss.getD i []).length=d 0)(s:Shp d z0)(hz:z0.length=ls.length)(h0:∀ p,(flatq z0).getD p 0=0) :
    flatq (gradN ls z0 xss yss xss.length)=(List.range (flatq ls).length).map fun p=>gradP ls xss yss p xss.length:=by
  obtain ⟨h1,h2⟩:=gradN_shp (yss:=yss) o hx s hz xss.length (Nat.le_refl _);have e1:=h1.size;have e2:=(net_shp o).size;rw[h2] at e1
  refine List.ext_getElem (by simp[e1,e2]) (fun p a b=>?_);have:=gradN_get o hx s hz h0 (yss:=yss) p xss.length (Nat.le_refl _);rw[List.getD_eq_getElem?_getD,List.getElem?_eq_getElem a] at this
  simp only[List.getElem_map,List.getElem_range]
  exact this
theorem sign_bd' (z:Int) : -1≤z.sign∧z.sign≤1:=by
  rcases Int.lt_trichotomy z 0 with h|h|h
  · rw[Int.sign_eq_neg_one_of_neg h];decide
  · rw[h];decide
  · rw[Int.sign_eq_one_of_pos h];decide
theorem slp1 (u:Rat):slp 1 u=((1:Int):Rat):=by unfold slp;rw[if_pos rfl];rfl
theorem slp2 (u:Rat):slp 2 u=((max u.num.sign 0:Int):Rat):=by
  unfold slp
  rw[if_neg kD,if_pos rfl]
  by_cases h:0<u
  · rw[if_pos h,Int.sign_eq_one_of_pos (num_pos'.1 h)];rfl
  · have h2:¬0<u.num:=fun x=>h (num_pos'.2 x)
    have h3:max u.num.sign 0=0:=by
      rcases Int.lt_trichotomy u.num 0 with g|g|g
      · rw[Int.sign_eq_neg_one_of_neg g];decide
      · rw[g];decide
      · exact absurd g h2
    rw[if_neg h,h3];rfl
theorem slp3 (u:Rat):slp 3 u=(((1:Int):Rat)/(((1:Int):Rat)+qabs u))*(((1:Int):Rat)/(((1:Int):Rat)+qabs u)):=by unfold slp;rw[if_neg kD,if_neg kD]
theorem LQ.slp {m:Nat}{u:Rat}(k:Int)(h:LQ m u):LQ (2*m+6) (slp k u):=by
  unfold Go.Proofs.YtmkcmnhnmajheaaGreatDoor.slp
  split
  · exact (LQ.lit (z:=1) kD).mono oM
  · split
    · split
      · exact (LQ.lit (z:=1) kD).mono oM
      · exact lq0 oM
    · have h1:LQ 1 (((1:Int):Rat)):=LQ.lit (z:=1) kD
      have h2:=h1.div (h1.add h.abs);exact (h2.mul h2).mono oM
def fitE (nx wx ny wy d0 dn:Nat):Int:=if 1≤nx∧nx≤300∧ny=nx∧wx=d0∧wy=dn then 0 else 5
theorem fitE0 {nx wx ny wy d0 dn:Nat}(h:1≤nx∧nx≤300∧ny=nx∧wx=d0∧wy=dn):fitE nx wx ny wy d0 dn=0:=if_pos h
theorem fitE5 {nx wx ny wy d0 dn:Nat}(h:¬(1≤nx∧nx≤300∧ny=nx∧wx=d0∧wy=dn)):fitE nx wx ny wy d0 dn=5:=if_neg h
noncomputable def netE (ls:List Lay)(nx wx ny wy:Nat):Int:=if chkq ls=0 then fitE nx wx ny wy (dOf ls 0) (dOf ls ls.length) else 1
theorem netE_0 {ls:List Lay}{nx wx ny wy:Nat}(h:chkq ls=0):netE ls nx wx ny wy=fitE nx wx ny wy (dOf ls 0) (dOf ls ls.length):=if_pos h
theorem netE_1 {ls:List Lay}{nx wx ny wy:Nat}(h:chkq ls≠0):netE ls nx wx ny wy=1:=if_neg h
theorem netE0 {ls:List Lay}{nx wx ny wy:Nat}(h:netE ls nx wx ny wy=0):chkq ls=0∧1≤nx∧ny=nx∧wx=dOf ls 0∧wy=dOf ls ls.length:=by
  by_cases c:chkq ls=0
  · rw[netE_0 c] at h
    by_cases g:1≤nx∧nx≤300∧ny=nx∧wx=dOf ls 0∧wy=dOf ls ls.length
    · exact ⟨c,g.1,g.2.2.1,g.2.2.2.1,g.2.2.2.2⟩
    · rw[fitE5 g] at h;exact absurd h kD
  · rw[netE_1 c] at h;exact absurd h kD
def rowloss (z y:List Rat):Nat→Rat
  | 0=>0
  | j+1=>rowloss z y j+(z.getD j 0-y.getD j 0)*(z.getD j 0-y.getD j 0)
def lossq (ls:List Lay)(xss yss:List (List Rat)):Nat→Rat
  | 0=>0
  | r+1=>lossq ls xss yss r+rowloss (outq ls (xss.getD r []) ls.length) (yss.getD r []) (outq ls (xss.getD r []) ls.length).length
theorem nSlp1 (u:Rat)(w:World)(h:Hp)(g:G w h):CV 182 #[iV 1,qv u] w h (qv ((1:Int):Rat)):=by
 have hs:=sS g;refine go Tryz.func182 [(0,iV 1),(1,qv u)] rfl (cSL (lA 3 55 (qc u) hs (fun b1 w2 h3 hs=>lA 4 55 ([qF,uV 0,eS,uV 0,eS]) hs (fun b4 w5 h6 hs=>lN (cQ (cSL (lL hs [.m 7 0] (lN (kZ (cSL (lL hs [.v 9 qF,.m 8 9] (lN (cIF (cSL (lL hs [.v 15 qF,.m 14 15] (lN (cIF (cK (cSL (lC 28 hs (fOf 1 oM oM _ _ hs.g) ?_))))))))))))))))))));rintro _ w7 h8 hs rfl;exact lP 0 0 (qc ((1:Int):Rat)) hs (fun w9 hs=>lN (kX (hs.ret [(0,0,5)] (qv ((1:Int):Rat)) rfl)))
theorem nSlp2 (u:Rat)(hu:LQ 45000000 u)(w:World)(h:Hp)(g:G w h):CV 182 #[iV 2,qv u] w h (qv ((max u.num.sign 0:Int):Rat)):=by
 have hs:=sS g;have hsg:=sign_bd' u.num;refine go Tryz.func182 [(0,iV 2),(1,qv u)] rfl (cSL (lA 3 55 (qc u) hs (fun b1 w2 h3 hs=>lA 4 55 ([qF,uV 0,eS,uV 0,eS]) hs (fun b4 w5 h6 hs=>lN (cQ (cSL (lL hs [.m 7 0] (lN (kZ (cSL (lL hs [.v 9 qT,.m 8 9] (lN (cIT (cSL (lL hs [.o 10 (qv u) 1 0 5] (lC 11 hs (fSign u (LQ.mono hu oM) _ _ hs.g) ?_))))))))))))))));rintro _ w7 h8 hs rfl;refine lV 12 (iV (max (u.num.sign:Int) (0:Int))) ?_ (hr:=rint (n:=(if (0:Int)>(u.num.sign:Int) then (0:Int) else (u.num.sign:Int))) kR (by simp only[imax2]));have hq9:LQ (1) (((max (u.num.sign:Int) (0:Int):Int):Rat)):=LQ.int oM oM;refine lC 13 hs (fOf (max (u.num.sign:Int) (0:Int)) oM oM _ _ hs.g) ?_;rintro _ _ _ hs rfl;exact lP 0 0 (qc ((max (u.num.sign:Int) (0:Int):Int):Rat)) hs (fun _ hs=>lN (kX (hs.ret [(0,0,5)] (qv ((max (u.num.sign:Int) (0:Int):Int):Rat)) rfl)))
theorem nSlp3 (u:Rat)(hu:LQ 45000000 u)(w:World)(h:Hp)(g:G w h)(tb:Tab h):CV 182 #[iV 3,qv u] w h (qv ((((1:Int):Rat)/(((1:Int):Rat)+qabs u))*(((1:Int):Rat)/(((1:Int):Rat)+qabs u)))):=by
 have hs:=((sS g).aB tb);refine go Tryz.func182 [(0,iV 3),(1,qv u)] rfl (cSL (lA 3 55 (qc u) hs (fun b1 w2 h3 hs=>lA 4 55 ([qF,uV 0,eS,uV 0,eS]) hs (fun b4 w5 h6 hs=>lN (cQ (cSL (lL hs [.m 7 0] (lN (kZ (cSL (lL hs [.v 9 qF,.m 8 9] (lN (cIF (cSL (lL hs [.v 15 qT,.m 14 15] (lN (cIT (cQ ?_))))))))))))))))));have hsr:=hs;refine cR 10 [⟨9,5,.cells (List.toArray [qF,uV 0,eS,uV 0,eS]) 55 (0,0)⟩] mixed hs (al_cons (alOk kR (fun _ _=>by kernel_rfl)) al_nil) (eO 2 19 [(1,0,5)] (qv u) hs (eC 0 17 hs (fun _ _ hs=>fOf 1 oM oM _ _ hs.g) ?_));rintro _ _ _ w7 h8 hs rfl;refine eC 1 18 hs (fun _ _ hs=>fOf 1 oM oM _ _ hs.g) ?_;rintro _ _ _ w9 _ hs rfl;have zb:LQ (45000000) (qabs u):=LQ.abs hu;refine eC 3 20 hs (fun _ _ hs=>fAbs u (LQ.mono hu oM) _ _ hs.g) ?_;rintro _ _ _ _ _ hs rfl;have zc:=LQ.add (LQ.lit (z:=1) kD) zb;refine eC 4 21 hs (fun _ _ hs=>fAdd ((1:Int):Rat) (qabs u) (LQ.mono (LQ.lit (z:=1) kD) oM) (LQ.mono zb oM) _ _ hs.g hs.f.1) ?_;rintro _ _ _ _ _ hs rfl;have za:=LQ.div (LQ.lit (z:=1) kD) zc;refine eC 5 22 hs (fun _ _ hs=>fDivN ((1:Int):Rat) (((1:Int):Rat)+(qabs u)) (LQ.mono (LQ.lit (z:=1) kD) oM) (LQ.mono zc oM) (one_abs_ne u) _ _ hs.g hs.f.1) ?_;rintro _ _ _ _ _ hs rfl;refine eV 6 16 (.tuple #[qv (((1:Int):Rat)/(((1:Int):Rat)+(qabs u))),qT]) (eV 7 23 (qv (((1:Int):Rat)/(((1:Int):Rat)+(qabs u)))) (eV 8 24 qT (eD1p [] hsr hs 55 [qF,uV 0,eS,uV 0,eS] (fun _ _ b22 hs=>tP 10 0 0 (qc (((1:Int):Rat)/(((1:Int):Rat)+(qabs u)))) hs (fun _ hs=>tV 11 6 qT (tNS (lL hs [.o 25 (qv (((1:Int):Rat)/(((1:Int):Rat)+(qabs u)))) 0 0 5,.o 26 (qv (((1:Int):Rat)/(((1:Int):Rat)+(qabs u)))) 0 0 5] ?_)))))));have hq24:=LQ.mul za za;refine lC 27 hs (fMul (((1:Int):Rat)/(((1:Int):Rat)+(qabs u))) (((1:Int):Rat)/(((1:Int):Rat)+(qabs u))) (LQ.mono za oM) (LQ.mono za oM) _ _ hs.g hs.f.1) ?_;rintro _ _ _ hs rfl;exact lP 1 0 (qc ((((1:Int):Rat)/(((1:Int):Rat)+(qabs u)))*(((1:Int):Rat)/(((1:Int):Rat)+(qabs u))))) hs (fun _ hs=>lN (kX (hs.ret [(1,0,5)] (qv ((((1:Int):Rat)/(((1:Int):Rat)+(qabs u)))*(((1:Int):Rat)/(((1:Int):Rat)+(qabs u))))) rfl)))
theorem nSlope (k:Int)(hk:k=1∨k=2∨k=3)(u:Rat)(hu:LQ 45000000 u)(w:World)(h:Hp)(g:G w h)(tb:Tab h):CV 182 #[iV k,qv u] w h (qv (slp k u)):=by
  rcases hk with rfl|rfl|rfl
  · rw[slp1];exact nSlp1 u w h g
  · rw[slp2];exact nSlp2 u hu w h g
  · rw[slp3];exact nSlp3 u hu w h g tb
theorem nSuits (A:Option Addr)(cap:Nat)(ts:List LV)(ls:List Lay)(d:Nat→Nat)(hO:Net3 ls d)(X:Option Addr)(c0:Nat)(xs:List Rat)(w:World)(h:Hp)(g:G w h)(hA:Sl A ts h)(hN:NetL h ts ls)(hX:Sq X xs h):CV 136 #[.agg #[.slice A ts.length cap],.slice X xs.length c0] w h (.bool (decide (xs.length=d 0))):=by
  by_cases e:xs.length=d 0
  · rw[decide_eq_true e];exact nSuitsT A cap ts ls d hO X c0 xs e w h g hA hN hX
  · rw[decide_eq_false e];exact nSuitsF A cap ts ls d hO X c0 xs e w h g hA hN hX
theorem nFits (A:Option Addr)(cap:Nat)(ts:List LV)(ls:List Lay)(d:Nat→Nat)(hO:Net3 ls d)(X:Option Addr)(cX:Nat)(ux:List Value)(xss:List (List Rat))(Y:Option Addr)(cY:Nat)(uy:List Value)(yss:List (List Rat))(wx wy:Nat)(hxw:∀ i,i<xss.length→(xss.getD i []).length=wx)(hyw:∀ i,i<yss.length→(yss.getD i []).length=wy)(w:World)(h:Hp)(g:G w h)(hA:Sl A ts h)(hN:NetL h ts ls)(hX:Sv X ux h)(hU:QVs h ux xss)(hY:Sv Y uy h)(hV:QVs h uy yss):CV 134 #[.agg #[.slice A ts.length cap],.slice X ux.length cX,.slice Y uy.length cY] w h (iV (fitE xss.length wx yss.length wy (d 0) (d ls.length))):=by
 have hs:=(((((((sS g).aS hA).aN hN).aS hX).aQ hU).aS hY).aQ hV);have hl:=(hs.f.q.1).len;obtain ⟨o1,o2⟩:=hO.len;have o3:=hO.first;have hux:=(hs.f.r.1).len;have huy:=(hs.f.1).len;refine go Tryz.func134 [(0,.agg #[qS A ts.length cap]),(1,qS X ux.length cX),(2,qS Y uy.length cY)] rfl (cSL (lA 3 74 ([qS A ts.length cap]) hs (fun b1 w2 h3 hs=>lL hs [.v 6 (iV 0)] (lN (cQ (cSL (lL hs [.m 9 1,.v 10 (nV ux.length)] ?_)))))));cases hb4:(decide ((ux.length:Int)<(1:Int)))
 ·
  have phb4:=oF hb4;refine lB 11 hb4 (lL hs [.m 12 11,.m 13 1,.v 14 (nV ux.length)] ?_);cases hb5:(decide ((300:Int)<(ux.length:Int)))
  ·
   have phb5:=oF hb5;refine lB 15 hb5 (lL hs [.v 16 qF,.m 17 16,.m 18 2,.v 19 (nV uy.length),.m 20 1,.v 21 (nV ux.length)] ?_);cases hb6:((uy.length:Int) != (ux.length:Int))
   ·
    have phb6:=eqOfBne hb6;refine lB 22 hb6 (lL hs [.v 23 qF] (lN (cIF (cK (cSL (lL hs [.v 24 (pB b1),.o 25 (qS A ts.length cap) 0 0 1,.v 26 (pB b1),.o 27 (qS A ts.length cap) 0 0 1,.v 28 (nV ts.length)] (lIn 29 ((ts.length:Nat)-1) (ts.length-1) ?_)))))));refine lX 30 A ts.length cap 3 (ts.length-1:Nat) (ts.length-1) ((hs.f.q.2.1).ok oM) (lL hs [.v 31 (.pointer (some ⟨(aB A),aO A+(ts.length-1)*3+1,none⟩))] ?_);obtain ⟨ekz,⟨AWz,cWz,usz,eWz,hcWz,hAWz,hUz⟩,⟨ABz,cBz,eBz,hcBz,hABz⟩⟩:=(hs.f.q.1).at_ (ts.length-1) oM;obtain ⟨mtz,lbz,r12z,kdz⟩:=hO.lay (ts.length-1) oM;have luz:=hUz.len;have mrz:=mtz.rows;have mpz:=mtz.rpos;have mcz:=mtz.cpos;have m0z:=mtz.row 0 oM;replace hs:=(((hs.aS hAWz).aQ hUz).aS hABz);refine lHe 32 ((ts.getD (ts.length-1) lvd).2.1) hs (((hs.f.q.q.1).el (ts.length-1) oM).part 1 1) eWz ?_;have hdl:d (ts.length-1+1)=d ls.length:=by rw[show ts.length-1+1=ls.length by omega]
    refine lL hs [.v 33 (nV usz.length),.m 7 33] (lN (cQ (cSL (lL hs [.m 34 1,.v 35 (nV ux.length),.v 36 (iV 0)] (lN (kZ ?_))))));refine cTo _ (CG.loop (fun μ_ Γ w_=>∃ (r:Nat) (h_:Hp),μ_=xss.length-r∧Γ=[(1,qS X ux.length cX),(2,qS Y uy.length cY),(3,pB b1),(7,nV usz.length),(35,nV ux.length),(36,nV r)]∧SS w h w_ h_ [⟨b1,74,[qS A ts.length cap]⟩] [] [Sq ABz (ls.getD (ts.length-1) lay0).B,Qu usz (ls.getD (ts.length-1) lay0).W,Sv AWz usz,Qu uy yss,Sv Y uy,Qu ux xss,Sv X ux,Nn ts ls,Sl A ts]∧r≤xss.length∧(0<r→wx=d 0∧wy=d ls.length)) _ ⟨0,h3,rfl,rfl,hs.to _ _,Nat.zero_le _,fun h0=>absurd h0 (Nat.lt_irrefl 0)⟩ ?_);rintro _ _ w7 ⟨r,h8,hm9,rfl,hs,hr,hok⟩;refine cSL ?_;cases za:(decide ((r:Int)<(ux.length:Int)))
    ·
     have zd:=oF za;refine lB 37 za (lN (cQ (cIF (CG.exit ?_))))
     show CG _ _ _ _ _ _ _ _
     exact cSL (lL hs [.v 6 (iV 0)] (lN (kX (hs.ret [] (iV 0) (by rw[fitE0 oM])))))
    have zd:=oT za;refine lB 37 za (lN (cQ (cIT (cK (cQ (kZ (cSL (lL hs [.m 38 36,.m 8 38] (lN (cQ (cR 16 [] mixed hs al_nil ?_)))))))))));have hxl:=hxw r oM;have hyl:=hyw r oM;refine eO 0 39 [(0,0,1)] (.agg #[qS A ts.length cap]) hs (eV 1 40 (qS X ux.length cX) (eV 2 41 (nV r) (eX 3 42 X ux.length cX 1 (r:Nat) r ((hs.f.q.r.1).ok oM) ?_)));obtain ⟨Aqx,cqx,eqx,hcqx,hRqx⟩:=(hs.f.q.2.1).at_ r oM;replace hs:=hs.aS hRqx;refine eHe 4 43 (ux.getD r undef) hs ((hs.f.q.r.2.1).el r oM) eqx (eC 5 44 hs (fun _ _ hs=>nSuits A cap ts ls d hO Aqx cqx (xss.getD r []) _ _ hs.g hs.f.q.q.2.1 hs.f.q.q.1 hs.f.1) ?_);rintro _ _ _ _ _ hs rfl;cases zc:(decide ((xss.getD r []).length=d 0))
    ·
     have ze:=oF zc;exact eV 6 45 qT (eV 7 46 qT (eG 8 47 (eG 9 48 (eG 10 49 (eG 11 50 (eG 12 51 (eG 13 52 (eG 14 53 (eV 15 54 qT (eD0 hs (fun _ _ hs=>tN (cIT (cSL (lL hs [.v 6 (iV 5)] (lN (kX (hs.ret [] (iV 5) (by rw[fitE5 oM]))))))))))))))))))
    have ze:=oT zc;refine eV 6 45 qF (eV 7 46 qF (eV 8 47 (qS Y uy.length cY) (eV 9 48 (nV r) (eX 10 49 Y uy.length cY 1 (r:Nat) r ((hs.f.q.2.1).ok oM) ?_))));obtain ⟨Aqy,cqy,eqy,hcqy,hRqy⟩:=(hs.f.q.1).at_ r oM;replace hs:=hs.aS hRqy;refine eHe 11 50 (uy.getD r undef) hs ((hs.f.q.r.1).el r oM) eqy (eV 12 51 (nV ((yss.getD r []).length)) (eV 13 52 (nV usz.length) ?_));cases zb:((((yss.getD r []).length:Nat):Int) != (usz.length:Int))
    ·
     have zf:=eqOfBne zb;refine eB 14 53 zb (eV 15 54 qF (eD0 hs (fun _ zg hs=>tN (cIF (cK (kQ (lIn 55 ((r:Nat)+1) (r+1) ?_)))))));refine lL hs [.m 36 55] (lD ?_);intro a_ ka;replace hs:=hs.tl.tl;refine ⟨_,_,?_,⟨r+1,zg,rfl,rfl,hs.to _ _,oM,(fun _=>by omega)⟩,ka.to _ kR⟩
     omega
    have zf:=neOfBne zb;exact eB 14 53 zb (eV 15 54 qT (eD0 hs (fun _ _ hs=>tN (cIT (cSL (lL hs [.v 6 (iV 5)] (lN (kX (hs.ret [] (iV 5) (by rw[fitE5 oM]))))))))))
   have phb6:=neOfBne hb6;exact lB 22 hb6 (lL hs [.v 23 qT] (lN (cIT (cSL (lL hs [.v 6 (iV 5)] (lN (kX (hs.ret [] (iV 5) (by rw[fitE5 oM])))))))))
  have phb5:=oT hb5;refine lB 15 hb5 (lL hs [.v 16 qT,.m 17 16] (lG 18 ?_));exact lG 19 (lG 20 (lG 21 (lG 22 (lL hs [.v 23 qT] (lN (cIT (cSL (lL hs [.v 6 (iV 5)] (lN (kX (hs.ret [] (iV 5) (by rw[fitE5 oM]))))))))))))
 have phb4:=oT hb4;refine lB 11 hb4 (lL hs [.m 12 11] (lG 13 ?_));refine lG 14 (lG 15 (lL hs [.v 16 qT,.m 17 16] (lG 18 ?_)));exact lG 19 (lG 20 (lG 21 (lG 22 (lL hs [.v 23 qT] (lN (cIT (cSL (lL hs [.v 6 (iV 5)] (lN (kX (hs.ret [] (iV 5) (by rw[fitE5 oM]))))))))))))
theorem nRefused1 (A:Option Addr)(cap:Nat)(ts:List LV)(ls:List Lay)(hn:ls.length≤1000000)(hF:∀ i,i<ls.length→LayLen (ls.getD i lay0))(X:Option Addr)(cX:Nat)(ux:List Value)(xss:List (List Rat))(Y:Option Addr)(cY:Nat)(uy:List Value)(yss:List (List Rat))(wx wy:Nat)(hxw:∀ i,i<xss.length→(xss.getD i []).length=wx)(hyw:∀ i,i<yss.length→(yss.getD i []).length=wy)(h1:chkq ls≠0)(w:World)(h:Hp)(g:G w h)(hA:Sl A ts h)(hN:NetL h ts ls)(hX:Sv X ux h)(hU:QVs h ux xss)(hY:Sv Y uy h)(hV:QVs h uy yss):CV 72 #[.agg #[.slice A ts.length cap],.slice X ux.length cX,.slice Y uy.length cY] w h (iV 1):=by
 have hs:=(((((((sS g).aS hA).aN hN).aS hX).aQ hU).aS hY).aQ hV);refine go Tryz.func72 [(0,.agg #[qS A ts.length cap]),(1,qS X ux.length cX),(2,qS Y uy.length cY)] rfl (cSL (lA 3 74 ([qS A ts.length cap]) hs (fun b1 w2 h3 hs=>lL hs [.v 6 (iV 0)] (lN (cQ (cSL (lL hs [.o 7 (.agg #[qS A ts.length cap]) 0 0 1] (lC 8 hs (nCheckG A cap ts ls hn hF _ _ hs.g hs.f.q.2.1 hs.f.q.1) ?_))))))));rintro _ w4 h5 hs rfl;have hb6:((chkq ls:Int) != (0:Int))=true:=bneT h1;have phb6:=neOfBne hb6;exact lB 9 hb6 (lN (cIT (cSL (lL hs [.v 6 (iV 1)] (lN (kX (hs.ret [] (iV 1) rfl)))))))
theorem nRefused0 (A:Option Addr)(cap:Nat)(ts:List LV)(ls:List Lay)(hn:ls.length≤1000000)(hF:∀ i,i<ls.length→LayLen (ls.getD i lay0))(X:Option Addr)(cX:Nat)(ux:List Value)(xss:List (List Rat))(Y:Option Addr)(cY:Nat)(uy:List Value)(yss:List (List Rat))(wx wy:Nat)(hxw:∀ i,i<xss.length→(xss.getD i []).length=wx)(hyw:∀ i,i<yss.length→(yss.getD i []).length=wy)(h1:chkq ls=0)(w:World)(h:Hp)(g:G w h)(hA:Sl A ts h)(hN:NetL h ts ls)(hX:Sv X ux h)(hU:QVs h ux xss)(hY:Sv Y uy h)(hV:QVs h uy yss):CV 72 #[.agg #[.slice A ts.length cap],.slice X ux.length cX,.slice Y uy.length cY] w h (iV (fitE xss.length wx yss.length wy (dOf ls 0) (dOf ls ls.length))):=by
 have hs:=(((((((sS g).aS hA).aN hN).aS hX).aQ hU).aS hY).aQ hV);refine go Tryz.func72 [(0,.agg #[qS A ts.length cap]),(1,qS X ux.length cX),(2,qS Y uy.length cY)] rfl (cSL (lA 3 74 ([qS A ts.length cap]) hs (fun b1 w2 h3 hs=>lL hs [.v 6 (iV 0)] (lN (cQ (cSL (lL hs [.o 7 (.agg #[qS A ts.length cap]) 0 0 1] (lC 8 hs (nCheckG A cap ts ls hn hF _ _ hs.g hs.f.q.2.1 hs.f.q.1) ?_))))))));rintro _ w4 h5 hs rfl;have hb6:((chkq ls:Int) != (0:Int))=false:=bneF' h1;have phb6:=eqOfBne hb6;refine lB 9 hb6 (lN (cIF (cK (cSL (lL hs [.o 10 (.agg #[qS A ts.length cap]) 0 0 1,.m 11 1,.m 12 2] (lC 13 hs (nFits A cap ts ls (dOf ls) (chk_net3 h1) X cX ux xss Y cY uy yss wx wy hxw hyw _ _ hs.g hs.f.q.2.1 hs.f.q.1 hs.f.r.2.1 hs.f.r.1 hs.f.2.1 hs.f.1) ?_))))));rintro _ w7 h8 hs rfl;exact lL hs [.m 6 13] (lN (kX (hs.ret [] (iV (fitE xss.length wx yss.length wy (dOf ls 0) (dOf ls ls.length))) rfl)))
theorem nRefused (A:Option Addr)(cap:Nat)(ts:List LV)(ls:List Lay)(hn:ls.length≤1000000)(hF:∀ i,i<ls.length→LayLen (ls.getD i lay0))(X:Option Addr)(cX:Nat)(ux:List Value)(xss:List (List Rat))(Y:Option Addr)(cY:Nat)(uy:List Value)(yss:List (List Rat))(wx wy:Nat)(hxw:∀ i,i<xss.length→(xss.getD i []).length=wx)(hyw:∀ i,i<yss.length→(yss.getD i []).length=wy)(w:World)(h:Hp)(g:G w h)(hA:Sl A ts h)(hN:NetL h ts ls)(hX:Sv X ux h)(hU:QVs h ux xss)(hY:Sv Y uy h)(hV:QVs h uy yss):CV 72 #[.agg #[.slice A ts.length cap],.slice X ux.length cX,.slice Y uy.length cY] w h (iV (netE ls xss.length wx yss.length wy)):=by
  by_cases h1:chkq ls=0
  · rw[netE_0 h1];exact nRefused0 A cap ts ls hn hF X cX ux xss Y cY uy yss wx wy hxw hyw h1 w h g hA hN hX hU hY hV
  · rw[netE_1 h1];exact nRefused1 A cap ts ls hn hF X cX ux xss Y cY uy yss wx wy hxw hyw h1 w h g hA hN hX hU hY hV
theorem nloss (A:Option Addr)(cap:Nat)(ts:List LV)(ls:List Lay)(d:Nat→Nat)(hO:Net3 ls d)(X:Option Addr)(cX:Nat)(ux:List Value)(xss:List (List Rat))(Y:Option Addr)(cY:Nat)(uy:List Value)(yss:List (List Rat))(hxd:∀ i,i<xss.length→(xss.getD i []).length=d 0)(hyd:∀ i,i<xss.length→(yss.getD i []).length=d ls.length)(hxy:yss.length=xss.length)(hr4:xss.length≤4)(hNB:∀ i,i<xss.length→NetB ls (xss.getD i []))(hZq:∀ i,i<xss.length→∀ j,LQ 42000 ((outq ls (xss.getD i []) ls.length).getD j 0))(hYq:∀ i j,LQ 1 ((yss.getD i []).getD j 0))(w:World)(h:Hp)(g:G w h)(hA:Sl A ts h)(hN:NetL h ts ls)(hX:Sv X ux h)(hU:QVs h ux xss)(hY:Sv Y uy h)(hV:QVs h uy yss)(tb:Tab h):CV 87 #[.agg #[.slice A ts.length cap],.slice X ux.length cX,.slice Y uy.length cY] w h (qv (lossq ls xss yss xss.length)):=by
 have hs:=((((((((sS g).aS hA).aN hN).aS hX).aQ hU).aS hY).aQ hV).aB tb);have hl:=(hs.f.q.2.1).len;obtain ⟨o1,o2⟩:=hO.len;have o3:=hO.first;have hux:=(hs.f.r.2.1).len;have huy:=(hs.f.2.1).len;have hdn:=(hO.lay (ls.length-1) oM).2.2.1;rw[show ls.length-1+1=ls.length by omega] at hdn
 refine go Tryz.func87 [(0,.agg #[qS A ts.length cap]),(1,qS X ux.length cX),(2,qS Y uy.length cY)] rfl (cSL (lA 3 74 ([qS A ts.length cap]) hs (fun b1 w2 h3 hs=>lA 6 55 ([qF,uV 0,eS,uV 0,eS]) hs (fun b4 w5 h6 hs=>lNS (lL hs [.v 12 (qv 0)] (lA 7 55 ([qF,uV 0,eS,uV 0,eS]) hs (fun b7 w8 h9 hs=>lP 0 0 (qc 0) hs (fun _ hs=>lN (cQ (cSL (lL hs [.m 13 1,.v 14 (nV ux.length),.v 15 (iV 0)] (lN (kZ ?_)))))))))))));refine cTo _ (CG.loop (fun μ_ Γ w_=>∃ (r:Nat) (s:Rat) (h_:Hp),μ_=xss.length-r∧Γ=[(1,qS X ux.length cX),(2,qS Y uy.length cY),(3,pB b1),(6,pB b4),(7,pB b7),(14,nV ux.length),(15,nV r)]∧SS w h w_ h_ [⟨b7,55,qc s⟩,⟨b4,55,[qF,uV 0,eS,uV 0,eS]⟩,⟨b1,74,[qS A ts.length cap]⟩] [] [fun h_=>Tab h_,Qu uy yss,Sv Y uy,Qu ux xss,Sv X ux,Nn ts ls,Sl A ts]∧r≤xss.length∧s=lossq ls xss yss r∧LQ ((r*12)*84005+1) s) _ ⟨0,0,h9,rfl,rfl,hs.to _ _,Nat.zero_le _,rfl,(lq0 oM)⟩ ?_);rintro _ _ _ ⟨r,s,_,hm13,rfl,hs,hr,hse,hsb⟩;refine cSL ?_;cases za:(decide ((r:Int)<(ux.length:Int)))
 ·
  have ze:=oF za;refine lB 16 za (lN (cQ (cIF (CG.exit ?_))))
  show CG _ _ _ _ _ _ _ _
  exact cSL (lL hs [.o 47 (qv s) 0 0 5] (lP 1 0 (qc s) hs (fun _ hs=>lN (kX (hs.ret [(1,0,5)] (qv s) (by rw[hse,show r=xss.length by omega]))))))
 have ze:=oT za;refine lB 16 za (lN (cQ (cIT (cK (cQ (kZ (cSL (lL hs [.m 17 15,.m 8 17] (lN (cQ (cR 9 [] mixed hs al_nil ?_)))))))))));have hxl:=hxd r oM;have hyl:=hyd r oM;have hol:=outq_len hO hxl ls.length (nR _);refine eO 0 18 [(2,0,1)] (.agg #[qS A ts.length cap]) hs (eV 1 19 (qS X ux.length cX) (eV 2 20 (nV r) (eX 3 21 X ux.length cX 1 (r:Nat) r ((hs.f.q.1).ok oM) ?_)));obtain ⟨Aqx,cqx,eqx,hcqx,hRqx⟩:=(hs.f.r.2.1).at_ r oM;replace hs:=hs.aS hRqx;refine eHe 4 22 (ux.getD r undef) hs ((hs.f.q.2.1).el r oM) eqx (eV 8 26 (iV 0) (eC 5 23 hs (fun _ _ hs=>nForward A cap ts ls d hO Aqx cqx (xss.getD r []) hxl hcqx (hNB r oM) _ _ hs.g hs.f.q.r.2.1 hs.f.q.r.1 hs.f.1 hs.f.2.1) ?_));rintro _ _ _ _ _ hs ⟨A1,c1,u1,A2,c2,u2,Az,cz,rfl,hc1,hc2,hcz,hA1,hA2,hU1,hU2,hAz⟩;replace hs:=hs.aS hAz;refine eV 6 24 (qS Az ((outq ls (xss.getD r []) ls.length).length) cz) (eV 7 25 (nV ((outq ls (xss.getD r []) ls.length).length)) (eD0 hs (fun _ zi hs=>tN (kZ ?_))));refine cTo _ (CG.loop (fun μ_ Γ w_=>∃ (j:Nat) (s2:Rat) (h_:Hp),μ_=(outq ls (xss.getD r []) ls.length).length-j∧Γ=[(1,qS X ux.length cX),(2,qS Y uy.length cY),(3,pB b1),(6,pB b4),(7,pB b7),(14,nV ux.length),(15,nV r),(8,nV r),(24,qS Az ((outq ls (xss.getD r []) ls.length).length) cz),(25,nV ((outq ls (xss.getD r []) ls.length).length)),(26,nV j)]∧SS w h w_ h_ [⟨b7,55,qc s2⟩,⟨b4,55,[qF,uV 0,eS,uV 0,eS]⟩,⟨b1,74,[qS A ts.length cap]⟩] [] [Sq Az (outq ls (xss.getD r []) ls.length),Sq Aqx (xss.getD r []),fun h_=>Tab h_,Qu uy yss,Sv Y uy,Qu ux xss,Sv X ux,Nn ts ls,Sl A ts]∧j≤(outq ls (xss.getD r []) ls.length).length∧s2=lossq ls xss yss r+rowloss (outq ls (xss.getD r []) ls.length) (yss.getD r []) j∧LQ ((r*12+j)*84005+1) s2) _ ⟨0,s,zi,rfl,rfl,hs.to _ _,Nat.zero_le _,(by rw[hse];exact (Rat.add_zero _).symm),(hsb.mono oM)⟩ ?_);rintro _ _ _ ⟨j,s2,zj,hm22,rfl,hs,hj,hse2,hsb2⟩;refine cSL ?_;cases zb:(decide ((j:Int)<(((outq ls (xss.getD r []) ls.length).length:Nat):Int)))
 ·
  have zf:=oF zb;refine lB 27 zb (lN (cQ (cIF (CG.exit ?_))))
  show CG _ _ _ _ _ _ _ _
  refine kQ (lIn 46 ((r:Nat)+1) (r+1) ?_);refine lL hs [.m 15 46] (lD ?_);intro a_ ka;replace hs:=hs.tl.tl;refine ⟨_,_,?_,⟨r+1,s2,zj,rfl,rfl,hs.to _ _,oM,(by rw[hse2,show j=(outq ls (xss.getD r []) ls.length).length by omega];rfl),(hsb2.mono oM)⟩,ka.to _ kR⟩
  omega
 have zf:=oT zb;refine lB 27 zb (lN (cQ (cIT (cK (cQ (kZ (cSL (lL hs [.m 28 26] (lX 29 Az ((outq ls (xss.getD r []) ls.length).length) cz 5 (j:Nat) j ((hs.f.1).ok oM) ?_)))))))));refine lH 30 (qv ((outq ls (xss.getD r []) ls.length).getD j 0)) hs ((hs.f.1).el j oM) (lA 10 55 ([qF,uV 0,eS,uV 0,eS]) hs (fun b27 _ _ hs=>lL hs [.m 9 28] (lP 0 0 (qc ((outq ls (xss.getD r []) ls.length).getD j 0)) hs (fun _ hs=>lN (cQ ?_)))));have hsr:=hs;refine cR 10 [⟨9,11,.cells (List.toArray [qF,uV 0,eS,uV 0,eS]) 55 (0,0)⟩] mixed hs (al_cons (alOk kR (fun _ _=>by kernel_rfl)) al_nil) (eO 0 31 [(0,0,5)] (qv ((outq ls (xss.getD r []) ls.length).getD j 0)) hs (eV 1 32 (qS Y uy.length cY) (eV 2 33 (nV r) (eX 3 34 Y uy.length cY 1 (r:Nat) r ((hs.f.q.1).ok oM) ?_))));obtain ⟨Aqy,cqy,eqy,hcqy,hRqy⟩:=(hs.f.r.2.1).at_ r oM;replace hs:=hs.aS hRqy;refine eHe 4 35 (uy.getD r undef) hs ((hs.f.q.2.1).el r oM) eqy (eV 5 36 (nV j) (eX 6 37 Aqy ((yss.getD r []).length) cqy 5 (j:Nat) j ((hs.f.1).ok oM) (eH 7 38 (qv ((yss.getD r []).getD j 0)) hs ((hs.f.1).el j oM) ?_)));have zc:=LQ.sub (hZq r oM j) (hYq r j);refine eC 8 39 hs (fun _ _ hs=>fSub ((outq ls (xss.getD r []) ls.length).getD j 0) ((yss.getD r []).getD j 0) (LQ.mono (hZq r oM j) oM) (LQ.mono (hYq r j) oM) _ _ hs.g hs.f.r.2.1) ?_;rintro _ _ _ _ _ hs rfl;refine eD1p [] hsr hs 55 [qF,uV 0,eS,uV 0,eS] (fun _ _ b36 hs=>tP 10 0 0 (qc (((outq ls (xss.getD r []) ls.length).getD j 0)-((yss.getD r []).getD j 0))) hs (fun _ hs=>tN (cR 5 [] mixed hs al_nil ?_)));refine eO 0 40 [(2,0,5)] (qv s2) hs (eO 1 41 [(0,0,5)] (qv (((outq ls (xss.getD r []) ls.length).getD j 0)-((yss.getD r []).getD j 0))) hs (eO 2 42 [(0,0,5)] (qv (((outq ls (xss.getD r []) ls.length).getD j 0)-((yss.getD r []).getD j 0))) hs ?_));have zd:=LQ.mul zc zc;refine eC 3 43 hs (fun _ _ hs=>fMul (((outq ls (xss.getD r []) ls.length).getD j 0)-((yss.getD r []).getD j 0)) (((outq ls (xss.getD r []) ls.length).getD j 0)-((yss.getD r []).getD j 0)) (LQ.mono zc oM) (LQ.mono zc oM) _ _ hs.g hs.f.r.2.1) ?_;rintro _ _ _ _ _ hs rfl;have zg:=LQ.add hsb2 zd;refine eC 4 44 hs (fun _ _ hs=>fAdd s2 ((((outq ls (xss.getD r []) ls.length).getD j 0)-((yss.getD r []).getD j 0))*(((outq ls (xss.getD r []) ls.length).getD j 0)-((yss.getD r []).getD j 0))) (LQ.mono hsb2 oM) (LQ.mono zd oM) _ _ hs.g hs.f.r.2.1) ?_;rintro _ _ _ _ _ hs rfl;refine eD0 hs (fun _ zk hs=>tP 5 2 0 (qc (s2+((((outq ls (xss.getD r []) ls.length).getD j 0)-((yss.getD r []).getD j 0))*(((outq ls (xss.getD r []) ls.length).getD j 0)-((yss.getD r []).getD j 0))))) hs (fun _ hs=>tN (kQ (lIn 45 ((j:Nat)+1) (j+1) ?_))));refine lL hs [.m 26 45] (lD ?_);intro a_ ka;replace hs:=hs.tl;replace hs:=hs.drop 2 0;refine ⟨_,_,?_,⟨j+1,(s2+((((outq ls (xss.getD r []) ls.length).getD j 0)-((yss.getD r []).getD j 0))*(((outq ls (xss.getD r []) ls.length).getD j 0)-((yss.getD r []).getD j 0)))),zk,rfl,rfl,hs.to _ _,oM,(by rw[hse2,Rat.add_assoc];rfl),(LQ.mono zg oM)⟩,ka.to _ kR⟩
 omega
theorem nLossE (A:Option Addr)(cap:Nat)(ts:List LV)(ls:List Lay)(hn:ls.length≤1000000)(hF:∀ i,i<ls.length→LayLen (ls.getD i lay0))(X:Option Addr)(cX:Nat)(ux:List Value)(xss:List (List Rat))(Y:Option Addr)(cY:Nat)(uy:List Value)(yss:List (List Rat))(wx wy:Nat)(hxw:∀ i,i<xss.length→(xss.getD i []).length=wx)(hyw:∀ i,i<yss.length→(yss.getD i []).length=wy)(he:netE ls xss.length wx yss.length wy≠0)(w:World)(h:Hp)(g:G w h)(hA:Sl A ts h)(hN:NetL h ts ls)(hX:Sv X ux h)(hU:QVs h ux xss)(hY:Sv Y uy h)(hV:QVs h uy yss):CV 37 #[.agg #[.slice A ts.length cap],.slice X ux.length cX,.slice Y uy.length cY] w h (.tuple #[qv 0,iV (netE ls xss.length wx yss.length wy)]):=by
 have hs:=(((((((sS g).aS hA).aN hN).aS hX).aQ hU).aS hY).aQ hV);refine go Tryz.func37 [(0,.agg #[qS A ts.length cap]),(1,qS X ux.length cX),(2,qS Y uy.length cY)] rfl (cSL (lA 3 74 ([qS A ts.length cap]) hs (fun b1 w2 h3 hs=>lA 6 55 ([qF,uV 0,eS,uV 0,eS]) hs (fun b4 w5 h6 hs=>lL hs [.v 7 (iV 0)] (lN (cQ (cSL (lL hs [.o 9 (.agg #[qS A ts.length cap]) 1 0 1,.m 10 1,.m 11 2] (lC 12 hs (nRefused A cap ts ls hn hF X cX ux xss Y cY uy yss wx wy hxw hyw _ _ hs.g hs.f.q.2.1 hs.f.q.1 hs.f.r.2.1 hs.f.r.1 hs.f.2.1 hs.f.1) ?_)))))))));rintro _ w7 h8 hs rfl;refine lL hs [.m 8 12] (lNS (lL hs [.m 13 8] ?_));have hb9:((netE ls xss.length wx yss.length wy:Int) != (0:Int))=true:=bneT he;have phb9:=neOfBne hb9;exact lB 14 hb9 (lN (cIT (cSL (lL hs [.v 15 (qv 0),.m 16 8] (lP 0 0 (qc 0) hs (fun _ hs=>lL hs [.m 7 16] (lN (kX (hs.ret [(0,0,5)] (.tuple #[qv 0,iV (netE ls xss.length wx yss.length wy)]) rfl)))))))))
theorem nLoss0 (A:Option Addr)(cap:Nat)(ts:List LV)(ls:List Lay)(hn:ls.length≤1000000)(hF:∀ i,i<ls.length→LayLen (ls.getD i lay0))(X:Option Addr)(cX:Nat)(ux:List Value)(xss:List (List Rat))(Y:Option Addr)(cY:Nat)(uy:List Value)(yss:List (List Rat))(wx wy:Nat)(hxw:∀ i,i<xss.length→(xss.getD i []).length=wx)(hyw:∀ i,i<yss.length→(yss.getD i []).length=wy)(hr4:xss.length≤4)(hNB:chkq ls=0→∀ i,i<xss.length→NetB ls (xss.getD i []))(hZq:chkq ls=0→∀ i,i<xss.length→∀ j,LQ 42000 ((outq ls (xss.getD i []) ls.length).getD j 0))(hYq:∀ i j,LQ 1 ((yss.getD i []).getD j 0))(he:netE ls xss.length wx yss.length wy=0)(w:World)(h:Hp)(g:G w h)(hA:Sl A ts h)(hN:NetL h ts ls)(hX:Sv X ux h)(hU:QVs h ux xss)(hY:Sv Y uy h)(hV:QVs h uy yss)(tb:Tab h):CV 37 #[.agg #[.slice A ts.length cap],.slice X ux.length cX,.slice Y uy.length cY] w h (.tuple #[qv (lossq ls xss yss xss.length),iV 0]):=by
 have hs:=((((((((sS g).aS hA).aN hN).aS hX).aQ hU).aS hY).aQ hV).aB tb);refine go Tryz.func37 [(0,.agg #[qS A ts.length cap]),(1,qS X ux.length cX),(2,qS Y uy.length cY)] rfl (cSL (lA 3 74 ([qS A ts.length cap]) hs (fun b1 w2 h3 hs=>lA 6 55 ([qF,uV 0,eS,uV 0,eS]) hs (fun b4 w5 h6 hs=>lL hs [.v 7 (iV 0)] (lN (cQ (cSL (lL hs [.o 9 (.agg #[qS A ts.length cap]) 1 0 1,.m 10 1,.m 11 2] (lC 12 hs (nRefused A cap ts ls hn hF X cX ux xss Y cY uy yss wx wy hxw hyw _ _ hs.g hs.f.q.r.1 hs.f.q.2.1 hs.f.q.1 hs.f.r.2.1 hs.f.r.1 hs.f.2.1) ?_)))))))));rintro _ w7 h8 hs rfl;refine lL hs [.m 8 12] (lNS (lL hs [.m 13 8] ?_));have hb9:((netE ls xss.length wx yss.length wy:Int) != (0:Int))=false:=bneF' he;have phb9:=eqOfBne hb9;refine lB 14 hb9 (lN (cIF (cK (cSL (lL hs [.o 17 (.agg #[qS A ts.length cap]) 1 0 1,.m 18 1,.m 19 2] (lC 20 hs (nloss A cap ts ls (dOf ls) (chk_net3 (netE0 he).1) X cX ux xss Y cY uy yss (fun i hi=>by rw[hxw i hi];exact (netE0 he).2.2.2.1) (fun i hi=>by rw[hyw i (by have:=(netE0 he).2.2.1;omega)];exact (netE0 he).2.2.2.2) (netE0 he).2.2.1 hr4 (hNB (netE0 he).1) (hZq (netE0 he).1) hYq _ _ hs.g hs.f.q.r.1 hs.f.q.2.1 hs.f.q.1 hs.f.r.2.1 hs.f.r.1 hs.f.2.1 hs.f.1) ?_))))));rintro _ _ _ hs rfl;exact lP 0 0 (qc (lossq ls xss yss xss.length)) hs (fun _ hs=>lL hs [.v 7 (iV 0)] (lN (kX (hs.ret [(0,0,5)] (.tuple #[qv (lossq ls xss yss xss.length),iV 0]) rfl))))
theorem rowloss_lq {z y:List Rat}(hz:∀ j,LQ 42000 (z.getD j 0))(hy:∀ j,LQ 1 (y.getD j 0)):∀ n,LQ (n*84005+1) (rowloss z y n)
  | 0=>lq0 oM
  | n+1=>by
    have h1:=rowloss_lq hz hy n;have h2:=(hz n).sub (hy n);exact (h1.add (h2.mul h2)).mono oM
def nmT (i:Nat):Stp:=⟨2,0,0,((i:Nat):Int),0⟩
def ixS (l:List Stp)(n:Nat):List Int:=(List.range n).map fun j=>((l.length+j:Nat):Int)
theorem ixS_len (l:List Stp)(n:Nat):(ixS l n).length=n:=by simp[ixS]
theorem layS_outs (fr R C:Nat)(kd:Int)(ix:List Int)(l:List Stp):∀ i,(layS fr R C kd ix l i).2.length=i
  | 0=>rfl
  | i+1=>by
    show ((layS fr R C kd ix l i).2++[_]).length=i+1
    rw[List.length_append,layS_outs fr R C kd ix l i];rfl
def nwS (ls:List Lay)(d:Nat→Nat)(l:List Stp)(ix:List Int):Nat→(List Stp × List Int) × Nat
  | 0=>((l,ix),0)
  | k+1=>(layS (nwS ls d l ix k).2 (d (k+1)) (d k) (ls.getD k lay0).k (nwS ls d l ix k).1.2 (nwS ls d l ix k).1.1 (d (k+1)),(nwS ls d l ix k).2+(d (k+1)*d k+d (k+1)))
def rwS (ls:List Lay)(d:Nat→Nat)(xs ys:List Rat)(l:List Stp):List Stp × Int :=
  sqS (nwS ls d (l++xs.map numT) (ixS l xs.length) ls.length).1.1 (nwS ls d (l++xs.map numT) (ixS l xs.length) ls.length).1.2 ys ys.length
noncomputable def tpS (ls:List Lay)(d:Nat→Nat)(xss yss:List (List Rat)):Nat→List Stp × List Int
  | 0=>((List.range (flatq ls).length).map nmT,[])
  | r+1=>((rwS ls d (xss.getD r []) (yss.getD r []) (tpS ls d xss yss r).1).1,(tpS ls d xss yss r).2++[(rwS ls d (xss.getD r []) (yss.getD r []) (tpS ls d xss yss r).1).2])
theorem tpS_outs (ls:List Lay)(d:Nat→Nat)(xss yss:List (List Rat)):∀ r,(tpS ls d xss yss r).2.length=r
  | 0=>rfl
  | r+1=>by
    show ((tpS ls d xss yss r).2++[_]).length=r+1
    rw[List.length_append,tpS_outs ls d xss yss r];rfl
section
variable {ls:List Lay} {d:Nat→Nat} (o:Net3 ls d)
include o
theorem Net3.d12 {k:Nat}(hk:k<ls.length):d (k+1)≤12:=(o.lay k hk).2.2.1
theorem Net3.lay_b {k:Nat}(hk:k<ls.length):d (k+1)*(2*d k+1)≤492∧d (k+1)*d k+d (k+1)≤252:=by
  have h1:=o.d12 hk;have h2:=o.small k oM;have h3:d (k+1)*(2*d k+1)≤12*41:=Nat.mul_le_mul h1 oM;have h4:d (k+1)*d k≤12*20:=Nat.mul_le_mul h1 h2;exact ⟨h3,by omega⟩
theorem nwS_fr (l:List Stp)(ix:List Int):∀ k,k≤ls.length→(nwS ls d l ix k).2≤k*252
  | 0,_=>Nat.le_refl _
  | k+1,hk=>by
    have ih:=nwS_fr l ix k oM;have:=(o.lay_b (k:=k) oM).2
    show (nwS ls d l ix k).2+(d (k+1)*d k+d (k+1))≤_
    omega
theorem nwS_len (l:List Stp)(ix:List Int):∀ k,k≤ls.length→(nwS ls d l ix k).1.1.length≤l.length+k*492
  | 0,_=>by show l.length≤_;omega
  | k+1,hk=>by
    have ih:=nwS_len l ix k oM;have h:=(o.lay_b (k:=k) oM).1;have:=layS_len (nwS ls d l ix k).2 (d (k+1)) (d k) (ls.getD k lay0).k (nwS ls d l ix k).1.2 (nwS ls d l ix k).1.1 (d (k+1))
    show (layS _ _ _ _ _ _ _).1.length≤_
    omega
omit o in
theorem nwS_ix (l:List Stp)(ix:List Int)(hx:ix.length=d 0):∀ k,(nwS ls d l ix k).1.2.length=d k
  | 0=>hx
  | k+1=>layS_outs _ _ _ _ _ _ _
theorem rwS_len (xs ys:List Rat)(l:List Stp):(rwS ls d xs ys l).1.length≤l.length+xs.length+4*492+4*ys.length:=by
  have h1:=sqS_len (nwS ls d (l++xs.map numT) (ixS l xs.length) ls.length).1.1 (nwS ls d (l++xs.map numT) (ixS l xs.length) ls.length).1.2 ys ys.length;have h2:=nwS_len o (l++xs.map numT) (ixS l xs.length) ls.length (Nat.le_refl _);rw[List.length_append,List.length_map] at h2
  have h3:=o.len.2
  show (sqS _ _ _ _).1.length≤_
  omega
theorem tpS_len {xss yss:List (List Rat)}(hx:∀ i,i<xss.length→(xss.getD i []).length=d 0)(hy:∀ i,i<xss.length→(yss.getD i []).length=d ls.length):∀ r,r≤xss.length→(tpS ls d xss yss r).1.length≤(flatq ls).length+r*2100
  | 0,_=>by show ((List.range _).map nmT).length≤_;simp
  | r + 1,hr=>by
    have ih:=tpS_len hx hy r oM;have h1:=rwS_len o (xss.getD r []) (yss.getD r []) (tpS ls d xss yss r).1;rw[hx r oM,hy r oM] at h1
    have h2:=o.first
    show (rwS _ _ _ _ _).1.length≤_
    have h4:d ls.length≤12:=by
      have:=o.len;obtain ⟨k,hk⟩:∃ k,ls.length=k+1:=⟨ls.length-1,by omega⟩;rw[hk];exact o.d12 oM
    omega
end
def Q1 (l:List Stp):Prop:=∀ s∈l,LQ 1 s.q
theorem Q1.snoc {l:List Stp}(h:Q1 l){s:Stp}(hs:LQ 1 s.q):Q1 (l++[s]):=fun t ht=>by
  rcases List.mem_append.1 ht with h1|h1
  · exact h t h1
  · rw[List.mem_singleton] at h1;subst h1;exact hs
theorem lz:LQ 1 (0:Rat):=lq0 kD
theorem sqS_q {l:List Stp}(h:Q1 l)(os:List Int){ys:List Rat}(hy:∀ j,LQ 1 (ys.getD j 0)):∀ k,Q1 (sqS l os ys k).1
  | 0=>h
  | k+1=>by
    have ih:=sqS_q h os hy k
    show Q1 (sqStep k _ _ (sqS l os ys k)).1
    unfold sqStep
    split
    · exact ((ih.snoc (hy k)).snoc lz).snoc lz
    · exact (((ih.snoc (hy k)).snoc lz).snoc lz).snoc lz
theorem rowS_q {p0:List Stp × Int}(h:Q1 p0.1)(fr i C:Nat)(ix:List Int):∀ j,Q1 (rowS fr i C ix p0 j).1
  | 0=>h
  | j+1=>((rowS_q h fr i C ix j).snoc lz).snoc lz
theorem kindS_q {p:List Stp × Int}(h:Q1 p.1)(kd:Int):Q1 (kindS kd p).1:=by
  unfold kindS
  split
  · exact h.snoc lz
  · split
    · exact h.snoc lz
    · exact h
theorem layS_q {l:List Stp}(h:Q1 l)(fr R C:Nat)(kd:Int)(ix:List Int):∀ i,Q1 (layS fr R C kd ix l i).1
  | 0=>h
  | i+1=>kindS_q (rowS_q (p0:=((layS fr R C kd ix l i).1,_)) (layS_q h fr R C kd ix i) fr i C ix C) kd
theorem nwS_q {l:List Stp}(h:Q1 l)(ls:List Lay)(d:Nat→Nat)(ix:List Int):∀ k,Q1 (nwS ls d l ix k).1.1
  | 0=>h
  | k+1=>layS_q (nwS_q h ls d ix k) _ _ _ _ _ _
theorem nums_q {l:List Stp}(h:Q1 l){xs:List Rat}(hx:∀ j,LQ 1 (xs.getD j 0)):Q1 (l++xs.map numT):=fun s hs=>by
  rcases List.mem_append.1 hs with h1|h1
  · exact h s h1
  · obtain ⟨q,hq,rfl⟩:=List.mem_map.1 h1
    obtain ⟨i,hi,he⟩:=List.mem_iff_getElem.1 hq;have:=hx i;rw[List.getD_eq_getElem?_getD,List.getElem?_eq_getElem hi,Option.getD_some,he] at this
    exact this
theorem tpS_q (ls:List Lay)(d:Nat→Nat){xss yss:List (List Rat)}(hx:∀ i j,LQ 1 ((xss.getD i []).getD j 0))(hy:∀ i j,LQ 1 ((yss.getD i []).getD j 0)):∀ r,Q1 (tpS ls d xss yss r).1
  | 0=>fun s hs=>by
    obtain ⟨i,_,rfl⟩:=List.mem_map.1 hs;exact lz
  | r+1=>sqS_q (nwS_q (nums_q (tpS_q ls d hx hy r) (hx r)) _ _ _ _) _ (hy r) _
theorem Q1.get {l:List Stp}(h:Q1 l)(i:Nat)(hi:i<l.length):LQ 1 (l.getD i stp0).q:=by
  rw[List.getD_eq_getElem?_getD,List.getElem?_eq_getElem hi,Option.getD_some];exact h _ (List.getElem_mem hi)
def tpN (ck:Int)(n:Nat):Int:=if ck=0 then (n:Nat) else 0
def tpL {α:Type}(ck:Int)(l:List α):List α:=if ck=0 then l else []
theorem tpN0 {ck:Int}(h:ck=0)(n:Nat):tpN ck n=(n:Nat):=if_pos h
theorem tpN1 {ck:Int}(h:ck≠0)(n:Nat):tpN ck n=0:=if_neg h
theorem tpL0 {α:Type}{ck:Int}(h:ck=0)(l:List α):tpL ck l=l:=if_pos h
theorem tpL1 {α:Type}{ck:Int}(h:ck≠0)(l:List α):tpL ck l=[]:=if_neg h
theorem tvals_get (l:List Stp)(at_:List Rat)(k:Nat):∀ n,k≤n→∀ j,j<k→(tvals l at_ n).getD j 0=(tvals l at_ k).getD j 0:=fun n hn=>by
  induction hn with
  | refl=>intro j _;rfl
  | @step n hn ih =>
    intro j hj;have hn':k≤n:=hn
    show (tvals l at_ n++[_]).getD j 0=_
    rw[getD_snoc,tvals_len,if_pos oM];exact ih j hj
theorem vl_get {l:List Stp}{at_ L:List Rat}(h:L=tvals l at_ l.length){k j:Nat}(hj:j<k)(hk:k≤l.length):L.getD j 0=(tvals l at_ k).getD j 0:=by rw[h];exact tvals_get l at_ k _ hk j hj
theorem terr_at {sm:Bool}{l:List Stp}{at_:List Rat}{n:Nat}(h:terr sm l at_ n=0):∀ k,k<n→serr sm (l.getD k stp0) (tvals l at_ k)=0:=by
  induction n with
  | zero=>intro k hk;omega
  | succ n ih =>
    intro k hk
    have h2:terr sm l at_ n=0:=by
      refine Classical.byContradiction fun hn=>?_
      have:terr sm l at_ (n+1)=terr sm l at_ n:=terr_bad hn 1;exact hn (by rw[←this];exact h)
    by_cases e:k=n
    · subst e
      have:terr sm l at_ (k+1)=serr sm (l.getD k stp0) (tvals l at_ k):=by show (if _=0 then _ else _)=_;rw[if_pos h2]
      rw[←this];exact h
    · exact ih h2 k oM
theorem ok_at {inp:Int}{sm:Bool}{l:List Stp}{at_:List Rat}{k n:Nat}(h:terr sm l at_ n=0)(hk:k<n)(_:∀ k,k<l.length→Formed inp k (l.getD k stp0)):(l.getD k stp0).op≠2→okq (l.getD k stp0).op (l.getD k stp0).n ((tvals l at_ k).getD (l.getD k stp0).a.toNat 0) ((tvals l at_ k).getD (l.getD k stp0).b.toNat 0):=fun h2=>by
  have:=terr_at h k hk;refine Classical.byContradiction fun hn=>?_
  rw[serr_6 h2 hn] at this
  exact absurd this kD
theorem ok_use {l:List Stp}{at_ L:List Rat}{k:Nat}{s:Stp}(hL:L=tvals l at_ l.length)(ho:s.op≠2→okq s.op s.n ((tvals l at_ k).getD s.a.toNat 0) ((tvals l at_ k).getD s.b.toNat 0))(h2:s.op≠2)(hk:k≤l.length)(ha:s.op=6∨s.op=8→s.a.toNat<k)(hb:s.op=6→s.b.toNat<k)(_:True:=trivial) :
    (s.op=6→L.getD s.b.toNat 0≠0)∧(s.op=8→s.n<0→L.getD s.a.toNat 0≠0):=by
  obtain ⟨h6,h8⟩:=ho h2;refine ⟨fun e=>?_,fun e e2=>?_⟩
  · rw[vl_get hL (hb e) hk];exact h6 e
  · rw[vl_get hL (ha (.inr e)) hk];exact h8 e e2
theorem lq_set {D:List Rat}{k B:Nat}{x:Rat}(h:∀ j,LQ B (D.getD j 0))(hx:LQ B x)(j:Nat):LQ B ((D.set k x).getD j 0):=by
  by_cases hk:k<D.length
  · rw[getD_set_ hk];split
    · exact hx
    · exact h j
  · rw[List.set_eq_of_length_le oM];exact h j
section
variable {inp:Int} {l:List Stp} {os:List Int} {at_ way:List Rat}
end
theorem dotq_set {b d:List Rat}{a:Nat}{y:Rat}(ha:a<b.length):∀ n,dotq (b.set a y) d n=dotq b d n+(if a<n then (y-b.getD a 0)*d.getD a 0 else 0)
  | 0=>by show (0:Rat)=0+_;rw[if_neg (Nat.not_lt_zero a)];grind
  | n+1=>by
    show dotq (b.set a y) d n+(b.set a y).getD n 0*d.getD n 0=(dotq b d n+b.getD n 0*d.getD n 0)+_
    rw[dotq_set ha n,getD_set_ ha]
    rcases Nat.lt_trichotomy a n with h|h|h
    · rw[if_neg (by omega:¬n=a),if_pos h,if_pos oM];grind
    · subst h;rw[if_pos rfl,if_neg (Nat.lt_irrefl _),if_pos oM];grind
    · rw[if_neg oM,if_neg oM,if_neg oM];grind
theorem dotq_set' {b d:List Rat}{a n:Nat}{y x:Rat}(ha:a<b.length)(hn:a<n)(hy:y=b.getD a 0+x):dotq (b.set a y) d n=dotq b d n+x*d.getD a 0:=by
  rw[dotq_set ha,if_pos hn,hy];grind
theorem tders_get (l:List Stp)(at_ way:List Rat)(k:Nat):∀ n,k≤n→∀ j,j<k→(tders l at_ way n).getD j 0=(tders l at_ way k).getD j 0:=fun n hn=>by
  induction hn with
  | refl=>intro j _;rfl
  | @step n hn ih =>
    intro j hj;have hn':k≤n:=hn
    show (tders l at_ way n++[_]).getD j 0=_
    rw[getD_snoc,tders_len,if_pos oM];exact ih j hj
section
variable {l:List Stp} {at_ way bar g:List Rat} {k:Nat}
theorem ders_at (hk:k<l.length)(ho:Opr k (l.getD k stp0)):(tders l at_ way l.length).getD k 0=sder (l.getD k stp0) way (tvals l at_ l.length) (tders l at_ way l.length):=by
  rw[tders_get l at_ way (k+1) l.length oM k oM]
  show (tders l at_ way k++[_]).getD k 0=_
  rw[getD_snoc,tders_len,if_neg (Nat.lt_irrefl k),if_pos rfl]
  unfold sder
  split
  · rfl
  · obtain ⟨o1,o2,o3,_⟩:=ho
    by_cases h:0<ari (l.getD k stp0).op
    · rw[if_pos h,if_pos h,←tvals_get l at_ k l.length oM _ (o1 h),←tvals_get l at_ k l.length oM _ (o3 h),←tders_get l at_ way k l.length oM _ (o1 h)]
      by_cases h2:1<ari (l.getD k stp0).op
      · rw[if_pos h2,if_pos h2,←tders_get l at_ way k l.length oM _ (o2 h2)]
      · rw[if_neg h2,if_neg h2]
    · rw[if_neg h,if_neg h,if_neg oM,if_neg oM]
def Bk (l:List Stp)(at_:List Rat)(inp:Nat)(T:List Rat→Rat)(k:Nat)(bar g:List Rat):Prop :=
  ∀ way,dotq bar (tders l at_ way l.length) k+dotq g way inp=T way
section
variable {inp:Nat} {T:List Rat→Rat} (B:Bk l at_ inp T (k+1) bar g) (hk:k<l.length)
include B
theorem Bk.skip (h0:bar.getD k 0=0):Bk l at_ inp T k bar g:=fun way=>by
  have:=B way
  change dotq bar _ k+bar.getD k 0*_+_=_ at this
  rw[h0] at this;rw[←this];grind
theorem Bk.step {x:Rat}(d:∀ way,(tders l at_ way l.length).getD k 0=sder (l.getD k stp0) way (tvals l at_ l.length) (tders l at_ way l.length))(hx:x=bar.getD k 0):∀ way,dotq bar (tders l at_ way l.length) k+x*sder (l.getD k stp0) way (tvals l at_ l.length) (tders l at_ way l.length)+dotq g way inp=T way:=fun way=>by
  have:=B way
  change dotq bar _ k+bar.getD k 0*_+_=_ at this
  rw[d way] at this
  rw[hx];exact this
include hk
theorem Bk.name (ho:Opr k (l.getD k stp0))(h2:(l.getD k stp0).op=2)(hg:(l.getD k stp0).n.toNat<g.length)(hi:(l.getD k stp0).n.toNat<inp):Bk l at_ inp T k bar (g.set (l.getD k stp0).n.toNat (g.getD (l.getD k stp0).n.toNat 0+bar.getD k 0)):=fun way=>by
  have:=B.step (fun way=>ders_at hk ho) rfl way
  unfold sder at this
  rw[if_pos h2] at this
  rw[dotq_set' hg hi rfl,←this];grind
theorem Bk.num (ho:Opr k (l.getD k stp0))(h2:(l.getD k stp0).op≠2)(ha:¬0<ari (l.getD k stp0).op):Bk l at_ inp T k bar g:=fun way=>by
  have:=B.step (fun way=>ders_at hk ho) rfl way
  unfold sder at this
  rw[if_neg h2,if_neg ha,if_neg oM] at this
  rw[←this];grind
theorem Bk.one {x:Rat}(ho:Opr k (l.getD k stp0))(h2:(l.getD k stp0).op≠2)(ha:0<ari (l.getD k stp0).op)(hb:¬1<ari (l.getD k stp0).op)(hl:k≤bar.length)
    (hx:x=sla (l.getD k stp0).op (l.getD k stp0).n ((tvals l at_ l.length).getD (l.getD k stp0).a.toNat 0) ((tvals l at_ l.length).getD (l.getD k stp0).b.toNat 0)) :
    Bk l at_ inp T k (bar.set (l.getD k stp0).a.toNat (bar.getD (l.getD k stp0).a.toNat 0+bar.getD k 0*x)) g:=fun way=>by
  have:=B.step (fun way=>ders_at hk ho) rfl way;have oa:=ho.1 ha
  unfold sder at this
  rw[if_neg h2,if_pos ha,if_neg hb,←hx] at this
  rw[dotq_set' oM oa rfl,←this];grind
theorem Bk.two {x y:Rat}(ho:Opr k (l.getD k stp0))(h2:(l.getD k stp0).op≠2)(hb:1<ari (l.getD k stp0).op)(hl:k<bar.length)
    (hx:x=sla (l.getD k stp0).op (l.getD k stp0).n ((tvals l at_ l.length).getD (l.getD k stp0).a.toNat 0) ((tvals l at_ l.length).getD (l.getD k stp0).b.toNat 0))
    (hy:y=slb (l.getD k stp0).op ((tvals l at_ l.length).getD (l.getD k stp0).a.toNat 0) ((tvals l at_ l.length).getD (l.getD k stp0).b.toNat 0)){b1:List Rat}
    (h1:b1=bar.set (l.getD k stp0).a.toNat (bar.getD (l.getD k stp0).a.toNat 0+bar.getD k 0*x)) :
    Bk l at_ inp T k (b1.set (l.getD k stp0).b.toNat (b1.getD (l.getD k stp0).b.toNat 0+b1.getD k 0*y)) g:=fun way=>by
  have:=B.step (fun way=>ders_at hk ho) rfl way;have oa:=ho.1 oM;have ob:=ho.2.1 hb
  unfold sder at this
  rw[if_neg h2,if_pos oM,if_pos hb,←hx,←hy] at this
  have e:b1.getD k 0=bar.getD k 0:=by rw[h1,getD_set_ oM,if_neg oM]
  rw[dotq_set' (by rw[h1,List.length_set];omega) ob rfl,e,h1,dotq_set' oM oa rfl,←this];grind
end
end
def upd (f:Nat→Nat)(a x:Nat):Nat→Nat:=fun j=>if j=a then f a+x else f j
def pot (wt f:Nat→Nat):Nat→Nat
  | 0=>0
  | k+1=>pot wt f k+f k*wt k
theorem pot_upd (wt f:Nat→Nat)(a x:Nat):∀ k,pot wt (upd f a x) k=pot wt f k+(if a<k then x*wt a else 0)
  | 0=>by rw[if_neg (Nat.not_lt_zero a)];rfl
  | k+1=>by
    show pot wt (upd f a x) k+upd f a x k*wt k=pot wt f k+f k*wt k+_
    rw[pot_upd wt f a x k];unfold upd
    rcases Nat.lt_trichotomy a k with h|h|h
    · rw[if_pos h,if_neg (by omega:¬k=a),if_pos oM];omega
    · subst h;rw[if_neg (Nat.lt_irrefl _),if_pos rfl,if_pos oM,Nat.add_mul];omega
    · rw[if_neg oM,if_neg oM,if_neg oM];omega
theorem pot_le (wt f:Nat→Nat):∀ k,(∀ j,j<k→1≤wt j)→∀ j,j<k→f j≤pot wt f k
  | k+1,hw,j,hj=>by
    show f j≤pot wt f k+f k*wt k
    by_cases e:j=k
    · subst e;have:=Nat.mul_le_mul_left (f j) (hw j hj);omega
    · have:=pot_le wt f k (fun i hi=>hw i oM) j oM;omega
def Wt (l:List Stp)(wt:Nat→Nat):Prop:=∀ k,k<l.length→1≤wt k∧(0<ari (l.getD k stp0).op→wt (l.getD k stp0).a.toNat≤wt k)∧(1<ari (l.getD k stp0).op→wt (l.getD k stp0).a.toNat+wt (l.getD k stp0).b.toNat≤wt k)
def rem_ (wt sg:Nat→Nat):Nat→Nat:=pot wt (fun k=>sg k+2)
def Bz (wt sg:Nat→Nat)(C:Nat)(k:Nat)(bar g:List Rat):Prop :=
  ∃ f:Nat→Nat,∃ E,(∀ j,LQ (f j) (bar.getD j 0))∧(∀ j,LQ E (g.getD j 0))∧E+pot wt f k+rem_ wt sg k≤C
section
variable {l:List Stp} {bar g:List Rat} {wt sg:Nat→Nat} {C k:Nat}
theorem lq_upd {f:Nat→Nat}{a x:Nat}{y:Rat}(h:∀ j,LQ (f j) (bar.getD j 0))(hy:LQ (f a+x) y)(j:Nat):LQ (upd f a x j) ((bar.set a y).getD j 0):=by
  unfold upd
  by_cases ha:a<bar.length
  · rw[getD_set_ ha]
    by_cases e:j=a
    · rw[if_pos e,if_pos e];exact hy
    · rw[if_neg e,if_neg e];exact h j
  · rw[List.set_eq_of_length_le oM]
    by_cases e:j=a
    · rw[if_pos e,e];exact (h a).mono oM
    · rw[if_neg e];exact h j
theorem Bz.lb (Z:Bz wt sg C k bar g)(hw:∀ j,j<k→1≤wt j):∀ j,j<k→LQ C (bar.getD j 0):=fun j hj=>by
  obtain ⟨f,E,hf,hE,hC⟩:=Z;have:=pot_le wt f k hw j hj;exact (hf j).mono oM
theorem Bz.lg (Z:Bz wt sg C k bar g):∀ j,LQ C (g.getD j 0):=fun j=>by
  obtain ⟨f,E,hf,hE,hC⟩:=Z;exact (hE j).mono oM
theorem rem_s (wt sg:Nat→Nat)(k:Nat):rem_ wt sg (k+1)=rem_ wt sg k+(sg k+2)*wt k:=rfl
theorem Bz.skip (Z:Bz wt sg C (k+1) bar g):Bz wt sg C k bar g:=by
  obtain ⟨f,E,hf,hE,hC⟩:=Z;rw[rem_s] at hC
  change E+(pot wt f k+_)+_≤_ at hC
  exact ⟨f,E,hf,hE,by omega⟩
theorem Bz.mul (Z:Bz wt sg C (k+1) bar g)(hw:1≤wt k){x:Rat}(hx:LQ (sg k) x):LQ C (bar.getD k 0*x):=by
  obtain ⟨f,E,hf,hE,hC⟩:=Z;rw[rem_s] at hC
  change E+(pot wt f k+f k*wt k)+_≤_ at hC
  have h1:=Nat.mul_le_mul_left (f k) hw;have h2:=Nat.mul_le_mul_left (sg k+2) hw;exact ((hf k).mul hx).mono oM
theorem Bz.name (Z:Bz wt sg C (k+1) bar g)(hw:1≤wt k)(n:Nat):Bz wt sg C k bar (g.set n (g.getD n 0+bar.getD k 0)):=by
  obtain ⟨f,E,hf,hE,hC⟩:=Z;rw[rem_s] at hC
  change E+(pot wt f k+f k*wt k)+_≤_ at hC
  have h1:=Nat.mul_le_mul_left (f k) hw;have h2:=Nat.mul_le_mul_left (sg k+2) hw;exact ⟨f,E+f k+1,hf,lq_set (fun j=>(hE j).mono oM) ((hE n).add (hf k)),by omega⟩
theorem Bz.one (Z:Bz wt sg C (k+1) bar g){a:Nat}(ha:wt a≤wt k)(hak:a<k){x:Rat}(hx:LQ (sg k) x):Bz wt sg C k (bar.set a (bar.getD a 0+bar.getD k 0*x)) g:=by
  obtain ⟨f,E,hf,hE,hC⟩:=Z;rw[rem_s] at hC
  change E+(pot wt f k+f k*wt k)+_≤_ at hC
  refine ⟨upd f a (f k+sg k+1),E,lq_upd hf (((hf a).add ((hf k).mul hx)).mono oM),hE,?_⟩;rw[pot_upd,if_pos hak];have h1:=Nat.mul_le_mul_left (f k+sg k+1) ha;rw[show (f k+sg k+1)*wt k=f k*wt k+(sg k+1)*wt k by rw[show f k+sg k+1=f k+(sg k+1) by omega,Nat.add_mul]] at h1
  rw[Nat.add_mul (sg k) 2] at hC
  rw[Nat.add_mul (sg k) 1] at h1
  omega
theorem Bz.two (Z:Bz wt sg C (k+1) bar g){a b:Nat}(hw:1≤wt k)(hws:∀ j,j<k→1≤wt j)(ha:wt a+wt b≤wt k)(hak:a<k)(hbk:b<k)(hl:k<bar.length){x y:Rat}(hx:LQ (sg k) x)(hy:LQ (sg k) y){b1:List Rat}(h1:b1=bar.set a (bar.getD a 0+bar.getD k 0*x)) :
    LQ C (b1.getD k 0)∧LQ C (b1.getD b 0)∧LQ C (b1.getD k 0*y)∧Bz wt sg C k (b1.set b (b1.getD b 0+b1.getD k 0*y)) g:=by
  have e:b1.getD k 0=bar.getD k 0:=by rw[h1,getD_set_ oM,if_neg oM]
  have z1:=Z.mul hw hy
  have z0:LQ C (bar.getD k 0):=by
    obtain ⟨f,E,hf,hE,hC⟩:=Z
    change E+(pot wt f k+f k*wt k)+_≤_ at hC
    have h1:=Nat.mul_le_mul_left (f k) hw;exact (hf k).mono oM
  rw[e];obtain ⟨f,E,hf,hE,hC⟩:=Z;rw[rem_s] at hC
  change E+(pot wt f k+f k*wt k)+_≤_ at hC
  have hf1:∀ j,LQ (upd f a (f k+sg k+1) j) (b1.getD j 0):=by
    rw[h1];exact lq_upd hf (((hf a).add ((hf k).mul hx)).mono oM)
  have hp:pot wt (upd (upd f a (f k+sg k+1)) b (f k+sg k+1)) k≤pot wt f k+(f k*wt k+(sg k+1)*wt k):=by
    rw[pot_upd,pot_upd,if_pos hak,if_pos hbk];have h2:=Nat.mul_le_mul_left (f k+sg k+1) ha;rw[Nat.mul_add,show (f k+sg k+1)*wt k=f k*wt k+(sg k+1)*wt k by rw[show f k+sg k+1=f k+(sg k+1) by omega,Nat.add_mul]] at h2
    omega
  have hp1:upd f a (f k+sg k+1) b≤pot wt f k+(f k*wt k+(sg k+1)*wt k):=by
    have h3:=pot_le wt (upd f a (f k+sg k+1)) k hws b hbk;rw[pot_upd,if_pos hak] at h3
    have h2:=Nat.mul_le_mul_left (f k+sg k+1) (show wt a≤wt k by omega);rw[show (f k+sg k+1)*wt k=f k*wt k+(sg k+1)*wt k by rw[show f k+sg k+1=f k+(sg k+1) by omega,Nat.add_mul]] at h2
    omega
  refine ⟨z0,(hf1 b).mono ?_,z1,upd (upd f a (f k+sg k+1)) b (f k+sg k+1),E,lq_upd hf1 (((hf1 b).add ((hf k).mul hy)).mono oM),hE,?_⟩
  · rw[Nat.add_mul (sg k) 2] at hC;rw[Nat.add_mul (sg k) 1] at hp1;omega
  · rw[Nat.add_mul (sg k) 2] at hC;rw[Nat.add_mul (sg k) 1] at hp;omega
end
section
variable {a b q:Rat} {op n:Int} {K M:Nat}
end
def Tame (z:Nat)(l:List Stp):Prop:=∀ k,k<l.length→(l.getD k stp0).op=8→(k=z → -12≤(l.getD k stp0).n∧(l.getD k stp0).n≤12)∧(k≠z → -1≤(l.getD k stp0).n∧(l.getD k stp0).n≤2)
theorem lq_snoc {v:List Rat}{x:Rat}{K:Nat}(h:∀ j,LQ K (v.getD j 0))(hx:LQ K x)(h1:1≤K)(j:Nat):LQ K ((v++[x]).getD j 0):=by
  rw[getD_snoc]
  split
  · exact h j
  · split
    · exact hx
    · exact lq0 h1
section
variable {z:Nat} {l:List Stp} {at_ way:List Rat} (ht:Tame z l) (hq:∀ i,LQ 1 (l.getD i stp0).q) (ha:∀ j,LQ 1 (at_.getD j 0))
include ht hq ha
end
theorem dotq_comm (a b:List Rat):∀ n,dotq a b n=dotq b a n
  | 0=>rfl
  | n+1=>by show dotq a b n+_=dotq b a n+_;rw[dotq_comm a b n,Rat.mul_comm]
theorem dotq_rep0 (m:Nat)(b:List Rat):∀ n,dotq (List.replicate m 0) b n=0
  | 0=>rfl
  | n+1=>by show dotq _ b n+_=_;rw[dotq_rep0 m b n,rep_zero];grind
def unitv (n j:Nat):List Rat:=(List.replicate n (0:Rat)).set j ((1:Int):Rat)
theorem dotq_unit {g:List Rat}{n j:Nat}(h:j<n):dotq g (unitv n j) n=g.getD j 0:=by
  rw[dotq_comm];unfold unitv;rw[dotq_set' (x:=((1:Int):Rat)) (by simpa using h) h (by rw[rep_zero];grind),dotq_rep0,show ((1:Int):Rat)=1 from rfl];grind
def tgt (l:List Stp)(os:List Int)(at_ by_ way:List Rat):Rat:=dotq by_ (pickL (tders l at_ way l.length) os) os.length
def gradT (inp:Nat)(l:List Stp)(os:List Int)(at_ by_:List Rat):List Rat:=(List.range inp).map fun j=>tgt l os at_ by_ (unitv inp j)
def backE (inp:Int)(l:List Stp)(os:List Int)(at_ by_:List Rat):Int:=if chkTp inp l os=0 then (if (at_.length:Int)=inp∧by_.length=os.length then terr true l at_ l.length else 5) else 1
def backO (inp:Int)(l:List Stp)(os:List Int)(at_ by_:List Rat):List Rat:=if backE inp l os at_ by_=0 then pickL (tvals l at_ l.length) os else []
def backG (inp:Int)(l:List Stp)(os:List Int)(at_ by_:List Rat):List Rat:=if backE inp l os at_ by_=0 then gradT inp.toNat l os at_ by_ else []
section
variable {inp:Int} {l:List Stp} {os:List Int} {at_ by_:List Rat}
theorem back_n {e:Int}(h:backE inp l os at_ by_=e)(he:e≠0):backE inp l os at_ by_=e∧backO inp l os at_ by_=[]∧backG inp l os at_ by_=[] :=
  ⟨h,if_neg (by rw[h];exact he),if_neg (by rw[h];exact he)⟩
theorem back_1 (h:chkTp inp l os≠0):backE inp l os at_ by_=1∧backO inp l os at_ by_=[]∧backG inp l os at_ by_=[]:=back_n (if_neg h) kD
theorem back_5 (h:chkTp inp l os=0)(h2:¬((at_.length:Int)=inp∧by_.length=os.length)):backE inp l os at_ by_=5∧backO inp l os at_ by_=[]∧backG inp l os at_ by_=[]:=back_n (by unfold backE;rw[if_pos h,if_neg h2]) kD
theorem back_e (h:chkTp inp l os=0)(h2:(at_.length:Int)=inp)(h3:by_.length=os.length)(h4:terr true l at_ l.length≠0):backE inp l os at_ by_=terr true l at_ l.length∧backO inp l os at_ by_=[]∧backG inp l os at_ by_=[]:=back_n (by unfold backE;rw[if_pos h,if_pos ⟨h2,h3⟩]) h4
theorem back_0 (h:chkTp inp l os=0)(h2:(at_.length:Int)=inp)(h3:by_.length=os.length)(h4:terr true l at_ l.length=0):backE inp l os at_ by_=0∧backO inp l os at_ by_=pickL (tvals l at_ l.length) os∧backG inp l os at_ by_=gradT inp.toNat l os at_ by_:=by
  have e:backE inp l os at_ by_=0:=by unfold backE;rw[if_pos h,if_pos ⟨h2,h3⟩,h4]
  exact ⟨e,if_pos e,if_pos e⟩
end
theorem pick_get {vs:List Rat}{os:List Int}{i:Nat}(h:i<os.length):(pickL vs os).getD i 0=vs.getD (os.getD i 0).toNat 0:=by
  unfold pickL;simp[List.getD_eq_getElem?_getD,h]
def Bo (l:List Stp)(os:List Int)(at_ by_:List Rat)(i:Nat)(bar:List Rat):Prop :=
  ∀ way,dotq bar (tders l at_ way l.length) l.length=dotq by_ (pickL (tders l at_ way l.length) os) i
def Bos (wt:Nat→Nat)(n W i:Nat)(bar:List Rat):Prop:=∃ f:Nat→Nat,(∀ j,LQ (f j) (bar.getD j 0))∧pot wt f n≤pot wt (fun _=>1) n+i*(2*W)
section
variable {l:List Stp} {os:List Int} {at_ by_ bar:List Rat} {i:Nat}
theorem Bo.init:Bo l os at_ by_ 0 (List.replicate l.length 0):=fun way=>by rw[dotq_rep0];rfl
theorem Bo.step (B:Bo l os at_ by_ i bar)(hi:i<os.length)(ho:(os.getD i 0).toNat<l.length)(hl:bar.length=l.length):Bo l os at_ by_ (i+1) (bar.set (os.getD i 0).toNat (bar.getD (os.getD i 0).toNat 0+by_.getD i 0)):=fun way=>by
  show _=dotq by_ _ i+_
  rw[dotq_set' oM ho rfl,B way,pick_get hi]
theorem Bos.init (wt:Nat→Nat)(n W:Nat):Bos wt n W 0 (List.replicate n 0):=⟨fun _=>1,fun j=>by rw[rep_zero];exact lq0 (k:=1) (Nat.le_refl 1),Nat.le_add_right _ _⟩
theorem Bos.step {wt:Nat→Nat}{n W o:Nat}{y:Rat}(Z:Bos wt n W i bar)(ho:o<n)(hW:wt o≤W)(hy:LQ 1 y):Bos wt n W (i+1) (bar.set o (bar.getD o 0+y)):=by
  obtain ⟨f,hf,hp⟩:=Z;refine ⟨upd f o 2,lq_upd hf ((hf o).add hy),?_⟩;rw[pot_upd,if_pos ho,Nat.add_mul];omega
theorem Bos.lb {wt:Nat→Nat}{n W C:Nat}(Z:Bos wt n W i bar)(hw:∀ j,j<n→1≤wt j)(hC:pot wt (fun _=>1) n+i*(2*W)≤C):∀ j,j<n→LQ C (bar.getD j 0):=fun j hj=>by
  obtain ⟨f,hf,hp⟩:=Z;have:=pot_le wt f n hw j hj;exact (hf j).mono oM
theorem Bos.bz {wt sg:Nat→Nat}{n W C inp:Nat}(Z:Bos wt n W i bar)(hC:1+pot wt (fun _=>1) n+i*(2*W)+rem_ wt sg n≤C):Bz wt sg C n bar (List.replicate inp 0):=by
  obtain ⟨f,hf,hp⟩:=Z;exact ⟨f,1,hf,fun j=>by rw[rep_zero];exact lq0 oM,by omega⟩
theorem Bo.bk (B:Bo l os at_ by_ os.length bar)(inp:Nat):Bk l at_ inp (tgt l os at_ by_) l.length bar (List.replicate inp 0):=fun way=>by
  rw[B way,dotq_rep0,Rat.add_zero];rfl
theorem Bk.fin {inp:Nat}{g:List Rat}(B:Bk l at_ inp (tgt l os at_ by_) 0 bar g)(hg:g.length=inp):g=gradT inp l os at_ by_∧∀ way,dotq g way inp=tgt l os at_ by_ way:=by
  have h1:∀ way,dotq g way inp=tgt l os at_ by_ way:=fun way=>by
    have:=B way
    change (0:Rat)+_=_ at this
    rw[←this];grind
  refine ⟨list_ext (by unfold gradT;rw[List.length_map,List.length_range,hg]) fun j=>?_,h1⟩
  by_cases hj:j<inp
  · unfold gradT
    rw[←dotq_unit hj,h1];simp[hj]
  · rw[getD_outR oM,getD_outR (by unfold gradT;rw[List.length_map,List.length_range];omega)]
end
def wlS (l:List Stp):Nat→List Int
  | 0=>[]
  | k+1=>wlS l k++[weightS (l.getD k stp0) (wlS l k)]
theorem wlS_len (l:List Stp):∀ k,(wlS l k).length=k
  | 0=>rfl
  | k+1=>by show (wlS l k++[_]).length=_;rw[List.length_append,wlS_len l k];rfl
def weL (l:List Stp):List Int:=wlS l l.length
def vaL (l:List Stp)(at_:List Rat):List Rat:=tvals l at_ l.length
def deL (l:List Stp)(at_ way:List Rat):List Rat:=tders l at_ way l.length
theorem weL_len (l:List Stp):(weL l).length=l.length:=wlS_len _ _
theorem vaL_len (l:List Stp)(at_:List Rat):(vaL l at_).length=l.length:=tvals_len _ _ _
theorem deL_len (l:List Stp)(at_ way:List Rat):(deL l at_ way).length=l.length:=tders_len _ _ _ _
section
variable (l:List Stp) (s:Stp) (at_ way:List Rat)
theorem wlS_snoc:∀ k,k≤l.length→wlS (l++[s]) k=wlS l k
  | 0,_=>rfl
  | k+1,h=>by
    show wlS (l++[s]) k++[_]=wlS l k++[_]
    rw[wlS_snoc k oM,getD_snoc,if_pos oM]
theorem tvals_snoc:∀ k,k≤l.length→tvals (l++[s]) at_ k=tvals l at_ k
  | 0,_=>rfl
  | k+1,h=>by
    show tvals (l++[s]) at_ k++[_]=tvals l at_ k++[_]
    rw[tvals_snoc k oM,getD_snoc,if_pos oM]
theorem tders_snoc:∀ k,k≤l.length→tders (l++[s]) at_ way k=tders l at_ way k
  | 0,_=>rfl
  | k+1,h=>by
    show tders (l++[s]) at_ way k++[_]=tders l at_ way k++[_]
    rw[tders_snoc k oM,tvals_snoc l s at_ k oM,getD_snoc,if_pos oM]
theorem terr_snoc (sm:Bool):∀ k,k≤l.length→terr sm (l++[s]) at_ k=terr sm l at_ k
  | 0,_=>rfl
  | k+1,h=>by
    show (if terr sm (l++[s]) at_ k=0 then serr sm ((l++[s]).getD k stp0) (tvals (l++[s]) at_ k) else terr sm (l++[s]) at_ k)=(if terr sm l at_ k=0 then serr sm (l.getD k stp0) (tvals l at_ k) else terr sm l at_ k)
    rw[terr_snoc sm k oM,tvals_snoc l s at_ k oM,getD_snoc,if_pos (show k<l.length by omega)]
theorem len_snoc:(l++[s]).length=l.length+1:=by rw[List.length_append];rfl
theorem at_end:(l++[s]).getD l.length stp0=s:=by rw[getD_snoc,if_neg (Nat.lt_irrefl _),if_pos rfl]
theorem at_old {k:Nat}(h:k<l.length):(l++[s]).getD k stp0=l.getD k stp0:=by rw[getD_snoc,if_pos h]
theorem weL_snoc:weL (l++[s])=weL l++[weightS s (weL l)]:=by
  unfold weL;rw[len_snoc]
  show wlS (l++[s]) l.length++[weightS ((l++[s]).getD l.length stp0) (wlS (l++[s]) l.length)]=_
  rw[wlS_snoc l s _ (Nat.le_refl _),at_end]
theorem vaL_snoc:vaL (l++[s]) at_=vaL l at_++[sval s at_ (vaL l at_)]:=by
  unfold vaL;rw[len_snoc]
  show tvals (l++[s]) at_ l.length++[sval ((l++[s]).getD l.length stp0) at_ (tvals (l++[s]) at_ l.length)]=_
  rw[tvals_snoc l s at_ _ (Nat.le_refl _),at_end]
theorem deL_snoc:deL (l++[s]) at_ way=deL l at_ way++[sder s way (vaL l at_) (deL l at_ way)]:=by
  unfold deL vaL;rw[len_snoc]
  show tders (l++[s]) at_ way l.length++[sder ((l++[s]).getD l.length stp0) way (tvals (l++[s]) at_ l.length) (tders (l++[s]) at_ way l.length)]=_
  rw[tders_snoc l s at_ way _ (Nat.le_refl _),tvals_snoc l s at_ _ (Nat.le_refl _),at_end]
theorem teL_snoc (sm:Bool):terr sm (l++[s]) at_ (l++[s]).length=if terr sm l at_ l.length=0 then serr sm s (vaL l at_) else terr sm l at_ l.length:=by
  rw[len_snoc]
  show (if terr sm (l++[s]) at_ l.length=0 then serr sm ((l++[s]).getD l.length stp0) (tvals (l++[s]) at_ l.length) else terr sm (l++[s]) at_ l.length)=_
  rw[terr_snoc l s at_ sm _ (Nat.le_refl _),tvals_snoc l s at_ _ (Nat.le_refl _),at_end];rfl
end
theorem gsn {α:Type}{l:List α}{x d:α}{i n:Nat}(hl:l.length=n)(h:i<n):(l++[x]).getD i d=l.getD i d:=by rw[getD_snoc,if_pos oM]
theorem gsn' {α:Type}{l:List α}{x d:α}{n:Nat}(hl:l.length=n):(l++[x]).getD n d=x:=by rw[getD_snoc,if_neg oM,if_pos hl.symm]
theorem Formed.lt {inp:Int}{i:Nat}{s:Stp}(h:Formed inp i s)(h0:0<i):s.a.toNat<i∧s.b.toNat<i:=by
  obtain ⟨_,⟨a1,a2⟩,⟨b1,b2⟩,_⟩:=h
  constructor
  · by_cases e:0<ari s.op
    · have:=a1 e;omega
    · have:=a2 e;omega
  · by_cases e:1<ari s.op
    · have:=b1 e;omega
    · have:=b2 e;omega
theorem weight_ge {inp:Int}{s:Stp}{L:List Int}{k:Nat}(w:Wts L k)(h:Formed inp k s):(0<ari s.op→L.getD s.a.toNat 0≤weightS s L)∧(1<ari s.op→L.getD s.a.toNat 0+L.getD s.b.toNat 0≤weightS s L):=by
  have hw:=w.weight h;have f1:=h.2.1.1;have f2:=h.2.2.1.1;have ha:0<ari s.op→1≤L.getD s.a.toNat 0:=fun e=>by have:=f1 e;exact (w _ oM).1
  have hb:1<ari s.op→1≤L.getD s.b.toNat 0:=fun e=>by have:=f2 e;exact (w _ oM).1
  rcases ari_cases s.op with ⟨e,_⟩|⟨e,_⟩|⟨e,_⟩|⟨e,_⟩
  · exact ⟨fun x=>by omega,fun x=>by omega⟩
  · refine ⟨fun x=>?_,fun x=>by omega⟩
    have h1:=ha x
    unfold weightS
    rw[if_neg oM,if_neg oM]
    split
    · omega
    · split
      · obtain ⟨m,hm⟩:∃ m:Int,max (max s.n (0-s.n)) 1=m+1:=⟨max (max s.n (0-s.n)) 1-1,by omega⟩
        have h2:0≤m*L.getD s.a.toNat 0:=Int.mul_nonneg oM oM;rw[hm,Int.add_mul,Int.one_mul];omega
      · omega
  · have e2:weightS s L=L.getD s.a.toNat 0+L.getD s.b.toNat 0:=by unfold weightS;rw[if_neg oM,if_pos e]
    rw[e2];exact ⟨fun x=>by have:=hb oM;omega,fun _=>Int.le_refl _⟩
  · exact ⟨fun x=>by omega,fun x=>by omega⟩
theorem pot_congr {wt wt' f f':Nat→Nat}:∀ k,(∀ j,j<k→wt j=wt' j∧f j=f' j)→pot wt f k=pot wt' f' k
  | 0,_=>rfl
  | k+1,h=>by
    show pot wt f k+_=pot wt' f' k+_
    rw[pot_congr k (fun j hj=>h j oM),(h k oM).1,(h k oM).2]
theorem pot_split (wt sg:Nat→Nat):∀ k,pot wt (fun j=>sg j+3) k=pot wt (fun _=>1) k+rem_ wt sg k
  | 0=>rfl
  | k+1=>by
    show pot wt (fun j=>sg j+3) k+(sg k+3)*wt k=pot wt (fun _=>1) k+1*wt k+rem_ wt sg (k+1)
    rw[pot_split wt sg k,rem_s,show (sg k+3)*wt k=1*wt k+(sg k+2)*wt k by rw[←Nat.add_mul,show 1+(sg k+2)=sg k+3 by omega]];omega
structure Rc (inp:Int) (at_:List Rat) (l:List Stp) (C:Nat):Prop where
  fm:∀ k,k<l.length→Formed inp k (l.getD k stp0)
  ws:∀ k,k<l.length→1≤(weL l).getD k 0∧(weL l).getD k 0≤2000
  vs:∀ j,LQ 100000 ((vaL l at_).getD j 0)
  wt:Wt l (fun k=>((weL l).getD k 0).toNat)
  sl:∃ sg:Nat→Nat,(∀ k,k<l.length→(l.getD k stp0).op≠2→LQ (sg k) (sla (l.getD k stp0).op (l.getD k stp0).n ((vaL l at_).getD (l.getD k stp0).a.toNat 0) ((vaL l at_).getD (l.getD k stp0).b.toNat 0))∧LQ (sg k) (slb (l.getD k stp0).op ((vaL l at_).getD (l.getD k stp0).a.toNat 0) ((vaL l at_).getD (l.getD k stp0).b.toNat 0)))∧pot (fun k=>((weL l).getD k 0).toNat) (fun k=>sg k+3) l.length≤C
  e0:∀ sm,terr sm l at_ l.length=0∨sm=true∧terr sm l at_ l.length=7
theorem Rc.nil (inp:Int)(at_:List Rat):Rc inp at_ [] 0:=⟨fun k hk=>absurd hk (Nat.not_lt_zero k),fun k hk=>absurd hk (Nat.not_lt_zero k),fun j=>by rw[show (vaL [] at_).getD j 0=0 from rfl];exact lq0 kD,fun k hk=>absurd hk (Nat.not_lt_zero k),⟨fun _=>0,fun k hk=>absurd hk (Nat.not_lt_zero k),Nat.le_refl _⟩,fun _=>.inl rfl⟩
section
variable {inp:Int} {at_ way:List Rat} {l:List Stp} {C:Nat}
theorem Rc.wts (h:Rc inp at_ l C):Wts (weL l) l.length:=fun j hj=>by have:=h.ws j hj;omega
theorem Rc.mono (h:Rc inp at_ l C){C':Nat}(hc:C≤C'):Rc inp at_ l C':=⟨h.fm,h.ws,h.vs,h.wt,by obtain ⟨sg,h1,h2⟩:=h.sl;exact ⟨sg,h1,Nat.le_trans h2 hc⟩,h.e0⟩
theorem Rc.snoc (h:Rc inp at_ l C){s:Stp}{g w:Nat}(hf:Formed inp l.length s)(hw:weightS s (weL l)≤(w:Nat))(hw2:w≤2000)(hv:LQ 100000 (sval s at_ (vaL l at_)))(h0:s.op=2∨0<l.length)
    (hs:s.op≠2→LQ g (sla s.op s.n ((vaL l at_).getD s.a.toNat 0) ((vaL l at_).getD s.b.toNat 0))∧LQ g (slb s.op ((vaL l at_).getD s.a.toNat 0) ((vaL l at_).getD s.b.toNat 0)))
    (hk:s.op≠2→okq s.op s.n ((vaL l at_).getD s.a.toNat 0) ((vaL l at_).getD s.b.toNat 0)):Rc inp at_ (l++[s]) (C+(g+3)*w):=by
  have hww:=h.wts.weight hf;have hL:=len_snoc l s;have lt1:∀ k,k<l.length→(l.getD k stp0).a.toNat<l.length∧(l.getD k stp0).b.toNat<l.length:=fun k hk=>by have:=(h.fm k hk).ix;omega
  refine ⟨fun k hk=>?_,fun k hk=>?_,?_,fun k hk=>?_,?_,fun sm=>?_⟩
  · rw[hL] at hk
    by_cases e:k<l.length
    · rw[at_old l s e];exact h.fm k e
    · obtain rfl:k=l.length:=by omega
      rw[at_end];exact hf
  · rw[hL] at hk
    rw[weL_snoc]
    by_cases e:k<l.length
    · rw[gsn (weL_len l) e];exact h.ws k e
    · obtain rfl:k=l.length:=by omega
      rw[gsn' (weL_len l)];omega
  · rw[vaL_snoc];exact lq_snoc h.vs hv kD
  · rw[hL] at hk
    rw[weL_snoc]
    by_cases e:k<l.length
    · obtain ⟨w1,w2,w3⟩:=h.wt k e
      obtain ⟨l1,l2⟩:=lt1 k e;rw[at_old l s e]
      dsimp only
      rw[gsn (weL_len l) e,gsn (weL_len l) l1,gsn (weL_len l) l2];exact ⟨w1,w2,w3⟩
    · obtain rfl:k=l.length:=by omega
      obtain ⟨g1,g2⟩:=weight_ge h.wts hf;have f1:=hf.2.1.1;have f2:=hf.2.2.1.1;rw[at_end]
      dsimp only
      rw[gsn' (weL_len l)];refine ⟨by omega,fun x=>?_,fun x=>?_⟩
      · have:=f1 x;have:=g1 x
        rw[gsn (weL_len l) oM];omega
      · have:=f1 oM;have:=f2 x;have:=g2 x
        have:=(h.ws s.a.toNat oM).1;have:=(h.ws s.b.toNat oM).1;rw[gsn (weL_len l) oM,gsn (weL_len l) oM];omega
  · obtain ⟨sg,h1,h2⟩:=h.sl
    refine ⟨fun j=>if j=l.length then g else sg j,fun k hk ho=>?_,?_⟩
    · rw[hL] at hk
      rw[vaL_snoc]
      by_cases e:k<l.length
      · obtain ⟨l1,l2⟩:=lt1 k e
        rw[at_old l s e] at ho ⊢
        dsimp only
        rw[gsn (vaL_len l at_) l1,gsn (vaL_len l at_) l2,if_neg (by omega:¬k=l.length)];exact h1 k e ho
      · obtain rfl:k=l.length:=by omega
        rw[at_end] at ho ⊢
        rcases h0 with h0|h0
        · exact absurd h0 ho
        · obtain ⟨l1,l2⟩:=hf.lt h0
          dsimp only
          rw[gsn (vaL_len l at_) l1,gsn (vaL_len l at_) l2,if_pos rfl];exact hs ho
    · rw[hL]
      show pot _ _ l.length+((if l.length=l.length then g else sg l.length)+3)*((weL (l++[s])).getD l.length 0).toNat≤_
      rw[if_pos rfl,weL_snoc,gsn' (weL_len l),pot_congr (wt':=fun k=>((weL l).getD k 0).toNat) (f':=fun k=>sg k+3) l.length (fun j hj=>⟨by rw[gsn (weL_len l) hj],by dsimp only;rw[if_neg oM]⟩)];have:=Nat.mul_le_mul_left (g+3) (show (weightS s (weL l)).toNat≤w by omega)
      omega
  · rw[teL_snoc]
    rcases h.e0 sm with e|⟨e1,e⟩
    · rw[if_pos e]
      unfold serr
      by_cases o2:s.op=2
      · rw[if_pos o2];exact .inl rfl
      · rw[if_neg o2,if_pos (hk o2)]
        split
        · rename_i e3;exact .inr ⟨e3.1,rfl⟩
        · exact .inl rfl
    · rw[if_neg (by rw[e];decide)];exact .inr ⟨e1,e⟩
structure At (at_ way:List Rat) (l:List Stp) (i:Int) (v d:Rat) (W K:Nat):Prop where
  i0:0≤i
  i1:i<(l.length:Nat)
  vv:(vaL l at_).getD i.toNat 0=v
  dd:(deL l at_ way).getD i.toNat 0=d
  ww:(weL l).getD i.toNat 0≤(W:Nat)
  kk:LQ K v
variable {i j:Int} {u v d e:Rat} {W K W' K':Nat}
theorem At.mono (a:At at_ way l i v d W K)(hW:W≤W')(hK:K≤K'):At at_ way l i v d W' K':=⟨a.i0,a.i1,a.vv,a.dd,by have:=a.ww;omega,a.kk.mono hK⟩
theorem At.snoc (a:At at_ way l i v d W K)(s:Stp):At at_ way (l++[s]) i v d W K:=by
  have h0:=a.i0;have h1:=a.i1;refine ⟨h0,by rw[len_snoc];omega,?_,?_,?_,a.kk⟩
  · rw[vaL_snoc,gsn (vaL_len l at_) oM];exact a.vv
  · rw[deL_snoc,gsn (deL_len l at_ way) oM];exact a.dd
  · rw[weL_snoc,gsn (weL_len l) oM];exact a.ww
theorem At.app (a:At at_ way l i v d W K)(r:List Stp):At at_ way (l++r) i v d W K:=by
  induction r generalizing l with
  | nil=>rw[List.append_nil];exact a
  | cons s r ih=>rw[show l++s::r=(l++[s])++r by simp];exact ih (a.snoc s)
theorem Rc.push (h:Rc inp at_ l C){s:Stp}{g w:Nat}(hf:Formed inp l.length s)(hv:sval s at_ (vaL l at_)=v)(hd:sder s way (vaL l at_) (deL l at_ way)=d)(hw:weightS s (weL l)≤(w:Nat))(hw2:w≤2000)(hK:LQ K v)(hK2:K≤100000)(h0:s.op=2∨0<l.length)
    (hs:s.op≠2→LQ g (sla s.op s.n ((vaL l at_).getD s.a.toNat 0) ((vaL l at_).getD s.b.toNat 0))∧LQ g (slb s.op ((vaL l at_).getD s.a.toNat 0) ((vaL l at_).getD s.b.toNat 0)))
    (hk:s.op≠2→okq s.op s.n ((vaL l at_).getD s.a.toNat 0) ((vaL l at_).getD s.b.toNat 0)):Rc inp at_ (l++[s]) (C+(g+3)*w)∧At at_ way (l++[s]) ((l.length:Nat):Int) v d w K:=by
  refine ⟨h.snoc hf hw hw2 (by rw[hv];exact hK.mono hK2) h0 hs hk,by omega,by rw[len_snoc];omega,?_,?_,?_,hK⟩
  · rw[vaL_snoc,show ((l.length:Nat):Int).toNat=l.length by omega,gsn' (vaL_len l at_)];exact hv
  · rw[deL_snoc,show ((l.length:Nat):Int).toNat=l.length by omega,gsn' (deL_len l at_ way)];exact hd
  · rw[weL_snoc,show ((l.length:Nat):Int).toNat=l.length by omega,gsn' (weL_len l)];exact hw
theorem arO1:ari 1=0:=by decide
theorem arO2:ari 2=0:=by decide
theorem arO3:ari 3=2:=by decide
theorem arO4:ari 4=2:=by decide
theorem arO5:ari 5=2:=by decide
theorem arO8:ari 8=1:=by decide
theorem arO10:ari 10=1:=by decide
theorem arO11:ari 11=1:=by decide
theorem form0 {op n:Int}{q:Rat}(h:ari op=0)(hq:op≠1→q.num=0)(h2:op=2→0≤n∧n<inp)(h8:op≠2→n=0)(k:Nat):Formed inp k ⟨op,0,0,n,q⟩ :=
  ⟨by show 0≤ari op;omega,⟨fun x=>by have:0<ari op:=x;omega,fun _=>rfl⟩,⟨fun x=>by have:1<ari op:=x;omega,fun _=>rfl⟩,hq,h2,fun x=>by have e:op=8:=x;rw[e] at h;exact absurd h kD,fun x _=>h8 x⟩
theorem form1 (a:At at_ way l i v d W K){op n:Int}(h:ari op=1)(h2:op≠2)(h8:op=8 → -12≤n∧n≤12)(h9:op≠8→n=0):Formed inp l.length ⟨op,i,0,n,0⟩ :=
  ⟨by show 0≤ari op;omega,⟨fun _=>⟨a.i0,a.i1⟩,fun x=>absurd (show 0<ari op by omega) x⟩,⟨fun x=>by have:1<ari op:=x;omega,fun _=>rfl⟩,fun _=>rfl,fun x=>absurd x h2,h8,fun _ x=>h9 x⟩
theorem form2 (a:At at_ way l i u e W K)(b:At at_ way l j v d W' K'){op:Int}(h:ari op=2)(h2:op≠2)(h8:op≠8):Formed inp l.length ⟨op,i,j,0,0⟩ :=
  ⟨by show 0≤ari op;omega,⟨fun _=>⟨a.i0,a.i1⟩,fun x=>absurd (show 0<ari op by omega) x⟩,⟨fun _=>⟨b.i0,b.i1⟩,fun x=>absurd (show 1<ari op by omega) x⟩,fun _=>rfl,fun x=>absurd x h2,fun x=>absurd x h8,fun _ _=>rfl⟩
theorem okN {op n:Int}{a b:Rat}(h6:op≠6)(h8:op=8→¬n<0):okq op n a b:=⟨fun x=>absurd x h6,fun x y=>absurd y (h8 x)⟩
theorem lqO:LQ 1 (((1:Int):Rat)):=LQ.lit (z:=1) kD
theorem Rc.name (h:Rc inp at_ l C)(p:Nat)(hp:(p:Int)<inp)(hq:LQ 1 (at_.getD p 0)):Rc inp at_ (l++[nmT p]) (C+3)∧At at_ way (l++[nmT p]) ((l.length:Nat):Int) (at_.getD p 0) (way.getD p 0) 1 1 :=
  h.push (g:=0) (w:=1) (form0 arO2 (fun _=>rfl) (fun _=>⟨by omega,hp⟩) (fun x=>absurd rfl x) _) rfl rfl (Int.le_refl _) kD hq kD (.inl rfl) (fun x=>absurd rfl x) (fun x=>absurd rfl x)
theorem Rc.num (h:Rc inp at_ l C)(h0:0<l.length){q:Rat}(hq:LQ 1 q):Rc inp at_ (l++[numT q]) (C+4)∧At at_ way (l++[numT q]) ((l.length:Nat):Int) q 0 1 1 :=
  h.push (g:=1) (w:=1) (form0 arO1 (fun x=>absurd rfl x) (fun x=>absurd x kD) (fun _=>rfl) _) rfl (by show (0:Rat)+0=0;grind) (Int.le_refl _) kD hq kD (.inr h0) (fun _=>⟨lq0 kD,lq0 kD⟩) (fun _=>okN (op:=1) (n:=0) kD kD)
theorem At.pos (a:At at_ way l i v d W K):0<l.length:=by have:=a.i0;have:=a.i1;omega
theorem Rc.mul (h:Rc inp at_ l C)(a:At at_ way l i u e W K)(b:At at_ way l j v d W' K')(hW:W+W'≤2000)(hK:K+K'≤100000) :
    Rc inp at_ (l++[⟨5,i,j,0,0⟩]) (C+(K+K'+3)*(W+W'))∧At at_ way (l++[⟨5,i,j,0,0⟩]) ((l.length:Nat):Int) (u*v) (v*e+u*d) (W+W') (K+K'):=by
  refine h.push (form2 a b arO5 kD kD) ?_ ?_ ?_ hW (a.kk.mul b.kk) hK (.inr a.pos) (fun _=>?_) (fun _=>okN (op:=5) (n:=0) kD kD)
  · show (vaL l at_).getD i.toNat 0*(vaL l at_).getD j.toNat 0=_
    rw[a.vv,b.vv]
  · show (vaL l at_).getD j.toNat 0*(deL l at_ way).getD i.toNat 0+(vaL l at_).getD i.toNat 0*(deL l at_ way).getD j.toNat 0=_
    rw[a.vv,b.vv,a.dd,b.dd]
  · show (weL l).getD i.toNat 0+(weL l).getD j.toNat 0≤_
    have:=a.ww;have:=b.ww;omega
  · show LQ _ ((vaL l at_).getD j.toNat 0)∧LQ _ ((vaL l at_).getD i.toNat 0)
    rw[a.vv,b.vv];exact ⟨b.kk.mono oM,a.kk.mono oM⟩
theorem Rc.add (h:Rc inp at_ l C)(a:At at_ way l i u e W K)(b:At at_ way l j v d W' K')(hW:W+W'≤2000)(hK:K+K'+1≤100000) :
    Rc inp at_ (l++[⟨3,i,j,0,0⟩]) (C+4*(W+W'))∧At at_ way (l++[⟨3,i,j,0,0⟩]) ((l.length:Nat):Int) (u+v) (e+d) (W+W') (K+K'+1):=by
  refine h.push (g:=1) (form2 a b arO3 kD kD) ?_ ?_ ?_ hW (a.kk.add b.kk) hK (.inr a.pos) (fun _=>⟨lqO,lqO⟩) (fun _=>okN (op:=3) (n:=0) kD kD)
  · show (vaL l at_).getD i.toNat 0+(vaL l at_).getD j.toNat 0=_
    rw[a.vv,b.vv]
  · show ((1:Int):Rat)*(deL l at_ way).getD i.toNat 0+((1:Int):Rat)*(deL l at_ way).getD j.toNat 0=_
    rw[a.dd,b.dd,show ((1:Int):Rat)=1 from rfl,Rat.one_mul,Rat.one_mul]
  · show (weL l).getD i.toNat 0+(weL l).getD j.toNat 0≤_
    have:=a.ww;have:=b.ww;omega
theorem Rc.sub (h:Rc inp at_ l C)(a:At at_ way l i u e W K)(b:At at_ way l j v d W' K')(hW:W+W'≤2000)(hK:K+K'+1≤100000) :
    Rc inp at_ (l++[⟨4,i,j,0,0⟩]) (C+4*(W+W'))∧At at_ way (l++[⟨4,i,j,0,0⟩]) ((l.length:Nat):Int) (u-v) (e-d) (W+W') (K+K'+1):=by
  refine h.push (g:=1) (form2 a b arO4 kD kD) ?_ ?_ ?_ hW (a.kk.sub b.kk) hK (.inr a.pos) (fun _=>⟨lqO,lqO.neg⟩) (fun _=>okN (op:=4) (n:=0) kD kD)
  · show (vaL l at_).getD i.toNat 0-(vaL l at_).getD j.toNat 0=_
    rw[a.vv,b.vv]
  · show ((1:Int):Rat)*(deL l at_ way).getD i.toNat 0 + -((1:Int):Rat)*(deL l at_ way).getD j.toNat 0=_
    rw[a.dd,b.dd,show ((1:Int):Rat)=1 from rfl];grind
  · show (weL l).getD i.toNat 0+(weL l).getD j.toNat 0≤_
    have:=a.ww;have:=b.ww;omega
theorem Rc.sq (h:Rc inp at_ l C)(a:At at_ way l i u e W K)(hW:2*W≤2000)(hK:2*K≤100000) :
    Rc inp at_ (l++[⟨8,i,0,2,0⟩]) (C+(K+5)*(2*W))∧At at_ way (l++[⟨8,i,0,2,0⟩]) ((l.length:Nat):Int) (u*u) (u*((2:Int):Rat)*e) (2*W) (2*K):=by
  refine h.push (g:=K+2) (form1 a arO8 kD (fun _=>by decide) (fun x=>absurd rfl x)) ?_ ?_ ?_ hW ((a.kk.mul a.kk).mono oM) hK (.inr a.pos) (fun _=>?_) (fun _=>okN (op:=8) (n:=2) kD kD)
  · show ((1:Int):Rat)*(vaL l at_).getD i.toNat 0*(vaL l at_).getD i.toNat 0=_
    rw[a.vv,show ((1:Int):Rat)=1 from rfl,Rat.one_mul]
  · show ((1:Int):Rat)*(vaL l at_).getD i.toNat 0*((2:Int):Rat)*(deL l at_ way).getD i.toNat 0+0=_
    rw[a.vv,a.dd,show ((1:Int):Rat)=1 from rfl,Rat.one_mul,Rat.add_zero]
  · show (2:Int)*(weL l).getD i.toNat 0≤_
    have:=a.ww;omega
  · show LQ _ (((1:Int):Rat)*(vaL l at_).getD i.toNat 0*((2:Int):Rat))∧LQ _ (0:Rat)
    rw[a.vv];exact ⟨((lqO.mul a.kk).mul (LQ.lit (z:=2) kD)).mono oM,lq0 oM⟩
theorem Rc.ramp (h:Rc inp at_ l C)(a:At at_ way l i u e W K)(hW:W≤2000)(hK:K≤100000)(hK1:1≤K) :
    Rc inp at_ (l++[⟨10,i,0,0,0⟩]) (C+4*W)∧At at_ way (l++[⟨10,i,0,0,0⟩]) ((l.length:Nat):Int) (maxR u 0) (((max u.num.sign 0:Int):Rat)*e) W K:=by
  refine h.push (g:=1) (form1 a arO10 kD (fun x=>absurd x kD) (fun _=>rfl)) ?_ ?_ ?_ hW (LQ.maxR a.kk (lq0 hK1)) hK (.inr a.pos) (fun _=>⟨?_,lq0 kD⟩) (fun _=>okN (op:=10) (n:=0) kD kD)
  · show maxR ((vaL l at_).getD i.toNat 0) 0=_
    rw[a.vv]
  · show ((max ((vaL l at_).getD i.toNat 0).num.sign 0:Int):Rat)*(deL l at_ way).getD i.toNat 0+0=_
    rw[a.vv,a.dd,Rat.add_zero]
  · show (weL l).getD i.toNat 0≤_
    exact a.ww
  · show LQ _ ((max ((vaL l at_).getD i.toNat 0).num.sign 0:Int):Rat)
    have:=sign_bd ((vaL l at_).getD i.toNat 0).num;exact LQ.int oM oM
theorem Rc.bent (h:Rc inp at_ l C)(a:At at_ way l i u e W K)(hW:2*W≤2000)(hK:2*K+2≤100000) :
    Rc inp at_ (l++[⟨11,i,0,0,0⟩]) (C+(2*K+9)*(2*W))∧At at_ way (l++[⟨11,i,0,0,0⟩]) ((l.length:Nat):Int) (u/(qabs u+((1:Int):Rat))) ((((1:Int):Rat)/(((1:Int):Rat)+qabs u))*(((1:Int):Rat)/(((1:Int):Rat)+qabs u))*e) (2*W) (2*K+2):=by
  have h2:=lqO.div (lqO.add a.kk.abs);refine h.push (g:=2*K+6) (form1 a arO11 kD (fun x=>absurd x kD) (fun _=>rfl)) ?_ ?_ ?_ hW ((a.kk.div (a.kk.abs.add lqO)).mono oM) hK (.inr a.pos) (fun _=>⟨?_,lq0 oM⟩) (fun _=>okN (op:=11) (n:=0) kD kD)
  · show (vaL l at_).getD i.toNat 0/(qabs ((vaL l at_).getD i.toNat 0)+((1:Int):Rat))=_
    rw[a.vv]
  · show (((1:Int):Rat)/(((1:Int):Rat)+qabs ((vaL l at_).getD i.toNat 0)))*(((1:Int):Rat)/(((1:Int):Rat)+qabs ((vaL l at_).getD i.toNat 0)))*(deL l at_ way).getD i.toNat 0+0=_
    rw[a.vv,a.dd,Rat.add_zero]
  · show (2:Int)*(weL l).getD i.toNat 0≤_
    have:=a.ww;omega
  · show LQ _ ((((1:Int):Rat)/(((1:Int):Rat)+qabs ((vaL l at_).getD i.toNat 0)))*(((1:Int):Rat)/(((1:Int):Rat)+qabs ((vaL l at_).getD i.toNat 0))))
    rw[a.vv];exact (h2.mul h2).mono oM
end
def Nms (at_ way:List Rat)(l:List Stp)(n:Nat):Prop:=∀ p,p<n→At at_ way l ((p:Nat):Int) (at_.getD p 0) (way.getD p 0) 1 1
section
variable {at_ way:List Rat} {l:List Stp} {C n0:Nat}
theorem Nms.app {n:Nat}(h:Nms at_ way l n)(r:List Stp):Nms at_ way (l++r) n:=fun p hp=>(h p hp).app r
theorem nk_names (hq:∀ p,LQ 1 (at_.getD p 0)):∀ n,n≤n0→Rc ((n0:Nat):Int) at_ ((List.range n).map nmT) (n*3)∧Nms at_ way ((List.range n).map nmT) n
  | 0,_=>⟨Rc.nil _ _,fun p hp=>absurd hp (Nat.not_lt_zero p)⟩
  | n+1,h=>by
    obtain ⟨h1,h2⟩:=nk_names hq n oM;obtain ⟨h3,h4⟩:=h1.name (way:=way) n oM (hq n);rw[List.range_succ,List.map_append];rw[show ((List.range n).map nmT).length=n by simp] at h4
    refine ⟨h3.mono oM,fun p hp=>?_⟩
    by_cases e:p=n
    · subst e;exact h4
    · exact (h2 p oM).snoc _
theorem nk_nums {inp:Int}:∀ (xs:List Rat) {l:List Stp} {C:Nat},Rc inp at_ l C→0<l.length→(∀ j,LQ 1 (xs.getD j 0))→Rc inp at_ (l++xs.map numT) (C+xs.length*4)∧∀ j,j<xs.length→At at_ way (l++xs.map numT) ((l.length+j:Nat):Int) (xs.getD j 0) 0 1 1
  | [],l,C,h,_,_=>⟨by rw[List.map_nil,List.append_nil];exact h,fun j hj=>absurd hj (Nat.not_lt_zero j)⟩
  | q :: r,l,C,h,h0,hq=>by
    obtain ⟨h1,a1⟩:=h.num (way:=way) h0 (hq 0);obtain ⟨h2,a2⟩:=nk_nums r h1 (by rw[len_snoc];omega) (fun j=>hq (j+1));rw[len_snoc] at a2
    rw[show l++(q::r).map numT=(l++[numT q])++r.map numT by simp];refine ⟨h2.mono (by rw[List.length_cons];omega),fun j hj=>?_⟩;rw[List.length_cons] at hj
    cases j with
    | zero=>exact a1.app _
    | succ j =>
      have:=a2 j oM;rw[show l.length+(j+1)=l.length+1+j by omega];exact this
def cRow (W K:Nat):Nat:=(1+K+3)*(1+W)+4*(1+4*(W+1))
def cLay (W K:Nat):Nat:=4*cRow W K+(2*(4*K+9)+9)*(2*(4*W+5))
theorem sum0 {a b:Rat}(h:b=0):a+b=a:=by rw[h,Rat.add_zero]
section
variable {fr i Cn:Nat} {ix:List Int} {x dx:List Rat} {W K:Nat}
theorem nk_row {p0:List Stp × Int}{b db:Rat}(h:Rc ((n0:Nat):Int) at_ p0.1 C)(hN:Nms at_ way p0.1 n0)(hix:∀ j,j<Cn→At at_ way p0.1 (ix.getD j 0) (x.getD j 0) (dx.getD j 0) W K)(h0:At at_ way p0.1 p0.2 b db 1 1)(hfr:fr+i*Cn+Cn≤n0)(hC:Cn≤4)(hW:4*W+5≤2000)(hK:4*K+9≤100000) :
    ∀ j,j≤Cn→Rc ((n0:Nat):Int) at_ (rowS fr i Cn ix p0 j).1 (C+j*cRow W K)∧(∃ r,(rowS fr i Cn ix p0 j).1=p0.1++r) ∧
      At at_ way (rowS fr i Cn ix p0 j).1 (rowS fr i Cn ix p0 j).2 (b+sumF (fun c=>at_.getD (fr+i*Cn+c) 0*x.getD c 0) j) (db+sumF (fun c=>x.getD c 0*way.getD (fr+i*Cn+c) 0+at_.getD (fr+i*Cn+c) 0*dx.getD c 0) j) (1+j*(W+1)) (1+j*(K+2))
  | 0,_=>by
    refine ⟨h.mono oM,⟨[],(List.append_nil _).symm⟩,?_⟩;rw[show b+sumF (fun c=>at_.getD (fr+i*Cn+c) 0*x.getD c 0) 0=b from sum0 rfl,show db+sumF (fun c=>x.getD c 0*way.getD (fr+i*Cn+c) 0+at_.getD (fr+i*Cn+c) 0*dx.getD c 0) 0=db from sum0 rfl];exact h0.mono oM oM
  | j + 1,hj=>by
    obtain ⟨r1,⟨r,hr⟩,a⟩:=nk_row h hN hix h0 hfr hC hW hK j oM;have ap:At at_ way (rowS fr i Cn ix p0 j).1 ((fr+i*Cn+j:Nat):Int) (at_.getD (fr+i*Cn+j) 0) (way.getD (fr+i*Cn+j) 0) 1 1:=by rw[hr];exact (hN _ oM).app r
    have ax:At at_ way (rowS fr i Cn ix p0 j).1 (ix.getD j 0) (x.getD j 0) (dx.getD j 0) W K:=by rw[hr];exact (hix j oM).app r
    have m1:(j+1)*(W+1)≤4*(W+1):=Nat.mul_le_mul_right _ oM;have m2:(j+1)*(K+2)≤4*(K+2):=Nat.mul_le_mul_right _ oM;have e1:(j+1)*(W+1)=j*(W+1)+(W+1):=Nat.succ_mul _ _;have e2:(j+1)*(K+2)=j*(K+2)+(K+2):=Nat.succ_mul _ _;have e3:(j+1)*cRow W K=j*cRow W K+cRow W K:=Nat.succ_mul _ _;have e4:cRow W K=(1+K+3)*(1+W)+4*(1+4*(W+1)):=rfl;obtain ⟨r2,m⟩:=r1.mul ap ax oM oM;obtain ⟨r3,s⟩:=r2.add (a.snoc _) m oM oM;refine ⟨r3.mono oM,⟨r++[⟨5,((fr+i*Cn+j:Nat):Int),ix.getD j 0,0,0⟩]++[⟨3,(rowS fr i Cn ix p0 j).2,(((rowS fr i Cn ix p0 j).1.length:Nat):Int),0,0⟩],?_⟩,?_⟩
    · show ((rowS fr i Cn ix p0 j).1++[_])++[_]=_
      rw[hr];simp
    · have:=s.mono (W':=1+(j+1)*(W+1)) (K':=1+(j+1)*(K+2)) oM oM
      rw[Rat.add_assoc,Rat.add_assoc] at this
      exact this
end
theorem nk_kind {inp:Int}{kd:Int}(hkd:kd=1∨kd=2∨kd=3){p:List Stp × Int}{v d:Rat}{W K:Nat}(h:Rc inp at_ p.1 C)(a:At at_ way p.1 p.2 v d W K)(hW:2*W≤2000)(hK:2*K+2≤100000)(hK1:1≤K) :
    Rc inp at_ (kindS kd p).1 (C+(2*K+9)*(2*W))∧(∃ r,(kindS kd p).1=p.1++r)∧At at_ way (kindS kd p).1 (kindS kd p).2 (act kd v) (slp kd v*d) (2*W) (2*K+2):=by
  rcases hkd with rfl|rfl|rfl
  · refine ⟨h.mono oM,⟨[],(List.append_nil _).symm⟩,?_⟩
    have:=a.mono (W':=2*W) (K':=2*K+2) oM oM;rw[show slp 1 v*d=d from Rat.one_mul _];exact this
  · obtain ⟨r,m⟩:=h.ramp a oM oM hK1
    have e:=Nat.mul_le_mul_right (2*W) (show 4≤2*K+9 by omega);refine ⟨r.mono oM,⟨_,rfl⟩,?_⟩;rw[slp2];exact m.mono oM oM
  · obtain ⟨r,m⟩:=h.bent a hW hK
    refine ⟨r,⟨_,rfl⟩,?_⟩;have e:act 3 v=v/(qabs v+((1:Int):Rat)):=by rw[Rat.add_comm (qabs v)];rfl
    rw[e];exact m
theorem nk_lay {fr R Cn:Nat}{kd:Int}(hkd:kd=1∨kd=2∨kd=3){ix:List Int}{x dx z dz:List Rat}{W K:Nat}(h:Rc ((n0:Nat):Int) at_ l C)(hN:Nms at_ way l n0)(hix:∀ j,j<Cn→At at_ way l (ix.getD j 0) (x.getD j 0) (dx.getD j 0) W K)(hfr:fr+R*Cn+R≤n0)(hC:Cn≤4)(hW:8*W+10≤2000)(hK:8*K+20≤100000)
    (hz:∀ i,i<R→act kd (at_.getD (fr+R*Cn+i) 0+sumF (fun c=>at_.getD (fr+i*Cn+c) 0*x.getD c 0) Cn)=z.getD i 0)
    (hdz:∀ i,i<R→slp kd (at_.getD (fr+R*Cn+i) 0+sumF (fun c=>at_.getD (fr+i*Cn+c) 0*x.getD c 0) Cn)*(way.getD (fr+R*Cn+i) 0+sumF (fun c=>x.getD c 0*way.getD (fr+i*Cn+c) 0+at_.getD (fr+i*Cn+c) 0*dx.getD c 0) Cn)=dz.getD i 0) :
    ∀ i,i≤R→Rc ((n0:Nat):Int) at_ (layS fr R Cn kd ix l i).1 (C+i*cLay W K)∧(∃ r,(layS fr R Cn kd ix l i).1=l++r)∧∀ j,j<i→At at_ way (layS fr R Cn kd ix l i).1 ((layS fr R Cn kd ix l i).2.getD j 0) (z.getD j 0) (dz.getD j 0) (8*W+10) (8*K+20)
  | 0,_=>⟨h.mono oM,⟨[],(List.append_nil _).symm⟩,fun j hj=>absurd hj (Nat.not_lt_zero j)⟩
  | i + 1,hi=>by
    obtain ⟨r1,⟨r,hr⟩,a⟩:=nk_lay hkd h hN hix hfr hC hW hK hz hdz i oM;have hm:(i+1)*Cn≤R*Cn:=Nat.mul_le_mul_right _ hi;have he:(i+1)*Cn=i*Cn+Cn:=Nat.succ_mul _ _;have hN':Nms at_ way (layS fr R Cn kd ix l i).1 n0:=by rw[hr];exact hN.app r
    obtain ⟨r2,⟨q,hq⟩,b⟩:=nk_row (p0:=((layS fr R Cn kd ix l i).1,((fr+R*Cn+i:Nat):Int))) (fr:=fr) (i:=i) (ix:=ix) (x:=x) (dx:=dx) (W:=W) (K:=K) r1 hN' (fun j hj=>by rw[hr];exact (hix j hj).app r) (hN' _ oM) oM hC oM oM Cn (Nat.le_refl _);have m1:Cn*(W+1)≤4*(W+1):=Nat.mul_le_mul_right _ hC;have m2:Cn*(K+2)≤4*(K+2):=Nat.mul_le_mul_right _ hC;have m3:Cn*cRow W K≤4*cRow W K:=Nat.mul_le_mul_right _ hC;obtain ⟨r3,⟨q3,hq3⟩,c⟩:=nk_kind hkd r2 (b.mono (W':=4*W+5) (K':=4*K+9) oM oM) oM oM oM;have e3:(i+1)*cLay W K=i*cLay W K+cLay W K:=Nat.succ_mul _ _;have e4:cLay W K=4*cRow W K+(2*(4*K+9)+9)*(2*(4*W+5)):=rfl;refine ⟨r3.mono oM,⟨r++q++q3,?_⟩,fun j hj=>?_⟩
    · show (kindS kd _).1=_
      rw[hq3,hq];dsimp only;rw[hr];simp
    · show At at_ way (kindS kd _).1 (((layS fr R Cn kd ix l i).2++[(kindS kd _).2]).getD j 0) _ _ _ _
      by_cases e:j=i
      · subst e
        rw[gsn' (layS_outs fr R Cn kd ix l j),←hz j oM,←hdz j oM];exact c.mono oM oM
      · rw[gsn (layS_outs fr R Cn kd ix l i) oM,hq3,hq]
        exact ((a j oM).app q).app q3
def cSq (W K:Nat):Nat:=4+4*(W+1)+(K+7)*(2*(W+1))+32*(W+1)
theorem nk_sq {inp:Int}{n:Nat}{os:List Int}{ys z dz:List Rat}{W K:Nat}(h:Rc inp at_ l C)(h0:0<l.length)(hos:∀ j,j<n→At at_ way l (os.getD j 0) (z.getD j 0) (dz.getD j 0) W K)(hy:∀ j,LQ 1 (ys.getD j 0))(hn:n≤4)(hW:8*(W+1)≤2000)(hK:8*K+20≤100000) :
    ∀ k,k≤n→Rc inp at_ (sqS l os ys k).1 (C+k*cSq W K)∧(∃ r,(sqS l os ys k).1=l++r) ∧
      (0<k→At at_ way (sqS l os ys k).1 (sqS l os ys k).2 (rowloss z ys k) (sumF (fun j=>(z.getD j 0-ys.getD j 0)*((2:Int):Rat)*dz.getD j 0) k) (k*(2*(W+1))) (k*(2*K+5)))
  | 0,_=>⟨h.mono oM,⟨[],(List.append_nil _).symm⟩,fun x=>absurd x (Nat.lt_irrefl 0)⟩
  | k + 1,hk=>by
    obtain ⟨r1,⟨r,hr⟩,a⟩:=nk_sq h h0 hos hy hn hW hK k oM;obtain ⟨tl,ht⟩:∃ tl,tl=(sqS l os ys k).1:=⟨_,rfl⟩;obtain ⟨sm,hs⟩:∃ sm,sm=(sqS l os ys k).2:=⟨_,rfl⟩;have ao:At at_ way tl (os.getD k 0) (z.getD k 0) (dz.getD k 0) W K:=by rw[ht,hr];exact (hos k oM).app r
    rw[←ht] at r1 hr
    rw[←ht,←hs] at a
    obtain ⟨r2,b⟩:=r1.num (way:=way) ao.pos (hy k);obtain ⟨r3,c⟩:=r2.sub (ao.snoc _) b oM oM;obtain ⟨r4,q⟩:=r3.sq c oM oM;have e1:(k+1)*(2*(W+1))=k*(2*(W+1))+2*(W+1):=Nat.succ_mul _ _;have e2:(k+1)*(2*K+5)=k*(2*K+5)+(2*K+5):=Nat.succ_mul _ _;have e3:(k+1)*cSq W K=k*cSq W K+cSq W K:=Nat.succ_mul _ _;have e4:cSq W K=4+4*(W+1)+(K+7)*(2*(W+1))+32*(W+1):=rfl;have m1:(k+1)*(2*(W+1))≤4*(2*(W+1)):=Nat.mul_le_mul_right _ oM;have m2:(k+1)*(2*K+5)≤4*(2*K+5):=Nat.mul_le_mul_right _ oM;have e5:(K+1+1+5)*(2*(W+1))=(K+7)*(2*(W+1)):=by rw[show K+1+1+5=K+7 by omega]
    have hval:(z.getD k 0-ys.getD k 0)*((2:Int):Rat)*(dz.getD k 0-0)=(z.getD k 0-ys.getD k 0)*((2:Int):Rat)*dz.getD k 0:=by rw[show dz.getD k 0-0=dz.getD k 0 by grind]
    rw[hval] at q
    by_cases e:k=0
    · rw[←sqS_1 ht hs e,←sqS_1s ht hs e]
      refine ⟨r4.mono oM,⟨r++[⟨1,0,0,0,ys.getD k 0⟩]++[⟨4,os.getD k 0,((tl.length:Nat):Int),0,0⟩]++[⟨8,(((tl++[⟨1,0,0,0,ys.getD k 0⟩]:List Stp).length:Nat):Int),0,2,0⟩],by rw[hr];simp⟩,fun _=>?_⟩;subst e;have:=q.mono (W':=(0+1)*(2*(W+1))) (K':=(0+1)*(2*K+5)) oM oM;rw[show rowloss z ys (0+1)=(z.getD 0 0-ys.getD 0 0)*(z.getD 0 0-ys.getD 0 0) from Rat.zero_add _,show sumF (fun j=>(z.getD j 0-ys.getD j 0)*((2:Int):Rat)*dz.getD j 0) (0+1)=(z.getD 0 0-ys.getD 0 0)*((2:Int):Rat)*dz.getD 0 0 from Rat.zero_add _];exact this
    · obtain ⟨s1,s2⟩:=sqS_2 ht hs e
      rw[←s1,←s2];obtain ⟨r5,t⟩:=r4.add ((((a oM).snoc _).snoc _).snoc _) q oM oM;refine ⟨r5.mono oM,⟨r++[⟨1,0,0,0,ys.getD k 0⟩]++[⟨4,os.getD k 0,((tl.length:Nat):Int),0,0⟩]++[⟨8,(((tl++[⟨1,0,0,0,ys.getD k 0⟩]:List Stp).length:Nat):Int),0,2,0⟩]++[⟨3,sm,((((tl++[⟨1,0,0,0,ys.getD k 0⟩])++[⟨4,os.getD k 0,((tl.length:Nat):Int),0,0⟩]:List Stp).length:Nat):Int),0,0⟩],by rw[hr];simp⟩,fun _=>?_⟩;exact t.mono oM oM
end
def Inc (bl:List Nat)(h:Hp):Prop:=bl.Pairwise (· < ·)∧∀ b∈bl,b<h.size
theorem Inc.gw {bl:List Nat}{h h':Hp}(x:Inc bl h)(u:Gw h h'):Inc bl h':=⟨x.1,fun b hb=>Nat.lt_of_lt_of_le (x.2 b hb) u.size⟩
theorem Inc.nil {h:Hp}:Inc [] h:=⟨.nil,fun b hb=>by cases hb⟩
theorem Inc.snoc {bl:List Nat}{h h':Hp}{b:Nat}{t:TypeId}{cs:List Value}(x:Inc bl h)(n:Nw h.size h' b t cs):Inc (bl++[b]) h':=by
  have h1:=n.1;have h2:=lt_of_some n.2.2;refine ⟨List.pairwise_append.2 ⟨x.1,List.pairwise_singleton _ _,fun a ha c hc=>?_⟩,fun c hc=>?_⟩
  · have:=x.2 a ha
    rw[List.mem_singleton.1 hc];omega
  · rcases List.mem_append.1 hc with hc|hc
    · have:=x.2 c hc;omega
    · rw[List.mem_singleton.1 hc];exact h2
def npos (d:Nat→Nat):Nat→Nat
  | 0=>0
  | k+1=>npos d k+d (k+1)+1
theorem npos_mono (d:Nat→Nat){k n:Nat}(h:k≤n):npos d k≤npos d n:=by
  induction h with
  | refl=>exact Nat.le_refl _
  | step _ ih=>exact Nat.le_trans ih (by show npos d _≤npos d _+_+1;omega)
theorem getD_app1 {α:Type}{l:List α}{x d:α}{i:Nat}(h:i<l.length):(l++[x]).getD i d=l.getD i d:=by rw[getD_snoc,if_pos h]
theorem getD_last {bl:List Nat}{b i:Nat}(h:bl.length=i):b=(bl++[b]).getD i 0:=by rw[getD_snoc,if_neg oM,if_pos h.symm]
def SlB (K b:Nat)(h:Hp)(v:Value)(l:List Rat):Prop:=∃ c sp,v=.slice (some ⟨b,0,none⟩) l.length c∧l.length≤c∧Nw K h b 55 (l.flatMap qc++sp)
theorem SlB.gw {K b:Nat}{h h':Hp}{v:Value}{l:List Rat}(x:SlB K b h v l)(u:Gw h h'):SlB K b h' v l:=by
  obtain ⟨c,sp,e,hc,n⟩:=x;exact ⟨c,sp,e,hc,n.gw u⟩
def QNb (bl:List Nat)(p K:Nat)(h:Hp)(us:List Value)(W:List (List Rat)):Prop:=∀ j,j<W.length→SlB K (bl.getD (p+j) 0) h (us.getD j undef) (W.getD j [])
theorem QNb.gw {bl:List Nat}{p K:Nat}{h h':Hp}{us:List Value}{W:List (List Rat)}(x:QNb bl p K h us W)(u:Gw h h'):QNb bl p K h' us W:=fun j hj=>(x j hj).gw u
theorem QNb.nil {bl:List Nat}{p K:Nat}{h:Hp}{us:List Value}:QNb bl p K h us []:=fun j hj=>by simp at hj
theorem QNb.ext {bl:List Nat}{p K b:Nat}{h:Hp}{us:List Value}{W:List (List Rat)}(x:QNb bl p K h us W)(hl:p+W.length≤bl.length):QNb (bl++[b]) p K h us W:=fun j hj=>by
  rw[getD_app1 oM];exact x j hj
theorem QNb.snoc {bl:List Nat}{p K b:Nat}{h:Hp}{us:List Value}{W:List (List Rat)}{v:Value}{l:List Rat}{i:Nat}(x:QNb bl p K h us W)(hi:W.length=i)(hl:i<us.length)(hb:bl.length=p+i)(hv:SlB K b h v l):QNb (bl++[b]) p K h (us.set i v) (W++[l]):=by
  subst hi;intro j hj;rw[List.length_append,List.length_singleton] at hj
  rw[getD_snoc W]
  by_cases e:j=W.length
  · subst e
    rw[if_neg oM,if_pos rfl,List.getD_eq_getElem?_getD (l:=us.set _ _),List.getElem?_set_self hl,←getD_last hb];exact hv
  · rw[if_pos oM,List.getD_eq_getElem?_getD (l:=us.set _ _),List.getElem?_set_ne (Ne.symm e),←List.getD_eq_getElem?_getD,getD_app1 oM]
    exact x j oM
def LNb (bl:List Nat)(p K:Nat)(h:Hp)(t:LV)(L:Lay):Prop:=t.1=L.k∧(∃ us,SlN K 30 vc h t.2.1 us∧us.length=L.W.length∧QNb bl p K h us L.W)∧SlB K (bl.getD (p+L.W.length) 0) h t.2.2 L.B
theorem LNb.gw {bl:List Nat}{p K:Nat}{h h':Hp}{t:LV}{L:Lay}(x:LNb bl p K h t L)(u:Gw h h'):LNb bl p K h' t L:=by
  obtain ⟨h1,⟨us,h2,h3,h4⟩,h5⟩:=x;exact ⟨h1,⟨us,h2.gw u,h3,h4.gw u⟩,h5.gw u⟩
structure NNb (bl:List Nat) (d:Nat→Nat) (K:Nat) (h:Hp) (ts:List LV) (ls:List Lay):Prop where
  len:ts.length=ls.length
  at_:∀ i,i<ls.length→LNb bl (npos d i) K h (ts.getD i lvd) (ls.getD i lay0)
theorem NNb.gw {bl:List Nat}{d:Nat→Nat}{K:Nat}{h h':Hp}{ts:List LV}{ls:List Lay}(x:NNb bl d K h ts ls)(u:Gw h h'):NNb bl d K h' ts ls:=⟨x.len,fun i hi=>(x.at_ i hi).gw u⟩
theorem NNb.nil {bl:List Nat}{d:Nat→Nat}{K:Nat}{h:Hp}:NNb bl d K h [] []:=⟨rfl,fun i hi=>by simp at hi⟩
theorem NNb.snoc {bl:List Nat}{d:Nat→Nat}{K:Nat}{h:Hp}{ts:List LV}{ls:List Lay}{t:LV}{L:Lay}(x:NNb bl d K h ts ls)(hx:LNb bl (npos d ls.length) K h t L):NNb bl d K h (ts++[t]) (ls++[L]):=by
  have hl:=x.len;refine ⟨by simp[hl],fun i hi=>?_⟩;rw[List.length_append,List.length_singleton] at hi
  rw[getD_snoc,getD_snoc,hl]
  by_cases e:i<ls.length
  · rw[if_pos e,if_pos e];exact x.at_ i e
  · have:i=ls.length:=by omega
    subst this;rw[if_neg e,if_neg e,if_pos rfl,if_pos rfl];exact hx
theorem NNb.ext {bl:List Nat}{d:Nat→Nat}{K b:Nat}{h:Hp}{ts:List LV}{ls:List Lay}(x:NNb bl d K h ts ls)(hs:Shp d ls)(hl:npos d ls.length≤bl.length):NNb (bl++[b]) d K h ts ls:=⟨x.len,fun i hi=>by
  obtain ⟨h1,⟨us,h2,h3,h4⟩,h5⟩:=x.at_ i hi;have m:=(hs i hi).1.rows;have hp:=npos_mono d (show i+1≤ls.length from hi);have hp2:npos d (i+1)=npos d i+d (i+1)+1:=rfl;exact ⟨h1,⟨us,h2,h3,h4.ext oM⟩,by rw[getD_app1 oM];exact h5⟩⟩
theorem nFilledB (A:Option Addr)(cap:Nat)(ts:List LV)(ls:List Lay)(d:Nat→Nat)(hO:Net3 ls d)(X:Option Addr)(c0:Nat)(xs:List Rat)(hx:xs.length=(flatq ls).length)(hc0:xs.length≤c0)(w:World)(h:Hp)(g:G w h)(hA:Sl A ts h)(hN:NetL h ts ls)(hX:Sq X xs h):CR 142 #[.agg #[.slice A ts.length cap],.slice X xs.length c0] w h (fun v h1=>∃ zs,zs.length=ls.length∧Shp d zs∧(∀ i,i<ls.length→(zs.getD i lay0).k=(ls.getD i lay0).k)∧flatq zs=xs∧∃ bl:List Nat,bl.Pairwise (· < ·)∧bl.length=npos d ls.length∧∃ bL c sp,∃ us:List LV,v=.agg #[.slice (sB bL) us.length c]∧us.length≤c∧Nw h.size h1 bL 144 (us.flatMap lvc++sp)∧NNb bl d h.size h1 us zs):=by
 have hs:=((((sS g).aS hA).aN hN).aS hX);have hl:=(hs.f.2.1).len;obtain ⟨o1,o2⟩:=hO.len;have o3:=hO.first;have hfq:=flatq_len hO ls.length (nR _);rw[List.take_length] at hfq
 refine go Tryz.func142 [(0,.agg #[qS A ts.length cap]),(1,qS X xs.length c0)] rfl (cSL (lA 2 74 ([qS A ts.length cap]) hs (fun b1 w2 h3 hs=>lA 3 30 ([qS X xs.length c0]) hs (fun b4 w5 h6 hs=>lA 4 74 ([sZ]) hs (fun b7 w8 h9 hs=>lNS (lL hs [.v 12 (.func (.func 180) #[] #[pB b4]),.m 5 12] (lNS (lA 6 74 ([sZ]) hs (fun zb _ zn hs=>lN (cQ (cSL (lL hs [.v 13 (pB b1),.o 14 (qS A ts.length cap) 3 0 1,.v 15 (nV ts.length),.v 16 (iV 0)] (lN (kZ ?_))))))))))))));replace hs:=hs.nil 144 3;refine cTo [(4,pB b7),(5,.func (.func 180) #[] #[pB b4]),(6,pB zb),(14,qS A ts.length cap),(15,nV ts.length),(16,iV 0)] ?_;replace hs:=hs.add (K:=fun h_=>Inc ([]) h_) (Inc.nil);replace hs:=hs.add (K:=fun h_=>NNb ([]) d h.size h_ ([]) ([])) (NNb.nil);replace hs:=hs.aS hs.f.r.1;refine CG.loop (fun μ_ Γ w_=>∃ (k:Nat) (sA:Option Addr) (sc:Nat) (us:List LV) (zs:List Lay) (rs:List Rat) (Ar:Option Addr) (cr:Nat) (bl:List Nat) (h_:Hp),μ_=ls.length-k∧Γ=[(4,pB b7),(5,.func (.func 180) #[] #[pB b4]),(6,pB zb),(14,qS A ts.length cap),(15,nV ts.length),(16,nV k)]∧SS w h w_ h_ [⟨zb,74,[qS sA ((us).length) sc]⟩,⟨b7,74,[sZ]⟩,⟨b4,30,[qS Ar rs.length cr]⟩,⟨b1,74,[qS A ts.length cap]⟩] [⟨144,3,sA,sc,(us).length,(us).flatMap lvc⟩] [Sq Ar rs,fun h_=>NNb bl d h.size h_ us zs,fun h_=>Inc bl h_,Sq X xs,Nn ts ls,Sl A ts]∧k≤ls.length∧zs.length=k∧Shp d zs∧(∀ i,i<zs.length→(zs.getD i lay0).k=(ls.getD i lay0).k)∧flatq zs++rs=xs∧rs.length≤cr∧us.length=k∧bl.length=npos d k) _ ⟨0,none,0,[],[],xs,X,c0,[],zn,rfl,rfl,hs.to _ _,Nat.zero_le _,rfl,Shp.nil,fun i hi=>by simp at hi,rfl,hc0,rfl,rfl⟩ ?_;rintro _ _ _ ⟨k,sA,sc,us,zs,rs,Ar,cr,bl,_,hm15,rfl,hs,hk,hzl,hZs,hZk,hflat,hcr0,hul,hbl⟩;have hsm:=fun h0=>hO.small k h0
 have hnm:=fun h0=>nums_mono d (show k+1≤ls.length from h0)
 have hxn:xs.length=nums d ls.length:=by rw[hx,(net_shp hO).size]
 have hnk:nums d (k+1)=nums d k+d (k+1)*d k+d (k+1):=rfl;have hpk:npos d (k+1)=npos d k+d (k+1)+1:=rfl;refine cSL ?_;cases ze:(decide ((k:Int)<(ts.length:Int)))
 ·
  have zg:=oF ze;refine lB 17 ze (lN (cQ (cIF (CG.exit ?_))))
  show CG _ _ _ _ _ _ _ _
  refine cSL (lL hs [.o 57 (.agg #[qS sA ((us).length) sc]) 0 0 1] (lP 1 0 ([qS sA ((us).length) sc]) hs (fun _ hs=>lN (kX ?_))));have hkn:k=ls.length:=by omega
  subst hkn;obtain ⟨hq,bq,spq,hs,hbq,hcq⟩:=hs.pubn 0 (A:=sA) (c:=sc) (ty:=144) (sz:=3) (l:=us) (f:=lvc) oM;subst hbq;exact hs.ret [(1,0,1)] (.agg #[qS (sB bq) us.length sc]) ⟨zs,hzl,hZs,fun i hi=>hZk i oM,fill_end hZs hflat (by rw[hx,(net_shp hO).size,hzl]),bl,(hs.f.r.2.1).1,hbl,bq,_,spq,us,rfl,hcq,hs.f.1,hs.f.r.1⟩
 have zg:=oT ze;refine lB 17 ze (lN (cQ (cIT (cK (cQ (kZ (cSL (lX 18 A ts.length cap 3 (k:Nat) k ((hs.f.q.2.1).ok oM) ?_))))))));obtain ⟨ekx,⟨AWx,cWx,usx,eWx,hcWx,hAWx,hUx⟩,⟨ABx,cBx,eBx,hcBx,hABx⟩⟩:=(hs.f.q.1).at_ k oM;obtain ⟨mtx,lbx,r12x,kdx⟩:=hO.lay k oM;have lux:=hUx.len;have mrx:=mtx.rows;have mpx:=mtx.rpos;have mcx:=mtx.cpos;have m0x:=mtx.row 0 oM;replace hs:=(((hs.aS hAWx).aQ hUx).aS hABx);refine lHe 19 (.agg #[iV ((ts.getD k lvd).1),(ts.getD k lvd).2.1,(ts.getD k lvd).2.2]) hs ((hs.f.q.q.1).el k oM) (by rw[ekx,eWx,eBx]) (lA 8 144 ([iV 0,sZ,sZ]) hs (fun zc _ _ hs=>lP 0 0 ([iV ((ls.getD k lay0).k),qS AWx usx.length cWx,qS ABx ((ls.getD k lay0).B.length) cBx]) hs (fun _ hs=>lN (cQ ?_))));have hsr:=hs;refine cR 8 [⟨7,9,.cells (List.toArray [iV 0,sZ,sZ]) 144 (0,0)⟩] mixed hs (al_cons (alOk kR (fun _ _=>by kernel_rfl)) al_nil) (eV 0 20 (pB zc) (eO 1 21 [(0,0,1)] (iV ((ls.getD k lay0).k)) hs (eV 2 22 (qP zc 1) (eO 3 23 [(0,1,1)] (qS AWx usx.length cWx) hs (eV 4 24 (nV usx.length) (eK 5 25 30 usx.length 1 24 (sZ) vc (sZ:Value) hs (fun za _ _ hs=>?_)))))));have zl:(List.replicate usx.length (sZ:Value)).length=usx.length:=by simp
 refine eV 6 26 (.agg #[iV ((ls.getD k lay0).k),qS (sB za) usx.length usx.length,sZ]) (eD1p [⟨za,30,(List.replicate usx.length (sZ:Value)).flatMap vc⟩] hsr hs 144 [iV 0,sZ,sZ] (fun _ zo zd hs=>tP 8 0 0 ([iV ((ls.getD k lay0).k),qS (sB za) usx.length usx.length,sZ]) hs (fun _ hs=>tN (cQ (cSL (lL hs [.v 27 (qP zc 1),.o 28 (qS AWx usx.length cWx) 2 1 1,.v 29 (nV usx.length),.v 30 (iV 0)] (lN (kZ ?_))))))));replace hs:=hs.add (K:=fun h_=>Inc bl h_) (hs.f.q.2.1);replace hs:=hs.add (K:=fun h_=>NNb bl d h.size h_ us zs) (hs.f.q.2.1);replace hs:=hs.add (K:=fun h_=>QNb bl (npos d k) h.size h_ (List.replicate usx.length (sZ:Value)) ([])) (QNb.nil);replace hs:=hs.aS hs.f.q.r.1;refine cTo _ (CG.loop (fun μ_ Γ w_=>∃ (i:Nat) (ul:List Value) (Wd:List (List Rat)) (rr:List Rat) (A2:Option Addr) (c2:Nat) (bl2:List Nat) (h_:Hp),μ_=usx.length-i∧Γ=[(4,pB b7),(5,.func (.func 180) #[] #[pB b4]),(6,pB zb),(14,qS A ts.length cap),(15,nV ts.length),(16,nV k),(8,pB zc),(9,pB zd),(28,qS AWx usx.length cWx),(29,nV usx.length),(30,nV i)]∧SS w h w_ h_ [⟨zd,144,[iV ((ls.getD k lay0).k),qS (sB za) usx.length usx.length,sZ]⟩,⟨za,30,(ul).flatMap vc⟩,⟨zc,144,[iV ((ls.getD k lay0).k),qS AWx usx.length cWx,qS ABx ((ls.getD k lay0).B.length) cBx]⟩,⟨zb,74,[qS sA ((us).length) sc]⟩,⟨b7,74,[sZ]⟩,⟨b4,30,[qS A2 rr.length c2]⟩,⟨b1,74,[qS A ts.length cap]⟩] [⟨144,3,sA,sc,(us).length,(us).flatMap lvc⟩] [Sq A2 rr,fun h_=>QNb bl2 (npos d k) h.size h_ ul Wd,fun h_=>NNb bl2 d h.size h_ us zs,fun h_=>Inc bl2 h_,Sq ABx (ls.getD k lay0).B,Qu usx (ls.getD k lay0).W,Sv AWx usx,Sq Ar rs,fun h_=>NNb bl d h.size h_ us zs,fun h_=>Inc bl h_,Sq X xs,Nn ts ls,Sl A ts]∧i≤usx.length∧ul.length=usx.length∧Wd.length=i∧(∀ r∈Wd,r.length=d k)∧flatq zs++Wd.flatten++rr=xs∧rr.length≤c2∧bl2.length=npos d k+i) _ ⟨0,List.replicate usx.length (sZ:Value),[],rs,Ar,cr,bl,zo,rfl,rfl,hs.to _ _,Nat.zero_le _,zl,rfl,fun r hr=>by simp at hr,by rw[List.flatten_nil,List.append_nil];exact hflat,hcr0,hbl⟩ ?_);rintro _ _ _ ⟨i,ul,Wd,rr,A2,c2,bl2,_,hm32,rfl,hs,hi,hlul,hWl,hWr,hfl2,hcr,hbl2⟩;have hrl:=rest_len hZs (by rw[hzl];exact hWr) hfl2;rw[hzl,hWl] at hrl
 have hid:i*d k≤d (k+1)*d k:=Nat.mul_le_mul_right _ oM;have hid2:=fun h0:i<d (k+1)=>Nat.mul_le_mul_right (d k) (show i+1≤d (k+1) from h0)
 rw[Nat.add_mul,Nat.one_mul] at hid2
 have hmr:=fun h0=>mtx.row i h0
 have hMt:=fun h0:i=d (k+1)=>mat_of (hWl.trans h0) mpx mcx hWr
 refine cSL ?_;cases zf:(decide ((i:Int)<(usx.length:Int)))
 ·
  have zi:=oF zf;refine lB 31 zf (lN (cQ (cIF (CG.exit ?_))))
  show CG _ _ _ _ _ _ _ _
  refine cSL (lL hs [.m 44 5,.v 45 (qP zc 2),.o 46 (qS ABx ((ls.getD k lay0).B.length) cBx) 2 2 1,.v 47 (nV ((ls.getD k lay0).B.length))] (lCm 48 (nNext (((ls.getD k lay0).B.length)) b4 c2 A2 (rr) oM oM oM hcr _ _ hs.g (hs.own 5) (hs.jk 5) hs.f.1) ?_));rintro _ _ _ u36 ⟨⟨bq1_,cq1_,sp1_,rfl,hcq1_,hNq1_⟩,A1_,c1_,hO1,hc1_,hSl1_⟩;have hJ1_:=Inc.snoc hs.f.r.2.1 hNq1_;replace hNq1_:=hNq1_.mono hs.st.sz;replace hs:=(hs.stepM 5 u36 hO1).to [⟨zd,144,[iV ((ls.getD k lay0).k),qS (sB za) usx.length usx.length,sZ]⟩,⟨za,30,(ul).flatMap vc⟩,⟨zc,144,[iV ((ls.getD k lay0).k),qS AWx usx.length cWx,qS ABx ((ls.getD k lay0).B.length) cBx]⟩,⟨zb,74,[qS sA ((us).length) sc]⟩,⟨b7,74,[sZ]⟩,⟨b4,30,[qS A1_ (((rr).drop (((ls.getD k lay0).B.length))).length) c1_]⟩,⟨b1,74,[qS A ts.length cap]⟩] [⟨144,3,sA,sc,(us).length,(us).flatMap lvc⟩];replace hs:=(((hs.aS hSl1_).add (K:=fun h_=>Nw h.size h_ bq1_ 55 (((rr).take (((ls.getD k lay0).B.length))).flatMap qc++sp1_)) hNq1_).add (K:=fun h_=>Inc (bl2++[bq1_]) h_) hJ1_);refine lL hs [.v 49 (qP zd 2)] (lP 0 2 ([qS (sB bq1_) (((rr).take (((ls.getD k lay0).B.length))).length) cq1_]) hs (fun _ hs=>lN (kQ ?_)));obtain ⟨_,hs,sg39,lo40,bc41⟩:=hs.pub 1;replace hs:=(hs.to [⟨zd,144,[iV ((ls.getD k lay0).k),qS (sB za) usx.length usx.length,qS (sB bq1_) (((rr).take (((ls.getD k lay0).B.length))).length) cq1_]⟩,⟨zc,144,[iV ((ls.getD k lay0).k),qS AWx usx.length cWx,qS ABx ((ls.getD k lay0).B.length) cBx]⟩,⟨zb,74,[qS sA ((us).length) sc]⟩,⟨b7,74,[sZ]⟩,⟨b4,30,[qS A1_ (((rr).drop (((ls.getD k lay0).B.length))).length) c1_]⟩,⟨b1,74,[qS A ts.length cap]⟩] [⟨144,3,sA,sc,(us).length,(us).flatMap lvc⟩]).aS (SlO.of_flat (sz:=1) (f:=vc) (d:=undef) (b:=za) (o:=0) (l:=ul) (fun _=>rfl) sg39);replace hs:=hs.add (K:=fun h_=>SlN h.size 30 vc h_ (qS (sB za) usx.length usx.length) (ul)) (⟨za,usx.length,[],by rw[hlul],Nat.le_of_eq hlul,⟨lo40,by decide,by rw[List.append_nil];exact bc41⟩⟩);have hgl:=(getD_last (b:=bq1_) (bl:=bl2) (i:=npos d k+Wd.length) oM).symm;replace hs:=hs.add (K:=fun h_=>LNb (bl2++[bq1_]) (npos d k) h.size h_ ((ls.getD k lay0).k,qS (sB za) usx.length usx.length,qS (sB bq1_) (((rr).take (((ls.getD k lay0).B.length))).length) cq1_) (Lay.mk (ls.getD k lay0).k Wd ((rr).take (((ls.getD k lay0).B.length))))) (⟨rfl,⟨_,hs.f.1,by show (ul).length=Wd.length;omega,(hs.f.q.r.1).ext (by rw[hbl2,hWl];exact nR _)⟩,(by show SlB _ ((bl2++[bq1_]).getD (npos d k+Wd.length) 0) _ _ _;rw[hgl];exact ⟨cq1_,sp1_,rfl,hcq1_,hs.f.r.2.1⟩)⟩);refine lL hs [.v 50 (pB zb),.o 51 (qS sA ((us).length) sc) 2 0 1,.o 52 (.agg #[iV ((ls.getD k lay0).k),qS (sB za) usx.length usx.length,qS (sB bq1_) (((rr).take (((ls.getD k lay0).B.length))).length) cq1_]) 0 0 3] (lR 53 144 1 ([iV ((ls.getD k lay0).k),qS (sB za) usx.length usx.length,qS (sB bq1_) (((rr).take (((ls.getD k lay0).B.length))).length) cq1_]) hs (fun zp _ _ hs=>lY 54 0 144 3 sc sA us lvc (((ls.getD k lay0).k,qS (sB za) usx.length usx.length,qS (sB bq1_) (((rr).take (((ls.getD k lay0).B.length))).length) cq1_):LV) 56 zp (.agg #[iV 0,sZ,sZ]) hs hs.f.1 (fun zj zk _ zq hs=>lL hs [.v 55 (pB zb)] (lP 2 0 ([qS zj ((us++[(((ls.getD k lay0).k,qS (sB za) usx.length usx.length,qS (sB bq1_) (((rr).take (((ls.getD k lay0).B.length))).length) cq1_):LV)]).length) zk]) hs (fun _ hs=>lN (kQ (lIn 56 ((k:Nat)+1) (k+1) ?_)))))));refine lL hs [.m 16 56] (lD ?_);intro a_ ka;replace hs:=(((hs.tl.tl.tl.tl.tl.tl.tl.tl.tl.tl.tl.tl.tl.tl.tl.tl.tl.add (K:=fun h_=>Inc (bl2++[bq1_]) h_) hs.f.q.1).add (K:=fun h_=>NNb (bl2++[bq1_]) d h.size h_ (us++[(((ls.getD k lay0).k,qS (sB za) usx.length usx.length,qS (sB bq1_) (((rr).take (((ls.getD k lay0).B.length))).length) cq1_):LV)]) (zs++[Lay.mk (ls.getD k lay0).k Wd ((rr).take (((ls.getD k lay0).B.length)))])) (((hs.f.q.q.2.1).ext hZs (by rw[hzl];omega)).snoc (by rw[hzl];exact hs.f.2.1))).aS hs.f.q.r.1);replace hs:=hs.drop 2 0;refine ⟨_,_,?_,⟨k+1,zj,zk,us++[(((ls.getD k lay0).k,qS (sB za) usx.length usx.length,qS (sB bq1_) (((rr).take (((ls.getD k lay0).B.length))).length) cq1_):LV)],zs++[Lay.mk (ls.getD k lay0).k Wd ((rr).take (((ls.getD k lay0).B.length)))],(rr).drop (((ls.getD k lay0).B.length)),A1_,c1_,(bl2++[bq1_]),zq,rfl,rfl,hs.to _ _,oM,(by simp;omega),(Shp.snoc hZs (by rw[hzl];exact hMt oM) (by rw[hzl];show (List.take _ _).length=_;rw[List.length_take];omega)),(kind_snoc hZk (by rw[hzl])),(by rw[flatq_snoc];show flatq zs++Wd.flatten++List.take _ _++List.drop _ _=_;rw[take_cut];exact hfl2),hc1_,(by simp;omega),(by rw[List.length_append,List.length_singleton];omega)⟩,ka.to _ kR⟩
  omega
 have zi:=oT zf;refine lB 31 zf (lN (cQ (cIT (cK (cQ (kZ (cSL (lL hs [.m 32 30] (lX 33 AWx usx.length cWx 1 (i:Nat) i ((hs.f.q.r.1).ok oM) ?_)))))))));obtain ⟨Arp,crp,erp,hcrp,hRrp⟩:=(hs.f.q.2.1).at_ i oM;replace hs:=hs.aS hRrp;refine lHe 34 (usx.getD i undef) hs ((hs.f.q.r.2.1).el i oM) erp (lL hs [.m 10 32,.m 11 34] (lN (CG.region ⟨[b4],none⟩ 7 [] mixed kR hs.g al_nil (fun _ hb=>by rw[List.mem_singleton.1 hb];exact lt_of_some (hs.jk 5)) ?_)));refine eV 0 35 (qP zd 1) (eO 1 36 [(0,1,1)] (qS (sB za) usx.length usx.length) hs ?_ (hM:=fun p hp=>by obtain rfl:=List.mem_singleton.1 hp;exact fun hm=>bx_ne hs.st (i:=0) (j:=5) kR kR kR (List.mem_singleton.1 hm)));refine eV 2 37 (nV i) (eV 3 38 (.func (.func 180) #[] #[pB b4]) (eV 4 39 (qS Arp ((((ls.getD k lay0).W).getD i []).length) crp) (eV 5 40 (nV ((((ls.getD k lay0).W).getD i []).length)) (eCm 6 41 hs (List.mem_singleton.2 rfl) (fun _ _ hs=>nNext (((((ls.getD k lay0).W).getD i []).length:Nat)) b4 c2 A2 (rr) oM oM oM hcr _ _ hs.g (hs.own 5) (hs.jk 5) hs.f.2.1) ?_))));rintro _ _ _ _ _ hs u66 ⟨⟨bq2_,cq2_,sp2_,rfl,hcq2_,hNq2_⟩,A2_,c2_,hO2,hc2_,hSl2_⟩;have hJ2_:=Inc.snoc hs.f.q.1 hNq2_;replace hNq2_:=hNq2_.mono hs.st.sz;replace hs:=(hs.stepM 5 u66 hO2).to [⟨zd,144,[iV ((ls.getD k lay0).k),qS (sB za) usx.length usx.length,sZ]⟩,⟨za,30,(ul).flatMap vc⟩,⟨zc,144,[iV ((ls.getD k lay0).k),qS AWx usx.length cWx,qS ABx ((ls.getD k lay0).B.length) cBx]⟩,⟨zb,74,[qS sA ((us).length) sc]⟩,⟨b7,74,[sZ]⟩,⟨b4,30,[qS A2_ (((rr).drop (((((ls.getD k lay0).W).getD i []).length:Nat))).length) c2_]⟩,⟨b1,74,[qS A ts.length cap]⟩] [⟨144,3,sA,sc,(us).length,(us).flatMap lvc⟩];replace hs:=(((hs.aS hSl2_).add (K:=fun h_=>Nw h.size h_ bq2_ 55 (((rr).take (((((ls.getD k lay0).W).getD i []).length:Nat))).flatMap qc++sp2_)) hNq2_).add (K:=fun h_=>Inc (bl2++[bq2_]) h_) hJ2_);refine eD0 hs (fun _ zr hs=>tX 7 42 (sB za) usx.length usx.length 1 (i:Nat) i rfl (tW 8 1 ul vc 1 i (qS (sB bq2_) (((rr).take (((((ls.getD k lay0).W).getD i []).length:Nat))).length) cq2_:Value) hs oM (fun _ hs=>?_)));have zm:((ul).set i (qS (sB bq2_) (((rr).take (((((ls.getD k lay0).W).getD i []).length:Nat))).length) cq2_:Value)).length=usx.length:=by rw[List.length_set];exact hlul
 replace hs:=hs.to [⟨zd,144,[iV ((ls.getD k lay0).k),qS (sB za) usx.length usx.length,sZ]⟩,⟨za,30,((ul).set i (qS (sB bq2_) (((rr).take (((((ls.getD k lay0).W).getD i []).length:Nat))).length) cq2_:Value)).flatMap vc⟩,⟨zc,144,[iV ((ls.getD k lay0).k),qS AWx usx.length cWx,qS ABx ((ls.getD k lay0).B.length) cBx]⟩,⟨zb,74,[qS sA ((us).length) sc]⟩,⟨b7,74,[sZ]⟩,⟨b4,30,[qS A2_ (((rr).drop (((((ls.getD k lay0).W).getD i []).length:Nat))).length) c2_]⟩,⟨b1,74,[qS A ts.length cap]⟩] [⟨144,3,sA,sc,(us).length,(us).flatMap lvc⟩];refine tN (kQ (lIn 43 ((i:Nat)+1) (i+1) ?_));refine lL hs [.m 30 43] (lD ?_);intro a_ ka;replace hs:=((((hs.tl.tl.tl.tl.tl.tl.tl.tl.add (K:=fun h_=>Inc (bl2++[bq2_]) h_) hs.f.1).add (K:=fun h_=>NNb (bl2++[bq2_]) d h.size h_ us zs) ((hs.f.q.r.1).ext hZs (by rw[hzl];omega))).add (K:=fun h_=>QNb (bl2++[bq2_]) (npos d k) h.size h_ ((ul).set i (qS (sB bq2_) (((rr).take (((((ls.getD k lay0).W).getD i []).length:Nat))).length) cq2_:Value)) (Wd++[rr.take ((ls.getD k lay0).W.getD i []).length])) (QNb.snoc hs.f.q.2.1 hWl oM hbl2 ⟨cq2_,sp2_,rfl,hcq2_,hs.f.2.1⟩)).aS hs.f.r.1);refine ⟨_,_,?_,⟨i+1,(ul).set i (qS (sB bq2_) (((rr).take (((((ls.getD k lay0).W).getD i []).length:Nat))).length) cq2_:Value),Wd++[rr.take ((ls.getD k lay0).W.getD i []).length],(rr).drop (((((ls.getD k lay0).W).getD i []).length:Nat)),A2_,c2_,(bl2++[bq2_]),zr,rfl,rfl,hs.to _ _,oM,zm,(by simp;omega),(rows_snoc' hWr (by rw[List.length_take];omega)),(by rw[List.flatten_append,List.flatten_singleton,←List.append_assoc,take_cut];exact hfl2),hc2_,(by rw[List.length_append,List.length_singleton];omega)⟩,ka.to _ kR⟩
 omega
theorem own_el {l:List Rat}{sp:List Value}{k:Nat}(hk:k<l.length):((l.flatMap qc++sp).drop (0+k*5)).take (qc (l.getD k 0)).length=qc (l.getD k 0):=by
  have hf:∀ x:Rat,(qc x).length=5:=fun _=>rfl
  have hl:=len_flat hf l;have h1:(k+1)*5≤l.length*5:=Nat.mul_le_mul_right _ hk;rw[List.drop_append_of_le_length (by rw[hl];omega),List.take_append_of_le_length (by rw[List.length_drop,hl];show 5≤_;omega)];exact row_el hf 0 l k hk
theorem own_le {l:List Rat}{sp:List Value}{k:Nat}{x:Rat}(hk:k<l.length):0+k*5+(qc x).length≤(l.flatMap qc++sp).length:=by
  have hf:∀ x:Rat,(qc x).length=5:=fun _=>rfl
  have hl:=len_flat hf l;have h1:(k+1)*5≤l.length*5:=Nat.mul_le_mul_right _ hk;rw[List.length_append,hl];show 0+k*5+5≤_;omega
theorem putAt_app:∀ (cs a b:List Value) (o:Nat),o+cs.length≤a.length→putAt (a++b) o cs=putAt a o cs++b
  | [],_,_,_,_=>rfl
  | c::cs,a,b,o,h=>by
    rw[List.length_cons] at h
    show putAt ((a++b).set o c) (o+1) cs=putAt (a.set o c) (o+1) cs++b
    rw[List.set_append_left _ _ oM];exact putAt_app cs _ b (o+1) (by rw[List.length_set];omega)
theorem own_put {l:List Rat}{sp:List Value}{k:Nat}{x:Rat}(hk:k<l.length):putAt (l.flatMap qc++sp) (0+k*5) (qc x)=(l.set k x).flatMap qc++sp:=by
  have hf:∀ x:Rat,(qc x).length=5:=fun _=>rfl
  have hl:=len_flat hf l;have h1:(k+1)*5≤l.length*5:=Nat.mul_le_mul_right _ hk;rw[putAt_app _ _ _ _ (by rw[hl];show 0+k*5+5≤_;omega),Nat.zero_add,putAt_flat hf l k x hk]
theorem sumq_len (L:Lay)(x:List Rat):(sumq L x).length=L.W.length:=by simp[sumq]
theorem sumq_get {L:Lay}{x:List Rat}{i:Nat}(h:i<L.W.length):(sumq L x).getD i 0=sumr L x i:=getD_mapR h
theorem acc_step {l:List Rat}{g δ:Nat→Rat}{i:Nat}(hi:i<l.length)(hv:∀ a,l.getD a 0=g a+(if a<i then δ a else 0)):∀ a,(l.set i (l.getD i 0+δ i)).getD a 0=g a+(if a<i+1 then δ a else 0):=fun a=>by
  rw[getD_set_ hi]
  split
  · rename_i e;subst e
    rw[hv a,if_neg (Nat.lt_irrefl a),if_pos (Nat.lt_succ_self a),Rat.add_zero]
  · rename_i e
    rw[hv a]
    by_cases h:a<i
    · rw[if_pos h,if_pos oM]
    · rw[if_neg h,if_neg oM]
theorem acc_stepc {l:List Rat}{g δ:Nat→Rat}{i c:Nat}(hi:i<l.length)(hic:i<c)(hv:∀ a,a<c→l.getD a 0=g a+(if a<i then δ a else 0)):∀ a,a<c→(l.set i (l.getD i 0+δ i)).getD a 0=g a+(if a<i+1 then δ a else 0):=fun a ha=>by
  rw[getD_set_ hi]
  split
  · rename_i e;subst e
    rw[hv a ha,if_neg (Nat.lt_irrefl a),if_pos (Nat.lt_succ_self a),Rat.add_zero]
  · rename_i e
    rw[hv a ha]
    by_cases h:a<i
    · rw[if_pos h,if_pos oM]
    · rw[if_neg h,if_neg oM]
theorem getD_setL {α:Type}{l:List α}{n i:Nat}{d x:α}(h:i≠n):(l.set n x).getD i d=l.getD i d:=by
  rw[List.getD_eq_getElem?_getD,List.getElem?_set_ne (Ne.symm h),←List.getD_eq_getElem?_getD]
theorem getD_setS {l:List (List Rat)}{n:Nat}{x:List Rat}(h:n<l.length):(l.set n x).getD n []=x:=by
  rw[List.getD_eq_getElem?_getD,List.getElem?_set_self h];rfl
theorem acc_len {Wc:List (List Rat)}{rw_:List Rat}{i r c:Nat}(hW:∀ a,a<r→(Wc.getD a []).length=c)(hr:rw_.length=c):∀ a,a<r→((Wc.set i rw_).getD a []).length=c:=fun a ha=>by
  by_cases e:a=i
  · subst e
    by_cases h:a<Wc.length
    · rw[getD_setS h];exact hr
    · rw[List.set_eq_of_length_le oM];exact hW a ha
  · rw[getD_setL e];exact hW a ha
theorem acc_rows {Wc:List (List Rat)}{rw_:List Rat}{g δ:Nat→Nat→Rat}{i r c:Nat}(hi:i<Wc.length)(hv:∀ a,a<r→∀ b,(Wc.getD a []).getD b 0=g a b+(if a<i then (if b<c then δ a b else 0) else 0))(hr:∀ b,rw_.getD b 0=g i b+(if b<c then δ i b else 0)) :
    ∀ a,a<r→∀ b,((Wc.set i rw_).getD a []).getD b 0=g a b+(if a<i+1 then (if b<c then δ a b else 0) else 0):=fun a ha b=>by
  by_cases e:a=i
  · subst e;rw[getD_setS hi,hr b,if_pos (Nat.lt_succ_self a)]
  · rw[getD_setL e,hv a ha b]
    by_cases h:a<i
    · rw[if_pos h,if_pos (show a<i+1 by omega)]
    · rw[if_neg h,if_neg (show ¬a<i+1 by omega)]
theorem own_rows {wd:World}{bk:Nat→Nat}{sp:Nat→List Value}{Wc:List (List Rat)}{rw_:List Rat}{i r bR:Nat}(hi:i<Wc.length)(hor:∀ a,a<r→a≠i→Own wd (bk a) 55 ((Wc.getD a []).flatMap qc++sp a))(hoi:Own wd bR 55 (rw_.flatMap qc++sp i))(hb:bR=bk i):∀ a,a<r→Own wd (bk a) 55 (((Wc.set i rw_).getD a []).flatMap qc++sp a):=fun a ha=>by
  by_cases e:a=i
  · subst e;rw[getD_setS hi,←hb];exact hoi
  · rw[getD_setL e];exact hor a ha e
theorem map_of' {pl:List Rat}{f:Nat→Rat}{n:Nat}(hl:pl.length=n)(hp:∀ j,j<n→pl.getD j 0=f j):pl=(List.range n).map f:=map_of hp rfl hl
theorem down_of {L:Lay}{xs bar dl:List Rat}{r c:Nat}(hx:xs.length=c)(hr:L.W.length=r)(hl:dl.length=c)(hv:∀ b,b<c→dl.getD b 0=sumF (fun a=>delq L xs bar a*(L.W.getD a []).getD b 0) r):dl=downq L xs bar:=by
  unfold downq;rw[hx,hr];exact map_of' hl hv
theorem acc_row {S L:Lay}{xs bar:List Rat}{Wc:List (List Rat)}{r c:Nat}(m:Mat L.W r c)(hx:xs.length=c)(hl:∀ a,a<r→(Wc.getD a []).length=c)(hv:∀ a,a<r→∀ b,(Wc.getD a []).getD b 0=(S.W.getD a []).getD b 0+(if a<r then (if b<c then delq L xs bar a*xs.getD b 0 else 0) else 0))(j:Nat)(hj:j<r):Wc.getD j []=(accl S L xs bar).W.getD j []:=by
  show _=(List.map _ _).getD j []
  rw[getD_mapR (by rw[m.rows];exact hj),hx];exact map_of' (hl j hj) (fun b hb=>by rw[hv j hj b,if_pos hj,if_pos hb])
theorem acc_B {S L:Lay}{xs bar Bc:List Rat}{r c:Nat}(m:Mat L.W r c)(hl:Bc.length=r)(hv:∀ a,Bc.getD a 0=S.B.getD a 0+(if a<r then delq L xs bar a else 0)):Bc=(accl S L xs bar).B:=by
  show _=List.map _ _
  rw[m.rows];exact map_of' hl (fun a ha=>by rw[hv a,if_pos ha])
theorem lq_sumF {f:Nat→Rat}{K:Nat}(h:∀ i,LQ K (f i)):∀ n,LQ (n*(K+1)+1) (sumF f n)
  | 0=>lq0 oM
  | n+1=>((lq_sumF h n).add (h n)).mono (by rw[Nat.add_mul];omega)
theorem nBackward (L:Lay)(r c:Nat)(mt:Mat L.W r c)(hr5:r≤5)(hc20:c≤20)(hk:L.k=1∨L.k=2∨L.k=3)(AW:Option Addr)(cW:Nat)(usW:List Value)(AB:Option Addr)(cB nB:Nat)(zk:Int)(AS:Option Addr)(cS:Nat)(usS:List Value)(cSB:Nat)(bk:Nat→Nat)(sp:Nat→List Value)(S:Lay)(hSl:usS.length=r)(hSv:∀ j,j<r→∃ cc,c≤cc∧usS.getD j undef=.slice (some ⟨bk j,0,none⟩) c cc)(hcSB:r≤cSB)(hSr:∀ j,j<r→(S.W.getD j []).length=c)(hSb:S.B.length=r)(hSw:S.W.length=r)(hinj:∀ i j,i≤r→j≤r→bk i=bk j→i=j)(I_:Option Addr)(cI:Nat)(xs:List Rat)(hx:xs.length=c)(V:Option Addr)(cV:Nat)(Z:Option Addr)(cZ:Nat)(bar:List Rat)(hbl:bar.length=r)(hbar:∀ j,LQ 10500000 (bar.getD j 0))(hsu:∀ j,LQ 21000 (sumr L xs j))(hxq:∀ j,LQ 42000 (xs.getD j 0))(hwq:∀ i j,LQ 1 ((L.W.getD i []).getD j 0))(hSq:∀ i j,LQ 45000000 ((S.W.getD i []).getD j 0))(hSqB:∀ j,LQ 45000000 (S.B.getD j 0))(bB:Nat)(hbB:bB=bk r)(w:World)(h:Hp)(g:G w h)(hoR:∀ j,j<r→Own w (bk j) 55 ((S.W.getD j []).flatMap qc++sp j))(hoB:Own w (bk r) 55 (S.B.flatMap qc++sp r))(hj:∀ j,j≤r→h[bk j]?=some junk)(hAW:Sv AW usW h)(hUW:QVs h usW L.W)(hAS:Sv AS usS h)(hI:Sq I_ xs h)(hV:Sq V (sumq L xs) h)(hZ:Sq Z bar h)(tb:Tab h):Calls Tryz.prog 144 #[.agg #[iV L.k,.slice AW usW.length cW,.slice AB nB cB],.agg #[iV zk,.slice AS usS.length cS,.slice (sB bB) r cSB],.slice I_ xs.length cI,.slice V ((sumq L xs).length) cV,.slice Z bar.length cZ] w (RetMs ((List.range (r+1)).map bk) w h fun v w' h1=>∃ A c,v=.slice A (downq L xs bar).length c∧(downq L xs bar).length≤c∧Sq A (downq L xs bar) h1∧(∀ j,j<r→Own w' (bk j) 55 (((accl S L xs bar).W.getD j []).flatMap qc++sp j))∧Own w' (bk r) 55 ((accl S L xs bar).B.flatMap qc++sp r)):=by
 obtain ⟨Mb,hMb⟩:∃ M,M=(List.range (r+1)).map bk:=⟨_,rfl⟩;rw[←hMb];have hmem:∀ j,j≤r→bk j∈Mb:=fun j hj=>by rw[hMb];exact List.mem_map.2 ⟨j,List.mem_range.2 oM,rfl⟩
 have hMj:∀ c∈Mb,h[c]?=some junk:=fun c hc=>by
   rw[hMb] at hc
   obtain ⟨j,hj1,e⟩:=List.mem_map.1 hc;rw[←e];exact hj j (by have:=List.mem_range.1 hj1;omega)
 have hmB:bB∈Mb:=by rw[hbB];exact hmem r (nR _)
 replace hoB:Own w bB 55 (S.B.flatMap qc++sp r):=by rw[hbB];exact hoB
 obtain ⟨wd,hdf,hoR,hoB,hs⟩:∃ wd,Dif Mb w wd∧(∀ j,j<r→Own wd (bk j) 55 ((S.W.getD j []).flatMap qc++sp j))∧Own wd bB 55 (S.B.flatMap qc++sp r)∧SS wd h w h [] [] []:=⟨w,Dif.refl _ _,hoR,hoB,sS g⟩;replace hs:=(((((((hs.aS hAW).aQ hUW).aS hAS).aS hI).aS hV).aS hZ).aB tb);have hlW:=(hs.f.q.2.1).len;have hrows:=mt.rows;have hlV:(sumq L xs).length=r:=by rw[sumq_len];exact mt.rows
 refine go Tryz.func144 [(0,.agg #[iV L.k,qS AW usW.length cW,qS AB nB cB]),(1,.agg #[iV zk,qS AS usS.length cS,qS (sB bB) r cSB]),(2,qS I_ xs.length cI),(3,qS V ((sumq L xs).length) cV),(4,qS Z bar.length cZ)] rfl (cSL (lA 5 144 ([iV L.k,qS AW usW.length cW,qS AB nB cB]) hs (fun b1 w2 h3 hs=>lA 6 144 ([iV zk,qS AS usS.length cS,qS (sB bB) r cSB]) hs (fun b4 w5 h6 hs=>lL hs [.v 10 (sZ)] (lNS (lL hs [.m 16 2,.v 17 (nV xs.length)] (lK 18 55 xs.length 5 56 (.agg #[qF,uV 0,eS,uV 0,eS]) qc 0 hs (fun b7 w8 h9 hs=>?_))))))));have hl10:(List.replicate xs.length 0).length=xs.length:=by simp
 refine lL hs [.m 11 18] (lN (cQ (cSL (lL hs [.v 19 (qP b1 1),.o 20 (qS AW usW.length cW) 2 1 1,.v 21 (nV usW.length),.v 22 (iV 0)] (lN (kZ ?_))))));refine cTo _ (CG.loop (fun μ_ Γ w_=>∃ (i:Nat) (Wc:List (List Rat)) (Bc:List Rat) (dl:List Rat) (wd:World) (h_:Hp),μ_=usW.length-i∧Γ=[(2,qS I_ xs.length cI),(3,qS V ((sumq L xs).length) cV),(4,qS Z bar.length cZ),(5,pB b1),(6,pB b4),(10,sZ),(11,qS (sB b7) xs.length xs.length),(20,qS AW usW.length cW),(21,nV usW.length),(22,nV i)]∧SS wd h w_ h_ [⟨b7,55,(dl).flatMap qc⟩,⟨b4,144,[iV zk,qS AS usS.length cS,qS (sB bB) r cSB]⟩,⟨b1,144,[iV L.k,qS AW usW.length cW,qS AB nB cB]⟩] [] [fun h_=>Tab h_,Sq Z bar,Sq V (sumq L xs),Sq I_ xs,Sv AS usS,Qu usW L.W,Sv AW usW]∧i≤usW.length∧dl.length=xs.length∧(∀ a,a<r→(Wc.getD a []).length=c)∧Wc.length=S.W.length∧(∀ a,a<r→∀ b,(Wc.getD a []).getD b 0=(S.W.getD a []).getD b 0+(if a<i then (if b<c then delq L xs bar a*xs.getD b 0 else 0) else 0))∧Bc.length=r∧(∀ a,Bc.getD a 0=S.B.getD a 0+(if a<i then delq L xs bar a else 0))∧(∀ b,b<c→dl.getD b 0=sumF (fun a=>delq L xs bar a*(L.W.getD a []).getD b 0) i)∧Dif Mb w wd∧(∀ a,a<r→Own wd (bk a) 55 ((Wc.getD a []).flatMap qc++sp a))∧Own wd bB 55 (Bc.flatMap qc++sp r)) _ ⟨0,S.W,S.B,List.replicate xs.length 0,wd,h9,rfl,rfl,hs.to _ _,Nat.zero_le _,(by simp),hSr,rfl,(fun a _ b=>by rw[if_neg (Nat.not_lt_zero a),Rat.add_zero]),hSb,(fun a=>by rw[if_neg (Nat.not_lt_zero a),Rat.add_zero]),(fun b _=>rep_zero b),hdf,hoR,hoB⟩ ?_);rintro _ _ _ ⟨i,Wc,Bc,dl,wd,_,hm13,rfl,hs,hi,hdl,hWl,hWn,hWv,hBl,hBv,hdv,hdf,hoR,hoB⟩;refine cSL ?_;cases zb:(decide ((i:Int)<(usW.length:Int)))
 ·
  have zg:=oF zb;refine lB 23 zb (lN (cQ (cIF (CG.exit ?_))))
  show CG _ _ _ _ _ _ _ _
  refine cSL (lL hs [.m 93 11,.m 10 93] (lN (kX ?_)));have hir:i=r:=by omega
  have hde:dl=downq L xs bar:=down_of hx mt.rows oM (by rw[←hir];exact hdv);rw[hir] at hWv hBv
  obtain ⟨_,hs,sg16,lo17,bc18⟩:=hs.pub 0;replace hs:=(hs.to [⟨b4,144,[iV zk,qS AS usS.length cS,qS (sB bB) r cSB]⟩,⟨b1,144,[iV L.k,qS AW usW.length cW,qS AB nB cB]⟩] []).aS (SlO.of_flat (sz:=5) (f:=qc) (d:=0) (b:=b7) (o:=0) (l:=dl) (fun _=>rfl) sg16);exact hs.retMs (hs.upF hdf) [] (qS (sB b7) xs.length xs.length) ⟨sB b7,xs.length,by rw[←hde,hdl],by rw[←hde,hdl];exact nR _,by rw[←hde];exact hs.f.1,fun j hj=>by rw[←acc_row mt hx hWl hWv j hj];exact hs.fown (hoR j hj),by rw[←acc_B mt hBl hBv];exact hbB▸hs.fown hoB⟩
 have zg:=oT zb;refine lB 23 zb (lN (cQ (cIT (cK (cQ (kZ (cSL ?_)))))));have hmi:=mt.row i oM;obtain ⟨cc,hcc,eR⟩:=hSv i oM;obtain ⟨bR,hbR⟩:∃ b,b=bk i:=⟨_,rfl⟩;rw[←hbR] at eR
 have hmR:bR∈Mb:=by rw[hbR];exact hmem i oM
 have hBq:LQ 45000000 (Bc.getD i 0):=by rw[hBv i,if_neg (Nat.lt_irrefl i),Rat.add_zero];exact hSqB i
 have hdD:LQ 10542006 (bar.getD i 0*slp L.k (sumr L xs i)):=(hbar i).mul (LQ.slp L.k (hsu i));have hde_:∀ a,LQ 10542006 (delq L xs bar a):=fun a=>(hbar a).mul (LQ.slp L.k (hsu a))
 have hfa:∀ b a,LQ (10542006+1) (delq L xs bar a*(L.W.getD a []).getD b 0):=fun b a=>(hde_ a).mul (hwq a b)
 refine lL hs [.m 24 22] (lX 25 AW usW.length cW 1 (i:Nat) i ((hs.f.q.r.1).ok oM) ?_);obtain ⟨Aqw,cqw,eqw,hcqw,hRqw⟩:=(hs.f.q.2.1).at_ i oM;replace hs:=hs.aS hRqw;refine lHe 26 (usW.getD i undef) hs ((hs.f.q.r.2.1).el i oM) eqw (lL hs [.m 12 24,.m 13 26] (lN (cQ ?_)));have hsr:=hs;refine cR 13 [⟨12,14,.cells (List.toArray [qF,uV 0,eS,uV 0,eS]) 55 (0,0)⟩] mixed hs (al_cons (alOk kR (fun _ _=>by kernel_rfl)) al_nil) (eV 0 27 (qS Z bar.length cZ) (eV 1 28 (nV i) (eX 2 29 Z bar.length cZ 5 (i:Nat) i ((hs.f.r.1).ok oM) (eH 3 30 (qv (bar.getD i 0)) hs ((hs.f.r.1).el i oM) (eV 4 31 (pB b1) (eO 5 32 [(2,0,1)] (iV L.k) hs (eV 6 33 (qS V ((sumq L xs).length) cV) (eV 7 34 (nV i) (eX 8 35 V ((sumq L xs).length) cV 5 (i:Nat) i ((hs.f.r.2.1).ok oM) (eHe 9 36 (qv ((sumq L xs).getD i 0)) hs ((hs.f.r.2.1).el i oM) (by rw[sumq_get oM]) (eC 10 37 hs (fun _ _ hs=>nSlope L.k hk (sumr L xs i) ((hsu i).mono oM) _ _ hs.g hs.f.2.1) ?_)))))))))));rintro _ _ _ _ _ hs rfl;have za:=LQ.mul (hbar i) (LQ.slp L.k (hsu i));refine eC 11 38 hs (fun _ _ hs=>fMul (bar.getD i 0) (slp L.k (sumr L xs i)) (LQ.mono (hbar i) oM) (LQ.mono (LQ.slp L.k (hsu i)) oM) _ _ hs.g hs.f.2.1) ?_;rintro _ _ _ _ _ hs rfl;refine eD1p [] hsr hs 55 [qF,uV 0,eS,uV 0,eS] (fun _ _ zd hs=>tP 13 0 0 (qc ((bar.getD i 0)*(slp L.k (sumr L xs i)))) hs (fun _ hs=>tN (cQ (cR 10 [] mixed hs al_nil ?_))));refine eV 0 39 (qP b4 2) (eO 1 40 [(2,2,1)] (qS (sB bB) r cSB) hs (eV 2 41 (nV i) (eV 3 42 (qP b4 2) (eO 4 43 [(2,2,1)] (qS (sB bB) r cSB) hs (eV 5 44 (nV i) (eX 6 45 (sB bB) r cSB 5 (i:Nat) i rfl (eFg 7 46 (qv (Bc.getD i 0)) (qc (Bc.getD i 0)) (o:=0+i*5) hs hoB (own_el oM) (eO 8 47 [(0,0,5)] (qv ((bar.getD i 0)*(slp L.k (sumr L xs i)))) hs ?_))))))));have hq29:=LQ.add hBq za;refine eC 9 48 hs (fun _ _ hs=>fAdd (Bc.getD i 0) ((bar.getD i 0)*(slp L.k (sumr L xs i))) (LQ.mono hBq oM) (LQ.mono za oM) _ _ hs.g hs.f.2.1) ?_;rintro _ _ _ _ _ hs rfl;refine eD0 hs (fun _ zl hs=>tX 10 49 (sB bB) r cSB 5 (i:Nat) i rfl (tFg 11 (0+i*5) (qc ((Bc.getD i 0)+((bar.getD i 0)*(slp L.k (sumr L xs i))))) hs hdf hMj hmB hoB (own_le oM) (fun _ wd2 hdf2 hoB2 hoth hs=>?_)));rw[own_put oM] at hoB2
 have hoR2:∀ a,a<r→Own wd2 (bk a) 55 ((Wc.getD a []).flatMap qc++sp a):=fun a ha=>hoth _ _ _ (fun e=>by rw[hbB] at e;have:=hinj a r oM oM e;omega) (hoR a ha)
 refine tNS (lL hs [.m 50 13,.v 51 (nV ((L.W.getD i []).length)),.v 52 (iV 0)] (lN (cTo [(2,qS I_ xs.length cI),(3,qS V ((sumq L xs).length) cV),(4,qS Z bar.length cZ),(5,pB b1),(6,pB b4),(10,sZ),(11,qS (sB b7) xs.length xs.length),(20,qS AW usW.length cW),(21,nV usW.length),(22,nV i),(12,nV i),(13,qS Aqw ((L.W.getD i []).length) cqw),(14,pB zd),(51,nV ((L.W.getD i []).length)),(52,iV 0)] ?_)));refine kZ ?_;refine cTo _ (CG.loop (fun μ_ Γ w_=>∃ (j:Nat) (rw_:List Rat) (dl2:List Rat) (wd:World) (h_:Hp),μ_=(L.W.getD i []).length-j∧Γ=[(2,qS I_ xs.length cI),(3,qS V ((sumq L xs).length) cV),(4,qS Z bar.length cZ),(5,pB b1),(6,pB b4),(10,sZ),(11,qS (sB b7) xs.length xs.length),(20,qS AW usW.length cW),(21,nV usW.length),(22,nV i),(12,nV i),(13,qS Aqw ((L.W.getD i []).length) cqw),(14,pB zd),(51,nV ((L.W.getD i []).length)),(52,nV j)]∧SS wd h w_ h_ [⟨zd,55,qc ((bar.getD i 0)*(slp L.k (sumr L xs i)))⟩,⟨b7,55,(dl2).flatMap qc⟩,⟨b4,144,[iV zk,qS AS usS.length cS,qS (sB bB) r cSB]⟩,⟨b1,144,[iV L.k,qS AW usW.length cW,qS AB nB cB]⟩] [] [Sq Aqw (L.W.getD i []),fun h_=>Tab h_,Sq Z bar,Sq V (sumq L xs),Sq I_ xs,Sv AS usS,Qu usW L.W,Sv AW usW]∧j≤(L.W.getD i []).length∧dl2.length=xs.length∧rw_.length=c∧(∀ b,rw_.getD b 0=(S.W.getD i []).getD b 0+(if b<j then delq L xs bar i*xs.getD b 0 else 0))∧(∀ b,b<c→dl2.getD b 0=sumF (fun a=>delq L xs bar a*(L.W.getD a []).getD b 0) i+(if b<j then delq L xs bar i*(L.W.getD i []).getD b 0 else 0))∧Dif Mb w wd∧(∀ a,a<r→a≠i→Own wd (bk a) 55 ((Wc.getD a []).flatMap qc++sp a))∧Own wd bR 55 (rw_.flatMap qc++sp i)∧Own wd bB 55 ((Bc.set i (Bc.getD i 0+(bar.getD i 0*slp L.k (sumr L xs i)))).flatMap qc++sp r)) _ ⟨0,Wc.getD i [],dl,wd2,zl,rfl,rfl,hs.to _ _,Nat.zero_le _,hdl,(hWl i oM),(fun b=>by rw[hWv i oM b,if_neg (Nat.lt_irrefl i),if_neg (Nat.not_lt_zero b)]),(fun b hb=>by rw[hdv b hb,if_neg (Nat.not_lt_zero b),Rat.add_zero]),hdf2,(fun a ha _=>hoR2 a ha),(by rw[hbR];exact hoR2 i oM),hoB2⟩ ?_);rintro _ _ _ ⟨j,rw_,dl2,wd,zm,hm37,rfl,hs,hj_,hdl2,hrl,hrv,hdv2,hdf,hor,hoi,hoB2⟩;refine cSL ?_;cases zc:(decide ((j:Int)<(((L.W.getD i []).length:Nat):Int)))
 ·
  have zi:=oF zc;refine lB 53 zc (lN (cQ (cIF (CG.exit ?_))))
  show CG _ _ _ _ _ _ _ _
  refine kQ (lIn 92 ((i:Nat)+1) (i+1) ?_);refine lL hs [.m 22 92] (lD ?_);intro a_ ka;replace hs:=hs.tl;replace hs:=hs.drop 1 0;refine ⟨_,_,?_,⟨i+1,Wc.set i rw_,Bc.set i (Bc.getD i 0+(bar.getD i 0*slp L.k (sumr L xs i))),dl2,wd,zm,rfl,rfl,hs.to _ _,oM,hdl2,(acc_len hWl hrl),(by rw[List.length_set];exact hWn),(acc_rows oM hWv (by rw[←show j=c by omega];exact hrv)),(by rw[List.length_set];exact hBl),(acc_step oM hBv),(fun b hb=>by rw[hdv2 b hb,if_pos oM];rfl),hdf,(own_rows oM hor hoi hbR),hoB2⟩,ka.to _ kR⟩
  omega
 have zi:=oT zc;refine lB 53 zc (lN (cQ (cIT (cK (cQ (kZ (cSL (lL hs [.m 54 52,.m 15 54] (lN (cQ (cR 21 [] mixed hs al_nil ?_)))))))))));have hRq:LQ 45000000 (rw_.getD j 0):=by rw[hrv j,if_neg (Nat.lt_irrefl j),Rat.add_zero];exact hSq i j
 have hDq:LQ (5*(10542006+1+1)+1) (dl2.getD j 0):=by rw[hdv2 j oM,if_neg (Nat.lt_irrefl j),Rat.add_zero];exact (lq_sumF (hfa j) i).mono oM
 refine eV 0 55 (qP b4 1) (eO 1 56 [(2,1,1)] (qS AS usS.length cS) hs (eV 2 57 (nV i) (eX 3 58 AS usS.length cS 1 (i:Nat) i ((hs.f.q.2.1).ok oM) (eHe 4 59 (usS.getD i undef) hs ((hs.f.q.2.1).el i oM) eR (eV 5 60 (nV j) (eV 6 61 (qP b4 1) (eO 7 62 [(2,1,1)] (qS AS usS.length cS) hs (eV 8 63 (nV i) (eX 9 64 AS usS.length cS 1 (i:Nat) i ((hs.f.q.2.1).ok oM) (eHe 10 65 (usS.getD i undef) hs ((hs.f.q.2.1).el i oM) eR (eV 11 66 (nV j) (eX 12 67 (sB bR) c cc 5 (j:Nat) j rfl (eFg 13 68 (qv (rw_.getD j 0)) (qc (rw_.getD j 0)) (o:=0+j*5) hs hoi (own_el oM) (eO 14 69 [(0,0,5)] (qv ((bar.getD i 0)*(slp L.k (sumr L xs i)))) hs (eV 15 70 (qS I_ xs.length cI) (eV 16 71 (nV j) (eX 17 72 I_ xs.length cI 5 (j:Nat) j ((hs.f.q.1).ok oM) (eH 18 73 (qv (xs.getD j 0)) hs ((hs.f.q.1).el j oM) ?_))))))))))))))))));have ze:=LQ.mul za (hxq j);refine eC 19 74 hs (fun _ _ hs=>fMul ((bar.getD i 0)*(slp L.k (sumr L xs i))) (xs.getD j 0) (LQ.mono za oM) (LQ.mono (hxq j) oM) _ _ hs.g hs.f.2.1) ?_;rintro _ _ _ _ _ hs rfl;have hq53:=LQ.add hRq ze;refine eC 20 75 hs (fun _ _ hs=>fAdd (rw_.getD j 0) (((bar.getD i 0)*(slp L.k (sumr L xs i)))*(xs.getD j 0)) (LQ.mono hRq oM) (LQ.mono ze oM) _ _ hs.g hs.f.2.1) ?_;rintro _ _ _ _ _ hs rfl;refine eD0 hs (fun _ _ hs=>tX 21 76 (sB bR) c cc 5 (j:Nat) j rfl (tFg 22 (0+j*5) (qc ((rw_.getD j 0)+(((bar.getD i 0)*(slp L.k (sumr L xs i)))*(xs.getD j 0)))) hs hdf hMj hmR hoi (own_le oM) (fun _ wd3 hdf3 hoi3 hoth hs=>?_)));rw[own_put oM] at hoi3
 have hor3:∀ a,a<r→a≠i→Own wd3 (bk a) 55 ((Wc.getD a []).flatMap qc++sp a):=fun a ha hne=>hoth _ _ _ (fun e=>by rw[hbR] at e;exact hne (hinj a i oM oM e)) (hor a ha hne)
 have hoB3:Own wd3 bB 55 ((Bc.set i (Bc.getD i 0+(bar.getD i 0*slp L.k (sumr L xs i)))).flatMap qc++sp r):=hoth _ _ _ (fun e=>by rw[hbB,hbR] at e;have:=hinj r i oM oM e;omega) hoB2;refine tN (cR 13 [] mixed hs al_nil ?_);refine eV 0 77 (qS (sB b7) xs.length xs.length) (eV 1 78 (nV j) (eV 2 79 (qS (sB b7) xs.length xs.length) (eV 3 80 (nV j) (eX 4 81 (sB b7) xs.length xs.length 5 (j:Nat) j rfl (eQ 5 82 1 dl2 qc 5 0 j (qv ((dl2).getD j 0)) hs oM (eO 6 83 [(0,0,5)] (qv ((bar.getD i 0)*(slp L.k (sumr L xs i)))) hs (eV 7 84 (qS Aqw ((L.W.getD i []).length) cqw) (eV 8 85 (nV j) (eX 9 86 Aqw ((L.W.getD i []).length) cqw 5 (j:Nat) j ((hs.f.1).ok oM) (eH 10 87 (qv ((L.W.getD i []).getD j 0)) hs ((hs.f.1).el j oM) ?_))))))))));have zf:=LQ.mul za (hwq i j);refine eC 11 88 hs (fun _ _ hs=>fMul ((bar.getD i 0)*(slp L.k (sumr L xs i))) ((L.W.getD i []).getD j 0) (LQ.mono za oM) (LQ.mono (hwq i j) oM) _ _ hs.g hs.f.2.1) ?_;rintro _ _ _ _ _ hs rfl;have hq62:=LQ.add hDq zf;refine eC 12 89 hs (fun _ _ hs=>fAdd ((dl2).getD j 0) (((bar.getD i 0)*(slp L.k (sumr L xs i)))*((L.W.getD i []).getD j 0)) (LQ.mono hDq oM) (LQ.mono zf oM) _ _ hs.g hs.f.2.1) ?_;rintro _ _ _ _ _ hs rfl;refine eD0 hs (fun _ zn hs=>tX 13 90 (sB b7) xs.length xs.length 5 (j:Nat) j rfl (tW 14 1 dl2 qc 5 j (((dl2).getD j 0)+(((bar.getD i 0)*(slp L.k (sumr L xs i)))*((L.W.getD i []).getD j 0))) hs oM (fun _ hs=>?_)));have zj:((dl2).set j (((dl2).getD j 0)+(((bar.getD i 0)*(slp L.k (sumr L xs i)))*((L.W.getD i []).getD j 0)))).length=xs.length:=by rw[List.length_set];exact hdl2
 replace hs:=hs.to [⟨zd,55,qc ((bar.getD i 0)*(slp L.k (sumr L xs i)))⟩,⟨b7,55,((dl2).set j (((dl2).getD j 0)+(((bar.getD i 0)*(slp L.k (sumr L xs i)))*((L.W.getD i []).getD j 0)))).flatMap qc⟩,⟨b4,144,[iV zk,qS AS usS.length cS,qS (sB bB) r cSB]⟩,⟨b1,144,[iV L.k,qS AW usW.length cW,qS AB nB cB]⟩] [];refine tN (cTo [(2,qS I_ xs.length cI),(3,qS V ((sumq L xs).length) cV),(4,qS Z bar.length cZ),(5,pB b1),(6,pB b4),(10,sZ),(11,qS (sB b7) xs.length xs.length),(20,qS AW usW.length cW),(21,nV usW.length),(22,nV i),(12,nV i),(13,qS Aqw ((L.W.getD i []).length) cqw),(14,pB zd),(51,nV ((L.W.getD i []).length)),(52,nV j)] ?_);refine kQ (lIn 91 ((j:Nat)+1) (j+1) ?_);refine lL hs [.m 52 91] (lD ?_);intro a_ ka;refine ⟨_,_,?_,⟨j+1,rw_.set j ((rw_.getD j 0)+(((bar.getD i 0)*(slp L.k (sumr L xs i)))*(xs.getD j 0))),(dl2).set j (((dl2).getD j 0)+(((bar.getD i 0)*(slp L.k (sumr L xs i)))*((L.W.getD i []).getD j 0))),wd3,zn,rfl,rfl,hs.to _ _,oM,zj,(by rw[List.length_set];exact hrl),(acc_step (δ:=fun b=>delq L xs bar i*xs.getD b 0) oM hrv),(acc_stepc (δ:=fun b=>delq L xs bar i*(L.W.getD i []).getD b 0) oM oM hdv2),hdf3,hor3,hoi3,hoB3⟩,ka.to _ kR⟩
 omega
theorem getD_mem {α:Type}{l:List α}{i:Nat}{d:α}(h:i<l.length):l.getD i d∈l:=by
  rw[List.getD_eq_getElem?_getD,List.getElem?_eq_getElem h];exact List.getElem_mem h
theorem getD_over {α:Type}{l:List α}{i:Nat}{d:α}(h:l.length≤i):l.getD i d=d:=by
  rw[List.getD_eq_getElem?_getD,List.getElem?_eq_none h];rfl
theorem lq_get {k:Nat}{l:List Rat}(h:∀ q∈l,LQ k q)(hk:1≤k)(j:Nat):LQ k (l.getD j 0):=by
  rw[List.getD_eq_getElem?_getD];cases hh:l[j]? with
  | none=>exact lq0 hk
  | some q=>exact h q (List.mem_of_getElem? hh)
def knownN:List Lay:=[⟨2,[[((1:Int):Rat),((-1:Int):Rat)]],[((0:Int):Rat)]⟩]
theorem knownChk:chkq knownN=0:=by
  have hF:Fine knownN 0:=⟨⟨by decide,by decide,fun i hi=>(by obtain rfl:i=0:=Nat.lt_one_iff.1 hi;rfl)⟩,by decide,rfl,fun _=>by decide,fun h=>absurd h kD⟩;have hK:Kd knownN 0:=⟨by decide,by decide⟩
  unfold chkq
  rw[if_pos ⟨by decide,by decide⟩]
  have e:chkFrom knownN 0 (0+1)=0:=by
    unfold chkFrom
    rw[if_pos hF,if_pos hK];rfl
  exact e
theorem knownSz (i:Nat):LaySz (knownN.getD i lay0):=by
  rcases Nat.eq_zero_or_pos i with h|h
  · subst h
    refine ⟨by decide,fun i=>?_,by decide,fun i j=>?_,lq_get (by intro q hq;have:q=((0:Int):Rat):=List.mem_singleton.1 hq;rw[this];exact LQ.lit kD) oM,by decide,by decide⟩
    · cases i with
      | zero=>decide
      | succ i=>exact Nat.zero_le _
    · cases i with
      | zero=>exact lq_get (by intro q hq;rcases List.mem_cons.1 hq with rfl|hq;exact LQ.lit kD;rw[List.mem_singleton.1 hq];exact LQ.lit kD) oM j
      | succ i=>exact lq0 oM
  · obtain ⟨k,rfl⟩:∃ k,i=k+1:=⟨i-1,by omega⟩
    exact lay0_sz
theorem knownE (a:Int):ansE knownN [(a:Rat),((2:Int):Rat)]=0:=ansE0 knownChk rfl
theorem knownL1:ansL knownN [((1:Int):Rat),((2:Int):Rat)]=[0]:=by rw[ansL0 (xs:=[((1:Int):Rat),((2:Int):Rat)]) knownChk rfl];decide +kernel
theorem knownL5:ansL knownN [((5:Int):Rat),((2:Int):Rat)]=[3]:=by rw[ansL0 (xs:=[((5:Int):Rat),((2:Int):Rat)]) knownChk rfl];decide +kernel
theorem lKnown30  (w:World)(h:Hp)(g:G w h)(tb:Tab h):CV 32 #[] w h (.bool true):=by
 have hs:=((sS g).aB tb);have hk1:(ansL knownN ([((1:Int):Rat),((2:Int):Rat)]:List Rat)).length=1:=by rw[knownL1];rfl
 have hk5:(ansL knownN ([((5:Int):Rat),((2:Int):Rat)]:List Rat)).length=1:=by rw[knownL5];rfl
 refine go Tryz.func32 [] rfl (cSL (lL hs [.v 0 qF] (lNS (lC 6 hs (fOf 1 oM oM _ _ hs.g) ?_))));rintro _ w1 h2 hs rfl;refine lC 7 hs (fOf (-1) oM oM _ _ hs.g) ?_;rintro _ w3 h4 hs rfl;refine lR 8 55 2 ([.bool (ineg ((1:Int):Rat).num),uV (lo (iabs ((1:Int):Rat).num)),.string (hi (iabs ((1:Int):Rat).num)),uV (lo (qd ((1:Int):Rat))),.string (hi (qd ((1:Int):Rat))),.bool (ineg ((-1:Int):Rat).num),uV (lo (iabs ((-1:Int):Rat).num)),.string (hi (iabs ((-1:Int):Rat).num)),uV (lo (qd ((-1:Int):Rat))),.string (hi (qd ((-1:Int):Rat)))]) hs (fun b5 w6 h7 hs=>?_);replace hs:=hs.aS (SlO.of_flat (sz:=5) (f:=qc) (d:=0) (b:=b5) (o:=0) (l:=([((1:Int):Rat),((-1:Int):Rat)]:List Rat)) (fun _=>rfl) hs.f.1);refine lR 9 30 1 ([qS (sB b5) 2 2]) hs (fun za _ _ hs=>?_);replace hs:=hs.aS (SlO.of_flat (sz:=1) (f:=vc) (d:=undef) (b:=za) (o:=0) (l:=([qS (sB b5) 2 2]:List Value)) (fun _=>rfl) hs.f.1);refine lC 10 hs (fOf 0 oM oM _ _ hs.g) ?_;rintro _ _ _ hs rfl;refine lR 11 55 1 (qc ((0:Int):Rat)) hs (fun zb _ _ hs=>?_);replace hs:=hs.aS (SlO.of_flat (sz:=5) (f:=qc) (d:=0) (b:=zb) (o:=0) (l:=([((0:Int):Rat)]:List Rat)) (fun _=>rfl) hs.f.1);refine lL hs [.v 12 (.agg #[iV 2,qS (sB za) 1 1,qS (sB zb) 1 1])] (lR 13 144 1 ([iV 2,qS (sB za) 1 1,qS (sB zb) 1 1]) hs (fun zc _ _ hs=>?_));replace hs:=hs.aS (SlO.of_flat (sz:=3) (f:=lvc) (d:=lvd) (b:=zc) (o:=0) (l:=([(2,qS (sB za) 1 1,qS (sB zb) 1 1)]:List LV)) (fun _=>rfl) hs.f.1);replace hs:=hs.add (K:=Nn ([(2,qS (sB za) 1 1,qS (sB zb) 1 1)]:List LV) knownN) (NetL.snoc NetL.nil ⟨rfl,⟨_,_,([qS (sB b5) 2 2]:List Value),rfl,nR _,hs.f.q.1,QVs.snoc QVs.nil ⟨_,_,rfl,nR _,hs.f.q.r.1⟩⟩,⟨_,_,rfl,nR _,hs.f.r.1⟩⟩);refine lL hs [.v 14 (.agg #[qS (sB zc) 1 1])] (lA 1 74 ([sZ]) hs (fun b27 _ _ hs=>lP 0 0 ([qS (sB zc) 1 1]) hs (fun _ hs=>lN (cQ (cR 8 [] mixed hs al_nil ?_)))));refine eO 0 16 [(0,0,1)] (.agg #[qS (sB zc) 1 1]) hs (eC 1 17 hs (fun _ _ hs=>fOf 1 oM oM _ _ hs.g) ?_);rintro _ _ _ _ _ hs rfl;refine eC 2 18 hs (fun _ _ hs=>fOf 2 oM oM _ _ hs.g) ?_;rintro _ _ _ _ _ hs rfl;refine eR 3 19 55 2 ([.bool (ineg ((1:Int):Rat).num),uV (lo (iabs ((1:Int):Rat).num)),.string (hi (iabs ((1:Int):Rat).num)),uV (lo (qd ((1:Int):Rat))),.string (hi (qd ((1:Int):Rat))),.bool (ineg ((2:Int):Rat).num),uV (lo (iabs ((2:Int):Rat).num)),.string (hi (iabs ((2:Int):Rat).num)),uV (lo (qd ((2:Int):Rat))),.string (hi (qd ((2:Int):Rat)))]) hs (fun zg _ _ hs=>?_);replace hs:=hs.aS (SlO.of_flat (sz:=5) (f:=qc) (d:=0) (b:=zg) (o:=0) (l:=([((1:Int):Rat),((2:Int):Rat)]:List Rat)) (fun _=>rfl) hs.f.1);refine eC 4 20 hs (fun _ _ hs=>nAnswer (sB zc) 1 ([(2,qS (sB za) 1 1,qS (sB zb) 1 1)]:List LV) knownN kD (fun i _=>(knownSz i).len) (sB zg) 2 ([((1:Int):Rat),((2:Int):Rat)]:List Rat) (nR _) (fun _ h2=>netB (chk_net3 knownChk) knownSz h2 (lq_get (by intro q hq;simp only[List.mem_cons,List.not_mem_nil,or_false] at hq;rcases hq with rfl|rfl<;>exact LQ.lit kD) oM)) _ _ hs.g hs.f.r.2.1 hs.f.r.1 hs.f.1 hs.f.q.q.r.2.1) ?_;rintro _ _ _ _ _ hs ⟨Aa1,ca1,rfl,hca1,hAa1⟩;replace hs:=hs.aS hAa1;refine eV 5 15 (.tuple #[qS Aa1 ((ansL knownN ([((1:Int):Rat),((2:Int):Rat)]:List Rat)).length) ca1,iV (ansE knownN ([((1:Int):Rat),((2:Int):Rat)]:List Rat))]) (eV 6 21 (qS Aa1 ((ansL knownN ([((1:Int):Rat),((2:Int):Rat)]:List Rat)).length) ca1) (eV 7 22 (iV (ansE knownN ([((1:Int):Rat),((2:Int):Rat)]:List Rat))) (eD0 hs (fun _ _ hs=>tV 8 2 (qS Aa1 ((ansL knownN ([((1:Int):Rat),((2:Int):Rat)]:List Rat)).length) ca1) (tV 9 3 (iV (ansE knownN ([((1:Int):Rat),((2:Int):Rat)]:List Rat))) (tN (cQ (cR 8 [] mixed hs al_nil ?_))))))));refine eO 0 24 [(0,0,1)] (.agg #[qS (sB zc) 1 1]) hs (eC 1 25 hs (fun _ _ hs=>fOf 5 oM oM _ _ hs.g) ?_);rintro _ _ _ _ _ hs rfl;refine eC 2 26 hs (fun _ _ hs=>fOf 2 oM oM _ _ hs.g) ?_;rintro _ _ _ _ _ hs rfl;refine eR 3 27 55 2 ([.bool (ineg ((5:Int):Rat).num),uV (lo (iabs ((5:Int):Rat).num)),.string (hi (iabs ((5:Int):Rat).num)),uV (lo (qd ((5:Int):Rat))),.string (hi (qd ((5:Int):Rat))),.bool (ineg ((2:Int):Rat).num),uV (lo (iabs ((2:Int):Rat).num)),.string (hi (iabs ((2:Int):Rat).num)),uV (lo (qd ((2:Int):Rat))),.string (hi (qd ((2:Int):Rat)))]) hs (fun zi _ _ hs=>?_);replace hs:=hs.aS (SlO.of_flat (sz:=5) (f:=qc) (d:=0) (b:=zi) (o:=0) (l:=([((5:Int):Rat),((2:Int):Rat)]:List Rat)) (fun _=>rfl) hs.f.1);refine eC 4 28 hs (fun _ _ hs=>nAnswer (sB zc) 1 ([(2,qS (sB za) 1 1,qS (sB zb) 1 1)]:List LV) knownN kD (fun i _=>(knownSz i).len) (sB zi) 2 ([((5:Int):Rat),((2:Int):Rat)]:List Rat) (nR _) (fun _ h2=>netB (chk_net3 knownChk) knownSz h2 (lq_get (by intro q hq;simp only[List.mem_cons,List.not_mem_nil,or_false] at hq;rcases hq with rfl|rfl<;>exact LQ.lit kD) oM)) _ _ hs.g hs.f.q.r.1 hs.f.q.2.1 hs.f.1 hs.f.q.q.q.r.1) ?_;rintro _ _ _ _ _ hs ⟨Aa5,ca5,rfl,hca5,hAa5⟩;replace hs:=hs.aS hAa5;refine eV 5 23 (.tuple #[qS Aa5 ((ansL knownN ([((5:Int):Rat),((2:Int):Rat)]:List Rat)).length) ca5,iV (ansE knownN ([((5:Int):Rat),((2:Int):Rat)]:List Rat))]) (eV 6 29 (qS Aa5 ((ansL knownN ([((5:Int):Rat),((2:Int):Rat)]:List Rat)).length) ca5) (eV 7 30 (iV (ansE knownN ([((5:Int):Rat),((2:Int):Rat)]:List Rat))) (eD0 hs (fun _ _ hs=>tV 8 4 (qS Aa5 ((ansL knownN ([((5:Int):Rat),((2:Int):Rat)]:List Rat)).length) ca5) (tV 9 5 (iV (ansE knownN ([((5:Int):Rat),((2:Int):Rat)]:List Rat))) (tNS (lL hs [.m 31 3] ?_)))))));have zd:((ansE knownN ([((1:Int):Rat),((2:Int):Rat)]:List Rat):Int) == (0:Int))=true:=by rw[knownE];rfl
 have phb57:=eq_of_beq zd;refine lB 32 zd (lL hs [.m 33 32,.m 34 2,.v 35 (nV ((ansL knownN ([((1:Int):Rat),((2:Int):Rat)]:List Rat)).length))] ?_);have ze:((((ansL knownN ([((1:Int):Rat),((2:Int):Rat)]:List Rat)).length:Nat):Int) == (1:Int))=true:=by rw[hk1];rfl
 have phb58:=eq_of_beq ze;refine lB 36 ze (lL hs [.v 37 qT,.m 38 37,.m 39 2] (lX 40 Aa1 ((ansL knownN ([((1:Int):Rat),((2:Int):Rat)]:List Rat)).length) ca1 5 0 0 ((hs.f.r.2.1).ok oM) ?_));refine lH 41 (qv ((ansL knownN ([((1:Int):Rat),((2:Int):Rat)]:List Rat)).getD 0 0)) hs ((hs.f.r.2.1).el 0 oM) (lC 42 hs (hIs ((ansL knownN ([((1:Int):Rat),((2:Int):Rat)]:List Rat)).getD 0 0) 0 1 (by rw[knownL1];exact ⟨by decide +kernel,by decide +kernel⟩) kD kD kD kD kD _ _ hs.g) ?_);rintro _ _ _ hs rfl;have zj:(sameQ ((ansL knownN ([((1:Int):Rat),((2:Int):Rat)]:List Rat)).getD 0 0) (mkR 0 1))=true:=by rw[knownL1];decide +kernel
 rw[zj];refine lL hs [.v 43 qT,.m 44 43,.m 45 5] ?_;have zf:((ansE knownN ([((5:Int):Rat),((2:Int):Rat)]:List Rat):Int) == (0:Int))=true:=by rw[knownE];rfl
 have phb62:=eq_of_beq zf;refine lB 46 zf (lL hs [.v 47 qT,.m 48 47,.m 49 4] (lX 50 Aa5 ((ansL knownN ([((5:Int):Rat),((2:Int):Rat)]:List Rat)).length) ca5 5 0 0 ((hs.f.1).ok oM) ?_));refine lH 51 (qv ((ansL knownN ([((5:Int):Rat),((2:Int):Rat)]:List Rat)).getD 0 0)) hs ((hs.f.1).el 0 oM) (lC 52 hs (hIs ((ansL knownN ([((5:Int):Rat),((2:Int):Rat)]:List Rat)).getD 0 0) 3 1 (by rw[knownL5];exact ⟨by decide +kernel,by decide +kernel⟩) kD kD kD kD kD _ _ hs.g) ?_);rintro _ _ _ hs rfl;have zk:(sameQ ((ansL knownN ([((5:Int):Rat),((2:Int):Rat)]:List Rat)).getD 0 0) (mkR 3 1))=true:=by rw[knownL5];decide +kernel
 rw[zk];refine lL hs [.v 53 qT,.m 0 53] (lN (cTo [(0,qT)] ?_));exact kX (hs.ret [] qT rfl)
end Go.Proofs.YtmkcmnhnmajheaaGreatDoor
