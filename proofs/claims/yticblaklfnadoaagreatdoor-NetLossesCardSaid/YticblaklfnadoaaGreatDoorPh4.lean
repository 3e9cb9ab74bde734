/- Laws and contracts that the card of this claim stands on, part 5. No condition of ours. -/
import Derived.Test.YticblaklfnadoaaGreatDoorPh0
import Derived.Test.YticblaklfnadoaaGreatDoorPh1
import Derived.Test.YticblaklfnadoaaGreatDoorPh2
import Derived.Test.YticblaklfnadoaaGreatDoorPh3
set_option maxRecDepth 100000
set_option maxHeartbeats 4000000
namespace Go.Proofs.YticblaklfnadoaaGreatDoor
open Go.RowKit
open Go.RowKit Go.Shelf
theorem hInRows (A:Option Addr)(cap:Nat)(vs:List Value)(qss:List (List Rat))(hl:qss.length≤1000000)(hls:∀ i,i<qss.length→(qss.getD i []).length≤1000000)(hf:∀ i,i<qss.length→∀ j,j<(qss.getD i []).length→LQ 100000000 ((qss.getD i []).getD j 0))(w:World)(h:Hp)(g:G w h)(hA:Sv A vs h)(hT:RVs h vs qss)(tb:Tab h):CR 20 #[.slice A vs.length cap] w h (fun v h1=>∃ A c,∃ us:List Value,v=.slice A us.length c∧us.length≤c∧Sv A us h1∧QVs h1 us qss):=by
 have hs:=((((sS g).aS hA).aV hT).aB tb);have hlen:=(hs.f.2.1).len;refine go Tryz.func20 [(0,.slice A vs.length cap)] rfl (cSL (lL hs [.v 2 (sZ)] (lNS (lL hs [.v 3 (sZ)] (lN (cQ (cSL (lL hs [.v 4 (iV 0)] (lN (kZ ?_))))))))));replace hs:=hs.nil 75 1;refine cTo [(0,.slice A vs.length cap),(2,sZ),(4,iV 0),(3,sZ)] ?_;replace hs:=hs.aQ (QVs.nil);refine CG.loop (fun μ_ Γ w_=>∃ (k:Nat) (sA:Option Addr) (sc:Nat) (us:List Value) (h_:Hp),μ_=qss.length-k∧Γ=[(0,.slice A vs.length cap),(2,sZ),(4,nV k),(3,.slice sA ((us).length) sc)]∧SS w h w_ h_ [] [⟨75,1,sA,sc,(us).length,(us).flatMap vc⟩] [Qu us (qss.take k),fun h_=>Tab h_,Ru vs qss,Sv A vs]∧k≤qss.length) _ ⟨0,none,0,[],h,rfl,rfl,hs.to _ _,Nat.zero_le _⟩ ?_;rintro _ _ w1 ⟨k,sA,sc,us,h2,hm3,rfl,hs,hk⟩;have hlU:=(hs.f.1).len;have htk:(qss.take k).length=k:=by simp;omega
 refine cQ (cSL (lL hs [.m 5 4,.m 6 0,.v 7 (nV vs.length)] ?_));cases hb4:(decide ((k:Int)<(vs.length:Int)))
 ·
  have phb4:=oF hb4;refine lB 8 hb4 (lN (cIF (CG.exit ?_)))
  show CG _ _ _ _ _ _ _ _
  refine cSL (lL hs [.m 19 3,.m 2 19] (lN (kX ?_)));have hkq:qss.take k=qss:=List.take_of_length_le oM;rw[hkq] at hs
  obtain ⟨h5,hs,hc6⟩:=hs.pubr 0 (A:=sA) (c:=sc) (l:=us) (f:=vc) (ty:=75) (sz:=1) undef (fun _=>rfl);exact hs.ret [] (.slice sA ((us).length) sc) (⟨_,_,us,rfl,hc6,hs.f.1,hs.f.2.1⟩)
 have phb4:=oT hb4;refine lB 8 hb4 (lN (cIT (cK (cQ (kZ (kQ (lL hs [.m 11 3,.m 12 0,.m 13 4] (lX 14 A vs.length cap 1 (k:Nat) k ((hs.f.r.2.1).ok oM) ?_))))))));obtain ⟨Arx,crx,trx,erx,hcrx,hRrx,hTrx⟩:=(hs.f.r.1).at_ k oM;have hlrx:=hTrx.len;replace hs:=((hs.aS hRrx).aT hTrx);refine lHe 15 (vs.getD k undef) hs ((hs.f.q.2.1).el k oM) erx (lC 16 hs (hInRow Arx crx trx (qss.getD k []) (hls k oM) (hf k oM) _ _ hs.g hs.f.2.1 hs.f.1 hs.f.r.2.1) ?_);rintro _ w8 h9 hs ⟨Au,cu,rfl,hcu,hAu⟩;replace hs:=hs.aS hAu;refine lR 17 75 1 ([.slice Au ((qss.getD k []).length) cu]) hs (fun b10 w11 h12 hs=>lY 18 0 75 1 sc sA us vc (.slice Au ((qss.getD k []).length) cu:Value) 24 b10 (sZ) hs hs.f.1 (fun A14 c15 w16 h17 hs=>lL hs [.m 3 18] (lN (kQ (lL hs [.m 9 4] (lIn 10 ((k:Nat)+1) (k+1) ?_))))));refine lL hs [.m 4 10] (lD ?_);intro a_ ka;replace hs:=(hs.tl.tl.tl.tl.tl.add (K:=Qu (us++[(.slice Au ((qss.getD k []).length) cu:Value)]) (qss.take (k+1))) (by rw[take_snoc' [] oM];exact (hs.f.q.1).snoc ⟨Au,cu,rfl,hcu,hs.f.2.1⟩));refine ⟨_,_,?_,⟨k+1,A14,c15,us++[(.slice Au ((qss.getD k []).length) cu:Value)],h17,rfl,rfl,hs.to _ _,oM⟩,ka.to _ kR⟩
 omega
theorem eq_more {α:Type}{d:α}{a b:List α}{k:Nat}(h:∀ i,i<k→a.getD i d=b.getD i d)(h2:a.getD k d=b.getD k d):∀ i,i<k+1→a.getD i d=b.getD i d:=fun i hi=>by
  by_cases e:i=k
  · rw[e];exact h2
  · exact h i oM
theorem row_t {α:Type}[DecidableEq α]{d:α}{a b:List α}(hl:a.length=b.length)(h:∀ i,i<a.length→a.getD i d=b.getD i d):Value.bool true=.bool (decide (a=b)):=by
  rw[decide_eq_true];refine List.ext_getElem hl (fun i h1 h2=>?_);have:=h i h1
  simpa [h1,h2] using this
theorem row_f {α:Type}[DecidableEq α]{a b:List α}(hl:a.length≠b.length):Value.bool false=.bool (decide (a=b)):=by
  rw[decide_eq_false];intro e;exact hl (by rw[e])
theorem row_fq {α:Type}[DecidableEq α]{d:α}{a b:List α}(k:Nat)(h:a.getD k d≠b.getD k d):Value.bool false=.bool (decide (a=b)):=by
  rw[decide_eq_false];intro e;exact h (by rw[e])
theorem hSameRow (A:Option Addr)(ca:Nat)(qs ps:List Rat)(D:Option Addr)(cd:Nat)(ts:List RT)(hl:qs.length≤1000000)(hlp:ps.length≤1000000)(hf:∀ i,i<qs.length→LQ 100000000 (qs.getD i 0))(hfp:∀ i,i<ps.length→LQ 100000000 (ps.getD i 0))(w:World)(h:Hp)(g:G w h)(hA:Sq A qs h)(hD:Sr D ts h)(hT:RTs h ts ps):CV 35 #[.slice A qs.length ca,.slice D ts.length cd] w h (.bool (decide (qs=ps))):=by
 have hs:=((((sS g).aS hA).aS hD).aT hT);have hlt:=(hs.f.1).len;refine go Tryz.func35 [(0,.slice A qs.length ca),(1,.slice D ts.length cd)] rfl (cSL (lL hs [.v 4 (.bool false)] (lN (cQ (cSL (lL hs [.m 6 0,.v 7 (nV qs.length),.m 8 1,.v 9 (nV ts.length)] ?_))))));cases hb1:((qs.length:Int) != (ts.length:Int))
 ·
  have phb1:=eqOfBne hb1;refine lB 10 hb1 (lN (cIF (cK (cQ (cSL (lL hs [.v 5 (iV 0)] (lN (kZ ?_))))))));refine cTo _ (CG.loop (fun μ_ Γ w_=>∃ (k:Nat) (h_:Hp),μ_=qs.length-k∧Γ=[(0,.slice A qs.length ca),(1,.slice D ts.length cd),(5,nV k)]∧SS w h w_ h_ [] [] [Rt ts ps,Sr D ts,Sq A qs]∧k≤qs.length∧qs.length=ps.length∧(∀ i,i<k→qs.getD i 0=ps.getD i 0)) _ ⟨0,h,rfl,rfl,hs.to _ _,Nat.zero_le _,by omega,fun i hi=>absurd hi (Nat.not_lt_zero i)⟩ ?_);rintro _ _ w2 ⟨k,h3,hm4,rfl,hs,hk,hlqp,hsm⟩;refine cQ (cSL (lL hs [.m 11 5,.m 12 0,.v 13 (nV qs.length)] ?_));cases hb5:(decide ((k:Int)<(qs.length:Int)))
  ·
   have phb5:=oF hb5;refine lB 14 hb5 (lN (cIF (CG.exit ?_)))
   show CG _ _ _ _ _ _ _ _
   exact cSL (lL hs [.v 4 (.bool true)] (lN (kX (hs.ret [] (.bool true) (row_t hlqp (fun i hi=>hsm i oM))))))
  have phb5:=oT hb5;refine lB 14 hb5 (lN (cIT (cK (cQ (kZ (cQ (cR 10 [] mixed hs al_nil ?_)))))));refine eV 0 17 (.slice A qs.length ca) (eV 1 18 (nV k) (eX 2 19 A qs.length ca 5 (k:Nat) k ((hs.f.r.1).ok oM) (eH 3 20 (qv (qs.getD k 0)) hs ((hs.f.r.1).el k oM) (eV 4 21 (.slice D ts.length cd) (eV 5 22 (nV k) (eX 6 23 D ts.length cd 3 (k:Nat) k ((hs.f.2.1).ok oM) ?_))))));obtain ⟨Ax,cx,Dx,dx,ex,hcx,hdx,hAx,hDx⟩:=(hs.f.1).at_ k oM;replace hs:=hs.aP hAx hDx;refine eHe 7 24 (.agg #[.bool ((ts.getD k rqd).1),(ts.getD k rqd).2.1,(ts.getD k rqd).2.2]) hs ((hs.f.r.2.1).el k oM) ex (eC 8 25 hs (fun _ _ hs=>hSame (qs.getD k 0) (ps.getD k 0) (hf k oM) (hfp k oM) Ax cx Dx dx hcx hdx _ _ hs.g hs.f.2.1 hs.f.1) ?_);rintro _ _ _ w6 h7 hs rfl;cases hb8:(sameQ (qs.getD k 0) (ps.getD k 0))
  ·
   exact eV 9 26 (.bool true) (eD0 hs (fun w9 h10 hs=>tN (cIT (cSL (lL hs [.v 4 (.bool false)] (lN (kX (hs.ret [] (.bool false) (row_fq k (oF ‹sameQ _ _=false›))))))))))
  refine eV 9 26 (.bool false) (eD0 hs (fun w11 h12 hs=>tN (cIF (cK (kQ (lL hs [.m 15 5] (lIn 16 ((k:Nat)+1) (k+1) ?_)))))));refine lL hs [.m 5 16] (lD ?_);intro a_ ka;replace hs:=hs.tl.tl;refine ⟨_,_,?_,⟨k+1,h12,rfl,rfl,hs.to _ _,oM,hlqp,(eq_more hsm (oT ‹sameQ _ _=true›))⟩,ka.to _ kR⟩
  omega
 have phb1:=neOfBne hb1;exact lB 10 hb1 (lN (cIT (cSL (lL hs [.v 4 (.bool false)] (lN (kX (hs.ret [] (.bool false) (row_f oM))))))))
theorem rDot (A:Option Addr)(ca:Nat)(a:List Rat)(ta:List RT)(D:Option Addr)(cd:Nat)(b:List Rat)(tb_:List RT)(K L:Nat)(hl:a.length≤b.length)(hn:a.length≤1000000)(hb:a.length*(K+L+1)+K+L+2≤100000000)(ha:∀ i,i<a.length→LQ K (a.getD i 0))(hbb:∀ i,i<a.length→LQ L (b.getD i 0))(w:World)(h:Hp)(g:G w h)(hA:Sr A ta h)(hT:RTs h ta a)(hD:Sr D tb_ h)(hU:RTs h tb_ b):CR 192 #[.slice A ta.length ca,.slice D tb_.length cd] w h (fun v h1=>RQ h1 v (dotq a b a.length)):=by
 have hs:=(((((sS g).aS hA).aT hT).aS hD).aT hU);have hlt:=(hs.f.r.1).len;have hlu:=(hs.f.1).len;refine go Tryz.func192 [(0,.slice A ta.length ca),(1,.slice D tb_.length cd)] rfl (cSL (lA 4 95 ([.bool false,sZ,sZ]) hs (fun b1 w2 h3 hs=>lNS (lC 7 hs (rOf 0 oM oM _ _ hs.g) ?_))));rintro _ w12 h13 hs ⟨A4,c5,A8,c9,rfl,hc6,hc10,hA7,hA11⟩;replace hs:=hs.aP hA7 hA11;refine lA 5 95 ([.bool false,sZ,sZ]) hs (fun b14 w15 h16 hs=>lP 0 0 (rqx ((0:Int):Rat) A4 c5 A8 c9) hs (fun w17 hs=>lN (cQ (cSL (lL hs [.v 6 (iV 0)] (lN (kZ ?_)))))));replace hs:=hs.aS hs.f.1;replace hs:=hs.aS hs.f.r.1;refine cTo _ (CG.loop (fun μ_ Γ w_=>∃ (k:Nat) (AS:Option Addr) (cS:Nat) (DS:Option Addr) (dS:Nat) (h_:Hp),μ_=a.length-k∧Γ=[(0,.slice A ta.length ca),(1,.slice D tb_.length cd),(4,pB b1),(5,pB b14),(6,nV k)]∧SS w h w_ h_ [⟨b14,95,rqx (dotq a b k) AS cS DS dS⟩,⟨b1,95,[.bool false,sZ,sZ]⟩] [] [S3 AS (lim (iabs (dotq a b k).num)),S3 DS (lim (dotq a b k).den),S3 A8 (lim ((0:Int):Rat).den),S3 A4 (lim (iabs ((0:Int):Rat).num)),Rt tb_ b,Sr D tb_,Rt ta a,Sr A ta]∧k≤a.length∧(lim (iabs (dotq a b k).num)).length≤cS∧(lim (dotq a b k).den).length≤dS) _ ⟨0,A4,c5,A8,c9,h16,rfl,rfl,hs.to _ _,Nat.zero_le _,hc6,hc10⟩ ?_);rintro _ _ w18 ⟨k,AS,cS,DS,dS,h19,hm20,rfl,hs,hk,hcS,hdS⟩;have hmk:k*(K+L+1)≤a.length*(K+L+1):=Nat.mul_le_mul_right _ hk;have hdk:LQ (100000000-K-L-1) (dotq a b k):=(LQ.dot ha hbb k hk).mono oM;refine cQ (cSL (lL hs [.m 8 6,.m 9 0,.v 10 (nV ta.length)] ?_));cases hb21:(decide ((k:Int)<(ta.length:Int)))
 ·
  have phb21:=oF hb21;refine lB 11 hb21 (lN (cIF (CG.exit ?_)))
  show CG _ _ _ _ _ _ _ _
  exact cSL (lL hs [.o 25 (rG (dotq a b k) AS cS DS dS) 0 0 3] (lP 1 0 (rqx (dotq a b k) AS cS DS dS) hs (fun w22 hs=>lN (kX (hs.ret [(1,0,3)] (rG (dotq a b k) AS cS DS dS) (by rw[show a.length=k by omega];exact ⟨_,_,_,_,rfl,hcS,hdS,hs.f.1,hs.f.2.1⟩))))))
 have phb21:=oT hb21;refine lB 11 hb21 (lN (cIT (cK (cQ (kZ (cR 11 [] mixed hs al_nil ?_))))));refine eO 0 14 [(0,0,3)] (rG (dotq a b k) AS cS DS dS) hs (eV 1 15 (.slice A ta.length ca) (eV 2 16 (nV k) (eX 3 17 A ta.length ca 3 (k:Nat) k ((hs.f.q.r.2.1).ok oM) ?_)));obtain ⟨Ax,cx,Dx,dx,ex,hcx,hdx,hAx,hDx⟩:=(hs.f.q.r.1).at_ k oM;replace hs:=hs.aP hAx hDx;refine eHe 4 18 (.agg #[.bool ((ta.getD k rqd).1),(ta.getD k rqd).2.1,(ta.getD k rqd).2.2]) hs ((hs.f.q.q.2.1).el k oM) ex (eV 5 19 (.slice D tb_.length cd) (eV 6 20 (nV k) (eX 7 21 D tb_.length cd 3 (k:Nat) k ((hs.f.q.r.2.1).ok oM) ?_)));obtain ⟨Ay,cy,Dy,dy,ey,hcy,hdy,hAy,hDy⟩:=(hs.f.q.r.1).at_ k oM;replace hs:=hs.aP hAy hDy;refine eHe 8 22 (.agg #[.bool ((tb_.getD k rqd).1),(tb_.getD k rqd).2.1,(tb_.getD k rqd).2.2]) hs ((hs.f.q.q.2.1).el k oM) ey ?_;have hq23:=LQ.mul (ha k oM) (hbb k oM);refine eC 9 23 hs (fun _ _ hs=>rMul (a.getD k 0) Ax cx Dx dx hcx hdx (nl (ha k oM)) (nD (ha k oM)) (b.getD k 0) Ay cy Dy dy hcy hdy (nl (hbb k oM)) (nD (hbb k oM)) _ _ hs.g hs.f.r.2.1 hs.f.r.1 hs.f.2.1 hs.f.1) ?_;rintro _ _ _ w32 h33 hs ⟨A24,c25,A28,c29,rfl,hc26,hc30,hA27,hA31⟩;replace hs:=hs.aP hA27 hA31;have hq34:=LQ.add hdk hq23;refine eC 10 24 hs (fun _ _ hs=>rAdd (dotq a b k) AS cS DS dS hcS hdS (nl hdk) (nD hdk) ((a.getD k 0)*(b.getD k 0)) A24 c25 A28 c29 hc26 hc30 (nl hq23) (nD hq23) _ _ hs.g hs.f.q.r.1 hs.f.q.r.2.1 hs.f.2.1 hs.f.1) ?_;rintro _ _ _ w43 h44 hs ⟨A35,c36,A39,c40,rfl,hc37,hc41,hA38,hA42⟩;replace hs:=hs.aP hA38 hA42;refine eD0 hs (fun w45 h46 hs=>tP 11 0 0 (rqx ((dotq a b k)+((a.getD k 0)*(b.getD k 0))) A35 c36 A39 c40) hs (fun w47 hs=>tN (kQ (lL hs [.m 12 6] (lIn 13 ((k:Nat)+1) (k+1) ?_)))));refine lL hs [.m 6 13] (lD ?_);intro a_ ka;replace hs:=((hs.tl.tl.tl.tl.tl.tl.tl.tl.tl.tl.aS hs.f.1).aS hs.f.2.1);refine ⟨_,_,?_,⟨k+1,A35,c36,A39,c40,h46,rfl,rfl,hs.to _ _,oM,hc37,hc41⟩,ka.to _ kR⟩
 omega
def maxR (a b:Rat):Rat:=if a<b then b else a
theorem LQ.maxR {k:Nat}{a b:Rat}(ha:LQ k a)(hb:LQ k b):LQ k (maxR a b):=by unfold Go.Proofs.YticblaklfnadoaaGreatDoor.maxR;split;exact hb;exact ha
theorem fAbs (a:Rat)(ha:LQ 100000000 a)(w:World)(h:Hp)(g:G w h):CV 160 #[qv a] w h (qv (qabs a)):=by
 have hs:=sS g;refine go Tryz.func160 [(0,qv a)] rfl (cSL (lA 1 73 (qc a) hs (fun b1 w2 h3 hs=>lA 2 73 ([.bool false,uV 0,eS,uV 0,eS]) hs (fun b4 w5 h6 hs=>lN (cQ (cR 7 [] mixed hs al_nil ?_))))));refine eV 0 3 (pB b1) (eO 1 4 [(1,0,3)] (iv a.num) hs (eV 4 7 (.pointer (some ⟨b1,3,none⟩)) (eO 5 8 [(1,3,2)] (nv (qd a)) hs (eC 2 5 hs (fun _ _ hs=>wAbs a.num _ _ hs.g) ?_))));rintro _ _ _ w7 h8 hs rfl;refine eC 3 6 hs (fun _ _ hs=>wFromN (iabs a.num) _ _ hs.g) ?_;rintro _ _ _ w9 h10 hs rfl;exact eV 6 9 (.agg #[.bool (ineg (((iabs a.num):Nat):Int)),uV (lo (iabs (((iabs a.num):Nat):Int))),.string (hi (iabs (((iabs a.num):Nat):Int))),uV (lo (qd a)),.string (hi (qd a))]) (eD0 hs (fun w11 h12 hs=>tP 7 0 0 ([.bool (ineg (((iabs a.num):Nat):Int)),uV (lo (iabs (((iabs a.num):Nat):Int))),.string (hi (iabs (((iabs a.num):Nat):Int))),uV (lo (qd a)),.string (hi (qd a))]) hs (fun w13 hs=>tN (kX (hs.ret [(0,0,5)] (.agg #[.bool (ineg (((iabs a.num):Nat):Int)),uV (lo (iabs (((iabs a.num):Nat):Int))),.string (hi (iabs (((iabs a.num):Nat):Int))),uV (lo (qd a)),.string (hi (qd a))]) (qv_lit (qabs_num a) (by unfold qd;rw[qabs_den])))))))
theorem fDot (A:Option Addr)(ca:Nat)(a:List Rat)(D:Option Addr)(cd:Nat)(b:List Rat)(K L:Nat)(hl:a.length=b.length)(hn:a.length≤1000000)(hb:a.length*(K+L+1)+K+L+2≤100000000)(ha:∀ i,i<a.length→LQ K (a.getD i 0))(hbb:∀ i,i<a.length→LQ L (b.getD i 0))(w:World)(h:Hp)(g:G w h)(hA:Sq A a h)(hD:Sq D b h)(tb:Tab h):CV 127 #[.slice A a.length ca,.slice D b.length cd] w h (.tuple #[qv (dotq a b a.length),.bool true]):=by
 have hs:=((((sS g).aS hA).aS hD).aB tb);refine go Tryz.func127 [(0,.slice A a.length ca),(1,.slice D b.length cd)] rfl (cSL (lA 4 73 ([.bool false,uV 0,eS,uV 0,eS]) hs (fun b1 w2 h3 hs=>lL hs [.v 5 (.bool false)] (lN (cQ (cSL (lL hs [.m 9 0,.v 10 (nV a.length),.m 11 1,.v 12 (nV b.length)] ?_)))))));have hb4:((a.length:Int) != (b.length:Int))=false:=bneF oM;have phb4:=eqOfBne hb4;refine lB 13 hb4 (lN (cIF (cK (cSL (lA 6 73 ([.bool false,uV 0,eS,uV 0,eS]) hs (fun b5 w6 h7 hs=>lN (cQ (cSL (lL hs [.m 15 0,.v 16 (nV a.length),.v 17 (iV 0)] (lN (kZ ?_)))))))))));refine cTo _ (CG.loop (fun μ_ Γ w_=>∃ (k:Nat) (h_:Hp),μ_=a.length-k∧Γ=[(1,.slice D b.length cd),(4,pB b1),(5,.bool false),(6,pB b5),(15,.slice A a.length ca),(16,nV a.length),(17,nV k)]∧SS w h w_ h_ [⟨b5,73,qc (dotq a b k)⟩,⟨b1,73,[.bool false,uV 0,eS,uV 0,eS]⟩] [] [fun h_=>Tab h_,Sq D b,Sq A a]∧k≤a.length) _ ⟨0,h7,rfl,rfl,hs.to _ _,Nat.zero_le _⟩ ?_);rintro _ _ w8 ⟨k,h9,hm10,rfl,hs,hk⟩;have hmk:k*(K+L+1)≤a.length*(K+L+1):=Nat.mul_le_mul_right _ hk;have hdk:LQ (100000000-K-L-1) (dotq a b k):=(LQ.dot ha hbb k hk).mono oM;refine cSL ?_;cases hb11:(decide ((k:Int)<(a.length:Int)))
 ·
  have phb11:=oF hb11;refine lB 18 hb11 (lN (cQ (cIF (CG.exit ?_))))
  show CG _ _ _ _ _ _ _ _
  exact cSL (lL hs [.o 31 (qv (dotq a b k)) 0 0 5] (lP 1 0 (qc (dotq a b k)) hs (fun w12 hs=>lL hs [.v 5 (.bool true)] (lN (kX (hs.ret [(1,0,5)] (.tuple #[qv (dotq a b k),.bool true]) (by rw[show a.length=k by omega])))))))
 have phb11:=oT hb11;refine lB 18 hb11 (lN (cQ (cIT (cK (cQ (kZ (cSL (lL hs [.m 19 17] (lX 20 A a.length ca 5 (k:Nat) k ((hs.f.r.1).ok oM) ?_)))))))));refine lH 21 (qv (a.getD k 0)) hs ((hs.f.r.1).el k oM) (lA 8 73 ([.bool false,uV 0,eS,uV 0,eS]) hs (fun b13 w14 h15 hs=>lL hs [.m 7 19] (lP 0 0 (qc (a.getD k 0)) hs (fun w16 hs=>lN (cR 8 [] mixed hs al_nil ?_)))));refine eO 0 22 [(1,0,5)] (qv (dotq a b k)) hs (eO 1 23 [(0,0,5)] (qv (a.getD k 0)) hs (eV 2 24 (.slice D b.length cd) (eV 3 25 (nV k) (eX 4 26 D b.length cd 5 (k:Nat) k ((hs.f.2.1).ok oM) (eH 5 27 (qv (b.getD k 0)) hs ((hs.f.2.1).el k oM) ?_)))));have hq17:=LQ.mul (ha k oM) (hbb k oM);refine eC 6 28 hs (fun _ _ hs=>fMul (a.getD k 0) (b.getD k 0) (LQ.mono (ha k oM) oM) (LQ.mono (hbb k oM) oM) _ _ hs.g hs.f.1) ?_;rintro _ _ _ w18 h19 hs rfl;have hq20:=LQ.add hdk hq17;refine eC 7 29 hs (fun _ _ hs=>fAdd (dotq a b k) ((a.getD k 0)*(b.getD k 0)) (LQ.mono hdk oM) (LQ.mono hq17 oM) _ _ hs.g hs.f.1) ?_;rintro _ _ _ w21 h22 hs rfl;refine eD0 hs (fun w23 h24 hs=>tP 8 1 0 (qc ((dotq a b k)+((a.getD k 0)*(b.getD k 0)))) hs (fun w25 hs=>tN (kQ (lIn 30 ((k:Nat)+1) (k+1) ?_))));refine lL hs [.m 17 30] (lD ?_);intro a_ ka;replace hs:=hs.drop 1 0;refine ⟨_,_,?_,⟨k+1,h24,rfl,rfl,hs.to _ _,oM⟩,ka.to _ kR⟩
 omega
structure Lay where
  k:Int
  W:List (List Rat)
  B:List Rat
def lay0:Lay:=⟨0,[],[]⟩
abbrev LV:=Int × Value × Value
def lvc (t:LV):List Value:=[.int .i64 t.1,t.2.1,t.2.2]
def lvd:LV:=(0,undef,undef)
abbrev Sl (A:Option Addr)(l:List LV):Hp→Prop:=fun h_=>SlO 3 lvc lvd h_ A l
structure NetL (h:Hp) (ts:List LV) (ls:List Lay):Prop where
  len:ts.length=ls.length
  at_:∀ i,i<ls.length→(ts.getD i lvd).1=(ls.getD i lay0).k∧(∃ A c,∃ us:List Value,(ts.getD i lvd).2.1=.slice A us.length c∧us.length≤c∧SlO 1 vc undef h A us∧QVs h us (ls.getD i lay0).W)∧SlV 5 qc 0 h (ts.getD i lvd).2.2 (ls.getD i lay0).B
abbrev Nn (t:List LV)(l:List Lay):Hp→Prop:=fun h_=>NetL h_ t l
theorem NetL.gw {h h':Hp}{ts:List LV}{ls:List Lay}(r:NetL h ts ls)(u:Gw h h'):NetL h' ts ls:=⟨r.len,fun i hi=>by
  obtain ⟨h1,⟨A,c,us,h2,h3,h4,h5⟩,h6⟩:=r.at_ i hi;exact ⟨h1,⟨A,c,us,h2,h3,h4.gw u,h5.gw u⟩,h6.gw u⟩⟩
theorem SS.aN {t:List LV}{l:List Lay}{w0 w:World}{h0 h:Hp}{B:List Bx}{R:List Rw}{F:List (Hp→Prop)}(s:SS w0 h0 w h B R F)(p:NetL h t l):SS w0 h0 w h B R (Nn t l::F):=s.add (K:=Nn t l) p
structure RNetL (h:Hp) (ts:List LV) (ls:List Lay):Prop where
  len:ts.length=ls.length
  at_:∀ i,i<ls.length→(ts.getD i lvd).1=(ls.getD i lay0).k∧(∃ A c,∃ us:List Value,(ts.getD i lvd).2.1=.slice A us.length c∧us.length≤c∧SlO 1 vc undef h A us∧RVs h us (ls.getD i lay0).W) ∧
    (∃ A c,∃ rs:List RT,(ts.getD i lvd).2.2=.slice A rs.length c∧rs.length≤c∧SlO 3 rqc rqd h A rs∧RTs h rs (ls.getD i lay0).B)
abbrev Rn (t:List LV)(l:List Lay):Hp→Prop:=fun h_=>RNetL h_ t l
theorem RNetL.gw {h h':Hp}{ts:List LV}{ls:List Lay}(r:RNetL h ts ls)(u:Gw h h'):RNetL h' ts ls:=⟨r.len,fun i hi=>by
  obtain ⟨h1,⟨A,c,us,h2,h3,h4,h5⟩,⟨D,e,rs,g2,g3,g4,g5⟩⟩:=r.at_ i hi;exact ⟨h1,⟨A,c,us,h2,h3,h4.gw u,h5.gw u⟩,⟨D,e,rs,g2,g3,g4.gw u,g5.gw u⟩⟩⟩
theorem SS.aM {t:List LV}{l:List Lay}{w0 w:World}{h0 h:Hp}{B:List Bx}{R:List Rw}{F:List (Hp→Prop)}(s:SS w0 h0 w h B R F)(p:RNetL h t l):SS w0 h0 w h B R (Rn t l::F):=s.add (K:=Rn t l) p
theorem NetL.nil {h:Hp}:NetL h [] []:=⟨rfl,fun i hi=>by simp at hi⟩
theorem RNetL.nil {h:Hp}:RNetL h [] []:=⟨rfl,fun i hi=>by simp at hi⟩
theorem NetL.snoc {h:Hp}{ts:List LV}{ls:List Lay}(r:NetL h ts ls){t:LV}{L:Lay}(hx:t.1=L.k∧(∃ A c,∃ us:List Value,t.2.1=.slice A us.length c∧us.length≤c∧SlO 1 vc undef h A us∧QVs h us L.W)∧SlV 5 qc 0 h t.2.2 L.B):NetL h (ts++[t]) (ls++[L]):=by
  refine ⟨by simp[r.len],fun i hi=>?_⟩;rw[getD_snoc,getD_snoc,r.len]
  split
  · rename_i h1;exact r.at_ i h1
  · rename_i h1
    have:i=ls.length:=by simp at hi;omega
    rw[if_pos this,if_pos this];exact hx
theorem RNetL.snoc {h:Hp}{ts:List LV}{ls:List Lay}(r:RNetL h ts ls){t:LV}{L:Lay}(hx:t.1=L.k∧(∃ A c,∃ us:List Value,t.2.1=.slice A us.length c∧us.length≤c∧SlO 1 vc undef h A us∧RVs h us L.W) ∧
    (∃ A c,∃ rs:List RT,t.2.2=.slice A rs.length c∧rs.length≤c∧SlO 3 rqc rqd h A rs∧RTs h rs L.B)):RNetL h (ts++[t]) (ls++[L]):=by
  refine ⟨by simp[r.len],fun i hi=>?_⟩;rw[getD_snoc,getD_snoc,r.len]
  split
  · rename_i h1;exact r.at_ i h1
  · rename_i h1
    have:i=ls.length:=by simp at hi;omega
    rw[if_pos this,if_pos this];exact hx
def natc (n:Nat):List Value:=[.int .i64 (n:Int)]
abbrev Sn (A:Option Addr)(l:List Nat):Hp→Prop:=fun h_=>SlO 1 natc 0 h_ A l
def netSizes (i m o:Int):List Nat:=if 0<pick m 4 then [pick i 3+1,pick m 4,pick o 3+1] else [pick i 3+1,pick o 3+1]
def kindAt (k:Int):Nat→Int
  | 0=>k
  | n+1=>(kindAt k n).tdiv 3
theorem kindAt_bd {k:Int}(h : -9223372036854775808≤k∧k≤9223372036854775807)(n:Nat) : -9223372036854775808≤(kindAt k n).tdiv 3∧(kindAt k n).tdiv 3≤9223372036854775807:=by
  induction n with
  | zero=>exact tdiv_bd k 3 oM h.1 h.2
  | succ n ih=>exact tdiv_bd _ 3 oM ih.1 ih.2
def Smalls (l:List Rat):Prop:=∀ q∈l,∃ z,q=smallq z
theorem Smalls.snoc {l:List Rat}(h:Smalls l)(z:Int):Smalls (l++[smallq z]):=fun q hq=>by
  rcases List.mem_append.1 hq with h1|h1
  · exact h q h1
  · exact ⟨z,List.mem_singleton.1 h1⟩
theorem rows_snoc {Wl:List (List Rat)}{n:Nat}(h:∀ r∈Wl,r.length=n∧Smalls r){q:List Rat}(hl:q.length=n)(hq:Smalls q):∀ r∈Wl++[q],r.length=n∧Smalls r:=fun r hr=>by
  rcases List.mem_append.1 hr with h1|h1
  · exact h r h1
  · rw[List.mem_singleton.1 h1];exact ⟨hl,hq⟩
structure LayMk (L:Lay) (kq:Nat) (r c:Nat):Prop where
  k:L.k=(kq:Int)
  rows:L.W.length=r
  row:∀ q∈L.W,q.length=c∧Smalls q
  bl:L.B.length=r
  bs:Smalls L.B
theorem mk_snoc {ls:List Lay}{L:Lay}{f g e:Nat→Nat}(h:∀ i,i<ls.length→LayMk (ls.getD i lay0) (f i) (g i) (e i))(hL:LayMk L (f ls.length) (g ls.length) (e ls.length)):∀ i,i<(ls++[L]).length→LayMk ((ls++[L]).getD i lay0) (f i) (g i) (e i):=by
  intro i hi;rw[getD_snoc]
  split
  · rename_i h1;exact h i h1
  · rename_i h1
    have:i=ls.length:=by simp at hi;omega
    rw[if_pos this,this];exact hL
theorem sizes_len (i m o:Int):(netSizes i m o).length=2∨(netSizes i m o).length=3:=by unfold netSizes;split<;>simp
theorem sizes_le (i m o:Int)(k:Nat):(netSizes i m o).getD k 0≤4:=by
  have h1:=pick_lt i 3 oM;have h2:=pick_lt m 4 oM;have h3:=pick_lt o 3 oM
  unfold netSizes
  split<;>(rcases k with _|_|_|k<;>simp<;>omega)
theorem sizes_pos (i m o:Int)(k:Nat)(hk:k<(netSizes i m o).length):0<(netSizes i m o).getD k 0:=by
  unfold netSizes at *
  split at hk
  · rename_i h;rw[if_pos h];rcases k with _|_|_|k<;>simp at hk ⊢ <;> omega
  · rename_i h;rw[if_neg h];rcases k with _|_|k<;>simp at hk ⊢ <;> omega
theorem rNext (A:Option Addr)(cap:Nat)(zs:List Int)(hl:zs.length≤9223372036854775807)(hz:I64s zs)(rbk at_:Nat)(ha:at_≤zs.length)(w:World)(h:Hp)(g:G w h)(ho:Own w rbk 133 [.slice A zs.length cap,nV at_])(hj:h[rbk]?=some junk)(hA:Si A zs h):Calls Tryz.prog 60 #[pB rbk] w (RetM rbk w h fun v w' _=>∃ (z:Int) (at2:Nat),v=iV z∧at2≤zs.length∧(-9223372036854775808≤z∧z≤9223372036854775807)∧Own w' rbk 133 [.slice A zs.length cap,nV at2]):=by
 have hmo:UpM [rbk] w h w h:=UpM.refl g;obtain ⟨wz,hz0_,hs⟩:=SS.at_ g ho hj;replace hs:=hs.aS hA;refine go Tryz.func60 [(0,pB rbk)] rfl (cSL (lL hs [.v 2 (iV 0)] (lN (cQ (cQ (cR 10 [] mixed hs al_nil ?_))))));refine eV 0 3 (pB rbk) (eV 1 4 (pB rbk) (eV 2 5 (.pointer (some ⟨rbk,1,none⟩)) (eO 3 6 [(0,1,1)] (nV at_) hs (eV 4 7 (pB rbk) (eV 5 8 (pB rbk) (eV 6 9 (pB rbk) (eO 7 10 [(0,0,1)] (.slice A zs.length cap) hs (eV 8 11 (nV zs.length) ?_))))))));cases hb1:(decide ((zs.length:Int)≤(at_:Int)))
 ·
  have phb1:=oF hb1;refine eB 9 12 hb1 (eD0u hs (fun w2 h3 u4 hs=>?_));replace hmo:=hmo.trans (u4.m _);refine tN (cIF (cK (cSL (lL hs [.m 13 0,.v 14 (pB rbk),.v 15 (.pointer (some ⟨rbk,1,none⟩)),.o 16 (nV at_) 0 1 1] (lIn 17 ((at_:Nat)+1) (at_+1) ?_)))));refine lL hs [.v 18 (pB rbk),.v 19 (.pointer (some ⟨rbk,1,none⟩))] (lPu 0 1 ([nV (at_+1)]) hs (fun w5 pu hs=>?_));replace hmo:=hmo.put pu (List.mem_singleton.2 rfl) hs.g;refine lN (cQ (cR 11 [] mixed hs al_nil ?_));refine eV 0 20 (pB rbk) (eV 1 21 (pB rbk) (eV 2 22 (pB rbk) (eO 3 23 [(0,0,1)] (.slice A zs.length cap) hs (eV 4 24 (pB rbk) (eV 5 25 (pB rbk) (eV 6 26 (.pointer (some ⟨rbk,1,none⟩)) (eO 7 27 [(0,1,1)] (nV (at_+1)) hs (eIn 8 28 ((at_+1:Nat)-1) ((at_+1)-1) (eX 9 29 A zs.length cap 1 ((at_+1)-1:Nat) ((at_+1)-1) ((hs.f.1).ok oM) (eH 10 30 (iV (zs.getD ((at_+1)-1) 0)) hs ((hs.f.1).el ((at_+1)-1) oM) (eD0u hs (fun w6 h7 u8 hs=>?_))))))))))));replace hmo:=hmo.trans (u8.m _);exact tV 11 2 (iV (zs.getD ((at_+1)-1) 0)) (tN (kX (hs.retM hmo [] (iV (zs.getD ((at_+1)-1) 0)) ⟨zs.getD ((at_+1)-1) 0,(at_+1),rfl,by omega,hz _,hs.own 0⟩)))
 have phb1:=oT hb1;refine eB 9 12 hb1 (eD0u hs (fun w9 h10 u11 hs=>?_));replace hmo:=hmo.trans (u11.m _);exact tN (cIT (cSL (lL hs [.v 2 (iV 0)] (lN (kX (hs.retM hmo [] (iV 0) ⟨0,at_,rfl,by omega,⟨by decide,by decide⟩,hs.own 0⟩))))))
theorem mNet (A:Option Addr)(cap:Nat)(zs:List Int)(hl:zs.length≤9223372036854775807)(hz:I64s zs)(i_ m_ o_ kd:Int)(hkd : -9223372036854775808≤kd∧kd≤9223372036854775807)(w:World)(h:Hp)(g:G w h)(hA:Si A zs h):CR 16 #[.slice A zs.length cap,iV i_,iV m_,iV o_,iV kd] w h (fun v h1=>∃ A c,∃ us:List LV,∃ ls:List Lay,v=.agg #[.slice A us.length c]∧us.length≤c∧Sl A us h1∧RNetL h1 us ls∧ls.length+1=(netSizes i_ m_ o_).length∧∀ i,i<ls.length→LayMk (ls.getD i lay0) (pick (kindAt kd i) 3+1:Nat) ((netSizes i_ m_ o_).getD (i+1) 0) ((netSizes i_ m_ o_).getD i 0)):=by
 have hs:=((sS g).aS hA);refine go Tryz.func16 [(0,.slice A zs.length cap),(1,iV i_),(2,iV m_),(3,iV o_),(4,iV kd)] rfl (cSL (lA 10 36 ([sZ]) hs (fun b1 w2 h3 hs=>lNS (lL hs [.m 20 0,.v 21 (.agg #[.slice A zs.length cap,iV 0])] (lA 22 133 ([.slice A zs.length cap,iV 0]) hs (fun b4 w5 h6 hs=>lL hs [.m 11 22] (lNS (lL hs [.m 23 1] (lC 24 hs (hPick (i_) 3 oM oM _ _ hs.g) ?_)))))))));rintro _ w8 h9 hs rfl;have lp7:=pick_lt (i_) 3 oM;refine lIn 25 ((pick (i_) 3:Nat)+1) ((pick (i_) 3)+1) (lL hs [.m 26 3] (lC 27 hs (hPick (o_) 3 oM oM _ _ hs.g) ?_));rintro _ w11 h12 hs rfl;have lp10:=pick_lt (o_) 3 oM;refine lIn 28 ((pick (o_) 3:Nat)+1) ((pick (o_) 3)+1) (lR 29 3 2 ([nV ((pick (i_) 3)+1),nV ((pick (o_) 3)+1)]) hs (fun b13 w14 h15 hs=>?_));obtain ⟨S17,hSe18⟩:∃ S:List Nat,S=[((pick (i_) 3)+1:Nat),((pick (o_) 3)+1:Nat)]:=⟨_,rfl⟩;have S17_l:S17.length=2:=by rw[hSe18];rfl
 replace hs:=hs.aS (SlO.of_flat (sz:=1) (f:=natc) (d:=0) (l:=S17) (fun _=>rfl) (by rw[hSe18];exact hs.f.1));refine lL hs [.m 12 29] (lN (CG.join (fun Γ w_=>∃ (Az:Option Addr) (S:List Nat) (nS:Nat) (h_:Hp),Γ=[(4,iV kd),(10,pB b1),(11,pB b4),(12,.slice Az nS nS)]∧SS w h w_ h_ [⟨b4,133,[.slice A zs.length cap,iV 0]⟩,⟨b1,36,[sZ]⟩] [] [Sn Az S,Sn (sB b13) S17,fun h_=>Seg h_ b13 0 ([nV ((pick (i_) 3)+1),nV ((pick (o_) 3)+1)]),Si A zs]∧S=netSizes i_ m_ o_∧S.length=nS) ?_ ?_))
 ·
  refine cSL (lL hs [.m 30 2] (lC 31 hs (hPick (m_) 4 oM oM _ _ hs.g) ?_));rintro _ w21 h22 hs rfl;have lp20:=pick_lt (m_) 4 oM;refine lL hs [.m 13 31] (lNS (lL hs [.m 32 13] ?_));cases hb23:(decide ((0:Int)<((pick (m_) 4:Nat):Int)))
  ·
   have phb23:=oF hb23;refine lB 33 hb23 (lN (cIF (CG.skip ?_)));intro a_ ka;replace hs:=hs.aS hs.f.1;exact ⟨_,⟨sB b13,S17,2,h22,rfl,hs.to _ _,(by rw[hSe18];unfold netSizes;rw[if_neg oM]),S17_l⟩,ka.to _ kR⟩
  have phb23:=oT hb23;refine lB 33 hb23 (lN (cIT (cR 8 [] mixed hs al_nil ?_)));refine eV 0 34 (.slice (sB b13) 2 2) (eX 1 35 (sB b13) 2 2 1 0 0 ((hs.f.1).ok oM) (eH 2 36 (nV (S17.getD 0 0)) hs ((hs.f.1).el 0 oM) (eV 3 37 (nV (pick (m_) 4)) (eV 4 38 (.slice (sB b13) 2 2) (eX 5 39 (sB b13) 2 2 1 1 1 ((hs.f.1).ok oM) (eH 6 40 (nV (S17.getD 1 0)) hs ((hs.f.1).el 1 oM) (eR 7 41 3 3 ([nV (S17.getD 0 0),nV (pick (m_) 4),nV (S17.getD 1 0)]) hs (fun b27 w28 h29 hs=>?_))))))));obtain ⟨S31,hSe32⟩:∃ S:List Nat,S=[(S17.getD 0 0),(pick (m_) 4),(S17.getD 1 0)]:=⟨_,rfl⟩;have S31_l:S31.length=3:=by rw[hSe32];rfl
  replace hs:=hs.aS (SlO.of_flat (sz:=1) (f:=natc) (d:=0) (l:=S31) (fun _=>rfl) (by rw[hSe32];exact hs.f.1));refine eD0 hs (fun w34 h35 hs=>tV 8 12 (.slice (sB b27) 3 3) (tD ?_));intro a_ ka;replace hs:=(hs.tl.tl.aS hs.f.1);exact ⟨_,⟨sB b27,S31,3,h35,rfl,hs.to _ _,(by rw[hSe32];unfold netSizes;rw[if_pos oM];simp only[hSe18];rfl),S31_l⟩,ka.to _ kR⟩
 rintro _ w39 ⟨Az,S,nS,h40,rfl,hs,hSS,hnS⟩;have hSl:2≤S.length∧S.length≤3:=by have:=sizes_len i_ m_ o_;rw[←hSS] at this;omega
 have hSb:∀ i,S.getD i 0≤4:=fun i=>by rw[hSS];exact sizes_le i_ m_ o_ i
 refine cSL (lA 14 36 ([sZ]) hs (fun b41 w42 h43 hs=>lN (cQ (cSL (lL hs [.v 15 (iV 1)] (lN (kZ ?_)))))));replace hs:=hs.nil 121 3;refine cTo [(10,pB b1),(11,pB b4),(12,.slice Az nS nS),(14,pB b41),(15,iV 1),(4,iV kd)] ?_;replace hs:=hs.aM (RNetL.nil);refine CG.loop (fun μ_ Γ w_=>∃ (k:Nat) (sA:Option Addr) (sc:Nat) (us:List LV) (ls:List Lay) (at1:Nat) (h_:Hp),μ_=S.length-k∧Γ=[(10,pB b1),(11,pB b4),(12,.slice Az nS nS),(14,pB b41),(15,nV (k+1)),(4,iV (kindAt kd k))]∧SS w h w_ h_ [⟨b41,36,[.slice sA ((us).length) sc]⟩,⟨b4,133,[.slice A zs.length cap,nV at1]⟩,⟨b1,36,[sZ]⟩] [⟨121,3,sA,sc,(us).length,(us).flatMap lvc⟩] [Rn us ls,Sn Az S,Sn (sB b13) S17,fun h_=>Seg h_ b13 0 ([nV ((pick (i_) 3)+1),nV ((pick (o_) 3)+1)]),Si A zs]∧k+1≤S.length∧ls.length=k∧at1≤zs.length∧(∀ i,i<ls.length→LayMk (ls.getD i lay0) (pick (kindAt kd i) 3+1:Nat) (S.getD (i+1) 0) (S.getD i 0))) _ ⟨0,none,0,[],[],0,h43,rfl,rfl,hs.to _ _,by omega,rfl,Nat.zero_le _,fun i hi=>by simp at hi⟩ ?_;rintro _ _ w44 ⟨k,sA,sc,us,ls,at1,h45,hm46,rfl,hs,hk,hkl,hat1,hMk⟩;have hS0:=hSb k;have hS1:=hSb (k+1);have hlu:=(hs.f.1).len;obtain ⟨tk0,tk1⟩:=kindAt_bd hkd k;refine cQ (cSL (lL hs [.m 42 15,.m 43 12,.v 44 (nV nS)] ?_));cases hb47:(decide (((k+1:Nat):Int)<(nS:Int)))
 ·
  have phb47:=oF hb47;refine lB 45 hb47 (lN (cIF (CG.exit ?_)))
  show CG _ _ _ _ _ _ _ _
  refine cSL ?_;obtain ⟨h48,hs,hc49⟩:=hs.pubr 0 (A:=sA) (c:=sc) (l:=us) (f:=lvc) (ty:=121) (sz:=3) lvd (fun _=>rfl);refine lL hs [.o 97 (.agg #[.slice sA ((us).length) sc]) 0 0 1] (lP 2 0 ([.slice sA ((us).length) sc]) hs (fun w51 hs=>lN (kX ?_)));rw[hSS] at hMk
  exact hs.ret [(2,0,1)] (.agg #[.slice sA ((us).length) sc]) (⟨_,_,us,ls,rfl,hc49,hs.f.1,hs.f.2.1,by rw[←hSS];omega,hMk⟩)
 have phb47:=oT hb47;refine lB 45 hb47 (lN (cIT (cK (cQ (kZ (cSL (lL hs [.m 48 4] (lC 49 hs (hPick (kindAt kd k) 3 oM oM _ _ hs.g) ?_))))))));rintro _ w53 h54 hs rfl;have lp52:=pick_lt (kindAt kd k) 3 oM;refine lIn 50 ((pick (kindAt kd k) 3:Nat)+1) ((pick (kindAt kd k) 3)+1) (lL hs [.v 51 (.agg #[nV ((pick (kindAt kd k) 3)+1),sZ,sZ])] (lA 16 121 ([iV 0,sZ,sZ]) hs (fun b55 w56 h57 hs=>lP 0 0 ([nV ((pick (kindAt kd k) 3)+1),sZ,sZ]) hs (fun w58 hs=>lNS (lL hs [.m 52 4] (lV 53 (iV ((kindAt kd k).tdiv 3)) ?_ (hr:=rS (((kindAt kd k).tdiv 3)) kR (fitI64 oM oM))))))));refine lL hs [.m 4 53] (lN (cQ (cSL (lL hs [.v 17 (iV 0)] (lN (kZ ?_))))));replace hs:=hs.nil 95 3;replace hs:=hs.nil 98 1;refine cTo [(10,pB b1),(11,pB b4),(12,.slice Az nS nS),(14,pB b41),(15,nV (k+1)),(4,iV ((kindAt kd k).tdiv 3)),(16,pB b55),(17,iV 0)] ?_;replace hs:=hs.aT (RTs.nil);replace hs:=hs.aV (RVs.nil);refine CG.loop (fun μ_ Γ w_=>∃ (j:Nat) (sWA:Option Addr) (sWc:Nat) (Wl:List (List Rat)) (vW:List Value) (sBA:Option Addr) (sBc:Nat) (Bl:List Rat) (tB:List RT) (at2:Nat) (h_:Hp),μ_=S.getD (k+1) 0-j∧Γ=[(10,pB b1),(11,pB b4),(12,.slice Az nS nS),(14,pB b41),(15,nV (k+1)),(4,iV ((kindAt kd k).tdiv 3)),(16,pB b55),(17,nV j)]∧SS w h w_ h_ [⟨b55,121,[nV (pick (kindAt kd k) 3+1),.slice sWA ((vW).length) sWc,.slice sBA ((tB).length) sBc]⟩,⟨b41,36,[.slice sA ((us).length) sc]⟩,⟨b4,133,[.slice A zs.length cap,nV at2]⟩,⟨b1,36,[sZ]⟩] [⟨98,1,sWA,sWc,(vW).length,(vW).flatMap vc⟩,⟨95,3,sBA,sBc,(tB).length,(tB).flatMap rqc⟩,⟨121,3,sA,sc,(us).length,(us).flatMap lvc⟩] [Ru vW Wl,Rt tB Bl,Rn us ls,Sn Az S,Sn (sB b13) S17,fun h_=>Seg h_ b13 0 ([nV ((pick (i_) 3)+1),nV ((pick (o_) 3)+1)]),Si A zs]∧j≤S.getD (k+1) 0∧Wl.length=j∧Bl.length=j∧at2≤zs.length∧(∀ r∈Wl,r.length=S.getD k 0∧Smalls r)∧Smalls Bl) _ ⟨0,none,0,[],[],none,0,[],[],at1,h57,rfl,rfl,hs.to _ _,Nat.zero_le _,rfl,rfl,hat1,fun r hr=>by simp at hr,fun r hr=>by simp at hr⟩ ?_;rintro _ _ w59 ⟨j,sWA,sWc,Wl,vW,sBA,sBc,Bl,tB,at2,h60,hm61,rfl,hs,hj,hWl,hBl,hat2,hWs,hBs⟩;have hlv:=(hs.f.1).len;have hlt:=(hs.f.2.1).len;refine cQ (cSL (lL hs [.m 54 17,.m 55 12,.m 56 15] (lX 57 Az nS nS 1 (k+1:Nat) (k+1) ((hs.f.r.2.1).ok oM) ?_)));refine lH 58 (nV (S.getD (k+1) 0)) hs ((hs.f.r.2.1).el (k+1) oM) ?_;cases hb62:(decide ((j:Int)<((S.getD (k+1) 0:Nat):Int)))
 ·
  have phb62:=oF hb62;refine lB 59 hb62 (lN (cIF (CG.exit ?_)))
  show CG _ _ _ _ _ _ _ _
  refine kQ ?_;obtain ⟨h63,hs,hc64⟩:=hs.pubr 0 (A:=sWA) (c:=sWc) (l:=vW) (f:=vc) (ty:=98) (sz:=1) undef (fun _=>rfl);obtain ⟨h66,hs,hc67⟩:=hs.pubr 0 (A:=sBA) (c:=sBc) (l:=tB) (f:=rqc) (ty:=95) (sz:=3) rqd (fun _=>rfl);refine lL hs [.v 91 (pB b41),.o 92 (.slice sA ((us).length) sc) 1 0 1,.o 93 (.agg #[nV (pick (kindAt kd k) 3+1),.slice sWA ((vW).length) sWc,.slice sBA ((tB).length) sBc]) 0 0 3] (lR 94 121 1 ([nV (pick (kindAt kd k) 3+1),.slice sWA ((vW).length) sWc,.slice sBA ((tB).length) sBc]) hs (fun b69 w70 h71 hs=>lY 95 0 121 3 sc sA us lvc (((pick (kindAt kd k) 3+1:Nat),.slice sWA ((vW).length) sWc,.slice sBA ((tB).length) sBc):LV) 56 b69 (.agg #[iV 0,sZ,sZ]) hs hs.f.1 (fun A73 c74 w75 h76 hs=>lL hs [.v 96 (pB b41)] (lP 1 0 ([.slice A73 ((us++[(((pick (kindAt kd k) 3+1:Nat),.slice sWA ((vW).length) sWc,.slice sBA ((tB).length) sBc):LV)]).length) c74]) hs (fun w78 hs=>lN (kQ (lL hs [.m 46 15] (lIn 47 ((k+1:Nat)+1) ((k+1)+1) ?_))))))));refine lL hs [.m 15 47] (lD ?_);intro a_ ka;replace hs:=(hs.tl.tl.tl.tl.tl.tl.add (K:=Rn (us++[(((pick (kindAt kd k) 3+1:Nat),.slice sWA ((vW).length) sWc,.slice sBA ((tB).length) sBc):LV)]) (ls++[(⟨(pick (kindAt kd k) 3+1:Nat),Wl,Bl⟩:Lay)])) ((hs.f.q.2.1).snoc ⟨rfl,⟨_,_,vW,rfl,hc64,hs.f.r.1,hs.f.r.2.1⟩,⟨_,_,tB,rfl,hc67,hs.f.2.1,hs.f.q.1⟩⟩));replace hs:=hs.drop 1 0;refine ⟨_,_,?_,⟨k+1,A73,c74,us++[(((pick (kindAt kd k) 3+1:Nat),.slice sWA ((vW).length) sWc,.slice sBA ((tB).length) sBc):LV)],ls++[(⟨(pick (kindAt kd k) 3+1:Nat),Wl,Bl⟩:Lay)],at2,h76,rfl,rfl,hs.to _ _,oM,(by simp;omega),hat2,(mk_snoc hMk (by rw[hkl];exact ⟨rfl,by show Wl.length=_;omega,hWs,by show Bl.length=_;omega,hBs⟩))⟩,ka.to _ kR⟩
  omega
 have phb62:=oT hb62;refine lB 59 hb62 (lN (cIT (cK (cQ (kZ (cSL (lL hs [.v 18 (sZ)] (lN (cQ (cSL (lL hs [.v 19 (iV 0)] (lN (kZ ?_)))))))))))));replace hs:=hs.nil 95 3;refine cTo [(10,pB b1),(11,pB b4),(12,.slice Az nS nS),(14,pB b41),(15,nV (k+1)),(4,iV ((kindAt kd k).tdiv 3)),(16,pB b55),(17,nV j),(19,iV 0),(18,sZ)] ?_;replace hs:=hs.aT (RTs.nil);refine CG.loop (fun μ_ Γ w_=>∃ (c:Nat) (srA:Option Addr) (src:Nat) (tr:List RT) (qr:List Rat) (at3:Nat) (h_:Hp),μ_=S.getD k 0-c∧Γ=[(10,pB b1),(11,pB b4),(12,.slice Az nS nS),(14,pB b41),(15,nV (k+1)),(4,iV ((kindAt kd k).tdiv 3)),(16,pB b55),(17,nV j),(19,nV c),(18,.slice srA ((tr).length) src)]∧SS w h w_ h_ [⟨b55,121,[nV (pick (kindAt kd k) 3+1),.slice sWA ((vW).length) sWc,.slice sBA ((tB).length) sBc]⟩,⟨b41,36,[.slice sA ((us).length) sc]⟩,⟨b4,133,[.slice A zs.length cap,nV at3]⟩,⟨b1,36,[sZ]⟩] [⟨95,3,srA,src,(tr).length,(tr).flatMap rqc⟩,⟨98,1,sWA,sWc,(vW).length,(vW).flatMap vc⟩,⟨95,3,sBA,sBc,(tB).length,(tB).flatMap rqc⟩,⟨121,3,sA,sc,(us).length,(us).flatMap lvc⟩] [Rt tr qr,Ru vW Wl,Rt tB Bl,Rn us ls,Sn Az S,Sn (sB b13) S17,fun h_=>Seg h_ b13 0 ([nV ((pick (i_) 3)+1),nV ((pick (o_) 3)+1)]),Si A zs]∧c≤S.getD k 0∧qr.length=c∧at3≤zs.length∧Smalls qr) _ ⟨0,none,0,[],[],at2,h60,rfl,rfl,hs.to _ _,Nat.zero_le _,rfl,hat2,fun r hr=>by simp at hr⟩ ?_;rintro _ _ w84 ⟨c,srA,src,tr,qr,at3,h85,hm86,rfl,hs,hc,hqr,hat3,hQs⟩;have hltr:=(hs.f.1).len;refine cQ (cSL (lL hs [.m 62 19,.m 63 12,.m 64 15] (lV 65 (nV k) ?_ (hr:=rint (ri64 (n:=((k+1:Nat):Int)-1) kR oM oM) oM))));refine lX 66 Az nS nS 1 (k:Nat) k ((hs.f.q.1).ok oM) (lH 67 (nV (S.getD k 0)) hs ((hs.f.q.1).el k oM) ?_);cases hb87:(decide ((c:Int)<((S.getD k 0:Nat):Int)))
 ·
  have phb87:=oF hb87;refine lB 68 hb87 (lN (cIF (CG.exit ?_)))
  show CG _ _ _ _ _ _ _ _
  refine cSL (lL hs [.v 77 (.pointer (some ⟨b55,1,none⟩)),.o 78 (.slice sWA ((vW).length) sWc) 0 1 1] ?_);obtain ⟨h88,hs,hc89⟩:=hs.pubr 0 (A:=srA) (c:=src) (l:=tr) (f:=rqc) (ty:=95) (sz:=3) rqd (fun _=>rfl);refine lL hs [.m 79 18] (lR 80 98 1 ([.slice srA ((tr).length) src]) hs (fun b91 w92 h93 hs=>lY 81 0 98 1 sWc sWA vW vc (.slice srA ((tr).length) src:Value) 24 b91 (sZ) hs hs.f.1 (fun A95 c96 w97 h98 hs=>lL hs [.v 82 (.pointer (some ⟨b55,1,none⟩))] (lP 0 1 ([.slice A95 ((vW++[(.slice srA ((tr).length) src:Value)]).length) c96]) hs (fun w100 hs=>lN (CG.region ⟨(b4::(Value.slice sBA ((tB).length) sBc).ownBlock.toList),none⟩ 7 [] mixed kR hs.g al_nil (hs.rb_lt 2 1 (rb:=b4) (ty:=95) (sz:=3) (A:=sBA) (c:=sBc) (m:=(tB).length) (cs:=(tB).flatMap rqc)) ?_))))));refine eV 0 83 (.pointer (some ⟨b55,2,none⟩)) (eO 1 84 [(0,2,1)] (.slice sBA ((tB).length) sBc) hs ?_ (hM:=fun p hp=>by obtain rfl:=List.mem_singleton.1 hp;exact hs.rb_ne 0 2 1 (rb:=b4) (ty:=95) (sz:=3) (A:=sBA) (c:=sBc) (m:=(tB).length) (cs:=(tB).flatMap rqc)));refine eV 2 85 (pB b4) (eCm 3 86 hs (List.mem_cons_self) (fun _ _ hs=>rNext A cap zs hl hz b4 at3 oM _ _ hs.g (hs.own 2) (hs.jk 2) hs.f.q.q.2.1) ?_);rintro _ _ _ w102 h103 hs u104 ⟨z101,at_z101,rfl,haz101,hzz101,hOz101⟩;replace hs:=(hs.stepM 2 u104 hOz101).to [⟨b55,121,[nV (pick (kindAt kd k) 3+1),.slice A95 ((vW++[(.slice srA ((tr).length) src:Value)]).length) c96,.slice sBA ((tB).length) sBc]⟩,⟨b41,36,[.slice sA ((us).length) sc]⟩,⟨b4,133,[.slice A zs.length cap,nV at_z101]⟩,⟨b1,36,[sZ]⟩] [⟨98,1,A95,c96,(vW++[(.slice srA ((tr).length) src:Value)]).length,(vW++[(.slice srA ((tr).length) src:Value)]).flatMap vc⟩,⟨95,3,sBA,sBc,(tB).length,(tB).flatMap rqc⟩,⟨121,3,sA,sc,(us).length,(us).flatMap lvc⟩];refine eC 4 87 hs (fun _ _ hs=>mSmall z101 hzz101.1 hzz101.2 _ _ hs.g) ?_;rintro _ _ _ w113 h114 hs ⟨A105,c106,A109,c110,rfl,hc107,hc111,hA108,hA112⟩;replace hs:=hs.aP hA108 hA112;refine eR 5 88 95 1 (rqx (smallq z101) A105 c106 A109 c110) hs (fun b115 w116 h117 hs=>eY 6 89 1 95 3 sBc sBA tB rqc ((ineg (smallq z101).num,.slice A105 ((lim (iabs (smallq z101).num)).length) c106,.slice A109 ((lim (smallq z101).den).length) c110):RT) 56 b115 (.agg #[.bool false,sZ,sZ]) hs (fun _ f_=>f_.1) (fun b hb=>List.mem_cons_of_mem _ (Option.mem_toList.2 hb)) (fun A119 c120 w121 h122 hs=>eD0 hs (fun w124 h125 hs=>tV 7 90 (.pointer (some ⟨b55,2,none⟩)) (tP 8 0 2 ([.slice A119 ((tB++[((ineg (smallq z101).num,.slice A105 ((lim (iabs (smallq z101).num)).length) c106,.slice A109 ((lim (smallq z101).den).length) c110):RT)]).length) c120]) hs (fun w126 hs=>tN (kQ (lL hs [.m 60 17] (lIn 61 ((j:Nat)+1) (j+1) ?_))))))));refine lL hs [.m 17 61] (lD ?_);intro a_ ka;replace hs:=((hs.tl.tl.tl.tl.tl.tl.tl.tl.add (K:=Rt (tB++[((ineg (smallq z101).num,.slice A105 ((lim (iabs (smallq z101).num)).length) c106,.slice A109 ((lim (smallq z101).den).length) c110):RT)]) (Bl++[smallq z101])) (RTs.snoc hs.f.q.r.2.1 ⟨_,_,_,_,rfl,hc107,hc111,hs.f.r.1,hs.f.2.1⟩)).add (K:=Ru (vW++[(.slice srA ((tr).length) src:Value)]) (Wl++[qr])) (RVs.snoc hs.f.q.r.1 ⟨_,_,tr,rfl,hc89,hs.f.q.1,hs.f.q.2.1⟩));refine ⟨_,_,?_,⟨j+1,A95,c96,Wl++[qr],vW++[(.slice srA ((tr).length) src:Value)],A119,c120,Bl++[smallq z101],tB++[((ineg (smallq z101).num,.slice A105 ((lim (iabs (smallq z101).num)).length) c106,.slice A109 ((lim (smallq z101).den).length) c110):RT)],at_z101,h125,rfl,rfl,hs.to _ _,oM,(by simp;omega),(by simp;omega),haz101,(rows_snoc hWs oM hQs),(Smalls.snoc hBs _)⟩,ka.to _ kR⟩
  omega
 have phb87:=oT hb87;refine lB 68 hb87 (lN (cIT (cK (cQ (kZ (kQ (lL hs [.m 71 18,.m 72 11] (lCm 73 (rNext A cap zs hl hz b4 at3 oM _ _ hs.g (hs.own 2) (hs.jk 2) hs.f.q.r.2.1) ?_))))))));rintro _ w136 h137 u138 ⟨z135,at_z135,rfl,haz135,hzz135,hOz135⟩;replace hs:=(hs.stepM 2 u138 hOz135).to [⟨b55,121,[nV (pick (kindAt kd k) 3+1),.slice sWA ((vW).length) sWc,.slice sBA ((tB).length) sBc]⟩,⟨b41,36,[.slice sA ((us).length) sc]⟩,⟨b4,133,[.slice A zs.length cap,nV at_z135]⟩,⟨b1,36,[sZ]⟩] [⟨95,3,srA,src,(tr).length,(tr).flatMap rqc⟩,⟨98,1,sWA,sWc,(vW).length,(vW).flatMap vc⟩,⟨95,3,sBA,sBc,(tB).length,(tB).flatMap rqc⟩,⟨121,3,sA,sc,(us).length,(us).flatMap lvc⟩];refine lC 74 hs (mSmall z135 hzz135.1 hzz135.2 _ _ hs.g) ?_;rintro _ w147 h148 hs ⟨A139,c140,A143,c144,rfl,hc141,hc145,hA142,hA146⟩;replace hs:=hs.aP hA142 hA146;refine lR 75 95 1 (rqx (smallq z135) A139 c140 A143 c144) hs (fun b149 w150 h151 hs=>lY 76 0 95 3 src srA tr rqc ((ineg (smallq z135).num,.slice A139 ((lim (iabs (smallq z135).num)).length) c140,.slice A143 ((lim (smallq z135).den).length) c144):RT) 56 b149 (.agg #[.bool false,sZ,sZ]) hs hs.f.1 (fun A153 c154 w155 h156 hs=>lL hs [.m 18 76] (lN (kQ (lL hs [.m 69 19] (lIn 70 ((c:Nat)+1) (c+1) ?_))))));refine lL hs [.m 19 70] (lD ?_);intro a_ ka;replace hs:=(hs.tl.tl.tl.tl.add (K:=Rt (tr++[((ineg (smallq z135).num,.slice A139 ((lim (iabs (smallq z135).num)).length) c140,.slice A143 ((lim (smallq z135).den).length) c144):RT)]) (qr++[smallq z135])) (RTs.snoc hs.f.r.2.1 ⟨_,_,_,_,rfl,hc141,hc145,hs.f.r.1,hs.f.2.1⟩));refine ⟨_,_,?_,⟨c+1,A153,c154,tr++[((ineg (smallq z135).num,.slice A139 ((lim (iabs (smallq z135).num)).length) c140,.slice A143 ((lim (smallq z135).den).length) c144):RT)],qr++[smallq z135],at_z135,h156,rfl,rfl,hs.to _ _,oM,(by simp;omega),haz135,(Smalls.snoc hQs _)⟩,ka.to _ kR⟩
 omega
structure LayFit (L:Lay):Prop where
  rl:L.W.length≤1000000
  rls:∀ i,i<L.W.length→(L.W.getD i []).length≤1000000
  rf:∀ i,i<L.W.length→∀ j,j<(L.W.getD i []).length→LQ 100000000 ((L.W.getD i []).getD j 0)
  bl:L.B.length≤1000000
  bf:∀ i,i<L.B.length→LQ 100000000 (L.B.getD i 0)
theorem mInNet (A:Option Addr)(cap:Nat)(ts:List LV)(ls:List Lay)(hn:ls.length≤1000000)(hF:∀ i,i<ls.length→LayFit (ls.getD i lay0))(w:World)(h:Hp)(g:G w h)(hA:Sl A ts h)(hN:RNetL h ts ls)(tb:Tab h):CR 19 #[.agg #[.slice A ts.length cap]] w h (fun v h1=>∃ A c,∃ us:List LV,v=.agg #[.slice A us.length c]∧us.length≤c∧Sl A us h1∧NetL h1 us ls):=by
 have hs:=((((sS g).aS hA).aM hN).aB tb);have hl:=(hs.f.2.1).len;refine go Tryz.func19 [(0,.agg #[.slice A ts.length cap])] rfl (cSL (lA 1 36 ([.slice A ts.length cap]) hs (fun b1 w2 h3 hs=>lA 2 28 ([sZ]) hs (fun b4 w5 h6 hs=>lNS (lA 3 28 ([sZ]) hs (fun b7 w8 h9 hs=>lN (cQ (cSL (lL hs [.v 4 (iV 0)] (lN (kZ ?_)))))))))));replace hs:=hs.nil 77 3;refine cTo [(1,pB b1),(2,pB b4),(3,pB b7),(4,iV 0)] ?_;replace hs:=hs.aN (NetL.nil);refine CG.loop (fun μ_ Γ w_=>∃ (k:Nat) (sA:Option Addr) (sc:Nat) (us:List LV) (h_:Hp),μ_=ls.length-k∧Γ=[(1,pB b1),(2,pB b4),(3,pB b7),(4,nV k)]∧SS w h w_ h_ [⟨b7,28,[.slice sA ((us).length) sc]⟩,⟨b4,28,[sZ]⟩,⟨b1,36,[.slice A ts.length cap]⟩] [⟨77,3,sA,sc,(us).length,(us).flatMap lvc⟩] [Nn us (ls.take k),fun h_=>Tab h_,Rn ts ls,Sl A ts]∧k≤ls.length) _ ⟨0,none,0,[],h9,rfl,rfl,hs.to _ _,Nat.zero_le _⟩ ?_;rintro _ _ w10 ⟨k,sA,sc,us,h11,hm12,rfl,hs,hk⟩;have hlU:=(hs.f.1).len;have htk:(ls.take k).length=k:=by simp;omega
 refine cQ (cSL (lL hs [.m 6 4,.v 7 (pB b1),.o 8 (.slice A ts.length cap) 2 0 1,.v 9 (nV ts.length)] ?_));cases hb13:(decide ((k:Int)<(ts.length:Int)))
 ·
  have phb13:=oF hb13;refine lB 10 hb13 (lN (cIF (CG.exit ?_)))
  show CG _ _ _ _ _ _ _ _
  refine cSL ?_;obtain ⟨h14,hs,hc15⟩:=hs.pubr 0 (A:=sA) (c:=sc) (l:=us) (f:=lvc) (ty:=77) (sz:=3) lvd (fun _=>rfl);refine lL hs [.o 32 (.agg #[.slice sA ((us).length) sc]) 0 0 1] (lP 1 0 ([.slice sA ((us).length) sc]) hs (fun w17 hs=>lN (kX ?_)));have hkq:ls.take k=ls:=List.take_of_length_le oM;rw[hkq] at hs
  exact hs.ret [(1,0,1)] (.agg #[.slice sA ((us).length) sc]) (⟨_,_,us,rfl,hc15,hs.f.1,hs.f.2.1⟩)
 have phb13:=oT hb13;refine lB 10 hb13 (lN (cIT (cK (cQ (kZ (cSL (lL hs [.v 13 (pB b1),.o 14 (.slice A ts.length cap) 2 0 1,.m 15 4] (lX 16 A ts.length cap 3 (k:Nat) k ((hs.f.r.2.1).ok oM) ?_))))))));obtain ⟨ekx,⟨AWx,cWx,usx,eWx,hcWx,hAWx,hTWx⟩,⟨ABx,cBx,rsx,eBx,hcBx,hABx,hTBx⟩⟩:=(hs.f.r.1).at_ k oM;replace hs:=((((hs.aS hAWx).aV hTWx).aS hABx).aT hTBx);refine lHe 17 (.agg #[iV ((ts.getD k lvd).1),(ts.getD k lvd).2.1,(ts.getD k lvd).2.2]) hs ((hs.f.q.r.2.1).el k oM) (by rw[ekx,eWx,eBx]) (lA 5 121 ([iV 0,sZ,sZ]) hs (fun b18 w19 h20 hs=>lP 0 0 ([iV ((ls.getD k lay0).k),.slice AWx usx.length cWx,.slice ABx rsx.length cBx]) hs (fun w21 hs=>lN (CG.region ⟨(b4::(Value.slice sA ((us).length) sc).ownBlock.toList),none⟩ 13 [] mixed kR hs.g al_nil (hs.rb_lt 2 0 (rb:=b4) (ty:=77) (sz:=3) (A:=sA) (c:=sc) (m:=(us).length) (cs:=(us).flatMap lvc)) ?_))));refine eV 0 18 (pB b7) (eO 1 19 [(1,0,1)] (.slice sA ((us).length) sc) hs ?_ (hM:=fun p hp=>by obtain rfl:=List.mem_singleton.1 hp;exact hs.rb_ne 1 2 0 (rb:=b4) (ty:=77) (sz:=3) (A:=sA) (c:=sc) (m:=(us).length) (cs:=(us).flatMap lvc)));refine eV 2 20 (pB b18) (eO 3 21 [(0,0,1)] (iV ((ls.getD k lay0).k)) hs ?_ (hM:=fun p hp=>by obtain rfl:=List.mem_singleton.1 hp;exact hs.rb_ne 0 2 0 (rb:=b4) (ty:=77) (sz:=3) (A:=sA) (c:=sc) (m:=(us).length) (cs:=(us).flatMap lvc)));refine eV 4 22 (.pointer (some ⟨b18,1,none⟩)) (eO 5 23 [(0,1,1)] (.slice AWx usx.length cWx) hs ?_ (hM:=fun p hp=>by obtain rfl:=List.mem_singleton.1 hp;exact hs.rb_ne 0 2 0 (rb:=b4) (ty:=77) (sz:=3) (A:=sA) (c:=sc) (m:=(us).length) (cs:=(us).flatMap lvc)));refine eV 7 25 (.pointer (some ⟨b18,2,none⟩)) (eO 8 26 [(0,2,1)] (.slice ABx rsx.length cBx) hs ?_ (hM:=fun p hp=>by obtain rfl:=List.mem_singleton.1 hp;exact hs.rb_ne 0 2 0 (rb:=b4) (ty:=77) (sz:=3) (A:=sA) (c:=sc) (m:=(us).length) (cs:=(us).flatMap lvc)));refine eC 6 24 hs (fun _ _ hs=>hInRows AWx cWx usx (ls.getD k lay0).W ((hF k oM).rl) ((hF k oM).rls) ((hF k oM).rf) _ _ hs.g hs.f.r.2.1 hs.f.r.1 hs.f.q.2.1) ?_;rintro _ _ _ w22 h23 hs ⟨Au,cu,uu,rfl,hcu,hAu,hQu⟩;replace hs:=((hs.aS hAu).aQ hQu);refine eC 9 27 hs (fun _ _ hs=>hInRow ABx cBx rsx (ls.getD k lay0).B (hF k oM).bl (hF k oM).bf _ _ hs.g hs.f.r.2.1 hs.f.r.1 hs.f.q.r.2.1) ?_;rintro _ _ _ w24 h25 hs ⟨Ab,cb,rfl,hcb,hAb⟩;replace hs:=hs.aS hAb;refine eV 10 28 (.agg #[iV ((ls.getD k lay0).k),.slice Au uu.length cu,.slice Ab ((ls.getD k lay0).B.length) cb]) (eR 11 29 77 1 ([iV ((ls.getD k lay0).k),.slice Au uu.length cu,.slice Ab ((ls.getD k lay0).B.length) cb]) hs (fun b26 w27 h28 hs=>eY 12 30 0 77 3 sc sA us lvc (((ls.getD k lay0).k,.slice Au uu.length cu,.slice Ab ((ls.getD k lay0).B.length) cb):LV) 56 b26 (.agg #[iV 0,sZ,sZ]) hs (fun _ f_=>f_.1) (fun b hb=>List.mem_cons_of_mem _ (Option.mem_toList.2 hb)) (fun A30 c31 w32 h33 hs=>eD0 hs (fun w35 h36 hs=>tV 13 31 (pB b7) (tP 14 1 0 ([.slice A30 ((us++[(((ls.getD k lay0).k,.slice Au uu.length cu,.slice Ab ((ls.getD k lay0).B.length) cb):LV)]).length) c31]) hs (fun w37 hs=>tN (kQ (lL hs [.m 11 4] (lIn 12 ((k:Nat)+1) (k+1) ?_)))))))));refine lL hs [.m 4 12] (lD ?_);intro a_ ka;replace hs:=(hs.tl.tl.tl.tl.tl.tl.tl.tl.tl.add (K:=Nn (us++[(((ls.getD k lay0).k,.slice Au uu.length cu,.slice Ab ((ls.getD k lay0).B.length) cb):LV)]) (ls.take (k+1))) (by rw[take_snoc' lay0 oM];exact (hs.f.q.q.1).snoc ⟨rfl,⟨Au,cu,uu,rfl,hcu,hs.f.r.2.1,hs.f.r.1⟩,⟨Ab,cb,rfl,hcb,hs.f.2.1⟩⟩));replace hs:=hs.drop 1 0;refine ⟨_,_,?_,⟨k+1,A30,c31,us++[(((ls.getD k lay0).k,.slice Au uu.length cu,.slice Ab ((ls.getD k lay0).B.length) cb):LV)],h36,rfl,rfl,hs.to _ _,oM⟩,ka.to _ kR⟩
 omega
def RightP (W:List (List Rat)):Prop:=0<W.length∧0<(W.getD 0 []).length∧∀ i,i<W.length→(W.getD i []).length=(W.getD 0 []).length
noncomputable def rightq (W:List (List Rat)):Bool:=@decide (RightP W) (Classical.propDecidable _)
theorem right_step {W:List (List Rat)}{k:Nat}(hR:∀ i,i<k→(W.getD i []).length=(W.getD 0 []).length)(h:(W.getD k []).length=(W.getD 0 []).length):∀ i,i<k+1→(W.getD i []).length=(W.getD 0 []).length:=fun i hi=>by
  by_cases e:i=k
  · rw[e];exact h
  · exact hR i oM
theorem rq_t {W:List (List Rat)}(h:RightP W):Value.bool true=.bool (rightq W):=by unfold rightq;rw[@decide_eq_true _ (Classical.propDecidable _) h]
theorem rq_f {W:List (List Rat)}(h:¬RightP W):Value.bool false=.bool (rightq W):=by unfold rightq;rw[@decide_eq_false _ (Classical.propDecidable _) h]
theorem rq_is {W:List (List Rat)}(h:rightq W=true):RightP W:=by unfold rightq at h;exact @oT _ (Classical.propDecidable _) h
theorem rq_not {W:List (List Rat)}(h:rightq W=false):¬RightP W:=by unfold rightq at h;exact @oF _ (Classical.propDecidable _) h
theorem mRightG (A:Option Addr)(cap:Nat)(us:List Value)(W:List (List Rat))(hl:W.length≤1000000)(hls:∀ i,i<W.length→(W.getD i []).length≤1000000)(w:World)(h:Hp)(g:G w h)(hA:Sv A us h)(hU:QVs h us W):CV 126 #[.slice A us.length cap] w h (.bool (rightq W)):=by
 have hs:=(((sS g).aS hA).aQ hU);have hlu:=(hs.f.1).len;refine go Tryz.func126 [(0,.slice A us.length cap)] rfl (cSL (lL hs [.v 2 (.bool false)] (lN (cQ (cSL (lL hs [.m 5 0,.v 6 (nV us.length)] ?_))))));cases hb1:((us.length:Int) == (0:Int))
 ·
  have phb1:=neOfBeq hb1;refine lB 7 hb1 (lL hs [.m 8 7,.m 9 0] (lX 10 A us.length cap 1 0 0 ((hs.f.2.1).ok oM) ?_));obtain ⟨Aqz,cqz,eqz,hcqz,hRqz⟩:=(hs.f.1).at_ 0 oM;replace hs:=hs.aS hRqz;refine lHe 11 (us.getD 0 undef) hs ((hs.f.r.1).el 0 oM) eqz (lL hs [.v 12 (nV ((W.getD 0 []).length))] ?_);cases hb2:((((W.getD 0 []).length:Nat):Int) == (0:Int))
  ·
   have phb2:=neOfBeq hb2;refine lB 13 hb2 (lL hs [.v 14 (.bool false)] (lN (cIF (cK (cQ (cSL (lL hs [.m 15 0,.v 16 (nV us.length),.v 17 (iV 0)] (lN (kZ ?_)))))))));refine cTo _ (CG.loop (fun μ_ Γ w_=>∃ (k:Nat) (h_:Hp),μ_=us.length-k∧Γ=[(0,.slice A us.length cap),(15,.slice A us.length cap),(16,nV us.length),(17,nV k)]∧SS w h w_ h_ [] [] [Sq Aqz (W.getD 0 []),Qu us W,Sv A us]∧k≤us.length∧(∀ i,i<k→(W.getD i []).length=(W.getD 0 []).length)) _ ⟨0,h,rfl,rfl,hs.to _ _,Nat.zero_le _,fun i hi=>absurd hi (Nat.not_lt_zero i)⟩ ?_);rintro _ _ w3 ⟨k,h4,hm5,rfl,hs,hk,hR⟩;refine cSL ?_;cases hb6:(decide ((k:Int)<(us.length:Int)))
   ·
    have phb6:=oF hb6;refine lB 18 hb6 (lN (cQ (cIF (CG.exit ?_))))
    show CG _ _ _ _ _ _ _ _
    exact cSL (lL hs [.v 2 (.bool true)] (lN (kX (hs.ret [] (.bool true) (rq_t ⟨by omega,by omega,fun i hi=>hR i oM⟩)))))
   have phb6:=oT hb6;refine lB 18 hb6 (lN (cQ (cIT (cK (cQ (kZ (cSL (lX 19 A us.length cap 1 (k:Nat) k ((hs.f.r.1).ok oM) ?_))))))));obtain ⟨Aqx,cqx,eqx,hcqx,hRqx⟩:=(hs.f.2.1).at_ k oM;replace hs:=hs.aS hRqx;refine lHe 20 (us.getD k undef) hs ((hs.f.r.2.1).el k oM) eqx (lL hs [.m 4 20] (lNS (lL hs [.m 21 4,.v 22 (nV ((W.getD k []).length)),.m 23 0] (lX 24 A us.length cap 1 0 0 ((hs.f.r.2.1).ok oM) ?_))));obtain ⟨Aqy,cqy,eqy,hcqy,hRqy⟩:=(hs.f.r.1).at_ 0 oM;replace hs:=hs.aS hRqy;refine lHe 25 (us.getD 0 undef) hs ((hs.f.q.1).el 0 oM) eqy (lL hs [.v 26 (nV ((W.getD 0 []).length))] ?_);cases hb7:((((W.getD k []).length:Nat):Int) != (((W.getD 0 []).length:Nat):Int))
   ·
    have phb7:=eqOfBne hb7;refine lB 27 hb7 (lN (cIF (cK (kQ (lIn 28 ((k:Nat)+1) (k+1) ?_)))));refine lL hs [.m 17 28] (lD ?_);intro a_ ka;replace hs:=hs.tl.tl;refine ⟨_,_,?_,⟨k+1,h4,rfl,rfl,hs.to _ _,oM,(right_step hR oM)⟩,ka.to _ kR⟩
    omega
   have phb7:=neOfBne hb7;exact lB 27 hb7 (lN (cIT (cSL (lL hs [.v 2 (.bool false)] (lN (kX (hs.ret [] (.bool false) (rq_f (fun h_=>by have h1_:=h_.1;have h2_:=h_.2.1;have h3_:=h_.2.2 k oM;omega)))))))))
  have phb2:=eq_of_beq hb2;exact lB 13 hb2 (lL hs [.v 14 (.bool true)] (lN (cIT (cSL (lL hs [.v 2 (.bool false)] (lN (kX (hs.ret [] (.bool false) (rq_f (fun h_=>by have h1_:=h_.1;have h2_:=h_.2.1;omega))))))))))
 have phb1:=eq_of_beq hb1;refine lB 7 hb1 (lL hs [.m 8 7] (lG 9 ?_));exact lG 10 (lG 11 (lG 12 (lG 13 (lL hs [.v 14 (.bool true)] (lN (cIT (cSL (lL hs [.v 2 (.bool false)] (lN (kX (hs.ret [] (.bool false) (rq_f (fun h_=>by have h1_:=h_.1;have h2_:=h_.2.1;omega)))))))))))))
theorem rRightG (A:Option Addr)(cap:Nat)(us:List Value)(W:List (List Rat))(hl:W.length≤1000000)(hls:∀ i,i<W.length→(W.getD i []).length≤1000000)(w:World)(h:Hp)(g:G w h)(hA:Sv A us h)(hU:RVs h us W):CV 117 #[.slice A us.length cap] w h (.bool (rightq W)):=by
 have hs:=(((sS g).aS hA).aV hU);have hlu:=(hs.f.1).len;refine go Tryz.func117 [(0,.slice A us.length cap)] rfl (cSL (lL hs [.v 2 (.bool false)] (lN (cQ (cSL (lL hs [.v 3 (iV 0)] (lN (kZ ?_))))))));refine cTo _ (CG.loop (fun μ_ Γ w_=>∃ (k:Nat) (h_:Hp),μ_=us.length-k∧Γ=[(0,.slice A us.length cap),(3,nV k)]∧SS w h w_ h_ [] [] [Ru us W,Sv A us]∧k≤us.length∧(∀ i,i<k→(W.getD i []).length=(W.getD 0 []).length)∧(0<k→0<(W.getD 0 []).length)) _ ⟨0,h,rfl,rfl,hs.to _ _,Nat.zero_le _,fun i hi=>absurd hi (Nat.not_lt_zero i),fun h_=>absurd h_ (Nat.lt_irrefl 0)⟩ ?_);rintro _ _ w1 ⟨k,h2,hm3,rfl,hs,hk,hR,hR0⟩;refine cQ (cSL (lL hs [.m 4 3,.m 5 0,.v 6 (nV us.length)] ?_));cases hb4:(decide ((k:Int)<(us.length:Int)))
 ·
  have phb4:=oF hb4;refine lB 7 hb4 (lN (cIF (CG.exit ?_)))
  show CG _ _ _ _ _ _ _ _
  refine cSL (lL hs [.m 28 0,.v 29 (nV us.length)] ?_);cases hb5:(decide ((0:Int)<(us.length:Int)))
  ·
   have phb5:=oF hb5;exact lB 30 hb5 (lL hs [.m 2 30] (lN (kX (hs.ret [] (.bool false) (rq_f (fun h_=>by have h1_:=h_.1;have h2_:=h_.2.1;first|omega|(have h3_:=h_.2.2 k oM;omega)))))))
  have phb5:=oT hb5;exact lB 30 hb5 (lL hs [.m 2 30] (lN (kX (hs.ret [] (.bool true) (rq_t ⟨by omega,hR0 oM,fun i hi=>hR i oM⟩)))))
 have phb4:=oT hb4;refine lB 7 hb4 (lN (cIT (cK (cQ (kZ (cQ (cR 18 [] mixed hs al_nil ?_)))))));refine eV 0 10 (.slice A us.length cap) (eV 1 11 (nV k) (eX 2 12 A us.length cap 1 (k:Nat) k ((hs.f.2.1).ok oM) ?_));obtain ⟨Arx,crx,trx,erx,hcrx,hRrx,hTrx⟩:=(hs.f.1).at_ k oM;have hlrx:=hTrx.len;replace hs:=((hs.aS hRrx).aT hTrx);refine eHe 3 13 (us.getD k undef) hs ((hs.f.r.2.1).el k oM) erx (eV 4 14 (nV trx.length) (eV 5 15 (.slice A us.length cap) (eX 6 16 A us.length cap 1 0 0 ((hs.f.r.2.1).ok oM) ?_)));obtain ⟨Arz,crz,trz,erz,hcrz,hRrz,hTrz⟩:=(hs.f.r.1).at_ 0 oM;have hlrz:=hTrz.len;replace hs:=((hs.aS hRrz).aT hTrz);refine eHe 7 17 (us.getD 0 undef) hs ((hs.f.q.2.1).el 0 oM) erz (eV 8 18 (nV trz.length) ?_);cases hb6:((trx.length:Int) != (trz.length:Int))
 ·
  have phb6:=eqOfBne hb6;refine eB 9 19 hb6 (eV 10 20 (.bool false) (eV 11 21 (.slice A us.length cap) (eV 12 22 (nV k) (eX 13 23 A us.length cap 1 (k:Nat) k ((hs.f.q.2.1).ok oM) ?_))));obtain ⟨Arv,crv,trv,erv,hcrv,hRrv,hTrv⟩:=(hs.f.q.1).at_ k oM;have hlrv:=hTrv.len;replace hs:=((hs.aS hRrv).aT hTrv);refine eHe 14 24 (us.getD k undef) hs ((hs.f.q.r.2.1).el k oM) erv (eV 15 25 (nV trv.length) ?_);cases hb7:((trv.length:Int) == (0:Int))
  ·
   have phb7:=neOfBeq hb7;refine eB 16 26 hb7 (eV 17 27 (.bool false) (eD0 hs (fun w8 h9 hs=>tN (cIF (cK (kQ (lL hs [.m 8 3] (lIn 9 ((k:Nat)+1) (k+1) ?_))))))));refine lL hs [.m 3 9] (lD ?_);intro a_ ka;replace hs:=hs.tl.tl.tl.tl.tl.tl;refine ⟨_,_,?_,⟨k+1,h9,rfl,rfl,hs.to _ _,oM,(right_step hR oM),(fun _=>by omega)⟩,ka.to _ kR⟩
   omega
  have phb7:=eq_of_beq hb7;exact eB 16 26 hb7 (eV 17 27 (.bool true) (eD0 hs (fun w13 h14 hs=>tN (cIT (cSL (lL hs [.v 2 (.bool false)] (lN (kX (hs.ret [] (.bool false) (rq_f (fun h_=>by have h1_:=h_.1;have h2_:=h_.2.1;first|omega|(have h3_:=h_.2.2 k oM;omega))))))))))))
 have phb6:=neOfBne hb6;exact eB 9 19 hb6 (eV 10 20 (.bool true) (eG 11 21 (eG 12 22 (eG 13 23 (eG 14 24 (eG 15 25 (eG 16 26 (eV 17 27 (.bool true) (eD0 hs (fun w15 h16 hs=>tN (cIT (cSL (lL hs [.v 2 (.bool false)] (lN (kX (hs.ret [] (.bool false) (rq_f (fun h_=>by have h1_:=h_.1;have h2_:=h_.2.1;first|omega|(have h3_:=h_.2.2 k oM;omega)))))))))))))))))))
theorem nKnownG (k:Int)(w:World)(h:Hp)(g:G w h):CV 47 #[iV k] w h (.bool (decide (1≤k∧k≤3))):=by
 have hs:=sS g;refine go Tryz.func47 [(0,iV k)] rfl (cSL (lL hs [.v 2 (.bool false)] (lNS (lL hs [.m 3 0] ?_))));cases hb1:((k:Int) == (1:Int))
 ·
  have phb1:=neOfBeq hb1;refine lB 4 hb1 (lL hs [.m 5 4,.m 6 0] ?_);cases hb2:((k:Int) == (2:Int))
  ·
   have phb2:=neOfBeq hb2;refine lB 7 hb2 (lL hs [.v 8 (.bool false),.m 9 8,.m 10 0] ?_);cases hb3:((k:Int) == (3:Int))
   ·
    have phb3:=neOfBeq hb3;exact lB 11 hb3 (lL hs [.v 12 (.bool false),.m 2 12] (lN (kX (hs.ret [] (.bool false) (congrArg Value.bool (decide_eq_false oM).symm)))))
   have phb3:=eq_of_beq hb3;exact lB 11 hb3 (lL hs [.v 12 (.bool true),.m 2 12] (lN (kX (hs.ret [] (.bool true) (congrArg Value.bool (decide_eq_true oM).symm)))))
  have phb2:=eq_of_beq hb2;refine lB 7 hb2 (lL hs [.v 8 (.bool true),.m 9 8] (lG 10 ?_));exact lG 11 (lL hs [.v 12 (.bool true),.m 2 12] (lN (kX (hs.ret [] (.bool true) (congrArg Value.bool (decide_eq_true oM).symm)))))
 have phb1:=eq_of_beq hb1;refine lB 4 hb1 (lL hs [.m 5 4] (lG 6 ?_));refine lG 7 (lL hs [.v 8 (.bool true),.m 9 8] (lG 10 ?_));exact lG 11 (lL hs [.v 12 (.bool true),.m 2 12] (lN (kX (hs.ret [] (.bool true) (congrArg Value.bool (decide_eq_true oM).symm)))))
def Fine (ls:List Lay)(k:Nat):Prop:=RightP (ls.getD k lay0).W∧(ls.getD k lay0).W.length≤12∧(ls.getD k lay0).B.length=(ls.getD k lay0).W.length∧(k=0→((ls.getD k lay0).W.getD 0 []).length≤20)∧(0<k→((ls.getD k lay0).W.getD 0 []).length=(ls.getD (k-1) lay0).W.length)
def Kd (ls:List Lay)(k:Nat):Prop:=1≤(ls.getD k lay0).k∧(ls.getD k lay0).k≤3
open Classical in
noncomputable def chkFrom (ls:List Lay) (k:Nat):Nat→Int
  | 0=>0
  | n+1=>if Fine ls k then (if Kd ls k then chkFrom ls (k+1) n else 10) else 5
noncomputable def chkq (ls:List Lay):Int:=if 1≤ls.length∧ls.length≤4 then chkFrom ls 0 ls.length else 5
theorem chk_len {ls:List Lay}(h:¬(1≤ls.length∧ls.length≤4)):Value.int .i64 5=.int .i64 (chkq ls):=by unfold chkq;rw[if_neg h]
theorem chk_start {ls:List Lay}(h:1≤ls.length∧ls.length≤4):chkq ls=chkFrom ls 0 (ls.length-0):=by unfold chkq;rw[if_pos h];rfl
theorem chk_sub {ls:List Lay}{k:Nat}(h:k<ls.length):ls.length-k=(ls.length-(k+1))+1:=by omega
theorem chk_end {ls:List Lay}{k:Nat}(h:chkq ls=chkFrom ls k (ls.length-k))(hk:ls.length≤k):Value.int .i64 0=.int .i64 (chkq ls):=by rw[h,Nat.sub_eq_zero_of_le hk];rfl
theorem chk_bad {ls:List Lay}{k:Nat}(h:chkq ls=chkFrom ls k (ls.length-k))(hk:k<ls.length)(hf:¬Fine ls k):Value.int .i64 5=.int .i64 (chkq ls):=by rw[h,chk_sub hk,chkFrom,if_neg hf]
theorem chk_kind {ls:List Lay}{k:Nat}(h:chkq ls=chkFrom ls k (ls.length-k))(hk:k<ls.length)(hf:Fine ls k)(hd:¬Kd ls k):Value.int .i64 10=.int .i64 (chkq ls):=by rw[h,chk_sub hk,chkFrom,if_pos hf,if_neg hd]
theorem chk_step {ls:List Lay}{k:Nat}(h:chkq ls=chkFrom ls k (ls.length-k))(hk:k<ls.length)(hf:Fine ls k)(hd:Kd ls k):chkq ls=chkFrom ls (k+1) (ls.length-(k+1)):=by rw[h,chk_sub hk,chkFrom,if_pos hf,if_pos hd]
structure LayLen (L:Lay):Prop where
  rl:L.W.length≤1000000
  rls:∀ i,i<L.W.length→(L.W.getD i []).length≤1000000
  bl:L.B.length≤1000000
theorem nCheckG (A:Option Addr)(cap:Nat)(ts:List LV)(ls:List Lay)(hn:ls.length≤1000000)(hF:∀ i,i<ls.length→LayLen (ls.getD i lay0))(w:World)(h:Hp)(g:G w h)(hA:Sl A ts h)(hN:NetL h ts ls):CV 78 #[.agg #[.slice A ts.length cap]] w h (iV (chkq ls)):=by
 have hs:=(((sS g).aS hA).aN hN);have hl:=(hs.f.1).len;refine go Tryz.func78 [(0,.agg #[.slice A ts.length cap])] rfl (cSL (lA 1 28 ([.slice A ts.length cap]) hs (fun b1 w2 h3 hs=>lL hs [.v 2 (iV 0)] (lN (cQ (cSL (lL hs [.v 5 (pB b1),.o 6 (.slice A ts.length cap) 0 0 1,.v 7 (nV ts.length)] ?_)))))));cases hb4:(decide ((ts.length:Int)<(1:Int)))
 ·
  have phb4:=oF hb4;refine lB 8 hb4 (lL hs [.m 9 8,.v 10 (pB b1),.o 11 (.slice A ts.length cap) 0 0 1,.v 12 (nV ts.length)] ?_);cases hb5:(decide ((4:Int)<(ts.length:Int)))
  ·
   have phb5:=oF hb5;refine lB 13 hb5 (lL hs [.v 14 (.bool false)] (lN (cIF (cK (cQ (cSL (lL hs [.v 15 (pB b1),.o 16 (.slice A ts.length cap) 0 0 1,.v 17 (nV ts.length),.v 18 (iV 0)] (lN (kZ ?_)))))))));refine cTo _ (CG.loop (fun μ_ Γ w_=>∃ (k:Nat) (h_:Hp),μ_=ls.length-k∧Γ=[(1,pB b1),(16,.slice A ts.length cap),(17,nV ts.length),(18,nV k)]∧SS w h w_ h_ [⟨b1,28,[.slice A ts.length cap]⟩] [] [Nn ts ls,Sl A ts]∧k≤ls.length∧chkq ls=chkFrom ls k (ls.length-k)) _ ⟨0,h3,rfl,rfl,hs.to _ _,Nat.zero_le _,chk_start oM⟩ ?_);rintro _ _ w6 ⟨k,h7,hm8,rfl,hs,hk,hi⟩;refine cSL ?_;cases hb9:(decide ((k:Int)<(ts.length:Int)))
   ·
    have phb9:=oF hb9;refine lB 19 hb9 (lN (cQ (cIF (CG.exit ?_))))
    show CG _ _ _ _ _ _ _ _
    exact cSL (lL hs [.v 2 (iV 0)] (lN (kX (hs.ret [] (iV 0) (chk_end hi oM)))))
   have phb9:=oT hb9;refine lB 19 hb9 (lN (cQ (cIT (cK (cQ (kZ (cSL (lL hs [.m 20 18] (lX 21 A ts.length cap 3 (k:Nat) k ((hs.f.2.1).ok oM) ?_)))))))));obtain ⟨ekx,⟨AWx,cWx,usx,eWx,hcWx,hAWx,hUx⟩,⟨ABx,cBx,eBx,hcBx,hABx⟩⟩:=(hs.f.1).at_ k oM;have lux:=hUx.len;replace hs:=(((hs.aS hAWx).aQ hUx).aS hABx);refine lHe 22 (.agg #[iV ((ts.getD k lvd).1),(ts.getD k lvd).2.1,(ts.getD k lvd).2.2]) hs ((hs.f.q.1).el k oM) (by rw[ekx,eWx,eBx]) (lA 4 77 ([iV 0,sZ,sZ]) hs (fun b10 w11 h12 hs=>lL hs [.m 3 20] (lP 0 0 ([iV ((ls.getD k lay0).k),.slice AWx usx.length cWx,.slice ABx ((ls.getD k lay0).B.length) cBx]) hs (fun w13 hs=>lN (cQ (cSL (lL hs [.v 23 (.pointer (some ⟨b10,1,none⟩)),.o 24 (.slice AWx usx.length cWx) 0 1 1] (lC 25 hs (mRightG AWx cWx usx (ls.getD k lay0).W (hF k oM).rl (hF k oM).rls _ _ hs.g hs.f.r.1 hs.f.2.1) ?_))))))));rintro _ w14 h15 hs rfl;cases hb16:(rightq (ls.getD k lay0).W)
   ·
    have phb16:=rq_not hb16;refine lL hs [.v 26 (.bool true),.m 27 26] (lG 28 ?_);refine lG 29 (lG 30 (lG 31 (lL hs [.v 32 (.bool true),.m 33 32] (lG 34 ?_))));exact lG 35 (lG 36 (lG 37 (lG 38 (lG 39 (lG 40 (lL hs [.v 41 (.bool true)] (lN (cIT (cSL (lL hs [.v 2 (iV 5)] (lN (kX (hs.ret [] (iV 5) (chk_bad hi oM (fun ⟨f1,f2,f3,f4,f5⟩=>by first|exact absurd f1 aM|omega|(have:=f4 oM;omega)|(have:=f5 oM;omega)|(have:=hwd oM;have:=f5 oM;omega))))))))))))))))
   have phb16:=rq_is hb16;refine lL hs [.v 26 (.bool false),.m 27 26] ?_;obtain ⟨hr1,hr2,hr3⟩:=‹RightP (ls.getD k lay0).W›;refine lL hs [.v 28 (.pointer (some ⟨b10,1,none⟩)),.o 29 (.slice AWx usx.length cWx) 0 1 1,.v 30 (nV usx.length)] ?_;cases hb17:(decide ((12:Int)<(usx.length:Int)))
   ·
    have phb17:=oF hb17;refine lB 31 hb17 (lL hs [.v 32 (.bool false),.m 33 32,.v 34 (.pointer (some ⟨b10,2,none⟩)),.o 35 (.slice ABx ((ls.getD k lay0).B.length) cBx) 0 2 1,.v 36 (nV ((ls.getD k lay0).B.length)),.v 37 (.pointer (some ⟨b10,1,none⟩)),.o 38 (.slice AWx usx.length cWx) 0 1 1,.v 39 (nV usx.length)] ?_);cases hb18:((((ls.getD k lay0).B.length:Nat):Int) != (usx.length:Int))
    ·
     have phb18:=eqOfBne hb18;refine lB 40 hb18 (lL hs [.v 41 (.bool false)] (lN (cIF (cK (cQ (cQ (cR 30 [] mixed hs al_nil ?_)))))));refine eV 0 42 (nV k) ?_;cases hb19:((k:Int) == (0:Int))
     ·
      have phb19:=neOfBeq hb19;refine eB 1 43 hb19 (eV 2 44 (.bool false) (eG 3 45 (eG 4 46 (eG 5 47 (eG 6 48 (eG 7 49 (eG 8 50 (eV 9 51 (.bool false) (eV 10 52 (.bool false) (eV 11 53 (nV k) ?_))))))))));cases hb20:(decide ((0:Int)<(k:Int)))
      ·
       have phb20:=oF hb20;refine eB 12 54 hb20 (eV 13 55 (.bool false) (eG 14 56 (eG 15 57 (eG 16 58 (eG 17 59 (eG 18 60 (eG 19 61 (eG 20 62 (eG 21 63 (eG 22 64 (eG 23 65 (eG 24 66 (eG 25 67 (eG 26 68 (eG 27 69 (eV 28 70 (.bool false) (eV 29 71 (.bool false) (eD0 hs (fun w21 h22 hs=>tN (cTo [(1,pB b1),(16,.slice A ts.length cap),(17,nV ts.length),(18,nV k),(4,pB b10),(71,.bool false)] ?_))))))))))))))))))));refine cIF (cK (cSL (lL hs [.v 72 (pB b10),.o 73 (iV ((ls.getD k lay0).k)) 0 0 1] (lC 74 hs (nKnownG (ls.getD k lay0).k _ _ hs.g) ?_))));rintro _ w23 h24 hs rfl;cases hb25:(decide (1≤(ls.getD k lay0).k∧(ls.getD k lay0).k≤3))
       ·
        have phb25:=oF hb25;exact lL hs [.v 75 (.bool true)] (lN (cIT (cSL (lL hs [.v 2 (iV 10)] (lN (kX (hs.ret [] (iV 10) (chk_kind hi oM (⟨‹RightP _›,by omega,by omega,fun _=>by omega,fun h_=>by first|omega|(have:=hwd h_;omega)⟩) (by first|assumption|(intro h_;have h1_:=h_.1;have h2_:=h_.2;omega))))))))))
       have phb25:=oT hb25;refine lL hs [.v 75 (.bool false)] (lN (cIF (cK (kQ (lIn 76 ((k:Nat)+1) (k+1) ?_)))));refine lL hs [.m 18 76] (lD ?_);intro a_ ka;replace hs:=hs.tl.tl.tl;replace hs:=hs.drop 1 0;refine ⟨_,_,?_,⟨k+1,h24,rfl,rfl,hs.to _ _,oM,(chk_step hi oM ⟨‹RightP _›,by omega,by omega,fun _=>by omega,fun _=>by omega⟩ aM)⟩,ka.to _ kR⟩
       omega
      have phb20:=oT hb20;refine eB 12 54 hb20 (eV 13 55 (.bool true) (eV 14 56 (.pointer (some ⟨b10,1,none⟩)) (eO 15 57 [(0,1,1)] (.slice AWx usx.length cWx) hs (eX 16 58 AWx usx.length cWx 1 0 0 ((hs.f.r.1).ok oM) ?_))));obtain ⟨Arq,crq,erq,hcrq,hRrq⟩:=(hs.f.2.1).at_ 0 oM;replace hs:=hs.aS hRrq;refine eHe 17 59 (usx.getD 0 undef) hs ((hs.f.r.2.1).el 0 oM) erq (eV 18 60 (nV ((((ls.getD k lay0).W).getD 0 []).length)) (eV 19 61 (pB b1) (eO 20 62 [(1,0,1)] (.slice A ts.length cap) hs (eV 21 63 (nV k) (eIn 22 64 ((k:Nat)-1) (k-1) (eX 23 65 A ts.length cap 3 (k-1:Nat) (k-1) ((hs.f.q.2.1).ok oM) (eV 24 66 (.pointer (some ⟨(aB A),aO A+(k-1)*3+1,none⟩)) ?_)))))));obtain ⟨eky,⟨AWy,cWy,usy,eWy,hcWy,hAWy,hUy⟩,⟨ABy,cBy,eBy,hcBy,hABy⟩⟩:=(hs.f.q.1).at_ (k-1) oM;have luy:=hUy.len;replace hs:=(((hs.aS hAWy).aQ hUy).aS hABy);refine eHe 25 67 ((ts.getD (k-1) lvd).2.1) hs (((hs.f.q.q.1).el (k-1) oM).part 1 1) eWy (eV 26 68 (nV usy.length) ?_);cases hb28:((((((ls.getD k lay0).W).getD 0 []).length:Nat):Int) != (usy.length:Int))
      ·
       have phb28:=eqOfBne hb28;refine eB 27 69 hb28 (eV 28 70 (.bool false) (eV 29 71 (.bool false) (eD0 hs (fun w29 h30 hs=>tN (cTo [(1,pB b1),(16,.slice A ts.length cap),(17,nV ts.length),(18,nV k),(4,pB b10),(71,.bool false)] ?_)))));refine cIF (cK (cSL (lL hs [.v 72 (pB b10),.o 73 (iV ((ls.getD k lay0).k)) 0 0 1] (lC 74 hs (nKnownG (ls.getD k lay0).k _ _ hs.g) ?_))));rintro _ w31 h32 hs rfl;cases hb33:(decide (1≤(ls.getD k lay0).k∧(ls.getD k lay0).k≤3))
       ·
        have phb33:=oF hb33;exact lL hs [.v 75 (.bool true)] (lN (cIT (cSL (lL hs [.v 2 (iV 10)] (lN (kX (hs.ret [] (iV 10) (chk_kind hi oM (⟨‹RightP _›,by omega,by omega,fun _=>by omega,fun h_=>by first|omega|(have:=hwd h_;omega)⟩) (by first|assumption|(intro h_;have h1_:=h_.1;have h2_:=h_.2;omega))))))))))
       have phb33:=oT hb33;refine lL hs [.v 75 (.bool false)] (lN (cIF (cK (kQ (lIn 76 ((k:Nat)+1) (k+1) ?_)))));refine lL hs [.m 18 76] (lD ?_);intro a_ ka;replace hs:=hs.tl.tl.tl.tl.tl.tl.tl;replace hs:=hs.drop 1 0;refine ⟨_,_,?_,⟨k+1,h32,rfl,rfl,hs.to _ _,oM,(chk_step hi oM ⟨‹RightP _›,by omega,by omega,fun _=>by omega,fun _=>by omega⟩ aM)⟩,ka.to _ kR⟩
       omega
      have phb28:=neOfBne hb28;refine eB 27 69 hb28 (eV 28 70 (.bool true) (eV 29 71 (.bool true) (eD0 hs (fun w36 h37 hs=>tN (cTo [(1,pB b1),(16,.slice A ts.length cap),(17,nV ts.length),(18,nV k),(4,pB b10),(71,.bool true)] ?_)))));exact cIT (cSL (lL hs [.v 2 (iV 5)] (lN (kX (hs.ret [] (iV 5) (chk_bad hi oM (fun ⟨f1,f2,f3,f4,f5⟩=>by first|exact absurd f1 aM|omega|(have:=f4 oM;omega)|(have:=f5 oM;omega)|(have:=hwd oM;have:=f5 oM;omega))))))))
     have phb19:=eq_of_beq hb19;refine eB 1 43 hb19 (eV 2 44 (.bool true) (eV 3 45 (.pointer (some ⟨b10,1,none⟩)) (eO 4 46 [(0,1,1)] (.slice AWx usx.length cWx) hs (eX 5 47 AWx usx.length cWx 1 0 0 ((hs.f.r.1).ok oM) ?_))));obtain ⟨Arp,crp,erp,hcrp,hRrp⟩:=(hs.f.2.1).at_ 0 oM;replace hs:=hs.aS hRrp;refine eHe 6 48 (usx.getD 0 undef) hs ((hs.f.r.2.1).el 0 oM) erp (eV 7 49 (nV ((((ls.getD k lay0).W).getD 0 []).length)) ?_);cases hb38:(decide ((20:Int)<(((((ls.getD k lay0).W).getD 0 []).length:Nat):Int)))
     ·
      have phb38:=oF hb38;refine eB 8 50 hb38 (eV 9 51 (.bool false) (eV 10 52 (.bool false) (eV 11 53 (nV k) ?_)));have ⟨hb39,phb39⟩:=dF (p:=(0:Int)<(k:Int)) oM;refine eB 12 54 hb39 (eV 13 55 (.bool false) (eG 14 56 (eG 15 57 (eG 16 58 (eG 17 59 (eG 18 60 (eG 19 61 (eG 20 62 (eG 21 63 (eG 22 64 (eG 23 65 (eG 24 66 (eG 25 67 (eG 26 68 (eG 27 69 (eV 28 70 (.bool false) (eV 29 71 (.bool false) (eD0 hs (fun w40 h41 hs=>tN (cTo [(1,pB b1),(16,.slice A ts.length cap),(17,nV ts.length),(18,nV k),(4,pB b10),(71,.bool false)] ?_))))))))))))))))))));refine cIF (cK (cSL (lL hs [.v 72 (pB b10),.o 73 (iV ((ls.getD k lay0).k)) 0 0 1] (lC 74 hs (nKnownG (ls.getD k lay0).k _ _ hs.g) ?_))));rintro _ w42 h43 hs rfl;cases hb44:(decide (1≤(ls.getD k lay0).k∧(ls.getD k lay0).k≤3))
      ·
       have phb44:=oF hb44;exact lL hs [.v 75 (.bool true)] (lN (cIT (cSL (lL hs [.v 2 (iV 10)] (lN (kX (hs.ret [] (iV 10) (chk_kind hi oM (⟨‹RightP _›,by omega,by omega,fun _=>by omega,fun h_=>by first|omega|(have:=hwd h_;omega)⟩) (by first|assumption|(intro h_;have h1_:=h_.1;have h2_:=h_.2;omega))))))))))
      have phb44:=oT hb44;refine lL hs [.v 75 (.bool false)] (lN (cIF (cK (kQ (lIn 76 ((k:Nat)+1) (k+1) ?_)))));refine lL hs [.m 18 76] (lD ?_);intro a_ ka;replace hs:=hs.tl.tl.tl.tl;replace hs:=hs.drop 1 0;refine ⟨_,_,?_,⟨k+1,h43,rfl,rfl,hs.to _ _,oM,(chk_step hi oM ⟨‹RightP _›,by omega,by omega,fun _=>by omega,fun _=>by omega⟩ aM)⟩,ka.to _ kR⟩
      omega
     have phb38:=oT hb38;refine eB 8 50 hb38 (eV 9 51 (.bool true) (eV 10 52 (.bool true) (eG 11 53 (eG 12 54 (eG 13 55 (eG 14 56 (eG 15 57 (eG 16 58 (eG 17 59 (eG 18 60 (eG 19 61 (eG 20 62 (eG 21 63 (eG 22 64 (eG 23 65 (eG 24 66 (eG 25 67 (eG 26 68 (eG 27 69 (eG 28 70 (eV 29 71 (.bool true) (eD0 hs (fun w47 h48 hs=>tN (cTo [(1,pB b1),(16,.slice A ts.length cap),(17,nV ts.length),(18,nV k),(4,pB b10),(71,.bool true)] ?_))))))))))))))))))))))));exact cIT (cSL (lL hs [.v 2 (iV 5)] (lN (kX (hs.ret [] (iV 5) (chk_bad hi oM (fun ⟨f1,f2,f3,f4,f5⟩=>by first|exact absurd f1 aM|omega|(have:=f4 oM;omega)|(have:=f5 oM;omega)|(have:=hwd oM;have:=f5 oM;omega))))))))
    have phb18:=neOfBne hb18;exact lB 40 hb18 (lL hs [.v 41 (.bool true)] (lN (cIT (cSL (lL hs [.v 2 (iV 5)] (lN (kX (hs.ret [] (iV 5) (chk_bad hi oM (fun ⟨f1,f2,f3,f4,f5⟩=>by first|exact absurd f1 aM|omega|(have:=f4 oM;omega)|(have:=f5 oM;omega)|(have:=hwd oM;have:=f5 oM;omega)))))))))))
   have phb17:=oT hb17;refine lB 31 hb17 (lL hs [.v 32 (.bool true),.m 33 32] (lG 34 ?_));exact lG 35 (lG 36 (lG 37 (lG 38 (lG 39 (lG 40 (lL hs [.v 41 (.bool true)] (lN (cIT (cSL (lL hs [.v 2 (iV 5)] (lN (kX (hs.ret [] (iV 5) (chk_bad hi oM (fun ⟨f1,f2,f3,f4,f5⟩=>by first|exact absurd f1 aM|omega|(have:=f4 oM;omega)|(have:=f5 oM;omega)|(have:=hwd oM;have:=f5 oM;omega))))))))))))))))
  have phb5:=oT hb5;exact lB 13 hb5 (lL hs [.v 14 (.bool true)] (lN (cIT (cSL (lL hs [.v 2 (iV 5)] (lN (kX (hs.ret [] (iV 5) (chk_len oM)))))))))
 have phb4:=oT hb4;refine lB 8 hb4 (lL hs [.m 9 8] (lG 10 ?_));exact lG 11 (lG 12 (lG 13 (lL hs [.v 14 (.bool true)] (lN (cIT (cSL (lL hs [.v 2 (iV 5)] (lN (kX (hs.ret [] (iV 5) (chk_len oM)))))))))))
theorem rCheckG (A:Option Addr)(cap:Nat)(ts:List LV)(ls:List Lay)(hn:ls.length≤1000000)(hF:∀ i,i<ls.length→LayLen (ls.getD i lay0))(w:World)(h:Hp)(g:G w h)(hA:Sl A ts h)(hN:RNetL h ts ls):CV 69 #[.agg #[.slice A ts.length cap]] w h (iV (chkq ls)):=by
 have hs:=(((sS g).aS hA).aM hN);have hl:=(hs.f.1).len;refine go Tryz.func69 [(0,.agg #[.slice A ts.length cap])] rfl (cSL (lA 1 36 ([.slice A ts.length cap]) hs (fun b1 w2 h3 hs=>lL hs [.v 2 (iV 0)] (lN (cQ (cSL (lL hs [.v 6 (pB b1),.o 7 (.slice A ts.length cap) 0 0 1,.v 8 (nV ts.length)] ?_)))))));cases hb4:(decide ((ts.length:Int)<(1:Int)))
 ·
  have phb4:=oF hb4;refine lB 9 hb4 (lL hs [.m 10 9,.v 11 (pB b1),.o 12 (.slice A ts.length cap) 0 0 1,.v 13 (nV ts.length)] ?_);cases hb5:(decide ((4:Int)<(ts.length:Int)))
  ·
   have phb5:=oF hb5;refine lB 14 hb5 (lL hs [.v 15 (.bool false)] (lN (cIF (cK (cSL (lL hs [.v 3 (iV 0)] (lN (cQ (cSL (lL hs [.v 4 (iV 0)] (lN (kZ ?_))))))))))));refine cTo _ (CG.loop (fun μ_ Γ w_=>∃ (k:Nat) (wd:Nat) (h_:Hp),μ_=ls.length-k∧Γ=[(1,pB b1),(4,nV k),(3,nV wd)]∧SS w h w_ h_ [⟨b1,36,[.slice A ts.length cap]⟩] [] [Rn ts ls,Sl A ts]∧k≤ls.length∧(0<k→wd=(ls.getD (k-1) lay0).W.length)∧chkq ls=chkFrom ls k (ls.length-k)) _ ⟨0,0,h3,rfl,rfl,hs.to _ _,Nat.zero_le _,fun h_=>absurd h_ (Nat.lt_irrefl 0),chk_start oM⟩ ?_);rintro _ _ w6 ⟨k,wd,h7,hm8,rfl,hs,hk,hwd,hi⟩;refine cQ (cSL (lL hs [.m 16 4,.v 17 (pB b1),.o 18 (.slice A ts.length cap) 0 0 1,.v 19 (nV ts.length)] ?_));cases hb9:(decide ((k:Int)<(ts.length:Int)))
   ·
    have phb9:=oF hb9;refine lB 20 hb9 (lN (cIF (CG.exit ?_)))
    show CG _ _ _ _ _ _ _ _
    exact cSL (lL hs [.v 2 (iV 0)] (lN (kX (hs.ret [] (iV 0) (chk_end hi oM)))))
   have phb9:=oT hb9;refine lB 20 hb9 (lN (cIT (cK (cQ (kZ (cSL (lL hs [.v 23 (pB b1),.o 24 (.slice A ts.length cap) 0 0 1,.m 25 4] (lX 26 A ts.length cap 3 (k:Nat) k ((hs.f.2.1).ok oM) ?_))))))));obtain ⟨ekx,⟨AWx,cWx,usx,eWx,hcWx,hAWx,hTWx⟩,⟨ABx,cBx,rsx,eBx,hcBx,hABx,hTBx⟩⟩:=(hs.f.1).at_ k oM;replace hs:=((((hs.aS hAWx).aV hTWx).aS hABx).aT hTBx);refine lHe 27 (.agg #[iV ((ts.getD k lvd).1),(ts.getD k lvd).2.1,(ts.getD k lvd).2.2]) hs ((hs.f.q.2.1).el k oM) (by rw[ekx,eWx,eBx]) ?_;have lux:=(hs.f.r.1).len;have lbx2:=(hs.f.1).len;refine lA 5 121 ([iV 0,sZ,sZ]) hs (fun b10 w11 h12 hs=>lP 0 0 ([iV ((ls.getD k lay0).k),.slice AWx usx.length cWx,.slice ABx rsx.length cBx]) hs (fun w13 hs=>lN (cQ (cSL (lL hs [.v 28 (.pointer (some ⟨b10,1,none⟩)),.o 29 (.slice AWx usx.length cWx) 0 1 1] (lC 30 hs (rRightG AWx cWx usx (ls.getD k lay0).W (hF k oM).rl (hF k oM).rls _ _ hs.g hs.f.r.2.1 hs.f.r.1) ?_))))));rintro _ w14 h15 hs rfl;cases hb16:(rightq (ls.getD k lay0).W)
   ·
    have phb16:=rq_not hb16;refine lL hs [.v 31 (.bool true),.m 32 31] (lG 33 ?_);refine lG 34 (lG 35 (lG 36 (lL hs [.v 37 (.bool true),.m 38 37] (lG 39 ?_))));refine lG 40 (lG 41 (lG 42 (lG 43 (lG 44 (lG 45 (lG 46 (lG 47 (lG 48 (lL hs [.v 49 (.bool true),.m 50 49] (lG 51 ?_))))))))));refine lG 52 (lG 53 (lG 54 (lG 55 (lG 56 (lG 57 (lG 58 (lG 59 (lG 60 (lG 61 (lL hs [.v 62 (.bool true),.m 63 62] (lG 64 ?_)))))))))));refine lG 65 (lG 66 (lG 67 (lG 68 (lG 69 (lG 70 (lL hs [.v 71 (.bool true)] (lN (cTo [(1,pB b1),(4,nV k),(3,nV wd),(5,pB b10),(71,.bool true)] ?_))))))));exact cIT (cSL (lL hs [.v 2 (iV 5)] (lN (kX (hs.ret [] (iV 5) (chk_bad hi oM (fun ⟨f1,f2,f3,f4,f5⟩=>by first|exact absurd f1 aM|omega|(have:=f4 oM;omega)|(have:=f5 oM;omega)|(have:=hwd oM;have:=f5 oM;omega))))))))
   have phb16:=rq_is hb16;refine lL hs [.v 31 (.bool false),.m 32 31] ?_;obtain ⟨hr1,hr2,hr3⟩:=‹RightP (ls.getD k lay0).W›;refine lL hs [.v 33 (.pointer (some ⟨b10,1,none⟩)),.o 34 (.slice AWx usx.length cWx) 0 1 1,.v 35 (nV usx.length)] ?_;cases hb17:(decide ((12:Int)<(usx.length:Int)))
   ·
    have phb17:=oF hb17;refine lB 36 hb17 (lL hs [.v 37 (.bool false),.m 38 37,.m 39 4] ?_);cases hb18:((k:Int) == (0:Int))
    ·
     have phb18:=neOfBeq hb18;refine lB 40 hb18 (lL hs [.m 41 40] (lG 42 ?_));refine lG 43 (lG 44 (lG 45 (lG 46 (lG 47 (lL hs [.v 48 (.bool false),.v 49 (.bool false),.m 50 49,.m 51 4] ?_)))));cases hb19:(decide ((0:Int)<(k:Int)))
     ·
      have phb19:=oF hb19;refine lB 52 hb19 (lL hs [.m 53 52] (lG 54 ?_));refine lG 55 (lG 56 (lG 57 (lG 58 (lG 59 (lG 60 (lL hs [.v 61 (.bool false),.v 62 (.bool false),.m 63 62,.v 64 (.pointer (some ⟨b10,2,none⟩)),.o 65 (.slice ABx rsx.length cBx) 0 2 1,.v 66 (nV rsx.length),.v 67 (.pointer (some ⟨b10,1,none⟩)),.o 68 (.slice AWx usx.length cWx) 0 1 1,.v 69 (nV usx.length)] ?_))))));cases hb20:((rsx.length:Int) != (usx.length:Int))
      ·
       have phb20:=eqOfBne hb20;refine lB 70 hb20 (lL hs [.v 71 (.bool false)] (lN (cTo [(1,pB b1),(4,nV k),(3,nV wd),(5,pB b10),(71,.bool false)] ?_)));refine cIF (cK (cQ (cSL (lL hs [.v 72 (pB b10),.o 73 (iV ((ls.getD k lay0).k)) 0 0 1] ?_))));cases hb21:(decide (((ls.getD k lay0).k:Int)<(1:Int)))
       ·
        have phb21:=oF hb21;refine lB 74 hb21 (lL hs [.m 75 74,.v 76 (pB b10),.o 77 (iV ((ls.getD k lay0).k)) 0 0 1] ?_);cases hb22:(decide ((3:Int)<((ls.getD k lay0).k:Int)))
        ·
         have phb22:=oF hb22;refine lB 78 hb22 (lL hs [.v 79 (.bool false)] (lN (cIF (cK (kQ (lL hs [.v 80 (.pointer (some ⟨b10,1,none⟩)),.o 81 (.slice AWx usx.length cWx) 0 1 1,.v 82 (nV usx.length),.m 3 82] (lN (kQ (lL hs [.m 21 4] (lIn 22 ((k:Nat)+1) (k+1) ?_))))))))));refine lL hs [.m 4 22] (lD ?_);intro a_ ka;replace hs:=hs.tl.tl.tl.tl;replace hs:=hs.drop 1 0;refine ⟨_,_,?_,⟨k+1,usx.length,h15,rfl,rfl,hs.to _ _,oM,(fun _=>by rw[Nat.add_sub_cancel];omega),(chk_step hi oM ⟨‹RightP _›,by omega,by omega,fun _=>by omega,fun h_=>by have:=hwd h_;omega⟩ (show 1≤_∧_≤3 by omega))⟩,ka.to _ kR⟩
         omega
        have phb22:=oT hb22;exact lB 78 hb22 (lL hs [.v 79 (.bool true)] (lN (cIT (cSL (lL hs [.v 2 (iV 10)] (lN (kX (hs.ret [] (iV 10) (chk_kind hi oM (⟨‹RightP _›,by omega,by omega,fun _=>by omega,fun h_=>by first|omega|(have:=hwd h_;omega)⟩) (by first|assumption|(intro h_;have h1_:=h_.1;have h2_:=h_.2;omega)))))))))))
       have phb21:=oT hb21;refine lB 74 hb21 (lL hs [.m 75 74] (lG 76 ?_));exact lG 77 (lG 78 (lL hs [.v 79 (.bool true)] (lN (cIT (cSL (lL hs [.v 2 (iV 10)] (lN (kX (hs.ret [] (iV 10) (chk_kind hi oM (⟨‹RightP _›,by omega,by omega,fun _=>by omega,fun h_=>by first|omega|(have:=hwd h_;omega)⟩) (by first|assumption|(intro h_;have h1_:=h_.1;have h2_:=h_.2;omega))))))))))))
      have phb20:=neOfBne hb20;refine lB 70 hb20 (lL hs [.v 71 (.bool true)] (lN (cTo [(1,pB b1),(4,nV k),(3,nV wd),(5,pB b10),(71,.bool true)] ?_)));exact cIT (cSL (lL hs [.v 2 (iV 5)] (lN (kX (hs.ret [] (iV 5) (chk_bad hi oM (fun ⟨f1,f2,f3,f4,f5⟩=>by first|exact absurd f1 aM|omega|(have:=f4 oM;omega)|(have:=f5 oM;omega)|(have:=hwd oM;have:=f5 oM;omega))))))))
     have phb19:=oT hb19;refine lB 52 hb19 (lL hs [.m 53 52,.v 54 (.pointer (some ⟨b10,1,none⟩)),.o 55 (.slice AWx usx.length cWx) 0 1 1] (lX 56 AWx usx.length cWx 1 0 0 ((hs.f.r.2.1).ok oM) ?_));obtain ⟨Arq,crq,trq,erq,hcrq,hRrq,hTrq⟩:=(hs.f.r.1).at_ 0 oM;have hlrq:=hTrq.len;replace hs:=((hs.aS hRrq).aT hTrq);refine lHe 57 (usx.getD 0 undef) hs ((hs.f.q.2.1).el 0 oM) erq (lL hs [.v 58 (nV trq.length),.m 59 3] ?_);cases hb26:((trq.length:Int) != (wd:Int))
     ·
      have phb26:=eqOfBne hb26;refine lB 60 hb26 (lL hs [.v 61 (.bool false),.v 62 (.bool false),.m 63 62,.v 64 (.pointer (some ⟨b10,2,none⟩)),.o 65 (.slice ABx rsx.length cBx) 0 2 1,.v 66 (nV rsx.length),.v 67 (.pointer (some ⟨b10,1,none⟩)),.o 68 (.slice AWx usx.length cWx) 0 1 1,.v 69 (nV usx.length)] ?_);cases hb27:((rsx.length:Int) != (usx.length:Int))
      ·
       have phb27:=eqOfBne hb27;refine lB 70 hb27 (lL hs [.v 71 (.bool false)] (lN (cTo [(1,pB b1),(4,nV k),(3,nV wd),(5,pB b10),(71,.bool false)] ?_)));refine cIF (cK (cQ (cSL (lL hs [.v 72 (pB b10),.o 73 (iV ((ls.getD k lay0).k)) 0 0 1] ?_))));cases hb28:(decide (((ls.getD k lay0).k:Int)<(1:Int)))
       ·
        have phb28:=oF hb28;refine lB 74 hb28 (lL hs [.m 75 74,.v 76 (pB b10),.o 77 (iV ((ls.getD k lay0).k)) 0 0 1] ?_);cases hb29:(decide ((3:Int)<((ls.getD k lay0).k:Int)))
        ·
         have phb29:=oF hb29;refine lB 78 hb29 (lL hs [.v 79 (.bool false)] (lN (cIF (cK (kQ (lL hs [.v 80 (.pointer (some ⟨b10,1,none⟩)),.o 81 (.slice AWx usx.length cWx) 0 1 1,.v 82 (nV usx.length),.m 3 82] (lN (kQ (lL hs [.m 21 4] (lIn 22 ((k:Nat)+1) (k+1) ?_))))))))));refine lL hs [.m 4 22] (lD ?_);intro a_ ka;replace hs:=hs.tl.tl.tl.tl.tl.tl;replace hs:=hs.drop 1 0;refine ⟨_,_,?_,⟨k+1,usx.length,h15,rfl,rfl,hs.to _ _,oM,(fun _=>by rw[Nat.add_sub_cancel];omega),(chk_step hi oM ⟨‹RightP _›,by omega,by omega,fun _=>by omega,fun h_=>by have:=hwd h_;omega⟩ (show 1≤_∧_≤3 by omega))⟩,ka.to _ kR⟩
         omega
        have phb29:=oT hb29;exact lB 78 hb29 (lL hs [.v 79 (.bool true)] (lN (cIT (cSL (lL hs [.v 2 (iV 10)] (lN (kX (hs.ret [] (iV 10) (chk_kind hi oM (⟨‹RightP _›,by omega,by omega,fun _=>by omega,fun h_=>by first|omega|(have:=hwd h_;omega)⟩) (by first|assumption|(intro h_;have h1_:=h_.1;have h2_:=h_.2;omega)))))))))))
       have phb28:=oT hb28;refine lB 74 hb28 (lL hs [.m 75 74] (lG 76 ?_));exact lG 77 (lG 78 (lL hs [.v 79 (.bool true)] (lN (cIT (cSL (lL hs [.v 2 (iV 10)] (lN (kX (hs.ret [] (iV 10) (chk_kind hi oM (⟨‹RightP _›,by omega,by omega,fun _=>by omega,fun h_=>by first|omega|(have:=hwd h_;omega)⟩) (by first|assumption|(intro h_;have h1_:=h_.1;have h2_:=h_.2;omega))))))))))))
      have phb27:=neOfBne hb27;refine lB 70 hb27 (lL hs [.v 71 (.bool true)] (lN (cTo [(1,pB b1),(4,nV k),(3,nV wd),(5,pB b10),(71,.bool true)] ?_)));exact cIT (cSL (lL hs [.v 2 (iV 5)] (lN (kX (hs.ret [] (iV 5) (chk_bad hi oM (fun ⟨f1,f2,f3,f4,f5⟩=>by first|exact absurd f1 aM|omega|(have:=f4 oM;omega)|(have:=f5 oM;omega)|(have:=hwd oM;have:=f5 oM;omega))))))))
     have phb26:=neOfBne hb26;refine lB 60 hb26 (lL hs [.v 61 (.bool true),.v 62 (.bool true),.m 63 62] (lG 64 ?_));refine lG 65 (lG 66 (lG 67 (lG 68 (lG 69 (lG 70 (lL hs [.v 71 (.bool true)] (lN (cTo [(1,pB b1),(4,nV k),(3,nV wd),(5,pB b10),(71,.bool true)] ?_))))))));exact cIT (cSL (lL hs [.v 2 (iV 5)] (lN (kX (hs.ret [] (iV 5) (chk_bad hi oM (fun ⟨f1,f2,f3,f4,f5⟩=>by first|exact absurd f1 aM|omega|(have:=f4 oM;omega)|(have:=f5 oM;omega)|(have:=hwd oM;have:=f5 oM;omega))))))))
    have phb18:=eq_of_beq hb18;refine lB 40 hb18 (lL hs [.m 41 40,.v 42 (.pointer (some ⟨b10,1,none⟩)),.o 43 (.slice AWx usx.length cWx) 0 1 1] (lX 44 AWx usx.length cWx 1 0 0 ((hs.f.r.2.1).ok oM) ?_));obtain ⟨Arp,crp,trp,erp,hcrp,hRrp,hTrp⟩:=(hs.f.r.1).at_ 0 oM;have hlrp:=hTrp.len;replace hs:=((hs.aS hRrp).aT hTrp);refine lHe 45 (usx.getD 0 undef) hs ((hs.f.q.2.1).el 0 oM) erp (lL hs [.v 46 (nV trp.length)] ?_);cases hb33:(decide ((20:Int)<(trp.length:Int)))
    ·
     have phb33:=oF hb33;refine lB 47 hb33 (lL hs [.v 48 (.bool false),.v 49 (.bool false),.m 50 49,.m 51 4] ?_);have ⟨hb34,phb34⟩:=dF (p:=(0:Int)<(k:Int)) oM;refine lB 52 hb34 (lL hs [.m 53 52] (lG 54 ?_));refine lG 55 (lG 56 (lG 57 (lG 58 (lG 59 (lG 60 (lL hs [.v 61 (.bool false),.v 62 (.bool false),.m 63 62,.v 64 (.pointer (some ⟨b10,2,none⟩)),.o 65 (.slice ABx rsx.length cBx) 0 2 1,.v 66 (nV rsx.length),.v 67 (.pointer (some ⟨b10,1,none⟩)),.o 68 (.slice AWx usx.length cWx) 0 1 1,.v 69 (nV usx.length)] ?_))))));cases hb35:((rsx.length:Int) != (usx.length:Int))
     ·
      have phb35:=eqOfBne hb35;refine lB 70 hb35 (lL hs [.v 71 (.bool false)] (lN (cTo [(1,pB b1),(4,nV k),(3,nV wd),(5,pB b10),(71,.bool false)] ?_)));refine cIF (cK (cQ (cSL (lL hs [.v 72 (pB b10),.o 73 (iV ((ls.getD k lay0).k)) 0 0 1] ?_))));cases hb36:(decide (((ls.getD k lay0).k:Int)<(1:Int)))
      ·
       have phb36:=oF hb36;refine lB 74 hb36 (lL hs [.m 75 74,.v 76 (pB b10),.o 77 (iV ((ls.getD k lay0).k)) 0 0 1] ?_);cases hb37:(decide ((3:Int)<((ls.getD k lay0).k:Int)))
       ·
        have phb37:=oF hb37;refine lB 78 hb37 (lL hs [.v 79 (.bool false)] (lN (cIF (cK (kQ (lL hs [.v 80 (.pointer (some ⟨b10,1,none⟩)),.o 81 (.slice AWx usx.length cWx) 0 1 1,.v 82 (nV usx.length),.m 3 82] (lN (kQ (lL hs [.m 21 4] (lIn 22 ((k:Nat)+1) (k+1) ?_))))))))));refine lL hs [.m 4 22] (lD ?_);intro a_ ka;replace hs:=hs.tl.tl.tl.tl.tl.tl;replace hs:=hs.drop 1 0;refine ⟨_,_,?_,⟨k+1,usx.length,h15,rfl,rfl,hs.to _ _,oM,(fun _=>by rw[Nat.add_sub_cancel];omega),(chk_step hi oM ⟨‹RightP _›,by omega,by omega,fun _=>by omega,fun h_=>by have:=hwd h_;omega⟩ (show 1≤_∧_≤3 by omega))⟩,ka.to _ kR⟩
        omega
       have phb37:=oT hb37;exact lB 78 hb37 (lL hs [.v 79 (.bool true)] (lN (cIT (cSL (lL hs [.v 2 (iV 10)] (lN (kX (hs.ret [] (iV 10) (chk_kind hi oM (⟨‹RightP _›,by omega,by omega,fun _=>by omega,fun h_=>by first|omega|(have:=hwd h_;omega)⟩) (by first|assumption|(intro h_;have h1_:=h_.1;have h2_:=h_.2;omega)))))))))))
      have phb36:=oT hb36;refine lB 74 hb36 (lL hs [.m 75 74] (lG 76 ?_));exact lG 77 (lG 78 (lL hs [.v 79 (.bool true)] (lN (cIT (cSL (lL hs [.v 2 (iV 10)] (lN (kX (hs.ret [] (iV 10) (chk_kind hi oM (⟨‹RightP _›,by omega,by omega,fun _=>by omega,fun h_=>by first|omega|(have:=hwd h_;omega)⟩) (by first|assumption|(intro h_;have h1_:=h_.1;have h2_:=h_.2;omega))))))))))))
     have phb35:=neOfBne hb35;refine lB 70 hb35 (lL hs [.v 71 (.bool true)] (lN (cTo [(1,pB b1),(4,nV k),(3,nV wd),(5,pB b10),(71,.bool true)] ?_)));exact cIT (cSL (lL hs [.v 2 (iV 5)] (lN (kX (hs.ret [] (iV 5) (chk_bad hi oM (fun ⟨f1,f2,f3,f4,f5⟩=>by first|exact absurd f1 aM|omega|(have:=f4 oM;omega)|(have:=f5 oM;omega)|(have:=hwd oM;have:=f5 oM;omega))))))))
    have phb33:=oT hb33;refine lB 47 hb33 (lL hs [.v 48 (.bool true),.v 49 (.bool true),.m 50 49] (lG 51 ?_));refine lG 52 (lG 53 (lG 54 (lG 55 (lG 56 (lG 57 (lG 58 (lG 59 (lG 60 (lG 61 (lL hs [.v 62 (.bool true),.m 63 62] (lG 64 ?_)))))))))));refine lG 65 (lG 66 (lG 67 (lG 68 (lG 69 (lG 70 (lL hs [.v 71 (.bool true)] (lN (cTo [(1,pB b1),(4,nV k),(3,nV wd),(5,pB b10),(71,.bool true)] ?_))))))));exact cIT (cSL (lL hs [.v 2 (iV 5)] (lN (kX (hs.ret [] (iV 5) (chk_bad hi oM (fun ⟨f1,f2,f3,f4,f5⟩=>by first|exact absurd f1 aM|omega|(have:=f4 oM;omega)|(have:=f5 oM;omega)|(have:=hwd oM;have:=f5 oM;omega))))))))
   have phb17:=oT hb17;refine lB 36 hb17 (lL hs [.v 37 (.bool true),.m 38 37] (lG 39 ?_));refine lG 40 (lG 41 (lG 42 (lG 43 (lG 44 (lG 45 (lG 46 (lG 47 (lG 48 (lL hs [.v 49 (.bool true),.m 50 49] (lG 51 ?_))))))))));refine lG 52 (lG 53 (lG 54 (lG 55 (lG 56 (lG 57 (lG 58 (lG 59 (lG 60 (lG 61 (lL hs [.v 62 (.bool true),.m 63 62] (lG 64 ?_)))))))))));refine lG 65 (lG 66 (lG 67 (lG 68 (lG 69 (lG 70 (lL hs [.v 71 (.bool true)] (lN (cTo [(1,pB b1),(4,nV k),(3,nV wd),(5,pB b10),(71,.bool true)] ?_))))))));exact cIT (cSL (lL hs [.v 2 (iV 5)] (lN (kX (hs.ret [] (iV 5) (chk_bad hi oM (fun ⟨f1,f2,f3,f4,f5⟩=>by first|exact absurd f1 aM|omega|(have:=f4 oM;omega)|(have:=f5 oM;omega)|(have:=hwd oM;have:=f5 oM;omega))))))))
  have phb5:=oT hb5;exact lB 14 hb5 (lL hs [.v 15 (.bool true)] (lN (cIT (cSL (lL hs [.v 2 (iV 5)] (lN (kX (hs.ret [] (iV 5) (chk_len oM)))))))))
 have phb4:=oT hb4;refine lB 9 hb4 (lL hs [.m 10 9] (lG 11 ?_));exact lG 12 (lG 13 (lG 14 (lL hs [.v 15 (.bool true)] (lN (cIT (cSL (lL hs [.v 2 (iV 5)] (lN (kX (hs.ret [] (iV 5) (chk_len oM)))))))))))
structure Mat (W:List (List Rat)) (r c:Nat):Prop where
  rows:W.length=r
  rpos:0<r
  cpos:0<c
  row:∀ i,i<r→(W.getD i []).length=c
structure Net3 (ls:List Lay) (d:Nat→Nat):Prop where
  len:1≤ls.length∧ls.length≤4
  first:d 0≤20
  lay:∀ i,i<ls.length→Mat (ls.getD i lay0).W (d (i+1)) (d i)∧(ls.getD i lay0).B.length=d (i+1)∧d (i+1)≤12∧((ls.getD i lay0).k=1∨(ls.getD i lay0).k=2∨(ls.getD i lay0).k=3)
theorem Net3.small {ls:List Lay}{d:Nat→Nat}(o:Net3 ls d)(i:Nat)(h:i<ls.length):d i≤20:=by
  cases i with
  | zero=>exact o.first
  | succ i=>have:=(o.lay i oM).2.2.1;omega
theorem one_abs_pos (u:Rat):0<((1:Int):Rat)+qabs u:=by
  have h:(0:Rat)≤qabs u:=by rw[←Rat.num_nonneg,qabs_num];omega
  have h1:(0:Rat)<((1:Int):Rat):=by decide
  grind
theorem one_abs_ne (u:Rat):(((1:Int):Rat)+qabs u).num≠0:=by
  have:=one_abs_pos u;intro e;have e2:((1:Int):Rat)+qabs u=0:=by rw[←Rat.num_eq_zero];exact e
  rw[e2] at this;exact absurd this kD
def act (k:Int)(u:Rat):Rat:=if k=2 then maxR u 0 else if k=3 then u/(((1:Int):Rat)+qabs u) else u
theorem LQ.act {m:Nat}{u:Rat}(k:Int)(h:LQ m u)(hm:0<m):LQ (2*m+2) (act k u):=by
  unfold Go.Proofs.YticblaklfnadoaaGreatDoor.act
  split
  · exact (LQ.maxR h ((LQ.lit (z:=0) kD).mono oM)).mono oM
  · split
    · exact (h.div ((LQ.lit (z:=1) kD).add h.abs)).mono oM
    · exact h.mono oM
def layq (L:Lay)(x:List Rat):List Rat:=(List.range L.W.length).map fun i=>act L.k (dotq (L.W.getD i []) x x.length+L.B.getD i 0)
def outq (ls:List Lay)(xs:List Rat):Nat→List Rat
  | 0=>xs
  | k+1=>layq (ls.getD k lay0) (outq ls xs k)
abbrev gD (ls:List Lay)(xs:List Rat)(k r:Nat):Rat:=dotq ((ls.getD k lay0).W.getD r []) (outq ls xs k) (outq ls xs k).length
abbrev gS (ls:List Lay)(xs:List Rat)(k r:Nat):Rat:=gD ls xs k r+((ls.getD k lay0).B).getD r 0
theorem outq_len {ls:List Lay}{d:Nat→Nat}(o:Net3 ls d){xs:List Rat}(hx:xs.length=d 0)(k:Nat)(hk:k≤ls.length):(outq ls xs k).length=d k:=by
  cases k with
  | zero=>exact hx
  | succ k=>show (layq _ _).length=_;unfold layq;rw[List.length_map,List.length_range];exact (o.lay k oM).1.rows
structure NetB (ls:List Lay) (xs:List Rat):Prop where
  w:∀ k i j,LQ 1000000 (((ls.getD k lay0).W.getD i []).getD j 0)
  b:∀ k i,LQ 1000000 ((ls.getD k lay0).B.getD i 0)
  x:∀ k,k≤ls.length→∀ j,LQ 1000000 ((outq ls xs k).getD j 0)
theorem getD_set_self {l:List Rat}{i:Nat}{x:Rat}(h:i<l.length):(l.set i x).getD i 0=x:=by
  rw[List.getD_eq_getElem?_getD,List.getElem?_set_self h];rfl
theorem fstep {pl:List Rat}{f:Nat→Rat}{i:Nat}{x:Rat}(hp:∀ j,j<i→pl.getD j 0=f j)(hi:i<pl.length)(hx:x=f i):∀ j,j<i+1→(pl.set i x).getD j 0=f j:=by
  intro j hj
  by_cases e:j=i
  · subst e;rw[getD_set_self hi,hx]
  · rw[List.getD_eq_getElem?_getD,List.getElem?_set_ne (Ne.symm e),←List.getD_eq_getElem?_getD];exact hp j oM
theorem dot_b1 {n:Nat}(h:n≤20):n*(1000000+1000000+1)+1000000+1000000+2≤100000000:=by rw[Nat.mul_comm n];omega
theorem dot_b2 {n:Nat}(h:n≤20):n*(1000000+1000000+1)+1≤41000000:=by rw[Nat.mul_comm n];omega
theorem map_of {pl:List Rat}{f:Nat→Rat}{i n:Nat}(hp:∀ j,j<i→pl.getD j 0=f j)(hi:i=n)(hl:pl.length=n):pl=(List.range n).map f:=by
  subst hi;refine List.ext_getElem (by simp[hl]) (fun j h1 h2=>?_);have:=hp j oM;rw[List.getD_eq_getElem?_getD,List.getElem?_eq_getElem h1] at this
  simp only[List.getElem_map,List.getElem_range]
  exact this
def sumq (L:Lay)(x:List Rat):List Rat:=(List.range L.W.length).map fun i=>dotq (L.W.getD i []) x x.length+L.B.getD i 0
def insq (ls:List Lay)(xs:List Rat)(n:Nat):List (List Rat):=(List.range n).map (outq ls xs)
def sumsq (ls:List Lay)(xs:List Rat)(n:Nat):List (List Rat):=(List.range n).map fun k=>sumq (ls.getD k lay0) (outq ls xs k)
theorem insq_succ (ls:List Lay)(xs:List Rat)(n:Nat):insq ls xs (n+1)=insq ls xs n++[outq ls xs n]:=by unfold insq;rw[List.range_succ,List.map_append];rfl
theorem sumsq_succ (ls:List Lay)(xs:List Rat)(n:Nat):sumsq ls xs (n+1)=sumsq ls xs n++[sumq (ls.getD n lay0) (outq ls xs n)]:=by unfold sumsq;rw[List.range_succ,List.map_append];rfl
theorem fDotN (A:Option Addr)(ca:Nat)(a:List Rat)(D:Option Addr)(cd:Nat)(b:List Rat)(n m1 m2:Nat)(h1:a.length=m1)(h2:b.length=m2)(e1:m1=n)(e2:m2=n)(K L:Nat)(hn:n≤1000000)(hb:n*(K+L+1)+K+L+2≤100000000)(ha:∀ i,LQ K (a.getD i 0))(hbb:∀ i,LQ L (b.getD i 0))(w:World)(h:Hp)(g:G w h)(hA:Sq A a h)(hD:Sq D b h)(tb:Tab h):CV 127 #[.slice A m1 ca,.slice D m2 cd] w h (.tuple #[qv (dotq a b n),.bool true]):=by
  subst h1 h2 e1;exact fDot A ca a D cd b K L e2.symm hn hb (fun i _=>ha i) (fun i _=>hbb i) w h g hA hD tb
theorem nAct1 (u:Rat)(w:World)(h:Hp)(g:G w h):CV 128 #[iV 1,qv u] w h (qv u):=by
 have hs:=sS g;exact go Tryz.func128 [(0,iV 1),(1,qv u)] rfl (cSL (lA 3 73 (qc u) hs (fun b1 w2 h3 hs=>lA 4 73 ([.bool false,uV 0,eS,uV 0,eS]) hs (fun b4 w5 h6 hs=>lN (cQ (cSL (lL hs [.m 7 0] (lN (kZ (cSL (lL hs [.v 9 (.bool false),.m 8 9] (lN (cIF (cSL (lL hs [.v 14 (.bool false),.m 13 14] (lN (cIF (cK (cSL (lL hs [.o 25 (qv u) 1 0 5] (lP 0 0 (qc u) hs (fun w7 hs=>lN (kX (hs.ret [(0,0,5)] (qv u) rfl))))))))))))))))))))))))
theorem nAct2 (u:Rat)(hu:LQ 45000000 u)(w:World)(h:Hp)(g:G w h):CV 128 #[iV 2,qv u] w h (qv (maxR u 0)):=by
 have hs:=sS g;refine go Tryz.func128 [(0,iV 2),(1,qv u)] rfl (cSL (lA 3 73 (qc u) hs (fun b1 w2 h3 hs=>lA 4 73 ([.bool false,uV 0,eS,uV 0,eS]) hs (fun b4 w5 h6 hs=>lN (cQ (cSL (lL hs [.m 7 0] (lN (kZ (cSL (lL hs [.v 9 (.bool true),.m 8 9] (lN (cIT (cSL (lL hs [.o 10 (qv u) 1 0 5,.v 11 (qv 0)] (lC 12 hs (fMax u 0 (LQ.mono hu oM) (LQ.mono (LQ.lit (z:=0) kD) oM) _ _ hs.g) ?_))))))))))))))));rintro _ w7 h8 hs rfl;exact lP 0 0 (qc (maxR u 0)) hs (fun w9 hs=>lN (kX (hs.ret [(0,0,5)] (qv (maxR u 0)) rfl)))
theorem nAct3 (u:Rat)(hu:LQ 45000000 u)(w:World)(h:Hp)(g:G w h)(tb:Tab h):CV 128 #[iV 3,qv u] w h (qv (u/(((1:Int):Rat)+qabs u))):=by
 have hs:=((sS g).aB tb);refine go Tryz.func128 [(0,iV 3),(1,qv u)] rfl (cSL (lA 3 73 (qc u) hs (fun b1 w2 h3 hs=>lA 4 73 ([.bool false,uV 0,eS,uV 0,eS]) hs (fun b4 w5 h6 hs=>lN (cQ (cSL (lL hs [.m 7 0] (lN (kZ (cSL (lL hs [.v 9 (.bool false),.m 8 9] (lN (cIF (cSL (lL hs [.v 14 (.bool true),.m 13 14] (lN (cIT (cQ ?_))))))))))))))))));have hsr:=hs;refine cR 10 [⟨9,5,.cells (List.toArray [.bool false,uV 0,eS,uV 0,eS]) 73 (0,0)⟩] mixed hs (al_cons (alOk kR (fun _ _=>by kernel_rfl)) al_nil) (eO 0 16 [(1,0,5)] (qv u) hs (eO 2 18 [(1,0,5)] (qv u) hs (eC 1 17 hs (fun _ _ hs=>fOf 1 oM oM _ _ hs.g) ?_)));rintro _ _ _ w7 h8 hs rfl;have hq9:LQ (45000000) (qabs u):=LQ.abs hu;refine eC 3 19 hs (fun _ _ hs=>fAbs u (LQ.mono hu oM) _ _ hs.g) ?_;rintro _ _ _ w10 h11 hs rfl;have hq12:=LQ.add (LQ.lit (z:=1) kD) hq9;refine eC 4 20 hs (fun _ _ hs=>fAdd ((1:Int):Rat) (qabs u) (LQ.mono (LQ.lit (z:=1) kD) oM) (LQ.mono hq9 oM) _ _ hs.g hs.f.1) ?_;rintro _ _ _ w13 h14 hs rfl;have hq15:=LQ.div hu hq12;refine eC 5 21 hs (fun _ _ hs=>fDivN u (((1:Int):Rat)+(qabs u)) (LQ.mono hu oM) (LQ.mono hq12 oM) (one_abs_ne u) _ _ hs.g hs.f.1) ?_;rintro _ _ _ w16 h17 hs rfl;exact eV 6 15 (.tuple #[qv (u/(((1:Int):Rat)+(qabs u))),.bool true]) (eV 7 22 (qv (u/(((1:Int):Rat)+(qabs u)))) (eV 8 23 (.bool true) (eD1p [] hsr hs 73 [.bool false,uV 0,eS,uV 0,eS] (fun w18 h19 b20 hs=>tP 10 0 0 (qc (u/(((1:Int):Rat)+(qabs u)))) hs (fun w21 hs=>tV 11 6 (.bool true) (tNS (lL hs [.o 24 (qv (u/(((1:Int):Rat)+(qabs u)))) 0 0 5] (lP 1 0 (qc (u/(((1:Int):Rat)+(qabs u)))) hs (fun w22 hs=>lN (kX (hs.ret [(1,0,5)] (qv (u/(((1:Int):Rat)+(qabs u)))) rfl)))))))))))
theorem nAct (k:Int)(hk:k=1∨k=2∨k=3)(u:Rat)(hu:LQ 45000000 u)(w:World)(h:Hp)(g:G w h)(tb:Tab h):CV 128 #[iV k,qv u] w h (qv (act k u)):=by
  rcases hk with rfl|rfl|rfl
  · exact nAct1 u w h g
  · exact nAct2 u hu w h g
  · exact nAct3 u hu w h g tb
theorem nSuitsT (A:Option Addr)(cap:Nat)(ts:List LV)(ls:List Lay)(d:Nat→Nat)(hO:Net3 ls d)(X:Option Addr)(c0:Nat)(xs:List Rat)(hx:xs.length=d 0)(w:World)(h:Hp)(g:G w h)(hA:Sl A ts h)(hN:NetL h ts ls)(hX:Sq X xs h):CV 79 #[.agg #[.slice A ts.length cap],.slice X xs.length c0] w h (.bool true):=by
 have hs:=((((sS g).aS hA).aN hN).aS hX);have hl:=(hs.f.2.1).len;obtain ⟨o1,o2⟩:=hO.len;have o3:=hO.first;refine go Tryz.func79 [(0,.agg #[.slice A ts.length cap]),(1,.slice X xs.length c0)] rfl (cSL (lA 2 28 ([.slice A ts.length cap]) hs (fun b1 w2 h3 hs=>lL hs [.v 4 (.bool false)] (lNS (lL hs [.m 5 1,.v 6 (nV xs.length),.v 7 (pB b1),.o 8 (.slice A ts.length cap) 0 0 1] (lX 9 A ts.length cap 3 0 0 ((hs.f.r.1).ok oM) ?_))))));refine lL hs [.v 10 (.pointer (some ⟨(aB A),aO A+0*3+1,none⟩))] ?_;obtain ⟨ekx,⟨AWx,cWx,usx,eWx,hcWx,hAWx,hUx⟩,⟨ABx,cBx,eBx,hcBx,hABx⟩⟩:=(hs.f.2.1).at_ 0 oM;obtain ⟨mtx,lbx,r12x,kdx⟩:=hO.lay 0 oM;have lux:=hUx.len;have mrx:=mtx.rows;have mpx:=mtx.rpos;have mcx:=mtx.cpos;have m0x:=mtx.row 0 oM;replace hs:=(((hs.aS hAWx).aQ hUx).aS hABx);refine lHe 11 ((ts.getD 0 lvd).2.1) hs (((hs.f.q.2.1).el 0 oM).part 1 1) eWx (lX 12 AWx usx.length cWx 1 0 0 ((hs.f.r.1).ok oM) ?_);obtain ⟨Arp,crp,erp,hcrp,hRrp⟩:=(hs.f.2.1).at_ 0 oM;replace hs:=hs.aS hRrp;refine lHe 13 (usx.getD 0 undef) hs ((hs.f.r.2.1).el 0 oM) erp (lL hs [.v 14 (nV ((((ls.getD 0 lay0).W).getD 0 []).length))] ?_);have hb4:((xs.length:Int) == (((((ls.getD 0 lay0).W).getD 0 []).length:Nat):Int))=true:=beqT oM;have phb4:=eq_of_beq hb4;exact lB 15 hb4 (lL hs [.m 4 15] (lN (kX (hs.ret [] (.bool true) rfl))))
theorem nSuitsF (A:Option Addr)(cap:Nat)(ts:List LV)(ls:List Lay)(d:Nat→Nat)(hO:Net3 ls d)(X:Option Addr)(c0:Nat)(xs:List Rat)(hx:xs.length≠d 0)(w:World)(h:Hp)(g:G w h)(hA:Sl A ts h)(hN:NetL h ts ls)(hX:Sq X xs h):CV 79 #[.agg #[.slice A ts.length cap],.slice X xs.length c0] w h (.bool false):=by
 have hs:=((((sS g).aS hA).aN hN).aS hX);have hl:=(hs.f.2.1).len;obtain ⟨o1,o2⟩:=hO.len;have o3:=hO.first;refine go Tryz.func79 [(0,.agg #[.slice A ts.length cap]),(1,.slice X xs.length c0)] rfl (cSL (lA 2 28 ([.slice A ts.length cap]) hs (fun b1 w2 h3 hs=>lL hs [.v 4 (.bool false)] (lNS (lL hs [.m 5 1,.v 6 (nV xs.length),.v 7 (pB b1),.o 8 (.slice A ts.length cap) 0 0 1] (lX 9 A ts.length cap 3 0 0 ((hs.f.r.1).ok oM) ?_))))));refine lL hs [.v 10 (.pointer (some ⟨(aB A),aO A+0*3+1,none⟩))] ?_;obtain ⟨ekx,⟨AWx,cWx,usx,eWx,hcWx,hAWx,hUx⟩,⟨ABx,cBx,eBx,hcBx,hABx⟩⟩:=(hs.f.2.1).at_ 0 oM;obtain ⟨mtx,lbx,r12x,kdx⟩:=hO.lay 0 oM;have lux:=hUx.len;have mrx:=mtx.rows;have mpx:=mtx.rpos;have mcx:=mtx.cpos;have m0x:=mtx.row 0 oM;replace hs:=(((hs.aS hAWx).aQ hUx).aS hABx);refine lHe 11 ((ts.getD 0 lvd).2.1) hs (((hs.f.q.2.1).el 0 oM).part 1 1) eWx (lX 12 AWx usx.length cWx 1 0 0 ((hs.f.r.1).ok oM) ?_);obtain ⟨Arp,crp,erp,hcrp,hRrp⟩:=(hs.f.2.1).at_ 0 oM;replace hs:=hs.aS hRrp;refine lHe 13 (usx.getD 0 undef) hs ((hs.f.r.2.1).el 0 oM) erp (lL hs [.v 14 (nV ((((ls.getD 0 lay0).W).getD 0 []).length))] ?_);have hb4:((xs.length:Int) == (((((ls.getD 0 lay0).W).getD 0 []).length:Nat):Int))=false:=beqF oM;have phb4:=neOfBeq hb4;exact lB 15 hb4 (lL hs [.m 4 15] (lN (kX (hs.ret [] (.bool false) rfl))))
theorem nForward (A:Option Addr)(cap:Nat)(ts:List LV)(ls:List Lay)(d:Nat→Nat)(hO:Net3 ls d)(X:Option Addr)(c0:Nat)(xs:List Rat)(hx:xs.length=d 0)(hc0:xs.length≤c0)(hB:NetB ls xs)(w:World)(h:Hp)(g:G w h)(hA:Sl A ts h)(hN:NetL h ts ls)(hX:Sq X xs h)(tb:Tab h):CR 80 #[.agg #[.slice A ts.length cap],.slice X xs.length c0] w h (fun v h1=>∃ A1 c1 u1 A2 c2 u2 Ax cx,v=.agg #[.slice A1 (u1:List Value).length c1,.slice A2 (u2:List Value).length c2,.slice Ax (outq ls xs ls.length).length cx]∧u1.length≤c1∧u2.length≤c2∧(outq ls xs ls.length).length≤cx∧Sv A1 u1 h1∧Sv A2 u2 h1∧QVs h1 u1 (insq ls xs ls.length)∧QVs h1 u2 (sumsq ls xs ls.length)∧Sq Ax (outq ls xs ls.length) h1):=by
 have hs:=(((((sS g).aS hA).aN hN).aS hX).aB tb);have hl:=(hs.f.r.1).len;obtain ⟨o1,o2⟩:=hO.len;have o3:=hO.first;refine go Tryz.func80 [(0,.agg #[.slice A ts.length cap]),(1,.slice X xs.length c0)] rfl (cSL (lA 2 28 ([.slice A ts.length cap]) hs (fun b1 w2 h3 hs=>lA 4 165 ([sZ,sZ,sZ]) hs (fun b4 w5 h6 hs=>lNS (lL hs [.m 14 1,.v 15 (.agg #[sZ,sZ,.slice X xs.length c0])] (lA 5 165 ([sZ,sZ,sZ]) hs (fun b7 w8 h9 hs=>lP 0 0 ([sZ,sZ,.slice X xs.length c0]) hs (fun w10 hs=>lN (cQ (cSL (lL hs [.v 16 (pB b1),.o 17 (.slice A ts.length cap) 2 0 1,.v 18 (nV ts.length),.v 19 (iV 0)] (lN (kZ ?_)))))))))))));replace hs:=hs.nil 75 1;replace hs:=hs.nil 75 1;refine cTo [(4,pB b4),(5,pB b7),(17,.slice A ts.length cap),(18,nV ts.length),(19,iV 0)] ?_;replace hs:=hs.aS hs.f.2.1;replace hs:=hs.aQ (QVs.nil);replace hs:=hs.aQ (QVs.nil);refine CG.loop (fun μ_ Γ w_=>∃ (k:Nat) (s1A:Option Addr) (s1c:Nat) (s2A:Option Addr) (s2c:Nat) (l1:List Value) (l2:List Value) (Ax:Option Addr) (cx:Nat) (h_:Hp),μ_=ls.length-k∧Γ=[(4,pB b4),(5,pB b7),(17,.slice A ts.length cap),(18,nV ts.length),(19,nV k)]∧SS w h w_ h_ [⟨b7,165,[.slice s1A ((l1).length) s1c,.slice s2A ((l2).length) s2c,.slice Ax ((outq ls xs k).length) cx]⟩,⟨b4,165,[sZ,sZ,sZ]⟩,⟨b1,28,[.slice A ts.length cap]⟩] [⟨75,1,s1A,s1c,(l1).length,(l1).flatMap vc⟩,⟨75,1,s2A,s2c,(l2).length,(l2).flatMap vc⟩] [Qu l1 (insq ls xs k),Qu l2 (sumsq ls xs k),Sq Ax (outq ls xs k),fun h_=>Tab h_,Sq X xs,Nn ts ls,Sl A ts]∧k≤ls.length∧l1.length=k∧l2.length=k∧(outq ls xs k).length≤cx) _ ⟨0,none,0,none,0,[],[],X,c0,h9,rfl,rfl,hs.to _ _,Nat.zero_le _,rfl,rfl,hc0⟩ ?_;rintro _ _ w11 ⟨k,s1A,s1c,s2A,s2c,l1,l2,Ax,cx,h12,hm13,rfl,hs,hk,hl1,hl2,hcx⟩;have hlx:=outq_len hO hx k oM;have hsm:=fun h0=>hO.small k h0
 refine cSL ?_;cases hb14:(decide ((k:Int)<(ts.length:Int)))
 ·
  have phb14:=oF hb14;refine lB 20 hb14 (lN (cQ (cIF (CG.exit ?_))))
  show CG _ _ _ _ _ _ _ _
  refine cSL ?_;obtain ⟨h15,hs,hc16⟩:=hs.pubr 0 (A:=s1A) (c:=s1c) (l:=l1) (f:=vc) (ty:=75) (sz:=1) undef (fun _=>rfl);obtain ⟨h18,hs,hc19⟩:=hs.pubr 0 (A:=s2A) (c:=s2c) (l:=l2) (f:=vc) (ty:=75) (sz:=1) undef (fun _=>rfl);refine lL hs [.o 83 (.agg #[.slice s1A ((l1).length) s1c,.slice s2A ((l2).length) s2c,.slice Ax ((outq ls xs k).length) cx]) 0 0 3] (lP 1 0 ([.slice s1A ((l1).length) s1c,.slice s2A ((l2).length) s2c,.slice Ax ((outq ls xs k).length) cx]) hs (fun w21 hs=>lN (kX ?_)));have hkn:k=ls.length:=by omega
  exact hs.ret [(1,0,3)] (.agg #[.slice s1A ((l1).length) s1c,.slice s2A ((l2).length) s2c,.slice Ax ((outq ls xs k).length) cx]) (by rw[←hkn];exact ⟨_,_,l1,_,_,l2,_,_,rfl,hc16,hc19,hcx,hs.f.2.1,hs.f.1,hs.f.r.1,hs.f.r.2.1,hs.f.q.1⟩)
 have phb14:=oT hb14;refine lB 20 hb14 (lN (cQ (cIT (cK (cQ (kZ (cSL (lX 21 A ts.length cap 3 (k:Nat) k ((hs.f.q.r.1).ok oM) ?_))))))));obtain ⟨ekx,⟨AWx,cWx,usx,eWx,hcWx,hAWx,hUx⟩,⟨ABx,cBx,eBx,hcBx,hABx⟩⟩:=(hs.f.q.2.1).at_ k oM;obtain ⟨mtx,lbx,r12x,kdx⟩:=hO.lay k oM;have lux:=hUx.len;have mrx:=mtx.rows;have mpx:=mtx.rpos;have mcx:=mtx.cpos;have m0x:=mtx.row 0 oM;replace hs:=(((hs.aS hAWx).aQ hUx).aS hABx);refine lHe 22 (.agg #[iV ((ts.getD k lvd).1),(ts.getD k lvd).2.1,(ts.getD k lvd).2.2]) hs ((hs.f.q.q.2.1).el k oM) (by rw[ekx,eWx,eBx]) (lA 7 77 ([iV 0,sZ,sZ]) hs (fun b22 w23 h24 hs=>lP 0 0 ([iV ((ls.getD k lay0).k),.slice AWx usx.length cWx,.slice ABx ((ls.getD k lay0).B.length) cBx]) hs (fun w25 hs=>lNS (lL hs [.v 23 (.pointer (some ⟨b22,1,none⟩)),.o 24 (.slice AWx usx.length cWx) 0 1 1,.v 25 (nV usx.length)] (lK 26 73 usx.length 5 56 (.agg #[.bool false,uV 0,eS,uV 0,eS]) qc 0 hs (fun b26 w27 h28 hs=>?_))))));have hl29:(List.replicate usx.length 0).length=usx.length:=by simp
 refine lL hs [.m 8 26] (lNS (lL hs [.v 27 (.pointer (some ⟨b22,1,none⟩)),.o 28 (.slice AWx usx.length cWx) 1 1 1,.v 29 (nV usx.length)] (lK 30 73 usx.length 5 56 (.agg #[.bool false,uV 0,eS,uV 0,eS]) qc 0 hs (fun b30 w31 h32 hs=>?_))));have hl33:(List.replicate usx.length 0).length=usx.length:=by simp
 refine lL hs [.m 9 30] (lN (cQ (cSL (lL hs [.v 31 (.pointer (some ⟨b22,1,none⟩)),.o 32 (.slice AWx usx.length cWx) 2 1 1,.v 33 (nV usx.length),.v 34 (iV 0)] (lN (kZ ?_))))));refine cTo _ (CG.loop (fun μ_ Γ w_=>∃ (i:Nat) (ql:List Rat) (pl:List Rat) (h_:Hp),μ_=usx.length-i∧Γ=[(4,pB b4),(5,pB b7),(17,.slice A ts.length cap),(18,nV ts.length),(19,nV k),(7,pB b22),(8,.slice (sB b26) usx.length usx.length),(9,.slice (sB b30) usx.length usx.length),(32,.slice AWx usx.length cWx),(33,nV usx.length),(34,nV i)]∧SS w h w_ h_ [⟨b30,73,(pl).flatMap qc⟩,⟨b26,73,(ql).flatMap qc⟩,⟨b22,77,[iV ((ls.getD k lay0).k),.slice AWx usx.length cWx,.slice ABx ((ls.getD k lay0).B.length) cBx]⟩,⟨b7,165,[.slice s1A ((l1).length) s1c,.slice s2A ((l2).length) s2c,.slice Ax ((outq ls xs k).length) cx]⟩,⟨b4,165,[sZ,sZ,sZ]⟩,⟨b1,28,[.slice A ts.length cap]⟩] [⟨75,1,s1A,s1c,(l1).length,(l1).flatMap vc⟩,⟨75,1,s2A,s2c,(l2).length,(l2).flatMap vc⟩] [Sq ABx (ls.getD k lay0).B,Qu usx (ls.getD k lay0).W,Sv AWx usx,Qu l1 (insq ls xs k),Qu l2 (sumsq ls xs k),Sq Ax (outq ls xs k),fun h_=>Tab h_,Sq X xs,Nn ts ls,Sl A ts]∧i≤usx.length∧ql.length=usx.length∧pl.length=usx.length∧(∀ j,j<i→ql.getD j 0=dotq ((ls.getD k lay0).W.getD j []) (outq ls xs k) (outq ls xs k).length+(ls.getD k lay0).B.getD j 0)∧(∀ j,j<i→pl.getD j 0=act (ls.getD k lay0).k (dotq ((ls.getD k lay0).W.getD j []) (outq ls xs k) (outq ls xs k).length+(ls.getD k lay0).B.getD j 0))) _ ⟨0,List.replicate usx.length 0,List.replicate usx.length 0,h32,rfl,rfl,hs.to _ _,Nat.zero_le _,by simp,by simp,fun j hj=>absurd hj (Nat.not_lt_zero j),fun j hj=>absurd hj (Nat.not_lt_zero j)⟩ ?_);rintro _ _ w34 ⟨i,ql,pl,h35,hm36,rfl,hs,hi,hlq,hlp,hq,hp⟩;refine cSL ?_;cases hb37:(decide ((i:Int)<(usx.length:Int)))
 ·
  have phb37:=oF hb37;refine lB 35 hb37 (lN (cQ (cIF (CG.exit ?_))))
  show CG _ _ _ _ _ _ _ _
  refine cSL (lL hs [.v 67 (pB b7),.o 68 (.slice s1A ((l1).length) s1c) 3 0 1,.v 69 (.pointer (some ⟨b7,2,none⟩)),.o 70 (.slice Ax ((outq ls xs k).length) cx) 3 2 1] (lR 71 75 1 ([.slice Ax ((outq ls xs k).length) cx]) hs (fun b38 w39 h40 hs=>lY 72 0 75 1 s1c s1A l1 vc (.slice Ax ((outq ls xs k).length) cx:Value) 24 b38 (sZ) hs hs.f.1 (fun A42 c43 w44 h45 hs=>lL hs [.v 73 (pB b7)] (lP 3 0 ([.slice A42 ((l1++[(.slice Ax ((outq ls xs k).length) cx:Value)]).length) c43]) hs (fun w47 hs=>lNS ?_))))));have hql:ql=sumq (ls.getD k lay0) (outq ls xs k):=map_of hq (show i=(ls.getD k lay0).W.length by omega) (show ql.length=(ls.getD k lay0).W.length by omega);have hlsq:(sumq (ls.getD k lay0) (outq ls xs k)).length=usx.length:=by rw[←hql];exact hlq
  rw[hql] at hs
  obtain ⟨h48,hs,sg49,lo50,bc51⟩:=hs.pub 1;replace hs:=(hs.to [⟨b30,73,(pl).flatMap qc⟩,⟨b22,77,[iV ((ls.getD k lay0).k),.slice AWx usx.length cWx,.slice ABx ((ls.getD k lay0).B.length) cBx]⟩,⟨b7,165,[.slice A42 ((l1++[(.slice Ax ((outq ls xs k).length) cx:Value)]).length) c43,.slice s2A ((l2).length) s2c,.slice Ax ((outq ls xs k).length) cx]⟩,⟨b4,165,[sZ,sZ,sZ]⟩,⟨b1,28,[.slice A ts.length cap]⟩] [⟨75,1,A42,c43,(l1++[(.slice Ax ((outq ls xs k).length) cx:Value)]).length,(l1++[(.slice Ax ((outq ls xs k).length) cx:Value)]).flatMap vc⟩,⟨75,1,s2A,s2c,(l2).length,(l2).flatMap vc⟩]).aS (SlO.of_flat (sz:=5) (f:=qc) (d:=0) (b:=b26) (o:=0) (l:=sumq (ls.getD k lay0) (outq ls xs k)) (fun _=>rfl) sg49);refine lL hs [.v 74 (.pointer (some ⟨b7,1,none⟩)),.o 75 (.slice s2A ((l2).length) s2c) 2 1 1,.m 76 8] (lR 77 75 1 ([.slice (sB b26) usx.length usx.length]) hs (fun b53 w54 h55 hs=>lY 78 1 75 1 s2c s2A l2 vc (.slice (sB b26) usx.length usx.length:Value) 24 b53 (sZ) hs hs.f.1 (fun A57 c58 w59 h60 hs=>lL hs [.v 79 (.pointer (some ⟨b7,1,none⟩))] (lP 2 1 ([.slice A57 ((l2++[(.slice (sB b26) usx.length usx.length:Value)]).length) c58]) hs (fun w62 hs=>lN (kQ ?_))))));have hpl:pl=outq ls xs (k+1):=map_of hp (show i=(ls.getD k lay0).W.length by omega) (show pl.length=(ls.getD k lay0).W.length by omega);have hll:usx.length=(outq ls xs (k+1)).length:=by rw[←hpl];omega
  rw[hpl] at hs
  obtain ⟨h63,hs,sg64,lo65,bc66⟩:=hs.pub 0;replace hs:=(hs.to [⟨b22,77,[iV ((ls.getD k lay0).k),.slice AWx usx.length cWx,.slice ABx ((ls.getD k lay0).B.length) cBx]⟩,⟨b7,165,[.slice A42 ((l1++[(.slice Ax ((outq ls xs k).length) cx:Value)]).length) c43,.slice A57 ((l2++[(.slice (sB b26) usx.length usx.length:Value)]).length) c58,.slice Ax ((outq ls xs k).length) cx]⟩,⟨b4,165,[sZ,sZ,sZ]⟩,⟨b1,28,[.slice A ts.length cap]⟩] [⟨75,1,A42,c43,(l1++[(.slice Ax ((outq ls xs k).length) cx:Value)]).length,(l1++[(.slice Ax ((outq ls xs k).length) cx:Value)]).flatMap vc⟩,⟨75,1,A57,c58,(l2++[(.slice (sB b26) usx.length usx.length:Value)]).length,(l2++[(.slice (sB b26) usx.length usx.length:Value)]).flatMap vc⟩]).aS (SlO.of_flat (sz:=5) (f:=qc) (d:=0) (b:=b30) (o:=0) (l:=outq ls xs (k+1)) (fun _=>rfl) sg64);refine lV 80 (.slice (sB b30) ((outq ls xs (k+1)).length) usx.length) ?_ (hr:=rval kR (by rw[←hll]));refine lL hs [.v 81 (.pointer (some ⟨b7,2,none⟩))] (lP 1 2 ([.slice (sB b30) ((outq ls xs (k+1)).length) usx.length]) hs (fun w68 hs=>lN (kQ (lIn 82 ((k:Nat)+1) (k+1) ?_))));refine lL hs [.m 19 82] (lD ?_);intro a_ ka;replace hs:=(((hs.tl.tl.tl.tl.tl.tl.tl.tl.tl.tl.aS hs.f.1).add (K:=Qu (l2++[(.slice (sB b26) usx.length usx.length:Value)]) (sumsq ls xs (k+1))) (by rw[sumsq_succ];exact (hs.f.q.q.1).snoc ⟨_,usx.length,by rw[hlsq],Nat.le_of_eq hlsq,hs.f.r.1⟩)).add (K:=Qu (l1++[(.slice Ax ((outq ls xs k).length) cx:Value)]) (insq ls xs (k+1))) (by rw[insq_succ];exact (hs.f.q.r.2.1).snoc ⟨_,_,rfl,hcx,hs.f.q.q.2.1⟩));replace hs:=hs.drop 1 0;refine ⟨_,_,?_,⟨k+1,A42,c43,A57,c58,l1++[(.slice Ax ((outq ls xs k).length) cx:Value)],l2++[(.slice (sB b26) usx.length usx.length:Value)],sB b30,usx.length,h63,rfl,rfl,hs.to _ _,oM,(by simp;omega),(by simp;omega),oM⟩,ka.to _ kR⟩
  omega
 have phb37:=oT hb37;refine lB 35 hb37 (lN (cQ (cIT (cK (cQ (kZ (cSL (lL hs [.m 36 34] (lX 37 AWx usx.length cWx 1 (i:Nat) i ((hs.f.r.1).ok oM) ?_)))))))));obtain ⟨Arp,crp,erp,hcrp,hRrp⟩:=(hs.f.2.1).at_ i oM;replace hs:=hs.aS hRrp;refine lHe 38 (usx.getD i undef) hs ((hs.f.r.2.1).el i oM) erp (lL hs [.m 10 36,.m 11 38] (lNS (lL hs [.m 40 11,.v 41 (.pointer (some ⟨b7,2,none⟩)),.o 42 (.slice Ax ((outq ls xs k).length) cx) 3 2 1] (lC 43 hs (fDotN Arp crp ((ls.getD k lay0).W.getD i []) Ax cx (outq ls xs k) (outq ls xs k).length _ _ rfl rfl (by rw[mtx.row i oM,hlx]) rfl 1000000 1000000 oM (dot_b1 (show (outq ls xs k).length≤20 by omega)) (hB.w k i) (hB.x k oM) _ _ hs.g hs.f.1 hs.f.q.r.1 hs.f.q.r.2.1) ?_))));rintro _ w76 h77 hs rfl;have hdt:LQ 41000000 (gD ls xs k i):=(LQ.dot (n:=(outq ls xs k).length) (fun j _=>hB.w k i j) (fun j _=>hB.x k oM j) _ (nR _)).mono (dot_b2 (show (outq ls xs k).length≤20 by omega));refine lL hs [.m 39 43,.v 44 (qv (gD ls xs k i)),.v 45 (.bool true)] (lA 12 73 ([.bool false,uV 0,eS,uV 0,eS]) hs (fun b78 w79 h80 hs=>lP 0 0 (qc (gD ls xs k i)) hs (fun w81 hs=>lL hs [.m 13 45] (lN (cQ (cR 9 [] mixed hs al_nil ?_))))));refine eV 0 46 (.slice (sB b26) usx.length usx.length) (eV 1 47 (nV i) (eO 2 48 [(0,0,5)] (qv (gD ls xs k i)) hs (eV 3 49 (.pointer (some ⟨b22,2,none⟩)) (eO 4 50 [(3,2,1)] (.slice ABx ((ls.getD k lay0).B.length) cBx) hs (eV 5 51 (nV i) (eX 6 52 ABx ((ls.getD k lay0).B.length) cBx 5 (i:Nat) i ((hs.f.2.1).ok oM) (eH 7 53 (qv (((ls.getD k lay0).B).getD i 0)) hs ((hs.f.2.1).el i oM) ?_)))))));have hq82:=LQ.add hdt (hB.b k i);refine eC 8 54 hs (fun _ _ hs=>fAdd (gD ls xs k i) (((ls.getD k lay0).B).getD i 0) (LQ.mono hdt oM) (LQ.mono (hB.b k i) oM) _ _ hs.g hs.f.q.r.2.1) ?_;rintro _ _ _ w83 h84 hs rfl;refine eD0 hs (fun w85 h86 hs=>tX 9 55 (sB b26) usx.length usx.length 5 (i:Nat) i rfl (tW 10 2 ql qc 5 i (gS ls xs k i) hs oM (fun w87 hs=>?_)));have hl88:((ql).set i (gS ls xs k i)).length=usx.length:=by rw[List.length_set];exact hlq
 replace hs:=hs.to [⟨b78,73,qc (gD ls xs k i)⟩,⟨b30,73,(pl).flatMap qc⟩,⟨b26,73,((ql).set i (gS ls xs k i)).flatMap qc⟩,⟨b22,77,[iV ((ls.getD k lay0).k),.slice AWx usx.length cWx,.slice ABx ((ls.getD k lay0).B.length) cBx]⟩,⟨b7,165,[.slice s1A ((l1).length) s1c,.slice s2A ((l2).length) s2c,.slice Ax ((outq ls xs k).length) cx]⟩,⟨b4,165,[sZ,sZ,sZ]⟩,⟨b1,28,[.slice A ts.length cap]⟩] [⟨75,1,s1A,s1c,(l1).length,(l1).flatMap vc⟩,⟨75,1,s2A,s2c,(l2).length,(l2).flatMap vc⟩];refine tN (cR 9 [] mixed hs al_nil ?_);refine eV 0 56 (.slice (sB b30) usx.length usx.length) (eV 1 57 (nV i) (eV 2 58 (pB b22) (eO 3 59 [(3,0,1)] (iV ((ls.getD k lay0).k)) hs (eV 4 60 (.slice (sB b26) usx.length usx.length) (eV 5 61 (nV i) (eX 6 62 (sB b26) usx.length usx.length 5 (i:Nat) i rfl (eQ 7 63 2 ((ql).set i (gS ls xs k i)) qc 5 0 i (qv (((ql).set i (gS ls xs k i)).getD i 0)) hs oM (eC 8 64 hs (fun _ _ hs=>nAct _ kdx (((ql).set i (gS ls xs k i)).getD i 0) (by rw[getD_set_self oM];exact LQ.mono (LQ.add hdt (hB.b k i)) oM) _ _ hs.g hs.f.q.r.2.1) ?_))))))));rintro _ _ _ w89 h90 hs rfl;refine eD0 hs (fun w91 h92 hs=>tX 9 65 (sB b30) usx.length usx.length 5 (i:Nat) i rfl (tW 10 1 pl qc 5 i (act (ls.getD k lay0).k (((ql).set i (gS ls xs k i)).getD i 0)) hs oM (fun w93 hs=>?_)));have hl94:((pl).set i (act (ls.getD k lay0).k (((ql).set i (gS ls xs k i)).getD i 0))).length=usx.length:=by rw[List.length_set];exact hlp
 replace hs:=hs.to [⟨b78,73,qc (gD ls xs k i)⟩,⟨b30,73,((pl).set i (act (ls.getD k lay0).k (((ql).set i (gS ls xs k i)).getD i 0))).flatMap qc⟩,⟨b26,73,((ql).set i (gS ls xs k i)).flatMap qc⟩,⟨b22,77,[iV ((ls.getD k lay0).k),.slice AWx usx.length cWx,.slice ABx ((ls.getD k lay0).B.length) cBx]⟩,⟨b7,165,[.slice s1A ((l1).length) s1c,.slice s2A ((l2).length) s2c,.slice Ax ((outq ls xs k).length) cx]⟩,⟨b4,165,[sZ,sZ,sZ]⟩,⟨b1,28,[.slice A ts.length cap]⟩] [⟨75,1,s1A,s1c,(l1).length,(l1).flatMap vc⟩,⟨75,1,s2A,s2c,(l2).length,(l2).flatMap vc⟩];refine tN (cTo [(4,pB b4),(5,pB b7),(17,.slice A ts.length cap),(18,nV ts.length),(19,nV k),(7,pB b22),(8,.slice (sB b26) usx.length usx.length),(9,.slice (sB b30) usx.length usx.length),(32,.slice AWx usx.length cWx),(33,nV usx.length),(34,nV i)] ?_);refine kQ (lIn 66 ((i:Nat)+1) (i+1) ?_);refine lL hs [.m 34 66] (lD ?_);intro a_ ka;replace hs:=hs.tl;replace hs:=hs.drop 1 0;refine ⟨_,_,?_,⟨i+1,(ql).set i (gS ls xs k i),(pl).set i (act (ls.getD k lay0).k (((ql).set i (gS ls xs k i)).getD i 0)),h92,rfl,rfl,hs.to _ _,oM,hl88,hl94,(fstep hq oM rfl),(fstep hp oM (congrArg _ (getD_set_self oM)))⟩,ka.to _ kR⟩
 omega
def slq (k:Int)(x d:Rat):Rat:=if k=1 then d else if k=2 then (if 0<x then d else 0) else d/((((1:Int):Rat)+qabs x)*(((1:Int):Rat)+qabs x))
theorem num_pos' {x:Rat}:0<x↔0<x.num:=by rw[Rat.lt_iff];simp
theorem sign_pos' {x:Rat}(h:0<x.num.sign):0<x:=by
  rw[num_pos'];rcases Int.lt_trichotomy x.num 0 with h1|h1|h1
  · rw[Int.sign_eq_neg_one_of_neg h1] at h;omega
  · rw[h1] at h;exact absurd h kD
  · exact h1
theorem sign_npos {x:Rat}(h:¬0<x.num.sign):¬0<x:=fun h1=>h (by rw[Int.sign_eq_one_of_pos (num_pos'.1 h1)];decide)
theorem act1 (x:Rat):act 1 x=x:=by unfold act;rw[if_neg kD,if_neg kD]
theorem act2p {x:Rat}(h:0<x):act 2 x=x:=by unfold act maxR;rw[if_pos rfl,if_neg (fun h2=>by grind)]
theorem act2n {x:Rat}(h:¬0<x):act 2 x=((0:Int):Rat):=by
  unfold act maxR;rw[if_pos rfl];split
  · rfl
  · show x=0;grind
theorem act3 (x:Rat):act 3 x=x/(((1:Int):Rat)+qabs x):=by unfold act;rw[if_neg kD,if_pos rfl]
theorem slq1 (x d:Rat):slq 1 x d=d:=by unfold slq;rw[if_pos rfl]
theorem slq2p {x d:Rat}(h:0<x):slq 2 x d=d:=by unfold slq;rw[if_neg kD,if_pos rfl,if_pos h]
theorem slq2n {x d:Rat}(h:¬0<x):slq 2 x d=((0:Int):Rat):=by unfold slq;rw[if_neg kD,if_pos rfl,if_neg h];rfl
theorem slq3 (x d:Rat):slq 3 x d=d/((((1:Int):Rat)+qabs x)*(((1:Int):Rat)+qabs x)):=by unfold slq;rw[if_neg kD,if_neg kD]
theorem one_abs_ne2 (u:Rat):((((1:Int):Rat)+qabs u)*(((1:Int):Rat)+qabs u)).num≠0:=by
  intro e;have h:=one_abs_pos u;have e2:(((1:Int):Rat)+qabs u)*(((1:Int):Rat)+qabs u)=0:=by rw[←Rat.num_eq_zero];exact e
  have:=Rat.mul_pos h h;rw[e2] at this;exact absurd this kD
theorem lq0':LQ 1 0:=LQ.lit (z:=0) kD
theorem rep_zero {n:Nat}:∀ j,(List.replicate n (0:Rat)).getD j 0=0:=fun j=>by
  rw[List.getD_eq_getElem?_getD,List.getElem?_replicate];split<;>rfl
theorem dotq_zero (a b:List Rat)(h:∀ j,b.getD j 0=0):∀ n,dotq a b n=0
  | 0=>rfl
  | n+1=>by show dotq a b n+_*_=0;rw[dotq_zero a b h n,h,Rat.mul_zero,Rat.add_zero]
theorem rDotN (A:Option Addr)(ca:Nat)(a:List Rat)(ta:List RT)(D:Option Addr)(cd:Nat)(b:List Rat)(tb_:List RT)(n:Nat)(h1:a.length=n)(h2:n≤b.length)(K L:Nat)(hn:n≤1000000)(hb:n*(K+L+1)+K+L+2≤100000000)(ha:∀ i,LQ K (a.getD i 0))(hbb:∀ i,LQ L (b.getD i 0))(w:World)(h:Hp)(g:G w h)(hA:Sr A ta h)(hT:RTs h ta a)(hD:Sr D tb_ h)(hU:RTs h tb_ b):CR 192 #[.slice A ta.length ca,.slice D tb_.length cd] w h (fun v h1=>RQ h1 v (dotq a b n)):=by
  subst h1;exact rDot A ca a ta D cd b tb_ K L h2 hn hb (fun i _=>ha i) (fun i _=>hbb i) w h g hA hT hD hU
theorem rBent1 (x d:Rat)(hx:LQ 45000000 x)(hd:LQ 45000000 d)(A1:Option Addr)(c1:Nat)(D1:Option Addr)(d1:Nat)(hc1:(lim (iabs x.num)).length≤c1)(hd1:(lim x.den).length≤d1)(A2:Option Addr)(c2:Nat)(D2:Option Addr)(d2:Nat)(hc2:(lim (iabs d.num)).length≤c2)(hd2:(lim d.den).length≤d2)(w:World)(h:Hp)(g:G w h)(hA1:S3 A1 (lim (iabs x.num)) h)(hD1:S3 D1 (lim x.den) h)(hA2:S3 A2 (lim (iabs d.num)) h)(hD2:S3 D2 (lim d.den) h):CR 193 #[iV 1,rG x A1 c1 D1 d1,rG d A2 c2 D2 d2] w h (fun v h1=>∃ v1 v2,v=.tuple #[v1,v2]∧RQ h1 v1 (act 1 x)∧RQ h1 v2 (slq 1 x d)):=by
 have hs:=(((((sS g).aS hA1).aS hD1).aS hA2).aS hD2);refine go Tryz.func193 [(0,iV 1),(1,rG x A1 c1 D1 d1),(2,rG d A2 c2 D2 d2)] rfl (cSL (lA 4 95 (rqx x A1 c1 D1 d1) hs (fun b1 w2 h3 hs=>lA 5 95 (rqx d A2 c2 D2 d2) hs (fun b4 w5 h6 hs=>lA 6 95 ([.bool false,sZ,sZ]) hs (fun b7 w8 h9 hs=>lA 7 95 ([.bool false,sZ,sZ]) hs (fun b10 w11 h12 hs=>lN (cQ (kZ (cSL (lL hs [.m 10 0,.v 11 (.bool true),.m 9 11] (lN (cIT (cQ ?_)))))))))))));have hsr:=hs;refine cRz 2 [] [b7,b10] mixed hs al_nil (eO 0 12 [(3,0,3)] (rG x A1 c1 D1 d1) hs (eOz 1 13 [(2,0,3)] (rG d A2 c2 D2 d2) hsr hs ?_ (hM:=fun p hp=>by obtain rfl:=List.mem_singleton.1 hp;exact fun hm=>by rcases List.mem_cons.1 hm with e|hm;exact bx_ne hs.st (i:=2) (j:=1) kR kR kR e;rcases List.mem_cons.1 hm with e|hm;exact bx_ne hs.st (i:=2) (j:=0) kR kR kR e;cases hm)));refine eD0 hs (fun w13 h14 hs=>tP 2 1 0 (rqx x A1 c1 D1 d1) hs (fun w15 hs=>?_) (hz:=tlz_mem (List.mem_cons_self)));refine tP 3 0 0 (rqx d A2 c2 D2 d2) hs (fun w16 hs=>?_) (hz:=tlz_mem (List.mem_cons_of_mem _<|List.mem_cons_self));exact tN (kX (hs.ret [(1,0,3),(0,0,3)] (.tuple #[rG x A1 c1 D1 d1,rG d A2 c2 D2 d2]) (⟨_,_,rfl,by rw[act1];exact ⟨_,_,_,_,rfl,hc1,hd1,hs.f.r.2.1,hs.f.r.1⟩,by rw[slq1];exact ⟨_,_,_,_,rfl,hc2,hd2,hs.f.2.1,hs.f.1⟩⟩)))
theorem rBent2p (x d:Rat)(hx:LQ 45000000 x)(hd:LQ 45000000 d)(A1:Option Addr)(c1:Nat)(D1:Option Addr)(d1:Nat)(hc1:(lim (iabs x.num)).length≤c1)(hd1:(lim x.den).length≤d1)(A2:Option Addr)(c2:Nat)(D2:Option Addr)(d2:Nat)(hc2:(lim (iabs d.num)).length≤c2)(hd2:(lim d.den).length≤d2)(hs_:0<x.num.sign)(w:World)(h:Hp)(g:G w h)(hA1:S3 A1 (lim (iabs x.num)) h)(hD1:S3 D1 (lim x.den) h)(hA2:S3 A2 (lim (iabs d.num)) h)(hD2:S3 D2 (lim d.den) h):CR 193 #[iV 2,rG x A1 c1 D1 d1,rG d A2 c2 D2 d2] w h (fun v h1=>∃ v1 v2,v=.tuple #[v1,v2]∧RQ h1 v1 (act 2 x)∧RQ h1 v2 (slq 2 x d)):=by
 have hs:=(((((sS g).aS hA1).aS hD1).aS hA2).aS hD2);refine go Tryz.func193 [(0,iV 2),(1,rG x A1 c1 D1 d1),(2,rG d A2 c2 D2 d2)] rfl (cSL (lA 4 95 (rqx x A1 c1 D1 d1) hs (fun b1 w2 h3 hs=>lA 5 95 (rqx d A2 c2 D2 d2) hs (fun b4 w5 h6 hs=>lA 6 95 ([.bool false,sZ,sZ]) hs (fun b7 w8 h9 hs=>lA 7 95 ([.bool false,sZ,sZ]) hs (fun b10 w11 h12 hs=>lN (cQ (kZ (cSL (lL hs [.m 10 0,.v 11 (.bool false),.m 9 11] (lN (cIF (cSL (lL hs [.m 15 0,.v 16 (.bool true),.m 17 16,.o 18 (rG x A1 c1 D1 d1) 3 0 3] (lC 19 hs (rSign x A1 c1 D1 d1 hc1 hd1 (nl hx) (nD hx) _ _ hs.g hs.f.r.2.1 hs.f.r.1) ?_)))))))))))))));rintro _ w13 h14 hs rfl;have ⟨hb15,phb15⟩:=dT (p:=(0:Int)<(x.num.sign:Int)) oM;refine lB 20 hb15 (lL hs [.v 21 (.bool true),.m 14 21] (lN (cIT (cQ ?_))));have hsr:=hs;refine cRz 2 [] [b7,b10] mixed hs al_nil (eO 0 22 [(3,0,3)] (rG x A1 c1 D1 d1) hs (eOz 1 23 [(2,0,3)] (rG d A2 c2 D2 d2) hsr hs ?_ (hM:=fun p hp=>by obtain rfl:=List.mem_singleton.1 hp;exact fun hm=>by rcases List.mem_cons.1 hm with e|hm;exact bx_ne hs.st (i:=2) (j:=1) kR kR kR e;rcases List.mem_cons.1 hm with e|hm;exact bx_ne hs.st (i:=2) (j:=0) kR kR kR e;cases hm)));refine eD0 hs (fun w16 h17 hs=>tP 2 1 0 (rqx x A1 c1 D1 d1) hs (fun w18 hs=>?_) (hz:=tlz_mem (List.mem_cons_self)));refine tP 3 0 0 (rqx d A2 c2 D2 d2) hs (fun w19 hs=>?_) (hz:=tlz_mem (List.mem_cons_of_mem _<|List.mem_cons_self));exact tN (kX (hs.ret [(1,0,3),(0,0,3)] (.tuple #[rG x A1 c1 D1 d1,rG d A2 c2 D2 d2]) (⟨_,_,rfl,by rw[act2p (sign_pos' hs_)];exact ⟨_,_,_,_,rfl,hc1,hd1,hs.f.r.2.1,hs.f.r.1⟩,by rw[slq2p (sign_pos' hs_)];exact ⟨_,_,_,_,rfl,hc2,hd2,hs.f.2.1,hs.f.1⟩⟩)))
theorem rBent2n (x d:Rat)(hx:LQ 45000000 x)(hd:LQ 45000000 d)(A1:Option Addr)(c1:Nat)(D1:Option Addr)(d1:Nat)(hc1:(lim (iabs x.num)).length≤c1)(hd1:(lim x.den).length≤d1)(A2:Option Addr)(c2:Nat)(D2:Option Addr)(d2:Nat)(hc2:(lim (iabs d.num)).length≤c2)(hd2:(lim d.den).length≤d2)(hs_:¬0<x.num.sign)(w:World)(h:Hp)(g:G w h)(hA1:S3 A1 (lim (iabs x.num)) h)(hD1:S3 D1 (lim x.den) h)(hA2:S3 A2 (lim (iabs d.num)) h)(hD2:S3 D2 (lim d.den) h):CR 193 #[iV 2,rG x A1 c1 D1 d1,rG d A2 c2 D2 d2] w h (fun v h1=>∃ v1 v2,v=.tuple #[v1,v2]∧RQ h1 v1 (act 2 x)∧RQ h1 v2 (slq 2 x d)):=by
 have hs:=(((((sS g).aS hA1).aS hD1).aS hA2).aS hD2);refine go Tryz.func193 [(0,iV 2),(1,rG x A1 c1 D1 d1),(2,rG d A2 c2 D2 d2)] rfl (cSL (lA 4 95 (rqx x A1 c1 D1 d1) hs (fun b1 w2 h3 hs=>lA 5 95 (rqx d A2 c2 D2 d2) hs (fun b4 w5 h6 hs=>lA 6 95 ([.bool false,sZ,sZ]) hs (fun b7 w8 h9 hs=>lA 7 95 ([.bool false,sZ,sZ]) hs (fun b10 w11 h12 hs=>lN (cQ (kZ (cSL (lL hs [.m 10 0,.v 11 (.bool false),.m 9 11] (lN (cIF (cSL (lL hs [.m 15 0,.v 16 (.bool true),.m 17 16,.o 18 (rG x A1 c1 D1 d1) 3 0 3] (lC 19 hs (rSign x A1 c1 D1 d1 hc1 hd1 (nl hx) (nD hx) _ _ hs.g hs.f.r.2.1 hs.f.r.1) ?_)))))))))))))));rintro _ w13 h14 hs rfl;have ⟨hb15,phb15⟩:=dF (p:=(0:Int)<(x.num.sign:Int)) oM;refine lB 20 hb15 (lL hs [.v 21 (.bool false),.m 14 21] (lN (cIF (cSL (lL hs [.m 25 0,.v 26 (.bool true),.m 24 26] (lN (cIT (cSL (lC 27 hs (rOf 0 oM oM _ _ hs.g) ?_)))))))));rintro _ w24 h25 hs ⟨A16,c17,A20,c21,rfl,hc18,hc22,hA19,hA23⟩;replace hs:=hs.aP hA19 hA23;refine lC 28 hs (rOf 0 oM oM _ _ hs.g) ?_;rintro _ w34 h35 hs ⟨A26,c27,A30,c31,rfl,hc28,hc32,hA29,hA33⟩;replace hs:=hs.aP hA29 hA33;exact lP 1 0 (rqx ((0:Int):Rat) A16 c17 A20 c21) hs (fun w36 hs=>lP 0 0 (rqx ((0:Int):Rat) A26 c27 A30 c31) hs (fun w37 hs=>lN (kX (hs.ret [(1,0,3),(0,0,3)] (.tuple #[rG ((0:Int):Rat) A16 c17 A20 c21,rG ((0:Int):Rat) A26 c27 A30 c31]) (⟨_,_,rfl,by rw[act2n (sign_npos hs_)];exact ⟨_,_,_,_,rfl,hc18,hc22,hs.f.r.2.1,hs.f.r.1⟩,by rw[slq2n (sign_npos hs_)];exact ⟨_,_,_,_,rfl,hc28,hc32,hs.f.2.1,hs.f.1⟩⟩)))))
theorem rBent3 (x d:Rat)(hx:LQ 45000000 x)(hd:LQ 45000000 d)(A1:Option Addr)(c1:Nat)(D1:Option Addr)(d1:Nat)(hc1:(lim (iabs x.num)).length≤c1)(hd1:(lim x.den).length≤d1)(A2:Option Addr)(c2:Nat)(D2:Option Addr)(d2:Nat)(hc2:(lim (iabs d.num)).length≤c2)(hd2:(lim d.den).length≤d2)(w:World)(h:Hp)(g:G w h)(hA1:S3 A1 (lim (iabs x.num)) h)(hD1:S3 D1 (lim x.den) h)(hA2:S3 A2 (lim (iabs d.num)) h)(hD2:S3 D2 (lim d.den) h):CR 193 #[iV 3,rG x A1 c1 D1 d1,rG d A2 c2 D2 d2] w h (fun v h1=>∃ v1 v2,v=.tuple #[v1,v2]∧RQ h1 v1 (act 3 x)∧RQ h1 v2 (slq 3 x d)):=by
 have hs:=(((((sS g).aS hA1).aS hD1).aS hA2).aS hD2);refine go Tryz.func193 [(0,iV 3),(1,rG x A1 c1 D1 d1),(2,rG d A2 c2 D2 d2)] rfl (cSL (lA 4 95 (rqx x A1 c1 D1 d1) hs (fun b1 w2 h3 hs=>lA 5 95 (rqx d A2 c2 D2 d2) hs (fun b4 w5 h6 hs=>lA 6 95 ([.bool false,sZ,sZ]) hs (fun b7 w8 h9 hs=>lA 7 95 ([.bool false,sZ,sZ]) hs (fun b10 w11 h12 hs=>lN (cQ (kZ (cSL (lL hs [.m 10 0,.v 11 (.bool false),.m 9 11] (lN (cIF (cSL (lL hs [.m 15 0,.v 16 (.bool false),.m 17 16] (lG 18 ?_)))))))))))))));refine lG 19 (lG 20 (lL hs [.v 21 (.bool false),.m 14 21] (lN (cIF (cSL (lL hs [.m 25 0,.v 26 (.bool false),.m 24 26] (lN (cIF (cK (cQ ?_))))))))));have hsr:=hs;refine cR 5 [⟨4,8,.cells (List.toArray [.bool false,sZ,sZ]) 95 (0,0)⟩] mixed hs (al_cons (alOk kR (fun _ _=>by kernel_rfl)) al_nil) (eO 1 30 [(3,0,3)] (rG x A1 c1 D1 d1) hs (eC 0 29 hs (fun _ _ hs=>rOf 1 oM oM _ _ hs.g) ?_));rintro _ _ _ w21 h22 hs ⟨A13,c14,A17,c18,rfl,hc15,hc19,hA16,hA20⟩;replace hs:=hs.aP hA16 hA20;have hq23:LQ (45000000) (qabs x):=LQ.abs hx;refine eC 2 31 hs (fun _ _ hs=>rAbs x A1 c1 D1 d1 hc1 hd1 (nl hx) (nD hx) _ _ hs.g hs.f.q.2.1 hs.f.q.1) ?_;rintro _ _ _ w32 h33 hs ⟨A24,c25,A28,c29,rfl,hc26,hc30,hA27,hA31⟩;replace hs:=hs.aP hA27 hA31;have hq34:=LQ.add (LQ.lit (z:=1) kD) hq23;refine eC 3 32 hs (fun _ _ hs=>rAdd ((1:Int):Rat) A13 c14 A17 c18 hc15 hc19 (nl (LQ.lit (z:=1) kD)) (nD (LQ.lit (z:=1) kD)) (qabs x) A24 c25 A28 c29 hc26 hc30 (nl hq23) (nD hq23) _ _ hs.g hs.f.r.2.1 hs.f.r.1 hs.f.2.1 hs.f.1) ?_;rintro _ _ _ w43 h44 hs ⟨A35,c36,A39,c40,rfl,hc37,hc41,hA38,hA42⟩;replace hs:=hs.aP hA38 hA42;refine eD1p [] hsr hs 95 [.bool false,sZ,sZ] (fun w45 h46 b47 hs=>tP 5 0 0 (rqx (((1:Int):Rat)+(qabs x)) A35 c36 A39 c40) hs (fun w48 hs=>tN (cQ ?_)));have hsr:=hs;refine cRz 8 [] [b7,b10] mixed hs al_nil (eO 0 33 [(4,0,3)] (rG x A1 c1 D1 d1) hs (eO 1 34 [(0,0,3)] (rG (((1:Int):Rat)+(qabs x)) A35 c36 A39 c40) hs (eOz 3 36 [(3,0,3)] (rG d A2 c2 D2 d2) hsr hs ?_ (hM:=fun p hp=>by obtain rfl:=List.mem_singleton.1 hp;exact fun hm=>by rcases List.mem_cons.1 hm with e|hm;exact bx_ne hs.st (i:=3) (j:=2) kR kR kR e;rcases List.mem_cons.1 hm with e|hm;exact bx_ne hs.st (i:=3) (j:=1) kR kR kR e;cases hm))));refine eOz 4 37 [(0,0,3)] (rG (((1:Int):Rat)+(qabs x)) A35 c36 A39 c40) hsr hs ?_ (hM:=fun p hp=>by obtain rfl:=List.mem_singleton.1 hp;exact fun hm=>by rcases List.mem_cons.1 hm with e|hm;exact bx_ne hs.st (i:=0) (j:=2) kR kR kR e;rcases List.mem_cons.1 hm with e|hm;exact bx_ne hs.st (i:=0) (j:=1) kR kR kR e;cases hm);refine eOz 5 38 [(0,0,3)] (rG (((1:Int):Rat)+(qabs x)) A35 c36 A39 c40) hsr hs ?_ (hM:=fun p hp=>by obtain rfl:=List.mem_singleton.1 hp;exact fun hm=>by rcases List.mem_cons.1 hm with e|hm;exact bx_ne hs.st (i:=0) (j:=2) kR kR kR e;rcases List.mem_cons.1 hm with e|hm;exact bx_ne hs.st (i:=0) (j:=1) kR kR kR e;cases hm);have hq49:=LQ.div hx hq34;refine eC 2 35 hs (fun _ _ hs=>rDiv x A1 c1 D1 d1 hc1 hd1 (nl hx) (nD hx) (((1:Int):Rat)+(qabs x)) A35 c36 A39 c40 hc37 hc41 (nl hq34) (nD hq34) (one_abs_ne x) _ _ hs.g hs.f.q.q.2.1 hs.f.q.q.1 hs.f.2.1 hs.f.1) ?_;rintro _ _ _ w58 h59 hs ⟨A50,c51,A54,c55,rfl,hc52,hc56,hA53,hA57⟩;replace hs:=hs.aP hA53 hA57;have hq60:=LQ.mul hq34 hq34;refine eC 6 39 hs (fun _ _ hs=>rMul (((1:Int):Rat)+(qabs x)) A35 c36 A39 c40 hc37 hc41 (nl hq34) (nD hq34) (((1:Int):Rat)+(qabs x)) A35 c36 A39 c40 hc37 hc41 (nl hq34) (nD hq34) _ _ hs.g hs.f.r.2.1 hs.f.r.1 hs.f.r.2.1 hs.f.r.1) ?_;rintro _ _ _ w69 h70 hs ⟨A61,c62,A65,c66,rfl,hc63,hc67,hA64,hA68⟩;replace hs:=hs.aP hA64 hA68;have hq71:=LQ.div hd hq60;refine eC 7 40 hs (fun _ _ hs=>rDiv d A2 c2 D2 d2 hc2 hd2 (nl hd) (nD hd) ((((1:Int):Rat)+(qabs x))*(((1:Int):Rat)+(qabs x))) A61 c62 A65 c66 hc63 hc67 (nl hq60) (nD hq60) (one_abs_ne2 x) _ _ hs.g hs.f.q.q.r.2.1 hs.f.q.q.r.1 hs.f.2.1 hs.f.1) ?_;rintro _ _ _ w80 h81 hs ⟨A72,c73,A76,c77,rfl,hc74,hc78,hA75,hA79⟩;replace hs:=hs.aP hA75 hA79;refine eD0 hs (fun w82 h83 hs=>tP 8 2 0 (rqx (x/(((1:Int):Rat)+(qabs x))) A50 c51 A54 c55) hs (fun w84 hs=>?_) (hz:=tlz_mem (List.mem_cons_self)));refine tP 9 1 0 (rqx (d/((((1:Int):Rat)+(qabs x))*(((1:Int):Rat)+(qabs x)))) A72 c73 A76 c77) hs (fun w85 hs=>?_) (hz:=tlz_mem (List.mem_cons_of_mem _<|List.mem_cons_self));exact tN (kX (hs.ret [(2,0,3),(1,0,3)] (.tuple #[rG (x/(((1:Int):Rat)+(qabs x))) A50 c51 A54 c55,rG (d/((((1:Int):Rat)+(qabs x))*(((1:Int):Rat)+(qabs x)))) A72 c73 A76 c77]) (⟨_,_,rfl,by rw[act3];exact ⟨_,_,_,_,rfl,hc52,hc56,hs.f.q.2.1,hs.f.q.1⟩,by rw[slq3];exact ⟨_,_,_,_,rfl,hc74,hc78,hs.f.2.1,hs.f.1⟩⟩)))
theorem rBent (k:Int)(hk:k=1∨k=2∨k=3)(x d:Rat)(hx:LQ 45000000 x)(hd:LQ 45000000 d)(A1:Option Addr)(c1:Nat)(D1:Option Addr)(d1:Nat)(hc1:(lim (iabs x.num)).length≤c1)(hd1:(lim x.den).length≤d1)(A2:Option Addr)(c2:Nat)(D2:Option Addr)(d2:Nat)(hc2:(lim (iabs d.num)).length≤c2)(hd2:(lim d.den).length≤d2)(w:World)(h:Hp)(g:G w h)(hA1:S3 A1 (lim (iabs x.num)) h)(hD1:S3 D1 (lim x.den) h)(hA2:S3 A2 (lim (iabs d.num)) h)(hD2:S3 D2 (lim d.den) h):CR 193 #[iV k,rG x A1 c1 D1 d1,rG d A2 c2 D2 d2] w h (fun v h1=>∃ v1 v2,v=.tuple #[v1,v2]∧RQ h1 v1 (act k x)∧RQ h1 v2 (slq k x d)):=by
  rcases hk with rfl|rfl|rfl
  · exact rBent1 x d hx hd A1 c1 D1 d1 hc1 hd1 A2 c2 D2 d2 hc2 hd2 w h g hA1 hD1 hA2 hD2
  · by_cases hs:0<x.num.sign
    · exact rBent2p x d hx hd A1 c1 D1 d1 hc1 hd1 A2 c2 D2 d2 hc2 hd2 hs w h g hA1 hD1 hA2 hD2
    · exact rBent2n x d hx hd A1 c1 D1 d1 hc1 hd1 A2 c2 D2 d2 hc2 hd2 hs w h g hA1 hD1 hA2 hD2
  · exact rBent3 x d hx hd A1 c1 D1 d1 hc1 hd1 A2 c2 D2 d2 hc2 hd2 w h g hA1 hD1 hA2 hD2
def RTz (h:Hp)(ts:List RT)(k:Nat):Prop:=∀ j,j<k→RQ h (rtv (ts.getD j rqd)) 0
theorem RTz.gw {h h':Hp}{ts:List RT}{k:Nat}(r:RTz h ts k)(u:Gw h h'):RTz h' ts k:=fun j hj=>(r j hj).gw u
theorem RTz.set {h:Hp}{ts:List RT}{k:Nat}{t:RT}(r:RTz h ts k)(hk:k<ts.length)(ht:RQ h (rtv t) 0):RTz h (ts.set k t) (k+1):=fun j hj=>by
  by_cases e:j=k
  · subst e;rw[List.getD_eq_getElem?_getD,List.getElem?_set_self hk];exact ht
  · rw[List.getD_eq_getElem?_getD,List.getElem?_set_ne (Ne.symm e),←List.getD_eq_getElem?_getD];exact r j oM
theorem RTz.rts {h:Hp}{ts:List RT}{k:Nat}(r:RTz h ts k)(hl:ts.length=k):RTs h ts (List.replicate k 0):=⟨by simp[hl],fun j hj=>by rw[rep_zero];exact r j (by simpa using hj)⟩
theorem rUnit0 (n:Nat)(hn:n≤1000000)(w:World)(h:Hp)(g:G w h):CR 191 #[nV n,sZ] w h (fun v h1=>∃ A c ts,v=.slice A (ts:List RT).length c∧ts.length≤c∧Sr A ts h1∧RTs h1 ts (List.replicate n 0)):=by
 have hs:=sS g;refine go Tryz.func191 [(0,nV n),(1,sZ)] rfl (cSL (lL hs [.v 4 (sZ)] (lNS (lL hs [.m 8 0] (lK 9 95 n 3 56 (.agg #[.bool false,sZ,sZ]) rqc ((false,sZ,sZ):RT) hs (fun b1 w2 h3 hs=>?_))))));have hl4:(List.replicate n ((false,sZ,sZ):RT)).length=n:=by simp
 refine lL hs [.m 5 9] (lN (cQ (cSL (lL hs [.v 6 (iV 0)] (lN (kZ ?_))))));replace hs:=hs.add (K:=fun h_=>RTz h_ (List.replicate n ((false,sZ,sZ):RT)) 0) ((fun j hj=>absurd hj (Nat.not_lt_zero j)));refine cTo _ (CG.loop (fun μ_ Γ w_=>∃ (k:Nat) (ts:List RT) (h_:Hp),μ_=n-k∧Γ=[(0,nV n),(1,sZ),(4,sZ),(5,.slice (sB b1) n n),(6,nV k)]∧SS w h w_ h_ [⟨b1,95,(ts).flatMap rqc⟩] [] [fun h_=>RTz h_ ts k]∧k≤n∧ts.length=n) _ ⟨0,List.replicate n ((false,sZ,sZ):RT),h3,rfl,rfl,hs.to _ _,Nat.zero_le _,hl4⟩ ?_);rintro _ _ w5 ⟨k,ts,h6,hm7,rfl,hs,hk,htl⟩;refine cQ (cSL (lL hs [.m 10 6,.m 11 0] ?_));cases hb8:(decide ((k:Int)<(n:Int)))
 ·
  have phb8:=oF hb8;refine lB 12 hb8 (lN (cIF (CG.exit ?_)))
  show CG _ _ _ _ _ _ _ _
  refine cQ (cSL (lL hs [.v 7 (iV 0)] (lN (kZ ?_))));refine cTo _ (CG.loop (fun μ_ Γ w_=>∃  (h_:Hp),μ_=0∧Γ=[(1,sZ),(4,sZ),(5,.slice (sB b1) n n),(7,iV 0)]∧SS w h w_ h_ [⟨b1,95,(ts).flatMap rqc⟩] [] [fun h_=>RTz h_ ts k]) _ ⟨h6,rfl,rfl,hs.to _ _⟩ ?_);rintro _ _ w9 ⟨h10,hm11,rfl,hs⟩;refine cQ (cSL (lL hs [.m 19 7,.m 20 1,.v 21 (iV 0),.v 22 (.bool false)] (lN (cIF (CG.exit ?_)))))
  show CG _ _ _ _ _ _ _ _
  refine cSL (lL hs [.m 40 5,.m 4 40] (lN (kX ?_)));have hkn:k=n:=by omega
  obtain ⟨h12,hs,sg13,lo14,bc15⟩:=hs.pub 0;replace hs:=(hs.to [] []).aS (SlO.of_flat (sz:=3) (f:=rqc) (d:=rqd) (b:=b1) (o:=0) (l:=ts) (fun _=>rfl) sg13);exact hs.ret [] (.slice (sB b1) n n) (⟨_,_,ts,by rw[htl],by omega,hs.f.1,(hkn▸(hs.f.2.1)).rts htl⟩)
 have phb8:=oT hb8;refine lB 12 hb8 (lN (cIT (cK (cQ (kZ (kQ (lL hs [.m 15 5,.m 16 6] (lC 17 hs (rOf 0 oM oM _ _ hs.g) ?_))))))));rintro _ w25 h26 hs ⟨A17,c18,A21,c22,rfl,hc19,hc23,hA20,hA24⟩;replace hs:=hs.aP hA20 hA24;refine lX 18 (sB b1) n n 3 (k:Nat) k rfl (lW 0 ts rqc 3 k ((ineg ((0:Int):Rat).num,.slice A17 ((lim (iabs ((0:Int):Rat).num)).length) c18,.slice A21 ((lim ((0:Int):Rat).den).length) c22):RT) hs oM (fun w27 hs=>?_));have hl28:((ts).set k ((ineg ((0:Int):Rat).num,.slice A17 ((lim (iabs ((0:Int):Rat).num)).length) c18,.slice A21 ((lim ((0:Int):Rat).den).length) c22):RT)).length=n:=by rw[List.length_set];exact htl
 replace hs:=hs.to [⟨b1,95,((ts).set k ((ineg ((0:Int):Rat).num,.slice A17 ((lim (iabs ((0:Int):Rat).num)).length) c18,.slice A21 ((lim ((0:Int):Rat).den).length) c22):RT)).flatMap rqc⟩] [];refine lN (kQ (lL hs [.m 13 6] (lIn 14 ((k:Nat)+1) (k+1) ?_)));refine lL hs [.m 6 14] (lD ?_);intro a_ ka;replace hs:=(hs.tl.tl.tl.add (K:=fun h_=>RTz h_ ((ts).set k ((ineg ((0:Int):Rat).num,.slice A17 ((lim (iabs ((0:Int):Rat).num)).length) c18,.slice A21 ((lim ((0:Int):Rat).den).length) c22):RT)) (k+1)) ((hs.f.r.1).set oM (rqOk hc19 hc23 hs.f.2.1 hs.f.1)));refine ⟨_,_,?_,⟨k+1,(ts).set k ((ineg ((0:Int):Rat).num,.slice A17 ((lim (iabs ((0:Int):Rat).num)).length) c18,.slice A21 ((lim ((0:Int):Rat).den).length) c22):RT),h26,rfl,rfl,hs.to _ _,oM,hl28⟩,ka.to _ kR⟩
 omega
theorem chkFrom_ok {ls:List Lay}:∀ (n k:Nat),chkFrom ls k n=0→∀ i,k≤i→i<k+n→Fine ls i∧Kd ls i
  | 0,k,_,i,h1,h2=>absurd h2 oM
  | n + 1,k,h,i,h1,h2=>by
    unfold chkFrom at h
    split at h
    · rename_i hf
      split at h
      · rename_i hd
        by_cases e:i=k
        · subst e;exact ⟨hf,hd⟩
        · exact chkFrom_ok n (k+1) h i oM oM
      · exact absurd h kD
    · exact absurd h kD
def dOf (ls:List Lay)(i:Nat):Nat:=if i=0 then ((ls.getD 0 lay0).W.getD 0 []).length else (ls.getD (i-1) lay0).W.length
theorem chk_net3 {ls:List Lay}(h:chkq ls=0):Net3 ls (dOf ls):=by
  unfold chkq at h
  split at h
  · rename_i hl
    have H:=chkFrom_ok ls.length 0 h;refine ⟨hl,?_,fun i hi=>?_⟩
    · obtain ⟨⟨_,_,_,f4,_⟩,_⟩:=H 0 oM oM
      show (if 0=0 then _ else _)≤20
      rw[if_pos rfl];exact f4 rfl
    · obtain ⟨⟨f1,f2,f3,f4,f5⟩,k1,k2⟩:=H i oM oM
      obtain ⟨r1,r2,r3⟩:=f1;have e1:dOf ls (i+1)=(ls.getD i lay0).W.length:=by show (if i+1=0 then _ else _)=_;rw[if_neg oM];rfl
      have e2:((ls.getD i lay0).W.getD 0 []).length=dOf ls i:=by
        by_cases h0:i=0
        · subst h0;show _=(if 0=0 then _ else _);rw[if_pos rfl]
        · rw[f5 oM];show _=(if i=0 then _ else _);rw[if_neg h0]
      rw[e1];refine ⟨⟨rfl,r1,by rw[←e2];exact r2,fun j hj=>by rw[←e2];exact r3 j hj⟩,f3,f2,by omega⟩
  · exact absurd h kD
structure LaySz (L:Lay):Prop where
  rl:L.W.length≤8
  rls:∀ i,(L.W.getD i []).length≤8
  bl:L.B.length≤8
  w:∀ i j,LQ 1 ((L.W.getD i []).getD j 0)
  b:∀ i,LQ 1 (L.B.getD i 0)
  b4:L.B.length≤4
  w4:(L.W.getD 0 []).length≤4
theorem LaySz.fit {L:Lay}(h:LaySz L):LayFit L:=⟨by have:=h.rl;omega,fun i _=>by have:=h.rls i;omega,fun i _ j _=>(h.w i j).mono oM,by have:=h.bl;omega,fun i _=>(h.b i).mono oM⟩
theorem LaySz.len {L:Lay}(h:LaySz L):LayLen L:=⟨by have:=h.rl;omega,fun i _=>by have:=h.rls i;omega,by have:=h.bl;omega⟩
theorem lq0 {k:Nat}(h:1≤k):LQ k 0:=(LQ.lit (z:=0) kD).mono h
def grow:Nat→Nat
  | 0=>1
  | k+1=>16*grow k+40
theorem layq_lq {L:Lay}{x:List Rat}{m:Nat}(h:LaySz L)(hx:∀ j,LQ m (x.getD j 0))(hl:x.length≤8)(hm:1≤m)(j:Nat):LQ (16*m+40) ((layq L x).getD j 0):=by
  unfold layq
  by_cases hj:j<L.W.length
  · rw[List.getD_eq_getElem?_getD,List.getElem?_eq_getElem (by simpa using hj),List.getElem_map,List.getElem_range]
    show LQ _ (act _ _)
    have h1:=LQ.dot (n:=x.length) (fun i _=>h.w j i) (fun i _=>hx i) x.length (Nat.le_refl _)
    have h2:=(h1.add (h.b j)).mono (l:=8*m+19) (by
      have:x.length*(1+m+1)≤8*(1+m+1):=Nat.mul_le_mul_right _ hl
      omega)
    exact (LQ.act _ h2 oM).mono oM
  · rw[List.getD_eq_getElem?_getD,List.getElem?_eq_none (by simpa using hj)]
    exact lq0 oM
theorem outq_lq {ls:List Lay}{d:Nat→Nat}(o:Net3 ls d)(hL:∀ k,LaySz (ls.getD k lay0)){xs:List Rat}(hx:xs.length=d 0)(hq:∀ j,LQ 1 (xs.getD j 0)):∀ k,k≤ls.length→∀ j,LQ (grow k) ((outq ls xs k).getD j 0)
  | 0,_,j=>hq j
  | k + 1,hk,j=>by
    show LQ (16*grow k+40) ((layq _ _).getD j 0)
    refine layq_lq (hL k) (outq_lq o hL hx hq k oM) ?_ ?_ j
    · rw[outq_len o hx k oM]
      have h0:=(o.lay k oM).1.row 0 (o.lay k oM).1.rpos;have:=(hL k).rls 0
      omega
    · cases k with
      | zero=>exact Nat.le_refl _
      | succ k=>show 1≤16*grow k+40;omega
theorem grow_le (k:Nat)(h:k≤4):grow k≤1000000:=by
  have:k=0∨k=1∨k=2∨k=3∨k=4:=by omega
  rcases this with rfl|rfl|rfl|rfl|rfl<;>decide
theorem lay0_sz:LaySz lay0:=⟨by decide,fun i=>by simp[lay0],by decide,fun i j=>by simp[lay0];exact lq0 oM,fun i=>by simp[lay0];exact lq0 oM,by decide,by decide⟩
theorem netB {ls:List Lay}{d:Nat→Nat}(o:Net3 ls d)(hL:∀ k,LaySz (ls.getD k lay0)){xs:List Rat}(hx:xs.length=d 0)(hq:∀ j,LQ 1 (xs.getD j 0)):NetB ls xs :=
  ⟨fun k i j=>((hL k).w i j).mono oM,fun k i=>((hL k).b i).mono oM,fun k hk j=>(outq_lq o hL hx hq k hk j).mono (grow_le k (by have:=o.len.2;omega))⟩
noncomputable def ansE (ls:List Lay)(xs:List Rat):Int:=if chkq ls=0 then (if xs.length=dOf ls 0 then 0 else 5) else 1
noncomputable def ansL (ls:List Lay)(xs:List Rat):List Rat:=if chkq ls=0∧xs.length=dOf ls 0 then outq ls xs ls.length else []
theorem ansE0 {ls:List Lay}{xs:List Rat}(h1:chkq ls=0)(h2:xs.length=dOf ls 0):ansE ls xs=0:=by unfold ansE;rw[if_pos h1,if_pos h2]
theorem ansE1 {ls:List Lay}{xs:List Rat}(h1:chkq ls≠0):ansE ls xs=1:=by unfold ansE;rw[if_neg h1]
theorem ansE5 {ls:List Lay}{xs:List Rat}(h1:chkq ls=0)(h2:xs.length≠dOf ls 0):ansE ls xs=5:=by unfold ansE;rw[if_pos h1,if_neg h2]
theorem ansL0 {ls:List Lay}{xs:List Rat}(h1:chkq ls=0)(h2:xs.length=dOf ls 0):ansL ls xs=outq ls xs ls.length:=by unfold ansL;rw[if_pos ⟨h1,h2⟩]
theorem ansL1 {ls:List Lay}{xs:List Rat}(h:¬(chkq ls=0∧xs.length=dOf ls 0)):ansL ls xs=[]:=by unfold ansL;rw[if_neg h]
theorem bneF' {a b:Int}(h:a=b):((a:Int) != (b:Int))=false:=by simpa using h
theorem nAnswer1 (A:Option Addr)(cap:Nat)(ts:List LV)(ls:List Lay)(hn:ls.length≤1000000)(hF:∀ i,i<ls.length→LayLen (ls.getD i lay0))(X:Option Addr)(c0:Nat)(xs:List Rat)(hc0:xs.length≤c0)(hB:chkq ls=0→xs.length=dOf ls 0→NetB ls xs)(h1:chkq ls≠0)(w:World)(h:Hp)(g:G w h)(hA:Sl A ts h)(hN:NetL h ts ls)(hX:Sq X xs h)(tb:Tab h):CR 25 #[.agg #[.slice A ts.length cap],.slice X xs.length c0] w h (fun v h1=>∃ A c,v=.tuple #[.slice A (ansL ls xs).length c,iV (ansE ls xs)]∧(ansL ls xs).length≤c∧Sq A (ansL ls xs) h1):=by
 have hs:=(((((sS g).aS hA).aN hN).aS hX).aB tb);refine go Tryz.func25 [(0,.agg #[.slice A ts.length cap]),(1,.slice X xs.length c0)] rfl (cSL (lA 2 28 ([.slice A ts.length cap]) hs (fun b1 w2 h3 hs=>lL hs [.v 4 (sZ),.v 5 (iV 0)] (lN (cQ (cSL (lL hs [.o 6 (.agg #[.slice A ts.length cap]) 0 0 1] (lC 7 hs (nCheckG A cap ts ls hn hF _ _ hs.g hs.f.r.2.1 hs.f.r.1) ?_))))))));rintro _ w4 h5 hs rfl;have hb6:((chkq ls:Int) != (0:Int))=true:=bneT h1;have phb6:=neOfBne hb6;exact lB 8 hb6 (lN (cIT (cSL (lL hs [.v 4 (sZ),.v 5 (iV 1)] (lN (kX (hs.ret [] (.tuple #[sZ,iV 1]) (⟨none,0,by rw[ansE1 h1,ansL1 (fun e=>h1 e.1)];rfl,by rw[ansL1 (fun e=>h1 e.1)];exact nR _,by rw[ansL1 (fun e=>h1 e.1)];exact SlO.nil⟩))))))))
theorem nAnswer5 (A:Option Addr)(cap:Nat)(ts:List LV)(ls:List Lay)(hn:ls.length≤1000000)(hF:∀ i,i<ls.length→LayLen (ls.getD i lay0))(X:Option Addr)(c0:Nat)(xs:List Rat)(hc0:xs.length≤c0)(hB:chkq ls=0→xs.length=dOf ls 0→NetB ls xs)(h1:chkq ls=0)(h2:xs.length≠dOf ls 0)(w:World)(h:Hp)(g:G w h)(hA:Sl A ts h)(hN:NetL h ts ls)(hX:Sq X xs h)(tb:Tab h):CR 25 #[.agg #[.slice A ts.length cap],.slice X xs.length c0] w h (fun v h1=>∃ A c,v=.tuple #[.slice A (ansL ls xs).length c,iV (ansE ls xs)]∧(ansL ls xs).length≤c∧Sq A (ansL ls xs) h1):=by
 have hs:=(((((sS g).aS hA).aN hN).aS hX).aB tb);refine go Tryz.func25 [(0,.agg #[.slice A ts.length cap]),(1,.slice X xs.length c0)] rfl (cSL (lA 2 28 ([.slice A ts.length cap]) hs (fun b1 w2 h3 hs=>lL hs [.v 4 (sZ),.v 5 (iV 0)] (lN (cQ (cSL (lL hs [.o 6 (.agg #[.slice A ts.length cap]) 0 0 1] (lC 7 hs (nCheckG A cap ts ls hn hF _ _ hs.g hs.f.r.2.1 hs.f.r.1) ?_))))))));rintro _ w4 h5 hs rfl;have hb6:((chkq ls:Int) != (0:Int))=false:=bneF' h1;have phb6:=eqOfBne hb6;refine lB 8 hb6 (lN (cIF (cK (cQ (cSL (lL hs [.o 9 (.agg #[.slice A ts.length cap]) 0 0 1,.m 10 1] (lC 11 hs (nSuitsF A cap ts ls (dOf ls) (chk_net3 h1) X c0 xs h2 _ _ hs.g hs.f.r.2.1 hs.f.r.1 hs.f.2.1) ?_)))))));rintro _ w7 h8 hs rfl;exact lL hs [.v 12 (.bool true)] (lN (cIT (cSL (lL hs [.v 4 (sZ),.v 5 (iV 5)] (lN (kX (hs.ret [] (.tuple #[sZ,iV 5]) (⟨none,0,by rw[ansE5 h1 h2,ansL1 (fun e=>h2 e.2)];rfl,by rw[ansL1 (fun e=>h2 e.2)];exact nR _,by rw[ansL1 (fun e=>h2 e.2)];exact SlO.nil⟩))))))))
theorem nAnswer0 (A:Option Addr)(cap:Nat)(ts:List LV)(ls:List Lay)(hn:ls.length≤1000000)(hF:∀ i,i<ls.length→LayLen (ls.getD i lay0))(X:Option Addr)(c0:Nat)(xs:List Rat)(hc0:xs.length≤c0)(hB:chkq ls=0→xs.length=dOf ls 0→NetB ls xs)(h1:chkq ls=0)(h2:xs.length=dOf ls 0)(w:World)(h:Hp)(g:G w h)(hA:Sl A ts h)(hN:NetL h ts ls)(hX:Sq X xs h)(tb:Tab h):CR 25 #[.agg #[.slice A ts.length cap],.slice X xs.length c0] w h (fun v h1=>∃ A c,v=.tuple #[.slice A (ansL ls xs).length c,iV (ansE ls xs)]∧(ansL ls xs).length≤c∧Sq A (ansL ls xs) h1):=by
 have hs:=(((((sS g).aS hA).aN hN).aS hX).aB tb);refine go Tryz.func25 [(0,.agg #[.slice A ts.length cap]),(1,.slice X xs.length c0)] rfl (cSL (lA 2 28 ([.slice A ts.length cap]) hs (fun b1 w2 h3 hs=>lL hs [.v 4 (sZ),.v 5 (iV 0)] (lN (cQ (cSL (lL hs [.o 6 (.agg #[.slice A ts.length cap]) 0 0 1] (lC 7 hs (nCheckG A cap ts ls hn hF _ _ hs.g hs.f.r.2.1 hs.f.r.1) ?_))))))));rintro _ w4 h5 hs rfl;have hb6:((chkq ls:Int) != (0:Int))=false:=bneF' h1;have phb6:=eqOfBne hb6;refine lB 8 hb6 (lN (cIF (cK (cQ (cSL (lL hs [.o 9 (.agg #[.slice A ts.length cap]) 0 0 1,.m 10 1] (lC 11 hs (nSuitsT A cap ts ls (dOf ls) (chk_net3 h1) X c0 xs h2 _ _ hs.g hs.f.r.2.1 hs.f.r.1 hs.f.2.1) ?_)))))));rintro _ w7 h8 hs rfl;refine lL hs [.v 12 (.bool false)] (lN (cIF (cK (cSL (lL hs [.o 13 (.agg #[.slice A ts.length cap]) 0 0 1,.m 14 1] (lC 15 hs (nForward A cap ts ls (dOf ls) (chk_net3 h1) X c0 xs h2 hc0 (hB h1 h2) _ _ hs.g hs.f.r.2.1 hs.f.r.1 hs.f.2.1 hs.f.1) ?_))))));rintro _ w9 h10 hs ⟨A1,c1,u1,A2,c2,u2,Ax,cx,rfl,-,-,hcx,-,-,-,-,hXk⟩;replace hs:=hs.aS hXk;exact lL hs [.v 16 (.slice Ax ((outq ls xs ls.length).length) cx),.m 4 16,.v 5 (iV 0)] (lN (kX (hs.ret [] (.tuple #[.slice Ax ((outq ls xs ls.length).length) cx,iV 0]) (⟨_,_,by rw[ansE0 h1 h2,ansL0 h1 h2],by rw[ansL0 h1 h2];exact hcx,by rw[ansL0 h1 h2];exact hs.f.1⟩))))
theorem nAnswer (A:Option Addr)(cap:Nat)(ts:List LV)(ls:List Lay)(hn:ls.length≤1000000)(hF:∀ i,i<ls.length→LayLen (ls.getD i lay0))(X:Option Addr)(c0:Nat)(xs:List Rat)(hc0:xs.length≤c0)(hB:chkq ls=0→xs.length=dOf ls 0→NetB ls xs)(w:World)(h:Hp)(g:G w h)(hA:Sl A ts h)(hN:NetL h ts ls)(hX:Sq X xs h)(tb:Tab h):Calls Tryz.prog 25 #[.agg #[.slice A ts.length cap],.slice X xs.length c0] w (Ret w h (fun v h1=>∃ A c,v=.tuple #[.slice A (ansL ls xs).length c,iV (ansE ls xs)]∧(ansL ls xs).length≤c∧Sq A (ansL ls xs) h1)):=by
  by_cases h1:chkq ls=0
  · by_cases h2:xs.length=dOf ls 0
    · exact nAnswer0 A cap ts ls hn hF X c0 xs hc0 hB h1 h2 w h g hA hN hX tb
    · exact nAnswer5 A cap ts ls hn hF X c0 xs hc0 hB h1 h2 w h g hA hN hX tb
  · exact nAnswer1 A cap ts ls hn hF X c0 xs hc0 hB h1 w h g hA hN hX tb
def sizesq (ls:List Lay):List Nat:=dOf ls 0::ls.map (·.W.length)
theorem rNetSizes (A:Option Addr)(cap:Nat)(ts:List LV)(ls:List Lay)(hO:Net3 ls (dOf ls))(w:World)(h:Hp)(g:G w h)(hA:Sl A ts h)(hN:RNetL h ts ls):CR 70 #[.agg #[.slice A ts.length cap]] w h (fun v h1=>∃ A c,v=.slice A (sizesq ls).length c∧(sizesq ls).length≤c∧Sn A (sizesq ls) h1):=by
 have hs:=(((sS g).aS hA).aM hN);have hl:=(hs.f.1).len;obtain ⟨o1,o2⟩:=hO.len;have o3:=hO.first;refine go Tryz.func70 [(0,.agg #[.slice A ts.length cap])] rfl (cSL (lA 1 36 ([.slice A ts.length cap]) hs (fun b1 w2 h3 hs=>lL hs [.v 2 (sZ)] (lNS (lL hs [.v 5 (pB b1),.o 6 (.slice A ts.length cap) 0 0 1] (lX 7 A ts.length cap 3 0 0 ((hs.f.2.1).ok oM) ?_))))));refine lL hs [.v 8 (.pointer (some ⟨(aB A),aO A+0*3+1,none⟩))] ?_;obtain ⟨mtx,lbx,r12x,kdx⟩:=hO.lay 0 oM;obtain ⟨ekx,⟨AWx,cWx,usx,eWx,hcWx,hAWx,hTWx⟩,⟨ABx,cBx,rsx,eBx,hcBx,hABx,hTBx⟩⟩:=(hs.f.1).at_ 0 oM;replace hs:=((((hs.aS hAWx).aV hTWx).aS hABx).aT hTBx);refine lHe 9 ((ts.getD 0 lvd).2.1) hs (((hs.f.q.2.1).el 0 oM).part 1 1) eWx ?_;have mrx:=mtx.rows;have mpx:=mtx.rpos;have mcx:=mtx.cpos;have lux:=(hs.f.r.1).len;have m0x:=mtx.row 0 oM;refine lX 10 AWx usx.length cWx 1 0 0 ((hs.f.r.2.1).ok oM) ?_;obtain ⟨Arp,crp,trp,erp,hcrp,hRrp,hTrp⟩:=(hs.f.r.1).at_ 0 oM;have hlrp:=hTrp.len;replace hs:=((hs.aS hRrp).aT hTrp);refine lHe 11 (usx.getD 0 undef) hs ((hs.f.q.2.1).el 0 oM) erp (lL hs [.v 12 (nV trp.length)] (lRw 13 3 1 natc ([trp.length]:List Nat) hs (fun b4 w5 h6 hs=>lL hs [.m 3 13] (lN (cQ (cSL (lL hs [.v 4 (iV 0)] (lN (kZ ?_)))))))));refine cTo _ (CG.loop (fun μ_ Γ w_=>∃ (k:Nat) (sA:Option Addr) (sc:Nat) (zl:List Nat) (h_:Hp),μ_=ls.length-k∧Γ=[(1,pB b1),(2,sZ),(4,nV k),(3,.slice sA ((zl).length) sc)]∧SS w h w_ h_ [⟨b1,36,[.slice A ts.length cap]⟩] [⟨3,1,sA,sc,(zl).length,(zl).flatMap natc⟩] [Rt trp (((ls.getD 0 lay0).W).getD 0 []),Sr Arp trp,Rt rsx (ls.getD 0 lay0).B,Sr ABx rsx,Ru usx (ls.getD 0 lay0).W,Sv AWx usx,Rn ts ls,Sl A ts]∧k≤ls.length∧(zl=dOf ls 0::(ls.take k).map (·.W.length))) _ ⟨0,sB b4,(([trp.length]:List Nat)).length,([trp.length]:List Nat),h6,rfl,rfl,hs.to _ _,Nat.zero_le _,(by rw[hlrp];rfl)⟩ ?_);rintro _ _ w9 ⟨k,sA,sc,zl,h10,hm11,rfl,hs,hk,hzl⟩;have hzz:zl.length=k+1:=by rw[hzl];simp;omega
 refine cQ (cSL (lL hs [.m 14 4,.v 15 (pB b1),.o 16 (.slice A ts.length cap) 0 0 1,.v 17 (nV ts.length)] ?_));cases hb12:(decide ((k:Int)<(ts.length:Int)))
 ·
  have phb12:=oF hb12;refine lB 18 hb12 (lN (cIF (CG.exit ?_)))
  show CG _ _ _ _ _ _ _ _
  refine cSL (lL hs [.m 31 3,.m 2 31] (lN (kX ?_)));have hkn:k=ls.length:=by omega
  have hzs:zl=sizesq ls:=by rw[hzl,hkn,List.take_length];rfl
  obtain ⟨h13,hs,hc14⟩:=hs.pubr 0 (A:=sA) (c:=sc) (l:=zl) (f:=natc) (ty:=3) (sz:=1) 0 (fun _=>rfl);exact hs.ret [] (.slice sA ((zl).length) sc) (by rw[←hzs];exact ⟨_,_,rfl,hc14,hs.f.1⟩)
 have phb12:=oT hb12;refine lB 18 hb12 (lN (cIT (cK (cQ (kZ (kQ (lL hs [.m 21 3,.v 22 (pB b1),.o 23 (.slice A ts.length cap) 0 0 1,.m 24 4] (lX 25 A ts.length cap 3 (k:Nat) k ((hs.f.q.r.2.1).ok oM) ?_))))))));refine lL hs [.v 26 (.pointer (some ⟨(aB A),aO A+k*3+1,none⟩))] ?_;obtain ⟨mty,lby,r12y,kdy⟩:=hO.lay k oM;obtain ⟨eky,⟨AWy,cWy,usy,eWy,hcWy,hAWy,hTWy⟩,⟨ABy,cBy,rsy,eBy,hcBy,hABy,hTBy⟩⟩:=(hs.f.q.r.1).at_ k oM;replace hs:=((((hs.aS hAWy).aV hTWy).aS hABy).aT hTBy);refine lHe 27 ((ts.getD k lvd).2.1) hs (((hs.f.q.q.r.2.1).el k oM).part 1 1) eWy ?_;have mry:=mty.rows;have mpy:=mty.rpos;have mcy:=mty.cpos;have luy:=(hs.f.r.1).len;have m0y:=mty.row 0 oM;refine lL hs [.v 28 (nV usy.length)] (lR 29 3 1 ([nV usy.length]) hs (fun b16 w17 h18 hs=>lY 30 0 3 1 sc sA zl natc usy.length 8 b16 (iV 0) hs hs.f.1 (fun A20 c21 w22 h23 hs=>lL hs [.m 3 30] (lN (kQ (lL hs [.m 19 4] (lIn 20 ((k:Nat)+1) (k+1) ?_)))))));refine lL hs [.m 4 20] (lD ?_);intro a_ ka;replace hs:=hs.tl.tl.tl.tl.tl;refine ⟨_,_,?_,⟨k+1,A20,c21,zl++[usy.length],h23,rfl,rfl,hs.to _ _,oM,(by rw[take_snoc' lay0 oM,List.map_append,hzl,luy];rfl)⟩,ka.to _ kR⟩
 omega
theorem Seg.runF {α:Type}{K:Nat}{P:Program}{w w':World}{h:Hp}{b o:Nat}{cs:List Value}{s:Sem α}{r:α}(sg:Seg h b o cs)(g:G w h)(hK:w.heap.size≤K)(x:Mo [K] w w')(he:evalL P s cs=some (r,mka b o cs.length)):s.run P w'=.ok r w' :=
  evalL_run _ _ _ _ he (fun i a v ha hv=>by
    rw[mka_get _ _ _ _ _ ha];have e:=sg i v hv;have hc:=hcell_w g e
    have hl:b<w.heap.size:=by
      rcases Nat.lt_or_ge b w.heap.size with hl|hl
      · exact hl
      · unfold World.cell? at hc;rw[Array.getElem?_eq_none hl] at hc;cases hc
    have hb:=x.blk b hl (fun hm=>by have:=List.mem_singleton.1 hm;omega)
    unfold World.cell? at hc ⊢
    rw[hb];exact hc)
section fut
variable {P:Program} {n:Nat} {N R:Po} {X:Nat→Po} {ops:Array Oper} {k0 K:Nat} {L:Array Bool} {Γ:Env} {w:World} {h:Hp} {w0:World} {h0:Hp} {B:List Bx} {Rs:List Rw} {F:List (Hp→Prop)}
theorem fHe (i t:Nat)(v:Value){u:Value}{b o:Nat}{cs:List Value}(s:SS w0 h0 w h B Rs F)(hK:w.heap.size≤K)(sg:Seg h b o cs)(e:v=u)(H:AG ⟨[K],none⟩ P n N R X ops k0 (L.setIfInBounds i true) ((t,u)::Γ) w)(hc:cEl n ops k0 [] L Γ i t=true:=by kernel_rfl)(he:evalL P (execOp (ev Γ) (opAt ops i)) cs=some (.value v,mka b o cs.length):=by kernel_rfl):AG ⟨[K],none⟩ P n N R X ops k0 L Γ w :=
  aL i t u (fun _ hx=>e▸Seg.runF sg s.g hK hx he) H hc
theorem fRq (i t j:Nat)(v:Value)(ds:List Value){ty:TypeId}{sz c m b o:Nat}{cs:List Value}(s:SS w0 h0 w h B Rs F)(hK:w.heap.size≤K)(hds:(cs.drop o).take ds.length=ds)(H:AG ⟨[K],none⟩ P n N R X ops k0 (L.setIfInBounds i true) ((t,v)::Γ) w)(hr':Rs.getD j default=⟨ty,sz,some ⟨b,0,none⟩,c,m,cs⟩:=by kernel_rfl)(hj:decide (j<Rs.length)=true:=by kernel_rfl)(hc:cEl n ops k0 [] L Γ i t=true:=by kernel_rfl)(he:evalL P (execOp (ev Γ) (opAt ops i)) ds=some (.value v,mka b o ds.length):=by kernel_rfl):AG ⟨[K],none⟩ P n N R X ops k0 L Γ w:=by
  obtain ⟨vs,ho,hv,_⟩:=s.rowO j hr' (oT hj);have hn:b ∉ [K]:=fun hm=>by have:=List.mem_singleton.1 hm;have:=ho.lt;omega
  exact aL i t v (fun w' hx=>evalL_run _ _ _ _ he (fun q a v ha hv'=>by rw[mka_get _ _ _ _ _ ha,(ho.mo hx hn).cell];exact take_get hv (take_drop_get hds q v hv'))) H hc
theorem fEv {M:Ms}(i t:Nat)(v:Value)(w':World)(hm:Mo M.l w w')(H:AG M P n N R X ops k0 (L.setIfInBounds i true) ((t,v)::Γ) w')(hr:(execOp (ev Γ) (opAt ops i)).run P w=.ok (.value v) w')(hc:(chkK ops k0 L i && knownOp Γ (opAt ops i) && ((opAt ops i).dst == some t) && decide (t<n))=true)(hw:wantE ops Γ (opAt ops i)=some true):AG M P n N R X ops k0 L Γ w:=by
  simp only[Bool.and_eq_true,decide_eq_true_eq,beq_iff_eq] at hc
  obtain ⟨⟨⟨h1,h2⟩,h3⟩,h4⟩:=hc
  unfold chkK at h1
  simp only[Bool.and_eq_true,decide_eq_true_eq,beq_iff_eq] at h1
  have hg:=opAt_get (ops:=ops) h1.1.1.1;intro a ka;refine A.intro (fun h0=>by rw[h1.2] at h0;cases h0) (fun j hj=>?_);rw[h1.2,List.mem_singleton] at hj
  subst hj;refine OpR.wpOp (R:=fun u w1=>u=v∧w1=w') hg ⟨ka.want hw,.inl ⟨v,w',?_,rfl,rfl⟩⟩ (fun u w1 hq=>⟨Rl.mo h1.1.1.2 (hq.2▸hm),?_⟩)
  · rw[ka.exec (Region.noSelect_spec h1.1.2 j _ · · hg) h2];exact hr
  · rw[h3,hq.1,hq.2];exact H _ (ka.put h4 v)
theorem fR {M:Ms}(i t:Nat)(ty:TypeId)(m:Nat)(cs:List Value)(s:SS w0 h0 w h B Rs F)(H:∀ b w' h',w'.heap.size=w.heap.size+1→SS w0 h0 w' h' B Rs ((fun h=>Seg h b 0 cs)::F)→AG M P n N R X ops k0 (L.setIfInBounds i true) ((t,.slice (some ⟨b,0,none⟩) m m)::Γ) w')(hc:(chkK ops k0 L i && knownOp Γ (opAt ops i) && ((opAt ops i).dst == some t) && decide (t<n))=true:=by kernel_rfl)(hw:wantE ops Γ (opAt ops i)=some true:=by kernel_rfl)
    (hr:(execOp (ev Γ) (opAt ops i)).run P w=.ok (.value (.slice (some ⟨w.heap.size,0,none⟩) m m)) (w.alloc (.cells cs.toArray ty (0,0))):=by kernel_rfl):AG M P n N R X ops k0 L Γ w :=
  fEv i t _ _ ((Up.allocAny s.g _ _ (.inl rfl)).ext.mo M.l) (H _ _ _ (by rw[heap_alloc,Array.size_push]) ((s.step (Up.allocAny s.g _ _ (.inl rfl))).a_Seg (by rw[s.g.size];exact Seg.new cs ty))) hr hc hw
theorem fYz {M:Ms}{α:Type}(i t:Nat)(ty:TypeId)(sz:Nat)(f:α→List Value)(d:α)(b0:Nat)(A2:Option Addr)(m:List α)(c2 bt:Nat)(z:Value)(s:SS w0 h0 w h B Rs F)(so:SlO sz f d h A2 m)(hm0:0<m.length)(h1:∀ x∈m,(f x).all (·.oneCell')=true)
    (H:∀ A' c' w' h',(∀ b,(Value.slice A' m.length c').ownBlock=some b→b=w.heap.size)→SS w0 h0 w' h' B (⟨ty,sz,A',c',m.length,m.flatMap f⟩::Rs) F→AG M P n N R X ops k0 (L.setIfInBounds i true) ((t,.slice A' m.length c')::Γ) w')
    (hc:(chkK ops k0 L i && knownOp Γ (opAt ops i) && ((opAt ops i).dst == some t) && decide (t<n))=true:=by kernel_rfl)(hw:wantE ops Γ (opAt ops i)=some true:=by kernel_rfl)(he:apE P (ev Γ) (opAt ops i)=some (.slice (some ⟨b0,0,none⟩) 0 0,.slice A2 m.length c2,ty,z,sz,bt):=by kernel_rfl)(hf:∀ x,(f x).length=sz:=by intro _;rfl)(hzs:z.cells.size=sz:=by kernel_rfl)(hpos:0<sz:=by decide)(hm:m.length≤1099511627776:=by omega)(hb:m.length*bt≤140737488355328:=by omega):AG M P n N R X ops k0 L Γ w:=by
  rw[so.ok hm0] at he
  obtain ⟨x',y,ty',ho,hx,hy,hu,hi⟩:=apE_op he
  obtain ⟨v',w',hrun,ow,gr,hloc⟩:=app_runE (P:=P) ho hx hy hu hi hzs hpos s.st (len_flat hf m) (seg_newsO s.g (so.flat hf)) (fun u hu=>by
    obtain ⟨x,hx',hx⟩:=List.mem_flatMap.1 hu;exact (List.all_eq_true.1 (h1 x hx')) u hx) hm0 hm hb
  obtain ⟨h',A',c',rfl,e2,s'⟩:=(s.nil ty sz).grown (j:=0) (by simp) (w':=w') (v':=v') (m2:=m.length) (news:=m.flatMap f) ow gr hloc;have hrun':(execOp (ev Γ) (opAt ops i)).run P w=.ok (.value (.slice A' m.length c')) w':=by rw[hrun];simp
  refine fEv i t _ w' ⟨gr.os,gr.tape,gr.output,gr.size,fun c hc _=>gr.block c hc (by simp[Value.ownBlock])⟩ (H A' c' w' h' ?_ (by simpa using s')) hrun' hc hw;intro b hb'
  rcases hloc with e|e
  · have e3:some b=(Value.slice none 0 0).ownBlock:=hb'.symm.trans (by simpa [Value.ownBlock] using e)
    simp[Value.ownBlock] at e3
  · have e3:some b=some w.heap.size:=hb'.symm.trans (by simpa [Value.ownBlock] using e)
    injection e3
theorem fY {M:Ms}{α:Type}(i t j:Nat)(ty:TypeId)(sz c:Nat)(A:Option Addr)(l:List α)(f:α→List Value)(x:α)(bt b:Nat)(z:Value)(s:SS w0 h0 w h B Rs F)(sg:Seg h b 0 (f x))(hMv:∀ b,(Value.slice A l.length c).ownBlock=some b→b∈M.l)
    (H:∀ A' c' w' h',SS w0 h0 w' h' B (Rs.set j ⟨ty,sz,A',c',(l++[x]).length,(l++[x]).flatMap f⟩) F→AG M P n N R X ops k0 (L.setIfInBounds i true) ((t,.slice A' (l++[x]).length c')::Γ) w')
    (hc:(chkK ops k0 L i && knownOp Γ (opAt ops i) && ((opAt ops i).dst == some t) && decide (t<n))=true:=by kernel_rfl)(hw:wantE ops Γ (opAt ops i)=some true:=by kernel_rfl)(he:apE P (ev Γ) (opAt ops i)=some (.slice A l.length c,.slice (some ⟨b,0,none⟩) 1 1,ty,z,sz,bt):=by kernel_rfl)(hzs:z.cells.size=sz:=by kernel_rfl)(hpos:0<sz:=by decide)
    (hr':Rs.getD j default=⟨ty,sz,A,c,l.length,l.flatMap f⟩:=by kernel_rfl)(hj:decide (j<Rs.length)=true:=by kernel_rfl)(h1:(f x).all (·.oneCell')=true:=by kernel_rfl)(hl:(f x).length=1*sz:=by kernel_rfl)(hm:l.length+1≤1099511627776:=by omega)(hb:(l.length+1)*bt≤140737488355328:=by omega):AG M P n N R X ops k0 L Γ w:=by
  have hj':=oT hj;obtain ⟨x',y,ty',ho,hx,hy,hu,hi⟩:=apE_op he;have r:=s.ro _ (List.getElem_mem hj');have er:=rw_get hr' hj';rw[er] at r
  obtain ⟨v',w',hrun,ow,gr,hloc⟩:=app_run (P:=P) ho hx hy hu hi hzs hpos s.st r hl (seg_news s.g sg) (fun u hu=>(List.all_eq_true.1 h1) u hu) hm hb;have hg:=s.grown (j:=j) hj' (w':=w') (v':=v') (m2:=1) (news:=f x) (by rw[er];exact ow) (by rw[er];exact gr) (by rw[er];exact hloc);rw[er] at hg
  obtain ⟨h',A',c',rfl,e2,s'⟩:=hg;have e1:l.length+1=(l++[x]).length:=by simp
  simp only[] at s'
  rw[snoc_row,e1] at s'
  rw[e1] at hrun
  exact fEv i t _ w' ⟨gr.os,gr.tape,gr.output,gr.size,fun c hc hn=>gr.block c hc (fun e=>hn (hMv c e.symm))⟩ (H A' c' w' h' s') hrun hc hw
end fut
theorem getD_drop_ {α:Type}{l:List α}{n i:Nat}{d:α}:(l.drop n).getD i d=l.getD (n+i) d:=by simp[List.getD_eq_getElem?_getD]
theorem rts_drop {h:Hp}{ts:List RT}{qs:List Rat}(r:RTs h ts qs):RTs h (ts.drop 1) (qs.drop 1):=⟨by rw[List.length_drop,List.length_drop,r.len],fun i hi=>by rw[List.length_drop] at hi;rw[getD_drop_,getD_drop_];exact r.at_ _ oM⟩
theorem rvs_drop {h:Hp}{us:List Value}{W:List (List Rat)}(r:RVs h us W):RVs h (us.drop 1) (W.drop 1):=⟨by rw[List.length_drop,List.length_drop,r.len],fun i hi=>by rw[List.length_drop] at hi;rw[getD_drop_,getD_drop_];exact r.at_ _ oM⟩
theorem rnet_drop {h:Hp}{ts:List LV}{ls:List Lay}(r:RNetL h ts ls):RNetL h (ts.drop 1) (ls.drop 1):=⟨by rw[List.length_drop,List.length_drop,r.len],fun i hi=>by rw[List.length_drop] at hi;rw[getD_drop_,getD_drop_];exact r.at_ _ oM⟩
theorem getD_app_ {α:Type}{a b:List α}{i:Nat}{d:α}:(a++b).getD i d=if i<a.length then a.getD i d else b.getD (i-a.length) d:=by
  simp only[List.getD_eq_getElem?_getD,List.getElem?_append];split<;>rfl
theorem rnet_app {h:Hp}{ts ts2:List LV}{ls ls2:List Lay}(r:RNetL h ts ls)(r2:RNetL h ts2 ls2):RNetL h (ts++ts2) (ls++ls2):=⟨by rw[List.length_append,List.length_append,r.len,r2.len],fun i hi=>by
  rw[List.length_append] at hi
  rw[getD_app_,getD_app_,r.len]
  split
  · exact r.at_ i aM
  · exact r2.at_ _ oM⟩
theorem getD_set_ {α:Type}{l:List α}{n i:Nat}{d x:α}(h:n<l.length):(l.set n x).getD i d=if i=n then x else l.getD i d:=by
  split
  · rename_i e;subst e;simp[h]
  · rename_i e;rw[List.getD_eq_getElem?_getD,List.getElem?_set_ne (Ne.symm e),←List.getD_eq_getElem?_getD]
theorem rnet_set {h:Hp}{ts:List LV}{ls:List Lay}(r:RNetL h ts ls)(k:Nat)(hk:k<ls.length){t:LV}{L:Lay}(hx:t.1=L.k∧(∃ A c,∃ us:List Value,t.2.1=.slice A us.length c∧us.length≤c∧SlO 1 vc undef h A us∧RVs h us L.W) ∧
    (∃ A c,∃ rs:List RT,t.2.2=.slice A rs.length c∧rs.length≤c∧SlO 3 rqc rqd h A rs∧RTs h rs L.B)):RNetL h (ts.set k t) (ls.set k L):=⟨by rw[List.length_set,List.length_set,r.len],fun i hi=>by
  rw[List.length_set] at hi
  rw[getD_set_ (by rw[r.len];exact hk),getD_set_ hk]
  split
  · exact hx
  · exact r.at_ i hi⟩
theorem ln_one {h:Hp}{ts:List LV}{ls:List Lay}(r:RNetL h ts ls):∀ t∈ts,(lvc t).all (·.oneCell')=true:=fun t ht=>by
  obtain ⟨i,hi,e⟩:=List.mem_iff_getElem.1 ht;obtain ⟨_,⟨A,c,us,e1,_⟩,⟨B,d,rs,e2,_⟩⟩:=r.at_ i (by rw[←r.len];exact hi);have e3:ts.getD i lvd=t:=by simp[hi,e]
  rw[e3] at e1 e2
  unfold lvc;rw[e1,e2];rfl
theorem rv_one {h:Hp}{us:List Value}{W:List (List Rat)}(r:RVs h us W):∀ v∈us,(vc v).all (·.oneCell')=true:=fun v hv=>by
  obtain ⟨i,hi,e⟩:=List.mem_iff_getElem.1 hv;obtain ⟨A,c,ts,e1,_⟩:=r.at_ i (by rw[←r.len];exact hi);have e3:us.getD i undef=v:=by simp[hi,e]
  rw[e3] at e1
  unfold vc;rw[e1];rfl
structure LayS4 (L:Lay):Prop where
  rl:L.W.length≤4
  rls:∀ i,(L.W.getD i []).length≤4
  bl:L.B.length≤4
  w:∀ i j,LQ 1 ((L.W.getD i []).getD j 0)
  b:∀ i,LQ 1 (L.B.getD i 0)
theorem LayS4.sz {L:Lay}(h:LayS4 L):LaySz L:=⟨by have:=h.rl;omega,fun i=>by have:=h.rls i;omega,by have:=h.bl;omega,h.w,h.b,h.bl,h.rls 0⟩
theorem sz_set {ls:List Lay}(h:∀ i,LaySz (ls.getD i lay0)){k:Nat}{L:Lay}(hL:LaySz L):∀ i,LaySz ((ls.set k L).getD i lay0):=fun i=>by
  rcases Nat.lt_or_ge k ls.length with hk|hk
  · rw[getD_set_ hk];split
    · exact hL
    · exact h i
  · rw[List.set_eq_of_length_le hk];exact h i
theorem sz_app {a b:List Lay}(h:∀ i,LaySz (a.getD i lay0))(h2:∀ i,LaySz (b.getD i lay0)):∀ i,LaySz ((a++b).getD i lay0):=fun i=>by
  rw[getD_app_];split
  · exact h i
  · exact h2 _
theorem lay_wide {L:Lay}(z:LayS4 L){r:List Rat}(hl:r.length≤8)(hq:∀ i,LQ 1 (r.getD i 0))(hw:0<L.W.length):LaySz ⟨L.k,L.W++[r],L.B⟩:=by
  refine ⟨by show (L.W++[r]).length≤8;rw[List.length_append,List.length_singleton];have:=z.rl;omega,fun i=>?_,z.sz.bl,fun i j=>?_,z.b,z.bl,by show ((L.W++[r]).getD 0 []).length≤4;rw[getD_snoc,if_pos hw];exact z.rls 0⟩
  · show ((L.W++[r]).getD i []).length≤8
    rw[getD_snoc];split
    · exact z.sz.rls i
    · split
      · exact hl
      · exact Nat.zero_le _
  · show LQ 1 (((L.W++[r]).getD i []).getD j 0)
    rw[getD_snoc];split
    · exact z.w i j
    · split
      · exact hq j
      · exact lq0'
theorem lq_rep {n:Nat}(i:Nat):LQ 1 ((List.replicate n ((1:Int):Rat)).getD i 0):=by
  rw[List.getD_eq_getElem?_getD,List.getElem?_replicate];split
  · exact LQ.lit (z:=1) kD
  · exact lq0'
theorem mUnit (n:Nat)(hn:n≤1000000)(w:World)(h:Hp)(g:G w h):CR 58 #[nV n] w h (fun v h1=>∃ A c ts,v=.slice A (ts:List RT).length c∧ts.length≤c∧Sr A ts h1∧RTs h1 ts (List.replicate n ((1:Int):Rat))):=by
 have hs:=sS g;refine go Tryz.func58 [(0,nV n)] rfl (cSL (lL hs [.v 2 (sZ)] (lNS (lL hs [.v 3 (sZ)] (lN (cQ (cSL (lL hs [.v 4 (iV 0)] (lN (kZ ?_))))))))));replace hs:=hs.nil 95 3;refine cTo [(0,nV n),(2,sZ),(4,iV 0),(3,sZ)] ?_;replace hs:=hs.aT (RTs.nil);refine CG.loop (fun μ_ Γ w_=>∃ (k:Nat) (sA:Option Addr) (sc:Nat) (tl:List RT) (h_:Hp),μ_=n-k∧Γ=[(0,nV n),(2,sZ),(4,nV k),(3,.slice sA ((tl).length) sc)]∧SS w h w_ h_ [] [⟨95,3,sA,sc,(tl).length,(tl).flatMap rqc⟩] [Rt tl (List.replicate k ((1:Int):Rat))]∧k≤n) _ ⟨0,none,0,[],h,rfl,rfl,hs.to _ _,Nat.zero_le _⟩ ?_;rintro _ _ w1 ⟨k,sA,sc,tl,h2,hm3,rfl,hs,hk⟩;have hlT:=(hs.f.1).len;rw[List.length_replicate] at hlT
 refine cQ (cSL (lL hs [.m 5 4,.m 6 0] ?_));cases hb4:(decide ((k:Int)<(n:Int)))
 ·
  have phb4:=oF hb4;refine lB 7 hb4 (lN (cIF (CG.exit ?_)))
  show CG _ _ _ _ _ _ _ _
  refine cSL (lL hs [.m 14 3,.m 2 14] (lN (kX ?_)));have hkn:k=n:=by omega
  obtain ⟨h5,hs,hc6⟩:=hs.pubr 0 (A:=sA) (c:=sc) (l:=tl) (f:=rqc) (ty:=95) (sz:=3) rqd (fun _=>rfl);exact hs.ret [] (.slice sA ((tl).length) sc) (by rw[←hkn];exact ⟨_,_,tl,rfl,hc6,hs.f.1,hs.f.2.1⟩)
 have phb4:=oT hb4;refine lB 7 hb4 (lN (cIT (cK (cQ (kZ (kQ (lL hs [.m 10 3] (lC 11 hs (rOf 1 oM oM _ _ hs.g) ?_))))))));rintro _ w16 h17 hs ⟨A8,c9,A12,c13,rfl,hc10,hc14,hA11,hA15⟩;replace hs:=hs.aP hA11 hA15;refine lR 12 95 1 (rqx ((1:Int):Rat) A8 c9 A12 c13) hs (fun b18 w19 h20 hs=>lY 13 0 95 3 sc sA tl rqc ((ineg ((1:Int):Rat).num,.slice A8 ((lim (iabs ((1:Int):Rat).num)).length) c9,.slice A12 ((lim ((1:Int):Rat).den).length) c13):RT) 56 b18 (.agg #[.bool false,sZ,sZ]) hs hs.f.1 (fun A22 c23 w24 h25 hs=>lL hs [.m 3 13] (lN (kQ (lL hs [.m 8 4] (lIn 9 ((k:Nat)+1) (k+1) ?_))))));refine lL hs [.m 4 9] (lD ?_);intro a_ ka;replace hs:=(hs.tl.tl.tl.tl.add (K:=Rt (tl++[((ineg ((1:Int):Rat).num,.slice A8 ((lim (iabs ((1:Int):Rat).num)).length) c9,.slice A12 ((lim ((1:Int):Rat).den).length) c13):RT)]) (List.replicate (k+1) ((1:Int):Rat))) (by rw[List.replicate_succ'];exact RTs.snoc hs.f.r.2.1 (rqOk hc10 hc14 hs.f.r.1 hs.f.2.1)));refine ⟨_,_,?_,⟨k+1,A22,c23,tl++[((ineg ((1:Int):Rat).num,.slice A8 ((lim (iabs ((1:Int):Rat).num)).length) c9,.slice A12 ((lim ((1:Int):Rat).den).length) c13):RT)],h25,rfl,rfl,hs.to _ _,oM⟩,ka.to _ kR⟩
 omega
theorem mSpoiltN (A:Option Addr)(cap:Nat)(ts:List LV)(ls:List Lay)(hne:0<ls.length)(hl2:ls.length≤2)(hZ:∀ i,LayS4 (ls.getD i lay0))(hp:∀ i,i<ls.length→0<(ls.getD i lay0).W.length∧0<(ls.getD i lay0).B.length)(way at_ by_:Int)(w:World)(h:Hp)(g:G w h)(hA:Sl A ts h)(hN:RNetL h ts ls):CR 15 #[.agg #[.slice A ts.length cap],iV way,iV at_,iV by_] w h (fun v h1=>∃ A c,∃ ts2:List LV,∃ ls2:List Lay,v=.agg #[.slice A ts2.length c]∧ts2.length≤c∧Sl A ts2 h1∧RNetL h1 ts2 ls2∧ls2.length≤4∧∀ i,LaySz (ls2.getD i lay0)):=by
 have hs:=(((sS g).aS hA).aM hN);have hlt:=(hs.f.1).len;refine go Tryz.func15 [(0,.agg #[.slice A ts.length cap]),(1,iV way),(2,iV at_),(3,iV by_)] rfl (cSL (lA 4 36 ([.slice A ts.length cap]) hs (fun b1 w2 h3 hs=>lA 8 36 ([sZ]) hs (fun b4 w5 h6 hs=>lNS (lR 10 121 0 ([]) hs (fun b7 w8 h9 hs=>lL hs [.v 11 (pB b1),.o 12 (.slice A ts.length cap) 1 0 1] (lYz 13 121 3 lvc lvd b7 A ts cap 56 (.agg #[iV 0,sZ,sZ]) hs hs.f.r.1 oM (ln_one hs.f.2.1) (fun A11 c12 w13 h14 hs=>lL hs [.v 14 (pB b1)] (lP 1 0 ([.slice A11 ((ts).length) c12]) hs (fun w16 hs=>lN (cQ (cR 8 [] mixed hs al_nil ?_))))))))))));refine eV 0 15 (pB b1) (eO 1 16 [(1,0,1)] (.slice A11 ((ts).length) c12) hs (eV 2 17 (iV at_) (eV 3 18 (pB b1) (eO 4 19 [(1,0,1)] (.slice A11 ((ts).length) c12) hs (eV 5 20 (nV ((ts).length)) (eC 6 21 hs (fun _ _ hs=>hPick (at_) ((ts).length) oM oM _ _ hs.g) ?_))))));rintro _ _ _ w17 h18 hs rfl;have lp0:=pick_lt (at_) ((ts).length) oM;obtain ⟨bR19,hbR20⟩:=hs.rowA 0 (A:=A11) (c:=c12) (m:=(ts).length) (ty:=121) (sz:=3) (cs:=(ts).flatMap lvc) oM;subst hbR20;refine eX 7 22 (sB bR19) ((ts).length) c12 3 (pick (at_) ((ts).length):Nat) (pick (at_) ((ts).length):Nat) rfl (eD0 hs (fun w21 h22 hs=>tV 8 9 (.pointer (some ⟨bR19,0+(pick (at_) ((ts).length):Nat)*3,none⟩)) (tN (cQ (cSL (lL hs [.m 23 1] (lC 24 hs (hPick (way) 10 oM oM _ _ hs.g) ?_)))))));rintro _ w23 h24 hs rfl;have lp1:=pick_lt (way) 10 oM;refine lN (kZ (cSL ?_));cases hb25:(((pick (way) 10:Nat):Int) == (0:Int))
 ·
  have phb25:=neOfBeq hb25;refine lB 26 hb25 (lL hs [.m 25 26] (lN (cIF (cSL ?_))));cases hb26:(((pick (way) 10:Nat):Int) == (1:Int))
  ·
   have phb26:=neOfBeq hb26;refine lB 34 hb26 (lL hs [.m 33 34] (lN (cIF (cSL ?_))));cases hb27:(((pick (way) 10:Nat):Int) == (2:Int))
   ·
    have phb27:=neOfBeq hb27;refine lB 44 hb27 (lL hs [.m 43 44] (lN (cIF (cSL ?_))));cases hb28:(((pick (way) 10:Nat):Int) == (3:Int))
    ·
     have phb28:=neOfBeq hb28;refine lB 54 hb28 (lL hs [.m 53 54] (lN (cIF (cSL ?_))));cases hb29:(((pick (way) 10:Nat):Int) == (4:Int))
     ·
      have phb29:=neOfBeq hb29;refine lB 76 hb29 (lL hs [.m 75 76] (lN (cIF (cSL ?_))));cases hb30:(((pick (way) 10:Nat):Int) == (5:Int))
      ·
       have phb30:=neOfBeq hb30;refine lB 82 hb30 (lL hs [.m 81 82] (lN (cIF (cK (cSL ?_)))));obtain ⟨h31,hs,hc32⟩:=hs.pubr 0 (A:=sB bR19) (c:=c12) (l:=ts) (f:=lvc) (ty:=121) (sz:=3) lvd (fun _=>rfl);exact lL hs [.o 89 (.agg #[.slice (sB bR19) ((ts).length) c12]) 1 0 1] (lP 0 0 ([.slice (sB bR19) ((ts).length) c12]) hs (fun w34 hs=>lN (kX (hs.ret [(0,0,1)] (.agg #[.slice (sB bR19) ((ts).length) c12]) (⟨_,_,ts,ls,rfl,hc32,hs.f.1,hs.f.r.1,by omega,fun i=>(hZ i).sz⟩)))))
      have phb30:=eq_of_beq hb30;refine lB 82 hb30 (lL hs [.m 81 82] (lN (cIT (kQ (lL hs [.v 83 (pB b1),.o 84 (.slice (sB bR19) ((ts).length) c12) 1 0 1,.v 85 (pB b1),.o 86 (.slice (sB bR19) ((ts).length) c12) 1 0 1] (lYse 87 0 121 3 c12 bR19 ts lvc 56 (.agg #[iV 0,sZ,sZ]) hs oM (ln_one hs.f.2.1) (fun A35 c36 w37 h38 hs=>lL hs [.v 88 (pB b1)] (lP 1 0 ([.slice A35 ((ts++ts).length) c36]) hs (fun w40 hs=>lNS ?_)))))))));obtain ⟨h41,hs,hc42⟩:=hs.pubr 0 (A:=A35) (c:=c36) (l:=ts++ts) (f:=lvc) (ty:=121) (sz:=3) lvd (fun _=>rfl);refine lL hs [.o 89 (.agg #[.slice A35 ((ts++ts).length) c36]) 1 0 1] (lP 0 0 ([.slice A35 ((ts++ts).length) c36]) hs (fun w44 hs=>lN (cTo [(8,pB b4)] ?_)));exact kX (hs.ret [(0,0,1)] (.agg #[.slice A35 ((ts++ts).length) c36]) (⟨_,_,ts++ts,ls++ls,rfl,hc42,hs.f.1,rnet_app hs.f.r.1 hs.f.r.1,by rw[List.length_append];omega,sz_app (fun i=>(hZ i).sz) (fun i=>(hZ i).sz)⟩))
     have phb29:=eq_of_beq hb29;refine lB 76 hb29 (lL hs [.m 75 76] (lN (cIT (kQ (lL hs [.v 77 (pB b1),.o 78 (.slice (sB bR19) ((ts).length) c12) 1 0 1] ?_)))));obtain ⟨h45,hs,hc46⟩:=hs.pubr 0 (A:=sB bR19) (c:=c12) (l:=ts) (f:=lvc) (ty:=121) (sz:=3) lvd (fun _=>rfl);exact lF 79 (sB bR19) ((ts).length) c12 3 1 1 (lL hs [.v 80 (pB b1)] (lP 1 0 ([.slice (if c12=1 then sB bR19 else (some ⟨bR19,0,none⟩:Option Addr).map (·.add (1*3))) ((ts).length-1) (c12-1)]) hs (fun w48 hs=>lNS (lL hs [.o 89 (.agg #[.slice (if c12=1 then sB bR19 else (some ⟨bR19,0,none⟩:Option Addr).map (·.add (1*3))) ((ts).length-1) (c12-1)]) 1 0 1] (lP 0 0 ([.slice (if c12=1 then sB bR19 else (some ⟨bR19,0,none⟩:Option Addr).map (·.add (1*3))) ((ts).length-1) (c12-1)]) hs (fun w49 hs=>lN (kX (hs.ret [(0,0,1)] (.agg #[.slice (if c12=1 then sB bR19 else (some ⟨bR19,0,none⟩:Option Addr).map (·.add (1*3))) ((ts).length-1) (c12-1)]) (⟨_,_,ts.drop 1,ls.drop 1,by rw[List.length_drop],by rw[List.length_drop];omega,((hs.f.1).drop 1 c12 hc46),rnet_drop hs.f.r.1,by rw[List.length_drop];omega,fun i=>by rw[getD_drop_];exact (hZ _).sz⟩)))))))))
    have phb28:=eq_of_beq hb28;refine lB 54 hb28 (lL hs [.m 53 54] (lN (cIT ?_)));obtain ⟨K_,hK_⟩:∃ K_,K_=w23.heap.size+1:=⟨_,rfl⟩;have hKs:w23.heap.size≤K_:=by omega
    have hdr_:w23.drew.heap.size=w23.heap.size:=rfl;refine cRa ⟨[K_],none⟩ 18 mixed ?_;replace hs:=hs.drew;refine aV 0 55 (.pointer (some ⟨bR19,0+(pick (at_) ((ts).length):Nat)*3,none⟩)) (aV 2 57 (.pointer (some ⟨bR19,0+(pick (at_) ((ts).length):Nat)*3,none⟩)) (aV 3 58 (.pointer (some ⟨bR19,0+(pick (at_) ((ts).length):Nat)*3,none⟩)) (aV 4 59 (.pointer (some ⟨bR19,0+(pick (at_) ((ts).length):Nat)*3+1,none⟩)) ?_)));obtain ⟨ekx,⟨AWx,cWx,usx,eWx,hcWx,hAWx,hTWx⟩,⟨ABx,cBx,rsx,eBx,hcBx,hABx,hTBx⟩⟩:=(hs.f.2.1).at_ (pick (at_) ((ts).length):Nat) oM;have lux:=hTWx.len;have lbx:=hTBx.len;have hpx:=hp (pick (at_) ((ts).length):Nat) oM;have hz1:=(hZ (pick (at_) ((ts).length):Nat)).rl;have hz2:=(hZ (pick (at_) ((ts).length):Nat)).rls 0;have hz3:=(hZ (pick (at_) ((ts).length):Nat)).bl;replace hs:=((((hs.aS hAWx).aV hTWx).aS hABx).aT hTBx);refine fRq (ty:=121) (sz:=3) (c:=c12) (m:=(ts).length) (b:=bR19) (cs:=(ts).flatMap lvc) 5 60 0 (.slice AWx usx.length cWx) ([.slice AWx usx.length cWx]) hs hKs ((row_part (f:=lvc) (sz:=3) (fun _=>rfl) lvd ts (pick (at_) ((ts).length):Nat) oM 1 1 kD).trans (by show [(ts.getD (pick (at_) ((ts).length):Nat) lvd).2.1]=_;rw[eWx])) (aV 7 62 (.pointer (some ⟨bR19,0+(pick (at_) ((ts).length):Nat)*3,none⟩)) (aV 8 63 (.pointer (some ⟨bR19,0+(pick (at_) ((ts).length):Nat)*3,none⟩)) (aV 9 64 (.pointer (some ⟨bR19,0+(pick (at_) ((ts).length):Nat)*3+1,none⟩)) (fRq (ty:=121) (sz:=3) (c:=c12) (m:=(ts).length) (b:=bR19) (cs:=(ts).flatMap lvc) 10 65 0 (.slice AWx usx.length cWx) ([.slice AWx usx.length cWx]) hs hKs ((row_part (f:=lvc) (sz:=3) (fun _=>rfl) lvd ts (pick (at_) ((ts).length):Nat) oM 1 1 kD).trans (by show [(ts.getD (pick (at_) ((ts).length):Nat) lvd).2.1]=_;rw[eWx])) (aX 11 66 AWx usx.length cWx 1 0 0 ((hs.f.r.2.1).ok oM) ?_)))));obtain ⟨Arq,crq,trq,erq,hcrq,hRrq,hTrq⟩:=(hs.f.r.1).at_ 0 oM;have hlrq:=hTrq.len;replace hs:=((hs.aS hRrq).aT hTrq);refine fHe 12 67 (usx.getD 0 undef) hs hKs ((hs.f.q.2.1).el 0 oM) erq (aV 13 68 (nV trq.length) (aV 14 69 (nV (trq.length+1)) ?_ (hv:=fun _=>rS (((trq.length:Nat)+1)) kR ((wr64 oM oM).trans oM))));refine fR 1 56 98 0 ([]) hs (fun b50 w51 h52 hzb50 hs=>fYz 6 61 98 1 vc undef b50 AWx usx cWx 24 (sZ) hs hs.f.q.r.1 oM (rv_one hs.f.q.2.1) (fun A54 c55 w56 h57 hbn hs=>aCu 15 70 (mUnit ((trq.length+1)) oM _ _ hs.g) ?_));rintro _ w59 h60 u61 ⟨Au,cu,tu,rfl,hcu,hAu,hTu⟩;replace hs:=hs.step u61;replace hs:=((hs.aS hAu).aT hTu);refine fR 16 71 98 1 ([.slice Au tu.length cu]) hs (fun b62 w63 h64 hzb62 hs=>fY 17 72 0 98 1 c55 A54 usx vc (.slice Au tu.length cu:Value) 24 b62 (sZ) hs hs.f.1 (fun b hb=>List.mem_singleton.2 (by have:=hbn b hb;omega)) (fun A66 c67 w68 h69 hs=>tV 18 73 (.pointer (some ⟨bR19,0+(pick (at_) ((ts).length):Nat)*3,none⟩)) (tV 19 74 (.pointer (some ⟨bR19,0+(pick (at_) ((ts).length):Nat)*3+1,none⟩)) ?_)));obtain ⟨h71,hs,hc72⟩:=hs.pubr 0 (A:=A66) (c:=c67) (l:=usx++[(.slice Au tu.length cu:Value)]) (f:=vc) (ty:=98) (sz:=1) undef (fun _=>rfl);refine tRs 20 (ty:=121) (c:=c12) (b:=bR19) 0 (pick (at_) ((ts).length):Nat) 1 ([.slice A66 ((usx++[(.slice Au tu.length cu:Value)]).length) c67]) ts lvc 3 lvd (((ts.getD (pick (at_) ((ts).length):Nat) lvd).1,.slice A66 ((usx++[(.slice Au tu.length cu:Value)]).length) c67,(ts.getD (pick (at_) ((ts).length):Nat) lvd).2.2):LV) hs oM (fun w74 hs=>?_);replace hs:=hs.to [⟨b4,36,[sZ]⟩,⟨b1,36,[.slice (sB bR19) ((ts).length) c12]⟩] [⟨121,3,sB bR19,c12,(ts).length,(ts.set (pick (at_) ((ts).length):Nat) (((ts.getD (pick (at_) ((ts).length):Nat) lvd).1,.slice A66 ((usx++[(.slice Au tu.length cu:Value)]).length) c67,(ts.getD (pick (at_) ((ts).length):Nat) lvd).2.2):LV)).flatMap lvc⟩];refine tN (cTo [(4,pB b1),(8,pB b4)] ?_);refine cSL ?_;replace hs:=hs.rown [⟨121,3,sB bR19,c12,(ts.set (pick (at_) ((ts).length):Nat) (((ts.getD (pick (at_) ((ts).length):Nat) lvd).1,.slice A66 ((usx++[(.slice Au tu.length cu:Value)]).length) c67,(ts.getD (pick (at_) ((ts).length):Nat) lvd).2.2):LV)).length,(ts.set (pick (at_) ((ts).length):Nat) (((ts.getD (pick (at_) ((ts).length):Nat) lvd).1,.slice A66 ((usx++[(.slice Au tu.length cu:Value)]).length) c67,(ts.getD (pick (at_) ((ts).length):Nat) lvd).2.2):LV)).flatMap lvc⟩] (by simp only[List.length_set]);obtain ⟨h75,hs,hc76⟩:=hs.pubr 0 (A:=sB bR19) (c:=c12) (l:=ts.set (pick (at_) ((ts).length):Nat) (((ts.getD (pick (at_) ((ts).length):Nat) lvd).1,.slice A66 ((usx++[(.slice Au tu.length cu:Value)]).length) c67,(ts.getD (pick (at_) ((ts).length):Nat) lvd).2.2):LV)) (f:=lvc) (ty:=121) (sz:=3) lvd (fun _=>rfl);refine lL hs [.o 89 (.agg #[.slice (sB bR19) ((ts).length) c12]) 1 0 1] (lP 0 0 ([.slice (sB bR19) ((ts).length) c12]) hs (fun w78 hs=>lN (kX ?_)));obtain ⟨rowu,hru⟩:∃ r:List Rat,List.replicate (trq.length+1) ((1:Int):Rat)=r:=⟨_,rfl⟩;have hrl:rowu.length≤8:=by rw[←hru,List.length_replicate];have:=(hZ (pick (at_) ts.length)).rls 0;omega
    have hrq:∀ i,LQ 1 (rowu.getD i 0):=fun i=>by rw[←hru];exact lq_rep i
    exact hs.ret [(0,0,1)] (.agg #[.slice (sB bR19) ((ts).length) c12]) (⟨_,_,_,ls.set (pick (at_) ts.length) (⟨(ls.getD (pick (at_) ts.length) lay0).k,(ls.getD (pick (at_) ts.length) lay0).W++[rowu],(ls.getD (pick (at_) ts.length) lay0).B⟩:Lay),by rw[List.length_set],hc76,hs.f.1,rnet_set hs.f.q.q.q.2.1 (pick (at_) ts.length) oM ⟨((hs.f.q.q.q.2.1).at_ (pick (at_) ts.length) oM).1,⟨_,_,usx++[_],rfl,hc72,hs.f.2.1,RVs.snoc hs.f.q.q.r.1 ⟨_,_,tu,rfl,hcu,hs.f.q.1,hru▸(hs.f.r.2.1)⟩⟩,((hs.f.q.q.q.2.1).at_ (pick (at_) ts.length) oM).2.2⟩,by rw[List.length_set];omega,sz_set (fun i=>(hZ i).sz) (lay_wide (hZ (pick (at_) ts.length)) hrl hrq hpx.1)⟩)
   have phb27:=eq_of_beq hb27;refine lB 44 hb27 (lL hs [.m 43 44] (lN (cIT (kQ (lL hs [.m 45 9,.m 46 9,.v 47 (.pointer (some ⟨bR19,0+(pick (at_) ((ts).length):Nat)*3,none⟩)),.v 48 (.pointer (some ⟨bR19,0+(pick (at_) ((ts).length):Nat)*3+1,none⟩))] ?_)))));obtain ⟨ekx,⟨AWx,cWx,usx,eWx,hcWx,hAWx,hTWx⟩,⟨ABx,cBx,rsx,eBx,hcBx,hABx,hTBx⟩⟩:=(hs.f.2.1).at_ (pick (at_) ((ts).length):Nat) oM;have lux:=hTWx.len;have lbx:=hTBx.len;have hpx:=hp (pick (at_) ((ts).length):Nat) oM;have hz1:=(hZ (pick (at_) ((ts).length):Nat)).rl;have hz2:=(hZ (pick (at_) ((ts).length):Nat)).rls 0;have hz3:=(hZ (pick (at_) ((ts).length):Nat)).bl;replace hs:=((((hs.aS hAWx).aV hTWx).aS hABx).aT hTBx);refine lRq (ty:=121) (sz:=3) (c:=c12) (m:=(ts).length) (b:=bR19) (cs:=(ts).flatMap lvc) 49 0 (.slice AWx usx.length cWx) ([.slice AWx usx.length cWx]) hs ((row_part (f:=lvc) (sz:=3) (fun _=>rfl) lvd ts (pick (at_) ((ts).length):Nat) oM 1 1 kD).trans (by show [(ts.getD (pick (at_) ((ts).length):Nat) lvd).2.1]=_;rw[eWx])) (lF 50 AWx usx.length cWx 1 1 1 (lL hs [.v 51 (.pointer (some ⟨bR19,0+(pick (at_) ((ts).length):Nat)*3,none⟩)),.v 52 (.pointer (some ⟨bR19,0+(pick (at_) ((ts).length):Nat)*3+1,none⟩))] (lRs (ty:=121) (c:=c12) (b:=bR19) 0 (pick (at_) ((ts).length):Nat) 1 ([.slice (if cWx=1 then AWx else AWx.map (·.add (1*1))) (usx.length-1) (cWx-1)]) ts lvc 3 lvd (((ts.getD (pick (at_) ((ts).length):Nat) lvd).1,.slice (if cWx=1 then AWx else AWx.map (·.add (1*1))) (usx.length-1) (cWx-1),(ts.getD (pick (at_) ((ts).length):Nat) lvd).2.2):LV) hs oM (fun w79 hs=>?_))));replace hs:=hs.to [⟨b4,36,[sZ]⟩,⟨b1,36,[.slice (sB bR19) ((ts).length) c12]⟩] [⟨121,3,sB bR19,c12,(ts).length,(ts.set (pick (at_) ((ts).length):Nat) (((ts.getD (pick (at_) ((ts).length):Nat) lvd).1,.slice (if cWx=1 then AWx else AWx.map (·.add (1*1))) (usx.length-1) (cWx-1),(ts.getD (pick (at_) ((ts).length):Nat) lvd).2.2):LV)).flatMap lvc⟩];refine lNS ?_;replace hs:=hs.rown [⟨121,3,sB bR19,c12,(ts.set (pick (at_) ((ts).length):Nat) (((ts.getD (pick (at_) ((ts).length):Nat) lvd).1,.slice (if cWx=1 then AWx else AWx.map (·.add (1*1))) (usx.length-1) (cWx-1),(ts.getD (pick (at_) ((ts).length):Nat) lvd).2.2):LV)).length,(ts.set (pick (at_) ((ts).length):Nat) (((ts.getD (pick (at_) ((ts).length):Nat) lvd).1,.slice (if cWx=1 then AWx else AWx.map (·.add (1*1))) (usx.length-1) (cWx-1),(ts.getD (pick (at_) ((ts).length):Nat) lvd).2.2):LV)).flatMap lvc⟩] (by simp only[List.length_set]);obtain ⟨h80,hs,hc81⟩:=hs.pubr 0 (A:=sB bR19) (c:=c12) (l:=ts.set (pick (at_) ((ts).length):Nat) (((ts.getD (pick (at_) ((ts).length):Nat) lvd).1,.slice (if cWx=1 then AWx else AWx.map (·.add (1*1))) (usx.length-1) (cWx-1),(ts.getD (pick (at_) ((ts).length):Nat) lvd).2.2):LV)) (f:=lvc) (ty:=121) (sz:=3) lvd (fun _=>rfl);exact lL hs [.o 89 (.agg #[.slice (sB bR19) ((ts).length) c12]) 1 0 1] (lP 0 0 ([.slice (sB bR19) ((ts).length) c12]) hs (fun w83 hs=>lN (kX (hs.ret [(0,0,1)] (.agg #[.slice (sB bR19) ((ts).length) c12]) (⟨_,_,_,ls.set (pick (at_) ts.length) (⟨(ls.getD (pick (at_) ts.length) lay0).k,(ls.getD (pick (at_) ts.length) lay0).W.drop 1,(ls.getD (pick (at_) ts.length) lay0).B⟩:Lay),by rw[List.length_set],hc81,hs.f.1,rnet_set hs.f.q.r.1 (pick (at_) ts.length) oM ⟨((hs.f.q.r.1).at_ (pick (at_) ts.length) oM).1,⟨_,_,usx.drop 1,by rw[List.length_drop],by rw[List.length_drop];omega,(hs.f.q.1).drop 1 cWx hcWx,rvs_drop hs.f.r.2.1⟩,((hs.f.q.r.1).at_ (pick (at_) ts.length) oM).2.2⟩,by rw[List.length_set];omega,sz_set (fun i=>(hZ i).sz) ⟨by rw[List.length_drop];have:=(hZ (pick (at_) ts.length)).sz.rl;omega,fun i=>by rw[getD_drop_];exact (hZ (pick (at_) ts.length)).sz.rls _,(hZ (pick (at_) ts.length)).sz.bl,fun i j=>by rw[getD_drop_];exact (hZ (pick (at_) ts.length)).sz.w _ j,(hZ (pick (at_) ts.length)).sz.b,(hZ (pick (at_) ts.length)).sz.b4,by rw[getD_drop_];exact (hZ (pick (at_) ts.length)).rls _⟩⟩)))))
  have phb26:=eq_of_beq hb26;refine lB 34 hb26 (lL hs [.m 33 34] (lN (cIT (kQ (lL hs [.m 35 9,.m 36 9,.v 37 (.pointer (some ⟨bR19,0+(pick (at_) ((ts).length):Nat)*3,none⟩)),.v 38 (.pointer (some ⟨bR19,0+(pick (at_) ((ts).length):Nat)*3+2,none⟩))] ?_)))));obtain ⟨ekx,⟨AWx,cWx,usx,eWx,hcWx,hAWx,hTWx⟩,⟨ABx,cBx,rsx,eBx,hcBx,hABx,hTBx⟩⟩:=(hs.f.2.1).at_ (pick (at_) ((ts).length):Nat) oM;have lux:=hTWx.len;have lbx:=hTBx.len;have hpx:=hp (pick (at_) ((ts).length):Nat) oM;have hz1:=(hZ (pick (at_) ((ts).length):Nat)).rl;have hz2:=(hZ (pick (at_) ((ts).length):Nat)).rls 0;have hz3:=(hZ (pick (at_) ((ts).length):Nat)).bl;replace hs:=((((hs.aS hAWx).aV hTWx).aS hABx).aT hTBx);refine lRq (ty:=121) (sz:=3) (c:=c12) (m:=(ts).length) (b:=bR19) (cs:=(ts).flatMap lvc) 39 0 (.slice ABx rsx.length cBx) ([.slice ABx rsx.length cBx]) hs ((row_part (f:=lvc) (sz:=3) (fun _=>rfl) lvd ts (pick (at_) ((ts).length):Nat) oM 2 1 kD).trans (by show [(ts.getD (pick (at_) ((ts).length):Nat) lvd).2.2]=_;rw[eBx])) (lF 40 ABx rsx.length cBx 3 1 1 (lL hs [.v 41 (.pointer (some ⟨bR19,0+(pick (at_) ((ts).length):Nat)*3,none⟩)),.v 42 (.pointer (some ⟨bR19,0+(pick (at_) ((ts).length):Nat)*3+2,none⟩))] (lRs (ty:=121) (c:=c12) (b:=bR19) 0 (pick (at_) ((ts).length):Nat) 2 ([.slice (if cBx=1 then ABx else ABx.map (·.add (1*3))) (rsx.length-1) (cBx-1)]) ts lvc 3 lvd (((ts.getD (pick (at_) ((ts).length):Nat) lvd).1,(ts.getD (pick (at_) ((ts).length):Nat) lvd).2.1,.slice (if cBx=1 then ABx else ABx.map (·.add (1*3))) (rsx.length-1) (cBx-1)):LV) hs oM (fun w84 hs=>?_))));replace hs:=hs.to [⟨b4,36,[sZ]⟩,⟨b1,36,[.slice (sB bR19) ((ts).length) c12]⟩] [⟨121,3,sB bR19,c12,(ts).length,(ts.set (pick (at_) ((ts).length):Nat) (((ts.getD (pick (at_) ((ts).length):Nat) lvd).1,(ts.getD (pick (at_) ((ts).length):Nat) lvd).2.1,.slice (if cBx=1 then ABx else ABx.map (·.add (1*3))) (rsx.length-1) (cBx-1)):LV)).flatMap lvc⟩];refine lNS ?_;replace hs:=hs.rown [⟨121,3,sB bR19,c12,(ts.set (pick (at_) ((ts).length):Nat) (((ts.getD (pick (at_) ((ts).length):Nat) lvd).1,(ts.getD (pick (at_) ((ts).length):Nat) lvd).2.1,.slice (if cBx=1 then ABx else ABx.map (·.add (1*3))) (rsx.length-1) (cBx-1)):LV)).length,(ts.set (pick (at_) ((ts).length):Nat) (((ts.getD (pick (at_) ((ts).length):Nat) lvd).1,(ts.getD (pick (at_) ((ts).length):Nat) lvd).2.1,.slice (if cBx=1 then ABx else ABx.map (·.add (1*3))) (rsx.length-1) (cBx-1)):LV)).flatMap lvc⟩] (by simp only[List.length_set]);obtain ⟨h85,hs,hc86⟩:=hs.pubr 0 (A:=sB bR19) (c:=c12) (l:=ts.set (pick (at_) ((ts).length):Nat) (((ts.getD (pick (at_) ((ts).length):Nat) lvd).1,(ts.getD (pick (at_) ((ts).length):Nat) lvd).2.1,.slice (if cBx=1 then ABx else ABx.map (·.add (1*3))) (rsx.length-1) (cBx-1)):LV)) (f:=lvc) (ty:=121) (sz:=3) lvd (fun _=>rfl);exact lL hs [.o 89 (.agg #[.slice (sB bR19) ((ts).length) c12]) 1 0 1] (lP 0 0 ([.slice (sB bR19) ((ts).length) c12]) hs (fun w88 hs=>lN (kX (hs.ret [(0,0,1)] (.agg #[.slice (sB bR19) ((ts).length) c12]) (⟨_,_,_,ls.set (pick (at_) ts.length) (⟨(ls.getD (pick (at_) ts.length) lay0).k,(ls.getD (pick (at_) ts.length) lay0).W,(ls.getD (pick (at_) ts.length) lay0).B.drop 1⟩:Lay),by rw[List.length_set],hc86,hs.f.1,rnet_set hs.f.q.r.1 (pick (at_) ts.length) oM ⟨((hs.f.q.r.1).at_ (pick (at_) ts.length) oM).1,((hs.f.q.r.1).at_ (pick (at_) ts.length) oM).2.1,⟨_,_,rsx.drop 1,by rw[List.length_drop],by rw[List.length_drop];omega,(hs.f.r.1).drop 1 cBx hcBx,rts_drop hs.f.2.1⟩⟩,by rw[List.length_set];omega,sz_set (fun i=>(hZ i).sz) ⟨(hZ (pick (at_) ts.length)).sz.rl,(hZ (pick (at_) ts.length)).sz.rls,by rw[List.length_drop];have:=(hZ (pick (at_) ts.length)).sz.bl;omega,(hZ (pick (at_) ts.length)).sz.w,fun i=>by rw[getD_drop_];exact (hZ (pick (at_) ts.length)).sz.b _,by rw[List.length_drop];have:=(hZ (pick (at_) ts.length)).sz.b4;omega,(hZ (pick (at_) ts.length)).sz.w4⟩⟩)))))
 have phb25:=eq_of_beq hb25;refine lB 26 hb25 (lL hs [.m 25 26] (lN (cIT (kQ (lL hs [.m 27 9,.m 28 3] (lC 29 hs (hPick (by_) 6 oM oM _ _ hs.g) ?_))))));rintro _ w89 h90 hs rfl;have lp3:=pick_lt (by_) 6 oM;refine lI 30 ((pick (by_) 6:Nat)-1) (lL hs [.v 31 (.pointer (some ⟨bR19,0+(pick (at_) ((ts).length):Nat)*3,none⟩)),.v 32 (.pointer (some ⟨bR19,0+(pick (at_) ((ts).length):Nat)*3,none⟩))] (lRs (ty:=121) (c:=c12) (b:=bR19) 0 (pick (at_) ((ts).length):Nat) 0 ([iV ((pick (by_) 6:Nat)-1)]) ts lvc 3 lvd (((pick (by_) 6:Nat)-1,(ts.getD (pick (at_) ((ts).length):Nat) lvd).2.1,(ts.getD (pick (at_) ((ts).length):Nat) lvd).2.2):LV) hs oM (fun w91 hs=>?_)));replace hs:=hs.to [⟨b4,36,[sZ]⟩,⟨b1,36,[.slice (sB bR19) ((ts).length) c12]⟩] [⟨121,3,sB bR19,c12,(ts).length,(ts.set (pick (at_) ((ts).length):Nat) (((pick (by_) 6:Nat)-1,(ts.getD (pick (at_) ((ts).length):Nat) lvd).2.1,(ts.getD (pick (at_) ((ts).length):Nat) lvd).2.2):LV)).flatMap lvc⟩];refine lNS ?_;replace hs:=hs.rown [⟨121,3,sB bR19,c12,(ts.set (pick (at_) ((ts).length):Nat) (((pick (by_) 6:Nat)-1,(ts.getD (pick (at_) ((ts).length):Nat) lvd).2.1,(ts.getD (pick (at_) ((ts).length):Nat) lvd).2.2):LV)).length,(ts.set (pick (at_) ((ts).length):Nat) (((pick (by_) 6:Nat)-1,(ts.getD (pick (at_) ((ts).length):Nat) lvd).2.1,(ts.getD (pick (at_) ((ts).length):Nat) lvd).2.2):LV)).flatMap lvc⟩] (by simp only[List.length_set]);obtain ⟨h92,hs,hc93⟩:=hs.pubr 0 (A:=sB bR19) (c:=c12) (l:=ts.set (pick (at_) ((ts).length):Nat) (((pick (by_) 6:Nat)-1,(ts.getD (pick (at_) ((ts).length):Nat) lvd).2.1,(ts.getD (pick (at_) ((ts).length):Nat) lvd).2.2):LV)) (f:=lvc) (ty:=121) (sz:=3) lvd (fun _=>rfl);exact lL hs [.o 89 (.agg #[.slice (sB bR19) ((ts).length) c12]) 1 0 1] (lP 0 0 ([.slice (sB bR19) ((ts).length) c12]) hs (fun w95 hs=>lN (kX (hs.ret [(0,0,1)] (.agg #[.slice (sB bR19) ((ts).length) c12]) (⟨_,_,_,ls.set (pick (at_) ts.length) (⟨(pick (by_) 6:Nat)-1,(ls.getD (pick (at_) ts.length) lay0).W,(ls.getD (pick (at_) ts.length) lay0).B⟩:Lay),by rw[List.length_set],hc93,hs.f.1,rnet_set hs.f.r.1 (pick (at_) ts.length) oM ⟨rfl,((hs.f.r.1).at_ (pick (at_) ts.length) oM).2.1,((hs.f.r.1).at_ (pick (at_) ts.length) oM).2.2⟩,by rw[List.length_set];omega,sz_set (fun i=>(hZ i).sz) ⟨(hZ (pick (at_) ts.length)).sz.rl,(hZ (pick (at_) ts.length)).sz.rls,(hZ (pick (at_) ts.length)).sz.bl,(hZ (pick (at_) ts.length)).sz.w,(hZ (pick (at_) ts.length)).sz.b,(hZ (pick (at_) ts.length)).sz.b4,(hZ (pick (at_) ts.length)).sz.w4⟩⟩)))))
def flatL (L:Lay):List Rat:=L.W.flatten++L.B
def flatq (ls:List Lay):List Rat:=ls.flatMap flatL
theorem flatq_snoc (ls:List Lay)(L:Lay):flatq (ls++[L])=flatq ls++L.W.flatten++L.B:=by simp[flatq,flatL]
theorem flatq_take {ls:List Lay}{k:Nat}(h:k<ls.length):flatq (ls.take (k+1))=flatq (ls.take k)++(ls.getD k lay0).W.flatten++(ls.getD k lay0).B:=by rw[take_snoc' lay0 h,flatq_snoc]
theorem flat_take {W:List (List Rat)}{i:Nat}(h:i<W.length):(W.take (i+1)).flatten=(W.take i).flatten++W.getD i []:=by rw[take_snoc' [] h];simp
theorem flat_len {c:Nat}:∀ {W:List (List Rat)},(∀ r∈W,r.length=c)→W.flatten.length=W.length*c
  | [],_=>by simp
  | r::W,h=>by
    rw[List.flatten_cons,List.length_append,h r (by simp),flat_len (fun s hs=>h s (by simp[hs])),List.length_cons,Nat.succ_mul];omega
theorem getD_mem' {α:Type}{l:List α}{x d:α}(h:x∈l):∃ i,i<l.length∧l.getD i d=x:=by
  obtain ⟨i,hi,e⟩:=List.mem_iff_getElem.1 h;exact ⟨i,hi,by simp[hi,e]⟩
theorem Mat.mem {W:List (List Rat)}{r c:Nat}(m:Mat W r c):∀ x∈W,x.length=c:=fun x hx=>by
  obtain ⟨i,hi,e⟩:=getD_mem' (d:=[]) hx;rw[←e];exact m.row i (by rw[←m.rows];exact hi)
theorem take_flat_len {W:List (List Rat)}{r c:Nat}(m:Mat W r c)(i:Nat)(hi:i≤r):(W.take i).flatten.length=i*c:=by
  rw[flat_len (c:=c) (fun x hx=>m.mem x (List.mem_of_mem_take hx)),List.length_take,m.rows];congr 1;omega
theorem flatq_len {ls:List Lay}{d:Nat→Nat}(o:Net3 ls d)(k:Nat)(hk:k≤ls.length):(flatq (ls.take k)).length≤k*252:=by
  induction k with
  | zero=>simp[flatq]
  | succ k ih =>
    have h1:=ih oM;obtain ⟨m,hb,h12,_⟩:=o.lay k oM;have hc:=o.small k oM;rw[flatq_take oM,List.length_append,List.length_append,flat_len m.mem,m.rows,hb];have:d (k+1)*d k≤12*20:=Nat.mul_le_mul h12 hc
    omega
theorem nflat (A:Option Addr)(cap:Nat)(ts:List LV)(ls:List Lay)(d:Nat→Nat)(hO:Net3 ls d)(w:World)(h:Hp)(g:G w h)(hA:Sl A ts h)(hN:NetL h ts ls):CR 63 #[.agg #[.slice A ts.length cap]] w h (fun v h1=>∃ A c,v=.slice A (flatq ls).length c∧(flatq ls).length≤c∧Sq A (flatq ls) h1):=by
 have hs:=(((sS g).aS hA).aN hN);have hl:=(hs.f.1).len;obtain ⟨o1,o2⟩:=hO.len;have o3:=hO.first;refine go Tryz.func63 [(0,.agg #[.slice A ts.length cap])] rfl (cSL (lA 1 28 ([.slice A ts.length cap]) hs (fun b1 w2 h3 hs=>lL hs [.v 2 (sZ)] (lNS (lL hs [.v 3 (sZ)] (lN (cQ (cSL (lL hs [.v 8 (pB b1),.o 9 (.slice A ts.length cap) 0 0 1,.v 10 (nV ts.length),.v 11 (iV 0)] (lN (kZ ?_)))))))))));replace hs:=hs.nil 73 5;refine cTo [(2,sZ),(9,.slice A ts.length cap),(10,nV ts.length),(11,iV 0),(3,sZ)] ?_;refine CG.loop (fun μ_ Γ w_=>∃ (k:Nat) (saA:Option Addr) (sac:Nat) (al:List Rat) (h_:Hp),μ_=ls.length-k∧Γ=[(2,sZ),(9,.slice A ts.length cap),(10,nV ts.length),(11,nV k),(3,.slice saA ((al).length) sac)]∧SS w h w_ h_ [⟨b1,28,[.slice A ts.length cap]⟩] [⟨73,5,saA,sac,(al).length,(al).flatMap qc⟩] [Nn ts ls,Sl A ts]∧k≤ls.length∧al=flatq (ls.take k)) _ ⟨0,none,0,[],h3,rfl,rfl,hs.to _ _,Nat.zero_le _,rfl⟩ ?_;rintro _ _ w4 ⟨k,saA,sac,al,h5,hm6,rfl,hs,hk,hal⟩;have hsm:=fun h0=>hO.small k h0
 have hfl:=flatq_len hO k hk;rw[←hal] at hfl
 refine cSL ?_;cases hb7:(decide ((k:Int)<(ts.length:Int)))
 ·
  have phb7:=oF hb7;refine lB 12 hb7 (lN (cQ (cIF (CG.exit ?_))))
  show CG _ _ _ _ _ _ _ _
  refine cSL (lL hs [.m 31 3,.m 2 31] (lN (kX ?_)));have hkn:k=ls.length:=by omega
  subst hkn;rw[List.take_length] at hal
  obtain ⟨h8,hs,hc9⟩:=hs.pubr 0 (A:=saA) (c:=sac) (l:=al) (f:=qc) (ty:=73) (sz:=5) 0 (fun _=>rfl);exact hs.ret [] (.slice saA ((al).length) sac) (by rw[←hal];exact ⟨_,_,rfl,hc9,hs.f.1⟩)
 have phb7:=oT hb7;refine lB 12 hb7 (lN (cQ (cIT (cK (cQ (kZ (cSL (lX 13 A ts.length cap 3 (k:Nat) k ((hs.f.2.1).ok oM) ?_))))))));obtain ⟨ekx,⟨AWx,cWx,usx,eWx,hcWx,hAWx,hUx⟩,⟨ABx,cBx,eBx,hcBx,hABx⟩⟩:=(hs.f.1).at_ k oM;obtain ⟨mtx,lbx,r12x,kdx⟩:=hO.lay k oM;have lux:=hUx.len;have mrx:=mtx.rows;have mpx:=mtx.rpos;have mcx:=mtx.cpos;have m0x:=mtx.row 0 oM;replace hs:=(((hs.aS hAWx).aQ hUx).aS hABx);refine lHe 14 (.agg #[iV ((ts.getD k lvd).1),(ts.getD k lvd).2.1,(ts.getD k lvd).2.2]) hs ((hs.f.q.1).el k oM) (by rw[ekx,eWx,eBx]) (lA 5 77 ([iV 0,sZ,sZ]) hs (fun b11 w12 h13 hs=>lP 0 0 ([iV ((ls.getD k lay0).k),.slice AWx usx.length cWx,.slice ABx ((ls.getD k lay0).B.length) cBx]) hs (fun w14 hs=>lN (cQ (cSL (lL hs [.v 15 (.pointer (some ⟨b11,1,none⟩)),.o 16 (.slice AWx usx.length cWx) 0 1 1,.v 17 (nV usx.length),.v 18 (iV 0)] (lN (kZ ?_))))))));refine cTo _ (CG.loop (fun μ_ Γ w_=>∃ (i:Nat) (sbA:Option Addr) (sbc:Nat) (bl:List Rat) (h_:Hp),μ_=usx.length-i∧Γ=[(2,sZ),(9,.slice A ts.length cap),(10,nV ts.length),(11,nV k),(5,pB b11),(16,.slice AWx usx.length cWx),(17,nV usx.length),(18,nV i),(3,.slice sbA ((bl).length) sbc)]∧SS w h w_ h_ [⟨b11,77,[iV ((ls.getD k lay0).k),.slice AWx usx.length cWx,.slice ABx ((ls.getD k lay0).B.length) cBx]⟩,⟨b1,28,[.slice A ts.length cap]⟩] [⟨73,5,sbA,sbc,(bl).length,(bl).flatMap qc⟩] [Sq ABx (ls.getD k lay0).B,Qu usx (ls.getD k lay0).W,Sv AWx usx,Nn ts ls,Sl A ts]∧i≤usx.length∧bl=al++((ls.getD k lay0).W.take i).flatten) _ ⟨0,saA,sac,al,h13,rfl,rfl,hs.to _ _,Nat.zero_le _,by simp⟩ ?_);rintro _ _ w15 ⟨i,sbA,sbc,bl,h16,hm17,rfl,hs,hi,hbl⟩;have hbn:bl.length≤al.length+i*d k:=by rw[hbl,List.length_append,take_flat_len mtx i oM];exact nR _
 have hid:i*d k≤12*20:=Nat.mul_le_mul oM (hsm oM);have hmr:=fun h0=>mtx.row i h0
 refine cSL ?_;cases hb18:(decide ((i:Int)<(usx.length:Int)))
 ·
  have phb18:=oF hb18;refine lB 19 hb18 (lN (cQ (cIF (CG.exit ?_))))
  show CG _ _ _ _ _ _ _ _
  refine kQ (lL hs [.m 26 3,.v 27 (.pointer (some ⟨b11,2,none⟩)),.o 28 (.slice ABx ((ls.getD k lay0).B.length) cBx) 0 2 1] (lYs 29 0 73 5 sbc sbA bl qc 0 ABx ((ls.getD k lay0).B) cBx 56 (.agg #[.bool false,uV 0,eS,uV 0,eS]) hs hs.f.1 oM (fun A19 c20 w21 h22 hs=>lL hs [.m 3 29] (lN (kQ (lIn 30 ((k:Nat)+1) (k+1) ?_))))));refine lL hs [.m 11 30] (lD ?_);intro a_ ka;replace hs:=hs.tl.tl.tl;replace hs:=hs.drop 1 0;refine ⟨_,_,?_,⟨k+1,A19,c20,bl++((ls.getD k lay0).B),h22,rfl,rfl,hs.to _ _,oM,(by rw[flatq_take oM,hbl,List.take_of_length_le oM,hal])⟩,ka.to _ kR⟩
  omega
 have phb18:=oT hb18;refine lB 19 hb18 (lN (cQ (cIT (cK (cQ (kZ (cSL (lX 20 AWx usx.length cWx 1 (i:Nat) i ((hs.f.r.1).ok oM) ?_))))))));obtain ⟨Arp,crp,erp,hcrp,hRrp⟩:=(hs.f.2.1).at_ i oM;replace hs:=hs.aS hRrp;refine lHe 21 (usx.getD i undef) hs ((hs.f.r.2.1).el i oM) erp (lL hs [.m 7 21] (lN (kQ (lL hs [.m 22 3,.m 23 7] (lYs 24 0 73 5 sbc sbA bl qc 0 Arp (((ls.getD k lay0).W).getD i []) crp 56 (.agg #[.bool false,uV 0,eS,uV 0,eS]) hs hs.f.1 oM (fun A26 c27 w28 h29 hs=>lL hs [.m 3 24] (lN (kQ (lIn 25 ((i:Nat)+1) (i+1) ?_)))))))));refine lL hs [.m 18 25] (lD ?_);intro a_ ka;replace hs:=hs.tl;refine ⟨_,_,?_,⟨i+1,A26,c27,bl++(((ls.getD k lay0).W).getD i []),h29,rfl,rfl,hs.to _ _,oM,(by rw[flat_take oM,hbl,List.append_assoc])⟩,ka.to _ kR⟩
 omega
section fla
variable {P:Program} {n:Nat} {N R:Po} {X:Nat→Po} {ops:Array Oper} {k:Nat} {Γ:Env} {w:World} {h:Hp} {w0:World} {h0:Hp} {B:List Bx} {Rs:List Rw} {F:List (Hp→Prop)}
theorem lYsm {α:Type}(t j:Nat)(ty:TypeId)(sz c:Nat)(A:Option Addr)(l:List α)(f:α→List Value)(d:α)(A2:Option Addr)(m:List α)(c2 bt:Nat)(z:Value)(s:SS w0 h0 w h B Rs F)(so:SlO sz f d h A2 m)(hm0:0<m.length)(h1:∀ x∈m,(f x).all (·.oneCell')=true)
    (H:∀ A' c' w' h',SS w0 h0 w' h' B (Rs.set j ⟨ty,sz,A',c',(l++m).length,(l++m).flatMap f⟩) F→LG P n N R X ops (k+1) ((t,.slice A' (l++m).length c')::Γ) w')
    (hc:cL ops Γ k t n=true:=by kernel_rfl)(he:apE P (ev Γ) (opAt ops k)=some (.slice A l.length c,.slice A2 m.length c2,ty,z,sz,bt):=by kernel_rfl)(hf:∀ x,(f x).length=sz:=by intro _;rfl)(hzs:z.cells.size=sz:=by kernel_rfl)(hpos:0<sz:=by decide)
    (hr:Rs.getD j default=⟨ty,sz,A,c,l.length,l.flatMap f⟩:=by kernel_rfl)(hj:decide (j<Rs.length)=true:=by kernel_rfl)(hm:l.length+m.length≤1099511627776:=by omega)(hb:(l.length+m.length)*bt≤140737488355328:=by omega):LG P n N R X ops k Γ w:=by
  have hj':=oT hj;have hA:=so.ok hm0;rw[hA] at he
  refine lYn t j (m.flatMap f) s (seg_newsO s.g (so.flat hf)) (len_flat hf m) (fun u hu=>?_) hj' (rw_get hr hj') hc he hzs hpos hm hb (fun A' c' w' h' s'=>?_)
  · obtain ⟨x,hx',hx⟩:=List.mem_flatMap.1 hu
    exact (List.all_eq_true.1 (h1 x hx')) u hx
  · have e1:l.length+m.length=(l++m).length:=by simp
    rw[flat_row,e1] at s'
    rw[e1];exact H A' c' w' h' s'
end fla
section prt
variable {M:Ms} {P:Program} {n:Nat} {N R:Po} {X:Nat→Po} {ops:Array Oper} {k k0:Nat} {hr:Hp} {AL:List Al} {L:Array Bool} {Γ:Env} {w:World} {h:Hp}
end prt
theorem RTs.app {h:Hp}{ts us:List RT}{qs ps:List Rat}(r:RTs h ts qs)(s:RTs h us ps):RTs h (ts++us) (qs++ps):=⟨by rw[List.length_append,List.length_append,r.len,s.len],fun i hi=>by
  rw[List.length_append] at hi
  rw[getD_app_,getD_app_,r.len]
  split
  · exact r.at_ i aM
  · exact s.at_ _ oM⟩
theorem rt_one {h:Hp}{ts:List RT}{qs:List Rat}(r:RTs h ts qs):∀ t∈ts,(rqc t).all (·.oneCell')=true:=fun t ht=>by
  obtain ⟨i,hi,e⟩:=List.mem_iff_getElem.1 ht;obtain ⟨A,c,D,d,e1,_⟩:=r.at_ i (by rw[←r.len];exact hi);have e3:ts.getD i rqd=t:=by simp[hi,e]
  rw[e3] at e1
  unfold rqc
  obtain ⟨x,y,z⟩:=t
  simp only[rtv] at e1
  injection e1 with e1
  simp at e1
  obtain ⟨_,e4,e5⟩:=e1;rw[e4,e5];rfl
theorem rFlat (A:Option Addr)(cap:Nat)(ts:List LV)(ls:List Lay)(d:Nat→Nat)(hO:Net3 ls d)(w:World)(h:Hp)(g:G w h)(hA:Sl A ts h)(hN:RNetL h ts ls):CR 72 #[.agg #[.slice A ts.length cap]] w h (fun v h1=>∃ A c ts,v=.slice A (ts:List RT).length c∧ts.length≤c∧Sr A ts h1∧RTs h1 ts (flatq ls)):=by
 have hs:=(((sS g).aS hA).aM hN);have hl:=(hs.f.1).len;obtain ⟨o1,o2⟩:=hO.len;have o3:=hO.first;refine go Tryz.func72 [(0,.agg #[.slice A ts.length cap])] rfl (cSL (lA 1 36 ([.slice A ts.length cap]) hs (fun b1 w2 h3 hs=>lL hs [.v 2 (sZ)] (lNS (lL hs [.v 3 (sZ)] (lN (cQ (cSL (lL hs [.v 4 (iV 0)] (lN (kZ ?_)))))))))));replace hs:=hs.nil 95 3;refine cTo [(1,pB b1),(2,sZ),(4,iV 0),(3,sZ)] ?_;replace hs:=hs.aT (RTs.nil);refine CG.loop (fun μ_ Γ w_=>∃ (k:Nat) (saA:Option Addr) (sac:Nat) (at_:List RT) (al:List Rat) (h_:Hp),μ_=ls.length-k∧Γ=[(1,pB b1),(2,sZ),(4,nV k),(3,.slice saA ((at_).length) sac)]∧SS w h w_ h_ [⟨b1,36,[.slice A ts.length cap]⟩] [⟨95,3,saA,sac,(at_).length,(at_).flatMap rqc⟩] [Rt at_ al,Rn ts ls,Sl A ts]∧k≤ls.length∧al=flatq (ls.take k)) _ ⟨0,none,0,[],[],h3,rfl,rfl,hs.to _ _,Nat.zero_le _,rfl⟩ ?_;rintro _ _ w4 ⟨k,saA,sac,at_,al,h5,hm6,rfl,hs,hk,hal⟩;have hsm:=fun h0=>hO.small k h0
 have hfl:=flatq_len hO k hk;rw[←hal] at hfl
 have hlat:=(hs.f.1).len;refine cQ (cSL (lL hs [.m 6 4,.v 7 (pB b1),.o 8 (.slice A ts.length cap) 0 0 1,.v 9 (nV ts.length)] ?_));cases hb7:(decide ((k:Int)<(ts.length:Int)))
 ·
  have phb7:=oF hb7;refine lB 10 hb7 (lN (cIF (CG.exit ?_)))
  show CG _ _ _ _ _ _ _ _
  refine cSL (lL hs [.m 43 3,.m 2 43] (lN (kX ?_)));have hkn:k=ls.length:=by omega
  subst hkn;rw[List.take_length] at hal
  obtain ⟨h8,hs,hc9⟩:=hs.pubr 0 (A:=saA) (c:=sac) (l:=at_) (f:=rqc) (ty:=95) (sz:=3) rqd (fun _=>rfl);exact hs.ret [] (.slice saA ((at_).length) sac) (by rw[←hal];exact ⟨_,_,_,rfl,hc9,hs.f.1,hs.f.2.1⟩)
 have phb7:=oT hb7;refine lB 10 hb7 (lN (cIT (cK (cQ (kZ (cQ (cSL ?_)))))));obtain ⟨mtx,lbx,r12x,kdx⟩:=hO.lay k oM;have mrx:=mtx.rows;have mpx:=mtx.rpos;have mcx:=mtx.cpos;refine lL hs [.v 5 (iV 0)] (lN (kZ ?_));replace hs:=hs.aT (hs.f.1);refine cTo _ (CG.loop (fun μ_ Γ w_=>∃ (i:Nat) (sbA:Option Addr) (sbc:Nat) (bt:List RT) (bl:List Rat) (h_:Hp),μ_=(ls.getD k lay0).W.length-i∧Γ=[(1,pB b1),(2,sZ),(4,nV k),(5,nV i),(3,.slice sbA ((bt).length) sbc)]∧SS w h w_ h_ [⟨b1,36,[.slice A ts.length cap]⟩] [⟨95,3,sbA,sbc,(bt).length,(bt).flatMap rqc⟩] [Rt bt bl,Rt at_ al,Rn ts ls,Sl A ts]∧i≤(ls.getD k lay0).W.length∧bl=al++((ls.getD k lay0).W.take i).flatten) _ ⟨0,saA,sac,at_,al,h5,rfl,rfl,hs.to _ _,Nat.zero_le _,by simp⟩ ?_);rintro _ _ w11 ⟨i,sbA,sbc,bt,bl,h12,hm13,rfl,hs,hi,hbl⟩;have hbn:bl.length≤al.length+i*d k:=by rw[hbl,List.length_append,take_flat_len mtx i oM];exact nR _
 have hid:i*d k≤12*20:=Nat.mul_le_mul oM (hsm oM);have hmr:=fun h0=>mtx.row i h0
 have hlbt:=(hs.f.1).len;refine cQ (cSL (lL hs [.m 13 5,.v 14 (pB b1),.o 15 (.slice A ts.length cap) 0 0 1,.m 16 4] (lX 17 A ts.length cap 3 (k:Nat) k ((hs.f.r.2.1).ok oM) ?_)));refine lL hs [.v 18 (.pointer (some ⟨(aB A),aO A+k*3+1,none⟩))] ?_;obtain ⟨ekx,⟨AWx,cWx,usx,eWx,hcWx,hAWx,hTWx⟩,⟨ABx,cBx,rsx,eBx,hcBx,hABx,hTBx⟩⟩:=(hs.f.r.1).at_ k oM;replace hs:=((((hs.aS hAWx).aV hTWx).aS hABx).aT hTBx);refine lHe 19 ((ts.getD k lvd).2.1) hs (((hs.f.q.r.2.1).el k oM).part 1 1) eWx ?_;have lux:=(hs.f.r.1).len;have lb2x:=(hs.f.1).len;refine lL hs [.v 20 (nV usx.length)] ?_;cases hb14:(decide ((i:Int)<(usx.length:Int)))
 ·
  have phb14:=oF hb14;refine lB 21 hb14 (lN (cIF (CG.exit ?_)))
  show CG _ _ _ _ _ _ _ _
  refine kQ (lL hs [.m 35 3,.v 36 (pB b1),.o 37 (.slice A ts.length cap) 0 0 1,.m 38 4] (lX 39 A ts.length cap 3 (k:Nat) k ((hs.f.q.r.2.1).ok oM) ?_));refine lL hs [.v 40 (.pointer (some ⟨(aB A),aO A+k*3+2,none⟩))] (lHe 41 ((ts.getD k lvd).2.2) hs (((hs.f.q.r.2.1).el k oM).part 2 1) eBx ?_);refine lYsm 42 0 95 3 sbc sbA bt rqc rqd ABx rsx cBx 56 (.agg #[.bool false,sZ,sZ]) hs hs.f.2.1 oM (rt_one hs.f.1) (fun A15 c16 w17 h18 hs=>lL hs [.m 3 42] (lN (kQ (lL hs [.m 11 4] (lIn 12 ((k:Nat)+1) (k+1) ?_)))));refine lL hs [.m 4 12] (lD ?_);intro a_ ka;replace hs:=(hs.tl.tl.tl.tl.tl.tl.aT ((hs.f.q.1).app hs.f.1));refine ⟨_,_,?_,⟨k+1,A15,c16,bt++rsx,bl++(ls.getD k lay0).B,h18,rfl,rfl,hs.to _ _,oM,(by rw[flatq_take oM,hbl,List.take_of_length_le oM];simp[hal])⟩,ka.to _ kR⟩
  omega
 have phb14:=oT hb14;refine lB 21 hb14 (lN (cIT (cK (cQ (kZ (kQ (lL hs [.m 24 3,.v 25 (pB b1),.o 26 (.slice A ts.length cap) 0 0 1,.m 27 4] (lX 28 A ts.length cap 3 (k:Nat) k ((hs.f.q.r.2.1).ok oM) ?_))))))));refine lL hs [.v 29 (.pointer (some ⟨(aB A),aO A+k*3+1,none⟩))] (lHe 30 ((ts.getD k lvd).2.1) hs (((hs.f.q.r.2.1).el k oM).part 1 1) eWx ?_);refine lL hs [.m 31 5] (lX 32 AWx usx.length cWx 1 (i:Nat) i ((hs.f.r.2.1).ok oM) ?_);obtain ⟨Arp,crp,trp,erp,hcrp,hRrp,hTrp⟩:=(hs.f.r.1).at_ i oM;have hlrp:=hTrp.len;replace hs:=((hs.aS hRrp).aT hTrp);refine lHe 33 (usx.getD i undef) hs ((hs.f.q.2.1).el i oM) erp (lYsm 34 0 95 3 sbc sbA bt rqc rqd Arp trp crp 56 (.agg #[.bool false,sZ,sZ]) hs hs.f.2.1 oM (rt_one hs.f.1) (fun A23 c24 w25 h26 hs=>lL hs [.m 3 34] (lN (kQ (lL hs [.m 22 5] (lIn 23 ((i:Nat)+1) (i+1) ?_))))));refine lL hs [.m 5 23] (lD ?_);intro a_ ka;replace hs:=(hs.tl.tl.tl.tl.tl.tl.tl.aT ((hs.f.q.r.1).app hs.f.1));refine ⟨_,_,?_,⟨i+1,A23,c24,bt++trp,bl++(ls.getD k lay0).W.getD i [],h26,rfl,rfl,hs.to _ _,oM,(by rw[flat_take oM,hbl,List.append_assoc])⟩,ka.to _ kR⟩
 omega
theorem sClone0 (b o c:Nat)(l:List Rat)(hpos:0<l.length)(hl:l.length≤1000000)(w:World)(h:Hp)(g:G w h)(hA:Sq (some ⟨b,o,none⟩) l h):CR 185 #[.slice (some ⟨b,o,none⟩) l.length c] w h (fun v h1=>SlN h.size 73 qc h1 v l):=by
 have hs:=((sS g).aS hA);have hnil:([]:List Rat).length=0:=rfl;refine go Tryz.func185 [(0,.slice (some ⟨b,o,none⟩) l.length c)] rfl (cSL (lL hs [.v 2 (sZ)] (lN (cQ (cSL (lL hs [.m 3 0,.v 4 (.bool false)] (lN (cIF (cK (cSL (lRw 5 73 5 qc ([]:List Rat) hs (fun b1 w2 h3 hs=>lL hs [.m 6 0] (lYs 7 0 73 5 ((([]:List Rat)).length) (sB b1) ([]:List Rat) qc 0 (some ⟨b,o,none⟩) l c 56 (.agg #[.bool false,uV 0,eS,uV 0,eS]) hs hs.f.1 oM (fun A6 c7 w8 h9 hs=>lL hs [.m 2 7] (lN (kX ?_))))))))))))))));obtain ⟨hq,bq,spq,hs,hbq,hcq⟩:=hs.pubn 0 (A:=A6) (c:=c7) (ty:=73) (sz:=5) (l:=([]:List Rat)++l) (f:=qc) (by simpa using hpos);subst hbq;exact hs.ret [] (.slice (sB bq) l.length c7) (⟨bq,_,spq,rfl,hcq,hs.f.1⟩)
theorem sClone (A:Option Addr)(n c:Nat)(l:List Rat)(hn:l.length=n)(hpos:0<n)(hl:n≤1000000)(w:World)(h:Hp)(g:G w h)(hA:Sq A l h):CR 185 #[.slice A n c] w h (fun v h1=>SlN h.size 73 qc h1 v l):=by
  subst hn;have e:=hA.ok hpos;rw[e] at hA ⊢
  exact sClone0 _ _ c l hpos hl w h g hA
theorem nNext (m rb c:Nat)(A:Option Addr)(l:List Rat)(hm0:0<m)(hm:m≤l.length)(hl:l.length≤1000000)(hc:l.length≤c)(w:World)(h:Hp)(g:G w h)(ho:Own w rb 75 [.slice A l.length c])(hj:h[rb]?=some junk)(hA:Sq A l h):Calls Tryz.prog 184 #[nV m,pB rb] w (RetM rb w h fun v w' h1=>SlN h.size 73 qc h1 v (l.take m)∧∃ A2 c2,Own w' rb 75 [.slice A2 (l.drop m).length c2]∧(l.drop m).length≤c2∧Sq A2 (l.drop m) h1):=by
 have hmo:UpM [rb] w h w h:=UpM.refl g;obtain ⟨wz,hz,hs⟩:=SS.at_ g ho hj;replace hs:=hs.aS hA;refine go Tryz.func184 [(0,nV m),(1,pB rb)] rfl (cSL (lL hs [.v 3 (sZ)] (lNS (lL hs [.o 5 (.slice A l.length c) 0 0 1,.m 6 0] (lT 7 A l.length c 5 (m:Nat) m ?_)))));have hsz:=hmo.gr.size;refine lCu 8 (sClone A m c (l.take m) (by rw[List.length_take];omega) hm0 oM _ _ hs.g ((hs.f.1).take m)) ?_;rintro _ w1 h2 u3 ⟨bq,cq,spq,rfl,hcq,hNq⟩;replace hmo:=hmo.trans (u3.m _);replace hs:=hs.step u3;replace hNq:=hNq.mono hsz;replace hs:=(hs.add (K:=fun h_=>Nw h.size h_ bq 73 ((l.take m).flatMap qc++spq)) hNq);refine lL hs [.m 4 8] (lNS (lL hs [.o 9 (.slice A l.length c) 0 0 1,.m 10 0] (lF 11 A l.length c 5 (m:Nat) m ?_)));refine lPu 0 0 ([.slice (if c=m then A else A.map (·.add (m*5))) (l.length-m) (c-m)]) hs (fun w4 pu hs=>?_);replace hmo:=hmo.put pu (List.mem_singleton.2 rfl) hs.g;exact lNS (lL hs [.m 12 4,.m 3 12] (lN (kX (hs.retM hmo [] (.slice (sB bq) ((l.take m).length) cq) ⟨⟨bq,cq,spq,rfl,hcq,hs.f.1⟩,_,_,by rw[List.length_drop];exact hs.own 0,by rw[List.length_drop];omega,(hs.f.2.1).drop m c hc⟩))))
def QNs (K:Nat)(h:Hp)(us:List Value)(W:List (List Rat)):Prop:=∀ j,j<W.length→SlN K 73 qc h (us.getD j undef) (W.getD j [])
def LNew (K:Nat)(h:Hp)(t:LV)(L:Lay):Prop:=t.1=L.k∧(∃ us,SlN K 75 vc h t.2.1 us∧us.length=L.W.length∧QNs K h us L.W)∧SlN K 73 qc h t.2.2 L.B
structure NNew (K:Nat) (h:Hp) (ts:List LV) (ls:List Lay):Prop where
  len:ts.length=ls.length
  at_:∀ i,i<ls.length→LNew K h (ts.getD i lvd) (ls.getD i lay0)
def nums (d:Nat→Nat):Nat→Nat
  | 0=>0
  | k+1=>nums d k+d (k+1)*d k+d (k+1)
theorem nums_mono (d:Nat→Nat){k n:Nat}(h:k≤n):nums d k≤nums d n:=by
  induction h with
  | refl=>exact Nat.le_refl _
  | step _ ih=>exact Nat.le_trans ih (by show nums d _≤nums d _+_+_;omega)
def Shp (d:Nat→Nat)(zs:List Lay):Prop:=∀ i,i<zs.length→Mat (zs.getD i lay0).W (d (i+1)) (d i)∧(zs.getD i lay0).B.length=d (i+1)
theorem net_shp {ls:List Lay}{d:Nat→Nat}(o:Net3 ls d):Shp d ls:=fun i hi=>⟨(o.lay i hi).1,(o.lay i hi).2.1⟩
theorem Shp.take {d:Nat→Nat}{zs:List Lay}(s:Shp d zs)(k:Nat)(hk:k≤zs.length):(flatq (zs.take k)).length=nums d k:=by
  induction k with
  | zero=>simp[flatq,nums]
  | succ k ih =>
    obtain ⟨m,hb⟩:=s k oM;rw[flatq_take oM,List.length_append,List.length_append,ih oM,flat_len m.mem,m.rows,hb];rfl
theorem Shp.size {d:Nat→Nat}{zs:List Lay}(s:Shp d zs):(flatq zs).length=nums d zs.length:=by
  have:=s.take zs.length (Nat.le_refl _)
  rwa [List.take_length] at this
theorem Shp.nil {d:Nat→Nat}:Shp d []:=fun i hi=>by simp at hi
theorem Shp.snoc {d:Nat→Nat}{zs:List Lay}{L:Lay}(s:Shp d zs)(m:Mat L.W (d (zs.length+1)) (d zs.length))(hb:L.B.length=d (zs.length+1)):Shp d (zs++[L]):=fun i hi=>by
  rw[List.length_append,List.length_singleton] at hi
  rw[getD_snoc]
  by_cases e:i<zs.length
  · rw[if_pos e];exact s i e
  · have:i=zs.length:=by omega
    subst this;rw[if_neg e,if_pos rfl];exact ⟨m,hb⟩
theorem fill_end {d:Nat→Nat}{zs:List Lay}{xs rs:List Rat}(s:Shp d zs)(h:flatq zs++rs=xs)(hx:xs.length=nums d zs.length):flatq zs=xs:=by
  have h1:=s.size;have h2:=congrArg List.length h;rw[List.length_append] at h2
  have:rs=[]:=List.eq_nil_of_length_eq_zero oM;rw[←h,this,List.append_nil]
theorem rest_len {d:Nat→Nat}{zs:List Lay}{W:List (List Rat)}{xs rs:List Rat}(s:Shp d zs)(hW:∀ r∈W,r.length=d zs.length)(h:flatq zs++W.flatten++rs=xs):rs.length+(nums d zs.length+W.length*d zs.length)=xs.length:=by
  have h1:=s.size;have h2:=congrArg List.length h;rw[List.length_append,List.length_append,flat_len hW] at h2
  omega
theorem mat_of {W:List (List Rat)}{r c:Nat}(h:W.length=r)(hr:0<r)(hc:0<c)(hW:∀ x∈W,x.length=c):Mat W r c:=⟨h,hr,hc,fun i hi=>hW _ (by
  rw[List.getD_eq_getElem?_getD,List.getElem?_eq_getElem oM];exact List.getElem_mem _)⟩
theorem rows_snoc' {W:List (List Rat)}{n:Nat}(h:∀ r∈W,r.length=n){q:List Rat}(hl:q.length=n):∀ r∈W++[q],r.length=n:=fun r hr=>by
  rcases List.mem_append.1 hr with hr|hr
  · exact h r hr
  · rw[List.mem_singleton.1 hr];exact hl
theorem kind_snoc {zs ls:List Lay}{L:Lay}(h:∀ i,i<zs.length→(zs.getD i lay0).k=(ls.getD i lay0).k)(hL:L.k=(ls.getD zs.length lay0).k):∀ i,i<(zs++[L]).length→((zs++[L]).getD i lay0).k=(ls.getD i lay0).k:=fun i hi=>by
  rw[List.length_append,List.length_singleton] at hi
  rw[getD_snoc]
  by_cases e:i<zs.length
  · rw[if_pos e];exact h i e
  · have:i=zs.length:=by omega
    subst this;rw[if_neg e,if_pos rfl];exact hL
theorem take_cut {a l:List Rat}{m:Nat}:a++l.take m++l.drop m=a++l:=by rw[List.append_assoc,List.take_append_drop]
structure LayQ (L:Lay):Prop where
  rl:L.W.length≤1000000
  rls:∀ i,(L.W.getD i []).length≤1000000
  bl:L.B.length≤1000000
  w:∀ i j,LQ 100000000 ((L.W.getD i []).getD j 0)
  b:∀ i,LQ 100000000 (L.B.getD i 0)
def sumF (f:Nat→Rat):Nat→Rat
  | 0=>0
  | n+1=>sumF f n+f n
theorem sumF_congr {f g:Nat→Rat}{n:Nat}(h:∀ i,i<n→f i=g i):sumF f n=sumF g n:=by
  induction n with
  | zero=>rfl
  | succ n ih=>show sumF f n+f n=sumF g n+g n;rw[ih (fun i hi=>h i oM),h n oM]
theorem sumF_add (f g:Nat→Rat)(n:Nat):sumF (fun i=>f i+g i) n=sumF f n+sumF g n:=by
  induction n with
  | zero=>show (0:Rat)=0+0;rw[Rat.add_zero]
  | succ n ih=>show sumF (fun i=>f i+g i) n+(f n+g n)=(sumF f n+f n)+(sumF g n+g n);rw[ih];grind
theorem sumF_mul (c:Rat)(f:Nat→Rat)(n:Nat):sumF (fun i=>c*f i) n=c*sumF f n:=by
  induction n with
  | zero=>show (0:Rat)=c*0;rw[Rat.mul_zero]
  | succ n ih=>show sumF (fun i=>c*f i) n+c*f n=c*(sumF f n+f n);rw[ih];grind
theorem sumF_zero {f:Nat→Rat}{n:Nat}(h:∀ i,i<n→f i=0):sumF f n=0:=by
  induction n with
  | zero=>rfl
  | succ n ih=>show sumF f n+f n=0;rw[ih (fun i hi=>h i oM),h n oM,Rat.add_zero]
theorem sumF_swap (f:Nat→Nat→Rat)(m n:Nat):sumF (fun i=>sumF (f i) n) m=sumF (fun j=>sumF (fun i=>f i j) m) n:=by
  induction m with
  | zero=>exact (sumF_zero (fun _ _=>rfl)).symm
  | succ m ih =>
    show sumF (fun i=>sumF (f i) n) m+sumF (f m) n=_
    rw[ih,←sumF_add];rfl
theorem sumF_one {f:Nat→Rat}{n k:Nat}(hk:k<n)(h:∀ i,i<n→i≠k→f i=0):sumF f n=f k:=by
  induction n with
  | zero=>omega
  | succ n ih =>
    show sumF f n+f n=_
    by_cases e:k=n
    · subst e;rw[sumF_zero (fun i hi=>h i oM oM)];grind
    · rw[ih oM (fun i hi=>h i oM),h n oM (Ne.symm e),Rat.add_zero]
theorem dotq_sumF (a b:List Rat)(n:Nat):dotq a b n=sumF (fun i=>a.getD i 0*b.getD i 0) n:=by
  induction n with
  | zero=>rfl
  | succ n ih=>show dotq a b n+_=_;rw[ih];rfl
def slp (k:Int)(x:Rat):Rat:=if k=1 then 1 else if k=2 then (if 0<x then 1 else 0) else (((1:Int):Rat)/(((1:Int):Rat)+qabs x))*(((1:Int):Rat)/(((1:Int):Rat)+qabs x))
theorem one_abs_nz (x:Rat):((1:Int):Rat)+qabs x≠0:=fun e=>by
  have:=one_abs_pos x;rw[e] at this;exact absurd this kD
theorem slq_slp (k:Int)(x d:Rat):slq k x d=d*slp k x:=by
  unfold slq slp
  split
  · rw[Rat.mul_one]
  · split
    · split
      · rw[Rat.mul_one]
      · rw[Rat.mul_zero]
    · have h:=one_abs_nz x
      have h1:((1:Int):Rat)=1:=rfl;rw[h1] at h ⊢
      grind
theorem getD_mapR {α:Type}{n i:Nat}{f:Nat→α}{d:α}(h:i<n):((List.range n).map f).getD i d=f i:=by
  rw[List.getD_eq_getElem?_getD,List.getElem?_eq_getElem (by simpa using h)];simp
def inj (L:Lay)(x:List Rat)(q:Int)(r:Nat):Rat :=
  (if 0≤q-(r*x.length:Nat)∧q-(r*x.length:Nat)<(x.length:Nat) then x.getD (q-(r*x.length:Nat)).toNat 0 else 0)+(if q=(L.W.length*x.length+r:Nat) then 1 else 0)
def sumr (L:Lay)(x:List Rat)(r:Nat):Rat:=dotq (L.W.getD r []) x x.length+L.B.getD r 0
def tanl (L:Lay)(x dx:List Rat)(q:Int):List Rat:=(List.range L.W.length).map fun r=>slq L.k (sumr L x r) (dotq (L.W.getD r []) dx x.length+inj L x q r)
def atq (ls:List Lay)(xs:List Rat):Nat→Nat
  | 0=>0
  | k+1=>atq ls xs k+(ls.getD k lay0).W.length*(outq ls xs k).length+(ls.getD k lay0).W.length
def tanq (ls:List Lay)(xs:List Rat)(p:Int):Nat→List Rat
  | 0=>List.replicate xs.length 0
  | k+1=>tanl (ls.getD k lay0) (outq ls xs k) (tanq ls xs p k) (p-(atq ls xs k:Nat))
abbrev gT (ls:List Lay)(xs:List Rat)(p:Int)(k r:Nat):Rat:=dotq ((ls.getD k lay0).W.getD r []) (tanq ls xs p k) (outq ls xs k).length
def delq (L:Lay)(x bar:List Rat)(r:Nat):Rat:=bar.getD r 0*slp L.k (sumr L x r)
def downq (L:Lay)(x bar:List Rat):List Rat:=(List.range x.length).map fun j=>sumF (fun r=>delq L x bar r*(L.W.getD r []).getD j 0) L.W.length
def barq (ls:List Lay)(xs top:List Rat)(n:Nat):Nat→List Rat
  | 0=>top
  | t+1=>downq (ls.getD (n-1-t) lay0) (outq ls xs (n-1-t)) (barq ls xs top n t)
def conq (L:Lay)(x bar:List Rat)(q:Int):Rat:=sumF (fun r=>delq L x bar r*inj L x q r) L.W.length
theorem adj_step (L:Lay)(x dx bar:List Rat)(q:Int):dotq bar (tanl L x dx q) L.W.length=dotq (downq L x bar) dx x.length+conq L x bar q:=by
  have e1:dotq bar (tanl L x dx q) L.W.length=sumF (fun r=>sumF (fun c=>delq L x bar r*(L.W.getD r []).getD c 0*dx.getD c 0) x.length+delq L x bar r*inj L x q r) L.W.length:=by
    rw[dotq_sumF];refine sumF_congr (fun r hr=>?_)
    unfold tanl
    rw[getD_mapR hr,slq_slp,dotq_sumF];have:(fun c=>delq L x bar r*(L.W.getD r []).getD c 0*dx.getD c 0)=fun c=>delq L x bar r*((L.W.getD r []).getD c 0*dx.getD c 0):=by funext c;rw[Rat.mul_assoc]
    rw[this,sumF_mul]
    unfold delq;grind
  have e2:dotq (downq L x bar) dx x.length=sumF (fun c=>sumF (fun r=>delq L x bar r*(L.W.getD r []).getD c 0*dx.getD c 0) L.W.length) x.length:=by
    rw[dotq_sumF];refine sumF_congr (fun c hc=>?_)
    unfold downq
    rw[getD_mapR hc,Rat.mul_comm,←sumF_mul];exact sumF_congr (fun r _=>by grind)
  rw[e1,e2,sumF_add,sumF_swap];rfl
theorem tanq_len {ls:List Lay}{d:Nat→Nat}(o:Net3 ls d){xs:List Rat}(hx:xs.length=d 0)(p:Int)(k:Nat)(hk:k≤ls.length):(tanq ls xs p k).length=d k:=by
  cases k with
  | zero=>show (List.replicate _ _).length=_;rw[List.length_replicate];exact hx
  | succ k=>show (tanl _ _ _ _).length=_;unfold tanl;rw[List.length_map,List.length_range];exact (o.lay k oM).1.rows
def conqs (ls:List Lay)(xs top:List Rat)(p:Int)(n:Nat)(t:Nat):Rat:=sumF (fun s=>conq (ls.getD (n-1-s) lay0) (outq ls xs (n-1-s)) (barq ls xs top n s) (p-(atq ls xs (n-1-s):Nat))) t
theorem adj_all {ls:List Lay}{d:Nat→Nat}(o:Net3 ls d){xs:List Rat}(hx:xs.length=d 0)(top:List Rat)(p:Int):∀ t,t≤ls.length →
    dotq top (tanq ls xs p ls.length) (d ls.length)=dotq (barq ls xs top ls.length t) (tanq ls xs p (ls.length-t)) (d (ls.length-t))+conqs ls xs top p ls.length t
  | 0,_=>by show _=dotq top _ _+0;rw[Rat.add_zero];rfl
  | t+1,ht=>by
    rw[adj_all o hx top p t oM];have e:ls.length-t=(ls.length-1-t)+1:=by omega
    have e2:ls.length-(t+1)=ls.length-1-t:=by omega
    obtain ⟨k,hk⟩:∃ k,k=ls.length-1-t:=⟨_,rfl⟩;have hkl:k<ls.length:=by omega
    have e3:=adj_step (ls.getD k lay0) (outq ls xs k) (tanq ls xs p k) (barq ls xs top ls.length t) (p-(atq ls xs k:Nat));rw[(o.lay k hkl).1.rows,outq_len o hx k oM] at e3
    rw[e,e2,←hk];have e4:tanq ls xs p (k+1)=tanl (ls.getD k lay0) (outq ls xs k) (tanq ls xs p k) (p-(atq ls xs k:Nat)):=rfl;rw[e4,e3];have e5:barq ls xs top ls.length (t+1)=downq (ls.getD k lay0) (outq ls xs k) (barq ls xs top ls.length t):=by rw[hk];rfl
    have e6:conqs ls xs top p ls.length (t+1)=conqs ls xs top p ls.length t+conq (ls.getD k lay0) (outq ls xs k) (barq ls xs top ls.length t) (p-(atq ls xs k:Nat)):=by rw[hk];rfl
    rw[e5,e6];grind
theorem dotq_rep (a:List Rat)(m n:Nat):dotq a (List.replicate m 0) n=0:=dotq_zero _ _ rep_zero _
theorem adj_row {ls:List Lay}{d:Nat→Nat}(o:Net3 ls d){xs:List Rat}(hx:xs.length=d 0)(top:List Rat)(p:Int):dotq top (tanq ls xs p ls.length) (d ls.length)=conqs ls xs top p ls.length ls.length:=by
  rw[adj_all o hx top p ls.length (Nat.le_refl _),Nat.sub_self]
  show dotq _ (List.replicate _ _) _+_=_
  rw[dotq_rep];grind
def accl (S L:Lay)(x bar:List Rat):Lay :=
  ⟨S.k,(List.range L.W.length).map fun r=>(List.range x.length).map fun c=>(S.W.getD r []).getD c 0+delq L x bar r*x.getD c 0,(List.range L.W.length).map fun r=>S.B.getD r 0+delq L x bar r⟩
theorem flat_getR {c:Nat}:∀ {W:List (List Rat)} {r:Nat},(∀ q∈W,q.length=c)→r<W.length→∀ j,j<c→W.flatten.getD (r*c+j) 0=(W.getD r []).getD j 0
  | [],r,_,hr,_,_=>by simp at hr
  | q::W,0,h,_,j,hj=>by
    rw[List.flatten_cons,Nat.zero_mul,Nat.zero_add,getD_app_,if_pos (by rw[h q (by simp)];exact hj)];rfl
  | q::W,r+1,h,hr,j,hj=>by
    have hq:=h q (by simp);rw[List.flatten_cons,getD_app_,if_neg (by rw[hq,Nat.add_mul];omega),hq,show (r+1)*c+j-c=r*c+j by rw[Nat.add_mul];omega];rw[flat_getR (fun x hx=>h x (by simp[hx])) (by simpa using hr) j hj];rfl
def layGet (L:Lay)(c:Nat)(q:Nat):Rat:=if q<L.W.length*c then (L.W.getD (q/c) []).getD (q%c) 0 else L.B.getD (q-L.W.length*c) 0
theorem flatL_get {L:Lay}{r c:Nat}(m:Mat L.W r c)(q:Nat):(flatL L).getD q 0=layGet L c q:=by
  unfold flatL layGet
  rw[getD_app_,flat_len m.mem]
  split
  · rename_i h
    have h1:q/c<L.W.length:=Nat.div_lt_of_lt_mul (by rw[Nat.mul_comm];exact h);have h2:q%c<c:=Nat.mod_lt _ m.cpos;have:=flat_getR m.mem h1 _ h2;rw[Nat.mul_comm,Nat.div_add_mod] at this
    exact this
  · rfl
theorem conq_in {S L:Lay}{x bar:List Rat}{r c:Nat}(m:Mat L.W r c)(hx:x.length=c)(q:Nat)(hq:q<r*c+r) :
    layGet (accl S L x bar) c q=layGet S c q+conq L x bar (q:Int)∨S.W.length≠r:=by
  by_cases hS:S.W.length=r
  · left
    have hr:=m.rows;have hc:=m.cpos
    unfold layGet accl
    simp only[List.length_map,List.length_range]
    rw[hr,hS]
    split
    · rename_i h
      have h1:q/c<r:=Nat.div_lt_of_lt_mul (by rw[Nat.mul_comm];exact h);have h2:q%c<c:=Nat.mod_lt _ hc;rw[getD_mapR h1,getD_mapR (by rw[hx];exact h2)]
      congr 1
      unfold conq
      rw[hr,sumF_one (k:=q/c) h1]
      · have e:(q:Int)-((q/c*x.length:Nat):Int)=((q%c:Nat):Int):=by
          rw[hx];have:=Nat.div_add_mod q c;rw[Nat.mul_comm] at this;omega
        unfold inj
        rw[e,hx,hr,if_pos ⟨by omega,by omega⟩,if_neg (fun e2=>by have e3:=Int.ofNat_inj.1 e2;have e4:=Nat.le_add_right (r*c) (q/c);omega),Rat.add_zero];rfl
      · intro i hi hne
        have e:¬(0≤(q:Int)-((i*x.length:Nat):Int)∧(q:Int)-((i*x.length:Nat):Int)<((x.length:Nat):Int)):=by
          rintro ⟨a,b⟩;rw[hx] at a b
          apply hne
          have a':i*c≤q:=by omega
          have b':q<(i+1)*c:=by rw[Nat.add_mul];omega
          exact (Nat.div_eq_of_lt_le a' b').symm
        unfold inj
        rw[if_neg e,hx,hr,if_neg (fun e2=>by have e3:=Int.ofNat_inj.1 e2;have e4:=Nat.le_add_right (r*c) i;omega),Rat.add_zero,Rat.mul_zero]
    · rename_i h
      have h1:q-r*c<r:=by omega
      rw[getD_mapR h1]
      congr 1
      unfold conq
      rw[hr,sumF_one (k:=q-r*c) h1]
      · unfold inj
        rw[hx,hr,if_neg (by
          rintro ⟨a,b⟩;have hle:((q-r*c)+1)*c≤r*c:=Nat.mul_le_mul_right _ oM;rw[Nat.add_mul] at hle
          omega),if_pos oM,Rat.zero_add,Rat.mul_one]
      · intro i hi hne
        unfold inj
        rw[hx,hr,if_neg (by
          rintro ⟨a,b⟩;have hle:(i+1)*c≤r*c:=Nat.mul_le_mul_right _ oM;rw[Nat.add_mul] at hle
          omega),if_neg oM,Rat.add_zero,Rat.mul_zero]
  · exact .inr hS
theorem conq_out {L:Lay}{x bar:List Rat}{r c:Nat}(m:Mat L.W r c)(hx:x.length=c)(q:Int)(hq:q<0∨((r*c+r:Nat):Int)≤q):conq L x bar q=0:=by
  have hr:=m.rows;refine sumF_zero (fun i hi=>?_);rw[hr] at hi
  have hle:(i+1)*c≤r*c:=Nat.mul_le_mul_right _ oM;rw[Nat.add_mul] at hle
  unfold inj
  rw[hx,hr,if_neg (by rintro ⟨a,b⟩;omega),if_neg oM,Rat.add_zero,Rat.mul_zero]
theorem sumF_succ' (f:Nat→Rat)(n:Nat):sumF f (n+1)=f 0+sumF (fun i=>f (i+1)) n:=by
  induction n with
  | zero=>show (0:Rat)+f 0=f 0+0;grind
  | succ n ih=>show sumF f (n+1)+f (n+1)=f 0+(sumF (fun i=>f (i+1)) n+f (n+1));rw[ih];grind
theorem sumF_rev (f:Nat→Rat)(n:Nat):sumF (fun s=>f (n-1-s)) n=sumF f n:=by
  induction n with
  | zero=>rfl
  | succ n ih =>
    rw[sumF_succ'];have e:sumF (fun i=>f (n+1-1-(i+1))) n=sumF (fun s=>f (n-1-s)) n:=sumF_congr (fun i hi=>by rw[show n+1-1-(i+1)=n-1-i by omega]);rw[e,ih]
    show f (n+1-1-0)+sumF f n=sumF f n+f n
    rw[show n+1-1-0=n by omega];grind
theorem getD_outR {α:Type}{l:List α}{i:Nat}{d:α}(h:l.length≤i):l.getD i d=d:=by rw[List.getD_eq_getElem?_getD,List.getElem?_eq_none h];rfl
theorem flatq_get {zs:List Lay}{d:Nat→Nat}(s:Shp d zs)(p:Nat):∀ k,k≤zs.length→(flatq (zs.take k)).getD p 0=sumF (fun m=>if nums d m≤p∧p<nums d (m+1) then layGet (zs.getD m lay0) (d m) (p-nums d m) else 0) k
  | 0,_=>by simp[flatq];rfl
  | k + 1,hk=>by
    have ih:=flatq_get s p k oM;have hl:=s.take k oM;obtain ⟨m,hb⟩:=s k oM;have e:flatq (zs.take (k+1))=flatq (zs.take k)++flatL (zs.getD k lay0):=by rw[flatq_take oM,List.append_assoc];rfl
    show _=sumF _ k+(if nums d k≤p∧p<nums d (k+1) then layGet (zs.getD k lay0) (d k) (p-nums d k) else 0)
    rw[←ih,e,getD_app_,hl,flatL_get m];have hn:nums d (k+1)=nums d k+d (k+1)*d k+d (k+1):=rfl
    split
    · rename_i h
      rw[if_neg oM,Rat.add_zero]
    · rename_i h
      rw[getD_outR (l:=flatq (zs.take k)) oM]
      by_cases h2:p<nums d (k+1)
      · rw[if_pos ⟨by omega,h2⟩,Rat.zero_add]
      · rw[if_neg oM,Rat.add_zero]
        unfold layGet
        rw[m.rows,if_neg oM,getD_outR oM]
theorem atq_nums {ls:List Lay}{d:Nat→Nat}(o:Net3 ls d){xs:List Rat}(hx:xs.length=d 0):∀ k,k≤ls.length→atq ls xs k=nums d k
  | 0,_=>rfl
  | k+1,hk=>by
    show atq ls xs k+_*_+_=nums d k+_*_+_
    rw[atq_nums o hx k oM,outq_len o hx k oM,(o.lay k oM).1.rows]
def accn (ls zs:List Lay)(xs top:List Rat):List Lay:=(List.range ls.length).map fun m=>accl (zs.getD m lay0) (ls.getD m lay0) (outq ls xs m) (barq ls xs top ls.length (ls.length-1-m))
theorem accl_shp {S L:Lay}{x bar:List Rat}{r c:Nat}(m:Mat L.W r c)(hx:x.length=c):Mat (accl S L x bar).W r c∧(accl S L x bar).B.length=r:=by
  refine ⟨⟨by simp[accl,m.rows],m.rpos,m.cpos,fun i hi=>?_⟩,by simp[accl,m.rows]⟩
  show ((List.map _ _).getD i []).length=c
  rw[getD_mapR (by rw[m.rows];exact hi),List.length_map,List.length_range];exact hx
theorem accn_len {ls zs:List Lay}{xs top:List Rat}:(accn ls zs xs top).length=ls.length:=by simp[accn]
theorem accn_at {ls zs:List Lay}{xs top:List Rat}{m:Nat}(h:m<ls.length):(accn ls zs xs top).getD m lay0=accl (zs.getD m lay0) (ls.getD m lay0) (outq ls xs m) (barq ls xs top ls.length (ls.length-1-m)):=getD_mapR h
theorem accn_shp {ls zs:List Lay}{d:Nat→Nat}(o:Net3 ls d){xs:List Rat}(hx:xs.length=d 0)(top:List Rat):Shp d (accn ls zs xs top):=fun i hi=>by
  rw[accn_len] at hi
  rw[accn_at hi];exact accl_shp (o.lay i hi).1 (outq_len o hx i oM)
theorem accn_get {ls zs:List Lay}{d:Nat→Nat}(o:Net3 ls d){xs:List Rat}(hx:xs.length=d 0)(top:List Rat)(s:Shp d zs)(hz:zs.length=ls.length)(p:Nat) :
    (flatq (accn ls zs xs top)).getD p 0=(flatq zs).getD p 0+conqs ls xs top (p:Int) ls.length ls.length:=by
  have h1:=flatq_get (accn_shp (zs:=zs) o hx top) p ls.length (by rw[accn_len];omega);have h2:=flatq_get s p ls.length oM;rw[List.take_of_length_le (by rw[accn_len];omega)] at h1
  rw[List.take_of_length_le oM] at h2
  have h3:conqs ls xs top (p:Int) ls.length ls.length=sumF (fun m=>conq (ls.getD m lay0) (outq ls xs m) (barq ls xs top ls.length (ls.length-1-m)) ((p:Int)-(nums d m:Nat))) ls.length:=by
    unfold conqs
    rw[←sumF_rev (fun m=>conq (ls.getD m lay0) (outq ls xs m) (barq ls xs top ls.length (ls.length-1-m)) ((p:Int)-(nums d m:Nat)))];refine sumF_congr (fun i hi=>?_);rw[atq_nums o hx _ oM,show ls.length-1-(ls.length-1-i)=i by omega]
  rw[h1,h2,h3,←sumF_add];refine sumF_congr (fun m hm=>?_);have hn:nums d (m+1)=nums d m+d (m+1)*d m+d (m+1):=rfl;have hM:=(o.lay m hm).1;have hX:=outq_len o hx m oM
  by_cases hp:nums d m≤p∧p<nums d (m+1)
  · rw[if_pos hp,if_pos hp,accn_at hm]
    have e:(p:Int)-(nums d m:Nat)=((p-nums d m:Nat):Int):=by omega
    rw[e]
    rcases conq_in (S:=zs.getD m lay0) (bar:=barq ls xs top ls.length (ls.length-1-m)) hM hX (p-nums d m) oM with h|h
    · exact h
    · exact absurd (s m oM).1.rows h
  · rw[if_neg hp,if_neg hp,conq_out hM hX _ oM,Rat.add_zero]
def topq (z y:List Rat):List Rat:=(List.range z.length).map fun i=>(z.getD i 0-y.getD i 0)*((2:Int):Rat)
def gradN (ls z0:List Lay)(xss yss:List (List Rat)):Nat→List Lay
  | 0=>z0
  | r+1=>accn ls (gradN ls z0 xss yss r) (xss.getD r []) (topq (outq ls (xss.getD r []) ls.length) (yss.getD r []))
def gradP (ls:List Lay)(xss yss:List (List Rat))(p:Nat)(r:Nat):Rat :=
  sumF (fun i=>dotq (topq (outq ls (xss.getD i []) ls.length) (yss.getD i [])) (tanq ls (xss.getD i []) (p:Int) ls.length) (outq ls (xss.getD i []) ls.length).length) r
theorem gradN_shp {ls z0:List Lay}{d:Nat→Nat}(o:Net3 ls d){xss yss:List (List Rat)}(hx:∀ i,i<xss.length→(xss.getD i []).length=d 0)(s:Shp d z0)(hz:z0.length=ls.length):∀ r,r≤xss.length→Shp d (gradN ls z0 xss yss r)∧(gradN ls z0 xss yss r).length=ls.length
  | 0,_=>⟨s,hz⟩
  | r+1,h=>⟨accn_shp o (hx r oM) _,accn_len⟩
theorem gradN_get {ls z0:List Lay}{d:Nat→Nat}(o:Net3 ls d){xss yss:List (List Rat)}(hx:∀ i,i<xss.length→(xss.getD i []).length=d 0)(s:Shp d z0)(hz:z0.length=ls.length)(h0:∀ p,(flatq z0).getD p 0=0)(p:Nat) :
    ∀ r,r≤xss.length→(flatq (gradN ls z0 xss yss r)).getD p 0=gradP ls xss yss p r
  | 0,_=>h0 p
  | r+1,h=>by
    obtain ⟨h1,h2⟩:=gradN_shp (yss:=yss) o hx s hz r oM
    show (flatq (accn _ _ _ _)).getD p 0=_
    rw[accn_get o (hx r oM) _ h1 h2,gradN_get o hx s hz h0 p r oM]
    show _=gradP ls xss yss p r+dotq (topq (outq ls (xss.getD r []) ls.length) (yss.getD r [])) (tanq ls (xss.getD r []) (p:Int) ls.length) (outq ls (xss.getD r []) ls.length).length
    rw[outq_len o (hx r oM) _ (Nat.le_refl _),adj_row o (hx r oM)]
theorem gradN_flat {ls z0:List Lay}{d:Nat→Nat}(o:Net3 ls d){xss yss:List (List Rat)}(hx:∀ i,i<xss.length→(xss.getD i []).length=d 0)(s:Shp d z0)(hz:z0.length=ls.length)(h0:∀ p,(flatq z0).getD p 0=0) :
    flatq (gradN ls z0 xss yss xss.length)=(List.range (flatq ls).length).map fun p=>gradP ls xss yss p xss.length:=by
  obtain ⟨h1,h2⟩:=gradN_shp (yss:=yss) o hx s hz xss.length (Nat.le_refl _);have e1:=h1.size;have e2:=(net_shp o).size;rw[h2] at e1
  refine List.ext_getElem (by simp[e1,e2]) (fun p a b=>?_);have:=gradN_get o hx s hz h0 (yss:=yss) p xss.length (Nat.le_refl _);rw[List.getD_eq_getElem?_getD,List.getElem?_eq_getElem a] at this
  simp only[List.getElem_map,List.getElem_range]
  exact this
theorem lq_get {k:Nat}{l:List Rat}(h:∀ q∈l,LQ k q)(hk:1≤k)(j:Nat):LQ k (l.getD j 0):=by
  rw[List.getD_eq_getElem?_getD];cases hh:l[j]? with
  | none=>exact lq0 hk
  | some q=>exact h q (List.mem_of_getElem? hh)
def knownN:List Lay:=[⟨2,[[((1:Int):Rat),((-1:Int):Rat)]],[((0:Int):Rat)]⟩]
theorem knownChk:chkq knownN=0:=by
  have hF:Fine knownN 0:=⟨⟨by decide,by decide,fun i hi=>(by obtain rfl:i=0:=Nat.lt_one_iff.1 hi;rfl)⟩,by decide,rfl,fun _=>by decide,fun h=>absurd h kD⟩;have hK:Kd knownN 0:=⟨by decide,by decide⟩
  unfold chkq
  rw[if_pos ⟨by decide,by decide⟩]
  have e:chkFrom knownN 0 (0+1)=0:=by
    unfold chkFrom
    rw[if_pos hF,if_pos hK];rfl
  exact e
theorem knownSz (i:Nat):LaySz (knownN.getD i lay0):=by
  rcases Nat.eq_zero_or_pos i with h|h
  · subst h
    refine ⟨by decide,fun i=>?_,by decide,fun i j=>?_,lq_get (by intro q hq;have:q=((0:Int):Rat):=List.mem_singleton.1 hq;rw[this];exact LQ.lit kD) oM,by decide,by decide⟩
    · cases i with
      | zero=>decide
      | succ i=>exact Nat.zero_le _
    · cases i with
      | zero=>exact lq_get (by intro q hq;rcases List.mem_cons.1 hq with rfl|hq;exact LQ.lit kD;rw[List.mem_singleton.1 hq];exact LQ.lit kD) oM j
      | succ i=>exact lq0 oM
  · obtain ⟨k,rfl⟩:∃ k,i=k+1:=⟨i-1,by omega⟩
    exact lay0_sz
theorem knownE (a:Int):ansE knownN [(a:Rat),((2:Int):Rat)]=0:=ansE0 knownChk rfl
theorem knownL1:ansL knownN [((1:Int):Rat),((2:Int):Rat)]=[0]:=by rw[ansL0 (xs:=[((1:Int):Rat),((2:Int):Rat)]) knownChk rfl];decide +kernel
theorem knownL5:ansL knownN [((5:Int):Rat),((2:Int):Rat)]=[3]:=by rw[ansL0 (xs:=[((5:Int):Rat),((2:Int):Rat)]) knownChk rfl];decide +kernel
theorem lKnown30  (w:World)(h:Hp)(g:G w h)(tb:Tab h):CV 12 #[] w h (.bool true):=by
 have hs:=((sS g).aB tb);have hk1:(ansL knownN ([((1:Int):Rat),((2:Int):Rat)]:List Rat)).length=1:=by rw[knownL1];rfl
 have hk5:(ansL knownN ([((5:Int):Rat),((2:Int):Rat)]:List Rat)).length=1:=by rw[knownL5];rfl
 refine go Tryz.func12 [] rfl (cSL (lL hs [.v 0 (.bool false)] (lNS (lC 6 hs (fOf 1 oM oM _ _ hs.g) ?_))));rintro _ w1 h2 hs rfl;refine lC 7 hs (fOf (-1) oM oM _ _ hs.g) ?_;rintro _ w3 h4 hs rfl;refine lR 8 73 2 ([.bool (ineg ((1:Int):Rat).num),uV (lo (iabs ((1:Int):Rat).num)),.string (hi (iabs ((1:Int):Rat).num)),uV (lo (qd ((1:Int):Rat))),.string (hi (qd ((1:Int):Rat))),.bool (ineg ((-1:Int):Rat).num),uV (lo (iabs ((-1:Int):Rat).num)),.string (hi (iabs ((-1:Int):Rat).num)),uV (lo (qd ((-1:Int):Rat))),.string (hi (qd ((-1:Int):Rat)))]) hs (fun b5 w6 h7 hs=>?_);replace hs:=hs.aS (SlO.of_flat (sz:=5) (f:=qc) (d:=0) (b:=b5) (o:=0) (l:=([((1:Int):Rat),((-1:Int):Rat)]:List Rat)) (fun _=>rfl) hs.f.1);refine lR 9 75 1 ([.slice (sB b5) 2 2]) hs (fun b10 w11 h12 hs=>?_);replace hs:=hs.aS (SlO.of_flat (sz:=1) (f:=vc) (d:=undef) (b:=b10) (o:=0) (l:=([.slice (sB b5) 2 2]:List Value)) (fun _=>rfl) hs.f.1);refine lC 10 hs (fOf 0 oM oM _ _ hs.g) ?_;rintro _ w15 h16 hs rfl;refine lR 11 73 1 (qc ((0:Int):Rat)) hs (fun b17 w18 h19 hs=>?_);replace hs:=hs.aS (SlO.of_flat (sz:=5) (f:=qc) (d:=0) (b:=b17) (o:=0) (l:=([((0:Int):Rat)]:List Rat)) (fun _=>rfl) hs.f.1);refine lL hs [.v 12 (.agg #[iV 2,.slice (sB b10) 1 1,.slice (sB b17) 1 1])] (lR 13 77 1 ([iV 2,.slice (sB b10) 1 1,.slice (sB b17) 1 1]) hs (fun b22 w23 h24 hs=>?_));replace hs:=hs.aS (SlO.of_flat (sz:=3) (f:=lvc) (d:=lvd) (b:=b22) (o:=0) (l:=([(2,.slice (sB b10) 1 1,.slice (sB b17) 1 1)]:List LV)) (fun _=>rfl) hs.f.1);replace hs:=hs.add (K:=Nn ([(2,.slice (sB b10) 1 1,.slice (sB b17) 1 1)]:List LV) knownN) (NetL.snoc NetL.nil ⟨rfl,⟨_,_,([.slice (sB b5) 2 2]:List Value),rfl,nR _,hs.f.q.1,QVs.snoc QVs.nil ⟨_,_,rfl,nR _,hs.f.q.r.1⟩⟩,⟨_,_,rfl,nR _,hs.f.r.1⟩⟩);refine lL hs [.v 14 (.agg #[.slice (sB b22) 1 1])] (lA 1 28 ([sZ]) hs (fun b27 w28 h29 hs=>lP 0 0 ([.slice (sB b22) 1 1]) hs (fun w30 hs=>lN (cQ (cR 8 [] mixed hs al_nil ?_)))));refine eO 0 16 [(0,0,1)] (.agg #[.slice (sB b22) 1 1]) hs (eC 1 17 hs (fun _ _ hs=>fOf 1 oM oM _ _ hs.g) ?_);rintro _ _ _ w31 h32 hs rfl;refine eC 2 18 hs (fun _ _ hs=>fOf 2 oM oM _ _ hs.g) ?_;rintro _ _ _ w33 h34 hs rfl;refine eR 3 19 73 2 ([.bool (ineg ((1:Int):Rat).num),uV (lo (iabs ((1:Int):Rat).num)),.string (hi (iabs ((1:Int):Rat).num)),uV (lo (qd ((1:Int):Rat))),.string (hi (qd ((1:Int):Rat))),.bool (ineg ((2:Int):Rat).num),uV (lo (iabs ((2:Int):Rat).num)),.string (hi (iabs ((2:Int):Rat).num)),uV (lo (qd ((2:Int):Rat))),.string (hi (qd ((2:Int):Rat)))]) hs (fun b35 w36 h37 hs=>?_);replace hs:=hs.aS (SlO.of_flat (sz:=5) (f:=qc) (d:=0) (b:=b35) (o:=0) (l:=([((1:Int):Rat),((2:Int):Rat)]:List Rat)) (fun _=>rfl) hs.f.1);refine eC 4 20 hs (fun _ _ hs=>nAnswer (sB b22) 1 ([(2,.slice (sB b10) 1 1,.slice (sB b17) 1 1)]:List LV) knownN kD (fun i _=>(knownSz i).len) (sB b35) 2 ([((1:Int):Rat),((2:Int):Rat)]:List Rat) (nR _) (fun _ h2=>netB (chk_net3 knownChk) knownSz h2 (lq_get (by intro q hq;simp only[List.mem_cons,List.not_mem_nil,or_false] at hq;rcases hq with rfl|rfl<;>exact LQ.lit kD) oM)) _ _ hs.g hs.f.r.2.1 hs.f.r.1 hs.f.1 hs.f.q.q.r.2.1) ?_;rintro _ _ _ w40 h41 hs ⟨Aa1,ca1,rfl,hca1,hAa1⟩;replace hs:=hs.aS hAa1;refine eV 5 15 (.tuple #[.slice Aa1 ((ansL knownN ([((1:Int):Rat),((2:Int):Rat)]:List Rat)).length) ca1,iV (ansE knownN ([((1:Int):Rat),((2:Int):Rat)]:List Rat))]) (eV 6 21 (.slice Aa1 ((ansL knownN ([((1:Int):Rat),((2:Int):Rat)]:List Rat)).length) ca1) (eV 7 22 (iV (ansE knownN ([((1:Int):Rat),((2:Int):Rat)]:List Rat))) (eD0 hs (fun w42 h43 hs=>tV 8 2 (.slice Aa1 ((ansL knownN ([((1:Int):Rat),((2:Int):Rat)]:List Rat)).length) ca1) (tV 9 3 (iV (ansE knownN ([((1:Int):Rat),((2:Int):Rat)]:List Rat))) (tN (cQ (cR 8 [] mixed hs al_nil ?_))))))));refine eO 0 24 [(0,0,1)] (.agg #[.slice (sB b22) 1 1]) hs (eC 1 25 hs (fun _ _ hs=>fOf 5 oM oM _ _ hs.g) ?_);rintro _ _ _ w44 h45 hs rfl;refine eC 2 26 hs (fun _ _ hs=>fOf 2 oM oM _ _ hs.g) ?_;rintro _ _ _ w46 h47 hs rfl;refine eR 3 27 73 2 ([.bool (ineg ((5:Int):Rat).num),uV (lo (iabs ((5:Int):Rat).num)),.string (hi (iabs ((5:Int):Rat).num)),uV (lo (qd ((5:Int):Rat))),.string (hi (qd ((5:Int):Rat))),.bool (ineg ((2:Int):Rat).num),uV (lo (iabs ((2:Int):Rat).num)),.string (hi (iabs ((2:Int):Rat).num)),uV (lo (qd ((2:Int):Rat))),.string (hi (qd ((2:Int):Rat)))]) hs (fun b48 w49 h50 hs=>?_);replace hs:=hs.aS (SlO.of_flat (sz:=5) (f:=qc) (d:=0) (b:=b48) (o:=0) (l:=([((5:Int):Rat),((2:Int):Rat)]:List Rat)) (fun _=>rfl) hs.f.1);refine eC 4 28 hs (fun _ _ hs=>nAnswer (sB b22) 1 ([(2,.slice (sB b10) 1 1,.slice (sB b17) 1 1)]:List LV) knownN kD (fun i _=>(knownSz i).len) (sB b48) 2 ([((5:Int):Rat),((2:Int):Rat)]:List Rat) (nR _) (fun _ h2=>netB (chk_net3 knownChk) knownSz h2 (lq_get (by intro q hq;simp only[List.mem_cons,List.not_mem_nil,or_false] at hq;rcases hq with rfl|rfl<;>exact LQ.lit kD) oM)) _ _ hs.g hs.f.q.r.1 hs.f.q.2.1 hs.f.1 hs.f.q.q.q.r.1) ?_;rintro _ _ _ w53 h54 hs ⟨Aa5,ca5,rfl,hca5,hAa5⟩;replace hs:=hs.aS hAa5;refine eV 5 23 (.tuple #[.slice Aa5 ((ansL knownN ([((5:Int):Rat),((2:Int):Rat)]:List Rat)).length) ca5,iV (ansE knownN ([((5:Int):Rat),((2:Int):Rat)]:List Rat))]) (eV 6 29 (.slice Aa5 ((ansL knownN ([((5:Int):Rat),((2:Int):Rat)]:List Rat)).length) ca5) (eV 7 30 (iV (ansE knownN ([((5:Int):Rat),((2:Int):Rat)]:List Rat))) (eD0 hs (fun w55 h56 hs=>tV 8 4 (.slice Aa5 ((ansL knownN ([((5:Int):Rat),((2:Int):Rat)]:List Rat)).length) ca5) (tV 9 5 (iV (ansE knownN ([((5:Int):Rat),((2:Int):Rat)]:List Rat))) (tNS (lL hs [.m 31 3] ?_)))))));have hb57:((ansE knownN ([((1:Int):Rat),((2:Int):Rat)]:List Rat):Int) == (0:Int))=true:=by rw[knownE];rfl
 have phb57:=eq_of_beq hb57;refine lB 32 hb57 (lL hs [.m 33 32,.m 34 2,.v 35 (nV ((ansL knownN ([((1:Int):Rat),((2:Int):Rat)]:List Rat)).length))] ?_);have hb58:((((ansL knownN ([((1:Int):Rat),((2:Int):Rat)]:List Rat)).length:Nat):Int) == (1:Int))=true:=by rw[hk1];rfl
 have phb58:=eq_of_beq hb58;refine lB 36 hb58 (lL hs [.v 37 (.bool true),.m 38 37,.m 39 2] (lX 40 Aa1 ((ansL knownN ([((1:Int):Rat),((2:Int):Rat)]:List Rat)).length) ca1 5 0 0 ((hs.f.r.2.1).ok oM) ?_));refine lH 41 (qv ((ansL knownN ([((1:Int):Rat),((2:Int):Rat)]:List Rat)).getD 0 0)) hs ((hs.f.r.2.1).el 0 oM) (lC 42 hs (hIs ((ansL knownN ([((1:Int):Rat),((2:Int):Rat)]:List Rat)).getD 0 0) 0 1 (by rw[knownL1];exact ⟨by decide +kernel,by decide +kernel⟩) kD kD kD kD kD _ _ hs.g) ?_);rintro _ w59 h60 hs rfl;have hb61:(sameQ ((ansL knownN ([((1:Int):Rat),((2:Int):Rat)]:List Rat)).getD 0 0) (mkR 0 1))=true:=by rw[knownL1];decide +kernel
 rw[hb61];refine lL hs [.v 43 (.bool true),.m 44 43,.m 45 5] ?_;have hb62:((ansE knownN ([((5:Int):Rat),((2:Int):Rat)]:List Rat):Int) == (0:Int))=true:=by rw[knownE];rfl
 have phb62:=eq_of_beq hb62;refine lB 46 hb62 (lL hs [.v 47 (.bool true),.m 48 47,.m 49 4] (lX 50 Aa5 ((ansL knownN ([((5:Int):Rat),((2:Int):Rat)]:List Rat)).length) ca5 5 0 0 ((hs.f.1).ok oM) ?_));refine lH 51 (qv ((ansL knownN ([((5:Int):Rat),((2:Int):Rat)]:List Rat)).getD 0 0)) hs ((hs.f.1).el 0 oM) (lC 52 hs (hIs ((ansL knownN ([((5:Int):Rat),((2:Int):Rat)]:List Rat)).getD 0 0) 3 1 (by rw[knownL5];exact ⟨by decide +kernel,by decide +kernel⟩) kD kD kD kD kD _ _ hs.g) ?_);rintro _ w63 h64 hs rfl;have hb65:(sameQ ((ansL knownN ([((5:Int):Rat),((2:Int):Rat)]:List Rat)).getD 0 0) (mkR 3 1))=true:=by rw[knownL5];decide +kernel
 rw[hb65];refine lL hs [.v 53 (.bool true),.m 0 53] (lN (cTo [(0,.bool true)] ?_));exact kX (hs.ret [] (.bool true) rfl)
theorem mk_s4 {ls:List Lay}{i m o kd:Int}(hl:ls.length+1=(netSizes i m o).length)(h:∀ k,k<ls.length→LayMk (ls.getD k lay0) (pick (kindAt kd k) 3+1:Nat) ((netSizes i m o).getD (k+1) 0) ((netSizes i m o).getD k 0)) :
    0<ls.length∧ls.length≤2∧(∀ k,LayS4 (ls.getD k lay0))∧∀ k,k<ls.length→0<(ls.getD k lay0).W.length∧0<(ls.getD k lay0).B.length:=by
  have hs:=sizes_len i m o;refine ⟨by omega,by omega,fun k=>?_,fun k hk=>?_⟩
  · rcases Nat.lt_or_ge k ls.length with hk|hk
    · have L:=h k hk
      have s1:=sizes_le i m o k;have s2:=sizes_le i m o (k+1);refine ⟨by rw[L.rows];exact s2,fun a=>?_,by rw[L.bl];exact s2,fun a b=>?_,lq_get (fun q hq=>?_) oM⟩
      · rw[List.getD_eq_getElem?_getD]
        cases hh:(ls.getD k lay0).W[a]? with
        | none=>exact Nat.zero_le _
        | some r=>have:=(L.row r (List.mem_of_getElem? hh)).1;show r.length≤4;omega
      · have hr:∀ r,(ls.getD k lay0).W[a]?=some r→LQ 1 (r.getD b 0):=fun r hh=>lq_get (fun q hq=>by obtain ⟨z,rfl⟩:=(L.row r (List.mem_of_getElem? hh)).2 q hq;exact LQ.small z) oM b
        rw[List.getD_eq_getElem?_getD (l:=(ls.getD k lay0).W)];cases hh:(ls.getD k lay0).W[a]? with
        | none=>exact lq0 oM
        | some r=>exact hr r hh
      · obtain ⟨z,rfl⟩:=L.bs q hq;exact LQ.small z
    · rw[List.getD_eq_getElem?_getD,List.getElem?_eq_none hk]
      exact ⟨by decide,fun i=>by simp[lay0],by decide,fun i j=>by simp[lay0];exact lq0 oM,fun i=>by simp[lay0];exact lq0 oM⟩
  · have L:=h k hk
    have:=sizes_pos i m o (k+1) oM;exact ⟨by rw[L.rows];exact this,by rw[L.bl];exact this⟩
theorem getD_mem {α:Type}{l:List α}{i:Nat}{d:α}(h:i<l.length):l.getD i d∈l:=by
  rw[List.getD_eq_getElem?_getD,List.getElem?_eq_getElem h];exact List.getElem_mem h
theorem getD_over {α:Type}{l:List α}{i:Nat}{d:α}(h:l.length≤i):l.getD i d=d:=by
  rw[List.getD_eq_getElem?_getD,List.getElem?_eq_none h];rfl
theorem sizesq_len (ls:List Lay):(sizesq ls).length=ls.length+1:=by simp[sizesq]
theorem sign_bd' (z:Int) : -1≤z.sign∧z.sign≤1:=by
  rcases Int.lt_trichotomy z 0 with h|h|h
  · rw[Int.sign_eq_neg_one_of_neg h];decide
  · rw[h];decide
  · rw[Int.sign_eq_one_of_pos h];decide
theorem slp1 (u:Rat):slp 1 u=((1:Int):Rat):=by unfold slp;rw[if_pos rfl];rfl
theorem slp2 (u:Rat):slp 2 u=((max u.num.sign 0:Int):Rat):=by
  unfold slp
  rw[if_neg kD,if_pos rfl]
  by_cases h:0<u
  · rw[if_pos h,Int.sign_eq_one_of_pos (num_pos'.1 h)];rfl
  · have h2:¬0<u.num:=fun x=>h (num_pos'.2 x)
    have h3:max u.num.sign 0=0:=by
      rcases Int.lt_trichotomy u.num 0 with g|g|g
      · rw[Int.sign_eq_neg_one_of_neg g];decide
      · rw[g];decide
      · exact absurd g h2
    rw[if_neg h,h3];rfl
theorem slp3 (u:Rat):slp 3 u=(((1:Int):Rat)/(((1:Int):Rat)+qabs u))*(((1:Int):Rat)/(((1:Int):Rat)+qabs u)):=by unfold slp;rw[if_neg kD,if_neg kD]
theorem LQ.slp {m:Nat}{u:Rat}(k:Int)(h:LQ m u):LQ (2*m+6) (slp k u):=by
  unfold Go.Proofs.YticblaklfnadoaaGreatDoor.slp
  split
  · exact (LQ.lit (z:=1) kD).mono oM
  · split
    · split
      · exact (LQ.lit (z:=1) kD).mono oM
      · exact lq0 oM
    · have h1:LQ 1 (((1:Int):Rat)):=LQ.lit (z:=1) kD
      have h2:=h1.div (h1.add h.abs);exact (h2.mul h2).mono oM
def fitE (nx wx ny wy d0 dn:Nat):Int:=if 1≤nx∧nx≤300∧ny=nx∧wx=d0∧wy=dn then 0 else 5
theorem fitE0 {nx wx ny wy d0 dn:Nat}(h:1≤nx∧nx≤300∧ny=nx∧wx=d0∧wy=dn):fitE nx wx ny wy d0 dn=0:=if_pos h
theorem fitE5 {nx wx ny wy d0 dn:Nat}(h:¬(1≤nx∧nx≤300∧ny=nx∧wx=d0∧wy=dn)):fitE nx wx ny wy d0 dn=5:=if_neg h
noncomputable def netE (ls:List Lay)(nx wx ny wy:Nat):Int:=if chkq ls=0 then fitE nx wx ny wy (dOf ls 0) (dOf ls ls.length) else 1
theorem netE_0 {ls:List Lay}{nx wx ny wy:Nat}(h:chkq ls=0):netE ls nx wx ny wy=fitE nx wx ny wy (dOf ls 0) (dOf ls ls.length):=if_pos h
theorem netE_1 {ls:List Lay}{nx wx ny wy:Nat}(h:chkq ls≠0):netE ls nx wx ny wy=1:=if_neg h
theorem netE0 {ls:List Lay}{nx wx ny wy:Nat}(h:netE ls nx wx ny wy=0):chkq ls=0∧1≤nx∧ny=nx∧wx=dOf ls 0∧wy=dOf ls ls.length:=by
  by_cases c:chkq ls=0
  · rw[netE_0 c] at h
    by_cases g:1≤nx∧nx≤300∧ny=nx∧wx=dOf ls 0∧wy=dOf ls ls.length
    · exact ⟨c,g.1,g.2.2.1,g.2.2.2.1,g.2.2.2.2⟩
    · rw[fitE5 g] at h;exact absurd h kD
  · rw[netE_1 c] at h;exact absurd h kD
def rowloss (z y:List Rat):Nat→Rat
  | 0=>0
  | j+1=>rowloss z y j+(z.getD j 0-y.getD j 0)*(z.getD j 0-y.getD j 0)
def lossq (ls:List Lay)(xss yss:List (List Rat)):Nat→Rat
  | 0=>0
  | r+1=>lossq ls xss yss r+rowloss (outq ls (xss.getD r []) ls.length) (yss.getD r []) (outq ls (xss.getD r []) ls.length).length
theorem nSlp1 (u:Rat)(w:World)(h:Hp)(g:G w h):CV 186 #[iV 1,qv u] w h (qv ((1:Int):Rat)):=by
 have hs:=sS g;refine go Tryz.func186 [(0,iV 1),(1,qv u)] rfl (cSL (lA 3 73 (qc u) hs (fun b1 w2 h3 hs=>lA 4 73 ([.bool false,uV 0,eS,uV 0,eS]) hs (fun b4 w5 h6 hs=>lN (cQ (cSL (lL hs [.m 7 0] (lN (kZ (cSL (lL hs [.v 9 (.bool false),.m 8 9] (lN (cIF (cSL (lL hs [.v 15 (.bool false),.m 14 15] (lN (cIF (cK (cSL (lC 28 hs (fOf 1 oM oM _ _ hs.g) ?_))))))))))))))))))));rintro _ w7 h8 hs rfl;exact lP 0 0 (qc ((1:Int):Rat)) hs (fun w9 hs=>lN (kX (hs.ret [(0,0,5)] (qv ((1:Int):Rat)) rfl)))
theorem nSlp2 (u:Rat)(hu:LQ 45000000 u)(w:World)(h:Hp)(g:G w h):CV 186 #[iV 2,qv u] w h (qv ((max u.num.sign 0:Int):Rat)):=by
 have hs:=sS g;have hsg:=sign_bd' u.num;refine go Tryz.func186 [(0,iV 2),(1,qv u)] rfl (cSL (lA 3 73 (qc u) hs (fun b1 w2 h3 hs=>lA 4 73 ([.bool false,uV 0,eS,uV 0,eS]) hs (fun b4 w5 h6 hs=>lN (cQ (cSL (lL hs [.m 7 0] (lN (kZ (cSL (lL hs [.v 9 (.bool true),.m 8 9] (lN (cIT (cSL (lL hs [.o 10 (qv u) 1 0 5] (lC 11 hs (fSign u (LQ.mono hu oM) _ _ hs.g) ?_))))))))))))))));rintro _ w7 h8 hs rfl;refine lV 12 (iV (max (u.num.sign:Int) (0:Int))) ?_ (hr:=rint (n:=(if (0:Int)>(u.num.sign:Int) then (0:Int) else (u.num.sign:Int))) kR (by simp only[imax2]));have hq9:LQ (1) (((max (u.num.sign:Int) (0:Int):Int):Rat)):=LQ.int oM oM;refine lC 13 hs (fOf (max (u.num.sign:Int) (0:Int)) oM oM _ _ hs.g) ?_;rintro _ w10 h11 hs rfl;exact lP 0 0 (qc ((max (u.num.sign:Int) (0:Int):Int):Rat)) hs (fun w12 hs=>lN (kX (hs.ret [(0,0,5)] (qv ((max (u.num.sign:Int) (0:Int):Int):Rat)) rfl)))
theorem nSlp3 (u:Rat)(hu:LQ 45000000 u)(w:World)(h:Hp)(g:G w h)(tb:Tab h):CV 186 #[iV 3,qv u] w h (qv ((((1:Int):Rat)/(((1:Int):Rat)+qabs u))*(((1:Int):Rat)/(((1:Int):Rat)+qabs u)))):=by
 have hs:=((sS g).aB tb);refine go Tryz.func186 [(0,iV 3),(1,qv u)] rfl (cSL (lA 3 73 (qc u) hs (fun b1 w2 h3 hs=>lA 4 73 ([.bool false,uV 0,eS,uV 0,eS]) hs (fun b4 w5 h6 hs=>lN (cQ (cSL (lL hs [.m 7 0] (lN (kZ (cSL (lL hs [.v 9 (.bool false),.m 8 9] (lN (cIF (cSL (lL hs [.v 15 (.bool true),.m 14 15] (lN (cIT (cQ ?_))))))))))))))))));have hsr:=hs;refine cR 10 [⟨9,5,.cells (List.toArray [.bool false,uV 0,eS,uV 0,eS]) 73 (0,0)⟩] mixed hs (al_cons (alOk kR (fun _ _=>by kernel_rfl)) al_nil) (eO 2 19 [(1,0,5)] (qv u) hs (eC 0 17 hs (fun _ _ hs=>fOf 1 oM oM _ _ hs.g) ?_));rintro _ _ _ w7 h8 hs rfl;refine eC 1 18 hs (fun _ _ hs=>fOf 1 oM oM _ _ hs.g) ?_;rintro _ _ _ w9 h10 hs rfl;have hq11:LQ (45000000) (qabs u):=LQ.abs hu;refine eC 3 20 hs (fun _ _ hs=>fAbs u (LQ.mono hu oM) _ _ hs.g) ?_;rintro _ _ _ w12 h13 hs rfl;have hq14:=LQ.add (LQ.lit (z:=1) kD) hq11;refine eC 4 21 hs (fun _ _ hs=>fAdd ((1:Int):Rat) (qabs u) (LQ.mono (LQ.lit (z:=1) kD) oM) (LQ.mono hq11 oM) _ _ hs.g hs.f.1) ?_;rintro _ _ _ w15 h16 hs rfl;have hq17:=LQ.div (LQ.lit (z:=1) kD) hq14;refine eC 5 22 hs (fun _ _ hs=>fDivN ((1:Int):Rat) (((1:Int):Rat)+(qabs u)) (LQ.mono (LQ.lit (z:=1) kD) oM) (LQ.mono hq14 oM) (one_abs_ne u) _ _ hs.g hs.f.1) ?_;rintro _ _ _ w18 h19 hs rfl;refine eV 6 16 (.tuple #[qv (((1:Int):Rat)/(((1:Int):Rat)+(qabs u))),.bool true]) (eV 7 23 (qv (((1:Int):Rat)/(((1:Int):Rat)+(qabs u)))) (eV 8 24 (.bool true) (eD1p [] hsr hs 73 [.bool false,uV 0,eS,uV 0,eS] (fun w20 h21 b22 hs=>tP 10 0 0 (qc (((1:Int):Rat)/(((1:Int):Rat)+(qabs u)))) hs (fun w23 hs=>tV 11 6 (.bool true) (tNS (lL hs [.o 25 (qv (((1:Int):Rat)/(((1:Int):Rat)+(qabs u)))) 0 0 5,.o 26 (qv (((1:Int):Rat)/(((1:Int):Rat)+(qabs u)))) 0 0 5] ?_)))))));have hq24:=LQ.mul hq17 hq17;refine lC 27 hs (fMul (((1:Int):Rat)/(((1:Int):Rat)+(qabs u))) (((1:Int):Rat)/(((1:Int):Rat)+(qabs u))) (LQ.mono hq17 oM) (LQ.mono hq17 oM) _ _ hs.g hs.f.1) ?_;rintro _ w25 h26 hs rfl;exact lP 1 0 (qc ((((1:Int):Rat)/(((1:Int):Rat)+(qabs u)))*(((1:Int):Rat)/(((1:Int):Rat)+(qabs u))))) hs (fun w27 hs=>lN (kX (hs.ret [(1,0,5)] (qv ((((1:Int):Rat)/(((1:Int):Rat)+(qabs u)))*(((1:Int):Rat)/(((1:Int):Rat)+(qabs u))))) rfl)))
theorem nSlope (k:Int)(hk:k=1∨k=2∨k=3)(u:Rat)(hu:LQ 45000000 u)(w:World)(h:Hp)(g:G w h)(tb:Tab h):CV 186 #[iV k,qv u] w h (qv (slp k u)):=by
  rcases hk with rfl|rfl|rfl
  · rw[slp1];exact nSlp1 u w h g
  · rw[slp2];exact nSlp2 u hu w h g
  · rw[slp3];exact nSlp3 u hu w h g tb
theorem nSuits (A:Option Addr)(cap:Nat)(ts:List LV)(ls:List Lay)(d:Nat→Nat)(hO:Net3 ls d)(X:Option Addr)(c0:Nat)(xs:List Rat)(w:World)(h:Hp)(g:G w h)(hA:Sl A ts h)(hN:NetL h ts ls)(hX:Sq X xs h):CV 79 #[.agg #[.slice A ts.length cap],.slice X xs.length c0] w h (.bool (decide (xs.length=d 0))):=by
  by_cases e:xs.length=d 0
  · rw[decide_eq_true e];exact nSuitsT A cap ts ls d hO X c0 xs e w h g hA hN hX
  · rw[decide_eq_false e];exact nSuitsF A cap ts ls d hO X c0 xs e w h g hA hN hX
theorem nFits (A:Option Addr)(cap:Nat)(ts:List LV)(ls:List Lay)(d:Nat→Nat)(hO:Net3 ls d)(X:Option Addr)(cX:Nat)(ux:List Value)(xss:List (List Rat))(Y:Option Addr)(cY:Nat)(uy:List Value)(yss:List (List Rat))(wx wy:Nat)(hxw:∀ i,i<xss.length→(xss.getD i []).length=wx)(hyw:∀ i,i<yss.length→(yss.getD i []).length=wy)(w:World)(h:Hp)(g:G w h)(hA:Sl A ts h)(hN:NetL h ts ls)(hX:Sv X ux h)(hU:QVs h ux xss)(hY:Sv Y uy h)(hV:QVs h uy yss):CV 114 #[.agg #[.slice A ts.length cap],.slice X ux.length cX,.slice Y uy.length cY] w h (iV (fitE xss.length wx yss.length wy (d 0) (d ls.length))):=by
 have hs:=(((((((sS g).aS hA).aN hN).aS hX).aQ hU).aS hY).aQ hV);have hl:=(hs.f.q.1).len;obtain ⟨o1,o2⟩:=hO.len;have o3:=hO.first;have hux:=(hs.f.r.1).len;have huy:=(hs.f.1).len;refine go Tryz.func114 [(0,.agg #[.slice A ts.length cap]),(1,.slice X ux.length cX),(2,.slice Y uy.length cY)] rfl (cSL (lA 3 28 ([.slice A ts.length cap]) hs (fun b1 w2 h3 hs=>lL hs [.v 6 (iV 0)] (lN (cQ (cSL (lL hs [.m 9 1,.v 10 (nV ux.length)] ?_)))))));cases hb4:(decide ((ux.length:Int)<(1:Int)))
 ·
  have phb4:=oF hb4;refine lB 11 hb4 (lL hs [.m 12 11,.m 13 1,.v 14 (nV ux.length)] ?_);cases hb5:(decide ((300:Int)<(ux.length:Int)))
  ·
   have phb5:=oF hb5;refine lB 15 hb5 (lL hs [.v 16 (.bool false),.m 17 16,.m 18 2,.v 19 (nV uy.length),.m 20 1,.v 21 (nV ux.length)] ?_);cases hb6:((uy.length:Int) != (ux.length:Int))
   ·
    have phb6:=eqOfBne hb6;refine lB 22 hb6 (lL hs [.v 23 (.bool false)] (lN (cIF (cK (cSL (lL hs [.v 24 (pB b1),.o 25 (.slice A ts.length cap) 0 0 1,.v 26 (pB b1),.o 27 (.slice A ts.length cap) 0 0 1,.v 28 (nV ts.length)] (lIn 29 ((ts.length:Nat)-1) (ts.length-1) ?_)))))));refine lX 30 A ts.length cap 3 (ts.length-1:Nat) (ts.length-1) ((hs.f.q.2.1).ok oM) (lL hs [.v 31 (.pointer (some ⟨(aB A),aO A+(ts.length-1)*3+1,none⟩))] ?_);obtain ⟨ekz,⟨AWz,cWz,usz,eWz,hcWz,hAWz,hUz⟩,⟨ABz,cBz,eBz,hcBz,hABz⟩⟩:=(hs.f.q.1).at_ (ts.length-1) oM;obtain ⟨mtz,lbz,r12z,kdz⟩:=hO.lay (ts.length-1) oM;have luz:=hUz.len;have mrz:=mtz.rows;have mpz:=mtz.rpos;have mcz:=mtz.cpos;have m0z:=mtz.row 0 oM;replace hs:=(((hs.aS hAWz).aQ hUz).aS hABz);refine lHe 32 ((ts.getD (ts.length-1) lvd).2.1) hs (((hs.f.q.q.1).el (ts.length-1) oM).part 1 1) eWz ?_;have hdl:d (ts.length-1+1)=d ls.length:=by rw[show ts.length-1+1=ls.length by omega]
    refine lL hs [.v 33 (nV usz.length),.m 7 33] (lN (cQ (cSL (lL hs [.m 34 1,.v 35 (nV ux.length),.v 36 (iV 0)] (lN (kZ ?_))))));refine cTo _ (CG.loop (fun μ_ Γ w_=>∃ (r:Nat) (h_:Hp),μ_=xss.length-r∧Γ=[(1,.slice X ux.length cX),(2,.slice Y uy.length cY),(3,pB b1),(7,nV usz.length),(35,nV ux.length),(36,nV r)]∧SS w h w_ h_ [⟨b1,28,[.slice A ts.length cap]⟩] [] [Sq ABz (ls.getD (ts.length-1) lay0).B,Qu usz (ls.getD (ts.length-1) lay0).W,Sv AWz usz,Qu uy yss,Sv Y uy,Qu ux xss,Sv X ux,Nn ts ls,Sl A ts]∧r≤xss.length∧(0<r→wx=d 0∧wy=d ls.length)) _ ⟨0,h3,rfl,rfl,hs.to _ _,Nat.zero_le _,fun h0=>absurd h0 (Nat.lt_irrefl 0)⟩ ?_);rintro _ _ w7 ⟨r,h8,hm9,rfl,hs,hr,hok⟩;refine cSL ?_;cases hb10:(decide ((r:Int)<(ux.length:Int)))
    ·
     have phb10:=oF hb10;refine lB 37 hb10 (lN (cQ (cIF (CG.exit ?_))))
     show CG _ _ _ _ _ _ _ _
     exact cSL (lL hs [.v 6 (iV 0)] (lN (kX (hs.ret [] (iV 0) (by rw[fitE0 oM])))))
    have phb10:=oT hb10;refine lB 37 hb10 (lN (cQ (cIT (cK (cQ (kZ (cSL (lL hs [.m 38 36,.m 8 38] (lN (cQ (cR 16 [] mixed hs al_nil ?_)))))))))));have hxl:=hxw r oM;have hyl:=hyw r oM;refine eO 0 39 [(0,0,1)] (.agg #[.slice A ts.length cap]) hs (eV 1 40 (.slice X ux.length cX) (eV 2 41 (nV r) (eX 3 42 X ux.length cX 1 (r:Nat) r ((hs.f.q.r.1).ok oM) ?_)));obtain ⟨Aqx,cqx,eqx,hcqx,hRqx⟩:=(hs.f.q.2.1).at_ r oM;replace hs:=hs.aS hRqx;refine eHe 4 43 (ux.getD r undef) hs ((hs.f.q.r.2.1).el r oM) eqx (eC 5 44 hs (fun _ _ hs=>nSuits A cap ts ls d hO Aqx cqx (xss.getD r []) _ _ hs.g hs.f.q.q.2.1 hs.f.q.q.1 hs.f.1) ?_);rintro _ _ _ w11 h12 hs rfl;cases hb13:(decide ((xss.getD r []).length=d 0))
    ·
     have phb13:=oF hb13;exact eV 6 45 (.bool true) (eV 7 46 (.bool true) (eG 8 47 (eG 9 48 (eG 10 49 (eG 11 50 (eG 12 51 (eG 13 52 (eG 14 53 (eV 15 54 (.bool true) (eD0 hs (fun w14 h15 hs=>tN (cIT (cSL (lL hs [.v 6 (iV 5)] (lN (kX (hs.ret [] (iV 5) (by rw[fitE5 oM]))))))))))))))))))
    have phb13:=oT hb13;refine eV 6 45 (.bool false) (eV 7 46 (.bool false) (eV 8 47 (.slice Y uy.length cY) (eV 9 48 (nV r) (eX 10 49 Y uy.length cY 1 (r:Nat) r ((hs.f.q.2.1).ok oM) ?_))));obtain ⟨Aqy,cqy,eqy,hcqy,hRqy⟩:=(hs.f.q.1).at_ r oM;replace hs:=hs.aS hRqy;refine eHe 11 50 (uy.getD r undef) hs ((hs.f.q.r.1).el r oM) eqy (eV 12 51 (nV ((yss.getD r []).length)) (eV 13 52 (nV usz.length) ?_));cases hb16:((((yss.getD r []).length:Nat):Int) != (usz.length:Int))
    ·
     have phb16:=eqOfBne hb16;refine eB 14 53 hb16 (eV 15 54 (.bool false) (eD0 hs (fun w17 h18 hs=>tN (cIF (cK (kQ (lIn 55 ((r:Nat)+1) (r+1) ?_)))))));refine lL hs [.m 36 55] (lD ?_);intro a_ ka;replace hs:=hs.tl.tl;refine ⟨_,_,?_,⟨r+1,h18,rfl,rfl,hs.to _ _,oM,(fun _=>by omega)⟩,ka.to _ kR⟩
     omega
    have phb16:=neOfBne hb16;exact eB 14 53 hb16 (eV 15 54 (.bool true) (eD0 hs (fun w21 h22 hs=>tN (cIT (cSL (lL hs [.v 6 (iV 5)] (lN (kX (hs.ret [] (iV 5) (by rw[fitE5 oM]))))))))))
   have phb6:=neOfBne hb6;exact lB 22 hb6 (lL hs [.v 23 (.bool true)] (lN (cIT (cSL (lL hs [.v 6 (iV 5)] (lN (kX (hs.ret [] (iV 5) (by rw[fitE5 oM])))))))))
  have phb5:=oT hb5;refine lB 15 hb5 (lL hs [.v 16 (.bool true),.m 17 16] (lG 18 ?_));exact lG 19 (lG 20 (lG 21 (lG 22 (lL hs [.v 23 (.bool true)] (lN (cIT (cSL (lL hs [.v 6 (iV 5)] (lN (kX (hs.ret [] (iV 5) (by rw[fitE5 oM]))))))))))))
 have phb4:=oT hb4;refine lB 11 hb4 (lL hs [.m 12 11] (lG 13 ?_));refine lG 14 (lG 15 (lL hs [.v 16 (.bool true),.m 17 16] (lG 18 ?_)));exact lG 19 (lG 20 (lG 21 (lG 22 (lL hs [.v 23 (.bool true)] (lN (cIT (cSL (lL hs [.v 6 (iV 5)] (lN (kX (hs.ret [] (iV 5) (by rw[fitE5 oM]))))))))))))
end Go.Proofs.YticblaklfnadoaaGreatDoor
